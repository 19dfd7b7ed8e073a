/-
  The program's functions as trees in plain Lean, part 0: printed by a program of ours.
-/
import Derived.Test.YtjklmealdnfhfaaGreatDoorAmA
set_option linter.unusedVariables false
open Decidable renaming decide -> B
open Go.AM.T renaming ret -> E, bind -> X, ite -> V, loop -> zJ
open Int renaming toNat -> zE, tmod -> zP, tdiv -> zQ
open Sum renaming inr -> zF, inl -> zG, elim -> zK
open List renaming drop -> zH, take -> zI, set -> zL, replicate -> zM, length -> zO
open Nat renaming cast -> zN
noncomputable section
namespace Go.AM.Lf
abbrev jv:Ty:=(.cons .str .nil)
abbrev gG:=den jv
abbrev ob:Ty:=(.cons .str (.cons (.int .u64) .nil))
abbrev Gl:=den ob
abbrev qs:Ty:=(.cons .str (.cons .bool .nil))
abbrev Switch:=den qs
abbrev xp:Ty:=(.cons .str jv)
abbrev eQ:=den xp
abbrev um:Ty:=(.cons (.int .i64) (.cons (.int .i64) .nil))
abbrev xh:=den um
abbrev si:Ty:=(.cons (.int .u8) (.cons (.int .u8) .nil))
abbrev Hm:=den si
abbrev yp:Ty:=(.cons (.sl .str) (.cons (.sl .str) .nil))
abbrev uG:=den yp
abbrev xv:Ty:=(.cons (.int .i64) (.cons (.sl .str) jv))
abbrev Answer:=den xv
abbrev Qy:Ty:=(.cons (.int .i64) (.cons (.int .i64) (.cons .bool (.cons (.int .u8) .nil))))
abbrev I3:=den Qy
abbrev zl:Ty:=(.cons .bool (.cons (.sl (.int .u32)) (.cons (.sl (.int .u32)) .nil)))
abbrev Rat:=den zl
abbrev qw:Ty:=(.cons .str (.cons (.int .i64) (.cons .bool (.cons (.int .i64) .nil))))
abbrev Field:=den qw
abbrev xk:Ty:=(.cons .str (.cons (.int .i64) (.cons (.int .i64) (.cons .bool .nil))))
abbrev zc:=den xk
abbrev xm:Ty:=(.cons .str (.cons (.int .i64) (.cons .str (.cons .expr (.cons .expr .nil)))))
abbrev eb:=den xm
abbrev xj:Ty:=(.cons .str (.cons (.int .i64) (.cons (.int .i64) (.cons .expr (.cons .expr .nil)))))
abbrev Check:=den xj
abbrev WG:Ty:=(.cons .str (.cons yp (.cons (.int .i64) (.cons .bool .nil))))
abbrev Ea:=den WG
abbrev qg:Ty:=(.cons .str (.cons zl .nil))
abbrev Param:=den qg
abbrev qj:Ty:=(.cons (.int .i64) (.cons zl .nil))
abbrev Term:=den qj
abbrev cq:Ty:=(.cons (.int .i64) (.cons .str (.cons zl (.cons .bool .nil))))
abbrev Op:=den cq
abbrev zm:Ty:=(.cons .bool (.cons .bool (.cons zl .nil)))
abbrev qk:=den zm
abbrev uX:Ty:=(.cons (.sl (.int .i64)) (.cons (.sl zl) .nil))
abbrev j9:=den uX
abbrev wK:Ty:=(.cons (.sl .str) (.cons (.sl .str) (.cons (.sl zl) .nil)))
abbrev wm:=den wK
abbrev zr:Ty:=(.cons (.int .i64) (.cons (.sl qj) (.cons zl .nil)))
abbrev vI:=den zr
abbrev Hk:Ty:=(.cons (.sl zr) (.cons (.sl (.int .i64)) .nil))
abbrev z9q:=den Hk
abbrev XB:Ty:=(.cons (.sl zr) (.cons (.sl (.int .i64)) (.cons (.sl (.int .i64)) .nil)))
abbrev z5m:=den XB
abbrev qy:Ty:=(.cons (.sl qs) (.cons (.sl qg) (.cons (.sl xp) (.cons (.sl qw) (.cons (.sl xm) (.cons (.sl xj) .nil))))))
abbrev Form:=den qy
abbrev xf:Ty:=(.cons (.sl zl) (.cons (.sl .bool) (.cons (.sl zl) (.cons (.sl (.int .i64)) (.cons (.sl zm) (.cons (.sl .bool) .nil))))))
abbrev qe:=den xf
abbrev uy:Ty:=(.cons qy XB)
abbrev uk:=den uy
abbrev qm:Ty:=(.cons qy (.cons xf (.cons yp (.cons (.int .i64) (.cons .bool .nil)))))
abbrev zn:=den qm
abbrev qc:=List Switch
abbrev z7:=List Int
abbrev qh:=List Param
abbrev xc:=List eQ
abbrev qp:=List Field
abbrev zp:=List zx
abbrev cX:=List AM.Expr
abbrev xa:=List eb
abbrev qq:=List Check
abbrev zt:=List Rat
abbrev zq:=List Bool
abbrev wB:=List Term
abbrev zy:=List vI
abbrev zo:=List qk
abbrev Ju:=List Op
abbrev gw:=List Answer
def cx(a:Int):T Bool :=
 E ((B (97<=a))&&(B (a<=122)))
def ke(a:Int):T Bool :=
 E ((B (48<=a))&&(B (a<=57)))
def bW(a:Int):T Bool :=
 X (cx a) λb =>
 V b
  (E true)
  (X (ke a) λc =>
 V c
  (E true)
  (E (a==95)))
def ZE(b:zx)(d:Int):Int->T (Int⊕(Unit⊕Bool))
 | a =>
 V (B (a<d))
  (oI a b <|
 X (bW (ur b a)) λc =>
 V (!c)
  (E (zF (zF false)))
  (E (zG (qo (a+1)))))
  (E (zF (zG ())))
def ZC s1 x1 s:=zJ (ZE s1 x1) s
def uQ(a:zx):T Bool :=
 X (V (wG a [])
  (E true)
  (V (B (24<(a.length:Int)))
  (E true)
  (oI 0 a <|
 X (cx (ur a 0)) λb =>
 E (!b))):T Bool) λc =>
 V c
  (E false)
  (X (ZC a (a.length:Int) 0) <|
 zK (λ_ =>
 E true)
  (λd =>
 E d))
def yN(b:Switch):T Bool :=
 X (uQ b.1) λa =>
 E (!a)
def wY(b:qc)(d:Switch->T Bool)(e:Int):Int->T (Int⊕(Unit⊕Int))
 | a =>
 V (B (a<e))
  (oI a b <|
 X (d (nth b a (zb qs))) λc =>
 V c
  (E (zF (zF a)))
  (E (zG (qo (a+1)))))
  (E (zF (zG ())))
def nA s1 f x s:=zJ (wY s1 f x) s
def wb(a:qc)(c:Switch->T Bool):T Int :=
 X (nA a c (a.length:Int) 0) <|
 zK (λ_ =>
 E (-1))
  (λb =>
 E b)
def vE(b:qc)(c:Switch->T Bool):T Bool :=
 X (wb b c) λa =>
 E (B (0<=a))
def ZR(a:z7):T Bool :=
 .W ((((a.length:Int)==0)=false)->(xe (qo ((a.length:Int)-1)) a.length)) <|
 E (((a.length:Int)==0)||((nth a (qo ((a.length:Int)-1)) (zb (.int .u32))) != 0))
def sQ  : z7->T (z7⊕z7)
 | a =>
 X (ZR a) λb =>
 V (!b)
  (.W (jA 0 (qo ((a.length:Int)-1)) a.length) <|
 E (zG (jI (e:=(.int .u32)) 0 (qo ((a.length:Int)-1)) a)))
  (E (zF a))
def Xj(s:z7):T z7:=zJ (sQ ) s
def vY(b:z7):T z7 :=
 X (Xj  b) λa =>
 E a
def yf(a:z7):T z7 :=
 let b:=0+a.length;  .W (a=[]->∀ r,T.leads (.W (vV 0 0 0 0 0 a.length 4) <|
 .W (b=b) <|
 E (zH 0 (zI (0+b) a)):T _) r->T.leads (E []:T _) r) <|
 .W (vV 0 0 0 0 0 a.length 4) <|
 .W (b=b) <|
 E (zH 0 (zI (0+b) a))
def iG(c:z7):T z7 :=
 X (vY c) λa =>
 X (yf a) λb =>
 E b
def rI(b:z7)(c:z7):Int->T (Int⊕(Unit⊕Int))
 | a =>
 V (B (0<=a))
  (oI a b <|
 oI a c <|
 V ((nth b a (zb (.int .u32))) != (nth c a (zb (.int .u32))))
  (oI a b <|
 oI a c <|
 V (B ((nth b a (zb (.int .u32)))<(nth c a (zb (.int .u32)))))
  (E (zF (zF (-1))))
  (E (zF (zF 1))))
  (E (zG (qo (a-1)))))
  (E (zF (zG ())))
def YW a2 b2 s:=zJ (rI a2 b2) s
def sO(d:z7)(e:z7):T Int :=
 X (vY d) λa =>
 X (vY e) λb =>
 V ((a.length:Int) != (b.length:Int))
  (V (B ((a.length:Int)<(b.length:Int)))
  (E (-1))
  (E 1))
  (X (YW a b (qo ((a.length:Int)-1))) <|
 zK (λ_ =>
 E 0)
  (λc =>
 E c))
def eM(b:Int)(c:Int)(a:Int):T (Int×Int) :=
 V ((a != 0)&&(B (a<=b)))
  (.fail)
  (.W (0<=(32:Int)) <|
 .W ((wk a)≠0) <|
 .W ((wk a)≠0) <|
 E ((gP (wk (zQ (Hc .u64 (Zb .u64 (wk b) 32) (wk c)) (wk a)))),(gP (zP (Hc .u64 (Zb .u64 (wk b) 32) (wk c)) (wk a)))))
def oH(e:z7)(g:Int):(Int×Int×z7)->T ((Int×Int×z7)⊕((Int×z7)))
 | (d,b,a) =>
 V (B (0<=b))
  (oI b e <|
 X (eM d (nth e b (zb (.int .u32))) g) λ(c,f) =>
 oI b a <|
 .W (uO a.length a.length (0+(zE b)) a.length) <|
 oM a.length (zL a (0+(zE b)) c).length <|
 E (zG (f,((qo (b-1)),(zL a (0+(zE b)) c)))))
  (oC a <|
 U a <|
 E (zF (d,a)))
def Um a1 b1 s:=zJ (oH a1 b1) s
def pn(a:z7)(e:Int):T (z7×Int) :=
 .W (eF (a.length:Int) (a.length:Int) 4) <|
 oM (zE (a.length:Int)) (zM (zE (a.length:Int)) (0:Int)).length <|
 X (Um a e (0,((qo ((a.length:Int)-1)),(zM (zE (a.length:Int)) 0)))) λ(c,b) =>
 U b <|
 X (vY (zH 0 (zI (0+b.length) b))) λd =>
 E (d,c)
def iB(a:Int):T z7 :=
 .W (0<=(32:Int)) <|
 X (vY ([(gP a),(gP (jk .u64 a 32))]:List Int)) λb =>
 E b
def eN(b:Int):T Int :=
 let a:=bif (B (65536<=b))then(jk .u32 b 16)else b;  .W (((B (65536<=b))=true)->(0<=(16:Int))) <|
 .W (((B (256<=a))=true)->(0<=(8:Int))) <|
 .W (xe (wu8 (bif (B (256<=a))then(jk .u32 a 8)else a)) ([0,1,2,2,3,3,3,3,4,4,4,4,4,4,4,4,5,5,5,5,5,5,5,5,5,5,5,5,5,5,5,5,6,6,6,6,6,6,6,6,6,6,6,6,6,6,6,6,6,6,6,6,6,6,6,6,6,6,6,6,6,6,6,6,7,7,7,7,7,7,7,7,7,7,7,7,7,7,7,7,7,7,7,7,7,7,7,7,7,7,7,7,7,7,7,7,7,7,7,7,7,7,7,7,7,7,7,7,7,7,7,7,7,7,7,7,7,7,7,7,7,7,7,7,7,7,7,7,8,8,8,8,8,8,8,8,8,8,8,8,8,8,8,8,8,8,8,8,8,8,8,8,8,8,8,8,8,8,8,8,8,8,8,8,8,8,8,8,8,8,8,8,8,8,8,8,8,8,8,8,8,8,8,8,8,8,8,8,8,8,8,8,8,8,8,8,8,8,8,8,8,8,8,8,8,8,8,8,8,8,8,8,8,8,8,8,8,8,8,8,8,8,8,8,8,8,8,8,8,8,8,8,8,8,8,8,8,8,8,8,8,8,8,8,8,8,8,8,8,8,8,8,8,8,8,8]:zx).length) <|
 E (qo ((bif (B (256<=a))then(qo ((bif (B (65536<=b))then 16 else 0)+8))else(bif (B (65536<=b))then 16 else 0))+(qo (ur [0,1,2,2,3,3,3,3,4,4,4,4,4,4,4,4,5,5,5,5,5,5,5,5,5,5,5,5,5,5,5,5,6,6,6,6,6,6,6,6,6,6,6,6,6,6,6,6,6,6,6,6,6,6,6,6,6,6,6,6,6,6,6,6,7,7,7,7,7,7,7,7,7,7,7,7,7,7,7,7,7,7,7,7,7,7,7,7,7,7,7,7,7,7,7,7,7,7,7,7,7,7,7,7,7,7,7,7,7,7,7,7,7,7,7,7,7,7,7,7,7,7,7,7,7,7,7,7,8,8,8,8,8,8,8,8,8,8,8,8,8,8,8,8,8,8,8,8,8,8,8,8,8,8,8,8,8,8,8,8,8,8,8,8,8,8,8,8,8,8,8,8,8,8,8,8,8,8,8,8,8,8,8,8,8,8,8,8,8,8,8,8,8,8,8,8,8,8,8,8,8,8,8,8,8,8,8,8,8,8,8,8,8,8,8,8,8,8,8,8,8,8,8,8,8,8,8,8,8,8,8,8,8,8,8,8,8,8,8,8,8,8,8,8,8,8,8,8,8,8,8,8,8,8,8,8] (wu8 (bif (B (256<=a))then(jk .u32 a 8)else a))))))
def kg(b:Int):T Int :=
 X (eN b) λa =>
 E (qo (32-a))
def Wz(e:Int)(h:Int)(f:z7)(i:Int):(Int×z7)->T ((Int×z7)⊕z7)
 | (b,a)=>let c:=qo (b+1); let d:=zL a (0+(zE b)) (Hc .u32 (wh a (0+(zE b)) (zb (.int .u32))) (gP (Zb .u64 (wk (nth f b (zb (.int .u32)))) e))); let g:=zL d (0+(zE c)) (gP (jk .u64 (Zb .u64 (wk (nth f b (zb (.int .u32)))) e) 32));
 V (B (b<i))
  (oI b f <|
 .W (0<=e) <|
 oI b a <|
 .W (uO a.length a.length (0+(zE b)) a.length) <|
 oI b a <|
 .W (uO a.length a.length (0+(zE b)) a.length) <|
 V (B (c<h))
  (.W (0<=(32:Int)) <|
 oI c a <|
 .W (uO a.length a.length (0+(zE c)) d.length) <|
 oM a.length g.length <|
 E (zG (c,g)))
  (oM a.length d.length <|
 E (zG (c,d))))
  (oC a <|
 U a <|
 E (zF a))
def Wy by_1 n1 x x1 s:=zJ (Wz by_1 n1 x x1) s
def rK(c:z7)(d:Int)(a:Int):T z7 :=
 .W (eF a a 4) <|
 oM (zE a) (zM (zE a) (0:Int)).length <|
 X (Wy d a c (c.length:Int) (0,(zM (zE a) 0))) λb =>
 oC b <|
 U b <|
 E b
def iH(d:Int)(c:Int)(e:Int):(Int×Int)->T ((Int×Int)⊕Int)
 | (a,b) =>
 .W ((0<=(32:Int))/\((((jk .u64 a 32) != 0)=false)->(0<=(32:Int)))) <|
 V (((jk .u64 a 32) != 0)||(B ((Hc .u64 (Zb .u64 b 32) (wk d))<(wk (a*(wk e))))))
  (.W (0<=(32:Int)) <|
 V ((jk .u64 (wk (b+(wk c))) 32) != 0)
  (E (zF (wk (a-1))))
  (E (zG ((wk (a-1)),(wk (b+(wk c)))))))
  (E (zF a))
def Uj low1 b11 b21 s:=zJ (iH low1 b11 b21) s
def pj(b:Int)(c:Int)(e:Int)(a:Int)(f:Int):T Int :=
 .W (0<=(32:Int)) <|
 .W ((wk a)≠0) <|
 .W ((wk a)≠0) <|
 X (Uj e a f ((wk (zQ (Hc .u64 (Zb .u64 (wk b) 32) (wk c)) (wk a))),(zP (Hc .u64 (Zb .u64 (wk b) 32) (wk c)) (wk a)))) λd =>
 E d
def kV(a:Int)(b:Int)(c:Int):T (Int×Int) :=
 .W (0<=(31:Int)) <|
 E ((gP ((gP (a-b))-c)),(jk .u32 (Hc .u32 (GR .u32 (M7 .u32 4294967295 a) b) (GR .u32 (M7 .u32 4294967295 (M7 .u32 a b)) (gP ((gP (a-b))-c)))) 31))
def eL(a:Int)(b:Int)(c:Int):T (Int×Int) :=
 .W (0<=(32:Int)) <|
 E ((gP (wk ((wk ((wk a)+(wk b)))+(wk c)))),(gP (jk .u64 (wk ((wk ((wk a)+(wk b)))+(wk c))) 32)))
def iI(l:z7)(i:Int)(f:z7)(k:Int):((Nat×Nat)×Int×Int×Int×z7)->T (((Nat×Nat)×Int×Int×Int×z7)⊕(((Nat×Nat)×Int×Int×z7)))
 | (c,e,h,b,a)=>let d:=c.1+(zE b);
 V (B (b<k))
  (oI b f <|
 .W (xe b c.2) <|
 .W (uO a.length a.length d a.length) <|
 X (kV (wh a d (zb (.int .u32))) (gP (wk (e+(wk (i*(wk (nth f b (zb (.int .u32))))))))) h) λ(g,j) =>
 .W (xe b c.2) <|
 .W (uO a.length a.length d a.length) <|
 .W (0<=(32:Int)) <|
 U a <|
 .W (a.length=(zL a d g).length) <|
 E (zG (c,((jk .u64 (wk (e+(wk (i*(wk (nth f b (zb (.int .u32)))))))) 32),(j,((qo (b+1)),(zL a d g)))))))
  (U a <|
 U a <|
 E (zF (c,(e,(h,a)))))
def Xh b1 q1 x x1 s:=zJ (iI b1 q1 x x1) s
def iJ(j:z7)(g:z7)(i:Int):((Nat×Nat)×Int×Int×z7)->T (((Nat×Nat)×Int×Int×z7)⊕(((Nat×Nat)×Int×z7)))
 | (c,f,b,a)=>let d:=c.1+(zE b);
 V (B (b<i))
  (oI b g <|
 .W (xe b c.2) <|
 .W (uO a.length a.length d a.length) <|
 X (eL (wh a d (zb (.int .u32))) (nth g b (zb (.int .u32))) f) λ(e,h) =>
 .W (xe b c.2) <|
 .W (uO a.length a.length d a.length) <|
 U a <|
 .W (a.length=(zL a d e).length) <|
 E (zG (c,(h,((qo (b+1)),(zL a d e))))))
  (U a <|
 U a <|
 E (zF (c,(f,a))))
def Xi b2 x3 x4 s:=zJ (iJ b2 x3 x4) s
def sP(o:(Nat×Nat))(b:z7)(p:Int)(h:z7):T (Bool×z7) :=
 let d:=zE (b.length:Int);  U h <|
 U h <|
 X (Xh b p b (b.length:Int) (o,(0,(0,(0,h))))) λ(e,j,k,a) =>
 .W (xe (b.length:Int) e.2) <|
 .W (uO a.length a.length (e.1+d) a.length) <|
 X (kV (wh a (e.1+d) (zb (.int .u32))) (gP j) k) λ(l,m)=>let g:=zL a (e.1+d) l;
 .W (xe (b.length:Int) e.2) <|
 .W (uO a.length a.length (e.1+d) a.length) <|
 V (m==0)
  (.W (a.length=g.length) <|
 E (false,g))
  (U a <|
 .W (a.length=g.length) <|
 X (Xi b b (b.length:Int) (e,(0,(0,g)))) λ(f,n,c)=>let i:=zL c (f.1+d) (gP ((wh c (f.1+d) (zb (.int .u32)))+n));
 .W (xe (b.length:Int) f.2) <|
 .W (uO c.length c.length (f.1+d) c.length) <|
 .W (xe (b.length:Int) f.2) <|
 .W (uO c.length c.length (f.1+d) c.length) <|
 .W (c.length=i.length) <|
 E (true,i))
def nh(e:Int)(h:Int)(f:z7)(i:Int):(Int×z7)->T ((Int×z7)⊕z7)
 | (b,a)=>let c:=qo (b+1); let d:=zL a (0+(zE b)) (Hc .u32 (wh a (0+(zE b)) (zb (.int .u32))) (gP (Zb .u64 (wk (nth f b (zb (.int .u32)))) e))); let g:=zL d (0+(zE c)) (gP (jk .u64 (Zb .u64 (wk (nth f b (zb (.int .u32)))) e) 32));
 V (B (b<i))
  (oI b f <|
 .W (0<=e) <|
 oI b a <|
 .W (uO a.length a.length (0+(zE b)) a.length) <|
 oI b a <|
 .W (uO a.length a.length (0+(zE b)) a.length) <|
 V (B (c<h))
  (.W (0<=(32:Int)) <|
 oI c a <|
 .W (uO a.length a.length (0+(zE c)) d.length) <|
 oM a.length g.length <|
 E (zG (c,g)))
  (oM a.length d.length <|
 E (zG (c,d))))
  (oC a <|
 U a <|
 E (zF a))
def JQ by_1 n1 x x1 s:=zJ (nh by_1 n1 x x1) s
def Uk(c:z7)(d:Int)(a:Int):T z7 :=
 .W (eF a a 4) <|
 oM (zE a) (zM (zE a) (0:Int)).length <|
 X (JQ d a c (c.length:Int) (0,(zM (zE a) 0))) λb =>
 U b <|
 E (zH 0 (zI (0+b.length) b))
def iF(e:Int)(f:z7)(h:Int):(Int×z7)->T ((Int×z7)⊕z7)
 | (b,a)=>let d:=0+(zE (qo (b-1))); let c:=zL a (0+(zE b)) (Hc .u32 (wh a (0+(zE b)) (zb (.int .u32))) (gP (jk .u64 (jk .u64 (Zb .u64 (wk (nth f b (zb (.int .u32)))) 32) e) 32))); let g:=zL c d (Hc .u32 (wh c d (zb (.int .u32))) (gP (jk .u64 (Zb .u64 (wk (nth f b (zb (.int .u32)))) 32) e)));
 V (B (b<h))
  (oI b f <|
 .W (0<=(32:Int)) <|
 .W (0<=e) <|
 oI b a <|
 .W (uO a.length a.length (0+(zE b)) a.length) <|
 .W (0<=(32:Int)) <|
 oI b a <|
 .W (uO a.length a.length (0+(zE b)) a.length) <|
 V (B (0<b))
  (oI (qo (b-1)) a <|
 .W (uO a.length a.length d c.length) <|
 oI (qo (b-1)) a <|
 .W (uO a.length a.length d c.length) <|
 oM a.length g.length <|
 E (zG ((qo (b+1)),g)))
  (oM a.length c.length <|
 E (zG ((qo (b+1)),c))))
  (oC a <|
 U a <|
 E (zF a))
def Uh by_ x x1 s:=zJ (iF by_ x x1) s
def me(m:z7)(n:Int):T z7 :=
 let g:=V5 (lh n (-4096)) 4096; let d:=qo (zQ g (32:Int)); let c:=qo (zQ (qo (0-g)) (32:Int));  X (vY m) λf=>let a:=(f.length:Int); let i:=qo ((qo (d+a))+1); let b:=zE i;
 V (B (g<0))
  (.W (32≠(0:Int)) <|
 V (B (a<=c))
  (E [])
  (.W (32≠(0:Int)) <|
 .W (eF (qo (a-c)) (qo (a-c)) 4) <|
 .W (jA c a f.length) <|
 oM (zE (qo (a-c))) (zM (zE (qo (a-c))) (0:Int)).length <|
 X (Uh (wk (zP (qo (0-g)) (32:Int))) (jI (e:=(.int .u32)) c a f) (zN (jI (e:=(.int .u32)) c a f).length:Int) (0,(zM (zE (qo (a-c))) 0))) λh =>
 U h <|
 X (vY (zH 0 (zI (0+h.length) h))) λj =>
 E j))
  (.W (32≠(0:Int)) <|
 .W (eF i i 4) <|
 .W (jA d (zN b:Int) b) <|
 .W (32≠(0:Int)) <|
 X (Uk f (wk (zP g (32:Int))) (qo (a+1))) λk =>
 .W (QM b b (0+(zE d)) ((zE (zN b:Int))-(zE d)) (zM b (0:Int)).length) <|
 .W (b=b) <|
 X (vY (zH 0 (zI (0+b) (yr (0+(zE d)) ((zE (zN b:Int))-(zE d)) (zM b 0) k)))) λl =>
 E l)
def ni(m:Int)(g:z7)(c:Int):(Int×z7×z7)->T ((Int×z7×z7)⊕((z7×z7)))
 | (b,a,d) =>
 V (B (0<=b))
  (oI (qo (b+c)) a <|
 .W (uO a.length a.length (0+(zE (qo (b+c)))) a.length) <|
 oI (qo ((qo (b+c))-1)) a <|
 .W (uO a.length a.length (0+(zE (qo ((qo (b+c))-1)))) a.length) <|
 oI (qo ((qo (b+c))-2)) a <|
 .W (uO a.length a.length (0+(zE (qo ((qo (b+c))-2)))) a.length) <|
 oI (qo (c-1)) g <|
 oI (qo (c-2)) g <|
 X (pj (wh a (0+(zE (qo (b+c)))) (zb (.int .u32))) (wh a (0+(zE (qo ((qo (b+c))-1)))) (zb (.int .u32))) (wh a (0+(zE (qo ((qo (b+c))-2)))) (zb (.int .u32))) (nth g (qo (c-1)) (zb (.int .u32))) (nth g (qo (c-2)) (zb (.int .u32)))) λh =>
 X (.W (jA b (qo ((qo (b+c))+1)) a.length) <|
 U a <|
 U a <|
 X (sP ((0+(zE b)),((zE (qo ((qo (b+c))+1)))-(zE b))) g h a) λ(k,f) =>
 V k
  (oC d <|
 .W (zw a.length 0 a.length f.length) <|
 U f <|
 U d <|
 E ((wk (h-1)),(f,d)))
  (oC d <|
 .W (zw a.length 0 a.length f.length) <|
 U f <|
 U d <|
 E (h,(f,d))):T ((Int×z7×z7))) λ(l,i,e)=>let j:=zL e (0+(zE b)) (gP l);
 oI b e <|
 .W (uO e.length e.length (0+(zE b)) e.length) <|
 .W (zw e.length 0 e.length j.length) <|
 oC i <|
 U i <|
 .W (e.length=j.length) <|
 E (zG ((qo (b-1)),(i,j))))
  (oC d <|
 oC a <|
 U a <|
 U d <|
 E (zF (a,d)))
def JR by_ d n s:=zJ (ni by_ d n) s
def Ul(i:z7)(c:z7):T (z7×z7) :=
 oI (qo ((c.length:Int)-1)) c <|
 X (kg (nth c (qo ((c.length:Int)-1)) (zb (.int .u32)))) λf =>
 X (rK i (wk f) (qo ((i.length:Int)+1))) λg =>
 X (rK c (wk f) (c.length:Int)) λa=>let j:=qo ((qo ((i.length:Int)-(a.length:Int)))+1); let b:=zE j;
 .W (eF j j 4) <|
 U a <|
 .W (zw b 0 b (zM b (0:Int)).length) <|
 oC g <|
 U g <|
 .W (b=(zM b (0:Int)).length) <|
 X (JR (wk f) (zH 0 (zI (0+a.length) a)) (a.length:Int) ((qo ((zN b:Int)-1)),(g,(zM b 0)))) λ(d,h) =>
 U h <|
 U d <|
 X (vY (zH 0 (zI (0+h.length) h))) λk =>
 .W (jA 0 (a.length:Int) (zH 0 (zI (0+d.length) d)).length) <|
 X (me (jI (e:=(.int .u32)) 0 (a.length:Int) (zH 0 (zI (0+d.length) d))) (qo (0-(qo (wk f))))) λl =>
 E (k,l)
def dy(j:z7)(k:z7):T (z7×z7×Bool) :=
 X (vY j) λb =>
 X (vY k) λa =>
 V ((a.length:Int)==0)
  (E ([],([],false)))
  (X (sO b a) λc =>
 V (B (c<0))
  (X (iG b) λd =>
 E ([],(d,true)))
  (V ((a.length:Int)==1)
  (oI 0 a <|
 X (pn b (nth a 0 (zb (.int .u32)))) λ(e,f) =>
 X (iB (wk f)) λg =>
 E (e,(g,true)))
  (X (Ul b a) λ(h,i) =>
 E (h,(i,true)))))
def rJ  : (z7×z7)->T ((z7×z7)⊕z7)
 | (b,a) =>
 V (B (0<(a.length:Int)))
  (X (dy b a) λ(d,c,e) =>
 E (zG (a,c)))
  (E (zF b))
def YX(s:(z7×z7)):T z7:=zJ (rJ ) s
def XV(d:z7)(e:z7):T z7 :=
 X (iG d) λa =>
 X (iG e) λb =>
 X (YX  (a,b)) λc =>
 E c
def tx(a:Rat):T Bool :=
 X (X (ZR a.2.1) λb =>
 V (!b)
  (E true)
  (X (ZR a.2.2.1) λc =>
 V (!c)
  (E true)
  (V ((a.2.2.1.length:Int)==0)
  (E true)
  (V a.1
  (E ((a.2.1.length:Int)==0))
  (E false)))):T Bool) λd =>
 V d
  (E false)
  (X (XV a.2.1 a.2.2.1) λe =>
 X (iB 1) λf =>
 X (sO e f) λg =>
 E (g==0))
def rP(g:Bool)(h:z7)(i:z7):T Rat :=
 X (iG h) λa =>
 X (iG i) λb =>
 V (((a.length:Int)==0)||((b.length:Int)==0))
  (X (iB 1) λd =>
 E (false,(([]:List Int),(d,()))))
  (X (XV a b) λc =>
 X (dy a c) λ(e,j,k) =>
 X (dy b c) λ(f,l,m) =>
 E (g,(e,(f,()))))
def vD(a:Rat):T Rat :=
 X (rP a.1 a.2.1 a.2.2.1) λb =>
 E b
def cB(b:Rat):T Bool :=
 X (vD b) λa =>
 E ((B (16<(a.2.1.length:Int)))||(B (16<(a.2.2.1.length:Int))))
def yO(a:Param):T Bool :=
 X (uQ a.1) λb =>
 V (!b)
  (E true)
  (X (tx a.2.1) λc =>
 V (!c)
  (E true)
  (X (cB a.2.1) λd =>
 E d))
def uZ(b:qh)(d:Param->T Bool)(e:Int):Int->T (Int⊕(Unit⊕Int))
 | a =>
 V (B (a<e))
  (oI a b <|
 X (d (nth b a (zb qg))) λc =>
 V c
  (E (zF (zF a)))
  (E (zG (qo (a+1)))))
  (E (zF (zG ())))
def o9 s1 f x s:=zJ (uZ s1 f x) s
def vH(a:qh)(c:Param->T Bool):T Int :=
 X (o9 a c (a.length:Int) 0) <|
 zK (λ_ =>
 E (-1))
  (λb =>
 E b)
def vP(b:qh)(c:Param->T Bool):T Bool :=
 X (vH b c) λa =>
 E (B (0<=a))
def iY(a:zx):T Bool :=
 V (wG a [])
  (E true)
  (X (uQ a) λb =>
 E b)
def yP(a:eQ):T Bool :=
 X (uQ a.1) λb =>
 V (!b)
  (E true)
  (X (iY a.2.1) λc =>
 E (!c))
def yj(b:xc)(d:eQ->T Bool)(e:Int):Int->T (Int⊕(Unit⊕Int))
 | a =>
 V (B (a<e))
  (oI a b <|
 X (d (nth b a (zb xp))) λc =>
 V c
  (E (zF (zF a)))
  (E (zG (qo (a+1)))))
  (E (zF (zG ())))
def oX s1 f x s:=zJ (yj s1 f x) s
def uV(a:xc)(c:eQ->T Bool):T Int :=
 X (oX a c (a.length:Int) 0) <|
 zK (λ_ =>
 E (-1))
  (λb =>
 E b)
def yg(b:xc)(c:eQ->T Bool):T Bool :=
 X (uV b c) λa =>
 E (B (0<=a))
def ta(b:Form):T Bool :=
 X (vE b.1 (λa=>yN a)) λc =>
 V (!c)
  (X (vP b.2.1 (λa=>yO a)) λd =>
 V (!d)
  (X (yg b.2.2.1 (λa=>yP a)) λe =>
 E (!e))
  (E false))
  (E false)
def iX(a:Int)(b:Int)(c:Int):T Bool :=
 E ((B ((lh b 0)<=a))&&(B (a<c)))
def nZ(i:Form)(c:qp)(j:Int):(Int×Int)->T ((Int×Int)⊕(Unit⊕Bool))
 | (h,b)=>let a:=nth c b (zb qw);
 V (B (b<j))
  (oI b c <|
 X (X (uQ a.1) λd =>
 V (!d)
  (E (true,a))
  (X (iX a.2.1 h (i.2.2.1.length:Int)) λe =>
 V (!e)
  (E (true,a))
  (V (B (a.2.2.2.1<(0:Int)))
  (E (true,a))
  (E ((B ((9:Int)<a.2.2.2.1)),a)))):T ((Bool×Field))) λ(f,g) =>
 V f
  (E (zF (zF false)))
  (E (zG (g.2.1,(qo (b+1))))))
  (E (zF (zG ())))
def nY f1 x x1 s:=zJ (nZ f1 x x1) s
def oS(a:Form):T Bool :=
 X (nY a a.2.2.2.1 (a.2.2.2.1.length:Int) (0,0)) <|
 zK (λ_ =>
 E true)
  (λb =>
 E b)
def bE  : T zp :=
 E ([[61],[60],[60,61]]:List zx)
def XO(a:Int):T Int :=
 V (bif (a==1)then(a==1)else(a==2))
  (E 0)
  (V (a==7)
  (E 1)
  (V (a==3)
  (E 2)
  (V (a==4)
  (E 2)
  (V (a==5)
  (E 2)
  (V (a==6)
  (E 2)
  (E (-1)))))))
def Vb(j:z7)(d:Int)(h:Int)(k:z7)(l:Int)(m:Int)(g:z7)(i:Int):(Int×Int×z7)->T ((Int×Int×z7)⊕((Int×z7)))
 | (f,b,a)=>let c:=0+(zE (qo (d+b))); let e:=wk (f+(wk ((wk ((wk h)*(wk (nth g b (zb (.int .u32))))))+(wk (wh a c (zb (.int .u32)))))));
 V (B (b<i))
  (oI b g <|
 oI (qo (d+b)) a <|
 .W (uO a.length a.length c a.length) <|
 oI (qo (d+b)) a <|
 .W (uO a.length a.length c a.length) <|
 .W (0<=(32:Int)) <|
 oM a.length (zL a c (gP e)).length <|
 E (zG ((jk .u64 e 32),((qo (b+1)),(zL a c (gP e))))))
  (oC a <|
 U a <|
 E (zF (f,a)))
def V9 b3 i v x3 x4 x5 x6 x7 s:=zJ (Vb b3 i v x3 x4 x5 x6 x7) s
def Va(d:z7)(e:z7)(h:Int):(Int×z7)->T ((Int×z7)⊕z7)
 | (a,c)=>let f:=0+(zE (qo (a+(d.length:Int))));
 V (B (a<h))
  (oI a e <|
 oC c <|
 U c <|
 X (V9 d a (nth e a (zb (.int .u32))) e h a d (d.length:Int) (0,(0,c))) λ(g,b) =>
 oI (qo (a+(d.length:Int))) b <|
 .W (uO b.length b.length f b.length) <|
 oM b.length (zL b f (gP g)).length <|
 E (zG ((qo (a+1)),(zL b f (gP g)))))
  (oC c <|
 U c <|
 E (zF c))
def V8 b2 x x1 s:=zJ (Va b2 x x1) s
def iA(f:z7)(g:z7):T z7 :=
 X (vY f) λb =>
 X (vY g) λd=>let a:=qo ((b.length:Int)+(d.length:Int));
 .W (eF a a 4) <|
 oM (zE a) (zM (zE a) (0:Int)).length <|
 X (V8 d b (b.length:Int) (0,(zM (zE a) 0))) λc =>
 U c <|
 X (vY (zH 0 (zI (0+c.length) c))) λe =>
 E e
def WU(e:Int):(z7×Int)->T ((z7×Int)⊕z7)
 | (a,b) =>
 V (B (b<e))
  (X (iB 10) λc =>
 X (iA a c) λd =>
 E (zG (d,(qo (b+1)))))
  (E (zF a))
def WT x s:=zJ (WU x) s
def VN(c:Int):T z7 :=
 X (iB 1) λa =>
 X (WT c (a,0)) λb =>
 E b
def QN(a:Rat):T zx :=
 V a.1
  (E [45])
  (E [])
def jb  : ((Nat×Nat)×Int×Int×z7)->T (((Nat×Nat)×Int×Int×z7)⊕z7)
 | (b,c,d,a)=>let e:=zL a (b.1+(zE c)) (wh a (b.1+(zE d)) (zb (.int .u8))); let f:=zL e (b.1+(zE d)) (wh a (b.1+(zE c)) (zb (.int .u8)));
 V (B (c<d))
  (.W (xe d b.2) <|
 .W (uO a.length a.length (b.1+(zE d)) a.length) <|
 .W (xe c b.2) <|
 .W (uO a.length a.length (b.1+(zE c)) a.length) <|
 .W (xe c b.2) <|
 .W (uO a.length a.length (b.1+(zE c)) a.length) <|
 .W (xe d b.2) <|
 .W (uO a.length a.length (b.1+(zE d)) e.length) <|
 U a <|
 .W (a.length=f.length) <|
 E (zG (b,((qo (c+1)),((qo (d-1)),f)))))
  (U a <|
 E (zF a))
def cV(s:((Nat×Nat)×Int×Int×z7)):T z7:=zJ (jb ) s
def kl(c:(Nat×Nat))(a:z7):T z7 :=
 U a <|
 U a <|
 X (cV  (c,(0,((qo ((zN c.2:Int)-1)),a)))) λb =>
 U b <|
 E b
def iD(e:z7):(Int×Int×z7)->T ((Int×Int×z7)⊕z7)
 | (b,c,a)=>let d:=a++([(ur [48,49,50,51,52,53,54,55,56,57] (zP b (10:Int)))]:List Int);
 V (B (c<9))
  (.W (10≠(0:Int)) <|
 oI (zP b (10:Int)) ([48,49,50,51,52,53,54,55,56,57]:zx) <|
 oA a 1 <|
 .W (10≠(0:Int)) <|
 oM (a.length+1) d.length <|
 E (zG ((gP (zQ b (10:Int))),((qo (c+1)),d))))
  (oC a <|
 U a <|
 E (zF a))
def ZV q1 s:=zJ (iD q1) s
def iC  : (z7×z7)->T ((z7×z7)⊕z7)
 | (d,a) =>
 V (B (0<(d.length:Int)))
  (X (pn d 1000000000) λ(c,e) =>
 oC a <|
 U a <|
 X (ZV c (e,(0,a))) λb =>
 oC b <|
 U b <|
 E (zG (c,b)))
  (oC a <|
 U a <|
 E (zF a))
def ZU(s:(z7×z7)):T z7:=zJ (iC ) s
def iE  : ((Nat×Nat)×z7)->T (((Nat×Nat)×z7)⊕(((Nat×Nat)×z7)))
 | (b,a)=>let c:=qo ((zN b.2:Int)-1);
 .W (((B (1<(zN b.2:Int)))=true)->((xe c b.2)/\(uO a.length a.length (b.1+(zE c)) a.length))) <|
 V ((B (1<(zN b.2:Int)))&&((wh a (b.1+(zE c)) (zb (.int .u8)))==48))
  (.W (jA 0 c b.2) <|
 U a <|
 U a <|
 E (zG (((b.1+(zE 0)),((zE c)-(zE 0))),a)))
  (U a <|
 U a <|
 E (zF (b,a)))
def Ug(s:((Nat×Nat)×z7)):T (((Nat×Nat)×z7)):=zJ (iE ) s
def mc(f:z7):T zx :=
 X (iG f) λd =>
 V ((d.length:Int)==0)
  (E [48])
  (oZ <|
 X (ZU  (d,[])) λa =>
 U a <|
 U a <|
 X (Ug  ((0,a.length),a)) λ(b,c) =>
 U c <|
 U c <|
 X (kl b c) λe =>
 .W (c.length=e.length) <|
 E (ku (zH b.1 (zI (b.1+b.2) e))))
def strings_Repeat(b:zx)(a:Int):T zx :=
 .W (0<=a/\a<=9223372036854775807/\b.length*(zE a)<=140737488355328) <|
 E (D2 b (zE a))
def sB(a:zx)(e:Int):T zx :=
 V (e==0)
  (E a)
  (X (strings_Repeat [48] (lh 0 (qo ((qo (e+1))-(a.length:Int))))) λb=>let d:=((cat b a).length:Int); let c:=qo (d-e);
 oK b a <|
 .W (jA 0 c (cat b a).length) <|
 oK (fN 0 c (cat b a)) [46] <|
 .W (jA c d (cat b a).length) <|
 oK (cat (fN 0 c (cat b a)) [46]) (fN c d (cat b a)) <|
 E (cat (cat (fN 0 c (cat b a)) [46]) (fN c d (cat b a))))
def Zq  : (Int×Rat)->T ((Int×Rat)⊕(Rat⊕(zx×Bool×Rat)))
 | (b,a) =>
 V (B (b<61))
  (X (VN b) λe =>
 X (iA a.2.1 e) λf =>
 X (dy f a.2.2.1) λ(g,h,j) =>
 V ((h.length:Int)==0)
  (X (QN a) λc =>
 X (mc g) λi =>
 X (sB i b) λd =>
 oK c d <|
 E (zF (zF ((cat c d),(true,a)))))
  (E (zG ((qo (b+1)),a))))
  (E (zF (zG a)))
def Zp(s:(Int×Rat)):T (Rat⊕(zx×Bool×Rat)):=zJ (Zq ) s
def tL(d:Rat):T (zx×Bool) :=
 X (vD d) λa =>
 X (Zp  (0,a)) <|
 zK (λe =>
 E ([],false))
  (λ(b,c,f) =>
 E (b,c))
def ZF(a:Rat):T Bool :=
 X (X (tx a) λb =>
 V (!b)
  (E true)
  (V a.1
  (E true)
  (X (cB a) λc =>
 E c)):T Bool) λd =>
 V d
  (E false)
  (X (tL a) λ(f,e) =>
 E e)
def mX(a:Rat):T Bool :=
 V (!a.1)
  (V ((a.2.1.length:Int)==0)
  (V ((a.2.2.1.length:Int)==0)
  (E true)
  (X (tx a) λb =>
 E b))
  (E false))
  (E false)
def mW(a:AM.Expr):T Bool :=
 X (XO (Expr.kind a)) λb =>
 V (((Expr.kids a).length:Int) != b)
  (E false)
  (V ((Expr.kind a)==1)
  (X (ZF (Expr.num a)) λc =>
 V c
  (E (wG (Expr.name a) []))
  (E false))
  (V ((Expr.kind a)==2)
  (X (mX (Expr.num a)) λd =>
 V d
  (X (uQ (Expr.name a)) λe =>
 E e)
  (E false))
  (X (mX (Expr.num a)) λf =>
 V f
  (E (wG (Expr.name a) []))
  (E false))))
def mG(c:AM.Expr->Int->Int->T (Bool×Int))(d:AM.Expr)(e:Int)(f:Int):T (Bool×Int) :=
 X (c d (qo (e+1)) f) λ(a,b) =>
 E ((!a),b)
def wT(g:AM.Expr->Int->Int->T (Bool×Int))(e:cX)(h:Int):((Int×Unit)×Int×Int)->T (((Int×Unit)×Int×Int)⊕(Int⊕(Int×Int)))
 | (c,a,d) =>
 V (B (a<h))
  (oI a e <|
 X ((mG g) (nth e a (zb .expr)) c.1 d) λ(f,b) =>
 V f
  (E (zF (zF (a,b))))
  (E (zG ((c.1,()),((qo (a+1)),b)))))
  (E (zF (zG d)))
def wy self_expr_may s1 x s:=zJ (wT self_expr_may s1 x) s
def vj(e:AM.Expr->Int->Int->T (Bool×Int))(a:cX)(f:(Int×Unit))(g:Int):T (Int×Int) :=
 X (wy e a (a.length:Int) ((f.1,()),(0,g))) <|
 zK (λb =>
 E ((-1),b))
  (λ(c,d) =>
 E (c,d))
def wS(c:AM.Expr->Int->Int->T (Bool×Int))(d:cX)(e:(Int×Unit))(f:Int):T (Bool×Int) :=
 X ((vj c) d (e.1,()) f) λ(a,b) =>
 E ((B (0<=a)),b)
def il(i:AM.Expr->Int->Int->T (Bool×Int))(c:AM.Expr)(d:Int)(a:Int):T (Bool×Int) :=
 X (V (B ((qo (a-1))<0))
  (E (true,(qo (a-1))))
  (V (B (32<=d))
  (E (true,(qo (a-1))))
  (X (mW c) λe =>
 E ((!e),(qo (a-1))))):T ((Bool×Int))) λ(f,b) =>
 V f
  (E (false,b))
  (X ((wS i) (Expr.kids c) (d,()) b) λ(g,h) =>
 E ((!g),h))
def ZG(e:AM.Expr)(deep:Int)(left:Int):T (Bool×Int):=T.fix (λF x=>il (λy0 y1 y2=>F (y0,y1,y2)) x.1 x.2.1 x.2.2) (e,deep,left)
def ik(b:AM.Expr):T Bool :=
 X (ZG b 0 256) λ(a,c) =>
 E a
def kX  : T zp :=
 E ([[114,101,113,117,105,114,101,100],[115,116,114,111,110,103],[109,101,100,105,117,109],[119,101,97,107]]:List zx)
def kW(a:eb):T Bool :=
 X (uQ a.1) λb =>
 V (!b)
  (E true)
  (V (B (a.2.1<(0:Int)))
  (E true)
  (X (kX) λc =>
 V (B ((c.length:Int)<=a.2.1))
  (E true)
  (X (iY a.2.2.1) λd =>
 V (!d)
  (E true)
  (X (ik a.2.2.2.1) λe =>
 V (!e)
  (E true)
  (X (ik a.2.2.2.2.1) λf =>
 E (!f))))))
def cU(b:xa)(d:eb->T Bool)(e:Int):Int->T (Int⊕(Unit⊕Int))
 | a =>
 V (B (a<e))
  (oI a b <|
 X (d (nth b a (zb xm))) λc =>
 V c
  (E (zF (zF a)))
  (E (zG (qo (a+1)))))
  (E (zF (zG ())))
def p7 s1 f x s:=zJ (cU s1 f x) s
def gZ(a:xa)(c:eb->T Bool):T Int :=
 X (p7 a c (a.length:Int) 0) <|
 zK (λ_ =>
 E (-1))
  (λb =>
 E b)
def yh(b:xa)(c:eb->T Bool):T Bool :=
 X (gZ b c) λa =>
 E (B (0<=a))
def nX(l:Form)(c:qq)(m:Int):(Int×Int)->T ((Int×Int)⊕(Unit⊕Bool))
 | (k,b)=>let a:=nth c b (zb xj);
 V (B (b<m))
  (oI b c <|
 X (X (uQ a.1) λd =>
 V (!d)
  (E (true,a))
  (X (iX a.2.1 k (l.2.2.1.length:Int)) λe =>
 V (!e)
  (E (true,a))
  (V (B (a.2.2.1<(0:Int)))
  (E (true,a))
  (X (bE) λf =>
 V (B ((f.length:Int)<=a.2.2.1))
  (E (true,a))
  (X (ik (Expr.mk (Expr.kind a.2.2.2.1) ((Expr.num a.2.2.2.1).1,((Expr.num a.2.2.2.1).2.1,((Expr.num a.2.2.2.1).2.2.1,()))) (Expr.name a.2.2.2.1) (Expr.kids a.2.2.2.1))) λg =>
 V (!g)
  (E (true,a))
  (X (ik (Expr.mk (Expr.kind a.2.2.2.2.1) ((Expr.num a.2.2.2.2.1).1,((Expr.num a.2.2.2.2.1).2.1,((Expr.num a.2.2.2.2.1).2.2.1,()))) (Expr.name a.2.2.2.2.1) (Expr.kids a.2.2.2.2.1))) λh =>
 E ((!h),a)))))):T ((Bool×Check))) λ(i,j) =>
 V i
  (E (zF (zF false)))
  (E (zG (j.2.1,(qo (b+1))))))
  (E (zF (zG ())))
def nW f1 x x1 s:=zJ (nX f1 x x1) s
def oR(a:Form):T Bool :=
 X (nW a a.2.2.2.2.2.1 (a.2.2.2.2.2.1.length:Int) (0,0)) <|
 zK (λ_ =>
 X (yh a.2.2.2.2.1 (λb=>kW b)) λc =>
 E (!c))
  (λd =>
 E d)
def tn(v:Unit)(l:List Int):T (Unit×List Int):=E (v,l)
def xo(b:zx)(e:Unit)(c:z7):T (Int×Unit×z7) :=
 oC c <|
 U c <|
 X (tn () c) λ(d,a) =>
 .W (vV a.length a.length 0 a.length a.length (bytesOf b).length 1) <|
 oM (a.length+(bytesOf b).length) (a++(bytesOf b)).length <|
 E ((b.length:Int),((),(a++(bytesOf b))))
def gx(g:Rat):T zx :=
 X (vD g) λa =>
 X (QN a) λb =>
 X (mc a.2.1) λc =>
 oK b c <|
 X (iB 1) λe =>
 X (sO a.2.2.1 e) λf =>
 V (f != 0)
  (X (mc a.2.2.1) λd =>
 oK [47] d <|
 oK (cat b c) (cat [47] d) <|
 E (cat (cat b c) (cat [47] d)))
  (E (cat b c))
def sa(a:zx):T zx :=
 V (wG a [])
  (E [])
  (oK [32,119,104,101,110,32] a <|
 E (cat [32,119,104,101,110,32] a))
def strconv_Itoa(a:Int):T zx :=
 .W ((-9223372036854775808)<=a/\a<=9223372036854775807) <|
 E (Yu a)
def sZ(a:Field):T zx :=
 let c:=cat [102,105,101,108,100,32] a.1; let b:=bif a.2.2.1 then(cat c [32,109,117,115,116])else c;  oK [102,105,101,108,100,32] a.1 <|
 .W ((a.2.2.1=true)->((c.length+([32,109,117,115,116]:zx).length)<=4611686018427387904)) <|
 V (B ((0:Int)<a.2.2.2.1))
  (X (strconv_Itoa a.2.2.2.1) λe=>let d:=cat [32,115,99,97,108,101,32] e;
 oK [32,115,99,97,108,101,32] e <|
 oK b d <|
 oK (cat b d) [10] <|
 E (cat (cat b d) [10]))
  (oK b [10] <|
 E (cat b [10]))
def lU(a:AM.Expr):T Int :=
 V (bif ((Expr.kind a)==3)then((Expr.kind a)==3)else((Expr.kind a)==4))
  (E 1)
  (V (bif ((Expr.kind a)==5)then((Expr.kind a)==5)else((Expr.kind a)==6))
  (E 2)
  (V ((Expr.kind a)==7)
  (E 3)
  (E 4)))
def du(c:AM.Expr->T zx)(b:AM.Expr)(f:Int):T zx :=
 X (lU b) λd =>
 V (B (d<f))
  (X (c b) λa =>
 oK [40] a <|
 oK (cat [40] a) [41] <|
 E (cat (cat [40] a) [41]))
  (X (c b) λe =>
 E e)
def gL(d:AM.Expr->T zx)(a:AM.Expr):T zx :=
 X (V ((Expr.kind a)==1)
  (X (tL (Expr.num a)) λ(g,k) =>
 E (zF g))
  (V ((Expr.kind a)==2)
  (E (zF (Expr.name a)))
  (V ((Expr.kind a)==7)
  (oI 0 (Expr.kids a) <|
 X ((du d) (nth (Expr.kids a) 0 (zb .expr)) 3) λe =>
 oK [45] e <|
 E (zF (cat [45] e)))
  (V ((Expr.kind a)==3)
  (E (zG [32,43,32]))
  (V ((Expr.kind a)==4)
  (E (zG [32,45,32]))
  (V ((Expr.kind a)==5)
  (E (zG [32,42,32]))
  (V ((Expr.kind a)==6)
  (E (zG [32,47,32]))
  (E (zG [])))))))):T (zx⊕zx)) <|
 zK (λb =>
 oI 0 (Expr.kids a) <|
 X (lU a) λh =>
 X ((du d) (nth (Expr.kids a) 0 (zb .expr)) h) λc =>
 oK c b <|
 oI 1 (Expr.kids a) <|
 X (lU a) λi =>
 X ((du d) (nth (Expr.kids a) 1 (zb .expr)) (qo (i+1))) λf =>
 oK (cat c b) f <|
 E (cat (cat c b) f))
  (λj =>
 E j)
def ZH(e:AM.Expr):T zx:=T.fix (λF x=>gL (λy0=>F (y0)) x) e
def rf(a:AM.Expr):T zx :=
 X (ik a) λb =>
 V (!b)
  (E [])
  (X (ZH a) λc =>
 E c)
def ny(e:AM.Expr)(a:zx)(f:AM.Expr):T zx :=
 X (rf e) λc=>let b:=cat (cat [32,58,32] c) [32];
 oK [32,58,32] c <|
 oK (cat [32,58,32] c) [32] <|
 oK b a <|
 oK (cat b a) [32] <|
 X (rf f) λd =>
 oK (cat (cat b a) [32]) d <|
 oK (cat (cat (cat b a) [32]) d) [10] <|
 E (cat (cat (cat (cat b a) [32]) d) [10])
def o6(f:Int)(k:Form)(d:qp)(g:Int):(Int×Unit×z7)->T ((Int×Unit×z7)⊕((Unit×z7)))
 | (b,j,a) =>
 V (B (b<g))
  (oI b d <|
 V ((nth d b (zb qw)).2.1==f)
  (X (sZ (nth d b (zb qw))) λe =>
 oC a <|
 U a <|
 X (xo e () a) λ(h,i,c) =>
 oC c <|
 U c <|
 E (zG ((qo (b+1)),((),c))))
  (oC a <|
 U a <|
 E (zG ((qo (b+1)),((),a)))))
  (oC a <|
 U a <|
 E (zF ((),a)))
def o0 i1 f1 x x1 s:=zJ (o6 i1 f1 x x1) s
def o7(h:Int)(g:qq)(i:Int):(Int×Unit×z7)->T ((Int×Unit×z7)⊕((Unit×z7)))
 | (c,l,b)=>let a:=nth g c (zb xj);
 V (B (c<i))
  (oI c g <|
 V (a.2.1==h)
  (oK [99,104,101,99,107,32] a.1 <|
 X (bE) λe =>
 .W (xe a.2.2.1 e.length) <|
 X (ny (Expr.mk (Expr.kind a.2.2.2.1) ((Expr.num a.2.2.2.1).1,((Expr.num a.2.2.2.1).2.1,((Expr.num a.2.2.2.1).2.2.1,()))) (Expr.name a.2.2.2.1) (Expr.kids a.2.2.2.1)) (nth e a.2.2.1 (zb .str)) (Expr.mk (Expr.kind a.2.2.2.2.1) ((Expr.num a.2.2.2.2.1).1,((Expr.num a.2.2.2.2.1).2.1,((Expr.num a.2.2.2.2.1).2.2.1,()))) (Expr.name a.2.2.2.2.1) (Expr.kids a.2.2.2.2.1))) λf =>
 oK (cat [99,104,101,99,107,32] a.1) f <|
 oC b <|
 U b <|
 X (xo (cat (cat [99,104,101,99,107,32] a.1) f) () b) λ(j,k,d) =>
 oC d <|
 U d <|
 E (zG ((qo (c+1)),((),d))))
  (oC b <|
 U b <|
 E (zG ((qo (c+1)),((),b)))))
  (oC b <|
 U b <|
 E (zF ((),b)))
def o5 i2 x3 x4 s:=zJ (o7 i2 x3 x4) s
def oT(a:Form)(b:Int)(m:Unit)(g:z7):T (Unit×z7) :=
 let h:=cat [112,97,103,101,32] (nth a.2.2.1 b (zb xp)).1;  oI b a.2.2.1 <|
 oK [112,97,103,101,32] (nth a.2.2.1 b (zb xp)).1 <|
 oI b a.2.2.1 <|
 X (sa (nth a.2.2.1 b (zb xp)).2.1) λc =>
 oK h c <|
 oK (cat h c) [10] <|
 oC g <|
 U g <|
 X (xo (cat (cat h c) [10]) () g) λ(i,j,d) =>
 oC d <|
 U d <|
 X (o0 b a a.2.2.2.1 (a.2.2.2.1.length:Int) (0,((),d))) λ(k,e) =>
 oC e <|
 U e <|
 X (o5 b a.2.2.2.2.2.1 (a.2.2.2.2.2.1.length:Int) (0,((),e))) λ(l,f) =>
 oC f <|
 U f <|
 E ((),f)
def pD(v:Unit)(l:List Int):T (zx×Unit):=z3g l
def rZ(k:Form)(e:qc)(g:Int):(Int×Unit×z7)->T ((Int×Unit×z7)⊕((Unit×z7)))
 | (b,j,a)=>let c:=nth e b (zb qs); let f:=bif c.2.1 then[32,111,110,10]else[32,111,102,102,10];
 V (B (b<g))
  (oI b e <|
 oK [115,119,105,116,99,104,32] c.1 <|
 oK (cat [115,119,105,116,99,104,32] c.1) f <|
 oC a <|
 U a <|
 X (xo (cat (cat [115,119,105,116,99,104,32] c.1) f) () a) λ(h,i,d) =>
 oC d <|
 U d <|
 E (zG ((qo (b+1)),((),d))))
  (oC a <|
 U a <|
 E (zF ((),a)))
def rV f1 x x1 s:=zJ (rZ f1 x x1) s
def s6(l:Form)(g:qh)(h:Int):(Int×Unit×z7)->T ((Int×Unit×z7)⊕((Unit×z7)))
 | (c,k,a)=>let b:=nth g c (zb qg); let d:=cat [112,97,114,97,109,32] b.1;
 V (B (c<h))
  (oI c g <|
 oK [112,97,114,97,109,32] b.1 <|
 oK d [32] <|
 X (gx (b.2.1.1,(b.2.1.2.1,(b.2.1.2.2.1,())))) λe =>
 oK (cat d [32]) e <|
 oK (cat (cat d [32]) e) [10] <|
 oC a <|
 U a <|
 X (xo (cat (cat (cat d [32]) e) [10]) () a) λ(i,j,f) =>
 oC f <|
 U f <|
 E (zG ((qo (c+1)),((),f))))
  (oC a <|
 U a <|
 E (zF ((),a)))
def rW f2 x3 x4 s:=zJ (s6 f2 x3 x4) s
def s7(d:Form)(e:Int):(Int×Unit×z7)->T ((Int×Unit×z7)⊕((Unit×z7)))
 | (c,g,a) =>
 V (B (c<e))
  (oC a <|
 U a <|
 X (oT d c () a) λ(f,b) =>
 oC b <|
 U b <|
 E (zG ((qo (c+1)),((),b))))
  (oC a <|
 U a <|
 E (zF ((),a)))
def rX f3 x6 s:=zJ (s7 f3 x6) s
def s9(i:xa)(j:Int):(Int×Unit×z7)->T ((Int×Unit×z7)⊕((Unit×z7)))
 | (d,m,b)=>let a:=nth i d (zb xm);
 V (B (d<j))
  (oI d i <|
 X (kX) λe=>let c:=cat [114,117,108,101,32] (nth e a.2.1 (zb .str));
 .W (xe a.2.1 e.length) <|
 oK [114,117,108,101,32] (nth e a.2.1 (zb .str)) <|
 oK c [32] <|
 oK (cat c [32]) a.1 <|
 X (sa a.2.2.1) λf =>
 oK (cat (cat c [32]) a.1) f <|
 X (ny (Expr.mk (Expr.kind a.2.2.2.1) ((Expr.num a.2.2.2.1).1,((Expr.num a.2.2.2.1).2.1,((Expr.num a.2.2.2.1).2.2.1,()))) (Expr.name a.2.2.2.1) (Expr.kids a.2.2.2.1)) [61] (Expr.mk (Expr.kind a.2.2.2.2.1) ((Expr.num a.2.2.2.2.1).1,((Expr.num a.2.2.2.2.1).2.1,((Expr.num a.2.2.2.2.1).2.2.1,()))) (Expr.name a.2.2.2.2.1) (Expr.kids a.2.2.2.2.1))) λh =>
 oK (cat (cat (cat c [32]) a.1) f) h <|
 oC b <|
 U b <|
 X (xo (cat (cat (cat (cat c [32]) a.1) f) h) () b) λ(k,l,g) =>
 oC g <|
 U g <|
 E (zG ((qo (d+1)),((),g))))
  (oC b <|
 U b <|
 E (zF ((),b)))
def rY x8 x9 s:=zJ (s9 x8 x9) s
def nw(a:Form):T zx :=
 oZ <|
 X (rV a a.1 (a.1.length:Int) (0,((),[]))) λ(g,b) =>
 oC b <|
 U b <|
 X (rW a a.2.1 (a.2.1.length:Int) (0,((),b))) λ(h,c) =>
 oC c <|
 U c <|
 X (rX a (a.2.2.1.length:Int) (0,((),c))) λ(i,d) =>
 oC d <|
 U d <|
 X (rY a.2.2.2.2.1 (a.2.2.2.2.1.length:Int) (0,((),d))) λ(j,e) =>
 oC e <|
 U e <|
 X (pD () e) λ(f,k) =>
 E f
def Za(a:Form):T Bool :=
 X (ta a) λb =>
 V b
  (X (oS a) λc =>
 V c
  (X (oR a) λd =>
 V d
  (X (nw a) λe =>
 E (B ((e.length:Int)<=16384)))
  (E false))
  (E false))
  (E false)
def pO(e:Form)(c:qc)(d:Int):(Int×zp)->T ((Int×zp)⊕zp)
 | (b,a) =>
 V (B (b<d))
  (oI b c <|
 oA a 16 <|
 oM (a.length+1) (a++([(nth c b (zb qs)).1]:List zx)).length <|
 E (zG ((qo (b+1)),(a++([(nth c b (zb qs)).1]:List zx)))))
  (oC a <|
 U a <|
 E (zF a))
def pI f1 x x1 s:=zJ (pO f1 x x1) s
def pP(e:Form)(c:qh)(d:Int):(Int×zp)->T ((Int×zp)⊕zp)
 | (b,a) =>
 V (B (b<d))
  (oI b c <|
 oA a 16 <|
 oM (a.length+1) (a++([(nth c b (zb qg)).1]:List zx)).length <|
 E (zG ((qo (b+1)),(a++([(nth c b (zb qg)).1]:List zx)))))
  (oC a <|
 U a <|
 E (zF a))
def pJ f2 x3 x4 s:=zJ (pP f2 x3 x4) s
def pQ(e:Form)(c:xc)(d:Int):(Int×zp)->T ((Int×zp)⊕zp)
 | (b,a) =>
 V (B (b<d))
  (oI b c <|
 oA a 16 <|
 oM (a.length+1) (a++([(nth c b (zb xp)).1]:List zx)).length <|
 E (zG ((qo (b+1)),(a++([(nth c b (zb xp)).1]:List zx)))))
  (oC a <|
 U a <|
 E (zF a))
def pK f3 x6 x7 s:=zJ (pQ f3 x6 x7) s
def pR(e:Form)(c:qp)(d:Int):(Int×zp)->T ((Int×zp)⊕zp)
 | (b,a) =>
 V (B (b<d))
  (oI b c <|
 oA a 16 <|
 oM (a.length+1) (a++([(nth c b (zb qw)).1]:List zx)).length <|
 E (zG ((qo (b+1)),(a++([(nth c b (zb qw)).1]:List zx)))))
  (oC a <|
 U a <|
 E (zF a))
def pL f4 x9 x10 s:=zJ (pR f4 x9 x10) s
def pS(e:Form)(c:xa)(d:Int):(Int×zp)->T ((Int×zp)⊕zp)
 | (b,a) =>
 V (B (b<d))
  (oI b c <|
 oA a 16 <|
 oM (a.length+1) (a++([(nth c b (zb xm)).1]:List zx)).length <|
 E (zG ((qo (b+1)),(a++([(nth c b (zb xm)).1]:List zx)))))
  (oC a <|
 U a <|
 E (zF a))
def pM f5 x12 x13 s:=zJ (pS f5 x12 x13) s
def pT(c:qq)(d:Int):(Int×zp)->T ((Int×zp)⊕zp)
 | (b,a) =>
 V (B (b<d))
  (oI b c <|
 oA a 16 <|
 oM (a.length+1) (a++([(nth c b (zb xj)).1]:List zx)).length <|
 E (zG ((qo (b+1)),(a++([(nth c b (zb xj)).1]:List zx)))))
  (oC a <|
 U a <|
 E (zF a))
def pN x15 x16 s:=zJ (pT x15 x16) s
def sy(a:Form):T zp :=
 oZ <|
 X (pI a a.1 (a.1.length:Int) (0,[])) λb =>
 oC b <|
 U b <|
 X (pJ a a.2.1 (a.2.1.length:Int) (0,b)) λc =>
 oC c <|
 U c <|
 X (pK a a.2.2.1 (a.2.2.1.length:Int) (0,c)) λd =>
 oC d <|
 U d <|
 X (pL a a.2.2.2.1 (a.2.2.2.1.length:Int) (0,d)) λe =>
 oC e <|
 U e <|
 X (pM a a.2.2.2.2.1 (a.2.2.2.2.1.length:Int) (0,e)) λf =>
 oC f <|
 U f <|
 X (pN a.2.2.2.2.2.1 (a.2.2.2.2.2.1.length:Int) (0,f)) λg =>
 U g <|
 E (zH 0 (zI (0+g.length) g))
def twR:List zx->List zx->zx×Bool
 | _,[]=>([],false)
 | seen,x::r=>if x∈seen then(x,true)else twR (seen++[x]) r
def sA(l:List zx):T (zx×Bool):=.W (zO l*16<=140737488351232/\∀ s∈l,zO s<=9223372036854775807)<|E (twR [] l)
def vU(a:Switch)(b:zx):T Bool :=
 E (wG a.1 b)
def jQ(a:zx)(d:Form):T Bool :=
 V (!(wG a []))
  (X (vE d.1 (λb=>vU b a)) λc =>
 E (!c))
  (E false)
def uN(b:zp)(d:zx->T Bool)(e:Int):Int->T (Int⊕(Unit⊕Int))
 | a =>
 V (B (a<e))
  (oI a b <|
 X (d (nth b a (zb .str))) λc =>
 V c
  (E (zF (zF a)))
  (E (zG (qo (a+1)))))
  (E (zF (zG ())))
def nB s1 f x s:=zJ (uN s1 f x) s
def wU(a:zp)(c:zx->T Bool):T Int :=
 X (nB a c (a.length:Int) 0) <|
 zK (λ_ =>
 E (-1))
  (λb =>
 E b)
def eU(e:Form)(c:xc)(d:Int):(Int×zp)->T ((Int×zp)⊕zp)
 | (b,a) =>
 V (B (b<d))
  (oI b c <|
 oA a 16 <|
 oM (a.length+1) (a++([(nth c b (zb xp)).2.1]:List zx)).length <|
 E (zG ((qo (b+1)),(a++([(nth c b (zb xp)).2.1]:List zx)))))
  (oC a <|
 U a <|
 E (zF a))
def eS f1 x x1 s:=zJ (eU f1 x x1) s
def eV(e:Form)(c:xa)(d:Int):(Int×zp)->T ((Int×zp)⊕zp)
 | (b,a) =>
 V (B (b<d))
  (oI b c <|
 oA a 16 <|
 oM (a.length+1) (a++([(nth c b (zb xm)).2.2.1]:List zx)).length <|
 E (zG ((qo (b+1)),(a++([(nth c b (zb xm)).2.2.1]:List zx)))))
  (oC a <|
 U a <|
 E (zF a))
def eT f2 x3 x4 s:=zJ (eV f2 x3 x4) s
def eH(b:Form):T (zx×Bool) :=
 oZ <|
 X (eS b b.2.2.1 (b.2.2.1.length:Int) (0,[])) λd =>
 oC d <|
 U d <|
 X (eT b b.2.2.2.2.1 (b.2.2.2.2.1.length:Int) (0,d)) λa =>
 U a <|
 X (wU (zH 0 (zI (0+a.length) a)) (λe=>jQ e b)) λc =>
 V (B (c<0))
  (E ([],false))
  (oI c a <|
 .W (uO a.length a.length (0+(zE c)) a.length) <|
 E ((wh a (0+(zE c)) (zb .str)),true))
def gu(b:zp)(c:zx)(d:Int):Int->T (Int⊕(Unit⊕Int))
 | a =>
 V (B (a<d))
  (oI a b <|
 V (wG c (nth b a (zb .str)))
  (E (zF (zF a)))
  (E (zG (qo (a+1)))))
  (E (zF (zG ())))
def gq s1 v1 x s:=zJ (gu s1 v1 x) s
def wE(a:zp)(c:zx):T Int :=
 X (gq a c (a.length:Int) 0) <|
 zK (λ_ =>
 E (-1))
  (λb =>
 E b)
def wL(b:zp)(c:zx):T Bool :=
 X (wE b c) λa =>
 E (B (0<=a))
def eI(e:AM.Expr->zp->T zp)(d:cX)(f:Int):(Int×zp)->T ((Int×zp)⊕zp)
 | (b,a) =>
 V (B (b<f))
  (oI b d <|
 oC a <|
 U a <|
 X (e (nth d b (zb .expr)) a) λc =>
 oC c <|
 U c <|
 E (zG ((qo (b+1)),c)))
  (oC a <|
 U a <|
 E (zF a))
def ct self_expr_names x1 x2 s:=zJ (eI self_expr_names x1 x2) s
def dr(h:AM.Expr->zp->T zp)(c:AM.Expr)(a:zp):T zp :=
 X (X (V ((Expr.kind c)==2)
  (U a <|
 X (wL (zH 0 (zI (0+a.length) a)) (Expr.name c)) λf =>
 oC a <|
 U a <|
 E ((!f),a))
  (oC a <|
 U a <|
 E (false,a)):T ((Bool×zp))) λ(g,b) =>
 V g
  (oA b 16 <|
 oM (b.length+1) (b++([(Expr.name c)]:List zx)).length <|
 E (b++([(Expr.name c)]:List zx)))
  (oC b <|
 U b <|
 E b):T zp) λd =>
 oC d <|
 U d <|
 X (ct h (Expr.kids c) ((Expr.kids c).length:Int) (0,d)) λe =>
 oC e <|
 U e <|
 E e
def oz(e:AM.Expr)(l:zp):T zp:=T.fix (λF x=>dr (λy0 y1=>F (y0,y1)) x.1 x.2) (e,l)
def lW(d:cX)(e:Int):(Int×zp)->T ((Int×zp)⊕zp)
 | (b,a) =>
 V (B (b<e))
  (oI b d <|
 oC a <|
 U a <|
 X (oz (nth d b (zb .expr)) a) λc =>
 oC c <|
 U c <|
 E (zG ((qo (b+1)),c)))
  (oC a <|
 U a <|
 E (zF a))
def lV x1 x2 s:=zJ (lW x1 x2) s
def mH(c:AM.Expr)(a:zp):T zp :=
 X (X (V ((Expr.kind c)==2)
  (U a <|
 X (wL (zH 0 (zI (0+a.length) a)) (Expr.name c)) λf =>
 oC a <|
 U a <|
 E ((!f),a))
  (oC a <|
 U a <|
 E (false,a)):T ((Bool×zp))) λ(g,b) =>
 V g
  (oA b 16 <|
 oM (b.length+1) (b++([(Expr.name c)]:List zx)).length <|
 E (b++([(Expr.name c)]:List zx)))
  (oC b <|
 U b <|
 E b):T zp) λd =>
 oC d <|
 U d <|
 X (lV (Expr.kids c) ((Expr.kids c).length:Int) (0,d)) λe =>
 oC e <|
 U e <|
 E e
def dq(b:AM.Expr):T zp :=
 oZ <|
 X (mH b []) λa =>
 U a <|
 E (zH 0 (zI (0+a.length) a))
def j8(l:List zp):T zp:=.W (zO l*24<=140737488351232/\zO (List.flatten l)*16<=140737488355328/\l≠[])<|E (List.flatten l)
def uC(a:Param)(b:zx):T Bool :=
 E (wG a.1 b)
def yw(a:zx)(e:zp)(f:Form):T Bool :=
 X (wL e a) λb =>
 V (!b)
  (X (vP f.2.1 (λc=>uC c a)) λd =>
 E (!d))
  (E false)
def lM(i:Form)(j:zp)(d:qq)(h:Int):(zp×Int)->T ((zp×Int)⊕zp)
 | (c,b)=>let a:=nth d b (zb xj);
 V (B (b<h))
  (oI b d <|
 X (dq (Expr.mk (Expr.kind a.2.2.2.1) ((Expr.num a.2.2.2.1).1,((Expr.num a.2.2.2.1).2.1,((Expr.num a.2.2.2.1).2.2.1,()))) (Expr.name a.2.2.2.1) (Expr.kids a.2.2.2.1))) λe =>
 X (dq (Expr.mk (Expr.kind a.2.2.2.2.1) ((Expr.num a.2.2.2.2.1).1,((Expr.num a.2.2.2.2.1).2.1,((Expr.num a.2.2.2.2.1).2.2.1,()))) (Expr.name a.2.2.2.2.1) (Expr.kids a.2.2.2.2.1))) λf =>
 X (j8 ([c,e,f]:List zp)) λg =>
 E (zG (g,(qo (b+1)))))
  (E (zF c))
def lK f1 fields1 x x1 s:=zJ (lM f1 fields1 x x1) s
def lN(i:Form)(j:zp)(d:xa)(h:Int):(zp×Int)->T ((zp×Int)⊕zp)
 | (c,b)=>let a:=nth d b (zb xm);
 V (B (b<h))
  (oI b d <|
 X (dq (Expr.mk (Expr.kind a.2.2.2.1) ((Expr.num a.2.2.2.1).1,((Expr.num a.2.2.2.1).2.1,((Expr.num a.2.2.2.1).2.2.1,()))) (Expr.name a.2.2.2.1) (Expr.kids a.2.2.2.1))) λe =>
 X (dq (Expr.mk (Expr.kind a.2.2.2.2.1) ((Expr.num a.2.2.2.2.1).1,((Expr.num a.2.2.2.2.1).2.1,((Expr.num a.2.2.2.2.1).2.2.1,()))) (Expr.name a.2.2.2.2.1) (Expr.kids a.2.2.2.2.1))) λf =>
 X (j8 ([c,e,f]:List zp)) λg =>
 E (zG (g,(qo (b+1)))))
  (E (zF c))
def lL f2 fields2 x3 x4 s:=zJ (lN f2 fields2 x3 x4) s
def mu(a:Form)(d:zp):T (zx×Bool) :=
 X (lK a d a.2.2.2.2.2.1 (a.2.2.2.2.2.1.length:Int) ([],0)) λe =>
 X (lL a d a.2.2.2.2.1 (a.2.2.2.2.1.length:Int) (e,0)) λb =>
 X (wU b (λf=>yw f d a)) λc =>
 V (B (c<0))
  (E ([],false))
  (oI c b <|
 E ((nth b c (zb .str)),true))
def bQ(b:zx)(c:zp):T Bool :=
 X (wL c b) λa =>
 E a
def kC(b:zp)(c:zx->T Bool):T Bool :=
 X (wU b c) λa =>
 E (B (0<=a))
def tK(d:AM.Expr)(e:zp):T Bool :=
 X (dq d) λa =>
 X (kC a (λb=>bQ b e)) λc =>
 E c
def uY(b:AM.Expr->zp->T Bool)(c:AM.Expr)(d:zp):T Bool :=
 X (b c d) λa =>
 E (!a)
def yi(f:AM.Expr->zp->T Bool)(b:cX)(d:AM.Expr->T Bool)(e:Int):Int->T (Int⊕(Unit⊕Int))
 | a =>
 V (B (a<e))
  (oI a b <|
 X (d (nth b a (zb .expr))) λc =>
 V c
  (E (zF (zF a)))
  (E (zG (qo (a+1)))))
  (E (zF (zG ())))
def cT self_check_Linear s1 f x s:=zJ (yi self_check_Linear s1 f x) s
def gY(c:AM.Expr->zp->T Bool)(a:cX)(d:AM.Expr->T Bool):T Int :=
 X (cT c a d (a.length:Int) 0) <|
 zK (λ_ =>
 E (-1))
  (λb =>
 E b)
def ja(b:AM.Expr->zp->T Bool)(c:cX)(d:AM.Expr->T Bool):T Bool :=
 X ((gY b) c d) λa =>
 E (B (0<=a))
def cZ(e:AM.Expr->zp->T Bool)(a:AM.Expr)(d:zp):T Bool :=
 let c:=tK (nth (Expr.kids a) 1 (zb .expr)) d; let b:=((nth (Expr.kids a) 0 (zb .expr)),(nth (Expr.kids a) 1 (zb .expr)));  X (V (((Expr.kids a).length:Int)==2)
  (oI 0 (Expr.kids a) <|
 oI 1 (Expr.kids a) <|
 X (V ((Expr.kind a)==5)
  (X (tK (nth (Expr.kids a) 0 (zb .expr)) d) λf =>
 V f
  (X c λg =>
 V g
  (E (true,b))
  (V ((Expr.kind a)==6)
  (X c λh =>
 E (h,b))
  (E (false,b))))
  (V ((Expr.kind a)==6)
  (X c λi =>
 E (i,b))
  (E (false,b))))
  (V ((Expr.kind a)==6)
  (X c λj =>
 E (j,b))
  (E (false,b))):T ((Bool×AM.Expr×AM.Expr))) λ(k,o,p) =>
 V k
  (E (zF false))
  (E (zG ())))
  (E (zG ())):T (Unit⊕Bool)) <|
 zK (λ_ =>
 X ((ja e) (Expr.kids a) (λl=>(uY e) l d)) λm =>
 E (!m))
  (λn =>
 E n)
def fI(e:AM.Expr)(fields:zp):T Bool:=T.fix (λF x=>cZ (λy0 y1=>F (y0,y1)) x.1 x.2) (e,fields)
def nJ(e:Form)(c:qp)(d:Int):(Int×zp)->T ((Int×zp)⊕zp)
 | (b,a) =>
 V (B (b<d))
  (oI b c <|
 oA a 16 <|
 oM (a.length+1) (a++([(nth c b (zb qw)).1]:List zx)).length <|
 E (zG ((qo (b+1)),(a++([(nth c b (zb qw)).1]:List zx)))))
  (oC a <|
 U a <|
 E (zF a))
def nH f1 x x1 s:=zJ (nJ f1 x x1) s
def nK(e:xa)(j:Int):(Int×zp)->T ((Int×zp)⊕(zp⊕(Int×zx×zp)))
 | (d,a)=>let b:=nth e d (zb xm);
 V (B (d<j))
  (oI d e <|
 X (U a <|
 X (fI (Expr.mk (Expr.kind b.2.2.2.1) ((Expr.num b.2.2.2.1).1,((Expr.num b.2.2.2.1).2.1,((Expr.num b.2.2.2.1).2.2.1,()))) (Expr.name b.2.2.2.1) (Expr.kids b.2.2.2.1)) (zH 0 (zI (0+a.length) a))) λf =>
 V (!f)
  (oC a <|
 U a <|
 E (true,(a,b)))
  (U a <|
 X (fI (Expr.mk (Expr.kind b.2.2.2.2.1) ((Expr.num b.2.2.2.2.1).1,((Expr.num b.2.2.2.2.1).2.1,((Expr.num b.2.2.2.2.1).2.2.1,()))) (Expr.name b.2.2.2.2.1) (Expr.kids b.2.2.2.2.1)) (zH 0 (zI (0+a.length) a))) λg =>
 oC a <|
 U a <|
 E ((!g),(a,b))):T ((Bool×zp×eb))) λ(h,c,i) =>
 V h
  (U c <|
 E (zF (zF (6,(i.1,c)))))
  (oC c <|
 U c <|
 E (zG ((qo (d+1)),c))))
  (U a <|
 E (zF (zG a)))
def nI x3 x4 s:=zJ (nK x3 x4) s
def fJ(a:Form):T (Int×zx) :=
 X (Za a) λc =>
 V (!c)
  (E (2,[]))
  (V ((B (64<(a.2.2.2.1.length:Int)))||(B (64<(a.2.2.2.2.1.length:Int))))
  (E (3,[]))
  (X (sy a) λd =>
 X (sA d) λ(e,f) =>
 V f
  (E (5,e))
  (X (eH a) λ(g,h) =>
 V h
  (E (5,g))
  (oZ <|
 X (nH a a.2.2.2.1 (a.2.2.2.1.length:Int) (0,[])) λb =>
 U b <|
 X (mu a (zH 0 (zI (0+b.length) b))) λ(i,j) =>
 V j
  (E (5,i))
  (oC b <|
 U b <|
 X (nI a.2.2.2.2.1 (a.2.2.2.2.1.length:Int) (0,b)) <|
 zK (λm =>
 E (0,[]))
  (λ(k,l,n) =>
 E (k,l)))))))
def sY(a:Form):T zx :=
 X (Za a) λb =>
 V (!b)
  (E [])
  (X (nw a) λc =>
 E c)
def strings_Split(a:zx)(b:zx):T zp :=
 .W (a.length<4294967281/\b.length=1) <|
 E (lj (List.headD b 0) a)
def strings_Cut(a:zx)(b:zx):T (zx×zx×Bool) :=
 .W (a.length<4294967281) <|
 E (E3 a b)
def sb(a:Int):T Bool :=
 E (a==32)
def strings_FieldsFunc(a:zx)(b:Int->T Bool):T zp :=
 .W (a.length<=4294967296) <|
 E (sj 32 [] a)
def tc(c:zx):T zp :=
 X (strings_FieldsFunc c (λa=>sb a)) λb =>
 E b
def strings_IndexAny(c:zx)(a:zx):T Int :=
 .W (c.length<4294967281/\2<=a.length/\a.length<4294967281/\(∀ b∈a,b.toNat<128)) <|
 E (rj c a)
def jV(b:zx)(a:zx):T Bool :=
 .W (((B ((a.length:Int)<=(b.length:Int)))=true)->(jA 0 (a.length:Int) b.length)) <|
 E ((B ((a.length:Int)<=(b.length:Int)))&&(wG (fN 0 (a.length:Int) b) a))
def strings_HasPrefix(b:zx)(c:zx):T Bool :=
 X (jV b c) λa =>
 E a
def bz  : zc->T (zc⊕(zc))
 | a =>
 .W (((B (a.2.1<(a.1.length:Int)))=true)->(xe a.2.1 a.1.length)) <|
 V ((B (a.2.1<(a.1.length:Int)))&&((ur a.1 a.2.1)==32))
  (E (zG (a.1,((qo (a.2.1+1)),(a.2.2.1,(a.2.2.2.1,()))))))
  (E (zF a))
def bw(s:zc):T (zc):=zJ (bz ) s
def dt(b:zc):T zc :=
 X (bw  b) λa =>
 E a
def strings_IndexByte(s:zx)(c:Int):T Int:=E (U5 s (byteOf c))
def uD(e:zx)(f:zc):T (Int×zc) :=
 X (dt f) λb =>
 X (V (B (b.2.1<(b.1.length:Int)))
  (oI b.2.1 b.1 <|
 X (strings_IndexByte e (ur b.1 b.2.1)) λc =>
 E ((B (0<=c)),b))
  (E (false,b)):T ((Bool×zc))) λ(d,a) =>
 V d
  (oI (qo ((qo (a.2.1+1))-1)) a.1 <|
 E ((ur a.1 (qo ((qo (a.2.1+1))-1))),(a.1,((qo (a.2.1+1)),(a.2.2.1,(a.2.2.2.1,()))))))
  (E (0,a))
def vn(a:Int)(b:Int)(c:zc):T (zc⊕(xh×zc)) :=
 E (zF ((a,(b,())),c))
def kz(a:zc):T (zc⊕(xh×zc)) :=
 V (B (32<=(qo (a.2.2.1+1))))
  (X (vn 4 (qo (a.2.1-1)) (a.1,(a.2.1,((qo (a.2.2.1+1)),(a.2.2.2.1,()))))) <|
 zK (λb =>
 E (zG b))
  (λ(c,d) =>
 E (zF (c,d))))
  (E (zG (a.1,(a.2.1,((qo (a.2.2.1+1)),(a.2.2.2.1,()))))))
def ye(e:Int->T Bool)(f:Int)(g:Int):zc->T (zc⊕(zc))
 | a =>
 X (V (B (a.2.1<(a.1.length:Int)))
  (V (B ((qo (a.2.1-g))<f))
  (oI a.2.1 a.1 <|
 X (e (ur a.1 a.2.1)) λc =>
 E (c,a))
  (E (false,a)))
  (E (false,a)):T ((Bool×zc))) λ(d,b) =>
 V d
  (E (zG (b.1,((qo (b.2.1+1)),(b.2.2.1,(b.2.2.2.1,()))))))
  (E (zF b))
def bX is most1 from_ s:=zJ (ye is most1 from_) s
def uE(c:Int->T Bool)(d:Int)(b:zc):T (zx×zc) :=
 X (bX c d b.2.1 b) λa =>
 .W (jA b.2.1 a.2.1 a.1.length) <|
 E ((fN b.2.1 a.2.1 a.1),a)
def strings_CutPrefix(a:zx)(b:zx):T (zx×Bool) :=
 E (De a b,List.isPrefixOf b a)
def hJ(c:Int):zx->T (zx⊕zx)
 | a=>let b:=qo ((a.length:Int)-1);
 .W (((B (0<(a.length:Int)))=true)->(xe b a.length)) <|
 V ((B (0<(a.length:Int)))&&((ur a b)==c))
  (.W (jA 0 b a.length) <|
 E (zG (fN 0 b a)))
  (E (zF a))
def hH c1 s:=zJ (hJ c1) s
def strings_trimRightByte(b:zx)(c:Int):T zx :=
 X (hH c b) λa =>
 E a
def bI(b:Int):zx->T (zx⊕zx)
 | a =>
 .W (((B (0<(a.length:Int)))=true)->(xe 0 a.length)) <|
 V ((B (0<(a.length:Int)))&&((ur a 0)==b))
  (.W (jA 1 (a.length:Int) a.length) <|
 E (zG (fN 1 (a.length:Int) a)))
  (E (zF a))
def bH c1 s:=zJ (bI c1) s
def strings_trimLeftByte(b:zx)(c:Int):T zx :=
 X (bH c b) λa =>
 E a
def strings_makeASCIISet(a:zx):T ((den (mO .bool 256))×Bool) :=
 .W (a.length<4294967281/\(∀ (j:Nat) b,a[j]? = some b->b.toNat<128)) <|
 E (lG a,true)
def vf(b:(den (mO .bool 256)))(a:Int):T Bool :=
 .W (xe a 256) <|
 E (Wv .bool (mO .bool 256) b (zE a))
def uB(d:(den (mO .bool 256))):zx->T (zx⊕zx)
 | a=>let b:=qo ((a.length:Int)-1);
 V (B (0<(a.length:Int)))
  (oI b a <|
 X (vf d (ur a b)) λc =>
 V (!c)
  (E (zF a))
  (.W (jA 0 b a.length) <|
 E (zG (fN 0 b a))))
  (E (zF a))
def jH as1 s:=zJ (uB as1) s
def ju(b:zx)(c:(den (mO .bool 256))):T zx :=
 X (jH c b) λa =>
 E a
def uW(c:(den (mO .bool 256))):zx->T (zx⊕zx)
 | a =>
 V (B (0<(a.length:Int)))
  (oI 0 a <|
 X (vf c (ur a 0)) λb =>
 V (!b)
  (E (zF a))
  (.W (jA 1 (a.length:Int) a.length) <|
 E (zG (fN 1 (a.length:Int) a))))
  (E (zF a))
def ko as1 s:=zJ (uW as1) s
def jN(b:zx)(c:(den (mO .bool 256))):T zx :=
 X (ko c b) λa =>
 E a
def cp(b:zx)(a:zx):T zx :=
 V ((wG b [])||(wG a []))
  (E b)
  (.W ((((a.length:Int)==1)=true)->(xe 0 a.length)) <|
 V (((a.length:Int)==1)&&(B ((ur a 0)<128)))
  (oI 0 a <|
 X (strings_trimRightByte b (ur a 0)) λd =>
 oI 0 a <|
 X (strings_trimLeftByte d (ur a 0)) λe =>
 E e)
  (X (strings_makeASCIISet a) λ(c,f) =>
 V f
  (X (ju b c) λg =>
 X (jN g c) λh =>
 E h)
  (.fail)))
def V7(h:z7)(c:z7)(e:z7)(g:Int):(Int×Int×z7)->T ((Int×Int×z7)⊕((Int×z7)))
 | (d,a,b)=>let f:=bif (B (a<(c.length:Int)))then(wk ((wk (d+(wk (nth e a (zb (.int .u32))))))+(wk (nth c a (zb (.int .u32))))))else(wk (d+(wk (nth e a (zb (.int .u32))))));
 V (B (a<g))
  (oI a e <|
 .W (((B (a<(c.length:Int)))=true)->(xe a c.length)) <|
 oI a b <|
 .W (uO b.length b.length (0+(zE a)) b.length) <|
 .W (0<=(32:Int)) <|
 oM b.length (zL b (0+(zE a)) (gP f)).length <|
 E (zG ((jk .u64 f 32),((qo (a+1)),(zL b (0+(zE a)) (gP f))))))
  (oC b <|
 U b <|
 E (zF (d,b)))
def V6 a2 b2 x x1 s:=zJ (V7 a2 b2 x x1) s
def Uf(h:z7)(i:z7):T z7 :=
 X (vY h) λc =>
 X (vY i) λd=>let e:=bif (B ((c.length:Int)<(d.length:Int)))then d else c; let a:=(e.length:Int);
 .W (eF (qo (a+1)) (qo (a+1)) 4) <|
 oM (zE (qo (a+1))) (zM (zE (qo (a+1))) (0:Int)).length <|
 X (V6 e (bif (B ((c.length:Int)<(d.length:Int)))then c else d) e a (0,(0,(zM (zE (qo (a+1))) 0)))) λ(f,b) =>
 oI a b <|
 .W (uO b.length b.length (0+(zE a)) b.length) <|
 U b <|
 X (vY (zH 0 (zI (0+b.length) (zL b (0+(zE a)) (gP f))))) λg =>
 E g
def ZT(c:zx)(g:Int):(z7×Int)->T ((z7×Int)⊕z7)
 | (b,a) =>
 V (B (a<g))
  (X (iA b ([10]:List Int)) λd =>
 oI a c <|
 X (iB (wk (wu8 ((ur c a)-48)))) λe =>
 X (Uf d e) λf =>
 E (zG (f,(qo (a+1)))))
  (E (zF b))
def ZS s1 x1 s:=zJ (ZT s1 x1) s
def mb(a:zx):T (z7×Bool) :=
 X (V (wG a [])
  (E true)
  (V (B (400<(a.length:Int)))
  (E true)
  (X (cp a [48,49,50,51,52,53,54,55,56,57]) λb =>
 E (!(wG b [])))):T Bool) λc =>
 V c
  (E ([],false))
  (X (ZS a (a.length:Int) ([],0)) λd =>
 E (d,true))
def pe(f:zx):T (Rat×Int) :=
 V (B (400<(f.length:Int)))
  (E ((false,(([]:List Int),(([]:List Int),()))),3))
  (X (strings_CutPrefix f [45]) λ(c,d) =>
 X (strings_Cut c [46]) λ(b,a,g) =>
 V g
  (X (mb a) λ(t,h) =>
 oK b a <|
 X (mb (cat b a)) λ(i,j) =>
 V ((wG b [])||((!h)||(!j)))
  (E ((false,(([]:List Int),(([]:List Int),()))),2))
  (X (VN (a.length:Int)) λk =>
 X (rP d i k) λl =>
 E (l,0)))
  (X (strings_Cut c [47]) λ(m,n,o) =>
 X (mb m) λ(p,q) =>
 X (mb (bif (!o)then[49]else n)) λ(e,r) =>
 V ((!q)||((!r)||((e.length:Int)==0)))
  (E ((false,(([]:List Int),(([]:List Int),()))),2))
  (X (rP d p e) λs =>
 E (s,0))))
def kv(i:zc):T ((AM.Expr×zc)⊕(xh×zc)) :=
 X (uE (λe=>ke e) (i.1.length:Int) i) λ(c,a) =>
 X (.W (((B (a.2.1<(a.1.length:Int)))=true)->(xe a.2.1 a.1.length)) <|
 V ((B (a.2.1<(a.1.length:Int)))&&((ur a.1 a.2.1)==46))
  (X (uE (λe=>ke e) (a.1.length:Int) (a.1,((qo (a.2.1+1)),(a.2.2.1,(a.2.2.2.1,()))))) λ(b,f) =>
 V (wG b [])
  (X (vn 2 f.2.1 f) <|
 zK (λj =>
 oK [46] b <|
 oK c (cat [46] b) <|
 E (zG ((cat c (cat [46] b)),(j,(Expr.mk 0 (false,([],([],()))) [] [])))))
  (λ(k,l) =>
 E (zF (k,(l,(Expr.mk 0 (false,([],([],()))) [] []))))))
  (oK [46] b <|
 oK c (cat [46] b) <|
 E (zG ((cat c (cat [46] b)),(f,(Expr.mk 0 (false,([],([],()))) [] []))))))
  (E (zG (c,(a,(Expr.mk 0 (false,([],([],()))) [] []))))):T ((zx×zc×AM.Expr)⊕(xh×zc×AM.Expr))) <|
 zK (λ(h,d,o) =>
 V (B (400<(h.length:Int)))
  (E (zG ((Expr.mk 1 (false,([],([],()))) [] []),(d.1,(d.2.1,(d.2.2.1,(true,())))))))
  (X (pe h) λ(g,p) =>
 E (zG ((Expr.mk 1 (g.1,(g.2.1,(g.2.2.1,()))) [] []),d))))
  (λ(m,n,q) =>
 E (zF (m,n)))
def uv(zD:zc->T ((AM.Expr×zc)⊕(xh×zc)))(zk:zc->T ((AM.Expr×zc)⊕(xh×zc)))(zC:zc):T ((AM.Expr×zc)⊕(xh×zc)) :=
 X (uD [45,40] zC) λ(h,a)=>let j:=(a,(Expr.mk 0 (false,([],([],()))) [] []));
 V (h==45)
  (X (kz a) <|
 zK (λk =>
 X (zD k) <|
 zK (λ(l,c) =>
 E (zG ((Expr.mk 7 (false,([],([],()))) [] [l]),(c.1,(c.2.1,((qo (c.2.2.1-1)),(c.2.2.2.1,())))))))
  (λ(m,n) =>
 E (zF (m,n))))
  (λ(o,p) =>
 E (zF (o,p))))
  (V (h==40)
  (X (kz a) <|
 zK (λq =>
 X (zk q) <|
 zK (λ(r,s)=>let g:=((Expr.mk 0 (false,([],([],()))) [] []),r);
 X (X (uD [41] s) λ(t,e) =>
 V (t==0)
  (X (vn 2 e.2.1 e) <|
 zK (λu =>
 E (zG (u,g)))
  (λ(v,w) =>
 E (zF (v,(w,g)))))
  (E (zG (e,g))):T ((zc×AM.Expr×AM.Expr)⊕(xh×zc×AM.Expr×AM.Expr))) <|
 zK (λ(d,κ',x) =>
 E (zG (x,(d.1,(d.2.1,((qo (d.2.2.1-1)),(d.2.2.2.1,())))))))
  (λ(y,z,κ,aa) =>
 E (zF (y,z))))
  (λ(A,zA) =>
 E (zF (A,zA))))
  (λ(C,D) =>
 E (zF (C,D))))
  (X (V (B (a.2.1<(a.1.length:Int)))
  (oI a.2.1 a.1 <|
 X (ke (ur a.1 a.2.1)) λzB =>
 E (zB,j))
  (E (false,j)):T ((Bool×zc×AM.Expr))) λ(G,b,i) =>
 V G
  (X (kv b) <|
 zK (λ(H,hb) =>
 E (zG (H,hb)))
  (λ(hd,K) =>
 E (zF (hd,K))))
  (X (V (B (b.2.1<(b.1.length:Int)))
  (oI b.2.1 b.1 <|
 X (cx (ur b.1 b.2.1)) λL =>
 E (L,(b,i)))
  (E (false,(b,i))):T ((Bool×zc×AM.Expr))) λ(h2,f,ab) =>
 V h2
  (X (uE (λhx=>bW hx) 24 f) λ(z6,P) =>
 E (zG ((Expr.mk 2 (false,([],([],()))) z6 []),P)))
  (X (vn 2 f.2.1 f) <|
 zK (λhl =>
 E (zG ((Expr.mk 0 (false,([],([],()))) [] []),hl)))
  (λ(S,oE) =>
 E (zF (S,oE)))))))
def vC(kB:zc->T ((AM.Expr×zc)⊕(xh×zc)))(p:zc):T ((AM.Expr×zc)⊕(xh×zc)):=T.fix (λF x=>uv (λy0=>F (y0)) kB x) p
def vd(l:zc->T ((AM.Expr×zc)⊕(xh×zc)))(f:zx)(m:xh):(zc×AM.Expr×AM.Expr)->T ((zc×AM.Expr×AM.Expr)⊕((zc×AM.Expr×AM.Expr)⊕(xh×zc×AM.Expr×AM.Expr)))
 | (k,e,a) =>
 X (uD f k) λ(b,c) =>
 V (b==0)
  (E (zF (zG (c,(a,a)))))
  (X ((vC l) c) <|
 zK (λ(g,h) =>
 X (strings_IndexByte f b) λd =>
 .W (xe d 2) <|
 E (zG (h,(e,(Expr.mk (Wv (.int .i64) um m (zE d)) (false,([],([],()))) [] [a,g])))))
  (λ(i,j) =>
 E (zF (zF (i,(j,(e,a)))))))
def vb kB marks1 kinds1 s:=zJ (vd kB marks1 kinds1) s
def wu(a:zc->T ((AM.Expr×zc)⊕(xh×zc)))(p:Unit)(j:zx)(k:xh)(l:zc):T ((AM.Expr×zc)⊕(xh×zc)) :=
 X ((vC a) l) <|
 zK (λ(b,c) =>
 X (vb a j k (c,((Expr.mk 0 (false,([],([],()))) [] []),b))) <|
 zK (λ(d,e,m) =>
 E (zG (e,d)))
  (λ(f,g,n,o) =>
 E (zF (f,g))))
  (λ(h,i) =>
 E (zF (h,i)))
def vt(e:zc->T ((AM.Expr×zc)⊕(xh×zc)))(f:zc):T ((AM.Expr×zc)⊕(xh×zc)) :=
 X ((wu e) () [42,47] ((5:Int),((6:Int),())) f) <|
 zK (λ(a,b) =>
 E (zG (a,b)))
  (λ(c,d) =>
 E (zF (c,d)))
def wW(l:zc->T ((AM.Expr×zc)⊕(xh×zc)))(f:zx)(m:xh):(zc×AM.Expr×AM.Expr)->T ((zc×AM.Expr×AM.Expr)⊕((zc×AM.Expr×AM.Expr)⊕(xh×zc×AM.Expr×AM.Expr)))
 | (k,e,a) =>
 X (uD f k) λ(b,c) =>
 V (b==0)
  (E (zF (zG (c,(a,a)))))
  (X ((vt l) c) <|
 zK (λ(g,h) =>
 X (strings_IndexByte f b) λd =>
 .W (xe d 2) <|
 E (zG (h,(e,(Expr.mk (Wv (.int .i64) um m (zE d)) (false,([],([],()))) [] [a,g])))))
  (λ(i,j) =>
 E (zF (zF (i,(j,(e,a)))))))
def wV kB marks1 kinds1 s:=zJ (wW kB marks1 kinds1) s
def wo(a:zc->T ((AM.Expr×zc)⊕(xh×zc)))(p:Unit)(j:zx)(k:xh)(l:zc):T ((AM.Expr×zc)⊕(xh×zc)) :=
 X ((vt a) l) <|
 zK (λ(b,c) =>
 X (wV a j k (c,((Expr.mk 0 (false,([],([],()))) [] []),b))) <|
 zK (λ(d,e,m) =>
 E (zG (e,d)))
  (λ(f,g,n,o) =>
 E (zF (f,g))))
  (λ(h,i) =>
 E (zF (h,i)))
def kZ(e:zc->T ((AM.Expr×zc)⊕(xh×zc)))(f:zc):T ((AM.Expr×zc)⊕(xh×zc)) :=
 X ((wo e) () [43,45] ((3:Int),((4:Int),())) f) <|
 zK (λ(a,b) =>
 E (zG (a,b)))
  (λ(c,d) =>
 E (zF (c,d)))
def cO(p:zc):T ((AM.Expr×zc)⊕(xh×zc)):=T.fix (λF x=>kZ (λy0=>F (y0)) x) p
def gK(a:AM.Expr)(b:Int)(c:Int):T (AM.Expr×Int×Int) :=
 V false
  (.fail)
  (E (a,(b,c)))
def yV(a:xh)(b:AM.Expr)(c:Int)(d:Int):T (AM.Expr×Int×Int) :=
 V true
  (V (!true)
  (.fail)
  (E ((Expr.mk 0 (false,([],([],()))) [] []),(a.2.1,a.1))))
  (E (b,(c,d)))
def ir(t:zc):T (AM.Expr×Int×Int×zc) :=
 X (cO t) <|
 zK (λ(b,a) =>
 V (B (a.2.1<(a.1.length:Int)))
  (X (vn 2 a.2.1 a) <|
 zK (λc =>
 X (gK b 0 0) λ(d,e,f) =>
 E (d,(e,(f,c))))
  (λ(g,h) =>
 X (yV g b 0 0) λ(i,j,k) =>
 E (i,(j,(k,h)))))
  (X (gK b 0 0) λ(l,m,n) =>
 E (l,(m,(n,a)))))
  (λ(o,p) =>
 X (yV o (Expr.mk 0 (false,([],([],()))) [] []) 0 0) λ(q,r,s) =>
 E (q,(r,(s,p))))
def rb(i:zx):T (AM.Expr×Int×Int) :=
 X (ir (i,((0:Int),((0:Int),(false,()))))) λ(a,e,b,c)=>let d:=((Expr.mk 0 (false,([],([],()))) [] []),(c,a));
 V (b != 0)
  (E ((Expr.mk 0 (false,([],([],()))) [] []),(e,b)))
  (X (V c.2.2.2.1
  (E (true,d))
  (X (ik a) λf =>
 E ((!f),d)):T ((Bool×AM.Expr×zc×AM.Expr))) λ(g,j,k,h) =>
 V g
  (E ((Expr.mk 0 (false,([],([],()))) [] []),(0,3)))
  (E (h,(0,0))))
def strings_Contains(a:zx)(b:zx):T Bool :=
 .W (a.length<4294967281) <|
 E (B (0<=Yp a b))
def dC(b:zx)(v:zx):T (AM.Expr×AM.Expr×zx×Int) :=
 X (strings_IndexAny b [60,61]) λa=>let c:=fN (qo (a+1)) (b.length:Int) b;
 V (B (a<0))
  (E ((Expr.mk 0 (false,([],([],()))) [] []),((Expr.mk 0 (false,([],([],()))) [] []),([],2))))
  (.W (jA 0 a b.length) <|
 .W (jA (qo (a+1)) (b.length:Int) b.length) <|
 .W (jA a (qo (a+1)) b.length) <|
 X (X (V (wG (fN a (qo (a+1)) b) [60])
  (X (strings_HasPrefix c [61]) λm =>
 E (m,((Expr.mk 0 (false,([],([],()))) [] []),(Expr.mk 0 (false,([],([],()))) [] []))))
  (E (false,((Expr.mk 0 (false,([],([],()))) [] []),(Expr.mk 0 (false,([],([],()))) [] [])))):T ((Bool×AM.Expr×AM.Expr))) λ(n,e,f) =>
 V n
  (.W (jA 1 (c.length:Int) c.length) <|
 E ([60,61],((fN 1 (c.length:Int) c),(e,f))))
  (E ((fN a (qo (a+1)) b),(c,(e,f)))):T ((zx×zx×AM.Expr×AM.Expr))) λ(g,o,w,p) =>
 X (rb (fN 0 a b)) λ(d,x,h) =>
 V (h != 0)
  (E (d,(p,([],h))))
  (X (X (rb o) λ(i,y,j) =>
 X (V (j==0)
  (X (strings_Contains v g) λq =>
 E ((!q),(d,i)))
  (E (false,(d,i))):T ((Bool×AM.Expr×AM.Expr))) λ(r,k,l) =>
 V r
  (E (2,(k,l)))
  (E (j,(k,l))):T ((Int×AM.Expr×AM.Expr))) λ(s,t,u) =>
 E (t,(u,(g,s)))))
def nu(a:zp)(b:Int)(c:Int)(d:zx):T Bool :=
 .W ((((a.length:Int)==b)=true)->(xe c a.length)) <|
 E (((a.length:Int)==b)&&(wG (nth a c (zb .str)) d))
def nt(b:zp)(a:Int):T (zx×Bool) :=
 V ((b.length:Int)==a)
  (E ([],true))
  (X (X (nu b (qo (a+2)) a [119,104,101,110]) λc =>
 V c
  (oI (qo (a+1)) b <|
 X (uQ (nth b (qo (a+1)) (zb .str))) λd =>
 E d)
  (E false):T Bool) λe =>
 V e
  (oI (qo (a+1)) b <|
 E ((nth b (qo (a+1)) (zb .str)),true))
  (E ([],false)))
def bj(i:zp)(x:zx)(z:Unit)(k:qc)(l:qh)(j:xc)(m:qp)(n:xa)(o:qq):T (Int×Unit×qc×qh×xc×qp×xa×qq) :=
 let p:=((),(k,(l,(j,(m,(n,o))))));  X (V ((i.length:Int) != 2)
  (oY k l j m n o <|
 E (true,p))
  (oI 1 i <|
 X (uQ (nth i 1 (zb .str))) λr =>
 V (!r)
  (oY k l j m n o <|
 E (true,p))
  (oY k l j m n o <|
 E (((j.length:Int)==0),p))):T ((Bool×Unit×qc×qh×xc×qp×xa×qq))) λ(s,y,e,f,b,g,h,a) =>
 V s
  (oY e f b g h a <|
 E (2,((),(e,(f,(b,(g,(h,a))))))))
  (oI 1 i <|
 X (dC x [60,61]) λ(c,d,t,u) =>
 X (bE) λv =>
 X (wE v t) λw=>let q:=a++([((nth i 1 (zb .str)),((qo ((b.length:Int)-1)),(w,((Expr.mk (Expr.kind c) ((Expr.num c).1,((Expr.num c).2.1,((Expr.num c).2.2.1,()))) (Expr.name c) (Expr.kids c)),((Expr.mk (Expr.kind d) ((Expr.num d).1,((Expr.num d).2.1,((Expr.num d).2.2.1,()))) (Expr.name d) (Expr.kids d)),())))))]:List Check);
 oA a 240 <|
 oC e <|
 oC f <|
 oC b <|
 oC g <|
 oC h <|
 .W (zw (a.length+1) 0 (a.length+1) q.length) <|
 U e <|
 U f <|
 U b <|
 U g <|
 U h <|
 .W ((a.length+1)=q.length) <|
 E (u,((),(e,(f,(b,(g,(h,q))))))))
def cj(a:zp)(A:zx)(D:Unit)(j:qc)(k:qh)(l:xc)(m:qp)(n:xa)(o:qq):T (Int×Unit×qc×qh×xc×qp×xa×qq) :=
 let p:=((),(j,(k,(l,(m,(n,o))))));  X (V (B ((a.length:Int)<3))
  (oY j k l m n o <|
 E (true,p))
  (X (kX) λr =>
 oI 1 a <|
 X (wL r (nth a 1 (zb .str))) λs =>
 V (!s)
  (oY j k l m n o <|
 E (true,p))
  (oI 2 a <|
 X (uQ (nth a 2 (zb .str))) λt =>
 oY j k l m n o <|
 E ((!t),p))):T ((Bool×Unit×qc×qh×xc×qp×xa×qq))) λ(u,zA,c,d,e,f,b,g) =>
 V u
  (oY c d e f b g <|
 E (2,((),(c,(d,(e,(f,(b,g))))))))
  (X (nt a 3) λ(v,w) =>
 V (!w)
  (oY c d e f b g <|
 E (2,((),(c,(d,(e,(f,(b,g))))))))
  (oI 2 a <|
 X (kX) λx =>
 oI 1 a <|
 X (wE x (nth a 1 (zb .str))) λy =>
 X (dC A [61]) λ(h,i,C,z)=>let q:=b++([((nth a 2 (zb .str)),(y,(v,((Expr.mk (Expr.kind h) ((Expr.num h).1,((Expr.num h).2.1,((Expr.num h).2.2.1,()))) (Expr.name h) (Expr.kids h)),((Expr.mk (Expr.kind i) ((Expr.num i).1,((Expr.num i).2.1,((Expr.num i).2.2.1,()))) (Expr.name i) (Expr.kids i)),())))))]:List eb);
 oA b 248 <|
 oC c <|
 oC d <|
 oC e <|
 oC f <|
 .W (zw (b.length+1) 0 (b.length+1) q.length) <|
 oC g <|
 U c <|
 U d <|
 U e <|
 U f <|
 .W ((b.length+1)=q.length) <|
 U g <|
 E (z,((),(c,(d,(e,(f,(q,g)))))))))
def cd(a:zp)(s:Unit)(h:qc)(i:qh)(j:xc)(k:qp)(l:xa)(m:qq):T (Bool×Unit×qc×qh×xc×qp×xa×qq) :=
 let n:=((),(h,(i,(j,(k,(l,m))))));  X (V ((a.length:Int) != 3)
  (oY h i j k l m <|
 E (true,n))
  (oI 1 a <|
 X (uQ (nth a 1 (zb .str))) λp =>
 V (!p)
  (oY h i j k l m <|
 E (true,n))
  (oI 2 a <|
 V (!(wG (nth a 2 (zb .str)) [111,110]))
  (oI 2 a <|
 oY h i j k l m <|
 E ((!(wG (nth a 2 (zb .str)) [111,102,102])),n))
  (oY h i j k l m <|
 E (false,n)))):T ((Bool×Unit×qc×qh×xc×qp×xa×qq))) λ(q,r,b,c,d,e,f,g)=>let o:=b++([((nth a 1 (zb .str)),((wG (nth a 2 (zb .str)) [111,110]),()))]:List Switch);
 V q
  (oY b c d e f g <|
 E (false,((),(b,(c,(d,(e,(f,g))))))))
  (oI 1 a <|
 oI 2 a <|
 oA b 24 <|
 .W (zw (b.length+1) 0 (b.length+1) o.length) <|
 oC c <|
 oC d <|
 oC e <|
 oC f <|
 oC g <|
 .W ((b.length+1)=o.length) <|
 U c <|
 U d <|
 U e <|
 U f <|
 U g <|
 E (true,((),(o,(c,(d,(e,(f,g))))))))
def cR(b:zp)(t:Unit)(h:qc)(i:qh)(j:xc)(k:qp)(l:xa)(m:qq):T (Bool×Unit×qc×qh×xc×qp×xa×qq) :=
 X (V ((b.length:Int) != 3)
  (oY h i j k l m <|
 E (true,((),(h,(i,(j,(k,(l,m))))))))
  (oI 1 b <|
 X (uQ (nth b 1 (zb .str))) λp =>
 oY h i j k l m <|
 E ((!p),((),(h,(i,(j,(k,(l,m)))))))):T ((Bool×Unit×qc×qh×xc×qp×xa×qq))) λ(q,s,c,a,d,e,f,g) =>
 V q
  (oY c a d e f g <|
 E (false,((),(c,(a,(d,(e,(f,g))))))))
  (oI 2 b <|
 X (pe (nth b 2 (zb .str))) λ(n,r)=>let o:=a++([((nth b 1 (zb .str)),((n.1,(n.2.1,(n.2.2.1,()))),()))]:List Param);
 oI 1 b <|
 oA a 72 <|
 oC c <|
 .W (zw (a.length+1) 0 (a.length+1) o.length) <|
 oC d <|
 oC e <|
 oC f <|
 oC g <|
 U c <|
 .W ((a.length+1)=o.length) <|
 U d <|
 U e <|
 U f <|
 U g <|
 E ((r==0),((),(c,(o,(d,(e,(f,g))))))))
def cf(b:zp)(t:Unit)(h:qc)(i:qh)(j:xc)(k:qp)(l:xa)(m:qq):T (Bool×Unit×qc×qh×xc×qp×xa×qq) :=
 X (V (B ((b.length:Int)<2))
  (oY h i j k l m <|
 E (true,((),(h,(i,(j,(k,(l,m))))))))
  (oI 1 b <|
 X (uQ (nth b 1 (zb .str))) λo =>
 oY h i j k l m <|
 E ((!o),((),(h,(i,(j,(k,(l,m)))))))):T ((Bool×Unit×qc×qh×xc×qp×xa×qq))) λ(p,s,c,d,a,e,f,g) =>
 V p
  (oY c d a e f g <|
 E (false,((),(c,(d,(a,(e,(f,g))))))))
  (X (nt b 2) λ(q,r)=>let n:=a++([((nth b 1 (zb .str)),(q,()))]:List eQ);
 oI 1 b <|
 oA a 32 <|
 oC c <|
 oC d <|
 .W (zw (a.length+1) 0 (a.length+1) n.length) <|
 oC e <|
 oC f <|
 oC g <|
 U c <|
 U d <|
 .W ((a.length+1)=n.length) <|
 U e <|
 U f <|
 U g <|
 E (r,((),(c,(d,(n,(e,(f,g))))))))
def cS(a:zp)(aa:Unit)(A:qc)(zA:qh)(s:xc)(C:qp)(D:xa)(zB:qq):T (Bool×Unit×qc×qh×xc×qp×xa×qq) :=
 let hx:=((),(A,(zA,(s,(C,(D,zB)))))); let b:=(a.length:Int);  X (V (B (b<2))
  (oY A zA s C D zB <|
 E (true,hx))
  (oI 1 a <|
 X (uQ (nth a 1 (zb .str))) λz6 =>
 V (!z6)
  (oY A zA s C D zB <|
 E (true,hx))
  (oY A zA s C D zB <|
 E (((s.length:Int)==0),hx))):T ((Bool×Unit×qc×qh×xc×qp×xa×qq))) λ(P,zk,g,h,c,i,j,k) =>
 V P
  (oY g h c i j k <|
 E (false,((),(g,(h,(c,(i,(j,k))))))))
  (oI 1 a <|
 .W (jA 2 b a.length) <|
 X (.W (((B (0<(zN (jI (e:=.str) 2 b a).length:Int)))=true)->(xe 0 (jI (e:=.str) 2 b a).length)) <|
 V ((B (0<(zN (jI (e:=.str) 2 b a).length:Int)))&&(wG (nth (jI (e:=.str) 2 b a) 0 (zb .str)) [109,117,115,116]))
  (.W (jA 1 (zN (jI (e:=.str) 2 b a).length:Int) (jI (e:=.str) 2 b a).length) <|
 oY g h c i j k <|
 E ((jI (e:=.str) 1 (zN (jI (e:=.str) 2 b a).length:Int) (jI (e:=.str) 2 b a)),((),(g,(h,(c,(i,(j,(k,((nth a 1 (zb .str)),((qo ((c.length:Int)-1)),(true,((0:Int),())))))))))))))
  (oY g h c i j k <|
 E ((jI (e:=.str) 2 b a),((),(g,(h,(c,(i,(j,(k,((nth a 1 (zb .str)),((qo ((c.length:Int)-1)),(false,((0:Int),()))))))))))))):T ((zp×Unit×qc×qh×xc×qp×xa×qq×Field))) λ(d,zC,m,n,o,p,q,r,hl)=>let l:=nth d 1 (zb .str); let G:=((),(m,(n,(o,(p,(q,(r,hl)))))));
 X (X (X (nu d 2 0 [115,99,97,108,101]) λS =>
 V S
  (oI 1 d <|
 V ((l.length:Int)==1)
  (oI 1 d <|
 V (!(strLt l [48]))
  (oI 1 d <|
 oY m n o p q r <|
 E (((strLt l [57])||(wG l [57])),G))
  (oY m n o p q r <|
 E (false,G)))
  (oY m n o p q r <|
 E (false,G)))
  (oY m n o p q r <|
 E (false,G)):T ((Bool×Unit×qc×qh×xc×qp×xa×qq×Field))) λ(oE,κ',t,u,v,w,x,y,z) =>
 V oE
  (oI 1 d <|
 oI 0 l <|
 oY t u v w x y <|
 E ([],((),(t,(u,(v,(w,(x,(y,(z.1,(z.2.1,(z.2.2.1,((qo (wu8 ((ur l 0)-48))),())))))))))))))
  (oY t u v w x y <|
 E (d,((),(t,(u,(v,(w,(x,(y,z))))))))):T ((zp×Unit×qc×qh×xc×qp×xa×qq×Field))) λ(zD,κ,H,hb,hd,f,K,L,h2) =>
 oA f 40 <|
 oC H <|
 oC hb <|
 oC hd <|
 .W (zw (f.length+1) 0 (f.length+1) (f++[h2]).length) <|
 oC K <|
 oC L <|
 U H <|
 U hb <|
 U hd <|
 .W ((f.length+1)=(f++[h2]).length) <|
 U K <|
 U L <|
 E (((zD.length:Int)==0),((),(H,(hb,(hd,((f++[h2]),(K,L))))))))
def oU(ag:zx)(an:Unit)(b:qc)(c:qh)(d:xc)(e:qp)(f:xa)(g:qq):T (Int×Unit×qc×qh×xc×qp×xa×qq) :=
 let j:=((),(b,(c,(d,(e,(f,g))))));  X (strings_Cut ag [58]) λ(κ,K,i) =>
 X (tc κ) λa=>let hd:=B (0<(a.length:Int)); let h:=nth a 0 (zb .str);
 .W (((((a.length:Int)==0)=true)->(((!i)=false)->((hd=true)->((xe 0 a.length)/\(xe 0 h.length)))))/\((((a.length:Int)==0)=false)->((hd=true)->((xe 0 a.length)/\(xe 0 h.length))))) <|
 V (bif ((a.length:Int)==0)then((!i)||(hd&&((ur h 0)==35)))else(hd&&((ur h 0)==35)))
  (oY b c d e f g <|
 E (0,j))
  (V ((a.length:Int)==0)
  (V (!false)
  (oY b c d e f g <|
 E (2,j))
  (oY b c d e f g <|
 E (0,j)))
  (.W ((i=true)->(xe 0 a.length)) <|
 V (i&&(wG h [99,104,101,99,107]))
  (oY b c d e f g <|
 X (bj a K () b c d e f g) λ(aa,ah,L,h2,hx,z6,P,hl) =>
 oY L h2 hx z6 P hl <|
 E (aa,((),(L,(h2,(hx,(z6,(P,hl))))))))
  (.W ((i=true)->(xe 0 a.length)) <|
 V (i&&(wG h [114,117,108,101]))
  (oY b c d e f g <|
 X (cj a K () b c d e f g) λ(ab,ai,S,oE,zD,zk,zC,κ') =>
 oY S oE zD zk zC κ' <|
 E (ab,((),(S,(oE,(zD,(zk,(zC,κ'))))))))
  (V i
  (V (!false)
  (oY b c d e f g <|
 E (2,j))
  (oY b c d e f g <|
 E (0,j)))
  (oI 0 a <|
 V (wG h [115,119,105,116,99,104])
  (oY b c d e f g <|
 X (cd a () b c d e f g) λ(ac,aj,k,l,m,n,o,p) =>
 V (!ac)
  (oY k l m n o p <|
 E (2,((),(k,(l,(m,(n,(o,p))))))))
  (oY k l m n o p <|
 E (0,((),(k,(l,(m,(n,(o,p)))))))))
  (oI 0 a <|
 V (wG h [112,97,114,97,109])
  (oY b c d e f g <|
 X (cR a () b c d e f g) λ(ad,ak,q,r,s,t,u,v) =>
 V (!ad)
  (oY q r s t u v <|
 E (2,((),(q,(r,(s,(t,(u,v))))))))
  (oY q r s t u v <|
 E (0,((),(q,(r,(s,(t,(u,v)))))))))
  (oI 0 a <|
 V (wG h [112,97,103,101])
  (oY b c d e f g <|
 X (cf a () b c d e f g) λ(ae,al,w,x,y,z,A,zA) =>
 V (!ae)
  (oY w x y z A zA <|
 E (2,((),(w,(x,(y,(z,(A,zA))))))))
  (oY w x y z A zA <|
 E (0,((),(w,(x,(y,(z,(A,zA)))))))))
  (oI 0 a <|
 V (wG h [102,105,101,108,100])
  (oY b c d e f g <|
 X (cS a () b c d e f g) λ(af,am,C,D,zB,G,H,hb) =>
 V (!af)
  (oY C D zB G H hb <|
 E (2,((),(C,(D,(zB,(G,(H,hb))))))))
  (oY C D zB G H hb <|
 E (0,((),(C,(D,(zB,(G,(H,hb)))))))))
  (V (!false)
  (oY b c d e f g <|
 E (2,j))
  (oY b c d e f g <|
 E (0,j)))))))))))
def iW(u:zp)(w:Int):(Int×Unit×Unit×qq×qq×xa×xa×qc×qc×qh×qh×xc×xc×qp×qp)->T ((Int×Unit×Unit×qq×qq×xa×xa×qc×qc×qh×qh×xc×xc×qp×qp)⊕((Unit×Unit×qq×qq×xa×xa×qc×qc×qh×qh×xc×xc×qp×qp)⊕(Int×Int×Form×Unit×qq×qq×xa×xa×qc×qc×qh×qh×xc×xc×qp×qp)))
 | (m,y,z,a,n,b,o,c,p,d,q,e,r,f,s) =>
 V (B (m<w))
  (oI m u <|
 oY p q r s o n <|
 X (oU (nth u m (zb .str)) () p q r s o n) λ(t,x,g,h,i,j,k,l)=>let v:=((),(a,(l,(b,(k,(c,(g,(d,(h,(e,(i,(f,j))))))))))));
 V (t != 0)
  (oV g h i j k l <|
 oW a l b k c g <|
 oW d h e i f j <|
 E (zF (zF ((qo (m+1)),(t,((([]:List Switch),(([]:List Param),(([]:List eQ),(([]:List Field),(([]:List eb),(([]:List Check),())))))),v))))))
  (oV c d e f b a <|
 oV g h i j k l <|
 oW a l b k c g <|
 oW d h e i f j <|
 E (zG ((qo (m+1)),((),v)))))
  (oV c d e f b a <|
 oV p q r s o n <|
 oW a n b o c p <|
 oW d q e r f s <|
 E (zF (zG ((),((),(a,(n,(b,(o,(c,(p,(d,(q,(e,(r,(f,s))))))))))))))))
def rU x x1 s:=zJ (iW x x1) s
def nq(h:zx):T (Form×Int×Int) :=
 V (B (16384<(h.length:Int)))
  (E ((([]:List Switch),(([]:List Param),(([]:List eQ),(([]:List Field),(([]:List eb),(([]:List Check),())))))),(0,3)))
  (X (strings_Split h [10]) λg =>
 .W (zw 0 0 0 0) <|
 .W (zw 0 0 0 0) <|
 .W (zw 0 0 0 0) <|
 .W (zw 0 0 0 0) <|
 .W (zw 0 0 0 0) <|
 .W (zw 0 0 0 0) <|
 .W (zw 0 0 0 0) <|
 .W (zw 0 0 0 0) <|
 .W (zw 0 0 0 0) <|
 .W (zw 0 0 0 0) <|
 .W (zw 0 0 0 0) <|
 oZ <|
 .W (0=0) <|
 .W (0=0) <|
 .W (0=0) <|
 .W (0=0) <|
 .W (0=0) <|
 .W (0=0) <|
 .W (0=0) <|
 .W (0=0) <|
 .W (0=0) <|
 .W (0=0) <|
 .W (0=0) <|
 X (rU g (g.length:Int) (0,((),((),([],([],([],([],([],([],([],([],([],([],([],[]))))))))))))))) <|
 zK (λ(n,o,p,a,q,b,r,c,s,d,t,e,u,f)=>let i:=((zH 0 (zI (0+c.length) c)),((zH 0 (zI (0+d.length) d)),((zH 0 (zI (0+e.length) e)),((zH 0 (zI (0+f.length) f)),((zH 0 (zI (0+b.length) b)),((zH 0 (zI (0+a.length) a)),()))))));
 oW c d e f b a <|
 X (Za i) λj =>
 V (!j)
  (E ((([]:List Switch),(([]:List Param),(([]:List eQ),(([]:List Field),(([]:List eb),(([]:List Check),())))))),(0,2)))
  (oW c d e f b a <|
 E (i,(0,0))))
  (λ(k,l,m,v,w,x,y,z,A,zA,C,D,zB,G,H,hb) =>
 E (m,(k,l))))
def ZB(c:Form):T Form :=
 X (sY c) λa =>
 X (nq a) λ(b,d,e) =>
 E b
def yW(a:Int):T Rat :=
 X (iB (bif (B (a<0))then(wk (0-(wk a)))else(wk a))) λb =>
 X (iB 1) λc =>
 E ((B (a<0)),(b,(c,())))
def QS(a:Form)(b:qe):T Bool :=
 E (((b.2.2.1.length:Int)==(a.2.2.2.1.length:Int))&&(((b.2.2.2.1.length:Int)==(a.2.2.2.2.1.length:Int))&&(((b.2.2.2.2.1.length:Int)==(a.2.2.2.1.length:Int))&&((b.2.2.2.2.2.1.length:Int)==(a.2.2.2.1.length:Int)))))
def bU(a:Rat):T Bool :=
 X (tx a) λb =>
 V (!b)
  (E true)
  (X (cB a) λc =>
 E c)
def yR(b:zt)(d:Rat->T Bool)(e:Int):Int->T (Int⊕(Unit⊕Int))
 | a =>
 V (B (a<e))
  (oI a b <|
 X (d (nth b a (zb zl))) λc =>
 V c
  (E (zF (zF a)))
  (E (zG (qo (a+1)))))
  (E (zF (zG ())))
def sd s1 f x s:=zJ (yR s1 f x) s
def kQ(a:zt)(c:Rat->T Bool):T Int :=
 X (sd a c (a.length:Int) 0) <|
 zK (λ_ =>
 E (-1))
  (λb =>
 E b)
def vw(b:zt)(c:Rat->T Bool):T Bool :=
 X (kQ b c) λa =>
 E (B (0<=a))
def r9(c:qp)(d:Int):(Int×zp)->T ((Int×zp)⊕zp)
 | (b,a) =>
 V (B (b<d))
  (oI b c <|
 oA a 16 <|
 oM (a.length+1) (a++([(nth c b (zb qw)).1]:List zx)).length <|
 E (zG ((qo (b+1)),(a++([(nth c b (zb qw)).1]:List zx)))))
  (oC a <|
 U a <|
 E (zF a))
def r8 x x1 s:=zJ (r9 x x1) s
def sF(b:Form):T zp :=
 oZ <|
 X (r8 b.2.2.2.1 (b.2.2.2.1.length:Int) (0,[])) λa =>
 U a <|
 E (zH 0 (zI (0+a.length) a))
def bn(a:zt):T zt :=
 let b:=0+a.length;  .W (a=[]->∀ r,T.leads (.W (vV 0 0 0 0 0 a.length 56) <|
 .W (b=b) <|
 E (zH 0 (zI (0+b) a)):T _) r->T.leads (E []:T _) r) <|
 .W (vV 0 0 0 0 0 a.length 56) <|
 .W (b=b) <|
 E (zH 0 (zI (0+b) a))
def QV(h:qh)(i:Int):(Int×(zt×Unit)×(zp×zt×Unit)×zp×zp×zp)->T ((Int×(zt×Unit)×(zp×zt×Unit)×zp×zp×zp)⊕(((zt×Unit)×(zp×zt×Unit)×zp×zp×zp)))
 | (d,g,e,b,c,a)=>let f:=a++([(nth h d (zb qg)).1]:List zx);
 V (B (d<i))
  (oI d h <|
 oA a 16 <|
 oC b <|
 oC c <|
 .W (zw (a.length+1) 0 (a.length+1) f.length) <|
 U b <|
 U c <|
 .W ((a.length+1)=f.length) <|
 E (zG ((qo (d+1)),((g.1,()),((e.1,(e.2.1,())),(b,(c,f)))))))
  (oC b <|
 oC c <|
 oC a <|
 U b <|
 U c <|
 U a <|
 E (zF ((g.1,()),((e.1,(e.2.1,())),(b,(c,a))))))
def QU x x1 s:=zJ (QV x x1) s
def r7(b:Form)(f:zt):T wm :=
 X (sF b) λd =>
 X (bn f) λe =>
 .W (zw 0 0 0 0) <|
 .W (zw 0 0 0 0) <|
 oZ <|
 .W (0=0) <|
 .W (0=0) <|
 X (QU b.2.1 (b.2.1.length:Int) (0,(([],()),((d,(e,())),([],([],[])))))) λ(g,c,h,i,a) =>
 U a <|
 E (c.1,((zH 0 (zI (0+a.length) a)),(c.2.1,())))
def dN(a:Switch)(b:zx):T Bool :=
 E (wG a.1 b)
def XN(e:Form)(c:zq)(b:zx):T Bool :=
 X (wb e.1 (λd=>dN d b)) λa =>
 .W (((wG b [])=false)->(((B (0<=a))=true)->(xe a c.length))) <|
 E ((wG b [])||((B (0<=a))&&(nth c a (zb .bool))))
def lF(b:zt)(a:Int):T Rat :=
 V ((B (a<0))||(B ((b.length:Int)<=a)))
  (X (yW 0) λc =>
 E c)
  (oI a b <|
 X (vD (nth b a (zb zl))) λd =>
 E d)
def XG(g:zx)(d:wm):T (vI×Int) :=
 X (wE d.1 g) λe =>
 V (B (0<=e))
  (X (yW 1) λa =>
 X (yW 0) λb =>
 E (((0:Int),(([(e,((a.1,(a.2.1,(a.2.2.1,()))),()))]:List Term),((b.1,(b.2.1,(b.2.2.1,()))),()))),0))
  (X (wE d.2.1 g) λf =>
 V (B (f<0))
  (E (((0:Int),(([]:List Term),((false,(([]:List Int),(([]:List Int),()))),()))),5))
  (X (lF d.2.2.1 f) λc =>
 E (((0:Int),(([]:List Term),((c.1,(c.2.1,(c.2.2.1,()))),()))),0)))
def oP(f:Rat)(g:Rat):T Rat :=
 X (vD f) λa =>
 X (vD g) λb =>
 X (iA a.2.1 b.2.1) λc =>
 X (iA a.2.2.1 b.2.2.1) λd =>
 X (rP (!(a.1==b.1)) c d) λe =>
 E e
def iM(b:Rat):T Bool :=
 X (vD b) λa =>
 E ((a.2.1.length:Int)==0)
def Zj(k:Rat)(f:wB)(l:Int):(Int×(Int×Bool×z7×z7×Unit)×(Int×Bool×z7×z7×Unit)×wB×wB)->T ((Int×(Int×Bool×z7×z7×Unit)×(Int×Bool×z7×z7×Unit)×wB×wB)⊕(((Int×Bool×z7×z7×Unit)×(Int×Bool×z7×z7×Unit)×wB×wB)))
 | (b,c,d,e,a)=>let i:=((c.1,(c.2.1,(c.2.2.1,(c.2.2.2.1,())))),((d.1,(d.2.1,(d.2.2.1,(d.2.2.2.1,())))),(e,a)));
 V (B (b<l))
  (oI b f <|
 X (oP ((nth f b (zb qj)).2.1.1,((nth f b (zb qj)).2.1.2.1,((nth f b (zb qj)).2.1.2.2.1,()))) k) λg=>let h:=a++([((nth f b (zb qj)).1,((g.1,(g.2.1,(g.2.2.1,()))),()))]:List Term);
 X (iM g) λj =>
 V (!j)
  (oA a 64 <|
 oC e <|
 .W (zw (a.length+1) 0 (a.length+1) h.length) <|
 U e <|
 .W ((a.length+1)=h.length) <|
 E (zG ((qo (b+1)),((c.1,(c.2.1,(c.2.2.1,(c.2.2.2.1,())))),((d.1,(d.2.1,(d.2.2.1,(d.2.2.2.1,())))),(e,h))))))
  (oC e <|
 oC a <|
 U e <|
 U a <|
 E (zG ((qo (b+1)),i))))
  (oC e <|
 oC a <|
 U e <|
 U a <|
 E (zF i))
def Zi by_1 x x1 s:=zJ (Zj by_1 x x1) s
def dH(b:vI)(e:Rat):T vI :=
 X (oP b.2.2.1 e) λc =>
 .W (zw 0 0 0 0) <|
 oZ <|
 .W (0=0) <|
 X (Zi e b.2.1 (b.2.1.length:Int) (0,((0,(false,([],([],())))),((b.1,(c.1,(c.2.1,(c.2.2.1,())))),([],[]))))) λ(f,a,g,d) =>
 U d <|
 E (a.1,((zH 0 (zI (0+d.length) d)),((a.2.1,(a.2.2.1,(a.2.2.2.1,()))),())))
def Ve(c:z7)(e:z7)(h:Int):(Int×Int×z7)->T ((Int×Int×z7)⊕z7)
 | (g,a,b) =>
 V (B (a<h))
  (oI a e <|
 .W (((B (a<(c.length:Int)))=true)->(xe a c.length)) <|
 X (kV (nth e a (zb (.int .u32))) (bif (B (a<(c.length:Int)))then(nth c a (zb (.int .u32)))else 0) g) λ(d,f) =>
 oI a b <|
 .W (uO b.length b.length (0+(zE a)) b.length) <|
 oM b.length (zL b (0+(zE a)) d).length <|
 E (zG (f,((qo (a+1)),(zL b (0+(zE a)) d)))))
  (oC b <|
 U b <|
 E (zF b))
def Vd b2 x x1 s:=zJ (Ve b2 x x1) s
def Ui(c:z7)(d:z7):T (z7×Bool) :=
 X (sO c d) λe =>
 V (B (e<0))
  (E ([],false))
  (X (vY c) λa =>
 X (vY d) λf =>
 .W (eF (a.length:Int) (a.length:Int) 4) <|
 oM (zE (a.length:Int)) (zM (zE (a.length:Int)) (0:Int)).length <|
 X (Vd f a (a.length:Int) (0,(0,(zM (zE (a.length:Int)) 0)))) λb =>
 U b <|
 X (vY (zH 0 (zI (0+b.length) b))) λg =>
 E (g,true))
def oO(m:Rat)(n:Rat):T Rat :=
 X (vD m) λa =>
 X (vD n) λb =>
 X (iA a.2.1 b.2.2.1) λc =>
 X (iA b.2.1 a.2.2.1) λd =>
 X (iA a.2.2.1 b.2.2.1) λe =>
 V (a.1==b.1)
  (X (Uf c d) λf =>
 X (rP a.1 f e) λg =>
 E g)
  (X (Ui c d) λ(h,i) =>
 V i
  (X (rP a.1 h e) λj =>
 E j)
  (X (Ui d c) λ(k,o) =>
 X (rP b.1 k e) λl =>
 E l))
def WO  : (wB×wB×(Int×Bool×z7×z7×Unit)×(Int×Bool×z7×z7×Unit)×wB×wB)->T ((wB×wB×(Int×Bool×z7×z7×Unit)×(Int×Bool×z7×z7×Unit)×wB×wB)⊕(((Int×Bool×z7×z7×Unit)×(Int×Bool×z7×z7×Unit)×wB×wB)))
 | (b,a,n,o,c,d)=>let g:=(b.length:Int); let m:=nth a 0 (zb qj); let l:=nth b 0 (zb qj); let p:=(n.1,(n.2.1,(n.2.2.1,(n.2.2.2.1,())))); let q:=(o.1,(o.2.1,(o.2.2.1,(o.2.2.2.1,()))));
 V (B (0<(qo (g+(a.length:Int)))))
  (X (.W ((((a.length:Int)==0)=false)->(((B (0<g))=true)->((xe 0 b.length)/\(xe 0 a.length)))) <|
 V (((a.length:Int)==0)||((B (0<g))&&(B (l.1<m.1))))
  (oI 0 b <|
 oI 0 b <|
 X (vD l.2.1) λr =>
 .W (jA 1 g b.length) <|
 oC c <|
 oC d <|
 U c <|
 U d <|
 E ((jI (e:=qj) 1 g b),(a,(p,(q,(c,(d,(l.1,((r.1,(r.2.1,(r.2.2.1,()))),())))))))))
  (.W (((g==0)=false)->((xe 0 a.length)/\(xe 0 b.length))) <|
 V ((g==0)||(B (m.1<l.1)))
  (oI 0 a <|
 oI 0 a <|
 X (vD m.2.1) λs =>
 .W (jA 1 (a.length:Int) a.length) <|
 oC c <|
 oC d <|
 U c <|
 U d <|
 E (b,((jI (e:=qj) 1 (a.length:Int) a),(p,(q,(c,(d,(m.1,((s.1,(s.2.1,(s.2.2.1,()))),())))))))))
  (oI 0 b <|
 oI 0 b <|
 oI 0 a <|
 X (oO l.2.1 m.2.1) λt =>
 .W (jA 1 g b.length) <|
 .W (jA 1 (a.length:Int) a.length) <|
 oC c <|
 oC d <|
 U c <|
 U d <|
 E ((jI (e:=qj) 1 g b),((jI (e:=qj) 1 (a.length:Int) a),(p,(q,(c,(d,(l.1,((t.1,(t.2.1,(t.2.2.1,()))),())))))))))):T ((wB×wB×(Int×Bool×z7×z7×Unit)×(Int×Bool×z7×z7×Unit)×wB×wB×Term))) λ(u,v,h,i,j,f,k) =>
 X (iM (k.2.1.1,(k.2.1.2.1,(k.2.1.2.2.1,())))) λw =>
 V (!w)
  (oA f 64 <|
 oC j <|
 .W (zw (f.length+1) 0 (f.length+1) (f++[k]).length) <|
 U j <|
 .W ((f.length+1)=(f++[k]).length) <|
 E (zG (u,(v,((h.1,(h.2.1,(h.2.2.1,(h.2.2.2.1,())))),((i.1,(i.2.1,(i.2.2.1,(i.2.2.2.1,())))),(j,(f++[k]))))))))
  (oC j <|
 oC f <|
 U j <|
 U f <|
 E (zG (u,(v,((h.1,(h.2.1,(h.2.2.1,(h.2.2.2.1,())))),((i.1,(i.2.1,(i.2.2.1,(i.2.2.2.1,())))),(j,f))))))))
  (oC c <|
 oC d <|
 U c <|
 U d <|
 E (zF (p,(q,(c,d)))))
def WN(s:(wB×wB×(Int×Bool×z7×z7×Unit)×(Int×Bool×z7×z7×Unit)×wB×wB)):T (((Int×Bool×z7×z7×Unit)×(Int×Bool×z7×z7×Unit)×wB×wB)):=zJ (WO ) s
def XE(d:vI)(e:vI):T vI :=
 X (oO d.2.2.1 e.2.2.1) λb =>
 .W (zw 0 0 0 0) <|
 oZ <|
 .W (0=0) <|
 X (WN  (d.2.1,(e.2.1,((0,(false,([],([],())))),((d.1,(b.1,(b.2.1,(b.2.2.1,())))),([],[])))))) λ(f,a,g,c) =>
 U c <|
 E (a.1,((zH 0 (zI (0+c.length) c)),((a.2.1,(a.2.2.1,(a.2.2.2.1,()))),())))
def sT(d:Rat)(e:Rat):T (Rat×Bool) :=
 X (vD e) λa =>
 V ((a.2.1.length:Int)==0)
  (X (yW 0) λb =>
 E (b,false))
  (X (oP d (a.1,(a.2.2.1,(a.2.1,())))) λc =>
 E (c,true))
def Zk(c:Int)(a:vI)(b:vI):T (vI×Int) :=
 V (c==3)
  (X (XE a b) λd =>
 E (d,0))
  (V (c==4)
  (X (yW (-1)) λe =>
 X (dH b e) λf =>
 X (XE a f) λg =>
 E (g,0))
  (V (c==5)
  (V ((B (0<(a.2.1.length:Int)))&&(B (0<(b.2.1.length:Int))))
  (E (((0:Int),(([]:List Term),((false,(([]:List Int),(([]:List Int),()))),()))),6))
  (V (B (0<(a.2.1.length:Int)))
  (X (dH a b.2.2.1) λh =>
 E (h,0))
  (X (dH b a.2.2.1) λi =>
 E (i,0))))
  (X (yW 1) λj =>
 X (sT j b.2.2.1) λ(k,l) =>
 V (B (0<(b.2.1.length:Int)))
  (E (((0:Int),(([]:List Term),((false,(([]:List Int),(([]:List Int),()))),()))),6))
  (V (!l)
  (E (((0:Int),(([]:List Term),((false,(([]:List Int),(([]:List Int),()))),()))),7))
  (X (dH a k) λm =>
 E (m,0))))))
def dI(g:AM.Expr->wm->T (vI×Int))(a:AM.Expr)(c:wm):T (vI×Int) :=
 V ((Expr.kind a)==1)
  (X (vD (Expr.num a)) λb =>
 E (((0:Int),(([]:List Term),((b.1,(b.2.1,(b.2.2.1,()))),()))),0))
  (V ((Expr.kind a)==2)
  (X (XG (Expr.name a) c) λ(h,i) =>
 E (h,i))
  (oI 0 (Expr.kids a) <|
 X (g (nth (Expr.kids a) 0 (zb .expr)) c) λ(d,e) =>
 V (e != 0)
  (E (((0:Int),(([]:List Term),((false,(([]:List Int),(([]:List Int),()))),()))),e))
  (V ((Expr.kind a)==7)
  (X (yW (-1)) λj =>
 X (dH d j) λk =>
 E (k,0))
  (oI 1 (Expr.kids a) <|
 X (g (nth (Expr.kids a) 1 (zb .expr)) c) λ(l,f) =>
 V (f != 0)
  (E (((0:Int),(([]:List Term),((false,(([]:List Int),(([]:List Int),()))),()))),f))
  (X (Zk (Expr.kind a) d l) λ(m,n) =>
 E (m,n))))))
def Km(e:AM.Expr)(v:wm):T (vI×Int):=T.fix (λF x=>dI (λy0 y1=>F (y0,y1)) x.1 x.2) (e,v)
def KU(a:AM.Expr)(e:wm):T (vI×Int) :=
 X (ik a) λb =>
 V (!b)
  (E (((0:Int),(([]:List Term),((false,(([]:List Int),(([]:List Int),()))),()))),5))
  (X (Km a e) λ(c,d) =>
 E (c,d))
def ZA(b:eb)(g:wm):T (vI×Int) :=
 X (KU b.2.2.2.1 g) λ(c,d) =>
 V (d != 0)
  (E (c,d))
  (X (KU b.2.2.2.2.1 g) λ(e,f) =>
 V (f != 0)
  (E (e,f))
  (X (yW (-1)) λh =>
 X (dH e h) λi =>
 X (XE c i) λa =>
 E ((b.2.1,(a.2.1,((a.2.2.1.1,(a.2.2.1.2.1,(a.2.2.1.2.2.1,()))),()))),0)))
def gV(b:Term):T Bool :=
 X (cB b.2.1) λa =>
 E a
def yk(b:wB)(d:Term->T Bool)(e:Int):Int->T (Int⊕(Unit⊕Int))
 | a =>
 V (B (a<e))
  (oI a b <|
 X (d (nth b a (zb qj))) λc =>
 V c
  (E (zF (zF a)))
  (E (zG (qo (a+1)))))
  (E (zF (zG ())))
def p8 s1 f x s:=zJ (yk s1 f x) s
def ki(a:wB)(c:Term->T Bool):T Int :=
 X (p8 a c (a.length:Int) 0) <|
 zK (λ_ =>
 E (-1))
  (λb =>
 E b)
def vZ(b:wB)(c:Term->T Bool):T Bool :=
 X (ki b c) λa =>
 E (B (0<=a))
def Zz(a:vI):T Bool :=
 X (cB a.2.2.1) λb =>
 V b
  (E true)
  (X (vZ a.2.1 (λc=>gV c)) λd =>
 E d)
def fZ(i:zq)(j:Form)(e:xa)(k:Int):(Int×Unit×Unit×wm×zy×z7)->T ((Int×Unit×Unit×wm×zy×z7)⊕((Unit×Unit×wm×zy×z7)⊕(zx×Int×Unit×Unit×wm×zy×z7)))
 | (c,l,m,d,a,b) =>
 V (B (c<k))
  (oI c e <|
 X (XN j i (nth e c (zb xm)).2.2.1) λh =>
 V (!h)
  (oC a <|
 oC b <|
 U a <|
 U b <|
 E (zG ((qo (c+1)),((),((),(d,(a,b)))))))
  (X (ZA (nth e c (zb xm)) d) λ(f,g) =>
 V (g != 0)
  (oC a <|
 oC b <|
 U a <|
 U b <|
 E (zF (zF ((nth e c (zb xm)).1,(g,((),((),(d,(a,b)))))))))
  (oA a 88 <|
 oA b 8 <|
 .W (zw (a.length+1) 0 (a.length+1) (a++[f]).length) <|
 .W (zw (b.length+1) 0 (b.length+1) (b++[c]).length) <|
 .W ((a.length+1)=(a++[f]).length) <|
 .W ((b.length+1)=(b++[c]).length) <|
 E (zG ((qo (c+1)),((),((),(d,((a++[f]),(b++[c]))))))))))
  (oC a <|
 oC b <|
 U a <|
 U b <|
 E (zF (zG ((),((),(d,(a,b)))))))
def pY on1 f1 x1 x2 s:=zJ (fZ on1 f1 x1 x2) s
def ic(f:Form)(h:Int):(Int×Unit×Unit×wm×zy×z7)->T ((Int×Unit×Unit×wm×zy×z7)⊕((Unit×Unit×wm×zy×z7)⊕(zx×Int×Unit×Unit×wm×zy×z7)))
 | (c,i,j,e,a,b)=>let d:=0+(zE c);
 V (B (c<h))
  (oI c a <|
 .W (uO a.length a.length d a.length) <|
 X (Zz (wh a d (zb zr))) λg =>
 V g
  (oI c b <|
 .W (uO b.length b.length d b.length) <|
 oI (wh b d (zb (.int .i64))) f.2.2.2.2.1 <|
 oC a <|
 oC b <|
 U a <|
 U b <|
 E (zF (zF ((nth f.2.2.2.2.1 (wh b d (zb (.int .i64))) (zb xm)).1,(8,((),((),(e,(a,b)))))))))
  (oC a <|
 oC a <|
 oC b <|
 U a <|
 U b <|
 E (zG ((qo (c+1)),((),((),(e,(a,b))))))))
  (oC a <|
 oC b <|
 U a <|
 U b <|
 E (zF (zG ((),((),(e,(a,b)))))))
def pZ f2 x6 s:=zJ (ic f2 x6) s
def mT(a:Form)(f:zt)(h:zq):T (Unit×zx×Int×zy×z7) :=
 X (fJ a) λ(g,i) =>
 V (g != 0)
  (.W (zw 0 0 0 0) <|
 oZ <|
 .W (0=0) <|
 E ((),(i,(g,([],[])))))
  (X (V ((f.length:Int) != (a.2.1.length:Int))
  (E (true,()))
  (V ((h.length:Int) != (a.1.length:Int))
  (E (true,()))
  (X (vw f (λj=>bU j)) λk =>
 E (k,()))):T ((Bool×Unit))) λ(l,s) =>
 V l
  (.W (zw 0 0 0 0) <|
 oZ <|
 .W (0=0) <|
 E ((),([],(1,([],[])))))
  (X (r7 a f) λm =>
 .W (zw 0 0 0 0) <|
 oZ <|
 .W (0=0) <|
 X (pY h a a.2.2.2.2.1 (a.2.2.2.2.1.length:Int) (0,((),((),(m,([],[])))))) <|
 zK (λ(t,u,n,b,c) =>
 oC b <|
 oC b <|
 oC c <|
 U b <|
 U c <|
 X (pZ a (b.length:Int) (0,((),((),(n,(b,c)))))) <|
 zK (λ(v,w,x,d,e) =>
 oC d <|
 oC e <|
 U d <|
 U e <|
 E ((),([],(0,(d,e)))))
  (λ(o,p,y,z,A,zA,C) =>
 .W (zw 0 0 0 0) <|
 oZ <|
 .W (0=0) <|
 E ((),(o,(p,([],[]))))))
  (λ(q,r,D,zB,G,H,hb) =>
 .W (zw 0 0 0 0) <|
 oZ <|
 .W (0=0) <|
 E ((),(q,(r,([],[])))))))
def Vl(c:Bool)(a:Rat):T Rat :=
 X (V c
  (E (((B (0<(a.2.1.length:Int))),(a.2.1,(a.2.2.1,()))),(false,(([]:List Int),(([]:List Int),())))))
  (E ((false,(a.2.1,(a.2.2.1,()))),(false,(([]:List Int),(([]:List Int),()))))):T ((Rat×Rat))) λ(b,d) =>
 E b
def Q2(c:Rat):T Rat :=
 X (vD c) λa =>
 X (Vl (!a.1) a) λb =>
 E b
def Cd(c:Int)(d:Rat):T vI :=
 X (yW 1) λa =>
 X (Q2 d) λb =>
 E ((1:Int),(([(c,((a.1,(a.2.1,(a.2.2.1,()))),()))]:List Term),((b.1,(b.2.1,(b.2.2.1,()))),())))
def kN(h:Int)(i:Rat)(f:Int)(a:(qc×qh×xc×qp×xa×qq×Unit))(b:zy)(c:z7)(d:z7):T ((qc×qh×xc×qp×xa×qq×Unit)×zy×z7×z7) :=
 let g:=d++([(qo ((a.2.2.2.2.1.length:Int)+h))]:List Int);  X (Cd h i) λe =>
 oA b 88 <|
 oA c 8 <|
 oA d 8 <|
 .W (zw (b.length+1) 0 (b.length+1) (b++[e]).length) <|
 .W (zw (c.length+1) 0 (c.length+1) (c++[f]).length) <|
 .W (zw (d.length+1) 0 (d.length+1) g.length) <|
 .W ((b.length+1)=(b++[e]).length) <|
 .W ((c.length+1)=(c++[f]).length) <|
 .W ((d.length+1)=g.length) <|
 E ((a.1,(a.2.1,(a.2.2.1,(a.2.2.2.1,(a.2.2.2.2.1,(a.2.2.2.2.2.1,())))))),((b++[e]),((c++[f]),g)))
def pU(g:qe)(i:Int):(Int×zy×z7×Unit×(qc×qh×xc×qp×xa×qq×Unit)×z7)->T ((Int×zy×z7×Unit×(qc×qh×xc×qp×xa×qq×Unit)×z7)⊕((zy×z7×Unit×(qc×qh×xc×qp×xa×qq×Unit)×z7)))
 | (c,d,a,j,e,b)=>let h:=(e.1,(e.2.1,(e.2.2.1,(e.2.2.2.1,(e.2.2.2.2.1,(e.2.2.2.2.2.1,())))))); let f:=b++([(nth g.2.2.2.1 (wh a (0+(zE c)) (zb (.int .i64))) (zb (.int .i64)))]:List Int);
 V (B (c<i))
  (oI c a <|
 .W (uO a.length a.length (0+(zE c)) a.length) <|
 oI (wh a (0+(zE c)) (zb (.int .i64))) g.2.2.2.1 <|
 oA b 8 <|
 oC a <|
 U d <|
 U a <|
 oC d <|
 .W (zw (b.length+1) 0 (b.length+1) f.length) <|
 oC a <|
 .W ((b.length+1)=f.length) <|
 E (zG ((qo (c+1)),(d,(a,((),(h,f)))))))
  (U d <|
 U a <|
 oC d <|
 oC b <|
 oC a <|
 U b <|
 E (zF (d,(a,((),(h,b))))))
def QQ d1 x s:=zJ (pU d1 x) s
def pV(l:zo)(m:Int):(Int×zy×z7×Unit×(qc×qh×xc×qp×xa×qq×Unit)×z7)->T ((Int×zy×z7×Unit×(qc×qh×xc×qp×xa×qq×Unit)×z7)⊕((zy×z7×Unit×(qc×qh×xc×qp×xa×qq×Unit)×z7)))
 | (d,a,b,n,f,c)=>let g:=nth l d (zb zm); let k:=(f.1,(f.2.1,(f.2.2.1,(f.2.2.2.1,(f.2.2.2.2.1,(f.2.2.2.2.2.1,()))))));
 V (B (d<m))
  (oI d l <|
 V (!g.1)
  (U a <|
 U b <|
 oC a <|
 oC c <|
 oC b <|
 U c <|
 E (zG ((qo (d+1)),(a,(b,((),(k,c)))))))
  (oC a <|
 oC c <|
 oC b <|
 U a <|
 U c <|
 U b <|
 X (kN d (g.2.2.1.1,(g.2.2.1.2.1,(g.2.2.1.2.2.1,()))) (bif g.2.1 then d else(-1)) k a c b) λ(e,h,i,j) =>
 U h <|
 U j <|
 oC h <|
 oC i <|
 oC j <|
 U i <|
 E (zG ((qo (d+1)),(h,(j,((),((e.1,(e.2.1,(e.2.2.1,(e.2.2.2.1,(e.2.2.2.2.1,(e.2.2.2.2.2.1,())))))),i))))))))
  (U a <|
 U b <|
 oC a <|
 oC c <|
 oC b <|
 U c <|
 E (zF (a,(b,((),(k,c))))))
def QR x2 x3 s:=zJ (pV x2 x3) s
def db(a:Form)(d:qe):T ((Int×(qc×qh×xc×qp×xa×qq×Unit)×zy×z7×z7)⊕(zp×Int)) :=
 X (QS a d) λo =>
 V (!o)
  (E (zF ([],1)))
  (X (mT a d.1 d.2.1) λ(p,n,f,g,e) =>
 V ((f != 0)&&(!(wG n [])))
  (E (zF ([n],f)))
  (V (f != 0)
  (E (zF ([],f)))
  (oC e <|
 U g <|
 U e <|
 oC g <|
 .W (zw 0 0 0 0) <|
 oC e <|
 .W (0=0) <|
 X (QQ d (e.length:Int) (0,(g,(e,((),((a.1,(a.2.1,(a.2.2.1,(a.2.2.2.1,(a.2.2.2.2.1,(a.2.2.2.2.2.1,())))))),[])))))) λ(h,i,q,b,j) =>
 U h <|
 U i <|
 oC h <|
 oC j <|
 oC i <|
 U j <|
 X (QR d.2.2.2.2.1 (d.2.2.2.2.1.length:Int) (0,(h,(i,((),((b.1,(b.2.1,(b.2.2.1,(b.2.2.2.1,(b.2.2.2.2.1,(b.2.2.2.2.2.1,())))))),j)))))) λ(k,l,r,c,m) =>
 oC k <|
 oC m <|
 oC l <|
 U k <|
 U m <|
 U l <|
 E (zG (0,((c.1,(c.2.1,(c.2.2.1,(c.2.2.2.1,(c.2.2.2.2.1,(c.2.2.2.2.2.1,())))))),(k,(m,l))))))))
def p9(h:Int)(c:wB)(i:Int):(Int×Int)->T ((Int×Int)⊕(Unit⊕Bool))
 | (g,b)=>let a:=nth c b (zb qj);
 V (B (b<i))
  (oI b c <|
 X (V (B (a.1<g))
  (E (true,a))
  (V (B (h<=a.1))
  (E (true,a))
  (X (tx (a.2.1.1,(a.2.1.2.1,(a.2.1.2.2.1,())))) λd =>
 V (!d)
  (E (true,a))
  (E (((a.2.1.2.1.length:Int)==0),a)))):T ((Bool×Term))) λ(e,f) =>
 V e
  (E (zF (zF false)))
  (E (zG ((qo (f.1+1)),(qo (b+1))))))
  (E (zF (zG ())))
def tG n1 x1 x2 s:=zJ (p9 n1 x1 x2) s
def cY(a:vI)(e:Int):T Bool :=
 X (V (B (a.1<(0:Int)))
  (E true)
  (V (B ((4:Int)<a.1))
  (E true)
  (X (tx a.2.2.1) λb =>
 E (!b))):T Bool) λc =>
 V c
  (E false)
  (X (tG e a.2.1 (a.2.1.length:Int) (0,0)) <|
 zK (λ_ =>
 E true)
  (λd =>
 E d))
def yS(b:vI)(c:Int):T Bool :=
 X (cY b c) λa =>
 E (!a)
def dD(b:zy)(d:vI->T Bool)(e:Int):Int->T (Int⊕(Unit⊕Int))
 | a =>
 V (B (a<e))
  (oI a b <|
 X (d (nth b a (zb zr))) λc =>
 V c
  (E (zF (zF a)))
  (E (zG (qo (a+1)))))
  (E (zF (zG ())))
def sc s1 f x s:=zJ (dD s1 f x) s
def bF(a:zy)(c:vI->T Bool):T Int :=
 X (sc a c (a.length:Int) 0) <|
 zK (λ_ =>
 E (-1))
  (λb =>
 E b)
def yQ(b:zy)(c:vI->T Bool):T Bool :=
 X (bF b c) λa =>
 E (B (0<=a))
def cF  : ((Nat×Nat)×Int×z7)->T (((Nat×Nat)×Int×z7)⊕((Int×z7)))
 | (b,c,a)=>let d:=b.1+(zE c); let e:=wh a d (zb (.int .i64)); let f:=zL a d (wh a (b.1+(zE e)) (zb (.int .i64)));
 .W (xe c b.2) <|
 .W (uO a.length a.length d a.length) <|
 V (e != c)
  (.W (xe c b.2) <|
 .W (uO a.length a.length d a.length) <|
 .W (xe e b.2) <|
 .W (uO a.length a.length (b.1+(zE e)) a.length) <|
 .W (xe c b.2) <|
 .W (uO a.length a.length d a.length) <|
 .W (xe c b.2) <|
 .W (uO a.length a.length d f.length) <|
 U a <|
 .W (a.length=f.length) <|
 E (zG (b,((wh f d (zb (.int .i64))),f))))
  (U a <|
 E (zF (c,a)))
def lq(s:((Nat×Nat)×Int×z7)):T ((Int×z7)):=zJ (cF ) s
def yK(d:(Nat×Nat))(e:Int)(a:z7):T (Int×z7) :=
 U a <|
 U a <|
 X (lq  (d,(e,a))) λ(c,b) =>
 U b <|
 E (c,b)
def bg(c:(Nat×Nat))(g:Int)(h:Int)(e:z7):T (Bool×z7) :=
 U e <|
 U e <|
 X (yK c g e) λ(a,f) =>
 .W (e.length=f.length) <|
 U f <|
 X (yK c h f) λ(b,d) =>
 .W (xe (lh a b) c.2) <|
 .W (uO e.length d.length (c.1+(zE (lh a b))) d.length) <|
 .W (d.length=(zL d (c.1+(zE (lh a b))) (V5 a b)).length) <|
 E ((a != b),(zL d (c.1+(zE (lh a b))) (V5 a b)))
def nR(d:zy)(e:Int)(c:Int):(Int×z7)->T ((Int×z7)⊕z7)
 | (b,a) =>
 V (B (b<c))
  (oI b a <|
 .W (uO a.length a.length (0+(zE b)) a.length) <|
 oM a.length (zL a (0+(zE b)) b).length <|
 E (zG ((qo (b+1)),(zL a (0+(zE b)) b))))
  (oC a <|
 U a <|
 E (zF a))
def nP l1 n1 x s:=zJ (nR l1 n1 x) s
def eJ(k:Int)(j:Int)(l:zy)(m:Int)(n:Int):(Int×Int×z7×vI)->T ((Int×Int×z7×vI)⊕((Int×z7×vI)))
 | (f,e,a,b) =>
 V (B (e<(b.2.1.length:Int)))
  (X (oI 0 b.2.1 <|
 oI e b.2.1 <|
 U a <|
 U a <|
 X (bg (0,a.length) (nth b.2.1 0 (zb qj)).1 (nth b.2.1 e (zb qj)).1 a) λ(h,c) =>
 V (!h)
  (.W (zw a.length 0 a.length c.length) <|
 U c <|
 E ((B (f<0)),(c,b)))
  (.W (zw a.length 0 a.length c.length) <|
 U c <|
 E (false,(c,b))):T ((Bool×z7×vI))) λ(i,d,g) =>
 V i
  (oC d <|
 U d <|
 E (zG (j,((qo (e+1)),(d,g)))))
  (oC d <|
 U d <|
 E (zG (f,((qo (e+1)),(d,g))))))
  (oC a <|
 U a <|
 E (zF (f,(a,b))))
def nQ n3 i x5 x6 x7 s:=zJ (eJ n3 i x5 x6 x7) s
def nS(f:Int)(c:zy)(g:Int):(Int×Int×z7)->T ((Int×Int×z7)⊕((Int×z7)))
 | (e,b,a) =>
 V (B (b<g))
  (oI b c <|
 X (cY (nth c b (zb zr)) f) λh =>
 V (!h)
  (oC a <|
 U a <|
 E (zG (e,((qo (b+1)),a))))
  (oC a <|
 U a <|
 X (nQ f b c g b (e,(1,(a,(nth c b (zb zr)))))) λ(i,d,j) =>
 oC d <|
 U d <|
 E (zG (i,((qo (b+1)),d)))))
  (oC a <|
 U a <|
 E (zF (e,a)))
def Qp n2 x2 x3 s:=zJ (nS n2 x2 x3) s
def ZJ(d:zy)(f:Int):T (z7×Int) :=
 let a:=V5 (lh f 0) 64;  .W (eF a a 8) <|
 oM (zE a) (zM (zE a) (0:Int)).length <|
 X (nP d a (zN (zE a):Int) (0,(zM (zE a) 0))) λb =>
 oC b <|
 U b <|
 X (Qp a d (d.length:Int) ((-1),(0,b))) λ(e,c) =>
 U c <|
 E ((zH 0 (zI (0+c.length) c)),e)
def mY(b:zy)(c:Int):T Int :=
 X (ZJ b c) λ(d,a) =>
 E a
def uR(a:z7):T z7 :=
 .W (a=[]->∀ r,T.leads (.W (vV 0 0 0 0 0 a.length 8) <|
 .W (zw (0+a.length) 0 (0+a.length) a.length) <|
 .W ((0+a.length)=a.length) <|
 E a:T _) r->T.leads (.W (zw 0 0 0 0) <|
 .W (0=0) <|
 E []:T _) r) <|
 .W (vV 0 0 0 0 0 a.length 8) <|
 oM (0+a.length) a.length <|
 E a
def nV(a:Int)(b:Int):T (Int×Int) :=
 let c:=wk ((wk ((jk .u64 a 32)*(GR .u64 b 4294967295)))+(jk .u64 (wk ((GR .u64 a 4294967295)*(GR .u64 b 4294967295))) 32));  .W (0<=(32:Int)) <|
 .W (0<=(32:Int)) <|
 .W (0<=(32:Int)) <|
 .W (0<=(32:Int)) <|
 .W (0<=(32:Int)) <|
 E ((wk ((wk ((wk ((jk .u64 a 32)*(jk .u64 b 32)))+(jk .u64 c 32)))+(jk .u64 (wk ((GR .u64 c 4294967295)+(wk ((GR .u64 a 4294967295)*(jk .u64 b 32))))) 32))),(wk (a*b)))
def mJ(c:Int)(d:Int):T (Int×Int) :=
 X (nV c d) λ(a,b) =>
 E (a,b)
def gv  : (Int×z7)->T ((Int×z7)⊕z7)
 | (b,a)=>let c:=(zE (a.length:Int))-(zE b); let d:=zH (0+(zE 0)) (zI ((0+(zE 0))+((zE b)-(zE 0))) a);
 V (B (b<(a.length:Int)))
  (.W (jA b (a.length:Int) a.length) <|
 .W (jA 0 b a.length) <|
 U a <|
 .W (QM a.length a.length (0+(zE b)) c a.length) <|
 oM a.length (yr (0+(zE b)) c a d).length <|
 E (zG ((qo (b+(zN (CI c d.length):Int))),(yr (0+(zE b)) c a d))))
  (oC a <|
 U a <|
 E (zF a))
def ea(s:(Int×z7)):T z7:=zJ (gv ) s
def yo(c:z7)(e:Int):T z7 :=
 V (B (e<0))
  (.fail)
  (X (mJ (wk (c.length:Int)) (wk e)) λ(f,b)=>let a:=zE (qo b);
 V ((B (0<f))||(B (9223372036854775807<b)))
  (.fail)
  (.W (eF (qo b) (qo b) 8) <|
 .W (QM a a 0 a (zM a (0:Int)).length) <|
 oM a (yr 0 a (zM a 0) c).length <|
 X (ea  ((zN (CI a c.length):Int),(yr 0 a (zM a 0) c))) λd =>
 oC d <|
 U d <|
 E d))
def bR(a:Term)(b:Int):T Bool :=
 E (a.1==b)
def XJ(c:vI)(d:Int):T Bool :=
 X (vZ c.2.1 (λa=>bR a d)) λb =>
 E b
def oD(b:zy)(c:Int):T Bool :=
 X (mY b c) λa =>
 E (B (a<0))
def fO(r:zy)(k:z7)(o:Int)(h:zy)(p:Int):(Int×z7×z7×(zy×Unit))->T ((Int×z7×z7×(zy×Unit))⊕((z7×z7×(zy×Unit))⊕(Bool×z7×z7×(zy×Unit))))
 | (d,b,a,g)=>let i:=nth k d (zb (.int .i64)); let f:=0+(zE i);
 V (B (d<p))
  (oI d h <|
 X (cY (nth h d (zb zr)) o) λl =>
 V (!l)
  (U b <|
 U a <|
 oC b <|
 oC a <|
 E (zF (zF (false,(b,(a,(g.1,())))))))
  (oI d k <|
 V (i==(-1))
  (U b <|
 U a <|
 oC b <|
 oC a <|
 E (zG ((qo (d+1)),(b,(a,(g.1,()))))))
  (X (X (XJ (nth h d (zb zr)) i) λm =>
 V (!m)
  (U b <|
 U a <|
 oC b <|
 oC a <|
 E (true,(b,(a,((g.1,()),(nth h d (zb zr)))))))
  (oI i a <|
 .W (uO a.length a.length f a.length) <|
 U b <|
 U a <|
 oC b <|
 oC a <|
 E (((wh a f (zb (.int .i64))) != (-1)),(b,(a,((g.1,()),(nth h d (zb zr))))))):T ((Bool×z7×z7×(zy×Unit)×vI))) λ(n,e,c,j,q) =>
 V n
  (U e <|
 U c <|
 oC e <|
 oC c <|
 E (zF (zF (false,(e,(c,(j.1,())))))))
  (oI i c <|
 .W (uO c.length c.length f c.length) <|
 U e <|
 .W (c.length=(zL c f d).length) <|
 oC e <|
 .W (zw c.length 0 c.length (zL c f d).length) <|
 E (zG ((qo (d+1)),(e,((zL c f d),(j.1,())))))))))
  (U b <|
 U a <|
 oC b <|
 oC a <|
 E (zF (zG (b,(a,(g.1,()))))))
def sC l1 outs1 n1 x x1 s:=zJ (fO l1 outs1 n1 x x1) s
def bq(a:zy)(g:z7)(b:Int):T ((Bool×(zy×Unit)×z7×z7)⊕Bool) :=
 V ((B (b<1))||((B (64<b))||((B (256<(a.length:Int)))||((g.length:Int) != (a.length:Int)))))
  (E (zF false))
  (X (uR g) λc =>
 X (yo ([(-1)]:List Int) b) λd =>
 U c <|
 U d <|
 oC c <|
 oC d <|
 X (sC a g b a (a.length:Int) (0,(c,(d,(a,()))))) <|
 zK (λ(e,f,h) =>
 X (oD a b) λi =>
 oC e <|
 oC f <|
 U e <|
 U f <|
 E (zG (i,((h.1,()),(e,f)))))
  (λ(j,k,l,m) =>
 E (zF j)))
def y6(a:z7):T z7 :=
 let b:=0+a.length;  .W (a=[]->∀ r,T.leads (.W (vV 0 0 0 0 0 a.length 8) <|
 .W (b=b) <|
 E (zH 0 (zI (0+b) a)):T _) r->T.leads (E []:T _) r) <|
 .W (vV 0 0 0 0 0 a.length 8) <|
 .W (b=b) <|
 E (zH 0 (zI (0+b) a))
def cmp_isNaN_int(a:Int):T Bool :=
 E (a != a)
def cmp_Compare_int(a:Int)(b:Int):T Int :=
 X (cmp_isNaN_int a) λd =>
 X (cmp_isNaN_int b) λc =>
 V d
  (V c
  (E 0)
  (E (-1)))
  (V c
  (E 1)
  (V (B (a<b))
  (E (-1))
  (V (B (b<a))
  (E 1)
  (E 0))))
def wv(b:Int)(c:Int)(a:zy):T Int :=
 oI b a <|
 oI c a <|
 X (cmp_Compare_int (nth a b (zb zr)).1 (nth a c (zb zr)).1) λd =>
 E d
def uK(l:Int)(n:Int)(m:Int->Int->T Int)(o:Int):((Nat×Nat)×Int×z7)->T (((Nat×Nat)×Int×z7)⊕(((Nat×Nat)×z7)))
 | (d,e,b)=>let f:=qo (e-1);
 X (V (B (l<e))
  (.W (xe e d.2) <|
 .W (uO b.length b.length (d.1+(zE e)) b.length) <|
 .W (xe f d.2) <|
 .W (uO b.length b.length (d.1+(zE f)) b.length) <|
 X (m (wh b (d.1+(zE e)) (zb (.int .i64))) (wh b (d.1+(zE f)) (zb (.int .i64)))) λj =>
 U b <|
 U b <|
 E (d,((B (j<0)),b)))
  (U b <|
 U b <|
 E (d,(false,b))):T (((Nat×Nat)×Bool×z7))) λ(c,k,a)=>let g:=c.1+(zE e); let h:=c.1+(zE f); let i:=zL a g (wh a h (zb (.int .i64)));
 V k
  (.W (xe f c.2) <|
 .W (uO a.length a.length h a.length) <|
 .W (xe e c.2) <|
 .W (uO a.length a.length g a.length) <|
 .W (xe e c.2) <|
 .W (uO a.length a.length g a.length) <|
 .W (xe f c.2) <|
 .W (uO a.length a.length h i.length) <|
 U a <|
 .W (a.length=(zL i h (wh a g (zb (.int .i64)))).length) <|
 E (zG (c,(f,(zL i h (wh a g (zb (.int .i64))))))))
  (U a <|
 U a <|
 E (zF (c,a)))
def uI a2 b2 cmp i1 s:=zJ (uK a2 b2 cmp i1) s
def uJ(g:Int)(d:Int)(h:Int->Int->T Int):((Nat×Nat)×Int×z7)->T (((Nat×Nat)×Int×z7)⊕z7)
 | (f,b,a) =>
 V (B (b<d))
  (U a <|
 U a <|
 X (uI g d h b (f,(b,a))) λ(e,c) =>
 U c <|
 U c <|
 E (zG (e,((qo (b+1)),c))))
  (U a <|
 E (zF a))
def y8 a1 b1 cmp s:=zJ (uJ a1 b1 cmp) s
def va(d:(Nat×Nat))(c:Int)(e:Int)(f:Int->Int->T Int)(a:z7):T z7 :=
 U a <|
 U a <|
 X (y8 c e f (d,((qo (c+1)),a))) λb =>
 U b <|
 E b
def jt(f:Int)(g:Int)(i:Int):((Nat×Nat)×Int×z7)->T (((Nat×Nat)×Int×z7)⊕z7)
 | (c,b,a)=>let d:=c.1+(zE (qo (g+b))); let e:=c.1+(zE (qo (f+b))); let h:=zL a e (wh a d (zb (.int .i64)));
 V (B (b<i))
  (.W (xe (qo (g+b)) c.2) <|
 .W (uO a.length a.length d a.length) <|
 .W (xe (qo (f+b)) c.2) <|
 .W (uO a.length a.length e a.length) <|
 .W (xe (qo (f+b)) c.2) <|
 .W (uO a.length a.length e a.length) <|
 .W (xe (qo (g+b)) c.2) <|
 .W (uO a.length a.length d h.length) <|
 U a <|
 .W (a.length=(zL h d (wh a e (zb (.int .i64)))).length) <|
 E (zG (c,((qo (b+1)),(zL h d (wh a e (zb (.int .i64))))))))
  (U a <|
 E (zF a))
def gO a1 b1 n1 s:=zJ (jt a1 b1 n1) s
def wZ(c:(Nat×Nat))(d:Int)(e:Int)(f:Int)(g:Int->Int->T Int)(a:z7):T z7 :=
 U a <|
 U a <|
 X (gO d e f (c,(0,a))) λb =>
 U b <|
 E b
def kE(e:Int)(h:Int->Int->T Int):((Nat×Nat)×Int×Int×z7)->T (((Nat×Nat)×Int×Int×z7)⊕(((Nat×Nat)×Int×z7)))
 | (d,b,c,a) =>
 V (b != c)
  (V (B (c<b))
  (U a <|
 U a <|
 X (wZ d (qo (e-b)) e c h a) λf =>
 .W (a.length=f.length) <|
 U f <|
 E (zG (d,((qo (b-c)),(c,f)))))
  (U a <|
 U a <|
 X (wZ d (qo (e-b)) (qo ((qo (e+c))-b)) b h a) λg =>
 .W (a.length=g.length) <|
 U g <|
 E (zG (d,(b,((qo (c-b)),g))))))
  (U a <|
 U a <|
 E (zF (d,(b,a))))
def kD m1 cmp s:=zJ (kE m1 cmp) s
def jr(h:(Nat×Nat))(i:Int)(a:Int)(j:Int)(f:Int->Int->T Int)(c:z7):T z7 :=
 U c <|
 U c <|
 X (kD a f (h,((qo (a-i)),((qo (j-a)),c)))) λ(g,d,b) =>
 U b <|
 U b <|
 X (wZ g (qo (a-d)) a d f b) λe =>
 U e <|
 E e
def uf(i:(Nat×Nat)->Int->Int->Int->zy->z7->T z7)(f:Int)(h:zy):((Nat×Nat)×Int×Int×z7)->T (((Nat×Nat)×Int×Int×z7)⊕(((Nat×Nat)×Int×z7)))
 | (b,d,e,a)=>let c:=qo (jk .u64 (wk (qo (d+e))) 1);
 V (B (d<e))
  (.W (0<=(1:Int)) <|
 .W (xe c b.2) <|
 .W (uO a.length a.length (b.1+(zE c)) a.length) <|
 .W (xe f b.2) <|
 .W (uO a.length a.length (b.1+(zE f)) a.length) <|
 X (wv (wh a (b.1+(zE c)) (zb (.int .i64))) (wh a (b.1+(zE f)) (zb (.int .i64))) h) λg =>
 V (B (g<0))
  (U a <|
 U a <|
 E (zG (b,((qo (c+1)),(e,a)))))
  (U a <|
 U a <|
 E (zG (b,(d,(c,a))))))
  (U a <|
 U a <|
 E (zF (b,(d,a))))
def ua self_slices_symMergeCmpFunc_int a1 cmp1 s:=zJ (uf self_slices_symMergeCmpFunc_int a1 cmp1) s
def ug(h:(Nat×Nat)->Int->Int->Int->zy->z7->T z7)(g:Int):((Nat×Nat)×Int×z7)->T (((Nat×Nat)×Int×z7)⊕z7)
 | (c,b,a)=>let d:=c.1+(zE b); let e:=c.1+(zE (qo (b+1))); let f:=zL a d (wh a e (zb (.int .i64)));
 V (B (b<(qo (g-1))))
  (.W (xe (qo (b+1)) c.2) <|
 .W (uO a.length a.length e a.length) <|
 .W (xe b c.2) <|
 .W (uO a.length a.length d a.length) <|
 .W (xe b c.2) <|
 .W (uO a.length a.length d a.length) <|
 .W (xe (qo (b+1)) c.2) <|
 .W (uO a.length a.length e f.length) <|
 U a <|
 .W (a.length=(zL f e (wh a d (zb (.int .i64)))).length) <|
 E (zG (c,((qo (b+1)),(zL f e (wh a d (zb (.int .i64))))))))
  (U a <|
 E (zF a))
def ub self_slices_symMergeCmpFunc_int i2 s:=zJ (ug self_slices_symMergeCmpFunc_int i2) s
def uh(i:(Nat×Nat)->Int->Int->Int->zy->z7->T z7)(f:Int)(h:zy):((Nat×Nat)×Int×Int×z7)->T (((Nat×Nat)×Int×Int×z7)⊕(((Nat×Nat)×Int×z7)))
 | (b,d,e,a)=>let c:=qo (jk .u64 (wk (qo (d+e))) 1);
 V (B (d<e))
  (.W (0<=(1:Int)) <|
 .W (xe f b.2) <|
 .W (uO a.length a.length (b.1+(zE f)) a.length) <|
 .W (xe c b.2) <|
 .W (uO a.length a.length (b.1+(zE c)) a.length) <|
 X (wv (wh a (b.1+(zE f)) (zb (.int .i64))) (wh a (b.1+(zE c)) (zb (.int .i64))) h) λg =>
 V (!(B (g<0)))
  (U a <|
 U a <|
 E (zG (b,((qo (c+1)),(e,a)))))
  (U a <|
 U a <|
 E (zG (b,(d,(c,a))))))
  (U a <|
 U a <|
 E (zF (b,(d,a))))
def uc self_slices_symMergeCmpFunc_int m1 cmp2 s:=zJ (uh self_slices_symMergeCmpFunc_int m1 cmp2) s
def ui(h:(Nat×Nat)->Int->Int->Int->zy->z7->T z7)(g:Int):((Nat×Nat)×Int×z7)->T (((Nat×Nat)×Int×z7)⊕z7)
 | (c,b,a)=>let d:=c.1+(zE b); let e:=c.1+(zE (qo (b-1))); let f:=zL a d (wh a e (zb (.int .i64)));
 V (B (g<b))
  (.W (xe (qo (b-1)) c.2) <|
 .W (uO a.length a.length e a.length) <|
 .W (xe b c.2) <|
 .W (uO a.length a.length d a.length) <|
 .W (xe b c.2) <|
 .W (uO a.length a.length d a.length) <|
 .W (xe (qo (b-1)) c.2) <|
 .W (uO a.length a.length e f.length) <|
 U a <|
 .W (a.length=(zL f e (wh a d (zb (.int .i64)))).length) <|
 E (zG (c,((qo (b-1)),(zL f e (wh a d (zb (.int .i64))))))))
  (U a <|
 E (zF a))
def ud self_slices_symMergeCmpFunc_int i5 s:=zJ (ui self_slices_symMergeCmpFunc_int i5) s
def uj(i:(Nat×Nat)->Int->Int->Int->zy->z7->T z7)(j:Int)(k:Int)(l:Int)(h:zy)(m:Int)(n:Int)(f:Int):((Nat×Nat)×Int×Int×z7)->T (((Nat×Nat)×Int×Int×z7)⊕(((Nat×Nat)×Int×z7)))
 | (b,d,e,a)=>let c:=qo (jk .u64 (wk (qo (d+e))) 1);
 V (B (d<e))
  (.W (0<=(1:Int)) <|
 .W (xe (qo (f-c)) b.2) <|
 .W (uO a.length a.length (b.1+(zE (qo (f-c)))) a.length) <|
 .W (xe c b.2) <|
 .W (uO a.length a.length (b.1+(zE c)) a.length) <|
 X (wv (wh a (b.1+(zE (qo (f-c)))) (zb (.int .i64))) (wh a (b.1+(zE c)) (zb (.int .i64))) h) λg =>
 V (!(B (g<0)))
  (U a <|
 U a <|
 E (zG (b,((qo (c+1)),(e,a)))))
  (U a <|
 U a <|
 E (zG (b,(d,(c,a))))))
  (U a <|
 U a <|
 E (zF (b,(d,a))))
def ue self_slices_symMergeCmpFunc_int a2 m2 b1 cmp3 mid n p s:=zJ (uj self_slices_symMergeCmpFunc_int a2 m2 b1 cmp3 mid n p) s
def vx(g:(Nat×Nat)->Int->Int->Int->zy->z7->T z7)(s:(Nat×Nat))(c:Int)(a:Int)(h:Int)(j:zy)(d:z7):T z7 :=
 let b:=qo (jk .u64 (wk (qo (c+h))) 1);  V ((qo (a-c))==1)
  (U d <|
 U d <|
 X (ua g c j (s,(a,(h,d)))) λ(w,x,m) =>
 U m <|
 U m <|
 X (ub g x (w,(c,m))) λt =>
 U t <|
 E t)
  (V ((qo (h-a))==1)
  (U d <|
 U d <|
 X (uc g a j (s,(c,(a,d)))) λ(y,z,n) =>
 U n <|
 U n <|
 X (ud g z (y,(a,n))) λu =>
 U u <|
 E u)
  (.W (0<=(1:Int)) <|
 U d <|
 U d <|
 X (ue g c a h j b (qo (b+a)) (qo ((qo (b+a))-1)) (s,((bif (B (b<a))then(qo ((qo (b+a))-h))else c),((bif (B (b<a))then b else a),d)))) λ(o,i,e)=>let l:=qo ((qo (b+a))-i);
 X (V ((B (i<a))&&(B (a<l)))
  (U e <|
 U e <|
 X (jr o i a l (λz0 z1=>wv z0 z1 j) e) λp =>
 .W (e.length=p.length) <|
 U p <|
 E (o,p))
  (U e <|
 U e <|
 E (o,e)):T (((Nat×Nat)×z7))) λ(q,f) =>
 X (V ((B (c<i))&&(B (i<b)))
  (U f <|
 U f <|
 X (g q c i b j f) λr =>
 .W (f.length=r.length) <|
 U r <|
 E (q,r))
  (U f <|
 U f <|
 E (q,f)):T (((Nat×Nat)×z7))) λ(A,k) =>
 V ((B (b<l))&&(B (l<h)))
  (U k <|
 U k <|
 X (g A b l h j k) λv =>
 U v <|
 E v)
  (U k <|
 E k)))
def vQ(zel:(Nat×Nat))(a:Int)(m:Int)(b:Int)(cmp:zy)(data:z7):T z7:=T.fix (λF x=>vx (λy0 y1 y2 y3 y4 y5=>F (y0,y1,y2,y3,y4,y5)) x.1 x.2.1 x.2.2.1 x.2.2.2.1 x.2.2.2.2.1 x.2.2.2.2.2) (zel,a,m,b,cmp,data)
def kI(f:Int)(g:zy)(h:Int):((Nat×Nat)×Int×Int×z7)->T (((Nat×Nat)×Int×Int×z7)⊕(((Nat×Nat)×Int×z7)))
 | (d,e,b,a) =>
 V (B (b<=f))
  (U a <|
 U a <|
 X (va d e b (λz0 z1=>wv z0 z1 g) a) λc =>
 .W (a.length=c.length) <|
 U c <|
 E (zG (d,(b,((qo (b+h)),c)))))
  (U a <|
 U a <|
 E (zF (d,(e,a))))
def kF n1 cmp1 blockSize s:=zJ (kI n1 cmp1 blockSize) s
def kK(g:Int)(h:zy)(f:Int):((Nat×Nat)×Int×Int×z7)->T (((Nat×Nat)×Int×Int×z7)⊕(((Nat×Nat)×Int×z7)))
 | (d,e,b,a) =>
 V (B (b<=g))
  (U a <|
 U a <|
 X (vQ d e (qo (e+f)) b h a) λc =>
 .W (a.length=c.length) <|
 U c <|
 E (zG (d,(b,((qo (b+(qo (2*f)))),c)))))
  (U a <|
 U a <|
 E (zF (d,(e,a))))
def kH n3 cmp3 blockSize2 s:=zJ (kK n3 cmp3 blockSize2) s
def kJ(d:Int)(h:zy):((Nat×Nat)×Int×z7)->T (((Nat×Nat)×Int×z7)⊕z7)
 | (i,b,c) =>
 V (B (b<d))
  (U c <|
 U c <|
 X (kH d h b (i,(0,((qo (2*b)),c)))) λ(e,f,a) =>
 V (B ((qo (f+b))<d))
  (U a <|
 U a <|
 X (vQ e f (qo (f+b)) d h a) λg =>
 .W (a.length=g.length) <|
 U g <|
 E (zG (e,((qo (b*2)),g))))
  (U a <|
 U a <|
 E (zG (e,((qo (b*2)),a)))))
  (U c <|
 E (zF c))
def kG n2 cmp2 s:=zJ (kJ n2 cmp2) s
def js(i:(Nat×Nat))(c:Int)(d:zy)(e:z7):T z7 :=
 U e <|
 U e <|
 X (kF c d 20 (i,(0,(20,e)))) λ(f,h,a) =>
 U a <|
 U a <|
 X (va f h c (λz0 z1=>wv z0 z1 d) a) λb =>
 .W (a.length=b.length) <|
 U b <|
 X (kG c d (f,(20,b))) λg =>
 U g <|
 E g
def ux(c:(Nat×Nat))(d:zy)(a:z7):T z7 :=
 U a <|
 U a <|
 X (js c (zN c.2:Int) d a) λb =>
 U b <|
 E b
def cm(b:z7)(c:z7)(d:Int):Int->T (Int⊕(Unit⊕Bool))
 | a =>
 V (B (a<d))
  (oI a b <|
 oI a c <|
 V ((nth b a (zb (.int .i64))) != (nth c a (zb (.int .i64))))
  (E (zF (zF false)))
  (E (zG (qo (a+1)))))
  (E (zF (zG ())))
def iZ s11 s21 x s:=zJ (cm s11 s21 x) s
def y7(a:z7)(b:z7):T Bool :=
 V ((a.length:Int) != (b.length:Int))
  (E false)
  (X (iZ a b (a.length:Int) 0) <|
 zK (λ_ =>
 E true)
  (λc =>
 E c))
def kc(k:Int->(zy×Unit)->z7->z7->T (Int×(zy×Unit)×z7×z7))(l:Int)(h:wB)(m:Int):(Int×Int×(zy×Unit)×z7×z7)->T ((Int×Int×(zy×Unit)×z7×z7)⊕((Int×(zy×Unit)×z7×z7)))
 | (f,c,g,a,b) =>
 V (B (c<m))
  (oI c h <|
 V ((nth h c (zb qj)).1 != l)
  (oC a <|
 oC b <|
 U a <|
 U b <|
 X (k (nth h c (zb qj)).1 (g.1,()) a b) λ(i,j,d,e) =>
 oC d <|
 oC e <|
 U d <|
 U e <|
 E (zG ((lh f i),((qo (c+1)),((j.1,()),(d,e))))))
  (oC a <|
 oC b <|
 U a <|
 U b <|
 E (zG (f,((qo (c+1)),((g.1,()),(a,b)))))))
  (oC a <|
 oC b <|
 U a <|
 U b <|
 E (zF (f,((g.1,()),(a,b)))))
def gT self_delta_choice_strong v1 x x1 s:=zJ (kc self_delta_choice_strong v1 x x1) s
def j5(j:Int->(zy×Unit)->z7->z7->T (Int×(zy×Unit)×z7×z7))(e:Int)(b:(zy×Unit))(c:z7)(a:z7):T (Int×(zy×Unit)×z7×z7) :=
 let d:=wh a (0+(zE e)) (zb (.int .i64));  oI e a <|
 .W (uO a.length a.length (0+(zE e)) a.length) <|
 V (d==(-1))
  (oC c <|
 oC a <|
 U c <|
 U a <|
 E (4,((b.1,()),(c,a))))
  (oI d b.1 <|
 oI d b.1 <|
 oC c <|
 oC a <|
 U c <|
 U a <|
 X (gT j e (nth b.1 d (zb zr)).2.1 (zN (zO (nth b.1 d (zb zr)).2.1):Int) ((nth b.1 d (zb zr)).1,(0,((b.1,()),(c,a))))) λ(h,i,f,g) =>
 oC f <|
 oC g <|
 U f <|
 U g <|
 E (h,((i.1,()),(f,g))))
def jJ(v:Int)(c:(zy×Unit))(xs:z7)(xs1:z7):T (Int×(zy×Unit)×z7×z7):=T.fix (λF x=>j5 (λy0 y1 y2 y3=>F (y0,y1,y2,y3)) x.1 x.2.1 x.2.2.1 x.2.2.2) (v,c,xs,xs1)
def gi(f:wB)(m:Int):(Int×Int×Int×(zy×Unit)×z7×z7×z7)->T ((Int×Int×Int×(zy×Unit)×z7×z7×z7)⊕((Int×(zy×Unit)×z7×z7×z7)))
 | (j,k,a,l,g,d,e) =>
 V (B (a<m))
  (oI a f <|
 oC d <|
 oC e <|
 U d <|
 U e <|
 X (jJ (nth f a (zb qj)).1 (l.1,()) d e) λ(h,i,b,c) =>
 .W (wfI (nth f a (zb qj)).1) <|
 V ((!(List.contains g (nth f a (zb qj)).1))&&(B (k<h)))
  (oC b <|
 oC c <|
 U b <|
 U c <|
 E (zG ((nth f a (zb qj)).1,(h,((qo (a+1)),((i.1,()),(g,(b,c))))))))
  (oC b <|
 oC c <|
 U b <|
 U c <|
 E (zG (j,(k,((qo (a+1)),((i.1,()),(g,(b,c)))))))))
  (oC d <|
 oC e <|
 U d <|
 U e <|
 E (zF (j,((l.1,()),(g,(d,e))))))
def dU x x1 s:=zJ (gi x x1) s
def yc(b:Int)(a:(zy×Unit))(j:z7)(e:z7)(f:z7):T (Int×(zy×Unit)×z7×z7×z7) :=
 oI b a.1 <|
 oI b a.1 <|
 oC e <|
 oC f <|
 U e <|
 U f <|
 X (dU (nth a.1 b (zb zr)).2.1 (zN (zO (nth a.1 b (zb zr)).2.1):Int) ((-1),((nth a.1 b (zb zr)).1,(0,((a.1,()),(j,(e,f))))))) λ(g,h,i,c,d) =>
 oC c <|
 oC d <|
 U c <|
 U d <|
 E (g,((h.1,()),(i,(c,d))))
def yH(h:Int)(e:wB)(g:Int):(Int×(zy×Unit)×z7×z7×z7)->T ((Int×(zy×Unit)×z7×z7×z7)⊕(((zy×Unit)×z7×z7×z7)))
 | (c,f,a,b,d) =>
 V (B (c<g))
  (oI c e <|
 .W (z2i true (nth e c (zb qj)).1 d) <|
 oC a <|
 oC b <|
 U a <|
 U b <|
 E (zG ((qo (c+1)),((f.1,()),(a,(b,(d++([(nth e c (zb qj)).1]:List Int))))))))
  (oC a <|
 oC b <|
 U a <|
 U b <|
 E (zF ((f.1,()),(a,(b,d)))))
def yF out x x1 s:=zJ (yH out x x1) s
def yG  : (Int×(zy×Unit)×z7×z7×z7)->T ((Int×(zy×Unit)×z7×z7×z7)⊕(((zy×Unit)×z7×z7×z7)⊕((zy×Unit)×z7×z7×z7)))
 | (c,r,f,g,s) =>
 V (c != (-1))
  (oC f <|
 oC g <|
 U f <|
 U g <|
 X (yc c (r.1,()) s f g) λ(j,l,m,a,b)=>let h:=0+(zE j); let i:=wh b h (zb (.int .i64)); let p:=zL a (0+(zE i)) (-1);
 V (j==(-1))
  (oC a <|
 oC b <|
 U a <|
 U b <|
 E (zF (zF ((l.1,()),(a,(b,m))))))
  (oI j b <|
 .W (uO b.length b.length h b.length) <|
 X (V (i != (-1))
  (oI i a <|
 .W (uO a.length a.length (0+(zE i)) a.length) <|
 .W (zw a.length 0 a.length p.length) <|
 oC b <|
 .W (a.length=p.length) <|
 U b <|
 E ((l.1,()),(p,(b,m))))
  (oC a <|
 oC b <|
 U a <|
 U b <|
 E ((l.1,()),(a,(b,m)))):T (((zy×Unit)×z7×z7×z7))) λ(k,e,d,t)=>let q:=zL e (0+(zE c)) j;
 oI c e <|
 .W (uO e.length e.length (0+(zE c)) e.length) <|
 oI j d <|
 .W (uO d.length d.length h d.length) <|
 oI c k.1 <|
 .W (zw e.length 0 e.length q.length) <|
 .W (zw d.length 0 d.length (zL d h c).length) <|
 .W (e.length=q.length) <|
 .W (d.length=(zL d h c).length) <|
 X (yF i (nth k.1 c (zb zr)).2.1 (zN (zO (nth k.1 c (zb zr)).2.1):Int) (0,((k.1,()),(q,((zL d h c),t))))) λ(u,n,o,v) =>
 oC n <|
 oC o <|
 U n <|
 U o <|
 E (zG (i,((u.1,()),(n,(o,v)))))))
  (oC f <|
 oC g <|
 U f <|
 U g <|
 E (zF (zG ((r.1,()),(f,(g,s))))))
def da(s:(Int×(zy×Unit)×z7×z7×z7)):T (((zy×Unit)×z7×z7×z7)⊕((zy×Unit)×z7×z7×z7)):=zJ (yG ) s
def kM(i:Int)(j:(zy×Unit))(e:z7)(f:z7):T ((zy×Unit)×z7×z7) :=
 oC e <|
 oC f <|
 U e <|
 U f <|
 X (da  (i,((j.1,()),(e,(f,[]))))) <|
 zK (λ(g,a,b,k) =>
 oC a <|
 oC b <|
 U a <|
 U b <|
 E ((g.1,()),(a,b)))
  (λ(h,c,d,l) =>
 oC c <|
 oC d <|
 U c <|
 U d <|
 E ((h.1,()),(c,d)))
def nL(g:zy)(f:Int):(Int×(zy×Unit)×z7×z7×z7)->T ((Int×(zy×Unit)×z7×z7×z7)⊕(((zy×Unit)×z7×z7×z7)))
 | (d,e,b,c,a) =>
 V (B (d<f))
  (oA a 8 <|
 .W (zw (a.length+1) 0 (a.length+1) (a++[d]).length) <|
 oC b <|
 oC c <|
 U b <|
 U c <|
 .W ((a.length+1)=(a++[d]).length) <|
 E (zG ((qo (d+1)),((e.1,()),(b,(c,(a++[d])))))))
  (oC a <|
 oC b <|
 oC c <|
 U b <|
 U c <|
 U a <|
 E (zF ((e.1,()),(b,(c,a)))))
def Qj l1 x s:=zJ (nL l1 x) s
def nN(k:(List Int×Bool))(j:Int):(Int×(zy×Unit)×z7×z7×z7)->T ((Int×(zy×Unit)×z7×z7×z7)⊕(((zy×Unit)×z7×z7×z7)))
 | (d,h,b,c,a)=>let e:=wh a (0+(zE d)) (zb (.int .i64));
 V (B (d<j))
  (oI d a <|
 .W (uO a.length a.length (0+(zE d)) a.length) <|
 oI e b <|
 .W (uO b.length b.length (0+(zE e)) b.length) <|
 V ((wh b (0+(zE e)) (zb (.int .i64)))==(-1))
  (oC b <|
 oC c <|
 U b <|
 U c <|
 X (kM e (h.1,()) b c) λ(i,f,g) =>
 oC a <|
 oC a <|
 oC f <|
 oC g <|
 U f <|
 U g <|
 U a <|
 E (zG ((qo (d+1)),((i.1,()),(f,(g,a))))))
  (oC a <|
 oC a <|
 oC b <|
 oC c <|
 U b <|
 U c <|
 U a <|
 E (zG ((qo (d+1)),((h.1,()),(b,(c,a)))))))
  (oC a <|
 oC b <|
 oC c <|
 U b <|
 U c <|
 U a <|
 E (zF ((h.1,()),(b,(c,a)))))
def Ql ahead1 x3 s:=zJ (nN ahead1 x3) s
def nM  : ((List Int×Bool)×(zy×Unit)×z7×z7×z7)->T (((List Int×Bool)×(zy×Unit)×z7×z7×z7)⊕(((zy×Unit)×z7×z7×z7)))
 | (l,m,b,e,f) =>
 X (V (!l.2)
  (oC f <|
 oC b <|
 oC e <|
 U b <|
 U e <|
 U f <|
 E (true,((m.1,()),(b,(e,f)))))
  (U b <|
 X (y7 l.1 (zH 0 (zI (0+b.length) b))) λn =>
 oC f <|
 oC b <|
 oC e <|
 U b <|
 U e <|
 U f <|
 E ((!n),((m.1,()),(b,(e,f))))):T ((Bool×(zy×Unit)×z7×z7×z7))) λ(o,k,a,d,c)=>let j:=zH 0 (zI (0+a.length) a);
 V o
  (U a <|
 .W ((j.length*8)<=140737488355328) <|
 oC c <|
 oC c <|
 oC a <|
 oC d <|
 U a <|
 U d <|
 U c <|
 X (Ql (j,true) (c.length:Int) (0,((k.1,()),(a,(d,c))))) λ(p,g,h,i) =>
 oC i <|
 oC g <|
 oC h <|
 U g <|
 U h <|
 U i <|
 E (zG ((j,true),((p.1,()),(g,(h,i))))))
  (oC a <|
 oC d <|
 U a <|
 U d <|
 U c <|
 E (zF ((k.1,()),(a,(d,c)))))
def Qk(s:((List Int×Bool)×(zy×Unit)×z7×z7×z7)):T (((zy×Unit)×z7×z7×z7)):=zJ (nM ) s
def ow(b:zy)(i:z7)(p:Int):T (z7×Bool) :=
 X (bq b i p) <|
 zK (λ(j,k,c,d) =>
 V (!j)
  (X (y6 i) λl =>
 E (l,false))
  (.W (zw 0 0 0 0) <|
 oC c <|
 oC d <|
 U c <|
 U d <|
 .W (0=0) <|
 X (Qj b (b.length:Int) (0,((k.1,()),(c,(d,[]))))) λ(m,e,f,a) =>
 U a <|
 U a <|
 X (ux (0,a.length) b a) λg =>
 .W (zw a.length 0 a.length g.length) <|
 oC e <|
 oC f <|
 U e <|
 U f <|
 U g <|
 X (Qk  (([],false),((m.1,()),(e,(f,g))))) λ(q,h,r,s) =>
 U h <|
 E ((zH 0 (zI (0+h.length) h)),true)))
  (λn =>
 V (!n)
  (X (y6 i) λo =>
 E (o,false))
  (.fail))
def Q9(a:vI):T Bool :=
 V ((a.2.1.length:Int)==0)
  (X (iM a.2.2.1) λb =>
 E b)
  (E false)
def tM(c:zy)(d:z7)(e:Int):T Bool :=
 X (bq c d e) <|
 zK (λ(a,f,g,h) =>
 E a)
  (λb =>
 E b)
def yn(b:z7)(c:Int)(d:Int):Int->T (Int⊕(Unit⊕Int))
 | a =>
 V (B (a<d))
  (oI a b <|
 V (c==(nth b a (zb (.int .i64))))
  (E (zF (zF a)))
  (E (zG (qo (a+1)))))
  (E (zF (zG ())))
def ym s1 v1 x s:=zJ (yn s1 v1 x) s
def uH(a:z7)(c:Int):T Int :=
 X (ym a c (a.length:Int) 0) <|
 zK (λ_ =>
 E (-1))
  (λb =>
 E b)
def jm(b:z7)(c:Int):T Bool :=
 X (uH b c) λa =>
 E (B (0<=a))
def cQ(b:Term)(c:z7)(d:Int)(a:z7):T (Bool×z7) :=
 oI d c <|
 V (b.1 != (nth c d (zb (.int .i64))))
  (U a <|
 X (jm (zH 0 (zI (0+a.length) a)) b.1) λe =>
 oC a <|
 U a <|
 E (e,a))
  (oC a <|
 U a <|
 E (false,a))
def vp(e:wB)(g:Int):((z7×Int×Unit)×Int×z7)->T (((z7×Int×Unit)×Int×z7)⊕(z7⊕(Int×z7)))
 | (d,c,b) =>
 V (B (c<g))
  (oI c e <|
 oC b <|
 U b <|
 X (cQ (nth e c (zb qj)) d.1 d.2.1 b) λ(f,a) =>
 V f
  (oC a <|
 U a <|
 E (zF (zF (c,a))))
  (oC a <|
 U a <|
 E (zG ((d.1,(d.2.1,())),((qo (c+1)),a)))))
  (oC b <|
 U b <|
 E (zF (zG b)))
def vo s1 x s:=zJ (vp s1 x) s
def vM(d:wB)(e:(z7×Int×Unit))(c:z7):T (Int×z7) :=
 oC c <|
 U c <|
 X (vo d (d.length:Int) ((e.1,(e.2.1,())),(0,c))) <|
 zK (λa =>
 oC a <|
 U a <|
 E ((-1),a))
  (λ(f,b) =>
 oC b <|
 U b <|
 E (f,b))
def wI(e:wB)(c:(z7×Int×Unit))(b:z7):T (Bool×z7) :=
 oC b <|
 U b <|
 X (vM e (c.1,(c.2.1,())) b) λ(d,a) =>
 oC a <|
 U a <|
 E ((B (0<=d)),a)
def iT(b:Int)(d:zy)(f:z7)(a:z7):T (Bool×z7) :=
 oI b a <|
 .W (uO a.length a.length (0+(zE b)) a.length) <|
 V ((wh a (0+(zE b)) (zb (.int .i64))) != (-1))
  (oI b d <|
 oC a <|
 U a <|
 X (wI (nth d b (zb zr)).2.1 (f,(b,())) a) λ(e,c) =>
 oC c <|
 U c <|
 E ((!e),c))
  (oC a <|
 U a <|
 E (false,a))
def Q7(g:zy):((zy×z7×Unit)×Int×z7×z7)->T (((zy×z7×Unit)×Int×z7×z7)⊕((z7×z7)))
 | (d,c,e,a) =>
 V (B (c<(g.length:Int)))
  (oC e <|
 U e <|
 X (iT c d.1 d.2.1 e) λ(f,b) =>
 V (!f)
  (oC a <|
 oC b <|
 U b <|
 U a <|
 E (zG ((d.1,(d.2.1,())),((qo (c+1)),(b,a)))))
  (oI c b <|
 .W (uO b.length b.length (0+(zE c)) b.length) <|
 oA a 8 <|
 .W (zw (a.length+1) 0 (a.length+1) (a++[c]).length) <|
 oM b.length (zL b (0+(zE c)) (-1)).length <|
 .W ((a.length+1)=(a++[c]).length) <|
 E (zG ((d.1,(d.2.1,())),(0,((zL b (0+(zE c)) (-1)),(a++[c])))))))
  (oC a <|
 oC e <|
 U e <|
 U a <|
 E (zF (e,a)))
def UE l1 s:=zJ (Q7 l1) s
def Wd(c:zy)(d:z7)(f:Int):T z7 :=
 X (tM c d f) λe =>
 V (!e)
  (E [])
  (X (uR d) λa =>
 .W (zw 0 0 0 0) <|
 oC a <|
 U a <|
 .W (0=0) <|
 X (UE c ((c,(d,())),(0,(a,[])))) λ(g,b) =>
 U b <|
 E (zH 0 (zI (0+b.length) b)))
def iV(j:Int)(g:wB)(k:Int):(Int×zt×Rat×Rat×Rat)->T ((Int×zt×Rat×Rat×Rat)⊕((zt×Rat×Rat×Rat)))
 | (c,a,d,e,f)=>let b:=nth g c (zb qj);
 V (B (c<k))
  (oI c g <|
 V (b.1==j)
  (oC a <|
 U a <|
 E (zG ((qo (c+1)),(a,(d,(e,(b.2.1.1,(b.2.1.2.1,(b.2.1.2.2.1,())))))))))
  (.W (xe b.1 a.length) <|
 .W (uO a.length a.length (0+(zE b.1)) a.length) <|
 X (oP (b.2.1.1,(b.2.1.2.1,(b.2.1.2.2.1,()))) (wh a (0+(zE b.1)) (zb zl))) λh =>
 X (oO e h) λi =>
 oC a <|
 U a <|
 E (zG ((qo (c+1)),(a,(d,(i,f)))))))
  (U a <|
 E (zF (a,(d,(e,f)))))
def rT v1 x x1 s:=zJ (iV v1 x x1) s
def sX(a:vI)(j:Int)(b:zt):T (Rat×zt) :=
 X (vD a.2.2.1) λd =>
 X (yW 1) λe =>
 oC b <|
 U b <|
 X (rT j a.2.1 (a.2.1.length:Int) (0,(b,((false,(([]:List Int),(([]:List Int),()))),(d,e))))) λ(c,k,f,g) =>
 X (Q2 f) λh =>
 X (sT h g) λ(i,l) =>
 U c <|
 E (i,c)
def Vp(f:zy)(g:z7)(h:zt)(d:zt)(e:Int):(Int×zt)->T ((Int×zt)⊕zt)
 | (b,a) =>
 V (B (b<e))
  (oI b d <|
 X (vD (nth d b (zb zl))) λc =>
 oA a 56 <|
 oM (a.length+1) (a++[c]).length <|
 E (zG ((qo (b+1)),(a++[c]))))
  (oC a <|
 U a <|
 E (zF a))
def Gi l1 outs1 val1 x x1 s:=zJ (Vp l1 outs1 val1 x x1) s
def Q8(i:zy)(f:z7)(j:z7)(l:Int):(Int×zt)->T ((Int×zt)⊕(zt⊕(Int×Int×zt)))
 | (d,a)=>let c:=nth j d (zb (.int .i64)); let e:=nth f c (zb (.int .i64));
 V (B (d<l))
  (oI d j <|
 oI c i <|
 oI c f <|
 oC a <|
 U a <|
 X (sX (nth i c (zb zr)) e a) λ(h,b)=>let g:=zL b (0+(zE e)) h;
 X (cB h) λk =>
 V k
  (U b <|
 E (zF (zF (c,(8,b)))))
  (oI c f <|
 oI e a <|
 .W (uO a.length b.length (0+(zE e)) b.length) <|
 .W (zw a.length 0 a.length g.length) <|
 .W (b.length=g.length) <|
 E (zG ((qo (d+1)),g))))
  (oC a <|
 U a <|
 E (zF (zG a)))
def Gj l2 outs2 x3 x4 s:=zJ (Q8 l2 outs2 x3 x4) s
def KM(b:zy)(c:z7)(a:zt):T (zt×Int×Int) :=
 X (tM b c (a.length:Int)) λg =>
 V (!g)
  (E ([],((-1),1)))
  (oZ <|
 X (Gi b c a a (a.length:Int) (0,[])) λd =>
 X (Wd b c (a.length:Int)) λf =>
 oC d <|
 U d <|
 X (Gj b c f (f.length:Int) (0,d)) <|
 zK (λe =>
 U e <|
 E ((zH 0 (zI (0+e.length) e)),((-1),0)))
  (λ(h,i,j) =>
 E ([],(h,i))))
def se(m:zy)(n:j9)(f:z7)(g:zy)(k:Int):(Int×j9×Int)->T ((Int×j9×Int)⊕((j9×Int)⊕(Int×Int×j9×Int)))
 | (a,c,d)=>let b:=nth g a (zb zr);
 V (B (a<k))
  (oI a g <|
 X (V (b.1==0)
  (oI a f <|
 V (B ((nth f a (zb (.int .i64)))<0))
  (X (Q9 b) λh =>
 E ((!h),(c,(d,b))))
  (E (false,(c,(d,b)))))
  (E (false,(c,(d,b)))):T ((Bool×j9×Int×vI))) λ(i,j,e,l) =>
 V i
  (E (zF (zF (a,(10,((([]:List Int),(([]:List Rat),())),e))))))
  (E (zG ((qo (a+1)),(j,e)))))
  (E (zF (zG (c,d))))
def Xu l1 s1 outs1 x1 x2 s:=zJ (se l1 s1 outs1 x1 x2) s
def te(a:zy)(b:j9):T (j9×Int×Int) :=
 let c:=((([]:List Int),(([]:List Rat),())),(b.2.1.length:Int));  X (V (B ((b.2.1.length:Int)<1))
  (E (true,c))
  (V (B (64<(b.2.1.length:Int)))
  (E (true,c))
  (V (B (256<(a.length:Int)))
  (E (true,c))
  (V ((b.1.length:Int) != (a.length:Int))
  (E (true,c))
  (X (yQ a (λh=>yS h (b.2.1.length:Int))) λi =>
 E (i,c))))):T ((Bool×j9×Int))) λ(j,k,d) =>
 V j
  (E ((([]:List Int),(([]:List Rat),())),((-1),1)))
  (X (mY a d) λf =>
 V (B (0<=f))
  (E ((([]:List Int),(([]:List Rat),())),(f,9)))
  (X (ow a b.1 d) λ(e,l) =>
 V (!l)
  (E ((([]:List Int),(([]:List Rat),())),((-1),1)))
  (X (Xu a b e a (a.length:Int) (0,(k,d))) <|
 zK (λ(r,s) =>
 X (KM a e b.2.1) λ(m,n,g) =>
 V (g != 0)
  (E ((([]:List Int),(([]:List Rat),())),(n,g)))
  (E ((e,(m,())),((-1),0))))
  (λ(o,p,q,t) =>
 E (q,(o,p))))))
def cN(b:Int)(a:uk):T (zp×uk) :=
 let c:=nth a.2.2.2.1 b (zb (.int .i64));  V (B (b<0))
  (E ([],a))
  (oI b a.2.2.2.1 <|
 V (B (c<(a.1.2.2.2.2.1.length:Int)))
  (oI b a.2.2.2.1 <|
 oI c a.1.2.2.2.2.1 <|
 E (([(nth a.1.2.2.2.2.1 c (zb xm)).1]:List zx),a))
  (oI b a.2.2.2.1 <|
 oI (qo (c-(a.1.2.2.2.2.1.length:Int))) a.1.2.2.2.1 <|
 E (([(nth a.1.2.2.2.1 (qo (c-(a.1.2.2.2.2.1.length:Int))) (zb qw)).1]:List zx),a)))
def jS(g:zt)(a:uk):T (zt×zp×Int×uk) :=
 X (te a.2.1 (a.2.2.1,(g,()))) λ(b,d,c) =>
 V (c != 0)
  (X (cN d a) λ(e,f) =>
 E ([],(e,(c,f))))
  (E (b.2.1,([],(0,((a.1.1,(a.1.2.1,(a.1.2.2.1,(a.1.2.2.2.1,(a.1.2.2.2.2.1,(a.1.2.2.2.2.2.1,())))))),(a.2.1,(b.1,(a.2.2.2.1,()))))))))
def jM(a:zt):T zt :=
 .W (a=[]->∀ r,T.leads (.W (vV 0 0 0 0 0 a.length 56) <|
 .W (zw (0+a.length) 0 (0+a.length) a.length) <|
 .W ((0+a.length)=a.length) <|
 E a:T _) r->T.leads (.W (zw 0 0 0 0) <|
 .W (0=0) <|
 E []:T _) r) <|
 .W (vV 0 0 0 0 0 a.length 56) <|
 oM (0+a.length) a.length <|
 E a
def jl(a:zq):T zq :=
 .W (a=[]->∀ r,T.leads (.W (vV 0 0 0 0 0 a.length 1) <|
 .W (zw (0+a.length) 0 (0+a.length) a.length) <|
 .W ((0+a.length)=a.length) <|
 E a:T _) r->T.leads (.W (zw 0 0 0 0) <|
 .W (0=0) <|
 E []:T _) r) <|
 .W (vV 0 0 0 0 0 a.length 1) <|
 oM (0+a.length) a.length <|
 E a
def jG(a:zo):T zo :=
 .W (a=[]->∀ r,T.leads (.W (vV 0 0 0 0 0 a.length 64) <|
 .W (zw (0+a.length) 0 (0+a.length) a.length) <|
 .W ((0+a.length)=a.length) <|
 E a:T _) r->T.leads (.W (zw 0 0 0 0) <|
 .W (0=0) <|
 E []:T _) r) <|
 .W (vV 0 0 0 0 0 a.length 64) <|
 oM (0+a.length) a.length <|
 E a
def lP(a:qe):T (Unit×zt×zq×zt×z7×zo×zq) :=
 X (jM a.1) λb =>
 X (jl a.2.1) λc =>
 X (jM a.2.2.1) λd =>
 X (uR a.2.2.2.1) λe =>
 X (jG a.2.2.2.2.1) λf =>
 X (jl a.2.2.2.2.2.1) λg =>
 oY b c d e f g <|
 E ((),(b,(c,(d,(e,(f,g))))))
def dc(l:Int):(Int×uk×(zt×Unit)×qe×zt×zq×zt×z7×zo×zq)->T ((Int×uk×(zt×Unit)×qe×zt×zq×zt×z7×zo×zq)⊕((uk×(zt×Unit)×qe×zt×zq×zt×z7×zo×zq)))
 | (f,i,j,k,b,c,g,a,d,e)=>let h:=zL a (0+(zE f)) (-1);
 V (B (f<l))
  (oI f a <|
 .W (uO a.length a.length (0+(zE f)) a.length) <|
 oC b <|
 oC c <|
 .W (zw a.length 0 a.length h.length) <|
 oC d <|
 oC e <|
 U b <|
 U c <|
 U g <|
 .W (a.length=h.length) <|
 U d <|
 U e <|
 E (zG ((qo (f+1)),(i,((j.1,()),(k,(b,(c,(g,(h,(d,e)))))))))))
  (oC b <|
 oC c <|
 oC a <|
 oC d <|
 oC e <|
 oW b c g a d e <|
 E (zF (i,((j.1,()),(k,(b,(c,(g,(a,(d,e))))))))))
def mQ x s:=zJ (dc x) s
def de(m:z7)(q:Int):(Int×uk×(zt×Unit)×qe×zt×zq×zt×z7×zo×zq)->T ((Int×uk×(zt×Unit)×qe×zt×zq×zt×z7×zo×zq)⊕((uk×(zt×Unit)×qe×zt×zq×zt×z7×zo×zq)))
 | (f,i,k,l,c,d,g,a,b,e)=>let h:=nth i.2.2.2.1 f (zb (.int .i64)); let n:=0+(zE (qo (h-(a.length:Int)))); let o:=zL a (0+(zE h)) (nth m f (zb (.int .i64))); let j:=wh b n (zb zm); let p:=zL b n (j.1,(((nth m f (zb (.int .i64))) != (-1)),((j.2.2.1.1,(j.2.2.1.2.1,(j.2.2.1.2.2.1,()))),())));
 V (B (f<q))
  (oI f m <|
 oI f i.2.2.2.1 <|
 V (B (h<(a.length:Int)))
  (oI h a <|
 .W (uO a.length a.length (0+(zE h)) a.length) <|
 oC c <|
 oC d <|
 .W (zw a.length 0 a.length o.length) <|
 oC b <|
 oC e <|
 U c <|
 U d <|
 U g <|
 .W (a.length=o.length) <|
 U b <|
 U e <|
 E (zG ((qo (f+1)),(i,((k.1,()),(l,(c,(d,(g,(o,(b,e)))))))))))
  (oI (qo (h-(a.length:Int))) b <|
 .W (uO b.length b.length n b.length) <|
 oC c <|
 oC d <|
 oC a <|
 .W (zw b.length 0 b.length p.length) <|
 oC e <|
 U c <|
 U d <|
 U g <|
 U a <|
 .W (b.length=p.length) <|
 U e <|
 E (zG ((qo (f+1)),(i,((k.1,()),(l,(c,(d,(g,(a,(p,e))))))))))))
  (oC c <|
 oC d <|
 oC a <|
 oC b <|
 oC e <|
 oW c d g a b e <|
 E (zF (i,((k.1,()),(l,(c,(d,(g,(a,(b,e))))))))))
def mR x2 x3 s:=zJ (de x2 x3) s
def gD(w:qe)(x:zt)(y:uk):T ((zt×Unit)×uk×zt×zq×z7×zo×zq) :=
 X (lP w) λ(z,b,c,q,a,d,e) =>
 oC b <|
 oC c <|
 oC a <|
 oC d <|
 oC e <|
 oW b c q a d e <|
 X (mQ (a.length:Int) (0,(y,((x,()),((([]:List Rat),(([]:List Bool),(([]:List Rat),(([]:List Int),(([]:List qk),(([]:List Bool),())))))),(b,(c,(q,(a,(d,e)))))))))) λ(f,s,t,g,h,r,i,j,k) =>
 oC g <|
 oC h <|
 oC i <|
 oC j <|
 oC k <|
 oW g h r i j k <|
 X (mR f.2.2.1 (f.2.2.1.length:Int) (0,(f,((s.1,()),(t,(g,(h,(r,(i,(j,k)))))))))) λ(u,v,A,l,m,zA,n,o,p) =>
 oC l <|
 oC m <|
 oC n <|
 oC o <|
 oC p <|
 U l <|
 U m <|
 U n <|
 U o <|
 U p <|
 E ((v.1,()),(u,(l,(m,(n,(o,p))))))
def dL(s:Form)(j:qe):T ((zt×Unit)×zp×Int×zt×zq×z7×zo×zq) :=
 X (db s j) <|
 zK (λ(k,a,b,c,d) =>
 V (k != 0)
  (.W (zw 0 0 0 0) <|
 .W (zw 0 0 0 0) <|
 .W (zw 0 0 0 0) <|
 .W (zw 0 0 0 0) <|
 oZ <|
 .W (0=0) <|
 .W (0=0) <|
 .W (0=0) <|
 .W (0=0) <|
 E (([],()),([],(k,([],([],([],([],[]))))))))
  (U b <|
 U c <|
 U d <|
 X (jS j.2.2.1 ((a.1,(a.2.1,(a.2.2.1,(a.2.2.2.1,(a.2.2.2.2.1,(a.2.2.2.2.2.1,())))))),((zH 0 (zI (0+b.length) b)),((zH 0 (zI (0+c.length) c)),((zH 0 (zI (0+d.length) d)),()))))) λ(n,o,l,p) =>
 V (l != 0)
  (.W (zw 0 0 0 0) <|
 .W (zw 0 0 0 0) <|
 .W (zw 0 0 0 0) <|
 .W (zw 0 0 0 0) <|
 oZ <|
 .W (0=0) <|
 .W (0=0) <|
 .W (0=0) <|
 .W (0=0) <|
 E (([],()),(o,(l,([],([],([],([],[]))))))))
  (X (gD j n p) λ(q,t,e,f,g,h,i) =>
 oC e <|
 oC f <|
 oC g <|
 oC h <|
 oC i <|
 U e <|
 U f <|
 U g <|
 U h <|
 U i <|
 E ((q.1,()),([],(0,(e,(f,(g,(h,i))))))))))
  (λ(r,m) =>
 V (m != 0)
  (.W (zw 0 0 0 0) <|
 .W (zw 0 0 0 0) <|
 .W (zw 0 0 0 0) <|
 .W (zw 0 0 0 0) <|
 oZ <|
 .W (0=0) <|
 .W (0=0) <|
 .W (0=0) <|
 .W (0=0) <|
 E (([],()),(r,(m,([],([],([],([],[]))))))))
  (.fail))
def Zs(s:Form)(n:qh)(p:Int):(Int×Unit×Unit×zq×zq×zq×zq×zo×zo×z7×z7×zt×zt×zt×zt)->T ((Int×Unit×Unit×zq×zq×zq×zq×zo×zo×z7×z7×zt×zt×zt×zt)⊕((Unit×Unit×zq×zq×zq×zq×zo×zo×z7×z7×zt×zt×zt×zt)))
 | (b,q,r,c,d,e,f,g,h,i,j,k,l,a,m) =>
 V (B (b<p))
  (oI b n <|
 X (vD ((nth n b (zb qg)).2.1.1,((nth n b (zb qg)).2.1.2.1,((nth n b (zb qg)).2.1.2.2.1,())))) λo =>
 oA a 56 <|
 oV k c l i g d <|
 .W (zw (a.length+1) 0 (a.length+1) (a++[o]).length) <|
 oC e <|
 oC m <|
 oC j <|
 oC h <|
 oC f <|
 oW c d e f g h <|
 U i <|
 U j <|
 U k <|
 U l <|
 .W ((a.length+1)=(a++[o]).length) <|
 U m <|
 E (zG ((qo (b+1)),((),((),(c,(d,(e,(f,(g,(h,(i,(j,(k,(l,((a++[o]),m))))))))))))))))
  (oV k c l i g d <|
 oV a e m j h f <|
 oW c d e f g h <|
 oW i j k l a m <|
 E (zF ((),((),(c,(d,(e,(f,(g,(h,(i,(j,(k,(l,(a,m)))))))))))))))
def VP f1 x x1 s:=zJ (Zs f1 x x1) s
def Zt(s:Form)(o:qc)(p:Int):(Int×Unit×Unit×zq×zq×zq×zq×zo×zo×z7×z7×zt×zt×zt×zt)->T ((Int×Unit×Unit×zq×zq×zq×zq×zo×zo×z7×z7×zt×zt×zt×zt)⊕((Unit×Unit×zq×zq×zq×zq×zo×zo×z7×z7×zt×zt×zt×zt)))
 | (m,q,r,b,c,a,d,e,f,g,h,i,j,k,l)=>let n:=a++([(nth o m (zb qs)).2.1]:List Bool);
 V (B (m<p))
  (oI m o <|
 oA a 1 <|
 oV i b j g e c <|
 oC k <|
 .W (zw (a.length+1) 0 (a.length+1) n.length) <|
 oC l <|
 oC h <|
 oC f <|
 oC d <|
 U b <|
 U c <|
 .W ((a.length+1)=n.length) <|
 oW d e f g h i <|
 U j <|
 U k <|
 U l <|
 E (zG ((qo (m+1)),((),((),(b,(c,(n,(d,(e,(f,(g,(h,(i,(j,(k,l))))))))))))))))
  (oV i b j g e c <|
 oV k a l h f d <|
 oW b c a d e f <|
 oW g h i j k l <|
 E (zF ((),((),(b,(c,(a,(d,(e,(f,(g,(h,(i,(j,(k,l)))))))))))))))
def VQ f2 x3 x4 s:=zJ (Zt f2 x3 x4) s
def Zu(t:Form)(q:Int):(Int×Unit×Unit×zq×zq×zq×zq×zo×zo×z7×z7×zt×zt×zt×zt)->T ((Int×Unit×Unit×zq×zq×zq×zq×zo×zo×z7×z7×zt×zt×zt×zt)⊕((Unit×Unit×zq×zq×zq×zq×zo×zo×z7×z7×zt×zt×zt×zt)))
 | (p,r,s,d,e,f,a,g,c,h,i,j,k,l,b) =>
 V (B (p<q))
  (X (yW 0) λm =>
 oA b 56 <|
 X (yW 0) λn=>let o:=c++([(false,(false,((n.1,(n.2.1,(n.2.2.1,()))),())))]:List qk);
 oA c 64 <|
 oA a 1 <|
 oV j d k h g e <|
 oC l <|
 oC f <|
 .W (zw (b.length+1) 0 (b.length+1) (b++[m]).length) <|
 oC i <|
 .W (zw (c.length+1) 0 (c.length+1) o.length) <|
 .W (zw (a.length+1) 0 (a.length+1) (a++[false]).length) <|
 U d <|
 U e <|
 U f <|
 .W ((a.length+1)=(a++[false]).length) <|
 U g <|
 .W ((c.length+1)=o.length) <|
 U h <|
 U i <|
 U j <|
 U k <|
 U l <|
 .W ((b.length+1)=(b++[m]).length) <|
 E (zG ((qo (p+1)),((),((),(d,(e,(f,((a++[false]),(g,(o,(h,(i,(j,(k,(l,(b++[m])))))))))))))))))
  (oV j d k h g e <|
 oV l f b i c a <|
 oW d e f a g c <|
 oW h i j k l b <|
 E (zF ((),((),(d,(e,(f,(a,(g,(c,(h,(i,(j,(k,(l,b)))))))))))))))
def VR f3 x6 s:=zJ (Zu f3 x6) s
def Zv(q:Form)(n:Int):(Int×Unit×Unit×zq×zq×zq×zq×zo×zo×z7×z7×zt×zt×zt×zt)->T ((Int×Unit×Unit×zq×zq×zq×zq×zo×zo×z7×z7×zt×zt×zt×zt)⊕((Unit×Unit×zq×zq×zq×zq×zo×zo×z7×z7×zt×zt×zt×zt)))
 | (m,o,p,b,c,d,e,f,g,h,a,i,j,k,l) =>
 V (B (m<n))
  (oA a 8 <|
 oV i b j h f c <|
 oC k <|
 oC d <|
 oC l <|
 .W (zw (a.length+1) 0 (a.length+1) (a++([(-1)]:List Int)).length) <|
 oC g <|
 oC e <|
 oW b c d e f g <|
 U h <|
 .W ((a.length+1)=(a++([(-1)]:List Int)).length) <|
 U i <|
 U j <|
 U k <|
 U l <|
 E (zG ((qo (m+1)),((),((),(b,(c,(d,(e,(f,(g,(h,((a++([(-1)]:List Int)),(i,(j,(k,l))))))))))))))))
  (oV i b j h f c <|
 oV k d l a g e <|
 oW b c d e f g <|
 oW h a i j k l <|
 E (zF ((),((),(b,(c,(d,(e,(f,(g,(h,(a,(i,(j,(k,l)))))))))))))))
def VS f4 x8 s:=zJ (Zv f4 x8) s
def XM(a:Form):T ((zt×Unit)×zp×Int×zt×zq×z7×zo×zq) :=
 .W (zw 0 0 0 0) <|
 .W (zw 0 0 0 0) <|
 .W (zw 0 0 0 0) <|
 .W (zw 0 0 0 0) <|
 .W (zw 0 0 0 0) <|
 .W (zw 0 0 0 0) <|
 .W (zw 0 0 0 0) <|
 .W (zw 0 0 0 0) <|
 .W (zw 0 0 0 0) <|
 .W (zw 0 0 0 0) <|
 .W (zw 0 0 0 0) <|
 oZ <|
 .W (0=0) <|
 .W (0=0) <|
 .W (0=0) <|
 .W (0=0) <|
 .W (0=0) <|
 .W (0=0) <|
 .W (0=0) <|
 .W (0=0) <|
 .W (0=0) <|
 .W (0=0) <|
 .W (0=0) <|
 X (VP a a.2.1 (a.2.1.length:Int) (0,((),((),([],([],([],([],([],([],([],([],([],([],([],[]))))))))))))))) λ(ac,ad,b,c,d,e,f,g,h,i,j,k,l,m) =>
 oV j b k h f c <|
 oV l d m i g e <|
 oW b c d e f g <|
 oW h i j k l m <|
 X (VQ a a.1 (a.1.length:Int) (0,((),((),(b,(c,(d,(e,(f,(g,(h,(i,(j,(k,(l,m))))))))))))))) λ(ae,af,n,o,p,q,r,s,t,u,v,w,x,y) =>
 oV v n w t r o <|
 oV x p y u s q <|
 oW n o p q r s <|
 oW t u v w x y <|
 X (VR a (a.2.2.2.1.length:Int) (0,((),((),(n,(o,(p,(q,(r,(s,(t,(u,(v,(w,(x,y))))))))))))))) λ(ag,ah,z,A,zA,C,D,zB,G,H,hb,hd,K,L) =>
 oV hb z hd G D A <|
 oV K zA L H zB C <|
 oW z A zA C D zB <|
 oW G H hb hd K L <|
 X (VS a (a.2.2.2.2.1.length:Int) (0,((),((),(z,(A,(zA,(C,(D,(zB,(G,(H,(hb,(hd,(K,L))))))))))))))) λ(ai,aj,ak,al,h2,hx,am,z6,an,P,ao,ap,hl,S) =>
 oW hl h2 S P z6 hx <|
 X (dL a ((zH 0 (zI (0+hl.length) hl)),((zH 0 (zI (0+h2.length) h2)),((zH 0 (zI (0+S.length) S)),((zH 0 (zI (0+P.length) P)),((zH 0 (zI (0+z6.length) z6)),((zH 0 (zI (0+hx.length) hx)),()))))))) λ(κ,aa,ab,oE,zD,zk,zC,κ') =>
 oC oE <|
 oC zD <|
 oC zk <|
 oC zC <|
 oC κ' <|
 U oE <|
 U zD <|
 U zk <|
 U zC <|
 U κ' <|
 E ((κ.1,()),(aa,(ab,(oE,(zD,(zk,(zC,κ')))))))
def yz(a:Switch)(b:eQ):T Bool :=
 E (wG a.1 b.2.1)
def mg(d:zq)(h:Form)(f:xc)(i:Int):(Int×zq)->T ((Int×zq)⊕zq)
 | (b,a)=>let e:=a++[false];
 V (B (b<i))
  (oI b f <|
 X (wb h.1 (λg=>yz g (nth f b (zb xp)))) λc =>
 V (wG (nth f b (zb xp)).2.1 [])
  (oA a 1 <|
 oM (a.length+1) (a++[true]).length <|
 E (zG ((qo (b+1)),(a++[true]))))
  (V (B (0<=c))
  (V (B (c<(d.length:Int)))
  (oI c d <|
 oA a 1 <|
 oM (a.length+1) (a++([(nth d c (zb .bool))]:List Bool)).length <|
 E (zG ((qo (b+1)),(a++([(nth d c (zb .bool))]:List Bool)))))
  (oA a 1 <|
 oM (a.length+1) e.length <|
 E (zG ((qo (b+1)),e))))
  (oA a 1 <|
 oM (a.length+1) e.length <|
 E (zG ((qo (b+1)),e)))))
  (oC a <|
 U a <|
 E (zF a))
def Z7 on1 f1 x x1 s:=zJ (mg on1 f1 x x1) s
def kh(b:Form)(c:zq):T zq :=
 oZ <|
 X (Z7 c b b.2.2.1 (b.2.2.1.length:Int) (0,[])) λa =>
 U a <|
 E (zH 0 (zI (0+a.length) a))
def nF(l:List Bool)(at_:Int):Nat->Int×Bool
 | 0=>(at_,false)
 | k+1=>if l[k]?.getD false=true/\(k:Int)<at_ then((k:Int),true)else nF l at_ k
def pw(b:Form)(c:zq)(d:Int):T (Int×Bool) :=
 X (kh b c) λa=>.W (a.length*8<=140737488351232) (E (nF a d a.length))
def ZY(c:Int)(b:zq)(d:Int):Int->T (Int⊕(Unit⊕(Int×Bool)))
 | a =>
 V (B (a<d))
  (oI a b <|
 V ((nth b a (zb .bool))&&(B (c<a)))
  (E (zF (zF (a,true))))
  (E (zG (qo (a+1)))))
  (E (zF (zG ())))
def Uw at_1 x x1 s:=zJ (ZY at_1 x x1) s
def pz(e:Form)(f:zq)(b:Int):T (Int×Bool) :=
 X (kh e f) λa =>
 X (Uw b a (a.length:Int) 0) <|
 zK (λ_ =>
 E (b,false))
  (λ(c,d) =>
 E (c,d))
def Z6(c:Form)(d:zq)(a:Int):T Int :=
 X (kh c d) λb =>
 .W (((B (0<=a))=true)->(((B (a<(b.length:Int)))=true)->(xe a b.length))) <|
 V ((B (0<=a))&&((B (a<(b.length:Int)))&&(nth b a (zb .bool))))
  (E a)
  (X (pw c d a) λ(e,f) =>
 V f
  (E e)
  (X (pz c d a) λ(g,h) =>
 V h
  (E g)
  (E 0)))
def gI(j:Form):T ((zx×Int×zn)⊕(zx×Int)) :=
 X (fJ j) λ(h,k) =>
 V (h != 0)
  (E (zF (k,h)))
  (X (ZB j) λa =>
 X (XM a) λ(l,b,i,d,c,e,f,g) =>
 V (i != 0)
  (.W (((b.length+1)*16)<=140737488355328) <|
 .W (xe 0 (b.length+1)) <|
 .W (uO (b.length+1) (b.length+1) (0+(zE 0)) (b++([[]]:List zx)).length) <|
 E (zF ((wh (b++([[]]:List zx)) (0+(zE 0)) (zb .str)),i)))
  (U d <|
 U c <|
 U e <|
 U f <|
 U g <|
 X (Z6 a (zH 0 (zI (0+c.length) c)) 0) λm =>
 E (zG ([],(0,((a.1,(a.2.1,(a.2.2.1,(a.2.2.2.1,(a.2.2.2.2.1,(a.2.2.2.2.2.1,())))))),(((zH 0 (zI (0+d.length) d)),((zH 0 (zI (0+c.length) c)),(l.1,((zH 0 (zI (0+e.length) e)),((zH 0 (zI (0+f.length) f)),((zH 0 (zI (0+g.length) g)),())))))),((([]:List zx),(([]:List zx),())),(m,(false,()))))))))))
def dK(a:Field)(b:zx):T Bool :=
 E (wG a.1 b)
def cv(b:qp)(d:Field->T Bool)(e:Int):Int->T (Int⊕(Unit⊕Int))
 | a =>
 V (B (a<e))
  (oI a b <|
 X (d (nth b a (zb qw))) λc =>
 V c
  (E (zF (zF a)))
  (E (zG (qo (a+1)))))
  (E (zF (zG ())))
def o8 s1 f x s:=zJ (cv s1 f x) s
def gp(a:qp)(c:Field->T Bool):T Int :=
 X (o8 a c (a.length:Int) 0) <|
 zK (λ_ =>
 E (-1))
  (λb =>
 E b)
def tQ(c:Form)(d:zx):T Int :=
 X (gp c.2.2.2.1 (λa=>dK a d)) λb =>
 E b
def bT(a:Rat):T Bool :=
 X (tx a) λb =>
 V b
  (X (cB a) λc =>
 E (!c))
  (E false)
def fg(b:Rat):T Bool :=
 X (bT b) λa =>
 E (!a)
def J4(a:qk):T Bool :=
 X (bT a.2.2.1) λb =>
 V b
  (V a.1
  (E true)
  (V (!a.2.1)
  (X (iM a.2.2.1) λc =>
 E c)
  (E false)))
  (E false)
def fh(b:qk):T Bool :=
 X (J4 b) λa =>
 E (!a)
def bG(b:zo)(d:qk->T Bool)(e:Int):Int->T (Int⊕(Unit⊕Int))
 | a =>
 V (B (a<e))
  (oI a b <|
 X (d (nth b a (zb zm))) λc =>
 V c
  (E (zF (zF a)))
  (E (zG (qo (a+1)))))
  (E (zF (zG ())))
def mm s1 f x s:=zJ (bG s1 f x) s
def yl(a:zo)(c:qk->T Bool):T Int :=
 X (mm a c (a.length:Int) 0) <|
 zK (λ_ =>
 E (-1))
  (λb =>
 E b)
def uw(b:zo)(c:qk->T Bool):T Bool :=
 X (yl b c) λa =>
 E (B (0<=a))
def XF(h:zt)(b:wB)(i:Int):(Int×Rat×Rat)->T ((Int×Rat×Rat)⊕((Rat×Rat)))
 | (a,c,d) =>
 V (B (a<i))
  (oI a b <|
 X (lF h (nth b a (zb qj)).1) λe =>
 X (oP ((nth b a (zb qj)).2.1.1,((nth b a (zb qj)).2.1.2.1,((nth b a (zb qj)).2.1.2.2.1,()))) e) λf =>
 X (oO d f) λg =>
 E (zG ((qo (a+1)),(c,g))))
  (E (zF (c,d)))
def UW val1 x x1 s:=zJ (XF val1 x x1) s
def BX(a:vI)(d:zt):T Rat :=
 X (vD a.2.2.1) λb =>
 X (UW d a.2.1 (a.2.1.length:Int) (0,((false,(([]:List Int),(([]:List Int),()))),b))) λ(e,c) =>
 E c
def sH(c:vI)(d:zt):T Bool :=
 X (BX c d) λa =>
 X (iM a) λb =>
 E b
def yd(f:wB)(l:Int):(Int×Int×Int×(zy×Unit)×z7×z7)->T ((Int×Int×Int×(zy×Unit)×z7×z7)⊕((Int×(zy×Unit)×z7×z7)))
 | (i,j,a,k,d,e) =>
 V (B (a<l))
  (oI a f <|
 oC d <|
 oC e <|
 U d <|
 U e <|
 X (jJ (nth f a (zb qj)).1 (k.1,()) d e) λ(g,h,b,c) =>
 .W (wfI (nth f a (zb qj)).1) <|
 V ((!false)&&(B (j<g)))
  (oC b <|
 oC c <|
 U b <|
 U c <|
 E (zG ((nth f a (zb qj)).1,(g,((qo (a+1)),((h.1,()),(b,c)))))))
  (oC b <|
 oC c <|
 U b <|
 U c <|
 E (zG (i,(j,((qo (a+1)),((h.1,()),(b,c))))))))
  (oC d <|
 oC e <|
 U d <|
 U e <|
 E (zF (i,((k.1,()),(d,e)))))
def cM x x1 s:=zJ (yd x x1) s
def gU(b:Int)(a:(zy×Unit))(e:z7)(f:z7):T (Int×(zy×Unit)×z7×z7) :=
 oI b a.1 <|
 oI b a.1 <|
 oC e <|
 oC f <|
 U e <|
 U f <|
 X (cM (nth a.1 b (zb zr)).2.1 (zN (zO (nth a.1 b (zb zr)).2.1):Int) ((-1),((nth a.1 b (zb zr)).1,(0,((a.1,()),(e,f)))))) λ(g,h,c,d) =>
 oC c <|
 oC d <|
 U c <|
 U d <|
 E (g,((h.1,()),(c,d)))
def mz(d:zy)(i:z7)(j:Int)(b:Int):T Bool :=
 X (bq d i j) <|
 zK (λ(e,f,a,c) =>
 V e
  (V (B (0<=b))
  (V (B (b<(d.length:Int)))
  (oI b a <|
 .W (uO a.length a.length (0+(zE b)) a.length) <|
 V ((wh a (0+(zE b)) (zb (.int .i64)))==(-1))
  (oC a <|
 oC c <|
 U a <|
 U c <|
 X (gU b (f.1,()) a c) λ(g,k,l,m) =>
 E (g==(-1)))
  (E false))
  (E false))
  (E false))
  (E false))
  (λh =>
 V h
  (V (B (0<=b))
  (V (B (b<(d.length:Int)))
  (.fail)
  (E false))
  (E false))
  (E false))
def ba(g:Int)(m:zt)(j:(qc×qh×xc×qp×xa×qq×Unit))(a:zy)(b:z7)(e:z7):T (Bool×(qc×qh×xc×qp×xa×qq×Unit)×zy×z7×z7) :=
 let k:=(j.1,(j.2.1,(j.2.2.1,(j.2.2.2.1,(j.2.2.2.2.1,(j.2.2.2.2.2.1,())))))); let h:=wh a (0+(zE g)) (zb zr);  oI g a <|
 .W (uO a.length a.length (0+(zE g)) a.length) <|
 oI g b <|
 .W (uO b.length b.length (0+(zE g)) b.length) <|
 V ((wh b (0+(zE g)) (zb (.int .i64))) != (-1))
  (X (sH h m) λo =>
 oC a <|
 oC b <|
 oC e <|
 U a <|
 U b <|
 U e <|
 E (o,(k,(a,(b,e)))))
  (X (V ((h.2.1.length:Int)==0)
  (X (iM (h.2.2.1.1,(h.2.2.1.2.1,(h.2.2.1.2.2.1,())))) λp =>
 oC a <|
 oC b <|
 oC e <|
 U a <|
 U b <|
 U e <|
 E (p,(k,(a,(b,(e,h))))))
  (oC a <|
 oC b <|
 oC e <|
 U a <|
 U b <|
 U e <|
 E (false,(k,(a,(b,(e,h)))))):T ((Bool×(qc×qh×xc×qp×xa×qq×Unit)×zy×z7×z7×vI))) λ(q,i,c,d,f,r)=>let n:=mz (zH 0 (zI (0+c.length) c)) (zH 0 (zI (0+d.length) d)) (m.length:Int) g; let l:=((i.1,(i.2.1,(i.2.2.1,(i.2.2.2.1,(i.2.2.2.2.1,(i.2.2.2.2.2.1,())))))),(c,(d,f)));
 V (r.1 != 0)
  (U c <|
 U d <|
 X n λs =>
 oC c <|
 oC d <|
 oC f <|
 U c <|
 U d <|
 U f <|
 E (s,l))
  (V q
  (U c <|
 U d <|
 X n λt =>
 oC c <|
 oC d <|
 oC f <|
 U c <|
 U d <|
 U f <|
 E (t,l))
  (oC c <|
 oC d <|
 oC f <|
 U c <|
 U d <|
 U f <|
 E (false,l))))
def J2(p:qe)(k:z7)(o:Int):(Int×(qc×qh×xc×qp×xa×qq×Unit)×zy×z7×z7)->T ((Int×(qc×qh×xc×qp×xa×qq×Unit)×zy×z7×z7)⊕(((qc×qh×xc×qp×xa×qq×Unit)×zy×z7×z7)⊕(Bool×(qc×qh×xc×qp×xa×qq×Unit)×zy×z7×z7)))
 | (i,e,b,c,a)=>let j:=((e.1,(e.2.1,(e.2.2.1,(e.2.2.2.1,(e.2.2.2.2.1,(e.2.2.2.2.2.1,())))))),(b,(c,a)));
 V (B (i<o))
  (oI i k <|
 X (V ((nth k i (zb (.int .i64))) != (-1))
  (U a <|
 X (jm (zH 0 (zI (0+a.length) a)) i) λm =>
 oC b <|
 oC c <|
 oC a <|
 U b <|
 U c <|
 U a <|
 E ((!m),j))
  (oC b <|
 oC c <|
 oC a <|
 U b <|
 U c <|
 U a <|
 E (false,j)):T ((Bool×(qc×qh×xc×qp×xa×qq×Unit)×zy×z7×z7))) λ(n,d,f,g,h)=>let l:=((d.1,(d.2.1,(d.2.2.1,(d.2.2.2.1,(d.2.2.2.2.1,(d.2.2.2.2.2.1,())))))),(f,(g,h)));
 V n
  (oC f <|
 oC g <|
 oC h <|
 U f <|
 U g <|
 U h <|
 E (zF (zF (false,l))))
  (oC f <|
 oC g <|
 oC h <|
 U f <|
 U g <|
 U h <|
 E (zG ((qo (i+1)),l))))
  (oC b <|
 oC c <|
 oC a <|
 U b <|
 U c <|
 U a <|
 E (zF (zG j)))
def HF d1 x x1 s:=zJ (J2 d1 x x1) s
def J3(m:qe)(n:Int):(Int×(qc×qh×xc×qp×xa×qq×Unit)×zy×z7×z7)->T ((Int×(qc×qh×xc×qp×xa×qq×Unit)×zy×z7×z7)⊕(((qc×qh×xc×qp×xa×qq×Unit)×zy×z7×z7)⊕(Bool×(qc×qh×xc×qp×xa×qq×Unit)×zy×z7×z7)))
 | (i,b,c,d,e)=>let j:=(b.1,(b.2.1,(b.2.2.1,(b.2.2.2.1,(b.2.2.2.2.1,(b.2.2.2.2.2.1,()))))));
 V (B (i<n))
  (oC c <|
 oC d <|
 oC e <|
 U c <|
 U d <|
 U e <|
 X (ba i m.2.2.1 j c d e) λ(l,a,f,g,h)=>let k:=((a.1,(a.2.1,(a.2.2.1,(a.2.2.2.1,(a.2.2.2.2.1,(a.2.2.2.2.2.1,())))))),(f,(g,h)));
 V (!l)
  (oC f <|
 oC g <|
 oC h <|
 U f <|
 U g <|
 U h <|
 E (zF (zF (false,k))))
  (oC f <|
 oC g <|
 oC h <|
 U f <|
 U g <|
 U h <|
 E (zG ((qo (i+1)),k))))
  (oC c <|
 oC d <|
 oC e <|
 U c <|
 U d <|
 U e <|
 E (zF (zG (j,(c,(d,e))))))
def HG d2 x5 s:=zJ (J3 d2 x5) s
def QP(t:Form)(a:qe):T Bool :=
 X (db t a) <|
 zK (λ(k,d,g,h,i) =>
 V (k != 0)
  (E false)
  (X (vw a.2.2.1 (λb=>fg b)) λl =>
 V l
  (E false)
  (X (uw a.2.2.2.2.1 (λb=>fh b)) λm =>
 V m
  (E false)
  (oC g <|
 oC h <|
 oC i <|
 U g <|
 U h <|
 U i <|
 X (HF a a.2.2.2.1 (a.2.2.2.1.length:Int) (0,((d.1,(d.2.1,(d.2.2.1,(d.2.2.2.1,(d.2.2.2.2.1,(d.2.2.2.2.2.1,())))))),(g,(h,i))))) <|
 zK (λ(e,c,f,j) =>
 U c <|
 U f <|
 X (tM (zH 0 (zI (0+c.length) c)) (zH 0 (zI (0+f.length) f)) (a.2.2.1.length:Int)) λn =>
 V (!n)
  (E false)
  (oC c <|
 oC f <|
 oC j <|
 U c <|
 U f <|
 U j <|
 X (HG a (c.length:Int) (0,((e.1,(e.2.1,(e.2.2.1,(e.2.2.2.1,(e.2.2.2.2.1,(e.2.2.2.2.2.1,())))))),(c,(f,j))))) <|
 zK (λ(u,v,w,x) =>
 E true)
  (λ(o,y,z,A,zA) =>
 E o)))
  (λ(p,C,D,zB,G) =>
 E p)))))
  (λ(H,q) =>
 V (q != 0)
  (E false)
  (X (vw a.2.2.1 (λb=>fg b)) λr =>
 V r
  (E false)
  (X (uw a.2.2.2.2.1 (λb=>fh b)) λs =>
 V s
  (E false)
  (.fail))))
def VO(s:Form)(h:qe)(t:zx)(x:Rat):T (qe×zp×Int) :=
 X (tQ s t) λf =>
 X (QP s h) λy =>
 V (!y)
  (E ((([]:List Rat),(([]:List Bool),(([]:List Rat),(([]:List Int),(([]:List qk),(([]:List Bool),())))))),([],1)))
  (V (B (f<0))
  (E ((([]:List Rat),(([]:List Bool),(([]:List Rat),(([]:List Int),(([]:List qk),(([]:List Bool),())))))),([],5)))
  (X (bT x) λz =>
 V (!z)
  (E ((([]:List Rat),(([]:List Bool),(([]:List Rat),(([]:List Int),(([]:List qk),(([]:List Bool),())))))),([t],8)))
  (X (db s h) <|
 zK (λ(g,d,i,j,k) =>
 V (g != 0)
  (E ((([]:List Rat),(([]:List Bool),(([]:List Rat),(([]:List Int),(([]:List qk),(([]:List Bool),())))))),([],g)))
  (oC i <|
 oC j <|
 oC k <|
 U i <|
 U j <|
 U k <|
 X (kN f x (-1) (d.1,(d.2.1,(d.2.2.1,(d.2.2.2.1,(d.2.2.2.2.1,(d.2.2.2.2.2.1,())))))) i j k) λ(e,l,m,n) =>
 U l <|
 U m <|
 U n <|
 X (jS h.2.2.1 ((e.1,(e.2.1,(e.2.2.1,(e.2.2.2.1,(e.2.2.2.2.1,(e.2.2.2.2.2.1,())))))),((zH 0 (zI (0+l.length) l)),((zH 0 (zI (0+m.length) m)),((zH 0 (zI (0+n.length) n)),()))))) λ(A,zA,u,a)=>let b:=qo ((a.2.1.length:Int)-1);
 V (u != 0)
  (E ((([]:List Rat),(([]:List Bool),(([]:List Rat),(([]:List Int),(([]:List qk),(([]:List Bool),())))))),(zA,u)))
  (oI b a.2.2.1 <|
 V ((nth a.2.2.1 b (zb (.int .i64)))==(-1:Int))
  (E ((([]:List Rat),(([]:List Bool),(([]:List Rat),(([]:List Int),(([]:List qk),(([]:List Bool),())))))),([t],11)))
  (.W (jA 0 b a.2.1.length) <|
 .W (jA 0 b a.2.2.1.length) <|
 .W (jA 0 b a.2.2.2.1.length) <|
 X (jS A ((a.1.1,(a.1.2.1,(a.1.2.2.1,(a.1.2.2.2.1,(a.1.2.2.2.2.1,(a.1.2.2.2.2.2.1,())))))),((jI (e:=zr) 0 b a.2.1),((jI (e:=(.int .i64)) 0 b a.2.2.1),((jI (e:=(.int .i64)) 0 b a.2.2.2.1),()))))) λ(C,D,v,zB) =>
 V (v != 0)
  (E ((([]:List Rat),(([]:List Bool),(([]:List Rat),(([]:List Int),(([]:List qk),(([]:List Bool),())))))),(D,v)))
  (X (gD h C zB) λ(G,hb,o,p,q,r,c) =>
 oI f c <|
 .W (uO c.length c.length (0+(zE f)) c.length) <|
 U o <|
 U p <|
 U q <|
 U r <|
 U c <|
 E (((zH 0 (zI (0+o.length) o)),((zH 0 (zI (0+p.length) p)),(G.1,((zH 0 (zI (0+q.length) q)),((zH 0 (zI (0+r.length) r)),((zH 0 (zI (0+c.length) (zL c (0+(zE f)) true))),())))))),([],0)))))))
  (λ(H,w) =>
 V (w != 0)
  (E ((([]:List Rat),(([]:List Bool),(([]:List Rat),(([]:List Int),(([]:List qk),(([]:List Bool),())))))),(H,w)))
  (.fail)))))
def tS(e:Rat->T zx)(d:zt)(f:Int):(zx×Int)->T ((zx×Int)⊕zx)
 | (c,a) =>
 V (B (a<f))
  (oI a d <|
 X (e (nth d a (zb zl))) λb =>
 oK [32] b <|
 oK c (cat [32] b) <|
 E (zG ((cat c (cat [32] b)),(qo (a+1)))))
  (E (zF c))
def J5 text x x1 s:=zJ (tS text x x1) s
def mF(c:zx)(b:zt)(d:Rat->T zx):T zx :=
 X (J5 d b (b.length:Int) (c,0)) λa =>
 oK a [10] <|
 E (cat a [10])
def dM(a:Bool):T zx :=
 V a
  (E [49])
  (E [48])
def sE(e:Bool->T zx)(d:zq)(f:Int):(zx×Int)->T ((zx×Int)⊕zx)
 | (c,a) =>
 V (B (a<f))
  (oI a d <|
 X (e (nth d a (zb .bool))) λb =>
 oK [32] b <|
 oK c (cat [32] b) <|
 E (zG ((cat c (cat [32] b)),(qo (a+1)))))
  (E (zF c))
def VU text x x1 s:=zJ (sE text x x1) s
def fW(c:zx)(b:zq)(d:Bool->T zx):T zx :=
 X (VU d b (b.length:Int) (c,0)) λa =>
 oK a [10] <|
 E (cat a [10])
def lS(a:Int):T zx :=
 V (B (a<0))
  (E [45])
  (X (strconv_Itoa a) λb =>
 E b)
def tT(e:Int->T zx)(d:z7)(f:Int):(zx×Int)->T ((zx×Int)⊕zx)
 | (c,a) =>
 V (B (a<f))
  (oI a d <|
 X (e (nth d a (zb (.int .i64)))) λb =>
 oK [32] b <|
 oK c (cat [32] b) <|
 E (zG ((cat c (cat [32] b)),(qo (a+1)))))
  (E (zF c))
def J6 text x x1 s:=zJ (tT text x x1) s
def tp(c:zx)(b:z7)(d:Int->T zx):T zx :=
 X (J6 d b (b.length:Int) (c,0)) λa =>
 oK a [10] <|
 E (cat a [10])
def lT(a:qk):T zx :=
 V (!a.1)
  (E [45])
  (V a.2.1
  (X (gx a.2.2.1) λb =>
 oK b [33] <|
 E (cat b [33]))
  (X (gx a.2.2.1) λc =>
 E c))
def mS(e:qk->T zx)(d:zo)(f:Int):(zx×Int)->T ((zx×Int)⊕zx)
 | (c,a) =>
 V (B (a<f))
  (oI a d <|
 X (e (nth d a (zb zm))) λb =>
 oK [32] b <|
 oK c (cat [32] b) <|
 E (zG ((cat c (cat [32] b)),(qo (a+1)))))
  (E (zF c))
def QT text x x1 s:=zJ (mS text x x1) s
def fX(c:zx)(b:zo)(d:qk->T zx):T zx :=
 X (QT d b (b.length:Int) (c,0)) λa =>
 oK a [10] <|
 E (cat a [10])
def dh(b:qe):T zx :=
 X (mF [112,97,114,97,109,115] b.1 (λa=>gx a)) λc =>
 X (fW [111,110] b.2.1 (λa=>dM a)) λd =>
 oK c d <|
 X (mF [118,97,108,115] b.2.2.1 (λa=>gx a)) λg =>
 oK (cat c d) g <|
 X (tp [111,117,116,115] b.2.2.2.1 (λa=>lS a)) λi=>let f:=cat (cat (cat c d) g) i;
 oK (cat (cat c d) g) i <|
 X (fX [112,105,110,115] b.2.2.2.2.1 (λa=>lT a)) λe =>
 oK f e <|
 X (fW [102,105,108,108,101,100] b.2.2.2.2.2.1 (λa=>dM a)) λh =>
 oK (cat f e) h <|
 oK (cat (cat f e) h) [101,110,100,10] <|
 E (cat (cat (cat f e) h) [101,110,100,10])
def wR(a:zp):T zp :=
 .W (a=[]->∀ r,T.leads (.W (vV 0 0 0 0 0 a.length 16) <|
 .W (zw (0+a.length) 0 (0+a.length) a.length) <|
 .W ((0+a.length)=a.length) <|
 E a:T _) r->T.leads (.W (zw 0 0 0 0) <|
 .W (0=0) <|
 E []:T _) r) <|
 .W (vV 0 0 0 0 0 a.length 16) <|
 oM (0+a.length) a.length <|
 E a
def XP(d:uG)(e:zx):T uG :=
 X (wR d.1) λc=>let a:=c.length+1; let b:=lh 0 (qo ((zN a:Int)-32));
 oA c 16 <|
 .W (jA b (zN a:Int) a) <|
 .W (a=a) <|
 E ((zH (0+(zE b)) (zI ((0+(zE b))+((zE (zN a:Int))-(zE b))) (c++[e]))),(([]:List zx),()))
def vv(b:qe)(h:zp)(d:Int)(a:zn):T (Answer×zn) :=
 let e:=(a.1.1,(a.1.2.1,(a.1.2.2.1,(a.1.2.2.2.1,(a.1.2.2.2.2.1,(a.1.2.2.2.2.2.1,()))))));  V (d != 0)
  (E ((d,(h,([],()))),a))
  (X (dh (a.2.1.1,(a.2.1.2.1,(a.2.1.2.2.1,(a.2.1.2.2.2.1,(a.2.1.2.2.2.2.1,(a.2.1.2.2.2.2.2.1,()))))))) λf =>
 X (XP (a.2.2.1.1,(a.2.2.1.2.1,())) f) λc =>
 X (Z6 e b.2.1 a.2.2.2.1) λg =>
 E (((0:Int),(([]:List zx),([],()))),(e,((b.1,(b.2.1,(b.2.2.1,(b.2.2.2.1,(b.2.2.2.2.1,(b.2.2.2.2.2.1,())))))),((c.1,(c.2.1,())),(g,(a.2.2.2.2.1,())))))))
def Zw(w:Form)(c:qe)(C:zx)(i:Bool):T (qe×zp×Int) :=
 X (tQ w C) λa =>
 X (QP w c) λy =>
 V (!y)
  (E ((([]:List Rat),(([]:List Bool),(([]:List Rat),(([]:List Int),(([]:List qk),(([]:List Bool),())))))),([],1)))
  (V (B (a<0))
  (E ((([]:List Rat),(([]:List Bool),(([]:List Rat),(([]:List Int),(([]:List qk),(([]:List Bool),())))))),([],5)))
  (.W ((i=true)->(xe a c.2.2.2.2.1.length)) <|
 V (i&&(nth c.2.2.2.2.1 a (zb zm)).1)
  (E ((([]:List Rat),(([]:List Bool),(([]:List Rat),(([]:List Int),(([]:List qk),(([]:List Bool),())))))),([],1)))
  (.W (((!i)=true)->(xe a c.2.2.2.2.1.length)) <|
 V ((!i)&&(!(nth c.2.2.2.2.1 a (zb zm)).1))
  (E ((([]:List Rat),(([]:List Bool),(([]:List Rat),(([]:List Int),(([]:List qk),(([]:List Bool),())))))),([],12)))
  (X (lP c) λ(D,d,e,f,g,b,h) =>
 X (yW 0) λk=>let j:=zL b (0+(zE a)) (false,(false,((k.1,(k.2.1,(k.2.2.1,()))),()))); let x:=zL j (0+(zE a)) (true,(false,(((nth c.2.2.1 a (zb zl)).1,((nth c.2.2.1 a (zb zl)).2.1,((nth c.2.2.1 a (zb zl)).2.2.1,()))),())));
 oI a b <|
 .W (uO b.length b.length (0+(zE a)) b.length) <|
 X (V i
  (oI a c.2.2.1 <|
 oI a b <|
 .W (uO b.length b.length (0+(zE a)) j.length) <|
 U d <|
 U e <|
 U f <|
 U g <|
 .W (b.length=x.length) <|
 U h <|
 oC d <|
 oC e <|
 oC f <|
 oC g <|
 .W (zw b.length 0 b.length x.length) <|
 oC h <|
 E ((([]:List Rat),(([]:List Bool),(([]:List Rat),(([]:List Int),(([]:List qk),(([]:List Bool),())))))),(d,(e,(f,(g,(x,(h,()))))))))
  (U d <|
 U e <|
 U f <|
 U g <|
 .W (b.length=j.length) <|
 U h <|
 oC d <|
 oC e <|
 oC f <|
 oC g <|
 .W (zw b.length 0 b.length j.length) <|
 oC h <|
 E ((([]:List Rat),(([]:List Bool),(([]:List Rat),(([]:List Int),(([]:List qk),(([]:List Bool),())))))),(d,(e,(f,(g,(j,(h,())))))))):T ((qe×zt×zq×zt×z7×zo×zq×Unit))) λ(zB,l,m,n,o,p,q,G) =>
 oW l m n o p q <|
 X (dL w ((zH 0 (zI (0+l.length) l)),((zH 0 (zI (0+m.length) m)),((zH 0 (zI (0+n.length) n)),((zH 0 (zI (0+o.length) o)),((zH 0 (zI (0+p.length) p)),((zH 0 (zI (0+q.length) q)),()))))))) λ(z,A,zA,r,s,t,u,v) =>
 U r <|
 U s <|
 U t <|
 U u <|
 U v <|
 E (((zH 0 (zI (0+r.length) r)),((zH 0 (zI (0+s.length) s)),(z.1,((zH 0 (zI (0+t.length) t)),((zH 0 (zI (0+u.length) u)),((zH 0 (zI (0+v.length) v)),())))))),(A,zA))))))
def gy(a:Param)(b:zx):T Bool :=
 E (wG a.1 b)
def lQ(k:Int):(Int×z7×(zt×zq×zt×zo×zq×Unit)×zy×z7×Unit×(qc×qh×xc×qp×xa×qq×Unit)×z7)->T ((Int×z7×(zt×zq×zt×zo×zq×Unit)×zy×z7×Unit×(qc×qh×xc×qp×xa×qq×Unit)×z7)⊕((z7×(zt×zq×zt×zo×zq×Unit)×zy×z7×Unit×(qc×qh×xc×qp×xa×qq×Unit)×z7)))
 | (g,b,c,e,a,l,f,d)=>let j:=(f.1,(f.2.1,(f.2.2.1,(f.2.2.2.1,(f.2.2.2.2.1,(f.2.2.2.2.2.1,())))))); let h:=wh a (0+(zE g)) (zb (.int .i64)); let i:=d++([(wh b (0+(zE h)) (zb (.int .i64)))]:List Int);
 V (B (g<k))
  (oI g a <|
 .W (uO a.length a.length (0+(zE g)) a.length) <|
 oI h b <|
 .W (uO b.length b.length (0+(zE h)) b.length) <|
 oA d 8 <|
 oC a <|
 U b <|
 oC b <|
 U e <|
 U a <|
 oC e <|
 .W (zw (d.length+1) 0 (d.length+1) i.length) <|
 oC a <|
 .W ((d.length+1)=i.length) <|
 E (zG ((qo (g+1)),(b,((c.1,(c.2.1,(c.2.2.1,(c.2.2.2.1,(c.2.2.2.2.1,()))))),(e,(a,((),(j,i)))))))))
  (U b <|
 oC b <|
 U e <|
 U a <|
 oC e <|
 oC d <|
 oC a <|
 U d <|
 E (zF (b,((c.1,(c.2.1,(c.2.2.1,(c.2.2.2.1,(c.2.2.2.2.1,()))))),(e,(a,((),(j,d))))))))
def tO x s:=zJ (lQ x) s
def lR(m:zo)(p:Int):(Int×z7×(zt×zq×zt×zo×zq×Unit)×zy×z7×Unit×(qc×qh×xc×qp×xa×qq×Unit)×z7)->T ((Int×z7×(zt×zq×zt×zo×zq×Unit)×zy×z7×Unit×(qc×qh×xc×qp×xa×qq×Unit)×z7)⊕((z7×(zt×zq×zt×zo×zq×Unit)×zy×z7×Unit×(qc×qh×xc×qp×xa×qq×Unit)×z7)))
 | (f,b,a,c,d,q,h,e)=>let n:=(h.1,(h.2.1,(h.2.2.1,(h.2.2.2.1,(h.2.2.2.2.1,(h.2.2.2.2.2.1,())))))); let i:=nth m f (zb zm); let o:=(b,((a.1,(a.2.1,(a.2.2.1,(a.2.2.2.1,(a.2.2.2.2.1,()))))),(c,(d,((),(n,e))))));
 V (B (f<p))
  (oI f m <|
 V (!i.1)
  (U b <|
 oC b <|
 U c <|
 U d <|
 oC c <|
 oC e <|
 oC d <|
 U e <|
 E (zG ((qo (f+1)),o)))
  (oC c <|
 oC e <|
 oC d <|
 U c <|
 U e <|
 U d <|
 X (kN f (i.2.2.1.1,(i.2.2.1.2.1,(i.2.2.1.2.2.1,()))) (bif i.2.1 then f else(-1)) n c e d) λ(g,j,k,l) =>
 U b <|
 oC b <|
 U j <|
 U l <|
 oC j <|
 oC k <|
 oC l <|
 U k <|
 E (zG ((qo (f+1)),(b,((a.1,(a.2.1,(a.2.2.1,(a.2.2.2.1,(a.2.2.2.2.1,()))))),(j,(l,((),((g.1,(g.2.1,(g.2.2.1,(g.2.2.2.1,(g.2.2.2.2.1,(g.2.2.2.2.2.1,())))))),k))))))))))
  (U b <|
 oC b <|
 U c <|
 U d <|
 oC c <|
 oC e <|
 oC d <|
 U e <|
 E (zF o))
def tP x2 x3 s:=zJ (lR x2 x3) s
def ez(c:Form)(a:(zt×zq×zt×zo×zq×Unit))(b:z7):T ((Int×z7×(qc×qh×xc×qp×xa×qq×Unit)×zy×z7×z7)⊕(zp×Int×z7)) :=
 U b <|
 X (QS c (a.1,(a.2.1,(a.2.2.1,((zH 0 (zI (0+b.length) b)),(a.2.2.2.1,(a.2.2.2.2.1,()))))))) λs =>
 V (!s)
  (U b <|
 E (zF ([],(1,b))))
  (X (mT c a.1 a.2.1) λ(t,q,h,i,g) =>
 V ((h != 0)&&(!(wG q [])))
  (U b <|
 E (zF ([q],(h,b))))
  (V (h != 0)
  (U b <|
 E (zF ([],(h,b))))
  (oC g <|
 U b <|
 oC b <|
 U i <|
 U g <|
 oC i <|
 .W (zw 0 0 0 0) <|
 oC g <|
 .W (0=0) <|
 X (tO (g.length:Int) (0,(b,((a.1,(a.2.1,(a.2.2.1,(a.2.2.2.1,(a.2.2.2.2.1,()))))),(i,(g,((),((c.1,(c.2.1,(c.2.2.1,(c.2.2.2.1,(c.2.2.2.2.1,(c.2.2.2.2.2.1,())))))),[])))))))) λ(j,d,k,l,u,e,m) =>
 U j <|
 oC j <|
 U k <|
 U l <|
 oC k <|
 oC m <|
 oC l <|
 U m <|
 X (tP d.2.2.2.1 (d.2.2.2.1.length:Int) (0,(j,((d.1,(d.2.1,(d.2.2.1,(d.2.2.2.1,(d.2.2.2.2.1,()))))),(k,(l,((),((e.1,(e.2.1,(e.2.2.1,(e.2.2.2.1,(e.2.2.2.2.1,(e.2.2.2.2.2.1,())))))),m)))))))) λ(r,v,n,o,w,f,p) =>
 U r <|
 oC n <|
 oC p <|
 oC o <|
 U n <|
 U p <|
 U o <|
 E (zG (0,(r,((f.1,(f.2.1,(f.2.2.1,(f.2.2.2.1,(f.2.2.2.2.1,(f.2.2.2.2.2.1,())))))),(n,(p,o)))))))))
def gn(b:z7)(c:z7)(d:Int):Int->T (Int⊕(Unit⊕Bool))
 | a =>
 V (B (a<d))
  (oI a b <|
 oI a c <|
 V ((nth b a (zb (.int .u32))) != (nth c a (zb (.int .u32))))
  (E (zF (zF false)))
  (E (zG (qo (a+1)))))
  (E (zF (zG ())))
def dZ s11 s21 x s:=zJ (gn s11 s21 x) s
def jq(a:z7)(b:z7):T Bool :=
 V ((a.length:Int) != (b.length:Int))
  (E false)
  (X (dZ a b (a.length:Int) 0) <|
 zK (λ_ =>
 E true)
  (λc =>
 E c))
def Xn(e:Rat)(f:Rat):T Bool :=
 X (vD e) λa =>
 X (vD f) λb =>
 V (a.1==b.1)
  (X (jq a.2.1 b.2.1) λc =>
 V c
  (X (jq a.2.2.1 b.2.2.1) λd =>
 E d)
  (E false))
  (E false)
def mN(a:Term)(b:Term):T Bool :=
 V (a.1==b.1)
  (X (Xn a.2.1 b.2.1) λc =>
 E c)
  (E false)
def uU(b:wB)(e:Term->Term->T Bool)(c:wB)(f:Int):Int->T (Int⊕(Unit⊕Bool))
 | a =>
 V (B (a<f))
  (oI a c <|
 oI a b <|
 X (e (nth c a (zb qj)) (nth b a (zb qj))) λd =>
 V (!d)
  (E (zF (zF false)))
  (E (zG (qo (a+1)))))
  (E (zF (zG ())))
def yv s21 eq x x1 s:=zJ (uU s21 eq x x1) s
def jo(a:wB)(b:wB)(d:Term->Term->T Bool):T Bool :=
 V ((a.length:Int) != (b.length:Int))
  (E false)
  (X (yv b d a (a.length:Int) 0) <|
 zK (λ_ =>
 E true)
  (λc =>
 E c))
def VE(a:vI)(b:vI):T Bool :=
 V (a.1==b.1)
  (X (Xn a.2.2.1 b.2.2.1) λc =>
 V c
  (X (jo a.2.1 b.2.1 (λz0 z1=>mN z0 z1)) λd =>
 E d)
  (E false))
  (E false)
def nO(G:Form)(zB:Int):(Int×z7×(zt×zq×zt×zo×zq×Unit)×qe×(qc×qh×xc×qp×xa×qq×Unit)×zy×z7×z7×(qc×qh×xc×qp×xa×qq×Unit)×zy×z7×z7)->T ((Int×z7×(zt×zq×zt×zo×zq×Unit)×qe×(qc×qh×xc×qp×xa×qq×Unit)×zy×z7×z7×(qc×qh×xc×qp×xa×qq×Unit)×zy×z7×z7)⊕((z7×(zt×zq×zt×zo×zq×Unit)×qe×(qc×qh×xc×qp×xa×qq×Unit)×zy×z7×z7×(qc×qh×xc×qp×xa×qq×Unit)×zy×z7×z7)))
 | (i,f,u,D,l,a,g,c,m,b,h,d)=>let x:=(f,((u.1,(u.2.1,(u.2.2.1,(u.2.2.2.1,(u.2.2.2.2.1,()))))),(D,((l.1,(l.2.1,(l.2.2.1,(l.2.2.2.1,(l.2.2.2.2.1,(l.2.2.2.2.2.1,())))))),(a,(g,(c,((m.1,(m.2.1,(m.2.2.1,(m.2.2.2.1,(m.2.2.2.2.1,(m.2.2.2.2.2.1,())))))),(b,(h,d))))))))));
 V (B (i<zB))
  (U c <|
 X (uH (zH 0 (zI (0+c.length) c)) i) λv =>
 U d <|
 X (uH (zH 0 (zI (0+d.length) d)) i) λw =>
 X (V (B (v<0))
  (U f <|
 oC f <|
 oC a <|
 oC g <|
 oC c <|
 U a <|
 U g <|
 U c <|
 oC b <|
 oC h <|
 oC d <|
 U b <|
 U h <|
 U d <|
 E (true,x))
  (V (B (w<0))
  (U f <|
 oC f <|
 oC a <|
 oC g <|
 oC c <|
 U a <|
 U g <|
 U c <|
 oC b <|
 oC h <|
 oC d <|
 U b <|
 U h <|
 U d <|
 E (true,x))
  (oI v a <|
 .W (uO a.length a.length (0+(zE v)) a.length) <|
 oI w b <|
 .W (uO b.length b.length (0+(zE w)) b.length) <|
 X (VE (wh a (0+(zE v)) (zb zr)) (wh b (0+(zE w)) (zb zr))) λA =>
 U f <|
 oC f <|
 oC a <|
 oC g <|
 oC c <|
 U a <|
 U g <|
 U c <|
 oC b <|
 oC h <|
 oC d <|
 U b <|
 U h <|
 U d <|
 E ((!A),x))):T ((Bool×z7×(zt×zq×zt×zo×zq×Unit)×qe×(qc×qh×xc×qp×xa×qq×Unit)×zy×z7×z7×(qc×qh×xc×qp×xa×qq×Unit)×zy×z7×z7))) λ(zA,e,n,C,j,o,p,q,k,r,s,t)=>let y:=zL e (0+(zE i)) (-1); let z:=((n.1,(n.2.1,(n.2.2.1,(n.2.2.2.1,(n.2.2.2.2.1,()))))),(C,((j.1,(j.2.1,(j.2.2.1,(j.2.2.2.1,(j.2.2.2.2.1,(j.2.2.2.2.2.1,())))))),(o,(p,(q,((k.1,(k.2.1,(k.2.2.1,(k.2.2.2.1,(k.2.2.2.2.1,(k.2.2.2.2.2.1,())))))),(r,(s,t)))))))));
 V zA
  (oI i e <|
 .W (uO e.length e.length (0+(zE i)) e.length) <|
 .W (e.length=y.length) <|
 .W (zw e.length 0 e.length y.length) <|
 oC o <|
 oC p <|
 oC q <|
 U o <|
 U p <|
 U q <|
 oC r <|
 oC s <|
 oC t <|
 U r <|
 U s <|
 U t <|
 E (zG ((qo (i+1)),(y,z))))
  (U e <|
 oC e <|
 oC o <|
 oC p <|
 oC q <|
 U o <|
 U p <|
 U q <|
 oC r <|
 oC s <|
 oC t <|
 U r <|
 U s <|
 U t <|
 E (zG ((qo (i+1)),(e,z)))))
  (U f <|
 oC f <|
 oC a <|
 oC g <|
 oC c <|
 U a <|
 U g <|
 U c <|
 oC b <|
 oC h <|
 oC d <|
 U b <|
 U h <|
 U d <|
 E (zF x))
def Qm f1 x1 s:=zJ (nO f1 x1) s
end Go.AM.Lf
