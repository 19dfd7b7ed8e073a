/-
  The program's functions as trees in plain Lean, part 0: printed by a program of ours.
-/
import Derived.Test.YtjklmealdnfhfaaGreatDoorAmA
set_option linter.unusedVariables false
open Decidable renaming decide -> zA
open Go.AM.T renaming ret -> Y, bind -> X, ite -> V, loop -> zJ
open Int renaming toNat -> zE, tmod -> zP, tdiv -> zQ
open Sum renaming inr -> zF, inl -> zG, elim -> zK
open List renaming drop -> zH, take -> zI, set -> zL, replicate -> zM, length -> zO
open Nat renaming cast -> zN
noncomputable section
namespace Go.AM.Lf
abbrev jv:Ty:=(.cons .str .nil)
abbrev gE:=den jv
abbrev od:Ty:=(.cons .str (.cons (.int .u64) .nil))
abbrev Gf:=den od
abbrev qs:Ty:=(.cons .str (.cons .bool .nil))
abbrev Switch:=den qs
abbrev xp:Ty:=(.cons .str jv)
abbrev eN:=den xp
abbrev uq:Ty:=(.cons (.int .i64) (.cons (.int .i64) .nil))
abbrev xh:=den uq
abbrev sk:Ty:=(.cons (.int .u8) (.cons (.int .u8) .nil))
abbrev Hh:=den sk
abbrev jx:Ty:=(.cons (.sl .str) (.cons (.sl .str) .nil))
abbrev vo:=den jx
abbrev wF:Ty:=(.cons (.int .i64) (.cons (.sl .str) jv))
abbrev Answer:=den wF
abbrev Qz:Ty:=(.cons (.int .i64) (.cons (.int .i64) (.cons .bool (.cons (.int .u8) .nil))))
abbrev FX:=den Qz
abbrev zm:Ty:=(.cons .bool (.cons (.sl (.int .u32)) (.cons (.sl (.int .u32)) .nil)))
abbrev Rat:=den zm
abbrev qv:Ty:=(.cons .str (.cons (.int .i64) (.cons .bool (.cons (.int .i64) .nil))))
abbrev Field:=den qv
abbrev xk:Ty:=(.cons .str (.cons (.int .i64) (.cons (.int .i64) (.cons .bool .nil))))
abbrev zc:=den xk
abbrev xl:Ty:=(.cons .str (.cons (.int .i64) (.cons .str (.cons .expr (.cons .expr .nil)))))
abbrev dZ:=den xl
abbrev xj:Ty:=(.cons .str (.cons (.int .i64) (.cons (.int .i64) (.cons .expr (.cons .expr .nil)))))
abbrev Check:=den xj
abbrev He:Ty:=(.cons .str (.cons jx (.cons (.int .i64) (.cons .bool .nil))))
abbrev z9i:=den He
abbrev qf:Ty:=(.cons .str (.cons zm .nil))
abbrev Param:=den qf
abbrev qk:Ty:=(.cons (.int .i64) (.cons zm .nil))
abbrev Term:=den qk
abbrev bK:Ty:=(.cons (.int .i64) (.cons .str (.cons zm (.cons .bool .nil))))
abbrev Op:=den bK
abbrev zn:Ty:=(.cons .bool (.cons .bool (.cons zm .nil)))
abbrev ql:=den zn
abbrev uX:Ty:=(.cons (.sl (.int .i64)) (.cons (.sl zm) .nil))
abbrev j9:=den uX
abbrev wJ:Ty:=(.cons (.sl .str) (.cons (.sl .str) (.cons (.sl zm) .nil)))
abbrev wk:=den wJ
abbrev zt:Ty:=(.cons (.int .i64) (.cons (.sl qk) (.cons zm .nil)))
abbrev vK:=den zt
abbrev Hf:Ty:=(.cons (.sl zt) (.cons (.sl (.int .i64)) .nil))
abbrev z9k:=den Hf
abbrev XB:Ty:=(.cons (.sl zt) (.cons (.sl (.int .i64)) (.cons (.sl (.int .i64)) .nil)))
abbrev z5e:=den XB
abbrev qy:Ty:=(.cons (.sl qs) (.cons (.sl qf) (.cons (.sl xp) (.cons (.sl qv) (.cons (.sl xl) (.cons (.sl xj) .nil))))))
abbrev Form:=den qy
abbrev xf:Ty:=(.cons (.sl zm) (.cons (.sl .bool) (.cons (.sl zm) (.cons (.sl (.int .i64)) (.cons (.sl zn) (.cons (.sl .bool) .nil))))))
abbrev qe:=den xf
abbrev uA:Ty:=(.cons qy XB)
abbrev uo:=den uA
abbrev qw:Ty:=(.cons qy (.cons xf (.cons jx (.cons (.int .i64) (.cons .bool .nil)))))
abbrev zl:=den qw
abbrev qc:=List Switch
abbrev z7:=List Int
abbrev qg:=List Param
abbrev xc:=List eN
abbrev qo:=List Field
abbrev zo:=List zx
abbrev cV:=List AM.Expr
abbrev xa:=List dZ
abbrev qq:=List Check
abbrev zu:=List Rat
abbrev zr:=List Bool
abbrev wB:=List Term
abbrev zy:=List vK
abbrev zq:=List ql
abbrev Jp:=List Op
abbrev eX:=List Answer
def cu(a:Int):T Bool :=
 Y ((zA (97<=a))&&(zA (a<=122)))
def kh(a:Int):T Bool :=
 Y ((zA (48<=a))&&(zA (a<=57)))
def bU(a:Int):T Bool :=
 X (cu a) λb =>
 V b
  (Y true)
  (X (kh a) λc =>
 V c
  (Y true)
  (Y (a==95)))
def ZE(b:zx)(d:Int):Int->T (Int⊕(Unit⊕Bool))
 | a =>
 V (zA (a<d))
  (oI a b <|
 X (bU (uv b a)) λc =>
 V (!c)
  (Y (zF (zF false)))
  (Y (zG (qi (a+1)))))
  (Y (zF (zG ())))
def ZC s1 x1 s:=zJ (ZE s1 x1) s
def uQ(a:zx):T Bool :=
 X (V (wL a [])
  (Y true)
  (V (zA (24<(a.length:Int)))
  (Y true)
  (oI 0 a <|
 X (cu (uv a 0)) λb =>
 Y (!b))):T Bool) λc =>
 V c
  (Y false)
  (X (ZC a (a.length:Int) 0) <|
 zK (λ_ =>
 Y true)
  (λd =>
 Y d))
def yN(b:Switch):T Bool :=
 X (uQ b.1) λa =>
 Y (!a)
def wY(b:qc)(d:Switch->T Bool)(e:Int):Int->T (Int⊕(Unit⊕Int))
 | a =>
 V (zA (a<e))
  (oI a b <|
 X (d (nth b a (zb qs))) λc =>
 V c
  (Y (zF (zF a)))
  (Y (zG (qi (a+1)))))
  (Y (zF (zG ())))
def nB s1 f x s:=zJ (wY s1 f x) s
def wa(a:qc)(c:Switch->T Bool):T Int :=
 X (nB a c (a.length:Int) 0) <|
 zK (λ_ =>
 Y (-1))
  (λb =>
 Y b)
def vG(b:qc)(c:Switch->T Bool):T Bool :=
 X (wa b c) λa =>
 Y (zA (0<=a))
def ZS(a:z7):T Bool :=
 .W ((((a.length:Int)==0)=false)->(xe (qi ((a.length:Int)-1)) a.length)) <|
 Y (((a.length:Int)==0)||((nth a (qi ((a.length:Int)-1)) (zb (.int .u32))) != 0))
def sR  : z7->T (z7⊕z7)
 | a =>
 X (ZS a) λb =>
 V (!b)
  (.W (jA 0 (qi ((a.length:Int)-1)) a.length) <|
 Y (zG (jJ (e:=(.int .u32)) 0 (qi ((a.length:Int)-1)) a)))
  (Y (zF a))
def Xj(s:z7):T z7:=zJ (sR ) s
def vY(b:z7):T z7 :=
 X (Xj  b) λa =>
 Y a
def yg(a:z7):T z7 :=
 let b:=0+a.length;  .W (a=[]->∀ r,T.leads (.W (vV 0 0 0 0 0 a.length 4) <|
 .W (b=b) <|
 Y (zH 0 (zI (0+b) a)):T _) r->T.leads (Y []:T _) r) <|
 .W (vV 0 0 0 0 0 a.length 4) <|
 .W (b=b) <|
 Y (zH 0 (zI (0+b) a))
def iF(c:z7):T z7 :=
 X (vY c) λa =>
 X (yg a) λb =>
 Y b
def rK(b:z7)(c:z7):Int->T (Int⊕(Unit⊕Int))
 | a =>
 V (zA (0<=a))
  (oI a b <|
 oI a c <|
 V ((nth b a (zb (.int .u32))) != (nth c a (zb (.int .u32))))
  (oI a b <|
 oI a c <|
 V (zA ((nth b a (zb (.int .u32)))<(nth c a (zb (.int .u32)))))
  (Y (zF (zF (-1))))
  (Y (zF (zF 1))))
  (Y (zG (qi (a-1)))))
  (Y (zF (zG ())))
def YR a2 b2 s:=zJ (rK a2 b2) s
def sP(d:z7)(e:z7):T Int :=
 X (vY d) λa =>
 X (vY e) λb =>
 V ((a.length:Int) != (b.length:Int))
  (V (zA ((a.length:Int)<(b.length:Int)))
  (Y (-1))
  (Y 1))
  (X (YR a b (qi ((a.length:Int)-1))) <|
 zK (λ_ =>
 Y 0)
  (λc =>
 Y c))
def eJ(b:Int)(c:Int)(a:Int):T (Int×Int) :=
 V ((a != 0)&&(zA (a<=b)))
  (.fail)
  (.W (0<=(32:Int)) <|
 .W ((wi a)≠0) <|
 .W ((wi a)≠0) <|
 Y ((gM (wi (zQ (H7 .u64 (Za .u64 (wi b) 32) (wi c)) (wi a)))),(gM (zP (H7 .u64 (Za .u64 (wi b) 32) (wi c)) (wi a)))))
def oL(e:z7)(g:Int):(Int×Int×z7)->T ((Int×Int×z7)⊕((Int×z7)))
 | (d,b,a) =>
 V (zA (0<=b))
  (oI b e <|
 X (eJ d (nth e b (zb (.int .u32))) g) λ(c,f) =>
 oI b a <|
 .W (uO a.length a.length (0+(zE b)) a.length) <|
 oM a.length (zL a (0+(zE b)) c).length <|
 Y (zG (f,((qi (b-1)),(zL a (0+(zE b)) c)))))
  (oC a <|
 U a <|
 Y (zF (d,a)))
def Uh a1 b1 s:=zJ (oL a1 b1) s
def pw(a:z7)(e:Int):T (z7×Int) :=
 .W (eC (a.length:Int) (a.length:Int) 4) <|
 oM (zE (a.length:Int)) (zM (zE (a.length:Int)) (0:Int)).length <|
 X (Uh a e (0,((qi ((a.length:Int)-1)),(zM (zE (a.length:Int)) 0)))) λ(c,b) =>
 U b <|
 X (vY (zH 0 (zI (0+b.length) b))) λd =>
 Y (d,c)
def iA(a:Int):T z7 :=
 .W (0<=(32:Int)) <|
 X (vY ([(gM a),(gM (jk .u64 a 32))]:List Int)) λb =>
 Y b
def eK(b:Int):T Int :=
 let a:=bif (zA (65536<=b))then(jk .u32 b 16)else b;  .W (((zA (65536<=b))=true)->(0<=(16:Int))) <|
 .W (((zA (256<=a))=true)->(0<=(8:Int))) <|
 .W (xe (wu8 (bif (zA (256<=a))then(jk .u32 a 8)else a)) ([0,1,2,2,3,3,3,3,4,4,4,4,4,4,4,4,5,5,5,5,5,5,5,5,5,5,5,5,5,5,5,5,6,6,6,6,6,6,6,6,6,6,6,6,6,6,6,6,6,6,6,6,6,6,6,6,6,6,6,6,6,6,6,6,7,7,7,7,7,7,7,7,7,7,7,7,7,7,7,7,7,7,7,7,7,7,7,7,7,7,7,7,7,7,7,7,7,7,7,7,7,7,7,7,7,7,7,7,7,7,7,7,7,7,7,7,7,7,7,7,7,7,7,7,7,7,7,7,8,8,8,8,8,8,8,8,8,8,8,8,8,8,8,8,8,8,8,8,8,8,8,8,8,8,8,8,8,8,8,8,8,8,8,8,8,8,8,8,8,8,8,8,8,8,8,8,8,8,8,8,8,8,8,8,8,8,8,8,8,8,8,8,8,8,8,8,8,8,8,8,8,8,8,8,8,8,8,8,8,8,8,8,8,8,8,8,8,8,8,8,8,8,8,8,8,8,8,8,8,8,8,8,8,8,8,8,8,8,8,8,8,8,8,8,8,8,8,8,8,8,8,8,8,8,8,8]:zx).length) <|
 Y (qi ((bif (zA (256<=a))then(qi ((bif (zA (65536<=b))then 16 else 0)+8))else(bif (zA (65536<=b))then 16 else 0))+(qi (uv [0,1,2,2,3,3,3,3,4,4,4,4,4,4,4,4,5,5,5,5,5,5,5,5,5,5,5,5,5,5,5,5,6,6,6,6,6,6,6,6,6,6,6,6,6,6,6,6,6,6,6,6,6,6,6,6,6,6,6,6,6,6,6,6,7,7,7,7,7,7,7,7,7,7,7,7,7,7,7,7,7,7,7,7,7,7,7,7,7,7,7,7,7,7,7,7,7,7,7,7,7,7,7,7,7,7,7,7,7,7,7,7,7,7,7,7,7,7,7,7,7,7,7,7,7,7,7,7,8,8,8,8,8,8,8,8,8,8,8,8,8,8,8,8,8,8,8,8,8,8,8,8,8,8,8,8,8,8,8,8,8,8,8,8,8,8,8,8,8,8,8,8,8,8,8,8,8,8,8,8,8,8,8,8,8,8,8,8,8,8,8,8,8,8,8,8,8,8,8,8,8,8,8,8,8,8,8,8,8,8,8,8,8,8,8,8,8,8,8,8,8,8,8,8,8,8,8,8,8,8,8,8,8,8,8,8,8,8,8,8,8,8,8,8,8,8,8,8,8,8,8,8,8,8,8,8] (wu8 (bif (zA (256<=a))then(jk .u32 a 8)else a))))))
def kl(b:Int):T Int :=
 X (eK b) λa =>
 Y (qi (32-a))
def Wz(e:Int)(h:Int)(f:z7)(i:Int):(Int×z7)->T ((Int×z7)⊕z7)
 | (b,a)=>let c:=qi (b+1); let d:=zL a (0+(zE b)) (H7 .u32 (wj a (0+(zE b)) (zb (.int .u32))) (gM (Za .u64 (wi (nth f b (zb (.int .u32)))) e))); let g:=zL d (0+(zE c)) (gM (jk .u64 (Za .u64 (wi (nth f b (zb (.int .u32)))) e) 32));
 V (zA (b<i))
  (oI b f <|
 .W (0<=e) <|
 oI b a <|
 .W (uO a.length a.length (0+(zE b)) a.length) <|
 oI b a <|
 .W (uO a.length a.length (0+(zE b)) a.length) <|
 V (zA (c<h))
  (.W (0<=(32:Int)) <|
 oI c a <|
 .W (uO a.length a.length (0+(zE c)) d.length) <|
 oM a.length g.length <|
 Y (zG (c,g)))
  (oM a.length d.length <|
 Y (zG (c,d))))
  (oC a <|
 U a <|
 Y (zF a))
def Wy by_1 n1 x x1 s:=zJ (Wz by_1 n1 x x1) s
def rM(c:z7)(d:Int)(a:Int):T z7 :=
 .W (eC a a 4) <|
 oM (zE a) (zM (zE a) (0:Int)).length <|
 X (Wy d a c (c.length:Int) (0,(zM (zE a) 0))) λb =>
 oC b <|
 U b <|
 Y b
def iG(d:Int)(c:Int)(e:Int):(Int×Int)->T ((Int×Int)⊕Int)
 | (a,b) =>
 .W ((0<=(32:Int))/\((((jk .u64 a 32) != 0)=false)->(0<=(32:Int)))) <|
 V (((jk .u64 a 32) != 0)||(zA ((H7 .u64 (Za .u64 b 32) (wi d))<(wi (a*(wi e))))))
  (.W (0<=(32:Int)) <|
 V ((jk .u64 (wi (b+(wi c))) 32) != 0)
  (Y (zF (wi (a-1))))
  (Y (zG ((wi (a-1)),(wi (b+(wi c)))))))
  (Y (zF a))
def Ue low1 b11 b21 s:=zJ (iG low1 b11 b21) s
def pq(b:Int)(c:Int)(e:Int)(a:Int)(f:Int):T Int :=
 .W (0<=(32:Int)) <|
 .W ((wi a)≠0) <|
 .W ((wi a)≠0) <|
 X (Ue e a f ((wi (zQ (H7 .u64 (Za .u64 (wi b) 32) (wi c)) (wi a))),(zP (H7 .u64 (Za .u64 (wi b) 32) (wi c)) (wi a)))) λd =>
 Y d
def kX(a:Int)(b:Int)(c:Int):T (Int×Int) :=
 .W (0<=(31:Int)) <|
 Y ((gM ((gM (a-b))-c)),(jk .u32 (H7 .u32 (GM .u32 (LY .u32 4294967295 a) b) (GM .u32 (LY .u32 4294967295 (LY .u32 a b)) (gM ((gM (a-b))-c)))) 31))
def eI(a:Int)(b:Int)(c:Int):T (Int×Int) :=
 .W (0<=(32:Int)) <|
 Y ((gM (wi ((wi ((wi a)+(wi b)))+(wi c)))),(gM (jk .u64 (wi ((wi ((wi a)+(wi b)))+(wi c))) 32)))
def iH(l:z7)(i:Int)(f:z7)(k:Int):((Nat×Nat)×Int×Int×Int×z7)->T (((Nat×Nat)×Int×Int×Int×z7)⊕(((Nat×Nat)×Int×Int×z7)))
 | (c,e,h,b,a)=>let d:=c.1+(zE b);
 V (zA (b<k))
  (oI b f <|
 .W (xe b c.2) <|
 .W (uO a.length a.length d a.length) <|
 X (kX (wj a d (zb (.int .u32))) (gM (wi (e+(wi (i*(wi (nth f b (zb (.int .u32))))))))) h) λ(g,j) =>
 .W (xe b c.2) <|
 .W (uO a.length a.length d a.length) <|
 .W (0<=(32:Int)) <|
 U a <|
 .W (a.length=(zL a d g).length) <|
 Y (zG (c,((jk .u64 (wi (e+(wi (i*(wi (nth f b (zb (.int .u32)))))))) 32),(j,((qi (b+1)),(zL a d g)))))))
  (U a <|
 U a <|
 Y (zF (c,(e,(h,a)))))
def Xh b1 q1 x x1 s:=zJ (iH b1 q1 x x1) s
def iI(j:z7)(g:z7)(i:Int):((Nat×Nat)×Int×Int×z7)->T (((Nat×Nat)×Int×Int×z7)⊕(((Nat×Nat)×Int×z7)))
 | (c,f,b,a)=>let d:=c.1+(zE b);
 V (zA (b<i))
  (oI b g <|
 .W (xe b c.2) <|
 .W (uO a.length a.length d a.length) <|
 X (eI (wj a d (zb (.int .u32))) (nth g b (zb (.int .u32))) f) λ(e,h) =>
 .W (xe b c.2) <|
 .W (uO a.length a.length d a.length) <|
 U a <|
 .W (a.length=(zL a d e).length) <|
 Y (zG (c,(h,((qi (b+1)),(zL a d e))))))
  (U a <|
 U a <|
 Y (zF (c,(f,a))))
def Xi b2 x3 x4 s:=zJ (iI b2 x3 x4) s
def sQ(o:(Nat×Nat))(b:z7)(p:Int)(h:z7):T (Bool×z7) :=
 let d:=zE (b.length:Int);  U h <|
 U h <|
 X (Xh b p b (b.length:Int) (o,(0,(0,(0,h))))) λ(e,j,k,a) =>
 .W (xe (b.length:Int) e.2) <|
 .W (uO a.length a.length (e.1+d) a.length) <|
 X (kX (wj a (e.1+d) (zb (.int .u32))) (gM j) k) λ(l,m)=>let g:=zL a (e.1+d) l;
 .W (xe (b.length:Int) e.2) <|
 .W (uO a.length a.length (e.1+d) a.length) <|
 V (m==0)
  (.W (a.length=g.length) <|
 Y (false,g))
  (U a <|
 .W (a.length=g.length) <|
 X (Xi b b (b.length:Int) (e,(0,(0,g)))) λ(f,n,c)=>let i:=zL c (f.1+d) (gM ((wj c (f.1+d) (zb (.int .u32)))+n));
 .W (xe (b.length:Int) f.2) <|
 .W (uO c.length c.length (f.1+d) c.length) <|
 .W (xe (b.length:Int) f.2) <|
 .W (uO c.length c.length (f.1+d) c.length) <|
 .W (c.length=i.length) <|
 Y (true,i))
def ni(e:Int)(h:Int)(f:z7)(i:Int):(Int×z7)->T ((Int×z7)⊕z7)
 | (b,a)=>let c:=qi (b+1); let d:=zL a (0+(zE b)) (H7 .u32 (wj a (0+(zE b)) (zb (.int .u32))) (gM (Za .u64 (wi (nth f b (zb (.int .u32)))) e))); let g:=zL d (0+(zE c)) (gM (jk .u64 (Za .u64 (wi (nth f b (zb (.int .u32)))) e) 32));
 V (zA (b<i))
  (oI b f <|
 .W (0<=e) <|
 oI b a <|
 .W (uO a.length a.length (0+(zE b)) a.length) <|
 oI b a <|
 .W (uO a.length a.length (0+(zE b)) a.length) <|
 V (zA (c<h))
  (.W (0<=(32:Int)) <|
 oI c a <|
 .W (uO a.length a.length (0+(zE c)) d.length) <|
 oM a.length g.length <|
 Y (zG (c,g)))
  (oM a.length d.length <|
 Y (zG (c,d))))
  (oC a <|
 U a <|
 Y (zF a))
def JL by_1 n1 x x1 s:=zJ (ni by_1 n1 x x1) s
def Uf(c:z7)(d:Int)(a:Int):T z7 :=
 .W (eC a a 4) <|
 oM (zE a) (zM (zE a) (0:Int)).length <|
 X (JL d a c (c.length:Int) (0,(zM (zE a) 0))) λb =>
 U b <|
 Y (zH 0 (zI (0+b.length) b))
def iE(e:Int)(f:z7)(h:Int):(Int×z7)->T ((Int×z7)⊕z7)
 | (b,a)=>let d:=0+(zE (qi (b-1))); let c:=zL a (0+(zE b)) (H7 .u32 (wj a (0+(zE b)) (zb (.int .u32))) (gM (jk .u64 (jk .u64 (Za .u64 (wi (nth f b (zb (.int .u32)))) 32) e) 32))); let g:=zL c d (H7 .u32 (wj c d (zb (.int .u32))) (gM (jk .u64 (Za .u64 (wi (nth f b (zb (.int .u32)))) 32) e)));
 V (zA (b<h))
  (oI b f <|
 .W (0<=(32:Int)) <|
 .W (0<=e) <|
 oI b a <|
 .W (uO a.length a.length (0+(zE b)) a.length) <|
 .W (0<=(32:Int)) <|
 oI b a <|
 .W (uO a.length a.length (0+(zE b)) a.length) <|
 V (zA (0<b))
  (oI (qi (b-1)) a <|
 .W (uO a.length a.length d c.length) <|
 oI (qi (b-1)) a <|
 .W (uO a.length a.length d c.length) <|
 oM a.length g.length <|
 Y (zG ((qi (b+1)),g)))
  (oM a.length c.length <|
 Y (zG ((qi (b+1)),c))))
  (oC a <|
 U a <|
 Y (zF a))
def Uc by_ x x1 s:=zJ (iE by_ x x1) s
def me(m:z7)(n:Int):T z7 :=
 let g:=ZP (lh n (-4096)) 4096; let d:=qi (zQ g (32:Int)); let c:=qi (zQ (qi (0-g)) (32:Int));  X (vY m) λf=>let a:=(f.length:Int); let i:=qi ((qi (d+a))+1); let b:=zE i;
 V (zA (g<0))
  (.W (32≠(0:Int)) <|
 V (zA (a<=c))
  (Y [])
  (.W (32≠(0:Int)) <|
 .W (eC (qi (a-c)) (qi (a-c)) 4) <|
 .W (jA c a f.length) <|
 oM (zE (qi (a-c))) (zM (zE (qi (a-c))) (0:Int)).length <|
 X (Uc (wi (zP (qi (0-g)) (32:Int))) (jJ (e:=(.int .u32)) c a f) (zN (jJ (e:=(.int .u32)) c a f).length:Int) (0,(zM (zE (qi (a-c))) 0))) λh =>
 U h <|
 X (vY (zH 0 (zI (0+h.length) h))) λj =>
 Y j))
  (.W (32≠(0:Int)) <|
 .W (eC i i 4) <|
 .W (jA d (zN b:Int) b) <|
 .W (32≠(0:Int)) <|
 X (Uf f (wi (zP g (32:Int))) (qi (a+1))) λk =>
 .W (QN b b (0+(zE d)) ((zE (zN b:Int))-(zE d)) (zM b (0:Int)).length) <|
 .W (b=b) <|
 X (vY (zH 0 (zI (0+b) (yr (0+(zE d)) ((zE (zN b:Int))-(zE d)) (zM b 0) k)))) λl =>
 Y l)
def nj(m:Int)(g:z7)(c:Int):(Int×z7×z7)->T ((Int×z7×z7)⊕((z7×z7)))
 | (b,a,d) =>
 V (zA (0<=b))
  (oI (qi (b+c)) a <|
 .W (uO a.length a.length (0+(zE (qi (b+c)))) a.length) <|
 oI (qi ((qi (b+c))-1)) a <|
 .W (uO a.length a.length (0+(zE (qi ((qi (b+c))-1)))) a.length) <|
 oI (qi ((qi (b+c))-2)) a <|
 .W (uO a.length a.length (0+(zE (qi ((qi (b+c))-2)))) a.length) <|
 oI (qi (c-1)) g <|
 oI (qi (c-2)) g <|
 X (pq (wj a (0+(zE (qi (b+c)))) (zb (.int .u32))) (wj a (0+(zE (qi ((qi (b+c))-1)))) (zb (.int .u32))) (wj a (0+(zE (qi ((qi (b+c))-2)))) (zb (.int .u32))) (nth g (qi (c-1)) (zb (.int .u32))) (nth g (qi (c-2)) (zb (.int .u32)))) λh =>
 X (.W (jA b (qi ((qi (b+c))+1)) a.length) <|
 U a <|
 U a <|
 X (sQ ((0+(zE b)),((zE (qi ((qi (b+c))+1)))-(zE b))) g h a) λ(k,f) =>
 V k
  (oC d <|
 .W (zp a.length 0 a.length f.length) <|
 U f <|
 U d <|
 Y ((wi (h-1)),(f,d)))
  (oC d <|
 .W (zp a.length 0 a.length f.length) <|
 U f <|
 U d <|
 Y (h,(f,d))):T ((Int×z7×z7))) λ(l,i,e)=>let j:=zL e (0+(zE b)) (gM l);
 oI b e <|
 .W (uO e.length e.length (0+(zE b)) e.length) <|
 .W (zp e.length 0 e.length j.length) <|
 oC i <|
 U i <|
 .W (e.length=j.length) <|
 Y (zG ((qi (b-1)),(i,j))))
  (oC d <|
 oC a <|
 U a <|
 U d <|
 Y (zF (a,d)))
def JM by_ d n s:=zJ (nj by_ d n) s
def Ug(i:z7)(c:z7):T (z7×z7) :=
 oI (qi ((c.length:Int)-1)) c <|
 X (kl (nth c (qi ((c.length:Int)-1)) (zb (.int .u32)))) λf =>
 X (rM i (wi f) (qi ((i.length:Int)+1))) λg =>
 X (rM c (wi f) (c.length:Int)) λa=>let j:=qi ((qi ((i.length:Int)-(a.length:Int)))+1); let b:=zE j;
 .W (eC j j 4) <|
 U a <|
 .W (zp b 0 b (zM b (0:Int)).length) <|
 oC g <|
 U g <|
 .W (b=(zM b (0:Int)).length) <|
 X (JM (wi f) (zH 0 (zI (0+a.length) a)) (a.length:Int) ((qi ((zN b:Int)-1)),(g,(zM b 0)))) λ(d,h) =>
 U h <|
 U d <|
 X (vY (zH 0 (zI (0+h.length) h))) λk =>
 .W (jA 0 (a.length:Int) (zH 0 (zI (0+d.length) d)).length) <|
 X (me (jJ (e:=(.int .u32)) 0 (a.length:Int) (zH 0 (zI (0+d.length) d))) (qi (0-(qi (wi f))))) λl =>
 Y (k,l)
def dv(j:z7)(k:z7):T (z7×z7×Bool) :=
 X (vY j) λb =>
 X (vY k) λa =>
 V ((a.length:Int)==0)
  (Y ([],([],false)))
  (X (sP b a) λc =>
 V (zA (c<0))
  (X (iF b) λd =>
 Y ([],(d,true)))
  (V ((a.length:Int)==1)
  (oI 0 a <|
 X (pw b (nth a 0 (zb (.int .u32)))) λ(e,f) =>
 X (iA (wi f)) λg =>
 Y (e,(g,true)))
  (X (Ug b a) λ(h,i) =>
 Y (h,(i,true)))))
def rL  : (z7×z7)->T ((z7×z7)⊕z7)
 | (b,a) =>
 V (zA (0<(a.length:Int)))
  (X (dv b a) λ(d,c,e) =>
 Y (zG (a,c)))
  (Y (zF b))
def YS(s:(z7×z7)):T z7:=zJ (rL ) s
def XV(d:z7)(e:z7):T z7 :=
 X (iF d) λa =>
 X (iF e) λb =>
 X (YS  (a,b)) λc =>
 Y c
def tz(a:Rat):T Bool :=
 X (X (ZS a.2.1) λb =>
 V (!b)
  (Y true)
  (X (ZS a.2.2.1) λc =>
 V (!c)
  (Y true)
  (V ((a.2.2.1.length:Int)==0)
  (Y true)
  (V a.1
  (Y ((a.2.1.length:Int)==0))
  (Y false)))):T Bool) λd =>
 V d
  (Y false)
  (X (XV a.2.1 a.2.2.1) λe =>
 X (iA 1) λf =>
 X (sP e f) λg =>
 Y (g==0))
def rR(g:Bool)(h:z7)(i:z7):T Rat :=
 X (iF h) λa =>
 X (iF i) λb =>
 V (((a.length:Int)==0)||((b.length:Int)==0))
  (X (iA 1) λd =>
 Y (false,(([]:List Int),(d,()))))
  (X (XV a b) λc =>
 X (dv a c) λ(e,j,k) =>
 X (dv b c) λ(f,l,m) =>
 Y (g,(e,(f,()))))
def vF(a:Rat):T Rat :=
 X (rR a.1 a.2.1 a.2.2.1) λb =>
 Y b
def cz(b:Rat):T Bool :=
 X (vF b) λa =>
 Y ((zA (16<(a.2.1.length:Int)))||(zA (16<(a.2.2.1.length:Int))))
def yO(a:Param):T Bool :=
 X (uQ a.1) λb =>
 V (!b)
  (Y true)
  (X (tz a.2.1) λc =>
 V (!c)
  (Y true)
  (X (cz a.2.1) λd =>
 Y d))
def uZ(b:qg)(d:Param->T Bool)(e:Int):Int->T (Int⊕(Unit⊕Int))
 | a =>
 V (zA (a<e))
  (oI a b <|
 X (d (nth b a (zb qf))) λc =>
 V c
  (Y (zF (zF a)))
  (Y (zG (qi (a+1)))))
  (Y (zF (zG ())))
def oa s1 f x s:=zJ (uZ s1 f x) s
def vJ(a:qg)(c:Param->T Bool):T Int :=
 X (oa a c (a.length:Int) 0) <|
 zK (λ_ =>
 Y (-1))
  (λb =>
 Y b)
def vQ(b:qg)(c:Param->T Bool):T Bool :=
 X (vJ b c) λa =>
 Y (zA (0<=a))
def iY(a:zx):T Bool :=
 V (wL a [])
  (Y true)
  (X (uQ a) λb =>
 Y b)
def yP(a:eN):T Bool :=
 X (uQ a.1) λb =>
 V (!b)
  (Y true)
  (X (iY a.2.1) λc =>
 Y (!c))
def yk(b:xc)(d:eN->T Bool)(e:Int):Int->T (Int⊕(Unit⊕Int))
 | a =>
 V (zA (a<e))
  (oI a b <|
 X (d (nth b a (zb xp))) λc =>
 V c
  (Y (zF (zF a)))
  (Y (zG (qi (a+1)))))
  (Y (zF (zG ())))
def p8 s1 f x s:=zJ (yk s1 f x) s
def uV(a:xc)(c:eN->T Bool):T Int :=
 X (p8 a c (a.length:Int) 0) <|
 zK (λ_ =>
 Y (-1))
  (λb =>
 Y b)
def yh(b:xc)(c:eN->T Bool):T Bool :=
 X (uV b c) λa =>
 Y (zA (0<=a))
def tc(b:Form):T Bool :=
 X (vG b.1 (λa=>yN a)) λc =>
 V (!c)
  (X (vQ b.2.1 (λa=>yO a)) λd =>
 V (!d)
  (X (yh b.2.2.1 (λa=>yP a)) λe =>
 Y (!e))
  (Y false))
  (Y false)
def iX(a:Int)(b:Int)(c:Int):T Bool :=
 Y ((zA ((lh b 0)<=a))&&(zA (a<c)))
def o0(i:Form)(c:qo)(j:Int):(Int×Int)->T ((Int×Int)⊕(Unit⊕Bool))
 | (h,b)=>let a:=nth c b (zb qv);
 V (zA (b<j))
  (oI b c <|
 X (X (uQ a.1) λd =>
 V (!d)
  (Y (true,a))
  (X (iX a.2.1 h (i.2.2.1.length:Int)) λe =>
 V (!e)
  (Y (true,a))
  (V (zA (a.2.2.2.1<(0:Int)))
  (Y (true,a))
  (Y ((zA ((9:Int)<a.2.2.2.1)),a)))):T ((Bool×Field))) λ(f,g) =>
 V f
  (Y (zF (zF false)))
  (Y (zG (g.2.1,(qi (b+1))))))
  (Y (zF (zG ())))
def nZ f1 x x1 s:=zJ (o0 f1 x x1) s
def oU(a:Form):T Bool :=
 X (nZ a a.2.2.2.1 (a.2.2.2.1.length:Int) (0,0)) <|
 zK (λ_ =>
 Y true)
  (λb =>
 Y b)
def bB  : T zo :=
 Y ([[61],[60],[60,61]]:List zx)
def XO(a:Int):T Int :=
 V (bif (a==1)then(a==1)else(a==2))
  (Y 0)
  (V (a==7)
  (Y 1)
  (V (a==3)
  (Y 2)
  (V (a==4)
  (Y 2)
  (V (a==5)
  (Y 2)
  (V (a==6)
  (Y 2)
  (Y (-1)))))))
def V7(j:z7)(d:Int)(h:Int)(k:z7)(l:Int)(m:Int)(g:z7)(i:Int):(Int×Int×z7)->T ((Int×Int×z7)⊕((Int×z7)))
 | (f,b,a)=>let c:=0+(zE (qi (d+b))); let e:=wi (f+(wi ((wi ((wi h)*(wi (nth g b (zb (.int .u32))))))+(wi (wj a c (zb (.int .u32)))))));
 V (zA (b<i))
  (oI b g <|
 oI (qi (d+b)) a <|
 .W (uO a.length a.length c a.length) <|
 oI (qi (d+b)) a <|
 .W (uO a.length a.length c a.length) <|
 .W (0<=(32:Int)) <|
 oM a.length (zL a c (gM e)).length <|
 Y (zG ((jk .u64 e 32),((qi (b+1)),(zL a c (gM e))))))
  (oC a <|
 U a <|
 Y (zF (f,a)))
def V5 b3 i v x3 x4 x5 x6 x7 s:=zJ (V7 b3 i v x3 x4 x5 x6 x7) s
def V6(d:z7)(e:z7)(h:Int):(Int×z7)->T ((Int×z7)⊕z7)
 | (a,c)=>let f:=0+(zE (qi (a+(d.length:Int))));
 V (zA (a<h))
  (oI a e <|
 oC c <|
 U c <|
 X (V5 d a (nth e a (zb (.int .u32))) e h a d (d.length:Int) (0,(0,c))) λ(g,b) =>
 oI (qi (a+(d.length:Int))) b <|
 .W (uO b.length b.length f b.length) <|
 oM b.length (zL b f (gM g)).length <|
 Y (zG ((qi (a+1)),(zL b f (gM g)))))
  (oC c <|
 U c <|
 Y (zF c))
def V4 b2 x x1 s:=zJ (V6 b2 x x1) s
def iw(f:z7)(g:z7):T z7 :=
 X (vY f) λb =>
 X (vY g) λd=>let a:=qi ((b.length:Int)+(d.length:Int));
 .W (eC a a 4) <|
 oM (zE a) (zM (zE a) (0:Int)).length <|
 X (V4 d b (b.length:Int) (0,(zM (zE a) 0))) λc =>
 U c <|
 X (vY (zH 0 (zI (0+c.length) c))) λe =>
 Y e
def WS(e:Int):(z7×Int)->T ((z7×Int)⊕z7)
 | (a,b) =>
 V (zA (b<e))
  (X (iA 10) λc =>
 X (iw a c) λd =>
 Y (zG (d,(qi (b+1)))))
  (Y (zF a))
def WR x s:=zJ (WS x) s
def VJ(c:Int):T z7 :=
 X (iA 1) λa =>
 X (WR c (a,0)) λb =>
 Y b
def QO(a:Rat):T zx :=
 V a.1
  (Y [45])
  (Y [])
def jb  : ((Nat×Nat)×Int×Int×z7)->T (((Nat×Nat)×Int×Int×z7)⊕z7)
 | (b,c,d,a)=>let e:=zL a (b.1+(zE c)) (wj a (b.1+(zE d)) (zb (.int .u8))); let f:=zL e (b.1+(zE d)) (wj a (b.1+(zE c)) (zb (.int .u8)));
 V (zA (c<d))
  (.W (xe d b.2) <|
 .W (uO a.length a.length (b.1+(zE d)) a.length) <|
 .W (xe c b.2) <|
 .W (uO a.length a.length (b.1+(zE c)) a.length) <|
 .W (xe c b.2) <|
 .W (uO a.length a.length (b.1+(zE c)) a.length) <|
 .W (xe d b.2) <|
 .W (uO a.length a.length (b.1+(zE d)) e.length) <|
 U a <|
 .W (a.length=f.length) <|
 Y (zG (b,((qi (c+1)),((qi (d-1)),f)))))
  (U a <|
 Y (zF a))
def cT(s:((Nat×Nat)×Int×Int×z7)):T z7:=zJ (jb ) s
def ku(c:(Nat×Nat))(a:z7):T z7 :=
 U a <|
 U a <|
 X (cT  (c,(0,((qi ((zN c.2:Int)-1)),a)))) λb =>
 U b <|
 Y b
def iC(e:z7):(Int×Int×z7)->T ((Int×Int×z7)⊕z7)
 | (b,c,a)=>let d:=a++([(uv [48,49,50,51,52,53,54,55,56,57] (zP b (10:Int)))]:List Int);
 V (zA (c<9))
  (.W (10≠(0:Int)) <|
 oI (zP b (10:Int)) ([48,49,50,51,52,53,54,55,56,57]:zx) <|
 oA a 1 <|
 .W (10≠(0:Int)) <|
 oM (a.length+1) d.length <|
 Y (zG ((gM (zQ b (10:Int))),((qi (c+1)),d))))
  (oC a <|
 U a <|
 Y (zF a))
def ZW q1 s:=zJ (iC q1) s
def iB  : (z7×z7)->T ((z7×z7)⊕z7)
 | (d,a) =>
 V (zA (0<(d.length:Int)))
  (X (pw d 1000000000) λ(c,e) =>
 oC a <|
 U a <|
 X (ZW c (e,(0,a))) λb =>
 oC b <|
 U b <|
 Y (zG (c,b)))
  (oC a <|
 U a <|
 Y (zF a))
def ZV(s:(z7×z7)):T z7:=zJ (iB ) s
def iD  : ((Nat×Nat)×z7)->T (((Nat×Nat)×z7)⊕(((Nat×Nat)×z7)))
 | (b,a)=>let c:=qi ((zN b.2:Int)-1);
 .W (((zA (1<(zN b.2:Int)))=true)->((xe c b.2)/\(uO a.length a.length (b.1+(zE c)) a.length))) <|
 V ((zA (1<(zN b.2:Int)))&&((wj a (b.1+(zE c)) (zb (.int .u8)))==48))
  (.W (jA 0 c b.2) <|
 U a <|
 U a <|
 Y (zG (((b.1+(zE 0)),((zE c)-(zE 0))),a)))
  (U a <|
 U a <|
 Y (zF (b,a)))
def Ub(s:((Nat×Nat)×z7)):T (((Nat×Nat)×z7)):=zJ (iD ) s
def mc(f:z7):T zx :=
 X (iF f) λd =>
 V ((d.length:Int)==0)
  (Y [48])
  (oZ <|
 X (ZV  (d,[])) λa =>
 U a <|
 U a <|
 X (Ub  ((0,a.length),a)) λ(b,c) =>
 U c <|
 U c <|
 X (ku b c) λe =>
 .W (c.length=e.length) <|
 Y (kA (zH b.1 (zI (b.1+b.2) e))))
def strings_Repeat(b:zx)(a:Int):T zx :=
 .W (0<=a/\a<=9223372036854775807/\b.length*(zE a)<=140737488355328) <|
 Y (CX b (zE a))
def sD(a:zx)(e:Int):T zx :=
 V (e==0)
  (Y a)
  (X (strings_Repeat [48] (lh 0 (qi ((qi (e+1))-(a.length:Int))))) λb=>let d:=((cat b a).length:Int); let c:=qi (d-e);
 oK b a <|
 .W (jA 0 c (cat b a).length) <|
 oK (fK 0 c (cat b a)) [46] <|
 .W (jA c d (cat b a).length) <|
 oK (cat (fK 0 c (cat b a)) [46]) (fK c d (cat b a)) <|
 Y (cat (cat (fK 0 c (cat b a)) [46]) (fK c d (cat b a))))
def Zq  : (Int×Rat)->T ((Int×Rat)⊕(Rat⊕(zx×Bool×Rat)))
 | (b,a) =>
 V (zA (b<61))
  (X (VJ b) λe =>
 X (iw a.2.1 e) λf =>
 X (dv f a.2.2.1) λ(g,h,j) =>
 V ((h.length:Int)==0)
  (X (QO a) λc =>
 X (mc g) λi =>
 X (sD i b) λd =>
 oK c d <|
 Y (zF (zF ((cat c d),(true,a)))))
  (Y (zG ((qi (b+1)),a))))
  (Y (zF (zG a)))
def Zp(s:(Int×Rat)):T (Rat⊕(zx×Bool×Rat)):=zJ (Zq ) s
def tM(d:Rat):T (zx×Bool) :=
 X (vF d) λa =>
 X (Zp  (0,a)) <|
 zK (λe =>
 Y ([],false))
  (λ(b,c,f) =>
 Y (b,c))
def ZF(a:Rat):T Bool :=
 X (X (tz a) λb =>
 V (!b)
  (Y true)
  (V a.1
  (Y true)
  (X (cz a) λc =>
 Y c)):T Bool) λd =>
 V d
  (Y false)
  (X (tM a) λ(f,e) =>
 Y e)
def mX(a:Rat):T Bool :=
 V (!a.1)
  (V ((a.2.1.length:Int)==0)
  (V ((a.2.2.1.length:Int)==0)
  (Y true)
  (X (tz a) λb =>
 Y b))
  (Y false))
  (Y false)
def mW(a:AM.Expr):T Bool :=
 X (XO (Expr.kind a)) λb =>
 V (((Expr.kids a).length:Int) != b)
  (Y false)
  (V ((Expr.kind a)==1)
  (X (ZF (Expr.num a)) λc =>
 V c
  (Y (wL (Expr.name a) []))
  (Y false))
  (V ((Expr.kind a)==2)
  (X (mX (Expr.num a)) λd =>
 V d
  (X (uQ (Expr.name a)) λe =>
 Y e)
  (Y false))
  (X (mX (Expr.num a)) λf =>
 V f
  (Y (wL (Expr.name a) []))
  (Y false))))
def mH(c:AM.Expr->Int->Int->T (Bool×Int))(d:AM.Expr)(e:Int)(f:Int):T (Bool×Int) :=
 X (c d (qi (e+1)) f) λ(a,b) =>
 Y ((!a),b)
def wT(g:AM.Expr->Int->Int->T (Bool×Int))(e:cV)(h:Int):((Int×Unit)×Int×Int)->T (((Int×Unit)×Int×Int)⊕(Int⊕(Int×Int)))
 | (c,a,d) =>
 V (zA (a<h))
  (oI a e <|
 X ((mH g) (nth e a (zb .expr)) c.1 d) λ(f,b) =>
 V f
  (Y (zF (zF (a,b))))
  (Y (zG ((c.1,()),((qi (a+1)),b)))))
  (Y (zF (zG d)))
def wv self_expr_may s1 x s:=zJ (wT self_expr_may s1 x) s
def vj(e:AM.Expr->Int->Int->T (Bool×Int))(a:cV)(f:(Int×Unit))(g:Int):T (Int×Int) :=
 X (wv e a (a.length:Int) ((f.1,()),(0,g))) <|
 zK (λb =>
 Y ((-1),b))
  (λ(c,d) =>
 Y (c,d))
def wS(c:AM.Expr->Int->Int->T (Bool×Int))(d:cV)(e:(Int×Unit))(f:Int):T (Bool×Int) :=
 X ((vj c) d (e.1,()) f) λ(a,b) =>
 Y ((zA (0<=a)),b)
def ik(i:AM.Expr->Int->Int->T (Bool×Int))(c:AM.Expr)(d:Int)(a:Int):T (Bool×Int) :=
 X (V (zA ((qi (a-1))<0))
  (Y (true,(qi (a-1))))
  (V (zA (32<=d))
  (Y (true,(qi (a-1))))
  (X (mW c) λe =>
 Y ((!e),(qi (a-1))))):T ((Bool×Int))) λ(f,b) =>
 V f
  (Y (false,b))
  (X ((wS i) (Expr.kids c) (d,()) b) λ(g,h) =>
 Y ((!g),h))
def ZG(e:AM.Expr)(deep:Int)(left:Int):T (Bool×Int):=T.fix (λF x=>ik (λy0 y1 y2=>F (y0,y1,y2)) x.1 x.2.1 x.2.2) (e,deep,left)
def ij(b:AM.Expr):T Bool :=
 X (ZG b 0 256) λ(a,c) =>
 Y a
def kZ  : T zo :=
 Y ([[114,101,113,117,105,114,101,100],[115,116,114,111,110,103],[109,101,100,105,117,109],[119,101,97,107]]:List zx)
def kY(a:dZ):T Bool :=
 X (uQ a.1) λb =>
 V (!b)
  (Y true)
  (V (zA (a.2.1<(0:Int)))
  (Y true)
  (X (kZ) λc =>
 V (zA ((c.length:Int)<=a.2.1))
  (Y true)
  (X (iY a.2.2.1) λd =>
 V (!d)
  (Y true)
  (X (ij a.2.2.2.1) λe =>
 V (!e)
  (Y true)
  (X (ij a.2.2.2.2.1) λf =>
 Y (!f))))))
def cS(b:xa)(d:dZ->T Bool)(e:Int):Int->T (Int⊕(Unit⊕Int))
 | a =>
 V (zA (a<e))
  (oI a b <|
 X (d (nth b a (zb xl))) λc =>
 V c
  (Y (zF (zF a)))
  (Y (zG (qi (a+1)))))
  (Y (zF (zG ())))
def p9 s1 f x s:=zJ (cS s1 f x) s
def gW(a:xa)(c:dZ->T Bool):T Int :=
 X (p9 a c (a.length:Int) 0) <|
 zK (λ_ =>
 Y (-1))
  (λb =>
 Y b)
def yi(b:xa)(c:dZ->T Bool):T Bool :=
 X (gW b c) λa =>
 Y (zA (0<=a))
def nY(l:Form)(c:qq)(m:Int):(Int×Int)->T ((Int×Int)⊕(Unit⊕Bool))
 | (k,b)=>let a:=nth c b (zb xj);
 V (zA (b<m))
  (oI b c <|
 X (X (uQ a.1) λd =>
 V (!d)
  (Y (true,a))
  (X (iX a.2.1 k (l.2.2.1.length:Int)) λe =>
 V (!e)
  (Y (true,a))
  (V (zA (a.2.2.1<(0:Int)))
  (Y (true,a))
  (X (bB) λf =>
 V (zA ((f.length:Int)<=a.2.2.1))
  (Y (true,a))
  (X (ij (Expr.mk (Expr.kind a.2.2.2.1) ((Expr.num a.2.2.2.1).1,((Expr.num a.2.2.2.1).2.1,((Expr.num a.2.2.2.1).2.2.1,()))) (Expr.name a.2.2.2.1) (Expr.kids a.2.2.2.1))) λg =>
 V (!g)
  (Y (true,a))
  (X (ij (Expr.mk (Expr.kind a.2.2.2.2.1) ((Expr.num a.2.2.2.2.1).1,((Expr.num a.2.2.2.2.1).2.1,((Expr.num a.2.2.2.2.1).2.2.1,()))) (Expr.name a.2.2.2.2.1) (Expr.kids a.2.2.2.2.1))) λh =>
 Y ((!h),a)))))):T ((Bool×Check))) λ(i,j) =>
 V i
  (Y (zF (zF false)))
  (Y (zG (j.2.1,(qi (b+1))))))
  (Y (zF (zG ())))
def nX f1 x x1 s:=zJ (nY f1 x x1) s
def oT(a:Form):T Bool :=
 X (nX a a.2.2.2.2.2.1 (a.2.2.2.2.2.1.length:Int) (0,0)) <|
 zK (λ_ =>
 X (yi a.2.2.2.2.1 (λb=>kY b)) λc =>
 Y (!c))
  (λd =>
 Y d)
def tp(v:Unit)(l:List Int):T (Unit×List Int):=Y (v,l)
def xo(b:zx)(e:Unit)(c:z7):T (Int×Unit×z7) :=
 oC c <|
 U c <|
 X (tp () c) λ(d,a) =>
 .W (vV a.length a.length 0 a.length a.length (bytesOf b).length 1) <|
 oM (a.length+(bytesOf b).length) (a++(bytesOf b)).length <|
 Y ((b.length:Int),((),(a++(bytesOf b))))
def gv(g:Rat):T zx :=
 X (vF g) λa =>
 X (QO a) λb =>
 X (mc a.2.1) λc =>
 oK b c <|
 X (iA 1) λe =>
 X (sP a.2.2.1 e) λf =>
 V (f != 0)
  (X (mc a.2.2.1) λd =>
 oK [47] d <|
 oK (cat b c) (cat [47] d) <|
 Y (cat (cat b c) (cat [47] d)))
  (Y (cat b c))
def sc(a:zx):T zx :=
 V (wL a [])
  (Y [])
  (oK [32,119,104,101,110,32] a <|
 Y (cat [32,119,104,101,110,32] a))
def strconv_Itoa(a:Int):T zx :=
 .W ((-9223372036854775808)<=a/\a<=9223372036854775807) <|
 Y (Yp a)
def ta(a:Field):T zx :=
 let c:=cat [102,105,101,108,100,32] a.1; let b:=bif a.2.2.1 then(cat c [32,109,117,115,116])else c;  oK [102,105,101,108,100,32] a.1 <|
 .W ((a.2.2.1=true)->((c.length+([32,109,117,115,116]:zx).length)<=4611686018427387904)) <|
 V (zA ((0:Int)<a.2.2.2.1))
  (X (strconv_Itoa a.2.2.2.1) λe=>let d:=cat [32,115,99,97,108,101,32] e;
 oK [32,115,99,97,108,101,32] e <|
 oK b d <|
 oK (cat b d) [10] <|
 Y (cat (cat b d) [10]))
  (oK b [10] <|
 Y (cat b [10]))
def lV(a:AM.Expr):T Int :=
 V (bif ((Expr.kind a)==3)then((Expr.kind a)==3)else((Expr.kind a)==4))
  (Y 1)
  (V (bif ((Expr.kind a)==5)then((Expr.kind a)==5)else((Expr.kind a)==6))
  (Y 2)
  (V ((Expr.kind a)==7)
  (Y 3)
  (Y 4)))
def dq(c:AM.Expr->T zx)(b:AM.Expr)(f:Int):T zx :=
 X (lV b) λd =>
 V (zA (d<f))
  (X (c b) λa =>
 oK [40] a <|
 oK (cat [40] a) [41] <|
 Y (cat (cat [40] a) [41]))
  (X (c b) λe =>
 Y e)
def gI(d:AM.Expr->T zx)(a:AM.Expr):T zx :=
 X (V ((Expr.kind a)==1)
  (X (tM (Expr.num a)) λ(g,k) =>
 Y (zF g))
  (V ((Expr.kind a)==2)
  (Y (zF (Expr.name a)))
  (V ((Expr.kind a)==7)
  (oI 0 (Expr.kids a) <|
 X ((dq d) (nth (Expr.kids a) 0 (zb .expr)) 3) λe =>
 oK [45] e <|
 Y (zF (cat [45] e)))
  (V ((Expr.kind a)==3)
  (Y (zG [32,43,32]))
  (V ((Expr.kind a)==4)
  (Y (zG [32,45,32]))
  (V ((Expr.kind a)==5)
  (Y (zG [32,42,32]))
  (V ((Expr.kind a)==6)
  (Y (zG [32,47,32]))
  (Y (zG [])))))))):T (zx⊕zx)) <|
 zK (λb =>
 oI 0 (Expr.kids a) <|
 X (lV a) λh =>
 X ((dq d) (nth (Expr.kids a) 0 (zb .expr)) h) λc =>
 oK c b <|
 oI 1 (Expr.kids a) <|
 X (lV a) λi =>
 X ((dq d) (nth (Expr.kids a) 1 (zb .expr)) (qi (i+1))) λf =>
 oK (cat c b) f <|
 Y (cat (cat c b) f))
  (λj =>
 Y j)
def ZH(e:AM.Expr):T zx:=T.fix (λF x=>gI (λy0=>F (y0)) x) e
def rh(a:AM.Expr):T zx :=
 X (ij a) λb =>
 V (!b)
  (Y [])
  (X (ZH a) λc =>
 Y c)
def nA(e:AM.Expr)(a:zx)(f:AM.Expr):T zx :=
 X (rh e) λc=>let b:=cat (cat [32,58,32] c) [32];
 oK [32,58,32] c <|
 oK (cat [32,58,32] c) [32] <|
 oK b a <|
 oK (cat b a) [32] <|
 X (rh f) λd =>
 oK (cat (cat b a) [32]) d <|
 oK (cat (cat (cat b a) [32]) d) [10] <|
 Y (cat (cat (cat (cat b a) [32]) d) [10])
def o7(f:Int)(k:Form)(d:qo)(g:Int):(Int×Unit×z7)->T ((Int×Unit×z7)⊕((Unit×z7)))
 | (b,j,a) =>
 V (zA (b<g))
  (oI b d <|
 V ((nth d b (zb qv)).2.1==f)
  (X (ta (nth d b (zb qv))) λe =>
 oC a <|
 U a <|
 X (xo e () a) λ(h,i,c) =>
 oC c <|
 U c <|
 Y (zG ((qi (b+1)),((),c))))
  (oC a <|
 U a <|
 Y (zG ((qi (b+1)),((),a)))))
  (oC a <|
 U a <|
 Y (zF ((),a)))
def o5 i1 f1 x x1 s:=zJ (o7 i1 f1 x x1) s
def o8(h:Int)(g:qq)(i:Int):(Int×Unit×z7)->T ((Int×Unit×z7)⊕((Unit×z7)))
 | (c,l,b)=>let a:=nth g c (zb xj);
 V (zA (c<i))
  (oI c g <|
 V (a.2.1==h)
  (oK [99,104,101,99,107,32] a.1 <|
 X (bB) λe =>
 .W (xe a.2.2.1 e.length) <|
 X (nA (Expr.mk (Expr.kind a.2.2.2.1) ((Expr.num a.2.2.2.1).1,((Expr.num a.2.2.2.1).2.1,((Expr.num a.2.2.2.1).2.2.1,()))) (Expr.name a.2.2.2.1) (Expr.kids a.2.2.2.1)) (nth e a.2.2.1 (zb .str)) (Expr.mk (Expr.kind a.2.2.2.2.1) ((Expr.num a.2.2.2.2.1).1,((Expr.num a.2.2.2.2.1).2.1,((Expr.num a.2.2.2.2.1).2.2.1,()))) (Expr.name a.2.2.2.2.1) (Expr.kids a.2.2.2.2.1))) λf =>
 oK (cat [99,104,101,99,107,32] a.1) f <|
 oC b <|
 U b <|
 X (xo (cat (cat [99,104,101,99,107,32] a.1) f) () b) λ(j,k,d) =>
 oC d <|
 U d <|
 Y (zG ((qi (c+1)),((),d))))
  (oC b <|
 U b <|
 Y (zG ((qi (c+1)),((),b)))))
  (oC b <|
 U b <|
 Y (zF ((),b)))
def o6 i2 x3 x4 s:=zJ (o8 i2 x3 x4) s
def oX(a:Form)(b:Int)(m:Unit)(g:z7):T (Unit×z7) :=
 let h:=cat [112,97,103,101,32] (nth a.2.2.1 b (zb xp)).1;  oI b a.2.2.1 <|
 oK [112,97,103,101,32] (nth a.2.2.1 b (zb xp)).1 <|
 oI b a.2.2.1 <|
 X (sc (nth a.2.2.1 b (zb xp)).2.1) λc =>
 oK h c <|
 oK (cat h c) [10] <|
 oC g <|
 U g <|
 X (xo (cat (cat h c) [10]) () g) λ(i,j,d) =>
 oC d <|
 U d <|
 X (o5 b a a.2.2.2.1 (a.2.2.2.1.length:Int) (0,((),d))) λ(k,e) =>
 oC e <|
 U e <|
 X (o6 b a.2.2.2.2.2.1 (a.2.2.2.2.2.1.length:Int) (0,((),e))) λ(l,f) =>
 oC f <|
 U f <|
 Y ((),f)
def pF(v:Unit)(l:List Int):T (zx×Unit):=z3a l
def s7(k:Form)(e:qc)(g:Int):(Int×Unit×z7)->T ((Int×Unit×z7)⊕((Unit×z7)))
 | (b,j,a)=>let c:=nth e b (zb qs); let f:=bif c.2.1 then[32,111,110,10]else[32,111,102,102,10];
 V (zA (b<g))
  (oI b e <|
 oK [115,119,105,116,99,104,32] c.1 <|
 oK (cat [115,119,105,116,99,104,32] c.1) f <|
 oC a <|
 U a <|
 X (xo (cat (cat [115,119,105,116,99,104,32] c.1) f) () a) λ(h,i,d) =>
 oC d <|
 U d <|
 Y (zG ((qi (b+1)),((),d))))
  (oC a <|
 U a <|
 Y (zF ((),a)))
def rX f1 x x1 s:=zJ (s7 f1 x x1) s
def s9(l:Form)(g:qg)(h:Int):(Int×Unit×z7)->T ((Int×Unit×z7)⊕((Unit×z7)))
 | (c,k,a)=>let b:=nth g c (zb qf); let d:=cat [112,97,114,97,109,32] b.1;
 V (zA (c<h))
  (oI c g <|
 oK [112,97,114,97,109,32] b.1 <|
 oK d [32] <|
 X (gv (b.2.1.1,(b.2.1.2.1,(b.2.1.2.2.1,())))) λe =>
 oK (cat d [32]) e <|
 oK (cat (cat d [32]) e) [10] <|
 oC a <|
 U a <|
 X (xo (cat (cat (cat d [32]) e) [10]) () a) λ(i,j,f) =>
 oC f <|
 U f <|
 Y (zG ((qi (c+1)),((),f))))
  (oC a <|
 U a <|
 Y (zF ((),a)))
def rY f2 x3 x4 s:=zJ (s9 f2 x3 x4) s
def sa(d:Form)(e:Int):(Int×Unit×z7)->T ((Int×Unit×z7)⊕((Unit×z7)))
 | (c,g,a) =>
 V (zA (c<e))
  (oC a <|
 U a <|
 X (oX d c () a) λ(f,b) =>
 oC b <|
 U b <|
 Y (zG ((qi (c+1)),((),b))))
  (oC a <|
 U a <|
 Y (zF ((),a)))
def rZ f3 x6 s:=zJ (sa f3 x6) s
def sb(i:xa)(j:Int):(Int×Unit×z7)->T ((Int×Unit×z7)⊕((Unit×z7)))
 | (d,m,b)=>let a:=nth i d (zb xl);
 V (zA (d<j))
  (oI d i <|
 X (kZ) λe=>let c:=cat [114,117,108,101,32] (nth e a.2.1 (zb .str));
 .W (xe a.2.1 e.length) <|
 oK [114,117,108,101,32] (nth e a.2.1 (zb .str)) <|
 oK c [32] <|
 oK (cat c [32]) a.1 <|
 X (sc a.2.2.1) λf =>
 oK (cat (cat c [32]) a.1) f <|
 X (nA (Expr.mk (Expr.kind a.2.2.2.1) ((Expr.num a.2.2.2.1).1,((Expr.num a.2.2.2.1).2.1,((Expr.num a.2.2.2.1).2.2.1,()))) (Expr.name a.2.2.2.1) (Expr.kids a.2.2.2.1)) [61] (Expr.mk (Expr.kind a.2.2.2.2.1) ((Expr.num a.2.2.2.2.1).1,((Expr.num a.2.2.2.2.1).2.1,((Expr.num a.2.2.2.2.1).2.2.1,()))) (Expr.name a.2.2.2.2.1) (Expr.kids a.2.2.2.2.1))) λh =>
 oK (cat (cat (cat c [32]) a.1) f) h <|
 oC b <|
 U b <|
 X (xo (cat (cat (cat (cat c [32]) a.1) f) h) () b) λ(k,l,g) =>
 oC g <|
 U g <|
 Y (zG ((qi (d+1)),((),g))))
  (oC b <|
 U b <|
 Y (zF ((),b)))
def s6 x8 x9 s:=zJ (sb x8 x9) s
def ny(a:Form):T zx :=
 oZ <|
 X (rX a a.1 (a.1.length:Int) (0,((),[]))) λ(g,b) =>
 oC b <|
 U b <|
 X (rY a a.2.1 (a.2.1.length:Int) (0,((),b))) λ(h,c) =>
 oC c <|
 U c <|
 X (rZ a (a.2.2.1.length:Int) (0,((),c))) λ(i,d) =>
 oC d <|
 U d <|
 X (s6 a.2.2.2.2.1 (a.2.2.2.2.1.length:Int) (0,((),d))) λ(j,e) =>
 oC e <|
 U e <|
 X (pF () e) λ(f,k) =>
 Y f
def Z9(a:Form):T Bool :=
 X (tc a) λb =>
 V b
  (X (oU a) λc =>
 V c
  (X (oT a) λd =>
 V d
  (X (ny a) λe =>
 Y (zA ((e.length:Int)<=16384)))
  (Y false))
  (Y false))
  (Y false)
def pQ(e:Form)(c:qc)(d:Int):(Int×zo)->T ((Int×zo)⊕zo)
 | (b,a) =>
 V (zA (b<d))
  (oI b c <|
 oA a 16 <|
 oM (a.length+1) (a++([(nth c b (zb qs)).1]:List zx)).length <|
 Y (zG ((qi (b+1)),(a++([(nth c b (zb qs)).1]:List zx)))))
  (oC a <|
 U a <|
 Y (zF a))
def pK f1 x x1 s:=zJ (pQ f1 x x1) s
def pR(e:Form)(c:qg)(d:Int):(Int×zo)->T ((Int×zo)⊕zo)
 | (b,a) =>
 V (zA (b<d))
  (oI b c <|
 oA a 16 <|
 oM (a.length+1) (a++([(nth c b (zb qf)).1]:List zx)).length <|
 Y (zG ((qi (b+1)),(a++([(nth c b (zb qf)).1]:List zx)))))
  (oC a <|
 U a <|
 Y (zF a))
def pL f2 x3 x4 s:=zJ (pR f2 x3 x4) s
def pS(e:Form)(c:xc)(d:Int):(Int×zo)->T ((Int×zo)⊕zo)
 | (b,a) =>
 V (zA (b<d))
  (oI b c <|
 oA a 16 <|
 oM (a.length+1) (a++([(nth c b (zb xp)).1]:List zx)).length <|
 Y (zG ((qi (b+1)),(a++([(nth c b (zb xp)).1]:List zx)))))
  (oC a <|
 U a <|
 Y (zF a))
def pM f3 x6 x7 s:=zJ (pS f3 x6 x7) s
def pT(e:Form)(c:qo)(d:Int):(Int×zo)->T ((Int×zo)⊕zo)
 | (b,a) =>
 V (zA (b<d))
  (oI b c <|
 oA a 16 <|
 oM (a.length+1) (a++([(nth c b (zb qv)).1]:List zx)).length <|
 Y (zG ((qi (b+1)),(a++([(nth c b (zb qv)).1]:List zx)))))
  (oC a <|
 U a <|
 Y (zF a))
def pN f4 x9 x10 s:=zJ (pT f4 x9 x10) s
def pU(e:Form)(c:xa)(d:Int):(Int×zo)->T ((Int×zo)⊕zo)
 | (b,a) =>
 V (zA (b<d))
  (oI b c <|
 oA a 16 <|
 oM (a.length+1) (a++([(nth c b (zb xl)).1]:List zx)).length <|
 Y (zG ((qi (b+1)),(a++([(nth c b (zb xl)).1]:List zx)))))
  (oC a <|
 U a <|
 Y (zF a))
def pO f5 x12 x13 s:=zJ (pU f5 x12 x13) s
def pV(c:qq)(d:Int):(Int×zo)->T ((Int×zo)⊕zo)
 | (b,a) =>
 V (zA (b<d))
  (oI b c <|
 oA a 16 <|
 oM (a.length+1) (a++([(nth c b (zb xj)).1]:List zx)).length <|
 Y (zG ((qi (b+1)),(a++([(nth c b (zb xj)).1]:List zx)))))
  (oC a <|
 U a <|
 Y (zF a))
def pP x15 x16 s:=zJ (pV x15 x16) s
def sB(a:Form):T zo :=
 oZ <|
 X (pK a a.1 (a.1.length:Int) (0,[])) λb =>
 oC b <|
 U b <|
 X (pL a a.2.1 (a.2.1.length:Int) (0,b)) λc =>
 oC c <|
 U c <|
 X (pM a a.2.2.1 (a.2.2.1.length:Int) (0,c)) λd =>
 oC d <|
 U d <|
 X (pN a a.2.2.2.1 (a.2.2.2.1.length:Int) (0,d)) λe =>
 oC e <|
 U e <|
 X (pO a a.2.2.2.2.1 (a.2.2.2.2.1.length:Int) (0,e)) λf =>
 oC f <|
 U f <|
 X (pP a.2.2.2.2.2.1 (a.2.2.2.2.2.1.length:Int) (0,f)) λg =>
 U g <|
 Y (zH 0 (zI (0+g.length) g))
def twR:List zx->List zx->zx×Bool
 | _,[]=>([],false)
 | seen,x::r=>if x∈seen then(x,true)else twR (seen++[x]) r
def sC(l:List zx):T (zx×Bool):=.W (zO l*16<=140737488351232/\∀ s∈l,zO s<=9223372036854775807)<|Y (twR [] l)
def vT(a:Switch)(b:zx):T Bool :=
 Y (wL a.1 b)
def jS(a:zx)(d:Form):T Bool :=
 V (!(wL a []))
  (X (vG d.1 (λb=>vT b a)) λc =>
 Y (!c))
  (Y false)
def uN(b:zo)(d:zx->T Bool)(e:Int):Int->T (Int⊕(Unit⊕Int))
 | a =>
 V (zA (a<e))
  (oI a b <|
 X (d (nth b a (zb .str))) λc =>
 V c
  (Y (zF (zF a)))
  (Y (zG (qi (a+1)))))
  (Y (zF (zG ())))
def nC s1 f x s:=zJ (uN s1 f x) s
def wU(a:zo)(c:zx->T Bool):T Int :=
 X (nC a c (a.length:Int) 0) <|
 zK (λ_ =>
 Y (-1))
  (λb =>
 Y b)
def eR(e:Form)(c:xc)(d:Int):(Int×zo)->T ((Int×zo)⊕zo)
 | (b,a) =>
 V (zA (b<d))
  (oI b c <|
 oA a 16 <|
 oM (a.length+1) (a++([(nth c b (zb xp)).2.1]:List zx)).length <|
 Y (zG ((qi (b+1)),(a++([(nth c b (zb xp)).2.1]:List zx)))))
  (oC a <|
 U a <|
 Y (zF a))
def eP f1 x x1 s:=zJ (eR f1 x x1) s
def eS(e:Form)(c:xa)(d:Int):(Int×zo)->T ((Int×zo)⊕zo)
 | (b,a) =>
 V (zA (b<d))
  (oI b c <|
 oA a 16 <|
 oM (a.length+1) (a++([(nth c b (zb xl)).2.2.1]:List zx)).length <|
 Y (zG ((qi (b+1)),(a++([(nth c b (zb xl)).2.2.1]:List zx)))))
  (oC a <|
 U a <|
 Y (zF a))
def eQ f2 x3 x4 s:=zJ (eS f2 x3 x4) s
def eE(b:Form):T (zx×Bool) :=
 oZ <|
 X (eP b b.2.2.1 (b.2.2.1.length:Int) (0,[])) λd =>
 oC d <|
 U d <|
 X (eQ b b.2.2.2.2.1 (b.2.2.2.2.1.length:Int) (0,d)) λa =>
 U a <|
 X (wU (zH 0 (zI (0+a.length) a)) (λe=>jS e b)) λc =>
 V (zA (c<0))
  (Y ([],false))
  (oI c a <|
 .W (uO a.length a.length (0+(zE c)) a.length) <|
 Y ((wj a (0+(zE c)) (zb .str)),true))
def gq(b:zo)(c:zx)(d:Int):Int->T (Int⊕(Unit⊕Int))
 | a =>
 V (zA (a<d))
  (oI a b <|
 V (wL c (nth b a (zb .str)))
  (Y (zF (zF a)))
  (Y (zG (qi (a+1)))))
  (Y (zF (zG ())))
def gp s1 v1 x s:=zJ (gq s1 v1 x) s
def wD(a:zo)(c:zx):T Int :=
 X (gp a c (a.length:Int) 0) <|
 zK (λ_ =>
 Y (-1))
  (λb =>
 Y b)
def wK(b:zo)(c:zx):T Bool :=
 X (wD b c) λa =>
 Y (zA (0<=a))
def eF(e:AM.Expr->zo->T zo)(d:cV)(f:Int):(Int×zo)->T ((Int×zo)⊕zo)
 | (b,a) =>
 V (zA (b<f))
  (oI b d <|
 oC a <|
 U a <|
 X (e (nth d b (zb .expr)) a) λc =>
 oC c <|
 U c <|
 Y (zG ((qi (b+1)),c)))
  (oC a <|
 U a <|
 Y (zF a))
def cq self_expr_names x1 x2 s:=zJ (eF self_expr_names x1 x2) s
def dm(h:AM.Expr->zo->T zo)(c:AM.Expr)(a:zo):T zo :=
 X (X (V ((Expr.kind c)==2)
  (U a <|
 X (wK (zH 0 (zI (0+a.length) a)) (Expr.name c)) λf =>
 oC a <|
 U a <|
 Y ((!f),a))
  (oC a <|
 U a <|
 Y (false,a)):T ((Bool×zo))) λ(g,b) =>
 V g
  (oA b 16 <|
 oM (b.length+1) (b++([(Expr.name c)]:List zx)).length <|
 Y (b++([(Expr.name c)]:List zx)))
  (oC b <|
 U b <|
 Y b):T zo) λd =>
 oC d <|
 U d <|
 X (cq h (Expr.kids c) ((Expr.kids c).length:Int) (0,d)) λe =>
 oC e <|
 U e <|
 Y e
def oD(e:AM.Expr)(l:zo):T zo:=T.fix (λF x=>dm (λy0 y1=>F (y0,y1)) x.1 x.2) (e,l)
def lX(d:cV)(e:Int):(Int×zo)->T ((Int×zo)⊕zo)
 | (b,a) =>
 V (zA (b<e))
  (oI b d <|
 oC a <|
 U a <|
 X (oD (nth d b (zb .expr)) a) λc =>
 oC c <|
 U c <|
 Y (zG ((qi (b+1)),c)))
  (oC a <|
 U a <|
 Y (zF a))
def lW x1 x2 s:=zJ (lX x1 x2) s
def mI(c:AM.Expr)(a:zo):T zo :=
 X (X (V ((Expr.kind c)==2)
  (U a <|
 X (wK (zH 0 (zI (0+a.length) a)) (Expr.name c)) λf =>
 oC a <|
 U a <|
 Y ((!f),a))
  (oC a <|
 U a <|
 Y (false,a)):T ((Bool×zo))) λ(g,b) =>
 V g
  (oA b 16 <|
 oM (b.length+1) (b++([(Expr.name c)]:List zx)).length <|
 Y (b++([(Expr.name c)]:List zx)))
  (oC b <|
 U b <|
 Y b):T zo) λd =>
 oC d <|
 U d <|
 X (lW (Expr.kids c) ((Expr.kids c).length:Int) (0,d)) λe =>
 oC e <|
 U e <|
 Y e
def dh(b:AM.Expr):T zo :=
 oZ <|
 X (mI b []) λa =>
 U a <|
 Y (zH 0 (zI (0+a.length) a))
def j8(l:List zo):T zo:=.W (zO l*24<=140737488351232/\zO (List.flatten l)*16<=140737488355328/\l≠[])<|Y (List.flatten l)
def uD(a:Param)(b:zx):T Bool :=
 Y (wL a.1 b)
def yw(a:zx)(e:zo)(f:Form):T Bool :=
 X (wK e a) λb =>
 V (!b)
  (X (vQ f.2.1 (λc=>uD c a)) λd =>
 Y (!d))
  (Y false)
def lN(i:Form)(j:zo)(d:qq)(h:Int):(zo×Int)->T ((zo×Int)⊕zo)
 | (c,b)=>let a:=nth d b (zb xj);
 V (zA (b<h))
  (oI b d <|
 X (dh (Expr.mk (Expr.kind a.2.2.2.1) ((Expr.num a.2.2.2.1).1,((Expr.num a.2.2.2.1).2.1,((Expr.num a.2.2.2.1).2.2.1,()))) (Expr.name a.2.2.2.1) (Expr.kids a.2.2.2.1))) λe =>
 X (dh (Expr.mk (Expr.kind a.2.2.2.2.1) ((Expr.num a.2.2.2.2.1).1,((Expr.num a.2.2.2.2.1).2.1,((Expr.num a.2.2.2.2.1).2.2.1,()))) (Expr.name a.2.2.2.2.1) (Expr.kids a.2.2.2.2.1))) λf =>
 X (j8 ([c,e,f]:List zo)) λg =>
 Y (zG (g,(qi (b+1)))))
  (Y (zF c))
def lL f1 fields1 x x1 s:=zJ (lN f1 fields1 x x1) s
def lO(i:Form)(j:zo)(d:xa)(h:Int):(zo×Int)->T ((zo×Int)⊕zo)
 | (c,b)=>let a:=nth d b (zb xl);
 V (zA (b<h))
  (oI b d <|
 X (dh (Expr.mk (Expr.kind a.2.2.2.1) ((Expr.num a.2.2.2.1).1,((Expr.num a.2.2.2.1).2.1,((Expr.num a.2.2.2.1).2.2.1,()))) (Expr.name a.2.2.2.1) (Expr.kids a.2.2.2.1))) λe =>
 X (dh (Expr.mk (Expr.kind a.2.2.2.2.1) ((Expr.num a.2.2.2.2.1).1,((Expr.num a.2.2.2.2.1).2.1,((Expr.num a.2.2.2.2.1).2.2.1,()))) (Expr.name a.2.2.2.2.1) (Expr.kids a.2.2.2.2.1))) λf =>
 X (j8 ([c,e,f]:List zo)) λg =>
 Y (zG (g,(qi (b+1)))))
  (Y (zF c))
def lM f2 fields2 x3 x4 s:=zJ (lO f2 fields2 x3 x4) s
def mv(a:Form)(d:zo):T (zx×Bool) :=
 X (lL a d a.2.2.2.2.2.1 (a.2.2.2.2.2.1.length:Int) ([],0)) λe =>
 X (lM a d a.2.2.2.2.1 (a.2.2.2.2.1.length:Int) (e,0)) λb =>
 X (wU b (λf=>yw f d a)) λc =>
 V (zA (c<0))
  (Y ([],false))
  (oI c b <|
 Y ((nth b c (zb .str)),true))
def bP(b:zx)(c:zo):T Bool :=
 X (wK c b) λa =>
 Y a
def kE(b:zo)(c:zx->T Bool):T Bool :=
 X (wU b c) λa =>
 Y (zA (0<=a))
def tL(d:AM.Expr)(e:zo):T Bool :=
 X (dh d) λa =>
 X (kE a (λb=>bP b e)) λc =>
 Y c
def uY(b:AM.Expr->zo->T Bool)(c:AM.Expr)(d:zo):T Bool :=
 X (b c d) λa =>
 Y (!a)
def yj(f:AM.Expr->zo->T Bool)(b:cV)(d:AM.Expr->T Bool)(e:Int):Int->T (Int⊕(Unit⊕Int))
 | a =>
 V (zA (a<e))
  (oI a b <|
 X (d (nth b a (zb .expr))) λc =>
 V c
  (Y (zF (zF a)))
  (Y (zG (qi (a+1)))))
  (Y (zF (zG ())))
def cR self_check_Linear s1 f x s:=zJ (yj self_check_Linear s1 f x) s
def gV(c:AM.Expr->zo->T Bool)(a:cV)(d:AM.Expr->T Bool):T Int :=
 X (cR c a d (a.length:Int) 0) <|
 zK (λ_ =>
 Y (-1))
  (λb =>
 Y b)
def ja(b:AM.Expr->zo->T Bool)(c:cV)(d:AM.Expr->T Bool):T Bool :=
 X ((gV b) c d) λa =>
 Y (zA (0<=a))
def cX(e:AM.Expr->zo->T Bool)(a:AM.Expr)(d:zo):T Bool :=
 let c:=tL (nth (Expr.kids a) 1 (zb .expr)) d; let b:=((nth (Expr.kids a) 0 (zb .expr)),(nth (Expr.kids a) 1 (zb .expr)));  X (V (((Expr.kids a).length:Int)==2)
  (oI 0 (Expr.kids a) <|
 oI 1 (Expr.kids a) <|
 X (V ((Expr.kind a)==5)
  (X (tL (nth (Expr.kids a) 0 (zb .expr)) d) λf =>
 V f
  (X c λg =>
 V g
  (Y (true,b))
  (V ((Expr.kind a)==6)
  (X c λh =>
 Y (h,b))
  (Y (false,b))))
  (V ((Expr.kind a)==6)
  (X c λi =>
 Y (i,b))
  (Y (false,b))))
  (V ((Expr.kind a)==6)
  (X c λj =>
 Y (j,b))
  (Y (false,b))):T ((Bool×AM.Expr×AM.Expr))) λ(k,o,p) =>
 V k
  (Y (zF false))
  (Y (zG ())))
  (Y (zG ())):T (Unit⊕Bool)) <|
 zK (λ_ =>
 X ((ja e) (Expr.kids a) (λl=>(uY e) l d)) λm =>
 Y (!m))
  (λn =>
 Y n)
def fH(e:AM.Expr)(fields:zo):T Bool:=T.fix (λF x=>cX (λy0 y1=>F (y0,y1)) x.1 x.2) (e,fields)
def nK(e:Form)(c:qo)(d:Int):(Int×zo)->T ((Int×zo)⊕zo)
 | (b,a) =>
 V (zA (b<d))
  (oI b c <|
 oA a 16 <|
 oM (a.length+1) (a++([(nth c b (zb qv)).1]:List zx)).length <|
 Y (zG ((qi (b+1)),(a++([(nth c b (zb qv)).1]:List zx)))))
  (oC a <|
 U a <|
 Y (zF a))
def nI f1 x x1 s:=zJ (nK f1 x x1) s
def nL(e:xa)(j:Int):(Int×zo)->T ((Int×zo)⊕(zo⊕(Int×zx×zo)))
 | (d,a)=>let b:=nth e d (zb xl);
 V (zA (d<j))
  (oI d e <|
 X (U a <|
 X (fH (Expr.mk (Expr.kind b.2.2.2.1) ((Expr.num b.2.2.2.1).1,((Expr.num b.2.2.2.1).2.1,((Expr.num b.2.2.2.1).2.2.1,()))) (Expr.name b.2.2.2.1) (Expr.kids b.2.2.2.1)) (zH 0 (zI (0+a.length) a))) λf =>
 V (!f)
  (oC a <|
 U a <|
 Y (true,(a,b)))
  (U a <|
 X (fH (Expr.mk (Expr.kind b.2.2.2.2.1) ((Expr.num b.2.2.2.2.1).1,((Expr.num b.2.2.2.2.1).2.1,((Expr.num b.2.2.2.2.1).2.2.1,()))) (Expr.name b.2.2.2.2.1) (Expr.kids b.2.2.2.2.1)) (zH 0 (zI (0+a.length) a))) λg =>
 oC a <|
 U a <|
 Y ((!g),(a,b))):T ((Bool×zo×dZ))) λ(h,c,i) =>
 V h
  (U c <|
 Y (zF (zF (6,(i.1,c)))))
  (oC c <|
 U c <|
 Y (zG ((qi (d+1)),c))))
  (U a <|
 Y (zF (zG a)))
def nJ x3 x4 s:=zJ (nL x3 x4) s
def fI(a:Form):T (Int×zx) :=
 X (Z9 a) λc =>
 V (!c)
  (Y (2,[]))
  (V ((zA (64<(a.2.2.2.1.length:Int)))||(zA (64<(a.2.2.2.2.1.length:Int))))
  (Y (3,[]))
  (X (sB a) λd =>
 X (sC d) λ(e,f) =>
 V f
  (Y (5,e))
  (X (eE a) λ(g,h) =>
 V h
  (Y (5,g))
  (oZ <|
 X (nI a a.2.2.2.1 (a.2.2.2.1.length:Int) (0,[])) λb =>
 U b <|
 X (mv a (zH 0 (zI (0+b.length) b))) λ(i,j) =>
 V j
  (Y (5,i))
  (oC b <|
 U b <|
 X (nJ a.2.2.2.2.1 (a.2.2.2.2.1.length:Int) (0,b)) <|
 zK (λm =>
 Y (0,[]))
  (λ(k,l,n) =>
 Y (k,l)))))))
def sZ(a:Form):T zx :=
 X (Z9 a) λb =>
 V (!b)
  (Y [])
  (X (ny a) λc =>
 Y c)
def strings_Split(a:zx)(b:zx):T zo :=
 .W (a.length<4294967281/\b.length=1) <|
 Y (lj (List.headD b 0) a)
def strings_Cut(a:zx)(b:zx):T (zx×zx×Bool) :=
 .W (a.length<4294967281) <|
 Y (DY a b)
def sd(a:Int):T Bool :=
 Y (a==32)
def strings_FieldsFunc(a:zx)(b:Int->T Bool):T zo :=
 .W (a.length<=4294967296) <|
 Y (sn 32 [] a)
def td(c:zx):T zo :=
 X (strings_FieldsFunc c (λa=>sd a)) λb =>
 Y b
def strings_IndexAny(c:zx)(a:zx):T Int :=
 .W (c.length<4294967281/\2<=a.length/\a.length<4294967281/\(∀ b∈a,b.toNat<128)) <|
 Y (rm c a)
def jX(b:zx)(a:zx):T Bool :=
 .W (((zA ((a.length:Int)<=(b.length:Int)))=true)->(jA 0 (a.length:Int) b.length)) <|
 Y ((zA ((a.length:Int)<=(b.length:Int)))&&(wL (fK 0 (a.length:Int) b) a))
def strings_HasPrefix(b:zx)(c:zx):T Bool :=
 X (jX b c) λa =>
 Y a
def bu  : zc->T (zc⊕(zc))
 | a =>
 .W (((zA (a.2.1<(a.1.length:Int)))=true)->(xe a.2.1 a.1.length)) <|
 V ((zA (a.2.1<(a.1.length:Int)))&&((uv a.1 a.2.1)==32))
  (Y (zG (a.1,((qi (a.2.1+1)),(a.2.2.1,(a.2.2.2.1,()))))))
  (Y (zF a))
def br(s:zc):T (zc):=zJ (bu ) s
def dn(b:zc):T zc :=
 X (br  b) λa =>
 Y a
def strings_IndexByte(s:zx)(c:Int):T Int:=Y (VZ s (byteOf c))
def uE(e:zx)(f:zc):T (Int×zc) :=
 X (dn f) λb =>
 X (V (zA (b.2.1<(b.1.length:Int)))
  (oI b.2.1 b.1 <|
 X (strings_IndexByte e (uv b.1 b.2.1)) λc =>
 Y ((zA (0<=c)),b))
  (Y (false,b)):T ((Bool×zc))) λ(d,a) =>
 V d
  (oI (qi ((qi (a.2.1+1))-1)) a.1 <|
 Y ((uv a.1 (qi ((qi (a.2.1+1))-1))),(a.1,((qi (a.2.1+1)),(a.2.2.1,(a.2.2.2.1,()))))))
  (Y (0,a))
def vn(a:Int)(b:Int)(c:zc):T (zc⊕(xh×zc)) :=
 Y (zF ((a,(b,())),c))
def kC(a:zc):T (zc⊕(xh×zc)) :=
 V (zA (32<=(qi (a.2.2.1+1))))
  (X (vn 4 (qi (a.2.1-1)) (a.1,(a.2.1,((qi (a.2.2.1+1)),(a.2.2.2.1,()))))) <|
 zK (λb =>
 Y (zG b))
  (λ(c,d) =>
 Y (zF (c,d))))
  (Y (zG (a.1,(a.2.1,((qi (a.2.2.1+1)),(a.2.2.2.1,()))))))
def yf(e:Int->T Bool)(f:Int)(g:Int):zc->T (zc⊕(zc))
 | a =>
 X (V (zA (a.2.1<(a.1.length:Int)))
  (V (zA ((qi (a.2.1-g))<f))
  (oI a.2.1 a.1 <|
 X (e (uv a.1 a.2.1)) λc =>
 Y (c,a))
  (Y (false,a)))
  (Y (false,a)):T ((Bool×zc))) λ(d,b) =>
 V d
  (Y (zG (b.1,((qi (b.2.1+1)),(b.2.2.1,(b.2.2.2.1,()))))))
  (Y (zF b))
def bV is most1 from_ s:=zJ (yf is most1 from_) s
def uF(c:Int->T Bool)(d:Int)(b:zc):T (zx×zc) :=
 X (bV c d b.2.1 b) λa =>
 .W (jA b.2.1 a.2.1 a.1.length) <|
 Y ((fK b.2.1 a.2.1 a.1),a)
def strings_CutPrefix(a:zx)(b:zx):T (zx×Bool) :=
 Y (D9 a b,List.isPrefixOf b a)
def gY(c:Int):zx->T (zx⊕zx)
 | a=>let b:=qi ((a.length:Int)-1);
 .W (((zA (0<(a.length:Int)))=true)->(xe b a.length)) <|
 V ((zA (0<(a.length:Int)))&&((uv a b)==c))
  (.W (jA 0 b a.length) <|
 Y (zG (fK 0 b a)))
  (Y (zF a))
def gX c1 s:=zJ (gY c1) s
def strings_trimRightByte(b:zx)(c:Int):T zx :=
 X (gX c b) λa =>
 Y a
def bF(b:Int):zx->T (zx⊕zx)
 | a =>
 .W (((zA (0<(a.length:Int)))=true)->(xe 0 a.length)) <|
 V ((zA (0<(a.length:Int)))&&((uv a 0)==b))
  (.W (jA 1 (a.length:Int) a.length) <|
 Y (zG (fK 1 (a.length:Int) a)))
  (Y (zF a))
def bE c1 s:=zJ (bF c1) s
def strings_trimLeftByte(b:zx)(c:Int):T zx :=
 X (bE c b) λa =>
 Y a
def strings_makeASCIISet(a:zx):T ((den (mO .bool 256))×Bool) :=
 .W (a.length<4294967281/\(∀ (j:Nat) b,a[j]? = some b->b.toNat<128)) <|
 Y (lH a,true)
def vf(b:(den (mO .bool 256)))(a:Int):T Bool :=
 .W (xe a 256) <|
 Y (Wv .bool (mO .bool 256) b (zE a))
def uC(d:(den (mO .bool 256))):zx->T (zx⊕zx)
 | a=>let b:=qi ((a.length:Int)-1);
 V (zA (0<(a.length:Int)))
  (oI b a <|
 X (vf d (uv a b)) λc =>
 V (!c)
  (Y (zF a))
  (.W (jA 0 b a.length) <|
 Y (zG (fK 0 b a))))
  (Y (zF a))
def jI as1 s:=zJ (uC as1) s
def ju(b:zx)(c:(den (mO .bool 256))):T zx :=
 X (jI c b) λa =>
 Y a
def uW(c:(den (mO .bool 256))):zx->T (zx⊕zx)
 | a =>
 V (zA (0<(a.length:Int)))
  (oI 0 a <|
 X (vf c (uv a 0)) λb =>
 V (!b)
  (Y (zF a))
  (.W (jA 1 (a.length:Int) a.length) <|
 Y (zG (fK 1 (a.length:Int) a))))
  (Y (zF a))
def kv as1 s:=zJ (uW as1) s
def jP(b:zx)(c:(den (mO .bool 256))):T zx :=
 X (kv c b) λa =>
 Y a
def cj(b:zx)(a:zx):T zx :=
 V ((wL b [])||(wL a []))
  (Y b)
  (.W ((((a.length:Int)==1)=true)->(xe 0 a.length)) <|
 V (((a.length:Int)==1)&&(zA ((uv a 0)<128)))
  (oI 0 a <|
 X (strings_trimRightByte b (uv a 0)) λd =>
 oI 0 a <|
 X (strings_trimLeftByte d (uv a 0)) λe =>
 Y e)
  (X (strings_makeASCIISet a) λ(c,f) =>
 V f
  (X (ju b c) λg =>
 X (jP g c) λh =>
 Y h)
  (.fail)))
def V3(h:z7)(c:z7)(e:z7)(g:Int):(Int×Int×z7)->T ((Int×Int×z7)⊕((Int×z7)))
 | (d,a,b)=>let f:=bif (zA (a<(c.length:Int)))then(wi ((wi (d+(wi (nth e a (zb (.int .u32))))))+(wi (nth c a (zb (.int .u32))))))else(wi (d+(wi (nth e a (zb (.int .u32))))));
 V (zA (a<g))
  (oI a e <|
 .W (((zA (a<(c.length:Int)))=true)->(xe a c.length)) <|
 oI a b <|
 .W (uO b.length b.length (0+(zE a)) b.length) <|
 .W (0<=(32:Int)) <|
 oM b.length (zL b (0+(zE a)) (gM f)).length <|
 Y (zG ((jk .u64 f 32),((qi (a+1)),(zL b (0+(zE a)) (gM f))))))
  (oC b <|
 U b <|
 Y (zF (d,b)))
def V1 a2 b2 x x1 s:=zJ (V3 a2 b2 x x1) s
def Ua(h:z7)(i:z7):T z7 :=
 X (vY h) λc =>
 X (vY i) λd=>let e:=bif (zA ((c.length:Int)<(d.length:Int)))then d else c; let a:=(e.length:Int);
 .W (eC (qi (a+1)) (qi (a+1)) 4) <|
 oM (zE (qi (a+1))) (zM (zE (qi (a+1))) (0:Int)).length <|
 X (V1 e (bif (zA ((c.length:Int)<(d.length:Int)))then c else d) e a (0,(0,(zM (zE (qi (a+1))) 0)))) λ(f,b) =>
 oI a b <|
 .W (uO b.length b.length (0+(zE a)) b.length) <|
 U b <|
 X (vY (zH 0 (zI (0+b.length) (zL b (0+(zE a)) (gM f))))) λg =>
 Y g
def ZU(c:zx)(g:Int):(z7×Int)->T ((z7×Int)⊕z7)
 | (b,a) =>
 V (zA (a<g))
  (X (iw b ([10]:List Int)) λd =>
 oI a c <|
 X (iA (wi (wu8 ((uv c a)-48)))) λe =>
 X (Ua d e) λf =>
 Y (zG (f,(qi (a+1)))))
  (Y (zF b))
def ZT s1 x1 s:=zJ (ZU s1 x1) s
def mb(a:zx):T (z7×Bool) :=
 X (V (wL a [])
  (Y true)
  (V (zA (400<(a.length:Int)))
  (Y true)
  (X (cj a [48,49,50,51,52,53,54,55,56,57]) λb =>
 Y (!(wL b [])))):T Bool) λc =>
 V c
  (Y ([],false))
  (X (ZT a (a.length:Int) ([],0)) λd =>
 Y (d,true))
def pj(f:zx):T (Rat×Int) :=
 V (zA (400<(f.length:Int)))
  (Y ((false,(([]:List Int),(([]:List Int),()))),3))
  (X (strings_CutPrefix f [45]) λ(c,d) =>
 X (strings_Cut c [46]) λ(b,a,g) =>
 V g
  (X (mb a) λ(t,h) =>
 oK b a <|
 X (mb (cat b a)) λ(i,j) =>
 V ((wL b [])||((!h)||(!j)))
  (Y ((false,(([]:List Int),(([]:List Int),()))),2))
  (X (VJ (a.length:Int)) λk =>
 X (rR d i k) λl =>
 Y (l,0)))
  (X (strings_Cut c [47]) λ(m,n,o) =>
 X (mb m) λ(p,q) =>
 X (mb (bif (!o)then[49]else n)) λ(e,r) =>
 V ((!q)||((!r)||((e.length:Int)==0)))
  (Y ((false,(([]:List Int),(([]:List Int),()))),2))
  (X (rR d p e) λs =>
 Y (s,0))))
def kB(i:zc):T ((AM.Expr×zc)⊕(xh×zc)) :=
 X (uF (λe=>kh e) (i.1.length:Int) i) λ(c,a) =>
 X (.W (((zA (a.2.1<(a.1.length:Int)))=true)->(xe a.2.1 a.1.length)) <|
 V ((zA (a.2.1<(a.1.length:Int)))&&((uv a.1 a.2.1)==46))
  (X (uF (λe=>kh e) (a.1.length:Int) (a.1,((qi (a.2.1+1)),(a.2.2.1,(a.2.2.2.1,()))))) λ(b,f) =>
 V (wL b [])
  (X (vn 2 f.2.1 f) <|
 zK (λj =>
 oK [46] b <|
 oK c (cat [46] b) <|
 Y (zG ((cat c (cat [46] b)),(j,(Expr.mk 0 (false,([],([],()))) [] [])))))
  (λ(k,l) =>
 Y (zF (k,(l,(Expr.mk 0 (false,([],([],()))) [] []))))))
  (oK [46] b <|
 oK c (cat [46] b) <|
 Y (zG ((cat c (cat [46] b)),(f,(Expr.mk 0 (false,([],([],()))) [] []))))))
  (Y (zG (c,(a,(Expr.mk 0 (false,([],([],()))) [] []))))):T ((zx×zc×AM.Expr)⊕(xh×zc×AM.Expr))) <|
 zK (λ(h,d,o) =>
 V (zA (400<(h.length:Int)))
  (Y (zG ((Expr.mk 1 (false,([],([],()))) [] []),(d.1,(d.2.1,(d.2.2.1,(true,())))))))
  (X (pj h) λ(g,p) =>
 Y (zG ((Expr.mk 1 (g.1,(g.2.1,(g.2.2.1,()))) [] []),d))))
  (λ(m,n,q) =>
 Y (zF (m,n)))
def ux(zD:zc->T ((AM.Expr×zc)⊕(xh×zc)))(zk:zc->T ((AM.Expr×zc)⊕(xh×zc)))(zC:zc):T ((AM.Expr×zc)⊕(xh×zc)) :=
 X (uE [45,40] zC) λ(h,a)=>let j:=(a,(Expr.mk 0 (false,([],([],()))) [] []));
 V (h==45)
  (X (kC a) <|
 zK (λk =>
 X (zD k) <|
 zK (λ(l,c) =>
 Y (zG ((Expr.mk 7 (false,([],([],()))) [] [l]),(c.1,(c.2.1,((qi (c.2.2.1-1)),(c.2.2.2.1,())))))))
  (λ(m,n) =>
 Y (zF (m,n))))
  (λ(o,p) =>
 Y (zF (o,p))))
  (V (h==40)
  (X (kC a) <|
 zK (λq =>
 X (zk q) <|
 zK (λ(r,s)=>let g:=((Expr.mk 0 (false,([],([],()))) [] []),r);
 X (X (uE [41] s) λ(t,e) =>
 V (t==0)
  (X (vn 2 e.2.1 e) <|
 zK (λu =>
 Y (zG (u,g)))
  (λ(v,w) =>
 Y (zF (v,(w,g)))))
  (Y (zG (e,g))):T ((zc×AM.Expr×AM.Expr)⊕(xh×zc×AM.Expr×AM.Expr))) <|
 zK (λ(d,zB,x) =>
 Y (zG (x,(d.1,(d.2.1,((qi (d.2.2.1-1)),(d.2.2.2.1,())))))))
  (λ(y,z,z6,aa) =>
 Y (zF (y,z))))
  (λ(A,hI) =>
 Y (zF (A,hI))))
  (λ(C,D) =>
 Y (zF (C,D))))
  (X (V (zA (a.2.1<(a.1.length:Int)))
  (oI a.2.1 a.1 <|
 X (kh (uv a.1 a.2.1)) λκ' =>
 Y (κ',j))
  (Y (false,j)):T ((Bool×zc×AM.Expr))) λ(G,b,i) =>
 V G
  (X (kB b) <|
 zK (λ(H,hb) =>
 Y (zG (H,hb)))
  (λ(hd,K) =>
 Y (zF (hd,K))))
  (X (V (zA (b.2.1<(b.1.length:Int)))
  (oI b.2.1 b.1 <|
 X (cu (uv b.1 b.2.1)) λL =>
 Y (L,(b,i)))
  (Y (false,(b,i))):T ((Bool×zc×AM.Expr))) λ(h2,f,ab) =>
 V h2
  (X (uF (λhx=>bU hx) 24 f) λ(κ,P) =>
 Y (zG ((Expr.mk 2 (false,([],([],()))) κ []),P)))
  (X (vn 2 f.2.1 f) <|
 zK (λhl =>
 Y (zG ((Expr.mk 0 (false,([],([],()))) [] []),hl)))
  (λ(S,oE) =>
 Y (zF (S,oE)))))))
def vE(kD:zc->T ((AM.Expr×zc)⊕(xh×zc)))(p:zc):T ((AM.Expr×zc)⊕(xh×zc)):=T.fix (λF x=>ux (λy0=>F (y0)) kD x) p
def vd(l:zc->T ((AM.Expr×zc)⊕(xh×zc)))(f:zx)(m:xh):(zc×AM.Expr×AM.Expr)->T ((zc×AM.Expr×AM.Expr)⊕((zc×AM.Expr×AM.Expr)⊕(xh×zc×AM.Expr×AM.Expr)))
 | (k,e,a) =>
 X (uE f k) λ(b,c) =>
 V (b==0)
  (Y (zF (zG (c,(a,a)))))
  (X ((vE l) c) <|
 zK (λ(g,h) =>
 X (strings_IndexByte f b) λd =>
 .W (xe d 2) <|
 Y (zG (h,(e,(Expr.mk (Wv (.int .i64) uq m (zE d)) (false,([],([],()))) [] [a,g])))))
  (λ(i,j) =>
 Y (zF (zF (i,(j,(e,a)))))))
def vb kD marks1 kinds1 s:=zJ (vd kD marks1 kinds1) s
def wo(a:zc->T ((AM.Expr×zc)⊕(xh×zc)))(p:Unit)(j:zx)(k:xh)(l:zc):T ((AM.Expr×zc)⊕(xh×zc)) :=
 X ((vE a) l) <|
 zK (λ(b,c) =>
 X (vb a j k (c,((Expr.mk 0 (false,([],([],()))) [] []),b))) <|
 zK (λ(d,e,m) =>
 Y (zG (e,d)))
  (λ(f,g,n,o) =>
 Y (zF (f,g))))
  (λ(h,i) =>
 Y (zF (h,i)))
def vu(e:zc->T ((AM.Expr×zc)⊕(xh×zc)))(f:zc):T ((AM.Expr×zc)⊕(xh×zc)) :=
 X ((wo e) () [42,47] ((5:Int),((6:Int),())) f) <|
 zK (λ(a,b) =>
 Y (zG (a,b)))
  (λ(c,d) =>
 Y (zF (c,d)))
def wW(l:zc->T ((AM.Expr×zc)⊕(xh×zc)))(f:zx)(m:xh):(zc×AM.Expr×AM.Expr)->T ((zc×AM.Expr×AM.Expr)⊕((zc×AM.Expr×AM.Expr)⊕(xh×zc×AM.Expr×AM.Expr)))
 | (k,e,a) =>
 X (uE f k) λ(b,c) =>
 V (b==0)
  (Y (zF (zG (c,(a,a)))))
  (X ((vu l) c) <|
 zK (λ(g,h) =>
 X (strings_IndexByte f b) λd =>
 .W (xe d 2) <|
 Y (zG (h,(e,(Expr.mk (Wv (.int .i64) uq m (zE d)) (false,([],([],()))) [] [a,g])))))
  (λ(i,j) =>
 Y (zF (zF (i,(j,(e,a)))))))
def wV kD marks1 kinds1 s:=zJ (wW kD marks1 kinds1) s
def wm(a:zc->T ((AM.Expr×zc)⊕(xh×zc)))(p:Unit)(j:zx)(k:xh)(l:zc):T ((AM.Expr×zc)⊕(xh×zc)) :=
 X ((vu a) l) <|
 zK (λ(b,c) =>
 X (wV a j k (c,((Expr.mk 0 (false,([],([],()))) [] []),b))) <|
 zK (λ(d,e,m) =>
 Y (zG (e,d)))
  (λ(f,g,n,o) =>
 Y (zF (f,g))))
  (λ(h,i) =>
 Y (zF (h,i)))
def y6(e:zc->T ((AM.Expr×zc)⊕(xh×zc)))(f:zc):T ((AM.Expr×zc)⊕(xh×zc)) :=
 X ((wm e) () [43,45] ((3:Int),((4:Int),())) f) <|
 zK (λ(a,b) =>
 Y (zG (a,b)))
  (λ(c,d) =>
 Y (zF (c,d)))
def cM(p:zc):T ((AM.Expr×zc)⊕(xh×zc)):=T.fix (λF x=>y6 (λy0=>F (y0)) x) p
def gH(a:AM.Expr)(b:Int)(c:Int):T (AM.Expr×Int×Int) :=
 V false
  (.fail)
  (Y (a,(b,c)))
def yU(a:xh)(b:AM.Expr)(c:Int)(d:Int):T (AM.Expr×Int×Int) :=
 V true
  (V (!true)
  (.fail)
  (Y ((Expr.mk 0 (false,([],([],()))) [] []),(a.2.1,a.1))))
  (Y (b,(c,d)))
def il(t:zc):T (AM.Expr×Int×Int×zc) :=
 X (cM t) <|
 zK (λ(b,a) =>
 V (zA (a.2.1<(a.1.length:Int)))
  (X (vn 2 a.2.1 a) <|
 zK (λc =>
 X (gH b 0 0) λ(d,e,f) =>
 Y (d,(e,(f,c))))
  (λ(g,h) =>
 X (yU g b 0 0) λ(i,j,k) =>
 Y (i,(j,(k,h)))))
  (X (gH b 0 0) λ(l,m,n) =>
 Y (l,(m,(n,a)))))
  (λ(o,p) =>
 X (yU o (Expr.mk 0 (false,([],([],()))) [] []) 0 0) λ(q,r,s) =>
 Y (q,(r,(s,p))))
def rf(i:zx):T (AM.Expr×Int×Int) :=
 X (il (i,((0:Int),((0:Int),(false,()))))) λ(a,e,b,c)=>let d:=((Expr.mk 0 (false,([],([],()))) [] []),(c,a));
 V (b != 0)
  (Y ((Expr.mk 0 (false,([],([],()))) [] []),(e,b)))
  (X (V c.2.2.2.1
  (Y (true,d))
  (X (ij a) λf =>
 Y ((!f),d)):T ((Bool×AM.Expr×zc×AM.Expr))) λ(g,j,k,h) =>
 V g
  (Y ((Expr.mk 0 (false,([],([],()))) [] []),(0,3)))
  (Y (h,(0,0))))
def strings_Contains(a:zx)(b:zx):T Bool :=
 .W (a.length<4294967281) <|
 Y (zA (0<=Yk a b))
def dA(b:zx)(v:zx):T (AM.Expr×AM.Expr×zx×Int) :=
 X (strings_IndexAny b [60,61]) λa=>let c:=fK (qi (a+1)) (b.length:Int) b;
 V (zA (a<0))
  (Y ((Expr.mk 0 (false,([],([],()))) [] []),((Expr.mk 0 (false,([],([],()))) [] []),([],2))))
  (.W (jA 0 a b.length) <|
 .W (jA (qi (a+1)) (b.length:Int) b.length) <|
 .W (jA a (qi (a+1)) b.length) <|
 X (X (V (wL (fK a (qi (a+1)) b) [60])
  (X (strings_HasPrefix c [61]) λm =>
 Y (m,((Expr.mk 0 (false,([],([],()))) [] []),(Expr.mk 0 (false,([],([],()))) [] []))))
  (Y (false,((Expr.mk 0 (false,([],([],()))) [] []),(Expr.mk 0 (false,([],([],()))) [] [])))):T ((Bool×AM.Expr×AM.Expr))) λ(n,e,f) =>
 V n
  (.W (jA 1 (c.length:Int) c.length) <|
 Y ([60,61],((fK 1 (c.length:Int) c),(e,f))))
  (Y ((fK a (qi (a+1)) b),(c,(e,f)))):T ((zx×zx×AM.Expr×AM.Expr))) λ(g,o,w,p) =>
 X (rf (fK 0 a b)) λ(d,x,h) =>
 V (h != 0)
  (Y (d,(p,([],h))))
  (X (X (rf o) λ(i,y,j) =>
 X (V (j==0)
  (X (strings_Contains v g) λq =>
 Y ((!q),(d,i)))
  (Y (false,(d,i))):T ((Bool×AM.Expr×AM.Expr))) λ(r,k,l) =>
 V r
  (Y (2,(k,l)))
  (Y (j,(k,l))):T ((Int×AM.Expr×AM.Expr))) λ(s,t,u) =>
 Y (t,(u,(g,s)))))
def nw(a:zo)(b:Int)(c:Int)(d:zx):T Bool :=
 .W ((((a.length:Int)==b)=true)->(xe c a.length)) <|
 Y (((a.length:Int)==b)&&(wL (nth a c (zb .str)) d))
def nu(b:zo)(a:Int):T (zx×Bool) :=
 V ((b.length:Int)==a)
  (Y ([],true))
  (X (X (nw b (qi (a+2)) a [119,104,101,110]) λc =>
 V c
  (oI (qi (a+1)) b <|
 X (uQ (nth b (qi (a+1)) (zb .str))) λd =>
 Y d)
  (Y false):T Bool) λe =>
 V e
  (oI (qi (a+1)) b <|
 Y ((nth b (qi (a+1)) (zb .str)),true))
  (Y ([],false)))
def bg(i:zo)(x:zx)(z:Unit)(k:qc)(l:qg)(j:xc)(m:qo)(n:xa)(o:qq):T (Int×Unit×qc×qg×xc×qo×xa×qq) :=
 let p:=((),(k,(l,(j,(m,(n,o))))));  X (V ((i.length:Int) != 2)
  (oY k l j m n o <|
 Y (true,p))
  (oI 1 i <|
 X (uQ (nth i 1 (zb .str))) λr =>
 V (!r)
  (oY k l j m n o <|
 Y (true,p))
  (oY k l j m n o <|
 Y (((j.length:Int)==0),p))):T ((Bool×Unit×qc×qg×xc×qo×xa×qq))) λ(s,y,e,f,b,g,h,a) =>
 V s
  (oY e f b g h a <|
 Y (2,((),(e,(f,(b,(g,(h,a))))))))
  (oI 1 i <|
 X (dA x [60,61]) λ(c,d,t,u) =>
 X (bB) λv =>
 X (wD v t) λw=>let q:=a++([((nth i 1 (zb .str)),((qi ((b.length:Int)-1)),(w,((Expr.mk (Expr.kind c) ((Expr.num c).1,((Expr.num c).2.1,((Expr.num c).2.2.1,()))) (Expr.name c) (Expr.kids c)),((Expr.mk (Expr.kind d) ((Expr.num d).1,((Expr.num d).2.1,((Expr.num d).2.2.1,()))) (Expr.name d) (Expr.kids d)),())))))]:List Check);
 oA a 240 <|
 oC e <|
 oC f <|
 oC b <|
 oC g <|
 oC h <|
 .W (zp (a.length+1) 0 (a.length+1) q.length) <|
 U e <|
 U f <|
 U b <|
 U g <|
 U h <|
 .W ((a.length+1)=q.length) <|
 Y (u,((),(e,(f,(b,(g,(h,q))))))))
def cd(a:zo)(A:zx)(D:Unit)(j:qc)(k:qg)(l:xc)(m:qo)(n:xa)(o:qq):T (Int×Unit×qc×qg×xc×qo×xa×qq) :=
 let p:=((),(j,(k,(l,(m,(n,o))))));  X (V (zA ((a.length:Int)<3))
  (oY j k l m n o <|
 Y (true,p))
  (X (kZ) λr =>
 oI 1 a <|
 X (wK r (nth a 1 (zb .str))) λs =>
 V (!s)
  (oY j k l m n o <|
 Y (true,p))
  (oI 2 a <|
 X (uQ (nth a 2 (zb .str))) λt =>
 oY j k l m n o <|
 Y ((!t),p))):T ((Bool×Unit×qc×qg×xc×qo×xa×qq))) λ(u,hI,c,d,e,f,b,g) =>
 V u
  (oY c d e f b g <|
 Y (2,((),(c,(d,(e,(f,(b,g))))))))
  (X (nu a 3) λ(v,w) =>
 V (!w)
  (oY c d e f b g <|
 Y (2,((),(c,(d,(e,(f,(b,g))))))))
  (oI 2 a <|
 X (kZ) λx =>
 oI 1 a <|
 X (wD x (nth a 1 (zb .str))) λy =>
 X (dA A [61]) λ(h,i,C,z)=>let q:=b++([((nth a 2 (zb .str)),(y,(v,((Expr.mk (Expr.kind h) ((Expr.num h).1,((Expr.num h).2.1,((Expr.num h).2.2.1,()))) (Expr.name h) (Expr.kids h)),((Expr.mk (Expr.kind i) ((Expr.num i).1,((Expr.num i).2.1,((Expr.num i).2.2.1,()))) (Expr.name i) (Expr.kids i)),())))))]:List dZ);
 oA b 248 <|
 oC c <|
 oC d <|
 oC e <|
 oC f <|
 .W (zp (b.length+1) 0 (b.length+1) q.length) <|
 oC g <|
 U c <|
 U d <|
 U e <|
 U f <|
 .W ((b.length+1)=q.length) <|
 U g <|
 Y (z,((),(c,(d,(e,(f,(q,g)))))))))
def c8(a:zo)(s:Unit)(h:qc)(i:qg)(j:xc)(k:qo)(l:xa)(m:qq):T (Bool×Unit×qc×qg×xc×qo×xa×qq) :=
 let n:=((),(h,(i,(j,(k,(l,m))))));  X (V ((a.length:Int) != 3)
  (oY h i j k l m <|
 Y (true,n))
  (oI 1 a <|
 X (uQ (nth a 1 (zb .str))) λp =>
 V (!p)
  (oY h i j k l m <|
 Y (true,n))
  (oI 2 a <|
 V (!(wL (nth a 2 (zb .str)) [111,110]))
  (oI 2 a <|
 oY h i j k l m <|
 Y ((!(wL (nth a 2 (zb .str)) [111,102,102])),n))
  (oY h i j k l m <|
 Y (false,n)))):T ((Bool×Unit×qc×qg×xc×qo×xa×qq))) λ(q,r,b,c,d,e,f,g)=>let o:=b++([((nth a 1 (zb .str)),((wL (nth a 2 (zb .str)) [111,110]),()))]:List Switch);
 V q
  (oY b c d e f g <|
 Y (false,((),(b,(c,(d,(e,(f,g))))))))
  (oI 1 a <|
 oI 2 a <|
 oA b 24 <|
 .W (zp (b.length+1) 0 (b.length+1) o.length) <|
 oC c <|
 oC d <|
 oC e <|
 oC f <|
 oC g <|
 .W ((b.length+1)=o.length) <|
 U c <|
 U d <|
 U e <|
 U f <|
 U g <|
 Y (true,((),(o,(c,(d,(e,(f,g))))))))
def cP(b:zo)(t:Unit)(h:qc)(i:qg)(j:xc)(k:qo)(l:xa)(m:qq):T (Bool×Unit×qc×qg×xc×qo×xa×qq) :=
 X (V ((b.length:Int) != 3)
  (oY h i j k l m <|
 Y (true,((),(h,(i,(j,(k,(l,m))))))))
  (oI 1 b <|
 X (uQ (nth b 1 (zb .str))) λp =>
 oY h i j k l m <|
 Y ((!p),((),(h,(i,(j,(k,(l,m)))))))):T ((Bool×Unit×qc×qg×xc×qo×xa×qq))) λ(q,s,c,a,d,e,f,g) =>
 V q
  (oY c a d e f g <|
 Y (false,((),(c,(a,(d,(e,(f,g))))))))
  (oI 2 b <|
 X (pj (nth b 2 (zb .str))) λ(n,r)=>let o:=a++([((nth b 1 (zb .str)),((n.1,(n.2.1,(n.2.2.1,()))),()))]:List Param);
 oI 1 b <|
 oA a 72 <|
 oC c <|
 .W (zp (a.length+1) 0 (a.length+1) o.length) <|
 oC d <|
 oC e <|
 oC f <|
 oC g <|
 U c <|
 .W ((a.length+1)=o.length) <|
 U d <|
 U e <|
 U f <|
 U g <|
 Y ((r==0),((),(c,(o,(d,(e,(f,g))))))))
def ca(b:zo)(t:Unit)(h:qc)(i:qg)(j:xc)(k:qo)(l:xa)(m:qq):T (Bool×Unit×qc×qg×xc×qo×xa×qq) :=
 X (V (zA ((b.length:Int)<2))
  (oY h i j k l m <|
 Y (true,((),(h,(i,(j,(k,(l,m))))))))
  (oI 1 b <|
 X (uQ (nth b 1 (zb .str))) λo =>
 oY h i j k l m <|
 Y ((!o),((),(h,(i,(j,(k,(l,m)))))))):T ((Bool×Unit×qc×qg×xc×qo×xa×qq))) λ(p,s,c,d,a,e,f,g) =>
 V p
  (oY c d a e f g <|
 Y (false,((),(c,(d,(a,(e,(f,g))))))))
  (X (nu b 2) λ(q,r)=>let n:=a++([((nth b 1 (zb .str)),(q,()))]:List eN);
 oI 1 b <|
 oA a 32 <|
 oC c <|
 oC d <|
 .W (zp (a.length+1) 0 (a.length+1) n.length) <|
 oC e <|
 oC f <|
 oC g <|
 U c <|
 U d <|
 .W ((a.length+1)=n.length) <|
 U e <|
 U f <|
 U g <|
 Y (r,((),(c,(d,(n,(e,(f,g))))))))
def cQ(a:zo)(aa:Unit)(A:qc)(hI:qg)(s:xc)(C:qo)(D:xa)(κ':qq):T (Bool×Unit×qc×qg×xc×qo×xa×qq) :=
 let hx:=((),(A,(hI,(s,(C,(D,κ')))))); let b:=(a.length:Int);  X (V (zA (b<2))
  (oY A hI s C D κ' <|
 Y (true,hx))
  (oI 1 a <|
 X (uQ (nth a 1 (zb .str))) λκ =>
 V (!κ)
  (oY A hI s C D κ' <|
 Y (true,hx))
  (oY A hI s C D κ' <|
 Y (((s.length:Int)==0),hx))):T ((Bool×Unit×qc×qg×xc×qo×xa×qq))) λ(P,zk,g,h,c,i,j,k) =>
 V P
  (oY g h c i j k <|
 Y (false,((),(g,(h,(c,(i,(j,k))))))))
  (oI 1 a <|
 .W (jA 2 b a.length) <|
 X (.W (((zA (0<(zN (jJ (e:=.str) 2 b a).length:Int)))=true)->(xe 0 (jJ (e:=.str) 2 b a).length)) <|
 V ((zA (0<(zN (jJ (e:=.str) 2 b a).length:Int)))&&(wL (nth (jJ (e:=.str) 2 b a) 0 (zb .str)) [109,117,115,116]))
  (.W (jA 1 (zN (jJ (e:=.str) 2 b a).length:Int) (jJ (e:=.str) 2 b a).length) <|
 oY g h c i j k <|
 Y ((jJ (e:=.str) 1 (zN (jJ (e:=.str) 2 b a).length:Int) (jJ (e:=.str) 2 b a)),((),(g,(h,(c,(i,(j,(k,((nth a 1 (zb .str)),((qi ((c.length:Int)-1)),(true,((0:Int),())))))))))))))
  (oY g h c i j k <|
 Y ((jJ (e:=.str) 2 b a),((),(g,(h,(c,(i,(j,(k,((nth a 1 (zb .str)),((qi ((c.length:Int)-1)),(false,((0:Int),()))))))))))))):T ((zo×Unit×qc×qg×xc×qo×xa×qq×Field))) λ(d,zC,m,n,o,p,q,r,hl)=>let l:=nth d 1 (zb .str); let G:=((),(m,(n,(o,(p,(q,(r,hl)))))));
 X (X (X (nw d 2 0 [115,99,97,108,101]) λS =>
 V S
  (oI 1 d <|
 V ((l.length:Int)==1)
  (oI 1 d <|
 V (!(strLt l [48]))
  (oI 1 d <|
 oY m n o p q r <|
 Y (((strLt l [57])||(wL l [57])),G))
  (oY m n o p q r <|
 Y (false,G)))
  (oY m n o p q r <|
 Y (false,G)))
  (oY m n o p q r <|
 Y (false,G)):T ((Bool×Unit×qc×qg×xc×qo×xa×qq×Field))) λ(oE,zB,t,u,v,w,x,y,z) =>
 V oE
  (oI 1 d <|
 oI 0 l <|
 oY t u v w x y <|
 Y ([],((),(t,(u,(v,(w,(x,(y,(z.1,(z.2.1,(z.2.2.1,((qi (wu8 ((uv l 0)-48))),())))))))))))))
  (oY t u v w x y <|
 Y (d,((),(t,(u,(v,(w,(x,(y,z))))))))):T ((zo×Unit×qc×qg×xc×qo×xa×qq×Field))) λ(zD,z6,H,hb,hd,f,K,L,h2) =>
 oA f 40 <|
 oC H <|
 oC hb <|
 oC hd <|
 .W (zp (f.length+1) 0 (f.length+1) (f++[h2]).length) <|
 oC K <|
 oC L <|
 U H <|
 U hb <|
 U hd <|
 .W ((f.length+1)=(f++[h2]).length) <|
 U K <|
 U L <|
 Y (((zD.length:Int)==0),((),(H,(hb,(hd,((f++[h2]),(K,L))))))))
def p7(ag:zx)(an:Unit)(b:qc)(c:qg)(d:xc)(e:qo)(f:xa)(g:qq):T (Int×Unit×qc×qg×xc×qo×xa×qq) :=
 let j:=((),(b,(c,(d,(e,(f,g))))));  X (strings_Cut ag [58]) λ(z6,K,i) =>
 X (td z6) λa=>let hd:=zA (0<(a.length:Int)); let h:=nth a 0 (zb .str);
 .W (((((a.length:Int)==0)=true)->(((!i)=false)->((hd=true)->((xe 0 a.length)/\(xe 0 h.length)))))/\((((a.length:Int)==0)=false)->((hd=true)->((xe 0 a.length)/\(xe 0 h.length))))) <|
 V (bif ((a.length:Int)==0)then((!i)||(hd&&((uv h 0)==35)))else(hd&&((uv h 0)==35)))
  (oY b c d e f g <|
 Y (0,j))
  (V ((a.length:Int)==0)
  (V (!false)
  (oY b c d e f g <|
 Y (2,j))
  (oY b c d e f g <|
 Y (0,j)))
  (.W ((i=true)->(xe 0 a.length)) <|
 V (i&&(wL h [99,104,101,99,107]))
  (oY b c d e f g <|
 X (bg a K () b c d e f g) λ(aa,ah,L,h2,hx,κ,P,hl) =>
 oY L h2 hx κ P hl <|
 Y (aa,((),(L,(h2,(hx,(κ,(P,hl))))))))
  (.W ((i=true)->(xe 0 a.length)) <|
 V (i&&(wL h [114,117,108,101]))
  (oY b c d e f g <|
 X (cd a K () b c d e f g) λ(ab,ai,S,oE,zD,zk,zC,zB) =>
 oY S oE zD zk zC zB <|
 Y (ab,((),(S,(oE,(zD,(zk,(zC,zB))))))))
  (V i
  (V (!false)
  (oY b c d e f g <|
 Y (2,j))
  (oY b c d e f g <|
 Y (0,j)))
  (oI 0 a <|
 V (wL h [115,119,105,116,99,104])
  (oY b c d e f g <|
 X (c8 a () b c d e f g) λ(ac,aj,k,l,m,n,o,p) =>
 V (!ac)
  (oY k l m n o p <|
 Y (2,((),(k,(l,(m,(n,(o,p))))))))
  (oY k l m n o p <|
 Y (0,((),(k,(l,(m,(n,(o,p)))))))))
  (oI 0 a <|
 V (wL h [112,97,114,97,109])
  (oY b c d e f g <|
 X (cP a () b c d e f g) λ(ad,ak,q,r,s,t,u,v) =>
 V (!ad)
  (oY q r s t u v <|
 Y (2,((),(q,(r,(s,(t,(u,v))))))))
  (oY q r s t u v <|
 Y (0,((),(q,(r,(s,(t,(u,v)))))))))
  (oI 0 a <|
 V (wL h [112,97,103,101])
  (oY b c d e f g <|
 X (ca a () b c d e f g) λ(ae,al,w,x,y,z,A,hI) =>
 V (!ae)
  (oY w x y z A hI <|
 Y (2,((),(w,(x,(y,(z,(A,hI))))))))
  (oY w x y z A hI <|
 Y (0,((),(w,(x,(y,(z,(A,hI)))))))))
  (oI 0 a <|
 V (wL h [102,105,101,108,100])
  (oY b c d e f g <|
 X (cQ a () b c d e f g) λ(af,am,C,D,κ',G,H,hb) =>
 V (!af)
  (oY C D κ' G H hb <|
 Y (2,((),(C,(D,(κ',(G,(H,hb))))))))
  (oY C D κ' G H hb <|
 Y (0,((),(C,(D,(κ',(G,(H,hb)))))))))
  (V (!false)
  (oY b c d e f g <|
 Y (2,j))
  (oY b c d e f g <|
 Y (0,j)))))))))))
def iW(u:zo)(w:Int):(Int×Unit×Unit×qq×qq×xa×xa×qc×qc×qg×qg×xc×xc×qo×qo)->T ((Int×Unit×Unit×qq×qq×xa×xa×qc×qc×qg×qg×xc×xc×qo×qo)⊕((Unit×Unit×qq×qq×xa×xa×qc×qc×qg×qg×xc×xc×qo×qo)⊕(Int×Int×Form×Unit×qq×qq×xa×xa×qc×qc×qg×qg×xc×xc×qo×qo)))
 | (m,y,z,a,n,b,o,c,p,d,q,e,r,f,s) =>
 V (zA (m<w))
  (oI m u <|
 oY p q r s o n <|
 X (p7 (nth u m (zb .str)) () p q r s o n) λ(t,x,g,h,i,j,k,l)=>let v:=((),(a,(l,(b,(k,(c,(g,(d,(h,(e,(i,(f,j))))))))))));
 V (t != 0)
  (oV g h i j k l <|
 oW a l b k c g <|
 oW d h e i f j <|
 Y (zF (zF ((qi (m+1)),(t,((([]:List Switch),(([]:List Param),(([]:List eN),(([]:List Field),(([]:List dZ),(([]:List Check),())))))),v))))))
  (oV c d e f b a <|
 oV g h i j k l <|
 oW a l b k c g <|
 oW d h e i f j <|
 Y (zG ((qi (m+1)),((),v)))))
  (oV c d e f b a <|
 oV p q r s o n <|
 oW a n b o c p <|
 oW d q e r f s <|
 Y (zF (zG ((),((),(a,(n,(b,(o,(c,(p,(d,(q,(e,(r,(f,s))))))))))))))))
def rW x x1 s:=zJ (iW x x1) s
def nt(h:zx):T (Form×Int×Int) :=
 V (zA (16384<(h.length:Int)))
  (Y ((([]:List Switch),(([]:List Param),(([]:List eN),(([]:List Field),(([]:List dZ),(([]:List Check),())))))),(0,3)))
  (X (strings_Split h [10]) λg =>
 .W (zp 0 0 0 0) <|
 .W (zp 0 0 0 0) <|
 .W (zp 0 0 0 0) <|
 .W (zp 0 0 0 0) <|
 .W (zp 0 0 0 0) <|
 .W (zp 0 0 0 0) <|
 .W (zp 0 0 0 0) <|
 .W (zp 0 0 0 0) <|
 .W (zp 0 0 0 0) <|
 .W (zp 0 0 0 0) <|
 .W (zp 0 0 0 0) <|
 oZ <|
 .W (0=0) <|
 .W (0=0) <|
 .W (0=0) <|
 .W (0=0) <|
 .W (0=0) <|
 .W (0=0) <|
 .W (0=0) <|
 .W (0=0) <|
 .W (0=0) <|
 .W (0=0) <|
 .W (0=0) <|
 X (rW g (g.length:Int) (0,((),((),([],([],([],([],([],([],([],([],([],([],([],[]))))))))))))))) <|
 zK (λ(n,o,p,a,q,b,r,c,s,d,t,e,u,f)=>let i:=((zH 0 (zI (0+c.length) c)),((zH 0 (zI (0+d.length) d)),((zH 0 (zI (0+e.length) e)),((zH 0 (zI (0+f.length) f)),((zH 0 (zI (0+b.length) b)),((zH 0 (zI (0+a.length) a)),()))))));
 oW c d e f b a <|
 X (Z9 i) λj =>
 V (!j)
  (Y ((([]:List Switch),(([]:List Param),(([]:List eN),(([]:List Field),(([]:List dZ),(([]:List Check),())))))),(0,2)))
  (oW c d e f b a <|
 Y (i,(0,0))))
  (λ(k,l,m,v,w,x,y,z,A,hI,C,D,κ',G,H,hb) =>
 Y (m,(k,l))))
def ZB(c:Form):T Form :=
 X (sZ c) λa =>
 X (nt a) λ(b,d,e) =>
 Y b
def yW(a:Int):T Rat :=
 X (iA (bif (zA (a<0))then(wi (0-(wi a)))else(wi a))) λb =>
 X (iA 1) λc =>
 Y ((zA (a<0)),(b,(c,())))
def QT(a:Form)(b:qe):T Bool :=
 Y (((b.2.2.1.length:Int)==(a.2.2.2.1.length:Int))&&(((b.2.2.2.1.length:Int)==(a.2.2.2.2.1.length:Int))&&(((b.2.2.2.2.1.length:Int)==(a.2.2.2.1.length:Int))&&((b.2.2.2.2.2.1.length:Int)==(a.2.2.2.1.length:Int)))))
def bT(a:Rat):T Bool :=
 X (tz a) λb =>
 V (!b)
  (Y true)
  (X (cz a) λc =>
 Y c)
def yR(b:zu)(d:Rat->T Bool)(e:Int):Int->T (Int⊕(Unit⊕Int))
 | a =>
 V (zA (a<e))
  (oI a b <|
 X (d (nth b a (zb zm))) λc =>
 V c
  (Y (zF (zF a)))
  (Y (zG (qi (a+1)))))
  (Y (zF (zG ())))
def si s1 f x s:=zJ (yR s1 f x) s
def kS(a:zu)(c:Rat->T Bool):T Int :=
 X (si a c (a.length:Int) 0) <|
 zK (λ_ =>
 Y (-1))
  (λb =>
 Y b)
def vx(b:zu)(c:Rat->T Bool):T Bool :=
 X (kS b c) λa =>
 Y (zA (0<=a))
def rb(c:qo)(d:Int):(Int×zo)->T ((Int×zo)⊕zo)
 | (b,a) =>
 V (zA (b<d))
  (oI b c <|
 oA a 16 <|
 oM (a.length+1) (a++([(nth c b (zb qv)).1]:List zx)).length <|
 Y (zG ((qi (b+1)),(a++([(nth c b (zb qv)).1]:List zx)))))
  (oC a <|
 U a <|
 Y (zF a))
def r9 x x1 s:=zJ (rb x x1) s
def sH(b:Form):T zo :=
 oZ <|
 X (r9 b.2.2.2.1 (b.2.2.2.1.length:Int) (0,[])) λa =>
 U a <|
 Y (zH 0 (zI (0+a.length) a))
def bh(a:zu):T zu :=
 let b:=0+a.length;  .W (a=[]->∀ r,T.leads (.W (vV 0 0 0 0 0 a.length 56) <|
 .W (b=b) <|
 Y (zH 0 (zI (0+b) a)):T _) r->T.leads (Y []:T _) r) <|
 .W (vV 0 0 0 0 0 a.length 56) <|
 .W (b=b) <|
 Y (zH 0 (zI (0+b) a))
def QW(h:qg)(i:Int):(Int×(zu×Unit)×(zo×zu×Unit)×zo×zo×zo)->T ((Int×(zu×Unit)×(zo×zu×Unit)×zo×zo×zo)⊕(((zu×Unit)×(zo×zu×Unit)×zo×zo×zo)))
 | (d,g,e,b,c,a)=>let f:=a++([(nth h d (zb qf)).1]:List zx);
 V (zA (d<i))
  (oI d h <|
 oA a 16 <|
 oC b <|
 oC c <|
 .W (zp (a.length+1) 0 (a.length+1) f.length) <|
 U b <|
 U c <|
 .W ((a.length+1)=f.length) <|
 Y (zG ((qi (d+1)),((g.1,()),((e.1,(e.2.1,())),(b,(c,f)))))))
  (oC b <|
 oC c <|
 oC a <|
 U b <|
 U c <|
 U a <|
 Y (zF ((g.1,()),((e.1,(e.2.1,())),(b,(c,a))))))
def QV x x1 s:=zJ (QW x x1) s
def r8(b:Form)(f:zu):T wk :=
 X (sH b) λd =>
 X (bh f) λe =>
 .W (zp 0 0 0 0) <|
 .W (zp 0 0 0 0) <|
 oZ <|
 .W (0=0) <|
 .W (0=0) <|
 X (QV b.2.1 (b.2.1.length:Int) (0,(([],()),((d,(e,())),([],([],[])))))) λ(g,c,h,i,a) =>
 U a <|
 Y (c.1,((zH 0 (zI (0+a.length) a)),(c.2.1,())))
def dK(a:Switch)(b:zx):T Bool :=
 Y (wL a.1 b)
def XN(e:Form)(c:zr)(b:zx):T Bool :=
 X (wa e.1 (λd=>dK d b)) λa =>
 .W (((wL b [])=false)->(((zA (0<=a))=true)->(xe a c.length))) <|
 Y ((wL b [])||((zA (0<=a))&&(nth c a (zb .bool))))
def lG(b:zu)(a:Int):T Rat :=
 V ((zA (a<0))||(zA ((b.length:Int)<=a)))
  (X (yW 0) λc =>
 Y c)
  (oI a b <|
 X (vF (nth b a (zb zm))) λd =>
 Y d)
def XG(g:zx)(d:wk):T (vK×Int) :=
 X (wD d.1 g) λe =>
 V (zA (0<=e))
  (X (yW 1) λa =>
 X (yW 0) λb =>
 Y (((0:Int),(([(e,((a.1,(a.2.1,(a.2.2.1,()))),()))]:List Term),((b.1,(b.2.1,(b.2.2.1,()))),()))),0))
  (X (wD d.2.1 g) λf =>
 V (zA (f<0))
  (Y (((0:Int),(([]:List Term),((false,(([]:List Int),(([]:List Int),()))),()))),5))
  (X (lG d.2.2.1 f) λc =>
 Y (((0:Int),(([]:List Term),((c.1,(c.2.1,(c.2.2.1,()))),()))),0)))
def oR(f:Rat)(g:Rat):T Rat :=
 X (vF f) λa =>
 X (vF g) λb =>
 X (iw a.2.1 b.2.1) λc =>
 X (iw a.2.2.1 b.2.2.1) λd =>
 X (rR (!(a.1==b.1)) c d) λe =>
 Y e
def iL(b:Rat):T Bool :=
 X (vF b) λa =>
 Y ((a.2.1.length:Int)==0)
def Zj(k:Rat)(f:wB)(l:Int):(Int×(Int×Bool×z7×z7×Unit)×(Int×Bool×z7×z7×Unit)×wB×wB)->T ((Int×(Int×Bool×z7×z7×Unit)×(Int×Bool×z7×z7×Unit)×wB×wB)⊕(((Int×Bool×z7×z7×Unit)×(Int×Bool×z7×z7×Unit)×wB×wB)))
 | (b,c,d,e,a)=>let i:=((c.1,(c.2.1,(c.2.2.1,(c.2.2.2.1,())))),((d.1,(d.2.1,(d.2.2.1,(d.2.2.2.1,())))),(e,a)));
 V (zA (b<l))
  (oI b f <|
 X (oR ((nth f b (zb qk)).2.1.1,((nth f b (zb qk)).2.1.2.1,((nth f b (zb qk)).2.1.2.2.1,()))) k) λg=>let h:=a++([((nth f b (zb qk)).1,((g.1,(g.2.1,(g.2.2.1,()))),()))]:List Term);
 X (iL g) λj =>
 V (!j)
  (oA a 64 <|
 oC e <|
 .W (zp (a.length+1) 0 (a.length+1) h.length) <|
 U e <|
 .W ((a.length+1)=h.length) <|
 Y (zG ((qi (b+1)),((c.1,(c.2.1,(c.2.2.1,(c.2.2.2.1,())))),((d.1,(d.2.1,(d.2.2.1,(d.2.2.2.1,())))),(e,h))))))
  (oC e <|
 oC a <|
 U e <|
 U a <|
 Y (zG ((qi (b+1)),i))))
  (oC e <|
 oC a <|
 U e <|
 U a <|
 Y (zF i))
def Zi by_1 x x1 s:=zJ (Zj by_1 x x1) s
def dF(b:vK)(e:Rat):T vK :=
 X (oR b.2.2.1 e) λc =>
 .W (zp 0 0 0 0) <|
 oZ <|
 .W (0=0) <|
 X (Zi e b.2.1 (b.2.1.length:Int) (0,((0,(false,([],([],())))),((b.1,(c.1,(c.2.1,(c.2.2.1,())))),([],[]))))) λ(f,a,g,d) =>
 U d <|
 Y (a.1,((zH 0 (zI (0+d.length) d)),((a.2.1,(a.2.2.1,(a.2.2.2.1,()))),())))
def Va(c:z7)(e:z7)(h:Int):(Int×Int×z7)->T ((Int×Int×z7)⊕z7)
 | (g,a,b) =>
 V (zA (a<h))
  (oI a e <|
 .W (((zA (a<(c.length:Int)))=true)->(xe a c.length)) <|
 X (kX (nth e a (zb (.int .u32))) (bif (zA (a<(c.length:Int)))then(nth c a (zb (.int .u32)))else 0) g) λ(d,f) =>
 oI a b <|
 .W (uO b.length b.length (0+(zE a)) b.length) <|
 oM b.length (zL b (0+(zE a)) d).length <|
 Y (zG (f,((qi (a+1)),(zL b (0+(zE a)) d)))))
  (oC b <|
 U b <|
 Y (zF b))
def V9 b2 x x1 s:=zJ (Va b2 x x1) s
def Ud(c:z7)(d:z7):T (z7×Bool) :=
 X (sP c d) λe =>
 V (zA (e<0))
  (Y ([],false))
  (X (vY c) λa =>
 X (vY d) λf =>
 .W (eC (a.length:Int) (a.length:Int) 4) <|
 oM (zE (a.length:Int)) (zM (zE (a.length:Int)) (0:Int)).length <|
 X (V9 f a (a.length:Int) (0,(0,(zM (zE (a.length:Int)) 0)))) λb =>
 U b <|
 X (vY (zH 0 (zI (0+b.length) b))) λg =>
 Y (g,true))
def oQ(m:Rat)(n:Rat):T Rat :=
 X (vF m) λa =>
 X (vF n) λb =>
 X (iw a.2.1 b.2.2.1) λc =>
 X (iw b.2.1 a.2.2.1) λd =>
 X (iw a.2.2.1 b.2.2.1) λe =>
 V (a.1==b.1)
  (X (Ua c d) λf =>
 X (rR a.1 f e) λg =>
 Y g)
  (X (Ud c d) λ(h,i) =>
 V i
  (X (rR a.1 h e) λj =>
 Y j)
  (X (Ud d c) λ(k,o) =>
 X (rR b.1 k e) λl =>
 Y l))
def WM  : (wB×wB×(Int×Bool×z7×z7×Unit)×(Int×Bool×z7×z7×Unit)×wB×wB)->T ((wB×wB×(Int×Bool×z7×z7×Unit)×(Int×Bool×z7×z7×Unit)×wB×wB)⊕(((Int×Bool×z7×z7×Unit)×(Int×Bool×z7×z7×Unit)×wB×wB)))
 | (b,a,n,o,c,d)=>let g:=(b.length:Int); let m:=nth a 0 (zb qk); let l:=nth b 0 (zb qk); let p:=(n.1,(n.2.1,(n.2.2.1,(n.2.2.2.1,())))); let q:=(o.1,(o.2.1,(o.2.2.1,(o.2.2.2.1,()))));
 V (zA (0<(qi (g+(a.length:Int)))))
  (X (.W ((((a.length:Int)==0)=false)->(((zA (0<g))=true)->((xe 0 b.length)/\(xe 0 a.length)))) <|
 V (((a.length:Int)==0)||((zA (0<g))&&(zA (l.1<m.1))))
  (oI 0 b <|
 oI 0 b <|
 X (vF l.2.1) λr =>
 .W (jA 1 g b.length) <|
 oC c <|
 oC d <|
 U c <|
 U d <|
 Y ((jJ (e:=qk) 1 g b),(a,(p,(q,(c,(d,(l.1,((r.1,(r.2.1,(r.2.2.1,()))),())))))))))
  (.W (((g==0)=false)->((xe 0 a.length)/\(xe 0 b.length))) <|
 V ((g==0)||(zA (m.1<l.1)))
  (oI 0 a <|
 oI 0 a <|
 X (vF m.2.1) λs =>
 .W (jA 1 (a.length:Int) a.length) <|
 oC c <|
 oC d <|
 U c <|
 U d <|
 Y (b,((jJ (e:=qk) 1 (a.length:Int) a),(p,(q,(c,(d,(m.1,((s.1,(s.2.1,(s.2.2.1,()))),())))))))))
  (oI 0 b <|
 oI 0 b <|
 oI 0 a <|
 X (oQ l.2.1 m.2.1) λt =>
 .W (jA 1 g b.length) <|
 .W (jA 1 (a.length:Int) a.length) <|
 oC c <|
 oC d <|
 U c <|
 U d <|
 Y ((jJ (e:=qk) 1 g b),((jJ (e:=qk) 1 (a.length:Int) a),(p,(q,(c,(d,(l.1,((t.1,(t.2.1,(t.2.2.1,()))),())))))))))):T ((wB×wB×(Int×Bool×z7×z7×Unit)×(Int×Bool×z7×z7×Unit)×wB×wB×Term))) λ(u,v,h,i,j,f,k) =>
 X (iL (k.2.1.1,(k.2.1.2.1,(k.2.1.2.2.1,())))) λw =>
 V (!w)
  (oA f 64 <|
 oC j <|
 .W (zp (f.length+1) 0 (f.length+1) (f++[k]).length) <|
 U j <|
 .W ((f.length+1)=(f++[k]).length) <|
 Y (zG (u,(v,((h.1,(h.2.1,(h.2.2.1,(h.2.2.2.1,())))),((i.1,(i.2.1,(i.2.2.1,(i.2.2.2.1,())))),(j,(f++[k]))))))))
  (oC j <|
 oC f <|
 U j <|
 U f <|
 Y (zG (u,(v,((h.1,(h.2.1,(h.2.2.1,(h.2.2.2.1,())))),((i.1,(i.2.1,(i.2.2.1,(i.2.2.2.1,())))),(j,f))))))))
  (oC c <|
 oC d <|
 U c <|
 U d <|
 Y (zF (p,(q,(c,d)))))
def WL(s:(wB×wB×(Int×Bool×z7×z7×Unit)×(Int×Bool×z7×z7×Unit)×wB×wB)):T (((Int×Bool×z7×z7×Unit)×(Int×Bool×z7×z7×Unit)×wB×wB)):=zJ (WM ) s
def XE(d:vK)(e:vK):T vK :=
 X (oQ d.2.2.1 e.2.2.1) λb =>
 .W (zp 0 0 0 0) <|
 oZ <|
 .W (0=0) <|
 X (WL  (d.2.1,(e.2.1,((0,(false,([],([],())))),((d.1,(b.1,(b.2.1,(b.2.2.1,())))),([],[])))))) λ(f,a,g,c) =>
 U c <|
 Y (a.1,((zH 0 (zI (0+c.length) c)),((a.2.1,(a.2.2.1,(a.2.2.2.1,()))),())))
def sU(d:Rat)(e:Rat):T (Rat×Bool) :=
 X (vF e) λa =>
 V ((a.2.1.length:Int)==0)
  (X (yW 0) λb =>
 Y (b,false))
  (X (oR d (a.1,(a.2.2.1,(a.2.1,())))) λc =>
 Y (c,true))
def Zk(c:Int)(a:vK)(b:vK):T (vK×Int) :=
 V (c==3)
  (X (XE a b) λd =>
 Y (d,0))
  (V (c==4)
  (X (yW (-1)) λe =>
 X (dF b e) λf =>
 X (XE a f) λg =>
 Y (g,0))
  (V (c==5)
  (V ((zA (0<(a.2.1.length:Int)))&&(zA (0<(b.2.1.length:Int))))
  (Y (((0:Int),(([]:List Term),((false,(([]:List Int),(([]:List Int),()))),()))),6))
  (V (zA (0<(a.2.1.length:Int)))
  (X (dF a b.2.2.1) λh =>
 Y (h,0))
  (X (dF b a.2.2.1) λi =>
 Y (i,0))))
  (X (yW 1) λj =>
 X (sU j b.2.2.1) λ(k,l) =>
 V (zA (0<(b.2.1.length:Int)))
  (Y (((0:Int),(([]:List Term),((false,(([]:List Int),(([]:List Int),()))),()))),6))
  (V (!l)
  (Y (((0:Int),(([]:List Term),((false,(([]:List Int),(([]:List Int),()))),()))),7))
  (X (dF a k) λm =>
 Y (m,0))))))
def dG(g:AM.Expr->wk->T (vK×Int))(a:AM.Expr)(c:wk):T (vK×Int) :=
 V ((Expr.kind a)==1)
  (X (vF (Expr.num a)) λb =>
 Y (((0:Int),(([]:List Term),((b.1,(b.2.1,(b.2.2.1,()))),()))),0))
  (V ((Expr.kind a)==2)
  (X (XG (Expr.name a) c) λ(h,i) =>
 Y (h,i))
  (oI 0 (Expr.kids a) <|
 X (g (nth (Expr.kids a) 0 (zb .expr)) c) λ(d,e) =>
 V (e != 0)
  (Y (((0:Int),(([]:List Term),((false,(([]:List Int),(([]:List Int),()))),()))),e))
  (V ((Expr.kind a)==7)
  (X (yW (-1)) λj =>
 X (dF d j) λk =>
 Y (k,0))
  (oI 1 (Expr.kids a) <|
 X (g (nth (Expr.kids a) 1 (zb .expr)) c) λ(l,f) =>
 V (f != 0)
  (Y (((0:Int),(([]:List Term),((false,(([]:List Int),(([]:List Int),()))),()))),f))
  (X (Zk (Expr.kind a) d l) λ(m,n) =>
 Y (m,n))))))
def Kh(e:AM.Expr)(v:wk):T (vK×Int):=T.fix (λF x=>dG (λy0 y1=>F (y0,y1)) x.1 x.2) (e,v)
def KO(a:AM.Expr)(e:wk):T (vK×Int) :=
 X (ij a) λb =>
 V (!b)
  (Y (((0:Int),(([]:List Term),((false,(([]:List Int),(([]:List Int),()))),()))),5))
  (X (Kh a e) λ(c,d) =>
 Y (c,d))
def Zz(b:dZ)(g:wk):T (vK×Int) :=
 X (KO b.2.2.2.1 g) λ(c,d) =>
 V (d != 0)
  (Y (c,d))
  (X (KO b.2.2.2.2.1 g) λ(e,f) =>
 V (f != 0)
  (Y (e,f))
  (X (yW (-1)) λh =>
 X (dF e h) λi =>
 X (XE c i) λa =>
 Y ((b.2.1,(a.2.1,((a.2.2.1.1,(a.2.2.1.2.1,(a.2.2.1.2.2.1,()))),()))),0)))
def gS(b:Term):T Bool :=
 X (cz b.2.1) λa =>
 Y a
def yl(b:wB)(d:Term->T Bool)(e:Int):Int->T (Int⊕(Unit⊕Int))
 | a =>
 V (zA (a<e))
  (oI a b <|
 X (d (nth b a (zb qk))) λc =>
 V c
  (Y (zF (zF a)))
  (Y (zG (qi (a+1)))))
  (Y (zF (zG ())))
def pc s1 f x s:=zJ (yl s1 f x) s
def kt(a:wB)(c:Term->T Bool):T Int :=
 X (pc a c (a.length:Int) 0) <|
 zK (λ_ =>
 Y (-1))
  (λb =>
 Y b)
def vZ(b:wB)(c:Term->T Bool):T Bool :=
 X (kt b c) λa =>
 Y (zA (0<=a))
def Zy(a:vK):T Bool :=
 X (cz a.2.2.1) λb =>
 V b
  (Y true)
  (X (vZ a.2.1 (λc=>gS c)) λd =>
 Y d)
def fY(i:zr)(j:Form)(e:xa)(k:Int):(Int×Unit×Unit×wk×zy×z7)->T ((Int×Unit×Unit×wk×zy×z7)⊕((Unit×Unit×wk×zy×z7)⊕(zx×Int×Unit×Unit×wk×zy×z7)))
 | (c,l,m,d,a,b) =>
 V (zA (c<k))
  (oI c e <|
 X (XN j i (nth e c (zb xl)).2.2.1) λh =>
 V (!h)
  (oC a <|
 oC b <|
 U a <|
 U b <|
 Y (zG ((qi (c+1)),((),((),(d,(a,b)))))))
  (X (Zz (nth e c (zb xl)) d) λ(f,g) =>
 V (g != 0)
  (oC a <|
 oC b <|
 U a <|
 U b <|
 Y (zF (zF ((nth e c (zb xl)).1,(g,((),((),(d,(a,b)))))))))
  (oA a 88 <|
 oA b 8 <|
 .W (zp (a.length+1) 0 (a.length+1) (a++[f]).length) <|
 .W (zp (b.length+1) 0 (b.length+1) (b++[c]).length) <|
 .W ((a.length+1)=(a++[f]).length) <|
 .W ((b.length+1)=(b++[c]).length) <|
 Y (zG ((qi (c+1)),((),((),(d,((a++[f]),(b++[c]))))))))))
  (oC a <|
 oC b <|
 U a <|
 U b <|
 Y (zF (zG ((),((),(d,(a,b)))))))
def pZ on1 f1 x1 x2 s:=zJ (fY on1 f1 x1 x2) s
def fZ(f:Form)(h:Int):(Int×Unit×Unit×wk×zy×z7)->T ((Int×Unit×Unit×wk×zy×z7)⊕((Unit×Unit×wk×zy×z7)⊕(zx×Int×Unit×Unit×wk×zy×z7)))
 | (c,i,j,e,a,b)=>let d:=0+(zE c);
 V (zA (c<h))
  (oI c a <|
 .W (uO a.length a.length d a.length) <|
 X (Zy (wj a d (zb zt))) λg =>
 V g
  (oI c b <|
 .W (uO b.length b.length d b.length) <|
 oI (wj b d (zb (.int .i64))) f.2.2.2.2.1 <|
 oC a <|
 oC b <|
 U a <|
 U b <|
 Y (zF (zF ((nth f.2.2.2.2.1 (wj b d (zb (.int .i64))) (zb xl)).1,(8,((),((),(e,(a,b)))))))))
  (oC a <|
 oC a <|
 oC b <|
 U a <|
 U b <|
 Y (zG ((qi (c+1)),((),((),(e,(a,b))))))))
  (oC a <|
 oC b <|
 U a <|
 U b <|
 Y (zF (zG ((),((),(e,(a,b)))))))
def r7 f2 x6 s:=zJ (fZ f2 x6) s
def mT(a:Form)(f:zu)(h:zr):T (Unit×zx×Int×zy×z7) :=
 X (fI a) λ(g,i) =>
 V (g != 0)
  (.W (zp 0 0 0 0) <|
 oZ <|
 .W (0=0) <|
 Y ((),(i,(g,([],[])))))
  (X (V ((f.length:Int) != (a.2.1.length:Int))
  (Y (true,()))
  (V ((h.length:Int) != (a.1.length:Int))
  (Y (true,()))
  (X (vx f (λj=>bT j)) λk =>
 Y (k,()))):T ((Bool×Unit))) λ(l,s) =>
 V l
  (.W (zp 0 0 0 0) <|
 oZ <|
 .W (0=0) <|
 Y ((),([],(1,([],[])))))
  (X (r8 a f) λm =>
 .W (zp 0 0 0 0) <|
 oZ <|
 .W (0=0) <|
 X (pZ h a a.2.2.2.2.1 (a.2.2.2.2.1.length:Int) (0,((),((),(m,([],[])))))) <|
 zK (λ(t,u,n,b,c) =>
 oC b <|
 oC b <|
 oC c <|
 U b <|
 U c <|
 X (r7 a (b.length:Int) (0,((),((),(n,(b,c)))))) <|
 zK (λ(v,w,x,d,e) =>
 oC d <|
 oC e <|
 U d <|
 U e <|
 Y ((),([],(0,(d,e)))))
  (λ(o,p,y,z,A,hI,C) =>
 .W (zp 0 0 0 0) <|
 oZ <|
 .W (0=0) <|
 Y ((),(o,(p,([],[]))))))
  (λ(q,r,D,κ',G,H,hb) =>
 .W (zp 0 0 0 0) <|
 oZ <|
 .W (0=0) <|
 Y ((),(q,(r,([],[])))))))
def Vh(c:Bool)(a:Rat):T Rat :=
 X (V c
  (Y (((zA (0<(a.2.1.length:Int))),(a.2.1,(a.2.2.1,()))),(false,(([]:List Int),(([]:List Int),())))))
  (Y ((false,(a.2.1,(a.2.2.1,()))),(false,(([]:List Int),(([]:List Int),()))))):T ((Rat×Rat))) λ(b,d) =>
 Y b
def Q3(c:Rat):T Rat :=
 X (vF c) λa =>
 X (Vh (!a.1) a) λb =>
 Y b
def C8(c:Int)(d:Rat):T vK :=
 X (yW 1) λa =>
 X (Q3 d) λb =>
 Y ((1:Int),(([(c,((a.1,(a.2.1,(a.2.2.1,()))),()))]:List Term),((b.1,(b.2.1,(b.2.2.1,()))),())))
def kP(h:Int)(i:Rat)(f:Int)(a:(qc×qg×xc×qo×xa×qq×Unit))(b:zy)(c:z7)(d:z7):T ((qc×qg×xc×qo×xa×qq×Unit)×zy×z7×z7) :=
 let g:=d++([(qi ((a.2.2.2.2.1.length:Int)+h))]:List Int);  X (C8 h i) λe =>
 oA b 88 <|
 oA c 8 <|
 oA d 8 <|
 .W (zp (b.length+1) 0 (b.length+1) (b++[e]).length) <|
 .W (zp (c.length+1) 0 (c.length+1) (c++[f]).length) <|
 .W (zp (d.length+1) 0 (d.length+1) g.length) <|
 .W ((b.length+1)=(b++[e]).length) <|
 .W ((c.length+1)=(c++[f]).length) <|
 .W ((d.length+1)=g.length) <|
 Y ((a.1,(a.2.1,(a.2.2.1,(a.2.2.2.1,(a.2.2.2.2.1,(a.2.2.2.2.2.1,())))))),((b++[e]),((c++[f]),g)))
def pW(g:qe)(i:Int):(Int×zy×z7×Unit×(qc×qg×xc×qo×xa×qq×Unit)×z7)->T ((Int×zy×z7×Unit×(qc×qg×xc×qo×xa×qq×Unit)×z7)⊕((zy×z7×Unit×(qc×qg×xc×qo×xa×qq×Unit)×z7)))
 | (c,d,a,j,e,b)=>let h:=(e.1,(e.2.1,(e.2.2.1,(e.2.2.2.1,(e.2.2.2.2.1,(e.2.2.2.2.2.1,())))))); let f:=b++([(nth g.2.2.2.1 (wj a (0+(zE c)) (zb (.int .i64))) (zb (.int .i64)))]:List Int);
 V (zA (c<i))
  (oI c a <|
 .W (uO a.length a.length (0+(zE c)) a.length) <|
 oI (wj a (0+(zE c)) (zb (.int .i64))) g.2.2.2.1 <|
 oA b 8 <|
 oC a <|
 U d <|
 U a <|
 oC d <|
 .W (zp (b.length+1) 0 (b.length+1) f.length) <|
 oC a <|
 .W ((b.length+1)=f.length) <|
 Y (zG ((qi (c+1)),(d,(a,((),(h,f)))))))
  (U d <|
 U a <|
 oC d <|
 oC b <|
 oC a <|
 U b <|
 Y (zF (d,(a,((),(h,b))))))
def QR d1 x s:=zJ (pW d1 x) s
def pX(l:zq)(m:Int):(Int×zy×z7×Unit×(qc×qg×xc×qo×xa×qq×Unit)×z7)->T ((Int×zy×z7×Unit×(qc×qg×xc×qo×xa×qq×Unit)×z7)⊕((zy×z7×Unit×(qc×qg×xc×qo×xa×qq×Unit)×z7)))
 | (d,a,b,n,f,c)=>let g:=nth l d (zb zn); let k:=(f.1,(f.2.1,(f.2.2.1,(f.2.2.2.1,(f.2.2.2.2.1,(f.2.2.2.2.2.1,()))))));
 V (zA (d<m))
  (oI d l <|
 V (!g.1)
  (U a <|
 U b <|
 oC a <|
 oC c <|
 oC b <|
 U c <|
 Y (zG ((qi (d+1)),(a,(b,((),(k,c)))))))
  (oC a <|
 oC c <|
 oC b <|
 U a <|
 U c <|
 U b <|
 X (kP d (g.2.2.1.1,(g.2.2.1.2.1,(g.2.2.1.2.2.1,()))) (bif g.2.1 then d else(-1)) k a c b) λ(e,h,i,j) =>
 U h <|
 U j <|
 oC h <|
 oC i <|
 oC j <|
 U i <|
 Y (zG ((qi (d+1)),(h,(j,((),((e.1,(e.2.1,(e.2.2.1,(e.2.2.2.1,(e.2.2.2.2.1,(e.2.2.2.2.2.1,())))))),i))))))))
  (U a <|
 U b <|
 oC a <|
 oC c <|
 oC b <|
 U c <|
 Y (zF (a,(b,((),(k,c))))))
def QS x2 x3 s:=zJ (pX x2 x3) s
def cZ(a:Form)(d:qe):T ((Int×(qc×qg×xc×qo×xa×qq×Unit)×zy×z7×z7)⊕(zo×Int)) :=
 X (QT a d) λo =>
 V (!o)
  (Y (zF ([],1)))
  (X (mT a d.1 d.2.1) λ(p,n,f,g,e) =>
 V ((f != 0)&&(!(wL n [])))
  (Y (zF ([n],f)))
  (V (f != 0)
  (Y (zF ([],f)))
  (oC e <|
 U g <|
 U e <|
 oC g <|
 .W (zp 0 0 0 0) <|
 oC e <|
 .W (0=0) <|
 X (QR d (e.length:Int) (0,(g,(e,((),((a.1,(a.2.1,(a.2.2.1,(a.2.2.2.1,(a.2.2.2.2.1,(a.2.2.2.2.2.1,())))))),[])))))) λ(h,i,q,b,j) =>
 U h <|
 U i <|
 oC h <|
 oC j <|
 oC i <|
 U j <|
 X (QS d.2.2.2.2.1 (d.2.2.2.2.1.length:Int) (0,(h,(i,((),((b.1,(b.2.1,(b.2.2.1,(b.2.2.2.1,(b.2.2.2.2.1,(b.2.2.2.2.2.1,())))))),j)))))) λ(k,l,r,c,m) =>
 oC k <|
 oC m <|
 oC l <|
 U k <|
 U m <|
 U l <|
 Y (zG (0,((c.1,(c.2.1,(c.2.2.1,(c.2.2.2.1,(c.2.2.2.2.1,(c.2.2.2.2.2.1,())))))),(k,(m,l))))))))
def pe(h:Int)(c:wB)(i:Int):(Int×Int)->T ((Int×Int)⊕(Unit⊕Bool))
 | (g,b)=>let a:=nth c b (zb qk);
 V (zA (b<i))
  (oI b c <|
 X (V (zA (a.1<g))
  (Y (true,a))
  (V (zA (h<=a.1))
  (Y (true,a))
  (X (tz (a.2.1.1,(a.2.1.2.1,(a.2.1.2.2.1,())))) λd =>
 V (!d)
  (Y (true,a))
  (Y (((a.2.1.2.1.length:Int)==0),a)))):T ((Bool×Term))) λ(e,f) =>
 V e
  (Y (zF (zF false)))
  (Y (zG ((qi (f.1+1)),(qi (b+1))))))
  (Y (zF (zG ())))
def tH n1 x1 x2 s:=zJ (pe n1 x1 x2) s
def cW(a:vK)(e:Int):T Bool :=
 X (V (zA (a.1<(0:Int)))
  (Y true)
  (V (zA ((4:Int)<a.1))
  (Y true)
  (X (tz a.2.2.1) λb =>
 Y (!b))):T Bool) λc =>
 V c
  (Y false)
  (X (tH e a.2.1 (a.2.1.length:Int) (0,0)) <|
 zK (λ_ =>
 Y true)
  (λd =>
 Y d))
def yS(b:vK)(c:Int):T Bool :=
 X (cW b c) λa =>
 Y (!a)
def dB(b:zy)(d:vK->T Bool)(e:Int):Int->T (Int⊕(Unit⊕Int))
 | a =>
 V (zA (a<e))
  (oI a b <|
 X (d (nth b a (zb zt))) λc =>
 V c
  (Y (zF (zF a)))
  (Y (zG (qi (a+1)))))
  (Y (zF (zG ())))
def se s1 f x s:=zJ (dB s1 f x) s
def bC(a:zy)(c:vK->T Bool):T Int :=
 X (se a c (a.length:Int) 0) <|
 zK (λ_ =>
 Y (-1))
  (λb =>
 Y b)
def yQ(b:zy)(c:vK->T Bool):T Bool :=
 X (bC b c) λa =>
 Y (zA (0<=a))
def cD  : ((Nat×Nat)×Int×z7)->T (((Nat×Nat)×Int×z7)⊕((Int×z7)))
 | (b,c,a)=>let d:=b.1+(zE c); let e:=wj a d (zb (.int .i64)); let f:=zL a d (wj a (b.1+(zE e)) (zb (.int .i64)));
 .W (xe c b.2) <|
 .W (uO a.length a.length d a.length) <|
 V (e != c)
  (.W (xe c b.2) <|
 .W (uO a.length a.length d a.length) <|
 .W (xe e b.2) <|
 .W (uO a.length a.length (b.1+(zE e)) a.length) <|
 .W (xe c b.2) <|
 .W (uO a.length a.length d a.length) <|
 .W (xe c b.2) <|
 .W (uO a.length a.length d f.length) <|
 U a <|
 .W (a.length=f.length) <|
 Y (zG (b,((wj f d (zb (.int .i64))),f))))
  (U a <|
 Y (zF (c,a)))
def lr(s:((Nat×Nat)×Int×z7)):T ((Int×z7)):=zJ (cD ) s
def yK(d:(Nat×Nat))(e:Int)(a:z7):T (Int×z7) :=
 U a <|
 U a <|
 X (lr  (d,(e,a))) λ(c,b) =>
 U b <|
 Y (c,b)
def ba(c:(Nat×Nat))(g:Int)(h:Int)(e:z7):T (Bool×z7) :=
 U e <|
 U e <|
 X (yK c g e) λ(a,f) =>
 .W (e.length=f.length) <|
 U f <|
 X (yK c h f) λ(b,d) =>
 .W (xe (lh a b) c.2) <|
 .W (uO e.length d.length (c.1+(zE (lh a b))) d.length) <|
 .W (d.length=(zL d (c.1+(zE (lh a b))) (ZP a b)).length) <|
 Y ((a != b),(zL d (c.1+(zE (lh a b))) (ZP a b)))
def nS(d:zy)(e:Int)(c:Int):(Int×z7)->T ((Int×z7)⊕z7)
 | (b,a) =>
 V (zA (b<c))
  (oI b a <|
 .W (uO a.length a.length (0+(zE b)) a.length) <|
 oM a.length (zL a (0+(zE b)) b).length <|
 Y (zG ((qi (b+1)),(zL a (0+(zE b)) b))))
  (oC a <|
 U a <|
 Y (zF a))
def nQ l1 n1 x s:=zJ (nS l1 n1 x) s
def eG(k:Int)(j:Int)(l:zy)(m:Int)(n:Int):(Int×Int×z7×vK)->T ((Int×Int×z7×vK)⊕((Int×z7×vK)))
 | (f,e,a,b) =>
 V (zA (e<(b.2.1.length:Int)))
  (X (oI 0 b.2.1 <|
 oI e b.2.1 <|
 U a <|
 U a <|
 X (ba (0,a.length) (nth b.2.1 0 (zb qk)).1 (nth b.2.1 e (zb qk)).1 a) λ(h,c) =>
 V (!h)
  (.W (zp a.length 0 a.length c.length) <|
 U c <|
 Y ((zA (f<0)),(c,b)))
  (.W (zp a.length 0 a.length c.length) <|
 U c <|
 Y (false,(c,b))):T ((Bool×z7×vK))) λ(i,d,g) =>
 V i
  (oC d <|
 U d <|
 Y (zG (j,((qi (e+1)),(d,g)))))
  (oC d <|
 U d <|
 Y (zG (f,((qi (e+1)),(d,g))))))
  (oC a <|
 U a <|
 Y (zF (f,(a,b))))
def nR n3 i x5 x6 x7 s:=zJ (eG n3 i x5 x6 x7) s
def nT(f:Int)(c:zy)(g:Int):(Int×Int×z7)->T ((Int×Int×z7)⊕((Int×z7)))
 | (e,b,a) =>
 V (zA (b<g))
  (oI b c <|
 X (cW (nth c b (zb zt)) f) λh =>
 V (!h)
  (oC a <|
 U a <|
 Y (zG (e,((qi (b+1)),a))))
  (oC a <|
 U a <|
 X (nR f b c g b (e,(1,(a,(nth c b (zb zt)))))) λ(i,d,j) =>
 oC d <|
 U d <|
 Y (zG (i,((qi (b+1)),d)))))
  (oC a <|
 U a <|
 Y (zF (e,a)))
def Qq n2 x2 x3 s:=zJ (nT n2 x2 x3) s
def ZJ(d:zy)(f:Int):T (z7×Int) :=
 let a:=ZP (lh f 0) 64;  .W (eC a a 8) <|
 oM (zE a) (zM (zE a) (0:Int)).length <|
 X (nQ d a (zN (zE a):Int) (0,(zM (zE a) 0))) λb =>
 oC b <|
 U b <|
 X (Qq a d (d.length:Int) ((-1),(0,b))) λ(e,c) =>
 U c <|
 Y ((zH 0 (zI (0+c.length) c)),e)
def mY(b:zy)(c:Int):T Int :=
 X (ZJ b c) λ(d,a) =>
 Y a
def uR(a:z7):T z7 :=
 .W (a=[]->∀ r,T.leads (.W (vV 0 0 0 0 0 a.length 8) <|
 .W (zp (0+a.length) 0 (0+a.length) a.length) <|
 .W ((0+a.length)=a.length) <|
 Y a:T _) r->T.leads (.W (zp 0 0 0 0) <|
 .W (0=0) <|
 Y []:T _) r) <|
 .W (vV 0 0 0 0 0 a.length 8) <|
 oM (0+a.length) a.length <|
 Y a
def nW(a:Int)(b:Int):T (Int×Int) :=
 let c:=wi ((wi ((jk .u64 a 32)*(GM .u64 b 4294967295)))+(jk .u64 (wi ((GM .u64 a 4294967295)*(GM .u64 b 4294967295))) 32));  .W (0<=(32:Int)) <|
 .W (0<=(32:Int)) <|
 .W (0<=(32:Int)) <|
 .W (0<=(32:Int)) <|
 .W (0<=(32:Int)) <|
 Y ((wi ((wi ((wi ((jk .u64 a 32)*(jk .u64 b 32)))+(jk .u64 c 32)))+(jk .u64 (wi ((GM .u64 c 4294967295)+(wi ((GM .u64 a 4294967295)*(jk .u64 b 32))))) 32))),(wi (a*b)))
def mJ(c:Int)(d:Int):T (Int×Int) :=
 X (nW c d) λ(a,b) =>
 Y (a,b)
def gu  : (Int×z7)->T ((Int×z7)⊕z7)
 | (b,a)=>let c:=(zE (a.length:Int))-(zE b); let d:=zH (0+(zE 0)) (zI ((0+(zE 0))+((zE b)-(zE 0))) a);
 V (zA (b<(a.length:Int)))
  (.W (jA b (a.length:Int) a.length) <|
 .W (jA 0 b a.length) <|
 U a <|
 .W (QN a.length a.length (0+(zE b)) c a.length) <|
 oM a.length (yr (0+(zE b)) c a d).length <|
 Y (zG ((qi (b+(zN (CD c d.length):Int))),(yr (0+(zE b)) c a d))))
  (oC a <|
 U a <|
 Y (zF a))
def dY(s:(Int×z7)):T z7:=zJ (gu ) s
def yp(c:z7)(e:Int):T z7 :=
 V (zA (e<0))
  (.fail)
  (X (mJ (wi (c.length:Int)) (wi e)) λ(f,b)=>let a:=zE (qi b);
 V ((zA (0<f))||(zA (9223372036854775807<b)))
  (.fail)
  (.W (eC (qi b) (qi b) 8) <|
 .W (QN a a 0 a (zM a (0:Int)).length) <|
 oM a (yr 0 a (zM a 0) c).length <|
 X (dY  ((zN (CD a c.length):Int),(yr 0 a (zM a 0) c))) λd =>
 oC d <|
 U d <|
 Y d))
def bQ(a:Term)(b:Int):T Bool :=
 Y (a.1==b)
def XJ(c:vK)(d:Int):T Bool :=
 X (vZ c.2.1 (λa=>bQ a d)) λb =>
 Y b
def oG(b:zy)(c:Int):T Bool :=
 X (mY b c) λa =>
 Y (zA (a<0))
def fN(r:zy)(k:z7)(o:Int)(h:zy)(p:Int):(Int×z7×z7×(zy×Unit))->T ((Int×z7×z7×(zy×Unit))⊕((z7×z7×(zy×Unit))⊕(Bool×z7×z7×(zy×Unit))))
 | (d,b,a,g)=>let i:=nth k d (zb (.int .i64)); let f:=0+(zE i);
 V (zA (d<p))
  (oI d h <|
 X (cW (nth h d (zb zt)) o) λl =>
 V (!l)
  (U b <|
 U a <|
 oC b <|
 oC a <|
 Y (zF (zF (false,(b,(a,(g.1,())))))))
  (oI d k <|
 V (i==(-1))
  (U b <|
 U a <|
 oC b <|
 oC a <|
 Y (zG ((qi (d+1)),(b,(a,(g.1,()))))))
  (X (X (XJ (nth h d (zb zt)) i) λm =>
 V (!m)
  (U b <|
 U a <|
 oC b <|
 oC a <|
 Y (true,(b,(a,((g.1,()),(nth h d (zb zt)))))))
  (oI i a <|
 .W (uO a.length a.length f a.length) <|
 U b <|
 U a <|
 oC b <|
 oC a <|
 Y (((wj a f (zb (.int .i64))) != (-1)),(b,(a,((g.1,()),(nth h d (zb zt))))))):T ((Bool×z7×z7×(zy×Unit)×vK))) λ(n,e,c,j,q) =>
 V n
  (U e <|
 U c <|
 oC e <|
 oC c <|
 Y (zF (zF (false,(e,(c,(j.1,())))))))
  (oI i c <|
 .W (uO c.length c.length f c.length) <|
 U e <|
 .W (c.length=(zL c f d).length) <|
 oC e <|
 .W (zp c.length 0 c.length (zL c f d).length) <|
 Y (zG ((qi (d+1)),(e,((zL c f d),(j.1,())))))))))
  (U b <|
 U a <|
 oC b <|
 oC a <|
 Y (zF (zG (b,(a,(g.1,()))))))
def sE l1 outs1 n1 x x1 s:=zJ (fN l1 outs1 n1 x x1) s
def bn(a:zy)(g:z7)(b:Int):T ((Bool×(zy×Unit)×z7×z7)⊕Bool) :=
 V ((zA (b<1))||((zA (64<b))||((zA (256<(a.length:Int)))||((g.length:Int) != (a.length:Int)))))
  (Y (zF false))
  (X (uR g) λc =>
 X (yp ([(-1)]:List Int) b) λd =>
 U c <|
 U d <|
 oC c <|
 oC d <|
 X (sE a g b a (a.length:Int) (0,(c,(d,(a,()))))) <|
 zK (λ(e,f,h) =>
 X (oG a b) λi =>
 oC e <|
 oC f <|
 U e <|
 U f <|
 Y (zG (i,((h.1,()),(e,f)))))
  (λ(j,k,l,m) =>
 Y (zF j)))
def y7(a:z7):T z7 :=
 let b:=0+a.length;  .W (a=[]->∀ r,T.leads (.W (vV 0 0 0 0 0 a.length 8) <|
 .W (b=b) <|
 Y (zH 0 (zI (0+b) a)):T _) r->T.leads (Y []:T _) r) <|
 .W (vV 0 0 0 0 0 a.length 8) <|
 .W (b=b) <|
 Y (zH 0 (zI (0+b) a))
def cmp_isNaN_int(a:Int):T Bool :=
 Y (a != a)
def cmp_Compare_int(a:Int)(b:Int):T Int :=
 X (cmp_isNaN_int a) λd =>
 X (cmp_isNaN_int b) λc =>
 V d
  (V c
  (Y 0)
  (Y (-1)))
  (V c
  (Y 1)
  (V (zA (a<b))
  (Y (-1))
  (V (zA (b<a))
  (Y 1)
  (Y 0))))
def wu(b:Int)(c:Int)(a:zy):T Int :=
 oI b a <|
 oI c a <|
 X (cmp_Compare_int (nth a b (zb zt)).1 (nth a c (zb zt)).1) λd =>
 Y d
def uK(l:Int)(n:Int)(m:Int->Int->T Int)(o:Int):((Nat×Nat)×Int×z7)->T (((Nat×Nat)×Int×z7)⊕(((Nat×Nat)×z7)))
 | (d,e,b)=>let f:=qi (e-1);
 X (V (zA (l<e))
  (.W (xe e d.2) <|
 .W (uO b.length b.length (d.1+(zE e)) b.length) <|
 .W (xe f d.2) <|
 .W (uO b.length b.length (d.1+(zE f)) b.length) <|
 X (m (wj b (d.1+(zE e)) (zb (.int .i64))) (wj b (d.1+(zE f)) (zb (.int .i64)))) λj =>
 U b <|
 U b <|
 Y (d,((zA (j<0)),b)))
  (U b <|
 U b <|
 Y (d,(false,b))):T (((Nat×Nat)×Bool×z7))) λ(c,k,a)=>let g:=c.1+(zE e); let h:=c.1+(zE f); let i:=zL a g (wj a h (zb (.int .i64)));
 V k
  (.W (xe f c.2) <|
 .W (uO a.length a.length h a.length) <|
 .W (xe e c.2) <|
 .W (uO a.length a.length g a.length) <|
 .W (xe e c.2) <|
 .W (uO a.length a.length g a.length) <|
 .W (xe f c.2) <|
 .W (uO a.length a.length h i.length) <|
 U a <|
 .W (a.length=(zL i h (wj a g (zb (.int .i64)))).length) <|
 Y (zG (c,(f,(zL i h (wj a g (zb (.int .i64))))))))
  (U a <|
 U a <|
 Y (zF (c,a)))
def uI a2 b2 cmp i1 s:=zJ (uK a2 b2 cmp i1) s
def uJ(g:Int)(d:Int)(h:Int->Int->T Int):((Nat×Nat)×Int×z7)->T (((Nat×Nat)×Int×z7)⊕z7)
 | (f,b,a) =>
 V (zA (b<d))
  (U a <|
 U a <|
 X (uI g d h b (f,(b,a))) λ(e,c) =>
 U c <|
 U c <|
 Y (zG (e,((qi (b+1)),c))))
  (U a <|
 Y (zF a))
def y9 a1 b1 cmp s:=zJ (uJ a1 b1 cmp) s
def va(d:(Nat×Nat))(c:Int)(e:Int)(f:Int->Int->T Int)(a:z7):T z7 :=
 U a <|
 U a <|
 X (y9 c e f (d,((qi (c+1)),a))) λb =>
 U b <|
 Y b
def jt(f:Int)(g:Int)(i:Int):((Nat×Nat)×Int×z7)->T (((Nat×Nat)×Int×z7)⊕z7)
 | (c,b,a)=>let d:=c.1+(zE (qi (g+b))); let e:=c.1+(zE (qi (f+b))); let h:=zL a e (wj a d (zb (.int .i64)));
 V (zA (b<i))
  (.W (xe (qi (g+b)) c.2) <|
 .W (uO a.length a.length d a.length) <|
 .W (xe (qi (f+b)) c.2) <|
 .W (uO a.length a.length e a.length) <|
 .W (xe (qi (f+b)) c.2) <|
 .W (uO a.length a.length e a.length) <|
 .W (xe (qi (g+b)) c.2) <|
 .W (uO a.length a.length d h.length) <|
 U a <|
 .W (a.length=(zL h d (wj a e (zb (.int .i64)))).length) <|
 Y (zG (c,((qi (b+1)),(zL h d (wj a e (zb (.int .i64))))))))
  (U a <|
 Y (zF a))
def gL a1 b1 n1 s:=zJ (jt a1 b1 n1) s
def wZ(c:(Nat×Nat))(d:Int)(e:Int)(f:Int)(g:Int->Int->T Int)(a:z7):T z7 :=
 U a <|
 U a <|
 X (gL d e f (c,(0,a))) λb =>
 U b <|
 Y b
def kG(e:Int)(h:Int->Int->T Int):((Nat×Nat)×Int×Int×z7)->T (((Nat×Nat)×Int×Int×z7)⊕(((Nat×Nat)×Int×z7)))
 | (d,b,c,a) =>
 V (b != c)
  (V (zA (c<b))
  (U a <|
 U a <|
 X (wZ d (qi (e-b)) e c h a) λf =>
 .W (a.length=f.length) <|
 U f <|
 Y (zG (d,((qi (b-c)),(c,f)))))
  (U a <|
 U a <|
 X (wZ d (qi (e-b)) (qi ((qi (e+c))-b)) b h a) λg =>
 .W (a.length=g.length) <|
 U g <|
 Y (zG (d,(b,((qi (c-b)),g))))))
  (U a <|
 U a <|
 Y (zF (d,(b,a))))
def kF m1 cmp s:=zJ (kG m1 cmp) s
def jr(h:(Nat×Nat))(i:Int)(a:Int)(j:Int)(f:Int->Int->T Int)(c:z7):T z7 :=
 U c <|
 U c <|
 X (kF a f (h,((qi (a-i)),((qi (j-a)),c)))) λ(g,d,b) =>
 U b <|
 U b <|
 X (wZ g (qi (a-d)) a d f b) λe =>
 U e <|
 Y e
def ug(i:(Nat×Nat)->Int->Int->Int->zy->z7->T z7)(f:Int)(h:zy):((Nat×Nat)×Int×Int×z7)->T (((Nat×Nat)×Int×Int×z7)⊕(((Nat×Nat)×Int×z7)))
 | (b,d,e,a)=>let c:=qi (jk .u64 (wi (qi (d+e))) 1);
 V (zA (d<e))
  (.W (0<=(1:Int)) <|
 .W (xe c b.2) <|
 .W (uO a.length a.length (b.1+(zE c)) a.length) <|
 .W (xe f b.2) <|
 .W (uO a.length a.length (b.1+(zE f)) a.length) <|
 X (wu (wj a (b.1+(zE c)) (zb (.int .i64))) (wj a (b.1+(zE f)) (zb (.int .i64))) h) λg =>
 V (zA (g<0))
  (U a <|
 U a <|
 Y (zG (b,((qi (c+1)),(e,a)))))
  (U a <|
 U a <|
 Y (zG (b,(d,(c,a))))))
  (U a <|
 U a <|
 Y (zF (b,(d,a))))
def ub self_slices_symMergeCmpFunc_int a1 cmp1 s:=zJ (ug self_slices_symMergeCmpFunc_int a1 cmp1) s
def uh(h:(Nat×Nat)->Int->Int->Int->zy->z7->T z7)(g:Int):((Nat×Nat)×Int×z7)->T (((Nat×Nat)×Int×z7)⊕z7)
 | (c,b,a)=>let d:=c.1+(zE b); let e:=c.1+(zE (qi (b+1))); let f:=zL a d (wj a e (zb (.int .i64)));
 V (zA (b<(qi (g-1))))
  (.W (xe (qi (b+1)) c.2) <|
 .W (uO a.length a.length e a.length) <|
 .W (xe b c.2) <|
 .W (uO a.length a.length d a.length) <|
 .W (xe b c.2) <|
 .W (uO a.length a.length d a.length) <|
 .W (xe (qi (b+1)) c.2) <|
 .W (uO a.length a.length e f.length) <|
 U a <|
 .W (a.length=(zL f e (wj a d (zb (.int .i64)))).length) <|
 Y (zG (c,((qi (b+1)),(zL f e (wj a d (zb (.int .i64))))))))
  (U a <|
 Y (zF a))
def uc self_slices_symMergeCmpFunc_int i2 s:=zJ (uh self_slices_symMergeCmpFunc_int i2) s
def ui(i:(Nat×Nat)->Int->Int->Int->zy->z7->T z7)(f:Int)(h:zy):((Nat×Nat)×Int×Int×z7)->T (((Nat×Nat)×Int×Int×z7)⊕(((Nat×Nat)×Int×z7)))
 | (b,d,e,a)=>let c:=qi (jk .u64 (wi (qi (d+e))) 1);
 V (zA (d<e))
  (.W (0<=(1:Int)) <|
 .W (xe f b.2) <|
 .W (uO a.length a.length (b.1+(zE f)) a.length) <|
 .W (xe c b.2) <|
 .W (uO a.length a.length (b.1+(zE c)) a.length) <|
 X (wu (wj a (b.1+(zE f)) (zb (.int .i64))) (wj a (b.1+(zE c)) (zb (.int .i64))) h) λg =>
 V (!(zA (g<0)))
  (U a <|
 U a <|
 Y (zG (b,((qi (c+1)),(e,a)))))
  (U a <|
 U a <|
 Y (zG (b,(d,(c,a))))))
  (U a <|
 U a <|
 Y (zF (b,(d,a))))
def ud self_slices_symMergeCmpFunc_int m1 cmp2 s:=zJ (ui self_slices_symMergeCmpFunc_int m1 cmp2) s
def uj(h:(Nat×Nat)->Int->Int->Int->zy->z7->T z7)(g:Int):((Nat×Nat)×Int×z7)->T (((Nat×Nat)×Int×z7)⊕z7)
 | (c,b,a)=>let d:=c.1+(zE b); let e:=c.1+(zE (qi (b-1))); let f:=zL a d (wj a e (zb (.int .i64)));
 V (zA (g<b))
  (.W (xe (qi (b-1)) c.2) <|
 .W (uO a.length a.length e a.length) <|
 .W (xe b c.2) <|
 .W (uO a.length a.length d a.length) <|
 .W (xe b c.2) <|
 .W (uO a.length a.length d a.length) <|
 .W (xe (qi (b-1)) c.2) <|
 .W (uO a.length a.length e f.length) <|
 U a <|
 .W (a.length=(zL f e (wj a d (zb (.int .i64)))).length) <|
 Y (zG (c,((qi (b-1)),(zL f e (wj a d (zb (.int .i64))))))))
  (U a <|
 Y (zF a))
def ue self_slices_symMergeCmpFunc_int i5 s:=zJ (uj self_slices_symMergeCmpFunc_int i5) s
def uk(i:(Nat×Nat)->Int->Int->Int->zy->z7->T z7)(j:Int)(k:Int)(l:Int)(h:zy)(m:Int)(n:Int)(f:Int):((Nat×Nat)×Int×Int×z7)->T (((Nat×Nat)×Int×Int×z7)⊕(((Nat×Nat)×Int×z7)))
 | (b,d,e,a)=>let c:=qi (jk .u64 (wi (qi (d+e))) 1);
 V (zA (d<e))
  (.W (0<=(1:Int)) <|
 .W (xe (qi (f-c)) b.2) <|
 .W (uO a.length a.length (b.1+(zE (qi (f-c)))) a.length) <|
 .W (xe c b.2) <|
 .W (uO a.length a.length (b.1+(zE c)) a.length) <|
 X (wu (wj a (b.1+(zE (qi (f-c)))) (zb (.int .i64))) (wj a (b.1+(zE c)) (zb (.int .i64))) h) λg =>
 V (!(zA (g<0)))
  (U a <|
 U a <|
 Y (zG (b,((qi (c+1)),(e,a)))))
  (U a <|
 U a <|
 Y (zG (b,(d,(c,a))))))
  (U a <|
 U a <|
 Y (zF (b,(d,a))))
def uf self_slices_symMergeCmpFunc_int a2 m2 b1 cmp3 mid n p s:=zJ (uk self_slices_symMergeCmpFunc_int a2 m2 b1 cmp3 mid n p) s
def vy(g:(Nat×Nat)->Int->Int->Int->zy->z7->T z7)(s:(Nat×Nat))(c:Int)(a:Int)(h:Int)(j:zy)(d:z7):T z7 :=
 let b:=qi (jk .u64 (wi (qi (c+h))) 1);  V ((qi (a-c))==1)
  (U d <|
 U d <|
 X (ub g c j (s,(a,(h,d)))) λ(w,x,m) =>
 U m <|
 U m <|
 X (uc g x (w,(c,m))) λt =>
 U t <|
 Y t)
  (V ((qi (h-a))==1)
  (U d <|
 U d <|
 X (ud g a j (s,(c,(a,d)))) λ(y,z,n) =>
 U n <|
 U n <|
 X (ue g z (y,(a,n))) λu =>
 U u <|
 Y u)
  (.W (0<=(1:Int)) <|
 U d <|
 U d <|
 X (uf g c a h j b (qi (b+a)) (qi ((qi (b+a))-1)) (s,((bif (zA (b<a))then(qi ((qi (b+a))-h))else c),((bif (zA (b<a))then b else a),d)))) λ(o,i,e)=>let l:=qi ((qi (b+a))-i);
 X (V ((zA (i<a))&&(zA (a<l)))
  (U e <|
 U e <|
 X (jr o i a l (λz0 z1=>wu z0 z1 j) e) λp =>
 .W (e.length=p.length) <|
 U p <|
 Y (o,p))
  (U e <|
 U e <|
 Y (o,e)):T (((Nat×Nat)×z7))) λ(q,f) =>
 X (V ((zA (c<i))&&(zA (i<b)))
  (U f <|
 U f <|
 X (g q c i b j f) λr =>
 .W (f.length=r.length) <|
 U r <|
 Y (q,r))
  (U f <|
 U f <|
 Y (q,f)):T (((Nat×Nat)×z7))) λ(A,k) =>
 V ((zA (b<l))&&(zA (l<h)))
  (U k <|
 U k <|
 X (g A b l h j k) λv =>
 U v <|
 Y v)
  (U k <|
 Y k)))
def vR(zea:(Nat×Nat))(a:Int)(m:Int)(b:Int)(cmp:zy)(data:z7):T z7:=T.fix (λF x=>vy (λy0 y1 y2 y3 y4 y5=>F (y0,y1,y2,y3,y4,y5)) x.1 x.2.1 x.2.2.1 x.2.2.2.1 x.2.2.2.2.1 x.2.2.2.2.2) (zea,a,m,b,cmp,data)
def kK(f:Int)(g:zy)(h:Int):((Nat×Nat)×Int×Int×z7)->T (((Nat×Nat)×Int×Int×z7)⊕(((Nat×Nat)×Int×z7)))
 | (d,e,b,a) =>
 V (zA (b<=f))
  (U a <|
 U a <|
 X (va d e b (λz0 z1=>wu z0 z1 g) a) λc =>
 .W (a.length=c.length) <|
 U c <|
 Y (zG (d,(b,((qi (b+h)),c)))))
  (U a <|
 U a <|
 Y (zF (d,(e,a))))
def kH n1 cmp1 blockSize s:=zJ (kK n1 cmp1 blockSize) s
def kM(g:Int)(h:zy)(f:Int):((Nat×Nat)×Int×Int×z7)->T (((Nat×Nat)×Int×Int×z7)⊕(((Nat×Nat)×Int×z7)))
 | (d,e,b,a) =>
 V (zA (b<=g))
  (U a <|
 U a <|
 X (vR d e (qi (e+f)) b h a) λc =>
 .W (a.length=c.length) <|
 U c <|
 Y (zG (d,(b,((qi (b+(qi (2*f)))),c)))))
  (U a <|
 U a <|
 Y (zF (d,(e,a))))
def kJ n3 cmp3 blockSize2 s:=zJ (kM n3 cmp3 blockSize2) s
def kL(d:Int)(h:zy):((Nat×Nat)×Int×z7)->T (((Nat×Nat)×Int×z7)⊕z7)
 | (i,b,c) =>
 V (zA (b<d))
  (U c <|
 U c <|
 X (kJ d h b (i,(0,((qi (2*b)),c)))) λ(e,f,a) =>
 V (zA ((qi (f+b))<d))
  (U a <|
 U a <|
 X (vR e f (qi (f+b)) d h a) λg =>
 .W (a.length=g.length) <|
 U g <|
 Y (zG (e,((qi (b*2)),g))))
  (U a <|
 U a <|
 Y (zG (e,((qi (b*2)),a)))))
  (U c <|
 Y (zF c))
def kI n2 cmp2 s:=zJ (kL n2 cmp2) s
def js(i:(Nat×Nat))(c:Int)(d:zy)(e:z7):T z7 :=
 U e <|
 U e <|
 X (kH c d 20 (i,(0,(20,e)))) λ(f,h,a) =>
 U a <|
 U a <|
 X (va f h c (λz0 z1=>wu z0 z1 d) a) λb =>
 .W (a.length=b.length) <|
 U b <|
 X (kI c d (f,(20,b))) λg =>
 U g <|
 Y g
def uz(c:(Nat×Nat))(d:zy)(a:z7):T z7 :=
 U a <|
 U a <|
 X (js c (zN c.2:Int) d a) λb =>
 U b <|
 Y b
def cf(b:z7)(c:z7)(d:Int):Int->T (Int⊕(Unit⊕Bool))
 | a =>
 V (zA (a<d))
  (oI a b <|
 oI a c <|
 V ((nth b a (zb (.int .i64))) != (nth c a (zb (.int .i64))))
  (Y (zF (zF false)))
  (Y (zG (qi (a+1)))))
  (Y (zF (zG ())))
def iZ s11 s21 x s:=zJ (cf s11 s21 x) s
def y8(a:z7)(b:z7):T Bool :=
 V ((a.length:Int) != (b.length:Int))
  (Y false)
  (X (iZ a b (a.length:Int) 0) <|
 zK (λ_ =>
 Y true)
  (λc =>
 Y c))
def kg(k:Int->(zy×Unit)->z7->z7->T (Int×(zy×Unit)×z7×z7))(l:Int)(h:wB)(m:Int):(Int×Int×(zy×Unit)×z7×z7)->T ((Int×Int×(zy×Unit)×z7×z7)⊕((Int×(zy×Unit)×z7×z7)))
 | (f,c,g,a,b) =>
 V (zA (c<m))
  (oI c h <|
 V ((nth h c (zb qk)).1 != l)
  (oC a <|
 oC b <|
 U a <|
 U b <|
 X (k (nth h c (zb qk)).1 (g.1,()) a b) λ(i,j,d,e) =>
 oC d <|
 oC e <|
 U d <|
 U e <|
 Y (zG ((lh f i),((qi (c+1)),((j.1,()),(d,e))))))
  (oC a <|
 oC b <|
 U a <|
 U b <|
 Y (zG (f,((qi (c+1)),((g.1,()),(a,b)))))))
  (oC a <|
 oC b <|
 U a <|
 U b <|
 Y (zF (f,((g.1,()),(a,b)))))
def gQ self_delta_choice_strong v1 x x1 s:=zJ (kg self_delta_choice_strong v1 x x1) s
def j5(j:Int->(zy×Unit)->z7->z7->T (Int×(zy×Unit)×z7×z7))(e:Int)(b:(zy×Unit))(c:z7)(a:z7):T (Int×(zy×Unit)×z7×z7) :=
 let d:=wj a (0+(zE e)) (zb (.int .i64));  oI e a <|
 .W (uO a.length a.length (0+(zE e)) a.length) <|
 V (d==(-1))
  (oC c <|
 oC a <|
 U c <|
 U a <|
 Y (4,((b.1,()),(c,a))))
  (oI d b.1 <|
 oI d b.1 <|
 oC c <|
 oC a <|
 U c <|
 U a <|
 X (gQ j e (nth b.1 d (zb zt)).2.1 (zN (zO (nth b.1 d (zb zt)).2.1):Int) ((nth b.1 d (zb zt)).1,(0,((b.1,()),(c,a))))) λ(h,i,f,g) =>
 oC f <|
 oC g <|
 U f <|
 U g <|
 Y (h,((i.1,()),(f,g))))
def jK(v:Int)(c:(zy×Unit))(xs:z7)(xs1:z7):T (Int×(zy×Unit)×z7×z7):=T.fix (λF x=>j5 (λy0 y1 y2 y3=>F (y0,y1,y2,y3)) x.1 x.2.1 x.2.2.1 x.2.2.2) (v,c,xs,xs1)
def gi(f:wB)(m:Int):(Int×Int×Int×(zy×Unit)×z7×z7×z7)->T ((Int×Int×Int×(zy×Unit)×z7×z7×z7)⊕((Int×(zy×Unit)×z7×z7×z7)))
 | (j,k,a,l,g,d,e) =>
 V (zA (a<m))
  (oI a f <|
 oC d <|
 oC e <|
 U d <|
 U e <|
 X (jK (nth f a (zb qk)).1 (l.1,()) d e) λ(h,i,b,c) =>
 .W (wfI (nth f a (zb qk)).1) <|
 V ((!(List.contains g (nth f a (zb qk)).1))&&(zA (k<h)))
  (oC b <|
 oC c <|
 U b <|
 U c <|
 Y (zG ((nth f a (zb qk)).1,(h,((qi (a+1)),((i.1,()),(g,(b,c))))))))
  (oC b <|
 oC c <|
 U b <|
 U c <|
 Y (zG (j,(k,((qi (a+1)),((i.1,()),(g,(b,c)))))))))
  (oC d <|
 oC e <|
 U d <|
 U e <|
 Y (zF (j,((l.1,()),(g,(d,e))))))
def dS x x1 s:=zJ (gi x x1) s
def yd(b:Int)(a:(zy×Unit))(j:z7)(e:z7)(f:z7):T (Int×(zy×Unit)×z7×z7×z7) :=
 oI b a.1 <|
 oI b a.1 <|
 oC e <|
 oC f <|
 U e <|
 U f <|
 X (dS (nth a.1 b (zb zt)).2.1 (zN (zO (nth a.1 b (zb zt)).2.1):Int) ((-1),((nth a.1 b (zb zt)).1,(0,((a.1,()),(j,(e,f))))))) λ(g,h,i,c,d) =>
 oC c <|
 oC d <|
 U c <|
 U d <|
 Y (g,((h.1,()),(i,(c,d))))
def yH(h:Int)(e:wB)(g:Int):(Int×(zy×Unit)×z7×z7×z7)->T ((Int×(zy×Unit)×z7×z7×z7)⊕(((zy×Unit)×z7×z7×z7)))
 | (c,f,a,b,d) =>
 V (zA (c<g))
  (oI c e <|
 .W (z2a true (nth e c (zb qk)).1 d) <|
 oC a <|
 oC b <|
 U a <|
 U b <|
 Y (zG ((qi (c+1)),((f.1,()),(a,(b,(d++([(nth e c (zb qk)).1]:List Int))))))))
  (oC a <|
 oC b <|
 U a <|
 U b <|
 Y (zF ((f.1,()),(a,(b,d)))))
def yF out x x1 s:=zJ (yH out x x1) s
def yG  : (Int×(zy×Unit)×z7×z7×z7)->T ((Int×(zy×Unit)×z7×z7×z7)⊕(((zy×Unit)×z7×z7×z7)⊕((zy×Unit)×z7×z7×z7)))
 | (c,r,f,g,s) =>
 V (c != (-1))
  (oC f <|
 oC g <|
 U f <|
 U g <|
 X (yd c (r.1,()) s f g) λ(j,l,m,a,b)=>let h:=0+(zE j); let i:=wj b h (zb (.int .i64)); let p:=zL a (0+(zE i)) (-1);
 V (j==(-1))
  (oC a <|
 oC b <|
 U a <|
 U b <|
 Y (zF (zF ((l.1,()),(a,(b,m))))))
  (oI j b <|
 .W (uO b.length b.length h b.length) <|
 X (V (i != (-1))
  (oI i a <|
 .W (uO a.length a.length (0+(zE i)) a.length) <|
 .W (zp a.length 0 a.length p.length) <|
 oC b <|
 .W (a.length=p.length) <|
 U b <|
 Y ((l.1,()),(p,(b,m))))
  (oC a <|
 oC b <|
 U a <|
 U b <|
 Y ((l.1,()),(a,(b,m)))):T (((zy×Unit)×z7×z7×z7))) λ(k,e,d,t)=>let q:=zL e (0+(zE c)) j;
 oI c e <|
 .W (uO e.length e.length (0+(zE c)) e.length) <|
 oI j d <|
 .W (uO d.length d.length h d.length) <|
 oI c k.1 <|
 .W (zp e.length 0 e.length q.length) <|
 .W (zp d.length 0 d.length (zL d h c).length) <|
 .W (e.length=q.length) <|
 .W (d.length=(zL d h c).length) <|
 X (yF i (nth k.1 c (zb zt)).2.1 (zN (zO (nth k.1 c (zb zt)).2.1):Int) (0,((k.1,()),(q,((zL d h c),t))))) λ(u,n,o,v) =>
 oC n <|
 oC o <|
 U n <|
 U o <|
 Y (zG (i,((u.1,()),(n,(o,v)))))))
  (oC f <|
 oC g <|
 U f <|
 U g <|
 Y (zF (zG ((r.1,()),(f,(g,s))))))
def cY(s:(Int×(zy×Unit)×z7×z7×z7)):T (((zy×Unit)×z7×z7×z7)⊕((zy×Unit)×z7×z7×z7)):=zJ (yG ) s
def kO(i:Int)(j:(zy×Unit))(e:z7)(f:z7):T ((zy×Unit)×z7×z7) :=
 oC e <|
 oC f <|
 U e <|
 U f <|
 X (cY  (i,((j.1,()),(e,(f,[]))))) <|
 zK (λ(g,a,b,k) =>
 oC a <|
 oC b <|
 U a <|
 U b <|
 Y ((g.1,()),(a,b)))
  (λ(h,c,d,l) =>
 oC c <|
 oC d <|
 U c <|
 U d <|
 Y ((h.1,()),(c,d)))
def nM(g:zy)(f:Int):(Int×(zy×Unit)×z7×z7×z7)->T ((Int×(zy×Unit)×z7×z7×z7)⊕(((zy×Unit)×z7×z7×z7)))
 | (d,e,b,c,a) =>
 V (zA (d<f))
  (oA a 8 <|
 .W (zp (a.length+1) 0 (a.length+1) (a++[d]).length) <|
 oC b <|
 oC c <|
 U b <|
 U c <|
 .W ((a.length+1)=(a++[d]).length) <|
 Y (zG ((qi (d+1)),((e.1,()),(b,(c,(a++[d])))))))
  (oC a <|
 oC b <|
 oC c <|
 U b <|
 U c <|
 U a <|
 Y (zF ((e.1,()),(b,(c,a)))))
def Qk l1 x s:=zJ (nM l1 x) s
def nO(k:(List Int×Bool))(j:Int):(Int×(zy×Unit)×z7×z7×z7)->T ((Int×(zy×Unit)×z7×z7×z7)⊕(((zy×Unit)×z7×z7×z7)))
 | (d,h,b,c,a)=>let e:=wj a (0+(zE d)) (zb (.int .i64));
 V (zA (d<j))
  (oI d a <|
 .W (uO a.length a.length (0+(zE d)) a.length) <|
 oI e b <|
 .W (uO b.length b.length (0+(zE e)) b.length) <|
 V ((wj b (0+(zE e)) (zb (.int .i64)))==(-1))
  (oC b <|
 oC c <|
 U b <|
 U c <|
 X (kO e (h.1,()) b c) λ(i,f,g) =>
 oC a <|
 oC a <|
 oC f <|
 oC g <|
 U f <|
 U g <|
 U a <|
 Y (zG ((qi (d+1)),((i.1,()),(f,(g,a))))))
  (oC a <|
 oC a <|
 oC b <|
 oC c <|
 U b <|
 U c <|
 U a <|
 Y (zG ((qi (d+1)),((h.1,()),(b,(c,a)))))))
  (oC a <|
 oC b <|
 oC c <|
 U b <|
 U c <|
 U a <|
 Y (zF ((h.1,()),(b,(c,a)))))
def Qm ahead1 x3 s:=zJ (nO ahead1 x3) s
def nN  : ((List Int×Bool)×(zy×Unit)×z7×z7×z7)->T (((List Int×Bool)×(zy×Unit)×z7×z7×z7)⊕(((zy×Unit)×z7×z7×z7)))
 | (l,m,b,e,f) =>
 X (V (!l.2)
  (oC f <|
 oC b <|
 oC e <|
 U b <|
 U e <|
 U f <|
 Y (true,((m.1,()),(b,(e,f)))))
  (U b <|
 X (y8 l.1 (zH 0 (zI (0+b.length) b))) λn =>
 oC f <|
 oC b <|
 oC e <|
 U b <|
 U e <|
 U f <|
 Y ((!n),((m.1,()),(b,(e,f))))):T ((Bool×(zy×Unit)×z7×z7×z7))) λ(o,k,a,d,c)=>let j:=zH 0 (zI (0+a.length) a);
 V o
  (U a <|
 .W ((j.length*8)<=140737488355328) <|
 oC c <|
 oC c <|
 oC a <|
 oC d <|
 U a <|
 U d <|
 U c <|
 X (Qm (j,true) (c.length:Int) (0,((k.1,()),(a,(d,c))))) λ(p,g,h,i) =>
 oC i <|
 oC g <|
 oC h <|
 U g <|
 U h <|
 U i <|
 Y (zG ((j,true),((p.1,()),(g,(h,i))))))
  (oC a <|
 oC d <|
 U a <|
 U d <|
 U c <|
 Y (zF ((k.1,()),(a,(d,c)))))
def Ql(s:((List Int×Bool)×(zy×Unit)×z7×z7×z7)):T (((zy×Unit)×z7×z7×z7)):=zJ (nN ) s
def oy(b:zy)(i:z7)(p:Int):T (z7×Bool) :=
 X (bn b i p) <|
 zK (λ(j,k,c,d) =>
 V (!j)
  (X (y7 i) λl =>
 Y (l,false))
  (.W (zp 0 0 0 0) <|
 oC c <|
 oC d <|
 U c <|
 U d <|
 .W (0=0) <|
 X (Qk b (b.length:Int) (0,((k.1,()),(c,(d,[]))))) λ(m,e,f,a) =>
 U a <|
 U a <|
 X (uz (0,a.length) b a) λg =>
 .W (zp a.length 0 a.length g.length) <|
 oC e <|
 oC f <|
 U e <|
 U f <|
 U g <|
 X (Ql  (([],false),((m.1,()),(e,(f,g))))) λ(q,h,r,s) =>
 U h <|
 Y ((zH 0 (zI (0+h.length) h)),true)))
  (λn =>
 V (!n)
  (X (y7 i) λo =>
 Y (o,false))
  (.fail))
def Qa(a:vK):T Bool :=
 V ((a.2.1.length:Int)==0)
  (X (iL a.2.2.1) λb =>
 Y b)
  (Y false)
def tN(c:zy)(d:z7)(e:Int):T Bool :=
 X (bn c d e) <|
 zK (λ(a,f,g,h) =>
 Y a)
  (λb =>
 Y b)
def yo(b:z7)(c:Int)(d:Int):Int->T (Int⊕(Unit⊕Int))
 | a =>
 V (zA (a<d))
  (oI a b <|
 V (c==(nth b a (zb (.int .i64))))
  (Y (zF (zF a)))
  (Y (zG (qi (a+1)))))
  (Y (zF (zG ())))
def yn s1 v1 x s:=zJ (yo s1 v1 x) s
def uH(a:z7)(c:Int):T Int :=
 X (yn a c (a.length:Int) 0) <|
 zK (λ_ =>
 Y (-1))
  (λb =>
 Y b)
def jm(b:z7)(c:Int):T Bool :=
 X (uH b c) λa =>
 Y (zA (0<=a))
def cO(b:Term)(c:z7)(d:Int)(a:z7):T (Bool×z7) :=
 oI d c <|
 V (b.1 != (nth c d (zb (.int .i64))))
  (U a <|
 X (jm (zH 0 (zI (0+a.length) a)) b.1) λe =>
 oC a <|
 U a <|
 Y (e,a))
  (oC a <|
 U a <|
 Y (false,a))
def vq(e:wB)(g:Int):((z7×Int×Unit)×Int×z7)->T (((z7×Int×Unit)×Int×z7)⊕(z7⊕(Int×z7)))
 | (d,c,b) =>
 V (zA (c<g))
  (oI c e <|
 oC b <|
 U b <|
 X (cO (nth e c (zb qk)) d.1 d.2.1 b) λ(f,a) =>
 V f
  (oC a <|
 U a <|
 Y (zF (zF (c,a))))
  (oC a <|
 U a <|
 Y (zG ((d.1,(d.2.1,())),((qi (c+1)),a)))))
  (oC b <|
 U b <|
 Y (zF (zG b)))
def vp s1 x s:=zJ (vq s1 x) s
def vN(d:wB)(e:(z7×Int×Unit))(c:z7):T (Int×z7) :=
 oC c <|
 U c <|
 X (vp d (d.length:Int) ((e.1,(e.2.1,())),(0,c))) <|
 zK (λa =>
 oC a <|
 U a <|
 Y ((-1),a))
  (λ(f,b) =>
 oC b <|
 U b <|
 Y (f,b))
def wH(e:wB)(c:(z7×Int×Unit))(b:z7):T (Bool×z7) :=
 oC b <|
 U b <|
 X (vN e (c.1,(c.2.1,())) b) λ(d,a) =>
 oC a <|
 U a <|
 Y ((zA (0<=d)),a)
def iT(b:Int)(d:zy)(f:z7)(a:z7):T (Bool×z7) :=
 oI b a <|
 .W (uO a.length a.length (0+(zE b)) a.length) <|
 V ((wj a (0+(zE b)) (zb (.int .i64))) != (-1))
  (oI b d <|
 oC a <|
 U a <|
 X (wH (nth d b (zb zt)).2.1 (f,(b,())) a) λ(e,c) =>
 oC c <|
 U c <|
 Y ((!e),c))
  (oC a <|
 U a <|
 Y (false,a))
def Q8(g:zy):((zy×z7×Unit)×Int×z7×z7)->T (((zy×z7×Unit)×Int×z7×z7)⊕((z7×z7)))
 | (d,c,e,a) =>
 V (zA (c<(g.length:Int)))
  (oC e <|
 U e <|
 X (iT c d.1 d.2.1 e) λ(f,b) =>
 V (!f)
  (oC a <|
 oC b <|
 U b <|
 U a <|
 Y (zG ((d.1,(d.2.1,())),((qi (c+1)),(b,a)))))
  (oI c b <|
 .W (uO b.length b.length (0+(zE c)) b.length) <|
 oA a 8 <|
 .W (zp (a.length+1) 0 (a.length+1) (a++[c]).length) <|
 oM b.length (zL b (0+(zE c)) (-1)).length <|
 .W ((a.length+1)=(a++[c]).length) <|
 Y (zG ((d.1,(d.2.1,())),(0,((zL b (0+(zE c)) (-1)),(a++[c])))))))
  (oC a <|
 oC e <|
 U e <|
 U a <|
 Y (zF (e,a)))
def Uz l1 s:=zJ (Q8 l1) s
def Wd(c:zy)(d:z7)(f:Int):T z7 :=
 X (tN c d f) λe =>
 V (!e)
  (Y [])
  (X (uR d) λa =>
 .W (zp 0 0 0 0) <|
 oC a <|
 U a <|
 .W (0=0) <|
 X (Uz c ((c,(d,())),(0,(a,[])))) λ(g,b) =>
 U b <|
 Y (zH 0 (zI (0+b.length) b)))
def iV(j:Int)(g:wB)(k:Int):(Int×zu×Rat×Rat×Rat)->T ((Int×zu×Rat×Rat×Rat)⊕((zu×Rat×Rat×Rat)))
 | (c,a,d,e,f)=>let b:=nth g c (zb qk);
 V (zA (c<k))
  (oI c g <|
 V (b.1==j)
  (oC a <|
 U a <|
 Y (zG ((qi (c+1)),(a,(d,(e,(b.2.1.1,(b.2.1.2.1,(b.2.1.2.2.1,())))))))))
  (.W (xe b.1 a.length) <|
 .W (uO a.length a.length (0+(zE b.1)) a.length) <|
 X (oR (b.2.1.1,(b.2.1.2.1,(b.2.1.2.2.1,()))) (wj a (0+(zE b.1)) (zb zm))) λh =>
 X (oQ e h) λi =>
 oC a <|
 U a <|
 Y (zG ((qi (c+1)),(a,(d,(i,f)))))))
  (U a <|
 Y (zF (a,(d,(e,f)))))
def rV v1 x x1 s:=zJ (iV v1 x x1) s
def sY(a:vK)(j:Int)(b:zu):T (Rat×zu) :=
 X (vF a.2.2.1) λd =>
 X (yW 1) λe =>
 oC b <|
 U b <|
 X (rV j a.2.1 (a.2.1.length:Int) (0,(b,((false,(([]:List Int),(([]:List Int),()))),(d,e))))) λ(c,k,f,g) =>
 X (Q3 f) λh =>
 X (sU h g) λ(i,l) =>
 U c <|
 Y (i,c)
def Vl(f:zy)(g:z7)(h:zu)(d:zu)(e:Int):(Int×zu)->T ((Int×zu)⊕zu)
 | (b,a) =>
 V (zA (b<e))
  (oI b d <|
 X (vF (nth d b (zb zm))) λc =>
 oA a 56 <|
 oM (a.length+1) (a++[c]).length <|
 Y (zG ((qi (b+1)),(a++[c]))))
  (oC a <|
 U a <|
 Y (zF a))
def Gc l1 outs1 val1 x x1 s:=zJ (Vl l1 outs1 val1 x x1) s
def Q9(i:zy)(f:z7)(j:z7)(l:Int):(Int×zu)->T ((Int×zu)⊕(zu⊕(Int×Int×zu)))
 | (d,a)=>let c:=nth j d (zb (.int .i64)); let e:=nth f c (zb (.int .i64));
 V (zA (d<l))
  (oI d j <|
 oI c i <|
 oI c f <|
 oC a <|
 U a <|
 X (sY (nth i c (zb zt)) e a) λ(h,b)=>let g:=zL b (0+(zE e)) h;
 X (cz h) λk =>
 V k
  (U b <|
 Y (zF (zF (c,(8,b)))))
  (oI c f <|
 oI e a <|
 .W (uO a.length b.length (0+(zE e)) b.length) <|
 .W (zp a.length 0 a.length g.length) <|
 .W (b.length=g.length) <|
 Y (zG ((qi (d+1)),g))))
  (oC a <|
 U a <|
 Y (zF (zG a)))
def Gd l2 outs2 x3 x4 s:=zJ (Q9 l2 outs2 x3 x4) s
def KG(b:zy)(c:z7)(a:zu):T (zu×Int×Int) :=
 X (tN b c (a.length:Int)) λg =>
 V (!g)
  (Y ([],((-1),1)))
  (oZ <|
 X (Gc b c a a (a.length:Int) (0,[])) λd =>
 X (Wd b c (a.length:Int)) λf =>
 oC d <|
 U d <|
 X (Gd b c f (f.length:Int) (0,d)) <|
 zK (λe =>
 U e <|
 Y ((zH 0 (zI (0+e.length) e)),((-1),0)))
  (λ(h,i,j) =>
 Y ([],(h,i))))
def sj(m:zy)(n:j9)(f:z7)(g:zy)(k:Int):(Int×j9×Int)->T ((Int×j9×Int)⊕((j9×Int)⊕(Int×Int×j9×Int)))
 | (a,c,d)=>let b:=nth g a (zb zt);
 V (zA (a<k))
  (oI a g <|
 X (V (b.1==0)
  (oI a f <|
 V (zA ((nth f a (zb (.int .i64)))<0))
  (X (Qa b) λh =>
 Y ((!h),(c,(d,b))))
  (Y (false,(c,(d,b)))))
  (Y (false,(c,(d,b)))):T ((Bool×j9×Int×vK))) λ(i,j,e,l) =>
 V i
  (Y (zF (zF (a,(10,((([]:List Int),(([]:List Rat),())),e))))))
  (Y (zG ((qi (a+1)),(j,e)))))
  (Y (zF (zG (c,d))))
def Xu l1 s1 outs1 x1 x2 s:=zJ (sj l1 s1 outs1 x1 x2) s
def tf(a:zy)(b:j9):T (j9×Int×Int) :=
 let c:=((([]:List Int),(([]:List Rat),())),(b.2.1.length:Int));  X (V (zA ((b.2.1.length:Int)<1))
  (Y (true,c))
  (V (zA (64<(b.2.1.length:Int)))
  (Y (true,c))
  (V (zA (256<(a.length:Int)))
  (Y (true,c))
  (V ((b.1.length:Int) != (a.length:Int))
  (Y (true,c))
  (X (yQ a (λh=>yS h (b.2.1.length:Int))) λi =>
 Y (i,c))))):T ((Bool×j9×Int))) λ(j,k,d) =>
 V j
  (Y ((([]:List Int),(([]:List Rat),())),((-1),1)))
  (X (mY a d) λf =>
 V (zA (0<=f))
  (Y ((([]:List Int),(([]:List Rat),())),(f,9)))
  (X (oy a b.1 d) λ(e,l) =>
 V (!l)
  (Y ((([]:List Int),(([]:List Rat),())),((-1),1)))
  (X (Xu a b e a (a.length:Int) (0,(k,d))) <|
 zK (λ(r,s) =>
 X (KG a e b.2.1) λ(m,n,g) =>
 V (g != 0)
  (Y ((([]:List Int),(([]:List Rat),())),(n,g)))
  (Y ((e,(m,())),((-1),0))))
  (λ(o,p,q,t) =>
 Y (q,(o,p))))))
def cL(b:Int)(a:uo):T (zo×uo) :=
 let c:=nth a.2.2.2.1 b (zb (.int .i64));  V (zA (b<0))
  (Y ([],a))
  (oI b a.2.2.2.1 <|
 V (zA (c<(a.1.2.2.2.2.1.length:Int)))
  (oI b a.2.2.2.1 <|
 oI c a.1.2.2.2.2.1 <|
 Y (([(nth a.1.2.2.2.2.1 c (zb xl)).1]:List zx),a))
  (oI b a.2.2.2.1 <|
 oI (qi (c-(a.1.2.2.2.2.1.length:Int))) a.1.2.2.2.1 <|
 Y (([(nth a.1.2.2.2.1 (qi (c-(a.1.2.2.2.2.1.length:Int))) (zb qv)).1]:List zx),a)))
def jU(g:zu)(a:uo):T (zu×zo×Int×uo) :=
 X (tf a.2.1 (a.2.2.1,(g,()))) λ(b,d,c) =>
 V (c != 0)
  (X (cL d a) λ(e,f) =>
 Y ([],(e,(c,f))))
  (Y (b.2.1,([],(0,((a.1.1,(a.1.2.1,(a.1.2.2.1,(a.1.2.2.2.1,(a.1.2.2.2.2.1,(a.1.2.2.2.2.2.1,())))))),(a.2.1,(b.1,(a.2.2.2.1,()))))))))
def jO(a:zu):T zu :=
 .W (a=[]->∀ r,T.leads (.W (vV 0 0 0 0 0 a.length 56) <|
 .W (zp (0+a.length) 0 (0+a.length) a.length) <|
 .W ((0+a.length)=a.length) <|
 Y a:T _) r->T.leads (.W (zp 0 0 0 0) <|
 .W (0=0) <|
 Y []:T _) r) <|
 .W (vV 0 0 0 0 0 a.length 56) <|
 oM (0+a.length) a.length <|
 Y a
def jl(a:zr):T zr :=
 .W (a=[]->∀ r,T.leads (.W (vV 0 0 0 0 0 a.length 1) <|
 .W (zp (0+a.length) 0 (0+a.length) a.length) <|
 .W ((0+a.length)=a.length) <|
 Y a:T _) r->T.leads (.W (zp 0 0 0 0) <|
 .W (0=0) <|
 Y []:T _) r) <|
 .W (vV 0 0 0 0 0 a.length 1) <|
 oM (0+a.length) a.length <|
 Y a
def jH(a:zq):T zq :=
 .W (a=[]->∀ r,T.leads (.W (vV 0 0 0 0 0 a.length 64) <|
 .W (zp (0+a.length) 0 (0+a.length) a.length) <|
 .W ((0+a.length)=a.length) <|
 Y a:T _) r->T.leads (.W (zp 0 0 0 0) <|
 .W (0=0) <|
 Y []:T _) r) <|
 .W (vV 0 0 0 0 0 a.length 64) <|
 oM (0+a.length) a.length <|
 Y a
def lQ(a:qe):T (Unit×zu×zr×zu×z7×zq×zr) :=
 X (jO a.1) λb =>
 X (jl a.2.1) λc =>
 X (jO a.2.2.1) λd =>
 X (uR a.2.2.2.1) λe =>
 X (jH a.2.2.2.2.1) λf =>
 X (jl a.2.2.2.2.2.1) λg =>
 oY b c d e f g <|
 Y ((),(b,(c,(d,(e,(f,g))))))
def da(l:Int):(Int×uo×(zu×Unit)×qe×zu×zr×zu×z7×zq×zr)->T ((Int×uo×(zu×Unit)×qe×zu×zr×zu×z7×zq×zr)⊕((uo×(zu×Unit)×qe×zu×zr×zu×z7×zq×zr)))
 | (f,i,j,k,b,c,g,a,d,e)=>let h:=zL a (0+(zE f)) (-1);
 V (zA (f<l))
  (oI f a <|
 .W (uO a.length a.length (0+(zE f)) a.length) <|
 oC b <|
 oC c <|
 .W (zp a.length 0 a.length h.length) <|
 oC d <|
 oC e <|
 U b <|
 U c <|
 U g <|
 .W (a.length=h.length) <|
 U d <|
 U e <|
 Y (zG ((qi (f+1)),(i,((j.1,()),(k,(b,(c,(g,(h,(d,e)))))))))))
  (oC b <|
 oC c <|
 oC a <|
 oC d <|
 oC e <|
 oW b c g a d e <|
 Y (zF (i,((j.1,()),(k,(b,(c,(g,(a,(d,e))))))))))
def mQ x s:=zJ (da x) s
def db(m:z7)(q:Int):(Int×uo×(zu×Unit)×qe×zu×zr×zu×z7×zq×zr)->T ((Int×uo×(zu×Unit)×qe×zu×zr×zu×z7×zq×zr)⊕((uo×(zu×Unit)×qe×zu×zr×zu×z7×zq×zr)))
 | (f,i,k,l,c,d,g,a,b,e)=>let h:=nth i.2.2.2.1 f (zb (.int .i64)); let n:=0+(zE (qi (h-(a.length:Int)))); let o:=zL a (0+(zE h)) (nth m f (zb (.int .i64))); let j:=wj b n (zb zn); let p:=zL b n (j.1,(((nth m f (zb (.int .i64))) != (-1)),((j.2.2.1.1,(j.2.2.1.2.1,(j.2.2.1.2.2.1,()))),())));
 V (zA (f<q))
  (oI f m <|
 oI f i.2.2.2.1 <|
 V (zA (h<(a.length:Int)))
  (oI h a <|
 .W (uO a.length a.length (0+(zE h)) a.length) <|
 oC c <|
 oC d <|
 .W (zp a.length 0 a.length o.length) <|
 oC b <|
 oC e <|
 U c <|
 U d <|
 U g <|
 .W (a.length=o.length) <|
 U b <|
 U e <|
 Y (zG ((qi (f+1)),(i,((k.1,()),(l,(c,(d,(g,(o,(b,e)))))))))))
  (oI (qi (h-(a.length:Int))) b <|
 .W (uO b.length b.length n b.length) <|
 oC c <|
 oC d <|
 oC a <|
 .W (zp b.length 0 b.length p.length) <|
 oC e <|
 U c <|
 U d <|
 U g <|
 U a <|
 .W (b.length=p.length) <|
 U e <|
 Y (zG ((qi (f+1)),(i,((k.1,()),(l,(c,(d,(g,(a,(p,e))))))))))))
  (oC c <|
 oC d <|
 oC a <|
 oC b <|
 oC e <|
 oW c d g a b e <|
 Y (zF (i,((k.1,()),(l,(c,(d,(g,(a,(b,e))))))))))
def mR x2 x3 s:=zJ (db x2 x3) s
def gB(w:qe)(x:zu)(y:uo):T ((zu×Unit)×uo×zu×zr×z7×zq×zr) :=
 X (lQ w) λ(z,b,c,q,a,d,e) =>
 oC b <|
 oC c <|
 oC a <|
 oC d <|
 oC e <|
 oW b c q a d e <|
 X (mQ (a.length:Int) (0,(y,((x,()),((([]:List Rat),(([]:List Bool),(([]:List Rat),(([]:List Int),(([]:List ql),(([]:List Bool),())))))),(b,(c,(q,(a,(d,e)))))))))) λ(f,s,t,g,h,r,i,j,k) =>
 oC g <|
 oC h <|
 oC i <|
 oC j <|
 oC k <|
 oW g h r i j k <|
 X (mR f.2.2.1 (f.2.2.1.length:Int) (0,(f,((s.1,()),(t,(g,(h,(r,(i,(j,k)))))))))) λ(u,v,A,l,m,hI,n,o,p) =>
 oC l <|
 oC m <|
 oC n <|
 oC o <|
 oC p <|
 U l <|
 U m <|
 U n <|
 U o <|
 U p <|
 Y ((v.1,()),(u,(l,(m,(n,(o,p))))))
def dJ(s:Form)(j:qe):T ((zu×Unit)×zo×Int×zu×zr×z7×zq×zr) :=
 X (cZ s j) <|
 zK (λ(k,a,b,c,d) =>
 V (k != 0)
  (.W (zp 0 0 0 0) <|
 .W (zp 0 0 0 0) <|
 .W (zp 0 0 0 0) <|
 .W (zp 0 0 0 0) <|
 oZ <|
 .W (0=0) <|
 .W (0=0) <|
 .W (0=0) <|
 .W (0=0) <|
 Y (([],()),([],(k,([],([],([],([],[]))))))))
  (U b <|
 U c <|
 U d <|
 X (jU j.2.2.1 ((a.1,(a.2.1,(a.2.2.1,(a.2.2.2.1,(a.2.2.2.2.1,(a.2.2.2.2.2.1,())))))),((zH 0 (zI (0+b.length) b)),((zH 0 (zI (0+c.length) c)),((zH 0 (zI (0+d.length) d)),()))))) λ(n,o,l,p) =>
 V (l != 0)
  (.W (zp 0 0 0 0) <|
 .W (zp 0 0 0 0) <|
 .W (zp 0 0 0 0) <|
 .W (zp 0 0 0 0) <|
 oZ <|
 .W (0=0) <|
 .W (0=0) <|
 .W (0=0) <|
 .W (0=0) <|
 Y (([],()),(o,(l,([],([],([],([],[]))))))))
  (X (gB j n p) λ(q,t,e,f,g,h,i) =>
 oC e <|
 oC f <|
 oC g <|
 oC h <|
 oC i <|
 U e <|
 U f <|
 U g <|
 U h <|
 U i <|
 Y ((q.1,()),([],(0,(e,(f,(g,(h,i))))))))))
  (λ(r,m) =>
 V (m != 0)
  (.W (zp 0 0 0 0) <|
 .W (zp 0 0 0 0) <|
 .W (zp 0 0 0 0) <|
 .W (zp 0 0 0 0) <|
 oZ <|
 .W (0=0) <|
 .W (0=0) <|
 .W (0=0) <|
 .W (0=0) <|
 Y (([],()),(r,(m,([],([],([],([],[]))))))))
  (.fail))
def Zs(s:Form)(n:qg)(p:Int):(Int×Unit×Unit×zr×zr×zr×zr×zq×zq×z7×z7×zu×zu×zu×zu)->T ((Int×Unit×Unit×zr×zr×zr×zr×zq×zq×z7×z7×zu×zu×zu×zu)⊕((Unit×Unit×zr×zr×zr×zr×zq×zq×z7×z7×zu×zu×zu×zu)))
 | (b,q,r,c,d,e,f,g,h,i,j,k,l,a,m) =>
 V (zA (b<p))
  (oI b n <|
 X (vF ((nth n b (zb qf)).2.1.1,((nth n b (zb qf)).2.1.2.1,((nth n b (zb qf)).2.1.2.2.1,())))) λo =>
 oA a 56 <|
 oV k c l i g d <|
 .W (zp (a.length+1) 0 (a.length+1) (a++[o]).length) <|
 oC e <|
 oC m <|
 oC j <|
 oC h <|
 oC f <|
 oW c d e f g h <|
 U i <|
 U j <|
 U k <|
 U l <|
 .W ((a.length+1)=(a++[o]).length) <|
 U m <|
 Y (zG ((qi (b+1)),((),((),(c,(d,(e,(f,(g,(h,(i,(j,(k,(l,((a++[o]),m))))))))))))))))
  (oV k c l i g d <|
 oV a e m j h f <|
 oW c d e f g h <|
 oW i j k l a m <|
 Y (zF ((),((),(c,(d,(e,(f,(g,(h,(i,(j,(k,(l,(a,m)))))))))))))))
def VL f1 x x1 s:=zJ (Zs f1 x x1) s
def Zt(s:Form)(o:qc)(p:Int):(Int×Unit×Unit×zr×zr×zr×zr×zq×zq×z7×z7×zu×zu×zu×zu)->T ((Int×Unit×Unit×zr×zr×zr×zr×zq×zq×z7×z7×zu×zu×zu×zu)⊕((Unit×Unit×zr×zr×zr×zr×zq×zq×z7×z7×zu×zu×zu×zu)))
 | (m,q,r,b,c,a,d,e,f,g,h,i,j,k,l)=>let n:=a++([(nth o m (zb qs)).2.1]:List Bool);
 V (zA (m<p))
  (oI m o <|
 oA a 1 <|
 oV i b j g e c <|
 oC k <|
 .W (zp (a.length+1) 0 (a.length+1) n.length) <|
 oC l <|
 oC h <|
 oC f <|
 oC d <|
 U b <|
 U c <|
 .W ((a.length+1)=n.length) <|
 oW d e f g h i <|
 U j <|
 U k <|
 U l <|
 Y (zG ((qi (m+1)),((),((),(b,(c,(n,(d,(e,(f,(g,(h,(i,(j,(k,l))))))))))))))))
  (oV i b j g e c <|
 oV k a l h f d <|
 oW b c a d e f <|
 oW g h i j k l <|
 Y (zF ((),((),(b,(c,(a,(d,(e,(f,(g,(h,(i,(j,(k,l)))))))))))))))
def VM f2 x3 x4 s:=zJ (Zt f2 x3 x4) s
def Zu(t:Form)(q:Int):(Int×Unit×Unit×zr×zr×zr×zr×zq×zq×z7×z7×zu×zu×zu×zu)->T ((Int×Unit×Unit×zr×zr×zr×zr×zq×zq×z7×z7×zu×zu×zu×zu)⊕((Unit×Unit×zr×zr×zr×zr×zq×zq×z7×z7×zu×zu×zu×zu)))
 | (p,r,s,d,e,f,a,g,c,h,i,j,k,l,b) =>
 V (zA (p<q))
  (X (yW 0) λm =>
 oA b 56 <|
 X (yW 0) λn=>let o:=c++([(false,(false,((n.1,(n.2.1,(n.2.2.1,()))),())))]:List ql);
 oA c 64 <|
 oA a 1 <|
 oV j d k h g e <|
 oC l <|
 oC f <|
 .W (zp (b.length+1) 0 (b.length+1) (b++[m]).length) <|
 oC i <|
 .W (zp (c.length+1) 0 (c.length+1) o.length) <|
 .W (zp (a.length+1) 0 (a.length+1) (a++[false]).length) <|
 U d <|
 U e <|
 U f <|
 .W ((a.length+1)=(a++[false]).length) <|
 U g <|
 .W ((c.length+1)=o.length) <|
 U h <|
 U i <|
 U j <|
 U k <|
 U l <|
 .W ((b.length+1)=(b++[m]).length) <|
 Y (zG ((qi (p+1)),((),((),(d,(e,(f,((a++[false]),(g,(o,(h,(i,(j,(k,(l,(b++[m])))))))))))))))))
  (oV j d k h g e <|
 oV l f b i c a <|
 oW d e f a g c <|
 oW h i j k l b <|
 Y (zF ((),((),(d,(e,(f,(a,(g,(c,(h,(i,(j,(k,(l,b)))))))))))))))
def VN f3 x6 s:=zJ (Zu f3 x6) s
def Zv(q:Form)(n:Int):(Int×Unit×Unit×zr×zr×zr×zr×zq×zq×z7×z7×zu×zu×zu×zu)->T ((Int×Unit×Unit×zr×zr×zr×zr×zq×zq×z7×z7×zu×zu×zu×zu)⊕((Unit×Unit×zr×zr×zr×zr×zq×zq×z7×z7×zu×zu×zu×zu)))
 | (m,o,p,b,c,d,e,f,g,h,a,i,j,k,l) =>
 V (zA (m<n))
  (oA a 8 <|
 oV i b j h f c <|
 oC k <|
 oC d <|
 oC l <|
 .W (zp (a.length+1) 0 (a.length+1) (a++([(-1)]:List Int)).length) <|
 oC g <|
 oC e <|
 oW b c d e f g <|
 U h <|
 .W ((a.length+1)=(a++([(-1)]:List Int)).length) <|
 U i <|
 U j <|
 U k <|
 U l <|
 Y (zG ((qi (m+1)),((),((),(b,(c,(d,(e,(f,(g,(h,((a++([(-1)]:List Int)),(i,(j,(k,l))))))))))))))))
  (oV i b j h f c <|
 oV k d l a g e <|
 oW b c d e f g <|
 oW h a i j k l <|
 Y (zF ((),((),(b,(c,(d,(e,(f,(g,(h,(a,(i,(j,(k,l)))))))))))))))
def VO f4 x8 s:=zJ (Zv f4 x8) s
def XM(a:Form):T ((zu×Unit)×zo×Int×zu×zr×z7×zq×zr) :=
 .W (zp 0 0 0 0) <|
 .W (zp 0 0 0 0) <|
 .W (zp 0 0 0 0) <|
 .W (zp 0 0 0 0) <|
 .W (zp 0 0 0 0) <|
 .W (zp 0 0 0 0) <|
 .W (zp 0 0 0 0) <|
 .W (zp 0 0 0 0) <|
 .W (zp 0 0 0 0) <|
 .W (zp 0 0 0 0) <|
 .W (zp 0 0 0 0) <|
 oZ <|
 .W (0=0) <|
 .W (0=0) <|
 .W (0=0) <|
 .W (0=0) <|
 .W (0=0) <|
 .W (0=0) <|
 .W (0=0) <|
 .W (0=0) <|
 .W (0=0) <|
 .W (0=0) <|
 .W (0=0) <|
 X (VL a a.2.1 (a.2.1.length:Int) (0,((),((),([],([],([],([],([],([],([],([],([],([],([],[]))))))))))))))) λ(ac,ad,b,c,d,e,f,g,h,i,j,k,l,m) =>
 oV j b k h f c <|
 oV l d m i g e <|
 oW b c d e f g <|
 oW h i j k l m <|
 X (VM a a.1 (a.1.length:Int) (0,((),((),(b,(c,(d,(e,(f,(g,(h,(i,(j,(k,(l,m))))))))))))))) λ(ae,af,n,o,p,q,r,s,t,u,v,w,x,y) =>
 oV v n w t r o <|
 oV x p y u s q <|
 oW n o p q r s <|
 oW t u v w x y <|
 X (VN a (a.2.2.2.1.length:Int) (0,((),((),(n,(o,(p,(q,(r,(s,(t,(u,(v,(w,(x,y))))))))))))))) λ(ag,ah,z,A,hI,C,D,κ',G,H,hb,hd,K,L) =>
 oV hb z hd G D A <|
 oV K hI L H κ' C <|
 oW z A hI C D κ' <|
 oW G H hb hd K L <|
 X (VO a (a.2.2.2.2.1.length:Int) (0,((),((),(z,(A,(hI,(C,(D,(κ',(G,(H,(hb,(hd,(K,L))))))))))))))) λ(ai,aj,ak,al,h2,hx,am,κ,an,P,ao,ap,hl,S) =>
 oW hl h2 S P κ hx <|
 X (dJ a ((zH 0 (zI (0+hl.length) hl)),((zH 0 (zI (0+h2.length) h2)),((zH 0 (zI (0+S.length) S)),((zH 0 (zI (0+P.length) P)),((zH 0 (zI (0+κ.length) κ)),((zH 0 (zI (0+hx.length) hx)),()))))))) λ(z6,aa,ab,oE,zD,zk,zC,zB) =>
 oC oE <|
 oC zD <|
 oC zk <|
 oC zC <|
 oC zB <|
 U oE <|
 U zD <|
 U zk <|
 U zC <|
 U zB <|
 Y ((z6.1,()),(aa,(ab,(oE,(zD,(zk,(zC,zB)))))))
def yz(a:Switch)(b:eN):T Bool :=
 Y (wL a.1 b.2.1)
def mg(d:zr)(h:Form)(f:xc)(i:Int):(Int×zr)->T ((Int×zr)⊕zr)
 | (b,a)=>let e:=a++[false];
 V (zA (b<i))
  (oI b f <|
 X (wa h.1 (λg=>yz g (nth f b (zb xp)))) λc =>
 V (wL (nth f b (zb xp)).2.1 [])
  (oA a 1 <|
 oM (a.length+1) (a++[true]).length <|
 Y (zG ((qi (b+1)),(a++[true]))))
  (V (zA (0<=c))
  (V (zA (c<(d.length:Int)))
  (oI c d <|
 oA a 1 <|
 oM (a.length+1) (a++([(nth d c (zb .bool))]:List Bool)).length <|
 Y (zG ((qi (b+1)),(a++([(nth d c (zb .bool))]:List Bool)))))
  (oA a 1 <|
 oM (a.length+1) e.length <|
 Y (zG ((qi (b+1)),e))))
  (oA a 1 <|
 oM (a.length+1) e.length <|
 Y (zG ((qi (b+1)),e)))))
  (oC a <|
 U a <|
 Y (zF a))
def Z6 on1 f1 x x1 s:=zJ (mg on1 f1 x x1) s
def ko(b:Form)(c:zr):T zr :=
 oZ <|
 X (Z6 c b b.2.2.1 (b.2.2.1.length:Int) (0,[])) λa =>
 U a <|
 Y (zH 0 (zI (0+a.length) a))
def nG(l:List Bool)(at_:Int):Nat->Int×Bool
 | 0=>(at_,false)
 | k+1=>if l[k]?.getD false=true/\(k:Int)<at_ then((k:Int),true)else nG l at_ k
def pA(b:Form)(c:zr)(d:Int):T (Int×Bool) :=
 X (ko b c) λa=>.W (a.length*8<=140737488351232) (Y (nG a d a.length))
def ZZ(c:Int)(b:zr)(d:Int):Int->T (Int⊕(Unit⊕(Int×Bool)))
 | a =>
 V (zA (a<d))
  (oI a b <|
 V ((nth b a (zb .bool))&&(zA (c<a)))
  (Y (zF (zF (a,true))))
  (Y (zG (qi (a+1)))))
  (Y (zF (zG ())))
def Ur at_1 x x1 s:=zJ (ZZ at_1 x x1) s
def pB(e:Form)(f:zr)(b:Int):T (Int×Bool) :=
 X (ko e f) λa =>
 X (Ur b a (a.length:Int) 0) <|
 zK (λ_ =>
 Y (b,false))
  (λ(c,d) =>
 Y (c,d))
def Z5(c:Form)(d:zr)(a:Int):T Int :=
 X (ko c d) λb =>
 .W (((zA (0<=a))=true)->(((zA (a<(b.length:Int)))=true)->(xe a b.length))) <|
 V ((zA (0<=a))&&((zA (a<(b.length:Int)))&&(nth b a (zb .bool))))
  (Y a)
  (X (pA c d a) λ(e,f) =>
 V f
  (Y e)
  (X (pB c d a) λ(g,h) =>
 V h
  (Y g)
  (Y 0)))
def dL(j:Form):T ((zx×Int×zl)⊕(zx×Int)) :=
 X (fI j) λ(h,k) =>
 V (h != 0)
  (Y (zF (k,h)))
  (X (ZB j) λa =>
 X (XM a) λ(l,b,i,d,c,e,f,g) =>
 V (i != 0)
  (.W (((b.length+1)*16)<=140737488355328) <|
 .W (xe 0 (b.length+1)) <|
 .W (uO (b.length+1) (b.length+1) (0+(zE 0)) (b++([[]]:List zx)).length) <|
 Y (zF ((wj (b++([[]]:List zx)) (0+(zE 0)) (zb .str)),i)))
  (U d <|
 U c <|
 U e <|
 U f <|
 U g <|
 X (Z5 a (zH 0 (zI (0+c.length) c)) 0) λm =>
 Y (zG ([],(0,((a.1,(a.2.1,(a.2.2.1,(a.2.2.2.1,(a.2.2.2.2.1,(a.2.2.2.2.2.1,())))))),(((zH 0 (zI (0+d.length) d)),((zH 0 (zI (0+c.length) c)),(l.1,((zH 0 (zI (0+e.length) e)),((zH 0 (zI (0+f.length) f)),((zH 0 (zI (0+g.length) g)),())))))),((([]:List zx),(([]:List zx),())),(m,(false,()))))))))))
def dI(a:Field)(b:zx):T Bool :=
 Y (wL a.1 b)
def ct(b:qo)(d:Field->T Bool)(e:Int):Int->T (Int⊕(Unit⊕Int))
 | a =>
 V (zA (a<e))
  (oI a b <|
 X (d (nth b a (zb qv))) λc =>
 V c
  (Y (zF (zF a)))
  (Y (zG (qi (a+1)))))
  (Y (zF (zG ())))
def o9 s1 f x s:=zJ (ct s1 f x) s
def gn(a:qo)(c:Field->T Bool):T Int :=
 X (o9 a c (a.length:Int) 0) <|
 zK (λ_ =>
 Y (-1))
  (λb =>
 Y b)
def tR(c:Form)(d:zx):T Int :=
 X (gn c.2.2.2.1 (λa=>dI a d)) λb =>
 Y b
def bR(a:Rat):T Bool :=
 X (tz a) λb =>
 V b
  (X (cz a) λc =>
 Y (!c))
  (Y false)
def eZ(b:Rat):T Bool :=
 X (bR b) λa =>
 Y (!a)
def UY(a:ql):T Bool :=
 X (bR a.2.2.1) λb =>
 V b
  (V a.1
  (Y true)
  (V (!a.2.1)
  (X (iL a.2.2.1) λc =>
 Y c)
  (Y false)))
  (Y false)
def fc(b:ql):T Bool :=
 X (UY b) λa =>
 Y (!a)
def bD(b:zq)(d:ql->T Bool)(e:Int):Int->T (Int⊕(Unit⊕Int))
 | a =>
 V (zA (a<e))
  (oI a b <|
 X (d (nth b a (zb zn))) λc =>
 V c
  (Y (zF (zF a)))
  (Y (zG (qi (a+1)))))
  (Y (zF (zG ())))
def mn s1 f x s:=zJ (bD s1 f x) s
def ym(a:zq)(c:ql->T Bool):T Int :=
 X (mn a c (a.length:Int) 0) <|
 zK (λ_ =>
 Y (-1))
  (λb =>
 Y b)
def uy(b:zq)(c:ql->T Bool):T Bool :=
 X (ym b c) λa =>
 Y (zA (0<=a))
def XF(h:zu)(b:wB)(i:Int):(Int×Rat×Rat)->T ((Int×Rat×Rat)⊕((Rat×Rat)))
 | (a,c,d) =>
 V (zA (a<i))
  (oI a b <|
 X (lG h (nth b a (zb qk)).1) λe =>
 X (oR ((nth b a (zb qk)).2.1.1,((nth b a (zb qk)).2.1.2.1,((nth b a (zb qk)).2.1.2.2.1,()))) e) λf =>
 X (oQ d f) λg =>
 Y (zG ((qi (a+1)),(c,g))))
  (Y (zF (c,d)))
def UP val1 x x1 s:=zJ (XF val1 x x1) s
def BS(a:vK)(d:zu):T Rat :=
 X (vF a.2.2.1) λb =>
 X (UP d a.2.1 (a.2.1.length:Int) (0,((false,(([]:List Int),(([]:List Int),()))),b))) λ(e,c) =>
 Y c
def sJ(c:vK)(d:zu):T Bool :=
 X (BS c d) λa =>
 X (iL a) λb =>
 Y b
def ye(f:wB)(l:Int):(Int×Int×Int×(zy×Unit)×z7×z7)->T ((Int×Int×Int×(zy×Unit)×z7×z7)⊕((Int×(zy×Unit)×z7×z7)))
 | (i,j,a,k,d,e) =>
 V (zA (a<l))
  (oI a f <|
 oC d <|
 oC e <|
 U d <|
 U e <|
 X (jK (nth f a (zb qk)).1 (k.1,()) d e) λ(g,h,b,c) =>
 .W (wfI (nth f a (zb qk)).1) <|
 V ((!false)&&(zA (j<g)))
  (oC b <|
 oC c <|
 U b <|
 U c <|
 Y (zG ((nth f a (zb qk)).1,(g,((qi (a+1)),((h.1,()),(b,c)))))))
  (oC b <|
 oC c <|
 U b <|
 U c <|
 Y (zG (i,(j,((qi (a+1)),((h.1,()),(b,c))))))))
  (oC d <|
 oC e <|
 U d <|
 U e <|
 Y (zF (i,((k.1,()),(d,e)))))
def cK x x1 s:=zJ (ye x x1) s
def gR(b:Int)(a:(zy×Unit))(e:z7)(f:z7):T (Int×(zy×Unit)×z7×z7) :=
 oI b a.1 <|
 oI b a.1 <|
 oC e <|
 oC f <|
 U e <|
 U f <|
 X (cK (nth a.1 b (zb zt)).2.1 (zN (zO (nth a.1 b (zb zt)).2.1):Int) ((-1),((nth a.1 b (zb zt)).1,(0,((a.1,()),(e,f)))))) λ(g,h,c,d) =>
 oC c <|
 oC d <|
 U c <|
 U d <|
 Y (g,((h.1,()),(c,d)))
def mA(d:zy)(i:z7)(j:Int)(b:Int):T Bool :=
 X (bn d i j) <|
 zK (λ(e,f,a,c) =>
 V e
  (V (zA (0<=b))
  (V (zA (b<(d.length:Int)))
  (oI b a <|
 .W (uO a.length a.length (0+(zE b)) a.length) <|
 V ((wj a (0+(zE b)) (zb (.int .i64)))==(-1))
  (oC a <|
 oC c <|
 U a <|
 U c <|
 X (gR b (f.1,()) a c) λ(g,k,l,m) =>
 Y (g==(-1)))
  (Y false))
  (Y false))
  (Y false))
  (Y false))
  (λh =>
 V h
  (V (zA (0<=b))
  (V (zA (b<(d.length:Int)))
  (.fail)
  (Y false))
  (Y false))
  (Y false))
def b8(g:Int)(m:zu)(j:(qc×qg×xc×qo×xa×qq×Unit))(a:zy)(b:z7)(e:z7):T (Bool×(qc×qg×xc×qo×xa×qq×Unit)×zy×z7×z7) :=
 let k:=(j.1,(j.2.1,(j.2.2.1,(j.2.2.2.1,(j.2.2.2.2.1,(j.2.2.2.2.2.1,())))))); let h:=wj a (0+(zE g)) (zb zt);  oI g a <|
 .W (uO a.length a.length (0+(zE g)) a.length) <|
 oI g b <|
 .W (uO b.length b.length (0+(zE g)) b.length) <|
 V ((wj b (0+(zE g)) (zb (.int .i64))) != (-1))
  (X (sJ h m) λo =>
 oC a <|
 oC b <|
 oC e <|
 U a <|
 U b <|
 U e <|
 Y (o,(k,(a,(b,e)))))
  (X (V ((h.2.1.length:Int)==0)
  (X (iL (h.2.2.1.1,(h.2.2.1.2.1,(h.2.2.1.2.2.1,())))) λp =>
 oC a <|
 oC b <|
 oC e <|
 U a <|
 U b <|
 U e <|
 Y (p,(k,(a,(b,(e,h))))))
  (oC a <|
 oC b <|
 oC e <|
 U a <|
 U b <|
 U e <|
 Y (false,(k,(a,(b,(e,h)))))):T ((Bool×(qc×qg×xc×qo×xa×qq×Unit)×zy×z7×z7×vK))) λ(q,i,c,d,f,r)=>let n:=mA (zH 0 (zI (0+c.length) c)) (zH 0 (zI (0+d.length) d)) (m.length:Int) g; let l:=((i.1,(i.2.1,(i.2.2.1,(i.2.2.2.1,(i.2.2.2.2.1,(i.2.2.2.2.2.1,())))))),(c,(d,f)));
 V (r.1 != 0)
  (U c <|
 U d <|
 X n λs =>
 oC c <|
 oC d <|
 oC f <|
 U c <|
 U d <|
 U f <|
 Y (s,l))
  (V q
  (U c <|
 U d <|
 X n λt =>
 oC c <|
 oC d <|
 oC f <|
 U c <|
 U d <|
 U f <|
 Y (t,l))
  (oC c <|
 oC d <|
 oC f <|
 U c <|
 U d <|
 U f <|
 Y (false,l))))
def UW(p:qe)(k:z7)(o:Int):(Int×(qc×qg×xc×qo×xa×qq×Unit)×zy×z7×z7)->T ((Int×(qc×qg×xc×qo×xa×qq×Unit)×zy×z7×z7)⊕(((qc×qg×xc×qo×xa×qq×Unit)×zy×z7×z7)⊕(Bool×(qc×qg×xc×qo×xa×qq×Unit)×zy×z7×z7)))
 | (i,e,b,c,a)=>let j:=((e.1,(e.2.1,(e.2.2.1,(e.2.2.2.1,(e.2.2.2.2.1,(e.2.2.2.2.2.1,())))))),(b,(c,a)));
 V (zA (i<o))
  (oI i k <|
 X (V ((nth k i (zb (.int .i64))) != (-1))
  (U a <|
 X (jm (zH 0 (zI (0+a.length) a)) i) λm =>
 oC b <|
 oC c <|
 oC a <|
 U b <|
 U c <|
 U a <|
 Y ((!m),j))
  (oC b <|
 oC c <|
 oC a <|
 U b <|
 U c <|
 U a <|
 Y (false,j)):T ((Bool×(qc×qg×xc×qo×xa×qq×Unit)×zy×z7×z7))) λ(n,d,f,g,h)=>let l:=((d.1,(d.2.1,(d.2.2.1,(d.2.2.2.1,(d.2.2.2.2.1,(d.2.2.2.2.2.1,())))))),(f,(g,h)));
 V n
  (oC f <|
 oC g <|
 oC h <|
 U f <|
 U g <|
 U h <|
 Y (zF (zF (false,l))))
  (oC f <|
 oC g <|
 oC h <|
 U f <|
 U g <|
 U h <|
 Y (zG ((qi (i+1)),l))))
  (oC b <|
 oC c <|
 oC a <|
 U b <|
 U c <|
 U a <|
 Y (zF (zG j)))
def Hy d1 x x1 s:=zJ (UW d1 x x1) s
def UX(m:qe)(n:Int):(Int×(qc×qg×xc×qo×xa×qq×Unit)×zy×z7×z7)->T ((Int×(qc×qg×xc×qo×xa×qq×Unit)×zy×z7×z7)⊕(((qc×qg×xc×qo×xa×qq×Unit)×zy×z7×z7)⊕(Bool×(qc×qg×xc×qo×xa×qq×Unit)×zy×z7×z7)))
 | (i,b,c,d,e)=>let j:=(b.1,(b.2.1,(b.2.2.1,(b.2.2.2.1,(b.2.2.2.2.1,(b.2.2.2.2.2.1,()))))));
 V (zA (i<n))
  (oC c <|
 oC d <|
 oC e <|
 U c <|
 U d <|
 U e <|
 X (b8 i m.2.2.1 j c d e) λ(l,a,f,g,h)=>let k:=((a.1,(a.2.1,(a.2.2.1,(a.2.2.2.1,(a.2.2.2.2.1,(a.2.2.2.2.2.1,())))))),(f,(g,h)));
 V (!l)
  (oC f <|
 oC g <|
 oC h <|
 U f <|
 U g <|
 U h <|
 Y (zF (zF (false,k))))
  (oC f <|
 oC g <|
 oC h <|
 U f <|
 U g <|
 U h <|
 Y (zG ((qi (i+1)),k))))
  (oC c <|
 oC d <|
 oC e <|
 U c <|
 U d <|
 U e <|
 Y (zF (zG (j,(c,(d,e))))))
def HA d2 x5 s:=zJ (UX d2 x5) s
def QQ(t:Form)(a:qe):T Bool :=
 X (cZ t a) <|
 zK (λ(k,d,g,h,i) =>
 V (k != 0)
  (Y false)
  (X (vx a.2.2.1 (λb=>eZ b)) λl =>
 V l
  (Y false)
  (X (uy a.2.2.2.2.1 (λb=>fc b)) λm =>
 V m
  (Y false)
  (oC g <|
 oC h <|
 oC i <|
 U g <|
 U h <|
 U i <|
 X (Hy a a.2.2.2.1 (a.2.2.2.1.length:Int) (0,((d.1,(d.2.1,(d.2.2.1,(d.2.2.2.1,(d.2.2.2.2.1,(d.2.2.2.2.2.1,())))))),(g,(h,i))))) <|
 zK (λ(e,c,f,j) =>
 U c <|
 U f <|
 X (tN (zH 0 (zI (0+c.length) c)) (zH 0 (zI (0+f.length) f)) (a.2.2.1.length:Int)) λn =>
 V (!n)
  (Y false)
  (oC c <|
 oC f <|
 oC j <|
 U c <|
 U f <|
 U j <|
 X (HA a (c.length:Int) (0,((e.1,(e.2.1,(e.2.2.1,(e.2.2.2.1,(e.2.2.2.2.1,(e.2.2.2.2.2.1,())))))),(c,(f,j))))) <|
 zK (λ(u,v,w,x) =>
 Y true)
  (λ(o,y,z,A,hI) =>
 Y o)))
  (λ(p,C,D,κ',G) =>
 Y p)))))
  (λ(H,q) =>
 V (q != 0)
  (Y false)
  (X (vx a.2.2.1 (λb=>eZ b)) λr =>
 V r
  (Y false)
  (X (uy a.2.2.2.2.1 (λb=>fc b)) λs =>
 V s
  (Y false)
  (.fail))))
def VK(s:Form)(h:qe)(t:zx)(x:Rat):T (qe×zo×Int) :=
 X (tR s t) λf =>
 X (QQ s h) λy =>
 V (!y)
  (Y ((([]:List Rat),(([]:List Bool),(([]:List Rat),(([]:List Int),(([]:List ql),(([]:List Bool),())))))),([],1)))
  (V (zA (f<0))
  (Y ((([]:List Rat),(([]:List Bool),(([]:List Rat),(([]:List Int),(([]:List ql),(([]:List Bool),())))))),([],5)))
  (X (bR x) λz =>
 V (!z)
  (Y ((([]:List Rat),(([]:List Bool),(([]:List Rat),(([]:List Int),(([]:List ql),(([]:List Bool),())))))),([t],8)))
  (X (cZ s h) <|
 zK (λ(g,d,i,j,k) =>
 V (g != 0)
  (Y ((([]:List Rat),(([]:List Bool),(([]:List Rat),(([]:List Int),(([]:List ql),(([]:List Bool),())))))),([],g)))
  (oC i <|
 oC j <|
 oC k <|
 U i <|
 U j <|
 U k <|
 X (kP f x (-1) (d.1,(d.2.1,(d.2.2.1,(d.2.2.2.1,(d.2.2.2.2.1,(d.2.2.2.2.2.1,())))))) i j k) λ(e,l,m,n) =>
 U l <|
 U m <|
 U n <|
 X (jU h.2.2.1 ((e.1,(e.2.1,(e.2.2.1,(e.2.2.2.1,(e.2.2.2.2.1,(e.2.2.2.2.2.1,())))))),((zH 0 (zI (0+l.length) l)),((zH 0 (zI (0+m.length) m)),((zH 0 (zI (0+n.length) n)),()))))) λ(A,hI,u,a)=>let b:=qi ((a.2.1.length:Int)-1);
 V (u != 0)
  (Y ((([]:List Rat),(([]:List Bool),(([]:List Rat),(([]:List Int),(([]:List ql),(([]:List Bool),())))))),(hI,u)))
  (oI b a.2.2.1 <|
 V ((nth a.2.2.1 b (zb (.int .i64)))==(-1:Int))
  (Y ((([]:List Rat),(([]:List Bool),(([]:List Rat),(([]:List Int),(([]:List ql),(([]:List Bool),())))))),([t],11)))
  (.W (jA 0 b a.2.1.length) <|
 .W (jA 0 b a.2.2.1.length) <|
 .W (jA 0 b a.2.2.2.1.length) <|
 X (jU A ((a.1.1,(a.1.2.1,(a.1.2.2.1,(a.1.2.2.2.1,(a.1.2.2.2.2.1,(a.1.2.2.2.2.2.1,())))))),((jJ (e:=zt) 0 b a.2.1),((jJ (e:=(.int .i64)) 0 b a.2.2.1),((jJ (e:=(.int .i64)) 0 b a.2.2.2.1),()))))) λ(C,D,v,κ') =>
 V (v != 0)
  (Y ((([]:List Rat),(([]:List Bool),(([]:List Rat),(([]:List Int),(([]:List ql),(([]:List Bool),())))))),(D,v)))
  (X (gB h C κ') λ(G,hb,o,p,q,r,c) =>
 oI f c <|
 .W (uO c.length c.length (0+(zE f)) c.length) <|
 U o <|
 U p <|
 U q <|
 U r <|
 U c <|
 Y (((zH 0 (zI (0+o.length) o)),((zH 0 (zI (0+p.length) p)),(G.1,((zH 0 (zI (0+q.length) q)),((zH 0 (zI (0+r.length) r)),((zH 0 (zI (0+c.length) (zL c (0+(zE f)) true))),())))))),([],0)))))))
  (λ(H,w) =>
 V (w != 0)
  (Y ((([]:List Rat),(([]:List Bool),(([]:List Rat),(([]:List Int),(([]:List ql),(([]:List Bool),())))))),(H,w)))
  (.fail)))))
def tS(e:Rat->T zx)(d:zu)(f:Int):(zx×Int)->T ((zx×Int)⊕zx)
 | (c,a) =>
 V (zA (a<f))
  (oI a d <|
 X (e (nth d a (zb zm))) λb =>
 oK [32] b <|
 oK c (cat [32] b) <|
 Y (zG ((cat c (cat [32] b)),(qi (a+1)))))
  (Y (zF c))
def UZ text x x1 s:=zJ (tS text x x1) s
def mG(c:zx)(b:zu)(d:Rat->T zx):T zx :=
 X (UZ d b (b.length:Int) (c,0)) λa =>
 oK a [10] <|
 Y (cat a [10])
def fg(a:Bool):T zx :=
 V a
  (Y [49])
  (Y [48])
def sG(e:Bool->T zx)(d:zr)(f:Int):(zx×Int)->T ((zx×Int)⊕zx)
 | (c,a) =>
 V (zA (a<f))
  (oI a d <|
 X (e (nth d a (zb .bool))) λb =>
 oK [32] b <|
 oK c (cat [32] b) <|
 Y (zG ((cat c (cat [32] b)),(qi (a+1)))))
  (Y (zF c))
def VP text x x1 s:=zJ (sG text x x1) s
def fV(c:zx)(b:zr)(d:Bool->T zx):T zx :=
 X (VP d b (b.length:Int) (c,0)) λa =>
 oK a [10] <|
 Y (cat a [10])
def lT(a:Int):T zx :=
 V (zA (a<0))
  (Y [45])
  (X (strconv_Itoa a) λb =>
 Y b)
def tT(e:Int->T zx)(d:z7)(f:Int):(zx×Int)->T ((zx×Int)⊕zx)
 | (c,a) =>
 V (zA (a<f))
  (oI a d <|
 X (e (nth d a (zb (.int .i64)))) λb =>
 oK [32] b <|
 oK c (cat [32] b) <|
 Y (zG ((cat c (cat [32] b)),(qi (a+1)))))
  (Y (zF c))
def J0 text x x1 s:=zJ (tT text x x1) s
def tq(c:zx)(b:z7)(d:Int->T zx):T zx :=
 X (J0 d b (b.length:Int) (c,0)) λa =>
 oK a [10] <|
 Y (cat a [10])
def lU(a:ql):T zx :=
 V (!a.1)
  (Y [45])
  (V a.2.1
  (X (gv a.2.2.1) λb =>
 oK b [33] <|
 Y (cat b [33]))
  (X (gv a.2.2.1) λc =>
 Y c))
def mS(e:ql->T zx)(d:zq)(f:Int):(zx×Int)->T ((zx×Int)⊕zx)
 | (c,a) =>
 V (zA (a<f))
  (oI a d <|
 X (e (nth d a (zb zn))) λb =>
 oK [32] b <|
 oK c (cat [32] b) <|
 Y (zG ((cat c (cat [32] b)),(qi (a+1)))))
  (Y (zF c))
def QU text x x1 s:=zJ (mS text x x1) s
def fW(c:zx)(b:zq)(d:ql->T zx):T zx :=
 X (QU d b (b.length:Int) (c,0)) λa =>
 oK a [10] <|
 Y (cat a [10])
def ff(b:qe):T zx :=
 X (mG [112,97,114,97,109,115] b.1 (λa=>gv a)) λc =>
 X (fV [111,110] b.2.1 (λa=>fg a)) λd =>
 oK c d <|
 X (mG [118,97,108,115] b.2.2.1 (λa=>gv a)) λg =>
 oK (cat c d) g <|
 X (tq [111,117,116,115] b.2.2.2.1 (λa=>lT a)) λi=>let f:=cat (cat (cat c d) g) i;
 oK (cat (cat c d) g) i <|
 X (fW [112,105,110,115] b.2.2.2.2.1 (λa=>lU a)) λe =>
 oK f e <|
 X (fV [102,105,108,108,101,100] b.2.2.2.2.2.1 (λa=>fg a)) λh =>
 oK (cat f e) h <|
 oK (cat (cat f e) h) [101,110,100,10] <|
 Y (cat (cat (cat f e) h) [101,110,100,10])
def wR(a:zo):T zo :=
 .W (a=[]->∀ r,T.leads (.W (vV 0 0 0 0 0 a.length 16) <|
 .W (zp (0+a.length) 0 (0+a.length) a.length) <|
 .W ((0+a.length)=a.length) <|
 Y a:T _) r->T.leads (.W (zp 0 0 0 0) <|
 .W (0=0) <|
 Y []:T _) r) <|
 .W (vV 0 0 0 0 0 a.length 16) <|
 oM (0+a.length) a.length <|
 Y a
def XP(d:vo)(e:zx):T vo :=
 X (wR d.1) λc=>let a:=c.length+1; let b:=lh 0 (qi ((zN a:Int)-32));
 oA c 16 <|
 .W (jA b (zN a:Int) a) <|
 .W (a=a) <|
 Y ((zH (0+(zE b)) (zI ((0+(zE b))+((zE (zN a:Int))-(zE b))) (c++[e]))),(([]:List zx),()))
def vw(b:qe)(h:zo)(d:Int)(a:zl):T (Answer×zl) :=
 let e:=(a.1.1,(a.1.2.1,(a.1.2.2.1,(a.1.2.2.2.1,(a.1.2.2.2.2.1,(a.1.2.2.2.2.2.1,()))))));  V (d != 0)
  (Y ((d,(h,([],()))),a))
  (X (ff (a.2.1.1,(a.2.1.2.1,(a.2.1.2.2.1,(a.2.1.2.2.2.1,(a.2.1.2.2.2.2.1,(a.2.1.2.2.2.2.2.1,()))))))) λf =>
 X (XP (a.2.2.1.1,(a.2.2.1.2.1,())) f) λc =>
 X (Z5 e b.2.1 a.2.2.2.1) λg =>
 Y (((0:Int),(([]:List zx),([],()))),(e,((b.1,(b.2.1,(b.2.2.1,(b.2.2.2.1,(b.2.2.2.2.1,(b.2.2.2.2.2.1,())))))),((c.1,(c.2.1,())),(g,(a.2.2.2.2.1,())))))))
def Zw(w:Form)(c:qe)(C:zx)(i:Bool):T (qe×zo×Int) :=
 X (tR w C) λa =>
 X (QQ w c) λy =>
 V (!y)
  (Y ((([]:List Rat),(([]:List Bool),(([]:List Rat),(([]:List Int),(([]:List ql),(([]:List Bool),())))))),([],1)))
  (V (zA (a<0))
  (Y ((([]:List Rat),(([]:List Bool),(([]:List Rat),(([]:List Int),(([]:List ql),(([]:List Bool),())))))),([],5)))
  (.W ((i=true)->(xe a c.2.2.2.2.1.length)) <|
 V (i&&(nth c.2.2.2.2.1 a (zb zn)).1)
  (Y ((([]:List Rat),(([]:List Bool),(([]:List Rat),(([]:List Int),(([]:List ql),(([]:List Bool),())))))),([],1)))
  (.W (((!i)=true)->(xe a c.2.2.2.2.1.length)) <|
 V ((!i)&&(!(nth c.2.2.2.2.1 a (zb zn)).1))
  (Y ((([]:List Rat),(([]:List Bool),(([]:List Rat),(([]:List Int),(([]:List ql),(([]:List Bool),())))))),([],12)))
  (X (lQ c) λ(D,d,e,f,g,b,h) =>
 X (yW 0) λk=>let j:=zL b (0+(zE a)) (false,(false,((k.1,(k.2.1,(k.2.2.1,()))),()))); let x:=zL j (0+(zE a)) (true,(false,(((nth c.2.2.1 a (zb zm)).1,((nth c.2.2.1 a (zb zm)).2.1,((nth c.2.2.1 a (zb zm)).2.2.1,()))),())));
 oI a b <|
 .W (uO b.length b.length (0+(zE a)) b.length) <|
 X (V i
  (oI a c.2.2.1 <|
 oI a b <|
 .W (uO b.length b.length (0+(zE a)) j.length) <|
 U d <|
 U e <|
 U f <|
 U g <|
 .W (b.length=x.length) <|
 U h <|
 oC d <|
 oC e <|
 oC f <|
 oC g <|
 .W (zp b.length 0 b.length x.length) <|
 oC h <|
 Y ((([]:List Rat),(([]:List Bool),(([]:List Rat),(([]:List Int),(([]:List ql),(([]:List Bool),())))))),(d,(e,(f,(g,(x,(h,()))))))))
  (U d <|
 U e <|
 U f <|
 U g <|
 .W (b.length=j.length) <|
 U h <|
 oC d <|
 oC e <|
 oC f <|
 oC g <|
 .W (zp b.length 0 b.length j.length) <|
 oC h <|
 Y ((([]:List Rat),(([]:List Bool),(([]:List Rat),(([]:List Int),(([]:List ql),(([]:List Bool),())))))),(d,(e,(f,(g,(j,(h,())))))))):T ((qe×zu×zr×zu×z7×zq×zr×Unit))) λ(κ',l,m,n,o,p,q,G) =>
 oW l m n o p q <|
 X (dJ w ((zH 0 (zI (0+l.length) l)),((zH 0 (zI (0+m.length) m)),((zH 0 (zI (0+n.length) n)),((zH 0 (zI (0+o.length) o)),((zH 0 (zI (0+p.length) p)),((zH 0 (zI (0+q.length) q)),()))))))) λ(z,A,hI,r,s,t,u,v) =>
 U r <|
 U s <|
 U t <|
 U u <|
 U v <|
 Y (((zH 0 (zI (0+r.length) r)),((zH 0 (zI (0+s.length) s)),(z.1,((zH 0 (zI (0+t.length) t)),((zH 0 (zI (0+u.length) u)),((zH 0 (zI (0+v.length) v)),())))))),(A,hI))))))
def gw(a:Param)(b:zx):T Bool :=
 Y (wL a.1 b)
def lR(k:Int):(Int×z7×(zu×zr×zu×zq×zr×Unit)×zy×z7×Unit×(qc×qg×xc×qo×xa×qq×Unit)×z7)->T ((Int×z7×(zu×zr×zu×zq×zr×Unit)×zy×z7×Unit×(qc×qg×xc×qo×xa×qq×Unit)×z7)⊕((z7×(zu×zr×zu×zq×zr×Unit)×zy×z7×Unit×(qc×qg×xc×qo×xa×qq×Unit)×z7)))
 | (g,b,c,e,a,l,f,d)=>let j:=(f.1,(f.2.1,(f.2.2.1,(f.2.2.2.1,(f.2.2.2.2.1,(f.2.2.2.2.2.1,())))))); let h:=wj a (0+(zE g)) (zb (.int .i64)); let i:=d++([(wj b (0+(zE h)) (zb (.int .i64)))]:List Int);
 V (zA (g<k))
  (oI g a <|
 .W (uO a.length a.length (0+(zE g)) a.length) <|
 oI h b <|
 .W (uO b.length b.length (0+(zE h)) b.length) <|
 oA d 8 <|
 oC a <|
 U b <|
 oC b <|
 U e <|
 U a <|
 oC e <|
 .W (zp (d.length+1) 0 (d.length+1) i.length) <|
 oC a <|
 .W ((d.length+1)=i.length) <|
 Y (zG ((qi (g+1)),(b,((c.1,(c.2.1,(c.2.2.1,(c.2.2.2.1,(c.2.2.2.2.1,()))))),(e,(a,((),(j,i)))))))))
  (U b <|
 oC b <|
 U e <|
 U a <|
 oC e <|
 oC d <|
 oC a <|
 U d <|
 Y (zF (b,((c.1,(c.2.1,(c.2.2.1,(c.2.2.2.1,(c.2.2.2.2.1,()))))),(e,(a,((),(j,d))))))))
def tP x s:=zJ (lR x) s
def lS(m:zq)(p:Int):(Int×z7×(zu×zr×zu×zq×zr×Unit)×zy×z7×Unit×(qc×qg×xc×qo×xa×qq×Unit)×z7)->T ((Int×z7×(zu×zr×zu×zq×zr×Unit)×zy×z7×Unit×(qc×qg×xc×qo×xa×qq×Unit)×z7)⊕((z7×(zu×zr×zu×zq×zr×Unit)×zy×z7×Unit×(qc×qg×xc×qo×xa×qq×Unit)×z7)))
 | (f,b,a,c,d,q,h,e)=>let n:=(h.1,(h.2.1,(h.2.2.1,(h.2.2.2.1,(h.2.2.2.2.1,(h.2.2.2.2.2.1,())))))); let i:=nth m f (zb zn); let o:=(b,((a.1,(a.2.1,(a.2.2.1,(a.2.2.2.1,(a.2.2.2.2.1,()))))),(c,(d,((),(n,e))))));
 V (zA (f<p))
  (oI f m <|
 V (!i.1)
  (U b <|
 oC b <|
 U c <|
 U d <|
 oC c <|
 oC e <|
 oC d <|
 U e <|
 Y (zG ((qi (f+1)),o)))
  (oC c <|
 oC e <|
 oC d <|
 U c <|
 U e <|
 U d <|
 X (kP f (i.2.2.1.1,(i.2.2.1.2.1,(i.2.2.1.2.2.1,()))) (bif i.2.1 then f else(-1)) n c e d) λ(g,j,k,l) =>
 U b <|
 oC b <|
 U j <|
 U l <|
 oC j <|
 oC k <|
 oC l <|
 U k <|
 Y (zG ((qi (f+1)),(b,((a.1,(a.2.1,(a.2.2.1,(a.2.2.2.1,(a.2.2.2.2.1,()))))),(j,(l,((),((g.1,(g.2.1,(g.2.2.1,(g.2.2.2.1,(g.2.2.2.2.1,(g.2.2.2.2.2.1,())))))),k))))))))))
  (U b <|
 oC b <|
 U c <|
 U d <|
 oC c <|
 oC e <|
 oC d <|
 U e <|
 Y (zF o))
def tQ x2 x3 s:=zJ (lS x2 x3) s
def ep(c:Form)(a:(zu×zr×zu×zq×zr×Unit))(b:z7):T ((Int×z7×(qc×qg×xc×qo×xa×qq×Unit)×zy×z7×z7)⊕(zo×Int×z7)) :=
 U b <|
 X (QT c (a.1,(a.2.1,(a.2.2.1,((zH 0 (zI (0+b.length) b)),(a.2.2.2.1,(a.2.2.2.2.1,()))))))) λs =>
 V (!s)
  (U b <|
 Y (zF ([],(1,b))))
  (X (mT c a.1 a.2.1) λ(t,q,h,i,g) =>
 V ((h != 0)&&(!(wL q [])))
  (U b <|
 Y (zF ([q],(h,b))))
  (V (h != 0)
  (U b <|
 Y (zF ([],(h,b))))
  (oC g <|
 U b <|
 oC b <|
 U i <|
 U g <|
 oC i <|
 .W (zp 0 0 0 0) <|
 oC g <|
 .W (0=0) <|
 X (tP (g.length:Int) (0,(b,((a.1,(a.2.1,(a.2.2.1,(a.2.2.2.1,(a.2.2.2.2.1,()))))),(i,(g,((),((c.1,(c.2.1,(c.2.2.1,(c.2.2.2.1,(c.2.2.2.2.1,(c.2.2.2.2.2.1,())))))),[])))))))) λ(j,d,k,l,u,e,m) =>
 U j <|
 oC j <|
 U k <|
 U l <|
 oC k <|
 oC m <|
 oC l <|
 U m <|
 X (tQ d.2.2.2.1 (d.2.2.2.1.length:Int) (0,(j,((d.1,(d.2.1,(d.2.2.1,(d.2.2.2.1,(d.2.2.2.2.1,()))))),(k,(l,((),((e.1,(e.2.1,(e.2.2.1,(e.2.2.2.1,(e.2.2.2.2.1,(e.2.2.2.2.2.1,())))))),m)))))))) λ(r,v,n,o,w,f,p) =>
 U r <|
 oC n <|
 oC p <|
 oC o <|
 U n <|
 U p <|
 U o <|
 Y (zG (0,(r,((f.1,(f.2.1,(f.2.2.1,(f.2.2.2.1,(f.2.2.2.2.1,(f.2.2.2.2.2.1,())))))),(n,(p,o)))))))))
def gm(b:z7)(c:z7)(d:Int):Int->T (Int⊕(Unit⊕Bool))
 | a =>
 V (zA (a<d))
  (oI a b <|
 oI a c <|
 V ((nth b a (zb (.int .u32))) != (nth c a (zb (.int .u32))))
  (Y (zF (zF false)))
  (Y (zG (qi (a+1)))))
  (Y (zF (zG ())))
def dX s11 s21 x s:=zJ (gm s11 s21 x) s
def jq(a:z7)(b:z7):T Bool :=
 V ((a.length:Int) != (b.length:Int))
  (Y false)
  (X (dX a b (a.length:Int) 0) <|
 zK (λ_ =>
 Y true)
  (λc =>
 Y c))
def Xn(e:Rat)(f:Rat):T Bool :=
 X (vF e) λa =>
 X (vF f) λb =>
 V (a.1==b.1)
  (X (jq a.2.1 b.2.1) λc =>
 V c
  (X (jq a.2.2.1 b.2.2.1) λd =>
 Y d)
  (Y false))
  (Y false)
def mN(a:Term)(b:Term):T Bool :=
 V (a.1==b.1)
  (X (Xn a.2.1 b.2.1) λc =>
 Y c)
  (Y false)
def uU(b:wB)(e:Term->Term->T Bool)(c:wB)(f:Int):Int->T (Int⊕(Unit⊕Bool))
 | a =>
 V (zA (a<f))
  (oI a c <|
 oI a b <|
 X (e (nth c a (zb qk)) (nth b a (zb qk))) λd =>
 V (!d)
  (Y (zF (zF false)))
  (Y (zG (qi (a+1)))))
  (Y (zF (zG ())))
def yv s21 eq x x1 s:=zJ (uU s21 eq x x1) s
def jo(a:wB)(b:wB)(d:Term->Term->T Bool):T Bool :=
 V ((a.length:Int) != (b.length:Int))
  (Y false)
  (X (yv b d a (a.length:Int) 0) <|
 zK (λ_ =>
 Y true)
  (λc =>
 Y c))
def Vz(a:vK)(b:vK):T Bool :=
 V (a.1==b.1)
  (X (Xn a.2.2.1 b.2.2.1) λc =>
 V c
  (X (jo a.2.1 b.2.1 (λz0 z1=>mN z0 z1)) λd =>
 Y d)
  (Y false))
  (Y false)
def nP(G:Form)(κ':Int):(Int×z7×(zu×zr×zu×zq×zr×Unit)×qe×(qc×qg×xc×qo×xa×qq×Unit)×zy×z7×z7×(qc×qg×xc×qo×xa×qq×Unit)×zy×z7×z7)->T ((Int×z7×(zu×zr×zu×zq×zr×Unit)×qe×(qc×qg×xc×qo×xa×qq×Unit)×zy×z7×z7×(qc×qg×xc×qo×xa×qq×Unit)×zy×z7×z7)⊕((z7×(zu×zr×zu×zq×zr×Unit)×qe×(qc×qg×xc×qo×xa×qq×Unit)×zy×z7×z7×(qc×qg×xc×qo×xa×qq×Unit)×zy×z7×z7)))
 | (i,f,u,D,l,a,g,c,m,b,h,d)=>let x:=(f,((u.1,(u.2.1,(u.2.2.1,(u.2.2.2.1,(u.2.2.2.2.1,()))))),(D,((l.1,(l.2.1,(l.2.2.1,(l.2.2.2.1,(l.2.2.2.2.1,(l.2.2.2.2.2.1,())))))),(a,(g,(c,((m.1,(m.2.1,(m.2.2.1,(m.2.2.2.1,(m.2.2.2.2.1,(m.2.2.2.2.2.1,())))))),(b,(h,d))))))))));
 V (zA (i<κ'))
  (U c <|
 X (uH (zH 0 (zI (0+c.length) c)) i) λv =>
 U d <|
 X (uH (zH 0 (zI (0+d.length) d)) i) λw =>
 X (V (zA (v<0))
  (U f <|
 oC f <|
 oC a <|
 oC g <|
 oC c <|
 U a <|
 U g <|
 U c <|
 oC b <|
 oC h <|
 oC d <|
 U b <|
 U h <|
 U d <|
 Y (true,x))
  (V (zA (w<0))
  (U f <|
 oC f <|
 oC a <|
 oC g <|
 oC c <|
 U a <|
 U g <|
 U c <|
 oC b <|
 oC h <|
 oC d <|
 U b <|
 U h <|
 U d <|
 Y (true,x))
  (oI v a <|
 .W (uO a.length a.length (0+(zE v)) a.length) <|
 oI w b <|
 .W (uO b.length b.length (0+(zE w)) b.length) <|
 X (Vz (wj a (0+(zE v)) (zb zt)) (wj b (0+(zE w)) (zb zt))) λA =>
 U f <|
 oC f <|
 oC a <|
 oC g <|
 oC c <|
 U a <|
 U g <|
 U c <|
 oC b <|
 oC h <|
 oC d <|
 U b <|
 U h <|
 U d <|
 Y ((!A),x))):T ((Bool×z7×(zu×zr×zu×zq×zr×Unit)×qe×(qc×qg×xc×qo×xa×qq×Unit)×zy×z7×z7×(qc×qg×xc×qo×xa×qq×Unit)×zy×z7×z7))) λ(hI,e,n,C,j,o,p,q,k,r,s,t)=>let y:=zL e (0+(zE i)) (-1); let z:=((n.1,(n.2.1,(n.2.2.1,(n.2.2.2.1,(n.2.2.2.2.1,()))))),(C,((j.1,(j.2.1,(j.2.2.1,(j.2.2.2.1,(j.2.2.2.2.1,(j.2.2.2.2.2.1,())))))),(o,(p,(q,((k.1,(k.2.1,(k.2.2.1,(k.2.2.2.1,(k.2.2.2.2.1,(k.2.2.2.2.2.1,())))))),(r,(s,t)))))))));
 V hI
  (oI i e <|
 .W (uO e.length e.length (0+(zE i)) e.length) <|
 .W (e.length=y.length) <|
 .W (zp e.length 0 e.length y.length) <|
 oC o <|
 oC p <|
 oC q <|
 U o <|
 U p <|
 U q <|
 oC r <|
 oC s <|
 oC t <|
 U r <|
 U s <|
 U t <|
 Y (zG ((qi (i+1)),(y,z))))
  (U e <|
 oC e <|
 oC o <|
 oC p <|
 oC q <|
 U o <|
 U p <|
 U q <|
 oC r <|
 oC s <|
 oC t <|
 U r <|
 U s <|
 U t <|
 Y (zG ((qi (i+1)),(e,z)))))
  (U f <|
 oC f <|
 oC a <|
 oC g <|
 oC c <|
 U a <|
 U g <|
 U c <|
 oC b <|
 oC h <|
 oC d <|
 U b <|
 U h <|
 U d <|
 Y (zF x))
def Qn f1 x1 s:=zJ (nP f1 x1) s
end Go.AM.Lf
