/-
  The program's functions as trees in plain Lean, part 0: printed by a program of ours.
-/
import Derived.Test.YtbccccfmfeihfaaGreatDoorAmA
set_option linter.unusedVariables false
open Decidable renaming decide -> zA
open Go.AM.T renaming ret -> Y, bind -> M, ite -> U, loop -> zJ
open Int renaming toNat -> zE, tmod -> zP, tdiv -> zQ
open Sum renaming inr -> zF, inl -> zG, elim -> zK
open List renaming drop -> zH, take -> zI, set -> zL, replicate -> zM, length -> zO
open Nat renaming cast -> zN
noncomputable section
namespace Go.AM.Lf
abbrev jC:Ty:=(.cons .str .nil)
abbrev gN:=den jC
abbrev oD:Ty:=(.cons .str (.cons (.int .u64) .nil))
abbrev Ho:=den oD
abbrev qw:Ty:=(.cons .str (.cons .bool .nil))
abbrev Switch:=den qw
abbrev xy:Ty:=(.cons .str jC)
abbrev eY:=den xy
abbrev uB:Ty:=(.cons (.int .i64) (.cons (.int .i64) .nil))
abbrev xi:=den uB
abbrev sJ:Ty:=(.cons (.int .u8) (.cons (.int .u8) .nil))
abbrev Br:=den sJ
abbrev wG:Ty:=(.cons (.int .i64) (.cons (.sl .str) jC))
abbrev Answer:=den wG
abbrev jD:Ty:=(.cons (.sl .str) (.cons (.sl .str) .nil))
abbrev vC:=den jD
abbrev X4:Ty:=(.cons (.int .i64) (.cons (.int .i64) (.cons .bool (.cons (.int .u8) .nil))))
abbrev Lc:=den X4
abbrev zm:Ty:=(.cons .bool (.cons (.sl (.int .u32)) (.cons (.sl (.int .u32)) .nil)))
abbrev Rat:=den zm
abbrev qy:Ty:=(.cons .str (.cons (.int .i64) (.cons .bool (.cons (.int .i64) .nil))))
abbrev Field:=den qy
abbrev xn:Ty:=(.cons .str (.cons (.int .i64) (.cons (.int .i64) (.cons .bool .nil))))
abbrev ze:=den xn
abbrev xp:Ty:=(.cons .str (.cons (.int .i64) (.cons .str (.cons .expr (.cons .expr .nil)))))
abbrev eC:=den xp
abbrev xm:Ty:=(.cons .str (.cons (.int .i64) (.cons (.int .i64) (.cons .expr (.cons .expr .nil)))))
abbrev Check:=den xm
abbrev ql:Ty:=(.cons .str (.cons zm .nil))
abbrev Param:=den ql
abbrev qq:Ty:=(.cons (.int .i64) (.cons zm .nil))
abbrev Term:=den qq
abbrev gU:Ty:=(.cons (.int .i64) (.cons .str (.cons zm (.cons .bool .nil))))
abbrev Op:=den gU
abbrev zk:Ty:=(.cons .bool (.cons .bool (.cons zm .nil)))
abbrev qh:=den zk
abbrev j6:Ty:=(.cons (.sl (.int .i64)) (.cons (.sl zm) .nil))
abbrev ji:=den j6
abbrev wM:Ty:=(.cons (.sl .str) (.cons (.sl .str) (.cons (.sl zm) .nil)))
abbrev wu:=den wM
abbrev zw:Ty:=(.cons (.int .i64) (.cons (.sl qq) (.cons zm .nil)))
abbrev vR:=den zw
abbrev Bp:Ty:=(.cons (.sl zw) (.cons (.sl (.int .i64)) .nil))
abbrev zb2:=den Bp
abbrev Wh:Ty:=(.cons (.sl zw) (.cons (.sl (.int .i64)) (.cons (.sl (.int .i64)) .nil)))
abbrev z6S:=den Wh
abbrev qz:Ty:=(.cons (.sl qw) (.cons (.sl ql) (.cons (.sl xy) (.cons (.sl qy) (.cons (.sl xp) (.cons (.sl xm) .nil))))))
abbrev Form:=den qz
abbrev qg:Ty:=(.cons (.sl zm) (.cons (.sl .bool) (.cons (.sl zm) (.cons (.sl (.int .i64)) (.cons (.sl zk) (.cons (.sl .bool) .nil))))))
abbrev zt:=den qg
abbrev uH:Ty:=(.cons qz Wh)
abbrev uz:=den uH
abbrev xa:Ty:=(.cons qz (.cons qg (.cons jD (.cons (.int .i64) (.cons .bool .nil)))))
abbrev zq:=den xa
abbrev qf:=List Switch
abbrev z7:=List Int
abbrev qm:=List Param
abbrev xg:=List eY
abbrev qu:=List Field
abbrev zr:=List q9
abbrev dm:=List AM.Expr
abbrev xb:=List eC
abbrev qv:=List Check
abbrev zp:=List Rat
abbrev zo:=List Bool
abbrev wD:=List Term
abbrev qc:=List vR
abbrev zn:=List qh
abbrev YL:=List Op
abbrev ft:=List Answer
def cG(a:Int):T Bool :=
 Y ((zA (97<=a))&&(zA (a<=122)))
def ko(a:Int):T Bool :=
 Y ((zA (48<=a))&&(zA (a<=57)))
def cf(a:Int):T Bool :=
 M (cG a) λb =>
 U b
  (Y true)
  (M (ko a) λc =>
 U c
  (Y true)
  (Y (a==95)))
def Q3(b:q9)(d:Int):Int->T (Int⊕(Unit⊕Bool))
 | a =>
 U (zA (a<d))
  (oI a b <|
 M (cf (uC b a)) λc =>
 U (!c)
  (Y (zF (zF false)))
  (Y (zG (qj (a+1)))))
  (Y (zF (zG ())))
def Q2 s1 x1 s:=zJ (Q3 s1 x1) s
def uX(a:q9):T Bool :=
 M (U (wP a [])
  (Y true)
  (U (zA (24<(a.length:Int)))
  (Y true)
  (oI 0 a <|
 M (cG (uC a 0)) λb =>
 Y (!b))):T Bool) λc =>
 U c
  (Y false)
  (M (Q2 a (a.length:Int) 0) <|
 zK (λ_ =>
 Y true)
  (λd =>
 Y d))
def yU(b:Switch):T Bool :=
 M (uX b.1) λa =>
 Y (!a)
def vb(b:qf)(d:Switch->T Bool)(e:Int):Int->T (Int⊕(Unit⊕Int))
 | a =>
 U (zA (a<e))
  (oI a b <|
 M (d (nth b a (zb qw))) λc =>
 U c
  (Y (zF (zF a)))
  (Y (zG (qj (a+1)))))
  (Y (zF (zG ())))
def nQ s1 f x s:=zJ (vb s1 f x) s
def wh(a:qf)(c:Switch->T Bool):T Int :=
 M (nQ a c (a.length:Int) 0) <|
 zK (λ_ =>
 Y (-1))
  (λb =>
 Y b)
def vO(b:qf)(c:Switch->T Bool):T Bool :=
 M (wh b c) λa =>
 Y (zA (0<=a))
def Qh(a:z7):T Bool :=
 .W ((((a.length:Int)==0)=false)->(xf (qj ((a.length:Int)-1)) a.length)) <|
 Y (((a.length:Int)==0)||((nth a (qj ((a.length:Int)-1)) (zb (.int .u32))) != 0))
def tw  : z7->T (z7⊕z7)
 | a =>
 M (Qh a) λb =>
 U (!b)
  (.W (jf 0 (qj ((a.length:Int)-1)) a.length) <|
 Y (zG (uI (e:=(.int .u32)) 0 (qj ((a.length:Int)-1)) a)))
  (Y (zF a))
def XQ(s:z7):T z7:=zJ (tw ) s
def ue(b:z7):T z7 :=
 M (XQ  b) λa =>
 Y a
def yl(a:z7):T z7 :=
 let b:=0+a.length;  .W (a=[]->∀ r,T.leads (.W (vV 0 0 0 0 0 a.length 4) <|
 .W (b=b) <|
 Y (zH 0 (zI (0+b) a)):T _) r->T.leads (Y []:T _) r) <|
 .W (vV 0 0 0 0 0 a.length 4) <|
 .W (b=b) <|
 Y (zH 0 (zI (0+b) a))
def iQ(c:z7):T z7 :=
 M (ue c) λa =>
 M (yl a) λb =>
 Y b
def rW(b:z7)(c:z7):Int->T (Int⊕(Unit⊕Int))
 | a =>
 U (zA (0<=a))
  (oI a b <|
 oI a c <|
 U ((nth b a (zb (.int .u32))) != (nth c a (zb (.int .u32))))
  (oI a b <|
 oI a c <|
 U (zA ((nth b a (zb (.int .u32)))<(nth c a (zb (.int .u32)))))
  (Y (zF (zF (-1))))
  (Y (zF (zF 1))))
  (Y (zG (qj (a-1)))))
  (Y (zF (zG ())))
def GX a2 b2 s:=zJ (rW a2 b2) s
def tq(d:z7)(e:z7):T Int :=
 M (ue d) λa =>
 M (ue e) λb =>
 U ((a.length:Int) != (b.length:Int))
  (U (zA ((a.length:Int)<(b.length:Int)))
  (Y (-1))
  (Y 1))
  (M (GX a b (qj ((a.length:Int)-1))) <|
 zK (λ_ =>
 Y 0)
  (λc =>
 Y c))
def eU(b:Int)(c:Int)(a:Int):T (Int×Int) :=
 U ((a != 0)&&(zA (a<=b)))
  (.fail)
  (.W (0<=(32:Int)) <|
 .W ((xr a)≠0) <|
 .W ((xr a)≠0) <|
 Y ((jT (xr (zQ (Um .u64 (fS .u64 (xr b) 32) (xr c)) (xr a)))),(jT (zP (Um .u64 (fS .u64 (xr b) 32) (xr c)) (xr a)))))
def pc(e:z7)(g:Int):(Int×Int×z7)->T ((Int×Int×z7)⊕((Int×z7)))
 | (d,b,a) =>
 U (zA (0<=b))
  (oI b e <|
 M (eU d (nth e b (zb (.int .u32))) g) λ(c,f) =>
 oI b a <|
 .W (uM a.length a.length (0+(zE b)) a.length) <|
 oM a.length (zL a (0+(zE b)) c).length <|
 Y (zG (f,((qj (b-1)),(zL a (0+(zE b)) c)))))
  (oC a <|
 V a <|
 Y (zF (d,a)))
def J9 a1 b1 s:=zJ (pc a1 b1) s
def pK(a:z7)(e:Int):T (z7×Int) :=
 .W (dH (a.length:Int) (a.length:Int) 4) <|
 oM (zE (a.length:Int)) (zM (zE (a.length:Int)) (0:Int)).length <|
 M (J9 a e (0,((qj ((a.length:Int)-1)),(zM (zE (a.length:Int)) 0)))) λ(c,b) =>
 V b <|
 M (ue (zH 0 (zI (0+b.length) b))) λd =>
 Y (d,c)
def iL(a:Int):T z7 :=
 .W (0<=(32:Int)) <|
 M (ue ([(jT a),(jT (j8 .u64 a 32))]:List Int)) λb =>
 Y b
def eV(b:Int):T Int :=
 let a:=bif (zA (65536<=b))then(j8 .u32 b 16)else b;  .W (((zA (65536<=b))=true)->(0<=(16:Int))) <|
 .W (((zA (256<=a))=true)->(0<=(8:Int))) <|
 .W (xf (wu8 (bif (zA (256<=a))then(j8 .u32 a 8)else a)) ([0,1,2,2,3,3,3,3,4,4,4,4,4,4,4,4,5,5,5,5,5,5,5,5,5,5,5,5,5,5,5,5,6,6,6,6,6,6,6,6,6,6,6,6,6,6,6,6,6,6,6,6,6,6,6,6,6,6,6,6,6,6,6,6,7,7,7,7,7,7,7,7,7,7,7,7,7,7,7,7,7,7,7,7,7,7,7,7,7,7,7,7,7,7,7,7,7,7,7,7,7,7,7,7,7,7,7,7,7,7,7,7,7,7,7,7,7,7,7,7,7,7,7,7,7,7,7,7,8,8,8,8,8,8,8,8,8,8,8,8,8,8,8,8,8,8,8,8,8,8,8,8,8,8,8,8,8,8,8,8,8,8,8,8,8,8,8,8,8,8,8,8,8,8,8,8,8,8,8,8,8,8,8,8,8,8,8,8,8,8,8,8,8,8,8,8,8,8,8,8,8,8,8,8,8,8,8,8,8,8,8,8,8,8,8,8,8,8,8,8,8,8,8,8,8,8,8,8,8,8,8,8,8,8,8,8,8,8,8,8,8,8,8,8,8,8,8,8,8,8,8,8,8,8,8,8]:q9).length) <|
 Y (qj ((bif (zA (256<=a))then(qj ((bif (zA (65536<=b))then 16 else 0)+8))else(bif (zA (65536<=b))then 16 else 0))+(qj (uC [0,1,2,2,3,3,3,3,4,4,4,4,4,4,4,4,5,5,5,5,5,5,5,5,5,5,5,5,5,5,5,5,6,6,6,6,6,6,6,6,6,6,6,6,6,6,6,6,6,6,6,6,6,6,6,6,6,6,6,6,6,6,6,6,7,7,7,7,7,7,7,7,7,7,7,7,7,7,7,7,7,7,7,7,7,7,7,7,7,7,7,7,7,7,7,7,7,7,7,7,7,7,7,7,7,7,7,7,7,7,7,7,7,7,7,7,7,7,7,7,7,7,7,7,7,7,7,7,8,8,8,8,8,8,8,8,8,8,8,8,8,8,8,8,8,8,8,8,8,8,8,8,8,8,8,8,8,8,8,8,8,8,8,8,8,8,8,8,8,8,8,8,8,8,8,8,8,8,8,8,8,8,8,8,8,8,8,8,8,8,8,8,8,8,8,8,8,8,8,8,8,8,8,8,8,8,8,8,8,8,8,8,8,8,8,8,8,8,8,8,8,8,8,8,8,8,8,8,8,8,8,8,8,8,8,8,8,8,8,8,8,8,8,8,8,8,8,8,8,8,8,8,8,8,8,8] (wu8 (bif (zA (256<=a))then(j8 .u32 a 8)else a))))))
def ku(b:Int):T Int :=
 M (eV b) λa =>
 Y (qj (32-a))
def Vh(e:Int)(h:Int)(f:z7)(i:Int):(Int×z7)->T ((Int×z7)⊕z7)
 | (b,a)=>let c:=qj (b+1); let d:=zL a (0+(zE b)) (Um .u32 (wm a (0+(zE b)) (zb (.int .u32))) (jT (fS .u64 (xr (nth f b (zb (.int .u32)))) e))); let g:=zL d (0+(zE c)) (jT (j8 .u64 (fS .u64 (xr (nth f b (zb (.int .u32)))) e) 32));
 U (zA (b<i))
  (oI b f <|
 .W (0<=e) <|
 oI b a <|
 .W (uM a.length a.length (0+(zE b)) a.length) <|
 oI b a <|
 .W (uM a.length a.length (0+(zE b)) a.length) <|
 U (zA (c<h))
  (.W (0<=(32:Int)) <|
 oI c a <|
 .W (uM a.length a.length (0+(zE c)) d.length) <|
 oM a.length g.length <|
 Y (zG (c,g)))
  (oM a.length d.length <|
 Y (zG (c,d))))
  (oC a <|
 V a <|
 Y (zF a))
def Vg by_1 n1 x x1 s:=zJ (Vh by_1 n1 x x1) s
def rY(c:z7)(d:Int)(a:Int):T z7 :=
 .W (dH a a 4) <|
 oM (zE a) (zM (zE a) (0:Int)).length <|
 M (Vg d a c (c.length:Int) (0,(zM (zE a) 0))) λb =>
 oC b <|
 V b <|
 Y b
def iR(d:Int)(c:Int)(e:Int):(Int×Int)->T ((Int×Int)⊕Int)
 | (a,b) =>
 .W ((0<=(32:Int))/\((((j8 .u64 a 32) != 0)=false)->(0<=(32:Int)))) <|
 U (((j8 .u64 a 32) != 0)||(zA ((Um .u64 (fS .u64 b 32) (xr d))<(xr (a*(xr e))))))
  (.W (0<=(32:Int)) <|
 U ((j8 .u64 (xr (b+(xr c))) 32) != 0)
  (Y (zF (xr (a-1))))
  (Y (zG ((xr (a-1)),(xr (b+(xr c)))))))
  (Y (zF a))
def J6 low1 b11 b21 s:=zJ (iR low1 b11 b21) s
def pJ(b:Int)(c:Int)(e:Int)(a:Int)(f:Int):T Int :=
 .W (0<=(32:Int)) <|
 .W ((xr a)≠0) <|
 .W ((xr a)≠0) <|
 M (J6 e a f ((xr (zQ (Um .u64 (fS .u64 (xr b) 32) (xr c)) (xr a))),(zP (Um .u64 (fS .u64 (xr b) 32) (xr c)) (xr a)))) λd =>
 Y d
def y7(a:Int)(b:Int)(c:Int):T (Int×Int) :=
 .W (0<=(31:Int)) <|
 Y ((jT ((jT (a-b))-c)),(j8 .u32 (Um .u32 (YR .u32 (Nf .u32 4294967295 a) b) (YR .u32 (Nf .u32 4294967295 (Nf .u32 a b)) (jT ((jT (a-b))-c)))) 31))
def eT(a:Int)(b:Int)(c:Int):T (Int×Int) :=
 .W (0<=(32:Int)) <|
 Y ((jT (xr ((xr ((xr a)+(xr b)))+(xr c)))),(jT (j8 .u64 (xr ((xr ((xr a)+(xr b)))+(xr c))) 32)))
def iS(l:z7)(i:Int)(f:z7)(k:Int):((Nat×Nat)×Int×Int×Int×z7)->T (((Nat×Nat)×Int×Int×Int×z7)⊕(((Nat×Nat)×Int×Int×z7)))
 | (c,e,h,b,a)=>let d:=c.1+(zE b);
 U (zA (b<k))
  (oI b f <|
 .W (xf b c.2) <|
 .W (uM a.length a.length d a.length) <|
 M (y7 (wm a d (zb (.int .u32))) (jT (xr (e+(xr (i*(xr (nth f b (zb (.int .u32))))))))) h) λ(g,j) =>
 .W (xf b c.2) <|
 .W (uM a.length a.length d a.length) <|
 .W (0<=(32:Int)) <|
 V a <|
 .W (a.length=(zL a d g).length) <|
 Y (zG (c,((j8 .u64 (xr (e+(xr (i*(xr (nth f b (zb (.int .u32)))))))) 32),(j,((qj (b+1)),(zL a d g)))))))
  (V a <|
 V a <|
 Y (zF (c,(e,(h,a)))))
def XO b1 q1 x x1 s:=zJ (iS b1 q1 x x1) s
def iT(j:z7)(g:z7)(i:Int):((Nat×Nat)×Int×Int×z7)->T (((Nat×Nat)×Int×Int×z7)⊕(((Nat×Nat)×Int×z7)))
 | (c,f,b,a)=>let d:=c.1+(zE b);
 U (zA (b<i))
  (oI b g <|
 .W (xf b c.2) <|
 .W (uM a.length a.length d a.length) <|
 M (eT (wm a d (zb (.int .u32))) (nth g b (zb (.int .u32))) f) λ(e,h) =>
 .W (xf b c.2) <|
 .W (uM a.length a.length d a.length) <|
 V a <|
 .W (a.length=(zL a d e).length) <|
 Y (zG (c,(h,((qj (b+1)),(zL a d e))))))
  (V a <|
 V a <|
 Y (zF (c,(f,a))))
def XP b2 x3 x4 s:=zJ (iT b2 x3 x4) s
def tv(o:(Nat×Nat))(b:z7)(p:Int)(h:z7):T (Bool×z7) :=
 let d:=zE (b.length:Int);  V h <|
 V h <|
 M (XO b p b (b.length:Int) (o,(0,(0,(0,h))))) λ(e,j,k,a) =>
 .W (xf (b.length:Int) e.2) <|
 .W (uM a.length a.length (e.1+d) a.length) <|
 M (y7 (wm a (e.1+d) (zb (.int .u32))) (jT j) k) λ(l,m)=>let g:=zL a (e.1+d) l;
 .W (xf (b.length:Int) e.2) <|
 .W (uM a.length a.length (e.1+d) a.length) <|
 U (m==0)
  (.W (a.length=g.length) <|
 Y (false,g))
  (V a <|
 .W (a.length=g.length) <|
 M (XP b b (b.length:Int) (e,(0,(0,g)))) λ(f,n,c)=>let i:=zL c (f.1+d) (jT ((wm c (f.1+d) (zb (.int .u32)))+n));
 .W (xf (b.length:Int) f.2) <|
 .W (uM c.length c.length (f.1+d) c.length) <|
 .W (xf (b.length:Int) f.2) <|
 .W (uM c.length c.length (f.1+d) c.length) <|
 .W (c.length=i.length) <|
 Y (true,i))
def nE(e:Int)(h:Int)(f:z7)(i:Int):(Int×z7)->T ((Int×z7)⊕z7)
 | (b,a)=>let c:=qj (b+1); let d:=zL a (0+(zE b)) (Um .u32 (wm a (0+(zE b)) (zb (.int .u32))) (jT (fS .u64 (xr (nth f b (zb (.int .u32)))) e))); let g:=zL d (0+(zE c)) (jT (j8 .u64 (fS .u64 (xr (nth f b (zb (.int .u32)))) e) 32));
 U (zA (b<i))
  (oI b f <|
 .W (0<=e) <|
 oI b a <|
 .W (uM a.length a.length (0+(zE b)) a.length) <|
 oI b a <|
 .W (uM a.length a.length (0+(zE b)) a.length) <|
 U (zA (c<h))
  (.W (0<=(32:Int)) <|
 oI c a <|
 .W (uM a.length a.length (0+(zE c)) d.length) <|
 oM a.length g.length <|
 Y (zG (c,g)))
  (oM a.length d.length <|
 Y (zG (c,d))))
  (oC a <|
 V a <|
 Y (zF a))
def KM by_1 n1 x x1 s:=zJ (nE by_1 n1 x x1) s
def J7(c:z7)(d:Int)(a:Int):T z7 :=
 .W (dH a a 4) <|
 oM (zE a) (zM (zE a) (0:Int)).length <|
 M (KM d a c (c.length:Int) (0,(zM (zE a) 0))) λb =>
 V b <|
 Y (zH 0 (zI (0+b.length) b))
def iP(e:Int)(f:z7)(h:Int):(Int×z7)->T ((Int×z7)⊕z7)
 | (b,a)=>let d:=0+(zE (qj (b-1))); let c:=zL a (0+(zE b)) (Um .u32 (wm a (0+(zE b)) (zb (.int .u32))) (jT (j8 .u64 (j8 .u64 (fS .u64 (xr (nth f b (zb (.int .u32)))) 32) e) 32))); let g:=zL c d (Um .u32 (wm c d (zb (.int .u32))) (jT (j8 .u64 (fS .u64 (xr (nth f b (zb (.int .u32)))) 32) e)));
 U (zA (b<h))
  (oI b f <|
 .W (0<=(32:Int)) <|
 .W (0<=e) <|
 oI b a <|
 .W (uM a.length a.length (0+(zE b)) a.length) <|
 .W (0<=(32:Int)) <|
 oI b a <|
 .W (uM a.length a.length (0+(zE b)) a.length) <|
 U (zA (0<b))
  (oI (qj (b-1)) a <|
 .W (uM a.length a.length d c.length) <|
 oI (qj (b-1)) a <|
 .W (uM a.length a.length d c.length) <|
 oM a.length g.length <|
 Y (zG ((qj (b+1)),g)))
  (oM a.length c.length <|
 Y (zG ((qj (b+1)),c))))
  (oC a <|
 V a <|
 Y (zF a))
def J4 by_ x x1 s:=zJ (iP by_ x x1) s
def mr(m:z7)(n:Int):T z7 :=
 let g:=rV (dZ n (-4096)) 4096; let d:=qj (zQ g (32:Int)); let c:=qj (zQ (qj (0-g)) (32:Int));  M (ue m) λf=>let a:=(f.length:Int); let i:=qj ((qj (d+a))+1); let b:=zE i;
 U (zA (g<0))
  (.W (32≠(0:Int)) <|
 U (zA (a<=c))
  (Y [])
  (.W (32≠(0:Int)) <|
 .W (dH (qj (a-c)) (qj (a-c)) 4) <|
 .W (jf c a f.length) <|
 oM (zE (qj (a-c))) (zM (zE (qj (a-c))) (0:Int)).length <|
 M (J4 (xr (zP (qj (0-g)) (32:Int))) (uI (e:=(.int .u32)) c a f) (zN (uI (e:=(.int .u32)) c a f).length:Int) (0,(zM (zE (qj (a-c))) 0))) λh =>
 V h <|
 M (ue (zH 0 (zI (0+h.length) h))) λj =>
 Y j))
  (.W (32≠(0:Int)) <|
 .W (dH i i 4) <|
 .W (jf d (zN b:Int) b) <|
 .W (32≠(0:Int)) <|
 M (J7 f (xr (zP g (32:Int))) (qj (a+1))) λk =>
 .W (Xj b b (0+(zE d)) ((zE (zN b:Int))-(zE d)) (zM b (0:Int)).length) <|
 .W (b=b) <|
 M (ue (zH 0 (zI (0+b) (yx (0+(zE d)) ((zE (zN b:Int))-(zE d)) (zM b 0) k)))) λl =>
 Y l)
def nF(m:Int)(g:z7)(c:Int):(Int×z7×z7)->T ((Int×z7×z7)⊕((z7×z7)))
 | (b,a,d) =>
 U (zA (0<=b))
  (oI (qj (b+c)) a <|
 .W (uM a.length a.length (0+(zE (qj (b+c)))) a.length) <|
 oI (qj ((qj (b+c))-1)) a <|
 .W (uM a.length a.length (0+(zE (qj ((qj (b+c))-1)))) a.length) <|
 oI (qj ((qj (b+c))-2)) a <|
 .W (uM a.length a.length (0+(zE (qj ((qj (b+c))-2)))) a.length) <|
 oI (qj (c-1)) g <|
 oI (qj (c-2)) g <|
 M (pJ (wm a (0+(zE (qj (b+c)))) (zb (.int .u32))) (wm a (0+(zE (qj ((qj (b+c))-1)))) (zb (.int .u32))) (wm a (0+(zE (qj ((qj (b+c))-2)))) (zb (.int .u32))) (nth g (qj (c-1)) (zb (.int .u32))) (nth g (qj (c-2)) (zb (.int .u32)))) λh =>
 M (.W (jf b (qj ((qj (b+c))+1)) a.length) <|
 V a <|
 V a <|
 M (tv ((0+(zE b)),((zE (qj ((qj (b+c))+1)))-(zE b))) g h a) λ(k,f) =>
 U k
  (oC d <|
 .W (zu a.length 0 a.length f.length) <|
 V f <|
 V d <|
 Y ((xr (h-1)),(f,d)))
  (oC d <|
 .W (zu a.length 0 a.length f.length) <|
 V f <|
 V d <|
 Y (h,(f,d))):T ((Int×z7×z7))) λ(l,i,e)=>let j:=zL e (0+(zE b)) (jT l);
 oI b e <|
 .W (uM e.length e.length (0+(zE b)) e.length) <|
 .W (zu e.length 0 e.length j.length) <|
 oC i <|
 V i <|
 .W (e.length=j.length) <|
 Y (zG ((qj (b-1)),(i,j))))
  (oC d <|
 oC a <|
 V a <|
 V d <|
 Y (zF (a,d)))
def KN by_ d n s:=zJ (nF by_ d n) s
def J8(i:z7)(c:z7):T (z7×z7) :=
 oI (qj ((c.length:Int)-1)) c <|
 M (ku (nth c (qj ((c.length:Int)-1)) (zb (.int .u32)))) λf =>
 M (rY i (xr f) (qj ((i.length:Int)+1))) λg =>
 M (rY c (xr f) (c.length:Int)) λa=>let j:=qj ((qj ((i.length:Int)-(a.length:Int)))+1); let b:=zE j;
 .W (dH j j 4) <|
 V a <|
 .W (zu b 0 b (zM b (0:Int)).length) <|
 oC g <|
 V g <|
 .W (b=(zM b (0:Int)).length) <|
 M (KN (xr f) (zH 0 (zI (0+a.length) a)) (a.length:Int) ((qj ((zN b:Int)-1)),(g,(zM b 0)))) λ(d,h) =>
 V h <|
 V d <|
 M (ue (zH 0 (zI (0+h.length) h))) λk =>
 .W (jf 0 (a.length:Int) (zH 0 (zI (0+d.length) d)).length) <|
 M (mr (uI (e:=(.int .u32)) 0 (a.length:Int) (zH 0 (zI (0+d.length) d))) (qj (0-(qj (xr f))))) λl =>
 Y (k,l)
def dI(j:z7)(k:z7):T (z7×z7×Bool) :=
 M (ue j) λb =>
 M (ue k) λa =>
 U ((a.length:Int)==0)
  (Y ([],([],false)))
  (M (tq b a) λc =>
 U (zA (c<0))
  (M (iQ b) λd =>
 Y ([],(d,true)))
  (U ((a.length:Int)==1)
  (oI 0 a <|
 M (pK b (nth a 0 (zb (.int .u32)))) λ(e,f) =>
 M (iL (xr f)) λg =>
 Y (e,(g,true)))
  (M (J8 b a) λ(h,i) =>
 Y (h,(i,true)))))
def rX  : (z7×z7)->T ((z7×z7)⊕z7)
 | (b,a) =>
 U (zA (0<(a.length:Int)))
  (M (dI b a) λ(d,c,e) =>
 Y (zG (a,c)))
  (Y (zF b))
def GY(s:(z7×z7)):T z7:=zJ (rX ) s
def WG(d:z7)(e:z7):T z7 :=
 M (iQ d) λa =>
 M (iQ e) λb =>
 M (GY  (a,b)) λc =>
 Y c
def tU(a:Rat):T Bool :=
 M (M (Qh a.2.1) λb =>
 U (!b)
  (Y true)
  (M (Qh a.2.2.1) λc =>
 U (!c)
  (Y true)
  (U ((a.2.2.1.length:Int)==0)
  (Y true)
  (U a.1
  (Y ((a.2.1.length:Int)==0))
  (Y false)))):T Bool) λd =>
 U d
  (Y false)
  (M (WG a.2.1 a.2.2.1) λe =>
 M (iL 1) λf =>
 M (tq e f) λg =>
 Y (g==0))
def sa(g:Bool)(h:z7)(i:z7):T Rat :=
 M (iQ h) λa =>
 M (iQ i) λb =>
 U (((a.length:Int)==0)||((b.length:Int)==0))
  (M (iL 1) λd =>
 Y (false,(([]:List Int),(d,()))))
  (M (WG a b) λc =>
 M (dI a c) λ(e,j,k) =>
 M (dI b c) λ(f,l,m) =>
 Y (g,(e,(f,()))))
def vN(a:Rat):T Rat :=
 M (sa a.1 a.2.1 a.2.2.1) λb =>
 Y b
def cK(b:Rat):T Bool :=
 M (vN b) λa =>
 Y ((zA (16<(a.2.1.length:Int)))||(zA (16<(a.2.2.1.length:Int))))
def yV(a:Param):T Bool :=
 M (uX a.1) λb =>
 U (!b)
  (Y true)
  (M (tU a.2.1) λc =>
 U (!c)
  (Y true)
  (M (cK a.2.1) λd =>
 Y d))
def j9(b:qm)(d:Param->T Bool)(e:Int):Int->T (Int⊕(Unit⊕Int))
 | a =>
 U (zA (a<e))
  (oI a b <|
 M (d (nth b a (zb ql))) λc =>
 U c
  (Y (zF (zF a)))
  (Y (zG (qj (a+1)))))
  (Y (zF (zG ())))
def oz s1 f x s:=zJ (j9 s1 f x) s
def vQ(a:qm)(c:Param->T Bool):T Int :=
 M (oz a c (a.length:Int) 0) <|
 zK (λ_ =>
 Y (-1))
  (λb =>
 Y b)
def vW(b:qm)(c:Param->T Bool):T Bool :=
 M (vQ b c) λa =>
 Y (zA (0<=a))
def lr(a:q9):T Bool :=
 U (wP a [])
  (Y true)
  (M (uX a) λb =>
 Y b)
def yW(a:eY):T Bool :=
 M (uX a.1) λb =>
 U (!b)
  (Y true)
  (M (lr a.2.1) λc =>
 Y (!c))
def yp(b:xg)(d:eY->T Bool)(e:Int):Int->T (Int⊕(Unit⊕Int))
 | a =>
 U (zA (a<e))
  (oI a b <|
 M (d (nth b a (zb xy))) λc =>
 U c
  (Y (zF (zF a)))
  (Y (zG (qj (a+1)))))
  (Y (zF (zG ())))
def pC s1 f x s:=zJ (yp s1 f x) s
def j4(a:xg)(c:eY->T Bool):T Int :=
 M (pC a c (a.length:Int) 0) <|
 zK (λ_ =>
 Y (-1))
  (λb =>
 Y b)
def ym(b:xg)(c:eY->T Bool):T Bool :=
 M (j4 b c) λa =>
 Y (zA (0<=a))
def tH(b:Form):T Bool :=
 M (vO b.1 (λa=>yU a)) λc =>
 U (!c)
  (M (vW b.2.1 (λa=>yV a)) λd =>
 U (!d)
  (M (ym b.2.2.1 (λa=>yW a)) λe =>
 Y (!e))
  (Y false))
  (Y false)
def lq(a:Int)(b:Int)(c:Int):T Bool :=
 Y ((zA ((dZ b 0)<=a))&&(zA (a<c)))
def oq(i:Form)(c:qu)(j:Int):(Int×Int)->T ((Int×Int)⊕(Unit⊕Bool))
 | (h,b)=>let a:=nth c b (zb qy);
 U (zA (b<j))
  (oI b c <|
 M (M (uX a.1) λd =>
 U (!d)
  (Y (true,a))
  (M (lq a.2.1 h (i.2.2.1.length:Int)) λe =>
 U (!e)
  (Y (true,a))
  (U (zA (a.2.2.2.1<(0:Int)))
  (Y (true,a))
  (Y ((zA ((9:Int)<a.2.2.2.1)),a)))):T ((Bool×Field))) λ(f,g) =>
 U f
  (Y (zF (zF false)))
  (Y (zG (g.2.1,(qj (b+1))))))
  (Y (zF (zG ())))
def oo f1 x x1 s:=zJ (oq f1 x x1) s
def pz(a:Form):T Bool :=
 M (oo a a.2.2.2.1 (a.2.2.2.1.length:Int) (0,0)) <|
 zK (λ_ =>
 Y true)
  (λb =>
 Y b)
def bJ  : T zr :=
 Y ([[61],[60],[60,61]]:List q9)
def Wy(a:Int):T Int :=
 U (bif (a==1)then(a==1)else(a==2))
  (Y 0)
  (U (a==7)
  (Y 1)
  (U (a==3)
  (Y 2)
  (U (a==4)
  (Y 2)
  (U (a==5)
  (Y 2)
  (U (a==6)
  (Y 2)
  (Y (-1)))))))
def VU(j:z7)(d:Int)(h:Int)(k:z7)(l:Int)(m:Int)(g:z7)(i:Int):(Int×Int×z7)->T ((Int×Int×z7)⊕((Int×z7)))
 | (f,b,a)=>let c:=0+(zE (qj (d+b))); let e:=xr (f+(xr ((xr ((xr h)*(xr (nth g b (zb (.int .u32))))))+(xr (wm a c (zb (.int .u32)))))));
 U (zA (b<i))
  (oI b g <|
 oI (qj (d+b)) a <|
 .W (uM a.length a.length c a.length) <|
 oI (qj (d+b)) a <|
 .W (uM a.length a.length c a.length) <|
 .W (0<=(32:Int)) <|
 oM a.length (zL a c (jT e)).length <|
 Y (zG ((j8 .u64 e 32),((qj (b+1)),(zL a c (jT e))))))
  (oC a <|
 V a <|
 Y (zF (f,a)))
def VS b3 i v x3 x4 x5 x6 x7 s:=zJ (VU b3 i v x3 x4 x5 x6 x7) s
def VT(d:z7)(e:z7)(h:Int):(Int×z7)->T ((Int×z7)⊕z7)
 | (a,c)=>let f:=0+(zE (qj (a+(d.length:Int))));
 U (zA (a<h))
  (oI a e <|
 oC c <|
 V c <|
 M (VS d a (nth e a (zb (.int .u32))) e h a d (d.length:Int) (0,(0,c))) λ(g,b) =>
 oI (qj (a+(d.length:Int))) b <|
 .W (uM b.length b.length f b.length) <|
 oM b.length (zL b f (jT g)).length <|
 Y (zG ((qj (a+1)),(zL b f (jT g)))))
  (oC c <|
 V c <|
 Y (zF c))
def VR b2 x x1 s:=zJ (VT b2 x x1) s
def iK(f:z7)(g:z7):T z7 :=
 M (ue f) λb =>
 M (ue g) λd=>let a:=qj ((b.length:Int)+(d.length:Int));
 .W (dH a a 4) <|
 oM (zE a) (zM (zE a) (0:Int)).length <|
 M (VR d b (b.length:Int) (0,(zM (zE a) 0))) λc =>
 V c <|
 M (ue (zH 0 (zI (0+c.length) c))) λe =>
 Y e
def VG(e:Int):(z7×Int)->T ((z7×Int)⊕z7)
 | (a,b) =>
 U (zA (b<e))
  (M (iL 10) λc =>
 M (iK a c) λd =>
 Y (zG (d,(qj (b+1)))))
  (Y (zF a))
def VF x s:=zJ (VG x) s
def UB(c:Int):T z7 :=
 M (iL 1) λa =>
 M (VF c (a,0)) λb =>
 Y b
def Xk(a:Rat):T q9 :=
 U a.1
  (Y [45])
  (Y [])
def jk  : ((Nat×Nat)×Int×Int×z7)->T (((Nat×Nat)×Int×Int×z7)⊕z7)
 | (b,c,d,a)=>let e:=zL a (b.1+(zE c)) (wm a (b.1+(zE d)) (zb (.int .u8))); let f:=zL e (b.1+(zE d)) (wm a (b.1+(zE c)) (zb (.int .u8)));
 U (zA (c<d))
  (.W (xf d b.2) <|
 .W (uM a.length a.length (b.1+(zE d)) a.length) <|
 .W (xf c b.2) <|
 .W (uM a.length a.length (b.1+(zE c)) a.length) <|
 .W (xf c b.2) <|
 .W (uM a.length a.length (b.1+(zE c)) a.length) <|
 .W (xf d b.2) <|
 .W (uM a.length a.length (b.1+(zE d)) e.length) <|
 V a <|
 .W (a.length=f.length) <|
 Y (zG (b,((qj (c+1)),((qj (d-1)),f)))))
  (V a <|
 Y (zF a))
def dh(s:((Nat×Nat)×Int×Int×z7)):T z7:=zJ (jk ) s
def kA(c:(Nat×Nat))(a:z7):T z7 :=
 V a <|
 V a <|
 M (dh  (c,(0,((qj ((zN c.2:Int)-1)),a)))) λb =>
 V b <|
 Y b
def iN(e:z7):(Int×Int×z7)->T ((Int×Int×z7)⊕z7)
 | (b,c,a)=>let d:=a++([(uC [48,49,50,51,52,53,54,55,56,57] (zP b (10:Int)))]:List Int);
 U (zA (c<9))
  (.W (10≠(0:Int)) <|
 oI (zP b (10:Int)) ([48,49,50,51,52,53,54,55,56,57]:q9) <|
 oA a 1 <|
 .W (10≠(0:Int)) <|
 oM (a.length+1) d.length <|
 Y (zG ((jT (zQ b (10:Int))),((qj (c+1)),d))))
  (oC a <|
 V a <|
 Y (zF a))
def Ql q1 s:=zJ (iN q1) s
def iM  : (z7×z7)->T ((z7×z7)⊕z7)
 | (d,a) =>
 U (zA (0<(d.length:Int)))
  (M (pK d 1000000000) λ(c,e) =>
 oC a <|
 V a <|
 M (Ql c (e,(0,a))) λb =>
 oC b <|
 V b <|
 Y (zG (c,b)))
  (oC a <|
 V a <|
 Y (zF a))
def Qk(s:(z7×z7)):T z7:=zJ (iM ) s
def iO  : ((Nat×Nat)×z7)->T (((Nat×Nat)×z7)⊕(((Nat×Nat)×z7)))
 | (b,a)=>let c:=qj ((zN b.2:Int)-1);
 .W (((zA (1<(zN b.2:Int)))=true)->((xf c b.2)/\(uM a.length a.length (b.1+(zE c)) a.length))) <|
 U ((zA (1<(zN b.2:Int)))&&((wm a (b.1+(zE c)) (zb (.int .u8)))==48))
  (.W (jf 0 c b.2) <|
 V a <|
 V a <|
 Y (zG (((b.1+(zE 0)),((zE c)-(zE 0))),a)))
  (V a <|
 V a <|
 Y (zF (b,a)))
def J3(s:((Nat×Nat)×z7)):T (((Nat×Nat)×z7)):=zJ (iO ) s
def mq(f:z7):T q9 :=
 M (iQ f) λd =>
 U ((d.length:Int)==0)
  (Y [48])
  (oZ <|
 M (Qk  (d,[])) λa =>
 V a <|
 V a <|
 M (J3  ((0,a.length),a)) λ(b,c) =>
 V c <|
 V c <|
 M (kA b c) λe =>
 .W (c.length=e.length) <|
 Y (kD (zH b.1 (zI (b.1+b.2) e))))
def strings_Repeat(b:q9)(a:Int):T q9 :=
 .W (0<=a/\a<=9223372036854775807/\b.length*(zE a)<=140737488355328) <|
 Y (E3 b (zE a))
def sY(a:q9)(e:Int):T q9 :=
 U (e==0)
  (Y a)
  (M (strings_Repeat [48] (dZ 0 (qj ((qj (e+1))-(a.length:Int))))) λb=>let d:=((cat b a).length:Int); let c:=qj (d-e);
 oK b a <|
 .W (jf 0 c (cat b a).length) <|
 oK (fW 0 c (cat b a)) [46] <|
 .W (jf c d (cat b a).length) <|
 oK (cat (fW 0 c (cat b a)) [46]) (fW c d (cat b a)) <|
 Y (cat (cat (fW 0 c (cat b a)) [46]) (fW c d (cat b a))))
def ZR  : (Int×Rat)->T ((Int×Rat)⊕(Rat⊕(q9×Bool×Rat)))
 | (b,a) =>
 U (zA (b<61))
  (M (UB b) λe =>
 M (iK a.2.1 e) λf =>
 M (dI f a.2.2.1) λ(g,h,j) =>
 U ((h.length:Int)==0)
  (M (Xk a) λc =>
 M (mq g) λi =>
 M (sY i b) λd =>
 oK c d <|
 Y (zF (zF ((cat c d),(true,a)))))
  (Y (zG ((qj (b+1)),a))))
  (Y (zF (zG a)))
def ZQ(s:(Int×Rat)):T (Rat⊕(q9×Bool×Rat)):=zJ (ZR ) s
def Zb(d:Rat):T (q9×Bool) :=
 M (vN d) λa =>
 M (ZQ  (0,a)) <|
 zK (λe =>
 Y ([],false))
  (λ(b,c,f) =>
 Y (b,c))
def Q4(a:Rat):T Bool :=
 M (M (tU a) λb =>
 U (!b)
  (Y true)
  (U a.1
  (Y true)
  (M (cK a) λc =>
 Y c)):T Bool) λd =>
 U d
  (Y false)
  (M (Zb a) λ(f,e) =>
 Y e)
def nu(a:Rat):T Bool :=
 U (!a.1)
  (U ((a.2.1.length:Int)==0)
  (U ((a.2.2.1.length:Int)==0)
  (Y true)
  (M (tU a) λb =>
 Y b))
  (Y false))
  (Y false)
def nt(a:AM.Expr):T Bool :=
 M (Wy (Expr.kind a)) λb =>
 U (((Expr.kids a).length:Int) != b)
  (Y false)
  (U ((Expr.kind a)==1)
  (M (Q4 (Expr.num a)) λc =>
 U c
  (Y (wP (Expr.name a) []))
  (Y false))
  (U ((Expr.kind a)==2)
  (M (nu (Expr.num a)) λd =>
 U d
  (M (uX (Expr.name a)) λe =>
 Y e)
  (Y false))
  (M (nu (Expr.num a)) λf =>
 U f
  (Y (wP (Expr.name a) []))
  (Y false))))
def mQ(c:AM.Expr->Int->Int->T (Bool×Int))(d:AM.Expr)(e:Int)(f:Int):T (Bool×Int) :=
 M (c d (qj (e+1)) f) λ(a,b) =>
 Y ((!a),b)
def wX(g:AM.Expr->Int->Int->T (Bool×Int))(e:dm)(h:Int):((Int×Unit)×Int×Int)->T (((Int×Unit)×Int×Int)⊕(Int⊕(Int×Int)))
 | (c,a,d) =>
 U (zA (a<h))
  (oI a e <|
 M ((mQ g) (nth e a (zb .expr)) c.1 d) λ(f,b) =>
 U f
  (Y (zF (zF (a,b))))
  (Y (zG ((c.1,()),((qj (a+1)),b)))))
  (Y (zF (zG d)))
def wA self_expr_may s1 x s:=zJ (wX self_expr_may s1 x) s
def vq(e:AM.Expr->Int->Int->T (Bool×Int))(a:dm)(f:(Int×Unit))(g:Int):T (Int×Int) :=
 M (wA e a (a.length:Int) ((f.1,()),(0,g))) <|
 zK (λb =>
 Y ((-1),b))
  (λ(c,d) =>
 Y (c,d))
def wW(c:AM.Expr->Int->Int->T (Bool×Int))(d:dm)(e:(Int×Unit))(f:Int):T (Bool×Int) :=
 M ((vq c) d (e.1,()) f) λ(a,b) =>
 Y ((zA (0<=a)),b)
def iF(i:AM.Expr->Int->Int->T (Bool×Int))(c:AM.Expr)(d:Int)(a:Int):T (Bool×Int) :=
 M (U (zA ((qj (a-1))<0))
  (Y (true,(qj (a-1))))
  (U (zA (32<=d))
  (Y (true,(qj (a-1))))
  (M (nt c) λe =>
 Y ((!e),(qj (a-1))))):T ((Bool×Int))) λ(f,b) =>
 U f
  (Y (false,b))
  (M ((wW i) (Expr.kids c) (d,()) b) λ(g,h) =>
 Y ((!g),h))
def Q5(e:AM.Expr)(deep:Int)(left:Int):T (Bool×Int):=T.fix (λF x=>iF (λy0 y1 y2=>F (y0,y1,y2)) x.1 x.2.1 x.2.2) (e,deep,left)
def iE(b:AM.Expr):T Bool :=
 M (Q5 b 0 256) λ(a,c) =>
 Y a
def y9  : T zr :=
 Y ([[114,101,113,117,105,114,101,100],[115,116,114,111,110,103],[109,101,100,105,117,109],[119,101,97,107]]:List q9)
def y8(a:eC):T Bool :=
 M (uX a.1) λb =>
 U (!b)
  (Y true)
  (U (zA (a.2.1<(0:Int)))
  (Y true)
  (M (y9) λc =>
 U (zA ((c.length:Int)<=a.2.1))
  (Y true)
  (M (lr a.2.2.1) λd =>
 U (!d)
  (Y true)
  (M (iE a.2.2.2.1) λe =>
 U (!e)
  (Y true)
  (M (iE a.2.2.2.2.1) λf =>
 Y (!f))))))
def de(b:xb)(d:eC->T Bool)(e:Int):Int->T (Int⊕(Unit⊕Int))
 | a =>
 U (zA (a<e))
  (oI a b <|
 M (d (nth b a (zb xp))) λc =>
 U c
  (Y (zF (zF a)))
  (Y (zG (qj (a+1)))))
  (Y (zF (zG ())))
def pD s1 f x s:=zJ (de s1 f x) s
def hZ(a:xb)(c:eC->T Bool):T Int :=
 M (pD a c (a.length:Int) 0) <|
 zK (λ_ =>
 Y (-1))
  (λb =>
 Y b)
def yn(b:xb)(c:eC->T Bool):T Bool :=
 M (hZ b c) λa =>
 Y (zA (0<=a))
def om(l:Form)(c:qv)(m:Int):(Int×Int)->T ((Int×Int)⊕(Unit⊕Bool))
 | (k,b)=>let a:=nth c b (zb xm);
 U (zA (b<m))
  (oI b c <|
 M (M (uX a.1) λd =>
 U (!d)
  (Y (true,a))
  (M (lq a.2.1 k (l.2.2.1.length:Int)) λe =>
 U (!e)
  (Y (true,a))
  (U (zA (a.2.2.1<(0:Int)))
  (Y (true,a))
  (M (bJ) λf =>
 U (zA ((f.length:Int)<=a.2.2.1))
  (Y (true,a))
  (M (iE (Expr.mk (Expr.kind a.2.2.2.1) ((Expr.num a.2.2.2.1).1,((Expr.num a.2.2.2.1).2.1,((Expr.num a.2.2.2.1).2.2.1,()))) (Expr.name a.2.2.2.1) (Expr.kids a.2.2.2.1))) λg =>
 U (!g)
  (Y (true,a))
  (M (iE (Expr.mk (Expr.kind a.2.2.2.2.1) ((Expr.num a.2.2.2.2.1).1,((Expr.num a.2.2.2.2.1).2.1,((Expr.num a.2.2.2.2.1).2.2.1,()))) (Expr.name a.2.2.2.2.1) (Expr.kids a.2.2.2.2.1))) λh =>
 Y ((!h),a)))))):T ((Bool×Check))) λ(i,j) =>
 U i
  (Y (zF (zF false)))
  (Y (zG (j.2.1,(qj (b+1))))))
  (Y (zF (zG ())))
def oj f1 x x1 s:=zJ (om f1 x x1) s
def pw(a:Form):T Bool :=
 M (oj a a.2.2.2.2.2.1 (a.2.2.2.2.2.1.length:Int) (0,0)) <|
 zK (λ_ =>
 M (yn a.2.2.2.2.1 (λb=>y8 b)) λc =>
 Y (!c))
  (λd =>
 Y d)
def tP(v:Unit)(l:List Int):T (Unit×List Int):=Y (v,l)
def xx(b:q9)(e:Unit)(c:z7):T (Int×Unit×z7) :=
 oC c <|
 V c <|
 M (tP () c) λ(d,a) =>
 .W (vV a.length a.length 0 a.length a.length (bytesOf b).length 1) <|
 oM (a.length+(bytesOf b).length) (a++(bytesOf b)).length <|
 Y ((b.length:Int),((),(a++(bytesOf b))))
def gE(g:Rat):T q9 :=
 M (vN g) λa =>
 M (Xk a) λb =>
 M (mq a.2.1) λc =>
 oK b c <|
 M (iL 1) λe =>
 M (tq a.2.2.1 e) λf =>
 U (f != 0)
  (M (mq a.2.2.1) λd =>
 oK [47] d <|
 oK (cat b c) (cat [47] d) <|
 Y (cat (cat b c) (cat [47] d)))
  (Y (cat b c))
def sD(a:q9):T q9 :=
 U (wP a [])
  (Y [])
  (oK [32,119,104,101,110,32] a <|
 Y (cat [32,119,104,101,110,32] a))
def strconv_Itoa(a:Int):T q9 :=
 .W ((-9223372036854775808)<=a/\a<=9223372036854775807) <|
 Y (Gs a)
def tG(a:Field):T q9 :=
 let c:=cat [102,105,101,108,100,32] a.1; let b:=bif a.2.2.1 then(cat c [32,109,117,115,116])else c;  oK [102,105,101,108,100,32] a.1 <|
 .W ((a.2.2.1=true)->((c.length+([32,109,117,115,116]:q9).length)<=4611686018427387904)) <|
 U (zA ((0:Int)<a.2.2.2.1))
  (M (strconv_Itoa a.2.2.2.1) λe=>let d:=cat [32,115,99,97,108,101,32] e;
 oK [32,115,99,97,108,101,32] e <|
 oK b d <|
 oK (cat b d) [10] <|
 Y (cat (cat b d) [10]))
  (oK b [10] <|
 Y (cat b [10]))
def mf(a:AM.Expr):T Int :=
 U (bif ((Expr.kind a)==3)then((Expr.kind a)==3)else((Expr.kind a)==4))
  (Y 1)
  (U (bif ((Expr.kind a)==5)then((Expr.kind a)==5)else((Expr.kind a)==6))
  (Y 2)
  (U ((Expr.kind a)==7)
  (Y 3)
  (Y 4)))
def dB(c:AM.Expr->T q9)(b:AM.Expr)(f:Int):T q9 :=
 M (mf b) λd =>
 U (zA (d<f))
  (M (c b) λa =>
 oK [40] a <|
 oK (cat [40] a) [41] <|
 Y (cat (cat [40] a) [41]))
  (M (c b) λe =>
 Y e)
def gR(d:AM.Expr->T q9)(a:AM.Expr):T q9 :=
 M (U ((Expr.kind a)==1)
  (M (Zb (Expr.num a)) λ(g,k) =>
 Y (zF g))
  (U ((Expr.kind a)==2)
  (Y (zF (Expr.name a)))
  (U ((Expr.kind a)==7)
  (oI 0 (Expr.kids a) <|
 M ((dB d) (nth (Expr.kids a) 0 (zb .expr)) 3) λe =>
 oK [45] e <|
 Y (zF (cat [45] e)))
  (U ((Expr.kind a)==3)
  (Y (zG [32,43,32]))
  (U ((Expr.kind a)==4)
  (Y (zG [32,45,32]))
  (U ((Expr.kind a)==5)
  (Y (zG [32,42,32]))
  (U ((Expr.kind a)==6)
  (Y (zG [32,47,32]))
  (Y (zG [])))))))):T (q9⊕q9)) <|
 zK (λb =>
 oI 0 (Expr.kids a) <|
 M (mf a) λh =>
 M ((dB d) (nth (Expr.kids a) 0 (zb .expr)) h) λc =>
 oK c b <|
 oI 1 (Expr.kids a) <|
 M (mf a) λi =>
 M ((dB d) (nth (Expr.kids a) 1 (zb .expr)) (qj (i+1))) λf =>
 oK (cat c b) f <|
 Y (cat (cat c b) f))
  (λj =>
 Y j)
def Q6(e:AM.Expr):T q9:=T.fix (λF x=>gR (λy0=>F (y0)) x) e
def rF(a:AM.Expr):T q9 :=
 M (iE a) λb =>
 U (!b)
  (Y [])
  (M (Q6 a) λc =>
 Y c)
def nP(e:AM.Expr)(a:q9)(f:AM.Expr):T q9 :=
 M (rF e) λc=>let b:=cat (cat [32,58,32] c) [32];
 oK [32,58,32] c <|
 oK (cat [32,58,32] c) [32] <|
 oK b a <|
 oK (cat b a) [32] <|
 M (rF f) λd =>
 oK (cat (cat b a) [32]) d <|
 oK (cat (cat (cat b a) [32]) d) [10] <|
 Y (cat (cat (cat (cat b a) [32]) d) [10])
def ow(f:Int)(k:Form)(d:qu)(g:Int):(Int×Unit×z7)->T ((Int×Unit×z7)⊕((Unit×z7)))
 | (b,j,a) =>
 U (zA (b<g))
  (oI b d <|
 U ((nth d b (zb qy)).2.1==f)
  (M (tG (nth d b (zb qy))) λe =>
 oC a <|
 V a <|
 M (xx e () a) λ(h,i,c) =>
 oC c <|
 V c <|
 Y (zG ((qj (b+1)),((),c))))
  (oC a <|
 V a <|
 Y (zG ((qj (b+1)),((),a)))))
  (oC a <|
 V a <|
 Y (zF ((),a)))
def ot i1 f1 x x1 s:=zJ (ow i1 f1 x x1) s
def ox(h:Int)(g:qv)(i:Int):(Int×Unit×z7)->T ((Int×Unit×z7)⊕((Unit×z7)))
 | (c,l,b)=>let a:=nth g c (zb xm);
 U (zA (c<i))
  (oI c g <|
 U (a.2.1==h)
  (oK [99,104,101,99,107,32] a.1 <|
 M (bJ) λe =>
 .W (xf a.2.2.1 e.length) <|
 M (nP (Expr.mk (Expr.kind a.2.2.2.1) ((Expr.num a.2.2.2.1).1,((Expr.num a.2.2.2.1).2.1,((Expr.num a.2.2.2.1).2.2.1,()))) (Expr.name a.2.2.2.1) (Expr.kids a.2.2.2.1)) (nth e a.2.2.1 (zb .str)) (Expr.mk (Expr.kind a.2.2.2.2.1) ((Expr.num a.2.2.2.2.1).1,((Expr.num a.2.2.2.2.1).2.1,((Expr.num a.2.2.2.2.1).2.2.1,()))) (Expr.name a.2.2.2.2.1) (Expr.kids a.2.2.2.2.1))) λf =>
 oK (cat [99,104,101,99,107,32] a.1) f <|
 oC b <|
 V b <|
 M (xx (cat (cat [99,104,101,99,107,32] a.1) f) () b) λ(j,k,d) =>
 oC d <|
 V d <|
 Y (zG ((qj (c+1)),((),d))))
  (oC b <|
 V b <|
 Y (zG ((qj (c+1)),((),b)))))
  (oC b <|
 V b <|
 Y (zF ((),b)))
def ov i2 x3 x4 s:=zJ (ox i2 x3 x4) s
def pA(a:Form)(b:Int)(m:Unit)(g:z7):T (Unit×z7) :=
 let h:=cat [112,97,103,101,32] (nth a.2.2.1 b (zb xy)).1;  oI b a.2.2.1 <|
 oK [112,97,103,101,32] (nth a.2.2.1 b (zb xy)).1 <|
 oI b a.2.2.1 <|
 M (sD (nth a.2.2.1 b (zb xy)).2.1) λc =>
 oK h c <|
 oK (cat h c) [10] <|
 oC g <|
 V g <|
 M (xx (cat (cat h c) [10]) () g) λ(i,j,d) =>
 oC d <|
 V d <|
 M (ot b a a.2.2.2.1 (a.2.2.2.1.length:Int) (0,((),d))) λ(k,e) =>
 oC e <|
 V e <|
 M (ov b a.2.2.2.2.2.1 (a.2.2.2.2.2.1.length:Int) (0,((),e))) λ(l,f) =>
 oC f <|
 V f <|
 Y ((),f)
def pR(v:Unit)(l:List Int):T (q9×Unit):=z4E l
def sy(k:Form)(e:qf)(g:Int):(Int×Unit×z7)->T ((Int×Unit×z7)⊕((Unit×z7)))
 | (b,j,a)=>let c:=nth e b (zb qw); let f:=bif c.2.1 then[32,111,110,10]else[32,111,102,102,10];
 U (zA (b<g))
  (oI b e <|
 oK [115,119,105,116,99,104,32] c.1 <|
 oK (cat [115,119,105,116,99,104,32] c.1) f <|
 oC a <|
 V a <|
 M (xx (cat (cat [115,119,105,116,99,104,32] c.1) f) () a) λ(h,i,d) =>
 oC d <|
 V d <|
 Y (zG ((qj (b+1)),((),d))))
  (oC a <|
 V a <|
 Y (zF ((),a)))
def sr f1 x x1 s:=zJ (sy f1 x x1) s
def sA(l:Form)(g:qm)(h:Int):(Int×Unit×z7)->T ((Int×Unit×z7)⊕((Unit×z7)))
 | (c,k,a)=>let b:=nth g c (zb ql); let d:=cat [112,97,114,97,109,32] b.1;
 U (zA (c<h))
  (oI c g <|
 oK [112,97,114,97,109,32] b.1 <|
 oK d [32] <|
 M (gE (b.2.1.1,(b.2.1.2.1,(b.2.1.2.2.1,())))) λe =>
 oK (cat d [32]) e <|
 oK (cat (cat d [32]) e) [10] <|
 oC a <|
 V a <|
 M (xx (cat (cat (cat d [32]) e) [10]) () a) λ(i,j,f) =>
 oC f <|
 V f <|
 Y (zG ((qj (c+1)),((),f))))
  (oC a <|
 V a <|
 Y (zF ((),a)))
def su f2 x3 x4 s:=zJ (sA f2 x3 x4) s
def sB(d:Form)(e:Int):(Int×Unit×z7)->T ((Int×Unit×z7)⊕((Unit×z7)))
 | (c,g,a) =>
 U (zA (c<e))
  (oC a <|
 V a <|
 M (pA d c () a) λ(f,b) =>
 oC b <|
 V b <|
 Y (zG ((qj (c+1)),((),b))))
  (oC a <|
 V a <|
 Y (zF ((),a)))
def sw f3 x6 s:=zJ (sB f3 x6) s
def sC(i:xb)(j:Int):(Int×Unit×z7)->T ((Int×Unit×z7)⊕((Unit×z7)))
 | (d,m,b)=>let a:=nth i d (zb xp);
 U (zA (d<j))
  (oI d i <|
 M (y9) λe=>let c:=cat [114,117,108,101,32] (nth e a.2.1 (zb .str));
 .W (xf a.2.1 e.length) <|
 oK [114,117,108,101,32] (nth e a.2.1 (zb .str)) <|
 oK c [32] <|
 oK (cat c [32]) a.1 <|
 M (sD a.2.2.1) λf =>
 oK (cat (cat c [32]) a.1) f <|
 M (nP (Expr.mk (Expr.kind a.2.2.2.1) ((Expr.num a.2.2.2.1).1,((Expr.num a.2.2.2.1).2.1,((Expr.num a.2.2.2.1).2.2.1,()))) (Expr.name a.2.2.2.1) (Expr.kids a.2.2.2.1)) [61] (Expr.mk (Expr.kind a.2.2.2.2.1) ((Expr.num a.2.2.2.2.1).1,((Expr.num a.2.2.2.2.1).2.1,((Expr.num a.2.2.2.2.1).2.2.1,()))) (Expr.name a.2.2.2.2.1) (Expr.kids a.2.2.2.2.1))) λh =>
 oK (cat (cat (cat c [32]) a.1) f) h <|
 oC b <|
 V b <|
 M (xx (cat (cat (cat (cat c [32]) a.1) f) h) () b) λ(k,l,g) =>
 oC g <|
 V g <|
 Y (zG ((qj (d+1)),((),g))))
  (oC b <|
 V b <|
 Y (zF ((),b)))
def sx x8 x9 s:=zJ (sC x8 x9) s
def nO(a:Form):T q9 :=
 oZ <|
 M (sr a a.1 (a.1.length:Int) (0,((),[]))) λ(g,b) =>
 oC b <|
 V b <|
 M (su a a.2.1 (a.2.1.length:Int) (0,((),b))) λ(h,c) =>
 oC c <|
 V c <|
 M (sw a (a.2.2.1.length:Int) (0,((),c))) λ(i,d) =>
 oC d <|
 V d <|
 M (sx a.2.2.2.2.1 (a.2.2.2.2.1.length:Int) (0,((),d))) λ(j,e) =>
 oC e <|
 V e <|
 M (pR () e) λ(f,k) =>
 Y f
def ZB(a:Form):T Bool :=
 M (tH a) λb =>
 U b
  (M (pz a) λc =>
 U c
  (M (pw a) λd =>
 U d
  (M (nO a) λe =>
 Y (zA ((e.length:Int)<=16384)))
  (Y false))
  (Y false))
  (Y false)
def r9(e:Form)(c:qf)(d:Int):(Int×zr)->T ((Int×zr)⊕zr)
 | (b,a) =>
 U (zA (b<d))
  (oI b c <|
 oA a 16 <|
 oM (a.length+1) (a++([(nth c b (zb qw)).1]:List q9)).length <|
 Y (zG ((qj (b+1)),(a++([(nth c b (zb qw)).1]:List q9)))))
  (oC a <|
 V a <|
 Y (zF a))
def pW f1 x x1 s:=zJ (r9 f1 x x1) s
def rb(e:Form)(c:qm)(d:Int):(Int×zr)->T ((Int×zr)⊕zr)
 | (b,a) =>
 U (zA (b<d))
  (oI b c <|
 oA a 16 <|
 oM (a.length+1) (a++([(nth c b (zb ql)).1]:List q9)).length <|
 Y (zG ((qj (b+1)),(a++([(nth c b (zb ql)).1]:List q9)))))
  (oC a <|
 V a <|
 Y (zF a))
def pX f2 x3 x4 s:=zJ (rb f2 x3 x4) s
def rf(e:Form)(c:xg)(d:Int):(Int×zr)->T ((Int×zr)⊕zr)
 | (b,a) =>
 U (zA (b<d))
  (oI b c <|
 oA a 16 <|
 oM (a.length+1) (a++([(nth c b (zb xy)).1]:List q9)).length <|
 Y (zG ((qj (b+1)),(a++([(nth c b (zb xy)).1]:List q9)))))
  (oC a <|
 V a <|
 Y (zF a))
def pY f3 x6 x7 s:=zJ (rf f3 x6 x7) s
def rh(e:Form)(c:qu)(d:Int):(Int×zr)->T ((Int×zr)⊕zr)
 | (b,a) =>
 U (zA (b<d))
  (oI b c <|
 oA a 16 <|
 oM (a.length+1) (a++([(nth c b (zb qy)).1]:List q9)).length <|
 Y (zG ((qj (b+1)),(a++([(nth c b (zb qy)).1]:List q9)))))
  (oC a <|
 V a <|
 Y (zF a))
def pZ f4 x9 x10 s:=zJ (rh f4 x9 x10) s
def ri(e:Form)(c:xb)(d:Int):(Int×zr)->T ((Int×zr)⊕zr)
 | (b,a) =>
 U (zA (b<d))
  (oI b c <|
 oA a 16 <|
 oM (a.length+1) (a++([(nth c b (zb xp)).1]:List q9)).length <|
 Y (zG ((qj (b+1)),(a++([(nth c b (zb xp)).1]:List q9)))))
  (oC a <|
 V a <|
 Y (zF a))
def r7 f5 x12 x13 s:=zJ (ri f5 x12 x13) s
def rj(c:qv)(d:Int):(Int×zr)->T ((Int×zr)⊕zr)
 | (b,a) =>
 U (zA (b<d))
  (oI b c <|
 oA a 16 <|
 oM (a.length+1) (a++([(nth c b (zb xm)).1]:List q9)).length <|
 Y (zG ((qj (b+1)),(a++([(nth c b (zb xm)).1]:List q9)))))
  (oC a <|
 V a <|
 Y (zF a))
def r8 x15 x16 s:=zJ (rj x15 x16) s
def sW(a:Form):T zr :=
 oZ <|
 M (pW a a.1 (a.1.length:Int) (0,[])) λb =>
 oC b <|
 V b <|
 M (pX a a.2.1 (a.2.1.length:Int) (0,b)) λc =>
 oC c <|
 V c <|
 M (pY a a.2.2.1 (a.2.2.1.length:Int) (0,c)) λd =>
 oC d <|
 V d <|
 M (pZ a a.2.2.2.1 (a.2.2.2.1.length:Int) (0,d)) λe =>
 oC e <|
 V e <|
 M (r7 a a.2.2.2.2.1 (a.2.2.2.2.1.length:Int) (0,e)) λf =>
 oC f <|
 V f <|
 M (r8 a.2.2.2.2.2.1 (a.2.2.2.2.2.1.length:Int) (0,f)) λg =>
 V g <|
 Y (zH 0 (zI (0+g.length) g))
def twR:List q9->List q9->q9×Bool
 | _,[]=>([],false)
 | seen,x::r=>if x∈seen then(x,true)else twR (seen++[x]) r
def sX(l:List q9):T (q9×Bool):=.W (zO l*16<=140737488351232/\∀ s∈l,zO s<=9223372036854775807)<|Y (twR [] l)
def vZ(a:Switch)(b:q9):T Bool :=
 Y (wP a.1 b)
def jW(a:q9)(d:Form):T Bool :=
 U (!(wP a []))
  (M (vO d.1 (λb=>vZ b a)) λc =>
 Y (!c))
  (Y false)
def uV(b:zr)(d:q9->T Bool)(e:Int):Int->T (Int⊕(Unit⊕Int))
 | a =>
 U (zA (a<e))
  (oI a b <|
 M (d (nth b a (zb .str))) λc =>
 U c
  (Y (zF (zF a)))
  (Y (zG (qj (a+1)))))
  (Y (zF (zG ())))
def nR s1 f x s:=zJ (uV s1 f x) s
def wY(a:zr)(c:q9->T Bool):T Int :=
 M (nR a c (a.length:Int) 0) <|
 zK (λ_ =>
 Y (-1))
  (λb =>
 Y b)
def fg(e:Form)(c:xg)(d:Int):(Int×zr)->T ((Int×zr)⊕zr)
 | (b,a) =>
 U (zA (b<d))
  (oI b c <|
 oA a 16 <|
 oM (a.length+1) (a++([(nth c b (zb xy)).2.1]:List q9)).length <|
 Y (zG ((qj (b+1)),(a++([(nth c b (zb xy)).2.1]:List q9)))))
  (oC a <|
 V a <|
 Y (zF a))
def fc f1 x x1 s:=zJ (fg f1 x x1) s
def fh(e:Form)(c:xb)(d:Int):(Int×zr)->T ((Int×zr)⊕zr)
 | (b,a) =>
 U (zA (b<d))
  (oI b c <|
 oA a 16 <|
 oM (a.length+1) (a++([(nth c b (zb xp)).2.2.1]:List q9)).length <|
 Y (zG ((qj (b+1)),(a++([(nth c b (zb xp)).2.2.1]:List q9)))))
  (oC a <|
 V a <|
 Y (zF a))
def ff f2 x3 x4 s:=zJ (fh f2 x3 x4) s
def eP(b:Form):T (q9×Bool) :=
 oZ <|
 M (fc b b.2.2.1 (b.2.2.1.length:Int) (0,[])) λd =>
 oC d <|
 V d <|
 M (ff b b.2.2.2.2.1 (b.2.2.2.2.1.length:Int) (0,d)) λa =>
 V a <|
 M (wY (zH 0 (zI (0+a.length) a)) (λe=>jW e b)) λc =>
 U (zA (c<0))
  (Y ([],false))
  (oI c a <|
 .W (uM a.length a.length (0+(zE c)) a.length) <|
 Y ((wm a (0+(zE c)) (zb .str)),true))
def gB(b:zr)(c:q9)(d:Int):Int->T (Int⊕(Unit⊕Int))
 | a =>
 U (zA (a<d))
  (oI a b <|
 U (wP c (nth b a (zb .str)))
  (Y (zF (zF a)))
  (Y (zG (qj (a+1)))))
  (Y (zF (zG ())))
def gA s1 v1 x s:=zJ (gB s1 v1 x) s
def wI(a:zr)(c:q9):T Int :=
 M (gA a c (a.length:Int) 0) <|
 zK (λ_ =>
 Y (-1))
  (λb =>
 Y b)
def wN(b:zr)(c:q9):T Bool :=
 M (wI b c) λa =>
 Y (zA (0<=a))
def eQ(e:AM.Expr->zr->T zr)(d:dm)(f:Int):(Int×zr)->T ((Int×zr)⊕zr)
 | (b,a) =>
 U (zA (b<f))
  (oI b d <|
 oC a <|
 V a <|
 M (e (nth d b (zb .expr)) a) λc =>
 oC c <|
 V c <|
 Y (zG ((qj (b+1)),c)))
  (oC a <|
 V a <|
 Y (zF a))
def cC self_expr_names x1 x2 s:=zJ (eQ self_expr_names x1 x2) s
def dz(h:AM.Expr->zr->T zr)(c:AM.Expr)(a:zr):T zr :=
 M (M (U ((Expr.kind c)==2)
  (V a <|
 M (wN (zH 0 (zI (0+a.length) a)) (Expr.name c)) λf =>
 oC a <|
 V a <|
 Y ((!f),a))
  (oC a <|
 V a <|
 Y (false,a)):T ((Bool×zr))) λ(g,b) =>
 U g
  (oA b 16 <|
 oM (b.length+1) (b++([(Expr.name c)]:List q9)).length <|
 Y (b++([(Expr.name c)]:List q9)))
  (oC b <|
 V b <|
 Y b):T zr) λd =>
 oC d <|
 V d <|
 M (cC h (Expr.kids c) ((Expr.kids c).length:Int) (0,d)) λe =>
 oC e <|
 V e <|
 Y e
def oU(e:AM.Expr)(l:zr):T zr:=T.fix (λF x=>dz (λy0 y1=>F (y0,y1)) x.1 x.2) (e,l)
def mh(d:dm)(e:Int):(Int×zr)->T ((Int×zr)⊕zr)
 | (b,a) =>
 U (zA (b<e))
  (oI b d <|
 oC a <|
 V a <|
 M (oU (nth d b (zb .expr)) a) λc =>
 oC c <|
 V c <|
 Y (zG ((qj (b+1)),c)))
  (oC a <|
 V a <|
 Y (zF a))
def mg x1 x2 s:=zJ (mh x1 x2) s
def mR(c:AM.Expr)(a:zr):T zr :=
 M (M (U ((Expr.kind c)==2)
  (V a <|
 M (wN (zH 0 (zI (0+a.length) a)) (Expr.name c)) λf =>
 oC a <|
 V a <|
 Y ((!f),a))
  (oC a <|
 V a <|
 Y (false,a)):T ((Bool×zr))) λ(g,b) =>
 U g
  (oA b 16 <|
 oM (b.length+1) (b++([(Expr.name c)]:List q9)).length <|
 Y (b++([(Expr.name c)]:List q9)))
  (oC b <|
 V b <|
 Y b):T zr) λd =>
 oC d <|
 V d <|
 M (mg (Expr.kids c) ((Expr.kids c).length:Int) (0,d)) λe =>
 oC e <|
 V e <|
 Y e
def dy(b:AM.Expr):T zr :=
 oZ <|
 M (mR b []) λa =>
 V a <|
 Y (zH 0 (zI (0+a.length) a))
def jg(l:List zr):T zr:=.W (zO l*24<=140737488351232/\zO (List.flatten l)*16<=140737488355328/\l≠[])<|Y (List.flatten l)
def uL(a:Param)(b:q9):T Bool :=
 Y (wP a.1 b)
def yC(a:q9)(e:zr)(f:Form):T Bool :=
 M (wN e a) λb =>
 U (!b)
  (M (vW f.2.1 (λc=>uL c a)) λd =>
 Y (!d))
  (Y false)
def lW(i:Form)(j:zr)(d:qv)(h:Int):(zr×Int)->T ((zr×Int)⊕zr)
 | (c,b)=>let a:=nth d b (zb xm);
 U (zA (b<h))
  (oI b d <|
 M (dy (Expr.mk (Expr.kind a.2.2.2.1) ((Expr.num a.2.2.2.1).1,((Expr.num a.2.2.2.1).2.1,((Expr.num a.2.2.2.1).2.2.1,()))) (Expr.name a.2.2.2.1) (Expr.kids a.2.2.2.1))) λe =>
 M (dy (Expr.mk (Expr.kind a.2.2.2.2.1) ((Expr.num a.2.2.2.2.1).1,((Expr.num a.2.2.2.2.1).2.1,((Expr.num a.2.2.2.2.1).2.2.1,()))) (Expr.name a.2.2.2.2.1) (Expr.kids a.2.2.2.2.1))) λf =>
 M (jg ([c,e,f]:List zr)) λg =>
 Y (zG (g,(qj (b+1)))))
  (Y (zF c))
def lU f1 fields1 x x1 s:=zJ (lW f1 fields1 x x1) s
def lX(i:Form)(j:zr)(d:xb)(h:Int):(zr×Int)->T ((zr×Int)⊕zr)
 | (c,b)=>let a:=nth d b (zb xp);
 U (zA (b<h))
  (oI b d <|
 M (dy (Expr.mk (Expr.kind a.2.2.2.1) ((Expr.num a.2.2.2.1).1,((Expr.num a.2.2.2.1).2.1,((Expr.num a.2.2.2.1).2.2.1,()))) (Expr.name a.2.2.2.1) (Expr.kids a.2.2.2.1))) λe =>
 M (dy (Expr.mk (Expr.kind a.2.2.2.2.1) ((Expr.num a.2.2.2.2.1).1,((Expr.num a.2.2.2.2.1).2.1,((Expr.num a.2.2.2.2.1).2.2.1,()))) (Expr.name a.2.2.2.2.1) (Expr.kids a.2.2.2.2.1))) λf =>
 M (jg ([c,e,f]:List zr)) λg =>
 Y (zG (g,(qj (b+1)))))
  (Y (zF c))
def lV f2 fields2 x3 x4 s:=zJ (lX f2 fields2 x3 x4) s
def mF(a:Form)(d:zr):T (q9×Bool) :=
 M (lU a d a.2.2.2.2.2.1 (a.2.2.2.2.2.1.length:Int) ([],0)) λe =>
 M (lV a d a.2.2.2.2.1 (a.2.2.2.2.1.length:Int) (e,0)) λb =>
 M (wY b (λf=>yC f d a)) λc =>
 U (zA (c<0))
  (Y ([],false))
  (oI c b <|
 Y ((nth b c (zb .str)),true))
def bX(b:q9)(c:zr):T Bool :=
 M (wN c b) λa =>
 Y a
def kJ(b:zr)(c:q9->T Bool):T Bool :=
 M (wY b c) λa =>
 Y (zA (0<=a))
def Za(d:AM.Expr)(e:zr):T Bool :=
 M (dy d) λa =>
 M (kJ a (λb=>bX b e)) λc =>
 Y c
def j7(b:AM.Expr->zr->T Bool)(c:AM.Expr)(d:zr):T Bool :=
 M (b c d) λa =>
 Y (!a)
def yo(f:AM.Expr->zr->T Bool)(b:dm)(d:AM.Expr->T Bool)(e:Int):Int->T (Int⊕(Unit⊕Int))
 | a =>
 U (zA (a<e))
  (oI a b <|
 M (d (nth b a (zb .expr))) λc =>
 U c
  (Y (zF (zF a)))
  (Y (zG (qj (a+1)))))
  (Y (zF (zG ())))
def dc self_check_Linear s1 f x s:=zJ (yo self_check_Linear s1 f x) s
def hJ(c:AM.Expr->zr->T Bool)(a:dm)(d:AM.Expr->T Bool):T Int :=
 M (dc c a d (a.length:Int) 0) <|
 zK (λ_ =>
 Y (-1))
  (λb =>
 Y b)
def jj(b:AM.Expr->zr->T Bool)(c:dm)(d:AM.Expr->T Bool):T Bool :=
 M ((hJ b) c d) λa =>
 Y (zA (0<=a))
def dq(e:AM.Expr->zr->T Bool)(a:AM.Expr)(d:zr):T Bool :=
 let c:=Za (nth (Expr.kids a) 1 (zb .expr)) d; let b:=((nth (Expr.kids a) 0 (zb .expr)),(nth (Expr.kids a) 1 (zb .expr)));  M (U (((Expr.kids a).length:Int)==2)
  (oI 0 (Expr.kids a) <|
 oI 1 (Expr.kids a) <|
 M (U ((Expr.kind a)==5)
  (M (Za (nth (Expr.kids a) 0 (zb .expr)) d) λf =>
 U f
  (M c λg =>
 U g
  (Y (true,b))
  (U ((Expr.kind a)==6)
  (M c λh =>
 Y (h,b))
  (Y (false,b))))
  (U ((Expr.kind a)==6)
  (M c λi =>
 Y (i,b))
  (Y (false,b))))
  (U ((Expr.kind a)==6)
  (M c λj =>
 Y (j,b))
  (Y (false,b))):T ((Bool×AM.Expr×AM.Expr))) λ(k,o,p) =>
 U k
  (Y (zF false))
  (Y (zG ())))
  (Y (zG ())):T (Unit⊕Bool)) <|
 zK (λ_ =>
 M ((jj e) (Expr.kids a) (λl=>(j7 e) l d)) λm =>
 Y (!m))
  (λn =>
 Y n)
def fT(e:AM.Expr)(fields:zr):T Bool:=T.fix (λF x=>dq (λy0 y1=>F (y0,y1)) x.1 x.2) (e,fields)
def o0(e:Form)(c:qu)(d:Int):(Int×zr)->T ((Int×zr)⊕zr)
 | (b,a) =>
 U (zA (b<d))
  (oI b c <|
 oA a 16 <|
 oM (a.length+1) (a++([(nth c b (zb qy)).1]:List q9)).length <|
 Y (zG ((qj (b+1)),(a++([(nth c b (zb qy)).1]:List q9)))))
  (oC a <|
 V a <|
 Y (zF a))
def nY f1 x x1 s:=zJ (o0 f1 x x1) s
def o5(e:xb)(j:Int):(Int×zr)->T ((Int×zr)⊕(zr⊕(Int×q9×zr)))
 | (d,a)=>let b:=nth e d (zb xp);
 U (zA (d<j))
  (oI d e <|
 M (V a <|
 M (fT (Expr.mk (Expr.kind b.2.2.2.1) ((Expr.num b.2.2.2.1).1,((Expr.num b.2.2.2.1).2.1,((Expr.num b.2.2.2.1).2.2.1,()))) (Expr.name b.2.2.2.1) (Expr.kids b.2.2.2.1)) (zH 0 (zI (0+a.length) a))) λf =>
 U (!f)
  (oC a <|
 V a <|
 Y (true,(a,b)))
  (V a <|
 M (fT (Expr.mk (Expr.kind b.2.2.2.2.1) ((Expr.num b.2.2.2.2.1).1,((Expr.num b.2.2.2.2.1).2.1,((Expr.num b.2.2.2.2.1).2.2.1,()))) (Expr.name b.2.2.2.2.1) (Expr.kids b.2.2.2.2.1)) (zH 0 (zI (0+a.length) a))) λg =>
 oC a <|
 V a <|
 Y ((!g),(a,b))):T ((Bool×zr×eC))) λ(h,c,i) =>
 U h
  (V c <|
 Y (zF (zF (6,(i.1,c)))))
  (oC c <|
 V c <|
 Y (zG ((qj (d+1)),c))))
  (V a <|
 Y (zF (zG a)))
def nZ x3 x4 s:=zJ (o5 x3 x4) s
def fU(a:Form):T (Int×q9) :=
 M (ZB a) λc =>
 U (!c)
  (Y (2,[]))
  (U ((zA (64<(a.2.2.2.1.length:Int)))||(zA (64<(a.2.2.2.2.1.length:Int))))
  (Y (3,[]))
  (M (sW a) λd =>
 M (sX d) λ(e,f) =>
 U f
  (Y (5,e))
  (M (eP a) λ(g,h) =>
 U h
  (Y (5,g))
  (oZ <|
 M (nY a a.2.2.2.1 (a.2.2.2.1.length:Int) (0,[])) λb =>
 V b <|
 M (mF a (zH 0 (zI (0+b.length) b))) λ(i,j) =>
 U j
  (Y (5,i))
  (oC b <|
 V b <|
 M (nZ a.2.2.2.2.1 (a.2.2.2.2.1.length:Int) (0,b)) <|
 zK (λm =>
 Y (0,[]))
  (λ(k,l,n) =>
 Y (k,l)))))))
def tF(a:Form):T q9 :=
 M (ZB a) λb =>
 U (!b)
  (Y [])
  (M (nO a) λc =>
 Y c)
def strings_Split(a:q9)(b:q9):T zr :=
 .W (a.length<4294967281/\b.length=1) <|
 Y (lF (List.headD b 0) a)
def strings_Cut(a:q9)(b:q9):T (q9×q9×Bool) :=
 .W (a.length<4294967281) <|
 Y (Fc a b)
def sE(a:Int):T Bool :=
 Y (a==32)
def strings_FieldsFunc(a:q9)(b:Int->T Bool):T zr :=
 .W (a.length<=4294967296) <|
 Y (sK 32 [] a)
def tI(c:q9):T zr :=
 M (strings_FieldsFunc c (λa=>sE a)) λb =>
 Y b
def strings_IndexAny(c:q9)(a:q9):T Int :=
 .W (c.length<4294967281/\2<=a.length/\a.length<4294967281/\(∀ b∈a,b.toNat<128)) <|
 Y (rI c a)
def kc(b:q9)(a:q9):T Bool :=
 .W (((zA ((a.length:Int)<=(b.length:Int)))=true)->(jf 0 (a.length:Int) b.length)) <|
 Y ((zA ((a.length:Int)<=(b.length:Int)))&&(wP (fW 0 (a.length:Int) b) a))
def strings_HasPrefix(b:q9)(c:q9):T Bool :=
 M (kc b c) λa =>
 Y a
def bD  : ze->T (ze⊕(ze))
 | a =>
 .W (((zA (a.2.1<(a.1.length:Int)))=true)->(xf a.2.1 a.1.length)) <|
 U ((zA (a.2.1<(a.1.length:Int)))&&((uC a.1 a.2.1)==32))
  (Y (zG (a.1,((qj (a.2.1+1)),(a.2.2.1,(a.2.2.2.1,()))))))
  (Y (zF a))
def bC(s:ze):T (ze):=zJ (bD ) s
def dA(b:ze):T ze :=
 M (bC  b) λa =>
 Y a
def strings_IndexByte(s:q9)(c:Int):T Int:=Y (UR s (byteOf c))
def uN(e:q9)(f:ze):T (Int×ze) :=
 M (dA f) λb =>
 M (U (zA (b.2.1<(b.1.length:Int)))
  (oI b.2.1 b.1 <|
 M (strings_IndexByte e (uC b.1 b.2.1)) λc =>
 Y ((zA (0<=c)),b))
  (Y (false,b)):T ((Bool×ze))) λ(d,a) =>
 U d
  (oI (qj ((qj (a.2.1+1))-1)) a.1 <|
 Y ((uC a.1 (qj ((qj (a.2.1+1))-1))),(a.1,((qj (a.2.1+1)),(a.2.2.1,(a.2.2.2.1,()))))))
  (Y (0,a))
def vu(a:Int)(b:Int)(c:ze):T (ze⊕(xi×ze)) :=
 Y (zF ((a,(b,())),c))
def kG(a:ze):T (ze⊕(xi×ze)) :=
 U (zA (32<=(qj (a.2.2.1+1))))
  (M (vu 4 (qj (a.2.1-1)) (a.1,(a.2.1,((qj (a.2.2.1+1)),(a.2.2.2.1,()))))) <|
 zK (λb =>
 Y (zG b))
  (λ(c,d) =>
 Y (zF (c,d))))
  (Y (zG (a.1,(a.2.1,((qj (a.2.2.1+1)),(a.2.2.2.1,()))))))
def yk(e:Int->T Bool)(f:Int)(g:Int):ze->T (ze⊕(ze))
 | a =>
 M (U (zA (a.2.1<(a.1.length:Int)))
  (U (zA ((qj (a.2.1-g))<f))
  (oI a.2.1 a.1 <|
 M (e (uC a.1 a.2.1)) λc =>
 Y (c,a))
  (Y (false,a)))
  (Y (false,a)):T ((Bool×ze))) λ(d,b) =>
 U d
  (Y (zG (b.1,((qj (b.2.1+1)),(b.2.2.1,(b.2.2.2.1,()))))))
  (Y (zF b))
def cj is most1 from_ s:=zJ (yk is most1 from_) s
def uO(c:Int->T Bool)(d:Int)(b:ze):T (q9×ze) :=
 M (cj c d b.2.1 b) λa =>
 .W (jf b.2.1 a.2.1 a.1.length) <|
 Y ((fW b.2.1 a.2.1 a.1),a)
def strings_CutPrefix(a:q9)(b:q9):T (q9×Bool) :=
 Y (Eg a b,List.isPrefixOf b a)
def b9(c:Int):q9->T (q9⊕q9)
 | a=>let b:=qj ((a.length:Int)-1);
 .W (((zA (0<(a.length:Int)))=true)->(xf b a.length)) <|
 U ((zA (0<(a.length:Int)))&&((uC a b)==c))
  (.W (jf 0 b a.length) <|
 Y (zG (fW 0 b a)))
  (Y (zF a))
def b8 c1 s:=zJ (b9 c1) s
def strings_trimRightByte(b:q9)(c:Int):T q9 :=
 M (b8 c b) λa =>
 Y a
def bO(b:Int):q9->T (q9⊕q9)
 | a =>
 .W (((zA (0<(a.length:Int)))=true)->(xf 0 a.length)) <|
 U ((zA (0<(a.length:Int)))&&((uC a 0)==b))
  (.W (jf 1 (a.length:Int) a.length) <|
 Y (zG (fW 1 (a.length:Int) a)))
  (Y (zF a))
def bN c1 s:=zJ (bO c1) s
def strings_trimLeftByte(b:q9)(c:Int):T q9 :=
 M (bN c b) λa =>
 Y a
def strings_makeASCIISet(a:q9):T ((den (ng .bool 256))×Bool) :=
 .W (a.length<4294967281/\(∀ (j:Nat) b,a[j]? = some b->b.toNat<128)) <|
 Y (lQ a,true)
def vn(b:(den (ng .bool 256)))(a:Int):T Bool :=
 .W (xf a 256) <|
 Y (Vd .bool (ng .bool 256) b (zE a))
def uK(d:(den (ng .bool 256))):q9->T (q9⊕q9)
 | a=>let b:=qj ((a.length:Int)-1);
 U (zA (0<(a.length:Int)))
  (oI b a <|
 M (vn d (uC a b)) λc =>
 U (!c)
  (Y (zF a))
  (.W (jf 0 b a.length) <|
 Y (zG (fW 0 b a))))
  (Y (zF a))
def jO as1 s:=zJ (uK as1) s
def jB(b:q9)(c:(den (ng .bool 256))):T q9 :=
 M (jO c b) λa =>
 Y a
def j5(c:(den (ng .bool 256))):q9->T (q9⊕q9)
 | a =>
 U (zA (0<(a.length:Int)))
  (oI 0 a <|
 M (vn c (uC a 0)) λb =>
 U (!b)
  (Y (zF a))
  (.W (jf 1 (a.length:Int) a.length) <|
 Y (zG (fW 1 (a.length:Int) a))))
  (Y (zF a))
def kB as1 s:=zJ (j5 as1) s
def jS(b:q9)(c:(den (ng .bool 256))):T q9 :=
 M (kB c b) λa =>
 Y a
def cz(b:q9)(a:q9):T q9 :=
 U ((wP b [])||(wP a []))
  (Y b)
  (.W ((((a.length:Int)==1)=true)->(xf 0 a.length)) <|
 U (((a.length:Int)==1)&&(zA ((uC a 0)<128)))
  (oI 0 a <|
 M (strings_trimRightByte b (uC a 0)) λd =>
 oI 0 a <|
 M (strings_trimLeftByte d (uC a 0)) λe =>
 Y e)
  (M (strings_makeASCIISet a) λ(c,f) =>
 U f
  (M (jB b c) λg =>
 M (jS g c) λh =>
 Y h)
  (.fail)))
def VQ(h:z7)(c:z7)(e:z7)(g:Int):(Int×Int×z7)->T ((Int×Int×z7)⊕((Int×z7)))
 | (d,a,b)=>let f:=bif (zA (a<(c.length:Int)))then(xr ((xr (d+(xr (nth e a (zb (.int .u32))))))+(xr (nth c a (zb (.int .u32))))))else(xr (d+(xr (nth e a (zb (.int .u32))))));
 U (zA (a<g))
  (oI a e <|
 .W (((zA (a<(c.length:Int)))=true)->(xf a c.length)) <|
 oI a b <|
 .W (uM b.length b.length (0+(zE a)) b.length) <|
 .W (0<=(32:Int)) <|
 oM b.length (zL b (0+(zE a)) (jT f)).length <|
 Y (zG ((j8 .u64 f 32),((qj (a+1)),(zL b (0+(zE a)) (jT f))))))
  (oC b <|
 V b <|
 Y (zF (d,b)))
def VP a2 b2 x x1 s:=zJ (VQ a2 b2 x x1) s
def J2(h:z7)(i:z7):T z7 :=
 M (ue h) λc =>
 M (ue i) λd=>let e:=bif (zA ((c.length:Int)<(d.length:Int)))then d else c; let a:=(e.length:Int);
 .W (dH (qj (a+1)) (qj (a+1)) 4) <|
 oM (zE (qj (a+1))) (zM (zE (qj (a+1))) (0:Int)).length <|
 M (VP e (bif (zA ((c.length:Int)<(d.length:Int)))then c else d) e a (0,(0,(zM (zE (qj (a+1))) 0)))) λ(f,b) =>
 oI a b <|
 .W (uM b.length b.length (0+(zE a)) b.length) <|
 V b <|
 M (ue (zH 0 (zI (0+b.length) (zL b (0+(zE a)) (jT f))))) λg =>
 Y g
def Qj(c:q9)(g:Int):(z7×Int)->T ((z7×Int)⊕z7)
 | (b,a) =>
 U (zA (a<g))
  (M (iK b ([10]:List Int)) λd =>
 oI a c <|
 M (iL (xr (wu8 ((uC c a)-48)))) λe =>
 M (J2 d e) λf =>
 Y (zG (f,(qj (a+1)))))
  (Y (zF b))
def Qi s1 x1 s:=zJ (Qj s1 x1) s
def mo(a:q9):T (z7×Bool) :=
 M (U (wP a [])
  (Y true)
  (U (zA (400<(a.length:Int)))
  (Y true)
  (M (cz a [48,49,50,51,52,53,54,55,56,57]) λb =>
 Y (!(wP b [])))):T Bool) λc =>
 U c
  (Y ([],false))
  (M (Qi a (a.length:Int) ([],0)) λd =>
 Y (d,true))
def pH(f:q9):T (Rat×Int) :=
 U (zA (400<(f.length:Int)))
  (Y ((false,(([]:List Int),(([]:List Int),()))),3))
  (M (strings_CutPrefix f [45]) λ(c,d) =>
 M (strings_Cut c [46]) λ(b,a,g) =>
 U g
  (M (mo a) λ(t,h) =>
 oK b a <|
 M (mo (cat b a)) λ(i,j) =>
 U ((wP b [])||((!h)||(!j)))
  (Y ((false,(([]:List Int),(([]:List Int),()))),2))
  (M (UB (a.length:Int)) λk =>
 M (sa d i k) λl =>
 Y (l,0)))
  (M (strings_Cut c [47]) λ(m,n,o) =>
 M (mo m) λ(p,q) =>
 M (mo (bif (!o)then[49]else n)) λ(e,r) =>
 U ((!q)||((!r)||((e.length:Int)==0)))
  (Y ((false,(([]:List Int),(([]:List Int),()))),2))
  (M (sa d p e) λs =>
 Y (s,0))))
def kF(i:ze):T ((AM.Expr×ze)⊕(xi×ze)) :=
 M (uO (λe=>ko e) (i.1.length:Int) i) λ(c,a) =>
 M (.W (((zA (a.2.1<(a.1.length:Int)))=true)->(xf a.2.1 a.1.length)) <|
 U ((zA (a.2.1<(a.1.length:Int)))&&((uC a.1 a.2.1)==46))
  (M (uO (λe=>ko e) (a.1.length:Int) (a.1,((qj (a.2.1+1)),(a.2.2.1,(a.2.2.2.1,()))))) λ(b,f) =>
 U (wP b [])
  (M (vu 2 f.2.1 f) <|
 zK (λj =>
 oK [46] b <|
 oK c (cat [46] b) <|
 Y (zG ((cat c (cat [46] b)),(j,(Expr.mk 0 (false,([],([],()))) [] [])))))
  (λ(k,l) =>
 Y (zF (k,(l,(Expr.mk 0 (false,([],([],()))) [] []))))))
  (oK [46] b <|
 oK c (cat [46] b) <|
 Y (zG ((cat c (cat [46] b)),(f,(Expr.mk 0 (false,([],([],()))) [] []))))))
  (Y (zG (c,(a,(Expr.mk 0 (false,([],([],()))) [] []))))):T ((q9×ze×AM.Expr)⊕(xi×ze×AM.Expr))) <|
 zK (λ(h,d,o) =>
 U (zA (400<(h.length:Int)))
  (Y (zG ((Expr.mk 1 (false,([],([],()))) [] []),(d.1,(d.2.1,(d.2.2.1,(true,())))))))
  (M (pH h) λ(g,p) =>
 Y (zG ((Expr.mk 1 (g.1,(g.2.1,(g.2.2.1,()))) [] []),d))))
  (λ(m,n,q) =>
 Y (zF (m,n)))
def uE(oE:ze->T ((AM.Expr×ze)⊕(xi×ze)))(zl:ze->T ((AM.Expr×ze)⊕(xi×ze)))(h2:ze):T ((AM.Expr×ze)⊕(xi×ze)) :=
 M (uN [45,40] h2) λ(h,a)=>let j:=(a,(Expr.mk 0 (false,([],([],()))) [] []));
 U (h==45)
  (M (kG a) <|
 zK (λk =>
 M (oE k) <|
 zK (λ(l,c) =>
 Y (zG ((Expr.mk 7 (false,([],([],()))) [] [l]),(c.1,(c.2.1,((qj (c.2.2.1-1)),(c.2.2.2.1,())))))))
  (λ(m,n) =>
 Y (zF (m,n))))
  (λ(o,p) =>
 Y (zF (o,p))))
  (U (h==40)
  (M (kG a) <|
 zK (λq =>
 M (zl q) <|
 zK (λ(r,s)=>let g:=((Expr.mk 0 (false,([],([],()))) [] []),r);
 M (M (uN [41] s) λ(t,e) =>
 U (t==0)
  (M (vu 2 e.2.1 e) <|
 zK (λu =>
 Y (zG (u,g)))
  (λ(v,w) =>
 Y (zF (v,(w,g)))))
  (Y (zG (e,g))):T ((ze×AM.Expr×AM.Expr)⊕(xi×ze×AM.Expr×AM.Expr))) <|
 zK (λ(d,zB,x) =>
 Y (zG (x,(d.1,(d.2.1,((qj (d.2.2.1-1)),(d.2.2.2.1,())))))))
  (λ(y,z,z6,aa) =>
 Y (zF (y,z))))
  (λ(A,B) =>
 Y (zF (A,B))))
  (λ(C,D) =>
 Y (zF (C,D))))
  (M (U (zA (a.2.1<(a.1.length:Int)))
  (oI a.2.1 a.1 <|
 M (ko (uC a.1 a.2.1)) λκ' =>
 Y (κ',j))
  (Y (false,j)):T ((Bool×ze×AM.Expr))) λ(G,b,i) =>
 U G
  (M (kF b) <|
 zK (λ(H,hb) =>
 Y (zG (H,hb)))
  (λ(hd,K) =>
 Y (zF (hd,K))))
  (M (U (zA (b.2.1<(b.1.length:Int)))
  (oI b.2.1 b.1 <|
 M (cG (uC b.1 b.2.1)) λL =>
 Y (L,(b,i)))
  (Y (false,(b,i))):T ((Bool×ze×AM.Expr))) λ(zC,f,ab) =>
 U zC
  (M (uO (λhx=>cf hx) 24 f) λ(κ,P) =>
 Y (zG ((Expr.mk 2 (false,([],([],()))) κ []),P)))
  (M (vu 2 f.2.1 f) <|
 zK (λhl =>
 Y (zG ((Expr.mk 0 (false,([],([],()))) [] []),hl)))
  (λ(S,zD) =>
 Y (zF (S,zD)))))))
def vM(kI:ze->T ((AM.Expr×ze)⊕(xi×ze)))(p:ze):T ((AM.Expr×ze)⊕(xi×ze)):=T.fix (λF x=>uE (λy0=>F (y0)) kI x) p
def vk(l:ze->T ((AM.Expr×ze)⊕(xi×ze)))(f:q9)(m:xi):(ze×AM.Expr×AM.Expr)->T ((ze×AM.Expr×AM.Expr)⊕((ze×AM.Expr×AM.Expr)⊕(xi×ze×AM.Expr×AM.Expr)))
 | (k,e,a) =>
 M (uN f k) λ(b,c) =>
 U (b==0)
  (Y (zF (zG (c,(a,a)))))
  (M ((vM l) c) <|
 zK (λ(g,h) =>
 M (strings_IndexByte f b) λd =>
 .W (xf d 2) <|
 Y (zG (h,(e,(Expr.mk (Vd (.int .i64) uB m (zE d)) (false,([],([],()))) [] [a,g])))))
  (λ(i,j) =>
 Y (zF (zF (i,(j,(e,a)))))))
def vj kI marks1 kinds1 s:=zJ (vk kI marks1 kinds1) s
def wy(a:ze->T ((AM.Expr×ze)⊕(xi×ze)))(p:Unit)(j:q9)(k:xi)(l:ze):T ((AM.Expr×ze)⊕(xi×ze)) :=
 M ((vM a) l) <|
 zK (λ(b,c) =>
 M (vj a j k (c,((Expr.mk 0 (false,([],([],()))) [] []),b))) <|
 zK (λ(d,e,m) =>
 Y (zG (e,d)))
  (λ(f,g,n,o) =>
 Y (zF (f,g))))
  (λ(h,i) =>
 Y (zF (h,i)))
def vz(e:ze->T ((AM.Expr×ze)⊕(xi×ze)))(f:ze):T ((AM.Expr×ze)⊕(xi×ze)) :=
 M ((wy e) () [42,47] ((5:Int),((6:Int),())) f) <|
 zK (λ(a,b) =>
 Y (zG (a,b)))
  (λ(c,d) =>
 Y (zF (c,d)))
def v8(l:ze->T ((AM.Expr×ze)⊕(xi×ze)))(f:q9)(m:xi):(ze×AM.Expr×AM.Expr)->T ((ze×AM.Expr×AM.Expr)⊕((ze×AM.Expr×AM.Expr)⊕(xi×ze×AM.Expr×AM.Expr)))
 | (k,e,a) =>
 M (uN f k) λ(b,c) =>
 U (b==0)
  (Y (zF (zG (c,(a,a)))))
  (M ((vz l) c) <|
 zK (λ(g,h) =>
 M (strings_IndexByte f b) λd =>
 .W (xf d 2) <|
 Y (zG (h,(e,(Expr.mk (Vd (.int .i64) uB m (zE d)) (false,([],([],()))) [] [a,g])))))
  (λ(i,j) =>
 Y (zF (zF (i,(j,(e,a)))))))
def wZ kI marks1 kinds1 s:=zJ (v8 kI marks1 kinds1) s
def wv(a:ze->T ((AM.Expr×ze)⊕(xi×ze)))(p:Unit)(j:q9)(k:xi)(l:ze):T ((AM.Expr×ze)⊕(xi×ze)) :=
 M ((vz a) l) <|
 zK (λ(b,c) =>
 M (wZ a j k (c,((Expr.mk 0 (false,([],([],()))) [] []),b))) <|
 zK (λ(d,e,m) =>
 Y (zG (e,d)))
  (λ(f,g,n,o) =>
 Y (zF (f,g))))
  (λ(h,i) =>
 Y (zF (h,i)))
def yc(e:ze->T ((AM.Expr×ze)⊕(xi×ze)))(f:ze):T ((AM.Expr×ze)⊕(xi×ze)) :=
 M ((wv e) () [43,45] ((3:Int),((4:Int),())) f) <|
 zK (λ(a,b) =>
 Y (zG (a,b)))
  (λ(c,d) =>
 Y (zF (c,d)))
def cX(p:ze):T ((AM.Expr×ze)⊕(xi×ze)):=T.fix (λF x=>yc (λy0=>F (y0)) x) p
def gQ(a:AM.Expr)(b:Int)(c:Int):T (AM.Expr×Int×Int) :=
 U false
  (.fail)
  (Y (a,(b,c)))
def gj(a:xi)(b:AM.Expr)(c:Int)(d:Int):T (AM.Expr×Int×Int) :=
 U true
  (U (!true)
  (.fail)
  (Y ((Expr.mk 0 (false,([],([],()))) [] []),(a.2.1,a.1))))
  (Y (b,(c,d)))
def iG(t:ze):T (AM.Expr×Int×Int×ze) :=
 M (cX t) <|
 zK (λ(b,a) =>
 U (zA (a.2.1<(a.1.length:Int)))
  (M (vu 2 a.2.1 a) <|
 zK (λc =>
 M (gQ b 0 0) λ(d,e,f) =>
 Y (d,(e,(f,c))))
  (λ(g,h) =>
 M (gj g b 0 0) λ(i,j,k) =>
 Y (i,(j,(k,h)))))
  (M (gQ b 0 0) λ(l,m,n) =>
 Y (l,(m,(n,a)))))
  (λ(o,p) =>
 M (gj o (Expr.mk 0 (false,([],([],()))) [] []) 0 0) λ(q,r,s) =>
 Y (q,(r,(s,p))))
def rE(i:q9):T (AM.Expr×Int×Int) :=
 M (iG (i,((0:Int),((0:Int),(false,()))))) λ(a,e,b,c)=>let d:=((Expr.mk 0 (false,([],([],()))) [] []),(c,a));
 U (b != 0)
  (Y ((Expr.mk 0 (false,([],([],()))) [] []),(e,b)))
  (M (U c.2.2.2.1
  (Y (true,d))
  (M (iE a) λf =>
 Y ((!f),d)):T ((Bool×AM.Expr×ze×AM.Expr))) λ(g,j,k,h) =>
 U g
  (Y ((Expr.mk 0 (false,([],([],()))) [] []),(0,3)))
  (Y (h,(0,0))))
def strings_Contains(a:q9)(b:q9):T Bool :=
 .W (a.length<4294967281) <|
 Y (zA (0<=Gl a b))
def dL(b:q9)(v:q9):T (AM.Expr×AM.Expr×q9×Int) :=
 M (strings_IndexAny b [60,61]) λa=>let c:=fW (qj (a+1)) (b.length:Int) b;
 U (zA (a<0))
  (Y ((Expr.mk 0 (false,([],([],()))) [] []),((Expr.mk 0 (false,([],([],()))) [] []),([],2))))
  (.W (jf 0 a b.length) <|
 .W (jf (qj (a+1)) (b.length:Int) b.length) <|
 .W (jf a (qj (a+1)) b.length) <|
 M (M (U (wP (fW a (qj (a+1)) b) [60])
  (M (strings_HasPrefix c [61]) λm =>
 Y (m,((Expr.mk 0 (false,([],([],()))) [] []),(Expr.mk 0 (false,([],([],()))) [] []))))
  (Y (false,((Expr.mk 0 (false,([],([],()))) [] []),(Expr.mk 0 (false,([],([],()))) [] [])))):T ((Bool×AM.Expr×AM.Expr))) λ(n,e,f) =>
 U n
  (.W (jf 1 (c.length:Int) c.length) <|
 Y ([60,61],((fW 1 (c.length:Int) c),(e,f))))
  (Y ((fW a (qj (a+1)) b),(c,(e,f)))):T ((q9×q9×AM.Expr×AM.Expr))) λ(g,o,w,p) =>
 M (rE (fW 0 a b)) λ(d,x,h) =>
 U (h != 0)
  (Y (d,(p,([],h))))
  (M (M (rE o) λ(i,y,j) =>
 M (U (j==0)
  (M (strings_Contains v g) λq =>
 Y ((!q),(d,i)))
  (Y (false,(d,i))):T ((Bool×AM.Expr×AM.Expr))) λ(r,k,l) =>
 U r
  (Y (2,(k,l)))
  (Y (j,(k,l))):T ((Int×AM.Expr×AM.Expr))) λ(s,t,u) =>
 Y (t,(u,(g,s)))))
def nN(a:zr)(b:Int)(c:Int)(d:q9):T Bool :=
 .W ((((a.length:Int)==b)=true)->(xf c a.length)) <|
 Y (((a.length:Int)==b)&&(wP (nth a c (zb .str)) d))
def nM(b:zr)(a:Int):T (q9×Bool) :=
 U ((b.length:Int)==a)
  (Y ([],true))
  (M (M (nN b (qj (a+2)) a [119,104,101,110]) λc =>
 U c
  (oI (qj (a+1)) b <|
 M (uX (nth b (qj (a+1)) (zb .str))) λd =>
 Y d)
  (Y false):T Bool) λe =>
 U e
  (oI (qj (a+1)) b <|
 Y ((nth b (qj (a+1)) (zb .str)),true))
  (Y ([],false)))
def br(i:zr)(x:q9)(z:Unit)(k:qf)(l:qm)(j:xg)(m:qu)(n:xb)(o:qv):T (Int×Unit×qf×qm×xg×qu×xb×qv) :=
 let p:=((),(k,(l,(j,(m,(n,o))))));  M (U ((i.length:Int) != 2)
  (oY k l j m n o <|
 Y (true,p))
  (oI 1 i <|
 M (uX (nth i 1 (zb .str))) λr =>
 U (!r)
  (oY k l j m n o <|
 Y (true,p))
  (oY k l j m n o <|
 Y (((j.length:Int)==0),p))):T ((Bool×Unit×qf×qm×xg×qu×xb×qv))) λ(s,y,e,f,b,g,h,a) =>
 U s
  (oY e f b g h a <|
 Y (2,((),(e,(f,(b,(g,(h,a))))))))
  (oI 1 i <|
 M (dL x [60,61]) λ(c,d,t,u) =>
 M (bJ) λv =>
 M (wI v t) λw=>let q:=a++([((nth i 1 (zb .str)),((qj ((b.length:Int)-1)),(w,((Expr.mk (Expr.kind c) ((Expr.num c).1,((Expr.num c).2.1,((Expr.num c).2.2.1,()))) (Expr.name c) (Expr.kids c)),((Expr.mk (Expr.kind d) ((Expr.num d).1,((Expr.num d).2.1,((Expr.num d).2.2.1,()))) (Expr.name d) (Expr.kids d)),())))))]:List Check);
 oA a 240 <|
 oC e <|
 oC f <|
 oC b <|
 oC g <|
 oC h <|
 .W (zu (a.length+1) 0 (a.length+1) q.length) <|
 V e <|
 V f <|
 V b <|
 V g <|
 V h <|
 .W ((a.length+1)=q.length) <|
 Y (u,((),(e,(f,(b,(g,(h,q))))))))
def cx(a:zr)(A:q9)(D:Unit)(j:qf)(k:qm)(l:xg)(m:qu)(n:xb)(o:qv):T (Int×Unit×qf×qm×xg×qu×xb×qv) :=
 let p:=((),(j,(k,(l,(m,(n,o))))));  M (U (zA ((a.length:Int)<3))
  (oY j k l m n o <|
 Y (true,p))
  (M (y9) λr =>
 oI 1 a <|
 M (wN r (nth a 1 (zb .str))) λs =>
 U (!s)
  (oY j k l m n o <|
 Y (true,p))
  (oI 2 a <|
 M (uX (nth a 2 (zb .str))) λt =>
 oY j k l m n o <|
 Y ((!t),p))):T ((Bool×Unit×qf×qm×xg×qu×xb×qv))) λ(u,B,c,d,e,f,b,g) =>
 U u
  (oY c d e f b g <|
 Y (2,((),(c,(d,(e,(f,(b,g))))))))
  (M (nM a 3) λ(v,w) =>
 U (!w)
  (oY c d e f b g <|
 Y (2,((),(c,(d,(e,(f,(b,g))))))))
  (oI 2 a <|
 M (y9) λx =>
 oI 1 a <|
 M (wI x (nth a 1 (zb .str))) λy =>
 M (dL A [61]) λ(h,i,C,z)=>let q:=b++([((nth a 2 (zb .str)),(y,(v,((Expr.mk (Expr.kind h) ((Expr.num h).1,((Expr.num h).2.1,((Expr.num h).2.2.1,()))) (Expr.name h) (Expr.kids h)),((Expr.mk (Expr.kind i) ((Expr.num i).1,((Expr.num i).2.1,((Expr.num i).2.2.1,()))) (Expr.name i) (Expr.kids i)),())))))]:List eC);
 oA b 248 <|
 oC c <|
 oC d <|
 oC e <|
 oC f <|
 .W (zu (b.length+1) 0 (b.length+1) q.length) <|
 oC g <|
 V c <|
 V d <|
 V e <|
 V f <|
 .W ((b.length+1)=q.length) <|
 V g <|
 Y (z,((),(c,(d,(e,(f,(q,g)))))))))
def cu(a:zr)(s:Unit)(h:qf)(i:qm)(j:xg)(k:qu)(l:xb)(m:qv):T (Bool×Unit×qf×qm×xg×qu×xb×qv) :=
 let n:=((),(h,(i,(j,(k,(l,m))))));  M (U ((a.length:Int) != 3)
  (oY h i j k l m <|
 Y (true,n))
  (oI 1 a <|
 M (uX (nth a 1 (zb .str))) λp =>
 U (!p)
  (oY h i j k l m <|
 Y (true,n))
  (oI 2 a <|
 U (!(wP (nth a 2 (zb .str)) [111,110]))
  (oI 2 a <|
 oY h i j k l m <|
 Y ((!(wP (nth a 2 (zb .str)) [111,102,102])),n))
  (oY h i j k l m <|
 Y (false,n)))):T ((Bool×Unit×qf×qm×xg×qu×xb×qv))) λ(q,r,b,c,d,e,f,g)=>let o:=b++([((nth a 1 (zb .str)),((wP (nth a 2 (zb .str)) [111,110]),()))]:List Switch);
 U q
  (oY b c d e f g <|
 Y (false,((),(b,(c,(d,(e,(f,g))))))))
  (oI 1 a <|
 oI 2 a <|
 oA b 24 <|
 .W (zu (b.length+1) 0 (b.length+1) o.length) <|
 oC c <|
 oC d <|
 oC e <|
 oC f <|
 oC g <|
 .W ((b.length+1)=o.length) <|
 V c <|
 V d <|
 V e <|
 V f <|
 V g <|
 Y (true,((),(o,(c,(d,(e,(f,g))))))))
def da(b:zr)(t:Unit)(h:qf)(i:qm)(j:xg)(k:qu)(l:xb)(m:qv):T (Bool×Unit×qf×qm×xg×qu×xb×qv) :=
 M (U ((b.length:Int) != 3)
  (oY h i j k l m <|
 Y (true,((),(h,(i,(j,(k,(l,m))))))))
  (oI 1 b <|
 M (uX (nth b 1 (zb .str))) λp =>
 oY h i j k l m <|
 Y ((!p),((),(h,(i,(j,(k,(l,m)))))))):T ((Bool×Unit×qf×qm×xg×qu×xb×qv))) λ(q,s,c,a,d,e,f,g) =>
 U q
  (oY c a d e f g <|
 Y (false,((),(c,(a,(d,(e,(f,g))))))))
  (oI 2 b <|
 M (pH (nth b 2 (zb .str))) λ(n,r)=>let o:=a++([((nth b 1 (zb .str)),((n.1,(n.2.1,(n.2.2.1,()))),()))]:List Param);
 oI 1 b <|
 oA a 72 <|
 oC c <|
 .W (zu (a.length+1) 0 (a.length+1) o.length) <|
 oC d <|
 oC e <|
 oC f <|
 oC g <|
 V c <|
 .W ((a.length+1)=o.length) <|
 V d <|
 V e <|
 V f <|
 V g <|
 Y ((r==0),((),(c,(o,(d,(e,(f,g))))))))
def cv(b:zr)(t:Unit)(h:qf)(i:qm)(j:xg)(k:qu)(l:xb)(m:qv):T (Bool×Unit×qf×qm×xg×qu×xb×qv) :=
 M (U (zA ((b.length:Int)<2))
  (oY h i j k l m <|
 Y (true,((),(h,(i,(j,(k,(l,m))))))))
  (oI 1 b <|
 M (uX (nth b 1 (zb .str))) λo =>
 oY h i j k l m <|
 Y ((!o),((),(h,(i,(j,(k,(l,m)))))))):T ((Bool×Unit×qf×qm×xg×qu×xb×qv))) λ(p,s,c,d,a,e,f,g) =>
 U p
  (oY c d a e f g <|
 Y (false,((),(c,(d,(a,(e,(f,g))))))))
  (M (nM b 2) λ(q,r)=>let n:=a++([((nth b 1 (zb .str)),(q,()))]:List eY);
 oI 1 b <|
 oA a 32 <|
 oC c <|
 oC d <|
 .W (zu (a.length+1) 0 (a.length+1) n.length) <|
 oC e <|
 oC f <|
 oC g <|
 V c <|
 V d <|
 .W ((a.length+1)=n.length) <|
 V e <|
 V f <|
 V g <|
 Y (r,((),(c,(d,(n,(e,(f,g))))))))
def db(a:zr)(aa:Unit)(A:qf)(B:qm)(s:xg)(C:qu)(D:xb)(κ':qv):T (Bool×Unit×qf×qm×xg×qu×xb×qv) :=
 let hx:=((),(A,(B,(s,(C,(D,κ')))))); let b:=(a.length:Int);  M (U (zA (b<2))
  (oY A B s C D κ' <|
 Y (true,hx))
  (oI 1 a <|
 M (uX (nth a 1 (zb .str))) λκ =>
 U (!κ)
  (oY A B s C D κ' <|
 Y (true,hx))
  (oY A B s C D κ' <|
 Y (((s.length:Int)==0),hx))):T ((Bool×Unit×qf×qm×xg×qu×xb×qv))) λ(P,zl,g,h,c,i,j,k) =>
 U P
  (oY g h c i j k <|
 Y (false,((),(g,(h,(c,(i,(j,k))))))))
  (oI 1 a <|
 .W (jf 2 b a.length) <|
 M (.W (((zA (0<(zN (uI (e:=.str) 2 b a).length:Int)))=true)->(xf 0 (uI (e:=.str) 2 b a).length)) <|
 U ((zA (0<(zN (uI (e:=.str) 2 b a).length:Int)))&&(wP (nth (uI (e:=.str) 2 b a) 0 (zb .str)) [109,117,115,116]))
  (.W (jf 1 (zN (uI (e:=.str) 2 b a).length:Int) (uI (e:=.str) 2 b a).length) <|
 oY g h c i j k <|
 Y ((uI (e:=.str) 1 (zN (uI (e:=.str) 2 b a).length:Int) (uI (e:=.str) 2 b a)),((),(g,(h,(c,(i,(j,(k,((nth a 1 (zb .str)),((qj ((c.length:Int)-1)),(true,((0:Int),())))))))))))))
  (oY g h c i j k <|
 Y ((uI (e:=.str) 2 b a),((),(g,(h,(c,(i,(j,(k,((nth a 1 (zb .str)),((qj ((c.length:Int)-1)),(false,((0:Int),()))))))))))))):T ((zr×Unit×qf×qm×xg×qu×xb×qv×Field))) λ(d,h2,m,n,o,p,q,r,hl)=>let l:=nth d 1 (zb .str); let G:=((),(m,(n,(o,(p,(q,(r,hl)))))));
 M (M (M (nN d 2 0 [115,99,97,108,101]) λS =>
 U S
  (oI 1 d <|
 U ((l.length:Int)==1)
  (oI 1 d <|
 U (!(strLt l [48]))
  (oI 1 d <|
 oY m n o p q r <|
 Y (((strLt l [57])||(wP l [57])),G))
  (oY m n o p q r <|
 Y (false,G)))
  (oY m n o p q r <|
 Y (false,G)))
  (oY m n o p q r <|
 Y (false,G)):T ((Bool×Unit×qf×qm×xg×qu×xb×qv×Field))) λ(zD,zB,t,u,v,w,x,y,z) =>
 U zD
  (oI 1 d <|
 oI 0 l <|
 oY t u v w x y <|
 Y ([],((),(t,(u,(v,(w,(x,(y,(z.1,(z.2.1,(z.2.2.1,((qj (wu8 ((uC l 0)-48))),())))))))))))))
  (oY t u v w x y <|
 Y (d,((),(t,(u,(v,(w,(x,(y,z))))))))):T ((zr×Unit×qf×qm×xg×qu×xb×qv×Field))) λ(oE,z6,H,hb,hd,f,K,L,zC) =>
 oA f 40 <|
 oC H <|
 oC hb <|
 oC hd <|
 .W (zu (f.length+1) 0 (f.length+1) (f++[zC]).length) <|
 oC K <|
 oC L <|
 V H <|
 V hb <|
 V hd <|
 .W ((f.length+1)=(f++[zC]).length) <|
 V K <|
 V L <|
 Y (((oE.length:Int)==0),((),(H,(hb,(hd,((f++[zC]),(K,L))))))))
def pB(ag:q9)(an:Unit)(b:qf)(c:qm)(d:xg)(e:qu)(f:xb)(g:qv):T (Int×Unit×qf×qm×xg×qu×xb×qv) :=
 let j:=((),(b,(c,(d,(e,(f,g))))));  M (strings_Cut ag [58]) λ(z6,K,i) =>
 M (tI z6) λa=>let hd:=zA (0<(a.length:Int)); let h:=nth a 0 (zb .str);
 .W (((((a.length:Int)==0)=true)->(((!i)=false)->((hd=true)->((xf 0 a.length)/\(xf 0 h.length)))))/\((((a.length:Int)==0)=false)->((hd=true)->((xf 0 a.length)/\(xf 0 h.length))))) <|
 U (bif ((a.length:Int)==0)then((!i)||(hd&&((uC h 0)==35)))else(hd&&((uC h 0)==35)))
  (oY b c d e f g <|
 Y (0,j))
  (U ((a.length:Int)==0)
  (U (!false)
  (oY b c d e f g <|
 Y (2,j))
  (oY b c d e f g <|
 Y (0,j)))
  (.W ((i=true)->(xf 0 a.length)) <|
 U (i&&(wP h [99,104,101,99,107]))
  (oY b c d e f g <|
 M (br a K () b c d e f g) λ(aa,ah,L,zC,hx,κ,P,hl) =>
 oY L zC hx κ P hl <|
 Y (aa,((),(L,(zC,(hx,(κ,(P,hl))))))))
  (.W ((i=true)->(xf 0 a.length)) <|
 U (i&&(wP h [114,117,108,101]))
  (oY b c d e f g <|
 M (cx a K () b c d e f g) λ(ab,ai,S,zD,oE,zl,h2,zB) =>
 oY S zD oE zl h2 zB <|
 Y (ab,((),(S,(zD,(oE,(zl,(h2,zB))))))))
  (U i
  (U (!false)
  (oY b c d e f g <|
 Y (2,j))
  (oY b c d e f g <|
 Y (0,j)))
  (oI 0 a <|
 U (wP h [115,119,105,116,99,104])
  (oY b c d e f g <|
 M (cu a () b c d e f g) λ(ac,aj,k,l,m,n,o,p) =>
 U (!ac)
  (oY k l m n o p <|
 Y (2,((),(k,(l,(m,(n,(o,p))))))))
  (oY k l m n o p <|
 Y (0,((),(k,(l,(m,(n,(o,p)))))))))
  (oI 0 a <|
 U (wP h [112,97,114,97,109])
  (oY b c d e f g <|
 M (da a () b c d e f g) λ(ad,ak,q,r,s,t,u,v) =>
 U (!ad)
  (oY q r s t u v <|
 Y (2,((),(q,(r,(s,(t,(u,v))))))))
  (oY q r s t u v <|
 Y (0,((),(q,(r,(s,(t,(u,v)))))))))
  (oI 0 a <|
 U (wP h [112,97,103,101])
  (oY b c d e f g <|
 M (cv a () b c d e f g) λ(ae,al,w,x,y,z,A,B) =>
 U (!ae)
  (oY w x y z A B <|
 Y (2,((),(w,(x,(y,(z,(A,B))))))))
  (oY w x y z A B <|
 Y (0,((),(w,(x,(y,(z,(A,B)))))))))
  (oI 0 a <|
 U (wP h [102,105,101,108,100])
  (oY b c d e f g <|
 M (db a () b c d e f g) λ(af,am,C,D,κ',G,H,hb) =>
 U (!af)
  (oY C D κ' G H hb <|
 Y (2,((),(C,(D,(κ',(G,(H,hb))))))))
  (oY C D κ' G H hb <|
 Y (0,((),(C,(D,(κ',(G,(H,hb)))))))))
  (U (!false)
  (oY b c d e f g <|
 Y (2,j))
  (oY b c d e f g <|
 Y (0,j)))))))))))
def ll(u:zr)(w:Int):(Int×Unit×Unit×qv×qv×xb×xb×qf×qf×qm×qm×xg×xg×qu×qu)->T ((Int×Unit×Unit×qv×qv×xb×xb×qf×qf×qm×qm×xg×xg×qu×qu)⊕((Unit×Unit×qv×qv×xb×xb×qf×qf×qm×qm×xg×xg×qu×qu)⊕(Int×Int×Form×Unit×qv×qv×xb×xb×qf×qf×qm×qm×xg×xg×qu×qu)))
 | (m,y,z,a,n,b,o,c,p,d,q,e,r,f,s) =>
 U (zA (m<w))
  (oI m u <|
 oY p q r s o n <|
 M (pB (nth u m (zb .str)) () p q r s o n) λ(t,x,g,h,i,j,k,l)=>let v:=((),(a,(l,(b,(k,(c,(g,(d,(h,(e,(i,(f,j))))))))))));
 U (t != 0)
  (oV g h i j k l <|
 oW a l b k c g <|
 oW d h e i f j <|
 Y (zF (zF ((qj (m+1)),(t,((([]:List Switch),(([]:List Param),(([]:List eY),(([]:List Field),(([]:List eC),(([]:List Check),())))))),v))))))
  (oV c d e f b a <|
 oV g h i j k l <|
 oW a l b k c g <|
 oW d h e i f j <|
 Y (zG ((qj (m+1)),((),v)))))
  (oV c d e f b a <|
 oV p q r s o n <|
 oW a n b o c p <|
 oW d q e r f s <|
 Y (zF (zG ((),((),(a,(n,(b,(o,(c,(p,(d,(q,(e,(r,(f,s))))))))))))))))
def sq x x1 s:=zJ (ll x x1) s
def nL(h:q9):T (Form×Int×Int) :=
 U (zA (16384<(h.length:Int)))
  (Y ((([]:List Switch),(([]:List Param),(([]:List eY),(([]:List Field),(([]:List eC),(([]:List Check),())))))),(0,3)))
  (M (strings_Split h [10]) λg =>
 .W (zu 0 0 0 0) <|
 .W (zu 0 0 0 0) <|
 .W (zu 0 0 0 0) <|
 .W (zu 0 0 0 0) <|
 .W (zu 0 0 0 0) <|
 .W (zu 0 0 0 0) <|
 .W (zu 0 0 0 0) <|
 .W (zu 0 0 0 0) <|
 .W (zu 0 0 0 0) <|
 .W (zu 0 0 0 0) <|
 .W (zu 0 0 0 0) <|
 oZ <|
 .W (0=0) <|
 .W (0=0) <|
 .W (0=0) <|
 .W (0=0) <|
 .W (0=0) <|
 .W (0=0) <|
 .W (0=0) <|
 .W (0=0) <|
 .W (0=0) <|
 .W (0=0) <|
 .W (0=0) <|
 M (sq g (g.length:Int) (0,((),((),([],([],([],([],([],([],([],([],([],([],([],[]))))))))))))))) <|
 zK (λ(n,o,p,a,q,b,r,c,s,d,t,e,u,f)=>let i:=((zH 0 (zI (0+c.length) c)),((zH 0 (zI (0+d.length) d)),((zH 0 (zI (0+e.length) e)),((zH 0 (zI (0+f.length) f)),((zH 0 (zI (0+b.length) b)),((zH 0 (zI (0+a.length) a)),()))))));
 oW c d e f b a <|
 M (ZB i) λj =>
 U (!j)
  (Y ((([]:List Switch),(([]:List Param),(([]:List eY),(([]:List Field),(([]:List eC),(([]:List Check),())))))),(0,2)))
  (oW c d e f b a <|
 Y (i,(0,0))))
  (λ(k,l,m,v,w,x,y,z,A,B,C,D,κ',G,H,hb) =>
 Y (m,(k,l))))
def Q1(c:Form):T Form :=
 M (tF c) λa =>
 M (nL a) λ(b,d,e) =>
 Y b
def gm(a:Int):T Rat :=
 M (iL (bif (zA (a<0))then(xr (0-(xr a)))else(xr a))) λb =>
 M (iL 1) λc =>
 Y ((zA (a<0)),(b,(c,())))
def Xp(a:Form)(b:zt):T Bool :=
 Y (((b.2.2.1.length:Int)==(a.2.2.2.1.length:Int))&&(((b.2.2.2.1.length:Int)==(a.2.2.2.2.1.length:Int))&&(((b.2.2.2.2.1.length:Int)==(a.2.2.2.1.length:Int))&&((b.2.2.2.2.2.1.length:Int)==(a.2.2.2.1.length:Int)))))
def c8(a:Rat):T Bool :=
 M (tU a) λb =>
 U (!b)
  (Y true)
  (M (cK a) λc =>
 Y c)
def yY(b:zp)(d:Rat->T Bool)(e:Int):Int->T (Int⊕(Unit⊕Int))
 | a =>
 U (zA (a<e))
  (oI a b <|
 M (d (nth b a (zb zm))) λc =>
 U c
  (Y (zF (zF a)))
  (Y (zG (qj (a+1)))))
  (Y (zF (zG ())))
def sG s1 f x s:=zJ (yY s1 f x) s
def kW(a:zp)(c:Rat->T Bool):T Int :=
 M (sG a c (a.length:Int) 0) <|
 zK (λ_ =>
 Y (-1))
  (λb =>
 Y b)
def vD(b:zp)(c:Rat->T Bool):T Bool :=
 M (kW b c) λa =>
 Y (zA (0<=a))
def rD(c:qu)(d:Int):(Int×zr)->T ((Int×zr)⊕zr)
 | (b,a) =>
 U (zA (b<d))
  (oI b c <|
 oA a 16 <|
 oM (a.length+1) (a++([(nth c b (zb qy)).1]:List q9)).length <|
 Y (zG ((qj (b+1)),(a++([(nth c b (zb qy)).1]:List q9)))))
  (oC a <|
 V a <|
 Y (zF a))
def rC x x1 s:=zJ (rD x x1) s
def td(b:Form):T zr :=
 oZ <|
 M (rC b.2.2.2.1 (b.2.2.2.1.length:Int) (0,[])) λa =>
 V a <|
 Y (zH 0 (zI (0+a.length) a))
def bu(a:zp):T zp :=
 let b:=0+a.length;  .W (a=[]->∀ r,T.leads (.W (vV 0 0 0 0 0 a.length 56) <|
 .W (b=b) <|
 Y (zH 0 (zI (0+b) a)):T _) r->T.leads (Y []:T _) r) <|
 .W (vV 0 0 0 0 0 a.length 56) <|
 .W (b=b) <|
 Y (zH 0 (zI (0+b) a))
def Xs(h:qm)(i:Int):(Int×(zp×Unit)×(zr×zp×Unit)×zr×zr×zr)->T ((Int×(zp×Unit)×(zr×zp×Unit)×zr×zr×zr)⊕(((zp×Unit)×(zr×zp×Unit)×zr×zr×zr)))
 | (d,g,e,b,c,a)=>let f:=a++([(nth h d (zb ql)).1]:List q9);
 U (zA (d<i))
  (oI d h <|
 oA a 16 <|
 oC b <|
 oC c <|
 .W (zu (a.length+1) 0 (a.length+1) f.length) <|
 V b <|
 V c <|
 .W ((a.length+1)=f.length) <|
 Y (zG ((qj (d+1)),((g.1,()),((e.1,(e.2.1,())),(b,(c,f)))))))
  (oC b <|
 oC c <|
 oC a <|
 V b <|
 V c <|
 V a <|
 Y (zF ((g.1,()),((e.1,(e.2.1,())),(b,(c,a))))))
def Xr x x1 s:=zJ (Xs x x1) s
def rB(b:Form)(f:zp):T wu :=
 M (td b) λd =>
 M (bu f) λe =>
 .W (zu 0 0 0 0) <|
 .W (zu 0 0 0 0) <|
 oZ <|
 .W (0=0) <|
 .W (0=0) <|
 M (Xr b.2.1 (b.2.1.length:Int) (0,(([],()),((d,(e,())),([],([],[])))))) λ(g,c,h,i,a) =>
 V a <|
 Y (c.1,((zH 0 (zI (0+a.length) a)),(c.2.1,())))
def dV(a:Switch)(b:q9):T Bool :=
 Y (wP a.1 b)
def Wx(e:Form)(c:zo)(b:q9):T Bool :=
 M (wh e.1 (λd=>dV d b)) λa =>
 .W (((wP b [])=false)->(((zA (0<=a))=true)->(xf a c.length))) <|
 Y ((wP b [])||((zA (0<=a))&&(nth c a (zb .bool))))
def lP(b:zp)(a:Int):T Rat :=
 U ((zA (a<0))||(zA ((b.length:Int)<=a)))
  (M (gm 0) λc =>
 Y c)
  (oI a b <|
 M (vN (nth b a (zb zm))) λd =>
 Y d)
def Wq(g:q9)(d:wu):T (vR×Int) :=
 M (wI d.1 g) λe =>
 U (zA (0<=e))
  (M (gm 1) λa =>
 M (gm 0) λb =>
 Y (((0:Int),(([(e,((a.1,(a.2.1,(a.2.2.1,()))),()))]:List Term),((b.1,(b.2.1,(b.2.2.1,()))),()))),0))
  (M (wI d.2.1 g) λf =>
 U (zA (f<0))
  (Y (((0:Int),(([]:List Term),((false,(([]:List Int),(([]:List Int),()))),()))),5))
  (M (lP d.2.2.1 f) λc =>
 Y (((0:Int),(([]:List Term),((c.1,(c.2.1,(c.2.2.1,()))),()))),0)))
def pn(f:Rat)(g:Rat):T Rat :=
 M (vN f) λa =>
 M (vN g) λb =>
 M (iK a.2.1 b.2.1) λc =>
 M (iK a.2.2.1 b.2.2.1) λd =>
 M (sa (!(a.1==b.1)) c d) λe =>
 Y e
def iW(b:Rat):T Bool :=
 M (vN b) λa =>
 Y ((a.2.1.length:Int)==0)
def ZK(k:Rat)(f:wD)(l:Int):(Int×(Int×Bool×z7×z7×Unit)×(Int×Bool×z7×z7×Unit)×wD×wD)->T ((Int×(Int×Bool×z7×z7×Unit)×(Int×Bool×z7×z7×Unit)×wD×wD)⊕(((Int×Bool×z7×z7×Unit)×(Int×Bool×z7×z7×Unit)×wD×wD)))
 | (b,c,d,e,a)=>let i:=((c.1,(c.2.1,(c.2.2.1,(c.2.2.2.1,())))),((d.1,(d.2.1,(d.2.2.1,(d.2.2.2.1,())))),(e,a)));
 U (zA (b<l))
  (oI b f <|
 M (pn ((nth f b (zb qq)).2.1.1,((nth f b (zb qq)).2.1.2.1,((nth f b (zb qq)).2.1.2.2.1,()))) k) λg=>let h:=a++([((nth f b (zb qq)).1,((g.1,(g.2.1,(g.2.2.1,()))),()))]:List Term);
 M (iW g) λj =>
 U (!j)
  (oA a 64 <|
 oC e <|
 .W (zu (a.length+1) 0 (a.length+1) h.length) <|
 V e <|
 .W ((a.length+1)=h.length) <|
 Y (zG ((qj (b+1)),((c.1,(c.2.1,(c.2.2.1,(c.2.2.2.1,())))),((d.1,(d.2.1,(d.2.2.1,(d.2.2.2.1,())))),(e,h))))))
  (oC e <|
 oC a <|
 V e <|
 V a <|
 Y (zG ((qj (b+1)),i))))
  (oC e <|
 oC a <|
 V e <|
 V a <|
 Y (zF i))
def ZJ by_1 x x1 s:=zJ (ZK by_1 x x1) s
def dQ(b:vR)(e:Rat):T vR :=
 M (pn b.2.2.1 e) λc =>
 .W (zu 0 0 0 0) <|
 oZ <|
 .W (0=0) <|
 M (ZJ e b.2.1 (b.2.1.length:Int) (0,((0,(false,([],([],())))),((b.1,(c.1,(c.2.1,(c.2.2.1,())))),([],[]))))) λ(f,a,g,d) =>
 V d <|
 Y (a.1,((zH 0 (zI (0+d.length) d)),((a.2.1,(a.2.2.1,(a.2.2.2.1,()))),())))
def VX(c:z7)(e:z7)(h:Int):(Int×Int×z7)->T ((Int×Int×z7)⊕z7)
 | (g,a,b) =>
 U (zA (a<h))
  (oI a e <|
 .W (((zA (a<(c.length:Int)))=true)->(xf a c.length)) <|
 M (y7 (nth e a (zb (.int .u32))) (bif (zA (a<(c.length:Int)))then(nth c a (zb (.int .u32)))else 0) g) λ(d,f) =>
 oI a b <|
 .W (uM b.length b.length (0+(zE a)) b.length) <|
 oM b.length (zL b (0+(zE a)) d).length <|
 Y (zG (f,((qj (a+1)),(zL b (0+(zE a)) d)))))
  (oC b <|
 V b <|
 Y (zF b))
def VW b2 x x1 s:=zJ (VX b2 x x1) s
def J5(c:z7)(d:z7):T (z7×Bool) :=
 M (tq c d) λe =>
 U (zA (e<0))
  (Y ([],false))
  (M (ue c) λa =>
 M (ue d) λf =>
 .W (dH (a.length:Int) (a.length:Int) 4) <|
 oM (zE (a.length:Int)) (zM (zE (a.length:Int)) (0:Int)).length <|
 M (VW f a (a.length:Int) (0,(0,(zM (zE (a.length:Int)) 0)))) λb =>
 V b <|
 M (ue (zH 0 (zI (0+b.length) b))) λg =>
 Y (g,true))
def pj(m:Rat)(n:Rat):T Rat :=
 M (vN m) λa =>
 M (vN n) λb =>
 M (iK a.2.1 b.2.2.1) λc =>
 M (iK b.2.1 a.2.2.1) λd =>
 M (iK a.2.2.1 b.2.2.1) λe =>
 U (a.1==b.1)
  (M (J2 c d) λf =>
 M (sa a.1 f e) λg =>
 Y g)
  (M (J5 c d) λ(h,i) =>
 U i
  (M (sa a.1 h e) λj =>
 Y j)
  (M (J5 d c) λ(k,o) =>
 M (sa b.1 k e) λl =>
 Y l))
def VA  : (wD×wD×(Int×Bool×z7×z7×Unit)×(Int×Bool×z7×z7×Unit)×wD×wD)->T ((wD×wD×(Int×Bool×z7×z7×Unit)×(Int×Bool×z7×z7×Unit)×wD×wD)⊕(((Int×Bool×z7×z7×Unit)×(Int×Bool×z7×z7×Unit)×wD×wD)))
 | (b,a,n,o,c,d)=>let g:=(b.length:Int); let m:=nth a 0 (zb qq); let l:=nth b 0 (zb qq); let p:=(n.1,(n.2.1,(n.2.2.1,(n.2.2.2.1,())))); let q:=(o.1,(o.2.1,(o.2.2.1,(o.2.2.2.1,()))));
 U (zA (0<(qj (g+(a.length:Int)))))
  (M (.W ((((a.length:Int)==0)=false)->(((zA (0<g))=true)->((xf 0 b.length)/\(xf 0 a.length)))) <|
 U (((a.length:Int)==0)||((zA (0<g))&&(zA (l.1<m.1))))
  (oI 0 b <|
 oI 0 b <|
 M (vN l.2.1) λr =>
 .W (jf 1 g b.length) <|
 oC c <|
 oC d <|
 V c <|
 V d <|
 Y ((uI (e:=qq) 1 g b),(a,(p,(q,(c,(d,(l.1,((r.1,(r.2.1,(r.2.2.1,()))),())))))))))
  (.W (((g==0)=false)->((xf 0 a.length)/\(xf 0 b.length))) <|
 U ((g==0)||(zA (m.1<l.1)))
  (oI 0 a <|
 oI 0 a <|
 M (vN m.2.1) λs =>
 .W (jf 1 (a.length:Int) a.length) <|
 oC c <|
 oC d <|
 V c <|
 V d <|
 Y (b,((uI (e:=qq) 1 (a.length:Int) a),(p,(q,(c,(d,(m.1,((s.1,(s.2.1,(s.2.2.1,()))),())))))))))
  (oI 0 b <|
 oI 0 b <|
 oI 0 a <|
 M (pj l.2.1 m.2.1) λt =>
 .W (jf 1 g b.length) <|
 .W (jf 1 (a.length:Int) a.length) <|
 oC c <|
 oC d <|
 V c <|
 V d <|
 Y ((uI (e:=qq) 1 g b),((uI (e:=qq) 1 (a.length:Int) a),(p,(q,(c,(d,(l.1,((t.1,(t.2.1,(t.2.2.1,()))),())))))))))):T ((wD×wD×(Int×Bool×z7×z7×Unit)×(Int×Bool×z7×z7×Unit)×wD×wD×Term))) λ(u,v,h,i,j,f,k) =>
 M (iW (k.2.1.1,(k.2.1.2.1,(k.2.1.2.2.1,())))) λw =>
 U (!w)
  (oA f 64 <|
 oC j <|
 .W (zu (f.length+1) 0 (f.length+1) (f++[k]).length) <|
 V j <|
 .W ((f.length+1)=(f++[k]).length) <|
 Y (zG (u,(v,((h.1,(h.2.1,(h.2.2.1,(h.2.2.2.1,())))),((i.1,(i.2.1,(i.2.2.1,(i.2.2.2.1,())))),(j,(f++[k]))))))))
  (oC j <|
 oC f <|
 V j <|
 V f <|
 Y (zG (u,(v,((h.1,(h.2.1,(h.2.2.1,(h.2.2.2.1,())))),((i.1,(i.2.1,(i.2.2.1,(i.2.2.2.1,())))),(j,f))))))))
  (oC c <|
 oC d <|
 V c <|
 V d <|
 Y (zF (p,(q,(c,d)))))
def Vz(s:(wD×wD×(Int×Bool×z7×z7×Unit)×(Int×Bool×z7×z7×Unit)×wD×wD)):T (((Int×Bool×z7×z7×Unit)×(Int×Bool×z7×z7×Unit)×wD×wD)):=zJ (VA ) s
def Wo(d:vR)(e:vR):T vR :=
 M (pj d.2.2.1 e.2.2.1) λb =>
 .W (zu 0 0 0 0) <|
 oZ <|
 .W (0=0) <|
 M (Vz  (d.2.1,(e.2.1,((0,(false,([],([],())))),((d.1,(b.1,(b.2.1,(b.2.2.1,())))),([],[])))))) λ(f,a,g,c) =>
 V c <|
 Y (a.1,((zH 0 (zI (0+c.length) c)),((a.2.1,(a.2.2.1,(a.2.2.2.1,()))),())))
def tA(d:Rat)(e:Rat):T (Rat×Bool) :=
 M (vN e) λa =>
 U ((a.2.1.length:Int)==0)
  (M (gm 0) λb =>
 Y (b,false))
  (M (pn d (a.1,(a.2.2.1,(a.2.1,())))) λc =>
 Y (c,true))
def ZL(c:Int)(a:vR)(b:vR):T (vR×Int) :=
 U (c==3)
  (M (Wo a b) λd =>
 Y (d,0))
  (U (c==4)
  (M (gm (-1)) λe =>
 M (dQ b e) λf =>
 M (Wo a f) λg =>
 Y (g,0))
  (U (c==5)
  (U ((zA (0<(a.2.1.length:Int)))&&(zA (0<(b.2.1.length:Int))))
  (Y (((0:Int),(([]:List Term),((false,(([]:List Int),(([]:List Int),()))),()))),6))
  (U (zA (0<(a.2.1.length:Int)))
  (M (dQ a b.2.2.1) λh =>
 Y (h,0))
  (M (dQ b a.2.2.1) λi =>
 Y (i,0))))
  (M (gm 1) λj =>
 M (tA j b.2.2.1) λ(k,l) =>
 U (zA (0<(b.2.1.length:Int)))
  (Y (((0:Int),(([]:List Term),((false,(([]:List Int),(([]:List Int),()))),()))),6))
  (U (!l)
  (Y (((0:Int),(([]:List Term),((false,(([]:List Int),(([]:List Int),()))),()))),7))
  (M (dQ a k) λm =>
 Y (m,0))))))
def dR(g:AM.Expr->wu->T (vR×Int))(a:AM.Expr)(c:wu):T (vR×Int) :=
 U ((Expr.kind a)==1)
  (M (vN (Expr.num a)) λb =>
 Y (((0:Int),(([]:List Term),((b.1,(b.2.1,(b.2.2.1,()))),()))),0))
  (U ((Expr.kind a)==2)
  (M (Wq (Expr.name a) c) λ(h,i) =>
 Y (h,i))
  (oI 0 (Expr.kids a) <|
 M (g (nth (Expr.kids a) 0 (zb .expr)) c) λ(d,e) =>
 U (e != 0)
  (Y (((0:Int),(([]:List Term),((false,(([]:List Int),(([]:List Int),()))),()))),e))
  (U ((Expr.kind a)==7)
  (M (gm (-1)) λj =>
 M (dQ d j) λk =>
 Y (k,0))
  (oI 1 (Expr.kids a) <|
 M (g (nth (Expr.kids a) 1 (zb .expr)) c) λ(l,f) =>
 U (f != 0)
  (Y (((0:Int),(([]:List Term),((false,(([]:List Int),(([]:List Int),()))),()))),f))
  (M (ZL (Expr.kind a) d l) λ(m,n) =>
 Y (m,n))))))
def Yk(e:AM.Expr)(v:wu):T (vR×Int):=T.fix (λF x=>dR (λy0 y1=>F (y0,y1)) x.1 x.2) (e,v)
def YO(a:AM.Expr)(e:wu):T (vR×Int) :=
 M (iE a) λb =>
 U (!b)
  (Y (((0:Int),(([]:List Term),((false,(([]:List Int),(([]:List Int),()))),()))),5))
  (M (Yk a e) λ(c,d) =>
 Y (c,d))
def Q0(b:eC)(g:wu):T (vR×Int) :=
 M (YO b.2.2.2.1 g) λ(c,d) =>
 U (d != 0)
  (Y (c,d))
  (M (YO b.2.2.2.2.1 g) λ(e,f) =>
 U (f != 0)
  (Y (e,f))
  (M (gm (-1)) λh =>
 M (dQ e h) λi =>
 M (Wo c i) λa =>
 Y ((b.2.1,(a.2.1,((a.2.2.1.1,(a.2.2.1.2.1,(a.2.2.1.2.2.1,()))),()))),0)))
def hH(b:Term):T Bool :=
 M (cK b.2.1) λa =>
 Y a
def yq(b:wD)(d:Term->T Bool)(e:Int):Int->T (Int⊕(Unit⊕Int))
 | a =>
 U (zA (a<e))
  (oI a b <|
 M (d (nth b a (zb qq))) λc =>
 U c
  (Y (zF (zF a)))
  (Y (zG (qj (a+1)))))
  (Y (zF (zG ())))
def pE s1 f x s:=zJ (yq s1 f x) s
def kz(a:wD)(c:Term->T Bool):T Int :=
 M (pE a c (a.length:Int) 0) <|
 zK (λ_ =>
 Y (-1))
  (λb =>
 Y b)
def ug(b:wD)(c:Term->T Bool):T Bool :=
 M (kz b c) λa =>
 Y (zA (0<=a))
def ZZ(a:vR):T Bool :=
 M (cK a.2.2.1) λb =>
 U b
  (Y true)
  (M (ug a.2.1 (λc=>hH c)) λd =>
 Y d)
def iw(i:zo)(j:Form)(e:xb)(k:Int):(Int×Unit×Unit×wu×qc×z7)->T ((Int×Unit×Unit×wu×qc×z7)⊕((Unit×Unit×wu×qc×z7)⊕(q9×Int×Unit×Unit×wu×qc×z7)))
 | (c,l,m,d,a,b) =>
 U (zA (c<k))
  (oI c e <|
 M (Wx j i (nth e c (zb xp)).2.2.1) λh =>
 U (!h)
  (oC a <|
 oC b <|
 V a <|
 V b <|
 Y (zG ((qj (c+1)),((),((),(d,(a,b)))))))
  (M (Q0 (nth e c (zb xp)) d) λ(f,g) =>
 U (g != 0)
  (oC a <|
 oC b <|
 V a <|
 V b <|
 Y (zF (zF ((nth e c (zb xp)).1,(g,((),((),(d,(a,b)))))))))
  (oA a 88 <|
 oA b 8 <|
 .W (zu (a.length+1) 0 (a.length+1) (a++[f]).length) <|
 .W (zu (b.length+1) 0 (b.length+1) (b++[c]).length) <|
 .W ((a.length+1)=(a++[f]).length) <|
 .W ((b.length+1)=(b++[c]).length) <|
 Y (zG ((qj (c+1)),((),((),(d,((a++[f]),(b++[c]))))))))))
  (oC a <|
 oC b <|
 V a <|
 V b <|
 Y (zF (zG ((),((),(d,(a,b)))))))
def ry on1 f1 x1 x2 s:=zJ (iw on1 f1 x1 x2) s
def iA(f:Form)(h:Int):(Int×Unit×Unit×wu×qc×z7)->T ((Int×Unit×Unit×wu×qc×z7)⊕((Unit×Unit×wu×qc×z7)⊕(q9×Int×Unit×Unit×wu×qc×z7)))
 | (c,i,j,e,a,b)=>let d:=0+(zE c);
 U (zA (c<h))
  (oI c a <|
 .W (uM a.length a.length d a.length) <|
 M (ZZ (wm a d (zb zw))) λg =>
 U g
  (oI c b <|
 .W (uM b.length b.length d b.length) <|
 oI (wm b d (zb (.int .i64))) f.2.2.2.2.1 <|
 oC a <|
 oC b <|
 V a <|
 V b <|
 Y (zF (zF ((nth f.2.2.2.2.1 (wm b d (zb (.int .i64))) (zb xp)).1,(8,((),((),(e,(a,b)))))))))
  (oC a <|
 oC a <|
 oC b <|
 V a <|
 V b <|
 Y (zG ((qj (c+1)),((),((),(e,(a,b))))))))
  (oC a <|
 oC b <|
 V a <|
 V b <|
 Y (zF (zG ((),((),(e,(a,b)))))))
def rA f2 x6 s:=zJ (iA f2 x6) s
def nn(a:Form)(f:zp)(h:zo):T (Unit×q9×Int×qc×z7) :=
 M (fU a) λ(g,i) =>
 U (g != 0)
  (.W (zu 0 0 0 0) <|
 oZ <|
 .W (0=0) <|
 Y ((),(i,(g,([],[])))))
  (M (U ((f.length:Int) != (a.2.1.length:Int))
  (Y (true,()))
  (U ((h.length:Int) != (a.1.length:Int))
  (Y (true,()))
  (M (vD f (λj=>c8 j)) λk =>
 Y (k,()))):T ((Bool×Unit))) λ(l,s) =>
 U l
  (.W (zu 0 0 0 0) <|
 oZ <|
 .W (0=0) <|
 Y ((),([],(1,([],[])))))
  (M (rB a f) λm =>
 .W (zu 0 0 0 0) <|
 oZ <|
 .W (0=0) <|
 M (ry h a a.2.2.2.2.1 (a.2.2.2.2.1.length:Int) (0,((),((),(m,([],[])))))) <|
 zK (λ(t,u,n,b,c) =>
 oC b <|
 oC b <|
 oC c <|
 V b <|
 V c <|
 M (rA a (b.length:Int) (0,((),((),(n,(b,c)))))) <|
 zK (λ(v,w,x,d,e) =>
 oC d <|
 oC e <|
 V d <|
 V e <|
 Y ((),([],(0,(d,e)))))
  (λ(o,p,y,z,A,B,C) =>
 .W (zu 0 0 0 0) <|
 oZ <|
 .W (0=0) <|
 Y ((),(o,(p,([],[]))))))
  (λ(q,r,D,κ',G,H,hb) =>
 .W (zu 0 0 0 0) <|
 oZ <|
 .W (0=0) <|
 Y ((),(q,(r,([],[])))))))
def U5(c:Bool)(a:Rat):T Rat :=
 M (U c
  (Y (((zA (0<(a.2.1.length:Int))),(a.2.1,(a.2.2.1,()))),(false,(([]:List Int),(([]:List Int),())))))
  (Y ((false,(a.2.1,(a.2.2.1,()))),(false,(([]:List Int),(([]:List Int),()))))):T ((Rat×Rat))) λ(b,d) =>
 Y b
def Qt(c:Rat):T Rat :=
 M (vN c) λa =>
 M (U5 (!a.1) a) λb =>
 Y b
def Dc(c:Int)(d:Rat):T vR :=
 M (gm 1) λa =>
 M (Qt d) λb =>
 Y ((1:Int),(([(c,((a.1,(a.2.1,(a.2.2.1,()))),()))]:List Term),((b.1,(b.2.1,(b.2.2.1,()))),())))
def kT(h:Int)(i:Rat)(f:Int)(a:(qf×qm×xg×qu×xb×qv×Unit))(b:qc)(c:z7)(d:z7):T ((qf×qm×xg×qu×xb×qv×Unit)×qc×z7×z7) :=
 let g:=d++([(qj ((a.2.2.2.2.1.length:Int)+h))]:List Int);  M (Dc h i) λe =>
 oA b 88 <|
 oA c 8 <|
 oA d 8 <|
 .W (zu (b.length+1) 0 (b.length+1) (b++[e]).length) <|
 .W (zu (c.length+1) 0 (c.length+1) (c++[f]).length) <|
 .W (zu (d.length+1) 0 (d.length+1) g.length) <|
 .W ((b.length+1)=(b++[e]).length) <|
 .W ((c.length+1)=(c++[f]).length) <|
 .W ((d.length+1)=g.length) <|
 Y ((a.1,(a.2.1,(a.2.2.1,(a.2.2.2.1,(a.2.2.2.2.1,(a.2.2.2.2.2.1,())))))),((b++[e]),((c++[f]),g)))
def rm(g:zt)(i:Int):(Int×qc×z7×Unit×(qf×qm×xg×qu×xb×qv×Unit)×z7)->T ((Int×qc×z7×Unit×(qf×qm×xg×qu×xb×qv×Unit)×z7)⊕((qc×z7×Unit×(qf×qm×xg×qu×xb×qv×Unit)×z7)))
 | (c,d,a,j,e,b)=>let h:=(e.1,(e.2.1,(e.2.2.1,(e.2.2.2.1,(e.2.2.2.2.1,(e.2.2.2.2.2.1,())))))); let f:=b++([(nth g.2.2.2.1 (wm a (0+(zE c)) (zb (.int .i64))) (zb (.int .i64)))]:List Int);
 U (zA (c<i))
  (oI c a <|
 .W (uM a.length a.length (0+(zE c)) a.length) <|
 oI (wm a (0+(zE c)) (zb (.int .i64))) g.2.2.2.1 <|
 oA b 8 <|
 oC a <|
 V d <|
 V a <|
 oC d <|
 .W (zu (b.length+1) 0 (b.length+1) f.length) <|
 oC a <|
 .W ((b.length+1)=f.length) <|
 Y (zG ((qj (c+1)),(d,(a,((),(h,f)))))))
  (V d <|
 V a <|
 oC d <|
 oC b <|
 oC a <|
 V b <|
 Y (zF (d,(a,((),(h,b))))))
def Xn d1 x s:=zJ (rm d1 x) s
def rq(l:zn)(m:Int):(Int×qc×z7×Unit×(qf×qm×xg×qu×xb×qv×Unit)×z7)->T ((Int×qc×z7×Unit×(qf×qm×xg×qu×xb×qv×Unit)×z7)⊕((qc×z7×Unit×(qf×qm×xg×qu×xb×qv×Unit)×z7)))
 | (d,a,b,n,f,c)=>let g:=nth l d (zb zk); let k:=(f.1,(f.2.1,(f.2.2.1,(f.2.2.2.1,(f.2.2.2.2.1,(f.2.2.2.2.2.1,()))))));
 U (zA (d<m))
  (oI d l <|
 U (!g.1)
  (V a <|
 V b <|
 oC a <|
 oC c <|
 oC b <|
 V c <|
 Y (zG ((qj (d+1)),(a,(b,((),(k,c)))))))
  (oC a <|
 oC c <|
 oC b <|
 V a <|
 V c <|
 V b <|
 M (kT d (g.2.2.1.1,(g.2.2.1.2.1,(g.2.2.1.2.2.1,()))) (bif g.2.1 then d else(-1)) k a c b) λ(e,h,i,j) =>
 V h <|
 V j <|
 oC h <|
 oC i <|
 oC j <|
 V i <|
 Y (zG ((qj (d+1)),(h,(j,((),((e.1,(e.2.1,(e.2.2.1,(e.2.2.2.1,(e.2.2.2.2.1,(e.2.2.2.2.2.1,())))))),i))))))))
  (V a <|
 V b <|
 oC a <|
 oC c <|
 oC b <|
 V c <|
 Y (zF (a,(b,((),(k,c))))))
def Xo x2 x3 s:=zJ (rq x2 x3) s
def dt(a:Form)(d:zt):T ((Int×(qf×qm×xg×qu×xb×qv×Unit)×qc×z7×z7)⊕(zr×Int)) :=
 M (Xp a d) λo =>
 U (!o)
  (Y (zF ([],1)))
  (M (nn a d.1 d.2.1) λ(p,n,f,g,e) =>
 U ((f != 0)&&(!(wP n [])))
  (Y (zF ([n],f)))
  (U (f != 0)
  (Y (zF ([],f)))
  (oC e <|
 V g <|
 V e <|
 oC g <|
 .W (zu 0 0 0 0) <|
 oC e <|
 .W (0=0) <|
 M (Xn d (e.length:Int) (0,(g,(e,((),((a.1,(a.2.1,(a.2.2.1,(a.2.2.2.1,(a.2.2.2.2.1,(a.2.2.2.2.2.1,())))))),[])))))) λ(h,i,q,b,j) =>
 V h <|
 V i <|
 oC h <|
 oC j <|
 oC i <|
 V j <|
 M (Xo d.2.2.2.2.1 (d.2.2.2.2.1.length:Int) (0,(h,(i,((),((b.1,(b.2.1,(b.2.2.1,(b.2.2.2.1,(b.2.2.2.2.1,(b.2.2.2.2.2.1,())))))),j)))))) λ(k,l,r,c,m) =>
 oC k <|
 oC m <|
 oC l <|
 V k <|
 V m <|
 V l <|
 Y (zG (0,((c.1,(c.2.1,(c.2.2.1,(c.2.2.2.1,(c.2.2.2.2.1,(c.2.2.2.2.2.1,())))))),(k,(m,l))))))))
def pF(h:Int)(c:wD)(i:Int):(Int×Int)->T ((Int×Int)⊕(Unit⊕Bool))
 | (g,b)=>let a:=nth c b (zb qq);
 U (zA (b<i))
  (oI b c <|
 M (U (zA (a.1<g))
  (Y (true,a))
  (U (zA (h<=a.1))
  (Y (true,a))
  (M (tU (a.2.1.1,(a.2.1.2.1,(a.2.1.2.2.1,())))) λd =>
 U (!d)
  (Y (true,a))
  (Y (((a.2.1.2.1.length:Int)==0),a)))):T ((Bool×Term))) λ(e,f) =>
 U e
  (Y (zF (zF false)))
  (Y (zG ((qj (f.1+1)),(qj (b+1))))))
  (Y (zF (zG ())))
def Z6 n1 x1 x2 s:=zJ (pF n1 x1 x2) s
def dn(a:vR)(e:Int):T Bool :=
 M (U (zA (a.1<(0:Int)))
  (Y true)
  (U (zA ((4:Int)<a.1))
  (Y true)
  (M (tU a.2.2.1) λb =>
 Y (!b))):T Bool) λc =>
 U c
  (Y false)
  (M (Z6 e a.2.1 (a.2.1.length:Int) (0,0)) <|
 zK (λ_ =>
 Y true)
  (λd =>
 Y d))
def yZ(b:vR)(c:Int):T Bool :=
 M (dn b c) λa =>
 Y (!a)
def dM(b:qc)(d:vR->T Bool)(e:Int):Int->T (Int⊕(Unit⊕Int))
 | a =>
 U (zA (a<e))
  (oI a b <|
 M (d (nth b a (zb zw))) λc =>
 U c
  (Y (zF (zF a)))
  (Y (zG (qj (a+1)))))
  (Y (zF (zG ())))
def sF s1 f x s:=zJ (dM s1 f x) s
def bK(a:qc)(c:vR->T Bool):T Int :=
 M (sF a c (a.length:Int) 0) <|
 zK (λ_ =>
 Y (-1))
  (λb =>
 Y b)
def yX(b:qc)(c:vR->T Bool):T Bool :=
 M (bK b c) λa =>
 Y (zA (0<=a))
def cP  : ((Nat×Nat)×Int×z7)->T (((Nat×Nat)×Int×z7)⊕((Int×z7)))
 | (b,c,a)=>let d:=b.1+(zE c); let e:=wm a d (zb (.int .i64)); let f:=zL a d (wm a (b.1+(zE e)) (zb (.int .i64)));
 .W (xf c b.2) <|
 .W (uM a.length a.length d a.length) <|
 U (e != c)
  (.W (xf c b.2) <|
 .W (uM a.length a.length d a.length) <|
 .W (xf e b.2) <|
 .W (uM a.length a.length (b.1+(zE e)) a.length) <|
 .W (xf c b.2) <|
 .W (uM a.length a.length d a.length) <|
 .W (xf c b.2) <|
 .W (uM a.length a.length d f.length) <|
 V a <|
 .W (a.length=f.length) <|
 Y (zG (b,((wm f d (zb (.int .i64))),f))))
  (V a <|
 Y (zF (c,a)))
def lH(s:((Nat×Nat)×Int×z7)):T ((Int×z7)):=zJ (cP ) s
def yQ(d:(Nat×Nat))(e:Int)(a:z7):T (Int×z7) :=
 V a <|
 V a <|
 M (lH  (d,(e,a))) λ(c,b) =>
 V b <|
 Y (c,b)
def bp(c:(Nat×Nat))(g:Int)(h:Int)(e:z7):T (Bool×z7) :=
 V e <|
 V e <|
 M (yQ c g e) λ(a,f) =>
 .W (e.length=f.length) <|
 V f <|
 M (yQ c h f) λ(b,d) =>
 .W (xf (dZ a b) c.2) <|
 .W (uM e.length d.length (c.1+(zE (dZ a b))) d.length) <|
 .W (d.length=(zL d (c.1+(zE (dZ a b))) (rV a b)).length) <|
 Y ((a != b),(zL d (c.1+(zE (dZ a b))) (rV a b)))
def od(d:qc)(e:Int)(c:Int):(Int×z7)->T ((Int×z7)⊕z7)
 | (b,a) =>
 U (zA (b<c))
  (oI b a <|
 .W (uM a.length a.length (0+(zE b)) a.length) <|
 oM a.length (zL a (0+(zE b)) b).length <|
 Y (zG ((qj (b+1)),(zL a (0+(zE b)) b))))
  (oC a <|
 V a <|
 Y (zF a))
def oa l1 n1 x s:=zJ (od l1 n1 x) s
def eR(k:Int)(j:Int)(l:qc)(m:Int)(n:Int):(Int×Int×z7×vR)->T ((Int×Int×z7×vR)⊕((Int×z7×vR)))
 | (f,e,a,b) =>
 U (zA (e<(b.2.1.length:Int)))
  (M (oI 0 b.2.1 <|
 oI e b.2.1 <|
 V a <|
 V a <|
 M (bp (0,a.length) (nth b.2.1 0 (zb qq)).1 (nth b.2.1 e (zb qq)).1 a) λ(h,c) =>
 U (!h)
  (.W (zu a.length 0 a.length c.length) <|
 V c <|
 Y ((zA (f<0)),(c,b)))
  (.W (zu a.length 0 a.length c.length) <|
 V c <|
 Y (false,(c,b))):T ((Bool×z7×vR))) λ(i,d,g) =>
 U i
  (oC d <|
 V d <|
 Y (zG (j,((qj (e+1)),(d,g)))))
  (oC d <|
 V d <|
 Y (zG (f,((qj (e+1)),(d,g))))))
  (oC a <|
 V a <|
 Y (zF (f,(a,b))))
def ob n3 i x5 x6 x7 s:=zJ (eR n3 i x5 x6 x7) s
def oe(f:Int)(c:qc)(g:Int):(Int×Int×z7)->T ((Int×Int×z7)⊕((Int×z7)))
 | (e,b,a) =>
 U (zA (b<g))
  (oI b c <|
 M (dn (nth c b (zb zw)) f) λh =>
 U (!h)
  (oC a <|
 V a <|
 Y (zG (e,((qj (b+1)),a))))
  (oC a <|
 V a <|
 M (ob f b c g b (e,(1,(a,(nth c b (zb zw)))))) λ(i,d,j) =>
 oC d <|
 V d <|
 Y (zG (i,((qj (b+1)),d)))))
  (oC a <|
 V a <|
 Y (zF (e,a)))
def QU n2 x2 x3 s:=zJ (oe n2 x2 x3) s
def Q8(d:qc)(f:Int):T (z7×Int) :=
 let a:=rV (dZ f 0) 64;  .W (dH a a 8) <|
 oM (zE a) (zM (zE a) (0:Int)).length <|
 M (oa d a (zN (zE a):Int) (0,(zM (zE a) 0))) λb =>
 oC b <|
 V b <|
 M (QU a d (d.length:Int) ((-1),(0,b))) λ(e,c) =>
 V c <|
 Y ((zH 0 (zI (0+c.length) c)),e)
def nw(b:qc)(c:Int):T Int :=
 M (Q8 b c) λ(d,a) =>
 Y a
def ub(a:z7):T z7 :=
 .W (a=[]->∀ r,T.leads (.W (vV 0 0 0 0 0 a.length 8) <|
 .W (zu (0+a.length) 0 (0+a.length) a.length) <|
 .W ((0+a.length)=a.length) <|
 Y a:T _) r->T.leads (.W (zu 0 0 0 0) <|
 .W (0=0) <|
 Y []:T _) r) <|
 .W (vV 0 0 0 0 0 a.length 8) <|
 oM (0+a.length) a.length <|
 Y a
def oi(a:Int)(b:Int):T (Int×Int) :=
 let c:=xr ((xr ((j8 .u64 a 32)*(YR .u64 b 4294967295)))+(j8 .u64 (xr ((YR .u64 a 4294967295)*(YR .u64 b 4294967295))) 32));  .W (0<=(32:Int)) <|
 .W (0<=(32:Int)) <|
 .W (0<=(32:Int)) <|
 .W (0<=(32:Int)) <|
 .W (0<=(32:Int)) <|
 Y ((xr ((xr ((xr ((j8 .u64 a 32)*(j8 .u64 b 32)))+(j8 .u64 c 32)))+(j8 .u64 (xr ((YR .u64 c 4294967295)+(xr ((YR .u64 a 4294967295)*(j8 .u64 b 32))))) 32))),(xr (a*b)))
def mS(c:Int)(d:Int):T (Int×Int) :=
 M (oi c d) λ(a,b) =>
 Y (a,b)
def gC  : (Int×z7)->T ((Int×z7)⊕z7)
 | (b,a)=>let c:=(zE (a.length:Int))-(zE b); let d:=zH (0+(zE 0)) (zI ((0+(zE 0))+((zE b)-(zE 0))) a);
 U (zA (b<(a.length:Int)))
  (.W (jf b (a.length:Int) a.length) <|
 .W (jf 0 b a.length) <|
 V a <|
 .W (Xj a.length a.length (0+(zE b)) c a.length) <|
 oM a.length (yx (0+(zE b)) c a d).length <|
 Y (zG ((qj (b+(zN (DJ c d.length):Int))),(yx (0+(zE b)) c a d))))
  (oC a <|
 V a <|
 Y (zF a))
def eB(s:(Int×z7)):T z7:=zJ (gC ) s
def yv(c:z7)(e:Int):T z7 :=
 U (zA (e<0))
  (.fail)
  (M (mS (xr (c.length:Int)) (xr e)) λ(f,b)=>let a:=zE (qj b);
 U ((zA (0<f))||(zA (9223372036854775807<b)))
  (.fail)
  (.W (dH (qj b) (qj b) 8) <|
 .W (Xj a a 0 a (zM a (0:Int)).length) <|
 oM a (yx 0 a (zM a 0) c).length <|
 M (eB  ((zN (DJ a c.length):Int),(yx 0 a (zM a 0) c))) λd =>
 oC d <|
 V d <|
 Y d))
def bY(a:Term)(b:Int):T Bool :=
 Y (a.1==b)
def Wt(c:vR)(d:Int):T Bool :=
 M (ug c.2.1 (λa=>bY a d)) λb =>
 Y b
def p7(b:qc)(c:Int):T Bool :=
 M (nw b c) λa =>
 Y (zA (a<0))
def fX(r:qc)(k:z7)(o:Int)(h:qc)(p:Int):(Int×z7×z7×(qc×Unit))->T ((Int×z7×z7×(qc×Unit))⊕((z7×z7×(qc×Unit))⊕(Bool×z7×z7×(qc×Unit))))
 | (d,b,a,g)=>let i:=nth k d (zb (.int .i64)); let f:=0+(zE i);
 U (zA (d<p))
  (oI d h <|
 M (dn (nth h d (zb zw)) o) λl =>
 U (!l)
  (V b <|
 V a <|
 oC b <|
 oC a <|
 Y (zF (zF (false,(b,(a,(g.1,())))))))
  (oI d k <|
 U (i==(-1))
  (V b <|
 V a <|
 oC b <|
 oC a <|
 Y (zG ((qj (d+1)),(b,(a,(g.1,()))))))
  (M (M (Wt (nth h d (zb zw)) i) λm =>
 U (!m)
  (V b <|
 V a <|
 oC b <|
 oC a <|
 Y (true,(b,(a,((g.1,()),(nth h d (zb zw)))))))
  (oI i a <|
 .W (uM a.length a.length f a.length) <|
 V b <|
 V a <|
 oC b <|
 oC a <|
 Y (((wm a f (zb (.int .i64))) != (-1)),(b,(a,((g.1,()),(nth h d (zb zw))))))):T ((Bool×z7×z7×(qc×Unit)×vR))) λ(n,e,c,j,q) =>
 U n
  (V e <|
 V c <|
 oC e <|
 oC c <|
 Y (zF (zF (false,(e,(c,(j.1,())))))))
  (oI i c <|
 .W (uM c.length c.length f c.length) <|
 V e <|
 .W (c.length=(zL c f d).length) <|
 oC e <|
 .W (zu c.length 0 c.length (zL c f d).length) <|
 Y (zG ((qj (d+1)),(e,((zL c f d),(j.1,())))))))))
  (V b <|
 V a <|
 oC b <|
 oC a <|
 Y (zF (zG (b,(a,(g.1,()))))))
def sZ l1 outs1 n1 x x1 s:=zJ (fX l1 outs1 n1 x x1) s
def bz(a:qc)(g:z7)(b:Int):T ((Bool×(qc×Unit)×z7×z7)⊕Bool) :=
 U ((zA (b<1))||((zA (64<b))||((zA (256<(a.length:Int)))||((g.length:Int) != (a.length:Int)))))
  (Y (zF false))
  (M (ub g) λc =>
 M (yv ([(-1)]:List Int) b) λd =>
 V c <|
 V d <|
 oC c <|
 oC d <|
 M (sZ a g b a (a.length:Int) (0,(c,(d,(a,()))))) <|
 zK (λ(e,f,h) =>
 M (p7 a b) λi =>
 oC e <|
 oC f <|
 V e <|
 V f <|
 Y (zG (i,((h.1,()),(e,f)))))
  (λ(j,k,l,m) =>
 Y (zF j)))
def yd(a:z7):T z7 :=
 let b:=0+a.length;  .W (a=[]->∀ r,T.leads (.W (vV 0 0 0 0 0 a.length 8) <|
 .W (b=b) <|
 Y (zH 0 (zI (0+b) a)):T _) r->T.leads (Y []:T _) r) <|
 .W (vV 0 0 0 0 0 a.length 8) <|
 .W (b=b) <|
 Y (zH 0 (zI (0+b) a))
def cmp_isNaN_int(a:Int):T Bool :=
 Y (a != a)
def cmp_Compare_int(a:Int)(b:Int):T Int :=
 M (cmp_isNaN_int a) λd =>
 M (cmp_isNaN_int b) λc =>
 U d
  (U c
  (Y 0)
  (Y (-1)))
  (U c
  (Y 1)
  (U (zA (a<b))
  (Y (-1))
  (U (zA (b<a))
  (Y 1)
  (Y 0))))
def wz(b:Int)(c:Int)(a:qc):T Int :=
 oI b a <|
 oI c a <|
 M (cmp_Compare_int (nth a b (zb zw)).1 (nth a c (zb zw)).1) λd =>
 Y d
def uS(l:Int)(n:Int)(m:Int->Int->T Int)(o:Int):((Nat×Nat)×Int×z7)->T (((Nat×Nat)×Int×z7)⊕(((Nat×Nat)×z7)))
 | (d,e,b)=>let f:=qj (e-1);
 M (U (zA (l<e))
  (.W (xf e d.2) <|
 .W (uM b.length b.length (d.1+(zE e)) b.length) <|
 .W (xf f d.2) <|
 .W (uM b.length b.length (d.1+(zE f)) b.length) <|
 M (m (wm b (d.1+(zE e)) (zb (.int .i64))) (wm b (d.1+(zE f)) (zb (.int .i64)))) λj =>
 V b <|
 V b <|
 Y (d,((zA (j<0)),b)))
  (V b <|
 V b <|
 Y (d,(false,b))):T (((Nat×Nat)×Bool×z7))) λ(c,k,a)=>let g:=c.1+(zE e); let h:=c.1+(zE f); let i:=zL a g (wm a h (zb (.int .i64)));
 U k
  (.W (xf f c.2) <|
 .W (uM a.length a.length h a.length) <|
 .W (xf e c.2) <|
 .W (uM a.length a.length g a.length) <|
 .W (xf e c.2) <|
 .W (uM a.length a.length g a.length) <|
 .W (xf f c.2) <|
 .W (uM a.length a.length h i.length) <|
 V a <|
 .W (a.length=(zL i h (wm a g (zb (.int .i64)))).length) <|
 Y (zG (c,(f,(zL i h (wm a g (zb (.int .i64))))))))
  (V a <|
 V a <|
 Y (zF (c,a)))
def uQ a2 b2 cmp i1 s:=zJ (uS a2 b2 cmp i1) s
def uR(g:Int)(d:Int)(h:Int->Int->T Int):((Nat×Nat)×Int×z7)->T (((Nat×Nat)×Int×z7)⊕z7)
 | (f,b,a) =>
 U (zA (b<d))
  (V a <|
 V a <|
 M (uQ g d h b (f,(b,a))) λ(e,c) =>
 V c <|
 V c <|
 Y (zG (e,((qj (b+1)),c))))
  (V a <|
 Y (zF a))
def yf a1 b1 cmp s:=zJ (uR a1 b1 cmp) s
def vi(d:(Nat×Nat))(c:Int)(e:Int)(f:Int->Int->T Int)(a:z7):T z7 :=
 V a <|
 V a <|
 M (yf c e f (d,((qj (c+1)),a))) λb =>
 V b <|
 Y b
def jA(f:Int)(g:Int)(i:Int):((Nat×Nat)×Int×z7)->T (((Nat×Nat)×Int×z7)⊕z7)
 | (c,b,a)=>let d:=c.1+(zE (qj (g+b))); let e:=c.1+(zE (qj (f+b))); let h:=zL a e (wm a d (zb (.int .i64)));
 U (zA (b<i))
  (.W (xf (qj (g+b)) c.2) <|
 .W (uM a.length a.length d a.length) <|
 .W (xf (qj (f+b)) c.2) <|
 .W (uM a.length a.length e a.length) <|
 .W (xf (qj (f+b)) c.2) <|
 .W (uM a.length a.length e a.length) <|
 .W (xf (qj (g+b)) c.2) <|
 .W (uM a.length a.length d h.length) <|
 V a <|
 .W (a.length=(zL h d (wm a e (zb (.int .i64)))).length) <|
 Y (zG (c,((qj (b+1)),(zL h d (wm a e (zb (.int .i64))))))))
  (V a <|
 Y (zF a))
def gT a1 b1 n1 s:=zJ (jA a1 b1 n1) s
def vd(c:(Nat×Nat))(d:Int)(e:Int)(f:Int)(g:Int->Int->T Int)(a:z7):T z7 :=
 V a <|
 V a <|
 M (gT d e f (c,(0,a))) λb =>
 V b <|
 Y b
def kL(e:Int)(h:Int->Int->T Int):((Nat×Nat)×Int×Int×z7)->T (((Nat×Nat)×Int×Int×z7)⊕(((Nat×Nat)×Int×z7)))
 | (d,b,c,a) =>
 U (b != c)
  (U (zA (c<b))
  (V a <|
 V a <|
 M (vd d (qj (e-b)) e c h a) λf =>
 .W (a.length=f.length) <|
 V f <|
 Y (zG (d,((qj (b-c)),(c,f)))))
  (V a <|
 V a <|
 M (vd d (qj (e-b)) (qj ((qj (e+c))-b)) b h a) λg =>
 .W (a.length=g.length) <|
 V g <|
 Y (zG (d,(b,((qj (c-b)),g))))))
  (V a <|
 V a <|
 Y (zF (d,(b,a))))
def kK m1 cmp s:=zJ (kL m1 cmp) s
def jy(h:(Nat×Nat))(i:Int)(a:Int)(j:Int)(f:Int->Int->T Int)(c:z7):T z7 :=
 V c <|
 V c <|
 M (kK a f (h,((qj (a-i)),((qj (j-a)),c)))) λ(g,d,b) =>
 V b <|
 V b <|
 M (vd g (qj (a-d)) a d f b) λe =>
 V e <|
 Y e
def uu(i:(Nat×Nat)->Int->Int->Int->qc->z7->T z7)(f:Int)(h:qc):((Nat×Nat)×Int×Int×z7)->T (((Nat×Nat)×Int×Int×z7)⊕(((Nat×Nat)×Int×z7)))
 | (b,d,e,a)=>let c:=qj (j8 .u64 (xr (qj (d+e))) 1);
 U (zA (d<e))
  (.W (0<=(1:Int)) <|
 .W (xf c b.2) <|
 .W (uM a.length a.length (b.1+(zE c)) a.length) <|
 .W (xf f b.2) <|
 .W (uM a.length a.length (b.1+(zE f)) a.length) <|
 M (wz (wm a (b.1+(zE c)) (zb (.int .i64))) (wm a (b.1+(zE f)) (zb (.int .i64))) h) λg =>
 U (zA (g<0))
  (V a <|
 V a <|
 Y (zG (b,((qj (c+1)),(e,a)))))
  (V a <|
 V a <|
 Y (zG (b,(d,(c,a))))))
  (V a <|
 V a <|
 Y (zF (b,(d,a))))
def uk self_slices_symMergeCmpFunc_int a1 cmp1 s:=zJ (uu self_slices_symMergeCmpFunc_int a1 cmp1) s
def uv(h:(Nat×Nat)->Int->Int->Int->qc->z7->T z7)(g:Int):((Nat×Nat)×Int×z7)->T (((Nat×Nat)×Int×z7)⊕z7)
 | (c,b,a)=>let d:=c.1+(zE b); let e:=c.1+(zE (qj (b+1))); let f:=zL a d (wm a e (zb (.int .i64)));
 U (zA (b<(qj (g-1))))
  (.W (xf (qj (b+1)) c.2) <|
 .W (uM a.length a.length e a.length) <|
 .W (xf b c.2) <|
 .W (uM a.length a.length d a.length) <|
 .W (xf b c.2) <|
 .W (uM a.length a.length d a.length) <|
 .W (xf (qj (b+1)) c.2) <|
 .W (uM a.length a.length e f.length) <|
 V a <|
 .W (a.length=(zL f e (wm a d (zb (.int .i64)))).length) <|
 Y (zG (c,((qj (b+1)),(zL f e (wm a d (zb (.int .i64))))))))
  (V a <|
 Y (zF a))
def um self_slices_symMergeCmpFunc_int i2 s:=zJ (uv self_slices_symMergeCmpFunc_int i2) s
def uw(i:(Nat×Nat)->Int->Int->Int->qc->z7->T z7)(f:Int)(h:qc):((Nat×Nat)×Int×Int×z7)->T (((Nat×Nat)×Int×Int×z7)⊕(((Nat×Nat)×Int×z7)))
 | (b,d,e,a)=>let c:=qj (j8 .u64 (xr (qj (d+e))) 1);
 U (zA (d<e))
  (.W (0<=(1:Int)) <|
 .W (xf f b.2) <|
 .W (uM a.length a.length (b.1+(zE f)) a.length) <|
 .W (xf c b.2) <|
 .W (uM a.length a.length (b.1+(zE c)) a.length) <|
 M (wz (wm a (b.1+(zE f)) (zb (.int .i64))) (wm a (b.1+(zE c)) (zb (.int .i64))) h) λg =>
 U (!(zA (g<0)))
  (V a <|
 V a <|
 Y (zG (b,((qj (c+1)),(e,a)))))
  (V a <|
 V a <|
 Y (zG (b,(d,(c,a))))))
  (V a <|
 V a <|
 Y (zF (b,(d,a))))
def uo self_slices_symMergeCmpFunc_int m1 cmp2 s:=zJ (uw self_slices_symMergeCmpFunc_int m1 cmp2) s
def ux(h:(Nat×Nat)->Int->Int->Int->qc->z7->T z7)(g:Int):((Nat×Nat)×Int×z7)->T (((Nat×Nat)×Int×z7)⊕z7)
 | (c,b,a)=>let d:=c.1+(zE b); let e:=c.1+(zE (qj (b-1))); let f:=zL a d (wm a e (zb (.int .i64)));
 U (zA (g<b))
  (.W (xf (qj (b-1)) c.2) <|
 .W (uM a.length a.length e a.length) <|
 .W (xf b c.2) <|
 .W (uM a.length a.length d a.length) <|
 .W (xf b c.2) <|
 .W (uM a.length a.length d a.length) <|
 .W (xf (qj (b-1)) c.2) <|
 .W (uM a.length a.length e f.length) <|
 V a <|
 .W (a.length=(zL f e (wm a d (zb (.int .i64)))).length) <|
 Y (zG (c,((qj (b-1)),(zL f e (wm a d (zb (.int .i64))))))))
  (V a <|
 Y (zF a))
def uq self_slices_symMergeCmpFunc_int i5 s:=zJ (ux self_slices_symMergeCmpFunc_int i5) s
def uy(i:(Nat×Nat)->Int->Int->Int->qc->z7->T z7)(j:Int)(k:Int)(l:Int)(h:qc)(m:Int)(n:Int)(f:Int):((Nat×Nat)×Int×Int×z7)->T (((Nat×Nat)×Int×Int×z7)⊕(((Nat×Nat)×Int×z7)))
 | (b,d,e,a)=>let c:=qj (j8 .u64 (xr (qj (d+e))) 1);
 U (zA (d<e))
  (.W (0<=(1:Int)) <|
 .W (xf (qj (f-c)) b.2) <|
 .W (uM a.length a.length (b.1+(zE (qj (f-c)))) a.length) <|
 .W (xf c b.2) <|
 .W (uM a.length a.length (b.1+(zE c)) a.length) <|
 M (wz (wm a (b.1+(zE (qj (f-c)))) (zb (.int .i64))) (wm a (b.1+(zE c)) (zb (.int .i64))) h) λg =>
 U (!(zA (g<0)))
  (V a <|
 V a <|
 Y (zG (b,((qj (c+1)),(e,a)))))
  (V a <|
 V a <|
 Y (zG (b,(d,(c,a))))))
  (V a <|
 V a <|
 Y (zF (b,(d,a))))
def ur self_slices_symMergeCmpFunc_int a2 m2 b1 cmp3 mid n p s:=zJ (uy self_slices_symMergeCmpFunc_int a2 m2 b1 cmp3 mid n p) s
def vE(g:(Nat×Nat)->Int->Int->Int->qc->z7->T z7)(s:(Nat×Nat))(c:Int)(a:Int)(h:Int)(j:qc)(d:z7):T z7 :=
 let b:=qj (j8 .u64 (xr (qj (c+h))) 1);  U ((qj (a-c))==1)
  (V d <|
 V d <|
 M (uk g c j (s,(a,(h,d)))) λ(w,x,m) =>
 V m <|
 V m <|
 M (um g x (w,(c,m))) λt =>
 V t <|
 Y t)
  (U ((qj (h-a))==1)
  (V d <|
 V d <|
 M (uo g a j (s,(c,(a,d)))) λ(y,z,n) =>
 V n <|
 V n <|
 M (uq g z (y,(a,n))) λu =>
 V u <|
 Y u)
  (.W (0<=(1:Int)) <|
 V d <|
 V d <|
 M (ur g c a h j b (qj (b+a)) (qj ((qj (b+a))-1)) (s,((bif (zA (b<a))then(qj ((qj (b+a))-h))else c),((bif (zA (b<a))then b else a),d)))) λ(o,i,e)=>let l:=qj ((qj (b+a))-i);
 M (U ((zA (i<a))&&(zA (a<l)))
  (V e <|
 V e <|
 M (jy o i a l (λz0 z1=>wz z0 z1 j) e) λp =>
 .W (e.length=p.length) <|
 V p <|
 Y (o,p))
  (V e <|
 V e <|
 Y (o,e)):T (((Nat×Nat)×z7))) λ(q,f) =>
 M (U ((zA (c<i))&&(zA (i<b)))
  (V f <|
 V f <|
 M (g q c i b j f) λr =>
 .W (f.length=r.length) <|
 V r <|
 Y (q,r))
  (V f <|
 V f <|
 Y (q,f)):T (((Nat×Nat)×z7))) λ(A,k) =>
 U ((zA (b<l))&&(zA (l<h)))
  (V k <|
 V k <|
 M (g A b l h j k) λv =>
 V v <|
 Y v)
  (V k <|
 Y k)))
def vX(zg5:(Nat×Nat))(a:Int)(m:Int)(b:Int)(cmp:qc)(data:z7):T z7:=T.fix (λF x=>vE (λy0 y1 y2 y3 y4 y5=>F (y0,y1,y2,y3,y4,y5)) x.1 x.2.1 x.2.2.1 x.2.2.2.1 x.2.2.2.2.1 x.2.2.2.2.2) (zg5,a,m,b,cmp,data)
def kP(f:Int)(g:qc)(h:Int):((Nat×Nat)×Int×Int×z7)->T (((Nat×Nat)×Int×Int×z7)⊕(((Nat×Nat)×Int×z7)))
 | (d,e,b,a) =>
 U (zA (b<=f))
  (V a <|
 V a <|
 M (vi d e b (λz0 z1=>wz z0 z1 g) a) λc =>
 .W (a.length=c.length) <|
 V c <|
 Y (zG (d,(b,((qj (b+h)),c)))))
  (V a <|
 V a <|
 Y (zF (d,(e,a))))
def kM n1 cmp1 blockSize s:=zJ (kP n1 cmp1 blockSize) s
def kR(g:Int)(h:qc)(f:Int):((Nat×Nat)×Int×Int×z7)->T (((Nat×Nat)×Int×Int×z7)⊕(((Nat×Nat)×Int×z7)))
 | (d,e,b,a) =>
 U (zA (b<=g))
  (V a <|
 V a <|
 M (vX d e (qj (e+f)) b h a) λc =>
 .W (a.length=c.length) <|
 V c <|
 Y (zG (d,(b,((qj (b+(qj (2*f)))),c)))))
  (V a <|
 V a <|
 Y (zF (d,(e,a))))
def kO n3 cmp3 blockSize2 s:=zJ (kR n3 cmp3 blockSize2) s
def kQ(d:Int)(h:qc):((Nat×Nat)×Int×z7)->T (((Nat×Nat)×Int×z7)⊕z7)
 | (i,b,c) =>
 U (zA (b<d))
  (V c <|
 V c <|
 M (kO d h b (i,(0,((qj (2*b)),c)))) λ(e,f,a) =>
 U (zA ((qj (f+b))<d))
  (V a <|
 V a <|
 M (vX e f (qj (f+b)) d h a) λg =>
 .W (a.length=g.length) <|
 V g <|
 Y (zG (e,((qj (b*2)),g))))
  (V a <|
 V a <|
 Y (zG (e,((qj (b*2)),a)))))
  (V c <|
 Y (zF c))
def kN n2 cmp2 s:=zJ (kQ n2 cmp2) s
def jz(i:(Nat×Nat))(c:Int)(d:qc)(e:z7):T z7 :=
 V e <|
 V e <|
 M (kM c d 20 (i,(0,(20,e)))) λ(f,h,a) =>
 V a <|
 V a <|
 M (vi f h c (λz0 z1=>wz z0 z1 d) a) λb =>
 .W (a.length=b.length) <|
 V b <|
 M (kN c d (f,(20,b))) λg =>
 V g <|
 Y g
def uG(c:(Nat×Nat))(d:qc)(a:z7):T z7 :=
 V a <|
 V a <|
 M (jz c (zN c.2:Int) d a) λb =>
 V b <|
 Y b
def cy(b:z7)(c:z7)(d:Int):Int->T (Int⊕(Unit⊕Bool))
 | a =>
 U (zA (a<d))
  (oI a b <|
 oI a c <|
 U ((nth b a (zb (.int .i64))) != (nth c a (zb (.int .i64))))
  (Y (zF (zF false)))
  (Y (zG (qj (a+1)))))
  (Y (zF (zG ())))
def lv s11 s21 x s:=zJ (cy s11 s21 x) s
def ye(a:z7)(b:z7):T Bool :=
 U ((a.length:Int) != (b.length:Int))
  (Y false)
  (M (lv a b (a.length:Int) 0) <|
 zK (λ_ =>
 Y true)
  (λc =>
 Y c))
def kl(k:Int->(qc×Unit)->z7->z7->T (Int×(qc×Unit)×z7×z7))(l:Int)(h:wD)(m:Int):(Int×Int×(qc×Unit)×z7×z7)->T ((Int×Int×(qc×Unit)×z7×z7)⊕((Int×(qc×Unit)×z7×z7)))
 | (f,c,g,a,b) =>
 U (zA (c<m))
  (oI c h <|
 U ((nth h c (zb qq)).1 != l)
  (oC a <|
 oC b <|
 V a <|
 V b <|
 M (k (nth h c (zb qq)).1 (g.1,()) a b) λ(i,j,d,e) =>
 oC d <|
 oC e <|
 V d <|
 V e <|
 Y (zG ((dZ f i),((qj (c+1)),((j.1,()),(d,e))))))
  (oC a <|
 oC b <|
 V a <|
 V b <|
 Y (zG (f,((qj (c+1)),((g.1,()),(a,b)))))))
  (oC a <|
 oC b <|
 V a <|
 V b <|
 Y (zF (f,((g.1,()),(a,b)))))
def gY self_delta_choice_strong v1 x x1 s:=zJ (kl self_delta_choice_strong v1 x x1) s
def jc(j:Int->(qc×Unit)->z7->z7->T (Int×(qc×Unit)×z7×z7))(e:Int)(b:(qc×Unit))(c:z7)(a:z7):T (Int×(qc×Unit)×z7×z7) :=
 let d:=wm a (0+(zE e)) (zb (.int .i64));  oI e a <|
 .W (uM a.length a.length (0+(zE e)) a.length) <|
 U (d==(-1))
  (oC c <|
 oC a <|
 V c <|
 V a <|
 Y (4,((b.1,()),(c,a))))
  (oI d b.1 <|
 oI d b.1 <|
 oC c <|
 oC a <|
 V c <|
 V a <|
 M (gY j e (nth b.1 d (zb zw)).2.1 (zN (zO (nth b.1 d (zb zw)).2.1):Int) ((nth b.1 d (zb zw)).1,(0,((b.1,()),(c,a))))) λ(h,i,f,g) =>
 oC f <|
 oC g <|
 V f <|
 V g <|
 Y (h,((i.1,()),(f,g))))
def jP(v:Int)(c:(qc×Unit))(xs:z7)(xs1:z7):T (Int×(qc×Unit)×z7×z7):=T.fix (λF x=>jc (λy0 y1 y2 y3=>F (y0,y1,y2,y3)) x.1 x.2.1 x.2.2.1 x.2.2.2) (v,c,xs,xs1)
def gv(f:wD)(m:Int):(Int×Int×Int×(qc×Unit)×z7×z7×z7)->T ((Int×Int×Int×(qc×Unit)×z7×z7×z7)⊕((Int×(qc×Unit)×z7×z7×z7)))
 | (j,k,a,l,g,d,e) =>
 U (zA (a<m))
  (oI a f <|
 oC d <|
 oC e <|
 V d <|
 V e <|
 M (jP (nth f a (zb qq)).1 (l.1,()) d e) λ(h,i,b,c) =>
 .W (wfI (nth f a (zb qq)).1) <|
 U ((!(List.contains g (nth f a (zb qq)).1))&&(zA (k<h)))
  (oC b <|
 oC c <|
 V b <|
 V c <|
 Y (zG ((nth f a (zb qq)).1,(h,((qj (a+1)),((i.1,()),(g,(b,c))))))))
  (oC b <|
 oC c <|
 V b <|
 V c <|
 Y (zG (j,(k,((qj (a+1)),((i.1,()),(g,(b,c)))))))))
  (oC d <|
 oC e <|
 V d <|
 V e <|
 Y (zF (j,((l.1,()),(g,(d,e))))))
def en x x1 s:=zJ (gv x x1) s
def yi(b:Int)(a:(qc×Unit))(j:z7)(e:z7)(f:z7):T (Int×(qc×Unit)×z7×z7×z7) :=
 oI b a.1 <|
 oI b a.1 <|
 oC e <|
 oC f <|
 V e <|
 V f <|
 M (en (nth a.1 b (zb zw)).2.1 (zN (zO (nth a.1 b (zb zw)).2.1):Int) ((-1),((nth a.1 b (zb zw)).1,(0,((a.1,()),(j,(e,f))))))) λ(g,h,i,c,d) =>
 oC c <|
 oC d <|
 V c <|
 V d <|
 Y (g,((h.1,()),(i,(c,d))))
def yN(h:Int)(e:wD)(g:Int):(Int×(qc×Unit)×z7×z7×z7)->T ((Int×(qc×Unit)×z7×z7×z7)⊕(((qc×Unit)×z7×z7×z7)))
 | (c,f,a,b,d) =>
 U (zA (c<g))
  (oI c e <|
 .W (z3y true (nth e c (zb qq)).1 d) <|
 oC a <|
 oC b <|
 V a <|
 V b <|
 Y (zG ((qj (c+1)),((f.1,()),(a,(b,(d++([(nth e c (zb qq)).1]:List Int))))))))
  (oC a <|
 oC b <|
 V a <|
 V b <|
 Y (zF ((f.1,()),(a,(b,d)))))
def yL out x x1 s:=zJ (yN out x x1) s
def yM  : (Int×(qc×Unit)×z7×z7×z7)->T ((Int×(qc×Unit)×z7×z7×z7)⊕(((qc×Unit)×z7×z7×z7)⊕((qc×Unit)×z7×z7×z7)))
 | (c,r,f,g,s) =>
 U (c != (-1))
  (oC f <|
 oC g <|
 V f <|
 V g <|
 M (yi c (r.1,()) s f g) λ(j,l,m,a,b)=>let h:=0+(zE j); let i:=wm b h (zb (.int .i64)); let p:=zL a (0+(zE i)) (-1);
 U (j==(-1))
  (oC a <|
 oC b <|
 V a <|
 V b <|
 Y (zF (zF ((l.1,()),(a,(b,m))))))
  (oI j b <|
 .W (uM b.length b.length h b.length) <|
 M (U (i != (-1))
  (oI i a <|
 .W (uM a.length a.length (0+(zE i)) a.length) <|
 .W (zu a.length 0 a.length p.length) <|
 oC b <|
 .W (a.length=p.length) <|
 V b <|
 Y ((l.1,()),(p,(b,m))))
  (oC a <|
 oC b <|
 V a <|
 V b <|
 Y ((l.1,()),(a,(b,m)))):T (((qc×Unit)×z7×z7×z7))) λ(k,e,d,t)=>let q:=zL e (0+(zE c)) j;
 oI c e <|
 .W (uM e.length e.length (0+(zE c)) e.length) <|
 oI j d <|
 .W (uM d.length d.length h d.length) <|
 oI c k.1 <|
 .W (zu e.length 0 e.length q.length) <|
 .W (zu d.length 0 d.length (zL d h c).length) <|
 .W (e.length=q.length) <|
 .W (d.length=(zL d h c).length) <|
 M (yL i (nth k.1 c (zb zw)).2.1 (zN (zO (nth k.1 c (zb zw)).2.1):Int) (0,((k.1,()),(q,((zL d h c),t))))) λ(u,n,o,v) =>
 oC n <|
 oC o <|
 V n <|
 V o <|
 Y (zG (i,((u.1,()),(n,(o,v)))))))
  (oC f <|
 oC g <|
 V f <|
 V g <|
 Y (zF (zG ((r.1,()),(f,(g,s))))))
def dr(s:(Int×(qc×Unit)×z7×z7×z7)):T (((qc×Unit)×z7×z7×z7)⊕((qc×Unit)×z7×z7×z7)):=zJ (yM ) s
def kS(i:Int)(j:(qc×Unit))(e:z7)(f:z7):T ((qc×Unit)×z7×z7) :=
 oC e <|
 oC f <|
 V e <|
 V f <|
 M (dr  (i,((j.1,()),(e,(f,[]))))) <|
 zK (λ(g,a,b,k) =>
 oC a <|
 oC b <|
 V a <|
 V b <|
 Y ((g.1,()),(a,b)))
  (λ(h,c,d,l) =>
 oC c <|
 oC d <|
 V c <|
 V d <|
 Y ((h.1,()),(c,d)))
def o6(g:qc)(f:Int):(Int×(qc×Unit)×z7×z7×z7)->T ((Int×(qc×Unit)×z7×z7×z7)⊕(((qc×Unit)×z7×z7×z7)))
 | (d,e,b,c,a) =>
 U (zA (d<f))
  (oA a 8 <|
 .W (zu (a.length+1) 0 (a.length+1) (a++[d]).length) <|
 oC b <|
 oC c <|
 V b <|
 V c <|
 .W ((a.length+1)=(a++[d]).length) <|
 Y (zG ((qj (d+1)),((e.1,()),(b,(c,(a++[d])))))))
  (oC a <|
 oC b <|
 oC c <|
 V b <|
 V c <|
 V a <|
 Y (zF ((e.1,()),(b,(c,a)))))
def QO l1 x s:=zJ (o6 l1 x) s
def o8(k:(List Int×Bool))(j:Int):(Int×(qc×Unit)×z7×z7×z7)->T ((Int×(qc×Unit)×z7×z7×z7)⊕(((qc×Unit)×z7×z7×z7)))
 | (d,h,b,c,a)=>let e:=wm a (0+(zE d)) (zb (.int .i64));
 U (zA (d<j))
  (oI d a <|
 .W (uM a.length a.length (0+(zE d)) a.length) <|
 oI e b <|
 .W (uM b.length b.length (0+(zE e)) b.length) <|
 U ((wm b (0+(zE e)) (zb (.int .i64)))==(-1))
  (oC b <|
 oC c <|
 V b <|
 V c <|
 M (kS e (h.1,()) b c) λ(i,f,g) =>
 oC a <|
 oC a <|
 oC f <|
 oC g <|
 V f <|
 V g <|
 V a <|
 Y (zG ((qj (d+1)),((i.1,()),(f,(g,a))))))
  (oC a <|
 oC a <|
 oC b <|
 oC c <|
 V b <|
 V c <|
 V a <|
 Y (zG ((qj (d+1)),((h.1,()),(b,(c,a)))))))
  (oC a <|
 oC b <|
 oC c <|
 V b <|
 V c <|
 V a <|
 Y (zF ((h.1,()),(b,(c,a)))))
def QQ ahead1 x3 s:=zJ (o8 ahead1 x3) s
def o7  : ((List Int×Bool)×(qc×Unit)×z7×z7×z7)->T (((List Int×Bool)×(qc×Unit)×z7×z7×z7)⊕(((qc×Unit)×z7×z7×z7)))
 | (l,m,b,e,f) =>
 M (U (!l.2)
  (oC f <|
 oC b <|
 oC e <|
 V b <|
 V e <|
 V f <|
 Y (true,((m.1,()),(b,(e,f)))))
  (V b <|
 M (ye l.1 (zH 0 (zI (0+b.length) b))) λn =>
 oC f <|
 oC b <|
 oC e <|
 V b <|
 V e <|
 V f <|
 Y ((!n),((m.1,()),(b,(e,f))))):T ((Bool×(qc×Unit)×z7×z7×z7))) λ(o,k,a,d,c)=>let j:=zH 0 (zI (0+a.length) a);
 U o
  (V a <|
 .W ((j.length*8)<=140737488355328) <|
 oC c <|
 oC c <|
 oC a <|
 oC d <|
 V a <|
 V d <|
 V c <|
 M (QQ (j,true) (c.length:Int) (0,((k.1,()),(a,(d,c))))) λ(p,g,h,i) =>
 oC i <|
 oC g <|
 oC h <|
 V g <|
 V h <|
 V i <|
 Y (zG ((j,true),((p.1,()),(g,(h,i))))))
  (oC a <|
 oC d <|
 V a <|
 V d <|
 V c <|
 Y (zF ((k.1,()),(a,(d,c)))))
def QP(s:((List Int×Bool)×(qc×Unit)×z7×z7×z7)):T (((qc×Unit)×z7×z7×z7)):=zJ (o7 ) s
def oR(b:qc)(i:z7)(p:Int):T (z7×Bool) :=
 M (bz b i p) <|
 zK (λ(j,k,c,d) =>
 U (!j)
  (M (yd i) λl =>
 Y (l,false))
  (.W (zu 0 0 0 0) <|
 oC c <|
 oC d <|
 V c <|
 V d <|
 .W (0=0) <|
 M (QO b (b.length:Int) (0,((k.1,()),(c,(d,[]))))) λ(m,e,f,a) =>
 V a <|
 V a <|
 M (uG (0,a.length) b a) λg =>
 .W (zu a.length 0 a.length g.length) <|
 oC e <|
 oC f <|
 V e <|
 V f <|
 V g <|
 M (QP  (([],false),((m.1,()),(e,(f,g))))) λ(q,h,r,s) =>
 V h <|
 Y ((zH 0 (zI (0+h.length) h)),true)))
  (λn =>
 U (!n)
  (M (yd i) λo =>
 Y (o,false))
  (.fail))
def QE(a:vR):T Bool :=
 U ((a.2.1.length:Int)==0)
  (M (iW a.2.2.1) λb =>
 Y b)
  (Y false)
def Zc(c:qc)(d:z7)(e:Int):T Bool :=
 M (bz c d e) <|
 zK (λ(a,f,g,h) =>
 Y a)
  (λb =>
 Y b)
def yu(b:z7)(c:Int)(d:Int):Int->T (Int⊕(Unit⊕Int))
 | a =>
 U (zA (a<d))
  (oI a b <|
 U (c==(nth b a (zb (.int .i64))))
  (Y (zF (zF a)))
  (Y (zG (qj (a+1)))))
  (Y (zF (zG ())))
def yt s1 v1 x s:=zJ (yu s1 v1 x) s
def uP(a:z7)(c:Int):T Int :=
 M (yt a c (a.length:Int) 0) <|
 zK (λ_ =>
 Y (-1))
  (λb =>
 Y b)
def ju(b:z7)(c:Int):T Bool :=
 M (uP b c) λa =>
 Y (zA (0<=a))
def cZ(b:Term)(c:z7)(d:Int)(a:z7):T (Bool×z7) :=
 oI d c <|
 U (b.1 != (nth c d (zb (.int .i64))))
  (V a <|
 M (ju (zH 0 (zI (0+a.length) a)) b.1) λe =>
 oC a <|
 V a <|
 Y (e,a))
  (oC a <|
 V a <|
 Y (false,a))
def vw(e:wD)(g:Int):((z7×Int×Unit)×Int×z7)->T (((z7×Int×Unit)×Int×z7)⊕(z7⊕(Int×z7)))
 | (d,c,b) =>
 U (zA (c<g))
  (oI c e <|
 oC b <|
 V b <|
 M (cZ (nth e c (zb qq)) d.1 d.2.1 b) λ(f,a) =>
 U f
  (oC a <|
 V a <|
 Y (zF (zF (c,a))))
  (oC a <|
 V a <|
 Y (zG ((d.1,(d.2.1,())),((qj (c+1)),a)))))
  (oC b <|
 V b <|
 Y (zF (zG b)))
def vv s1 x s:=zJ (vw s1 x) s
def vU(d:wD)(e:(z7×Int×Unit))(c:z7):T (Int×z7) :=
 oC c <|
 V c <|
 M (vv d (d.length:Int) ((e.1,(e.2.1,())),(0,c))) <|
 zK (λa =>
 oC a <|
 V a <|
 Y ((-1),a))
  (λ(f,b) =>
 oC b <|
 V b <|
 Y (f,b))
def wL(e:wD)(c:(z7×Int×Unit))(b:z7):T (Bool×z7) :=
 oC b <|
 V b <|
 M (vU e (c.1,(c.2.1,())) b) λ(d,a) =>
 oC a <|
 V a <|
 Y ((zA (0<=d)),a)
def lg(b:Int)(d:qc)(f:z7)(a:z7):T (Bool×z7) :=
 oI b a <|
 .W (uM a.length a.length (0+(zE b)) a.length) <|
 U ((wm a (0+(zE b)) (zb (.int .i64))) != (-1))
  (oI b d <|
 oC a <|
 V a <|
 M (wL (nth d b (zb zw)).2.1 (f,(b,())) a) λ(e,c) =>
 oC c <|
 V c <|
 Y ((!e),c))
  (oC a <|
 V a <|
 Y (false,a))
def QC(g:qc):((qc×z7×Unit)×Int×z7×z7)->T (((qc×z7×Unit)×Int×z7×z7)⊕((z7×z7)))
 | (d,c,e,a) =>
 U (zA (c<(g.length:Int)))
  (oC e <|
 V e <|
 M (lg c d.1 d.2.1 e) λ(f,b) =>
 U (!f)
  (oC a <|
 oC b <|
 V b <|
 V a <|
 Y (zG ((d.1,(d.2.1,())),((qj (c+1)),(b,a)))))
  (oI c b <|
 .W (uM b.length b.length (0+(zE c)) b.length) <|
 oA a 8 <|
 .W (zu (a.length+1) 0 (a.length+1) (a++[c]).length) <|
 oM b.length (zL b (0+(zE c)) (-1)).length <|
 .W ((a.length+1)=(a++[c]).length) <|
 Y (zG ((d.1,(d.2.1,())),(0,((zL b (0+(zE c)) (-1)),(a++[c])))))))
  (oC a <|
 oC e <|
 V e <|
 V a <|
 Y (zF (e,a)))
def Jy l1 s:=zJ (QC l1) s
def WV(c:qc)(d:z7)(f:Int):T z7 :=
 M (Zc c d f) λe =>
 U (!e)
  (Y [])
  (M (ub d) λa =>
 .W (zu 0 0 0 0) <|
 oC a <|
 V a <|
 .W (0=0) <|
 M (Jy c ((c,(d,())),(0,(a,[])))) λ(g,b) =>
 V b <|
 Y (zH 0 (zI (0+b.length) b)))
def lj(j:Int)(g:wD)(k:Int):(Int×zp×Rat×Rat×Rat)->T ((Int×zp×Rat×Rat×Rat)⊕((zp×Rat×Rat×Rat)))
 | (c,a,d,e,f)=>let b:=nth g c (zb qq);
 U (zA (c<k))
  (oI c g <|
 U (b.1==j)
  (oC a <|
 V a <|
 Y (zG ((qj (c+1)),(a,(d,(e,(b.2.1.1,(b.2.1.2.1,(b.2.1.2.2.1,())))))))))
  (.W (xf b.1 a.length) <|
 .W (uM a.length a.length (0+(zE b.1)) a.length) <|
 M (pn (b.2.1.1,(b.2.1.2.1,(b.2.1.2.2.1,()))) (wm a (0+(zE b.1)) (zb zm))) λh =>
 M (pj e h) λi =>
 oC a <|
 V a <|
 Y (zG ((qj (c+1)),(a,(d,(i,f)))))))
  (V a <|
 Y (zF (a,(d,(e,f)))))
def so v1 x x1 s:=zJ (lj v1 x x1) s
def tE(a:vR)(j:Int)(b:zp):T (Rat×zp) :=
 M (vN a.2.2.1) λd =>
 M (gm 1) λe =>
 oC b <|
 V b <|
 M (so j a.2.1 (a.2.1.length:Int) (0,(b,((false,(([]:List Int),(([]:List Int),()))),(d,e))))) λ(c,k,f,g) =>
 M (Qt f) λh =>
 M (tA h g) λ(i,l) =>
 V c <|
 Y (i,c)
def Ua(f:qc)(g:z7)(h:zp)(d:zp)(e:Int):(Int×zp)->T ((Int×zp)⊕zp)
 | (b,a) =>
 U (zA (b<e))
  (oI b d <|
 M (vN (nth d b (zb zm))) λc =>
 oA a 56 <|
 oM (a.length+1) (a++[c]).length <|
 Y (zG ((qj (b+1)),(a++[c]))))
  (oC a <|
 V a <|
 Y (zF a))
def Hl l1 outs1 val1 x x1 s:=zJ (Ua l1 outs1 val1 x x1) s
def QD(i:qc)(f:z7)(j:z7)(l:Int):(Int×zp)->T ((Int×zp)⊕(zp⊕(Int×Int×zp)))
 | (d,a)=>let c:=nth j d (zb (.int .i64)); let e:=nth f c (zb (.int .i64));
 U (zA (d<l))
  (oI d j <|
 oI c i <|
 oI c f <|
 oC a <|
 V a <|
 M (tE (nth i c (zb zw)) e a) λ(h,b)=>let g:=zL b (0+(zE e)) h;
 M (cK h) λk =>
 U k
  (V b <|
 Y (zF (zF (c,(8,b)))))
  (oI c f <|
 oI e a <|
 .W (uM a.length b.length (0+(zE e)) b.length) <|
 .W (zu a.length 0 a.length g.length) <|
 .W (b.length=g.length) <|
 Y (zG ((qj (d+1)),g))))
  (oC a <|
 V a <|
 Y (zF (zG a)))
def Hm l2 outs2 x3 x4 s:=zJ (QD l2 outs2 x3 x4) s
def YG(b:qc)(c:z7)(a:zp):T (zp×Int×Int) :=
 M (Zc b c (a.length:Int)) λg =>
 U (!g)
  (Y ([],((-1),1)))
  (oZ <|
 M (Hl b c a a (a.length:Int) (0,[])) λd =>
 M (WV b c (a.length:Int)) λf =>
 oC d <|
 V d <|
 M (Hm b c f (f.length:Int) (0,d)) <|
 zK (λe =>
 V e <|
 Y ((zH 0 (zI (0+e.length) e)),((-1),0)))
  (λ(h,i,j) =>
 Y ([],(h,i))))
def sH(m:qc)(n:ji)(f:z7)(g:qc)(k:Int):(Int×ji×Int)->T ((Int×ji×Int)⊕((ji×Int)⊕(Int×Int×ji×Int)))
 | (a,c,d)=>let b:=nth g a (zb zw);
 U (zA (a<k))
  (oI a g <|
 M (U (b.1==0)
  (oI a f <|
 U (zA ((nth f a (zb (.int .i64)))<0))
  (M (QE b) λh =>
 Y ((!h),(c,(d,b))))
  (Y (false,(c,(d,b)))))
  (Y (false,(c,(d,b)))):T ((Bool×ji×Int×vR))) λ(i,j,e,l) =>
 U i
  (Y (zF (zF (a,(10,((([]:List Int),(([]:List Rat),())),e))))))
  (Y (zG ((qj (a+1)),(j,e)))))
  (Y (zF (zG (c,d))))
def Wb l1 s1 outs1 x1 x2 s:=zJ (sH l1 s1 outs1 x1 x2) s
def tK(a:qc)(b:ji):T (ji×Int×Int) :=
 let c:=((([]:List Int),(([]:List Rat),())),(b.2.1.length:Int));  M (U (zA ((b.2.1.length:Int)<1))
  (Y (true,c))
  (U (zA (64<(b.2.1.length:Int)))
  (Y (true,c))
  (U (zA (256<(a.length:Int)))
  (Y (true,c))
  (U ((b.1.length:Int) != (a.length:Int))
  (Y (true,c))
  (M (yX a (λh=>yZ h (b.2.1.length:Int))) λi =>
 Y (i,c))))):T ((Bool×ji×Int))) λ(j,k,d) =>
 U j
  (Y ((([]:List Int),(([]:List Rat),())),((-1),1)))
  (M (nw a d) λf =>
 U (zA (0<=f))
  (Y ((([]:List Int),(([]:List Rat),())),(f,9)))
  (M (oR a b.1 d) λ(e,l) =>
 U (!l)
  (Y ((([]:List Int),(([]:List Rat),())),((-1),1)))
  (M (Wb a b e a (a.length:Int) (0,(k,d))) <|
 zK (λ(r,s) =>
 M (YG a e b.2.1) λ(m,n,g) =>
 U (g != 0)
  (Y ((([]:List Int),(([]:List Rat),())),(n,g)))
  (Y ((e,(m,())),((-1),0))))
  (λ(o,p,q,t) =>
 Y (q,(o,p))))))
def cW(b:Int)(a:uz):T (zr×uz) :=
 let c:=nth a.2.2.2.1 b (zb (.int .i64));  U (zA (b<0))
  (Y ([],a))
  (oI b a.2.2.2.1 <|
 U (zA (c<(a.1.2.2.2.2.1.length:Int)))
  (oI b a.2.2.2.1 <|
 oI c a.1.2.2.2.2.1 <|
 Y (([(nth a.1.2.2.2.2.1 c (zb xp)).1]:List q9),a))
  (oI b a.2.2.2.1 <|
 oI (qj (c-(a.1.2.2.2.2.1.length:Int))) a.1.2.2.2.1 <|
 Y (([(nth a.1.2.2.2.1 (qj (c-(a.1.2.2.2.2.1.length:Int))) (zb qy)).1]:List q9),a)))
def jY(g:zp)(a:uz):T (zp×zr×Int×uz) :=
 M (tK a.2.1 (a.2.2.1,(g,()))) λ(b,d,c) =>
 U (c != 0)
  (M (cW d a) λ(e,f) =>
 Y ([],(e,(c,f))))
  (Y (b.2.1,([],(0,((a.1.1,(a.1.2.1,(a.1.2.2.1,(a.1.2.2.2.1,(a.1.2.2.2.2.1,(a.1.2.2.2.2.2.1,())))))),(a.2.1,(b.1,(a.2.2.2.1,()))))))))
def ua(a:zp):T zp :=
 .W (a=[]->∀ r,T.leads (.W (vV 0 0 0 0 0 a.length 56) <|
 .W (zu (0+a.length) 0 (0+a.length) a.length) <|
 .W ((0+a.length)=a.length) <|
 Y a:T _) r->T.leads (.W (zu 0 0 0 0) <|
 .W (0=0) <|
 Y []:T _) r) <|
 .W (vV 0 0 0 0 0 a.length 56) <|
 oM (0+a.length) a.length <|
 Y a
def vT(a:zo):T zo :=
 .W (a=[]->∀ r,T.leads (.W (vV 0 0 0 0 0 a.length 1) <|
 .W (zu (0+a.length) 0 (0+a.length) a.length) <|
 .W ((0+a.length)=a.length) <|
 Y a:T _) r->T.leads (.W (zu 0 0 0 0) <|
 .W (0=0) <|
 Y []:T _) r) <|
 .W (vV 0 0 0 0 0 a.length 1) <|
 oM (0+a.length) a.length <|
 Y a
def uJ(a:zn):T zn :=
 .W (a=[]->∀ r,T.leads (.W (vV 0 0 0 0 0 a.length 64) <|
 .W (zu (0+a.length) 0 (0+a.length) a.length) <|
 .W ((0+a.length)=a.length) <|
 Y a:T _) r->T.leads (.W (zu 0 0 0 0) <|
 .W (0=0) <|
 Y []:T _) r) <|
 .W (vV 0 0 0 0 0 a.length 64) <|
 oM (0+a.length) a.length <|
 Y a
def lZ(a:zt):T (Unit×zp×zo×zp×z7×zn×zo) :=
 M (ua a.1) λb =>
 M (vT a.2.1) λc =>
 M (ua a.2.2.1) λd =>
 M (ub a.2.2.2.1) λe =>
 M (uJ a.2.2.2.2.1) λf =>
 M (vT a.2.2.2.2.2.1) λg =>
 oY b c d e f g <|
 Y ((),(b,(c,(d,(e,(f,g))))))
def du(l:Int):(Int×uz×(zp×Unit)×zt×zp×zo×zp×z7×zn×zo)->T ((Int×uz×(zp×Unit)×zt×zp×zo×zp×z7×zn×zo)⊕((uz×(zp×Unit)×zt×zp×zo×zp×z7×zn×zo)))
 | (f,i,j,k,b,c,g,a,d,e)=>let h:=zL a (0+(zE f)) (-1);
 U (zA (f<l))
  (oI f a <|
 .W (uM a.length a.length (0+(zE f)) a.length) <|
 oC b <|
 oC c <|
 .W (zu a.length 0 a.length h.length) <|
 oC d <|
 oC e <|
 V b <|
 V c <|
 V g <|
 .W (a.length=h.length) <|
 V d <|
 V e <|
 Y (zG ((qj (f+1)),(i,((j.1,()),(k,(b,(c,(g,(h,(d,e)))))))))))
  (oC b <|
 oC c <|
 oC a <|
 oC d <|
 oC e <|
 oW b c g a d e <|
 Y (zF (i,((j.1,()),(k,(b,(c,(g,(a,(d,e))))))))))
def ni x s:=zJ (du x) s
def dv(m:z7)(q:Int):(Int×uz×(zp×Unit)×zt×zp×zo×zp×z7×zn×zo)->T ((Int×uz×(zp×Unit)×zt×zp×zo×zp×z7×zn×zo)⊕((uz×(zp×Unit)×zt×zp×zo×zp×z7×zn×zo)))
 | (f,i,k,l,c,d,g,a,b,e)=>let h:=nth i.2.2.2.1 f (zb (.int .i64)); let n:=0+(zE (qj (h-(a.length:Int)))); let o:=zL a (0+(zE h)) (nth m f (zb (.int .i64))); let j:=wm b n (zb zk); let p:=zL b n (j.1,(((nth m f (zb (.int .i64))) != (-1)),((j.2.2.1.1,(j.2.2.1.2.1,(j.2.2.1.2.2.1,()))),())));
 U (zA (f<q))
  (oI f m <|
 oI f i.2.2.2.1 <|
 U (zA (h<(a.length:Int)))
  (oI h a <|
 .W (uM a.length a.length (0+(zE h)) a.length) <|
 oC c <|
 oC d <|
 .W (zu a.length 0 a.length o.length) <|
 oC b <|
 oC e <|
 V c <|
 V d <|
 V g <|
 .W (a.length=o.length) <|
 V b <|
 V e <|
 Y (zG ((qj (f+1)),(i,((k.1,()),(l,(c,(d,(g,(o,(b,e)))))))))))
  (oI (qj (h-(a.length:Int))) b <|
 .W (uM b.length b.length n b.length) <|
 oC c <|
 oC d <|
 oC a <|
 .W (zu b.length 0 b.length p.length) <|
 oC e <|
 V c <|
 V d <|
 V g <|
 V a <|
 .W (b.length=p.length) <|
 V e <|
 Y (zG ((qj (f+1)),(i,((k.1,()),(l,(c,(d,(g,(a,(p,e))))))))))))
  (oC c <|
 oC d <|
 oC a <|
 oC b <|
 oC e <|
 oW c d g a b e <|
 Y (zF (i,((k.1,()),(l,(c,(d,(g,(a,(b,e))))))))))
def nj x2 x3 s:=zJ (dv x2 x3) s
def gK(w:zt)(x:zp)(y:uz):T ((zp×Unit)×uz×zp×zo×z7×zn×zo) :=
 M (lZ w) λ(z,b,c,q,a,d,e) =>
 oC b <|
 oC c <|
 oC a <|
 oC d <|
 oC e <|
 oW b c q a d e <|
 M (ni (a.length:Int) (0,(y,((x,()),((([]:List Rat),(([]:List Bool),(([]:List Rat),(([]:List Int),(([]:List qh),(([]:List Bool),())))))),(b,(c,(q,(a,(d,e)))))))))) λ(f,s,t,g,h,r,i,j,k) =>
 oC g <|
 oC h <|
 oC i <|
 oC j <|
 oC k <|
 oW g h r i j k <|
 M (nj f.2.2.1 (f.2.2.1.length:Int) (0,(f,((s.1,()),(t,(g,(h,(r,(i,(j,k)))))))))) λ(u,v,A,l,m,B,n,o,p) =>
 oC l <|
 oC m <|
 oC n <|
 oC o <|
 oC p <|
 V l <|
 V m <|
 V n <|
 V o <|
 V p <|
 Y ((v.1,()),(u,(l,(m,(n,(o,p))))))
def dU(s:Form)(j:zt):T ((zp×Unit)×zr×Int×zp×zo×z7×zn×zo) :=
 M (dt s j) <|
 zK (λ(k,a,b,c,d) =>
 U (k != 0)
  (.W (zu 0 0 0 0) <|
 .W (zu 0 0 0 0) <|
 .W (zu 0 0 0 0) <|
 .W (zu 0 0 0 0) <|
 oZ <|
 .W (0=0) <|
 .W (0=0) <|
 .W (0=0) <|
 .W (0=0) <|
 Y (([],()),([],(k,([],([],([],([],[]))))))))
  (V b <|
 V c <|
 V d <|
 M (jY j.2.2.1 ((a.1,(a.2.1,(a.2.2.1,(a.2.2.2.1,(a.2.2.2.2.1,(a.2.2.2.2.2.1,())))))),((zH 0 (zI (0+b.length) b)),((zH 0 (zI (0+c.length) c)),((zH 0 (zI (0+d.length) d)),()))))) λ(n,o,l,p) =>
 U (l != 0)
  (.W (zu 0 0 0 0) <|
 .W (zu 0 0 0 0) <|
 .W (zu 0 0 0 0) <|
 .W (zu 0 0 0 0) <|
 oZ <|
 .W (0=0) <|
 .W (0=0) <|
 .W (0=0) <|
 .W (0=0) <|
 Y (([],()),(o,(l,([],([],([],([],[]))))))))
  (M (gK j n p) λ(q,t,e,f,g,h,i) =>
 oC e <|
 oC f <|
 oC g <|
 oC h <|
 oC i <|
 V e <|
 V f <|
 V g <|
 V h <|
 V i <|
 Y ((q.1,()),([],(0,(e,(f,(g,(h,i))))))))))
  (λ(r,m) =>
 U (m != 0)
  (.W (zu 0 0 0 0) <|
 .W (zu 0 0 0 0) <|
 .W (zu 0 0 0 0) <|
 .W (zu 0 0 0 0) <|
 oZ <|
 .W (0=0) <|
 .W (0=0) <|
 .W (0=0) <|
 .W (0=0) <|
 Y (([],()),(r,(m,([],([],([],([],[]))))))))
  (.fail))
def ZT(s:Form)(n:qm)(p:Int):(Int×Unit×Unit×zo×zo×zo×zo×zn×zn×z7×z7×zp×zp×zp×zp)->T ((Int×Unit×Unit×zo×zo×zo×zo×zn×zn×z7×z7×zp×zp×zp×zp)⊕((Unit×Unit×zo×zo×zo×zo×zn×zn×z7×z7×zp×zp×zp×zp)))
 | (b,q,r,c,d,e,f,g,h,i,j,k,l,a,m) =>
 U (zA (b<p))
  (oI b n <|
 M (vN ((nth n b (zb ql)).2.1.1,((nth n b (zb ql)).2.1.2.1,((nth n b (zb ql)).2.1.2.2.1,())))) λo =>
 oA a 56 <|
 oV k c l i g d <|
 .W (zu (a.length+1) 0 (a.length+1) (a++[o]).length) <|
 oC e <|
 oC m <|
 oC j <|
 oC h <|
 oC f <|
 oW c d e f g h <|
 V i <|
 V j <|
 V k <|
 V l <|
 .W ((a.length+1)=(a++[o]).length) <|
 V m <|
 Y (zG ((qj (b+1)),((),((),(c,(d,(e,(f,(g,(h,(i,(j,(k,(l,((a++[o]),m))))))))))))))))
  (oV k c l i g d <|
 oV a e m j h f <|
 oW c d e f g h <|
 oW i j k l a m <|
 Y (zF ((),((),(c,(d,(e,(f,(g,(h,(i,(j,(k,(l,(a,m)))))))))))))))
def UD f1 x x1 s:=zJ (ZT f1 x x1) s
def ZU(s:Form)(o:qf)(p:Int):(Int×Unit×Unit×zo×zo×zo×zo×zn×zn×z7×z7×zp×zp×zp×zp)->T ((Int×Unit×Unit×zo×zo×zo×zo×zn×zn×z7×z7×zp×zp×zp×zp)⊕((Unit×Unit×zo×zo×zo×zo×zn×zn×z7×z7×zp×zp×zp×zp)))
 | (m,q,r,b,c,a,d,e,f,g,h,i,j,k,l)=>let n:=a++([(nth o m (zb qw)).2.1]:List Bool);
 U (zA (m<p))
  (oI m o <|
 oA a 1 <|
 oV i b j g e c <|
 oC k <|
 .W (zu (a.length+1) 0 (a.length+1) n.length) <|
 oC l <|
 oC h <|
 oC f <|
 oC d <|
 V b <|
 V c <|
 .W ((a.length+1)=n.length) <|
 oW d e f g h i <|
 V j <|
 V k <|
 V l <|
 Y (zG ((qj (m+1)),((),((),(b,(c,(n,(d,(e,(f,(g,(h,(i,(j,(k,l))))))))))))))))
  (oV i b j g e c <|
 oV k a l h f d <|
 oW b c a d e f <|
 oW g h i j k l <|
 Y (zF ((),((),(b,(c,(a,(d,(e,(f,(g,(h,(i,(j,(k,l)))))))))))))))
def UE f2 x3 x4 s:=zJ (ZU f2 x3 x4) s
def ZV(t:Form)(q:Int):(Int×Unit×Unit×zo×zo×zo×zo×zn×zn×z7×z7×zp×zp×zp×zp)->T ((Int×Unit×Unit×zo×zo×zo×zo×zn×zn×z7×z7×zp×zp×zp×zp)⊕((Unit×Unit×zo×zo×zo×zo×zn×zn×z7×z7×zp×zp×zp×zp)))
 | (p,r,s,d,e,f,a,g,c,h,i,j,k,l,b) =>
 U (zA (p<q))
  (M (gm 0) λm =>
 oA b 56 <|
 M (gm 0) λn=>let o:=c++([(false,(false,((n.1,(n.2.1,(n.2.2.1,()))),())))]:List qh);
 oA c 64 <|
 oA a 1 <|
 oV j d k h g e <|
 oC l <|
 oC f <|
 .W (zu (b.length+1) 0 (b.length+1) (b++[m]).length) <|
 oC i <|
 .W (zu (c.length+1) 0 (c.length+1) o.length) <|
 .W (zu (a.length+1) 0 (a.length+1) (a++[false]).length) <|
 V d <|
 V e <|
 V f <|
 .W ((a.length+1)=(a++[false]).length) <|
 V g <|
 .W ((c.length+1)=o.length) <|
 V h <|
 V i <|
 V j <|
 V k <|
 V l <|
 .W ((b.length+1)=(b++[m]).length) <|
 Y (zG ((qj (p+1)),((),((),(d,(e,(f,((a++[false]),(g,(o,(h,(i,(j,(k,(l,(b++[m])))))))))))))))))
  (oV j d k h g e <|
 oV l f b i c a <|
 oW d e f a g c <|
 oW h i j k l b <|
 Y (zF ((),((),(d,(e,(f,(a,(g,(c,(h,(i,(j,(k,(l,b)))))))))))))))
def UF f3 x6 s:=zJ (ZV f3 x6) s
def ZW(q:Form)(n:Int):(Int×Unit×Unit×zo×zo×zo×zo×zn×zn×z7×z7×zp×zp×zp×zp)->T ((Int×Unit×Unit×zo×zo×zo×zo×zn×zn×z7×z7×zp×zp×zp×zp)⊕((Unit×Unit×zo×zo×zo×zo×zn×zn×z7×z7×zp×zp×zp×zp)))
 | (m,o,p,b,c,d,e,f,g,h,a,i,j,k,l) =>
 U (zA (m<n))
  (oA a 8 <|
 oV i b j h f c <|
 oC k <|
 oC d <|
 oC l <|
 .W (zu (a.length+1) 0 (a.length+1) (a++([(-1)]:List Int)).length) <|
 oC g <|
 oC e <|
 oW b c d e f g <|
 V h <|
 .W ((a.length+1)=(a++([(-1)]:List Int)).length) <|
 V i <|
 V j <|
 V k <|
 V l <|
 Y (zG ((qj (m+1)),((),((),(b,(c,(d,(e,(f,(g,(h,((a++([(-1)]:List Int)),(i,(j,(k,l))))))))))))))))
  (oV i b j h f c <|
 oV k d l a g e <|
 oW b c d e f g <|
 oW h a i j k l <|
 Y (zF ((),((),(b,(c,(d,(e,(f,(g,(h,(a,(i,(j,(k,l)))))))))))))))
def UG f4 x8 s:=zJ (ZW f4 x8) s
def Ww(a:Form):T ((zp×Unit)×zr×Int×zp×zo×z7×zn×zo) :=
 .W (zu 0 0 0 0) <|
 .W (zu 0 0 0 0) <|
 .W (zu 0 0 0 0) <|
 .W (zu 0 0 0 0) <|
 .W (zu 0 0 0 0) <|
 .W (zu 0 0 0 0) <|
 .W (zu 0 0 0 0) <|
 .W (zu 0 0 0 0) <|
 .W (zu 0 0 0 0) <|
 .W (zu 0 0 0 0) <|
 .W (zu 0 0 0 0) <|
 oZ <|
 .W (0=0) <|
 .W (0=0) <|
 .W (0=0) <|
 .W (0=0) <|
 .W (0=0) <|
 .W (0=0) <|
 .W (0=0) <|
 .W (0=0) <|
 .W (0=0) <|
 .W (0=0) <|
 .W (0=0) <|
 M (UD a a.2.1 (a.2.1.length:Int) (0,((),((),([],([],([],([],([],([],([],([],([],([],([],[]))))))))))))))) λ(ac,ad,b,c,d,e,f,g,h,i,j,k,l,m) =>
 oV j b k h f c <|
 oV l d m i g e <|
 oW b c d e f g <|
 oW h i j k l m <|
 M (UE a a.1 (a.1.length:Int) (0,((),((),(b,(c,(d,(e,(f,(g,(h,(i,(j,(k,(l,m))))))))))))))) λ(ae,af,n,o,p,q,r,s,t,u,v,w,x,y) =>
 oV v n w t r o <|
 oV x p y u s q <|
 oW n o p q r s <|
 oW t u v w x y <|
 M (UF a (a.2.2.2.1.length:Int) (0,((),((),(n,(o,(p,(q,(r,(s,(t,(u,(v,(w,(x,y))))))))))))))) λ(ag,ah,z,A,B,C,D,κ',G,H,hb,hd,K,L) =>
 oV hb z hd G D A <|
 oV K B L H κ' C <|
 oW z A B C D κ' <|
 oW G H hb hd K L <|
 M (UG a (a.2.2.2.2.1.length:Int) (0,((),((),(z,(A,(B,(C,(D,(κ',(G,(H,(hb,(hd,(K,L))))))))))))))) λ(ai,aj,ak,al,zC,hx,am,κ,an,P,ao,ap,hl,S) =>
 oW hl zC S P κ hx <|
 M (dU a ((zH 0 (zI (0+hl.length) hl)),((zH 0 (zI (0+zC.length) zC)),((zH 0 (zI (0+S.length) S)),((zH 0 (zI (0+P.length) P)),((zH 0 (zI (0+κ.length) κ)),((zH 0 (zI (0+hx.length) hx)),()))))))) λ(z6,aa,ab,zD,oE,zl,h2,zB) =>
 oC zD <|
 oC oE <|
 oC zl <|
 oC h2 <|
 oC zB <|
 V zD <|
 V oE <|
 V zl <|
 V h2 <|
 V zB <|
 Y ((z6.1,()),(aa,(ab,(zD,(oE,(zl,(h2,zB)))))))
def yF(a:Switch)(b:eY):T Bool :=
 Y (wP a.1 b.2.1)
def mw(d:zo)(h:Form)(f:xg)(i:Int):(Int×zo)->T ((Int×zo)⊕zo)
 | (b,a)=>let e:=a++[false];
 U (zA (b<i))
  (oI b f <|
 M (wh h.1 (λg=>yF g (nth f b (zb xy)))) λc =>
 U (wP (nth f b (zb xy)).2.1 [])
  (oA a 1 <|
 oM (a.length+1) (a++[true]).length <|
 Y (zG ((qj (b+1)),(a++[true]))))
  (U (zA (0<=c))
  (U (zA (c<(d.length:Int)))
  (oI c d <|
 oA a 1 <|
 oM (a.length+1) (a++([(nth d c (zb .bool))]:List Bool)).length <|
 Y (zG ((qj (b+1)),(a++([(nth d c (zb .bool))]:List Bool)))))
  (oA a 1 <|
 oM (a.length+1) e.length <|
 Y (zG ((qj (b+1)),e))))
  (oA a 1 <|
 oM (a.length+1) e.length <|
 Y (zG ((qj (b+1)),e)))))
  (oC a <|
 V a <|
 Y (zF a))
def Zw on1 f1 x x1 s:=zJ (mw on1 f1 x x1) s
def kv(b:Form)(c:zo):T zo :=
 oZ <|
 M (Zw c b b.2.2.1 (b.2.2.1.length:Int) (0,[])) λa =>
 V a <|
 Y (zH 0 (zI (0+a.length) a))
def nW(l:List Bool)(at_:Int):Nat->Int×Bool
 | 0=>(at_,false)
 | k+1=>if l[k]?.getD false=true/\(k:Int)<at_ then((k:Int),true)else nW l at_ k
def pL(b:Form)(c:zo)(d:Int):T (Int×Bool) :=
 M (kv b c) λa=>.W (a.length*8<=140737488351232) (Y (nW a d a.length))
def Qp(c:Int)(b:zo)(d:Int):Int->T (Int⊕(Unit⊕(Int×Bool)))
 | a =>
 U (zA (a<d))
  (oI a b <|
 U ((nth b a (zb .bool))&&(zA (c<a)))
  (Y (zF (zF (a,true))))
  (Y (zG (qj (a+1)))))
  (Y (zF (zG ())))
def Jj at_1 x x1 s:=zJ (Qp at_1 x x1) s
def pM(e:Form)(f:zo)(b:Int):T (Int×Bool) :=
 M (kv e f) λa =>
 M (Jj b a (a.length:Int) 0) <|
 zK (λ_ =>
 Y (b,false))
  (λ(c,d) =>
 Y (c,d))
def Zv(c:Form)(d:zo)(a:Int):T Int :=
 M (kv c d) λb =>
 .W (((zA (0<=a))=true)->(((zA (a<(b.length:Int)))=true)->(xf a b.length))) <|
 U ((zA (0<=a))&&((zA (a<(b.length:Int)))&&(nth b a (zb .bool))))
  (Y a)
  (M (pL c d a) λ(e,f) =>
 U f
  (Y e)
  (M (pM c d a) λ(g,h) =>
 U h
  (Y g)
  (Y 0)))
def iC(j:Form):T ((q9×Int×zq)⊕(q9×Int)) :=
 M (fU j) λ(h,k) =>
 U (h != 0)
  (Y (zF (k,h)))
  (M (Q1 j) λa =>
 M (Ww a) λ(l,b,i,d,c,e,f,g) =>
 U (i != 0)
  (.W (((b.length+1)*16)<=140737488355328) <|
 .W (xf 0 (b.length+1)) <|
 .W (uM (b.length+1) (b.length+1) (0+(zE 0)) (b++([[]]:List q9)).length) <|
 Y (zF ((wm (b++([[]]:List q9)) (0+(zE 0)) (zb .str)),i)))
  (V d <|
 V c <|
 V e <|
 V f <|
 V g <|
 M (Zv a (zH 0 (zI (0+c.length) c)) 0) λm =>
 Y (zG ([],(0,((a.1,(a.2.1,(a.2.2.1,(a.2.2.2.1,(a.2.2.2.2.1,(a.2.2.2.2.2.1,())))))),(((zH 0 (zI (0+d.length) d)),((zH 0 (zI (0+c.length) c)),(l.1,((zH 0 (zI (0+e.length) e)),((zH 0 (zI (0+f.length) f)),((zH 0 (zI (0+g.length) g)),())))))),((([]:List q9),(([]:List q9),())),(m,(false,()))))))))))
def dT(a:Field)(b:q9):T Bool :=
 Y (wP a.1 b)
def cE(b:qu)(d:Field->T Bool)(e:Int):Int->T (Int⊕(Unit⊕Int))
 | a =>
 U (zA (a<e))
  (oI a b <|
 M (d (nth b a (zb qy))) λc =>
 U c
  (Y (zF (zF a)))
  (Y (zG (qj (a+1)))))
  (Y (zF (zG ())))
def oy s1 f x s:=zJ (cE s1 f x) s
def gz(a:qu)(c:Field->T Bool):T Int :=
 M (oy a c (a.length:Int) 0) <|
 zK (λ_ =>
 Y (-1))
  (λb =>
 Y b)
def Zf(c:Form)(d:q9):T Int :=
 M (gz c.2.2.2.1 (λa=>dT a d)) λb =>
 Y b
def bZ(a:Rat):T Bool :=
 M (tU a) λb =>
 U b
  (M (cK a) λc =>
 Y (!c))
  (Y false)
def fx(b:Rat):T Bool :=
 M (bZ b) λa =>
 Y (!a)
def JY(a:qh):T Bool :=
 M (bZ a.2.2.1) λb =>
 U b
  (U a.1
  (Y true)
  (U (!a.2.1)
  (M (iW a.2.2.1) λc =>
 Y c)
  (Y false)))
  (Y false)
def fy(b:qh):T Bool :=
 M (JY b) λa =>
 Y (!a)
def bM(b:zn)(d:qh->T Bool)(e:Int):Int->T (Int⊕(Unit⊕Int))
 | a =>
 U (zA (a<e))
  (oI a b <|
 M (d (nth b a (zb zk))) λc =>
 U c
  (Y (zF (zF a)))
  (Y (zG (qj (a+1)))))
  (Y (zF (zG ())))
def mB s1 f x s:=zJ (bM s1 f x) s
def yr(a:zn)(c:qh->T Bool):T Int :=
 M (mB a c (a.length:Int) 0) <|
 zK (λ_ =>
 Y (-1))
  (λb =>
 Y b)
def uF(b:zn)(c:qh->T Bool):T Bool :=
 M (yr b c) λa =>
 Y (zA (0<=a))
def Wp(h:zp)(b:wD)(i:Int):(Int×Rat×Rat)->T ((Int×Rat×Rat)⊕((Rat×Rat)))
 | (a,c,d) =>
 U (zA (a<i))
  (oI a b <|
 M (lP h (nth b a (zb qq)).1) λe =>
 M (pn ((nth b a (zb qq)).2.1.1,((nth b a (zb qq)).2.1.2.1,((nth b a (zb qq)).2.1.2.2.1,()))) e) λf =>
 M (pj d f) λg =>
 Y (zG ((qj (a+1)),(c,g))))
  (Y (zF (c,d)))
def JP val1 x x1 s:=zJ (Wp val1 x x1) s
def CU(a:vR)(d:zp):T Rat :=
 M (vN a.2.2.1) λb =>
 M (JP d a.2.1 (a.2.1.length:Int) (0,((false,(([]:List Int),(([]:List Int),()))),b))) λ(e,c) =>
 Y c
def tf(c:vR)(d:zp):T Bool :=
 M (CU c d) λa =>
 M (iW a) λb =>
 Y b
def yj(f:wD)(l:Int):(Int×Int×Int×(qc×Unit)×z7×z7)->T ((Int×Int×Int×(qc×Unit)×z7×z7)⊕((Int×(qc×Unit)×z7×z7)))
 | (i,j,a,k,d,e) =>
 U (zA (a<l))
  (oI a f <|
 oC d <|
 oC e <|
 V d <|
 V e <|
 M (jP (nth f a (zb qq)).1 (k.1,()) d e) λ(g,h,b,c) =>
 .W (wfI (nth f a (zb qq)).1) <|
 U ((!false)&&(zA (j<g)))
  (oC b <|
 oC c <|
 V b <|
 V c <|
 Y (zG ((nth f a (zb qq)).1,(g,((qj (a+1)),((h.1,()),(b,c)))))))
  (oC b <|
 oC c <|
 V b <|
 V c <|
 Y (zG (i,(j,((qj (a+1)),((h.1,()),(b,c))))))))
  (oC d <|
 oC e <|
 V d <|
 V e <|
 Y (zF (i,((k.1,()),(d,e)))))
def cV x x1 s:=zJ (yj x x1) s
def gZ(b:Int)(a:(qc×Unit))(e:z7)(f:z7):T (Int×(qc×Unit)×z7×z7) :=
 oI b a.1 <|
 oI b a.1 <|
 oC e <|
 oC f <|
 V e <|
 V f <|
 M (cV (nth a.1 b (zb zw)).2.1 (zN (zO (nth a.1 b (zb zw)).2.1):Int) ((-1),((nth a.1 b (zb zw)).1,(0,((a.1,()),(e,f)))))) λ(g,h,c,d) =>
 oC c <|
 oC d <|
 V c <|
 V d <|
 Y (g,((h.1,()),(c,d)))
def mJ(d:qc)(i:z7)(j:Int)(b:Int):T Bool :=
 M (bz d i j) <|
 zK (λ(e,f,a,c) =>
 U e
  (U (zA (0<=b))
  (U (zA (b<(d.length:Int)))
  (oI b a <|
 .W (uM a.length a.length (0+(zE b)) a.length) <|
 U ((wm a (0+(zE b)) (zb (.int .i64)))==(-1))
  (oC a <|
 oC c <|
 V a <|
 V c <|
 M (gZ b (f.1,()) a c) λ(g,k,l,m) =>
 Y (g==(-1)))
  (Y false))
  (Y false))
  (Y false))
  (Y false))
  (λh =>
 U h
  (U (zA (0<=b))
  (U (zA (b<(d.length:Int)))
  (.fail)
  (Y false))
  (Y false))
  (Y false))
def bj(g:Int)(m:zp)(j:(qf×qm×xg×qu×xb×qv×Unit))(a:qc)(b:z7)(e:z7):T (Bool×(qf×qm×xg×qu×xb×qv×Unit)×qc×z7×z7) :=
 let k:=(j.1,(j.2.1,(j.2.2.1,(j.2.2.2.1,(j.2.2.2.2.1,(j.2.2.2.2.2.1,())))))); let h:=wm a (0+(zE g)) (zb zw);  oI g a <|
 .W (uM a.length a.length (0+(zE g)) a.length) <|
 oI g b <|
 .W (uM b.length b.length (0+(zE g)) b.length) <|
 U ((wm b (0+(zE g)) (zb (.int .i64))) != (-1))
  (M (tf h m) λo =>
 oC a <|
 oC b <|
 oC e <|
 V a <|
 V b <|
 V e <|
 Y (o,(k,(a,(b,e)))))
  (M (U ((h.2.1.length:Int)==0)
  (M (iW (h.2.2.1.1,(h.2.2.1.2.1,(h.2.2.1.2.2.1,())))) λp =>
 oC a <|
 oC b <|
 oC e <|
 V a <|
 V b <|
 V e <|
 Y (p,(k,(a,(b,(e,h))))))
  (oC a <|
 oC b <|
 oC e <|
 V a <|
 V b <|
 V e <|
 Y (false,(k,(a,(b,(e,h)))))):T ((Bool×(qf×qm×xg×qu×xb×qv×Unit)×qc×z7×z7×vR))) λ(q,i,c,d,f,r)=>let n:=mJ (zH 0 (zI (0+c.length) c)) (zH 0 (zI (0+d.length) d)) (m.length:Int) g; let l:=((i.1,(i.2.1,(i.2.2.1,(i.2.2.2.1,(i.2.2.2.2.1,(i.2.2.2.2.2.1,())))))),(c,(d,f)));
 U (r.1 != 0)
  (V c <|
 V d <|
 M n λs =>
 oC c <|
 oC d <|
 oC f <|
 V c <|
 V d <|
 V f <|
 Y (s,l))
  (U q
  (V c <|
 V d <|
 M n λt =>
 oC c <|
 oC d <|
 oC f <|
 V c <|
 V d <|
 V f <|
 Y (t,l))
  (oC c <|
 oC d <|
 oC f <|
 V c <|
 V d <|
 V f <|
 Y (false,l))))
def JW(p:zt)(k:z7)(o:Int):(Int×(qf×qm×xg×qu×xb×qv×Unit)×qc×z7×z7)->T ((Int×(qf×qm×xg×qu×xb×qv×Unit)×qc×z7×z7)⊕(((qf×qm×xg×qu×xb×qv×Unit)×qc×z7×z7)⊕(Bool×(qf×qm×xg×qu×xb×qv×Unit)×qc×z7×z7)))
 | (i,e,b,c,a)=>let j:=((e.1,(e.2.1,(e.2.2.1,(e.2.2.2.1,(e.2.2.2.2.1,(e.2.2.2.2.2.1,())))))),(b,(c,a)));
 U (zA (i<o))
  (oI i k <|
 M (U ((nth k i (zb (.int .i64))) != (-1))
  (V a <|
 M (ju (zH 0 (zI (0+a.length) a)) i) λm =>
 oC b <|
 oC c <|
 oC a <|
 V b <|
 V c <|
 V a <|
 Y ((!m),j))
  (oC b <|
 oC c <|
 oC a <|
 V b <|
 V c <|
 V a <|
 Y (false,j)):T ((Bool×(qf×qm×xg×qu×xb×qv×Unit)×qc×z7×z7))) λ(n,d,f,g,h)=>let l:=((d.1,(d.2.1,(d.2.2.1,(d.2.2.2.1,(d.2.2.2.2.1,(d.2.2.2.2.2.1,())))))),(f,(g,h)));
 U n
  (oC f <|
 oC g <|
 oC h <|
 V f <|
 V g <|
 V h <|
 Y (zF (zF (false,l))))
  (oC f <|
 oC g <|
 oC h <|
 V f <|
 V g <|
 V h <|
 Y (zG ((qj (i+1)),l))))
  (oC b <|
 oC c <|
 oC a <|
 V b <|
 V c <|
 V a <|
 Y (zF (zG j)))
def BI d1 x x1 s:=zJ (JW d1 x x1) s
def JX(m:zt)(n:Int):(Int×(qf×qm×xg×qu×xb×qv×Unit)×qc×z7×z7)->T ((Int×(qf×qm×xg×qu×xb×qv×Unit)×qc×z7×z7)⊕(((qf×qm×xg×qu×xb×qv×Unit)×qc×z7×z7)⊕(Bool×(qf×qm×xg×qu×xb×qv×Unit)×qc×z7×z7)))
 | (i,b,c,d,e)=>let j:=(b.1,(b.2.1,(b.2.2.1,(b.2.2.2.1,(b.2.2.2.2.1,(b.2.2.2.2.2.1,()))))));
 U (zA (i<n))
  (oC c <|
 oC d <|
 oC e <|
 V c <|
 V d <|
 V e <|
 M (bj i m.2.2.1 j c d e) λ(l,a,f,g,h)=>let k:=((a.1,(a.2.1,(a.2.2.1,(a.2.2.2.1,(a.2.2.2.2.1,(a.2.2.2.2.2.1,())))))),(f,(g,h)));
 U (!l)
  (oC f <|
 oC g <|
 oC h <|
 V f <|
 V g <|
 V h <|
 Y (zF (zF (false,k))))
  (oC f <|
 oC g <|
 oC h <|
 V f <|
 V g <|
 V h <|
 Y (zG ((qj (i+1)),k))))
  (oC c <|
 oC d <|
 oC e <|
 V c <|
 V d <|
 V e <|
 Y (zF (zG (j,(c,(d,e))))))
def BJ d2 x5 s:=zJ (JX d2 x5) s
def Xm(t:Form)(a:zt):T Bool :=
 M (dt t a) <|
 zK (λ(k,d,g,h,i) =>
 U (k != 0)
  (Y false)
  (M (vD a.2.2.1 (λb=>fx b)) λl =>
 U l
  (Y false)
  (M (uF a.2.2.2.2.1 (λb=>fy b)) λm =>
 U m
  (Y false)
  (oC g <|
 oC h <|
 oC i <|
 V g <|
 V h <|
 V i <|
 M (BI a a.2.2.2.1 (a.2.2.2.1.length:Int) (0,((d.1,(d.2.1,(d.2.2.1,(d.2.2.2.1,(d.2.2.2.2.1,(d.2.2.2.2.2.1,())))))),(g,(h,i))))) <|
 zK (λ(e,c,f,j) =>
 V c <|
 V f <|
 M (Zc (zH 0 (zI (0+c.length) c)) (zH 0 (zI (0+f.length) f)) (a.2.2.1.length:Int)) λn =>
 U (!n)
  (Y false)
  (oC c <|
 oC f <|
 oC j <|
 V c <|
 V f <|
 V j <|
 M (BJ a (c.length:Int) (0,((e.1,(e.2.1,(e.2.2.1,(e.2.2.2.1,(e.2.2.2.2.1,(e.2.2.2.2.2.1,())))))),(c,(f,j))))) <|
 zK (λ(u,v,w,x) =>
 Y true)
  (λ(o,y,z,A,B) =>
 Y o)))
  (λ(p,C,D,κ',G) =>
 Y p)))))
  (λ(H,q) =>
 U (q != 0)
  (Y false)
  (M (vD a.2.2.1 (λb=>fx b)) λr =>
 U r
  (Y false)
  (M (uF a.2.2.2.2.1 (λb=>fy b)) λs =>
 U s
  (Y false)
  (.fail))))
def UC(s:Form)(h:zt)(t:q9)(x:Rat):T (zt×zr×Int) :=
 M (Zf s t) λf =>
 M (Xm s h) λy =>
 U (!y)
  (Y ((([]:List Rat),(([]:List Bool),(([]:List Rat),(([]:List Int),(([]:List qh),(([]:List Bool),())))))),([],1)))
  (U (zA (f<0))
  (Y ((([]:List Rat),(([]:List Bool),(([]:List Rat),(([]:List Int),(([]:List qh),(([]:List Bool),())))))),([],5)))
  (M (bZ x) λz =>
 U (!z)
  (Y ((([]:List Rat),(([]:List Bool),(([]:List Rat),(([]:List Int),(([]:List qh),(([]:List Bool),())))))),([t],8)))
  (M (dt s h) <|
 zK (λ(g,d,i,j,k) =>
 U (g != 0)
  (Y ((([]:List Rat),(([]:List Bool),(([]:List Rat),(([]:List Int),(([]:List qh),(([]:List Bool),())))))),([],g)))
  (oC i <|
 oC j <|
 oC k <|
 V i <|
 V j <|
 V k <|
 M (kT f x (-1) (d.1,(d.2.1,(d.2.2.1,(d.2.2.2.1,(d.2.2.2.2.1,(d.2.2.2.2.2.1,())))))) i j k) λ(e,l,m,n) =>
 V l <|
 V m <|
 V n <|
 M (jY h.2.2.1 ((e.1,(e.2.1,(e.2.2.1,(e.2.2.2.1,(e.2.2.2.2.1,(e.2.2.2.2.2.1,())))))),((zH 0 (zI (0+l.length) l)),((zH 0 (zI (0+m.length) m)),((zH 0 (zI (0+n.length) n)),()))))) λ(A,B,u,a)=>let b:=qj ((a.2.1.length:Int)-1);
 U (u != 0)
  (Y ((([]:List Rat),(([]:List Bool),(([]:List Rat),(([]:List Int),(([]:List qh),(([]:List Bool),())))))),(B,u)))
  (oI b a.2.2.1 <|
 U ((nth a.2.2.1 b (zb (.int .i64)))==(-1:Int))
  (Y ((([]:List Rat),(([]:List Bool),(([]:List Rat),(([]:List Int),(([]:List qh),(([]:List Bool),())))))),([t],11)))
  (.W (jf 0 b a.2.1.length) <|
 .W (jf 0 b a.2.2.1.length) <|
 .W (jf 0 b a.2.2.2.1.length) <|
 M (jY A ((a.1.1,(a.1.2.1,(a.1.2.2.1,(a.1.2.2.2.1,(a.1.2.2.2.2.1,(a.1.2.2.2.2.2.1,())))))),((uI (e:=zw) 0 b a.2.1),((uI (e:=(.int .i64)) 0 b a.2.2.1),((uI (e:=(.int .i64)) 0 b a.2.2.2.1),()))))) λ(C,D,v,κ') =>
 U (v != 0)
  (Y ((([]:List Rat),(([]:List Bool),(([]:List Rat),(([]:List Int),(([]:List qh),(([]:List Bool),())))))),(D,v)))
  (M (gK h C κ') λ(G,hb,o,p,q,r,c) =>
 oI f c <|
 .W (uM c.length c.length (0+(zE f)) c.length) <|
 V o <|
 V p <|
 V q <|
 V r <|
 V c <|
 Y (((zH 0 (zI (0+o.length) o)),((zH 0 (zI (0+p.length) p)),(G.1,((zH 0 (zI (0+q.length) q)),((zH 0 (zI (0+r.length) r)),((zH 0 (zI (0+c.length) (zL c (0+(zE f)) true))),())))))),([],0)))))))
  (λ(H,w) =>
 U (w != 0)
  (Y ((([]:List Rat),(([]:List Bool),(([]:List Rat),(([]:List Int),(([]:List qh),(([]:List Bool),())))))),(H,w)))
  (.fail)))))
def Zg(e:Rat->T q9)(d:zp)(f:Int):(q9×Int)->T ((q9×Int)⊕q9)
 | (c,a) =>
 U (zA (a<f))
  (oI a d <|
 M (e (nth d a (zb zm))) λb =>
 oK [32] b <|
 oK c (cat [32] b) <|
 Y (zG ((cat c (cat [32] b)),(qj (a+1)))))
  (Y (zF c))
def JZ text x x1 s:=zJ (Zg text x x1) s
def mP(c:q9)(b:zp)(d:Rat->T q9):T q9 :=
 M (JZ d b (b.length:Int) (c,0)) λa =>
 oK a [10] <|
 Y (cat a [10])
def fB(a:Bool):T q9 :=
 U a
  (Y [49])
  (Y [48])
def tc(e:Bool->T q9)(d:zo)(f:Int):(q9×Int)->T ((q9×Int)⊕q9)
 | (c,a) =>
 U (zA (a<f))
  (oI a d <|
 M (e (nth d a (zb .bool))) λb =>
 oK [32] b <|
 oK c (cat [32] b) <|
 Y (zG ((cat c (cat [32] b)),(qj (a+1)))))
  (Y (zF c))
def UH text x x1 s:=zJ (tc text x x1) s
def ir(c:q9)(b:zo)(d:Bool->T q9):T q9 :=
 M (UH d b (b.length:Int) (c,0)) λa =>
 oK a [10] <|
 Y (cat a [10])
def mc(a:Int):T q9 :=
 U (zA (a<0))
  (Y [45])
  (M (strconv_Itoa a) λb =>
 Y b)
def Zh(e:Int->T q9)(d:z7)(f:Int):(q9×Int)->T ((q9×Int)⊕q9)
 | (c,a) =>
 U (zA (a<f))
  (oI a d <|
 M (e (nth d a (zb (.int .i64)))) λb =>
 oK [32] b <|
 oK c (cat [32] b) <|
 Y (zG ((cat c (cat [32] b)),(qj (a+1)))))
  (Y (zF c))
def K0 text x x1 s:=zJ (Zh text x x1) s
def tQ(c:q9)(b:z7)(d:Int->T q9):T q9 :=
 M (K0 d b (b.length:Int) (c,0)) λa =>
 oK a [10] <|
 Y (cat a [10])
def me(a:qh):T q9 :=
 U (!a.1)
  (Y [45])
  (U a.2.1
  (M (gE a.2.2.1) λb =>
 oK b [33] <|
 Y (cat b [33]))
  (M (gE a.2.2.1) λc =>
 Y c))
def nk(e:qh->T q9)(d:zn)(f:Int):(q9×Int)->T ((q9×Int)⊕q9)
 | (c,a) =>
 U (zA (a<f))
  (oI a d <|
 M (e (nth d a (zb zk))) λb =>
 oK [32] b <|
 oK c (cat [32] b) <|
 Y (zG ((cat c (cat [32] b)),(qj (a+1)))))
  (Y (zF c))
def Xq text x x1 s:=zJ (nk text x x1) s
def iu(c:q9)(b:zn)(d:qh->T q9):T q9 :=
 M (Xq d b (b.length:Int) (c,0)) λa =>
 oK a [10] <|
 Y (cat a [10])
def fA(b:zt):T q9 :=
 M (mP [112,97,114,97,109,115] b.1 (λa=>gE a)) λc =>
 M (ir [111,110] b.2.1 (λa=>fB a)) λd =>
 oK c d <|
 M (mP [118,97,108,115] b.2.2.1 (λa=>gE a)) λg =>
 oK (cat c d) g <|
 M (tQ [111,117,116,115] b.2.2.2.1 (λa=>mc a)) λi=>let f:=cat (cat (cat c d) g) i;
 oK (cat (cat c d) g) i <|
 M (iu [112,105,110,115] b.2.2.2.2.1 (λa=>me a)) λe =>
 oK f e <|
 M (ir [102,105,108,108,101,100] b.2.2.2.2.2.1 (λa=>fB a)) λh =>
 oK (cat f e) h <|
 oK (cat (cat f e) h) [101,110,100,10] <|
 Y (cat (cat (cat f e) h) [101,110,100,10])
def wV(a:zr):T zr :=
 .W (a=[]->∀ r,T.leads (.W (vV 0 0 0 0 0 a.length 16) <|
 .W (zu (0+a.length) 0 (0+a.length) a.length) <|
 .W ((0+a.length)=a.length) <|
 Y a:T _) r->T.leads (.W (zu 0 0 0 0) <|
 .W (0=0) <|
 Y []:T _) r) <|
 .W (vV 0 0 0 0 0 a.length 16) <|
 oM (0+a.length) a.length <|
 Y a
def Wz(d:vC)(e:q9):T vC :=
 M (wV d.1) λc=>let a:=c.length+1; let b:=dZ 0 (qj ((zN a:Int)-32));
 oA c 16 <|
 .W (jf b (zN a:Int) a) <|
 .W (a=a) <|
 Y ((zH (0+(zE b)) (zI ((0+(zE b))+((zE (zN a:Int))-(zE b))) (c++[e]))),(([]:List q9),()))
def vB(b:zt)(h:zr)(d:Int)(a:zq):T (Answer×zq) :=
 let e:=(a.1.1,(a.1.2.1,(a.1.2.2.1,(a.1.2.2.2.1,(a.1.2.2.2.2.1,(a.1.2.2.2.2.2.1,()))))));  U (d != 0)
  (Y ((d,(h,([],()))),a))
  (M (fA (a.2.1.1,(a.2.1.2.1,(a.2.1.2.2.1,(a.2.1.2.2.2.1,(a.2.1.2.2.2.2.1,(a.2.1.2.2.2.2.2.1,()))))))) λf =>
 M (Wz (a.2.2.1.1,(a.2.2.1.2.1,())) f) λc =>
 M (Zv e b.2.1 a.2.2.2.1) λg =>
 Y (((0:Int),(([]:List q9),([],()))),(e,((b.1,(b.2.1,(b.2.2.1,(b.2.2.2.1,(b.2.2.2.2.1,(b.2.2.2.2.2.1,())))))),((c.1,(c.2.1,())),(g,(a.2.2.2.2.1,())))))))
def ZX(w:Form)(c:zt)(C:q9)(i:Bool):T (zt×zr×Int) :=
 M (Zf w C) λa =>
 M (Xm w c) λy =>
 U (!y)
  (Y ((([]:List Rat),(([]:List Bool),(([]:List Rat),(([]:List Int),(([]:List qh),(([]:List Bool),())))))),([],1)))
  (U (zA (a<0))
  (Y ((([]:List Rat),(([]:List Bool),(([]:List Rat),(([]:List Int),(([]:List qh),(([]:List Bool),())))))),([],5)))
  (.W ((i=true)->(xf a c.2.2.2.2.1.length)) <|
 U (i&&(nth c.2.2.2.2.1 a (zb zk)).1)
  (Y ((([]:List Rat),(([]:List Bool),(([]:List Rat),(([]:List Int),(([]:List qh),(([]:List Bool),())))))),([],1)))
  (.W (((!i)=true)->(xf a c.2.2.2.2.1.length)) <|
 U ((!i)&&(!(nth c.2.2.2.2.1 a (zb zk)).1))
  (Y ((([]:List Rat),(([]:List Bool),(([]:List Rat),(([]:List Int),(([]:List qh),(([]:List Bool),())))))),([],12)))
  (M (lZ c) λ(D,d,e,f,g,b,h) =>
 M (gm 0) λk=>let j:=zL b (0+(zE a)) (false,(false,((k.1,(k.2.1,(k.2.2.1,()))),()))); let x:=zL j (0+(zE a)) (true,(false,(((nth c.2.2.1 a (zb zm)).1,((nth c.2.2.1 a (zb zm)).2.1,((nth c.2.2.1 a (zb zm)).2.2.1,()))),())));
 oI a b <|
 .W (uM b.length b.length (0+(zE a)) b.length) <|
 M (U i
  (oI a c.2.2.1 <|
 oI a b <|
 .W (uM b.length b.length (0+(zE a)) j.length) <|
 V d <|
 V e <|
 V f <|
 V g <|
 .W (b.length=x.length) <|
 V h <|
 oC d <|
 oC e <|
 oC f <|
 oC g <|
 .W (zu b.length 0 b.length x.length) <|
 oC h <|
 Y ((([]:List Rat),(([]:List Bool),(([]:List Rat),(([]:List Int),(([]:List qh),(([]:List Bool),())))))),(d,(e,(f,(g,(x,(h,()))))))))
  (V d <|
 V e <|
 V f <|
 V g <|
 .W (b.length=j.length) <|
 V h <|
 oC d <|
 oC e <|
 oC f <|
 oC g <|
 .W (zu b.length 0 b.length j.length) <|
 oC h <|
 Y ((([]:List Rat),(([]:List Bool),(([]:List Rat),(([]:List Int),(([]:List qh),(([]:List Bool),())))))),(d,(e,(f,(g,(j,(h,())))))))):T ((zt×zp×zo×zp×z7×zn×zo×Unit))) λ(κ',l,m,n,o,p,q,G) =>
 oW l m n o p q <|
 M (dU w ((zH 0 (zI (0+l.length) l)),((zH 0 (zI (0+m.length) m)),((zH 0 (zI (0+n.length) n)),((zH 0 (zI (0+o.length) o)),((zH 0 (zI (0+p.length) p)),((zH 0 (zI (0+q.length) q)),()))))))) λ(z,A,B,r,s,t,u,v) =>
 V r <|
 V s <|
 V t <|
 V u <|
 V v <|
 Y (((zH 0 (zI (0+r.length) r)),((zH 0 (zI (0+s.length) s)),(z.1,((zH 0 (zI (0+t.length) t)),((zH 0 (zI (0+u.length) u)),((zH 0 (zI (0+v.length) v)),())))))),(A,B))))))
def gF(a:Param)(b:q9):T Bool :=
 Y (wP a.1 b)
def ma(k:Int):(Int×z7×(zp×zo×zp×zn×zo×Unit)×qc×z7×Unit×(qf×qm×xg×qu×xb×qv×Unit)×z7)->T ((Int×z7×(zp×zo×zp×zn×zo×Unit)×qc×z7×Unit×(qf×qm×xg×qu×xb×qv×Unit)×z7)⊕((z7×(zp×zo×zp×zn×zo×Unit)×qc×z7×Unit×(qf×qm×xg×qu×xb×qv×Unit)×z7)))
 | (g,b,c,e,a,l,f,d)=>let j:=(f.1,(f.2.1,(f.2.2.1,(f.2.2.2.1,(f.2.2.2.2.1,(f.2.2.2.2.2.1,())))))); let h:=wm a (0+(zE g)) (zb (.int .i64)); let i:=d++([(wm b (0+(zE h)) (zb (.int .i64)))]:List Int);
 U (zA (g<k))
  (oI g a <|
 .W (uM a.length a.length (0+(zE g)) a.length) <|
 oI h b <|
 .W (uM b.length b.length (0+(zE h)) b.length) <|
 oA d 8 <|
 oC a <|
 V b <|
 oC b <|
 V e <|
 V a <|
 oC e <|
 .W (zu (d.length+1) 0 (d.length+1) i.length) <|
 oC a <|
 .W ((d.length+1)=i.length) <|
 Y (zG ((qj (g+1)),(b,((c.1,(c.2.1,(c.2.2.1,(c.2.2.2.1,(c.2.2.2.2.1,()))))),(e,(a,((),(j,i)))))))))
  (V b <|
 oC b <|
 V e <|
 V a <|
 oC e <|
 oC d <|
 oC a <|
 V d <|
 Y (zF (b,((c.1,(c.2.1,(c.2.2.1,(c.2.2.2.1,(c.2.2.2.2.1,()))))),(e,(a,((),(j,d))))))))
def Zd x s:=zJ (ma x) s
def mb(m:zn)(p:Int):(Int×z7×(zp×zo×zp×zn×zo×Unit)×qc×z7×Unit×(qf×qm×xg×qu×xb×qv×Unit)×z7)->T ((Int×z7×(zp×zo×zp×zn×zo×Unit)×qc×z7×Unit×(qf×qm×xg×qu×xb×qv×Unit)×z7)⊕((z7×(zp×zo×zp×zn×zo×Unit)×qc×z7×Unit×(qf×qm×xg×qu×xb×qv×Unit)×z7)))
 | (f,b,a,c,d,q,h,e)=>let n:=(h.1,(h.2.1,(h.2.2.1,(h.2.2.2.1,(h.2.2.2.2.1,(h.2.2.2.2.2.1,())))))); let i:=nth m f (zb zk); let o:=(b,((a.1,(a.2.1,(a.2.2.1,(a.2.2.2.1,(a.2.2.2.2.1,()))))),(c,(d,((),(n,e))))));
 U (zA (f<p))
  (oI f m <|
 U (!i.1)
  (V b <|
 oC b <|
 V c <|
 V d <|
 oC c <|
 oC e <|
 oC d <|
 V e <|
 Y (zG ((qj (f+1)),o)))
  (oC c <|
 oC e <|
 oC d <|
 V c <|
 V e <|
 V d <|
 M (kT f (i.2.2.1.1,(i.2.2.1.2.1,(i.2.2.1.2.2.1,()))) (bif i.2.1 then f else(-1)) n c e d) λ(g,j,k,l) =>
 V b <|
 oC b <|
 V j <|
 V l <|
 oC j <|
 oC k <|
 oC l <|
 V k <|
 Y (zG ((qj (f+1)),(b,((a.1,(a.2.1,(a.2.2.1,(a.2.2.2.1,(a.2.2.2.2.1,()))))),(j,(l,((),((g.1,(g.2.1,(g.2.2.1,(g.2.2.2.1,(g.2.2.2.2.1,(g.2.2.2.2.2.1,())))))),k))))))))))
  (V b <|
 oC b <|
 V c <|
 V d <|
 oC c <|
 oC e <|
 oC d <|
 V e <|
 Y (zF o))
def Ze x2 x3 s:=zJ (mb x2 x3) s
def eJ(c:Form)(a:(zp×zo×zp×zn×zo×Unit))(b:z7):T ((Int×z7×(qf×qm×xg×qu×xb×qv×Unit)×qc×z7×z7)⊕(zr×Int×z7)) :=
 V b <|
 M (Xp c (a.1,(a.2.1,(a.2.2.1,((zH 0 (zI (0+b.length) b)),(a.2.2.2.1,(a.2.2.2.2.1,()))))))) λs =>
 U (!s)
  (V b <|
 Y (zF ([],(1,b))))
  (M (nn c a.1 a.2.1) λ(t,q,h,i,g) =>
 U ((h != 0)&&(!(wP q [])))
  (V b <|
 Y (zF ([q],(h,b))))
  (U (h != 0)
  (V b <|
 Y (zF ([],(h,b))))
  (oC g <|
 V b <|
 oC b <|
 V i <|
 V g <|
 oC i <|
 .W (zu 0 0 0 0) <|
 oC g <|
 .W (0=0) <|
 M (Zd (g.length:Int) (0,(b,((a.1,(a.2.1,(a.2.2.1,(a.2.2.2.1,(a.2.2.2.2.1,()))))),(i,(g,((),((c.1,(c.2.1,(c.2.2.1,(c.2.2.2.1,(c.2.2.2.2.1,(c.2.2.2.2.2.1,())))))),[])))))))) λ(j,d,k,l,u,e,m) =>
 V j <|
 oC j <|
 V k <|
 V l <|
 oC k <|
 oC m <|
 oC l <|
 V m <|
 M (Ze d.2.2.2.1 (d.2.2.2.1.length:Int) (0,(j,((d.1,(d.2.1,(d.2.2.1,(d.2.2.2.1,(d.2.2.2.2.1,()))))),(k,(l,((),((e.1,(e.2.1,(e.2.2.1,(e.2.2.2.1,(e.2.2.2.2.1,(e.2.2.2.2.2.1,())))))),m)))))))) λ(r,v,n,o,w,f,p) =>
 V r <|
 oC n <|
 oC p <|
 oC o <|
 V n <|
 V p <|
 V o <|
 Y (zG (0,(r,((f.1,(f.2.1,(f.2.2.1,(f.2.2.2.1,(f.2.2.2.2.1,(f.2.2.2.2.2.1,())))))),(n,(p,o)))))))))
def gy(b:z7)(c:z7)(d:Int):Int->T (Int⊕(Unit⊕Bool))
 | a =>
 U (zA (a<d))
  (oI a b <|
 oI a c <|
 U ((nth b a (zb (.int .u32))) != (nth c a (zb (.int .u32))))
  (Y (zF (zF false)))
  (Y (zG (qj (a+1)))))
  (Y (zF (zG ())))
def eA s11 s21 x s:=zJ (gy s11 s21 x) s
def jx(a:z7)(b:z7):T Bool :=
 U ((a.length:Int) != (b.length:Int))
  (Y false)
  (M (eA a b (a.length:Int) 0) <|
 zK (λ_ =>
 Y true)
  (λc =>
 Y c))
def XU(e:Rat)(f:Rat):T Bool :=
 M (vN e) λa =>
 M (vN f) λb =>
 U (a.1==b.1)
  (M (jx a.2.1 b.2.1) λc =>
 U c
  (M (jx a.2.2.1 b.2.2.1) λd =>
 Y d)
  (Y false))
  (Y false)
def nf(a:Term)(b:Term):T Bool :=
 U (a.1==b.1)
  (M (XU a.2.1 b.2.1) λc =>
 Y c)
  (Y false)
def j3(b:wD)(e:Term->Term->T Bool)(c:wD)(f:Int):Int->T (Int⊕(Unit⊕Bool))
 | a =>
 U (zA (a<f))
  (oI a c <|
 oI a b <|
 M (e (nth c a (zb qq)) (nth b a (zb qq))) λd =>
 U (!d)
  (Y (zF (zF false)))
  (Y (zG (qj (a+1)))))
  (Y (zF (zG ())))
def yB s21 eq x x1 s:=zJ (j3 s21 eq x x1) s
def jv(a:wD)(b:wD)(d:Term->Term->T Bool):T Bool :=
 U ((a.length:Int) != (b.length:Int))
  (Y false)
  (M (yB b d a (a.length:Int) 0) <|
 zK (λ_ =>
 Y true)
  (λc =>
 Y c))
def Us(a:vR)(b:vR):T Bool :=
 U (a.1==b.1)
  (M (XU a.2.2.1 b.2.2.1) λc =>
 U c
  (M (jv a.2.1 b.2.1 (λz0 z1=>nf z0 z1)) λd =>
 Y d)
  (Y false))
  (Y false)
def o9(G:Form)(κ':Int):(Int×z7×(zp×zo×zp×zn×zo×Unit)×zt×(qf×qm×xg×qu×xb×qv×Unit)×qc×z7×z7×(qf×qm×xg×qu×xb×qv×Unit)×qc×z7×z7)->T ((Int×z7×(zp×zo×zp×zn×zo×Unit)×zt×(qf×qm×xg×qu×xb×qv×Unit)×qc×z7×z7×(qf×qm×xg×qu×xb×qv×Unit)×qc×z7×z7)⊕((z7×(zp×zo×zp×zn×zo×Unit)×zt×(qf×qm×xg×qu×xb×qv×Unit)×qc×z7×z7×(qf×qm×xg×qu×xb×qv×Unit)×qc×z7×z7)))
 | (i,f,u,D,l,a,g,c,m,b,h,d)=>let x:=(f,((u.1,(u.2.1,(u.2.2.1,(u.2.2.2.1,(u.2.2.2.2.1,()))))),(D,((l.1,(l.2.1,(l.2.2.1,(l.2.2.2.1,(l.2.2.2.2.1,(l.2.2.2.2.2.1,())))))),(a,(g,(c,((m.1,(m.2.1,(m.2.2.1,(m.2.2.2.1,(m.2.2.2.2.1,(m.2.2.2.2.2.1,())))))),(b,(h,d))))))))));
 U (zA (i<κ'))
  (V c <|
 M (uP (zH 0 (zI (0+c.length) c)) i) λv =>
 V d <|
 M (uP (zH 0 (zI (0+d.length) d)) i) λw =>
 M (U (zA (v<0))
  (V f <|
 oC f <|
 oC a <|
 oC g <|
 oC c <|
 V a <|
 V g <|
 V c <|
 oC b <|
 oC h <|
 oC d <|
 V b <|
 V h <|
 V d <|
 Y (true,x))
  (U (zA (w<0))
  (V f <|
 oC f <|
 oC a <|
 oC g <|
 oC c <|
 V a <|
 V g <|
 V c <|
 oC b <|
 oC h <|
 oC d <|
 V b <|
 V h <|
 V d <|
 Y (true,x))
  (oI v a <|
 .W (uM a.length a.length (0+(zE v)) a.length) <|
 oI w b <|
 .W (uM b.length b.length (0+(zE w)) b.length) <|
 M (Us (wm a (0+(zE v)) (zb zw)) (wm b (0+(zE w)) (zb zw))) λA =>
 V f <|
 oC f <|
 oC a <|
 oC g <|
 oC c <|
 V a <|
 V g <|
 V c <|
 oC b <|
 oC h <|
 oC d <|
 V b <|
 V h <|
 V d <|
 Y ((!A),x))):T ((Bool×z7×(zp×zo×zp×zn×zo×Unit)×zt×(qf×qm×xg×qu×xb×qv×Unit)×qc×z7×z7×(qf×qm×xg×qu×xb×qv×Unit)×qc×z7×z7))) λ(B,e,n,C,j,o,p,q,k,r,s,t)=>let y:=zL e (0+(zE i)) (-1); let z:=((n.1,(n.2.1,(n.2.2.1,(n.2.2.2.1,(n.2.2.2.2.1,()))))),(C,((j.1,(j.2.1,(j.2.2.1,(j.2.2.2.1,(j.2.2.2.2.1,(j.2.2.2.2.2.1,())))))),(o,(p,(q,((k.1,(k.2.1,(k.2.2.1,(k.2.2.2.1,(k.2.2.2.2.1,(k.2.2.2.2.2.1,())))))),(r,(s,t)))))))));
 U B
  (oI i e <|
 .W (uM e.length e.length (0+(zE i)) e.length) <|
 .W (e.length=y.length) <|
 .W (zu e.length 0 e.length y.length) <|
 oC o <|
 oC p <|
 oC q <|
 V o <|
 V p <|
 V q <|
 oC r <|
 oC s <|
 oC t <|
 V r <|
 V s <|
 V t <|
 Y (zG ((qj (i+1)),(y,z))))
  (V e <|
 oC e <|
 oC o <|
 oC p <|
 oC q <|
 V o <|
 V p <|
 V q <|
 oC r <|
 oC s <|
 oC t <|
 V r <|
 V s <|
 V t <|
 Y (zG ((qj (i+1)),(e,z)))))
  (V f <|
 oC f <|
 oC a <|
 oC g <|
 oC c <|
 V a <|
 V g <|
 V c <|
 oC b <|
 oC h <|
 oC d <|
 V b <|
 V h <|
 V d <|
 Y (zF x))
def QR f1 x1 s:=zJ (o9 f1 x1) s
end Go.AM.Lf
