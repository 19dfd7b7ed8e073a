/-
  The program's functions as trees in plain Lean, part 0: printed by a program of ours.
-/
import Derived.Test.YthhgaidlooddpaaGreatDoorAmA
set_option linter.unusedVariables false
noncomputable section
namespace Go.AM.Lf
abbrev cF:Ty:=(.cons .str .nil)
abbrev Ds:=den cF
abbrev cT:Ty:=(.cons .str (.cons (.int .u64) .nil))
abbrev UY:=den cT
abbrev zt:Ty:=(.cons .str (.cons .bool .nil))
abbrev Switch:=den zt
abbrev zO:Ty:=(.cons .str cF)
abbrev xl:=den zO
abbrev xr:Ty:=(.cons (.int .i64) (.cons (.int .i64) .nil))
abbrev zY:=den xr
abbrev eT:Ty:=(.cons (.int .u8) (.cons (.int .u8) .nil))
abbrev JG:=den eT
abbrev nu:Ty:=(.cons (.int .i64) (.cons (.int .i64) (.cons .bool (.cons (.int .u8) .nil))))
abbrev CA:=den nu
abbrev wO:Ty:=(.cons .bool (.cons (.sl (.int .u32)) (.cons (.sl (.int .u32)) .nil)))
abbrev Rat:=den wO
abbrev zy:Ty:=(.cons .str (.cons (.int .i64) (.cons .bool (.cons (.int .i64) .nil))))
abbrev Field:=den zy
abbrev zK:Ty:=(.cons .str (.cons (.int .i64) (.cons (.int .i64) (.cons .bool .nil))))
abbrev zc:=den zK
abbrev zX:Ty:=(.cons .str (.cons (.int .i64) (.cons .str (.cons .expr (.cons .expr .nil)))))
abbrev qG:=den zX
abbrev zD:Ty:=(.cons .str (.cons (.int .i64) (.cons (.int .i64) (.cons .expr (.cons .expr .nil)))))
abbrev Check:=den zD
abbrev zw:Ty:=(.cons .str (.cons wO .nil))
abbrev Param:=den zw
abbrev Jf:Ty:=(.cons .str (.cons (.int .i64) (.cons (.int .i64) (.cons (.int .i64) (.cons (.int .i64) (.cons .bool .nil))))))
abbrev z3M:=den Jf
abbrev zT:Ty:=(.cons (.sl zt) (.cons (.sl zw) (.cons (.sl zO) (.cons (.sl zy) (.cons (.sl zX) (.cons (.sl zD) .nil))))))
abbrev Form:=den zT
def jH(e:AM.Expr->Int->T Int)(c:AM.Expr):(Int×Int)->T ((Int×Int)⊕(Int))
 | (b,a) =>
 .ite ((decide (a<((Expr.kids c).length:Int)))&&(decide (0<=b)))
  (oI a (Expr.kids c) <|
 T.bind (e (nth (Expr.kids c) a (zj .expr)) b) λd =>
 .ret (.inl (d,(zF (a+1)))))
  (.ret (.inr b))
def oL self_law6_weight e1 s:=T.loop (jH self_law6_weight e1) s
def bS(c:AM.Expr->Int->T Int)(a:AM.Expr)(d:Int):T Int :=
 T.bind (oL c a ((zF ((zF ((zF ((zF (d-3))-((Expr.name a).length:Int)))-(zF (8*(Nat.cast (List.length (Expr.num a).2.1):Int)))))-(zF (8*(Nat.cast (List.length (Expr.num a).2.2.1):Int))))),0)) λb =>
 .ret b
def jM(e:AM.Expr)(left:Int):T Int:=T.fix (λF x=>bS (λy0 y1=>F (y0,y1)) x.1 x.2) (e,left)
def y6(b:Form):(Int×Int)->T ((Int×Int)⊕(Int))
 | (c,a) =>
 .ite ((decide (a<(b.2.1.length:Int)))&&(decide (0<=c)))
  (oI a b.2.1 <|
 oI a b.2.1 <|
 oI a b.2.1 <|
 .ret (.inl ((zF ((zF ((zF (c-(zF (8*(Nat.cast (List.length (nth b.2.1 a (zj zw)).2.1.2.1):Int)))))-(zF (8*(Nat.cast (List.length (nth b.2.1 a (zj zw)).2.1.2.2.1):Int)))))-(Nat.cast (List.length (nth b.2.1 a (zj zw)).1):Int))),(zF (a+1)))))
  (.ret (.inr c))
def su f1 s:=T.loop (y6 f1) s
def kZ(c:Form):(Int×Int)->T ((Int×Int)⊕(Int))
 | (b,a) =>
 .ite ((decide (a<(c.1.length:Int)))&&(decide (0<=b)))
  (oI a c.1 <|
 .ret (.inl ((zF (b-(Nat.cast (List.length (nth c.1 a (zj zt)).1):Int))),(zF (a+1)))))
  (.ret (.inr b))
def sx f2 s:=T.loop (kZ f2) s
def yg(b:Form):(Int×Int)->T ((Int×Int)⊕(Int))
 | (c,a) =>
 .ite ((decide (a<(b.2.2.1.length:Int)))&&(decide (0<=c)))
  (oI a b.2.2.1 <|
 oI a b.2.2.1 <|
 .ret (.inl ((zF ((zF (c-(Nat.cast (List.length (nth b.2.2.1 a (zj zO)).1):Int)))-(Nat.cast (List.length (nth b.2.2.1 a (zj zO)).2.1):Int))),(zF (a+1)))))
  (.ret (.inr c))
def sb f3 s:=T.loop (yg f3) s
def yd(c:Form):(Int×Int)->T ((Int×Int)⊕(Int))
 | (b,a) =>
 .ite ((decide (a<(c.2.2.2.1.length:Int)))&&(decide (0<=b)))
  (oI a c.2.2.2.1 <|
 .ret (.inl ((zF (b-(Nat.cast (List.length (nth c.2.2.2.1 a (zj zy)).1):Int))),(zF (a+1)))))
  (.ret (.inr b))
def sj f4 s:=T.loop (yd f4) s
def yb(b:Form):(Int×Int)->T ((Int×Int)⊕(Int))
 | (d,a)=>let c:=nth b.2.2.2.2.1 a (zj zX);
 .ite ((decide (a<(b.2.2.2.2.1.length:Int)))&&(decide (0<=d)))
  (oI a b.2.2.2.2.1 <|
 oI a b.2.2.2.2.1 <|
 oI a b.2.2.2.2.1 <|
 oI a b.2.2.2.2.1 <|
 T.bind (jM c.2.2.2.1 (zF ((zF (d-(c.1.length:Int)))-(c.2.2.1.length:Int)))) λe =>
 T.bind (jM c.2.2.2.2.1 e) λf =>
 .ret (.inl (f,(zF (a+1)))))
  (.ret (.inr d))
def sG f5 s:=T.loop (yb f5) s
def y4(b:Form):(Int×Int)->T ((Int×Int)⊕(Int))
 | (c,a)=>let d:=nth b.2.2.2.2.2.1 a (zj zD);
 .ite ((decide (a<(b.2.2.2.2.2.1.length:Int)))&&(decide (0<=c)))
  (oI a b.2.2.2.2.2.1 <|
 oI a b.2.2.2.2.2.1 <|
 oI a b.2.2.2.2.2.1 <|
 T.bind (jM d.2.2.2.1 (zF (c-(d.1.length:Int)))) λe =>
 T.bind (jM d.2.2.2.2.1 e) λf =>
 .ret (.inl (f,(zF (a+1)))))
  (.ret (.inr c))
def ss f6 s:=T.loop (y4 f6) s
def bP(a:Form):T Bool :=
 T.bind (su a ((zF (600-(zF (20*(zF ((zF ((zF ((zF ((zF ((a.1.length:Int)+(a.2.1.length:Int)))+(a.2.2.1.length:Int)))+(a.2.2.2.1.length:Int)))+(a.2.2.2.2.1.length:Int)))+(a.2.2.2.2.2.1.length:Int))))))),0)) λb =>
 T.bind (sx a (b,0)) λc =>
 T.bind (sb a (c,0)) λd =>
 T.bind (sj a (d,0)) λe =>
 T.bind (sG a (e,0)) λf =>
 T.bind (ss a (f,0)) λg =>
 .ret (decide (g<0))
def wJ(a:Int):T Bool :=
 .ret ((decide (97<=a))&&(decide (a<=122)))
def xL(a:Int):T Bool :=
 .ret ((decide (48<=a))&&(decide (a<=57)))
def vg(a:Int):T Bool :=
 T.bind (wJ a) λb =>
 .ite b
  (.ret true)
  (T.bind (xL a) λc =>
 .ite c
  (.ret true)
  (.ret (a==95)))
def kD(b:zf)(d:Int):Int->T (Int⊕(Unit⊕Bool))
 | a =>
 .ite (decide (a<d))
  (oI a b <|
 T.bind (vg (qp b a)) λc =>
 .ite (!c)
  (.ret (.inr (.inr false)))
  (.ret (.inl (zF (a+1)))))
  (.ret (.inr (.inl ())))
def ZQ s1 x1 s:=T.loop (kD s1 x1) s
def xn(a:zf):T Bool :=
 T.bind (.ite (zl a [])
  (.ret true)
  (.ite (decide (24<(a.length:Int)))
  (.ret true)
  (oI 0 a <|
 T.bind (wJ (qp a 0)) λb =>
 .ret (!b))):T (Bool)) λc =>
 .ite c
  (.ret false)
  (T.bind (ZQ a (a.length:Int) 0) <|
 Sum.elim (λ_ =>
 .ret true)
  (λd =>
 .ret d))
def vH(b:Switch):T Bool :=
 T.bind (xn b.1) λa =>
 .ret (!a)
def qM(b:(List Switch))(d:Switch->T Bool)(e:Int):Int->T (Int⊕(Unit⊕Int))
 | a =>
 .ite (decide (a<e))
  (oI a b <|
 T.bind (d (nth b a (zj zt))) λc =>
 .ite c
  (.ret (.inr (.inr a)))
  (.ret (.inl (zF (a+1)))))
  (.ret (.inr (.inl ())))
def uL s1 f x s:=T.loop (qM s1 f x) s
def w8(a:(List Switch))(c:Switch->T Bool):T Int :=
 T.bind (uL a c (a.length:Int) 0) <|
 Sum.elim (λ_ =>
 .ret (-1))
  (λb =>
 .ret b)
def qO(b:(List Switch))(c:Switch->T Bool):T Bool :=
 T.bind (w8 b c) λa =>
 .ret (decide (0<=a))
def eZ(a:(List Int)):T Bool :=
 .zM ((((a.length:Int)==0)=false)->(qz (zF ((a.length:Int)-1)) a.length)) <|
 .ret (((a.length:Int)==0)||((nth a (zF ((a.length:Int)-1)) (zj (.int .u32))) != 0))
def fY  : (List Int)->T ((List Int)⊕((List Int)))
 | a =>
 T.bind (eZ a) λb =>
 .ite (!b)
  (.zM (bf 0 (zF ((a.length:Int)-1)) a.length) <|
 .ret (.inl (vr (e:=(.int .u32)) 0 (zF ((a.length:Int)-1)) a)))
  (.ret (.inr a))
def p8(s:(List Int)):T ((List Int)):=T.loop (fY ) s
def xT(b:(List Int)):T (List Int) :=
 T.bind (p8  b) λa =>
 .ret a
def vd(a:(List Int)):T (List Int) :=
 let b:=0+a.length;  .zM (a=[]->∀ r,T.leads (.zM (KF 0 0 0 0 0 a.length 4) <|
 .zM (b=b) <|
 .ret (List.drop 0 (List.take (0+b) a)):T _) r->T.leads (.ret []:T _) r) <|
 .zM (KF 0 0 0 0 0 a.length 4) <|
 .zM (b=b) <|
 .ret (List.drop 0 (List.take (0+b) a))
def bc(c:(List Int)):T (List Int) :=
 T.bind (xT c) λa =>
 T.bind (vd a) λb =>
 .ret b
def eB(b:(List Int))(c:(List Int)):Int->T (Int⊕(Unit⊕Int))
 | a =>
 .ite (decide (0<=a))
  (oI a b <|
 oI a c <|
 .ite ((nth b a (zj (.int .u32))) != (nth c a (zj (.int .u32))))
  (oI a b <|
 oI a c <|
 .ite (decide ((nth b a (zj (.int .u32)))<(nth c a (zj (.int .u32)))))
  (.ret (.inr (.inr (-1))))
  (.ret (.inr (.inr 1))))
  (.ret (.inl (zF (a-1)))))
  (.ret (.inr (.inl ())))
def Ur a2 b2 s:=T.loop (eB a2 b2) s
def mU(d:(List Int))(e:(List Int)):T Int :=
 T.bind (xT d) λa =>
 T.bind (xT e) λb =>
 .ite ((a.length:Int) != (b.length:Int))
  (.ite (decide ((a.length:Int)<(b.length:Int)))
  (.ret (-1))
  (.ret 1))
  (T.bind (Ur a b (zF ((a.length:Int)-1))) <|
 Sum.elim (λ_ =>
 .ret 0)
  (λc =>
 .ret c))
def yi(b:Int)(c:Int)(a:Int):T (Int×Int) :=
 .ite ((a != 0)&&(decide (a<=b)))
  (.fail)
  (.zM (0<=(32:Int)) <|
 .zM ((zN a)≠0) <|
 .zM ((zN a)≠0) <|
 .ret ((xX (zN (Int.tdiv (tJ .u64 (yD .u64 (zN b) 32) (zN c)) (zN a)))),(xX (Int.tmod (tJ .u64 (yD .u64 (zN b) 32) (zN c)) (zN a)))))
def da(e:(List Int))(g:Int):(Int×Int×(List Int))->T ((Int×Int×(List Int))⊕((Int×(List Int))))
 | (d,b,a) =>
 .ite (decide (0<=b))
  (oI b e <|
 T.bind (yi d (nth e b (zj (.int .u32))) g) λ(c,f) =>
 oI b a <|
 .zM (mK a.length a.length (0+(Int.toNat b)) a.length) <|
 oM a.length (List.set a (0+(Int.toNat b)) c).length <|
 .ret (.inl (f,((zF (b-1)),(List.set a (0+(Int.toNat b)) c)))))
  (oC a <|
 oE a <|
 .ret (.inr (d,a)))
def Q8 a1 b1 s:=T.loop (da a1 b1) s
def dD(a:(List Int))(e:Int):T ((List Int)×Int) :=
 .zM (Qt (a.length:Int) (a.length:Int) 4) <|
 oM (Int.toNat (a.length:Int)) (List.replicate (Int.toNat (a.length:Int)) (0:Int)).length <|
 T.bind (Q8 a e (0,((zF ((a.length:Int)-1)),(List.replicate (Int.toNat (a.length:Int)) 0)))) λ(c,b) =>
 oE b <|
 T.bind (xT (List.drop 0 (List.take (0+b.length) b))) λd =>
 .ret (d,c)
def yB(a:Int):T (List Int) :=
 .zM (0<=(32:Int)) <|
 T.bind (xT ([(xX a),(xX (wD .u64 a 32))]:List Int)) λb =>
 .ret b
def yp(b:Int):T Int :=
 let a:=bif (decide (65536<=b))then(wD .u32 b 16)else b;  .zM (((decide (65536<=b))=true)->(0<=(16:Int))) <|
 .zM (((decide (256<=a))=true)->(0<=(8:Int))) <|
 .zM (qz (GW (bif (decide (256<=a))then(wD .u32 a 8)else a)) ([0,1,2,2,3,3,3,3,4,4,4,4,4,4,4,4,5,5,5,5,5,5,5,5,5,5,5,5,5,5,5,5,6,6,6,6,6,6,6,6,6,6,6,6,6,6,6,6,6,6,6,6,6,6,6,6,6,6,6,6,6,6,6,6,7,7,7,7,7,7,7,7,7,7,7,7,7,7,7,7,7,7,7,7,7,7,7,7,7,7,7,7,7,7,7,7,7,7,7,7,7,7,7,7,7,7,7,7,7,7,7,7,7,7,7,7,7,7,7,7,7,7,7,7,7,7,7,7,8,8,8,8,8,8,8,8,8,8,8,8,8,8,8,8,8,8,8,8,8,8,8,8,8,8,8,8,8,8,8,8,8,8,8,8,8,8,8,8,8,8,8,8,8,8,8,8,8,8,8,8,8,8,8,8,8,8,8,8,8,8,8,8,8,8,8,8,8,8,8,8,8,8,8,8,8,8,8,8,8,8,8,8,8,8,8,8,8,8,8,8,8,8,8,8,8,8,8,8,8,8,8,8,8,8,8,8,8,8,8,8,8,8,8,8,8,8,8,8,8,8,8,8,8,8,8,8]:zf).length) <|
 .ret (zF ((bif (decide (256<=a))then(zF ((bif (decide (65536<=b))then 16 else 0)+8))else(bif (decide (65536<=b))then 16 else 0))+(zF (qp [0,1,2,2,3,3,3,3,4,4,4,4,4,4,4,4,5,5,5,5,5,5,5,5,5,5,5,5,5,5,5,5,6,6,6,6,6,6,6,6,6,6,6,6,6,6,6,6,6,6,6,6,6,6,6,6,6,6,6,6,6,6,6,6,7,7,7,7,7,7,7,7,7,7,7,7,7,7,7,7,7,7,7,7,7,7,7,7,7,7,7,7,7,7,7,7,7,7,7,7,7,7,7,7,7,7,7,7,7,7,7,7,7,7,7,7,7,7,7,7,7,7,7,7,7,7,7,7,8,8,8,8,8,8,8,8,8,8,8,8,8,8,8,8,8,8,8,8,8,8,8,8,8,8,8,8,8,8,8,8,8,8,8,8,8,8,8,8,8,8,8,8,8,8,8,8,8,8,8,8,8,8,8,8,8,8,8,8,8,8,8,8,8,8,8,8,8,8,8,8,8,8,8,8,8,8,8,8,8,8,8,8,8,8,8,8,8,8,8,8,8,8,8,8,8,8,8,8,8,8,8,8,8,8,8,8,8,8,8,8,8,8,8,8,8,8,8,8,8,8,8,8,8,8,8,8] (GW (bif (decide (256<=a))then(wD .u32 a 8)else a))))))
def wE(b:Int):T Int :=
 T.bind (yp b) λa =>
 .ret (zF (32-a))
def sr(e:Int)(h:Int)(f:(List Int))(i:Int):(Int×(List Int))->T ((Int×(List Int))⊕((List Int)))
 | (b,a)=>let c:=zF (b+1); let d:=List.set a (0+(Int.toNat b)) (tJ .u32 (yJ a (0+(Int.toNat b)) (zj (.int .u32))) (xX (yD .u64 (zN (nth f b (zj (.int .u32)))) e))); let g:=List.set d (0+(Int.toNat c)) (xX (wD .u64 (yD .u64 (zN (nth f b (zj (.int .u32)))) e) 32));
 .ite (decide (b<i))
  (oI b f <|
 .zM (0<=e) <|
 oI b a <|
 .zM (mK a.length a.length (0+(Int.toNat b)) a.length) <|
 oI b a <|
 .zM (mK a.length a.length (0+(Int.toNat b)) a.length) <|
 .ite (decide (c<h))
  (.zM (0<=(32:Int)) <|
 oI c a <|
 .zM (mK a.length a.length (0+(Int.toNat c)) d.length) <|
 oM a.length g.length <|
 .ret (.inl (c,g)))
  (oM a.length d.length <|
 .ret (.inl (c,d))))
  (oC a <|
 oE a <|
 .ret (.inr a))
def sB by_1 n1 x x1 s:=T.loop (sr by_1 n1 x x1) s
def eO(c:(List Int))(d:Int)(a:Int):T (List Int) :=
 .zM (Qt a a 4) <|
 oM (Int.toNat a) (List.replicate (Int.toNat a) (0:Int)).length <|
 T.bind (sB d a c (c.length:Int) (0,(List.replicate (Int.toNat a) 0))) λb =>
 oC b <|
 oE b <|
 .ret b
def gi(d:Int)(c:Int)(e:Int):(Int×Int)->T ((Int×Int)⊕(Int))
 | (a,b) =>
 .zM ((0<=(32:Int))/\((((wD .u64 a 32) != 0)=false)->(0<=(32:Int)))) <|
 .ite (((wD .u64 a 32) != 0)||(decide ((tJ .u64 (yD .u64 b 32) (zN d))<(zN (a*(zN e))))))
  (.zM (0<=(32:Int)) <|
 .ite ((wD .u64 (zN (b+(zN c))) 32) != 0)
  (.ret (.inr (zN (a-1))))
  (.ret (.inl ((zN (a-1)),(zN (b+(zN c)))))))
  (.ret (.inr a))
def ZE low1 b11 b21 s:=T.loop (gi low1 b11 b21) s
def dG(b:Int)(c:Int)(e:Int)(a:Int)(f:Int):T Int :=
 .zM (0<=(32:Int)) <|
 .zM ((zN a)≠0) <|
 .zM ((zN a)≠0) <|
 T.bind (ZE e a f ((zN (Int.tdiv (tJ .u64 (yD .u64 (zN b) 32) (zN c)) (zN a))),(Int.tmod (tJ .u64 (yD .u64 (zN b) 32) (zN c)) (zN a)))) λd =>
 .ret d
def uY(a:Int)(b:Int)(c:Int):T (Int×Int) :=
 .zM (0<=(31:Int)) <|
 .ret ((xX ((xX (a-b))-c)),(wD .u32 (tJ .u32 (Dn .u32 (El .u32 4294967295 a) b) (Dn .u32 (El .u32 4294967295 (El .u32 a b)) (xX ((xX (a-b))-c)))) 31))
def yo(a:Int)(b:Int)(c:Int):T (Int×Int) :=
 .zM (0<=(32:Int)) <|
 .ret ((xX (zN ((zN ((zN a)+(zN b)))+(zN c)))),(xX (wD .u64 (zN ((zN ((zN a)+(zN b)))+(zN c))) 32)))
def hM(l:(List Int))(i:Int)(f:(List Int))(k:Int):((Nat×Nat)×Int×Int×Int×(List Int))->T (((Nat×Nat)×Int×Int×Int×(List Int))⊕(((Nat×Nat)×Int×Int×(List Int))))
 | (c,e,h,b,a)=>let d:=c.1+(Int.toNat b);
 .ite (decide (b<k))
  (oI b f <|
 .zM (qz b c.2) <|
 .zM (mK a.length a.length d a.length) <|
 T.bind (uY (yJ a d (zj (.int .u32))) (xX (zN (e+(zN (i*(zN (nth f b (zj (.int .u32))))))))) h) λ(g,j) =>
 .zM (qz b c.2) <|
 .zM (mK a.length a.length d a.length) <|
 .zM (0<=(32:Int)) <|
 oE a <|
 .zM (a.length=(List.set a d g).length) <|
 .ret (.inl (c,((wD .u64 (zN (e+(zN (i*(zN (nth f b (zj (.int .u32)))))))) 32),(j,((zF (b+1)),(List.set a d g)))))))
  (oE a <|
 oE a <|
 .ret (.inr (c,(e,(h,a)))))
def ow b1 q1 x x1 s:=T.loop (hM b1 q1 x x1) s
def gP(j:(List Int))(g:(List Int))(i:Int):((Nat×Nat)×Int×Int×(List Int))->T (((Nat×Nat)×Int×Int×(List Int))⊕(((Nat×Nat)×Int×(List Int))))
 | (c,f,b,a)=>let d:=c.1+(Int.toNat b);
 .ite (decide (b<i))
  (oI b g <|
 .zM (qz b c.2) <|
 .zM (mK a.length a.length d a.length) <|
 T.bind (yo (yJ a d (zj (.int .u32))) (nth g b (zj (.int .u32))) f) λ(e,h) =>
 .zM (qz b c.2) <|
 .zM (mK a.length a.length d a.length) <|
 oE a <|
 .zM (a.length=(List.set a d e).length) <|
 .ret (.inl (c,(h,((zF (b+1)),(List.set a d e))))))
  (oE a <|
 oE a <|
 .ret (.inr (c,(f,a))))
def p9 b2 x3 x4 s:=T.loop (gP b2 x3 x4) s
def fV(o:(Nat×Nat))(b:(List Int))(p:Int)(h:(List Int)):T (Bool×(List Int)) :=
 let d:=Int.toNat (b.length:Int);  oE h <|
 oE h <|
 T.bind (ow b p b (b.length:Int) (o,(0,(0,(0,h))))) λ(e,j,k,a) =>
 .zM (qz (b.length:Int) e.2) <|
 .zM (mK a.length a.length (e.1+d) a.length) <|
 T.bind (uY (yJ a (e.1+d) (zj (.int .u32))) (xX j) k) λ(l,m)=>let g:=List.set a (e.1+d) l;
 .zM (qz (b.length:Int) e.2) <|
 .zM (mK a.length a.length (e.1+d) a.length) <|
 .ite (m==0)
  (.zM (a.length=g.length) <|
 .ret (false,g))
  (oE a <|
 .zM (a.length=g.length) <|
 T.bind (p9 b b (b.length:Int) (e,(0,(0,g)))) λ(f,n,c)=>let i:=List.set c (f.1+d) (xX ((yJ c (f.1+d) (zj (.int .u32)))+n));
 .zM (qz (b.length:Int) f.2) <|
 .zM (mK c.length c.length (f.1+d) c.length) <|
 .zM (qz (b.length:Int) f.2) <|
 .zM (mK c.length c.length (f.1+d) c.length) <|
 .zM (c.length=i.length) <|
 .ret (true,i))
def cw(e:Int)(h:Int)(f:(List Int))(i:Int):(Int×(List Int))->T ((Int×(List Int))⊕((List Int)))
 | (b,a)=>let c:=zF (b+1); let d:=List.set a (0+(Int.toNat b)) (tJ .u32 (yJ a (0+(Int.toNat b)) (zj (.int .u32))) (xX (yD .u64 (zN (nth f b (zj (.int .u32)))) e))); let g:=List.set d (0+(Int.toNat c)) (xX (wD .u64 (yD .u64 (zN (nth f b (zj (.int .u32)))) e) 32));
 .ite (decide (b<i))
  (oI b f <|
 .zM (0<=e) <|
 oI b a <|
 .zM (mK a.length a.length (0+(Int.toNat b)) a.length) <|
 oI b a <|
 .zM (mK a.length a.length (0+(Int.toNat b)) a.length) <|
 .ite (decide (c<h))
  (.zM (0<=(32:Int)) <|
 oI c a <|
 .zM (mK a.length a.length (0+(Int.toNat c)) d.length) <|
 oM a.length g.length <|
 .ret (.inl (c,g)))
  (oM a.length d.length <|
 .ret (.inl (c,d))))
  (oC a <|
 oE a <|
 .ret (.inr a))
def XR by_1 n1 x x1 s:=T.loop (cw by_1 n1 x x1) s
def Z6(c:(List Int))(d:Int)(a:Int):T (List Int) :=
 .zM (Qt a a 4) <|
 oM (Int.toNat a) (List.replicate (Int.toNat a) (0:Int)).length <|
 T.bind (XR d a c (c.length:Int) (0,(List.replicate (Int.toNat a) 0))) λb =>
 oE b <|
 .ret (List.drop 0 (List.take (0+b.length) b))
def gv(e:Int)(f:(List Int))(h:Int):(Int×(List Int))->T ((Int×(List Int))⊕((List Int)))
 | (b,a)=>let d:=0+(Int.toNat (zF (b-1))); let c:=List.set a (0+(Int.toNat b)) (tJ .u32 (yJ a (0+(Int.toNat b)) (zj (.int .u32))) (xX (wD .u64 (wD .u64 (yD .u64 (zN (nth f b (zj (.int .u32)))) 32) e) 32))); let g:=List.set c d (tJ .u32 (yJ c d (zj (.int .u32))) (xX (wD .u64 (yD .u64 (zN (nth f b (zj (.int .u32)))) 32) e)));
 .ite (decide (b<h))
  (oI b f <|
 .zM (0<=(32:Int)) <|
 .zM (0<=e) <|
 oI b a <|
 .zM (mK a.length a.length (0+(Int.toNat b)) a.length) <|
 .zM (0<=(32:Int)) <|
 oI b a <|
 .zM (mK a.length a.length (0+(Int.toNat b)) a.length) <|
 .ite (decide (0<b))
  (oI (zF (b-1)) a <|
 .zM (mK a.length a.length d c.length) <|
 oI (zF (b-1)) a <|
 .zM (mK a.length a.length d c.length) <|
 oM a.length g.length <|
 .ret (.inl ((zF (b+1)),g)))
  (oM a.length c.length <|
 .ret (.inl ((zF (b+1)),c))))
  (oC a <|
 oE a <|
 .ret (.inr a))
def ZY by_ x x1 s:=T.loop (gv by_ x x1) s
def bK(m:(List Int))(n:Int):T (List Int) :=
 let g:=G8 (mj n (-4096)) 4096; let d:=zF (Int.tdiv g (32:Int)); let c:=zF (Int.tdiv (zF (0-g)) (32:Int));  T.bind (xT m) λf=>let a:=(f.length:Int); let i:=zF ((zF (d+a))+1); let b:=Int.toNat i;
 .ite (decide (g<0))
  (.zM (32≠(0:Int)) <|
 .ite (decide (a<=c))
  (.ret [])
  (.zM (32≠(0:Int)) <|
 .zM (Qt (zF (a-c)) (zF (a-c)) 4) <|
 .zM (bf c a f.length) <|
 oM (Int.toNat (zF (a-c))) (List.replicate (Int.toNat (zF (a-c))) (0:Int)).length <|
 T.bind (ZY (zN (Int.tmod (zF (0-g)) (32:Int))) (vr (e:=(.int .u32)) c a f) (Nat.cast (vr (e:=(.int .u32)) c a f).length:Int) (0,(List.replicate (Int.toNat (zF (a-c))) 0))) λh =>
 oE h <|
 T.bind (xT (List.drop 0 (List.take (0+h.length) h))) λj =>
 .ret j))
  (.zM (32≠(0:Int)) <|
 .zM (Qt i i 4) <|
 .zM (bf d (Nat.cast b:Int) b) <|
 .zM (32≠(0:Int)) <|
 T.bind (Z6 f (zN (Int.tmod g (32:Int))) (zF (a+1))) λk =>
 .zM (z3C b b (0+(Int.toNat d)) ((Int.toNat (Nat.cast b:Int))-(Int.toNat d)) (List.replicate b (0:Int)).length) <|
 .zM (b=b) <|
 T.bind (xT (List.drop 0 (List.take (0+b) (kL (0+(Int.toNat d)) ((Int.toNat (Nat.cast b:Int))-(Int.toNat d)) (List.replicate b 0) k)))) λl =>
 .ret l)
def c9(m:Int)(g:(List Int))(c:Int):(Int×(List Int)×(List Int))->T ((Int×(List Int)×(List Int))⊕(((List Int)×(List Int))))
 | (b,a,d) =>
 .ite (decide (0<=b))
  (oI (zF (b+c)) a <|
 .zM (mK a.length a.length (0+(Int.toNat (zF (b+c)))) a.length) <|
 oI (zF ((zF (b+c))-1)) a <|
 .zM (mK a.length a.length (0+(Int.toNat (zF ((zF (b+c))-1)))) a.length) <|
 oI (zF ((zF (b+c))-2)) a <|
 .zM (mK a.length a.length (0+(Int.toNat (zF ((zF (b+c))-2)))) a.length) <|
 oI (zF (c-1)) g <|
 oI (zF (c-2)) g <|
 T.bind (dG (yJ a (0+(Int.toNat (zF (b+c)))) (zj (.int .u32))) (yJ a (0+(Int.toNat (zF ((zF (b+c))-1)))) (zj (.int .u32))) (yJ a (0+(Int.toNat (zF ((zF (b+c))-2)))) (zj (.int .u32))) (nth g (zF (c-1)) (zj (.int .u32))) (nth g (zF (c-2)) (zj (.int .u32)))) λh =>
 T.bind (.zM (bf b (zF ((zF (b+c))+1)) a.length) <|
 oE a <|
 oE a <|
 T.bind (fV ((0+(Int.toNat b)),((Int.toNat (zF ((zF (b+c))+1)))-(Int.toNat b))) g h a) λ(k,f) =>
 .ite k
  (oC d <|
 .zM (uv a.length 0 a.length f.length) <|
 oE f <|
 oE d <|
 .ret ((zN (h-1)),(f,d)))
  (oC d <|
 .zM (uv a.length 0 a.length f.length) <|
 oE f <|
 oE d <|
 .ret (h,(f,d))):T ((Int×(List Int)×(List Int)))) λ(l,i,e)=>let j:=List.set e (0+(Int.toNat b)) (xX l);
 oI b e <|
 .zM (mK e.length e.length (0+(Int.toNat b)) e.length) <|
 .zM (uv e.length 0 e.length j.length) <|
 oC i <|
 oE i <|
 .zM (e.length=j.length) <|
 .ret (.inl ((zF (b-1)),(i,j))))
  (oC d <|
 oC a <|
 oE a <|
 oE d <|
 .ret (.inr (a,d)))
def XE by_ d n s:=T.loop (c9 by_ d n) s
def ZA(i:(List Int))(c:(List Int)):T ((List Int)×(List Int)) :=
 oI (zF ((c.length:Int)-1)) c <|
 T.bind (wE (nth c (zF ((c.length:Int)-1)) (zj (.int .u32)))) λf =>
 T.bind (eO i (zN f) (zF ((i.length:Int)+1))) λg =>
 T.bind (eO c (zN f) (c.length:Int)) λa=>let j:=zF ((zF ((i.length:Int)-(a.length:Int)))+1); let b:=Int.toNat j;
 .zM (Qt j j 4) <|
 oE a <|
 .zM (uv b 0 b (List.replicate b (0:Int)).length) <|
 oC g <|
 oE g <|
 .zM (b=(List.replicate b (0:Int)).length) <|
 T.bind (XE (zN f) (List.drop 0 (List.take (0+a.length) a)) (a.length:Int) ((zF ((Nat.cast b:Int)-1)),(g,(List.replicate b 0)))) λ(d,h) =>
 oE h <|
 oE d <|
 T.bind (xT (List.drop 0 (List.take (0+h.length) h))) λk =>
 .zM (bf 0 (a.length:Int) (List.drop 0 (List.take (0+d.length) d)).length) <|
 T.bind (bK (vr (e:=(.int .u32)) 0 (a.length:Int) (List.drop 0 (List.take (0+d.length) d))) (zF (0-(zF (zN f))))) λl =>
 .ret (k,l)
def yF(j:(List Int))(k:(List Int)):T ((List Int)×(List Int)×Bool) :=
 T.bind (xT j) λb =>
 T.bind (xT k) λa =>
 .ite ((a.length:Int)==0)
  (.ret ([],([],false)))
  (T.bind (mU b a) λc =>
 .ite (decide (c<0))
  (T.bind (bc b) λd =>
 .ret ([],(d,true)))
  (.ite ((a.length:Int)==1)
  (oI 0 a <|
 T.bind (dD b (nth a 0 (zj (.int .u32)))) λ(e,f) =>
 T.bind (yB (zN f)) λg =>
 .ret (e,(g,true)))
  (T.bind (ZA b a) λ(h,i) =>
 .ret (h,(i,true)))))
def dX  : ((List Int)×(List Int))->T (((List Int)×(List Int))⊕((List Int)))
 | (b,a) =>
 .ite (decide (0<(a.length:Int)))
  (T.bind (yF b a) λ(d,c,e) =>
 .ret (.inl (a,c)))
  (.ret (.inr b))
def UA(s:((List Int)×(List Int))):T ((List Int)):=T.loop (dX ) s
def ZW(d:(List Int))(e:(List Int)):T (List Int) :=
 T.bind (bc d) λa =>
 T.bind (bc e) λb =>
 T.bind (UA  (a,b)) λc =>
 .ret c
def tx(a:Rat):T Bool :=
 T.bind (T.bind (eZ a.2.1) λb =>
 .ite (!b)
  (.ret true)
  (T.bind (eZ a.2.2.1) λc =>
 .ite (!c)
  (.ret true)
  (.ite ((a.2.2.1.length:Int)==0)
  (.ret true)
  (.ite a.1
  (.ret ((a.2.1.length:Int)==0))
  (.ret false)))):T (Bool)) λd =>
 .ite d
  (.ret false)
  (T.bind (ZW a.2.1 a.2.2.1) λe =>
 T.bind (yB 1) λf =>
 T.bind (mU e f) λg =>
 .ret (g==0))
def lG(g:Bool)(h:(List Int))(i:(List Int)):T Rat :=
 T.bind (bc h) λa =>
 T.bind (bc i) λb =>
 .ite (((a.length:Int)==0)||((b.length:Int)==0))
  (T.bind (yB 1) λd =>
 .ret (false,(([]:List Int),(d,()))))
  (T.bind (ZW a b) λc =>
 T.bind (yF a c) λ(e,j,k) =>
 T.bind (yF b c) λ(f,l,m) =>
 .ret (g,(e,(f,()))))
def gL(a:Rat):T Rat :=
 T.bind (lG a.1 a.2.1 a.2.2.1) λb =>
 .ret b
def dF(b:Rat):T Bool :=
 T.bind (gL b) λa =>
 .ret ((decide (16<(a.2.1.length:Int)))||(decide (16<(a.2.2.1.length:Int))))
def vJ(a:Param):T Bool :=
 T.bind (xn a.1) λb =>
 .ite (!b)
  (.ret true)
  (T.bind (tx a.2.1) λc =>
 .ite (!c)
  (.ret true)
  (T.bind (dF a.2.1) λd =>
 .ret d))
def qV(b:(List Param))(d:Param->T Bool)(e:Int):Int->T (Int⊕(Unit⊕Int))
 | a =>
 .ite (decide (a<e))
  (oI a b <|
 T.bind (d (nth b a (zj zw))) λc =>
 .ite c
  (.ret (.inr (.inr a)))
  (.ret (.inl (zF (a+1)))))
  (.ret (.inr (.inl ())))
def uX s1 f x s:=T.loop (qV s1 f x) s
def wj(a:(List Param))(c:Param->T Bool):T Int :=
 T.bind (uX a c (a.length:Int) 0) <|
 Sum.elim (λ_ =>
 .ret (-1))
  (λb =>
 .ret b)
def qW(b:(List Param))(c:Param->T Bool):T Bool :=
 T.bind (wj b c) λa =>
 .ret (decide (0<=a))
def kz(a:zf):T Bool :=
 .ite (zl a [])
  (.ret true)
  (T.bind (xn a) λb =>
 .ret b)
def vB(a:xl):T Bool :=
 T.bind (xn a.1) λb =>
 .ite (!b)
  (.ret true)
  (T.bind (kz a.2.1) λc =>
 .ret (!c))
def xm(b:(List xl))(d:xl->T Bool)(e:Int):Int->T (Int⊕(Unit⊕Int))
 | a =>
 .ite (decide (a<e))
  (oI a b <|
 T.bind (d (nth b a (zj zO))) λc =>
 .ite c
  (.ret (.inr (.inr a)))
  (.ret (.inl (zF (a+1)))))
  (.ret (.inr (.inl ())))
def jv s1 f x s:=T.loop (xm s1 f x) s
def wC(a:(List xl))(c:xl->T Bool):T Int :=
 T.bind (jv a c (a.length:Int) 0) <|
 Sum.elim (λ_ =>
 .ret (-1))
  (λb =>
 .ret b)
def xh(b:(List xl))(c:xl->T Bool):T Bool :=
 T.bind (wC b c) λa =>
 .ret (decide (0<=a))
def fO(b:Form):T Bool :=
 T.bind (qO b.1 (λa=>vH a)) λc =>
 .ite (!c)
  (T.bind (qW b.2.1 (λa=>vJ a)) λd =>
 .ite (!d)
  (T.bind (xh b.2.2.1 (λa=>vB a)) λe =>
 .ret (!e))
  (.ret false))
  (.ret false)
def hZ(a:Int)(b:Int)(c:Int):T Bool :=
 .ret ((decide ((mj b 0)<=a))&&(decide (a<c)))
def uV(i:Form)(c:(List Field))(j:Int):(Int×Int)->T ((Int×Int)⊕(Unit⊕Bool))
 | (h,b)=>let a:=nth c b (zj zy);
 .ite (decide (b<j))
  (oI b c <|
 T.bind (T.bind (xn a.1) λd =>
 .ite (!d)
  (.ret (true,a))
  (T.bind (hZ a.2.1 h (i.2.2.1.length:Int)) λe =>
 .ite (!e)
  (.ret (true,a))
  (.ite (decide (a.2.2.2.1<(0:Int)))
  (.ret (true,a))
  (.ret ((decide ((9:Int)<a.2.2.2.1)),a)))):T ((Bool×Field))) λ(f,g) =>
 .ite f
  (.ret (.inr (.inr false)))
  (.ret (.inl (g.2.1,(zF (b+1))))))
  (.ret (.inr (.inl ())))
def n9 f1 x x1 s:=T.loop (uV f1 x x1) s
def dm(a:Form):T Bool :=
 T.bind (n9 a a.2.2.2.1 (a.2.2.2.1.length:Int) (0,0)) <|
 Sum.elim (λ_ =>
 .ret true)
  (λb =>
 .ret b)
def wM  : T (List zf) :=
 .ret ([[61],[60],[60,61]]:List zf)
def r9(a:Int):T Int :=
 .ite (bif (a==1)then(a==1)else(a==2))
  (.ret 0)
  (.ite (a==7)
  (.ret 1)
  (.ite (a==3)
  (.ret 2)
  (.ite (a==4)
  (.ret 2)
  (.ite (a==5)
  (.ret 2)
  (.ite (a==6)
  (.ret 2)
  (.ret (-1)))))))
def lU(j:(List Int))(d:Int)(h:Int)(k:(List Int))(l:Int)(m:Int)(g:(List Int))(i:Int):(Int×Int×(List Int))->T ((Int×Int×(List Int))⊕((Int×(List Int))))
 | (f,b,a)=>let c:=0+(Int.toNat (zF (d+b))); let e:=zN (f+(zN ((zN ((zN h)*(zN (nth g b (zj (.int .u32))))))+(zN (yJ a c (zj (.int .u32)))))));
 .ite (decide (b<i))
  (oI b g <|
 oI (zF (d+b)) a <|
 .zM (mK a.length a.length c a.length) <|
 oI (zF (d+b)) a <|
 .zM (mK a.length a.length c a.length) <|
 .zM (0<=(32:Int)) <|
 oM a.length (List.set a c (xX e)).length <|
 .ret (.inl ((wD .u64 e 32),((zF (b+1)),(List.set a c (xX e))))))
  (oC a <|
 oE a <|
 .ret (.inr (f,a)))
def VT b3 i v x3 x4 x5 x6 x7 s:=T.loop (lU b3 i v x3 x4 x5 x6 x7) s
def lM(d:(List Int))(e:(List Int))(h:Int):(Int×(List Int))->T ((Int×(List Int))⊕((List Int)))
 | (a,c)=>let f:=0+(Int.toNat (zF (a+(d.length:Int))));
 .ite (decide (a<h))
  (oI a e <|
 oC c <|
 oE c <|
 T.bind (VT d a (nth e a (zj (.int .u32))) e h a d (d.length:Int) (0,(0,c))) λ(g,b) =>
 oI (zF (a+(d.length:Int))) b <|
 .zM (mK b.length b.length f b.length) <|
 oM b.length (List.set b f (xX g)).length <|
 .ret (.inl ((zF (a+1)),(List.set b f (xX g)))))
  (oC c <|
 oE c <|
 .ret (.inr c))
def Vl b2 x x1 s:=T.loop (lM b2 x x1) s
def pZ(f:(List Int))(g:(List Int)):T (List Int) :=
 T.bind (xT f) λb =>
 T.bind (xT g) λd=>let a:=zF ((b.length:Int)+(d.length:Int));
 .zM (Qt a a 4) <|
 oM (Int.toNat a) (List.replicate (Int.toNat a) (0:Int)).length <|
 T.bind (Vl d b (b.length:Int) (0,(List.replicate (Int.toNat a) 0))) λc =>
 oE c <|
 T.bind (xT (List.drop 0 (List.take (0+c.length) c))) λe =>
 .ret e
def ez(e:Int):((List Int)×Int)->T (((List Int)×Int)⊕((List Int)))
 | (a,b) =>
 .ite (decide (b<e))
  (T.bind (yB 10) λc =>
 T.bind (pZ a c) λd =>
 .ret (.inl (d,(zF (b+1)))))
  (.ret (.inr a))
def Ui x s:=T.loop (ez x) s
def pI(c:Int):T (List Int) :=
 T.bind (yB 1) λa =>
 T.bind (Ui c (a,0)) λb =>
 .ret b
def pc(a:Rat):T zf :=
 .ite a.1
  (.ret [45])
  (.ret [])
def xV  : ((Nat×Nat)×Int×Int×(List Int))->T (((Nat×Nat)×Int×Int×(List Int))⊕((List Int)))
 | (b,c,d,a)=>let e:=List.set a (b.1+(Int.toNat c)) (yJ a (b.1+(Int.toNat d)) (zj (.int .u8))); let f:=List.set e (b.1+(Int.toNat d)) (yJ a (b.1+(Int.toNat c)) (zj (.int .u8)));
 .ite (decide (c<d))
  (.zM (qz d b.2) <|
 .zM (mK a.length a.length (b.1+(Int.toNat d)) a.length) <|
 .zM (qz c b.2) <|
 .zM (mK a.length a.length (b.1+(Int.toNat c)) a.length) <|
 .zM (qz c b.2) <|
 .zM (mK a.length a.length (b.1+(Int.toNat c)) a.length) <|
 .zM (qz d b.2) <|
 .zM (mK a.length a.length (b.1+(Int.toNat d)) e.length) <|
 oE a <|
 .zM (a.length=f.length) <|
 .ret (.inl (b,((zF (c+1)),((zF (d-1)),f)))))
  (oE a <|
 .ret (.inr a))
def js(s:((Nat×Nat)×Int×Int×(List Int))):T ((List Int)):=T.loop (xV ) s
def wH(c:(Nat×Nat))(a:(List Int)):T (List Int) :=
 oE a <|
 oE a <|
 T.bind (js  (c,(0,((zF ((Nat.cast c.2:Int)-1)),a)))) λb =>
 oE b <|
 .ret b
def gS(e:(List Int)):(Int×Int×(List Int))->T ((Int×Int×(List Int))⊕((List Int)))
 | (b,c,a)=>let d:=a++([(qp [48,49,50,51,52,53,54,55,56,57] (Int.tmod b (10:Int)))]:List Int);
 .ite (decide (c<9))
  (.zM (10≠(0:Int)) <|
 oI (Int.tmod b (10:Int)) ([48,49,50,51,52,53,54,55,56,57]:zf) <|
 oA a 1 <|
 .zM (10≠(0:Int)) <|
 oM (a.length+1) d.length <|
 .ret (.inl ((xX (Int.tdiv b (10:Int))),((zF (c+1)),d))))
  (oC a <|
 oE a <|
 .ret (.inr a))
def lI q1 s:=T.loop (gS q1) s
def gG  : ((List Int)×(List Int))->T (((List Int)×(List Int))⊕((List Int)))
 | (d,a) =>
 .ite (decide (0<(d.length:Int)))
  (T.bind (dD d 1000000000) λ(c,e) =>
 oC a <|
 oE a <|
 T.bind (lI c (e,(0,a))) λb =>
 oC b <|
 oE b <|
 .ret (.inl (c,b)))
  (oC a <|
 oE a <|
 .ret (.inr a))
def mV(s:((List Int)×(List Int))):T ((List Int)):=T.loop (gG ) s
def gp  : ((Nat×Nat)×(List Int))->T (((Nat×Nat)×(List Int))⊕(((Nat×Nat)×(List Int))))
 | (b,a)=>let c:=zF ((Nat.cast b.2:Int)-1);
 .zM (((decide (1<(Nat.cast b.2:Int)))=true)->((qz c b.2)/\(mK a.length a.length (b.1+(Int.toNat c)) a.length))) <|
 .ite ((decide (1<(Nat.cast b.2:Int)))&&((yJ a (b.1+(Int.toNat c)) (zj (.int .u8)))==48))
  (.zM (bf 0 c b.2) <|
 oE a <|
 oE a <|
 .ret (.inl (((b.1+(Int.toNat 0)),((Int.toNat c)-(Int.toNat 0))),a)))
  (oE a <|
 oE a <|
 .ret (.inr (b,a)))
def Zf(s:((Nat×Nat)×(List Int))):T (((Nat×Nat)×(List Int))):=T.loop (gp ) s
def dE(f:(List Int)):T zf :=
 T.bind (bc f) λd =>
 .ite ((d.length:Int)==0)
  (.ret [48])
  (oZ <|
 T.bind (mV  (d,[])) λa =>
 oE a <|
 oE a <|
 T.bind (Zf  ((0,a.length),a)) λ(b,c) =>
 oE c <|
 oE c <|
 T.bind (wH b c) λe =>
 .zM (c.length=e.length) <|
 .ret (qK (List.drop b.1 (List.take (b.1+b.2) e))))
def strings_Repeat(b:zf)(a:Int):T zf :=
 .zM (0<=a/\a<=9223372036854775807/\b.length*(Int.toNat a)<=140737488355328) <|
 .ret (jS b (Int.toNat a))
def ft(a:zf)(e:Int):T zf :=
 .ite (e==0)
  (.ret a)
  (T.bind (strings_Repeat [48] (mj 0 (zF ((zF (e+1))-(a.length:Int))))) λb=>let d:=((cat b a).length:Int); let c:=zF (d-e);
 oK b a <|
 .zM (bf 0 c (cat b a).length) <|
 oK (vv 0 c (cat b a)) [46] <|
 .zM (bf c d (cat b a).length) <|
 oK (cat (vv 0 c (cat b a)) [46]) (vv c d (cat b a)) <|
 .ret (cat (cat (vv 0 c (cat b a)) [46]) (vv c d (cat b a))))
def kv  : (Int×Rat)->T ((Int×Rat)⊕(Rat⊕(zf×Bool×Rat)))
 | (b,a) =>
 .ite (decide (b<61))
  (T.bind (pI b) λe =>
 T.bind (pZ a.2.1 e) λf =>
 T.bind (yF f a.2.2.1) λ(g,h,j) =>
 .ite ((h.length:Int)==0)
  (T.bind (pc a) λc =>
 T.bind (dE g) λi =>
 T.bind (ft i b) λd =>
 oK c d <|
 .ret (.inr (.inr ((cat c d),(true,a)))))
  (.ret (.inl ((zF (b+1)),a))))
  (.ret (.inr (.inl a)))
def Qc(s:(Int×Rat)):T (Rat⊕(zf×Bool×Rat)):=T.loop (kv ) s
def iI(d:Rat):T (zf×Bool) :=
 T.bind (gL d) λa =>
 T.bind (Qc  (0,a)) <|
 Sum.elim (λe =>
 .ret ([],false))
  (λ(b,c,f) =>
 .ret (b,c))
def lF(a:Rat):T Bool :=
 T.bind (T.bind (tx a) λb =>
 .ite (!b)
  (.ret true)
  (.ite a.1
  (.ret true)
  (T.bind (dF a) λc =>
 .ret c)):T (Bool)) λd =>
 .ite d
  (.ret false)
  (T.bind (iI a) λ(f,e) =>
 .ret e)
def cp(a:Rat):T Bool :=
 .ite (!a.1)
  (.ite ((a.2.1.length:Int)==0)
  (.ite ((a.2.2.1.length:Int)==0)
  (.ret true)
  (T.bind (tx a) λb =>
 .ret b))
  (.ret false))
  (.ret false)
def yV(a:AM.Expr):T Bool :=
 T.bind (r9 (Expr.kind a)) λb =>
 .ite (((Expr.kids a).length:Int) != b)
  (.ret false)
  (.ite ((Expr.kind a)==1)
  (T.bind (lF (Expr.num a)) λc =>
 .ite c
  (.ret (zl (Expr.name a) []))
  (.ret false))
  (.ite ((Expr.kind a)==2)
  (T.bind (cp (Expr.num a)) λd =>
 .ite d
  (T.bind (xn (Expr.name a)) λe =>
 .ret e)
  (.ret false))
  (T.bind (cp (Expr.num a)) λf =>
 .ite f
  (.ret (zl (Expr.name a) []))
  (.ret false))))
def j8(c:AM.Expr->Int->Int->T (Bool×Int))(d:AM.Expr)(e:Int)(f:Int):T (Bool×Int) :=
 T.bind (c d (zF (e+1)) f) λ(a,b) =>
 .ret ((!a),b)
def zC(g:AM.Expr->Int->Int->T (Bool×Int))(e:(List AM.Expr))(h:Int):((Int×Unit)×Int×Int)->T (((Int×Unit)×Int×Int)⊕(Int⊕(Int×Int)))
 | (c,a,d) =>
 .ite (decide (a<h))
  (oI a e <|
 T.bind ((j8 g) (nth e a (zj .expr)) c.1 d) λ(f,b) =>
 .ite f
  (.ret (.inr (.inr (a,b))))
  (.ret (.inl ((c.1,()),((zF (a+1)),b)))))
  (.ret (.inr (.inl d)))
def zP self_expr_may s1 x s:=T.loop (zC self_expr_may s1 x) s
def qC(e:AM.Expr->Int->Int->T (Bool×Int))(a:(List AM.Expr))(f:(Int×Unit))(g:Int):T (Int×Int) :=
 T.bind (zP e a (a.length:Int) ((f.1,()),(0,g))) <|
 Sum.elim (λb =>
 .ret ((-1),b))
  (λ(c,d) =>
 .ret (c,d))
def q8(c:AM.Expr->Int->Int->T (Bool×Int))(d:(List AM.Expr))(e:(Int×Unit))(f:Int):T (Bool×Int) :=
 T.bind ((qC c) d (e.1,()) f) λ(a,b) =>
 .ret ((decide (0<=a)),b)
def gW(i:AM.Expr->Int->Int->T (Bool×Int))(c:AM.Expr)(d:Int)(a:Int):T (Bool×Int) :=
 T.bind (.ite (decide ((zF (a-1))<0))
  (.ret (true,(zF (a-1))))
  (.ite (decide (32<=d))
  (.ret (true,(zF (a-1))))
  (T.bind (yV c) λe =>
 .ret ((!e),(zF (a-1))))):T ((Bool×Int))) λ(f,b) =>
 .ite f
  (.ret (false,b))
  (T.bind ((q8 i) (Expr.kids c) (d,()) b) λ(g,h) =>
 .ret ((!g),h))
def jP(e:AM.Expr)(deep:Int)(left:Int):T (Bool×Int):=T.fix (λF x=>gW (λy0 y1 y2=>F (y0,y1,y2)) x.1 x.2.1 x.2.2) (e,deep,left)
def uz(b:AM.Expr):T Bool :=
 T.bind (jP b 0 256) λ(a,c) =>
 .ret a
def xK  : T (List zf) :=
 .ret ([[114,101,113,117,105,114,101,100],[115,116,114,111,110,103],[109,101,100,105,117,109],[119,101,97,107]]:List zf)
def wg(a:qG):T Bool :=
 T.bind (xn a.1) λb =>
 .ite (!b)
  (.ret true)
  (.ite (decide (a.2.1<(0:Int)))
  (.ret true)
  (T.bind (xK) λc =>
 .ite (decide ((c.length:Int)<=a.2.1))
  (.ret true)
  (T.bind (kz a.2.2.1) λd =>
 .ite (!d)
  (.ret true)
  (T.bind (uz a.2.2.2.1) λe =>
 .ite (!e)
  (.ret true)
  (T.bind (uz a.2.2.2.2.1) λf =>
 .ret (!f))))))
def xj(b:(List qG))(d:qG->T Bool)(e:Int):Int->T (Int⊕(Unit⊕Int))
 | a =>
 .ite (decide (a<e))
  (oI a b <|
 T.bind (d (nth b a (zj zX))) λc =>
 .ite c
  (.ret (.inr (.inr a)))
  (.ret (.inl (zF (a+1)))))
  (.ret (.inr (.inl ())))
def jn s1 f x s:=T.loop (xj s1 f x) s
def wI(a:(List qG))(c:qG->T Bool):T Int :=
 T.bind (jn a c (a.length:Int) 0) <|
 Sum.elim (λ_ =>
 .ret (-1))
  (λb =>
 .ret b)
def xk(b:(List qG))(c:qG->T Bool):T Bool :=
 T.bind (wI b c) λa =>
 .ret (decide (0<=a))
def j6(l:Form)(c:(List Check))(m:Int):(Int×Int)->T ((Int×Int)⊕(Unit⊕Bool))
 | (k,b)=>let a:=nth c b (zj zD);
 .ite (decide (b<m))
  (oI b c <|
 T.bind (T.bind (xn a.1) λd =>
 .ite (!d)
  (.ret (true,a))
  (T.bind (hZ a.2.1 k (l.2.2.1.length:Int)) λe =>
 .ite (!e)
  (.ret (true,a))
  (.ite (decide (a.2.2.1<(0:Int)))
  (.ret (true,a))
  (T.bind (wM) λf =>
 .ite (decide ((f.length:Int)<=a.2.2.1))
  (.ret (true,a))
  (T.bind (uz (Expr.mk (Expr.kind a.2.2.2.1) ((Expr.num a.2.2.2.1).1,((Expr.num a.2.2.2.1).2.1,((Expr.num a.2.2.2.1).2.2.1,()))) (Expr.name a.2.2.2.1) (Expr.kids a.2.2.2.1))) λg =>
 .ite (!g)
  (.ret (true,a))
  (T.bind (uz (Expr.mk (Expr.kind a.2.2.2.2.1) ((Expr.num a.2.2.2.2.1).1,((Expr.num a.2.2.2.2.1).2.1,((Expr.num a.2.2.2.2.1).2.2.1,()))) (Expr.name a.2.2.2.2.1) (Expr.kids a.2.2.2.2.1))) λh =>
 .ret ((!h),a)))))):T ((Bool×Check))) λ(i,j) =>
 .ite i
  (.ret (.inr (.inr false)))
  (.ret (.inl (j.2.1,(zF (b+1))))))
  (.ret (.inr (.inl ())))
def ng f1 x x1 s:=T.loop (j6 f1 x x1) s
def dz(a:Form):T Bool :=
 T.bind (ng a a.2.2.2.2.2.1 (a.2.2.2.2.2.1.length:Int) (0,0)) <|
 Sum.elim (λ_ =>
 T.bind (xk a.2.2.2.2.1 (λb=>wg b)) λc =>
 .ret (!c))
  (λd =>
 .ret d)
def iu(v:Unit)(l:List Int):T (Unit×List Int):=.ret (v,l)
def q9(b:zf)(e:(Unit))(c:(List Int)):T (Int×(Unit)×(List Int)) :=
 oC c <|
 oE c <|
 T.bind (iu () c) λ(d,a) =>
 .zM (KF a.length a.length 0 a.length a.length (bytesOf b).length 1) <|
 oM (a.length+(bytesOf b).length) (a++(bytesOf b)).length <|
 .ret ((b.length:Int),((),(a++(bytesOf b))))
def iT(g:Rat):T zf :=
 T.bind (gL g) λa =>
 T.bind (pc a) λb =>
 T.bind (dE a.2.1) λc =>
 oK b c <|
 T.bind (yB 1) λe =>
 T.bind (mU a.2.2.1 e) λf =>
 .ite (f != 0)
  (T.bind (dE a.2.2.1) λd =>
 oK [47] d <|
 oK (cat b c) (cat [47] d) <|
 .ret (cat (cat b c) (cat [47] d)))
  (.ret (cat b c))
def eI(a:zf):T zf :=
 .ite (zl a [])
  (.ret [])
  (oK [32,119,104,101,110,32] a <|
 .ret (cat [32,119,104,101,110,32] a))
def strconv_Itoa(a:Int):T zf :=
 .zM ((-9223372036854775808)<=a/\a<=9223372036854775807) <|
 .ret (nh a)
def fK(a:Field):T zf :=
 let c:=cat [102,105,101,108,100,32] a.1; let b:=bif a.2.2.1 then(cat c [32,109,117,115,116])else c;  oK [102,105,101,108,100,32] a.1 <|
 .zM ((a.2.2.1=true)->((c.length+([32,109,117,115,116]:zf).length)<=4611686018427387904)) <|
 .ite (decide ((0:Int)<a.2.2.2.1))
  (T.bind (strconv_Itoa a.2.2.2.1) λe=>let d:=cat [32,115,99,97,108,101,32] e;
 oK [32,115,99,97,108,101,32] e <|
 oK b d <|
 oK (cat b d) [10] <|
 .ret (cat (cat b d) [10]))
  (oK b [10] <|
 .ret (cat b [10]))
def br(a:AM.Expr):T Int :=
 .ite (bif ((Expr.kind a)==3)then((Expr.kind a)==3)else((Expr.kind a)==4))
  (.ret 1)
  (.ite (bif ((Expr.kind a)==5)then((Expr.kind a)==5)else((Expr.kind a)==6))
  (.ret 2)
  (.ite ((Expr.kind a)==7)
  (.ret 3)
  (.ret 4)))
def yY(c:AM.Expr->T zf)(b:AM.Expr)(f:Int):T zf :=
 T.bind (br b) λd =>
 .ite (decide (d<f))
  (T.bind (c b) λa =>
 oK [40] a <|
 oK (cat [40] a) [41] <|
 .ret (cat (cat [40] a) [41]))
  (T.bind (c b) λe =>
 .ret e)
def dt(d:AM.Expr->T zf)(a:AM.Expr):T zf :=
 T.bind (.ite ((Expr.kind a)==1)
  (T.bind (iI (Expr.num a)) λ(g,k) =>
 .ret (.inr g))
  (.ite ((Expr.kind a)==2)
  (.ret (.inr (Expr.name a)))
  (.ite ((Expr.kind a)==7)
  (oI 0 (Expr.kids a) <|
 T.bind ((yY d) (nth (Expr.kids a) 0 (zj .expr)) 3) λe =>
 oK [45] e <|
 .ret (.inr (cat [45] e)))
  (.ite ((Expr.kind a)==3)
  (.ret (.inl [32,43,32]))
  (.ite ((Expr.kind a)==4)
  (.ret (.inl [32,45,32]))
  (.ite ((Expr.kind a)==5)
  (.ret (.inl [32,42,32]))
  (.ite ((Expr.kind a)==6)
  (.ret (.inl [32,47,32]))
  (.ret (.inl [])))))))):T (zf⊕zf)) <|
 Sum.elim (λb =>
 oI 0 (Expr.kids a) <|
 T.bind (br a) λh =>
 T.bind ((yY d) (nth (Expr.kids a) 0 (zj .expr)) h) λc =>
 oK c b <|
 oI 1 (Expr.kids a) <|
 T.bind (br a) λi =>
 T.bind ((yY d) (nth (Expr.kids a) 1 (zj .expr)) (zF (i+1))) λf =>
 oK (cat c b) f <|
 .ret (cat (cat c b) f))
  (λj =>
 .ret j)
def lV(e:AM.Expr):T zf:=T.fix (λF x=>dt (λy0=>F (y0)) x) e
def eQ(a:AM.Expr):T zf :=
 T.bind (uz a) λb =>
 .ite (!b)
  (.ret [])
  (T.bind (lV a) λc =>
 .ret c)
def c8(e:AM.Expr)(a:zf)(f:AM.Expr):T zf :=
 T.bind (eQ e) λc=>let b:=cat (cat [32,58,32] c) [32];
 oK [32,58,32] c <|
 oK (cat [32,58,32] c) [32] <|
 oK b a <|
 oK (cat b a) [32] <|
 T.bind (eQ f) λd =>
 oK (cat (cat b a) [32]) d <|
 oK (cat (cat (cat b a) [32]) d) [10] <|
 .ret (cat (cat (cat (cat b a) [32]) d) [10])
def uZ(f:Int)(k:Form)(d:(List Field))(g:Int):(Int×(Unit)×(List Int))->T ((Int×(Unit)×(List Int))⊕(((Unit)×(List Int))))
 | (b,j,a) =>
 .ite (decide (b<g))
  (oI b d <|
 .ite ((nth d b (zj zy)).2.1==f)
  (T.bind (fK (nth d b (zj zy))) λe =>
 oC a <|
 oE a <|
 T.bind (q9 e () a) λ(h,i,c) =>
 oC c <|
 oE c <|
 .ret (.inl ((zF (b+1)),((),c))))
  (oC a <|
 oE a <|
 .ret (.inl ((zF (b+1)),((),a)))))
  (oC a <|
 oE a <|
 .ret (.inr ((),a)))
def ni i1 f1 x x1 s:=T.loop (uZ i1 f1 x x1) s
def j4(h:Int)(g:(List Check))(i:Int):(Int×(Unit)×(List Int))->T ((Int×(Unit)×(List Int))⊕(((Unit)×(List Int))))
 | (c,l,b)=>let a:=nth g c (zj zD);
 .ite (decide (c<i))
  (oI c g <|
 .ite (a.2.1==h)
  (oK [99,104,101,99,107,32] a.1 <|
 T.bind (wM) λe =>
 .zM (qz a.2.2.1 e.length) <|
 T.bind (c8 (Expr.mk (Expr.kind a.2.2.2.1) ((Expr.num a.2.2.2.1).1,((Expr.num a.2.2.2.1).2.1,((Expr.num a.2.2.2.1).2.2.1,()))) (Expr.name a.2.2.2.1) (Expr.kids a.2.2.2.1)) (nth e a.2.2.1 (zj .str)) (Expr.mk (Expr.kind a.2.2.2.2.1) ((Expr.num a.2.2.2.2.1).1,((Expr.num a.2.2.2.2.1).2.1,((Expr.num a.2.2.2.2.1).2.2.1,()))) (Expr.name a.2.2.2.2.1) (Expr.kids a.2.2.2.2.1))) λf =>
 oK (cat [99,104,101,99,107,32] a.1) f <|
 oC b <|
 oE b <|
 T.bind (q9 (cat (cat [99,104,101,99,107,32] a.1) f) () b) λ(j,k,d) =>
 oC d <|
 oE d <|
 .ret (.inl ((zF (c+1)),((),d))))
  (oC b <|
 oE b <|
 .ret (.inl ((zF (c+1)),((),b)))))
  (oC b <|
 oE b <|
 .ret (.inr ((),b)))
def mY i2 x3 x4 s:=T.loop (j4 i2 x3 x4) s
def dc(a:Form)(b:Int)(m:(Unit))(g:(List Int)):T ((Unit)×(List Int)) :=
 let h:=cat [112,97,103,101,32] (nth a.2.2.1 b (zj zO)).1;  oI b a.2.2.1 <|
 oK [112,97,103,101,32] (nth a.2.2.1 b (zj zO)).1 <|
 oI b a.2.2.1 <|
 T.bind (eI (nth a.2.2.1 b (zj zO)).2.1) λc =>
 oK h c <|
 oK (cat h c) [10] <|
 oC g <|
 oE g <|
 T.bind (q9 (cat (cat h c) [10]) () g) λ(i,j,d) =>
 oC d <|
 oE d <|
 T.bind (ni b a a.2.2.2.1 (a.2.2.2.1.length:Int) (0,((),d))) λ(k,e) =>
 oC e <|
 oE e <|
 T.bind (mY b a.2.2.2.2.2.1 (a.2.2.2.2.2.1.length:Int) (0,((),e))) λ(l,f) =>
 oC f <|
 oE f <|
 .ret ((),f)
def mB(v:Unit)(l:List Int):T (zf×Unit):=TJ l
def jB(k:Form)(e:(List Switch))(g:Int):(Int×(Unit)×(List Int))->T ((Int×(Unit)×(List Int))⊕(((Unit)×(List Int))))
 | (b,j,a)=>let c:=nth e b (zj zt); let f:=bif c.2.1 then[32,111,110,10]else[32,111,102,102,10];
 .ite (decide (b<g))
  (oI b e <|
 oK [115,119,105,116,99,104,32] c.1 <|
 oK (cat [115,119,105,116,99,104,32] c.1) f <|
 oC a <|
 oE a <|
 T.bind (q9 (cat (cat [115,119,105,116,99,104,32] c.1) f) () a) λ(h,i,d) =>
 oC d <|
 oE d <|
 .ret (.inl ((zF (b+1)),((),d))))
  (oC a <|
 oE a <|
 .ret (.inr ((),a)))
def nU f1 x x1 s:=T.loop (jB f1 x x1) s
def jE(l:Form)(g:(List Param))(h:Int):(Int×(Unit)×(List Int))->T ((Int×(Unit)×(List Int))⊕(((Unit)×(List Int))))
 | (c,k,a)=>let b:=nth g c (zj zw); let d:=cat [112,97,114,97,109,32] b.1;
 .ite (decide (c<h))
  (oI c g <|
 oK [112,97,114,97,109,32] b.1 <|
 oK d [32] <|
 T.bind (iT (b.2.1.1,(b.2.1.2.1,(b.2.1.2.2.1,())))) λe =>
 oK (cat d [32]) e <|
 oK (cat (cat d [32]) e) [10] <|
 oC a <|
 oE a <|
 T.bind (q9 (cat (cat (cat d [32]) e) [10]) () a) λ(i,j,f) =>
 oC f <|
 oE f <|
 .ret (.inl ((zF (c+1)),((),f))))
  (oC a <|
 oE a <|
 .ret (.inr ((),a)))
def oX f2 x3 x4 s:=T.loop (jE f2 x3 x4) s
def jX(d:Form)(e:Int):(Int×(Unit)×(List Int))->T ((Int×(Unit)×(List Int))⊕(((Unit)×(List Int))))
 | (c,g,a) =>
 .ite (decide (c<e))
  (oC a <|
 oE a <|
 T.bind (dc d c () a) λ(f,b) =>
 oC b <|
 oE b <|
 .ret (.inl ((zF (c+1)),((),b))))
  (oC a <|
 oE a <|
 .ret (.inr ((),a)))
def oJ f3 x6 s:=T.loop (jX f3 x6) s
def jN(i:(List qG))(j:Int):(Int×(Unit)×(List Int))->T ((Int×(Unit)×(List Int))⊕(((Unit)×(List Int))))
 | (d,m,b)=>let a:=nth i d (zj zX);
 .ite (decide (d<j))
  (oI d i <|
 T.bind (xK) λe=>let c:=cat [114,117,108,101,32] (nth e a.2.1 (zj .str));
 .zM (qz a.2.1 e.length) <|
 oK [114,117,108,101,32] (nth e a.2.1 (zj .str)) <|
 oK c [32] <|
 oK (cat c [32]) a.1 <|
 T.bind (eI a.2.2.1) λf =>
 oK (cat (cat c [32]) a.1) f <|
 T.bind (c8 (Expr.mk (Expr.kind a.2.2.2.1) ((Expr.num a.2.2.2.1).1,((Expr.num a.2.2.2.1).2.1,((Expr.num a.2.2.2.1).2.2.1,()))) (Expr.name a.2.2.2.1) (Expr.kids a.2.2.2.1)) [61] (Expr.mk (Expr.kind a.2.2.2.2.1) ((Expr.num a.2.2.2.2.1).1,((Expr.num a.2.2.2.2.1).2.1,((Expr.num a.2.2.2.2.1).2.2.1,()))) (Expr.name a.2.2.2.2.1) (Expr.kids a.2.2.2.2.1))) λh =>
 oK (cat (cat (cat c [32]) a.1) f) h <|
 oC b <|
 oE b <|
 T.bind (q9 (cat (cat (cat (cat c [32]) a.1) f) h) () b) λ(k,l,g) =>
 oC g <|
 oE g <|
 .ret (.inl ((zF (d+1)),((),g))))
  (oC b <|
 oE b <|
 .ret (.inr ((),b)))
def oc x8 x9 s:=T.loop (jN x8 x9) s
def cu(a:Form):T zf :=
 oZ <|
 T.bind (nU a a.1 (a.1.length:Int) (0,((),[]))) λ(g,b) =>
 oC b <|
 oE b <|
 T.bind (oX a a.2.1 (a.2.1.length:Int) (0,((),b))) λ(h,c) =>
 oC c <|
 oE c <|
 T.bind (oJ a (a.2.2.1.length:Int) (0,((),c))) λ(i,d) =>
 oC d <|
 oE d <|
 T.bind (oc a.2.2.2.2.1 (a.2.2.2.2.1.length:Int) (0,((),d))) λ(j,e) =>
 oC e <|
 oE e <|
 T.bind (mB () e) λ(f,k) =>
 .ret f
def dS(a:Form):T Bool :=
 T.bind (fO a) λb =>
 .ite b
  (T.bind (dm a) λc =>
 .ite c
  (T.bind (dz a) λd =>
 .ite d
  (T.bind (cu a) λe =>
 .ret (decide ((e.length:Int)<=16384)))
  (.ret false))
  (.ret false))
  (.ret false)
def jQ(a:Form):T zf :=
 T.bind (dS a) λb =>
 .ite (!b)
  (.ret [])
  (T.bind (cu a) λc =>
 .ret c)
def k8(a:Int):T Bool :=
 .ret ((decide (97<=a))&&(decide (a<=122)))
def lY(a:Int):T Bool :=
 .ret ((decide (48<=a))&&(decide (a<=57)))
def kh(b:zf):Int->T (Int⊕(Unit⊕Bool))
 | a =>
 .ite (decide (a<(b.length:Int)))
  (T.bind (oI a b <|
 T.bind (k8 (qp b a)) λc =>
 .ite (!c)
  (oI a b <|
 T.bind (lY (qp b a)) λd =>
 .ite (!d)
  (oI a b <|
 .ret ((qp b a) != 95))
  (.ret false))
  (.ret false):T (Bool)) λe =>
 .ite e
  (.ret (.inr (.inr false)))
  (.ret (.inl (zF (a+1)))))
  (.ret (.inr (.inl ())))
def Zs s1 s:=T.loop (kh s1) s
def vZ(a:zf):T Bool :=
 T.bind (.ite (decide ((a.length:Int)<1))
  (.ret true)
  (.ite (decide (24<(a.length:Int)))
  (.ret true)
  (oI 0 a <|
 T.bind (k8 (qp a 0)) λb =>
 .ret (!b))):T (Bool)) λc =>
 .ite c
  (.ret false)
  (T.bind (Zs a 1) <|
 Sum.elim (λ_ =>
 .ret true)
  (λd =>
 .ret d))
def gu(b:(List Int)):Int->T (Int⊕(Int))
 | a =>
 .zM (((decide (0<a))=true)->(qz (zF (a-1)) b.length)) <|
 .ite ((decide (0<a))&&((nth b (zF (a-1)) (zj (.int .u32)))==0))
  (.ret (.inl (zF (a-1))))
  (.ret (.inr a))
def tT a1 s:=T.loop (gu a1) s
def qR(a:(List Int)):T (List Int) :=
 T.bind (tT a (a.length:Int)) λb =>
 .zM (bf 0 b a.length) <|
 .zM (KF 0 0 0 0 0 (vr (e:=(.int .u32)) 0 b a).length 4) <|
 .zM ((0+(vr (e:=(.int .u32)) 0 b a).length)=(0+(vr (e:=(.int .u32)) 0 b a).length)) <|
 .ret (List.drop 0 (List.take (0+(0+(vr (e:=(.int .u32)) 0 b a).length)) (vr (e:=(.int .u32)) 0 b a)))
def eW(c:(List Int)):(Int×Int)->T ((Int×Int)⊕(Int))
 | (b,a) =>
 .ite (decide (0<=a))
  (.zM (0<=(32:Int)) <|
 oI a c <|
 .ret (.inl ((tJ .u64 (yD .u64 b 32) (zN (nth c a (zj (.int .u32))))),(zF (a-1)))))
  (.ret (.inr b))
def U7 t1 s:=T.loop (eW t1) s
def tR(c:(List Int)):T (Int×Bool) :=
 T.bind (qR c) λa =>
 .ite (decide (2<(a.length:Int)))
  (.ret (0,false))
  (T.bind (U7 a (0,(zF ((a.length:Int)-1)))) λb =>
 .ret (b,true))
def rf(a:Int):T (List Int) :=
 .zM (0<=(32:Int)) <|
 T.bind (qR ([(xX a),(xX (wD .u64 a 32))]:List Int)) λb =>
 .ret b
def bU(e:(List Int))(c:Int):(Int×Int×(List Int))->T ((Int×Int×(List Int))⊕((Int×(List Int))))
 | (d,b,a)=>let f:=List.set a (0+(Int.toNat b)) (xX (zN (Int.tdiv (tJ .u64 (yD .u64 d 32) (zN (nth e b (zj (.int .u32))))) c)));
 .ite (decide (0<=b))
  (.zM (0<=(32:Int)) <|
 oI b e <|
 .zM (c≠0) <|
 oI b a <|
 .zM (mK a.length a.length (0+(Int.toNat b)) a.length) <|
 .zM (c≠0) <|
 oM a.length f.length <|
 .ret (.inl ((Int.tmod (tJ .u64 (yD .u64 d 32) (zN (nth e b (zj (.int .u32))))) c),((zF (b-1)),f))))
  (oC a <|
 oE a <|
 .ret (.inr (d,a)))
def se a1 by_1 s:=T.loop (bU a1 by_1) s
def bN(a:(List Int))(e:Int):T ((List Int)×Int) :=
 .zM (Qt (a.length:Int) (a.length:Int) 4) <|
 oM (Int.toNat (a.length:Int)) (List.replicate (Int.toNat (a.length:Int)) (0:Int)).length <|
 T.bind (se a e (0,((zF ((a.length:Int)-1)),(List.replicate (Int.toNat (a.length:Int)) 0)))) λ(c,b) =>
 oE b <|
 T.bind (qR (List.drop 0 (List.take (0+b.length) b))) λd =>
 .ret (d,c)
def gx(a:(List Int))(b:Int):T Int :=
 .ite (decide (b<(a.length:Int)))
  (oI b a <|
 .ret (zN (nth a b (zj (.int .u32)))))
  (.ret 0)
def sF(c:(List Int))(d:Int):(Int×(List Int))->T ((Int×(List Int))⊕((List Int)))
 | (b,a) =>
 .ite (decide (b<(c.length:Int)))
  (T.bind (gx c b) λf =>
 T.bind (gx c (zF (b+1))) λg=>let e:=a++([(xX (wD .u64 (tJ .u64 f (yD .u64 g 32)) d))]:List Int);
 .zM (0<=(32:Int)) <|
 .zM (0<=d) <|
 oA a 4 <|
 oM (a.length+1) e.length <|
 .ret (.inl ((zF (b+1)),e)))
  (oC a <|
 oE a <|
 .ret (.inr a))
def J5 t1 by_ s:=T.loop (sF t1 by_) s
def bR(f:(List Int))(b:Int):(Int×Int×(List Int))->T ((Int×Int×(List Int))⊕((List Int)))
 | (e,d,a) =>
 .ite (decide (d<(zF ((f.length:Int)+1))))
  (T.bind (gx f d) λc =>
 .zM (0<=b) <|
 oA a 4 <|
 .zM (0<=(32:Int)) <|
 oM (a.length+1) (a++([(xX (tJ .u64 (yD .u64 c b) e))]:List Int)).length <|
 .ret (.inl ((wD .u64 (yD .u64 c b) 32),((zF (d+1)),(a++([(xX (tJ .u64 (yD .u64 c b) e))]:List Int))))))
  (oC a <|
 oE a <|
 .ret (.inr a))
def rY t2 by_1 s:=T.loop (bR t2 by_1) s
def lX(j:(List Int))(k:Int):T (List Int) :=
 let b:=G8 (mj k (-4096)) 4096; let g:=zF (Int.tdiv (zF (0-b)) (32:Int)); let c:=zF (Int.tdiv b (32:Int));  T.bind (qR j) λa =>
 .ite (decide (b<0))
  (.zM (32≠(0:Int)) <|
 .ite (decide ((a.length:Int)<=g))
  (.ret [])
  (.zM (bf g (a.length:Int) a.length) <|
 .zM (32≠(0:Int)) <|
 oZ <|
 T.bind (J5 (vr (e:=(.int .u32)) g (a.length:Int) a) (zN (Int.tmod (zF (0-b)) (32:Int))) (0,[])) λd =>
 oE d <|
 T.bind (qR (List.drop 0 (List.take (0+d.length) d))) λh =>
 .ret h))
  (.zM (32≠(0:Int)) <|
 .zM (Qt c c 4) <|
 .zM (32≠(0:Int)) <|
 oM (Int.toNat c) (List.replicate (Int.toNat c) (0:Int)).length <|
 T.bind (rY a (zN (Int.tmod b (32:Int))) (0,(0,(List.replicate (Int.toNat c) 0)))) λf =>
 oE f <|
 T.bind (qR (List.drop 0 (List.take (0+f.length) f))) λi =>
 .ret i)
def fM(f:(List Int))(g:(List Int)):(Int×Int×(List Int))->T ((Int×Int×(List Int))⊕((List Int)))
 | (e,b,a) =>
 .ite (decide (b<(zF ((mj (f.length:Int) (g.length:Int))+1))))
  (T.bind (gx f b) λc =>
 T.bind (gx g b) λd =>
 oA a 4 <|
 .zM (0<=(32:Int)) <|
 oM (a.length+1) (a++([(xX (zN ((zN (e+c))+d)))]:List Int)).length <|
 .ret (.inl ((wD .u64 (zN ((zN (e+c))+d)) 32),((zF (b+1)),(a++([(xX (zN ((zN (e+c))+d)))]:List Int))))))
  (oC a <|
 oE a <|
 .ret (.inr a))
def X6 a1 b1 s:=T.loop (fM a1 b1) s
def Qg(c:(List Int))(d:(List Int)):T (List Int) :=
 oZ <|
 T.bind (X6 c d (0,(0,[]))) λa =>
 oE a <|
 T.bind (qR (List.drop 0 (List.take (0+a.length) a))) λb =>
 .ret b
def cf(b:(List Int))(c:(List Int)):Int->T (Int⊕(Unit⊕Int))
 | a =>
 .ite (decide (0<=a))
  (oI a b <|
 oI a c <|
 .ite (decide ((nth b a (zj (.int .u32)))<(nth c a (zj (.int .u32)))))
  (.ret (.inr (.inr (-1))))
  (oI a b <|
 oI a c <|
 .ite (decide ((nth c a (zj (.int .u32)))<(nth b a (zj (.int .u32)))))
  (.ret (.inr (.inr 1)))
  (.ret (.inl (zF (a-1))))))
  (.ret (.inr (.inl ())))
def Xx x1 y1 s:=T.loop (cf x1 y1) s
def pq(d:(List Int))(e:(List Int)):T Int :=
 T.bind (qR d) λa =>
 T.bind (qR e) λb =>
 .ite ((a.length:Int) != (b.length:Int))
  (.ite (decide ((a.length:Int)<(b.length:Int)))
  (.ret (-1))
  (.ret 1))
  (T.bind (Xx a b (zF ((a.length:Int)-1))) <|
 Sum.elim (λ_ =>
 .ret 0)
  (λc =>
 .ret c))
def fA(f:(List Int))(h:(List Int)):(Int×Int×(List Int))->T ((Int×Int×(List Int))⊕((List Int)))
 | (e,c,a) =>
 .ite (decide (c<(f.length:Int)))
  (T.bind (gx f c) λb =>
 T.bind (gx h c) λd=>let g:=a++([(xX (zN ((bif (decide (b<(zN (d+e))))then(zN (b+4294967296))else b)-(zN (d+e)))))]:List Int);
 oA a 4 <|
 oM (a.length+1) g.length <|
 .ret (.inl ((bif (decide (b<(zN (d+e))))then 1 else 0),((zF (c+1)),g))))
  (oC a <|
 oE a <|
 .ret (.inr a))
def Xu a1 b1 s:=T.loop (fA a1 b1) s
def ZX(b:(List Int))(c:(List Int)):T ((List Int)×Bool) :=
 T.bind (pq b c) λd =>
 .ite (decide (d<0))
  (.ret ([],false))
  (oZ <|
 T.bind (Xu b c (0,(0,[]))) λa =>
 oE a <|
 T.bind (qR (List.drop 0 (List.take (0+a.length) a))) λe =>
 .ret (e,true))
def uF(i:(List Int))(j:(List Int)):((List Int)×Int×(List Int))->T (((List Int)×Int×(List Int))⊕(((List Int)×(List Int))))
 | (h,c,b)=>let d:=zF (Int.tdiv c (32:Int)); let e:=0+(Int.toNat d);
 .ite (decide (0<=c))
  (T.bind (lX h 1) λg =>
 T.bind (.zM (32≠(0:Int)) <|
 oI d i <|
 .zM (32≠(0:Int)) <|
 .zM (0<=(zN (Int.tmod c (32:Int)))) <|
 .ite ((Dn .u32 (wD .u32 (nth i d (zj (.int .u32))) (zN (Int.tmod c (32:Int)))) 1)==1)
  (T.bind (Qg g ([1]:List Int)) λl =>
 oC b <|
 oE b <|
 .ret (l,b))
  (oC b <|
 oE b <|
 .ret (g,b)):T (((List Int)×(List Int)))) λ(f,a)=>let k:=List.set a e (tJ .u32 (yJ a e (zj (.int .u32))) (yD .u32 1 (zN (Int.tmod c (32:Int)))));
 T.bind (pq f j) λm =>
 .ite (decide (0<=m))
  (T.bind (ZX f j) λ(n,o) =>
 .zM (32≠(0:Int)) <|
 .zM (32≠(0:Int)) <|
 oI d a <|
 .zM (mK a.length a.length e a.length) <|
 .zM (32≠(0:Int)) <|
 .zM (0<=(zN (Int.tmod c (32:Int)))) <|
 oI d a <|
 .zM (mK a.length a.length e a.length) <|
 oM a.length k.length <|
 .ret (.inl (n,((zF (c-1)),k))))
  (oC a <|
 oE a <|
 .ret (.inl (f,((zF (c-1)),a)))))
  (oC b <|
 oE b <|
 .ret (.inr (h,b)))
def dU a1 b1 s:=T.loop (uF a1 b1) s
def jC(a:(List Int))(d:(List Int)):T ((List Int)×(List Int)×Bool) :=
 T.bind (qR d) λg =>
 .ite ((g.length:Int)==0)
  (.ret ([],([],false)))
  (T.bind (tR a) λ(e,h) =>
 T.bind (tR d) λ(b,f) =>
 .ite (h&&f)
  (.zM (b≠0) <|
 T.bind (rf (zN (Int.tdiv e b))) λi =>
 .zM (b≠0) <|
 T.bind (rf (Int.tmod e b)) λj =>
 .ret (i,(j,true)))
  (.ite (f&&(decide (b<4294967296)))
  (T.bind (bN a b) λ(k,l) =>
 T.bind (rf l) λm =>
 .ret (k,(m,true)))
  (.zM (Qt (a.length:Int) (a.length:Int) 4) <|
 oM (Int.toNat (a.length:Int)) (List.replicate (Int.toNat (a.length:Int)) (0:Int)).length <|
 T.bind (dU a d ([],((zF ((zF (32*(a.length:Int)))-1)),(List.replicate (Int.toNat (a.length:Int)) 0)))) λ(n,c) =>
 oE c <|
 T.bind (qR (List.drop 0 (List.take (0+c.length) c))) λo =>
 T.bind (qR n) λp =>
 .ret (o,(p,true)))))
def cC  : ((List Int)×(List Int))->T (((List Int)×(List Int))⊕((List Int)))
 | (b,a) =>
 .ite (decide (0<(a.length:Int)))
  (T.bind (jC b a) λ(d,c,e) =>
 .ret (.inl (a,c)))
  (.ret (.inr b))
def XX(s:((List Int)×(List Int))):T ((List Int)):=T.loop (cC ) s
def Zt(d:(List Int))(e:(List Int)):T (List Int) :=
 T.bind (qR d) λa =>
 T.bind (qR e) λb =>
 T.bind (XX  (a,b)) λc =>
 .ret c
def je(c:Rat):T Rat :=
 T.bind (qR c.2.1) λa =>
 T.bind (qR c.2.2.1) λb =>
 .ite (((b.length:Int)==0)||((a.length:Int)==0))
  (.ret (false,(([]:List Int),(([1]:List Int),()))))
  (T.bind (Zt a b) λd =>
 T.bind (jC a d) λ(e,g,h) =>
 T.bind (jC b d) λ(f,i,j) =>
 .ret (c.1,(e,(f,()))))
def ja(b:(List Int))(c:(List Int)):Int->T (Int⊕(Unit⊕Bool))
 | a =>
 .ite (decide (a<(b.length:Int)))
  (oI a b <|
 oI a c <|
 .ite ((nth b a (zj (.int .u32))) != (nth c a (zj (.int .u32))))
  (.ret (.inr (.inr false)))
  (.ret (.inl (zF (a+1)))))
  (.ret (.inr (.inl ())))
def ik a1 b1 s:=T.loop (ja a1 b1) s
def yz(a:(List Int))(b:(List Int)):T Bool :=
 .ite ((a.length:Int) != (b.length:Int))
  (.ret false)
  (T.bind (ik a b 0) <|
 Sum.elim (λ_ =>
 .ret true)
  (λc =>
 .ret c))
def Q3(a:Rat):T Bool :=
 T.bind (je a) λb =>
 .ite (a.1==b.1)
  (T.bind (yz a.2.1 b.2.1) λc =>
 .ite c
  (T.bind (yz a.2.2.1 b.2.2.1) λd =>
 .ret d)
  (.ret false))
  (.ret false)
def lP(b:Rat):T Bool :=
 T.bind (je b) λa =>
 .ret ((decide (16<(a.2.1.length:Int)))||(decide (16<(a.2.2.1.length:Int))))
def dC(a:Rat):T Bool :=
 T.bind (Q3 a) λb =>
 .ite b
  (T.bind (lP a) λc =>
 .ret (!c))
  (.ret false)
def eL(a:zf):T Bool :=
 .ite (zl a [])
  (.ret true)
  (T.bind (vZ a) λb =>
 .ret b)
def cz(g:(List Int))(h:(List Int))(c:Int):(Int×Int×(List Int))->T ((Int×Int×(List Int))⊕((List Int)))
 | (f,b,a)=>let d:=0+(Int.toNat (zF (c+b)));
 .ite ((decide (b<(h.length:Int)))||(decide (0<f)))
  (.ite (decide ((a.length:Int)<=(zF (c+b))))
  (oC a <|
 oE a <|
 .ret (.inr a))
  (oI c g <|
 T.bind (gx h b) λi=>let e:=zN ((zN (f+(zN ((zN (nth g c (zj (.int .u32))))*i))))+(zN (yJ a d (zj (.int .u32)))));
 oI (zF (c+b)) a <|
 .zM (mK a.length a.length d a.length) <|
 oI (zF (c+b)) a <|
 .zM (mK a.length a.length d a.length) <|
 .zM (0<=(32:Int)) <|
 oM a.length (List.set a d (xX e)).length <|
 .ret (.inl ((wD .u64 e 32),((zF (b+1)),(List.set a d (xX e)))))))
  (oC a <|
 oE a <|
 .ret (.inr a))
def XS a2 b2 i1 s:=T.loop (cz a2 b2 i1) s
def fq(d:(List Int))(e:(List Int)):(Int×(List Int))->T ((Int×(List Int))⊕((List Int)))
 | (c,a) =>
 .ite (decide (c<(d.length:Int)))
  (oC a <|
 oE a <|
 T.bind (XS d e c (0,(0,a))) λb =>
 oC b <|
 oE b <|
 .ret (.inl ((zF (c+1)),b)))
  (oC a <|
 oE a <|
 .ret (.inr a))
def Xp a1 b1 s:=T.loop (fq a1 b1) s
def oh(c:(List Int))(d:(List Int)):T (List Int) :=
 let a:=zF ((c.length:Int)+(d.length:Int));  .zM (Qt a a 4) <|
 oM (Int.toNat a) (List.replicate (Int.toNat a) (0:Int)).length <|
 T.bind (Xp c d (0,(List.replicate (Int.toNat a) 0))) λb =>
 oE b <|
 T.bind (qR (List.drop 0 (List.take (0+b.length) b))) λe =>
 .ret e
def kV  : ((List Int)×zf)->T (((List Int)×zf)⊕(zf))
 | (c,a) =>
 .ite (decide (0<(c.length:Int)))
  (T.bind (bN c 10) λ(d,b) =>
 oK (qK ([(GW (zN (48+b)))]:List Int)) a <|
 .ret (.inl (d,(cat (qK ([(GW (zN (48+b)))]:List Int)) a))))
  (.ret (.inr a))
def iB(s:((List Int)×zf)):T (zf):=T.loop (kV ) s
def bJ(c:(List Int)):T zf :=
 T.bind (qR c) λa =>
 .ite ((a.length:Int)==0)
  (.ret [48])
  (T.bind (iB  (a,[])) λb =>
 .ret b)
def jU(b:Int):zf->T (zf⊕(zf))
 | a =>
 .ite (decide ((a.length:Int)<b))
  (oK [48] a <|
 .ret (.inl (cat [48] a)))
  (.ret (.inr a))
def nI least1 s:=T.loop (jU least1) s
def fy(c:(List Int))(d:Int):T zf :=
 T.bind (bJ c) λa =>
 T.bind (nI d a) λb =>
 .ret b
def dH(a:Bool):T zf :=
 .ite a
  (.ret [45])
  (.ret [])
def me(h:Bool)(g:(List Int))(c:Int):T zf :=
 T.bind (fy g (zF (c+1))) λa=>let b:=zF ((a.length:Int)-c); let d:=bif (decide (0<c))then(cat (cat (vv 0 b a) [46]) (vv b (a.length:Int) a))else a;
 .zM (((decide (0<c))=true)->((bf 0 b a.length)/\((((vv 0 b a).length+([46]:zf).length)<=4611686018427387904)/\((bf b (a.length:Int) a.length)/\(((cat (vv 0 b a) [46]).length+(vv b (a.length:Int) a).length)<=4611686018427387904))))) <|
 .ite h
  (T.bind (dH (decide (0<(g.length:Int)))) λe =>
 oK e d <|
 .ret (cat e d))
  (T.bind (dH false) λf =>
 oK f d <|
 .ret (cat f d))
def jf  : ((List Int)×Int×Rat)->T (((List Int)×Int×Rat)⊕(Rat⊕(zf×Bool×Rat)))
 | (c,b,a) =>
 .ite (decide (b<=60))
  (T.bind (oh a.2.1 c) λd =>
 T.bind (jC d a.2.2.1) λ(e,f,i) =>
 .ite ((f.length:Int)==0)
  (T.bind (me a.1 e b) λg =>
 .ret (.inr (.inr (g,(true,a)))))
  (T.bind (oh c ([10]:List Int)) λh =>
 .ret (.inl (h,((zF (b+1)),a)))))
  (.ret (.inr (.inl a)))
def sC(s:((List Int)×Int×Rat)):T (Rat⊕(zf×Bool×Rat)):=T.loop (jf ) s
def bL(d:Rat):T (zf×Bool) :=
 T.bind (je d) λa =>
 T.bind (sC  (([1]:List Int),(0,a))) <|
 Sum.elim (λe =>
 .ret ([],false))
  (λ(b,c,f) =>
 .ret (b,c))
def jJ(a:Rat):T Bool :=
 .ite (!a.1)
  (.ite ((a.2.1.length:Int)==0)
  (.ite ((a.2.2.1.length:Int)==0)
  (.ret true)
  (T.bind (Q3 a) λb =>
 .ret b))
  (.ret false))
  (.ret false)
def cg(d:AM.Expr->Int->T Bool)(e:Int)(b:AM.Expr)(f:Int):Int->T (Int⊕(Unit⊕Bool))
 | a =>
 .ite (decide (a<f))
  (oI a (Expr.kids b) <|
 T.bind (d (nth (Expr.kids b) a (zj .expr)) (zF (e+1))) λc =>
 .ite (!c)
  (.ret (.inr (.inr false)))
  (.ret (.inl (zF (a+1)))))
  (.ret (.inr (.inl ())))
def oz self_ref5_one deep1 e1 kids1 s:=T.loop (cg self_ref5_one deep1 e1 kids1) s
def mq(l:AM.Expr->Int->T Bool)(a:AM.Expr)(c:Int):T Bool :=
 .ite (decide (32<c))
  (.ret false)
  (T.bind (.ite ((Expr.kind a)==1)
  (T.bind (bL (Expr.num a)) λ(m,d) =>
 .ite (((Expr.kids a).length:Int)==0)
  (.ite (zl (Expr.name a) [])
  (T.bind (dC (Expr.num a)) λe =>
 .ite e
  (.ite (!(Expr.num a).1)
  (.ret (.inr d))
  (.ret (.inr false)))
  (.ret (.inr false)))
  (.ret (.inr false)))
  (.ret (.inr false)))
  (.ite ((Expr.kind a)==2)
  (.ite (((Expr.kids a).length:Int)==0)
  (T.bind (vZ (Expr.name a)) λf =>
 .ite f
  (T.bind (jJ (Expr.num a)) λg =>
 .ret (.inr g))
  (.ret (.inr false)))
  (.ret (.inr false)))
  (.ite ((Expr.kind a)==7)
  (.ret (.inl 1))
  (.ite ((Expr.kind a)==3)
  (.ret (.inl 2))
  (.ite ((Expr.kind a)==4)
  (.ret (.inl 2))
  (.ite ((Expr.kind a)==5)
  (.ret (.inl 2))
  (.ite ((Expr.kind a)==6)
  (.ret (.inl 2))
  (.ret (.inr false)))))))):T (Int⊕Bool)) <|
 Sum.elim (λb =>
 T.bind (.ite (((Expr.kids a).length:Int) != b)
  (.ret true)
  (.ite (!(zl (Expr.name a) []))
  (.ret true)
  (T.bind (jJ (Expr.num a)) λh =>
 .ret (!h))):T (Bool)) λi =>
 .ite i
  (.ret false)
  (T.bind (oz l c a b 0) <|
 Sum.elim (λ_ =>
 .ret true)
  (λj =>
 .ret j)))
  (λk =>
 .ret k))
def o5(e:AM.Expr)(deep:Int):T Bool:=T.fix (λF x=>mq (λy0 y1=>F (y0,y1)) x.1 x.2) (e,deep)
def y7(e:AM.Expr->T Int)(b:AM.Expr):(Int×Int)->T ((Int×Int)⊕(Int))
 | (c,a) =>
 .ite (decide (a<((Expr.kids b).length:Int)))
  (oI a (Expr.kids b) <|
 T.bind (e (nth (Expr.kids b) a (zj .expr))) λd =>
 .ret (.inl ((zF (c+d)),(zF (a+1)))))
  (.ret (.inr c))
def sw self_ref5_Nodes e1 s:=T.loop (y7 self_ref5_Nodes e1) s
def dy(b:AM.Expr->T Int)(c:AM.Expr):T Int :=
 T.bind (sw b c (1,0)) λa =>
 .ret a
def mf(e:AM.Expr):T Int:=T.fix (λF x=>dy (λy0=>F (y0)) x) e
def dv(a:AM.Expr):T Bool :=
 T.bind (o5 a 1) λb =>
 .ite b
  (T.bind (mf a) λc =>
 .ret (decide (c<=256)))
  (.ret false)
def kU(c:Form):(Int×Int)->T ((Int×Int)⊕(Unit⊕Bool))
 | (g,b)=>let a:=nth c.2.2.2.1 b (zj zy);
 .ite (decide (b<(c.2.2.2.1.length:Int)))
  (oI b c.2.2.2.1 <|
 T.bind (.ite (decide (a.2.1<g))
  (.ret (true,a))
  (.ite (decide ((c.2.2.1.length:Int)<=a.2.1))
  (.ret (true,a))
  (T.bind (vZ a.1) λd =>
 .ite (!d)
  (.ret (true,a))
  (.ite (decide (a.2.2.2.1<(0:Int)))
  (.ret (true,a))
  (.ret ((decide ((9:Int)<a.2.2.2.1)),a))))):T ((Bool×Field))) λ(e,f) =>
 .ite e
  (.ret (.inr (.inr false)))
  (.ret (.inl (f.2.1,(zF (b+1))))))
  (.ret (.inr (.inl ())))
def si f1 s:=T.loop (kU f1) s
def y3(c:Form):(Int×Int)->T ((Int×Int)⊕(Unit⊕Bool))
 | (i,b)=>let a:=nth c.2.2.2.2.2.1 b (zj zD);
 .ite (decide (b<(c.2.2.2.2.2.1.length:Int)))
  (oI b c.2.2.2.2.2.1 <|
 T.bind (.ite (decide (a.2.1<i))
  (.ret (true,a))
  (.ite (decide ((c.2.2.1.length:Int)<=a.2.1))
  (.ret (true,a))
  (T.bind (vZ a.1) λd =>
 .ite (!d)
  (.ret (true,a))
  (.ite (decide (a.2.2.1<(0:Int)))
  (.ret (true,a))
  (.ite (decide ((2:Int)<a.2.2.1))
  (.ret (true,a))
  (T.bind (dv (Expr.mk (Expr.kind a.2.2.2.1) ((Expr.num a.2.2.2.1).1,((Expr.num a.2.2.2.1).2.1,((Expr.num a.2.2.2.1).2.2.1,()))) (Expr.name a.2.2.2.1) (Expr.kids a.2.2.2.1))) λe =>
 .ite (!e)
  (.ret (true,a))
  (T.bind (dv (Expr.mk (Expr.kind a.2.2.2.2.1) ((Expr.num a.2.2.2.2.1).1,((Expr.num a.2.2.2.2.1).2.1,((Expr.num a.2.2.2.2.1).2.2.1,()))) (Expr.name a.2.2.2.2.1) (Expr.kids a.2.2.2.2.1))) λf =>
 .ret ((!f),a))))))):T ((Bool×Check))) λ(g,h) =>
 .ite g
  (.ret (.inr (.inr false)))
  (.ret (.inl (h.2.1,(zF (b+1))))))
  (.ret (.inr (.inl ())))
def sn f2 s:=T.loop (y3 f2) s
def mR(a:Form):T Bool :=
 T.bind (si a (0,0)) <|
 Sum.elim (λ_ =>
 T.bind (sn a (0,0)) <|
 Sum.elim (λ_ =>
 .ret true)
  (λb =>
 .ret b))
  (λc =>
 .ret c)
def mn(e:Rat):T zf :=
 T.bind (je e) λa =>
 T.bind (dH a.1) λb =>
 T.bind (bJ a.2.1) λc =>
 oK b c <|
 .zM ((((a.2.2.1.length:Int) != 1)=false)->(qz 0 a.2.2.1.length)) <|
 .ite (((a.2.2.1.length:Int) != 1)||((nth a.2.2.1 0 (zj (.int .u32))) != 1))
  (oK (cat b c) [47] <|
 T.bind (bJ a.2.2.1) λd =>
 oK (cat (cat b c) [47]) d <|
 .ret (cat (cat (cat b c) [47]) d))
  (.ret (cat b c))
def pN(a:zf):T zf :=
 .ite (zl a [])
  (.ret [])
  (oK [32,119,104,101,110,32] a <|
 .ret (cat [32,119,104,101,110,32] a))
def lJ(a:Field):T zf :=
 let c:=cat [102,105,101,108,100,32] a.1; let b:=bif a.2.2.1 then(cat c [32,109,117,115,116])else c; let d:=cat (cat b [32,115,99,97,108,101,32]) (qK ([(GW (zF (48+a.2.2.2.1)))]:List Int));  oK [102,105,101,108,100,32] a.1 <|
 .zM ((a.2.2.1=true)->((c.length+([32,109,117,115,116]:zf).length)<=4611686018427387904)) <|
 .ite (a.2.2.2.1 != 0)
  (oK b [32,115,99,97,108,101,32] <|
 oK (cat b [32,115,99,97,108,101,32]) (qK ([(GW (zF (48+a.2.2.2.1)))]:List Int)) <|
 oK d [10] <|
 .ret (cat d [10]))
  (oK b [10] <|
 .ret (cat b [10]))
def pe(a:Int):T Int :=
 .ite (bif (a==3)then(a==3)else(a==4))
  (.ret 1)
  (.ite (bif (a==5)then(a==5)else(a==6))
  (.ret 2)
  (.ite (a==7)
  (.ret 3)
  (.ret 4)))
def fx(b:AM.Expr->Int->T zf)(a:AM.Expr)(q:Int):T zf :=
 let e:=nth (Expr.kids a) 1 (zj .expr); let c:=nth (Expr.kids a) 0 (zj .expr);  T.bind (.ite ((Expr.kind a)==1)
  (T.bind (bL (Expr.num a)) λ(o,r) =>
 .ret o)
  (.ite ((Expr.kind a)==2)
  (.ret (Expr.name a))
  (.ite ((Expr.kind a)==7)
  (oI 0 (Expr.kids a) <|
 T.bind (b c 3) λj =>
 oK [45] j <|
 .ret (cat [45] j))
  (.ite ((Expr.kind a)==3)
  (oI 0 (Expr.kids a) <|
 T.bind (b c 1) λf =>
 oK f [32,43,32] <|
 oI 1 (Expr.kids a) <|
 T.bind (b e 2) λk =>
 oK (cat f [32,43,32]) k <|
 .ret (cat (cat f [32,43,32]) k))
  (.ite ((Expr.kind a)==4)
  (oI 0 (Expr.kids a) <|
 T.bind (b c 1) λg =>
 oK g [32,45,32] <|
 oI 1 (Expr.kids a) <|
 T.bind (b e 2) λl =>
 oK (cat g [32,45,32]) l <|
 .ret (cat (cat g [32,45,32]) l))
  (.ite ((Expr.kind a)==5)
  (oI 0 (Expr.kids a) <|
 T.bind (b c 2) λh =>
 oK h [32,42,32] <|
 oI 1 (Expr.kids a) <|
 T.bind (b e 3) λm =>
 oK (cat h [32,42,32]) m <|
 .ret (cat (cat h [32,42,32]) m))
  (.ite ((Expr.kind a)==6)
  (oI 0 (Expr.kids a) <|
 T.bind (b c 2) λi =>
 oK i [32,47,32] <|
 oI 1 (Expr.kids a) <|
 T.bind (b e 3) λn =>
 oK (cat i [32,47,32]) n <|
 .ret (cat (cat i [32,47,32]) n))
  (.ret []))))))):T (zf)) λd =>
 T.bind (pe (Expr.kind a)) λp =>
 .ite (decide (p<q))
  (oK [40] d <|
 oK (cat [40] d) [41] <|
 .ret (cat (cat [40] d) [41]))
  (.ret d)
def pC(e:AM.Expr)(asks:Int):T zf:=T.fix (λF x=>fx (λy0 y1=>F (y0,y1)) x.1 x.2) (e,asks)
def yq(a:AM.Expr):T zf :=
 T.bind (dv a) λb =>
 .ite (!b)
  (.ret [])
  (T.bind (pC a 1) λc =>
 .ret c)
def Qh(a:Int):T zf :=
 .ite (a==1)
  (.ret [60])
  (.ite (a==2)
  (.ret [60,61])
  (.ret [61]))
def bW(a:Int):T zf :=
 .ite (a==0)
  (.ret [114,101,113,117,105,114,101,100])
  (.ite (a==1)
  (.ret [115,116,114,111,110,103])
  (.ite (a==2)
  (.ret [109,101,100,105,117,109])
  (.ret [119,101,97,107])))
def gM(b:Form):(zf×Int)->T ((zf×Int)⊕(zf))
 | (d,a)=>let e:=cat d [115,119,105,116,99,104,32]; let c:=nth b.1 a (zj zt); let f:=bif c.2.1 then[32,111,110,10]else[32,111,102,102,10];
 .ite (decide (a<(b.1.length:Int)))
  (oI a b.1 <|
 oK d [115,119,105,116,99,104,32] <|
 oI a b.1 <|
 oK e c.1 <|
 oK (cat e c.1) f <|
 .ret (.inl ((cat (cat e c.1) f),(zF (a+1)))))
  (.ret (.inr d))
def Ze f1 s:=T.loop (gM f1) s
def gC(b:Form):(zf×Int)->T ((zf×Int)⊕(zf))
 | (c,a)=>let d:=cat (cat c [112,97,114,97,109,32]) (nth b.2.1 a (zj zw)).1;
 .ite (decide (a<(b.2.1.length:Int)))
  (oK c [112,97,114,97,109,32] <|
 oI a b.2.1 <|
 oK (cat c [112,97,114,97,109,32]) (nth b.2.1 a (zj zw)).1 <|
 oK d [32] <|
 oI a b.2.1 <|
 T.bind (mn (nth b.2.1 a (zj zw)).2.1) λe =>
 oK (cat d [32]) e <|
 oK (cat (cat d [32]) e) [10] <|
 .ret (.inl ((cat (cat (cat d [32]) e) [10]),(zF (a+1)))))
  (.ret (.inr c))
def ZP f2 s:=T.loop (gC f2) s
def gq(b:Form)(e:Int):(zf×Int)->T ((zf×Int)⊕(zf))
 | (c,a) =>
 .ite (decide (a<(b.2.2.2.1.length:Int)))
  (oI a b.2.2.2.1 <|
 .ite ((nth b.2.2.2.1 a (zj zy)).2.1==e)
  (oI a b.2.2.2.1 <|
 T.bind (lJ (nth b.2.2.2.1 a (zj zy))) λd =>
 oK c d <|
 .ret (.inl ((cat c d),(zF (a+1)))))
  (.ret (.inl (c,(zF (a+1))))))
  (.ret (.inr c))
def tZ f4 i3 s:=T.loop (gq f4 i3) s
def gE(h:Form)(k:Int):(zf×Int)->T ((zf×Int)⊕(zf))
 | (e,c)=>let i:=cat e [99,104,101,99,107,32]; let a:=nth h.2.2.2.2.2.1 c (zj zD); let j:=cat (cat i a.1) [32,58,32];
 .ite (decide (c<(h.2.2.2.2.2.1.length:Int)))
  (oI c h.2.2.2.2.2.1 <|
 .ite (a.2.1==k)
  (oK e [99,104,101,99,107,32] <|
 oK i a.1 <|
 oK (cat i a.1) [32,58,32] <|
 T.bind (yq (Expr.mk (Expr.kind a.2.2.2.1) ((Expr.num a.2.2.2.1).1,((Expr.num a.2.2.2.1).2.1,((Expr.num a.2.2.2.1).2.2.1,()))) (Expr.name a.2.2.2.1) (Expr.kids a.2.2.2.1))) λf=>let d:=cat (cat j f) [32];
 oK j f <|
 oK (cat j f) [32] <|
 T.bind (Qh a.2.2.1) λb =>
 oK d b <|
 oK (cat d b) [32] <|
 T.bind (yq (Expr.mk (Expr.kind a.2.2.2.2.1) ((Expr.num a.2.2.2.2.1).1,((Expr.num a.2.2.2.2.1).2.1,((Expr.num a.2.2.2.2.1).2.2.1,()))) (Expr.name a.2.2.2.2.1) (Expr.kids a.2.2.2.2.1))) λg =>
 oK (cat (cat d b) [32]) g <|
 oK (cat (cat (cat d b) [32]) g) [10] <|
 .ret (.inl ((cat (cat (cat (cat d b) [32]) g) [10]),(zF (c+1)))))
  (.ret (.inl (e,(zF (c+1))))))
  (.ret (.inr e))
def ZC f5 i4 s:=T.loop (gE f5 i4) s
def gQ(b:Form):(zf×Int)->T ((zf×Int)⊕(zf))
 | (c,a)=>let e:=cat (cat c [112,97,103,101,32]) (nth b.2.2.1 a (zj zO)).1;
 .ite (decide (a<(b.2.2.1.length:Int)))
  (oK c [112,97,103,101,32] <|
 oI a b.2.2.1 <|
 oK (cat c [112,97,103,101,32]) (nth b.2.2.1 a (zj zO)).1 <|
 oI a b.2.2.1 <|
 T.bind (pN (nth b.2.2.1 a (zj zO)).2.1) λd =>
 oK e d <|
 oK (cat e d) [10] <|
 T.bind (tZ b a ((cat (cat e d) [10]),0)) λf =>
 T.bind (ZC b a (f,0)) λg =>
 .ret (.inl (g,(zF (a+1)))))
  (.ret (.inr c))
def Qr f3 s:=T.loop (gQ f3) s
def gF(i:Form):(zf×Int)->T ((zf×Int)⊕(zf))
 | (h,c)=>let d:=cat h [114,117,108,101,32]; let a:=nth i.2.2.2.2.1 c (zj zX);
 .ite (decide (c<(i.2.2.2.2.1.length:Int)))
  (oI c i.2.2.2.2.1 <|
 oK h [114,117,108,101,32] <|
 T.bind (bW a.2.1) λb=>let j:=cat (cat (cat d b) [32]) a.1;
 oK d b <|
 oK (cat d b) [32] <|
 oK (cat (cat d b) [32]) a.1 <|
 T.bind (pN a.2.2.1) λe=>let k:=cat (cat j e) [32,58,32];
 oK j e <|
 oK (cat j e) [32,58,32] <|
 T.bind (yq (Expr.mk (Expr.kind a.2.2.2.1) ((Expr.num a.2.2.2.1).1,((Expr.num a.2.2.2.1).2.1,((Expr.num a.2.2.2.1).2.2.1,()))) (Expr.name a.2.2.2.1) (Expr.kids a.2.2.2.1))) λf=>let l:=cat (cat k f) [32,61,32];
 oK k f <|
 oK (cat k f) [32,61,32] <|
 T.bind (yq (Expr.mk (Expr.kind a.2.2.2.2.1) ((Expr.num a.2.2.2.2.1).1,((Expr.num a.2.2.2.2.1).2.1,((Expr.num a.2.2.2.2.1).2.2.1,()))) (Expr.name a.2.2.2.2.1) (Expr.kids a.2.2.2.2.1))) λg =>
 oK l g <|
 oK (cat l g) [10] <|
 .ret (.inl ((cat (cat l g) [10]),(zF (c+1)))))
  (.ret (.inr h))
def Zr f6 s:=T.loop (gF f6) s
def iG(a:Form):T zf :=
 T.bind (Ze a ([],0)) λb =>
 T.bind (ZP a (b,0)) λc =>
 T.bind (Qr a (c,0)) λd =>
 T.bind (Zr a (d,0)) λe =>
 .ret e
def dQ(b:Form):Int->T (Int⊕(Unit⊕Bool))
 | a =>
 .ite (decide (a<(b.1.length:Int)))
  (oI a b.1 <|
 T.bind (vZ (nth b.1 a (zj zt)).1) λc =>
 .ite (!c)
  (.ret (.inr (.inr false)))
  (.ret (.inl (zF (a+1)))))
  (.ret (.inr (.inl ())))
def VR f1 s:=T.loop (dQ f1) s
def fa(b:Form):Int->T (Int⊕(Unit⊕Bool))
 | a =>
 .ite (decide (a<(b.2.1.length:Int)))
  (T.bind (oI a b.2.1 <|
 T.bind (vZ (nth b.2.1 a (zj zw)).1) λc =>
 .ite (!c)
  (.ret true)
  (oI a b.2.1 <|
 T.bind (dC (nth b.2.1 a (zj zw)).2.1) λd =>
 .ret (!d)):T (Bool)) λe =>
 .ite e
  (.ret (.inr (.inr false)))
  (.ret (.inl (zF (a+1)))))
  (.ret (.inr (.inl ())))
def VY f2 s:=T.loop (fa f2) s
def dP(b:Form):Int->T (Int⊕(Unit⊕Bool))
 | a =>
 .ite (decide (a<(b.2.2.1.length:Int)))
  (T.bind (oI a b.2.2.1 <|
 T.bind (vZ (nth b.2.2.1 a (zj zO)).1) λc =>
 .ite (!c)
  (.ret true)
  (oI a b.2.2.1 <|
 T.bind (eL (nth b.2.2.1 a (zj zO)).2.1) λd =>
 .ret (!d)):T (Bool)) λe =>
 .ite e
  (.ret (.inr (.inr false)))
  (.ret (.inl (zF (a+1)))))
  (.ret (.inr (.inl ())))
def VL f3 s:=T.loop (dP f3) s
def eU(c:Form):Int->T (Int⊕(Unit⊕Bool))
 | b=>let a:=nth c.2.2.2.2.1 b (zj zX);
 .ite (decide (b<(c.2.2.2.2.1.length:Int)))
  (oI b c.2.2.2.2.1 <|
 T.bind (T.bind (vZ a.1) λd =>
 .ite (!d)
  (.ret (true,a))
  (T.bind (eL a.2.2.1) λe =>
 .ite (!e)
  (.ret (true,a))
  (.ite (decide (a.2.1<(0:Int)))
  (.ret (true,a))
  (.ite (decide ((3:Int)<a.2.1))
  (.ret (true,a))
  (T.bind (dv (Expr.mk (Expr.kind a.2.2.2.1) ((Expr.num a.2.2.2.1).1,((Expr.num a.2.2.2.1).2.1,((Expr.num a.2.2.2.1).2.2.1,()))) (Expr.name a.2.2.2.1) (Expr.kids a.2.2.2.1))) λf =>
 .ite (!f)
  (.ret (true,a))
  (T.bind (dv (Expr.mk (Expr.kind a.2.2.2.2.1) ((Expr.num a.2.2.2.2.1).1,((Expr.num a.2.2.2.2.1).2.1,((Expr.num a.2.2.2.2.1).2.2.1,()))) (Expr.name a.2.2.2.2.1) (Expr.kids a.2.2.2.2.1))) λg =>
 .ret ((!g),a)))))):T ((Bool×qG))) λ(h,i) =>
 .ite h
  (.ret (.inr (.inr false)))
  (.ret (.inl (zF (b+1)))))
  (.ret (.inr (.inl ())))
def Vb f4 s:=T.loop (eU f4) s
def Qk(a:Form):T Bool :=
 T.bind (VR a 0) <|
 Sum.elim (λ_ =>
 T.bind (VY a 0) <|
 Sum.elim (λ_ =>
 T.bind (VL a 0) <|
 Sum.elim (λ_ =>
 T.bind (Vb a 0) <|
 Sum.elim (λ_ =>
 T.bind (mR a) λb =>
 .ite b
  (T.bind (iG a) λc =>
 .ret (decide ((c.length:Int)<=16384)))
  (.ret false))
  (λd =>
 .ret d))
  (λe =>
 .ret e))
  (λf =>
 .ret f))
  (λg =>
 .ret g)
def mQ(a:Form):T zf :=
 T.bind (Qk a) λb =>
 .ite (!b)
  (.ret [])
  (T.bind (iG a) λc =>
 .ret c)
def xC(b:(List Switch))(c:(List Switch))(d:Int):Int->T (Int⊕(Unit⊕Bool))
 | a =>
 .ite (decide (a<d))
  (oI a b <|
 oI a c <|
 .ite (!((zl (nth b a (zj zt)).1 (nth c a (zj zt)).1)&&(((nth b a (zj zt)).2.1==(nth c a (zj zt)).2.1)&&true)))
  (.ret (.inr (.inr false)))
  (.ret (.inl (zF (a+1)))))
  (.ret (.inr (.inl ())))
def ff s11 s21 x s:=T.loop (xC s11 s21 x) s
def uT(a:(List Switch))(b:(List Switch)):T Bool :=
 .ite ((a.length:Int) != (b.length:Int))
  (.ret false)
  (T.bind (ff a b (a.length:Int) 0) <|
 Sum.elim (λ_ =>
 .ret true)
  (λc =>
 .ret c))
def xU(b:(List xl))(c:(List xl))(d:Int):Int->T (Int⊕(Unit⊕Bool))
 | a =>
 .ite (decide (a<d))
  (oI a b <|
 oI a c <|
 .ite (!((zl (nth b a (zj zO)).1 (nth c a (zj zO)).1)&&((zl (nth b a (zj zO)).2.1 (nth c a (zj zO)).2.1)&&true)))
  (.ret (.inr (.inr false)))
  (.ret (.inl (zF (a+1)))))
  (.ret (.inr (.inl ())))
def lz s11 s21 x s:=T.loop (xU s11 s21 x) s
def jY(a:(List xl))(b:(List xl)):T Bool :=
 .ite ((a.length:Int) != (b.length:Int))
  (.ret false)
  (T.bind (lz a b (a.length:Int) 0) <|
 Sum.elim (λ_ =>
 .ret true)
  (λc =>
 .ret c))
def xJ(d:(List Field))(e:(List Field))(f:Int):Int->T (Int⊕(Unit⊕Bool))
 | a=>let b:=nth e a (zj zy); let c:=nth d a (zj zy);
 .ite (decide (a<f))
  (oI a d <|
 oI a e <|
 .ite (!((zl c.1 b.1)&&((c.2.1==b.2.1)&&((c.2.2.1==b.2.2.1)&&((c.2.2.2.1==b.2.2.2.1)&&true)))))
  (.ret (.inr (.inr false)))
  (.ret (.inl (zF (a+1)))))
  (.ret (.inr (.inl ())))
def ic s11 s21 x s:=T.loop (xJ s11 s21 x) s
def ji(a:(List Field))(b:(List Field)):T Bool :=
 .ite ((a.length:Int) != (b.length:Int))
  (.ret false)
  (T.bind (ic a b (a.length:Int) 0) <|
 Sum.elim (λ_ =>
 .ret true)
  (λc =>
 .ret c))
def xB(b:(List Int))(c:(List Int))(d:Int):Int->T (Int⊕(Unit⊕Bool))
 | a =>
 .ite (decide (a<d))
  (oI a b <|
 oI a c <|
 .ite ((nth b a (zj (.int .u32))) != (nth c a (zj (.int .u32))))
  (.ret (.inr (.inr false)))
  (.ret (.inl (zF (a+1)))))
  (.ret (.inr (.inl ())))
def kF s11 s21 x s:=T.loop (xB s11 s21 x) s
def xY(a:(List Int))(b:(List Int)):T Bool :=
 .ite ((a.length:Int) != (b.length:Int))
  (.ret false)
  (T.bind (kF a b (a.length:Int) 0) <|
 Sum.elim (λ_ =>
 .ret true)
  (λc =>
 .ret c))
def iZ(e:Rat)(f:Rat):T Bool :=
 T.bind (gL e) λa =>
 T.bind (gL f) λb =>
 .ite (a.1==b.1)
  (T.bind (xY a.2.1 b.2.1) λc =>
 .ite c
  (T.bind (xY a.2.2.1 b.2.2.1) λd =>
 .ret d)
  (.ret false))
  (.ret false)
def ur(a:Param)(b:Param):T Bool :=
 .ite (zl a.1 b.1)
  (T.bind (iZ a.2.1 b.2.1) λc =>
 .ret c)
  (.ret false)
def ql(b:(List Param))(e:Param->Param->T Bool)(c:(List Param))(f:Int):Int->T (Int⊕(Unit⊕Bool))
 | a =>
 .ite (decide (a<f))
  (oI a c <|
 oI a b <|
 T.bind (e (nth c a (zj zw)) (nth b a (zj zw))) λd =>
 .ite (!d)
  (.ret (.inr (.inr false)))
  (.ret (.inl (zF (a+1)))))
  (.ret (.inr (.inl ())))
def ki s21 eq x x1 s:=T.loop (ql s21 eq x x1) s
def xQ(a:(List Param))(b:(List Param))(d:Param->Param->T Bool):T Bool :=
 .ite ((a.length:Int) != (b.length:Int))
  (.ret false)
  (T.bind (ki b d a (a.length:Int) 0) <|
 Sum.elim (λ_ =>
 .ret true)
  (λc =>
 .ret c))
def qs(g:AM.Expr->AM.Expr->T Bool)(b:(List AM.Expr))(e:AM.Expr->AM.Expr->T Bool)(c:(List AM.Expr))(f:Int):Int->T (Int⊕(Unit⊕Bool))
 | a =>
 .ite (decide (a<f))
  (oI a c <|
 oI a b <|
 T.bind (e (nth c a (zj .expr)) (nth b a (zj .expr))) λd =>
 .ite (!d)
  (.ret (.inr (.inr false)))
  (.ret (.inl (zF (a+1)))))
  (.ret (.inr (.inl ())))
def vq self_expr_Same s21 eq x x1 s:=T.loop (qs self_expr_Same s21 eq x x1) s
def qD(d:AM.Expr->AM.Expr->T Bool)(a:(List AM.Expr))(b:(List AM.Expr))(e:AM.Expr->AM.Expr->T Bool):T Bool :=
 .ite ((a.length:Int) != (b.length:Int))
  (.ret false)
  (T.bind (vq d b e a (a.length:Int) 0) <|
 Sum.elim (λ_ =>
 .ret true)
  (λc =>
 .ret c))
def fk(c:AM.Expr->AM.Expr->T Bool)(a:AM.Expr)(b:AM.Expr):T Bool :=
 .ite ((Expr.kind a)==(Expr.kind b))
  (.ite (zl (Expr.name a) (Expr.name b))
  (T.bind (iZ (Expr.num a) (Expr.num b)) λd =>
 .ite d
  (T.bind ((qD c) (Expr.kids a) (Expr.kids b) (λz0 z1=>c z0 z1)) λe =>
 .ret e)
  (.ret false))
  (.ret false))
  (.ret false)
def iK(a:AM.Expr)(b:AM.Expr):T Bool:=T.fix (λF x=>fk (λy0 y1=>F (y0,y1)) x.1 x.2) (a,b)
def dY(c:AM.Expr)(d:AM.Expr)(e:AM.Expr)(f:AM.Expr):T Bool :=
 T.bind (iK c d) λa =>
 .ite a
  (T.bind (iK e f) λb =>
 .ret b)
  (.ret false)
def vn(a:qG)(b:qG):T Bool :=
 .ite (zl a.1 b.1)
  (.ite (a.2.1==b.2.1)
  (.ite (zl a.2.2.1 b.2.2.1)
  (T.bind (dY a.2.2.2.1 b.2.2.2.1 a.2.2.2.2.1 b.2.2.2.2.1) λc =>
 .ret c)
  (.ret false))
  (.ret false))
  (.ret false)
def qt(b:(List qG))(e:qG->qG->T Bool)(c:(List qG))(f:Int):Int->T (Int⊕(Unit⊕Bool))
 | a =>
 .ite (decide (a<f))
  (oI a c <|
 oI a b <|
 T.bind (e (nth c a (zj zX)) (nth b a (zj zX))) λd =>
 .ite (!d)
  (.ret (.inr (.inr false)))
  (.ret (.inl (zF (a+1)))))
  (.ret (.inr (.inl ())))
def yc s21 eq x x1 s:=T.loop (qt s21 eq x x1) s
def w7(a:(List qG))(b:(List qG))(d:qG->qG->T Bool):T Bool :=
 .ite ((a.length:Int) != (b.length:Int))
  (.ret false)
  (T.bind (yc b d a (a.length:Int) 0) <|
 Sum.elim (λ_ =>
 .ret true)
  (λc =>
 .ret c))
def vk(a:Check)(b:Check):T Bool :=
 .ite (zl a.1 b.1)
  (.ite (a.2.1==b.2.1)
  (.ite (a.2.2.1==b.2.2.1)
  (T.bind (dY a.2.2.2.1 b.2.2.2.1 a.2.2.2.2.1 b.2.2.2.2.1) λc =>
 .ret c)
  (.ret false))
  (.ret false))
  (.ret false)
def qm(b:(List Check))(e:Check->Check->T Bool)(c:(List Check))(f:Int):Int->T (Int⊕(Unit⊕Bool))
 | a =>
 .ite (decide (a<f))
  (oI a c <|
 oI a b <|
 T.bind (e (nth c a (zj zD)) (nth b a (zj zD))) λd =>
 .ite (!d)
  (.ret (.inr (.inr false)))
  (.ret (.inl (zF (a+1)))))
  (.ret (.inr (.inl ())))
def kC s21 eq x x1 s:=T.loop (qm s21 eq x x1) s
def xO(a:(List Check))(b:(List Check))(d:Check->Check->T Bool):T Bool :=
 .ite ((a.length:Int) != (b.length:Int))
  (.ret false)
  (T.bind (kC b d a (a.length:Int) 0) <|
 Sum.elim (λ_ =>
 .ret true)
  (λc =>
 .ret c))
def eE(a:Form)(b:Form):T Bool :=
 T.bind (uT a.1 b.1) λc =>
 .ite c
  (T.bind (jY a.2.2.1 b.2.2.1) λd =>
 .ite d
  (T.bind (ji a.2.2.2.1 b.2.2.2.1) λe =>
 .ite e
  (T.bind (xQ a.2.1 b.2.1 (λz0 z1=>ur z0 z1)) λf =>
 .ite f
  (T.bind (w7 a.2.2.2.2.1 b.2.2.2.2.1 (λz0 z1=>vn z0 z1)) λg =>
 .ite g
  (T.bind (xO a.2.2.2.2.2.1 b.2.2.2.2.2.1 (λz0 z1=>vk z0 z1)) λh =>
 .ret h)
  (.ret false))
  (.ret false))
  (.ret false))
  (.ret false))
  (.ret false)
def bO(e:Rat)(f:Rat):T Bool :=
 T.bind (je e) λa =>
 T.bind (je f) λb =>
 .ite (a.1==b.1)
  (T.bind (yz a.2.1 b.2.1) λc =>
 .ite c
  (T.bind (yz a.2.2.1 b.2.2.1) λd =>
 .ret d)
  (.ret false))
  (.ret false)
def ba(e:AM.Expr->AM.Expr->T Bool)(b:AM.Expr)(c:AM.Expr):Int->T (Int⊕(Unit⊕Bool))
 | a =>
 .ite (decide (a<((Expr.kids b).length:Int)))
  (oI a (Expr.kids b) <|
 oI a (Expr.kids c) <|
 T.bind (e (nth (Expr.kids b) a (zj .expr)) (nth (Expr.kids c) a (zj .expr))) λd =>
 .ite (!d)
  (.ret (.inr (.inr false)))
  (.ret (.inl (zF (a+1)))))
  (.ret (.inr (.inl ())))
def Zx self_ref5_Same a1 b1 s:=T.loop (ba self_ref5_Same a1 b1) s
def fI(f:AM.Expr->AM.Expr->T Bool)(a:AM.Expr)(b:AM.Expr):T Bool :=
 T.bind (.ite ((Expr.kind a) != (Expr.kind b))
  (.ret true)
  (.ite (!(zl (Expr.name a) (Expr.name b)))
  (.ret true)
  (T.bind (bO (Expr.num a) (Expr.num b)) λc =>
 .ite (!c)
  (.ret true)
  (.ret (((Expr.kids a).length:Int) != ((Expr.kids b).length:Int))))):T (Bool)) λd =>
 .ite d
  (.ret false)
  (T.bind (Zx f a b 0) <|
 Sum.elim (λ_ =>
 .ret true)
  (λe =>
 .ret e))
def bG(a:AM.Expr)(b:AM.Expr):T Bool:=T.fix (λF x=>fI (λy0 y1=>F (y0,y1)) x.1 x.2) (a,b)
def uc(b:(List qG))(c:(List qG)):Int->T (Int⊕(Unit⊕Bool))
 | a=>let d:=nth c a (zj zX); let e:=nth b a (zj zX);
 .ite (decide (a<(b.length:Int)))
  (T.bind (oI a b <|
 oI a c <|
 .ite (!(zl e.1 d.1))
  (.ret true)
  (oI a b <|
 oI a c <|
 .ite (e.2.1 != d.2.1)
  (.ret true)
  (oI a b <|
 oI a c <|
 .ite (!(zl e.2.2.1 d.2.2.1))
  (.ret true)
  (oI a b <|
 oI a c <|
 T.bind (bG e.2.2.2.1 d.2.2.2.1) λf =>
 .ite (!f)
  (.ret true)
  (oI a b <|
 oI a c <|
 T.bind (bG e.2.2.2.2.1 d.2.2.2.2.1) λg =>
 .ret (!g))))):T (Bool)) λh =>
 .ite h
  (.ret (.inr (.inr false)))
  (.ret (.inl (zF (a+1)))))
  (.ret (.inr (.inl ())))
def fP a1 b1 s:=T.loop (uc a1 b1) s
def gH(a:(List qG))(b:(List qG)):T Bool :=
 .ite ((a.length:Int) != (b.length:Int))
  (.ret false)
  (T.bind (fP a b 0) <|
 Sum.elim (λ_ =>
 .ret true)
  (λc =>
 .ret c))
def vK(b:(List Check))(c:(List Check)):Int->T (Int⊕(Unit⊕Bool))
 | a=>let d:=nth c a (zj zD); let e:=nth b a (zj zD);
 .ite (decide (a<(b.length:Int)))
  (T.bind (oI a b <|
 oI a c <|
 .ite (!(zl e.1 d.1))
  (.ret true)
  (oI a b <|
 oI a c <|
 .ite (e.2.1 != d.2.1)
  (.ret true)
  (oI a b <|
 oI a c <|
 .ite (e.2.2.1 != d.2.2.1)
  (.ret true)
  (oI a b <|
 oI a c <|
 T.bind (bG e.2.2.2.1 d.2.2.2.1) λf =>
 .ite (!f)
  (.ret true)
  (oI a b <|
 oI a c <|
 T.bind (bG e.2.2.2.2.1 d.2.2.2.2.1) λg =>
 .ret (!g))))):T (Bool)) λh =>
 .ite h
  (.ret (.inr (.inr false)))
  (.ret (.inl (zF (a+1)))))
  (.ret (.inr (.inl ())))
def dN a1 b1 s:=T.loop (vK a1 b1) s
def yl(a:(List Check))(b:(List Check)):T Bool :=
 .ite ((a.length:Int) != (b.length:Int))
  (.ret false)
  (T.bind (dN a b 0) <|
 Sum.elim (λ_ =>
 .ret true)
  (λc =>
 .ret c))
def gK(b:Form)(c:Form):Int->T (Int⊕(Unit⊕Bool))
 | a =>
 .ite (decide (a<(b.1.length:Int)))
  (oI a b.1 <|
 oI a c.1 <|
 .ite (!((zl (nth b.1 a (zj zt)).1 (nth c.1 a (zj zt)).1)&&(((nth b.1 a (zj zt)).2.1==(nth c.1 a (zj zt)).2.1)&&true)))
  (.ret (.inr (.inr false)))
  (.ret (.inl (zF (a+1)))))
  (.ret (.inr (.inl ())))
def tX a1 b1 s:=T.loop (gK a1 b1) s
def gA(b:Form)(c:Form):Int->T (Int⊕(Unit⊕Bool))
 | a =>
 .ite (decide (a<(b.2.1.length:Int)))
  (T.bind (oI a b.2.1 <|
 oI a c.2.1 <|
 .ite (!(zl (nth b.2.1 a (zj zw)).1 (nth c.2.1 a (zj zw)).1))
  (.ret true)
  (oI a b.2.1 <|
 oI a c.2.1 <|
 T.bind (bO (nth b.2.1 a (zj zw)).2.1 (nth c.2.1 a (zj zw)).2.1) λd =>
 .ret (!d)):T (Bool)) λe =>
 .ite e
  (.ret (.inr (.inr false)))
  (.ret (.inl (zF (a+1)))))
  (.ret (.inr (.inl ())))
def Zb a2 b2 s:=T.loop (gA a2 b2) s
def b8(b:Form)(c:Form):Int->T (Int⊕(Unit⊕Bool))
 | a =>
 .ite (decide (a<(b.2.2.1.length:Int)))
  (oI a b.2.2.1 <|
 oI a c.2.2.1 <|
 .ite (!((zl (nth b.2.2.1 a (zj zO)).1 (nth c.2.2.1 a (zj zO)).1)&&((zl (nth b.2.2.1 a (zj zO)).2.1 (nth c.2.2.1 a (zj zO)).2.1)&&true)))
  (.ret (.inr (.inr false)))
  (.ret (.inl (zF (a+1)))))
  (.ret (.inr (.inl ())))
def Zy a3 b3 s:=T.loop (b8 a3 b3) s
def gm(d:Form)(e:Form):Int->T (Int⊕(Unit⊕Bool))
 | a=>let b:=nth e.2.2.2.1 a (zj zy); let c:=nth d.2.2.2.1 a (zj zy);
 .ite (decide (a<(d.2.2.2.1.length:Int)))
  (oI a d.2.2.2.1 <|
 oI a e.2.2.2.1 <|
 .ite (!((zl c.1 b.1)&&((c.2.1==b.2.1)&&((c.2.2.1==b.2.2.1)&&((c.2.2.2.1==b.2.2.2.1)&&true)))))
  (.ret (.inr (.inr false)))
  (.ret (.inl (zF (a+1)))))
  (.ret (.inr (.inl ())))
def Z7 a4 b4 s:=T.loop (gm a4 b4) s
def pM(a:Form)(b:Form):T Bool :=
 .ite (((a.1.length:Int) != (b.1.length:Int))||(((a.2.1.length:Int) != (b.2.1.length:Int))||(((a.2.2.1.length:Int) != (b.2.2.1.length:Int))||((a.2.2.2.1.length:Int) != (b.2.2.2.1.length:Int)))))
  (.ret false)
  (T.bind (tX a b 0) <|
 Sum.elim (λ_ =>
 T.bind (Zb a b 0) <|
 Sum.elim (λ_ =>
 T.bind (Zy a b 0) <|
 Sum.elim (λ_ =>
 T.bind (Z7 a b 0) <|
 Sum.elim (λ_ =>
 T.bind (gH a.2.2.2.2.1 b.2.2.2.2.1) λc =>
 .ite c
  (T.bind (yl a.2.2.2.2.2.1 b.2.2.2.2.2.1) λd =>
 .ret d)
  (.ret false))
  (λe =>
 .ret e))
  (λf =>
 .ret f))
  (λg =>
 .ret g))
  (λh =>
 .ret h))
def strings_Split(a:zf)(b:zf):T (List zf) :=
 .zM (a.length<4294967281/\b.length=1) <|
 .ret (cQ (List.headD b 0) a)
def strings_Cut(a:zf)(b:zf):T (zf×zf×Bool) :=
 .zM (a.length<4294967281) <|
 .ret (uD a b)
def gV(a:Int):T Bool :=
 .ret (a==32)
def strings_FieldsFunc(a:zf)(b:Int->T Bool):T (List zf) :=
 .zM (a.length<=4294967296) <|
 .ret (bE 32 [] a)
def fT(c:zf):T (List zf) :=
 T.bind (strings_FieldsFunc c (λa=>gV a)) λb =>
 .ret b
def strings_IndexAny(c:zf)(a:zf):T Int :=
 .zM (c.length<4294967281/\2<=a.length/\a.length<4294967281/\(∀ b∈a,b.toNat<128)) <|
 .ret (gY c a)
def xA(b:zf)(a:zf):T Bool :=
 .zM (((decide ((a.length:Int)<=(b.length:Int)))=true)->(bf 0 (a.length:Int) b.length)) <|
 .ret ((decide ((a.length:Int)<=(b.length:Int)))&&(zl (vv 0 (a.length:Int) b) a))
def strings_HasPrefix(b:zf)(c:zf):T Bool :=
 T.bind (xA b c) λa =>
 .ret a
def xR  : zc->T (zc⊕(zc))
 | a =>
 .zM (((decide (a.2.1<(a.1.length:Int)))=true)->(qz a.2.1 a.1.length)) <|
 .ite ((decide (a.2.1<(a.1.length:Int)))&&((qp a.1 a.2.1)==32))
  (.ret (.inl (a.1,((zF (a.2.1+1)),(a.2.2.1,(a.2.2.2.1,()))))))
  (.ret (.inr a))
def yW(s:zc):T (zc):=T.loop (xR ) s
def uj(b:zc):T zc :=
 T.bind (yW  b) λa =>
 .ret a
def strings_IndexByte(s:zf)(c:Int):T Int:=.ret (nt s (byteOf c))
def qZ(e:zf)(f:zc):T (Int×zc) :=
 T.bind (uj f) λb =>
 T.bind (.ite (decide (b.2.1<(b.1.length:Int)))
  (oI b.2.1 b.1 <|
 T.bind (strings_IndexByte e (qp b.1 b.2.1)) λc =>
 .ret ((decide (0<=c)),b))
  (.ret (false,b)):T ((Bool×zc))) λ(d,a) =>
 .ite d
  (oI (zF ((zF (a.2.1+1))-1)) a.1 <|
 .ret ((qp a.1 (zF ((zF (a.2.1+1))-1))),(a.1,((zF (a.2.1+1)),(a.2.2.1,(a.2.2.2.1,()))))))
  (.ret (0,a))
def xN(a:Int)(b:Int)(c:zc):T (zc⊕(zY×zc)) :=
 .ret (.inr ((a,(b,())),c))
def wQ(a:zc):T (zc⊕(zY×zc)) :=
 .ite (decide (32<=(zF (a.2.2.1+1))))
  (T.bind (xN 4 (zF (a.2.1-1)) (a.1,(a.2.1,((zF (a.2.2.1+1)),(a.2.2.2.1,()))))) <|
 Sum.elim (λb =>
 .ret (.inl b))
  (λ(c,d) =>
 .ret (.inr (c,d))))
  (.ret (.inl (a.1,(a.2.1,((zF (a.2.2.1+1)),(a.2.2.2.1,()))))))
def qS(e:Int->T Bool)(f:Int)(g:Int):zc->T (zc⊕(zc))
 | a =>
 T.bind (.ite (decide (a.2.1<(a.1.length:Int)))
  (.ite (decide ((zF (a.2.1-g))<f))
  (oI a.2.1 a.1 <|
 T.bind (e (qp a.1 a.2.1)) λc =>
 .ret (c,a))
  (.ret (false,a)))
  (.ret (false,a)):T ((Bool×zc))) λ(d,b) =>
 .ite d
  (.ret (.inl (b.1,((zF (b.2.1+1)),(b.2.2.1,(b.2.2.2.1,()))))))
  (.ret (.inr b))
def gD is most1 from_ s:=T.loop (qS is most1 from_) s
def xa(c:Int->T Bool)(d:Int)(b:zc):T (zf×zc) :=
 T.bind (gD c d b.2.1 b) λa =>
 .zM (bf b.2.1 a.2.1 a.1.length) <|
 .ret ((vv b.2.1 a.2.1 a.1),a)
def strings_CutPrefix(a:zf)(b:zf):T (zf×Bool) :=
 .ret (r8 a b,List.isPrefixOf b a)
def ya(c:Int):zf->T (zf⊕(zf))
 | a=>let b:=zF ((a.length:Int)-1);
 .zM (((decide (0<(a.length:Int)))=true)->(qz b a.length)) <|
 .ite ((decide (0<(a.length:Int)))&&((qp a b)==c))
  (.zM (bf 0 b a.length) <|
 .ret (.inl (vv 0 b a)))
  (.ret (.inr a))
def iC c1 s:=T.loop (ya c1) s
def strings_trimRightByte(b:zf)(c:Int):T zf :=
 T.bind (iC c b) λa =>
 .ret a
def yT(b:Int):zf->T (zf⊕(zf))
 | a =>
 .zM (((decide (0<(a.length:Int)))=true)->(qz 0 a.length)) <|
 .ite ((decide (0<(a.length:Int)))&&((qp a 0)==b))
  (.zM (bf 1 (a.length:Int) a.length) <|
 .ret (.inl (vv 1 (a.length:Int) a)))
  (.ret (.inr a))
def iS c1 s:=T.loop (yT c1) s
def strings_trimLeftByte(b:zf)(c:Int):T zf :=
 T.bind (iS c b) λa =>
 .ret a
def strings_makeASCIISet(a:zf):T ((den (dx .bool 256))×Bool) :=
 .zM (a.length<4294967281/\(∀ (j:Nat) b,a[j]? = some b->b.toNat<128)) <|
 .ret (cI a,true)
def xD(b:(den (dx .bool 256)))(a:Int):T Bool :=
 .zM (qz a 256) <|
 .ret (pn .bool (dx .bool 256) b (Int.toNat a))
def xE(d:(den (dx .bool 256))):zf->T (zf⊕(zf))
 | a=>let b:=zF ((a.length:Int)-1);
 .ite (decide (0<(a.length:Int)))
  (oI b a <|
 T.bind (xD d (qp a b)) λc =>
 .ite (!c)
  (.ret (.inr a))
  (.zM (bf 0 b a.length) <|
 .ret (.inl (vv 0 b a))))
  (.ret (.inr a))
def kG as1 s:=T.loop (xE as1) s
def vj(b:zf)(c:(den (dx .bool 256))):T zf :=
 T.bind (kG c b) λa =>
 .ret a
def xH(c:(den (dx .bool 256))):zf->T (zf⊕(zf))
 | a =>
 .ite (decide (0<(a.length:Int)))
  (oI 0 a <|
 T.bind (xD c (qp a 0)) λb =>
 .ite (!b)
  (.ret (.inr a))
  (.zM (bf 1 (a.length:Int) a.length) <|
 .ret (.inl (vv 1 (a.length:Int) a))))
  (.ret (.inr a))
def ye as1 s:=T.loop (xH as1) s
def vO(b:zf)(c:(den (dx .bool 256))):T zf :=
 T.bind (ye c b) λa =>
 .ret a
def ku(b:zf)(a:zf):T zf :=
 .ite ((zl b [])||(zl a []))
  (.ret b)
  (.zM ((((a.length:Int)==1)=true)->(qz 0 a.length)) <|
 .ite (((a.length:Int)==1)&&(decide ((qp a 0)<128)))
  (oI 0 a <|
 T.bind (strings_trimRightByte b (qp a 0)) λd =>
 oI 0 a <|
 T.bind (strings_trimLeftByte d (qp a 0)) λe =>
 .ret e)
  (T.bind (strings_makeASCIISet a) λ(c,f) =>
 .ite f
  (T.bind (vj b c) λg =>
 T.bind (vO g c) λh =>
 .ret h)
  (.fail)))
def mL(h:(List Int))(c:(List Int))(e:(List Int))(g:Int):(Int×Int×(List Int))->T ((Int×Int×(List Int))⊕((Int×(List Int))))
 | (d,a,b)=>let f:=bif (decide (a<(c.length:Int)))then(zN ((zN (d+(zN (nth e a (zj (.int .u32))))))+(zN (nth c a (zj (.int .u32))))))else(zN (d+(zN (nth e a (zj (.int .u32))))));
 .ite (decide (a<g))
  (oI a e <|
 .zM (((decide (a<(c.length:Int)))=true)->(qz a c.length)) <|
 oI a b <|
 .zM (mK b.length b.length (0+(Int.toNat a)) b.length) <|
 .zM (0<=(32:Int)) <|
 oM b.length (List.set b (0+(Int.toNat a)) (xX f)).length <|
 .ret (.inl ((wD .u64 f 32),((zF (a+1)),(List.set b (0+(Int.toNat a)) (xX f))))))
  (oC b <|
 oE b <|
 .ret (.inr (d,b)))
def Ug a2 b2 x x1 s:=T.loop (mL a2 b2 x x1) s
def Wu(h:(List Int))(i:(List Int)):T (List Int) :=
 T.bind (xT h) λc =>
 T.bind (xT i) λd=>let e:=bif (decide ((c.length:Int)<(d.length:Int)))then d else c; let a:=(e.length:Int);
 .zM (Qt (zF (a+1)) (zF (a+1)) 4) <|
 oM (Int.toNat (zF (a+1))) (List.replicate (Int.toNat (zF (a+1))) (0:Int)).length <|
 T.bind (Ug e (bif (decide ((c.length:Int)<(d.length:Int)))then c else d) e a (0,(0,(List.replicate (Int.toNat (zF (a+1))) 0)))) λ(f,b) =>
 oI a b <|
 .zM (mK b.length b.length (0+(Int.toNat a)) b.length) <|
 oE b <|
 T.bind (xT (List.drop 0 (List.take (0+b.length) (List.set b (0+(Int.toNat a)) (xX f))))) λg =>
 .ret g
def hJ(c:zf)(g:Int):((List Int)×Int)->T (((List Int)×Int)⊕((List Int)))
 | (b,a) =>
 .ite (decide (a<g))
  (T.bind (pZ b ([10]:List Int)) λd =>
 oI a c <|
 T.bind (yB (zN (GW ((qp c a)-48)))) λe =>
 T.bind (Wu d e) λf =>
 .ret (.inl (f,(zF (a+1)))))
  (.ret (.inr b))
def Q7 s1 x1 s:=T.loop (hJ s1 x1) s
def vt(a:zf):T ((List Int)×Bool) :=
 T.bind (.ite (zl a [])
  (.ret true)
  (.ite (decide (400<(a.length:Int)))
  (.ret true)
  (T.bind (ku a [48,49,50,51,52,53,54,55,56,57]) λb =>
 .ret (!(zl b [])))):T (Bool)) λc =>
 .ite c
  (.ret ([],false))
  (T.bind (Q7 a (a.length:Int) ([],0)) λd =>
 .ret (d,true))
def yK(f:zf):T (Rat×Int) :=
 .ite (decide (400<(f.length:Int)))
  (.ret ((false,(([]:List Int),(([]:List Int),()))),3))
  (T.bind (strings_CutPrefix f [45]) λ(c,d) =>
 T.bind (strings_Cut c [46]) λ(b,a,g) =>
 .ite g
  (T.bind (vt a) λ(t,h) =>
 oK b a <|
 T.bind (vt (cat b a)) λ(i,j) =>
 .ite ((zl b [])||((!h)||(!j)))
  (.ret ((false,(([]:List Int),(([]:List Int),()))),2))
  (T.bind (pI (a.length:Int)) λk =>
 T.bind (lG d i k) λl =>
 .ret (l,0)))
  (T.bind (strings_Cut c [47]) λ(m,n,o) =>
 T.bind (vt m) λ(p,q) =>
 T.bind (vt (bif (!o)then[49]else n)) λ(e,r) =>
 .ite ((!q)||((!r)||((e.length:Int)==0)))
  (.ret ((false,(([]:List Int),(([]:List Int),()))),2))
  (T.bind (lG d p e) λs =>
 .ret (s,0))))
def uf(i:zc):T ((AM.Expr×zc)⊕(zY×zc)) :=
 T.bind (xa (λe=>xL e) (i.1.length:Int) i) λ(c,a) =>
 T.bind (.zM (((decide (a.2.1<(a.1.length:Int)))=true)->(qz a.2.1 a.1.length)) <|
 .ite ((decide (a.2.1<(a.1.length:Int)))&&((qp a.1 a.2.1)==46))
  (T.bind (xa (λe=>xL e) (a.1.length:Int) (a.1,((zF (a.2.1+1)),(a.2.2.1,(a.2.2.2.1,()))))) λ(b,f) =>
 .ite (zl b [])
  (T.bind (xN 2 f.2.1 f) <|
 Sum.elim (λj =>
 oK [46] b <|
 oK c (cat [46] b) <|
 .ret (.inl ((cat c (cat [46] b)),(j,(Expr.mk 0 (false,([],([],()))) [] [])))))
  (λ(k,l) =>
 .ret (.inr (k,(l,(Expr.mk 0 (false,([],([],()))) [] []))))))
  (oK [46] b <|
 oK c (cat [46] b) <|
 .ret (.inl ((cat c (cat [46] b)),(f,(Expr.mk 0 (false,([],([],()))) [] []))))))
  (.ret (.inl (c,(a,(Expr.mk 0 (false,([],([],()))) [] []))))):T ((zf×zc×AM.Expr)⊕(zY×zc×AM.Expr))) <|
 Sum.elim (λ(h,d,o) =>
 .ite (decide (400<(h.length:Int)))
  (.ret (.inl ((Expr.mk 1 (false,([],([],()))) [] []),(d.1,(d.2.1,(d.2.2.1,(true,())))))))
  (T.bind (yK h) λ(g,p) =>
 .ret (.inl ((Expr.mk 1 (g.1,(g.2.1,(g.2.2.1,()))) [] []),d))))
  (λ(m,n,q) =>
 .ret (.inr (m,n)))
def w9(V:zc->T ((AM.Expr×zc)⊕(zY×zc)))(W:zc->T ((AM.Expr×zc)⊕(zY×zc)))(X:zc):T ((AM.Expr×zc)⊕(zY×zc)) :=
 T.bind (qZ [45,40] X) λ(h,a)=>let j:=(a,(Expr.mk 0 (false,([],([],()))) [] []));
 .ite (h==45)
  (T.bind (wQ a) <|
 Sum.elim (λk =>
 T.bind (V k) <|
 Sum.elim (λ(l,c) =>
 .ret (.inl ((Expr.mk 7 (false,([],([],()))) [] [l]),(c.1,(c.2.1,((zF (c.2.2.1-1)),(c.2.2.2.1,())))))))
  (λ(m,n) =>
 .ret (.inr (m,n))))
  (λ(o,p) =>
 .ret (.inr (o,p))))
  (.ite (h==40)
  (T.bind (wQ a) <|
 Sum.elim (λq =>
 T.bind (W q) <|
 Sum.elim (λ(r,s)=>let g:=((Expr.mk 0 (false,([],([],()))) [] []),r);
 T.bind (T.bind (qZ [41] s) λ(t,e) =>
 .ite (t==0)
  (T.bind (xN 2 e.2.1 e) <|
 Sum.elim (λu =>
 .ret (.inl (u,g)))
  (λ(v,w) =>
 .ret (.inr (v,(w,g)))))
  (.ret (.inl (e,g))):T ((zc×AM.Expr×AM.Expr)⊕(zY×zc×AM.Expr×AM.Expr))) <|
 Sum.elim (λ(d,Y,x) =>
 .ret (.inl (x,(d.1,(d.2.1,((zF (d.2.2.1-1)),(d.2.2.2.1,())))))))
  (λ(y,z,Z,aa) =>
 .ret (.inr (y,z))))
  (λ(A,B) =>
 .ret (.inr (A,B))))
  (λ(C,D) =>
 .ret (.inr (C,D))))
  (T.bind (.ite (decide (a.2.1<(a.1.length:Int)))
  (oI a.2.1 a.1 <|
 T.bind (xL (qp a.1 a.2.1)) λE =>
 .ret (E,j))
  (.ret (false,j)):T ((Bool×zc×AM.Expr))) λ(G,b,i) =>
 .ite G
  (T.bind (uf b) <|
 Sum.elim (λ(H,I) =>
 .ret (.inl (H,I)))
  (λ(J,K) =>
 .ret (.inr (J,K))))
  (T.bind (.ite (decide (b.2.1<(b.1.length:Int)))
  (oI b.2.1 b.1 <|
 T.bind (wJ (qp b.1 b.2.1)) λL =>
 .ret (L,(b,i)))
  (.ret (false,(b,i))):T ((Bool×zc×AM.Expr))) λ(M,f,ab) =>
 .ite M
  (T.bind (xa (λN=>vg N) 24 f) λ(O,P) =>
 .ret (.inl ((Expr.mk 2 (false,([],([],()))) O []),P)))
  (T.bind (xN 2 f.2.1 f) <|
 Sum.elim (λR =>
 .ret (.inl ((Expr.mk 0 (false,([],([],()))) [] []),R)))
  (λ(S,U) =>
 .ret (.inr (S,U)))))))
def xp(wN:zc->T ((AM.Expr×zc)⊕(zY×zc)))(p:zc):T ((AM.Expr×zc)⊕(zY×zc)):=T.fix (λF x=>w9 (λy0=>F (y0)) wN x) p
def wB(l:zc->T ((AM.Expr×zc)⊕(zY×zc)))(f:zf)(m:zY):(zc×AM.Expr×AM.Expr)->T ((zc×AM.Expr×AM.Expr)⊕((zc×AM.Expr×AM.Expr)⊕(zY×zc×AM.Expr×AM.Expr)))
 | (k,e,a) =>
 T.bind (qZ f k) λ(b,c) =>
 .ite (b==0)
  (.ret (.inr (.inl (c,(a,a)))))
  (T.bind ((xp l) c) <|
 Sum.elim (λ(g,h) =>
 T.bind (strings_IndexByte f b) λd =>
 .zM (qz d 2) <|
 .ret (.inl (h,(e,(Expr.mk (pn (.int .i64) xr m (Int.toNat d)) (false,([],([],()))) [] [a,g])))))
  (λ(i,j) =>
 .ret (.inr (.inr (i,(j,(e,a)))))))
def jA wN QG VU s:=T.loop (wB wN QG VU) s
def xF(a:zc->T ((AM.Expr×zc)⊕(zY×zc)))(p:(Unit))(j:zf)(k:zY)(l:zc):T ((AM.Expr×zc)⊕(zY×zc)) :=
 T.bind ((xp a) l) <|
 Sum.elim (λ(b,c) =>
 T.bind (jA a j k (c,((Expr.mk 0 (false,([],([],()))) [] []),b))) <|
 Sum.elim (λ(d,e,m) =>
 .ret (.inl (e,d)))
  (λ(f,g,n,o) =>
 .ret (.inr (f,g))))
  (λ(h,i) =>
 .ret (.inr (h,i)))
def xd(e:zc->T ((AM.Expr×zc)⊕(zY×zc)))(f:zc):T ((AM.Expr×zc)⊕(zY×zc)) :=
 T.bind ((xF e) () [42,47] ((5:Int),((6:Int),())) f) <|
 Sum.elim (λ(a,b) =>
 .ret (.inl (a,b)))
  (λ(c,d) =>
 .ret (.inr (c,d)))
def wv(l:zc->T ((AM.Expr×zc)⊕(zY×zc)))(f:zf)(m:zY):(zc×AM.Expr×AM.Expr)->T ((zc×AM.Expr×AM.Expr)⊕((zc×AM.Expr×AM.Expr)⊕(zY×zc×AM.Expr×AM.Expr)))
 | (k,e,a) =>
 T.bind (qZ f k) λ(b,c) =>
 .ite (b==0)
  (.ret (.inr (.inl (c,(a,a)))))
  (T.bind ((xd l) c) <|
 Sum.elim (λ(g,h) =>
 T.bind (strings_IndexByte f b) λd =>
 .zM (qz d 2) <|
 .ret (.inl (h,(e,(Expr.mk (pn (.int .i64) xr m (Int.toNat d)) (false,([],([],()))) [] [a,g])))))
  (λ(i,j) =>
 .ret (.inr (.inr (i,(j,(e,a)))))))
def jk wN QG VU s:=T.loop (wv wN QG VU) s
def xz(a:zc->T ((AM.Expr×zc)⊕(zY×zc)))(p:(Unit))(j:zf)(k:zY)(l:zc):T ((AM.Expr×zc)⊕(zY×zc)) :=
 T.bind ((xd a) l) <|
 Sum.elim (λ(b,c) =>
 T.bind (jk a j k (c,((Expr.mk 0 (false,([],([],()))) [] []),b))) <|
 Sum.elim (λ(d,e,m) =>
 .ret (.inl (e,d)))
  (λ(f,g,n,o) =>
 .ret (.inr (f,g))))
  (λ(h,i) =>
 .ret (.inr (h,i)))
def uA(e:zc->T ((AM.Expr×zc)⊕(zY×zc)))(f:zc):T ((AM.Expr×zc)⊕(zY×zc)) :=
 T.bind ((xz e) () [43,45] ((3:Int),((4:Int),())) f) <|
 Sum.elim (λ(a,b) =>
 .ret (.inl (a,b)))
  (λ(c,d) =>
 .ret (.inr (c,d)))
def ui(p:zc):T ((AM.Expr×zc)⊕(zY×zc)):=T.fix (λF x=>uA (λy0=>F (y0)) x) p
def kb(a:AM.Expr)(b:Int)(c:Int):T (AM.Expr×Int×Int) :=
 .ite false
  (.fail)
  (.ret (a,(b,c)))
def jl(a:zY)(b:AM.Expr)(c:Int)(d:Int):T (AM.Expr×Int×Int) :=
 .ite true
  (.ite (!true)
  (.fail)
  (.ret ((Expr.mk 0 (false,([],([],()))) [] []),(a.2.1,a.1))))
  (.ret (b,(c,d)))
def ju(t:zc):T (AM.Expr×Int×Int×zc) :=
 T.bind (ui t) <|
 Sum.elim (λ(b,a) =>
 .ite (decide (a.2.1<(a.1.length:Int)))
  (T.bind (xN 2 a.2.1 a) <|
 Sum.elim (λc =>
 T.bind (kb b 0 0) λ(d,e,f) =>
 .ret (d,(e,(f,c))))
  (λ(g,h) =>
 T.bind (jl g b 0 0) λ(i,j,k) =>
 .ret (i,(j,(k,h)))))
  (T.bind (kb b 0 0) λ(l,m,n) =>
 .ret (l,(m,(n,a)))))
  (λ(o,p) =>
 T.bind (jl o (Expr.mk 0 (false,([],([],()))) [] []) 0 0) λ(q,r,s) =>
 .ret (q,(r,(s,p))))
def k9(i:zf):T (AM.Expr×Int×Int) :=
 T.bind (ju (i,((0:Int),((0:Int),(false,()))))) λ(a,e,b,c)=>let d:=((Expr.mk 0 (false,([],([],()))) [] []),(c,a));
 .ite (b != 0)
  (.ret ((Expr.mk 0 (false,([],([],()))) [] []),(e,b)))
  (T.bind (.ite c.2.2.2.1
  (.ret (true,d))
  (T.bind (uz a) λf =>
 .ret ((!f),d)):T ((Bool×AM.Expr×zc×AM.Expr))) λ(g,j,k,h) =>
 .ite g
  (.ret ((Expr.mk 0 (false,([],([],()))) [] []),(0,3)))
  (.ret (h,(0,0))))
def strings_Contains(a:zf)(b:zf):T Bool :=
 .zM (a.length<4294967281) <|
 .ret (decide (0<=cZ a b))
def vC(b:zf)(v:zf):T (AM.Expr×AM.Expr×zf×Int) :=
 T.bind (strings_IndexAny b [60,61]) λa=>let c:=vv (zF (a+1)) (b.length:Int) b;
 .ite (decide (a<0))
  (.ret ((Expr.mk 0 (false,([],([],()))) [] []),((Expr.mk 0 (false,([],([],()))) [] []),([],2))))
  (.zM (bf 0 a b.length) <|
 .zM (bf (zF (a+1)) (b.length:Int) b.length) <|
 .zM (bf a (zF (a+1)) b.length) <|
 T.bind (T.bind (.ite (zl (vv a (zF (a+1)) b) [60])
  (T.bind (strings_HasPrefix c [61]) λm =>
 .ret (m,((Expr.mk 0 (false,([],([],()))) [] []),(Expr.mk 0 (false,([],([],()))) [] []))))
  (.ret (false,((Expr.mk 0 (false,([],([],()))) [] []),(Expr.mk 0 (false,([],([],()))) [] [])))):T ((Bool×AM.Expr×AM.Expr))) λ(n,e,f) =>
 .ite n
  (.zM (bf 1 (c.length:Int) c.length) <|
 .ret ([60,61],((vv 1 (c.length:Int) c),(e,f))))
  (.ret ((vv a (zF (a+1)) b),(c,(e,f)))):T ((zf×zf×AM.Expr×AM.Expr))) λ(g,o,w,p) =>
 T.bind (k9 (vv 0 a b)) λ(d,x,h) =>
 .ite (h != 0)
  (.ret (d,(p,([],h))))
  (T.bind (T.bind (k9 o) λ(i,y,j) =>
 T.bind (.ite (j==0)
  (T.bind (strings_Contains v g) λq =>
 .ret ((!q),(d,i)))
  (.ret (false,(d,i))):T ((Bool×AM.Expr×AM.Expr))) λ(r,k,l) =>
 .ite r
  (.ret (2,(k,l)))
  (.ret (j,(k,l))):T ((Int×AM.Expr×AM.Expr))) λ(s,t,u) =>
 .ret (t,(u,(g,s)))))
def qQ(b:(List zf))(c:zf)(d:Int):Int->T (Int⊕(Unit⊕Int))
 | a =>
 .ite (decide (a<d))
  (oI a b <|
 .ite (zl c (nth b a (zj .str)))
  (.ret (.inr (.inr a)))
  (.ret (.inl (zF (a+1)))))
  (.ret (.inr (.inl ())))
def kH s1 v1 x s:=T.loop (qQ s1 v1 x) s
def qT(a:(List zf))(c:zf):T Int :=
 T.bind (kH a c (a.length:Int) 0) <|
 Sum.elim (λ_ =>
 .ret (-1))
  (λb =>
 .ret b)
def wk(b:(List zf))(c:zf):T Bool :=
 T.bind (qT b c) λa =>
 .ret (decide (0<=a))
def wc(a:(List zf))(b:Int)(c:Int)(d:zf):T Bool :=
 .zM ((((a.length:Int)==b)=true)->(qz c a.length)) <|
 .ret (((a.length:Int)==b)&&(zl (nth a c (zj .str)) d))
def ka(b:(List zf))(a:Int):T (zf×Bool) :=
 .ite ((b.length:Int)==a)
  (.ret ([],true))
  (T.bind (T.bind (wc b (zF (a+2)) a [119,104,101,110]) λc =>
 .ite c
  (oI (zF (a+1)) b <|
 T.bind (xn (nth b (zF (a+1)) (zj .str))) λd =>
 .ret d)
  (.ret false):T (Bool)) λe =>
 .ite e
  (oI (zF (a+1)) b <|
 .ret ((nth b (zF (a+1)) (zj .str)),true))
  (.ret ([],false)))
def va(i:(List zf))(x:zf)(z:(Unit))(k:(List Switch))(l:(List Param))(j:(List xl))(m:(List Field))(n:(List qG))(o:(List Check)):T (Int×(Unit)×(List Switch)×(List Param)×(List xl)×(List Field)×(List qG)×(List Check)) :=
 let p:=((),(k,(l,(j,(m,(n,o))))));  T.bind (.ite ((i.length:Int) != 2)
  (oY k l j m n o <|
 .ret (true,p))
  (oI 1 i <|
 T.bind (xn (nth i 1 (zj .str))) λr =>
 .ite (!r)
  (oY k l j m n o <|
 .ret (true,p))
  (oY k l j m n o <|
 .ret (((j.length:Int)==0),p))):T ((Bool×(Unit)×(List Switch)×(List Param)×(List xl)×(List Field)×(List qG)×(List Check)))) λ(s,y,e,f,b,g,h,a) =>
 .ite s
  (oY e f b g h a <|
 .ret (2,((),(e,(f,(b,(g,(h,a))))))))
  (oI 1 i <|
 T.bind (vC x [60,61]) λ(c,d,t,u) =>
 T.bind (wM) λv =>
 T.bind (qT v t) λw=>let q:=a++([((nth i 1 (zj .str)),((zF ((b.length:Int)-1)),(w,((Expr.mk (Expr.kind c) ((Expr.num c).1,((Expr.num c).2.1,((Expr.num c).2.2.1,()))) (Expr.name c) (Expr.kids c)),((Expr.mk (Expr.kind d) ((Expr.num d).1,((Expr.num d).2.1,((Expr.num d).2.2.1,()))) (Expr.name d) (Expr.kids d)),())))))]:List Check);
 oA a 240 <|
 oC e <|
 oC f <|
 oC b <|
 oC g <|
 oC h <|
 .zM (uv (a.length+1) 0 (a.length+1) q.length) <|
 oE e <|
 oE f <|
 oE b <|
 oE g <|
 oE h <|
 .zM ((a.length+1)=q.length) <|
 .ret (u,((),(e,(f,(b,(g,(h,q))))))))
def wA(a:(List zf))(A:zf)(D:(Unit))(j:(List Switch))(k:(List Param))(l:(List xl))(m:(List Field))(n:(List qG))(o:(List Check)):T (Int×(Unit)×(List Switch)×(List Param)×(List xl)×(List Field)×(List qG)×(List Check)) :=
 let p:=((),(j,(k,(l,(m,(n,o))))));  T.bind (.ite (decide ((a.length:Int)<3))
  (oY j k l m n o <|
 .ret (true,p))
  (T.bind (xK) λr =>
 oI 1 a <|
 T.bind (wk r (nth a 1 (zj .str))) λs =>
 .ite (!s)
  (oY j k l m n o <|
 .ret (true,p))
  (oI 2 a <|
 T.bind (xn (nth a 2 (zj .str))) λt =>
 oY j k l m n o <|
 .ret ((!t),p))):T ((Bool×(Unit)×(List Switch)×(List Param)×(List xl)×(List Field)×(List qG)×(List Check)))) λ(u,B,c,d,e,f,b,g) =>
 .ite u
  (oY c d e f b g <|
 .ret (2,((),(c,(d,(e,(f,(b,g))))))))
  (T.bind (ka a 3) λ(v,w) =>
 .ite (!w)
  (oY c d e f b g <|
 .ret (2,((),(c,(d,(e,(f,(b,g))))))))
  (oI 2 a <|
 T.bind (xK) λx =>
 oI 1 a <|
 T.bind (qT x (nth a 1 (zj .str))) λy =>
 T.bind (vC A [61]) λ(h,i,C,z)=>let q:=b++([((nth a 2 (zj .str)),(y,(v,((Expr.mk (Expr.kind h) ((Expr.num h).1,((Expr.num h).2.1,((Expr.num h).2.2.1,()))) (Expr.name h) (Expr.kids h)),((Expr.mk (Expr.kind i) ((Expr.num i).1,((Expr.num i).2.1,((Expr.num i).2.2.1,()))) (Expr.name i) (Expr.kids i)),())))))]:List qG);
 oA b 248 <|
 oC c <|
 oC d <|
 oC e <|
 oC f <|
 .zM (uv (b.length+1) 0 (b.length+1) q.length) <|
 oC g <|
 oE c <|
 oE d <|
 oE e <|
 oE f <|
 .zM ((b.length+1)=q.length) <|
 oE g <|
 .ret (z,((),(c,(d,(e,(f,(q,g)))))))))
def uR(a:(List zf))(s:(Unit))(h:(List Switch))(i:(List Param))(j:(List xl))(k:(List Field))(l:(List qG))(m:(List Check)):T (Bool×(Unit)×(List Switch)×(List Param)×(List xl)×(List Field)×(List qG)×(List Check)) :=
 let n:=((),(h,(i,(j,(k,(l,m))))));  T.bind (.ite ((a.length:Int) != 3)
  (oY h i j k l m <|
 .ret (true,n))
  (oI 1 a <|
 T.bind (xn (nth a 1 (zj .str))) λp =>
 .ite (!p)
  (oY h i j k l m <|
 .ret (true,n))
  (oI 2 a <|
 .ite (!(zl (nth a 2 (zj .str)) [111,110]))
  (oI 2 a <|
 oY h i j k l m <|
 .ret ((!(zl (nth a 2 (zj .str)) [111,102,102])),n))
  (oY h i j k l m <|
 .ret (false,n)))):T ((Bool×(Unit)×(List Switch)×(List Param)×(List xl)×(List Field)×(List qG)×(List Check)))) λ(q,r,b,c,d,e,f,g)=>let o:=b++([((nth a 1 (zj .str)),((zl (nth a 2 (zj .str)) [111,110]),()))]:List Switch);
 .ite q
  (oY b c d e f g <|
 .ret (false,((),(b,(c,(d,(e,(f,g))))))))
  (oI 1 a <|
 oI 2 a <|
 oA b 24 <|
 .zM (uv (b.length+1) 0 (b.length+1) o.length) <|
 oC c <|
 oC d <|
 oC e <|
 oC f <|
 oC g <|
 .zM ((b.length+1)=o.length) <|
 oE c <|
 oE d <|
 oE e <|
 oE f <|
 oE g <|
 .ret (true,((),(o,(c,(d,(e,(f,g))))))))
def ug(b:(List zf))(t:(Unit))(h:(List Switch))(i:(List Param))(j:(List xl))(k:(List Field))(l:(List qG))(m:(List Check)):T (Bool×(Unit)×(List Switch)×(List Param)×(List xl)×(List Field)×(List qG)×(List Check)) :=
 T.bind (.ite ((b.length:Int) != 3)
  (oY h i j k l m <|
 .ret (true,((),(h,(i,(j,(k,(l,m))))))))
  (oI 1 b <|
 T.bind (xn (nth b 1 (zj .str))) λp =>
 oY h i j k l m <|
 .ret ((!p),((),(h,(i,(j,(k,(l,m)))))))):T ((Bool×(Unit)×(List Switch)×(List Param)×(List xl)×(List Field)×(List qG)×(List Check)))) λ(q,s,c,a,d,e,f,g) =>
 .ite q
  (oY c a d e f g <|
 .ret (false,((),(c,(a,(d,(e,(f,g))))))))
  (oI 2 b <|
 T.bind (yK (nth b 2 (zj .str))) λ(n,r)=>let o:=a++([((nth b 1 (zj .str)),((n.1,(n.2.1,(n.2.2.1,()))),()))]:List Param);
 oI 1 b <|
 oA a 72 <|
 oC c <|
 .zM (uv (a.length+1) 0 (a.length+1) o.length) <|
 oC d <|
 oC e <|
 oC f <|
 oC g <|
 oE c <|
 .zM ((a.length+1)=o.length) <|
 oE d <|
 oE e <|
 oE f <|
 oE g <|
 .ret ((r==0),((),(c,(o,(d,(e,(f,g))))))))
def vz(b:(List zf))(t:(Unit))(h:(List Switch))(i:(List Param))(j:(List xl))(k:(List Field))(l:(List qG))(m:(List Check)):T (Bool×(Unit)×(List Switch)×(List Param)×(List xl)×(List Field)×(List qG)×(List Check)) :=
 T.bind (.ite (decide ((b.length:Int)<2))
  (oY h i j k l m <|
 .ret (true,((),(h,(i,(j,(k,(l,m))))))))
  (oI 1 b <|
 T.bind (xn (nth b 1 (zj .str))) λo =>
 oY h i j k l m <|
 .ret ((!o),((),(h,(i,(j,(k,(l,m)))))))):T ((Bool×(Unit)×(List Switch)×(List Param)×(List xl)×(List Field)×(List qG)×(List Check)))) λ(p,s,c,d,a,e,f,g) =>
 .ite p
  (oY c d a e f g <|
 .ret (false,((),(c,(d,(a,(e,(f,g))))))))
  (T.bind (ka b 2) λ(q,r)=>let n:=a++([((nth b 1 (zj .str)),(q,()))]:List xl);
 oI 1 b <|
 oA a 32 <|
 oC c <|
 oC d <|
 .zM (uv (a.length+1) 0 (a.length+1) n.length) <|
 oC e <|
 oC f <|
 oC g <|
 oE c <|
 oE d <|
 .zM ((a.length+1)=n.length) <|
 oE e <|
 oE f <|
 oE g <|
 .ret (r,((),(c,(d,(n,(e,(f,g))))))))
def ub(a:(List zf))(aa:(Unit))(A:(List Switch))(B:(List Param))(s:(List xl))(C:(List Field))(D:(List qG))(E:(List Check)):T (Bool×(Unit)×(List Switch)×(List Param)×(List xl)×(List Field)×(List qG)×(List Check)) :=
 let N:=((),(A,(B,(s,(C,(D,E)))))); let b:=(a.length:Int);  T.bind (.ite (decide (b<2))
  (oY A B s C D E <|
 .ret (true,N))
  (oI 1 a <|
 T.bind (xn (nth a 1 (zj .str))) λO =>
 .ite (!O)
  (oY A B s C D E <|
 .ret (true,N))
  (oY A B s C D E <|
 .ret (((s.length:Int)==0),N))):T ((Bool×(Unit)×(List Switch)×(List Param)×(List xl)×(List Field)×(List qG)×(List Check)))) λ(P,W,g,h,c,i,j,k) =>
 .ite P
  (oY g h c i j k <|
 .ret (false,((),(g,(h,(c,(i,(j,k))))))))
  (oI 1 a <|
 .zM (bf 2 b a.length) <|
 T.bind (.zM (((decide (0<(Nat.cast (vr (e:=.str) 2 b a).length:Int)))=true)->(qz 0 (vr (e:=.str) 2 b a).length)) <|
 .ite ((decide (0<(Nat.cast (vr (e:=.str) 2 b a).length:Int)))&&(zl (nth (vr (e:=.str) 2 b a) 0 (zj .str)) [109,117,115,116]))
  (.zM (bf 1 (Nat.cast (vr (e:=.str) 2 b a).length:Int) (vr (e:=.str) 2 b a).length) <|
 oY g h c i j k <|
 .ret ((vr (e:=.str) 1 (Nat.cast (vr (e:=.str) 2 b a).length:Int) (vr (e:=.str) 2 b a)),((),(g,(h,(c,(i,(j,(k,((nth a 1 (zj .str)),((zF ((c.length:Int)-1)),(true,((0:Int),())))))))))))))
  (oY g h c i j k <|
 .ret ((vr (e:=.str) 2 b a),((),(g,(h,(c,(i,(j,(k,((nth a 1 (zj .str)),((zF ((c.length:Int)-1)),(false,((0:Int),()))))))))))))):T (((List zf)×(Unit)×(List Switch)×(List Param)×(List xl)×(List Field)×(List qG)×(List Check)×Field))) λ(d,X,m,n,o,p,q,r,R)=>let l:=nth d 1 (zj .str); let G:=((),(m,(n,(o,(p,(q,(r,R)))))));
 T.bind (T.bind (T.bind (wc d 2 0 [115,99,97,108,101]) λS =>
 .ite S
  (oI 1 d <|
 .ite ((l.length:Int)==1)
  (oI 1 d <|
 .ite (!(strLt l [48]))
  (oI 1 d <|
 oY m n o p q r <|
 .ret (((strLt l [57])||(zl l [57])),G))
  (oY m n o p q r <|
 .ret (false,G)))
  (oY m n o p q r <|
 .ret (false,G)))
  (oY m n o p q r <|
 .ret (false,G)):T ((Bool×(Unit)×(List Switch)×(List Param)×(List xl)×(List Field)×(List qG)×(List Check)×Field))) λ(U,Y,t,u,v,w,x,y,z) =>
 .ite U
  (oI 1 d <|
 oI 0 l <|
 oY t u v w x y <|
 .ret ([],((),(t,(u,(v,(w,(x,(y,(z.1,(z.2.1,(z.2.2.1,((zF (GW ((qp l 0)-48))),())))))))))))))
  (oY t u v w x y <|
 .ret (d,((),(t,(u,(v,(w,(x,(y,z))))))))):T (((List zf)×(Unit)×(List Switch)×(List Param)×(List xl)×(List Field)×(List qG)×(List Check)×Field))) λ(V,Z,H,I,J,f,K,L,M) =>
 oA f 40 <|
 oC H <|
 oC I <|
 oC J <|
 .zM (uv (f.length+1) 0 (f.length+1) (f++[M]).length) <|
 oC K <|
 oC L <|
 oE H <|
 oE I <|
 oE J <|
 .zM ((f.length+1)=(f++[M]).length) <|
 oE K <|
 oE L <|
 .ret (((V.length:Int)==0),((),(H,(I,(J,((f++[M]),(K,L))))))))
def du(ag:zf)(an:(Unit))(b:(List Switch))(c:(List Param))(d:(List xl))(e:(List Field))(f:(List qG))(g:(List Check)):T (Int×(Unit)×(List Switch)×(List Param)×(List xl)×(List Field)×(List qG)×(List Check)) :=
 let j:=((),(b,(c,(d,(e,(f,g))))));  T.bind (strings_Cut ag [58]) λ(Z,K,i) =>
 T.bind (fT Z) λa=>let J:=decide (0<(a.length:Int)); let h:=nth a 0 (zj .str);
 .zM (((((a.length:Int)==0)=true)->(((!i)=false)->((J=true)->((qz 0 a.length)/\(qz 0 h.length)))))/\((((a.length:Int)==0)=false)->((J=true)->((qz 0 a.length)/\(qz 0 h.length))))) <|
 .ite (bif ((a.length:Int)==0)then((!i)||(J&&((qp h 0)==35)))else(J&&((qp h 0)==35)))
  (oY b c d e f g <|
 .ret (0,j))
  (.ite ((a.length:Int)==0)
  (.ite (!false)
  (oY b c d e f g <|
 .ret (2,j))
  (oY b c d e f g <|
 .ret (0,j)))
  (.zM ((i=true)->(qz 0 a.length)) <|
 .ite (i&&(zl h [99,104,101,99,107]))
  (oY b c d e f g <|
 T.bind (va a K () b c d e f g) λ(aa,ah,L,M,N,O,P,R) =>
 oY L M N O P R <|
 .ret (aa,((),(L,(M,(N,(O,(P,R))))))))
  (.zM ((i=true)->(qz 0 a.length)) <|
 .ite (i&&(zl h [114,117,108,101]))
  (oY b c d e f g <|
 T.bind (wA a K () b c d e f g) λ(ab,ai,S,U,V,W,X,Y) =>
 oY S U V W X Y <|
 .ret (ab,((),(S,(U,(V,(W,(X,Y))))))))
  (.ite i
  (.ite (!false)
  (oY b c d e f g <|
 .ret (2,j))
  (oY b c d e f g <|
 .ret (0,j)))
  (oI 0 a <|
 .ite (zl h [115,119,105,116,99,104])
  (oY b c d e f g <|
 T.bind (uR a () b c d e f g) λ(ac,aj,k,l,m,n,o,p) =>
 .ite (!ac)
  (oY k l m n o p <|
 .ret (2,((),(k,(l,(m,(n,(o,p))))))))
  (oY k l m n o p <|
 .ret (0,((),(k,(l,(m,(n,(o,p)))))))))
  (oI 0 a <|
 .ite (zl h [112,97,114,97,109])
  (oY b c d e f g <|
 T.bind (ug a () b c d e f g) λ(ad,ak,q,r,s,t,u,v) =>
 .ite (!ad)
  (oY q r s t u v <|
 .ret (2,((),(q,(r,(s,(t,(u,v))))))))
  (oY q r s t u v <|
 .ret (0,((),(q,(r,(s,(t,(u,v)))))))))
  (oI 0 a <|
 .ite (zl h [112,97,103,101])
  (oY b c d e f g <|
 T.bind (vz a () b c d e f g) λ(ae,al,w,x,y,z,A,B) =>
 .ite (!ae)
  (oY w x y z A B <|
 .ret (2,((),(w,(x,(y,(z,(A,B))))))))
  (oY w x y z A B <|
 .ret (0,((),(w,(x,(y,(z,(A,B)))))))))
  (oI 0 a <|
 .ite (zl h [102,105,101,108,100])
  (oY b c d e f g <|
 T.bind (ub a () b c d e f g) λ(af,am,C,D,E,G,H,I) =>
 .ite (!af)
  (oY C D E G H I <|
 .ret (2,((),(C,(D,(E,(G,(H,I))))))))
  (oY C D E G H I <|
 .ret (0,((),(C,(D,(E,(G,(H,I)))))))))
  (.ite (!false)
  (oY b c d e f g <|
 .ret (2,j))
  (oY b c d e f g <|
 .ret (0,j)))))))))))
def jD(u:(List zf))(w:Int):(Int×(Unit)×(Unit)×(List Check)×(List Check)×(List qG)×(List qG)×(List Switch)×(List Switch)×(List Param)×(List Param)×(List xl)×(List xl)×(List Field)×(List Field))->T ((Int×(Unit)×(Unit)×(List Check)×(List Check)×(List qG)×(List qG)×(List Switch)×(List Switch)×(List Param)×(List Param)×(List xl)×(List xl)×(List Field)×(List Field))⊕(((Unit)×(Unit)×(List Check)×(List Check)×(List qG)×(List qG)×(List Switch)×(List Switch)×(List Param)×(List Param)×(List xl)×(List xl)×(List Field)×(List Field))⊕(Int×Int×Form×(Unit)×(List Check)×(List Check)×(List qG)×(List qG)×(List Switch)×(List Switch)×(List Param)×(List Param)×(List xl)×(List xl)×(List Field)×(List Field))))
 | (m,y,z,a,n,b,o,c,p,d,q,e,r,f,s) =>
 .ite (decide (m<w))
  (oI m u <|
 oY p q r s o n <|
 T.bind (du (nth u m (zj .str)) () p q r s o n) λ(t,x,g,h,i,j,k,l)=>let v:=((),(a,(l,(b,(k,(c,(g,(d,(h,(e,(i,(f,j))))))))))));
 .ite (t != 0)
  (oV g h i j k l <|
 oW a l b k c g <|
 oW d h e i f j <|
 .ret (.inr (.inr ((zF (m+1)),(t,((([]:List Switch),(([]:List Param),(([]:List xl),(([]:List Field),(([]:List qG),(([]:List Check),())))))),v))))))
  (oV c d e f b a <|
 oV g h i j k l <|
 oW a l b k c g <|
 oW d h e i f j <|
 .ret (.inl ((zF (m+1)),((),v)))))
  (oV c d e f b a <|
 oV p q r s o n <|
 oW a n b o c p <|
 oW d q e r f s <|
 .ret (.inr (.inl ((),((),(a,(n,(b,(o,(c,(p,(d,(q,(e,(r,(f,s))))))))))))))))
def dZ x x1 s:=T.loop (jD x x1) s
def cd(h:zf):T (Form×Int×Int) :=
 .ite (decide (16384<(h.length:Int)))
  (.ret ((([]:List Switch),(([]:List Param),(([]:List xl),(([]:List Field),(([]:List qG),(([]:List Check),())))))),(0,3)))
  (T.bind (strings_Split h [10]) λg =>
 .zM (uv 0 0 0 0) <|
 .zM (uv 0 0 0 0) <|
 .zM (uv 0 0 0 0) <|
 .zM (uv 0 0 0 0) <|
 .zM (uv 0 0 0 0) <|
 .zM (uv 0 0 0 0) <|
 .zM (uv 0 0 0 0) <|
 .zM (uv 0 0 0 0) <|
 .zM (uv 0 0 0 0) <|
 .zM (uv 0 0 0 0) <|
 .zM (uv 0 0 0 0) <|
 oZ <|
 .zM (0=0) <|
 .zM (0=0) <|
 .zM (0=0) <|
 .zM (0=0) <|
 .zM (0=0) <|
 .zM (0=0) <|
 .zM (0=0) <|
 .zM (0=0) <|
 .zM (0=0) <|
 .zM (0=0) <|
 .zM (0=0) <|
 T.bind (dZ g (g.length:Int) (0,((),((),([],([],([],([],([],([],([],([],([],([],([],[]))))))))))))))) <|
 Sum.elim (λ(n,o,p,a,q,b,r,c,s,d,t,e,u,f)=>let i:=((List.drop 0 (List.take (0+c.length) c)),((List.drop 0 (List.take (0+d.length) d)),((List.drop 0 (List.take (0+e.length) e)),((List.drop 0 (List.take (0+f.length) f)),((List.drop 0 (List.take (0+b.length) b)),((List.drop 0 (List.take (0+a.length) a)),()))))));
 oW c d e f b a <|
 T.bind (dS i) λj =>
 .ite (!j)
  (.ret ((([]:List Switch),(([]:List Param),(([]:List xl),(([]:List Field),(([]:List qG),(([]:List Check),())))))),(0,2)))
  (oW c d e f b a <|
 .ret (i,(0,0))))
  (λ(k,l,m,v,w,x,y,z,A,B,C,D,E,G,H,I) =>
 .ret (m,(k,l))))
def mb  : T Bool :=
 T.bind (cd [112,97,103,101,32,112,10,102,105,101,108,100,32,32,97,32,109,117,115,116,10,114,117,108,101,32,119,101,97,107,32,114,58,97,61,50,10]) λ(a,b,c) =>
 .ite (c==0)
  (.ite (b==0)
  (T.bind (jQ a) λd =>
 .ret (zl d [112,97,103,101,32,112,10,102,105,101,108,100,32,97,32,109,117,115,116,10,114,117,108,101,32,119,101,97,107,32,114,32,58,32,97,32,61,32,50,10]))
  (.ret false))
  (.ret false)
def ym(a:Form)(b:Form):T Bool :=
 T.bind (T.bind (bP a) λc =>
 .ite c
  (.ret true)
  (T.bind (bP b) λd =>
 .ret d):T (Bool)) λe =>
 .ite e
  (.ret true)
  (T.bind (jQ a) λf =>
 T.bind (mQ a) λg =>
 .ite (zl f g)
  (T.bind (dS a) λh =>
 T.bind (Qk a) λi =>
 .ite (h==i)
  (T.bind (eE a b) λj =>
 T.bind (pM a b) λk =>
 .ite (j==k)
  (T.bind (eE a a) λl =>
 .ite l
  (T.bind (mb) λm =>
 .ret m)
  (.ret false))
  (.ret false))
  (.ret false))
  (.ret false))

abbrev Xy:Ty:=(.cons (.int .i64) (.cons (.int .i64) .nil))
abbrev u6:=den Xy
end Go.AM.Lf
