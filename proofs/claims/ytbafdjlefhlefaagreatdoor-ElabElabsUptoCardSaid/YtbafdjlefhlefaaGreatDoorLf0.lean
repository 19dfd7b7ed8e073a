/-
  The program's functions as trees in plain Lean, part 0: printed by a program of ours.
-/
import Derived.Test.YtbafdjlefhlefaaGreatDoorAmA
set_option linter.unusedVariables false
noncomputable section
namespace Go.AM.Lf
abbrev dF:Ty:=(.cons .str .nil)
abbrev ES:=den dF
abbrev ep:Ty:=(.cons .str (.cons (.int .u64) .nil))
abbrev UJ:=den ep
abbrev zW:Ty:=(.cons .str (.cons .bool .nil))
abbrev Switch:=den zW
abbrev qu:Ty:=(.cons .str dF)
abbrev ri:=den qu
abbrev pK:Ty:=(.cons (.int .i64) (.cons (.int .i64) (.cons .bool (.cons (.int .u8) .nil))))
abbrev DE:=den pK
abbrev zJ:Ty:=(.cons .bool (.cons (.sl (.int .u32)) (.cons (.sl (.int .u32)) .nil)))
abbrev Rat:=den zJ
abbrev q7:Ty:=(.cons .str (.cons (.int .i64) (.cons .bool (.cons (.int .i64) .nil))))
abbrev Field:=den q7
abbrev zo:Ty:=(.cons .str (.cons (.int .i64) (.cons .str (.cons .expr (.cons .expr .nil)))))
abbrev uX:=den zo
abbrev zn:Ty:=(.cons .str (.cons (.int .i64) (.cons (.int .i64) (.cons .expr (.cons .expr .nil)))))
abbrev Check:=den zn
abbrev zX:Ty:=(.cons .str (.cons zJ .nil))
abbrev Param:=den zX
abbrev zp:Ty:=(.cons (.int .i64) (.cons zJ .nil))
abbrev Term:=den zp
abbrev zP:Ty:=(.cons (.sl .str) (.cons (.sl .str) (.cons (.sl zJ) .nil)))
abbrev zK:=den zP
abbrev zV:Ty:=(.cons (.int .i64) (.cons (.sl zp) (.cons zJ .nil)))
abbrev wg:=den zV
abbrev qi:Ty:=(.cons (.sl zV) (.cons (.sl (.int .i64)) .nil))
abbrev qM:=den qi
abbrev zG:Ty:=(.cons (.sl zW) (.cons (.sl zX) (.cons (.sl qu) (.cons (.sl q7) (.cons (.sl zo) (.cons (.sl zn) .nil))))))
abbrev Form:=den zG
def jW(uR:AM.Expr→Int→T Int)(e1:AM.Expr):(Int×Int)→T ((Int×Int)⊕(Int))
 | (left1,i) =>
 .ite ((decide (i<((Expr.kids e1).length:Int)))&&(decide ((0:Int)≤left1)))
  (.zd (zi i (Expr.kids e1).length) <|
 T.bind (uR (nth (Expr.kids e1) i (zb .expr)) left1) fun z8z =>
 .ret (.inl (z8z,(zt (i+1)))))
  (.ret (.inr left1))
def pS uR e1 s:=T.loop (jW uR e1) s
def cA(uR:AM.Expr→Int→T Int)(e:AM.Expr)(left:Int):T Int :=
 T.bind (pS uR e ((zt ((zt ((zt ((zt (left-3))-((Expr.name e).length:Int)))-(zt ((8:Int)*(Nat.cast (List.length (Expr.num e).2.1):Int)))))-(zt ((8:Int)*(Nat.cast (List.length (Expr.num e).2.2.1):Int))))),(0:Int))) fun zcs =>
 .ret zcs
def kE(e:AM.Expr)(left:Int):T Int:=T.fix (fun F x=>cA (fun y0 y1=>F (y0,y1)) x.1 x.2) (e,left)
def yJ(f1:Form):(Int×Int)→T ((Int×Int)⊕(Int))
 | (n,i) =>
 .ite ((decide (i<(f1.2.1.length:Int)))&&(decide ((0:Int)≤n)))
  (.zd (zi i f1.2.1.length) <|
 .zd (zi i f1.2.1.length) <|
 .zd (zi i f1.2.1.length) <|
 .ret (.inl ((zt ((zt ((zt (n-(zt ((8:Int)*(Nat.cast (List.length (nth f1.2.1 i (zb zX)).2.1.2.1):Int)))))-(zt ((8:Int)*(Nat.cast (List.length (nth f1.2.1 i (zb zX)).2.1.2.2.1):Int)))))-(Nat.cast (List.length (nth f1.2.1 i (zb zX)).1):Int))),(zt (i+1)))))
  (.ret (.inr n))
def Z6 f1 s:=T.loop (yJ f1) s
def yQ(f2:Form):(Int×Int)→T ((Int×Int)⊕(Int))
 | (n2,i1) =>
 .ite ((decide (i1<(f2.1.length:Int)))&&(decide ((0:Int)≤n2)))
  (.zd (zi i1 f2.1.length) <|
 .ret (.inl ((zt (n2-(Nat.cast (List.length (nth f2.1 i1 (zb zW)).1):Int))),(zt (i1+1)))))
  (.ret (.inr n2))
def Zz f2 s:=T.loop (yQ f2) s
def yR(f3:Form):(Int×Int)→T ((Int×Int)⊕(Int))
 | (n4,i2) =>
 .ite ((decide (i2<(f3.2.2.1.length:Int)))&&(decide ((0:Int)≤n4)))
  (.zd (zi i2 f3.2.2.1.length) <|
 .zd (zi i2 f3.2.2.1.length) <|
 .ret (.inl ((zt ((zt (n4-(Nat.cast (List.length (nth f3.2.2.1 i2 (zb qu)).1):Int)))-(Nat.cast (List.length (nth f3.2.2.1 i2 (zb qu)).2.1):Int))),(zt (i2+1)))))
  (.ret (.inr n4))
def Zd f3 s:=T.loop (yR f3) s
def yj(f4:Form):(Int×Int)→T ((Int×Int)⊕(Int))
 | (n6,i3) =>
 .ite ((decide (i3<(f4.2.2.2.1.length:Int)))&&(decide ((0:Int)≤n6)))
  (.zd (zi i3 f4.2.2.2.1.length) <|
 .ret (.inl ((zt (n6-(Nat.cast (List.length (nth f4.2.2.2.1 i3 (zb q7)).1):Int))),(zt (i3+1)))))
  (.ret (.inr n6))
def Zx f4 s:=T.loop (yj f4) s
def yO(f5:Form):(Int×Int)→T ((Int×Int)⊕(Int))
 | (n8,i4) =>
 .ite ((decide (i4<(f5.2.2.2.2.1.length:Int)))&&(decide ((0:Int)≤n8)))
  (.zd (zi i4 f5.2.2.2.2.1.length) <|
 .zd (zi i4 f5.2.2.2.2.1.length) <|
 .zd (zi i4 f5.2.2.2.2.1.length) <|
 .zd (zi i4 f5.2.2.2.2.1.length) <|
 T.bind (kE (nth f5.2.2.2.2.1 i4 (zb zo)).2.2.2.1 (zt ((zt (n8-(Nat.cast (List.length (nth f5.2.2.2.2.1 i4 (zb zo)).1):Int)))-(Nat.cast (List.length (nth f5.2.2.2.2.1 i4 (zb zo)).2.2.1):Int)))) fun r =>
 T.bind (kE (nth f5.2.2.2.2.1 i4 (zb zo)).2.2.2.2.1 r) fun n9 =>
 .ret (.inl (n9,(zt (i4+1)))))
  (.ret (.inr n8))
def Zr f5 s:=T.loop (yO f5) s
def yk(f6:Form):(Int×Int)→T ((Int×Int)⊕(Int))
 | (n11,i5) =>
 .ite ((decide (i5<(f6.2.2.2.2.2.1.length:Int)))&&(decide ((0:Int)≤n11)))
  (.zd (zi i5 f6.2.2.2.2.2.1.length) <|
 .zd (zi i5 f6.2.2.2.2.2.1.length) <|
 .zd (zi i5 f6.2.2.2.2.2.1.length) <|
 T.bind (kE (nth f6.2.2.2.2.2.1 i5 (zb zn)).2.2.2.1 (zt (n11-(Nat.cast (List.length (nth f6.2.2.2.2.2.1 i5 (zb zn)).1):Int)))) fun r1 =>
 T.bind (kE (nth f6.2.2.2.2.2.1 i5 (zb zn)).2.2.2.2.1 r1) fun n12 =>
 .ret (.inl (n12,(zt (i5+1)))))
  (.ret (.inr n11))
def Z0 f6 s:=T.loop (yk f6) s
def cj(f:Form):T Bool :=
 T.bind (Z6 f ((zt ((600:Int)-(zt ((20:Int)*(zt ((zt ((zt ((zt ((zt ((f.1.length:Int)+(f.2.1.length:Int)))+(f.2.2.1.length:Int)))+(f.2.2.2.1.length:Int)))+(f.2.2.2.2.1.length:Int)))+(f.2.2.2.2.2.1.length:Int))))))),(0:Int))) fun n1 =>
 T.bind (Zz f (n1,(0:Int))) fun n3 =>
 T.bind (Zd f (n3,(0:Int))) fun n5 =>
 T.bind (Zx f (n5,(0:Int))) fun n7 =>
 T.bind (Zr f (n7,(0:Int))) fun n10 =>
 T.bind (Z0 f (n10,(0:Int))) fun n13 =>
 .ret (decide (n13<(0:Int)))
def bL(l1:(List Rat)):(Int×Int)→T ((Int×Int)⊕(Unit⊕Bool))
 | (n,i) =>
 .ite (decide (i<(l1.length:Int)))
  (.zd (zi i l1.length) <|
 .zd (zi i l1.length) <|
 .zd (((decide ((100:Int)<(zt ((zt ((zt (n+1))+(Nat.cast (List.length (nth l1 i (zb zJ)).2.1):Int)))+(Nat.cast (List.length (nth l1 i (zb zJ)).2.2.1):Int)))))=false)→((zi i l1.length)∧(((decide ((3:Int)<(Nat.cast (List.length (nth l1 i (zb zJ)).2.1):Int)))=false)→(zi i l1.length)))) <|
 .ite ((decide ((100:Int)<(zt ((zt ((zt (n+1))+(Nat.cast (List.length (nth l1 i (zb zJ)).2.1):Int)))+(Nat.cast (List.length (nth l1 i (zb zJ)).2.2.1):Int)))))||((decide ((3:Int)<(Nat.cast (List.length (nth l1 i (zb zJ)).2.1):Int)))||(decide ((3:Int)<(Nat.cast (List.length (nth l1 i (zb zJ)).2.2.1):Int)))))
  (.ret (.inr (.inr true)))
  (.ret (.inl ((zt ((zt ((zt (n+1))+(Nat.cast (List.length (nth l1 i (zb zJ)).2.1):Int)))+(Nat.cast (List.length (nth l1 i (zb zJ)).2.2.1):Int))),(zt (i+1))))))
  (.ret (.inr (.inl ())))
def XU l1 s:=T.loop (bL l1) s
def fe(l:(List Rat)):T Bool :=
 T.bind (XU l ((0:Int),(0:Int))) <|
 Sum.elim (fun _ =>
 .ret false)
  (fun x =>
 .ret x)
def uv(c:Int):T Bool :=
 .ret ((decide ((97:Int)≤c))&&(decide (c≤(122:Int))))
def o5(c:Int):T Bool :=
 .ret ((decide ((48:Int)≤c))&&(decide (c≤(57:Int))))
def eS(c:Int):T Bool :=
 T.bind (uv c) fun r =>
 .ite r
  (.ret true)
  (T.bind (o5 c) fun r1 =>
 .ite r1
  (.ret true)
  (.ret (c==95)))
def kS(s1:zf)(x1:Int):Int→T (Int⊕(Unit⊕Bool))
 | x2 =>
 .ite (decide (x2<x1))
  (.zd (zi x2 s1.length) <|
 T.bind (eS (wB s1 x2)) fun r1 =>
 .ite (!r1)
  (.ret (.inr (.inr false)))
  (.ret (.inl (zt (x2+1)))))
  (.ret (.inr (.inl ())))
def QP s1 x1 s:=T.loop (kS s1 x1) s
def uI(s:zf):T Bool :=
 T.bind (.ite (zH s ([]:zf))
  (.ret true)
  (.ite (decide ((24:Int)<(s.length:Int)))
  (.ret true)
  (.zd (zi (0:Int) s.length) <|
 T.bind (uv (wB s (0:Int))) fun r =>
 .ret (!r))):T (Bool)) fun x =>
 .ite x
  (.ret false)
  (T.bind (QP s (s.length:Int) (0:Int)) <|
 Sum.elim (fun _ =>
 .ret true)
  (fun x3 =>
 .ret x3))
def vE(s:Switch):T Bool :=
 T.bind (uI s.1) fun r =>
 .ret (!r)
def qe(s1:(List Switch))(f:Switch→T Bool)(x:Int):Int→T (Int⊕(Unit⊕Int))
 | x1 =>
 .ite (decide (x1<x))
  (.zd (zi x1 s1.length) <|
 T.bind (f (nth s1 x1 (zb zW))) fun r =>
 .ite r
  (.ret (.inr (.inr x1)))
  (.ret (.inl (zt (x1+1)))))
  (.ret (.inr (.inl ())))
def wS s1 f x s:=T.loop (qe s1 f x) s
def qm(s:(List Switch))(f:Switch→T Bool):T Int :=
 T.bind (wS s f (s.length:Int) (0:Int)) <|
 Sum.elim (fun _ =>
 .ret (-1:Int))
  (fun x2 =>
 .ret x2)
def qA(s:(List Switch))(f:Switch→T Bool):T Bool :=
 T.bind (qm s f) fun r =>
 .ret (decide ((0:Int)≤r))
def ig(a:(List Int)):T Bool :=
 .zd ((((a.length:Int)==(0:Int))=false)→(zi (zt ((a.length:Int)-(1:Int))) a.length)) <|
 .ret (((a.length:Int)==(0:Int))||((nth a (zt ((a.length:Int)-(1:Int))) (zb (.int .u32))) != 0))
def lC  : (List Int)→T ((List Int)⊕((List Int)))
 | a1 =>
 T.bind (ig a1) fun r =>
 .ite (!r)
  (.zd (nh (0:Int) (zt ((a1.length:Int)-(1:Int))) a1.length) <|
 .ret (.inl (uu (e:=(.int .u32)) (0:Int) (zt ((a1.length:Int)-(1:Int))) a1)))
  (.ret (.inr a1))
def rG(s:(List Int)):T ((List Int)):=T.loop (lC ) s
def xJ(a:(List Int)):T (List Int) :=
 T.bind (rG  a) fun a2 =>
 .ret a2
def vi(s:(List Int)):T (List Int) :=
 .zd (s=[]→∀ r,T.leads (.zd (xC (0:Nat) (0:Nat) (0:Nat) (0:Nat) (0:Nat) s.length (4:Nat)) <|
 .zd (((0:Nat)+s.length)=((0:Nat)+s.length)) <|
 .ret (List.drop (0:Nat) (List.take ((0:Nat)+((0:Nat)+s.length)) s)):T _) r→T.leads (.ret ([]:List Int):T _) r) <|
 .zd (xC (0:Nat) (0:Nat) (0:Nat) (0:Nat) (0:Nat) s.length (4:Nat)) <|
 .zd (((0:Nat)+s.length)=((0:Nat)+s.length)) <|
 .ret (List.drop (0:Nat) (List.take ((0:Nat)+((0:Nat)+s.length)) s))
def bI(a:(List Int)):T (List Int) :=
 T.bind (xJ a) fun r =>
 T.bind (vi r) fun r1 =>
 .ret r1
def fS(a2:(List Int))(b2:(List Int)):Int→T (Int⊕(Unit⊕Int))
 | i =>
 .ite (decide ((0:Int)≤i))
  (.zd (zi i a2.length) <|
 .zd (zi i b2.length) <|
 .ite ((nth a2 i (zb (.int .u32))) != (nth b2 i (zb (.int .u32))))
  (.zd (zi i a2.length) <|
 .zd (zi i b2.length) <|
 .ite (decide ((nth a2 i (zb (.int .u32)))<(nth b2 i (zb (.int .u32)))))
  (.ret (.inr (.inr (-1:Int))))
  (.ret (.inr (.inr (1:Int)))))
  (.ret (.inl (zt (i-1)))))
  (.ret (.inr (.inl ())))
def Jc a2 b2 s:=T.loop (fS a2 b2) s
def iS(a:(List Int))(b:(List Int)):T Int :=
 T.bind (xJ a) fun a1 =>
 T.bind (xJ b) fun b1 =>
 .ite ((a1.length:Int) != (b1.length:Int))
  (.ite (decide ((a1.length:Int)<(b1.length:Int)))
  (.ret (-1:Int))
  (.ret (1:Int)))
  (T.bind (Jc a1 b1 (zt ((a1.length:Int)-(1:Int)))) <|
 Sum.elim (fun _ =>
 .ret (0:Int))
  (fun x =>
 .ret x))
def yW(hi:Int)(lo:Int)(y:Int):T (Int×Int) :=
 .ite ((y != 0)&&(decide (y≤hi)))
  (.fail)
  (.zd ((0:Int)≤(32:Int)) <|
 .zd ((zw y)≠(0:Int)) <|
 .zd ((zw y)≠(0:Int)) <|
 .ret ((qD (zw (Int.tdiv (gK .u64 (xT .u64 (zw hi) (32:Int)) (zw lo)) (zw y)))),(qD (Int.tmod (gK .u64 (xT .u64 (zw hi) (32:Int)) (zw lo)) (zw y)))))
def eZ(a1:(List Int))(b1:Int):(Int×Int×(List Int))→T ((Int×Int×(List Int))⊕((Int×(List Int))))
 | (rest,i,xs) =>
 .ite (decide ((0:Int)≤i))
  (.zd (zi i a1.length) <|
 T.bind (yW rest (nth a1 i (zb (.int .u32))) b1) fun(r,rest1) =>
 .zd (zi i xs.length) <|
 .zd (iM xs.length xs.length ((0:Nat)+(Int.toNat i)) xs.length) <|
 .zd (zh xs.length (0:Nat) xs.length (List.length (List.set xs ((0:Nat)+(Int.toNat i)) r))) <|
 .zd (xs.length=(List.length (List.set xs ((0:Nat)+(Int.toNat i)) r))) <|
 .ret (.inl (rest1,((zt (i-1)),(List.set xs ((0:Nat)+(Int.toNat i)) r)))))
  (.zd (zh xs.length (0:Nat) xs.length xs.length) <|
 .zd (xs.length=xs.length) <|
 .ret (.inr (rest,xs)))
def Qv a1 b1 s:=T.loop (eZ a1 b1) s
def fc(a:(List Int))(b:Int):T ((List Int)×Int) :=
 .zd (XG (a.length:Int) (a.length:Int) (4:Nat)) <|
 .zd (zh (Int.toNat (a.length:Int)) (0:Nat) (Int.toNat (a.length:Int)) (List.length (List.replicate (Int.toNat (a.length:Int)) (0:Int)))) <|
 .zd ((Int.toNat (a.length:Int))=(List.length (List.replicate (Int.toNat (a.length:Int)) (0:Int)))) <|
 T.bind (Qv a b ((0:Int),((zt ((a.length:Int)-(1:Int))),(List.replicate (Int.toNat (a.length:Int)) (0:Int))))) fun(rest2,zA) =>
 .zd (zA.length=zA.length) <|
 T.bind (xJ (List.drop (0:Nat) (List.take ((0:Nat)+zA.length) zA))) fun r1 =>
 .ret (r1,rest2)
def jP(n:Int):T (List Int) :=
 .zd ((0:Int)≤(32:Int)) <|
 T.bind (xJ ([(qD n),(qD (qX .u64 n (32:Int)))]:List Int)) fun r =>
 .ret r
def yU(x:Int):T Int :=
 .zd (((decide ((65536:Int)≤x))=true)→((0:Int)≤(16:Int))) <|
 .zd (((decide ((256:Int)≤(bif (decide ((65536:Int)≤x))then(qX .u32 x (16:Int))else x)))=true)→((0:Int)≤(8:Int))) <|
 .zd (zi (Lb (bif (decide ((256:Int)≤(bif (decide ((65536:Int)≤x))then(qX .u32 x (16:Int))else x)))then(qX .u32 (bif (decide ((65536:Int)≤x))then(qX .u32 x (16:Int))else x) (8:Int))else(bif (decide ((65536:Int)≤x))then(qX .u32 x (16:Int))else x))) ([0,1,2,2,3,3,3,3,4,4,4,4,4,4,4,4,5,5,5,5,5,5,5,5,5,5,5,5,5,5,5,5,6,6,6,6,6,6,6,6,6,6,6,6,6,6,6,6,6,6,6,6,6,6,6,6,6,6,6,6,6,6,6,6,7,7,7,7,7,7,7,7,7,7,7,7,7,7,7,7,7,7,7,7,7,7,7,7,7,7,7,7,7,7,7,7,7,7,7,7,7,7,7,7,7,7,7,7,7,7,7,7,7,7,7,7,7,7,7,7,7,7,7,7,7,7,7,7,8,8,8,8,8,8,8,8,8,8,8,8,8,8,8,8,8,8,8,8,8,8,8,8,8,8,8,8,8,8,8,8,8,8,8,8,8,8,8,8,8,8,8,8,8,8,8,8,8,8,8,8,8,8,8,8,8,8,8,8,8,8,8,8,8,8,8,8,8,8,8,8,8,8,8,8,8,8,8,8,8,8,8,8,8,8,8,8,8,8,8,8,8,8,8,8,8,8,8,8,8,8,8,8,8,8,8,8,8,8,8,8,8,8,8,8,8,8,8,8,8,8,8,8,8,8,8,8]:zf).length) <|
 .ret (zt ((bif (decide ((256:Int)≤(bif (decide ((65536:Int)≤x))then(qX .u32 x (16:Int))else x)))then(zt ((bif (decide ((65536:Int)≤x))then(16:Int)else(0:Int))+8))else(bif (decide ((65536:Int)≤x))then(16:Int)else(0:Int)))+(zt (wB ([0,1,2,2,3,3,3,3,4,4,4,4,4,4,4,4,5,5,5,5,5,5,5,5,5,5,5,5,5,5,5,5,6,6,6,6,6,6,6,6,6,6,6,6,6,6,6,6,6,6,6,6,6,6,6,6,6,6,6,6,6,6,6,6,7,7,7,7,7,7,7,7,7,7,7,7,7,7,7,7,7,7,7,7,7,7,7,7,7,7,7,7,7,7,7,7,7,7,7,7,7,7,7,7,7,7,7,7,7,7,7,7,7,7,7,7,7,7,7,7,7,7,7,7,7,7,7,7,8,8,8,8,8,8,8,8,8,8,8,8,8,8,8,8,8,8,8,8,8,8,8,8,8,8,8,8,8,8,8,8,8,8,8,8,8,8,8,8,8,8,8,8,8,8,8,8,8,8,8,8,8,8,8,8,8,8,8,8,8,8,8,8,8,8,8,8,8,8,8,8,8,8,8,8,8,8,8,8,8,8,8,8,8,8,8,8,8,8,8,8,8,8,8,8,8,8,8,8,8,8,8,8,8,8,8,8,8,8,8,8,8,8,8,8,8,8,8,8,8,8,8,8,8,8,8,8]:zf) (Lb (bif (decide ((256:Int)≤(bif (decide ((65536:Int)≤x))then(qX .u32 x (16:Int))else x)))then(qX .u32 (bif (decide ((65536:Int)≤x))then(qX .u32 x (16:Int))else x) (8:Int))else(bif (decide ((65536:Int)≤x))then(qX .u32 x (16:Int))else x)))))))
def wQ(x:Int):T Int :=
 T.bind (yU x) fun r =>
 .ret (zt ((32:Int)-r))
def Zj(wX:Int)(n1:Int)(x:(List Int))(x1:Int):(Int×(List Int))→T ((Int×(List Int))⊕((List Int)))
 | (x2,xs) =>
 .ite (decide (x2<x1))
  (.zd (zi x2 x.length) <|
 .zd ((0:Int)≤wX) <|
 .zd (zi x2 xs.length) <|
 .zd (iM xs.length xs.length ((0:Nat)+(Int.toNat x2)) xs.length) <|
 .zd (zi x2 xs.length) <|
 .zd (iM xs.length xs.length ((0:Nat)+(Int.toNat x2)) xs.length) <|
 .ite (decide ((zt (x2+1))<n1))
  (.zd ((0:Int)≤(32:Int)) <|
 .zd (zi (zt (x2+1)) xs.length) <|
 .zd (iM xs.length xs.length ((0:Nat)+(Int.toNat (zt (x2+1)))) (List.length (List.set xs ((0:Nat)+(Int.toNat x2)) (gK .u32 (xm xs ((0:Nat)+(Int.toNat x2)) (zb (.int .u32))) (qD (xT .u64 (zw (nth x x2 (zb (.int .u32)))) wX)))))) <|
 .zd (zh xs.length (0:Nat) xs.length (List.length (List.set (List.set xs ((0:Nat)+(Int.toNat x2)) (gK .u32 (xm xs ((0:Nat)+(Int.toNat x2)) (zb (.int .u32))) (qD (xT .u64 (zw (nth x x2 (zb (.int .u32)))) wX)))) ((0:Nat)+(Int.toNat (zt (x2+1)))) (qD (qX .u64 (xT .u64 (zw (nth x x2 (zb (.int .u32)))) wX) (32:Int)))))) <|
 .zd (xs.length=(List.length (List.set (List.set xs ((0:Nat)+(Int.toNat x2)) (gK .u32 (xm xs ((0:Nat)+(Int.toNat x2)) (zb (.int .u32))) (qD (xT .u64 (zw (nth x x2 (zb (.int .u32)))) wX)))) ((0:Nat)+(Int.toNat (zt (x2+1)))) (qD (qX .u64 (xT .u64 (zw (nth x x2 (zb (.int .u32)))) wX) (32:Int)))))) <|
 .ret (.inl ((zt (x2+1)),(List.set (List.set xs ((0:Nat)+(Int.toNat x2)) (gK .u32 (xm xs ((0:Nat)+(Int.toNat x2)) (zb (.int .u32))) (qD (xT .u64 (zw (nth x x2 (zb (.int .u32)))) wX)))) ((0:Nat)+(Int.toNat (zt (x2+1)))) (qD (qX .u64 (xT .u64 (zw (nth x x2 (zb (.int .u32)))) wX) (32:Int)))))))
  (.zd (zh xs.length (0:Nat) xs.length (List.length (List.set xs ((0:Nat)+(Int.toNat x2)) (gK .u32 (xm xs ((0:Nat)+(Int.toNat x2)) (zb (.int .u32))) (qD (xT .u64 (zw (nth x x2 (zb (.int .u32)))) wX)))))) <|
 .zd (xs.length=(List.length (List.set xs ((0:Nat)+(Int.toNat x2)) (gK .u32 (xm xs ((0:Nat)+(Int.toNat x2)) (zb (.int .u32))) (qD (xT .u64 (zw (nth x x2 (zb (.int .u32)))) wX)))))) <|
 .ret (.inl ((zt (x2+1)),(List.set xs ((0:Nat)+(Int.toNat x2)) (gK .u32 (xm xs ((0:Nat)+(Int.toNat x2)) (zb (.int .u32))) (qD (xT .u64 (zw (nth x x2 (zb (.int .u32)))) wX))))))))
  (.zd (zh xs.length (0:Nat) xs.length xs.length) <|
 .zd (xs.length=xs.length) <|
 .ret (.inr xs))
def Z9 wX n1 x x1 s:=T.loop (Zj wX n1 x x1) s
def fK(a:(List Int))(vd:Int)(n:Int):T (List Int) :=
 .zd (XG n n (4:Nat)) <|
 .zd (zh (Int.toNat n) (0:Nat) (Int.toNat n) (List.length (List.replicate (Int.toNat n) (0:Int)))) <|
 .zd ((Int.toNat n)=(List.length (List.replicate (Int.toNat n) (0:Int)))) <|
 T.bind (Z9 vd n a (a.length:Int) ((0:Int),(List.replicate (Int.toNat n) (0:Int)))) fun zA =>
 .zd (zh zA.length (0:Nat) zA.length zA.length) <|
 .zd (zA.length=zA.length) <|
 .ret zA
def bD(z7c:Int)(b11:Int)(b21:Int):(Int×Int)→T ((Int×Int)⊕(Int))
 | (q,r) =>
 .zd (((0:Int)≤(32:Int))∧((((qX .u64 q (32:Int)) != 0)=false)→((0:Int)≤(32:Int)))) <|
 .ite (((qX .u64 q (32:Int)) != 0)||(decide ((gK .u64 (xT .u64 r (32:Int)) (zw z7c))<(zw (q*(zw b21))))))
  (.zd ((0:Int)≤(32:Int)) <|
 .ite ((qX .u64 (zw (r+(zw b11))) (32:Int)) != 0)
  (.ret (.inr (zw (q-1))))
  (.ret (.inl ((zw (q-1)),(zw (r+(zw b11)))))))
  (.ret (.inr q))
def Xc z7c b11 b21 s:=T.loop (bD z7c b11 b21) s
def fm(high:Int)(mid:Int)(low:Int)(b1:Int)(b2:Int):T Int :=
 .zd ((0:Int)≤(32:Int)) <|
 .zd ((zw b1)≠(0:Int)) <|
 .zd ((zw b1)≠(0:Int)) <|
 T.bind (Xc low b1 b2 ((zw (Int.tdiv (gK .u64 (xT .u64 (zw high) (32:Int)) (zw mid)) (zw b1))),(Int.tmod (gK .u64 (xT .u64 (zw high) (32:Int)) (zw mid)) (zw b1)))) fun q1 =>
 .ret q1
def vV(x:Int)(y:Int)(borrow:Int):T (Int×Int) :=
 .zd ((0:Int)≤(31:Int)) <|
 .ret ((qD ((qD (x-y))-borrow)),(qX .u32 (gK .u32 (DK .u32 (EG .u32 (4294967295:Int) x) y) (DK .u32 (EG .u32 (4294967295:Int) (EG .u32 x y)) (qD ((qD (x-y))-borrow)))) (31:Int)))
def yX(x:Int)(y:Int)(carry:Int):T (Int×Int) :=
 .zd ((0:Int)≤(32:Int)) <|
 .ret ((qD (zw ((zw ((zw x)+(zw y)))+(zw carry)))),(qD (qX .u64 (zw ((zw ((zw x)+(zw y)))+(zw carry))) (32:Int))))
def bA(b1:(List Int))(q1:Int)(x:(List Int))(x1:Int):((Nat×Nat)×Int×Int×Int×(List Int))→T (((Nat×Nat)×Int×Int×Int×(List Int))⊕(((Nat×Nat)×Int×Int×(List Int))))
 | (u1,carry,borrow,x2,xs) =>
 .ite (decide (x2<x1))
  (.zd (zi x2 x.length) <|
 .zd (zi x2 u1.2) <|
 .zd (iM xs.length xs.length (u1.1+(Int.toNat x2)) xs.length) <|
 T.bind (vV (xm xs (u1.1+(Int.toNat x2)) (zb (.int .u32))) (qD (zw (carry+(zw (q1*(zw (nth x x2 (zb (.int .u32))))))))) borrow) fun(r,borrow1) =>
 .zd (zi x2 u1.2) <|
 .zd (iM xs.length xs.length (u1.1+(Int.toNat x2)) xs.length) <|
 .zd ((0:Int)≤(32:Int)) <|
 .zd (xs.length=xs.length) <|
 .zd (xs.length=(List.length (List.set xs (u1.1+(Int.toNat x2)) r))) <|
 .ret (.inl (u1,((qX .u64 (zw (carry+(zw (q1*(zw (nth x x2 (zb (.int .u32)))))))) (32:Int)),(borrow1,((zt (x2+1)),(List.set xs (u1.1+(Int.toNat x2)) r)))))))
  (.zd (xs.length=xs.length) <|
 .zd (xs.length=xs.length) <|
 .ret (.inr (u1,(carry,(borrow,xs)))))
def sk b1 q1 x x1 s:=T.loop (bA b1 q1 x x1) s
def bP(b2:(List Int))(x3:(List Int))(x4:Int):((Nat×Nat)×Int×Int×(List Int))→T (((Nat×Nat)×Int×Int×(List Int))⊕(((Nat×Nat)×Int×(List Int))))
 | (u3,more,x5,zR) =>
 .ite (decide (x5<x4))
  (.zd (zi x5 x3.length) <|
 .zd (zi x5 u3.2) <|
 .zd (iM zR.length zR.length (u3.1+(Int.toNat x5)) zR.length) <|
 T.bind (yX (xm zR (u3.1+(Int.toNat x5)) (zb (.int .u32))) (nth x3 x5 (zb (.int .u32))) more) fun(r2,more1) =>
 .zd (zi x5 u3.2) <|
 .zd (iM zR.length zR.length (u3.1+(Int.toNat x5)) zR.length) <|
 .zd (zR.length=zR.length) <|
 .zd (zR.length=(List.length (List.set zR (u3.1+(Int.toNat x5)) r2))) <|
 .ret (.inl (u3,(more1,((zt (x5+1)),(List.set zR (u3.1+(Int.toNat x5)) r2))))))
  (.zd (zR.length=zR.length) <|
 .zd (zR.length=zR.length) <|
 .ret (.inr (u3,(more,zR))))
def rP b2 x3 x4 s:=T.loop (bP b2 x3 x4) s
def lA(uw:(Nat×Nat))(b:(List Int))(q:Int)(u:(List Int)):T (Bool×(List Int)) :=
 .zd (u.length=u.length) <|
 .zd (u.length=u.length) <|
 T.bind (sk b q b (b.length:Int) (uw,((0:Int),((0:Int),((0:Int),u))))) fun(u2,carry1,borrow2,zA) =>
 .zd (zi (b.length:Int) u2.2) <|
 .zd (iM zA.length zA.length (u2.1+(Int.toNat (b.length:Int))) zA.length) <|
 T.bind (vV (xm zA (u2.1+(Int.toNat (b.length:Int))) (zb (.int .u32))) (qD carry1) borrow2) fun(r1,borrow3) =>
 .zd (zi (b.length:Int) u2.2) <|
 .zd (iM zA.length zA.length (u2.1+(Int.toNat (b.length:Int))) zA.length) <|
 .ite (borrow3==0)
  (.zd (zA.length=(List.length (List.set zA (u2.1+(Int.toNat (b.length:Int))) r1))) <|
 .ret (false,(List.set zA (u2.1+(Int.toNat (b.length:Int))) r1)))
  (.zd (zA.length=zA.length) <|
 .zd (zA.length=(List.length (List.set zA (u2.1+(Int.toNat (b.length:Int))) r1))) <|
 T.bind (rP b b (b.length:Int) (u2,((0:Int),((0:Int),(List.set zA (u2.1+(Int.toNat (b.length:Int))) r1))))) fun(u4,more2,qH) =>
 .zd (zi (b.length:Int) u4.2) <|
 .zd (iM qH.length qH.length (u4.1+(Int.toNat (b.length:Int))) qH.length) <|
 .zd (zi (b.length:Int) u4.2) <|
 .zd (iM qH.length qH.length (u4.1+(Int.toNat (b.length:Int))) qH.length) <|
 .zd (qH.length=(List.length (List.set qH (u4.1+(Int.toNat (b.length:Int))) (qD ((xm qH (u4.1+(Int.toNat (b.length:Int))) (zb (.int .u32)))+more2))))) <|
 .ret (true,(List.set qH (u4.1+(Int.toNat (b.length:Int))) (qD ((xm qH (u4.1+(Int.toNat (b.length:Int))) (zb (.int .u32)))+more2)))))
def cY(wX:Int)(n1:Int)(x:(List Int))(x1:Int):(Int×(List Int))→T ((Int×(List Int))⊕((List Int)))
 | (x2,xs) =>
 .ite (decide (x2<x1))
  (.zd (zi x2 x.length) <|
 .zd ((0:Int)≤wX) <|
 .zd (zi x2 xs.length) <|
 .zd (iM xs.length xs.length ((0:Nat)+(Int.toNat x2)) xs.length) <|
 .zd (zi x2 xs.length) <|
 .zd (iM xs.length xs.length ((0:Nat)+(Int.toNat x2)) xs.length) <|
 .ite (decide ((zt (x2+1))<n1))
  (.zd ((0:Int)≤(32:Int)) <|
 .zd (zi (zt (x2+1)) xs.length) <|
 .zd (iM xs.length xs.length ((0:Nat)+(Int.toNat (zt (x2+1)))) (List.length (List.set xs ((0:Nat)+(Int.toNat x2)) (gK .u32 (xm xs ((0:Nat)+(Int.toNat x2)) (zb (.int .u32))) (qD (xT .u64 (zw (nth x x2 (zb (.int .u32)))) wX)))))) <|
 .zd (zh xs.length (0:Nat) xs.length (List.length (List.set (List.set xs ((0:Nat)+(Int.toNat x2)) (gK .u32 (xm xs ((0:Nat)+(Int.toNat x2)) (zb (.int .u32))) (qD (xT .u64 (zw (nth x x2 (zb (.int .u32)))) wX)))) ((0:Nat)+(Int.toNat (zt (x2+1)))) (qD (qX .u64 (xT .u64 (zw (nth x x2 (zb (.int .u32)))) wX) (32:Int)))))) <|
 .zd (xs.length=(List.length (List.set (List.set xs ((0:Nat)+(Int.toNat x2)) (gK .u32 (xm xs ((0:Nat)+(Int.toNat x2)) (zb (.int .u32))) (qD (xT .u64 (zw (nth x x2 (zb (.int .u32)))) wX)))) ((0:Nat)+(Int.toNat (zt (x2+1)))) (qD (qX .u64 (xT .u64 (zw (nth x x2 (zb (.int .u32)))) wX) (32:Int)))))) <|
 .ret (.inl ((zt (x2+1)),(List.set (List.set xs ((0:Nat)+(Int.toNat x2)) (gK .u32 (xm xs ((0:Nat)+(Int.toNat x2)) (zb (.int .u32))) (qD (xT .u64 (zw (nth x x2 (zb (.int .u32)))) wX)))) ((0:Nat)+(Int.toNat (zt (x2+1)))) (qD (qX .u64 (xT .u64 (zw (nth x x2 (zb (.int .u32)))) wX) (32:Int)))))))
  (.zd (zh xs.length (0:Nat) xs.length (List.length (List.set xs ((0:Nat)+(Int.toNat x2)) (gK .u32 (xm xs ((0:Nat)+(Int.toNat x2)) (zb (.int .u32))) (qD (xT .u64 (zw (nth x x2 (zb (.int .u32)))) wX)))))) <|
 .zd (xs.length=(List.length (List.set xs ((0:Nat)+(Int.toNat x2)) (gK .u32 (xm xs ((0:Nat)+(Int.toNat x2)) (zb (.int .u32))) (qD (xT .u64 (zw (nth x x2 (zb (.int .u32)))) wX)))))) <|
 .ret (.inl ((zt (x2+1)),(List.set xs ((0:Nat)+(Int.toNat x2)) (gK .u32 (xm xs ((0:Nat)+(Int.toNat x2)) (zb (.int .u32))) (qD (xT .u64 (zw (nth x x2 (zb (.int .u32)))) wX))))))))
  (.zd (zh xs.length (0:Nat) xs.length xs.length) <|
 .zd (xs.length=xs.length) <|
 .ret (.inr xs))
def VC wX n1 x x1 s:=T.loop (cY wX n1 x x1) s
def Xu(a:(List Int))(vd:Int)(n:Int):T (List Int) :=
 .zd (XG n n (4:Nat)) <|
 .zd (zh (Int.toNat n) (0:Nat) (Int.toNat n) (List.length (List.replicate (Int.toNat n) (0:Int)))) <|
 .zd ((Int.toNat n)=(List.length (List.replicate (Int.toNat n) (0:Int)))) <|
 T.bind (VC vd n a (a.length:Int) ((0:Int),(List.replicate (Int.toNat n) (0:Int)))) fun zA =>
 .zd (zA.length=zA.length) <|
 .ret (List.drop (0:Nat) (List.take ((0:Nat)+zA.length) zA))
def b9(vd:Int)(x:(List Int))(x1:Int):(Int×(List Int))→T ((Int×(List Int))⊕((List Int)))
 | (x2,xs) =>
 .ite (decide (x2<x1))
  (.zd (zi x2 x.length) <|
 .zd ((0:Int)≤(32:Int)) <|
 .zd ((0:Int)≤vd) <|
 .zd (zi x2 xs.length) <|
 .zd (iM xs.length xs.length ((0:Nat)+(Int.toNat x2)) xs.length) <|
 .zd ((0:Int)≤(32:Int)) <|
 .zd (zi x2 xs.length) <|
 .zd (iM xs.length xs.length ((0:Nat)+(Int.toNat x2)) xs.length) <|
 .ite (decide ((0:Int)<x2))
  (.zd (zi (zt (x2-1)) xs.length) <|
 .zd (iM xs.length xs.length ((0:Nat)+(Int.toNat (zt (x2-1)))) (List.length (List.set xs ((0:Nat)+(Int.toNat x2)) (gK .u32 (xm xs ((0:Nat)+(Int.toNat x2)) (zb (.int .u32))) (qD (qX .u64 (qX .u64 (xT .u64 (zw (nth x x2 (zb (.int .u32)))) (32:Int)) vd) (32:Int))))))) <|
 .zd (zi (zt (x2-1)) xs.length) <|
 .zd (iM xs.length xs.length ((0:Nat)+(Int.toNat (zt (x2-1)))) (List.length (List.set xs ((0:Nat)+(Int.toNat x2)) (gK .u32 (xm xs ((0:Nat)+(Int.toNat x2)) (zb (.int .u32))) (qD (qX .u64 (qX .u64 (xT .u64 (zw (nth x x2 (zb (.int .u32)))) (32:Int)) vd) (32:Int))))))) <|
 .zd (zh xs.length (0:Nat) xs.length (List.length (List.set (List.set xs ((0:Nat)+(Int.toNat x2)) (gK .u32 (xm xs ((0:Nat)+(Int.toNat x2)) (zb (.int .u32))) (qD (qX .u64 (qX .u64 (xT .u64 (zw (nth x x2 (zb (.int .u32)))) (32:Int)) vd) (32:Int))))) ((0:Nat)+(Int.toNat (zt (x2-1)))) (gK .u32 (xm (List.set xs ((0:Nat)+(Int.toNat x2)) (gK .u32 (xm xs ((0:Nat)+(Int.toNat x2)) (zb (.int .u32))) (qD (qX .u64 (qX .u64 (xT .u64 (zw (nth x x2 (zb (.int .u32)))) (32:Int)) vd) (32:Int))))) ((0:Nat)+(Int.toNat (zt (x2-1)))) (zb (.int .u32))) (qD (qX .u64 (xT .u64 (zw (nth x x2 (zb (.int .u32)))) (32:Int)) vd)))))) <|
 .zd (xs.length=(List.length (List.set (List.set xs ((0:Nat)+(Int.toNat x2)) (gK .u32 (xm xs ((0:Nat)+(Int.toNat x2)) (zb (.int .u32))) (qD (qX .u64 (qX .u64 (xT .u64 (zw (nth x x2 (zb (.int .u32)))) (32:Int)) vd) (32:Int))))) ((0:Nat)+(Int.toNat (zt (x2-1)))) (gK .u32 (xm (List.set xs ((0:Nat)+(Int.toNat x2)) (gK .u32 (xm xs ((0:Nat)+(Int.toNat x2)) (zb (.int .u32))) (qD (qX .u64 (qX .u64 (xT .u64 (zw (nth x x2 (zb (.int .u32)))) (32:Int)) vd) (32:Int))))) ((0:Nat)+(Int.toNat (zt (x2-1)))) (zb (.int .u32))) (qD (qX .u64 (xT .u64 (zw (nth x x2 (zb (.int .u32)))) (32:Int)) vd)))))) <|
 .ret (.inl ((zt (x2+1)),(List.set (List.set xs ((0:Nat)+(Int.toNat x2)) (gK .u32 (xm xs ((0:Nat)+(Int.toNat x2)) (zb (.int .u32))) (qD (qX .u64 (qX .u64 (xT .u64 (zw (nth x x2 (zb (.int .u32)))) (32:Int)) vd) (32:Int))))) ((0:Nat)+(Int.toNat (zt (x2-1)))) (gK .u32 (xm (List.set xs ((0:Nat)+(Int.toNat x2)) (gK .u32 (xm xs ((0:Nat)+(Int.toNat x2)) (zb (.int .u32))) (qD (qX .u64 (qX .u64 (xT .u64 (zw (nth x x2 (zb (.int .u32)))) (32:Int)) vd) (32:Int))))) ((0:Nat)+(Int.toNat (zt (x2-1)))) (zb (.int .u32))) (qD (qX .u64 (xT .u64 (zw (nth x x2 (zb (.int .u32)))) (32:Int)) vd)))))))
  (.zd (zh xs.length (0:Nat) xs.length (List.length (List.set xs ((0:Nat)+(Int.toNat x2)) (gK .u32 (xm xs ((0:Nat)+(Int.toNat x2)) (zb (.int .u32))) (qD (qX .u64 (qX .u64 (xT .u64 (zw (nth x x2 (zb (.int .u32)))) (32:Int)) vd) (32:Int))))))) <|
 .zd (xs.length=(List.length (List.set xs ((0:Nat)+(Int.toNat x2)) (gK .u32 (xm xs ((0:Nat)+(Int.toNat x2)) (zb (.int .u32))) (qD (qX .u64 (qX .u64 (xT .u64 (zw (nth x x2 (zb (.int .u32)))) (32:Int)) vd) (32:Int))))))) <|
 .ret (.inl ((zt (x2+1)),(List.set xs ((0:Nat)+(Int.toNat x2)) (gK .u32 (xm xs ((0:Nat)+(Int.toNat x2)) (zb (.int .u32))) (qD (qX .u64 (qX .u64 (xT .u64 (zw (nth x x2 (zb (.int .u32)))) (32:Int)) vd) (32:Int)))))))))
  (.zd (zh xs.length (0:Nat) xs.length xs.length) <|
 .zd (xs.length=xs.length) <|
 .ret (.inr xs))
def QJ vd x x1 s:=T.loop (b9 vd x x1) s
def c9(a:(List Int))(n:Int):T (List Int) :=
 T.bind (xJ a) fun a1 =>
 .ite (decide ((wN (w6 n (-4096:Int)) (4096:Int))<(0:Int)))
  (.zd ((32:Int)≠(0:Int)) <|
 .ite (decide ((a1.length:Int)≤(zt (Int.tdiv (zt ((0:Int)-(wN (w6 n (-4096:Int)) (4096:Int)))) (32:Int)))))
  (.ret ([]:List Int))
  (.zd ((32:Int)≠(0:Int)) <|
 .zd (XG (zt ((a1.length:Int)-(zt (Int.tdiv (zt ((0:Int)-(wN (w6 n (-4096:Int)) (4096:Int)))) (32:Int))))) (zt ((a1.length:Int)-(zt (Int.tdiv (zt ((0:Int)-(wN (w6 n (-4096:Int)) (4096:Int)))) (32:Int))))) (4:Nat)) <|
 .zd (nh (zt (Int.tdiv (zt ((0:Int)-(wN (w6 n (-4096:Int)) (4096:Int)))) (32:Int))) (a1.length:Int) a1.length) <|
 .zd (zh (Int.toNat (zt ((a1.length:Int)-(zt (Int.tdiv (zt ((0:Int)-(wN (w6 n (-4096:Int)) (4096:Int)))) (32:Int)))))) (0:Nat) (Int.toNat (zt ((a1.length:Int)-(zt (Int.tdiv (zt ((0:Int)-(wN (w6 n (-4096:Int)) (4096:Int)))) (32:Int)))))) (List.length (List.replicate (Int.toNat (zt ((a1.length:Int)-(zt (Int.tdiv (zt ((0:Int)-(wN (w6 n (-4096:Int)) (4096:Int)))) (32:Int)))))) (0:Int)))) <|
 .zd ((Int.toNat (zt ((a1.length:Int)-(zt (Int.tdiv (zt ((0:Int)-(wN (w6 n (-4096:Int)) (4096:Int)))) (32:Int))))))=(List.length (List.replicate (Int.toNat (zt ((a1.length:Int)-(zt (Int.tdiv (zt ((0:Int)-(wN (w6 n (-4096:Int)) (4096:Int)))) (32:Int)))))) (0:Int)))) <|
 T.bind (QJ (zw (Int.tmod (zt ((0:Int)-(wN (w6 n (-4096:Int)) (4096:Int)))) (32:Int))) (uu (e:=(.int .u32)) (zt (Int.tdiv (zt ((0:Int)-(wN (w6 n (-4096:Int)) (4096:Int)))) (32:Int))) (a1.length:Int) a1) (Nat.cast (List.length (uu (e:=(.int .u32)) (zt (Int.tdiv (zt ((0:Int)-(wN (w6 n (-4096:Int)) (4096:Int)))) (32:Int))) (a1.length:Int) a1)):Int) ((0:Int),(List.replicate (Int.toNat (zt ((a1.length:Int)-(zt (Int.tdiv (zt ((0:Int)-(wN (w6 n (-4096:Int)) (4096:Int)))) (32:Int)))))) (0:Int)))) fun zA =>
 .zd (zA.length=zA.length) <|
 T.bind (xJ (List.drop (0:Nat) (List.take ((0:Nat)+zA.length) zA))) fun r =>
 .ret r))
  (.zd ((32:Int)≠(0:Int)) <|
 .zd (XG (zt ((zt ((zt (Int.tdiv (wN (w6 n (-4096:Int)) (4096:Int)) (32:Int)))+(a1.length:Int)))+1)) (zt ((zt ((zt (Int.tdiv (wN (w6 n (-4096:Int)) (4096:Int)) (32:Int)))+(a1.length:Int)))+1)) (4:Nat)) <|
 .zd (nh (zt (Int.tdiv (wN (w6 n (-4096:Int)) (4096:Int)) (32:Int))) (Nat.cast (Int.toNat (zt ((zt ((zt (Int.tdiv (wN (w6 n (-4096:Int)) (4096:Int)) (32:Int)))+(a1.length:Int)))+1))):Int) (Int.toNat (zt ((zt ((zt (Int.tdiv (wN (w6 n (-4096:Int)) (4096:Int)) (32:Int)))+(a1.length:Int)))+1)))) <|
 .zd ((32:Int)≠(0:Int)) <|
 T.bind (Xu a1 (zw (Int.tmod (wN (w6 n (-4096:Int)) (4096:Int)) (32:Int))) (zt ((a1.length:Int)+(1:Int)))) fun r1 =>
 .zd (z47 (Int.toNat (zt ((zt ((zt (Int.tdiv (wN (w6 n (-4096:Int)) (4096:Int)) (32:Int)))+(a1.length:Int)))+1))) (Int.toNat (zt ((zt ((zt (Int.tdiv (wN (w6 n (-4096:Int)) (4096:Int)) (32:Int)))+(a1.length:Int)))+1))) ((0:Nat)+(Int.toNat (zt (Int.tdiv (wN (w6 n (-4096:Int)) (4096:Int)) (32:Int))))) ((Int.toNat (Nat.cast (Int.toNat (zt ((zt ((zt (Int.tdiv (wN (w6 n (-4096:Int)) (4096:Int)) (32:Int)))+(a1.length:Int)))+1))):Int))-(Int.toNat (zt (Int.tdiv (wN (w6 n (-4096:Int)) (4096:Int)) (32:Int))))) (List.length (List.replicate (Int.toNat (zt ((zt ((zt (Int.tdiv (wN (w6 n (-4096:Int)) (4096:Int)) (32:Int)))+(a1.length:Int)))+1))) (0:Int)))) <|
 .zd ((Int.toNat (zt ((zt ((zt (Int.tdiv (wN (w6 n (-4096:Int)) (4096:Int)) (32:Int)))+(a1.length:Int)))+1)))=(Int.toNat (zt ((zt ((zt (Int.tdiv (wN (w6 n (-4096:Int)) (4096:Int)) (32:Int)))+(a1.length:Int)))+1)))) <|
 T.bind (xJ (List.drop (0:Nat) (List.take ((0:Nat)+(Int.toNat (zt ((zt ((zt (Int.tdiv (wN (w6 n (-4096:Int)) (4096:Int)) (32:Int)))+(a1.length:Int)))+1)))) (yc ((0:Nat)+(Int.toNat (zt (Int.tdiv (wN (w6 n (-4096:Int)) (4096:Int)) (32:Int))))) ((Int.toNat (Nat.cast (Int.toNat (zt ((zt ((zt (Int.tdiv (wN (w6 n (-4096:Int)) (4096:Int)) (32:Int)))+(a1.length:Int)))+1))):Int))-(Int.toNat (zt (Int.tdiv (wN (w6 n (-4096:Int)) (4096:Int)) (32:Int))))) (List.replicate (Int.toNat (zt ((zt ((zt (Int.tdiv (wN (w6 n (-4096:Int)) (4096:Int)) (32:Int)))+(a1.length:Int)))+1))) (0:Int)) r1)))) fun r2 =>
 .ret r2)
def dH(vd:Int)(d:(List Int))(n:Int):(Int×(List Int)×(List Int))→T ((Int×(List Int)×(List Int))⊕(((List Int)×(List Int))))
 | (i,zR,qH) =>
 .ite (decide ((0:Int)≤i))
  (.zd (zi (zt (i+n)) zR.length) <|
 .zd (iM zR.length zR.length ((0:Nat)+(Int.toNat (zt (i+n)))) zR.length) <|
 .zd (zi (zt ((zt (i+n))-1)) zR.length) <|
 .zd (iM zR.length zR.length ((0:Nat)+(Int.toNat (zt ((zt (i+n))-1)))) zR.length) <|
 .zd (zi (zt ((zt (i+n))-2)) zR.length) <|
 .zd (iM zR.length zR.length ((0:Nat)+(Int.toNat (zt ((zt (i+n))-2)))) zR.length) <|
 .zd (zi (zt (n-1)) d.length) <|
 .zd (zi (zt (n-2)) d.length) <|
 T.bind (fm (xm zR ((0:Nat)+(Int.toNat (zt (i+n)))) (zb (.int .u32))) (xm zR ((0:Nat)+(Int.toNat (zt ((zt (i+n))-1)))) (zb (.int .u32))) (xm zR ((0:Nat)+(Int.toNat (zt ((zt (i+n))-2)))) (zb (.int .u32))) (nth d (zt (n-1)) (zb (.int .u32))) (nth d (zt (n-2)) (zb (.int .u32)))) fun x =>
 T.bind (.zd (nh i (zt ((zt (i+n))+1)) zR.length) <|
 .zd (zR.length=zR.length) <|
 .zd (zR.length=zR.length) <|
 T.bind (lA (((0:Nat)+(Int.toNat i)),((Int.toNat (zt ((zt (i+n))+1)))-(Int.toNat i))) d x zR) fun(r1,u) =>
 .ite r1
  (.zd (zh qH.length (0:Nat) qH.length qH.length) <|
 .zd (zh zR.length (0:Nat) zR.length u.length) <|
 .zd (u.length=u.length) <|
 .zd (qH.length=qH.length) <|
 .ret ((zw (x-1)),(u,qH)))
  (.zd (zh qH.length (0:Nat) qH.length qH.length) <|
 .zd (zh zR.length (0:Nat) zR.length u.length) <|
 .zd (u.length=u.length) <|
 .zd (qH.length=qH.length) <|
 .ret (x,(u,qH))):T ((Int×(List Int)×(List Int)))) fun(x1,vb,je) =>
 .zd (zi i je.length) <|
 .zd (iM je.length je.length ((0:Nat)+(Int.toNat i)) je.length) <|
 .zd (zh je.length (0:Nat) je.length (List.length (List.set je ((0:Nat)+(Int.toNat i)) (qD x1)))) <|
 .zd (zh vb.length (0:Nat) vb.length vb.length) <|
 .zd (vb.length=vb.length) <|
 .zd (je.length=(List.length (List.set je ((0:Nat)+(Int.toNat i)) (qD x1)))) <|
 .ret (.inl ((zt (i-1)),(vb,(List.set je ((0:Nat)+(Int.toNat i)) (qD x1))))))
  (.zd (zh qH.length (0:Nat) qH.length qH.length) <|
 .zd (zh zR.length (0:Nat) zR.length zR.length) <|
 .zd (zR.length=zR.length) <|
 .zd (qH.length=qH.length) <|
 .ret (.inr (zR,qH)))
def Vu vd d n s:=T.loop (dH vd d n) s
def Qo(a:(List Int))(b:(List Int)):T ((List Int)×(List Int)) :=
 .zd (zi (zt ((b.length:Int)-(1:Int))) b.length) <|
 T.bind (wQ (nth b (zt ((b.length:Int)-(1:Int))) (zb (.int .u32)))) fun r =>
 T.bind (fK a (zw r) (zt ((a.length:Int)+(1:Int)))) fun xs =>
 T.bind (fK b (zw r) (b.length:Int)) fun zA =>
 .zd (XG (zt ((zt ((a.length:Int)-(zA.length:Int)))+1)) (zt ((zt ((a.length:Int)-(zA.length:Int)))+1)) (4:Nat)) <|
 .zd (zA.length=zA.length) <|
 .zd (zh (Int.toNat (zt ((zt ((a.length:Int)-(zA.length:Int)))+1))) (0:Nat) (Int.toNat (zt ((zt ((a.length:Int)-(zA.length:Int)))+1))) (List.length (List.replicate (Int.toNat (zt ((zt ((a.length:Int)-(zA.length:Int)))+1))) (0:Int)))) <|
 .zd (zh xs.length (0:Nat) xs.length xs.length) <|
 .zd (xs.length=xs.length) <|
 .zd ((Int.toNat (zt ((zt ((a.length:Int)-(zA.length:Int)))+1)))=(List.length (List.replicate (Int.toNat (zt ((zt ((a.length:Int)-(zA.length:Int)))+1))) (0:Int)))) <|
 T.bind (Vu (zw r) (List.drop (0:Nat) (List.take ((0:Nat)+zA.length) zA)) (zA.length:Int) ((zt ((Nat.cast (Int.toNat (zt ((zt ((a.length:Int)-(zA.length:Int)))+1))):Int)-(1:Int))),(xs,(List.replicate (Int.toNat (zt ((zt ((a.length:Int)-(zA.length:Int)))+1))) (0:Int))))) fun(xs6,vI) =>
 .zd (vI.length=vI.length) <|
 .zd (xs6.length=xs6.length) <|
 T.bind (xJ (List.drop (0:Nat) (List.take ((0:Nat)+vI.length) vI))) fun q1 =>
 .zd (nh (0:Int) (zA.length:Int) (List.length (List.drop (0:Nat) (List.take ((0:Nat)+xs6.length) xs6)))) <|
 T.bind (c9 (uu (e:=(.int .u32)) (0:Int) (zA.length:Int) (List.drop (0:Nat) (List.take ((0:Nat)+xs6.length) xs6))) (zt ((0:Int)-(zt (zw r))))) fun r2 =>
 .ret (q1,r2)
def gm(a:(List Int))(b:(List Int)):T ((List Int)×(List Int)×Bool) :=
 T.bind (xJ a) fun a1 =>
 T.bind (xJ b) fun b1 =>
 .ite ((b1.length:Int)==(0:Int))
  (.ret (([]:List Int),(([]:List Int),false)))
  (T.bind (iS a1 b1) fun r =>
 .ite (decide (r<(0:Int)))
  (T.bind (bI a1) fun r1 =>
 .ret (([]:List Int),(r1,true)))
  (.ite ((b1.length:Int)==(1:Int))
  (.zd (zi (0:Int) b1.length) <|
 T.bind (fc a1 (nth b1 (0:Int) (zb (.int .u32)))) fun(q,rest) =>
 T.bind (jP (zw rest)) fun r2 =>
 .ret (q,(r2,true)))
  (T.bind (Qo a1 b1) fun(q1,r3) =>
 .ret (q1,(r3,true)))))
def fA  : ((List Int)×(List Int))→T (((List Int)×(List Int))⊕((List Int)))
 | (a2,b2) =>
 .ite (decide ((0:Int)<(b2.length:Int)))
  (T.bind (gm a2 b2) fun(r,r1,r2) =>
 .ret (.inl (b2,r1)))
  (.ret (.inr a2))
def Ku(s:((List Int)×(List Int))):T ((List Int)):=T.loop (fA ) s
def Xj(a:(List Int))(b:(List Int)):T (List Int) :=
 T.bind (bI a) fun a1 =>
 T.bind (bI b) fun b1 =>
 T.bind (Ku  (a1,b1)) fun a3 =>
 .ret a3
def rf(a:Rat):T Bool :=
 T.bind (T.bind (ig a.2.1) fun r =>
 .ite (!r)
  (.ret true)
  (T.bind (ig a.2.2.1) fun r1 =>
 .ite (!r1)
  (.ret true)
  (.ite ((a.2.2.1.length:Int)==(0:Int))
  (.ret true)
  (.ite a.1
  (.ret ((a.2.1.length:Int)==(0:Int)))
  (.ret false)))):T (Bool)) fun x =>
 .ite x
  (.ret false)
  (T.bind (Xj a.2.1 a.2.2.1) fun r2 =>
 T.bind (jP (1:Int)) fun r3 =>
 T.bind (iS r2 r3) fun r4 =>
 .ret (r4==0))
def np(neg:Bool)(n:(List Int))(d:(List Int)):T Rat :=
 T.bind (bI n) fun n1 =>
 T.bind (bI d) fun d1 =>
 .ite (((n1.length:Int)==(0:Int))||((d1.length:Int)==(0:Int)))
  (T.bind (jP (1:Int)) fun r =>
 .ret (false,(([]:List Int),(r,()))))
  (T.bind (Xj n1 d1) fun g =>
 T.bind (gm n1 g) fun(n2,r1,r2) =>
 T.bind (gm d1 g) fun(d2,r3,r4) =>
 .ret (neg,(n2,(d2,()))))
def xQ(a:Rat):T Rat :=
 T.bind (np a.1 a.2.1 a.2.2.1) fun r =>
 .ret r
def uS(a:Rat):T Bool :=
 T.bind (xQ a) fun r =>
 .ret ((decide ((16:Int)<(r.2.1.length:Int)))||(decide ((16:Int)<(r.2.2.1.length:Int))))
def vC(p:Param):T Bool :=
 T.bind (uI p.1) fun r =>
 .ite (!r)
  (.ret true)
  (T.bind (rf p.2.1) fun r1 =>
 .ite (!r1)
  (.ret true)
  (T.bind (uS p.2.1) fun r2 =>
 .ret r2))
def qS(s1:(List Param))(f:Param→T Bool)(x:Int):Int→T (Int⊕(Unit⊕Int))
 | x1 =>
 .ite (decide (x1<x))
  (.zd (zi x1 s1.length) <|
 T.bind (f (nth s1 x1 (zb zX))) fun r =>
 .ite r
  (.ret (.inr (.inr x1)))
  (.ret (.inl (zt (x1+1)))))
  (.ret (.inr (.inl ())))
def jc s1 f x s:=T.loop (qS s1 f x) s
def xP(s:(List Param))(f:Param→T Bool):T Int :=
 T.bind (jc s f (s.length:Int) (0:Int)) <|
 Sum.elim (fun _ =>
 .ret (-1:Int))
  (fun x2 =>
 .ret x2)
def qE(s:(List Param))(f:Param→T Bool):T Bool :=
 T.bind (xP s f) fun r =>
 .ret (decide ((0:Int)≤r))
def kX(s:zf):T Bool :=
 .ite (zH s ([]:zf))
  (.ret true)
  (T.bind (uI s) fun r =>
 .ret r)
def vu(p:ri):T Bool :=
 T.bind (uI p.1) fun r =>
 .ite (!r)
  (.ret true)
  (T.bind (kX p.2.1) fun r1 =>
 .ret (!r1))
def xG(s1:(List ri))(f:ri→T Bool)(x:Int):Int→T (Int⊕(Unit⊕Int))
 | x1 =>
 .ite (decide (x1<x))
  (.zd (zi x1 s1.length) <|
 T.bind (f (nth s1 x1 (zb qu))) fun r =>
 .ite r
  (.ret (.inr (.inr x1)))
  (.ret (.inl (zt (x1+1)))))
  (.ret (.inr (.inl ())))
def jJ s1 f x s:=T.loop (xG s1 f x) s
def wR(s:(List ri))(f:ri→T Bool):T Int :=
 T.bind (jJ s f (s.length:Int) (0:Int)) <|
 Sum.elim (fun _ =>
 .ret (-1:Int))
  (fun x2 =>
 .ret x2)
def xB(s:(List ri))(f:ri→T Bool):T Bool :=
 T.bind (wR s f) fun r =>
 .ret (decide ((0:Int)≤r))
def lL(f:Form):T Bool :=
 T.bind (qA f.1 (fun z0=>vE z0)) fun r =>
 .ite (!r)
  (T.bind (qE f.2.1 (fun z0=>vC z0)) fun r1 =>
 .ite (!r1)
  (T.bind (xB f.2.2.1 (fun z0=>vu z0)) fun r2 =>
 .ret (!r2))
  (.ret false))
  (.ret false)
def bw(zbx:Int)(ahead:Int)(zbY:Int):T Bool :=
 .ret ((decide ((w6 ahead (0:Int))≤zbx))&&(decide (zbx<zbY)))
def jg(f1:Form)(x:(List Field))(x1:Int):(Int×Int)→T ((Int×Int)⊕(Unit⊕Bool))
 | (ahead,x2) =>
 .ite (decide (x2<x1))
  (.zd (zi x2 x.length) <|
 T.bind (T.bind (uI (nth x x2 (zb q7)).1) fun r =>
 .ite (!r)
  (.ret (true,(nth x x2 (zb q7))))
  (T.bind (bw (nth x x2 (zb q7)).2.1 ahead (f1.2.2.1.length:Int)) fun r1 =>
 .ite (!r1)
  (.ret (true,(nth x x2 (zb q7))))
  (.ite (decide ((nth x x2 (zb q7)).2.2.2.1<(0:Int)))
  (.ret (true,(nth x x2 (zb q7))))
  (.ret ((decide ((9:Int)<(nth x x2 (zb q7)).2.2.2.1)),(nth x x2 (zb q7)))))):T ((Bool×Field))) fun(x3,v) =>
 .ite x3
  (.ret (.inr (.inr false)))
  (.ret (.inl (v.2.1,(zt (x2+1))))))
  (.ret (.inr (.inl ())))
def oY f1 x x1 s:=T.loop (jg f1 x x1) s
def eX(f:Form):T Bool :=
 T.bind (oY f f.2.2.2.1 (f.2.2.2.1.length:Int) ((0:Int),(0:Int))) <|
 Sum.elim (fun _ =>
 .ret true)
  (fun x4 =>
 .ret x4)
def uL  : T (List zf) :=
 .ret ([([61]:zf),([60]:zf),([60,61]:zf)]:List zf)
def sV(kind:Int):T Int :=
 .ite (bif (kind==1)then(kind==1)else(kind==2))
  (.ret (0:Int))
  (.ite (kind==7)
  (.ret (1:Int))
  (.ite (kind==3)
  (.ret (2:Int))
  (.ite (kind==4)
  (.ret (2:Int))
  (.ite (kind==5)
  (.ret (2:Int))
  (.ite (kind==6)
  (.ret (2:Int))
  (.ret (-1:Int)))))))
def oc(b3:(List Int))(i:Int)(v:Int)(x3:(List Int))(x4:Int)(x5:Int)(x6:(List Int))(x7:Int):(Int×Int×(List Int))→T ((Int×Int×(List Int))⊕((Int×(List Int))))
 | (carry,x8,zA) =>
 .ite (decide (x8<x7))
  (.zd (zi x8 x6.length) <|
 .zd (zi (zt (i+x8)) zA.length) <|
 .zd (iM zA.length zA.length ((0:Nat)+(Int.toNat (zt (i+x8)))) zA.length) <|
 .zd (zi (zt (i+x8)) zA.length) <|
 .zd (iM zA.length zA.length ((0:Nat)+(Int.toNat (zt (i+x8)))) zA.length) <|
 .zd ((0:Int)≤(32:Int)) <|
 .zd (zh zA.length (0:Nat) zA.length (List.length (List.set zA ((0:Nat)+(Int.toNat (zt (i+x8)))) (qD (zw (carry+(zw ((zw ((zw v)*(zw (nth x6 x8 (zb (.int .u32))))))+(zw (xm zA ((0:Nat)+(Int.toNat (zt (i+x8)))) (zb (.int .u32)))))))))))) <|
 .zd (zA.length=(List.length (List.set zA ((0:Nat)+(Int.toNat (zt (i+x8)))) (qD (zw (carry+(zw ((zw ((zw v)*(zw (nth x6 x8 (zb (.int .u32))))))+(zw (xm zA ((0:Nat)+(Int.toNat (zt (i+x8)))) (zb (.int .u32)))))))))))) <|
 .ret (.inl ((qX .u64 (zw (carry+(zw ((zw ((zw v)*(zw (nth x6 x8 (zb (.int .u32))))))+(zw (xm zA ((0:Nat)+(Int.toNat (zt (i+x8)))) (zb (.int .u32)))))))) (32:Int)),((zt (x8+1)),(List.set zA ((0:Nat)+(Int.toNat (zt (i+x8)))) (qD (zw (carry+(zw ((zw ((zw v)*(zw (nth x6 x8 (zb (.int .u32))))))+(zw (xm zA ((0:Nat)+(Int.toNat (zt (i+x8)))) (zb (.int .u32))))))))))))))
  (.zd (zh zA.length (0:Nat) zA.length zA.length) <|
 .zd (zA.length=zA.length) <|
 .ret (.inr (carry,zA)))
def Ji b3 i v x3 x4 x5 x6 x7 s:=T.loop (oc b3 i v x3 x4 x5 x6 x7) s
def nt(b2:(List Int))(x:(List Int))(x1:Int):(Int×(List Int))→T ((Int×(List Int))⊕((List Int)))
 | (x2,xs) =>
 .ite (decide (x2<x1))
  (.zd (zi x2 x.length) <|
 .zd (zh xs.length (0:Nat) xs.length xs.length) <|
 .zd (xs.length=xs.length) <|
 T.bind (Ji b2 x2 (nth x x2 (zb (.int .u32))) x x1 x2 b2 (b2.length:Int) ((0:Int),((0:Int),xs))) fun(carry1,zR) =>
 .zd (zi (zt (x2+(b2.length:Int))) zR.length) <|
 .zd (iM zR.length zR.length ((0:Nat)+(Int.toNat (zt (x2+(b2.length:Int))))) zR.length) <|
 .zd (zh zR.length (0:Nat) zR.length (List.length (List.set zR ((0:Nat)+(Int.toNat (zt (x2+(b2.length:Int))))) (qD carry1)))) <|
 .zd (zR.length=(List.length (List.set zR ((0:Nat)+(Int.toNat (zt (x2+(b2.length:Int))))) (qD carry1)))) <|
 .ret (.inl ((zt (x2+1)),(List.set zR ((0:Nat)+(Int.toNat (zt (x2+(b2.length:Int))))) (qD carry1)))))
  (.zd (zh xs.length (0:Nat) xs.length xs.length) <|
 .zd (xs.length=xs.length) <|
 .ret (.inr xs))
def J3 b2 x x1 s:=T.loop (nt b2 x x1) s
def gR(a:(List Int))(b:(List Int)):T (List Int) :=
 T.bind (xJ a) fun a1 =>
 T.bind (xJ b) fun b1 =>
 .zd (XG (zt ((a1.length:Int)+(b1.length:Int))) (zt ((a1.length:Int)+(b1.length:Int))) (4:Nat)) <|
 .zd (zh (Int.toNat (zt ((a1.length:Int)+(b1.length:Int)))) (0:Nat) (Int.toNat (zt ((a1.length:Int)+(b1.length:Int)))) (List.length (List.replicate (Int.toNat (zt ((a1.length:Int)+(b1.length:Int)))) (0:Int)))) <|
 .zd ((Int.toNat (zt ((a1.length:Int)+(b1.length:Int))))=(List.length (List.replicate (Int.toNat (zt ((a1.length:Int)+(b1.length:Int)))) (0:Int)))) <|
 T.bind (J3 b1 a1 (a1.length:Int) ((0:Int),(List.replicate (Int.toNat (zt ((a1.length:Int)+(b1.length:Int)))) (0:Int)))) fun qH =>
 .zd (qH.length=qH.length) <|
 T.bind (xJ (List.drop (0:Nat) (List.take ((0:Nat)+qH.length) qH))) fun r =>
 .ret r
def iH(x:Int):((List Int)×Int)→T (((List Int)×Int)⊕((List Int)))
 | (a1,x1) =>
 .ite (decide (x1<x))
  (T.bind (jP (10:Int)) fun r =>
 T.bind (gR a1 r) fun a2 =>
 .ret (.inl (a2,(zt (x1+1)))))
  (.ret (.inr a1))
def UW x s:=T.loop (iH x) s
def U8(n:Int):T (List Int) :=
 T.bind (jP (1:Int)) fun a =>
 T.bind (UW n (a,(0:Int))) fun a3 =>
 .ret a3
def rZ(a:Rat):T zf :=
 .ite a.1
  (.ret ([45]:zf))
  (.ret ([]:zf))
def wb  : ((Nat×Nat)×Int×Int×(List Int))→T (((Nat×Nat)×Int×Int×(List Int))⊕((List Int)))
 | (s1,i,j,xs) =>
 .ite (decide (i<j))
  (.zd (zi j s1.2) <|
 .zd (iM xs.length xs.length (s1.1+(Int.toNat j)) xs.length) <|
 .zd (zi i s1.2) <|
 .zd (iM xs.length xs.length (s1.1+(Int.toNat i)) xs.length) <|
 .zd (zi i s1.2) <|
 .zd (iM xs.length xs.length (s1.1+(Int.toNat i)) xs.length) <|
 .zd (zi j s1.2) <|
 .zd (iM xs.length xs.length (s1.1+(Int.toNat j)) (List.length (List.set xs (s1.1+(Int.toNat i)) (xm xs (s1.1+(Int.toNat j)) (zb (.int .u8)))))) <|
 .zd (xs.length=xs.length) <|
 .zd (xs.length=(List.length (List.set (List.set xs (s1.1+(Int.toNat i)) (xm xs (s1.1+(Int.toNat j)) (zb (.int .u8)))) (s1.1+(Int.toNat j)) (xm xs (s1.1+(Int.toNat i)) (zb (.int .u8)))))) <|
 .ret (.inl (s1,((zt (i+1)),((zt (j-1)),(List.set (List.set xs (s1.1+(Int.toNat i)) (xm xs (s1.1+(Int.toNat j)) (zb (.int .u8)))) (s1.1+(Int.toNat j)) (xm xs (s1.1+(Int.toNat i)) (zb (.int .u8)))))))))
  (.zd (xs.length=xs.length) <|
 .ret (.inr xs))
def jC(s:((Nat×Nat)×Int×Int×(List Int))):T ((List Int)):=T.loop (wb ) s
def wP(sw:(Nat×Nat))(s:(List Int)):T (List Int) :=
 .zd (s.length=s.length) <|
 .zd (s.length=s.length) <|
 T.bind (jC  (sw,((0:Int),((zt ((Nat.cast sw.2:Int)-(1:Int))),s)))) fun zA =>
 .zd (zA.length=zA.length) <|
 .ret zA
def bO(q1:(List Int)):(Int×Int×(List Int))→T ((Int×Int×(List Int))⊕((List Int)))
 | (rest1,x,zA) =>
 .ite (decide (x<(9:Int)))
  (.zd ((10:Int)≠(0:Int)) <|
 .zd (zi (Int.tmod rest1 (10:Int)) ([48,49,50,51,52,53,54,55,56,57]:zf).length) <|
 .zd (xC zA.length zA.length (0:Nat) zA.length zA.length (1:Nat) (1:Nat)) <|
 .zd ((10:Int)≠(0:Int)) <|
 .zd (zh (zA.length+(1:Nat)) (0:Nat) (zA.length+(1:Nat)) (List.length (zA++([(wB ([48,49,50,51,52,53,54,55,56,57]:zf) (Int.tmod rest1 (10:Int)))]:List Int)))) <|
 .zd ((zA.length+(1:Nat))=(List.length (zA++([(wB ([48,49,50,51,52,53,54,55,56,57]:zf) (Int.tmod rest1 (10:Int)))]:List Int)))) <|
 .ret (.inl ((qD (Int.tdiv rest1 (10:Int))),((zt (x+1)),(zA++([(wB ([48,49,50,51,52,53,54,55,56,57]:zf) (Int.tmod rest1 (10:Int)))]:List Int))))))
  (.zd (zh zA.length (0:Nat) zA.length zA.length) <|
 .zd (zA.length=zA.length) <|
 .ret (.inr zA))
def oQ q1 s:=T.loop (bO q1) s
def ba  : ((List Int)×(List Int))→T (((List Int)×(List Int))⊕((List Int)))
 | (a2,xs) =>
 .ite (decide ((0:Int)<(a2.length:Int)))
  (T.bind (fc a2 (1000000000:Int)) fun(q,rest) =>
 .zd (zh xs.length (0:Nat) xs.length xs.length) <|
 .zd (xs.length=xs.length) <|
 T.bind (oQ q (rest,((0:Int),xs))) fun zR =>
 .zd (zh zR.length (0:Nat) zR.length zR.length) <|
 .zd (zR.length=zR.length) <|
 .ret (.inl (q,zR)))
  (.zd (zh xs.length (0:Nat) xs.length xs.length) <|
 .zd (xs.length=xs.length) <|
 .ret (.inr xs))
def nB(s:((List Int)×(List Int))):T ((List Int)):=T.loop (ba ) s
def gM  : ((Nat×Nat)×(List Int))→T (((Nat×Nat)×(List Int))⊕(((Nat×Nat)×(List Int))))
 | (b,vb) =>
 .zd (((decide ((1:Int)<(Nat.cast b.2:Int)))=true)→((zi (zt ((Nat.cast b.2:Int)-(1:Int))) b.2)∧(iM vb.length vb.length (b.1+(Int.toNat (zt ((Nat.cast b.2:Int)-(1:Int))))) vb.length))) <|
 .ite ((decide ((1:Int)<(Nat.cast b.2:Int)))&&((xm vb (b.1+(Int.toNat (zt ((Nat.cast b.2:Int)-(1:Int))))) (zb (.int .u8)))==48))
  (.zd (nh (0:Int) (zt ((Nat.cast b.2:Int)-(1:Int))) b.2) <|
 .zd (vb.length=vb.length) <|
 .zd (vb.length=vb.length) <|
 .ret (.inl (((b.1+(Int.toNat (0:Int))),((Int.toNat (zt ((Nat.cast b.2:Int)-(1:Int))))-(Int.toNat (0:Int)))),vb)))
  (.zd (vb.length=vb.length) <|
 .zd (vb.length=vb.length) <|
 .ret (.inr (b,vb)))
def QM(s:((Nat×Nat)×(List Int))):T (((Nat×Nat)×(List Int))):=T.loop (gM ) s
def fg(a:(List Int)):T zf :=
 T.bind (bI a) fun a1 =>
 .ite ((a1.length:Int)==(0:Int))
  (.ret ([48]:zf))
  (.zd (zh (0:Nat) (0:Nat) (0:Nat) (0:Nat)) <|
 .zd ((0:Nat)=(0:Nat)) <|
 T.bind (nB  (a1,([]:List Int))) fun qH =>
 .zd (qH.length=qH.length) <|
 .zd (qH.length=qH.length) <|
 T.bind (QM  (((0:Nat),qH.length),qH)) fun(b1,je) =>
 .zd (je.length=je.length) <|
 .zd (je.length=je.length) <|
 T.bind (wP b1 je) fun b2 =>
 .zd (je.length=b2.length) <|
 .ret (qP (List.drop b1.1 (List.take (b1.1+b1.2) b2))))
def strings_Repeat(s:zf)(count:Int):T zf :=
 .zd ((0:Int)≤count∧count≤(9223372036854775807:Int)∧s.length*(Int.toNat count)≤(140737488355328:Nat)) <|
 .ret (kB s (Int.toNat count))
def iY(s:zf)(n:Int):T zf :=
 .ite (n==0)
  (.ret s)
  (T.bind (strings_Repeat ([48]:zf) (w6 (0:Int) (zt ((zt (n+1))-(s.length:Int))))) fun r =>
 .zd ((r.length+s.length)≤(4611686018427387904:Nat)) <|
 .zd (nh (0:Int) (zt (((cat r s).length:Int)-n)) (cat r s).length) <|
 .zd (((List.length (gY (0:Int) (zt (((cat r s).length:Int)-n)) (cat r s)))+([46]:zf).length)≤(4611686018427387904:Nat)) <|
 .zd (nh (zt (((cat r s).length:Int)-n)) ((cat r s).length:Int) (cat r s).length) <|
 .zd (((List.length (cat (gY (0:Int) (zt (((cat r s).length:Int)-n)) (cat r s)) ([46]:zf)))+(List.length (gY (zt (((cat r s).length:Int)-n)) ((cat r s).length:Int) (cat r s))))≤(4611686018427387904:Nat)) <|
 .ret (cat (cat (gY (0:Int) (zt (((cat r s).length:Int)-n)) (cat r s)) ([46]:zf)) (gY (zt (((cat r s).length:Int)-n)) ((cat r s).length:Int) (cat r s))))
def y3  : (Int×Rat)→T ((Int×Rat)⊕(Rat⊕(zf×Bool×Rat)))
 | (x,v) =>
 .ite (decide (x<(61:Int)))
  (T.bind (U8 x) fun r1 =>
 T.bind (gR v.2.1 r1) fun r2 =>
 T.bind (gm r2 v.2.2.1) fun(q,r3,r4) =>
 .ite ((r3.length:Int)==(0:Int))
  (T.bind (rZ v) fun r5 =>
 T.bind (fg q) fun r6 =>
 T.bind (iY r6 x) fun r7 =>
 .zd ((r5.length+r7.length)≤(4611686018427387904:Nat)) <|
 .ret (.inr (.inr ((cat r5 r7),(true,v)))))
  (.ret (.inl ((zt (x+1)),v))))
  (.ret (.inr (.inl v)))
def Xl(s:(Int×Rat)):T (Rat⊕(zf×Bool×Rat)):=T.loop (y3 ) s
def mv(a:Rat):T (zf×Bool) :=
 T.bind (xQ a) fun r =>
 T.bind (Xl  ((0:Int),r)) <|
 Sum.elim (fun v1 =>
 .ret (([]:zf),false))
  (fun(x1,x2,v2) =>
 .ret (x1,x2))
def oR(a:Rat):T Bool :=
 T.bind (T.bind (rf a) fun r =>
 .ite (!r)
  (.ret true)
  (.ite a.1
  (.ret true)
  (T.bind (uS a) fun r1 =>
 .ret r1)):T (Bool)) fun x =>
 .ite x
  (.ret false)
  (T.bind (mv a) fun(r2,ok) =>
 .ret ok)
def dK(a:Rat):T Bool :=
 .ite (!a.1)
  (.ite ((a.2.1.length:Int)==(0:Int))
  (.ite ((a.2.2.1.length:Int)==(0:Int))
  (.ret true)
  (T.bind (rf a) fun r =>
 .ret r))
  (.ret false))
  (.ret false)
def gy(e:AM.Expr):T Bool :=
 T.bind (sV (Expr.kind e)) fun r =>
 .ite (((Expr.kids e).length:Int) != r)
  (.ret false)
  (.ite ((Expr.kind e)==1)
  (T.bind (oR (Expr.num e)) fun r1 =>
 .ite r1
  (.ret (zH (Expr.name e) ([]:zf)))
  (.ret false))
  (.ite ((Expr.kind e)==2)
  (T.bind (dK (Expr.num e)) fun r2 =>
 .ite r2
  (T.bind (uI (Expr.name e)) fun r3 =>
 .ret r3)
  (.ret false))
  (T.bind (dK (Expr.num e)) fun r4 =>
 .ite r4
  (.ret (zH (Expr.name e) ([]:zf)))
  (.ret false))))
def jr(xX:AM.Expr→Int→Int→T (Bool×Int))(k:AM.Expr)(a1:Int)(v:Int):T (Bool×Int) :=
 T.bind (xX k (zt (a1+1)) v) fun(r,xs) =>
 .ret ((!r),xs)
def zQ(xX:AM.Expr→Int→Int→T (Bool×Int))(s1:(List AM.Expr))(x:Int):((Int×Unit)×Int×Int)→T (((Int×Unit)×Int×Int)⊕(Int⊕(Int×Int)))
 | (f1,x1,v1) =>
 .ite (decide (x1<x))
  (.zd (zi x1 s1.length) <|
 T.bind ((jr xX) (nth s1 x1 (zb .expr)) f1.1 v1) fun(r,xs) =>
 .ite r
  (.ret (.inr (.inr (x1,xs))))
  (.ret (.inl ((f1.1,()),((zt (x1+1)),xs)))))
  (.ret (.inr (.inl v1)))
def zZ xX s1 x s:=T.loop (zQ xX s1 x) s
def qU(xX:AM.Expr→Int→Int→T (Bool×Int))(s:(List AM.Expr))(f:(Int×Unit))(v:Int):T (Int×Int) :=
 T.bind (zZ xX s (s.length:Int) ((f.1,()),((0:Int),v))) <|
 Sum.elim (fun v2 =>
 .ret ((-1:Int),v2))
  (fun(x2,v3) =>
 .ret (x2,v3))
def qj(xX:AM.Expr→Int→Int→T (Bool×Int))(s:(List AM.Expr))(f:(Int×Unit))(v:Int):T (Bool×Int) :=
 T.bind ((qU xX) s (f.1,()) v) fun(r,xs) =>
 .ret ((decide ((0:Int)≤r)),xs)
def bB(xX:AM.Expr→Int→Int→T (Bool×Int))(e:AM.Expr)(deep:Int)(left:Int):T (Bool×Int) :=
 T.bind (.ite (decide ((zt (left-1))<(0:Int)))
  (.ret (true,(zt (left-1))))
  (.ite (decide ((32:Int)≤deep))
  (.ret (true,(zt (left-1))))
  (T.bind (gy e) fun r =>
 .ret ((!r),(zt (left-1))))):T ((Bool×Int))) fun(x,v) =>
 .ite x
  (.ret (false,v))
  (T.bind ((qj xX) (Expr.kids e) (deep,()) v) fun(r1,left1) =>
 .ret ((!r1),left1))
def jK(e:AM.Expr)(deep:Int)(left:Int):T (Bool×Int):=T.fix (fun F x=>bB (fun y0 y1 y2=>F (y0,y1,y2)) x.1 x.2.1 x.2.2) (e,deep,left)
def uB(e:AM.Expr):T Bool :=
 T.bind (jK e (0:Int) (256:Int)) fun(r,left) =>
 .ret r
def vT  : T (List zf) :=
 .ret ([([114,101,113,117,105,114,101,100]:zf),([115,116,114,111,110,103]:zf),([109,101,100,105,117,109]:zf),([119,101,97,107]:zf)]:List zf)
def wy(r:uX):T Bool :=
 T.bind (uI r.1) fun r1 =>
 .ite (!r1)
  (.ret true)
  (.ite (decide (r.2.1<(0:Int)))
  (.ret true)
  (T.bind (vT) fun r2 =>
 .ite (decide ((r2.length:Int)≤r.2.1))
  (.ret true)
  (T.bind (kX r.2.2.1) fun r3 =>
 .ite (!r3)
  (.ret true)
  (T.bind (uB r.2.2.2.1) fun r4 =>
 .ite (!r4)
  (.ret true)
  (T.bind (uB r.2.2.2.2.1) fun r5 =>
 .ret (!r5))))))
def xE(s1:(List uX))(f:uX→T Bool)(x:Int):Int→T (Int⊕(Unit⊕Int))
 | x1 =>
 .ite (decide (x1<x))
  (.zd (zi x1 s1.length) <|
 T.bind (f (nth s1 x1 (zb zo))) fun r =>
 .ite r
  (.ret (.inr (.inr x1)))
  (.ret (.inl (zt (x1+1)))))
  (.ret (.inr (.inl ())))
def jG s1 f x s:=T.loop (xE s1 f x) s
def wO(s:(List uX))(f:uX→T Bool):T Int :=
 T.bind (jG s f (s.length:Int) (0:Int)) <|
 Sum.elim (fun _ =>
 .ret (-1:Int))
  (fun x2 =>
 .ret x2)
def xF(s:(List uX))(f:uX→T Bool):T Bool :=
 T.bind (wO s f) fun r =>
 .ret (decide ((0:Int)≤r))
def jd(f1:Form)(x:(List Check))(x1:Int):(Int×Int)→T ((Int×Int)⊕(Unit⊕Bool))
 | (ahead,x2) =>
 .ite (decide (x2<x1))
  (.zd (zi x2 x.length) <|
 T.bind (T.bind (uI (nth x x2 (zb zn)).1) fun r =>
 .ite (!r)
  (.ret (true,(nth x x2 (zb zn))))
  (T.bind (bw (nth x x2 (zb zn)).2.1 ahead (f1.2.2.1.length:Int)) fun r1 =>
 .ite (!r1)
  (.ret (true,(nth x x2 (zb zn))))
  (.ite (decide ((nth x x2 (zb zn)).2.2.1<(0:Int)))
  (.ret (true,(nth x x2 (zb zn))))
  (T.bind (uL) fun r2 =>
 .ite (decide ((r2.length:Int)≤(nth x x2 (zb zn)).2.2.1))
  (.ret (true,(nth x x2 (zb zn))))
  (T.bind (uB (Expr.mk (Expr.kind (nth x x2 (zb zn)).2.2.2.1) ((Expr.num (nth x x2 (zb zn)).2.2.2.1).1,((Expr.num (nth x x2 (zb zn)).2.2.2.1).2.1,((Expr.num (nth x x2 (zb zn)).2.2.2.1).2.2.1,()))) (Expr.name (nth x x2 (zb zn)).2.2.2.1) (Expr.kids (nth x x2 (zb zn)).2.2.2.1))) fun r3 =>
 .ite (!r3)
  (.ret (true,(nth x x2 (zb zn))))
  (T.bind (uB (Expr.mk (Expr.kind (nth x x2 (zb zn)).2.2.2.2.1) ((Expr.num (nth x x2 (zb zn)).2.2.2.2.1).1,((Expr.num (nth x x2 (zb zn)).2.2.2.2.1).2.1,((Expr.num (nth x x2 (zb zn)).2.2.2.2.1).2.2.1,()))) (Expr.name (nth x x2 (zb zn)).2.2.2.2.1) (Expr.kids (nth x x2 (zb zn)).2.2.2.2.1))) fun r4 =>
 .ret ((!r4),(nth x x2 (zb zn)))))))):T ((Bool×Check))) fun(x3,v) =>
 .ite x3
  (.ret (.inr (.inr false)))
  (.ret (.inl (v.2.1,(zt (x2+1))))))
  (.ret (.inr (.inl ())))
def p0 f1 x x1 s:=T.loop (jd f1 x x1) s
def eQ(f:Form):T Bool :=
 T.bind (p0 f f.2.2.2.2.2.1 (f.2.2.2.2.2.1.length:Int) ((0:Int),(0:Int))) <|
 Sum.elim (fun _ =>
 T.bind (xF f.2.2.2.2.1 (fun z0=>wy z0)) fun r5 =>
 .ret (!r5))
  (fun x4 =>
 .ret x4)
def lZ(v:Unit)(l:List Int):T (Unit×List Int):=.ret (v,l)
def qk(s:zf)(b:(Unit))(xs:(List Int)):T (Int×(Unit)×(List Int)) :=
 .zd (zh xs.length (0:Nat) xs.length xs.length) <|
 .zd (xs.length=xs.length) <|
 T.bind (lZ () xs) fun(b1,zA) =>
 .zd (xC zA.length zA.length (0:Nat) zA.length zA.length (bytesOf s).length (1:Nat)) <|
 .zd (zh (zA.length+(bytesOf s).length) (0:Nat) (zA.length+(bytesOf s).length) (List.length (zA++(bytesOf s)))) <|
 .zd ((zA.length+(bytesOf s).length)=(List.length (zA++(bytesOf s)))) <|
 .ret ((s.length:Int),((),(zA++(bytesOf s))))
def mS(a:Rat):T zf :=
 T.bind (xQ a) fun r =>
 T.bind (rZ r) fun r1 =>
 T.bind (fg r.2.1) fun r2 =>
 .zd ((r1.length+r2.length)≤(4611686018427387904:Nat)) <|
 T.bind (jP (1:Int)) fun r3 =>
 T.bind (iS r.2.2.1 r3) fun r4 =>
 .ite (r4 != 0)
  (T.bind (fg r.2.2.1) fun r5 =>
 .zd ((([47]:zf).length+r5.length)≤(4611686018427387904:Nat)) <|
 .zd (((cat r1 r2).length+(List.length (cat ([47]:zf) r5)))≤(4611686018427387904:Nat)) <|
 .ret (cat (cat r1 r2) (cat ([47]:zf) r5)))
  (.ret (cat r1 r2))
def fV(s:zf):T zf :=
 .ite (zH s ([]:zf))
  (.ret ([]:zf))
  (.zd ((([32,119,104,101,110,32]:zf).length+s.length)≤(4611686018427387904:Nat)) <|
 .ret (cat ([32,119,104,101,110,32]:zf) s))
def strconv_Itoa(n:Int):T zf :=
 .zd ((-9223372036854775808:Int)≤n∧n≤(9223372036854775807:Int)) <|
 .ret (pw n)
def l8(x:Field):T zf :=
 .zd ((([102,105,101,108,100,32]:zf).length+x.1.length)≤(4611686018427387904:Nat)) <|
 .zd ((x.2.2.1=true)→(((List.length (cat ([102,105,101,108,100,32]:zf) x.1))+([32,109,117,115,116]:zf).length)≤(4611686018427387904:Nat))) <|
 .ite (decide ((0:Int)<x.2.2.2.1))
  (T.bind (strconv_Itoa x.2.2.2.1) fun r =>
 .zd ((([32,115,99,97,108,101,32]:zf).length+r.length)≤(4611686018427387904:Nat)) <|
 .zd (((List.length (bif x.2.2.1 then(cat (cat ([102,105,101,108,100,32]:zf) x.1) ([32,109,117,115,116]:zf))else(cat ([102,105,101,108,100,32]:zf) x.1)))+(List.length (cat ([32,115,99,97,108,101,32]:zf) r)))≤(4611686018427387904:Nat)) <|
 .zd (((List.length (cat (bif x.2.2.1 then(cat (cat ([102,105,101,108,100,32]:zf) x.1) ([32,109,117,115,116]:zf))else(cat ([102,105,101,108,100,32]:zf) x.1)) (cat ([32,115,99,97,108,101,32]:zf) r)))+([10]:zf).length)≤(4611686018427387904:Nat)) <|
 .ret (cat (cat (bif x.2.2.1 then(cat (cat ([102,105,101,108,100,32]:zf) x.1) ([32,109,117,115,116]:zf))else(cat ([102,105,101,108,100,32]:zf) x.1)) (cat ([32,115,99,97,108,101,32]:zf) r)) ([10]:zf)))
  (.zd (((List.length (bif x.2.2.1 then(cat (cat ([102,105,101,108,100,32]:zf) x.1) ([32,109,117,115,116]:zf))else(cat ([102,105,101,108,100,32]:zf) x.1)))+([10]:zf).length)≤(4611686018427387904:Nat)) <|
 .ret (cat (bif x.2.2.1 then(cat (cat ([102,105,101,108,100,32]:zf) x.1) ([32,109,117,115,116]:zf))else(cat ([102,105,101,108,100,32]:zf) x.1)) ([10]:zf)))
def cm(e:AM.Expr):T Int :=
 .ite (bif ((Expr.kind e)==3)then((Expr.kind e)==3)else((Expr.kind e)==4))
  (.ret (1:Int))
  (.ite (bif ((Expr.kind e)==5)then((Expr.kind e)==5)else((Expr.kind e)==6))
  (.ret (2:Int))
  (.ite ((Expr.kind e)==7)
  (.ret (3:Int))
  (.ret (4:Int))))
def gn(vW:AM.Expr→T zf)(e:AM.Expr)(least:Int):T zf :=
 T.bind (cm e) fun r =>
 .ite (decide (r<least))
  (T.bind (vW e) fun r1 =>
 .zd ((([40]:zf).length+r1.length)≤(4611686018427387904:Nat)) <|
 .zd (((List.length (cat ([40]:zf) r1))+([41]:zf).length)≤(4611686018427387904:Nat)) <|
 .ret (cat (cat ([40]:zf) r1) ([41]:zf)))
  (T.bind (vW e) fun r2 =>
 .ret r2)
def eY(vW:AM.Expr→T zf)(e:AM.Expr):T zf :=
 T.bind (.ite ((Expr.kind e)==1)
  (T.bind (mv (Expr.num e)) fun(s,r) =>
 .ret (.inr s))
  (.ite ((Expr.kind e)==2)
  (.ret (.inr (Expr.name e)))
  (.ite ((Expr.kind e)==7)
  (.zd (zi (0:Int) (Expr.kids e).length) <|
 T.bind ((gn vW) (nth (Expr.kids e) (0:Int) (zb .expr)) (3:Int)) fun r1 =>
 .zd ((([45]:zf).length+r1.length)≤(4611686018427387904:Nat)) <|
 .ret (.inr (cat ([45]:zf) r1)))
  (.ite ((Expr.kind e)==3)
  (.ret (.inl ([32,43,32]:zf)))
  (.ite ((Expr.kind e)==4)
  (.ret (.inl ([32,45,32]:zf)))
  (.ite ((Expr.kind e)==5)
  (.ret (.inl ([32,42,32]:zf)))
  (.ite ((Expr.kind e)==6)
  (.ret (.inl ([32,47,32]:zf)))
  (.ret (.inl ([]:zf))))))))):T (zf⊕zf)) <|
 Sum.elim (fun mark =>
 .zd (zi (0:Int) (Expr.kids e).length) <|
 T.bind (cm e) fun r2 =>
 T.bind ((gn vW) (nth (Expr.kids e) (0:Int) (zb .expr)) r2) fun r3 =>
 .zd ((r3.length+mark.length)≤(4611686018427387904:Nat)) <|
 .zd (zi (1:Int) (Expr.kids e).length) <|
 T.bind (cm e) fun r4 =>
 T.bind ((gn vW) (nth (Expr.kids e) (1:Int) (zb .expr)) (zt (r4+1))) fun r5 =>
 .zd (((cat r3 mark).length+r5.length)≤(4611686018427387904:Nat)) <|
 .ret (cat (cat r3 mark) r5))
  (fun x =>
 .ret x)
def oN(e:AM.Expr):T zf:=T.fix (fun F x=>eY (fun y0=>F (y0)) x) e
def cx(e:AM.Expr):T zf :=
 T.bind (uB e) fun r =>
 .ite (!r)
  (.ret ([]:zf))
  (T.bind (oN e) fun r1 =>
 .ret r1)
def dc(l:AM.Expr)(sign:zf)(r:AM.Expr):T zf :=
 T.bind (cx l) fun r1 =>
 .zd ((([32,58,32]:zf).length+r1.length)≤(4611686018427387904:Nat)) <|
 .zd (((List.length (cat ([32,58,32]:zf) r1))+([32]:zf).length)≤(4611686018427387904:Nat)) <|
 .zd (((List.length (cat (cat ([32,58,32]:zf) r1) ([32]:zf)))+sign.length)≤(4611686018427387904:Nat)) <|
 .zd (((List.length (cat (cat (cat ([32,58,32]:zf) r1) ([32]:zf)) sign))+([32]:zf).length)≤(4611686018427387904:Nat)) <|
 T.bind (cx r) fun r2 =>
 .zd (((List.length (cat (cat (cat (cat ([32,58,32]:zf) r1) ([32]:zf)) sign) ([32]:zf)))+r2.length)≤(4611686018427387904:Nat)) <|
 .zd (((List.length (cat (cat (cat (cat (cat ([32,58,32]:zf) r1) ([32]:zf)) sign) ([32]:zf)) r2))+([10]:zf).length)≤(4611686018427387904:Nat)) <|
 .ret (cat (cat (cat (cat (cat (cat ([32,58,32]:zf) r1) ([32]:zf)) sign) ([32]:zf)) r2) ([10]:zf))
def j7(i1:Int)(f1:Form)(x:(List Field))(x1:Int):(Int×(Unit)×(List Int))→T ((Int×(Unit)×(List Int))⊕(((Unit)×(List Int))))
 | (x2,v,zR) =>
 .ite (decide (x2<x1))
  (.zd (zi x2 x.length) <|
 .ite ((nth x x2 (zb q7)).2.1==i1)
  (T.bind (l8 (nth x x2 (zb q7))) fun r2 =>
 .zd (zh zR.length (0:Nat) zR.length zR.length) <|
 .zd (zR.length=zR.length) <|
 T.bind (qk r2 () zR) fun(r3,w2,qH) =>
 .zd (zh qH.length (0:Nat) qH.length qH.length) <|
 .zd (qH.length=qH.length) <|
 .ret (.inl ((zt (x2+1)),((),qH))))
  (.zd (zh zR.length (0:Nat) zR.length zR.length) <|
 .zd (zR.length=zR.length) <|
 .ret (.inl ((zt (x2+1)),((),zR)))))
  (.zd (zh zR.length (0:Nat) zR.length zR.length) <|
 .zd (zR.length=zR.length) <|
 .ret (.inr ((),zR)))
def p9 i1 f1 x x1 s:=T.loop (j7 i1 f1 x x1) s
def j8(i2:Int)(x3:(List Check))(x4:Int):(Int×(Unit)×(List Int))→T ((Int×(Unit)×(List Int))⊕(((Unit)×(List Int))))
 | (x5,v2,je) =>
 .ite (decide (x5<x4))
  (.zd (zi x5 x3.length) <|
 .ite ((nth x3 x5 (zb zn)).2.1==i2)
  (.zd ((([99,104,101,99,107,32]:zf).length+(List.length (nth x3 x5 (zb zn)).1))≤(4611686018427387904:Nat)) <|
 T.bind (uL) fun r4 =>
 .zd (zi (nth x3 x5 (zb zn)).2.2.1 r4.length) <|
 T.bind (dc (Expr.mk (Expr.kind (nth x3 x5 (zb zn)).2.2.2.1) ((Expr.num (nth x3 x5 (zb zn)).2.2.2.1).1,((Expr.num (nth x3 x5 (zb zn)).2.2.2.1).2.1,((Expr.num (nth x3 x5 (zb zn)).2.2.2.1).2.2.1,()))) (Expr.name (nth x3 x5 (zb zn)).2.2.2.1) (Expr.kids (nth x3 x5 (zb zn)).2.2.2.1)) (nth r4 (nth x3 x5 (zb zn)).2.2.1 (zb .str)) (Expr.mk (Expr.kind (nth x3 x5 (zb zn)).2.2.2.2.1) ((Expr.num (nth x3 x5 (zb zn)).2.2.2.2.1).1,((Expr.num (nth x3 x5 (zb zn)).2.2.2.2.1).2.1,((Expr.num (nth x3 x5 (zb zn)).2.2.2.2.1).2.2.1,()))) (Expr.name (nth x3 x5 (zb zn)).2.2.2.2.1) (Expr.kids (nth x3 x5 (zb zn)).2.2.2.2.1))) fun r5 =>
 .zd (((List.length (cat ([99,104,101,99,107,32]:zf) (nth x3 x5 (zb zn)).1))+r5.length)≤(4611686018427387904:Nat)) <|
 .zd (zh je.length (0:Nat) je.length je.length) <|
 .zd (je.length=je.length) <|
 T.bind (qk (cat (cat ([99,104,101,99,107,32]:zf) (nth x3 x5 (zb zn)).1) r5) () je) fun(r6,w3,xs6) =>
 .zd (zh xs6.length (0:Nat) xs6.length xs6.length) <|
 .zd (xs6.length=xs6.length) <|
 .ret (.inl ((zt (x5+1)),((),xs6))))
  (.zd (zh je.length (0:Nat) je.length je.length) <|
 .zd (je.length=je.length) <|
 .ret (.inl ((zt (x5+1)),((),je)))))
  (.zd (zh je.length (0:Nat) je.length je.length) <|
 .zd (je.length=je.length) <|
 .ret (.inr ((),je)))
def pn i2 x3 x4 s:=T.loop (j8 i2 x3 x4) s
def eW(f:Form)(i:Int)(w:(Unit))(xs:(List Int)):T ((Unit)×(List Int)) :=
 .zd (zi i f.2.2.1.length) <|
 .zd ((([112,97,103,101,32]:zf).length+(List.length (nth f.2.2.1 i (zb qu)).1))≤(4611686018427387904:Nat)) <|
 .zd (zi i f.2.2.1.length) <|
 T.bind (fV (nth f.2.2.1 i (zb qu)).2.1) fun r =>
 .zd (((List.length (cat ([112,97,103,101,32]:zf) (nth f.2.2.1 i (zb qu)).1))+r.length)≤(4611686018427387904:Nat)) <|
 .zd (((List.length (cat (cat ([112,97,103,101,32]:zf) (nth f.2.2.1 i (zb qu)).1) r))+([10]:zf).length)≤(4611686018427387904:Nat)) <|
 .zd (zh xs.length (0:Nat) xs.length xs.length) <|
 .zd (xs.length=xs.length) <|
 T.bind (qk (cat (cat (cat ([112,97,103,101,32]:zf) (nth f.2.2.1 i (zb qu)).1) r) ([10]:zf)) () xs) fun(r1,w1,zA) =>
 .zd (zh zA.length (0:Nat) zA.length zA.length) <|
 .zd (zA.length=zA.length) <|
 T.bind (p9 i f f.2.2.2.1 (f.2.2.2.1.length:Int) ((0:Int),((),zA))) fun(v1,vb) =>
 .zd (zh vb.length (0:Nat) vb.length vb.length) <|
 .zd (vb.length=vb.length) <|
 T.bind (pn i f.2.2.2.2.2.1 (f.2.2.2.2.2.1.length:Int) ((0:Int),((),vb))) fun(v3,vI) =>
 .zd (zh vI.length (0:Nat) vI.length vI.length) <|
 .zd (vI.length=vI.length) <|
 .ret ((),vI)
def nS(v:Unit)(l:List Int):T (zf×Unit):=z1a l
def jZ(f1:Form)(x:(List Switch))(x1:Int):(Int×(Unit)×(List Int))→T ((Int×(Unit)×(List Int))⊕(((Unit)×(List Int))))
 | (x2,v,xs) =>
 .ite (decide (x2<x1))
  (.zd (zi x2 x.length) <|
 .zd ((([115,119,105,116,99,104,32]:zf).length+(List.length (nth x x2 (zb zW)).1))≤(4611686018427387904:Nat)) <|
 .zd (((List.length (cat ([115,119,105,116,99,104,32]:zf) (nth x x2 (zb zW)).1))+(List.length (bif (nth x x2 (zb zW)).2.1 then([32,111,110,10]:zf)else([32,111,102,102,10]:zf))))≤(4611686018427387904:Nat)) <|
 .zd (zh xs.length (0:Nat) xs.length xs.length) <|
 .zd (xs.length=xs.length) <|
 T.bind (qk (cat (cat ([115,119,105,116,99,104,32]:zf) (nth x x2 (zb zW)).1) (bif (nth x x2 (zb zW)).2.1 then([32,111,110,10]:zf)else([32,111,102,102,10]:zf))) () xs) fun(r,w,zA) =>
 .zd (zh zA.length (0:Nat) zA.length zA.length) <|
 .zd (zA.length=zA.length) <|
 .ret (.inl ((zt (x2+1)),((),zA))))
  (.zd (zh xs.length (0:Nat) xs.length xs.length) <|
 .zd (xs.length=xs.length) <|
 .ret (.inr ((),xs)))
def sH f1 x x1 s:=T.loop (jZ f1 x x1) s
def jR(f2:Form)(x3:(List Param))(x4:Int):(Int×(Unit)×(List Int))→T ((Int×(Unit)×(List Int))⊕(((Unit)×(List Int))))
 | (x5,v2,qH) =>
 .ite (decide (x5<x4))
  (.zd (zi x5 x3.length) <|
 .zd ((([112,97,114,97,109,32]:zf).length+(List.length (nth x3 x5 (zb zX)).1))≤(4611686018427387904:Nat)) <|
 .zd (((List.length (cat ([112,97,114,97,109,32]:zf) (nth x3 x5 (zb zX)).1))+([32]:zf).length)≤(4611686018427387904:Nat)) <|
 T.bind (mS ((nth x3 x5 (zb zX)).2.1.1,((nth x3 x5 (zb zX)).2.1.2.1,((nth x3 x5 (zb zX)).2.1.2.2.1,())))) fun r1 =>
 .zd (((List.length (cat (cat ([112,97,114,97,109,32]:zf) (nth x3 x5 (zb zX)).1) ([32]:zf)))+r1.length)≤(4611686018427387904:Nat)) <|
 .zd (((List.length (cat (cat (cat ([112,97,114,97,109,32]:zf) (nth x3 x5 (zb zX)).1) ([32]:zf)) r1))+([10]:zf).length)≤(4611686018427387904:Nat)) <|
 .zd (zh qH.length (0:Nat) qH.length qH.length) <|
 .zd (qH.length=qH.length) <|
 T.bind (qk (cat (cat (cat (cat ([112,97,114,97,109,32]:zf) (nth x3 x5 (zb zX)).1) ([32]:zf)) r1) ([10]:zf)) () qH) fun(r2,w1,vb) =>
 .zd (zh vb.length (0:Nat) vb.length vb.length) <|
 .zd (vb.length=vb.length) <|
 .ret (.inl ((zt (x5+1)),((),vb))))
  (.zd (zh qH.length (0:Nat) qH.length qH.length) <|
 .zd (qH.length=qH.length) <|
 .ret (.inr ((),qH)))
def rX f2 x3 x4 s:=T.loop (jR f2 x3 x4) s
def kt(f3:Form)(x6:Int):(Int×(Unit)×(List Int))→T ((Int×(Unit)×(List Int))⊕(((Unit)×(List Int))))
 | (x7,v4,xs6) =>
 .ite (decide (x7<x6))
  (.zd (zh xs6.length (0:Nat) xs6.length xs6.length) <|
 .zd (xs6.length=xs6.length) <|
 T.bind (eW f3 x7 () xs6) fun(w2,vI) =>
 .zd (zh vI.length (0:Nat) vI.length vI.length) <|
 .zd (vI.length=vI.length) <|
 .ret (.inl ((zt (x7+1)),((),vI))))
  (.zd (zh xs6.length (0:Nat) xs6.length xs6.length) <|
 .zd (xs6.length=xs6.length) <|
 .ret (.inr ((),xs6)))
def sM f3 x6 s:=T.loop (kt f3 x6) s
def ko(x8:(List uX))(x9:Int):(Int×(Unit)×(List Int))→T ((Int×(Unit)×(List Int))⊕(((Unit)×(List Int))))
 | (ZR,v6,pP) =>
 .ite (decide (ZR<x9))
  (.zd (zi ZR x8.length) <|
 T.bind (vT) fun r3 =>
 .zd (zi (nth x8 ZR (zb zo)).2.1 r3.length) <|
 .zd ((([114,117,108,101,32]:zf).length+(List.length (nth r3 (nth x8 ZR (zb zo)).2.1 (zb .str))))≤(4611686018427387904:Nat)) <|
 .zd (((List.length (cat ([114,117,108,101,32]:zf) (nth r3 (nth x8 ZR (zb zo)).2.1 (zb .str))))+([32]:zf).length)≤(4611686018427387904:Nat)) <|
 .zd (((List.length (cat (cat ([114,117,108,101,32]:zf) (nth r3 (nth x8 ZR (zb zo)).2.1 (zb .str))) ([32]:zf)))+(List.length (nth x8 ZR (zb zo)).1))≤(4611686018427387904:Nat)) <|
 T.bind (fV (nth x8 ZR (zb zo)).2.2.1) fun r4 =>
 .zd (((List.length (cat (cat (cat ([114,117,108,101,32]:zf) (nth r3 (nth x8 ZR (zb zo)).2.1 (zb .str))) ([32]:zf)) (nth x8 ZR (zb zo)).1))+r4.length)≤(4611686018427387904:Nat)) <|
 T.bind (dc (Expr.mk (Expr.kind (nth x8 ZR (zb zo)).2.2.2.1) ((Expr.num (nth x8 ZR (zb zo)).2.2.2.1).1,((Expr.num (nth x8 ZR (zb zo)).2.2.2.1).2.1,((Expr.num (nth x8 ZR (zb zo)).2.2.2.1).2.2.1,()))) (Expr.name (nth x8 ZR (zb zo)).2.2.2.1) (Expr.kids (nth x8 ZR (zb zo)).2.2.2.1)) ([61]:zf) (Expr.mk (Expr.kind (nth x8 ZR (zb zo)).2.2.2.2.1) ((Expr.num (nth x8 ZR (zb zo)).2.2.2.2.1).1,((Expr.num (nth x8 ZR (zb zo)).2.2.2.2.1).2.1,((Expr.num (nth x8 ZR (zb zo)).2.2.2.2.1).2.2.1,()))) (Expr.name (nth x8 ZR (zb zo)).2.2.2.2.1) (Expr.kids (nth x8 ZR (zb zo)).2.2.2.2.1))) fun r5 =>
 .zd (((List.length (cat (cat (cat (cat ([114,117,108,101,32]:zf) (nth r3 (nth x8 ZR (zb zo)).2.1 (zb .str))) ([32]:zf)) (nth x8 ZR (zb zo)).1) r4))+r5.length)≤(4611686018427387904:Nat)) <|
 .zd (zh pP.length (0:Nat) pP.length pP.length) <|
 .zd (pP.length=pP.length) <|
 T.bind (qk (cat (cat (cat (cat (cat ([114,117,108,101,32]:zf) (nth r3 (nth x8 ZR (zb zo)).2.1 (zb .str))) ([32]:zf)) (nth x8 ZR (zb zo)).1) r4) r5) () pP) fun(r6,w3,xs10) =>
 .zd (zh xs10.length (0:Nat) xs10.length xs10.length) <|
 .zd (xs10.length=xs10.length) <|
 .ret (.inl ((zt (ZR+1)),((),xs10))))
  (.zd (zh pP.length (0:Nat) pP.length pP.length) <|
 .zd (pP.length=pP.length) <|
 .ret (.inr ((),pP)))
def rH x8 x9 s:=T.loop (ko x8 x9) s
def iZ(f:Form):T zf :=
 .zd (zh (0:Nat) (0:Nat) (0:Nat) (0:Nat)) <|
 .zd ((0:Nat)=(0:Nat)) <|
 T.bind (sH f f.1 (f.1.length:Int) ((0:Int),((),([]:List Int)))) fun(v1,zR) =>
 .zd (zh zR.length (0:Nat) zR.length zR.length) <|
 .zd (zR.length=zR.length) <|
 T.bind (rX f f.2.1 (f.2.1.length:Int) ((0:Int),((),zR))) fun(v3,je) =>
 .zd (zh je.length (0:Nat) je.length je.length) <|
 .zd (je.length=je.length) <|
 T.bind (sM f (f.2.2.1.length:Int) ((0:Int),((),je))) fun(v5,eA) =>
 .zd (zh eA.length (0:Nat) eA.length eA.length) <|
 .zd (eA.length=eA.length) <|
 T.bind (rH f.2.2.2.2.1 (f.2.2.2.2.1.length:Int) ((0:Int),((),eA))) fun(v7,Wz) =>
 .zd (zh Wz.length (0:Nat) Wz.length Wz.length) <|
 .zd (Wz.length=Wz.length) <|
 T.bind (nS () Wz) fun(r7,w4) =>
 .ret r7
def Xg(f:Form):T Bool :=
 T.bind (lL f) fun r =>
 .ite r
  (T.bind (eX f) fun r1 =>
 .ite r1
  (T.bind (eQ f) fun r2 =>
 .ite r2
  (T.bind (iZ f) fun r3 =>
 .ret (decide ((r3.length:Int)≤(16384:Int))))
  (.ret false))
  (.ret false))
  (.ret false)
def kH(f1:Form)(x:(List Switch))(x1:Int):(Int×(List zf))→T ((Int×(List zf))⊕((List zf)))
 | (x2,xs) =>
 .ite (decide (x2<x1))
  (.zd (zi x2 x.length) <|
 .zd (xC xs.length xs.length (0:Nat) xs.length xs.length (1:Nat) (16:Nat)) <|
 .zd (zh (xs.length+(1:Nat)) (0:Nat) (xs.length+(1:Nat)) (List.length (xs++([(nth x x2 (zb zW)).1]:List zf)))) <|
 .zd ((xs.length+(1:Nat))=(List.length (xs++([(nth x x2 (zb zW)).1]:List zf)))) <|
 .ret (.inl ((zt (x2+1)),(xs++([(nth x x2 (zb zW)).1]:List zf)))))
  (.zd (zh xs.length (0:Nat) xs.length xs.length) <|
 .zd (xs.length=xs.length) <|
 .ret (.inr xs))
def rD f1 x x1 s:=T.loop (kH f1 x x1) s
def ke(f2:Form)(x3:(List Param))(x4:Int):(Int×(List zf))→T ((Int×(List zf))⊕((List zf)))
 | (x5,zR) =>
 .ite (decide (x5<x4))
  (.zd (zi x5 x3.length) <|
 .zd (xC zR.length zR.length (0:Nat) zR.length zR.length (1:Nat) (16:Nat)) <|
 .zd (zh (zR.length+(1:Nat)) (0:Nat) (zR.length+(1:Nat)) (List.length (zR++([(nth x3 x5 (zb zX)).1]:List zf)))) <|
 .zd ((zR.length+(1:Nat))=(List.length (zR++([(nth x3 x5 (zb zX)).1]:List zf)))) <|
 .ret (.inl ((zt (x5+1)),(zR++([(nth x3 x5 (zb zX)).1]:List zf)))))
  (.zd (zh zR.length (0:Nat) zR.length zR.length) <|
 .zd (zR.length=zR.length) <|
 .ret (.inr zR))
def si f2 x3 x4 s:=T.loop (ke f2 x3 x4) s
def kf(f3:Form)(x6:(List ri))(x7:Int):(Int×(List zf))→T ((Int×(List zf))⊕((List zf)))
 | (x8,vb) =>
 .ite (decide (x8<x7))
  (.zd (zi x8 x6.length) <|
 .zd (xC vb.length vb.length (0:Nat) vb.length vb.length (1:Nat) (16:Nat)) <|
 .zd (zh (vb.length+(1:Nat)) (0:Nat) (vb.length+(1:Nat)) (List.length (vb++([(nth x6 x8 (zb qu)).1]:List zf)))) <|
 .zd ((vb.length+(1:Nat))=(List.length (vb++([(nth x6 x8 (zb qu)).1]:List zf)))) <|
 .ret (.inl ((zt (x8+1)),(vb++([(nth x6 x8 (zb qu)).1]:List zf)))))
  (.zd (zh vb.length (0:Nat) vb.length vb.length) <|
 .zd (vb.length=vb.length) <|
 .ret (.inr vb))
def rK f3 x6 x7 s:=T.loop (kf f3 x6 x7) s
def kF(f4:Form)(x9:(List Field))(ZR:Int):(Int×(List zf))→T ((Int×(List zf))⊕((List zf)))
 | (x11,xs6) =>
 .ite (decide (x11<ZR))
  (.zd (zi x11 x9.length) <|
 .zd (xC xs6.length xs6.length (0:Nat) xs6.length xs6.length (1:Nat) (16:Nat)) <|
 .zd (zh (xs6.length+(1:Nat)) (0:Nat) (xs6.length+(1:Nat)) (List.length (xs6++([(nth x9 x11 (zb q7)).1]:List zf)))) <|
 .zd ((xs6.length+(1:Nat))=(List.length (xs6++([(nth x9 x11 (zb q7)).1]:List zf)))) <|
 .ret (.inl ((zt (x11+1)),(xs6++([(nth x9 x11 (zb q7)).1]:List zf)))))
  (.zd (zh xs6.length (0:Nat) xs6.length xs6.length) <|
 .zd (xs6.length=xs6.length) <|
 .ret (.inr xs6))
def pT f4 x9 ZR s:=T.loop (kF f4 x9 ZR) s
def kA(f5:Form)(x12:(List uX))(x13:Int):(Int×(List zf))→T ((Int×(List zf))⊕((List zf)))
 | (x14,eA) =>
 .ite (decide (x14<x13))
  (.zd (zi x14 x12.length) <|
 .zd (xC eA.length eA.length (0:Nat) eA.length eA.length (1:Nat) (16:Nat)) <|
 .zd (zh (eA.length+(1:Nat)) (0:Nat) (eA.length+(1:Nat)) (List.length (eA++([(nth x12 x14 (zb zo)).1]:List zf)))) <|
 .zd ((eA.length+(1:Nat))=(List.length (eA++([(nth x12 x14 (zb zo)).1]:List zf)))) <|
 .ret (.inl ((zt (x14+1)),(eA++([(nth x12 x14 (zb zo)).1]:List zf)))))
  (.zd (zh eA.length (0:Nat) eA.length eA.length) <|
 .zd (eA.length=eA.length) <|
 .ret (.inr eA))
def rL f5 x12 x13 s:=T.loop (kA f5 x12 x13) s
def kD(x15:(List Check))(x16:Int):(Int×(List zf))→T ((Int×(List zf))⊕((List zf)))
 | (x17,xs10) =>
 .ite (decide (x17<x16))
  (.zd (zi x17 x15.length) <|
 .zd (xC xs10.length xs10.length (0:Nat) xs10.length xs10.length (1:Nat) (16:Nat)) <|
 .zd (zh (xs10.length+(1:Nat)) (0:Nat) (xs10.length+(1:Nat)) (List.length (xs10++([(nth x15 x17 (zb zn)).1]:List zf)))) <|
 .zd ((xs10.length+(1:Nat))=(List.length (xs10++([(nth x15 x17 (zb zn)).1]:List zf)))) <|
 .ret (.inl ((zt (x17+1)),(xs10++([(nth x15 x17 (zb zn)).1]:List zf)))))
  (.zd (zh xs10.length (0:Nat) xs10.length xs10.length) <|
 .zd (xs10.length=xs10.length) <|
 .ret (.inr xs10))
def sx x15 x16 s:=T.loop (kD x15 x16) s
def lM(f:Form):T (List zf) :=
 .zd (zh (0:Nat) (0:Nat) (0:Nat) (0:Nat)) <|
 .zd ((0:Nat)=(0:Nat)) <|
 T.bind (rD f f.1 (f.1.length:Int) ((0:Int),([]:List zf))) fun zA =>
 .zd (zh zA.length (0:Nat) zA.length zA.length) <|
 .zd (zA.length=zA.length) <|
 T.bind (si f f.2.1 (f.2.1.length:Int) ((0:Int),zA)) fun qH =>
 .zd (zh qH.length (0:Nat) qH.length qH.length) <|
 .zd (qH.length=qH.length) <|
 T.bind (rK f f.2.2.1 (f.2.2.1.length:Int) ((0:Int),qH)) fun je =>
 .zd (zh je.length (0:Nat) je.length je.length) <|
 .zd (je.length=je.length) <|
 T.bind (pT f f.2.2.2.1 (f.2.2.2.1.length:Int) ((0:Int),je)) fun vI =>
 .zd (zh vI.length (0:Nat) vI.length vI.length) <|
 .zd (vI.length=vI.length) <|
 T.bind (rL f f.2.2.2.2.1 (f.2.2.2.2.1.length:Int) ((0:Int),vI)) fun pP =>
 .zd (zh pP.length (0:Nat) pP.length pP.length) <|
 .zd (pP.length=pP.length) <|
 T.bind (sx f.2.2.2.2.2.1 (f.2.2.2.2.2.1.length:Int) ((0:Int),pP)) fun Wz =>
 .zd (Wz.length=Wz.length) <|
 .ret (List.drop (0:Nat) (List.take ((0:Nat)+Wz.length) Wz))
def tT:List zf→List zf→zf×Bool
 | _,[]=>([],false)
 | seen,x::r=>if x∈seen then(x,true)else tT (seen++[x]) r
def lN(l:List zf):T (zf×Bool):=.zd (List.length l*16≤140737488351232∧∀ s∈l,List.length s≤9223372036854775807)<|.ret (tT [] l)
def xV(x:Switch)(c1:zf):T Bool :=
 .ret (zH x.1 c1)
def wE(s:zf)(c1:Form):T Bool :=
 .ite (!(zH s ([]:zf)))
  (T.bind (qA c1.1 (fun z0=>xV z0 s)) fun r =>
 .ret (!r))
  (.ret false)
def qc(s1:(List zf))(f:zf→T Bool)(x:Int):Int→T (Int⊕(Unit⊕Int))
 | x1 =>
 .ite (decide (x1<x))
  (.zd (zi x1 s1.length) <|
 T.bind (f (nth s1 x1 (zb .str))) fun r =>
 .ite r
  (.ret (.inr (.inr x1)))
  (.ret (.inl (zt (x1+1)))))
  (.ret (.inr (.inl ())))
def wV s1 f x s:=T.loop (qc s1 f x) s
def ql(s:(List zf))(f:zf→T Bool):T Int :=
 T.bind (wV s f (s.length:Int) (0:Int)) <|
 Sum.elim (fun _ =>
 .ret (-1:Int))
  (fun x2 =>
 .ret x2)
def vt(f1:Form)(x:(List ri))(x1:Int):(Int×(List zf))→T ((Int×(List zf))⊕((List zf)))
 | (x2,xs) =>
 .ite (decide (x2<x1))
  (.zd (zi x2 x.length) <|
 .zd (xC xs.length xs.length (0:Nat) xs.length xs.length (1:Nat) (16:Nat)) <|
 .zd (zh (xs.length+(1:Nat)) (0:Nat) (xs.length+(1:Nat)) (List.length (xs++([(nth x x2 (zb qu)).2.1]:List zf)))) <|
 .zd ((xs.length+(1:Nat))=(List.length (xs++([(nth x x2 (zb qu)).2.1]:List zf)))) <|
 .ret (.inl ((zt (x2+1)),(xs++([(nth x x2 (zb qu)).2.1]:List zf)))))
  (.zd (zh xs.length (0:Nat) xs.length xs.length) <|
 .zd (xs.length=xs.length) <|
 .ret (.inr xs))
def ik f1 x x1 s:=T.loop (vt f1 x x1) s
def vD(f2:Form)(x3:(List uX))(x4:Int):(Int×(List zf))→T ((Int×(List zf))⊕((List zf)))
 | (x5,zR) =>
 .ite (decide (x5<x4))
  (.zd (zi x5 x3.length) <|
 .zd (xC zR.length zR.length (0:Nat) zR.length zR.length (1:Nat) (16:Nat)) <|
 .zd (zh (zR.length+(1:Nat)) (0:Nat) (zR.length+(1:Nat)) (List.length (zR++([(nth x3 x5 (zb zo)).2.2.1]:List zf)))) <|
 .zd ((zR.length+(1:Nat))=(List.length (zR++([(nth x3 x5 (zb zo)).2.2.1]:List zf)))) <|
 .ret (.inl ((zt (x5+1)),(zR++([(nth x3 x5 (zb zo)).2.2.1]:List zf)))))
  (.zd (zh zR.length (0:Nat) zR.length zR.length) <|
 .zd (zR.length=zR.length) <|
 .ret (.inr zR))
def iC f2 x3 x4 s:=T.loop (vD f2 x3 x4) s
def yY(f:Form):T (zf×Bool) :=
 .zd (zh (0:Nat) (0:Nat) (0:Nat) (0:Nat)) <|
 .zd ((0:Nat)=(0:Nat)) <|
 T.bind (ik f f.2.2.1 (f.2.2.1.length:Int) ((0:Int),([]:List zf))) fun zA =>
 .zd (zh zA.length (0:Nat) zA.length zA.length) <|
 .zd (zA.length=zA.length) <|
 T.bind (iC f f.2.2.2.2.1 (f.2.2.2.2.1.length:Int) ((0:Int),zA)) fun qH =>
 .zd (qH.length=qH.length) <|
 T.bind (ql (List.drop (0:Nat) (List.take ((0:Nat)+qH.length) qH)) (fun z0=>wE z0 f)) fun i =>
 .ite (decide (i<(0:Int)))
  (.ret (([]:zf),false))
  (.zd (zi i qH.length) <|
 .zd (iM qH.length qH.length ((0:Nat)+(Int.toNat i)) qH.length) <|
 .ret ((xm qH ((0:Nat)+(Int.toNat i)) (zb .str)),true))
def qt(s1:(List zf))(v1:zf)(x:Int):Int→T (Int⊕(Unit⊕Int))
 | x1 =>
 .ite (decide (x1<x))
  (.zd (zi x1 s1.length) <|
 .ite (zH v1 (nth s1 x1 (zb .str)))
  (.ret (.inr (.inr x1)))
  (.ret (.inl (zt (x1+1)))))
  (.ret (.inr (.inl ())))
def vN s1 v1 x s:=T.loop (qt s1 v1 x) s
def qx(s:(List zf))(v:zf):T Int :=
 T.bind (vN s v (s.length:Int) (0:Int)) <|
 Sum.elim (fun _ =>
 .ret (-1:Int))
  (fun x2 =>
 .ret x2)
def qQ(s:(List zf))(v:zf):T Bool :=
 T.bind (qx s v) fun r =>
 .ret (decide ((0:Int)≤r))
def yT(ji:AM.Expr→(List zf)→T (List zf))(x1:(List AM.Expr))(x2:Int):(Int×(List zf))→T ((Int×(List zf))⊕((List zf)))
 | (x3,zR) =>
 .ite (decide (x3<x2))
  (.zd (zi x3 x1.length) <|
 .zd (zh zR.length (0:Nat) zR.length zR.length) <|
 .zd (zR.length=zR.length) <|
 T.bind (ji (nth x1 x3 (zb .expr)) zR) fun l1 =>
 .zd (zh l1.length (0:Nat) l1.length l1.length) <|
 .zd (l1.length=l1.length) <|
 .ret (.inl ((zt (x3+1)),l1)))
  (.zd (zh zR.length (0:Nat) zR.length zR.length) <|
 .zd (zR.length=zR.length) <|
 .ret (.inr zR))
def pC ji x1 x2 s:=T.loop (yT ji x1 x2) s
def bM(ji:AM.Expr→(List zf)→T (List zf))(e:AM.Expr)(l:(List zf)):T (List zf) :=
 T.bind (T.bind (.ite ((Expr.kind e)==2)
  (.zd (l.length=l.length) <|
 T.bind (qQ (List.drop (0:Nat) (List.take ((0:Nat)+l.length) l)) (Expr.name e)) fun r =>
 .zd (zh l.length (0:Nat) l.length l.length) <|
 .zd (l.length=l.length) <|
 .ret ((!r),l))
  (.zd (zh l.length (0:Nat) l.length l.length) <|
 .zd (l.length=l.length) <|
 .ret (false,l)):T ((Bool×(List zf)))) fun(x,xs) =>
 .ite x
  (.zd (xC xs.length xs.length (0:Nat) xs.length xs.length (1:Nat) (16:Nat)) <|
 .zd (zh (xs.length+(1:Nat)) (0:Nat) (xs.length+(1:Nat)) (List.length (xs++([(Expr.name e)]:List zf)))) <|
 .zd ((xs.length+(1:Nat))=(List.length (xs++([(Expr.name e)]:List zf)))) <|
 .ret (xs++([(Expr.name e)]:List zf)))
  (.zd (zh xs.length (0:Nat) xs.length xs.length) <|
 .zd (xs.length=xs.length) <|
 .ret xs):T ((List zf))) fun zA =>
 .zd (zh zA.length (0:Nat) zA.length zA.length) <|
 .zd (zA.length=zA.length) <|
 T.bind (pC ji (Expr.kids e) ((Expr.kids e).length:Int) ((0:Int),zA)) fun qH =>
 .zd (zh qH.length (0:Nat) qH.length qH.length) <|
 .zd (qH.length=qH.length) <|
 .ret qH
def eP(e:AM.Expr)(l:(List zf)):T (List zf):=T.fix (fun F x=>bM (fun y0 y1=>F (y0,y1)) x.1 x.2) (e,l)
def y7(x1:(List AM.Expr))(x2:Int):(Int×(List zf))→T ((Int×(List zf))⊕((List zf)))
 | (x3,zR) =>
 .ite (decide (x3<x2))
  (.zd (zi x3 x1.length) <|
 .zd (zh zR.length (0:Nat) zR.length zR.length) <|
 .zd (zR.length=zR.length) <|
 T.bind (eP (nth x1 x3 (zb .expr)) zR) fun l1 =>
 .zd (zh l1.length (0:Nat) l1.length l1.length) <|
 .zd (l1.length=l1.length) <|
 .ret (.inl ((zt (x3+1)),l1)))
  (.zd (zh zR.length (0:Nat) zR.length zR.length) <|
 .zd (zR.length=zR.length) <|
 .ret (.inr zR))
def mo x1 x2 s:=T.loop (y7 x1 x2) s
def cJ(e:AM.Expr)(l:(List zf)):T (List zf) :=
 T.bind (T.bind (.ite ((Expr.kind e)==2)
  (.zd (l.length=l.length) <|
 T.bind (qQ (List.drop (0:Nat) (List.take ((0:Nat)+l.length) l)) (Expr.name e)) fun r =>
 .zd (zh l.length (0:Nat) l.length l.length) <|
 .zd (l.length=l.length) <|
 .ret ((!r),l))
  (.zd (zh l.length (0:Nat) l.length l.length) <|
 .zd (l.length=l.length) <|
 .ret (false,l)):T ((Bool×(List zf)))) fun(x,xs) =>
 .ite x
  (.zd (xC xs.length xs.length (0:Nat) xs.length xs.length (1:Nat) (16:Nat)) <|
 .zd (zh (xs.length+(1:Nat)) (0:Nat) (xs.length+(1:Nat)) (List.length (xs++([(Expr.name e)]:List zf)))) <|
 .zd ((xs.length+(1:Nat))=(List.length (xs++([(Expr.name e)]:List zf)))) <|
 .ret (xs++([(Expr.name e)]:List zf)))
  (.zd (zh xs.length (0:Nat) xs.length xs.length) <|
 .zd (xs.length=xs.length) <|
 .ret xs):T ((List zf))) fun zA =>
 .zd (zh zA.length (0:Nat) zA.length zA.length) <|
 .zd (zA.length=zA.length) <|
 T.bind (mo (Expr.kids e) ((Expr.kids e).length:Int) ((0:Int),zA)) fun qH =>
 .zd (zh qH.length (0:Nat) qH.length qH.length) <|
 .zd (qH.length=qH.length) <|
 .ret qH
def jL(e:AM.Expr):T (List zf) :=
 .zd (zh (0:Nat) (0:Nat) (0:Nat) (0:Nat)) <|
 .zd ((0:Nat)=(0:Nat)) <|
 T.bind (cJ e ([]:List zf)) fun xs =>
 .zd (xs.length=xs.length) <|
 .ret (List.drop (0:Nat) (List.take ((0:Nat)+xs.length) xs))
def w9(l:List (List zf)):T (List zf):=.zd (List.length l*24≤140737488351232∧List.length (List.flatten l)*16≤140737488355328∧l≠[])<|.ret (List.flatten l)
def wo(p:Param)(c1:zf):T Bool :=
 .ret (zH p.1 c1)
def vq(s:zf)(c1:(List zf))(c2:Form):T Bool :=
 T.bind (qQ c1 s) fun r =>
 .ite (!r)
  (T.bind (qE c2.2.1 (fun z0=>wo z0 s)) fun r1 =>
 .ret (!r1))
  (.ret false)
def uG(f1:Form)(kO:(List zf))(x:(List Check))(x1:Int):((List zf)×Int)→T (((List zf)×Int)⊕((List zf)))
 | (l,x2) =>
 .ite (decide (x2<x1))
  (.zd (zi x2 x.length) <|
 T.bind (jL (Expr.mk (Expr.kind (nth x x2 (zb zn)).2.2.2.1) ((Expr.num (nth x x2 (zb zn)).2.2.2.1).1,((Expr.num (nth x x2 (zb zn)).2.2.2.1).2.1,((Expr.num (nth x x2 (zb zn)).2.2.2.1).2.2.1,()))) (Expr.name (nth x x2 (zb zn)).2.2.2.1) (Expr.kids (nth x x2 (zb zn)).2.2.2.1))) fun r =>
 T.bind (jL (Expr.mk (Expr.kind (nth x x2 (zb zn)).2.2.2.2.1) ((Expr.num (nth x x2 (zb zn)).2.2.2.2.1).1,((Expr.num (nth x x2 (zb zn)).2.2.2.2.1).2.1,((Expr.num (nth x x2 (zb zn)).2.2.2.2.1).2.2.1,()))) (Expr.name (nth x x2 (zb zn)).2.2.2.2.1) (Expr.kids (nth x x2 (zb zn)).2.2.2.2.1))) fun r1 =>
 T.bind (w9 ([l,r,r1]:List (List zf))) fun l1 =>
 .ret (.inl (l1,(zt (x2+1)))))
  (.ret (.inr l))
def mN f1 kO x x1 s:=T.loop (uG f1 kO x x1) s
def uM(f2:Form)(nW:(List zf))(x3:(List uX))(x4:Int):((List zf)×Int)→T (((List zf)×Int)⊕((List zf)))
 | (l3,x5) =>
 .ite (decide (x5<x4))
  (.zd (zi x5 x3.length) <|
 T.bind (jL (Expr.mk (Expr.kind (nth x3 x5 (zb zo)).2.2.2.1) ((Expr.num (nth x3 x5 (zb zo)).2.2.2.1).1,((Expr.num (nth x3 x5 (zb zo)).2.2.2.1).2.1,((Expr.num (nth x3 x5 (zb zo)).2.2.2.1).2.2.1,()))) (Expr.name (nth x3 x5 (zb zo)).2.2.2.1) (Expr.kids (nth x3 x5 (zb zo)).2.2.2.1))) fun r2 =>
 T.bind (jL (Expr.mk (Expr.kind (nth x3 x5 (zb zo)).2.2.2.2.1) ((Expr.num (nth x3 x5 (zb zo)).2.2.2.2.1).1,((Expr.num (nth x3 x5 (zb zo)).2.2.2.2.1).2.1,((Expr.num (nth x3 x5 (zb zo)).2.2.2.2.1).2.2.1,()))) (Expr.name (nth x3 x5 (zb zo)).2.2.2.2.1) (Expr.kids (nth x3 x5 (zb zo)).2.2.2.2.1))) fun r3 =>
 T.bind (w9 ([l3,r2,r3]:List (List zf))) fun l4 =>
 .ret (.inl (l4,(zt (x5+1)))))
  (.ret (.inr l3))
def mY f2 nW x3 x4 s:=T.loop (uM f2 nW x3 x4) s
def cC(f:Form)(fields:(List zf)):T (zf×Bool) :=
 T.bind (mN f fields f.2.2.2.2.2.1 (f.2.2.2.2.2.1.length:Int) (([]:List zf),(0:Int))) fun l2 =>
 T.bind (mY f fields f.2.2.2.2.1 (f.2.2.2.2.1.length:Int) (l2,(0:Int))) fun l5 =>
 T.bind (ql l5 (fun z0=>vq z0 fields f)) fun i =>
 .ite (decide (i<(0:Int)))
  (.ret (([]:zf),false))
  (.zd (zi i l5.length) <|
 .ret ((nth l5 i (zb .str)),true))
def wM(name:zf)(c1:(List zf)):T Bool :=
 T.bind (qQ c1 name) fun r =>
 .ret r
def xS(s:(List zf))(f:zf→T Bool):T Bool :=
 T.bind (ql s f) fun r =>
 .ret (decide ((0:Int)≤r))
def gD(e:AM.Expr)(fields:(List zf)):T Bool :=
 T.bind (jL e) fun r =>
 T.bind (xS r (fun z0=>wM z0 fields)) fun r1 =>
 .ret r1
def xL(qV:AM.Expr→(List zf)→T Bool)(k:AM.Expr)(c1:(List zf)):T Bool :=
 T.bind (qV k c1) fun r =>
 .ret (!r)
def xA(qV:AM.Expr→(List zf)→T Bool)(s1:(List AM.Expr))(f:AM.Expr→T Bool)(x:Int):Int→T (Int⊕(Unit⊕Int))
 | x1 =>
 .ite (decide (x1<x))
  (.zd (zi x1 s1.length) <|
 T.bind (f (nth s1 x1 (zb .expr))) fun r =>
 .ite r
  (.ret (.inr (.inr x1)))
  (.ret (.inl (zt (x1+1)))))
  (.ret (.inr (.inl ())))
def jB qV s1 f x s:=T.loop (xA qV s1 f x) s
def wL(qV:AM.Expr→(List zf)→T Bool)(s:(List AM.Expr))(f:AM.Expr→T Bool):T Int :=
 T.bind (jB qV s f (s.length:Int) (0:Int)) <|
 Sum.elim (fun _ =>
 .ret (-1:Int))
  (fun x2 =>
 .ret x2)
def wc(qV:AM.Expr→(List zf)→T Bool)(s:(List AM.Expr))(f:AM.Expr→T Bool):T Bool :=
 T.bind ((wL qV) s f) fun r =>
 .ret (decide ((0:Int)≤r))
def bm(qV:AM.Expr→(List zf)→T Bool)(e:AM.Expr)(fields:(List zf)):T Bool :=
 T.bind (.ite (((Expr.kids e).length:Int)==(2:Int))
  (.zd (zi (0:Int) (Expr.kids e).length) <|
 .zd (zi (1:Int) (Expr.kids e).length) <|
 T.bind (.ite ((Expr.kind e)==5)
  (T.bind (gD (nth (Expr.kids e) (0:Int) (zb .expr)) fields) fun r =>
 .ite r
  (T.bind (gD (nth (Expr.kids e) (1:Int) (zb .expr)) fields) fun r1 =>
 .ite r1
  (.ret (true,((nth (Expr.kids e) (0:Int) (zb .expr)),(nth (Expr.kids e) (1:Int) (zb .expr)))))
  (.ite ((Expr.kind e)==6)
  (T.bind (gD (nth (Expr.kids e) (1:Int) (zb .expr)) fields) fun r2 =>
 .ret (r2,((nth (Expr.kids e) (0:Int) (zb .expr)),(nth (Expr.kids e) (1:Int) (zb .expr)))))
  (.ret (false,((nth (Expr.kids e) (0:Int) (zb .expr)),(nth (Expr.kids e) (1:Int) (zb .expr)))))))
  (.ite ((Expr.kind e)==6)
  (T.bind (gD (nth (Expr.kids e) (1:Int) (zb .expr)) fields) fun r3 =>
 .ret (r3,((nth (Expr.kids e) (0:Int) (zb .expr)),(nth (Expr.kids e) (1:Int) (zb .expr)))))
  (.ret (false,((nth (Expr.kids e) (0:Int) (zb .expr)),(nth (Expr.kids e) (1:Int) (zb .expr)))))))
  (.ite ((Expr.kind e)==6)
  (T.bind (gD (nth (Expr.kids e) (1:Int) (zb .expr)) fields) fun r4 =>
 .ret (r4,((nth (Expr.kids e) (0:Int) (zb .expr)),(nth (Expr.kids e) (1:Int) (zb .expr)))))
  (.ret (false,((nth (Expr.kids e) (0:Int) (zb .expr)),(nth (Expr.kids e) (1:Int) (zb .expr)))))):T ((Bool×AM.Expr×AM.Expr))) fun(x,v,v1) =>
 .ite x
  (.ret (.inr false))
  (.ret (.inl ())))
  (.ret (.inl ())):T (Unit⊕Bool)) <|
 Sum.elim (fun _ =>
 T.bind ((wc qV) (Expr.kids e) (fun z0=>(xL qV) z0 fields)) fun r5 =>
 .ret (!r5))
  (fun x1 =>
 .ret x1)
def br(e:AM.Expr)(fields:(List zf)):T Bool:=T.fix (fun F x=>bm (fun y0 y1=>F (y0,y1)) x.1 x.2) (e,fields)
def jk(f1:Form)(x:(List Field))(x1:Int):(Int×(List zf))→T ((Int×(List zf))⊕((List zf)))
 | (x2,xs) =>
 .ite (decide (x2<x1))
  (.zd (zi x2 x.length) <|
 .zd (xC xs.length xs.length (0:Nat) xs.length xs.length (1:Nat) (16:Nat)) <|
 .zd (zh (xs.length+(1:Nat)) (0:Nat) (xs.length+(1:Nat)) (List.length (xs++([(nth x x2 (zb q7)).1]:List zf)))) <|
 .zd ((xs.length+(1:Nat))=(List.length (xs++([(nth x x2 (zb q7)).1]:List zf)))) <|
 .ret (.inl ((zt (x2+1)),(xs++([(nth x x2 (zb q7)).1]:List zf)))))
  (.zd (zh xs.length (0:Nat) xs.length xs.length) <|
 .zd (xs.length=xs.length) <|
 .ret (.inr xs))
def oX f1 x x1 s:=T.loop (jk f1 x x1) s
def ja(x3:(List uX))(x4:Int):(Int×(List zf))→T ((Int×(List zf))⊕((List zf)⊕(Int×zf×(List zf))))
 | (x5,zR) =>
 .ite (decide (x5<x4))
  (.zd (zi x5 x3.length) <|
 T.bind (.zd (zR.length=zR.length) <|
 T.bind (br (Expr.mk (Expr.kind (nth x3 x5 (zb zo)).2.2.2.1) ((Expr.num (nth x3 x5 (zb zo)).2.2.2.1).1,((Expr.num (nth x3 x5 (zb zo)).2.2.2.1).2.1,((Expr.num (nth x3 x5 (zb zo)).2.2.2.1).2.2.1,()))) (Expr.name (nth x3 x5 (zb zo)).2.2.2.1) (Expr.kids (nth x3 x5 (zb zo)).2.2.2.1)) (List.drop (0:Nat) (List.take ((0:Nat)+zR.length) zR))) fun r2 =>
 .ite (!r2)
  (.zd (zh zR.length (0:Nat) zR.length zR.length) <|
 .zd (zR.length=zR.length) <|
 .ret (true,(zR,(nth x3 x5 (zb zo)))))
  (.zd (zR.length=zR.length) <|
 T.bind (br (Expr.mk (Expr.kind (nth x3 x5 (zb zo)).2.2.2.2.1) ((Expr.num (nth x3 x5 (zb zo)).2.2.2.2.1).1,((Expr.num (nth x3 x5 (zb zo)).2.2.2.2.1).2.1,((Expr.num (nth x3 x5 (zb zo)).2.2.2.2.1).2.2.1,()))) (Expr.name (nth x3 x5 (zb zo)).2.2.2.2.1) (Expr.kids (nth x3 x5 (zb zo)).2.2.2.2.1)) (List.drop (0:Nat) (List.take ((0:Nat)+zR.length) zR))) fun r3 =>
 .zd (zh zR.length (0:Nat) zR.length zR.length) <|
 .zd (zR.length=zR.length) <|
 .ret ((!r3),(zR,(nth x3 x5 (zb zo))))):T ((Bool×(List zf)×uX))) fun(x6,qH,v) =>
 .ite x6
  (.zd (qH.length=qH.length) <|
 .ret (.inr (.inr ((6:Int),(v.1,qH)))))
  (.zd (zh qH.length (0:Nat) qH.length qH.length) <|
 .zd (qH.length=qH.length) <|
 .ret (.inl ((zt (x5+1)),qH))))
  (.zd (zR.length=zR.length) <|
 .ret (.inr (.inl zR)))
def p7 x3 x4 s:=T.loop (ja x3 x4) s
def eH(f:Form):T (Int×zf) :=
 T.bind (Xg f) fun r =>
 .ite (!r)
  (.ret ((2:Int),([]:zf)))
  (.ite ((decide ((64:Int)<(f.2.2.2.1.length:Int)))||(decide ((64:Int)<(f.2.2.2.2.1.length:Int))))
  (.ret ((3:Int),([]:zf)))
  (T.bind (lM f) fun r1 =>
 T.bind (lN r1) fun(name,ok) =>
 .ite ok
  (.ret ((5:Int),name))
  (T.bind (yY f) fun(name1,ok1) =>
 .ite ok1
  (.ret ((5:Int),name1))
  (.zd (zh (0:Nat) (0:Nat) (0:Nat) (0:Nat)) <|
 .zd ((0:Nat)=(0:Nat)) <|
 T.bind (oX f f.2.2.2.1 (f.2.2.2.1.length:Int) ((0:Int),([]:List zf))) fun zA =>
 .zd (zA.length=zA.length) <|
 T.bind (cC f (List.drop (0:Nat) (List.take ((0:Nat)+zA.length) zA))) fun(name2,ok2) =>
 .ite ok2
  (.ret ((5:Int),name2))
  (.zd (zh zA.length (0:Nat) zA.length zA.length) <|
 .zd (zA.length=zA.length) <|
 T.bind (p7 f.2.2.2.2.1 (f.2.2.2.2.1.length:Int) ((0:Int),zA)) <|
 Sum.elim (fun vb =>
 .ret ((0:Int),([]:zf)))
  (fun(x7,x8,je) =>
 .ret (x7,x8)))))))
def wI(a:Rat):T Bool :=
 T.bind (rf a) fun r =>
 .ite (!r)
  (.ret true)
  (T.bind (uS a) fun r1 =>
 .ret r1)
def xI(s1:(List Rat))(f:Rat→T Bool)(x:Int):Int→T (Int⊕(Unit⊕Int))
 | x1 =>
 .ite (decide (x1<x))
  (.zd (zi x1 s1.length) <|
 T.bind (f (nth s1 x1 (zb zJ))) fun r =>
 .ite r
  (.ret (.inr (.inr x1)))
  (.ret (.inl (zt (x1+1)))))
  (.ret (.inr (.inl ())))
def kC s1 f x s:=T.loop (xI s1 f x) s
def wZ(s:(List Rat))(f:Rat→T Bool):T Int :=
 T.bind (kC s f (s.length:Int) (0:Int)) <|
 Sum.elim (fun _ =>
 .ret (-1:Int))
  (fun x2 =>
 .ret x2)
def xg(s:(List Rat))(f:Rat→T Bool):T Bool :=
 T.bind (wZ s f) fun r =>
 .ret (decide ((0:Int)≤r))
def kI(x:(List Field))(x1:Int):(Int×(List zf))→T ((Int×(List zf))⊕((List zf)))
 | (x2,xs) =>
 .ite (decide (x2<x1))
  (.zd (zi x2 x.length) <|
 .zd (xC xs.length xs.length (0:Nat) xs.length xs.length (1:Nat) (16:Nat)) <|
 .zd (zh (xs.length+(1:Nat)) (0:Nat) (xs.length+(1:Nat)) (List.length (xs++([(nth x x2 (zb q7)).1]:List zf)))) <|
 .zd ((xs.length+(1:Nat))=(List.length (xs++([(nth x x2 (zb q7)).1]:List zf)))) <|
 .ret (.inl ((zt (x2+1)),(xs++([(nth x x2 (zb q7)).1]:List zf)))))
  (.zd (zh xs.length (0:Nat) xs.length xs.length) <|
 .zd (xs.length=xs.length) <|
 .ret (.inr xs))
def se x x1 s:=T.loop (kI x x1) s
def gF(f:Form):T (List zf) :=
 .zd (zh (0:Nat) (0:Nat) (0:Nat) (0:Nat)) <|
 .zd ((0:Nat)=(0:Nat)) <|
 T.bind (se f.2.2.2.1 (f.2.2.2.1.length:Int) ((0:Int),([]:List zf))) fun zA =>
 .zd (zA.length=zA.length) <|
 .ret (List.drop (0:Nat) (List.take ((0:Nat)+zA.length) zA))
def uC(s:(List Rat)):T (List Rat) :=
 .zd (s=[]→∀ r,T.leads (.zd (xC (0:Nat) (0:Nat) (0:Nat) (0:Nat) (0:Nat) s.length (56:Nat)) <|
 .zd (((0:Nat)+s.length)=((0:Nat)+s.length)) <|
 .ret (List.drop (0:Nat) (List.take ((0:Nat)+((0:Nat)+s.length)) s)):T _) r→T.leads (.ret ([]:List Rat):T _) r) <|
 .zd (xC (0:Nat) (0:Nat) (0:Nat) (0:Nat) (0:Nat) s.length (56:Nat)) <|
 .zd (((0:Nat)+s.length)=((0:Nat)+s.length)) <|
 .ret (List.drop (0:Nat) (List.take ((0:Nat)+((0:Nat)+s.length)) s))
def dG(x:(List Param))(x1:Int):(Int×((List Rat)×Unit)×((List zf)×(List Rat)×Unit)×(List zf)×(List zf)×(List zf))→T ((Int×((List Rat)×Unit)×((List zf)×(List Rat)×Unit)×(List zf)×(List zf)×(List zf))⊕((((List Rat)×Unit)×((List zf)×(List Rat)×Unit)×(List zf)×(List zf)×(List zf))))
 | (x2,v,v1,xs,zA,zR) =>
 .ite (decide (x2<x1))
  (.zd (zi x2 x.length) <|
 .zd (xC zR.length zR.length (0:Nat) zR.length zR.length (1:Nat) (16:Nat)) <|
 .zd (zh xs.length (0:Nat) xs.length xs.length) <|
 .zd (zh zA.length (0:Nat) zA.length zA.length) <|
 .zd (zh (zR.length+(1:Nat)) (0:Nat) (zR.length+(1:Nat)) (List.length (zR++([(nth x x2 (zb zX)).1]:List zf)))) <|
 .zd (xs.length=xs.length) <|
 .zd (zA.length=zA.length) <|
 .zd ((zR.length+(1:Nat))=(List.length (zR++([(nth x x2 (zb zX)).1]:List zf)))) <|
 .ret (.inl ((zt (x2+1)),((v.1,()),((v1.1,(v1.2.1,())),(xs,(zA,(zR++([(nth x x2 (zb zX)).1]:List zf)))))))))
  (.zd (zh xs.length (0:Nat) xs.length xs.length) <|
 .zd (zh zA.length (0:Nat) zA.length zA.length) <|
 .zd (zh zR.length (0:Nat) zR.length zR.length) <|
 .zd (xs.length=xs.length) <|
 .zd (zA.length=zA.length) <|
 .zd (zR.length=zR.length) <|
 .ret (.inr ((v.1,()),((v1.1,(v1.2.1,())),(xs,(zA,zR))))))
def Vs x x1 s:=T.loop (dG x x1) s
def pW(f:Form)(params:(List Rat)):T zK :=
 T.bind (gF f) fun r =>
 T.bind (uC params) fun r1 =>
 .zd (zh (0:Nat) (0:Nat) (0:Nat) (0:Nat)) <|
 .zd (zh (0:Nat) (0:Nat) (0:Nat) (0:Nat)) <|
 .zd (zh (0:Nat) (0:Nat) (0:Nat) (0:Nat)) <|
 .zd ((0:Nat)=(0:Nat)) <|
 .zd ((0:Nat)=(0:Nat)) <|
 .zd ((0:Nat)=(0:Nat)) <|
 T.bind (Vs f.2.1 (f.2.1.length:Int) ((0:Int),((([]:List Rat),()),((r,(r1,())),(([]:List zf),(([]:List zf),([]:List zf))))))) fun(v2,v3,qH,vb,je) =>
 .zd (je.length=je.length) <|
 .ret (v3.1,((List.drop (0:Nat) (List.take ((0:Nat)+je.length) je)),(v3.2.1,())))
def kM(s:Switch)(c1:zf):T Bool :=
 .ret (zH s.1 c1)
def tm(f:Form)(on:(List Bool))(when:zf):T Bool :=
 T.bind (qm f.1 (fun z0=>kM z0 when)) fun i =>
 .zd (((zH when ([]:zf))=false)→(((decide ((0:Int)≤i))=true)→(zi i on.length))) <|
 .ret ((zH when ([]:zf))||((decide ((0:Int)≤i))&&(nth on i (zb .bool))))
def uY(n:Int):T Rat :=
 T.bind (jP (bif (decide (n<(0:Int)))then(zw ((0:Int)-(zw n)))else(zw n))) fun r =>
 T.bind (jP (1:Int)) fun r1 =>
 .ret ((decide (n<(0:Int))),(r,(r1,())))
def tx(val:(List Rat))(i:Int):T Rat :=
 .ite ((decide (i<(0:Int)))||(decide ((val.length:Int)≤i)))
  (T.bind (uY (0:Int)) fun r =>
 .ret r)
  (.zd (zi i val.length) <|
 T.bind (xQ (nth val i (zb zJ))) fun r1 =>
 .ret r1)
def sS(name:zf)(v:zK):T (wg×Int) :=
 T.bind (qx v.1 name) fun i =>
 .ite (decide ((0:Int)≤i))
  (T.bind (uY (1:Int)) fun r =>
 T.bind (uY (0:Int)) fun r1 =>
 .ret (((0:Int),(([(i,((r.1,(r.2.1,(r.2.2.1,()))),()))]:List Term),((r1.1,(r1.2.1,(r1.2.2.1,()))),()))),(0:Int)))
  (T.bind (qx v.2.1 name) fun i1 =>
 .ite (decide (i1<(0:Int)))
  (.ret (((0:Int),(([]:List Term),((false,(([]:List Int),(([]:List Int),()))),()))),(5:Int)))
  (T.bind (tx v.2.2.1 i1) fun r2 =>
 .ret (((0:Int),(([]:List Term),((r2.1,(r2.2.1,(r2.2.2.1,()))),()))),(0:Int))))
def fa(a:Rat)(b:Rat):T Rat :=
 T.bind (xQ a) fun r =>
 T.bind (xQ b) fun r1 =>
 T.bind (gR r.2.1 r1.2.1) fun r2 =>
 T.bind (gR r.2.2.1 r1.2.2.1) fun r3 =>
 T.bind (np (!(r.1==r1.1)) r2 r3) fun r4 =>
 .ret r4
def dD(a:Rat):T Bool :=
 T.bind (xQ a) fun r =>
 .ret ((r.2.1.length:Int)==(0:Int))
def gS(wX:Rat)(x:(List Term))(x1:Int):(Int×(Int×Bool×(List Int)×(List Int)×Unit)×(Int×Bool×(List Int)×(List Int)×Unit)×(List Term)×(List Term))→T ((Int×(Int×Bool×(List Int)×(List Int)×Unit)×(Int×Bool×(List Int)×(List Int)×Unit)×(List Term)×(List Term))⊕(((Int×Bool×(List Int)×(List Int)×Unit)×(Int×Bool×(List Int)×(List Int)×Unit)×(List Term)×(List Term))))
 | (x2,v,v1,xs,zA) =>
 .ite (decide (x2<x1))
  (.zd (zi x2 x.length) <|
 T.bind (fa ((nth x x2 (zb zp)).2.1.1,((nth x x2 (zb zp)).2.1.2.1,((nth x x2 (zb zp)).2.1.2.2.1,()))) wX) fun r1 =>
 T.bind (dD r1) fun r2 =>
 .ite (!r2)
  (.zd (xC zA.length zA.length (0:Nat) zA.length zA.length (1:Nat) (64:Nat)) <|
 .zd (zh xs.length (0:Nat) xs.length xs.length) <|
 .zd (zh (zA.length+(1:Nat)) (0:Nat) (zA.length+(1:Nat)) (List.length (zA++([((nth x x2 (zb zp)).1,((r1.1,(r1.2.1,(r1.2.2.1,()))),()))]:List Term)))) <|
 .zd (xs.length=xs.length) <|
 .zd ((zA.length+(1:Nat))=(List.length (zA++([((nth x x2 (zb zp)).1,((r1.1,(r1.2.1,(r1.2.2.1,()))),()))]:List Term)))) <|
 .ret (.inl ((zt (x2+1)),((v.1,(v.2.1,(v.2.2.1,(v.2.2.2.1,())))),((v1.1,(v1.2.1,(v1.2.2.1,(v1.2.2.2.1,())))),(xs,(zA++([((nth x x2 (zb zp)).1,((r1.1,(r1.2.1,(r1.2.2.1,()))),()))]:List Term))))))))
  (.zd (zh xs.length (0:Nat) xs.length xs.length) <|
 .zd (zh zA.length (0:Nat) zA.length zA.length) <|
 .zd (xs.length=xs.length) <|
 .zd (zA.length=zA.length) <|
 .ret (.inl ((zt (x2+1)),((v.1,(v.2.1,(v.2.2.1,(v.2.2.2.1,())))),((v1.1,(v1.2.1,(v1.2.2.1,(v1.2.2.2.1,())))),(xs,zA)))))))
  (.zd (zh xs.length (0:Nat) xs.length xs.length) <|
 .zd (zh zA.length (0:Nat) zA.length zA.length) <|
 .zd (xs.length=xs.length) <|
 .zd (zA.length=zA.length) <|
 .ret (.inr ((v.1,(v.2.1,(v.2.2.1,(v.2.2.2.1,())))),((v1.1,(v1.2.1,(v1.2.2.1,(v1.2.2.2.1,())))),(xs,zA)))))
def eL wX x x1 s:=T.loop (gS wX x x1) s
def uF(a:wg)(vd:Rat):T wg :=
 T.bind (fa a.2.2.1 vd) fun r =>
 .zd (zh (0:Nat) (0:Nat) (0:Nat) (0:Nat)) <|
 .zd (zh (0:Nat) (0:Nat) (0:Nat) (0:Nat)) <|
 .zd ((0:Nat)=(0:Nat)) <|
 .zd ((0:Nat)=(0:Nat)) <|
 T.bind (eL vd a.2.1 (a.2.1.length:Int) ((0:Int),(((0:Int),(false,(([]:List Int),(([]:List Int),())))),((a.1,(r.1,(r.2.1,(r.2.2.1,())))),(([]:List Term),([]:List Term)))))) fun(v2,v3,zR,qH) =>
 .zd (qH.length=qH.length) <|
 .ret (v3.1,((List.drop (0:Nat) (List.take ((0:Nat)+qH.length) qH)),((v3.2.1,(v3.2.2.1,(v3.2.2.2.1,()))),())))
def nz(a2:(List Int))(b2:(List Int))(x:(List Int))(x1:Int):(Int×Int×(List Int))→T ((Int×Int×(List Int))⊕((Int×(List Int))))
 | (carry,x2,xs) =>
 .ite (decide (x2<x1))
  (.zd (zi x2 x.length) <|
 .zd (((decide (x2<(b2.length:Int)))=true)→(zi x2 b2.length)) <|
 .zd (zi x2 xs.length) <|
 .zd (iM xs.length xs.length ((0:Nat)+(Int.toNat x2)) xs.length) <|
 .zd ((0:Int)≤(32:Int)) <|
 .zd (zh xs.length (0:Nat) xs.length (List.length (List.set xs ((0:Nat)+(Int.toNat x2)) (qD (bif (decide (x2<(b2.length:Int)))then(zw ((zw (carry+(zw (nth x x2 (zb (.int .u32))))))+(zw (nth b2 x2 (zb (.int .u32))))))else(zw (carry+(zw (nth x x2 (zb (.int .u32))))))))))) <|
 .zd (xs.length=(List.length (List.set xs ((0:Nat)+(Int.toNat x2)) (qD (bif (decide (x2<(b2.length:Int)))then(zw ((zw (carry+(zw (nth x x2 (zb (.int .u32))))))+(zw (nth b2 x2 (zb (.int .u32))))))else(zw (carry+(zw (nth x x2 (zb (.int .u32))))))))))) <|
 .ret (.inl ((qX .u64 (bif (decide (x2<(b2.length:Int)))then(zw ((zw (carry+(zw (nth x x2 (zb (.int .u32))))))+(zw (nth b2 x2 (zb (.int .u32))))))else(zw (carry+(zw (nth x x2 (zb (.int .u32))))))) (32:Int)),((zt (x2+1)),(List.set xs ((0:Nat)+(Int.toNat x2)) (qD (bif (decide (x2<(b2.length:Int)))then(zw ((zw (carry+(zw (nth x x2 (zb (.int .u32))))))+(zw (nth b2 x2 (zb (.int .u32))))))else(zw (carry+(zw (nth x x2 (zb (.int .u32)))))))))))))
  (.zd (zh xs.length (0:Nat) xs.length xs.length) <|
 .zd (xs.length=xs.length) <|
 .ret (.inr (carry,xs)))
def Jx a2 b2 x x1 s:=T.loop (nz a2 b2 x x1) s
def QH(a:(List Int))(b:(List Int)):T (List Int) :=
 T.bind (xJ a) fun a1 =>
 T.bind (xJ b) fun b1 =>
 .zd (XG (zt ((Nat.cast (List.length (bif (decide ((a1.length:Int)<(b1.length:Int)))then b1 else a1)):Int)+(1:Int))) (zt ((Nat.cast (List.length (bif (decide ((a1.length:Int)<(b1.length:Int)))then b1 else a1)):Int)+(1:Int))) (4:Nat)) <|
 .zd (zh (Int.toNat (zt ((Nat.cast (List.length (bif (decide ((a1.length:Int)<(b1.length:Int)))then b1 else a1)):Int)+(1:Int)))) (0:Nat) (Int.toNat (zt ((Nat.cast (List.length (bif (decide ((a1.length:Int)<(b1.length:Int)))then b1 else a1)):Int)+(1:Int)))) (List.length (List.replicate (Int.toNat (zt ((Nat.cast (List.length (bif (decide ((a1.length:Int)<(b1.length:Int)))then b1 else a1)):Int)+(1:Int)))) (0:Int)))) <|
 .zd ((Int.toNat (zt ((Nat.cast (List.length (bif (decide ((a1.length:Int)<(b1.length:Int)))then b1 else a1)):Int)+(1:Int))))=(List.length (List.replicate (Int.toNat (zt ((Nat.cast (List.length (bif (decide ((a1.length:Int)<(b1.length:Int)))then b1 else a1)):Int)+(1:Int)))) (0:Int)))) <|
 T.bind (Jx (bif (decide ((a1.length:Int)<(b1.length:Int)))then b1 else a1) (bif (decide ((a1.length:Int)<(b1.length:Int)))then a1 else b1) (bif (decide ((a1.length:Int)<(b1.length:Int)))then b1 else a1) (Nat.cast (List.length (bif (decide ((a1.length:Int)<(b1.length:Int)))then b1 else a1)):Int) ((0:Int),((0:Int),(List.replicate (Int.toNat (zt ((Nat.cast (List.length (bif (decide ((a1.length:Int)<(b1.length:Int)))then b1 else a1)):Int)+(1:Int)))) (0:Int))))) fun(carry1,zA) =>
 .zd (zi (Nat.cast (List.length (bif (decide ((a1.length:Int)<(b1.length:Int)))then b1 else a1)):Int) zA.length) <|
 .zd (iM zA.length zA.length ((0:Nat)+(Int.toNat (Nat.cast (List.length (bif (decide ((a1.length:Int)<(b1.length:Int)))then b1 else a1)):Int))) zA.length) <|
 .zd (zA.length=zA.length) <|
 T.bind (xJ (List.drop (0:Nat) (List.take ((0:Nat)+zA.length) (List.set zA ((0:Nat)+(Int.toNat (Nat.cast (List.length (bif (decide ((a1.length:Int)<(b1.length:Int)))then b1 else a1)):Int))) (qD carry1))))) fun r =>
 .ret r
def oP(b2:(List Int))(x:(List Int))(x1:Int):(Int×Int×(List Int))→T ((Int×Int×(List Int))⊕((List Int)))
 | (borrow,x2,xs) =>
 .ite (decide (x2<x1))
  (.zd (zi x2 x.length) <|
 .zd (((decide (x2<(b2.length:Int)))=true)→(zi x2 b2.length)) <|
 T.bind (vV (nth x x2 (zb (.int .u32))) (bif (decide (x2<(b2.length:Int)))then(nth b2 x2 (zb (.int .u32)))else(0:Int)) borrow) fun(r1,borrow1) =>
 .zd (zi x2 xs.length) <|
 .zd (iM xs.length xs.length ((0:Nat)+(Int.toNat x2)) xs.length) <|
 .zd (zh xs.length (0:Nat) xs.length (List.length (List.set xs ((0:Nat)+(Int.toNat x2)) r1))) <|
 .zd (xs.length=(List.length (List.set xs ((0:Nat)+(Int.toNat x2)) r1))) <|
 .ret (.inl (borrow1,((zt (x2+1)),(List.set xs ((0:Nat)+(Int.toNat x2)) r1)))))
  (.zd (zh xs.length (0:Nat) xs.length xs.length) <|
 .zd (xs.length=xs.length) <|
 .ret (.inr xs))
def Jd b2 x x1 s:=T.loop (oP b2 x x1) s
def tk(a:(List Int))(b:(List Int)):T ((List Int)×Bool) :=
 T.bind (iS a b) fun r =>
 .ite (decide (r<(0:Int)))
  (.ret (([]:List Int),false))
  (T.bind (xJ a) fun a1 =>
 T.bind (xJ b) fun b1 =>
 .zd (XG (a1.length:Int) (a1.length:Int) (4:Nat)) <|
 .zd (zh (Int.toNat (a1.length:Int)) (0:Nat) (Int.toNat (a1.length:Int)) (List.length (List.replicate (Int.toNat (a1.length:Int)) (0:Int)))) <|
 .zd ((Int.toNat (a1.length:Int))=(List.length (List.replicate (Int.toNat (a1.length:Int)) (0:Int)))) <|
 T.bind (Jd b1 a1 (a1.length:Int) ((0:Int),((0:Int),(List.replicate (Int.toNat (a1.length:Int)) (0:Int))))) fun zA =>
 .zd (zA.length=zA.length) <|
 T.bind (xJ (List.drop (0:Nat) (List.take ((0:Nat)+zA.length) zA))) fun r2 =>
 .ret (r2,true))
def lJ(a:Rat)(b:Rat):T Rat :=
 T.bind (xQ a) fun r =>
 T.bind (xQ b) fun r1 =>
 T.bind (gR r.2.1 r1.2.2.1) fun n =>
 T.bind (gR r1.2.1 r.2.2.1) fun m =>
 T.bind (gR r.2.2.1 r1.2.2.1) fun d =>
 .ite (r.1==r1.1)
  (T.bind (QH n m) fun r2 =>
 T.bind (np r.1 r2 d) fun r3 =>
 .ret r3)
  (T.bind (tk n m) fun(x,ok) =>
 .ite ok
  (T.bind (np r.1 x d) fun r4 =>
 .ret r4)
  (T.bind (tk m n) fun(x1,r5) =>
 T.bind (np r1.1 x1 d) fun r6 =>
 .ret r6))
def vc  : ((List Term)×(List Term)×(Int×Bool×(List Int)×(List Int)×Unit)×(Int×Bool×(List Int)×(List Int)×Unit)×(List Term)×(List Term))→T (((List Term)×(List Term)×(Int×Bool×(List Int)×(List Int)×Unit)×(Int×Bool×(List Int)×(List Int)×Unit)×(List Term)×(List Term))⊕(((Int×Bool×(List Int)×(List Int)×Unit)×(Int×Bool×(List Int)×(List Int)×Unit)×(List Term)×(List Term))))
 | (l,m,v,v1,xs,zA) =>
 .ite (decide ((0:Int)<(zt ((l.length:Int)+(m.length:Int)))))
  (T.bind (.zd ((((m.length:Int)==(0:Int))=false)→(((decide ((0:Int)<(l.length:Int)))=true)→((zi (0:Int) l.length)∧(zi (0:Int) m.length)))) <|
 .ite (((m.length:Int)==(0:Int))||((decide ((0:Int)<(l.length:Int)))&&(decide ((nth l (0:Int) (zb zp)).1<(nth m (0:Int) (zb zp)).1))))
  (.zd (zi (0:Int) l.length) <|
 .zd (zi (0:Int) l.length) <|
 T.bind (xQ (nth l (0:Int) (zb zp)).2.1) fun r1 =>
 .zd (nh (1:Int) (l.length:Int) l.length) <|
 .zd (zh xs.length (0:Nat) xs.length xs.length) <|
 .zd (zh zA.length (0:Nat) zA.length zA.length) <|
 .zd (xs.length=xs.length) <|
 .zd (zA.length=zA.length) <|
 .ret ((uu (e:=zp) (1:Int) (l.length:Int) l),(m,((v.1,(v.2.1,(v.2.2.1,(v.2.2.2.1,())))),((v1.1,(v1.2.1,(v1.2.2.1,(v1.2.2.2.1,())))),(xs,(zA,((nth l (0:Int) (zb zp)).1,((r1.1,(r1.2.1,(r1.2.2.1,()))),())))))))))
  (.zd ((((l.length:Int)==(0:Int))=false)→((zi (0:Int) m.length)∧(zi (0:Int) l.length))) <|
 .ite (((l.length:Int)==(0:Int))||(decide ((nth m (0:Int) (zb zp)).1<(nth l (0:Int) (zb zp)).1)))
  (.zd (zi (0:Int) m.length) <|
 .zd (zi (0:Int) m.length) <|
 T.bind (xQ (nth m (0:Int) (zb zp)).2.1) fun r2 =>
 .zd (nh (1:Int) (m.length:Int) m.length) <|
 .zd (zh xs.length (0:Nat) xs.length xs.length) <|
 .zd (zh zA.length (0:Nat) zA.length zA.length) <|
 .zd (xs.length=xs.length) <|
 .zd (zA.length=zA.length) <|
 .ret (l,((uu (e:=zp) (1:Int) (m.length:Int) m),((v.1,(v.2.1,(v.2.2.1,(v.2.2.2.1,())))),((v1.1,(v1.2.1,(v1.2.2.1,(v1.2.2.2.1,())))),(xs,(zA,((nth m (0:Int) (zb zp)).1,((r2.1,(r2.2.1,(r2.2.2.1,()))),())))))))))
  (.zd (zi (0:Int) l.length) <|
 .zd (zi (0:Int) l.length) <|
 .zd (zi (0:Int) m.length) <|
 T.bind (lJ (nth l (0:Int) (zb zp)).2.1 (nth m (0:Int) (zb zp)).2.1) fun r3 =>
 .zd (nh (1:Int) (l.length:Int) l.length) <|
 .zd (nh (1:Int) (m.length:Int) m.length) <|
 .zd (zh xs.length (0:Nat) xs.length xs.length) <|
 .zd (zh zA.length (0:Nat) zA.length zA.length) <|
 .zd (xs.length=xs.length) <|
 .zd (zA.length=zA.length) <|
 .ret ((uu (e:=zp) (1:Int) (l.length:Int) l),((uu (e:=zp) (1:Int) (m.length:Int) m),((v.1,(v.2.1,(v.2.2.1,(v.2.2.2.1,())))),((v1.1,(v1.2.1,(v1.2.2.1,(v1.2.2.2.1,())))),(xs,(zA,((nth l (0:Int) (zb zp)).1,((r3.1,(r3.2.1,(r3.2.2.1,()))),())))))))))):T (((List Term)×(List Term)×(Int×Bool×(List Int)×(List Int)×Unit)×(Int×Bool×(List Int)×(List Int)×Unit)×(List Term)×(List Term)×Term))) fun(l1,m1,v2,v3,zR,qH,v4) =>
 T.bind (dD (v4.2.1.1,(v4.2.1.2.1,(v4.2.1.2.2.1,())))) fun r4 =>
 .ite (!r4)
  (.zd (xC qH.length qH.length (0:Nat) qH.length qH.length (1:Nat) (64:Nat)) <|
 .zd (zh zR.length (0:Nat) zR.length zR.length) <|
 .zd (zh (qH.length+(1:Nat)) (0:Nat) (qH.length+(1:Nat)) (List.length (qH++([v4]:List Term)))) <|
 .zd (zR.length=zR.length) <|
 .zd ((qH.length+(1:Nat))=(List.length (qH++([v4]:List Term)))) <|
 .ret (.inl (l1,(m1,((v2.1,(v2.2.1,(v2.2.2.1,(v2.2.2.2.1,())))),((v3.1,(v3.2.1,(v3.2.2.1,(v3.2.2.2.1,())))),(zR,(qH++([v4]:List Term)))))))))
  (.zd (zh zR.length (0:Nat) zR.length zR.length) <|
 .zd (zh qH.length (0:Nat) qH.length qH.length) <|
 .zd (zR.length=zR.length) <|
 .zd (qH.length=qH.length) <|
 .ret (.inl (l1,(m1,((v2.1,(v2.2.1,(v2.2.2.1,(v2.2.2.2.1,())))),((v3.1,(v3.2.1,(v3.2.2.1,(v3.2.2.2.1,())))),(zR,qH))))))))
  (.zd (zh xs.length (0:Nat) xs.length xs.length) <|
 .zd (zh zA.length (0:Nat) zA.length zA.length) <|
 .zd (xs.length=xs.length) <|
 .zd (zA.length=zA.length) <|
 .ret (.inr ((v.1,(v.2.1,(v.2.2.1,(v.2.2.2.1,())))),((v1.1,(v1.2.1,(v1.2.2.1,(v1.2.2.2.1,())))),(xs,zA)))))
def o6(s:((List Term)×(List Term)×(Int×Bool×(List Int)×(List Int)×Unit)×(Int×Bool×(List Int)×(List Int)×Unit)×(List Term)×(List Term))):T (((Int×Bool×(List Int)×(List Int)×Unit)×(Int×Bool×(List Int)×(List Int)×Unit)×(List Term)×(List Term))):=T.loop (vc ) s
def tg(a:wg)(b:wg):T wg :=
 T.bind (lJ a.2.2.1 b.2.2.1) fun r =>
 .zd (zh (0:Nat) (0:Nat) (0:Nat) (0:Nat)) <|
 .zd (zh (0:Nat) (0:Nat) (0:Nat) (0:Nat)) <|
 .zd ((0:Nat)=(0:Nat)) <|
 .zd ((0:Nat)=(0:Nat)) <|
 T.bind (o6  (a.2.1,(b.2.1,(((0:Int),(false,(([]:List Int),(([]:List Int),())))),((a.1,(r.1,(r.2.1,(r.2.2.1,())))),(([]:List Term),([]:List Term))))))) fun(v5,v6,vb,je) =>
 .zd (je.length=je.length) <|
 .ret (v6.1,((List.drop (0:Nat) (List.take ((0:Nat)+je.length) je)),((v6.2.1,(v6.2.2.1,(v6.2.2.2.1,()))),())))
def XL(a:Rat)(b:Rat):T (Rat×Bool) :=
 T.bind (xQ b) fun r =>
 .ite ((r.2.1.length:Int)==(0:Int))
  (T.bind (uY (0:Int)) fun r1 =>
 .ret (r1,false))
  (T.bind (fa a (r.1,(r.2.2.1,(r.2.1,())))) fun r2 =>
 .ret (r2,true))
def nL(kind:Int)(l:wg)(r:wg):T (wg×Int) :=
 .ite (kind==3)
  (T.bind (tg l r) fun r1 =>
 .ret (r1,(0:Int)))
  (.ite (kind==4)
  (T.bind (uY (-1:Int)) fun r2 =>
 T.bind (uF r r2) fun r3 =>
 T.bind (tg l r3) fun r4 =>
 .ret (r4,(0:Int)))
  (.ite (kind==5)
  (.ite ((decide ((0:Int)<(l.2.1.length:Int)))&&(decide ((0:Int)<(r.2.1.length:Int))))
  (.ret (((0:Int),(([]:List Term),((false,(([]:List Int),(([]:List Int),()))),()))),(6:Int)))
  (.ite (decide ((0:Int)<(l.2.1.length:Int)))
  (T.bind (uF l r.2.2.1) fun r5 =>
 .ret (r5,(0:Int)))
  (T.bind (uF r l.2.2.1) fun r6 =>
 .ret (r6,(0:Int)))))
  (T.bind (uY (1:Int)) fun r7 =>
 T.bind (XL r7 r.2.2.1) fun(r8,ok) =>
 .ite (decide ((0:Int)<(r.2.1.length:Int)))
  (.ret (((0:Int),(([]:List Term),((false,(([]:List Int),(([]:List Int),()))),()))),(6:Int)))
  (.ite (!ok)
  (.ret (((0:Int),(([]:List Term),((false,(([]:List Int),(([]:List Int),()))),()))),(7:Int)))
  (T.bind (uF l r8) fun r9 =>
 .ret (r9,(0:Int)))))))
def tb(QR:AM.Expr→zK→T (wg×Int))(e:AM.Expr)(v:zK):T (wg×Int) :=
 .ite ((Expr.kind e)==1)
  (T.bind (xQ (Expr.num e)) fun r =>
 .ret (((0:Int),(([]:List Term),((r.1,(r.2.1,(r.2.2.1,()))),()))),(0:Int)))
  (.ite ((Expr.kind e)==2)
  (T.bind (sS (Expr.name e) v) fun(r1,r2) =>
 .ret (r1,r2))
  (.zd (zi (0:Int) (Expr.kids e).length) <|
 T.bind (QR (nth (Expr.kids e) (0:Int) (zb .expr)) v) fun(r3,x) =>
 .ite (x != 0)
  (.ret (((0:Int),(([]:List Term),((false,(([]:List Int),(([]:List Int),()))),()))),x))
  (.ite ((Expr.kind e)==7)
  (T.bind (uY (-1:Int)) fun r4 =>
 T.bind (uF r3 r4) fun r5 =>
 .ret (r5,(0:Int)))
  (.zd (zi (1:Int) (Expr.kids e).length) <|
 T.bind (QR (nth (Expr.kids e) (1:Int) (zb .expr)) v) fun(r6,x1) =>
 .ite (x1 != 0)
  (.ret (((0:Int),(([]:List Term),((false,(([]:List Int),(([]:List Int),()))),()))),x1))
  (T.bind (nL (Expr.kind e) r3 r6) fun(r7,r8) =>
 .ret (r7,r8))))))
def Uh(e:AM.Expr)(v:zK):T (wg×Int):=T.fix (fun F x=>tb (fun y0 y1=>F (y0,y1)) x.1 x.2) (e,v)
def JP(e:AM.Expr)(v:zK):T (wg×Int) :=
 T.bind (uB e) fun r =>
 .ite (!r)
  (.ret (((0:Int),(([]:List Term),((false,(([]:List Int),(([]:List Int),()))),()))),(5:Int)))
  (T.bind (Uh e v) fun(r1,r2) =>
 .ret (r1,r2))
def oy(r:uX)(v:zK):T (wg×Int) :=
 T.bind (JP r.2.2.2.1 v) fun(r1,e) =>
 .ite (e != 0)
  (.ret (r1,e))
  (T.bind (JP r.2.2.2.2.1 v) fun(r2,e1) =>
 .ite (e1 != 0)
  (.ret (r2,e1))
  (T.bind (uY (-1:Int)) fun r3 =>
 T.bind (uF r2 r3) fun r4 =>
 T.bind (tg r1 r4) fun r5 =>
 .ret ((r.2.1,(r5.2.1,((r5.2.2.1.1,(r5.2.2.1.2.1,(r5.2.2.1.2.2.1,()))),()))),(0:Int))))
def vo(t:Term):T Bool :=
 T.bind (uS t.2.1) fun r =>
 .ret r
def xx(s1:(List Term))(f:Term→T Bool)(x:Int):Int→T (Int⊕(Unit⊕Int))
 | x1 =>
 .ite (decide (x1<x))
  (.zd (zi x1 s1.length) <|
 T.bind (f (nth s1 x1 (zb zp))) fun r =>
 .ite r
  (.ret (.inr (.inr x1)))
  (.ret (.inl (zt (x1+1)))))
  (.ret (.inr (.inl ())))
def jI s1 f x s:=T.loop (xx s1 f x) s
def wJ(s:(List Term))(f:Term→T Bool):T Int :=
 T.bind (jI s f (s.length:Int) (0:Int)) <|
 Sum.elim (fun _ =>
 .ret (-1:Int))
  (fun x2 =>
 .ret x2)
def xb(s:(List Term))(f:Term→T Bool):T Bool :=
 T.bind (wJ s f) fun r =>
 .ret (decide ((0:Int)≤r))
def oh(c:wg):T Bool :=
 T.bind (uS c.2.2.1) fun r =>
 .ite r
  (.ret true)
  (T.bind (xb c.2.1 (fun z0=>vo z0)) fun r1 =>
 .ret r1)
def ui(Nr:(List Bool))(f1:Form)(x1:(List uX))(x2:Int):(Int×qM×(Unit)×zK×(List wg)×(List Int))→T ((Int×qM×(Unit)×zK×(List wg)×(List Int))⊕((qM×(Unit)×zK×(List wg)×(List Int))⊕(zf×Int×qM×(Unit)×zK×(List wg)×(List Int))))
 | (x3,v1,v2,v3,xs,zA) =>
 .ite (decide (x3<x2))
  (.zd (zi x3 x1.length) <|
 T.bind (tm f1 Nr (nth x1 x3 (zb zo)).2.2.1) fun r2 =>
 .ite (!r2)
  (.zd (zh xs.length (0:Nat) xs.length xs.length) <|
 .zd (zh zA.length (0:Nat) zA.length zA.length) <|
 .zd (xs.length=xs.length) <|
 .zd (zA.length=zA.length) <|
 .ret (.inl ((zt (x3+1)),(v1,((),(v3,(xs,zA)))))))
  (T.bind (oy (nth x1 x3 (zb zo)) v3) fun(r3,e1) =>
 .ite (e1 != 0)
  (.zd (zh xs.length (0:Nat) xs.length xs.length) <|
 .zd (zh zA.length (0:Nat) zA.length zA.length) <|
 .zd (xs.length=xs.length) <|
 .zd (zA.length=zA.length) <|
 .ret (.inr (.inr ((nth x1 x3 (zb zo)).1,(e1,((([]:List wg),(([]:List Int),())),((),(v3,(xs,zA)))))))))
  (.zd (xC xs.length xs.length (0:Nat) xs.length xs.length (1:Nat) (88:Nat)) <|
 .zd (xC zA.length zA.length (0:Nat) zA.length zA.length (1:Nat) (8:Nat)) <|
 .zd (zh (xs.length+(1:Nat)) (0:Nat) (xs.length+(1:Nat)) (List.length (xs++([r3]:List wg)))) <|
 .zd (zh (zA.length+(1:Nat)) (0:Nat) (zA.length+(1:Nat)) (List.length (zA++([x3]:List Int)))) <|
 .zd ((xs.length+(1:Nat))=(List.length (xs++([r3]:List wg)))) <|
 .zd ((zA.length+(1:Nat))=(List.length (zA++([x3]:List Int)))) <|
 .ret (.inl ((zt (x3+1)),(v1,((),(v3,((xs++([r3]:List wg)),(zA++([x3]:List Int)))))))))))
  (.zd (zh xs.length (0:Nat) xs.length xs.length) <|
 .zd (zh zA.length (0:Nat) zA.length zA.length) <|
 .zd (xs.length=xs.length) <|
 .zd (zA.length=zA.length) <|
 .ret (.inr (.inl (v1,((),(v3,(xs,zA)))))))
def kU Nr f1 x1 x2 s:=T.loop (ui Nr f1 x1 x2) s
def hZ(f2:Form)(x6:Int):(Int×qM×(Unit)×zK×(List wg)×(List Int))→T ((Int×qM×(Unit)×zK×(List wg)×(List Int))⊕((qM×(Unit)×zK×(List wg)×(List Int))⊕(zf×Int×qM×(Unit)×zK×(List wg)×(List Int))))
 | (x7,v10,v11,v12,xs6,vI) =>
 .ite (decide (x7<x6))
  (.zd (zi x7 xs6.length) <|
 .zd (iM xs6.length xs6.length ((0:Nat)+(Int.toNat x7)) xs6.length) <|
 T.bind (oh (xm xs6 ((0:Nat)+(Int.toNat x7)) (zb zV))) fun r4 =>
 .ite r4
  (.zd (zi x7 vI.length) <|
 .zd (iM vI.length vI.length ((0:Nat)+(Int.toNat x7)) vI.length) <|
 .zd (zi (xm vI ((0:Nat)+(Int.toNat x7)) (zb (.int .i64))) f2.2.2.2.2.1.length) <|
 .zd (zh xs6.length (0:Nat) xs6.length xs6.length) <|
 .zd (zh vI.length (0:Nat) vI.length vI.length) <|
 .zd (xs6.length=xs6.length) <|
 .zd (vI.length=vI.length) <|
 .ret (.inr (.inr ((nth f2.2.2.2.2.1 (xm vI ((0:Nat)+(Int.toNat x7)) (zb (.int .i64))) (zb zo)).1,((8:Int),((([]:List wg),(([]:List Int),())),((),(v12,(xs6,vI)))))))))
  (.zd (zh xs6.length (0:Nat) xs6.length xs6.length) <|
 .zd (zh xs6.length (0:Nat) xs6.length xs6.length) <|
 .zd (zh vI.length (0:Nat) vI.length vI.length) <|
 .zd (xs6.length=xs6.length) <|
 .zd (vI.length=vI.length) <|
 .ret (.inl ((zt (x7+1)),(v10,((),(v12,(xs6,vI))))))))
  (.zd (zh xs6.length (0:Nat) xs6.length xs6.length) <|
 .zd (zh vI.length (0:Nat) vI.length vI.length) <|
 .zd (xs6.length=xs6.length) <|
 .zd (vI.length=vI.length) <|
 .ret (.inr (.inl (v10,((),(v12,(xs6,vI)))))))
def oM f2 x6 s:=T.loop (hZ f2 x6) s
def fj(f:Form)(params:(List Rat))(on:(List Bool)):T (qM×zf×Int) :=
 T.bind (eH f) fun(e,name) =>
 .ite (e != 0)
  (.ret ((([]:List wg),(([]:List Int),())),(name,e)))
  (T.bind (.ite ((params.length:Int) != (f.2.1.length:Int))
  (.ret (true,(([]:List wg),(([]:List Int),()))))
  (.ite ((on.length:Int) != (f.1.length:Int))
  (.ret (true,(([]:List wg),(([]:List Int),()))))
  (T.bind (xg params (fun z0=>wI z0)) fun r =>
 .ret (r,(([]:List wg),(([]:List Int),()))))):T ((Bool×qM))) fun(x,v) =>
 .ite x
  (.ret ((([]:List wg),(([]:List Int),())),(([]:zf),(1:Int))))
  (T.bind (pW f params) fun r1 =>
 .zd (zh (0:Nat) (0:Nat) (0:Nat) (0:Nat)) <|
 .zd (zh (0:Nat) (0:Nat) (0:Nat) (0:Nat)) <|
 .zd ((0:Nat)=(0:Nat)) <|
 .zd ((0:Nat)=(0:Nat)) <|
 T.bind (kU on f f.2.2.2.2.1 (f.2.2.2.2.1.length:Int) ((0:Int),(v,((),(r1,(([]:List wg),([]:List Int))))))) <|
 Sum.elim (fun(v4,v5,v6,zR,qH) =>
 .zd (zh zR.length (0:Nat) zR.length zR.length) <|
 .zd (zh zR.length (0:Nat) zR.length zR.length) <|
 .zd (zh qH.length (0:Nat) qH.length qH.length) <|
 .zd (zR.length=zR.length) <|
 .zd (qH.length=qH.length) <|
 T.bind (oM f (zR.length:Int) ((0:Int),(v4,((),(v6,(zR,qH)))))) <|
 Sum.elim (fun(v13,v14,v15,eA,pP) =>
 .zd (eA.length=eA.length) <|
 .zd (pP.length=pP.length) <|
 .ret (((List.drop (0:Nat) (List.take ((0:Nat)+eA.length) eA)),((List.drop (0:Nat) (List.take ((0:Nat)+pP.length) pP)),())),(([]:zf),(0:Int))))
  (fun(x8,x9,v16,v17,v18,xs10,Wz) =>
 .ret (v16,(x8,x9))))
  (fun(x4,x5,v7,v8,v9,vb,je) =>
 .ret (v7,(x4,x5)))))
def kJ(c:Int):T Bool :=
 .ret ((decide ((97:Int)≤c))&&(decide (c≤(122:Int))))
def oT(c:Int):T Bool :=
 .ret ((decide ((48:Int)≤c))&&(decide (c≤(57:Int))))
def kP(s1:zf):Int→T (Int⊕(Unit⊕Bool))
 | i =>
 .ite (decide (i<(s1.length:Int)))
  (T.bind (.zd (zi i s1.length) <|
 T.bind (kJ (wB s1 i)) fun r1 =>
 .ite (!r1)
  (.zd (zi i s1.length) <|
 T.bind (oT (wB s1 i)) fun r2 =>
 .ite (!r2)
  (.zd (zi i s1.length) <|
 .ret ((wB s1 i) != 95))
  (.ret false))
  (.ret false):T (Bool)) fun x1 =>
 .ite x1
  (.ret (.inr (.inr false)))
  (.ret (.inl (zt (i+1)))))
  (.ret (.inr (.inl ())))
def Xn s1 s:=T.loop (kP s1) s
def vS(s:zf):T Bool :=
 T.bind (.ite (decide ((s.length:Int)<(1:Int)))
  (.ret true)
  (.ite (decide ((24:Int)<(s.length:Int)))
  (.ret true)
  (.zd (zi (0:Int) s.length) <|
 T.bind (kJ (wB s (0:Int))) fun r =>
 .ret (!r))):T (Bool)) fun x =>
 .ite x
  (.ret false)
  (T.bind (Xn s (1:Int)) <|
 Sum.elim (fun _ =>
 .ret true)
  (fun x2 =>
 .ret x2))
def bg(a1:(List Int)):Int→T (Int⊕(Int))
 | n =>
 .zd (((decide ((0:Int)<n))=true)→(zi (zt (n-1)) a1.length)) <|
 .ite ((decide ((0:Int)<n))&&((nth a1 (zt (n-1)) (zb (.int .u32)))==0))
  (.ret (.inl (zt (n-1))))
  (.ret (.inr n))
def Qj a1 s:=T.loop (bg a1) s
def xn(a:(List Int)):T (List Int) :=
 T.bind (Qj a (a.length:Int)) fun n1 =>
 .zd (nh (0:Int) n1 a.length) <|
 .zd (xC (0:Nat) (0:Nat) (0:Nat) (0:Nat) (0:Nat) (List.length (uu (e:=(.int .u32)) (0:Int) n1 a)) (4:Nat)) <|
 .zd (((0:Nat)+(List.length (uu (e:=(.int .u32)) (0:Int) n1 a)))=((0:Nat)+(List.length (uu (e:=(.int .u32)) (0:Int) n1 a)))) <|
 .ret (List.drop (0:Nat) (List.take ((0:Nat)+((0:Nat)+(List.length (uu (e:=(.int .u32)) (0:Int) n1 a)))) (uu (e:=(.int .u32)) (0:Int) n1 a)))
def fZ(t1:(List Int)):(Int×Int)→T ((Int×Int)⊕(Int))
 | (n,i) =>
 .ite (decide ((0:Int)≤i))
  (.zd ((0:Int)≤(32:Int)) <|
 .zd (zi i t1.length) <|
 .ret (.inl ((gK .u64 (xT .u64 n (32:Int)) (zw (nth t1 i (zb (.int .u32))))),(zt (i-1)))))
  (.ret (.inr n))
def JD t1 s:=T.loop (fZ t1) s
def QS(a:(List Int)):T (Int×Bool) :=
 T.bind (xn a) fun t =>
 .ite (decide ((2:Int)<(t.length:Int)))
  (.ret ((0:Int),false))
  (T.bind (JD t ((0:Int),(zt ((t.length:Int)-(1:Int))))) fun n1 =>
 .ret (n1,true))
def oF(n:Int):T (List Int) :=
 .zd ((0:Int)≤(32:Int)) <|
 T.bind (xn ([(qD n),(qD (qX .u64 n (32:Int)))]:List Int)) fun r =>
 .ret r
def cK(a1:(List Int))(wX:Int):(Int×Int×(List Int))→T ((Int×Int×(List Int))⊕((Int×(List Int))))
 | (r,i,xs) =>
 .ite (decide ((0:Int)≤i))
  (.zd ((0:Int)≤(32:Int)) <|
 .zd (zi i a1.length) <|
 .zd (wX≠(0:Int)) <|
 .zd (zi i xs.length) <|
 .zd (iM xs.length xs.length ((0:Nat)+(Int.toNat i)) xs.length) <|
 .zd (wX≠(0:Int)) <|
 .zd (zh xs.length (0:Nat) xs.length (List.length (List.set xs ((0:Nat)+(Int.toNat i)) (qD (zw (Int.tdiv (gK .u64 (xT .u64 r (32:Int)) (zw (nth a1 i (zb (.int .u32))))) wX)))))) <|
 .zd (xs.length=(List.length (List.set xs ((0:Nat)+(Int.toNat i)) (qD (zw (Int.tdiv (gK .u64 (xT .u64 r (32:Int)) (zw (nth a1 i (zb (.int .u32))))) wX)))))) <|
 .ret (.inl ((Int.tmod (gK .u64 (xT .u64 r (32:Int)) (zw (nth a1 i (zb (.int .u32))))) wX),((zt (i-1)),(List.set xs ((0:Nat)+(Int.toNat i)) (qD (zw (Int.tdiv (gK .u64 (xT .u64 r (32:Int)) (zw (nth a1 i (zb (.int .u32))))) wX))))))))
  (.zd (zh xs.length (0:Nat) xs.length xs.length) <|
 .zd (xs.length=xs.length) <|
 .ret (.inr (r,xs)))
def Z2 a1 wX s:=T.loop (cK a1 wX) s
def cg(a:(List Int))(vd:Int):T ((List Int)×Int) :=
 .zd (XG (a.length:Int) (a.length:Int) (4:Nat)) <|
 .zd (zh (Int.toNat (a.length:Int)) (0:Nat) (Int.toNat (a.length:Int)) (List.length (List.replicate (Int.toNat (a.length:Int)) (0:Int)))) <|
 .zd ((Int.toNat (a.length:Int))=(List.length (List.replicate (Int.toNat (a.length:Int)) (0:Int)))) <|
 T.bind (Z2 a vd ((0:Int),((zt ((a.length:Int)-(1:Int))),(List.replicate (Int.toNat (a.length:Int)) (0:Int))))) fun(r1,zA) =>
 .zd (zA.length=zA.length) <|
 T.bind (xn (List.drop (0:Nat) (List.take ((0:Nat)+zA.length) zA))) fun r2 =>
 .ret (r2,r1)
def bf(a:(List Int))(i:Int):T Int :=
 .ite (decide (i<(a.length:Int)))
  (.zd (zi i a.length) <|
 .ret (zw (nth a i (zb (.int .u32)))))
  (.ret (0:Int))
def Ze(t1:(List Int))(vd:Int):(Int×(List Int))→T ((Int×(List Int))⊕((List Int)))
 | (i,xs) =>
 .ite (decide (i<(t1.length:Int)))
  (T.bind (bf t1 i) fun r =>
 T.bind (bf t1 (zt (i+1))) fun r1 =>
 .zd ((0:Int)≤(32:Int)) <|
 .zd ((0:Int)≤vd) <|
 .zd (xC xs.length xs.length (0:Nat) xs.length xs.length (1:Nat) (4:Nat)) <|
 .zd (zh (xs.length+(1:Nat)) (0:Nat) (xs.length+(1:Nat)) (List.length (xs++([(qD (qX .u64 (gK .u64 r (xT .u64 r1 (32:Int))) vd))]:List Int)))) <|
 .zd ((xs.length+(1:Nat))=(List.length (xs++([(qD (qX .u64 (gK .u64 r (xT .u64 r1 (32:Int))) vd))]:List Int)))) <|
 .ret (.inl ((zt (i+1)),(xs++([(qD (qX .u64 (gK .u64 r (xT .u64 r1 (32:Int))) vd))]:List Int)))))
  (.zd (zh xs.length (0:Nat) xs.length xs.length) <|
 .zd (xs.length=xs.length) <|
 .ret (.inr xs))
def Y1 t1 vd s:=T.loop (Ze t1 vd) s
def cM(t2:(List Int))(wX:Int):(Int×Int×(List Int))→T ((Int×Int×(List Int))⊕((List Int)))
 | (low,i1,zR) =>
 .ite (decide (i1<(zt ((t2.length:Int)+(1:Int)))))
  (T.bind (bf t2 i1) fun r3 =>
 .zd ((0:Int)≤wX) <|
 .zd (xC zR.length zR.length (0:Nat) zR.length zR.length (1:Nat) (4:Nat)) <|
 .zd ((0:Int)≤(32:Int)) <|
 .zd (zh (zR.length+(1:Nat)) (0:Nat) (zR.length+(1:Nat)) (List.length (zR++([(qD (gK .u64 (xT .u64 r3 wX) low))]:List Int)))) <|
 .zd ((zR.length+(1:Nat))=(List.length (zR++([(qD (gK .u64 (xT .u64 r3 wX) low))]:List Int)))) <|
 .ret (.inl ((qX .u64 (xT .u64 r3 wX) (32:Int)),((zt (i1+1)),(zR++([(qD (gK .u64 (xT .u64 r3 wX) low))]:List Int))))))
  (.zd (zh zR.length (0:Nat) zR.length zR.length) <|
 .zd (zR.length=zR.length) <|
 .ret (.inr zR))
def Zw t2 wX s:=T.loop (cM t2 wX) s
def ou(a:(List Int))(n:Int):T (List Int) :=
 T.bind (xn a) fun t =>
 .ite (decide ((wN (w6 n (-4096:Int)) (4096:Int))<(0:Int)))
  (.zd ((32:Int)≠(0:Int)) <|
 .ite (decide ((t.length:Int)≤(zt (Int.tdiv (zt ((0:Int)-(wN (w6 n (-4096:Int)) (4096:Int)))) (32:Int)))))
  (.ret ([]:List Int))
  (.zd (nh (zt (Int.tdiv (zt ((0:Int)-(wN (w6 n (-4096:Int)) (4096:Int)))) (32:Int))) (t.length:Int) t.length) <|
 .zd ((32:Int)≠(0:Int)) <|
 .zd (zh (0:Nat) (0:Nat) (0:Nat) (0:Nat)) <|
 .zd ((0:Nat)=(0:Nat)) <|
 T.bind (Y1 (uu (e:=(.int .u32)) (zt (Int.tdiv (zt ((0:Int)-(wN (w6 n (-4096:Int)) (4096:Int)))) (32:Int))) (t.length:Int) t) (zw (Int.tmod (zt ((0:Int)-(wN (w6 n (-4096:Int)) (4096:Int)))) (32:Int))) ((0:Int),([]:List Int))) fun zA =>
 .zd (zA.length=zA.length) <|
 T.bind (xn (List.drop (0:Nat) (List.take ((0:Nat)+zA.length) zA))) fun r2 =>
 .ret r2))
  (.zd ((32:Int)≠(0:Int)) <|
 .zd (XG (zt (Int.tdiv (wN (w6 n (-4096:Int)) (4096:Int)) (32:Int))) (zt (Int.tdiv (wN (w6 n (-4096:Int)) (4096:Int)) (32:Int))) (4:Nat)) <|
 .zd ((32:Int)≠(0:Int)) <|
 .zd (zh (Int.toNat (zt (Int.tdiv (wN (w6 n (-4096:Int)) (4096:Int)) (32:Int)))) (0:Nat) (Int.toNat (zt (Int.tdiv (wN (w6 n (-4096:Int)) (4096:Int)) (32:Int)))) (List.length (List.replicate (Int.toNat (zt (Int.tdiv (wN (w6 n (-4096:Int)) (4096:Int)) (32:Int)))) (0:Int)))) <|
 .zd ((Int.toNat (zt (Int.tdiv (wN (w6 n (-4096:Int)) (4096:Int)) (32:Int))))=(List.length (List.replicate (Int.toNat (zt (Int.tdiv (wN (w6 n (-4096:Int)) (4096:Int)) (32:Int)))) (0:Int)))) <|
 T.bind (Zw t (zw (Int.tmod (wN (w6 n (-4096:Int)) (4096:Int)) (32:Int))) ((0:Int),((0:Int),(List.replicate (Int.toNat (zt (Int.tdiv (wN (w6 n (-4096:Int)) (4096:Int)) (32:Int)))) (0:Int))))) fun qH =>
 .zd (qH.length=qH.length) <|
 T.bind (xn (List.drop (0:Nat) (List.take ((0:Nat)+qH.length) qH))) fun r4 =>
 .ret r4)
def lG(a1:(List Int))(b1:(List Int)):(Int×Int×(List Int))→T ((Int×Int×(List Int))⊕((List Int)))
 | (c,i,xs) =>
 .ite (decide (i<(zt ((w6 (a1.length:Int) (b1.length:Int))+1))))
  (T.bind (bf a1 i) fun r =>
 T.bind (bf b1 i) fun r1 =>
 .zd (xC xs.length xs.length (0:Nat) xs.length xs.length (1:Nat) (4:Nat)) <|
 .zd ((0:Int)≤(32:Int)) <|
 .zd (zh (xs.length+(1:Nat)) (0:Nat) (xs.length+(1:Nat)) (List.length (xs++([(qD (zw ((zw (c+r))+r1)))]:List Int)))) <|
 .zd ((xs.length+(1:Nat))=(List.length (xs++([(qD (zw ((zw (c+r))+r1)))]:List Int)))) <|
 .ret (.inl ((qX .u64 (zw ((zw (c+r))+r1)) (32:Int)),((zt (i+1)),(xs++([(qD (zw ((zw (c+r))+r1)))]:List Int))))))
  (.zd (zh xs.length (0:Nat) xs.length xs.length) <|
 .zd (xs.length=xs.length) <|
 .ret (.inr xs))
def V1 a1 b1 s:=T.loop (lG a1 b1) s
def mq(a:(List Int))(b:(List Int)):T (List Int) :=
 .zd (zh (0:Nat) (0:Nat) (0:Nat) (0:Nat)) <|
 .zd ((0:Nat)=(0:Nat)) <|
 T.bind (V1 a b ((0:Int),((0:Int),([]:List Int)))) fun zA =>
 .zd (zA.length=zA.length) <|
 T.bind (xn (List.drop (0:Nat) (List.take ((0:Nat)+zA.length) zA))) fun r2 =>
 .ret r2
def cZ(x1:(List Int))(y1:(List Int)):Int→T (Int⊕(Unit⊕Int))
 | i =>
 .ite (decide ((0:Int)≤i))
  (.zd (zi i x1.length) <|
 .zd (zi i y1.length) <|
 .ite (decide ((nth x1 i (zb (.int .u32)))<(nth y1 i (zb (.int .u32)))))
  (.ret (.inr (.inr (-1:Int))))
  (.zd (zi i x1.length) <|
 .zd (zi i y1.length) <|
 .ite (decide ((nth y1 i (zb (.int .u32)))<(nth x1 i (zb (.int .u32)))))
  (.ret (.inr (.inr (1:Int))))
  (.ret (.inl (zt (i-1))))))
  (.ret (.inr (.inl ())))
def Vf x1 y1 s:=T.loop (cZ x1 y1) s
def fM(a:(List Int))(b:(List Int)):T Int :=
 T.bind (xn a) fun x =>
 T.bind (xn b) fun y =>
 .ite ((x.length:Int) != (y.length:Int))
  (.ite (decide ((x.length:Int)<(y.length:Int)))
  (.ret (-1:Int))
  (.ret (1:Int)))
  (T.bind (Vf x y (zt ((x.length:Int)-(1:Int)))) <|
 Sum.elim (fun _ =>
 .ret (0:Int))
  (fun x2 =>
 .ret x2))
def iR(a1:(List Int))(b1:(List Int)):(Int×Int×(List Int))→T ((Int×Int×(List Int))⊕((List Int)))
 | (c,i,xs) =>
 .ite (decide (i<(a1.length:Int)))
  (T.bind (bf a1 i) fun x =>
 T.bind (bf b1 i) fun r1 =>
 .zd (xC xs.length xs.length (0:Nat) xs.length xs.length (1:Nat) (4:Nat)) <|
 .zd (zh (xs.length+(1:Nat)) (0:Nat) (xs.length+(1:Nat)) (List.length (xs++([(qD (zw ((bif (decide (x<(zw (r1+c))))then(zw (x+4294967296))else x)-(zw (r1+c)))))]:List Int)))) <|
 .zd ((xs.length+(1:Nat))=(List.length (xs++([(qD (zw ((bif (decide (x<(zw (r1+c))))then(zw (x+4294967296))else x)-(zw (r1+c)))))]:List Int)))) <|
 .ret (.inl ((bif (decide (x<(zw (r1+c))))then(1:Int)else(0:Int)),((zt (i+1)),(xs++([(qD (zw ((bif (decide (x<(zw (r1+c))))then(zw (x+4294967296))else x)-(zw (r1+c)))))]:List Int))))))
  (.zd (zh xs.length (0:Nat) xs.length xs.length) <|
 .zd (xs.length=xs.length) <|
 .ret (.inr xs))
def WU a1 b1 s:=T.loop (iR a1 b1) s
def iw(a:(List Int))(b:(List Int)):T ((List Int)×Bool) :=
 T.bind (fM a b) fun r =>
 .ite (decide (r<(0:Int)))
  (.ret (([]:List Int),false))
  (.zd (zh (0:Nat) (0:Nat) (0:Nat) (0:Nat)) <|
 .zd ((0:Nat)=(0:Nat)) <|
 T.bind (WU a b ((0:Int),((0:Int),([]:List Int)))) fun zA =>
 .zd (zA.length=zA.length) <|
 T.bind (xn (List.drop (0:Nat) (List.take ((0:Nat)+zA.length) zA))) fun r2 =>
 .ret (r2,true))
def uJ(a1:(List Int))(b1:(List Int)):((List Int)×Int×(List Int))→T (((List Int)×Int×(List Int))⊕(((List Int)×(List Int))))
 | (r5,i,xs) =>
 .ite (decide ((0:Int)≤i))
  (T.bind (ou r5 (1:Int)) fun r6 =>
 T.bind (.zd ((32:Int)≠(0:Int)) <|
 .zd (zi (zt (Int.tdiv i (32:Int))) a1.length) <|
 .zd ((32:Int)≠(0:Int)) <|
 .zd ((0:Int)≤(zw (Int.tmod i (32:Int)))) <|
 .ite ((DK .u32 (qX .u32 (nth a1 (zt (Int.tdiv i (32:Int))) (zb (.int .u32))) (zw (Int.tmod i (32:Int)))) (1:Int))==1)
  (T.bind (mq r6 ([(1:Int)]:List Int)) fun r7 =>
 .zd (zh xs.length (0:Nat) xs.length xs.length) <|
 .zd (xs.length=xs.length) <|
 .ret (r7,xs))
  (.zd (zh xs.length (0:Nat) xs.length xs.length) <|
 .zd (xs.length=xs.length) <|
 .ret (r6,xs)):T (((List Int)×(List Int)))) fun(r8,zA) =>
 T.bind (fM r8 b1) fun r9 =>
 .ite (decide ((0:Int)≤r9))
  (T.bind (iw r8 b1) fun(S4,r11) =>
 .zd ((32:Int)≠(0:Int)) <|
 .zd ((32:Int)≠(0:Int)) <|
 .zd (zi (zt (Int.tdiv i (32:Int))) zA.length) <|
 .zd (iM zA.length zA.length ((0:Nat)+(Int.toNat (zt (Int.tdiv i (32:Int))))) zA.length) <|
 .zd ((32:Int)≠(0:Int)) <|
 .zd ((0:Int)≤(zw (Int.tmod i (32:Int)))) <|
 .zd (zi (zt (Int.tdiv i (32:Int))) zA.length) <|
 .zd (iM zA.length zA.length ((0:Nat)+(Int.toNat (zt (Int.tdiv i (32:Int))))) zA.length) <|
 .zd (zh zA.length (0:Nat) zA.length (List.length (List.set zA ((0:Nat)+(Int.toNat (zt (Int.tdiv i (32:Int))))) (gK .u32 (xm zA ((0:Nat)+(Int.toNat (zt (Int.tdiv i (32:Int))))) (zb (.int .u32))) (xT .u32 (1:Int) (zw (Int.tmod i (32:Int)))))))) <|
 .zd (zA.length=(List.length (List.set zA ((0:Nat)+(Int.toNat (zt (Int.tdiv i (32:Int))))) (gK .u32 (xm zA ((0:Nat)+(Int.toNat (zt (Int.tdiv i (32:Int))))) (zb (.int .u32))) (xT .u32 (1:Int) (zw (Int.tmod i (32:Int)))))))) <|
 .ret (.inl (S4,((zt (i-1)),(List.set zA ((0:Nat)+(Int.toNat (zt (Int.tdiv i (32:Int))))) (gK .u32 (xm zA ((0:Nat)+(Int.toNat (zt (Int.tdiv i (32:Int))))) (zb (.int .u32))) (xT .u32 (1:Int) (zw (Int.tmod i (32:Int))))))))))
  (.zd (zh zA.length (0:Nat) zA.length zA.length) <|
 .zd (zA.length=zA.length) <|
 .ret (.inl (r8,((zt (i-1)),zA)))))
  (.zd (zh xs.length (0:Nat) xs.length xs.length) <|
 .zd (xs.length=xs.length) <|
 .ret (.inr (r5,xs)))
def iF a1 b1 s:=T.loop (uJ a1 b1) s
def ku(a:(List Int))(b:(List Int)):T ((List Int)×(List Int)×Bool) :=
 T.bind (xn b) fun r =>
 .ite ((r.length:Int)==(0:Int))
  (.ret (([]:List Int),(([]:List Int),false)))
  (T.bind (QS a) fun(x,one_) =>
 T.bind (QS b) fun(y,two_) =>
 .ite (one_&&two_)
  (.zd (y≠(0:Int)) <|
 T.bind (oF (zw (Int.tdiv x y))) fun r1 =>
 .zd (y≠(0:Int)) <|
 T.bind (oF (Int.tmod x y)) fun r2 =>
 .ret (r1,(r2,true)))
  (.ite (two_&&(decide (y<(4294967296:Int))))
  (T.bind (cg a y) fun(q,r3) =>
 T.bind (oF r3) fun r4 =>
 .ret (q,(r4,true)))
  (.zd (XG (a.length:Int) (a.length:Int) (4:Nat)) <|
 .zd (zh (Int.toNat (a.length:Int)) (0:Nat) (Int.toNat (a.length:Int)) (List.length (List.replicate (Int.toNat (a.length:Int)) (0:Int)))) <|
 .zd ((Int.toNat (a.length:Int))=(List.length (List.replicate (Int.toNat (a.length:Int)) (0:Int)))) <|
 T.bind (iF a b (([]:List Int),((zt ((zt ((32:Int)*(a.length:Int)))-1)),(List.replicate (Int.toNat (a.length:Int)) (0:Int))))) fun(r12,zR) =>
 .zd (zR.length=zR.length) <|
 T.bind (xn (List.drop (0:Nat) (List.take ((0:Nat)+zR.length) zR))) fun r13 =>
 T.bind (xn r12) fun r14 =>
 .ret (r13,(r14,true)))))
def dJ  : ((List Int)×(List Int))→T (((List Int)×(List Int))⊕((List Int)))
 | (x1,y1) =>
 .ite (decide ((0:Int)<(y1.length:Int)))
  (T.bind (ku x1 y1) fun(r,r1,r2) =>
 .ret (.inl (y1,r1)))
  (.ret (.inr x1))
def WT(s:((List Int)×(List Int))):T ((List Int)):=T.loop (dJ ) s
def Xo(a:(List Int))(b:(List Int)):T (List Int) :=
 T.bind (xn a) fun x =>
 T.bind (xn b) fun y =>
 T.bind (WT  (x,y)) fun x2 =>
 .ret x2
def xd(a:Rat):T Rat :=
 T.bind (xn a.2.1) fun n =>
 T.bind (xn a.2.2.1) fun d =>
 .ite (((d.length:Int)==(0:Int))||((n.length:Int)==(0:Int)))
  (.ret (false,(([]:List Int),(([(1:Int)]:List Int),()))))
  (T.bind (Xo n d) fun g =>
 T.bind (ku n g) fun(n1,r,r1) =>
 T.bind (ku d g) fun(d1,r2,r3) =>
 .ret (a.1,(n1,(d1,()))))
def wH(a1:(List Int))(b1:(List Int)):Int→T (Int⊕(Unit⊕Bool))
 | i =>
 .ite (decide (i<(a1.length:Int)))
  (.zd (zi i a1.length) <|
 .zd (zi i b1.length) <|
 .ite ((nth a1 i (zb (.int .u32))) != (nth b1 i (zb (.int .u32))))
  (.ret (.inr (.inr false)))
  (.ret (.inl (zt (i+1)))))
  (.ret (.inr (.inl ())))
def cO a1 b1 s:=T.loop (wH a1 b1) s
def j0(a:(List Int))(b:(List Int)):T Bool :=
 .ite ((a.length:Int) != (b.length:Int))
  (.ret false)
  (T.bind (cO a b (0:Int)) <|
 Sum.elim (fun _ =>
 .ret true)
  (fun x =>
 .ret x))
def QI(a:Rat):T Bool :=
 T.bind (xd a) fun r =>
 .ite (a.1==r.1)
  (T.bind (j0 a.2.1 r.2.1) fun r1 =>
 .ite r1
  (T.bind (j0 a.2.2.1 r.2.2.1) fun r2 =>
 .ret r2)
  (.ret false))
  (.ret false)
def kg(a:Rat):T Bool :=
 T.bind (xd a) fun r =>
 .ret ((decide ((16:Int)<(r.2.1.length:Int)))||(decide ((16:Int)<(r.2.2.1.length:Int))))
def cn(a:Rat):T Bool :=
 T.bind (QI a) fun r =>
 .ite r
  (T.bind (kg a) fun r1 =>
 .ret (!r1))
  (.ret false)
def fR(s:zf):T Bool :=
 .ite (zH s ([]:zf))
  (.ret true)
  (T.bind (vS s) fun r =>
 .ret r)
def de(a2:(List Int))(b2:(List Int))(i1:Int):(Int×Int×(List Int))→T ((Int×Int×(List Int))⊕((List Int)))
 | (c,k,zA) =>
 .ite ((decide (k<(b2.length:Int)))||(decide ((0:Int)<c)))
  (.ite (decide ((zA.length:Int)≤(zt (i1+k))))
  (.zd (zh zA.length (0:Nat) zA.length zA.length) <|
 .zd (zA.length=zA.length) <|
 .ret (.inr zA))
  (.zd (zi i1 a2.length) <|
 T.bind (bf b2 k) fun r =>
 .zd (zi (zt (i1+k)) zA.length) <|
 .zd (iM zA.length zA.length ((0:Nat)+(Int.toNat (zt (i1+k)))) zA.length) <|
 .zd (zi (zt (i1+k)) zA.length) <|
 .zd (iM zA.length zA.length ((0:Nat)+(Int.toNat (zt (i1+k)))) zA.length) <|
 .zd ((0:Int)≤(32:Int)) <|
 .zd (zh zA.length (0:Nat) zA.length (List.length (List.set zA ((0:Nat)+(Int.toNat (zt (i1+k)))) (qD (zw ((zw (c+(zw ((zw (nth a2 i1 (zb (.int .u32))))*r))))+(zw (xm zA ((0:Nat)+(Int.toNat (zt (i1+k)))) (zb (.int .u32)))))))))) <|
 .zd (zA.length=(List.length (List.set zA ((0:Nat)+(Int.toNat (zt (i1+k)))) (qD (zw ((zw (c+(zw ((zw (nth a2 i1 (zb (.int .u32))))*r))))+(zw (xm zA ((0:Nat)+(Int.toNat (zt (i1+k)))) (zb (.int .u32)))))))))) <|
 .ret (.inl ((qX .u64 (zw ((zw (c+(zw ((zw (nth a2 i1 (zb (.int .u32))))*r))))+(zw (xm zA ((0:Nat)+(Int.toNat (zt (i1+k)))) (zb (.int .u32)))))) (32:Int)),((zt (k+1)),(List.set zA ((0:Nat)+(Int.toNat (zt (i1+k)))) (qD (zw ((zw (c+(zw ((zw (nth a2 i1 (zb (.int .u32))))*r))))+(zw (xm zA ((0:Nat)+(Int.toNat (zt (i1+k)))) (zb (.int .u32)))))))))))))
  (.zd (zh zA.length (0:Nat) zA.length zA.length) <|
 .zd (zA.length=zA.length) <|
 .ret (.inr zA))
def WO a2 b2 i1 s:=T.loop (de a2 b2 i1) s
def lv(a1:(List Int))(b1:(List Int)):(Int×(List Int))→T ((Int×(List Int))⊕((List Int)))
 | (i,xs) =>
 .ite (decide (i<(a1.length:Int)))
  (.zd (zh xs.length (0:Nat) xs.length xs.length) <|
 .zd (xs.length=xs.length) <|
 T.bind (WO a1 b1 i ((0:Int),((0:Int),xs))) fun zR =>
 .zd (zh zR.length (0:Nat) zR.length zR.length) <|
 .zd (zR.length=zR.length) <|
 .ret (.inl ((zt (i+1)),zR)))
  (.zd (zh xs.length (0:Nat) xs.length xs.length) <|
 .zd (xs.length=xs.length) <|
 .ret (.inr xs))
def VD a1 b1 s:=T.loop (lv a1 b1) s
def uK(a:(List Int))(b:(List Int)):T (List Int) :=
 .zd (XG (zt ((a.length:Int)+(b.length:Int))) (zt ((a.length:Int)+(b.length:Int))) (4:Nat)) <|
 .zd (zh (Int.toNat (zt ((a.length:Int)+(b.length:Int)))) (0:Nat) (Int.toNat (zt ((a.length:Int)+(b.length:Int)))) (List.length (List.replicate (Int.toNat (zt ((a.length:Int)+(b.length:Int)))) (0:Int)))) <|
 .zd ((Int.toNat (zt ((a.length:Int)+(b.length:Int))))=(List.length (List.replicate (Int.toNat (zt ((a.length:Int)+(b.length:Int)))) (0:Int)))) <|
 T.bind (VD a b ((0:Int),(List.replicate (Int.toNat (zt ((a.length:Int)+(b.length:Int)))) (0:Int)))) fun qH =>
 .zd (qH.length=qH.length) <|
 T.bind (xn (List.drop (0:Nat) (List.take ((0:Nat)+qH.length) qH))) fun r1 =>
 .ret r1
def yI  : ((List Int)×zf)→T (((List Int)×zf)⊕(zf))
 | (t1,s) =>
 .ite (decide ((0:Int)<(t1.length:Int)))
  (T.bind (cg t1 (10:Int)) fun(t2,r) =>
 .zd (((List.length (qP ([(Lb (zw ((48:Int)+r)))]:List Int)))+s.length)≤(4611686018427387904:Nat)) <|
 .ret (.inl (t2,(cat (qP ([(Lb (zw ((48:Int)+r)))]:List Int)) s))))
  (.ret (.inr s))
def lY(s:((List Int)×zf)):T (zf):=T.loop (yI ) s
def cp(a:(List Int)):T zf :=
 T.bind (xn a) fun t =>
 .ite ((t.length:Int)==(0:Int))
  (.ret ([48]:zf))
  (T.bind (lY  (t,([]:zf))) fun s1 =>
 .ret s1)
def kc(F5:Int):zf→T (zf⊕(zf))
 | s1 =>
 .ite (decide ((s1.length:Int)<F5))
  (.zd ((([48]:zf).length+s1.length)≤(4611686018427387904:Nat)) <|
 .ret (.inl (cat ([48]:zf) s1)))
  (.ret (.inr s1))
def sB F5 s:=T.loop (kc F5) s
def lj(n:(List Int))(least:Int):T zf :=
 T.bind (cp n) fun s =>
 T.bind (sB least s) fun s2 =>
 .ret s2
def fb(neg:Bool):T zf :=
 .ite neg
  (.ret ([45]:zf))
  (.ret ([]:zf))
def nV(neg:Bool)(n:(List Int))(scale:Int):T zf :=
 T.bind (lj n (zt (scale+1))) fun s =>
 .zd (((decide ((0:Int)<scale))=true)→((nh (0:Int) (zt ((s.length:Int)-scale)) s.length)∧((((List.length (gY (0:Int) (zt ((s.length:Int)-scale)) s))+([46]:zf).length)≤(4611686018427387904:Nat))∧((nh (zt ((s.length:Int)-scale)) (s.length:Int) s.length)∧(((List.length (cat (gY (0:Int) (zt ((s.length:Int)-scale)) s) ([46]:zf)))+(List.length (gY (zt ((s.length:Int)-scale)) (s.length:Int) s)))≤(4611686018427387904:Nat)))))) <|
 .ite neg
  (T.bind (fb (decide ((0:Int)<(n.length:Int)))) fun r =>
 .zd ((r.length+(List.length (bif (decide ((0:Int)<scale))then(cat (cat (gY (0:Int) (zt ((s.length:Int)-scale)) s) ([46]:zf)) (gY (zt ((s.length:Int)-scale)) (s.length:Int) s))else s)))≤(4611686018427387904:Nat)) <|
 .ret (cat r (bif (decide ((0:Int)<scale))then(cat (cat (gY (0:Int) (zt ((s.length:Int)-scale)) s) ([46]:zf)) (gY (zt ((s.length:Int)-scale)) (s.length:Int) s))else s)))
  (T.bind (fb false) fun r1 =>
 .zd ((r1.length+(List.length (bif (decide ((0:Int)<scale))then(cat (cat (gY (0:Int) (zt ((s.length:Int)-scale)) s) ([46]:zf)) (gY (zt ((s.length:Int)-scale)) (s.length:Int) s))else s)))≤(4611686018427387904:Nat)) <|
 .ret (cat r1 (bif (decide ((0:Int)<scale))then(cat (cat (gY (0:Int) (zt ((s.length:Int)-scale)) s) ([46]:zf)) (gY (zt ((s.length:Int)-scale)) (s.length:Int) s))else s)))
def jt  : ((List Int)×Int×Rat)→T (((List Int)×Int×Rat)⊕(Rat⊕(zf×Bool×Rat)))
 | (t,k,v) =>
 .ite (decide (k≤(60:Int)))
  (T.bind (uK v.2.1 t) fun r1 =>
 T.bind (ku r1 v.2.2.1) fun(q,r2,r3) =>
 .ite ((r2.length:Int)==(0:Int))
  (T.bind (nV v.1 q k) fun r4 =>
 .ret (.inr (.inr (r4,(true,v)))))
  (T.bind (uK t ([(10:Int)]:List Int)) fun t1 =>
 .ret (.inl (t1,((zt (k+1)),v)))))
  (.ret (.inr (.inl v)))
def Zu(s:((List Int)×Int×Rat)):T (Rat⊕(zf×Bool×Rat)):=T.loop (jt ) s
def cq(a:Rat):T (zf×Bool) :=
 T.bind (xd a) fun r =>
 T.bind (Zu  (([(1:Int)]:List Int),((0:Int),r))) <|
 Sum.elim (fun v1 =>
 .ret (([]:zf),false))
  (fun(x,x1,v2) =>
 .ret (x,x1))
def k8(a:Rat):T Bool :=
 .ite (!a.1)
  (.ite ((a.2.1.length:Int)==(0:Int))
  (.ite ((a.2.2.1.length:Int)==(0:Int))
  (.ret true)
  (T.bind (QI a) fun r =>
 .ret r))
  (.ret false))
  (.ret false)
def dw(yz:AM.Expr→Int→T Bool)(RG:Int)(e1:AM.Expr)(Sj:Int):Int→T (Int⊕(Unit⊕Bool))
 | i =>
 .ite (decide (i<Sj))
  (.zd (zi i (Expr.kids e1).length) <|
 T.bind (yz (nth (Expr.kids e1) i (zb .expr)) (zt (RG+1))) fun r5 =>
 .ite (!r5)
  (.ret (.inr (.inr false)))
  (.ret (.inl (zt (i+1)))))
  (.ret (.inr (.inl ())))
def sJ yz RG e1 Sj s:=T.loop (dw yz RG e1 Sj) s
def oC(yz:AM.Expr→Int→T Bool)(e:AM.Expr)(deep:Int):T Bool :=
 .ite (decide ((32:Int)<deep))
  (.ret false)
  (T.bind (.ite ((Expr.kind e)==1)
  (T.bind (cq (Expr.num e)) fun(r,ok) =>
 .ite (((Expr.kids e).length:Int)==(0:Int))
  (.ite (zH (Expr.name e) ([]:zf))
  (T.bind (cn (Expr.num e)) fun r1 =>
 .ite r1
  (.ite (!(Expr.num e).1)
  (.ret (.inr ok))
  (.ret (.inr false)))
  (.ret (.inr false)))
  (.ret (.inr false)))
  (.ret (.inr false)))
  (.ite ((Expr.kind e)==2)
  (.ite (((Expr.kids e).length:Int)==(0:Int))
  (T.bind (vS (Expr.name e)) fun r2 =>
 .ite r2
  (T.bind (k8 (Expr.num e)) fun r3 =>
 .ret (.inr r3))
  (.ret (.inr false)))
  (.ret (.inr false)))
  (.ite ((Expr.kind e)==7)
  (.ret (.inl (1:Int)))
  (.ite ((Expr.kind e)==3)
  (.ret (.inl (2:Int)))
  (.ite ((Expr.kind e)==4)
  (.ret (.inl (2:Int)))
  (.ite ((Expr.kind e)==5)
  (.ret (.inl (2:Int)))
  (.ite ((Expr.kind e)==6)
  (.ret (.inl (2:Int)))
  (.ret (.inr false)))))))):T (Int⊕Bool)) <|
 Sum.elim (fun kids =>
 T.bind (.ite (((Expr.kids e).length:Int) != kids)
  (.ret true)
  (.ite (!(zH (Expr.name e) ([]:zf)))
  (.ret true)
  (T.bind (k8 (Expr.num e)) fun r4 =>
 .ret (!r4))):T (Bool)) fun x1 =>
 .ite x1
  (.ret false)
  (T.bind (sJ yz deep e kids (0:Int)) <|
 Sum.elim (fun _ =>
 .ret true)
  (fun x2 =>
 .ret x2)))
  (fun x =>
 .ret x))
def mD(e:AM.Expr)(deep:Int):T Bool:=T.fix (fun F x=>oC (fun y0 y1=>F (y0,y1)) x.1 x.2) (e,deep)
def yA(jj:AM.Expr→T Int)(e1:AM.Expr):(Int×Int)→T ((Int×Int)⊕(Int))
 | (n,i) =>
 .ite (decide (i<((Expr.kids e1).length:Int)))
  (.zd (zi i (Expr.kids e1).length) <|
 T.bind (jj (nth (Expr.kids e1) i (zb .expr))) fun r =>
 .ret (.inl ((zt (n+r)),(zt (i+1)))))
  (.ret (.inr n))
def Zc jj e1 s:=T.loop (yA jj e1) s
def eT(jj:AM.Expr→T Int)(e:AM.Expr):T Int :=
 T.bind (Zc jj e ((1:Int),(0:Int))) fun n1 =>
 .ret n1
def nR(e:AM.Expr):T Int:=T.fix (fun F x=>eT (fun y0=>F (y0)) x) e
def yV(e:AM.Expr):T Bool :=
 T.bind (mD e (1:Int)) fun r =>
 .ite r
  (T.bind (nR e) fun r1 =>
 .ret (decide (r1≤(256:Int))))
  (.ret false)
def yE(f1:Form):(Int×Int)→T ((Int×Int)⊕(Unit⊕Bool))
 | (at_,i) =>
 .ite (decide (i<(f1.2.2.2.1.length:Int)))
  (.zd (zi i f1.2.2.2.1.length) <|
 T.bind (.ite (decide ((nth f1.2.2.2.1 i (zb q7)).2.1<at_))
  (.ret (true,(nth f1.2.2.2.1 i (zb q7))))
  (.ite (decide ((f1.2.2.1.length:Int)≤(nth f1.2.2.2.1 i (zb q7)).2.1))
  (.ret (true,(nth f1.2.2.2.1 i (zb q7))))
  (T.bind (vS (nth f1.2.2.2.1 i (zb q7)).1) fun r =>
 .ite (!r)
  (.ret (true,(nth f1.2.2.2.1 i (zb q7))))
  (.ite (decide ((nth f1.2.2.2.1 i (zb q7)).2.2.2.1<(0:Int)))
  (.ret (true,(nth f1.2.2.2.1 i (zb q7))))
  (.ret ((decide ((9:Int)<(nth f1.2.2.2.1 i (zb q7)).2.2.2.1)),(nth f1.2.2.2.1 i (zb q7))))))):T ((Bool×Field))) fun(x,v) =>
 .ite x
  (.ret (.inr (.inr false)))
  (.ret (.inl (v.2.1,(zt (i+1))))))
  (.ret (.inr (.inl ())))
def Z8 f1 s:=T.loop (yE f1) s
def yt(f2:Form):(Int×Int)→T ((Int×Int)⊕(Unit⊕Bool))
 | (at_1,i1) =>
 .ite (decide (i1<(f2.2.2.2.2.2.1.length:Int)))
  (.zd (zi i1 f2.2.2.2.2.2.1.length) <|
 T.bind (.ite (decide ((nth f2.2.2.2.2.2.1 i1 (zb zn)).2.1<at_1))
  (.ret (true,(nth f2.2.2.2.2.2.1 i1 (zb zn))))
  (.ite (decide ((f2.2.2.1.length:Int)≤(nth f2.2.2.2.2.2.1 i1 (zb zn)).2.1))
  (.ret (true,(nth f2.2.2.2.2.2.1 i1 (zb zn))))
  (T.bind (vS (nth f2.2.2.2.2.2.1 i1 (zb zn)).1) fun r1 =>
 .ite (!r1)
  (.ret (true,(nth f2.2.2.2.2.2.1 i1 (zb zn))))
  (.ite (decide ((nth f2.2.2.2.2.2.1 i1 (zb zn)).2.2.1<(0:Int)))
  (.ret (true,(nth f2.2.2.2.2.2.1 i1 (zb zn))))
  (.ite (decide ((2:Int)<(nth f2.2.2.2.2.2.1 i1 (zb zn)).2.2.1))
  (.ret (true,(nth f2.2.2.2.2.2.1 i1 (zb zn))))
  (T.bind (yV (Expr.mk (Expr.kind (nth f2.2.2.2.2.2.1 i1 (zb zn)).2.2.2.1) ((Expr.num (nth f2.2.2.2.2.2.1 i1 (zb zn)).2.2.2.1).1,((Expr.num (nth f2.2.2.2.2.2.1 i1 (zb zn)).2.2.2.1).2.1,((Expr.num (nth f2.2.2.2.2.2.1 i1 (zb zn)).2.2.2.1).2.2.1,()))) (Expr.name (nth f2.2.2.2.2.2.1 i1 (zb zn)).2.2.2.1) (Expr.kids (nth f2.2.2.2.2.2.1 i1 (zb zn)).2.2.2.1))) fun r2 =>
 .ite (!r2)
  (.ret (true,(nth f2.2.2.2.2.2.1 i1 (zb zn))))
  (T.bind (yV (Expr.mk (Expr.kind (nth f2.2.2.2.2.2.1 i1 (zb zn)).2.2.2.2.1) ((Expr.num (nth f2.2.2.2.2.2.1 i1 (zb zn)).2.2.2.2.1).1,((Expr.num (nth f2.2.2.2.2.2.1 i1 (zb zn)).2.2.2.2.1).2.1,((Expr.num (nth f2.2.2.2.2.2.1 i1 (zb zn)).2.2.2.2.1).2.2.1,()))) (Expr.name (nth f2.2.2.2.2.2.1 i1 (zb zn)).2.2.2.2.1) (Expr.kids (nth f2.2.2.2.2.2.1 i1 (zb zn)).2.2.2.2.1))) fun r3 =>
 .ret ((!r3),(nth f2.2.2.2.2.2.1 i1 (zb zn))))))))):T ((Bool×Check))) fun(x2,v1) =>
 .ite x2
  (.ret (.inr (.inr false)))
  (.ret (.inl (v1.2.1,(zt (i1+1))))))
  (.ret (.inr (.inl ())))
def tX f2 s:=T.loop (yt f2) s
def nC(f:Form):T Bool :=
 T.bind (Z8 f ((0:Int),(0:Int))) <|
 Sum.elim (fun _ =>
 T.bind (tX f ((0:Int),(0:Int))) <|
 Sum.elim (fun _ =>
 .ret true)
  (fun x3 =>
 .ret x3))
  (fun x1 =>
 .ret x1)
def oB(a:Rat):T zf :=
 T.bind (xd a) fun r =>
 T.bind (fb r.1) fun r1 =>
 T.bind (cp r.2.1) fun r2 =>
 .zd ((r1.length+r2.length)≤(4611686018427387904:Nat)) <|
 .zd ((((r.2.2.1.length:Int) != (1:Int))=false)→(zi (0:Int) r.2.2.1.length)) <|
 .ite (((r.2.2.1.length:Int) != (1:Int))||((nth r.2.2.1 (0:Int) (zb (.int .u32))) != 1))
  (.zd (((cat r1 r2).length+([47]:zf).length)≤(4611686018427387904:Nat)) <|
 T.bind (cp r.2.2.1) fun r3 =>
 .zd (((List.length (cat (cat r1 r2) ([47]:zf)))+r3.length)≤(4611686018427387904:Nat)) <|
 .ret (cat (cat (cat r1 r2) ([47]:zf)) r3))
  (.ret (cat r1 r2))
def tH(s:zf):T zf :=
 .ite (zH s ([]:zf))
  (.ret ([]:zf))
  (.zd ((([32,119,104,101,110,32]:zf).length+s.length)≤(4611686018427387904:Nat)) <|
 .ret (cat ([32,119,104,101,110,32]:zf) s))
end Go.AM.Lf
