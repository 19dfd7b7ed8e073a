/-
  The program's functions as trees in plain Lean, part 0: printed by a program of ours.
-/
import Derived.Test.YtbafdjlefhlefaaGreatDoorAmA
set_option linter.unusedVariables false
noncomputable section
namespace Go.AM.Lf
abbrev dz:Ty:=(.cons .str .nil)
abbrev Fy:=den dz
abbrev dV:Ty:=(.cons .str (.cons (.int .u64) .nil))
abbrev Ji:=den dV
abbrev zV:Ty:=(.cons .str (.cons .bool .nil))
abbrev Switch:=den zV
abbrev qu:Ty:=(.cons .str dz)
abbrev rV:=den qu
abbrev pF:Ty:=(.cons (.int .i64) (.cons (.int .i64) (.cons .bool (.cons (.int .u8) .nil))))
abbrev DG:=den pF
abbrev zI:Ty:=(.cons .bool (.cons (.sl (.int .u32)) (.cons (.sl (.int .u32)) .nil)))
abbrev Rat:=den zI
abbrev q8:Ty:=(.cons .str (.cons (.int .i64) (.cons .bool (.cons (.int .i64) .nil))))
abbrev Field:=den q8
abbrev zn:Ty:=(.cons .str (.cons (.int .i64) (.cons .str (.cons .expr (.cons .expr .nil)))))
abbrev uT:=den zn
abbrev zm:Ty:=(.cons .str (.cons (.int .i64) (.cons (.int .i64) (.cons .expr (.cons .expr .nil)))))
abbrev Check:=den zm
abbrev zX:Ty:=(.cons .str (.cons zI .nil))
abbrev Param:=den zX
abbrev zq:Ty:=(.cons (.int .i64) (.cons zI .nil))
abbrev Term:=den zq
abbrev zP:Ty:=(.cons (.sl .str) (.cons (.sl .str) (.cons (.sl zI) .nil)))
abbrev zJ:=den zP
abbrev zZ:Ty:=(.cons (.int .i64) (.cons (.sl zq) (.cons zI .nil)))
abbrev wC:=den zZ
abbrev zY:Ty:=(.cons (.sl zZ) (.cons (.sl (.int .i64)) .nil))
abbrev qB:=den zY
abbrev zG:Ty:=(.cons (.sl zV) (.cons (.sl zX) (.cons (.sl qu) (.cons (.sl q8) (.cons (.sl zn) (.cons (.sl zm) .nil))))))
abbrev Form:=den zG
def kA(uH:AM.Expr→Int→T Int)(e1:AM.Expr):(Int×Int)→T ((Int×Int)⊕(Int))
 | (left1,i) =>
 .ite ((decide (i<((Expr.kids e1).length:Int)))&&(decide ((0:Int)≤left1)))
  (.zd (zi i (Expr.kids e1).length) <|
 T.bind (uH (nth (Expr.kids e1) i (zb .expr)) left1) fun za7 =>
 .ret (.inl (za7,(zt (i+1)))))
  (.ret (.inr left1))
def se uH e1 s:=T.loop (kA uH e1) s
def cO(uH:AM.Expr→Int→T Int)(e:AM.Expr)(left:Int):T Int :=
 T.bind (se uH e ((zt ((zt ((zt ((zt (left-3))-((Expr.name e).length:Int)))-(zt ((8:Int)*(Nat.cast (List.length (Expr.num e).2.1):Int)))))-(zt ((8:Int)*(Nat.cast (List.length (Expr.num e).2.2.1):Int))))),(0:Int))) fun zbl =>
 .ret zbl
def kG(e:AM.Expr)(left:Int):T Int:=T.fix (fun F x=>cO (fun y0 y1=>F (y0,y1)) x.1 x.2) (e,left)
def yC(f1:Form):(Int×Int)→T ((Int×Int)⊕(Int))
 | (n,i) =>
 .ite ((decide (i<(f1.2.1.length:Int)))&&(decide ((0:Int)≤n)))
  (.zd (zi i f1.2.1.length) <|
 .zd (zi i f1.2.1.length) <|
 .zd (zi i f1.2.1.length) <|
 .ret (.inl ((zt ((zt ((zt (n-(zt ((8:Int)*(Nat.cast (List.length (nth f1.2.1 i (zb zX)).2.1.2.1):Int)))))-(zt ((8:Int)*(Nat.cast (List.length (nth f1.2.1 i (zb zX)).2.1.2.2.1):Int)))))-(Nat.cast (List.length (nth f1.2.1 i (zb zX)).1):Int))),(zt (i+1)))))
  (.ret (.inr n))
def Z8 f1 s:=T.loop (yC f1) s
def yJ(f2:Form):(Int×Int)→T ((Int×Int)⊕(Int))
 | (n2,i1) =>
 .ite ((decide (i1<(f2.1.length:Int)))&&(decide ((0:Int)≤n2)))
  (.zd (zi i1 f2.1.length) <|
 .ret (.inl ((zt (n2-(Nat.cast (List.length (nth f2.1 i1 (zb zV)).1):Int))),(zt (i1+1)))))
  (.ret (.inr n2))
def Z2 f2 s:=T.loop (yJ f2) s
def yl(f3:Form):(Int×Int)→T ((Int×Int)⊕(Int))
 | (n4,i2) =>
 .ite ((decide (i2<(f3.2.2.1.length:Int)))&&(decide ((0:Int)≤n4)))
  (.zd (zi i2 f3.2.2.1.length) <|
 .zd (zi i2 f3.2.2.1.length) <|
 .ret (.inl ((zt ((zt (n4-(Nat.cast (List.length (nth f3.2.2.1 i2 (zb qu)).1):Int)))-(Nat.cast (List.length (nth f3.2.2.1 i2 (zb qu)).2.1):Int))),(zt (i2+1)))))
  (.ret (.inr n4))
def Zr f3 s:=T.loop (yl f3) s
def yu(f4:Form):(Int×Int)→T ((Int×Int)⊕(Int))
 | (n6,i3) =>
 .ite ((decide (i3<(f4.2.2.2.1.length:Int)))&&(decide ((0:Int)≤n6)))
  (.zd (zi i3 f4.2.2.2.1.length) <|
 .ret (.inl ((zt (n6-(Nat.cast (List.length (nth f4.2.2.2.1 i3 (zb q8)).1):Int))),(zt (i3+1)))))
  (.ret (.inr n6))
def Zt f4 s:=T.loop (yu f4) s
def yO(f5:Form):(Int×Int)→T ((Int×Int)⊕(Int))
 | (n8,i4) =>
 .ite ((decide (i4<(f5.2.2.2.2.1.length:Int)))&&(decide ((0:Int)≤n8)))
  (.zd (zi i4 f5.2.2.2.2.1.length) <|
 .zd (zi i4 f5.2.2.2.2.1.length) <|
 .zd (zi i4 f5.2.2.2.2.1.length) <|
 .zd (zi i4 f5.2.2.2.2.1.length) <|
 T.bind (kG (nth f5.2.2.2.2.1 i4 (zb zn)).2.2.2.1 (zt ((zt (n8-(Nat.cast (List.length (nth f5.2.2.2.2.1 i4 (zb zn)).1):Int)))-(Nat.cast (List.length (nth f5.2.2.2.2.1 i4 (zb zn)).2.2.1):Int)))) fun r =>
 T.bind (kG (nth f5.2.2.2.2.1 i4 (zb zn)).2.2.2.2.1 r) fun n9 =>
 .ret (.inl (n9,(zt (i4+1)))))
  (.ret (.inr n8))
def Zk f5 s:=T.loop (yO f5) s
def yB(f6:Form):(Int×Int)→T ((Int×Int)⊕(Int))
 | (n11,i5) =>
 .ite ((decide (i5<(f6.2.2.2.2.2.1.length:Int)))&&(decide ((0:Int)≤n11)))
  (.zd (zi i5 f6.2.2.2.2.2.1.length) <|
 .zd (zi i5 f6.2.2.2.2.2.1.length) <|
 .zd (zi i5 f6.2.2.2.2.2.1.length) <|
 T.bind (kG (nth f6.2.2.2.2.2.1 i5 (zb zm)).2.2.2.1 (zt (n11-(Nat.cast (List.length (nth f6.2.2.2.2.2.1 i5 (zb zm)).1):Int)))) fun r1 =>
 T.bind (kG (nth f6.2.2.2.2.2.1 i5 (zb zm)).2.2.2.2.1 r1) fun n12 =>
 .ret (.inl (n12,(zt (i5+1)))))
  (.ret (.inr n11))
def Z0 f6 s:=T.loop (yB f6) s
def cg(f:Form):T Bool :=
 T.bind (Z8 f ((zt ((600:Int)-(zt ((20:Int)*(zt ((zt ((zt ((zt ((zt ((f.1.length:Int)+(f.2.1.length:Int)))+(f.2.2.1.length:Int)))+(f.2.2.2.1.length:Int)))+(f.2.2.2.2.1.length:Int)))+(f.2.2.2.2.2.1.length:Int))))))),(0:Int))) fun n1 =>
 T.bind (Z2 f (n1,(0:Int))) fun n3 =>
 T.bind (Zr f (n3,(0:Int))) fun n5 =>
 T.bind (Zt f (n5,(0:Int))) fun n7 =>
 T.bind (Zk f (n7,(0:Int))) fun n10 =>
 T.bind (Z0 f (n10,(0:Int))) fun n13 =>
 .ret (decide (n13<(0:Int)))
def gT(l1:(List Rat)):(Int×Int)→T ((Int×Int)⊕(Unit⊕Bool))
 | (n,i) =>
 .ite (decide (i<(l1.length:Int)))
  (.zd (zi i l1.length) <|
 .zd (zi i l1.length) <|
 .zd (((decide ((100:Int)<(zt ((zt ((zt (n+1))+(Nat.cast (List.length (nth l1 i (zb zI)).2.1):Int)))+(Nat.cast (List.length (nth l1 i (zb zI)).2.2.1):Int)))))=false)→((zi i l1.length)∧(((decide ((3:Int)<(Nat.cast (List.length (nth l1 i (zb zI)).2.1):Int)))=false)→(zi i l1.length)))) <|
 .ite ((decide ((100:Int)<(zt ((zt ((zt (n+1))+(Nat.cast (List.length (nth l1 i (zb zI)).2.1):Int)))+(Nat.cast (List.length (nth l1 i (zb zI)).2.2.1):Int)))))||((decide ((3:Int)<(Nat.cast (List.length (nth l1 i (zb zI)).2.1):Int)))||(decide ((3:Int)<(Nat.cast (List.length (nth l1 i (zb zI)).2.2.1):Int)))))
  (.ret (.inr (.inr true)))
  (.ret (.inl ((zt ((zt ((zt (n+1))+(Nat.cast (List.length (nth l1 i (zb zI)).2.1):Int)))+(Nat.cast (List.length (nth l1 i (zb zI)).2.2.1):Int))),(zt (i+1))))))
  (.ret (.inr (.inl ())))
def Xg l1 s:=T.loop (gT l1) s
def fe(l:(List Rat)):T Bool :=
 T.bind (Xg l ((0:Int),(0:Int))) <|
 Sum.elim (fun _ =>
 .ret false)
  (fun x =>
 .ret x)
def uk(c:Int):T Bool :=
 .ret ((decide ((97:Int)≤c))&&(decide (c≤(122:Int))))
def ov(c:Int):T Bool :=
 .ret ((decide ((48:Int)≤c))&&(decide (c≤(57:Int))))
def eO(c:Int):T Bool :=
 T.bind (uk c) fun r =>
 .ite r
  (.ret true)
  (T.bind (ov c) fun r1 =>
 .ite r1
  (.ret true)
  (.ret (c==95)))
def kM(s1:zf)(x1:Int):Int→T (Int⊕(Unit⊕Bool))
 | x2 =>
 .ite (decide (x2<x1))
  (.zd (zi x2 s1.length) <|
 T.bind (eO (wA s1 x2)) fun r1 =>
 .ite (!r1)
  (.ret (.inr (.inr false)))
  (.ret (.inl (zt (x2+1)))))
  (.ret (.inr (.inl ())))
def Xv s1 x1 s:=T.loop (kM s1 x1) s
def uR(s:zf):T Bool :=
 T.bind (.ite (zF s ([]:zf))
  (.ret true)
  (.ite (decide ((24:Int)<(s.length:Int)))
  (.ret true)
  (.zd (zi (0:Int) s.length) <|
 T.bind (uk (wA s (0:Int))) fun r =>
 .ret (!r))):T (Bool)) fun x =>
 .ite x
  (.ret false)
  (T.bind (Xv s (s.length:Int) (0:Int)) <|
 Sum.elim (fun _ =>
 .ret true)
  (fun x3 =>
 .ret x3))
def vz(s:Switch):T Bool :=
 T.bind (uR s.1) fun r =>
 .ret (!r)
def qf(s1:(List Switch))(f:Switch→T Bool)(x:Int):Int→T (Int⊕(Unit⊕Int))
 | x1 =>
 .ite (decide (x1<x))
  (.zd (zi x1 s1.length) <|
 T.bind (f (nth s1 x1 (zb zV))) fun r =>
 .ite r
  (.ret (.inr (.inr x1)))
  (.ret (.inl (zt (x1+1)))))
  (.ret (.inr (.inl ())))
def wT s1 f x s:=T.loop (qf s1 f x) s
def ql(s:(List Switch))(f:Switch→T Bool):T Int :=
 T.bind (wT s f (s.length:Int) (0:Int)) <|
 Sum.elim (fun _ =>
 .ret (-1:Int))
  (fun x2 =>
 .ret x2)
def qC(s:(List Switch))(f:Switch→T Bool):T Bool :=
 T.bind (ql s f) fun r =>
 .ret (decide ((0:Int)≤r))
def iA(a:(List Int)):T Bool :=
 .zd ((((a.length:Int)==(0:Int))=false)→(zi (zt ((a.length:Int)-(1:Int))) a.length)) <|
 .ret (((a.length:Int)==(0:Int))||((nth a (zt ((a.length:Int)-(1:Int))) (zb (.int .u32))) != 0))
def lE  : (List Int)→T ((List Int)⊕((List Int)))
 | a1 =>
 T.bind (iA a1) fun r =>
 .ite (!r)
  (.zd (mM (0:Int) (zt ((a1.length:Int)-(1:Int))) a1.length) <|
 .ret (.inl (uq (e:=(.int .u32)) (0:Int) (zt ((a1.length:Int)-(1:Int))) a1)))
  (.ret (.inr a1))
def rM(s:(List Int)):T ((List Int)):=T.loop (lE ) s
def xK(a:(List Int)):T (List Int) :=
 T.bind (rM  a) fun a2 =>
 .ret a2
def vj(s:(List Int)):T (List Int) :=
 .zd (s=[]→∀ r,T.leads (.zd (xp (0:Nat) (0:Nat) (0:Nat) (0:Nat) (0:Nat) s.length (4:Nat)) <|
 .zd (((0:Nat)+s.length)=((0:Nat)+s.length)) <|
 .ret (List.drop (0:Nat) (List.take ((0:Nat)+((0:Nat)+s.length)) s)):T _) r→T.leads (.ret ([]:List Int):T _) r) <|
 .zd (xp (0:Nat) (0:Nat) (0:Nat) (0:Nat) (0:Nat) s.length (4:Nat)) <|
 .zd (((0:Nat)+s.length)=((0:Nat)+s.length)) <|
 .ret (List.drop (0:Nat) (List.take ((0:Nat)+((0:Nat)+s.length)) s))
def bH(a:(List Int)):T (List Int) :=
 T.bind (xK a) fun r =>
 T.bind (vj r) fun r1 =>
 .ret r1
def fO(a2:(List Int))(b2:(List Int)):Int→T (Int⊕(Unit⊕Int))
 | i =>
 .ite (decide ((0:Int)≤i))
  (.zd (zi i a2.length) <|
 .zd (zi i b2.length) <|
 .ite ((nth a2 i (zb (.int .u32))) != (nth b2 i (zb (.int .u32))))
  (.zd (zi i a2.length) <|
 .zd (zi i b2.length) <|
 .ite (decide ((nth a2 i (zb (.int .u32)))<(nth b2 i (zb (.int .u32)))))
  (.ret (.inr (.inr (-1:Int))))
  (.ret (.inr (.inr (1:Int)))))
  (.ret (.inl (zt (i-1)))))
  (.ret (.inr (.inl ())))
def K7 a2 b2 s:=T.loop (fO a2 b2) s
def lC(a:(List Int))(b:(List Int)):T Int :=
 T.bind (xK a) fun a1 =>
 T.bind (xK b) fun b1 =>
 .ite ((a1.length:Int) != (b1.length:Int))
  (.ite (decide ((a1.length:Int)<(b1.length:Int)))
  (.ret (-1:Int))
  (.ret (1:Int)))
  (T.bind (K7 a1 b1 (zt ((a1.length:Int)-(1:Int)))) <|
 Sum.elim (fun _ =>
 .ret (0:Int))
  (fun x =>
 .ret x))
def yZ(hi:Int)(lo:Int)(y:Int):T (Int×Int) :=
 .ite ((y != 0)&&(decide (y≤hi)))
  (.fail)
  (.zd ((0:Int)≤(32:Int)) <|
 .zd ((zw y)≠(0:Int)) <|
 .zd ((zw y)≠(0:Int)) <|
 .ret ((qD (zw (Int.tdiv (gL .u64 (xU .u64 (zw hi) (32:Int)) (zw lo)) (zw y)))),(qD (Int.tmod (gL .u64 (xU .u64 (zw hi) (32:Int)) (zw lo)) (zw y)))))
def eX(a1:(List Int))(b1:Int):(Int×Int×(List Int))→T ((Int×Int×(List Int))⊕((Int×(List Int))))
 | (rest,i,xs) =>
 .ite (decide ((0:Int)≤i))
  (.zd (zi i a1.length) <|
 T.bind (yZ rest (nth a1 i (zb (.int .u32))) b1) fun(r,rest1) =>
 .zd (zi i xs.length) <|
 .zd (eB xs.length xs.length ((0:Nat)+(Int.toNat i)) xs.length) <|
 .zd (zh xs.length (0:Nat) xs.length (List.length (List.set xs ((0:Nat)+(Int.toNat i)) r))) <|
 .zd (xs.length=(List.length (List.set xs ((0:Nat)+(Int.toNat i)) r))) <|
 .ret (.inl (rest1,((zt (i-1)),(List.set xs ((0:Nat)+(Int.toNat i)) r)))))
  (.zd (zh xs.length (0:Nat) xs.length xs.length) <|
 .zd (xs.length=xs.length) <|
 .ret (.inr (rest,xs)))
def QD a1 b1 s:=T.loop (eX a1 b1) s
def fj(a:(List Int))(b:Int):T ((List Int)×Int) :=
 .zd (Qy (a.length:Int) (a.length:Int) (4:Nat)) <|
 .zd (zh (Int.toNat (a.length:Int)) (0:Nat) (Int.toNat (a.length:Int)) (List.length (List.replicate (Int.toNat (a.length:Int)) (0:Int)))) <|
 .zd ((Int.toNat (a.length:Int))=(List.length (List.replicate (Int.toNat (a.length:Int)) (0:Int)))) <|
 T.bind (QD a b ((0:Int),((zt ((a.length:Int)-(1:Int))),(List.replicate (Int.toNat (a.length:Int)) (0:Int))))) fun(rest2,zy) =>
 .zd (zy.length=zy.length) <|
 T.bind (xK (List.drop (0:Nat) (List.take ((0:Nat)+zy.length) zy))) fun r1 =>
 .ret (r1,rest2)
def jW(n:Int):T (List Int) :=
 .zd ((0:Int)≤(32:Int)) <|
 T.bind (xK ([(qD n),(qD (qV .u64 n (32:Int)))]:List Int)) fun r =>
 .ret r
def yR(x:Int):T Int :=
 .zd (((decide ((65536:Int)≤x))=true)→((0:Int)≤(16:Int))) <|
 .zd (((decide ((256:Int)≤(bif (decide ((65536:Int)≤x))then(qV .u32 x (16:Int))else x)))=true)→((0:Int)≤(8:Int))) <|
 .zd (zi (Mv (bif (decide ((256:Int)≤(bif (decide ((65536:Int)≤x))then(qV .u32 x (16:Int))else x)))then(qV .u32 (bif (decide ((65536:Int)≤x))then(qV .u32 x (16:Int))else x) (8:Int))else(bif (decide ((65536:Int)≤x))then(qV .u32 x (16:Int))else x))) ([0,1,2,2,3,3,3,3,4,4,4,4,4,4,4,4,5,5,5,5,5,5,5,5,5,5,5,5,5,5,5,5,6,6,6,6,6,6,6,6,6,6,6,6,6,6,6,6,6,6,6,6,6,6,6,6,6,6,6,6,6,6,6,6,7,7,7,7,7,7,7,7,7,7,7,7,7,7,7,7,7,7,7,7,7,7,7,7,7,7,7,7,7,7,7,7,7,7,7,7,7,7,7,7,7,7,7,7,7,7,7,7,7,7,7,7,7,7,7,7,7,7,7,7,7,7,7,7,8,8,8,8,8,8,8,8,8,8,8,8,8,8,8,8,8,8,8,8,8,8,8,8,8,8,8,8,8,8,8,8,8,8,8,8,8,8,8,8,8,8,8,8,8,8,8,8,8,8,8,8,8,8,8,8,8,8,8,8,8,8,8,8,8,8,8,8,8,8,8,8,8,8,8,8,8,8,8,8,8,8,8,8,8,8,8,8,8,8,8,8,8,8,8,8,8,8,8,8,8,8,8,8,8,8,8,8,8,8,8,8,8,8,8,8,8,8,8,8,8,8,8,8,8,8,8,8]:zf).length) <|
 .ret (zt ((bif (decide ((256:Int)≤(bif (decide ((65536:Int)≤x))then(qV .u32 x (16:Int))else x)))then(zt ((bif (decide ((65536:Int)≤x))then(16:Int)else(0:Int))+8))else(bif (decide ((65536:Int)≤x))then(16:Int)else(0:Int)))+(zt (wA ([0,1,2,2,3,3,3,3,4,4,4,4,4,4,4,4,5,5,5,5,5,5,5,5,5,5,5,5,5,5,5,5,6,6,6,6,6,6,6,6,6,6,6,6,6,6,6,6,6,6,6,6,6,6,6,6,6,6,6,6,6,6,6,6,7,7,7,7,7,7,7,7,7,7,7,7,7,7,7,7,7,7,7,7,7,7,7,7,7,7,7,7,7,7,7,7,7,7,7,7,7,7,7,7,7,7,7,7,7,7,7,7,7,7,7,7,7,7,7,7,7,7,7,7,7,7,7,7,8,8,8,8,8,8,8,8,8,8,8,8,8,8,8,8,8,8,8,8,8,8,8,8,8,8,8,8,8,8,8,8,8,8,8,8,8,8,8,8,8,8,8,8,8,8,8,8,8,8,8,8,8,8,8,8,8,8,8,8,8,8,8,8,8,8,8,8,8,8,8,8,8,8,8,8,8,8,8,8,8,8,8,8,8,8,8,8,8,8,8,8,8,8,8,8,8,8,8,8,8,8,8,8,8,8,8,8,8,8,8,8,8,8,8,8,8,8,8,8,8,8,8,8,8,8,8,8]:zf) (Mv (bif (decide ((256:Int)≤(bif (decide ((65536:Int)≤x))then(qV .u32 x (16:Int))else x)))then(qV .u32 (bif (decide ((65536:Int)≤x))then(qV .u32 x (16:Int))else x) (8:Int))else(bif (decide ((65536:Int)≤x))then(qV .u32 x (16:Int))else x)))))))
def wR(x:Int):T Int :=
 T.bind (yR x) fun r =>
 .ret (zt ((32:Int)-r))
def Zn(wW:Int)(n1:Int)(x:(List Int))(x1:Int):(Int×(List Int))→T ((Int×(List Int))⊕((List Int)))
 | (x2,xs) =>
 .ite (decide (x2<x1))
  (.zd (zi x2 x.length) <|
 .zd ((0:Int)≤wW) <|
 .zd (zi x2 xs.length) <|
 .zd (eB xs.length xs.length ((0:Nat)+(Int.toNat x2)) xs.length) <|
 .zd (zi x2 xs.length) <|
 .zd (eB xs.length xs.length ((0:Nat)+(Int.toNat x2)) xs.length) <|
 .ite (decide ((zt (x2+1))<n1))
  (.zd ((0:Int)≤(32:Int)) <|
 .zd (zi (zt (x2+1)) xs.length) <|
 .zd (eB xs.length xs.length ((0:Nat)+(Int.toNat (zt (x2+1)))) (List.length (List.set xs ((0:Nat)+(Int.toNat x2)) (gL .u32 (xj xs ((0:Nat)+(Int.toNat x2)) (zb (.int .u32))) (qD (xU .u64 (zw (nth x x2 (zb (.int .u32)))) wW)))))) <|
 .zd (zh xs.length (0:Nat) xs.length (List.length (List.set (List.set xs ((0:Nat)+(Int.toNat x2)) (gL .u32 (xj xs ((0:Nat)+(Int.toNat x2)) (zb (.int .u32))) (qD (xU .u64 (zw (nth x x2 (zb (.int .u32)))) wW)))) ((0:Nat)+(Int.toNat (zt (x2+1)))) (qD (qV .u64 (xU .u64 (zw (nth x x2 (zb (.int .u32)))) wW) (32:Int)))))) <|
 .zd (xs.length=(List.length (List.set (List.set xs ((0:Nat)+(Int.toNat x2)) (gL .u32 (xj xs ((0:Nat)+(Int.toNat x2)) (zb (.int .u32))) (qD (xU .u64 (zw (nth x x2 (zb (.int .u32)))) wW)))) ((0:Nat)+(Int.toNat (zt (x2+1)))) (qD (qV .u64 (xU .u64 (zw (nth x x2 (zb (.int .u32)))) wW) (32:Int)))))) <|
 .ret (.inl ((zt (x2+1)),(List.set (List.set xs ((0:Nat)+(Int.toNat x2)) (gL .u32 (xj xs ((0:Nat)+(Int.toNat x2)) (zb (.int .u32))) (qD (xU .u64 (zw (nth x x2 (zb (.int .u32)))) wW)))) ((0:Nat)+(Int.toNat (zt (x2+1)))) (qD (qV .u64 (xU .u64 (zw (nth x x2 (zb (.int .u32)))) wW) (32:Int)))))))
  (.zd (zh xs.length (0:Nat) xs.length (List.length (List.set xs ((0:Nat)+(Int.toNat x2)) (gL .u32 (xj xs ((0:Nat)+(Int.toNat x2)) (zb (.int .u32))) (qD (xU .u64 (zw (nth x x2 (zb (.int .u32)))) wW)))))) <|
 .zd (xs.length=(List.length (List.set xs ((0:Nat)+(Int.toNat x2)) (gL .u32 (xj xs ((0:Nat)+(Int.toNat x2)) (zb (.int .u32))) (qD (xU .u64 (zw (nth x x2 (zb (.int .u32)))) wW)))))) <|
 .ret (.inl ((zt (x2+1)),(List.set xs ((0:Nat)+(Int.toNat x2)) (gL .u32 (xj xs ((0:Nat)+(Int.toNat x2)) (zb (.int .u32))) (qD (xU .u64 (zw (nth x x2 (zb (.int .u32)))) wW))))))))
  (.zd (zh xs.length (0:Nat) xs.length xs.length) <|
 .zd (xs.length=xs.length) <|
 .ret (.inr xs))
def tR wW n1 x x1 s:=T.loop (Zn wW n1 x x1) s
def fx(a:(List Int))(vd:Int)(n:Int):T (List Int) :=
 .zd (Qy n n (4:Nat)) <|
 .zd (zh (Int.toNat n) (0:Nat) (Int.toNat n) (List.length (List.replicate (Int.toNat n) (0:Int)))) <|
 .zd ((Int.toNat n)=(List.length (List.replicate (Int.toNat n) (0:Int)))) <|
 T.bind (tR vd n a (a.length:Int) ((0:Int),(List.replicate (Int.toNat n) (0:Int)))) fun zy =>
 .zd (zh zy.length (0:Nat) zy.length zy.length) <|
 .zd (zy.length=zy.length) <|
 .ret zy
def gZ(z5a:Int)(b11:Int)(b21:Int):(Int×Int)→T ((Int×Int)⊕(Int))
 | (q,r) =>
 .zd (((0:Int)≤(32:Int))∧((((qV .u64 q (32:Int)) != 0)=false)→((0:Int)≤(32:Int)))) <|
 .ite (((qV .u64 q (32:Int)) != 0)||(decide ((gL .u64 (xU .u64 r (32:Int)) (zw z5a))<(zw (q*(zw b21))))))
  (.zd ((0:Int)≤(32:Int)) <|
 .ite ((qV .u64 (zw (r+(zw b11))) (32:Int)) != 0)
  (.ret (.inr (zw (q-1))))
  (.ret (.inl ((zw (q-1)),(zw (r+(zw b11)))))))
  (.ret (.inr q))
def Qx z5a b11 b21 s:=T.loop (gZ z5a b11 b21) s
def fm(high:Int)(mid:Int)(low:Int)(b1:Int)(b2:Int):T Int :=
 .zd ((0:Int)≤(32:Int)) <|
 .zd ((zw b1)≠(0:Int)) <|
 .zd ((zw b1)≠(0:Int)) <|
 T.bind (Qx low b1 b2 ((zw (Int.tdiv (gL .u64 (xU .u64 (zw high) (32:Int)) (zw mid)) (zw b1))),(Int.tmod (gL .u64 (xU .u64 (zw high) (32:Int)) (zw mid)) (zw b1)))) fun q1 =>
 .ret q1
def vW(x:Int)(y:Int)(borrow:Int):T (Int×Int) :=
 .zd ((0:Int)≤(31:Int)) <|
 .ret ((qD ((qD (x-y))-borrow)),(qV .u32 (gL .u32 (lX .u32 (EW .u32 (4294967295:Int) x) y) (lX .u32 (EW .u32 (4294967295:Int) (EW .u32 x y)) (qD ((qD (x-y))-borrow)))) (31:Int)))
def yX(x:Int)(y:Int)(carry:Int):T (Int×Int) :=
 .zd ((0:Int)≤(32:Int)) <|
 .ret ((qD (zw ((zw ((zw x)+(zw y)))+(zw carry)))),(qD (qV .u64 (zw ((zw ((zw x)+(zw y)))+(zw carry))) (32:Int))))
def bu(b1:(List Int))(q1:Int)(x:(List Int))(x1:Int):((Nat×Nat)×Int×Int×Int×(List Int))→T (((Nat×Nat)×Int×Int×Int×(List Int))⊕(((Nat×Nat)×Int×Int×(List Int))))
 | (u1,carry,borrow,x2,xs) =>
 .ite (decide (x2<x1))
  (.zd (zi x2 x.length) <|
 .zd (zi x2 u1.2) <|
 .zd (eB xs.length xs.length (u1.1+(Int.toNat x2)) xs.length) <|
 T.bind (vW (xj xs (u1.1+(Int.toNat x2)) (zb (.int .u32))) (qD (zw (carry+(zw (q1*(zw (nth x x2 (zb (.int .u32))))))))) borrow) fun(r,borrow1) =>
 .zd (zi x2 u1.2) <|
 .zd (eB xs.length xs.length (u1.1+(Int.toNat x2)) xs.length) <|
 .zd ((0:Int)≤(32:Int)) <|
 .zd (xs.length=xs.length) <|
 .zd (xs.length=(List.length (List.set xs (u1.1+(Int.toNat x2)) r))) <|
 .ret (.inl (u1,((qV .u64 (zw (carry+(zw (q1*(zw (nth x x2 (zb (.int .u32)))))))) (32:Int)),(borrow1,((zt (x2+1)),(List.set xs (u1.1+(Int.toNat x2)) r)))))))
  (.zd (xs.length=xs.length) <|
 .zd (xs.length=xs.length) <|
 .ret (.inr (u1,(carry,(borrow,xs)))))
def sx b1 q1 x x1 s:=T.loop (bu b1 q1 x x1) s
def bA(b2:(List Int))(x3:(List Int))(x4:Int):((Nat×Nat)×Int×Int×(List Int))→T (((Nat×Nat)×Int×Int×(List Int))⊕(((Nat×Nat)×Int×(List Int))))
 | (u3,more,x5,zR) =>
 .ite (decide (x5<x4))
  (.zd (zi x5 x3.length) <|
 .zd (zi x5 u3.2) <|
 .zd (eB zR.length zR.length (u3.1+(Int.toNat x5)) zR.length) <|
 T.bind (yX (xj zR (u3.1+(Int.toNat x5)) (zb (.int .u32))) (nth x3 x5 (zb (.int .u32))) more) fun(r2,more1) =>
 .zd (zi x5 u3.2) <|
 .zd (eB zR.length zR.length (u3.1+(Int.toNat x5)) zR.length) <|
 .zd (zR.length=zR.length) <|
 .zd (zR.length=(List.length (List.set zR (u3.1+(Int.toNat x5)) r2))) <|
 .ret (.inl (u3,(more1,((zt (x5+1)),(List.set zR (u3.1+(Int.toNat x5)) r2))))))
  (.zd (zR.length=zR.length) <|
 .zd (zR.length=zR.length) <|
 .ret (.inr (u3,(more,zR))))
def rG b2 x3 x4 s:=T.loop (bA b2 x3 x4) s
def lv(uw:(Nat×Nat))(b:(List Int))(q:Int)(u:(List Int)):T (Bool×(List Int)) :=
 .zd (u.length=u.length) <|
 .zd (u.length=u.length) <|
 T.bind (sx b q b (b.length:Int) (uw,((0:Int),((0:Int),((0:Int),u))))) fun(u2,carry1,borrow2,zy) =>
 .zd (zi (b.length:Int) u2.2) <|
 .zd (eB zy.length zy.length (u2.1+(Int.toNat (b.length:Int))) zy.length) <|
 T.bind (vW (xj zy (u2.1+(Int.toNat (b.length:Int))) (zb (.int .u32))) (qD carry1) borrow2) fun(r1,borrow3) =>
 .zd (zi (b.length:Int) u2.2) <|
 .zd (eB zy.length zy.length (u2.1+(Int.toNat (b.length:Int))) zy.length) <|
 .ite (borrow3==0)
  (.zd (zy.length=(List.length (List.set zy (u2.1+(Int.toNat (b.length:Int))) r1))) <|
 .ret (false,(List.set zy (u2.1+(Int.toNat (b.length:Int))) r1)))
  (.zd (zy.length=zy.length) <|
 .zd (zy.length=(List.length (List.set zy (u2.1+(Int.toNat (b.length:Int))) r1))) <|
 T.bind (rG b b (b.length:Int) (u2,((0:Int),((0:Int),(List.set zy (u2.1+(Int.toNat (b.length:Int))) r1))))) fun(u4,more2,qH) =>
 .zd (zi (b.length:Int) u4.2) <|
 .zd (eB qH.length qH.length (u4.1+(Int.toNat (b.length:Int))) qH.length) <|
 .zd (zi (b.length:Int) u4.2) <|
 .zd (eB qH.length qH.length (u4.1+(Int.toNat (b.length:Int))) qH.length) <|
 .zd (qH.length=(List.length (List.set qH (u4.1+(Int.toNat (b.length:Int))) (qD ((xj qH (u4.1+(Int.toNat (b.length:Int))) (zb (.int .u32)))+more2))))) <|
 .ret (true,(List.set qH (u4.1+(Int.toNat (b.length:Int))) (qD ((xj qH (u4.1+(Int.toNat (b.length:Int))) (zb (.int .u32)))+more2)))))
def dI(wW:Int)(n1:Int)(x:(List Int))(x1:Int):(Int×(List Int))→T ((Int×(List Int))⊕((List Int)))
 | (x2,xs) =>
 .ite (decide (x2<x1))
  (.zd (zi x2 x.length) <|
 .zd ((0:Int)≤wW) <|
 .zd (zi x2 xs.length) <|
 .zd (eB xs.length xs.length ((0:Nat)+(Int.toNat x2)) xs.length) <|
 .zd (zi x2 xs.length) <|
 .zd (eB xs.length xs.length ((0:Nat)+(Int.toNat x2)) xs.length) <|
 .ite (decide ((zt (x2+1))<n1))
  (.zd ((0:Int)≤(32:Int)) <|
 .zd (zi (zt (x2+1)) xs.length) <|
 .zd (eB xs.length xs.length ((0:Nat)+(Int.toNat (zt (x2+1)))) (List.length (List.set xs ((0:Nat)+(Int.toNat x2)) (gL .u32 (xj xs ((0:Nat)+(Int.toNat x2)) (zb (.int .u32))) (qD (xU .u64 (zw (nth x x2 (zb (.int .u32)))) wW)))))) <|
 .zd (zh xs.length (0:Nat) xs.length (List.length (List.set (List.set xs ((0:Nat)+(Int.toNat x2)) (gL .u32 (xj xs ((0:Nat)+(Int.toNat x2)) (zb (.int .u32))) (qD (xU .u64 (zw (nth x x2 (zb (.int .u32)))) wW)))) ((0:Nat)+(Int.toNat (zt (x2+1)))) (qD (qV .u64 (xU .u64 (zw (nth x x2 (zb (.int .u32)))) wW) (32:Int)))))) <|
 .zd (xs.length=(List.length (List.set (List.set xs ((0:Nat)+(Int.toNat x2)) (gL .u32 (xj xs ((0:Nat)+(Int.toNat x2)) (zb (.int .u32))) (qD (xU .u64 (zw (nth x x2 (zb (.int .u32)))) wW)))) ((0:Nat)+(Int.toNat (zt (x2+1)))) (qD (qV .u64 (xU .u64 (zw (nth x x2 (zb (.int .u32)))) wW) (32:Int)))))) <|
 .ret (.inl ((zt (x2+1)),(List.set (List.set xs ((0:Nat)+(Int.toNat x2)) (gL .u32 (xj xs ((0:Nat)+(Int.toNat x2)) (zb (.int .u32))) (qD (xU .u64 (zw (nth x x2 (zb (.int .u32)))) wW)))) ((0:Nat)+(Int.toNat (zt (x2+1)))) (qD (qV .u64 (xU .u64 (zw (nth x x2 (zb (.int .u32)))) wW) (32:Int)))))))
  (.zd (zh xs.length (0:Nat) xs.length (List.length (List.set xs ((0:Nat)+(Int.toNat x2)) (gL .u32 (xj xs ((0:Nat)+(Int.toNat x2)) (zb (.int .u32))) (qD (xU .u64 (zw (nth x x2 (zb (.int .u32)))) wW)))))) <|
 .zd (xs.length=(List.length (List.set xs ((0:Nat)+(Int.toNat x2)) (gL .u32 (xj xs ((0:Nat)+(Int.toNat x2)) (zb (.int .u32))) (qD (xU .u64 (zw (nth x x2 (zb (.int .u32)))) wW)))))) <|
 .ret (.inl ((zt (x2+1)),(List.set xs ((0:Nat)+(Int.toNat x2)) (gL .u32 (xj xs ((0:Nat)+(Int.toNat x2)) (zb (.int .u32))) (qD (xU .u64 (zw (nth x x2 (zb (.int .u32)))) wW))))))))
  (.zd (zh xs.length (0:Nat) xs.length xs.length) <|
 .zd (xs.length=xs.length) <|
 .ret (.inr xs))
def V0 wW n1 x x1 s:=T.loop (dI wW n1 x x1) s
def X9(a:(List Int))(vd:Int)(n:Int):T (List Int) :=
 .zd (Qy n n (4:Nat)) <|
 .zd (zh (Int.toNat n) (0:Nat) (Int.toNat n) (List.length (List.replicate (Int.toNat n) (0:Int)))) <|
 .zd ((Int.toNat n)=(List.length (List.replicate (Int.toNat n) (0:Int)))) <|
 T.bind (V0 vd n a (a.length:Int) ((0:Int),(List.replicate (Int.toNat n) (0:Int)))) fun zy =>
 .zd (zy.length=zy.length) <|
 .ret (List.drop (0:Nat) (List.take ((0:Nat)+zy.length) zy))
def bp(vd:Int)(x:(List Int))(x1:Int):(Int×(List Int))→T ((Int×(List Int))⊕((List Int)))
 | (x2,xs) =>
 .ite (decide (x2<x1))
  (.zd (zi x2 x.length) <|
 .zd ((0:Int)≤(32:Int)) <|
 .zd ((0:Int)≤vd) <|
 .zd (zi x2 xs.length) <|
 .zd (eB xs.length xs.length ((0:Nat)+(Int.toNat x2)) xs.length) <|
 .zd ((0:Int)≤(32:Int)) <|
 .zd (zi x2 xs.length) <|
 .zd (eB xs.length xs.length ((0:Nat)+(Int.toNat x2)) xs.length) <|
 .ite (decide ((0:Int)<x2))
  (.zd (zi (zt (x2-1)) xs.length) <|
 .zd (eB xs.length xs.length ((0:Nat)+(Int.toNat (zt (x2-1)))) (List.length (List.set xs ((0:Nat)+(Int.toNat x2)) (gL .u32 (xj xs ((0:Nat)+(Int.toNat x2)) (zb (.int .u32))) (qD (qV .u64 (qV .u64 (xU .u64 (zw (nth x x2 (zb (.int .u32)))) (32:Int)) vd) (32:Int))))))) <|
 .zd (zi (zt (x2-1)) xs.length) <|
 .zd (eB xs.length xs.length ((0:Nat)+(Int.toNat (zt (x2-1)))) (List.length (List.set xs ((0:Nat)+(Int.toNat x2)) (gL .u32 (xj xs ((0:Nat)+(Int.toNat x2)) (zb (.int .u32))) (qD (qV .u64 (qV .u64 (xU .u64 (zw (nth x x2 (zb (.int .u32)))) (32:Int)) vd) (32:Int))))))) <|
 .zd (zh xs.length (0:Nat) xs.length (List.length (List.set (List.set xs ((0:Nat)+(Int.toNat x2)) (gL .u32 (xj xs ((0:Nat)+(Int.toNat x2)) (zb (.int .u32))) (qD (qV .u64 (qV .u64 (xU .u64 (zw (nth x x2 (zb (.int .u32)))) (32:Int)) vd) (32:Int))))) ((0:Nat)+(Int.toNat (zt (x2-1)))) (gL .u32 (xj (List.set xs ((0:Nat)+(Int.toNat x2)) (gL .u32 (xj xs ((0:Nat)+(Int.toNat x2)) (zb (.int .u32))) (qD (qV .u64 (qV .u64 (xU .u64 (zw (nth x x2 (zb (.int .u32)))) (32:Int)) vd) (32:Int))))) ((0:Nat)+(Int.toNat (zt (x2-1)))) (zb (.int .u32))) (qD (qV .u64 (xU .u64 (zw (nth x x2 (zb (.int .u32)))) (32:Int)) vd)))))) <|
 .zd (xs.length=(List.length (List.set (List.set xs ((0:Nat)+(Int.toNat x2)) (gL .u32 (xj xs ((0:Nat)+(Int.toNat x2)) (zb (.int .u32))) (qD (qV .u64 (qV .u64 (xU .u64 (zw (nth x x2 (zb (.int .u32)))) (32:Int)) vd) (32:Int))))) ((0:Nat)+(Int.toNat (zt (x2-1)))) (gL .u32 (xj (List.set xs ((0:Nat)+(Int.toNat x2)) (gL .u32 (xj xs ((0:Nat)+(Int.toNat x2)) (zb (.int .u32))) (qD (qV .u64 (qV .u64 (xU .u64 (zw (nth x x2 (zb (.int .u32)))) (32:Int)) vd) (32:Int))))) ((0:Nat)+(Int.toNat (zt (x2-1)))) (zb (.int .u32))) (qD (qV .u64 (xU .u64 (zw (nth x x2 (zb (.int .u32)))) (32:Int)) vd)))))) <|
 .ret (.inl ((zt (x2+1)),(List.set (List.set xs ((0:Nat)+(Int.toNat x2)) (gL .u32 (xj xs ((0:Nat)+(Int.toNat x2)) (zb (.int .u32))) (qD (qV .u64 (qV .u64 (xU .u64 (zw (nth x x2 (zb (.int .u32)))) (32:Int)) vd) (32:Int))))) ((0:Nat)+(Int.toNat (zt (x2-1)))) (gL .u32 (xj (List.set xs ((0:Nat)+(Int.toNat x2)) (gL .u32 (xj xs ((0:Nat)+(Int.toNat x2)) (zb (.int .u32))) (qD (qV .u64 (qV .u64 (xU .u64 (zw (nth x x2 (zb (.int .u32)))) (32:Int)) vd) (32:Int))))) ((0:Nat)+(Int.toNat (zt (x2-1)))) (zb (.int .u32))) (qD (qV .u64 (xU .u64 (zw (nth x x2 (zb (.int .u32)))) (32:Int)) vd)))))))
  (.zd (zh xs.length (0:Nat) xs.length (List.length (List.set xs ((0:Nat)+(Int.toNat x2)) (gL .u32 (xj xs ((0:Nat)+(Int.toNat x2)) (zb (.int .u32))) (qD (qV .u64 (qV .u64 (xU .u64 (zw (nth x x2 (zb (.int .u32)))) (32:Int)) vd) (32:Int))))))) <|
 .zd (xs.length=(List.length (List.set xs ((0:Nat)+(Int.toNat x2)) (gL .u32 (xj xs ((0:Nat)+(Int.toNat x2)) (zb (.int .u32))) (qD (qV .u64 (qV .u64 (xU .u64 (zw (nth x x2 (zb (.int .u32)))) (32:Int)) vd) (32:Int))))))) <|
 .ret (.inl ((zt (x2+1)),(List.set xs ((0:Nat)+(Int.toNat x2)) (gL .u32 (xj xs ((0:Nat)+(Int.toNat x2)) (zb (.int .u32))) (qD (qV .u64 (qV .u64 (xU .u64 (zw (nth x x2 (zb (.int .u32)))) (32:Int)) vd) (32:Int)))))))))
  (.zd (zh xs.length (0:Nat) xs.length xs.length) <|
 .zd (xs.length=xs.length) <|
 .ret (.inr xs))
def Xz vd x x1 s:=T.loop (bp vd x x1) s
def bZ(a:(List Int))(n:Int):T (List Int) :=
 T.bind (xK a) fun a1 =>
 .ite (decide ((wK (w7 n (-4096:Int)) (4096:Int))<(0:Int)))
  (.zd ((32:Int)≠(0:Int)) <|
 .ite (decide ((a1.length:Int)≤(zt (Int.tdiv (zt ((0:Int)-(wK (w7 n (-4096:Int)) (4096:Int)))) (32:Int)))))
  (.ret ([]:List Int))
  (.zd ((32:Int)≠(0:Int)) <|
 .zd (Qy (zt ((a1.length:Int)-(zt (Int.tdiv (zt ((0:Int)-(wK (w7 n (-4096:Int)) (4096:Int)))) (32:Int))))) (zt ((a1.length:Int)-(zt (Int.tdiv (zt ((0:Int)-(wK (w7 n (-4096:Int)) (4096:Int)))) (32:Int))))) (4:Nat)) <|
 .zd (mM (zt (Int.tdiv (zt ((0:Int)-(wK (w7 n (-4096:Int)) (4096:Int)))) (32:Int))) (a1.length:Int) a1.length) <|
 .zd (zh (Int.toNat (zt ((a1.length:Int)-(zt (Int.tdiv (zt ((0:Int)-(wK (w7 n (-4096:Int)) (4096:Int)))) (32:Int)))))) (0:Nat) (Int.toNat (zt ((a1.length:Int)-(zt (Int.tdiv (zt ((0:Int)-(wK (w7 n (-4096:Int)) (4096:Int)))) (32:Int)))))) (List.length (List.replicate (Int.toNat (zt ((a1.length:Int)-(zt (Int.tdiv (zt ((0:Int)-(wK (w7 n (-4096:Int)) (4096:Int)))) (32:Int)))))) (0:Int)))) <|
 .zd ((Int.toNat (zt ((a1.length:Int)-(zt (Int.tdiv (zt ((0:Int)-(wK (w7 n (-4096:Int)) (4096:Int)))) (32:Int))))))=(List.length (List.replicate (Int.toNat (zt ((a1.length:Int)-(zt (Int.tdiv (zt ((0:Int)-(wK (w7 n (-4096:Int)) (4096:Int)))) (32:Int)))))) (0:Int)))) <|
 T.bind (Xz (zw (Int.tmod (zt ((0:Int)-(wK (w7 n (-4096:Int)) (4096:Int)))) (32:Int))) (uq (e:=(.int .u32)) (zt (Int.tdiv (zt ((0:Int)-(wK (w7 n (-4096:Int)) (4096:Int)))) (32:Int))) (a1.length:Int) a1) (Nat.cast (List.length (uq (e:=(.int .u32)) (zt (Int.tdiv (zt ((0:Int)-(wK (w7 n (-4096:Int)) (4096:Int)))) (32:Int))) (a1.length:Int) a1)):Int) ((0:Int),(List.replicate (Int.toNat (zt ((a1.length:Int)-(zt (Int.tdiv (zt ((0:Int)-(wK (w7 n (-4096:Int)) (4096:Int)))) (32:Int)))))) (0:Int)))) fun zy =>
 .zd (zy.length=zy.length) <|
 T.bind (xK (List.drop (0:Nat) (List.take ((0:Nat)+zy.length) zy))) fun r =>
 .ret r))
  (.zd ((32:Int)≠(0:Int)) <|
 .zd (Qy (zt ((zt ((zt (Int.tdiv (wK (w7 n (-4096:Int)) (4096:Int)) (32:Int)))+(a1.length:Int)))+1)) (zt ((zt ((zt (Int.tdiv (wK (w7 n (-4096:Int)) (4096:Int)) (32:Int)))+(a1.length:Int)))+1)) (4:Nat)) <|
 .zd (mM (zt (Int.tdiv (wK (w7 n (-4096:Int)) (4096:Int)) (32:Int))) (Nat.cast (Int.toNat (zt ((zt ((zt (Int.tdiv (wK (w7 n (-4096:Int)) (4096:Int)) (32:Int)))+(a1.length:Int)))+1))):Int) (Int.toNat (zt ((zt ((zt (Int.tdiv (wK (w7 n (-4096:Int)) (4096:Int)) (32:Int)))+(a1.length:Int)))+1)))) <|
 .zd ((32:Int)≠(0:Int)) <|
 T.bind (X9 a1 (zw (Int.tmod (wK (w7 n (-4096:Int)) (4096:Int)) (32:Int))) (zt ((a1.length:Int)+(1:Int)))) fun r1 =>
 .zd (z4u (Int.toNat (zt ((zt ((zt (Int.tdiv (wK (w7 n (-4096:Int)) (4096:Int)) (32:Int)))+(a1.length:Int)))+1))) (Int.toNat (zt ((zt ((zt (Int.tdiv (wK (w7 n (-4096:Int)) (4096:Int)) (32:Int)))+(a1.length:Int)))+1))) ((0:Nat)+(Int.toNat (zt (Int.tdiv (wK (w7 n (-4096:Int)) (4096:Int)) (32:Int))))) ((Int.toNat (Nat.cast (Int.toNat (zt ((zt ((zt (Int.tdiv (wK (w7 n (-4096:Int)) (4096:Int)) (32:Int)))+(a1.length:Int)))+1))):Int))-(Int.toNat (zt (Int.tdiv (wK (w7 n (-4096:Int)) (4096:Int)) (32:Int))))) (List.length (List.replicate (Int.toNat (zt ((zt ((zt (Int.tdiv (wK (w7 n (-4096:Int)) (4096:Int)) (32:Int)))+(a1.length:Int)))+1))) (0:Int)))) <|
 .zd ((Int.toNat (zt ((zt ((zt (Int.tdiv (wK (w7 n (-4096:Int)) (4096:Int)) (32:Int)))+(a1.length:Int)))+1)))=(Int.toNat (zt ((zt ((zt (Int.tdiv (wK (w7 n (-4096:Int)) (4096:Int)) (32:Int)))+(a1.length:Int)))+1)))) <|
 T.bind (xK (List.drop (0:Nat) (List.take ((0:Nat)+(Int.toNat (zt ((zt ((zt (Int.tdiv (wK (w7 n (-4096:Int)) (4096:Int)) (32:Int)))+(a1.length:Int)))+1)))) (yc ((0:Nat)+(Int.toNat (zt (Int.tdiv (wK (w7 n (-4096:Int)) (4096:Int)) (32:Int))))) ((Int.toNat (Nat.cast (Int.toNat (zt ((zt ((zt (Int.tdiv (wK (w7 n (-4096:Int)) (4096:Int)) (32:Int)))+(a1.length:Int)))+1))):Int))-(Int.toNat (zt (Int.tdiv (wK (w7 n (-4096:Int)) (4096:Int)) (32:Int))))) (List.replicate (Int.toNat (zt ((zt ((zt (Int.tdiv (wK (w7 n (-4096:Int)) (4096:Int)) (32:Int)))+(a1.length:Int)))+1))) (0:Int)) r1)))) fun r2 =>
 .ret r2)
def dK(vd:Int)(d:(List Int))(n:Int):(Int×(List Int)×(List Int))→T ((Int×(List Int)×(List Int))⊕(((List Int)×(List Int))))
 | (i,zR,qH) =>
 .ite (decide ((0:Int)≤i))
  (.zd (zi (zt (i+n)) zR.length) <|
 .zd (eB zR.length zR.length ((0:Nat)+(Int.toNat (zt (i+n)))) zR.length) <|
 .zd (zi (zt ((zt (i+n))-1)) zR.length) <|
 .zd (eB zR.length zR.length ((0:Nat)+(Int.toNat (zt ((zt (i+n))-1)))) zR.length) <|
 .zd (zi (zt ((zt (i+n))-2)) zR.length) <|
 .zd (eB zR.length zR.length ((0:Nat)+(Int.toNat (zt ((zt (i+n))-2)))) zR.length) <|
 .zd (zi (zt (n-1)) d.length) <|
 .zd (zi (zt (n-2)) d.length) <|
 T.bind (fm (xj zR ((0:Nat)+(Int.toNat (zt (i+n)))) (zb (.int .u32))) (xj zR ((0:Nat)+(Int.toNat (zt ((zt (i+n))-1)))) (zb (.int .u32))) (xj zR ((0:Nat)+(Int.toNat (zt ((zt (i+n))-2)))) (zb (.int .u32))) (nth d (zt (n-1)) (zb (.int .u32))) (nth d (zt (n-2)) (zb (.int .u32)))) fun x =>
 T.bind (.zd (mM i (zt ((zt (i+n))+1)) zR.length) <|
 .zd (zR.length=zR.length) <|
 .zd (zR.length=zR.length) <|
 T.bind (lv (((0:Nat)+(Int.toNat i)),((Int.toNat (zt ((zt (i+n))+1)))-(Int.toNat i))) d x zR) fun(r1,u) =>
 .ite r1
  (.zd (zh qH.length (0:Nat) qH.length qH.length) <|
 .zd (zh zR.length (0:Nat) zR.length u.length) <|
 .zd (u.length=u.length) <|
 .zd (qH.length=qH.length) <|
 .ret ((zw (x-1)),(u,qH)))
  (.zd (zh qH.length (0:Nat) qH.length qH.length) <|
 .zd (zh zR.length (0:Nat) zR.length u.length) <|
 .zd (u.length=u.length) <|
 .zd (qH.length=qH.length) <|
 .ret (x,(u,qH))):T ((Int×(List Int)×(List Int)))) fun(x1,va,jb) =>
 .zd (zi i jb.length) <|
 .zd (eB jb.length jb.length ((0:Nat)+(Int.toNat i)) jb.length) <|
 .zd (zh jb.length (0:Nat) jb.length (List.length (List.set jb ((0:Nat)+(Int.toNat i)) (qD x1)))) <|
 .zd (zh va.length (0:Nat) va.length va.length) <|
 .zd (va.length=va.length) <|
 .zd (jb.length=(List.length (List.set jb ((0:Nat)+(Int.toNat i)) (qD x1)))) <|
 .ret (.inl ((zt (i-1)),(va,(List.set jb ((0:Nat)+(Int.toNat i)) (qD x1))))))
  (.zd (zh qH.length (0:Nat) qH.length qH.length) <|
 .zd (zh zR.length (0:Nat) zR.length zR.length) <|
 .zd (zR.length=zR.length) <|
 .zd (qH.length=qH.length) <|
 .ret (.inr (zR,qH)))
def WZ vd d n s:=T.loop (dK vd d n) s
def QN(a:(List Int))(b:(List Int)):T ((List Int)×(List Int)) :=
 .zd (zi (zt ((b.length:Int)-(1:Int))) b.length) <|
 T.bind (wR (nth b (zt ((b.length:Int)-(1:Int))) (zb (.int .u32)))) fun r =>
 T.bind (fx a (zw r) (zt ((a.length:Int)+(1:Int)))) fun xs =>
 T.bind (fx b (zw r) (b.length:Int)) fun zy =>
 .zd (Qy (zt ((zt ((a.length:Int)-(zy.length:Int)))+1)) (zt ((zt ((a.length:Int)-(zy.length:Int)))+1)) (4:Nat)) <|
 .zd (zy.length=zy.length) <|
 .zd (zh (Int.toNat (zt ((zt ((a.length:Int)-(zy.length:Int)))+1))) (0:Nat) (Int.toNat (zt ((zt ((a.length:Int)-(zy.length:Int)))+1))) (List.length (List.replicate (Int.toNat (zt ((zt ((a.length:Int)-(zy.length:Int)))+1))) (0:Int)))) <|
 .zd (zh xs.length (0:Nat) xs.length xs.length) <|
 .zd (xs.length=xs.length) <|
 .zd ((Int.toNat (zt ((zt ((a.length:Int)-(zy.length:Int)))+1)))=(List.length (List.replicate (Int.toNat (zt ((zt ((a.length:Int)-(zy.length:Int)))+1))) (0:Int)))) <|
 T.bind (WZ (zw r) (List.drop (0:Nat) (List.take ((0:Nat)+zy.length) zy)) (zy.length:Int) ((zt ((Nat.cast (Int.toNat (zt ((zt ((a.length:Int)-(zy.length:Int)))+1))):Int)-(1:Int))),(xs,(List.replicate (Int.toNat (zt ((zt ((a.length:Int)-(zy.length:Int)))+1))) (0:Int))))) fun(xs6,vK) =>
 .zd (vK.length=vK.length) <|
 .zd (xs6.length=xs6.length) <|
 T.bind (xK (List.drop (0:Nat) (List.take ((0:Nat)+vK.length) vK))) fun q1 =>
 .zd (mM (0:Int) (zy.length:Int) (List.length (List.drop (0:Nat) (List.take ((0:Nat)+xs6.length) xs6)))) <|
 T.bind (bZ (uq (e:=(.int .u32)) (0:Int) (zy.length:Int) (List.drop (0:Nat) (List.take ((0:Nat)+xs6.length) xs6))) (zt ((0:Int)-(zt (zw r))))) fun r2 =>
 .ret (q1,r2)
def gm(a:(List Int))(b:(List Int)):T ((List Int)×(List Int)×Bool) :=
 T.bind (xK a) fun a1 =>
 T.bind (xK b) fun b1 =>
 .ite ((b1.length:Int)==(0:Int))
  (.ret (([]:List Int),(([]:List Int),false)))
  (T.bind (lC a1 b1) fun r =>
 .ite (decide (r<(0:Int)))
  (T.bind (bH a1) fun r1 =>
 .ret (([]:List Int),(r1,true)))
  (.ite ((b1.length:Int)==(1:Int))
  (.zd (zi (0:Int) b1.length) <|
 T.bind (fj a1 (nth b1 (0:Int) (zb (.int .u32)))) fun(q,rest) =>
 T.bind (jW (zw rest)) fun r2 =>
 .ret (q,(r2,true)))
  (T.bind (QN a1 b1) fun(q1,r3) =>
 .ret (q1,(r3,true)))))
def fZ  : ((List Int)×(List Int))→T (((List Int)×(List Int))⊕((List Int)))
 | (a2,b2) =>
 .ite (decide ((0:Int)<(b2.length:Int)))
  (T.bind (gm a2 b2) fun(r,r1,r2) =>
 .ret (.inl (b2,r1)))
  (.ret (.inr a2))
def UH(s:((List Int)×(List Int))):T ((List Int)):=T.loop (fZ ) s
def XM(a:(List Int))(b:(List Int)):T (List Int) :=
 T.bind (bH a) fun a1 =>
 T.bind (bH b) fun b1 =>
 T.bind (UH  (a1,b1)) fun a3 =>
 .ret a3
def sI(a:Rat):T Bool :=
 T.bind (T.bind (iA a.2.1) fun r =>
 .ite (!r)
  (.ret true)
  (T.bind (iA a.2.2.1) fun r1 =>
 .ite (!r1)
  (.ret true)
  (.ite ((a.2.2.1.length:Int)==(0:Int))
  (.ret true)
  (.ite a.1
  (.ret ((a.2.1.length:Int)==(0:Int)))
  (.ret false)))):T (Bool)) fun x =>
 .ite x
  (.ret false)
  (T.bind (XM a.2.1 a.2.2.1) fun r2 =>
 T.bind (jW (1:Int)) fun r3 =>
 T.bind (lC r2 r3) fun r4 =>
 .ret (r4==0))
def oC(neg:Bool)(n:(List Int))(d:(List Int)):T Rat :=
 T.bind (bH n) fun n1 =>
 T.bind (bH d) fun d1 =>
 .ite (((n1.length:Int)==(0:Int))||((d1.length:Int)==(0:Int)))
  (T.bind (jW (1:Int)) fun r =>
 .ret (false,(([]:List Int),(r,()))))
  (T.bind (XM n1 d1) fun g =>
 T.bind (gm n1 g) fun(n2,r1,r2) =>
 T.bind (gm d1 g) fun(d2,r3,r4) =>
 .ret (neg,(n2,(d2,()))))
def xR(a:Rat):T Rat :=
 T.bind (oC a.1 a.2.1 a.2.2.1) fun r =>
 .ret r
def uO(a:Rat):T Bool :=
 T.bind (xR a) fun r =>
 .ret ((decide ((16:Int)<(r.2.1.length:Int)))||(decide ((16:Int)<(r.2.2.1.length:Int))))
def vC(p:Param):T Bool :=
 T.bind (uR p.1) fun r =>
 .ite (!r)
  (.ret true)
  (T.bind (sI p.2.1) fun r1 =>
 .ite (!r1)
  (.ret true)
  (T.bind (uO p.2.1) fun r2 =>
 .ret r2))
def qS(s1:(List Param))(f:Param→T Bool)(x:Int):Int→T (Int⊕(Unit⊕Int))
 | x1 =>
 .ite (decide (x1<x))
  (.zd (zi x1 s1.length) <|
 T.bind (f (nth s1 x1 (zb zX))) fun r =>
 .ite r
  (.ret (.inr (.inr x1)))
  (.ret (.inl (zt (x1+1)))))
  (.ret (.inr (.inl ())))
def je s1 f x s:=T.loop (qS s1 f x) s
def xQ(s:(List Param))(f:Param→T Bool):T Int :=
 T.bind (je s f (s.length:Int) (0:Int)) <|
 Sum.elim (fun _ =>
 .ret (-1:Int))
  (fun x2 =>
 .ret x2)
def qE(s:(List Param))(f:Param→T Bool):T Bool :=
 T.bind (xQ s f) fun r =>
 .ret (decide ((0:Int)≤r))
def y4(s:zf):T Bool :=
 .ite (zF s ([]:zf))
  (.ret true)
  (T.bind (uR s) fun r =>
 .ret r)
def vG(p:rV):T Bool :=
 T.bind (uR p.1) fun r =>
 .ite (!r)
  (.ret true)
  (T.bind (y4 p.2.1) fun r1 =>
 .ret (!r1))
def xB(s1:(List rV))(f:rV→T Bool)(x:Int):Int→T (Int⊕(Unit⊕Int))
 | x1 =>
 .ite (decide (x1<x))
  (.zd (zi x1 s1.length) <|
 T.bind (f (nth s1 x1 (zb qu))) fun r =>
 .ite r
  (.ret (.inr (.inr x1)))
  (.ret (.inl (zt (x1+1)))))
  (.ret (.inr (.inl ())))
def jy s1 f x s:=T.loop (xB s1 f x) s
def wM(s:(List rV))(f:rV→T Bool):T Int :=
 T.bind (jy s f (s.length:Int) (0:Int)) <|
 Sum.elim (fun _ =>
 .ret (-1:Int))
  (fun x2 =>
 .ret x2)
def xF(s:(List rV))(f:rV→T Bool):T Bool :=
 T.bind (wM s f) fun r =>
 .ret (decide ((0:Int)≤r))
def lh(f:Form):T Bool :=
 T.bind (qC f.1 (fun z0=>vz z0)) fun r =>
 .ite (!r)
  (T.bind (qE f.2.1 (fun z0=>vC z0)) fun r1 =>
 .ite (!r1)
  (T.bind (xF f.2.2.1 (fun z0=>vG z0)) fun r2 =>
 .ret (!r2))
  (.ret false))
  (.ret false)
def b8(zbC:Int)(ahead:Int)(zc2:Int):T Bool :=
 .ret ((decide ((w7 ahead (0:Int))≤zbC))&&(decide (zbC<zc2)))
def ji(f1:Form)(x:(List Field))(x1:Int):(Int×Int)→T ((Int×Int)⊕(Unit⊕Bool))
 | (ahead,x2) =>
 .ite (decide (x2<x1))
  (.zd (zi x2 x.length) <|
 T.bind (T.bind (uR (nth x x2 (zb q8)).1) fun r =>
 .ite (!r)
  (.ret (true,(nth x x2 (zb q8))))
  (T.bind (b8 (nth x x2 (zb q8)).2.1 ahead (f1.2.2.1.length:Int)) fun r1 =>
 .ite (!r1)
  (.ret (true,(nth x x2 (zb q8))))
  (.ite (decide ((nth x x2 (zb q8)).2.2.2.1<(0:Int)))
  (.ret (true,(nth x x2 (zb q8))))
  (.ret ((decide ((9:Int)<(nth x x2 (zb q8)).2.2.2.1)),(nth x x2 (zb q8)))))):T ((Bool×Field))) fun(x3,v) =>
 .ite x3
  (.ret (.inr (.inr false)))
  (.ret (.inl (v.2.1,(zt (x2+1))))))
  (.ret (.inr (.inl ())))
def p9 f1 x x1 s:=T.loop (ji f1 x x1) s
def eR(f:Form):T Bool :=
 T.bind (p9 f f.2.2.2.1 (f.2.2.2.1.length:Int) ((0:Int),(0:Int))) <|
 Sum.elim (fun _ =>
 .ret true)
  (fun x4 =>
 .ret x4)
def uI  : T (List zf) :=
 .ret ([([61]:zf),([60]:zf),([60,61]:zf)]:List zf)
def tb(kind:Int):T Int :=
 .ite (bif (kind==1)then(kind==1)else(kind==2))
  (.ret (0:Int))
  (.ite (kind==7)
  (.ret (1:Int))
  (.ite (kind==3)
  (.ret (2:Int))
  (.ite (kind==4)
  (.ret (2:Int))
  (.ite (kind==5)
  (.ret (2:Int))
  (.ite (kind==6)
  (.ret (2:Int))
  (.ret (-1:Int)))))))
def nt(b3:(List Int))(i:Int)(v:Int)(x3:(List Int))(x4:Int)(x5:Int)(x6:(List Int))(x7:Int):(Int×Int×(List Int))→T ((Int×Int×(List Int))⊕((Int×(List Int))))
 | (carry,x8,zy) =>
 .ite (decide (x8<x7))
  (.zd (zi x8 x6.length) <|
 .zd (zi (zt (i+x8)) zy.length) <|
 .zd (eB zy.length zy.length ((0:Nat)+(Int.toNat (zt (i+x8)))) zy.length) <|
 .zd (zi (zt (i+x8)) zy.length) <|
 .zd (eB zy.length zy.length ((0:Nat)+(Int.toNat (zt (i+x8)))) zy.length) <|
 .zd ((0:Int)≤(32:Int)) <|
 .zd (zh zy.length (0:Nat) zy.length (List.length (List.set zy ((0:Nat)+(Int.toNat (zt (i+x8)))) (qD (zw (carry+(zw ((zw ((zw v)*(zw (nth x6 x8 (zb (.int .u32))))))+(zw (xj zy ((0:Nat)+(Int.toNat (zt (i+x8)))) (zb (.int .u32)))))))))))) <|
 .zd (zy.length=(List.length (List.set zy ((0:Nat)+(Int.toNat (zt (i+x8)))) (qD (zw (carry+(zw ((zw ((zw v)*(zw (nth x6 x8 (zb (.int .u32))))))+(zw (xj zy ((0:Nat)+(Int.toNat (zt (i+x8)))) (zb (.int .u32)))))))))))) <|
 .ret (.inl ((qV .u64 (zw (carry+(zw ((zw ((zw v)*(zw (nth x6 x8 (zb (.int .u32))))))+(zw (xj zy ((0:Nat)+(Int.toNat (zt (i+x8)))) (zb (.int .u32)))))))) (32:Int)),((zt (x8+1)),(List.set zy ((0:Nat)+(Int.toNat (zt (i+x8)))) (qD (zw (carry+(zw ((zw ((zw v)*(zw (nth x6 x8 (zb (.int .u32))))))+(zw (xj zy ((0:Nat)+(Int.toNat (zt (i+x8)))) (zb (.int .u32))))))))))))))
  (.zd (zh zy.length (0:Nat) zy.length zy.length) <|
 .zd (zy.length=zy.length) <|
 .ret (.inr (carry,zy)))
def JU b3 i v x3 x4 x5 x6 x7 s:=T.loop (nt b3 i v x3 x4 x5 x6 x7) s
def nH(b2:(List Int))(x:(List Int))(x1:Int):(Int×(List Int))→T ((Int×(List Int))⊕((List Int)))
 | (x2,xs) =>
 .ite (decide (x2<x1))
  (.zd (zi x2 x.length) <|
 .zd (zh xs.length (0:Nat) xs.length xs.length) <|
 .zd (xs.length=xs.length) <|
 T.bind (JU b2 x2 (nth x x2 (zb (.int .u32))) x x1 x2 b2 (b2.length:Int) ((0:Int),((0:Int),xs))) fun(carry1,zR) =>
 .zd (zi (zt (x2+(b2.length:Int))) zR.length) <|
 .zd (eB zR.length zR.length ((0:Nat)+(Int.toNat (zt (x2+(b2.length:Int))))) zR.length) <|
 .zd (zh zR.length (0:Nat) zR.length (List.length (List.set zR ((0:Nat)+(Int.toNat (zt (x2+(b2.length:Int))))) (qD carry1)))) <|
 .zd (zR.length=(List.length (List.set zR ((0:Nat)+(Int.toNat (zt (x2+(b2.length:Int))))) (qD carry1)))) <|
 .ret (.inl ((zt (x2+1)),(List.set zR ((0:Nat)+(Int.toNat (zt (x2+(b2.length:Int))))) (qD carry1)))))
  (.zd (zh xs.length (0:Nat) xs.length xs.length) <|
 .zd (xs.length=xs.length) <|
 .ret (.inr xs))
def Kd b2 x x1 s:=T.loop (nH b2 x x1) s
def bn(a:(List Int))(b:(List Int)):T (List Int) :=
 T.bind (xK a) fun a1 =>
 T.bind (xK b) fun b1 =>
 .zd (Qy (zt ((a1.length:Int)+(b1.length:Int))) (zt ((a1.length:Int)+(b1.length:Int))) (4:Nat)) <|
 .zd (zh (Int.toNat (zt ((a1.length:Int)+(b1.length:Int)))) (0:Nat) (Int.toNat (zt ((a1.length:Int)+(b1.length:Int)))) (List.length (List.replicate (Int.toNat (zt ((a1.length:Int)+(b1.length:Int)))) (0:Int)))) <|
 .zd ((Int.toNat (zt ((a1.length:Int)+(b1.length:Int))))=(List.length (List.replicate (Int.toNat (zt ((a1.length:Int)+(b1.length:Int)))) (0:Int)))) <|
 T.bind (Kd b1 a1 (a1.length:Int) ((0:Int),(List.replicate (Int.toNat (zt ((a1.length:Int)+(b1.length:Int)))) (0:Int)))) fun qH =>
 .zd (qH.length=qH.length) <|
 T.bind (xK (List.drop (0:Nat) (List.take ((0:Nat)+qH.length) qH))) fun r =>
 .ret r
def ft(x:Int):((List Int)×Int)→T (((List Int)×Int)⊕((List Int)))
 | (a1,x1) =>
 .ite (decide (x1<x))
  (T.bind (jW (10:Int)) fun r =>
 T.bind (bn a1 r) fun a2 =>
 .ret (.inl (a2,(zt (x1+1)))))
  (.ret (.inr a1))
def KI x s:=T.loop (ft x) s
def U7(n:Int):T (List Int) :=
 T.bind (jW (1:Int)) fun a =>
 T.bind (KI n (a,(0:Int))) fun a3 =>
 .ret a3
def sj(a:Rat):T zf :=
 .ite a.1
  (.ret ([45]:zf))
  (.ret ([]:zf))
def we  : ((Nat×Nat)×Int×Int×(List Int))→T (((Nat×Nat)×Int×Int×(List Int))⊕((List Int)))
 | (s1,i,j,xs) =>
 .ite (decide (i<j))
  (.zd (zi j s1.2) <|
 .zd (eB xs.length xs.length (s1.1+(Int.toNat j)) xs.length) <|
 .zd (zi i s1.2) <|
 .zd (eB xs.length xs.length (s1.1+(Int.toNat i)) xs.length) <|
 .zd (zi i s1.2) <|
 .zd (eB xs.length xs.length (s1.1+(Int.toNat i)) xs.length) <|
 .zd (zi j s1.2) <|
 .zd (eB xs.length xs.length (s1.1+(Int.toNat j)) (List.length (List.set xs (s1.1+(Int.toNat i)) (xj xs (s1.1+(Int.toNat j)) (zb (.int .u8)))))) <|
 .zd (xs.length=xs.length) <|
 .zd (xs.length=(List.length (List.set (List.set xs (s1.1+(Int.toNat i)) (xj xs (s1.1+(Int.toNat j)) (zb (.int .u8)))) (s1.1+(Int.toNat j)) (xj xs (s1.1+(Int.toNat i)) (zb (.int .u8)))))) <|
 .ret (.inl (s1,((zt (i+1)),((zt (j-1)),(List.set (List.set xs (s1.1+(Int.toNat i)) (xj xs (s1.1+(Int.toNat j)) (zb (.int .u8)))) (s1.1+(Int.toNat j)) (xj xs (s1.1+(Int.toNat i)) (zb (.int .u8)))))))))
  (.zd (xs.length=xs.length) <|
 .ret (.inr xs))
def jA(s:((Nat×Nat)×Int×Int×(List Int))):T ((List Int)):=T.loop (we ) s
def wH(sw:(Nat×Nat))(s:(List Int)):T (List Int) :=
 .zd (s.length=s.length) <|
 .zd (s.length=s.length) <|
 T.bind (jA  (sw,((0:Int),((zt ((Nat.cast sw.2:Int)-(1:Int))),s)))) fun zy =>
 .zd (zy.length=zy.length) <|
 .ret zy
def br(q1:(List Int)):(Int×Int×(List Int))→T ((Int×Int×(List Int))⊕((List Int)))
 | (rest1,x,zy) =>
 .ite (decide (x<(9:Int)))
  (.zd ((10:Int)≠(0:Int)) <|
 .zd (zi (Int.tmod rest1 (10:Int)) ([48,49,50,51,52,53,54,55,56,57]:zf).length) <|
 .zd (xp zy.length zy.length (0:Nat) zy.length zy.length (1:Nat) (1:Nat)) <|
 .zd ((10:Int)≠(0:Int)) <|
 .zd (zh (zy.length+(1:Nat)) (0:Nat) (zy.length+(1:Nat)) (List.length (zy++([(wA ([48,49,50,51,52,53,54,55,56,57]:zf) (Int.tmod rest1 (10:Int)))]:List Int)))) <|
 .zd ((zy.length+(1:Nat))=(List.length (zy++([(wA ([48,49,50,51,52,53,54,55,56,57]:zf) (Int.tmod rest1 (10:Int)))]:List Int)))) <|
 .ret (.inl ((qD (Int.tdiv rest1 (10:Int))),((zt (x+1)),(zy++([(wA ([48,49,50,51,52,53,54,55,56,57]:zf) (Int.tmod rest1 (10:Int)))]:List Int))))))
  (.zd (zh zy.length (0:Nat) zy.length zy.length) <|
 .zd (zy.length=zy.length) <|
 .ret (.inr zy))
def ou q1 s:=T.loop (br q1) s
def bj  : ((List Int)×(List Int))→T (((List Int)×(List Int))⊕((List Int)))
 | (a2,xs) =>
 .ite (decide ((0:Int)<(a2.length:Int)))
  (T.bind (fj a2 (1000000000:Int)) fun(q,rest) =>
 .zd (zh xs.length (0:Nat) xs.length xs.length) <|
 .zd (xs.length=xs.length) <|
 T.bind (ou q (rest,((0:Int),xs))) fun zR =>
 .zd (zh zR.length (0:Nat) zR.length zR.length) <|
 .zd (zR.length=zR.length) <|
 .ret (.inl (q,zR)))
  (.zd (zh xs.length (0:Nat) xs.length xs.length) <|
 .zd (xs.length=xs.length) <|
 .ret (.inr xs))
def om(s:((List Int)×(List Int))):T ((List Int)):=T.loop (bj ) s
def bN  : ((Nat×Nat)×(List Int))→T (((Nat×Nat)×(List Int))⊕(((Nat×Nat)×(List Int))))
 | (b,va) =>
 .zd (((decide ((1:Int)<(Nat.cast b.2:Int)))=true)→((zi (zt ((Nat.cast b.2:Int)-(1:Int))) b.2)∧(eB va.length va.length (b.1+(Int.toNat (zt ((Nat.cast b.2:Int)-(1:Int))))) va.length))) <|
 .ite ((decide ((1:Int)<(Nat.cast b.2:Int)))&&((xj va (b.1+(Int.toNat (zt ((Nat.cast b.2:Int)-(1:Int))))) (zb (.int .u8)))==48))
  (.zd (mM (0:Int) (zt ((Nat.cast b.2:Int)-(1:Int))) b.2) <|
 .zd (va.length=va.length) <|
 .zd (va.length=va.length) <|
 .ret (.inl (((b.1+(Int.toNat (0:Int))),((Int.toNat (zt ((Nat.cast b.2:Int)-(1:Int))))-(Int.toNat (0:Int)))),va)))
  (.zd (va.length=va.length) <|
 .zd (va.length=va.length) <|
 .ret (.inr (b,va)))
def XL(s:((Nat×Nat)×(List Int))):T (((Nat×Nat)×(List Int))):=T.loop (bN ) s
def fb(a:(List Int)):T zf :=
 T.bind (bH a) fun a1 =>
 .ite ((a1.length:Int)==(0:Int))
  (.ret ([48]:zf))
  (.zd (zh (0:Nat) (0:Nat) (0:Nat) (0:Nat)) <|
 .zd ((0:Nat)=(0:Nat)) <|
 T.bind (om  (a1,([]:List Int))) fun qH =>
 .zd (qH.length=qH.length) <|
 .zd (qH.length=qH.length) <|
 T.bind (XL  (((0:Nat),qH.length),qH)) fun(b1,jb) =>
 .zd (jb.length=jb.length) <|
 .zd (jb.length=jb.length) <|
 T.bind (wH b1 jb) fun b2 =>
 .zd (jb.length=b2.length) <|
 .ret (qO (List.drop b1.1 (List.take (b1.1+b1.2) b2))))
def strings_Repeat(s:zf)(count:Int):T zf :=
 .zd ((0:Int)≤count∧count≤(9223372036854775807:Int)∧s.length*(Int.toNat count)≤(140737488355328:Nat)) <|
 .ret (jL s (Int.toNat count))
def lD(s:zf)(n:Int):T zf :=
 .ite (n==0)
  (.ret s)
  (T.bind (strings_Repeat ([48]:zf) (w7 (0:Int) (zt ((zt (n+1))-(s.length:Int))))) fun r =>
 .zd ((r.length+s.length)≤(4611686018427387904:Nat)) <|
 .zd (mM (0:Int) (zt (((cat r s).length:Int)-n)) (cat r s).length) <|
 .zd (((List.length (gU (0:Int) (zt (((cat r s).length:Int)-n)) (cat r s)))+([46]:zf).length)≤(4611686018427387904:Nat)) <|
 .zd (mM (zt (((cat r s).length:Int)-n)) ((cat r s).length:Int) (cat r s).length) <|
 .zd (((List.length (cat (gU (0:Int) (zt (((cat r s).length:Int)-n)) (cat r s)) ([46]:zf)))+(List.length (gU (zt (((cat r s).length:Int)-n)) ((cat r s).length:Int) (cat r s))))≤(4611686018427387904:Nat)) <|
 .ret (cat (cat (gU (0:Int) (zt (((cat r s).length:Int)-n)) (cat r s)) ([46]:zf)) (gU (zt (((cat r s).length:Int)-n)) ((cat r s).length:Int) (cat r s))))
def kZ  : (Int×Rat)→T ((Int×Rat)⊕(Rat⊕(zf×Bool×Rat)))
 | (x,v) =>
 .ite (decide (x<(61:Int)))
  (T.bind (U7 x) fun r1 =>
 T.bind (bn v.2.1 r1) fun r2 =>
 T.bind (gm r2 v.2.2.1) fun(q,r3,r4) =>
 .ite ((r3.length:Int)==(0:Int))
  (T.bind (sj v) fun r5 =>
 T.bind (fb q) fun r6 =>
 T.bind (lD r6 x) fun r7 =>
 .zd ((r5.length+r7.length)≤(4611686018427387904:Nat)) <|
 .ret (.inr (.inr ((cat r5 r7),(true,v)))))
  (.ret (.inl ((zt (x+1)),v))))
  (.ret (.inr (.inl v)))
def X1(s:(Int×Rat)):T (Rat⊕(zf×Bool×Rat)):=T.loop (kZ ) s
def mO(a:Rat):T (zf×Bool) :=
 T.bind (xR a) fun r =>
 T.bind (X1  ((0:Int),r)) <|
 Sum.elim (fun v1 =>
 .ret (([]:zf),false))
  (fun(x1,x2,v2) =>
 .ret (x1,x2))
def og(a:Rat):T Bool :=
 T.bind (T.bind (sI a) fun r =>
 .ite (!r)
  (.ret true)
  (.ite a.1
  (.ret true)
  (T.bind (uO a) fun r1 =>
 .ret r1)):T (Bool)) fun x =>
 .ite x
  (.ret false)
  (T.bind (mO a) fun(r2,ok) =>
 .ret ok)
def dA(a:Rat):T Bool :=
 .ite (!a.1)
  (.ite ((a.2.1.length:Int)==(0:Int))
  (.ite ((a.2.2.1.length:Int)==(0:Int))
  (.ret true)
  (T.bind (sI a) fun r =>
 .ret r))
  (.ret false))
  (.ret false)
def gn(e:AM.Expr):T Bool :=
 T.bind (tb (Expr.kind e)) fun r =>
 .ite (((Expr.kids e).length:Int) != r)
  (.ret false)
  (.ite ((Expr.kind e)==1)
  (T.bind (og (Expr.num e)) fun r1 =>
 .ite r1
  (.ret (zF (Expr.name e) ([]:zf)))
  (.ret false))
  (.ite ((Expr.kind e)==2)
  (T.bind (dA (Expr.num e)) fun r2 =>
 .ite r2
  (T.bind (uR (Expr.name e)) fun r3 =>
 .ret r3)
  (.ret false))
  (T.bind (dA (Expr.num e)) fun r4 =>
 .ite r4
  (.ret (zF (Expr.name e) ([]:zf)))
  (.ret false))))
def jr(xZ:AM.Expr→Int→Int→T (Bool×Int))(k:AM.Expr)(a1:Int)(v:Int):T (Bool×Int) :=
 T.bind (xZ k (zt (a1+1)) v) fun(r,xs) =>
 .ret ((!r),xs)
def zQ(xZ:AM.Expr→Int→Int→T (Bool×Int))(s1:(List AM.Expr))(x:Int):((Int×Unit)×Int×Int)→T (((Int×Unit)×Int×Int)⊕(Int⊕(Int×Int)))
 | (f1,x1,v1) =>
 .ite (decide (x1<x))
  (.zd (zi x1 s1.length) <|
 T.bind ((jr xZ) (nth s1 x1 (zb .expr)) f1.1 v1) fun(r,xs) =>
 .ite r
  (.ret (.inr (.inr (x1,xs))))
  (.ret (.inl ((f1.1,()),((zt (x1+1)),xs)))))
  (.ret (.inr (.inl v1)))
def q7 xZ s1 x s:=T.loop (zQ xZ s1 x) s
def qU(xZ:AM.Expr→Int→Int→T (Bool×Int))(s:(List AM.Expr))(f:(Int×Unit))(v:Int):T (Int×Int) :=
 T.bind (q7 xZ s (s.length:Int) ((f.1,()),((0:Int),v))) <|
 Sum.elim (fun v2 =>
 .ret ((-1:Int),v2))
  (fun(x2,v3) =>
 .ret (x2,v3))
def qj(xZ:AM.Expr→Int→Int→T (Bool×Int))(s:(List AM.Expr))(f:(Int×Unit))(v:Int):T (Bool×Int) :=
 T.bind ((qU xZ) s (f.1,()) v) fun(r,xs) =>
 .ret ((decide ((0:Int)≤r)),xs)
def gR(xZ:AM.Expr→Int→Int→T (Bool×Int))(e:AM.Expr)(deep:Int)(left:Int):T (Bool×Int) :=
 T.bind (.ite (decide ((zt (left-1))<(0:Int)))
  (.ret (true,(zt (left-1))))
  (.ite (decide ((32:Int)≤deep))
  (.ret (true,(zt (left-1))))
  (T.bind (gn e) fun r =>
 .ret ((!r),(zt (left-1))))):T ((Bool×Int))) fun(x,v) =>
 .ite x
  (.ret (false,v))
  (T.bind ((qj xZ) (Expr.kids e) (deep,()) v) fun(r1,left1) =>
 .ret ((!r1),left1))
def jV(e:AM.Expr)(deep:Int)(left:Int):T (Bool×Int):=T.fix (fun F x=>gR (fun y0 y1 y2=>F (y0,y1,y2)) x.1 x.2.1 x.2.2) (e,deep,left)
def uA(e:AM.Expr):T Bool :=
 T.bind (jV e (0:Int) (256:Int)) fun(r,left) =>
 .ret r
def vY  : T (List zf) :=
 .ret ([([114,101,113,117,105,114,101,100]:zf),([115,116,114,111,110,103]:zf),([109,101,100,105,117,109]:zf),([119,101,97,107]:zf)]:List zf)
def wy(r:uT):T Bool :=
 T.bind (uR r.1) fun r1 =>
 .ite (!r1)
  (.ret true)
  (.ite (decide (r.2.1<(0:Int)))
  (.ret true)
  (T.bind (vY) fun r2 =>
 .ite (decide ((r2.length:Int)≤r.2.1))
  (.ret true)
  (T.bind (y4 r.2.2.1) fun r3 =>
 .ite (!r3)
  (.ret true)
  (T.bind (uA r.2.2.2.1) fun r4 =>
 .ite (!r4)
  (.ret true)
  (T.bind (uA r.2.2.2.2.1) fun r5 =>
 .ret (!r5))))))
def xC(s1:(List uT))(f:uT→T Bool)(x:Int):Int→T (Int⊕(Unit⊕Int))
 | x1 =>
 .ite (decide (x1<x))
  (.zd (zi x1 s1.length) <|
 T.bind (f (nth s1 x1 (zb zn))) fun r =>
 .ite r
  (.ret (.inr (.inr x1)))
  (.ret (.inl (zt (x1+1)))))
  (.ret (.inr (.inl ())))
def jz s1 f x s:=T.loop (xC s1 f x) s
def wN(s:(List uT))(f:uT→T Bool):T Int :=
 T.bind (jz s f (s.length:Int) (0:Int)) <|
 Sum.elim (fun _ =>
 .ret (-1:Int))
  (fun x2 =>
 .ret x2)
def xy(s:(List uT))(f:uT→T Bool):T Bool :=
 T.bind (wN s f) fun r =>
 .ret (decide ((0:Int)≤r))
def jd(f1:Form)(x:(List Check))(x1:Int):(Int×Int)→T ((Int×Int)⊕(Unit⊕Bool))
 | (ahead,x2) =>
 .ite (decide (x2<x1))
  (.zd (zi x2 x.length) <|
 T.bind (T.bind (uR (nth x x2 (zb zm)).1) fun r =>
 .ite (!r)
  (.ret (true,(nth x x2 (zb zm))))
  (T.bind (b8 (nth x x2 (zb zm)).2.1 ahead (f1.2.2.1.length:Int)) fun r1 =>
 .ite (!r1)
  (.ret (true,(nth x x2 (zb zm))))
  (.ite (decide ((nth x x2 (zb zm)).2.2.1<(0:Int)))
  (.ret (true,(nth x x2 (zb zm))))
  (T.bind (uI) fun r2 =>
 .ite (decide ((r2.length:Int)≤(nth x x2 (zb zm)).2.2.1))
  (.ret (true,(nth x x2 (zb zm))))
  (T.bind (uA (Expr.mk (Expr.kind (nth x x2 (zb zm)).2.2.2.1) ((Expr.num (nth x x2 (zb zm)).2.2.2.1).1,((Expr.num (nth x x2 (zb zm)).2.2.2.1).2.1,((Expr.num (nth x x2 (zb zm)).2.2.2.1).2.2.1,()))) (Expr.name (nth x x2 (zb zm)).2.2.2.1) (Expr.kids (nth x x2 (zb zm)).2.2.2.1))) fun r3 =>
 .ite (!r3)
  (.ret (true,(nth x x2 (zb zm))))
  (T.bind (uA (Expr.mk (Expr.kind (nth x x2 (zb zm)).2.2.2.2.1) ((Expr.num (nth x x2 (zb zm)).2.2.2.2.1).1,((Expr.num (nth x x2 (zb zm)).2.2.2.2.1).2.1,((Expr.num (nth x x2 (zb zm)).2.2.2.2.1).2.2.1,()))) (Expr.name (nth x x2 (zb zm)).2.2.2.2.1) (Expr.kids (nth x x2 (zb zm)).2.2.2.2.1))) fun r4 =>
 .ret ((!r4),(nth x x2 (zb zm)))))))):T ((Bool×Check))) fun(x3,v) =>
 .ite x3
  (.ret (.inr (.inr false)))
  (.ret (.inl (v.2.1,(zt (x2+1))))))
  (.ret (.inr (.inl ())))
def oZ f1 x x1 s:=T.loop (jd f1 x x1) s
def eW(f:Form):T Bool :=
 T.bind (oZ f f.2.2.2.2.2.1 (f.2.2.2.2.2.1.length:Int) ((0:Int),(0:Int))) <|
 Sum.elim (fun _ =>
 T.bind (xy f.2.2.2.2.1 (fun z0=>wy z0)) fun r5 =>
 .ret (!r5))
  (fun x4 =>
 .ret x4)
def lY(v:Unit)(l:List Int):T (Unit×List Int):=.ret (v,l)
def qk(s:zf)(b:(Unit))(xs:(List Int)):T (Int×(Unit)×(List Int)) :=
 .zd (zh xs.length (0:Nat) xs.length xs.length) <|
 .zd (xs.length=xs.length) <|
 T.bind (lY () xs) fun(b1,zy) =>
 .zd (xp zy.length zy.length (0:Nat) zy.length zy.length (bytesOf s).length (1:Nat)) <|
 .zd (zh (zy.length+(bytesOf s).length) (0:Nat) (zy.length+(bytesOf s).length) (List.length (zy++(bytesOf s)))) <|
 .zd ((zy.length+(bytesOf s).length)=(List.length (zy++(bytesOf s)))) <|
 .ret ((s.length:Int),((),(zy++(bytesOf s))))
def mH(a:Rat):T zf :=
 T.bind (xR a) fun r =>
 T.bind (sj r) fun r1 =>
 T.bind (fb r.2.1) fun r2 =>
 .zd ((r1.length+r2.length)≤(4611686018427387904:Nat)) <|
 T.bind (jW (1:Int)) fun r3 =>
 T.bind (lC r.2.2.1 r3) fun r4 =>
 .ite (r4 != 0)
  (T.bind (fb r.2.2.1) fun r5 =>
 .zd ((([47]:zf).length+r5.length)≤(4611686018427387904:Nat)) <|
 .zd (((cat r1 r2).length+(List.length (cat ([47]:zf) r5)))≤(4611686018427387904:Nat)) <|
 .ret (cat (cat r1 r2) (cat ([47]:zf) r5)))
  (.ret (cat r1 r2))
def fG(s:zf):T zf :=
 .ite (zF s ([]:zf))
  (.ret ([]:zf))
  (.zd ((([32,119,104,101,110,32]:zf).length+s.length)≤(4611686018427387904:Nat)) <|
 .ret (cat ([32,119,104,101,110,32]:zf) s))
def strconv_Itoa(n:Int):T zf :=
 .zd ((-9223372036854775808:Int)≤n∧n≤(9223372036854775807:Int)) <|
 .ret (pC n)
def iV(x:Field):T zf :=
 .zd ((([102,105,101,108,100,32]:zf).length+x.1.length)≤(4611686018427387904:Nat)) <|
 .zd ((x.2.2.1=true)→(((List.length (cat ([102,105,101,108,100,32]:zf) x.1))+([32,109,117,115,116]:zf).length)≤(4611686018427387904:Nat))) <|
 .ite (decide ((0:Int)<x.2.2.2.1))
  (T.bind (strconv_Itoa x.2.2.2.1) fun r =>
 .zd ((([32,115,99,97,108,101,32]:zf).length+r.length)≤(4611686018427387904:Nat)) <|
 .zd (((List.length (bif x.2.2.1 then(cat (cat ([102,105,101,108,100,32]:zf) x.1) ([32,109,117,115,116]:zf))else(cat ([102,105,101,108,100,32]:zf) x.1)))+(List.length (cat ([32,115,99,97,108,101,32]:zf) r)))≤(4611686018427387904:Nat)) <|
 .zd (((List.length (cat (bif x.2.2.1 then(cat (cat ([102,105,101,108,100,32]:zf) x.1) ([32,109,117,115,116]:zf))else(cat ([102,105,101,108,100,32]:zf) x.1)) (cat ([32,115,99,97,108,101,32]:zf) r)))+([10]:zf).length)≤(4611686018427387904:Nat)) <|
 .ret (cat (cat (bif x.2.2.1 then(cat (cat ([102,105,101,108,100,32]:zf) x.1) ([32,109,117,115,116]:zf))else(cat ([102,105,101,108,100,32]:zf) x.1)) (cat ([32,115,99,97,108,101,32]:zf) r)) ([10]:zf)))
  (.zd (((List.length (bif x.2.2.1 then(cat (cat ([102,105,101,108,100,32]:zf) x.1) ([32,109,117,115,116]:zf))else(cat ([102,105,101,108,100,32]:zf) x.1)))+([10]:zf).length)≤(4611686018427387904:Nat)) <|
 .ret (cat (bif x.2.2.1 then(cat (cat ([102,105,101,108,100,32]:zf) x.1) ([32,109,117,115,116]:zf))else(cat ([102,105,101,108,100,32]:zf) x.1)) ([10]:zf)))
def cu(e:AM.Expr):T Int :=
 .ite (bif ((Expr.kind e)==3)then((Expr.kind e)==3)else((Expr.kind e)==4))
  (.ret (1:Int))
  (.ite (bif ((Expr.kind e)==5)then((Expr.kind e)==5)else((Expr.kind e)==6))
  (.ret (2:Int))
  (.ite ((Expr.kind e)==7)
  (.ret (3:Int))
  (.ret (4:Int))))
def gI(vU:AM.Expr→T zf)(e:AM.Expr)(least:Int):T zf :=
 T.bind (cu e) fun r =>
 .ite (decide (r<least))
  (T.bind (vU e) fun r1 =>
 .zd ((([40]:zf).length+r1.length)≤(4611686018427387904:Nat)) <|
 .zd (((List.length (cat ([40]:zf) r1))+([41]:zf).length)≤(4611686018427387904:Nat)) <|
 .ret (cat (cat ([40]:zf) r1) ([41]:zf)))
  (T.bind (vU e) fun r2 =>
 .ret r2)
def eK(vU:AM.Expr→T zf)(e:AM.Expr):T zf :=
 T.bind (.ite ((Expr.kind e)==1)
  (T.bind (mO (Expr.num e)) fun(s,r) =>
 .ret (.inr s))
  (.ite ((Expr.kind e)==2)
  (.ret (.inr (Expr.name e)))
  (.ite ((Expr.kind e)==7)
  (.zd (zi (0:Int) (Expr.kids e).length) <|
 T.bind ((gI vU) (nth (Expr.kids e) (0:Int) (zb .expr)) (3:Int)) fun r1 =>
 .zd ((([45]:zf).length+r1.length)≤(4611686018427387904:Nat)) <|
 .ret (.inr (cat ([45]:zf) r1)))
  (.ite ((Expr.kind e)==3)
  (.ret (.inl ([32,43,32]:zf)))
  (.ite ((Expr.kind e)==4)
  (.ret (.inl ([32,45,32]:zf)))
  (.ite ((Expr.kind e)==5)
  (.ret (.inl ([32,42,32]:zf)))
  (.ite ((Expr.kind e)==6)
  (.ret (.inl ([32,47,32]:zf)))
  (.ret (.inl ([]:zf))))))))):T (zf⊕zf)) <|
 Sum.elim (fun mark =>
 .zd (zi (0:Int) (Expr.kids e).length) <|
 T.bind (cu e) fun r2 =>
 T.bind ((gI vU) (nth (Expr.kids e) (0:Int) (zb .expr)) r2) fun r3 =>
 .zd ((r3.length+mark.length)≤(4611686018427387904:Nat)) <|
 .zd (zi (1:Int) (Expr.kids e).length) <|
 T.bind (cu e) fun r4 =>
 T.bind ((gI vU) (nth (Expr.kids e) (1:Int) (zb .expr)) (zt (r4+1))) fun r5 =>
 .zd (((cat r3 mark).length+r5.length)≤(4611686018427387904:Nat)) <|
 .ret (cat (cat r3 mark) r5))
  (fun x =>
 .ret x)
def nF(e:AM.Expr):T zf:=T.fix (fun F x=>eK (fun y0=>F (y0)) x) e
def cj(e:AM.Expr):T zf :=
 T.bind (uA e) fun r =>
 .ite (!r)
  (.ret ([]:zf))
  (T.bind (nF e) fun r1 =>
 .ret r1)
def dG(l:AM.Expr)(sign:zf)(r:AM.Expr):T zf :=
 T.bind (cj l) fun r1 =>
 .zd ((([32,58,32]:zf).length+r1.length)≤(4611686018427387904:Nat)) <|
 .zd (((List.length (cat ([32,58,32]:zf) r1))+([32]:zf).length)≤(4611686018427387904:Nat)) <|
 .zd (((List.length (cat (cat ([32,58,32]:zf) r1) ([32]:zf)))+sign.length)≤(4611686018427387904:Nat)) <|
 .zd (((List.length (cat (cat (cat ([32,58,32]:zf) r1) ([32]:zf)) sign))+([32]:zf).length)≤(4611686018427387904:Nat)) <|
 T.bind (cj r) fun r2 =>
 .zd (((List.length (cat (cat (cat (cat ([32,58,32]:zf) r1) ([32]:zf)) sign) ([32]:zf)))+r2.length)≤(4611686018427387904:Nat)) <|
 .zd (((List.length (cat (cat (cat (cat (cat ([32,58,32]:zf) r1) ([32]:zf)) sign) ([32]:zf)) r2))+([10]:zf).length)≤(4611686018427387904:Nat)) <|
 .ret (cat (cat (cat (cat (cat (cat ([32,58,32]:zf) r1) ([32]:zf)) sign) ([32]:zf)) r2) ([10]:zf))
def j7(i1:Int)(f1:Form)(x:(List Field))(x1:Int):(Int×(Unit)×(List Int))→T ((Int×(Unit)×(List Int))⊕(((Unit)×(List Int))))
 | (x2,v,zR) =>
 .ite (decide (x2<x1))
  (.zd (zi x2 x.length) <|
 .ite ((nth x x2 (zb q8)).2.1==i1)
  (T.bind (iV (nth x x2 (zb q8))) fun r2 =>
 .zd (zh zR.length (0:Nat) zR.length zR.length) <|
 .zd (zR.length=zR.length) <|
 T.bind (qk r2 () zR) fun(r3,w2,qH) =>
 .zd (zh qH.length (0:Nat) qH.length qH.length) <|
 .zd (qH.length=qH.length) <|
 .ret (.inl ((zt (x2+1)),((),qH))))
  (.zd (zh zR.length (0:Nat) zR.length zR.length) <|
 .zd (zR.length=zR.length) <|
 .ret (.inl ((zt (x2+1)),((),zR)))))
  (.zd (zh zR.length (0:Nat) zR.length zR.length) <|
 .zd (zR.length=zR.length) <|
 .ret (.inr ((),zR)))
def pc i1 f1 x x1 s:=T.loop (j7 i1 f1 x x1) s
def jj(i2:Int)(x3:(List Check))(x4:Int):(Int×(Unit)×(List Int))→T ((Int×(Unit)×(List Int))⊕(((Unit)×(List Int))))
 | (x5,v2,jb) =>
 .ite (decide (x5<x4))
  (.zd (zi x5 x3.length) <|
 .ite ((nth x3 x5 (zb zm)).2.1==i2)
  (.zd ((([99,104,101,99,107,32]:zf).length+(List.length (nth x3 x5 (zb zm)).1))≤(4611686018427387904:Nat)) <|
 T.bind (uI) fun r4 =>
 .zd (zi (nth x3 x5 (zb zm)).2.2.1 r4.length) <|
 T.bind (dG (Expr.mk (Expr.kind (nth x3 x5 (zb zm)).2.2.2.1) ((Expr.num (nth x3 x5 (zb zm)).2.2.2.1).1,((Expr.num (nth x3 x5 (zb zm)).2.2.2.1).2.1,((Expr.num (nth x3 x5 (zb zm)).2.2.2.1).2.2.1,()))) (Expr.name (nth x3 x5 (zb zm)).2.2.2.1) (Expr.kids (nth x3 x5 (zb zm)).2.2.2.1)) (nth r4 (nth x3 x5 (zb zm)).2.2.1 (zb .str)) (Expr.mk (Expr.kind (nth x3 x5 (zb zm)).2.2.2.2.1) ((Expr.num (nth x3 x5 (zb zm)).2.2.2.2.1).1,((Expr.num (nth x3 x5 (zb zm)).2.2.2.2.1).2.1,((Expr.num (nth x3 x5 (zb zm)).2.2.2.2.1).2.2.1,()))) (Expr.name (nth x3 x5 (zb zm)).2.2.2.2.1) (Expr.kids (nth x3 x5 (zb zm)).2.2.2.2.1))) fun r5 =>
 .zd (((List.length (cat ([99,104,101,99,107,32]:zf) (nth x3 x5 (zb zm)).1))+r5.length)≤(4611686018427387904:Nat)) <|
 .zd (zh jb.length (0:Nat) jb.length jb.length) <|
 .zd (jb.length=jb.length) <|
 T.bind (qk (cat (cat ([99,104,101,99,107,32]:zf) (nth x3 x5 (zb zm)).1) r5) () jb) fun(r6,w3,xs6) =>
 .zd (zh xs6.length (0:Nat) xs6.length xs6.length) <|
 .zd (xs6.length=xs6.length) <|
 .ret (.inl ((zt (x5+1)),((),xs6))))
  (.zd (zh jb.length (0:Nat) jb.length jb.length) <|
 .zd (jb.length=jb.length) <|
 .ret (.inl ((zt (x5+1)),((),jb)))))
  (.zd (zh jb.length (0:Nat) jb.length jb.length) <|
 .zd (jb.length=jb.length) <|
 .ret (.inr ((),jb)))
def oU i2 x3 x4 s:=T.loop (jj i2 x3 x4) s
def eJ(f:Form)(i:Int)(w:(Unit))(xs:(List Int)):T ((Unit)×(List Int)) :=
 .zd (zi i f.2.2.1.length) <|
 .zd ((([112,97,103,101,32]:zf).length+(List.length (nth f.2.2.1 i (zb qu)).1))≤(4611686018427387904:Nat)) <|
 .zd (zi i f.2.2.1.length) <|
 T.bind (fG (nth f.2.2.1 i (zb qu)).2.1) fun r =>
 .zd (((List.length (cat ([112,97,103,101,32]:zf) (nth f.2.2.1 i (zb qu)).1))+r.length)≤(4611686018427387904:Nat)) <|
 .zd (((List.length (cat (cat ([112,97,103,101,32]:zf) (nth f.2.2.1 i (zb qu)).1) r))+([10]:zf).length)≤(4611686018427387904:Nat)) <|
 .zd (zh xs.length (0:Nat) xs.length xs.length) <|
 .zd (xs.length=xs.length) <|
 T.bind (qk (cat (cat (cat ([112,97,103,101,32]:zf) (nth f.2.2.1 i (zb qu)).1) r) ([10]:zf)) () xs) fun(r1,w1,zy) =>
 .zd (zh zy.length (0:Nat) zy.length zy.length) <|
 .zd (zy.length=zy.length) <|
 T.bind (pc i f f.2.2.2.1 (f.2.2.2.1.length:Int) ((0:Int),((),zy))) fun(v1,va) =>
 .zd (zh va.length (0:Nat) va.length va.length) <|
 .zd (va.length=va.length) <|
 T.bind (oU i f.2.2.2.2.2.1 (f.2.2.2.2.2.1.length:Int) ((0:Int),((),va))) fun(v3,vK) =>
 .zd (zh vK.length (0:Nat) vK.length vK.length) <|
 .zd (vK.length=vK.length) <|
 .ret ((),vK)
def ox(v:Unit)(l:List Int):T (zf×Unit):=z0R l
def jZ(f1:Form)(x:(List Switch))(x1:Int):(Int×(Unit)×(List Int))→T ((Int×(Unit)×(List Int))⊕(((Unit)×(List Int))))
 | (x2,v,xs) =>
 .ite (decide (x2<x1))
  (.zd (zi x2 x.length) <|
 .zd ((([115,119,105,116,99,104,32]:zf).length+(List.length (nth x x2 (zb zV)).1))≤(4611686018427387904:Nat)) <|
 .zd (((List.length (cat ([115,119,105,116,99,104,32]:zf) (nth x x2 (zb zV)).1))+(List.length (bif (nth x x2 (zb zV)).2.1 then([32,111,110,10]:zf)else([32,111,102,102,10]:zf))))≤(4611686018427387904:Nat)) <|
 .zd (zh xs.length (0:Nat) xs.length xs.length) <|
 .zd (xs.length=xs.length) <|
 T.bind (qk (cat (cat ([115,119,105,116,99,104,32]:zf) (nth x x2 (zb zV)).1) (bif (nth x x2 (zb zV)).2.1 then([32,111,110,10]:zf)else([32,111,102,102,10]:zf))) () xs) fun(r,w,zy) =>
 .zd (zh zy.length (0:Nat) zy.length zy.length) <|
 .zd (zy.length=zy.length) <|
 .ret (.inl ((zt (x2+1)),((),zy))))
  (.zd (zh xs.length (0:Nat) xs.length xs.length) <|
 .zd (xs.length=xs.length) <|
 .ret (.inr ((),xs)))
def rD f1 x x1 s:=T.loop (jZ f1 x x1) s
def kI(f2:Form)(x3:(List Param))(x4:Int):(Int×(Unit)×(List Int))→T ((Int×(Unit)×(List Int))⊕(((Unit)×(List Int))))
 | (x5,v2,qH) =>
 .ite (decide (x5<x4))
  (.zd (zi x5 x3.length) <|
 .zd ((([112,97,114,97,109,32]:zf).length+(List.length (nth x3 x5 (zb zX)).1))≤(4611686018427387904:Nat)) <|
 .zd (((List.length (cat ([112,97,114,97,109,32]:zf) (nth x3 x5 (zb zX)).1))+([32]:zf).length)≤(4611686018427387904:Nat)) <|
 T.bind (mH ((nth x3 x5 (zb zX)).2.1.1,((nth x3 x5 (zb zX)).2.1.2.1,((nth x3 x5 (zb zX)).2.1.2.2.1,())))) fun r1 =>
 .zd (((List.length (cat (cat ([112,97,114,97,109,32]:zf) (nth x3 x5 (zb zX)).1) ([32]:zf)))+r1.length)≤(4611686018427387904:Nat)) <|
 .zd (((List.length (cat (cat (cat ([112,97,114,97,109,32]:zf) (nth x3 x5 (zb zX)).1) ([32]:zf)) r1))+([10]:zf).length)≤(4611686018427387904:Nat)) <|
 .zd (zh qH.length (0:Nat) qH.length qH.length) <|
 .zd (qH.length=qH.length) <|
 T.bind (qk (cat (cat (cat (cat ([112,97,114,97,109,32]:zf) (nth x3 x5 (zb zX)).1) ([32]:zf)) r1) ([10]:zf)) () qH) fun(r2,w1,va) =>
 .zd (zh va.length (0:Nat) va.length va.length) <|
 .zd (va.length=va.length) <|
 .ret (.inl ((zt (x5+1)),((),va))))
  (.zd (zh qH.length (0:Nat) qH.length qH.length) <|
 .zd (qH.length=qH.length) <|
 .ret (.inr ((),qH)))
def rk f2 x3 x4 s:=T.loop (kI f2 x3 x4) s
def kg(f3:Form)(x6:Int):(Int×(Unit)×(List Int))→T ((Int×(Unit)×(List Int))⊕(((Unit)×(List Int))))
 | (x7,v4,xs6) =>
 .ite (decide (x7<x6))
  (.zd (zh xs6.length (0:Nat) xs6.length xs6.length) <|
 .zd (xs6.length=xs6.length) <|
 T.bind (eJ f3 x7 () xs6) fun(w2,vK) =>
 .zd (zh vK.length (0:Nat) vK.length vK.length) <|
 .zd (vK.length=vK.length) <|
 .ret (.inl ((zt (x7+1)),((),vK))))
  (.zd (zh xs6.length (0:Nat) xs6.length xs6.length) <|
 .zd (xs6.length=xs6.length) <|
 .ret (.inr ((),xs6)))
def pO f3 x6 s:=T.loop (kg f3 x6) s
def jN(x8:(List uT))(x9:Int):(Int×(Unit)×(List Int))→T ((Int×(Unit)×(List Int))⊕(((Unit)×(List Int))))
 | (Q6,v6,rJ) =>
 .ite (decide (Q6<x9))
  (.zd (zi Q6 x8.length) <|
 T.bind (vY) fun r3 =>
 .zd (zi (nth x8 Q6 (zb zn)).2.1 r3.length) <|
 .zd ((([114,117,108,101,32]:zf).length+(List.length (nth r3 (nth x8 Q6 (zb zn)).2.1 (zb .str))))≤(4611686018427387904:Nat)) <|
 .zd (((List.length (cat ([114,117,108,101,32]:zf) (nth r3 (nth x8 Q6 (zb zn)).2.1 (zb .str))))+([32]:zf).length)≤(4611686018427387904:Nat)) <|
 .zd (((List.length (cat (cat ([114,117,108,101,32]:zf) (nth r3 (nth x8 Q6 (zb zn)).2.1 (zb .str))) ([32]:zf)))+(List.length (nth x8 Q6 (zb zn)).1))≤(4611686018427387904:Nat)) <|
 T.bind (fG (nth x8 Q6 (zb zn)).2.2.1) fun r4 =>
 .zd (((List.length (cat (cat (cat ([114,117,108,101,32]:zf) (nth r3 (nth x8 Q6 (zb zn)).2.1 (zb .str))) ([32]:zf)) (nth x8 Q6 (zb zn)).1))+r4.length)≤(4611686018427387904:Nat)) <|
 T.bind (dG (Expr.mk (Expr.kind (nth x8 Q6 (zb zn)).2.2.2.1) ((Expr.num (nth x8 Q6 (zb zn)).2.2.2.1).1,((Expr.num (nth x8 Q6 (zb zn)).2.2.2.1).2.1,((Expr.num (nth x8 Q6 (zb zn)).2.2.2.1).2.2.1,()))) (Expr.name (nth x8 Q6 (zb zn)).2.2.2.1) (Expr.kids (nth x8 Q6 (zb zn)).2.2.2.1)) ([61]:zf) (Expr.mk (Expr.kind (nth x8 Q6 (zb zn)).2.2.2.2.1) ((Expr.num (nth x8 Q6 (zb zn)).2.2.2.2.1).1,((Expr.num (nth x8 Q6 (zb zn)).2.2.2.2.1).2.1,((Expr.num (nth x8 Q6 (zb zn)).2.2.2.2.1).2.2.1,()))) (Expr.name (nth x8 Q6 (zb zn)).2.2.2.2.1) (Expr.kids (nth x8 Q6 (zb zn)).2.2.2.2.1))) fun r5 =>
 .zd (((List.length (cat (cat (cat (cat ([114,117,108,101,32]:zf) (nth r3 (nth x8 Q6 (zb zn)).2.1 (zb .str))) ([32]:zf)) (nth x8 Q6 (zb zn)).1) r4))+r5.length)≤(4611686018427387904:Nat)) <|
 .zd (zh rJ.length (0:Nat) rJ.length rJ.length) <|
 .zd (rJ.length=rJ.length) <|
 T.bind (qk (cat (cat (cat (cat (cat ([114,117,108,101,32]:zf) (nth r3 (nth x8 Q6 (zb zn)).2.1 (zb .str))) ([32]:zf)) (nth x8 Q6 (zb zn)).1) r4) r5) () rJ) fun(r6,w3,xs10) =>
 .zd (zh xs10.length (0:Nat) xs10.length xs10.length) <|
 .zd (xs10.length=xs10.length) <|
 .ret (.inl ((zt (Q6+1)),((),xs10))))
  (.zd (zh rJ.length (0:Nat) rJ.length rJ.length) <|
 .zd (rJ.length=rJ.length) <|
 .ret (.inr ((),rJ)))
def pX x8 x9 s:=T.loop (jN x8 x9) s
def lJ(f:Form):T zf :=
 .zd (zh (0:Nat) (0:Nat) (0:Nat) (0:Nat)) <|
 .zd ((0:Nat)=(0:Nat)) <|
 T.bind (rD f f.1 (f.1.length:Int) ((0:Int),((),([]:List Int)))) fun(v1,zR) =>
 .zd (zh zR.length (0:Nat) zR.length zR.length) <|
 .zd (zR.length=zR.length) <|
 T.bind (rk f f.2.1 (f.2.1.length:Int) ((0:Int),((),zR))) fun(v3,jb) =>
 .zd (zh jb.length (0:Nat) jb.length jb.length) <|
 .zd (jb.length=jb.length) <|
 T.bind (pO f (f.2.2.1.length:Int) ((0:Int),((),jb))) fun(v5,dN) =>
 .zd (zh dN.length (0:Nat) dN.length dN.length) <|
 .zd (dN.length=dN.length) <|
 T.bind (pX f.2.2.2.2.1 (f.2.2.2.2.1.length:Int) ((0:Int),((),dN))) fun(v7,XX) =>
 .zd (zh XX.length (0:Nat) XX.length XX.length) <|
 .zd (XX.length=XX.length) <|
 T.bind (ox () XX) fun(r7,w4) =>
 .ret r7
def QO(f:Form):T Bool :=
 T.bind (lh f) fun r =>
 .ite r
  (T.bind (eR f) fun r1 =>
 .ite r1
  (T.bind (eW f) fun r2 =>
 .ite r2
  (T.bind (lJ f) fun r3 =>
 .ret (decide ((r3.length:Int)≤(16384:Int))))
  (.ret false))
  (.ret false))
  (.ret false)
def jS(f1:Form)(x:(List Switch))(x1:Int):(Int×(List zf))→T ((Int×(List zf))⊕((List zf)))
 | (x2,xs) =>
 .ite (decide (x2<x1))
  (.zd (zi x2 x.length) <|
 .zd (xp xs.length xs.length (0:Nat) xs.length xs.length (1:Nat) (16:Nat)) <|
 .zd (zh (xs.length+(1:Nat)) (0:Nat) (xs.length+(1:Nat)) (List.length (xs++([(nth x x2 (zb zV)).1]:List zf)))) <|
 .zd ((xs.length+(1:Nat))=(List.length (xs++([(nth x x2 (zb zV)).1]:List zf)))) <|
 .ret (.inl ((zt (x2+1)),(xs++([(nth x x2 (zb zV)).1]:List zf)))))
  (.zd (zh xs.length (0:Nat) xs.length xs.length) <|
 .zd (xs.length=xs.length) <|
 .ret (.inr xs))
def rT f1 x x1 s:=T.loop (jS f1 x x1) s
def ko(f2:Form)(x3:(List Param))(x4:Int):(Int×(List zf))→T ((Int×(List zf))⊕((List zf)))
 | (x5,zR) =>
 .ite (decide (x5<x4))
  (.zd (zi x5 x3.length) <|
 .zd (xp zR.length zR.length (0:Nat) zR.length zR.length (1:Nat) (16:Nat)) <|
 .zd (zh (zR.length+(1:Nat)) (0:Nat) (zR.length+(1:Nat)) (List.length (zR++([(nth x3 x5 (zb zX)).1]:List zf)))) <|
 .zd ((zR.length+(1:Nat))=(List.length (zR++([(nth x3 x5 (zb zX)).1]:List zf)))) <|
 .ret (.inl ((zt (x5+1)),(zR++([(nth x3 x5 (zb zX)).1]:List zf)))))
  (.zd (zh zR.length (0:Nat) zR.length zR.length) <|
 .zd (zR.length=zR.length) <|
 .ret (.inr zR))
def rC f2 x3 x4 s:=T.loop (ko f2 x3 x4) s
def jP(f3:Form)(x6:(List rV))(x7:Int):(Int×(List zf))→T ((Int×(List zf))⊕((List zf)))
 | (x8,va) =>
 .ite (decide (x8<x7))
  (.zd (zi x8 x6.length) <|
 .zd (xp va.length va.length (0:Nat) va.length va.length (1:Nat) (16:Nat)) <|
 .zd (zh (va.length+(1:Nat)) (0:Nat) (va.length+(1:Nat)) (List.length (va++([(nth x6 x8 (zb qu)).1]:List zf)))) <|
 .zd ((va.length+(1:Nat))=(List.length (va++([(nth x6 x8 (zb qu)).1]:List zf)))) <|
 .ret (.inl ((zt (x8+1)),(va++([(nth x6 x8 (zb qu)).1]:List zf)))))
  (.zd (zh va.length (0:Nat) va.length va.length) <|
 .zd (va.length=va.length) <|
 .ret (.inr va))
def si f3 x6 x7 s:=T.loop (jP f3 x6 x7) s
def ke(f4:Form)(x9:(List Field))(Q6:Int):(Int×(List zf))→T ((Int×(List zf))⊕((List zf)))
 | (x11,xs6) =>
 .ite (decide (x11<Q6))
  (.zd (zi x11 x9.length) <|
 .zd (xp xs6.length xs6.length (0:Nat) xs6.length xs6.length (1:Nat) (16:Nat)) <|
 .zd (zh (xs6.length+(1:Nat)) (0:Nat) (xs6.length+(1:Nat)) (List.length (xs6++([(nth x9 x11 (zb q8)).1]:List zf)))) <|
 .zd ((xs6.length+(1:Nat))=(List.length (xs6++([(nth x9 x11 (zb q8)).1]:List zf)))) <|
 .ret (.inl ((zt (x11+1)),(xs6++([(nth x9 x11 (zb q8)).1]:List zf)))))
  (.zd (zh xs6.length (0:Nat) xs6.length xs6.length) <|
 .zd (xs6.length=xs6.length) <|
 .ret (.inr xs6))
def sd f4 x9 Q6 s:=T.loop (ke f4 x9 Q6) s
def jJ(f5:Form)(x12:(List uT))(x13:Int):(Int×(List zf))→T ((Int×(List zf))⊕((List zf)))
 | (x14,dN) =>
 .ite (decide (x14<x13))
  (.zd (zi x14 x12.length) <|
 .zd (xp dN.length dN.length (0:Nat) dN.length dN.length (1:Nat) (16:Nat)) <|
 .zd (zh (dN.length+(1:Nat)) (0:Nat) (dN.length+(1:Nat)) (List.length (dN++([(nth x12 x14 (zb zn)).1]:List zf)))) <|
 .zd ((dN.length+(1:Nat))=(List.length (dN++([(nth x12 x14 (zb zn)).1]:List zf)))) <|
 .ret (.inl ((zt (x14+1)),(dN++([(nth x12 x14 (zb zn)).1]:List zf)))))
  (.zd (zh dN.length (0:Nat) dN.length dN.length) <|
 .zd (dN.length=dN.length) <|
 .ret (.inr dN))
def sH f5 x12 x13 s:=T.loop (jJ f5 x12 x13) s
def kv(x15:(List Check))(x16:Int):(Int×(List zf))→T ((Int×(List zf))⊕((List zf)))
 | (x17,xs10) =>
 .ite (decide (x17<x16))
  (.zd (zi x17 x15.length) <|
 .zd (xp xs10.length xs10.length (0:Nat) xs10.length xs10.length (1:Nat) (16:Nat)) <|
 .zd (zh (xs10.length+(1:Nat)) (0:Nat) (xs10.length+(1:Nat)) (List.length (xs10++([(nth x15 x17 (zb zm)).1]:List zf)))) <|
 .zd ((xs10.length+(1:Nat))=(List.length (xs10++([(nth x15 x17 (zb zm)).1]:List zf)))) <|
 .ret (.inl ((zt (x17+1)),(xs10++([(nth x15 x17 (zb zm)).1]:List zf)))))
  (.zd (zh xs10.length (0:Nat) xs10.length xs10.length) <|
 .zd (xs10.length=xs10.length) <|
 .ret (.inr xs10))
def sg x15 x16 s:=T.loop (kv x15 x16) s
def iU(f:Form):T (List zf) :=
 .zd (zh (0:Nat) (0:Nat) (0:Nat) (0:Nat)) <|
 .zd ((0:Nat)=(0:Nat)) <|
 T.bind (rT f f.1 (f.1.length:Int) ((0:Int),([]:List zf))) fun zy =>
 .zd (zh zy.length (0:Nat) zy.length zy.length) <|
 .zd (zy.length=zy.length) <|
 T.bind (rC f f.2.1 (f.2.1.length:Int) ((0:Int),zy)) fun qH =>
 .zd (zh qH.length (0:Nat) qH.length qH.length) <|
 .zd (qH.length=qH.length) <|
 T.bind (si f f.2.2.1 (f.2.2.1.length:Int) ((0:Int),qH)) fun jb =>
 .zd (zh jb.length (0:Nat) jb.length jb.length) <|
 .zd (jb.length=jb.length) <|
 T.bind (sd f f.2.2.2.1 (f.2.2.2.1.length:Int) ((0:Int),jb)) fun vK =>
 .zd (zh vK.length (0:Nat) vK.length vK.length) <|
 .zd (vK.length=vK.length) <|
 T.bind (sH f f.2.2.2.2.1 (f.2.2.2.2.1.length:Int) ((0:Int),vK)) fun rJ =>
 .zd (zh rJ.length (0:Nat) rJ.length rJ.length) <|
 .zd (rJ.length=rJ.length) <|
 T.bind (sg f.2.2.2.2.2.1 (f.2.2.2.2.2.1.length:Int) ((0:Int),rJ)) fun XX =>
 .zd (XX.length=XX.length) <|
 .ret (List.drop (0:Nat) (List.take ((0:Nat)+XX.length) XX))
def tn:List zf→List zf→zf×Bool
 | _,[]=>([],false)
 | seen,x::r=>if x∈seen then(x,true)else tn (seen++[x]) r
def lO(l:List zf):T (zf×Bool):=.zd (List.length l*16≤140737488351232∧∀ s∈l,List.length s≤9223372036854775807)<|.ret (tn [] l)
def xW(x:Switch)(c1:zf):T Bool :=
 .ret (zF x.1 c1)
def wF(s:zf)(c1:Form):T Bool :=
 .ite (!(zF s ([]:zf)))
  (T.bind (qC c1.1 (fun z0=>xW z0 s)) fun r =>
 .ret (!r))
  (.ret false)
def qe(s1:(List zf))(f:zf→T Bool)(x:Int):Int→T (Int⊕(Unit⊕Int))
 | x1 =>
 .ite (decide (x1<x))
  (.zd (zi x1 s1.length) <|
 T.bind (f (nth s1 x1 (zb .str))) fun r =>
 .ite r
  (.ret (.inr (.inr x1)))
  (.ret (.inl (zt (x1+1)))))
  (.ret (.inr (.inl ())))
def wU s1 f x s:=T.loop (qe s1 f x) s
def qm(s:(List zf))(f:zf→T Bool):T Int :=
 T.bind (wU s f (s.length:Int) (0:Int)) <|
 Sum.elim (fun _ =>
 .ret (-1:Int))
  (fun x2 =>
 .ret x2)
def vw(f1:Form)(x:(List rV))(x1:Int):(Int×(List zf))→T ((Int×(List zf))⊕((List zf)))
 | (x2,xs) =>
 .ite (decide (x2<x1))
  (.zd (zi x2 x.length) <|
 .zd (xp xs.length xs.length (0:Nat) xs.length xs.length (1:Nat) (16:Nat)) <|
 .zd (zh (xs.length+(1:Nat)) (0:Nat) (xs.length+(1:Nat)) (List.length (xs++([(nth x x2 (zb qu)).2.1]:List zf)))) <|
 .zd ((xs.length+(1:Nat))=(List.length (xs++([(nth x x2 (zb qu)).2.1]:List zf)))) <|
 .ret (.inl ((zt (x2+1)),(xs++([(nth x x2 (zb qu)).2.1]:List zf)))))
  (.zd (zh xs.length (0:Nat) xs.length xs.length) <|
 .zd (xs.length=xs.length) <|
 .ret (.inr xs))
def iK f1 x x1 s:=T.loop (vw f1 x x1) s
def vu(f2:Form)(x3:(List uT))(x4:Int):(Int×(List zf))→T ((Int×(List zf))⊕((List zf)))
 | (x5,zR) =>
 .ite (decide (x5<x4))
  (.zd (zi x5 x3.length) <|
 .zd (xp zR.length zR.length (0:Nat) zR.length zR.length (1:Nat) (16:Nat)) <|
 .zd (zh (zR.length+(1:Nat)) (0:Nat) (zR.length+(1:Nat)) (List.length (zR++([(nth x3 x5 (zb zn)).2.2.1]:List zf)))) <|
 .zd ((zR.length+(1:Nat))=(List.length (zR++([(nth x3 x5 (zb zn)).2.2.1]:List zf)))) <|
 .ret (.inl ((zt (x5+1)),(zR++([(nth x3 x5 (zb zn)).2.2.1]:List zf)))))
  (.zd (zh zR.length (0:Nat) zR.length zR.length) <|
 .zd (zR.length=zR.length) <|
 .ret (.inr zR))
def fN f2 x3 x4 s:=T.loop (vu f2 x3 x4) s
def ga(f:Form):T (zf×Bool) :=
 .zd (zh (0:Nat) (0:Nat) (0:Nat) (0:Nat)) <|
 .zd ((0:Nat)=(0:Nat)) <|
 T.bind (iK f f.2.2.1 (f.2.2.1.length:Int) ((0:Int),([]:List zf))) fun zy =>
 .zd (zh zy.length (0:Nat) zy.length zy.length) <|
 .zd (zy.length=zy.length) <|
 T.bind (fN f f.2.2.2.2.1 (f.2.2.2.2.1.length:Int) ((0:Int),zy)) fun qH =>
 .zd (qH.length=qH.length) <|
 T.bind (qm (List.drop (0:Nat) (List.take ((0:Nat)+qH.length) qH)) (fun z0=>wF z0 f)) fun i =>
 .ite (decide (i<(0:Int)))
  (.ret (([]:zf),false))
  (.zd (zi i qH.length) <|
 .zd (eB qH.length qH.length ((0:Nat)+(Int.toNat i)) qH.length) <|
 .ret ((xj qH ((0:Nat)+(Int.toNat i)) (zb .str)),true))
def qs(s1:(List zf))(v1:zf)(x:Int):Int→T (Int⊕(Unit⊕Int))
 | x1 =>
 .ite (decide (x1<x))
  (.zd (zi x1 s1.length) <|
 .ite (zF v1 (nth s1 x1 (zb .str)))
  (.ret (.inr (.inr x1)))
  (.ret (.inl (zt (x1+1)))))
  (.ret (.inr (.inl ())))
def vS s1 v1 x s:=T.loop (qs s1 v1 x) s
def qw(s:(List zf))(v:zf):T Int :=
 T.bind (vS s v (s.length:Int) (0:Int)) <|
 Sum.elim (fun _ =>
 .ret (-1:Int))
  (fun x2 =>
 .ret x2)
def qQ(s:(List zf))(v:zf):T Bool :=
 T.bind (qw s v) fun r =>
 .ret (decide ((0:Int)≤r))
def yY(ja:AM.Expr→(List zf)→T (List zf))(x1:(List AM.Expr))(x2:Int):(Int×(List zf))→T ((Int×(List zf))⊕((List zf)))
 | (x3,zR) =>
 .ite (decide (x3<x2))
  (.zd (zi x3 x1.length) <|
 .zd (zh zR.length (0:Nat) zR.length zR.length) <|
 .zd (zR.length=zR.length) <|
 T.bind (ja (nth x1 x3 (zb .expr)) zR) fun l1 =>
 .zd (zh l1.length (0:Nat) l1.length l1.length) <|
 .zd (l1.length=l1.length) <|
 .ret (.inl ((zt (x3+1)),l1)))
  (.zd (zh zR.length (0:Nat) zR.length zR.length) <|
 .zd (zR.length=zR.length) <|
 .ret (.inr zR))
def pD ja x1 x2 s:=T.loop (yY ja x1 x2) s
def bz(ja:AM.Expr→(List zf)→T (List zf))(e:AM.Expr)(l:(List zf)):T (List zf) :=
 T.bind (T.bind (.ite ((Expr.kind e)==2)
  (.zd (l.length=l.length) <|
 T.bind (qQ (List.drop (0:Nat) (List.take ((0:Nat)+l.length) l)) (Expr.name e)) fun r =>
 .zd (zh l.length (0:Nat) l.length l.length) <|
 .zd (l.length=l.length) <|
 .ret ((!r),l))
  (.zd (zh l.length (0:Nat) l.length l.length) <|
 .zd (l.length=l.length) <|
 .ret (false,l)):T ((Bool×(List zf)))) fun(x,xs) =>
 .ite x
  (.zd (xp xs.length xs.length (0:Nat) xs.length xs.length (1:Nat) (16:Nat)) <|
 .zd (zh (xs.length+(1:Nat)) (0:Nat) (xs.length+(1:Nat)) (List.length (xs++([(Expr.name e)]:List zf)))) <|
 .zd ((xs.length+(1:Nat))=(List.length (xs++([(Expr.name e)]:List zf)))) <|
 .ret (xs++([(Expr.name e)]:List zf)))
  (.zd (zh xs.length (0:Nat) xs.length xs.length) <|
 .zd (xs.length=xs.length) <|
 .ret xs):T ((List zf))) fun zy =>
 .zd (zh zy.length (0:Nat) zy.length zy.length) <|
 .zd (zy.length=zy.length) <|
 T.bind (pD ja (Expr.kids e) ((Expr.kids e).length:Int) ((0:Int),zy)) fun qH =>
 .zd (zh qH.length (0:Nat) qH.length qH.length) <|
 .zd (qH.length=qH.length) <|
 .ret qH
def eS(e:AM.Expr)(l:(List zf)):T (List zf):=T.fix (fun F x=>bz (fun y0 y1=>F (y0,y1)) x.1 x.2) (e,l)
def kT(x1:(List AM.Expr))(x2:Int):(Int×(List zf))→T ((Int×(List zf))⊕((List zf)))
 | (x3,zR) =>
 .ite (decide (x3<x2))
  (.zd (zi x3 x1.length) <|
 .zd (zh zR.length (0:Nat) zR.length zR.length) <|
 .zd (zR.length=zR.length) <|
 T.bind (eS (nth x1 x3 (zb .expr)) zR) fun l1 =>
 .zd (zh l1.length (0:Nat) l1.length l1.length) <|
 .zd (l1.length=l1.length) <|
 .ret (.inl ((zt (x3+1)),l1)))
  (.zd (zh zR.length (0:Nat) zR.length zR.length) <|
 .zd (zR.length=zR.length) <|
 .ret (.inr zR))
def mE x1 x2 s:=T.loop (kT x1 x2) s
def cC(e:AM.Expr)(l:(List zf)):T (List zf) :=
 T.bind (T.bind (.ite ((Expr.kind e)==2)
  (.zd (l.length=l.length) <|
 T.bind (qQ (List.drop (0:Nat) (List.take ((0:Nat)+l.length) l)) (Expr.name e)) fun r =>
 .zd (zh l.length (0:Nat) l.length l.length) <|
 .zd (l.length=l.length) <|
 .ret ((!r),l))
  (.zd (zh l.length (0:Nat) l.length l.length) <|
 .zd (l.length=l.length) <|
 .ret (false,l)):T ((Bool×(List zf)))) fun(x,xs) =>
 .ite x
  (.zd (xp xs.length xs.length (0:Nat) xs.length xs.length (1:Nat) (16:Nat)) <|
 .zd (zh (xs.length+(1:Nat)) (0:Nat) (xs.length+(1:Nat)) (List.length (xs++([(Expr.name e)]:List zf)))) <|
 .zd ((xs.length+(1:Nat))=(List.length (xs++([(Expr.name e)]:List zf)))) <|
 .ret (xs++([(Expr.name e)]:List zf)))
  (.zd (zh xs.length (0:Nat) xs.length xs.length) <|
 .zd (xs.length=xs.length) <|
 .ret xs):T ((List zf))) fun zy =>
 .zd (zh zy.length (0:Nat) zy.length zy.length) <|
 .zd (zy.length=zy.length) <|
 T.bind (mE (Expr.kids e) ((Expr.kids e).length:Int) ((0:Int),zy)) fun qH =>
 .zd (zh qH.length (0:Nat) qH.length qH.length) <|
 .zd (qH.length=qH.length) <|
 .ret qH
def kt(e:AM.Expr):T (List zf) :=
 .zd (zh (0:Nat) (0:Nat) (0:Nat) (0:Nat)) <|
 .zd ((0:Nat)=(0:Nat)) <|
 T.bind (cC e ([]:List zf)) fun xs =>
 .zd (xs.length=xs.length) <|
 .ret (List.drop (0:Nat) (List.take ((0:Nat)+xs.length) xs))
def wb(l:List (List zf)):T (List zf):=.zd (List.length l*24≤140737488351232∧List.length (List.flatten l)*16≤140737488355328∧l≠[])<|.ret (List.flatten l)
def wo(p:Param)(c1:zf):T Bool :=
 .ret (zF p.1 c1)
def vq(s:zf)(c1:(List zf))(c2:Form):T Bool :=
 T.bind (qQ c1 s) fun r =>
 .ite (!r)
  (T.bind (qE c2.2.1 (fun z0=>wo z0 s)) fun r1 =>
 .ret (!r1))
  (.ret false)
def uG(f1:Form)(kV:(List zf))(x:(List Check))(x1:Int):((List zf)×Int)→T (((List zf)×Int)⊕((List zf)))
 | (l,x2) =>
 .ite (decide (x2<x1))
  (.zd (zi x2 x.length) <|
 T.bind (kt (Expr.mk (Expr.kind (nth x x2 (zb zm)).2.2.2.1) ((Expr.num (nth x x2 (zb zm)).2.2.2.1).1,((Expr.num (nth x x2 (zb zm)).2.2.2.1).2.1,((Expr.num (nth x x2 (zb zm)).2.2.2.1).2.2.1,()))) (Expr.name (nth x x2 (zb zm)).2.2.2.1) (Expr.kids (nth x x2 (zb zm)).2.2.2.1))) fun r =>
 T.bind (kt (Expr.mk (Expr.kind (nth x x2 (zb zm)).2.2.2.2.1) ((Expr.num (nth x x2 (zb zm)).2.2.2.2.1).1,((Expr.num (nth x x2 (zb zm)).2.2.2.2.1).2.1,((Expr.num (nth x x2 (zb zm)).2.2.2.2.1).2.2.1,()))) (Expr.name (nth x x2 (zb zm)).2.2.2.2.1) (Expr.kids (nth x x2 (zb zm)).2.2.2.2.1))) fun r1 =>
 T.bind (wb ([l,r,r1]:List (List zf))) fun l1 =>
 .ret (.inl (l1,(zt (x2+1)))))
  (.ret (.inr l))
def mZ f1 kV x x1 s:=T.loop (uG f1 kV x x1) s
def uS(f2:Form)(ot:(List zf))(x3:(List uT))(x4:Int):((List zf)×Int)→T (((List zf)×Int)⊕((List zf)))
 | (l3,x5) =>
 .ite (decide (x5<x4))
  (.zd (zi x5 x3.length) <|
 T.bind (kt (Expr.mk (Expr.kind (nth x3 x5 (zb zn)).2.2.2.1) ((Expr.num (nth x3 x5 (zb zn)).2.2.2.1).1,((Expr.num (nth x3 x5 (zb zn)).2.2.2.1).2.1,((Expr.num (nth x3 x5 (zb zn)).2.2.2.1).2.2.1,()))) (Expr.name (nth x3 x5 (zb zn)).2.2.2.1) (Expr.kids (nth x3 x5 (zb zn)).2.2.2.1))) fun r2 =>
 T.bind (kt (Expr.mk (Expr.kind (nth x3 x5 (zb zn)).2.2.2.2.1) ((Expr.num (nth x3 x5 (zb zn)).2.2.2.2.1).1,((Expr.num (nth x3 x5 (zb zn)).2.2.2.2.1).2.1,((Expr.num (nth x3 x5 (zb zn)).2.2.2.2.1).2.2.1,()))) (Expr.name (nth x3 x5 (zb zn)).2.2.2.2.1) (Expr.kids (nth x3 x5 (zb zn)).2.2.2.2.1))) fun r3 =>
 T.bind (wb ([l3,r2,r3]:List (List zf))) fun l4 =>
 .ret (.inl (l4,(zt (x5+1)))))
  (.ret (.inr l3))
def mR f2 ot x3 x4 s:=T.loop (uS f2 ot x3 x4) s
def cA(f:Form)(fields:(List zf)):T (zf×Bool) :=
 T.bind (mZ f fields f.2.2.2.2.2.1 (f.2.2.2.2.2.1.length:Int) (([]:List zf),(0:Int))) fun l2 =>
 T.bind (mR f fields f.2.2.2.2.1 (f.2.2.2.2.1.length:Int) (l2,(0:Int))) fun l5 =>
 T.bind (qm l5 (fun z0=>vq z0 fields f)) fun i =>
 .ite (decide (i<(0:Int)))
  (.ret (([]:zf),false))
  (.zd (zi i l5.length) <|
 .ret ((nth l5 i (zb .str)),true))
def wQ(name:zf)(c1:(List zf)):T Bool :=
 T.bind (qQ c1 name) fun r =>
 .ret r
def xS(s:(List zf))(f:zf→T Bool):T Bool :=
 T.bind (qm s f) fun r =>
 .ret (decide ((0:Int)≤r))
def gE(e:AM.Expr)(fields:(List zf)):T Bool :=
 T.bind (kt e) fun r =>
 T.bind (xS r (fun z0=>wQ z0 fields)) fun r1 =>
 .ret r1
def xL(qW:AM.Expr→(List zf)→T Bool)(k:AM.Expr)(c1:(List zf)):T Bool :=
 T.bind (qW k c1) fun r =>
 .ret (!r)
def xx(qW:AM.Expr→(List zf)→T Bool)(s1:(List AM.Expr))(f:AM.Expr→T Bool)(x:Int):Int→T (Int⊕(Unit⊕Int))
 | x1 =>
 .ite (decide (x1<x))
  (.zd (zi x1 s1.length) <|
 T.bind (f (nth s1 x1 (zb .expr))) fun r =>
 .ite r
  (.ret (.inr (.inr x1)))
  (.ret (.inl (zt (x1+1)))))
  (.ret (.inr (.inl ())))
def jH qW s1 f x s:=T.loop (xx qW s1 f x) s
def wI(qW:AM.Expr→(List zf)→T Bool)(s:(List AM.Expr))(f:AM.Expr→T Bool):T Int :=
 T.bind (jH qW s f (s.length:Int) (0:Int)) <|
 Sum.elim (fun _ =>
 .ret (-1:Int))
  (fun x2 =>
 .ret x2)
def wc(qW:AM.Expr→(List zf)→T Bool)(s:(List AM.Expr))(f:AM.Expr→T Bool):T Bool :=
 T.bind ((wI qW) s f) fun r =>
 .ret (decide ((0:Int)≤r))
def gO(qW:AM.Expr→(List zf)→T Bool)(e:AM.Expr)(fields:(List zf)):T Bool :=
 T.bind (.ite (((Expr.kids e).length:Int)==(2:Int))
  (.zd (zi (0:Int) (Expr.kids e).length) <|
 .zd (zi (1:Int) (Expr.kids e).length) <|
 T.bind (.ite ((Expr.kind e)==5)
  (T.bind (gE (nth (Expr.kids e) (0:Int) (zb .expr)) fields) fun r =>
 .ite r
  (T.bind (gE (nth (Expr.kids e) (1:Int) (zb .expr)) fields) fun r1 =>
 .ite r1
  (.ret (true,((nth (Expr.kids e) (0:Int) (zb .expr)),(nth (Expr.kids e) (1:Int) (zb .expr)))))
  (.ite ((Expr.kind e)==6)
  (T.bind (gE (nth (Expr.kids e) (1:Int) (zb .expr)) fields) fun r2 =>
 .ret (r2,((nth (Expr.kids e) (0:Int) (zb .expr)),(nth (Expr.kids e) (1:Int) (zb .expr)))))
  (.ret (false,((nth (Expr.kids e) (0:Int) (zb .expr)),(nth (Expr.kids e) (1:Int) (zb .expr)))))))
  (.ite ((Expr.kind e)==6)
  (T.bind (gE (nth (Expr.kids e) (1:Int) (zb .expr)) fields) fun r3 =>
 .ret (r3,((nth (Expr.kids e) (0:Int) (zb .expr)),(nth (Expr.kids e) (1:Int) (zb .expr)))))
  (.ret (false,((nth (Expr.kids e) (0:Int) (zb .expr)),(nth (Expr.kids e) (1:Int) (zb .expr)))))))
  (.ite ((Expr.kind e)==6)
  (T.bind (gE (nth (Expr.kids e) (1:Int) (zb .expr)) fields) fun r4 =>
 .ret (r4,((nth (Expr.kids e) (0:Int) (zb .expr)),(nth (Expr.kids e) (1:Int) (zb .expr)))))
  (.ret (false,((nth (Expr.kids e) (0:Int) (zb .expr)),(nth (Expr.kids e) (1:Int) (zb .expr)))))):T ((Bool×AM.Expr×AM.Expr))) fun(x,v,v1) =>
 .ite x
  (.ret (.inr false))
  (.ret (.inl ())))
  (.ret (.inl ())):T (Unit⊕Bool)) <|
 Sum.elim (fun _ =>
 T.bind ((wc qW) (Expr.kids e) (fun z0=>(xL qW) z0 fields)) fun r5 =>
 .ret (!r5))
  (fun x1 =>
 .ret x1)
def gP(e:AM.Expr)(fields:(List zf)):T Bool:=T.fix (fun F x=>gO (fun y0 y1=>F (y0,y1)) x.1 x.2) (e,fields)
def jh(f1:Form)(x:(List Field))(x1:Int):(Int×(List zf))→T ((Int×(List zf))⊕((List zf)))
 | (x2,xs) =>
 .ite (decide (x2<x1))
  (.zd (zi x2 x.length) <|
 .zd (xp xs.length xs.length (0:Nat) xs.length xs.length (1:Nat) (16:Nat)) <|
 .zd (zh (xs.length+(1:Nat)) (0:Nat) (xs.length+(1:Nat)) (List.length (xs++([(nth x x2 (zb q8)).1]:List zf)))) <|
 .zd ((xs.length+(1:Nat))=(List.length (xs++([(nth x x2 (zb q8)).1]:List zf)))) <|
 .ret (.inl ((zt (x2+1)),(xs++([(nth x x2 (zb q8)).1]:List zf)))))
  (.zd (zh xs.length (0:Nat) xs.length xs.length) <|
 .zd (xs.length=xs.length) <|
 .ret (.inr xs))
def oY f1 x x1 s:=T.loop (jh f1 x x1) s
def j6(x3:(List uT))(x4:Int):(Int×(List zf))→T ((Int×(List zf))⊕((List zf)⊕(Int×zf×(List zf))))
 | (x5,zR) =>
 .ite (decide (x5<x4))
  (.zd (zi x5 x3.length) <|
 T.bind (.zd (zR.length=zR.length) <|
 T.bind (gP (Expr.mk (Expr.kind (nth x3 x5 (zb zn)).2.2.2.1) ((Expr.num (nth x3 x5 (zb zn)).2.2.2.1).1,((Expr.num (nth x3 x5 (zb zn)).2.2.2.1).2.1,((Expr.num (nth x3 x5 (zb zn)).2.2.2.1).2.2.1,()))) (Expr.name (nth x3 x5 (zb zn)).2.2.2.1) (Expr.kids (nth x3 x5 (zb zn)).2.2.2.1)) (List.drop (0:Nat) (List.take ((0:Nat)+zR.length) zR))) fun r2 =>
 .ite (!r2)
  (.zd (zh zR.length (0:Nat) zR.length zR.length) <|
 .zd (zR.length=zR.length) <|
 .ret (true,(zR,(nth x3 x5 (zb zn)))))
  (.zd (zR.length=zR.length) <|
 T.bind (gP (Expr.mk (Expr.kind (nth x3 x5 (zb zn)).2.2.2.2.1) ((Expr.num (nth x3 x5 (zb zn)).2.2.2.2.1).1,((Expr.num (nth x3 x5 (zb zn)).2.2.2.2.1).2.1,((Expr.num (nth x3 x5 (zb zn)).2.2.2.2.1).2.2.1,()))) (Expr.name (nth x3 x5 (zb zn)).2.2.2.2.1) (Expr.kids (nth x3 x5 (zb zn)).2.2.2.2.1)) (List.drop (0:Nat) (List.take ((0:Nat)+zR.length) zR))) fun r3 =>
 .zd (zh zR.length (0:Nat) zR.length zR.length) <|
 .zd (zR.length=zR.length) <|
 .ret ((!r3),(zR,(nth x3 x5 (zb zn))))):T ((Bool×(List zf)×uT))) fun(x6,qH,v) =>
 .ite x6
  (.zd (qH.length=qH.length) <|
 .ret (.inr (.inr ((6:Int),(v.1,qH)))))
  (.zd (zh qH.length (0:Nat) qH.length qH.length) <|
 .zd (qH.length=qH.length) <|
 .ret (.inl ((zt (x5+1)),qH))))
  (.zd (zR.length=zR.length) <|
 .ret (.inr (.inl zR)))
def pB x3 x4 s:=T.loop (j6 x3 x4) s
def eL(f:Form):T (Int×zf) :=
 T.bind (QO f) fun r =>
 .ite (!r)
  (.ret ((2:Int),([]:zf)))
  (.ite ((decide ((64:Int)<(f.2.2.2.1.length:Int)))||(decide ((64:Int)<(f.2.2.2.2.1.length:Int))))
  (.ret ((3:Int),([]:zf)))
  (T.bind (iU f) fun r1 =>
 T.bind (lO r1) fun(name,ok) =>
 .ite ok
  (.ret ((5:Int),name))
  (T.bind (ga f) fun(name1,ok1) =>
 .ite ok1
  (.ret ((5:Int),name1))
  (.zd (zh (0:Nat) (0:Nat) (0:Nat) (0:Nat)) <|
 .zd ((0:Nat)=(0:Nat)) <|
 T.bind (oY f f.2.2.2.1 (f.2.2.2.1.length:Int) ((0:Int),([]:List zf))) fun zy =>
 .zd (zy.length=zy.length) <|
 T.bind (cA f (List.drop (0:Nat) (List.take ((0:Nat)+zy.length) zy))) fun(name2,ok2) =>
 .ite ok2
  (.ret ((5:Int),name2))
  (.zd (zh zy.length (0:Nat) zy.length zy.length) <|
 .zd (zy.length=zy.length) <|
 T.bind (pB f.2.2.2.2.1 (f.2.2.2.2.1.length:Int) ((0:Int),zy)) <|
 Sum.elim (fun va =>
 .ret ((0:Int),([]:zf)))
  (fun(x7,x8,jb) =>
 .ret (x7,x8)))))))
def wL(a:Rat):T Bool :=
 T.bind (sI a) fun r =>
 .ite (!r)
  (.ret true)
  (T.bind (uO a) fun r1 =>
 .ret r1)
def xJ(s1:(List Rat))(f:Rat→T Bool)(x:Int):Int→T (Int⊕(Unit⊕Int))
 | x1 =>
 .ite (decide (x1<x))
  (.zd (zi x1 s1.length) <|
 T.bind (f (nth s1 x1 (zb zI))) fun r =>
 .ite r
  (.ret (.inr (.inr x1)))
  (.ret (.inl (zt (x1+1)))))
  (.ret (.inr (.inl ())))
def jK s1 f x s:=T.loop (xJ s1 f x) s
def wX(s:(List Rat))(f:Rat→T Bool):T Int :=
 T.bind (jK s f (s.length:Int) (0:Int)) <|
 Sum.elim (fun _ =>
 .ret (-1:Int))
  (fun x2 =>
 .ret x2)
def xf(s:(List Rat))(f:Rat→T Bool):T Bool :=
 T.bind (wX s f) fun r =>
 .ret (decide ((0:Int)≤r))
def kC(x:(List Field))(x1:Int):(Int×(List zf))→T ((Int×(List zf))⊕((List zf)))
 | (x2,xs) =>
 .ite (decide (x2<x1))
  (.zd (zi x2 x.length) <|
 .zd (xp xs.length xs.length (0:Nat) xs.length xs.length (1:Nat) (16:Nat)) <|
 .zd (zh (xs.length+(1:Nat)) (0:Nat) (xs.length+(1:Nat)) (List.length (xs++([(nth x x2 (zb q8)).1]:List zf)))) <|
 .zd ((xs.length+(1:Nat))=(List.length (xs++([(nth x x2 (zb q8)).1]:List zf)))) <|
 .ret (.inl ((zt (x2+1)),(xs++([(nth x x2 (zb q8)).1]:List zf)))))
  (.zd (zh xs.length (0:Nat) xs.length xs.length) <|
 .zd (xs.length=xs.length) <|
 .ret (.inr xs))
def rY x x1 s:=T.loop (kC x x1) s
def iS(f:Form):T (List zf) :=
 .zd (zh (0:Nat) (0:Nat) (0:Nat) (0:Nat)) <|
 .zd ((0:Nat)=(0:Nat)) <|
 T.bind (rY f.2.2.2.1 (f.2.2.2.1.length:Int) ((0:Int),([]:List zf))) fun zy =>
 .zd (zy.length=zy.length) <|
 .ret (List.drop (0:Nat) (List.take ((0:Nat)+zy.length) zy))
def uB(s:(List Rat)):T (List Rat) :=
 .zd (s=[]→∀ r,T.leads (.zd (xp (0:Nat) (0:Nat) (0:Nat) (0:Nat) (0:Nat) s.length (56:Nat)) <|
 .zd (((0:Nat)+s.length)=((0:Nat)+s.length)) <|
 .ret (List.drop (0:Nat) (List.take ((0:Nat)+((0:Nat)+s.length)) s)):T _) r→T.leads (.ret ([]:List Rat):T _) r) <|
 .zd (xp (0:Nat) (0:Nat) (0:Nat) (0:Nat) (0:Nat) s.length (56:Nat)) <|
 .zd (((0:Nat)+s.length)=((0:Nat)+s.length)) <|
 .ret (List.drop (0:Nat) (List.take ((0:Nat)+((0:Nat)+s.length)) s))
def cS(x:(List Param))(x1:Int):(Int×((List Rat)×Unit)×((List zf)×(List Rat)×Unit)×(List zf)×(List zf)×(List zf))→T ((Int×((List Rat)×Unit)×((List zf)×(List Rat)×Unit)×(List zf)×(List zf)×(List zf))⊕((((List Rat)×Unit)×((List zf)×(List Rat)×Unit)×(List zf)×(List zf)×(List zf))))
 | (x2,v,v1,xs,zy,zR) =>
 .ite (decide (x2<x1))
  (.zd (zi x2 x.length) <|
 .zd (xp zR.length zR.length (0:Nat) zR.length zR.length (1:Nat) (16:Nat)) <|
 .zd (zh xs.length (0:Nat) xs.length xs.length) <|
 .zd (zh zy.length (0:Nat) zy.length zy.length) <|
 .zd (zh (zR.length+(1:Nat)) (0:Nat) (zR.length+(1:Nat)) (List.length (zR++([(nth x x2 (zb zX)).1]:List zf)))) <|
 .zd (xs.length=xs.length) <|
 .zd (zy.length=zy.length) <|
 .zd ((zR.length+(1:Nat))=(List.length (zR++([(nth x x2 (zb zX)).1]:List zf)))) <|
 .ret (.inl ((zt (x2+1)),((v.1,()),((v1.1,(v1.2.1,())),(xs,(zy,(zR++([(nth x x2 (zb zX)).1]:List zf)))))))))
  (.zd (zh xs.length (0:Nat) xs.length xs.length) <|
 .zd (zh zy.length (0:Nat) zy.length zy.length) <|
 .zd (zh zR.length (0:Nat) zR.length zR.length) <|
 .zd (xs.length=xs.length) <|
 .zd (zy.length=zy.length) <|
 .zd (zR.length=zR.length) <|
 .ret (.inr ((v.1,()),((v1.1,(v1.2.1,())),(xs,(zy,zR))))))
def Vu x x1 s:=T.loop (cS x x1) s
def sE(f:Form)(params:(List Rat)):T zJ :=
 T.bind (iS f) fun r =>
 T.bind (uB params) fun r1 =>
 .zd (zh (0:Nat) (0:Nat) (0:Nat) (0:Nat)) <|
 .zd (zh (0:Nat) (0:Nat) (0:Nat) (0:Nat)) <|
 .zd (zh (0:Nat) (0:Nat) (0:Nat) (0:Nat)) <|
 .zd ((0:Nat)=(0:Nat)) <|
 .zd ((0:Nat)=(0:Nat)) <|
 .zd ((0:Nat)=(0:Nat)) <|
 T.bind (Vu f.2.1 (f.2.1.length:Int) ((0:Int),((([]:List Rat),()),((r,(r1,())),(([]:List zf),(([]:List zf),([]:List zf))))))) fun(v2,v3,qH,va,jb) =>
 .zd (jb.length=jb.length) <|
 .ret (v3.1,((List.drop (0:Nat) (List.take ((0:Nat)+jb.length) jb)),(v3.2.1,())))
def kQ(s:Switch)(c1:zf):T Bool :=
 .ret (zF s.1 c1)
def sV(f:Form)(on:(List Bool))(when:zf):T Bool :=
 T.bind (ql f.1 (fun z0=>kQ z0 when)) fun i =>
 .zd (((zF when ([]:zf))=false)→(((decide ((0:Int)≤i))=true)→(zi i on.length))) <|
 .ret ((zF when ([]:zf))||((decide ((0:Int)≤i))&&(nth on i (zb .bool))))
def uZ(n:Int):T Rat :=
 T.bind (jW (bif (decide (n<(0:Int)))then(zw ((0:Int)-(zw n)))else(zw n))) fun r =>
 T.bind (jW (1:Int)) fun r1 =>
 .ret ((decide (n<(0:Int))),(r,(r1,())))
def tF(val:(List Rat))(i:Int):T Rat :=
 .ite ((decide (i<(0:Int)))||(decide ((val.length:Int)≤i)))
  (T.bind (uZ (0:Int)) fun r =>
 .ret r)
  (.zd (zi i val.length) <|
 T.bind (xR (nth val i (zb zI))) fun r1 =>
 .ret r1)
def tB(name:zf)(v:zJ):T (wC×Int) :=
 T.bind (qw v.1 name) fun i =>
 .ite (decide ((0:Int)≤i))
  (T.bind (uZ (1:Int)) fun r =>
 T.bind (uZ (0:Int)) fun r1 =>
 .ret (((0:Int),(([(i,((r.1,(r.2.1,(r.2.2.1,()))),()))]:List Term),((r1.1,(r1.2.1,(r1.2.2.1,()))),()))),(0:Int)))
  (T.bind (qw v.2.1 name) fun i1 =>
 .ite (decide (i1<(0:Int)))
  (.ret (((0:Int),(([]:List Term),((false,(([]:List Int),(([]:List Int),()))),()))),(5:Int)))
  (T.bind (tF v.2.2.1 i1) fun r2 =>
 .ret (((0:Int),(([]:List Term),((r2.1,(r2.2.1,(r2.2.2.1,()))),()))),(0:Int))))
def eQ(a:Rat)(b:Rat):T Rat :=
 T.bind (xR a) fun r =>
 T.bind (xR b) fun r1 =>
 T.bind (bn r.2.1 r1.2.1) fun r2 =>
 T.bind (bn r.2.2.1 r1.2.2.1) fun r3 =>
 T.bind (oC (!(r.1==r1.1)) r2 r3) fun r4 =>
 .ret r4
def dc(a:Rat):T Bool :=
 T.bind (xR a) fun r =>
 .ret ((r.2.1.length:Int)==(0:Int))
def bw(wW:Rat)(x:(List Term))(x1:Int):(Int×(Int×Bool×(List Int)×(List Int)×Unit)×(Int×Bool×(List Int)×(List Int)×Unit)×(List Term)×(List Term))→T ((Int×(Int×Bool×(List Int)×(List Int)×Unit)×(Int×Bool×(List Int)×(List Int)×Unit)×(List Term)×(List Term))⊕(((Int×Bool×(List Int)×(List Int)×Unit)×(Int×Bool×(List Int)×(List Int)×Unit)×(List Term)×(List Term))))
 | (x2,v,v1,xs,zy) =>
 .ite (decide (x2<x1))
  (.zd (zi x2 x.length) <|
 T.bind (eQ ((nth x x2 (zb zq)).2.1.1,((nth x x2 (zb zq)).2.1.2.1,((nth x x2 (zb zq)).2.1.2.2.1,()))) wW) fun r1 =>
 T.bind (dc r1) fun r2 =>
 .ite (!r2)
  (.zd (xp zy.length zy.length (0:Nat) zy.length zy.length (1:Nat) (64:Nat)) <|
 .zd (zh xs.length (0:Nat) xs.length xs.length) <|
 .zd (zh (zy.length+(1:Nat)) (0:Nat) (zy.length+(1:Nat)) (List.length (zy++([((nth x x2 (zb zq)).1,((r1.1,(r1.2.1,(r1.2.2.1,()))),()))]:List Term)))) <|
 .zd (xs.length=xs.length) <|
 .zd ((zy.length+(1:Nat))=(List.length (zy++([((nth x x2 (zb zq)).1,((r1.1,(r1.2.1,(r1.2.2.1,()))),()))]:List Term)))) <|
 .ret (.inl ((zt (x2+1)),((v.1,(v.2.1,(v.2.2.1,(v.2.2.2.1,())))),((v1.1,(v1.2.1,(v1.2.2.1,(v1.2.2.2.1,())))),(xs,(zy++([((nth x x2 (zb zq)).1,((r1.1,(r1.2.1,(r1.2.2.1,()))),()))]:List Term))))))))
  (.zd (zh xs.length (0:Nat) xs.length xs.length) <|
 .zd (zh zy.length (0:Nat) zy.length zy.length) <|
 .zd (xs.length=xs.length) <|
 .zd (zy.length=zy.length) <|
 .ret (.inl ((zt (x2+1)),((v.1,(v.2.1,(v.2.2.1,(v.2.2.2.1,())))),((v1.1,(v1.2.1,(v1.2.2.1,(v1.2.2.2.1,())))),(xs,zy)))))))
  (.zd (zh xs.length (0:Nat) xs.length xs.length) <|
 .zd (zh zy.length (0:Nat) zy.length zy.length) <|
 .zd (xs.length=xs.length) <|
 .zd (zy.length=zy.length) <|
 .ret (.inr ((v.1,(v.2.1,(v.2.2.1,(v.2.2.2.1,())))),((v1.1,(v1.2.1,(v1.2.2.1,(v1.2.2.2.1,())))),(xs,zy)))))
def eZ wW x x1 s:=T.loop (bw wW x x1) s
def uQ(a:wC)(vd:Rat):T wC :=
 T.bind (eQ a.2.2.1 vd) fun r =>
 .zd (zh (0:Nat) (0:Nat) (0:Nat) (0:Nat)) <|
 .zd (zh (0:Nat) (0:Nat) (0:Nat) (0:Nat)) <|
 .zd ((0:Nat)=(0:Nat)) <|
 .zd ((0:Nat)=(0:Nat)) <|
 T.bind (eZ vd a.2.1 (a.2.1.length:Int) ((0:Int),(((0:Int),(false,(([]:List Int),(([]:List Int),())))),((a.1,(r.1,(r.2.1,(r.2.2.1,())))),(([]:List Term),([]:List Term)))))) fun(v2,v3,zR,qH) =>
 .zd (qH.length=qH.length) <|
 .ret (v3.1,((List.drop (0:Nat) (List.take ((0:Nat)+qH.length) qH)),((v3.2.1,(v3.2.2.1,(v3.2.2.2.1,()))),())))
def nN(a2:(List Int))(b2:(List Int))(x:(List Int))(x1:Int):(Int×Int×(List Int))→T ((Int×Int×(List Int))⊕((Int×(List Int))))
 | (carry,x2,xs) =>
 .ite (decide (x2<x1))
  (.zd (zi x2 x.length) <|
 .zd (((decide (x2<(b2.length:Int)))=true)→(zi x2 b2.length)) <|
 .zd (zi x2 xs.length) <|
 .zd (eB xs.length xs.length ((0:Nat)+(Int.toNat x2)) xs.length) <|
 .zd ((0:Int)≤(32:Int)) <|
 .zd (zh xs.length (0:Nat) xs.length (List.length (List.set xs ((0:Nat)+(Int.toNat x2)) (qD (bif (decide (x2<(b2.length:Int)))then(zw ((zw (carry+(zw (nth x x2 (zb (.int .u32))))))+(zw (nth b2 x2 (zb (.int .u32))))))else(zw (carry+(zw (nth x x2 (zb (.int .u32))))))))))) <|
 .zd (xs.length=(List.length (List.set xs ((0:Nat)+(Int.toNat x2)) (qD (bif (decide (x2<(b2.length:Int)))then(zw ((zw (carry+(zw (nth x x2 (zb (.int .u32))))))+(zw (nth b2 x2 (zb (.int .u32))))))else(zw (carry+(zw (nth x x2 (zb (.int .u32))))))))))) <|
 .ret (.inl ((qV .u64 (bif (decide (x2<(b2.length:Int)))then(zw ((zw (carry+(zw (nth x x2 (zb (.int .u32))))))+(zw (nth b2 x2 (zb (.int .u32))))))else(zw (carry+(zw (nth x x2 (zb (.int .u32))))))) (32:Int)),((zt (x2+1)),(List.set xs ((0:Nat)+(Int.toNat x2)) (qD (bif (decide (x2<(b2.length:Int)))then(zw ((zw (carry+(zw (nth x x2 (zb (.int .u32))))))+(zw (nth b2 x2 (zb (.int .u32))))))else(zw (carry+(zw (nth x x2 (zb (.int .u32)))))))))))))
  (.zd (zh xs.length (0:Nat) xs.length xs.length) <|
 .zd (xs.length=xs.length) <|
 .ret (.inr (carry,xs)))
def Kq a2 b2 x x1 s:=T.loop (nN a2 b2 x x1) s
def Qk(a:(List Int))(b:(List Int)):T (List Int) :=
 T.bind (xK a) fun a1 =>
 T.bind (xK b) fun b1 =>
 .zd (Qy (zt ((Nat.cast (List.length (bif (decide ((a1.length:Int)<(b1.length:Int)))then b1 else a1)):Int)+(1:Int))) (zt ((Nat.cast (List.length (bif (decide ((a1.length:Int)<(b1.length:Int)))then b1 else a1)):Int)+(1:Int))) (4:Nat)) <|
 .zd (zh (Int.toNat (zt ((Nat.cast (List.length (bif (decide ((a1.length:Int)<(b1.length:Int)))then b1 else a1)):Int)+(1:Int)))) (0:Nat) (Int.toNat (zt ((Nat.cast (List.length (bif (decide ((a1.length:Int)<(b1.length:Int)))then b1 else a1)):Int)+(1:Int)))) (List.length (List.replicate (Int.toNat (zt ((Nat.cast (List.length (bif (decide ((a1.length:Int)<(b1.length:Int)))then b1 else a1)):Int)+(1:Int)))) (0:Int)))) <|
 .zd ((Int.toNat (zt ((Nat.cast (List.length (bif (decide ((a1.length:Int)<(b1.length:Int)))then b1 else a1)):Int)+(1:Int))))=(List.length (List.replicate (Int.toNat (zt ((Nat.cast (List.length (bif (decide ((a1.length:Int)<(b1.length:Int)))then b1 else a1)):Int)+(1:Int)))) (0:Int)))) <|
 T.bind (Kq (bif (decide ((a1.length:Int)<(b1.length:Int)))then b1 else a1) (bif (decide ((a1.length:Int)<(b1.length:Int)))then a1 else b1) (bif (decide ((a1.length:Int)<(b1.length:Int)))then b1 else a1) (Nat.cast (List.length (bif (decide ((a1.length:Int)<(b1.length:Int)))then b1 else a1)):Int) ((0:Int),((0:Int),(List.replicate (Int.toNat (zt ((Nat.cast (List.length (bif (decide ((a1.length:Int)<(b1.length:Int)))then b1 else a1)):Int)+(1:Int)))) (0:Int))))) fun(carry1,zy) =>
 .zd (zi (Nat.cast (List.length (bif (decide ((a1.length:Int)<(b1.length:Int)))then b1 else a1)):Int) zy.length) <|
 .zd (eB zy.length zy.length ((0:Nat)+(Int.toNat (Nat.cast (List.length (bif (decide ((a1.length:Int)<(b1.length:Int)))then b1 else a1)):Int))) zy.length) <|
 .zd (zy.length=zy.length) <|
 T.bind (xK (List.drop (0:Nat) (List.take ((0:Nat)+zy.length) (List.set zy ((0:Nat)+(Int.toNat (Nat.cast (List.length (bif (decide ((a1.length:Int)<(b1.length:Int)))then b1 else a1)):Int))) (qD carry1))))) fun r =>
 .ret r
def oJ(b2:(List Int))(x:(List Int))(x1:Int):(Int×Int×(List Int))→T ((Int×Int×(List Int))⊕((List Int)))
 | (borrow,x2,xs) =>
 .ite (decide (x2<x1))
  (.zd (zi x2 x.length) <|
 .zd (((decide (x2<(b2.length:Int)))=true)→(zi x2 b2.length)) <|
 T.bind (vW (nth x x2 (zb (.int .u32))) (bif (decide (x2<(b2.length:Int)))then(nth b2 x2 (zb (.int .u32)))else(0:Int)) borrow) fun(r1,borrow1) =>
 .zd (zi x2 xs.length) <|
 .zd (eB xs.length xs.length ((0:Nat)+(Int.toNat x2)) xs.length) <|
 .zd (zh xs.length (0:Nat) xs.length (List.length (List.set xs ((0:Nat)+(Int.toNat x2)) r1))) <|
 .zd (xs.length=(List.length (List.set xs ((0:Nat)+(Int.toNat x2)) r1))) <|
 .ret (.inl (borrow1,((zt (x2+1)),(List.set xs ((0:Nat)+(Int.toNat x2)) r1)))))
  (.zd (zh xs.length (0:Nat) xs.length xs.length) <|
 .zd (xs.length=xs.length) <|
 .ret (.inr xs))
def Jz b2 x x1 s:=T.loop (oJ b2 x x1) s
def th(a:(List Int))(b:(List Int)):T ((List Int)×Bool) :=
 T.bind (lC a b) fun r =>
 .ite (decide (r<(0:Int)))
  (.ret (([]:List Int),false))
  (T.bind (xK a) fun a1 =>
 T.bind (xK b) fun b1 =>
 .zd (Qy (a1.length:Int) (a1.length:Int) (4:Nat)) <|
 .zd (zh (Int.toNat (a1.length:Int)) (0:Nat) (Int.toNat (a1.length:Int)) (List.length (List.replicate (Int.toNat (a1.length:Int)) (0:Int)))) <|
 .zd ((Int.toNat (a1.length:Int))=(List.length (List.replicate (Int.toNat (a1.length:Int)) (0:Int)))) <|
 T.bind (Jz b1 a1 (a1.length:Int) ((0:Int),((0:Int),(List.replicate (Int.toNat (a1.length:Int)) (0:Int))))) fun zy =>
 .zd (zy.length=zy.length) <|
 T.bind (xK (List.drop (0:Nat) (List.take ((0:Nat)+zy.length) zy))) fun r2 =>
 .ret (r2,true))
def lQ(a:Rat)(b:Rat):T Rat :=
 T.bind (xR a) fun r =>
 T.bind (xR b) fun r1 =>
 T.bind (bn r.2.1 r1.2.2.1) fun n =>
 T.bind (bn r1.2.1 r.2.2.1) fun m =>
 T.bind (bn r.2.2.1 r1.2.2.1) fun d =>
 .ite (r.1==r1.1)
  (T.bind (Qk n m) fun r2 =>
 T.bind (oC r.1 r2 d) fun r3 =>
 .ret r3)
  (T.bind (th n m) fun(x,ok) =>
 .ite ok
  (T.bind (oC r.1 x d) fun r4 =>
 .ret r4)
  (T.bind (th m n) fun(x1,r5) =>
 T.bind (oC r1.1 x1 d) fun r6 =>
 .ret r6))
def vc  : ((List Term)×(List Term)×(Int×Bool×(List Int)×(List Int)×Unit)×(Int×Bool×(List Int)×(List Int)×Unit)×(List Term)×(List Term))→T (((List Term)×(List Term)×(Int×Bool×(List Int)×(List Int)×Unit)×(Int×Bool×(List Int)×(List Int)×Unit)×(List Term)×(List Term))⊕(((Int×Bool×(List Int)×(List Int)×Unit)×(Int×Bool×(List Int)×(List Int)×Unit)×(List Term)×(List Term))))
 | (l,m,v,v1,xs,zy) =>
 .ite (decide ((0:Int)<(zt ((l.length:Int)+(m.length:Int)))))
  (T.bind (.zd ((((m.length:Int)==(0:Int))=false)→(((decide ((0:Int)<(l.length:Int)))=true)→((zi (0:Int) l.length)∧(zi (0:Int) m.length)))) <|
 .ite (((m.length:Int)==(0:Int))||((decide ((0:Int)<(l.length:Int)))&&(decide ((nth l (0:Int) (zb zq)).1<(nth m (0:Int) (zb zq)).1))))
  (.zd (zi (0:Int) l.length) <|
 .zd (zi (0:Int) l.length) <|
 T.bind (xR (nth l (0:Int) (zb zq)).2.1) fun r1 =>
 .zd (mM (1:Int) (l.length:Int) l.length) <|
 .zd (zh xs.length (0:Nat) xs.length xs.length) <|
 .zd (zh zy.length (0:Nat) zy.length zy.length) <|
 .zd (xs.length=xs.length) <|
 .zd (zy.length=zy.length) <|
 .ret ((uq (e:=zq) (1:Int) (l.length:Int) l),(m,((v.1,(v.2.1,(v.2.2.1,(v.2.2.2.1,())))),((v1.1,(v1.2.1,(v1.2.2.1,(v1.2.2.2.1,())))),(xs,(zy,((nth l (0:Int) (zb zq)).1,((r1.1,(r1.2.1,(r1.2.2.1,()))),())))))))))
  (.zd ((((l.length:Int)==(0:Int))=false)→((zi (0:Int) m.length)∧(zi (0:Int) l.length))) <|
 .ite (((l.length:Int)==(0:Int))||(decide ((nth m (0:Int) (zb zq)).1<(nth l (0:Int) (zb zq)).1)))
  (.zd (zi (0:Int) m.length) <|
 .zd (zi (0:Int) m.length) <|
 T.bind (xR (nth m (0:Int) (zb zq)).2.1) fun r2 =>
 .zd (mM (1:Int) (m.length:Int) m.length) <|
 .zd (zh xs.length (0:Nat) xs.length xs.length) <|
 .zd (zh zy.length (0:Nat) zy.length zy.length) <|
 .zd (xs.length=xs.length) <|
 .zd (zy.length=zy.length) <|
 .ret (l,((uq (e:=zq) (1:Int) (m.length:Int) m),((v.1,(v.2.1,(v.2.2.1,(v.2.2.2.1,())))),((v1.1,(v1.2.1,(v1.2.2.1,(v1.2.2.2.1,())))),(xs,(zy,((nth m (0:Int) (zb zq)).1,((r2.1,(r2.2.1,(r2.2.2.1,()))),())))))))))
  (.zd (zi (0:Int) l.length) <|
 .zd (zi (0:Int) l.length) <|
 .zd (zi (0:Int) m.length) <|
 T.bind (lQ (nth l (0:Int) (zb zq)).2.1 (nth m (0:Int) (zb zq)).2.1) fun r3 =>
 .zd (mM (1:Int) (l.length:Int) l.length) <|
 .zd (mM (1:Int) (m.length:Int) m.length) <|
 .zd (zh xs.length (0:Nat) xs.length xs.length) <|
 .zd (zh zy.length (0:Nat) zy.length zy.length) <|
 .zd (xs.length=xs.length) <|
 .zd (zy.length=zy.length) <|
 .ret ((uq (e:=zq) (1:Int) (l.length:Int) l),((uq (e:=zq) (1:Int) (m.length:Int) m),((v.1,(v.2.1,(v.2.2.1,(v.2.2.2.1,())))),((v1.1,(v1.2.1,(v1.2.2.1,(v1.2.2.2.1,())))),(xs,(zy,((nth l (0:Int) (zb zq)).1,((r3.1,(r3.2.1,(r3.2.2.1,()))),())))))))))):T (((List Term)×(List Term)×(Int×Bool×(List Int)×(List Int)×Unit)×(Int×Bool×(List Int)×(List Int)×Unit)×(List Term)×(List Term)×Term))) fun(l1,m1,v2,v3,zR,qH,v4) =>
 T.bind (dc (v4.2.1.1,(v4.2.1.2.1,(v4.2.1.2.2.1,())))) fun r4 =>
 .ite (!r4)
  (.zd (xp qH.length qH.length (0:Nat) qH.length qH.length (1:Nat) (64:Nat)) <|
 .zd (zh zR.length (0:Nat) zR.length zR.length) <|
 .zd (zh (qH.length+(1:Nat)) (0:Nat) (qH.length+(1:Nat)) (List.length (qH++([v4]:List Term)))) <|
 .zd (zR.length=zR.length) <|
 .zd ((qH.length+(1:Nat))=(List.length (qH++([v4]:List Term)))) <|
 .ret (.inl (l1,(m1,((v2.1,(v2.2.1,(v2.2.2.1,(v2.2.2.2.1,())))),((v3.1,(v3.2.1,(v3.2.2.1,(v3.2.2.2.1,())))),(zR,(qH++([v4]:List Term)))))))))
  (.zd (zh zR.length (0:Nat) zR.length zR.length) <|
 .zd (zh qH.length (0:Nat) qH.length qH.length) <|
 .zd (zR.length=zR.length) <|
 .zd (qH.length=qH.length) <|
 .ret (.inl (l1,(m1,((v2.1,(v2.2.1,(v2.2.2.1,(v2.2.2.2.1,())))),((v3.1,(v3.2.1,(v3.2.2.1,(v3.2.2.2.1,())))),(zR,qH))))))))
  (.zd (zh xs.length (0:Nat) xs.length xs.length) <|
 .zd (zh zy.length (0:Nat) zy.length zy.length) <|
 .zd (xs.length=xs.length) <|
 .zd (zy.length=zy.length) <|
 .ret (.inr ((v.1,(v.2.1,(v.2.2.1,(v.2.2.2.1,())))),((v1.1,(v1.2.1,(v1.2.2.1,(v1.2.2.2.1,())))),(xs,zy)))))
def ob(s:((List Term)×(List Term)×(Int×Bool×(List Int)×(List Int)×Unit)×(Int×Bool×(List Int)×(List Int)×Unit)×(List Term)×(List Term))):T (((Int×Bool×(List Int)×(List Int)×Unit)×(Int×Bool×(List Int)×(List Int)×Unit)×(List Term)×(List Term))):=T.loop (vc ) s
def sM(a:wC)(b:wC):T wC :=
 T.bind (lQ a.2.2.1 b.2.2.1) fun r =>
 .zd (zh (0:Nat) (0:Nat) (0:Nat) (0:Nat)) <|
 .zd (zh (0:Nat) (0:Nat) (0:Nat) (0:Nat)) <|
 .zd ((0:Nat)=(0:Nat)) <|
 .zd ((0:Nat)=(0:Nat)) <|
 T.bind (ob  (a.2.1,(b.2.1,(((0:Int),(false,(([]:List Int),(([]:List Int),())))),((a.1,(r.1,(r.2.1,(r.2.2.1,())))),(([]:List Term),([]:List Term))))))) fun(v5,v6,va,jb) =>
 .zd (jb.length=jb.length) <|
 .ret (v6.1,((List.drop (0:Nat) (List.take ((0:Nat)+jb.length) jb)),((v6.2.1,(v6.2.2.1,(v6.2.2.2.1,()))),())))
def Xa(a:Rat)(b:Rat):T (Rat×Bool) :=
 T.bind (xR b) fun r =>
 .ite ((r.2.1.length:Int)==(0:Int))
  (T.bind (uZ (0:Int)) fun r1 =>
 .ret (r1,false))
  (T.bind (eQ a (r.1,(r.2.2.1,(r.2.1,())))) fun r2 =>
 .ret (r2,true))
def nR(kind:Int)(l:wC)(r:wC):T (wC×Int) :=
 .ite (kind==3)
  (T.bind (sM l r) fun r1 =>
 .ret (r1,(0:Int)))
  (.ite (kind==4)
  (T.bind (uZ (-1:Int)) fun r2 =>
 T.bind (uQ r r2) fun r3 =>
 T.bind (sM l r3) fun r4 =>
 .ret (r4,(0:Int)))
  (.ite (kind==5)
  (.ite ((decide ((0:Int)<(l.2.1.length:Int)))&&(decide ((0:Int)<(r.2.1.length:Int))))
  (.ret (((0:Int),(([]:List Term),((false,(([]:List Int),(([]:List Int),()))),()))),(6:Int)))
  (.ite (decide ((0:Int)<(l.2.1.length:Int)))
  (T.bind (uQ l r.2.2.1) fun r5 =>
 .ret (r5,(0:Int)))
  (T.bind (uQ r l.2.2.1) fun r6 =>
 .ret (r6,(0:Int)))))
  (T.bind (uZ (1:Int)) fun r7 =>
 T.bind (Xa r7 r.2.2.1) fun(r8,ok) =>
 .ite (decide ((0:Int)<(r.2.1.length:Int)))
  (.ret (((0:Int),(([]:List Term),((false,(([]:List Int),(([]:List Int),()))),()))),(6:Int)))
  (.ite (!ok)
  (.ret (((0:Int),(([]:List Term),((false,(([]:List Int),(([]:List Int),()))),()))),(7:Int)))
  (T.bind (uQ l r8) fun r9 =>
 .ret (r9,(0:Int)))))))
def tk(Qv:AM.Expr→zJ→T (wC×Int))(e:AM.Expr)(v:zJ):T (wC×Int) :=
 .ite ((Expr.kind e)==1)
  (T.bind (xR (Expr.num e)) fun r =>
 .ret (((0:Int),(([]:List Term),((r.1,(r.2.1,(r.2.2.1,()))),()))),(0:Int)))
  (.ite ((Expr.kind e)==2)
  (T.bind (tB (Expr.name e) v) fun(r1,r2) =>
 .ret (r1,r2))
  (.zd (zi (0:Int) (Expr.kids e).length) <|
 T.bind (Qv (nth (Expr.kids e) (0:Int) (zb .expr)) v) fun(r3,x) =>
 .ite (x != 0)
  (.ret (((0:Int),(([]:List Term),((false,(([]:List Int),(([]:List Int),()))),()))),x))
  (.ite ((Expr.kind e)==7)
  (T.bind (uZ (-1:Int)) fun r4 =>
 T.bind (uQ r3 r4) fun r5 =>
 .ret (r5,(0:Int)))
  (.zd (zi (1:Int) (Expr.kids e).length) <|
 T.bind (Qv (nth (Expr.kids e) (1:Int) (zb .expr)) v) fun(r6,x1) =>
 .ite (x1 != 0)
  (.ret (((0:Int),(([]:List Term),((false,(([]:List Int),(([]:List Int),()))),()))),x1))
  (T.bind (nR (Expr.kind e) r3 r6) fun(r7,r8) =>
 .ret (r7,r8))))))
def Uo(e:AM.Expr)(v:zJ):T (wC×Int):=T.fix (fun F x=>tk (fun y0 y1=>F (y0,y1)) x.1 x.2) (e,v)
def Km(e:AM.Expr)(v:zJ):T (wC×Int) :=
 T.bind (uA e) fun r =>
 .ite (!r)
  (.ret (((0:Int),(([]:List Term),((false,(([]:List Int),(([]:List Int),()))),()))),(5:Int)))
  (T.bind (Uo e v) fun(r1,r2) =>
 .ret (r1,r2))
def oP(r:uT)(v:zJ):T (wC×Int) :=
 T.bind (Km r.2.2.2.1 v) fun(r1,e) =>
 .ite (e != 0)
  (.ret (r1,e))
  (T.bind (Km r.2.2.2.2.1 v) fun(r2,e1) =>
 .ite (e1 != 0)
  (.ret (r2,e1))
  (T.bind (uZ (-1:Int)) fun r3 =>
 T.bind (uQ r2 r3) fun r4 =>
 T.bind (sM r1 r4) fun r5 =>
 .ret ((r.2.1,(r5.2.1,((r5.2.2.1.1,(r5.2.2.1.2.1,(r5.2.2.1.2.2.1,()))),()))),(0:Int))))
def vk(t:Term):T Bool :=
 T.bind (uO t.2.1) fun r =>
 .ret r
def xD(s1:(List Term))(f:Term→T Bool)(x:Int):Int→T (Int⊕(Unit⊕Int))
 | x1 =>
 .ite (decide (x1<x))
  (.zd (zi x1 s1.length) <|
 T.bind (f (nth s1 x1 (zb zq))) fun r =>
 .ite r
  (.ret (.inr (.inr x1)))
  (.ret (.inl (zt (x1+1)))))
  (.ret (.inr (.inl ())))
def jB s1 f x s:=T.loop (xD s1 f x) s
def wO(s:(List Term))(f:Term→T Bool):T Int :=
 T.bind (jB s f (s.length:Int) (0:Int)) <|
 Sum.elim (fun _ =>
 .ret (-1:Int))
  (fun x2 =>
 .ret x2)
def xb(s:(List Term))(f:Term→T Bool):T Bool :=
 T.bind (wO s f) fun r =>
 .ret (decide ((0:Int)≤r))
def oI(c:wC):T Bool :=
 T.bind (uO c.2.2.1) fun r =>
 .ite r
  (.ret true)
  (T.bind (xb c.2.1 (fun z0=>vk z0)) fun r1 =>
 .ret r1)
def uf(No:(List Bool))(f1:Form)(x1:(List uT))(x2:Int):(Int×qB×(Unit)×zJ×(List wC)×(List Int))→T ((Int×qB×(Unit)×zJ×(List wC)×(List Int))⊕((qB×(Unit)×zJ×(List wC)×(List Int))⊕(zf×Int×qB×(Unit)×zJ×(List wC)×(List Int))))
 | (x3,v1,v2,v3,xs,zy) =>
 .ite (decide (x3<x2))
  (.zd (zi x3 x1.length) <|
 T.bind (sV f1 No (nth x1 x3 (zb zn)).2.2.1) fun r2 =>
 .ite (!r2)
  (.zd (zh xs.length (0:Nat) xs.length xs.length) <|
 .zd (zh zy.length (0:Nat) zy.length zy.length) <|
 .zd (xs.length=xs.length) <|
 .zd (zy.length=zy.length) <|
 .ret (.inl ((zt (x3+1)),(v1,((),(v3,(xs,zy)))))))
  (T.bind (oP (nth x1 x3 (zb zn)) v3) fun(r3,e1) =>
 .ite (e1 != 0)
  (.zd (zh xs.length (0:Nat) xs.length xs.length) <|
 .zd (zh zy.length (0:Nat) zy.length zy.length) <|
 .zd (xs.length=xs.length) <|
 .zd (zy.length=zy.length) <|
 .ret (.inr (.inr ((nth x1 x3 (zb zn)).1,(e1,((([]:List wC),(([]:List Int),())),((),(v3,(xs,zy)))))))))
  (.zd (xp xs.length xs.length (0:Nat) xs.length xs.length (1:Nat) (88:Nat)) <|
 .zd (xp zy.length zy.length (0:Nat) zy.length zy.length (1:Nat) (8:Nat)) <|
 .zd (zh (xs.length+(1:Nat)) (0:Nat) (xs.length+(1:Nat)) (List.length (xs++([r3]:List wC)))) <|
 .zd (zh (zy.length+(1:Nat)) (0:Nat) (zy.length+(1:Nat)) (List.length (zy++([x3]:List Int)))) <|
 .zd ((xs.length+(1:Nat))=(List.length (xs++([r3]:List wC)))) <|
 .zd ((zy.length+(1:Nat))=(List.length (zy++([x3]:List Int)))) <|
 .ret (.inl ((zt (x3+1)),(v1,((),(v3,((xs++([r3]:List wC)),(zy++([x3]:List Int)))))))))))
  (.zd (zh xs.length (0:Nat) xs.length xs.length) <|
 .zd (zh zy.length (0:Nat) zy.length zy.length) <|
 .zd (xs.length=xs.length) <|
 .zd (zy.length=zy.length) <|
 .ret (.inr (.inl (v1,((),(v3,(xs,zy)))))))
def kR No f1 x1 x2 s:=T.loop (uf No f1 x1 x2) s
def b9(f2:Form)(x6:Int):(Int×qB×(Unit)×zJ×(List wC)×(List Int))→T ((Int×qB×(Unit)×zJ×(List wC)×(List Int))⊕((qB×(Unit)×zJ×(List wC)×(List Int))⊕(zf×Int×qB×(Unit)×zJ×(List wC)×(List Int))))
 | (x7,v10,v11,v12,xs6,vK) =>
 .ite (decide (x7<x6))
  (.zd (zi x7 xs6.length) <|
 .zd (eB xs6.length xs6.length ((0:Nat)+(Int.toNat x7)) xs6.length) <|
 T.bind (oI (xj xs6 ((0:Nat)+(Int.toNat x7)) (zb zZ))) fun r4 =>
 .ite r4
  (.zd (zi x7 vK.length) <|
 .zd (eB vK.length vK.length ((0:Nat)+(Int.toNat x7)) vK.length) <|
 .zd (zi (xj vK ((0:Nat)+(Int.toNat x7)) (zb (.int .i64))) f2.2.2.2.2.1.length) <|
 .zd (zh xs6.length (0:Nat) xs6.length xs6.length) <|
 .zd (zh vK.length (0:Nat) vK.length vK.length) <|
 .zd (xs6.length=xs6.length) <|
 .zd (vK.length=vK.length) <|
 .ret (.inr (.inr ((nth f2.2.2.2.2.1 (xj vK ((0:Nat)+(Int.toNat x7)) (zb (.int .i64))) (zb zn)).1,((8:Int),((([]:List wC),(([]:List Int),())),((),(v12,(xs6,vK)))))))))
  (.zd (zh xs6.length (0:Nat) xs6.length xs6.length) <|
 .zd (zh xs6.length (0:Nat) xs6.length xs6.length) <|
 .zd (zh vK.length (0:Nat) vK.length vK.length) <|
 .zd (xs6.length=xs6.length) <|
 .zd (vK.length=vK.length) <|
 .ret (.inl ((zt (x7+1)),(v10,((),(v12,(xs6,vK))))))))
  (.zd (zh xs6.length (0:Nat) xs6.length xs6.length) <|
 .zd (zh vK.length (0:Nat) vK.length vK.length) <|
 .zd (xs6.length=xs6.length) <|
 .zd (vK.length=vK.length) <|
 .ret (.inr (.inl (v10,((),(v12,(xs6,vK)))))))
def nS f2 x6 s:=T.loop (b9 f2 x6) s
def cp(f:Form)(params:(List Rat))(on:(List Bool)):T (qB×zf×Int) :=
 T.bind (eL f) fun(e,name) =>
 .ite (e != 0)
  (.ret ((([]:List wC),(([]:List Int),())),(name,e)))
  (T.bind (.ite ((params.length:Int) != (f.2.1.length:Int))
  (.ret (true,(([]:List wC),(([]:List Int),()))))
  (.ite ((on.length:Int) != (f.1.length:Int))
  (.ret (true,(([]:List wC),(([]:List Int),()))))
  (T.bind (xf params (fun z0=>wL z0)) fun r =>
 .ret (r,(([]:List wC),(([]:List Int),()))))):T ((Bool×qB))) fun(x,v) =>
 .ite x
  (.ret ((([]:List wC),(([]:List Int),())),(([]:zf),(1:Int))))
  (T.bind (sE f params) fun r1 =>
 .zd (zh (0:Nat) (0:Nat) (0:Nat) (0:Nat)) <|
 .zd (zh (0:Nat) (0:Nat) (0:Nat) (0:Nat)) <|
 .zd ((0:Nat)=(0:Nat)) <|
 .zd ((0:Nat)=(0:Nat)) <|
 T.bind (kR on f f.2.2.2.2.1 (f.2.2.2.2.1.length:Int) ((0:Int),(v,((),(r1,(([]:List wC),([]:List Int))))))) <|
 Sum.elim (fun(v4,v5,v6,zR,qH) =>
 .zd (zh zR.length (0:Nat) zR.length zR.length) <|
 .zd (zh zR.length (0:Nat) zR.length zR.length) <|
 .zd (zh qH.length (0:Nat) qH.length qH.length) <|
 .zd (zR.length=zR.length) <|
 .zd (qH.length=qH.length) <|
 T.bind (nS f (zR.length:Int) ((0:Int),(v4,((),(v6,(zR,qH)))))) <|
 Sum.elim (fun(v13,v14,v15,dN,rJ) =>
 .zd (dN.length=dN.length) <|
 .zd (rJ.length=rJ.length) <|
 .ret (((List.drop (0:Nat) (List.take ((0:Nat)+dN.length) dN)),((List.drop (0:Nat) (List.take ((0:Nat)+rJ.length) rJ)),())),(([]:zf),(0:Int))))
  (fun(x8,x9,v16,v17,v18,xs10,XX) =>
 .ret (v16,(x8,x9))))
  (fun(x4,x5,v7,v8,v9,va,jb) =>
 .ret (v7,(x4,x5)))))
def kJ(c:Int):T Bool :=
 .ret ((decide ((97:Int)≤c))&&(decide (c≤(122:Int))))
def oi(c:Int):T Bool :=
 .ret ((decide ((48:Int)≤c))&&(decide (c≤(57:Int))))
def kN(s1:zf):Int→T (Int⊕(Unit⊕Bool))
 | i =>
 .ite (decide (i<(s1.length:Int)))
  (T.bind (.zd (zi i s1.length) <|
 T.bind (kJ (wA s1 i)) fun r1 =>
 .ite (!r1)
  (.zd (zi i s1.length) <|
 T.bind (oi (wA s1 i)) fun r2 =>
 .ite (!r2)
  (.zd (zi i s1.length) <|
 .ret ((wA s1 i) != 95))
  (.ret false))
  (.ret false):T (Bool)) fun x1 =>
 .ite x1
  (.ret (.inr (.inr false)))
  (.ret (.inl (zt (i+1)))))
  (.ret (.inr (.inl ())))
def Xc s1 s:=T.loop (kN s1) s
def vV(s:zf):T Bool :=
 T.bind (.ite (decide ((s.length:Int)<(1:Int)))
  (.ret true)
  (.ite (decide ((24:Int)<(s.length:Int)))
  (.ret true)
  (.zd (zi (0:Int) s.length) <|
 T.bind (kJ (wA s (0:Int))) fun r =>
 .ret (!r))):T (Bool)) fun x =>
 .ite x
  (.ret false)
  (T.bind (Xc s (1:Int)) <|
 Sum.elim (fun _ =>
 .ret true)
  (fun x2 =>
 .ret x2))
def bK(a1:(List Int)):Int→T (Int⊕(Int))
 | n =>
 .zd (((decide ((0:Int)<n))=true)→(zi (zt (n-1)) a1.length)) <|
 .ite ((decide ((0:Int)<n))&&((nth a1 (zt (n-1)) (zb (.int .u32)))==0))
  (.ret (.inl (zt (n-1))))
  (.ret (.inr n))
def Qg a1 s:=T.loop (bK a1) s
def xl(a:(List Int)):T (List Int) :=
 T.bind (Qg a (a.length:Int)) fun n1 =>
 .zd (mM (0:Int) n1 a.length) <|
 .zd (xp (0:Nat) (0:Nat) (0:Nat) (0:Nat) (0:Nat) (List.length (uq (e:=(.int .u32)) (0:Int) n1 a)) (4:Nat)) <|
 .zd (((0:Nat)+(List.length (uq (e:=(.int .u32)) (0:Int) n1 a)))=((0:Nat)+(List.length (uq (e:=(.int .u32)) (0:Int) n1 a)))) <|
 .ret (List.drop (0:Nat) (List.take ((0:Nat)+((0:Nat)+(List.length (uq (e:=(.int .u32)) (0:Int) n1 a)))) (uq (e:=(.int .u32)) (0:Int) n1 a)))
def iv(t1:(List Int)):(Int×Int)→T ((Int×Int)⊕(Int))
 | (n,i) =>
 .ite (decide ((0:Int)≤i))
  (.zd ((0:Int)≤(32:Int)) <|
 .zd (zi i t1.length) <|
 .ret (.inl ((gL .u64 (xU .u64 n (32:Int)) (zw (nth t1 i (zb (.int .u32))))),(zt (i-1)))))
  (.ret (.inr n))
def Jf t1 s:=T.loop (iv t1) s
def Qe(a:(List Int)):T (Int×Bool) :=
 T.bind (xl a) fun t =>
 .ite (decide ((2:Int)<(t.length:Int)))
  (.ret ((0:Int),false))
  (T.bind (Jf t ((0:Int),(zt ((t.length:Int)-(1:Int))))) fun n1 =>
 .ret (n1,true))
def nT(n:Int):T (List Int) :=
 .zd ((0:Int)≤(32:Int)) <|
 T.bind (xl ([(qD n),(qD (qV .u64 n (32:Int)))]:List Int)) fun r =>
 .ret r
def cQ(a1:(List Int))(wW:Int):(Int×Int×(List Int))→T ((Int×Int×(List Int))⊕((Int×(List Int))))
 | (r,i,xs) =>
 .ite (decide ((0:Int)≤i))
  (.zd ((0:Int)≤(32:Int)) <|
 .zd (zi i a1.length) <|
 .zd (wW≠(0:Int)) <|
 .zd (zi i xs.length) <|
 .zd (eB xs.length xs.length ((0:Nat)+(Int.toNat i)) xs.length) <|
 .zd (wW≠(0:Int)) <|
 .zd (zh xs.length (0:Nat) xs.length (List.length (List.set xs ((0:Nat)+(Int.toNat i)) (qD (zw (Int.tdiv (gL .u64 (xU .u64 r (32:Int)) (zw (nth a1 i (zb (.int .u32))))) wW)))))) <|
 .zd (xs.length=(List.length (List.set xs ((0:Nat)+(Int.toNat i)) (qD (zw (Int.tdiv (gL .u64 (xU .u64 r (32:Int)) (zw (nth a1 i (zb (.int .u32))))) wW)))))) <|
 .ret (.inl ((Int.tmod (gL .u64 (xU .u64 r (32:Int)) (zw (nth a1 i (zb (.int .u32))))) wW),((zt (i-1)),(List.set xs ((0:Nat)+(Int.toNat i)) (qD (zw (Int.tdiv (gL .u64 (xU .u64 r (32:Int)) (zw (nth a1 i (zb (.int .u32))))) wW))))))))
  (.zd (zh xs.length (0:Nat) xs.length xs.length) <|
 .zd (xs.length=xs.length) <|
 .ret (.inr (r,xs)))
def tT a1 wW s:=T.loop (cQ a1 wW) s
def cy(a:(List Int))(vd:Int):T ((List Int)×Int) :=
 .zd (Qy (a.length:Int) (a.length:Int) (4:Nat)) <|
 .zd (zh (Int.toNat (a.length:Int)) (0:Nat) (Int.toNat (a.length:Int)) (List.length (List.replicate (Int.toNat (a.length:Int)) (0:Int)))) <|
 .zd ((Int.toNat (a.length:Int))=(List.length (List.replicate (Int.toNat (a.length:Int)) (0:Int)))) <|
 T.bind (tT a vd ((0:Int),((zt ((a.length:Int)-(1:Int))),(List.replicate (Int.toNat (a.length:Int)) (0:Int))))) fun(r1,zy) =>
 .zd (zy.length=zy.length) <|
 T.bind (xl (List.drop (0:Nat) (List.take ((0:Nat)+zy.length) zy))) fun r2 =>
 .ret (r2,r1)
def gY(a:(List Int))(i:Int):T Int :=
 .ite (decide (i<(a.length:Int)))
  (.zd (zi i a.length) <|
 .ret (zw (nth a i (zb (.int .u32)))))
  (.ret (0:Int))
def Zj(t1:(List Int))(vd:Int):(Int×(List Int))→T ((Int×(List Int))⊕((List Int)))
 | (i,xs) =>
 .ite (decide (i<(t1.length:Int)))
  (T.bind (gY t1 i) fun r =>
 T.bind (gY t1 (zt (i+1))) fun r1 =>
 .zd ((0:Int)≤(32:Int)) <|
 .zd ((0:Int)≤vd) <|
 .zd (xp xs.length xs.length (0:Nat) xs.length xs.length (1:Nat) (4:Nat)) <|
 .zd (zh (xs.length+(1:Nat)) (0:Nat) (xs.length+(1:Nat)) (List.length (xs++([(qD (qV .u64 (gL .u64 r (xU .u64 r1 (32:Int))) vd))]:List Int)))) <|
 .zd ((xs.length+(1:Nat))=(List.length (xs++([(qD (qV .u64 (gL .u64 r (xU .u64 r1 (32:Int))) vd))]:List Int)))) <|
 .ret (.inl ((zt (i+1)),(xs++([(qD (qV .u64 (gL .u64 r (xU .u64 r1 (32:Int))) vd))]:List Int)))))
  (.zd (zh xs.length (0:Nat) xs.length xs.length) <|
 .zd (xs.length=xs.length) <|
 .ret (.inr xs))
def Ya t1 vd s:=T.loop (Zj t1 vd) s
def cN(t2:(List Int))(wW:Int):(Int×Int×(List Int))→T ((Int×Int×(List Int))⊕((List Int)))
 | (low,i1,zR) =>
 .ite (decide (i1<(zt ((t2.length:Int)+(1:Int)))))
  (T.bind (gY t2 i1) fun r3 =>
 .zd ((0:Int)≤wW) <|
 .zd (xp zR.length zR.length (0:Nat) zR.length zR.length (1:Nat) (4:Nat)) <|
 .zd ((0:Int)≤(32:Int)) <|
 .zd (zh (zR.length+(1:Nat)) (0:Nat) (zR.length+(1:Nat)) (List.length (zR++([(qD (gL .u64 (xU .u64 r3 wW) low))]:List Int)))) <|
 .zd ((zR.length+(1:Nat))=(List.length (zR++([(qD (gL .u64 (xU .u64 r3 wW) low))]:List Int)))) <|
 .ret (.inl ((qV .u64 (xU .u64 r3 wW) (32:Int)),((zt (i1+1)),(zR++([(qD (gL .u64 (xU .u64 r3 wW) low))]:List Int))))))
  (.zd (zh zR.length (0:Nat) zR.length zR.length) <|
 .zd (zR.length=zR.length) <|
 .ret (.inr zR))
def tY t2 wW s:=T.loop (cN t2 wW) s
def od(a:(List Int))(n:Int):T (List Int) :=
 T.bind (xl a) fun t =>
 .ite (decide ((wK (w7 n (-4096:Int)) (4096:Int))<(0:Int)))
  (.zd ((32:Int)≠(0:Int)) <|
 .ite (decide ((t.length:Int)≤(zt (Int.tdiv (zt ((0:Int)-(wK (w7 n (-4096:Int)) (4096:Int)))) (32:Int)))))
  (.ret ([]:List Int))
  (.zd (mM (zt (Int.tdiv (zt ((0:Int)-(wK (w7 n (-4096:Int)) (4096:Int)))) (32:Int))) (t.length:Int) t.length) <|
 .zd ((32:Int)≠(0:Int)) <|
 .zd (zh (0:Nat) (0:Nat) (0:Nat) (0:Nat)) <|
 .zd ((0:Nat)=(0:Nat)) <|
 T.bind (Ya (uq (e:=(.int .u32)) (zt (Int.tdiv (zt ((0:Int)-(wK (w7 n (-4096:Int)) (4096:Int)))) (32:Int))) (t.length:Int) t) (zw (Int.tmod (zt ((0:Int)-(wK (w7 n (-4096:Int)) (4096:Int)))) (32:Int))) ((0:Int),([]:List Int))) fun zy =>
 .zd (zy.length=zy.length) <|
 T.bind (xl (List.drop (0:Nat) (List.take ((0:Nat)+zy.length) zy))) fun r2 =>
 .ret r2))
  (.zd ((32:Int)≠(0:Int)) <|
 .zd (Qy (zt (Int.tdiv (wK (w7 n (-4096:Int)) (4096:Int)) (32:Int))) (zt (Int.tdiv (wK (w7 n (-4096:Int)) (4096:Int)) (32:Int))) (4:Nat)) <|
 .zd ((32:Int)≠(0:Int)) <|
 .zd (zh (Int.toNat (zt (Int.tdiv (wK (w7 n (-4096:Int)) (4096:Int)) (32:Int)))) (0:Nat) (Int.toNat (zt (Int.tdiv (wK (w7 n (-4096:Int)) (4096:Int)) (32:Int)))) (List.length (List.replicate (Int.toNat (zt (Int.tdiv (wK (w7 n (-4096:Int)) (4096:Int)) (32:Int)))) (0:Int)))) <|
 .zd ((Int.toNat (zt (Int.tdiv (wK (w7 n (-4096:Int)) (4096:Int)) (32:Int))))=(List.length (List.replicate (Int.toNat (zt (Int.tdiv (wK (w7 n (-4096:Int)) (4096:Int)) (32:Int)))) (0:Int)))) <|
 T.bind (tY t (zw (Int.tmod (wK (w7 n (-4096:Int)) (4096:Int)) (32:Int))) ((0:Int),((0:Int),(List.replicate (Int.toNat (zt (Int.tdiv (wK (w7 n (-4096:Int)) (4096:Int)) (32:Int)))) (0:Int))))) fun qH =>
 .zd (qH.length=qH.length) <|
 T.bind (xl (List.drop (0:Nat) (List.take ((0:Nat)+qH.length) qH))) fun r4 =>
 .ret r4)
def lM(a1:(List Int))(b1:(List Int)):(Int×Int×(List Int))→T ((Int×Int×(List Int))⊕((List Int)))
 | (c,i,xs) =>
 .ite (decide (i<(zt ((w7 (a1.length:Int) (b1.length:Int))+1))))
  (T.bind (gY a1 i) fun r =>
 T.bind (gY b1 i) fun r1 =>
 .zd (xp xs.length xs.length (0:Nat) xs.length xs.length (1:Nat) (4:Nat)) <|
 .zd ((0:Int)≤(32:Int)) <|
 .zd (zh (xs.length+(1:Nat)) (0:Nat) (xs.length+(1:Nat)) (List.length (xs++([(qD (zw ((zw (c+r))+r1)))]:List Int)))) <|
 .zd ((xs.length+(1:Nat))=(List.length (xs++([(qD (zw ((zw (c+r))+r1)))]:List Int)))) <|
 .ret (.inl ((qV .u64 (zw ((zw (c+r))+r1)) (32:Int)),((zt (i+1)),(xs++([(qD (zw ((zw (c+r))+r1)))]:List Int))))))
  (.zd (zh xs.length (0:Nat) xs.length xs.length) <|
 .zd (xs.length=xs.length) <|
 .ret (.inr xs))
def Vq a1 b1 s:=T.loop (lM a1 b1) s
def mw(a:(List Int))(b:(List Int)):T (List Int) :=
 .zd (zh (0:Nat) (0:Nat) (0:Nat) (0:Nat)) <|
 .zd ((0:Nat)=(0:Nat)) <|
 T.bind (Vq a b ((0:Int),((0:Int),([]:List Int)))) fun zy =>
 .zd (zy.length=zy.length) <|
 T.bind (xl (List.drop (0:Nat) (List.take ((0:Nat)+zy.length) zy))) fun r2 =>
 .ret r2
def du(x1:(List Int))(y1:(List Int)):Int→T (Int⊕(Unit⊕Int))
 | i =>
 .ite (decide ((0:Int)≤i))
  (.zd (zi i x1.length) <|
 .zd (zi i y1.length) <|
 .ite (decide ((nth x1 i (zb (.int .u32)))<(nth y1 i (zb (.int .u32)))))
  (.ret (.inr (.inr (-1:Int))))
  (.zd (zi i x1.length) <|
 .zd (zi i y1.length) <|
 .ite (decide ((nth y1 i (zb (.int .u32)))<(nth x1 i (zb (.int .u32)))))
  (.ret (.inr (.inr (1:Int))))
  (.ret (.inl (zt (i-1))))))
  (.ret (.inr (.inl ())))
def Vw x1 y1 s:=T.loop (du x1 y1) s
def iF(a:(List Int))(b:(List Int)):T Int :=
 T.bind (xl a) fun x =>
 T.bind (xl b) fun y =>
 .ite ((x.length:Int) != (y.length:Int))
  (.ite (decide ((x.length:Int)<(y.length:Int)))
  (.ret (-1:Int))
  (.ret (1:Int)))
  (T.bind (Vw x y (zt ((x.length:Int)-(1:Int)))) <|
 Sum.elim (fun _ =>
 .ret (0:Int))
  (fun x2 =>
 .ret x2))
def iR(a1:(List Int))(b1:(List Int)):(Int×Int×(List Int))→T ((Int×Int×(List Int))⊕((List Int)))
 | (c,i,xs) =>
 .ite (decide (i<(a1.length:Int)))
  (T.bind (gY a1 i) fun x =>
 T.bind (gY b1 i) fun r1 =>
 .zd (xp xs.length xs.length (0:Nat) xs.length xs.length (1:Nat) (4:Nat)) <|
 .zd (zh (xs.length+(1:Nat)) (0:Nat) (xs.length+(1:Nat)) (List.length (xs++([(qD (zw ((bif (decide (x<(zw (r1+c))))then(zw (x+4294967296))else x)-(zw (r1+c)))))]:List Int)))) <|
 .zd ((xs.length+(1:Nat))=(List.length (xs++([(qD (zw ((bif (decide (x<(zw (r1+c))))then(zw (x+4294967296))else x)-(zw (r1+c)))))]:List Int)))) <|
 .ret (.inl ((bif (decide (x<(zw (r1+c))))then(1:Int)else(0:Int)),((zt (i+1)),(xs++([(qD (zw ((bif (decide (x<(zw (r1+c))))then(zw (x+4294967296))else x)-(zw (r1+c)))))]:List Int))))))
  (.zd (zh xs.length (0:Nat) xs.length xs.length) <|
 .zd (xs.length=xs.length) <|
 .ret (.inr xs))
def Vl a1 b1 s:=T.loop (iR a1 b1) s
def fH(a:(List Int))(b:(List Int)):T ((List Int)×Bool) :=
 T.bind (iF a b) fun r =>
 .ite (decide (r<(0:Int)))
  (.ret (([]:List Int),false))
  (.zd (zh (0:Nat) (0:Nat) (0:Nat) (0:Nat)) <|
 .zd ((0:Nat)=(0:Nat)) <|
 T.bind (Vl a b ((0:Int),((0:Int),([]:List Int)))) fun zy =>
 .zd (zy.length=zy.length) <|
 T.bind (xl (List.drop (0:Nat) (List.take ((0:Nat)+zy.length) zy))) fun r2 =>
 .ret (r2,true))
def uL(a1:(List Int))(b1:(List Int)):((List Int)×Int×(List Int))→T (((List Int)×Int×(List Int))⊕(((List Int)×(List Int))))
 | (r5,i,xs) =>
 .ite (decide ((0:Int)≤i))
  (T.bind (od r5 (1:Int)) fun r6 =>
 T.bind (.zd ((32:Int)≠(0:Int)) <|
 .zd (zi (zt (Int.tdiv i (32:Int))) a1.length) <|
 .zd ((32:Int)≠(0:Int)) <|
 .zd ((0:Int)≤(zw (Int.tmod i (32:Int)))) <|
 .ite ((lX .u32 (qV .u32 (nth a1 (zt (Int.tdiv i (32:Int))) (zb (.int .u32))) (zw (Int.tmod i (32:Int)))) (1:Int))==1)
  (T.bind (mw r6 ([(1:Int)]:List Int)) fun r7 =>
 .zd (zh xs.length (0:Nat) xs.length xs.length) <|
 .zd (xs.length=xs.length) <|
 .ret (r7,xs))
  (.zd (zh xs.length (0:Nat) xs.length xs.length) <|
 .zd (xs.length=xs.length) <|
 .ret (r6,xs)):T (((List Int)×(List Int)))) fun(r8,zy) =>
 T.bind (iF r8 b1) fun r9 =>
 .ite (decide ((0:Int)≤r9))
  (T.bind (fH r8 b1) fun(Nv,r11) =>
 .zd ((32:Int)≠(0:Int)) <|
 .zd ((32:Int)≠(0:Int)) <|
 .zd (zi (zt (Int.tdiv i (32:Int))) zy.length) <|
 .zd (eB zy.length zy.length ((0:Nat)+(Int.toNat (zt (Int.tdiv i (32:Int))))) zy.length) <|
 .zd ((32:Int)≠(0:Int)) <|
 .zd ((0:Int)≤(zw (Int.tmod i (32:Int)))) <|
 .zd (zi (zt (Int.tdiv i (32:Int))) zy.length) <|
 .zd (eB zy.length zy.length ((0:Nat)+(Int.toNat (zt (Int.tdiv i (32:Int))))) zy.length) <|
 .zd (zh zy.length (0:Nat) zy.length (List.length (List.set zy ((0:Nat)+(Int.toNat (zt (Int.tdiv i (32:Int))))) (gL .u32 (xj zy ((0:Nat)+(Int.toNat (zt (Int.tdiv i (32:Int))))) (zb (.int .u32))) (xU .u32 (1:Int) (zw (Int.tmod i (32:Int)))))))) <|
 .zd (zy.length=(List.length (List.set zy ((0:Nat)+(Int.toNat (zt (Int.tdiv i (32:Int))))) (gL .u32 (xj zy ((0:Nat)+(Int.toNat (zt (Int.tdiv i (32:Int))))) (zb (.int .u32))) (xU .u32 (1:Int) (zw (Int.tmod i (32:Int)))))))) <|
 .ret (.inl (Nv,((zt (i-1)),(List.set zy ((0:Nat)+(Int.toNat (zt (Int.tdiv i (32:Int))))) (gL .u32 (xj zy ((0:Nat)+(Int.toNat (zt (Int.tdiv i (32:Int))))) (zb (.int .u32))) (xU .u32 (1:Int) (zw (Int.tmod i (32:Int))))))))))
  (.zd (zh zy.length (0:Nat) zy.length zy.length) <|
 .zd (zy.length=zy.length) <|
 .ret (.inl (r8,((zt (i-1)),zy)))))
  (.zd (zh xs.length (0:Nat) xs.length xs.length) <|
 .zd (xs.length=xs.length) <|
 .ret (.inr (r5,xs)))
def ir a1 b1 s:=T.loop (uL a1 b1) s
def kE(a:(List Int))(b:(List Int)):T ((List Int)×(List Int)×Bool) :=
 T.bind (xl b) fun r =>
 .ite ((r.length:Int)==(0:Int))
  (.ret (([]:List Int),(([]:List Int),false)))
  (T.bind (Qe a) fun(x,one_) =>
 T.bind (Qe b) fun(y,two_) =>
 .ite (one_&&two_)
  (.zd (y≠(0:Int)) <|
 T.bind (nT (zw (Int.tdiv x y))) fun r1 =>
 .zd (y≠(0:Int)) <|
 T.bind (nT (Int.tmod x y)) fun r2 =>
 .ret (r1,(r2,true)))
  (.ite (two_&&(decide (y<(4294967296:Int))))
  (T.bind (cy a y) fun(q,r3) =>
 T.bind (nT r3) fun r4 =>
 .ret (q,(r4,true)))
  (.zd (Qy (a.length:Int) (a.length:Int) (4:Nat)) <|
 .zd (zh (Int.toNat (a.length:Int)) (0:Nat) (Int.toNat (a.length:Int)) (List.length (List.replicate (Int.toNat (a.length:Int)) (0:Int)))) <|
 .zd ((Int.toNat (a.length:Int))=(List.length (List.replicate (Int.toNat (a.length:Int)) (0:Int)))) <|
 T.bind (ir a b (([]:List Int),((zt ((zt ((32:Int)*(a.length:Int)))-1)),(List.replicate (Int.toNat (a.length:Int)) (0:Int))))) fun(r12,zR) =>
 .zd (zR.length=zR.length) <|
 T.bind (xl (List.drop (0:Nat) (List.take ((0:Nat)+zR.length) zR))) fun r13 =>
 T.bind (xl r12) fun r14 =>
 .ret (r13,(r14,true)))))
def dD  : ((List Int)×(List Int))→T (((List Int)×(List Int))⊕((List Int)))
 | (x1,y1) =>
 .ite (decide ((0:Int)<(y1.length:Int)))
  (T.bind (kE x1 y1) fun(r,r1,r2) =>
 .ret (.inl (y1,r1)))
  (.ret (.inr x1))
def Vy(s:((List Int)×(List Int))):T ((List Int)):=T.loop (dD ) s
def X0(a:(List Int))(b:(List Int)):T (List Int) :=
 T.bind (xl a) fun x =>
 T.bind (xl b) fun y =>
 T.bind (Vy  (x,y)) fun x2 =>
 .ret x2
def xc(a:Rat):T Rat :=
 T.bind (xl a.2.1) fun n =>
 T.bind (xl a.2.2.1) fun d =>
 .ite (((d.length:Int)==(0:Int))||((n.length:Int)==(0:Int)))
  (.ret (false,(([]:List Int),(([(1:Int)]:List Int),()))))
  (T.bind (X0 n d) fun g =>
 T.bind (kE n g) fun(n1,r,r1) =>
 T.bind (kE d g) fun(d1,r2,r3) =>
 .ret (a.1,(n1,(d1,()))))
def wP(a1:(List Int))(b1:(List Int)):Int→T (Int⊕(Unit⊕Bool))
 | i =>
 .ite (decide (i<(a1.length:Int)))
  (.zd (zi i a1.length) <|
 .zd (zi i b1.length) <|
 .ite ((nth a1 i (zb (.int .u32))) != (nth b1 i (zb (.int .u32))))
  (.ret (.inr (.inr false)))
  (.ret (.inl (zt (i+1)))))
  (.ret (.inr (.inl ())))
def cM a1 b1 s:=T.loop (wP a1 b1) s
def uW(a:(List Int))(b:(List Int)):T Bool :=
 .ite ((a.length:Int) != (b.length:Int))
  (.ret false)
  (T.bind (cM a b (0:Int)) <|
 Sum.elim (fun _ =>
 .ret true)
  (fun x =>
 .ret x))
def QG(a:Rat):T Bool :=
 T.bind (xc a) fun r =>
 .ite (a.1==r.1)
  (T.bind (uW a.2.1 r.2.1) fun r1 =>
 .ite r1
  (T.bind (uW a.2.2.1 r.2.2.1) fun r2 =>
 .ret r2)
  (.ret false))
  (.ret false)
def ki(a:Rat):T Bool :=
 T.bind (xc a) fun r =>
 .ret ((decide ((16:Int)<(r.2.1.length:Int)))||(decide ((16:Int)<(r.2.2.1.length:Int))))
def cx(a:Rat):T Bool :=
 T.bind (QG a) fun r =>
 .ite r
  (T.bind (ki a) fun r1 =>
 .ret (!r1))
  (.ret false)
def fR(s:zf):T Bool :=
 .ite (zF s ([]:zf))
  (.ret true)
  (T.bind (vV s) fun r =>
 .ret r)
def dF(a2:(List Int))(b2:(List Int))(i1:Int):(Int×Int×(List Int))→T ((Int×Int×(List Int))⊕((List Int)))
 | (c,k,zy) =>
 .ite ((decide (k<(b2.length:Int)))||(decide ((0:Int)<c)))
  (.ite (decide ((zy.length:Int)≤(zt (i1+k))))
  (.zd (zh zy.length (0:Nat) zy.length zy.length) <|
 .zd (zy.length=zy.length) <|
 .ret (.inr zy))
  (.zd (zi i1 a2.length) <|
 T.bind (gY b2 k) fun r =>
 .zd (zi (zt (i1+k)) zy.length) <|
 .zd (eB zy.length zy.length ((0:Nat)+(Int.toNat (zt (i1+k)))) zy.length) <|
 .zd (zi (zt (i1+k)) zy.length) <|
 .zd (eB zy.length zy.length ((0:Nat)+(Int.toNat (zt (i1+k)))) zy.length) <|
 .zd ((0:Int)≤(32:Int)) <|
 .zd (zh zy.length (0:Nat) zy.length (List.length (List.set zy ((0:Nat)+(Int.toNat (zt (i1+k)))) (qD (zw ((zw (c+(zw ((zw (nth a2 i1 (zb (.int .u32))))*r))))+(zw (xj zy ((0:Nat)+(Int.toNat (zt (i1+k)))) (zb (.int .u32)))))))))) <|
 .zd (zy.length=(List.length (List.set zy ((0:Nat)+(Int.toNat (zt (i1+k)))) (qD (zw ((zw (c+(zw ((zw (nth a2 i1 (zb (.int .u32))))*r))))+(zw (xj zy ((0:Nat)+(Int.toNat (zt (i1+k)))) (zb (.int .u32)))))))))) <|
 .ret (.inl ((qV .u64 (zw ((zw (c+(zw ((zw (nth a2 i1 (zb (.int .u32))))*r))))+(zw (xj zy ((0:Nat)+(Int.toNat (zt (i1+k)))) (zb (.int .u32)))))) (32:Int)),((zt (k+1)),(List.set zy ((0:Nat)+(Int.toNat (zt (i1+k)))) (qD (zw ((zw (c+(zw ((zw (nth a2 i1 (zb (.int .u32))))*r))))+(zw (xj zy ((0:Nat)+(Int.toNat (zt (i1+k)))) (zb (.int .u32)))))))))))))
  (.zd (zh zy.length (0:Nat) zy.length zy.length) <|
 .zd (zy.length=zy.length) <|
 .ret (.inr zy))
def WM a2 b2 i1 s:=T.loop (dF a2 b2 i1) s
def iZ(a1:(List Int))(b1:(List Int)):(Int×(List Int))→T ((Int×(List Int))⊕((List Int)))
 | (i,xs) =>
 .ite (decide (i<(a1.length:Int)))
  (.zd (zh xs.length (0:Nat) xs.length xs.length) <|
 .zd (xs.length=xs.length) <|
 T.bind (WM a1 b1 i ((0:Int),((0:Int),xs))) fun zR =>
 .zd (zh zR.length (0:Nat) zR.length zR.length) <|
 .zd (zR.length=zR.length) <|
 .ret (.inl ((zt (i+1)),zR)))
  (.zd (zh xs.length (0:Nat) xs.length xs.length) <|
 .zd (xs.length=xs.length) <|
 .ret (.inr xs))
def V1 a1 b1 s:=T.loop (iZ a1 b1) s
def uC(a:(List Int))(b:(List Int)):T (List Int) :=
 .zd (Qy (zt ((a.length:Int)+(b.length:Int))) (zt ((a.length:Int)+(b.length:Int))) (4:Nat)) <|
 .zd (zh (Int.toNat (zt ((a.length:Int)+(b.length:Int)))) (0:Nat) (Int.toNat (zt ((a.length:Int)+(b.length:Int)))) (List.length (List.replicate (Int.toNat (zt ((a.length:Int)+(b.length:Int)))) (0:Int)))) <|
 .zd ((Int.toNat (zt ((a.length:Int)+(b.length:Int))))=(List.length (List.replicate (Int.toNat (zt ((a.length:Int)+(b.length:Int)))) (0:Int)))) <|
 T.bind (V1 a b ((0:Int),(List.replicate (Int.toNat (zt ((a.length:Int)+(b.length:Int)))) (0:Int)))) fun qH =>
 .zd (qH.length=qH.length) <|
 T.bind (xl (List.drop (0:Nat) (List.take ((0:Nat)+qH.length) qH))) fun r1 =>
 .ret r1
def yK  : ((List Int)×zf)→T (((List Int)×zf)⊕(zf))
 | (t1,s) =>
 .ite (decide ((0:Int)<(t1.length:Int)))
  (T.bind (cy t1 (10:Int)) fun(t2,r) =>
 .zd (((List.length (qO ([(Mv (zw ((48:Int)+r)))]:List Int)))+s.length)≤(4611686018427387904:Nat)) <|
 .ret (.inl (t2,(cat (qO ([(Mv (zw ((48:Int)+r)))]:List Int)) s))))
  (.ret (.inr s))
def lU(s:((List Int)×zf)):T (zf):=T.loop (yK ) s
def cf(a:(List Int)):T zf :=
 T.bind (xl a) fun t =>
 .ite ((t.length:Int)==(0:Int))
  (.ret ([48]:zf))
  (T.bind (lU  (t,([]:zf))) fun s1 =>
 .ret s1)
def kz(F5:Int):zf→T (zf⊕(zf))
 | s1 =>
 .ite (decide ((s1.length:Int)<F5))
  (.zd ((([48]:zf).length+s1.length)≤(4611686018427387904:Nat)) <|
 .ret (.inl (cat ([48]:zf) s1)))
  (.ret (.inr s1))
def sF F5 s:=T.loop (kz F5) s
def iX(n:(List Int))(least:Int):T zf :=
 T.bind (cf n) fun s =>
 T.bind (sF least s) fun s2 =>
 .ret s2
def ff(neg:Bool):T zf :=
 .ite neg
  (.ret ([45]:zf))
  (.ret ([]:zf))
def oO(neg:Bool)(n:(List Int))(scale:Int):T zf :=
 T.bind (iX n (zt (scale+1))) fun s =>
 .zd (((decide ((0:Int)<scale))=true)→((mM (0:Int) (zt ((s.length:Int)-scale)) s.length)∧((((List.length (gU (0:Int) (zt ((s.length:Int)-scale)) s))+([46]:zf).length)≤(4611686018427387904:Nat))∧((mM (zt ((s.length:Int)-scale)) (s.length:Int) s.length)∧(((List.length (cat (gU (0:Int) (zt ((s.length:Int)-scale)) s) ([46]:zf)))+(List.length (gU (zt ((s.length:Int)-scale)) (s.length:Int) s)))≤(4611686018427387904:Nat)))))) <|
 .ite neg
  (T.bind (ff (decide ((0:Int)<(n.length:Int)))) fun r =>
 .zd ((r.length+(List.length (bif (decide ((0:Int)<scale))then(cat (cat (gU (0:Int) (zt ((s.length:Int)-scale)) s) ([46]:zf)) (gU (zt ((s.length:Int)-scale)) (s.length:Int) s))else s)))≤(4611686018427387904:Nat)) <|
 .ret (cat r (bif (decide ((0:Int)<scale))then(cat (cat (gU (0:Int) (zt ((s.length:Int)-scale)) s) ([46]:zf)) (gU (zt ((s.length:Int)-scale)) (s.length:Int) s))else s)))
  (T.bind (ff false) fun r1 =>
 .zd ((r1.length+(List.length (bif (decide ((0:Int)<scale))then(cat (cat (gU (0:Int) (zt ((s.length:Int)-scale)) s) ([46]:zf)) (gU (zt ((s.length:Int)-scale)) (s.length:Int) s))else s)))≤(4611686018427387904:Nat)) <|
 .ret (cat r1 (bif (decide ((0:Int)<scale))then(cat (cat (gU (0:Int) (zt ((s.length:Int)-scale)) s) ([46]:zf)) (gU (zt ((s.length:Int)-scale)) (s.length:Int) s))else s)))
def js  : ((List Int)×Int×Rat)→T (((List Int)×Int×Rat)⊕(Rat⊕(zf×Bool×Rat)))
 | (t,k,v) =>
 .ite (decide (k≤(60:Int)))
  (T.bind (uC v.2.1 t) fun r1 =>
 T.bind (kE r1 v.2.2.1) fun(q,r2,r3) =>
 .ite ((r2.length:Int)==(0:Int))
  (T.bind (oO v.1 q k) fun r4 =>
 .ret (.inr (.inr (r4,(true,v)))))
  (T.bind (uC t ([(10:Int)]:List Int)) fun t1 =>
 .ret (.inl (t1,((zt (k+1)),v)))))
  (.ret (.inr (.inl v)))
def Zb(s:((List Int)×Int×Rat)):T (Rat⊕(zf×Bool×Rat)):=T.loop (js ) s
def ct(a:Rat):T (zf×Bool) :=
 T.bind (xc a) fun r =>
 T.bind (Zb  (([(1:Int)]:List Int),((0:Int),r))) <|
 Sum.elim (fun v1 =>
 .ret (([]:zf),false))
  (fun(x,x1,v2) =>
 .ret (x,x1))
def jU(a:Rat):T Bool :=
 .ite (!a.1)
  (.ite ((a.2.1.length:Int)==(0:Int))
  (.ite ((a.2.2.1.length:Int)==(0:Int))
  (.ret true)
  (T.bind (QG a) fun r =>
 .ret r))
  (.ret false))
  (.ret false)
def cV(yH:AM.Expr→Int→T Bool)(SM:Int)(e1:AM.Expr)(TO:Int):Int→T (Int⊕(Unit⊕Bool))
 | i =>
 .ite (decide (i<TO))
  (.zd (zi i (Expr.kids e1).length) <|
 T.bind (yH (nth (Expr.kids e1) i (zb .expr)) (zt (SM+1))) fun r5 =>
 .ite (!r5)
  (.ret (.inr (.inr false)))
  (.ret (.inl (zt (i+1)))))
  (.ret (.inr (.inl ())))
def pM yH SM e1 TO s:=T.loop (cV yH SM e1 TO) s
def nB(yH:AM.Expr→Int→T Bool)(e:AM.Expr)(deep:Int):T Bool :=
 .ite (decide ((32:Int)<deep))
  (.ret false)
  (T.bind (.ite ((Expr.kind e)==1)
  (T.bind (ct (Expr.num e)) fun(r,ok) =>
 .ite (((Expr.kids e).length:Int)==(0:Int))
  (.ite (zF (Expr.name e) ([]:zf))
  (T.bind (cx (Expr.num e)) fun r1 =>
 .ite r1
  (.ite (!(Expr.num e).1)
  (.ret (.inr ok))
  (.ret (.inr false)))
  (.ret (.inr false)))
  (.ret (.inr false)))
  (.ret (.inr false)))
  (.ite ((Expr.kind e)==2)
  (.ite (((Expr.kids e).length:Int)==(0:Int))
  (T.bind (vV (Expr.name e)) fun r2 =>
 .ite r2
  (T.bind (jU (Expr.num e)) fun r3 =>
 .ret (.inr r3))
  (.ret (.inr false)))
  (.ret (.inr false)))
  (.ite ((Expr.kind e)==7)
  (.ret (.inl (1:Int)))
  (.ite ((Expr.kind e)==3)
  (.ret (.inl (2:Int)))
  (.ite ((Expr.kind e)==4)
  (.ret (.inl (2:Int)))
  (.ite ((Expr.kind e)==5)
  (.ret (.inl (2:Int)))
  (.ite ((Expr.kind e)==6)
  (.ret (.inl (2:Int)))
  (.ret (.inr false)))))))):T (Int⊕Bool)) <|
 Sum.elim (fun kids =>
 T.bind (.ite (((Expr.kids e).length:Int) != kids)
  (.ret true)
  (.ite (!(zF (Expr.name e) ([]:zf)))
  (.ret true)
  (T.bind (jU (Expr.num e)) fun r4 =>
 .ret (!r4))):T (Bool)) fun x1 =>
 .ite x1
  (.ret false)
  (T.bind (pM yH deep e kids (0:Int)) <|
 Sum.elim (fun _ =>
 .ret true)
  (fun x2 =>
 .ret x2)))
  (fun x =>
 .ret x))
def nj(e:AM.Expr)(deep:Int):T Bool:=T.fix (fun F x=>nB (fun y0 y1=>F (y0,y1)) x.1 x.2) (e,deep)
def yp(j5:AM.Expr→T Int)(e1:AM.Expr):(Int×Int)→T ((Int×Int)⊕(Int))
 | (n,i) =>
 .ite (decide (i<((Expr.kids e1).length:Int)))
  (.zd (zi i (Expr.kids e1).length) <|
 T.bind (j5 (nth (Expr.kids e1) i (zb .expr))) fun r =>
 .ret (.inl ((zt (n+r)),(zt (i+1)))))
  (.ret (.inr n))
def Z7 j5 e1 s:=T.loop (yp j5 e1) s
def eF(j5:AM.Expr→T Int)(e:AM.Expr):T Int :=
 T.bind (Z7 j5 e ((1:Int),(0:Int))) fun n1 =>
 .ret n1
def nL(e:AM.Expr):T Int:=T.fix (fun F x=>eF (fun y0=>F (y0)) x) e
def yU(e:AM.Expr):T Bool :=
 T.bind (nj e (1:Int)) fun r =>
 .ite r
  (T.bind (nL e) fun r1 =>
 .ret (decide (r1≤(256:Int))))
  (.ret false)
def yQ(f1:Form):(Int×Int)→T ((Int×Int)⊕(Unit⊕Bool))
 | (at_,i) =>
 .ite (decide (i<(f1.2.2.2.1.length:Int)))
  (.zd (zi i f1.2.2.2.1.length) <|
 T.bind (.ite (decide ((nth f1.2.2.2.1 i (zb q8)).2.1<at_))
  (.ret (true,(nth f1.2.2.2.1 i (zb q8))))
  (.ite (decide ((f1.2.2.1.length:Int)≤(nth f1.2.2.2.1 i (zb q8)).2.1))
  (.ret (true,(nth f1.2.2.2.1 i (zb q8))))
  (T.bind (vV (nth f1.2.2.2.1 i (zb q8)).1) fun r =>
 .ite (!r)
  (.ret (true,(nth f1.2.2.2.1 i (zb q8))))
  (.ite (decide ((nth f1.2.2.2.1 i (zb q8)).2.2.2.1<(0:Int)))
  (.ret (true,(nth f1.2.2.2.1 i (zb q8))))
  (.ret ((decide ((9:Int)<(nth f1.2.2.2.1 i (zb q8)).2.2.2.1)),(nth f1.2.2.2.1 i (zb q8))))))):T ((Bool×Field))) fun(x,v) =>
 .ite x
  (.ret (.inr (.inr false)))
  (.ret (.inl (v.2.1,(zt (i+1))))))
  (.ret (.inr (.inl ())))
def Zv f1 s:=T.loop (yQ f1) s
def yn(f2:Form):(Int×Int)→T ((Int×Int)⊕(Unit⊕Bool))
 | (at_1,i1) =>
 .ite (decide (i1<(f2.2.2.2.2.2.1.length:Int)))
  (.zd (zi i1 f2.2.2.2.2.2.1.length) <|
 T.bind (.ite (decide ((nth f2.2.2.2.2.2.1 i1 (zb zm)).2.1<at_1))
  (.ret (true,(nth f2.2.2.2.2.2.1 i1 (zb zm))))
  (.ite (decide ((f2.2.2.1.length:Int)≤(nth f2.2.2.2.2.2.1 i1 (zb zm)).2.1))
  (.ret (true,(nth f2.2.2.2.2.2.1 i1 (zb zm))))
  (T.bind (vV (nth f2.2.2.2.2.2.1 i1 (zb zm)).1) fun r1 =>
 .ite (!r1)
  (.ret (true,(nth f2.2.2.2.2.2.1 i1 (zb zm))))
  (.ite (decide ((nth f2.2.2.2.2.2.1 i1 (zb zm)).2.2.1<(0:Int)))
  (.ret (true,(nth f2.2.2.2.2.2.1 i1 (zb zm))))
  (.ite (decide ((2:Int)<(nth f2.2.2.2.2.2.1 i1 (zb zm)).2.2.1))
  (.ret (true,(nth f2.2.2.2.2.2.1 i1 (zb zm))))
  (T.bind (yU (Expr.mk (Expr.kind (nth f2.2.2.2.2.2.1 i1 (zb zm)).2.2.2.1) ((Expr.num (nth f2.2.2.2.2.2.1 i1 (zb zm)).2.2.2.1).1,((Expr.num (nth f2.2.2.2.2.2.1 i1 (zb zm)).2.2.2.1).2.1,((Expr.num (nth f2.2.2.2.2.2.1 i1 (zb zm)).2.2.2.1).2.2.1,()))) (Expr.name (nth f2.2.2.2.2.2.1 i1 (zb zm)).2.2.2.1) (Expr.kids (nth f2.2.2.2.2.2.1 i1 (zb zm)).2.2.2.1))) fun r2 =>
 .ite (!r2)
  (.ret (true,(nth f2.2.2.2.2.2.1 i1 (zb zm))))
  (T.bind (yU (Expr.mk (Expr.kind (nth f2.2.2.2.2.2.1 i1 (zb zm)).2.2.2.2.1) ((Expr.num (nth f2.2.2.2.2.2.1 i1 (zb zm)).2.2.2.2.1).1,((Expr.num (nth f2.2.2.2.2.2.1 i1 (zb zm)).2.2.2.2.1).2.1,((Expr.num (nth f2.2.2.2.2.2.1 i1 (zb zm)).2.2.2.2.1).2.2.1,()))) (Expr.name (nth f2.2.2.2.2.2.1 i1 (zb zm)).2.2.2.2.1) (Expr.kids (nth f2.2.2.2.2.2.1 i1 (zb zm)).2.2.2.2.1))) fun r3 =>
 .ret ((!r3),(nth f2.2.2.2.2.2.1 i1 (zb zm))))))))):T ((Bool×Check))) fun(x2,v1) =>
 .ite x2
  (.ret (.inr (.inr false)))
  (.ret (.inl (v1.2.1,(zt (i1+1))))))
  (.ret (.inr (.inl ())))
def Zs f2 s:=T.loop (yn f2) s
def nq(f:Form):T Bool :=
 T.bind (Zv f ((0:Int),(0:Int))) <|
 Sum.elim (fun _ =>
 T.bind (Zs f ((0:Int),(0:Int))) <|
 Sum.elim (fun _ =>
 .ret true)
  (fun x3 =>
 .ret x3))
  (fun x1 =>
 .ret x1)
def oL(a:Rat):T zf :=
 T.bind (xc a) fun r =>
 T.bind (ff r.1) fun r1 =>
 T.bind (cf r.2.1) fun r2 =>
 .zd ((r1.length+r2.length)≤(4611686018427387904:Nat)) <|
 .zd ((((r.2.2.1.length:Int) != (1:Int))=false)→(zi (0:Int) r.2.2.1.length)) <|
 .ite (((r.2.2.1.length:Int) != (1:Int))||((nth r.2.2.1 (0:Int) (zb (.int .u32))) != 1))
  (.zd (((cat r1 r2).length+([47]:zf).length)≤(4611686018427387904:Nat)) <|
 T.bind (cf r.2.2.1) fun r3 =>
 .zd (((List.length (cat (cat r1 r2) ([47]:zf)))+r3.length)≤(4611686018427387904:Nat)) <|
 .ret (cat (cat (cat r1 r2) ([47]:zf)) r3))
  (.ret (cat r1 r2))
def tw(s:zf):T zf :=
 .ite (zF s ([]:zf))
  (.ret ([]:zf))
  (.zd ((([32,119,104,101,110,32]:zf).length+s.length)≤(4611686018427387904:Nat)) <|
 .ret (cat ([32,119,104,101,110,32]:zf) s))
end Go.AM.Lf
