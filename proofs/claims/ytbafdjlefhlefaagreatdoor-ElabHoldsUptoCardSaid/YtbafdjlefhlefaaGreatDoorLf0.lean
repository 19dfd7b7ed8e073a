/-
  The program's functions as trees in plain Lean, part 0: printed by a program of ours.
-/
import Derived.Test.YtbafdjlefhlefaaGreatDoorAmA
set_option linter.unusedVariables false
noncomputable section
namespace Go.AM.Lf
abbrev dx:Ty:=(.cons .str .nil)
abbrev Eu:=den dx
abbrev dY:Ty:=(.cons .str (.cons (.int .u64) .nil))
abbrev JV:=den dY
abbrev zZ:Ty:=(.cons .str (.cons .bool .nil))
abbrev Switch:=den zZ
abbrev qy:Ty:=(.cons .str dx)
abbrev tr:=den qy
abbrev rj:Ty:=(.cons (.int .i64) (.cons (.int .i64) (.cons .bool (.cons (.int .u8) .nil))))
abbrev Ej:=den rj
abbrev zt:Ty:=(.cons .bool (.cons (.sl (.int .u32)) (.cons (.sl (.int .u32)) .nil)))
abbrev Rat:=den zt
abbrev qc:Ty:=(.cons .str (.cons (.int .i64) (.cons .bool (.cons (.int .i64) .nil))))
abbrev Field:=den qc
abbrev zl:Ty:=(.cons .str (.cons (.int .i64) (.cons .str (.cons .expr (.cons .expr .nil)))))
abbrev uP:=den zl
abbrev zn:Ty:=(.cons .str (.cons (.int .i64) (.cons (.int .i64) (.cons .expr (.cons .expr .nil)))))
abbrev Check:=den zn
abbrev q8:Ty:=(.cons .str (.cons zt .nil))
abbrev Param:=den q8
abbrev zp:Ty:=(.cons (.int .i64) (.cons zt .nil))
abbrev Term:=den zp
abbrev zH:Ty:=(.cons (.sl .str) (.cons (.sl .str) (.cons (.sl zt) .nil)))
abbrev zB:=den zH
abbrev q7:Ty:=(.cons (.int .i64) (.cons (.sl zp) (.cons zt .nil)))
abbrev wF:=den q7
abbrev qk:Ty:=(.cons (.sl q7) (.cons (.sl (.int .i64)) .nil))
abbrev qU:=den qk
abbrev zK:Ty:=(.cons (.sl zZ) (.cons (.sl q8) (.cons (.sl qy) (.cons (.sl qc) (.cons (.sl zl) (.cons (.sl zn) .nil))))))
abbrev Form:=den zK
def ke(j0:AM.Expr→Int→T Int)(e1:AM.Expr):(Int×Int)→T ((Int×Int)⊕(Int))
 | (left1,i) =>
 .ite ((decide (i<((Expr.kids e1).length:Int)))&&(decide ((0:Int)≤left1)))
  (.zd (zi i (Expr.kids e1).length) <|
 T.bind (j0 (nth (Expr.kids e1) i (zb .expr)) left1) fun zdc =>
 .ret (.inl (zdc,(zu (i+1)))))
  (.ret (.inr left1))
def sL j0 e1 s:=T.loop (ke j0 e1) s
def cO(j0:AM.Expr→Int→T Int)(e:AM.Expr)(left:Int):T Int :=
 T.bind (sL j0 e ((zu ((zu ((zu ((zu (left-3))-((Expr.name e).length:Int)))-(zu ((8:Int)*(Nat.cast (List.length (Expr.num e).2.1):Int)))))-(zu ((8:Int)*(Nat.cast (List.length (Expr.num e).2.2.1):Int))))),(0:Int))) fun zbY =>
 .ret zbY
def kQ(e:AM.Expr)(left:Int):T Int:=T.fix (fun F x=>cO (fun y0 y1=>F (y0,y1)) x.1 x.2) (e,left)
def gf(f1:Form):(Int×Int)→T ((Int×Int)⊕(Int))
 | (n,i) =>
 .ite ((decide (i<(f1.2.1.length:Int)))&&(decide ((0:Int)≤n)))
  (.zd (zi i f1.2.1.length) <|
 .zd (zi i f1.2.1.length) <|
 .zd (zi i f1.2.1.length) <|
 .ret (.inl ((zu ((zu ((zu (n-(zu ((8:Int)*(Nat.cast (List.length (nth f1.2.1 i (zb q8)).2.1.2.1):Int)))))-(zu ((8:Int)*(Nat.cast (List.length (nth f1.2.1 i (zb q8)).2.1.2.2.1):Int)))))-(Nat.cast (List.length (nth f1.2.1 i (zb q8)).1):Int))),(zu (i+1)))))
  (.ret (.inr n))
def Zx f1 s:=T.loop (gf f1) s
def yO(f2:Form):(Int×Int)→T ((Int×Int)⊕(Int))
 | (n2,i1) =>
 .ite ((decide (i1<(f2.1.length:Int)))&&(decide ((0:Int)≤n2)))
  (.zd (zi i1 f2.1.length) <|
 .ret (.inl ((zu (n2-(Nat.cast (List.length (nth f2.1 i1 (zb zZ)).1):Int))),(zu (i1+1)))))
  (.ret (.inr n2))
def ZG f2 s:=T.loop (yO f2) s
def yH(f3:Form):(Int×Int)→T ((Int×Int)⊕(Int))
 | (n4,i2) =>
 .ite ((decide (i2<(f3.2.2.1.length:Int)))&&(decide ((0:Int)≤n4)))
  (.zd (zi i2 f3.2.2.1.length) <|
 .zd (zi i2 f3.2.2.1.length) <|
 .ret (.inl ((zu ((zu (n4-(Nat.cast (List.length (nth f3.2.2.1 i2 (zb qy)).1):Int)))-(Nat.cast (List.length (nth f3.2.2.1 i2 (zb qy)).2.1):Int))),(zu (i2+1)))))
  (.ret (.inr n4))
def ZY f3 s:=T.loop (yH f3) s
def yC(f4:Form):(Int×Int)→T ((Int×Int)⊕(Int))
 | (n6,i3) =>
 .ite ((decide (i3<(f4.2.2.2.1.length:Int)))&&(decide ((0:Int)≤n6)))
  (.zd (zi i3 f4.2.2.2.1.length) <|
 .ret (.inl ((zu (n6-(Nat.cast (List.length (nth f4.2.2.2.1 i3 (zb qc)).1):Int))),(zu (i3+1)))))
  (.ret (.inr n6))
def ZA f4 s:=T.loop (yC f4) s
def yL(f5:Form):(Int×Int)→T ((Int×Int)⊕(Int))
 | (n8,i4) =>
 .ite ((decide (i4<(f5.2.2.2.2.1.length:Int)))&&(decide ((0:Int)≤n8)))
  (.zd (zi i4 f5.2.2.2.2.1.length) <|
 .zd (zi i4 f5.2.2.2.2.1.length) <|
 .zd (zi i4 f5.2.2.2.2.1.length) <|
 .zd (zi i4 f5.2.2.2.2.1.length) <|
 T.bind (kQ (nth f5.2.2.2.2.1 i4 (zb zl)).2.2.2.1 (zu ((zu (n8-(Nat.cast (List.length (nth f5.2.2.2.2.1 i4 (zb zl)).1):Int)))-(Nat.cast (List.length (nth f5.2.2.2.2.1 i4 (zb zl)).2.2.1):Int)))) fun r =>
 T.bind (kQ (nth f5.2.2.2.2.1 i4 (zb zl)).2.2.2.2.1 r) fun n9 =>
 .ret (.inl (n9,(zu (i4+1)))))
  (.ret (.inr n8))
def Zz f5 s:=T.loop (yL f5) s
def yy(f6:Form):(Int×Int)→T ((Int×Int)⊕(Int))
 | (n11,i5) =>
 .ite ((decide (i5<(f6.2.2.2.2.2.1.length:Int)))&&(decide ((0:Int)≤n11)))
  (.zd (zi i5 f6.2.2.2.2.2.1.length) <|
 .zd (zi i5 f6.2.2.2.2.2.1.length) <|
 .zd (zi i5 f6.2.2.2.2.2.1.length) <|
 T.bind (kQ (nth f6.2.2.2.2.2.1 i5 (zb zn)).2.2.2.1 (zu (n11-(Nat.cast (List.length (nth f6.2.2.2.2.2.1 i5 (zb zn)).1):Int)))) fun r1 =>
 T.bind (kQ (nth f6.2.2.2.2.2.1 i5 (zb zn)).2.2.2.2.1 r1) fun n12 =>
 .ret (.inl (n12,(zu (i5+1)))))
  (.ret (.inr n11))
def ZO f6 s:=T.loop (yy f6) s
def cH(f:Form):T Bool :=
 T.bind (Zx f ((zu ((600:Int)-(zu ((20:Int)*(zu ((zu ((zu ((zu ((zu ((f.1.length:Int)+(f.2.1.length:Int)))+(f.2.2.1.length:Int)))+(f.2.2.2.1.length:Int)))+(f.2.2.2.2.1.length:Int)))+(f.2.2.2.2.2.1.length:Int))))))),(0:Int))) fun n1 =>
 T.bind (ZG f (n1,(0:Int))) fun n3 =>
 T.bind (ZY f (n3,(0:Int))) fun n5 =>
 T.bind (ZA f (n5,(0:Int))) fun n7 =>
 T.bind (Zz f (n7,(0:Int))) fun n10 =>
 T.bind (ZO f (n10,(0:Int))) fun n13 =>
 .ret (decide (n13<(0:Int)))
def bz(l1:(List Rat)):(Int×Int)→T ((Int×Int)⊕(Unit⊕Bool))
 | (n,i) =>
 .ite (decide (i<(l1.length:Int)))
  (.zd (zi i l1.length) <|
 .zd (zi i l1.length) <|
 .zd (((decide ((100:Int)<(zu ((zu ((zu (n+1))+(Nat.cast (List.length (nth l1 i (zb zt)).2.1):Int)))+(Nat.cast (List.length (nth l1 i (zb zt)).2.2.1):Int)))))=false)→((zi i l1.length)∧(((decide ((3:Int)<(Nat.cast (List.length (nth l1 i (zb zt)).2.1):Int)))=false)→(zi i l1.length)))) <|
 .ite ((decide ((100:Int)<(zu ((zu ((zu (n+1))+(Nat.cast (List.length (nth l1 i (zb zt)).2.1):Int)))+(Nat.cast (List.length (nth l1 i (zb zt)).2.2.1):Int)))))||((decide ((3:Int)<(Nat.cast (List.length (nth l1 i (zb zt)).2.1):Int)))||(decide ((3:Int)<(Nat.cast (List.length (nth l1 i (zb zt)).2.2.1):Int)))))
  (.ret (.inr (.inr true)))
  (.ret (.inl ((zu ((zu ((zu (n+1))+(Nat.cast (List.length (nth l1 i (zb zt)).2.1):Int)))+(Nat.cast (List.length (nth l1 i (zb zt)).2.2.1):Int))),(zu (i+1))))))
  (.ret (.inr (.inl ())))
def QX l1 s:=T.loop (bz l1) s
def gS(l:(List Rat)):T Bool :=
 T.bind (QX l ((0:Int),(0:Int))) <|
 Sum.elim (fun _ =>
 .ret false)
  (fun x =>
 .ret x)
def uB(c:Int):T Bool :=
 .ret ((decide ((97:Int)≤c))&&(decide (c≤(122:Int))))
def o8(c:Int):T Bool :=
 .ret ((decide ((48:Int)≤c))&&(decide (c≤(57:Int))))
def fj(c:Int):T Bool :=
 T.bind (uB c) fun r =>
 .ite r
  (.ret true)
  (T.bind (o8 c) fun r1 =>
 .ite r1
  (.ret true)
  (.ret (c==95)))
def y8(s1:zf)(x1:Int):Int→T (Int⊕(Unit⊕Bool))
 | x2 =>
 .ite (decide (x2<x1))
  (.zd (zi x2 s1.length) <|
 T.bind (fj (wG s1 x2)) fun r1 =>
 .ite (!r1)
  (.ret (.inr (.inr false)))
  (.ret (.inl (zu (x2+1)))))
  (.ret (.inr (.inl ())))
def XF s1 x1 s:=T.loop (y8 s1 x1) s
def uO(s:zf):T Bool :=
 T.bind (.ite (zM s ([]:zf))
  (.ret true)
  (.ite (decide ((24:Int)<(s.length:Int)))
  (.ret true)
  (.zd (zi (0:Int) s.length) <|
 T.bind (uB (wG s (0:Int))) fun r =>
 .ret (!r))):T (Bool)) fun x =>
 .ite x
  (.ret false)
  (T.bind (XF s (s.length:Int) (0:Int)) <|
 Sum.elim (fun _ =>
 .ret true)
  (fun x3 =>
 .ret x3))
def vC(s:Switch):T Bool :=
 T.bind (uO s.1) fun r =>
 .ret (!r)
def qh(s1:(List Switch))(f:Switch→T Bool)(x:Int):Int→T (Int⊕(Unit⊕Int))
 | x1 =>
 .ite (decide (x1<x))
  (.zd (zi x1 s1.length) <|
 T.bind (f (nth s1 x1 (zb zZ))) fun r =>
 .ite r
  (.ret (.inr (.inr x1)))
  (.ret (.inl (zu (x1+1)))))
  (.ret (.inr (.inl ())))
def wZ s1 f x s:=T.loop (qh s1 f x) s
def qq(s:(List Switch))(f:Switch→T Bool):T Int :=
 T.bind (wZ s f (s.length:Int) (0:Int)) <|
 Sum.elim (fun _ =>
 .ret (-1:Int))
  (fun x2 =>
 .ret x2)
def qD(s:(List Switch))(f:Switch→T Bool):T Bool :=
 T.bind (qq s f) fun r =>
 .ret (decide ((0:Int)≤r))
def lg(a:(List Int)):T Bool :=
 .zd ((((a.length:Int)==(0:Int))=false)→(zi (zu ((a.length:Int)-(1:Int))) a.length)) <|
 .ret (((a.length:Int)==(0:Int))||((nth a (zu ((a.length:Int)-(1:Int))) (zb (.int .u32))) != 0))
def mh  : (List Int)→T ((List Int)⊕((List Int)))
 | a1 =>
 T.bind (lg a1) fun r =>
 .ite (!r)
  (.zd (nj (0:Int) (zu ((a1.length:Int)-(1:Int))) a1.length) <|
 .ret (.inl (uz (e:=(.int .u32)) (0:Int) (zu ((a1.length:Int)-(1:Int))) a1)))
  (.ret (.inr a1))
def tv(s:(List Int)):T ((List Int)):=T.loop (mh ) s
def xN(a:(List Int)):T (List Int) :=
 T.bind (tv  a) fun a2 =>
 .ret a2
def vq(s:(List Int)):T (List Int) :=
 .zd (s=[]→∀ r,T.leads (.zd (xF (0:Nat) (0:Nat) (0:Nat) (0:Nat) (0:Nat) s.length (4:Nat)) <|
 .zd (((0:Nat)+s.length)=((0:Nat)+s.length)) <|
 .ret (List.drop (0:Nat) (List.take ((0:Nat)+((0:Nat)+s.length)) s)):T _) r→T.leads (.ret ([]:List Int):T _) r) <|
 .zd (xF (0:Nat) (0:Nat) (0:Nat) (0:Nat) (0:Nat) s.length (4:Nat)) <|
 .zd (((0:Nat)+s.length)=((0:Nat)+s.length)) <|
 .ret (List.drop (0:Nat) (List.take ((0:Nat)+((0:Nat)+s.length)) s))
def b8(a:(List Int)):T (List Int) :=
 T.bind (xN a) fun r =>
 T.bind (vq r) fun r1 =>
 .ret r1
def fO(a2:(List Int))(b2:(List Int)):Int→T (Int⊕(Unit⊕Int))
 | i =>
 .ite (decide ((0:Int)≤i))
  (.zd (zi i a2.length) <|
 .zd (zi i b2.length) <|
 .ite ((nth a2 i (zb (.int .u32))) != (nth b2 i (zb (.int .u32))))
  (.zd (zi i a2.length) <|
 .zd (zi i b2.length) <|
 .ite (decide ((nth a2 i (zb (.int .u32)))<(nth b2 i (zb (.int .u32)))))
  (.ret (.inr (.inr (-1:Int))))
  (.ret (.inr (.inr (1:Int)))))
  (.ret (.inl (zu (i-1)))))
  (.ret (.inr (.inl ())))
def Ks a2 b2 s:=T.loop (fO a2 b2) s
def lX(a:(List Int))(b:(List Int)):T Int :=
 T.bind (xN a) fun a1 =>
 T.bind (xN b) fun b1 =>
 .ite ((a1.length:Int) != (b1.length:Int))
  (.ite (decide ((a1.length:Int)<(b1.length:Int)))
  (.ret (-1:Int))
  (.ret (1:Int)))
  (T.bind (Ks a1 b1 (zu ((a1.length:Int)-(1:Int)))) <|
 Sum.elim (fun _ =>
 .ret (0:Int))
  (fun x =>
 .ret x))
def gn(hi:Int)(lo:Int)(y:Int):T (Int×Int) :=
 .ite ((y != 0)&&(decide (y≤hi)))
  (.fail)
  (.zd ((0:Int)≤(32:Int)) <|
 .zd ((zx y)≠(0:Int)) <|
 .zd ((zx y)≠(0:Int)) <|
 .ret ((qG (zx (Int.tdiv (gT .u64 (xZ .u64 (zx hi) (32:Int)) (zx lo)) (zx y)))),(qG (Int.tmod (gT .u64 (xZ .u64 (zx hi) (32:Int)) (zx lo)) (zx y)))))
def fp(a1:(List Int))(b1:Int):(Int×Int×(List Int))→T ((Int×Int×(List Int))⊕((Int×(List Int))))
 | (rest,i,xs) =>
 .ite (decide ((0:Int)≤i))
  (.zd (zi i a1.length) <|
 T.bind (gn rest (nth a1 i (zb (.int .u32))) b1) fun(r,rest1) =>
 .zd (zi i xs.length) <|
 .zd (lh xs.length xs.length ((0:Nat)+(Int.toNat i)) xs.length) <|
 .zd (zh xs.length (0:Nat) xs.length (List.length (List.set xs ((0:Nat)+(Int.toNat i)) r))) <|
 .zd (xs.length=(List.length (List.set xs ((0:Nat)+(Int.toNat i)) r))) <|
 .ret (.inl (rest1,((zu (i-1)),(List.set xs ((0:Nat)+(Int.toNat i)) r)))))
  (.zd (zh xs.length (0:Nat) xs.length xs.length) <|
 .zd (xs.length=xs.length) <|
 .ret (.inr (rest,xs)))
def X8 a1 b1 s:=T.loop (fp a1 b1) s
def fD(a:(List Int))(b:Int):T ((List Int)×Int) :=
 .zd (Wh (a.length:Int) (a.length:Int) (4:Nat)) <|
 .zd (zh (Int.toNat (a.length:Int)) (0:Nat) (Int.toNat (a.length:Int)) (List.length (List.replicate (Int.toNat (a.length:Int)) (0:Int)))) <|
 .zd ((Int.toNat (a.length:Int))=(List.length (List.replicate (Int.toNat (a.length:Int)) (0:Int)))) <|
 T.bind (X8 a b ((0:Int),((zu ((a.length:Int)-(1:Int))),(List.replicate (Int.toNat (a.length:Int)) (0:Int))))) fun(rest2,zE) =>
 .zd (zE.length=zE.length) <|
 T.bind (xN (List.drop (0:Nat) (List.take ((0:Nat)+zE.length) zE))) fun r1 =>
 .ret (r1,rest2)
def jV(n:Int):T (List Int) :=
 .zd ((0:Int)≤(32:Int)) <|
 T.bind (xN ([(qG n),(qG (xc .u64 n (32:Int)))]:List Int)) fun r =>
 .ret r
def gm(x:Int):T Int :=
 .zd (((decide ((65536:Int)≤x))=true)→((0:Int)≤(16:Int))) <|
 .zd (((decide ((256:Int)≤(bif (decide ((65536:Int)≤x))then(xc .u32 x (16:Int))else x)))=true)→((0:Int)≤(8:Int))) <|
 .zd (zi (MR (bif (decide ((256:Int)≤(bif (decide ((65536:Int)≤x))then(xc .u32 x (16:Int))else x)))then(xc .u32 (bif (decide ((65536:Int)≤x))then(xc .u32 x (16:Int))else x) (8:Int))else(bif (decide ((65536:Int)≤x))then(xc .u32 x (16:Int))else x))) ([0,1,2,2,3,3,3,3,4,4,4,4,4,4,4,4,5,5,5,5,5,5,5,5,5,5,5,5,5,5,5,5,6,6,6,6,6,6,6,6,6,6,6,6,6,6,6,6,6,6,6,6,6,6,6,6,6,6,6,6,6,6,6,6,7,7,7,7,7,7,7,7,7,7,7,7,7,7,7,7,7,7,7,7,7,7,7,7,7,7,7,7,7,7,7,7,7,7,7,7,7,7,7,7,7,7,7,7,7,7,7,7,7,7,7,7,7,7,7,7,7,7,7,7,7,7,7,7,8,8,8,8,8,8,8,8,8,8,8,8,8,8,8,8,8,8,8,8,8,8,8,8,8,8,8,8,8,8,8,8,8,8,8,8,8,8,8,8,8,8,8,8,8,8,8,8,8,8,8,8,8,8,8,8,8,8,8,8,8,8,8,8,8,8,8,8,8,8,8,8,8,8,8,8,8,8,8,8,8,8,8,8,8,8,8,8,8,8,8,8,8,8,8,8,8,8,8,8,8,8,8,8,8,8,8,8,8,8,8,8,8,8,8,8,8,8,8,8,8,8,8,8,8,8,8,8]:zf).length) <|
 .ret (zu ((bif (decide ((256:Int)≤(bif (decide ((65536:Int)≤x))then(xc .u32 x (16:Int))else x)))then(zu ((bif (decide ((65536:Int)≤x))then(16:Int)else(0:Int))+8))else(bif (decide ((65536:Int)≤x))then(16:Int)else(0:Int)))+(zu (wG ([0,1,2,2,3,3,3,3,4,4,4,4,4,4,4,4,5,5,5,5,5,5,5,5,5,5,5,5,5,5,5,5,6,6,6,6,6,6,6,6,6,6,6,6,6,6,6,6,6,6,6,6,6,6,6,6,6,6,6,6,6,6,6,6,7,7,7,7,7,7,7,7,7,7,7,7,7,7,7,7,7,7,7,7,7,7,7,7,7,7,7,7,7,7,7,7,7,7,7,7,7,7,7,7,7,7,7,7,7,7,7,7,7,7,7,7,7,7,7,7,7,7,7,7,7,7,7,7,8,8,8,8,8,8,8,8,8,8,8,8,8,8,8,8,8,8,8,8,8,8,8,8,8,8,8,8,8,8,8,8,8,8,8,8,8,8,8,8,8,8,8,8,8,8,8,8,8,8,8,8,8,8,8,8,8,8,8,8,8,8,8,8,8,8,8,8,8,8,8,8,8,8,8,8,8,8,8,8,8,8,8,8,8,8,8,8,8,8,8,8,8,8,8,8,8,8,8,8,8,8,8,8,8,8,8,8,8,8,8,8,8,8,8,8,8,8,8,8,8,8,8,8,8,8,8,8]:zf) (MR (bif (decide ((256:Int)≤(bif (decide ((65536:Int)≤x))then(xc .u32 x (16:Int))else x)))then(xc .u32 (bif (decide ((65536:Int)≤x))then(xc .u32 x (16:Int))else x) (8:Int))else(bif (decide ((65536:Int)≤x))then(xc .u32 x (16:Int))else x)))))))
def wW(x:Int):T Int :=
 T.bind (gm x) fun r =>
 .ret (zu ((32:Int)-r))
def ZW(vb:Int)(n1:Int)(x:(List Int))(x1:Int):(Int×(List Int))→T ((Int×(List Int))⊕((List Int)))
 | (x2,xs) =>
 .ite (decide (x2<x1))
  (.zd (zi x2 x.length) <|
 .zd ((0:Int)≤vb) <|
 .zd (zi x2 xs.length) <|
 .zd (lh xs.length xs.length ((0:Nat)+(Int.toNat x2)) xs.length) <|
 .zd (zi x2 xs.length) <|
 .zd (lh xs.length xs.length ((0:Nat)+(Int.toNat x2)) xs.length) <|
 .ite (decide ((zu (x2+1))<n1))
  (.zd ((0:Int)≤(32:Int)) <|
 .zd (zi (zu (x2+1)) xs.length) <|
 .zd (lh xs.length xs.length ((0:Nat)+(Int.toNat (zu (x2+1)))) (List.length (List.set xs ((0:Nat)+(Int.toNat x2)) (gT .u32 (xp xs ((0:Nat)+(Int.toNat x2)) (zb (.int .u32))) (qG (xZ .u64 (zx (nth x x2 (zb (.int .u32)))) vb)))))) <|
 .zd (zh xs.length (0:Nat) xs.length (List.length (List.set (List.set xs ((0:Nat)+(Int.toNat x2)) (gT .u32 (xp xs ((0:Nat)+(Int.toNat x2)) (zb (.int .u32))) (qG (xZ .u64 (zx (nth x x2 (zb (.int .u32)))) vb)))) ((0:Nat)+(Int.toNat (zu (x2+1)))) (qG (xc .u64 (xZ .u64 (zx (nth x x2 (zb (.int .u32)))) vb) (32:Int)))))) <|
 .zd (xs.length=(List.length (List.set (List.set xs ((0:Nat)+(Int.toNat x2)) (gT .u32 (xp xs ((0:Nat)+(Int.toNat x2)) (zb (.int .u32))) (qG (xZ .u64 (zx (nth x x2 (zb (.int .u32)))) vb)))) ((0:Nat)+(Int.toNat (zu (x2+1)))) (qG (xc .u64 (xZ .u64 (zx (nth x x2 (zb (.int .u32)))) vb) (32:Int)))))) <|
 .ret (.inl ((zu (x2+1)),(List.set (List.set xs ((0:Nat)+(Int.toNat x2)) (gT .u32 (xp xs ((0:Nat)+(Int.toNat x2)) (zb (.int .u32))) (qG (xZ .u64 (zx (nth x x2 (zb (.int .u32)))) vb)))) ((0:Nat)+(Int.toNat (zu (x2+1)))) (qG (xc .u64 (xZ .u64 (zx (nth x x2 (zb (.int .u32)))) vb) (32:Int)))))))
  (.zd (zh xs.length (0:Nat) xs.length (List.length (List.set xs ((0:Nat)+(Int.toNat x2)) (gT .u32 (xp xs ((0:Nat)+(Int.toNat x2)) (zb (.int .u32))) (qG (xZ .u64 (zx (nth x x2 (zb (.int .u32)))) vb)))))) <|
 .zd (xs.length=(List.length (List.set xs ((0:Nat)+(Int.toNat x2)) (gT .u32 (xp xs ((0:Nat)+(Int.toNat x2)) (zb (.int .u32))) (qG (xZ .u64 (zx (nth x x2 (zb (.int .u32)))) vb)))))) <|
 .ret (.inl ((zu (x2+1)),(List.set xs ((0:Nat)+(Int.toNat x2)) (gT .u32 (xp xs ((0:Nat)+(Int.toNat x2)) (zb (.int .u32))) (qG (xZ .u64 (zx (nth x x2 (zb (.int .u32)))) vb))))))))
  (.zd (zh xs.length (0:Nat) xs.length xs.length) <|
 .zd (xs.length=xs.length) <|
 .ret (.inr xs))
def Zu vb n1 x x1 s:=T.loop (ZW vb n1 x x1) s
def iD(a:(List Int))(vk:Int)(n:Int):T (List Int) :=
 .zd (Wh n n (4:Nat)) <|
 .zd (zh (Int.toNat n) (0:Nat) (Int.toNat n) (List.length (List.replicate (Int.toNat n) (0:Int)))) <|
 .zd ((Int.toNat n)=(List.length (List.replicate (Int.toNat n) (0:Int)))) <|
 T.bind (Zu vk n a (a.length:Int) ((0:Int),(List.replicate (Int.toNat n) (0:Int)))) fun zE =>
 .zd (zh zE.length (0:Nat) zE.length zE.length) <|
 .zd (zE.length=zE.length) <|
 .ret zE
def bj(z7y:Int)(b11:Int)(b21:Int):(Int×Int)→T ((Int×Int)⊕(Int))
 | (q,r) =>
 .zd (((0:Int)≤(32:Int))∧((((xc .u64 q (32:Int)) != 0)=false)→((0:Int)≤(32:Int)))) <|
 .ite (((xc .u64 q (32:Int)) != 0)||(decide ((gT .u64 (xZ .u64 r (32:Int)) (zx z7y))<(zx (q*(zx b21))))))
  (.zd ((0:Int)≤(32:Int)) <|
 .ite ((xc .u64 (zx (r+(zx b11))) (32:Int)) != 0)
  (.ret (.inr (zx (q-1))))
  (.ret (.inl ((zx (q-1)),(zx (r+(zx b11)))))))
  (.ret (.inr q))
def QZ z7y b11 b21 s:=T.loop (bj z7y b11 b21) s
def fI(high:Int)(mid:Int)(low:Int)(b1:Int)(b2:Int):T Int :=
 .zd ((0:Int)≤(32:Int)) <|
 .zd ((zx b1)≠(0:Int)) <|
 .zd ((zx b1)≠(0:Int)) <|
 T.bind (QZ low b1 b2 ((zx (Int.tdiv (gT .u64 (xZ .u64 (zx high) (32:Int)) (zx mid)) (zx b1))),(Int.tmod (gT .u64 (xZ .u64 (zx high) (32:Int)) (zx mid)) (zx b1)))) fun q1 =>
 .ret q1
def ue(x:Int)(y:Int)(borrow:Int):T (Int×Int) :=
 .zd ((0:Int)≤(31:Int)) <|
 .ret ((qG ((qG (x-y))-borrow)),(xc .u32 (gT .u32 (FP .u32 (Ep .u32 (4294967295:Int) x) y) (FP .u32 (Ep .u32 (4294967295:Int) (Ep .u32 x y)) (qG ((qG (x-y))-borrow)))) (31:Int)))
def gj(x:Int)(y:Int)(carry:Int):T (Int×Int) :=
 .zd ((0:Int)≤(32:Int)) <|
 .ret ((qG (zx ((zx ((zx x)+(zx y)))+(zx carry)))),(qG (xc .u64 (zx ((zx ((zx x)+(zx y)))+(zx carry))) (32:Int))))
def bc(b1:(List Int))(q1:Int)(x:(List Int))(x1:Int):((Nat×Nat)×Int×Int×Int×(List Int))→T (((Nat×Nat)×Int×Int×Int×(List Int))⊕(((Nat×Nat)×Int×Int×(List Int))))
 | (u1,carry,borrow,x2,xs) =>
 .ite (decide (x2<x1))
  (.zd (zi x2 x.length) <|
 .zd (zi x2 u1.2) <|
 .zd (lh xs.length xs.length (u1.1+(Int.toNat x2)) xs.length) <|
 T.bind (ue (xp xs (u1.1+(Int.toNat x2)) (zb (.int .u32))) (qG (zx (carry+(zx (q1*(zx (nth x x2 (zb (.int .u32))))))))) borrow) fun(r,borrow1) =>
 .zd (zi x2 u1.2) <|
 .zd (lh xs.length xs.length (u1.1+(Int.toNat x2)) xs.length) <|
 .zd ((0:Int)≤(32:Int)) <|
 .zd (xs.length=xs.length) <|
 .zd (xs.length=(List.length (List.set xs (u1.1+(Int.toNat x2)) r))) <|
 .ret (.inl (u1,((xc .u64 (zx (carry+(zx (q1*(zx (nth x x2 (zb (.int .u32)))))))) (32:Int)),(borrow1,((zu (x2+1)),(List.set xs (u1.1+(Int.toNat x2)) r)))))))
  (.zd (xs.length=xs.length) <|
 .zd (xs.length=xs.length) <|
 .ret (.inr (u1,(carry,(borrow,xs)))))
def tc b1 q1 x x1 s:=T.loop (bc b1 q1 x x1) s
def bD(b2:(List Int))(x3:(List Int))(x4:Int):((Nat×Nat)×Int×Int×(List Int))→T (((Nat×Nat)×Int×Int×(List Int))⊕(((Nat×Nat)×Int×(List Int))))
 | (u3,more,x5,zV) =>
 .ite (decide (x5<x4))
  (.zd (zi x5 x3.length) <|
 .zd (zi x5 u3.2) <|
 .zd (lh zV.length zV.length (u3.1+(Int.toNat x5)) zV.length) <|
 T.bind (gj (xp zV (u3.1+(Int.toNat x5)) (zb (.int .u32))) (nth x3 x5 (zb (.int .u32))) more) fun(r2,more1) =>
 .zd (zi x5 u3.2) <|
 .zd (lh zV.length zV.length (u3.1+(Int.toNat x5)) zV.length) <|
 .zd (zV.length=zV.length) <|
 .zd (zV.length=(List.length (List.set zV (u3.1+(Int.toNat x5)) r2))) <|
 .ret (.inl (u3,(more1,((zu (x5+1)),(List.set zV (u3.1+(Int.toNat x5)) r2))))))
  (.zd (zV.length=zV.length) <|
 .zd (zV.length=zV.length) <|
 .ret (.inr (u3,(more,zV))))
def rS b2 x3 x4 s:=T.loop (bD b2 x3 x4) s
def lD(uw:(Nat×Nat))(b:(List Int))(q:Int)(u:(List Int)):T (Bool×(List Int)) :=
 .zd (u.length=u.length) <|
 .zd (u.length=u.length) <|
 T.bind (tc b q b (b.length:Int) (uw,((0:Int),((0:Int),((0:Int),u))))) fun(u2,carry1,borrow2,zE) =>
 .zd (zi (b.length:Int) u2.2) <|
 .zd (lh zE.length zE.length (u2.1+(Int.toNat (b.length:Int))) zE.length) <|
 T.bind (ue (xp zE (u2.1+(Int.toNat (b.length:Int))) (zb (.int .u32))) (qG carry1) borrow2) fun(r1,borrow3) =>
 .zd (zi (b.length:Int) u2.2) <|
 .zd (lh zE.length zE.length (u2.1+(Int.toNat (b.length:Int))) zE.length) <|
 .ite (borrow3==0)
  (.zd (zE.length=(List.length (List.set zE (u2.1+(Int.toNat (b.length:Int))) r1))) <|
 .ret (false,(List.set zE (u2.1+(Int.toNat (b.length:Int))) r1)))
  (.zd (zE.length=zE.length) <|
 .zd (zE.length=(List.length (List.set zE (u2.1+(Int.toNat (b.length:Int))) r1))) <|
 T.bind (rS b b (b.length:Int) (u2,((0:Int),((0:Int),(List.set zE (u2.1+(Int.toNat (b.length:Int))) r1))))) fun(u4,more2,qM) =>
 .zd (zi (b.length:Int) u4.2) <|
 .zd (lh qM.length qM.length (u4.1+(Int.toNat (b.length:Int))) qM.length) <|
 .zd (zi (b.length:Int) u4.2) <|
 .zd (lh qM.length qM.length (u4.1+(Int.toNat (b.length:Int))) qM.length) <|
 .zd (qM.length=(List.length (List.set qM (u4.1+(Int.toNat (b.length:Int))) (qG ((xp qM (u4.1+(Int.toNat (b.length:Int))) (zb (.int .u32)))+more2))))) <|
 .ret (true,(List.set qM (u4.1+(Int.toNat (b.length:Int))) (qG ((xp qM (u4.1+(Int.toNat (b.length:Int))) (zb (.int .u32)))+more2)))))
def dM(vb:Int)(n1:Int)(x:(List Int))(x1:Int):(Int×(List Int))→T ((Int×(List Int))⊕((List Int)))
 | (x2,xs) =>
 .ite (decide (x2<x1))
  (.zd (zi x2 x.length) <|
 .zd ((0:Int)≤vb) <|
 .zd (zi x2 xs.length) <|
 .zd (lh xs.length xs.length ((0:Nat)+(Int.toNat x2)) xs.length) <|
 .zd (zi x2 xs.length) <|
 .zd (lh xs.length xs.length ((0:Nat)+(Int.toNat x2)) xs.length) <|
 .ite (decide ((zu (x2+1))<n1))
  (.zd ((0:Int)≤(32:Int)) <|
 .zd (zi (zu (x2+1)) xs.length) <|
 .zd (lh xs.length xs.length ((0:Nat)+(Int.toNat (zu (x2+1)))) (List.length (List.set xs ((0:Nat)+(Int.toNat x2)) (gT .u32 (xp xs ((0:Nat)+(Int.toNat x2)) (zb (.int .u32))) (qG (xZ .u64 (zx (nth x x2 (zb (.int .u32)))) vb)))))) <|
 .zd (zh xs.length (0:Nat) xs.length (List.length (List.set (List.set xs ((0:Nat)+(Int.toNat x2)) (gT .u32 (xp xs ((0:Nat)+(Int.toNat x2)) (zb (.int .u32))) (qG (xZ .u64 (zx (nth x x2 (zb (.int .u32)))) vb)))) ((0:Nat)+(Int.toNat (zu (x2+1)))) (qG (xc .u64 (xZ .u64 (zx (nth x x2 (zb (.int .u32)))) vb) (32:Int)))))) <|
 .zd (xs.length=(List.length (List.set (List.set xs ((0:Nat)+(Int.toNat x2)) (gT .u32 (xp xs ((0:Nat)+(Int.toNat x2)) (zb (.int .u32))) (qG (xZ .u64 (zx (nth x x2 (zb (.int .u32)))) vb)))) ((0:Nat)+(Int.toNat (zu (x2+1)))) (qG (xc .u64 (xZ .u64 (zx (nth x x2 (zb (.int .u32)))) vb) (32:Int)))))) <|
 .ret (.inl ((zu (x2+1)),(List.set (List.set xs ((0:Nat)+(Int.toNat x2)) (gT .u32 (xp xs ((0:Nat)+(Int.toNat x2)) (zb (.int .u32))) (qG (xZ .u64 (zx (nth x x2 (zb (.int .u32)))) vb)))) ((0:Nat)+(Int.toNat (zu (x2+1)))) (qG (xc .u64 (xZ .u64 (zx (nth x x2 (zb (.int .u32)))) vb) (32:Int)))))))
  (.zd (zh xs.length (0:Nat) xs.length (List.length (List.set xs ((0:Nat)+(Int.toNat x2)) (gT .u32 (xp xs ((0:Nat)+(Int.toNat x2)) (zb (.int .u32))) (qG (xZ .u64 (zx (nth x x2 (zb (.int .u32)))) vb)))))) <|
 .zd (xs.length=(List.length (List.set xs ((0:Nat)+(Int.toNat x2)) (gT .u32 (xp xs ((0:Nat)+(Int.toNat x2)) (zb (.int .u32))) (qG (xZ .u64 (zx (nth x x2 (zb (.int .u32)))) vb)))))) <|
 .ret (.inl ((zu (x2+1)),(List.set xs ((0:Nat)+(Int.toNat x2)) (gT .u32 (xp xs ((0:Nat)+(Int.toNat x2)) (zb (.int .u32))) (qG (xZ .u64 (zx (nth x x2 (zb (.int .u32)))) vb))))))))
  (.zd (zh xs.length (0:Nat) xs.length xs.length) <|
 .zd (xs.length=xs.length) <|
 .ret (.inr xs))
def U5 vb n1 x x1 s:=T.loop (dM vb n1 x x1) s
def XE(a:(List Int))(vk:Int)(n:Int):T (List Int) :=
 .zd (Wh n n (4:Nat)) <|
 .zd (zh (Int.toNat n) (0:Nat) (Int.toNat n) (List.length (List.replicate (Int.toNat n) (0:Int)))) <|
 .zd ((Int.toNat n)=(List.length (List.replicate (Int.toNat n) (0:Int)))) <|
 T.bind (U5 vk n a (a.length:Int) ((0:Int),(List.replicate (Int.toNat n) (0:Int)))) fun zE =>
 .zd (zE.length=zE.length) <|
 .ret (List.drop (0:Nat) (List.take ((0:Nat)+zE.length) zE))
def bp(vk:Int)(x:(List Int))(x1:Int):(Int×(List Int))→T ((Int×(List Int))⊕((List Int)))
 | (x2,xs) =>
 .ite (decide (x2<x1))
  (.zd (zi x2 x.length) <|
 .zd ((0:Int)≤(32:Int)) <|
 .zd ((0:Int)≤vk) <|
 .zd (zi x2 xs.length) <|
 .zd (lh xs.length xs.length ((0:Nat)+(Int.toNat x2)) xs.length) <|
 .zd ((0:Int)≤(32:Int)) <|
 .zd (zi x2 xs.length) <|
 .zd (lh xs.length xs.length ((0:Nat)+(Int.toNat x2)) xs.length) <|
 .ite (decide ((0:Int)<x2))
  (.zd (zi (zu (x2-1)) xs.length) <|
 .zd (lh xs.length xs.length ((0:Nat)+(Int.toNat (zu (x2-1)))) (List.length (List.set xs ((0:Nat)+(Int.toNat x2)) (gT .u32 (xp xs ((0:Nat)+(Int.toNat x2)) (zb (.int .u32))) (qG (xc .u64 (xc .u64 (xZ .u64 (zx (nth x x2 (zb (.int .u32)))) (32:Int)) vk) (32:Int))))))) <|
 .zd (zi (zu (x2-1)) xs.length) <|
 .zd (lh xs.length xs.length ((0:Nat)+(Int.toNat (zu (x2-1)))) (List.length (List.set xs ((0:Nat)+(Int.toNat x2)) (gT .u32 (xp xs ((0:Nat)+(Int.toNat x2)) (zb (.int .u32))) (qG (xc .u64 (xc .u64 (xZ .u64 (zx (nth x x2 (zb (.int .u32)))) (32:Int)) vk) (32:Int))))))) <|
 .zd (zh xs.length (0:Nat) xs.length (List.length (List.set (List.set xs ((0:Nat)+(Int.toNat x2)) (gT .u32 (xp xs ((0:Nat)+(Int.toNat x2)) (zb (.int .u32))) (qG (xc .u64 (xc .u64 (xZ .u64 (zx (nth x x2 (zb (.int .u32)))) (32:Int)) vk) (32:Int))))) ((0:Nat)+(Int.toNat (zu (x2-1)))) (gT .u32 (xp (List.set xs ((0:Nat)+(Int.toNat x2)) (gT .u32 (xp xs ((0:Nat)+(Int.toNat x2)) (zb (.int .u32))) (qG (xc .u64 (xc .u64 (xZ .u64 (zx (nth x x2 (zb (.int .u32)))) (32:Int)) vk) (32:Int))))) ((0:Nat)+(Int.toNat (zu (x2-1)))) (zb (.int .u32))) (qG (xc .u64 (xZ .u64 (zx (nth x x2 (zb (.int .u32)))) (32:Int)) vk)))))) <|
 .zd (xs.length=(List.length (List.set (List.set xs ((0:Nat)+(Int.toNat x2)) (gT .u32 (xp xs ((0:Nat)+(Int.toNat x2)) (zb (.int .u32))) (qG (xc .u64 (xc .u64 (xZ .u64 (zx (nth x x2 (zb (.int .u32)))) (32:Int)) vk) (32:Int))))) ((0:Nat)+(Int.toNat (zu (x2-1)))) (gT .u32 (xp (List.set xs ((0:Nat)+(Int.toNat x2)) (gT .u32 (xp xs ((0:Nat)+(Int.toNat x2)) (zb (.int .u32))) (qG (xc .u64 (xc .u64 (xZ .u64 (zx (nth x x2 (zb (.int .u32)))) (32:Int)) vk) (32:Int))))) ((0:Nat)+(Int.toNat (zu (x2-1)))) (zb (.int .u32))) (qG (xc .u64 (xZ .u64 (zx (nth x x2 (zb (.int .u32)))) (32:Int)) vk)))))) <|
 .ret (.inl ((zu (x2+1)),(List.set (List.set xs ((0:Nat)+(Int.toNat x2)) (gT .u32 (xp xs ((0:Nat)+(Int.toNat x2)) (zb (.int .u32))) (qG (xc .u64 (xc .u64 (xZ .u64 (zx (nth x x2 (zb (.int .u32)))) (32:Int)) vk) (32:Int))))) ((0:Nat)+(Int.toNat (zu (x2-1)))) (gT .u32 (xp (List.set xs ((0:Nat)+(Int.toNat x2)) (gT .u32 (xp xs ((0:Nat)+(Int.toNat x2)) (zb (.int .u32))) (qG (xc .u64 (xc .u64 (xZ .u64 (zx (nth x x2 (zb (.int .u32)))) (32:Int)) vk) (32:Int))))) ((0:Nat)+(Int.toNat (zu (x2-1)))) (zb (.int .u32))) (qG (xc .u64 (xZ .u64 (zx (nth x x2 (zb (.int .u32)))) (32:Int)) vk)))))))
  (.zd (zh xs.length (0:Nat) xs.length (List.length (List.set xs ((0:Nat)+(Int.toNat x2)) (gT .u32 (xp xs ((0:Nat)+(Int.toNat x2)) (zb (.int .u32))) (qG (xc .u64 (xc .u64 (xZ .u64 (zx (nth x x2 (zb (.int .u32)))) (32:Int)) vk) (32:Int))))))) <|
 .zd (xs.length=(List.length (List.set xs ((0:Nat)+(Int.toNat x2)) (gT .u32 (xp xs ((0:Nat)+(Int.toNat x2)) (zb (.int .u32))) (qG (xc .u64 (xc .u64 (xZ .u64 (zx (nth x x2 (zb (.int .u32)))) (32:Int)) vk) (32:Int))))))) <|
 .ret (.inl ((zu (x2+1)),(List.set xs ((0:Nat)+(Int.toNat x2)) (gT .u32 (xp xs ((0:Nat)+(Int.toNat x2)) (zb (.int .u32))) (qG (xc .u64 (xc .u64 (xZ .u64 (zx (nth x x2 (zb (.int .u32)))) (32:Int)) vk) (32:Int)))))))))
  (.zd (zh xs.length (0:Nat) xs.length xs.length) <|
 .zd (xs.length=xs.length) <|
 .ret (.inr xs))
def Xe vk x x1 s:=T.loop (bp vk x x1) s
def cu(a:(List Int))(n:Int):T (List Int) :=
 T.bind (xN a) fun a1 =>
 .ite (decide ((wT (wc n (-4096:Int)) (4096:Int))<(0:Int)))
  (.zd ((32:Int)≠(0:Int)) <|
 .ite (decide ((a1.length:Int)≤(zu (Int.tdiv (zu ((0:Int)-(wT (wc n (-4096:Int)) (4096:Int)))) (32:Int)))))
  (.ret ([]:List Int))
  (.zd ((32:Int)≠(0:Int)) <|
 .zd (Wh (zu ((a1.length:Int)-(zu (Int.tdiv (zu ((0:Int)-(wT (wc n (-4096:Int)) (4096:Int)))) (32:Int))))) (zu ((a1.length:Int)-(zu (Int.tdiv (zu ((0:Int)-(wT (wc n (-4096:Int)) (4096:Int)))) (32:Int))))) (4:Nat)) <|
 .zd (nj (zu (Int.tdiv (zu ((0:Int)-(wT (wc n (-4096:Int)) (4096:Int)))) (32:Int))) (a1.length:Int) a1.length) <|
 .zd (zh (Int.toNat (zu ((a1.length:Int)-(zu (Int.tdiv (zu ((0:Int)-(wT (wc n (-4096:Int)) (4096:Int)))) (32:Int)))))) (0:Nat) (Int.toNat (zu ((a1.length:Int)-(zu (Int.tdiv (zu ((0:Int)-(wT (wc n (-4096:Int)) (4096:Int)))) (32:Int)))))) (List.length (List.replicate (Int.toNat (zu ((a1.length:Int)-(zu (Int.tdiv (zu ((0:Int)-(wT (wc n (-4096:Int)) (4096:Int)))) (32:Int)))))) (0:Int)))) <|
 .zd ((Int.toNat (zu ((a1.length:Int)-(zu (Int.tdiv (zu ((0:Int)-(wT (wc n (-4096:Int)) (4096:Int)))) (32:Int))))))=(List.length (List.replicate (Int.toNat (zu ((a1.length:Int)-(zu (Int.tdiv (zu ((0:Int)-(wT (wc n (-4096:Int)) (4096:Int)))) (32:Int)))))) (0:Int)))) <|
 T.bind (Xe (zx (Int.tmod (zu ((0:Int)-(wT (wc n (-4096:Int)) (4096:Int)))) (32:Int))) (uz (e:=(.int .u32)) (zu (Int.tdiv (zu ((0:Int)-(wT (wc n (-4096:Int)) (4096:Int)))) (32:Int))) (a1.length:Int) a1) (Nat.cast (List.length (uz (e:=(.int .u32)) (zu (Int.tdiv (zu ((0:Int)-(wT (wc n (-4096:Int)) (4096:Int)))) (32:Int))) (a1.length:Int) a1)):Int) ((0:Int),(List.replicate (Int.toNat (zu ((a1.length:Int)-(zu (Int.tdiv (zu ((0:Int)-(wT (wc n (-4096:Int)) (4096:Int)))) (32:Int)))))) (0:Int)))) fun zE =>
 .zd (zE.length=zE.length) <|
 T.bind (xN (List.drop (0:Nat) (List.take ((0:Nat)+zE.length) zE))) fun r =>
 .ret r))
  (.zd ((32:Int)≠(0:Int)) <|
 .zd (Wh (zu ((zu ((zu (Int.tdiv (wT (wc n (-4096:Int)) (4096:Int)) (32:Int)))+(a1.length:Int)))+1)) (zu ((zu ((zu (Int.tdiv (wT (wc n (-4096:Int)) (4096:Int)) (32:Int)))+(a1.length:Int)))+1)) (4:Nat)) <|
 .zd (nj (zu (Int.tdiv (wT (wc n (-4096:Int)) (4096:Int)) (32:Int))) (Nat.cast (Int.toNat (zu ((zu ((zu (Int.tdiv (wT (wc n (-4096:Int)) (4096:Int)) (32:Int)))+(a1.length:Int)))+1))):Int) (Int.toNat (zu ((zu ((zu (Int.tdiv (wT (wc n (-4096:Int)) (4096:Int)) (32:Int)))+(a1.length:Int)))+1)))) <|
 .zd ((32:Int)≠(0:Int)) <|
 T.bind (XE a1 (zx (Int.tmod (wT (wc n (-4096:Int)) (4096:Int)) (32:Int))) (zu ((a1.length:Int)+(1:Int)))) fun r1 =>
 .zd (z5g (Int.toNat (zu ((zu ((zu (Int.tdiv (wT (wc n (-4096:Int)) (4096:Int)) (32:Int)))+(a1.length:Int)))+1))) (Int.toNat (zu ((zu ((zu (Int.tdiv (wT (wc n (-4096:Int)) (4096:Int)) (32:Int)))+(a1.length:Int)))+1))) ((0:Nat)+(Int.toNat (zu (Int.tdiv (wT (wc n (-4096:Int)) (4096:Int)) (32:Int))))) ((Int.toNat (Nat.cast (Int.toNat (zu ((zu ((zu (Int.tdiv (wT (wc n (-4096:Int)) (4096:Int)) (32:Int)))+(a1.length:Int)))+1))):Int))-(Int.toNat (zu (Int.tdiv (wT (wc n (-4096:Int)) (4096:Int)) (32:Int))))) (List.length (List.replicate (Int.toNat (zu ((zu ((zu (Int.tdiv (wT (wc n (-4096:Int)) (4096:Int)) (32:Int)))+(a1.length:Int)))+1))) (0:Int)))) <|
 .zd ((Int.toNat (zu ((zu ((zu (Int.tdiv (wT (wc n (-4096:Int)) (4096:Int)) (32:Int)))+(a1.length:Int)))+1)))=(Int.toNat (zu ((zu ((zu (Int.tdiv (wT (wc n (-4096:Int)) (4096:Int)) (32:Int)))+(a1.length:Int)))+1)))) <|
 T.bind (xN (List.drop (0:Nat) (List.take ((0:Nat)+(Int.toNat (zu ((zu ((zu (Int.tdiv (wT (wc n (-4096:Int)) (4096:Int)) (32:Int)))+(a1.length:Int)))+1)))) (ym ((0:Nat)+(Int.toNat (zu (Int.tdiv (wT (wc n (-4096:Int)) (4096:Int)) (32:Int))))) ((Int.toNat (Nat.cast (Int.toNat (zu ((zu ((zu (Int.tdiv (wT (wc n (-4096:Int)) (4096:Int)) (32:Int)))+(a1.length:Int)))+1))):Int))-(Int.toNat (zu (Int.tdiv (wT (wc n (-4096:Int)) (4096:Int)) (32:Int))))) (List.replicate (Int.toNat (zu ((zu ((zu (Int.tdiv (wT (wc n (-4096:Int)) (4096:Int)) (32:Int)))+(a1.length:Int)))+1))) (0:Int)) r1)))) fun r2 =>
 .ret r2)
def dF(vk:Int)(d:(List Int))(n:Int):(Int×(List Int)×(List Int))→T ((Int×(List Int)×(List Int))⊕(((List Int)×(List Int))))
 | (i,zV,qM) =>
 .ite (decide ((0:Int)≤i))
  (.zd (zi (zu (i+n)) zV.length) <|
 .zd (lh zV.length zV.length ((0:Nat)+(Int.toNat (zu (i+n)))) zV.length) <|
 .zd (zi (zu ((zu (i+n))-1)) zV.length) <|
 .zd (lh zV.length zV.length ((0:Nat)+(Int.toNat (zu ((zu (i+n))-1)))) zV.length) <|
 .zd (zi (zu ((zu (i+n))-2)) zV.length) <|
 .zd (lh zV.length zV.length ((0:Nat)+(Int.toNat (zu ((zu (i+n))-2)))) zV.length) <|
 .zd (zi (zu (n-1)) d.length) <|
 .zd (zi (zu (n-2)) d.length) <|
 T.bind (fI (xp zV ((0:Nat)+(Int.toNat (zu (i+n)))) (zb (.int .u32))) (xp zV ((0:Nat)+(Int.toNat (zu ((zu (i+n))-1)))) (zb (.int .u32))) (xp zV ((0:Nat)+(Int.toNat (zu ((zu (i+n))-2)))) (zb (.int .u32))) (nth d (zu (n-1)) (zb (.int .u32))) (nth d (zu (n-2)) (zb (.int .u32)))) fun x =>
 T.bind (.zd (nj i (zu ((zu (i+n))+1)) zV.length) <|
 .zd (zV.length=zV.length) <|
 .zd (zV.length=zV.length) <|
 T.bind (lD (((0:Nat)+(Int.toNat i)),((Int.toNat (zu ((zu (i+n))+1)))-(Int.toNat i))) d x zV) fun(r1,u) =>
 .ite r1
  (.zd (zh qM.length (0:Nat) qM.length qM.length) <|
 .zd (zh zV.length (0:Nat) zV.length u.length) <|
 .zd (u.length=u.length) <|
 .zd (qM.length=qM.length) <|
 .ret ((zx (x-1)),(u,qM)))
  (.zd (zh qM.length (0:Nat) qM.length qM.length) <|
 .zd (zh zV.length (0:Nat) zV.length u.length) <|
 .zd (u.length=u.length) <|
 .zd (qM.length=qM.length) <|
 .ret (x,(u,qM))):T ((Int×(List Int)×(List Int)))) fun(x1,vj,jd) =>
 .zd (zi i jd.length) <|
 .zd (lh jd.length jd.length ((0:Nat)+(Int.toNat i)) jd.length) <|
 .zd (zh jd.length (0:Nat) jd.length (List.length (List.set jd ((0:Nat)+(Int.toNat i)) (qG x1)))) <|
 .zd (zh vj.length (0:Nat) vj.length vj.length) <|
 .zd (vj.length=vj.length) <|
 .zd (jd.length=(List.length (List.set jd ((0:Nat)+(Int.toNat i)) (qG x1)))) <|
 .ret (.inl ((zu (i-1)),(vj,(List.set jd ((0:Nat)+(Int.toNat i)) (qG x1))))))
  (.zd (zh qM.length (0:Nat) qM.length qM.length) <|
 .zd (zh zV.length (0:Nat) zV.length zV.length) <|
 .zd (zV.length=zV.length) <|
 .zd (qM.length=qM.length) <|
 .ret (.inr (zV,qM)))
def Ua vk d n s:=T.loop (dF vk d n) s
def XM(a:(List Int))(b:(List Int)):T ((List Int)×(List Int)) :=
 .zd (zi (zu ((b.length:Int)-(1:Int))) b.length) <|
 T.bind (wW (nth b (zu ((b.length:Int)-(1:Int))) (zb (.int .u32)))) fun r =>
 T.bind (iD a (zx r) (zu ((a.length:Int)+(1:Int)))) fun xs =>
 T.bind (iD b (zx r) (b.length:Int)) fun zE =>
 .zd (Wh (zu ((zu ((a.length:Int)-(zE.length:Int)))+1)) (zu ((zu ((a.length:Int)-(zE.length:Int)))+1)) (4:Nat)) <|
 .zd (zE.length=zE.length) <|
 .zd (zh (Int.toNat (zu ((zu ((a.length:Int)-(zE.length:Int)))+1))) (0:Nat) (Int.toNat (zu ((zu ((a.length:Int)-(zE.length:Int)))+1))) (List.length (List.replicate (Int.toNat (zu ((zu ((a.length:Int)-(zE.length:Int)))+1))) (0:Int)))) <|
 .zd (zh xs.length (0:Nat) xs.length xs.length) <|
 .zd (xs.length=xs.length) <|
 .zd ((Int.toNat (zu ((zu ((a.length:Int)-(zE.length:Int)))+1)))=(List.length (List.replicate (Int.toNat (zu ((zu ((a.length:Int)-(zE.length:Int)))+1))) (0:Int)))) <|
 T.bind (Ua (zx r) (List.drop (0:Nat) (List.take ((0:Nat)+zE.length) zE)) (zE.length:Int) ((zu ((Nat.cast (Int.toNat (zu ((zu ((a.length:Int)-(zE.length:Int)))+1))):Int)-(1:Int))),(xs,(List.replicate (Int.toNat (zu ((zu ((a.length:Int)-(zE.length:Int)))+1))) (0:Int))))) fun(xs6,vP) =>
 .zd (vP.length=vP.length) <|
 .zd (xs6.length=xs6.length) <|
 T.bind (xN (List.drop (0:Nat) (List.take ((0:Nat)+vP.length) vP))) fun q1 =>
 .zd (nj (0:Int) (zE.length:Int) (List.length (List.drop (0:Nat) (List.take ((0:Nat)+xs6.length) xs6)))) <|
 T.bind (cu (uz (e:=(.int .u32)) (0:Int) (zE.length:Int) (List.drop (0:Nat) (List.take ((0:Nat)+xs6.length) xs6))) (zu ((0:Int)-(zu (zx r))))) fun r2 =>
 .ret (q1,r2)
def gx(a:(List Int))(b:(List Int)):T ((List Int)×(List Int)×Bool) :=
 T.bind (xN a) fun a1 =>
 T.bind (xN b) fun b1 =>
 .ite ((b1.length:Int)==(0:Int))
  (.ret (([]:List Int),(([]:List Int),false)))
  (T.bind (lX a1 b1) fun r =>
 .ite (decide (r<(0:Int)))
  (T.bind (b8 a1) fun r1 =>
 .ret (([]:List Int),(r1,true)))
  (.ite ((b1.length:Int)==(1:Int))
  (.zd (zi (0:Int) b1.length) <|
 T.bind (fD a1 (nth b1 (0:Int) (zb (.int .u32)))) fun(q,rest) =>
 T.bind (jV (zx rest)) fun r2 =>
 .ret (q,(r2,true)))
  (T.bind (XM a1 b1) fun(q1,r3) =>
 .ret (q1,(r3,true)))))
def iY  : ((List Int)×(List Int))→T (((List Int)×(List Int))⊕((List Int)))
 | (a2,b2) =>
 .ite (decide ((0:Int)<(b2.length:Int)))
  (T.bind (gx a2 b2) fun(r,r1,r2) =>
 .ret (.inl (b2,r1)))
  (.ret (.inr a2))
def Jj(s:((List Int)×(List Int))):T ((List Int)):=T.loop (iY ) s
def Xx(a:(List Int))(b:(List Int)):T (List Int) :=
 T.bind (b8 a) fun a1 =>
 T.bind (b8 b) fun b1 =>
 T.bind (Jj  (a1,b1)) fun a3 =>
 .ret a3
def ta(a:Rat):T Bool :=
 T.bind (T.bind (lg a.2.1) fun r =>
 .ite (!r)
  (.ret true)
  (T.bind (lg a.2.2.1) fun r1 =>
 .ite (!r1)
  (.ret true)
  (.ite ((a.2.2.1.length:Int)==(0:Int))
  (.ret true)
  (.ite a.1
  (.ret ((a.2.1.length:Int)==(0:Int)))
  (.ret false)))):T (Bool)) fun x =>
 .ite x
  (.ret false)
  (T.bind (Xx a.2.1 a.2.2.1) fun r2 =>
 T.bind (jV (1:Int)) fun r3 =>
 T.bind (lX r2 r3) fun r4 =>
 .ret (r4==0))
def pj(neg:Bool)(n:(List Int))(d:(List Int)):T Rat :=
 T.bind (b8 n) fun n1 =>
 T.bind (b8 d) fun d1 =>
 .ite (((n1.length:Int)==(0:Int))||((d1.length:Int)==(0:Int)))
  (T.bind (jV (1:Int)) fun r =>
 .ret (false,(([]:List Int),(r,()))))
  (T.bind (Xx n1 d1) fun g =>
 T.bind (gx n1 g) fun(n2,r1,r2) =>
 T.bind (gx d1 g) fun(d2,r3,r4) =>
 .ret (neg,(n2,(d2,()))))
def xV(a:Rat):T Rat :=
 T.bind (pj a.1 a.2.1 a.2.2.1) fun r =>
 .ret r
def uX(a:Rat):T Bool :=
 T.bind (xV a) fun r =>
 .ret ((decide ((16:Int)<(r.2.1.length:Int)))||(decide ((16:Int)<(r.2.2.1.length:Int))))
def vI(p:Param):T Bool :=
 T.bind (uO p.1) fun r =>
 .ite (!r)
  (.ret true)
  (T.bind (ta p.2.1) fun r1 =>
 .ite (!r1)
  (.ret true)
  (T.bind (uX p.2.1) fun r2 =>
 .ret r2))
def xa(s1:(List Param))(f:Param→T Bool)(x:Int):Int→T (Int⊕(Unit⊕Int))
 | x1 =>
 .ite (decide (x1<x))
  (.zd (zi x1 s1.length) <|
 T.bind (f (nth s1 x1 (zb q8))) fun r =>
 .ite r
  (.ret (.inr (.inr x1)))
  (.ret (.inl (zu (x1+1)))))
  (.ret (.inr (.inl ())))
def js s1 f x s:=T.loop (xa s1 f x) s
def xT(s:(List Param))(f:Param→T Bool):T Int :=
 T.bind (js s f (s.length:Int) (0:Int)) <|
 Sum.elim (fun _ =>
 .ret (-1:Int))
  (fun x2 =>
 .ret x2)
def qH(s:(List Param))(f:Param→T Bool):T Bool :=
 T.bind (xT s f) fun r =>
 .ret (decide ((0:Int)≤r))
def kV(s:zf):T Bool :=
 .ite (zM s ([]:zf))
  (.ret true)
  (T.bind (uO s) fun r =>
 .ret r)
def vK(p:tr):T Bool :=
 T.bind (uO p.1) fun r =>
 .ite (!r)
  (.ret true)
  (T.bind (kV p.2.1) fun r1 =>
 .ret (!r1))
def xK(s1:(List tr))(f:tr→T Bool)(x:Int):Int→T (Int⊕(Unit⊕Int))
 | x1 =>
 .ite (decide (x1<x))
  (.zd (zi x1 s1.length) <|
 T.bind (f (nth s1 x1 (zb qy))) fun r =>
 .ite r
  (.ret (.inr (.inr x1)))
  (.ret (.inl (zu (x1+1)))))
  (.ret (.inr (.inl ())))
def jK s1 f x s:=T.loop (xK s1 f x) s
def wR(s:(List tr))(f:tr→T Bool):T Int :=
 T.bind (jK s f (s.length:Int) (0:Int)) <|
 Sum.elim (fun _ =>
 .ret (-1:Int))
  (fun x2 =>
 .ret x2)
def xI(s:(List tr))(f:tr→T Bool):T Bool :=
 T.bind (wR s f) fun r =>
 .ret (decide ((0:Int)≤r))
def lN(f:Form):T Bool :=
 T.bind (qD f.1 (fun z0=>vC z0)) fun r =>
 .ite (!r)
  (T.bind (qH f.2.1 (fun z0=>vI z0)) fun r1 =>
 .ite (!r1)
  (T.bind (xI f.2.2.1 (fun z0=>vK z0)) fun r2 =>
 .ret (!r2))
  (.ret false))
  (.ret false)
def bA(za3:Int)(ahead:Int)(zcu:Int):T Bool :=
 .ret ((decide ((wc ahead (0:Int))≤za3))&&(decide (za3<zcu)))
def jr(f1:Form)(x:(List Field))(x1:Int):(Int×Int)→T ((Int×Int)⊕(Unit⊕Bool))
 | (ahead,x2) =>
 .ite (decide (x2<x1))
  (.zd (zi x2 x.length) <|
 T.bind (T.bind (uO (nth x x2 (zb qc)).1) fun r =>
 .ite (!r)
  (.ret (true,(nth x x2 (zb qc))))
  (T.bind (bA (nth x x2 (zb qc)).2.1 ahead (f1.2.2.1.length:Int)) fun r1 =>
 .ite (!r1)
  (.ret (true,(nth x x2 (zb qc))))
  (.ite (decide ((nth x x2 (zb qc)).2.2.2.1<(0:Int)))
  (.ret (true,(nth x x2 (zb qc))))
  (.ret ((decide ((9:Int)<(nth x x2 (zb qc)).2.2.2.1)),(nth x x2 (zb qc)))))):T ((Bool×Field))) fun(x3,v) =>
 .ite x3
  (.ret (.inr (.inr false)))
  (.ret (.inl (v.2.1,(zu (x2+1))))))
  (.ret (.inr (.inl ())))
def pH f1 x x1 s:=T.loop (jr f1 x x1) s
def fe(f:Form):T Bool :=
 T.bind (pH f f.2.2.2.1 (f.2.2.2.1.length:Int) ((0:Int),(0:Int))) <|
 Sum.elim (fun _ =>
 .ret true)
  (fun x4 =>
 .ret x4)
def uY  : T (List zf) :=
 .ret ([([61]:zf),([60]:zf),([60,61]:zf)]:List zf)
def tF(kind:Int):T Int :=
 .ite (bif (kind==1)then(kind==1)else(kind==2))
  (.ret (0:Int))
  (.ite (kind==7)
  (.ret (1:Int))
  (.ite (kind==3)
  (.ret (2:Int))
  (.ite (kind==4)
  (.ret (2:Int))
  (.ite (kind==5)
  (.ret (2:Int))
  (.ite (kind==6)
  (.ret (2:Int))
  (.ret (-1:Int)))))))
def pc(b3:(List Int))(i:Int)(v:Int)(x3:(List Int))(x4:Int)(x5:Int)(x6:(List Int))(x7:Int):(Int×Int×(List Int))→T ((Int×Int×(List Int))⊕((Int×(List Int))))
 | (carry,x8,zE) =>
 .ite (decide (x8<x7))
  (.zd (zi x8 x6.length) <|
 .zd (zi (zu (i+x8)) zE.length) <|
 .zd (lh zE.length zE.length ((0:Nat)+(Int.toNat (zu (i+x8)))) zE.length) <|
 .zd (zi (zu (i+x8)) zE.length) <|
 .zd (lh zE.length zE.length ((0:Nat)+(Int.toNat (zu (i+x8)))) zE.length) <|
 .zd ((0:Int)≤(32:Int)) <|
 .zd (zh zE.length (0:Nat) zE.length (List.length (List.set zE ((0:Nat)+(Int.toNat (zu (i+x8)))) (qG (zx (carry+(zx ((zx ((zx v)*(zx (nth x6 x8 (zb (.int .u32))))))+(zx (xp zE ((0:Nat)+(Int.toNat (zu (i+x8)))) (zb (.int .u32)))))))))))) <|
 .zd (zE.length=(List.length (List.set zE ((0:Nat)+(Int.toNat (zu (i+x8)))) (qG (zx (carry+(zx ((zx ((zx v)*(zx (nth x6 x8 (zb (.int .u32))))))+(zx (xp zE ((0:Nat)+(Int.toNat (zu (i+x8)))) (zb (.int .u32)))))))))))) <|
 .ret (.inl ((xc .u64 (zx (carry+(zx ((zx ((zx v)*(zx (nth x6 x8 (zb (.int .u32))))))+(zx (xp zE ((0:Nat)+(Int.toNat (zu (i+x8)))) (zb (.int .u32)))))))) (32:Int)),((zu (x8+1)),(List.set zE ((0:Nat)+(Int.toNat (zu (i+x8)))) (qG (zx (carry+(zx ((zx ((zx v)*(zx (nth x6 x8 (zb (.int .u32))))))+(zx (xp zE ((0:Nat)+(Int.toNat (zu (i+x8)))) (zb (.int .u32))))))))))))))
  (.zd (zh zE.length (0:Nat) zE.length zE.length) <|
 .zd (zE.length=zE.length) <|
 .ret (.inr (carry,zE)))
def JP b3 i v x3 x4 x5 x6 x7 s:=T.loop (pc b3 i v x3 x4 x5 x6 x7) s
def pw(b2:(List Int))(x:(List Int))(x1:Int):(Int×(List Int))→T ((Int×(List Int))⊕((List Int)))
 | (x2,xs) =>
 .ite (decide (x2<x1))
  (.zd (zi x2 x.length) <|
 .zd (zh xs.length (0:Nat) xs.length xs.length) <|
 .zd (xs.length=xs.length) <|
 T.bind (JP b2 x2 (nth x x2 (zb (.int .u32))) x x1 x2 b2 (b2.length:Int) ((0:Int),((0:Int),xs))) fun(carry1,zV) =>
 .zd (zi (zu (x2+(b2.length:Int))) zV.length) <|
 .zd (lh zV.length zV.length ((0:Nat)+(Int.toNat (zu (x2+(b2.length:Int))))) zV.length) <|
 .zd (zh zV.length (0:Nat) zV.length (List.length (List.set zV ((0:Nat)+(Int.toNat (zu (x2+(b2.length:Int))))) (qG carry1)))) <|
 .zd (zV.length=(List.length (List.set zV ((0:Nat)+(Int.toNat (zu (x2+(b2.length:Int))))) (qG carry1)))) <|
 .ret (.inl ((zu (x2+1)),(List.set zV ((0:Nat)+(Int.toNat (zu (x2+(b2.length:Int))))) (qG carry1)))))
  (.zd (zh xs.length (0:Nat) xs.length xs.length) <|
 .zd (xs.length=xs.length) <|
 .ret (.inr xs))
def JY b2 x x1 s:=T.loop (pw b2 x x1) s
def bZ(a:(List Int))(b:(List Int)):T (List Int) :=
 T.bind (xN a) fun a1 =>
 T.bind (xN b) fun b1 =>
 .zd (Wh (zu ((a1.length:Int)+(b1.length:Int))) (zu ((a1.length:Int)+(b1.length:Int))) (4:Nat)) <|
 .zd (zh (Int.toNat (zu ((a1.length:Int)+(b1.length:Int)))) (0:Nat) (Int.toNat (zu ((a1.length:Int)+(b1.length:Int)))) (List.length (List.replicate (Int.toNat (zu ((a1.length:Int)+(b1.length:Int)))) (0:Int)))) <|
 .zd ((Int.toNat (zu ((a1.length:Int)+(b1.length:Int))))=(List.length (List.replicate (Int.toNat (zu ((a1.length:Int)+(b1.length:Int)))) (0:Int)))) <|
 T.bind (JY b1 a1 (a1.length:Int) ((0:Int),(List.replicate (Int.toNat (zu ((a1.length:Int)+(b1.length:Int)))) (0:Int)))) fun qM =>
 .zd (qM.length=qM.length) <|
 T.bind (xN (List.drop (0:Nat) (List.take ((0:Nat)+qM.length) qM))) fun r =>
 .ret r
def iS(x:Int):((List Int)×Int)→T (((List Int)×Int)⊕((List Int)))
 | (a1,x1) =>
 .ite (decide (x1<x))
  (T.bind (jV (10:Int)) fun r =>
 T.bind (bZ a1 r) fun a2 =>
 .ret (.inl (a2,(zu (x1+1)))))
  (.ret (.inr a1))
def Kb x s:=T.loop (iS x) s
def UF(n:Int):T (List Int) :=
 T.bind (jV (1:Int)) fun a =>
 T.bind (Kb n (a,(0:Int))) fun a3 =>
 .ret a3
def sJ(a:Rat):T zf :=
 .ite a.1
  (.ret ([45]:zf))
  (.ret ([]:zf))
def wj  : ((Nat×Nat)×Int×Int×(List Int))→T (((Nat×Nat)×Int×Int×(List Int))⊕((List Int)))
 | (s1,i,j,xs) =>
 .ite (decide (i<j))
  (.zd (zi j s1.2) <|
 .zd (lh xs.length xs.length (s1.1+(Int.toNat j)) xs.length) <|
 .zd (zi i s1.2) <|
 .zd (lh xs.length xs.length (s1.1+(Int.toNat i)) xs.length) <|
 .zd (zi i s1.2) <|
 .zd (lh xs.length xs.length (s1.1+(Int.toNat i)) xs.length) <|
 .zd (zi j s1.2) <|
 .zd (lh xs.length xs.length (s1.1+(Int.toNat j)) (List.length (List.set xs (s1.1+(Int.toNat i)) (xp xs (s1.1+(Int.toNat j)) (zb (.int .u8)))))) <|
 .zd (xs.length=xs.length) <|
 .zd (xs.length=(List.length (List.set (List.set xs (s1.1+(Int.toNat i)) (xp xs (s1.1+(Int.toNat j)) (zb (.int .u8)))) (s1.1+(Int.toNat j)) (xp xs (s1.1+(Int.toNat i)) (zb (.int .u8)))))) <|
 .ret (.inl (s1,((zu (i+1)),((zu (j-1)),(List.set (List.set xs (s1.1+(Int.toNat i)) (xp xs (s1.1+(Int.toNat j)) (zb (.int .u8)))) (s1.1+(Int.toNat j)) (xp xs (s1.1+(Int.toNat i)) (zb (.int .u8)))))))))
  (.zd (xs.length=xs.length) <|
 .ret (.inr xs))
def jL(s:((Nat×Nat)×Int×Int×(List Int))):T ((List Int)):=T.loop (wj ) s
def wV(sw:(Nat×Nat))(s:(List Int)):T (List Int) :=
 .zd (s.length=s.length) <|
 .zd (s.length=s.length) <|
 T.bind (jL  (sw,((0:Int),((zu ((Nat.cast sw.2:Int)-(1:Int))),s)))) fun zE =>
 .zd (zE.length=zE.length) <|
 .ret zE
def bE(q1:(List Int)):(Int×Int×(List Int))→T ((Int×Int×(List Int))⊕((List Int)))
 | (rest1,x,zE) =>
 .ite (decide (x<(9:Int)))
  (.zd ((10:Int)≠(0:Int)) <|
 .zd (zi (Int.tmod rest1 (10:Int)) ([48,49,50,51,52,53,54,55,56,57]:zf).length) <|
 .zd (xF zE.length zE.length (0:Nat) zE.length zE.length (1:Nat) (1:Nat)) <|
 .zd ((10:Int)≠(0:Int)) <|
 .zd (zh (zE.length+(1:Nat)) (0:Nat) (zE.length+(1:Nat)) (List.length (zE++([(wG ([48,49,50,51,52,53,54,55,56,57]:zf) (Int.tmod rest1 (10:Int)))]:List Int)))) <|
 .zd ((zE.length+(1:Nat))=(List.length (zE++([(wG ([48,49,50,51,52,53,54,55,56,57]:zf) (Int.tmod rest1 (10:Int)))]:List Int)))) <|
 .ret (.inl ((qG (Int.tdiv rest1 (10:Int))),((zu (x+1)),(zE++([(wG ([48,49,50,51,52,53,54,55,56,57]:zf) (Int.tmod rest1 (10:Int)))]:List Int))))))
  (.zd (zh zE.length (0:Nat) zE.length zE.length) <|
 .zd (zE.length=zE.length) <|
 .ret (.inr zE))
def oy q1 s:=T.loop (bE q1) s
def bJ  : ((List Int)×(List Int))→T (((List Int)×(List Int))⊕((List Int)))
 | (a2,xs) =>
 .ite (decide ((0:Int)<(a2.length:Int)))
  (T.bind (fD a2 (1000000000:Int)) fun(q,rest) =>
 .zd (zh xs.length (0:Nat) xs.length xs.length) <|
 .zd (xs.length=xs.length) <|
 T.bind (oy q (rest,((0:Int),xs))) fun zV =>
 .zd (zh zV.length (0:Nat) zV.length zV.length) <|
 .zd (zV.length=zV.length) <|
 .ret (.inl (q,zV)))
  (.zd (zh xs.length (0:Nat) xs.length xs.length) <|
 .zd (xs.length=xs.length) <|
 .ret (.inr xs))
def ow(s:((List Int)×(List Int))):T ((List Int)):=T.loop (bJ ) s
def bB  : ((Nat×Nat)×(List Int))→T (((Nat×Nat)×(List Int))⊕(((Nat×Nat)×(List Int))))
 | (b,vj) =>
 .zd (((decide ((1:Int)<(Nat.cast b.2:Int)))=true)→((zi (zu ((Nat.cast b.2:Int)-(1:Int))) b.2)∧(lh vj.length vj.length (b.1+(Int.toNat (zu ((Nat.cast b.2:Int)-(1:Int))))) vj.length))) <|
 .ite ((decide ((1:Int)<(Nat.cast b.2:Int)))&&((xp vj (b.1+(Int.toNat (zu ((Nat.cast b.2:Int)-(1:Int))))) (zb (.int .u8)))==48))
  (.zd (nj (0:Int) (zu ((Nat.cast b.2:Int)-(1:Int))) b.2) <|
 .zd (vj.length=vj.length) <|
 .zd (vj.length=vj.length) <|
 .ret (.inl (((b.1+(Int.toNat (0:Int))),((Int.toNat (zu ((Nat.cast b.2:Int)-(1:Int))))-(Int.toNat (0:Int)))),vj)))
  (.zd (vj.length=vj.length) <|
 .zd (vj.length=vj.length) <|
 .ret (.inr (b,vj)))
def QS(s:((Nat×Nat)×(List Int))):T (((Nat×Nat)×(List Int))):=T.loop (bB ) s
def fv(a:(List Int)):T zf :=
 T.bind (b8 a) fun a1 =>
 .ite ((a1.length:Int)==(0:Int))
  (.ret ([48]:zf))
  (.zd (zh (0:Nat) (0:Nat) (0:Nat) (0:Nat)) <|
 .zd ((0:Nat)=(0:Nat)) <|
 T.bind (ow  (a1,([]:List Int))) fun qM =>
 .zd (qM.length=qM.length) <|
 .zd (qM.length=qM.length) <|
 T.bind (QS  (((0:Nat),qM.length),qM)) fun(b1,jd) =>
 .zd (jd.length=jd.length) <|
 .zd (jd.length=jd.length) <|
 T.bind (wV b1 jd) fun b2 =>
 .zd (jd.length=b2.length) <|
 .ret (qV (List.drop b1.1 (List.take (b1.1+b1.2) b2))))
def strings_Repeat(s:zf)(count:Int):T zf :=
 .zd ((0:Int)≤count∧count≤(9223372036854775807:Int)∧s.length*(Int.toNat count)≤(140737488355328:Nat)) <|
 .ret (kC s (Int.toNat count))
def lO(s:zf)(n:Int):T zf :=
 .ite (n==0)
  (.ret s)
  (T.bind (strings_Repeat ([48]:zf) (wc (0:Int) (zu ((zu (n+1))-(s.length:Int))))) fun r =>
 .zd ((r.length+s.length)≤(4611686018427387904:Nat)) <|
 .zd (nj (0:Int) (zu (((cat r s).length:Int)-n)) (cat r s).length) <|
 .zd (((List.length (bS (0:Int) (zu (((cat r s).length:Int)-n)) (cat r s)))+([46]:zf).length)≤(4611686018427387904:Nat)) <|
 .zd (nj (zu (((cat r s).length:Int)-n)) ((cat r s).length:Int) (cat r s).length) <|
 .zd (((List.length (cat (bS (0:Int) (zu (((cat r s).length:Int)-n)) (cat r s)) ([46]:zf)))+(List.length (bS (zu (((cat r s).length:Int)-n)) ((cat r s).length:Int) (cat r s))))≤(4611686018427387904:Nat)) <|
 .ret (cat (cat (bS (0:Int) (zu (((cat r s).length:Int)-n)) (cat r s)) ([46]:zf)) (bS (zu (((cat r s).length:Int)-n)) ((cat r s).length:Int) (cat r s))))
def y9  : (Int×Rat)→T ((Int×Rat)⊕(Rat⊕(zf×Bool×Rat)))
 | (x,v) =>
 .ite (decide (x<(61:Int)))
  (T.bind (UF x) fun r1 =>
 T.bind (bZ v.2.1 r1) fun r2 =>
 T.bind (gx r2 v.2.2.1) fun(q,r3,r4) =>
 .ite ((r3.length:Int)==(0:Int))
  (T.bind (sJ v) fun r5 =>
 T.bind (fv q) fun r6 =>
 T.bind (lO r6 x) fun r7 =>
 .zd ((r5.length+r7.length)≤(4611686018427387904:Nat)) <|
 .ret (.inr (.inr ((cat r5 r7),(true,v)))))
  (.ret (.inl ((zu (x+1)),v))))
  (.ret (.inr (.inl v)))
def Wc(s:(Int×Rat)):T (Rat⊕(zf×Bool×Rat)):=T.loop (y9 ) s
def nA(a:Rat):T (zf×Bool) :=
 T.bind (xV a) fun r =>
 T.bind (Wc  ((0:Int),r)) <|
 Sum.elim (fun v1 =>
 .ret (([]:zf),false))
  (fun(x1,x2,v2) =>
 .ret (x1,x2))
def pA(a:Rat):T Bool :=
 T.bind (T.bind (ta a) fun r =>
 .ite (!r)
  (.ret true)
  (.ite a.1
  (.ret true)
  (T.bind (uX a) fun r1 =>
 .ret r1)):T (Bool)) fun x =>
 .ite x
  (.ret false)
  (T.bind (nA a) fun(r2,ok) =>
 .ret ok)
def dC(a:Rat):T Bool :=
 .ite (!a.1)
  (.ite ((a.2.1.length:Int)==(0:Int))
  (.ite ((a.2.2.1.length:Int)==(0:Int))
  (.ret true)
  (T.bind (ta a) fun r =>
 .ret r))
  (.ret false))
  (.ret false)
def gH(e:AM.Expr):T Bool :=
 T.bind (tF (Expr.kind e)) fun r =>
 .ite (((Expr.kids e).length:Int) != r)
  (.ret false)
  (.ite ((Expr.kind e)==1)
  (T.bind (pA (Expr.num e)) fun r1 =>
 .ite r1
  (.ret (zM (Expr.name e) ([]:zf)))
  (.ret false))
  (.ite ((Expr.kind e)==2)
  (T.bind (dC (Expr.num e)) fun r2 =>
 .ite r2
  (T.bind (uO (Expr.name e)) fun r3 =>
 .ret r3)
  (.ret false))
  (T.bind (dC (Expr.num e)) fun r4 =>
 .ite r4
  (.ret (zM (Expr.name e) ([]:zf)))
  (.ret false))))
def jB(w8:AM.Expr→Int→Int→T (Bool×Int))(k:AM.Expr)(a1:Int)(v:Int):T (Bool×Int) :=
 T.bind (w8 k (zu (a1+1)) v) fun(r,xs) =>
 .ret ((!r),xs)
def zT(w8:AM.Expr→Int→Int→T (Bool×Int))(s1:(List AM.Expr))(x:Int):((Int×Unit)×Int×Int)→T (((Int×Unit)×Int×Int)⊕(Int⊕(Int×Int)))
 | (f1,x1,v1) =>
 .ite (decide (x1<x))
  (.zd (zi x1 s1.length) <|
 T.bind ((jB w8) (nth s1 x1 (zb .expr)) f1.1 v1) fun(r,xs) =>
 .ite r
  (.ret (.inr (.inr (x1,xs))))
  (.ret (.inl ((f1.1,()),((zu (x1+1)),xs)))))
  (.ret (.inr (.inl v1)))
def q9 w8 s1 x s:=T.loop (zT w8 s1 x) s
def xb(w8:AM.Expr→Int→Int→T (Bool×Int))(s:(List AM.Expr))(f:(Int×Unit))(v:Int):T (Int×Int) :=
 T.bind (q9 w8 s (s.length:Int) ((f.1,()),((0:Int),v))) <|
 Sum.elim (fun v2 =>
 .ret ((-1:Int),v2))
  (fun(x2,v3) =>
 .ret (x2,v3))
def qm(w8:AM.Expr→Int→Int→T (Bool×Int))(s:(List AM.Expr))(f:(Int×Unit))(v:Int):T (Bool×Int) :=
 T.bind ((xb w8) s (f.1,()) v) fun(r,xs) =>
 .ret ((decide ((0:Int)≤r)),xs)
def bC(w8:AM.Expr→Int→Int→T (Bool×Int))(e:AM.Expr)(deep:Int)(left:Int):T (Bool×Int) :=
 T.bind (.ite (decide ((zu (left-1))<(0:Int)))
  (.ret (true,(zu (left-1))))
  (.ite (decide ((32:Int)≤deep))
  (.ret (true,(zu (left-1))))
  (T.bind (gH e) fun r =>
 .ret ((!r),(zu (left-1))))):T ((Bool×Int))) fun(x,v) =>
 .ite x
  (.ret (false,v))
  (T.bind ((qm w8) (Expr.kids e) (deep,()) v) fun(r1,left1) =>
 .ret ((!r1),left1))
def jY(e:AM.Expr)(deep:Int)(left:Int):T (Bool×Int):=T.fix (fun F x=>bC (fun y0 y1 y2=>F (y0,y1,y2)) x.1 x.2.1 x.2.2) (e,deep,left)
def uJ(e:AM.Expr):T Bool :=
 T.bind (jY e (0:Int) (256:Int)) fun(r,left) =>
 .ret r
def ub  : T (List zf) :=
 .ret ([([114,101,113,117,105,114,101,100]:zf),([115,116,114,111,110,103]:zf),([109,101,100,105,117,109]:zf),([119,101,97,107]:zf)]:List zf)
def wC(r:uP):T Bool :=
 T.bind (uO r.1) fun r1 =>
 .ite (!r1)
  (.ret true)
  (.ite (decide (r.2.1<(0:Int)))
  (.ret true)
  (T.bind (ub) fun r2 =>
 .ite (decide ((r2.length:Int)≤r.2.1))
  (.ret true)
  (T.bind (kV r.2.2.1) fun r3 =>
 .ite (!r3)
  (.ret true)
  (T.bind (uJ r.2.2.2.1) fun r4 =>
 .ite (!r4)
  (.ret true)
  (T.bind (uJ r.2.2.2.2.1) fun r5 =>
 .ret (!r5))))))
def xG(s1:(List uP))(f:uP→T Bool)(x:Int):Int→T (Int⊕(Unit⊕Int))
 | x1 =>
 .ite (decide (x1<x))
  (.zd (zi x1 s1.length) <|
 T.bind (f (nth s1 x1 (zb zl))) fun r =>
 .ite r
  (.ret (.inr (.inr x1)))
  (.ret (.inl (zu (x1+1)))))
  (.ret (.inr (.inl ())))
def jH s1 f x s:=T.loop (xG s1 f x) s
def wU(s:(List uP))(f:uP→T Bool):T Int :=
 T.bind (jH s f (s.length:Int) (0:Int)) <|
 Sum.elim (fun _ =>
 .ret (-1:Int))
  (fun x2 =>
 .ret x2)
def xC(s:(List uP))(f:uP→T Bool):T Bool :=
 T.bind (wU s f) fun r =>
 .ret (decide ((0:Int)≤r))
def jj(f1:Form)(x:(List Check))(x1:Int):(Int×Int)→T ((Int×Int)⊕(Unit⊕Bool))
 | (ahead,x2) =>
 .ite (decide (x2<x1))
  (.zd (zi x2 x.length) <|
 T.bind (T.bind (uO (nth x x2 (zb zn)).1) fun r =>
 .ite (!r)
  (.ret (true,(nth x x2 (zb zn))))
  (T.bind (bA (nth x x2 (zb zn)).2.1 ahead (f1.2.2.1.length:Int)) fun r1 =>
 .ite (!r1)
  (.ret (true,(nth x x2 (zb zn))))
  (.ite (decide ((nth x x2 (zb zn)).2.2.1<(0:Int)))
  (.ret (true,(nth x x2 (zb zn))))
  (T.bind (uY) fun r2 =>
 .ite (decide ((r2.length:Int)≤(nth x x2 (zb zn)).2.2.1))
  (.ret (true,(nth x x2 (zb zn))))
  (T.bind (uJ (Expr.mk (Expr.kind (nth x x2 (zb zn)).2.2.2.1) ((Expr.num (nth x x2 (zb zn)).2.2.2.1).1,((Expr.num (nth x x2 (zb zn)).2.2.2.1).2.1,((Expr.num (nth x x2 (zb zn)).2.2.2.1).2.2.1,()))) (Expr.name (nth x x2 (zb zn)).2.2.2.1) (Expr.kids (nth x x2 (zb zn)).2.2.2.1))) fun r3 =>
 .ite (!r3)
  (.ret (true,(nth x x2 (zb zn))))
  (T.bind (uJ (Expr.mk (Expr.kind (nth x x2 (zb zn)).2.2.2.2.1) ((Expr.num (nth x x2 (zb zn)).2.2.2.2.1).1,((Expr.num (nth x x2 (zb zn)).2.2.2.2.1).2.1,((Expr.num (nth x x2 (zb zn)).2.2.2.2.1).2.2.1,()))) (Expr.name (nth x x2 (zb zn)).2.2.2.2.1) (Expr.kids (nth x x2 (zb zn)).2.2.2.2.1))) fun r4 =>
 .ret ((!r4),(nth x x2 (zb zn)))))))):T ((Bool×Check))) fun(x3,v) =>
 .ite x3
  (.ret (.inr (.inr false)))
  (.ret (.inl (v.2.1,(zu (x2+1))))))
  (.ret (.inr (.inl ())))
def pY f1 x x1 s:=T.loop (jj f1 x x1) s
def eY(f:Form):T Bool :=
 T.bind (pY f f.2.2.2.2.2.1 (f.2.2.2.2.2.1.length:Int) ((0:Int),(0:Int))) <|
 Sum.elim (fun _ =>
 T.bind (xC f.2.2.2.2.1 (fun z0=>wC z0)) fun r5 =>
 .ret (!r5))
  (fun x4 =>
 .ret x4)
def mF(v:Unit)(l:List Int):T (Unit×List Int):=.ret (v,l)
def qo(s:zf)(b:(Unit))(xs:(List Int)):T (Int×(Unit)×(List Int)) :=
 .zd (zh xs.length (0:Nat) xs.length xs.length) <|
 .zd (xs.length=xs.length) <|
 T.bind (mF () xs) fun(b1,zE) =>
 .zd (xF zE.length zE.length (0:Nat) zE.length zE.length (bytesOf s).length (1:Nat)) <|
 .zd (zh (zE.length+(bytesOf s).length) (0:Nat) (zE.length+(bytesOf s).length) (List.length (zE++(bytesOf s)))) <|
 .zd ((zE.length+(bytesOf s).length)=(List.length (zE++(bytesOf s)))) <|
 .ret ((s.length:Int),((),(zE++(bytesOf s))))
def nt(a:Rat):T zf :=
 T.bind (xV a) fun r =>
 T.bind (sJ r) fun r1 =>
 T.bind (fv r.2.1) fun r2 =>
 .zd ((r1.length+r2.length)≤(4611686018427387904:Nat)) <|
 T.bind (jV (1:Int)) fun r3 =>
 T.bind (lX r.2.2.1 r3) fun r4 =>
 .ite (r4 != 0)
  (T.bind (fv r.2.2.1) fun r5 =>
 .zd ((([47]:zf).length+r5.length)≤(4611686018427387904:Nat)) <|
 .zd (((cat r1 r2).length+(List.length (cat ([47]:zf) r5)))≤(4611686018427387904:Nat)) <|
 .ret (cat (cat r1 r2) (cat ([47]:zf) r5)))
  (.ret (cat r1 r2))
def iZ(s:zf):T zf :=
 .ite (zM s ([]:zf))
  (.ret ([]:zf))
  (.zd ((([32,119,104,101,110,32]:zf).length+s.length)≤(4611686018427387904:Nat)) <|
 .ret (cat ([32,119,104,101,110,32]:zf) s))
def strconv_Itoa(n:Int):T zf :=
 .zd ((-9223372036854775808:Int)≤n∧n≤(9223372036854775807:Int)) <|
 .ret (pO n)
def mm(x:Field):T zf :=
 .zd ((([102,105,101,108,100,32]:zf).length+x.1.length)≤(4611686018427387904:Nat)) <|
 .zd ((x.2.2.1=true)→(((List.length (cat ([102,105,101,108,100,32]:zf) x.1))+([32,109,117,115,116]:zf).length)≤(4611686018427387904:Nat))) <|
 .ite (decide ((0:Int)<x.2.2.2.1))
  (T.bind (strconv_Itoa x.2.2.2.1) fun r =>
 .zd ((([32,115,99,97,108,101,32]:zf).length+r.length)≤(4611686018427387904:Nat)) <|
 .zd (((List.length (bif x.2.2.1 then(cat (cat ([102,105,101,108,100,32]:zf) x.1) ([32,109,117,115,116]:zf))else(cat ([102,105,101,108,100,32]:zf) x.1)))+(List.length (cat ([32,115,99,97,108,101,32]:zf) r)))≤(4611686018427387904:Nat)) <|
 .zd (((List.length (cat (bif x.2.2.1 then(cat (cat ([102,105,101,108,100,32]:zf) x.1) ([32,109,117,115,116]:zf))else(cat ([102,105,101,108,100,32]:zf) x.1)) (cat ([32,115,99,97,108,101,32]:zf) r)))+([10]:zf).length)≤(4611686018427387904:Nat)) <|
 .ret (cat (cat (bif x.2.2.1 then(cat (cat ([102,105,101,108,100,32]:zf) x.1) ([32,109,117,115,116]:zf))else(cat ([102,105,101,108,100,32]:zf) x.1)) (cat ([32,115,99,97,108,101,32]:zf) r)) ([10]:zf)))
  (.zd (((List.length (bif x.2.2.1 then(cat (cat ([102,105,101,108,100,32]:zf) x.1) ([32,109,117,115,116]:zf))else(cat ([102,105,101,108,100,32]:zf) x.1)))+([10]:zf).length)≤(4611686018427387904:Nat)) <|
 .ret (cat (bif x.2.2.1 then(cat (cat ([102,105,101,108,100,32]:zf) x.1) ([32,109,117,115,116]:zf))else(cat ([102,105,101,108,100,32]:zf) x.1)) ([10]:zf)))
def cG(e:AM.Expr):T Int :=
 .ite (bif ((Expr.kind e)==3)then((Expr.kind e)==3)else((Expr.kind e)==4))
  (.ret (1:Int))
  (.ite (bif ((Expr.kind e)==5)then((Expr.kind e)==5)else((Expr.kind e)==6))
  (.ret (2:Int))
  (.ite ((Expr.kind e)==7)
  (.ret (3:Int))
  (.ret (4:Int))))
def gO(ua:AM.Expr→T zf)(e:AM.Expr)(least:Int):T zf :=
 T.bind (cG e) fun r =>
 .ite (decide (r<least))
  (T.bind (ua e) fun r1 =>
 .zd ((([40]:zf).length+r1.length)≤(4611686018427387904:Nat)) <|
 .zd (((List.length (cat ([40]:zf) r1))+([41]:zf).length)≤(4611686018427387904:Nat)) <|
 .ret (cat (cat ([40]:zf) r1) ([41]:zf)))
  (T.bind (ua e) fun r2 =>
 .ret r2)
def fg(ua:AM.Expr→T zf)(e:AM.Expr):T zf :=
 T.bind (.ite ((Expr.kind e)==1)
  (T.bind (nA (Expr.num e)) fun(s,r) =>
 .ret (.inr s))
  (.ite ((Expr.kind e)==2)
  (.ret (.inr (Expr.name e)))
  (.ite ((Expr.kind e)==7)
  (.zd (zi (0:Int) (Expr.kids e).length) <|
 T.bind ((gO ua) (nth (Expr.kids e) (0:Int) (zb .expr)) (3:Int)) fun r1 =>
 .zd ((([45]:zf).length+r1.length)≤(4611686018427387904:Nat)) <|
 .ret (.inr (cat ([45]:zf) r1)))
  (.ite ((Expr.kind e)==3)
  (.ret (.inl ([32,43,32]:zf)))
  (.ite ((Expr.kind e)==4)
  (.ret (.inl ([32,45,32]:zf)))
  (.ite ((Expr.kind e)==5)
  (.ret (.inl ([32,42,32]:zf)))
  (.ite ((Expr.kind e)==6)
  (.ret (.inl ([32,47,32]:zf)))
  (.ret (.inl ([]:zf))))))))):T (zf⊕zf)) <|
 Sum.elim (fun mark =>
 .zd (zi (0:Int) (Expr.kids e).length) <|
 T.bind (cG e) fun r2 =>
 T.bind ((gO ua) (nth (Expr.kids e) (0:Int) (zb .expr)) r2) fun r3 =>
 .zd ((r3.length+mark.length)≤(4611686018427387904:Nat)) <|
 .zd (zi (1:Int) (Expr.kids e).length) <|
 T.bind (cG e) fun r4 =>
 T.bind ((gO ua) (nth (Expr.kids e) (1:Int) (zb .expr)) (zu (r4+1))) fun r5 =>
 .zd (((cat r3 mark).length+r5.length)≤(4611686018427387904:Nat)) <|
 .ret (cat (cat r3 mark) r5))
  (fun x =>
 .ret x)
def oK(e:AM.Expr):T zf:=T.fix (fun F x=>fg (fun y0=>F (y0)) x) e
def cI(e:AM.Expr):T zf :=
 T.bind (uJ e) fun r =>
 .ite (!r)
  (.ret ([]:zf))
  (T.bind (oK e) fun r1 =>
 .ret r1)
def dE(l:AM.Expr)(sign:zf)(r:AM.Expr):T zf :=
 T.bind (cI l) fun r1 =>
 .zd ((([32,58,32]:zf).length+r1.length)≤(4611686018427387904:Nat)) <|
 .zd (((List.length (cat ([32,58,32]:zf) r1))+([32]:zf).length)≤(4611686018427387904:Nat)) <|
 .zd (((List.length (cat (cat ([32,58,32]:zf) r1) ([32]:zf)))+sign.length)≤(4611686018427387904:Nat)) <|
 .zd (((List.length (cat (cat (cat ([32,58,32]:zf) r1) ([32]:zf)) sign))+([32]:zf).length)≤(4611686018427387904:Nat)) <|
 T.bind (cI r) fun r2 =>
 .zd (((List.length (cat (cat (cat (cat ([32,58,32]:zf) r1) ([32]:zf)) sign) ([32]:zf)))+r2.length)≤(4611686018427387904:Nat)) <|
 .zd (((List.length (cat (cat (cat (cat (cat ([32,58,32]:zf) r1) ([32]:zf)) sign) ([32]:zf)) r2))+([10]:zf).length)≤(4611686018427387904:Nat)) <|
 .ret (cat (cat (cat (cat (cat (cat ([32,58,32]:zf) r1) ([32]:zf)) sign) ([32]:zf)) r2) ([10]:zf))
def jh(i1:Int)(f1:Form)(x:(List Field))(x1:Int):(Int×(Unit)×(List Int))→T ((Int×(Unit)×(List Int))⊕(((Unit)×(List Int))))
 | (x2,v,zV) =>
 .ite (decide (x2<x1))
  (.zd (zi x2 x.length) <|
 .ite ((nth x x2 (zb qc)).2.1==i1)
  (T.bind (mm (nth x x2 (zb qc))) fun r2 =>
 .zd (zh zV.length (0:Nat) zV.length zV.length) <|
 .zd (zV.length=zV.length) <|
 T.bind (qo r2 () zV) fun(r3,w2,qM) =>
 .zd (zh qM.length (0:Nat) qM.length qM.length) <|
 .zd (qM.length=qM.length) <|
 .ret (.inl ((zu (x2+1)),((),qM))))
  (.zd (zh zV.length (0:Nat) zV.length zV.length) <|
 .zd (zV.length=zV.length) <|
 .ret (.inl ((zu (x2+1)),((),zV)))))
  (.zd (zh zV.length (0:Nat) zV.length zV.length) <|
 .zd (zV.length=zV.length) <|
 .ret (.inr ((),zV)))
def pI i1 f1 x x1 s:=T.loop (jh i1 f1 x x1) s
def jq(i2:Int)(x3:(List Check))(x4:Int):(Int×(Unit)×(List Int))→T ((Int×(Unit)×(List Int))⊕(((Unit)×(List Int))))
 | (x5,v2,jd) =>
 .ite (decide (x5<x4))
  (.zd (zi x5 x3.length) <|
 .ite ((nth x3 x5 (zb zn)).2.1==i2)
  (.zd ((([99,104,101,99,107,32]:zf).length+(List.length (nth x3 x5 (zb zn)).1))≤(4611686018427387904:Nat)) <|
 T.bind (uY) fun r4 =>
 .zd (zi (nth x3 x5 (zb zn)).2.2.1 r4.length) <|
 T.bind (dE (Expr.mk (Expr.kind (nth x3 x5 (zb zn)).2.2.2.1) ((Expr.num (nth x3 x5 (zb zn)).2.2.2.1).1,((Expr.num (nth x3 x5 (zb zn)).2.2.2.1).2.1,((Expr.num (nth x3 x5 (zb zn)).2.2.2.1).2.2.1,()))) (Expr.name (nth x3 x5 (zb zn)).2.2.2.1) (Expr.kids (nth x3 x5 (zb zn)).2.2.2.1)) (nth r4 (nth x3 x5 (zb zn)).2.2.1 (zb .str)) (Expr.mk (Expr.kind (nth x3 x5 (zb zn)).2.2.2.2.1) ((Expr.num (nth x3 x5 (zb zn)).2.2.2.2.1).1,((Expr.num (nth x3 x5 (zb zn)).2.2.2.2.1).2.1,((Expr.num (nth x3 x5 (zb zn)).2.2.2.2.1).2.2.1,()))) (Expr.name (nth x3 x5 (zb zn)).2.2.2.2.1) (Expr.kids (nth x3 x5 (zb zn)).2.2.2.2.1))) fun r5 =>
 .zd (((List.length (cat ([99,104,101,99,107,32]:zf) (nth x3 x5 (zb zn)).1))+r5.length)≤(4611686018427387904:Nat)) <|
 .zd (zh jd.length (0:Nat) jd.length jd.length) <|
 .zd (jd.length=jd.length) <|
 T.bind (qo (cat (cat ([99,104,101,99,107,32]:zf) (nth x3 x5 (zb zn)).1) r5) () jd) fun(r6,w3,xs6) =>
 .zd (zh xs6.length (0:Nat) xs6.length xs6.length) <|
 .zd (xs6.length=xs6.length) <|
 .ret (.inl ((zu (x5+1)),((),xs6))))
  (.zd (zh jd.length (0:Nat) jd.length jd.length) <|
 .zd (jd.length=jd.length) <|
 .ret (.inl ((zu (x5+1)),((),jd)))))
  (.zd (zh jd.length (0:Nat) jd.length jd.length) <|
 .zd (jd.length=jd.length) <|
 .ret (.inr ((),jd)))
def pQ i2 x3 x4 s:=T.loop (jq i2 x3 x4) s
def fc(f:Form)(i:Int)(w:(Unit))(xs:(List Int)):T ((Unit)×(List Int)) :=
 .zd (zi i f.2.2.1.length) <|
 .zd ((([112,97,103,101,32]:zf).length+(List.length (nth f.2.2.1 i (zb qy)).1))≤(4611686018427387904:Nat)) <|
 .zd (zi i f.2.2.1.length) <|
 T.bind (iZ (nth f.2.2.1 i (zb qy)).2.1) fun r =>
 .zd (((List.length (cat ([112,97,103,101,32]:zf) (nth f.2.2.1 i (zb qy)).1))+r.length)≤(4611686018427387904:Nat)) <|
 .zd (((List.length (cat (cat ([112,97,103,101,32]:zf) (nth f.2.2.1 i (zb qy)).1) r))+([10]:zf).length)≤(4611686018427387904:Nat)) <|
 .zd (zh xs.length (0:Nat) xs.length xs.length) <|
 .zd (xs.length=xs.length) <|
 T.bind (qo (cat (cat (cat ([112,97,103,101,32]:zf) (nth f.2.2.1 i (zb qy)).1) r) ([10]:zf)) () xs) fun(r1,w1,zE) =>
 .zd (zh zE.length (0:Nat) zE.length zE.length) <|
 .zd (zE.length=zE.length) <|
 T.bind (pI i f f.2.2.2.1 (f.2.2.2.1.length:Int) ((0:Int),((),zE))) fun(v1,vj) =>
 .zd (zh vj.length (0:Nat) vj.length vj.length) <|
 .zd (vj.length=vj.length) <|
 T.bind (pQ i f.2.2.2.2.2.1 (f.2.2.2.2.2.1.length:Int) ((0:Int),((),vj))) fun(v3,vP) =>
 .zd (zh vP.length (0:Nat) vP.length vP.length) <|
 .zd (vP.length=vP.length) <|
 .ret ((),vP)
def oB(v:Unit)(l:List Int):T (zf×Unit):=z1R l
def kA(f1:Form)(x:(List Switch))(x1:Int):(Int×(Unit)×(List Int))→T ((Int×(Unit)×(List Int))⊕(((Unit)×(List Int))))
 | (x2,v,xs) =>
 .ite (decide (x2<x1))
  (.zd (zi x2 x.length) <|
 .zd ((([115,119,105,116,99,104,32]:zf).length+(List.length (nth x x2 (zb zZ)).1))≤(4611686018427387904:Nat)) <|
 .zd (((List.length (cat ([115,119,105,116,99,104,32]:zf) (nth x x2 (zb zZ)).1))+(List.length (bif (nth x x2 (zb zZ)).2.1 then([32,111,110,10]:zf)else([32,111,102,102,10]:zf))))≤(4611686018427387904:Nat)) <|
 .zd (zh xs.length (0:Nat) xs.length xs.length) <|
 .zd (xs.length=xs.length) <|
 T.bind (qo (cat (cat ([115,119,105,116,99,104,32]:zf) (nth x x2 (zb zZ)).1) (bif (nth x x2 (zb zZ)).2.1 then([32,111,110,10]:zf)else([32,111,102,102,10]:zf))) () xs) fun(r,w,zE) =>
 .zd (zh zE.length (0:Nat) zE.length zE.length) <|
 .zd (zE.length=zE.length) <|
 .ret (.inl ((zu (x2+1)),((),zE))))
  (.zd (zh xs.length (0:Nat) xs.length xs.length) <|
 .zd (xs.length=xs.length) <|
 .ret (.inr ((),xs)))
def te f1 x x1 s:=T.loop (kA f1 x x1) s
def kS(f2:Form)(x3:(List Param))(x4:Int):(Int×(Unit)×(List Int))→T ((Int×(Unit)×(List Int))⊕(((Unit)×(List Int))))
 | (x5,v2,qM) =>
 .ite (decide (x5<x4))
  (.zd (zi x5 x3.length) <|
 .zd ((([112,97,114,97,109,32]:zf).length+(List.length (nth x3 x5 (zb q8)).1))≤(4611686018427387904:Nat)) <|
 .zd (((List.length (cat ([112,97,114,97,109,32]:zf) (nth x3 x5 (zb q8)).1))+([32]:zf).length)≤(4611686018427387904:Nat)) <|
 T.bind (nt ((nth x3 x5 (zb q8)).2.1.1,((nth x3 x5 (zb q8)).2.1.2.1,((nth x3 x5 (zb q8)).2.1.2.2.1,())))) fun r1 =>
 .zd (((List.length (cat (cat ([112,97,114,97,109,32]:zf) (nth x3 x5 (zb q8)).1) ([32]:zf)))+r1.length)≤(4611686018427387904:Nat)) <|
 .zd (((List.length (cat (cat (cat ([112,97,114,97,109,32]:zf) (nth x3 x5 (zb q8)).1) ([32]:zf)) r1))+([10]:zf).length)≤(4611686018427387904:Nat)) <|
 .zd (zh qM.length (0:Nat) qM.length qM.length) <|
 .zd (qM.length=qM.length) <|
 T.bind (qo (cat (cat (cat (cat ([112,97,114,97,109,32]:zf) (nth x3 x5 (zb q8)).1) ([32]:zf)) r1) ([10]:zf)) () qM) fun(r2,w1,vj) =>
 .zd (zh vj.length (0:Nat) vj.length vj.length) <|
 .zd (vj.length=vj.length) <|
 .ret (.inl ((zu (x5+1)),((),vj))))
  (.zd (zh qM.length (0:Nat) qM.length qM.length) <|
 .zd (qM.length=qM.length) <|
 .ret (.inr ((),qM)))
def sB f2 x3 x4 s:=T.loop (kS f2 x3 x4) s
def kt(f3:Form)(x6:Int):(Int×(Unit)×(List Int))→T ((Int×(Unit)×(List Int))⊕(((Unit)×(List Int))))
 | (x7,v4,xs6) =>
 .ite (decide (x7<x6))
  (.zd (zh xs6.length (0:Nat) xs6.length xs6.length) <|
 .zd (xs6.length=xs6.length) <|
 T.bind (fc f3 x7 () xs6) fun(w2,vP) =>
 .zd (zh vP.length (0:Nat) vP.length vP.length) <|
 .zd (vP.length=vP.length) <|
 .ret (.inl ((zu (x7+1)),((),vP))))
  (.zd (zh xs6.length (0:Nat) xs6.length xs6.length) <|
 .zd (xs6.length=xs6.length) <|
 .ret (.inr ((),xs6)))
def sb f3 x6 s:=T.loop (kt f3 x6) s
def jX(x8:(List uP))(x9:Int):(Int×(Unit)×(List Int))→T ((Int×(Unit)×(List Int))⊕(((Unit)×(List Int))))
 | (Qv,v6,rQ) =>
 .ite (decide (Qv<x9))
  (.zd (zi Qv x8.length) <|
 T.bind (ub) fun r3 =>
 .zd (zi (nth x8 Qv (zb zl)).2.1 r3.length) <|
 .zd ((([114,117,108,101,32]:zf).length+(List.length (nth r3 (nth x8 Qv (zb zl)).2.1 (zb .str))))≤(4611686018427387904:Nat)) <|
 .zd (((List.length (cat ([114,117,108,101,32]:zf) (nth r3 (nth x8 Qv (zb zl)).2.1 (zb .str))))+([32]:zf).length)≤(4611686018427387904:Nat)) <|
 .zd (((List.length (cat (cat ([114,117,108,101,32]:zf) (nth r3 (nth x8 Qv (zb zl)).2.1 (zb .str))) ([32]:zf)))+(List.length (nth x8 Qv (zb zl)).1))≤(4611686018427387904:Nat)) <|
 T.bind (iZ (nth x8 Qv (zb zl)).2.2.1) fun r4 =>
 .zd (((List.length (cat (cat (cat ([114,117,108,101,32]:zf) (nth r3 (nth x8 Qv (zb zl)).2.1 (zb .str))) ([32]:zf)) (nth x8 Qv (zb zl)).1))+r4.length)≤(4611686018427387904:Nat)) <|
 T.bind (dE (Expr.mk (Expr.kind (nth x8 Qv (zb zl)).2.2.2.1) ((Expr.num (nth x8 Qv (zb zl)).2.2.2.1).1,((Expr.num (nth x8 Qv (zb zl)).2.2.2.1).2.1,((Expr.num (nth x8 Qv (zb zl)).2.2.2.1).2.2.1,()))) (Expr.name (nth x8 Qv (zb zl)).2.2.2.1) (Expr.kids (nth x8 Qv (zb zl)).2.2.2.1)) ([61]:zf) (Expr.mk (Expr.kind (nth x8 Qv (zb zl)).2.2.2.2.1) ((Expr.num (nth x8 Qv (zb zl)).2.2.2.2.1).1,((Expr.num (nth x8 Qv (zb zl)).2.2.2.2.1).2.1,((Expr.num (nth x8 Qv (zb zl)).2.2.2.2.1).2.2.1,()))) (Expr.name (nth x8 Qv (zb zl)).2.2.2.2.1) (Expr.kids (nth x8 Qv (zb zl)).2.2.2.2.1))) fun r5 =>
 .zd (((List.length (cat (cat (cat (cat ([114,117,108,101,32]:zf) (nth r3 (nth x8 Qv (zb zl)).2.1 (zb .str))) ([32]:zf)) (nth x8 Qv (zb zl)).1) r4))+r5.length)≤(4611686018427387904:Nat)) <|
 .zd (zh rQ.length (0:Nat) rQ.length rQ.length) <|
 .zd (rQ.length=rQ.length) <|
 T.bind (qo (cat (cat (cat (cat (cat ([114,117,108,101,32]:zf) (nth r3 (nth x8 Qv (zb zl)).2.1 (zb .str))) ([32]:zf)) (nth x8 Qv (zb zl)).1) r4) r5) () rQ) fun(r6,w3,xs10) =>
 .zd (zh xs10.length (0:Nat) xs10.length xs10.length) <|
 .zd (xs10.length=xs10.length) <|
 .ret (.inl ((zu (Qv+1)),((),xs10))))
  (.zd (zh rQ.length (0:Nat) rQ.length rQ.length) <|
 .zd (rQ.length=rQ.length) <|
 .ret (.inr ((),rQ)))
def sD x8 x9 s:=T.loop (jX x8 x9) s
def lC(f:Form):T zf :=
 .zd (zh (0:Nat) (0:Nat) (0:Nat) (0:Nat)) <|
 .zd ((0:Nat)=(0:Nat)) <|
 T.bind (te f f.1 (f.1.length:Int) ((0:Int),((),([]:List Int)))) fun(v1,zV) =>
 .zd (zh zV.length (0:Nat) zV.length zV.length) <|
 .zd (zV.length=zV.length) <|
 T.bind (sB f f.2.1 (f.2.1.length:Int) ((0:Int),((),zV))) fun(v3,jd) =>
 .zd (zh jd.length (0:Nat) jd.length jd.length) <|
 .zd (jd.length=jd.length) <|
 T.bind (sb f (f.2.2.1.length:Int) ((0:Int),((),jd))) fun(v5,eC) =>
 .zd (zh eC.length (0:Nat) eC.length eC.length) <|
 .zd (eC.length=eC.length) <|
 T.bind (sD f.2.2.2.2.1 (f.2.2.2.2.1.length:Int) ((0:Int),((),eC))) fun(v7,V1) =>
 .zd (zh V1.length (0:Nat) V1.length V1.length) <|
 .zd (V1.length=V1.length) <|
 T.bind (oB () V1) fun(r7,w4) =>
 .ret r7
def QR(f:Form):T Bool :=
 T.bind (lN f) fun r =>
 .ite r
  (T.bind (fe f) fun r1 =>
 .ite r1
  (T.bind (eY f) fun r2 =>
 .ite r2
  (T.bind (lC f) fun r3 =>
 .ret (decide ((r3.length:Int)≤(16384:Int))))
  (.ret false))
  (.ret false))
  (.ret false)
def kI(f1:Form)(x:(List Switch))(x1:Int):(Int×(List zf))→T ((Int×(List zf))⊕((List zf)))
 | (x2,xs) =>
 .ite (decide (x2<x1))
  (.zd (zi x2 x.length) <|
 .zd (xF xs.length xs.length (0:Nat) xs.length xs.length (1:Nat) (16:Nat)) <|
 .zd (zh (xs.length+(1:Nat)) (0:Nat) (xs.length+(1:Nat)) (List.length (xs++([(nth x x2 (zb zZ)).1]:List zf)))) <|
 .zd ((xs.length+(1:Nat))=(List.length (xs++([(nth x x2 (zb zZ)).1]:List zf)))) <|
 .ret (.inl ((zu (x2+1)),(xs++([(nth x x2 (zb zZ)).1]:List zf)))))
  (.zd (zh xs.length (0:Nat) xs.length xs.length) <|
 .zd (xs.length=xs.length) <|
 .ret (.inr xs))
def td f1 x x1 s:=T.loop (kI f1 x x1) s
def kF(f2:Form)(x3:(List Param))(x4:Int):(Int×(List zf))→T ((Int×(List zf))⊕((List zf)))
 | (x5,zV) =>
 .ite (decide (x5<x4))
  (.zd (zi x5 x3.length) <|
 .zd (xF zV.length zV.length (0:Nat) zV.length zV.length (1:Nat) (16:Nat)) <|
 .zd (zh (zV.length+(1:Nat)) (0:Nat) (zV.length+(1:Nat)) (List.length (zV++([(nth x3 x5 (zb q8)).1]:List zf)))) <|
 .zd ((zV.length+(1:Nat))=(List.length (zV++([(nth x3 x5 (zb q8)).1]:List zf)))) <|
 .ret (.inl ((zu (x5+1)),(zV++([(nth x3 x5 (zb q8)).1]:List zf)))))
  (.zd (zh zV.length (0:Nat) zV.length zV.length) <|
 .zd (zV.length=zV.length) <|
 .ret (.inr zV))
def su f2 x3 x4 s:=T.loop (kF f2 x3 x4) s
def kE(f3:Form)(x6:(List tr))(x7:Int):(Int×(List zf))→T ((Int×(List zf))⊕((List zf)))
 | (x8,vj) =>
 .ite (decide (x8<x7))
  (.zd (zi x8 x6.length) <|
 .zd (xF vj.length vj.length (0:Nat) vj.length vj.length (1:Nat) (16:Nat)) <|
 .zd (zh (vj.length+(1:Nat)) (0:Nat) (vj.length+(1:Nat)) (List.length (vj++([(nth x6 x8 (zb qy)).1]:List zf)))) <|
 .zd ((vj.length+(1:Nat))=(List.length (vj++([(nth x6 x8 (zb qy)).1]:List zf)))) <|
 .ret (.inl ((zu (x8+1)),(vj++([(nth x6 x8 (zb qy)).1]:List zf)))))
  (.zd (zh vj.length (0:Nat) vj.length vj.length) <|
 .zd (vj.length=vj.length) <|
 .ret (.inr vj))
def th f3 x6 x7 s:=T.loop (kE f3 x6 x7) s
def kN(f4:Form)(x9:(List Field))(Qv:Int):(Int×(List zf))→T ((Int×(List zf))⊕((List zf)))
 | (x11,xs6) =>
 .ite (decide (x11<Qv))
  (.zd (zi x11 x9.length) <|
 .zd (xF xs6.length xs6.length (0:Nat) xs6.length xs6.length (1:Nat) (16:Nat)) <|
 .zd (zh (xs6.length+(1:Nat)) (0:Nat) (xs6.length+(1:Nat)) (List.length (xs6++([(nth x9 x11 (zb qc)).1]:List zf)))) <|
 .zd ((xs6.length+(1:Nat))=(List.length (xs6++([(nth x9 x11 (zb qc)).1]:List zf)))) <|
 .ret (.inl ((zu (x11+1)),(xs6++([(nth x9 x11 (zb qc)).1]:List zf)))))
  (.zd (zh xs6.length (0:Nat) xs6.length xs6.length) <|
 .zd (xs6.length=xs6.length) <|
 .ret (.inr xs6))
def sT f4 x9 Qv s:=T.loop (kN f4 x9 Qv) s
def kB(f5:Form)(x12:(List uP))(x13:Int):(Int×(List zf))→T ((Int×(List zf))⊕((List zf)))
 | (x14,eC) =>
 .ite (decide (x14<x13))
  (.zd (zi x14 x12.length) <|
 .zd (xF eC.length eC.length (0:Nat) eC.length eC.length (1:Nat) (16:Nat)) <|
 .zd (zh (eC.length+(1:Nat)) (0:Nat) (eC.length+(1:Nat)) (List.length (eC++([(nth x12 x14 (zb zl)).1]:List zf)))) <|
 .zd ((eC.length+(1:Nat))=(List.length (eC++([(nth x12 x14 (zb zl)).1]:List zf)))) <|
 .ret (.inl ((zu (x14+1)),(eC++([(nth x12 x14 (zb zl)).1]:List zf)))))
  (.zd (zh eC.length (0:Nat) eC.length eC.length) <|
 .zd (eC.length=eC.length) <|
 .ret (.inr eC))
def tu f5 x12 x13 s:=T.loop (kB f5 x12 x13) s
def kh(x15:(List Check))(x16:Int):(Int×(List zf))→T ((Int×(List zf))⊕((List zf)))
 | (x17,xs10) =>
 .ite (decide (x17<x16))
  (.zd (zi x17 x15.length) <|
 .zd (xF xs10.length xs10.length (0:Nat) xs10.length xs10.length (1:Nat) (16:Nat)) <|
 .zd (zh (xs10.length+(1:Nat)) (0:Nat) (xs10.length+(1:Nat)) (List.length (xs10++([(nth x15 x17 (zb zn)).1]:List zf)))) <|
 .zd ((xs10.length+(1:Nat))=(List.length (xs10++([(nth x15 x17 (zb zn)).1]:List zf)))) <|
 .ret (.inl ((zu (x17+1)),(xs10++([(nth x15 x17 (zb zn)).1]:List zf)))))
  (.zd (zh xs10.length (0:Nat) xs10.length xs10.length) <|
 .zd (xs10.length=xs10.length) <|
 .ret (.inr xs10))
def rU x15 x16 s:=T.loop (kh x15 x16) s
def lF(f:Form):T (List zf) :=
 .zd (zh (0:Nat) (0:Nat) (0:Nat) (0:Nat)) <|
 .zd ((0:Nat)=(0:Nat)) <|
 T.bind (td f f.1 (f.1.length:Int) ((0:Int),([]:List zf))) fun zE =>
 .zd (zh zE.length (0:Nat) zE.length zE.length) <|
 .zd (zE.length=zE.length) <|
 T.bind (su f f.2.1 (f.2.1.length:Int) ((0:Int),zE)) fun qM =>
 .zd (zh qM.length (0:Nat) qM.length qM.length) <|
 .zd (qM.length=qM.length) <|
 T.bind (th f f.2.2.1 (f.2.2.1.length:Int) ((0:Int),qM)) fun jd =>
 .zd (zh jd.length (0:Nat) jd.length jd.length) <|
 .zd (jd.length=jd.length) <|
 T.bind (sT f f.2.2.2.1 (f.2.2.2.1.length:Int) ((0:Int),jd)) fun vP =>
 .zd (zh vP.length (0:Nat) vP.length vP.length) <|
 .zd (vP.length=vP.length) <|
 T.bind (tu f f.2.2.2.2.1 (f.2.2.2.2.1.length:Int) ((0:Int),vP)) fun rQ =>
 .zd (zh rQ.length (0:Nat) rQ.length rQ.length) <|
 .zd (rQ.length=rQ.length) <|
 T.bind (rU f.2.2.2.2.2.1 (f.2.2.2.2.2.1.length:Int) ((0:Int),rQ)) fun V1 =>
 .zd (V1.length=V1.length) <|
 .ret (List.drop (0:Nat) (List.take ((0:Nat)+V1.length) V1))
def Zg:List zf→List zf→zf×Bool
 | _,[]=>([],false)
 | seen,x::r=>if x∈seen then(x,true)else Zg (seen++[x]) r
def lV(l:List zf):T (zf×Bool):=.zd (List.length l*16≤140737488351232∧∀ s∈l,List.length s≤9223372036854775807)<|.ret (Zg [] l)
def w6(x:Switch)(c1:zf):T Bool :=
 .ret (zM x.1 c1)
def wJ(s:zf)(c1:Form):T Bool :=
 .ite (!(zM s ([]:zf)))
  (T.bind (qD c1.1 (fun z0=>w6 z0 s)) fun r =>
 .ret (!r))
  (.ret false)
def qg(s1:(List zf))(f:zf→T Bool)(x:Int):Int→T (Int⊕(Unit⊕Int))
 | x1 =>
 .ite (decide (x1<x))
  (.zd (zi x1 s1.length) <|
 T.bind (f (nth s1 x1 (zb .str))) fun r =>
 .ite r
  (.ret (.inr (.inr x1)))
  (.ret (.inl (zu (x1+1)))))
  (.ret (.inr (.inl ())))
def va s1 f x s:=T.loop (qg s1 f x) s
def qp(s:(List zf))(f:zf→T Bool):T Int :=
 T.bind (va s f (s.length:Int) (0:Int)) <|
 Sum.elim (fun _ =>
 .ret (-1:Int))
  (fun x2 =>
 .ret x2)
def vD(f1:Form)(x:(List tr))(x1:Int):(Int×(List zf))→T ((Int×(List zf))⊕((List zf)))
 | (x2,xs) =>
 .ite (decide (x2<x1))
  (.zd (zi x2 x.length) <|
 .zd (xF xs.length xs.length (0:Nat) xs.length xs.length (1:Nat) (16:Nat)) <|
 .zd (zh (xs.length+(1:Nat)) (0:Nat) (xs.length+(1:Nat)) (List.length (xs++([(nth x x2 (zb qy)).2.1]:List zf)))) <|
 .zd ((xs.length+(1:Nat))=(List.length (xs++([(nth x x2 (zb qy)).2.1]:List zf)))) <|
 .ret (.inl ((zu (x2+1)),(xs++([(nth x x2 (zb qy)).2.1]:List zf)))))
  (.zd (zh xs.length (0:Nat) xs.length xs.length) <|
 .zd (xs.length=xs.length) <|
 .ret (.inr xs))
def fR f1 x x1 s:=T.loop (vD f1 x x1) s
def vJ(f2:Form)(x3:(List uP))(x4:Int):(Int×(List zf))→T ((Int×(List zf))⊕((List zf)))
 | (x5,zV) =>
 .ite (decide (x5<x4))
  (.zd (zi x5 x3.length) <|
 .zd (xF zV.length zV.length (0:Nat) zV.length zV.length (1:Nat) (16:Nat)) <|
 .zd (zh (zV.length+(1:Nat)) (0:Nat) (zV.length+(1:Nat)) (List.length (zV++([(nth x3 x5 (zb zl)).2.2.1]:List zf)))) <|
 .zd ((zV.length+(1:Nat))=(List.length (zV++([(nth x3 x5 (zb zl)).2.2.1]:List zf)))) <|
 .ret (.inl ((zu (x5+1)),(zV++([(nth x3 x5 (zb zl)).2.2.1]:List zf)))))
  (.zd (zh zV.length (0:Nat) zV.length zV.length) <|
 .zd (zV.length=zV.length) <|
 .ret (.inr zV))
def iM f2 x3 x4 s:=T.loop (vJ f2 x3 x4) s
def gp(f:Form):T (zf×Bool) :=
 .zd (zh (0:Nat) (0:Nat) (0:Nat) (0:Nat)) <|
 .zd ((0:Nat)=(0:Nat)) <|
 T.bind (fR f f.2.2.1 (f.2.2.1.length:Int) ((0:Int),([]:List zf))) fun zE =>
 .zd (zh zE.length (0:Nat) zE.length zE.length) <|
 .zd (zE.length=zE.length) <|
 T.bind (iM f f.2.2.2.2.1 (f.2.2.2.2.1.length:Int) ((0:Int),zE)) fun qM =>
 .zd (qM.length=qM.length) <|
 T.bind (qp (List.drop (0:Nat) (List.take ((0:Nat)+qM.length) qM)) (fun z0=>wJ z0 f)) fun i =>
 .ite (decide (i<(0:Int)))
  (.ret (([]:zf),false))
  (.zd (zi i qM.length) <|
 .zd (lh qM.length qM.length ((0:Nat)+(Int.toNat i)) qM.length) <|
 .ret ((xp qM ((0:Nat)+(Int.toNat i)) (zb .str)),true))
def qx(s1:(List zf))(v1:zf)(x:Int):Int→T (Int⊕(Unit⊕Int))
 | x1 =>
 .ite (decide (x1<x))
  (.zd (zi x1 s1.length) <|
 .ite (zM v1 (nth s1 x1 (zb .str)))
  (.ret (.inr (.inr x1)))
  (.ret (.inl (zu (x1+1)))))
  (.ret (.inr (.inl ())))
def vY s1 v1 x s:=T.loop (qx s1 v1 x) s
def qB(s:(List zf))(v:zf):T Int :=
 T.bind (vY s v (s.length:Int) (0:Int)) <|
 Sum.elim (fun _ =>
 .ret (-1:Int))
  (fun x2 =>
 .ret x2)
def qW(s:(List zf))(v:zf):T Bool :=
 T.bind (qB s v) fun r =>
 .ret (decide ((0:Int)≤r))
def gi(jk:AM.Expr→(List zf)→T (List zf))(x1:(List AM.Expr))(x2:Int):(Int×(List zf))→T ((Int×(List zf))⊕((List zf)))
 | (x3,zV) =>
 .ite (decide (x3<x2))
  (.zd (zi x3 x1.length) <|
 .zd (zh zV.length (0:Nat) zV.length zV.length) <|
 .zd (zV.length=zV.length) <|
 T.bind (jk (nth x1 x3 (zb .expr)) zV) fun l1 =>
 .zd (zh l1.length (0:Nat) l1.length l1.length) <|
 .zd (l1.length=l1.length) <|
 .ret (.inl ((zu (x3+1)),l1)))
  (.zd (zh zV.length (0:Nat) zV.length zV.length) <|
 .zd (zV.length=zV.length) <|
 .ret (.inr zV))
def pZ jk x1 x2 s:=T.loop (gi jk x1 x2) s
def bL(jk:AM.Expr→(List zf)→T (List zf))(e:AM.Expr)(l:(List zf)):T (List zf) :=
 T.bind (T.bind (.ite ((Expr.kind e)==2)
  (.zd (l.length=l.length) <|
 T.bind (qW (List.drop (0:Nat) (List.take ((0:Nat)+l.length) l)) (Expr.name e)) fun r =>
 .zd (zh l.length (0:Nat) l.length l.length) <|
 .zd (l.length=l.length) <|
 .ret ((!r),l))
  (.zd (zh l.length (0:Nat) l.length l.length) <|
 .zd (l.length=l.length) <|
 .ret (false,l)):T ((Bool×(List zf)))) fun(x,xs) =>
 .ite x
  (.zd (xF xs.length xs.length (0:Nat) xs.length xs.length (1:Nat) (16:Nat)) <|
 .zd (zh (xs.length+(1:Nat)) (0:Nat) (xs.length+(1:Nat)) (List.length (xs++([(Expr.name e)]:List zf)))) <|
 .zd ((xs.length+(1:Nat))=(List.length (xs++([(Expr.name e)]:List zf)))) <|
 .ret (xs++([(Expr.name e)]:List zf)))
  (.zd (zh xs.length (0:Nat) xs.length xs.length) <|
 .zd (xs.length=xs.length) <|
 .ret xs):T ((List zf))) fun zE =>
 .zd (zh zE.length (0:Nat) zE.length zE.length) <|
 .zd (zE.length=zE.length) <|
 T.bind (pZ jk (Expr.kids e) ((Expr.kids e).length:Int) ((0:Int),zE)) fun qM =>
 .zd (zh qM.length (0:Nat) qM.length qM.length) <|
 .zd (qM.length=qM.length) <|
 .ret qM
def eU(e:AM.Expr)(l:(List zf)):T (List zf):=T.fix (fun F x=>bL (fun y0 y1=>F (y0,y1)) x.1 x.2) (e,l)
def y3(x1:(List AM.Expr))(x2:Int):(Int×(List zf))→T ((Int×(List zf))⊕((List zf)))
 | (x3,zV) =>
 .ite (decide (x3<x2))
  (.zd (zi x3 x1.length) <|
 .zd (zh zV.length (0:Nat) zV.length zV.length) <|
 .zd (zV.length=zV.length) <|
 T.bind (eU (nth x1 x3 (zb .expr)) zV) fun l1 =>
 .zd (zh l1.length (0:Nat) l1.length l1.length) <|
 .zd (l1.length=l1.length) <|
 .ret (.inl ((zu (x3+1)),l1)))
  (.zd (zh zV.length (0:Nat) zV.length zV.length) <|
 .zd (zV.length=zV.length) <|
 .ret (.inr zV))
def mP x1 x2 s:=T.loop (y3 x1 x2) s
def cW(e:AM.Expr)(l:(List zf)):T (List zf) :=
 T.bind (T.bind (.ite ((Expr.kind e)==2)
  (.zd (l.length=l.length) <|
 T.bind (qW (List.drop (0:Nat) (List.take ((0:Nat)+l.length) l)) (Expr.name e)) fun r =>
 .zd (zh l.length (0:Nat) l.length l.length) <|
 .zd (l.length=l.length) <|
 .ret ((!r),l))
  (.zd (zh l.length (0:Nat) l.length l.length) <|
 .zd (l.length=l.length) <|
 .ret (false,l)):T ((Bool×(List zf)))) fun(x,xs) =>
 .ite x
  (.zd (xF xs.length xs.length (0:Nat) xs.length xs.length (1:Nat) (16:Nat)) <|
 .zd (zh (xs.length+(1:Nat)) (0:Nat) (xs.length+(1:Nat)) (List.length (xs++([(Expr.name e)]:List zf)))) <|
 .zd ((xs.length+(1:Nat))=(List.length (xs++([(Expr.name e)]:List zf)))) <|
 .ret (xs++([(Expr.name e)]:List zf)))
  (.zd (zh xs.length (0:Nat) xs.length xs.length) <|
 .zd (xs.length=xs.length) <|
 .ret xs):T ((List zf))) fun zE =>
 .zd (zh zE.length (0:Nat) zE.length zE.length) <|
 .zd (zE.length=zE.length) <|
 T.bind (mP (Expr.kids e) ((Expr.kids e).length:Int) ((0:Int),zE)) fun qM =>
 .zd (zh qM.length (0:Nat) qM.length qM.length) <|
 .zd (qM.length=qM.length) <|
 .ret qM
def jU(e:AM.Expr):T (List zf) :=
 .zd (zh (0:Nat) (0:Nat) (0:Nat) (0:Nat)) <|
 .zd ((0:Nat)=(0:Nat)) <|
 T.bind (cW e ([]:List zf)) fun xs =>
 .zd (xs.length=xs.length) <|
 .ret (List.drop (0:Nat) (List.take ((0:Nat)+xs.length) xs))
def wg(l:List (List zf)):T (List zf):=.zd (List.length l*24≤140737488351232∧List.length (List.flatten l)*16≤140737488355328∧l≠[])<|.ret (List.flatten l)
def wv(p:Param)(c1:zf):T Bool :=
 .ret (zM p.1 c1)
def vw(s:zf)(c1:(List zf))(c2:Form):T Bool :=
 T.bind (qW c1 s) fun r =>
 .ite (!r)
  (T.bind (qH c2.2.1 (fun z0=>wv z0 s)) fun r1 =>
 .ret (!r1))
  (.ret false)
def j3(f1:Form)(kX:(List zf))(x:(List Check))(x1:Int):((List zf)×Int)→T (((List zf)×Int)⊕((List zf)))
 | (l,x2) =>
 .ite (decide (x2<x1))
  (.zd (zi x2 x.length) <|
 T.bind (jU (Expr.mk (Expr.kind (nth x x2 (zb zn)).2.2.2.1) ((Expr.num (nth x x2 (zb zn)).2.2.2.1).1,((Expr.num (nth x x2 (zb zn)).2.2.2.1).2.1,((Expr.num (nth x x2 (zb zn)).2.2.2.1).2.2.1,()))) (Expr.name (nth x x2 (zb zn)).2.2.2.1) (Expr.kids (nth x x2 (zb zn)).2.2.2.1))) fun r =>
 T.bind (jU (Expr.mk (Expr.kind (nth x x2 (zb zn)).2.2.2.2.1) ((Expr.num (nth x x2 (zb zn)).2.2.2.2.1).1,((Expr.num (nth x x2 (zb zn)).2.2.2.2.1).2.1,((Expr.num (nth x x2 (zb zn)).2.2.2.2.1).2.2.1,()))) (Expr.name (nth x x2 (zb zn)).2.2.2.2.1) (Expr.kids (nth x x2 (zb zn)).2.2.2.2.1))) fun r1 =>
 T.bind (wg ([l,r,r1]:List (List zf))) fun l1 =>
 .ret (.inl (l1,(zu (x2+1)))))
  (.ret (.inr l))
def ns f1 kX x x1 s:=T.loop (j3 f1 kX x x1) s
def uZ(f2:Form)(oN:(List zf))(x3:(List uP))(x4:Int):((List zf)×Int)→T (((List zf)×Int)⊕((List zf)))
 | (l3,x5) =>
 .ite (decide (x5<x4))
  (.zd (zi x5 x3.length) <|
 T.bind (jU (Expr.mk (Expr.kind (nth x3 x5 (zb zl)).2.2.2.1) ((Expr.num (nth x3 x5 (zb zl)).2.2.2.1).1,((Expr.num (nth x3 x5 (zb zl)).2.2.2.1).2.1,((Expr.num (nth x3 x5 (zb zl)).2.2.2.1).2.2.1,()))) (Expr.name (nth x3 x5 (zb zl)).2.2.2.1) (Expr.kids (nth x3 x5 (zb zl)).2.2.2.1))) fun r2 =>
 T.bind (jU (Expr.mk (Expr.kind (nth x3 x5 (zb zl)).2.2.2.2.1) ((Expr.num (nth x3 x5 (zb zl)).2.2.2.2.1).1,((Expr.num (nth x3 x5 (zb zl)).2.2.2.2.1).2.1,((Expr.num (nth x3 x5 (zb zl)).2.2.2.2.1).2.2.1,()))) (Expr.name (nth x3 x5 (zb zl)).2.2.2.2.1) (Expr.kids (nth x3 x5 (zb zl)).2.2.2.2.1))) fun r3 =>
 T.bind (wg ([l3,r2,r3]:List (List zf))) fun l4 =>
 .ret (.inl (l4,(zu (x5+1)))))
  (.ret (.inr l3))
def nf f2 oN x3 x4 s:=T.loop (uZ f2 oN x3 x4) s
def cX(f:Form)(fields:(List zf)):T (zf×Bool) :=
 T.bind (ns f fields f.2.2.2.2.2.1 (f.2.2.2.2.2.1.length:Int) (([]:List zf),(0:Int))) fun l2 =>
 T.bind (nf f fields f.2.2.2.2.1 (f.2.2.2.2.1.length:Int) (l2,(0:Int))) fun l5 =>
 T.bind (qp l5 (fun z0=>vw z0 fields f)) fun i =>
 .ite (decide (i<(0:Int)))
  (.ret (([]:zf),false))
  (.zd (zi i l5.length) <|
 .ret ((nth l5 i (zb .str)),true))
def wN(name:zf)(c1:(List zf)):T Bool :=
 T.bind (qW c1 name) fun r =>
 .ret r
def xY(s:(List zf))(f:zf→T Bool):T Bool :=
 T.bind (qp s f) fun r =>
 .ret (decide ((0:Int)≤r))
def gP(e:AM.Expr)(fields:(List zf)):T Bool :=
 T.bind (jU e) fun r =>
 T.bind (xY r (fun z0=>wN z0 fields)) fun r1 =>
 .ret r1
def xQ(xe:AM.Expr→(List zf)→T Bool)(k:AM.Expr)(c1:(List zf)):T Bool :=
 T.bind (xe k c1) fun r =>
 .ret (!r)
def xH(xe:AM.Expr→(List zf)→T Bool)(s1:(List AM.Expr))(f:AM.Expr→T Bool)(x:Int):Int→T (Int⊕(Unit⊕Int))
 | x1 =>
 .ite (decide (x1<x))
  (.zd (zi x1 s1.length) <|
 T.bind (f (nth s1 x1 (zb .expr))) fun r =>
 .ite r
  (.ret (.inr (.inr x1)))
  (.ret (.inl (zu (x1+1)))))
  (.ret (.inr (.inl ())))
def jF xe s1 f x s:=T.loop (xH xe s1 f x) s
def wQ(xe:AM.Expr→(List zf)→T Bool)(s:(List AM.Expr))(f:AM.Expr→T Bool):T Int :=
 T.bind (jF xe s f (s.length:Int) (0:Int)) <|
 Sum.elim (fun _ =>
 .ret (-1:Int))
  (fun x2 =>
 .ret x2)
def wk(xe:AM.Expr→(List zf)→T Bool)(s:(List AM.Expr))(f:AM.Expr→T Bool):T Bool :=
 T.bind ((wQ xe) s f) fun r =>
 .ret (decide ((0:Int)≤r))
def bN(xe:AM.Expr→(List zf)→T Bool)(e:AM.Expr)(fields:(List zf)):T Bool :=
 T.bind (.ite (((Expr.kids e).length:Int)==(2:Int))
  (.zd (zi (0:Int) (Expr.kids e).length) <|
 .zd (zi (1:Int) (Expr.kids e).length) <|
 T.bind (.ite ((Expr.kind e)==5)
  (T.bind (gP (nth (Expr.kids e) (0:Int) (zb .expr)) fields) fun r =>
 .ite r
  (T.bind (gP (nth (Expr.kids e) (1:Int) (zb .expr)) fields) fun r1 =>
 .ite r1
  (.ret (true,((nth (Expr.kids e) (0:Int) (zb .expr)),(nth (Expr.kids e) (1:Int) (zb .expr)))))
  (.ite ((Expr.kind e)==6)
  (T.bind (gP (nth (Expr.kids e) (1:Int) (zb .expr)) fields) fun r2 =>
 .ret (r2,((nth (Expr.kids e) (0:Int) (zb .expr)),(nth (Expr.kids e) (1:Int) (zb .expr)))))
  (.ret (false,((nth (Expr.kids e) (0:Int) (zb .expr)),(nth (Expr.kids e) (1:Int) (zb .expr)))))))
  (.ite ((Expr.kind e)==6)
  (T.bind (gP (nth (Expr.kids e) (1:Int) (zb .expr)) fields) fun r3 =>
 .ret (r3,((nth (Expr.kids e) (0:Int) (zb .expr)),(nth (Expr.kids e) (1:Int) (zb .expr)))))
  (.ret (false,((nth (Expr.kids e) (0:Int) (zb .expr)),(nth (Expr.kids e) (1:Int) (zb .expr)))))))
  (.ite ((Expr.kind e)==6)
  (T.bind (gP (nth (Expr.kids e) (1:Int) (zb .expr)) fields) fun r4 =>
 .ret (r4,((nth (Expr.kids e) (0:Int) (zb .expr)),(nth (Expr.kids e) (1:Int) (zb .expr)))))
  (.ret (false,((nth (Expr.kids e) (0:Int) (zb .expr)),(nth (Expr.kids e) (1:Int) (zb .expr)))))):T ((Bool×AM.Expr×AM.Expr))) fun(x,v,v1) =>
 .ite x
  (.ret (.inr false))
  (.ret (.inl ())))
  (.ret (.inl ())):T (Unit⊕Bool)) <|
 Sum.elim (fun _ =>
 T.bind ((wk xe) (Expr.kids e) (fun z0=>(xQ xe) z0 fields)) fun r5 =>
 .ret (!r5))
  (fun x1 =>
 .ret x1)
def bR(e:AM.Expr)(fields:(List zf)):T Bool:=T.fix (fun F x=>bN (fun y0 y1=>F (y0,y1)) x.1 x.2) (e,fields)
def jl(f1:Form)(x:(List Field))(x1:Int):(Int×(List zf))→T ((Int×(List zf))⊕((List zf)))
 | (x2,xs) =>
 .ite (decide (x2<x1))
  (.zd (zi x2 x.length) <|
 .zd (xF xs.length xs.length (0:Nat) xs.length xs.length (1:Nat) (16:Nat)) <|
 .zd (zh (xs.length+(1:Nat)) (0:Nat) (xs.length+(1:Nat)) (List.length (xs++([(nth x x2 (zb qc)).1]:List zf)))) <|
 .zd ((xs.length+(1:Nat))=(List.length (xs++([(nth x x2 (zb qc)).1]:List zf)))) <|
 .ret (.inl ((zu (x2+1)),(xs++([(nth x x2 (zb qc)).1]:List zf)))))
  (.zd (zh xs.length (0:Nat) xs.length xs.length) <|
 .zd (xs.length=xs.length) <|
 .ret (.inr xs))
def pM f1 x x1 s:=T.loop (jl f1 x x1) s
def jn(x3:(List uP))(x4:Int):(Int×(List zf))→T ((Int×(List zf))⊕((List zf)⊕(Int×zf×(List zf))))
 | (x5,zV) =>
 .ite (decide (x5<x4))
  (.zd (zi x5 x3.length) <|
 T.bind (.zd (zV.length=zV.length) <|
 T.bind (bR (Expr.mk (Expr.kind (nth x3 x5 (zb zl)).2.2.2.1) ((Expr.num (nth x3 x5 (zb zl)).2.2.2.1).1,((Expr.num (nth x3 x5 (zb zl)).2.2.2.1).2.1,((Expr.num (nth x3 x5 (zb zl)).2.2.2.1).2.2.1,()))) (Expr.name (nth x3 x5 (zb zl)).2.2.2.1) (Expr.kids (nth x3 x5 (zb zl)).2.2.2.1)) (List.drop (0:Nat) (List.take ((0:Nat)+zV.length) zV))) fun r2 =>
 .ite (!r2)
  (.zd (zh zV.length (0:Nat) zV.length zV.length) <|
 .zd (zV.length=zV.length) <|
 .ret (true,(zV,(nth x3 x5 (zb zl)))))
  (.zd (zV.length=zV.length) <|
 T.bind (bR (Expr.mk (Expr.kind (nth x3 x5 (zb zl)).2.2.2.2.1) ((Expr.num (nth x3 x5 (zb zl)).2.2.2.2.1).1,((Expr.num (nth x3 x5 (zb zl)).2.2.2.2.1).2.1,((Expr.num (nth x3 x5 (zb zl)).2.2.2.2.1).2.2.1,()))) (Expr.name (nth x3 x5 (zb zl)).2.2.2.2.1) (Expr.kids (nth x3 x5 (zb zl)).2.2.2.2.1)) (List.drop (0:Nat) (List.take ((0:Nat)+zV.length) zV))) fun r3 =>
 .zd (zh zV.length (0:Nat) zV.length zV.length) <|
 .zd (zV.length=zV.length) <|
 .ret ((!r3),(zV,(nth x3 x5 (zb zl))))):T ((Bool×(List zf)×uP))) fun(x6,qM,v) =>
 .ite x6
  (.zd (qM.length=qM.length) <|
 .ret (.inr (.inr ((6:Int),(v.1,qM)))))
  (.zd (zh qM.length (0:Nat) qM.length qM.length) <|
 .zd (qM.length=qM.length) <|
 .ret (.inl ((zu (x5+1)),qM))))
  (.zd (zV.length=zV.length) <|
 .ret (.inr (.inl zV)))
def rh x3 x4 s:=T.loop (jn x3 x4) s
def fq(f:Form):T (Int×zf) :=
 T.bind (QR f) fun r =>
 .ite (!r)
  (.ret ((2:Int),([]:zf)))
  (.ite ((decide ((64:Int)<(f.2.2.2.1.length:Int)))||(decide ((64:Int)<(f.2.2.2.2.1.length:Int))))
  (.ret ((3:Int),([]:zf)))
  (T.bind (lF f) fun r1 =>
 T.bind (lV r1) fun(name,ok) =>
 .ite ok
  (.ret ((5:Int),name))
  (T.bind (gp f) fun(name1,ok1) =>
 .ite ok1
  (.ret ((5:Int),name1))
  (.zd (zh (0:Nat) (0:Nat) (0:Nat) (0:Nat)) <|
 .zd ((0:Nat)=(0:Nat)) <|
 T.bind (pM f f.2.2.2.1 (f.2.2.2.1.length:Int) ((0:Int),([]:List zf))) fun zE =>
 .zd (zE.length=zE.length) <|
 T.bind (cX f (List.drop (0:Nat) (List.take ((0:Nat)+zE.length) zE))) fun(name2,ok2) =>
 .ite ok2
  (.ret ((5:Int),name2))
  (.zd (zh zE.length (0:Nat) zE.length zE.length) <|
 .zd (zE.length=zE.length) <|
 T.bind (rh f.2.2.2.2.1 (f.2.2.2.2.1.length:Int) ((0:Int),zE)) <|
 Sum.elim (fun vj =>
 .ret ((0:Int),([]:zf)))
  (fun(x7,x8,jd) =>
 .ret (x7,x8)))))))
def wS(a:Rat):T Bool :=
 T.bind (ta a) fun r =>
 .ite (!r)
  (.ret true)
  (T.bind (uX a) fun r1 =>
 .ret r1)
def xO(s1:(List Rat))(f:Rat→T Bool)(x:Int):Int→T (Int⊕(Unit⊕Int))
 | x1 =>
 .ite (decide (x1<x))
  (.zd (zi x1 s1.length) <|
 T.bind (f (nth s1 x1 (zb zt))) fun r =>
 .ite r
  (.ret (.inr (.inr x1)))
  (.ret (.inl (zu (x1+1)))))
  (.ret (.inr (.inl ())))
def kK s1 f x s:=T.loop (xO s1 f x) s
def vd(s:(List Rat))(f:Rat→T Bool):T Int :=
 T.bind (kK s f (s.length:Int) (0:Int)) <|
 Sum.elim (fun _ =>
 .ret (-1:Int))
  (fun x2 =>
 .ret x2)
def xn(s:(List Rat))(f:Rat→T Bool):T Bool :=
 T.bind (vd s f) fun r =>
 .ret (decide ((0:Int)≤r))
def ko(x:(List Field))(x1:Int):(Int×(List zf))→T ((Int×(List zf))⊕((List zf)))
 | (x2,xs) =>
 .ite (decide (x2<x1))
  (.zd (zi x2 x.length) <|
 .zd (xF xs.length xs.length (0:Nat) xs.length xs.length (1:Nat) (16:Nat)) <|
 .zd (zh (xs.length+(1:Nat)) (0:Nat) (xs.length+(1:Nat)) (List.length (xs++([(nth x x2 (zb qc)).1]:List zf)))) <|
 .zd ((xs.length+(1:Nat))=(List.length (xs++([(nth x x2 (zb qc)).1]:List zf)))) <|
 .ret (.inl ((zu (x2+1)),(xs++([(nth x x2 (zb qc)).1]:List zf)))))
  (.zd (zh xs.length (0:Nat) xs.length xs.length) <|
 .zd (xs.length=xs.length) <|
 .ret (.inr xs))
def tb x x1 s:=T.loop (ko x x1) s
def mb(f:Form):T (List zf) :=
 .zd (zh (0:Nat) (0:Nat) (0:Nat) (0:Nat)) <|
 .zd ((0:Nat)=(0:Nat)) <|
 T.bind (tb f.2.2.2.1 (f.2.2.2.1.length:Int) ((0:Int),([]:List zf))) fun zE =>
 .zd (zE.length=zE.length) <|
 .ret (List.drop (0:Nat) (List.take ((0:Nat)+zE.length) zE))
def uI(s:(List Rat)):T (List Rat) :=
 .zd (s=[]→∀ r,T.leads (.zd (xF (0:Nat) (0:Nat) (0:Nat) (0:Nat) (0:Nat) s.length (56:Nat)) <|
 .zd (((0:Nat)+s.length)=((0:Nat)+s.length)) <|
 .ret (List.drop (0:Nat) (List.take ((0:Nat)+((0:Nat)+s.length)) s)):T _) r→T.leads (.ret ([]:List Rat):T _) r) <|
 .zd (xF (0:Nat) (0:Nat) (0:Nat) (0:Nat) (0:Nat) s.length (56:Nat)) <|
 .zd (((0:Nat)+s.length)=((0:Nat)+s.length)) <|
 .ret (List.drop (0:Nat) (List.take ((0:Nat)+((0:Nat)+s.length)) s))
def du(x:(List Param))(x1:Int):(Int×((List Rat)×Unit)×((List zf)×(List Rat)×Unit)×(List zf)×(List zf)×(List zf))→T ((Int×((List Rat)×Unit)×((List zf)×(List Rat)×Unit)×(List zf)×(List zf)×(List zf))⊕((((List Rat)×Unit)×((List zf)×(List Rat)×Unit)×(List zf)×(List zf)×(List zf))))
 | (x2,v,v1,xs,zE,zV) =>
 .ite (decide (x2<x1))
  (.zd (zi x2 x.length) <|
 .zd (xF zV.length zV.length (0:Nat) zV.length zV.length (1:Nat) (16:Nat)) <|
 .zd (zh xs.length (0:Nat) xs.length xs.length) <|
 .zd (zh zE.length (0:Nat) zE.length zE.length) <|
 .zd (zh (zV.length+(1:Nat)) (0:Nat) (zV.length+(1:Nat)) (List.length (zV++([(nth x x2 (zb q8)).1]:List zf)))) <|
 .zd (xs.length=xs.length) <|
 .zd (zE.length=zE.length) <|
 .zd ((zV.length+(1:Nat))=(List.length (zV++([(nth x x2 (zb q8)).1]:List zf)))) <|
 .ret (.inl ((zu (x2+1)),((v.1,()),((v1.1,(v1.2.1,())),(xs,(zE,(zV++([(nth x x2 (zb q8)).1]:List zf)))))))))
  (.zd (zh xs.length (0:Nat) xs.length xs.length) <|
 .zd (zh zE.length (0:Nat) zE.length zE.length) <|
 .zd (zh zV.length (0:Nat) zV.length zV.length) <|
 .zd (xs.length=xs.length) <|
 .zd (zE.length=zE.length) <|
 .zd (zV.length=zV.length) <|
 .ret (.inr ((v.1,()),((v1.1,(v1.2.1,())),(xs,(zE,zV))))))
def Vu x x1 s:=T.loop (du x x1) s
def tp(f:Form)(params:(List Rat)):T zB :=
 T.bind (mb f) fun r =>
 T.bind (uI params) fun r1 =>
 .zd (zh (0:Nat) (0:Nat) (0:Nat) (0:Nat)) <|
 .zd (zh (0:Nat) (0:Nat) (0:Nat) (0:Nat)) <|
 .zd (zh (0:Nat) (0:Nat) (0:Nat) (0:Nat)) <|
 .zd ((0:Nat)=(0:Nat)) <|
 .zd ((0:Nat)=(0:Nat)) <|
 .zd ((0:Nat)=(0:Nat)) <|
 T.bind (Vu f.2.1 (f.2.1.length:Int) ((0:Int),((([]:List Rat),()),((r,(r1,())),(([]:List zf),(([]:List zf),([]:List zf))))))) fun(v2,v3,qM,vj,jd) =>
 .zd (jd.length=jd.length) <|
 .ret (v3.1,((List.drop (0:Nat) (List.take ((0:Nat)+jd.length) jd)),(v3.2.1,())))
def y6(s:Switch)(c1:zf):T Bool :=
 .ret (zM s.1 c1)
def tM(f:Form)(on:(List Bool))(when:zf):T Bool :=
 T.bind (qq f.1 (fun z0=>y6 z0 when)) fun i =>
 .zd (((zM when ([]:zf))=false)→(((decide ((0:Int)≤i))=true)→(zi i on.length))) <|
 .ret ((zM when ([]:zf))||((decide ((0:Int)≤i))&&(nth on i (zb .bool))))
def j6(n:Int):T Rat :=
 T.bind (jV (bif (decide (n<(0:Int)))then(zx ((0:Int)-(zx n)))else(zx n))) fun r =>
 T.bind (jV (1:Int)) fun r1 =>
 .ret ((decide (n<(0:Int))),(r,(r1,())))
def Za(val:(List Rat))(i:Int):T Rat :=
 .ite ((decide (i<(0:Int)))||(decide ((val.length:Int)≤i)))
  (T.bind (j6 (0:Int)) fun r =>
 .ret r)
  (.zd (zi i val.length) <|
 T.bind (xV (nth val i (zb zt))) fun r1 =>
 .ret r1)
def Z9(name:zf)(v:zB):T (wF×Int) :=
 T.bind (qB v.1 name) fun i =>
 .ite (decide ((0:Int)≤i))
  (T.bind (j6 (1:Int)) fun r =>
 T.bind (j6 (0:Int)) fun r1 =>
 .ret (((0:Int),(([(i,((r.1,(r.2.1,(r.2.2.1,()))),()))]:List Term),((r1.1,(r1.2.1,(r1.2.2.1,()))),()))),(0:Int)))
  (T.bind (qB v.2.1 name) fun i1 =>
 .ite (decide (i1<(0:Int)))
  (.ret (((0:Int),(([]:List Term),((false,(([]:List Int),(([]:List Int),()))),()))),(5:Int)))
  (T.bind (Za v.2.2.1 i1) fun r2 =>
 .ret (((0:Int),(([]:List Term),((r2.1,(r2.2.1,(r2.2.2.1,()))),()))),(0:Int))))
def fh(a:Rat)(b:Rat):T Rat :=
 T.bind (xV a) fun r =>
 T.bind (xV b) fun r1 =>
 T.bind (bZ r.2.1 r1.2.1) fun r2 =>
 T.bind (bZ r.2.2.1 r1.2.2.1) fun r3 =>
 T.bind (pj (!(r.1==r1.1)) r2 r3) fun r4 =>
 .ret r4
def dm(a:Rat):T Bool :=
 T.bind (xV a) fun r =>
 .ret ((r.2.1.length:Int)==(0:Int))
def hZ(vb:Rat)(x:(List Term))(x1:Int):(Int×(Int×Bool×(List Int)×(List Int)×Unit)×(Int×Bool×(List Int)×(List Int)×Unit)×(List Term)×(List Term))→T ((Int×(Int×Bool×(List Int)×(List Int)×Unit)×(Int×Bool×(List Int)×(List Int)×Unit)×(List Term)×(List Term))⊕(((Int×Bool×(List Int)×(List Int)×Unit)×(Int×Bool×(List Int)×(List Int)×Unit)×(List Term)×(List Term))))
 | (x2,v,v1,xs,zE) =>
 .ite (decide (x2<x1))
  (.zd (zi x2 x.length) <|
 T.bind (fh ((nth x x2 (zb zp)).2.1.1,((nth x x2 (zb zp)).2.1.2.1,((nth x x2 (zb zp)).2.1.2.2.1,()))) vb) fun r1 =>
 T.bind (dm r1) fun r2 =>
 .ite (!r2)
  (.zd (xF zE.length zE.length (0:Nat) zE.length zE.length (1:Nat) (64:Nat)) <|
 .zd (zh xs.length (0:Nat) xs.length xs.length) <|
 .zd (zh (zE.length+(1:Nat)) (0:Nat) (zE.length+(1:Nat)) (List.length (zE++([((nth x x2 (zb zp)).1,((r1.1,(r1.2.1,(r1.2.2.1,()))),()))]:List Term)))) <|
 .zd (xs.length=xs.length) <|
 .zd ((zE.length+(1:Nat))=(List.length (zE++([((nth x x2 (zb zp)).1,((r1.1,(r1.2.1,(r1.2.2.1,()))),()))]:List Term)))) <|
 .ret (.inl ((zu (x2+1)),((v.1,(v.2.1,(v.2.2.1,(v.2.2.2.1,())))),((v1.1,(v1.2.1,(v1.2.2.1,(v1.2.2.2.1,())))),(xs,(zE++([((nth x x2 (zb zp)).1,((r1.1,(r1.2.1,(r1.2.2.1,()))),()))]:List Term))))))))
  (.zd (zh xs.length (0:Nat) xs.length xs.length) <|
 .zd (zh zE.length (0:Nat) zE.length zE.length) <|
 .zd (xs.length=xs.length) <|
 .zd (zE.length=zE.length) <|
 .ret (.inl ((zu (x2+1)),((v.1,(v.2.1,(v.2.2.1,(v.2.2.2.1,())))),((v1.1,(v1.2.1,(v1.2.2.1,(v1.2.2.2.1,())))),(xs,zE)))))))
  (.zd (zh xs.length (0:Nat) xs.length xs.length) <|
 .zd (zh zE.length (0:Nat) zE.length zE.length) <|
 .zd (xs.length=xs.length) <|
 .zd (zE.length=zE.length) <|
 .ret (.inr ((v.1,(v.2.1,(v.2.2.1,(v.2.2.2.1,())))),((v1.1,(v1.2.1,(v1.2.2.1,(v1.2.2.2.1,())))),(xs,zE)))))
def eW vb x x1 s:=T.loop (hZ vb x x1) s
def uM(a:wF)(vk:Rat):T wF :=
 T.bind (fh a.2.2.1 vk) fun r =>
 .zd (zh (0:Nat) (0:Nat) (0:Nat) (0:Nat)) <|
 .zd (zh (0:Nat) (0:Nat) (0:Nat) (0:Nat)) <|
 .zd ((0:Nat)=(0:Nat)) <|
 .zd ((0:Nat)=(0:Nat)) <|
 T.bind (eW vk a.2.1 (a.2.1.length:Int) ((0:Int),(((0:Int),(false,(([]:List Int),(([]:List Int),())))),((a.1,(r.1,(r.2.1,(r.2.2.1,())))),(([]:List Term),([]:List Term)))))) fun(v2,v3,zV,qM) =>
 .zd (qM.length=qM.length) <|
 .ret (v3.1,((List.drop (0:Nat) (List.take ((0:Nat)+qM.length) qM)),((v3.2.1,(v3.2.2.1,(v3.2.2.2.1,()))),())))
def oX(a2:(List Int))(b2:(List Int))(x:(List Int))(x1:Int):(Int×Int×(List Int))→T ((Int×Int×(List Int))⊕((Int×(List Int))))
 | (carry,x2,xs) =>
 .ite (decide (x2<x1))
  (.zd (zi x2 x.length) <|
 .zd (((decide (x2<(b2.length:Int)))=true)→(zi x2 b2.length)) <|
 .zd (zi x2 xs.length) <|
 .zd (lh xs.length xs.length ((0:Nat)+(Int.toNat x2)) xs.length) <|
 .zd ((0:Int)≤(32:Int)) <|
 .zd (zh xs.length (0:Nat) xs.length (List.length (List.set xs ((0:Nat)+(Int.toNat x2)) (qG (bif (decide (x2<(b2.length:Int)))then(zx ((zx (carry+(zx (nth x x2 (zb (.int .u32))))))+(zx (nth b2 x2 (zb (.int .u32))))))else(zx (carry+(zx (nth x x2 (zb (.int .u32))))))))))) <|
 .zd (xs.length=(List.length (List.set xs ((0:Nat)+(Int.toNat x2)) (qG (bif (decide (x2<(b2.length:Int)))then(zx ((zx (carry+(zx (nth x x2 (zb (.int .u32))))))+(zx (nth b2 x2 (zb (.int .u32))))))else(zx (carry+(zx (nth x x2 (zb (.int .u32))))))))))) <|
 .ret (.inl ((xc .u64 (bif (decide (x2<(b2.length:Int)))then(zx ((zx (carry+(zx (nth x x2 (zb (.int .u32))))))+(zx (nth b2 x2 (zb (.int .u32))))))else(zx (carry+(zx (nth x x2 (zb (.int .u32))))))) (32:Int)),((zu (x2+1)),(List.set xs ((0:Nat)+(Int.toNat x2)) (qG (bif (decide (x2<(b2.length:Int)))then(zx ((zx (carry+(zx (nth x x2 (zb (.int .u32))))))+(zx (nth b2 x2 (zb (.int .u32))))))else(zx (carry+(zx (nth x x2 (zb (.int .u32)))))))))))))
  (.zd (zh xs.length (0:Nat) xs.length xs.length) <|
 .zd (xs.length=xs.length) <|
 .ret (.inr (carry,xs)))
def Y0 a2 b2 x x1 s:=T.loop (oX a2 b2 x x1) s
def Xn(a:(List Int))(b:(List Int)):T (List Int) :=
 T.bind (xN a) fun a1 =>
 T.bind (xN b) fun b1 =>
 .zd (Wh (zu ((Nat.cast (List.length (bif (decide ((a1.length:Int)<(b1.length:Int)))then b1 else a1)):Int)+(1:Int))) (zu ((Nat.cast (List.length (bif (decide ((a1.length:Int)<(b1.length:Int)))then b1 else a1)):Int)+(1:Int))) (4:Nat)) <|
 .zd (zh (Int.toNat (zu ((Nat.cast (List.length (bif (decide ((a1.length:Int)<(b1.length:Int)))then b1 else a1)):Int)+(1:Int)))) (0:Nat) (Int.toNat (zu ((Nat.cast (List.length (bif (decide ((a1.length:Int)<(b1.length:Int)))then b1 else a1)):Int)+(1:Int)))) (List.length (List.replicate (Int.toNat (zu ((Nat.cast (List.length (bif (decide ((a1.length:Int)<(b1.length:Int)))then b1 else a1)):Int)+(1:Int)))) (0:Int)))) <|
 .zd ((Int.toNat (zu ((Nat.cast (List.length (bif (decide ((a1.length:Int)<(b1.length:Int)))then b1 else a1)):Int)+(1:Int))))=(List.length (List.replicate (Int.toNat (zu ((Nat.cast (List.length (bif (decide ((a1.length:Int)<(b1.length:Int)))then b1 else a1)):Int)+(1:Int)))) (0:Int)))) <|
 T.bind (Y0 (bif (decide ((a1.length:Int)<(b1.length:Int)))then b1 else a1) (bif (decide ((a1.length:Int)<(b1.length:Int)))then a1 else b1) (bif (decide ((a1.length:Int)<(b1.length:Int)))then b1 else a1) (Nat.cast (List.length (bif (decide ((a1.length:Int)<(b1.length:Int)))then b1 else a1)):Int) ((0:Int),((0:Int),(List.replicate (Int.toNat (zu ((Nat.cast (List.length (bif (decide ((a1.length:Int)<(b1.length:Int)))then b1 else a1)):Int)+(1:Int)))) (0:Int))))) fun(carry1,zE) =>
 .zd (zi (Nat.cast (List.length (bif (decide ((a1.length:Int)<(b1.length:Int)))then b1 else a1)):Int) zE.length) <|
 .zd (lh zE.length zE.length ((0:Nat)+(Int.toNat (Nat.cast (List.length (bif (decide ((a1.length:Int)<(b1.length:Int)))then b1 else a1)):Int))) zE.length) <|
 .zd (zE.length=zE.length) <|
 T.bind (xN (List.drop (0:Nat) (List.take ((0:Nat)+zE.length) (List.set zE ((0:Nat)+(Int.toNat (Nat.cast (List.length (bif (decide ((a1.length:Int)<(b1.length:Int)))then b1 else a1)):Int))) (qG carry1))))) fun r =>
 .ret r
def nI(b2:(List Int))(x:(List Int))(x1:Int):(Int×Int×(List Int))→T ((Int×Int×(List Int))⊕((List Int)))
 | (borrow,x2,xs) =>
 .ite (decide (x2<x1))
  (.zd (zi x2 x.length) <|
 .zd (((decide (x2<(b2.length:Int)))=true)→(zi x2 b2.length)) <|
 T.bind (ue (nth x x2 (zb (.int .u32))) (bif (decide (x2<(b2.length:Int)))then(nth b2 x2 (zb (.int .u32)))else(0:Int)) borrow) fun(r1,borrow1) =>
 .zd (zi x2 xs.length) <|
 .zd (lh xs.length xs.length ((0:Nat)+(Int.toNat x2)) xs.length) <|
 .zd (zh xs.length (0:Nat) xs.length (List.length (List.set xs ((0:Nat)+(Int.toNat x2)) r1))) <|
 .zd (xs.length=(List.length (List.set xs ((0:Nat)+(Int.toNat x2)) r1))) <|
 .ret (.inl (borrow1,((zu (x2+1)),(List.set xs ((0:Nat)+(Int.toNat x2)) r1)))))
  (.zd (zh xs.length (0:Nat) xs.length xs.length) <|
 .zd (xs.length=xs.length) <|
 .ret (.inr xs))
def Je b2 x x1 s:=T.loop (nI b2 x x1) s
def tw(a:(List Int))(b:(List Int)):T ((List Int)×Bool) :=
 T.bind (lX a b) fun r =>
 .ite (decide (r<(0:Int)))
  (.ret (([]:List Int),false))
  (T.bind (xN a) fun a1 =>
 T.bind (xN b) fun b1 =>
 .zd (Wh (a1.length:Int) (a1.length:Int) (4:Nat)) <|
 .zd (zh (Int.toNat (a1.length:Int)) (0:Nat) (Int.toNat (a1.length:Int)) (List.length (List.replicate (Int.toNat (a1.length:Int)) (0:Int)))) <|
 .zd ((Int.toNat (a1.length:Int))=(List.length (List.replicate (Int.toNat (a1.length:Int)) (0:Int)))) <|
 T.bind (Je b1 a1 (a1.length:Int) ((0:Int),((0:Int),(List.replicate (Int.toNat (a1.length:Int)) (0:Int))))) fun zE =>
 .zd (zE.length=zE.length) <|
 T.bind (xN (List.drop (0:Nat) (List.take ((0:Nat)+zE.length) zE))) fun r2 =>
 .ret (r2,true))
def lS(a:Rat)(b:Rat):T Rat :=
 T.bind (xV a) fun r =>
 T.bind (xV b) fun r1 =>
 T.bind (bZ r.2.1 r1.2.2.1) fun n =>
 T.bind (bZ r1.2.1 r.2.2.1) fun m =>
 T.bind (bZ r.2.2.1 r1.2.2.1) fun d =>
 .ite (r.1==r1.1)
  (T.bind (Xn n m) fun r2 =>
 T.bind (pj r.1 r2 d) fun r3 =>
 .ret r3)
  (T.bind (tw n m) fun(x,ok) =>
 .ite ok
  (T.bind (pj r.1 x d) fun r4 =>
 .ret r4)
  (T.bind (tw m n) fun(x1,r5) =>
 T.bind (pj r1.1 x1 d) fun r6 =>
 .ret r6))
def vg  : ((List Term)×(List Term)×(Int×Bool×(List Int)×(List Int)×Unit)×(Int×Bool×(List Int)×(List Int)×Unit)×(List Term)×(List Term))→T (((List Term)×(List Term)×(Int×Bool×(List Int)×(List Int)×Unit)×(Int×Bool×(List Int)×(List Int)×Unit)×(List Term)×(List Term))⊕(((Int×Bool×(List Int)×(List Int)×Unit)×(Int×Bool×(List Int)×(List Int)×Unit)×(List Term)×(List Term))))
 | (l,m,v,v1,xs,zE) =>
 .ite (decide ((0:Int)<(zu ((l.length:Int)+(m.length:Int)))))
  (T.bind (.zd ((((m.length:Int)==(0:Int))=false)→(((decide ((0:Int)<(l.length:Int)))=true)→((zi (0:Int) l.length)∧(zi (0:Int) m.length)))) <|
 .ite (((m.length:Int)==(0:Int))||((decide ((0:Int)<(l.length:Int)))&&(decide ((nth l (0:Int) (zb zp)).1<(nth m (0:Int) (zb zp)).1))))
  (.zd (zi (0:Int) l.length) <|
 .zd (zi (0:Int) l.length) <|
 T.bind (xV (nth l (0:Int) (zb zp)).2.1) fun r1 =>
 .zd (nj (1:Int) (l.length:Int) l.length) <|
 .zd (zh xs.length (0:Nat) xs.length xs.length) <|
 .zd (zh zE.length (0:Nat) zE.length zE.length) <|
 .zd (xs.length=xs.length) <|
 .zd (zE.length=zE.length) <|
 .ret ((uz (e:=zp) (1:Int) (l.length:Int) l),(m,((v.1,(v.2.1,(v.2.2.1,(v.2.2.2.1,())))),((v1.1,(v1.2.1,(v1.2.2.1,(v1.2.2.2.1,())))),(xs,(zE,((nth l (0:Int) (zb zp)).1,((r1.1,(r1.2.1,(r1.2.2.1,()))),())))))))))
  (.zd ((((l.length:Int)==(0:Int))=false)→((zi (0:Int) m.length)∧(zi (0:Int) l.length))) <|
 .ite (((l.length:Int)==(0:Int))||(decide ((nth m (0:Int) (zb zp)).1<(nth l (0:Int) (zb zp)).1)))
  (.zd (zi (0:Int) m.length) <|
 .zd (zi (0:Int) m.length) <|
 T.bind (xV (nth m (0:Int) (zb zp)).2.1) fun r2 =>
 .zd (nj (1:Int) (m.length:Int) m.length) <|
 .zd (zh xs.length (0:Nat) xs.length xs.length) <|
 .zd (zh zE.length (0:Nat) zE.length zE.length) <|
 .zd (xs.length=xs.length) <|
 .zd (zE.length=zE.length) <|
 .ret (l,((uz (e:=zp) (1:Int) (m.length:Int) m),((v.1,(v.2.1,(v.2.2.1,(v.2.2.2.1,())))),((v1.1,(v1.2.1,(v1.2.2.1,(v1.2.2.2.1,())))),(xs,(zE,((nth m (0:Int) (zb zp)).1,((r2.1,(r2.2.1,(r2.2.2.1,()))),())))))))))
  (.zd (zi (0:Int) l.length) <|
 .zd (zi (0:Int) l.length) <|
 .zd (zi (0:Int) m.length) <|
 T.bind (lS (nth l (0:Int) (zb zp)).2.1 (nth m (0:Int) (zb zp)).2.1) fun r3 =>
 .zd (nj (1:Int) (l.length:Int) l.length) <|
 .zd (nj (1:Int) (m.length:Int) m.length) <|
 .zd (zh xs.length (0:Nat) xs.length xs.length) <|
 .zd (zh zE.length (0:Nat) zE.length zE.length) <|
 .zd (xs.length=xs.length) <|
 .zd (zE.length=zE.length) <|
 .ret ((uz (e:=zp) (1:Int) (l.length:Int) l),((uz (e:=zp) (1:Int) (m.length:Int) m),((v.1,(v.2.1,(v.2.2.1,(v.2.2.2.1,())))),((v1.1,(v1.2.1,(v1.2.2.1,(v1.2.2.2.1,())))),(xs,(zE,((nth l (0:Int) (zb zp)).1,((r3.1,(r3.2.1,(r3.2.2.1,()))),())))))))))):T (((List Term)×(List Term)×(Int×Bool×(List Int)×(List Int)×Unit)×(Int×Bool×(List Int)×(List Int)×Unit)×(List Term)×(List Term)×Term))) fun(l1,m1,v2,v3,zV,qM,v4) =>
 T.bind (dm (v4.2.1.1,(v4.2.1.2.1,(v4.2.1.2.2.1,())))) fun r4 =>
 .ite (!r4)
  (.zd (xF qM.length qM.length (0:Nat) qM.length qM.length (1:Nat) (64:Nat)) <|
 .zd (zh zV.length (0:Nat) zV.length zV.length) <|
 .zd (zh (qM.length+(1:Nat)) (0:Nat) (qM.length+(1:Nat)) (List.length (qM++([v4]:List Term)))) <|
 .zd (zV.length=zV.length) <|
 .zd ((qM.length+(1:Nat))=(List.length (qM++([v4]:List Term)))) <|
 .ret (.inl (l1,(m1,((v2.1,(v2.2.1,(v2.2.2.1,(v2.2.2.2.1,())))),((v3.1,(v3.2.1,(v3.2.2.1,(v3.2.2.2.1,())))),(zV,(qM++([v4]:List Term)))))))))
  (.zd (zh zV.length (0:Nat) zV.length zV.length) <|
 .zd (zh qM.length (0:Nat) qM.length qM.length) <|
 .zd (zV.length=zV.length) <|
 .zd (qM.length=qM.length) <|
 .ret (.inl (l1,(m1,((v2.1,(v2.2.1,(v2.2.2.1,(v2.2.2.2.1,())))),((v3.1,(v3.2.1,(v3.2.2.1,(v3.2.2.2.1,())))),(zV,qM))))))))
  (.zd (zh xs.length (0:Nat) xs.length xs.length) <|
 .zd (zh zE.length (0:Nat) zE.length zE.length) <|
 .zd (xs.length=xs.length) <|
 .zd (zE.length=zE.length) <|
 .ret (.inr ((v.1,(v.2.1,(v.2.2.1,(v.2.2.2.1,())))),((v1.1,(v1.2.1,(v1.2.2.1,(v1.2.2.2.1,())))),(xs,zE)))))
def oo(s:((List Term)×(List Term)×(Int×Bool×(List Int)×(List Int)×Unit)×(Int×Bool×(List Int)×(List Int)×Unit)×(List Term)×(List Term))):T (((Int×Bool×(List Int)×(List Int)×Unit)×(Int×Bool×(List Int)×(List Int)×Unit)×(List Term)×(List Term))):=T.loop (vg ) s
def tR(a:wF)(b:wF):T wF :=
 T.bind (lS a.2.2.1 b.2.2.1) fun r =>
 .zd (zh (0:Nat) (0:Nat) (0:Nat) (0:Nat)) <|
 .zd (zh (0:Nat) (0:Nat) (0:Nat) (0:Nat)) <|
 .zd ((0:Nat)=(0:Nat)) <|
 .zd ((0:Nat)=(0:Nat)) <|
 T.bind (oo  (a.2.1,(b.2.1,(((0:Int),(false,(([]:List Int),(([]:List Int),())))),((a.1,(r.1,(r.2.1,(r.2.2.1,())))),(([]:List Term),([]:List Term))))))) fun(v5,v6,vj,jd) =>
 .zd (jd.length=jd.length) <|
 .ret (v6.1,((List.drop (0:Nat) (List.take ((0:Nat)+jd.length) jd)),((v6.2.1,(v6.2.2.1,(v6.2.2.2.1,()))),())))
def X2(a:Rat)(b:Rat):T (Rat×Bool) :=
 T.bind (xV b) fun r =>
 .ite ((r.2.1.length:Int)==(0:Int))
  (T.bind (j6 (0:Int)) fun r1 =>
 .ret (r1,false))
  (T.bind (fh a (r.1,(r.2.2.1,(r.2.1,())))) fun r2 =>
 .ret (r2,true))
def p9(kind:Int)(l:wF)(r:wF):T (wF×Int) :=
 .ite (kind==3)
  (T.bind (tR l r) fun r1 =>
 .ret (r1,(0:Int)))
  (.ite (kind==4)
  (T.bind (j6 (-1:Int)) fun r2 =>
 T.bind (uM r r2) fun r3 =>
 T.bind (tR l r3) fun r4 =>
 .ret (r4,(0:Int)))
  (.ite (kind==5)
  (.ite ((decide ((0:Int)<(l.2.1.length:Int)))&&(decide ((0:Int)<(r.2.1.length:Int))))
  (.ret (((0:Int),(([]:List Term),((false,(([]:List Int),(([]:List Int),()))),()))),(6:Int)))
  (.ite (decide ((0:Int)<(l.2.1.length:Int)))
  (T.bind (uM l r.2.2.1) fun r5 =>
 .ret (r5,(0:Int)))
  (T.bind (uM r l.2.2.1) fun r6 =>
 .ret (r6,(0:Int)))))
  (T.bind (j6 (1:Int)) fun r7 =>
 T.bind (X2 r7 r.2.2.1) fun(r8,ok) =>
 .ite (decide ((0:Int)<(r.2.1.length:Int)))
  (.ret (((0:Int),(([]:List Term),((false,(([]:List Int),(([]:List Int),()))),()))),(6:Int)))
  (.ite (!ok)
  (.ret (((0:Int),(([]:List Term),((false,(([]:List Int),(([]:List Int),()))),()))),(7:Int)))
  (T.bind (uM l r8) fun r9 =>
 .ret (r9,(0:Int)))))))
def Zb(W7:AM.Expr→zB→T (wF×Int))(e:AM.Expr)(v:zB):T (wF×Int) :=
 .ite ((Expr.kind e)==1)
  (T.bind (xV (Expr.num e)) fun r =>
 .ret (((0:Int),(([]:List Term),((r.1,(r.2.1,(r.2.2.1,()))),()))),(0:Int)))
  (.ite ((Expr.kind e)==2)
  (T.bind (Z9 (Expr.name e) v) fun(r1,r2) =>
 .ret (r1,r2))
  (.zd (zi (0:Int) (Expr.kids e).length) <|
 T.bind (W7 (nth (Expr.kids e) (0:Int) (zb .expr)) v) fun(r3,x) =>
 .ite (x != 0)
  (.ret (((0:Int),(([]:List Term),((false,(([]:List Int),(([]:List Int),()))),()))),x))
  (.ite ((Expr.kind e)==7)
  (T.bind (j6 (-1:Int)) fun r4 =>
 T.bind (uM r3 r4) fun r5 =>
 .ret (r5,(0:Int)))
  (.zd (zi (1:Int) (Expr.kids e).length) <|
 T.bind (W7 (nth (Expr.kids e) (1:Int) (zb .expr)) v) fun(r6,x1) =>
 .ite (x1 != 0)
  (.ret (((0:Int),(([]:List Term),((false,(([]:List Int),(([]:List Int),()))),()))),x1))
  (T.bind (p9 (Expr.kind e) r3 r6) fun(r7,r8) =>
 .ret (r7,r8))))))
def J1(e:AM.Expr)(v:zB):T (wF×Int):=T.fix (fun F x=>Zb (fun y0 y1=>F (y0,y1)) x.1 x.2) (e,v)
def Jh(e:AM.Expr)(v:zB):T (wF×Int) :=
 T.bind (uJ e) fun r =>
 .ite (!r)
  (.ret (((0:Int),(([]:List Term),((false,(([]:List Int),(([]:List Int),()))),()))),(5:Int)))
  (T.bind (J1 e v) fun(r1,r2) =>
 .ret (r1,r2))
def nJ(r:uP)(v:zB):T (wF×Int) :=
 T.bind (Jh r.2.2.2.1 v) fun(r1,e) =>
 .ite (e != 0)
  (.ret (r1,e))
  (T.bind (Jh r.2.2.2.2.1 v) fun(r2,e1) =>
 .ite (e1 != 0)
  (.ret (r2,e1))
  (T.bind (j6 (-1:Int)) fun r3 =>
 T.bind (uM r2 r3) fun r4 =>
 T.bind (tR r1 r4) fun r5 =>
 .ret ((r.2.1,(r5.2.1,((r5.2.2.1.1,(r5.2.2.1.2.1,(r5.2.2.1.2.2.1,()))),()))),(0:Int))))
def vt(t:Term):T Bool :=
 T.bind (uX t.2.1) fun r =>
 .ret r
def xD(s1:(List Term))(f:Term→T Bool)(x:Int):Int→T (Int⊕(Unit⊕Int))
 | x1 =>
 .ite (decide (x1<x))
  (.zd (zi x1 s1.length) <|
 T.bind (f (nth s1 x1 (zb zp))) fun r =>
 .ite r
  (.ret (.inr (.inr x1)))
  (.ret (.inl (zu (x1+1)))))
  (.ret (.inr (.inl ())))
def jI s1 f x s:=T.loop (xD s1 f x) s
def wM(s:(List Term))(f:Term→T Bool):T Int :=
 T.bind (jI s f (s.length:Int) (0:Int)) <|
 Sum.elim (fun _ =>
 .ret (-1:Int))
  (fun x2 =>
 .ret x2)
def xj(s:(List Term))(f:Term→T Bool):T Bool :=
 T.bind (wM s f) fun r =>
 .ret (decide ((0:Int)≤r))
def oO(c:wF):T Bool :=
 T.bind (uX c.2.2.1) fun r =>
 .ite r
  (.ret true)
  (T.bind (xj c.2.1 (fun z0=>vt z0)) fun r1 =>
 .ret r1)
def uk(Nw:(List Bool))(f1:Form)(x1:(List uP))(x2:Int):(Int×qU×(Unit)×zB×(List wF)×(List Int))→T ((Int×qU×(Unit)×zB×(List wF)×(List Int))⊕((qU×(Unit)×zB×(List wF)×(List Int))⊕(zf×Int×qU×(Unit)×zB×(List wF)×(List Int))))
 | (x3,v1,v2,v3,xs,zE) =>
 .ite (decide (x3<x2))
  (.zd (zi x3 x1.length) <|
 T.bind (tM f1 Nw (nth x1 x3 (zb zl)).2.2.1) fun r2 =>
 .ite (!r2)
  (.zd (zh xs.length (0:Nat) xs.length xs.length) <|
 .zd (zh zE.length (0:Nat) zE.length zE.length) <|
 .zd (xs.length=xs.length) <|
 .zd (zE.length=zE.length) <|
 .ret (.inl ((zu (x3+1)),(v1,((),(v3,(xs,zE)))))))
  (T.bind (nJ (nth x1 x3 (zb zl)) v3) fun(r3,e1) =>
 .ite (e1 != 0)
  (.zd (zh xs.length (0:Nat) xs.length xs.length) <|
 .zd (zh zE.length (0:Nat) zE.length zE.length) <|
 .zd (xs.length=xs.length) <|
 .zd (zE.length=zE.length) <|
 .ret (.inr (.inr ((nth x1 x3 (zb zl)).1,(e1,((([]:List wF),(([]:List Int),())),((),(v3,(xs,zE)))))))))
  (.zd (xF xs.length xs.length (0:Nat) xs.length xs.length (1:Nat) (88:Nat)) <|
 .zd (xF zE.length zE.length (0:Nat) zE.length zE.length (1:Nat) (8:Nat)) <|
 .zd (zh (xs.length+(1:Nat)) (0:Nat) (xs.length+(1:Nat)) (List.length (xs++([r3]:List wF)))) <|
 .zd (zh (zE.length+(1:Nat)) (0:Nat) (zE.length+(1:Nat)) (List.length (zE++([x3]:List Int)))) <|
 .zd ((xs.length+(1:Nat))=(List.length (xs++([r3]:List wF)))) <|
 .zd ((zE.length+(1:Nat))=(List.length (zE++([x3]:List Int)))) <|
 .ret (.inl ((zu (x3+1)),(v1,((),(v3,((xs++([r3]:List wF)),(zE++([x3]:List Int)))))))))))
  (.zd (zh xs.length (0:Nat) xs.length xs.length) <|
 .zd (zh zE.length (0:Nat) zE.length zE.length) <|
 .zd (xs.length=xs.length) <|
 .zd (zE.length=zE.length) <|
 .ret (.inr (.inl (v1,((),(v3,(xs,zE)))))))
def yg Nw f1 x1 x2 s:=T.loop (uk Nw f1 x1 x2) s
def bh(f2:Form)(x6:Int):(Int×qU×(Unit)×zB×(List wF)×(List Int))→T ((Int×qU×(Unit)×zB×(List wF)×(List Int))⊕((qU×(Unit)×zB×(List wF)×(List Int))⊕(zf×Int×qU×(Unit)×zB×(List wF)×(List Int))))
 | (x7,v10,v11,v12,xs6,vP) =>
 .ite (decide (x7<x6))
  (.zd (zi x7 xs6.length) <|
 .zd (lh xs6.length xs6.length ((0:Nat)+(Int.toNat x7)) xs6.length) <|
 T.bind (oO (xp xs6 ((0:Nat)+(Int.toNat x7)) (zb q7))) fun r4 =>
 .ite r4
  (.zd (zi x7 vP.length) <|
 .zd (lh vP.length vP.length ((0:Nat)+(Int.toNat x7)) vP.length) <|
 .zd (zi (xp vP ((0:Nat)+(Int.toNat x7)) (zb (.int .i64))) f2.2.2.2.2.1.length) <|
 .zd (zh xs6.length (0:Nat) xs6.length xs6.length) <|
 .zd (zh vP.length (0:Nat) vP.length vP.length) <|
 .zd (xs6.length=xs6.length) <|
 .zd (vP.length=vP.length) <|
 .ret (.inr (.inr ((nth f2.2.2.2.2.1 (xp vP ((0:Nat)+(Int.toNat x7)) (zb (.int .i64))) (zb zl)).1,((8:Int),((([]:List wF),(([]:List Int),())),((),(v12,(xs6,vP)))))))))
  (.zd (zh xs6.length (0:Nat) xs6.length xs6.length) <|
 .zd (zh xs6.length (0:Nat) xs6.length xs6.length) <|
 .zd (zh vP.length (0:Nat) vP.length vP.length) <|
 .zd (xs6.length=xs6.length) <|
 .zd (vP.length=vP.length) <|
 .ret (.inl ((zu (x7+1)),(v10,((),(v12,(xs6,vP))))))))
  (.zd (zh xs6.length (0:Nat) xs6.length xs6.length) <|
 .zd (zh vP.length (0:Nat) vP.length vP.length) <|
 .zd (xs6.length=xs6.length) <|
 .zd (vP.length=vP.length) <|
 .ret (.inr (.inl (v10,((),(v12,(xs6,vP)))))))
def pF f2 x6 s:=T.loop (bh f2 x6) s
def fx(f:Form)(params:(List Rat))(on:(List Bool)):T (qU×zf×Int) :=
 T.bind (fq f) fun(e,name) =>
 .ite (e != 0)
  (.ret ((([]:List wF),(([]:List Int),())),(name,e)))
  (T.bind (.ite ((params.length:Int) != (f.2.1.length:Int))
  (.ret (true,(([]:List wF),(([]:List Int),()))))
  (.ite ((on.length:Int) != (f.1.length:Int))
  (.ret (true,(([]:List wF),(([]:List Int),()))))
  (T.bind (xn params (fun z0=>wS z0)) fun r =>
 .ret (r,(([]:List wF),(([]:List Int),()))))):T ((Bool×qU))) fun(x,v) =>
 .ite x
  (.ret ((([]:List wF),(([]:List Int),())),(([]:zf),(1:Int))))
  (T.bind (tp f params) fun r1 =>
 .zd (zh (0:Nat) (0:Nat) (0:Nat) (0:Nat)) <|
 .zd (zh (0:Nat) (0:Nat) (0:Nat) (0:Nat)) <|
 .zd ((0:Nat)=(0:Nat)) <|
 .zd ((0:Nat)=(0:Nat)) <|
 T.bind (yg on f f.2.2.2.2.1 (f.2.2.2.2.1.length:Int) ((0:Int),(v,((),(r1,(([]:List wF),([]:List Int))))))) <|
 Sum.elim (fun(v4,v5,v6,zV,qM) =>
 .zd (zh zV.length (0:Nat) zV.length zV.length) <|
 .zd (zh zV.length (0:Nat) zV.length zV.length) <|
 .zd (zh qM.length (0:Nat) qM.length qM.length) <|
 .zd (zV.length=zV.length) <|
 .zd (qM.length=qM.length) <|
 T.bind (pF f (zV.length:Int) ((0:Int),(v4,((),(v6,(zV,qM)))))) <|
 Sum.elim (fun(v13,v14,v15,eC,rQ) =>
 .zd (eC.length=eC.length) <|
 .zd (rQ.length=rQ.length) <|
 .ret (((List.drop (0:Nat) (List.take ((0:Nat)+eC.length) eC)),((List.drop (0:Nat) (List.take ((0:Nat)+rQ.length) rQ)),())),(([]:zf),(0:Int))))
  (fun(x8,x9,v16,v17,v18,xs10,V1) =>
 .ret (v16,(x8,x9))))
  (fun(x4,x5,v7,v8,v9,vj,jd) =>
 .ret (v7,(x4,x5)))))
def jW(c:Int):T Bool :=
 .ret ((decide ((97:Int)≤c))&&(decide (c≤(122:Int))))
def oe(c:Int):T Bool :=
 .ret ((decide ((48:Int)≤c))&&(decide (c≤(57:Int))))
def y7(s1:zf):Int→T (Int⊕(Unit⊕Bool))
 | i =>
 .ite (decide (i<(s1.length:Int)))
  (T.bind (.zd (zi i s1.length) <|
 T.bind (jW (wG s1 i)) fun r1 =>
 .ite (!r1)
  (.zd (zi i s1.length) <|
 T.bind (oe (wG s1 i)) fun r2 =>
 .ite (!r2)
  (.zd (zi i s1.length) <|
 .ret ((wG s1 i) != 95))
  (.ret false))
  (.ret false):T (Bool)) fun x1 =>
 .ite x1
  (.ret (.inr (.inr false)))
  (.ret (.inl (zu (i+1)))))
  (.ret (.inr (.inl ())))
def XG s1 s:=T.loop (y7 s1) s
def uf(s:zf):T Bool :=
 T.bind (.ite (decide ((s.length:Int)<(1:Int)))
  (.ret true)
  (.ite (decide ((24:Int)<(s.length:Int)))
  (.ret true)
  (.zd (zi (0:Int) s.length) <|
 T.bind (jW (wG s (0:Int))) fun r =>
 .ret (!r))):T (Bool)) fun x =>
 .ite x
  (.ret false)
  (T.bind (XG s (1:Int)) <|
 Sum.elim (fun _ =>
 .ret true)
  (fun x2 =>
 .ret x2))
def c9(a1:(List Int)):Int→T (Int⊕(Int))
 | n =>
 .zd (((decide ((0:Int)<n))=true)→(zi (zu (n-1)) a1.length)) <|
 .ite ((decide ((0:Int)<n))&&((nth a1 (zu (n-1)) (zb (.int .u32)))==0))
  (.ret (.inl (zu (n-1))))
  (.ret (.inr n))
def Wg a1 s:=T.loop (c9 a1) s
def xv(a:(List Int)):T (List Int) :=
 T.bind (Wg a (a.length:Int)) fun n1 =>
 .zd (nj (0:Int) n1 a.length) <|
 .zd (xF (0:Nat) (0:Nat) (0:Nat) (0:Nat) (0:Nat) (List.length (uz (e:=(.int .u32)) (0:Int) n1 a)) (4:Nat)) <|
 .zd (((0:Nat)+(List.length (uz (e:=(.int .u32)) (0:Int) n1 a)))=((0:Nat)+(List.length (uz (e:=(.int .u32)) (0:Int) n1 a)))) <|
 .ret (List.drop (0:Nat) (List.take ((0:Nat)+((0:Nat)+(List.length (uz (e:=(.int .u32)) (0:Int) n1 a)))) (uz (e:=(.int .u32)) (0:Int) n1 a)))
def l8(t1:(List Int)):(Int×Int)→T ((Int×Int)⊕(Int))
 | (n,i) =>
 .ite (decide ((0:Int)≤i))
  (.zd ((0:Int)≤(32:Int)) <|
 .zd (zi i t1.length) <|
 .ret (.inl ((gT .u64 (xZ .u64 n (32:Int)) (zx (nth t1 i (zb (.int .u32))))),(zu (i-1)))))
  (.ret (.inr n))
def KM t1 s:=T.loop (l8 t1) s
def Xr(a:(List Int)):T (Int×Bool) :=
 T.bind (xv a) fun t =>
 .ite (decide ((2:Int)<(t.length:Int)))
  (.ret ((0:Int),false))
  (T.bind (KM t ((0:Int),(zu ((t.length:Int)-(1:Int))))) fun n1 =>
 .ret (n1,true))
def p8(n:Int):T (List Int) :=
 .zd ((0:Int)≤(32:Int)) <|
 T.bind (xv ([(qG n),(qG (xc .u64 n (32:Int)))]:List Int)) fun r =>
 .ret r
def cJ(a1:(List Int))(vb:Int):(Int×Int×(List Int))→T ((Int×Int×(List Int))⊕((Int×(List Int))))
 | (r,i,xs) =>
 .ite (decide ((0:Int)≤i))
  (.zd ((0:Int)≤(32:Int)) <|
 .zd (zi i a1.length) <|
 .zd (vb≠(0:Int)) <|
 .zd (zi i xs.length) <|
 .zd (lh xs.length xs.length ((0:Nat)+(Int.toNat i)) xs.length) <|
 .zd (vb≠(0:Int)) <|
 .zd (zh xs.length (0:Nat) xs.length (List.length (List.set xs ((0:Nat)+(Int.toNat i)) (qG (zx (Int.tdiv (gT .u64 (xZ .u64 r (32:Int)) (zx (nth a1 i (zb (.int .u32))))) vb)))))) <|
 .zd (xs.length=(List.length (List.set xs ((0:Nat)+(Int.toNat i)) (qG (zx (Int.tdiv (gT .u64 (xZ .u64 r (32:Int)) (zx (nth a1 i (zb (.int .u32))))) vb)))))) <|
 .ret (.inl ((Int.tmod (gT .u64 (xZ .u64 r (32:Int)) (zx (nth a1 i (zb (.int .u32))))) vb),((zu (i-1)),(List.set xs ((0:Nat)+(Int.toNat i)) (qG (zx (Int.tdiv (gT .u64 (xZ .u64 r (32:Int)) (zx (nth a1 i (zb (.int .u32))))) vb))))))))
  (.zd (zh xs.length (0:Nat) xs.length xs.length) <|
 .zd (xs.length=xs.length) <|
 .ret (.inr (r,xs)))
def Q0 a1 vb s:=T.loop (cJ a1 vb) s
def cz(a:(List Int))(vk:Int):T ((List Int)×Int) :=
 .zd (Wh (a.length:Int) (a.length:Int) (4:Nat)) <|
 .zd (zh (Int.toNat (a.length:Int)) (0:Nat) (Int.toNat (a.length:Int)) (List.length (List.replicate (Int.toNat (a.length:Int)) (0:Int)))) <|
 .zd ((Int.toNat (a.length:Int))=(List.length (List.replicate (Int.toNat (a.length:Int)) (0:Int)))) <|
 T.bind (Q0 a vk ((0:Int),((zu ((a.length:Int)-(1:Int))),(List.replicate (Int.toNat (a.length:Int)) (0:Int))))) fun(r1,zE) =>
 .zd (zE.length=zE.length) <|
 T.bind (xv (List.drop (0:Nat) (List.take ((0:Nat)+zE.length) zE))) fun r2 =>
 .ret (r2,r1)
def gY(a:(List Int))(i:Int):T Int :=
 .ite (decide (i<(a.length:Int)))
  (.zd (zi i a.length) <|
 .ret (zx (nth a i (zb (.int .u32)))))
  (.ret (0:Int))
def Zr(t1:(List Int))(vk:Int):(Int×(List Int))→T ((Int×(List Int))⊕((List Int)))
 | (i,xs) =>
 .ite (decide (i<(t1.length:Int)))
  (T.bind (gY t1 i) fun r =>
 T.bind (gY t1 (zu (i+1))) fun r1 =>
 .zd ((0:Int)≤(32:Int)) <|
 .zd ((0:Int)≤vk) <|
 .zd (xF xs.length xs.length (0:Nat) xs.length xs.length (1:Nat) (4:Nat)) <|
 .zd (zh (xs.length+(1:Nat)) (0:Nat) (xs.length+(1:Nat)) (List.length (xs++([(qG (xc .u64 (gT .u64 r (xZ .u64 r1 (32:Int))) vk))]:List Int)))) <|
 .zd ((xs.length+(1:Nat))=(List.length (xs++([(qG (xc .u64 (gT .u64 r (xZ .u64 r1 (32:Int))) vk))]:List Int)))) <|
 .ret (.inl ((zu (i+1)),(xs++([(qG (xc .u64 (gT .u64 r (xZ .u64 r1 (32:Int))) vk))]:List Int)))))
  (.zd (zh xs.length (0:Nat) xs.length xs.length) <|
 .zd (xs.length=xs.length) <|
 .ret (.inr xs))
def YF t1 vk s:=T.loop (Zr t1 vk) s
def cK(t2:(List Int))(vb:Int):(Int×Int×(List Int))→T ((Int×Int×(List Int))⊕((List Int)))
 | (low,i1,zV) =>
 .ite (decide (i1<(zu ((t2.length:Int)+(1:Int)))))
  (T.bind (gY t2 i1) fun r3 =>
 .zd ((0:Int)≤vb) <|
 .zd (xF zV.length zV.length (0:Nat) zV.length zV.length (1:Nat) (4:Nat)) <|
 .zd ((0:Int)≤(32:Int)) <|
 .zd (zh (zV.length+(1:Nat)) (0:Nat) (zV.length+(1:Nat)) (List.length (zV++([(qG (gT .u64 (xZ .u64 r3 vb) low))]:List Int)))) <|
 .zd ((zV.length+(1:Nat))=(List.length (zV++([(qG (gT .u64 (xZ .u64 r3 vb) low))]:List Int)))) <|
 .ret (.inl ((xc .u64 (xZ .u64 r3 vb) (32:Int)),((zu (i1+1)),(zV++([(qG (gT .u64 (xZ .u64 r3 vb) low))]:List Int))))))
  (.zd (zh zV.length (0:Nat) zV.length zV.length) <|
 .zd (zV.length=zV.length) <|
 .ret (.inr zV))
def Zm t2 vb s:=T.loop (cK t2 vb) s
def od(a:(List Int))(n:Int):T (List Int) :=
 T.bind (xv a) fun t =>
 .ite (decide ((wT (wc n (-4096:Int)) (4096:Int))<(0:Int)))
  (.zd ((32:Int)≠(0:Int)) <|
 .ite (decide ((t.length:Int)≤(zu (Int.tdiv (zu ((0:Int)-(wT (wc n (-4096:Int)) (4096:Int)))) (32:Int)))))
  (.ret ([]:List Int))
  (.zd (nj (zu (Int.tdiv (zu ((0:Int)-(wT (wc n (-4096:Int)) (4096:Int)))) (32:Int))) (t.length:Int) t.length) <|
 .zd ((32:Int)≠(0:Int)) <|
 .zd (zh (0:Nat) (0:Nat) (0:Nat) (0:Nat)) <|
 .zd ((0:Nat)=(0:Nat)) <|
 T.bind (YF (uz (e:=(.int .u32)) (zu (Int.tdiv (zu ((0:Int)-(wT (wc n (-4096:Int)) (4096:Int)))) (32:Int))) (t.length:Int) t) (zx (Int.tmod (zu ((0:Int)-(wT (wc n (-4096:Int)) (4096:Int)))) (32:Int))) ((0:Int),([]:List Int))) fun zE =>
 .zd (zE.length=zE.length) <|
 T.bind (xv (List.drop (0:Nat) (List.take ((0:Nat)+zE.length) zE))) fun r2 =>
 .ret r2))
  (.zd ((32:Int)≠(0:Int)) <|
 .zd (Wh (zu (Int.tdiv (wT (wc n (-4096:Int)) (4096:Int)) (32:Int))) (zu (Int.tdiv (wT (wc n (-4096:Int)) (4096:Int)) (32:Int))) (4:Nat)) <|
 .zd ((32:Int)≠(0:Int)) <|
 .zd (zh (Int.toNat (zu (Int.tdiv (wT (wc n (-4096:Int)) (4096:Int)) (32:Int)))) (0:Nat) (Int.toNat (zu (Int.tdiv (wT (wc n (-4096:Int)) (4096:Int)) (32:Int)))) (List.length (List.replicate (Int.toNat (zu (Int.tdiv (wT (wc n (-4096:Int)) (4096:Int)) (32:Int)))) (0:Int)))) <|
 .zd ((Int.toNat (zu (Int.tdiv (wT (wc n (-4096:Int)) (4096:Int)) (32:Int))))=(List.length (List.replicate (Int.toNat (zu (Int.tdiv (wT (wc n (-4096:Int)) (4096:Int)) (32:Int)))) (0:Int)))) <|
 T.bind (Zm t (zx (Int.tmod (wT (wc n (-4096:Int)) (4096:Int)) (32:Int))) ((0:Int),((0:Int),(List.replicate (Int.toNat (zu (Int.tdiv (wT (wc n (-4096:Int)) (4096:Int)) (32:Int)))) (0:Int))))) fun qM =>
 .zd (qM.length=qM.length) <|
 T.bind (xv (List.drop (0:Nat) (List.take ((0:Nat)+qM.length) qM))) fun r4 =>
 .ret r4)
def ma(a1:(List Int))(b1:(List Int)):(Int×Int×(List Int))→T ((Int×Int×(List Int))⊕((List Int)))
 | (c,i,xs) =>
 .ite (decide (i<(zu ((wc (a1.length:Int) (b1.length:Int))+1))))
  (T.bind (gY a1 i) fun r =>
 T.bind (gY b1 i) fun r1 =>
 .zd (xF xs.length xs.length (0:Nat) xs.length xs.length (1:Nat) (4:Nat)) <|
 .zd ((0:Int)≤(32:Int)) <|
 .zd (zh (xs.length+(1:Nat)) (0:Nat) (xs.length+(1:Nat)) (List.length (xs++([(qG (zx ((zx (c+r))+r1)))]:List Int)))) <|
 .zd ((xs.length+(1:Nat))=(List.length (xs++([(qG (zx ((zx (c+r))+r1)))]:List Int)))) <|
 .ret (.inl ((xc .u64 (zx ((zx (c+r))+r1)) (32:Int)),((zu (i+1)),(xs++([(qG (zx ((zx (c+r))+r1)))]:List Int))))))
  (.zd (zh xs.length (0:Nat) xs.length xs.length) <|
 .zd (xs.length=xs.length) <|
 .ret (.inr xs))
def VR a1 b1 s:=T.loop (ma a1 b1) s
def nc(a:(List Int))(b:(List Int)):T (List Int) :=
 .zd (zh (0:Nat) (0:Nat) (0:Nat) (0:Nat)) <|
 .zd ((0:Nat)=(0:Nat)) <|
 T.bind (VR a b ((0:Int),((0:Int),([]:List Int)))) fun zE =>
 .zd (zE.length=zE.length) <|
 T.bind (xv (List.drop (0:Nat) (List.take ((0:Nat)+zE.length) zE))) fun r2 =>
 .ret r2
def dc(x1:(List Int))(y1:(List Int)):Int→T (Int⊕(Unit⊕Int))
 | i =>
 .ite (decide ((0:Int)≤i))
  (.zd (zi i x1.length) <|
 .zd (zi i y1.length) <|
 .ite (decide ((nth x1 i (zb (.int .u32)))<(nth y1 i (zb (.int .u32)))))
  (.ret (.inr (.inr (-1:Int))))
  (.zd (zi i x1.length) <|
 .zd (zi i y1.length) <|
 .ite (decide ((nth y1 i (zb (.int .u32)))<(nth x1 i (zb (.int .u32)))))
  (.ret (.inr (.inr (1:Int))))
  (.ret (.inl (zu (i-1))))))
  (.ret (.inr (.inl ())))
def VJ x1 y1 s:=T.loop (dc x1 y1) s
def il(a:(List Int))(b:(List Int)):T Int :=
 T.bind (xv a) fun x =>
 T.bind (xv b) fun y =>
 .ite ((x.length:Int) != (y.length:Int))
  (.ite (decide ((x.length:Int)<(y.length:Int)))
  (.ret (-1:Int))
  (.ret (1:Int)))
  (T.bind (VJ x y (zu ((x.length:Int)-(1:Int)))) <|
 Sum.elim (fun _ =>
 .ret (0:Int))
  (fun x2 =>
 .ret x2))
def lT(a1:(List Int))(b1:(List Int)):(Int×Int×(List Int))→T ((Int×Int×(List Int))⊕((List Int)))
 | (c,i,xs) =>
 .ite (decide (i<(a1.length:Int)))
  (T.bind (gY a1 i) fun x =>
 T.bind (gY b1 i) fun r1 =>
 .zd (xF xs.length xs.length (0:Nat) xs.length xs.length (1:Nat) (4:Nat)) <|
 .zd (zh (xs.length+(1:Nat)) (0:Nat) (xs.length+(1:Nat)) (List.length (xs++([(qG (zx ((bif (decide (x<(zx (r1+c))))then(zx (x+4294967296))else x)-(zx (r1+c)))))]:List Int)))) <|
 .zd ((xs.length+(1:Nat))=(List.length (xs++([(qG (zx ((bif (decide (x<(zx (r1+c))))then(zx (x+4294967296))else x)-(zx (r1+c)))))]:List Int)))) <|
 .ret (.inl ((bif (decide (x<(zx (r1+c))))then(1:Int)else(0:Int)),((zu (i+1)),(xs++([(qG (zx ((bif (decide (x<(zx (r1+c))))then(zx (x+4294967296))else x)-(zx (r1+c)))))]:List Int))))))
  (.zd (zh xs.length (0:Nat) xs.length xs.length) <|
 .zd (xs.length=xs.length) <|
 .ret (.inr xs))
def Uh a1 b1 s:=T.loop (lT a1 b1) s
def iL(a:(List Int))(b:(List Int)):T ((List Int)×Bool) :=
 T.bind (il a b) fun r =>
 .ite (decide (r<(0:Int)))
  (.ret (([]:List Int),false))
  (.zd (zh (0:Nat) (0:Nat) (0:Nat) (0:Nat)) <|
 .zd ((0:Nat)=(0:Nat)) <|
 T.bind (Uh a b ((0:Int),((0:Int),([]:List Int)))) fun zE =>
 .zd (zE.length=zE.length) <|
 T.bind (xv (List.drop (0:Nat) (List.take ((0:Nat)+zE.length) zE))) fun r2 =>
 .ret (r2,true))
def uL(a1:(List Int))(b1:(List Int)):((List Int)×Int×(List Int))→T (((List Int)×Int×(List Int))⊕(((List Int)×(List Int))))
 | (r5,i,xs) =>
 .ite (decide ((0:Int)≤i))
  (T.bind (od r5 (1:Int)) fun r6 =>
 T.bind (.zd ((32:Int)≠(0:Int)) <|
 .zd (zi (zu (Int.tdiv i (32:Int))) a1.length) <|
 .zd ((32:Int)≠(0:Int)) <|
 .zd ((0:Int)≤(zx (Int.tmod i (32:Int)))) <|
 .ite ((FP .u32 (xc .u32 (nth a1 (zu (Int.tdiv i (32:Int))) (zb (.int .u32))) (zx (Int.tmod i (32:Int)))) (1:Int))==1)
  (T.bind (nc r6 ([(1:Int)]:List Int)) fun r7 =>
 .zd (zh xs.length (0:Nat) xs.length xs.length) <|
 .zd (xs.length=xs.length) <|
 .ret (r7,xs))
  (.zd (zh xs.length (0:Nat) xs.length xs.length) <|
 .zd (xs.length=xs.length) <|
 .ret (r6,xs)):T (((List Int)×(List Int)))) fun(r8,zE) =>
 T.bind (il r8 b1) fun r9 =>
 .ite (decide ((0:Int)≤r9))
  (T.bind (iL r8 b1) fun(Ek,r11) =>
 .zd ((32:Int)≠(0:Int)) <|
 .zd ((32:Int)≠(0:Int)) <|
 .zd (zi (zu (Int.tdiv i (32:Int))) zE.length) <|
 .zd (lh zE.length zE.length ((0:Nat)+(Int.toNat (zu (Int.tdiv i (32:Int))))) zE.length) <|
 .zd ((32:Int)≠(0:Int)) <|
 .zd ((0:Int)≤(zx (Int.tmod i (32:Int)))) <|
 .zd (zi (zu (Int.tdiv i (32:Int))) zE.length) <|
 .zd (lh zE.length zE.length ((0:Nat)+(Int.toNat (zu (Int.tdiv i (32:Int))))) zE.length) <|
 .zd (zh zE.length (0:Nat) zE.length (List.length (List.set zE ((0:Nat)+(Int.toNat (zu (Int.tdiv i (32:Int))))) (gT .u32 (xp zE ((0:Nat)+(Int.toNat (zu (Int.tdiv i (32:Int))))) (zb (.int .u32))) (xZ .u32 (1:Int) (zx (Int.tmod i (32:Int)))))))) <|
 .zd (zE.length=(List.length (List.set zE ((0:Nat)+(Int.toNat (zu (Int.tdiv i (32:Int))))) (gT .u32 (xp zE ((0:Nat)+(Int.toNat (zu (Int.tdiv i (32:Int))))) (zb (.int .u32))) (xZ .u32 (1:Int) (zx (Int.tmod i (32:Int)))))))) <|
 .ret (.inl (Ek,((zu (i-1)),(List.set zE ((0:Nat)+(Int.toNat (zu (Int.tdiv i (32:Int))))) (gT .u32 (xp zE ((0:Nat)+(Int.toNat (zu (Int.tdiv i (32:Int))))) (zb (.int .u32))) (xZ .u32 (1:Int) (zx (Int.tmod i (32:Int))))))))))
  (.zd (zh zE.length (0:Nat) zE.length zE.length) <|
 .zd (zE.length=zE.length) <|
 .ret (.inl (r8,((zu (i-1)),zE)))))
  (.zd (zh xs.length (0:Nat) xs.length xs.length) <|
 .zd (xs.length=xs.length) <|
 .ret (.inr (r5,xs)))
def fQ a1 b1 s:=T.loop (uL a1 b1) s
def jS(a:(List Int))(b:(List Int)):T ((List Int)×(List Int)×Bool) :=
 T.bind (xv b) fun r =>
 .ite ((r.length:Int)==(0:Int))
  (.ret (([]:List Int),(([]:List Int),false)))
  (T.bind (Xr a) fun(x,one_) =>
 T.bind (Xr b) fun(y,two_) =>
 .ite (one_&&two_)
  (.zd (y≠(0:Int)) <|
 T.bind (p8 (zx (Int.tdiv x y))) fun r1 =>
 .zd (y≠(0:Int)) <|
 T.bind (p8 (Int.tmod x y)) fun r2 =>
 .ret (r1,(r2,true)))
  (.ite (two_&&(decide (y<(4294967296:Int))))
  (T.bind (cz a y) fun(q,r3) =>
 T.bind (p8 r3) fun r4 =>
 .ret (q,(r4,true)))
  (.zd (Wh (a.length:Int) (a.length:Int) (4:Nat)) <|
 .zd (zh (Int.toNat (a.length:Int)) (0:Nat) (Int.toNat (a.length:Int)) (List.length (List.replicate (Int.toNat (a.length:Int)) (0:Int)))) <|
 .zd ((Int.toNat (a.length:Int))=(List.length (List.replicate (Int.toNat (a.length:Int)) (0:Int)))) <|
 T.bind (fQ a b (([]:List Int),((zu ((zu ((32:Int)*(a.length:Int)))-1)),(List.replicate (Int.toNat (a.length:Int)) (0:Int))))) fun(r12,zV) =>
 .zd (zV.length=zV.length) <|
 T.bind (xv (List.drop (0:Nat) (List.take ((0:Nat)+zV.length) zV))) fun r13 =>
 T.bind (xv r12) fun r14 =>
 .ret (r13,(r14,true)))))
def dv  : ((List Int)×(List Int))→T (((List Int)×(List Int))⊕((List Int)))
 | (x1,y1) =>
 .ite (decide ((0:Int)<(y1.length:Int)))
  (T.bind (jS x1 y1) fun(r,r1,r2) =>
 .ret (.inl (y1,r1)))
  (.ret (.inr x1))
def Uc(s:((List Int)×(List Int))):T ((List Int)):=T.loop (dv ) s
def QY(a:(List Int))(b:(List Int)):T (List Int) :=
 T.bind (xv a) fun x =>
 T.bind (xv b) fun y =>
 T.bind (Uc  (x,y)) fun x2 =>
 .ret x2
def qL(a:Rat):T Rat :=
 T.bind (xv a.2.1) fun n =>
 T.bind (xv a.2.2.1) fun d =>
 .ite (((d.length:Int)==(0:Int))||((n.length:Int)==(0:Int)))
  (.ret (false,(([]:List Int),(([(1:Int)]:List Int),()))))
  (T.bind (QY n d) fun g =>
 T.bind (jS n g) fun(n1,r,r1) =>
 T.bind (jS d g) fun(d1,r2,r3) =>
 .ret (a.1,(n1,(d1,()))))
def wP(a1:(List Int))(b1:(List Int)):Int→T (Int⊕(Unit⊕Bool))
 | i =>
 .ite (decide (i<(a1.length:Int)))
  (.zd (zi i a1.length) <|
 .zd (zi i b1.length) <|
 .ite ((nth a1 i (zb (.int .u32))) != (nth b1 i (zb (.int .u32))))
  (.ret (.inr (.inr false)))
  (.ret (.inl (zu (i+1)))))
  (.ret (.inr (.inl ())))
def cY a1 b1 s:=T.loop (wP a1 b1) s
def jc(a:(List Int))(b:(List Int)):T Bool :=
 .ite ((a.length:Int) != (b.length:Int))
  (.ret false)
  (T.bind (cY a b (0:Int)) <|
 Sum.elim (fun _ =>
 .ret true)
  (fun x =>
 .ret x))
def Wp(a:Rat):T Bool :=
 T.bind (qL a) fun r =>
 .ite (a.1==r.1)
  (T.bind (jc a.2.1 r.2.1) fun r1 =>
 .ite r1
  (T.bind (jc a.2.2.1 r.2.2.1) fun r2 =>
 .ret r2)
  (.ret false))
  (.ret false)
def kg(a:Rat):T Bool :=
 T.bind (qL a) fun r =>
 .ret ((decide ((16:Int)<(r.2.1.length:Int)))||(decide ((16:Int)<(r.2.2.1.length:Int))))
def cC(a:Rat):T Bool :=
 T.bind (Wp a) fun r =>
 .ite r
  (T.bind (kg a) fun r1 =>
 .ret (!r1))
  (.ret false)
def iW(s:zf):T Bool :=
 .ite (zM s ([]:zf))
  (.ret true)
  (T.bind (uf s) fun r =>
 .ret r)
def dh(a2:(List Int))(b2:(List Int))(i1:Int):(Int×Int×(List Int))→T ((Int×Int×(List Int))⊕((List Int)))
 | (c,k,zE) =>
 .ite ((decide (k<(b2.length:Int)))||(decide ((0:Int)<c)))
  (.ite (decide ((zE.length:Int)≤(zu (i1+k))))
  (.zd (zh zE.length (0:Nat) zE.length zE.length) <|
 .zd (zE.length=zE.length) <|
 .ret (.inr zE))
  (.zd (zi i1 a2.length) <|
 T.bind (gY b2 k) fun r =>
 .zd (zi (zu (i1+k)) zE.length) <|
 .zd (lh zE.length zE.length ((0:Nat)+(Int.toNat (zu (i1+k)))) zE.length) <|
 .zd (zi (zu (i1+k)) zE.length) <|
 .zd (lh zE.length zE.length ((0:Nat)+(Int.toNat (zu (i1+k)))) zE.length) <|
 .zd ((0:Int)≤(32:Int)) <|
 .zd (zh zE.length (0:Nat) zE.length (List.length (List.set zE ((0:Nat)+(Int.toNat (zu (i1+k)))) (qG (zx ((zx (c+(zx ((zx (nth a2 i1 (zb (.int .u32))))*r))))+(zx (xp zE ((0:Nat)+(Int.toNat (zu (i1+k)))) (zb (.int .u32)))))))))) <|
 .zd (zE.length=(List.length (List.set zE ((0:Nat)+(Int.toNat (zu (i1+k)))) (qG (zx ((zx (c+(zx ((zx (nth a2 i1 (zb (.int .u32))))*r))))+(zx (xp zE ((0:Nat)+(Int.toNat (zu (i1+k)))) (zb (.int .u32)))))))))) <|
 .ret (.inl ((xc .u64 (zx ((zx (c+(zx ((zx (nth a2 i1 (zb (.int .u32))))*r))))+(zx (xp zE ((0:Nat)+(Int.toNat (zu (i1+k)))) (zb (.int .u32)))))) (32:Int)),((zu (k+1)),(List.set zE ((0:Nat)+(Int.toNat (zu (i1+k)))) (qG (zx ((zx (c+(zx ((zx (nth a2 i1 (zb (.int .u32))))*r))))+(zx (xp zE ((0:Nat)+(Int.toNat (zu (i1+k)))) (zb (.int .u32)))))))))))))
  (.zd (zh zE.length (0:Nat) zE.length zE.length) <|
 .zd (zE.length=zE.length) <|
 .ret (.inr zE))
def U8 a2 b2 i1 s:=T.loop (dh a2 b2 i1) s
def lK(a1:(List Int))(b1:(List Int)):(Int×(List Int))→T ((Int×(List Int))⊕((List Int)))
 | (i,xs) =>
 .ite (decide (i<(a1.length:Int)))
  (.zd (zh xs.length (0:Nat) xs.length xs.length) <|
 .zd (xs.length=xs.length) <|
 T.bind (U8 a1 b1 i ((0:Int),((0:Int),xs))) fun zV =>
 .zd (zh zV.length (0:Nat) zV.length zV.length) <|
 .zd (zV.length=zV.length) <|
 .ret (.inl ((zu (i+1)),zV)))
  (.zd (zh xs.length (0:Nat) xs.length xs.length) <|
 .zd (xs.length=xs.length) <|
 .ret (.inr xs))
def VD a1 b1 s:=T.loop (lK a1 b1) s
def uR(a:(List Int))(b:(List Int)):T (List Int) :=
 .zd (Wh (zu ((a.length:Int)+(b.length:Int))) (zu ((a.length:Int)+(b.length:Int))) (4:Nat)) <|
 .zd (zh (Int.toNat (zu ((a.length:Int)+(b.length:Int)))) (0:Nat) (Int.toNat (zu ((a.length:Int)+(b.length:Int)))) (List.length (List.replicate (Int.toNat (zu ((a.length:Int)+(b.length:Int)))) (0:Int)))) <|
 .zd ((Int.toNat (zu ((a.length:Int)+(b.length:Int))))=(List.length (List.replicate (Int.toNat (zu ((a.length:Int)+(b.length:Int)))) (0:Int)))) <|
 T.bind (VD a b ((0:Int),(List.replicate (Int.toNat (zu ((a.length:Int)+(b.length:Int)))) (0:Int)))) fun qM =>
 .zd (qM.length=qM.length) <|
 T.bind (xv (List.drop (0:Nat) (List.take ((0:Nat)+qM.length) qM))) fun r1 =>
 .ret r1
def yx  : ((List Int)×zf)→T (((List Int)×zf)⊕(zf))
 | (t1,s) =>
 .ite (decide ((0:Int)<(t1.length:Int)))
  (T.bind (cz t1 (10:Int)) fun(t2,r) =>
 .zd (((List.length (qV ([(MR (zx ((48:Int)+r)))]:List Int)))+s.length)≤(4611686018427387904:Nat)) <|
 .ret (.inl (t2,(cat (qV ([(MR (zx ((48:Int)+r)))]:List Int)) s))))
  (.ret (.inr s))
def mn(s:((List Int)×zf)):T (zf):=T.loop (yx ) s
def cx(a:(List Int)):T zf :=
 T.bind (xv a) fun t =>
 .ite ((t.length:Int)==(0:Int))
  (.ret ([48]:zf))
  (T.bind (mn  (t,([]:zf))) fun s1 =>
 .ret s1)
def kJ(Iz:Int):zf→T (zf⊕(zf))
 | s1 =>
 .ite (decide ((s1.length:Int)<Iz))
  (.zd ((([48]:zf).length+s1.length)≤(4611686018427387904:Nat)) <|
 .ret (.inl (cat ([48]:zf) s1)))
  (.ret (.inr s1))
def sd Iz s:=T.loop (kJ Iz) s
def lB(n:(List Int))(least:Int):T zf :=
 T.bind (cx n) fun s =>
 T.bind (sd least s) fun s2 =>
 .ret s2
def fG(neg:Bool):T zf :=
 .ite neg
  (.ret ([45]:zf))
  (.ret ([]:zf))
def oJ(neg:Bool)(n:(List Int))(scale:Int):T zf :=
 T.bind (lB n (zu (scale+1))) fun s =>
 .zd (((decide ((0:Int)<scale))=true)→((nj (0:Int) (zu ((s.length:Int)-scale)) s.length)∧((((List.length (bS (0:Int) (zu ((s.length:Int)-scale)) s))+([46]:zf).length)≤(4611686018427387904:Nat))∧((nj (zu ((s.length:Int)-scale)) (s.length:Int) s.length)∧(((List.length (cat (bS (0:Int) (zu ((s.length:Int)-scale)) s) ([46]:zf)))+(List.length (bS (zu ((s.length:Int)-scale)) (s.length:Int) s)))≤(4611686018427387904:Nat)))))) <|
 .ite neg
  (T.bind (fG (decide ((0:Int)<(n.length:Int)))) fun r =>
 .zd ((r.length+(List.length (bif (decide ((0:Int)<scale))then(cat (cat (bS (0:Int) (zu ((s.length:Int)-scale)) s) ([46]:zf)) (bS (zu ((s.length:Int)-scale)) (s.length:Int) s))else s)))≤(4611686018427387904:Nat)) <|
 .ret (cat r (bif (decide ((0:Int)<scale))then(cat (cat (bS (0:Int) (zu ((s.length:Int)-scale)) s) ([46]:zf)) (bS (zu ((s.length:Int)-scale)) (s.length:Int) s))else s)))
  (T.bind (fG false) fun r1 =>
 .zd ((r1.length+(List.length (bif (decide ((0:Int)<scale))then(cat (cat (bS (0:Int) (zu ((s.length:Int)-scale)) s) ([46]:zf)) (bS (zu ((s.length:Int)-scale)) (s.length:Int) s))else s)))≤(4611686018427387904:Nat)) <|
 .ret (cat r1 (bif (decide ((0:Int)<scale))then(cat (cat (bS (0:Int) (zu ((s.length:Int)-scale)) s) ([46]:zf)) (bS (zu ((s.length:Int)-scale)) (s.length:Int) s))else s)))
def jA  : ((List Int)×Int×Rat)→T (((List Int)×Int×Rat)⊕(Rat⊕(zf×Bool×Rat)))
 | (t,k,v) =>
 .ite (decide (k≤(60:Int)))
  (T.bind (uR v.2.1 t) fun r1 =>
 T.bind (jS r1 v.2.2.1) fun(q,r2,r3) =>
 .ite ((r2.length:Int)==(0:Int))
  (T.bind (oJ v.1 q k) fun r4 =>
 .ret (.inr (.inr (r4,(true,v)))))
  (T.bind (uR t ([(10:Int)]:List Int)) fun t1 =>
 .ret (.inl (t1,((zu (k+1)),v)))))
  (.ret (.inr (.inl v)))
def ZS(s:((List Int)×Int×Rat)):T (Rat⊕(zf×Bool×Rat)):=T.loop (jA ) s
def cy(a:Rat):T (zf×Bool) :=
 T.bind (qL a) fun r =>
 T.bind (ZS  (([(1:Int)]:List Int),((0:Int),r))) <|
 Sum.elim (fun v1 =>
 .ret (([]:zf),false))
  (fun(x,x1,v2) =>
 .ret (x,x1))
def jQ(a:Rat):T Bool :=
 .ite (!a.1)
  (.ite ((a.2.1.length:Int)==(0:Int))
  (.ite ((a.2.2.1.length:Int)==(0:Int))
  (.ret true)
  (T.bind (Wp a) fun r =>
 .ret r))
  (.ret false))
  (.ret false)
def dN(yP:AM.Expr→Int→T Bool)(TV:Int)(e1:AM.Expr)(PG:Int):Int→T (Int⊕(Unit⊕Bool))
 | i =>
 .ite (decide (i<PG))
  (.zd (zi i (Expr.kids e1).length) <|
 T.bind (yP (nth (Expr.kids e1) i (zb .expr)) (zu (TV+1))) fun r5 =>
 .ite (!r5)
  (.ret (.inr (.inr false)))
  (.ret (.inl (zu (i+1)))))
  (.ret (.inr (.inl ())))
def si yP TV e1 PG s:=T.loop (dN yP TV e1 PG) s
def oH(yP:AM.Expr→Int→T Bool)(e:AM.Expr)(deep:Int):T Bool :=
 .ite (decide ((32:Int)<deep))
  (.ret false)
  (T.bind (.ite ((Expr.kind e)==1)
  (T.bind (cy (Expr.num e)) fun(r,ok) =>
 .ite (((Expr.kids e).length:Int)==(0:Int))
  (.ite (zM (Expr.name e) ([]:zf))
  (T.bind (cC (Expr.num e)) fun r1 =>
 .ite r1
  (.ite (!(Expr.num e).1)
  (.ret (.inr ok))
  (.ret (.inr false)))
  (.ret (.inr false)))
  (.ret (.inr false)))
  (.ret (.inr false)))
  (.ite ((Expr.kind e)==2)
  (.ite (((Expr.kids e).length:Int)==(0:Int))
  (T.bind (uf (Expr.name e)) fun r2 =>
 .ite r2
  (T.bind (jQ (Expr.num e)) fun r3 =>
 .ret (.inr r3))
  (.ret (.inr false)))
  (.ret (.inr false)))
  (.ite ((Expr.kind e)==7)
  (.ret (.inl (1:Int)))
  (.ite ((Expr.kind e)==3)
  (.ret (.inl (2:Int)))
  (.ite ((Expr.kind e)==4)
  (.ret (.inl (2:Int)))
  (.ite ((Expr.kind e)==5)
  (.ret (.inl (2:Int)))
  (.ite ((Expr.kind e)==6)
  (.ret (.inl (2:Int)))
  (.ret (.inr false)))))))):T (Int⊕Bool)) <|
 Sum.elim (fun kids =>
 T.bind (.ite (((Expr.kids e).length:Int) != kids)
  (.ret true)
  (.ite (!(zM (Expr.name e) ([]:zf)))
  (.ret true)
  (T.bind (jQ (Expr.num e)) fun r4 =>
 .ret (!r4))):T (Bool)) fun x1 =>
 .ite x1
  (.ret false)
  (T.bind (si yP deep e kids (0:Int)) <|
 Sum.elim (fun _ =>
 .ret true)
  (fun x2 =>
 .ret x2)))
  (fun x =>
 .ret x))
def nu(e:AM.Expr)(deep:Int):T Bool:=T.fix (fun F x=>oH (fun y0 y1=>F (y0,y1)) x.1 x.2) (e,deep)
def ga(je:AM.Expr→T Int)(e1:AM.Expr):(Int×Int)→T ((Int×Int)⊕(Int))
 | (n,i) =>
 .ite (decide (i<((Expr.kids e1).length:Int)))
  (.zd (zi i (Expr.kids e1).length) <|
 T.bind (je (nth (Expr.kids e1) i (zb .expr))) fun r =>
 .ret (.inl ((zu (n+r)),(zu (i+1)))))
  (.ret (.inr n))
def ZU je e1 s:=T.loop (ga je e1) s
def ff(je:AM.Expr→T Int)(e:AM.Expr):T Int :=
 T.bind (ZU je e ((1:Int),(0:Int))) fun n1 =>
 .ret n1
def oD(e:AM.Expr):T Int:=T.fix (fun F x=>ff (fun y0=>F (y0)) x) e
def ya(e:AM.Expr):T Bool :=
 T.bind (nu e (1:Int)) fun r =>
 .ite r
  (T.bind (oD e) fun r1 =>
 .ret (decide (r1≤(256:Int))))
  (.ret false)
def yJ(f1:Form):(Int×Int)→T ((Int×Int)⊕(Unit⊕Bool))
 | (at_,i) =>
 .ite (decide (i<(f1.2.2.2.1.length:Int)))
  (.zd (zi i f1.2.2.2.1.length) <|
 T.bind (.ite (decide ((nth f1.2.2.2.1 i (zb qc)).2.1<at_))
  (.ret (true,(nth f1.2.2.2.1 i (zb qc))))
  (.ite (decide ((f1.2.2.1.length:Int)≤(nth f1.2.2.2.1 i (zb qc)).2.1))
  (.ret (true,(nth f1.2.2.2.1 i (zb qc))))
  (T.bind (uf (nth f1.2.2.2.1 i (zb qc)).1) fun r =>
 .ite (!r)
  (.ret (true,(nth f1.2.2.2.1 i (zb qc))))
  (.ite (decide ((nth f1.2.2.2.1 i (zb qc)).2.2.2.1<(0:Int)))
  (.ret (true,(nth f1.2.2.2.1 i (zb qc))))
  (.ret ((decide ((9:Int)<(nth f1.2.2.2.1 i (zb qc)).2.2.2.1)),(nth f1.2.2.2.1 i (zb qc))))))):T ((Bool×Field))) fun(x,v) =>
 .ite x
  (.ret (.inr (.inr false)))
  (.ret (.inl (v.2.1,(zu (i+1))))))
  (.ret (.inr (.inl ())))
def ZJ f1 s:=T.loop (yJ f1) s
def yU(f2:Form):(Int×Int)→T ((Int×Int)⊕(Unit⊕Bool))
 | (Er,i1) =>
 .ite (decide (i1<(f2.2.2.2.2.2.1.length:Int)))
  (.zd (zi i1 f2.2.2.2.2.2.1.length) <|
 T.bind (.ite (decide ((nth f2.2.2.2.2.2.1 i1 (zb zn)).2.1<Er))
  (.ret (true,(nth f2.2.2.2.2.2.1 i1 (zb zn))))
  (.ite (decide ((f2.2.2.1.length:Int)≤(nth f2.2.2.2.2.2.1 i1 (zb zn)).2.1))
  (.ret (true,(nth f2.2.2.2.2.2.1 i1 (zb zn))))
  (T.bind (uf (nth f2.2.2.2.2.2.1 i1 (zb zn)).1) fun r1 =>
 .ite (!r1)
  (.ret (true,(nth f2.2.2.2.2.2.1 i1 (zb zn))))
  (.ite (decide ((nth f2.2.2.2.2.2.1 i1 (zb zn)).2.2.1<(0:Int)))
  (.ret (true,(nth f2.2.2.2.2.2.1 i1 (zb zn))))
  (.ite (decide ((2:Int)<(nth f2.2.2.2.2.2.1 i1 (zb zn)).2.2.1))
  (.ret (true,(nth f2.2.2.2.2.2.1 i1 (zb zn))))
  (T.bind (ya (Expr.mk (Expr.kind (nth f2.2.2.2.2.2.1 i1 (zb zn)).2.2.2.1) ((Expr.num (nth f2.2.2.2.2.2.1 i1 (zb zn)).2.2.2.1).1,((Expr.num (nth f2.2.2.2.2.2.1 i1 (zb zn)).2.2.2.1).2.1,((Expr.num (nth f2.2.2.2.2.2.1 i1 (zb zn)).2.2.2.1).2.2.1,()))) (Expr.name (nth f2.2.2.2.2.2.1 i1 (zb zn)).2.2.2.1) (Expr.kids (nth f2.2.2.2.2.2.1 i1 (zb zn)).2.2.2.1))) fun r2 =>
 .ite (!r2)
  (.ret (true,(nth f2.2.2.2.2.2.1 i1 (zb zn))))
  (T.bind (ya (Expr.mk (Expr.kind (nth f2.2.2.2.2.2.1 i1 (zb zn)).2.2.2.2.1) ((Expr.num (nth f2.2.2.2.2.2.1 i1 (zb zn)).2.2.2.2.1).1,((Expr.num (nth f2.2.2.2.2.2.1 i1 (zb zn)).2.2.2.2.1).2.1,((Expr.num (nth f2.2.2.2.2.2.1 i1 (zb zn)).2.2.2.2.1).2.2.1,()))) (Expr.name (nth f2.2.2.2.2.2.1 i1 (zb zn)).2.2.2.2.1) (Expr.kids (nth f2.2.2.2.2.2.1 i1 (zb zn)).2.2.2.2.1))) fun r3 =>
 .ret ((!r3),(nth f2.2.2.2.2.2.1 i1 (zb zn))))))))):T ((Bool×Check))) fun(x2,v1) =>
 .ite x2
  (.ret (.inr (.inr false)))
  (.ret (.inl (v1.2.1,(zu (i1+1))))))
  (.ret (.inr (.inl ())))
def ZL f2 s:=T.loop (yU f2) s
def ou(f:Form):T Bool :=
 T.bind (ZJ f ((0:Int),(0:Int))) <|
 Sum.elim (fun _ =>
 T.bind (ZL f ((0:Int),(0:Int))) <|
 Sum.elim (fun _ =>
 .ret true)
  (fun x3 =>
 .ret x3))
  (fun x1 =>
 .ret x1)
def nQ(a:Rat):T zf :=
 T.bind (qL a) fun r =>
 T.bind (fG r.1) fun r1 =>
 T.bind (cx r.2.1) fun r2 =>
 .zd ((r1.length+r2.length)≤(4611686018427387904:Nat)) <|
 .zd ((((r.2.2.1.length:Int) != (1:Int))=false)→(zi (0:Int) r.2.2.1.length)) <|
 .ite (((r.2.2.1.length:Int) != (1:Int))||((nth r.2.2.1 (0:Int) (zb (.int .u32))) != 1))
  (.zd (((cat r1 r2).length+([47]:zf).length)≤(4611686018427387904:Nat)) <|
 T.bind (cx r.2.2.1) fun r3 =>
 .zd (((List.length (cat (cat r1 r2) ([47]:zf)))+r3.length)≤(4611686018427387904:Nat)) <|
 .ret (cat (cat (cat r1 r2) ([47]:zf)) r3))
  (.ret (cat r1 r2))
def Z3(s:zf):T zf :=
 .ite (zM s ([]:zf))
  (.ret ([]:zf))
  (.zd ((([32,119,104,101,110,32]:zf).length+s.length)≤(4611686018427387904:Nat)) <|
 .ret (cat ([32,119,104,101,110,32]:zf) s))
end Go.AM.Lf
