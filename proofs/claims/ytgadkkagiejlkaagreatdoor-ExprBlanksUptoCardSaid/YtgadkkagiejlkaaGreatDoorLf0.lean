/-
  The program's functions as trees in plain Lean, part 0: printed by a program of ours.
-/
import Derived.Test.YtgadkkagiejlkaaGreatDoorAmA
set_option linter.unusedVariables false
noncomputable section
namespace Go.AM.Lf
abbrev gJ:Ty:=(.cons .str .nil)
abbrev Yx:=den gJ
abbrev gS:Ty:=(.cons .str (.cons (.int .u64) .nil))
abbrev ZQ:=den gS
abbrev UH:Ty:=(.cons .str (.cons .bool .nil))
abbrev Switch:=den UH
abbrev Fy:Ty:=(.cons .str gJ)
abbrev z7z:=den Fy
abbrev zU:Ty:=(.cons (.int .i64) (.cons (.int .i64) .nil))
abbrev zO:=den zU
abbrev bV:Ty:=(.cons (.int .u8) (.cons (.int .u8) .nil))
abbrev X7:=den bV
abbrev ig:Ty:=(.cons (.int .i64) (.cons (.int .i64) (.cons .bool (.cons (.int .u8) .nil))))
abbrev Y5:=den ig
abbrev xN:Ty:=(.cons .bool (.cons (.sl (.int .u32)) (.cons (.sl (.int .u32)) .nil)))
abbrev Rat:=den xN
abbrev BK:Ty:=(.cons .str (.cons (.int .i64) (.cons .bool (.cons (.int .i64) .nil))))
abbrev Field:=den BK
abbrev z7:Ty:=(.cons .str (.cons (.int .i64) (.cons (.int .i64) (.cons .bool .nil))))
abbrev zd:=den z7
abbrev IV:Ty:=(.cons .str (.cons (.int .i64) (.cons .str (.cons .expr (.cons .expr .nil)))))
abbrev z8j:=den IV
abbrev Bt:Ty:=(.cons .str (.cons (.int .i64) (.cons (.int .i64) (.cons .expr (.cons .expr .nil)))))
abbrev Check:=den Bt
abbrev HI:Ty:=(.cons .str (.cons xN .nil))
abbrev Param:=den HI
abbrev zb:Ty:=(.cons .str (.cons (.int .i64) (.cons (.int .i64) (.cons (.int .i64) (.cons (.int .i64) (.cons .bool .nil))))))
abbrev zf:=den zb
abbrev P3:Ty:=(.cons (.sl UH) (.cons (.sl HI) (.cons (.sl Fy) (.cons (.sl BK) (.cons (.sl IV) (.cons (.sl Bt) .nil))))))
abbrev Form:=den P3
def j4(vV:AM.Expr→Int→T Int)(e1:AM.Expr):(Int×Int)→T ((Int×Int)⊕(Int))
 | (left1,i) =>
 .ite ((decide (i<((Expr.kids e1).length:Int)))&&(decide ((0:Int)≤left1)))
  (.zj (zt i (Expr.kids e1).length) <|
 T.bind (vV (nth (Expr.kids e1) i (zA .expr)) left1) fun SV =>
 .ret (.inl (SV,(zr (i+1)))))
  (.ret (.inr left1))
def ma vV e1 s:=T.loop (j4 vV e1) s
def gj(vV:AM.Expr→Int→T Int)(e:AM.Expr)(left:Int):T Int :=
 T.bind (ma vV e ((zr ((zr ((zr ((zr (left-3))-((Expr.name e).length:Int)))-(zr ((8:Int)*(Nat.cast (List.length (Expr.num e).2.1):Int)))))-(zr ((8:Int)*(Nat.cast (List.length (Expr.num e).2.2.1):Int))))),(0:Int))) fun T0 =>
 .ret T0
def kI(e:AM.Expr)(left:Int):T Int:=T.fix (fun F x=>gj (fun y0 y1=>F (y0,y1)) x.1 x.2) (e,left)
def kS(a1:(List Int)):Int→T (Int⊕(Int))
 | n =>
 .zj (((decide ((0:Int)<n))=true)→(zt (zr (n-1)) a1.length)) <|
 .ite ((decide ((0:Int)<n))&&((nth a1 (zr (n-1)) (zA (.int .u32)))==0))
  (.ret (.inl (zr (n-1))))
  (.ret (.inr n))
def oN a1 s:=T.loop (kS a1) s
def qH(a:(List Int)):T (List Int) :=
 T.bind (oN a (a.length:Int)) fun n1 =>
 .zj (kc (0:Int) n1 a.length) <|
 .zj (pc (0:Nat) (0:Nat) (0:Nat) (0:Nat) (0:Nat) (List.length (jf (e:=(.int .u32)) (0:Int) n1 a)) (4:Nat)) <|
 .zj (((0:Nat)+(List.length (jf (e:=(.int .u32)) (0:Int) n1 a)))=((0:Nat)+(List.length (jf (e:=(.int .u32)) (0:Int) n1 a)))) <|
 .ret (List.drop (0:Nat) (List.take ((0:Nat)+((0:Nat)+(List.length (jf (e:=(.int .u32)) (0:Int) n1 a)))) (jf (e:=(.int .u32)) (0:Int) n1 a)))
def bN(t1:(List Int)):(Int×Int)→T ((Int×Int)⊕(Int))
 | (n,i) =>
 .ite (decide ((0:Int)≤i))
  (.zj ((0:Int)≤(32:Int)) <|
 .zj (zt i t1.length) <|
 .ret (.inl ((kR .u64 (xn .u64 n (32:Int)) (zn (nth t1 i (zA (.int .u32))))),(zr (i-1)))))
  (.ret (.inr n))
def QS t1 s:=T.loop (bN t1) s
def ow(a:(List Int)):T (Int×Bool) :=
 T.bind (qH a) fun t =>
 .ite (decide ((2:Int)<(t.length:Int)))
  (.ret ((0:Int),false))
  (T.bind (QS t ((0:Int),(zr ((t.length:Int)-(1:Int))))) fun n1 =>
 .ret (n1,true))
def eQ(n:Int):T (List Int) :=
 .zj ((0:Int)≤(32:Int)) <|
 T.bind (qH ([(qg n),(qg (qx .u64 n (32:Int)))]:List Int)) fun r =>
 .ret r
def gb(a1:(List Int))(vH:Int):(Int×Int×(List Int))→T ((Int×Int×(List Int))⊕((Int×(List Int))))
 | (r,i,xs) =>
 .ite (decide ((0:Int)≤i))
  (.zj ((0:Int)≤(32:Int)) <|
 .zj (zt i a1.length) <|
 .zj (vH≠(0:Int)) <|
 .zj (zt i xs.length) <|
 .zj (fu xs.length xs.length ((0:Nat)+(Int.toNat i)) xs.length) <|
 .zj (vH≠(0:Int)) <|
 .zj (q8 xs.length (0:Nat) xs.length (List.length (List.set xs ((0:Nat)+(Int.toNat i)) (qg (zn (Int.tdiv (kR .u64 (xn .u64 r (32:Int)) (zn (nth a1 i (zA (.int .u32))))) vH)))))) <|
 .zj (xs.length=(List.length (List.set xs ((0:Nat)+(Int.toNat i)) (qg (zn (Int.tdiv (kR .u64 (xn .u64 r (32:Int)) (zn (nth a1 i (zA (.int .u32))))) vH)))))) <|
 .ret (.inl ((Int.tmod (kR .u64 (xn .u64 r (32:Int)) (zn (nth a1 i (zA (.int .u32))))) vH),((zr (i-1)),(List.set xs ((0:Nat)+(Int.toNat i)) (qg (zn (Int.tdiv (kR .u64 (xn .u64 r (32:Int)) (zn (nth a1 i (zA (.int .u32))))) vH))))))))
  (.zj (q8 xs.length (0:Nat) xs.length xs.length) <|
 .zj (xs.length=xs.length) <|
 .ret (.inr (r,xs)))
def nz a1 vH s:=T.loop (gb a1 vH) s
def yQ(a:(List Int))(n5:Int):T ((List Int)×Int) :=
 .zj (rN (a.length:Int) (a.length:Int) (4:Nat)) <|
 .zj (q8 (Int.toNat (a.length:Int)) (0:Nat) (Int.toNat (a.length:Int)) (List.length (List.replicate (Int.toNat (a.length:Int)) (0:Int)))) <|
 .zj ((Int.toNat (a.length:Int))=(List.length (List.replicate (Int.toNat (a.length:Int)) (0:Int)))) <|
 T.bind (nz a n5 ((0:Int),((zr ((a.length:Int)-(1:Int))),(List.replicate (Int.toNat (a.length:Int)) (0:Int))))) fun(r1,qp) =>
 .zj (qp.length=qp.length) <|
 T.bind (qH (List.drop (0:Nat) (List.take ((0:Nat)+qp.length) qp))) fun r2 =>
 .ret (r2,r1)
def yg(a:(List Int))(i:Int):T Int :=
 .ite (decide (i<(a.length:Int)))
  (.zj (zt i a.length) <|
 .ret (zn (nth a i (zA (.int .u32)))))
  (.ret (0:Int))
def nq(t1:(List Int))(n5:Int):(Int×(List Int))→T ((Int×(List Int))⊕((List Int)))
 | (i,xs) =>
 .ite (decide (i<(t1.length:Int)))
  (T.bind (yg t1 i) fun r =>
 T.bind (yg t1 (zr (i+1))) fun r1 =>
 .zj ((0:Int)≤(32:Int)) <|
 .zj ((0:Int)≤n5) <|
 .zj (pc xs.length xs.length (0:Nat) xs.length xs.length (1:Nat) (4:Nat)) <|
 .zj (q8 (xs.length+(1:Nat)) (0:Nat) (xs.length+(1:Nat)) (List.length (xs++([(qg (qx .u64 (kR .u64 r (xn .u64 r1 (32:Int))) n5))]:List Int)))) <|
 .zj ((xs.length+(1:Nat))=(List.length (xs++([(qg (qx .u64 (kR .u64 r (xn .u64 r1 (32:Int))) n5))]:List Int)))) <|
 .ret (.inl ((zr (i+1)),(xs++([(qg (qx .u64 (kR .u64 r (xn .u64 r1 (32:Int))) n5))]:List Int)))))
  (.zj (q8 xs.length (0:Nat) xs.length xs.length) <|
 .zj (xs.length=xs.length) <|
 .ret (.inr xs))
def X8 t1 n5 s:=T.loop (nq t1 n5) s
def gf(t2:(List Int))(vH:Int):(Int×Int×(List Int))→T ((Int×Int×(List Int))⊕((List Int)))
 | (low,i1,va) =>
 .ite (decide (i1<(zr ((t2.length:Int)+(1:Int)))))
  (T.bind (yg t2 i1) fun r3 =>
 .zj ((0:Int)≤vH) <|
 .zj (pc va.length va.length (0:Nat) va.length va.length (1:Nat) (4:Nat)) <|
 .zj ((0:Int)≤(32:Int)) <|
 .zj (q8 (va.length+(1:Nat)) (0:Nat) (va.length+(1:Nat)) (List.length (va++([(qg (kR .u64 (xn .u64 r3 vH) low))]:List Int)))) <|
 .zj ((va.length+(1:Nat))=(List.length (va++([(qg (kR .u64 (xn .u64 r3 vH) low))]:List Int)))) <|
 .ret (.inl ((qx .u64 (xn .u64 r3 vH) (32:Int)),((zr (i1+1)),(va++([(qg (kR .u64 (xn .u64 r3 vH) low))]:List Int))))))
  (.zj (q8 va.length (0:Nat) va.length va.length) <|
 .zj (va.length=va.length) <|
 .ret (.inr va))
def n6 t2 vH s:=T.loop (gf t2 vH) s
def fy(a:(List Int))(n:Int):T (List Int) :=
 T.bind (qH a) fun t =>
 .ite (decide ((wk (xL n (-4096:Int)) (4096:Int))<(0:Int)))
  (.zj ((32:Int)≠(0:Int)) <|
 .ite (decide ((t.length:Int)≤(zr (Int.tdiv (zr ((0:Int)-(wk (xL n (-4096:Int)) (4096:Int)))) (32:Int)))))
  (.ret ([]:List Int))
  (.zj (kc (zr (Int.tdiv (zr ((0:Int)-(wk (xL n (-4096:Int)) (4096:Int)))) (32:Int))) (t.length:Int) t.length) <|
 .zj ((32:Int)≠(0:Int)) <|
 .zj (q8 (0:Nat) (0:Nat) (0:Nat) (0:Nat)) <|
 .zj ((0:Nat)=(0:Nat)) <|
 T.bind (X8 (jf (e:=(.int .u32)) (zr (Int.tdiv (zr ((0:Int)-(wk (xL n (-4096:Int)) (4096:Int)))) (32:Int))) (t.length:Int) t) (zn (Int.tmod (zr ((0:Int)-(wk (xL n (-4096:Int)) (4096:Int)))) (32:Int))) ((0:Int),([]:List Int))) fun qp =>
 .zj (qp.length=qp.length) <|
 T.bind (qH (List.drop (0:Nat) (List.take ((0:Nat)+qp.length) qp))) fun r2 =>
 .ret r2))
  (.zj ((32:Int)≠(0:Int)) <|
 .zj (rN (zr (Int.tdiv (wk (xL n (-4096:Int)) (4096:Int)) (32:Int))) (zr (Int.tdiv (wk (xL n (-4096:Int)) (4096:Int)) (32:Int))) (4:Nat)) <|
 .zj ((32:Int)≠(0:Int)) <|
 .zj (q8 (Int.toNat (zr (Int.tdiv (wk (xL n (-4096:Int)) (4096:Int)) (32:Int)))) (0:Nat) (Int.toNat (zr (Int.tdiv (wk (xL n (-4096:Int)) (4096:Int)) (32:Int)))) (List.length (List.replicate (Int.toNat (zr (Int.tdiv (wk (xL n (-4096:Int)) (4096:Int)) (32:Int)))) (0:Int)))) <|
 .zj ((Int.toNat (zr (Int.tdiv (wk (xL n (-4096:Int)) (4096:Int)) (32:Int))))=(List.length (List.replicate (Int.toNat (zr (Int.tdiv (wk (xL n (-4096:Int)) (4096:Int)) (32:Int)))) (0:Int)))) <|
 T.bind (n6 t (zn (Int.tmod (wk (xL n (-4096:Int)) (4096:Int)) (32:Int))) ((0:Int),((0:Int),(List.replicate (Int.toNat (zr (Int.tdiv (wk (xL n (-4096:Int)) (4096:Int)) (32:Int)))) (0:Int))))) fun gL =>
 .zj (gL.length=gL.length) <|
 T.bind (qH (List.drop (0:Nat) (List.take ((0:Nat)+gL.length) gL))) fun r4 =>
 .ret r4)
def cq(a1:(List Int))(b1:(List Int)):(Int×Int×(List Int))→T ((Int×Int×(List Int))⊕((List Int)))
 | (c,i,xs) =>
 .ite (decide (i<(zr ((xL (a1.length:Int) (b1.length:Int))+1))))
  (T.bind (yg a1 i) fun r =>
 T.bind (yg b1 i) fun r1 =>
 .zj (pc xs.length xs.length (0:Nat) xs.length xs.length (1:Nat) (4:Nat)) <|
 .zj ((0:Int)≤(32:Int)) <|
 .zj (q8 (xs.length+(1:Nat)) (0:Nat) (xs.length+(1:Nat)) (List.length (xs++([(qg (zn ((zn (c+r))+r1)))]:List Int)))) <|
 .zj ((xs.length+(1:Nat))=(List.length (xs++([(qg (zn ((zn (c+r))+r1)))]:List Int)))) <|
 .ret (.inl ((qx .u64 (zn ((zn (c+r))+r1)) (32:Int)),((zr (i+1)),(xs++([(qg (zn ((zn (c+r))+r1)))]:List Int))))))
  (.zj (q8 xs.length (0:Nat) xs.length xs.length) <|
 .zj (xs.length=xs.length) <|
 .ret (.inr xs))
def th a1 b1 s:=T.loop (cq a1 b1) s
def gA(a:(List Int))(b:(List Int)):T (List Int) :=
 .zj (q8 (0:Nat) (0:Nat) (0:Nat) (0:Nat)) <|
 .zj ((0:Nat)=(0:Nat)) <|
 T.bind (th a b ((0:Int),((0:Int),([]:List Int)))) fun qp =>
 .zj (qp.length=qp.length) <|
 T.bind (qH (List.drop (0:Nat) (List.take ((0:Nat)+qp.length) qp))) fun r2 =>
 .ret r2
def gF(x1:(List Int))(y1:(List Int)):Int→T (Int⊕(Unit⊕Int))
 | i =>
 .ite (decide ((0:Int)≤i))
  (.zj (zt i x1.length) <|
 .zj (zt i y1.length) <|
 .ite (decide ((nth x1 i (zA (.int .u32)))<(nth y1 i (zA (.int .u32)))))
  (.ret (.inr (.inr (-1:Int))))
  (.zj (zt i x1.length) <|
 .zj (zt i y1.length) <|
 .ite (decide ((nth y1 i (zA (.int .u32)))<(nth x1 i (zA (.int .u32)))))
  (.ret (.inr (.inr (1:Int))))
  (.ret (.inl (zr (i-1))))))
  (.ret (.inr (.inl ())))
def sK x1 y1 s:=T.loop (gF x1 y1) s
def lN(a:(List Int))(b:(List Int)):T Int :=
 T.bind (qH a) fun x =>
 T.bind (qH b) fun y =>
 .ite ((x.length:Int) != (y.length:Int))
  (.ite (decide ((x.length:Int)<(y.length:Int)))
  (.ret (-1:Int))
  (.ret (1:Int)))
  (T.bind (sK x y (zr ((x.length:Int)-(1:Int)))) <|
 Sum.elim (fun _ =>
 .ret (0:Int))
  (fun x2 =>
 .ret x2))
def cy(a1:(List Int))(b1:(List Int)):(Int×Int×(List Int))→T ((Int×Int×(List Int))⊕((List Int)))
 | (c,i,xs) =>
 .ite (decide (i<(a1.length:Int)))
  (T.bind (yg a1 i) fun x =>
 T.bind (yg b1 i) fun r1 =>
 .zj (pc xs.length xs.length (0:Nat) xs.length xs.length (1:Nat) (4:Nat)) <|
 .zj (q8 (xs.length+(1:Nat)) (0:Nat) (xs.length+(1:Nat)) (List.length (xs++([(qg (zn ((bif (decide (x<(zn (r1+c))))then(zn (x+4294967296))else x)-(zn (r1+c)))))]:List Int)))) <|
 .zj ((xs.length+(1:Nat))=(List.length (xs++([(qg (zn ((bif (decide (x<(zn (r1+c))))then(zn (x+4294967296))else x)-(zn (r1+c)))))]:List Int)))) <|
 .ret (.inl ((bif (decide (x<(zn (r1+c))))then(1:Int)else(0:Int)),((zr (i+1)),(xs++([(qg (zn ((bif (decide (x<(zn (r1+c))))then(zn (x+4294967296))else x)-(zn (r1+c)))))]:List Int))))))
  (.zj (q8 xs.length (0:Nat) xs.length xs.length) <|
 .zj (xs.length=xs.length) <|
 .ret (.inr xs))
def sR a1 b1 s:=T.loop (cy a1 b1) s
def oU(a:(List Int))(b:(List Int)):T ((List Int)×Bool) :=
 T.bind (lN a b) fun r =>
 .ite (decide (r<(0:Int)))
  (.ret (([]:List Int),false))
  (.zj (q8 (0:Nat) (0:Nat) (0:Nat) (0:Nat)) <|
 .zj ((0:Nat)=(0:Nat)) <|
 T.bind (sR a b ((0:Int),((0:Int),([]:List Int)))) fun qp =>
 .zj (qp.length=qp.length) <|
 T.bind (qH (List.drop (0:Nat) (List.take ((0:Nat)+qp.length) qp))) fun r2 =>
 .ret (r2,true))
def vU(a1:(List Int))(b1:(List Int)):((List Int)×Int×(List Int))→T (((List Int)×Int×(List Int))⊕(((List Int)×(List Int))))
 | (r5,i,xs) =>
 .ite (decide ((0:Int)≤i))
  (T.bind (fy r5 (1:Int)) fun r6 =>
 T.bind (.zj ((32:Int)≠(0:Int)) <|
 .zj (zt (zr (Int.tdiv i (32:Int))) a1.length) <|
 .zj ((32:Int)≠(0:Int)) <|
 .zj ((0:Int)≤(zn (Int.tmod i (32:Int)))) <|
 .ite ((Yd .u32 (qx .u32 (nth a1 (zr (Int.tdiv i (32:Int))) (zA (.int .u32))) (zn (Int.tmod i (32:Int)))) (1:Int))==1)
  (T.bind (gA r6 ([(1:Int)]:List Int)) fun r7 =>
 .zj (q8 xs.length (0:Nat) xs.length xs.length) <|
 .zj (xs.length=xs.length) <|
 .ret (r7,xs))
  (.zj (q8 xs.length (0:Nat) xs.length xs.length) <|
 .zj (xs.length=xs.length) <|
 .ret (r6,xs)):T (((List Int)×(List Int)))) fun(r8,qp) =>
 T.bind (lN r8 b1) fun r9 =>
 .ite (decide ((0:Int)≤r9))
  (T.bind (oU r8 b1) fun(Uy,Ld) =>
 .zj ((32:Int)≠(0:Int)) <|
 .zj ((32:Int)≠(0:Int)) <|
 .zj (zt (zr (Int.tdiv i (32:Int))) qp.length) <|
 .zj (fu qp.length qp.length ((0:Nat)+(Int.toNat (zr (Int.tdiv i (32:Int))))) qp.length) <|
 .zj ((32:Int)≠(0:Int)) <|
 .zj ((0:Int)≤(zn (Int.tmod i (32:Int)))) <|
 .zj (zt (zr (Int.tdiv i (32:Int))) qp.length) <|
 .zj (fu qp.length qp.length ((0:Nat)+(Int.toNat (zr (Int.tdiv i (32:Int))))) qp.length) <|
 .zj (q8 qp.length (0:Nat) qp.length (List.length (List.set qp ((0:Nat)+(Int.toNat (zr (Int.tdiv i (32:Int))))) (kR .u32 (xm qp ((0:Nat)+(Int.toNat (zr (Int.tdiv i (32:Int))))) (zA (.int .u32))) (xn .u32 (1:Int) (zn (Int.tmod i (32:Int)))))))) <|
 .zj (qp.length=(List.length (List.set qp ((0:Nat)+(Int.toNat (zr (Int.tdiv i (32:Int))))) (kR .u32 (xm qp ((0:Nat)+(Int.toNat (zr (Int.tdiv i (32:Int))))) (zA (.int .u32))) (xn .u32 (1:Int) (zn (Int.tmod i (32:Int)))))))) <|
 .ret (.inl (Uy,((zr (i-1)),(List.set qp ((0:Nat)+(Int.toNat (zr (Int.tdiv i (32:Int))))) (kR .u32 (xm qp ((0:Nat)+(Int.toNat (zr (Int.tdiv i (32:Int))))) (zA (.int .u32))) (xn .u32 (1:Int) (zn (Int.tmod i (32:Int))))))))))
  (.zj (q8 qp.length (0:Nat) qp.length qp.length) <|
 .zj (qp.length=qp.length) <|
 .ret (.inl (r8,((zr (i-1)),qp)))))
  (.zj (q8 xs.length (0:Nat) xs.length xs.length) <|
 .zj (xs.length=xs.length) <|
 .ret (.inr (r5,xs)))
def bO a1 b1 s:=T.loop (vU a1 b1) s
def uS(a:(List Int))(b:(List Int)):T ((List Int)×(List Int)×Bool) :=
 T.bind (qH b) fun r =>
 .ite ((r.length:Int)==(0:Int))
  (.ret (([]:List Int),(([]:List Int),false)))
  (T.bind (ow a) fun(x,one_) =>
 T.bind (ow b) fun(y,two_) =>
 .ite (one_&&two_)
  (.zj (y≠(0:Int)) <|
 T.bind (eQ (zn (Int.tdiv x y))) fun r1 =>
 .zj (y≠(0:Int)) <|
 T.bind (eQ (Int.tmod x y)) fun r2 =>
 .ret (r1,(r2,true)))
  (.ite (two_&&(decide (y<(4294967296:Int))))
  (T.bind (yQ a y) fun(q,r3) =>
 T.bind (eQ r3) fun r4 =>
 .ret (q,(r4,true)))
  (.zj (rN (a.length:Int) (a.length:Int) (4:Nat)) <|
 .zj (q8 (Int.toNat (a.length:Int)) (0:Nat) (Int.toNat (a.length:Int)) (List.length (List.replicate (Int.toNat (a.length:Int)) (0:Int)))) <|
 .zj ((Int.toNat (a.length:Int))=(List.length (List.replicate (Int.toNat (a.length:Int)) (0:Int)))) <|
 T.bind (bO a b (([]:List Int),((zr ((zr ((32:Int)*(a.length:Int)))-1)),(List.replicate (Int.toNat (a.length:Int)) (0:Int))))) fun(r12,va) =>
 .zj (va.length=va.length) <|
 T.bind (qH (List.drop (0:Nat) (List.take ((0:Nat)+va.length) va))) fun r13 =>
 T.bind (qH r12) fun r14 =>
 .ret (r13,(r14,true)))))
def gB  : ((List Int)×(List Int))→T (((List Int)×(List Int))⊕((List Int)))
 | (x1,y1) =>
 .ite (decide ((0:Int)<(y1.length:Int)))
  (T.bind (uS x1 y1) fun(r,r1,r2) =>
 .ret (.inl (y1,r1)))
  (.ret (.inr x1))
def sB(s:((List Int)×(List Int))):T ((List Int)):=T.loop (gB ) s
def pU(a:(List Int))(b:(List Int)):T (List Int) :=
 T.bind (qH a) fun x =>
 T.bind (qH b) fun y =>
 T.bind (sB  (x,y)) fun x2 =>
 .ret x2
def uC(a:Rat):T Rat :=
 T.bind (qH a.2.1) fun n =>
 T.bind (qH a.2.2.1) fun d =>
 .ite (((d.length:Int)==(0:Int))||((n.length:Int)==(0:Int)))
  (.ret (false,(([]:List Int),(([(1:Int)]:List Int),()))))
  (T.bind (pU n d) fun g =>
 T.bind (uS n g) fun(n1,r,r1) =>
 T.bind (uS d g) fun(d1,r2,r3) =>
 .ret (a.1,(n1,(d1,()))))
def gw(a2:(List Int))(b2:(List Int))(i1:Int):(Int×Int×(List Int))→T ((Int×Int×(List Int))⊕((List Int)))
 | (c,k,qp) =>
 .ite ((decide (k<(b2.length:Int)))||(decide ((0:Int)<c)))
  (.ite (decide ((qp.length:Int)≤(zr (i1+k))))
  (.zj (q8 qp.length (0:Nat) qp.length qp.length) <|
 .zj (qp.length=qp.length) <|
 .ret (.inr qp))
  (.zj (zt i1 a2.length) <|
 T.bind (yg b2 k) fun r =>
 .zj (zt (zr (i1+k)) qp.length) <|
 .zj (fu qp.length qp.length ((0:Nat)+(Int.toNat (zr (i1+k)))) qp.length) <|
 .zj (zt (zr (i1+k)) qp.length) <|
 .zj (fu qp.length qp.length ((0:Nat)+(Int.toNat (zr (i1+k)))) qp.length) <|
 .zj ((0:Int)≤(32:Int)) <|
 .zj (q8 qp.length (0:Nat) qp.length (List.length (List.set qp ((0:Nat)+(Int.toNat (zr (i1+k)))) (qg (zn ((zn (c+(zn ((zn (nth a2 i1 (zA (.int .u32))))*r))))+(zn (xm qp ((0:Nat)+(Int.toNat (zr (i1+k)))) (zA (.int .u32)))))))))) <|
 .zj (qp.length=(List.length (List.set qp ((0:Nat)+(Int.toNat (zr (i1+k)))) (qg (zn ((zn (c+(zn ((zn (nth a2 i1 (zA (.int .u32))))*r))))+(zn (xm qp ((0:Nat)+(Int.toNat (zr (i1+k)))) (zA (.int .u32)))))))))) <|
 .ret (.inl ((qx .u64 (zn ((zn (c+(zn ((zn (nth a2 i1 (zA (.int .u32))))*r))))+(zn (xm qp ((0:Nat)+(Int.toNat (zr (i1+k)))) (zA (.int .u32)))))) (32:Int)),((zr (k+1)),(List.set qp ((0:Nat)+(Int.toNat (zr (i1+k)))) (qg (zn ((zn (c+(zn ((zn (nth a2 i1 (zA (.int .u32))))*r))))+(zn (xm qp ((0:Nat)+(Int.toNat (zr (i1+k)))) (zA (.int .u32)))))))))))))
  (.zj (q8 qp.length (0:Nat) qp.length qp.length) <|
 .zj (qp.length=qp.length) <|
 .ret (.inr qp))
def sY a2 b2 i1 s:=T.loop (gw a2 b2 i1) s
def cH(a1:(List Int))(b1:(List Int)):(Int×(List Int))→T ((Int×(List Int))⊕((List Int)))
 | (i,xs) =>
 .ite (decide (i<(a1.length:Int)))
  (.zj (q8 xs.length (0:Nat) xs.length xs.length) <|
 .zj (xs.length=xs.length) <|
 T.bind (sY a1 b1 i ((0:Int),((0:Int),xs))) fun va =>
 .zj (q8 va.length (0:Nat) va.length va.length) <|
 .zj (va.length=va.length) <|
 .ret (.inl ((zr (i+1)),va)))
  (.zj (q8 xs.length (0:Nat) xs.length xs.length) <|
 .zj (xs.length=xs.length) <|
 .ret (.inr xs))
def tf a1 b1 s:=T.loop (cH a1 b1) s
def jG(a:(List Int))(b:(List Int)):T (List Int) :=
 .zj (rN (zr ((a.length:Int)+(b.length:Int))) (zr ((a.length:Int)+(b.length:Int))) (4:Nat)) <|
 .zj (q8 (Int.toNat (zr ((a.length:Int)+(b.length:Int)))) (0:Nat) (Int.toNat (zr ((a.length:Int)+(b.length:Int)))) (List.length (List.replicate (Int.toNat (zr ((a.length:Int)+(b.length:Int)))) (0:Int)))) <|
 .zj ((Int.toNat (zr ((a.length:Int)+(b.length:Int))))=(List.length (List.replicate (Int.toNat (zr ((a.length:Int)+(b.length:Int)))) (0:Int)))) <|
 T.bind (tf a b ((0:Int),(List.replicate (Int.toNat (zr ((a.length:Int)+(b.length:Int)))) (0:Int)))) fun gL =>
 .zj (gL.length=gL.length) <|
 T.bind (qH (List.drop (0:Nat) (List.take ((0:Nat)+gL.length) gL))) fun r1 =>
 .ret r1
def jL  : ((List Int)×zh)→T (((List Int)×zh)⊕(zh))
 | (t1,s) =>
 .ite (decide ((0:Int)<(t1.length:Int)))
  (T.bind (yQ t1 (10:Int)) fun(t2,r) =>
 .zj (((List.length (j7 ([(C9 (zn ((48:Int)+r)))]:List Int)))+s.length)≤(4611686018427387904:Nat)) <|
 .ret (.inl (t2,(cat (j7 ([(C9 (zn ((48:Int)+r)))]:List Int)) s))))
  (.ret (.inr s))
def cZ(s:((List Int)×zh)):T (zh):=T.loop (jL ) s
def fj(a:(List Int)):T zh :=
 T.bind (qH a) fun t =>
 .ite ((t.length:Int)==(0:Int))
  (.ret ([48]:zh))
  (T.bind (cZ  (t,([]:zh))) fun s1 =>
 .ret s1)
def j6(YT:Int):zh→T (zh⊕(zh))
 | s1 =>
 .ite (decide ((s1.length:Int)<YT))
  (.zj ((([48]:zh).length+s1.length)≤(4611686018427387904:Nat)) <|
 .ret (.inl (cat ([48]:zh) s1)))
  (.ret (.inr s1))
def lC YT s:=T.loop (j6 YT) s
def cM(n:(List Int))(least:Int):T zh :=
 T.bind (fj n) fun s =>
 T.bind (lC least s) fun s2 =>
 .ret s2
def dO(neg:Bool):T zh :=
 .ite neg
  (.ret ([45]:zh))
  (.ret ([]:zh))
def dZ(neg:Bool)(n:(List Int))(scale:Int):T zh :=
 T.bind (cM n (zr (scale+1))) fun s =>
 .zj (((decide ((0:Int)<scale))=true)→((kc (0:Int) (zr ((s.length:Int)-scale)) s.length)∧((((List.length (zS (0:Int) (zr ((s.length:Int)-scale)) s))+([46]:zh).length)≤(4611686018427387904:Nat))∧((kc (zr ((s.length:Int)-scale)) (s.length:Int) s.length)∧(((List.length (cat (zS (0:Int) (zr ((s.length:Int)-scale)) s) ([46]:zh)))+(List.length (zS (zr ((s.length:Int)-scale)) (s.length:Int) s)))≤(4611686018427387904:Nat)))))) <|
 .ite neg
  (T.bind (dO (decide ((0:Int)<(n.length:Int)))) fun r =>
 .zj ((r.length+(List.length (bif (decide ((0:Int)<scale))then(cat (cat (zS (0:Int) (zr ((s.length:Int)-scale)) s) ([46]:zh)) (zS (zr ((s.length:Int)-scale)) (s.length:Int) s))else s)))≤(4611686018427387904:Nat)) <|
 .ret (cat r (bif (decide ((0:Int)<scale))then(cat (cat (zS (0:Int) (zr ((s.length:Int)-scale)) s) ([46]:zh)) (zS (zr ((s.length:Int)-scale)) (s.length:Int) s))else s)))
  (T.bind (dO false) fun r1 =>
 .zj ((r1.length+(List.length (bif (decide ((0:Int)<scale))then(cat (cat (zS (0:Int) (zr ((s.length:Int)-scale)) s) ([46]:zh)) (zS (zr ((s.length:Int)-scale)) (s.length:Int) s))else s)))≤(4611686018427387904:Nat)) <|
 .ret (cat r1 (bif (decide ((0:Int)<scale))then(cat (cat (zS (0:Int) (zr ((s.length:Int)-scale)) s) ([46]:zh)) (zS (zr ((s.length:Int)-scale)) (s.length:Int) s))else s)))
def uy  : ((List Int)×Int×Rat)→T (((List Int)×Int×Rat)⊕(Rat⊕(zh×Bool×Rat)))
 | (t,k,v) =>
 .ite (decide (k≤(60:Int)))
  (T.bind (jG v.2.1 t) fun r1 =>
 T.bind (uS r1 v.2.2.1) fun(q,r2,r3) =>
 .ite ((r2.length:Int)==(0:Int))
  (T.bind (dZ v.1 q k) fun r4 =>
 .ret (.inr (.inr (r4,(true,v)))))
  (T.bind (jG t ([(10:Int)]:List Int)) fun t1 =>
 .ret (.inl (t1,((zr (k+1)),v)))))
  (.ret (.inr (.inl v)))
def nn(s:((List Int)×Int×Rat)):T (Rat⊕(zh×Bool×Rat)):=T.loop (uy ) s
def yT(a:Rat):T (zh×Bool) :=
 T.bind (uC a) fun r =>
 T.bind (nn  (([(1:Int)]:List Int),((0:Int),r))) <|
 Sum.elim (fun v1 =>
 .ret (([]:zh),false))
  (fun(x,x1,v2) =>
 .ret (x,x1))
def uA(a1:(List Int))(b1:(List Int)):Int→T (Int⊕(Unit⊕Bool))
 | i =>
 .ite (decide (i<(a1.length:Int)))
  (.zj (zt i a1.length) <|
 .zj (zt i b1.length) <|
 .ite ((nth a1 i (zA (.int .u32))) != (nth b1 i (zA (.int .u32))))
  (.ret (.inr (.inr false)))
  (.ret (.inl (zr (i+1)))))
  (.ret (.inr (.inl ())))
def dc a1 b1 s:=T.loop (uA a1 b1) s
def ko(a:(List Int))(b:(List Int)):T Bool :=
 .ite ((a.length:Int) != (b.length:Int))
  (.ret false)
  (T.bind (dc a b (0:Int)) <|
 Sum.elim (fun _ =>
 .ret true)
  (fun x =>
 .ret x))
def oD(a:Rat):T Bool :=
 T.bind (uC a) fun r =>
 .ite (a.1==r.1)
  (T.bind (ko a.2.1 r.2.1) fun r1 =>
 .ite r1
  (T.bind (ko a.2.2.1 r.2.2.1) fun r2 =>
 .ret r2)
  (.ret false))
  (.ret false)
def fq(a:Rat):T Bool :=
 T.bind (uC a) fun r =>
 .ret ((decide ((16:Int)<(r.2.1.length:Int)))||(decide ((16:Int)<(r.2.2.1.length:Int))))
def dB(a:Rat):T Bool :=
 T.bind (oD a) fun r =>
 .ite r
  (T.bind (fq a) fun r1 =>
 .ret (!r1))
  (.ret false)
def xH(c:Int):T Bool :=
 .ret ((decide ((97:Int)≤c))&&(decide (c≤(122:Int))))
def vf(c:Int):T Bool :=
 .ret ((decide ((48:Int)≤c))&&(decide (c≤(57:Int))))
def jj(s1:zh):Int→T (Int⊕(Unit⊕Bool))
 | i =>
 .ite (decide (i<(s1.length:Int)))
  (T.bind (.zj (zt i s1.length) <|
 T.bind (xH (zo s1 i)) fun r1 =>
 .ite (!r1)
  (.zj (zt i s1.length) <|
 T.bind (vf (zo s1 i)) fun r2 =>
 .ite (!r2)
  (.zj (zt i s1.length) <|
 .ret ((zo s1 i) != 95))
  (.ret false))
  (.ret false):T (Bool)) fun x1 =>
 .ite x1
  (.ret (.inr (.inr false)))
  (.ret (.inl (zr (i+1)))))
  (.ret (.inr (.inl ())))
def ot s1 s:=T.loop (jj s1) s
def dr(s:zh):T Bool :=
 T.bind (.ite (decide ((s.length:Int)<(1:Int)))
  (.ret true)
  (.ite (decide ((24:Int)<(s.length:Int)))
  (.ret true)
  (.zj (zt (0:Int) s.length) <|
 T.bind (xH (zo s (0:Int))) fun r =>
 .ret (!r))):T (Bool)) fun x =>
 .ite x
  (.ret false)
  (T.bind (ot s (1:Int)) <|
 Sum.elim (fun _ =>
 .ret true)
  (fun x2 =>
 .ret x2))
def j3(a:Rat):T Bool :=
 .ite (!a.1)
  (.ite ((a.2.1.length:Int)==(0:Int))
  (.ite ((a.2.2.1.length:Int)==(0:Int))
  (.ret true)
  (T.bind (oD a) fun r =>
 .ret r))
  (.ret false))
  (.ret false)
def gv(jJ:AM.Expr→Int→T Bool)(IQ:Int)(e1:AM.Expr)(FF:Int):Int→T (Int⊕(Unit⊕Bool))
 | i =>
 .ite (decide (i<FF))
  (.zj (zt i (Expr.kids e1).length) <|
 T.bind (jJ (nth (Expr.kids e1) i (zA .expr)) (zr (IQ+1))) fun r5 =>
 .ite (!r5)
  (.ret (.inr (.inr false)))
  (.ret (.inl (zr (i+1)))))
  (.ret (.inr (.inl ())))
def iJ jJ IQ e1 FF s:=T.loop (gv jJ IQ e1 FF) s
def eC(jJ:AM.Expr→Int→T Bool)(e:AM.Expr)(deep:Int):T Bool :=
 .ite (decide ((32:Int)<deep))
  (.ret false)
  (T.bind (.ite ((Expr.kind e)==1)
  (T.bind (yT (Expr.num e)) fun(r,ok) =>
 .ite (((Expr.kids e).length:Int)==(0:Int))
  (.ite (zD (Expr.name e) ([]:zh))
  (T.bind (dB (Expr.num e)) fun r1 =>
 .ite r1
  (.ite (!(Expr.num e).1)
  (.ret (.inr ok))
  (.ret (.inr false)))
  (.ret (.inr false)))
  (.ret (.inr false)))
  (.ret (.inr false)))
  (.ite ((Expr.kind e)==2)
  (.ite (((Expr.kids e).length:Int)==(0:Int))
  (T.bind (dr (Expr.name e)) fun r2 =>
 .ite r2
  (T.bind (j3 (Expr.num e)) fun r3 =>
 .ret (.inr r3))
  (.ret (.inr false)))
  (.ret (.inr false)))
  (.ite ((Expr.kind e)==7)
  (.ret (.inl (1:Int)))
  (.ite ((Expr.kind e)==3)
  (.ret (.inl (2:Int)))
  (.ite ((Expr.kind e)==4)
  (.ret (.inl (2:Int)))
  (.ite ((Expr.kind e)==5)
  (.ret (.inl (2:Int)))
  (.ite ((Expr.kind e)==6)
  (.ret (.inl (2:Int)))
  (.ret (.inr false)))))))):T (Int⊕Bool)) <|
 Sum.elim (fun kids =>
 T.bind (.ite (((Expr.kids e).length:Int) != kids)
  (.ret true)
  (.ite (!(zD (Expr.name e) ([]:zh)))
  (.ret true)
  (T.bind (j3 (Expr.num e)) fun r4 =>
 .ret (!r4))):T (Bool)) fun x1 =>
 .ite x1
  (.ret false)
  (T.bind (iJ jJ deep e kids (0:Int)) <|
 Sum.elim (fun _ =>
 .ret true)
  (fun x2 =>
 .ret x2)))
  (fun x =>
 .ret x))
def dN(e:AM.Expr)(deep:Int):T Bool:=T.fix (fun F x=>eC (fun y0 y1=>F (y0,y1)) x.1 x.2) (e,deep)
def jz(uo:AM.Expr→T Int)(e1:AM.Expr):(Int×Int)→T ((Int×Int)⊕(Int))
 | (n,i) =>
 .ite (decide (i<((Expr.kids e1).length:Int)))
  (.zj (zt i (Expr.kids e1).length) <|
 T.bind (uo (nth (Expr.kids e1) i (zA .expr))) fun r =>
 .ret (.inl ((zr (n+r)),(zr (i+1)))))
  (.ret (.inr n))
def n9 uo e1 s:=T.loop (jz uo e1) s
def b7(uo:AM.Expr→T Int)(e:AM.Expr):T Int :=
 T.bind (n9 uo e ((1:Int),(0:Int))) fun n1 =>
 .ret n1
def fA(e:AM.Expr):T Int:=T.fix (fun F x=>b7 (fun y0=>F (y0)) x) e
def jW(e:AM.Expr):T Bool :=
 T.bind (dN e (1:Int)) fun r =>
 .ite r
  (T.bind (fA e) fun r1 =>
 .ret (decide (r1≤(256:Int))))
  (.ret false)
def iF(kind:Int):T Int :=
 .ite (bif (kind==3)then(kind==3)else(kind==4))
  (.ret (1:Int))
  (.ite (bif (kind==5)then(kind==5)else(kind==6))
  (.ret (2:Int))
  (.ite (kind==7)
  (.ret (3:Int))
  (.ret (4:Int))))
def ct(xP:AM.Expr→Int→T zh)(e:AM.Expr)(asks:Int):T zh :=
 T.bind (.ite ((Expr.kind e)==1)
  (T.bind (yT (Expr.num e)) fun(s,r) =>
 .ret s)
  (.ite ((Expr.kind e)==2)
  (.ret (Expr.name e))
  (.ite ((Expr.kind e)==7)
  (.zj (zt (0:Int) (Expr.kids e).length) <|
 T.bind (xP (nth (Expr.kids e) (0:Int) (zA .expr)) (3:Int)) fun r1 =>
 .zj ((([45]:zh).length+r1.length)≤(4611686018427387904:Nat)) <|
 .ret (cat ([45]:zh) r1))
  (.ite ((Expr.kind e)==3)
  (.zj (zt (0:Int) (Expr.kids e).length) <|
 T.bind (xP (nth (Expr.kids e) (0:Int) (zA .expr)) (1:Int)) fun r2 =>
 .zj ((r2.length+([32,43,32]:zh).length)≤(4611686018427387904:Nat)) <|
 .zj (zt (1:Int) (Expr.kids e).length) <|
 T.bind (xP (nth (Expr.kids e) (1:Int) (zA .expr)) (2:Int)) fun r3 =>
 .zj (((List.length (cat r2 ([32,43,32]:zh)))+r3.length)≤(4611686018427387904:Nat)) <|
 .ret (cat (cat r2 ([32,43,32]:zh)) r3))
  (.ite ((Expr.kind e)==4)
  (.zj (zt (0:Int) (Expr.kids e).length) <|
 T.bind (xP (nth (Expr.kids e) (0:Int) (zA .expr)) (1:Int)) fun r4 =>
 .zj ((r4.length+([32,45,32]:zh).length)≤(4611686018427387904:Nat)) <|
 .zj (zt (1:Int) (Expr.kids e).length) <|
 T.bind (xP (nth (Expr.kids e) (1:Int) (zA .expr)) (2:Int)) fun r5 =>
 .zj (((List.length (cat r4 ([32,45,32]:zh)))+r5.length)≤(4611686018427387904:Nat)) <|
 .ret (cat (cat r4 ([32,45,32]:zh)) r5))
  (.ite ((Expr.kind e)==5)
  (.zj (zt (0:Int) (Expr.kids e).length) <|
 T.bind (xP (nth (Expr.kids e) (0:Int) (zA .expr)) (2:Int)) fun r6 =>
 .zj ((r6.length+([32,42,32]:zh).length)≤(4611686018427387904:Nat)) <|
 .zj (zt (1:Int) (Expr.kids e).length) <|
 T.bind (xP (nth (Expr.kids e) (1:Int) (zA .expr)) (3:Int)) fun r7 =>
 .zj (((List.length (cat r6 ([32,42,32]:zh)))+r7.length)≤(4611686018427387904:Nat)) <|
 .ret (cat (cat r6 ([32,42,32]:zh)) r7))
  (.ite ((Expr.kind e)==6)
  (.zj (zt (0:Int) (Expr.kids e).length) <|
 T.bind (xP (nth (Expr.kids e) (0:Int) (zA .expr)) (2:Int)) fun r8 =>
 .zj ((r8.length+([32,47,32]:zh).length)≤(4611686018427387904:Nat)) <|
 .zj (zt (1:Int) (Expr.kids e).length) <|
 T.bind (xP (nth (Expr.kids e) (1:Int) (zA .expr)) (3:Int)) fun r9 =>
 .zj (((List.length (cat r8 ([32,47,32]:zh)))+r9.length)≤(4611686018427387904:Nat)) <|
 .ret (cat (cat r8 ([32,47,32]:zh)) r9))
  (.ret ([]:zh)))))))):T (zh)) fun s1 =>
 T.bind (iF (Expr.kind e)) fun Uy =>
 .ite (decide (Uy<asks))
  (.zj ((([40]:zh).length+s1.length)≤(4611686018427387904:Nat)) <|
 .zj (((List.length (cat ([40]:zh) s1))+([41]:zh).length)≤(4611686018427387904:Nat)) <|
 .ret (cat (cat ([40]:zh) s1) ([41]:zh)))
  (.ret s1)
def mh(e:AM.Expr)(asks:Int):T zh:=T.fix (fun F x=>ct (fun y0 y1=>F (y0,y1)) x.1 x.2) (e,asks)
def bB(e:AM.Expr):T zh :=
 T.bind (jW e) fun r =>
 .ite (!r)
  (.ret ([]:zh))
  (T.bind (mh e (1:Int)) fun r1 =>
 .ret r1)
def xJ  : zd→T (zd⊕(zd))
 | v =>
 .zj (((decide (v.2.1<(v.1.length:Int)))=true)→(zt v.2.1 v.1.length)) <|
 .ite ((decide (v.2.1<(v.1.length:Int)))&&((zo v.1 v.2.1)==32))
  (.ret (.inl (v.1,((zr (v.2.1+1)),(v.2.2.1,(v.2.2.2.1,()))))))
  (.ret (.inr v))
def kF(s:zd):T (zd):=T.loop (xJ ) s
def vw(p:zd):T zd :=
 T.bind (kF  p) fun v1 =>
 .ret v1
def strings_IndexByte(s:zh)(c:Int):T Int:=.ret (iw s (byteOf c))
def qM(some:zh)(p:zd):T (Int×zd) :=
 T.bind (vw p) fun p1 =>
 T.bind (.ite (decide (p1.2.1<(p1.1.length:Int)))
  (.zj (zt p1.2.1 p1.1.length) <|
 T.bind (strings_IndexByte some (zo p1.1 p1.2.1)) fun r =>
 .ret ((decide ((0:Int)≤r)),p1))
  (.ret (false,p1)):T ((Bool×zd))) fun(x,v) =>
 .ite x
  (.zj (zt (zr ((zr (v.2.1+1))-1)) v.1.length) <|
 .ret ((zo v.1 (zr ((zr (v.2.1+1))-1))),(v.1,((zr (v.2.1+1)),(v.2.2.1,(v.2.2.2.1,()))))))
  (.ret ((0:Int),v))
def xy(e:Int)(at_:Int)(p:zd):T (zd⊕(zO×zd)) :=
 .ret (.inr ((e,(at_,())),p))
def wA(p:zd):T (zd⊕(zO×zd)) :=
 .ite (decide ((32:Int)≤(zr (p.2.2.1+1))))
  (T.bind (xy (4:Int) (zr (p.2.1-1)) (p.1,(p.2.1,((zr (p.2.2.1+1)),(p.2.2.2.1,()))))) <|
 Sum.elim (fun p1 =>
 .ret (.inl p1))
  (fun(pv,p2) =>
 .ret (.inr (pv,p2))))
  (.ret (.inl (p.1,(p.2.1,((zr (p.2.2.1+1)),(p.2.2.2.1,()))))))
def xw(c:Int):T Bool :=
 .ret ((decide ((48:Int)≤c))&&(decide (c≤(57:Int))))
def qI(is:Int→T Bool)(IY:Int)(from_:Int):zd→T (zd⊕(zd))
 | v =>
 T.bind (.ite (decide (v.2.1<(v.1.length:Int)))
  (.ite (decide ((zr (v.2.1-from_))<IY))
  (.zj (zt v.2.1 v.1.length) <|
 T.bind (is (zo v.1 v.2.1)) fun r =>
 .ret (r,v))
  (.ret (false,v)))
  (.ret (false,v)):T ((Bool×zd))) fun(x,v1) =>
 .ite x
  (.ret (.inl (v1.1,((zr (v1.2.1+1)),(v1.2.2.1,(v1.2.2.2.1,()))))))
  (.ret (.inr v1))
def yu is IY from_ s:=T.loop (qI is IY from_) s
def qN(is:Int→T Bool)(z4I:Int)(p:zd):T (zh×zd) :=
 T.bind (yu is z4I p.2.1 p) fun v2 =>
 .zj (kc p.2.1 v2.2.1 v2.1.length) <|
 .ret ((zS p.2.1 v2.2.1 v2.1),v2)
def strings_CutPrefix(s:zh)(p:zh):T (zh×Bool) :=
 .ret (ji s p,List.isPrefixOf p s)
def strings_Cut(s:zh)(sep:zh):T (zh×zh×Bool) :=
 .zj (s.length<4294967281) <|
 .ret (oH s sep)
def jC(c1:Int):zh→T (zh⊕(zh))
 | s1 =>
 .zj (((decide ((0:Int)<(s1.length:Int)))=true)→(zt (zr ((s1.length:Int)-(1:Int))) s1.length)) <|
 .ite ((decide ((0:Int)<(s1.length:Int)))&&((zo s1 (zr ((s1.length:Int)-(1:Int))))==c1))
  (.zj (kc (0:Int) (zr ((s1.length:Int)-(1:Int))) s1.length) <|
 .ret (.inl (zS (0:Int) (zr ((s1.length:Int)-(1:Int))) s1)))
  (.ret (.inr s1))
def cX c1 s:=T.loop (jC c1) s
def strings_trimRightByte(s:zh)(c:Int):T zh :=
 T.bind (cX c s) fun s2 =>
 .ret s2
def kH(c1:Int):zh→T (zh⊕(zh))
 | s1 =>
 .zj (((decide ((0:Int)<(s1.length:Int)))=true)→(zt (0:Int) s1.length)) <|
 .ite ((decide ((0:Int)<(s1.length:Int)))&&((zo s1 (0:Int))==c1))
  (.zj (kc (1:Int) (s1.length:Int) s1.length) <|
 .ret (.inl (zS (1:Int) (s1.length:Int) s1)))
  (.ret (.inr s1))
def du c1 s:=T.loop (kH c1) s
def strings_trimLeftByte(s:zh)(c:Int):T zh :=
 T.bind (du c s) fun s2 =>
 .ret s2
def strings_makeASCIISet(s:zh):T ((den (hO .bool 256))×Bool) :=
 .zj (s.length<4294967281∧(∀ (j:Nat) b,s[j]? = some b→b.toNat<128)) <|
 .ret (gV s,true)
def xi(as:(den (hO .bool 256)))(c:Int):T Bool :=
 .zj (zt c (256:Nat)) <|
 .ret (lF .bool (hO .bool 256) as (Int.toNat c))
def xj(P5:(den (hO .bool 256))):zh→T (zh⊕(zh))
 | s1 =>
 .ite (decide ((0:Int)<(s1.length:Int)))
  (.zj (zt (zr ((s1.length:Int)-(1:Int))) s1.length) <|
 T.bind (xi P5 (zo s1 (zr ((s1.length:Int)-(1:Int))))) fun r =>
 .ite (!r)
  (.ret (.inr s1))
  (.zj (kc (0:Int) (zr ((s1.length:Int)-(1:Int))) s1.length) <|
 .ret (.inl (zS (0:Int) (zr ((s1.length:Int)-(1:Int))) s1))))
  (.ret (.inr s1))
def jl P5 s:=T.loop (xj P5) s
def wR(s:zh)(as:(den (hO .bool 256))):T zh :=
 T.bind (jl as s) fun s2 =>
 .ret s2
def xv(P5:(den (hO .bool 256))):zh→T (zh⊕(zh))
 | s1 =>
 .ite (decide ((0:Int)<(s1.length:Int)))
  (.zj (zt (0:Int) s1.length) <|
 T.bind (xi P5 (zo s1 (0:Int))) fun r =>
 .ite (!r)
  (.ret (.inr s1))
  (.zj (kc (1:Int) (s1.length:Int) s1.length) <|
 .ret (.inl (zS (1:Int) (s1.length:Int) s1))))
  (.ret (.inr s1))
def jF P5 s:=T.loop (xv P5) s
def vk(s:zh)(as:(den (hO .bool 256))):T zh :=
 T.bind (jF as s) fun s2 =>
 .ret s2
def j8(s:zh)(cW:zh):T zh :=
 .ite ((zD s ([]:zh))||(zD cW ([]:zh)))
  (.ret s)
  (.zj ((((cW.length:Int)==(1:Int))=true)→(zt (0:Int) cW.length)) <|
 .ite (((cW.length:Int)==(1:Int))&&(decide ((zo cW (0:Int))<(128:Int))))
  (.zj (zt (0:Int) cW.length) <|
 T.bind (strings_trimRightByte s (zo cW (0:Int))) fun r =>
 .zj (zt (0:Int) cW.length) <|
 T.bind (strings_trimLeftByte r (zo cW (0:Int))) fun r1 =>
 .ret r1)
  (T.bind (strings_makeASCIISet cW) fun(r2,ok) =>
 .ite ok
  (T.bind (wR s r2) fun r3 =>
 T.bind (vk r3 r2) fun r4 =>
 .ret r4)
  (.fail)))
def bQ(a:(List Int)):T Bool :=
 .zj ((((a.length:Int)==(0:Int))=false)→(zt (zr ((a.length:Int)-(1:Int))) a.length)) <|
 .ret (((a.length:Int)==(0:Int))||((nth a (zr ((a.length:Int)-(1:Int))) (zA (.int .u32))) != 0))
def cv  : (List Int)→T ((List Int)⊕((List Int)))
 | a1 =>
 T.bind (bQ a1) fun r =>
 .ite (!r)
  (.zj (kc (0:Int) (zr ((a1.length:Int)-(1:Int))) a1.length) <|
 .ret (.inl (jf (e:=(.int .u32)) (0:Int) (zr ((a1.length:Int)-(1:Int))) a1)))
  (.ret (.inr a1))
def iL(s:(List Int)):T ((List Int)):=T.loop (cv ) s
def xC(a:(List Int)):T (List Int) :=
 T.bind (iL  a) fun a2 =>
 .ret a2
def eM(b3:(List Int))(i:Int)(v:Int)(x3:(List Int))(x4:Int)(x5:Int)(x6:(List Int))(x7:Int):(Int×Int×(List Int))→T ((Int×Int×(List Int))⊕((Int×(List Int))))
 | (carry,x8,qp) =>
 .ite (decide (x8<x7))
  (.zj (zt x8 x6.length) <|
 .zj (zt (zr (i+x8)) qp.length) <|
 .zj (fu qp.length qp.length ((0:Nat)+(Int.toNat (zr (i+x8)))) qp.length) <|
 .zj (zt (zr (i+x8)) qp.length) <|
 .zj (fu qp.length qp.length ((0:Nat)+(Int.toNat (zr (i+x8)))) qp.length) <|
 .zj ((0:Int)≤(32:Int)) <|
 .zj (q8 qp.length (0:Nat) qp.length (List.length (List.set qp ((0:Nat)+(Int.toNat (zr (i+x8)))) (qg (zn (carry+(zn ((zn ((zn v)*(zn (nth x6 x8 (zA (.int .u32))))))+(zn (xm qp ((0:Nat)+(Int.toNat (zr (i+x8)))) (zA (.int .u32)))))))))))) <|
 .zj (qp.length=(List.length (List.set qp ((0:Nat)+(Int.toNat (zr (i+x8)))) (qg (zn (carry+(zn ((zn ((zn v)*(zn (nth x6 x8 (zA (.int .u32))))))+(zn (xm qp ((0:Nat)+(Int.toNat (zr (i+x8)))) (zA (.int .u32)))))))))))) <|
 .ret (.inl ((qx .u64 (zn (carry+(zn ((zn ((zn v)*(zn (nth x6 x8 (zA (.int .u32))))))+(zn (xm qp ((0:Nat)+(Int.toNat (zr (i+x8)))) (zA (.int .u32)))))))) (32:Int)),((zr (x8+1)),(List.set qp ((0:Nat)+(Int.toNat (zr (i+x8)))) (qg (zn (carry+(zn ((zn ((zn v)*(zn (nth x6 x8 (zA (.int .u32))))))+(zn (xm qp ((0:Nat)+(Int.toNat (zr (i+x8)))) (zA (.int .u32))))))))))))))
  (.zj (q8 qp.length (0:Nat) qp.length qp.length) <|
 .zj (qp.length=qp.length) <|
 .ret (.inr (carry,qp)))
def Qd b3 i v x3 x4 x5 x6 x7 s:=T.loop (eM b3 i v x3 x4 x5 x6 x7) s
def fa(b2:(List Int))(x:(List Int))(x1:Int):(Int×(List Int))→T ((Int×(List Int))⊕((List Int)))
 | (x2,xs) =>
 .ite (decide (x2<x1))
  (.zj (zt x2 x.length) <|
 .zj (q8 xs.length (0:Nat) xs.length xs.length) <|
 .zj (xs.length=xs.length) <|
 T.bind (Qd b2 x2 (nth x x2 (zA (.int .u32))) x x1 x2 b2 (b2.length:Int) ((0:Int),((0:Int),xs))) fun(carry1,va) =>
 .zj (zt (zr (x2+(b2.length:Int))) va.length) <|
 .zj (fu va.length va.length ((0:Nat)+(Int.toNat (zr (x2+(b2.length:Int))))) va.length) <|
 .zj (q8 va.length (0:Nat) va.length (List.length (List.set va ((0:Nat)+(Int.toNat (zr (x2+(b2.length:Int))))) (qg carry1)))) <|
 .zj (va.length=(List.length (List.set va ((0:Nat)+(Int.toNat (zr (x2+(b2.length:Int))))) (qg carry1)))) <|
 .ret (.inl ((zr (x2+1)),(List.set va ((0:Nat)+(Int.toNat (zr (x2+(b2.length:Int))))) (qg carry1)))))
  (.zj (q8 xs.length (0:Nat) xs.length xs.length) <|
 .zj (xs.length=xs.length) <|
 .ret (.inr xs))
def Qh b2 x x1 s:=T.loop (fa b2 x x1) s
def mm(a:(List Int))(b:(List Int)):T (List Int) :=
 T.bind (xC a) fun a1 =>
 T.bind (xC b) fun b1 =>
 .zj (rN (zr ((a1.length:Int)+(b1.length:Int))) (zr ((a1.length:Int)+(b1.length:Int))) (4:Nat)) <|
 .zj (q8 (Int.toNat (zr ((a1.length:Int)+(b1.length:Int)))) (0:Nat) (Int.toNat (zr ((a1.length:Int)+(b1.length:Int)))) (List.length (List.replicate (Int.toNat (zr ((a1.length:Int)+(b1.length:Int)))) (0:Int)))) <|
 .zj ((Int.toNat (zr ((a1.length:Int)+(b1.length:Int))))=(List.length (List.replicate (Int.toNat (zr ((a1.length:Int)+(b1.length:Int)))) (0:Int)))) <|
 T.bind (Qh b1 a1 (a1.length:Int) ((0:Int),(List.replicate (Int.toNat (zr ((a1.length:Int)+(b1.length:Int)))) (0:Int)))) fun gL =>
 .zj (gL.length=gL.length) <|
 T.bind (xC (List.drop (0:Nat) (List.take ((0:Nat)+gL.length) gL))) fun r =>
 .ret r
def yR(n:Int):T (List Int) :=
 .zj ((0:Int)≤(32:Int)) <|
 T.bind (xC ([(qg n),(qg (qx .u64 n (32:Int)))]:List Int)) fun r =>
 .ret r
def eH(a2:(List Int))(b2:(List Int))(x:(List Int))(x1:Int):(Int×Int×(List Int))→T ((Int×Int×(List Int))⊕((Int×(List Int))))
 | (carry,x2,xs) =>
 .ite (decide (x2<x1))
  (.zj (zt x2 x.length) <|
 .zj (((decide (x2<(b2.length:Int)))=true)→(zt x2 b2.length)) <|
 .zj (zt x2 xs.length) <|
 .zj (fu xs.length xs.length ((0:Nat)+(Int.toNat x2)) xs.length) <|
 .zj ((0:Int)≤(32:Int)) <|
 .zj (q8 xs.length (0:Nat) xs.length (List.length (List.set xs ((0:Nat)+(Int.toNat x2)) (qg (bif (decide (x2<(b2.length:Int)))then(zn ((zn (carry+(zn (nth x x2 (zA (.int .u32))))))+(zn (nth b2 x2 (zA (.int .u32))))))else(zn (carry+(zn (nth x x2 (zA (.int .u32))))))))))) <|
 .zj (xs.length=(List.length (List.set xs ((0:Nat)+(Int.toNat x2)) (qg (bif (decide (x2<(b2.length:Int)))then(zn ((zn (carry+(zn (nth x x2 (zA (.int .u32))))))+(zn (nth b2 x2 (zA (.int .u32))))))else(zn (carry+(zn (nth x x2 (zA (.int .u32))))))))))) <|
 .ret (.inl ((qx .u64 (bif (decide (x2<(b2.length:Int)))then(zn ((zn (carry+(zn (nth x x2 (zA (.int .u32))))))+(zn (nth b2 x2 (zA (.int .u32))))))else(zn (carry+(zn (nth x x2 (zA (.int .u32))))))) (32:Int)),((zr (x2+1)),(List.set xs ((0:Nat)+(Int.toNat x2)) (qg (bif (decide (x2<(b2.length:Int)))then(zn ((zn (carry+(zn (nth x x2 (zA (.int .u32))))))+(zn (nth b2 x2 (zA (.int .u32))))))else(zn (carry+(zn (nth x x2 (zA (.int .u32)))))))))))))
  (.zj (q8 xs.length (0:Nat) xs.length xs.length) <|
 .zj (xs.length=xs.length) <|
 .ret (.inr (carry,xs)))
def Qs a2 b2 x x1 s:=T.loop (eH a2 b2 x x1) s
def tP(a:(List Int))(b:(List Int)):T (List Int) :=
 T.bind (xC a) fun a1 =>
 T.bind (xC b) fun b1 =>
 .zj (rN (zr ((Nat.cast (List.length (bif (decide ((a1.length:Int)<(b1.length:Int)))then b1 else a1)):Int)+(1:Int))) (zr ((Nat.cast (List.length (bif (decide ((a1.length:Int)<(b1.length:Int)))then b1 else a1)):Int)+(1:Int))) (4:Nat)) <|
 .zj (q8 (Int.toNat (zr ((Nat.cast (List.length (bif (decide ((a1.length:Int)<(b1.length:Int)))then b1 else a1)):Int)+(1:Int)))) (0:Nat) (Int.toNat (zr ((Nat.cast (List.length (bif (decide ((a1.length:Int)<(b1.length:Int)))then b1 else a1)):Int)+(1:Int)))) (List.length (List.replicate (Int.toNat (zr ((Nat.cast (List.length (bif (decide ((a1.length:Int)<(b1.length:Int)))then b1 else a1)):Int)+(1:Int)))) (0:Int)))) <|
 .zj ((Int.toNat (zr ((Nat.cast (List.length (bif (decide ((a1.length:Int)<(b1.length:Int)))then b1 else a1)):Int)+(1:Int))))=(List.length (List.replicate (Int.toNat (zr ((Nat.cast (List.length (bif (decide ((a1.length:Int)<(b1.length:Int)))then b1 else a1)):Int)+(1:Int)))) (0:Int)))) <|
 T.bind (Qs (bif (decide ((a1.length:Int)<(b1.length:Int)))then b1 else a1) (bif (decide ((a1.length:Int)<(b1.length:Int)))then a1 else b1) (bif (decide ((a1.length:Int)<(b1.length:Int)))then b1 else a1) (Nat.cast (List.length (bif (decide ((a1.length:Int)<(b1.length:Int)))then b1 else a1)):Int) ((0:Int),((0:Int),(List.replicate (Int.toNat (zr ((Nat.cast (List.length (bif (decide ((a1.length:Int)<(b1.length:Int)))then b1 else a1)):Int)+(1:Int)))) (0:Int))))) fun(carry1,qp) =>
 .zj (zt (Nat.cast (List.length (bif (decide ((a1.length:Int)<(b1.length:Int)))then b1 else a1)):Int) qp.length) <|
 .zj (fu qp.length qp.length ((0:Nat)+(Int.toNat (Nat.cast (List.length (bif (decide ((a1.length:Int)<(b1.length:Int)))then b1 else a1)):Int))) qp.length) <|
 .zj (qp.length=qp.length) <|
 T.bind (xC (List.drop (0:Nat) (List.take ((0:Nat)+qp.length) (List.set qp ((0:Nat)+(Int.toNat (Nat.cast (List.length (bif (decide ((a1.length:Int)<(b1.length:Int)))then b1 else a1)):Int))) (qg carry1))))) fun r =>
 .ret r
def y4(s1:zh)(x1:Int):((List Int)×Int)→T (((List Int)×Int)⊕((List Int)))
 | (a,x2) =>
 .ite (decide (x2<x1))
  (T.bind (mm a ([(10:Int)]:List Int)) fun r1 =>
 .zj (zt x2 s1.length) <|
 T.bind (yR (zn (C9 ((zo s1 x2)-48)))) fun r2 =>
 T.bind (tP r1 r2) fun a1 =>
 .ret (.inl (a1,(zr (x2+1)))))
  (.ret (.inr a))
def oZ s1 x1 s:=T.loop (y4 s1 x1) s
def wX(s:zh):T ((List Int)×Bool) :=
 T.bind (.ite (zD s ([]:zh))
  (.ret true)
  (.ite (decide ((400:Int)<(s.length:Int)))
  (.ret true)
  (T.bind (j8 s ([48,49,50,51,52,53,54,55,56,57]:zh)) fun r =>
 .ret (!(zD r ([]:zh))))):T (Bool)) fun x =>
 .ite x
  (.ret (([]:List Int),false))
  (T.bind (oZ s (s.length:Int) (([]:List Int),(0:Int))) fun a2 =>
 .ret (a2,true))
def c6(x:Int):((List Int)×Int)→T (((List Int)×Int)⊕((List Int)))
 | (a1,x1) =>
 .ite (decide (x1<x))
  (T.bind (yR (10:Int)) fun r =>
 T.bind (mm a1 r) fun a2 =>
 .ret (.inl (a2,(zr (x1+1)))))
  (.ret (.inr a1))
def QJ x s:=T.loop (c6 x) s
def mb(n:Int):T (List Int) :=
 T.bind (yR (1:Int)) fun a =>
 T.bind (QJ n (a,(0:Int))) fun a3 =>
 .ret a3
def wM(s:(List Int)):T (List Int) :=
 .zj (s=[]→∀ r,T.leads (.zj (pc (0:Nat) (0:Nat) (0:Nat) (0:Nat) (0:Nat) s.length (4:Nat)) <|
 .zj (((0:Nat)+s.length)=((0:Nat)+s.length)) <|
 .ret (List.drop (0:Nat) (List.take ((0:Nat)+((0:Nat)+s.length)) s)):T _) r→T.leads (.ret ([]:List Int):T _) r) <|
 .zj (pc (0:Nat) (0:Nat) (0:Nat) (0:Nat) (0:Nat) s.length (4:Nat)) <|
 .zj (((0:Nat)+s.length)=((0:Nat)+s.length)) <|
 .ret (List.drop (0:Nat) (List.take ((0:Nat)+((0:Nat)+s.length)) s))
def y8(a:(List Int)):T (List Int) :=
 T.bind (xC a) fun r =>
 T.bind (wM r) fun r1 =>
 .ret r1
def bY(a2:(List Int))(b2:(List Int)):Int→T (Int⊕(Unit⊕Int))
 | i =>
 .ite (decide ((0:Int)≤i))
  (.zj (zt i a2.length) <|
 .zj (zt i b2.length) <|
 .ite ((nth a2 i (zA (.int .u32))) != (nth b2 i (zA (.int .u32))))
  (.zj (zt i a2.length) <|
 .zj (zt i b2.length) <|
 .ite (decide ((nth a2 i (zA (.int .u32)))<(nth b2 i (zA (.int .u32)))))
  (.ret (.inr (.inr (-1:Int))))
  (.ret (.inr (.inr (1:Int)))))
  (.ret (.inl (zr (i-1)))))
  (.ret (.inr (.inl ())))
def Q0 a2 b2 s:=T.loop (bY a2 b2) s
def mo(a:(List Int))(b:(List Int)):T Int :=
 T.bind (xC a) fun a1 =>
 T.bind (xC b) fun b1 =>
 .ite ((a1.length:Int) != (b1.length:Int))
  (.ite (decide ((a1.length:Int)<(b1.length:Int)))
  (.ret (-1:Int))
  (.ret (1:Int)))
  (T.bind (Q0 a1 b1 (zr ((a1.length:Int)-(1:Int)))) <|
 Sum.elim (fun _ =>
 .ret (0:Int))
  (fun x =>
 .ret x))
def jS(hi:Int)(lo:Int)(y:Int):T (Int×Int) :=
 .ite ((y != 0)&&(decide (y≤hi)))
  (.fail)
  (.zj ((0:Int)≤(32:Int)) <|
 .zj ((zn y)≠(0:Int)) <|
 .zj ((zn y)≠(0:Int)) <|
 .ret ((qg (zn (Int.tdiv (kR .u64 (xn .u64 (zn hi) (32:Int)) (zn lo)) (zn y)))),(qg (Int.tmod (kR .u64 (xn .u64 (zn hi) (32:Int)) (zn lo)) (zn y)))))
def hM(a1:(List Int))(b1:Int):(Int×Int×(List Int))→T ((Int×Int×(List Int))⊕((Int×(List Int))))
 | (rest,i,xs) =>
 .ite (decide ((0:Int)≤i))
  (.zj (zt i a1.length) <|
 T.bind (jS rest (nth a1 i (zA (.int .u32))) b1) fun(r,rest1) =>
 .zj (zt i xs.length) <|
 .zj (fu xs.length xs.length ((0:Nat)+(Int.toNat i)) xs.length) <|
 .zj (q8 xs.length (0:Nat) xs.length (List.length (List.set xs ((0:Nat)+(Int.toNat i)) r))) <|
 .zj (xs.length=(List.length (List.set xs ((0:Nat)+(Int.toNat i)) r))) <|
 .ret (.inl (rest1,((zr (i-1)),(List.set xs ((0:Nat)+(Int.toNat i)) r)))))
  (.zj (q8 xs.length (0:Nat) xs.length xs.length) <|
 .zj (xs.length=xs.length) <|
 .ret (.inr (rest,xs)))
def oT a1 b1 s:=T.loop (hM a1 b1) s
def bf(a:(List Int))(b:Int):T ((List Int)×Int) :=
 .zj (rN (a.length:Int) (a.length:Int) (4:Nat)) <|
 .zj (q8 (Int.toNat (a.length:Int)) (0:Nat) (Int.toNat (a.length:Int)) (List.length (List.replicate (Int.toNat (a.length:Int)) (0:Int)))) <|
 .zj ((Int.toNat (a.length:Int))=(List.length (List.replicate (Int.toNat (a.length:Int)) (0:Int)))) <|
 T.bind (oT a b ((0:Int),((zr ((a.length:Int)-(1:Int))),(List.replicate (Int.toNat (a.length:Int)) (0:Int))))) fun(rest2,qp) =>
 .zj (qp.length=qp.length) <|
 T.bind (xC (List.drop (0:Nat) (List.take ((0:Nat)+qp.length) qp))) fun r1 =>
 .ret (r1,rest2)
def jX(x:Int):T Int :=
 .zj (((decide ((65536:Int)≤x))=true)→((0:Int)≤(16:Int))) <|
 .zj (((decide ((256:Int)≤(bif (decide ((65536:Int)≤x))then(qx .u32 x (16:Int))else x)))=true)→((0:Int)≤(8:Int))) <|
 .zj (zt (C9 (bif (decide ((256:Int)≤(bif (decide ((65536:Int)≤x))then(qx .u32 x (16:Int))else x)))then(qx .u32 (bif (decide ((65536:Int)≤x))then(qx .u32 x (16:Int))else x) (8:Int))else(bif (decide ((65536:Int)≤x))then(qx .u32 x (16:Int))else x))) ([0,1,2,2,3,3,3,3,4,4,4,4,4,4,4,4,5,5,5,5,5,5,5,5,5,5,5,5,5,5,5,5,6,6,6,6,6,6,6,6,6,6,6,6,6,6,6,6,6,6,6,6,6,6,6,6,6,6,6,6,6,6,6,6,7,7,7,7,7,7,7,7,7,7,7,7,7,7,7,7,7,7,7,7,7,7,7,7,7,7,7,7,7,7,7,7,7,7,7,7,7,7,7,7,7,7,7,7,7,7,7,7,7,7,7,7,7,7,7,7,7,7,7,7,7,7,7,7,8,8,8,8,8,8,8,8,8,8,8,8,8,8,8,8,8,8,8,8,8,8,8,8,8,8,8,8,8,8,8,8,8,8,8,8,8,8,8,8,8,8,8,8,8,8,8,8,8,8,8,8,8,8,8,8,8,8,8,8,8,8,8,8,8,8,8,8,8,8,8,8,8,8,8,8,8,8,8,8,8,8,8,8,8,8,8,8,8,8,8,8,8,8,8,8,8,8,8,8,8,8,8,8,8,8,8,8,8,8,8,8,8,8,8,8,8,8,8,8,8,8,8,8,8,8,8,8]:zh).length) <|
 .ret (zr ((bif (decide ((256:Int)≤(bif (decide ((65536:Int)≤x))then(qx .u32 x (16:Int))else x)))then(zr ((bif (decide ((65536:Int)≤x))then(16:Int)else(0:Int))+8))else(bif (decide ((65536:Int)≤x))then(16:Int)else(0:Int)))+(zr (zo ([0,1,2,2,3,3,3,3,4,4,4,4,4,4,4,4,5,5,5,5,5,5,5,5,5,5,5,5,5,5,5,5,6,6,6,6,6,6,6,6,6,6,6,6,6,6,6,6,6,6,6,6,6,6,6,6,6,6,6,6,6,6,6,6,7,7,7,7,7,7,7,7,7,7,7,7,7,7,7,7,7,7,7,7,7,7,7,7,7,7,7,7,7,7,7,7,7,7,7,7,7,7,7,7,7,7,7,7,7,7,7,7,7,7,7,7,7,7,7,7,7,7,7,7,7,7,7,7,8,8,8,8,8,8,8,8,8,8,8,8,8,8,8,8,8,8,8,8,8,8,8,8,8,8,8,8,8,8,8,8,8,8,8,8,8,8,8,8,8,8,8,8,8,8,8,8,8,8,8,8,8,8,8,8,8,8,8,8,8,8,8,8,8,8,8,8,8,8,8,8,8,8,8,8,8,8,8,8,8,8,8,8,8,8,8,8,8,8,8,8,8,8,8,8,8,8,8,8,8,8,8,8,8,8,8,8,8,8,8,8,8,8,8,8,8,8,8,8,8,8,8,8,8,8,8,8]:zh) (C9 (bif (decide ((256:Int)≤(bif (decide ((65536:Int)≤x))then(qx .u32 x (16:Int))else x)))then(qx .u32 (bif (decide ((65536:Int)≤x))then(qx .u32 x (16:Int))else x) (8:Int))else(bif (decide ((65536:Int)≤x))then(qx .u32 x (16:Int))else x)))))))
def wj(x:Int):T Int :=
 T.bind (jX x) fun r =>
 .ret (zr ((32:Int)-r))
def n8(vH:Int)(n1:Int)(x:(List Int))(x1:Int):(Int×(List Int))→T ((Int×(List Int))⊕((List Int)))
 | (x2,xs) =>
 .ite (decide (x2<x1))
  (.zj (zt x2 x.length) <|
 .zj ((0:Int)≤vH) <|
 .zj (zt x2 xs.length) <|
 .zj (fu xs.length xs.length ((0:Nat)+(Int.toNat x2)) xs.length) <|
 .zj (zt x2 xs.length) <|
 .zj (fu xs.length xs.length ((0:Nat)+(Int.toNat x2)) xs.length) <|
 .ite (decide ((zr (x2+1))<n1))
  (.zj ((0:Int)≤(32:Int)) <|
 .zj (zt (zr (x2+1)) xs.length) <|
 .zj (fu xs.length xs.length ((0:Nat)+(Int.toNat (zr (x2+1)))) (List.length (List.set xs ((0:Nat)+(Int.toNat x2)) (kR .u32 (xm xs ((0:Nat)+(Int.toNat x2)) (zA (.int .u32))) (qg (xn .u64 (zn (nth x x2 (zA (.int .u32)))) vH)))))) <|
 .zj (q8 xs.length (0:Nat) xs.length (List.length (List.set (List.set xs ((0:Nat)+(Int.toNat x2)) (kR .u32 (xm xs ((0:Nat)+(Int.toNat x2)) (zA (.int .u32))) (qg (xn .u64 (zn (nth x x2 (zA (.int .u32)))) vH)))) ((0:Nat)+(Int.toNat (zr (x2+1)))) (qg (qx .u64 (xn .u64 (zn (nth x x2 (zA (.int .u32)))) vH) (32:Int)))))) <|
 .zj (xs.length=(List.length (List.set (List.set xs ((0:Nat)+(Int.toNat x2)) (kR .u32 (xm xs ((0:Nat)+(Int.toNat x2)) (zA (.int .u32))) (qg (xn .u64 (zn (nth x x2 (zA (.int .u32)))) vH)))) ((0:Nat)+(Int.toNat (zr (x2+1)))) (qg (qx .u64 (xn .u64 (zn (nth x x2 (zA (.int .u32)))) vH) (32:Int)))))) <|
 .ret (.inl ((zr (x2+1)),(List.set (List.set xs ((0:Nat)+(Int.toNat x2)) (kR .u32 (xm xs ((0:Nat)+(Int.toNat x2)) (zA (.int .u32))) (qg (xn .u64 (zn (nth x x2 (zA (.int .u32)))) vH)))) ((0:Nat)+(Int.toNat (zr (x2+1)))) (qg (qx .u64 (xn .u64 (zn (nth x x2 (zA (.int .u32)))) vH) (32:Int)))))))
  (.zj (q8 xs.length (0:Nat) xs.length (List.length (List.set xs ((0:Nat)+(Int.toNat x2)) (kR .u32 (xm xs ((0:Nat)+(Int.toNat x2)) (zA (.int .u32))) (qg (xn .u64 (zn (nth x x2 (zA (.int .u32)))) vH)))))) <|
 .zj (xs.length=(List.length (List.set xs ((0:Nat)+(Int.toNat x2)) (kR .u32 (xm xs ((0:Nat)+(Int.toNat x2)) (zA (.int .u32))) (qg (xn .u64 (zn (nth x x2 (zA (.int .u32)))) vH)))))) <|
 .ret (.inl ((zr (x2+1)),(List.set xs ((0:Nat)+(Int.toNat x2)) (kR .u32 (xm xs ((0:Nat)+(Int.toNat x2)) (zA (.int .u32))) (qg (xn .u64 (zn (nth x x2 (zA (.int .u32)))) vH))))))))
  (.zj (q8 xs.length (0:Nat) xs.length xs.length) <|
 .zj (xs.length=xs.length) <|
 .ret (.inr xs))
def ng vH n1 x x1 s:=T.loop (n8 vH n1 x x1) s
def bG(a:(List Int))(n5:Int)(n:Int):T (List Int) :=
 .zj (rN n n (4:Nat)) <|
 .zj (q8 (Int.toNat n) (0:Nat) (Int.toNat n) (List.length (List.replicate (Int.toNat n) (0:Int)))) <|
 .zj ((Int.toNat n)=(List.length (List.replicate (Int.toNat n) (0:Int)))) <|
 T.bind (ng n5 n a (a.length:Int) ((0:Int),(List.replicate (Int.toNat n) (0:Int)))) fun qp =>
 .zj (q8 qp.length (0:Nat) qp.length qp.length) <|
 .zj (qp.length=qp.length) <|
 .ret qp
def yj(RE:Int)(b11:Int)(b21:Int):(Int×Int)→T ((Int×Int)⊕(Int))
 | (q,r) =>
 .zj (((0:Int)≤(32:Int))∧((((qx .u64 q (32:Int)) != 0)=false)→((0:Int)≤(32:Int)))) <|
 .ite (((qx .u64 q (32:Int)) != 0)||(decide ((kR .u64 (xn .u64 r (32:Int)) (zn RE))<(zn (q*(zn b21))))))
  (.zj ((0:Int)≤(32:Int)) <|
 .ite ((qx .u64 (zn (r+(zn b11))) (32:Int)) != 0)
  (.ret (.inr (zn (q-1))))
  (.ret (.inl ((zn (q-1)),(zn (r+(zn b11)))))))
  (.ret (.inr q))
def oz RE b11 b21 s:=T.loop (yj RE b11 b21) s
def bn(high:Int)(mid:Int)(low:Int)(b1:Int)(b2:Int):T Int :=
 .zj ((0:Int)≤(32:Int)) <|
 .zj ((zn b1)≠(0:Int)) <|
 .zj ((zn b1)≠(0:Int)) <|
 T.bind (oz low b1 b2 ((zn (Int.tdiv (kR .u64 (xn .u64 (zn high) (32:Int)) (zn mid)) (zn b1))),(Int.tmod (kR .u64 (xn .u64 (zn high) (32:Int)) (zn mid)) (zn b1)))) fun q1 =>
 .ret q1
def uk(x:Int)(y:Int)(borrow:Int):T (Int×Int) :=
 .zj ((0:Int)≤(31:Int)) <|
 .ret ((qg ((qg (x-y))-borrow)),(qx .u32 (kR .u32 (Yd .u32 (GS .u32 (4294967295:Int) x) y) (Yd .u32 (GS .u32 (4294967295:Int) (GS .u32 x y)) (qg ((qg (x-y))-borrow)))) (31:Int)))
def jR(x:Int)(y:Int)(carry:Int):T (Int×Int) :=
 .zj ((0:Int)≤(32:Int)) <|
 .ret ((qg (zn ((zn ((zn x)+(zn y)))+(zn carry)))),(qg (qx .u64 (zn ((zn ((zn x)+(zn y)))+(zn carry))) (32:Int))))
def yl(b1:(List Int))(q1:Int)(x:(List Int))(x1:Int):((Nat×Nat)×Int×Int×Int×(List Int))→T (((Nat×Nat)×Int×Int×Int×(List Int))⊕(((Nat×Nat)×Int×Int×(List Int))))
 | (u1,carry,borrow,x2,xs) =>
 .ite (decide (x2<x1))
  (.zj (zt x2 x.length) <|
 .zj (zt x2 u1.2) <|
 .zj (fu xs.length xs.length (u1.1+(Int.toNat x2)) xs.length) <|
 T.bind (uk (xm xs (u1.1+(Int.toNat x2)) (zA (.int .u32))) (qg (zn (carry+(zn (q1*(zn (nth x x2 (zA (.int .u32))))))))) borrow) fun(r,borrow1) =>
 .zj (zt x2 u1.2) <|
 .zj (fu xs.length xs.length (u1.1+(Int.toNat x2)) xs.length) <|
 .zj ((0:Int)≤(32:Int)) <|
 .zj (xs.length=xs.length) <|
 .zj (xs.length=(List.length (List.set xs (u1.1+(Int.toNat x2)) r))) <|
 .ret (.inl (u1,((qx .u64 (zn (carry+(zn (q1*(zn (nth x x2 (zA (.int .u32)))))))) (32:Int)),(borrow1,((zr (x2+1)),(List.set xs (u1.1+(Int.toNat x2)) r)))))))
  (.zj (xs.length=xs.length) <|
 .zj (xs.length=xs.length) <|
 .ret (.inr (u1,(carry,(borrow,xs)))))
def iS b1 q1 x x1 s:=T.loop (yl b1 q1 x x1) s
def yc(b2:(List Int))(x3:(List Int))(x4:Int):((Nat×Nat)×Int×Int×(List Int))→T (((Nat×Nat)×Int×Int×(List Int))⊕(((Nat×Nat)×Int×(List Int))))
 | (u3,more,x5,va) =>
 .ite (decide (x5<x4))
  (.zj (zt x5 x3.length) <|
 .zj (zt x5 u3.2) <|
 .zj (fu va.length va.length (u3.1+(Int.toNat x5)) va.length) <|
 T.bind (jR (xm va (u3.1+(Int.toNat x5)) (zA (.int .u32))) (nth x3 x5 (zA (.int .u32))) more) fun(r2,more1) =>
 .zj (zt x5 u3.2) <|
 .zj (fu va.length va.length (u3.1+(Int.toNat x5)) va.length) <|
 .zj (va.length=va.length) <|
 .zj (va.length=(List.length (List.set va (u3.1+(Int.toNat x5)) r2))) <|
 .ret (.inl (u3,(more1,((zr (x5+1)),(List.set va (u3.1+(Int.toNat x5)) r2))))))
  (.zj (va.length=va.length) <|
 .zj (va.length=va.length) <|
 .ret (.inr (u3,(more,va))))
def iY b2 x3 x4 s:=T.loop (yc b2 x3 x4) s
def cr(uw:(Nat×Nat))(b:(List Int))(q:Int)(u:(List Int)):T (Bool×(List Int)) :=
 .zj (u.length=u.length) <|
 .zj (u.length=u.length) <|
 T.bind (iS b q b (b.length:Int) (uw,((0:Int),((0:Int),((0:Int),u))))) fun(u2,carry1,borrow2,qp) =>
 .zj (zt (b.length:Int) u2.2) <|
 .zj (fu qp.length qp.length (u2.1+(Int.toNat (b.length:Int))) qp.length) <|
 T.bind (uk (xm qp (u2.1+(Int.toNat (b.length:Int))) (zA (.int .u32))) (qg carry1) borrow2) fun(r1,borrow3) =>
 .zj (zt (b.length:Int) u2.2) <|
 .zj (fu qp.length qp.length (u2.1+(Int.toNat (b.length:Int))) qp.length) <|
 .ite (borrow3==0)
  (.zj (qp.length=(List.length (List.set qp (u2.1+(Int.toNat (b.length:Int))) r1))) <|
 .ret (false,(List.set qp (u2.1+(Int.toNat (b.length:Int))) r1)))
  (.zj (qp.length=qp.length) <|
 .zj (qp.length=(List.length (List.set qp (u2.1+(Int.toNat (b.length:Int))) r1))) <|
 T.bind (iY b b (b.length:Int) (u2,((0:Int),((0:Int),(List.set qp (u2.1+(Int.toNat (b.length:Int))) r1))))) fun(u4,more2,gL) =>
 .zj (zt (b.length:Int) u4.2) <|
 .zj (fu gL.length gL.length (u4.1+(Int.toNat (b.length:Int))) gL.length) <|
 .zj (zt (b.length:Int) u4.2) <|
 .zj (fu gL.length gL.length (u4.1+(Int.toNat (b.length:Int))) gL.length) <|
 .zj (gL.length=(List.length (List.set gL (u4.1+(Int.toNat (b.length:Int))) (qg ((xm gL (u4.1+(Int.toNat (b.length:Int))) (zA (.int .u32)))+more2))))) <|
 .ret (true,(List.set gL (u4.1+(Int.toNat (b.length:Int))) (qg ((xm gL (u4.1+(Int.toNat (b.length:Int))) (zA (.int .u32)))+more2)))))
def gD(vH:Int)(n1:Int)(x:(List Int))(x1:Int):(Int×(List Int))→T ((Int×(List Int))⊕((List Int)))
 | (x2,xs) =>
 .ite (decide (x2<x1))
  (.zj (zt x2 x.length) <|
 .zj ((0:Int)≤vH) <|
 .zj (zt x2 xs.length) <|
 .zj (fu xs.length xs.length ((0:Nat)+(Int.toNat x2)) xs.length) <|
 .zj (zt x2 xs.length) <|
 .zj (fu xs.length xs.length ((0:Nat)+(Int.toNat x2)) xs.length) <|
 .ite (decide ((zr (x2+1))<n1))
  (.zj ((0:Int)≤(32:Int)) <|
 .zj (zt (zr (x2+1)) xs.length) <|
 .zj (fu xs.length xs.length ((0:Nat)+(Int.toNat (zr (x2+1)))) (List.length (List.set xs ((0:Nat)+(Int.toNat x2)) (kR .u32 (xm xs ((0:Nat)+(Int.toNat x2)) (zA (.int .u32))) (qg (xn .u64 (zn (nth x x2 (zA (.int .u32)))) vH)))))) <|
 .zj (q8 xs.length (0:Nat) xs.length (List.length (List.set (List.set xs ((0:Nat)+(Int.toNat x2)) (kR .u32 (xm xs ((0:Nat)+(Int.toNat x2)) (zA (.int .u32))) (qg (xn .u64 (zn (nth x x2 (zA (.int .u32)))) vH)))) ((0:Nat)+(Int.toNat (zr (x2+1)))) (qg (qx .u64 (xn .u64 (zn (nth x x2 (zA (.int .u32)))) vH) (32:Int)))))) <|
 .zj (xs.length=(List.length (List.set (List.set xs ((0:Nat)+(Int.toNat x2)) (kR .u32 (xm xs ((0:Nat)+(Int.toNat x2)) (zA (.int .u32))) (qg (xn .u64 (zn (nth x x2 (zA (.int .u32)))) vH)))) ((0:Nat)+(Int.toNat (zr (x2+1)))) (qg (qx .u64 (xn .u64 (zn (nth x x2 (zA (.int .u32)))) vH) (32:Int)))))) <|
 .ret (.inl ((zr (x2+1)),(List.set (List.set xs ((0:Nat)+(Int.toNat x2)) (kR .u32 (xm xs ((0:Nat)+(Int.toNat x2)) (zA (.int .u32))) (qg (xn .u64 (zn (nth x x2 (zA (.int .u32)))) vH)))) ((0:Nat)+(Int.toNat (zr (x2+1)))) (qg (qx .u64 (xn .u64 (zn (nth x x2 (zA (.int .u32)))) vH) (32:Int)))))))
  (.zj (q8 xs.length (0:Nat) xs.length (List.length (List.set xs ((0:Nat)+(Int.toNat x2)) (kR .u32 (xm xs ((0:Nat)+(Int.toNat x2)) (zA (.int .u32))) (qg (xn .u64 (zn (nth x x2 (zA (.int .u32)))) vH)))))) <|
 .zj (xs.length=(List.length (List.set xs ((0:Nat)+(Int.toNat x2)) (kR .u32 (xm xs ((0:Nat)+(Int.toNat x2)) (zA (.int .u32))) (qg (xn .u64 (zn (nth x x2 (zA (.int .u32)))) vH)))))) <|
 .ret (.inl ((zr (x2+1)),(List.set xs ((0:Nat)+(Int.toNat x2)) (kR .u32 (xm xs ((0:Nat)+(Int.toNat x2)) (zA (.int .u32))) (qg (xn .u64 (zn (nth x x2 (zA (.int .u32)))) vH))))))))
  (.zj (q8 xs.length (0:Nat) xs.length xs.length) <|
 .zj (xs.length=xs.length) <|
 .ret (.inr xs))
def sE vH n1 x x1 s:=T.loop (gD vH n1 x x1) s
def pQ(a:(List Int))(n5:Int)(n:Int):T (List Int) :=
 .zj (rN n n (4:Nat)) <|
 .zj (q8 (Int.toNat n) (0:Nat) (Int.toNat n) (List.length (List.replicate (Int.toNat n) (0:Int)))) <|
 .zj ((Int.toNat n)=(List.length (List.replicate (Int.toNat n) (0:Int)))) <|
 T.bind (sE n5 n a (a.length:Int) ((0:Int),(List.replicate (Int.toNat n) (0:Int)))) fun qp =>
 .zj (qp.length=qp.length) <|
 .ret (List.drop (0:Nat) (List.take ((0:Nat)+qp.length) qp))
def yi(n5:Int)(x:(List Int))(x1:Int):(Int×(List Int))→T ((Int×(List Int))⊕((List Int)))
 | (x2,xs) =>
 .ite (decide (x2<x1))
  (.zj (zt x2 x.length) <|
 .zj ((0:Int)≤(32:Int)) <|
 .zj ((0:Int)≤n5) <|
 .zj (zt x2 xs.length) <|
 .zj (fu xs.length xs.length ((0:Nat)+(Int.toNat x2)) xs.length) <|
 .zj ((0:Int)≤(32:Int)) <|
 .zj (zt x2 xs.length) <|
 .zj (fu xs.length xs.length ((0:Nat)+(Int.toNat x2)) xs.length) <|
 .ite (decide ((0:Int)<x2))
  (.zj (zt (zr (x2-1)) xs.length) <|
 .zj (fu xs.length xs.length ((0:Nat)+(Int.toNat (zr (x2-1)))) (List.length (List.set xs ((0:Nat)+(Int.toNat x2)) (kR .u32 (xm xs ((0:Nat)+(Int.toNat x2)) (zA (.int .u32))) (qg (qx .u64 (qx .u64 (xn .u64 (zn (nth x x2 (zA (.int .u32)))) (32:Int)) n5) (32:Int))))))) <|
 .zj (zt (zr (x2-1)) xs.length) <|
 .zj (fu xs.length xs.length ((0:Nat)+(Int.toNat (zr (x2-1)))) (List.length (List.set xs ((0:Nat)+(Int.toNat x2)) (kR .u32 (xm xs ((0:Nat)+(Int.toNat x2)) (zA (.int .u32))) (qg (qx .u64 (qx .u64 (xn .u64 (zn (nth x x2 (zA (.int .u32)))) (32:Int)) n5) (32:Int))))))) <|
 .zj (q8 xs.length (0:Nat) xs.length (List.length (List.set (List.set xs ((0:Nat)+(Int.toNat x2)) (kR .u32 (xm xs ((0:Nat)+(Int.toNat x2)) (zA (.int .u32))) (qg (qx .u64 (qx .u64 (xn .u64 (zn (nth x x2 (zA (.int .u32)))) (32:Int)) n5) (32:Int))))) ((0:Nat)+(Int.toNat (zr (x2-1)))) (kR .u32 (xm (List.set xs ((0:Nat)+(Int.toNat x2)) (kR .u32 (xm xs ((0:Nat)+(Int.toNat x2)) (zA (.int .u32))) (qg (qx .u64 (qx .u64 (xn .u64 (zn (nth x x2 (zA (.int .u32)))) (32:Int)) n5) (32:Int))))) ((0:Nat)+(Int.toNat (zr (x2-1)))) (zA (.int .u32))) (qg (qx .u64 (xn .u64 (zn (nth x x2 (zA (.int .u32)))) (32:Int)) n5)))))) <|
 .zj (xs.length=(List.length (List.set (List.set xs ((0:Nat)+(Int.toNat x2)) (kR .u32 (xm xs ((0:Nat)+(Int.toNat x2)) (zA (.int .u32))) (qg (qx .u64 (qx .u64 (xn .u64 (zn (nth x x2 (zA (.int .u32)))) (32:Int)) n5) (32:Int))))) ((0:Nat)+(Int.toNat (zr (x2-1)))) (kR .u32 (xm (List.set xs ((0:Nat)+(Int.toNat x2)) (kR .u32 (xm xs ((0:Nat)+(Int.toNat x2)) (zA (.int .u32))) (qg (qx .u64 (qx .u64 (xn .u64 (zn (nth x x2 (zA (.int .u32)))) (32:Int)) n5) (32:Int))))) ((0:Nat)+(Int.toNat (zr (x2-1)))) (zA (.int .u32))) (qg (qx .u64 (xn .u64 (zn (nth x x2 (zA (.int .u32)))) (32:Int)) n5)))))) <|
 .ret (.inl ((zr (x2+1)),(List.set (List.set xs ((0:Nat)+(Int.toNat x2)) (kR .u32 (xm xs ((0:Nat)+(Int.toNat x2)) (zA (.int .u32))) (qg (qx .u64 (qx .u64 (xn .u64 (zn (nth x x2 (zA (.int .u32)))) (32:Int)) n5) (32:Int))))) ((0:Nat)+(Int.toNat (zr (x2-1)))) (kR .u32 (xm (List.set xs ((0:Nat)+(Int.toNat x2)) (kR .u32 (xm xs ((0:Nat)+(Int.toNat x2)) (zA (.int .u32))) (qg (qx .u64 (qx .u64 (xn .u64 (zn (nth x x2 (zA (.int .u32)))) (32:Int)) n5) (32:Int))))) ((0:Nat)+(Int.toNat (zr (x2-1)))) (zA (.int .u32))) (qg (qx .u64 (xn .u64 (zn (nth x x2 (zA (.int .u32)))) (32:Int)) n5)))))))
  (.zj (q8 xs.length (0:Nat) xs.length (List.length (List.set xs ((0:Nat)+(Int.toNat x2)) (kR .u32 (xm xs ((0:Nat)+(Int.toNat x2)) (zA (.int .u32))) (qg (qx .u64 (qx .u64 (xn .u64 (zn (nth x x2 (zA (.int .u32)))) (32:Int)) n5) (32:Int))))))) <|
 .zj (xs.length=(List.length (List.set xs ((0:Nat)+(Int.toNat x2)) (kR .u32 (xm xs ((0:Nat)+(Int.toNat x2)) (zA (.int .u32))) (qg (qx .u64 (qx .u64 (xn .u64 (zn (nth x x2 (zA (.int .u32)))) (32:Int)) n5) (32:Int))))))) <|
 .ret (.inl ((zr (x2+1)),(List.set xs ((0:Nat)+(Int.toNat x2)) (kR .u32 (xm xs ((0:Nat)+(Int.toNat x2)) (zA (.int .u32))) (qg (qx .u64 (qx .u64 (xn .u64 (zn (nth x x2 (zA (.int .u32)))) (32:Int)) n5) (32:Int)))))))))
  (.zj (q8 xs.length (0:Nat) xs.length xs.length) <|
 .zj (xs.length=xs.length) <|
 .ret (.inr xs))
def p0 n5 x x1 s:=T.loop (yi n5 x x1) s
def yH(a:(List Int))(n:Int):T (List Int) :=
 T.bind (xC a) fun a1 =>
 .ite (decide ((wk (xL n (-4096:Int)) (4096:Int))<(0:Int)))
  (.zj ((32:Int)≠(0:Int)) <|
 .ite (decide ((a1.length:Int)≤(zr (Int.tdiv (zr ((0:Int)-(wk (xL n (-4096:Int)) (4096:Int)))) (32:Int)))))
  (.ret ([]:List Int))
  (.zj ((32:Int)≠(0:Int)) <|
 .zj (rN (zr ((a1.length:Int)-(zr (Int.tdiv (zr ((0:Int)-(wk (xL n (-4096:Int)) (4096:Int)))) (32:Int))))) (zr ((a1.length:Int)-(zr (Int.tdiv (zr ((0:Int)-(wk (xL n (-4096:Int)) (4096:Int)))) (32:Int))))) (4:Nat)) <|
 .zj (kc (zr (Int.tdiv (zr ((0:Int)-(wk (xL n (-4096:Int)) (4096:Int)))) (32:Int))) (a1.length:Int) a1.length) <|
 .zj (q8 (Int.toNat (zr ((a1.length:Int)-(zr (Int.tdiv (zr ((0:Int)-(wk (xL n (-4096:Int)) (4096:Int)))) (32:Int)))))) (0:Nat) (Int.toNat (zr ((a1.length:Int)-(zr (Int.tdiv (zr ((0:Int)-(wk (xL n (-4096:Int)) (4096:Int)))) (32:Int)))))) (List.length (List.replicate (Int.toNat (zr ((a1.length:Int)-(zr (Int.tdiv (zr ((0:Int)-(wk (xL n (-4096:Int)) (4096:Int)))) (32:Int)))))) (0:Int)))) <|
 .zj ((Int.toNat (zr ((a1.length:Int)-(zr (Int.tdiv (zr ((0:Int)-(wk (xL n (-4096:Int)) (4096:Int)))) (32:Int))))))=(List.length (List.replicate (Int.toNat (zr ((a1.length:Int)-(zr (Int.tdiv (zr ((0:Int)-(wk (xL n (-4096:Int)) (4096:Int)))) (32:Int)))))) (0:Int)))) <|
 T.bind (p0 (zn (Int.tmod (zr ((0:Int)-(wk (xL n (-4096:Int)) (4096:Int)))) (32:Int))) (jf (e:=(.int .u32)) (zr (Int.tdiv (zr ((0:Int)-(wk (xL n (-4096:Int)) (4096:Int)))) (32:Int))) (a1.length:Int) a1) (Nat.cast (List.length (jf (e:=(.int .u32)) (zr (Int.tdiv (zr ((0:Int)-(wk (xL n (-4096:Int)) (4096:Int)))) (32:Int))) (a1.length:Int) a1)):Int) ((0:Int),(List.replicate (Int.toNat (zr ((a1.length:Int)-(zr (Int.tdiv (zr ((0:Int)-(wk (xL n (-4096:Int)) (4096:Int)))) (32:Int)))))) (0:Int)))) fun qp =>
 .zj (qp.length=qp.length) <|
 T.bind (xC (List.drop (0:Nat) (List.take ((0:Nat)+qp.length) qp))) fun r =>
 .ret r))
  (.zj ((32:Int)≠(0:Int)) <|
 .zj (rN (zr ((zr ((zr (Int.tdiv (wk (xL n (-4096:Int)) (4096:Int)) (32:Int)))+(a1.length:Int)))+1)) (zr ((zr ((zr (Int.tdiv (wk (xL n (-4096:Int)) (4096:Int)) (32:Int)))+(a1.length:Int)))+1)) (4:Nat)) <|
 .zj (kc (zr (Int.tdiv (wk (xL n (-4096:Int)) (4096:Int)) (32:Int))) (Nat.cast (Int.toNat (zr ((zr ((zr (Int.tdiv (wk (xL n (-4096:Int)) (4096:Int)) (32:Int)))+(a1.length:Int)))+1))):Int) (Int.toNat (zr ((zr ((zr (Int.tdiv (wk (xL n (-4096:Int)) (4096:Int)) (32:Int)))+(a1.length:Int)))+1)))) <|
 .zj ((32:Int)≠(0:Int)) <|
 T.bind (pQ a1 (zn (Int.tmod (wk (xL n (-4096:Int)) (4096:Int)) (32:Int))) (zr ((a1.length:Int)+(1:Int)))) fun r1 =>
 .zj (OL (Int.toNat (zr ((zr ((zr (Int.tdiv (wk (xL n (-4096:Int)) (4096:Int)) (32:Int)))+(a1.length:Int)))+1))) (Int.toNat (zr ((zr ((zr (Int.tdiv (wk (xL n (-4096:Int)) (4096:Int)) (32:Int)))+(a1.length:Int)))+1))) ((0:Nat)+(Int.toNat (zr (Int.tdiv (wk (xL n (-4096:Int)) (4096:Int)) (32:Int))))) ((Int.toNat (Nat.cast (Int.toNat (zr ((zr ((zr (Int.tdiv (wk (xL n (-4096:Int)) (4096:Int)) (32:Int)))+(a1.length:Int)))+1))):Int))-(Int.toNat (zr (Int.tdiv (wk (xL n (-4096:Int)) (4096:Int)) (32:Int))))) (List.length (List.replicate (Int.toNat (zr ((zr ((zr (Int.tdiv (wk (xL n (-4096:Int)) (4096:Int)) (32:Int)))+(a1.length:Int)))+1))) (0:Int)))) <|
 .zj ((Int.toNat (zr ((zr ((zr (Int.tdiv (wk (xL n (-4096:Int)) (4096:Int)) (32:Int)))+(a1.length:Int)))+1)))=(Int.toNat (zr ((zr ((zr (Int.tdiv (wk (xL n (-4096:Int)) (4096:Int)) (32:Int)))+(a1.length:Int)))+1)))) <|
 T.bind (xC (List.drop (0:Nat) (List.take ((0:Nat)+(Int.toNat (zr ((zr ((zr (Int.tdiv (wk (xL n (-4096:Int)) (4096:Int)) (32:Int)))+(a1.length:Int)))+1)))) (jr ((0:Nat)+(Int.toNat (zr (Int.tdiv (wk (xL n (-4096:Int)) (4096:Int)) (32:Int))))) ((Int.toNat (Nat.cast (Int.toNat (zr ((zr ((zr (Int.tdiv (wk (xL n (-4096:Int)) (4096:Int)) (32:Int)))+(a1.length:Int)))+1))):Int))-(Int.toNat (zr (Int.tdiv (wk (xL n (-4096:Int)) (4096:Int)) (32:Int))))) (List.replicate (Int.toNat (zr ((zr ((zr (Int.tdiv (wk (xL n (-4096:Int)) (4096:Int)) (32:Int)))+(a1.length:Int)))+1))) (0:Int)) r1)))) fun r2 =>
 .ret r2)
def gy(n5:Int)(d:(List Int))(n:Int):(Int×(List Int)×(List Int))→T ((Int×(List Int)×(List Int))⊕(((List Int)×(List Int))))
 | (i,va,gL) =>
 .ite (decide ((0:Int)≤i))
  (.zj (zt (zr (i+n)) va.length) <|
 .zj (fu va.length va.length ((0:Nat)+(Int.toNat (zr (i+n)))) va.length) <|
 .zj (zt (zr ((zr (i+n))-1)) va.length) <|
 .zj (fu va.length va.length ((0:Nat)+(Int.toNat (zr ((zr (i+n))-1)))) va.length) <|
 .zj (zt (zr ((zr (i+n))-2)) va.length) <|
 .zj (fu va.length va.length ((0:Nat)+(Int.toNat (zr ((zr (i+n))-2)))) va.length) <|
 .zj (zt (zr (n-1)) d.length) <|
 .zj (zt (zr (n-2)) d.length) <|
 T.bind (bn (xm va ((0:Nat)+(Int.toNat (zr (i+n)))) (zA (.int .u32))) (xm va ((0:Nat)+(Int.toNat (zr ((zr (i+n))-1)))) (zA (.int .u32))) (xm va ((0:Nat)+(Int.toNat (zr ((zr (i+n))-2)))) (zA (.int .u32))) (nth d (zr (n-1)) (zA (.int .u32))) (nth d (zr (n-2)) (zA (.int .u32)))) fun x =>
 T.bind (.zj (kc i (zr ((zr (i+n))+1)) va.length) <|
 .zj (va.length=va.length) <|
 .zj (va.length=va.length) <|
 T.bind (cr (((0:Nat)+(Int.toNat i)),((Int.toNat (zr ((zr (i+n))+1)))-(Int.toNat i))) d x va) fun(r1,u) =>
 .ite r1
  (.zj (q8 gL.length (0:Nat) gL.length gL.length) <|
 .zj (q8 va.length (0:Nat) va.length u.length) <|
 .zj (u.length=u.length) <|
 .zj (gL.length=gL.length) <|
 .ret ((zn (x-1)),(u,gL)))
  (.zj (q8 gL.length (0:Nat) gL.length gL.length) <|
 .zj (q8 va.length (0:Nat) va.length u.length) <|
 .zj (u.length=u.length) <|
 .zj (gL.length=gL.length) <|
 .ret (x,(u,gL))):T ((Int×(List Int)×(List Int)))) fun(x1,xs4,xs5) =>
 .zj (zt i xs5.length) <|
 .zj (fu xs5.length xs5.length ((0:Nat)+(Int.toNat i)) xs5.length) <|
 .zj (q8 xs5.length (0:Nat) xs5.length (List.length (List.set xs5 ((0:Nat)+(Int.toNat i)) (qg x1)))) <|
 .zj (q8 xs4.length (0:Nat) xs4.length xs4.length) <|
 .zj (xs4.length=xs4.length) <|
 .zj (xs5.length=(List.length (List.set xs5 ((0:Nat)+(Int.toNat i)) (qg x1)))) <|
 .ret (.inl ((zr (i-1)),(xs4,(List.set xs5 ((0:Nat)+(Int.toNat i)) (qg x1))))))
  (.zj (q8 gL.length (0:Nat) gL.length gL.length) <|
 .zj (q8 va.length (0:Nat) va.length va.length) <|
 .zj (va.length=va.length) <|
 .zj (gL.length=gL.length) <|
 .ret (.inr (va,gL)))
def sU n5 d n s:=T.loop (gy n5 d n) s
def rj(a:(List Int))(b:(List Int)):T ((List Int)×(List Int)) :=
 .zj (zt (zr ((b.length:Int)-(1:Int))) b.length) <|
 T.bind (wj (nth b (zr ((b.length:Int)-(1:Int))) (zA (.int .u32)))) fun r =>
 T.bind (bG a (zn r) (zr ((a.length:Int)+(1:Int)))) fun xs =>
 T.bind (bG b (zn r) (b.length:Int)) fun qp =>
 .zj (rN (zr ((zr ((a.length:Int)-(qp.length:Int)))+1)) (zr ((zr ((a.length:Int)-(qp.length:Int)))+1)) (4:Nat)) <|
 .zj (qp.length=qp.length) <|
 .zj (q8 (Int.toNat (zr ((zr ((a.length:Int)-(qp.length:Int)))+1))) (0:Nat) (Int.toNat (zr ((zr ((a.length:Int)-(qp.length:Int)))+1))) (List.length (List.replicate (Int.toNat (zr ((zr ((a.length:Int)-(qp.length:Int)))+1))) (0:Int)))) <|
 .zj (q8 xs.length (0:Nat) xs.length xs.length) <|
 .zj (xs.length=xs.length) <|
 .zj ((Int.toNat (zr ((zr ((a.length:Int)-(qp.length:Int)))+1)))=(List.length (List.replicate (Int.toNat (zr ((zr ((a.length:Int)-(qp.length:Int)))+1))) (0:Int)))) <|
 T.bind (sU (zn r) (List.drop (0:Nat) (List.take ((0:Nat)+qp.length) qp)) (qp.length:Int) ((zr ((Nat.cast (Int.toNat (zr ((zr ((a.length:Int)-(qp.length:Int)))+1))):Int)-(1:Int))),(xs,(List.replicate (Int.toNat (zr ((zr ((a.length:Int)-(qp.length:Int)))+1))) (0:Int))))) fun(xs6,xs7) =>
 .zj (xs7.length=xs7.length) <|
 .zj (xs6.length=xs6.length) <|
 T.bind (xC (List.drop (0:Nat) (List.take ((0:Nat)+xs7.length) xs7))) fun q1 =>
 .zj (kc (0:Int) (qp.length:Int) (List.length (List.drop (0:Nat) (List.take ((0:Nat)+xs6.length) xs6)))) <|
 T.bind (yH (jf (e:=(.int .u32)) (0:Int) (qp.length:Int) (List.drop (0:Nat) (List.take ((0:Nat)+xs6.length) xs6))) (zr ((0:Int)-(zr (zn r))))) fun r2 =>
 .ret (q1,r2)
def ke(a:(List Int))(b:(List Int)):T ((List Int)×(List Int)×Bool) :=
 T.bind (xC a) fun a1 =>
 T.bind (xC b) fun b1 =>
 .ite ((b1.length:Int)==(0:Int))
  (.ret (([]:List Int),(([]:List Int),false)))
  (T.bind (mo a1 b1) fun r =>
 .ite (decide (r<(0:Int)))
  (T.bind (y8 a1) fun r1 =>
 .ret (([]:List Int),(r1,true)))
  (.ite ((b1.length:Int)==(1:Int))
  (.zj (zt (0:Int) b1.length) <|
 T.bind (bf a1 (nth b1 (0:Int) (zA (.int .u32)))) fun(q,rest) =>
 T.bind (yR (zn rest)) fun r2 =>
 .ret (q,(r2,true)))
  (T.bind (rj a1 b1) fun(q1,r3) =>
 .ret (q1,(r3,true)))))
def br  : ((List Int)×(List Int))→T (((List Int)×(List Int))⊕((List Int)))
 | (a2,b2) =>
 .ite (decide ((0:Int)<(b2.length:Int)))
  (T.bind (ke a2 b2) fun(r,r1,r2) =>
 .ret (.inl (b2,r1)))
  (.ret (.inr a2))
def Qy(s:((List Int)×(List Int))):T ((List Int)):=T.loop (br ) s
def oS(a:(List Int))(b:(List Int)):T (List Int) :=
 T.bind (y8 a) fun a1 =>
 T.bind (y8 b) fun b1 =>
 T.bind (Qy  (a1,b1)) fun a3 =>
 .ret a3
def dV(neg:Bool)(n:(List Int))(d:(List Int)):T Rat :=
 T.bind (y8 n) fun n1 =>
 T.bind (y8 d) fun d1 =>
 .ite (((n1.length:Int)==(0:Int))||((d1.length:Int)==(0:Int)))
  (T.bind (yR (1:Int)) fun r =>
 .ret (false,(([]:List Int),(r,()))))
  (T.bind (oS n1 d1) fun g =>
 T.bind (ke n1 g) fun(n2,r1,r2) =>
 T.bind (ke d1 g) fun(d2,r3,r4) =>
 .ret (neg,(n2,(d2,()))))
def jk(s:zh):T (Rat×Int) :=
 .ite (decide ((400:Int)<(s.length:Int)))
  (.ret ((false,(([]:List Int),(([]:List Int),()))),(3:Int)))
  (T.bind (strings_CutPrefix s ([45]:zh)) fun(s1,neg) =>
 T.bind (strings_Cut s1 ([46]:zh)) fun(whole,part,ok) =>
 .ite ok
  (T.bind (wX part) fun(r,is) =>
 .zj ((whole.length+part.length)≤(4611686018427387904:Nat)) <|
 T.bind (wX (cat whole part)) fun(n,both) =>
 .ite ((zD whole ([]:zh))||((!is)||(!both)))
  (.ret ((false,(([]:List Int),(([]:List Int),()))),(2:Int)))
  (T.bind (mb (part.length:Int)) fun r1 =>
 T.bind (dV neg n r1) fun r2 =>
 .ret (r2,(0:Int))))
  (T.bind (strings_Cut s1 ([47]:zh)) fun(num,den,ok1) =>
 T.bind (wX num) fun(n1,is1) =>
 T.bind (wX (bif (!ok1)then([49]:zh)else den)) fun(d,both1) =>
 .ite ((!is1)||((!both1)||((d.length:Int)==(0:Int))))
  (.ret ((false,(([]:List Int),(([]:List Int),()))),(2:Int)))
  (T.bind (dV neg n1 d) fun r3 =>
 .ret (r3,(0:Int)))))
def vG(p:zd):T ((AM.Expr×zd)⊕(zO×zd)) :=
 T.bind (qN (fun z0=>xw z0) (p.1.length:Int) p) fun(s,p1) =>
 T.bind (.zj (((decide (p1.2.1<(p1.1.length:Int)))=true)→(zt p1.2.1 p1.1.length)) <|
 .ite ((decide (p1.2.1<(p1.1.length:Int)))&&((zo p1.1 p1.2.1)==46))
  (T.bind (qN (fun z0=>xw z0) (p1.1.length:Int) (p1.1,((zr (p1.2.1+1)),(p1.2.2.1,(p1.2.2.2.1,()))))) fun(part,p2) =>
 .ite (zD part ([]:zh))
  (T.bind (xy (2:Int) p2.2.1 p2) <|
 Sum.elim (fun p3 =>
 .zj ((([46]:zh).length+part.length)≤(4611686018427387904:Nat)) <|
 .zj ((s.length+(List.length (cat ([46]:zh) part)))≤(4611686018427387904:Nat)) <|
 .ret (.inl ((cat s (cat ([46]:zh) part)),(p3,(Expr.mk (0:Int) (false,(([]:List Int),(([]:List Int),()))) ([]:zh) ([]:List AM.Expr))))))
  (fun(pv,p4) =>
 .ret (.inr (pv,(p4,(Expr.mk (0:Int) (false,(([]:List Int),(([]:List Int),()))) ([]:zh) ([]:List AM.Expr)))))))
  (.zj ((([46]:zh).length+part.length)≤(4611686018427387904:Nat)) <|
 .zj ((s.length+(List.length (cat ([46]:zh) part)))≤(4611686018427387904:Nat)) <|
 .ret (.inl ((cat s (cat ([46]:zh) part)),(p2,(Expr.mk (0:Int) (false,(([]:List Int),(([]:List Int),()))) ([]:zh) ([]:List AM.Expr)))))))
  (.ret (.inl (s,(p1,(Expr.mk (0:Int) (false,(([]:List Int),(([]:List Int),()))) ([]:zh) ([]:List AM.Expr)))))):T ((zh×zd×AM.Expr)⊕(zO×zd×AM.Expr))) <|
 Sum.elim (fun(s1,v,v1) =>
 .ite (decide ((400:Int)<(s1.length:Int)))
  (.ret (.inl ((Expr.mk (1:Int) (false,(([]:List Int),(([]:List Int),()))) ([]:zh) ([]:List AM.Expr)),(v.1,(v.2.1,(v.2.2.1,(true,())))))))
  (T.bind (jk s1) fun(r,r1) =>
 .ret (.inl ((Expr.mk (1:Int) (r.1,(r.2.1,(r.2.2.1,()))) ([]:zh) ([]:List AM.Expr)),v))))
  (fun(p5,v2,v3) =>
 .ret (.inr (p5,v2)))
def wi(c:Int):T Bool :=
 .ret ((decide ((97:Int)≤c))&&(decide (c≤(122:Int))))
def wO(c:Int):T Bool :=
 T.bind (wi c) fun r =>
 .ite r
  (.ret true)
  (T.bind (xw c) fun r1 =>
 .ite r1
  (.ret true)
  (.ret (c==95)))
def xU(dm:zd→T ((AM.Expr×zd)⊕(zO×zd)))(zx:zd→T ((AM.Expr×zd)⊕(zO×zd)))(p:zd):T ((AM.Expr×zd)⊕(zO×zd)) :=
 T.bind (qM ([45,40]:zh) p) fun(r,p1) =>
 .ite (r==45)
  (T.bind (wA p1) <|
 Sum.elim (fun p2 =>
 T.bind (dm p2) <|
 Sum.elim (fun(r1,p4) =>
 .ret (.inl ((Expr.mk (7:Int) (false,(([]:List Int),(([]:List Int),()))) ([]:zh) ([r1]:List AM.Expr)),(p4.1,(p4.2.1,((zr (p4.2.2.1-1)),(p4.2.2.2.1,())))))))
  (fun(pv1,p5) =>
 .ret (.inr (pv1,p5))))
  (fun(pv,p3) =>
 .ret (.inr (pv,p3))))
  (.ite (r==40)
  (T.bind (wA p1) <|
 Sum.elim (fun p6 =>
 T.bind (zx p6) <|
 Sum.elim (fun(r2,p8) =>
 T.bind (T.bind (qM ([41]:zh) p8) fun(r3,p10) =>
 .ite (r3==0)
  (T.bind (xy (2:Int) p10.2.1 p10) <|
 Sum.elim (fun p11 =>
 .ret (.inl (p11,((Expr.mk (0:Int) (false,(([]:List Int),(([]:List Int),()))) ([]:zh) ([]:List AM.Expr)),r2))))
  (fun(pv4,p12) =>
 .ret (.inr (pv4,(p12,((Expr.mk (0:Int) (false,(([]:List Int),(([]:List Int),()))) ([]:zh) ([]:List AM.Expr)),r2))))))
  (.ret (.inl (p10,((Expr.mk (0:Int) (false,(([]:List Int),(([]:List Int),()))) ([]:zh) ([]:List AM.Expr)),r2)))):T ((zd×AM.Expr×AM.Expr)⊕(zO×zd×AM.Expr×AM.Expr))) <|
 Sum.elim (fun(v,v1,v2) =>
 .ret (.inl (v2,(v.1,(v.2.1,((zr (v.2.2.1-1)),(v.2.2.2.1,())))))))
  (fun(p13,v3,v4,v5) =>
 .ret (.inr (p13,v3))))
  (fun(pv3,p9) =>
 .ret (.inr (pv3,p9))))
  (fun(pv2,p7) =>
 .ret (.inr (pv2,p7))))
  (T.bind (.ite (decide (p1.2.1<(p1.1.length:Int)))
  (.zj (zt p1.2.1 p1.1.length) <|
 T.bind (xw (zo p1.1 p1.2.1)) fun r4 =>
 .ret (r4,(p1,(Expr.mk (0:Int) (false,(([]:List Int),(([]:List Int),()))) ([]:zh) ([]:List AM.Expr)))))
  (.ret (false,(p1,(Expr.mk (0:Int) (false,(([]:List Int),(([]:List Int),()))) ([]:zh) ([]:List AM.Expr))))):T ((Bool×zd×AM.Expr))) fun(x,v6,v7) =>
 .ite x
  (T.bind (vG v6) <|
 Sum.elim (fun(r5,p14) =>
 .ret (.inl (r5,p14)))
  (fun(pv5,p15) =>
 .ret (.inr (pv5,p15))))
  (T.bind (.ite (decide (v6.2.1<(v6.1.length:Int)))
  (.zj (zt v6.2.1 v6.1.length) <|
 T.bind (wi (zo v6.1 v6.2.1)) fun r6 =>
 .ret (r6,(v6,v7)))
  (.ret (false,(v6,v7))):T ((Bool×zd×AM.Expr))) fun(x1,v8,v9) =>
 .ite x1
  (T.bind (qN (fun z0=>wO z0) (24:Int) v8) fun(r7,p16) =>
 .ret (.inl ((Expr.mk (2:Int) (false,(([]:List Int),(([]:List Int),()))) r7 ([]:List AM.Expr)),p16)))
  (T.bind (xy (2:Int) v8.2.1 v8) <|
 Sum.elim (fun p17 =>
 .ret (.inl ((Expr.mk (0:Int) (false,(([]:List Int),(([]:List Int),()))) ([]:zh) ([]:List AM.Expr)),p17)))
  (fun(pv6,p18) =>
 .ret (.inr (pv6,p18)))))))
def xc(zx:zd→T ((AM.Expr×zd)⊕(zO×zd)))(p:zd):T ((AM.Expr×zd)⊕(zO×zd)):=T.fix (fun F x=>xU (fun y0=>F (y0)) zx x) p
def wh(zx:zd→T ((AM.Expr×zd)⊕(zO×zd)))(gT:zh)(ez:zO):(zd×AM.Expr×AM.Expr)→T ((zd×AM.Expr×AM.Expr)⊕((zd×AM.Expr×AM.Expr)⊕(zO×zd×AM.Expr×AM.Expr)))
 | (v,v1,v2) =>
 T.bind (qM gT v) fun(c,p3) =>
 .ite (c==0)
  (.ret (.inr (.inl (p3,(v2,v2)))))
  (T.bind ((xc zx) p3) <|
 Sum.elim (fun(r1,p4) =>
 T.bind (strings_IndexByte gT c) fun r2 =>
 .zj (zt r2 (2:Nat)) <|
 .ret (.inl (p4,(v1,(Expr.mk (lF (.int .i64) zU ez (Int.toNat r2)) (false,(([]:List Int),(([]:List Int),()))) ([]:zh) ([v2,r1]:List AM.Expr))))))
  (fun(pv1,p5) =>
 .ret (.inr (.inr (pv1,(p5,(v1,v2)))))))
def uR zx gT ez s:=T.loop (wh zx gT ez) s
def xl(zx:zd→T ((AM.Expr×zd)⊕(zO×zd)))(kid:(Unit))(marks:zh)(kinds:zO)(p:zd):T ((AM.Expr×zd)⊕(zO×zd)) :=
 T.bind ((xc zx) p) <|
 Sum.elim (fun(r,p1) =>
 T.bind (uR zx marks kinds (p1,((Expr.mk (0:Int) (false,(([]:List Int),(([]:List Int),()))) ([]:zh) ([]:List AM.Expr)),r))) <|
 Sum.elim (fun(v3,v4,v5) =>
 .ret (.inl (v4,v3)))
  (fun(p6,v6,v7,v8) =>
 .ret (.inr (p6,v6))))
  (fun(pv,p2) =>
 .ret (.inr (pv,p2)))
def qO(zx:zd→T ((AM.Expr×zd)⊕(zO×zd)))(p:zd):T ((AM.Expr×zd)⊕(zO×zd)) :=
 T.bind ((xl zx) () ([42,47]:zh) ((5:Int),((6:Int),())) p) <|
 Sum.elim (fun(r,p1) =>
 .ret (.inl (r,p1)))
  (fun(pv,p2) =>
 .ret (.inr (pv,p2)))
def wb(zx:zd→T ((AM.Expr×zd)⊕(zO×zd)))(gT:zh)(ez:zO):(zd×AM.Expr×AM.Expr)→T ((zd×AM.Expr×AM.Expr)⊕((zd×AM.Expr×AM.Expr)⊕(zO×zd×AM.Expr×AM.Expr)))
 | (v,v1,v2) =>
 T.bind (qM gT v) fun(c,p3) =>
 .ite (c==0)
  (.ret (.inr (.inl (p3,(v2,v2)))))
  (T.bind ((qO zx) p3) <|
 Sum.elim (fun(r1,p4) =>
 T.bind (strings_IndexByte gT c) fun r2 =>
 .zj (zt r2 (2:Nat)) <|
 .ret (.inl (p4,(v1,(Expr.mk (lF (.int .i64) zU ez (Int.toNat r2)) (false,(([]:List Int),(([]:List Int),()))) ([]:zh) ([v2,r1]:List AM.Expr))))))
  (fun(pv1,p5) =>
 .ret (.inr (.inr (pv1,(p5,(v1,v2)))))))
def uG zx gT ez s:=T.loop (wb zx gT ez) s
def xe(zx:zd→T ((AM.Expr×zd)⊕(zO×zd)))(kid:(Unit))(marks:zh)(kinds:zO)(p:zd):T ((AM.Expr×zd)⊕(zO×zd)) :=
 T.bind ((qO zx) p) <|
 Sum.elim (fun(r,p1) =>
 T.bind (uG zx marks kinds (p1,((Expr.mk (0:Int) (false,(([]:List Int),(([]:List Int),()))) ([]:zh) ([]:List AM.Expr)),r))) <|
 Sum.elim (fun(v3,v4,v5) =>
 .ret (.inl (v4,v3)))
  (fun(p6,v6,v7,v8) =>
 .ret (.inr (p6,v6))))
  (fun(pv,p2) =>
 .ret (.inr (pv,p2)))
def vQ(zx:zd→T ((AM.Expr×zd)⊕(zO×zd)))(p:zd):T ((AM.Expr×zd)⊕(zO×zd)) :=
 T.bind ((xe zx) () ([43,45]:zh) ((3:Int),((4:Int),())) p) <|
 Sum.elim (fun(r,p1) =>
 .ret (.inl (r,p1)))
  (fun(pv,p2) =>
 .ret (.inr (pv,p2)))
def vD(p:zd):T ((AM.Expr×zd)⊕(zO×zd)):=T.fix (fun F x=>vQ (fun y0=>F (y0)) x) p
def uU(v:AM.Expr)(v1:Int)(v2:Int):T (AM.Expr×Int×Int) :=
 .ite false
  (.fail)
  (.ret (v,(v1,v2)))
def uE(r:zO)(v:AM.Expr)(v1:Int)(v2:Int):T (AM.Expr×Int×Int) :=
 .ite true
  (.ite (!true)
  (.fail)
  (.ret ((Expr.mk (0:Int) (false,(([]:List Int),(([]:List Int),()))) ([]:zh) ([]:List AM.Expr)),(r.2.1,r.1))))
  (.ret (v,(v1,v2)))
def uO(p:zd):T (AM.Expr×Int×Int×zd) :=
 T.bind (vD p) <|
 Sum.elim (fun(r,p1) =>
 .ite (decide (p1.2.1<(p1.1.length:Int)))
  (T.bind (xy (2:Int) p1.2.1 p1) <|
 Sum.elim (fun p3 =>
 T.bind (uU r (0:Int) (0:Int)) fun(e,at_,x) =>
 .ret (e,(at_,(x,p3))))
  (fun(pv1,p4) =>
 T.bind (uE pv1 r (0:Int) (0:Int)) fun(e1,at_1,x1) =>
 .ret (e1,(at_1,(x1,p4)))))
  (T.bind (uU r (0:Int) (0:Int)) fun(e2,at_2,x2) =>
 .ret (e2,(at_2,(x2,p1)))))
  (fun(pv,p2) =>
 T.bind (uE pv (Expr.mk (0:Int) (false,(([]:List Int),(([]:List Int),()))) ([]:zh) ([]:List AM.Expr)) (0:Int) (0:Int)) fun(e3,at_3,x3) =>
 .ret (e3,(at_3,(x3,p2))))
def mR(kind:Int):T Int :=
 .ite (bif (kind==1)then(kind==1)else(kind==2))
  (.ret (0:Int))
  (.ite (kind==7)
  (.ret (1:Int))
  (.ite (kind==3)
  (.ret (2:Int))
  (.ite (kind==4)
  (.ret (2:Int))
  (.ite (kind==5)
  (.ret (2:Int))
  (.ite (kind==6)
  (.ret (2:Int))
  (.ret (-1:Int)))))))
def rK(a:Rat):T Bool :=
 T.bind (T.bind (bQ a.2.1) fun r =>
 .ite (!r)
  (.ret true)
  (T.bind (bQ a.2.2.1) fun r1 =>
 .ite (!r1)
  (.ret true)
  (.ite ((a.2.2.1.length:Int)==(0:Int))
  (.ret true)
  (.ite a.1
  (.ret ((a.2.1.length:Int)==(0:Int)))
  (.ret false)))):T (Bool)) fun x =>
 .ite x
  (.ret false)
  (T.bind (oS a.2.1 a.2.2.1) fun r2 =>
 T.bind (yR (1:Int)) fun r3 =>
 T.bind (mo r2 r3) fun r4 =>
 .ret (r4==0))
def dA(a:Rat):T Rat :=
 T.bind (dV a.1 a.2.1 a.2.2.1) fun r =>
 .ret r
def dh(a:Rat):T Bool :=
 T.bind (dA a) fun r =>
 .ret ((decide ((16:Int)<(r.2.1.length:Int)))||(decide ((16:Int)<(r.2.2.1.length:Int))))
def pj(a:Rat):T zh :=
 .ite a.1
  (.ret ([45]:zh))
  (.ret ([]:zh))
def xK  : ((Nat×Nat)×Int×Int×(List Int))→T (((Nat×Nat)×Int×Int×(List Int))⊕((List Int)))
 | (s1,i,j,xs) =>
 .ite (decide (i<j))
  (.zj (zt j s1.2) <|
 .zj (fu xs.length xs.length (s1.1+(Int.toNat j)) xs.length) <|
 .zj (zt i s1.2) <|
 .zj (fu xs.length xs.length (s1.1+(Int.toNat i)) xs.length) <|
 .zj (zt i s1.2) <|
 .zj (fu xs.length xs.length (s1.1+(Int.toNat i)) xs.length) <|
 .zj (zt j s1.2) <|
 .zj (fu xs.length xs.length (s1.1+(Int.toNat j)) (List.length (List.set xs (s1.1+(Int.toNat i)) (xm xs (s1.1+(Int.toNat j)) (zA (.int .u8)))))) <|
 .zj (xs.length=xs.length) <|
 .zj (xs.length=(List.length (List.set (List.set xs (s1.1+(Int.toNat i)) (xm xs (s1.1+(Int.toNat j)) (zA (.int .u8)))) (s1.1+(Int.toNat j)) (xm xs (s1.1+(Int.toNat i)) (zA (.int .u8)))))) <|
 .ret (.inl (s1,((zr (i+1)),((zr (j-1)),(List.set (List.set xs (s1.1+(Int.toNat i)) (xm xs (s1.1+(Int.toNat j)) (zA (.int .u8)))) (s1.1+(Int.toNat j)) (xm xs (s1.1+(Int.toNat i)) (zA (.int .u8)))))))))
  (.zj (xs.length=xs.length) <|
 .ret (.inr xs))
def uQ(s:((Nat×Nat)×Int×Int×(List Int))):T ((List Int)):=T.loop (xK ) s
def wm(sw:(Nat×Nat))(s:(List Int)):T (List Int) :=
 .zj (s.length=s.length) <|
 .zj (s.length=s.length) <|
 T.bind (uQ  (sw,((0:Int),((zr ((Nat.cast sw.2:Int)-(1:Int))),s)))) fun qp =>
 .zj (qp.length=qp.length) <|
 .ret qp
def yv(q1:(List Int)):(Int×Int×(List Int))→T ((Int×Int×(List Int))⊕((List Int)))
 | (rest1,x,qp) =>
 .ite (decide (x<(9:Int)))
  (.zj ((10:Int)≠(0:Int)) <|
 .zj (zt (Int.tmod rest1 (10:Int)) ([48,49,50,51,52,53,54,55,56,57]:zh).length) <|
 .zj (pc qp.length qp.length (0:Nat) qp.length qp.length (1:Nat) (1:Nat)) <|
 .zj ((10:Int)≠(0:Int)) <|
 .zj (q8 (qp.length+(1:Nat)) (0:Nat) (qp.length+(1:Nat)) (List.length (qp++([(zo ([48,49,50,51,52,53,54,55,56,57]:zh) (Int.tmod rest1 (10:Int)))]:List Int)))) <|
 .zj ((qp.length+(1:Nat))=(List.length (qp++([(zo ([48,49,50,51,52,53,54,55,56,57]:zh) (Int.tmod rest1 (10:Int)))]:List Int)))) <|
 .ret (.inl ((qg (Int.tdiv rest1 (10:Int))),((zr (x+1)),(qp++([(zo ([48,49,50,51,52,53,54,55,56,57]:zh) (Int.tmod rest1 (10:Int)))]:List Int))))))
  (.zj (q8 qp.length (0:Nat) qp.length qp.length) <|
 .zj (qp.length=qp.length) <|
 .ret (.inr qp))
def fB q1 s:=T.loop (yv q1) s
def yk  : ((List Int)×(List Int))→T (((List Int)×(List Int))⊕((List Int)))
 | (a2,xs) =>
 .ite (decide ((0:Int)<(a2.length:Int)))
  (T.bind (bf a2 (1000000000:Int)) fun(q,rest) =>
 .zj (q8 xs.length (0:Nat) xs.length xs.length) <|
 .zj (xs.length=xs.length) <|
 T.bind (fB q (rest,((0:Int),xs))) fun va =>
 .zj (q8 va.length (0:Nat) va.length va.length) <|
 .zj (va.length=va.length) <|
 .ret (.inl (q,va)))
  (.zj (q8 xs.length (0:Nat) xs.length xs.length) <|
 .zj (xs.length=xs.length) <|
 .ret (.inr xs))
def eP(s:((List Int)×(List Int))):T ((List Int)):=T.loop (yk ) s
def ye  : ((Nat×Nat)×(List Int))→T (((Nat×Nat)×(List Int))⊕(((Nat×Nat)×(List Int))))
 | (b,xs4) =>
 .zj (((decide ((1:Int)<(Nat.cast b.2:Int)))=true)→((zt (zr ((Nat.cast b.2:Int)-(1:Int))) b.2)∧(fu xs4.length xs4.length (b.1+(Int.toNat (zr ((Nat.cast b.2:Int)-(1:Int))))) xs4.length))) <|
 .ite ((decide ((1:Int)<(Nat.cast b.2:Int)))&&((xm xs4 (b.1+(Int.toNat (zr ((Nat.cast b.2:Int)-(1:Int))))) (zA (.int .u8)))==48))
  (.zj (kc (0:Int) (zr ((Nat.cast b.2:Int)-(1:Int))) b.2) <|
 .zj (xs4.length=xs4.length) <|
 .zj (xs4.length=xs4.length) <|
 .ret (.inl (((b.1+(Int.toNat (0:Int))),((Int.toNat (zr ((Nat.cast b.2:Int)-(1:Int))))-(Int.toNat (0:Int)))),xs4)))
  (.zj (xs4.length=xs4.length) <|
 .zj (xs4.length=xs4.length) <|
 .ret (.inr (b,xs4)))
def oG(s:((Nat×Nat)×(List Int))):T (((Nat×Nat)×(List Int))):=T.loop (ye ) s
def mv(a:(List Int)):T zh :=
 T.bind (y8 a) fun a1 =>
 .ite ((a1.length:Int)==(0:Int))
  (.ret ([48]:zh))
  (.zj (q8 (0:Nat) (0:Nat) (0:Nat) (0:Nat)) <|
 .zj ((0:Nat)=(0:Nat)) <|
 T.bind (eP  (a1,([]:List Int))) fun gL =>
 .zj (gL.length=gL.length) <|
 .zj (gL.length=gL.length) <|
 T.bind (oG  (((0:Nat),gL.length),gL)) fun(b1,xs5) =>
 .zj (xs5.length=xs5.length) <|
 .zj (xs5.length=xs5.length) <|
 T.bind (wm b1 xs5) fun b2 =>
 .zj (xs5.length=b2.length) <|
 .ret (j7 (List.drop b1.1 (List.take (b1.1+b1.2) b2))))
def strings_Repeat(s:zh)(count:Int):T zh :=
 .zj ((0:Int)≤count∧count≤(9223372036854775807:Int)∧s.length*(Int.toNat count)≤(140737488355328:Nat)) <|
 .ret (j2 s (Int.toNat count))
def cw(s:zh)(n:Int):T zh :=
 .ite (n==0)
  (.ret s)
  (T.bind (strings_Repeat ([48]:zh) (xL (0:Int) (zr ((zr (n+1))-(s.length:Int))))) fun r =>
 .zj ((r.length+s.length)≤(4611686018427387904:Nat)) <|
 .zj (kc (0:Int) (zr (((cat r s).length:Int)-n)) (cat r s).length) <|
 .zj (((List.length (zS (0:Int) (zr (((cat r s).length:Int)-n)) (cat r s)))+([46]:zh).length)≤(4611686018427387904:Nat)) <|
 .zj (kc (zr (((cat r s).length:Int)-n)) ((cat r s).length:Int) (cat r s).length) <|
 .zj (((List.length (cat (zS (0:Int) (zr (((cat r s).length:Int)-n)) (cat r s)) ([46]:zh)))+(List.length (zS (zr (((cat r s).length:Int)-n)) ((cat r s).length:Int) (cat r s))))≤(4611686018427387904:Nat)) <|
 .ret (cat (cat (zS (0:Int) (zr (((cat r s).length:Int)-n)) (cat r s)) ([46]:zh)) (zS (zr (((cat r s).length:Int)-n)) ((cat r s).length:Int) (cat r s))))
def je  : (Int×Rat)→T ((Int×Rat)⊕(Rat⊕(zh×Bool×Rat)))
 | (x,v) =>
 .ite (decide (x<(61:Int)))
  (T.bind (mb x) fun r1 =>
 T.bind (mm v.2.1 r1) fun r2 =>
 T.bind (ke r2 v.2.2.1) fun(q,r3,r4) =>
 .ite ((r3.length:Int)==(0:Int))
  (T.bind (pj v) fun r5 =>
 T.bind (mv q) fun r6 =>
 T.bind (cw r6 x) fun r7 =>
 .zj ((r5.length+r7.length)≤(4611686018427387904:Nat)) <|
 .ret (.inr (.inr ((cat r5 r7),(true,v)))))
  (.ret (.inl ((zr (x+1)),v))))
  (.ret (.inr (.inl v)))
def oW(s:(Int×Rat)):T (Rat⊕(zh×Bool×Rat)):=T.loop (je ) s
def dn(a:Rat):T (zh×Bool) :=
 T.bind (dA a) fun r =>
 T.bind (oW  ((0:Int),r)) <|
 Sum.elim (fun v1 =>
 .ret (([]:zh),false))
  (fun(x1,x2,v2) =>
 .ret (x1,x2))
def ep(a:Rat):T Bool :=
 T.bind (T.bind (rK a) fun r =>
 .ite (!r)
  (.ret true)
  (.ite a.1
  (.ret true)
  (T.bind (dh a) fun r1 =>
 .ret r1)):T (Bool)) fun x =>
 .ite x
  (.ret false)
  (T.bind (dn a) fun(r2,ok) =>
 .ret ok)
def gC(a:Rat):T Bool :=
 .ite (!a.1)
  (.ite ((a.2.1.length:Int)==(0:Int))
  (.ite ((a.2.2.1.length:Int)==(0:Int))
  (.ret true)
  (T.bind (rK a) fun r =>
 .ret r))
  (.ret false))
  (.ret false)
def jg(s1:zh)(x1:Int):Int→T (Int⊕(Unit⊕Bool))
 | x2 =>
 .ite (decide (x2<x1))
  (.zj (zt x2 s1.length) <|
 T.bind (wO (zo s1 x2)) fun r1 =>
 .ite (!r1)
  (.ret (.inr (.inr false)))
  (.ret (.inl (zr (x2+1)))))
  (.ret (.inr (.inl ())))
def ri s1 x1 s:=T.loop (jg s1 x1) s
def mA(s:zh):T Bool :=
 T.bind (.ite (zD s ([]:zh))
  (.ret true)
  (.ite (decide ((24:Int)<(s.length:Int)))
  (.ret true)
  (.zj (zt (0:Int) s.length) <|
 T.bind (wi (zo s (0:Int))) fun r =>
 .ret (!r))):T (Bool)) fun x =>
 .ite x
  (.ret false)
  (T.bind (ri s (s.length:Int) (0:Int)) <|
 Sum.elim (fun _ =>
 .ret true)
  (fun x3 =>
 .ret x3))
def gp(e:AM.Expr):T Bool :=
 T.bind (mR (Expr.kind e)) fun r =>
 .ite (((Expr.kids e).length:Int) != r)
  (.ret false)
  (.ite ((Expr.kind e)==1)
  (T.bind (ep (Expr.num e)) fun r1 =>
 .ite r1
  (.ret (zD (Expr.name e) ([]:zh)))
  (.ret false))
  (.ite ((Expr.kind e)==2)
  (T.bind (gC (Expr.num e)) fun r2 =>
 .ite r2
  (T.bind (mA (Expr.name e)) fun r3 =>
 .ret r3)
  (.ret false))
  (T.bind (gC (Expr.num e)) fun r4 =>
 .ite r4
  (.ret (zD (Expr.name e) ([]:zh)))
  (.ret false))))
def gn(xr:AM.Expr→Int→Int→T (Bool×Int))(k:AM.Expr)(a1:Int)(v:Int):T (Bool×Int) :=
 T.bind (xr k (zr (a1+1)) v) fun(r,xs) =>
 .ret ((!r),xs)
def zX(xr:AM.Expr→Int→Int→T (Bool×Int))(s1:(List AM.Expr))(x:Int):((Int×Unit)×Int×Int)→T (((Int×Unit)×Int×Int)⊕(Int⊕(Int×Int)))
 | (f1,x1,v1) =>
 .ite (decide (x1<x))
  (.zj (zt x1 s1.length) <|
 T.bind ((gn xr) (nth s1 x1 (zA .expr)) f1.1 v1) fun(r,xs) =>
 .ite r
  (.ret (.inr (.inr (x1,xs))))
  (.ret (.inl ((f1.1,()),((zr (x1+1)),xs)))))
  (.ret (.inr (.inl v1)))
def qk xr s1 x s:=T.loop (zX xr s1 x) s
def qZ(xr:AM.Expr→Int→Int→T (Bool×Int))(s:(List AM.Expr))(f:(Int×Unit))(v:Int):T (Int×Int) :=
 T.bind (qk xr s (s.length:Int) ((f.1,()),((0:Int),v))) <|
 Sum.elim (fun v2 =>
 .ret ((-1:Int),v2))
  (fun(x2,v3) =>
 .ret (x2,v3))
def ql(xr:AM.Expr→Int→Int→T (Bool×Int))(s:(List AM.Expr))(f:(Int×Unit))(v:Int):T (Bool×Int) :=
 T.bind ((qZ xr) s (f.1,()) v) fun(r,xs) =>
 .ret ((decide ((0:Int)≤r)),xs)
def bc(xr:AM.Expr→Int→Int→T (Bool×Int))(e:AM.Expr)(deep:Int)(left:Int):T (Bool×Int) :=
 T.bind (.ite (decide ((zr (left-1))<(0:Int)))
  (.ret (true,(zr (left-1))))
  (.ite (decide ((32:Int)≤deep))
  (.ret (true,(zr (left-1))))
  (T.bind (gp e) fun r =>
 .ret ((!r),(zr (left-1))))):T ((Bool×Int))) fun(x,v) =>
 .ite x
  (.ret (false,v))
  (T.bind ((ql xr) (Expr.kids e) (deep,()) v) fun(r1,left1) =>
 .ret ((!r1),left1))
def bE(e:AM.Expr)(deep:Int)(left:Int):T (Bool×Int):=T.fix (fun F x=>bc (fun y0 y1 y2=>F (y0,y1,y2)) x.1 x.2.1 x.2.2) (e,deep,left)
def pI(e:AM.Expr):T Bool :=
 T.bind (bE e (0:Int) (256:Int)) fun(r,left) =>
 .ret r
def bS(s:zh):T (AM.Expr×Int×Int) :=
 T.bind (uO (s,((0:Int),((0:Int),(false,()))))) fun(r,at_,x,p) =>
 .ite (x != 0)
  (.ret ((Expr.mk (0:Int) (false,(([]:List Int),(([]:List Int),()))) ([]:zh) ([]:List AM.Expr)),(at_,x)))
  (T.bind (.ite p.2.2.2.1
  (.ret (true,((Expr.mk (0:Int) (false,(([]:List Int),(([]:List Int),()))) ([]:zh) ([]:List AM.Expr)),(p,r))))
  (T.bind (pI r) fun r1 =>
 .ret ((!r1),((Expr.mk (0:Int) (false,(([]:List Int),(([]:List Int),()))) ([]:zh) ([]:List AM.Expr)),(p,r)))):T ((Bool×AM.Expr×zd×AM.Expr))) fun(x1,v,v1,v2) =>
 .ite x1
  (.ret ((Expr.mk (0:Int) (false,(([]:List Int),(([]:List Int),()))) ([]:zh) ([]:List AM.Expr)),((0:Int),(3:Int))))
  (.ret (v2,((0:Int),(0:Int)))))
def xE  : zf→T (zf⊕(zf))
 | v =>
 .zj (((decide (v.2.1<(v.1.length:Int)))=true)→(zt v.2.1 v.1.length)) <|
 .ite ((decide (v.2.1<(v.1.length:Int)))&&((zo v.1 v.2.1)==32))
  (.ret (.inl (v.1,((zr (v.2.1+1)),(v.2.2.1,(v.2.2.2.1,(v.2.2.2.2.1,(v.2.2.2.2.2.1,()))))))))
  (.ret (.inr v))
def kD(s:zf):T (zf):=T.loop (xE ) s
def xI(r:zf):T zf :=
 T.bind (kD  r) fun v1 =>
 .ret v1
def xA(r:zf):T (Int×zf) :=
 T.bind (xI r) fun r1 =>
 .ite ((r1.2.2.1 != 0)||(decide ((r1.1.length:Int)≤r1.2.1)))
  (.ret ((0:Int),r1))
  (.zj (zt r1.2.1 r1.1.length) <|
 .ret ((zo r1.1 r1.2.1),r1))
def qJ(e:Int)(r:zf):T (AM.Expr×zf) :=
 .ite (r.2.2.1==0)
  (.ret ((Expr.mk (0:Int) (false,(([]:List Int),(([]:List Int),()))) ([]:zh) ([]:List AM.Expr)),(r.1,(r.2.1,(e,(r.2.1,(r.2.2.2.2.1,(r.2.2.2.2.2.1,()))))))))
  (.ret ((Expr.mk (0:Int) (false,(([]:List Int),(([]:List Int),()))) ([]:zh) ([]:List AM.Expr)),r))
def wz(r:zf):T (Bool×zf) :=
 .ite (decide ((32:Int)≤(zr (r.2.2.2.2.1+1))))
  (T.bind (qJ (4:Int) r) fun(r1,r2) =>
 .ret (false,r2))
  (.ret (true,(r.1,((zr (r.2.1+1)),(r.2.2.1,(r.2.2.2.1,((zr (r.2.2.2.2.1+1)),(r.2.2.2.2.2.1,()))))))))
def ue(c:Int)(r:zf):T (Bool×zf) :=
 T.bind (xI r) fun r1 =>
 .zj (((r1.2.2.1==0)=true)→(((decide (r1.2.1<(r1.1.length:Int)))=true)→(zt r1.2.1 r1.1.length))) <|
 .ite ((r1.2.2.1==0)&&((decide (r1.2.1<(r1.1.length:Int)))&&((zo r1.1 r1.2.1)==c)))
  (.ret (true,(r1.1,((zr (r1.2.1+1)),(r1.2.2.1,(r1.2.2.2.1,(r1.2.2.2.2.1,(r1.2.2.2.2.2.1,()))))))))
  (.ret (false,r1))
def xG  : (Int×zf)→T ((Int×zf)⊕((Int×zf)))
 | (n,v) =>
 T.bind (.ite (decide (v.2.1<(v.1.length:Int)))
  (.zj (zt v.2.1 v.1.length) <|
 T.bind (vf (zo v.1 v.2.1)) fun r1 =>
 .ret (r1,v))
  (.ret (false,v)):T ((Bool×zf))) fun(x,v1) =>
 .ite x
  (.ret (.inl ((zr (n+1)),(v1.1,((zr (v1.2.1+1)),(v1.2.2.1,(v1.2.2.2.1,(v1.2.2.2.2.1,(v1.2.2.2.2.2.1,())))))))))
  (.ret (.inr (n,v1)))
def vY(s:(Int×zf)):T ((Int×zf)):=T.loop (xG ) s
def wu(r:zf):T (Int×zf) :=
 T.bind (vY  ((0:Int),r)) fun(n1,v2) =>
 .ret (n1,v2)
def ga(neg:Bool)(n:(List Int))(d:(List Int)):T Rat :=
 T.bind (uC (neg,(n,(d,())))) fun r =>
 .ret r
def jN(n:Int):T Rat :=
 T.bind (eQ (bif (decide (n<(0:Int)))then(zn ((0:Int)-(zn n)))else(zn n))) fun r =>
 T.bind (ga (decide (n<(0:Int))) r ([(1:Int)]:List Int)) fun r1 =>
 .ret r1
def cA(s1:zh):Int→T (Int⊕(Int))
 | n =>
 .zj (((decide (n<(s1.length:Int)))=true)→((zt n s1.length)∧(((decide ((48:Int)≤(zo s1 n)))=true)→(zt n s1.length)))) <|
 .ite ((decide (n<(s1.length:Int)))&&((decide ((48:Int)≤(zo s1 n)))&&(decide ((zo s1 n)≤(57:Int)))))
  (.ret (.inl (zr (n+1))))
  (.ret (.inr n))
def sG s1 s:=T.loop (cA s1) s
def bW(s:zh):T Int :=
 T.bind (sG s (0:Int)) fun n1 =>
 .ret n1
def gm(s1:zh):((List Int)×Int)→T (((List Int)×Int)⊕((List Int)⊕Bool))
 | (n,i) =>
 .ite (decide (i<(s1.length:Int)))
  (.zj ((zt i s1.length)∧(((decide ((zo s1 i)<(48:Int)))=false)→(zt i s1.length))) <|
 .ite ((decide ((zo s1 i)<(48:Int)))||(decide ((57:Int)<(zo s1 i))))
  (.ret (.inr (.inr false)))
  (T.bind (jG n ([(10:Int)]:List Int)) fun r =>
 .zj (zt i s1.length) <|
 T.bind (gA r ([(qg (C9 ((zo s1 i)-48)))]:List Int)) fun n1 =>
 .ret (.inl (n1,(zr (i+1))))))
  (.ret (.inr (.inl n)))
def nt s1 s:=T.loop (gm s1) s
def ki(s:zh):T ((List Int)×Bool) :=
 .ite ((decide ((s.length:Int)<(1:Int)))||(decide ((400:Int)<(s.length:Int))))
  (.ret (([]:List Int),false))
  (T.bind (nt s (([]:List Int),(0:Int))) <|
 Sum.elim (fun n2 =>
 .ret (n2,true))
  (fun x =>
 .ret (([]:List Int),x)))
def gE(n1:Int):((List Int)×Int)→T (((List Int)×Int)⊕((List Int)))
 | (x,i) =>
 .ite (decide (i<n1))
  (T.bind (jG x ([(10:Int)]:List Int)) fun x1 =>
 .ret (.inl (x1,(zr (i+1)))))
  (.ret (.inr x))
def sH n1 s:=T.loop (gE n1) s
def lT(n:Int):T (List Int) :=
 T.bind (sH n (([(1:Int)]:List Int),(0:Int))) fun x2 =>
 .ret x2
def cd(s:zh):T (Rat×Int) :=
 .ite (decide ((400:Int)<(s.length:Int)))
  (T.bind (jN (0:Int)) fun r =>
 .ret (r,(3:Int)))
  (.zj (((!(zD s ([]:zh)))=true)→(zt (0:Int) s.length)) <|
 .zj ((((!(zD s ([]:zh)))&&((zo s (0:Int))==45))=true)→(kc (1:Int) (s.length:Int) s.length)) <|
 T.bind (bW (bif ((!(zD s ([]:zh)))&&((zo s (0:Int))==45))then(zS (1:Int) (s.length:Int) s)else s)) fun k =>
 .zj (kc (0:Int) k (List.length (bif ((!(zD s ([]:zh)))&&((zo s (0:Int))==45))then(zS (1:Int) (s.length:Int) s)else s))) <|
 .zj (kc k (Nat.cast (List.length (bif ((!(zD s ([]:zh)))&&((zo s (0:Int))==45))then(zS (1:Int) (s.length:Int) s)else s)):Int) (List.length (bif ((!(zD s ([]:zh)))&&((zo s (0:Int))==45))then(zS (1:Int) (s.length:Int) s)else s))) <|
 .ite (k==0)
  (T.bind (jN (0:Int)) fun r1 =>
 .ret (r1,(2:Int)))
  (T.bind (ki (zS (0:Int) k (bif ((!(zD s ([]:zh)))&&((zo s (0:Int))==45))then(zS (1:Int) (s.length:Int) s)else s))) fun(n,r2) =>
 .ite (zD (zS k (Nat.cast (List.length (bif ((!(zD s ([]:zh)))&&((zo s (0:Int))==45))then(zS (1:Int) (s.length:Int) s)else s)):Int) (bif ((!(zD s ([]:zh)))&&((zo s (0:Int))==45))then(zS (1:Int) (s.length:Int) s)else s)) ([]:zh))
  (T.bind (ga ((!(zD s ([]:zh)))&&((zo s (0:Int))==45)) n ([(1:Int)]:List Int)) fun r3 =>
 .ret (r3,(0:Int)))
  (.zj (kc (1:Int) (Nat.cast (List.length (zS k (Nat.cast (List.length (bif ((!(zD s ([]:zh)))&&((zo s (0:Int))==45))then(zS (1:Int) (s.length:Int) s)else s)):Int) (bif ((!(zD s ([]:zh)))&&((zo s (0:Int))==45))then(zS (1:Int) (s.length:Int) s)else s))):Int) (List.length (zS k (Nat.cast (List.length (bif ((!(zD s ([]:zh)))&&((zo s (0:Int))==45))then(zS (1:Int) (s.length:Int) s)else s)):Int) (bif ((!(zD s ([]:zh)))&&((zo s (0:Int))==45))then(zS (1:Int) (s.length:Int) s)else s)))) <|
 T.bind (bW (zS (1:Int) (Nat.cast (List.length (zS k (Nat.cast (List.length (bif ((!(zD s ([]:zh)))&&((zo s (0:Int))==45))then(zS (1:Int) (s.length:Int) s)else s)):Int) (bif ((!(zD s ([]:zh)))&&((zo s (0:Int))==45))then(zS (1:Int) (s.length:Int) s)else s))):Int) (zS k (Nat.cast (List.length (bif ((!(zD s ([]:zh)))&&((zo s (0:Int))==45))then(zS (1:Int) (s.length:Int) s)else s)):Int) (bif ((!(zD s ([]:zh)))&&((zo s (0:Int))==45))then(zS (1:Int) (s.length:Int) s)else s)))) fun m =>
 .zj (((m==0)=false)→(((m != (zr ((Nat.cast (List.length (zS k (Nat.cast (List.length (bif ((!(zD s ([]:zh)))&&((zo s (0:Int))==45))then(zS (1:Int) (s.length:Int) s)else s)):Int) (bif ((!(zD s ([]:zh)))&&((zo s (0:Int))==45))then(zS (1:Int) (s.length:Int) s)else s))):Int)-(1:Int))))=false)→((zt (0:Int) (List.length (zS k (Nat.cast (List.length (bif ((!(zD s ([]:zh)))&&((zo s (0:Int))==45))then(zS (1:Int) (s.length:Int) s)else s)):Int) (bif ((!(zD s ([]:zh)))&&((zo s (0:Int))==45))then(zS (1:Int) (s.length:Int) s)else s))))∧((((zo (zS k (Nat.cast (List.length (bif ((!(zD s ([]:zh)))&&((zo s (0:Int))==45))then(zS (1:Int) (s.length:Int) s)else s)):Int) (bif ((!(zD s ([]:zh)))&&((zo s (0:Int))==45))then(zS (1:Int) (s.length:Int) s)else s)) (0:Int)) != 46)=true)→(zt (0:Int) (List.length (zS k (Nat.cast (List.length (bif ((!(zD s ([]:zh)))&&((zo s (0:Int))==45))then(zS (1:Int) (s.length:Int) s)else s)):Int) (bif ((!(zD s ([]:zh)))&&((zo s (0:Int))==45))then(zS (1:Int) (s.length:Int) s)else s)))))))) <|
 .ite ((m==0)||((m != (zr ((Nat.cast (List.length (zS k (Nat.cast (List.length (bif ((!(zD s ([]:zh)))&&((zo s (0:Int))==45))then(zS (1:Int) (s.length:Int) s)else s)):Int) (bif ((!(zD s ([]:zh)))&&((zo s (0:Int))==45))then(zS (1:Int) (s.length:Int) s)else s))):Int)-(1:Int))))||(((zo (zS k (Nat.cast (List.length (bif ((!(zD s ([]:zh)))&&((zo s (0:Int))==45))then(zS (1:Int) (s.length:Int) s)else s)):Int) (bif ((!(zD s ([]:zh)))&&((zo s (0:Int))==45))then(zS (1:Int) (s.length:Int) s)else s)) (0:Int)) != 46)&&((zo (zS k (Nat.cast (List.length (bif ((!(zD s ([]:zh)))&&((zo s (0:Int))==45))then(zS (1:Int) (s.length:Int) s)else s)):Int) (bif ((!(zD s ([]:zh)))&&((zo s (0:Int))==45))then(zS (1:Int) (s.length:Int) s)else s)) (0:Int)) != 47))))
  (T.bind (jN (0:Int)) fun r4 =>
 .ret (r4,(2:Int)))
  (.zj (kc (1:Int) (Nat.cast (List.length (zS k (Nat.cast (List.length (bif ((!(zD s ([]:zh)))&&((zo s (0:Int))==45))then(zS (1:Int) (s.length:Int) s)else s)):Int) (bif ((!(zD s ([]:zh)))&&((zo s (0:Int))==45))then(zS (1:Int) (s.length:Int) s)else s))):Int) (List.length (zS k (Nat.cast (List.length (bif ((!(zD s ([]:zh)))&&((zo s (0:Int))==45))then(zS (1:Int) (s.length:Int) s)else s)):Int) (bif ((!(zD s ([]:zh)))&&((zo s (0:Int))==45))then(zS (1:Int) (s.length:Int) s)else s)))) <|
 T.bind (ki (zS (1:Int) (Nat.cast (List.length (zS k (Nat.cast (List.length (bif ((!(zD s ([]:zh)))&&((zo s (0:Int))==45))then(zS (1:Int) (s.length:Int) s)else s)):Int) (bif ((!(zD s ([]:zh)))&&((zo s (0:Int))==45))then(zS (1:Int) (s.length:Int) s)else s))):Int) (zS k (Nat.cast (List.length (bif ((!(zD s ([]:zh)))&&((zo s (0:Int))==45))then(zS (1:Int) (s.length:Int) s)else s)):Int) (bif ((!(zD s ([]:zh)))&&((zo s (0:Int))==45))then(zS (1:Int) (s.length:Int) s)else s)))) fun(x,r5) =>
 .zj (zt (0:Int) (List.length (zS k (Nat.cast (List.length (bif ((!(zD s ([]:zh)))&&((zo s (0:Int))==45))then(zS (1:Int) (s.length:Int) s)else s)):Int) (bif ((!(zD s ([]:zh)))&&((zo s (0:Int))==45))then(zS (1:Int) (s.length:Int) s)else s)))) <|
 .ite ((zo (zS k (Nat.cast (List.length (bif ((!(zD s ([]:zh)))&&((zo s (0:Int))==45))then(zS (1:Int) (s.length:Int) s)else s)):Int) (bif ((!(zD s ([]:zh)))&&((zo s (0:Int))==45))then(zS (1:Int) (s.length:Int) s)else s)) (0:Int))==47)
  (.ite ((x.length:Int)==(0:Int))
  (T.bind (jN (0:Int)) fun r6 =>
 .ret (r6,(2:Int)))
  (T.bind (ga ((!(zD s ([]:zh)))&&((zo s (0:Int))==45)) n x) fun r7 =>
 .ret (r7,(0:Int))))
  (T.bind (lT m) fun t =>
 T.bind (jG n t) fun r8 =>
 T.bind (gA r8 x) fun r9 =>
 T.bind (ga ((!(zD s ([]:zh)))&&((zo s (0:Int))==45)) r9 t) fun Uy =>
 .ret (Uy,(0:Int)))))))
def vv(r:zf):T (AM.Expr×zf) :=
 T.bind (wu r) fun(r1,r2) =>
 T.bind (.zj (((decide (r2.2.1<(r2.1.length:Int)))=true)→(zt r2.2.1 r2.1.length)) <|
 .ite ((decide (r2.2.1<(r2.1.length:Int)))&&((zo r2.1 r2.2.1)==46))
  (T.bind (wu (r2.1,((zr (r2.2.1+1)),(r2.2.2.1,(r2.2.2.2.1,(r2.2.2.2.2.1,(r2.2.2.2.2.2.1,()))))))) fun(r3,r4) =>
 .ite (r3==0)
  (T.bind (qJ (2:Int) r4) fun(r5,r6) =>
 .ret (.inr (r6,r5)))
  (.ret (.inl (r4,(Expr.mk (0:Int) (false,(([]:List Int),(([]:List Int),()))) ([]:zh) ([]:List AM.Expr))))))
  (.ret (.inl (r2,(Expr.mk (0:Int) (false,(([]:List Int),(([]:List Int),()))) ([]:zh) ([]:List AM.Expr))))):T ((zf×AM.Expr)⊕(zf×AM.Expr))) <|
 Sum.elim (fun(v,v1) =>
 .zj (kc r.2.1 v.2.1 v.1.length) <|
 T.bind (cd (zS r.2.1 v.2.1 v.1)) fun(r7,e) =>
 T.bind (.ite v.2.2.2.2.2.1
  (.ret ((v.1,(v.2.1,(v.2.2.1,(v.2.2.2.1,(v.2.2.2.2.1,(true,())))))),(v1,r7)))
  (.ret ((v.1,(v.2.1,(v.2.2.1,(v.2.2.2.1,(v.2.2.2.2.1,((e != 0),())))))),(v1,r7))):T ((zf×AM.Expr×Rat))) fun(v4,v5,v6) =>
 .ret ((Expr.mk (1:Int) (v6.1,(v6.2.1,(v6.2.2.1,()))) ([]:zh) ([]:List AM.Expr)),v4))
  (fun(v2,v3) =>
 .ret (v3,v2))
def xo(from_:Int):(zf×AM.Expr)→T ((zf×AM.Expr)⊕((zf×AM.Expr)⊕(zf×AM.Expr)))
 | (v,v1) =>
 T.bind (.ite (decide (v.2.1<(v.1.length:Int)))
  (.zj (zt v.2.1 v.1.length) <|
 T.bind (xH (zo v.1 v.2.1)) fun r1 =>
 .ite r1
  (.ret (true,(v,v1)))
  (.zj (zt v.2.1 v.1.length) <|
 T.bind (vf (zo v.1 v.2.1)) fun r2 =>
 .ite r2
  (.ret (true,(v,v1)))
  (.zj (zt v.2.1 v.1.length) <|
 .ret (((zo v.1 v.2.1)==95),(v,v1)))))
  (.ret (false,(v,v1))):T ((Bool×zf×AM.Expr))) fun(x,v2,v3) =>
 .ite x
  (.ite ((zr (v2.2.1-from_))==24)
  (T.bind (qJ (2:Int) v2) fun(r3,r4) =>
 .ret (.inr (.inr (r4,r3))))
  (.ret (.inl ((v2.1,((zr (v2.2.1+1)),(v2.2.2.1,(v2.2.2.2.1,(v2.2.2.2.2.1,(v2.2.2.2.2.2.1,())))))),v3))))
  (.ret (.inr (.inl (v2,v3))))
def yC from_ s:=T.loop (xo from_) s
def uc(r:zf):T (AM.Expr×zf) :=
 T.bind (yC r.2.1 (r,(Expr.mk (0:Int) (false,(([]:List Int),(([]:List Int),()))) ([]:zh) ([]:List AM.Expr)))) <|
 Sum.elim (fun(v4,v5) =>
 .zj (kc r.2.1 v4.2.1 v4.1.length) <|
 .ret ((Expr.mk (2:Int) (false,(([]:List Int),(([]:List Int),()))) (zS r.2.1 v4.2.1 v4.1) ([]:List AM.Expr)),v4))
  (fun(v6,v7) =>
 .ret (v7,v6))
def xM(dP:zf→T (AM.Expr×zf))(zC:zf→T (AM.Expr×zf))(r:zf):T (AM.Expr×zf) :=
 T.bind (xA r) fun(c,r1) =>
 .ite (c==45)
  (T.bind (wz r1) fun(r2,r3) =>
 .ite (!r2)
  (.ret ((Expr.mk (0:Int) (false,(([]:List Int),(([]:List Int),()))) ([]:zh) ([]:List AM.Expr)),r3))
  (T.bind (dP r3) fun(r4,r5) =>
 .ret ((Expr.mk (7:Int) (false,(([]:List Int),(([]:List Int),()))) ([]:zh) ([r4]:List AM.Expr)),(r5.1,(r5.2.1,(r5.2.2.1,(r5.2.2.2.1,((zr (r5.2.2.2.2.1-1)),(r5.2.2.2.2.2.1,())))))))))
  (.ite (c==40)
  (T.bind (wz r1) fun(r6,r7) =>
 .ite (!r6)
  (.ret ((Expr.mk (0:Int) (false,(([]:List Int),(([]:List Int),()))) ([]:zh) ([]:List AM.Expr)),r7))
  (T.bind (zC r7) fun(r8,r9) =>
 T.bind (ue (41:Int) r9) fun(Uy,Ld) =>
 .ite (!Uy)
  (T.bind (qJ (2:Int) Ld) fun(r12,r13) =>
 .ret (r12,r13))
  (.ret (r8,(Ld.1,(Ld.2.1,(Ld.2.2.1,(Ld.2.2.2.1,((zr (Ld.2.2.2.2.1-1)),(Ld.2.2.2.2.2.1,()))))))))))
  (T.bind (vf c) fun r14 =>
 .ite r14
  (T.bind (vv r1) fun(r15,r16) =>
 .ret (r15,r16))
  (T.bind (xH c) fun r17 =>
 .ite r17
  (T.bind (uc r1) fun(r18,r19) =>
 .ret (r18,r19))
  (T.bind (qJ (2:Int) r1) fun(r20,r21) =>
 .ret (r20,r21)))))
def qE(zC:zf→T (AM.Expr×zf))(r:zf):T (AM.Expr×zf):=T.fix (fun F x=>xM (fun y0=>F (y0)) zC x) r
def bJ(kind:Int)(a:AM.Expr)(b:AM.Expr):T AM.Expr :=
 .ret (Expr.mk kind (false,(([]:List Int),(([]:List Int),()))) ([]:zh) ([a,b]:List AM.Expr))
def jO(zC:zf→T (AM.Expr×zf))  : (zf×AM.Expr×AM.Expr)→T ((zf×AM.Expr×AM.Expr)⊕((zf×AM.Expr×AM.Expr)))
 | (v,v1,v2) =>
 T.bind (xA v) fun(r3,r4) =>
 .ite (r3==42)
  (T.bind ((qE zC) (r4.1,((zr (r4.2.1+1)),(r4.2.2.1,(r4.2.2.2.1,(r4.2.2.2.2.1,(r4.2.2.2.2.2.1,()))))))) fun(r5,r6) =>
 T.bind (bJ (5:Int) v2 r5) fun r7 =>
 .ret (.inl (r6,(v1,r7))))
  (.ite (r3==47)
  (T.bind ((qE zC) (r4.1,((zr (r4.2.1+1)),(r4.2.2.1,(r4.2.2.2.1,(r4.2.2.2.2.1,(r4.2.2.2.2.2.1,()))))))) fun(r8,r9) =>
 T.bind (bJ (6:Int) v2 r8) fun Uy =>
 .ret (.inl (r9,(v1,Uy))))
  (.ret (.inr (r4,(v2,v2)))))
def cV(zC:zf→T (AM.Expr×zf))(s:(zf×AM.Expr×AM.Expr)):T ((zf×AM.Expr×AM.Expr)):=T.loop (jO zC ) s
def qA(zC:zf→T (AM.Expr×zf))(r:zf):T (AM.Expr×zf) :=
 T.bind ((qE zC) r) fun(r1,r2) =>
 T.bind (cV zC  (r2,((Expr.mk (0:Int) (false,(([]:List Int),(([]:List Int),()))) ([]:zh) ([]:List AM.Expr)),r1))) fun(v3,v4,v5) =>
 .ret (v4,v3)
def gK(zC:zf→T (AM.Expr×zf))  : (zf×AM.Expr×AM.Expr)→T ((zf×AM.Expr×AM.Expr)⊕((zf×AM.Expr×AM.Expr)))
 | (v,v1,v2) =>
 T.bind (xA v) fun(r3,r4) =>
 .ite (r3==43)
  (T.bind ((qA zC) (r4.1,((zr (r4.2.1+1)),(r4.2.2.1,(r4.2.2.2.1,(r4.2.2.2.2.1,(r4.2.2.2.2.2.1,()))))))) fun(r5,r6) =>
 T.bind (bJ (3:Int) v2 r5) fun r7 =>
 .ret (.inl (r6,(v1,r7))))
  (.ite (r3==45)
  (T.bind ((qA zC) (r4.1,((zr (r4.2.1+1)),(r4.2.2.1,(r4.2.2.2.1,(r4.2.2.2.2.1,(r4.2.2.2.2.2.1,()))))))) fun(r8,r9) =>
 T.bind (bJ (4:Int) v2 r8) fun Uy =>
 .ret (.inl (r9,(v1,Uy))))
  (.ret (.inr (r4,(v2,v2)))))
def lZ(zC:zf→T (AM.Expr×zf))(s:(zf×AM.Expr×AM.Expr)):T ((zf×AM.Expr×AM.Expr)):=T.loop (gK zC ) s
def vS(zC:zf→T (AM.Expr×zf))(r:zf):T (AM.Expr×zf) :=
 T.bind ((qA zC) r) fun(r1,r2) =>
 T.bind (lZ zC  (r2,((Expr.mk (0:Int) (false,(([]:List Int),(([]:List Int),()))) ([]:zh) ([]:List AM.Expr)),r1))) fun(v3,v4,v5) =>
 .ret (v4,v3)
def wE(r:zf):T (AM.Expr×zf):=T.fix (fun F x=>vS (fun y0=>F (y0)) x) r
def yI(s:zh):T (AM.Expr×Int×Int) :=
 T.bind (wE (s,((0:Int),((0:Int),((0:Int),((0:Int),(false,()))))))) fun(r,r1) =>
 T.bind (xI r1) fun r2 =>
 T.bind (.ite ((r2.2.2.1==0)&&(decide (r2.2.1<(s.length:Int))))
  (T.bind (qJ (2:Int) r2) fun(r3,r4) =>
 .ret ((Expr.mk (0:Int) (false,(([]:List Int),(([]:List Int),()))) ([]:zh) ([]:List AM.Expr)),(r4,r)))
  (.ret ((Expr.mk (0:Int) (false,(([]:List Int),(([]:List Int),()))) ([]:zh) ([]:List AM.Expr)),(r2,r))):T ((AM.Expr×zf×AM.Expr))) fun(v,v1,v2) =>
 .ite (v1.2.2.1 != 0)
  (.ret ((Expr.mk (0:Int) (false,(([]:List Int),(([]:List Int),()))) ([]:zh) ([]:List AM.Expr)),(v1.2.2.2.1,v1.2.2.1)))
  (T.bind (.ite v1.2.2.2.2.2.1
  (.ret (true,(v,(v1,v2))))
  (T.bind (jW v2) fun r5 =>
 .ret ((!r5),(v,(v1,v2)))):T ((Bool×AM.Expr×zf×AM.Expr))) fun(x,v3,v4,v5) =>
 .ite x
  (.ret ((Expr.mk (0:Int) (false,(([]:List Int),(([]:List Int),()))) ([]:zh) ([]:List AM.Expr)),((0:Int),(3:Int))))
  (.ret (v5,((0:Int),(0:Int)))))
def yV(e:AM.Expr):T Int :=
 .ite (bif ((Expr.kind e)==3)then((Expr.kind e)==3)else((Expr.kind e)==4))
  (.ret (1:Int))
  (.ite (bif ((Expr.kind e)==5)then((Expr.kind e)==5)else((Expr.kind e)==6))
  (.ret (2:Int))
  (.ite ((Expr.kind e)==7)
  (.ret (3:Int))
  (.ret (4:Int))))
def kN(vu:AM.Expr→T zh)(e:AM.Expr)(least:Int):T zh :=
 T.bind (yV e) fun r =>
 .ite (decide (r<least))
  (T.bind (vu e) fun r1 =>
 .zj ((([40]:zh).length+r1.length)≤(4611686018427387904:Nat)) <|
 .zj (((List.length (cat ([40]:zh) r1))+([41]:zh).length)≤(4611686018427387904:Nat)) <|
 .ret (cat (cat ([40]:zh) r1) ([41]:zh)))
  (T.bind (vu e) fun r2 =>
 .ret r2)
def b0(vu:AM.Expr→T zh)(e:AM.Expr):T zh :=
 T.bind (.ite ((Expr.kind e)==1)
  (T.bind (dn (Expr.num e)) fun(s,r) =>
 .ret (.inr s))
  (.ite ((Expr.kind e)==2)
  (.ret (.inr (Expr.name e)))
  (.ite ((Expr.kind e)==7)
  (.zj (zt (0:Int) (Expr.kids e).length) <|
 T.bind ((kN vu) (nth (Expr.kids e) (0:Int) (zA .expr)) (3:Int)) fun r1 =>
 .zj ((([45]:zh).length+r1.length)≤(4611686018427387904:Nat)) <|
 .ret (.inr (cat ([45]:zh) r1)))
  (.ite ((Expr.kind e)==3)
  (.ret (.inl ([32,43,32]:zh)))
  (.ite ((Expr.kind e)==4)
  (.ret (.inl ([32,45,32]:zh)))
  (.ite ((Expr.kind e)==5)
  (.ret (.inl ([32,42,32]:zh)))
  (.ite ((Expr.kind e)==6)
  (.ret (.inl ([32,47,32]:zh)))
  (.ret (.inl ([]:zh))))))))):T (zh⊕zh)) <|
 Sum.elim (fun mark =>
 .zj (zt (0:Int) (Expr.kids e).length) <|
 T.bind (yV e) fun r2 =>
 T.bind ((kN vu) (nth (Expr.kids e) (0:Int) (zA .expr)) r2) fun r3 =>
 .zj ((r3.length+mark.length)≤(4611686018427387904:Nat)) <|
 .zj (zt (1:Int) (Expr.kids e).length) <|
 T.bind (yV e) fun r4 =>
 T.bind ((kN vu) (nth (Expr.kids e) (1:Int) (zA .expr)) (zr (r4+1))) fun r5 =>
 .zj (((cat r3 mark).length+r5.length)≤(4611686018427387904:Nat)) <|
 .ret (cat (cat r3 mark) r5))
  (fun x =>
 .ret x)
def eL(e:AM.Expr):T zh:=T.fix (fun F x=>b0 (fun y0=>F (y0)) x) e
def eR(e:AM.Expr):T zh :=
 T.bind (pI e) fun r =>
 .ite (!r)
  (.ret ([]:zh))
  (T.bind (eL e) fun r1 =>
 .ret r1)
def ca  : T Bool :=
 T.bind (bS ([97,45,40,98,45,99,41,42,50]:zh)) fun(r,at_,x) =>
 .ite (x==0)
  (.ite (at_==0)
  (T.bind (eR r) fun r1 =>
 .ret (zD r1 ([97,32,45,32,40,98,32,45,32,99,41,32,42,32,50]:zh)))
  (.ret false))
  (.ret false)
def bg(a:Rat)(b:Rat):T Bool :=
 T.bind (uC a) fun r =>
 T.bind (uC b) fun r1 =>
 .ite (r.1==r1.1)
  (T.bind (ko r.2.1 r1.2.1) fun r2 =>
 .ite r2
  (T.bind (ko r.2.2.1 r1.2.2.1) fun r3 =>
 .ret r3)
  (.ret false))
  (.ret false)
def kT(uW:AM.Expr→AM.Expr→T Bool)(a1:AM.Expr)(b1:AM.Expr):Int→T (Int⊕(Unit⊕Bool))
 | i =>
 .ite (decide (i<((Expr.kids a1).length:Int)))
  (.zj (zt i (Expr.kids a1).length) <|
 .zj (zt i (Expr.kids b1).length) <|
 T.bind (uW (nth (Expr.kids a1) i (zA .expr)) (nth (Expr.kids b1) i (zA .expr))) fun r1 =>
 .ite (!r1)
  (.ret (.inr (.inr false)))
  (.ret (.inl (zr (i+1)))))
  (.ret (.inr (.inl ())))
def pz uW a1 b1 s:=T.loop (kT uW a1 b1) s
def cO(uW:AM.Expr→AM.Expr→T Bool)(a:AM.Expr)(b:AM.Expr):T Bool :=
 T.bind (.ite ((Expr.kind a) != (Expr.kind b))
  (.ret true)
  (.ite (!(zD (Expr.name a) (Expr.name b)))
  (.ret true)
  (T.bind (bg (Expr.num a) (Expr.num b)) fun r =>
 .ite (!r)
  (.ret true)
  (.ret (((Expr.kids a).length:Int) != ((Expr.kids b).length:Int))))):T (Bool)) fun x =>
 .ite x
  (.ret false)
  (T.bind (pz uW a b (0:Int)) <|
 Sum.elim (fun _ =>
 .ret true)
  (fun x1 =>
 .ret x1))
def mq(a:AM.Expr)(b:AM.Expr):T Bool:=T.fix (fun F x=>cO (fun y0 y1=>F (y0,y1)) x.1 x.2) (a,b)
def ud(n1:Int)(a1:AM.Expr)(b1:AM.Expr):(zh×Int)→T ((zh×Int)⊕(zh))
 | (gap,i) =>
 .ite (decide (i<n1))
  (.zj ((gap.length+([32]:zh).length)≤(4611686018427387904:Nat)) <|
 .ret (.inl ((cat gap ([32]:zh)),(zr (i+1)))))
  (.ret (.inr gap))
def kh n1 a1 b1 s:=T.loop (ud n1 a1 b1) s
def jQ(a:AM.Expr)(b:AM.Expr)(n:Int):T Bool :=
 T.bind (T.bind (kI a (300:Int)) fun r =>
 .ite (decide (r<(0:Int)))
  (.ret true)
  (T.bind (kI b (300:Int)) fun r1 =>
 .ite (decide (r1<(0:Int)))
  (.ret true)
  (T.bind (jW a) fun r2 =>
 .ite (!r2)
  (.ret true)
  (T.bind (jW b) fun r3 =>
 .ite (!r3)
  (.ret true)
  (.ite (decide (n<(0:Int)))
  (.ret true)
  (.ret (decide ((10:Int)<n))))))):T (Bool)) fun x =>
 .ite x
  (.ret true)
  (T.bind (kh n a b (([]:zh),(0:Int))) fun xk =>
 .zj ((xk.length+([40]:zh).length)≤(4611686018427387904:Nat)) <|
 .zj (((List.length (cat xk ([40]:zh)))+xk.length)≤(4611686018427387904:Nat)) <|
 T.bind (bB a) fun r4 =>
 .zj (((List.length (cat (cat xk ([40]:zh)) xk))+r4.length)≤(4611686018427387904:Nat)) <|
 .zj (((List.length (cat (cat (cat xk ([40]:zh)) xk) r4))+xk.length)≤(4611686018427387904:Nat)) <|
 .zj (((List.length (cat (cat (cat (cat xk ([40]:zh)) xk) r4) xk))+([41]:zh).length)≤(4611686018427387904:Nat)) <|
 .zj (((List.length (cat (cat (cat (cat (cat xk ([40]:zh)) xk) r4) xk) ([41]:zh)))+xk.length)≤(4611686018427387904:Nat)) <|
 .zj (((List.length (cat (cat (cat (cat (cat (cat xk ([40]:zh)) xk) r4) xk) ([41]:zh)) xk))+([42]:zh).length)≤(4611686018427387904:Nat)) <|
 .zj (((List.length (cat (cat (cat (cat (cat (cat (cat xk ([40]:zh)) xk) r4) xk) ([41]:zh)) xk) ([42]:zh)))+xk.length)≤(4611686018427387904:Nat)) <|
 .zj (((List.length (cat (cat (cat (cat (cat (cat (cat (cat xk ([40]:zh)) xk) r4) xk) ([41]:zh)) xk) ([42]:zh)) xk))+([40]:zh).length)≤(4611686018427387904:Nat)) <|
 T.bind (bB b) fun r5 =>
 .zj (((List.length (cat (cat (cat (cat (cat (cat (cat (cat (cat xk ([40]:zh)) xk) r4) xk) ([41]:zh)) xk) ([42]:zh)) xk) ([40]:zh)))+r5.length)≤(4611686018427387904:Nat)) <|
 .zj (((List.length (cat (cat (cat (cat (cat (cat (cat (cat (cat (cat xk ([40]:zh)) xk) r4) xk) ([41]:zh)) xk) ([42]:zh)) xk) ([40]:zh)) r5))+xk.length)≤(4611686018427387904:Nat)) <|
 .zj (((List.length (cat (cat (cat (cat (cat (cat (cat (cat (cat (cat (cat xk ([40]:zh)) xk) r4) xk) ([41]:zh)) xk) ([42]:zh)) xk) ([40]:zh)) r5) xk))+([41]:zh).length)≤(4611686018427387904:Nat)) <|
 .zj (((List.length (cat (cat (cat (cat (cat (cat (cat (cat (cat (cat (cat (cat xk ([40]:zh)) xk) r4) xk) ([41]:zh)) xk) ([42]:zh)) xk) ([40]:zh)) r5) xk) ([41]:zh)))+xk.length)≤(4611686018427387904:Nat)) <|
 T.bind (bS (cat (cat (cat (cat (cat (cat (cat (cat (cat (cat (cat (cat (cat xk ([40]:zh)) xk) r4) xk) ([41]:zh)) xk) ([42]:zh)) xk) ([40]:zh)) r5) xk) ([41]:zh)) xk)) fun(r6,r7,x1) =>
 T.bind (T.bind (jW (Expr.mk (5:Int) (false,(([]:List Int),(([]:List Int),()))) ([]:zh) ([a,b]:List AM.Expr))) fun r8 =>
 .ite (!r8)
  (.ret (true,((Expr.mk (5:Int) (false,(([]:List Int),(([]:List Int),()))) ([]:zh) ([a,b]:List AM.Expr)),r6)))
  (.ret ((x1==4),((Expr.mk (5:Int) (false,(([]:List Int),(([]:List Int),()))) ([]:zh) ([a,b]:List AM.Expr)),r6))):T ((Bool×AM.Expr×AM.Expr))) fun(x2,v,v1) =>
 .ite x2
  (T.bind (yI (cat (cat (cat (cat (cat (cat (cat (cat (cat (cat (cat (cat (cat xk ([40]:zh)) xk) r4) xk) ([41]:zh)) xk) ([42]:zh)) xk) ([40]:zh)) r5) xk) ([41]:zh)) xk)) fun(r9,Uy,y) =>
 .ite (x1==y)
  (T.bind (ca) fun Ld =>
 .ret Ld)
  (.ret false))
  (.ite (x1==0)
  (T.bind (mq v1 v) fun r12 =>
 .ite r12
  (T.bind (ca) fun r13 =>
 .ret r13)
  (.ret false))
  (.ret false)))
end Go.AM.Lf
