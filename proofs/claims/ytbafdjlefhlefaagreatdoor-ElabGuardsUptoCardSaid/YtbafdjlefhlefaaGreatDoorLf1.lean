/-
  The program's functions as trees in plain Lean, part 1: printed by a program of ours.
-/
import Derived.Test.YtbafdjlefhlefaaGreatDoorLf0
set_option linter.unusedVariables false
noncomputable section
namespace Go.AM.Lf
def o0(f:Field):T zf :=
 .zd ((([102,105,101,108,100,32]:zf).length+f.1.length)≤(4611686018427387904:Nat)) <|
 .zd ((f.2.2.1=true)→(((List.length (cat ([102,105,101,108,100,32]:zf) f.1))+([32,109,117,115,116]:zf).length)≤(4611686018427387904:Nat))) <|
 .ite (f.2.2.2.1 != 0)
  (.zd (((List.length (bif f.2.2.1 then(cat (cat ([102,105,101,108,100,32]:zf) f.1) ([32,109,117,115,116]:zf))else(cat ([102,105,101,108,100,32]:zf) f.1)))+([32,115,99,97,108,101,32]:zf).length)≤(4611686018427387904:Nat)) <|
 .zd (((List.length (cat (bif f.2.2.1 then(cat (cat ([102,105,101,108,100,32]:zf) f.1) ([32,109,117,115,116]:zf))else(cat ([102,105,101,108,100,32]:zf) f.1)) ([32,115,99,97,108,101,32]:zf)))+(List.length (qO ([(Mv (zt ((48:Int)+f.2.2.2.1)))]:List Int))))≤(4611686018427387904:Nat)) <|
 .zd (((List.length (cat (cat (bif f.2.2.1 then(cat (cat ([102,105,101,108,100,32]:zf) f.1) ([32,109,117,115,116]:zf))else(cat ([102,105,101,108,100,32]:zf) f.1)) ([32,115,99,97,108,101,32]:zf)) (qO ([(Mv (zt ((48:Int)+f.2.2.2.1)))]:List Int))))+([10]:zf).length)≤(4611686018427387904:Nat)) <|
 .ret (cat (cat (cat (bif f.2.2.1 then(cat (cat ([102,105,101,108,100,32]:zf) f.1) ([32,109,117,115,116]:zf))else(cat ([102,105,101,108,100,32]:zf) f.1)) ([32,115,99,97,108,101,32]:zf)) (qO ([(Mv (zt ((48:Int)+f.2.2.2.1)))]:List Int))) ([10]:zf)))
  (.zd (((List.length (bif f.2.2.1 then(cat (cat ([102,105,101,108,100,32]:zf) f.1) ([32,109,117,115,116]:zf))else(cat ([102,105,101,108,100,32]:zf) f.1)))+([10]:zf).length)≤(4611686018427387904:Nat)) <|
 .ret (cat (bif f.2.2.1 then(cat (cat ([102,105,101,108,100,32]:zf) f.1) ([32,109,117,115,116]:zf))else(cat ([102,105,101,108,100,32]:zf) f.1)) ([10]:zf)))
def rF(kind:Int):T Int :=
 .ite (bif (kind==3)then(kind==3)else(kind==4))
  (.ret (1:Int))
  (.ite (bif (kind==5)then(kind==5)else(kind==6))
  (.ret (2:Int))
  (.ite (kind==7)
  (.ret (3:Int))
  (.ret (4:Int))))
def lG(wh:AM.Expr→Int→T zf)(e:AM.Expr)(asks:Int):T zf :=
 T.bind (.ite ((Expr.kind e)==1)
  (T.bind (ct (Expr.num e)) fun(s,r) =>
 .ret s)
  (.ite ((Expr.kind e)==2)
  (.ret (Expr.name e))
  (.ite ((Expr.kind e)==7)
  (.zd (zi (0:Int) (Expr.kids e).length) <|
 T.bind (wh (nth (Expr.kids e) (0:Int) (zb .expr)) (3:Int)) fun r1 =>
 .zd ((([45]:zf).length+r1.length)≤(4611686018427387904:Nat)) <|
 .ret (cat ([45]:zf) r1))
  (.ite ((Expr.kind e)==3)
  (.zd (zi (0:Int) (Expr.kids e).length) <|
 T.bind (wh (nth (Expr.kids e) (0:Int) (zb .expr)) (1:Int)) fun r2 =>
 .zd ((r2.length+([32,43,32]:zf).length)≤(4611686018427387904:Nat)) <|
 .zd (zi (1:Int) (Expr.kids e).length) <|
 T.bind (wh (nth (Expr.kids e) (1:Int) (zb .expr)) (2:Int)) fun r3 =>
 .zd (((List.length (cat r2 ([32,43,32]:zf)))+r3.length)≤(4611686018427387904:Nat)) <|
 .ret (cat (cat r2 ([32,43,32]:zf)) r3))
  (.ite ((Expr.kind e)==4)
  (.zd (zi (0:Int) (Expr.kids e).length) <|
 T.bind (wh (nth (Expr.kids e) (0:Int) (zb .expr)) (1:Int)) fun r4 =>
 .zd ((r4.length+([32,45,32]:zf).length)≤(4611686018427387904:Nat)) <|
 .zd (zi (1:Int) (Expr.kids e).length) <|
 T.bind (wh (nth (Expr.kids e) (1:Int) (zb .expr)) (2:Int)) fun r5 =>
 .zd (((List.length (cat r4 ([32,45,32]:zf)))+r5.length)≤(4611686018427387904:Nat)) <|
 .ret (cat (cat r4 ([32,45,32]:zf)) r5))
  (.ite ((Expr.kind e)==5)
  (.zd (zi (0:Int) (Expr.kids e).length) <|
 T.bind (wh (nth (Expr.kids e) (0:Int) (zb .expr)) (2:Int)) fun r6 =>
 .zd ((r6.length+([32,42,32]:zf).length)≤(4611686018427387904:Nat)) <|
 .zd (zi (1:Int) (Expr.kids e).length) <|
 T.bind (wh (nth (Expr.kids e) (1:Int) (zb .expr)) (3:Int)) fun r7 =>
 .zd (((List.length (cat r6 ([32,42,32]:zf)))+r7.length)≤(4611686018427387904:Nat)) <|
 .ret (cat (cat r6 ([32,42,32]:zf)) r7))
  (.ite ((Expr.kind e)==6)
  (.zd (zi (0:Int) (Expr.kids e).length) <|
 T.bind (wh (nth (Expr.kids e) (0:Int) (zb .expr)) (2:Int)) fun r8 =>
 .zd ((r8.length+([32,47,32]:zf).length)≤(4611686018427387904:Nat)) <|
 .zd (zi (1:Int) (Expr.kids e).length) <|
 T.bind (wh (nth (Expr.kids e) (1:Int) (zb .expr)) (3:Int)) fun r9 =>
 .zd (((List.length (cat r8 ([32,47,32]:zf)))+r9.length)≤(4611686018427387904:Nat)) <|
 .ret (cat (cat r8 ([32,47,32]:zf)) r9))
  (.ret ([]:zf)))))))):T (zf)) fun s1 =>
 T.bind (rF (Expr.kind e)) fun Nv =>
 .ite (decide (Nv<asks))
  (.zd ((([40]:zf).length+s1.length)≤(4611686018427387904:Nat)) <|
 .zd (((List.length (cat ([40]:zf) s1))+([41]:zf).length)≤(4611686018427387904:Nat)) <|
 .ret (cat (cat ([40]:zf) s1) ([41]:zf)))
  (.ret s1)
def tJ(e:AM.Expr)(asks:Int):T zf:=T.fix (fun F x=>lG (fun y0 y1=>F (y0,y1)) x.1 x.2) (e,asks)
def jM(e:AM.Expr):T zf :=
 T.bind (yU e) fun r =>
 .ite (!r)
  (.ret ([]:zf))
  (T.bind (tJ e (1:Int)) fun r1 =>
 .ret r1)
def Xf(n:Int):T zf :=
 .ite (n==1)
  (.ret ([60]:zf))
  (.ite (n==2)
  (.ret ([60,61]:zf))
  (.ret ([61]:zf)))
def cK(n:Int):T zf :=
 .ite (n==0)
  (.ret ([114,101,113,117,105,114,101,100]:zf))
  (.ite (n==1)
  (.ret ([115,116,114,111,110,103]:zf))
  (.ite (n==2)
  (.ret ([109,101,100,105,117,109]:zf))
  (.ret ([119,101,97,107]:zf))))
def bq(f1:Form):(zf×Int)→T ((zf×Int)⊕(zf))
 | (s,i) =>
 .ite (decide (i<(f1.1.length:Int)))
  (.zd (zi i f1.1.length) <|
 .zd ((s.length+([115,119,105,116,99,104,32]:zf).length)≤(4611686018427387904:Nat)) <|
 .zd (zi i f1.1.length) <|
 .zd (((List.length (cat s ([115,119,105,116,99,104,32]:zf)))+(List.length (nth f1.1 i (zb zV)).1))≤(4611686018427387904:Nat)) <|
 .zd (((List.length (cat (cat s ([115,119,105,116,99,104,32]:zf)) (nth f1.1 i (zb zV)).1))+(List.length (bif (nth f1.1 i (zb zV)).2.1 then([32,111,110,10]:zf)else([32,111,102,102,10]:zf))))≤(4611686018427387904:Nat)) <|
 .ret (.inl ((cat (cat (cat s ([115,119,105,116,99,104,32]:zf)) (nth f1.1 i (zb zV)).1) (bif (nth f1.1 i (zb zV)).2.1 then([32,111,110,10]:zf)else([32,111,102,102,10]:zf))),(zt (i+1)))))
  (.ret (.inr s))
def Qw f1 s:=T.loop (bq f1) s
def bJ(f2:Form):(zf×Int)→T ((zf×Int)⊕(zf))
 | (s2,i1) =>
 .ite (decide (i1<(f2.2.1.length:Int)))
  (.zd ((s2.length+([112,97,114,97,109,32]:zf).length)≤(4611686018427387904:Nat)) <|
 .zd (zi i1 f2.2.1.length) <|
 .zd (((List.length (cat s2 ([112,97,114,97,109,32]:zf)))+(List.length (nth f2.2.1 i1 (zb zX)).1))≤(4611686018427387904:Nat)) <|
 .zd (((List.length (cat (cat s2 ([112,97,114,97,109,32]:zf)) (nth f2.2.1 i1 (zb zX)).1))+([32]:zf).length)≤(4611686018427387904:Nat)) <|
 .zd (zi i1 f2.2.1.length) <|
 T.bind (oL (nth f2.2.1 i1 (zb zX)).2.1) fun r =>
 .zd (((List.length (cat (cat (cat s2 ([112,97,114,97,109,32]:zf)) (nth f2.2.1 i1 (zb zX)).1) ([32]:zf)))+r.length)≤(4611686018427387904:Nat)) <|
 .zd (((List.length (cat (cat (cat (cat s2 ([112,97,114,97,109,32]:zf)) (nth f2.2.1 i1 (zb zX)).1) ([32]:zf)) r))+([10]:zf).length)≤(4611686018427387904:Nat)) <|
 .ret (.inl ((cat (cat (cat (cat (cat s2 ([112,97,114,97,109,32]:zf)) (nth f2.2.1 i1 (zb zX)).1) ([32]:zf)) r) ([10]:zf)),(zt (i1+1)))))
  (.ret (.inr s2))
def QZ f2 s:=T.loop (bJ f2) s
def bm(f4:Form)(i3:Int):(zf×Int)→T ((zf×Int)⊕(zf))
 | (s5,k) =>
 .ite (decide (k<(f4.2.2.2.1.length:Int)))
  (.zd (zi k f4.2.2.2.1.length) <|
 .ite ((nth f4.2.2.2.1 k (zb q8)).2.1==i3)
  (.zd (zi k f4.2.2.2.1.length) <|
 T.bind (o0 (nth f4.2.2.2.1 k (zb q8))) fun r2 =>
 .zd ((s5.length+r2.length)≤(4611686018427387904:Nat)) <|
 .ret (.inl ((cat s5 r2),(zt (k+1)))))
  (.ret (.inl (s5,(zt (k+1))))))
  (.ret (.inr s5))
def Xp f4 i3 s:=T.loop (bm f4 i3) s
def bc(f5:Form)(i4:Int):(zf×Int)→T ((zf×Int)⊕(zf))
 | (s7,k1) =>
 .ite (decide (k1<(f5.2.2.2.2.2.1.length:Int)))
  (.zd (zi k1 f5.2.2.2.2.2.1.length) <|
 .ite ((nth f5.2.2.2.2.2.1 k1 (zb zm)).2.1==i4)
  (.zd ((s7.length+([99,104,101,99,107,32]:zf).length)≤(4611686018427387904:Nat)) <|
 .zd (((List.length (cat s7 ([99,104,101,99,107,32]:zf)))+(List.length (nth f5.2.2.2.2.2.1 k1 (zb zm)).1))≤(4611686018427387904:Nat)) <|
 .zd (((List.length (cat (cat s7 ([99,104,101,99,107,32]:zf)) (nth f5.2.2.2.2.2.1 k1 (zb zm)).1))+([32,58,32]:zf).length)≤(4611686018427387904:Nat)) <|
 T.bind (jM (Expr.mk (Expr.kind (nth f5.2.2.2.2.2.1 k1 (zb zm)).2.2.2.1) ((Expr.num (nth f5.2.2.2.2.2.1 k1 (zb zm)).2.2.2.1).1,((Expr.num (nth f5.2.2.2.2.2.1 k1 (zb zm)).2.2.2.1).2.1,((Expr.num (nth f5.2.2.2.2.2.1 k1 (zb zm)).2.2.2.1).2.2.1,()))) (Expr.name (nth f5.2.2.2.2.2.1 k1 (zb zm)).2.2.2.1) (Expr.kids (nth f5.2.2.2.2.2.1 k1 (zb zm)).2.2.2.1))) fun r3 =>
 .zd (((List.length (cat (cat (cat s7 ([99,104,101,99,107,32]:zf)) (nth f5.2.2.2.2.2.1 k1 (zb zm)).1) ([32,58,32]:zf)))+r3.length)≤(4611686018427387904:Nat)) <|
 .zd (((List.length (cat (cat (cat (cat s7 ([99,104,101,99,107,32]:zf)) (nth f5.2.2.2.2.2.1 k1 (zb zm)).1) ([32,58,32]:zf)) r3))+([32]:zf).length)≤(4611686018427387904:Nat)) <|
 T.bind (Xf (nth f5.2.2.2.2.2.1 k1 (zb zm)).2.2.1) fun r4 =>
 .zd (((List.length (cat (cat (cat (cat (cat s7 ([99,104,101,99,107,32]:zf)) (nth f5.2.2.2.2.2.1 k1 (zb zm)).1) ([32,58,32]:zf)) r3) ([32]:zf)))+r4.length)≤(4611686018427387904:Nat)) <|
 .zd (((List.length (cat (cat (cat (cat (cat (cat s7 ([99,104,101,99,107,32]:zf)) (nth f5.2.2.2.2.2.1 k1 (zb zm)).1) ([32,58,32]:zf)) r3) ([32]:zf)) r4))+([32]:zf).length)≤(4611686018427387904:Nat)) <|
 T.bind (jM (Expr.mk (Expr.kind (nth f5.2.2.2.2.2.1 k1 (zb zm)).2.2.2.2.1) ((Expr.num (nth f5.2.2.2.2.2.1 k1 (zb zm)).2.2.2.2.1).1,((Expr.num (nth f5.2.2.2.2.2.1 k1 (zb zm)).2.2.2.2.1).2.1,((Expr.num (nth f5.2.2.2.2.2.1 k1 (zb zm)).2.2.2.2.1).2.2.1,()))) (Expr.name (nth f5.2.2.2.2.2.1 k1 (zb zm)).2.2.2.2.1) (Expr.kids (nth f5.2.2.2.2.2.1 k1 (zb zm)).2.2.2.2.1))) fun r5 =>
 .zd (((List.length (cat (cat (cat (cat (cat (cat (cat s7 ([99,104,101,99,107,32]:zf)) (nth f5.2.2.2.2.2.1 k1 (zb zm)).1) ([32,58,32]:zf)) r3) ([32]:zf)) r4) ([32]:zf)))+r5.length)≤(4611686018427387904:Nat)) <|
 .zd (((List.length (cat (cat (cat (cat (cat (cat (cat (cat s7 ([99,104,101,99,107,32]:zf)) (nth f5.2.2.2.2.2.1 k1 (zb zm)).1) ([32,58,32]:zf)) r3) ([32]:zf)) r4) ([32]:zf)) r5))+([10]:zf).length)≤(4611686018427387904:Nat)) <|
 .ret (.inl ((cat (cat (cat (cat (cat (cat (cat (cat (cat s7 ([99,104,101,99,107,32]:zf)) (nth f5.2.2.2.2.2.1 k1 (zb zm)).1) ([32,58,32]:zf)) r3) ([32]:zf)) r4) ([32]:zf)) r5) ([10]:zf)),(zt (k1+1)))))
  (.ret (.inl (s7,(zt (k1+1))))))
  (.ret (.inr s7))
def QP f5 i4 s:=T.loop (bc f5 i4) s
def bf(f3:Form):(zf×Int)→T ((zf×Int)⊕(zf))
 | (s4,i2) =>
 .ite (decide (i2<(f3.2.2.1.length:Int)))
  (.zd ((s4.length+([112,97,103,101,32]:zf).length)≤(4611686018427387904:Nat)) <|
 .zd (zi i2 f3.2.2.1.length) <|
 .zd (((List.length (cat s4 ([112,97,103,101,32]:zf)))+(List.length (nth f3.2.2.1 i2 (zb qu)).1))≤(4611686018427387904:Nat)) <|
 .zd (zi i2 f3.2.2.1.length) <|
 T.bind (tw (nth f3.2.2.1 i2 (zb qu)).2.1) fun r1 =>
 .zd (((List.length (cat (cat s4 ([112,97,103,101,32]:zf)) (nth f3.2.2.1 i2 (zb qu)).1))+r1.length)≤(4611686018427387904:Nat)) <|
 .zd (((List.length (cat (cat (cat s4 ([112,97,103,101,32]:zf)) (nth f3.2.2.1 i2 (zb qu)).1) r1))+([10]:zf).length)≤(4611686018427387904:Nat)) <|
 T.bind (Xp f3 i2 ((cat (cat (cat (cat s4 ([112,97,103,101,32]:zf)) (nth f3.2.2.1 i2 (zb qu)).1) r1) ([10]:zf)),(0:Int))) fun s6 =>
 T.bind (QP f3 i2 (s6,(0:Int))) fun s8 =>
 .ret (.inl (s8,(zt (i2+1)))))
  (.ret (.inr s4))
def XQ f3 s:=T.loop (bf f3) s
def bS(f6:Form):(zf×Int)→T ((zf×Int)⊕(zf))
 | (s10,i5) =>
 .ite (decide (i5<(f6.2.2.2.2.1.length:Int)))
  (.zd (zi i5 f6.2.2.2.2.1.length) <|
 .zd ((s10.length+([114,117,108,101,32]:zf).length)≤(4611686018427387904:Nat)) <|
 T.bind (cK (nth f6.2.2.2.2.1 i5 (zb zn)).2.1) fun r6 =>
 .zd (((List.length (cat s10 ([114,117,108,101,32]:zf)))+r6.length)≤(4611686018427387904:Nat)) <|
 .zd (((List.length (cat (cat s10 ([114,117,108,101,32]:zf)) r6))+([32]:zf).length)≤(4611686018427387904:Nat)) <|
 .zd (((List.length (cat (cat (cat s10 ([114,117,108,101,32]:zf)) r6) ([32]:zf)))+(List.length (nth f6.2.2.2.2.1 i5 (zb zn)).1))≤(4611686018427387904:Nat)) <|
 T.bind (tw (nth f6.2.2.2.2.1 i5 (zb zn)).2.2.1) fun r7 =>
 .zd (((List.length (cat (cat (cat (cat s10 ([114,117,108,101,32]:zf)) r6) ([32]:zf)) (nth f6.2.2.2.2.1 i5 (zb zn)).1))+r7.length)≤(4611686018427387904:Nat)) <|
 .zd (((List.length (cat (cat (cat (cat (cat s10 ([114,117,108,101,32]:zf)) r6) ([32]:zf)) (nth f6.2.2.2.2.1 i5 (zb zn)).1) r7))+([32,58,32]:zf).length)≤(4611686018427387904:Nat)) <|
 T.bind (jM (Expr.mk (Expr.kind (nth f6.2.2.2.2.1 i5 (zb zn)).2.2.2.1) ((Expr.num (nth f6.2.2.2.2.1 i5 (zb zn)).2.2.2.1).1,((Expr.num (nth f6.2.2.2.2.1 i5 (zb zn)).2.2.2.1).2.1,((Expr.num (nth f6.2.2.2.2.1 i5 (zb zn)).2.2.2.1).2.2.1,()))) (Expr.name (nth f6.2.2.2.2.1 i5 (zb zn)).2.2.2.1) (Expr.kids (nth f6.2.2.2.2.1 i5 (zb zn)).2.2.2.1))) fun r8 =>
 .zd (((List.length (cat (cat (cat (cat (cat (cat s10 ([114,117,108,101,32]:zf)) r6) ([32]:zf)) (nth f6.2.2.2.2.1 i5 (zb zn)).1) r7) ([32,58,32]:zf)))+r8.length)≤(4611686018427387904:Nat)) <|
 .zd (((List.length (cat (cat (cat (cat (cat (cat (cat s10 ([114,117,108,101,32]:zf)) r6) ([32]:zf)) (nth f6.2.2.2.2.1 i5 (zb zn)).1) r7) ([32,58,32]:zf)) r8))+([32,61,32]:zf).length)≤(4611686018427387904:Nat)) <|
 T.bind (jM (Expr.mk (Expr.kind (nth f6.2.2.2.2.1 i5 (zb zn)).2.2.2.2.1) ((Expr.num (nth f6.2.2.2.2.1 i5 (zb zn)).2.2.2.2.1).1,((Expr.num (nth f6.2.2.2.2.1 i5 (zb zn)).2.2.2.2.1).2.1,((Expr.num (nth f6.2.2.2.2.1 i5 (zb zn)).2.2.2.2.1).2.2.1,()))) (Expr.name (nth f6.2.2.2.2.1 i5 (zb zn)).2.2.2.2.1) (Expr.kids (nth f6.2.2.2.2.1 i5 (zb zn)).2.2.2.2.1))) fun r9 =>
 .zd (((List.length (cat (cat (cat (cat (cat (cat (cat (cat s10 ([114,117,108,101,32]:zf)) r6) ([32]:zf)) (nth f6.2.2.2.2.1 i5 (zb zn)).1) r7) ([32,58,32]:zf)) r8) ([32,61,32]:zf)))+r9.length)≤(4611686018427387904:Nat)) <|
 .zd (((List.length (cat (cat (cat (cat (cat (cat (cat (cat (cat s10 ([114,117,108,101,32]:zf)) r6) ([32]:zf)) (nth f6.2.2.2.2.1 i5 (zb zn)).1) r7) ([32,58,32]:zf)) r8) ([32,61,32]:zf)) r9))+([10]:zf).length)≤(4611686018427387904:Nat)) <|
 .ret (.inl ((cat (cat (cat (cat (cat (cat (cat (cat (cat (cat s10 ([114,117,108,101,32]:zf)) r6) ([32]:zf)) (nth f6.2.2.2.2.1 i5 (zb zn)).1) r7) ([32,58,32]:zf)) r8) ([32,61,32]:zf)) r9) ([10]:zf)),(zt (i5+1)))))
  (.ret (.inr s10))
def Qo f6 s:=T.loop (bS f6) s
def sZ(f:Form):T zf :=
 T.bind (Qw f (([]:zf),(0:Int))) fun s1 =>
 T.bind (QZ f (s1,(0:Int))) fun s3 =>
 T.bind (XQ f (s3,(0:Int))) fun s9 =>
 T.bind (Qo f (s9,(0:Int))) fun s11 =>
 .ret s11
def ig(f1:Form):Int→T (Int⊕(Unit⊕Bool))
 | i =>
 .ite (decide (i<(f1.1.length:Int)))
  (.zd (zi i f1.1.length) <|
 T.bind (vV (nth f1.1 i (zb zV)).1) fun r =>
 .ite (!r)
  (.ret (.inr (.inr false)))
  (.ret (.inl (zt (i+1)))))
  (.ret (.inr (.inl ())))
def JI f1 s:=T.loop (ig f1) s
def fU(f2:Form):Int→T (Int⊕(Unit⊕Bool))
 | i1 =>
 .ite (decide (i1<(f2.2.1.length:Int)))
  (T.bind (.zd (zi i1 f2.2.1.length) <|
 T.bind (vV (nth f2.2.1 i1 (zb zX)).1) fun r1 =>
 .ite (!r1)
  (.ret true)
  (.zd (zi i1 f2.2.1.length) <|
 T.bind (cx (nth f2.2.1 i1 (zb zX)).2.1) fun r2 =>
 .ret (!r2)):T (Bool)) fun x1 =>
 .ite x1
  (.ret (.inr (.inr false)))
  (.ret (.inl (zt (i1+1)))))
  (.ret (.inr (.inl ())))
def J9 f2 s:=T.loop (fU f2) s
def fW(f3:Form):Int→T (Int⊕(Unit⊕Bool))
 | i2 =>
 .ite (decide (i2<(f3.2.2.1.length:Int)))
  (T.bind (.zd (zi i2 f3.2.2.1.length) <|
 T.bind (vV (nth f3.2.2.1 i2 (zb qu)).1) fun r3 =>
 .ite (!r3)
  (.ret true)
  (.zd (zi i2 f3.2.2.1.length) <|
 T.bind (fR (nth f3.2.2.1 i2 (zb qu)).2.1) fun r4 =>
 .ret (!r4)):T (Bool)) fun x3 =>
 .ite x3
  (.ret (.inr (.inr false)))
  (.ret (.inl (zt (i2+1)))))
  (.ret (.inr (.inl ())))
def Jw f3 s:=T.loop (fW f3) s
def fv(f4:Form):Int→T (Int⊕(Unit⊕Bool))
 | i3 =>
 .ite (decide (i3<(f4.2.2.2.2.1.length:Int)))
  (.zd (zi i3 f4.2.2.2.2.1.length) <|
 T.bind (T.bind (vV (nth f4.2.2.2.2.1 i3 (zb zn)).1) fun r5 =>
 .ite (!r5)
  (.ret (true,(nth f4.2.2.2.2.1 i3 (zb zn))))
  (T.bind (fR (nth f4.2.2.2.2.1 i3 (zb zn)).2.2.1) fun r6 =>
 .ite (!r6)
  (.ret (true,(nth f4.2.2.2.2.1 i3 (zb zn))))
  (.ite (decide ((nth f4.2.2.2.2.1 i3 (zb zn)).2.1<(0:Int)))
  (.ret (true,(nth f4.2.2.2.2.1 i3 (zb zn))))
  (.ite (decide ((3:Int)<(nth f4.2.2.2.2.1 i3 (zb zn)).2.1))
  (.ret (true,(nth f4.2.2.2.2.1 i3 (zb zn))))
  (T.bind (yU (Expr.mk (Expr.kind (nth f4.2.2.2.2.1 i3 (zb zn)).2.2.2.1) ((Expr.num (nth f4.2.2.2.2.1 i3 (zb zn)).2.2.2.1).1,((Expr.num (nth f4.2.2.2.2.1 i3 (zb zn)).2.2.2.1).2.1,((Expr.num (nth f4.2.2.2.2.1 i3 (zb zn)).2.2.2.1).2.2.1,()))) (Expr.name (nth f4.2.2.2.2.1 i3 (zb zn)).2.2.2.1) (Expr.kids (nth f4.2.2.2.2.1 i3 (zb zn)).2.2.2.1))) fun r7 =>
 .ite (!r7)
  (.ret (true,(nth f4.2.2.2.2.1 i3 (zb zn))))
  (T.bind (yU (Expr.mk (Expr.kind (nth f4.2.2.2.2.1 i3 (zb zn)).2.2.2.2.1) ((Expr.num (nth f4.2.2.2.2.1 i3 (zb zn)).2.2.2.2.1).1,((Expr.num (nth f4.2.2.2.2.1 i3 (zb zn)).2.2.2.2.1).2.1,((Expr.num (nth f4.2.2.2.2.1 i3 (zb zn)).2.2.2.2.1).2.2.1,()))) (Expr.name (nth f4.2.2.2.2.1 i3 (zb zn)).2.2.2.2.1) (Expr.kids (nth f4.2.2.2.2.1 i3 (zb zn)).2.2.2.2.1))) fun r8 =>
 .ret ((!r8),(nth f4.2.2.2.2.1 i3 (zb zn)))))))):T ((Bool×uT))) fun(x5,v) =>
 .ite x5
  (.ret (.inr (.inr false)))
  (.ret (.inl (zt (i3+1)))))
  (.ret (.inr (.inl ())))
def Kp f4 s:=T.loop (fv f4) s
def Um(f:Form):T Bool :=
 T.bind (JI f (0:Int)) <|
 Sum.elim (fun _ =>
 T.bind (J9 f (0:Int)) <|
 Sum.elim (fun _ =>
 T.bind (Jw f (0:Int)) <|
 Sum.elim (fun _ =>
 T.bind (Kp f (0:Int)) <|
 Sum.elim (fun _ =>
 T.bind (nq f) fun r9 =>
 .ite r9
  (T.bind (sZ f) fun Nv =>
 .ret (decide ((Nv.length:Int)≤(16384:Int))))
  (.ret false))
  (fun x6 =>
 .ret x6))
  (fun x4 =>
 .ret x4))
  (fun x2 =>
 .ret x2))
  (fun x =>
 .ret x)
def k9(f1:Form):(Int×(List zf))→T ((Int×(List zf))⊕((List zf)))
 | (i,xs) =>
 .ite (decide (i<(f1.2.2.2.1.length:Int)))
  (.zd (zi i f1.2.2.2.1.length) <|
 .zd (xp xs.length xs.length (0:Nat) xs.length xs.length (1:Nat) (16:Nat)) <|
 .zd (zh (xs.length+(1:Nat)) (0:Nat) (xs.length+(1:Nat)) (List.length (xs++([(nth f1.2.2.2.1 i (zb q8)).1]:List zf)))) <|
 .zd ((xs.length+(1:Nat))=(List.length (xs++([(nth f1.2.2.2.1 i (zb q8)).1]:List zf)))) <|
 .ret (.inl ((zt (i+1)),(xs++([(nth f1.2.2.2.1 i (zb q8)).1]:List zf)))))
  (.zd (zh xs.length (0:Nat) xs.length xs.length) <|
 .zd (xs.length=xs.length) <|
 .ret (.inr xs))
def rS f1 s:=T.loop (k9 f1) s
def gu(f:Form):T (List zf) :=
 .zd (zh (0:Nat) (0:Nat) (0:Nat) (0:Nat)) <|
 .zd ((0:Nat)=(0:Nat)) <|
 T.bind (rS f ((0:Int),([]:List zf))) fun zy =>
 .zd (zy.length=zy.length) <|
 .ret (List.drop (0:Nat) (List.take ((0:Nat)+zy.length) zy))
def yx(f1:Form):(Int×(List zf))→T ((Int×(List zf))⊕((List zf)))
 | (i,xs) =>
 .ite (decide (i<(f1.1.length:Int)))
  (.zd (zi i f1.1.length) <|
 .zd (xp xs.length xs.length (0:Nat) xs.length xs.length (1:Nat) (16:Nat)) <|
 .zd (zh (xs.length+(1:Nat)) (0:Nat) (xs.length+(1:Nat)) (List.length (xs++([(nth f1.1 i (zb zV)).1]:List zf)))) <|
 .zd ((xs.length+(1:Nat))=(List.length (xs++([(nth f1.1 i (zb zV)).1]:List zf)))) <|
 .ret (.inl ((zt (i+1)),(xs++([(nth f1.1 i (zb zV)).1]:List zf)))))
  (.zd (zh xs.length (0:Nat) xs.length xs.length) <|
 .zd (xs.length=xs.length) <|
 .ret (.inr xs))
def Z9 f1 s:=T.loop (yx f1) s
def yr(f2:Form):(Int×(List zf))→T ((Int×(List zf))⊕((List zf)))
 | (i1,zR) =>
 .ite (decide (i1<(f2.2.1.length:Int)))
  (.zd (zi i1 f2.2.1.length) <|
 .zd (xp zR.length zR.length (0:Nat) zR.length zR.length (1:Nat) (16:Nat)) <|
 .zd (zh (zR.length+(1:Nat)) (0:Nat) (zR.length+(1:Nat)) (List.length (zR++([(nth f2.2.1 i1 (zb zX)).1]:List zf)))) <|
 .zd ((zR.length+(1:Nat))=(List.length (zR++([(nth f2.2.1 i1 (zb zX)).1]:List zf)))) <|
 .ret (.inl ((zt (i1+1)),(zR++([(nth f2.2.1 i1 (zb zX)).1]:List zf)))))
  (.zd (zh zR.length (0:Nat) zR.length zR.length) <|
 .zd (zR.length=zR.length) <|
 .ret (.inr zR))
def tW f2 s:=T.loop (yr f2) s
def yy(f3:Form):(Int×(List zf))→T ((Int×(List zf))⊕((List zf)))
 | (i2,va) =>
 .ite (decide (i2<(f3.2.2.1.length:Int)))
  (.zd (zi i2 f3.2.2.1.length) <|
 .zd (xp va.length va.length (0:Nat) va.length va.length (1:Nat) (16:Nat)) <|
 .zd (zh (va.length+(1:Nat)) (0:Nat) (va.length+(1:Nat)) (List.length (va++([(nth f3.2.2.1 i2 (zb qu)).1]:List zf)))) <|
 .zd ((va.length+(1:Nat))=(List.length (va++([(nth f3.2.2.1 i2 (zb qu)).1]:List zf)))) <|
 .ret (.inl ((zt (i2+1)),(va++([(nth f3.2.2.1 i2 (zb qu)).1]:List zf)))))
  (.zd (zh va.length (0:Nat) va.length va.length) <|
 .zd (va.length=va.length) <|
 .ret (.inr va))
def Z1 f3 s:=T.loop (yy f3) s
def yz(f4:Form):(Int×(List zf))→T ((Int×(List zf))⊕((List zf)))
 | (i3,xs6) =>
 .ite (decide (i3<(f4.2.2.2.2.1.length:Int)))
  (.zd (zi i3 f4.2.2.2.2.1.length) <|
 .zd (xp xs6.length xs6.length (0:Nat) xs6.length xs6.length (1:Nat) (16:Nat)) <|
 .zd (zh (xs6.length+(1:Nat)) (0:Nat) (xs6.length+(1:Nat)) (List.length (xs6++([(nth f4.2.2.2.2.1 i3 (zb zn)).1]:List zf)))) <|
 .zd ((xs6.length+(1:Nat))=(List.length (xs6++([(nth f4.2.2.2.2.1 i3 (zb zn)).1]:List zf)))) <|
 .ret (.inl ((zt (i3+1)),(xs6++([(nth f4.2.2.2.2.1 i3 (zb zn)).1]:List zf)))))
  (.zd (zh xs6.length (0:Nat) xs6.length xs6.length) <|
 .zd (xs6.length=xs6.length) <|
 .ret (.inr xs6))
def Z4 f4 s:=T.loop (yz f4) s
def yP(f5:Form):(Int×(List zf))→T ((Int×(List zf))⊕((List zf)))
 | (i4,dN) =>
 .ite (decide (i4<(f5.2.2.2.2.2.1.length:Int)))
  (.zd (zi i4 f5.2.2.2.2.2.1.length) <|
 .zd (xp dN.length dN.length (0:Nat) dN.length dN.length (1:Nat) (16:Nat)) <|
 .zd (zh (dN.length+(1:Nat)) (0:Nat) (dN.length+(1:Nat)) (List.length (dN++([(nth f5.2.2.2.2.2.1 i4 (zb zm)).1]:List zf)))) <|
 .zd ((dN.length+(1:Nat))=(List.length (dN++([(nth f5.2.2.2.2.2.1 i4 (zb zm)).1]:List zf)))) <|
 .ret (.inl ((zt (i4+1)),(dN++([(nth f5.2.2.2.2.2.1 i4 (zb zm)).1]:List zf)))))
  (.zd (zh dN.length (0:Nat) dN.length dN.length) <|
 .zd (dN.length=dN.length) <|
 .ret (.inr dN))
def Zp f5 s:=T.loop (yP f5) s
def nW(f:Form):T (List zf) :=
 .zd (zh (0:Nat) (0:Nat) (0:Nat) (0:Nat)) <|
 .zd ((0:Nat)=(0:Nat)) <|
 T.bind (Z9 f ((0:Int),([]:List zf))) fun zy =>
 .zd (zh zy.length (0:Nat) zy.length zy.length) <|
 .zd (zy.length=zy.length) <|
 T.bind (tW f ((0:Int),zy)) fun qH =>
 .zd (zh qH.length (0:Nat) qH.length qH.length) <|
 .zd (qH.length=qH.length) <|
 T.bind (Z1 f ((0:Int),qH)) fun jb =>
 T.bind (gu f) fun r =>
 .zd (xp jb.length jb.length (0:Nat) jb.length jb.length r.length (16:Nat)) <|
 .zd (zh (jb.length+r.length) (0:Nat) (jb.length+r.length) (jb++r).length) <|
 .zd ((jb.length+r.length)=(jb++r).length) <|
 T.bind (Z4 f ((0:Int),(jb++r))) fun vK =>
 .zd (zh vK.length (0:Nat) vK.length vK.length) <|
 .zd (vK.length=vK.length) <|
 T.bind (Zp f ((0:Int),vK)) fun rJ =>
 .zd (rJ.length=rJ.length) <|
 .ret (List.drop (0:Nat) (List.take ((0:Nat)+rJ.length) rJ))
def dm(l1:(List zf))(s1:zf):Int→T (Int⊕(Unit⊕Bool))
 | i =>
 .ite (decide (i<(l1.length:Int)))
  (.zd (zi i l1.length) <|
 .ite (zF (nth l1 i (zb .str)) s1)
  (.ret (.inr (.inr true)))
  (.ret (.inl (zt (i+1)))))
  (.ret (.inr (.inl ())))
def Vv l1 s1 s:=T.loop (dm l1 s1) s
def yN(l:(List zf))(s:zf):T Bool :=
 T.bind (Vv l s (0:Int)) <|
 Sum.elim (fun _ =>
 .ret false)
  (fun x =>
 .ret x)
def yo(l1:(List zf)):Int→T (Int⊕(Unit⊕zf))
 | i =>
 .ite (decide (i<(l1.length:Int)))
  (.zd (mM (0:Int) i l1.length) <|
 .zd (zi i l1.length) <|
 T.bind (yN (uq (e:=.str) (0:Int) i l1) (nth l1 i (zb .str))) fun r =>
 .ite r
  (.zd (zi i l1.length) <|
 .ret (.inr (.inr (nth l1 i (zb .str)))))
  (.ret (.inl (zt (i+1)))))
  (.ret (.inr (.inl ())))
def Zu l1 s:=T.loop (yo l1) s
def o5(l:(List zf)):T zf :=
 T.bind (Zu l (0:Int)) <|
 Sum.elim (fun _ =>
 .ret ([]:zf))
  (fun x =>
 .ret x)
def kc(f1:Form):(Int×(List zf))→T ((Int×(List zf))⊕((List zf)))
 | (i,xs) =>
 .ite (decide (i<(f1.1.length:Int)))
  (.zd (zi i f1.1.length) <|
 .zd (xp xs.length xs.length (0:Nat) xs.length xs.length (1:Nat) (16:Nat)) <|
 .zd (zh (xs.length+(1:Nat)) (0:Nat) (xs.length+(1:Nat)) (List.length (xs++([(nth f1.1 i (zb zV)).1]:List zf)))) <|
 .zd ((xs.length+(1:Nat))=(List.length (xs++([(nth f1.1 i (zb zV)).1]:List zf)))) <|
 .ret (.inl ((zt (i+1)),(xs++([(nth f1.1 i (zb zV)).1]:List zf)))))
  (.zd (zh xs.length (0:Nat) xs.length xs.length) <|
 .zd (xs.length=xs.length) <|
 .ret (.inr xs))
def sy f1 s:=T.loop (kc f1) s
def jI(f2:Form):(Int×(List zf))→T ((Int×(List zf))⊕((List zf)⊕(zf×(List zf))))
 | (i1,zR) =>
 .ite (decide (i1<(f2.2.2.1.length:Int)))
  (T.bind (.zd (zi i1 f2.2.2.1.length) <|
 .ite (!(zF (nth f2.2.2.1 i1 (zb qu)).2.1 ([]:zf)))
  (.zd (zi i1 f2.2.2.1.length) <|
 .zd (zR.length=zR.length) <|
 T.bind (yN (List.drop (0:Nat) (List.take ((0:Nat)+zR.length) zR)) (nth f2.2.2.1 i1 (zb qu)).2.1) fun r =>
 .zd (zh zR.length (0:Nat) zR.length zR.length) <|
 .zd (zR.length=zR.length) <|
 .ret ((!r),zR))
  (.zd (zh zR.length (0:Nat) zR.length zR.length) <|
 .zd (zR.length=zR.length) <|
 .ret (false,zR)):T ((Bool×(List zf)))) fun(x,qH) =>
 .ite x
  (.zd (zi i1 f2.2.2.1.length) <|
 .zd (qH.length=qH.length) <|
 .ret (.inr (.inr ((nth f2.2.2.1 i1 (zb qu)).2.1,qH))))
  (.zd (zh qH.length (0:Nat) qH.length qH.length) <|
 .zd (qH.length=qH.length) <|
 .ret (.inl ((zt (i1+1)),qH))))
  (.zd (zh zR.length (0:Nat) zR.length zR.length) <|
 .zd (zR.length=zR.length) <|
 .ret (.inr (.inl zR)))
def rQ f2 s:=T.loop (jI f2) s
def kH(f3:Form):(Int×(List zf))→T ((Int×(List zf))⊕((List zf)⊕(zf×(List zf))))
 | (i2,xs6) =>
 .ite (decide (i2<(f3.2.2.2.2.1.length:Int)))
  (T.bind (.zd (zi i2 f3.2.2.2.2.1.length) <|
 .ite (!(zF (nth f3.2.2.2.2.1 i2 (zb zn)).2.2.1 ([]:zf)))
  (.zd (zi i2 f3.2.2.2.2.1.length) <|
 .zd (xs6.length=xs6.length) <|
 T.bind (yN (List.drop (0:Nat) (List.take ((0:Nat)+xs6.length) xs6)) (nth f3.2.2.2.2.1 i2 (zb zn)).2.2.1) fun r1 =>
 .zd (zh xs6.length (0:Nat) xs6.length xs6.length) <|
 .zd (xs6.length=xs6.length) <|
 .ret ((!r1),xs6))
  (.zd (zh xs6.length (0:Nat) xs6.length xs6.length) <|
 .zd (xs6.length=xs6.length) <|
 .ret (false,xs6)):T ((Bool×(List zf)))) fun(x2,vK) =>
 .ite x2
  (.zd (zi i2 f3.2.2.2.2.1.length) <|
 .zd (vK.length=vK.length) <|
 .ret (.inr (.inr ((nth f3.2.2.2.2.1 i2 (zb zn)).2.2.1,vK))))
  (.zd (zh vK.length (0:Nat) vK.length vK.length) <|
 .zd (vK.length=vK.length) <|
 .ret (.inl ((zt (i2+1)),vK))))
  (.zd (xs6.length=xs6.length) <|
 .ret (.inr (.inl xs6)))
def rf f3 s:=T.loop (kH f3) s
def cX(f:Form):T zf :=
 .zd (zh (0:Nat) (0:Nat) (0:Nat) (0:Nat)) <|
 .zd ((0:Nat)=(0:Nat)) <|
 T.bind (sy f ((0:Int),([]:List zf))) fun zy =>
 .zd (zh zy.length (0:Nat) zy.length zy.length) <|
 .zd (zy.length=zy.length) <|
 T.bind (rQ f ((0:Int),zy)) <|
 Sum.elim (fun va =>
 .zd (zh va.length (0:Nat) va.length va.length) <|
 .zd (va.length=va.length) <|
 T.bind (rf f ((0:Int),va)) <|
 Sum.elim (fun dN =>
 .ret ([]:zf))
  (fun(x3,rJ) =>
 .ret x3))
  (fun(x1,jb) =>
 .ret x1)
def yM(f1:Form):(Int×(List AM.Expr))→T ((Int×(List AM.Expr))⊕((List AM.Expr)))
 | (i,xs) =>
 .ite (decide (i<(f1.2.2.2.2.2.1.length:Int)))
  (.zd (zi i f1.2.2.2.2.2.1.length) <|
 .zd (zi i f1.2.2.2.2.2.1.length) <|
 .zd (xp xs.length xs.length (0:Nat) xs.length xs.length (2:Nat) (104:Nat)) <|
 .zd (zh (xs.length+(2:Nat)) (0:Nat) (xs.length+(2:Nat)) (List.length (xs++([(nth f1.2.2.2.2.2.1 i (zb zm)).2.2.2.1,(nth f1.2.2.2.2.2.1 i (zb zm)).2.2.2.2.1]:List AM.Expr)))) <|
 .zd ((xs.length+(2:Nat))=(List.length (xs++([(nth f1.2.2.2.2.2.1 i (zb zm)).2.2.2.1,(nth f1.2.2.2.2.2.1 i (zb zm)).2.2.2.2.1]:List AM.Expr)))) <|
 .ret (.inl ((zt (i+1)),(xs++([(nth f1.2.2.2.2.2.1 i (zb zm)).2.2.2.1,(nth f1.2.2.2.2.2.1 i (zb zm)).2.2.2.2.1]:List AM.Expr)))))
  (.zd (zh xs.length (0:Nat) xs.length xs.length) <|
 .zd (xs.length=xs.length) <|
 .ret (.inr xs))
def tQ f1 s:=T.loop (yM f1) s
def yE(f2:Form):(Int×(List AM.Expr))→T ((Int×(List AM.Expr))⊕((List AM.Expr)))
 | (i1,zR) =>
 .ite (decide (i1<(f2.2.2.2.2.1.length:Int)))
  (.zd (zi i1 f2.2.2.2.2.1.length) <|
 .zd (zi i1 f2.2.2.2.2.1.length) <|
 .zd (xp zR.length zR.length (0:Nat) zR.length zR.length (2:Nat) (104:Nat)) <|
 .zd (zh (zR.length+(2:Nat)) (0:Nat) (zR.length+(2:Nat)) (List.length (zR++([(nth f2.2.2.2.2.1 i1 (zb zn)).2.2.2.1,(nth f2.2.2.2.2.1 i1 (zb zn)).2.2.2.2.1]:List AM.Expr)))) <|
 .zd ((zR.length+(2:Nat))=(List.length (zR++([(nth f2.2.2.2.2.1 i1 (zb zn)).2.2.2.1,(nth f2.2.2.2.2.1 i1 (zb zn)).2.2.2.2.1]:List AM.Expr)))) <|
 .ret (.inl ((zt (i1+1)),(zR++([(nth f2.2.2.2.2.1 i1 (zb zn)).2.2.2.1,(nth f2.2.2.2.2.1 i1 (zb zn)).2.2.2.2.1]:List AM.Expr)))))
  (.zd (zh zR.length (0:Nat) zR.length zR.length) <|
 .zd (zR.length=zR.length) <|
 .ret (.inr zR))
def Zq f2 s:=T.loop (yE f2) s
def fP(f:Form):T (List AM.Expr) :=
 .zd (zh (0:Nat) (0:Nat) (0:Nat) (0:Nat)) <|
 .zd ((0:Nat)=(0:Nat)) <|
 T.bind (tQ f ((0:Int),([]:List AM.Expr))) fun zy =>
 .zd (zh zy.length (0:Nat) zy.length zy.length) <|
 .zd (zy.length=zy.length) <|
 T.bind (Zq f ((0:Int),zy)) fun qH =>
 .zd (qH.length=qH.length) <|
 .ret (List.drop (0:Nat) (List.take ((0:Nat)+qH.length) qH))
def yi(xM:AM.Expr→T (List zf))(e2:AM.Expr)(i1:Int)(m1:(List zf)):(Int×(List zf))→T ((Int×(List zf))⊕((List zf)))
 | (k,zy) =>
 .ite (decide (k<(m1.length:Int)))
  (.zd (zi k m1.length) <|
 .zd (zy.length=zy.length) <|
 T.bind (yN (List.drop (0:Nat) (List.take ((0:Nat)+zy.length) zy)) (nth m1 k (zb .str))) fun r =>
 .ite (!r)
  (.zd (zi k m1.length) <|
 .zd (xp zy.length zy.length (0:Nat) zy.length zy.length (1:Nat) (16:Nat)) <|
 .zd (zh (zy.length+(1:Nat)) (0:Nat) (zy.length+(1:Nat)) (List.length (zy++([(nth m1 k (zb .str))]:List zf)))) <|
 .zd ((zy.length+(1:Nat))=(List.length (zy++([(nth m1 k (zb .str))]:List zf)))) <|
 .ret (.inl ((zt (k+1)),(zy++([(nth m1 k (zb .str))]:List zf)))))
  (.zd (zh zy.length (0:Nat) zy.length zy.length) <|
 .zd (zy.length=zy.length) <|
 .ret (.inl ((zt (k+1)),zy))))
  (.zd (zh zy.length (0:Nat) zy.length zy.length) <|
 .zd (zy.length=zy.length) <|
 .ret (.inr zy))
def Zd xM e2 i1 m1 s:=T.loop (yi xM e2 i1 m1) s
def yD(xM:AM.Expr→T (List zf))(e1:AM.Expr):(Int×(List zf))→T ((Int×(List zf))⊕((List zf)))
 | (i,xs) =>
 .ite (decide (i<((Expr.kids e1).length:Int)))
  (.zd (zi i (Expr.kids e1).length) <|
 T.bind (xM (nth (Expr.kids e1) i (zb .expr))) fun m =>
 .zd (zh xs.length (0:Nat) xs.length xs.length) <|
 .zd (xs.length=xs.length) <|
 T.bind (Zd xM e1 i m ((0:Int),xs)) fun zR =>
 .zd (zh zR.length (0:Nat) zR.length zR.length) <|
 .zd (zR.length=zR.length) <|
 .ret (.inl ((zt (i+1)),zR)))
  (.zd (zh xs.length (0:Nat) xs.length xs.length) <|
 .zd (xs.length=xs.length) <|
 .ret (.inr xs))
def ym xM e1 s:=T.loop (yD xM e1) s
def eT(xM:AM.Expr→T (List zf))(e:AM.Expr):T (List zf) :=
 .ite ((Expr.kind e)==2)
  (.zd (((1:Nat)*(16:Nat))≤(140737488355328:Nat)) <|
 .zd (zh (1:Nat) (0:Nat) (1:Nat) (1:Nat)) <|
 .zd ((1:Nat)=(1:Nat)) <|
 T.bind (ym xM e ((0:Int),([(Expr.name e)]:List zf))) fun qH =>
 .zd (qH.length=qH.length) <|
 .ret (List.drop (0:Nat) (List.take ((0:Nat)+qH.length) qH)))
  (.zd (zh (0:Nat) (0:Nat) (0:Nat) (0:Nat)) <|
 .zd ((0:Nat)=(0:Nat)) <|
 T.bind (ym xM e ((0:Int),([]:List zf))) fun va =>
 .zd (va.length=va.length) <|
 .ret (List.drop (0:Nat) (List.take ((0:Nat)+va.length) va)))
def fB(e:AM.Expr):T (List zf):=T.fix (fun F x=>eT (fun y0=>F (y0)) x) e
def j9(l2:(List AM.Expr))(E0:(List zf))(i1:Int)(n1:(List zf)):Int→T (Int⊕(Unit⊕zf))
 | k =>
 .ite (decide (k<(n1.length:Int)))
  (.zd (zi k n1.length) <|
 T.bind (yN E0 (nth n1 k (zb .str))) fun r =>
 .ite (!r)
  (.zd (zi k n1.length) <|
 .ret (.inr (.inr (nth n1 k (zb .str)))))
  (.ret (.inl (zt (k+1)))))
  (.ret (.inr (.inl ())))
def pw l2 E0 i1 n1 s:=T.loop (j9 l2 E0 i1 n1) s
def jg(l1:(List AM.Expr))(DS:(List zf)):Int→T (Int⊕(Unit⊕zf))
 | i =>
 .ite (decide (i<(l1.length:Int)))
  (.zd (zi i l1.length) <|
 T.bind (fB (nth l1 i (zb .expr))) fun n =>
 T.bind (pw l1 DS i n (0:Int)) <|
 Sum.elim (fun _ =>
 .ret (.inl (zt (i+1))))
  (fun x =>
 .ret (.inr (.inr x))))
  (.ret (.inr (.inl ())))
def pz l1 DS s:=T.loop (jg l1 DS) s
def bO(l:(List AM.Expr))(known:(List zf)):T zf :=
 T.bind (pz l known (0:Int)) <|
 Sum.elim (fun _ =>
 .ret ([]:zf))
  (fun x1 =>
 .ret x1)
def cU(kV:(List zf))(l1:(List zf)):Int→T (Int⊕(Unit⊕Bool))
 | i =>
 .ite (decide (i<(l1.length:Int)))
  (.zd (zi i l1.length) <|
 T.bind (yN kV (nth l1 i (zb .str))) fun r =>
 .ite r
  (.ret (.inr (.inr true)))
  (.ret (.inl (zt (i+1)))))
  (.ret (.inr (.inl ())))
def Vm kV l1 s:=T.loop (cU kV l1) s
def gV(e:AM.Expr)(fields:(List zf)):T Bool :=
 T.bind (fB e) fun l =>
 T.bind (Vm fields l (0:Int)) <|
 Sum.elim (fun _ =>
 .ret false)
  (fun x =>
 .ret x)
def kB(uF:AM.Expr→(List zf)→T Bool)(kV:(List zf))(e1:AM.Expr):Int→T (Int⊕(Unit⊕Bool))
 | i =>
 .ite (decide (i<((Expr.kids e1).length:Int)))
  (.zd (zi i (Expr.kids e1).length) <|
 T.bind (uF (nth (Expr.kids e1) i (zb .expr)) kV) fun r =>
 .ite (!r)
  (.ret (.inr (.inr false)))
  (.ret (.inl (zt (i+1)))))
  (.ret (.inr (.inl ())))
def sG uF kV e1 s:=T.loop (kB uF kV e1) s
def cJ(uF:AM.Expr→(List zf)→T Bool)(e:AM.Expr)(fields:(List zf)):T Bool :=
 T.bind (sG uF fields e (0:Int)) <|
 Sum.elim (fun _ =>
 .ite (((Expr.kind e)==5)&&(((Expr.kids e).length:Int)==(2:Int)))
  (.zd (zi (0:Int) (Expr.kids e).length) <|
 T.bind (gV (nth (Expr.kids e) (0:Int) (zb .expr)) fields) fun r1 =>
 .ite (!r1)
  (.ret true)
  (.zd (zi (1:Int) (Expr.kids e).length) <|
 T.bind (gV (nth (Expr.kids e) (1:Int) (zb .expr)) fields) fun r2 =>
 .ret (!r2)))
  (.ite (((Expr.kind e)==6)&&(((Expr.kids e).length:Int)==(2:Int)))
  (.zd (zi (1:Int) (Expr.kids e).length) <|
 T.bind (gV (nth (Expr.kids e) (1:Int) (zb .expr)) fields) fun r3 =>
 .ret (!r3))
  (.ret true)))
  (fun x =>
 .ret x)
def dB(e:AM.Expr)(fields:(List zf)):T Bool:=T.fix (fun F x=>cJ (fun y0 y1=>F (y0,y1)) x.1 x.2) (e,fields)
def k8(f1:Form)(kV:(List zf)):(Int×(List zf))→T ((Int×(List zf))⊕((List zf)))
 | (i,xs) =>
 .ite (decide (i<(f1.2.1.length:Int)))
  (.zd (zi i f1.2.1.length) <|
 .zd (xp xs.length xs.length (0:Nat) xs.length xs.length (1:Nat) (16:Nat)) <|
 .zd (zh (xs.length+(1:Nat)) (0:Nat) (xs.length+(1:Nat)) (List.length (xs++([(nth f1.2.1 i (zb zX)).1]:List zf)))) <|
 .zd ((xs.length+(1:Nat))=(List.length (xs++([(nth f1.2.1 i (zb zX)).1]:List zf)))) <|
 .ret (.inl ((zt (i+1)),(xs++([(nth f1.2.1 i (zb zX)).1]:List zf)))))
  (.zd (zh xs.length (0:Nat) xs.length xs.length) <|
 .zd (xs.length=xs.length) <|
 .ret (.inr xs))
def fM f1 kV s:=T.loop (k8 f1 kV) s
def jT(f2:Form)(ot:(List zf)):Int→T (Int⊕(Unit⊕(Int×zf)))
 | i1 =>
 .ite (decide (i1<(f2.2.2.2.2.1.length:Int)))
  (T.bind (.zd (zi i1 f2.2.2.2.2.1.length) <|
 T.bind (dB (nth f2.2.2.2.2.1 i1 (zb zn)).2.2.2.1 ot) fun r3 =>
 .ite (!r3)
  (.ret true)
  (.zd (zi i1 f2.2.2.2.2.1.length) <|
 T.bind (dB (nth f2.2.2.2.2.1 i1 (zb zn)).2.2.2.2.1 ot) fun r4 =>
 .ret (!r4)):T (Bool)) fun x =>
 .ite x
  (.zd (zi i1 f2.2.2.2.2.1.length) <|
 .ret (.inr (.inr ((6:Int),(nth f2.2.2.2.2.1 i1 (zb zn)).1))))
  (.ret (.inl (zt (i1+1)))))
  (.ret (.inr (.inl ())))
def rU f2 ot s:=T.loop (jT f2 ot) s
def lN(f:Form):T (Int×zf) :=
 T.bind (Um f) fun r =>
 .ite (!r)
  (.ret ((2:Int),([]:zf)))
  (.ite ((decide ((64:Int)<(f.2.2.2.1.length:Int)))||(decide ((64:Int)<(f.2.2.2.2.1.length:Int))))
  (.ret ((3:Int),([]:zf)))
  (T.bind (nW f) fun r1 =>
 T.bind (o5 r1) fun s =>
 T.bind (.ite (zF s ([]:zf))
  (T.bind (cX f) fun s1 =>
 .ret s1)
  (.ret s):T (zf)) fun s2 =>
 T.bind (gu f) fun fields =>
 T.bind (.ite (zF s2 ([]:zf))
  (.zd (xp (0:Nat) (0:Nat) (0:Nat) (0:Nat) (0:Nat) fields.length (16:Nat)) <|
 .zd (zh ((0:Nat)+fields.length) (0:Nat) ((0:Nat)+fields.length) fields.length) <|
 .zd (((0:Nat)+fields.length)=fields.length) <|
 T.bind (fM f fields ((0:Int),fields)) fun zy =>
 T.bind (fP f) fun r2 =>
 .zd (zy.length=zy.length) <|
 T.bind (bO r2 (List.drop (0:Nat) (List.take ((0:Nat)+zy.length) zy))) fun s3 =>
 .ret s3)
  (.ret s2):T (zf)) fun s4 =>
 .ite (!(zF s4 ([]:zf)))
  (.ret ((5:Int),s4))
  (T.bind (rU f fields (0:Int)) <|
 Sum.elim (fun _ =>
 .ret ((0:Int),([]:zf)))
  (fun(x1,x2) =>
 .ret (x1,x2)))))
def di(f1:Form):(Int×((List Rat)×Unit)×(List Rat)×((List zf)×Unit)×(List zf)×(List zf)×(List zf))→T ((Int×((List Rat)×Unit)×(List Rat)×((List zf)×Unit)×(List zf)×(List zf)×(List zf))⊕((((List Rat)×Unit)×(List Rat)×((List zf)×Unit)×(List zf)×(List zf)×(List zf))))
 | (i,v,xs,v1,zy,zR,qH) =>
 .ite (decide (i<(f1.2.1.length:Int)))
  (.zd (zi i f1.2.1.length) <|
 .zd (xp qH.length qH.length (0:Nat) qH.length qH.length (1:Nat) (16:Nat)) <|
 .zd (zh zy.length (0:Nat) zy.length zy.length) <|
 .zd (zh zR.length (0:Nat) zR.length zR.length) <|
 .zd (xs.length=xs.length) <|
 .zd (zh (qH.length+(1:Nat)) (0:Nat) (qH.length+(1:Nat)) (List.length (qH++([(nth f1.2.1 i (zb zX)).1]:List zf)))) <|
 .zd (zh xs.length (0:Nat) xs.length xs.length) <|
 .zd (zy.length=zy.length) <|
 .zd (zR.length=zR.length) <|
 .zd ((qH.length+(1:Nat))=(List.length (qH++([(nth f1.2.1 i (zb zX)).1]:List zf)))) <|
 .ret (.inl ((zt (i+1)),((v.1,()),(xs,((v1.1,()),(zy,(zR,(qH++([(nth f1.2.1 i (zb zX)).1]:List zf))))))))))
  (.zd (zh zy.length (0:Nat) zy.length zy.length) <|
 .zd (zh zR.length (0:Nat) zR.length zR.length) <|
 .zd (xs.length=xs.length) <|
 .zd (zh qH.length (0:Nat) qH.length qH.length) <|
 .zd (zh xs.length (0:Nat) xs.length xs.length) <|
 .zd (zy.length=zy.length) <|
 .zd (zR.length=zR.length) <|
 .zd (qH.length=qH.length) <|
 .ret (.inr ((v.1,()),(xs,((v1.1,()),(zy,(zR,qH)))))))
def Vn f1 s:=T.loop (di f1) s
def XK(f:Form)(params:(List Rat)):T zJ :=
 T.bind (gu f) fun r =>
 .zd (xp (0:Nat) (0:Nat) (0:Nat) (0:Nat) (0:Nat) params.length (56:Nat)) <|
 .zd (zh (0:Nat) (0:Nat) (0:Nat) (0:Nat)) <|
 .zd (zh (0:Nat) (0:Nat) (0:Nat) (0:Nat)) <|
 .zd (((0:Nat)+params.length)=params.length) <|
 .zd (zh (0:Nat) (0:Nat) (0:Nat) (0:Nat)) <|
 .zd (zh ((0:Nat)+params.length) (0:Nat) ((0:Nat)+params.length) params.length) <|
 .zd ((0:Nat)=(0:Nat)) <|
 .zd ((0:Nat)=(0:Nat)) <|
 .zd ((0:Nat)=(0:Nat)) <|
 T.bind (Vn f ((0:Int),((([]:List Rat),()),(params,((r,()),(([]:List zf),(([]:List zf),([]:List zf)))))))) fun(v2,va,v3,jb,xs6,vK) =>
 .zd (vK.length=vK.length) <|
 .zd (va.length=va.length) <|
 .ret (v3.1,((List.drop (0:Nat) (List.take ((0:Nat)+vK.length) vK)),((List.drop (0:Nat) (List.take ((0:Nat)+va.length) va)),())))
def iD(No:(List Bool))(OZ:zf)(f1:Form):Int→T (Int⊕(Unit⊕Bool))
 | i =>
 .ite (decide (i<(f1.1.length:Int)))
  (.zd (zi i f1.1.length) <|
 .ite (zF (nth f1.1 i (zb zV)).1 OZ)
  (.zd (((decide (i<(No.length:Int)))=true)→(zi i No.length)) <|
 .ret (.inr (.inr ((decide (i<(No.length:Int)))&&(nth No i (zb .bool))))))
  (.ret (.inl (zt (i+1)))))
  (.ret (.inr (.inl ())))
def ZY No OZ f1 s:=T.loop (iD No OZ f1) s
def Un(f:Form)(on:(List Bool))(when:zf):T Bool :=
 T.bind (ZY on when f (0:Int)) <|
 Sum.elim (fun _ =>
 .ret (zF when ([]:zf)))
  (fun x =>
 .ret x)
def cz(neg:Bool)(n:(List Int))(d:(List Int)):T Rat :=
 T.bind (xc (neg,(n,(d,())))) fun r =>
 .ret r
def wa(n:Int):T Rat :=
 T.bind (nT (bif (decide (n<(0:Int)))then(zw ((0:Int)-(zw n)))else(zw n))) fun r =>
 T.bind (cz (decide (n<(0:Int))) r ([(1:Int)]:List Int)) fun r1 =>
 .ret r1
def bE(s1:zf)(v1:zJ):(Int×wC)→T ((Int×wC)⊕(wC⊕(Int×wC)))
 | (i,v2) =>
 .ite (decide (i<(v1.1.length:Int)))
  (.zd (zi i v1.1.length) <|
 .ite (zF (nth v1.1 i (zb .str)) s1)
  (T.bind (wa (1:Int)) fun r =>
 T.bind (wa (0:Int)) fun r1 =>
 .ret (.inr (.inr ((0:Int),((0:Int),(([(i,((r.1,(r.2.1,(r.2.2.1,()))),()))]:List Term),((r1.1,(r1.2.1,(r1.2.2.1,()))),())))))))
  (.ret (.inl ((zt (i+1)),v2))))
  (.ret (.inr (.inl v2)))
def fa s1 v1 s:=T.loop (bE s1 v1) s
def bP(s2:zf)(v5:zJ):(Int×wC)→T ((Int×wC)⊕(wC⊕(Int×wC)))
 | (i1,v6) =>
 .ite (decide (i1<(v5.2.1.length:Int)))
  (.zd (zi i1 v5.2.1.length) <|
 .ite ((zF (nth v5.2.1 i1 (zb .str)) s2)&&(decide (i1<(v5.2.2.1.length:Int))))
  (.zd (zi i1 v5.2.2.1.length) <|
 T.bind (xc (nth v5.2.2.1 i1 (zb zI))) fun r2 =>
 .ret (.inr (.inr ((0:Int),((0:Int),(([]:List Term),((r2.1,(r2.2.1,(r2.2.2.1,()))),())))))))
  (.zd (zi i1 v5.2.1.length) <|
 .ite (zF (nth v5.2.1 i1 (zb .str)) s2)
  (T.bind (wa (0:Int)) fun r3 =>
 .ret (.inr (.inr ((0:Int),((0:Int),(([]:List Term),((r3.1,(r3.2.1,(r3.2.2.1,()))),())))))))
  (.ret (.inl ((zt (i1+1)),v6)))))
  (.ret (.inr (.inl v6)))
def nM s2 v5 s:=T.loop (bP s2 v5) s
def tv(s:zf)(v:zJ):T (wC×Int) :=
 T.bind (fa s v ((0:Int),((0:Int),(([]:List Term),((false,(([]:List Int),(([]:List Int),()))),()))))) <|
 Sum.elim (fun v3 =>
 T.bind (nM s v ((0:Int),v3)) <|
 Sum.elim (fun v7 =>
 .ret (((0:Int),(([]:List Term),((false,(([]:List Int),(([]:List Int),()))),()))),(5:Int)))
  (fun(x1,v8) =>
 .ret (v8,x1)))
  (fun(x,v4) =>
 .ret (v4,x))
def dy(a:Rat)(b:Rat):T Rat :=
 T.bind (xc a) fun r =>
 T.bind (xc b) fun r1 =>
 T.bind (uC r.2.1 r1.2.1) fun r2 =>
 T.bind (uC r.2.2.1 r1.2.2.1) fun r3 =>
 T.bind (cz (!(r.1==r1.1)) r2 r3) fun r4 =>
 .ret r4
def mG(a:Rat):T Bool :=
 T.bind (xc a) fun r =>
 .ret ((r.2.1.length:Int)==(0:Int))
def vD(v:Int)(c:Rat)(l:(List Term)):T (List Term) :=
 T.bind (mG c) fun r =>
 .ite r
  (.zd (zh l.length (0:Nat) l.length l.length) <|
 .zd (l.length=l.length) <|
 .ret l)
  (T.bind (xc c) fun r1 =>
 .zd (xp l.length l.length (0:Nat) l.length l.length (1:Nat) (64:Nat)) <|
 .zd (zh (l.length+(1:Nat)) (0:Nat) (l.length+(1:Nat)) (List.length (l++([(v,((r1.1,(r1.2.1,(r1.2.2.1,()))),()))]:List Term)))) <|
 .zd ((l.length+(1:Nat))=(List.length (l++([(v,((r1.1,(r1.2.1,(r1.2.2.1,()))),()))]:List Term)))) <|
 .ret (l++([(v,((r1.1,(r1.2.1,(r1.2.2.1,()))),()))]:List Term)))
def yj(a1:wC)(wW:Rat):(Int×(Int×Bool×(List Int)×(List Int)×Unit)×(Int×Bool×(List Int)×(List Int)×Unit)×(List Term)×(List Term))→T ((Int×(Int×Bool×(List Int)×(List Int)×Unit)×(Int×Bool×(List Int)×(List Int)×Unit)×(List Term)×(List Term))⊕(((Int×Bool×(List Int)×(List Int)×Unit)×(Int×Bool×(List Int)×(List Int)×Unit)×(List Term)×(List Term))))
 | (i,v,v1,xs,zy) =>
 .ite (decide (i<(a1.2.1.length:Int)))
  (.zd (zi i a1.2.1.length) <|
 .zd (zi i a1.2.1.length) <|
 T.bind (dy (nth a1.2.1 i (zb zq)).2.1 wW) fun r1 =>
 .zd (zh zy.length (0:Nat) zy.length zy.length) <|
 .zd (zy.length=zy.length) <|
 T.bind (vD (nth a1.2.1 i (zb zq)).1 r1 zy) fun zR =>
 .zd (zh xs.length (0:Nat) xs.length xs.length) <|
 .zd (zh zR.length (0:Nat) zR.length zR.length) <|
 .zd (xs.length=xs.length) <|
 .zd (zR.length=zR.length) <|
 .ret (.inl ((zt (i+1)),((v.1,(v.2.1,(v.2.2.1,(v.2.2.2.1,())))),((v1.1,(v1.2.1,(v1.2.2.1,(v1.2.2.2.1,())))),(xs,zR))))))
  (.zd (zh xs.length (0:Nat) xs.length xs.length) <|
 .zd (zh zy.length (0:Nat) zy.length zy.length) <|
 .zd (xs.length=xs.length) <|
 .zd (zy.length=zy.length) <|
 .ret (.inr ((v.1,(v.2.1,(v.2.2.1,(v.2.2.2.1,())))),((v1.1,(v1.2.1,(v1.2.2.1,(v1.2.2.2.1,())))),(xs,zy)))))
def lT a1 wW s:=T.loop (yj a1 wW) s
def wZ(a:wC)(vd:Rat):T wC :=
 T.bind (dy a.2.2.1 vd) fun r =>
 .zd (zh (0:Nat) (0:Nat) (0:Nat) (0:Nat)) <|
 .zd (zh (0:Nat) (0:Nat) (0:Nat) (0:Nat)) <|
 .zd ((0:Nat)=(0:Nat)) <|
 .zd ((0:Nat)=(0:Nat)) <|
 T.bind (lT a vd ((0:Int),(((0:Int),(false,(([]:List Int),(([]:List Int),())))),((a.1,(r.1,(r.2.1,(r.2.2.1,())))),(([]:List Term),([]:List Term)))))) fun(v2,v3,qH,va) =>
 .zd (va.length=va.length) <|
 .ret (v3.1,((List.drop (0:Nat) (List.take ((0:Nat)+va.length) va)),((v3.2.1,(v3.2.2.1,(v3.2.2.2.1,()))),())))
def dx(a:Rat)(b:Rat):T Rat :=
 T.bind (xc a) fun r =>
 T.bind (xc b) fun r1 =>
 T.bind (uC r.2.1 r1.2.2.1) fun p =>
 T.bind (uC r1.2.1 r.2.2.1) fun q =>
 T.bind (uC r.2.2.1 r1.2.2.1) fun d =>
 .ite (r.1==r1.1)
  (T.bind (mw p q) fun r2 =>
 T.bind (cz r.1 r2 d) fun r3 =>
 .ret r3)
  (T.bind (iF p q) fun r4 =>
 .ite (decide ((0:Int)≤r4))
  (T.bind (fH p q) fun(n,r5) =>
 T.bind (cz r.1 n d) fun r6 =>
 .ret r6)
  (T.bind (fH q p) fun(n1,r7) =>
 T.bind (cz r1.1 n1 d) fun r8 =>
 .ret r8))
def uU(a1:wC)(b1:wC):(Int×Int×(Int×Bool×(List Int)×(List Int)×Unit)×(Int×Bool×(List Int)×(List Int)×Unit)×(List Term)×(List Term))→T ((Int×Int×(Int×Bool×(List Int)×(List Int)×Unit)×(Int×Bool×(List Int)×(List Int)×Unit)×(List Term)×(List Term))⊕(((Int×Bool×(List Int)×(List Int)×Unit)×(Int×Bool×(List Int)×(List Int)×Unit)×(List Term)×(List Term))))
 | (i,k,v,v1,xs,zy) =>
 .ite ((decide (i<(a1.2.1.length:Int)))||(decide (k<(b1.2.1.length:Int))))
  (.zd (((k==(b1.2.1.length:Int))=false)→(((decide (i<(a1.2.1.length:Int)))=true)→((zi i a1.2.1.length)∧(zi k b1.2.1.length)))) <|
 .ite ((k==(b1.2.1.length:Int))||((decide (i<(a1.2.1.length:Int)))&&(decide ((nth a1.2.1 i (zb zq)).1<(nth b1.2.1 k (zb zq)).1))))
  (.zd (zi i a1.2.1.length) <|
 .zd (zi i a1.2.1.length) <|
 .zd (zh zy.length (0:Nat) zy.length zy.length) <|
 .zd (zy.length=zy.length) <|
 T.bind (vD (nth a1.2.1 i (zb zq)).1 (nth a1.2.1 i (zb zq)).2.1 zy) fun zR =>
 .zd (zh xs.length (0:Nat) xs.length xs.length) <|
 .zd (zh zR.length (0:Nat) zR.length zR.length) <|
 .zd (xs.length=xs.length) <|
 .zd (zR.length=zR.length) <|
 .ret (.inl ((zt (i+1)),(k,((v.1,(v.2.1,(v.2.2.1,(v.2.2.2.1,())))),((v1.1,(v1.2.1,(v1.2.2.1,(v1.2.2.2.1,())))),(xs,zR)))))))
  (.zd (((i==(a1.2.1.length:Int))=false)→((zi k b1.2.1.length)∧(zi i a1.2.1.length))) <|
 .ite ((i==(a1.2.1.length:Int))||(decide ((nth b1.2.1 k (zb zq)).1<(nth a1.2.1 i (zb zq)).1)))
  (.zd (zi k b1.2.1.length) <|
 .zd (zi k b1.2.1.length) <|
 .zd (zh zy.length (0:Nat) zy.length zy.length) <|
 .zd (zy.length=zy.length) <|
 T.bind (vD (nth b1.2.1 k (zb zq)).1 (nth b1.2.1 k (zb zq)).2.1 zy) fun qH =>
 .zd (zh xs.length (0:Nat) xs.length xs.length) <|
 .zd (zh qH.length (0:Nat) qH.length qH.length) <|
 .zd (xs.length=xs.length) <|
 .zd (qH.length=qH.length) <|
 .ret (.inl (i,((zt (k+1)),((v.1,(v.2.1,(v.2.2.1,(v.2.2.2.1,())))),((v1.1,(v1.2.1,(v1.2.2.1,(v1.2.2.2.1,())))),(xs,qH)))))))
  (.zd (zi i a1.2.1.length) <|
 .zd (zi i a1.2.1.length) <|
 .zd (zi k b1.2.1.length) <|
 T.bind (dx (nth a1.2.1 i (zb zq)).2.1 (nth b1.2.1 k (zb zq)).2.1) fun r1 =>
 .zd (zh zy.length (0:Nat) zy.length zy.length) <|
 .zd (zy.length=zy.length) <|
 T.bind (vD (nth a1.2.1 i (zb zq)).1 r1 zy) fun va =>
 .zd (zh xs.length (0:Nat) xs.length xs.length) <|
 .zd (zh va.length (0:Nat) va.length va.length) <|
 .zd (xs.length=xs.length) <|
 .zd (va.length=va.length) <|
 .ret (.inl ((zt (i+1)),((zt (k+1)),((v.1,(v.2.1,(v.2.2.1,(v.2.2.2.1,())))),((v1.1,(v1.2.1,(v1.2.2.1,(v1.2.2.2.1,())))),(xs,va)))))))))
  (.zd (zh xs.length (0:Nat) xs.length xs.length) <|
 .zd (zh zy.length (0:Nat) zy.length zy.length) <|
 .zd (xs.length=xs.length) <|
 .zd (zy.length=zy.length) <|
 .ret (.inr ((v.1,(v.2.1,(v.2.2.1,(v.2.2.2.1,())))),((v1.1,(v1.2.1,(v1.2.2.1,(v1.2.2.2.1,())))),(xs,zy)))))
def gz a1 b1 s:=T.loop (uU a1 b1) s
def dC(a:wC)(b:wC):T wC :=
 T.bind (dx a.2.2.1 b.2.2.1) fun r =>
 .zd (zh (0:Nat) (0:Nat) (0:Nat) (0:Nat)) <|
 .zd (zh (0:Nat) (0:Nat) (0:Nat) (0:Nat)) <|
 .zd ((0:Nat)=(0:Nat)) <|
 .zd ((0:Nat)=(0:Nat)) <|
 T.bind (gz a b ((0:Int),((0:Int),(((0:Int),(false,(([]:List Int),(([]:List Int),())))),((a.1,(r.1,(r.2.1,(r.2.2.1,())))),(([]:List Term),([]:List Term))))))) fun(v2,v3,jb,xs6) =>
 .zd (xs6.length=xs6.length) <|
 .ret (v3.1,((List.drop (0:Nat) (List.take ((0:Nat)+xs6.length) xs6)),((v3.2.1,(v3.2.2.1,(v3.2.2.2.1,()))),())))
def sJ(a:wC)(b:wC):T (wC×Int) :=
 .ite ((decide ((0:Int)<(a.2.1.length:Int)))&&(decide ((0:Int)<(b.2.1.length:Int))))
  (.ret (((0:Int),(([]:List Term),((false,(([]:List Int),(([]:List Int),()))),()))),(6:Int)))
  (.ite (decide ((0:Int)<(a.2.1.length:Int)))
  (T.bind (wZ a b.2.2.1) fun r =>
 .ret (r,(0:Int)))
  (T.bind (wZ b a.2.2.1) fun r1 =>
 .ret (r1,(0:Int))))
def iI(a:Rat)(b:Rat):T (Rat×Bool) :=
 T.bind (xc a) fun r =>
 T.bind (xc b) fun r1 =>
 .ite ((r1.2.1.length:Int)==(0:Int))
  (T.bind (xc (false,(([]:List Int),(([]:List Int),())))) fun r2 =>
 .ret (r2,false))
  (T.bind (uC r.2.1 r1.2.2.1) fun r3 =>
 T.bind (uC r.2.2.1 r1.2.1) fun r4 =>
 T.bind (cz (!(r.1==r1.1)) r3 r4) fun r5 =>
 .ret (r5,true))
def pN(a:wC)(b:wC):T (wC×Int) :=
 .ite (decide ((0:Int)<(b.2.1.length:Int)))
  (.ret (((0:Int),(([]:List Term),((false,(([]:List Int),(([]:List Int),()))),()))),(6:Int)))
  (T.bind (wa (1:Int)) fun r =>
 T.bind (iI r b.2.2.1) fun(r1,ok) =>
 .ite (!ok)
  (.ret (((0:Int),(([]:List Term),((false,(([]:List Int),(([]:List Int),()))),()))),(7:Int)))
  (T.bind (wZ a r1) fun r2 =>
 .ret (r2,(0:Int))))
def tp(XS:AM.Expr→zJ→T (wC×Int))(e:AM.Expr)(v:zJ):T (wC×Int) :=
 .ite ((Expr.kind e)==1)
  (T.bind (xc (Expr.num e)) fun r =>
 .ret (((0:Int),(([]:List Term),((r.1,(r.2.1,(r.2.2.1,()))),()))),(0:Int)))
  (.ite ((Expr.kind e)==2)
  (T.bind (tv (Expr.name e) v) fun(r1,r2) =>
 .ret (r1,r2))
  (.zd (zi (0:Int) (Expr.kids e).length) <|
 T.bind (XS (nth (Expr.kids e) (0:Int) (zb .expr)) v) fun(r3,x) =>
 .ite (x != 0)
  (.ret (((0:Int),(([]:List Term),((false,(([]:List Int),(([]:List Int),()))),()))),x))
  (.ite ((Expr.kind e)==7)
  (T.bind (wa (-1:Int)) fun r4 =>
 T.bind (wZ r3 r4) fun r5 =>
 .ret (r5,(0:Int)))
  (.zd (zi (1:Int) (Expr.kids e).length) <|
 T.bind (XS (nth (Expr.kids e) (1:Int) (zb .expr)) v) fun(r6,x1) =>
 .ite (x1 != 0)
  (.ret (((0:Int),(([]:List Term),((false,(([]:List Int),(([]:List Int),()))),()))),x1))
  (.ite ((Expr.kind e)==3)
  (T.bind (dC r3 r6) fun r7 =>
 .ret (r7,(0:Int)))
  (.ite ((Expr.kind e)==4)
  (T.bind (wa (-1:Int)) fun r8 =>
 T.bind (wZ r6 r8) fun r9 =>
 T.bind (dC r3 r9) fun Nv =>
 .ret (Nv,(0:Int)))
  (.ite ((Expr.kind e)==5)
  (T.bind (sJ r3 r6) fun(r11,r12) =>
 .ret (r11,r12))
  (T.bind (pN r3 r6) fun(r13,r14) =>
 .ret (r13,r14)))))))))
def Uu(e:AM.Expr)(v:zJ):T (wC×Int):=T.fix (fun F x=>tp (fun y0 y1=>F (y0,y1)) x.1 x.2) (e,v)
def QM(e:AM.Expr)(v:zJ):T (wC×Int) :=
 T.bind (yU e) fun r =>
 .ite (!r)
  (.ret (((0:Int),(([]:List Term),((false,(([]:List Int),(([]:List Int),()))),()))),(5:Int)))
  (T.bind (Uu e v) fun(r1,r2) =>
 .ret (r1,r2))
def cF(r:uT)(v:zJ):T (wC×Int) :=
 T.bind (QM r.2.2.2.1 v) fun(r1,e) =>
 .ite (e != 0)
  (.ret (((0:Int),(([]:List Term),((false,(([]:List Int),(([]:List Int),()))),()))),e))
  (T.bind (QM r.2.2.2.2.1 v) fun(r2,e1) =>
 .ite (e1 != 0)
  (.ret (((0:Int),(([]:List Term),((false,(([]:List Int),(([]:List Int),()))),()))),e1))
  (T.bind (wa (-1:Int)) fun r3 =>
 T.bind (wZ r2 r3) fun r4 =>
 T.bind (dC r1 r4) fun r5 =>
 .ret ((r.2.1,(r5.2.1,((r5.2.2.1.1,(r5.2.2.1.2.1,(r5.2.2.1.2.2.1,()))),()))),(0:Int))))
def yI(c1:wC):Int→T (Int⊕(Unit⊕Bool))
 | i =>
 .ite (decide (i<(c1.2.1.length:Int)))
  (.zd (zi i c1.2.1.length) <|
 T.bind (ki (nth c1.2.1 i (zb zq)).2.1) fun r =>
 .ite r
  (.ret (.inr (.inr true)))
  (.ret (.inl (zt (i+1)))))
  (.ret (.inr (.inl ())))
def mg c1 s:=T.loop (yI c1) s
def oM(c:wC):T Bool :=
 T.bind (mg c (0:Int)) <|
 Sum.elim (fun _ =>
 T.bind (ki c.2.2.1) fun r1 =>
 .ret r1)
  (fun x =>
 .ret x)
def bh(params1:(List Rat))(No:(List Bool))(f1:Form):Int→T (Int⊕(Unit⊕(zf×Int)))
 | i =>
 .ite (decide (i<(params1.length:Int)))
  (.zd (zi i params1.length) <|
 T.bind (cx (nth params1 i (zb zI))) fun r =>
 .ite (!r)
  (.ret (.inr (.inr (([]:zf),(1:Int)))))
  (.ret (.inl (zt (i+1)))))
  (.ret (.inr (.inl ())))
def oR params1 No f1 s:=T.loop (bh params1 No f1) s
def ub(on2:(List Bool))(f2:Form):(Int×zJ×(List wC)×(List Int))→T ((Int×zJ×(List wC)×(List Int))⊕((zJ×(List wC)×(List Int))⊕(zf×Int×zJ×(List wC)×(List Int))))
 | (i1,v,xs,zy) =>
 .ite (decide (i1<(f2.2.2.2.2.1.length:Int)))
  (.zd (zi i1 f2.2.2.2.2.1.length) <|
 T.bind (Un f2 on2 (nth f2.2.2.2.2.1 i1 (zb zn)).2.2.1) fun r2 =>
 .ite (!r2)
  (.zd (zh xs.length (0:Nat) xs.length xs.length) <|
 .zd (zh zy.length (0:Nat) zy.length zy.length) <|
 .zd (xs.length=xs.length) <|
 .zd (zy.length=zy.length) <|
 .ret (.inl ((zt (i1+1)),(v,(xs,zy)))))
  (.zd (zi i1 f2.2.2.2.2.1.length) <|
 T.bind (cF (nth f2.2.2.2.2.1 i1 (zb zn)) v) fun(r3,e1) =>
 .ite (e1 != 0)
  (.zd (zi i1 f2.2.2.2.2.1.length) <|
 .zd (xs.length=xs.length) <|
 .zd (zy.length=zy.length) <|
 .ret (.inr (.inr ((nth f2.2.2.2.2.1 i1 (zb zn)).1,(e1,(v,(xs,zy)))))))
  (.zd (xp xs.length xs.length (0:Nat) xs.length xs.length (1:Nat) (88:Nat)) <|
 .zd (xp zy.length zy.length (0:Nat) zy.length zy.length (1:Nat) (8:Nat)) <|
 .zd (zh (xs.length+(1:Nat)) (0:Nat) (xs.length+(1:Nat)) (List.length (xs++([r3]:List wC)))) <|
 .zd (zh (zy.length+(1:Nat)) (0:Nat) (zy.length+(1:Nat)) (List.length (zy++([i1]:List Int)))) <|
 .zd ((xs.length+(1:Nat))=(List.length (xs++([r3]:List wC)))) <|
 .zd ((zy.length+(1:Nat))=(List.length (zy++([i1]:List Int)))) <|
 .ret (.inl ((zt (i1+1)),(v,((xs++([r3]:List wC)),(zy++([i1]:List Int)))))))))
  (.zd (zh xs.length (0:Nat) xs.length xs.length) <|
 .zd (zh zy.length (0:Nat) zy.length zy.length) <|
 .zd (xs.length=xs.length) <|
 .zd (zy.length=zy.length) <|
 .ret (.inr (.inl (v,(xs,zy)))))
def kK on2 f2 s:=T.loop (ub on2 f2) s
def bQ(f3:Form):(Int×zJ×(List wC)×(List Int))→T ((Int×zJ×(List wC)×(List Int))⊕((zJ×(List wC)×(List Int))⊕(zf×Int×zJ×(List wC)×(List Int))))
 | (i2,v3,xs6,vK) =>
 .ite (decide (i2<(xs6.length:Int)))
  (.zd (zi i2 xs6.length) <|
 .zd (eB xs6.length xs6.length ((0:Nat)+(Int.toNat i2)) xs6.length) <|
 T.bind (oM (xj xs6 ((0:Nat)+(Int.toNat i2)) (zb zZ))) fun r4 =>
 .ite r4
  (.zd (zi i2 vK.length) <|
 .zd (eB vK.length vK.length ((0:Nat)+(Int.toNat i2)) vK.length) <|
 .zd (zi (xj vK ((0:Nat)+(Int.toNat i2)) (zb (.int .i64))) f3.2.2.2.2.1.length) <|
 .zd (xs6.length=xs6.length) <|
 .zd (vK.length=vK.length) <|
 .ret (.inr (.inr ((nth f3.2.2.2.2.1 (xj vK ((0:Nat)+(Int.toNat i2)) (zb (.int .i64))) (zb zn)).1,((8:Int),(v3,(xs6,vK)))))))
  (.zd (zh xs6.length (0:Nat) xs6.length xs6.length) <|
 .zd (zh vK.length (0:Nat) vK.length vK.length) <|
 .zd (xs6.length=xs6.length) <|
 .zd (vK.length=vK.length) <|
 .ret (.inl ((zt (i2+1)),(v3,(xs6,vK))))))
  (.zd (zh xs6.length (0:Nat) xs6.length xs6.length) <|
 .zd (zh vK.length (0:Nat) vK.length vK.length) <|
 .zd (xs6.length=xs6.length) <|
 .zd (vK.length=vK.length) <|
 .ret (.inr (.inl (v3,(xs6,vK)))))
def nQ f3 s:=T.loop (bQ f3) s
def fh(f:Form)(params:(List Rat))(on:(List Bool)):T ((List wC)×(List Int)×zf×Int) :=
 T.bind (lN f) fun(e,s) =>
 .ite (e != 0)
  (.ret (([]:List wC),(([]:List Int),(s,e))))
  (.ite (((params.length:Int) != (f.2.1.length:Int))||((on.length:Int) != (f.1.length:Int)))
  (.ret (([]:List wC),(([]:List Int),(([]:zf),(1:Int)))))
  (T.bind (oR params on f (0:Int)) <|
 Sum.elim (fun _ =>
 T.bind (XK f params) fun r1 =>
 .zd (zh (0:Nat) (0:Nat) (0:Nat) (0:Nat)) <|
 .zd (zh (0:Nat) (0:Nat) (0:Nat) (0:Nat)) <|
 .zd ((0:Nat)=(0:Nat)) <|
 .zd ((0:Nat)=(0:Nat)) <|
 T.bind (kK on f ((0:Int),(r1,(([]:List wC),([]:List Int))))) <|
 Sum.elim (fun(v1,zR,qH) =>
 .zd (zh zR.length (0:Nat) zR.length zR.length) <|
 .zd (zh qH.length (0:Nat) qH.length qH.length) <|
 .zd (zR.length=zR.length) <|
 .zd (qH.length=qH.length) <|
 T.bind (nQ f ((0:Int),(v1,(zR,qH)))) <|
 Sum.elim (fun(v4,dN,rJ) =>
 .zd (dN.length=dN.length) <|
 .zd (rJ.length=rJ.length) <|
 .ret ((List.drop (0:Nat) (List.take ((0:Nat)+dN.length) dN)),((List.drop (0:Nat) (List.take ((0:Nat)+rJ.length) rJ)),(([]:zf),(0:Int)))))
  (fun(x4,x5,v5,xs10,XX) =>
 .ret (([]:List wC),(([]:List Int),(x4,x5)))))
  (fun(x2,x3,v2,va,jb) =>
 .ret (([]:List wC),(([]:List Int),(x2,x3)))))
  (fun(x,x1) =>
 .ret (([]:List wC),(([]:List Int),(x,x1))))))
def fc(a:Rat)(b:Rat):T Bool :=
 T.bind (xc a) fun r =>
 T.bind (xc b) fun r1 =>
 .ite (r.1==r1.1)
  (T.bind (uW r.2.1 r1.2.1) fun r2 =>
 .ite r2
  (T.bind (uW r.2.2.1 r1.2.2.1) fun r3 =>
 .ret r3)
  (.ret false))
  (.ret false)
def c7  : T Bool :=
 T.bind (wa (2:Int)) fun r =>
 T.bind (wa (2:Int)) fun r1 =>
 T.bind (cp (([]:List Switch),(([(([112]:zf),((r.1,(r.2.1,(r.2.2.1,()))),()))]:List Param),(([(([113]:zf),(([]:zf),()))]:List rV),(([(([97]:zf),((0:Int),(false,((0:Int),())))),(([98]:zf),((0:Int),(false,((0:Int),()))))]:List Field),(([(([114]:zf),((0:Int),(([]:zf),((Expr.mk (5:Int) (false,(([]:List Int),(([]:List Int),()))) ([]:zf) ([(Expr.mk (2:Int) (false,(([]:List Int),(([]:List Int),()))) ([97]:zf) ([]:List AM.Expr)),(Expr.mk (2:Int) (false,(([]:List Int),(([]:List Int),()))) ([112]:zf) ([]:List AM.Expr))]:List AM.Expr)),((Expr.mk (2:Int) (false,(([]:List Int),(([]:List Int),()))) ([98]:zf) ([]:List AM.Expr)),())))))]:List uT),(([]:List Check),())))))) ([r1]:List Rat) ([]:List Bool)) fun(r2,s,e) =>
 .ite (e==0)
  (.ite (zF s ([]:zf))
  (.ite ((r2.1.length:Int)==(1:Int))
  (.zd (zi (0:Int) r2.1.length) <|
 .ite ((Nat.cast (List.length (nth r2.1 (0:Int) (zb zZ)).2.1):Int)==(2:Int))
  (.zd (zi (0:Int) r2.1.length) <|
 .zd (zi (0:Int) (List.length (nth r2.1 (0:Int) (zb zZ)).2.1)) <|
 T.bind (wa (2:Int)) fun r3 =>
 T.bind (fc (nth (nth r2.1 (0:Int) (zb zZ)).2.1 (0:Int) (zb zq)).2.1 r3) fun r4 =>
 .ite r4
  (.ret ((r2.2.1.length:Int)==(1:Int)))
  (.ret false))
  (.ret false))
  (.ret false))
  (.ret false))
  (.ret false)
def gp(l1:(List Int))(n1:Int):Int→T (Int⊕(Unit⊕Bool))
 | i =>
 .ite (decide (i<(l1.length:Int)))
  (.zd (zi i l1.length) <|
 .ite ((nth l1 i (zb (.int .i64)))==n1)
  (.ret (.inr (.inr true)))
  (.ret (.inl (zt (i+1)))))
  (.ret (.inr (.inl ())))
def pR l1 n1 s:=T.loop (gp l1 n1) s
def rv(l:(List Int))(n:Int):T Bool :=
 T.bind (pR l n (0:Int)) <|
 Sum.elim (fun _ =>
 .ret false)
  (fun x =>
 .ret x)
def uY(k1:Int)(f1:Form):(Int×qB×qB)→T ((Int×qB×qB)⊕((qB×qB)⊕(Bool×qB×qB)))
 | (i,v,v1) =>
 .ite (decide (i<(f1.2.2.2.2.1.length:Int)))
  (T.bind (rv v.2.1 i) fun a =>
 T.bind (rv v1.2.1 i) fun b =>
 .zd (zi i f1.2.2.2.2.1.length) <|
 .zd (zi k1 f1.1.length) <|
 .ite (!((!(a==b))==(zF (nth f1.2.2.2.2.1 i (zb zn)).2.2.1 (nth f1.1 k1 (zb zV)).1)))
  (.ret (.inr (.inr (false,(v,v1)))))
  (.ret (.inl ((zt (i+1)),(v,v1)))))
  (.ret (.inr (.inl (v,v1))))
def gf k1 f1 s:=T.loop (uY k1 f1) s
def yT(f:Form)(params:(List Rat))(on:(List Bool))(k:Int):T Bool :=
 T.bind (T.bind (cg f) fun r =>
 .ite r
  (.ret true)
  (T.bind (fe params) fun r1 =>
 .ite r1
  (.ret true)
  (.ite (decide ((30:Int)<(on.length:Int)))
  (.ret true)
  (.ret ((on.length:Int)==(0:Int))))):T (Bool)) fun x =>
 .ite x
  (.ret true)
  (T.bind (cp f params on) fun(r2,r3,e) =>
 .zd ((on.length:Int)≠(0:Int)) <|
 .zd (xp (0:Nat) (0:Nat) (0:Nat) (0:Nat) (0:Nat) on.length (1:Nat)) <|
 .zd (zi (Int.tmod (lX .i64 k (1023:Int)) (on.length:Int)) ((0:Nat)+on.length)) <|
 .zd (eB ((0:Nat)+on.length) ((0:Nat)+on.length) ((0:Nat)+(Int.toNat (Int.tmod (lX .i64 k (1023:Int)) (on.length:Int)))) on.length) <|
 .zd (zi (Int.tmod (lX .i64 k (1023:Int)) (on.length:Int)) ((0:Nat)+on.length)) <|
 .zd (eB ((0:Nat)+on.length) ((0:Nat)+on.length) ((0:Nat)+(Int.toNat (Int.tmod (lX .i64 k (1023:Int)) (on.length:Int)))) on.length) <|
 .zd (((0:Nat)+on.length)=((0:Nat)+on.length)) <|
 T.bind (cp f params (List.drop (0:Nat) (List.take ((0:Nat)+((0:Nat)+on.length)) (List.set on ((0:Nat)+(Int.toNat (Int.tmod (lX .i64 k (1023:Int)) (on.length:Int)))) (!(xj on ((0:Nat)+(Int.toNat (Int.tmod (lX .i64 k (1023:Int)) (on.length:Int)))) (zb .bool))))))) fun(r4,r5,g) =>
 .ite ((e != 0)||(g != 0))
  (T.bind (fh f params on) fun(r6,r7,r8,h) =>
 .ite (e==h)
  (T.bind (c7) fun r9 =>
 .ret r9)
  (.ret false))
  (.ite (decide ((f.1.length:Int)≤(Int.tmod (lX .i64 k (1023:Int)) (on.length:Int))))
  (.ret false)
  (T.bind (gf (Int.tmod (lX .i64 k (1023:Int)) (on.length:Int)) f ((0:Int),(r2,r4))) <|
 Sum.elim (fun(v2,v3) =>
 T.bind (c7) fun Nv =>
 .ret Nv)
  (fun(x1,v4,v5) =>
 .ret x1))))
end Go.AM.Lf
