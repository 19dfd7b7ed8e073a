/-
  The program's functions as trees in plain Lean, part 1: printed by a program of ours.
-/
import Derived.Test.YtbafdjlefhlefaaGreatDoorLf0
set_option linter.unusedVariables false
noncomputable section
namespace Go.AM.Lf
def oi(f:Field):T zf :=
 .zd ((([102,105,101,108,100,32]:zf).length+f.1.length)≤(4611686018427387904:Nat)) <|
 .zd ((f.2.2.1=true)→(((List.length (cat ([102,105,101,108,100,32]:zf) f.1))+([32,109,117,115,116]:zf).length)≤(4611686018427387904:Nat))) <|
 .ite (f.2.2.2.1 != 0)
  (.zd (((List.length (bif f.2.2.1 then(cat (cat ([102,105,101,108,100,32]:zf) f.1) ([32,109,117,115,116]:zf))else(cat ([102,105,101,108,100,32]:zf) f.1)))+([32,115,99,97,108,101,32]:zf).length)≤(4611686018427387904:Nat)) <|
 .zd (((List.length (cat (bif f.2.2.1 then(cat (cat ([102,105,101,108,100,32]:zf) f.1) ([32,109,117,115,116]:zf))else(cat ([102,105,101,108,100,32]:zf) f.1)) ([32,115,99,97,108,101,32]:zf)))+(List.length (qP ([(Lb (zt ((48:Int)+f.2.2.2.1)))]:List Int))))≤(4611686018427387904:Nat)) <|
 .zd (((List.length (cat (cat (bif f.2.2.1 then(cat (cat ([102,105,101,108,100,32]:zf) f.1) ([32,109,117,115,116]:zf))else(cat ([102,105,101,108,100,32]:zf) f.1)) ([32,115,99,97,108,101,32]:zf)) (qP ([(Lb (zt ((48:Int)+f.2.2.2.1)))]:List Int))))+([10]:zf).length)≤(4611686018427387904:Nat)) <|
 .ret (cat (cat (cat (bif f.2.2.1 then(cat (cat ([102,105,101,108,100,32]:zf) f.1) ([32,109,117,115,116]:zf))else(cat ([102,105,101,108,100,32]:zf) f.1)) ([32,115,99,97,108,101,32]:zf)) (qP ([(Lb (zt ((48:Int)+f.2.2.2.1)))]:List Int))) ([10]:zf)))
  (.zd (((List.length (bif f.2.2.1 then(cat (cat ([102,105,101,108,100,32]:zf) f.1) ([32,109,117,115,116]:zf))else(cat ([102,105,101,108,100,32]:zf) f.1)))+([10]:zf).length)≤(4611686018427387904:Nat)) <|
 .ret (cat (bif f.2.2.1 then(cat (cat ([102,105,101,108,100,32]:zf) f.1) ([32,109,117,115,116]:zf))else(cat ([102,105,101,108,100,32]:zf) f.1)) ([10]:zf)))
def rO(kind:Int):T Int :=
 .ite (bif (kind==3)then(kind==3)else(kind==4))
  (.ret (1:Int))
  (.ite (bif (kind==5)then(kind==5)else(kind==6))
  (.ret (2:Int))
  (.ite (kind==7)
  (.ret (3:Int))
  (.ret (4:Int))))
def iT(wi:AM.Expr→Int→T zf)(e:AM.Expr)(asks:Int):T zf :=
 T.bind (.ite ((Expr.kind e)==1)
  (T.bind (cq (Expr.num e)) fun(s,r) =>
 .ret s)
  (.ite ((Expr.kind e)==2)
  (.ret (Expr.name e))
  (.ite ((Expr.kind e)==7)
  (.zd (zi (0:Int) (Expr.kids e).length) <|
 T.bind (wi (nth (Expr.kids e) (0:Int) (zb .expr)) (3:Int)) fun r1 =>
 .zd ((([45]:zf).length+r1.length)≤(4611686018427387904:Nat)) <|
 .ret (cat ([45]:zf) r1))
  (.ite ((Expr.kind e)==3)
  (.zd (zi (0:Int) (Expr.kids e).length) <|
 T.bind (wi (nth (Expr.kids e) (0:Int) (zb .expr)) (1:Int)) fun r2 =>
 .zd ((r2.length+([32,43,32]:zf).length)≤(4611686018427387904:Nat)) <|
 .zd (zi (1:Int) (Expr.kids e).length) <|
 T.bind (wi (nth (Expr.kids e) (1:Int) (zb .expr)) (2:Int)) fun r3 =>
 .zd (((List.length (cat r2 ([32,43,32]:zf)))+r3.length)≤(4611686018427387904:Nat)) <|
 .ret (cat (cat r2 ([32,43,32]:zf)) r3))
  (.ite ((Expr.kind e)==4)
  (.zd (zi (0:Int) (Expr.kids e).length) <|
 T.bind (wi (nth (Expr.kids e) (0:Int) (zb .expr)) (1:Int)) fun r4 =>
 .zd ((r4.length+([32,45,32]:zf).length)≤(4611686018427387904:Nat)) <|
 .zd (zi (1:Int) (Expr.kids e).length) <|
 T.bind (wi (nth (Expr.kids e) (1:Int) (zb .expr)) (2:Int)) fun r5 =>
 .zd (((List.length (cat r4 ([32,45,32]:zf)))+r5.length)≤(4611686018427387904:Nat)) <|
 .ret (cat (cat r4 ([32,45,32]:zf)) r5))
  (.ite ((Expr.kind e)==5)
  (.zd (zi (0:Int) (Expr.kids e).length) <|
 T.bind (wi (nth (Expr.kids e) (0:Int) (zb .expr)) (2:Int)) fun r6 =>
 .zd ((r6.length+([32,42,32]:zf).length)≤(4611686018427387904:Nat)) <|
 .zd (zi (1:Int) (Expr.kids e).length) <|
 T.bind (wi (nth (Expr.kids e) (1:Int) (zb .expr)) (3:Int)) fun r7 =>
 .zd (((List.length (cat r6 ([32,42,32]:zf)))+r7.length)≤(4611686018427387904:Nat)) <|
 .ret (cat (cat r6 ([32,42,32]:zf)) r7))
  (.ite ((Expr.kind e)==6)
  (.zd (zi (0:Int) (Expr.kids e).length) <|
 T.bind (wi (nth (Expr.kids e) (0:Int) (zb .expr)) (2:Int)) fun r8 =>
 .zd ((r8.length+([32,47,32]:zf).length)≤(4611686018427387904:Nat)) <|
 .zd (zi (1:Int) (Expr.kids e).length) <|
 T.bind (wi (nth (Expr.kids e) (1:Int) (zb .expr)) (3:Int)) fun r9 =>
 .zd (((List.length (cat r8 ([32,47,32]:zf)))+r9.length)≤(4611686018427387904:Nat)) <|
 .ret (cat (cat r8 ([32,47,32]:zf)) r9))
  (.ret ([]:zf)))))))):T (zf)) fun s1 =>
 T.bind (rO (Expr.kind e)) fun S4 =>
 .ite (decide (S4<asks))
  (.zd ((([40]:zf).length+s1.length)≤(4611686018427387904:Nat)) <|
 .zd (((List.length (cat ([40]:zf) s1))+([41]:zf).length)≤(4611686018427387904:Nat)) <|
 .ret (cat (cat ([40]:zf) s1) ([41]:zf)))
  (.ret s1)
def sY(e:AM.Expr)(asks:Int):T zf:=T.fix (fun F x=>iT (fun y0 y1=>F (y0,y1)) x.1 x.2) (e,asks)
def kG(e:AM.Expr):T zf :=
 T.bind (yV e) fun r =>
 .ite (!r)
  (.ret ([]:zf))
  (T.bind (sY e (1:Int)) fun r1 =>
 .ret r1)
def Xs(n:Int):T zf :=
 .ite (n==1)
  (.ret ([60]:zf))
  (.ite (n==2)
  (.ret ([60,61]:zf))
  (.ret ([61]:zf)))
def cF(n:Int):T zf :=
 .ite (n==0)
  (.ret ([114,101,113,117,105,114,101,100]:zf))
  (.ite (n==1)
  (.ret ([115,116,114,111,110,103]:zf))
  (.ite (n==2)
  (.ret ([109,101,100,105,117,109]:zf))
  (.ret ([119,101,97,107]:zf))))
def bq(f1:Form):(zf×Int)→T ((zf×Int)⊕(zf))
 | (s,i) =>
 .ite (decide (i<(f1.1.length:Int)))
  (.zd (zi i f1.1.length) <|
 .zd ((s.length+([115,119,105,116,99,104,32]:zf).length)≤(4611686018427387904:Nat)) <|
 .zd (zi i f1.1.length) <|
 .zd (((List.length (cat s ([115,119,105,116,99,104,32]:zf)))+(List.length (nth f1.1 i (zb zW)).1))≤(4611686018427387904:Nat)) <|
 .zd (((List.length (cat (cat s ([115,119,105,116,99,104,32]:zf)) (nth f1.1 i (zb zW)).1))+(List.length (bif (nth f1.1 i (zb zW)).2.1 then([32,111,110,10]:zf)else([32,111,102,102,10]:zf))))≤(4611686018427387904:Nat)) <|
 .ret (.inl ((cat (cat (cat s ([115,119,105,116,99,104,32]:zf)) (nth f1.1 i (zb zW)).1) (bif (nth f1.1 i (zb zW)).2.1 then([32,111,110,10]:zf)else([32,111,102,102,10]:zf))),(zt (i+1)))))
  (.ret (.inr s))
def Qr f1 s:=T.loop (bq f1) s
def bN(f2:Form):(zf×Int)→T ((zf×Int)⊕(zf))
 | (s2,i1) =>
 .ite (decide (i1<(f2.2.1.length:Int)))
  (.zd ((s2.length+([112,97,114,97,109,32]:zf).length)≤(4611686018427387904:Nat)) <|
 .zd (zi i1 f2.2.1.length) <|
 .zd (((List.length (cat s2 ([112,97,114,97,109,32]:zf)))+(List.length (nth f2.2.1 i1 (zb zX)).1))≤(4611686018427387904:Nat)) <|
 .zd (((List.length (cat (cat s2 ([112,97,114,97,109,32]:zf)) (nth f2.2.1 i1 (zb zX)).1))+([32]:zf).length)≤(4611686018427387904:Nat)) <|
 .zd (zi i1 f2.2.1.length) <|
 T.bind (oB (nth f2.2.1 i1 (zb zX)).2.1) fun r =>
 .zd (((List.length (cat (cat (cat s2 ([112,97,114,97,109,32]:zf)) (nth f2.2.1 i1 (zb zX)).1) ([32]:zf)))+r.length)≤(4611686018427387904:Nat)) <|
 .zd (((List.length (cat (cat (cat (cat s2 ([112,97,114,97,109,32]:zf)) (nth f2.2.1 i1 (zb zX)).1) ([32]:zf)) r))+([10]:zf).length)≤(4611686018427387904:Nat)) <|
 .ret (.inl ((cat (cat (cat (cat (cat s2 ([112,97,114,97,109,32]:zf)) (nth f2.2.1 i1 (zb zX)).1) ([32]:zf)) r) ([10]:zf)),(zt (i1+1)))))
  (.ret (.inr s2))
def QT f2 s:=T.loop (bN f2) s
def bh(f4:Form)(i3:Int):(zf×Int)→T ((zf×Int)⊕(zf))
 | (s5,k) =>
 .ite (decide (k<(f4.2.2.2.1.length:Int)))
  (.zd (zi k f4.2.2.2.1.length) <|
 .ite ((nth f4.2.2.2.1 k (zb q7)).2.1==i3)
  (.zd (zi k f4.2.2.2.1.length) <|
 T.bind (oi (nth f4.2.2.2.1 k (zb q7))) fun r2 =>
 .zd ((s5.length+r2.length)≤(4611686018427387904:Nat)) <|
 .ret (.inl ((cat s5 r2),(zt (k+1)))))
  (.ret (.inl (s5,(zt (k+1))))))
  (.ret (.inr s5))
def Xi f4 i3 s:=T.loop (bh f4 i3) s
def bj(f5:Form)(i4:Int):(zf×Int)→T ((zf×Int)⊕(zf))
 | (s7,k1) =>
 .ite (decide (k1<(f5.2.2.2.2.2.1.length:Int)))
  (.zd (zi k1 f5.2.2.2.2.2.1.length) <|
 .ite ((nth f5.2.2.2.2.2.1 k1 (zb zn)).2.1==i4)
  (.zd ((s7.length+([99,104,101,99,107,32]:zf).length)≤(4611686018427387904:Nat)) <|
 .zd (((List.length (cat s7 ([99,104,101,99,107,32]:zf)))+(List.length (nth f5.2.2.2.2.2.1 k1 (zb zn)).1))≤(4611686018427387904:Nat)) <|
 .zd (((List.length (cat (cat s7 ([99,104,101,99,107,32]:zf)) (nth f5.2.2.2.2.2.1 k1 (zb zn)).1))+([32,58,32]:zf).length)≤(4611686018427387904:Nat)) <|
 T.bind (kG (Expr.mk (Expr.kind (nth f5.2.2.2.2.2.1 k1 (zb zn)).2.2.2.1) ((Expr.num (nth f5.2.2.2.2.2.1 k1 (zb zn)).2.2.2.1).1,((Expr.num (nth f5.2.2.2.2.2.1 k1 (zb zn)).2.2.2.1).2.1,((Expr.num (nth f5.2.2.2.2.2.1 k1 (zb zn)).2.2.2.1).2.2.1,()))) (Expr.name (nth f5.2.2.2.2.2.1 k1 (zb zn)).2.2.2.1) (Expr.kids (nth f5.2.2.2.2.2.1 k1 (zb zn)).2.2.2.1))) fun r3 =>
 .zd (((List.length (cat (cat (cat s7 ([99,104,101,99,107,32]:zf)) (nth f5.2.2.2.2.2.1 k1 (zb zn)).1) ([32,58,32]:zf)))+r3.length)≤(4611686018427387904:Nat)) <|
 .zd (((List.length (cat (cat (cat (cat s7 ([99,104,101,99,107,32]:zf)) (nth f5.2.2.2.2.2.1 k1 (zb zn)).1) ([32,58,32]:zf)) r3))+([32]:zf).length)≤(4611686018427387904:Nat)) <|
 T.bind (Xs (nth f5.2.2.2.2.2.1 k1 (zb zn)).2.2.1) fun r4 =>
 .zd (((List.length (cat (cat (cat (cat (cat s7 ([99,104,101,99,107,32]:zf)) (nth f5.2.2.2.2.2.1 k1 (zb zn)).1) ([32,58,32]:zf)) r3) ([32]:zf)))+r4.length)≤(4611686018427387904:Nat)) <|
 .zd (((List.length (cat (cat (cat (cat (cat (cat s7 ([99,104,101,99,107,32]:zf)) (nth f5.2.2.2.2.2.1 k1 (zb zn)).1) ([32,58,32]:zf)) r3) ([32]:zf)) r4))+([32]:zf).length)≤(4611686018427387904:Nat)) <|
 T.bind (kG (Expr.mk (Expr.kind (nth f5.2.2.2.2.2.1 k1 (zb zn)).2.2.2.2.1) ((Expr.num (nth f5.2.2.2.2.2.1 k1 (zb zn)).2.2.2.2.1).1,((Expr.num (nth f5.2.2.2.2.2.1 k1 (zb zn)).2.2.2.2.1).2.1,((Expr.num (nth f5.2.2.2.2.2.1 k1 (zb zn)).2.2.2.2.1).2.2.1,()))) (Expr.name (nth f5.2.2.2.2.2.1 k1 (zb zn)).2.2.2.2.1) (Expr.kids (nth f5.2.2.2.2.2.1 k1 (zb zn)).2.2.2.2.1))) fun r5 =>
 .zd (((List.length (cat (cat (cat (cat (cat (cat (cat s7 ([99,104,101,99,107,32]:zf)) (nth f5.2.2.2.2.2.1 k1 (zb zn)).1) ([32,58,32]:zf)) r3) ([32]:zf)) r4) ([32]:zf)))+r5.length)≤(4611686018427387904:Nat)) <|
 .zd (((List.length (cat (cat (cat (cat (cat (cat (cat (cat s7 ([99,104,101,99,107,32]:zf)) (nth f5.2.2.2.2.2.1 k1 (zb zn)).1) ([32,58,32]:zf)) r3) ([32]:zf)) r4) ([32]:zf)) r5))+([10]:zf).length)≤(4611686018427387904:Nat)) <|
 .ret (.inl ((cat (cat (cat (cat (cat (cat (cat (cat (cat s7 ([99,104,101,99,107,32]:zf)) (nth f5.2.2.2.2.2.1 k1 (zb zn)).1) ([32,58,32]:zf)) r3) ([32]:zf)) r4) ([32]:zf)) r5) ([10]:zf)),(zt (k1+1)))))
  (.ret (.inl (s7,(zt (k1+1))))))
  (.ret (.inr s7))
def QZ f5 i4 s:=T.loop (bj f5 i4) s
def bR(f3:Form):(zf×Int)→T ((zf×Int)⊕(zf))
 | (s4,i2) =>
 .ite (decide (i2<(f3.2.2.1.length:Int)))
  (.zd ((s4.length+([112,97,103,101,32]:zf).length)≤(4611686018427387904:Nat)) <|
 .zd (zi i2 f3.2.2.1.length) <|
 .zd (((List.length (cat s4 ([112,97,103,101,32]:zf)))+(List.length (nth f3.2.2.1 i2 (zb qu)).1))≤(4611686018427387904:Nat)) <|
 .zd (zi i2 f3.2.2.1.length) <|
 T.bind (tH (nth f3.2.2.1 i2 (zb qu)).2.1) fun r1 =>
 .zd (((List.length (cat (cat s4 ([112,97,103,101,32]:zf)) (nth f3.2.2.1 i2 (zb qu)).1))+r1.length)≤(4611686018427387904:Nat)) <|
 .zd (((List.length (cat (cat (cat s4 ([112,97,103,101,32]:zf)) (nth f3.2.2.1 i2 (zb qu)).1) r1))+([10]:zf).length)≤(4611686018427387904:Nat)) <|
 T.bind (Xi f3 i2 ((cat (cat (cat (cat s4 ([112,97,103,101,32]:zf)) (nth f3.2.2.1 i2 (zb qu)).1) r1) ([10]:zf)),(0:Int))) fun s6 =>
 T.bind (QZ f3 i2 (s6,(0:Int))) fun s8 =>
 .ret (.inl (s8,(zt (i2+1)))))
  (.ret (.inr s4))
def X0 f3 s:=T.loop (bR f3) s
def bC(f6:Form):(zf×Int)→T ((zf×Int)⊕(zf))
 | (s10,i5) =>
 .ite (decide (i5<(f6.2.2.2.2.1.length:Int)))
  (.zd (zi i5 f6.2.2.2.2.1.length) <|
 .zd ((s10.length+([114,117,108,101,32]:zf).length)≤(4611686018427387904:Nat)) <|
 T.bind (cF (nth f6.2.2.2.2.1 i5 (zb zo)).2.1) fun r6 =>
 .zd (((List.length (cat s10 ([114,117,108,101,32]:zf)))+r6.length)≤(4611686018427387904:Nat)) <|
 .zd (((List.length (cat (cat s10 ([114,117,108,101,32]:zf)) r6))+([32]:zf).length)≤(4611686018427387904:Nat)) <|
 .zd (((List.length (cat (cat (cat s10 ([114,117,108,101,32]:zf)) r6) ([32]:zf)))+(List.length (nth f6.2.2.2.2.1 i5 (zb zo)).1))≤(4611686018427387904:Nat)) <|
 T.bind (tH (nth f6.2.2.2.2.1 i5 (zb zo)).2.2.1) fun r7 =>
 .zd (((List.length (cat (cat (cat (cat s10 ([114,117,108,101,32]:zf)) r6) ([32]:zf)) (nth f6.2.2.2.2.1 i5 (zb zo)).1))+r7.length)≤(4611686018427387904:Nat)) <|
 .zd (((List.length (cat (cat (cat (cat (cat s10 ([114,117,108,101,32]:zf)) r6) ([32]:zf)) (nth f6.2.2.2.2.1 i5 (zb zo)).1) r7))+([32,58,32]:zf).length)≤(4611686018427387904:Nat)) <|
 T.bind (kG (Expr.mk (Expr.kind (nth f6.2.2.2.2.1 i5 (zb zo)).2.2.2.1) ((Expr.num (nth f6.2.2.2.2.1 i5 (zb zo)).2.2.2.1).1,((Expr.num (nth f6.2.2.2.2.1 i5 (zb zo)).2.2.2.1).2.1,((Expr.num (nth f6.2.2.2.2.1 i5 (zb zo)).2.2.2.1).2.2.1,()))) (Expr.name (nth f6.2.2.2.2.1 i5 (zb zo)).2.2.2.1) (Expr.kids (nth f6.2.2.2.2.1 i5 (zb zo)).2.2.2.1))) fun r8 =>
 .zd (((List.length (cat (cat (cat (cat (cat (cat s10 ([114,117,108,101,32]:zf)) r6) ([32]:zf)) (nth f6.2.2.2.2.1 i5 (zb zo)).1) r7) ([32,58,32]:zf)))+r8.length)≤(4611686018427387904:Nat)) <|
 .zd (((List.length (cat (cat (cat (cat (cat (cat (cat s10 ([114,117,108,101,32]:zf)) r6) ([32]:zf)) (nth f6.2.2.2.2.1 i5 (zb zo)).1) r7) ([32,58,32]:zf)) r8))+([32,61,32]:zf).length)≤(4611686018427387904:Nat)) <|
 T.bind (kG (Expr.mk (Expr.kind (nth f6.2.2.2.2.1 i5 (zb zo)).2.2.2.2.1) ((Expr.num (nth f6.2.2.2.2.1 i5 (zb zo)).2.2.2.2.1).1,((Expr.num (nth f6.2.2.2.2.1 i5 (zb zo)).2.2.2.2.1).2.1,((Expr.num (nth f6.2.2.2.2.1 i5 (zb zo)).2.2.2.2.1).2.2.1,()))) (Expr.name (nth f6.2.2.2.2.1 i5 (zb zo)).2.2.2.2.1) (Expr.kids (nth f6.2.2.2.2.1 i5 (zb zo)).2.2.2.2.1))) fun r9 =>
 .zd (((List.length (cat (cat (cat (cat (cat (cat (cat (cat s10 ([114,117,108,101,32]:zf)) r6) ([32]:zf)) (nth f6.2.2.2.2.1 i5 (zb zo)).1) r7) ([32,58,32]:zf)) r8) ([32,61,32]:zf)))+r9.length)≤(4611686018427387904:Nat)) <|
 .zd (((List.length (cat (cat (cat (cat (cat (cat (cat (cat (cat s10 ([114,117,108,101,32]:zf)) r6) ([32]:zf)) (nth f6.2.2.2.2.1 i5 (zb zo)).1) r7) ([32,58,32]:zf)) r8) ([32,61,32]:zf)) r9))+([10]:zf).length)≤(4611686018427387904:Nat)) <|
 .ret (.inl ((cat (cat (cat (cat (cat (cat (cat (cat (cat (cat s10 ([114,117,108,101,32]:zf)) r6) ([32]:zf)) (nth f6.2.2.2.2.1 i5 (zb zo)).1) r7) ([32,58,32]:zf)) r8) ([32,61,32]:zf)) r9) ([10]:zf)),(zt (i5+1)))))
  (.ret (.inr s10))
def Xw f6 s:=T.loop (bC f6) s
def td(f:Form):T zf :=
 T.bind (Qr f (([]:zf),(0:Int))) fun s1 =>
 T.bind (QT f (s1,(0:Int))) fun s3 =>
 T.bind (X0 f (s3,(0:Int))) fun s9 =>
 T.bind (Xw f (s9,(0:Int))) fun s11 =>
 .ret s11
def iJ(f1:Form):Int→T (Int⊕(Unit⊕Bool))
 | i =>
 .ite (decide (i<(f1.1.length:Int)))
  (.zd (zi i f1.1.length) <|
 T.bind (vS (nth f1.1 i (zb zW)).1) fun r =>
 .ite (!r)
  (.ret (.inr (.inr false)))
  (.ret (.inl (zt (i+1)))))
  (.ret (.inr (.inl ())))
def KK f1 s:=T.loop (iJ f1) s
def fU(f2:Form):Int→T (Int⊕(Unit⊕Bool))
 | i1 =>
 .ite (decide (i1<(f2.2.1.length:Int)))
  (T.bind (.zd (zi i1 f2.2.1.length) <|
 T.bind (vS (nth f2.2.1 i1 (zb zX)).1) fun r1 =>
 .ite (!r1)
  (.ret true)
  (.zd (zi i1 f2.2.1.length) <|
 T.bind (cn (nth f2.2.1 i1 (zb zX)).2.1) fun r2 =>
 .ret (!r2)):T (Bool)) fun x1 =>
 .ite x1
  (.ret (.inr (.inr false)))
  (.ret (.inl (zt (i1+1)))))
  (.ret (.inr (.inl ())))
def JY f2 s:=T.loop (fU f2) s
def fQ(f3:Form):Int→T (Int⊕(Unit⊕Bool))
 | i2 =>
 .ite (decide (i2<(f3.2.2.1.length:Int)))
  (T.bind (.zd (zi i2 f3.2.2.1.length) <|
 T.bind (vS (nth f3.2.2.1 i2 (zb qu)).1) fun r3 =>
 .ite (!r3)
  (.ret true)
  (.zd (zi i2 f3.2.2.1.length) <|
 T.bind (fR (nth f3.2.2.1 i2 (zb qu)).2.1) fun r4 =>
 .ret (!r4)):T (Bool)) fun x3 =>
 .ite x3
  (.ret (.inr (.inr false)))
  (.ret (.inl (zt (i2+1)))))
  (.ret (.inr (.inl ())))
def UZ f3 s:=T.loop (fQ f3) s
def fY(f4:Form):Int→T (Int⊕(Unit⊕Bool))
 | i3 =>
 .ite (decide (i3<(f4.2.2.2.2.1.length:Int)))
  (.zd (zi i3 f4.2.2.2.2.1.length) <|
 T.bind (T.bind (vS (nth f4.2.2.2.2.1 i3 (zb zo)).1) fun r5 =>
 .ite (!r5)
  (.ret (true,(nth f4.2.2.2.2.1 i3 (zb zo))))
  (T.bind (fR (nth f4.2.2.2.2.1 i3 (zb zo)).2.2.1) fun r6 =>
 .ite (!r6)
  (.ret (true,(nth f4.2.2.2.2.1 i3 (zb zo))))
  (.ite (decide ((nth f4.2.2.2.2.1 i3 (zb zo)).2.1<(0:Int)))
  (.ret (true,(nth f4.2.2.2.2.1 i3 (zb zo))))
  (.ite (decide ((3:Int)<(nth f4.2.2.2.2.1 i3 (zb zo)).2.1))
  (.ret (true,(nth f4.2.2.2.2.1 i3 (zb zo))))
  (T.bind (yV (Expr.mk (Expr.kind (nth f4.2.2.2.2.1 i3 (zb zo)).2.2.2.1) ((Expr.num (nth f4.2.2.2.2.1 i3 (zb zo)).2.2.2.1).1,((Expr.num (nth f4.2.2.2.2.1 i3 (zb zo)).2.2.2.1).2.1,((Expr.num (nth f4.2.2.2.2.1 i3 (zb zo)).2.2.2.1).2.2.1,()))) (Expr.name (nth f4.2.2.2.2.1 i3 (zb zo)).2.2.2.1) (Expr.kids (nth f4.2.2.2.2.1 i3 (zb zo)).2.2.2.1))) fun r7 =>
 .ite (!r7)
  (.ret (true,(nth f4.2.2.2.2.1 i3 (zb zo))))
  (T.bind (yV (Expr.mk (Expr.kind (nth f4.2.2.2.2.1 i3 (zb zo)).2.2.2.2.1) ((Expr.num (nth f4.2.2.2.2.1 i3 (zb zo)).2.2.2.2.1).1,((Expr.num (nth f4.2.2.2.2.1 i3 (zb zo)).2.2.2.2.1).2.1,((Expr.num (nth f4.2.2.2.2.1 i3 (zb zo)).2.2.2.2.1).2.2.1,()))) (Expr.name (nth f4.2.2.2.2.1 i3 (zb zo)).2.2.2.2.1) (Expr.kids (nth f4.2.2.2.2.1 i3 (zb zo)).2.2.2.2.1))) fun r8 =>
 .ret ((!r8),(nth f4.2.2.2.2.1 i3 (zb zo)))))))):T ((Bool×uX))) fun(x5,v) =>
 .ite x5
  (.ret (.inr (.inr false)))
  (.ret (.inl (zt (i3+1)))))
  (.ret (.inr (.inl ())))
def Ks f4 s:=T.loop (fY f4) s
def Ug(f:Form):T Bool :=
 T.bind (KK f (0:Int)) <|
 Sum.elim (fun _ =>
 T.bind (JY f (0:Int)) <|
 Sum.elim (fun _ =>
 T.bind (UZ f (0:Int)) <|
 Sum.elim (fun _ =>
 T.bind (Ks f (0:Int)) <|
 Sum.elim (fun _ =>
 T.bind (nC f) fun r9 =>
 .ite r9
  (T.bind (td f) fun S4 =>
 .ret (decide ((S4.length:Int)≤(16384:Int))))
  (.ret false))
  (fun x6 =>
 .ret x6))
  (fun x4 =>
 .ret x4))
  (fun x2 =>
 .ret x2))
  (fun x =>
 .ret x)
def jO(f1:Form):(Int×(List zf))→T ((Int×(List zf))⊕((List zf)))
 | (i,xs) =>
 .ite (decide (i<(f1.2.2.2.1.length:Int)))
  (.zd (zi i f1.2.2.2.1.length) <|
 .zd (xC xs.length xs.length (0:Nat) xs.length xs.length (1:Nat) (16:Nat)) <|
 .zd (zh (xs.length+(1:Nat)) (0:Nat) (xs.length+(1:Nat)) (List.length (xs++([(nth f1.2.2.2.1 i (zb q7)).1]:List zf)))) <|
 .zd ((xs.length+(1:Nat))=(List.length (xs++([(nth f1.2.2.2.1 i (zb q7)).1]:List zf)))) <|
 .ret (.inl ((zt (i+1)),(xs++([(nth f1.2.2.2.1 i (zb q7)).1]:List zf)))))
  (.zd (zh xs.length (0:Nat) xs.length xs.length) <|
 .zd (xs.length=xs.length) <|
 .ret (.inr xs))
def pR f1 s:=T.loop (jO f1) s
def gH(f:Form):T (List zf) :=
 .zd (zh (0:Nat) (0:Nat) (0:Nat) (0:Nat)) <|
 .zd ((0:Nat)=(0:Nat)) <|
 T.bind (pR f ((0:Int),([]:List zf))) fun zA =>
 .zd (zA.length=zA.length) <|
 .ret (List.drop (0:Nat) (List.take ((0:Nat)+zA.length) zA))
def yG(f1:Form):(Int×(List zf))→T ((Int×(List zf))⊕((List zf)))
 | (i,xs) =>
 .ite (decide (i<(f1.1.length:Int)))
  (.zd (zi i f1.1.length) <|
 .zd (xC xs.length xs.length (0:Nat) xs.length xs.length (1:Nat) (16:Nat)) <|
 .zd (zh (xs.length+(1:Nat)) (0:Nat) (xs.length+(1:Nat)) (List.length (xs++([(nth f1.1 i (zb zW)).1]:List zf)))) <|
 .zd ((xs.length+(1:Nat))=(List.length (xs++([(nth f1.1 i (zb zW)).1]:List zf)))) <|
 .ret (.inl ((zt (i+1)),(xs++([(nth f1.1 i (zb zW)).1]:List zf)))))
  (.zd (zh xs.length (0:Nat) xs.length xs.length) <|
 .zd (xs.length=xs.length) <|
 .ret (.inr xs))
def Zb f1 s:=T.loop (yG f1) s
def yN(f2:Form):(Int×(List zf))→T ((Int×(List zf))⊕((List zf)))
 | (i1,zR) =>
 .ite (decide (i1<(f2.2.1.length:Int)))
  (.zd (zi i1 f2.2.1.length) <|
 .zd (xC zR.length zR.length (0:Nat) zR.length zR.length (1:Nat) (16:Nat)) <|
 .zd (zh (zR.length+(1:Nat)) (0:Nat) (zR.length+(1:Nat)) (List.length (zR++([(nth f2.2.1 i1 (zb zX)).1]:List zf)))) <|
 .zd ((zR.length+(1:Nat))=(List.length (zR++([(nth f2.2.1 i1 (zb zX)).1]:List zf)))) <|
 .ret (.inl ((zt (i1+1)),(zR++([(nth f2.2.1 i1 (zb zX)).1]:List zf)))))
  (.zd (zh zR.length (0:Nat) zR.length zR.length) <|
 .zd (zR.length=zR.length) <|
 .ret (.inr zR))
def Zp f2 s:=T.loop (yN f2) s
def yx(f3:Form):(Int×(List zf))→T ((Int×(List zf))⊕((List zf)))
 | (i2,vb) =>
 .ite (decide (i2<(f3.2.2.1.length:Int)))
  (.zd (zi i2 f3.2.2.1.length) <|
 .zd (xC vb.length vb.length (0:Nat) vb.length vb.length (1:Nat) (16:Nat)) <|
 .zd (zh (vb.length+(1:Nat)) (0:Nat) (vb.length+(1:Nat)) (List.length (vb++([(nth f3.2.2.1 i2 (zb qu)).1]:List zf)))) <|
 .zd ((vb.length+(1:Nat))=(List.length (vb++([(nth f3.2.2.1 i2 (zb qu)).1]:List zf)))) <|
 .ret (.inl ((zt (i2+1)),(vb++([(nth f3.2.2.1 i2 (zb qu)).1]:List zf)))))
  (.zd (zh vb.length (0:Nat) vb.length vb.length) <|
 .zd (vb.length=vb.length) <|
 .ret (.inr vb))
def tV f3 s:=T.loop (yx f3) s
def ym(f4:Form):(Int×(List zf))→T ((Int×(List zf))⊕((List zf)))
 | (i3,xs6) =>
 .ite (decide (i3<(f4.2.2.2.2.1.length:Int)))
  (.zd (zi i3 f4.2.2.2.2.1.length) <|
 .zd (xC xs6.length xs6.length (0:Nat) xs6.length xs6.length (1:Nat) (16:Nat)) <|
 .zd (zh (xs6.length+(1:Nat)) (0:Nat) (xs6.length+(1:Nat)) (List.length (xs6++([(nth f4.2.2.2.2.1 i3 (zb zo)).1]:List zf)))) <|
 .zd ((xs6.length+(1:Nat))=(List.length (xs6++([(nth f4.2.2.2.2.1 i3 (zb zo)).1]:List zf)))) <|
 .ret (.inl ((zt (i3+1)),(xs6++([(nth f4.2.2.2.2.1 i3 (zb zo)).1]:List zf)))))
  (.zd (zh xs6.length (0:Nat) xs6.length xs6.length) <|
 .zd (xs6.length=xs6.length) <|
 .ret (.inr xs6))
def tU f4 s:=T.loop (ym f4) s
def yy(f5:Form):(Int×(List zf))→T ((Int×(List zf))⊕((List zf)))
 | (i4,eA) =>
 .ite (decide (i4<(f5.2.2.2.2.2.1.length:Int)))
  (.zd (zi i4 f5.2.2.2.2.2.1.length) <|
 .zd (xC eA.length eA.length (0:Nat) eA.length eA.length (1:Nat) (16:Nat)) <|
 .zd (zh (eA.length+(1:Nat)) (0:Nat) (eA.length+(1:Nat)) (List.length (eA++([(nth f5.2.2.2.2.2.1 i4 (zb zn)).1]:List zf)))) <|
 .zd ((eA.length+(1:Nat))=(List.length (eA++([(nth f5.2.2.2.2.2.1 i4 (zb zn)).1]:List zf)))) <|
 .ret (.inl ((zt (i4+1)),(eA++([(nth f5.2.2.2.2.2.1 i4 (zb zn)).1]:List zf)))))
  (.zd (zh eA.length (0:Nat) eA.length eA.length) <|
 .zd (eA.length=eA.length) <|
 .ret (.inr eA))
def Zt f5 s:=T.loop (yy f5) s
def ot(f:Form):T (List zf) :=
 .zd (zh (0:Nat) (0:Nat) (0:Nat) (0:Nat)) <|
 .zd ((0:Nat)=(0:Nat)) <|
 T.bind (Zb f ((0:Int),([]:List zf))) fun zA =>
 .zd (zh zA.length (0:Nat) zA.length zA.length) <|
 .zd (zA.length=zA.length) <|
 T.bind (Zp f ((0:Int),zA)) fun qH =>
 .zd (zh qH.length (0:Nat) qH.length qH.length) <|
 .zd (qH.length=qH.length) <|
 T.bind (tV f ((0:Int),qH)) fun je =>
 T.bind (gH f) fun r =>
 .zd (xC je.length je.length (0:Nat) je.length je.length r.length (16:Nat)) <|
 .zd (zh (je.length+r.length) (0:Nat) (je.length+r.length) (je++r).length) <|
 .zd ((je.length+r.length)=(je++r).length) <|
 T.bind (tU f ((0:Int),(je++r))) fun vI =>
 .zd (zh vI.length (0:Nat) vI.length vI.length) <|
 .zd (vI.length=vI.length) <|
 T.bind (Zt f ((0:Int),vI)) fun pP =>
 .zd (pP.length=pP.length) <|
 .ret (List.drop (0:Nat) (List.take ((0:Nat)+pP.length) pP))
def dI(l1:(List zf))(s1:zf):Int→T (Int⊕(Unit⊕Bool))
 | i =>
 .ite (decide (i<(l1.length:Int)))
  (.zd (zi i l1.length) <|
 .ite (zH (nth l1 i (zb .str)) s1)
  (.ret (.inr (.inr true)))
  (.ret (.inl (zt (i+1)))))
  (.ret (.inr (.inl ())))
def Vy l1 s1 s:=T.loop (dI l1 s1) s
def yK(l:(List zf))(s:zf):T Bool :=
 T.bind (Vy l s (0:Int)) <|
 Sum.elim (fun _ =>
 .ret false)
  (fun x =>
 .ret x)
def yF(l1:(List zf)):Int→T (Int⊕(Unit⊕zf))
 | i =>
 .ite (decide (i<(l1.length:Int)))
  (.zd (nh (0:Int) i l1.length) <|
 .zd (zi i l1.length) <|
 T.bind (yK (uu (e:=.str) (0:Int) i l1) (nth l1 i (zb .str))) fun r =>
 .ite r
  (.zd (zi i l1.length) <|
 .ret (.inr (.inr (nth l1 i (zb .str)))))
  (.ret (.inl (zt (i+1)))))
  (.ret (.inr (.inl ())))
def Z4 l1 s:=T.loop (yF l1) s
def nn(l:(List zf)):T zf :=
 T.bind (Z4 l (0:Int)) <|
 Sum.elim (fun _ =>
 .ret ([]:zf))
  (fun x =>
 .ret x)
def jT(f1:Form):(Int×(List zf))→T ((Int×(List zf))⊕((List zf)))
 | (i,xs) =>
 .ite (decide (i<(f1.1.length:Int)))
  (.zd (zi i f1.1.length) <|
 .zd (xC xs.length xs.length (0:Nat) xs.length xs.length (1:Nat) (16:Nat)) <|
 .zd (zh (xs.length+(1:Nat)) (0:Nat) (xs.length+(1:Nat)) (List.length (xs++([(nth f1.1 i (zb zW)).1]:List zf)))) <|
 .zd ((xs.length+(1:Nat))=(List.length (xs++([(nth f1.1 i (zb zW)).1]:List zf)))) <|
 .ret (.inl ((zt (i+1)),(xs++([(nth f1.1 i (zb zW)).1]:List zf)))))
  (.zd (zh xs.length (0:Nat) xs.length xs.length) <|
 .zd (xs.length=xs.length) <|
 .ret (.inr xs))
def sy f1 s:=T.loop (jT f1) s
def kz(f2:Form):(Int×(List zf))→T ((Int×(List zf))⊕((List zf)⊕(zf×(List zf))))
 | (i1,zR) =>
 .ite (decide (i1<(f2.2.2.1.length:Int)))
  (T.bind (.zd (zi i1 f2.2.2.1.length) <|
 .ite (!(zH (nth f2.2.2.1 i1 (zb qu)).2.1 ([]:zf)))
  (.zd (zi i1 f2.2.2.1.length) <|
 .zd (zR.length=zR.length) <|
 T.bind (yK (List.drop (0:Nat) (List.take ((0:Nat)+zR.length) zR)) (nth f2.2.2.1 i1 (zb qu)).2.1) fun r =>
 .zd (zh zR.length (0:Nat) zR.length zR.length) <|
 .zd (zR.length=zR.length) <|
 .ret ((!r),zR))
  (.zd (zh zR.length (0:Nat) zR.length zR.length) <|
 .zd (zR.length=zR.length) <|
 .ret (false,zR)):T ((Bool×(List zf)))) fun(x,qH) =>
 .ite x
  (.zd (zi i1 f2.2.2.1.length) <|
 .zd (qH.length=qH.length) <|
 .ret (.inr (.inr ((nth f2.2.2.1 i1 (zb qu)).2.1,qH))))
  (.zd (zh qH.length (0:Nat) qH.length qH.length) <|
 .zd (qH.length=qH.length) <|
 .ret (.inl ((zt (i1+1)),qH))))
  (.zd (zh zR.length (0:Nat) zR.length zR.length) <|
 .zd (zR.length=zR.length) <|
 .ret (.inr (.inl zR)))
def sa f2 s:=T.loop (kz f2) s
def kK(f3:Form):(Int×(List zf))→T ((Int×(List zf))⊕((List zf)⊕(zf×(List zf))))
 | (i2,xs6) =>
 .ite (decide (i2<(f3.2.2.2.2.1.length:Int)))
  (T.bind (.zd (zi i2 f3.2.2.2.2.1.length) <|
 .ite (!(zH (nth f3.2.2.2.2.1 i2 (zb zo)).2.2.1 ([]:zf)))
  (.zd (zi i2 f3.2.2.2.2.1.length) <|
 .zd (xs6.length=xs6.length) <|
 T.bind (yK (List.drop (0:Nat) (List.take ((0:Nat)+xs6.length) xs6)) (nth f3.2.2.2.2.1 i2 (zb zo)).2.2.1) fun r1 =>
 .zd (zh xs6.length (0:Nat) xs6.length xs6.length) <|
 .zd (xs6.length=xs6.length) <|
 .ret ((!r1),xs6))
  (.zd (zh xs6.length (0:Nat) xs6.length xs6.length) <|
 .zd (xs6.length=xs6.length) <|
 .ret (false,xs6)):T ((Bool×(List zf)))) fun(x2,vI) =>
 .ite x2
  (.zd (zi i2 f3.2.2.2.2.1.length) <|
 .zd (vI.length=vI.length) <|
 .ret (.inr (.inr ((nth f3.2.2.2.2.1 i2 (zb zo)).2.2.1,vI))))
  (.zd (zh vI.length (0:Nat) vI.length vI.length) <|
 .zd (vI.length=vI.length) <|
 .ret (.inl ((zt (i2+1)),vI))))
  (.zd (xs6.length=xs6.length) <|
 .ret (.inr (.inl xs6)))
def sC f3 s:=T.loop (kK f3) s
def dr(f:Form):T zf :=
 .zd (zh (0:Nat) (0:Nat) (0:Nat) (0:Nat)) <|
 .zd ((0:Nat)=(0:Nat)) <|
 T.bind (sy f ((0:Int),([]:List zf))) fun zA =>
 .zd (zh zA.length (0:Nat) zA.length zA.length) <|
 .zd (zA.length=zA.length) <|
 T.bind (sa f ((0:Int),zA)) <|
 Sum.elim (fun vb =>
 .zd (zh vb.length (0:Nat) vb.length vb.length) <|
 .zd (vb.length=vb.length) <|
 T.bind (sC f ((0:Int),vb)) <|
 Sum.elim (fun eA =>
 .ret ([]:zf))
  (fun(x3,pP) =>
 .ret x3))
  (fun(x1,je) =>
 .ret x1)
def yr(f1:Form):(Int×(List AM.Expr))→T ((Int×(List AM.Expr))⊕((List AM.Expr)))
 | (i,xs) =>
 .ite (decide (i<(f1.2.2.2.2.2.1.length:Int)))
  (.zd (zi i f1.2.2.2.2.2.1.length) <|
 .zd (zi i f1.2.2.2.2.2.1.length) <|
 .zd (xC xs.length xs.length (0:Nat) xs.length xs.length (2:Nat) (104:Nat)) <|
 .zd (zh (xs.length+(2:Nat)) (0:Nat) (xs.length+(2:Nat)) (List.length (xs++([(nth f1.2.2.2.2.2.1 i (zb zn)).2.2.2.1,(nth f1.2.2.2.2.2.1 i (zb zn)).2.2.2.2.1]:List AM.Expr)))) <|
 .zd ((xs.length+(2:Nat))=(List.length (xs++([(nth f1.2.2.2.2.2.1 i (zb zn)).2.2.2.1,(nth f1.2.2.2.2.2.1 i (zb zn)).2.2.2.2.1]:List AM.Expr)))) <|
 .ret (.inl ((zt (i+1)),(xs++([(nth f1.2.2.2.2.2.1 i (zb zn)).2.2.2.1,(nth f1.2.2.2.2.2.1 i (zb zn)).2.2.2.2.1]:List AM.Expr)))))
  (.zd (zh xs.length (0:Nat) xs.length xs.length) <|
 .zd (xs.length=xs.length) <|
 .ret (.inr xs))
def Zh f1 s:=T.loop (yr f1) s
def yq(f2:Form):(Int×(List AM.Expr))→T ((Int×(List AM.Expr))⊕((List AM.Expr)))
 | (i1,zR) =>
 .ite (decide (i1<(f2.2.2.2.2.1.length:Int)))
  (.zd (zi i1 f2.2.2.2.2.1.length) <|
 .zd (zi i1 f2.2.2.2.2.1.length) <|
 .zd (xC zR.length zR.length (0:Nat) zR.length zR.length (2:Nat) (104:Nat)) <|
 .zd (zh (zR.length+(2:Nat)) (0:Nat) (zR.length+(2:Nat)) (List.length (zR++([(nth f2.2.2.2.2.1 i1 (zb zo)).2.2.2.1,(nth f2.2.2.2.2.1 i1 (zb zo)).2.2.2.2.1]:List AM.Expr)))) <|
 .zd ((zR.length+(2:Nat))=(List.length (zR++([(nth f2.2.2.2.2.1 i1 (zb zo)).2.2.2.1,(nth f2.2.2.2.2.1 i1 (zb zo)).2.2.2.2.1]:List AM.Expr)))) <|
 .ret (.inl ((zt (i1+1)),(zR++([(nth f2.2.2.2.2.1 i1 (zb zo)).2.2.2.1,(nth f2.2.2.2.2.1 i1 (zb zo)).2.2.2.2.1]:List AM.Expr)))))
  (.zd (zh zR.length (0:Nat) zR.length zR.length) <|
 .zd (zR.length=zR.length) <|
 .ret (.inr zR))
def Zn f2 s:=T.loop (yq f2) s
def fX(f:Form):T (List AM.Expr) :=
 .zd (zh (0:Nat) (0:Nat) (0:Nat) (0:Nat)) <|
 .zd ((0:Nat)=(0:Nat)) <|
 T.bind (Zh f ((0:Int),([]:List AM.Expr))) fun zA =>
 .zd (zh zA.length (0:Nat) zA.length zA.length) <|
 .zd (zA.length=zA.length) <|
 T.bind (Zn f ((0:Int),zA)) fun qH =>
 .zd (qH.length=qH.length) <|
 .ret (List.drop (0:Nat) (List.take ((0:Nat)+qH.length) qH))
def yv(xK:AM.Expr→T (List zf))(e2:AM.Expr)(i1:Int)(m1:(List zf)):(Int×(List zf))→T ((Int×(List zf))⊕((List zf)))
 | (k,zA) =>
 .ite (decide (k<(m1.length:Int)))
  (.zd (zi k m1.length) <|
 .zd (zA.length=zA.length) <|
 T.bind (yK (List.drop (0:Nat) (List.take ((0:Nat)+zA.length) zA)) (nth m1 k (zb .str))) fun r =>
 .ite (!r)
  (.zd (zi k m1.length) <|
 .zd (xC zA.length zA.length (0:Nat) zA.length zA.length (1:Nat) (16:Nat)) <|
 .zd (zh (zA.length+(1:Nat)) (0:Nat) (zA.length+(1:Nat)) (List.length (zA++([(nth m1 k (zb .str))]:List zf)))) <|
 .zd ((zA.length+(1:Nat))=(List.length (zA++([(nth m1 k (zb .str))]:List zf)))) <|
 .ret (.inl ((zt (k+1)),(zA++([(nth m1 k (zb .str))]:List zf)))))
  (.zd (zh zA.length (0:Nat) zA.length zA.length) <|
 .zd (zA.length=zA.length) <|
 .ret (.inl ((zt (k+1)),zA))))
  (.zd (zh zA.length (0:Nat) zA.length zA.length) <|
 .zd (zA.length=zA.length) <|
 .ret (.inr zA))
def Zi xK e2 i1 m1 s:=T.loop (yv xK e2 i1 m1) s
def yo(xK:AM.Expr→T (List zf))(e1:AM.Expr):(Int×(List zf))→T ((Int×(List zf))⊕((List zf)))
 | (i,xs) =>
 .ite (decide (i<((Expr.kids e1).length:Int)))
  (.zd (zi i (Expr.kids e1).length) <|
 T.bind (xK (nth (Expr.kids e1) i (zb .expr))) fun m =>
 .zd (zh xs.length (0:Nat) xs.length xs.length) <|
 .zd (xs.length=xs.length) <|
 T.bind (Zi xK e1 i m ((0:Int),xs)) fun zR =>
 .zd (zh zR.length (0:Nat) zR.length zR.length) <|
 .zd (zR.length=zR.length) <|
 .ret (.inl ((zt (i+1)),zR)))
  (.zd (zh xs.length (0:Nat) xs.length xs.length) <|
 .zd (xs.length=xs.length) <|
 .ret (.inr xs))
def yB xK e1 s:=T.loop (yo xK e1) s
def eU(xK:AM.Expr→T (List zf))(e:AM.Expr):T (List zf) :=
 .ite ((Expr.kind e)==2)
  (.zd (((1:Nat)*(16:Nat))≤(140737488355328:Nat)) <|
 .zd (zh (1:Nat) (0:Nat) (1:Nat) (1:Nat)) <|
 .zd ((1:Nat)=(1:Nat)) <|
 T.bind (yB xK e ((0:Int),([(Expr.name e)]:List zf))) fun qH =>
 .zd (qH.length=qH.length) <|
 .ret (List.drop (0:Nat) (List.take ((0:Nat)+qH.length) qH)))
  (.zd (zh (0:Nat) (0:Nat) (0:Nat) (0:Nat)) <|
 .zd ((0:Nat)=(0:Nat)) <|
 T.bind (yB xK e ((0:Int),([]:List zf))) fun vb =>
 .zd (vb.length=vb.length) <|
 .ret (List.drop (0:Nat) (List.take ((0:Nat)+vb.length) vb)))
def fO(e:AM.Expr):T (List zf):=T.fix (fun F x=>eU (fun y0=>F (y0)) x) e
def jf(l2:(List AM.Expr))(Ep:(List zf))(i1:Int)(n1:(List zf)):Int→T (Int⊕(Unit⊕zf))
 | k =>
 .ite (decide (k<(n1.length:Int)))
  (.zd (zi k n1.length) <|
 T.bind (yK Ep (nth n1 k (zb .str))) fun r =>
 .ite (!r)
  (.zd (zi k n1.length) <|
 .ret (.inr (.inr (nth n1 k (zb .str)))))
  (.ret (.inl (zt (k+1)))))
  (.ret (.inr (.inl ())))
def pe l2 Ep i1 n1 s:=T.loop (jf l2 Ep i1 n1) s
def j9(l1:(List AM.Expr))(DW:(List zf)):Int→T (Int⊕(Unit⊕zf))
 | i =>
 .ite (decide (i<(l1.length:Int)))
  (.zd (zi i l1.length) <|
 T.bind (fO (nth l1 i (zb .expr))) fun n =>
 T.bind (pe l1 DW i n (0:Int)) <|
 Sum.elim (fun _ =>
 .ret (.inl (zt (i+1))))
  (fun x =>
 .ret (.inr (.inr x))))
  (.ret (.inr (.inl ())))
def oZ l1 DW s:=T.loop (j9 l1 DW) s
def gP(l:(List AM.Expr))(known:(List zf)):T zf :=
 T.bind (oZ l known (0:Int)) <|
 Sum.elim (fun _ =>
 .ret ([]:zf))
  (fun x1 =>
 .ret x1)
def dy(kO:(List zf))(l1:(List zf)):Int→T (Int⊕(Unit⊕Bool))
 | i =>
 .ite (decide (i<(l1.length:Int)))
  (.zd (zi i l1.length) <|
 T.bind (yK kO (nth l1 i (zb .str))) fun r =>
 .ite r
  (.ret (.inr (.inr true)))
  (.ret (.inl (zt (i+1)))))
  (.ret (.inr (.inl ())))
def VH kO l1 s:=T.loop (dy kO l1) s
def bc(e:AM.Expr)(fields:(List zf)):T Bool :=
 T.bind (fO e) fun l =>
 T.bind (VH fields l (0:Int)) <|
 Sum.elim (fun _ =>
 .ret false)
  (fun x =>
 .ret x)
def jS(uE:AM.Expr→(List zf)→T Bool)(kO:(List zf))(e1:AM.Expr):Int→T (Int⊕(Unit⊕Bool))
 | i =>
 .ite (decide (i<((Expr.kids e1).length:Int)))
  (.zd (zi i (Expr.kids e1).length) <|
 T.bind (uE (nth (Expr.kids e1) i (zb .expr)) kO) fun r =>
 .ite (!r)
  (.ret (.inr (.inr false)))
  (.ret (.inl (zt (i+1)))))
  (.ret (.inr (.inl ())))
def rh uE kO e1 s:=T.loop (jS uE kO e1) s
def cN(uE:AM.Expr→(List zf)→T Bool)(e:AM.Expr)(fields:(List zf)):T Bool :=
 T.bind (rh uE fields e (0:Int)) <|
 Sum.elim (fun _ =>
 .ite (((Expr.kind e)==5)&&(((Expr.kids e).length:Int)==(2:Int)))
  (.zd (zi (0:Int) (Expr.kids e).length) <|
 T.bind (bc (nth (Expr.kids e) (0:Int) (zb .expr)) fields) fun r1 =>
 .ite (!r1)
  (.ret true)
  (.zd (zi (1:Int) (Expr.kids e).length) <|
 T.bind (bc (nth (Expr.kids e) (1:Int) (zb .expr)) fields) fun r2 =>
 .ret (!r2)))
  (.ite (((Expr.kind e)==6)&&(((Expr.kids e).length:Int)==(2:Int)))
  (.zd (zi (1:Int) (Expr.kids e).length) <|
 T.bind (bc (nth (Expr.kids e) (1:Int) (zb .expr)) fields) fun r3 =>
 .ret (!r3))
  (.ret true)))
  (fun x =>
 .ret x)
def dn(e:AM.Expr)(fields:(List zf)):T Bool:=T.fix (fun F x=>cN (fun y0 y1=>F (y0,y1)) x.1 x.2) (e,fields)
def jQ(f1:Form)(kO:(List zf)):(Int×(List zf))→T ((Int×(List zf))⊕((List zf)))
 | (i,xs) =>
 .ite (decide (i<(f1.2.1.length:Int)))
  (.zd (zi i f1.2.1.length) <|
 .zd (xC xs.length xs.length (0:Nat) xs.length xs.length (1:Nat) (16:Nat)) <|
 .zd (zh (xs.length+(1:Nat)) (0:Nat) (xs.length+(1:Nat)) (List.length (xs++([(nth f1.2.1 i (zb zX)).1]:List zf)))) <|
 .zd ((xs.length+(1:Nat))=(List.length (xs++([(nth f1.2.1 i (zb zX)).1]:List zf)))) <|
 .ret (.inl ((zt (i+1)),(xs++([(nth f1.2.1 i (zb zX)).1]:List zf)))))
  (.zd (zh xs.length (0:Nat) xs.length xs.length) <|
 .zd (xs.length=xs.length) <|
 .ret (.inr xs))
def fB f1 kO s:=T.loop (jQ f1 kO) s
def jU(f2:Form)(nW:(List zf)):Int→T (Int⊕(Unit⊕(Int×zf)))
 | i1 =>
 .ite (decide (i1<(f2.2.2.2.2.1.length:Int)))
  (T.bind (.zd (zi i1 f2.2.2.2.2.1.length) <|
 T.bind (dn (nth f2.2.2.2.2.1 i1 (zb zo)).2.2.2.1 nW) fun r3 =>
 .ite (!r3)
  (.ret true)
  (.zd (zi i1 f2.2.2.2.2.1.length) <|
 T.bind (dn (nth f2.2.2.2.2.1 i1 (zb zo)).2.2.2.2.1 nW) fun r4 =>
 .ret (!r4)):T (Bool)) fun x =>
 .ite x
  (.zd (zi i1 f2.2.2.2.2.1.length) <|
 .ret (.inr (.inr ((6:Int),(nth f2.2.2.2.2.1 i1 (zb zo)).1))))
  (.ret (.inl (zt (i1+1)))))
  (.ret (.inr (.inl ())))
def sK f2 nW s:=T.loop (jU f2 nW) s
def lI(f:Form):T (Int×zf) :=
 T.bind (Ug f) fun r =>
 .ite (!r)
  (.ret ((2:Int),([]:zf)))
  (.ite ((decide ((64:Int)<(f.2.2.2.1.length:Int)))||(decide ((64:Int)<(f.2.2.2.2.1.length:Int))))
  (.ret ((3:Int),([]:zf)))
  (T.bind (ot f) fun r1 =>
 T.bind (nn r1) fun s =>
 T.bind (.ite (zH s ([]:zf))
  (T.bind (dr f) fun s1 =>
 .ret s1)
  (.ret s):T (zf)) fun s2 =>
 T.bind (gH f) fun fields =>
 T.bind (.ite (zH s2 ([]:zf))
  (.zd (xC (0:Nat) (0:Nat) (0:Nat) (0:Nat) (0:Nat) fields.length (16:Nat)) <|
 .zd (zh ((0:Nat)+fields.length) (0:Nat) ((0:Nat)+fields.length) fields.length) <|
 .zd (((0:Nat)+fields.length)=fields.length) <|
 T.bind (fB f fields ((0:Int),fields)) fun zA =>
 T.bind (fX f) fun r2 =>
 .zd (zA.length=zA.length) <|
 T.bind (gP r2 (List.drop (0:Nat) (List.take ((0:Nat)+zA.length) zA))) fun s3 =>
 .ret s3)
  (.ret s2):T (zf)) fun s4 =>
 .ite (!(zH s4 ([]:zf)))
  (.ret ((5:Int),s4))
  (T.bind (sK f fields (0:Int)) <|
 Sum.elim (fun _ =>
 .ret ((0:Int),([]:zf)))
  (fun(x1,x2) =>
 .ret (x1,x2)))))
def cT(f1:Form):(Int×((List Rat)×Unit)×(List Rat)×((List zf)×Unit)×(List zf)×(List zf)×(List zf))→T ((Int×((List Rat)×Unit)×(List Rat)×((List zf)×Unit)×(List zf)×(List zf)×(List zf))⊕((((List Rat)×Unit)×(List Rat)×((List zf)×Unit)×(List zf)×(List zf)×(List zf))))
 | (i,v,xs,v1,zA,zR,qH) =>
 .ite (decide (i<(f1.2.1.length:Int)))
  (.zd (zi i f1.2.1.length) <|
 .zd (xC qH.length qH.length (0:Nat) qH.length qH.length (1:Nat) (16:Nat)) <|
 .zd (zh zA.length (0:Nat) zA.length zA.length) <|
 .zd (zh zR.length (0:Nat) zR.length zR.length) <|
 .zd (xs.length=xs.length) <|
 .zd (zh (qH.length+(1:Nat)) (0:Nat) (qH.length+(1:Nat)) (List.length (qH++([(nth f1.2.1 i (zb zX)).1]:List zf)))) <|
 .zd (zh xs.length (0:Nat) xs.length xs.length) <|
 .zd (zA.length=zA.length) <|
 .zd (zR.length=zR.length) <|
 .zd ((qH.length+(1:Nat))=(List.length (qH++([(nth f1.2.1 i (zb zX)).1]:List zf)))) <|
 .ret (.inl ((zt (i+1)),((v.1,()),(xs,((v1.1,()),(zA,(zR,(qH++([(nth f1.2.1 i (zb zX)).1]:List zf))))))))))
  (.zd (zh zA.length (0:Nat) zA.length zA.length) <|
 .zd (zh zR.length (0:Nat) zR.length zR.length) <|
 .zd (xs.length=xs.length) <|
 .zd (zh qH.length (0:Nat) qH.length qH.length) <|
 .zd (zh xs.length (0:Nat) xs.length xs.length) <|
 .zd (zA.length=zA.length) <|
 .zd (zR.length=zR.length) <|
 .zd (qH.length=qH.length) <|
 .ret (.inr ((v.1,()),(xs,((v1.1,()),(zA,(zR,qH)))))))
def WK f1 s:=T.loop (cT f1) s
def mQ(f:Form)(params:(List Rat)):T zK :=
 T.bind (gH f) fun r =>
 .zd (xC (0:Nat) (0:Nat) (0:Nat) (0:Nat) (0:Nat) params.length (56:Nat)) <|
 .zd (zh (0:Nat) (0:Nat) (0:Nat) (0:Nat)) <|
 .zd (zh (0:Nat) (0:Nat) (0:Nat) (0:Nat)) <|
 .zd (((0:Nat)+params.length)=params.length) <|
 .zd (zh (0:Nat) (0:Nat) (0:Nat) (0:Nat)) <|
 .zd (zh ((0:Nat)+params.length) (0:Nat) ((0:Nat)+params.length) params.length) <|
 .zd ((0:Nat)=(0:Nat)) <|
 .zd ((0:Nat)=(0:Nat)) <|
 .zd ((0:Nat)=(0:Nat)) <|
 T.bind (WK f ((0:Int),((([]:List Rat),()),(params,((r,()),(([]:List zf),(([]:List zf),([]:List zf)))))))) fun(v2,vb,v3,je,xs6,vI) =>
 .zd (vI.length=vI.length) <|
 .zd (vb.length=vb.length) <|
 .ret (v3.1,((List.drop (0:Nat) (List.take ((0:Nat)+vI.length) vI)),((List.drop (0:Nat) (List.take ((0:Nat)+vb.length) vb)),())))
def il(Nr:(List Bool))(Rb:zf)(f1:Form):Int→T (Int⊕(Unit⊕Bool))
 | i =>
 .ite (decide (i<(f1.1.length:Int)))
  (.zd (zi i f1.1.length) <|
 .ite (zH (nth f1.1 i (zb zW)).1 Rb)
  (.zd (((decide (i<(Nr.length:Int)))=true)→(zi i Nr.length)) <|
 .ret (.inr (.inr ((decide (i<(Nr.length:Int)))&&(nth Nr i (zb .bool))))))
  (.ret (.inl (zt (i+1)))))
  (.ret (.inr (.inl ())))
def ZX Nr Rb f1 s:=T.loop (il Nr Rb f1) s
def Uk(f:Form)(on:(List Bool))(when:zf):T Bool :=
 T.bind (ZX on when f (0:Int)) <|
 Sum.elim (fun _ =>
 .ret (zH when ([]:zf)))
  (fun x =>
 .ret x)
def cz(neg:Bool)(n:(List Int))(d:(List Int)):T Rat :=
 T.bind (xd (neg,(n,(d,())))) fun r =>
 .ret r
def wa(n:Int):T Rat :=
 T.bind (oF (bif (decide (n<(0:Int)))then(zw ((0:Int)-(zw n)))else(zw n))) fun r =>
 T.bind (cz (decide (n<(0:Int))) r ([(1:Int)]:List Int)) fun r1 =>
 .ret r1
def bu(s1:zf)(v1:zK):(Int×wg)→T ((Int×wg)⊕(wg⊕(Int×wg)))
 | (i,v2) =>
 .ite (decide (i<(v1.1.length:Int)))
  (.zd (zi i v1.1.length) <|
 .ite (zH (nth v1.1 i (zb .str)) s1)
  (T.bind (wa (1:Int)) fun r =>
 T.bind (wa (0:Int)) fun r1 =>
 .ret (.inr (.inr ((0:Int),((0:Int),(([(i,((r.1,(r.2.1,(r.2.2.1,()))),()))]:List Term),((r1.1,(r1.2.1,(r1.2.2.1,()))),())))))))
  (.ret (.inl ((zt (i+1)),v2))))
  (.ret (.inr (.inl v2)))
def eR s1 v1 s:=T.loop (bu s1 v1) s
def gX(s2:zf)(v5:zK):(Int×wg)→T ((Int×wg)⊕(wg⊕(Int×wg)))
 | (i1,v6) =>
 .ite (decide (i1<(v5.2.1.length:Int)))
  (.zd (zi i1 v5.2.1.length) <|
 .ite ((zH (nth v5.2.1 i1 (zb .str)) s2)&&(decide (i1<(v5.2.2.1.length:Int))))
  (.zd (zi i1 v5.2.2.1.length) <|
 T.bind (xd (nth v5.2.2.1 i1 (zb zJ))) fun r2 =>
 .ret (.inr (.inr ((0:Int),((0:Int),(([]:List Term),((r2.1,(r2.2.1,(r2.2.2.1,()))),())))))))
  (.zd (zi i1 v5.2.1.length) <|
 .ite (zH (nth v5.2.1 i1 (zb .str)) s2)
  (T.bind (wa (0:Int)) fun r3 =>
 .ret (.inr (.inr ((0:Int),((0:Int),(([]:List Term),((r3.1,(r3.2.1,(r3.2.2.1,()))),())))))))
  (.ret (.inl ((zt (i1+1)),v6)))))
  (.ret (.inr (.inl v6)))
def nH s2 v5 s:=T.loop (gX s2 v5) s
def tJ(s:zf)(v:zK):T (wg×Int) :=
 T.bind (eR s v ((0:Int),((0:Int),(([]:List Term),((false,(([]:List Int),(([]:List Int),()))),()))))) <|
 Sum.elim (fun v3 =>
 T.bind (nH s v ((0:Int),v3)) <|
 Sum.elim (fun v7 =>
 .ret (((0:Int),(([]:List Term),((false,(([]:List Int),(([]:List Int),()))),()))),(5:Int)))
  (fun(x1,v8) =>
 .ret (v8,x1)))
  (fun(x,v4) =>
 .ret (v4,x))
def dz(a:Rat)(b:Rat):T Rat :=
 T.bind (xd a) fun r =>
 T.bind (xd b) fun r1 =>
 T.bind (uK r.2.1 r1.2.1) fun r2 =>
 T.bind (uK r.2.2.1 r1.2.2.1) fun r3 =>
 T.bind (cz (!(r.1==r1.1)) r2 r3) fun r4 =>
 .ret r4
def mG(a:Rat):T Bool :=
 T.bind (xd a) fun r =>
 .ret ((r.2.1.length:Int)==(0:Int))
def vA(v:Int)(c:Rat)(l:(List Term)):T (List Term) :=
 T.bind (mG c) fun r =>
 .ite r
  (.zd (zh l.length (0:Nat) l.length l.length) <|
 .zd (l.length=l.length) <|
 .ret l)
  (T.bind (xd c) fun r1 =>
 .zd (xC l.length l.length (0:Nat) l.length l.length (1:Nat) (64:Nat)) <|
 .zd (zh (l.length+(1:Nat)) (0:Nat) (l.length+(1:Nat)) (List.length (l++([(v,((r1.1,(r1.2.1,(r1.2.2.1,()))),()))]:List Term)))) <|
 .zd ((l.length+(1:Nat))=(List.length (l++([(v,((r1.1,(r1.2.1,(r1.2.2.1,()))),()))]:List Term)))) <|
 .ret (l++([(v,((r1.1,(r1.2.1,(r1.2.2.1,()))),()))]:List Term)))
def yP(a1:wg)(wX:Rat):(Int×(Int×Bool×(List Int)×(List Int)×Unit)×(Int×Bool×(List Int)×(List Int)×Unit)×(List Term)×(List Term))→T ((Int×(Int×Bool×(List Int)×(List Int)×Unit)×(Int×Bool×(List Int)×(List Int)×Unit)×(List Term)×(List Term))⊕(((Int×Bool×(List Int)×(List Int)×Unit)×(Int×Bool×(List Int)×(List Int)×Unit)×(List Term)×(List Term))))
 | (i,v,v1,xs,zA) =>
 .ite (decide (i<(a1.2.1.length:Int)))
  (.zd (zi i a1.2.1.length) <|
 .zd (zi i a1.2.1.length) <|
 T.bind (dz (nth a1.2.1 i (zb zp)).2.1 wX) fun r1 =>
 .zd (zh zA.length (0:Nat) zA.length zA.length) <|
 .zd (zA.length=zA.length) <|
 T.bind (vA (nth a1.2.1 i (zb zp)).1 r1 zA) fun zR =>
 .zd (zh xs.length (0:Nat) xs.length xs.length) <|
 .zd (zh zR.length (0:Nat) zR.length zR.length) <|
 .zd (xs.length=xs.length) <|
 .zd (zR.length=zR.length) <|
 .ret (.inl ((zt (i+1)),((v.1,(v.2.1,(v.2.2.1,(v.2.2.2.1,())))),((v1.1,(v1.2.1,(v1.2.2.1,(v1.2.2.2.1,())))),(xs,zR))))))
  (.zd (zh xs.length (0:Nat) xs.length xs.length) <|
 .zd (zh zA.length (0:Nat) zA.length zA.length) <|
 .zd (xs.length=xs.length) <|
 .zd (zA.length=zA.length) <|
 .ret (.inr ((v.1,(v.2.1,(v.2.2.1,(v.2.2.2.1,())))),((v1.1,(v1.2.1,(v1.2.2.1,(v1.2.2.2.1,())))),(xs,zA)))))
def lS a1 wX s:=T.loop (yP a1 wX) s
def va(a:wg)(vd:Rat):T wg :=
 T.bind (dz a.2.2.1 vd) fun r =>
 .zd (zh (0:Nat) (0:Nat) (0:Nat) (0:Nat)) <|
 .zd (zh (0:Nat) (0:Nat) (0:Nat) (0:Nat)) <|
 .zd ((0:Nat)=(0:Nat)) <|
 .zd ((0:Nat)=(0:Nat)) <|
 T.bind (lS a vd ((0:Int),(((0:Int),(false,(([]:List Int),(([]:List Int),())))),((a.1,(r.1,(r.2.1,(r.2.2.1,())))),(([]:List Term),([]:List Term)))))) fun(v2,v3,qH,vb) =>
 .zd (vb.length=vb.length) <|
 .ret (v3.1,((List.drop (0:Nat) (List.take ((0:Nat)+vb.length) vb)),((v3.2.1,(v3.2.2.1,(v3.2.2.2.1,()))),())))
def db(a:Rat)(b:Rat):T Rat :=
 T.bind (xd a) fun r =>
 T.bind (xd b) fun r1 =>
 T.bind (uK r.2.1 r1.2.2.1) fun p =>
 T.bind (uK r1.2.1 r.2.2.1) fun q =>
 T.bind (uK r.2.2.1 r1.2.2.1) fun d =>
 .ite (r.1==r1.1)
  (T.bind (mq p q) fun r2 =>
 T.bind (cz r.1 r2 d) fun r3 =>
 .ret r3)
  (T.bind (fM p q) fun r4 =>
 .ite (decide ((0:Int)≤r4))
  (T.bind (iw p q) fun(n,r5) =>
 T.bind (cz r.1 n d) fun r6 =>
 .ret r6)
  (T.bind (iw q p) fun(n1,r7) =>
 T.bind (cz r1.1 n1 d) fun r8 =>
 .ret r8))
def uV(a1:wg)(b1:wg):(Int×Int×(Int×Bool×(List Int)×(List Int)×Unit)×(Int×Bool×(List Int)×(List Int)×Unit)×(List Term)×(List Term))→T ((Int×Int×(Int×Bool×(List Int)×(List Int)×Unit)×(Int×Bool×(List Int)×(List Int)×Unit)×(List Term)×(List Term))⊕(((Int×Bool×(List Int)×(List Int)×Unit)×(Int×Bool×(List Int)×(List Int)×Unit)×(List Term)×(List Term))))
 | (i,k,v,v1,xs,zA) =>
 .ite ((decide (i<(a1.2.1.length:Int)))||(decide (k<(b1.2.1.length:Int))))
  (.zd (((k==(b1.2.1.length:Int))=false)→(((decide (i<(a1.2.1.length:Int)))=true)→((zi i a1.2.1.length)∧(zi k b1.2.1.length)))) <|
 .ite ((k==(b1.2.1.length:Int))||((decide (i<(a1.2.1.length:Int)))&&(decide ((nth a1.2.1 i (zb zp)).1<(nth b1.2.1 k (zb zp)).1))))
  (.zd (zi i a1.2.1.length) <|
 .zd (zi i a1.2.1.length) <|
 .zd (zh zA.length (0:Nat) zA.length zA.length) <|
 .zd (zA.length=zA.length) <|
 T.bind (vA (nth a1.2.1 i (zb zp)).1 (nth a1.2.1 i (zb zp)).2.1 zA) fun zR =>
 .zd (zh xs.length (0:Nat) xs.length xs.length) <|
 .zd (zh zR.length (0:Nat) zR.length zR.length) <|
 .zd (xs.length=xs.length) <|
 .zd (zR.length=zR.length) <|
 .ret (.inl ((zt (i+1)),(k,((v.1,(v.2.1,(v.2.2.1,(v.2.2.2.1,())))),((v1.1,(v1.2.1,(v1.2.2.1,(v1.2.2.2.1,())))),(xs,zR)))))))
  (.zd (((i==(a1.2.1.length:Int))=false)→((zi k b1.2.1.length)∧(zi i a1.2.1.length))) <|
 .ite ((i==(a1.2.1.length:Int))||(decide ((nth b1.2.1 k (zb zp)).1<(nth a1.2.1 i (zb zp)).1)))
  (.zd (zi k b1.2.1.length) <|
 .zd (zi k b1.2.1.length) <|
 .zd (zh zA.length (0:Nat) zA.length zA.length) <|
 .zd (zA.length=zA.length) <|
 T.bind (vA (nth b1.2.1 k (zb zp)).1 (nth b1.2.1 k (zb zp)).2.1 zA) fun qH =>
 .zd (zh xs.length (0:Nat) xs.length xs.length) <|
 .zd (zh qH.length (0:Nat) qH.length qH.length) <|
 .zd (xs.length=xs.length) <|
 .zd (qH.length=qH.length) <|
 .ret (.inl (i,((zt (k+1)),((v.1,(v.2.1,(v.2.2.1,(v.2.2.2.1,())))),((v1.1,(v1.2.1,(v1.2.2.1,(v1.2.2.2.1,())))),(xs,qH)))))))
  (.zd (zi i a1.2.1.length) <|
 .zd (zi i a1.2.1.length) <|
 .zd (zi k b1.2.1.length) <|
 T.bind (db (nth a1.2.1 i (zb zp)).2.1 (nth b1.2.1 k (zb zp)).2.1) fun r1 =>
 .zd (zh zA.length (0:Nat) zA.length zA.length) <|
 .zd (zA.length=zA.length) <|
 T.bind (vA (nth a1.2.1 i (zb zp)).1 r1 zA) fun vb =>
 .zd (zh xs.length (0:Nat) xs.length xs.length) <|
 .zd (zh vb.length (0:Nat) vb.length vb.length) <|
 .zd (xs.length=xs.length) <|
 .zd (vb.length=vb.length) <|
 .ret (.inl ((zt (i+1)),((zt (k+1)),((v.1,(v.2.1,(v.2.2.1,(v.2.2.2.1,())))),((v1.1,(v1.2.1,(v1.2.2.1,(v1.2.2.2.1,())))),(xs,vb)))))))))
  (.zd (zh xs.length (0:Nat) xs.length xs.length) <|
 .zd (zh zA.length (0:Nat) zA.length zA.length) <|
 .zd (xs.length=xs.length) <|
 .zd (zA.length=zA.length) <|
 .ret (.inr ((v.1,(v.2.1,(v.2.2.1,(v.2.2.2.1,())))),((v1.1,(v1.2.1,(v1.2.2.1,(v1.2.2.2.1,())))),(xs,zA)))))
def gA a1 b1 s:=T.loop (uV a1 b1) s
def cU(a:wg)(b:wg):T wg :=
 T.bind (db a.2.2.1 b.2.2.1) fun r =>
 .zd (zh (0:Nat) (0:Nat) (0:Nat) (0:Nat)) <|
 .zd (zh (0:Nat) (0:Nat) (0:Nat) (0:Nat)) <|
 .zd ((0:Nat)=(0:Nat)) <|
 .zd ((0:Nat)=(0:Nat)) <|
 T.bind (gA a b ((0:Int),((0:Int),(((0:Int),(false,(([]:List Int),(([]:List Int),())))),((a.1,(r.1,(r.2.1,(r.2.2.1,())))),(([]:List Term),([]:List Term))))))) fun(v2,v3,je,xs6) =>
 .zd (xs6.length=xs6.length) <|
 .ret (v3.1,((List.drop (0:Nat) (List.take ((0:Nat)+xs6.length) xs6)),((v3.2.1,(v3.2.2.1,(v3.2.2.2.1,()))),())))
def sj(a:wg)(b:wg):T (wg×Int) :=
 .ite ((decide ((0:Int)<(a.2.1.length:Int)))&&(decide ((0:Int)<(b.2.1.length:Int))))
  (.ret (((0:Int),(([]:List Term),((false,(([]:List Int),(([]:List Int),()))),()))),(6:Int)))
  (.ite (decide ((0:Int)<(a.2.1.length:Int)))
  (T.bind (va a b.2.2.1) fun r =>
 .ret (r,(0:Int)))
  (T.bind (va b a.2.2.1) fun r1 =>
 .ret (r1,(0:Int))))
def fH(a:Rat)(b:Rat):T (Rat×Bool) :=
 T.bind (xd a) fun r =>
 T.bind (xd b) fun r1 =>
 .ite ((r1.2.1.length:Int)==(0:Int))
  (T.bind (xd (false,(([]:List Int),(([]:List Int),())))) fun r2 =>
 .ret (r2,false))
  (T.bind (uK r.2.1 r1.2.2.1) fun r3 =>
 T.bind (uK r.2.2.1 r1.2.1) fun r4 =>
 T.bind (cz (!(r.1==r1.1)) r3 r4) fun r5 =>
 .ret (r5,true))
def rT(a:wg)(b:wg):T (wg×Int) :=
 .ite (decide ((0:Int)<(b.2.1.length:Int)))
  (.ret (((0:Int),(([]:List Term),((false,(([]:List Int),(([]:List Int),()))),()))),(6:Int)))
  (T.bind (wa (1:Int)) fun r =>
 T.bind (fH r b.2.2.1) fun(r1,ok) =>
 .ite (!ok)
  (.ret (((0:Int),(([]:List Term),((false,(([]:List Int),(([]:List Int),()))),()))),(7:Int)))
  (T.bind (va a r1) fun r2 =>
 .ret (r2,(0:Int))))
def sW(XO:AM.Expr→zK→T (wg×Int))(e:AM.Expr)(v:zK):T (wg×Int) :=
 .ite ((Expr.kind e)==1)
  (T.bind (xd (Expr.num e)) fun r =>
 .ret (((0:Int),(([]:List Term),((r.1,(r.2.1,(r.2.2.1,()))),()))),(0:Int)))
  (.ite ((Expr.kind e)==2)
  (T.bind (tJ (Expr.name e) v) fun(r1,r2) =>
 .ret (r1,r2))
  (.zd (zi (0:Int) (Expr.kids e).length) <|
 T.bind (XO (nth (Expr.kids e) (0:Int) (zb .expr)) v) fun(r3,x) =>
 .ite (x != 0)
  (.ret (((0:Int),(([]:List Term),((false,(([]:List Int),(([]:List Int),()))),()))),x))
  (.ite ((Expr.kind e)==7)
  (T.bind (wa (-1:Int)) fun r4 =>
 T.bind (va r3 r4) fun r5 =>
 .ret (r5,(0:Int)))
  (.zd (zi (1:Int) (Expr.kids e).length) <|
 T.bind (XO (nth (Expr.kids e) (1:Int) (zb .expr)) v) fun(r6,x1) =>
 .ite (x1 != 0)
  (.ret (((0:Int),(([]:List Term),((false,(([]:List Int),(([]:List Int),()))),()))),x1))
  (.ite ((Expr.kind e)==3)
  (T.bind (cU r3 r6) fun r7 =>
 .ret (r7,(0:Int)))
  (.ite ((Expr.kind e)==4)
  (T.bind (wa (-1:Int)) fun r8 =>
 T.bind (va r6 r8) fun r9 =>
 T.bind (cU r3 r9) fun S4 =>
 .ret (S4,(0:Int)))
  (.ite ((Expr.kind e)==5)
  (T.bind (sj r3 r6) fun(r11,r12) =>
 .ret (r11,r12))
  (T.bind (rT r3 r6) fun(r13,r14) =>
 .ret (r13,r14)))))))))
def Uo(e:AM.Expr)(v:zK):T (wg×Int):=T.fix (fun F x=>sW (fun y0 y1=>F (y0,y1)) x.1 x.2) (e,v)
def XE(e:AM.Expr)(v:zK):T (wg×Int) :=
 T.bind (yV e) fun r =>
 .ite (!r)
  (.ret (((0:Int),(([]:List Term),((false,(([]:List Int),(([]:List Int),()))),()))),(5:Int)))
  (T.bind (Uo e v) fun(r1,r2) =>
 .ret (r1,r2))
def cI(r:uX)(v:zK):T (wg×Int) :=
 T.bind (XE r.2.2.2.1 v) fun(r1,e) =>
 .ite (e != 0)
  (.ret (((0:Int),(([]:List Term),((false,(([]:List Int),(([]:List Int),()))),()))),e))
  (T.bind (XE r.2.2.2.2.1 v) fun(r2,e1) =>
 .ite (e1 != 0)
  (.ret (((0:Int),(([]:List Term),((false,(([]:List Int),(([]:List Int),()))),()))),e1))
  (T.bind (wa (-1:Int)) fun r3 =>
 T.bind (va r2 r3) fun r4 =>
 T.bind (cU r1 r4) fun r5 =>
 .ret ((r.2.1,(r5.2.1,((r5.2.2.1.1,(r5.2.2.1.2.1,(r5.2.2.1.2.2.1,()))),()))),(0:Int))))
def yp(c1:wg):Int→T (Int⊕(Unit⊕Bool))
 | i =>
 .ite (decide (i<(c1.2.1.length:Int)))
  (.zd (zi i c1.2.1.length) <|
 T.bind (kg (nth c1.2.1 i (zb zp)).2.1) fun r =>
 .ite r
  (.ret (.inr (.inr true)))
  (.ret (.inl (zt (i+1)))))
  (.ret (.inr (.inl ())))
def lQ c1 s:=T.loop (yp c1) s
def oz(c:wg):T Bool :=
 T.bind (lQ c (0:Int)) <|
 Sum.elim (fun _ =>
 T.bind (kg c.2.2.1) fun r1 =>
 .ret r1)
  (fun x =>
 .ret x)
def b8(params1:(List Rat))(Nr:(List Bool))(f1:Form):Int→T (Int⊕(Unit⊕(zf×Int)))
 | i =>
 .ite (decide (i<(params1.length:Int)))
  (.zd (zi i params1.length) <|
 T.bind (cn (nth params1 i (zb zJ))) fun r =>
 .ite (!r)
  (.ret (.inr (.inr (([]:zf),(1:Int)))))
  (.ret (.inl (zt (i+1)))))
  (.ret (.inr (.inl ())))
def nO params1 Nr f1 s:=T.loop (b8 params1 Nr f1) s
def u9(on2:(List Bool))(f2:Form):(Int×zK×(List wg)×(List Int))→T ((Int×zK×(List wg)×(List Int))⊕((zK×(List wg)×(List Int))⊕(zf×Int×zK×(List wg)×(List Int))))
 | (i1,v,xs,zA) =>
 .ite (decide (i1<(f2.2.2.2.2.1.length:Int)))
  (.zd (zi i1 f2.2.2.2.2.1.length) <|
 T.bind (Uk f2 on2 (nth f2.2.2.2.2.1 i1 (zb zo)).2.2.1) fun r2 =>
 .ite (!r2)
  (.zd (zh xs.length (0:Nat) xs.length xs.length) <|
 .zd (zh zA.length (0:Nat) zA.length zA.length) <|
 .zd (xs.length=xs.length) <|
 .zd (zA.length=zA.length) <|
 .ret (.inl ((zt (i1+1)),(v,(xs,zA)))))
  (.zd (zi i1 f2.2.2.2.2.1.length) <|
 T.bind (cI (nth f2.2.2.2.2.1 i1 (zb zo)) v) fun(r3,e1) =>
 .ite (e1 != 0)
  (.zd (zi i1 f2.2.2.2.2.1.length) <|
 .zd (xs.length=xs.length) <|
 .zd (zA.length=zA.length) <|
 .ret (.inr (.inr ((nth f2.2.2.2.2.1 i1 (zb zo)).1,(e1,(v,(xs,zA)))))))
  (.zd (xC xs.length xs.length (0:Nat) xs.length xs.length (1:Nat) (88:Nat)) <|
 .zd (xC zA.length zA.length (0:Nat) zA.length zA.length (1:Nat) (8:Nat)) <|
 .zd (zh (xs.length+(1:Nat)) (0:Nat) (xs.length+(1:Nat)) (List.length (xs++([r3]:List wg)))) <|
 .zd (zh (zA.length+(1:Nat)) (0:Nat) (zA.length+(1:Nat)) (List.length (zA++([i1]:List Int)))) <|
 .zd ((xs.length+(1:Nat))=(List.length (xs++([r3]:List wg)))) <|
 .zd ((zA.length+(1:Nat))=(List.length (zA++([i1]:List Int)))) <|
 .ret (.inl ((zt (i1+1)),(v,((xs++([r3]:List wg)),(zA++([i1]:List Int)))))))))
  (.zd (zh xs.length (0:Nat) xs.length xs.length) <|
 .zd (zh zA.length (0:Nat) zA.length zA.length) <|
 .zd (xs.length=xs.length) <|
 .zd (zA.length=zA.length) <|
 .ret (.inr (.inl (v,(xs,zA)))))
def kY on2 f2 s:=T.loop (u9 on2 f2) s
def gQ(f3:Form):(Int×zK×(List wg)×(List Int))→T ((Int×zK×(List wg)×(List Int))⊕((zK×(List wg)×(List Int))⊕(zf×Int×zK×(List wg)×(List Int))))
 | (i2,v3,xs6,vI) =>
 .ite (decide (i2<(xs6.length:Int)))
  (.zd (zi i2 xs6.length) <|
 .zd (iM xs6.length xs6.length ((0:Nat)+(Int.toNat i2)) xs6.length) <|
 T.bind (oz (xm xs6 ((0:Nat)+(Int.toNat i2)) (zb zV))) fun r4 =>
 .ite r4
  (.zd (zi i2 vI.length) <|
 .zd (iM vI.length vI.length ((0:Nat)+(Int.toNat i2)) vI.length) <|
 .zd (zi (xm vI ((0:Nat)+(Int.toNat i2)) (zb (.int .i64))) f3.2.2.2.2.1.length) <|
 .zd (xs6.length=xs6.length) <|
 .zd (vI.length=vI.length) <|
 .ret (.inr (.inr ((nth f3.2.2.2.2.1 (xm vI ((0:Nat)+(Int.toNat i2)) (zb (.int .i64))) (zb zo)).1,((8:Int),(v3,(xs6,vI)))))))
  (.zd (zh xs6.length (0:Nat) xs6.length xs6.length) <|
 .zd (zh vI.length (0:Nat) vI.length vI.length) <|
 .zd (xs6.length=xs6.length) <|
 .zd (vI.length=vI.length) <|
 .ret (.inl ((zt (i2+1)),(v3,(xs6,vI))))))
  (.zd (zh xs6.length (0:Nat) xs6.length xs6.length) <|
 .zd (zh vI.length (0:Nat) vI.length vI.length) <|
 .zd (xs6.length=xs6.length) <|
 .zd (vI.length=vI.length) <|
 .ret (.inr (.inl (v3,(xs6,vI)))))
def nI f3 s:=T.loop (gQ f3) s
def tL(f:Form)(params:(List Rat))(on:(List Bool)):T ((List wg)×(List Int)×zf×Int) :=
 T.bind (lI f) fun(e,s) =>
 .ite (e != 0)
  (.ret (([]:List wg),(([]:List Int),(s,e))))
  (.ite (((params.length:Int) != (f.2.1.length:Int))||((on.length:Int) != (f.1.length:Int)))
  (.ret (([]:List wg),(([]:List Int),(([]:zf),(1:Int)))))
  (T.bind (nO params on f (0:Int)) <|
 Sum.elim (fun _ =>
 T.bind (mQ f params) fun r1 =>
 .zd (zh (0:Nat) (0:Nat) (0:Nat) (0:Nat)) <|
 .zd (zh (0:Nat) (0:Nat) (0:Nat) (0:Nat)) <|
 .zd ((0:Nat)=(0:Nat)) <|
 .zd ((0:Nat)=(0:Nat)) <|
 T.bind (kY on f ((0:Int),(r1,(([]:List wg),([]:List Int))))) <|
 Sum.elim (fun(v1,zR,qH) =>
 .zd (zh zR.length (0:Nat) zR.length zR.length) <|
 .zd (zh qH.length (0:Nat) qH.length qH.length) <|
 .zd (zR.length=zR.length) <|
 .zd (qH.length=qH.length) <|
 T.bind (nI f ((0:Int),(v1,(zR,qH)))) <|
 Sum.elim (fun(v4,eA,pP) =>
 .zd (eA.length=eA.length) <|
 .zd (pP.length=pP.length) <|
 .ret ((List.drop (0:Nat) (List.take ((0:Nat)+eA.length) eA)),((List.drop (0:Nat) (List.take ((0:Nat)+pP.length) pP)),(([]:zf),(0:Int)))))
  (fun(x4,x5,v5,xs10,Wz) =>
 .ret (([]:List wg),(([]:List Int),(x4,x5)))))
  (fun(x2,x3,v2,vb,je) =>
 .ret (([]:List wg),(([]:List Int),(x2,x3)))))
  (fun(x,x1) =>
 .ret (([]:List wg),(([]:List Int),(x,x1))))))
def uD(a:Rat)(b:Rat):T Bool :=
 T.bind (xd a) fun r =>
 T.bind (xd b) fun r1 =>
 .ite (r.1==r1.1)
  (T.bind (j0 r.2.1 r1.2.1) fun r2 =>
 .ite r2
  (T.bind (j0 r.2.2.1 r1.2.2.1) fun r3 =>
 .ret r3)
  (.ret false))
  (.ret false)
def eI(a1:wg)(b1:wg):Int→T (Int⊕(Unit⊕Bool))
 | i =>
 .ite (decide (i<(a1.2.1.length:Int)))
  (T.bind (.zd (zi i a1.2.1.length) <|
 .zd (zi i b1.2.1.length) <|
 .ite ((nth a1.2.1 i (zb zp)).1 != (nth b1.2.1 i (zb zp)).1)
  (.ret true)
  (.zd (zi i a1.2.1.length) <|
 .zd (zi i b1.2.1.length) <|
 T.bind (uD (nth a1.2.1 i (zb zp)).2.1 (nth b1.2.1 i (zb zp)).2.1) fun r1 =>
 .ret (!r1)):T (Bool)) fun x1 =>
 .ite x1
  (.ret (.inr (.inr false)))
  (.ret (.inl (zt (i+1)))))
  (.ret (.inr (.inl ())))
def oI a1 b1 s:=T.loop (eI a1 b1) s
def tM(a:wg)(b:wg):T Bool :=
 T.bind (.ite (a.1 != b.1)
  (.ret true)
  (.ite ((a.2.1.length:Int) != (b.2.1.length:Int))
  (.ret true)
  (T.bind (uD a.2.2.1 b.2.2.1) fun r =>
 .ret (!r))):T (Bool)) fun x =>
 .ite x
  (.ret false)
  (T.bind (oI a b (0:Int)) <|
 Sum.elim (fun _ =>
 .ret true)
  (fun x2 =>
 .ret x2))
def cS(a1:(List zf))(b1:(List zf)):Int→T (Int⊕(Unit⊕Bool))
 | i =>
 .ite (decide (i<(a1.length:Int)))
  (.zd (zi i a1.length) <|
 .zd (zi i b1.length) <|
 .ite (!(zH (nth a1 i (zb .str)) (nth b1 i (zb .str))))
  (.ret (.inr (.inr false)))
  (.ret (.inl (zt (i+1)))))
  (.ret (.inr (.inl ())))
def lT a1 b1 s:=T.loop (cS a1 b1) s
def cu(a:(List zf))(b:(List zf)):T Bool :=
 .ite ((a.length:Int) != (b.length:Int))
  (.ret false)
  (T.bind (lT a b (0:Int)) <|
 Sum.elim (fun _ =>
 .ret true)
  (fun x =>
 .ret x))
def fG  : T Bool :=
 T.bind (wa (2:Int)) fun r =>
 T.bind (wa (2:Int)) fun r1 =>
 T.bind (fj (([]:List Switch),(([(([112]:zf),((r.1,(r.2.1,(r.2.2.1,()))),()))]:List Param),(([(([113]:zf),(([]:zf),()))]:List ri),(([(([97]:zf),((0:Int),(false,((0:Int),())))),(([98]:zf),((0:Int),(false,((0:Int),()))))]:List Field),(([(([114]:zf),((0:Int),(([]:zf),((Expr.mk (5:Int) (false,(([]:List Int),(([]:List Int),()))) ([]:zf) ([(Expr.mk (2:Int) (false,(([]:List Int),(([]:List Int),()))) ([97]:zf) ([]:List AM.Expr)),(Expr.mk (2:Int) (false,(([]:List Int),(([]:List Int),()))) ([112]:zf) ([]:List AM.Expr))]:List AM.Expr)),((Expr.mk (2:Int) (false,(([]:List Int),(([]:List Int),()))) ([98]:zf) ([]:List AM.Expr)),())))))]:List uX),(([]:List Check),())))))) ([r1]:List Rat) ([]:List Bool)) fun(r2,s,e) =>
 .ite (e==0)
  (.ite (zH s ([]:zf))
  (.ite ((r2.1.length:Int)==(1:Int))
  (.zd (zi (0:Int) r2.1.length) <|
 .ite ((Nat.cast (List.length (nth r2.1 (0:Int) (zb zV)).2.1):Int)==(2:Int))
  (.zd (zi (0:Int) r2.1.length) <|
 .zd (zi (0:Int) (List.length (nth r2.1 (0:Int) (zb zV)).2.1)) <|
 T.bind (wa (2:Int)) fun r3 =>
 T.bind (uD (nth (nth r2.1 (0:Int) (zb zV)).2.1 (0:Int) (zb zp)).2.1 r3) fun r4 =>
 .ite r4
  (.ret ((r2.2.1.length:Int)==(1:Int)))
  (.ret false))
  (.ret false))
  (.ret false))
  (.ret false))
  (.ret false)
def uc(params1:(List Rat))(f1:Form)(l1:(List wg))(Q9:(List Int)):(Int×qM)→T ((Int×qM)⊕(qM⊕(Bool×qM)))
 | (i,v) =>
 .ite (decide (i<(l1.length:Int)))
  (T.bind (.zd (zi i v.1.length) <|
 .zd (zi i l1.length) <|
 T.bind (tM (nth v.1 i (zb zV)) (nth l1 i (zb zV))) fun r3 =>
 .ite (!r3)
  (.ret (true,v))
  (.zd (zi i v.2.1.length) <|
 .zd (zi i Q9.length) <|
 .ite ((nth v.2.1 i (zb (.int .i64))) != (nth Q9 i (zb (.int .i64))))
  (.ret (true,v))
  (.zd (zi i v.1.length) <|
 .zd (zi i Q9.length) <|
 .zd (zi (nth Q9 i (zb (.int .i64))) f1.2.2.2.2.1.length) <|
 .ret (((nth v.1 i (zb zV)).1 != (nth f1.2.2.2.2.1 (nth Q9 i (zb (.int .i64))) (zb zo)).2.1),v))):T ((Bool×qM))) fun(x1,v1) =>
 .ite x1
  (.ret (.inr (.inr (false,v1))))
  (.ret (.inl ((zt (i+1)),v1))))
  (.ret (.inr (.inl v)))
def jH params1 f1 l1 Q9 s:=T.loop (uc params1 f1 l1 Q9) s
def bn(f:Form)(params:(List Rat))(on:(List Bool)):T Bool :=
 T.bind (T.bind (cj f) fun r =>
 .ite r
  (.ret true)
  (T.bind (fe params) fun r1 =>
 .ite r1
  (.ret true)
  (.ret (decide ((30:Int)<(on.length:Int))))):T (Bool)) fun x =>
 .ite x
  (.ret true)
  (T.bind (fj f params on) fun(r2,s,e) =>
 T.bind (tL f params on) fun(l,rules,t,g) =>
 .ite (((r2.1.length:Int) != (l.length:Int))||(((r2.2.1.length:Int) != (rules.length:Int))||((!(zH s t))||(e != g))))
  (.ret false)
  (T.bind (jH params f l rules ((0:Int),r2)) <|
 Sum.elim (fun v2 =>
 T.bind (gF f) fun r4 =>
 T.bind (mQ f params) fun r5 =>
 T.bind (cu r4 r5.1) fun r6 =>
 .ite r6
  (T.bind (fG) fun r7 =>
 .ret r7)
  (.ret false))
  (fun(x2,v3) =>
 .ret x2)))
end Go.AM.Lf
