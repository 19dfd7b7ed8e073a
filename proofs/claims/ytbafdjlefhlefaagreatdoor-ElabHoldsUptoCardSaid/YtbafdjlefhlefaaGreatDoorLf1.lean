/-
  The program's functions as trees in plain Lean, part 1: printed by a program of ours.
-/
import Derived.Test.YtbafdjlefhlefaaGreatDoorLf0
set_option linter.unusedVariables false
noncomputable section
namespace Go.AM.Lf
def oi(f:Field):T zf :=
 .zd ((([102,105,101,108,100,32]:zf).length+f.1.length)≤(4611686018427387904:Nat)) <|
 .zd ((f.2.2.1=true)→(((List.length (cat ([102,105,101,108,100,32]:zf) f.1))+([32,109,117,115,116]:zf).length)≤(4611686018427387904:Nat))) <|
 .ite (f.2.2.2.1 != 0)
  (.zd (((List.length (bif f.2.2.1 then(cat (cat ([102,105,101,108,100,32]:zf) f.1) ([32,109,117,115,116]:zf))else(cat ([102,105,101,108,100,32]:zf) f.1)))+([32,115,99,97,108,101,32]:zf).length)≤(4611686018427387904:Nat)) <|
 .zd (((List.length (cat (bif f.2.2.1 then(cat (cat ([102,105,101,108,100,32]:zf) f.1) ([32,109,117,115,116]:zf))else(cat ([102,105,101,108,100,32]:zf) f.1)) ([32,115,99,97,108,101,32]:zf)))+(List.length (qV ([(MR (zu ((48:Int)+f.2.2.2.1)))]:List Int))))≤(4611686018427387904:Nat)) <|
 .zd (((List.length (cat (cat (bif f.2.2.1 then(cat (cat ([102,105,101,108,100,32]:zf) f.1) ([32,109,117,115,116]:zf))else(cat ([102,105,101,108,100,32]:zf) f.1)) ([32,115,99,97,108,101,32]:zf)) (qV ([(MR (zu ((48:Int)+f.2.2.2.1)))]:List Int))))+([10]:zf).length)≤(4611686018427387904:Nat)) <|
 .ret (cat (cat (cat (bif f.2.2.1 then(cat (cat ([102,105,101,108,100,32]:zf) f.1) ([32,109,117,115,116]:zf))else(cat ([102,105,101,108,100,32]:zf) f.1)) ([32,115,99,97,108,101,32]:zf)) (qV ([(MR (zu ((48:Int)+f.2.2.2.1)))]:List Int))) ([10]:zf)))
  (.zd (((List.length (bif f.2.2.1 then(cat (cat ([102,105,101,108,100,32]:zf) f.1) ([32,109,117,115,116]:zf))else(cat ([102,105,101,108,100,32]:zf) f.1)))+([10]:zf).length)≤(4611686018427387904:Nat)) <|
 .ret (cat (bif f.2.2.1 then(cat (cat ([102,105,101,108,100,32]:zf) f.1) ([32,109,117,115,116]:zf))else(cat ([102,105,101,108,100,32]:zf) f.1)) ([10]:zf)))
def rI(kind:Int):T Int :=
 .ite (bif (kind==3)then(kind==3)else(kind==4))
  (.ret (1:Int))
  (.ite (bif (kind==5)then(kind==5)else(kind==6))
  (.ret (2:Int))
  (.ite (kind==7)
  (.ret (3:Int))
  (.ret (4:Int))))
def lI(wq:AM.Expr→Int→T zf)(e:AM.Expr)(asks:Int):T zf :=
 T.bind (.ite ((Expr.kind e)==1)
  (T.bind (cy (Expr.num e)) fun(s,r) =>
 .ret s)
  (.ite ((Expr.kind e)==2)
  (.ret (Expr.name e))
  (.ite ((Expr.kind e)==7)
  (.zd (zi (0:Int) (Expr.kids e).length) <|
 T.bind (wq (nth (Expr.kids e) (0:Int) (zb .expr)) (3:Int)) fun r1 =>
 .zd ((([45]:zf).length+r1.length)≤(4611686018427387904:Nat)) <|
 .ret (cat ([45]:zf) r1))
  (.ite ((Expr.kind e)==3)
  (.zd (zi (0:Int) (Expr.kids e).length) <|
 T.bind (wq (nth (Expr.kids e) (0:Int) (zb .expr)) (1:Int)) fun r2 =>
 .zd ((r2.length+([32,43,32]:zf).length)≤(4611686018427387904:Nat)) <|
 .zd (zi (1:Int) (Expr.kids e).length) <|
 T.bind (wq (nth (Expr.kids e) (1:Int) (zb .expr)) (2:Int)) fun r3 =>
 .zd (((List.length (cat r2 ([32,43,32]:zf)))+r3.length)≤(4611686018427387904:Nat)) <|
 .ret (cat (cat r2 ([32,43,32]:zf)) r3))
  (.ite ((Expr.kind e)==4)
  (.zd (zi (0:Int) (Expr.kids e).length) <|
 T.bind (wq (nth (Expr.kids e) (0:Int) (zb .expr)) (1:Int)) fun r4 =>
 .zd ((r4.length+([32,45,32]:zf).length)≤(4611686018427387904:Nat)) <|
 .zd (zi (1:Int) (Expr.kids e).length) <|
 T.bind (wq (nth (Expr.kids e) (1:Int) (zb .expr)) (2:Int)) fun r5 =>
 .zd (((List.length (cat r4 ([32,45,32]:zf)))+r5.length)≤(4611686018427387904:Nat)) <|
 .ret (cat (cat r4 ([32,45,32]:zf)) r5))
  (.ite ((Expr.kind e)==5)
  (.zd (zi (0:Int) (Expr.kids e).length) <|
 T.bind (wq (nth (Expr.kids e) (0:Int) (zb .expr)) (2:Int)) fun r6 =>
 .zd ((r6.length+([32,42,32]:zf).length)≤(4611686018427387904:Nat)) <|
 .zd (zi (1:Int) (Expr.kids e).length) <|
 T.bind (wq (nth (Expr.kids e) (1:Int) (zb .expr)) (3:Int)) fun r7 =>
 .zd (((List.length (cat r6 ([32,42,32]:zf)))+r7.length)≤(4611686018427387904:Nat)) <|
 .ret (cat (cat r6 ([32,42,32]:zf)) r7))
  (.ite ((Expr.kind e)==6)
  (.zd (zi (0:Int) (Expr.kids e).length) <|
 T.bind (wq (nth (Expr.kids e) (0:Int) (zb .expr)) (2:Int)) fun r8 =>
 .zd ((r8.length+([32,47,32]:zf).length)≤(4611686018427387904:Nat)) <|
 .zd (zi (1:Int) (Expr.kids e).length) <|
 T.bind (wq (nth (Expr.kids e) (1:Int) (zb .expr)) (3:Int)) fun r9 =>
 .zd (((List.length (cat r8 ([32,47,32]:zf)))+r9.length)≤(4611686018427387904:Nat)) <|
 .ret (cat (cat r8 ([32,47,32]:zf)) r9))
  (.ret ([]:zf)))))))):T (zf)) fun s1 =>
 T.bind (rI (Expr.kind e)) fun Ek =>
 .ite (decide (Ek<asks))
  (.zd ((([40]:zf).length+s1.length)≤(4611686018427387904:Nat)) <|
 .zd (((List.length (cat ([40]:zf) s1))+([41]:zf).length)≤(4611686018427387904:Nat)) <|
 .ret (cat (cat ([40]:zf) s1) ([41]:zf)))
  (.ret s1)
def tz(e:AM.Expr)(asks:Int):T zf:=T.fix (fun F x=>lI (fun y0 y1=>F (y0,y1)) x.1 x.2) (e,asks)
def kP(e:AM.Expr):T zf :=
 T.bind (ya e) fun r =>
 .ite (!r)
  (.ret ([]:zf))
  (T.bind (tz e (1:Int)) fun r1 =>
 .ret r1)
def Xm(n:Int):T zf :=
 .ite (n==1)
  (.ret ([60]:zf))
  (.ite (n==2)
  (.ret ([60,61]:zf))
  (.ret ([61]:zf)))
def cU(n:Int):T zf :=
 .ite (n==0)
  (.ret ([114,101,113,117,105,114,101,100]:zf))
  (.ite (n==1)
  (.ret ([115,116,114,111,110,103]:zf))
  (.ite (n==2)
  (.ret ([109,101,100,105,117,109]:zf))
  (.ret ([119,101,97,107]:zf))))
def bG(f1:Form):(zf×Int)→T ((zf×Int)⊕(zf))
 | (s,i) =>
 .ite (decide (i<(f1.1.length:Int)))
  (.zd (zi i f1.1.length) <|
 .zd ((s.length+([115,119,105,116,99,104,32]:zf).length)≤(4611686018427387904:Nat)) <|
 .zd (zi i f1.1.length) <|
 .zd (((List.length (cat s ([115,119,105,116,99,104,32]:zf)))+(List.length (nth f1.1 i (zb zZ)).1))≤(4611686018427387904:Nat)) <|
 .zd (((List.length (cat (cat s ([115,119,105,116,99,104,32]:zf)) (nth f1.1 i (zb zZ)).1))+(List.length (bif (nth f1.1 i (zb zZ)).2.1 then([32,111,110,10]:zf)else([32,111,102,102,10]:zf))))≤(4611686018427387904:Nat)) <|
 .ret (.inl ((cat (cat (cat s ([115,119,105,116,99,104,32]:zf)) (nth f1.1 i (zb zZ)).1) (bif (nth f1.1 i (zb zZ)).2.1 then([32,111,110,10]:zf)else([32,111,102,102,10]:zf))),(zu (i+1)))))
  (.ret (.inr s))
def Wm f1 s:=T.loop (bG f1) s
def bn(f2:Form):(zf×Int)→T ((zf×Int)⊕(zf))
 | (s2,i1) =>
 .ite (decide (i1<(f2.2.1.length:Int)))
  (.zd ((s2.length+([112,97,114,97,109,32]:zf).length)≤(4611686018427387904:Nat)) <|
 .zd (zi i1 f2.2.1.length) <|
 .zd (((List.length (cat s2 ([112,97,114,97,109,32]:zf)))+(List.length (nth f2.2.1 i1 (zb q8)).1))≤(4611686018427387904:Nat)) <|
 .zd (((List.length (cat (cat s2 ([112,97,114,97,109,32]:zf)) (nth f2.2.1 i1 (zb q8)).1))+([32]:zf).length)≤(4611686018427387904:Nat)) <|
 .zd (zi i1 f2.2.1.length) <|
 T.bind (nQ (nth f2.2.1 i1 (zb q8)).2.1) fun r =>
 .zd (((List.length (cat (cat (cat s2 ([112,97,114,97,109,32]:zf)) (nth f2.2.1 i1 (zb q8)).1) ([32]:zf)))+r.length)≤(4611686018427387904:Nat)) <|
 .zd (((List.length (cat (cat (cat (cat s2 ([112,97,114,97,109,32]:zf)) (nth f2.2.1 i1 (zb q8)).1) ([32]:zf)) r))+([10]:zf).length)≤(4611686018427387904:Nat)) <|
 .ret (.inl ((cat (cat (cat (cat (cat s2 ([112,97,114,97,109,32]:zf)) (nth f2.2.1 i1 (zb q8)).1) ([32]:zf)) r) ([10]:zf)),(zu (i1+1)))))
  (.ret (.inr s2))
def XX f2 s:=T.loop (bn f2) s
def c6(f4:Form)(i3:Int):(zf×Int)→T ((zf×Int)⊕(zf))
 | (s5,k) =>
 .ite (decide (k<(f4.2.2.2.1.length:Int)))
  (.zd (zi k f4.2.2.2.1.length) <|
 .ite ((nth f4.2.2.2.1 k (zb qc)).2.1==i3)
  (.zd (zi k f4.2.2.2.1.length) <|
 T.bind (oi (nth f4.2.2.2.1 k (zb qc))) fun r2 =>
 .zd ((s5.length+r2.length)≤(4611686018427387904:Nat)) <|
 .ret (.inl ((cat s5 r2),(zu (k+1)))))
  (.ret (.inl (s5,(zu (k+1))))))
  (.ret (.inr s5))
def X9 f4 i3 s:=T.loop (c6 f4 i3) s
def c8(f5:Form)(i4:Int):(zf×Int)→T ((zf×Int)⊕(zf))
 | (s7,k1) =>
 .ite (decide (k1<(f5.2.2.2.2.2.1.length:Int)))
  (.zd (zi k1 f5.2.2.2.2.2.1.length) <|
 .ite ((nth f5.2.2.2.2.2.1 k1 (zb zn)).2.1==i4)
  (.zd ((s7.length+([99,104,101,99,107,32]:zf).length)≤(4611686018427387904:Nat)) <|
 .zd (((List.length (cat s7 ([99,104,101,99,107,32]:zf)))+(List.length (nth f5.2.2.2.2.2.1 k1 (zb zn)).1))≤(4611686018427387904:Nat)) <|
 .zd (((List.length (cat (cat s7 ([99,104,101,99,107,32]:zf)) (nth f5.2.2.2.2.2.1 k1 (zb zn)).1))+([32,58,32]:zf).length)≤(4611686018427387904:Nat)) <|
 T.bind (kP (Expr.mk (Expr.kind (nth f5.2.2.2.2.2.1 k1 (zb zn)).2.2.2.1) ((Expr.num (nth f5.2.2.2.2.2.1 k1 (zb zn)).2.2.2.1).1,((Expr.num (nth f5.2.2.2.2.2.1 k1 (zb zn)).2.2.2.1).2.1,((Expr.num (nth f5.2.2.2.2.2.1 k1 (zb zn)).2.2.2.1).2.2.1,()))) (Expr.name (nth f5.2.2.2.2.2.1 k1 (zb zn)).2.2.2.1) (Expr.kids (nth f5.2.2.2.2.2.1 k1 (zb zn)).2.2.2.1))) fun r3 =>
 .zd (((List.length (cat (cat (cat s7 ([99,104,101,99,107,32]:zf)) (nth f5.2.2.2.2.2.1 k1 (zb zn)).1) ([32,58,32]:zf)))+r3.length)≤(4611686018427387904:Nat)) <|
 .zd (((List.length (cat (cat (cat (cat s7 ([99,104,101,99,107,32]:zf)) (nth f5.2.2.2.2.2.1 k1 (zb zn)).1) ([32,58,32]:zf)) r3))+([32]:zf).length)≤(4611686018427387904:Nat)) <|
 T.bind (Xm (nth f5.2.2.2.2.2.1 k1 (zb zn)).2.2.1) fun r4 =>
 .zd (((List.length (cat (cat (cat (cat (cat s7 ([99,104,101,99,107,32]:zf)) (nth f5.2.2.2.2.2.1 k1 (zb zn)).1) ([32,58,32]:zf)) r3) ([32]:zf)))+r4.length)≤(4611686018427387904:Nat)) <|
 .zd (((List.length (cat (cat (cat (cat (cat (cat s7 ([99,104,101,99,107,32]:zf)) (nth f5.2.2.2.2.2.1 k1 (zb zn)).1) ([32,58,32]:zf)) r3) ([32]:zf)) r4))+([32]:zf).length)≤(4611686018427387904:Nat)) <|
 T.bind (kP (Expr.mk (Expr.kind (nth f5.2.2.2.2.2.1 k1 (zb zn)).2.2.2.2.1) ((Expr.num (nth f5.2.2.2.2.2.1 k1 (zb zn)).2.2.2.2.1).1,((Expr.num (nth f5.2.2.2.2.2.1 k1 (zb zn)).2.2.2.2.1).2.1,((Expr.num (nth f5.2.2.2.2.2.1 k1 (zb zn)).2.2.2.2.1).2.2.1,()))) (Expr.name (nth f5.2.2.2.2.2.1 k1 (zb zn)).2.2.2.2.1) (Expr.kids (nth f5.2.2.2.2.2.1 k1 (zb zn)).2.2.2.2.1))) fun r5 =>
 .zd (((List.length (cat (cat (cat (cat (cat (cat (cat s7 ([99,104,101,99,107,32]:zf)) (nth f5.2.2.2.2.2.1 k1 (zb zn)).1) ([32,58,32]:zf)) r3) ([32]:zf)) r4) ([32]:zf)))+r5.length)≤(4611686018427387904:Nat)) <|
 .zd (((List.length (cat (cat (cat (cat (cat (cat (cat (cat s7 ([99,104,101,99,107,32]:zf)) (nth f5.2.2.2.2.2.1 k1 (zb zn)).1) ([32,58,32]:zf)) r3) ([32]:zf)) r4) ([32]:zf)) r5))+([10]:zf).length)≤(4611686018427387904:Nat)) <|
 .ret (.inl ((cat (cat (cat (cat (cat (cat (cat (cat (cat s7 ([99,104,101,99,107,32]:zf)) (nth f5.2.2.2.2.2.1 k1 (zb zn)).1) ([32,58,32]:zf)) r3) ([32]:zf)) r4) ([32]:zf)) r5) ([10]:zf)),(zu (k1+1)))))
  (.ret (.inl (s7,(zu (k1+1))))))
  (.ret (.inr s7))
def Wl f5 i4 s:=T.loop (c8 f5 i4) s
def bu(f3:Form):(zf×Int)→T ((zf×Int)⊕(zf))
 | (s4,i2) =>
 .ite (decide (i2<(f3.2.2.1.length:Int)))
  (.zd ((s4.length+([112,97,103,101,32]:zf).length)≤(4611686018427387904:Nat)) <|
 .zd (zi i2 f3.2.2.1.length) <|
 .zd (((List.length (cat s4 ([112,97,103,101,32]:zf)))+(List.length (nth f3.2.2.1 i2 (zb qy)).1))≤(4611686018427387904:Nat)) <|
 .zd (zi i2 f3.2.2.1.length) <|
 T.bind (Z3 (nth f3.2.2.1 i2 (zb qy)).2.1) fun r1 =>
 .zd (((List.length (cat (cat s4 ([112,97,103,101,32]:zf)) (nth f3.2.2.1 i2 (zb qy)).1))+r1.length)≤(4611686018427387904:Nat)) <|
 .zd (((List.length (cat (cat (cat s4 ([112,97,103,101,32]:zf)) (nth f3.2.2.1 i2 (zb qy)).1) r1))+([10]:zf).length)≤(4611686018427387904:Nat)) <|
 T.bind (X9 f3 i2 ((cat (cat (cat (cat s4 ([112,97,103,101,32]:zf)) (nth f3.2.2.1 i2 (zb qy)).1) r1) ([10]:zf)),(0:Int))) fun s6 =>
 T.bind (Wl f3 i2 (s6,(0:Int))) fun s8 =>
 .ret (.inl (s8,(zu (i2+1)))))
  (.ret (.inr s4))
def XK f3 s:=T.loop (bu f3) s
def bY(f6:Form):(zf×Int)→T ((zf×Int)⊕(zf))
 | (s10,i5) =>
 .ite (decide (i5<(f6.2.2.2.2.1.length:Int)))
  (.zd (zi i5 f6.2.2.2.2.1.length) <|
 .zd ((s10.length+([114,117,108,101,32]:zf).length)≤(4611686018427387904:Nat)) <|
 T.bind (cU (nth f6.2.2.2.2.1 i5 (zb zl)).2.1) fun r6 =>
 .zd (((List.length (cat s10 ([114,117,108,101,32]:zf)))+r6.length)≤(4611686018427387904:Nat)) <|
 .zd (((List.length (cat (cat s10 ([114,117,108,101,32]:zf)) r6))+([32]:zf).length)≤(4611686018427387904:Nat)) <|
 .zd (((List.length (cat (cat (cat s10 ([114,117,108,101,32]:zf)) r6) ([32]:zf)))+(List.length (nth f6.2.2.2.2.1 i5 (zb zl)).1))≤(4611686018427387904:Nat)) <|
 T.bind (Z3 (nth f6.2.2.2.2.1 i5 (zb zl)).2.2.1) fun r7 =>
 .zd (((List.length (cat (cat (cat (cat s10 ([114,117,108,101,32]:zf)) r6) ([32]:zf)) (nth f6.2.2.2.2.1 i5 (zb zl)).1))+r7.length)≤(4611686018427387904:Nat)) <|
 .zd (((List.length (cat (cat (cat (cat (cat s10 ([114,117,108,101,32]:zf)) r6) ([32]:zf)) (nth f6.2.2.2.2.1 i5 (zb zl)).1) r7))+([32,58,32]:zf).length)≤(4611686018427387904:Nat)) <|
 T.bind (kP (Expr.mk (Expr.kind (nth f6.2.2.2.2.1 i5 (zb zl)).2.2.2.1) ((Expr.num (nth f6.2.2.2.2.1 i5 (zb zl)).2.2.2.1).1,((Expr.num (nth f6.2.2.2.2.1 i5 (zb zl)).2.2.2.1).2.1,((Expr.num (nth f6.2.2.2.2.1 i5 (zb zl)).2.2.2.1).2.2.1,()))) (Expr.name (nth f6.2.2.2.2.1 i5 (zb zl)).2.2.2.1) (Expr.kids (nth f6.2.2.2.2.1 i5 (zb zl)).2.2.2.1))) fun r8 =>
 .zd (((List.length (cat (cat (cat (cat (cat (cat s10 ([114,117,108,101,32]:zf)) r6) ([32]:zf)) (nth f6.2.2.2.2.1 i5 (zb zl)).1) r7) ([32,58,32]:zf)))+r8.length)≤(4611686018427387904:Nat)) <|
 .zd (((List.length (cat (cat (cat (cat (cat (cat (cat s10 ([114,117,108,101,32]:zf)) r6) ([32]:zf)) (nth f6.2.2.2.2.1 i5 (zb zl)).1) r7) ([32,58,32]:zf)) r8))+([32,61,32]:zf).length)≤(4611686018427387904:Nat)) <|
 T.bind (kP (Expr.mk (Expr.kind (nth f6.2.2.2.2.1 i5 (zb zl)).2.2.2.2.1) ((Expr.num (nth f6.2.2.2.2.1 i5 (zb zl)).2.2.2.2.1).1,((Expr.num (nth f6.2.2.2.2.1 i5 (zb zl)).2.2.2.2.1).2.1,((Expr.num (nth f6.2.2.2.2.1 i5 (zb zl)).2.2.2.2.1).2.2.1,()))) (Expr.name (nth f6.2.2.2.2.1 i5 (zb zl)).2.2.2.2.1) (Expr.kids (nth f6.2.2.2.2.1 i5 (zb zl)).2.2.2.2.1))) fun r9 =>
 .zd (((List.length (cat (cat (cat (cat (cat (cat (cat (cat s10 ([114,117,108,101,32]:zf)) r6) ([32]:zf)) (nth f6.2.2.2.2.1 i5 (zb zl)).1) r7) ([32,58,32]:zf)) r8) ([32,61,32]:zf)))+r9.length)≤(4611686018427387904:Nat)) <|
 .zd (((List.length (cat (cat (cat (cat (cat (cat (cat (cat (cat s10 ([114,117,108,101,32]:zf)) r6) ([32]:zf)) (nth f6.2.2.2.2.1 i5 (zb zl)).1) r7) ([32,58,32]:zf)) r8) ([32,61,32]:zf)) r9))+([10]:zf).length)≤(4611686018427387904:Nat)) <|
 .ret (.inl ((cat (cat (cat (cat (cat (cat (cat (cat (cat (cat s10 ([114,117,108,101,32]:zf)) r6) ([32]:zf)) (nth f6.2.2.2.2.1 i5 (zb zl)).1) r7) ([32,58,32]:zf)) r8) ([32,61,32]:zf)) r9) ([10]:zf)),(zu (i5+1)))))
  (.ret (.inr s10))
def Xp f6 s:=T.loop (bY f6) s
def tP(f:Form):T zf :=
 T.bind (Wm f (([]:zf),(0:Int))) fun s1 =>
 T.bind (XX f (s1,(0:Int))) fun s3 =>
 T.bind (XK f (s3,(0:Int))) fun s9 =>
 T.bind (Xp f (s9,(0:Int))) fun s11 =>
 .ret s11
def ij(f1:Form):Int→T (Int⊕(Unit⊕Bool))
 | i =>
 .ite (decide (i<(f1.1.length:Int)))
  (.zd (zi i f1.1.length) <|
 T.bind (uf (nth f1.1 i (zb zZ)).1) fun r =>
 .ite (!r)
  (.ret (.inr (.inr false)))
  (.ret (.inl (zu (i+1)))))
  (.ret (.inr (.inl ())))
def Jn f1 s:=T.loop (ij f1) s
def fY(f2:Form):Int→T (Int⊕(Unit⊕Bool))
 | i1 =>
 .ite (decide (i1<(f2.2.1.length:Int)))
  (T.bind (.zd (zi i1 f2.2.1.length) <|
 T.bind (uf (nth f2.2.1 i1 (zb q8)).1) fun r1 =>
 .ite (!r1)
  (.ret true)
  (.zd (zi i1 f2.2.1.length) <|
 T.bind (cC (nth f2.2.1 i1 (zb q8)).2.1) fun r2 =>
 .ret (!r2)):T (Bool)) fun x1 =>
 .ite x1
  (.ret (.inr (.inr false)))
  (.ret (.inl (zu (i1+1)))))
  (.ret (.inr (.inl ())))
def KH f2 s:=T.loop (fY f2) s
def fZ(f3:Form):Int→T (Int⊕(Unit⊕Bool))
 | i2 =>
 .ite (decide (i2<(f3.2.2.1.length:Int)))
  (T.bind (.zd (zi i2 f3.2.2.1.length) <|
 T.bind (uf (nth f3.2.2.1 i2 (zb qy)).1) fun r3 =>
 .ite (!r3)
  (.ret true)
  (.zd (zi i2 f3.2.2.1.length) <|
 T.bind (iW (nth f3.2.2.1 i2 (zb qy)).2.1) fun r4 =>
 .ret (!r4)):T (Bool)) fun x3 =>
 .ite x3
  (.ret (.inr (.inr false)))
  (.ret (.inl (zu (i2+1)))))
  (.ret (.inr (.inl ())))
def JF f3 s:=T.loop (fZ f3) s
def ik(f4:Form):Int→T (Int⊕(Unit⊕Bool))
 | i3 =>
 .ite (decide (i3<(f4.2.2.2.2.1.length:Int)))
  (.zd (zi i3 f4.2.2.2.2.1.length) <|
 T.bind (T.bind (uf (nth f4.2.2.2.2.1 i3 (zb zl)).1) fun r5 =>
 .ite (!r5)
  (.ret (true,(nth f4.2.2.2.2.1 i3 (zb zl))))
  (T.bind (iW (nth f4.2.2.2.2.1 i3 (zb zl)).2.2.1) fun r6 =>
 .ite (!r6)
  (.ret (true,(nth f4.2.2.2.2.1 i3 (zb zl))))
  (.ite (decide ((nth f4.2.2.2.2.1 i3 (zb zl)).2.1<(0:Int)))
  (.ret (true,(nth f4.2.2.2.2.1 i3 (zb zl))))
  (.ite (decide ((3:Int)<(nth f4.2.2.2.2.1 i3 (zb zl)).2.1))
  (.ret (true,(nth f4.2.2.2.2.1 i3 (zb zl))))
  (T.bind (ya (Expr.mk (Expr.kind (nth f4.2.2.2.2.1 i3 (zb zl)).2.2.2.1) ((Expr.num (nth f4.2.2.2.2.1 i3 (zb zl)).2.2.2.1).1,((Expr.num (nth f4.2.2.2.2.1 i3 (zb zl)).2.2.2.1).2.1,((Expr.num (nth f4.2.2.2.2.1 i3 (zb zl)).2.2.2.1).2.2.1,()))) (Expr.name (nth f4.2.2.2.2.1 i3 (zb zl)).2.2.2.1) (Expr.kids (nth f4.2.2.2.2.1 i3 (zb zl)).2.2.2.1))) fun r7 =>
 .ite (!r7)
  (.ret (true,(nth f4.2.2.2.2.1 i3 (zb zl))))
  (T.bind (ya (Expr.mk (Expr.kind (nth f4.2.2.2.2.1 i3 (zb zl)).2.2.2.2.1) ((Expr.num (nth f4.2.2.2.2.1 i3 (zb zl)).2.2.2.2.1).1,((Expr.num (nth f4.2.2.2.2.1 i3 (zb zl)).2.2.2.2.1).2.1,((Expr.num (nth f4.2.2.2.2.1 i3 (zb zl)).2.2.2.2.1).2.2.1,()))) (Expr.name (nth f4.2.2.2.2.1 i3 (zb zl)).2.2.2.2.1) (Expr.kids (nth f4.2.2.2.2.1 i3 (zb zl)).2.2.2.2.1))) fun r8 =>
 .ret ((!r8),(nth f4.2.2.2.2.1 i3 (zb zl)))))))):T ((Bool×uP))) fun(x5,v) =>
 .ite x5
  (.ret (.inr (.inr false)))
  (.ret (.inl (zu (i3+1)))))
  (.ret (.inr (.inl ())))
def K0 f4 s:=T.loop (ik f4) s
def J2(f:Form):T Bool :=
 T.bind (Jn f (0:Int)) <|
 Sum.elim (fun _ =>
 T.bind (KH f (0:Int)) <|
 Sum.elim (fun _ =>
 T.bind (JF f (0:Int)) <|
 Sum.elim (fun _ =>
 T.bind (K0 f (0:Int)) <|
 Sum.elim (fun _ =>
 T.bind (ou f) fun r9 =>
 .ite r9
  (T.bind (tP f) fun Ek =>
 .ret (decide ((Ek.length:Int)≤(16384:Int))))
  (.ret false))
  (fun x6 =>
 .ret x6))
  (fun x4 =>
 .ret x4))
  (fun x2 =>
 .ret x2))
  (fun x =>
 .ret x)
def kG(f1:Form):(Int×(List zf))→T ((Int×(List zf))⊕((List zf)))
 | (i,xs) =>
 .ite (decide (i<(f1.2.2.2.1.length:Int)))
  (.zd (zi i f1.2.2.2.1.length) <|
 .zd (xF xs.length xs.length (0:Nat) xs.length xs.length (1:Nat) (16:Nat)) <|
 .zd (zh (xs.length+(1:Nat)) (0:Nat) (xs.length+(1:Nat)) (List.length (xs++([(nth f1.2.2.2.1 i (zb qc)).1]:List zf)))) <|
 .zd ((xs.length+(1:Nat))=(List.length (xs++([(nth f1.2.2.2.1 i (zb qc)).1]:List zf)))) <|
 .ret (.inl ((zu (i+1)),(xs++([(nth f1.2.2.2.1 i (zb qc)).1]:List zf)))))
  (.zd (zh xs.length (0:Nat) xs.length xs.length) <|
 .zd (xs.length=xs.length) <|
 .ret (.inr xs))
def rC f1 s:=T.loop (kG f1) s
def gF(f:Form):T (List zf) :=
 .zd (zh (0:Nat) (0:Nat) (0:Nat) (0:Nat)) <|
 .zd ((0:Nat)=(0:Nat)) <|
 T.bind (rC f ((0:Int),([]:List zf))) fun zE =>
 .zd (zE.length=zE.length) <|
 .ret (List.drop (0:Nat) (List.take ((0:Nat)+zE.length) zE))
def yK(f1:Form):(Int×(List zf))→T ((Int×(List zf))⊕((List zf)))
 | (i,xs) =>
 .ite (decide (i<(f1.1.length:Int)))
  (.zd (zi i f1.1.length) <|
 .zd (xF xs.length xs.length (0:Nat) xs.length xs.length (1:Nat) (16:Nat)) <|
 .zd (zh (xs.length+(1:Nat)) (0:Nat) (xs.length+(1:Nat)) (List.length (xs++([(nth f1.1 i (zb zZ)).1]:List zf)))) <|
 .zd ((xs.length+(1:Nat))=(List.length (xs++([(nth f1.1 i (zb zZ)).1]:List zf)))) <|
 .ret (.inl ((zu (i+1)),(xs++([(nth f1.1 i (zb zZ)).1]:List zf)))))
  (.zd (zh xs.length (0:Nat) xs.length xs.length) <|
 .zd (xs.length=xs.length) <|
 .ret (.inr xs))
def Zy f1 s:=T.loop (yK f1) s
def yT(f2:Form):(Int×(List zf))→T ((Int×(List zf))⊕((List zf)))
 | (i1,zV) =>
 .ite (decide (i1<(f2.2.1.length:Int)))
  (.zd (zi i1 f2.2.1.length) <|
 .zd (xF zV.length zV.length (0:Nat) zV.length zV.length (1:Nat) (16:Nat)) <|
 .zd (zh (zV.length+(1:Nat)) (0:Nat) (zV.length+(1:Nat)) (List.length (zV++([(nth f2.2.1 i1 (zb q8)).1]:List zf)))) <|
 .zd ((zV.length+(1:Nat))=(List.length (zV++([(nth f2.2.1 i1 (zb q8)).1]:List zf)))) <|
 .ret (.inl ((zu (i1+1)),(zV++([(nth f2.2.1 i1 (zb q8)).1]:List zf)))))
  (.zd (zh zV.length (0:Nat) zV.length zV.length) <|
 .zd (zV.length=zV.length) <|
 .ret (.inr zV))
def Q1 f2 s:=T.loop (yT f2) s
def yW(f3:Form):(Int×(List zf))→T ((Int×(List zf))⊕((List zf)))
 | (i2,vj) =>
 .ite (decide (i2<(f3.2.2.1.length:Int)))
  (.zd (zi i2 f3.2.2.1.length) <|
 .zd (xF vj.length vj.length (0:Nat) vj.length vj.length (1:Nat) (16:Nat)) <|
 .zd (zh (vj.length+(1:Nat)) (0:Nat) (vj.length+(1:Nat)) (List.length (vj++([(nth f3.2.2.1 i2 (zb qy)).1]:List zf)))) <|
 .zd ((vj.length+(1:Nat))=(List.length (vj++([(nth f3.2.2.1 i2 (zb qy)).1]:List zf)))) <|
 .ret (.inl ((zu (i2+1)),(vj++([(nth f3.2.2.1 i2 (zb qy)).1]:List zf)))))
  (.zd (zh vj.length (0:Nat) vj.length vj.length) <|
 .zd (vj.length=vj.length) <|
 .ret (.inr vj))
def Q2 f3 s:=T.loop (yW f3) s
def yS(f4:Form):(Int×(List zf))→T ((Int×(List zf))⊕((List zf)))
 | (i3,xs6) =>
 .ite (decide (i3<(f4.2.2.2.2.1.length:Int)))
  (.zd (zi i3 f4.2.2.2.2.1.length) <|
 .zd (xF xs6.length xs6.length (0:Nat) xs6.length xs6.length (1:Nat) (16:Nat)) <|
 .zd (zh (xs6.length+(1:Nat)) (0:Nat) (xs6.length+(1:Nat)) (List.length (xs6++([(nth f4.2.2.2.2.1 i3 (zb zl)).1]:List zf)))) <|
 .zd ((xs6.length+(1:Nat))=(List.length (xs6++([(nth f4.2.2.2.2.1 i3 (zb zl)).1]:List zf)))) <|
 .ret (.inl ((zu (i3+1)),(xs6++([(nth f4.2.2.2.2.1 i3 (zb zl)).1]:List zf)))))
  (.zd (zh xs6.length (0:Nat) xs6.length xs6.length) <|
 .zd (xs6.length=xs6.length) <|
 .ret (.inr xs6))
def ZT f4 s:=T.loop (yS f4) s
def yz(f5:Form):(Int×(List zf))→T ((Int×(List zf))⊕((List zf)))
 | (i4,eC) =>
 .ite (decide (i4<(f5.2.2.2.2.2.1.length:Int)))
  (.zd (zi i4 f5.2.2.2.2.2.1.length) <|
 .zd (xF eC.length eC.length (0:Nat) eC.length eC.length (1:Nat) (16:Nat)) <|
 .zd (zh (eC.length+(1:Nat)) (0:Nat) (eC.length+(1:Nat)) (List.length (eC++([(nth f5.2.2.2.2.2.1 i4 (zb zn)).1]:List zf)))) <|
 .zd ((eC.length+(1:Nat))=(List.length (eC++([(nth f5.2.2.2.2.2.1 i4 (zb zn)).1]:List zf)))) <|
 .ret (.inl ((zu (i4+1)),(eC++([(nth f5.2.2.2.2.2.1 i4 (zb zn)).1]:List zf)))))
  (.zd (zh eC.length (0:Nat) eC.length eC.length) <|
 .zd (eC.length=eC.length) <|
 .ret (.inr eC))
def Zt f5 s:=T.loop (yz f5) s
def o0(f:Form):T (List zf) :=
 .zd (zh (0:Nat) (0:Nat) (0:Nat) (0:Nat)) <|
 .zd ((0:Nat)=(0:Nat)) <|
 T.bind (Zy f ((0:Int),([]:List zf))) fun zE =>
 .zd (zh zE.length (0:Nat) zE.length zE.length) <|
 .zd (zE.length=zE.length) <|
 T.bind (Q1 f ((0:Int),zE)) fun qM =>
 .zd (zh qM.length (0:Nat) qM.length qM.length) <|
 .zd (qM.length=qM.length) <|
 T.bind (Q2 f ((0:Int),qM)) fun jd =>
 T.bind (gF f) fun r =>
 .zd (xF jd.length jd.length (0:Nat) jd.length jd.length r.length (16:Nat)) <|
 .zd (zh (jd.length+r.length) (0:Nat) (jd.length+r.length) (jd++r).length) <|
 .zd ((jd.length+r.length)=(jd++r).length) <|
 T.bind (ZT f ((0:Int),(jd++r))) fun vP =>
 .zd (zh vP.length (0:Nat) vP.length vP.length) <|
 .zd (vP.length=vP.length) <|
 T.bind (Zt f ((0:Int),vP)) fun rQ =>
 .zd (rQ.length=rQ.length) <|
 .ret (List.drop (0:Nat) (List.take ((0:Nat)+rQ.length) rQ))
def dn(l1:(List zf))(s1:zf):Int→T (Int⊕(Unit⊕Bool))
 | i =>
 .ite (decide (i<(l1.length:Int)))
  (.zd (zi i l1.length) <|
 .ite (zM (nth l1 i (zb .str)) s1)
  (.ret (.inr (.inr true)))
  (.ret (.inl (zu (i+1)))))
  (.ret (.inr (.inl ())))
def VW l1 s1 s:=T.loop (dn l1 s1) s
def yV(l:(List zf))(s:zf):T Bool :=
 T.bind (VW l s (0:Int)) <|
 Sum.elim (fun _ =>
 .ret false)
  (fun x =>
 .ret x)
def yE(l1:(List zf)):Int→T (Int⊕(Unit⊕zf))
 | i =>
 .ite (decide (i<(l1.length:Int)))
  (.zd (nj (0:Int) i l1.length) <|
 .zd (zi i l1.length) <|
 T.bind (yV (uz (e:=.str) (0:Int) i l1) (nth l1 i (zb .str))) fun r =>
 .ite r
  (.zd (zi i l1.length) <|
 .ret (.inr (.inr (nth l1 i (zb .str)))))
  (.ret (.inl (zu (i+1)))))
  (.ret (.inr (.inl ())))
def Zs l1 s:=T.loop (yE l1) s
def p7(l:(List zf)):T zf :=
 T.bind (Zs l (0:Int)) <|
 Sum.elim (fun _ =>
 .ret ([]:zf))
  (fun x =>
 .ret x)
def ki(f1:Form):(Int×(List zf))→T ((Int×(List zf))⊕((List zf)))
 | (i,xs) =>
 .ite (decide (i<(f1.1.length:Int)))
  (.zd (zi i f1.1.length) <|
 .zd (xF xs.length xs.length (0:Nat) xs.length xs.length (1:Nat) (16:Nat)) <|
 .zd (zh (xs.length+(1:Nat)) (0:Nat) (xs.length+(1:Nat)) (List.length (xs++([(nth f1.1 i (zb zZ)).1]:List zf)))) <|
 .zd ((xs.length+(1:Nat))=(List.length (xs++([(nth f1.1 i (zb zZ)).1]:List zf)))) <|
 .ret (.inl ((zu (i+1)),(xs++([(nth f1.1 i (zb zZ)).1]:List zf)))))
  (.zd (zh xs.length (0:Nat) xs.length xs.length) <|
 .zd (xs.length=xs.length) <|
 .ret (.inr xs))
def tq f1 s:=T.loop (ki f1) s
def kc(f2:Form):(Int×(List zf))→T ((Int×(List zf))⊕((List zf)⊕(zf×(List zf))))
 | (i1,zV) =>
 .ite (decide (i1<(f2.2.2.1.length:Int)))
  (T.bind (.zd (zi i1 f2.2.2.1.length) <|
 .ite (!(zM (nth f2.2.2.1 i1 (zb qy)).2.1 ([]:zf)))
  (.zd (zi i1 f2.2.2.1.length) <|
 .zd (zV.length=zV.length) <|
 T.bind (yV (List.drop (0:Nat) (List.take ((0:Nat)+zV.length) zV)) (nth f2.2.2.1 i1 (zb qy)).2.1) fun r =>
 .zd (zh zV.length (0:Nat) zV.length zV.length) <|
 .zd (zV.length=zV.length) <|
 .ret ((!r),zV))
  (.zd (zh zV.length (0:Nat) zV.length zV.length) <|
 .zd (zV.length=zV.length) <|
 .ret (false,zV)):T ((Bool×(List zf)))) fun(x,qM) =>
 .ite x
  (.zd (zi i1 f2.2.2.1.length) <|
 .zd (qM.length=qM.length) <|
 .ret (.inr (.inr ((nth f2.2.2.1 i1 (zb qy)).2.1,qM))))
  (.zd (zh qM.length (0:Nat) qM.length qM.length) <|
 .zd (qM.length=qM.length) <|
 .ret (.inl ((zu (i1+1)),qM))))
  (.zd (zh zV.length (0:Nat) zV.length zV.length) <|
 .zd (zV.length=zV.length) <|
 .ret (.inr (.inl zV)))
def sg f2 s:=T.loop (kc f2) s
def kD(f3:Form):(Int×(List zf))→T ((Int×(List zf))⊕((List zf)⊕(zf×(List zf))))
 | (i2,xs6) =>
 .ite (decide (i2<(f3.2.2.2.2.1.length:Int)))
  (T.bind (.zd (zi i2 f3.2.2.2.2.1.length) <|
 .ite (!(zM (nth f3.2.2.2.2.1 i2 (zb zl)).2.2.1 ([]:zf)))
  (.zd (zi i2 f3.2.2.2.2.1.length) <|
 .zd (xs6.length=xs6.length) <|
 T.bind (yV (List.drop (0:Nat) (List.take ((0:Nat)+xs6.length) xs6)) (nth f3.2.2.2.2.1 i2 (zb zl)).2.2.1) fun r1 =>
 .zd (zh xs6.length (0:Nat) xs6.length xs6.length) <|
 .zd (xs6.length=xs6.length) <|
 .ret ((!r1),xs6))
  (.zd (zh xs6.length (0:Nat) xs6.length xs6.length) <|
 .zd (xs6.length=xs6.length) <|
 .ret (false,xs6)):T ((Bool×(List zf)))) fun(x2,vP) =>
 .ite x2
  (.zd (zi i2 f3.2.2.2.2.1.length) <|
 .zd (vP.length=vP.length) <|
 .ret (.inr (.inr ((nth f3.2.2.2.2.1 i2 (zb zl)).2.2.1,vP))))
  (.zd (zh vP.length (0:Nat) vP.length vP.length) <|
 .zd (vP.length=vP.length) <|
 .ret (.inl ((zu (i2+1)),vP))))
  (.zd (xs6.length=xs6.length) <|
 .ret (.inr (.inl xs6)))
def sW f3 s:=T.loop (kD f3) s
def dV(f:Form):T zf :=
 .zd (zh (0:Nat) (0:Nat) (0:Nat) (0:Nat)) <|
 .zd ((0:Nat)=(0:Nat)) <|
 T.bind (tq f ((0:Int),([]:List zf))) fun zE =>
 .zd (zh zE.length (0:Nat) zE.length zE.length) <|
 .zd (zE.length=zE.length) <|
 T.bind (sg f ((0:Int),zE)) <|
 Sum.elim (fun vj =>
 .zd (zh vj.length (0:Nat) vj.length vj.length) <|
 .zd (vj.length=vj.length) <|
 T.bind (sW f ((0:Int),vj)) <|
 Sum.elim (fun eC =>
 .ret ([]:zf))
  (fun(x3,rQ) =>
 .ret x3))
  (fun(x1,jd) =>
 .ret x1)
def yD(f1:Form):(Int×(List AM.Expr))→T ((Int×(List AM.Expr))⊕((List AM.Expr)))
 | (i,xs) =>
 .ite (decide (i<(f1.2.2.2.2.2.1.length:Int)))
  (.zd (zi i f1.2.2.2.2.2.1.length) <|
 .zd (zi i f1.2.2.2.2.2.1.length) <|
 .zd (xF xs.length xs.length (0:Nat) xs.length xs.length (2:Nat) (104:Nat)) <|
 .zd (zh (xs.length+(2:Nat)) (0:Nat) (xs.length+(2:Nat)) (List.length (xs++([(nth f1.2.2.2.2.2.1 i (zb zn)).2.2.2.1,(nth f1.2.2.2.2.2.1 i (zb zn)).2.2.2.2.1]:List AM.Expr)))) <|
 .zd ((xs.length+(2:Nat))=(List.length (xs++([(nth f1.2.2.2.2.2.1 i (zb zn)).2.2.2.1,(nth f1.2.2.2.2.2.1 i (zb zn)).2.2.2.2.1]:List AM.Expr)))) <|
 .ret (.inl ((zu (i+1)),(xs++([(nth f1.2.2.2.2.2.1 i (zb zn)).2.2.2.1,(nth f1.2.2.2.2.2.1 i (zb zn)).2.2.2.2.1]:List AM.Expr)))))
  (.zd (zh xs.length (0:Nat) xs.length xs.length) <|
 .zd (xs.length=xs.length) <|
 .ret (.inr xs))
def Zn f1 s:=T.loop (yD f1) s
def yY(f2:Form):(Int×(List AM.Expr))→T ((Int×(List AM.Expr))⊕((List AM.Expr)))
 | (i1,zV) =>
 .ite (decide (i1<(f2.2.2.2.2.1.length:Int)))
  (.zd (zi i1 f2.2.2.2.2.1.length) <|
 .zd (zi i1 f2.2.2.2.2.1.length) <|
 .zd (xF zV.length zV.length (0:Nat) zV.length zV.length (2:Nat) (104:Nat)) <|
 .zd (zh (zV.length+(2:Nat)) (0:Nat) (zV.length+(2:Nat)) (List.length (zV++([(nth f2.2.2.2.2.1 i1 (zb zl)).2.2.2.1,(nth f2.2.2.2.2.1 i1 (zb zl)).2.2.2.2.1]:List AM.Expr)))) <|
 .zd ((zV.length+(2:Nat))=(List.length (zV++([(nth f2.2.2.2.2.1 i1 (zb zl)).2.2.2.1,(nth f2.2.2.2.2.1 i1 (zb zl)).2.2.2.2.1]:List AM.Expr)))) <|
 .ret (.inl ((zu (i1+1)),(zV++([(nth f2.2.2.2.2.1 i1 (zb zl)).2.2.2.1,(nth f2.2.2.2.2.1 i1 (zb zl)).2.2.2.2.1]:List AM.Expr)))))
  (.zd (zh zV.length (0:Nat) zV.length zV.length) <|
 .zd (zV.length=zV.length) <|
 .ret (.inr zV))
def Zo f2 s:=T.loop (yY f2) s
def fX(f:Form):T (List AM.Expr) :=
 .zd (zh (0:Nat) (0:Nat) (0:Nat) (0:Nat)) <|
 .zd ((0:Nat)=(0:Nat)) <|
 T.bind (Zn f ((0:Int),([]:List AM.Expr))) fun zE =>
 .zd (zh zE.length (0:Nat) zE.length zE.length) <|
 .zd (zE.length=zE.length) <|
 T.bind (Zo f ((0:Int),zE)) fun qM =>
 .zd (qM.length=qM.length) <|
 .ret (List.drop (0:Nat) (List.take ((0:Nat)+qM.length) qM))
def yG(xP:AM.Expr→T (List zf))(e2:AM.Expr)(i1:Int)(m1:(List zf)):(Int×(List zf))→T ((Int×(List zf))⊕((List zf)))
 | (k,zE) =>
 .ite (decide (k<(m1.length:Int)))
  (.zd (zi k m1.length) <|
 .zd (zE.length=zE.length) <|
 T.bind (yV (List.drop (0:Nat) (List.take ((0:Nat)+zE.length) zE)) (nth m1 k (zb .str))) fun r =>
 .ite (!r)
  (.zd (zi k m1.length) <|
 .zd (xF zE.length zE.length (0:Nat) zE.length zE.length (1:Nat) (16:Nat)) <|
 .zd (zh (zE.length+(1:Nat)) (0:Nat) (zE.length+(1:Nat)) (List.length (zE++([(nth m1 k (zb .str))]:List zf)))) <|
 .zd ((zE.length+(1:Nat))=(List.length (zE++([(nth m1 k (zb .str))]:List zf)))) <|
 .ret (.inl ((zu (k+1)),(zE++([(nth m1 k (zb .str))]:List zf)))))
  (.zd (zh zE.length (0:Nat) zE.length zE.length) <|
 .zd (zE.length=zE.length) <|
 .ret (.inl ((zu (k+1)),zE))))
  (.zd (zh zE.length (0:Nat) zE.length zE.length) <|
 .zd (zE.length=zE.length) <|
 .ret (.inr zE))
def ZC xP e2 i1 m1 s:=T.loop (yG xP e2 i1 m1) s
def yu(xP:AM.Expr→T (List zf))(e1:AM.Expr):(Int×(List zf))→T ((Int×(List zf))⊕((List zf)))
 | (i,xs) =>
 .ite (decide (i<((Expr.kids e1).length:Int)))
  (.zd (zi i (Expr.kids e1).length) <|
 T.bind (xP (nth (Expr.kids e1) i (zb .expr))) fun m =>
 .zd (zh xs.length (0:Nat) xs.length xs.length) <|
 .zd (xs.length=xs.length) <|
 T.bind (ZC xP e1 i m ((0:Int),xs)) fun zV =>
 .zd (zh zV.length (0:Nat) zV.length zV.length) <|
 .zd (zV.length=zV.length) <|
 .ret (.inl ((zu (i+1)),zV)))
  (.zd (zh xs.length (0:Nat) xs.length xs.length) <|
 .zd (xs.length=xs.length) <|
 .ret (.inr xs))
def yR xP e1 s:=T.loop (yu xP e1) s
def fk(xP:AM.Expr→T (List zf))(e:AM.Expr):T (List zf) :=
 .ite ((Expr.kind e)==2)
  (.zd (((1:Nat)*(16:Nat))≤(140737488355328:Nat)) <|
 .zd (zh (1:Nat) (0:Nat) (1:Nat) (1:Nat)) <|
 .zd ((1:Nat)=(1:Nat)) <|
 T.bind (yR xP e ((0:Int),([(Expr.name e)]:List zf))) fun qM =>
 .zd (qM.length=qM.length) <|
 .ret (List.drop (0:Nat) (List.take ((0:Nat)+qM.length) qM)))
  (.zd (zh (0:Nat) (0:Nat) (0:Nat) (0:Nat)) <|
 .zd ((0:Nat)=(0:Nat)) <|
 T.bind (yR xP e ((0:Int),([]:List zf))) fun vj =>
 .zd (vj.length=vj.length) <|
 .ret (List.drop (0:Nat) (List.take ((0:Nat)+vj.length) vj)))
def ir(e:AM.Expr):T (List zf):=T.fix (fun F x=>fk (fun y0=>F (y0)) x) e
def jo(l2:(List AM.Expr))(FU:(List zf))(i1:Int)(n1:(List zf)):Int→T (Int⊕(Unit⊕zf))
 | k =>
 .ite (decide (k<(n1.length:Int)))
  (.zd (zi k n1.length) <|
 T.bind (yV FU (nth n1 k (zb .str))) fun r =>
 .ite (!r)
  (.zd (zi k n1.length) <|
 .ret (.inr (.inr (nth n1 k (zb .str)))))
  (.ret (.inl (zu (k+1)))))
  (.ret (.inr (.inl ())))
def pX l2 FU i1 n1 s:=T.loop (jo l2 FU i1 n1) s
def jg(l1:(List AM.Expr))(Im:(List zf)):Int→T (Int⊕(Unit⊕zf))
 | i =>
 .ite (decide (i<(l1.length:Int)))
  (.zd (zi i l1.length) <|
 T.bind (ir (nth l1 i (zb .expr))) fun n =>
 T.bind (pX l1 Im i n (0:Int)) <|
 Sum.elim (fun _ =>
 .ret (.inl (zu (i+1))))
  (fun x =>
 .ret (.inr (.inr x))))
  (.ret (.inr (.inl ())))
def pL l1 Im s:=T.loop (jg l1 Im) s
def ba(l:(List AM.Expr))(known:(List zf)):T zf :=
 T.bind (pL l known (0:Int)) <|
 Sum.elim (fun _ =>
 .ret ([]:zf))
  (fun x1 =>
 .ret x1)
def dO(kX:(List zf))(l1:(List zf)):Int→T (Int⊕(Unit⊕Bool))
 | i =>
 .ite (decide (i<(l1.length:Int)))
  (.zd (zi i l1.length) <|
 T.bind (yV kX (nth l1 i (zb .str))) fun r =>
 .ite r
  (.ret (.inr (.inr true)))
  (.ret (.inl (zu (i+1)))))
  (.ret (.inr (.inl ())))
def Vq kX l1 s:=T.loop (dO kX l1) s
def bg(e:AM.Expr)(fields:(List zf)):T Bool :=
 T.bind (ir e) fun l =>
 T.bind (Vq fields l (0:Int)) <|
 Sum.elim (fun _ =>
 .ret false)
  (fun x =>
 .ret x)
def kH(uW:AM.Expr→(List zf)→T Bool)(kX:(List zf))(e1:AM.Expr):Int→T (Int⊕(Unit⊕Bool))
 | i =>
 .ite (decide (i<((Expr.kids e1).length:Int)))
  (.zd (zi i (Expr.kids e1).length) <|
 T.bind (uW (nth (Expr.kids e1) i (zb .expr)) kX) fun r =>
 .ite (!r)
  (.ret (.inr (.inr false)))
  (.ret (.inl (zu (i+1)))))
  (.ret (.inr (.inl ())))
def sM uW kX e1 s:=T.loop (kH uW kX e1) s
def cQ(uW:AM.Expr→(List zf)→T Bool)(e:AM.Expr)(fields:(List zf)):T Bool :=
 T.bind (sM uW fields e (0:Int)) <|
 Sum.elim (fun _ =>
 .ite (((Expr.kind e)==5)&&(((Expr.kids e).length:Int)==(2:Int)))
  (.zd (zi (0:Int) (Expr.kids e).length) <|
 T.bind (bg (nth (Expr.kids e) (0:Int) (zb .expr)) fields) fun r1 =>
 .ite (!r1)
  (.ret true)
  (.zd (zi (1:Int) (Expr.kids e).length) <|
 T.bind (bg (nth (Expr.kids e) (1:Int) (zb .expr)) fields) fun r2 =>
 .ret (!r2)))
  (.ite (((Expr.kind e)==6)&&(((Expr.kids e).length:Int)==(2:Int)))
  (.zd (zi (1:Int) (Expr.kids e).length) <|
 T.bind (bg (nth (Expr.kids e) (1:Int) (zb .expr)) fields) fun r3 =>
 .ret (!r3))
  (.ret true)))
  (fun x =>
 .ret x)
def dr(e:AM.Expr)(fields:(List zf)):T Bool:=T.fix (fun F x=>cQ (fun y0 y1=>F (y0,y1)) x.1 x.2) (e,fields)
def kz(f1:Form)(kX:(List zf)):(Int×(List zf))→T ((Int×(List zf))⊕((List zf)))
 | (i,xs) =>
 .ite (decide (i<(f1.2.1.length:Int)))
  (.zd (zi i f1.2.1.length) <|
 .zd (xF xs.length xs.length (0:Nat) xs.length xs.length (1:Nat) (16:Nat)) <|
 .zd (zh (xs.length+(1:Nat)) (0:Nat) (xs.length+(1:Nat)) (List.length (xs++([(nth f1.2.1 i (zb q8)).1]:List zf)))) <|
 .zd ((xs.length+(1:Nat))=(List.length (xs++([(nth f1.2.1 i (zb q8)).1]:List zf)))) <|
 .ret (.inl ((zu (i+1)),(xs++([(nth f1.2.1 i (zb q8)).1]:List zf)))))
  (.zd (zh xs.length (0:Nat) xs.length xs.length) <|
 .zd (xs.length=xs.length) <|
 .ret (.inr xs))
def iJ f1 kX s:=T.loop (kz f1 kX) s
def kR(f2:Form)(oN:(List zf)):Int→T (Int⊕(Unit⊕(Int×zf)))
 | i1 =>
 .ite (decide (i1<(f2.2.2.2.2.1.length:Int)))
  (T.bind (.zd (zi i1 f2.2.2.2.2.1.length) <|
 T.bind (dr (nth f2.2.2.2.2.1 i1 (zb zl)).2.2.2.1 oN) fun r3 =>
 .ite (!r3)
  (.ret true)
  (.zd (zi i1 f2.2.2.2.2.1.length) <|
 T.bind (dr (nth f2.2.2.2.2.1 i1 (zb zl)).2.2.2.2.1 oN) fun r4 =>
 .ret (!r4)):T (Bool)) fun x =>
 .ite x
  (.zd (zi i1 f2.2.2.2.2.1.length) <|
 .ret (.inr (.inr ((6:Int),(nth f2.2.2.2.2.1 i1 (zb zl)).1))))
  (.ret (.inl (zu (i1+1)))))
  (.ret (.inr (.inl ())))
def so f2 oN s:=T.loop (kR f2 oN) s
def lA(f:Form):T (Int×zf) :=
 T.bind (J2 f) fun r =>
 .ite (!r)
  (.ret ((2:Int),([]:zf)))
  (.ite ((decide ((64:Int)<(f.2.2.2.1.length:Int)))||(decide ((64:Int)<(f.2.2.2.2.1.length:Int))))
  (.ret ((3:Int),([]:zf)))
  (T.bind (o0 f) fun r1 =>
 T.bind (p7 r1) fun s =>
 T.bind (.ite (zM s ([]:zf))
  (T.bind (dV f) fun s1 =>
 .ret s1)
  (.ret s):T (zf)) fun s2 =>
 T.bind (gF f) fun fields =>
 T.bind (.ite (zM s2 ([]:zf))
  (.zd (xF (0:Nat) (0:Nat) (0:Nat) (0:Nat) (0:Nat) fields.length (16:Nat)) <|
 .zd (zh ((0:Nat)+fields.length) (0:Nat) ((0:Nat)+fields.length) fields.length) <|
 .zd (((0:Nat)+fields.length)=fields.length) <|
 T.bind (iJ f fields ((0:Int),fields)) fun zE =>
 T.bind (fX f) fun r2 =>
 .zd (zE.length=zE.length) <|
 T.bind (ba r2 (List.drop (0:Nat) (List.take ((0:Nat)+zE.length) zE))) fun s3 =>
 .ret s3)
  (.ret s2):T (zf)) fun s4 =>
 .ite (!(zM s4 ([]:zf)))
  (.ret ((5:Int),s4))
  (T.bind (so f fields (0:Int)) <|
 Sum.elim (fun _ =>
 .ret ((0:Int),([]:zf)))
  (fun(x1,x2) =>
 .ret (x1,x2)))))
def da(f1:Form):(Int×((List Rat)×Unit)×(List Rat)×((List zf)×Unit)×(List zf)×(List zf)×(List zf))→T ((Int×((List Rat)×Unit)×(List Rat)×((List zf)×Unit)×(List zf)×(List zf)×(List zf))⊕((((List Rat)×Unit)×(List Rat)×((List zf)×Unit)×(List zf)×(List zf)×(List zf))))
 | (i,v,xs,v1,zE,zV,qM) =>
 .ite (decide (i<(f1.2.1.length:Int)))
  (.zd (zi i f1.2.1.length) <|
 .zd (xF qM.length qM.length (0:Nat) qM.length qM.length (1:Nat) (16:Nat)) <|
 .zd (zh zE.length (0:Nat) zE.length zE.length) <|
 .zd (zh zV.length (0:Nat) zV.length zV.length) <|
 .zd (xs.length=xs.length) <|
 .zd (zh (qM.length+(1:Nat)) (0:Nat) (qM.length+(1:Nat)) (List.length (qM++([(nth f1.2.1 i (zb q8)).1]:List zf)))) <|
 .zd (zh xs.length (0:Nat) xs.length xs.length) <|
 .zd (zE.length=zE.length) <|
 .zd (zV.length=zV.length) <|
 .zd ((qM.length+(1:Nat))=(List.length (qM++([(nth f1.2.1 i (zb q8)).1]:List zf)))) <|
 .ret (.inl ((zu (i+1)),((v.1,()),(xs,((v1.1,()),(zE,(zV,(qM++([(nth f1.2.1 i (zb q8)).1]:List zf))))))))))
  (.zd (zh zE.length (0:Nat) zE.length zE.length) <|
 .zd (zh zV.length (0:Nat) zV.length zV.length) <|
 .zd (xs.length=xs.length) <|
 .zd (zh qM.length (0:Nat) qM.length qM.length) <|
 .zd (zh xs.length (0:Nat) xs.length xs.length) <|
 .zd (zE.length=zE.length) <|
 .zd (zV.length=zV.length) <|
 .zd (qM.length=qM.length) <|
 .ret (.inr ((v.1,()),(xs,((v1.1,()),(zE,(zV,qM)))))))
def VV f1 s:=T.loop (da f1) s
def ss(f:Form)(params:(List Rat)):T zB :=
 T.bind (gF f) fun r =>
 .zd (xF (0:Nat) (0:Nat) (0:Nat) (0:Nat) (0:Nat) params.length (56:Nat)) <|
 .zd (zh (0:Nat) (0:Nat) (0:Nat) (0:Nat)) <|
 .zd (zh (0:Nat) (0:Nat) (0:Nat) (0:Nat)) <|
 .zd (((0:Nat)+params.length)=params.length) <|
 .zd (zh (0:Nat) (0:Nat) (0:Nat) (0:Nat)) <|
 .zd (zh ((0:Nat)+params.length) (0:Nat) ((0:Nat)+params.length) params.length) <|
 .zd ((0:Nat)=(0:Nat)) <|
 .zd ((0:Nat)=(0:Nat)) <|
 .zd ((0:Nat)=(0:Nat)) <|
 T.bind (VV f ((0:Int),((([]:List Rat),()),(params,((r,()),(([]:List zf),(([]:List zf),([]:List zf)))))))) fun(v2,vj,v3,jd,xs6,vP) =>
 .zd (vP.length=vP.length) <|
 .zd (vj.length=vj.length) <|
 .ret (v3.1,((List.drop (0:Nat) (List.take ((0:Nat)+vP.length) vP)),((List.drop (0:Nat) (List.take ((0:Nat)+vj.length) vj)),())))
def fU(Nw:(List Bool))(Rt:zf)(f1:Form):Int→T (Int⊕(Unit⊕Bool))
 | i =>
 .ite (decide (i<(f1.1.length:Int)))
  (.zd (zi i f1.1.length) <|
 .ite (zM (nth f1.1 i (zb zZ)).1 Rt)
  (.zd (((decide (i<(Nw.length:Int)))=true)→(zi i Nw.length)) <|
 .ret (.inr (.inr ((decide (i<(Nw.length:Int)))&&(nth Nw i (zb .bool))))))
  (.ret (.inl (zu (i+1)))))
  (.ret (.inr (.inl ())))
def Qr Nw Rt f1 s:=T.loop (fU Nw Rt f1) s
def J0(f:Form)(on:(List Bool))(when:zf):T Bool :=
 T.bind (Qr on when f (0:Int)) <|
 Sum.elim (fun _ =>
 .ret (zM when ([]:zf)))
  (fun x =>
 .ret x)
def cT(neg:Bool)(n:(List Int))(d:(List Int)):T Rat :=
 T.bind (qL (neg,(n,(d,())))) fun r =>
 .ret r
def xW(n:Int):T Rat :=
 T.bind (p8 (bif (decide (n<(0:Int)))then(zx ((0:Int)-(zx n)))else(zx n))) fun r =>
 T.bind (cT (decide (n<(0:Int))) r ([(1:Int)]:List Int)) fun r1 =>
 .ret r1
def bX(s1:zf)(v1:zB):(Int×wF)→T ((Int×wF)⊕(wF⊕(Int×wF)))
 | (i,v2) =>
 .ite (decide (i<(v1.1.length:Int)))
  (.zd (zi i v1.1.length) <|
 .ite (zM (nth v1.1 i (zb .str)) s1)
  (T.bind (xW (1:Int)) fun r =>
 T.bind (xW (0:Int)) fun r1 =>
 .ret (.inr (.inr ((0:Int),((0:Int),(([(i,((r.1,(r.2.1,(r.2.2.1,()))),()))]:List Term),((r1.1,(r1.2.1,(r1.2.2.1,()))),())))))))
  (.ret (.inl ((zu (i+1)),v2))))
  (.ret (.inr (.inl v2)))
def fa s1 v1 s:=T.loop (bX s1 v1) s
def hO(s2:zf)(v5:zB):(Int×wF)→T ((Int×wF)⊕(wF⊕(Int×wF)))
 | (i1,v6) =>
 .ite (decide (i1<(v5.2.1.length:Int)))
  (.zd (zi i1 v5.2.1.length) <|
 .ite ((zM (nth v5.2.1 i1 (zb .str)) s2)&&(decide (i1<(v5.2.2.1.length:Int))))
  (.zd (zi i1 v5.2.2.1.length) <|
 T.bind (qL (nth v5.2.2.1 i1 (zb zt))) fun r2 =>
 .ret (.inr (.inr ((0:Int),((0:Int),(([]:List Term),((r2.1,(r2.2.1,(r2.2.2.1,()))),())))))))
  (.zd (zi i1 v5.2.1.length) <|
 .ite (zM (nth v5.2.1 i1 (zb .str)) s2)
  (T.bind (xW (0:Int)) fun r3 =>
 .ret (.inr (.inr ((0:Int),((0:Int),(([]:List Term),((r3.1,(r3.2.1,(r3.2.2.1,()))),())))))))
  (.ret (.inl ((zu (i1+1)),v6)))))
  (.ret (.inr (.inl v6)))
def oS s2 v5 s:=T.loop (hO s2 v5) s
def ni(s:zf)(v:zB):T (wF×Int) :=
 T.bind (fa s v ((0:Int),((0:Int),(([]:List Term),((false,(([]:List Int),(([]:List Int),()))),()))))) <|
 Sum.elim (fun v3 =>
 T.bind (oS s v ((0:Int),v3)) <|
 Sum.elim (fun v7 =>
 .ret (((0:Int),(([]:List Term),((false,(([]:List Int),(([]:List Int),()))),()))),(5:Int)))
  (fun(x1,v8) =>
 .ret (v8,x1)))
  (fun(x,v4) =>
 .ret (v4,x))
def kf(a:Rat)(b:Rat):T Rat :=
 T.bind (qL a) fun r =>
 T.bind (qL b) fun r1 =>
 T.bind (uR r.2.1 r1.2.1) fun r2 =>
 T.bind (uR r.2.2.1 r1.2.2.1) fun r3 =>
 T.bind (cT (!(r.1==r1.1)) r2 r3) fun r4 =>
 .ret r4
def fA(a:Rat):T Bool :=
 T.bind (qL a) fun r =>
 .ret ((r.2.1.length:Int)==(0:Int))
def vG(v:Int)(c:Rat)(l:(List Term)):T (List Term) :=
 T.bind (fA c) fun r =>
 .ite r
  (.zd (zh l.length (0:Nat) l.length l.length) <|
 .zd (l.length=l.length) <|
 .ret l)
  (T.bind (qL c) fun r1 =>
 .zd (xF l.length l.length (0:Nat) l.length l.length (1:Nat) (64:Nat)) <|
 .zd (zh (l.length+(1:Nat)) (0:Nat) (l.length+(1:Nat)) (List.length (l++([(v,((r1.1,(r1.2.1,(r1.2.2.1,()))),()))]:List Term)))) <|
 .zd ((l.length+(1:Nat))=(List.length (l++([(v,((r1.1,(r1.2.1,(r1.2.2.1,()))),()))]:List Term)))) <|
 .ret (l++([(v,((r1.1,(r1.2.1,(r1.2.2.1,()))),()))]:List Term)))
def yX(a1:wF)(vb:Rat):(Int×(Int×Bool×(List Int)×(List Int)×Unit)×(Int×Bool×(List Int)×(List Int)×Unit)×(List Term)×(List Term))→T ((Int×(Int×Bool×(List Int)×(List Int)×Unit)×(Int×Bool×(List Int)×(List Int)×Unit)×(List Term)×(List Term))⊕(((Int×Bool×(List Int)×(List Int)×Unit)×(Int×Bool×(List Int)×(List Int)×Unit)×(List Term)×(List Term))))
 | (i,v,v1,xs,zE) =>
 .ite (decide (i<(a1.2.1.length:Int)))
  (.zd (zi i a1.2.1.length) <|
 .zd (zi i a1.2.1.length) <|
 T.bind (kf (nth a1.2.1 i (zb zp)).2.1 vb) fun r1 =>
 .zd (zh zE.length (0:Nat) zE.length zE.length) <|
 .zd (zE.length=zE.length) <|
 T.bind (vG (nth a1.2.1 i (zb zp)).1 r1 zE) fun zV =>
 .zd (zh xs.length (0:Nat) xs.length xs.length) <|
 .zd (zh zV.length (0:Nat) zV.length zV.length) <|
 .zd (xs.length=xs.length) <|
 .zd (zV.length=zV.length) <|
 .ret (.inl ((zu (i+1)),((v.1,(v.2.1,(v.2.2.1,(v.2.2.2.1,())))),((v1.1,(v1.2.1,(v1.2.2.1,(v1.2.2.2.1,())))),(xs,zV))))))
  (.zd (zh xs.length (0:Nat) xs.length xs.length) <|
 .zd (zh zE.length (0:Nat) zE.length zE.length) <|
 .zd (xs.length=xs.length) <|
 .zd (zE.length=zE.length) <|
 .ret (.inr ((v.1,(v.2.1,(v.2.2.1,(v.2.2.2.1,())))),((v1.1,(v1.2.1,(v1.2.2.1,(v1.2.2.2.1,())))),(xs,zE)))))
def mE a1 vb s:=T.loop (yX a1 vb) s
def vi(a:wF)(vk:Rat):T wF :=
 T.bind (kf a.2.2.1 vk) fun r =>
 .zd (zh (0:Nat) (0:Nat) (0:Nat) (0:Nat)) <|
 .zd (zh (0:Nat) (0:Nat) (0:Nat) (0:Nat)) <|
 .zd ((0:Nat)=(0:Nat)) <|
 .zd ((0:Nat)=(0:Nat)) <|
 T.bind (mE a vk ((0:Int),(((0:Int),(false,(([]:List Int),(([]:List Int),())))),((a.1,(r.1,(r.2.1,(r.2.2.1,())))),(([]:List Term),([]:List Term)))))) fun(v2,v3,qM,vj) =>
 .zd (vj.length=vj.length) <|
 .ret (v3.1,((List.drop (0:Nat) (List.take ((0:Nat)+vj.length) vj)),((v3.2.1,(v3.2.2.1,(v3.2.2.2.1,()))),())))
def k8(a:Rat)(b:Rat):T Rat :=
 T.bind (qL a) fun r =>
 T.bind (qL b) fun r1 =>
 T.bind (uR r.2.1 r1.2.2.1) fun p =>
 T.bind (uR r1.2.1 r.2.2.1) fun q =>
 T.bind (uR r.2.2.1 r1.2.2.1) fun d =>
 .ite (r.1==r1.1)
  (T.bind (nc p q) fun r2 =>
 T.bind (cT r.1 r2 d) fun r3 =>
 .ret r3)
  (T.bind (il p q) fun r4 =>
 .ite (decide ((0:Int)≤r4))
  (T.bind (iL p q) fun(n,r5) =>
 T.bind (cT r.1 n d) fun r6 =>
 .ret r6)
  (T.bind (iL q p) fun(n1,r7) =>
 T.bind (cT r1.1 n1 d) fun r8 =>
 .ret r8))
def j5(a1:wF)(b1:wF):(Int×Int×(Int×Bool×(List Int)×(List Int)×Unit)×(Int×Bool×(List Int)×(List Int)×Unit)×(List Term)×(List Term))→T ((Int×Int×(Int×Bool×(List Int)×(List Int)×Unit)×(Int×Bool×(List Int)×(List Int)×Unit)×(List Term)×(List Term))⊕(((Int×Bool×(List Int)×(List Int)×Unit)×(Int×Bool×(List Int)×(List Int)×Unit)×(List Term)×(List Term))))
 | (i,k,v,v1,xs,zE) =>
 .ite ((decide (i<(a1.2.1.length:Int)))||(decide (k<(b1.2.1.length:Int))))
  (.zd (((k==(b1.2.1.length:Int))=false)→(((decide (i<(a1.2.1.length:Int)))=true)→((zi i a1.2.1.length)∧(zi k b1.2.1.length)))) <|
 .ite ((k==(b1.2.1.length:Int))||((decide (i<(a1.2.1.length:Int)))&&(decide ((nth a1.2.1 i (zb zp)).1<(nth b1.2.1 k (zb zp)).1))))
  (.zd (zi i a1.2.1.length) <|
 .zd (zi i a1.2.1.length) <|
 .zd (zh zE.length (0:Nat) zE.length zE.length) <|
 .zd (zE.length=zE.length) <|
 T.bind (vG (nth a1.2.1 i (zb zp)).1 (nth a1.2.1 i (zb zp)).2.1 zE) fun zV =>
 .zd (zh xs.length (0:Nat) xs.length xs.length) <|
 .zd (zh zV.length (0:Nat) zV.length zV.length) <|
 .zd (xs.length=xs.length) <|
 .zd (zV.length=zV.length) <|
 .ret (.inl ((zu (i+1)),(k,((v.1,(v.2.1,(v.2.2.1,(v.2.2.2.1,())))),((v1.1,(v1.2.1,(v1.2.2.1,(v1.2.2.2.1,())))),(xs,zV)))))))
  (.zd (((i==(a1.2.1.length:Int))=false)→((zi k b1.2.1.length)∧(zi i a1.2.1.length))) <|
 .ite ((i==(a1.2.1.length:Int))||(decide ((nth b1.2.1 k (zb zp)).1<(nth a1.2.1 i (zb zp)).1)))
  (.zd (zi k b1.2.1.length) <|
 .zd (zi k b1.2.1.length) <|
 .zd (zh zE.length (0:Nat) zE.length zE.length) <|
 .zd (zE.length=zE.length) <|
 T.bind (vG (nth b1.2.1 k (zb zp)).1 (nth b1.2.1 k (zb zp)).2.1 zE) fun qM =>
 .zd (zh xs.length (0:Nat) xs.length xs.length) <|
 .zd (zh qM.length (0:Nat) qM.length qM.length) <|
 .zd (xs.length=xs.length) <|
 .zd (qM.length=qM.length) <|
 .ret (.inl (i,((zu (k+1)),((v.1,(v.2.1,(v.2.2.1,(v.2.2.2.1,())))),((v1.1,(v1.2.1,(v1.2.2.1,(v1.2.2.2.1,())))),(xs,qM)))))))
  (.zd (zi i a1.2.1.length) <|
 .zd (zi i a1.2.1.length) <|
 .zd (zi k b1.2.1.length) <|
 T.bind (k8 (nth a1.2.1 i (zb zp)).2.1 (nth b1.2.1 k (zb zp)).2.1) fun r1 =>
 .zd (zh zE.length (0:Nat) zE.length zE.length) <|
 .zd (zE.length=zE.length) <|
 T.bind (vG (nth a1.2.1 i (zb zp)).1 r1 zE) fun vj =>
 .zd (zh xs.length (0:Nat) xs.length xs.length) <|
 .zd (zh vj.length (0:Nat) vj.length vj.length) <|
 .zd (xs.length=xs.length) <|
 .zd (vj.length=vj.length) <|
 .ret (.inl ((zu (i+1)),((zu (k+1)),((v.1,(v.2.1,(v.2.2.1,(v.2.2.2.1,())))),((v1.1,(v1.2.1,(v1.2.2.1,(v1.2.2.2.1,())))),(xs,vj)))))))))
  (.zd (zh xs.length (0:Nat) xs.length xs.length) <|
 .zd (zh zE.length (0:Nat) zE.length zE.length) <|
 .zd (xs.length=xs.length) <|
 .zd (zE.length=zE.length) <|
 .ret (.inr ((v.1,(v.2.1,(v.2.2.1,(v.2.2.2.1,())))),((v1.1,(v1.2.1,(v1.2.2.1,(v1.2.2.2.1,())))),(xs,zE)))))
def gD a1 b1 s:=T.loop (j5 a1 b1) s
def di(a:wF)(b:wF):T wF :=
 T.bind (k8 a.2.2.1 b.2.2.1) fun r =>
 .zd (zh (0:Nat) (0:Nat) (0:Nat) (0:Nat)) <|
 .zd (zh (0:Nat) (0:Nat) (0:Nat) (0:Nat)) <|
 .zd ((0:Nat)=(0:Nat)) <|
 .zd ((0:Nat)=(0:Nat)) <|
 T.bind (gD a b ((0:Int),((0:Int),(((0:Int),(false,(([]:List Int),(([]:List Int),())))),((a.1,(r.1,(r.2.1,(r.2.2.1,())))),(([]:List Term),([]:List Term))))))) fun(v2,v3,jd,xs6) =>
 .zd (xs6.length=xs6.length) <|
 .ret (v3.1,((List.drop (0:Nat) (List.take ((0:Nat)+xs6.length) xs6)),((v3.2.1,(v3.2.2.1,(v3.2.2.2.1,()))),())))
def rG(a:wF)(b:wF):T (wF×Int) :=
 .ite ((decide ((0:Int)<(a.2.1.length:Int)))&&(decide ((0:Int)<(b.2.1.length:Int))))
  (.ret (((0:Int),(([]:List Term),((false,(([]:List Int),(([]:List Int),()))),()))),(6:Int)))
  (.ite (decide ((0:Int)<(a.2.1.length:Int)))
  (T.bind (vi a b.2.2.1) fun r =>
 .ret (r,(0:Int)))
  (T.bind (vi b a.2.2.1) fun r1 =>
 .ret (r1,(0:Int))))
def dS(a:Rat)(b:Rat):T (Rat×Bool) :=
 T.bind (qL a) fun r =>
 T.bind (qL b) fun r1 =>
 .ite ((r1.2.1.length:Int)==(0:Int))
  (T.bind (qL (false,(([]:List Int),(([]:List Int),())))) fun r2 =>
 .ret (r2,false))
  (T.bind (uR r.2.1 r1.2.2.1) fun r3 =>
 T.bind (uR r.2.2.1 r1.2.1) fun r4 =>
 T.bind (cT (!(r.1==r1.1)) r3 r4) fun r5 =>
 .ret (r5,true))
def rX(a:wF)(b:wF):T (wF×Int) :=
 .ite (decide ((0:Int)<(b.2.1.length:Int)))
  (.ret (((0:Int),(([]:List Term),((false,(([]:List Int),(([]:List Int),()))),()))),(6:Int)))
  (T.bind (xW (1:Int)) fun r =>
 T.bind (dS r b.2.2.1) fun(r1,ok) =>
 .ite (!ok)
  (.ret (((0:Int),(([]:List Term),((false,(([]:List Int),(([]:List Int),()))),()))),(7:Int)))
  (T.bind (vi a r1) fun r2 =>
 .ret (r2,(0:Int))))
def tQ(XU:AM.Expr→zB→T (wF×Int))(e:AM.Expr)(v:zB):T (wF×Int) :=
 .ite ((Expr.kind e)==1)
  (T.bind (qL (Expr.num e)) fun r =>
 .ret (((0:Int),(([]:List Term),((r.1,(r.2.1,(r.2.2.1,()))),()))),(0:Int)))
  (.ite ((Expr.kind e)==2)
  (T.bind (ni (Expr.name e) v) fun(r1,r2) =>
 .ret (r1,r2))
  (.zd (zi (0:Int) (Expr.kids e).length) <|
 T.bind (XU (nth (Expr.kids e) (0:Int) (zb .expr)) v) fun(r3,x) =>
 .ite (x != 0)
  (.ret (((0:Int),(([]:List Term),((false,(([]:List Int),(([]:List Int),()))),()))),x))
  (.ite ((Expr.kind e)==7)
  (T.bind (xW (-1:Int)) fun r4 =>
 T.bind (vi r3 r4) fun r5 =>
 .ret (r5,(0:Int)))
  (.zd (zi (1:Int) (Expr.kids e).length) <|
 T.bind (XU (nth (Expr.kids e) (1:Int) (zb .expr)) v) fun(r6,x1) =>
 .ite (x1 != 0)
  (.ret (((0:Int),(([]:List Term),((false,(([]:List Int),(([]:List Int),()))),()))),x1))
  (.ite ((Expr.kind e)==3)
  (T.bind (di r3 r6) fun r7 =>
 .ret (r7,(0:Int)))
  (.ite ((Expr.kind e)==4)
  (T.bind (xW (-1:Int)) fun r8 =>
 T.bind (vi r6 r8) fun r9 =>
 T.bind (di r3 r9) fun Ek =>
 .ret (Ek,(0:Int)))
  (.ite ((Expr.kind e)==5)
  (T.bind (rG r3 r6) fun(r11,r12) =>
 .ret (r11,r12))
  (T.bind (rX r3 r6) fun(r13,r14) =>
 .ret (r13,r14)))))))))
def UN(e:AM.Expr)(v:zB):T (wF×Int):=T.fix (fun F x=>tQ (fun y0 y1=>F (y0,y1)) x.1 x.2) (e,v)
def X7(e:AM.Expr)(v:zB):T (wF×Int) :=
 T.bind (ya e) fun r =>
 .ite (!r)
  (.ret (((0:Int),(([]:List Term),((false,(([]:List Int),(([]:List Int),()))),()))),(5:Int)))
  (T.bind (UN e v) fun(r1,r2) =>
 .ret (r1,r2))
def cZ(r:uP)(v:zB):T (wF×Int) :=
 T.bind (X7 r.2.2.2.1 v) fun(r1,e) =>
 .ite (e != 0)
  (.ret (((0:Int),(([]:List Term),((false,(([]:List Int),(([]:List Int),()))),()))),e))
  (T.bind (X7 r.2.2.2.2.1 v) fun(r2,e1) =>
 .ite (e1 != 0)
  (.ret (((0:Int),(([]:List Term),((false,(([]:List Int),(([]:List Int),()))),()))),e1))
  (T.bind (xW (-1:Int)) fun r3 =>
 T.bind (vi r2 r3) fun r4 =>
 T.bind (di r1 r4) fun r5 =>
 .ret ((r.2.1,(r5.2.1,((r5.2.2.1.1,(r5.2.2.1.2.1,(r5.2.2.1.2.2.1,()))),()))),(0:Int))))
def yF(c1:wF):Int→T (Int⊕(Unit⊕Bool))
 | i =>
 .ite (decide (i<(c1.2.1.length:Int)))
  (.zd (zi i c1.2.1.length) <|
 T.bind (kg (nth c1.2.1 i (zb zp)).2.1) fun r =>
 .ite r
  (.ret (.inr (.inr true)))
  (.ret (.inl (zu (i+1)))))
  (.ret (.inr (.inl ())))
def mA c1 s:=T.loop (yF c1) s
def pB(c:wF):T Bool :=
 T.bind (mA c (0:Int)) <|
 Sum.elim (fun _ =>
 T.bind (kg c.2.2.1) fun r1 =>
 .ret r1)
  (fun x =>
 .ret x)
def b9(params1:(List Rat))(Nw:(List Bool))(f1:Form):Int→T (Int⊕(Unit⊕(zf×Int)))
 | i =>
 .ite (decide (i<(params1.length:Int)))
  (.zd (zi i params1.length) <|
 T.bind (cC (nth params1 i (zb zt))) fun r =>
 .ite (!r)
  (.ret (.inr (.inr (([]:zf),(1:Int)))))
  (.ret (.inl (zu (i+1)))))
  (.ret (.inr (.inl ())))
def o6 params1 Nw f1 s:=T.loop (b9 params1 Nw f1) s
def ug(on2:(List Bool))(f2:Form):(Int×zB×(List wF)×(List Int))→T ((Int×zB×(List wF)×(List Int))⊕((zB×(List wF)×(List Int))⊕(zf×Int×zB×(List wF)×(List Int))))
 | (i1,v,xs,zE) =>
 .ite (decide (i1<(f2.2.2.2.2.1.length:Int)))
  (.zd (zi i1 f2.2.2.2.2.1.length) <|
 T.bind (J0 f2 on2 (nth f2.2.2.2.2.1 i1 (zb zl)).2.2.1) fun r2 =>
 .ite (!r2)
  (.zd (zh xs.length (0:Nat) xs.length xs.length) <|
 .zd (zh zE.length (0:Nat) zE.length zE.length) <|
 .zd (xs.length=xs.length) <|
 .zd (zE.length=zE.length) <|
 .ret (.inl ((zu (i1+1)),(v,(xs,zE)))))
  (.zd (zi i1 f2.2.2.2.2.1.length) <|
 T.bind (cZ (nth f2.2.2.2.2.1 i1 (zb zl)) v) fun(r3,e1) =>
 .ite (e1 != 0)
  (.zd (zi i1 f2.2.2.2.2.1.length) <|
 .zd (xs.length=xs.length) <|
 .zd (zE.length=zE.length) <|
 .ret (.inr (.inr ((nth f2.2.2.2.2.1 i1 (zb zl)).1,(e1,(v,(xs,zE)))))))
  (.zd (xF xs.length xs.length (0:Nat) xs.length xs.length (1:Nat) (88:Nat)) <|
 .zd (xF zE.length zE.length (0:Nat) zE.length zE.length (1:Nat) (8:Nat)) <|
 .zd (zh (xs.length+(1:Nat)) (0:Nat) (xs.length+(1:Nat)) (List.length (xs++([r3]:List wF)))) <|
 .zd (zh (zE.length+(1:Nat)) (0:Nat) (zE.length+(1:Nat)) (List.length (zE++([i1]:List Int)))) <|
 .zd ((xs.length+(1:Nat))=(List.length (xs++([r3]:List wF)))) <|
 .zd ((zE.length+(1:Nat))=(List.length (zE++([i1]:List Int)))) <|
 .ret (.inl ((zu (i1+1)),(v,((xs++([r3]:List wF)),(zE++([i1]:List Int)))))))))
  (.zd (zh xs.length (0:Nat) xs.length xs.length) <|
 .zd (zh zE.length (0:Nat) zE.length zE.length) <|
 .zd (xs.length=xs.length) <|
 .zd (zE.length=zE.length) <|
 .ret (.inr (.inl (v,(xs,zE)))))
def yc on2 f2 s:=T.loop (ug on2 f2) s
def bM(f3:Form):(Int×zB×(List wF)×(List Int))→T ((Int×zB×(List wF)×(List Int))⊕((zB×(List wF)×(List Int))⊕(zf×Int×zB×(List wF)×(List Int))))
 | (i2,v3,xs6,vP) =>
 .ite (decide (i2<(xs6.length:Int)))
  (.zd (zi i2 xs6.length) <|
 .zd (lh xs6.length xs6.length ((0:Nat)+(Int.toNat i2)) xs6.length) <|
 T.bind (pB (xp xs6 ((0:Nat)+(Int.toNat i2)) (zb q7))) fun r4 =>
 .ite r4
  (.zd (zi i2 vP.length) <|
 .zd (lh vP.length vP.length ((0:Nat)+(Int.toNat i2)) vP.length) <|
 .zd (zi (xp vP ((0:Nat)+(Int.toNat i2)) (zb (.int .i64))) f3.2.2.2.2.1.length) <|
 .zd (xs6.length=xs6.length) <|
 .zd (vP.length=vP.length) <|
 .ret (.inr (.inr ((nth f3.2.2.2.2.1 (xp vP ((0:Nat)+(Int.toNat i2)) (zb (.int .i64))) (zb zl)).1,((8:Int),(v3,(xs6,vP)))))))
  (.zd (zh xs6.length (0:Nat) xs6.length xs6.length) <|
 .zd (zh vP.length (0:Nat) vP.length vP.length) <|
 .zd (xs6.length=xs6.length) <|
 .zd (vP.length=vP.length) <|
 .ret (.inl ((zu (i2+1)),(v3,(xs6,vP))))))
  (.zd (zh xs6.length (0:Nat) xs6.length xs6.length) <|
 .zd (zh vP.length (0:Nat) vP.length vP.length) <|
 .zd (xs6.length=xs6.length) <|
 .zd (vP.length=vP.length) <|
 .ret (.inr (.inl (v3,(xs6,vP)))))
def oj f3 s:=T.loop (bM f3) s
def Z6(f:Form)(params:(List Rat))(on:(List Bool)):T ((List wF)×(List Int)×zf×Int) :=
 T.bind (lA f) fun(e,s) =>
 .ite (e != 0)
  (.ret (([]:List wF),(([]:List Int),(s,e))))
  (.ite (((params.length:Int) != (f.2.1.length:Int))||((on.length:Int) != (f.1.length:Int)))
  (.ret (([]:List wF),(([]:List Int),(([]:zf),(1:Int)))))
  (T.bind (o6 params on f (0:Int)) <|
 Sum.elim (fun _ =>
 T.bind (ss f params) fun r1 =>
 .zd (zh (0:Nat) (0:Nat) (0:Nat) (0:Nat)) <|
 .zd (zh (0:Nat) (0:Nat) (0:Nat) (0:Nat)) <|
 .zd ((0:Nat)=(0:Nat)) <|
 .zd ((0:Nat)=(0:Nat)) <|
 T.bind (yc on f ((0:Int),(r1,(([]:List wF),([]:List Int))))) <|
 Sum.elim (fun(v1,zV,qM) =>
 .zd (zh zV.length (0:Nat) zV.length zV.length) <|
 .zd (zh qM.length (0:Nat) qM.length qM.length) <|
 .zd (zV.length=zV.length) <|
 .zd (qM.length=qM.length) <|
 T.bind (oj f ((0:Int),(v1,(zV,qM)))) <|
 Sum.elim (fun(v4,eC,rQ) =>
 .zd (eC.length=eC.length) <|
 .zd (rQ.length=rQ.length) <|
 .ret ((List.drop (0:Nat) (List.take ((0:Nat)+eC.length) eC)),((List.drop (0:Nat) (List.take ((0:Nat)+rQ.length) rQ)),(([]:zf),(0:Int)))))
  (fun(x4,x5,v5,xs10,V1) =>
 .ret (([]:List wF),(([]:List Int),(x4,x5)))))
  (fun(x2,x3,v2,vj,jd) =>
 .ret (([]:List wF),(([]:List Int),(x2,x3)))))
  (fun(x,x1) =>
 .ret (([]:List wF),(([]:List Int),(x,x1))))))
def y5(a:Rat)(b:Rat):T Bool :=
 T.bind (qL a) fun r =>
 T.bind (qL b) fun r1 =>
 .ite (r.1==r1.1)
  (T.bind (jc r.2.1 r1.2.1) fun r2 =>
 .ite r2
  (T.bind (jc r.2.2.1 r1.2.2.1) fun r3 =>
 .ret r3)
  (.ret false))
  (.ret false)
def iK  : T Bool :=
 T.bind (xW (2:Int)) fun r =>
 T.bind (xW (2:Int)) fun r1 =>
 T.bind (fx (([]:List Switch),(([(([112]:zf),((r.1,(r.2.1,(r.2.2.1,()))),()))]:List Param),(([(([113]:zf),(([]:zf),()))]:List tr),(([(([97]:zf),((0:Int),(false,((0:Int),())))),(([98]:zf),((0:Int),(false,((0:Int),()))))]:List Field),(([(([114]:zf),((0:Int),(([]:zf),((Expr.mk (5:Int) (false,(([]:List Int),(([]:List Int),()))) ([]:zf) ([(Expr.mk (2:Int) (false,(([]:List Int),(([]:List Int),()))) ([97]:zf) ([]:List AM.Expr)),(Expr.mk (2:Int) (false,(([]:List Int),(([]:List Int),()))) ([112]:zf) ([]:List AM.Expr))]:List AM.Expr)),((Expr.mk (2:Int) (false,(([]:List Int),(([]:List Int),()))) ([98]:zf) ([]:List AM.Expr)),())))))]:List uP),(([]:List Check),())))))) ([r1]:List Rat) ([]:List Bool)) fun(r2,s,e) =>
 .ite (e==0)
  (.ite (zM s ([]:zf))
  (.ite ((r2.1.length:Int)==(1:Int))
  (.zd (zi (0:Int) r2.1.length) <|
 .ite ((Nat.cast (List.length (nth r2.1 (0:Int) (zb q7)).2.1):Int)==(2:Int))
  (.zd (zi (0:Int) r2.1.length) <|
 .zd (zi (0:Int) (List.length (nth r2.1 (0:Int) (zb q7)).2.1)) <|
 T.bind (xW (2:Int)) fun r3 =>
 T.bind (y5 (nth (nth r2.1 (0:Int) (zb q7)).2.1 (0:Int) (zb zp)).2.1 r3) fun r4 =>
 .ite r4
  (.ret ((r2.2.1.length:Int)==(1:Int)))
  (.ret false))
  (.ret false))
  (.ret false))
  (.ret false))
  (.ret false)
def ob(RE:(List Rat))(a1:wF):(Int×Rat×Rat)→T ((Int×Rat×Rat)⊕((Rat×Rat)))
 | (i,v,v1) =>
 .ite (decide (i<(a1.2.1.length:Int)))
  (.zd (zi i a1.2.1.length) <|
 .ite ((decide ((0:Int)≤(nth a1.2.1 i (zb zp)).1))&&(decide ((nth a1.2.1 i (zb zp)).1<(RE.length:Int))))
  (.zd (zi i a1.2.1.length) <|
 .zd (zi (nth a1.2.1 i (zb zp)).1 RE.length) <|
 T.bind (kf (nth a1.2.1 i (zb zp)).2.1 (nth RE (nth a1.2.1 i (zb zp)).1 (zb zt))) fun r1 =>
 T.bind (k8 v1 r1) fun r2 =>
 .ret (.inl ((zu (i+1)),(v,r2))))
  (.ret (.inl ((zu (i+1)),(v,v1)))))
  (.ret (.inr (v,v1)))
def Qh RE a1 s:=T.loop (ob RE a1) s
def XS(a:wF)(val:(List Rat)):T Rat :=
 T.bind (qL a.2.2.1) fun r =>
 T.bind (Qh val a ((0:Int),((false,(([]:List Int),(([]:List Int),()))),r))) fun(v2,v3) =>
 .ret v3
def sk(a:Rat):T Rat :=
 T.bind (qL a) fun r =>
 T.bind (.ite (!r.1)
  (.ret ((false,(([]:List Int),(([]:List Int),()))),((decide ((0:Int)<(r.2.1.length:Int))),(r.2.1,(r.2.2.1,())))))
  (.ret ((false,(([]:List Int),(([]:List Int),()))),(false,(r.2.1,(r.2.2.1,()))))):T ((Rat×Rat))) fun(v,v1) =>
 .ret v1
def XQ(a:Rat)(b:Rat):T Rat :=
 T.bind (sk b) fun r =>
 T.bind (k8 a r) fun r1 =>
 .ret r1
def fm(pU:AM.Expr→zB→(List Rat)→T (Rat×Int))(e:AM.Expr)(v:zB)(at_:(List Rat)):T (Rat×Int) :=
 .ite ((Expr.kind e)==1)
  (T.bind (qL (Expr.num e)) fun r =>
 .ret (r,(0:Int)))
  (.ite ((Expr.kind e)==2)
  (T.bind (ni (Expr.name e) v) fun(r1,x) =>
 T.bind (XS r1 at_) fun r2 =>
 .ret (r2,x))
  (.zd (zi (0:Int) (Expr.kids e).length) <|
 T.bind (pU (nth (Expr.kids e) (0:Int) (zb .expr)) v at_) fun(r3,x1) =>
 .ite (x1 != 0)
  (.ret (r3,x1))
  (.ite ((Expr.kind e)==7)
  (T.bind (sk r3) fun r4 =>
 .ret (r4,(0:Int)))
  (.zd (zi (1:Int) (Expr.kids e).length) <|
 T.bind (pU (nth (Expr.kids e) (1:Int) (zb .expr)) v at_) fun(r5,x2) =>
 .ite (x2 != 0)
  (.ret (r5,x2))
  (.ite ((Expr.kind e)==3)
  (T.bind (k8 r3 r5) fun r6 =>
 .ret (r6,(0:Int)))
  (.ite ((Expr.kind e)==4)
  (T.bind (XQ r3 r5) fun r7 =>
 .ret (r7,(0:Int)))
  (.ite ((Expr.kind e)==5)
  (T.bind (kf r3 r5) fun r8 =>
 .ret (r8,(0:Int)))
  (T.bind (dS r3 r5) fun(r9,ok) =>
 .ite (!ok)
  (.ret (r9,(7:Int)))
  (.ret (r9,(0:Int)))))))))))
def oc(e:AM.Expr)(v:zB)(at_:(List Rat)):T (Rat×Int):=T.fix (fun F x=>fm (fun y0 y1 y2=>F (y0,y1,y2)) x.1 x.2.1 x.2.2) (e,v,at_)
def iQ(e:AM.Expr)(v:zB)(at_:(List Rat)):T (Rat×Int) :=
 T.bind (ya e) fun r =>
 .ite (!r)
  (T.bind (xW (0:Int)) fun r1 =>
 .ret (r1,(5:Int)))
  (T.bind (oc e v at_) fun(r2,x) =>
 .ite (x != 0)
  (T.bind (xW (0:Int)) fun r3 =>
 .ret (r3,x))
  (.ret (r2,(0:Int))))
def lW(c:wF)(val:(List Rat)):T Bool :=
 T.bind (XS c val) fun r =>
 T.bind (fA r) fun r1 =>
 .ret r1
def jP(Er:(List Rat))(f1:Form):(Int×qU×zB)→T ((Int×qU×zB)⊕((qU×zB)⊕(Bool×qU×zB)))
 | (i,v,v1) =>
 .ite (decide (i<(v.1.length:Int)))
  (.zd ((zi i v.2.1.length)∧(((decide ((nth v.2.1 i (zb (.int .i64)))<(0:Int)))=false)→(zi i v.2.1.length))) <|
 .ite ((decide ((nth v.2.1 i (zb (.int .i64)))<(0:Int)))||(decide ((f1.2.2.2.2.1.length:Int)≤(nth v.2.1 i (zb (.int .i64))))))
  (.ret (.inr (.inr (false,(v,v1)))))
  (.zd (zi i v.2.1.length) <|
 .zd (zi (nth v.2.1 i (zb (.int .i64))) f1.2.2.2.2.1.length) <|
 T.bind (iQ (Expr.mk (Expr.kind (nth f1.2.2.2.2.1 (nth v.2.1 i (zb (.int .i64))) (zb zl)).2.2.2.1) ((Expr.num (nth f1.2.2.2.2.1 (nth v.2.1 i (zb (.int .i64))) (zb zl)).2.2.2.1).1,((Expr.num (nth f1.2.2.2.2.1 (nth v.2.1 i (zb (.int .i64))) (zb zl)).2.2.2.1).2.1,((Expr.num (nth f1.2.2.2.2.1 (nth v.2.1 i (zb (.int .i64))) (zb zl)).2.2.2.1).2.2.1,()))) (Expr.name (nth f1.2.2.2.2.1 (nth v.2.1 i (zb (.int .i64))) (zb zl)).2.2.2.1) (Expr.kids (nth f1.2.2.2.2.1 (nth v.2.1 i (zb (.int .i64))) (zb zl)).2.2.2.1)) v1 Er) fun(Ek,p) =>
 T.bind (iQ (Expr.mk (Expr.kind (nth f1.2.2.2.2.1 (nth v.2.1 i (zb (.int .i64))) (zb zl)).2.2.2.2.1) ((Expr.num (nth f1.2.2.2.2.1 (nth v.2.1 i (zb (.int .i64))) (zb zl)).2.2.2.2.1).1,((Expr.num (nth f1.2.2.2.2.1 (nth v.2.1 i (zb (.int .i64))) (zb zl)).2.2.2.2.1).2.1,((Expr.num (nth f1.2.2.2.2.1 (nth v.2.1 i (zb (.int .i64))) (zb zl)).2.2.2.2.1).2.2.1,()))) (Expr.name (nth f1.2.2.2.2.1 (nth v.2.1 i (zb (.int .i64))) (zb zl)).2.2.2.2.1) (Expr.kids (nth f1.2.2.2.2.1 (nth v.2.1 i (zb (.int .i64))) (zb zl)).2.2.2.2.1)) v1 Er) fun(r11,q) =>
 T.bind (.ite (p != 0)
  (.ret (true,(v,(v1,((nth f1.2.2.2.2.1 (nth v.2.1 i (zb (.int .i64))) (zb zl)),(Ek,r11))))))
  (.ite (q != 0)
  (.ret (true,(v,(v1,((nth f1.2.2.2.2.1 (nth v.2.1 i (zb (.int .i64))) (zb zl)),(Ek,r11))))))
  (.zd (zi i v.1.length) <|
 T.bind (lW (nth v.1 i (zb q7)) Er) fun r12 =>
 T.bind (y5 Ek r11) fun r13 =>
 .ret ((!(r12==r13)),(v,(v1,((nth f1.2.2.2.2.1 (nth v.2.1 i (zb (.int .i64))) (zb zl)),(Ek,r11))))))):T ((Bool×qU×zB×uP×Rat×Rat))) fun(x1,v2,v3,v4,v5,v6) =>
 .ite x1
  (.ret (.inr (.inr (false,(v2,v3)))))
  (.ret (.inl ((zu (i+1)),(v2,v3))))))
  (.ret (.inr (.inl (v,v1))))
def bK Er f1 s:=T.loop (jP Er f1) s
def c7(f:Form)(params:(List Rat))(on:(List Bool))(at_:(List Rat)):T Bool :=
 T.bind (T.bind (cH f) fun r =>
 .ite r
  (.ret true)
  (T.bind (gS params) fun r1 =>
 .ite r1
  (.ret true)
  (T.bind (gS at_) fun r2 =>
 .ite r2
  (.ret true)
  (.ret (decide ((30:Int)<(on.length:Int)))))):T (Bool)) fun x =>
 .ite x
  (.ret true)
  (T.bind (fx f params on) fun(r3,r4,e) =>
 .ite (e != 0)
  (T.bind (Z6 f params on) fun(r5,r6,r7,g) =>
 .ite (e==g)
  (T.bind (iK) fun r8 =>
 .ret r8)
  (.ret false))
  (T.bind (ss f params) fun r9 =>
 .ite ((r3.1.length:Int) != (r3.2.1.length:Int))
  (.ret false)
  (T.bind (bK at_ f ((0:Int),(r3,r9))) <|
 Sum.elim (fun(v7,v8) =>
 T.bind (iK) fun r14 =>
 .ret r14)
  (fun(x2,v9,v10) =>
 .ret x2))))
end Go.AM.Lf
