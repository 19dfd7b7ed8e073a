/-
  The program's functions as trees in plain Lean, part 1: printed by a program of ours.
-/
import Derived.Test.YtilkokbbfmkkbaaGreatDoorLf0
set_option linter.unusedVariables false
noncomputable section
namespace Go.AM.Lf
def vu(a:(List Int))(b:(List Int)):T Bool :=
 .ite ((a.length:Int) != (b.length:Int))
  (.ret false)
  (T.bind (bw a b (a.length:Int) 0) <|
 Sum.elim (λ_ =>
 .ret true)
  (λc =>
 .ret c))
def cG(e:Rat)(f:Rat):T Bool :=
 T.bind (qD e) λa =>
 T.bind (qD f) λb =>
 .ite (a.1==b.1)
  (T.bind (vu a.2.1 b.2.1) λc =>
 .ite c
  (T.bind (vu a.2.2.1 b.2.2.1) λd =>
 .ret d)
  (.ret false))
  (.ret false)
def wh(b:(List Rat))(e:Rat->Rat->T Bool)(c:(List Rat))(f:Int):Int->T (Int⊕(Unit⊕Bool))
 | a =>
 .ite (decide (a<f))
  (oI a c <|
 oI a b <|
 T.bind (e (nth c a (zd zc)) (nth b a (zd zc))) λd =>
 .ite (!d)
  (.ret (.inr (.inr false)))
  (.ret (.inl (zD (a+1)))))
  (.ret (.inr (.inl ())))
def jY s21 eq x x1 s:=T.loop (wh s21 eq x x1) s
def xl(a:(List Rat))(b:(List Rat))(d:Rat->Rat->T Bool):T Bool :=
 .ite ((a.length:Int) != (b.length:Int))
  (.ret false)
  (T.bind (jY b d a (a.length:Int) 0) <|
 Sum.elim (λ_ =>
 .ret true)
  (λc =>
 .ret c))
def jL(b:(List Bool))(c:(List Bool))(d:Int):Int->T (Int⊕(Unit⊕Bool))
 | a =>
 .ite (decide (a<d))
  (oI a b <|
 oI a c <|
 .ite (!((nth b a (zd .bool))==(nth c a (zd .bool))))
  (.ret (.inr (.inr false)))
  (.ret (.inl (zD (a+1)))))
  (.ret (.inr (.inl ())))
def cM s11 s21 x s:=T.loop (jL s11 s21 x) s
def uj(a:(List Bool))(b:(List Bool)):T Bool :=
 .ite ((a.length:Int) != (b.length:Int))
  (.ret false)
  (T.bind (cM a b (a.length:Int) 0) <|
 Sum.elim (λ_ =>
 .ret true)
  (λc =>
 .ret c))
def cb(a:zm)(b:zm):T Bool :=
 .ite (a.1==b.1)
  (.ite (a.2.1==b.2.1)
  (T.bind (cG a.2.2.1 b.2.2.1) λc =>
 .ret c)
  (.ret false))
  (.ret false)
def qZ(b:(List zm))(e:zm->zm->T Bool)(c:(List zm))(f:Int):Int->T (Int⊕(Unit⊕Bool))
 | a =>
 .ite (decide (a<f))
  (oI a c <|
 oI a b <|
 T.bind (e (nth c a (zd zf)) (nth b a (zd zf))) λd =>
 .ite (!d)
  (.ret (.inr (.inr false)))
  (.ret (.inl (zD (a+1)))))
  (.ret (.inr (.inl ())))
def vD s21 eq x x1 s:=T.loop (qZ s21 eq x x1) s
def xr(a:(List zm))(b:(List zm))(d:zm->zm->T Bool):T Bool :=
 .ite ((a.length:Int) != (b.length:Int))
  (.ret false)
  (T.bind (vD b d a (a.length:Int) 0) <|
 Sum.elim (λ_ =>
 .ret true)
  (λc =>
 .ret c))
def VO(a:qF)(b:qF):T Bool :=
 T.bind (xl a.1 b.1 (λz0 z1=>cG z0 z1)) λc =>
 .ite c
  (T.bind (uj a.2.1 b.2.1) λd =>
 .ite d
  (T.bind (xl a.2.2.1 b.2.2.1 (λz0 z1=>cG z0 z1)) λe =>
 .ite e
  (T.bind (j7 a.2.2.2.1 b.2.2.2.1) λf =>
 .ite f
  (T.bind (xr a.2.2.2.2.1 b.2.2.2.2.1 (λz0 z1=>cb z0 z1)) λg =>
 .ite g
  (T.bind (uj a.2.2.2.2.2.1 b.2.2.2.2.2.1) λh =>
 .ret h)
  (.ret false))
  (.ret false))
  (.ret false))
  (.ret false))
  (.ret false)
def yt  : T Int :=
 .ite true
  (.ret 0)
  (.fail)
def yl  : T Bool :=
 .ite false
  (.fail)
  (.ret false)
def wa(a:Op):T Bool :=
 T.bind (dM [a]) λc =>
 .ite c
  (.ret true)
  (T.bind (uK a) λd =>
 T.bind (yC) λb =>
 T.bind (lz d ((1:Int),(([]:List zh),([],())))) λe =>
 .ite e
  (T.bind (vQ [a]) λf =>
 .ite (decide ((f.length:Int)<=1))
  (T.bind (yJ) λg =>
 .ite (qb g [])
  (T.bind (yT) λh =>
 T.bind (VO h (([]:List Rat),(([]:List Bool),(([]:List Rat),(([]:List Int),(([]:List zm),(([]:List Bool),()))))))) λi =>
 .ite i
  (.ite ((zD ((b.1.length:Int)+(b.2.1.length:Int)))==0)
  (T.bind (yt) λj =>
 .ite (j==0)
  (T.bind (yl) λk =>
 .ite (!k)
  (T.bind (bW) λl =>
 .ret l)
  (.ret false))
  (.ret false))
  (.ret false))
  (.ret false))
  (.ret false))
  (.ret false))
  (.ret false))

end Go.AM.Lf
