/-
  The program's functions as trees in plain Lean, part 0: printed by a program of ours.
-/
import Derived.Test.YthhgaidlooddpaaGreatDoorAmA
set_option linter.unusedVariables false
noncomputable section
namespace Go.AM.Lf
abbrev b9:Ty:=(.cons .str .nil)
abbrev BX:=den b9
abbrev bN:Ty:=(.cons .str (.cons (.int .u64) .nil))
abbrev Wq:=den bN
abbrev zJ:Ty:=(.cons .str (.cons .bool .nil))
abbrev Switch:=den zJ
abbrev zV:Ty:=(.cons .str b9)
abbrev xm:=den zV
abbrev xk:Ty:=(.cons (.int .i64) (.cons (.int .i64) .nil))
abbrev zR:=den xk
abbrev dE:Ty:=(.cons (.int .u8) (.cons (.int .u8) .nil))
abbrev UB:=den dE
abbrev mh:Ty:=(.cons (.int .i64) (.cons (.int .i64) (.cons .bool (.cons (.int .u8) .nil))))
abbrev Br:=den mh
abbrev vn:Ty:=(.cons .bool (.cons (.sl (.int .u32)) (.cons (.sl (.int .u32)) .nil)))
abbrev Rat:=den vn
abbrev zL:Ty:=(.cons .str (.cons (.int .i64) (.cons .bool (.cons (.int .i64) .nil))))
abbrev Field:=den zL
abbrev zI:Ty:=(.cons .str (.cons (.int .i64) (.cons (.int .i64) (.cons .bool .nil))))
abbrev zc:=den zI
abbrev qf:Ty:=(.cons .str (.cons (.int .i64) (.cons .str (.cons .expr (.cons .expr .nil)))))
abbrev xe:=den qf
abbrev zX:Ty:=(.cons .str (.cons (.int .i64) (.cons (.int .i64) (.cons .expr (.cons .expr .nil)))))
abbrev Check:=den zX
abbrev zP:Ty:=(.cons .str (.cons vn .nil))
abbrev Param:=den zP
abbrev VY:Ty:=(.cons .str (.cons (.int .i64) (.cons (.int .i64) (.cons (.int .i64) (.cons (.int .i64) (.cons .bool .nil))))))
abbrev z27:=den VY
abbrev qg:Ty:=(.cons (.sl zJ) (.cons (.sl zP) (.cons (.sl zV) (.cons (.sl zL) (.cons (.sl qf) (.cons (.sl zX) .nil))))))
abbrev Form:=den qg
def jb(e:AM.Expr->Int->T Int)(c:AM.Expr):(Int×Int)->T ((Int×Int)⊕(Int))
 | (b,a) =>
 .ite ((decide (a<((Expr.kids c).length:Int)))&&(decide (0<=b)))
  (oI a (Expr.kids c) <|
 T.bind (e (nth (Expr.kids c) a (zj .expr)) b) λd =>
 .ret (.inl (d,(zF (a+1)))))
  (.ret (.inr b))
def nA self_law6_weight e1 s:=T.loop (jb self_law6_weight e1) s
def hJ(c:AM.Expr->Int->T Int)(a:AM.Expr)(d:Int):T Int :=
 T.bind (nA c a ((zF ((zF ((zF ((zF (d-3))-((Expr.name a).length:Int)))-(zF (8*(Nat.cast (List.length (Expr.num a).2.1):Int)))))-(zF (8*(Nat.cast (List.length (Expr.num a).2.2.1):Int))))),0)) λb =>
 .ret b
def jz(e:AM.Expr)(left:Int):T Int:=T.fix (λF x=>hJ (λy0 y1=>F (y0,y1)) x.1 x.2) (e,left)
def kB(b:Form):(Int×Int)->T ((Int×Int)⊕(Int))
 | (c,a) =>
 .ite ((decide (a<(b.2.1.length:Int)))&&(decide (0<=c)))
  (oI a b.2.1 <|
 oI a b.2.1 <|
 oI a b.2.1 <|
 .ret (.inl ((zF ((zF ((zF (c-(zF (8*(Nat.cast (List.length (nth b.2.1 a (zj zP)).2.1.2.1):Int)))))-(zF (8*(Nat.cast (List.length (nth b.2.1 a (zj zP)).2.1.2.2.1):Int)))))-(Nat.cast (List.length (nth b.2.1 a (zj zP)).1):Int))),(zF (a+1)))))
  (.ret (.inr c))
def pn f1 s:=T.loop (kB f1) s
def kF(c:Form):(Int×Int)->T ((Int×Int)⊕(Int))
 | (b,a) =>
 .ite ((decide (a<(c.1.length:Int)))&&(decide (0<=b)))
  (oI a c.1 <|
 .ret (.inl ((zF (b-(Nat.cast (List.length (nth c.1 a (zj zJ)).1):Int))),(zF (a+1)))))
  (.ret (.inr b))
def pU f2 s:=T.loop (kF f2) s
def ki(b:Form):(Int×Int)->T ((Int×Int)⊕(Int))
 | (c,a) =>
 .ite ((decide (a<(b.2.2.1.length:Int)))&&(decide (0<=c)))
  (oI a b.2.2.1 <|
 oI a b.2.2.1 <|
 .ret (.inl ((zF ((zF (c-(Nat.cast (List.length (nth b.2.2.1 a (zj zV)).1):Int)))-(Nat.cast (List.length (nth b.2.2.1 a (zj zV)).2.1):Int))),(zF (a+1)))))
  (.ret (.inr c))
def pW f3 s:=T.loop (ki f3) s
def ko(c:Form):(Int×Int)->T ((Int×Int)⊕(Int))
 | (b,a) =>
 .ite ((decide (a<(c.2.2.2.1.length:Int)))&&(decide (0<=b)))
  (oI a c.2.2.2.1 <|
 .ret (.inl ((zF (b-(Nat.cast (List.length (nth c.2.2.2.1 a (zj zL)).1):Int))),(zF (a+1)))))
  (.ret (.inr b))
def pB f4 s:=T.loop (ko f4) s
def kI(b:Form):(Int×Int)->T ((Int×Int)⊕(Int))
 | (d,a)=>let c:=nth b.2.2.2.2.1 a (zj qf);
 .ite ((decide (a<(b.2.2.2.2.1.length:Int)))&&(decide (0<=d)))
  (oI a b.2.2.2.2.1 <|
 oI a b.2.2.2.2.1 <|
 oI a b.2.2.2.2.1 <|
 oI a b.2.2.2.2.1 <|
 T.bind (jz c.2.2.2.1 (zF ((zF (d-(c.1.length:Int)))-(c.2.2.1.length:Int)))) λe =>
 T.bind (jz c.2.2.2.2.1 e) λf =>
 .ret (.inl (f,(zF (a+1)))))
  (.ret (.inr d))
def pQ f5 s:=T.loop (kI f5) s
def kC(b:Form):(Int×Int)->T ((Int×Int)⊕(Int))
 | (c,a)=>let d:=nth b.2.2.2.2.2.1 a (zj zX);
 .ite ((decide (a<(b.2.2.2.2.2.1.length:Int)))&&(decide (0<=c)))
  (oI a b.2.2.2.2.2.1 <|
 oI a b.2.2.2.2.2.1 <|
 oI a b.2.2.2.2.2.1 <|
 T.bind (jz d.2.2.2.1 (zF (c-(d.1.length:Int)))) λe =>
 T.bind (jz d.2.2.2.2.1 e) λf =>
 .ret (.inl (f,(zF (a+1)))))
  (.ret (.inr c))
def pC f6 s:=T.loop (kC f6) s
def du(a:Form):T Bool :=
 T.bind (pn a ((zF (600-(zF (20*(zF ((zF ((zF ((zF ((zF ((a.1.length:Int)+(a.2.1.length:Int)))+(a.2.2.1.length:Int)))+(a.2.2.2.1.length:Int)))+(a.2.2.2.2.1.length:Int)))+(a.2.2.2.2.2.1.length:Int))))))),0)) λb =>
 T.bind (pU a (b,0)) λc =>
 T.bind (pW a (c,0)) λd =>
 T.bind (pB a (d,0)) λe =>
 T.bind (pQ a (e,0)) λf =>
 T.bind (pC a (f,0)) λg =>
 .ret (decide (g<0))
def je(a:Int):T Bool :=
 .ret ((decide (97<=a))&&(decide (a<=122)))
def il(a:Int):T Bool :=
 .ret ((decide (48<=a))&&(decide (a<=57)))
def jH(b:zf):Int->T (Int⊕(Unit⊕Bool))
 | a =>
 .ite (decide (a<(b.length:Int)))
  (T.bind (oI a b <|
 T.bind (je (qm b a)) λc =>
 .ite (!c)
  (oI a b <|
 T.bind (il (qm b a)) λd =>
 .ite (!d)
  (oI a b <|
 .ret ((qm b a) != 95))
  (.ret false))
  (.ret false):T (Bool)) λe =>
 .ite e
  (.ret (.inr (.inr false)))
  (.ret (.inl (zF (a+1)))))
  (.ret (.inr (.inl ())))
def tB s1 s:=T.loop (jH s1) s
def vF(a:zf):T Bool :=
 T.bind (.ite (decide ((a.length:Int)<1))
  (.ret true)
  (.ite (decide (24<(a.length:Int)))
  (.ret true)
  (oI 0 a <|
 T.bind (je (qm a 0)) λb =>
 .ret (!b))):T (Bool)) λc =>
 .ite c
  (.ret false)
  (T.bind (tB a 1) <|
 Sum.elim (λ_ =>
 .ret true)
  (λd =>
 .ret d))
def yD(b:(List Int)):Int->T (Int⊕(Int))
 | a =>
 .zA (((decide (0<a))=true)->(qu (zF (a-1)) b.length)) <|
 .ite ((decide (0<a))&&((nth b (zF (a-1)) (zj (.int .u32)))==0))
  (.ret (.inl (zF (a-1))))
  (.ret (.inr a))
def tq a1 s:=T.loop (yD a1) s
def qK(a:(List Int)):T (List Int) :=
 T.bind (tq a (a.length:Int)) λb =>
 .zA (gj 0 b a.length) <|
 .zA (ZX 0 0 0 0 0 (wY (e:=(.int .u32)) 0 b a).length 4) <|
 .zA ((0+(wY (e:=(.int .u32)) 0 b a).length)=(0+(wY (e:=(.int .u32)) 0 b a).length)) <|
 .ret (List.drop 0 (List.take (0+(0+(wY (e:=(.int .u32)) 0 b a).length)) (wY (e:=(.int .u32)) 0 b a)))
def cE(c:(List Int)):(Int×Int)->T ((Int×Int)⊕(Int))
 | (b,a) =>
 .ite (decide (0<=a))
  (.zA (0<=(32:Int)) <|
 oI a c <|
 .ret (.inl ((si .u64 (y6 .u64 b 32) (zK (nth c a (zj (.int .u32))))),(zF (a-1)))))
  (.ret (.inr b))
def W7 t1 s:=T.loop (cE t1) s
def tG(c:(List Int)):T (Int×Bool) :=
 T.bind (qK c) λa =>
 .ite (decide (2<(a.length:Int)))
  (.ret (0,false))
  (T.bind (W7 a (0,(zF ((a.length:Int)-1)))) λb =>
 .ret (b,true))
def oS(a:Int):T (List Int) :=
 .zA (0<=(32:Int)) <|
 T.bind (qK ([(xL a),(xL (wg .u64 a 32))]:List Int)) λb =>
 .ret b
def gW(e:(List Int))(c:Int):(Int×Int×(List Int))->T ((Int×Int×(List Int))⊕((Int×(List Int))))
 | (d,b,a)=>let f:=List.set a (0+(Int.toNat b)) (xL (zK (Int.tdiv (si .u64 (y6 .u64 d 32) (zK (nth e b (zj (.int .u32))))) c)));
 .ite (decide (0<=b))
  (.zA (0<=(32:Int)) <|
 oI b e <|
 .zA (c≠0) <|
 oI b a <|
 .zA (fU a.length a.length (0+(Int.toNat b)) a.length) <|
 .zA (c≠0) <|
 oM a.length f.length <|
 .ret (.inl ((Int.tmod (si .u64 (y6 .u64 d 32) (zK (nth e b (zj (.int .u32))))) c),((zF (b-1)),f))))
  (oC a <|
 oE a <|
 .ret (.inr (d,a)))
def pw a1 by_1 s:=T.loop (gW a1 by_1) s
def gI(a:(List Int))(e:Int):T ((List Int)×Int) :=
 .zA (Zl (a.length:Int) (a.length:Int) 4) <|
 oM (Int.toNat (a.length:Int)) (List.replicate (Int.toNat (a.length:Int)) (0:Int)).length <|
 T.bind (pw a e (0,((zF ((a.length:Int)-1)),(List.replicate (Int.toNat (a.length:Int)) 0)))) λ(c,b) =>
 oE b <|
 T.bind (qK (List.drop 0 (List.take (0+b.length) b))) λd =>
 .ret (d,c)
def yI(a:(List Int))(b:Int):T Int :=
 .ite (decide (b<(a.length:Int)))
  (oI b a <|
 .ret (zK (nth a b (zj (.int .u32)))))
  (.ret 0)
def pq(c:(List Int))(d:Int):(Int×(List Int))->T ((Int×(List Int))⊕((List Int)))
 | (b,a) =>
 .ite (decide (b<(c.length:Int)))
  (T.bind (yI c b) λf =>
 T.bind (yI c (zF (b+1))) λg=>let e:=a++([(xL (wg .u64 (si .u64 f (y6 .u64 g 32)) d))]:List Int);
 .zA (0<=(32:Int)) <|
 .zA (0<=d) <|
 oA a 4 <|
 oM (a.length+1) e.length <|
 .ret (.inl ((zF (b+1)),e)))
  (oC a <|
 oE a <|
 .ret (.inr a))
def U1 t1 by_ s:=T.loop (pq t1 by_) s
def hO(f:(List Int))(b:Int):(Int×Int×(List Int))->T ((Int×Int×(List Int))⊕((List Int)))
 | (e,d,a) =>
 .ite (decide (d<(zF ((f.length:Int)+1))))
  (T.bind (yI f d) λc =>
 .zA (0<=b) <|
 oA a 4 <|
 .zA (0<=(32:Int)) <|
 oM (a.length+1) (a++([(xL (si .u64 (y6 .u64 c b) e))]:List Int)).length <|
 .ret (.inl ((wg .u64 (y6 .u64 c b) 32),((zF (d+1)),(a++([(xL (si .u64 (y6 .u64 c b) e))]:List Int))))))
  (oC a <|
 oE a <|
 .ret (.inr a))
def pJ t2 by_1 s:=T.loop (hO t2 by_1) s
def lv(j:(List Int))(k:Int):T (List Int) :=
 let b:=Ki (lJ k (-4096)) 4096; let g:=zF (Int.tdiv (zF (0-b)) (32:Int)); let c:=zF (Int.tdiv b (32:Int));  T.bind (qK j) λa =>
 .ite (decide (b<0))
  (.zA (32≠(0:Int)) <|
 .ite (decide ((a.length:Int)<=g))
  (.ret [])
  (.zA (gj g (a.length:Int) a.length) <|
 .zA (32≠(0:Int)) <|
 oZ <|
 T.bind (U1 (wY (e:=(.int .u32)) g (a.length:Int) a) (zK (Int.tmod (zF (0-b)) (32:Int))) (0,[])) λd =>
 oE d <|
 T.bind (qK (List.drop 0 (List.take (0+d.length) d))) λh =>
 .ret h))
  (.zA (32≠(0:Int)) <|
 .zA (Zl c c 4) <|
 .zA (32≠(0:Int)) <|
 oM (Int.toNat c) (List.replicate (Int.toNat c) (0:Int)).length <|
 T.bind (pJ a (zK (Int.tmod b (32:Int))) (0,(0,(List.replicate (Int.toNat c) 0)))) λf =>
 oE f <|
 T.bind (qK (List.drop 0 (List.take (0+f.length) f))) λi =>
 .ret i)
def dY(f:(List Int))(g:(List Int)):(Int×Int×(List Int))->T ((Int×Int×(List Int))⊕((List Int)))
 | (e,b,a) =>
 .ite (decide (b<(zF ((lJ (f.length:Int) (g.length:Int))+1))))
  (T.bind (yI f b) λc =>
 T.bind (yI g b) λd =>
 oA a 4 <|
 .zA (0<=(32:Int)) <|
 oM (a.length+1) (a++([(xL (zK ((zK (e+c))+d)))]:List Int)).length <|
 .ret (.inl ((wg .u64 (zK ((zK (e+c))+d)) 32),((zF (b+1)),(a++([(xL (zK ((zK (e+c))+d)))]:List Int))))))
  (oC a <|
 oE a <|
 .ret (.inr a))
def Qs a1 b1 s:=T.loop (dY a1 b1) s
def sx(c:(List Int))(d:(List Int)):T (List Int) :=
 oZ <|
 T.bind (Qs c d (0,(0,[]))) λa =>
 oE a <|
 T.bind (qK (List.drop 0 (List.take (0+a.length) a))) λb =>
 .ret b
def bg(b:(List Int))(c:(List Int)):Int->T (Int⊕(Unit⊕Int))
 | a =>
 .ite (decide (0<=a))
  (oI a b <|
 oI a c <|
 .ite (decide ((nth b a (zj (.int .u32)))<(nth c a (zj (.int .u32)))))
  (.ret (.inr (.inr (-1))))
  (oI a b <|
 oI a c <|
 .ite (decide ((nth c a (zj (.int .u32)))<(nth b a (zj (.int .u32)))))
  (.ret (.inr (.inr 1)))
  (.ret (.inl (zF (a-1))))))
  (.ret (.inr (.inl ())))
def ZY x1 y1 s:=T.loop (bg x1 y1) s
def nq(d:(List Int))(e:(List Int)):T Int :=
 T.bind (qK d) λa =>
 T.bind (qK e) λb =>
 .ite ((a.length:Int) != (b.length:Int))
  (.ite (decide ((a.length:Int)<(b.length:Int)))
  (.ret (-1))
  (.ret 1))
  (T.bind (ZY a b (zF ((a.length:Int)-1))) <|
 Sum.elim (λ_ =>
 .ret 0)
  (λc =>
 .ret c))
def dT(f:(List Int))(h:(List Int)):(Int×Int×(List Int))->T ((Int×Int×(List Int))⊕((List Int)))
 | (e,c,a) =>
 .ite (decide (c<(f.length:Int)))
  (T.bind (yI f c) λb =>
 T.bind (yI h c) λd=>let g:=a++([(xL (zK ((bif (decide (b<(zK (d+e))))then(zK (b+4294967296))else b)-(zK (d+e)))))]:List Int);
 oA a 4 <|
 oM (a.length+1) g.length <|
 .ret (.inl ((bif (decide (b<(zK (d+e))))then 1 else 0),((zF (c+1)),g))))
  (oC a <|
 oE a <|
 .ret (.inr a))
def QH a1 b1 s:=T.loop (dT a1 b1) s
def tD(b:(List Int))(c:(List Int)):T ((List Int)×Bool) :=
 T.bind (nq b c) λd =>
 .ite (decide (d<0))
  (.ret ([],false))
  (oZ <|
 T.bind (QH b c (0,(0,[]))) λa =>
 oE a <|
 T.bind (qK (List.drop 0 (List.take (0+a.length) a))) λe =>
 .ret (e,true))
def uc(i:(List Int))(j:(List Int)):((List Int)×Int×(List Int))->T (((List Int)×Int×(List Int))⊕(((List Int)×(List Int))))
 | (h,c,b)=>let d:=zF (Int.tdiv c (32:Int)); let e:=0+(Int.toNat d);
 .ite (decide (0<=c))
  (T.bind (lv h 1) λg =>
 T.bind (.zA (32≠(0:Int)) <|
 oI d i <|
 .zA (32≠(0:Int)) <|
 .zA (0<=(zK (Int.tmod c (32:Int)))) <|
 .ite ((fa .u32 (wg .u32 (nth i d (zj (.int .u32))) (zK (Int.tmod c (32:Int)))) 1)==1)
  (T.bind (sx g ([1]:List Int)) λl =>
 oC b <|
 oE b <|
 .ret (l,b))
  (oC b <|
 oE b <|
 .ret (g,b)):T (((List Int)×(List Int)))) λ(f,a)=>let k:=List.set a e (si .u32 (jF a e (zj (.int .u32))) (y6 .u32 1 (zK (Int.tmod c (32:Int)))));
 T.bind (nq f j) λm =>
 .ite (decide (0<=m))
  (T.bind (tD f j) λ(n,o) =>
 .zA (32≠(0:Int)) <|
 .zA (32≠(0:Int)) <|
 oI d a <|
 .zA (fU a.length a.length e a.length) <|
 .zA (32≠(0:Int)) <|
 .zA (0<=(zK (Int.tmod c (32:Int)))) <|
 oI d a <|
 .zA (fU a.length a.length e a.length) <|
 oM a.length k.length <|
 .ret (.inl (n,((zF (c-1)),k))))
  (oC a <|
 oE a <|
 .ret (.inl (f,((zF (c-1)),a)))))
  (oC b <|
 oE b <|
 .ret (.inr (h,b)))
def cG a1 b1 s:=T.loop (uc a1 b1) s
def ju(a:(List Int))(d:(List Int)):T ((List Int)×(List Int)×Bool) :=
 T.bind (qK d) λg =>
 .ite ((g.length:Int)==0)
  (.ret ([],([],false)))
  (T.bind (tG a) λ(e,h) =>
 T.bind (tG d) λ(b,f) =>
 .ite (h&&f)
  (.zA (b≠0) <|
 T.bind (oS (zK (Int.tdiv e b))) λi =>
 .zA (b≠0) <|
 T.bind (oS (Int.tmod e b)) λj =>
 .ret (i,(j,true)))
  (.ite (f&&(decide (b<4294967296)))
  (T.bind (gI a b) λ(k,l) =>
 T.bind (oS l) λm =>
 .ret (k,(m,true)))
  (.zA (Zl (a.length:Int) (a.length:Int) 4) <|
 oM (Int.toNat (a.length:Int)) (List.replicate (Int.toNat (a.length:Int)) (0:Int)).length <|
 T.bind (cG a d ([],((zF ((zF (32*(a.length:Int)))-1)),(List.replicate (Int.toNat (a.length:Int)) 0)))) λ(n,c) =>
 oE c <|
 T.bind (qK (List.drop 0 (List.take (0+c.length) c))) λo =>
 T.bind (qK n) λp =>
 .ret (o,(p,true)))))
def bA  : ((List Int)×(List Int))->T (((List Int)×(List Int))⊕((List Int)))
 | (b,a) =>
 .ite (decide (0<(a.length:Int)))
  (T.bind (ju b a) λ(d,c,e) =>
 .ret (.inl (a,c)))
  (.ret (.inr b))
def Q7(s:((List Int)×(List Int))):T ((List Int)):=T.loop (bA ) s
def tM(d:(List Int))(e:(List Int)):T (List Int) :=
 T.bind (qK d) λa =>
 T.bind (qK e) λb =>
 T.bind (Q7  (a,b)) λc =>
 .ret c
def yf(c:Rat):T Rat :=
 T.bind (qK c.2.1) λa =>
 T.bind (qK c.2.2.1) λb =>
 .ite (((b.length:Int)==0)||((a.length:Int)==0))
  (.ret (false,(([]:List Int),(([1]:List Int),()))))
  (T.bind (tM a b) λd =>
 T.bind (ju a d) λ(e,g,h) =>
 T.bind (ju b d) λ(f,i,j) =>
 .ret (c.1,(e,(f,()))))
def uP(b:(List Int))(c:(List Int)):Int->T (Int⊕(Unit⊕Bool))
 | a =>
 .ite (decide (a<(b.length:Int)))
  (oI a b <|
 oI a c <|
 .ite ((nth b a (zj (.int .u32))) != (nth c a (zj (.int .u32))))
  (.ret (.inr (.inr false)))
  (.ret (.inl (zF (a+1)))))
  (.ret (.inr (.inl ())))
def fb a1 b1 s:=T.loop (uP a1 b1) s
def cI(a:(List Int))(b:(List Int)):T Bool :=
 .ite ((a.length:Int) != (b.length:Int))
  (.ret false)
  (T.bind (fb a b 0) <|
 Sum.elim (λ_ =>
 .ret true)
  (λc =>
 .ret c))
def sQ(a:Rat):T Bool :=
 T.bind (yf a) λb =>
 .ite (a.1==b.1)
  (T.bind (cI a.2.1 b.2.1) λc =>
 .ite c
  (T.bind (cI a.2.2.1 b.2.2.1) λd =>
 .ret d)
  (.ret false))
  (.ret false)
def iT(b:Rat):T Bool :=
 T.bind (yf b) λa =>
 .ret ((decide (16<(a.2.1.length:Int)))||(decide (16<(a.2.2.1.length:Int))))
def cu(a:Rat):T Bool :=
 T.bind (sQ a) λb =>
 .ite b
  (T.bind (iT a) λc =>
 .ret (!c))
  (.ret false)
def cT(a:zf):T Bool :=
 .ite (zr a [])
  (.ret true)
  (T.bind (vF a) λb =>
 .ret b)
def b8(g:(List Int))(h:(List Int))(c:Int):(Int×Int×(List Int))->T ((Int×Int×(List Int))⊕((List Int)))
 | (f,b,a)=>let d:=0+(Int.toNat (zF (c+b)));
 .ite ((decide (b<(h.length:Int)))||(decide (0<f)))
  (.ite (decide ((a.length:Int)<=(zF (c+b))))
  (oC a <|
 oE a <|
 .ret (.inr a))
  (oI c g <|
 T.bind (yI h b) λi=>let e:=zK ((zK (f+(zK ((zK (nth g c (zj (.int .u32))))*i))))+(zK (jF a d (zj (.int .u32)))));
 oI (zF (c+b)) a <|
 .zA (fU a.length a.length d a.length) <|
 oI (zF (c+b)) a <|
 .zA (fU a.length a.length d a.length) <|
 .zA (0<=(32:Int)) <|
 oM a.length (List.set a d (xL e)).length <|
 .ret (.inl ((wg .u64 e 32),((zF (b+1)),(List.set a d (xL e)))))))
  (oC a <|
 oE a <|
 .ret (.inr a))
def QA a2 b2 i1 s:=T.loop (b8 a2 b2 i1) s
def eI(d:(List Int))(e:(List Int)):(Int×(List Int))->T ((Int×(List Int))⊕((List Int)))
 | (c,a) =>
 .ite (decide (c<(d.length:Int)))
  (oC a <|
 oE a <|
 T.bind (QA d e c (0,(0,a))) λb =>
 oC b <|
 oE b <|
 .ret (.inl ((zF (c+1)),b)))
  (oC a <|
 oE a <|
 .ret (.inr a))
def QB a1 b1 s:=T.loop (eI a1 b1) s
def mo(c:(List Int))(d:(List Int)):T (List Int) :=
 let a:=zF ((c.length:Int)+(d.length:Int));  .zA (Zl a a 4) <|
 oM (Int.toNat a) (List.replicate (Int.toNat a) (0:Int)).length <|
 T.bind (QB c d (0,(List.replicate (Int.toNat a) 0))) λb =>
 oE b <|
 T.bind (qK (List.drop 0 (List.take (0+b.length) b))) λe =>
 .ret e
def kA  : ((List Int)×zf)->T (((List Int)×zf)⊕(zf))
 | (c,a) =>
 .ite (decide (0<(c.length:Int)))
  (T.bind (gI c 10) λ(d,b) =>
 oK (qD ([(YE (zK (48+b)))]:List Int)) a <|
 .ret (.inl (d,(cat (qD ([(YE (zK (48+b)))]:List Int)) a))))
  (.ret (.inr a))
def eW(s:((List Int)×zf)):T (zf):=T.loop (kA ) s
def gR(c:(List Int)):T zf :=
 T.bind (qK c) λa =>
 .ite ((a.length:Int)==0)
  (.ret [48])
  (T.bind (eW  (a,[])) λb =>
 .ret b)
def j8(b:Int):zf->T (zf⊕(zf))
 | a =>
 .ite (decide ((a.length:Int)<b))
  (oK [48] a <|
 .ret (.inl (cat [48] a)))
  (.ret (.inr a))
def nE least1 s:=T.loop (j8 least1) s
def eH(c:(List Int))(d:Int):T zf :=
 T.bind (gR c) λa =>
 T.bind (nE d a) λb =>
 .ret b
def cv(a:Bool):T zf :=
 .ite a
  (.ret [45])
  (.ret [])
def l8(h:Bool)(g:(List Int))(c:Int):T zf :=
 T.bind (eH g (zF (c+1))) λa=>let b:=zF ((a.length:Int)-c); let d:=bif (decide (0<c))then(cat (cat (wX 0 b a) [46]) (wX b (a.length:Int) a))else a;
 .zA (((decide (0<c))=true)->((gj 0 b a.length)/\((((wX 0 b a).length+([46]:zf).length)<=4611686018427387904)/\((gj b (a.length:Int) a.length)/\(((cat (wX 0 b a) [46]).length+(wX b (a.length:Int) a).length)<=4611686018427387904))))) <|
 .ite h
  (T.bind (cv (decide (0<(g.length:Int)))) λe =>
 oK e d <|
 .ret (cat e d))
  (T.bind (cv false) λf =>
 oK f d <|
 .ret (cat f d))
def uJ  : ((List Int)×Int×Rat)->T (((List Int)×Int×Rat)⊕(Rat⊕(zf×Bool×Rat)))
 | (c,b,a) =>
 .ite (decide (b<=60))
  (T.bind (mo a.2.1 c) λd =>
 T.bind (ju d a.2.2.1) λ(e,f,i) =>
 .ite ((f.length:Int)==0)
  (T.bind (l8 a.1 e b) λg =>
 .ret (.inr (.inr (g,(true,a)))))
  (T.bind (mo c ([10]:List Int)) λh =>
 .ret (.inl (h,((zF (b+1)),a)))))
  (.ret (.inr (.inl a)))
def pV(s:((List Int)×Int×Rat)):T (Rat⊕(zf×Bool×Rat)):=T.loop (uJ ) s
def gQ(d:Rat):T (zf×Bool) :=
 T.bind (yf d) λa =>
 T.bind (pV  (([1]:List Int),(0,a))) <|
 Sum.elim (λe =>
 .ret ([],false))
  (λ(b,c,f) =>
 .ret (b,c))
def jd(a:Rat):T Bool :=
 .ite (!a.1)
  (.ite ((a.2.1.length:Int)==0)
  (.ite ((a.2.2.1.length:Int)==0)
  (.ret true)
  (T.bind (sQ a) λb =>
 .ret b))
  (.ret false))
  (.ret false)
def br(d:AM.Expr->Int->T Bool)(e:Int)(b:AM.Expr)(f:Int):Int->T (Int⊕(Unit⊕Bool))
 | a =>
 .ite (decide (a<f))
  (oI a (Expr.kids b) <|
 T.bind (d (nth (Expr.kids b) a (zj .expr)) (zF (e+1))) λc =>
 .ite (!c)
  (.ret (.inr (.inr false)))
  (.ret (.inl (zF (a+1)))))
  (.ret (.inr (.inl ())))
def mV self_ref5_one deep1 e1 kids1 s:=T.loop (br self_ref5_one deep1 e1 kids1) s
def iL(l:AM.Expr->Int->T Bool)(a:AM.Expr)(c:Int):T Bool :=
 .ite (decide (32<c))
  (.ret false)
  (T.bind (.ite ((Expr.kind a)==1)
  (T.bind (gQ (Expr.num a)) λ(m,d) =>
 .ite (((Expr.kids a).length:Int)==0)
  (.ite (zr (Expr.name a) [])
  (T.bind (cu (Expr.num a)) λe =>
 .ite e
  (.ite (!(Expr.num a).1)
  (.ret (.inr d))
  (.ret (.inr false)))
  (.ret (.inr false)))
  (.ret (.inr false)))
  (.ret (.inr false)))
  (.ite ((Expr.kind a)==2)
  (.ite (((Expr.kids a).length:Int)==0)
  (T.bind (vF (Expr.name a)) λf =>
 .ite f
  (T.bind (jd (Expr.num a)) λg =>
 .ret (.inr g))
  (.ret (.inr false)))
  (.ret (.inr false)))
  (.ite ((Expr.kind a)==7)
  (.ret (.inl 1))
  (.ite ((Expr.kind a)==3)
  (.ret (.inl 2))
  (.ite ((Expr.kind a)==4)
  (.ret (.inl 2))
  (.ite ((Expr.kind a)==5)
  (.ret (.inl 2))
  (.ite ((Expr.kind a)==6)
  (.ret (.inl 2))
  (.ret (.inr false)))))))):T (Int⊕Bool)) <|
 Sum.elim (λb =>
 T.bind (.ite (((Expr.kids a).length:Int) != b)
  (.ret true)
  (.ite (!(zr (Expr.name a) []))
  (.ret true)
  (T.bind (jd (Expr.num a)) λh =>
 .ret (!h))):T (Bool)) λi =>
 .ite i
  (.ret false)
  (T.bind (mV l c a b 0) <|
 Sum.elim (λ_ =>
 .ret true)
  (λj =>
 .ret j)))
  (λk =>
 .ret k))
def mC(e:AM.Expr)(deep:Int):T Bool:=T.fix (λF x=>iL (λy0 y1=>F (y0,y1)) x.1 x.2) (e,deep)
def kK(e:AM.Expr->T Int)(b:AM.Expr):(Int×Int)->T ((Int×Int)⊕(Int))
 | (c,a) =>
 .ite (decide (a<((Expr.kids b).length:Int)))
  (oI a (Expr.kids b) <|
 T.bind (e (nth (Expr.kids b) a (zj .expr))) λd =>
 .ret (.inl ((zF (c+d)),(zF (a+1)))))
  (.ret (.inr c))
def pz self_ref5_Nodes e1 s:=T.loop (kK self_ref5_Nodes e1) s
def bW(b:AM.Expr->T Int)(c:AM.Expr):T Int :=
 T.bind (pz b c (1,0)) λa =>
 .ret a
def ig(e:AM.Expr):T Int:=T.fix (λF x=>bW (λy0=>F (y0)) x) e
def cf(a:AM.Expr):T Bool :=
 T.bind (mC a 1) λb =>
 .ite b
  (T.bind (ig a) λc =>
 .ret (decide (c<=256)))
  (.ret false)
def kL(c:Form):(Int×Int)->T ((Int×Int)⊕(Unit⊕Bool))
 | (g,b)=>let a:=nth c.2.2.2.1 b (zj zL);
 .ite (decide (b<(c.2.2.2.1.length:Int)))
  (oI b c.2.2.2.1 <|
 T.bind (.ite (decide (a.2.1<g))
  (.ret (true,a))
  (.ite (decide ((c.2.2.1.length:Int)<=a.2.1))
  (.ret (true,a))
  (T.bind (vF a.1) λd =>
 .ite (!d)
  (.ret (true,a))
  (.ite (decide (a.2.2.2.1<(0:Int)))
  (.ret (true,a))
  (.ret ((decide ((9:Int)<a.2.2.2.1)),a))))):T ((Bool×Field))) λ(e,f) =>
 .ite e
  (.ret (.inr (.inr false)))
  (.ret (.inl (f.2.1,(zF (b+1))))))
  (.ret (.inr (.inl ())))
def pN f1 s:=T.loop (kL f1) s
def kt(c:Form):(Int×Int)->T ((Int×Int)⊕(Unit⊕Bool))
 | (i,b)=>let a:=nth c.2.2.2.2.2.1 b (zj zX);
 .ite (decide (b<(c.2.2.2.2.2.1.length:Int)))
  (oI b c.2.2.2.2.2.1 <|
 T.bind (.ite (decide (a.2.1<i))
  (.ret (true,a))
  (.ite (decide ((c.2.2.1.length:Int)<=a.2.1))
  (.ret (true,a))
  (T.bind (vF a.1) λd =>
 .ite (!d)
  (.ret (true,a))
  (.ite (decide (a.2.2.1<(0:Int)))
  (.ret (true,a))
  (.ite (decide ((2:Int)<a.2.2.1))
  (.ret (true,a))
  (T.bind (cf (Expr.mk (Expr.kind a.2.2.2.1) ((Expr.num a.2.2.2.1).1,((Expr.num a.2.2.2.1).2.1,((Expr.num a.2.2.2.1).2.2.1,()))) (Expr.name a.2.2.2.1) (Expr.kids a.2.2.2.1))) λe =>
 .ite (!e)
  (.ret (true,a))
  (T.bind (cf (Expr.mk (Expr.kind a.2.2.2.2.1) ((Expr.num a.2.2.2.2.1).1,((Expr.num a.2.2.2.2.1).2.1,((Expr.num a.2.2.2.2.1).2.2.1,()))) (Expr.name a.2.2.2.2.1) (Expr.kids a.2.2.2.2.1))) λf =>
 .ret ((!f),a))))))):T ((Bool×Check))) λ(g,h) =>
 .ite g
  (.ret (.inr (.inr false)))
  (.ret (.inl (h.2.1,(zF (b+1))))))
  (.ret (.inr (.inl ())))
def pE f2 s:=T.loop (kt f2) s
def lr(a:Form):T Bool :=
 T.bind (pN a (0,0)) <|
 Sum.elim (λ_ =>
 T.bind (pE a (0,0)) <|
 Sum.elim (λ_ =>
 .ret true)
  (λb =>
 .ret b))
  (λc =>
 .ret c)
def iB(e:Rat):T zf :=
 T.bind (yf e) λa =>
 T.bind (cv a.1) λb =>
 T.bind (gR a.2.1) λc =>
 oK b c <|
 .zA ((((a.2.2.1.length:Int) != 1)=false)->(qu 0 a.2.2.1.length)) <|
 .ite (((a.2.2.1.length:Int) != 1)||((nth a.2.2.1 0 (zj (.int .u32))) != 1))
  (oK (cat b c) [47] <|
 T.bind (gR a.2.2.1) λd =>
 oK (cat (cat b c) [47]) d <|
 .ret (cat (cat (cat b c) [47]) d))
  (.ret (cat b c))
def oT(a:zf):T zf :=
 .ite (zr a [])
  (.ret [])
  (oK [32,119,104,101,110,32] a <|
 .ret (cat [32,119,104,101,110,32] a))
def iZ(a:Field):T zf :=
 let c:=cat [102,105,101,108,100,32] a.1; let b:=bif a.2.2.1 then(cat c [32,109,117,115,116])else c; let d:=cat (cat b [32,115,99,97,108,101,32]) (qD ([(YE (zF (48+a.2.2.2.1)))]:List Int));  oK [102,105,101,108,100,32] a.1 <|
 .zA ((a.2.2.1=true)->((c.length+([32,109,117,115,116]:zf).length)<=4611686018427387904)) <|
 .ite (a.2.2.2.1 != 0)
  (oK b [32,115,99,97,108,101,32] <|
 oK (cat b [32,115,99,97,108,101,32]) (qD ([(YE (zF (48+a.2.2.2.1)))]:List Int)) <|
 oK d [10] <|
 .ret (cat d [10]))
  (oK b [10] <|
 .ret (cat b [10]))
def nL(a:Int):T Int :=
 .ite (bif (a==3)then(a==3)else(a==4))
  (.ret 1)
  (.ite (bif (a==5)then(a==5)else(a==6))
  (.ret 2)
  (.ite (a==7)
  (.ret 3)
  (.ret 4)))
def dW(b:AM.Expr->Int->T zf)(a:AM.Expr)(q:Int):T zf :=
 let e:=nth (Expr.kids a) 1 (zj .expr); let c:=nth (Expr.kids a) 0 (zj .expr);  T.bind (.ite ((Expr.kind a)==1)
  (T.bind (gQ (Expr.num a)) λ(o,r) =>
 .ret o)
  (.ite ((Expr.kind a)==2)
  (.ret (Expr.name a))
  (.ite ((Expr.kind a)==7)
  (oI 0 (Expr.kids a) <|
 T.bind (b c 3) λj =>
 oK [45] j <|
 .ret (cat [45] j))
  (.ite ((Expr.kind a)==3)
  (oI 0 (Expr.kids a) <|
 T.bind (b c 1) λf =>
 oK f [32,43,32] <|
 oI 1 (Expr.kids a) <|
 T.bind (b e 2) λk =>
 oK (cat f [32,43,32]) k <|
 .ret (cat (cat f [32,43,32]) k))
  (.ite ((Expr.kind a)==4)
  (oI 0 (Expr.kids a) <|
 T.bind (b c 1) λg =>
 oK g [32,45,32] <|
 oI 1 (Expr.kids a) <|
 T.bind (b e 2) λl =>
 oK (cat g [32,45,32]) l <|
 .ret (cat (cat g [32,45,32]) l))
  (.ite ((Expr.kind a)==5)
  (oI 0 (Expr.kids a) <|
 T.bind (b c 2) λh =>
 oK h [32,42,32] <|
 oI 1 (Expr.kids a) <|
 T.bind (b e 3) λm =>
 oK (cat h [32,42,32]) m <|
 .ret (cat (cat h [32,42,32]) m))
  (.ite ((Expr.kind a)==6)
  (oI 0 (Expr.kids a) <|
 T.bind (b c 2) λi =>
 oK i [32,47,32] <|
 oI 1 (Expr.kids a) <|
 T.bind (b e 3) λn =>
 oK (cat i [32,47,32]) n <|
 .ret (cat (cat i [32,47,32]) n))
  (.ret []))))))):T (zf)) λd =>
 T.bind (nL (Expr.kind a)) λp =>
 .ite (decide (p<q))
  (oK [40] d <|
 oK (cat [40] d) [41] <|
 .ret (cat (cat [40] d) [41]))
  (.ret d)
def o0(e:AM.Expr)(asks:Int):T zf:=T.fix (λF x=>dW (λy0 y1=>F (y0,y1)) x.1 x.2) (e,asks)
def kX(a:AM.Expr):T zf :=
 T.bind (cf a) λb =>
 .ite (!b)
  (.ret [])
  (T.bind (o0 a 1) λc =>
 .ret c)
def sY(a:Int):T zf :=
 .ite (a==1)
  (.ret [60])
  (.ite (a==2)
  (.ret [60,61])
  (.ret [61]))
def gZ(a:Int):T zf :=
 .ite (a==0)
  (.ret [114,101,113,117,105,114,101,100])
  (.ite (a==1)
  (.ret [115,116,114,111,110,103])
  (.ite (a==2)
  (.ret [109,101,100,105,117,109])
  (.ret [119,101,97,107])))
def yP(b:Form):(zf×Int)->T ((zf×Int)⊕(zf))
 | (d,a)=>let e:=cat d [115,119,105,116,99,104,32]; let c:=nth b.1 a (zj zJ); let f:=bif c.2.1 then[32,111,110,10]else[32,111,102,102,10];
 .ite (decide (a<(b.1.length:Int)))
  (oI a b.1 <|
 oK d [115,119,105,116,99,104,32] <|
 oI a b.1 <|
 oK e c.1 <|
 oK (cat e c.1) f <|
 .ret (.inl ((cat (cat e c.1) f),(zF (a+1)))))
  (.ret (.inr d))
def ss f1 s:=T.loop (yP f1) s
def yK(b:Form):(zf×Int)->T ((zf×Int)⊕(zf))
 | (c,a)=>let d:=cat (cat c [112,97,114,97,109,32]) (nth b.2.1 a (zj zP)).1;
 .ite (decide (a<(b.2.1.length:Int)))
  (oK c [112,97,114,97,109,32] <|
 oI a b.2.1 <|
 oK (cat c [112,97,114,97,109,32]) (nth b.2.1 a (zj zP)).1 <|
 oK d [32] <|
 oI a b.2.1 <|
 T.bind (iB (nth b.2.1 a (zj zP)).2.1) λe =>
 oK (cat d [32]) e <|
 oK (cat (cat d [32]) e) [10] <|
 .ret (.inl ((cat (cat (cat d [32]) e) [10]),(zF (a+1)))))
  (.ret (.inr c))
def tr f2 s:=T.loop (yK f2) s
def gu(b:Form)(e:Int):(zf×Int)->T ((zf×Int)⊕(zf))
 | (c,a) =>
 .ite (decide (a<(b.2.2.2.1.length:Int)))
  (oI a b.2.2.2.1 <|
 .ite ((nth b.2.2.2.1 a (zj zL)).2.1==e)
  (oI a b.2.2.2.1 <|
 T.bind (iZ (nth b.2.2.2.1 a (zj zL))) λd =>
 oK c d <|
 .ret (.inl ((cat c d),(zF (a+1)))))
  (.ret (.inl (c,(zF (a+1))))))
  (.ret (.inr c))
def sZ f4 i3 s:=T.loop (gu f4 i3) s
def yC(h:Form)(k:Int):(zf×Int)->T ((zf×Int)⊕(zf))
 | (e,c)=>let i:=cat e [99,104,101,99,107,32]; let a:=nth h.2.2.2.2.2.1 c (zj zX); let j:=cat (cat i a.1) [32,58,32];
 .ite (decide (c<(h.2.2.2.2.2.1.length:Int)))
  (oI c h.2.2.2.2.2.1 <|
 .ite (a.2.1==k)
  (oK e [99,104,101,99,107,32] <|
 oK i a.1 <|
 oK (cat i a.1) [32,58,32] <|
 T.bind (kX (Expr.mk (Expr.kind a.2.2.2.1) ((Expr.num a.2.2.2.1).1,((Expr.num a.2.2.2.1).2.1,((Expr.num a.2.2.2.1).2.2.1,()))) (Expr.name a.2.2.2.1) (Expr.kids a.2.2.2.1))) λf=>let d:=cat (cat j f) [32];
 oK j f <|
 oK (cat j f) [32] <|
 T.bind (sY a.2.2.1) λb =>
 oK d b <|
 oK (cat d b) [32] <|
 T.bind (kX (Expr.mk (Expr.kind a.2.2.2.2.1) ((Expr.num a.2.2.2.2.1).1,((Expr.num a.2.2.2.2.1).2.1,((Expr.num a.2.2.2.2.1).2.2.1,()))) (Expr.name a.2.2.2.2.1) (Expr.kids a.2.2.2.2.1))) λg =>
 oK (cat (cat d b) [32]) g <|
 oK (cat (cat (cat d b) [32]) g) [10] <|
 .ret (.inl ((cat (cat (cat (cat d b) [32]) g) [10]),(zF (c+1)))))
  (.ret (.inl (e,(zF (c+1))))))
  (.ret (.inr e))
def sM f5 i4 s:=T.loop (yC f5 i4) s
def gw(b:Form):(zf×Int)->T ((zf×Int)⊕(zf))
 | (c,a)=>let e:=cat (cat c [112,97,103,101,32]) (nth b.2.2.1 a (zj zV)).1;
 .ite (decide (a<(b.2.2.1.length:Int)))
  (oK c [112,97,103,101,32] <|
 oI a b.2.2.1 <|
 oK (cat c [112,97,103,101,32]) (nth b.2.2.1 a (zj zV)).1 <|
 oI a b.2.2.1 <|
 T.bind (oT (nth b.2.2.1 a (zj zV)).2.1) λd =>
 oK e d <|
 oK (cat e d) [10] <|
 T.bind (sZ b a ((cat (cat e d) [10]),0)) λf =>
 T.bind (sM b a (f,0)) λg =>
 .ret (.inl (g,(zF (a+1)))))
  (.ret (.inr c))
def sy f3 s:=T.loop (gw f3) s
def yY(i:Form):(zf×Int)->T ((zf×Int)⊕(zf))
 | (h,c)=>let d:=cat h [114,117,108,101,32]; let a:=nth i.2.2.2.2.1 c (zj qf);
 .ite (decide (c<(i.2.2.2.2.1.length:Int)))
  (oI c i.2.2.2.2.1 <|
 oK h [114,117,108,101,32] <|
 T.bind (gZ a.2.1) λb=>let j:=cat (cat (cat d b) [32]) a.1;
 oK d b <|
 oK (cat d b) [32] <|
 oK (cat (cat d b) [32]) a.1 <|
 T.bind (oT a.2.2.1) λe=>let k:=cat (cat j e) [32,58,32];
 oK j e <|
 oK (cat j e) [32,58,32] <|
 T.bind (kX (Expr.mk (Expr.kind a.2.2.2.1) ((Expr.num a.2.2.2.1).1,((Expr.num a.2.2.2.1).2.1,((Expr.num a.2.2.2.1).2.2.1,()))) (Expr.name a.2.2.2.1) (Expr.kids a.2.2.2.1))) λf=>let l:=cat (cat k f) [32,61,32];
 oK k f <|
 oK (cat k f) [32,61,32] <|
 T.bind (kX (Expr.mk (Expr.kind a.2.2.2.2.1) ((Expr.num a.2.2.2.2.1).1,((Expr.num a.2.2.2.2.1).2.1,((Expr.num a.2.2.2.2.1).2.2.1,()))) (Expr.name a.2.2.2.2.1) (Expr.kids a.2.2.2.2.1))) λg =>
 oK l g <|
 oK (cat l g) [10] <|
 .ret (.inl ((cat (cat l g) [10]),(zF (c+1)))))
  (.ret (.inr h))
def sR f6 s:=T.loop (yY f6) s
def nZ(a:Form):T zf :=
 T.bind (ss a ([],0)) λb =>
 T.bind (tr a (b,0)) λc =>
 T.bind (sy a (c,0)) λd =>
 T.bind (sR a (d,0)) λe =>
 .ret e
def cC(b:Form):Int->T (Int⊕(Unit⊕Bool))
 | a =>
 .ite (decide (a<(b.1.length:Int)))
  (oI a b.1 <|
 T.bind (vF (nth b.1 a (zj zJ)).1) λc =>
 .ite (!c)
  (.ret (.inr (.inr false)))
  (.ret (.inl (zF (a+1)))))
  (.ret (.inr (.inl ())))
def Wu f1 s:=T.loop (cC f1) s
def cK(b:Form):Int->T (Int⊕(Unit⊕Bool))
 | a =>
 .ite (decide (a<(b.2.1.length:Int)))
  (T.bind (oI a b.2.1 <|
 T.bind (vF (nth b.2.1 a (zj zP)).1) λc =>
 .ite (!c)
  (.ret true)
  (oI a b.2.1 <|
 T.bind (cu (nth b.2.1 a (zj zP)).2.1) λd =>
 .ret (!d)):T (Bool)) λe =>
 .ite e
  (.ret (.inr (.inr false)))
  (.ret (.inl (zF (a+1)))))
  (.ret (.inr (.inl ())))
def VL f2 s:=T.loop (cK f2) s
def dw(b:Form):Int->T (Int⊕(Unit⊕Bool))
 | a =>
 .ite (decide (a<(b.2.2.1.length:Int)))
  (T.bind (oI a b.2.2.1 <|
 T.bind (vF (nth b.2.2.1 a (zj zV)).1) λc =>
 .ite (!c)
  (.ret true)
  (oI a b.2.2.1 <|
 T.bind (cT (nth b.2.2.1 a (zj zV)).2.1) λd =>
 .ret (!d)):T (Bool)) λe =>
 .ite e
  (.ret (.inr (.inr false)))
  (.ret (.inl (zF (a+1)))))
  (.ret (.inr (.inl ())))
def XR f3 s:=T.loop (dw f3) s
def cL(c:Form):Int->T (Int⊕(Unit⊕Bool))
 | b=>let a:=nth c.2.2.2.2.1 b (zj qf);
 .ite (decide (b<(c.2.2.2.2.1.length:Int)))
  (oI b c.2.2.2.2.1 <|
 T.bind (T.bind (vF a.1) λd =>
 .ite (!d)
  (.ret (true,a))
  (T.bind (cT a.2.2.1) λe =>
 .ite (!e)
  (.ret (true,a))
  (.ite (decide (a.2.1<(0:Int)))
  (.ret (true,a))
  (.ite (decide ((3:Int)<a.2.1))
  (.ret (true,a))
  (T.bind (cf (Expr.mk (Expr.kind a.2.2.2.1) ((Expr.num a.2.2.2.1).1,((Expr.num a.2.2.2.1).2.1,((Expr.num a.2.2.2.1).2.2.1,()))) (Expr.name a.2.2.2.1) (Expr.kids a.2.2.2.1))) λf =>
 .ite (!f)
  (.ret (true,a))
  (T.bind (cf (Expr.mk (Expr.kind a.2.2.2.2.1) ((Expr.num a.2.2.2.2.1).1,((Expr.num a.2.2.2.2.1).2.1,((Expr.num a.2.2.2.2.1).2.2.1,()))) (Expr.name a.2.2.2.2.1) (Expr.kids a.2.2.2.2.1))) λg =>
 .ret ((!g),a)))))):T ((Bool×xe))) λ(h,i) =>
 .ite h
  (.ret (.inr (.inr false)))
  (.ret (.inl (zF (b+1)))))
  (.ret (.inr (.inl ())))
def Wm f4 s:=T.loop (cL f4) s
def X4(a:Form):T Bool :=
 T.bind (Wu a 0) <|
 Sum.elim (λ_ =>
 T.bind (VL a 0) <|
 Sum.elim (λ_ =>
 T.bind (XR a 0) <|
 Sum.elim (λ_ =>
 T.bind (Wm a 0) <|
 Sum.elim (λ_ =>
 T.bind (lr a) λb =>
 .ite b
  (T.bind (nZ a) λc =>
 .ret (decide ((c.length:Int)<=16384)))
  (.ret false))
  (λd =>
 .ret d))
  (λe =>
 .ret e))
  (λf =>
 .ret f))
  (λg =>
 .ret g)
def wi(a:Int):T Bool :=
 .ret ((decide (97<=a))&&(decide (a<=122)))
def xD(a:Int):T Bool :=
 .ret ((decide (48<=a))&&(decide (a<=57)))
def wP(a:Int):T Bool :=
 T.bind (wi a) λb =>
 .ite b
  (.ret true)
  (T.bind (xD a) λc =>
 .ite c
  (.ret true)
  (.ret (a==95)))
def jN(b:zf)(d:Int):Int->T (Int⊕(Unit⊕Bool))
 | a =>
 .ite (decide (a<d))
  (oI a b <|
 T.bind (wP (qm b a)) λc =>
 .ite (!c)
  (.ret (.inr (.inr false)))
  (.ret (.inl (zF (a+1)))))
  (.ret (.inr (.inl ())))
def tC s1 x1 s:=T.loop (jN s1 x1) s
def xg(a:zf):T Bool :=
 T.bind (.ite (zr a [])
  (.ret true)
  (.ite (decide (24<(a.length:Int)))
  (.ret true)
  (oI 0 a <|
 T.bind (wi (qm a 0)) λb =>
 .ret (!b))):T (Bool)) λc =>
 .ite c
  (.ret false)
  (T.bind (tC a (a.length:Int) 0) <|
 Sum.elim (λ_ =>
 .ret true)
  (λd =>
 .ret d))
def ve(b:Switch):T Bool :=
 T.bind (xg b.1) λa =>
 .ret (!a)
def qI(b:(List Switch))(d:Switch->T Bool)(e:Int):Int->T (Int⊕(Unit⊕Int))
 | a =>
 .ite (decide (a<e))
  (oI a b <|
 T.bind (d (nth b a (zj zJ))) λc =>
 .ite c
  (.ret (.inr (.inr a)))
  (.ret (.inl (zF (a+1)))))
  (.ret (.inr (.inl ())))
def ui s1 f x s:=T.loop (qI s1 f x) s
def xP(a:(List Switch))(c:Switch->T Bool):T Int :=
 T.bind (ui a c (a.length:Int) 0) <|
 Sum.elim (λ_ =>
 .ret (-1))
  (λb =>
 .ret b)
def qG(b:(List Switch))(c:Switch->T Bool):T Bool :=
 T.bind (xP b c) λa =>
 .ret (decide (0<=a))
def dx(a:(List Int)):T Bool :=
 .zA ((((a.length:Int)==0)=false)->(qu (zF ((a.length:Int)-1)) a.length)) <|
 .ret (((a.length:Int)==0)||((nth a (zF ((a.length:Int)-1)) (zj (.int .u32))) != 0))
def dX  : (List Int)->T ((List Int)⊕((List Int)))
 | a =>
 T.bind (dx a) λb =>
 .ite (!b)
  (.zA (gj 0 (zF ((a.length:Int)-1)) a.length) <|
 .ret (.inl (wY (e:=(.int .u32)) 0 (zF ((a.length:Int)-1)) a)))
  (.ret (.inr a))
def nk(s:(List Int)):T ((List Int)):=T.loop (dX ) s
def xH(b:(List Int)):T (List Int) :=
 T.bind (nk  b) λa =>
 .ret a
def wQ(a:(List Int)):T (List Int) :=
 let b:=0+a.length;  .zA (a=[]->∀ r,T.leads (.zA (ZX 0 0 0 0 0 a.length 4) <|
 .zA (b=b) <|
 .ret (List.drop 0 (List.take (0+b) a)):T _) r->T.leads (.ret []:T _) r) <|
 .zA (ZX 0 0 0 0 0 a.length 4) <|
 .zA (b=b) <|
 .ret (List.drop 0 (List.take (0+b) a))
def gn(c:(List Int)):T (List Int) :=
 T.bind (xH c) λa =>
 T.bind (wQ a) λb =>
 .ret b
def cD(b:(List Int))(c:(List Int)):Int->T (Int⊕(Unit⊕Int))
 | a =>
 .ite (decide (0<=a))
  (oI a b <|
 oI a c <|
 .ite ((nth b a (zj (.int .u32))) != (nth c a (zj (.int .u32))))
  (oI a b <|
 oI a c <|
 .ite (decide ((nth b a (zj (.int .u32)))<(nth c a (zj (.int .u32)))))
  (.ret (.inr (.inr (-1))))
  (.ret (.inr (.inr 1))))
  (.ret (.inl (zF (a-1)))))
  (.ret (.inr (.inl ())))
def Wi a2 b2 s:=T.loop (cD a2 b2) s
def iS(d:(List Int))(e:(List Int)):T Int :=
 T.bind (xH d) λa =>
 T.bind (xH e) λb =>
 .ite ((a.length:Int) != (b.length:Int))
  (.ite (decide ((a.length:Int)<(b.length:Int)))
  (.ret (-1))
  (.ret 1))
  (T.bind (Wi a b (zF ((a.length:Int)-1))) <|
 Sum.elim (λ_ =>
 .ret 0)
  (λc =>
 .ret c))
def kQ(b:Int)(c:Int)(a:Int):T (Int×Int) :=
 .ite ((a != 0)&&(decide (a<=b)))
  (.fail)
  (.zA (0<=(32:Int)) <|
 .zA ((zK a)≠0) <|
 .zA ((zK a)≠0) <|
 .ret ((xL (zK (Int.tdiv (si .u64 (y6 .u64 (zK b) 32) (zK c)) (zK a)))),(xL (Int.tmod (si .u64 (y6 .u64 (zK b) 32) (zK c)) (zK a)))))
def bZ(e:(List Int))(g:Int):(Int×Int×(List Int))->T ((Int×Int×(List Int))⊕((Int×(List Int))))
 | (d,b,a) =>
 .ite (decide (0<=b))
  (oI b e <|
 T.bind (kQ d (nth e b (zj (.int .u32))) g) λ(c,f) =>
 oI b a <|
 .zA (fU a.length a.length (0+(Int.toNat b)) a.length) <|
 oM a.length (List.set a (0+(Int.toNat b)) c).length <|
 .ret (.inl (f,((zF (b-1)),(List.set a (0+(Int.toNat b)) c)))))
  (oC a <|
 oE a <|
 .ret (.inr (d,a)))
def tN a1 b1 s:=T.loop (bZ a1 b1) s
def cx(a:(List Int))(e:Int):T ((List Int)×Int) :=
 .zA (Zl (a.length:Int) (a.length:Int) 4) <|
 oM (Int.toNat (a.length:Int)) (List.replicate (Int.toNat (a.length:Int)) (0:Int)).length <|
 T.bind (tN a e (0,((zF ((a.length:Int)-1)),(List.replicate (Int.toNat (a.length:Int)) 0)))) λ(c,b) =>
 oE b <|
 T.bind (xH (List.drop 0 (List.take (0+b.length) b))) λd =>
 .ret (d,c)
def y3(a:Int):T (List Int) :=
 .zA (0<=(32:Int)) <|
 T.bind (xH ([(xL a),(xL (wg .u64 a 32))]:List Int)) λb =>
 .ret b
def kR(b:Int):T Int :=
 let a:=bif (decide (65536<=b))then(wg .u32 b 16)else b;  .zA (((decide (65536<=b))=true)->(0<=(16:Int))) <|
 .zA (((decide (256<=a))=true)->(0<=(8:Int))) <|
 .zA (qu (YE (bif (decide (256<=a))then(wg .u32 a 8)else a)) ([0,1,2,2,3,3,3,3,4,4,4,4,4,4,4,4,5,5,5,5,5,5,5,5,5,5,5,5,5,5,5,5,6,6,6,6,6,6,6,6,6,6,6,6,6,6,6,6,6,6,6,6,6,6,6,6,6,6,6,6,6,6,6,6,7,7,7,7,7,7,7,7,7,7,7,7,7,7,7,7,7,7,7,7,7,7,7,7,7,7,7,7,7,7,7,7,7,7,7,7,7,7,7,7,7,7,7,7,7,7,7,7,7,7,7,7,7,7,7,7,7,7,7,7,7,7,7,7,8,8,8,8,8,8,8,8,8,8,8,8,8,8,8,8,8,8,8,8,8,8,8,8,8,8,8,8,8,8,8,8,8,8,8,8,8,8,8,8,8,8,8,8,8,8,8,8,8,8,8,8,8,8,8,8,8,8,8,8,8,8,8,8,8,8,8,8,8,8,8,8,8,8,8,8,8,8,8,8,8,8,8,8,8,8,8,8,8,8,8,8,8,8,8,8,8,8,8,8,8,8,8,8,8,8,8,8,8,8,8,8,8,8,8,8,8,8,8,8,8,8,8,8,8,8,8,8]:zf).length) <|
 .ret (zF ((bif (decide (256<=a))then(zF ((bif (decide (65536<=b))then 16 else 0)+8))else(bif (decide (65536<=b))then 16 else 0))+(zF (qm [0,1,2,2,3,3,3,3,4,4,4,4,4,4,4,4,5,5,5,5,5,5,5,5,5,5,5,5,5,5,5,5,6,6,6,6,6,6,6,6,6,6,6,6,6,6,6,6,6,6,6,6,6,6,6,6,6,6,6,6,6,6,6,6,7,7,7,7,7,7,7,7,7,7,7,7,7,7,7,7,7,7,7,7,7,7,7,7,7,7,7,7,7,7,7,7,7,7,7,7,7,7,7,7,7,7,7,7,7,7,7,7,7,7,7,7,7,7,7,7,7,7,7,7,7,7,7,7,8,8,8,8,8,8,8,8,8,8,8,8,8,8,8,8,8,8,8,8,8,8,8,8,8,8,8,8,8,8,8,8,8,8,8,8,8,8,8,8,8,8,8,8,8,8,8,8,8,8,8,8,8,8,8,8,8,8,8,8,8,8,8,8,8,8,8,8,8,8,8,8,8,8,8,8,8,8,8,8,8,8,8,8,8,8,8,8,8,8,8,8,8,8,8,8,8,8,8,8,8,8,8,8,8,8,8,8,8,8,8,8,8,8,8,8,8,8,8,8,8,8,8,8,8,8,8,8] (YE (bif (decide (256<=a))then(wg .u32 a 8)else a))))))
def wm(b:Int):T Int :=
 T.bind (kR b) λa =>
 .ret (zF (32-a))
def pD(e:Int)(h:Int)(f:(List Int))(i:Int):(Int×(List Int))->T ((Int×(List Int))⊕((List Int)))
 | (b,a)=>let c:=zF (b+1); let d:=List.set a (0+(Int.toNat b)) (si .u32 (jF a (0+(Int.toNat b)) (zj (.int .u32))) (xL (y6 .u64 (zK (nth f b (zj (.int .u32)))) e))); let g:=List.set d (0+(Int.toNat c)) (xL (wg .u64 (y6 .u64 (zK (nth f b (zj (.int .u32)))) e) 32));
 .ite (decide (b<i))
  (oI b f <|
 .zA (0<=e) <|
 oI b a <|
 .zA (fU a.length a.length (0+(Int.toNat b)) a.length) <|
 oI b a <|
 .zA (fU a.length a.length (0+(Int.toNat b)) a.length) <|
 .ite (decide (c<h))
  (.zA (0<=(32:Int)) <|
 oI c a <|
 .zA (fU a.length a.length (0+(Int.toNat c)) d.length) <|
 oM a.length g.length <|
 .ret (.inl (c,g)))
  (oM a.length d.length <|
 .ret (.inl (c,d))))
  (oC a <|
 oE a <|
 .ret (.inr a))
def r7 by_1 n1 x x1 s:=T.loop (pD by_1 n1 x x1) s
def cP(c:(List Int))(d:Int)(a:Int):T (List Int) :=
 .zA (Zl a a 4) <|
 oM (Int.toNat a) (List.replicate (Int.toNat a) (0:Int)).length <|
 T.bind (r7 d a c (c.length:Int) (0,(List.replicate (Int.toNat a) 0))) λb =>
 oC b <|
 oE b <|
 .ret b
def yO(d:Int)(c:Int)(e:Int):(Int×Int)->T ((Int×Int)⊕(Int))
 | (a,b) =>
 .zA ((0<=(32:Int))/\((((wg .u64 a 32) != 0)=false)->(0<=(32:Int)))) <|
 .ite (((wg .u64 a 32) != 0)||(decide ((si .u64 (y6 .u64 b 32) (zK d))<(zK (a*(zK e))))))
  (.zA (0<=(32:Int)) <|
 .ite ((wg .u64 (zK (b+(zK c))) 32) != 0)
  (.ret (.inr (zK (a-1))))
  (.ret (.inl ((zK (a-1)),(zK (b+(zK c)))))))
  (.ret (.inr a))
def tQ low1 b11 b21 s:=T.loop (yO low1 b11 b21) s
def cB(b:Int)(c:Int)(e:Int)(a:Int)(f:Int):T Int :=
 .zA (0<=(32:Int)) <|
 .zA ((zK a)≠0) <|
 .zA ((zK a)≠0) <|
 T.bind (tQ e a f ((zK (Int.tdiv (si .u64 (y6 .u64 (zK b) 32) (zK c)) (zK a))),(Int.tmod (si .u64 (y6 .u64 (zK b) 32) (zK c)) (zK a)))) λd =>
 .ret d
def uG(a:Int)(b:Int)(c:Int):T (Int×Int) :=
 .zA (0<=(31:Int)) <|
 .ret ((xL ((xL (a-b))-c)),(wg .u32 (si .u32 (fa .u32 (Cj .u32 4294967295 a) b) (fa .u32 (Cj .u32 4294967295 (Cj .u32 a b)) (xL ((xL (a-b))-c)))) 31))
def kP(a:Int)(b:Int)(c:Int):T (Int×Int) :=
 .zA (0<=(32:Int)) <|
 .ret ((xL (zK ((zK ((zK a)+(zK b)))+(zK c)))),(xL (wg .u64 (zK ((zK ((zK a)+(zK b)))+(zK c))) 32)))
def yT(l:(List Int))(i:Int)(f:(List Int))(k:Int):((Nat×Nat)×Int×Int×Int×(List Int))->T (((Nat×Nat)×Int×Int×Int×(List Int))⊕(((Nat×Nat)×Int×Int×(List Int))))
 | (c,e,h,b,a)=>let d:=c.1+(Int.toNat b);
 .ite (decide (b<k))
  (oI b f <|
 .zA (qu b c.2) <|
 .zA (fU a.length a.length d a.length) <|
 T.bind (uG (jF a d (zj (.int .u32))) (xL (zK (e+(zK (i*(zK (nth f b (zj (.int .u32))))))))) h) λ(g,j) =>
 .zA (qu b c.2) <|
 .zA (fU a.length a.length d a.length) <|
 .zA (0<=(32:Int)) <|
 oE a <|
 .zA (a.length=(List.set a d g).length) <|
 .ret (.inl (c,((wg .u64 (zK (e+(zK (i*(zK (nth f b (zj (.int .u32)))))))) 32),(j,((zF (b+1)),(List.set a d g)))))))
  (oE a <|
 oE a <|
 .ret (.inr (c,(e,(h,a)))))
def nc b1 q1 x x1 s:=T.loop (yT b1 q1 x x1) s
def yF(j:(List Int))(g:(List Int))(i:Int):((Nat×Nat)×Int×Int×(List Int))->T (((Nat×Nat)×Int×Int×(List Int))⊕(((Nat×Nat)×Int×(List Int))))
 | (c,f,b,a)=>let d:=c.1+(Int.toNat b);
 .ite (decide (b<i))
  (oI b g <|
 .zA (qu b c.2) <|
 .zA (fU a.length a.length d a.length) <|
 T.bind (kP (jF a d (zj (.int .u32))) (nth g b (zj (.int .u32))) f) λ(e,h) =>
 .zA (qu b c.2) <|
 .zA (fU a.length a.length d a.length) <|
 oE a <|
 .zA (a.length=(List.set a d e).length) <|
 .ret (.inl (c,(h,((zF (b+1)),(List.set a d e))))))
  (oE a <|
 oE a <|
 .ret (.inr (c,(f,a))))
def mJ b2 x3 x4 s:=T.loop (yF b2 x3 x4) s
def eC(o:(Nat×Nat))(b:(List Int))(p:Int)(h:(List Int)):T (Bool×(List Int)) :=
 let d:=Int.toNat (b.length:Int);  oE h <|
 oE h <|
 T.bind (nc b p b (b.length:Int) (o,(0,(0,(0,h))))) λ(e,j,k,a) =>
 .zA (qu (b.length:Int) e.2) <|
 .zA (fU a.length a.length (e.1+d) a.length) <|
 T.bind (uG (jF a (e.1+d) (zj (.int .u32))) (xL j) k) λ(l,m)=>let g:=List.set a (e.1+d) l;
 .zA (qu (b.length:Int) e.2) <|
 .zA (fU a.length a.length (e.1+d) a.length) <|
 .ite (m==0)
  (.zA (a.length=g.length) <|
 .ret (false,g))
  (oE a <|
 .zA (a.length=g.length) <|
 T.bind (mJ b b (b.length:Int) (e,(0,(0,g)))) λ(f,n,c)=>let i:=List.set c (f.1+d) (xL ((jF c (f.1+d) (zj (.int .u32)))+n));
 .zA (qu (b.length:Int) f.2) <|
 .zA (fU c.length c.length (f.1+d) c.length) <|
 .zA (qu (b.length:Int) f.2) <|
 .zA (fU c.length c.length (f.1+d) c.length) <|
 .zA (c.length=i.length) <|
 .ret (true,i))
def bu(e:Int)(h:Int)(f:(List Int))(i:Int):(Int×(List Int))->T ((Int×(List Int))⊕((List Int)))
 | (b,a)=>let c:=zF (b+1); let d:=List.set a (0+(Int.toNat b)) (si .u32 (jF a (0+(Int.toNat b)) (zj (.int .u32))) (xL (y6 .u64 (zK (nth f b (zj (.int .u32)))) e))); let g:=List.set d (0+(Int.toNat c)) (xL (wg .u64 (y6 .u64 (zK (nth f b (zj (.int .u32)))) e) 32));
 .ite (decide (b<i))
  (oI b f <|
 .zA (0<=e) <|
 oI b a <|
 .zA (fU a.length a.length (0+(Int.toNat b)) a.length) <|
 oI b a <|
 .zA (fU a.length a.length (0+(Int.toNat b)) a.length) <|
 .ite (decide (c<h))
  (.zA (0<=(32:Int)) <|
 oI c a <|
 .zA (fU a.length a.length (0+(Int.toNat c)) d.length) <|
 oM a.length g.length <|
 .ret (.inl (c,g)))
  (oM a.length d.length <|
 .ret (.inl (c,d))))
  (oC a <|
 oE a <|
 .ret (.inr a))
def Qv by_1 n1 x x1 s:=T.loop (bu by_1 n1 x x1) s
def sD(c:(List Int))(d:Int)(a:Int):T (List Int) :=
 .zA (Zl a a 4) <|
 oM (Int.toNat a) (List.replicate (Int.toNat a) (0:Int)).length <|
 T.bind (Qv d a c (c.length:Int) (0,(List.replicate (Int.toNat a) 0))) λb =>
 oE b <|
 .ret (List.drop 0 (List.take (0+b.length) b))
def yB(e:Int)(f:(List Int))(h:Int):(Int×(List Int))->T ((Int×(List Int))⊕((List Int)))
 | (b,a)=>let d:=0+(Int.toNat (zF (b-1))); let c:=List.set a (0+(Int.toNat b)) (si .u32 (jF a (0+(Int.toNat b)) (zj (.int .u32))) (xL (wg .u64 (wg .u64 (y6 .u64 (zK (nth f b (zj (.int .u32)))) 32) e) 32))); let g:=List.set c d (si .u32 (jF c d (zj (.int .u32))) (xL (wg .u64 (y6 .u64 (zK (nth f b (zj (.int .u32)))) 32) e)));
 .ite (decide (b<h))
  (oI b f <|
 .zA (0<=(32:Int)) <|
 .zA (0<=e) <|
 oI b a <|
 .zA (fU a.length a.length (0+(Int.toNat b)) a.length) <|
 .zA (0<=(32:Int)) <|
 oI b a <|
 .zA (fU a.length a.length (0+(Int.toNat b)) a.length) <|
 .ite (decide (0<b))
  (oI (zF (b-1)) a <|
 .zA (fU a.length a.length d c.length) <|
 oI (zF (b-1)) a <|
 .zA (fU a.length a.length d c.length) <|
 oM a.length g.length <|
 .ret (.inl ((zF (b+1)),g)))
  (oM a.length c.length <|
 .ret (.inl ((zF (b+1)),c))))
  (oC a <|
 oE a <|
 .ret (.inr a))
def tb by_ x x1 s:=T.loop (yB by_ x x1) s
def gP(m:(List Int))(n:Int):T (List Int) :=
 let g:=Ki (lJ n (-4096)) 4096; let d:=zF (Int.tdiv g (32:Int)); let c:=zF (Int.tdiv (zF (0-g)) (32:Int));  T.bind (xH m) λf=>let a:=(f.length:Int); let i:=zF ((zF (d+a))+1); let b:=Int.toNat i;
 .ite (decide (g<0))
  (.zA (32≠(0:Int)) <|
 .ite (decide (a<=c))
  (.ret [])
  (.zA (32≠(0:Int)) <|
 .zA (Zl (zF (a-c)) (zF (a-c)) 4) <|
 .zA (gj c a f.length) <|
 oM (Int.toNat (zF (a-c))) (List.replicate (Int.toNat (zF (a-c))) (0:Int)).length <|
 T.bind (tb (zK (Int.tmod (zF (0-g)) (32:Int))) (wY (e:=(.int .u32)) c a f) (Nat.cast (wY (e:=(.int .u32)) c a f).length:Int) (0,(List.replicate (Int.toNat (zF (a-c))) 0))) λh =>
 oE h <|
 T.bind (xH (List.drop 0 (List.take (0+h.length) h))) λj =>
 .ret j))
  (.zA (32≠(0:Int)) <|
 .zA (Zl i i 4) <|
 .zA (gj d (Nat.cast b:Int) b) <|
 .zA (32≠(0:Int)) <|
 T.bind (sD f (zK (Int.tmod g (32:Int))) (zF (a+1))) λk =>
 .zA (z1N b b (0+(Int.toNat d)) ((Int.toNat (Nat.cast b:Int))-(Int.toNat d)) (List.replicate b (0:Int)).length) <|
 .zA (b=b) <|
 T.bind (xH (List.drop 0 (List.take (0+b) (jU (0+(Int.toNat d)) ((Int.toNat (Nat.cast b:Int))-(Int.toNat d)) (List.replicate b 0) k)))) λl =>
 .ret l)
def ba(m:Int)(g:(List Int))(c:Int):(Int×(List Int)×(List Int))->T ((Int×(List Int)×(List Int))⊕(((List Int)×(List Int))))
 | (b,a,d) =>
 .ite (decide (0<=b))
  (oI (zF (b+c)) a <|
 .zA (fU a.length a.length (0+(Int.toNat (zF (b+c)))) a.length) <|
 oI (zF ((zF (b+c))-1)) a <|
 .zA (fU a.length a.length (0+(Int.toNat (zF ((zF (b+c))-1)))) a.length) <|
 oI (zF ((zF (b+c))-2)) a <|
 .zA (fU a.length a.length (0+(Int.toNat (zF ((zF (b+c))-2)))) a.length) <|
 oI (zF (c-1)) g <|
 oI (zF (c-2)) g <|
 T.bind (cB (jF a (0+(Int.toNat (zF (b+c)))) (zj (.int .u32))) (jF a (0+(Int.toNat (zF ((zF (b+c))-1)))) (zj (.int .u32))) (jF a (0+(Int.toNat (zF ((zF (b+c))-2)))) (zj (.int .u32))) (nth g (zF (c-1)) (zj (.int .u32))) (nth g (zF (c-2)) (zj (.int .u32)))) λh =>
 T.bind (.zA (gj b (zF ((zF (b+c))+1)) a.length) <|
 oE a <|
 oE a <|
 T.bind (eC ((0+(Int.toNat b)),((Int.toNat (zF ((zF (b+c))+1)))-(Int.toNat b))) g h a) λ(k,f) =>
 .ite k
  (oC d <|
 .zA (vX a.length 0 a.length f.length) <|
 oE f <|
 oE d <|
 .ret ((zK (h-1)),(f,d)))
  (oC d <|
 .zA (vX a.length 0 a.length f.length) <|
 oE f <|
 oE d <|
 .ret (h,(f,d))):T ((Int×(List Int)×(List Int)))) λ(l,i,e)=>let j:=List.set e (0+(Int.toNat b)) (xL l);
 oI b e <|
 .zA (fU e.length e.length (0+(Int.toNat b)) e.length) <|
 .zA (vX e.length 0 e.length j.length) <|
 oC i <|
 oE i <|
 .zA (e.length=j.length) <|
 .ret (.inl ((zF (b-1)),(i,j))))
  (oC d <|
 oC a <|
 oE a <|
 oE d <|
 .ret (.inr (a,d)))
def Qw by_ d n s:=T.loop (ba by_ d n) s
def Z5(i:(List Int))(c:(List Int)):T ((List Int)×(List Int)) :=
 oI (zF ((c.length:Int)-1)) c <|
 T.bind (wm (nth c (zF ((c.length:Int)-1)) (zj (.int .u32)))) λf =>
 T.bind (cP i (zK f) (zF ((i.length:Int)+1))) λg =>
 T.bind (cP c (zK f) (c.length:Int)) λa=>let j:=zF ((zF ((i.length:Int)-(a.length:Int)))+1); let b:=Int.toNat j;
 .zA (Zl j j 4) <|
 oE a <|
 .zA (vX b 0 b (List.replicate b (0:Int)).length) <|
 oC g <|
 oE g <|
 .zA (b=(List.replicate b (0:Int)).length) <|
 T.bind (Qw (zK f) (List.drop 0 (List.take (0+a.length) a)) (a.length:Int) ((zF ((Nat.cast b:Int)-1)),(g,(List.replicate b 0)))) λ(d,h) =>
 oE h <|
 oE d <|
 T.bind (xH (List.drop 0 (List.take (0+h.length) h))) λk =>
 .zA (gj 0 (a.length:Int) (List.drop 0 (List.take (0+d.length) d)).length) <|
 T.bind (gP (wY (e:=(.int .u32)) 0 (a.length:Int) (List.drop 0 (List.take (0+d.length) d))) (zF (0-(zF (zK f))))) λl =>
 .ret (k,l)
def yd(j:(List Int))(k:(List Int)):T ((List Int)×(List Int)×Bool) :=
 T.bind (xH j) λb =>
 T.bind (xH k) λa =>
 .ite ((a.length:Int)==0)
  (.ret ([],([],false)))
  (T.bind (iS b a) λc =>
 .ite (decide (c<0))
  (T.bind (gn b) λd =>
 .ret ([],(d,true)))
  (.ite ((a.length:Int)==1)
  (oI 0 a <|
 T.bind (cx b (nth a 0 (zj (.int .u32)))) λ(e,f) =>
 T.bind (y3 (zK f)) λg =>
 .ret (e,(g,true)))
  (T.bind (Z5 b a) λ(h,i) =>
 .ret (h,(i,true)))))
def dG  : ((List Int)×(List Int))->T (((List Int)×(List Int))⊕((List Int)))
 | (b,a) =>
 .ite (decide (0<(a.length:Int)))
  (T.bind (yd b a) λ(d,c,e) =>
 .ret (.inl (a,c)))
  (.ret (.inr b))
def XW(s:((List Int)×(List Int))):T ((List Int)):=T.loop (dG ) s
def sq(d:(List Int))(e:(List Int)):T (List Int) :=
 T.bind (gn d) λa =>
 T.bind (gn e) λb =>
 T.bind (XW  (a,b)) λc =>
 .ret c
def rE(a:Rat):T Bool :=
 T.bind (T.bind (dx a.2.1) λb =>
 .ite (!b)
  (.ret true)
  (T.bind (dx a.2.2.1) λc =>
 .ite (!c)
  (.ret true)
  (.ite ((a.2.2.1.length:Int)==0)
  (.ret true)
  (.ite a.1
  (.ret ((a.2.1.length:Int)==0))
  (.ret false)))):T (Bool)) λd =>
 .ite d
  (.ret false)
  (T.bind (sq a.2.1 a.2.2.1) λe =>
 T.bind (y3 1) λf =>
 T.bind (iS e f) λg =>
 .ret (g==0))
def lM(g:Bool)(h:(List Int))(i:(List Int)):T Rat :=
 T.bind (gn h) λa =>
 T.bind (gn i) λb =>
 .ite (((a.length:Int)==0)||((b.length:Int)==0))
  (T.bind (y3 1) λd =>
 .ret (false,(([]:List Int),(d,()))))
  (T.bind (sq a b) λc =>
 T.bind (yd a c) λ(e,j,k) =>
 T.bind (yd b c) λ(f,l,m) =>
 .ret (g,(e,(f,()))))
def cH(a:Rat):T Rat :=
 T.bind (lM a.1 a.2.1 a.2.2.1) λb =>
 .ret b
def cw(b:Rat):T Bool :=
 T.bind (cH b) λa =>
 .ret ((decide (16<(a.2.1.length:Int)))||(decide (16<(a.2.2.1.length:Int))))
def vp(a:Param):T Bool :=
 T.bind (xg a.1) λb =>
 .ite (!b)
  (.ret true)
  (T.bind (rE a.2.1) λc =>
 .ite (!c)
  (.ret true)
  (T.bind (cw a.2.1) λd =>
 .ret d))
def qQ(b:(List Param))(d:Param->T Bool)(e:Int):Int->T (Int⊕(Unit⊕Int))
 | a =>
 .ite (decide (a<e))
  (oI a b <|
 T.bind (d (nth b a (zj zP))) λc =>
 .ite c
  (.ret (.inr (.inr a)))
  (.ret (.inl (zF (a+1)))))
  (.ret (.inr (.inl ())))
def uA s1 f x s:=T.loop (qQ s1 f x) s
def xX(a:(List Param))(c:Param->T Bool):T Int :=
 T.bind (uA a c (a.length:Int) 0) <|
 Sum.elim (λ_ =>
 .ret (-1))
  (λb =>
 .ret b)
def qO(b:(List Param))(c:Param->T Bool):T Bool :=
 T.bind (xX b c) λa =>
 .ret (decide (0<=a))
def jE(a:zf):T Bool :=
 .ite (zr a [])
  (.ret true)
  (T.bind (xg a) λb =>
 .ret b)
def vg(a:xm):T Bool :=
 T.bind (xg a.1) λb =>
 .ite (!b)
  (.ret true)
  (T.bind (jE a.2.1) λc =>
 .ret (!c))
def qY(b:(List xm))(d:xm->T Bool)(e:Int):Int->T (Int⊕(Unit⊕Int))
 | a =>
 .ite (decide (a<e))
  (oI a b <|
 T.bind (d (nth b a (zj zV))) λc =>
 .ite c
  (.ret (.inr (.inr a)))
  (.ret (.inl (zF (a+1)))))
  (.ret (.inr (.inl ())))
def uZ s1 f x s:=T.loop (qY s1 f x) s
def wk(a:(List xm))(c:xm->T Bool):T Int :=
 T.bind (uZ a c (a.length:Int) 0) <|
 Sum.elim (λ_ =>
 .ret (-1))
  (λb =>
 .ret b)
def xa(b:(List xm))(c:xm->T Bool):T Bool :=
 T.bind (wk b c) λa =>
 .ret (decide (0<=a))
def eF(b:Form):T Bool :=
 T.bind (qG b.1 (λa=>ve a)) λc =>
 .ite (!c)
  (T.bind (qO b.2.1 (λa=>vp a)) λd =>
 .ite (!d)
  (T.bind (xa b.2.2.1 (λa=>vg a)) λe =>
 .ret (!e))
  (.ret false))
  (.ret false)
def yU(a:Int)(b:Int)(c:Int):T Bool :=
 .ret ((decide ((lJ b 0)<=a))&&(decide (a<c)))
def uy(i:Form)(c:(List Field))(j:Int):(Int×Int)->T ((Int×Int)⊕(Unit⊕Bool))
 | (h,b)=>let a:=nth c b (zj zL);
 .ite (decide (b<j))
  (oI b c <|
 T.bind (T.bind (xg a.1) λd =>
 .ite (!d)
  (.ret (true,a))
  (T.bind (yU a.2.1 h (i.2.2.1.length:Int)) λe =>
 .ite (!e)
  (.ret (true,a))
  (.ite (decide (a.2.2.2.1<(0:Int)))
  (.ret (true,a))
  (.ret ((decide ((9:Int)<a.2.2.2.1)),a)))):T ((Bool×Field))) λ(f,g) =>
 .ite f
  (.ret (.inr (.inr false)))
  (.ret (.inl (g.2.1,(zF (b+1))))))
  (.ret (.inr (.inl ())))
def lS f1 x x1 s:=T.loop (uy f1 x x1) s
def bY(a:Form):T Bool :=
 T.bind (lS a a.2.2.2.1 (a.2.2.2.1.length:Int) (0,0)) <|
 Sum.elim (λ_ =>
 .ret true)
  (λb =>
 .ret b)
def wy  : T (List zf) :=
 .ret ([[61],[60],[60,61]]:List zf)
def oa(a:Int):T Int :=
 .ite (bif (a==1)then(a==1)else(a==2))
  (.ret 0)
  (.ite (a==7)
  (.ret 1)
  (.ite (a==3)
  (.ret 2)
  (.ite (a==4)
  (.ret 2)
  (.ite (a==5)
  (.ret 2)
  (.ite (a==6)
  (.ret 2)
  (.ret (-1)))))))
def iD(j:(List Int))(d:Int)(h:Int)(k:(List Int))(l:Int)(m:Int)(g:(List Int))(i:Int):(Int×Int×(List Int))->T ((Int×Int×(List Int))⊕((Int×(List Int))))
 | (f,b,a)=>let c:=0+(Int.toNat (zF (d+b))); let e:=zK (f+(zK ((zK ((zK h)*(zK (nth g b (zj (.int .u32))))))+(zK (jF a c (zj (.int .u32)))))));
 .ite (decide (b<i))
  (oI b g <|
 oI (zF (d+b)) a <|
 .zA (fU a.length a.length c a.length) <|
 oI (zF (d+b)) a <|
 .zA (fU a.length a.length c a.length) <|
 .zA (0<=(32:Int)) <|
 oM a.length (List.set a c (xL e)).length <|
 .ret (.inl ((wg .u64 e 32),((zF (b+1)),(List.set a c (xL e))))))
  (oC a <|
 oE a <|
 .ret (.inr (f,a)))
def WD b3 i v x3 x4 x5 x6 x7 s:=T.loop (iD b3 i v x3 x4 x5 x6 x7) s
def iE(d:(List Int))(e:(List Int))(h:Int):(Int×(List Int))->T ((Int×(List Int))⊕((List Int)))
 | (a,c)=>let f:=0+(Int.toNat (zF (a+(d.length:Int))));
 .ite (decide (a<h))
  (oI a e <|
 oC c <|
 oE c <|
 T.bind (WD d a (nth e a (zj (.int .u32))) e h a d (d.length:Int) (0,(0,c))) λ(g,b) =>
 oI (zF (a+(d.length:Int))) b <|
 .zA (fU b.length b.length f b.length) <|
 oM b.length (List.set b f (xL g)).length <|
 .ret (.inl ((zF (a+1)),(List.set b f (xL g)))))
  (oC c <|
 oE c <|
 .ret (.inr c))
def V3 b2 x x1 s:=T.loop (iE b2 x x1) s
def oJ(f:(List Int))(g:(List Int)):T (List Int) :=
 T.bind (xH f) λb =>
 T.bind (xH g) λd=>let a:=zF ((b.length:Int)+(d.length:Int));
 .zA (Zl a a 4) <|
 oM (Int.toNat a) (List.replicate (Int.toNat a) (0:Int)).length <|
 T.bind (V3 d b (b.length:Int) (0,(List.replicate (Int.toNat a) 0))) λc =>
 oE c <|
 T.bind (xH (List.drop 0 (List.take (0+c.length) c))) λe =>
 .ret e
def dm(e:Int):((List Int)×Int)->T (((List Int)×Int)⊕((List Int)))
 | (a,b) =>
 .ite (decide (b<e))
  (T.bind (y3 10) λc =>
 T.bind (oJ a c) λd =>
 .ret (.inl (d,(zF (b+1)))))
  (.ret (.inr a))
def WG x s:=T.loop (dm x) s
def o9(c:Int):T (List Int) :=
 T.bind (y3 1) λa =>
 T.bind (WG c (a,0)) λb =>
 .ret b
def n7(a:Rat):T zf :=
 .ite a.1
  (.ret [45])
  (.ret [])
def xJ  : ((Nat×Nat)×Int×Int×(List Int))->T (((Nat×Nat)×Int×Int×(List Int))⊕((List Int)))
 | (b,c,d,a)=>let e:=List.set a (b.1+(Int.toNat c)) (jF a (b.1+(Int.toNat d)) (zj (.int .u8))); let f:=List.set e (b.1+(Int.toNat d)) (jF a (b.1+(Int.toNat c)) (zj (.int .u8)));
 .ite (decide (c<d))
  (.zA (qu d b.2) <|
 .zA (fU a.length a.length (b.1+(Int.toNat d)) a.length) <|
 .zA (qu c b.2) <|
 .zA (fU a.length a.length (b.1+(Int.toNat c)) a.length) <|
 .zA (qu c b.2) <|
 .zA (fU a.length a.length (b.1+(Int.toNat c)) a.length) <|
 .zA (qu d b.2) <|
 .zA (fU a.length a.length (b.1+(Int.toNat d)) e.length) <|
 oE a <|
 .zA (a.length=f.length) <|
 .ret (.inl (b,((zF (c+1)),((zF (d-1)),f)))))
  (oE a <|
 .ret (.inr a))
def uY(s:((Nat×Nat)×Int×Int×(List Int))):T ((List Int)):=T.loop (xJ ) s
def wh(c:(Nat×Nat))(a:(List Int)):T (List Int) :=
 oE a <|
 oE a <|
 T.bind (uY  (c,(0,((zF ((Nat.cast c.2:Int)-1)),a)))) λb =>
 oE b <|
 .ret b
def gf(e:(List Int)):(Int×Int×(List Int))->T ((Int×Int×(List Int))⊕((List Int)))
 | (b,c,a)=>let d:=a++([(qm [48,49,50,51,52,53,54,55,56,57] (Int.tmod b (10:Int)))]:List Int);
 .ite (decide (c<9))
  (.zA (10≠(0:Int)) <|
 oI (Int.tmod b (10:Int)) ([48,49,50,51,52,53,54,55,56,57]:zf) <|
 oA a 1 <|
 .zA (10≠(0:Int)) <|
 oM (a.length+1) d.length <|
 .ret (.inl ((xL (Int.tdiv b (10:Int))),((zF (c+1)),d))))
  (oC a <|
 oE a <|
 .ret (.inr a))
def iM q1 s:=T.loop (gf q1) s
def yH  : ((List Int)×(List Int))->T (((List Int)×(List Int))⊕((List Int)))
 | (d,a) =>
 .ite (decide (0<(d.length:Int)))
  (T.bind (cx d 1000000000) λ(c,e) =>
 oC a <|
 oE a <|
 T.bind (iM c (e,(0,a))) λb =>
 oC b <|
 oE b <|
 .ret (.inl (c,b)))
  (oC a <|
 oE a <|
 .ret (.inr a))
def iC(s:((List Int)×(List Int))):T ((List Int)):=T.loop (yH ) s
def yE  : ((Nat×Nat)×(List Int))->T (((Nat×Nat)×(List Int))⊕(((Nat×Nat)×(List Int))))
 | (b,a)=>let c:=zF ((Nat.cast b.2:Int)-1);
 .zA (((decide (1<(Nat.cast b.2:Int)))=true)->((qu c b.2)/\(fU a.length a.length (b.1+(Int.toNat c)) a.length))) <|
 .ite ((decide (1<(Nat.cast b.2:Int)))&&((jF a (b.1+(Int.toNat c)) (zj (.int .u8)))==48))
  (.zA (gj 0 c b.2) <|
 oE a <|
 oE a <|
 .ret (.inl (((b.1+(Int.toNat 0)),((Int.toNat c)-(Int.toNat 0))),a)))
  (oE a <|
 oE a <|
 .ret (.inr (b,a)))
def sS(s:((Nat×Nat)×(List Int))):T (((Nat×Nat)×(List Int))):=T.loop (yE ) s
def cy(f:(List Int)):T zf :=
 T.bind (gn f) λd =>
 .ite ((d.length:Int)==0)
  (.ret [48])
  (oZ <|
 T.bind (iC  (d,[])) λa =>
 oE a <|
 oE a <|
 T.bind (sS  ((0,a.length),a)) λ(b,c) =>
 oE c <|
 oE c <|
 T.bind (wh b c) λe =>
 .zA (c.length=e.length) <|
 .ret (qD (List.drop b.1 (List.take (b.1+b.2) e))))
def strings_Repeat(b:zf)(a:Int):T zf :=
 .zA (0<=a/\a<=9223372036854775807/\b.length*(Int.toNat a)<=140737488355328) <|
 .ret (jh b (Int.toNat a))
def dS(a:zf)(e:Int):T zf :=
 .ite (e==0)
  (.ret a)
  (T.bind (strings_Repeat [48] (lJ 0 (zF ((zF (e+1))-(a.length:Int))))) λb=>let d:=((cat b a).length:Int); let c:=zF (d-e);
 oK b a <|
 .zA (gj 0 c (cat b a).length) <|
 oK (wX 0 c (cat b a)) [46] <|
 .zA (gj c d (cat b a).length) <|
 oK (cat (wX 0 c (cat b a)) [46]) (wX c d (cat b a)) <|
 .ret (cat (cat (wX 0 c (cat b a)) [46]) (wX c d (cat b a))))
def jI  : (Int×Rat)->T ((Int×Rat)⊕(Rat⊕(zf×Bool×Rat)))
 | (b,a) =>
 .ite (decide (b<61))
  (T.bind (o9 b) λe =>
 T.bind (oJ a.2.1 e) λf =>
 T.bind (yd f a.2.2.1) λ(g,h,j) =>
 .ite ((h.length:Int)==0)
  (T.bind (n7 a) λc =>
 T.bind (cy g) λi =>
 T.bind (dS i b) λd =>
 oK c d <|
 .ret (.inr (.inr ((cat c d),(true,a)))))
  (.ret (.inl ((zF (b+1)),a))))
  (.ret (.inr (.inl a)))
def tw(s:(Int×Rat)):T (Rat⊕(zf×Bool×Rat)):=T.loop (jI ) s
def fY(d:Rat):T (zf×Bool) :=
 T.bind (cH d) λa =>
 T.bind (tw  (0,a)) <|
 Sum.elim (λe =>
 .ret ([],false))
  (λ(b,c,f) =>
 .ret (b,c))
def iH(a:Rat):T Bool :=
 T.bind (T.bind (rE a) λb =>
 .ite (!b)
  (.ret true)
  (.ite a.1
  (.ret true)
  (T.bind (cw a) λc =>
 .ret c)):T (Bool)) λd =>
 .ite d
  (.ret false)
  (T.bind (fY a) λ(f,e) =>
 .ret e)
def bq(a:Rat):T Bool :=
 .ite (!a.1)
  (.ite ((a.2.1.length:Int)==0)
  (.ite ((a.2.2.1.length:Int)==0)
  (.ret true)
  (T.bind (rE a) λb =>
 .ret b))
  (.ret false))
  (.ret false)
def yr(a:AM.Expr):T Bool :=
 T.bind (oa (Expr.kind a)) λb =>
 .ite (((Expr.kids a).length:Int) != b)
  (.ret false)
  (.ite ((Expr.kind a)==1)
  (T.bind (iH (Expr.num a)) λc =>
 .ite c
  (.ret (zr (Expr.name a) []))
  (.ret false))
  (.ite ((Expr.kind a)==2)
  (T.bind (bq (Expr.num a)) λd =>
 .ite d
  (T.bind (xg (Expr.name a)) λe =>
 .ret e)
  (.ret false))
  (T.bind (bq (Expr.num a)) λf =>
 .ite f
  (.ret (zr (Expr.name a) []))
  (.ret false))))
def uI(c:AM.Expr->Int->Int->T (Bool×Int))(d:AM.Expr)(e:Int)(f:Int):T (Bool×Int) :=
 T.bind (c d (zF (e+1)) f) λ(a,b) =>
 .ret ((!a),b)
def zx(g:AM.Expr->Int->Int->T (Bool×Int))(e:(List AM.Expr))(h:Int):((Int×Unit)×Int×Int)->T (((Int×Unit)×Int×Int)⊕(Int⊕(Int×Int)))
 | (c,a,d) =>
 .ite (decide (a<h))
  (oI a e <|
 T.bind ((uI g) (nth e a (zj .expr)) c.1 d) λ(f,b) =>
 .ite f
  (.ret (.inr (.inr (a,b))))
  (.ret (.inl ((c.1,()),((zF (a+1)),b)))))
  (.ret (.inr (.inl d)))
def zN self_expr_may s1 x s:=T.loop (zx self_expr_may s1 x) s
def qx(e:AM.Expr->Int->Int->T (Bool×Int))(a:(List AM.Expr))(f:(Int×Unit))(g:Int):T (Int×Int) :=
 T.bind (zN e a (a.length:Int) ((f.1,()),(0,g))) <|
 Sum.elim (λb =>
 .ret ((-1),b))
  (λ(c,d) =>
 .ret (c,d))
def zW(c:AM.Expr->Int->Int->T (Bool×Int))(d:(List AM.Expr))(e:(Int×Unit))(f:Int):T (Bool×Int) :=
 T.bind ((qx c) d (e.1,()) f) λ(a,b) =>
 .ret ((decide (0<=a)),b)
def gx(i:AM.Expr->Int->Int->T (Bool×Int))(c:AM.Expr)(d:Int)(a:Int):T (Bool×Int) :=
 T.bind (.ite (decide ((zF (a-1))<0))
  (.ret (true,(zF (a-1))))
  (.ite (decide (32<=d))
  (.ret (true,(zF (a-1))))
  (T.bind (yr c) λe =>
 .ret ((!e),(zF (a-1))))):T ((Bool×Int))) λ(f,b) =>
 .ite f
  (.ret (false,b))
  (T.bind ((zW i) (Expr.kids c) (d,()) b) λ(g,h) =>
 .ret ((!g),h))
def jn(e:AM.Expr)(deep:Int)(left:Int):T (Bool×Int):=T.fix (λF x=>gx (λy0 y1 y2=>F (y0,y1,y2)) x.1 x.2.1 x.2.2) (e,deep,left)
def vZ(b:AM.Expr):T Bool :=
 T.bind (jn b 0 256) λ(a,c) =>
 .ret a
def xC  : T (List zf) :=
 .ret ([[114,101,113,117,105,114,101,100],[115,116,114,111,110,103],[109,101,100,105,117,109],[119,101,97,107]]:List zf)
def xU(a:xe):T Bool :=
 T.bind (xg a.1) λb =>
 .ite (!b)
  (.ret true)
  (.ite (decide (a.2.1<(0:Int)))
  (.ret true)
  (T.bind (xC) λc =>
 .ite (decide ((c.length:Int)<=a.2.1))
  (.ret true)
  (T.bind (jE a.2.2.1) λd =>
 .ite (!d)
  (.ret true)
  (T.bind (vZ a.2.2.2.1) λe =>
 .ite (!e)
  (.ret true)
  (T.bind (vZ a.2.2.2.2.1) λf =>
 .ret (!f))))))
def xb(b:(List xe))(d:xe->T Bool)(e:Int):Int->T (Int⊕(Unit⊕Int))
 | a =>
 .ite (decide (a<e))
  (oI a b <|
 T.bind (d (nth b a (zj qf))) λc =>
 .ite c
  (.ret (.inr (.inr a)))
  (.ret (.inl (zF (a+1)))))
  (.ret (.inr (.inl ())))
def j5 s1 f x s:=T.loop (xb s1 f x) s
def wo(a:(List xe))(c:xe->T Bool):T Int :=
 T.bind (j5 a c (a.length:Int) 0) <|
 Sum.elim (λ_ =>
 .ret (-1))
  (λb =>
 .ret b)
def qZ(b:(List xe))(c:xe->T Bool):T Bool :=
 T.bind (wo b c) λa =>
 .ret (decide (0<=a))
def uH(l:Form)(c:(List Check))(m:Int):(Int×Int)->T ((Int×Int)⊕(Unit⊕Bool))
 | (k,b)=>let a:=nth c b (zj zX);
 .ite (decide (b<m))
  (oI b c <|
 T.bind (T.bind (xg a.1) λd =>
 .ite (!d)
  (.ret (true,a))
  (T.bind (yU a.2.1 k (l.2.2.1.length:Int)) λe =>
 .ite (!e)
  (.ret (true,a))
  (.ite (decide (a.2.2.1<(0:Int)))
  (.ret (true,a))
  (T.bind (wy) λf =>
 .ite (decide ((f.length:Int)<=a.2.2.1))
  (.ret (true,a))
  (T.bind (vZ (Expr.mk (Expr.kind a.2.2.2.1) ((Expr.num a.2.2.2.1).1,((Expr.num a.2.2.2.1).2.1,((Expr.num a.2.2.2.1).2.2.1,()))) (Expr.name a.2.2.2.1) (Expr.kids a.2.2.2.1))) λg =>
 .ite (!g)
  (.ret (true,a))
  (T.bind (vZ (Expr.mk (Expr.kind a.2.2.2.2.1) ((Expr.num a.2.2.2.2.1).1,((Expr.num a.2.2.2.2.1).2.1,((Expr.num a.2.2.2.2.1).2.2.1,()))) (Expr.name a.2.2.2.2.1) (Expr.kids a.2.2.2.2.1))) λh =>
 .ret ((!h),a)))))):T ((Bool×Check))) λ(i,j) =>
 .ite i
  (.ret (.inr (.inr false)))
  (.ret (.inl (j.2.1,(zF (b+1))))))
  (.ret (.inr (.inl ())))
def lV f1 x x1 s:=T.loop (uH f1 x x1) s
def bV(a:Form):T Bool :=
 T.bind (lV a a.2.2.2.2.2.1 (a.2.2.2.2.2.1.length:Int) (0,0)) <|
 Sum.elim (λ_ =>
 T.bind (qZ a.2.2.2.2.1 (λb=>xU b)) λc =>
 .ret (!c))
  (λd =>
 .ret d)
def eZ(v:Unit)(l:List Int):T (Unit×List Int):=.ret (v,l)
def zY(b:zf)(e:(Unit))(c:(List Int)):T (Int×(Unit)×(List Int)) :=
 oC c <|
 oE c <|
 T.bind (eZ () c) λ(d,a) =>
 .zA (ZX a.length a.length 0 a.length a.length (bytesOf b).length 1) <|
 oM (a.length+(bytesOf b).length) (a++(bytesOf b)).length <|
 .ret ((b.length:Int),((),(a++(bytesOf b))))
def fH(g:Rat):T zf :=
 T.bind (cH g) λa =>
 T.bind (n7 a) λb =>
 T.bind (cy a.2.1) λc =>
 oK b c <|
 T.bind (y3 1) λe =>
 T.bind (iS a.2.2.1 e) λf =>
 .ite (f != 0)
  (T.bind (cy a.2.2.1) λd =>
 oK [47] d <|
 oK (cat b c) (cat [47] d) <|
 .ret (cat (cat b c) (cat [47] d)))
  (.ret (cat b c))
def cU(a:zf):T zf :=
 .ite (zr a [])
  (.ret [])
  (oK [32,119,104,101,110,32] a <|
 .ret (cat [32,119,104,101,110,32] a))
def strconv_Itoa(a:Int):T zf :=
 .zA ((-9223372036854775808)<=a/\a<=9223372036854775807) <|
 .ret (fj a)
def dV(a:Field):T zf :=
 let c:=cat [102,105,101,108,100,32] a.1; let b:=bif a.2.2.1 then(cat c [32,109,117,115,116])else c;  oK [102,105,101,108,100,32] a.1 <|
 .zA ((a.2.2.1=true)->((c.length+([32,109,117,115,116]:zf).length)<=4611686018427387904)) <|
 .ite (decide ((0:Int)<a.2.2.2.1))
  (T.bind (strconv_Itoa a.2.2.2.1) λe=>let d:=cat [32,115,99,97,108,101,32] e;
 oK [32,115,99,97,108,101,32] e <|
 oK b d <|
 oK (cat b d) [10] <|
 .ret (cat (cat b d) [10]))
  (oK b [10] <|
 .ret (cat b [10]))
def gH(a:AM.Expr):T Int :=
 .ite (bif ((Expr.kind a)==3)then((Expr.kind a)==3)else((Expr.kind a)==4))
  (.ret 1)
  (.ite (bif ((Expr.kind a)==5)then((Expr.kind a)==5)else((Expr.kind a)==6))
  (.ret 2)
  (.ite ((Expr.kind a)==7)
  (.ret 3)
  (.ret 4)))
def yl(c:AM.Expr->T zf)(b:AM.Expr)(f:Int):T zf :=
 T.bind (gH b) λd =>
 .ite (decide (d<f))
  (T.bind (c b) λa =>
 oK [40] a <|
 oK (cat [40] a) [41] <|
 .ret (cat (cat [40] a) [41]))
  (T.bind (c b) λe =>
 .ret e)
def cq(d:AM.Expr->T zf)(a:AM.Expr):T zf :=
 T.bind (.ite ((Expr.kind a)==1)
  (T.bind (fY (Expr.num a)) λ(g,k) =>
 .ret (.inr g))
  (.ite ((Expr.kind a)==2)
  (.ret (.inr (Expr.name a)))
  (.ite ((Expr.kind a)==7)
  (oI 0 (Expr.kids a) <|
 T.bind ((yl d) (nth (Expr.kids a) 0 (zj .expr)) 3) λe =>
 oK [45] e <|
 .ret (.inr (cat [45] e)))
  (.ite ((Expr.kind a)==3)
  (.ret (.inl [32,43,32]))
  (.ite ((Expr.kind a)==4)
  (.ret (.inl [32,45,32]))
  (.ite ((Expr.kind a)==5)
  (.ret (.inl [32,42,32]))
  (.ite ((Expr.kind a)==6)
  (.ret (.inl [32,47,32]))
  (.ret (.inl [])))))))):T (zf⊕zf)) <|
 Sum.elim (λb =>
 oI 0 (Expr.kids a) <|
 T.bind (gH a) λh =>
 T.bind ((yl d) (nth (Expr.kids a) 0 (zj .expr)) h) λc =>
 oK c b <|
 oI 1 (Expr.kids a) <|
 T.bind (gH a) λi =>
 T.bind ((yl d) (nth (Expr.kids a) 1 (zj .expr)) (zF (i+1))) λf =>
 oK (cat c b) f <|
 .ret (cat (cat c b) f))
  (λj =>
 .ret j)
def iJ(e:AM.Expr):T zf:=T.fix (λF x=>cq (λy0=>F (y0)) x) e
def cY(a:AM.Expr):T zf :=
 T.bind (vZ a) λb =>
 .ite (!b)
  (.ret [])
  (T.bind (iJ a) λc =>
 .ret c)
def bm(e:AM.Expr)(a:zf)(f:AM.Expr):T zf :=
 T.bind (cY e) λc=>let b:=cat (cat [32,58,32] c) [32];
 oK [32,58,32] c <|
 oK (cat [32,58,32] c) [32] <|
 oK b a <|
 oK (cat b a) [32] <|
 T.bind (cY f) λd =>
 oK (cat (cat b a) [32]) d <|
 oK (cat (cat (cat b a) [32]) d) [10] <|
 .ret (cat (cat (cat (cat b a) [32]) d) [10])
def uz(f:Int)(k:Form)(d:(List Field))(g:Int):(Int×(Unit)×(List Int))->T ((Int×(Unit)×(List Int))⊕(((Unit)×(List Int))))
 | (b,j,a) =>
 .ite (decide (b<g))
  (oI b d <|
 .ite ((nth d b (zj zL)).2.1==f)
  (T.bind (dV (nth d b (zj zL))) λe =>
 oC a <|
 oE a <|
 T.bind (zY e () a) λ(h,i,c) =>
 oC c <|
 oE c <|
 .ret (.inl ((zF (b+1)),((),c))))
  (oC a <|
 oE a <|
 .ret (.inl ((zF (b+1)),((),a)))))
  (oC a <|
 oE a <|
 .ret (.inr ((),a)))
def ma i1 f1 x x1 s:=T.loop (uz i1 f1 x x1) s
def uC(h:Int)(g:(List Check))(i:Int):(Int×(Unit)×(List Int))->T ((Int×(Unit)×(List Int))⊕(((Unit)×(List Int))))
 | (c,l,b)=>let a:=nth g c (zj zX);
 .ite (decide (c<i))
  (oI c g <|
 .ite (a.2.1==h)
  (oK [99,104,101,99,107,32] a.1 <|
 T.bind (wy) λe =>
 .zA (qu a.2.2.1 e.length) <|
 T.bind (bm (Expr.mk (Expr.kind a.2.2.2.1) ((Expr.num a.2.2.2.1).1,((Expr.num a.2.2.2.1).2.1,((Expr.num a.2.2.2.1).2.2.1,()))) (Expr.name a.2.2.2.1) (Expr.kids a.2.2.2.1)) (nth e a.2.2.1 (zj .str)) (Expr.mk (Expr.kind a.2.2.2.2.1) ((Expr.num a.2.2.2.2.1).1,((Expr.num a.2.2.2.2.1).2.1,((Expr.num a.2.2.2.2.1).2.2.1,()))) (Expr.name a.2.2.2.2.1) (Expr.kids a.2.2.2.2.1))) λf =>
 oK (cat [99,104,101,99,107,32] a.1) f <|
 oC b <|
 oE b <|
 T.bind (zY (cat (cat [99,104,101,99,107,32] a.1) f) () b) λ(j,k,d) =>
 oC d <|
 oE d <|
 .ret (.inl ((zF (c+1)),((),d))))
  (oC b <|
 oE b <|
 .ret (.inl ((zF (c+1)),((),b)))))
  (oC b <|
 oE b <|
 .ret (.inr ((),b)))
def lT i2 x3 x4 s:=T.loop (uC i2 x3 x4) s
def c6(a:Form)(b:Int)(m:(Unit))(g:(List Int)):T ((Unit)×(List Int)) :=
 let h:=cat [112,97,103,101,32] (nth a.2.2.1 b (zj zV)).1;  oI b a.2.2.1 <|
 oK [112,97,103,101,32] (nth a.2.2.1 b (zj zV)).1 <|
 oI b a.2.2.1 <|
 T.bind (cU (nth a.2.2.1 b (zj zV)).2.1) λc =>
 oK h c <|
 oK (cat h c) [10] <|
 oC g <|
 oE g <|
 T.bind (zY (cat (cat h c) [10]) () g) λ(i,j,d) =>
 oC d <|
 oE d <|
 T.bind (ma b a a.2.2.2.1 (a.2.2.2.1.length:Int) (0,((),d))) λ(k,e) =>
 oC e <|
 oE e <|
 T.bind (lT b a.2.2.2.2.2.1 (a.2.2.2.2.2.1.length:Int) (0,((),e))) λ(l,f) =>
 oC f <|
 oE f <|
 .ret ((),f)
def iw(v:Unit)(l:List Int):T (zf×Unit):=z15 l
def jg(k:Form)(e:(List Switch))(g:Int):(Int×(Unit)×(List Int))->T ((Int×(Unit)×(List Int))⊕(((Unit)×(List Int))))
 | (b,j,a)=>let c:=nth e b (zj zJ); let f:=bif c.2.1 then[32,111,110,10]else[32,111,102,102,10];
 .ite (decide (b<g))
  (oI b e <|
 oK [115,119,105,116,99,104,32] c.1 <|
 oK (cat [115,119,105,116,99,104,32] c.1) f <|
 oC a <|
 oE a <|
 T.bind (zY (cat (cat [115,119,105,116,99,104,32] c.1) f) () a) λ(h,i,d) =>
 oC d <|
 oE d <|
 .ret (.inl ((zF (b+1)),((),d))))
  (oC a <|
 oE a <|
 .ret (.inr ((),a)))
def mH f1 x x1 s:=T.loop (jg f1 x x1) s
def jr(l:Form)(g:(List Param))(h:Int):(Int×(Unit)×(List Int))->T ((Int×(Unit)×(List Int))⊕(((Unit)×(List Int))))
 | (c,k,a)=>let b:=nth g c (zj zP); let d:=cat [112,97,114,97,109,32] b.1;
 .ite (decide (c<h))
  (oI c g <|
 oK [112,97,114,97,109,32] b.1 <|
 oK d [32] <|
 T.bind (fH (b.2.1.1,(b.2.1.2.1,(b.2.1.2.2.1,())))) λe =>
 oK (cat d [32]) e <|
 oK (cat (cat d [32]) e) [10] <|
 oC a <|
 oE a <|
 T.bind (zY (cat (cat (cat d [32]) e) [10]) () a) λ(i,j,f) =>
 oC f <|
 oE f <|
 .ret (.inl ((zF (c+1)),((),f))))
  (oC a <|
 oE a <|
 .ret (.inr ((),a)))
def nn f2 x3 x4 s:=T.loop (jr f2 x3 x4) s
def jk(d:Form)(e:Int):(Int×(Unit)×(List Int))->T ((Int×(Unit)×(List Int))⊕(((Unit)×(List Int))))
 | (c,g,a) =>
 .ite (decide (c<e))
  (oC a <|
 oE a <|
 T.bind (c6 d c () a) λ(f,b) =>
 oC b <|
 oE b <|
 .ret (.inl ((zF (c+1)),((),b))))
  (oC a <|
 oE a <|
 .ret (.inr ((),a)))
def nS f3 x6 s:=T.loop (jk f3 x6) s
def j9(i:(List xe))(j:Int):(Int×(Unit)×(List Int))->T ((Int×(Unit)×(List Int))⊕(((Unit)×(List Int))))
 | (d,m,b)=>let a:=nth i d (zj qf);
 .ite (decide (d<j))
  (oI d i <|
 T.bind (xC) λe=>let c:=cat [114,117,108,101,32] (nth e a.2.1 (zj .str));
 .zA (qu a.2.1 e.length) <|
 oK [114,117,108,101,32] (nth e a.2.1 (zj .str)) <|
 oK c [32] <|
 oK (cat c [32]) a.1 <|
 T.bind (cU a.2.2.1) λf =>
 oK (cat (cat c [32]) a.1) f <|
 T.bind (bm (Expr.mk (Expr.kind a.2.2.2.1) ((Expr.num a.2.2.2.1).1,((Expr.num a.2.2.2.1).2.1,((Expr.num a.2.2.2.1).2.2.1,()))) (Expr.name a.2.2.2.1) (Expr.kids a.2.2.2.1)) [61] (Expr.mk (Expr.kind a.2.2.2.2.1) ((Expr.num a.2.2.2.2.1).1,((Expr.num a.2.2.2.2.1).2.1,((Expr.num a.2.2.2.2.1).2.2.1,()))) (Expr.name a.2.2.2.2.1) (Expr.kids a.2.2.2.2.1))) λh =>
 oK (cat (cat (cat c [32]) a.1) f) h <|
 oC b <|
 oE b <|
 T.bind (zY (cat (cat (cat (cat c [32]) a.1) f) h) () b) λ(k,l,g) =>
 oC g <|
 oE g <|
 .ret (.inl ((zF (d+1)),((),g))))
  (oC b <|
 oE b <|
 .ret (.inr ((),b)))
def mQ x8 x9 s:=T.loop (j9 x8 x9) s
def bB(a:Form):T zf :=
 oZ <|
 T.bind (mH a a.1 (a.1.length:Int) (0,((),[]))) λ(g,b) =>
 oC b <|
 oE b <|
 T.bind (nn a a.2.1 (a.2.1.length:Int) (0,((),b))) λ(h,c) =>
 oC c <|
 oE c <|
 T.bind (nS a (a.2.2.1.length:Int) (0,((),c))) λ(i,d) =>
 oC d <|
 oE d <|
 T.bind (mQ a.2.2.2.2.1 (a.2.2.2.2.1.length:Int) (0,((),d))) λ(j,e) =>
 oC e <|
 oE e <|
 T.bind (iw () e) λ(f,k) =>
 .ret f
def kH(a:Form):T Bool :=
 T.bind (eF a) λb =>
 .ite b
  (T.bind (bY a) λc =>
 .ite c
  (T.bind (bV a) λd =>
 .ite d
  (T.bind (bB a) λe =>
 .ret (decide ((e.length:Int)<=16384)))
  (.ret false))
  (.ret false))
  (.ret false)
def vQ(a:Form):T zf :=
 T.bind (kH a) λb =>
 .ite (!b)
  (.ret [])
  (T.bind (bB a) λc =>
 .ret c)
def strings_Split(a:zf)(b:zf):T (List zf) :=
 .zA (a.length<4294967281/\b.length=1) <|
 .ret (bQ (List.headD b 0) a)
def strings_Cut(a:zf)(b:zf):T (zf×zf×Bool) :=
 .zA (a.length<4294967281) <|
 .ret (ua a b)
def yN(a:Int):T Bool :=
 .ret (a==32)
def strings_FieldsFunc(a:zf)(b:Int->T Bool):T (List zf) :=
 .zA (a.length<=4294967296) <|
 .ret (gL 32 [] a)
def dR(c:zf):T (List zf) :=
 T.bind (strings_FieldsFunc c (λa=>yN a)) λb =>
 .ret b
def strings_IndexAny(c:zf)(a:zf):T Int :=
 .zA (c.length<4294967281/\2<=a.length/\a.length<4294967281/\(∀ b∈a,b.toNat<128)) <|
 .ret (yZ c a)
def xr(b:zf)(a:zf):T Bool :=
 .zA (((decide ((a.length:Int)<=(b.length:Int)))=true)->(gj 0 (a.length:Int) b.length)) <|
 .ret ((decide ((a.length:Int)<=(b.length:Int)))&&(zr (wX 0 (a.length:Int) b) a))
def strings_HasPrefix(b:zf)(c:zf):T Bool :=
 T.bind (xr b c) λa =>
 .ret a
def xI  : zc->T (zc⊕(zc))
 | a =>
 .zA (((decide (a.2.1<(a.1.length:Int)))=true)->(qu a.2.1 a.1.length)) <|
 .ite ((decide (a.2.1<(a.1.length:Int)))&&((qm a.1 a.2.1)==32))
  (.ret (.inl (a.1,((zF (a.2.1+1)),(a.2.2.1,(a.2.2.2.1,()))))))
  (.ret (.inr a))
def ym(s:zc):T (zc):=T.loop (xI ) s
def vL(b:zc):T zc :=
 T.bind (ym  b) λa =>
 .ret a
def strings_IndexByte(s:zf)(c:Int):T Int:=.ret (mc s (byteOf c))
def qT(e:zf)(f:zc):T (Int×zc) :=
 T.bind (vL f) λb =>
 T.bind (.ite (decide (b.2.1<(b.1.length:Int)))
  (oI b.2.1 b.1 <|
 T.bind (strings_IndexByte e (qm b.1 b.2.1)) λc =>
 .ret ((decide (0<=c)),b))
  (.ret (false,b)):T ((Bool×zc))) λ(d,a) =>
 .ite d
  (oI (zF ((zF (a.2.1+1))-1)) a.1 <|
 .ret ((qm a.1 (zF ((zF (a.2.1+1))-1))),(a.1,((zF (a.2.1+1)),(a.2.2.1,(a.2.2.2.1,()))))))
  (.ret (0,a))
def xG(a:Int)(b:Int)(c:zc):T (zc⊕(zR×zc)) :=
 .ret (.inr ((a,(b,())),c))
def wu(a:zc):T (zc⊕(zR×zc)) :=
 .ite (decide (32<=(zF (a.2.2.1+1))))
  (T.bind (xG 4 (zF (a.2.1-1)) (a.1,(a.2.1,((zF (a.2.2.1+1)),(a.2.2.2.1,()))))) <|
 Sum.elim (λb =>
 .ret (.inl b))
  (λ(c,d) =>
 .ret (.inr (c,d))))
  (.ret (.inl (a.1,(a.2.1,((zF (a.2.2.1+1)),(a.2.2.2.1,()))))))
def qL(e:Int->T Bool)(f:Int)(g:Int):zc->T (zc⊕(zc))
 | a =>
 T.bind (.ite (decide (a.2.1<(a.1.length:Int)))
  (.ite (decide ((zF (a.2.1-g))<f))
  (oI a.2.1 a.1 <|
 T.bind (e (qm a.1 a.2.1)) λc =>
 .ret (c,a))
  (.ret (false,a)))
  (.ret (false,a)):T ((Bool×zc))) λ(d,b) =>
 .ite d
  (.ret (.inl (b.1,((zF (b.2.1+1)),(b.2.2.1,(b.2.2.2.1,()))))))
  (.ret (.inr b))
def yz is most1 from_ s:=T.loop (qL is most1 from_) s
def qU(c:Int->T Bool)(d:Int)(b:zc):T (zf×zc) :=
 T.bind (yz c d b.2.1 b) λa =>
 .zA (gj b.2.1 a.2.1 a.1.length) <|
 .ret ((wX b.2.1 a.2.1 a.1),a)
def strings_CutPrefix(a:zf)(b:zf):T (zf×Bool) :=
 .ret (oH a b,List.isPrefixOf b a)
def kD(c:Int):zf->T (zf⊕(zf))
 | a=>let b:=zF ((a.length:Int)-1);
 .zA (((decide (0<(a.length:Int)))=true)->(qu b a.length)) <|
 .ite ((decide (0<(a.length:Int)))&&((qm a b)==c))
  (.zA (gj 0 b a.length) <|
 .ret (.inl (wX 0 b a)))
  (.ret (.inr a))
def eS c1 s:=T.loop (kD c1) s
def strings_trimRightByte(b:zf)(c:Int):T zf :=
 T.bind (eS c b) λa =>
 .ret a
def yj(b:Int):zf->T (zf⊕(zf))
 | a =>
 .zA (((decide (0<(a.length:Int)))=true)->(qu 0 a.length)) <|
 .ite ((decide (0<(a.length:Int)))&&((qm a 0)==b))
  (.zA (gj 1 (a.length:Int) a.length) <|
 .ret (.inl (wX 1 (a.length:Int) a)))
  (.ret (.inr a))
def fX c1 s:=T.loop (yj c1) s
def strings_trimLeftByte(b:zf)(c:Int):T zf :=
 T.bind (fX c b) λa =>
 .ret a
def strings_makeASCIISet(a:zf):T ((den (cj .bool 256))×Bool) :=
 .zA (a.length<4294967281/\(∀ (j:Nat) b,a[j]? = some b->b.toNat<128)) <|
 .ret (bM a,true)
def xw(b:(den (cj .bool 256)))(a:Int):T Bool :=
 .zA (qu a 256) <|
 .ret (nJ .bool (cj .bool 256) b (Int.toNat a))
def xv(d:(den (cj .bool 256))):zf->T (zf⊕(zf))
 | a=>let b:=zF ((a.length:Int)-1);
 .ite (decide (0<(a.length:Int)))
  (oI b a <|
 T.bind (xw d (qm a b)) λc =>
 .ite (!c)
  (.ret (.inr a))
  (.zA (gj 0 b a.length) <|
 .ret (.inl (wX 0 b a))))
  (.ret (.inr a))
def k9 as1 s:=T.loop (xv as1) s
def wO(b:zf)(c:(den (cj .bool 256))):T zf :=
 T.bind (k9 c b) λa =>
 .ret a
def xA(c:(den (cj .bool 256))):zf->T (zf⊕(zf))
 | a =>
 .ite (decide (0<(a.length:Int)))
  (oI 0 a <|
 T.bind (xw c (qm a 0)) λb =>
 .ite (!b)
  (.ret (.inr a))
  (.zA (gj 1 (a.length:Int) a.length) <|
 .ret (.inl (wX 1 (a.length:Int) a))))
  (.ret (.inr a))
def kz as1 s:=T.loop (xA as1) s
def vt(b:zf)(c:(den (cj .bool 256))):T zf :=
 T.bind (kz c b) λa =>
 .ret a
def jG(b:zf)(a:zf):T zf :=
 .ite ((zr b [])||(zr a []))
  (.ret b)
  (.zA ((((a.length:Int)==1)=true)->(qu 0 a.length)) <|
 .ite (((a.length:Int)==1)&&(decide ((qm a 0)<128)))
  (oI 0 a <|
 T.bind (strings_trimRightByte b (qm a 0)) λd =>
 oI 0 a <|
 T.bind (strings_trimLeftByte d (qm a 0)) λe =>
 .ret e)
  (T.bind (strings_makeASCIISet a) λ(c,f) =>
 .ite f
  (T.bind (wO b c) λg =>
 T.bind (vt g c) λh =>
 .ret h)
  (.fail)))
def lg(h:(List Int))(c:(List Int))(e:(List Int))(g:Int):(Int×Int×(List Int))->T ((Int×Int×(List Int))⊕((Int×(List Int))))
 | (d,a,b)=>let f:=bif (decide (a<(c.length:Int)))then(zK ((zK (d+(zK (nth e a (zj (.int .u32))))))+(zK (nth c a (zj (.int .u32))))))else(zK (d+(zK (nth e a (zj (.int .u32))))));
 .ite (decide (a<g))
  (oI a e <|
 .zA (((decide (a<(c.length:Int)))=true)->(qu a c.length)) <|
 oI a b <|
 .zA (fU b.length b.length (0+(Int.toNat a)) b.length) <|
 .zA (0<=(32:Int)) <|
 oM b.length (List.set b (0+(Int.toNat a)) (xL f)).length <|
 .ret (.inl ((wg .u64 f 32),((zF (a+1)),(List.set b (0+(Int.toNat a)) (xL f))))))
  (oC b <|
 oE b <|
 .ret (.inr (d,b)))
def XF a2 b2 x x1 s:=T.loop (lg a2 b2 x x1) s
def Xg(h:(List Int))(i:(List Int)):T (List Int) :=
 T.bind (xH h) λc =>
 T.bind (xH i) λd=>let e:=bif (decide ((c.length:Int)<(d.length:Int)))then d else c; let a:=(e.length:Int);
 .zA (Zl (zF (a+1)) (zF (a+1)) 4) <|
 oM (Int.toNat (zF (a+1))) (List.replicate (Int.toNat (zF (a+1))) (0:Int)).length <|
 T.bind (XF e (bif (decide ((c.length:Int)<(d.length:Int)))then c else d) e a (0,(0,(List.replicate (Int.toNat (zF (a+1))) 0)))) λ(f,b) =>
 oI a b <|
 .zA (fU b.length b.length (0+(Int.toNat a)) b.length) <|
 oE b <|
 T.bind (xH (List.drop 0 (List.take (0+b.length) (List.set b (0+(Int.toNat a)) (xL f))))) λg =>
 .ret g
def yG(c:zf)(g:Int):((List Int)×Int)->T (((List Int)×Int)⊕((List Int)))
 | (b,a) =>
 .ite (decide (a<g))
  (T.bind (oJ b ([10]:List Int)) λd =>
 oI a c <|
 T.bind (y3 (zK (YE ((qm c a)-48)))) λe =>
 T.bind (Xg d e) λf =>
 .ret (.inl (f,(zF (a+1)))))
  (.ret (.inr b))
def sV s1 x1 s:=T.loop (yG s1 x1) s
def vb(a:zf):T ((List Int)×Bool) :=
 T.bind (.ite (zr a [])
  (.ret true)
  (.ite (decide (400<(a.length:Int)))
  (.ret true)
  (T.bind (jG a [48,49,50,51,52,53,54,55,56,57]) λb =>
 .ret (!(zr b [])))):T (Bool)) λc =>
 .ite c
  (.ret ([],false))
  (T.bind (sV a (a.length:Int) ([],0)) λd =>
 .ret (d,true))
def yq(f:zf):T (Rat×Int) :=
 .ite (decide (400<(f.length:Int)))
  (.ret ((false,(([]:List Int),(([]:List Int),()))),3))
  (T.bind (strings_CutPrefix f [45]) λ(c,d) =>
 T.bind (strings_Cut c [46]) λ(b,a,g) =>
 .ite g
  (T.bind (vb a) λ(t,h) =>
 oK b a <|
 T.bind (vb (cat b a)) λ(i,j) =>
 .ite ((zr b [])||((!h)||(!j)))
  (.ret ((false,(([]:List Int),(([]:List Int),()))),2))
  (T.bind (o9 (a.length:Int)) λk =>
 T.bind (lM d i k) λl =>
 .ret (l,0)))
  (T.bind (strings_Cut c [47]) λ(m,n,o) =>
 T.bind (vb m) λ(p,q) =>
 T.bind (vb (bif (!o)then[49]else n)) λ(e,r) =>
 .ite ((!q)||((!r)||((e.length:Int)==0)))
  (.ret ((false,(([]:List Int),(([]:List Int),()))),2))
  (T.bind (lM d p e) λs =>
 .ret (s,0))))
def vO(i:zc):T ((AM.Expr×zc)⊕(zR×zc)) :=
 T.bind (qU (λe=>xD e) (i.1.length:Int) i) λ(c,a) =>
 T.bind (.zA (((decide (a.2.1<(a.1.length:Int)))=true)->(qu a.2.1 a.1.length)) <|
 .ite ((decide (a.2.1<(a.1.length:Int)))&&((qm a.1 a.2.1)==46))
  (T.bind (qU (λe=>xD e) (a.1.length:Int) (a.1,((zF (a.2.1+1)),(a.2.2.1,(a.2.2.2.1,()))))) λ(b,f) =>
 .ite (zr b [])
  (T.bind (xG 2 f.2.1 f) <|
 Sum.elim (λj =>
 oK [46] b <|
 oK c (cat [46] b) <|
 .ret (.inl ((cat c (cat [46] b)),(j,(Expr.mk 0 (false,([],([],()))) [] [])))))
  (λ(k,l) =>
 .ret (.inr (k,(l,(Expr.mk 0 (false,([],([],()))) [] []))))))
  (oK [46] b <|
 oK c (cat [46] b) <|
 .ret (.inl ((cat c (cat [46] b)),(f,(Expr.mk 0 (false,([],([],()))) [] []))))))
  (.ret (.inl (c,(a,(Expr.mk 0 (false,([],([],()))) [] []))))):T ((zf×zc×AM.Expr)⊕(zR×zc×AM.Expr))) <|
 Sum.elim (λ(h,d,o) =>
 .ite (decide (400<(h.length:Int)))
  (.ret (.inl ((Expr.mk 1 (false,([],([],()))) [] []),(d.1,(d.2.1,(d.2.2.1,(true,())))))))
  (T.bind (yq h) λ(g,p) =>
 .ret (.inl ((Expr.mk 1 (g.1,(g.2.1,(g.2.2.1,()))) [] []),d))))
  (λ(m,n,q) =>
 .ret (.inr (m,n)))
def xO(V:zc->T ((AM.Expr×zc)⊕(zR×zc)))(W:zc->T ((AM.Expr×zc)⊕(zR×zc)))(X:zc):T ((AM.Expr×zc)⊕(zR×zc)) :=
 T.bind (qT [45,40] X) λ(h,a)=>let j:=(a,(Expr.mk 0 (false,([],([],()))) [] []));
 .ite (h==45)
  (T.bind (wu a) <|
 Sum.elim (λk =>
 T.bind (V k) <|
 Sum.elim (λ(l,c) =>
 .ret (.inl ((Expr.mk 7 (false,([],([],()))) [] [l]),(c.1,(c.2.1,((zF (c.2.2.1-1)),(c.2.2.2.1,())))))))
  (λ(m,n) =>
 .ret (.inr (m,n))))
  (λ(o,p) =>
 .ret (.inr (o,p))))
  (.ite (h==40)
  (T.bind (wu a) <|
 Sum.elim (λq =>
 T.bind (W q) <|
 Sum.elim (λ(r,s)=>let g:=((Expr.mk 0 (false,([],([],()))) [] []),r);
 T.bind (T.bind (qT [41] s) λ(t,e) =>
 .ite (t==0)
  (T.bind (xG 2 e.2.1 e) <|
 Sum.elim (λu =>
 .ret (.inl (u,g)))
  (λ(v,w) =>
 .ret (.inr (v,(w,g)))))
  (.ret (.inl (e,g))):T ((zc×AM.Expr×AM.Expr)⊕(zR×zc×AM.Expr×AM.Expr))) <|
 Sum.elim (λ(d,Y,x) =>
 .ret (.inl (x,(d.1,(d.2.1,((zF (d.2.2.1-1)),(d.2.2.2.1,())))))))
  (λ(y,z,Z,aa) =>
 .ret (.inr (y,z))))
  (λ(A,B) =>
 .ret (.inr (A,B))))
  (λ(C,D) =>
 .ret (.inr (C,D))))
  (T.bind (.ite (decide (a.2.1<(a.1.length:Int)))
  (oI a.2.1 a.1 <|
 T.bind (xD (qm a.1 a.2.1)) λE =>
 .ret (E,j))
  (.ret (false,j)):T ((Bool×zc×AM.Expr))) λ(G,b,i) =>
 .ite G
  (T.bind (vO b) <|
 Sum.elim (λ(H,I) =>
 .ret (.inl (H,I)))
  (λ(J,K) =>
 .ret (.inr (J,K))))
  (T.bind (.ite (decide (b.2.1<(b.1.length:Int)))
  (oI b.2.1 b.1 <|
 T.bind (wi (qm b.1 b.2.1)) λL =>
 .ret (L,(b,i)))
  (.ret (false,(b,i))):T ((Bool×zc×AM.Expr))) λ(M,f,ab) =>
 .ite M
  (T.bind (qU (λN=>wP N) 24 f) λ(O,P) =>
 .ret (.inl ((Expr.mk 2 (false,([],([],()))) O []),P)))
  (T.bind (xG 2 f.2.1 f) <|
 Sum.elim (λR =>
 .ret (.inl ((Expr.mk 0 (false,([],([],()))) [] []),R)))
  (λ(S,U) =>
 .ret (.inr (S,U)))))))
def xi(wq:zc->T ((AM.Expr×zc)⊕(zR×zc)))(p:zc):T ((AM.Expr×zc)⊕(zR×zc)):=T.fix (λF x=>xO (λy0=>F (y0)) wq x) p
def we(l:zc->T ((AM.Expr×zc)⊕(zR×zc)))(f:zf)(m:zR):(zc×AM.Expr×AM.Expr)->T ((zc×AM.Expr×AM.Expr)⊕((zc×AM.Expr×AM.Expr)⊕(zR×zc×AM.Expr×AM.Expr)))
 | (k,e,a) =>
 T.bind (qT f k) λ(b,c) =>
 .ite (b==0)
  (.ret (.inr (.inl (c,(a,a)))))
  (T.bind ((xi l) c) <|
 Sum.elim (λ(g,h) =>
 T.bind (strings_IndexByte f b) λd =>
 .zA (qu d 2) <|
 .ret (.inl (h,(e,(Expr.mk (nJ (.int .i64) xk m (Int.toNat d)) (false,([],([],()))) [] [a,g])))))
  (λ(i,j) =>
 .ret (.inr (.inr (i,(j,(e,a)))))))
def j6 wq Zt Vl s:=T.loop (we wq Zt Vl) s
def xx(a:zc->T ((AM.Expr×zc)⊕(zR×zc)))(p:(Unit))(j:zf)(k:zR)(l:zc):T ((AM.Expr×zc)⊕(zR×zc)) :=
 T.bind ((xi a) l) <|
 Sum.elim (λ(b,c) =>
 T.bind (j6 a j k (c,((Expr.mk 0 (false,([],([],()))) [] []),b))) <|
 Sum.elim (λ(d,e,m) =>
 .ret (.inl (e,d)))
  (λ(f,g,n,o) =>
 .ret (.inr (f,g))))
  (λ(h,i) =>
 .ret (.inr (h,i)))
def qW(e:zc->T ((AM.Expr×zc)⊕(zR×zc)))(f:zc):T ((AM.Expr×zc)⊕(zR×zc)) :=
 T.bind ((xx e) () [42,47] ((5:Int),((6:Int),())) f) <|
 Sum.elim (λ(a,b) =>
 .ret (.inl (a,b)))
  (λ(c,d) =>
 .ret (.inr (c,d)))
def w9(l:zc->T ((AM.Expr×zc)⊕(zR×zc)))(f:zf)(m:zR):(zc×AM.Expr×AM.Expr)->T ((zc×AM.Expr×AM.Expr)⊕((zc×AM.Expr×AM.Expr)⊕(zR×zc×AM.Expr×AM.Expr)))
 | (k,e,a) =>
 T.bind (qT f k) λ(b,c) =>
 .ite (b==0)
  (.ret (.inr (.inl (c,(a,a)))))
  (T.bind ((qW l) c) <|
 Sum.elim (λ(g,h) =>
 T.bind (strings_IndexByte f b) λd =>
 .zA (qu d 2) <|
 .ret (.inl (h,(e,(Expr.mk (nJ (.int .i64) xk m (Int.toNat d)) (false,([],([],()))) [] [a,g])))))
  (λ(i,j) =>
 .ret (.inr (.inr (i,(j,(e,a)))))))
def uR wq Zt Vl s:=T.loop (w9 wq Zt Vl) s
def xp(a:zc->T ((AM.Expr×zc)⊕(zR×zc)))(p:(Unit))(j:zf)(k:zR)(l:zc):T ((AM.Expr×zc)⊕(zR×zc)) :=
 T.bind ((qW a) l) <|
 Sum.elim (λ(b,c) =>
 T.bind (uR a j k (c,((Expr.mk 0 (false,([],([],()))) [] []),b))) <|
 Sum.elim (λ(d,e,m) =>
 .ret (.inl (e,d)))
  (λ(f,g,n,o) =>
 .ret (.inr (f,g))))
  (λ(h,i) =>
 .ret (.inr (h,i)))
def u7(e:zc->T ((AM.Expr×zc)⊕(zR×zc)))(f:zc):T ((AM.Expr×zc)⊕(zR×zc)) :=
 T.bind ((xp e) () [43,45] ((3:Int),((4:Int),())) f) <|
 Sum.elim (λ(a,b) =>
 .ret (.inl (a,b)))
  (λ(c,d) =>
 .ret (.inr (c,d)))
def vN(p:zc):T ((AM.Expr×zc)⊕(zR×zc)):=T.fix (λF x=>u7 (λy0=>F (y0)) x) p
def jC(a:AM.Expr)(b:Int)(c:Int):T (AM.Expr×Int×Int) :=
 .ite false
  (.fail)
  (.ret (a,(b,c)))
def uU(a:zR)(b:AM.Expr)(c:Int)(d:Int):T (AM.Expr×Int×Int) :=
 .ite true
  (.ite (!true)
  (.fail)
  (.ret ((Expr.mk 0 (false,([],([],()))) [] []),(a.2.1,a.1))))
  (.ret (b,(c,d)))
def uX(t:zc):T (AM.Expr×Int×Int×zc) :=
 T.bind (vN t) <|
 Sum.elim (λ(b,a) =>
 .ite (decide (a.2.1<(a.1.length:Int)))
  (T.bind (xG 2 a.2.1 a) <|
 Sum.elim (λc =>
 T.bind (jC b 0 0) λ(d,e,f) =>
 .ret (d,(e,(f,c))))
  (λ(g,h) =>
 T.bind (uU g b 0 0) λ(i,j,k) =>
 .ret (i,(j,(k,h)))))
  (T.bind (jC b 0 0) λ(l,m,n) =>
 .ret (l,(m,(n,a)))))
  (λ(o,p) =>
 T.bind (uU o (Expr.mk 0 (false,([],([],()))) [] []) 0 0) λ(q,r,s) =>
 .ret (q,(r,(s,p))))
def jt(i:zf):T (AM.Expr×Int×Int) :=
 T.bind (uX (i,((0:Int),((0:Int),(false,()))))) λ(a,e,b,c)=>let d:=((Expr.mk 0 (false,([],([],()))) [] []),(c,a));
 .ite (b != 0)
  (.ret ((Expr.mk 0 (false,([],([],()))) [] []),(e,b)))
  (T.bind (.ite c.2.2.2.1
  (.ret (true,d))
  (T.bind (vZ a) λf =>
 .ret ((!f),d)):T ((Bool×AM.Expr×zc×AM.Expr))) λ(g,j,k,h) =>
 .ite g
  (.ret ((Expr.mk 0 (false,([],([],()))) [] []),(0,3)))
  (.ret (h,(0,0))))
def strings_Contains(a:zf)(b:zf):T Bool :=
 .zA (a.length<4294967281) <|
 .ret (decide (0<=cn a b))
def vr(b:zf)(v:zf):T (AM.Expr×AM.Expr×zf×Int) :=
 T.bind (strings_IndexAny b [60,61]) λa=>let c:=wX (zF (a+1)) (b.length:Int) b;
 .ite (decide (a<0))
  (.ret ((Expr.mk 0 (false,([],([],()))) [] []),((Expr.mk 0 (false,([],([],()))) [] []),([],2))))
  (.zA (gj 0 a b.length) <|
 .zA (gj (zF (a+1)) (b.length:Int) b.length) <|
 .zA (gj a (zF (a+1)) b.length) <|
 T.bind (T.bind (.ite (zr (wX a (zF (a+1)) b) [60])
  (T.bind (strings_HasPrefix c [61]) λm =>
 .ret (m,((Expr.mk 0 (false,([],([],()))) [] []),(Expr.mk 0 (false,([],([],()))) [] []))))
  (.ret (false,((Expr.mk 0 (false,([],([],()))) [] []),(Expr.mk 0 (false,([],([],()))) [] [])))):T ((Bool×AM.Expr×AM.Expr))) λ(n,e,f) =>
 .ite n
  (.zA (gj 1 (c.length:Int) c.length) <|
 .ret ([60,61],((wX 1 (c.length:Int) c),(e,f))))
  (.ret ((wX a (zF (a+1)) b),(c,(e,f)))):T ((zf×zf×AM.Expr×AM.Expr))) λ(g,o,w,p) =>
 T.bind (jt (wX 0 a b)) λ(d,x,h) =>
 .ite (h != 0)
  (.ret (d,(p,([],h))))
  (T.bind (T.bind (jt o) λ(i,y,j) =>
 T.bind (.ite (j==0)
  (T.bind (strings_Contains v g) λq =>
 .ret ((!q),(d,i)))
  (.ret (false,(d,i))):T ((Bool×AM.Expr×AM.Expr))) λ(r,k,l) =>
 .ite r
  (.ret (2,(k,l)))
  (.ret (j,(k,l))):T ((Int×AM.Expr×AM.Expr))) λ(s,t,u) =>
 .ret (t,(u,(g,s)))))
def qJ(b:(List zf))(c:zf)(d:Int):Int->T (Int⊕(Unit⊕Int))
 | a =>
 .ite (decide (a<d))
  (oI a b <|
 .ite (zr c (nth b a (zj .str)))
  (.ret (.inr (.inr a)))
  (.ret (.inl (zF (a+1)))))
  (.ret (.inr (.inl ())))
def jT s1 v1 x s:=T.loop (qJ s1 v1 x) s
def qM(a:(List zf))(c:zf):T Int :=
 T.bind (jT a c (a.length:Int) 0) <|
 Sum.elim (λ_ =>
 .ret (-1))
  (λb =>
 .ret b)
def xY(b:(List zf))(c:zf):T Bool :=
 T.bind (qM b c) λa =>
 .ret (decide (0<=a))
def xV(a:(List zf))(b:Int)(c:Int)(d:zf):T Bool :=
 .zA ((((a.length:Int)==b)=true)->(qu c a.length)) <|
 .ret (((a.length:Int)==b)&&(zr (nth a c (zj .str)) d))
def jy(b:(List zf))(a:Int):T (zf×Bool) :=
 .ite ((b.length:Int)==a)
  (.ret ([],true))
  (T.bind (T.bind (xV b (zF (a+2)) a [119,104,101,110]) λc =>
 .ite c
  (oI (zF (a+1)) b <|
 T.bind (xg (nth b (zF (a+1)) (zj .str))) λd =>
 .ret d)
  (.ret false):T (Bool)) λe =>
 .ite e
  (oI (zF (a+1)) b <|
 .ret ((nth b (zF (a+1)) (zj .str)),true))
  (.ret ([],false)))
def wN(i:(List zf))(x:zf)(z:(Unit))(k:(List Switch))(l:(List Param))(j:(List xm))(m:(List Field))(n:(List xe))(o:(List Check)):T (Int×(Unit)×(List Switch)×(List Param)×(List xm)×(List Field)×(List xe)×(List Check)) :=
 let p:=((),(k,(l,(j,(m,(n,o))))));  T.bind (.ite ((i.length:Int) != 2)
  (oY k l j m n o <|
 .ret (true,p))
  (oI 1 i <|
 T.bind (xg (nth i 1 (zj .str))) λr =>
 .ite (!r)
  (oY k l j m n o <|
 .ret (true,p))
  (oY k l j m n o <|
 .ret (((j.length:Int)==0),p))):T ((Bool×(Unit)×(List Switch)×(List Param)×(List xm)×(List Field)×(List xe)×(List Check)))) λ(s,y,e,f,b,g,h,a) =>
 .ite s
  (oY e f b g h a <|
 .ret (2,((),(e,(f,(b,(g,(h,a))))))))
  (oI 1 i <|
 T.bind (vr x [60,61]) λ(c,d,t,u) =>
 T.bind (wy) λv =>
 T.bind (qM v t) λw=>let q:=a++([((nth i 1 (zj .str)),((zF ((b.length:Int)-1)),(w,((Expr.mk (Expr.kind c) ((Expr.num c).1,((Expr.num c).2.1,((Expr.num c).2.2.1,()))) (Expr.name c) (Expr.kids c)),((Expr.mk (Expr.kind d) ((Expr.num d).1,((Expr.num d).2.1,((Expr.num d).2.2.1,()))) (Expr.name d) (Expr.kids d)),())))))]:List Check);
 oA a 240 <|
 oC e <|
 oC f <|
 oC b <|
 oC g <|
 oC h <|
 .zA (vX (a.length+1) 0 (a.length+1) q.length) <|
 oE e <|
 oE f <|
 oE b <|
 oE g <|
 oE h <|
 .zA ((a.length+1)=q.length) <|
 .ret (u,((),(e,(f,(b,(g,(h,q))))))))
def wa(a:(List zf))(A:zf)(D:(Unit))(j:(List Switch))(k:(List Param))(l:(List xm))(m:(List Field))(n:(List xe))(o:(List Check)):T (Int×(Unit)×(List Switch)×(List Param)×(List xm)×(List Field)×(List xe)×(List Check)) :=
 let p:=((),(j,(k,(l,(m,(n,o))))));  T.bind (.ite (decide ((a.length:Int)<3))
  (oY j k l m n o <|
 .ret (true,p))
  (T.bind (xC) λr =>
 oI 1 a <|
 T.bind (xY r (nth a 1 (zj .str))) λs =>
 .ite (!s)
  (oY j k l m n o <|
 .ret (true,p))
  (oI 2 a <|
 T.bind (xg (nth a 2 (zj .str))) λt =>
 oY j k l m n o <|
 .ret ((!t),p))):T ((Bool×(Unit)×(List Switch)×(List Param)×(List xm)×(List Field)×(List xe)×(List Check)))) λ(u,B,c,d,e,f,b,g) =>
 .ite u
  (oY c d e f b g <|
 .ret (2,((),(c,(d,(e,(f,(b,g))))))))
  (T.bind (jy a 3) λ(v,w) =>
 .ite (!w)
  (oY c d e f b g <|
 .ret (2,((),(c,(d,(e,(f,(b,g))))))))
  (oI 2 a <|
 T.bind (xC) λx =>
 oI 1 a <|
 T.bind (qM x (nth a 1 (zj .str))) λy =>
 T.bind (vr A [61]) λ(h,i,C,z)=>let q:=b++([((nth a 2 (zj .str)),(y,(v,((Expr.mk (Expr.kind h) ((Expr.num h).1,((Expr.num h).2.1,((Expr.num h).2.2.1,()))) (Expr.name h) (Expr.kids h)),((Expr.mk (Expr.kind i) ((Expr.num i).1,((Expr.num i).2.1,((Expr.num i).2.2.1,()))) (Expr.name i) (Expr.kids i)),())))))]:List xe);
 oA b 248 <|
 oC c <|
 oC d <|
 oC e <|
 oC f <|
 .zA (vX (b.length+1) 0 (b.length+1) q.length) <|
 oC g <|
 oE c <|
 oE d <|
 oE e <|
 oE f <|
 .zA ((b.length+1)=q.length) <|
 oE g <|
 .ret (z,((),(c,(d,(e,(f,(q,g)))))))))
def ur(a:(List zf))(s:(Unit))(h:(List Switch))(i:(List Param))(j:(List xm))(k:(List Field))(l:(List xe))(m:(List Check)):T (Bool×(Unit)×(List Switch)×(List Param)×(List xm)×(List Field)×(List xe)×(List Check)) :=
 let n:=((),(h,(i,(j,(k,(l,m))))));  T.bind (.ite ((a.length:Int) != 3)
  (oY h i j k l m <|
 .ret (true,n))
  (oI 1 a <|
 T.bind (xg (nth a 1 (zj .str))) λp =>
 .ite (!p)
  (oY h i j k l m <|
 .ret (true,n))
  (oI 2 a <|
 .ite (!(zr (nth a 2 (zj .str)) [111,110]))
  (oI 2 a <|
 oY h i j k l m <|
 .ret ((!(zr (nth a 2 (zj .str)) [111,102,102])),n))
  (oY h i j k l m <|
 .ret (false,n)))):T ((Bool×(Unit)×(List Switch)×(List Param)×(List xm)×(List Field)×(List xe)×(List Check)))) λ(q,r,b,c,d,e,f,g)=>let o:=b++([((nth a 1 (zj .str)),((zr (nth a 2 (zj .str)) [111,110]),()))]:List Switch);
 .ite q
  (oY b c d e f g <|
 .ret (false,((),(b,(c,(d,(e,(f,g))))))))
  (oI 1 a <|
 oI 2 a <|
 oA b 24 <|
 .zA (vX (b.length+1) 0 (b.length+1) o.length) <|
 oC c <|
 oC d <|
 oC e <|
 oC f <|
 oC g <|
 .zA ((b.length+1)=o.length) <|
 oE c <|
 oE d <|
 oE e <|
 oE f <|
 oE g <|
 .ret (true,((),(o,(c,(d,(e,(f,g))))))))
def vI(b:(List zf))(t:(Unit))(h:(List Switch))(i:(List Param))(j:(List xm))(k:(List Field))(l:(List xe))(m:(List Check)):T (Bool×(Unit)×(List Switch)×(List Param)×(List xm)×(List Field)×(List xe)×(List Check)) :=
 T.bind (.ite ((b.length:Int) != 3)
  (oY h i j k l m <|
 .ret (true,((),(h,(i,(j,(k,(l,m))))))))
  (oI 1 b <|
 T.bind (xg (nth b 1 (zj .str))) λp =>
 oY h i j k l m <|
 .ret ((!p),((),(h,(i,(j,(k,(l,m)))))))):T ((Bool×(Unit)×(List Switch)×(List Param)×(List xm)×(List Field)×(List xe)×(List Check)))) λ(q,s,c,a,d,e,f,g) =>
 .ite q
  (oY c a d e f g <|
 .ret (false,((),(c,(a,(d,(e,(f,g))))))))
  (oI 2 b <|
 T.bind (yq (nth b 2 (zj .str))) λ(n,r)=>let o:=a++([((nth b 1 (zj .str)),((n.1,(n.2.1,(n.2.2.1,()))),()))]:List Param);
 oI 1 b <|
 oA a 72 <|
 oC c <|
 .zA (vX (a.length+1) 0 (a.length+1) o.length) <|
 oC d <|
 oC e <|
 oC f <|
 oC g <|
 oE c <|
 .zA ((a.length+1)=o.length) <|
 oE d <|
 oE e <|
 oE f <|
 oE g <|
 .ret ((r==0),((),(c,(o,(d,(e,(f,g))))))))
def vo(b:(List zf))(t:(Unit))(h:(List Switch))(i:(List Param))(j:(List xm))(k:(List Field))(l:(List xe))(m:(List Check)):T (Bool×(Unit)×(List Switch)×(List Param)×(List xm)×(List Field)×(List xe)×(List Check)) :=
 T.bind (.ite (decide ((b.length:Int)<2))
  (oY h i j k l m <|
 .ret (true,((),(h,(i,(j,(k,(l,m))))))))
  (oI 1 b <|
 T.bind (xg (nth b 1 (zj .str))) λo =>
 oY h i j k l m <|
 .ret ((!o),((),(h,(i,(j,(k,(l,m)))))))):T ((Bool×(Unit)×(List Switch)×(List Param)×(List xm)×(List Field)×(List xe)×(List Check)))) λ(p,s,c,d,a,e,f,g) =>
 .ite p
  (oY c d a e f g <|
 .ret (false,((),(c,(d,(a,(e,(f,g))))))))
  (T.bind (jy b 2) λ(q,r)=>let n:=a++([((nth b 1 (zj .str)),(q,()))]:List xm);
 oI 1 b <|
 oA a 32 <|
 oC c <|
 oC d <|
 .zA (vX (a.length+1) 0 (a.length+1) n.length) <|
 oC e <|
 oC f <|
 oC g <|
 oE c <|
 oE d <|
 .zA ((a.length+1)=n.length) <|
 oE e <|
 oE f <|
 oE g <|
 .ret (r,((),(c,(d,(n,(e,(f,g))))))))
def vR(a:(List zf))(aa:(Unit))(A:(List Switch))(B:(List Param))(s:(List xm))(C:(List Field))(D:(List xe))(E:(List Check)):T (Bool×(Unit)×(List Switch)×(List Param)×(List xm)×(List Field)×(List xe)×(List Check)) :=
 let N:=((),(A,(B,(s,(C,(D,E)))))); let b:=(a.length:Int);  T.bind (.ite (decide (b<2))
  (oY A B s C D E <|
 .ret (true,N))
  (oI 1 a <|
 T.bind (xg (nth a 1 (zj .str))) λO =>
 .ite (!O)
  (oY A B s C D E <|
 .ret (true,N))
  (oY A B s C D E <|
 .ret (((s.length:Int)==0),N))):T ((Bool×(Unit)×(List Switch)×(List Param)×(List xm)×(List Field)×(List xe)×(List Check)))) λ(P,W,g,h,c,i,j,k) =>
 .ite P
  (oY g h c i j k <|
 .ret (false,((),(g,(h,(c,(i,(j,k))))))))
  (oI 1 a <|
 .zA (gj 2 b a.length) <|
 T.bind (.zA (((decide (0<(Nat.cast (wY (e:=.str) 2 b a).length:Int)))=true)->(qu 0 (wY (e:=.str) 2 b a).length)) <|
 .ite ((decide (0<(Nat.cast (wY (e:=.str) 2 b a).length:Int)))&&(zr (nth (wY (e:=.str) 2 b a) 0 (zj .str)) [109,117,115,116]))
  (.zA (gj 1 (Nat.cast (wY (e:=.str) 2 b a).length:Int) (wY (e:=.str) 2 b a).length) <|
 oY g h c i j k <|
 .ret ((wY (e:=.str) 1 (Nat.cast (wY (e:=.str) 2 b a).length:Int) (wY (e:=.str) 2 b a)),((),(g,(h,(c,(i,(j,(k,((nth a 1 (zj .str)),((zF ((c.length:Int)-1)),(true,((0:Int),())))))))))))))
  (oY g h c i j k <|
 .ret ((wY (e:=.str) 2 b a),((),(g,(h,(c,(i,(j,(k,((nth a 1 (zj .str)),((zF ((c.length:Int)-1)),(false,((0:Int),()))))))))))))):T (((List zf)×(Unit)×(List Switch)×(List Param)×(List xm)×(List Field)×(List xe)×(List Check)×Field))) λ(d,X,m,n,o,p,q,r,R)=>let l:=nth d 1 (zj .str); let G:=((),(m,(n,(o,(p,(q,(r,R)))))));
 T.bind (T.bind (T.bind (xV d 2 0 [115,99,97,108,101]) λS =>
 .ite S
  (oI 1 d <|
 .ite ((l.length:Int)==1)
  (oI 1 d <|
 .ite (!(strLt l [48]))
  (oI 1 d <|
 oY m n o p q r <|
 .ret (((strLt l [57])||(zr l [57])),G))
  (oY m n o p q r <|
 .ret (false,G)))
  (oY m n o p q r <|
 .ret (false,G)))
  (oY m n o p q r <|
 .ret (false,G)):T ((Bool×(Unit)×(List Switch)×(List Param)×(List xm)×(List Field)×(List xe)×(List Check)×Field))) λ(U,Y,t,u,v,w,x,y,z) =>
 .ite U
  (oI 1 d <|
 oI 0 l <|
 oY t u v w x y <|
 .ret ([],((),(t,(u,(v,(w,(x,(y,(z.1,(z.2.1,(z.2.2.1,((zF (YE ((qm l 0)-48))),())))))))))))))
  (oY t u v w x y <|
 .ret (d,((),(t,(u,(v,(w,(x,(y,z))))))))):T (((List zf)×(Unit)×(List Switch)×(List Param)×(List xm)×(List Field)×(List xe)×(List Check)×Field))) λ(V,Z,H,I,J,f,K,L,M) =>
 oA f 40 <|
 oC H <|
 oC I <|
 oC J <|
 .zA (vX (f.length+1) 0 (f.length+1) (f++[M]).length) <|
 oC K <|
 oC L <|
 oE H <|
 oE I <|
 oE J <|
 .zA ((f.length+1)=(f++[M]).length) <|
 oE K <|
 oE L <|
 .ret (((V.length:Int)==0),((),(H,(I,(J,((f++[M]),(K,L))))))))
def c7(ag:zf)(an:(Unit))(b:(List Switch))(c:(List Param))(d:(List xm))(e:(List Field))(f:(List xe))(g:(List Check)):T (Int×(Unit)×(List Switch)×(List Param)×(List xm)×(List Field)×(List xe)×(List Check)) :=
 let j:=((),(b,(c,(d,(e,(f,g))))));  T.bind (strings_Cut ag [58]) λ(Z,K,i) =>
 T.bind (dR Z) λa=>let J:=decide (0<(a.length:Int)); let h:=nth a 0 (zj .str);
 .zA (((((a.length:Int)==0)=true)->(((!i)=false)->((J=true)->((qu 0 a.length)/\(qu 0 h.length)))))/\((((a.length:Int)==0)=false)->((J=true)->((qu 0 a.length)/\(qu 0 h.length))))) <|
 .ite (bif ((a.length:Int)==0)then((!i)||(J&&((qm h 0)==35)))else(J&&((qm h 0)==35)))
  (oY b c d e f g <|
 .ret (0,j))
  (.ite ((a.length:Int)==0)
  (.ite (!false)
  (oY b c d e f g <|
 .ret (2,j))
  (oY b c d e f g <|
 .ret (0,j)))
  (.zA ((i=true)->(qu 0 a.length)) <|
 .ite (i&&(zr h [99,104,101,99,107]))
  (oY b c d e f g <|
 T.bind (wN a K () b c d e f g) λ(aa,ah,L,M,N,O,P,R) =>
 oY L M N O P R <|
 .ret (aa,((),(L,(M,(N,(O,(P,R))))))))
  (.zA ((i=true)->(qu 0 a.length)) <|
 .ite (i&&(zr h [114,117,108,101]))
  (oY b c d e f g <|
 T.bind (wa a K () b c d e f g) λ(ab,ai,S,U,V,W,X,Y) =>
 oY S U V W X Y <|
 .ret (ab,((),(S,(U,(V,(W,(X,Y))))))))
  (.ite i
  (.ite (!false)
  (oY b c d e f g <|
 .ret (2,j))
  (oY b c d e f g <|
 .ret (0,j)))
  (oI 0 a <|
 .ite (zr h [115,119,105,116,99,104])
  (oY b c d e f g <|
 T.bind (ur a () b c d e f g) λ(ac,aj,k,l,m,n,o,p) =>
 .ite (!ac)
  (oY k l m n o p <|
 .ret (2,((),(k,(l,(m,(n,(o,p))))))))
  (oY k l m n o p <|
 .ret (0,((),(k,(l,(m,(n,(o,p)))))))))
  (oI 0 a <|
 .ite (zr h [112,97,114,97,109])
  (oY b c d e f g <|
 T.bind (vI a () b c d e f g) λ(ad,ak,q,r,s,t,u,v) =>
 .ite (!ad)
  (oY q r s t u v <|
 .ret (2,((),(q,(r,(s,(t,(u,v))))))))
  (oY q r s t u v <|
 .ret (0,((),(q,(r,(s,(t,(u,v)))))))))
  (oI 0 a <|
 .ite (zr h [112,97,103,101])
  (oY b c d e f g <|
 T.bind (vo a () b c d e f g) λ(ae,al,w,x,y,z,A,B) =>
 .ite (!ae)
  (oY w x y z A B <|
 .ret (2,((),(w,(x,(y,(z,(A,B))))))))
  (oY w x y z A B <|
 .ret (0,((),(w,(x,(y,(z,(A,B)))))))))
  (oI 0 a <|
 .ite (zr h [102,105,101,108,100])
  (oY b c d e f g <|
 T.bind (vR a () b c d e f g) λ(af,am,C,D,E,G,H,I) =>
 .ite (!af)
  (oY C D E G H I <|
 .ret (2,((),(C,(D,(E,(G,(H,I))))))))
  (oY C D E G H I <|
 .ret (0,((),(C,(D,(E,(G,(H,I)))))))))
  (.ite (!false)
  (oY b c d e f g <|
 .ret (2,j))
  (oY b c d e f g <|
 .ret (0,j)))))))))))
def ja(u:(List zf))(w:Int):(Int×(Unit)×(Unit)×(List Check)×(List Check)×(List xe)×(List xe)×(List Switch)×(List Switch)×(List Param)×(List Param)×(List xm)×(List xm)×(List Field)×(List Field))->T ((Int×(Unit)×(Unit)×(List Check)×(List Check)×(List xe)×(List xe)×(List Switch)×(List Switch)×(List Param)×(List Param)×(List xm)×(List xm)×(List Field)×(List Field))⊕(((Unit)×(Unit)×(List Check)×(List Check)×(List xe)×(List xe)×(List Switch)×(List Switch)×(List Param)×(List Param)×(List xm)×(List xm)×(List Field)×(List Field))⊕(Int×Int×Form×(Unit)×(List Check)×(List Check)×(List xe)×(List xe)×(List Switch)×(List Switch)×(List Param)×(List Param)×(List xm)×(List xm)×(List Field)×(List Field))))
 | (m,y,z,a,n,b,o,c,p,d,q,e,r,f,s) =>
 .ite (decide (m<w))
  (oI m u <|
 oY p q r s o n <|
 T.bind (c7 (nth u m (zj .str)) () p q r s o n) λ(t,x,g,h,i,j,k,l)=>let v:=((),(a,(l,(b,(k,(c,(g,(d,(h,(e,(i,(f,j))))))))))));
 .ite (t != 0)
  (oV g h i j k l <|
 oW a l b k c g <|
 oW d h e i f j <|
 .ret (.inr (.inr ((zF (m+1)),(t,((([]:List Switch),(([]:List Param),(([]:List xm),(([]:List Field),(([]:List xe),(([]:List Check),())))))),v))))))
  (oV c d e f b a <|
 oV g h i j k l <|
 oW a l b k c g <|
 oW d h e i f j <|
 .ret (.inl ((zF (m+1)),((),v)))))
  (oV c d e f b a <|
 oV p q r s o n <|
 oW a n b o c p <|
 oW d q e r f s <|
 .ret (.inr (.inl ((),((),(a,(n,(b,(o,(c,(p,(d,(q,(e,(r,(f,s))))))))))))))))
def cQ x x1 s:=T.loop (ja x x1) s
def bn(h:zf):T (Form×Int×Int) :=
 .ite (decide (16384<(h.length:Int)))
  (.ret ((([]:List Switch),(([]:List Param),(([]:List xm),(([]:List Field),(([]:List xe),(([]:List Check),())))))),(0,3)))
  (T.bind (strings_Split h [10]) λg =>
 .zA (vX 0 0 0 0) <|
 .zA (vX 0 0 0 0) <|
 .zA (vX 0 0 0 0) <|
 .zA (vX 0 0 0 0) <|
 .zA (vX 0 0 0 0) <|
 .zA (vX 0 0 0 0) <|
 .zA (vX 0 0 0 0) <|
 .zA (vX 0 0 0 0) <|
 .zA (vX 0 0 0 0) <|
 .zA (vX 0 0 0 0) <|
 .zA (vX 0 0 0 0) <|
 oZ <|
 .zA (0=0) <|
 .zA (0=0) <|
 .zA (0=0) <|
 .zA (0=0) <|
 .zA (0=0) <|
 .zA (0=0) <|
 .zA (0=0) <|
 .zA (0=0) <|
 .zA (0=0) <|
 .zA (0=0) <|
 .zA (0=0) <|
 T.bind (cQ g (g.length:Int) (0,((),((),([],([],([],([],([],([],([],([],([],([],([],[]))))))))))))))) <|
 Sum.elim (λ(n,o,p,a,q,b,r,c,s,d,t,e,u,f)=>let i:=((List.drop 0 (List.take (0+c.length) c)),((List.drop 0 (List.take (0+d.length) d)),((List.drop 0 (List.take (0+e.length) e)),((List.drop 0 (List.take (0+f.length) f)),((List.drop 0 (List.take (0+b.length) b)),((List.drop 0 (List.take (0+a.length) a)),()))))));
 oW c d e f b a <|
 T.bind (kH i) λj =>
 .ite (!j)
  (.ret ((([]:List Switch),(([]:List Param),(([]:List xm),(([]:List Field),(([]:List xe),(([]:List Check),())))))),(0,2)))
  (oW c d e f b a <|
 .ret (i,(0,0))))
  (λ(k,l,m,v,w,x,y,z,A,B,C,D,E,G,H,I) =>
 .ret (m,(k,l))))
def dz  : T Bool :=
 T.bind (bn [112,97,103,101,32,112,10,102,105,101,108,100,32,32,97,32,109,117,115,116,10,114,117,108,101,32,119,101,97,107,32,114,58,97,61,50,10]) λ(a,b,c) =>
 .ite (c==0)
  (.ite (b==0)
  (T.bind (vQ a) λd =>
 .ret (zr d [112,97,103,101,32,112,10,102,105,101,108,100,32,97,32,109,117,115,116,10,114,117,108,101,32,119,101,97,107,32,114,32,58,32,97,32,61,32,50,10]))
  (.ret false))
  (.ret false)
def jO(a:Form)(s:Int)(e:Int):T Bool :=
 let g:=Int.tmod (fa .i64 s 1023) (a.2.2.2.1.length:Int); let b:=0+a.2.2.2.1.length; let d:=0+(Int.toNat g); let c:=jF a.2.2.2.1 d (zj zL); let f:=(a.1,(a.2.1,(a.2.2.1,((List.drop 0 (List.take (0+b) (List.set a.2.2.2.1 d (c.1,((zF ((a.2.2.1.length:Int)+(fa .i64 e 7))),(c.2.2.1,(c.2.2.2.1,()))))))),(a.2.2.2.2.1,(a.2.2.2.2.2.1,()))))));  T.bind (T.bind (du a) λi =>
 .ite i
  (.ret true)
  (T.bind (X4 a) λj =>
 .ite (!j)
  (.ret true)
  (.ret ((a.2.2.2.1.length:Int)==0))):T (Bool)) λk =>
 .ite k
  (.ret true)
  (.zA ((a.2.2.2.1.length:Int)≠0) <|
 .zA (ZX 0 0 0 0 0 a.2.2.2.1.length 40) <|
 .zA (qu g b) <|
 .zA (fU b b d a.2.2.2.1.length) <|
 .zA (ZX 0 0 0 0 0 a.2.2.2.1.length 40) <|
 .zA (qu g b) <|
 .zA (fU b b d a.2.2.2.1.length) <|
 T.bind (kH a) λl =>
 .ite l
  (.zA (b=b) <|
 T.bind (kH (a.1,(a.2.1,(a.2.2.1,((List.drop 0 (List.take (0+b) (List.set a.2.2.2.1 d (c.1,(c.2.1,(c.2.2.1,(e,()))))))),(a.2.2.2.2.1,(a.2.2.2.2.2.1,()))))))) λh =>
 .ite (decide (0<=e))
  (.ite (h==(decide (e<=9)))
  (.zA (b=b) <|
 T.bind (kH f) λm =>
 .ite (!m)
  (.zA (b=b) <|
 T.bind (vQ f) λn =>
 .ite (zr n [])
  (T.bind (dz) λo =>
 .ret o)
  (.ret false))
  (.ret false))
  (.ret false))
  (.ite (h==false)
  (.zA (b=b) <|
 T.bind (kH f) λp =>
 .ite (!p)
  (.zA (b=b) <|
 T.bind (vQ f) λq =>
 .ite (zr q [])
  (T.bind (dz) λr =>
 .ret r)
  (.ret false))
  (.ret false))
  (.ret false)))
  (.ret false))

abbrev ZZ:Ty:=(.cons (.int .i64) (.cons (.int .i64) .nil))
abbrev vE:=den ZZ
end Go.AM.Lf
