/-
  The program's functions as trees in plain Lean, part 0: printed by a program of ours.
-/
import Derived.Test.YthhgaidlooddpaaGreatDoorAmA
set_option linter.unusedVariables false
noncomputable section
namespace Go.AM.Lf
abbrev c8:Ty:=(.cons .str .nil)
abbrev EO:=den c8
abbrev cF:Ty:=(.cons .str (.cons (.int .u64) .nil))
abbrev UC:=den cF
abbrev zx:Ty:=(.cons .str (.cons .bool .nil))
abbrev Switch:=den zx
abbrev zV:Ty:=(.cons .str c8)
abbrev xj:=den zV
abbrev xo:Ty:=(.cons (.int .i64) (.cons (.int .i64) .nil))
abbrev zX:=den xo
abbrev dU:Ty:=(.cons (.int .u8) (.cons (.int .u8) .nil))
abbrev Kb:=den dU
abbrev nZ:Ty:=(.cons (.int .i64) (.cons (.int .i64) (.cons .bool (.cons (.int .u8) .nil))))
abbrev DS:=den nZ
abbrev ve:Ty:=(.cons .bool (.cons (.sl (.int .u32)) (.cons (.sl (.int .u32)) .nil)))
abbrev Rat:=den ve
abbrev zN:Ty:=(.cons .str (.cons (.int .i64) (.cons .bool (.cons (.int .i64) .nil))))
abbrev Field:=den zN
abbrev zK:Ty:=(.cons .str (.cons (.int .i64) (.cons (.int .i64) (.cons .bool .nil))))
abbrev zc:=den zK
abbrev q8:Ty:=(.cons .str (.cons (.int .i64) (.cons .str (.cons .expr (.cons .expr .nil)))))
abbrev qH:=den q8
abbrev zU:Ty:=(.cons .str (.cons (.int .i64) (.cons (.int .i64) (.cons .expr (.cons .expr .nil)))))
abbrev Check:=den zU
abbrev zM:Ty:=(.cons .str (.cons ve .nil))
abbrev Param:=den zM
abbrev Ka:Ty:=(.cons .str (.cons (.int .i64) (.cons (.int .i64) (.cons (.int .i64) (.cons (.int .i64) (.cons .bool .nil))))))
abbrev z5l:=den Ka
abbrev qc:Ty:=(.cons (.sl zx) (.cons (.sl zM) (.cons (.sl zV) (.cons (.sl zN) (.cons (.sl q8) (.cons (.sl zU) .nil))))))
abbrev Form:=den qc
def jI(e:AM.Expr->Int->T Int)(c:AM.Expr):(Int×Int)->T ((Int×Int)⊕(Int))
 | (b,a) =>
 .ite ((decide (a<((Expr.kids c).length:Int)))&&(decide (0<=b)))
  (oI a (Expr.kids c) <|
 T.bind (e (nth (Expr.kids c) a (zk .expr)) b) λd =>
 .ret (.inl (d,(zF (a+1)))))
  (.ret (.inr b))
def od self_law6_weight e1 s:=T.loop (jI self_law6_weight e1) s
def bM(c:AM.Expr->Int->T Int)(a:AM.Expr)(d:Int):T Int :=
 T.bind (od c a ((zF ((zF ((zF ((zF (d-3))-((Expr.name a).length:Int)))-(zF (8*(Nat.cast (List.length (Expr.num a).2.1):Int)))))-(zF (8*(Nat.cast (List.length (Expr.num a).2.2.1):Int))))),0)) λb =>
 .ret b
def jx(e:AM.Expr)(left:Int):T Int:=T.fix (λF x=>bM (λy0 y1=>F (y0,y1)) x.1 x.2) (e,left)
def kZ(b:Form):(Int×Int)->T ((Int×Int)⊕(Int))
 | (c,a) =>
 .ite ((decide (a<(b.2.1.length:Int)))&&(decide (0<=c)))
  (oI a b.2.1 <|
 oI a b.2.1 <|
 oI a b.2.1 <|
 .ret (.inl ((zF ((zF ((zF (c-(zF (8*(Nat.cast (List.length (nth b.2.1 a (zk zM)).2.1.2.1):Int)))))-(zF (8*(Nat.cast (List.length (nth b.2.1 a (zk zM)).2.1.2.2.1):Int)))))-(Nat.cast (List.length (nth b.2.1 a (zk zM)).1):Int))),(zF (a+1)))))
  (.ret (.inr c))
def sR f1 s:=T.loop (kZ f1) s
def kT(c:Form):(Int×Int)->T ((Int×Int)⊕(Int))
 | (b,a) =>
 .ite ((decide (a<(c.1.length:Int)))&&(decide (0<=b)))
  (oI a c.1 <|
 .ret (.inl ((zF (b-(Nat.cast (List.length (nth c.1 a (zk zx)).1):Int))),(zF (a+1)))))
  (.ret (.inr b))
def sP f2 s:=T.loop (kT f2) s
def kR(b:Form):(Int×Int)->T ((Int×Int)⊕(Int))
 | (c,a) =>
 .ite ((decide (a<(b.2.2.1.length:Int)))&&(decide (0<=c)))
  (oI a b.2.2.1 <|
 oI a b.2.2.1 <|
 .ret (.inl ((zF ((zF (c-(Nat.cast (List.length (nth b.2.2.1 a (zk zV)).1):Int)))-(Nat.cast (List.length (nth b.2.2.1 a (zk zV)).2.1):Int))),(zF (a+1)))))
  (.ret (.inr c))
def sN f3 s:=T.loop (kR f3) s
def y7(c:Form):(Int×Int)->T ((Int×Int)⊕(Int))
 | (b,a) =>
 .ite ((decide (a<(c.2.2.2.1.length:Int)))&&(decide (0<=b)))
  (oI a c.2.2.2.1 <|
 .ret (.inl ((zF (b-(Nat.cast (List.length (nth c.2.2.2.1 a (zk zN)).1):Int))),(zF (a+1)))))
  (.ret (.inr b))
def sC f4 s:=T.loop (y7 f4) s
def y3(b:Form):(Int×Int)->T ((Int×Int)⊕(Int))
 | (d,a)=>let c:=nth b.2.2.2.2.1 a (zk q8);
 .ite ((decide (a<(b.2.2.2.2.1.length:Int)))&&(decide (0<=d)))
  (oI a b.2.2.2.2.1 <|
 oI a b.2.2.2.2.1 <|
 oI a b.2.2.2.2.1 <|
 oI a b.2.2.2.2.1 <|
 T.bind (jx c.2.2.2.1 (zF ((zF (d-(c.1.length:Int)))-(c.2.2.1.length:Int)))) λe =>
 T.bind (jx c.2.2.2.2.1 e) λf =>
 .ret (.inl (f,(zF (a+1)))))
  (.ret (.inr d))
def sy f5 s:=T.loop (y3 f5) s
def kW(b:Form):(Int×Int)->T ((Int×Int)⊕(Int))
 | (c,a)=>let d:=nth b.2.2.2.2.2.1 a (zk zU);
 .ite ((decide (a<(b.2.2.2.2.2.1.length:Int)))&&(decide (0<=c)))
  (oI a b.2.2.2.2.2.1 <|
 oI a b.2.2.2.2.2.1 <|
 oI a b.2.2.2.2.2.1 <|
 T.bind (jx d.2.2.2.1 (zF (c-(d.1.length:Int)))) λe =>
 T.bind (jx d.2.2.2.2.1 e) λf =>
 .ret (.inl (f,(zF (a+1)))))
  (.ret (.inr c))
def sZ f6 s:=T.loop (kW f6) s
def eL(a:Form):T Bool :=
 T.bind (sR a ((zF (600-(zF (20*(zF ((zF ((zF ((zF ((zF ((a.1.length:Int)+(a.2.1.length:Int)))+(a.2.2.1.length:Int)))+(a.2.2.2.1.length:Int)))+(a.2.2.2.2.1.length:Int)))+(a.2.2.2.2.2.1.length:Int))))))),0)) λb =>
 T.bind (sP a (b,0)) λc =>
 T.bind (sN a (c,0)) λd =>
 T.bind (sC a (d,0)) λe =>
 T.bind (sy a (e,0)) λf =>
 T.bind (sZ a (f,0)) λg =>
 .ret (decide (g<0))
def jK(a:Int):T Bool :=
 .ret ((decide (97<=a))&&(decide (a<=122)))
def mJ(a:Int):T Bool :=
 .ret ((decide (48<=a))&&(decide (a<=57)))
def kf(b:ze):Int->T (Int⊕(Unit⊕Bool))
 | a =>
 .ite (decide (a<(b.length:Int)))
  (T.bind (oI a b <|
 T.bind (jK (qo b a)) λc =>
 .ite (!c)
  (oI a b <|
 T.bind (mJ (qo b a)) λd =>
 .ite (!d)
  (oI a b <|
 .ret ((qo b a) != 95))
  (.ret false))
  (.ret false):T (Bool)) λe =>
 .ite e
  (.ret (.inr (.inr false)))
  (.ret (.inl (zF (a+1)))))
  (.ret (.inr (.inl ())))
def Qo s1 s:=T.loop (kf s1) s
def u6(a:ze):T Bool :=
 T.bind (.ite (decide ((a.length:Int)<1))
  (.ret true)
  (.ite (decide (24<(a.length:Int)))
  (.ret true)
  (oI 0 a <|
 T.bind (jK (qo a 0)) λb =>
 .ret (!b))):T (Bool)) λc =>
 .ite c
  (.ret false)
  (T.bind (Qo a 1) <|
 Sum.elim (λ_ =>
 .ret true)
  (λd =>
 .ret d))
def gy(b:(List Int)):Int->T (Int⊕(Int))
 | a =>
 .zL (((decide (0<a))=true)->(qw (zF (a-1)) b.length)) <|
 .ite ((decide (0<a))&&((nth b (zF (a-1)) (zk (.int .u32)))==0))
  (.ret (.inl (zF (a-1))))
  (.ret (.inr a))
def Qc a1 s:=T.loop (gy a1) s
def qM(a:(List Int)):T (List Int) :=
 T.bind (Qc a (a.length:Int)) λb =>
 .zL (yY 0 b a.length) <|
 .zL (YJ 0 0 0 0 0 (va (e:=(.int .u32)) 0 b a).length 4) <|
 .zL ((0+(va (e:=(.int .u32)) 0 b a).length)=(0+(va (e:=(.int .u32)) 0 b a).length)) <|
 .ret (List.drop 0 (List.take (0+(0+(va (e:=(.int .u32)) 0 b a).length)) (va (e:=(.int .u32)) 0 b a)))
def eC(c:(List Int)):(Int×Int)->T ((Int×Int)⊕(Int))
 | (b,a) =>
 .ite (decide (0<=a))
  (.zL (0<=(32:Int)) <|
 oI a c <|
 .ret (.inl ((Z6 .u64 (yt .u64 b 32) (zO (nth c a (zk (.int .u32))))),(zF (a-1)))))
  (.ret (.inr b))
def Jo t1 s:=T.loop (eC t1) s
def ZP(c:(List Int)):T (Int×Bool) :=
 T.bind (qM c) λa =>
 .ite (decide (2<(a.length:Int)))
  (.ret (0,false))
  (T.bind (Jo a (0,(zF ((a.length:Int)-1)))) λb =>
 .ret (b,true))
def sb(a:Int):T (List Int) :=
 .zL (0<=(32:Int)) <|
 T.bind (qM ([(xR a),(xR (wH .u64 a 32))]:List Int)) λb =>
 .ret b
def bV(e:(List Int))(c:Int):(Int×Int×(List Int))->T ((Int×Int×(List Int))⊕((Int×(List Int))))
 | (d,b,a)=>let f:=List.set a (0+(Int.toNat b)) (xR (zO (Int.tdiv (Z6 .u64 (yt .u64 d 32) (zO (nth e b (zk (.int .u32))))) c)));
 .ite (decide (0<=b))
  (.zL (0<=(32:Int)) <|
 oI b e <|
 .zL (c≠0) <|
 oI b a <|
 .zL (n9 a.length a.length (0+(Int.toNat b)) a.length) <|
 .zL (c≠0) <|
 oM a.length f.length <|
 .ret (.inl ((Int.tmod (Z6 .u64 (yt .u64 d 32) (zO (nth e b (zk (.int .u32))))) c),((zF (b-1)),f))))
  (oC a <|
 oE a <|
 .ret (.inr (d,a)))
def sU a1 by_1 s:=T.loop (bV a1 by_1) s
def bJ(a:(List Int))(e:Int):T ((List Int)×Int) :=
 .zL (QU (a.length:Int) (a.length:Int) 4) <|
 oM (Int.toNat (a.length:Int)) (List.replicate (Int.toNat (a.length:Int)) (0:Int)).length <|
 T.bind (sU a e (0,((zF ((a.length:Int)-1)),(List.replicate (Int.toNat (a.length:Int)) 0)))) λ(c,b) =>
 oE b <|
 T.bind (qM (List.drop 0 (List.take (0+b.length) b))) λd =>
 .ret (d,c)
def gq(a:(List Int))(b:Int):T Int :=
 .ite (decide (b<(a.length:Int)))
  (oI b a <|
 .ret (zO (nth a b (zk (.int .u32)))))
  (.ret 0)
def sB(c:(List Int))(d:Int):(Int×(List Int))->T ((Int×(List Int))⊕((List Int)))
 | (b,a) =>
 .ite (decide (b<(c.length:Int)))
  (T.bind (gq c b) λf =>
 T.bind (gq c (zF (b+1))) λg=>let e:=a++([(xR (wH .u64 (Z6 .u64 f (yt .u64 g 32)) d))]:List Int);
 .zL (0<=(32:Int)) <|
 .zL (0<=d) <|
 oA a 4 <|
 oM (a.length+1) e.length <|
 .ret (.inl ((zF (b+1)),e)))
  (oC a <|
 oE a <|
 .ret (.inr a))
def K6 t1 by_ s:=T.loop (sB t1 by_) s
def bU(f:(List Int))(b:Int):(Int×Int×(List Int))->T ((Int×Int×(List Int))⊕((List Int)))
 | (e,d,a) =>
 .ite (decide (d<(zF ((f.length:Int)+1))))
  (T.bind (gq f d) λc =>
 .zL (0<=b) <|
 oA a 4 <|
 .zL (0<=(32:Int)) <|
 oM (a.length+1) (a++([(xR (Z6 .u64 (yt .u64 c b) e))]:List Int)).length <|
 .ret (.inl ((wH .u64 (yt .u64 c b) 32),((zF (d+1)),(a++([(xR (Z6 .u64 (yt .u64 c b) e))]:List Int))))))
  (oC a <|
 oE a <|
 .ret (.inr a))
def sW t2 by_1 s:=T.loop (bU t2 by_1) s
def mH(j:(List Int))(k:Int):T (List Int) :=
 let b:=H6 (mP k (-4096)) 4096; let g:=zF (Int.tdiv (zF (0-b)) (32:Int)); let c:=zF (Int.tdiv b (32:Int));  T.bind (qM j) λa =>
 .ite (decide (b<0))
  (.zL (32≠(0:Int)) <|
 .ite (decide ((a.length:Int)<=g))
  (.ret [])
  (.zL (yY g (a.length:Int) a.length) <|
 .zL (32≠(0:Int)) <|
 oZ <|
 T.bind (K6 (va (e:=(.int .u32)) g (a.length:Int) a) (zO (Int.tmod (zF (0-b)) (32:Int))) (0,[])) λd =>
 oE d <|
 T.bind (qM (List.drop 0 (List.take (0+d.length) d))) λh =>
 .ret h))
  (.zL (32≠(0:Int)) <|
 .zL (QU c c 4) <|
 .zL (32≠(0:Int)) <|
 oM (Int.toNat c) (List.replicate (Int.toNat c) (0:Int)).length <|
 T.bind (sW a (zO (Int.tmod b (32:Int))) (0,(0,(List.replicate (Int.toNat c) 0)))) λf =>
 oE f <|
 T.bind (qM (List.drop 0 (List.take (0+f.length) f))) λi =>
 .ret i)
def fS(f:(List Int))(g:(List Int)):(Int×Int×(List Int))->T ((Int×Int×(List Int))⊕((List Int)))
 | (e,b,a) =>
 .ite (decide (b<(zF ((mP (f.length:Int) (g.length:Int))+1))))
  (T.bind (gq f b) λc =>
 T.bind (gq g b) λd =>
 oA a 4 <|
 .zL (0<=(32:Int)) <|
 oM (a.length+1) (a++([(xR (zO ((zO (e+c))+d)))]:List Int)).length <|
 .ret (.inl ((wH .u64 (zO ((zO (e+c))+d)) 32),((zF (b+1)),(a++([(xR (zO ((zO (e+c))+d)))]:List Int))))))
  (oC a <|
 oE a <|
 .ret (.inr a))
def XR a1 b1 s:=T.loop (fS a1 b1) s
def Qh(c:(List Int))(d:(List Int)):T (List Int) :=
 oZ <|
 T.bind (XR c d (0,(0,[]))) λa =>
 oE a <|
 T.bind (qM (List.drop 0 (List.take (0+a.length) a))) λb =>
 .ret b
def ct(b:(List Int))(c:(List Int)):Int->T (Int⊕(Unit⊕Int))
 | a =>
 .ite (decide (0<=a))
  (oI a b <|
 oI a c <|
 .ite (decide ((nth b a (zk (.int .u32)))<(nth c a (zk (.int .u32)))))
  (.ret (.inr (.inr (-1))))
  (oI a b <|
 oI a c <|
 .ite (decide ((nth c a (zk (.int .u32)))<(nth b a (zk (.int .u32)))))
  (.ret (.inr (.inr 1)))
  (.ret (.inl (zF (a-1))))))
  (.ret (.inr (.inl ())))
def Wc x1 y1 s:=T.loop (ct x1 y1) s
def oQ(d:(List Int))(e:(List Int)):T Int :=
 T.bind (qM d) λa =>
 T.bind (qM e) λb =>
 .ite ((a.length:Int) != (b.length:Int))
  (.ite (decide ((a.length:Int)<(b.length:Int)))
  (.ret (-1))
  (.ret 1))
  (T.bind (Wc a b (zF ((a.length:Int)-1))) <|
 Sum.elim (λ_ =>
 .ret 0)
  (λc =>
 .ret c))
def ij(f:(List Int))(h:(List Int)):(Int×Int×(List Int))->T ((Int×Int×(List Int))⊕((List Int)))
 | (e,c,a) =>
 .ite (decide (c<(f.length:Int)))
  (T.bind (gq f c) λb =>
 T.bind (gq h c) λd=>let g:=a++([(xR (zO ((bif (decide (b<(zO (d+e))))then(zO (b+4294967296))else b)-(zO (d+e)))))]:List Int);
 oA a 4 <|
 oM (a.length+1) g.length <|
 .ret (.inl ((bif (decide (b<(zO (d+e))))then 1 else 0),((zF (c+1)),g))))
  (oC a <|
 oE a <|
 .ret (.inr a))
def Wl a1 b1 s:=T.loop (ij a1 b1) s
def Qw(b:(List Int))(c:(List Int)):T ((List Int)×Bool) :=
 T.bind (oQ b c) λd =>
 .ite (decide (d<0))
  (.ret ([],false))
  (oZ <|
 T.bind (Wl b c (0,(0,[]))) λa =>
 oE a <|
 T.bind (qM (List.drop 0 (List.take (0+a.length) a))) λe =>
 .ret (e,true))
def uC(i:(List Int))(j:(List Int)):((List Int)×Int×(List Int))->T (((List Int)×Int×(List Int))⊕(((List Int)×(List Int))))
 | (h,c,b)=>let d:=zF (Int.tdiv c (32:Int)); let e:=0+(Int.toNat d);
 .ite (decide (0<=c))
  (T.bind (mH h 1) λg =>
 T.bind (.zL (32≠(0:Int)) <|
 oI d i <|
 .zL (32≠(0:Int)) <|
 .zL (0<=(zO (Int.tmod c (32:Int)))) <|
 .ite ((FC .u32 (wH .u32 (nth i d (zk (.int .u32))) (zO (Int.tmod c (32:Int)))) 1)==1)
  (T.bind (Qh g ([1]:List Int)) λl =>
 oC b <|
 oE b <|
 .ret (l,b))
  (oC b <|
 oE b <|
 .ret (g,b)):T (((List Int)×(List Int)))) λ(f,a)=>let k:=List.set a e (Z6 .u32 (yE a e (zk (.int .u32))) (yt .u32 1 (zO (Int.tmod c (32:Int)))));
 T.bind (oQ f j) λm =>
 .ite (decide (0<=m))
  (T.bind (Qw f j) λ(n,o) =>
 .zL (32≠(0:Int)) <|
 .zL (32≠(0:Int)) <|
 oI d a <|
 .zL (n9 a.length a.length e a.length) <|
 .zL (32≠(0:Int)) <|
 .zL (0<=(zO (Int.tmod c (32:Int)))) <|
 oI d a <|
 .zL (n9 a.length a.length e a.length) <|
 oM a.length k.length <|
 .ret (.inl (n,((zF (c-1)),k))))
  (oC a <|
 oE a <|
 .ret (.inl (f,((zF (c-1)),a)))))
  (oC b <|
 oE b <|
 .ret (.inr (h,b)))
def eO a1 b1 s:=T.loop (uC a1 b1) s
def jU(a:(List Int))(d:(List Int)):T ((List Int)×(List Int)×Bool) :=
 T.bind (qM d) λg =>
 .ite ((g.length:Int)==0)
  (.ret ([],([],false)))
  (T.bind (ZP a) λ(e,h) =>
 T.bind (ZP d) λ(b,f) =>
 .ite (h&&f)
  (.zL (b≠0) <|
 T.bind (sb (zO (Int.tdiv e b))) λi =>
 .zL (b≠0) <|
 T.bind (sb (Int.tmod e b)) λj =>
 .ret (i,(j,true)))
  (.ite (f&&(decide (b<4294967296)))
  (T.bind (bJ a b) λ(k,l) =>
 T.bind (sb l) λm =>
 .ret (k,(m,true)))
  (.zL (QU (a.length:Int) (a.length:Int) 4) <|
 oM (Int.toNat (a.length:Int)) (List.replicate (Int.toNat (a.length:Int)) (0:Int)).length <|
 T.bind (eO a d ([],((zF ((zF (32*(a.length:Int)))-1)),(List.replicate (Int.toNat (a.length:Int)) 0)))) λ(n,c) =>
 oE c <|
 T.bind (qM (List.drop 0 (List.take (0+c.length) c))) λo =>
 T.bind (qM n) λp =>
 .ret (o,(p,true)))))
def bY  : ((List Int)×(List Int))->T (((List Int)×(List Int))⊕((List Int)))
 | (b,a) =>
 .ite (decide (0<(a.length:Int)))
  (T.bind (jU b a) λ(d,c,e) =>
 .ret (.inl (a,c)))
  (.ret (.inr b))
def XC(s:((List Int)×(List Int))):T ((List Int)):=T.loop (bY ) s
def Q6(d:(List Int))(e:(List Int)):T (List Int) :=
 T.bind (qM d) λa =>
 T.bind (qM e) λb =>
 T.bind (XC  (a,b)) λc =>
 .ret c
def ja(c:Rat):T Rat :=
 T.bind (qM c.2.1) λa =>
 T.bind (qM c.2.2.1) λb =>
 .ite (((b.length:Int)==0)||((a.length:Int)==0))
  (.ret (false,(([]:List Int),(([1]:List Int),()))))
  (T.bind (Q6 a b) λd =>
 T.bind (jU a d) λ(e,g,h) =>
 T.bind (jU b d) λ(f,i,j) =>
 .ret (c.1,(e,(f,()))))
def j9(b:(List Int))(c:(List Int)):Int->T (Int⊕(Unit⊕Bool))
 | a =>
 .ite (decide (a<(b.length:Int)))
  (oI a b <|
 oI a c <|
 .ite ((nth b a (zk (.int .u32))) != (nth c a (zk (.int .u32))))
  (.ret (.inr (.inr false)))
  (.ret (.inl (zF (a+1)))))
  (.ret (.inr (.inl ())))
def iK a1 b1 s:=T.loop (j9 a1 b1) s
def yp(a:(List Int))(b:(List Int)):T Bool :=
 .ite ((a.length:Int) != (b.length:Int))
  (.ret false)
  (T.bind (iK a b 0) <|
 Sum.elim (λ_ =>
 .ret true)
  (λc =>
 .ret c))
def Zj(a:Rat):T Bool :=
 T.bind (ja a) λb =>
 .ite (a.1==b.1)
  (T.bind (yp a.2.1 b.2.1) λc =>
 .ite c
  (T.bind (yp a.2.2.1 b.2.2.1) λd =>
 .ret d)
  (.ret false))
  (.ret false)
def mQ(b:Rat):T Bool :=
 T.bind (ja b) λa =>
 .ret ((decide (16<(a.2.1.length:Int)))||(decide (16<(a.2.2.1.length:Int))))
def dG(a:Rat):T Bool :=
 T.bind (Zj a) λb =>
 .ite b
  (T.bind (mQ a) λc =>
 .ret (!c))
  (.ret false)
def eE(a:ze):T Bool :=
 .ite (zh a [])
  (.ret true)
  (T.bind (u6 a) λb =>
 .ret b)
def cn(g:(List Int))(h:(List Int))(c:Int):(Int×Int×(List Int))->T ((Int×Int×(List Int))⊕((List Int)))
 | (f,b,a)=>let d:=0+(Int.toNat (zF (c+b)));
 .ite ((decide (b<(h.length:Int)))||(decide (0<f)))
  (.ite (decide ((a.length:Int)<=(zF (c+b))))
  (oC a <|
 oE a <|
 .ret (.inr a))
  (oI c g <|
 T.bind (gq h b) λi=>let e:=zO ((zO (f+(zO ((zO (nth g c (zk (.int .u32))))*i))))+(zO (yE a d (zk (.int .u32)))));
 oI (zF (c+b)) a <|
 .zL (n9 a.length a.length d a.length) <|
 oI (zF (c+b)) a <|
 .zL (n9 a.length a.length d a.length) <|
 .zL (0<=(32:Int)) <|
 oM a.length (List.set a d (xR e)).length <|
 .ret (.inl ((wH .u64 e 32),((zF (b+1)),(List.set a d (xR e)))))))
  (oC a <|
 oE a <|
 .ret (.inr a))
def W3 a2 b2 i1 s:=T.loop (cn a2 b2 i1) s
def fV(d:(List Int))(e:(List Int)):(Int×(List Int))->T ((Int×(List Int))⊕((List Int)))
 | (c,a) =>
 .ite (decide (c<(d.length:Int)))
  (oC a <|
 oE a <|
 T.bind (W3 d e c (0,(0,a))) λb =>
 oC b <|
 oE b <|
 .ret (.inl ((zF (c+1)),b)))
  (oC a <|
 oE a <|
 .ret (.inr a))
def Wj a1 b1 s:=T.loop (fV a1 b1) s
def ri(c:(List Int))(d:(List Int)):T (List Int) :=
 let a:=zF ((c.length:Int)+(d.length:Int));  .zL (QU a a 4) <|
 oM (Int.toNat a) (List.replicate (Int.toNat a) (0:Int)).length <|
 T.bind (Wj c d (0,(List.replicate (Int.toNat a) 0))) λb =>
 oE b <|
 T.bind (qM (List.drop 0 (List.take (0+b.length) b))) λe =>
 .ret e
def y4  : ((List Int)×ze)->T (((List Int)×ze)⊕(ze))
 | (c,a) =>
 .ite (decide (0<(c.length:Int)))
  (T.bind (bJ c 10) λ(d,b) =>
 oK (qG ([(Bg (zO (48+b)))]:List Int)) a <|
 .ret (.inl (d,(cat (qG ([(Bg (zO (48+b)))]:List Int)) a))))
  (.ret (.inr a))
def iP(s:((List Int)×ze)):T (ze):=T.loop (y4 ) s
def bE(c:(List Int)):T ze :=
 T.bind (qM c) λa =>
 .ite ((a.length:Int)==0)
  (.ret [48])
  (T.bind (iP  (a,[])) λb =>
 .ret b)
def jC(b:Int):ze->T (ze⊕(ze))
 | a =>
 .ite (decide ((a.length:Int)<b))
  (oK [48] a <|
 .ret (.inl (cat [48] a)))
  (.ret (.inr a))
def p0 least1 s:=T.loop (jC least1) s
def ik(c:(List Int))(d:Int):T ze :=
 T.bind (bE c) λa =>
 T.bind (p0 d a) λb =>
 .ret b
def dJ(a:Bool):T ze :=
 .ite a
  (.ret [45])
  (.ret [])
def mq(h:Bool)(g:(List Int))(c:Int):T ze :=
 T.bind (ik g (zF (c+1))) λa=>let b:=zF ((a.length:Int)-c); let d:=bif (decide (0<c))then(cat (cat (vw 0 b a) [46]) (vw b (a.length:Int) a))else a;
 .zL (((decide (0<c))=true)->((yY 0 b a.length)/\((((vw 0 b a).length+([46]:ze).length)<=4611686018427387904)/\((yY b (a.length:Int) a.length)/\(((cat (vw 0 b a) [46]).length+(vw b (a.length:Int) a).length)<=4611686018427387904))))) <|
 .ite h
  (T.bind (dJ (decide (0<(g.length:Int)))) λe =>
 oK e d <|
 .ret (cat e d))
  (T.bind (dJ false) λf =>
 oK f d <|
 .ret (cat f d))
def jb  : ((List Int)×Int×Rat)->T (((List Int)×Int×Rat)⊕(Rat⊕(ze×Bool×Rat)))
 | (c,b,a) =>
 .ite (decide (b<=60))
  (T.bind (ri a.2.1 c) λd =>
 T.bind (jU d a.2.2.1) λ(e,f,i) =>
 .ite ((f.length:Int)==0)
  (T.bind (mq a.1 e b) λg =>
 .ret (.inr (.inr (g,(true,a)))))
  (T.bind (ri c ([10]:List Int)) λh =>
 .ret (.inl (h,((zF (b+1)),a)))))
  (.ret (.inr (.inl a)))
def sI(s:((List Int)×Int×Rat)):T (Rat⊕(ze×Bool×Rat)):=T.loop (jb ) s
def bq(d:Rat):T (ze×Bool) :=
 T.bind (ja d) λa =>
 T.bind (sI  (([1]:List Int),(0,a))) <|
 Sum.elim (λe =>
 .ret ([],false))
  (λ(b,c,f) =>
 .ret (b,c))
def jN(a:Rat):T Bool :=
 .ite (!a.1)
  (.ite ((a.2.1.length:Int)==0)
  (.ite ((a.2.2.1.length:Int)==0)
  (.ret true)
  (T.bind (Zj a) λb =>
 .ret b))
  (.ret false))
  (.ret false)
def cu(d:AM.Expr->Int->T Bool)(e:Int)(b:AM.Expr)(f:Int):Int->T (Int⊕(Unit⊕Bool))
 | a =>
 .ite (decide (a<f))
  (oI a (Expr.kids b) <|
 T.bind (d (nth (Expr.kids b) a (zk .expr)) (zF (e+1))) λc =>
 .ite (!c)
  (.ret (.inr (.inr false)))
  (.ret (.inl (zF (a+1)))))
  (.ret (.inr (.inl ())))
def rh self_ref5_one deep1 e1 kids1 s:=T.loop (cu self_ref5_one deep1 e1 kids1) s
def mE(l:AM.Expr->Int->T Bool)(a:AM.Expr)(c:Int):T Bool :=
 .ite (decide (32<c))
  (.ret false)
  (T.bind (.ite ((Expr.kind a)==1)
  (T.bind (bq (Expr.num a)) λ(m,d) =>
 .ite (((Expr.kids a).length:Int)==0)
  (.ite (zh (Expr.name a) [])
  (T.bind (dG (Expr.num a)) λe =>
 .ite e
  (.ite (!(Expr.num a).1)
  (.ret (.inr d))
  (.ret (.inr false)))
  (.ret (.inr false)))
  (.ret (.inr false)))
  (.ret (.inr false)))
  (.ite ((Expr.kind a)==2)
  (.ite (((Expr.kids a).length:Int)==0)
  (T.bind (u6 (Expr.name a)) λf =>
 .ite f
  (T.bind (jN (Expr.num a)) λg =>
 .ret (.inr g))
  (.ret (.inr false)))
  (.ret (.inr false)))
  (.ite ((Expr.kind a)==7)
  (.ret (.inl 1))
  (.ite ((Expr.kind a)==3)
  (.ret (.inl 2))
  (.ite ((Expr.kind a)==4)
  (.ret (.inl 2))
  (.ite ((Expr.kind a)==5)
  (.ret (.inl 2))
  (.ite ((Expr.kind a)==6)
  (.ret (.inl 2))
  (.ret (.inr false)))))))):T (Int⊕Bool)) <|
 Sum.elim (λb =>
 T.bind (.ite (((Expr.kids a).length:Int) != b)
  (.ret true)
  (.ite (!(zh (Expr.name a) []))
  (.ret true)
  (T.bind (jN (Expr.num a)) λh =>
 .ret (!h))):T (Bool)) λi =>
 .ite i
  (.ret false)
  (T.bind (rh l c a b 0) <|
 Sum.elim (λ_ =>
 .ret true)
  (λj =>
 .ret j)))
  (λk =>
 .ret k))
def oU(e:AM.Expr)(deep:Int):T Bool:=T.fix (λF x=>mE (λy0 y1=>F (y0,y1)) x.1 x.2) (e,deep)
def kY(e:AM.Expr->T Int)(b:AM.Expr):(Int×Int)->T ((Int×Int)⊕(Int))
 | (c,a) =>
 .ite (decide (a<((Expr.kids b).length:Int)))
  (oI a (Expr.kids b) <|
 T.bind (e (nth (Expr.kids b) a (zk .expr))) λd =>
 .ret (.inl ((zF (c+d)),(zF (a+1)))))
  (.ret (.inr c))
def tc self_ref5_Nodes e1 s:=T.loop (kY self_ref5_Nodes e1) s
def da(b:AM.Expr->T Int)(c:AM.Expr):T Int :=
 T.bind (tc b c (1,0)) λa =>
 .ret a
def nz(e:AM.Expr):T Int:=T.fix (λF x=>da (λy0=>F (y0)) x) e
def dx(a:AM.Expr):T Bool :=
 T.bind (oU a 1) λb =>
 .ite b
  (T.bind (nz a) λc =>
 .ret (decide (c<=256)))
  (.ret false)
def yb(c:Form):(Int×Int)->T ((Int×Int)⊕(Unit⊕Bool))
 | (g,b)=>let a:=nth c.2.2.2.1 b (zk zN);
 .ite (decide (b<(c.2.2.2.1.length:Int)))
  (oI b c.2.2.2.1 <|
 T.bind (.ite (decide (a.2.1<g))
  (.ret (true,a))
  (.ite (decide ((c.2.2.1.length:Int)<=a.2.1))
  (.ret (true,a))
  (T.bind (u6 a.1) λd =>
 .ite (!d)
  (.ret (true,a))
  (.ite (decide (a.2.2.2.1<(0:Int)))
  (.ret (true,a))
  (.ret ((decide ((9:Int)<a.2.2.2.1)),a))))):T ((Bool×Field))) λ(e,f) =>
 .ite e
  (.ret (.inr (.inr false)))
  (.ret (.inl (f.2.1,(zF (b+1))))))
  (.ret (.inr (.inl ())))
def sX f1 s:=T.loop (yb f1) s
def kX(c:Form):(Int×Int)->T ((Int×Int)⊕(Unit⊕Bool))
 | (i,b)=>let a:=nth c.2.2.2.2.2.1 b (zk zU);
 .ite (decide (b<(c.2.2.2.2.2.1.length:Int)))
  (oI b c.2.2.2.2.2.1 <|
 T.bind (.ite (decide (a.2.1<i))
  (.ret (true,a))
  (.ite (decide ((c.2.2.1.length:Int)<=a.2.1))
  (.ret (true,a))
  (T.bind (u6 a.1) λd =>
 .ite (!d)
  (.ret (true,a))
  (.ite (decide (a.2.2.1<(0:Int)))
  (.ret (true,a))
  (.ite (decide ((2:Int)<a.2.2.1))
  (.ret (true,a))
  (T.bind (dx (Expr.mk (Expr.kind a.2.2.2.1) ((Expr.num a.2.2.2.1).1,((Expr.num a.2.2.2.1).2.1,((Expr.num a.2.2.2.1).2.2.1,()))) (Expr.name a.2.2.2.1) (Expr.kids a.2.2.2.1))) λe =>
 .ite (!e)
  (.ret (true,a))
  (T.bind (dx (Expr.mk (Expr.kind a.2.2.2.2.1) ((Expr.num a.2.2.2.2.1).1,((Expr.num a.2.2.2.2.1).2.1,((Expr.num a.2.2.2.2.1).2.2.1,()))) (Expr.name a.2.2.2.2.1) (Expr.kids a.2.2.2.2.1))) λf =>
 .ret ((!f),a))))))):T ((Bool×Check))) λ(g,h) =>
 .ite g
  (.ret (.inr (.inr false)))
  (.ret (.inl (h.2.1,(zF (b+1))))))
  (.ret (.inr (.inl ())))
def te f2 s:=T.loop (kX f2) s
def nc(a:Form):T Bool :=
 T.bind (sX a (0,0)) <|
 Sum.elim (λ_ =>
 T.bind (te a (0,0)) <|
 Sum.elim (λ_ =>
 .ret true)
  (λb =>
 .ret b))
  (λc =>
 .ret c)
def mD(e:Rat):T ze :=
 T.bind (ja e) λa =>
 T.bind (dJ a.1) λb =>
 T.bind (bE a.2.1) λc =>
 oK b c <|
 .zL ((((a.2.2.1.length:Int) != 1)=false)->(qw 0 a.2.2.1.length)) <|
 .ite (((a.2.2.1.length:Int) != 1)||((nth a.2.2.1 0 (zk (.int .u32))) != 1))
  (oK (cat b c) [47] <|
 T.bind (bE a.2.2.1) λd =>
 oK (cat (cat b c) [47]) d <|
 .ret (cat (cat (cat b c) [47]) d))
  (.ret (cat b c))
def rP(a:ze):T ze :=
 .ite (zh a [])
  (.ret [])
  (oK [32,119,104,101,110,32] a <|
 .ret (cat [32,119,104,101,110,32] a))
def mX(a:Field):T ze :=
 let c:=cat [102,105,101,108,100,32] a.1; let b:=bif a.2.2.1 then(cat c [32,109,117,115,116])else c; let d:=cat (cat b [32,115,99,97,108,101,32]) (qG ([(Bg (zF (48+a.2.2.2.1)))]:List Int));  oK [102,105,101,108,100,32] a.1 <|
 .zL ((a.2.2.1=true)->((c.length+([32,109,117,115,116]:ze).length)<=4611686018427387904)) <|
 .ite (a.2.2.2.1 != 0)
  (oK b [32,115,99,97,108,101,32] <|
 oK (cat b [32,115,99,97,108,101,32]) (qG ([(Bg (zF (48+a.2.2.2.1)))]:List Int)) <|
 oK d [10] <|
 .ret (cat d [10]))
  (oK b [10] <|
 .ret (cat b [10]))
def oc(a:Int):T Int :=
 .ite (bif (a==3)then(a==3)else(a==4))
  (.ret 1)
  (.ite (bif (a==5)then(a==5)else(a==6))
  (.ret 2)
  (.ite (a==7)
  (.ret 3)
  (.ret 4)))
def iD(b:AM.Expr->Int->T ze)(a:AM.Expr)(q:Int):T ze :=
 let e:=nth (Expr.kids a) 1 (zk .expr); let c:=nth (Expr.kids a) 0 (zk .expr);  T.bind (.ite ((Expr.kind a)==1)
  (T.bind (bq (Expr.num a)) λ(o,r) =>
 .ret o)
  (.ite ((Expr.kind a)==2)
  (.ret (Expr.name a))
  (.ite ((Expr.kind a)==7)
  (oI 0 (Expr.kids a) <|
 T.bind (b c 3) λj =>
 oK [45] j <|
 .ret (cat [45] j))
  (.ite ((Expr.kind a)==3)
  (oI 0 (Expr.kids a) <|
 T.bind (b c 1) λf =>
 oK f [32,43,32] <|
 oI 1 (Expr.kids a) <|
 T.bind (b e 2) λk =>
 oK (cat f [32,43,32]) k <|
 .ret (cat (cat f [32,43,32]) k))
  (.ite ((Expr.kind a)==4)
  (oI 0 (Expr.kids a) <|
 T.bind (b c 1) λg =>
 oK g [32,45,32] <|
 oI 1 (Expr.kids a) <|
 T.bind (b e 2) λl =>
 oK (cat g [32,45,32]) l <|
 .ret (cat (cat g [32,45,32]) l))
  (.ite ((Expr.kind a)==5)
  (oI 0 (Expr.kids a) <|
 T.bind (b c 2) λh =>
 oK h [32,42,32] <|
 oI 1 (Expr.kids a) <|
 T.bind (b e 3) λm =>
 oK (cat h [32,42,32]) m <|
 .ret (cat (cat h [32,42,32]) m))
  (.ite ((Expr.kind a)==6)
  (oI 0 (Expr.kids a) <|
 T.bind (b c 2) λi =>
 oK i [32,47,32] <|
 oI 1 (Expr.kids a) <|
 T.bind (b e 3) λn =>
 oK (cat i [32,47,32]) n <|
 .ret (cat (cat i [32,47,32]) n))
  (.ret []))))))):T (ze)) λd =>
 T.bind (oc (Expr.kind a)) λp =>
 .ite (decide (p<q))
  (oK [40] d <|
 oK (cat [40] d) [41] <|
 .ret (cat (cat [40] d) [41]))
  (.ret d)
def rD(e:AM.Expr)(asks:Int):T ze:=T.fix (λF x=>iD (λy0 y1=>F (y0,y1)) x.1 x.2) (e,asks)
def yr(a:AM.Expr):T ze :=
 T.bind (dx a) λb =>
 .ite (!b)
  (.ret [])
  (T.bind (rD a 1) λc =>
 .ret c)
def ZK(a:Int):T ze :=
 .ite (a==1)
  (.ret [60])
  (.ite (a==2)
  (.ret [60,61])
  (.ret [61]))
def ya(a:Int):T ze :=
 .ite (a==0)
  (.ret [114,101,113,117,105,114,101,100])
  (.ite (a==1)
  (.ret [115,116,114,111,110,103])
  (.ite (a==2)
  (.ret [109,101,100,105,117,109])
  (.ret [119,101,97,107])))
def gX(b:Form):(ze×Int)->T ((ze×Int)⊕(ze))
 | (d,a)=>let e:=cat d [115,119,105,116,99,104,32]; let c:=nth b.1 a (zk zx); let f:=bif c.2.1 then[32,111,110,10]else[32,111,102,102,10];
 .ite (decide (a<(b.1.length:Int)))
  (oI a b.1 <|
 oK d [115,119,105,116,99,104,32] <|
 oI a b.1 <|
 oK e c.1 <|
 oK (cat e c.1) f <|
 .ret (.inl ((cat (cat e c.1) f),(zF (a+1)))))
  (.ret (.inr d))
def QH f1 s:=T.loop (gX f1) s
def gY(b:Form):(ze×Int)->T ((ze×Int)⊕(ze))
 | (c,a)=>let d:=cat (cat c [112,97,114,97,109,32]) (nth b.2.1 a (zk zM)).1;
 .ite (decide (a<(b.2.1.length:Int)))
  (oK c [112,97,114,97,109,32] <|
 oI a b.2.1 <|
 oK (cat c [112,97,114,97,109,32]) (nth b.2.1 a (zk zM)).1 <|
 oK d [32] <|
 oI a b.2.1 <|
 T.bind (mD (nth b.2.1 a (zk zM)).2.1) λe =>
 oK (cat d [32]) e <|
 oK (cat (cat d [32]) e) [10] <|
 .ret (.inl ((cat (cat (cat d [32]) e) [10]),(zF (a+1)))))
  (.ret (.inr c))
def Q5 f2 s:=T.loop (gY f2) s
def gP(b:Form)(e:Int):(ze×Int)->T ((ze×Int)⊕(ze))
 | (c,a) =>
 .ite (decide (a<(b.2.2.2.1.length:Int)))
  (oI a b.2.2.2.1 <|
 .ite ((nth b.2.2.2.1 a (zk zN)).2.1==e)
  (oI a b.2.2.2.1 <|
 T.bind (mX (nth b.2.2.2.1 a (zk zN))) λd =>
 oK c d <|
 .ret (.inl ((cat c d),(zF (a+1)))))
  (.ret (.inl (c,(zF (a+1))))))
  (.ret (.inr c))
def Zk f4 i3 s:=T.loop (gP f4 i3) s
def hZ(h:Form)(k:Int):(ze×Int)->T ((ze×Int)⊕(ze))
 | (e,c)=>let i:=cat e [99,104,101,99,107,32]; let a:=nth h.2.2.2.2.2.1 c (zk zU); let j:=cat (cat i a.1) [32,58,32];
 .ite (decide (c<(h.2.2.2.2.2.1.length:Int)))
  (oI c h.2.2.2.2.2.1 <|
 .ite (a.2.1==k)
  (oK e [99,104,101,99,107,32] <|
 oK i a.1 <|
 oK (cat i a.1) [32,58,32] <|
 T.bind (yr (Expr.mk (Expr.kind a.2.2.2.1) ((Expr.num a.2.2.2.1).1,((Expr.num a.2.2.2.1).2.1,((Expr.num a.2.2.2.1).2.2.1,()))) (Expr.name a.2.2.2.1) (Expr.kids a.2.2.2.1))) λf=>let d:=cat (cat j f) [32];
 oK j f <|
 oK (cat j f) [32] <|
 T.bind (ZK a.2.2.1) λb =>
 oK d b <|
 oK (cat d b) [32] <|
 T.bind (yr (Expr.mk (Expr.kind a.2.2.2.2.1) ((Expr.num a.2.2.2.2.1).1,((Expr.num a.2.2.2.2.1).2.1,((Expr.num a.2.2.2.2.1).2.2.1,()))) (Expr.name a.2.2.2.2.1) (Expr.kids a.2.2.2.2.1))) λg =>
 oK (cat (cat d b) [32]) g <|
 oK (cat (cat (cat d b) [32]) g) [10] <|
 .ret (.inl ((cat (cat (cat (cat d b) [32]) g) [10]),(zF (c+1)))))
  (.ret (.inl (e,(zF (c+1))))))
  (.ret (.inr e))
def Qt f5 i4 s:=T.loop (hZ f5 i4) s
def gn(b:Form):(ze×Int)->T ((ze×Int)⊕(ze))
 | (c,a)=>let e:=cat (cat c [112,97,103,101,32]) (nth b.2.2.1 a (zk zV)).1;
 .ite (decide (a<(b.2.2.1.length:Int)))
  (oK c [112,97,103,101,32] <|
 oI a b.2.2.1 <|
 oK (cat c [112,97,103,101,32]) (nth b.2.2.1 a (zk zV)).1 <|
 oI a b.2.2.1 <|
 T.bind (rP (nth b.2.2.1 a (zk zV)).2.1) λd =>
 oK e d <|
 oK (cat e d) [10] <|
 T.bind (Zk b a ((cat (cat e d) [10]),0)) λf =>
 T.bind (Qt b a (f,0)) λg =>
 .ret (.inl (g,(zF (a+1)))))
  (.ret (.inr c))
def ZI f3 s:=T.loop (gn f3) s
def gw(i:Form):(ze×Int)->T ((ze×Int)⊕(ze))
 | (h,c)=>let d:=cat h [114,117,108,101,32]; let a:=nth i.2.2.2.2.1 c (zk q8);
 .ite (decide (c<(i.2.2.2.2.1.length:Int)))
  (oI c i.2.2.2.2.1 <|
 oK h [114,117,108,101,32] <|
 T.bind (ya a.2.1) λb=>let j:=cat (cat (cat d b) [32]) a.1;
 oK d b <|
 oK (cat d b) [32] <|
 oK (cat (cat d b) [32]) a.1 <|
 T.bind (rP a.2.2.1) λe=>let k:=cat (cat j e) [32,58,32];
 oK j e <|
 oK (cat j e) [32,58,32] <|
 T.bind (yr (Expr.mk (Expr.kind a.2.2.2.1) ((Expr.num a.2.2.2.1).1,((Expr.num a.2.2.2.1).2.1,((Expr.num a.2.2.2.1).2.2.1,()))) (Expr.name a.2.2.2.1) (Expr.kids a.2.2.2.1))) λf=>let l:=cat (cat k f) [32,61,32];
 oK k f <|
 oK (cat k f) [32,61,32] <|
 T.bind (yr (Expr.mk (Expr.kind a.2.2.2.2.1) ((Expr.num a.2.2.2.2.1).1,((Expr.num a.2.2.2.2.1).2.1,((Expr.num a.2.2.2.2.1).2.2.1,()))) (Expr.name a.2.2.2.2.1) (Expr.kids a.2.2.2.2.1))) λg =>
 oK l g <|
 oK (cat l g) [10] <|
 .ret (.inl ((cat (cat l g) [10]),(zF (c+1)))))
  (.ret (.inr h))
def QO f6 s:=T.loop (gw f6) s
def lZ(a:Form):T ze :=
 T.bind (QH a ([],0)) λb =>
 T.bind (Q5 a (b,0)) λc =>
 T.bind (ZI a (c,0)) λd =>
 T.bind (QO a (d,0)) λe =>
 .ret e
def dV(b:Form):Int->T (Int⊕(Unit⊕Bool))
 | a =>
 .ite (decide (a<(b.1.length:Int)))
  (oI a b.1 <|
 T.bind (u6 (nth b.1 a (zk zx)).1) λc =>
 .ite (!c)
  (.ret (.inr (.inr false)))
  (.ret (.inl (zF (a+1)))))
  (.ret (.inr (.inl ())))
def UD f1 s:=T.loop (dV f1) s
def dP(b:Form):Int->T (Int⊕(Unit⊕Bool))
 | a =>
 .ite (decide (a<(b.2.1.length:Int)))
  (T.bind (oI a b.2.1 <|
 T.bind (u6 (nth b.2.1 a (zk zM)).1) λc =>
 .ite (!c)
  (.ret true)
  (oI a b.2.1 <|
 T.bind (dG (nth b.2.1 a (zk zM)).2.1) λd =>
 .ret (!d)):T (Bool)) λe =>
 .ite e
  (.ret (.inr (.inr false)))
  (.ret (.inl (zF (a+1)))))
  (.ret (.inr (.inl ())))
def U8 f2 s:=T.loop (dP f2) s
def fq(b:Form):Int->T (Int⊕(Unit⊕Bool))
 | a =>
 .ite (decide (a<(b.2.2.1.length:Int)))
  (T.bind (oI a b.2.2.1 <|
 T.bind (u6 (nth b.2.2.1 a (zk zV)).1) λc =>
 .ite (!c)
  (.ret true)
  (oI a b.2.2.1 <|
 T.bind (eE (nth b.2.2.1 a (zk zV)).2.1) λd =>
 .ret (!d)):T (Bool)) λe =>
 .ite e
  (.ret (.inr (.inr false)))
  (.ret (.inl (zF (a+1)))))
  (.ret (.inr (.inl ())))
def Jt f3 s:=T.loop (fq f3) s
def eQ(c:Form):Int->T (Int⊕(Unit⊕Bool))
 | b=>let a:=nth c.2.2.2.2.1 b (zk q8);
 .ite (decide (b<(c.2.2.2.2.1.length:Int)))
  (oI b c.2.2.2.2.1 <|
 T.bind (T.bind (u6 a.1) λd =>
 .ite (!d)
  (.ret (true,a))
  (T.bind (eE a.2.2.1) λe =>
 .ite (!e)
  (.ret (true,a))
  (.ite (decide (a.2.1<(0:Int)))
  (.ret (true,a))
  (.ite (decide ((3:Int)<a.2.1))
  (.ret (true,a))
  (T.bind (dx (Expr.mk (Expr.kind a.2.2.2.1) ((Expr.num a.2.2.2.1).1,((Expr.num a.2.2.2.1).2.1,((Expr.num a.2.2.2.1).2.2.1,()))) (Expr.name a.2.2.2.1) (Expr.kids a.2.2.2.1))) λf =>
 .ite (!f)
  (.ret (true,a))
  (T.bind (dx (Expr.mk (Expr.kind a.2.2.2.2.1) ((Expr.num a.2.2.2.2.1).1,((Expr.num a.2.2.2.2.1).2.1,((Expr.num a.2.2.2.2.1).2.2.1,()))) (Expr.name a.2.2.2.2.1) (Expr.kids a.2.2.2.2.1))) λg =>
 .ret ((!g),a)))))):T ((Bool×qH))) λ(h,i) =>
 .ite h
  (.ret (.inr (.inr false)))
  (.ret (.inl (zF (b+1)))))
  (.ret (.inr (.inl ())))
def U9 f4 s:=T.loop (eQ f4) s
def Qn(a:Form):T Bool :=
 T.bind (UD a 0) <|
 Sum.elim (λ_ =>
 T.bind (U8 a 0) <|
 Sum.elim (λ_ =>
 T.bind (Jt a 0) <|
 Sum.elim (λ_ =>
 T.bind (U9 a 0) <|
 Sum.elim (λ_ =>
 T.bind (nc a) λb =>
 .ite b
  (T.bind (lZ a) λc =>
 .ret (decide ((c.length:Int)<=16384)))
  (.ret false))
  (λd =>
 .ret d))
  (λe =>
 .ret e))
  (λf =>
 .ret f))
  (λg =>
 .ret g)
def eA(a:Form):T ze :=
 T.bind (Qn a) λb =>
 .ite (!b)
  (.ret [])
  (T.bind (lZ a) λc =>
 .ret c)
def strings_Split(a:ze)(b:ze):T (List ze) :=
 .zL (a.length<4294967281/\b.length=1) <|
 .ret (jv (List.headD b 0) a)
def strings_Cut(a:ze)(b:ze):T (ze×ze×Bool) :=
 .zL (a.length<4294967281) <|
 .ret (wT a b)
def gv(a:Int):T Bool :=
 .ret (a==32)
def strings_FieldsFunc(a:ze)(b:Int->T Bool):T (List ze) :=
 .zL (a.length<=4294967296) <|
 .ret (xC 32 [] a)
def iv(c:ze):T (List ze) :=
 T.bind (strings_FieldsFunc c (λa=>gv a)) λb =>
 .ret b
def wG(a:Int):T Bool :=
 .ret ((decide (97<=a))&&(decide (a<=122)))
def xI(a:Int):T Bool :=
 .ret ((decide (48<=a))&&(decide (a<=57)))
def vf(a:Int):T Bool :=
 T.bind (wG a) λb =>
 .ite b
  (.ret true)
  (T.bind (xI a) λc =>
 .ite c
  (.ret true)
  (.ret (a==95)))
def kv(b:ze)(d:Int):Int->T (Int⊕(Unit⊕Bool))
 | a =>
 .ite (decide (a<d))
  (oI a b <|
 T.bind (vf (qo b a)) λc =>
 .ite (!c)
  (.ret (.inr (.inr false)))
  (.ret (.inl (zF (a+1)))))
  (.ret (.inr (.inl ())))
def ZE s1 x1 s:=T.loop (kv s1 x1) s
def xi(a:ze):T Bool :=
 T.bind (.ite (zh a [])
  (.ret true)
  (.ite (decide (24<(a.length:Int)))
  (.ret true)
  (oI 0 a <|
 T.bind (wG (qo a 0)) λb =>
 .ret (!b))):T (Bool)) λc =>
 .ite c
  (.ret false)
  (T.bind (ZE a (a.length:Int) 0) <|
 Sum.elim (λ_ =>
 .ret true)
  (λd =>
 .ret d))
def strings_IndexAny(c:ze)(a:ze):T Int :=
 .zL (c.length<4294967281/\2<=a.length/\a.length<4294967281/\(∀ b∈a,b.toNat<128)) <|
 .ret (gW c a)
def xw(b:ze)(a:ze):T Bool :=
 .zL (((decide ((a.length:Int)<=(b.length:Int)))=true)->(yY 0 (a.length:Int) b.length)) <|
 .ret ((decide ((a.length:Int)<=(b.length:Int)))&&(zh (vw 0 (a.length:Int) b) a))
def strings_HasPrefix(b:ze)(c:ze):T Bool :=
 T.bind (xw b c) λa =>
 .ret a
def xO  : zc->T (zc⊕(zc))
 | a =>
 .zL (((decide (a.2.1<(a.1.length:Int)))=true)->(qw a.2.1 a.1.length)) <|
 .ite ((decide (a.2.1<(a.1.length:Int)))&&((qo a.1 a.2.1)==32))
  (.ret (.inl (a.1,((zF (a.2.1+1)),(a.2.2.1,(a.2.2.2.1,()))))))
  (.ret (.inr a))
def yT(s:zc):T (zc):=T.loop (xO ) s
def uh(b:zc):T zc :=
 T.bind (yT  b) λa =>
 .ret a
def strings_IndexByte(s:ze)(c:Int):T Int:=.ret (o0 s (byteOf c))
def qY(e:ze)(f:zc):T (Int×zc) :=
 T.bind (uh f) λb =>
 T.bind (.ite (decide (b.2.1<(b.1.length:Int)))
  (oI b.2.1 b.1 <|
 T.bind (strings_IndexByte e (qo b.1 b.2.1)) λc =>
 .ret ((decide (0<=c)),b))
  (.ret (false,b)):T ((Bool×zc))) λ(d,a) =>
 .ite d
  (oI (zF ((zF (a.2.1+1))-1)) a.1 <|
 .ret ((qo a.1 (zF ((zF (a.2.1+1))-1))),(a.1,((zF (a.2.1+1)),(a.2.2.1,(a.2.2.2.1,()))))))
  (.ret (0,a))
def xM(a:Int)(b:Int)(c:zc):T (zc⊕(zX×zc)) :=
 .ret (.inr ((a,(b,())),c))
def wK(a:zc):T (zc⊕(zX×zc)) :=
 .ite (decide (32<=(zF (a.2.2.1+1))))
  (T.bind (xM 4 (zF (a.2.1-1)) (a.1,(a.2.1,((zF (a.2.2.1+1)),(a.2.2.2.1,()))))) <|
 Sum.elim (λb =>
 .ret (.inl b))
  (λ(c,d) =>
 .ret (.inr (c,d))))
  (.ret (.inl (a.1,(a.2.1,((zF (a.2.2.1+1)),(a.2.2.2.1,()))))))
def qP(e:Int->T Bool)(f:Int)(g:Int):zc->T (zc⊕(zc))
 | a =>
 T.bind (.ite (decide (a.2.1<(a.1.length:Int)))
  (.ite (decide ((zF (a.2.1-g))<f))
  (oI a.2.1 a.1 <|
 T.bind (e (qo a.1 a.2.1)) λc =>
 .ret (c,a))
  (.ret (false,a)))
  (.ret (false,a)):T ((Bool×zc))) λ(d,b) =>
 .ite d
  (.ret (.inl (b.1,((zF (b.2.1+1)),(b.2.2.1,(b.2.2.2.1,()))))))
  (.ret (.inr b))
def gQ is most1 from_ s:=T.loop (qP is most1 from_) s
def qX(c:Int->T Bool)(d:Int)(b:zc):T (ze×zc) :=
 T.bind (gQ c d b.2.1 b) λa =>
 .zL (yY b.2.1 a.2.1 a.1.length) <|
 .ret ((vw b.2.1 a.2.1 a.1),a)
def strings_CutPrefix(a:ze)(b:ze):T (ze×Bool) :=
 .ret (cW a b,List.isPrefixOf b a)
def kV(c:Int):ze->T (ze⊕(ze))
 | a=>let b:=zF ((a.length:Int)-1);
 .zL (((decide (0<(a.length:Int)))=true)->(qw b a.length)) <|
 .ite ((decide (0<(a.length:Int)))&&((qo a b)==c))
  (.zL (yY 0 b a.length) <|
 .ret (.inl (vw 0 b a)))
  (.ret (.inr a))
def iS c1 s:=T.loop (kV c1) s
def strings_trimRightByte(b:ze)(c:Int):T ze :=
 T.bind (iS c b) λa =>
 .ret a
def yL(b:Int):ze->T (ze⊕(ze))
 | a =>
 .zL (((decide (0<(a.length:Int)))=true)->(qw 0 a.length)) <|
 .ite ((decide (0<(a.length:Int)))&&((qo a 0)==b))
  (.zL (yY 1 (a.length:Int) a.length) <|
 .ret (.inl (vw 1 (a.length:Int) a)))
  (.ret (.inr a))
def l9 c1 s:=T.loop (yL c1) s
def strings_trimLeftByte(b:ze)(c:Int):T ze :=
 T.bind (l9 c b) λa =>
 .ret a
def strings_makeASCIISet(a:ze):T ((den (di .bool 256))×Bool) :=
 .zL (a.length<4294967281/\(∀ (j:Nat) b,a[j]? = some b->b.toNat<128)) <|
 .ret (cI a,true)
def xy(b:(den (di .bool 256)))(a:Int):T Bool :=
 .zL (qw a 256) <|
 .ret (pW .bool (di .bool 256) b (Int.toNat a))
def xz(d:(den (di .bool 256))):ze->T (ze⊕(ze))
 | a=>let b:=zF ((a.length:Int)-1);
 .ite (decide (0<(a.length:Int)))
  (oI b a <|
 T.bind (xy d (qo a b)) λc =>
 .ite (!c)
  (.ret (.inr a))
  (.zL (yY 0 b a.length) <|
 .ret (.inl (vw 0 b a))))
  (.ret (.inr a))
def kD as1 s:=T.loop (xz as1) s
def vn(b:ze)(c:(den (di .bool 256))):T ze :=
 T.bind (kD c b) λa =>
 .ret a
def xH(c:(den (di .bool 256))):ze->T (ze⊕(ze))
 | a =>
 .ite (decide (0<(a.length:Int)))
  (oI 0 a <|
 T.bind (xy c (qo a 0)) λb =>
 .ite (!b)
  (.ret (.inr a))
  (.zL (yY 1 (a.length:Int) a.length) <|
 .ret (.inl (vw 1 (a.length:Int) a))))
  (.ret (.inr a))
def y8 as1 s:=T.loop (xH as1) s
def vL(b:ze)(c:(den (di .bool 256))):T ze :=
 T.bind (y8 c b) λa =>
 .ret a
def kg(b:ze)(a:ze):T ze :=
 .ite ((zh b [])||(zh a []))
  (.ret b)
  (.zL ((((a.length:Int)==1)=true)->(qw 0 a.length)) <|
 .ite (((a.length:Int)==1)&&(decide ((qo a 0)<128)))
  (oI 0 a <|
 T.bind (strings_trimRightByte b (qo a 0)) λd =>
 oI 0 a <|
 T.bind (strings_trimLeftByte d (qo a 0)) λe =>
 .ret e)
  (T.bind (strings_makeASCIISet a) λ(c,f) =>
 .ite f
  (T.bind (vn b c) λg =>
 T.bind (vL g c) λh =>
 .ret h)
  (.fail)))
def ft(a:(List Int)):T Bool :=
 .zL ((((a.length:Int)==0)=false)->(qw (zF ((a.length:Int)-1)) a.length)) <|
 .ret (((a.length:Int)==0)||((nth a (zF ((a.length:Int)-1)) (zk (.int .u32))) != 0))
def iC  : (List Int)->T ((List Int)⊕((List Int)))
 | a =>
 T.bind (ft a) λb =>
 .ite (!b)
  (.zL (yY 0 (zF ((a.length:Int)-1)) a.length) <|
 .ret (.inl (va (e:=(.int .u32)) 0 (zF ((a.length:Int)-1)) a)))
  (.ret (.inr a))
def oj(s:(List Int)):T ((List Int)):=T.loop (iC ) s
def xN(b:(List Int)):T (List Int) :=
 T.bind (oj  b) λa =>
 .ret a
def nD(j:(List Int))(d:Int)(h:Int)(k:(List Int))(l:Int)(m:Int)(g:(List Int))(i:Int):(Int×Int×(List Int))->T ((Int×Int×(List Int))⊕((Int×(List Int))))
 | (f,b,a)=>let c:=0+(Int.toNat (zF (d+b))); let e:=zO (f+(zO ((zO ((zO h)*(zO (nth g b (zk (.int .u32))))))+(zO (yE a c (zk (.int .u32)))))));
 .ite (decide (b<i))
  (oI b g <|
 oI (zF (d+b)) a <|
 .zL (n9 a.length a.length c a.length) <|
 oI (zF (d+b)) a <|
 .zL (n9 a.length a.length c a.length) <|
 .zL (0<=(32:Int)) <|
 oM a.length (List.set a c (xR e)).length <|
 .ret (.inl ((wH .u64 e 32),((zF (b+1)),(List.set a c (xR e))))))
  (oC a <|
 oE a <|
 .ret (.inr (f,a)))
def JI b3 i v x3 x4 x5 x6 x7 s:=T.loop (nD b3 i v x3 x4 x5 x6 x7) s
def mo(d:(List Int))(e:(List Int))(h:Int):(Int×(List Int))->T ((Int×(List Int))⊕((List Int)))
 | (a,c)=>let f:=0+(Int.toNat (zF (a+(d.length:Int))));
 .ite (decide (a<h))
  (oI a e <|
 oC c <|
 oE c <|
 T.bind (JI d a (nth e a (zk (.int .u32))) e h a d (d.length:Int) (0,(0,c))) λ(g,b) =>
 oI (zF (a+(d.length:Int))) b <|
 .zL (n9 b.length b.length f b.length) <|
 oM b.length (List.set b f (xR g)).length <|
 .ret (.inl ((zF (a+1)),(List.set b f (xR g)))))
  (oC c <|
 oE c <|
 .ret (.inr c))
def VW b2 x x1 s:=T.loop (mo b2 x x1) s
def rU(f:(List Int))(g:(List Int)):T (List Int) :=
 T.bind (xN f) λb =>
 T.bind (xN g) λd=>let a:=zF ((b.length:Int)+(d.length:Int));
 .zL (QU a a 4) <|
 oM (Int.toNat a) (List.replicate (Int.toNat a) (0:Int)).length <|
 T.bind (VW d b (b.length:Int) (0,(List.replicate (Int.toNat a) 0))) λc =>
 oE c <|
 T.bind (xN (List.drop 0 (List.take (0+c.length) c))) λe =>
 .ret e
def yC(a:Int):T (List Int) :=
 .zL (0<=(32:Int)) <|
 T.bind (xN ([(xR a),(xR (wH .u64 a 32))]:List Int)) λb =>
 .ret b
def nf(h:(List Int))(c:(List Int))(e:(List Int))(g:Int):(Int×Int×(List Int))->T ((Int×Int×(List Int))⊕((Int×(List Int))))
 | (d,a,b)=>let f:=bif (decide (a<(c.length:Int)))then(zO ((zO (d+(zO (nth e a (zk (.int .u32))))))+(zO (nth c a (zk (.int .u32))))))else(zO (d+(zO (nth e a (zk (.int .u32))))));
 .ite (decide (a<g))
  (oI a e <|
 .zL (((decide (a<(c.length:Int)))=true)->(qw a c.length)) <|
 oI a b <|
 .zL (n9 b.length b.length (0+(Int.toNat a)) b.length) <|
 .zL (0<=(32:Int)) <|
 oM b.length (List.set b (0+(Int.toNat a)) (xR f)).length <|
 .ret (.inl ((wH .u64 f 32),((zF (a+1)),(List.set b (0+(Int.toNat a)) (xR f))))))
  (oC b <|
 oE b <|
 .ret (.inr (d,b)))
def Jn a2 b2 x x1 s:=T.loop (nf a2 b2 x x1) s
def WQ(h:(List Int))(i:(List Int)):T (List Int) :=
 T.bind (xN h) λc =>
 T.bind (xN i) λd=>let e:=bif (decide ((c.length:Int)<(d.length:Int)))then d else c; let a:=(e.length:Int);
 .zL (QU (zF (a+1)) (zF (a+1)) 4) <|
 oM (Int.toNat (zF (a+1))) (List.replicate (Int.toNat (zF (a+1))) (0:Int)).length <|
 T.bind (Jn e (bif (decide ((c.length:Int)<(d.length:Int)))then c else d) e a (0,(0,(List.replicate (Int.toNat (zF (a+1))) 0)))) λ(f,b) =>
 oI a b <|
 .zL (n9 b.length b.length (0+(Int.toNat a)) b.length) <|
 oE b <|
 T.bind (xN (List.drop 0 (List.take (0+b.length) (List.set b (0+(Int.toNat a)) (xR f))))) λg =>
 .ret g
def gO(c:ze)(g:Int):((List Int)×Int)->T (((List Int)×Int)⊕((List Int)))
 | (b,a) =>
 .ite (decide (a<g))
  (T.bind (rU b ([10]:List Int)) λd =>
 oI a c <|
 T.bind (yC (zO (Bg ((qo c a)-48)))) λe =>
 T.bind (WQ d e) λf =>
 .ret (.inl (f,(zF (a+1)))))
  (.ret (.inr b))
def Qf s1 x1 s:=T.loop (gO s1 x1) s
def vt(a:ze):T ((List Int)×Bool) :=
 T.bind (.ite (zh a [])
  (.ret true)
  (.ite (decide (400<(a.length:Int)))
  (.ret true)
  (T.bind (kg a [48,49,50,51,52,53,54,55,56,57]) λb =>
 .ret (!(zh b [])))):T (Bool)) λc =>
 .ite c
  (.ret ([],false))
  (T.bind (Qf a (a.length:Int) ([],0)) λd =>
 .ret (d,true))
def eM(e:Int):((List Int)×Int)->T (((List Int)×Int)⊕((List Int)))
 | (a,b) =>
 .ite (decide (b<e))
  (T.bind (yC 10) λc =>
 T.bind (rU a c) λd =>
 .ret (.inl (d,(zF (b+1)))))
  (.ret (.inr a))
def VM x s:=T.loop (eM x) s
def rA(c:Int):T (List Int) :=
 T.bind (yC 1) λa =>
 T.bind (VM c (a,0)) λb =>
 .ret b
def vo(a:(List Int)):T (List Int) :=
 let b:=0+a.length;  .zL (a=[]->∀ r,T.leads (.zL (YJ 0 0 0 0 0 a.length 4) <|
 .zL (b=b) <|
 .ret (List.drop 0 (List.take (0+b) a)):T _) r->T.leads (.ret []:T _) r) <|
 .zL (YJ 0 0 0 0 0 a.length 4) <|
 .zL (b=b) <|
 .ret (List.drop 0 (List.take (0+b) a))
def hO(c:(List Int)):T (List Int) :=
 T.bind (xN c) λa =>
 T.bind (vo a) λb =>
 .ret b
def fm(b:(List Int))(c:(List Int)):Int->T (Int⊕(Unit⊕Int))
 | a =>
 .ite (decide (0<=a))
  (oI a b <|
 oI a c <|
 .ite ((nth b a (zk (.int .u32))) != (nth c a (zk (.int .u32))))
  (oI a b <|
 oI a c <|
 .ite (decide ((nth b a (zk (.int .u32)))<(nth c a (zk (.int .u32)))))
  (.ret (.inr (.inr (-1))))
  (.ret (.inr (.inr 1))))
  (.ret (.inl (zF (a-1)))))
  (.ret (.inr (.inl ())))
def UY a2 b2 s:=T.loop (fm a2 b2) s
def mz(d:(List Int))(e:(List Int)):T Int :=
 T.bind (xN d) λa =>
 T.bind (xN e) λb =>
 .ite ((a.length:Int) != (b.length:Int))
  (.ite (decide ((a.length:Int)<(b.length:Int)))
  (.ret (-1))
  (.ret 1))
  (T.bind (UY a b (zF ((a.length:Int)-1))) <|
 Sum.elim (λ_ =>
 .ret 0)
  (λc =>
 .ret c))
def yj(b:Int)(c:Int)(a:Int):T (Int×Int) :=
 .ite ((a != 0)&&(decide (a<=b)))
  (.fail)
  (.zL (0<=(32:Int)) <|
 .zL ((zO a)≠0) <|
 .zL ((zO a)≠0) <|
 .ret ((xR (zO (Int.tdiv (Z6 .u64 (yt .u64 (zO b) 32) (zO c)) (zO a)))),(xR (Int.tmod (Z6 .u64 (yt .u64 (zO b) 32) (zO c)) (zO a)))))
def dn(e:(List Int))(g:Int):(Int×Int×(List Int))->T ((Int×Int×(List Int))⊕((Int×(List Int))))
 | (d,b,a) =>
 .ite (decide (0<=b))
  (oI b e <|
 T.bind (yj d (nth e b (zk (.int .u32))) g) λ(c,f) =>
 oI b a <|
 .zL (n9 a.length a.length (0+(Int.toNat b)) a.length) <|
 oM a.length (List.set a (0+(Int.toNat b)) c).length <|
 .ret (.inl (f,((zF (b-1)),(List.set a (0+(Int.toNat b)) c)))))
  (oC a <|
 oE a <|
 .ret (.inr (d,a)))
def Qs a1 b1 s:=T.loop (dn a1 b1) s
def dD(a:(List Int))(e:Int):T ((List Int)×Int) :=
 .zL (QU (a.length:Int) (a.length:Int) 4) <|
 oM (Int.toNat (a.length:Int)) (List.replicate (Int.toNat (a.length:Int)) (0:Int)).length <|
 T.bind (Qs a e (0,((zF ((a.length:Int)-1)),(List.replicate (Int.toNat (a.length:Int)) 0)))) λ(c,b) =>
 oE b <|
 T.bind (xN (List.drop 0 (List.take (0+b.length) b))) λd =>
 .ret (d,c)
def yl(b:Int):T Int :=
 let a:=bif (decide (65536<=b))then(wH .u32 b 16)else b;  .zL (((decide (65536<=b))=true)->(0<=(16:Int))) <|
 .zL (((decide (256<=a))=true)->(0<=(8:Int))) <|
 .zL (qw (Bg (bif (decide (256<=a))then(wH .u32 a 8)else a)) ([0,1,2,2,3,3,3,3,4,4,4,4,4,4,4,4,5,5,5,5,5,5,5,5,5,5,5,5,5,5,5,5,6,6,6,6,6,6,6,6,6,6,6,6,6,6,6,6,6,6,6,6,6,6,6,6,6,6,6,6,6,6,6,6,7,7,7,7,7,7,7,7,7,7,7,7,7,7,7,7,7,7,7,7,7,7,7,7,7,7,7,7,7,7,7,7,7,7,7,7,7,7,7,7,7,7,7,7,7,7,7,7,7,7,7,7,7,7,7,7,7,7,7,7,7,7,7,7,8,8,8,8,8,8,8,8,8,8,8,8,8,8,8,8,8,8,8,8,8,8,8,8,8,8,8,8,8,8,8,8,8,8,8,8,8,8,8,8,8,8,8,8,8,8,8,8,8,8,8,8,8,8,8,8,8,8,8,8,8,8,8,8,8,8,8,8,8,8,8,8,8,8,8,8,8,8,8,8,8,8,8,8,8,8,8,8,8,8,8,8,8,8,8,8,8,8,8,8,8,8,8,8,8,8,8,8,8,8,8,8,8,8,8,8,8,8,8,8,8,8,8,8,8,8,8,8]:ze).length) <|
 .ret (zF ((bif (decide (256<=a))then(zF ((bif (decide (65536<=b))then 16 else 0)+8))else(bif (decide (65536<=b))then 16 else 0))+(zF (qo [0,1,2,2,3,3,3,3,4,4,4,4,4,4,4,4,5,5,5,5,5,5,5,5,5,5,5,5,5,5,5,5,6,6,6,6,6,6,6,6,6,6,6,6,6,6,6,6,6,6,6,6,6,6,6,6,6,6,6,6,6,6,6,6,7,7,7,7,7,7,7,7,7,7,7,7,7,7,7,7,7,7,7,7,7,7,7,7,7,7,7,7,7,7,7,7,7,7,7,7,7,7,7,7,7,7,7,7,7,7,7,7,7,7,7,7,7,7,7,7,7,7,7,7,7,7,7,7,8,8,8,8,8,8,8,8,8,8,8,8,8,8,8,8,8,8,8,8,8,8,8,8,8,8,8,8,8,8,8,8,8,8,8,8,8,8,8,8,8,8,8,8,8,8,8,8,8,8,8,8,8,8,8,8,8,8,8,8,8,8,8,8,8,8,8,8,8,8,8,8,8,8,8,8,8,8,8,8,8,8,8,8,8,8,8,8,8,8,8,8,8,8,8,8,8,8,8,8,8,8,8,8,8,8,8,8,8,8,8,8,8,8,8,8,8,8,8,8,8,8,8,8,8,8,8,8] (Bg (bif (decide (256<=a))then(wH .u32 a 8)else a))))))
def wD(b:Int):T Int :=
 T.bind (yl b) λa =>
 .ret (zF (32-a))
def sx(e:Int)(h:Int)(f:(List Int))(i:Int):(Int×(List Int))->T ((Int×(List Int))⊕((List Int)))
 | (b,a)=>let c:=zF (b+1); let d:=List.set a (0+(Int.toNat b)) (Z6 .u32 (yE a (0+(Int.toNat b)) (zk (.int .u32))) (xR (yt .u64 (zO (nth f b (zk (.int .u32)))) e))); let g:=List.set d (0+(Int.toNat c)) (xR (wH .u64 (yt .u64 (zO (nth f b (zk (.int .u32)))) e) 32));
 .ite (decide (b<i))
  (oI b f <|
 .zL (0<=e) <|
 oI b a <|
 .zL (n9 a.length a.length (0+(Int.toNat b)) a.length) <|
 oI b a <|
 .zL (n9 a.length a.length (0+(Int.toNat b)) a.length) <|
 .ite (decide (c<h))
  (.zL (0<=(32:Int)) <|
 oI c a <|
 .zL (n9 a.length a.length (0+(Int.toNat c)) d.length) <|
 oM a.length g.length <|
 .ret (.inl (c,g)))
  (oM a.length d.length <|
 .ret (.inl (c,d))))
  (oC a <|
 oE a <|
 .ret (.inr a))
def sE by_1 n1 x x1 s:=T.loop (sx by_1 n1 x x1) s
def fc(c:(List Int))(d:Int)(a:Int):T (List Int) :=
 .zL (QU a a 4) <|
 oM (Int.toNat a) (List.replicate (Int.toNat a) (0:Int)).length <|
 T.bind (sE d a c (c.length:Int) (0,(List.replicate (Int.toNat a) 0))) λb =>
 oC b <|
 oE b <|
 .ret b
def gf(d:Int)(c:Int)(e:Int):(Int×Int)->T ((Int×Int)⊕(Int))
 | (a,b) =>
 .zL ((0<=(32:Int))/\((((wH .u64 a 32) != 0)=false)->(0<=(32:Int)))) <|
 .ite (((wH .u64 a 32) != 0)||(decide ((Z6 .u64 (yt .u64 b 32) (zO d))<(zO (a*(zO e))))))
  (.zL (0<=(32:Int)) <|
 .ite ((wH .u64 (zO (b+(zO c))) 32) != 0)
  (.ret (.inr (zO (a-1))))
  (.ret (.inl ((zO (a-1)),(zO (b+(zO c)))))))
  (.ret (.inr a))
def ZZ low1 b11 b21 s:=T.loop (gf low1 b11 b21) s
def dC(b:Int)(c:Int)(e:Int)(a:Int)(f:Int):T Int :=
 .zL (0<=(32:Int)) <|
 .zL ((zO a)≠0) <|
 .zL ((zO a)≠0) <|
 T.bind (ZZ e a f ((zO (Int.tdiv (Z6 .u64 (yt .u64 (zO b) 32) (zO c)) (zO a))),(Int.tmod (Z6 .u64 (yt .u64 (zO b) 32) (zO c)) (zO a)))) λd =>
 .ret d
def uT(a:Int)(b:Int)(c:Int):T (Int×Int) :=
 .zL (0<=(31:Int)) <|
 .ret ((xR ((xR (a-b))-c)),(wH .u32 (Z6 .u32 (FC .u32 (Fp .u32 4294967295 a) b) (FC .u32 (Fp .u32 4294967295 (Fp .u32 a b)) (xR ((xR (a-b))-c)))) 31))
def yk(a:Int)(b:Int)(c:Int):T (Int×Int) :=
 .zL (0<=(32:Int)) <|
 .ret ((xR (zO ((zO ((zO a)+(zO b)))+(zO c)))),(xR (wH .u64 (zO ((zO ((zO a)+(zO b)))+(zO c))) 32)))
def hM(l:(List Int))(i:Int)(f:(List Int))(k:Int):((Nat×Nat)×Int×Int×Int×(List Int))->T (((Nat×Nat)×Int×Int×Int×(List Int))⊕(((Nat×Nat)×Int×Int×(List Int))))
 | (c,e,h,b,a)=>let d:=c.1+(Int.toNat b);
 .ite (decide (b<k))
  (oI b f <|
 .zL (qw b c.2) <|
 .zL (n9 a.length a.length d a.length) <|
 T.bind (uT (yE a d (zk (.int .u32))) (xR (zO (e+(zO (i*(zO (nth f b (zk (.int .u32))))))))) h) λ(g,j) =>
 .zL (qw b c.2) <|
 .zL (n9 a.length a.length d a.length) <|
 .zL (0<=(32:Int)) <|
 oE a <|
 .zL (a.length=(List.set a d g).length) <|
 .ret (.inl (c,((wH .u64 (zO (e+(zO (i*(zO (nth f b (zk (.int .u32)))))))) 32),(j,((zF (b+1)),(List.set a d g)))))))
  (oE a <|
 oE a <|
 .ret (.inr (c,(e,(h,a)))))
def pO b1 q1 x x1 s:=T.loop (hM b1 q1 x x1) s
def gN(j:(List Int))(g:(List Int))(i:Int):((Nat×Nat)×Int×Int×(List Int))->T (((Nat×Nat)×Int×Int×(List Int))⊕(((Nat×Nat)×Int×(List Int))))
 | (c,f,b,a)=>let d:=c.1+(Int.toNat b);
 .ite (decide (b<i))
  (oI b g <|
 .zL (qw b c.2) <|
 .zL (n9 a.length a.length d a.length) <|
 T.bind (yk (yE a d (zk (.int .u32))) (nth g b (zk (.int .u32))) f) λ(e,h) =>
 .zL (qw b c.2) <|
 .zL (n9 a.length a.length d a.length) <|
 oE a <|
 .zL (a.length=(List.set a d e).length) <|
 .ret (.inl (c,(h,((zF (b+1)),(List.set a d e))))))
  (oE a <|
 oE a <|
 .ret (.inr (c,(f,a))))
def r9 b2 x3 x4 s:=T.loop (gN b2 x3 x4) s
def fZ(o:(Nat×Nat))(b:(List Int))(p:Int)(h:(List Int)):T (Bool×(List Int)) :=
 let d:=Int.toNat (b.length:Int);  oE h <|
 oE h <|
 T.bind (pO b p b (b.length:Int) (o,(0,(0,(0,h))))) λ(e,j,k,a) =>
 .zL (qw (b.length:Int) e.2) <|
 .zL (n9 a.length a.length (e.1+d) a.length) <|
 T.bind (uT (yE a (e.1+d) (zk (.int .u32))) (xR j) k) λ(l,m)=>let g:=List.set a (e.1+d) l;
 .zL (qw (b.length:Int) e.2) <|
 .zL (n9 a.length a.length (e.1+d) a.length) <|
 .ite (m==0)
  (.zL (a.length=g.length) <|
 .ret (false,g))
  (oE a <|
 .zL (a.length=g.length) <|
 T.bind (r9 b b (b.length:Int) (e,(0,(0,g)))) λ(f,n,c)=>let i:=List.set c (f.1+d) (xR ((yE c (f.1+d) (zk (.int .u32)))+n));
 .zL (qw (b.length:Int) f.2) <|
 .zL (n9 c.length c.length (f.1+d) c.length) <|
 .zL (qw (b.length:Int) f.2) <|
 .zL (n9 c.length c.length (f.1+d) c.length) <|
 .zL (c.length=i.length) <|
 .ret (true,i))
def cy(e:Int)(h:Int)(f:(List Int))(i:Int):(Int×(List Int))->T ((Int×(List Int))⊕((List Int)))
 | (b,a)=>let c:=zF (b+1); let d:=List.set a (0+(Int.toNat b)) (Z6 .u32 (yE a (0+(Int.toNat b)) (zk (.int .u32))) (xR (yt .u64 (zO (nth f b (zk (.int .u32)))) e))); let g:=List.set d (0+(Int.toNat c)) (xR (wH .u64 (yt .u64 (zO (nth f b (zk (.int .u32)))) e) 32));
 .ite (decide (b<i))
  (oI b f <|
 .zL (0<=e) <|
 oI b a <|
 .zL (n9 a.length a.length (0+(Int.toNat b)) a.length) <|
 oI b a <|
 .zL (n9 a.length a.length (0+(Int.toNat b)) a.length) <|
 .ite (decide (c<h))
  (.zL (0<=(32:Int)) <|
 oI c a <|
 .zL (n9 a.length a.length (0+(Int.toNat c)) d.length) <|
 oM a.length g.length <|
 .ret (.inl (c,g)))
  (oM a.length d.length <|
 .ret (.inl (c,d))))
  (oC a <|
 oE a <|
 .ret (.inr a))
def W0 by_1 n1 x x1 s:=T.loop (cy by_1 n1 x x1) s
def ZY(c:(List Int))(d:Int)(a:Int):T (List Int) :=
 .zL (QU a a 4) <|
 oM (Int.toNat a) (List.replicate (Int.toNat a) (0:Int)).length <|
 T.bind (W0 d a c (c.length:Int) (0,(List.replicate (Int.toNat a) 0))) λb =>
 oE b <|
 .ret (List.drop 0 (List.take (0+b.length) b))
def gM(e:Int)(f:(List Int))(h:Int):(Int×(List Int))->T ((Int×(List Int))⊕((List Int)))
 | (b,a)=>let d:=0+(Int.toNat (zF (b-1))); let c:=List.set a (0+(Int.toNat b)) (Z6 .u32 (yE a (0+(Int.toNat b)) (zk (.int .u32))) (xR (wH .u64 (wH .u64 (yt .u64 (zO (nth f b (zk (.int .u32)))) 32) e) 32))); let g:=List.set c d (Z6 .u32 (yE c d (zk (.int .u32))) (xR (wH .u64 (yt .u64 (zO (nth f b (zk (.int .u32)))) 32) e)));
 .ite (decide (b<h))
  (oI b f <|
 .zL (0<=(32:Int)) <|
 .zL (0<=e) <|
 oI b a <|
 .zL (n9 a.length a.length (0+(Int.toNat b)) a.length) <|
 .zL (0<=(32:Int)) <|
 oI b a <|
 .zL (n9 a.length a.length (0+(Int.toNat b)) a.length) <|
 .ite (decide (0<b))
  (oI (zF (b-1)) a <|
 .zL (n9 a.length a.length d c.length) <|
 oI (zF (b-1)) a <|
 .zL (n9 a.length a.length d c.length) <|
 oM a.length g.length <|
 .ret (.inl ((zF (b+1)),g)))
  (oM a.length c.length <|
 .ret (.inl ((zF (b+1)),c))))
  (oC a <|
 oE a <|
 .ret (.inr a))
def ZC by_ x x1 s:=T.loop (gM by_ x x1) s
def br(m:(List Int))(n:Int):T (List Int) :=
 let g:=H6 (mP n (-4096)) 4096; let d:=zF (Int.tdiv g (32:Int)); let c:=zF (Int.tdiv (zF (0-g)) (32:Int));  T.bind (xN m) λf=>let a:=(f.length:Int); let i:=zF ((zF (d+a))+1); let b:=Int.toNat i;
 .ite (decide (g<0))
  (.zL (32≠(0:Int)) <|
 .ite (decide (a<=c))
  (.ret [])
  (.zL (32≠(0:Int)) <|
 .zL (QU (zF (a-c)) (zF (a-c)) 4) <|
 .zL (yY c a f.length) <|
 oM (Int.toNat (zF (a-c))) (List.replicate (Int.toNat (zF (a-c))) (0:Int)).length <|
 T.bind (ZC (zO (Int.tmod (zF (0-g)) (32:Int))) (va (e:=(.int .u32)) c a f) (Nat.cast (va (e:=(.int .u32)) c a f).length:Int) (0,(List.replicate (Int.toNat (zF (a-c))) 0))) λh =>
 oE h <|
 T.bind (xN (List.drop 0 (List.take (0+h.length) h))) λj =>
 .ret j))
  (.zL (32≠(0:Int)) <|
 .zL (QU i i 4) <|
 .zL (yY d (Nat.cast b:Int) b) <|
 .zL (32≠(0:Int)) <|
 T.bind (ZY f (zO (Int.tmod g (32:Int))) (zF (a+1))) λk =>
 .zL (z56 b b (0+(Int.toNat d)) ((Int.toNat (Nat.cast b:Int))-(Int.toNat d)) (List.replicate b (0:Int)).length) <|
 .zL (b=b) <|
 T.bind (xN (List.drop 0 (List.take (0+b) (kG (0+(Int.toNat d)) ((Int.toNat (Nat.cast b:Int))-(Int.toNat d)) (List.replicate b 0) k)))) λl =>
 .ret l)
def c9(m:Int)(g:(List Int))(c:Int):(Int×(List Int)×(List Int))->T ((Int×(List Int)×(List Int))⊕(((List Int)×(List Int))))
 | (b,a,d) =>
 .ite (decide (0<=b))
  (oI (zF (b+c)) a <|
 .zL (n9 a.length a.length (0+(Int.toNat (zF (b+c)))) a.length) <|
 oI (zF ((zF (b+c))-1)) a <|
 .zL (n9 a.length a.length (0+(Int.toNat (zF ((zF (b+c))-1)))) a.length) <|
 oI (zF ((zF (b+c))-2)) a <|
 .zL (n9 a.length a.length (0+(Int.toNat (zF ((zF (b+c))-2)))) a.length) <|
 oI (zF (c-1)) g <|
 oI (zF (c-2)) g <|
 T.bind (dC (yE a (0+(Int.toNat (zF (b+c)))) (zk (.int .u32))) (yE a (0+(Int.toNat (zF ((zF (b+c))-1)))) (zk (.int .u32))) (yE a (0+(Int.toNat (zF ((zF (b+c))-2)))) (zk (.int .u32))) (nth g (zF (c-1)) (zk (.int .u32))) (nth g (zF (c-2)) (zk (.int .u32)))) λh =>
 T.bind (.zL (yY b (zF ((zF (b+c))+1)) a.length) <|
 oE a <|
 oE a <|
 T.bind (fZ ((0+(Int.toNat b)),((Int.toNat (zF ((zF (b+c))+1)))-(Int.toNat b))) g h a) λ(k,f) =>
 .ite k
  (oC d <|
 .zL (ux a.length 0 a.length f.length) <|
 oE f <|
 oE d <|
 .ret ((zO (h-1)),(f,d)))
  (oC d <|
 .zL (ux a.length 0 a.length f.length) <|
 oE f <|
 oE d <|
 .ret (h,(f,d))):T ((Int×(List Int)×(List Int)))) λ(l,i,e)=>let j:=List.set e (0+(Int.toNat b)) (xR l);
 oI b e <|
 .zL (n9 e.length e.length (0+(Int.toNat b)) e.length) <|
 .zL (ux e.length 0 e.length j.length) <|
 oC i <|
 oE i <|
 .zL (e.length=j.length) <|
 .ret (.inl ((zF (b-1)),(i,j))))
  (oC d <|
 oC a <|
 oE a <|
 oE d <|
 .ret (.inr (a,d)))
def XZ by_ d n s:=T.loop (c9 by_ d n) s
def Qb(i:(List Int))(c:(List Int)):T ((List Int)×(List Int)) :=
 oI (zF ((c.length:Int)-1)) c <|
 T.bind (wD (nth c (zF ((c.length:Int)-1)) (zk (.int .u32)))) λf =>
 T.bind (fc i (zO f) (zF ((i.length:Int)+1))) λg =>
 T.bind (fc c (zO f) (c.length:Int)) λa=>let j:=zF ((zF ((i.length:Int)-(a.length:Int)))+1); let b:=Int.toNat j;
 .zL (QU j j 4) <|
 oE a <|
 .zL (ux b 0 b (List.replicate b (0:Int)).length) <|
 oC g <|
 oE g <|
 .zL (b=(List.replicate b (0:Int)).length) <|
 T.bind (XZ (zO f) (List.drop 0 (List.take (0+a.length) a)) (a.length:Int) ((zF ((Nat.cast b:Int)-1)),(g,(List.replicate b 0)))) λ(d,h) =>
 oE h <|
 oE d <|
 T.bind (xN (List.drop 0 (List.take (0+h.length) h))) λk =>
 .zL (yY 0 (a.length:Int) (List.drop 0 (List.take (0+d.length) d)).length) <|
 T.bind (br (va (e:=(.int .u32)) 0 (a.length:Int) (List.drop 0 (List.take (0+d.length) d))) (zF (0-(zF (zO f))))) λl =>
 .ret (k,l)
def yw(j:(List Int))(k:(List Int)):T ((List Int)×(List Int)×Bool) :=
 T.bind (xN j) λb =>
 T.bind (xN k) λa =>
 .ite ((a.length:Int)==0)
  (.ret ([],([],false)))
  (T.bind (mz b a) λc =>
 .ite (decide (c<0))
  (T.bind (hO b) λd =>
 .ret ([],(d,true)))
  (.ite ((a.length:Int)==1)
  (oI 0 a <|
 T.bind (dD b (nth a 0 (zk (.int .u32)))) λ(e,f) =>
 T.bind (yC (zO f)) λg =>
 .ret (e,(g,true)))
  (T.bind (Qb b a) λ(h,i) =>
 .ret (h,(i,true)))))
def fk  : ((List Int)×(List Int))->T (((List Int)×(List Int))⊕((List Int)))
 | (b,a) =>
 .ite (decide (0<(a.length:Int)))
  (T.bind (yw b a) λ(d,c,e) =>
 .ret (.inl (a,c)))
  (.ret (.inr b))
def Ud(s:((List Int)×(List Int))):T ((List Int)):=T.loop (fk ) s
def Zu(d:(List Int))(e:(List Int)):T (List Int) :=
 T.bind (hO d) λa =>
 T.bind (hO e) λb =>
 T.bind (Ud  (a,b)) λc =>
 .ret c
def nG(g:Bool)(h:(List Int))(i:(List Int)):T Rat :=
 T.bind (hO h) λa =>
 T.bind (hO i) λb =>
 .ite (((a.length:Int)==0)||((b.length:Int)==0))
  (T.bind (yC 1) λd =>
 .ret (false,(([]:List Int),(d,()))))
  (T.bind (Zu a b) λc =>
 T.bind (yw a c) λ(e,j,k) =>
 T.bind (yw b c) λ(f,l,m) =>
 .ret (g,(e,(f,()))))
def wu(f:ze):T (Rat×Int) :=
 .ite (decide (400<(f.length:Int)))
  (.ret ((false,(([]:List Int),(([]:List Int),()))),3))
  (T.bind (strings_CutPrefix f [45]) λ(c,d) =>
 T.bind (strings_Cut c [46]) λ(b,a,g) =>
 .ite g
  (T.bind (vt a) λ(t,h) =>
 oK b a <|
 T.bind (vt (cat b a)) λ(i,j) =>
 .ite ((zh b [])||((!h)||(!j)))
  (.ret ((false,(([]:List Int),(([]:List Int),()))),2))
  (T.bind (rA (a.length:Int)) λk =>
 T.bind (nG d i k) λl =>
 .ret (l,0)))
  (T.bind (strings_Cut c [47]) λ(m,n,o) =>
 T.bind (vt m) λ(p,q) =>
 T.bind (vt (bif (!o)then[49]else n)) λ(e,r) =>
 .ite ((!q)||((!r)||((e.length:Int)==0)))
  (.ret ((false,(([]:List Int),(([]:List Int),()))),2))
  (T.bind (nG d p e) λs =>
 .ret (s,0))))
def ua(i:zc):T ((AM.Expr×zc)⊕(zX×zc)) :=
 T.bind (qX (λe=>xI e) (i.1.length:Int) i) λ(c,a) =>
 T.bind (.zL (((decide (a.2.1<(a.1.length:Int)))=true)->(qw a.2.1 a.1.length)) <|
 .ite ((decide (a.2.1<(a.1.length:Int)))&&((qo a.1 a.2.1)==46))
  (T.bind (qX (λe=>xI e) (a.1.length:Int) (a.1,((zF (a.2.1+1)),(a.2.2.1,(a.2.2.2.1,()))))) λ(b,f) =>
 .ite (zh b [])
  (T.bind (xM 2 f.2.1 f) <|
 Sum.elim (λj =>
 oK [46] b <|
 oK c (cat [46] b) <|
 .ret (.inl ((cat c (cat [46] b)),(j,(Expr.mk 0 (false,([],([],()))) [] [])))))
  (λ(k,l) =>
 .ret (.inr (k,(l,(Expr.mk 0 (false,([],([],()))) [] []))))))
  (oK [46] b <|
 oK c (cat [46] b) <|
 .ret (.inl ((cat c (cat [46] b)),(f,(Expr.mk 0 (false,([],([],()))) [] []))))))
  (.ret (.inl (c,(a,(Expr.mk 0 (false,([],([],()))) [] []))))):T ((ze×zc×AM.Expr)⊕(zX×zc×AM.Expr))) <|
 Sum.elim (λ(h,d,o) =>
 .ite (decide (400<(h.length:Int)))
  (.ret (.inl ((Expr.mk 1 (false,([],([],()))) [] []),(d.1,(d.2.1,(d.2.2.1,(true,())))))))
  (T.bind (wu h) λ(g,p) =>
 .ret (.inl ((Expr.mk 1 (g.1,(g.2.1,(g.2.2.1,()))) [] []),d))))
  (λ(m,n,q) =>
 .ret (.inr (m,n)))
def xW(V:zc->T ((AM.Expr×zc)⊕(zX×zc)))(W:zc->T ((AM.Expr×zc)⊕(zX×zc)))(X:zc):T ((AM.Expr×zc)⊕(zX×zc)) :=
 T.bind (qY [45,40] X) λ(h,a)=>let j:=(a,(Expr.mk 0 (false,([],([],()))) [] []));
 .ite (h==45)
  (T.bind (wK a) <|
 Sum.elim (λk =>
 T.bind (V k) <|
 Sum.elim (λ(l,c) =>
 .ret (.inl ((Expr.mk 7 (false,([],([],()))) [] [l]),(c.1,(c.2.1,((zF (c.2.2.1-1)),(c.2.2.2.1,())))))))
  (λ(m,n) =>
 .ret (.inr (m,n))))
  (λ(o,p) =>
 .ret (.inr (o,p))))
  (.ite (h==40)
  (T.bind (wK a) <|
 Sum.elim (λq =>
 T.bind (W q) <|
 Sum.elim (λ(r,s)=>let g:=((Expr.mk 0 (false,([],([],()))) [] []),r);
 T.bind (T.bind (qY [41] s) λ(t,e) =>
 .ite (t==0)
  (T.bind (xM 2 e.2.1 e) <|
 Sum.elim (λu =>
 .ret (.inl (u,g)))
  (λ(v,w) =>
 .ret (.inr (v,(w,g)))))
  (.ret (.inl (e,g))):T ((zc×AM.Expr×AM.Expr)⊕(zX×zc×AM.Expr×AM.Expr))) <|
 Sum.elim (λ(d,Y,x) =>
 .ret (.inl (x,(d.1,(d.2.1,((zF (d.2.2.1-1)),(d.2.2.2.1,())))))))
  (λ(y,z,Z,aa) =>
 .ret (.inr (y,z))))
  (λ(A,B) =>
 .ret (.inr (A,B))))
  (λ(C,D) =>
 .ret (.inr (C,D))))
  (T.bind (.ite (decide (a.2.1<(a.1.length:Int)))
  (oI a.2.1 a.1 <|
 T.bind (xI (qo a.1 a.2.1)) λE =>
 .ret (E,j))
  (.ret (false,j)):T ((Bool×zc×AM.Expr))) λ(G,b,i) =>
 .ite G
  (T.bind (ua b) <|
 Sum.elim (λ(H,I) =>
 .ret (.inl (H,I)))
  (λ(J,K) =>
 .ret (.inr (J,K))))
  (T.bind (.ite (decide (b.2.1<(b.1.length:Int)))
  (oI b.2.1 b.1 <|
 T.bind (wG (qo b.1 b.2.1)) λL =>
 .ret (L,(b,i)))
  (.ret (false,(b,i))):T ((Bool×zc×AM.Expr))) λ(M,f,ab) =>
 .ite M
  (T.bind (qX (λN=>vf N) 24 f) λ(O,P) =>
 .ret (.inl ((Expr.mk 2 (false,([],([],()))) O []),P)))
  (T.bind (xM 2 f.2.1 f) <|
 Sum.elim (λR =>
 .ret (.inl ((Expr.mk 0 (false,([],([],()))) [] []),R)))
  (λ(S,U) =>
 .ret (.inr (S,U)))))))
def xm(wO:zc->T ((AM.Expr×zc)⊕(zX×zc)))(p:zc):T ((AM.Expr×zc)⊕(zX×zc)):=T.fix (λF x=>xW (λy0=>F (y0)) wO x) p
def wA(l:zc->T ((AM.Expr×zc)⊕(zX×zc)))(f:ze)(m:zX):(zc×AM.Expr×AM.Expr)->T ((zc×AM.Expr×AM.Expr)⊕((zc×AM.Expr×AM.Expr)⊕(zX×zc×AM.Expr×AM.Expr)))
 | (k,e,a) =>
 T.bind (qY f k) λ(b,c) =>
 .ite (b==0)
  (.ret (.inr (.inl (c,(a,a)))))
  (T.bind ((xm l) c) <|
 Sum.elim (λ(g,h) =>
 T.bind (strings_IndexByte f b) λd =>
 .zL (qw d 2) <|
 .ret (.inl (h,(e,(Expr.mk (pW (.int .i64) xo m (Int.toNat d)) (false,([],([],()))) [] [a,g])))))
  (λ(i,j) =>
 .ret (.inr (.inr (i,(j,(e,a)))))))
def jt wO Xi UJ s:=T.loop (wA wO Xi UJ) s
def xA(a:zc->T ((AM.Expr×zc)⊕(zX×zc)))(p:(Unit))(j:ze)(k:zX)(l:zc):T ((AM.Expr×zc)⊕(zX×zc)) :=
 T.bind ((xm a) l) <|
 Sum.elim (λ(b,c) =>
 T.bind (jt a j k (c,((Expr.mk 0 (false,([],([],()))) [] []),b))) <|
 Sum.elim (λ(d,e,m) =>
 .ret (.inl (e,d)))
  (λ(f,g,n,o) =>
 .ret (.inr (f,g))))
  (λ(h,i) =>
 .ret (.inr (h,i)))
def xa(e:zc->T ((AM.Expr×zc)⊕(zX×zc)))(f:zc):T ((AM.Expr×zc)⊕(zX×zc)) :=
 T.bind ((xA e) () [42,47] ((5:Int),((6:Int),())) f) <|
 Sum.elim (λ(a,b) =>
 .ret (.inl (a,b)))
  (λ(c,d) =>
 .ret (.inr (c,d)))
def wj(l:zc->T ((AM.Expr×zc)⊕(zX×zc)))(f:ze)(m:zX):(zc×AM.Expr×AM.Expr)->T ((zc×AM.Expr×AM.Expr)⊕((zc×AM.Expr×AM.Expr)⊕(zX×zc×AM.Expr×AM.Expr)))
 | (k,e,a) =>
 T.bind (qY f k) λ(b,c) =>
 .ite (b==0)
  (.ret (.inr (.inl (c,(a,a)))))
  (T.bind ((xa l) c) <|
 Sum.elim (λ(g,h) =>
 T.bind (strings_IndexByte f b) λd =>
 .zL (qw d 2) <|
 .ret (.inl (h,(e,(Expr.mk (pW (.int .i64) xo m (Int.toNat d)) (false,([],([],()))) [] [a,g])))))
  (λ(i,j) =>
 .ret (.inr (.inr (i,(j,(e,a)))))))
def jg wO Xi UJ s:=T.loop (wj wO Xi UJ) s
def xv(a:zc->T ((AM.Expr×zc)⊕(zX×zc)))(p:(Unit))(j:ze)(k:zX)(l:zc):T ((AM.Expr×zc)⊕(zX×zc)) :=
 T.bind ((xa a) l) <|
 Sum.elim (λ(b,c) =>
 T.bind (jg a j k (c,((Expr.mk 0 (false,([],([],()))) [] []),b))) <|
 Sum.elim (λ(d,e,m) =>
 .ret (.inl (e,d)))
  (λ(f,g,n,o) =>
 .ret (.inr (f,g))))
  (λ(h,i) =>
 .ret (.inr (h,i)))
def uz(e:zc->T ((AM.Expr×zc)⊕(zX×zc)))(f:zc):T ((AM.Expr×zc)⊕(zX×zc)) :=
 T.bind ((xv e) () [43,45] ((3:Int),((4:Int),())) f) <|
 Sum.elim (λ(a,b) =>
 .ret (.inl (a,b)))
  (λ(c,d) =>
 .ret (.inr (c,d)))
def ud(p:zc):T ((AM.Expr×zc)⊕(zX×zc)):=T.fix (λF x=>uz (λy0=>F (y0)) x) p
def jW(a:AM.Expr)(b:Int)(c:Int):T (AM.Expr×Int×Int) :=
 .ite false
  (.fail)
  (.ret (a,(b,c)))
def jh(a:zX)(b:AM.Expr)(c:Int)(d:Int):T (AM.Expr×Int×Int) :=
 .ite true
  (.ite (!true)
  (.fail)
  (.ret ((Expr.mk 0 (false,([],([],()))) [] []),(a.2.1,a.1))))
  (.ret (b,(c,d)))
def jq(t:zc):T (AM.Expr×Int×Int×zc) :=
 T.bind (ud t) <|
 Sum.elim (λ(b,a) =>
 .ite (decide (a.2.1<(a.1.length:Int)))
  (T.bind (xM 2 a.2.1 a) <|
 Sum.elim (λc =>
 T.bind (jW b 0 0) λ(d,e,f) =>
 .ret (d,(e,(f,c))))
  (λ(g,h) =>
 T.bind (jh g b 0 0) λ(i,j,k) =>
 .ret (i,(j,(k,h)))))
  (T.bind (jW b 0 0) λ(l,m,n) =>
 .ret (l,(m,(n,a)))))
  (λ(o,p) =>
 T.bind (jh o (Expr.mk 0 (false,([],([],()))) [] []) 0 0) λ(q,r,s) =>
 .ret (q,(r,(s,p))))
def rT(a:Int):T Int :=
 .ite (bif (a==1)then(a==1)else(a==2))
  (.ret 0)
  (.ite (a==7)
  (.ret 1)
  (.ite (a==3)
  (.ret 2)
  (.ite (a==4)
  (.ret 2)
  (.ite (a==5)
  (.ret 2)
  (.ite (a==6)
  (.ret 2)
  (.ret (-1)))))))
def tQ(a:Rat):T Bool :=
 T.bind (T.bind (ft a.2.1) λb =>
 .ite (!b)
  (.ret true)
  (T.bind (ft a.2.2.1) λc =>
 .ite (!c)
  (.ret true)
  (.ite ((a.2.2.1.length:Int)==0)
  (.ret true)
  (.ite a.1
  (.ret ((a.2.1.length:Int)==0))
  (.ret false)))):T (Bool)) λd =>
 .ite d
  (.ret false)
  (T.bind (Zu a.2.1 a.2.2.1) λe =>
 T.bind (yC 1) λf =>
 T.bind (mz e f) λg =>
 .ret (g==0))
def eB(a:Rat):T Rat :=
 T.bind (nG a.1 a.2.1 a.2.2.1) λb =>
 .ret b
def dL(b:Rat):T Bool :=
 T.bind (eB b) λa =>
 .ret ((decide (16<(a.2.1.length:Int)))||(decide (16<(a.2.2.1.length:Int))))
def oF(a:Rat):T ze :=
 .ite a.1
  (.ret [45])
  (.ret [])
def xQ  : ((Nat×Nat)×Int×Int×(List Int))->T (((Nat×Nat)×Int×Int×(List Int))⊕((List Int)))
 | (b,c,d,a)=>let e:=List.set a (b.1+(Int.toNat c)) (yE a (b.1+(Int.toNat d)) (zk (.int .u8))); let f:=List.set e (b.1+(Int.toNat d)) (yE a (b.1+(Int.toNat c)) (zk (.int .u8)));
 .ite (decide (c<d))
  (.zL (qw d b.2) <|
 .zL (n9 a.length a.length (b.1+(Int.toNat d)) a.length) <|
 .zL (qw c b.2) <|
 .zL (n9 a.length a.length (b.1+(Int.toNat c)) a.length) <|
 .zL (qw c b.2) <|
 .zL (n9 a.length a.length (b.1+(Int.toNat c)) a.length) <|
 .zL (qw d b.2) <|
 .zL (n9 a.length a.length (b.1+(Int.toNat d)) e.length) <|
 oE a <|
 .zL (a.length=f.length) <|
 .ret (.inl (b,((zF (c+1)),((zF (d-1)),f)))))
  (oE a <|
 .ret (.inr a))
def jl(s:((Nat×Nat)×Int×Int×(List Int))):T ((List Int)):=T.loop (xQ ) s
def wJ(c:(Nat×Nat))(a:(List Int)):T (List Int) :=
 oE a <|
 oE a <|
 T.bind (jl  (c,(0,((zF ((Nat.cast c.2:Int)-1)),a)))) λb =>
 oE b <|
 .ret b
def gF(e:(List Int)):(Int×Int×(List Int))->T ((Int×Int×(List Int))⊕((List Int)))
 | (b,c,a)=>let d:=a++([(qo [48,49,50,51,52,53,54,55,56,57] (Int.tmod b (10:Int)))]:List Int);
 .ite (decide (c<9))
  (.zL (10≠(0:Int)) <|
 oI (Int.tmod b (10:Int)) ([48,49,50,51,52,53,54,55,56,57]:ze) <|
 oA a 1 <|
 .zL (10≠(0:Int)) <|
 oM (a.length+1) d.length <|
 .ret (.inl ((xR (Int.tdiv b (10:Int))),((zF (c+1)),d))))
  (oC a <|
 oE a <|
 .ret (.inr a))
def nA q1 s:=T.loop (gF q1) s
def gZ  : ((List Int)×(List Int))->T (((List Int)×(List Int))⊕((List Int)))
 | (d,a) =>
 .ite (decide (0<(d.length:Int)))
  (T.bind (dD d 1000000000) λ(c,e) =>
 oC a <|
 oE a <|
 T.bind (nA c (e,(0,a))) λb =>
 oC b <|
 oE b <|
 .ret (.inl (c,b)))
  (oC a <|
 oE a <|
 .ret (.inr a))
def mc(s:((List Int)×(List Int))):T ((List Int)):=T.loop (gZ ) s
def gb  : ((Nat×Nat)×(List Int))->T (((Nat×Nat)×(List Int))⊕(((Nat×Nat)×(List Int))))
 | (b,a)=>let c:=zF ((Nat.cast b.2:Int)-1);
 .zL (((decide (1<(Nat.cast b.2:Int)))=true)->((qw c b.2)/\(n9 a.length a.length (b.1+(Int.toNat c)) a.length))) <|
 .ite ((decide (1<(Nat.cast b.2:Int)))&&((yE a (b.1+(Int.toNat c)) (zk (.int .u8)))==48))
  (.zL (yY 0 c b.2) <|
 oE a <|
 oE a <|
 .ret (.inl (((b.1+(Int.toNat 0)),((Int.toNat c)-(Int.toNat 0))),a)))
  (oE a <|
 oE a <|
 .ret (.inr (b,a)))
def Zz(s:((Nat×Nat)×(List Int))):T (((Nat×Nat)×(List Int))):=T.loop (gb ) s
def dK(f:(List Int)):T ze :=
 T.bind (hO f) λd =>
 .ite ((d.length:Int)==0)
  (.ret [48])
  (oZ <|
 T.bind (mc  (d,[])) λa =>
 oE a <|
 oE a <|
 T.bind (Zz  ((0,a.length),a)) λ(b,c) =>
 oE c <|
 oE c <|
 T.bind (wJ b c) λe =>
 .zL (c.length=e.length) <|
 .ret (qG (List.drop b.1 (List.take (b.1+b.2) e))))
def strings_Repeat(b:ze)(a:Int):T ze :=
 .zL (0<=a/\a<=9223372036854775807/\b.length*(Int.toNat a)<=140737488355328) <|
 .ret (jS b (Int.toNat a))
def iw(a:ze)(e:Int):T ze :=
 .ite (e==0)
  (.ret a)
  (T.bind (strings_Repeat [48] (mP 0 (zF ((zF (e+1))-(a.length:Int))))) λb=>let d:=((cat b a).length:Int); let c:=zF (d-e);
 oK b a <|
 .zL (yY 0 c (cat b a).length) <|
 oK (vw 0 c (cat b a)) [46] <|
 .zL (yY c d (cat b a).length) <|
 oK (cat (vw 0 c (cat b a)) [46]) (vw c d (cat b a)) <|
 .ret (cat (cat (vw 0 c (cat b a)) [46]) (vw c d (cat b a))))
def k8  : (Int×Rat)->T ((Int×Rat)⊕(Rat⊕(ze×Bool×Rat)))
 | (b,a) =>
 .ite (decide (b<61))
  (T.bind (rA b) λe =>
 T.bind (rU a.2.1 e) λf =>
 T.bind (yw f a.2.2.1) λ(g,h,j) =>
 .ite ((h.length:Int)==0)
  (T.bind (oF a) λc =>
 T.bind (dK g) λi =>
 T.bind (iw i b) λd =>
 oK c d <|
 .ret (.inr (.inr ((cat c d),(true,a)))))
  (.ret (.inl ((zF (b+1)),a))))
  (.ret (.inr (.inl a)))
def Qy(s:(Int×Rat)):T (Rat⊕(ze×Bool×Rat)):=T.loop (k8 ) s
def lq(d:Rat):T (ze×Bool) :=
 T.bind (eB d) λa =>
 T.bind (Qy  (0,a)) <|
 Sum.elim (λe =>
 .ret ([],false))
  (λ(b,c,f) =>
 .ret (b,c))
def mZ(a:Rat):T Bool :=
 T.bind (T.bind (tQ a) λb =>
 .ite (!b)
  (.ret true)
  (.ite a.1
  (.ret true)
  (T.bind (dL a) λc =>
 .ret c)):T (Bool)) λd =>
 .ite d
  (.ret false)
  (T.bind (lq a) λ(f,e) =>
 .ret e)
def c6(a:Rat):T Bool :=
 .ite (!a.1)
  (.ite ((a.2.1.length:Int)==0)
  (.ite ((a.2.2.1.length:Int)==0)
  (.ret true)
  (T.bind (tQ a) λb =>
 .ret b))
  (.ret false))
  (.ret false)
def yP(a:AM.Expr):T Bool :=
 T.bind (rT (Expr.kind a)) λb =>
 .ite (((Expr.kids a).length:Int) != b)
  (.ret false)
  (.ite ((Expr.kind a)==1)
  (T.bind (mZ (Expr.num a)) λc =>
 .ite c
  (.ret (zh (Expr.name a) []))
  (.ret false))
  (.ite ((Expr.kind a)==2)
  (T.bind (c6 (Expr.num a)) λd =>
 .ite d
  (T.bind (xi (Expr.name a)) λe =>
 .ret e)
  (.ret false))
  (T.bind (c6 (Expr.num a)) λf =>
 .ite f
  (.ret (zh (Expr.name a) []))
  (.ret false))))
def j6(c:AM.Expr->Int->Int->T (Bool×Int))(d:AM.Expr)(e:Int)(f:Int):T (Bool×Int) :=
 T.bind (c d (zF (e+1)) f) λ(a,b) =>
 .ret ((!a),b)
def zB(g:AM.Expr->Int->Int->T (Bool×Int))(e:(List AM.Expr))(h:Int):((Int×Unit)×Int×Int)->T (((Int×Unit)×Int×Int)⊕(Int⊕(Int×Int)))
 | (c,a,d) =>
 .ite (decide (a<h))
  (oI a e <|
 T.bind ((j6 g) (nth e a (zk .expr)) c.1 d) λ(f,b) =>
 .ite f
  (.ret (.inr (.inr (a,b))))
  (.ret (.inl ((c.1,()),((zF (a+1)),b)))))
  (.ret (.inr (.inl d)))
def zP self_expr_may s1 x s:=T.loop (zB self_expr_may s1 x) s
def qD(e:AM.Expr->Int->Int->T (Bool×Int))(a:(List AM.Expr))(f:(Int×Unit))(g:Int):T (Int×Int) :=
 T.bind (zP e a (a.length:Int) ((f.1,()),(0,g))) <|
 Sum.elim (λb =>
 .ret ((-1),b))
  (λ(c,d) =>
 .ret (c,d))
def q7(c:AM.Expr->Int->Int->T (Bool×Int))(d:(List AM.Expr))(e:(Int×Unit))(f:Int):T (Bool×Int) :=
 T.bind ((qD c) d (e.1,()) f) λ(a,b) =>
 .ret ((decide (0<=a)),b)
def gJ(i:AM.Expr->Int->Int->T (Bool×Int))(c:AM.Expr)(d:Int)(a:Int):T (Bool×Int) :=
 T.bind (.ite (decide ((zF (a-1))<0))
  (.ret (true,(zF (a-1))))
  (.ite (decide (32<=d))
  (.ret (true,(zF (a-1))))
  (T.bind (yP c) λe =>
 .ret ((!e),(zF (a-1))))):T ((Bool×Int))) λ(f,b) =>
 .ite f
  (.ret (false,b))
  (T.bind ((q7 i) (Expr.kids c) (d,()) b) λ(g,h) =>
 .ret ((!g),h))
def jy(e:AM.Expr)(deep:Int)(left:Int):T (Bool×Int):=T.fix (λF x=>gJ (λy0 y1 y2=>F (y0,y1,y2)) x.1 x.2.1 x.2.2) (e,deep,left)
def uA(b:AM.Expr):T Bool :=
 T.bind (jy b 0 256) λ(a,c) =>
 .ret a
def jz(i:ze):T (AM.Expr×Int×Int) :=
 T.bind (jq (i,((0:Int),((0:Int),(false,()))))) λ(a,e,b,c)=>let d:=((Expr.mk 0 (false,([],([],()))) [] []),(c,a));
 .ite (b != 0)
  (.ret ((Expr.mk 0 (false,([],([],()))) [] []),(e,b)))
  (T.bind (.ite c.2.2.2.1
  (.ret (true,d))
  (T.bind (uA a) λf =>
 .ret ((!f),d)):T ((Bool×AM.Expr×zc×AM.Expr))) λ(g,j,k,h) =>
 .ite g
  (.ret ((Expr.mk 0 (false,([],([],()))) [] []),(0,3)))
  (.ret (h,(0,0))))
def strings_Contains(a:ze)(b:ze):T Bool :=
 .zL (a.length<4294967281) <|
 .ret (decide (0<=cV a b))
def vz(b:ze)(v:ze):T (AM.Expr×AM.Expr×ze×Int) :=
 T.bind (strings_IndexAny b [60,61]) λa=>let c:=vw (zF (a+1)) (b.length:Int) b;
 .ite (decide (a<0))
  (.ret ((Expr.mk 0 (false,([],([],()))) [] []),((Expr.mk 0 (false,([],([],()))) [] []),([],2))))
  (.zL (yY 0 a b.length) <|
 .zL (yY (zF (a+1)) (b.length:Int) b.length) <|
 .zL (yY a (zF (a+1)) b.length) <|
 T.bind (T.bind (.ite (zh (vw a (zF (a+1)) b) [60])
  (T.bind (strings_HasPrefix c [61]) λm =>
 .ret (m,((Expr.mk 0 (false,([],([],()))) [] []),(Expr.mk 0 (false,([],([],()))) [] []))))
  (.ret (false,((Expr.mk 0 (false,([],([],()))) [] []),(Expr.mk 0 (false,([],([],()))) [] [])))):T ((Bool×AM.Expr×AM.Expr))) λ(n,e,f) =>
 .ite n
  (.zL (yY 1 (c.length:Int) c.length) <|
 .ret ([60,61],((vw 1 (c.length:Int) c),(e,f))))
  (.ret ((vw a (zF (a+1)) b),(c,(e,f)))):T ((ze×ze×AM.Expr×AM.Expr))) λ(g,o,w,p) =>
 T.bind (jz (vw 0 a b)) λ(d,x,h) =>
 .ite (h != 0)
  (.ret (d,(p,([],h))))
  (T.bind (T.bind (jz o) λ(i,y,j) =>
 T.bind (.ite (j==0)
  (T.bind (strings_Contains v g) λq =>
 .ret ((!q),(d,i)))
  (.ret (false,(d,i))):T ((Bool×AM.Expr×AM.Expr))) λ(r,k,l) =>
 .ite r
  (.ret (2,(k,l)))
  (.ret (j,(k,l))):T ((Int×AM.Expr×AM.Expr))) λ(s,t,u) =>
 .ret (t,(u,(g,s)))))
def wQ  : T (List ze) :=
 .ret ([[61],[60],[60,61]]:List ze)
def qN(b:(List ze))(c:ze)(d:Int):Int->T (Int⊕(Unit⊕Int))
 | a =>
 .ite (decide (a<d))
  (oI a b <|
 .ite (zh c (nth b a (zk .str)))
  (.ret (.inr (.inr a)))
  (.ret (.inl (zF (a+1)))))
  (.ret (.inr (.inl ())))
def kI s1 v1 x s:=T.loop (qN s1 v1 x) s
def qQ(a:(List ze))(c:ze):T Int :=
 T.bind (kI a c (a.length:Int) 0) <|
 Sum.elim (λ_ =>
 .ret (-1))
  (λb =>
 .ret b)
def xJ  : T (List ze) :=
 .ret ([[114,101,113,117,105,114,101,100],[115,116,114,111,110,103],[109,101,100,105,117,109],[119,101,97,107]]:List ze)
def we(b:(List ze))(c:ze):T Bool :=
 T.bind (qQ b c) λa =>
 .ret (decide (0<=a))
def wa(a:(List ze))(b:Int)(c:Int)(d:ze):T Bool :=
 .zL ((((a.length:Int)==b)=true)->(qw c a.length)) <|
 .ret (((a.length:Int)==b)&&(zh (nth a c (zk .str)) d))
def jR(b:(List ze))(a:Int):T (ze×Bool) :=
 .ite ((b.length:Int)==a)
  (.ret ([],true))
  (T.bind (T.bind (wa b (zF (a+2)) a [119,104,101,110]) λc =>
 .ite c
  (oI (zF (a+1)) b <|
 T.bind (xi (nth b (zF (a+1)) (zk .str))) λd =>
 .ret d)
  (.ret false):T (Bool)) λe =>
 .ite e
  (oI (zF (a+1)) b <|
 .ret ((nth b (zF (a+1)) (zk .str)),true))
  (.ret ([],false)))
def vd(i:(List ze))(x:ze)(z:(Unit))(k:(List Switch))(l:(List Param))(j:(List xj))(m:(List Field))(n:(List qH))(o:(List Check)):T (Int×(Unit)×(List Switch)×(List Param)×(List xj)×(List Field)×(List qH)×(List Check)) :=
 let p:=((),(k,(l,(j,(m,(n,o))))));  T.bind (.ite ((i.length:Int) != 2)
  (oY k l j m n o <|
 .ret (true,p))
  (oI 1 i <|
 T.bind (xi (nth i 1 (zk .str))) λr =>
 .ite (!r)
  (oY k l j m n o <|
 .ret (true,p))
  (oY k l j m n o <|
 .ret (((j.length:Int)==0),p))):T ((Bool×(Unit)×(List Switch)×(List Param)×(List xj)×(List Field)×(List qH)×(List Check)))) λ(s,y,e,f,b,g,h,a) =>
 .ite s
  (oY e f b g h a <|
 .ret (2,((),(e,(f,(b,(g,(h,a))))))))
  (oI 1 i <|
 T.bind (vz x [60,61]) λ(c,d,t,u) =>
 T.bind (wQ) λv =>
 T.bind (qQ v t) λw=>let q:=a++([((nth i 1 (zk .str)),((zF ((b.length:Int)-1)),(w,((Expr.mk (Expr.kind c) ((Expr.num c).1,((Expr.num c).2.1,((Expr.num c).2.2.1,()))) (Expr.name c) (Expr.kids c)),((Expr.mk (Expr.kind d) ((Expr.num d).1,((Expr.num d).2.1,((Expr.num d).2.2.1,()))) (Expr.name d) (Expr.kids d)),())))))]:List Check);
 oA a 240 <|
 oC e <|
 oC f <|
 oC b <|
 oC g <|
 oC h <|
 .zL (ux (a.length+1) 0 (a.length+1) q.length) <|
 oE e <|
 oE f <|
 oE b <|
 oE g <|
 oE h <|
 .zL ((a.length+1)=q.length) <|
 .ret (u,((),(e,(f,(b,(g,(h,q))))))))
def wo(a:(List ze))(A:ze)(D:(Unit))(j:(List Switch))(k:(List Param))(l:(List xj))(m:(List Field))(n:(List qH))(o:(List Check)):T (Int×(Unit)×(List Switch)×(List Param)×(List xj)×(List Field)×(List qH)×(List Check)) :=
 let p:=((),(j,(k,(l,(m,(n,o))))));  T.bind (.ite (decide ((a.length:Int)<3))
  (oY j k l m n o <|
 .ret (true,p))
  (T.bind (xJ) λr =>
 oI 1 a <|
 T.bind (we r (nth a 1 (zk .str))) λs =>
 .ite (!s)
  (oY j k l m n o <|
 .ret (true,p))
  (oI 2 a <|
 T.bind (xi (nth a 2 (zk .str))) λt =>
 oY j k l m n o <|
 .ret ((!t),p))):T ((Bool×(Unit)×(List Switch)×(List Param)×(List xj)×(List Field)×(List qH)×(List Check)))) λ(u,B,c,d,e,f,b,g) =>
 .ite u
  (oY c d e f b g <|
 .ret (2,((),(c,(d,(e,(f,(b,g))))))))
  (T.bind (jR a 3) λ(v,w) =>
 .ite (!w)
  (oY c d e f b g <|
 .ret (2,((),(c,(d,(e,(f,(b,g))))))))
  (oI 2 a <|
 T.bind (xJ) λx =>
 oI 1 a <|
 T.bind (qQ x (nth a 1 (zk .str))) λy =>
 T.bind (vz A [61]) λ(h,i,C,z)=>let q:=b++([((nth a 2 (zk .str)),(y,(v,((Expr.mk (Expr.kind h) ((Expr.num h).1,((Expr.num h).2.1,((Expr.num h).2.2.1,()))) (Expr.name h) (Expr.kids h)),((Expr.mk (Expr.kind i) ((Expr.num i).1,((Expr.num i).2.1,((Expr.num i).2.2.1,()))) (Expr.name i) (Expr.kids i)),())))))]:List qH);
 oA b 248 <|
 oC c <|
 oC d <|
 oC e <|
 oC f <|
 .zL (ux (b.length+1) 0 (b.length+1) q.length) <|
 oC g <|
 oE c <|
 oE d <|
 oE e <|
 oE f <|
 .zL ((b.length+1)=q.length) <|
 oE g <|
 .ret (z,((),(c,(d,(e,(f,(q,g)))))))))
def uR(a:(List ze))(s:(Unit))(h:(List Switch))(i:(List Param))(j:(List xj))(k:(List Field))(l:(List qH))(m:(List Check)):T (Bool×(Unit)×(List Switch)×(List Param)×(List xj)×(List Field)×(List qH)×(List Check)) :=
 let n:=((),(h,(i,(j,(k,(l,m))))));  T.bind (.ite ((a.length:Int) != 3)
  (oY h i j k l m <|
 .ret (true,n))
  (oI 1 a <|
 T.bind (xi (nth a 1 (zk .str))) λp =>
 .ite (!p)
  (oY h i j k l m <|
 .ret (true,n))
  (oI 2 a <|
 .ite (!(zh (nth a 2 (zk .str)) [111,110]))
  (oI 2 a <|
 oY h i j k l m <|
 .ret ((!(zh (nth a 2 (zk .str)) [111,102,102])),n))
  (oY h i j k l m <|
 .ret (false,n)))):T ((Bool×(Unit)×(List Switch)×(List Param)×(List xj)×(List Field)×(List qH)×(List Check)))) λ(q,r,b,c,d,e,f,g)=>let o:=b++([((nth a 1 (zk .str)),((zh (nth a 2 (zk .str)) [111,110]),()))]:List Switch);
 .ite q
  (oY b c d e f g <|
 .ret (false,((),(b,(c,(d,(e,(f,g))))))))
  (oI 1 a <|
 oI 2 a <|
 oA b 24 <|
 .zL (ux (b.length+1) 0 (b.length+1) o.length) <|
 oC c <|
 oC d <|
 oC e <|
 oC f <|
 oC g <|
 .zL ((b.length+1)=o.length) <|
 oE c <|
 oE d <|
 oE e <|
 oE f <|
 oE g <|
 .ret (true,((),(o,(c,(d,(e,(f,g))))))))
def uf(b:(List ze))(t:(Unit))(h:(List Switch))(i:(List Param))(j:(List xj))(k:(List Field))(l:(List qH))(m:(List Check)):T (Bool×(Unit)×(List Switch)×(List Param)×(List xj)×(List Field)×(List qH)×(List Check)) :=
 T.bind (.ite ((b.length:Int) != 3)
  (oY h i j k l m <|
 .ret (true,((),(h,(i,(j,(k,(l,m))))))))
  (oI 1 b <|
 T.bind (xi (nth b 1 (zk .str))) λp =>
 oY h i j k l m <|
 .ret ((!p),((),(h,(i,(j,(k,(l,m)))))))):T ((Bool×(Unit)×(List Switch)×(List Param)×(List xj)×(List Field)×(List qH)×(List Check)))) λ(q,s,c,a,d,e,f,g) =>
 .ite q
  (oY c a d e f g <|
 .ret (false,((),(c,(a,(d,(e,(f,g))))))))
  (oI 2 b <|
 T.bind (wu (nth b 2 (zk .str))) λ(n,r)=>let o:=a++([((nth b 1 (zk .str)),((n.1,(n.2.1,(n.2.2.1,()))),()))]:List Param);
 oI 1 b <|
 oA a 72 <|
 oC c <|
 .zL (ux (a.length+1) 0 (a.length+1) o.length) <|
 oC d <|
 oC e <|
 oC f <|
 oC g <|
 oE c <|
 .zL ((a.length+1)=o.length) <|
 oE d <|
 oE e <|
 oE f <|
 oE g <|
 .ret ((r==0),((),(c,(o,(d,(e,(f,g))))))))
def vF(b:(List ze))(t:(Unit))(h:(List Switch))(i:(List Param))(j:(List xj))(k:(List Field))(l:(List qH))(m:(List Check)):T (Bool×(Unit)×(List Switch)×(List Param)×(List xj)×(List Field)×(List qH)×(List Check)) :=
 T.bind (.ite (decide ((b.length:Int)<2))
  (oY h i j k l m <|
 .ret (true,((),(h,(i,(j,(k,(l,m))))))))
  (oI 1 b <|
 T.bind (xi (nth b 1 (zk .str))) λo =>
 oY h i j k l m <|
 .ret ((!o),((),(h,(i,(j,(k,(l,m)))))))):T ((Bool×(Unit)×(List Switch)×(List Param)×(List xj)×(List Field)×(List qH)×(List Check)))) λ(p,s,c,d,a,e,f,g) =>
 .ite p
  (oY c d a e f g <|
 .ret (false,((),(c,(d,(a,(e,(f,g))))))))
  (T.bind (jR b 2) λ(q,r)=>let n:=a++([((nth b 1 (zk .str)),(q,()))]:List xj);
 oI 1 b <|
 oA a 32 <|
 oC c <|
 oC d <|
 .zL (ux (a.length+1) 0 (a.length+1) n.length) <|
 oC e <|
 oC f <|
 oC g <|
 oE c <|
 oE d <|
 .zL ((a.length+1)=n.length) <|
 oE e <|
 oE f <|
 oE g <|
 .ret (r,((),(c,(d,(n,(e,(f,g))))))))
def ue(a:(List ze))(aa:(Unit))(A:(List Switch))(B:(List Param))(s:(List xj))(C:(List Field))(D:(List qH))(E:(List Check)):T (Bool×(Unit)×(List Switch)×(List Param)×(List xj)×(List Field)×(List qH)×(List Check)) :=
 let N:=((),(A,(B,(s,(C,(D,E)))))); let b:=(a.length:Int);  T.bind (.ite (decide (b<2))
  (oY A B s C D E <|
 .ret (true,N))
  (oI 1 a <|
 T.bind (xi (nth a 1 (zk .str))) λO =>
 .ite (!O)
  (oY A B s C D E <|
 .ret (true,N))
  (oY A B s C D E <|
 .ret (((s.length:Int)==0),N))):T ((Bool×(Unit)×(List Switch)×(List Param)×(List xj)×(List Field)×(List qH)×(List Check)))) λ(P,W,g,h,c,i,j,k) =>
 .ite P
  (oY g h c i j k <|
 .ret (false,((),(g,(h,(c,(i,(j,k))))))))
  (oI 1 a <|
 .zL (yY 2 b a.length) <|
 T.bind (.zL (((decide (0<(Nat.cast (va (e:=.str) 2 b a).length:Int)))=true)->(qw 0 (va (e:=.str) 2 b a).length)) <|
 .ite ((decide (0<(Nat.cast (va (e:=.str) 2 b a).length:Int)))&&(zh (nth (va (e:=.str) 2 b a) 0 (zk .str)) [109,117,115,116]))
  (.zL (yY 1 (Nat.cast (va (e:=.str) 2 b a).length:Int) (va (e:=.str) 2 b a).length) <|
 oY g h c i j k <|
 .ret ((va (e:=.str) 1 (Nat.cast (va (e:=.str) 2 b a).length:Int) (va (e:=.str) 2 b a)),((),(g,(h,(c,(i,(j,(k,((nth a 1 (zk .str)),((zF ((c.length:Int)-1)),(true,((0:Int),())))))))))))))
  (oY g h c i j k <|
 .ret ((va (e:=.str) 2 b a),((),(g,(h,(c,(i,(j,(k,((nth a 1 (zk .str)),((zF ((c.length:Int)-1)),(false,((0:Int),()))))))))))))):T (((List ze)×(Unit)×(List Switch)×(List Param)×(List xj)×(List Field)×(List qH)×(List Check)×Field))) λ(d,X,m,n,o,p,q,r,R)=>let l:=nth d 1 (zk .str); let G:=((),(m,(n,(o,(p,(q,(r,R)))))));
 T.bind (T.bind (T.bind (wa d 2 0 [115,99,97,108,101]) λS =>
 .ite S
  (oI 1 d <|
 .ite ((l.length:Int)==1)
  (oI 1 d <|
 .ite (!(strLt l [48]))
  (oI 1 d <|
 oY m n o p q r <|
 .ret (((strLt l [57])||(zh l [57])),G))
  (oY m n o p q r <|
 .ret (false,G)))
  (oY m n o p q r <|
 .ret (false,G)))
  (oY m n o p q r <|
 .ret (false,G)):T ((Bool×(Unit)×(List Switch)×(List Param)×(List xj)×(List Field)×(List qH)×(List Check)×Field))) λ(U,Y,t,u,v,w,x,y,z) =>
 .ite U
  (oI 1 d <|
 oI 0 l <|
 oY t u v w x y <|
 .ret ([],((),(t,(u,(v,(w,(x,(y,(z.1,(z.2.1,(z.2.2.1,((zF (Bg ((qo l 0)-48))),())))))))))))))
  (oY t u v w x y <|
 .ret (d,((),(t,(u,(v,(w,(x,(y,z))))))))):T (((List ze)×(Unit)×(List Switch)×(List Param)×(List xj)×(List Field)×(List qH)×(List Check)×Field))) λ(V,Z,H,I,J,f,K,L,M) =>
 oA f 40 <|
 oC H <|
 oC I <|
 oC J <|
 .zL (ux (f.length+1) 0 (f.length+1) (f++[M]).length) <|
 oC K <|
 oC L <|
 oE H <|
 oE I <|
 oE J <|
 .zL ((f.length+1)=(f++[M]).length) <|
 oE K <|
 oE L <|
 .ret (((V.length:Int)==0),((),(H,(I,(J,((f++[M]),(K,L))))))))
def dm(ag:ze)(an:(Unit))(b:(List Switch))(c:(List Param))(d:(List xj))(e:(List Field))(f:(List qH))(g:(List Check)):T (Int×(Unit)×(List Switch)×(List Param)×(List xj)×(List Field)×(List qH)×(List Check)) :=
 let j:=((),(b,(c,(d,(e,(f,g))))));  T.bind (strings_Cut ag [58]) λ(Z,K,i) =>
 T.bind (iv Z) λa=>let J:=decide (0<(a.length:Int)); let h:=nth a 0 (zk .str);
 .zL (((((a.length:Int)==0)=true)->(((!i)=false)->((J=true)->((qw 0 a.length)/\(qw 0 h.length)))))/\((((a.length:Int)==0)=false)->((J=true)->((qw 0 a.length)/\(qw 0 h.length))))) <|
 .ite (bif ((a.length:Int)==0)then((!i)||(J&&((qo h 0)==35)))else(J&&((qo h 0)==35)))
  (oY b c d e f g <|
 .ret (0,j))
  (.ite ((a.length:Int)==0)
  (.ite (!false)
  (oY b c d e f g <|
 .ret (2,j))
  (oY b c d e f g <|
 .ret (0,j)))
  (.zL ((i=true)->(qw 0 a.length)) <|
 .ite (i&&(zh h [99,104,101,99,107]))
  (oY b c d e f g <|
 T.bind (vd a K () b c d e f g) λ(aa,ah,L,M,N,O,P,R) =>
 oY L M N O P R <|
 .ret (aa,((),(L,(M,(N,(O,(P,R))))))))
  (.zL ((i=true)->(qw 0 a.length)) <|
 .ite (i&&(zh h [114,117,108,101]))
  (oY b c d e f g <|
 T.bind (wo a K () b c d e f g) λ(ab,ai,S,U,V,W,X,Y) =>
 oY S U V W X Y <|
 .ret (ab,((),(S,(U,(V,(W,(X,Y))))))))
  (.ite i
  (.ite (!false)
  (oY b c d e f g <|
 .ret (2,j))
  (oY b c d e f g <|
 .ret (0,j)))
  (oI 0 a <|
 .ite (zh h [115,119,105,116,99,104])
  (oY b c d e f g <|
 T.bind (uR a () b c d e f g) λ(ac,aj,k,l,m,n,o,p) =>
 .ite (!ac)
  (oY k l m n o p <|
 .ret (2,((),(k,(l,(m,(n,(o,p))))))))
  (oY k l m n o p <|
 .ret (0,((),(k,(l,(m,(n,(o,p)))))))))
  (oI 0 a <|
 .ite (zh h [112,97,114,97,109])
  (oY b c d e f g <|
 T.bind (uf a () b c d e f g) λ(ad,ak,q,r,s,t,u,v) =>
 .ite (!ad)
  (oY q r s t u v <|
 .ret (2,((),(q,(r,(s,(t,(u,v))))))))
  (oY q r s t u v <|
 .ret (0,((),(q,(r,(s,(t,(u,v)))))))))
  (oI 0 a <|
 .ite (zh h [112,97,103,101])
  (oY b c d e f g <|
 T.bind (vF a () b c d e f g) λ(ae,al,w,x,y,z,A,B) =>
 .ite (!ae)
  (oY w x y z A B <|
 .ret (2,((),(w,(x,(y,(z,(A,B))))))))
  (oY w x y z A B <|
 .ret (0,((),(w,(x,(y,(z,(A,B)))))))))
  (oI 0 a <|
 .ite (zh h [102,105,101,108,100])
  (oY b c d e f g <|
 T.bind (ue a () b c d e f g) λ(af,am,C,D,E,G,H,I) =>
 .ite (!af)
  (oY C D E G H I <|
 .ret (2,((),(C,(D,(E,(G,(H,I))))))))
  (oY C D E G H I <|
 .ret (0,((),(C,(D,(E,(G,(H,I)))))))))
  (.ite (!false)
  (oY b c d e f g <|
 .ret (2,j))
  (oY b c d e f g <|
 .ret (0,j)))))))))))
def vE(b:Switch):T Bool :=
 T.bind (xi b.1) λa =>
 .ret (!a)
def qL(b:(List Switch))(d:Switch->T Bool)(e:Int):Int->T (Int⊕(Unit⊕Int))
 | a =>
 .ite (decide (a<e))
  (oI a b <|
 T.bind (d (nth b a (zk zx))) λc =>
 .ite c
  (.ret (.inr (.inr a)))
  (.ret (.inl (zF (a+1)))))
  (.ret (.inr (.inl ())))
def uL s1 f x s:=T.loop (qL s1 f x) s
def xY(a:(List Switch))(c:Switch->T Bool):T Int :=
 T.bind (uL a c (a.length:Int) 0) <|
 Sum.elim (λ_ =>
 .ret (-1))
  (λb =>
 .ret b)
def qK(b:(List Switch))(c:Switch->T Bool):T Bool :=
 T.bind (xY b c) λa =>
 .ret (decide (0<=a))
def vC(a:Param):T Bool :=
 T.bind (xi a.1) λb =>
 .ite (!b)
  (.ret true)
  (T.bind (tQ a.2.1) λc =>
 .ite (!c)
  (.ret true)
  (T.bind (dL a.2.1) λd =>
 .ret d))
def qT(b:(List Param))(d:Param->T Bool)(e:Int):Int->T (Int⊕(Unit⊕Int))
 | a =>
 .ite (decide (a<e))
  (oI a b <|
 T.bind (d (nth b a (zk zM))) λc =>
 .ite c
  (.ret (.inr (.inr a)))
  (.ret (.inl (zF (a+1)))))
  (.ret (.inr (.inl ())))
def uY s1 f x s:=T.loop (qT s1 f x) s
def wc(a:(List Param))(c:Param->T Bool):T Int :=
 T.bind (uY a c (a.length:Int) 0) <|
 Sum.elim (λ_ =>
 .ret (-1))
  (λb =>
 .ret b)
def qU(b:(List Param))(c:Param->T Bool):T Bool :=
 T.bind (wc b c) λa =>
 .ret (decide (0<=a))
def ke(a:ze):T Bool :=
 .ite (zh a [])
  (.ret true)
  (T.bind (xi a) λb =>
 .ret b)
def vD(a:xj):T Bool :=
 T.bind (xi a.1) λb =>
 .ite (!b)
  (.ret true)
  (T.bind (ke a.2.1) λc =>
 .ret (!c))
def xg(b:(List xj))(d:xj->T Bool)(e:Int):Int->T (Int⊕(Unit⊕Int))
 | a =>
 .ite (decide (a<e))
  (oI a b <|
 T.bind (d (nth b a (zk zV))) λc =>
 .ite c
  (.ret (.inr (.inr a)))
  (.ret (.inl (zF (a+1)))))
  (.ret (.inr (.inl ())))
def jo s1 f x s:=T.loop (xg s1 f x) s
def wI(a:(List xj))(c:xj->T Bool):T Int :=
 T.bind (jo a c (a.length:Int) 0) <|
 Sum.elim (λ_ =>
 .ret (-1))
  (λb =>
 .ret b)
def xe(b:(List xj))(c:xj->T Bool):T Bool :=
 T.bind (wI b c) λa =>
 .ret (decide (0<=a))
def fR(b:Form):T Bool :=
 T.bind (qK b.1 (λa=>vE a)) λc =>
 .ite (!c)
  (T.bind (qU b.2.1 (λa=>vC a)) λd =>
 .ite (!d)
  (T.bind (xe b.2.2.1 (λa=>vD a)) λe =>
 .ret (!e))
  (.ret false))
  (.ret false)
def gR(a:Int)(b:Int)(c:Int):T Bool :=
 .ret ((decide ((mP b 0)<=a))&&(decide (a<c)))
def uV(i:Form)(c:(List Field))(j:Int):(Int×Int)->T ((Int×Int)⊕(Unit⊕Bool))
 | (h,b)=>let a:=nth c b (zk zN);
 .ite (decide (b<j))
  (oI b c <|
 T.bind (T.bind (xi a.1) λd =>
 .ite (!d)
  (.ret (true,a))
  (T.bind (gR a.2.1 h (i.2.2.1.length:Int)) λe =>
 .ite (!e)
  (.ret (true,a))
  (.ite (decide (a.2.2.2.1<(0:Int)))
  (.ret (true,a))
  (.ret ((decide ((9:Int)<a.2.2.2.1)),a)))):T ((Bool×Field))) λ(f,g) =>
 .ite f
  (.ret (.inr (.inr false)))
  (.ret (.inl (g.2.1,(zF (b+1))))))
  (.ret (.inr (.inl ())))
def nI f1 x x1 s:=T.loop (uV f1 x x1) s
def de(a:Form):T Bool :=
 T.bind (nI a a.2.2.2.1 (a.2.2.2.1.length:Int) (0,0)) <|
 Sum.elim (λ_ =>
 .ret true)
  (λb =>
 .ret b)
def w8(a:qH):T Bool :=
 T.bind (xi a.1) λb =>
 .ite (!b)
  (.ret true)
  (.ite (decide (a.2.1<(0:Int)))
  (.ret true)
  (T.bind (xJ) λc =>
 .ite (decide ((c.length:Int)<=a.2.1))
  (.ret true)
  (T.bind (ke a.2.2.1) λd =>
 .ite (!d)
  (.ret true)
  (T.bind (uA a.2.2.2.1) λe =>
 .ite (!e)
  (.ret true)
  (T.bind (uA a.2.2.2.2.1) λf =>
 .ret (!f))))))
def xb(b:(List qH))(d:qH->T Bool)(e:Int):Int->T (Int⊕(Unit⊕Int))
 | a =>
 .ite (decide (a<e))
  (oI a b <|
 T.bind (d (nth b a (zk q8))) λc =>
 .ite c
  (.ret (.inr (.inr a)))
  (.ret (.inl (zF (a+1)))))
  (.ret (.inr (.inl ())))
def js s1 f x s:=T.loop (xb s1 f x) s
def wE(a:(List qH))(c:qH->T Bool):T Int :=
 T.bind (js a c (a.length:Int) 0) <|
 Sum.elim (λ_ =>
 .ret (-1))
  (λb =>
 .ret b)
def xh(b:(List qH))(c:qH->T Bool):T Bool :=
 T.bind (wE b c) λa =>
 .ret (decide (0<=a))
def uZ(l:Form)(c:(List Check))(m:Int):(Int×Int)->T ((Int×Int)⊕(Unit⊕Bool))
 | (k,b)=>let a:=nth c b (zk zU);
 .ite (decide (b<m))
  (oI b c <|
 T.bind (T.bind (xi a.1) λd =>
 .ite (!d)
  (.ret (true,a))
  (T.bind (gR a.2.1 k (l.2.2.1.length:Int)) λe =>
 .ite (!e)
  (.ret (true,a))
  (.ite (decide (a.2.2.1<(0:Int)))
  (.ret (true,a))
  (T.bind (wQ) λf =>
 .ite (decide ((f.length:Int)<=a.2.2.1))
  (.ret (true,a))
  (T.bind (uA (Expr.mk (Expr.kind a.2.2.2.1) ((Expr.num a.2.2.2.1).1,((Expr.num a.2.2.2.1).2.1,((Expr.num a.2.2.2.1).2.2.1,()))) (Expr.name a.2.2.2.1) (Expr.kids a.2.2.2.1))) λg =>
 .ite (!g)
  (.ret (true,a))
  (T.bind (uA (Expr.mk (Expr.kind a.2.2.2.2.1) ((Expr.num a.2.2.2.2.1).1,((Expr.num a.2.2.2.2.1).2.1,((Expr.num a.2.2.2.2.1).2.2.1,()))) (Expr.name a.2.2.2.2.1) (Expr.kids a.2.2.2.2.1))) λh =>
 .ret ((!h),a)))))):T ((Bool×Check))) λ(i,j) =>
 .ite i
  (.ret (.inr (.inr false)))
  (.ret (.inl (j.2.1,(zF (b+1))))))
  (.ret (.inr (.inl ())))
def nP f1 x x1 s:=T.loop (uZ f1 x x1) s
def dh(a:Form):T Bool :=
 T.bind (nP a a.2.2.2.2.2.1 (a.2.2.2.2.2.1.length:Int) (0,0)) <|
 Sum.elim (λ_ =>
 T.bind (xh a.2.2.2.2.1 (λb=>w8 b)) λc =>
 .ret (!c))
  (λd =>
 .ret d)
def iI(v:Unit)(l:List Int):T (Unit×List Int):=.ret (v,l)
def q9(b:ze)(e:(Unit))(c:(List Int)):T (Int×(Unit)×(List Int)) :=
 oC c <|
 oE c <|
 T.bind (iI () c) λ(d,a) =>
 .zL (YJ a.length a.length 0 a.length a.length (bytesOf b).length 1) <|
 oM (a.length+(bytesOf b).length) (a++(bytesOf b)).length <|
 .ret ((b.length:Int),((),(a++(bytesOf b))))
def lI(g:Rat):T ze :=
 T.bind (eB g) λa =>
 T.bind (oF a) λb =>
 T.bind (dK a.2.1) λc =>
 oK b c <|
 T.bind (yC 1) λe =>
 T.bind (mz a.2.2.1 e) λf =>
 .ite (f != 0)
  (T.bind (dK a.2.2.1) λd =>
 oK [47] d <|
 oK (cat b c) (cat [47] d) <|
 .ret (cat (cat b c) (cat [47] d)))
  (.ret (cat b c))
def eZ(a:ze):T ze :=
 .ite (zh a [])
  (.ret [])
  (oK [32,119,104,101,110,32] a <|
 .ret (cat [32,119,104,101,110,32] a))
def strconv_Itoa(a:Int):T ze :=
 .zL ((-9223372036854775808)<=a/\a<=9223372036854775807) <|
 .ret (cQ a)
def iA(a:Field):T ze :=
 let c:=cat [102,105,101,108,100,32] a.1; let b:=bif a.2.2.1 then(cat c [32,109,117,115,116])else c;  oK [102,105,101,108,100,32] a.1 <|
 .zL ((a.2.2.1=true)->((c.length+([32,109,117,115,116]:ze).length)<=4611686018427387904)) <|
 .ite (decide ((0:Int)<a.2.2.2.1))
  (T.bind (strconv_Itoa a.2.2.2.1) λe=>let d:=cat [32,115,99,97,108,101,32] e;
 oK [32,115,99,97,108,101,32] e <|
 oK b d <|
 oK (cat b d) [10] <|
 .ret (cat (cat b d) [10]))
  (oK b [10] <|
 .ret (cat b [10]))
def bK(a:AM.Expr):T Int :=
 .ite (bif ((Expr.kind a)==3)then((Expr.kind a)==3)else((Expr.kind a)==4))
  (.ret 1)
  (.ite (bif ((Expr.kind a)==5)then((Expr.kind a)==5)else((Expr.kind a)==6))
  (.ret 2)
  (.ite ((Expr.kind a)==7)
  (.ret 3)
  (.ret 4)))
def yS(c:AM.Expr->T ze)(b:AM.Expr)(f:Int):T ze :=
 T.bind (bK b) λd =>
 .ite (decide (d<f))
  (T.bind (c b) λa =>
 oK [40] a <|
 oK (cat [40] a) [41] <|
 .ret (cat (cat [40] a) [41]))
  (T.bind (c b) λe =>
 .ret e)
def dc(d:AM.Expr->T ze)(a:AM.Expr):T ze :=
 T.bind (.ite ((Expr.kind a)==1)
  (T.bind (lq (Expr.num a)) λ(g,k) =>
 .ret (.inr g))
  (.ite ((Expr.kind a)==2)
  (.ret (.inr (Expr.name a)))
  (.ite ((Expr.kind a)==7)
  (oI 0 (Expr.kids a) <|
 T.bind ((yS d) (nth (Expr.kids a) 0 (zk .expr)) 3) λe =>
 oK [45] e <|
 .ret (.inr (cat [45] e)))
  (.ite ((Expr.kind a)==3)
  (.ret (.inl [32,43,32]))
  (.ite ((Expr.kind a)==4)
  (.ret (.inl [32,45,32]))
  (.ite ((Expr.kind a)==5)
  (.ret (.inl [32,42,32]))
  (.ite ((Expr.kind a)==6)
  (.ret (.inl [32,47,32]))
  (.ret (.inl [])))))))):T (ze⊕ze)) <|
 Sum.elim (λb =>
 oI 0 (Expr.kids a) <|
 T.bind (bK a) λh =>
 T.bind ((yS d) (nth (Expr.kids a) 0 (zk .expr)) h) λc =>
 oK c b <|
 oI 1 (Expr.kids a) <|
 T.bind (bK a) λi =>
 T.bind ((yS d) (nth (Expr.kids a) 1 (zk .expr)) (zF (i+1))) λf =>
 oK (cat c b) f <|
 .ret (cat (cat c b) f))
  (λj =>
 .ret j)
def mV(e:AM.Expr):T ze:=T.fix (λF x=>dc (λy0=>F (y0)) x) e
def eP(a:AM.Expr):T ze :=
 T.bind (uA a) λb =>
 .ite (!b)
  (.ret [])
  (T.bind (mV a) λc =>
 .ret c)
def cz(e:AM.Expr)(a:ze)(f:AM.Expr):T ze :=
 T.bind (eP e) λc=>let b:=cat (cat [32,58,32] c) [32];
 oK [32,58,32] c <|
 oK (cat [32,58,32] c) [32] <|
 oK b a <|
 oK (cat b a) [32] <|
 T.bind (eP f) λd =>
 oK (cat (cat b a) [32]) d <|
 oK (cat (cat (cat b a) [32]) d) [10] <|
 .ret (cat (cat (cat (cat b a) [32]) d) [10])
def uU(f:Int)(k:Form)(d:(List Field))(g:Int):(Int×(Unit)×(List Int))->T ((Int×(Unit)×(List Int))⊕(((Unit)×(List Int))))
 | (b,j,a) =>
 .ite (decide (b<g))
  (oI b d <|
 .ite ((nth d b (zk zN)).2.1==f)
  (T.bind (iA (nth d b (zk zN))) λe =>
 oC a <|
 oE a <|
 T.bind (q9 e () a) λ(h,i,c) =>
 oC c <|
 oE c <|
 .ret (.inl ((zF (b+1)),((),c))))
  (oC a <|
 oE a <|
 .ret (.inl ((zF (b+1)),((),a)))))
  (oC a <|
 oE a <|
 .ret (.inr ((),a)))
def nR i1 f1 x x1 s:=T.loop (uU i1 f1 x x1) s
def uW(h:Int)(g:(List Check))(i:Int):(Int×(Unit)×(List Int))->T ((Int×(Unit)×(List Int))⊕(((Unit)×(List Int))))
 | (c,l,b)=>let a:=nth g c (zk zU);
 .ite (decide (c<i))
  (oI c g <|
 .ite (a.2.1==h)
  (oK [99,104,101,99,107,32] a.1 <|
 T.bind (wQ) λe =>
 .zL (qw a.2.2.1 e.length) <|
 T.bind (cz (Expr.mk (Expr.kind a.2.2.2.1) ((Expr.num a.2.2.2.1).1,((Expr.num a.2.2.2.1).2.1,((Expr.num a.2.2.2.1).2.2.1,()))) (Expr.name a.2.2.2.1) (Expr.kids a.2.2.2.1)) (nth e a.2.2.1 (zk .str)) (Expr.mk (Expr.kind a.2.2.2.2.1) ((Expr.num a.2.2.2.2.1).1,((Expr.num a.2.2.2.2.1).2.1,((Expr.num a.2.2.2.2.1).2.2.1,()))) (Expr.name a.2.2.2.2.1) (Expr.kids a.2.2.2.2.1))) λf =>
 oK (cat [99,104,101,99,107,32] a.1) f <|
 oC b <|
 oE b <|
 T.bind (q9 (cat (cat [99,104,101,99,107,32] a.1) f) () b) λ(j,k,d) =>
 oC d <|
 oE d <|
 .ret (.inl ((zF (c+1)),((),d))))
  (oC b <|
 oE b <|
 .ret (.inl ((zF (c+1)),((),b)))))
  (oC b <|
 oE b <|
 .ret (.inr ((),b)))
def nL i2 x3 x4 s:=T.loop (uW i2 x3 x4) s
def cU(a:Form)(b:Int)(m:(Unit))(g:(List Int)):T ((Unit)×(List Int)) :=
 let h:=cat [112,97,103,101,32] (nth a.2.2.1 b (zk zV)).1;  oI b a.2.2.1 <|
 oK [112,97,103,101,32] (nth a.2.2.1 b (zk zV)).1 <|
 oI b a.2.2.1 <|
 T.bind (eZ (nth a.2.2.1 b (zk zV)).2.1) λc =>
 oK h c <|
 oK (cat h c) [10] <|
 oC g <|
 oE g <|
 T.bind (q9 (cat (cat h c) [10]) () g) λ(i,j,d) =>
 oC d <|
 oE d <|
 T.bind (nR b a a.2.2.2.1 (a.2.2.2.1.length:Int) (0,((),d))) λ(k,e) =>
 oC e <|
 oE e <|
 T.bind (nL b a.2.2.2.2.2.1 (a.2.2.2.2.2.1.length:Int) (0,((),e))) λ(l,f) =>
 oC f <|
 oE f <|
 .ret ((),f)
def nu(v:Unit)(l:List Int):T (ze×Unit):=z3r l
def jT(k:Form)(e:(List Switch))(g:Int):(Int×(Unit)×(List Int))->T ((Int×(Unit)×(List Int))⊕(((Unit)×(List Int))))
 | (b,j,a)=>let c:=nth e b (zk zx); let f:=bif c.2.1 then[32,111,110,10]else[32,111,102,102,10];
 .ite (decide (b<g))
  (oI b e <|
 oK [115,119,105,116,99,104,32] c.1 <|
 oK (cat [115,119,105,116,99,104,32] c.1) f <|
 oC a <|
 oE a <|
 T.bind (q9 (cat (cat [115,119,105,116,99,104,32] c.1) f) () a) λ(h,i,d) =>
 oC d <|
 oE d <|
 .ret (.inl ((zF (b+1)),((),d))))
  (oC a <|
 oE a <|
 .ret (.inr ((),a)))
def oB f1 x x1 s:=T.loop (jT f1 x x1) s
def jO(l:Form)(g:(List Param))(h:Int):(Int×(Unit)×(List Int))->T ((Int×(Unit)×(List Int))⊕(((Unit)×(List Int))))
 | (c,k,a)=>let b:=nth g c (zk zM); let d:=cat [112,97,114,97,109,32] b.1;
 .ite (decide (c<h))
  (oI c g <|
 oK [112,97,114,97,109,32] b.1 <|
 oK d [32] <|
 T.bind (lI (b.2.1.1,(b.2.1.2.1,(b.2.1.2.2.1,())))) λe =>
 oK (cat d [32]) e <|
 oK (cat (cat d [32]) e) [10] <|
 oC a <|
 oE a <|
 T.bind (q9 (cat (cat (cat d [32]) e) [10]) () a) λ(i,j,f) =>
 oC f <|
 oE f <|
 .ret (.inl ((zF (c+1)),((),f))))
  (oC a <|
 oE a <|
 .ret (.inr ((),a)))
def oT f2 x3 x4 s:=T.loop (jO f2 x3 x4) s
def jX(d:Form)(e:Int):(Int×(Unit)×(List Int))->T ((Int×(Unit)×(List Int))⊕(((Unit)×(List Int))))
 | (c,g,a) =>
 .ite (decide (c<e))
  (oC a <|
 oE a <|
 T.bind (cU d c () a) λ(f,b) =>
 oC b <|
 oE b <|
 .ret (.inl ((zF (c+1)),((),b))))
  (oC a <|
 oE a <|
 .ret (.inr ((),a)))
def pZ f3 x6 s:=T.loop (jX f3 x6) s
def jB(i:(List qH))(j:Int):(Int×(Unit)×(List Int))->T ((Int×(Unit)×(List Int))⊕(((Unit)×(List Int))))
 | (d,m,b)=>let a:=nth i d (zk q8);
 .ite (decide (d<j))
  (oI d i <|
 T.bind (xJ) λe=>let c:=cat [114,117,108,101,32] (nth e a.2.1 (zk .str));
 .zL (qw a.2.1 e.length) <|
 oK [114,117,108,101,32] (nth e a.2.1 (zk .str)) <|
 oK c [32] <|
 oK (cat c [32]) a.1 <|
 T.bind (eZ a.2.2.1) λf =>
 oK (cat (cat c [32]) a.1) f <|
 T.bind (cz (Expr.mk (Expr.kind a.2.2.2.1) ((Expr.num a.2.2.2.1).1,((Expr.num a.2.2.2.1).2.1,((Expr.num a.2.2.2.1).2.2.1,()))) (Expr.name a.2.2.2.1) (Expr.kids a.2.2.2.1)) [61] (Expr.mk (Expr.kind a.2.2.2.2.1) ((Expr.num a.2.2.2.2.1).1,((Expr.num a.2.2.2.2.1).2.1,((Expr.num a.2.2.2.2.1).2.2.1,()))) (Expr.name a.2.2.2.2.1) (Expr.kids a.2.2.2.2.1))) λh =>
 oK (cat (cat (cat c [32]) a.1) f) h <|
 oC b <|
 oE b <|
 T.bind (q9 (cat (cat (cat (cat c [32]) a.1) f) h) () b) λ(k,l,g) =>
 oC g <|
 oE g <|
 .ret (.inl ((zF (d+1)),((),g))))
  (oC b <|
 oE b <|
 .ret (.inr ((),b)))
def oe x8 x9 s:=T.loop (jB x8 x9) s
def bW(a:Form):T ze :=
 oZ <|
 T.bind (oB a a.1 (a.1.length:Int) (0,((),[]))) λ(g,b) =>
 oC b <|
 oE b <|
 T.bind (oT a a.2.1 (a.2.1.length:Int) (0,((),b))) λ(h,c) =>
 oC c <|
 oE c <|
 T.bind (pZ a (a.2.2.1.length:Int) (0,((),c))) λ(i,d) =>
 oC d <|
 oE d <|
 T.bind (oe a.2.2.2.2.1 (a.2.2.2.2.1.length:Int) (0,((),d))) λ(j,e) =>
 oC e <|
 oE e <|
 T.bind (nu () e) λ(f,k) =>
 .ret f
def lh(a:Form):T Bool :=
 T.bind (fR a) λb =>
 .ite b
  (T.bind (de a) λc =>
 .ite c
  (T.bind (dh a) λd =>
 .ite d
  (T.bind (bW a) λe =>
 .ret (decide ((e.length:Int)<=16384)))
  (.ret false))
  (.ret false))
  (.ret false)
def jM(u:(List ze))(w:Int):(Int×(Unit)×(Unit)×(List Check)×(List Check)×(List qH)×(List qH)×(List Switch)×(List Switch)×(List Param)×(List Param)×(List xj)×(List xj)×(List Field)×(List Field))->T ((Int×(Unit)×(Unit)×(List Check)×(List Check)×(List qH)×(List qH)×(List Switch)×(List Switch)×(List Param)×(List Param)×(List xj)×(List xj)×(List Field)×(List Field))⊕(((Unit)×(Unit)×(List Check)×(List Check)×(List qH)×(List qH)×(List Switch)×(List Switch)×(List Param)×(List Param)×(List xj)×(List xj)×(List Field)×(List Field))⊕(Int×Int×Form×(Unit)×(List Check)×(List Check)×(List qH)×(List qH)×(List Switch)×(List Switch)×(List Param)×(List Param)×(List xj)×(List xj)×(List Field)×(List Field))))
 | (m,y,z,a,n,b,o,c,p,d,q,e,r,f,s) =>
 .ite (decide (m<w))
  (oI m u <|
 oY p q r s o n <|
 T.bind (dm (nth u m (zk .str)) () p q r s o n) λ(t,x,g,h,i,j,k,l)=>let v:=((),(a,(l,(b,(k,(c,(g,(d,(h,(e,(i,(f,j))))))))))));
 .ite (t != 0)
  (oV g h i j k l <|
 oW a l b k c g <|
 oW d h e i f j <|
 .ret (.inr (.inr ((zF (m+1)),(t,((([]:List Switch),(([]:List Param),(([]:List xj),(([]:List Field),(([]:List qH),(([]:List Check),())))))),v))))))
  (oV c d e f b a <|
 oV g h i j k l <|
 oW a l b k c g <|
 oW d h e i f j <|
 .ret (.inl ((zF (m+1)),((),v)))))
  (oV c d e f b a <|
 oV p q r s o n <|
 oW a n b o c p <|
 oW d q e r f s <|
 .ret (.inr (.inl ((),((),(a,(n,(b,(o,(c,(p,(d,(q,(e,(r,(f,s))))))))))))))))
def dS x x1 s:=T.loop (jM x x1) s
def jA(h:ze):T (Form×Int×Int) :=
 .ite (decide (16384<(h.length:Int)))
  (.ret ((([]:List Switch),(([]:List Param),(([]:List xj),(([]:List Field),(([]:List qH),(([]:List Check),())))))),(0,3)))
  (T.bind (strings_Split h [10]) λg =>
 .zL (ux 0 0 0 0) <|
 .zL (ux 0 0 0 0) <|
 .zL (ux 0 0 0 0) <|
 .zL (ux 0 0 0 0) <|
 .zL (ux 0 0 0 0) <|
 .zL (ux 0 0 0 0) <|
 .zL (ux 0 0 0 0) <|
 .zL (ux 0 0 0 0) <|
 .zL (ux 0 0 0 0) <|
 .zL (ux 0 0 0 0) <|
 .zL (ux 0 0 0 0) <|
 oZ <|
 .zL (0=0) <|
 .zL (0=0) <|
 .zL (0=0) <|
 .zL (0=0) <|
 .zL (0=0) <|
 .zL (0=0) <|
 .zL (0=0) <|
 .zL (0=0) <|
 .zL (0=0) <|
 .zL (0=0) <|
 .zL (0=0) <|
 T.bind (dS g (g.length:Int) (0,((),((),([],([],([],([],([],([],([],([],([],([],([],[]))))))))))))))) <|
 Sum.elim (λ(n,o,p,a,q,b,r,c,s,d,t,e,u,f)=>let i:=((List.drop 0 (List.take (0+c.length) c)),((List.drop 0 (List.take (0+d.length) d)),((List.drop 0 (List.take (0+e.length) e)),((List.drop 0 (List.take (0+f.length) f)),((List.drop 0 (List.take (0+b.length) b)),((List.drop 0 (List.take (0+a.length) a)),()))))));
 oW c d e f b a <|
 T.bind (lh i) λj =>
 .ite (!j)
  (.ret ((([]:List Switch),(([]:List Param),(([]:List xj),(([]:List Field),(([]:List qH),(([]:List Check),())))))),(0,2)))
  (oW c d e f b a <|
 .ret (i,(0,0))))
  (λ(k,l,m,v,w,x,y,z,A,B,C,D,E,G,H,I) =>
 .ret (m,(k,l))))
def bB(e:Rat)(f:Rat):T Bool :=
 T.bind (ja e) λa =>
 T.bind (ja f) λb =>
 .ite (a.1==b.1)
  (T.bind (yp a.2.1 b.2.1) λc =>
 .ite c
  (T.bind (yp a.2.2.1 b.2.2.1) λd =>
 .ret d)
  (.ret false))
  (.ret false)
def gz(e:AM.Expr->AM.Expr->T Bool)(b:AM.Expr)(c:AM.Expr):Int->T (Int⊕(Unit⊕Bool))
 | a =>
 .ite (decide (a<((Expr.kids b).length:Int)))
  (oI a (Expr.kids b) <|
 oI a (Expr.kids c) <|
 T.bind (e (nth (Expr.kids b) a (zk .expr)) (nth (Expr.kids c) a (zk .expr))) λd =>
 .ite (!d)
  (.ret (.inr (.inr false)))
  (.ret (.inl (zF (a+1)))))
  (.ret (.inr (.inl ())))
def Qp self_ref5_Same a1 b1 s:=T.loop (gz self_ref5_Same a1 b1) s
def fM(f:AM.Expr->AM.Expr->T Bool)(a:AM.Expr)(b:AM.Expr):T Bool :=
 T.bind (.ite ((Expr.kind a) != (Expr.kind b))
  (.ret true)
  (.ite (!(zh (Expr.name a) (Expr.name b)))
  (.ret true)
  (T.bind (bB (Expr.num a) (Expr.num b)) λc =>
 .ite (!c)
  (.ret true)
  (.ret (((Expr.kids a).length:Int) != ((Expr.kids b).length:Int))))):T (Bool)) λd =>
 .ite d
  (.ret false)
  (T.bind (Qp f a b 0) <|
 Sum.elim (λ_ =>
 .ret true)
  (λe =>
 .ret e))
def bI(a:AM.Expr)(b:AM.Expr):T Bool:=T.fix (λF x=>fM (λy0 y1=>F (y0,y1)) x.1 x.2) (a,b)
def ug(b:(List qH))(c:(List qH)):Int->T (Int⊕(Unit⊕Bool))
 | a=>let d:=nth c a (zk q8); let e:=nth b a (zk q8);
 .ite (decide (a<(b.length:Int)))
  (T.bind (oI a b <|
 oI a c <|
 .ite (!(zh e.1 d.1))
  (.ret true)
  (oI a b <|
 oI a c <|
 .ite (e.2.1 != d.2.1)
  (.ret true)
  (oI a b <|
 oI a c <|
 .ite (!(zh e.2.2.1 d.2.2.1))
  (.ret true)
  (oI a b <|
 oI a c <|
 T.bind (bI e.2.2.2.1 d.2.2.2.1) λf =>
 .ite (!f)
  (.ret true)
  (oI a b <|
 oI a c <|
 T.bind (bI e.2.2.2.2.1 d.2.2.2.2.1) λg =>
 .ret (!g))))):T (Bool)) λh =>
 .ite h
  (.ret (.inr (.inr false)))
  (.ret (.inl (zF (a+1)))))
  (.ret (.inr (.inl ())))
def iG a1 b1 s:=T.loop (ug a1 b1) s
def gp(a:(List qH))(b:(List qH)):T Bool :=
 .ite ((a.length:Int) != (b.length:Int))
  (.ret false)
  (T.bind (iG a b 0) <|
 Sum.elim (λ_ =>
 .ret true)
  (λc =>
 .ret c))
def vG(b:(List Check))(c:(List Check)):Int->T (Int⊕(Unit⊕Bool))
 | a=>let d:=nth c a (zk zU); let e:=nth b a (zk zU);
 .ite (decide (a<(b.length:Int)))
  (T.bind (oI a b <|
 oI a c <|
 .ite (!(zh e.1 d.1))
  (.ret true)
  (oI a b <|
 oI a c <|
 .ite (e.2.1 != d.2.1)
  (.ret true)
  (oI a b <|
 oI a c <|
 .ite (e.2.2.1 != d.2.2.1)
  (.ret true)
  (oI a b <|
 oI a c <|
 T.bind (bI e.2.2.2.1 d.2.2.2.1) λf =>
 .ite (!f)
  (.ret true)
  (oI a b <|
 oI a c <|
 T.bind (bI e.2.2.2.2.1 d.2.2.2.2.1) λg =>
 .ret (!g))))):T (Bool)) λh =>
 .ite h
  (.ret (.inr (.inr false)))
  (.ret (.inl (zF (a+1)))))
  (.ret (.inr (.inl ())))
def fe a1 b1 s:=T.loop (vG a1 b1) s
def yf(a:(List Check))(b:(List Check)):T Bool :=
 .ite ((a.length:Int) != (b.length:Int))
  (.ret false)
  (T.bind (fe a b 0) <|
 Sum.elim (λ_ =>
 .ret true)
  (λc =>
 .ret c))
def b7(b:Form)(c:Form):Int->T (Int⊕(Unit⊕Bool))
 | a =>
 .ite (decide (a<(b.1.length:Int)))
  (oI a b.1 <|
 oI a c.1 <|
 .ite (!((zh (nth b.1 a (zk zx)).1 (nth c.1 a (zk zx)).1)&&(((nth b.1 a (zk zx)).2.1==(nth c.1 a (zk zx)).2.1)&&true)))
  (.ret (.inr (.inr false)))
  (.ret (.inl (zF (a+1)))))
  (.ret (.inr (.inl ())))
def QL a1 b1 s:=T.loop (b7 a1 b1) s
def gV(b:Form)(c:Form):Int->T (Int⊕(Unit⊕Bool))
 | a =>
 .ite (decide (a<(b.2.1.length:Int)))
  (T.bind (oI a b.2.1 <|
 oI a c.2.1 <|
 .ite (!(zh (nth b.2.1 a (zk zM)).1 (nth c.2.1 a (zk zM)).1))
  (.ret true)
  (oI a b.2.1 <|
 oI a c.2.1 <|
 T.bind (bB (nth b.2.1 a (zk zM)).2.1 (nth c.2.1 a (zk zM)).2.1) λd =>
 .ret (!d)):T (Bool)) λe =>
 .ite e
  (.ret (.inr (.inr false)))
  (.ret (.inl (zF (a+1)))))
  (.ret (.inr (.inl ())))
def QE a2 b2 s:=T.loop (gV a2 b2) s
def gE(b:Form)(c:Form):Int->T (Int⊕(Unit⊕Bool))
 | a =>
 .ite (decide (a<(b.2.2.1.length:Int)))
  (oI a b.2.2.1 <|
 oI a c.2.2.1 <|
 .ite (!((zh (nth b.2.2.1 a (zk zV)).1 (nth c.2.2.1 a (zk zV)).1)&&((zh (nth b.2.2.1 a (zk zV)).2.1 (nth c.2.2.1 a (zk zV)).2.1)&&true)))
  (.ret (.inr (.inr false)))
  (.ret (.inl (zF (a+1)))))
  (.ret (.inr (.inl ())))
def Q3 a3 b3 s:=T.loop (gE a3 b3) s
def gG(d:Form)(e:Form):Int->T (Int⊕(Unit⊕Bool))
 | a=>let b:=nth e.2.2.2.1 a (zk zN); let c:=nth d.2.2.2.1 a (zk zN);
 .ite (decide (a<(d.2.2.2.1.length:Int)))
  (oI a d.2.2.2.1 <|
 oI a e.2.2.2.1 <|
 .ite (!((zh c.1 b.1)&&((c.2.1==b.2.1)&&((c.2.2.1==b.2.2.1)&&((c.2.2.2.1==b.2.2.2.1)&&true)))))
  (.ret (.inr (.inr false)))
  (.ret (.inl (zF (a+1)))))
  (.ret (.inr (.inl ())))
def Zd a4 b4 s:=T.loop (gG a4 b4) s
def dH(a:Form)(b:Form):T Bool :=
 .ite (((a.1.length:Int) != (b.1.length:Int))||(((a.2.1.length:Int) != (b.2.1.length:Int))||(((a.2.2.1.length:Int) != (b.2.2.1.length:Int))||((a.2.2.2.1.length:Int) != (b.2.2.2.1.length:Int)))))
  (.ret false)
  (T.bind (QL a b 0) <|
 Sum.elim (λ_ =>
 T.bind (QE a b 0) <|
 Sum.elim (λ_ =>
 T.bind (Q3 a b 0) <|
 Sum.elim (λ_ =>
 T.bind (Zd a b 0) <|
 Sum.elim (λ_ =>
 T.bind (gp a.2.2.2.2.1 b.2.2.2.2.1) λc =>
 .ite c
  (T.bind (yf a.2.2.2.2.2.1 b.2.2.2.2.2.1) λd =>
 .ret d)
  (.ret false))
  (λe =>
 .ret e))
  (λf =>
 .ret f))
  (λg =>
 .ret g))
  (λh =>
 .ret h))
def fH(a:Form):T ze :=
 T.bind (lh a) λb =>
 .ite (!b)
  (.ret [])
  (T.bind (bW a) λc =>
 .ret c)
def mn  : T Bool :=
 T.bind (jA [112,97,103,101,32,112,10,102,105,101,108,100,32,32,97,32,109,117,115,116,10,114,117,108,101,32,119,101,97,107,32,114,58,97,61,50,10]) λ(a,b,c) =>
 .ite (c==0)
  (.ite (b==0)
  (T.bind (fH a) λd =>
 .ret (zh d [112,97,103,101,32,112,10,102,105,101,108,100,32,97,32,109,117,115,116,10,114,117,108,101,32,119,101,97,107,32,114,32,58,32,97,32,61,32,50,10]))
  (.ret false))
  (.ret false)
def gi(b:Form)(d:Int):T Bool :=
 let c:=(b.2.2.2.2.1.length:Int);  T.bind (T.bind (eL b) λj =>
 .ite j
  (.ret true)
  (T.bind (Qn b) λk =>
 .ite (!k)
  (.ret true)
  (.ite (decide (d<0))
  (.ret true)
  (.ret (decide (3<d))))):T (Bool)) λl =>
 .ite l
  (.ret true)
  (T.bind (eA b) λh=>let g:=cat h [114,117,108,101,32];
 oK h [114,117,108,101,32] <|
 T.bind (ya d) λf =>
 oK g f <|
 oK (cat g f) [32,108,97,115,116,32,58,32,49,32,61,32,50,10] <|
 T.bind (jA (cat (cat g f) [32,108,97,115,116,32,58,32,49,32,61,32,50,10])) λ(a,o,i)=>let e:=nth a.2.2.2.2.1 c (zk q8);
 .ite ((i != 0)||((a.2.2.2.2.1.length:Int) != (zF (c+1))))
  (.ret false)
  (oI c a.2.2.2.2.1 <|
 .zL (yY 0 c a.2.2.2.2.1.length) <|
 T.bind (dH b (a.1,(a.2.1,(a.2.2.1,(a.2.2.2.1,((va (e:=q8) 0 c a.2.2.2.2.1),(a.2.2.2.2.2.1,()))))))) λm =>
 .ite m
  (.ite (zh e.1 [108,97,115,116])
  (.ite (e.2.1==d)
  (.ite (zh e.2.2.1 [])
  (.ite ((Expr.kind e.2.2.2.1)==1)
  (T.bind (mn) λn =>
 .ret n)
  (.ret false))
  (.ret false))
  (.ret false))
  (.ret false))
  (.ret false)))

abbrev Wf:Ty:=(.cons (.int .i64) (.cons (.int .i64) .nil))
abbrev vY:=den Wf
end Go.AM.Lf
