/-
  The program's functions as trees in plain Lean, part 0: printed by a program of ours.
-/
import Derived.Test.YthhgaidlooddpaaGreatDoorAmA
set_option linter.unusedVariables false
noncomputable section
namespace Go.AM.Lf
abbrev db:Ty:=(.cons .str .nil)
abbrev FO:=den db
abbrev dI:Ty:=(.cons .str (.cons (.int .u64) .nil))
abbrev J4:=den dI
abbrev zu:Ty:=(.cons .str (.cons .bool .nil))
abbrev Switch:=den zu
abbrev zO:Ty:=(.cons .str db)
abbrev qq:=den zO
abbrev xH:Ty:=(.cons (.int .i64) (.cons (.int .i64) .nil))
abbrev qf:=den xH
abbrev eS:Ty:=(.cons (.int .u8) (.cons (.int .u8) .nil))
abbrev Kf:=den eS
abbrev ow:Ty:=(.cons (.int .i64) (.cons (.int .i64) (.cons .bool (.cons (.int .u8) .nil))))
abbrev E6:=den ow
abbrev wS:Ty:=(.cons .bool (.cons (.sl (.int .u32)) (.cons (.sl (.int .u32)) .nil)))
abbrev Rat:=den wS
abbrev zw:Ty:=(.cons .str (.cons (.int .i64) (.cons .bool (.cons (.int .i64) .nil))))
abbrev Field:=den zw
abbrev zU:Ty:=(.cons .str (.cons (.int .i64) (.cons (.int .i64) (.cons .bool .nil))))
abbrev zc:=den zU
abbrev zY:Ty:=(.cons .str (.cons (.int .i64) (.cons .str (.cons .expr (.cons .expr .nil)))))
abbrev qk:=den zY
abbrev zF:Ty:=(.cons .str (.cons (.int .i64) (.cons (.int .i64) (.cons .expr (.cons .expr .nil)))))
abbrev Check:=den zF
abbrev zD:Ty:=(.cons .str (.cons wS .nil))
abbrev Param:=den zD
abbrev zX:Ty:=(.cons .str (.cons (.int .i64) (.cons (.int .i64) (.cons (.int .i64) (.cons (.int .i64) (.cons .bool .nil))))))
abbrev zj:=den zX
abbrev qI:Ty:=(.cons (.sl zu) (.cons (.sl zD) (.cons (.sl zO) (.cons (.sl zw) (.cons (.sl zY) (.cons (.sl zF) .nil))))))
abbrev Form:=den qI
def strings_Split(a:zd)(b:zd):T (List zd) :=
 .zy (a.length<4294967281/\b.length=1) <|
 .ret (ju (List.headD b 0) a)
def strings_Cut(a:zd)(b:zd):T (zd×zd×Bool) :=
 .zy (a.length<4294967281) <|
 .ret (wT a b)
def bF(a:Int):T Bool :=
 .ret (a==32)
def strings_FieldsFunc(a:zd)(b:Int->T Bool):T (List zd) :=
 .zy (a.length<=4294967296) <|
 .ret (xK 32 [] a)
def ll(c:zd):T (List zd) :=
 T.bind (strings_FieldsFunc c (λa=>bF a)) λb =>
 .ret b
def vg(a:Int):T Bool :=
 .ret ((decide (97<=a))&&(decide (a<=122)))
def xV(a:Int):T Bool :=
 .ret ((decide (48<=a))&&(decide (a<=57)))
def vP(a:Int):T Bool :=
 T.bind (vg a) λb =>
 .ite b
  (.ret true)
  (T.bind (xV a) λc =>
 .ite c
  (.ret true)
  (.ret (a==95)))
def y3(b:zd)(d:Int):Int->T (Int⊕(Unit⊕Bool))
 | a =>
 .ite (decide (a<d))
  (oI a b <|
 T.bind (vP (zt b a)) λc =>
 .ite (!c)
  (.ret (.inr (.inr false)))
  (.ret (.inl (zI (a+1)))))
  (.ret (.inr (.inl ())))
def Q8 s1 x1 s:=T.loop (y3 s1 x1) s
def xC(a:zd):T Bool :=
 T.bind (.ite (zi a [])
  (.ret true)
  (.ite (decide (24<(a.length:Int)))
  (.ret true)
  (oI 0 a <|
 T.bind (vg (zt a 0)) λb =>
 .ret (!b))):T (Bool)) λc =>
 .ite c
  (.ret false)
  (T.bind (Q8 a (a.length:Int) 0) <|
 Sum.elim (λ_ =>
 .ret true)
  (λd =>
 .ret d))
def strings_IndexAny(c:zd)(a:zd):T Int :=
 .zy (c.length<4294967281/\2<=a.length/\a.length<4294967281/\(∀ b∈a,b.toNat<128)) <|
 .ret (bJ c a)
def xJ(b:zd)(a:zd):T Bool :=
 .zy (((decide ((a.length:Int)<=(b.length:Int)))=true)->(vj 0 (a.length:Int) b.length)) <|
 .ret ((decide ((a.length:Int)<=(b.length:Int)))&&(zi (qC 0 (a.length:Int) b) a))
def strings_HasPrefix(b:zd)(c:zd):T Bool :=
 T.bind (xJ b c) λa =>
 .ret a
def w8  : zc->T (zc⊕(zc))
 | a =>
 .zy (((decide (a.2.1<(a.1.length:Int)))=true)->(q9 a.2.1 a.1.length)) <|
 .ite ((decide (a.2.1<(a.1.length:Int)))&&((zt a.1 a.2.1)==32))
  (.ret (.inl (a.1,((zI (a.2.1+1)),(a.2.2.1,(a.2.2.2.1,()))))))
  (.ret (.inr a))
def gV(s:zc):T (zc):=T.loop (w8 ) s
def uB(b:zc):T zc :=
 T.bind (gV  b) λa =>
 .ret a
def strings_IndexByte(s:zd)(c:Int):T Int:=.ret (ZL s (byteOf c))
def xm(e:zd)(f:zc):T (Int×zc) :=
 T.bind (uB f) λb =>
 T.bind (.ite (decide (b.2.1<(b.1.length:Int)))
  (oI b.2.1 b.1 <|
 T.bind (strings_IndexByte e (zt b.1 b.2.1)) λc =>
 .ret ((decide (0<=c)),b))
  (.ret (false,b)):T ((Bool×zc))) λ(d,a) =>
 .ite d
  (oI (zI ((zI (a.2.1+1))-1)) a.1 <|
 .ret ((zt a.1 (zI ((zI (a.2.1+1))-1))),(a.1,((zI (a.2.1+1)),(a.2.2.1,(a.2.2.2.1,()))))))
  (.ret (0,a))
def w7(a:Int)(b:Int)(c:zc):T (zc⊕(qf×zc)) :=
 .ret (.inr ((a,(b,())),c))
def vk(a:zc):T (zc⊕(qf×zc)) :=
 .ite (decide (32<=(zI (a.2.2.1+1))))
  (T.bind (w7 4 (zI (a.2.1-1)) (a.1,(a.2.1,((zI (a.2.2.1+1)),(a.2.2.2.1,()))))) <|
 Sum.elim (λb =>
 .ret (.inl b))
  (λ(c,d) =>
 .ret (.inr (c,d))))
  (.ret (.inl (a.1,(a.2.1,((zI (a.2.2.1+1)),(a.2.2.2.1,()))))))
def xc(e:Int->T Bool)(f:Int)(g:Int):zc->T (zc⊕(zc))
 | a =>
 T.bind (.ite (decide (a.2.1<(a.1.length:Int)))
  (.ite (decide ((zI (a.2.1-g))<f))
  (oI a.2.1 a.1 <|
 T.bind (e (zt a.1 a.2.1)) λc =>
 .ret (c,a))
  (.ret (false,a)))
  (.ret (false,a)):T ((Bool×zc))) λ(d,b) =>
 .ite d
  (.ret (.inl (b.1,((zI (b.2.1+1)),(b.2.2.1,(b.2.2.2.1,()))))))
  (.ret (.inr b))
def bm is most1 from_ s:=T.loop (xc is most1 from_) s
def xl(c:Int->T Bool)(d:Int)(b:zc):T (zd×zc) :=
 T.bind (bm c d b.2.1 b) λa =>
 .zy (vj b.2.1 a.2.1 a.1.length) <|
 .ret ((qC b.2.1 a.2.1 a.1),a)
def strings_CutPrefix(a:zd)(b:zd):T (zd×Bool) :=
 .ret (yU a b,List.isPrefixOf b a)
def yz(c:Int):zd->T (zd⊕(zd))
 | a=>let b:=zI ((a.length:Int)-1);
 .zy (((decide (0<(a.length:Int)))=true)->(q9 b a.length)) <|
 .ite ((decide (0<(a.length:Int)))&&((zt a b)==c))
  (.zy (vj 0 b a.length) <|
 .ret (.inl (qC 0 b a)))
  (.ret (.inr a))
def lB c1 s:=T.loop (yz c1) s
def strings_trimRightByte(b:zd)(c:Int):T zd :=
 T.bind (lB c b) λa =>
 .ret a
def gF(b:Int):zd->T (zd⊕(zd))
 | a =>
 .zy (((decide (0<(a.length:Int)))=true)->(q9 0 a.length)) <|
 .ite ((decide (0<(a.length:Int)))&&((zt a 0)==b))
  (.zy (vj 1 (a.length:Int) a.length) <|
 .ret (.inl (qC 1 (a.length:Int) a)))
  (.ret (.inr a))
def lY c1 s:=T.loop (gF c1) s
def strings_trimLeftByte(b:zd)(c:Int):T zd :=
 T.bind (lY c b) λa =>
 .ret a
def strings_makeASCIISet(a:zd):T ((den (dY .bool 256))×Bool) :=
 .zy (a.length<4294967281/\(∀ (j:Nat) b,a[j]? = some b->b.toNat<128)) <|
 .ret (dC a,true)
def xN(b:(den (dY .bool 256)))(a:Int):T Bool :=
 .zy (q9 a 256) <|
 .ret (oB .bool (dY .bool 256) b (Int.toNat a))
def wG(d:(den (dY .bool 256))):zd->T (zd⊕(zd))
 | a=>let b:=zI ((a.length:Int)-1);
 .ite (decide (0<(a.length:Int)))
  (oI b a <|
 T.bind (xN d (zt a b)) λc =>
 .ite (!c)
  (.ret (.inr a))
  (.zy (vj 0 b a.length) <|
 .ret (.inl (qC 0 b a))))
  (.ret (.inr a))
def yi as1 s:=T.loop (wG as1) s
def vM(b:zd)(c:(den (dY .bool 256))):T zd :=
 T.bind (yi c b) λa =>
 .ret a
def va(c:(den (dY .bool 256))):zd->T (zd⊕(zd))
 | a =>
 .ite (decide (0<(a.length:Int)))
  (oI 0 a <|
 T.bind (xN c (zt a 0)) λb =>
 .ite (!b)
  (.ret (.inr a))
  (.zy (vj 1 (a.length:Int) a.length) <|
 .ret (.inl (qC 1 (a.length:Int) a))))
  (.ret (.inr a))
def yE as1 s:=T.loop (va as1) s
def uf(b:zd)(c:(den (dY .bool 256))):T zd :=
 T.bind (yE c b) λa =>
 .ret a
def ya(b:zd)(a:zd):T zd :=
 .ite ((zi b [])||(zi a []))
  (.ret b)
  (.zy ((((a.length:Int)==1)=true)->(q9 0 a.length)) <|
 .ite (((a.length:Int)==1)&&(decide ((zt a 0)<128)))
  (oI 0 a <|
 T.bind (strings_trimRightByte b (zt a 0)) λd =>
 oI 0 a <|
 T.bind (strings_trimLeftByte d (zt a 0)) λe =>
 .ret e)
  (T.bind (strings_makeASCIISet a) λ(c,f) =>
 .ite f
  (T.bind (vM b c) λg =>
 T.bind (uf g c) λh =>
 .ret h)
  (.fail)))
def eW(a:(List Int)):T Bool :=
 .zy ((((a.length:Int)==0)=false)->(q9 (zI ((a.length:Int)-1)) a.length)) <|
 .ret (((a.length:Int)==0)||((nth a (zI ((a.length:Int)-1)) (zn (.int .u32))) != 0))
def iK  : (List Int)->T ((List Int)⊕((List Int)))
 | a =>
 T.bind (eW a) λb =>
 .ite (!b)
  (.zy (vj 0 (zI ((a.length:Int)-1)) a.length) <|
 .ret (.inl (wi (e:=(.int .u32)) 0 (zI ((a.length:Int)-1)) a)))
  (.ret (.inr a))
def oR(s:(List Int)):T ((List Int)):=T.loop (iK ) s
def we(b:(List Int)):T (List Int) :=
 T.bind (oR  b) λa =>
 .ret a
def nq(j:(List Int))(d:Int)(h:Int)(k:(List Int))(l:Int)(m:Int)(g:(List Int))(i:Int):(Int×Int×(List Int))->T ((Int×Int×(List Int))⊕((Int×(List Int))))
 | (f,b,a)=>let c:=0+(Int.toNat (zI (d+b))); let e:=zV (f+(zV ((zV ((zV h)*(zV (nth g b (zn (.int .u32))))))+(zV (gA a c (zn (.int .u32)))))));
 .ite (decide (b<i))
  (oI b g <|
 oI (zI (d+b)) a <|
 .zy (mO a.length a.length c a.length) <|
 oI (zI (d+b)) a <|
 .zy (mO a.length a.length c a.length) <|
 .zy (0<=(32:Int)) <|
 oM a.length (List.set a c (xY e)).length <|
 .ret (.inl ((vd .u64 e 32),((zI (b+1)),(List.set a c (xY e))))))
  (oC a <|
 oE a <|
 .ret (.inr (f,a)))
def U9 b3 i v x3 x4 x5 x6 x7 s:=T.loop (nq b3 i v x3 x4 x5 x6 x7) s
def mY(d:(List Int))(e:(List Int))(h:Int):(Int×(List Int))->T ((Int×(List Int))⊕((List Int)))
 | (a,c)=>let f:=0+(Int.toNat (zI (a+(d.length:Int))));
 .ite (decide (a<h))
  (oI a e <|
 oC c <|
 oE c <|
 T.bind (U9 d a (nth e a (zn (.int .u32))) e h a d (d.length:Int) (0,(0,c))) λ(g,b) =>
 oI (zI (a+(d.length:Int))) b <|
 .zy (mO b.length b.length f b.length) <|
 oM b.length (List.set b f (xY g)).length <|
 .ret (.inl ((zI (a+1)),(List.set b f (xY g)))))
  (oC c <|
 oE c <|
 .ret (.inr c))
def U5 b2 x x1 s:=T.loop (mY b2 x x1) s
def sJ(f:(List Int))(g:(List Int)):T (List Int) :=
 T.bind (we f) λb =>
 T.bind (we g) λd=>let a:=zI ((b.length:Int)+(d.length:Int));
 .zy (XT a a 4) <|
 oM (Int.toNat a) (List.replicate (Int.toNat a) (0:Int)).length <|
 T.bind (U5 d b (b.length:Int) (0,(List.replicate (Int.toNat a) 0))) λc =>
 oE c <|
 T.bind (we (List.drop 0 (List.take (0+c.length) c))) λe =>
 .ret e
def gf(a:Int):T (List Int) :=
 .zy (0<=(32:Int)) <|
 T.bind (we ([(xY a),(xY (vd .u64 a 32))]:List Int)) λb =>
 .ret b
def mT(h:(List Int))(c:(List Int))(e:(List Int))(g:Int):(Int×Int×(List Int))->T ((Int×Int×(List Int))⊕((Int×(List Int))))
 | (d,a,b)=>let f:=bif (decide (a<(c.length:Int)))then(zV ((zV (d+(zV (nth e a (zn (.int .u32))))))+(zV (nth c a (zn (.int .u32))))))else(zV (d+(zV (nth e a (zn (.int .u32))))));
 .ite (decide (a<g))
  (oI a e <|
 .zy (((decide (a<(c.length:Int)))=true)->(q9 a c.length)) <|
 oI a b <|
 .zy (mO b.length b.length (0+(Int.toNat a)) b.length) <|
 .zy (0<=(32:Int)) <|
 oM b.length (List.set b (0+(Int.toNat a)) (xY f)).length <|
 .ret (.inl ((vd .u64 f 32),((zI (a+1)),(List.set b (0+(Int.toNat a)) (xY f))))))
  (oC b <|
 oE b <|
 .ret (.inr (d,b)))
def JW a2 b2 x x1 s:=T.loop (mT a2 b2 x x1) s
def VF(h:(List Int))(i:(List Int)):T (List Int) :=
 T.bind (we h) λc =>
 T.bind (we i) λd=>let e:=bif (decide ((c.length:Int)<(d.length:Int)))then d else c; let a:=(e.length:Int);
 .zy (XT (zI (a+1)) (zI (a+1)) 4) <|
 oM (Int.toNat (zI (a+1))) (List.replicate (Int.toNat (zI (a+1))) (0:Int)).length <|
 T.bind (JW e (bif (decide ((c.length:Int)<(d.length:Int)))then c else d) e a (0,(0,(List.replicate (Int.toNat (zI (a+1))) 0)))) λ(f,b) =>
 oI a b <|
 .zy (mO b.length b.length (0+(Int.toNat a)) b.length) <|
 oE b <|
 T.bind (we (List.drop 0 (List.take (0+b.length) (List.set b (0+(Int.toNat a)) (xY f))))) λg =>
 .ret g
def b7(c:zd)(g:Int):((List Int)×Int)->T (((List Int)×Int)⊕((List Int)))
 | (b,a) =>
 .ite (decide (a<g))
  (T.bind (sJ b ([10]:List Int)) λd =>
 oI a c <|
 T.bind (gf (zV (Gd ((zt c a)-48)))) λe =>
 T.bind (VF d e) λf =>
 .ret (.inl (f,(zI (a+1)))))
  (.ret (.inr b))
def Xc s1 x1 s:=T.loop (b7 s1 x1) s
def vV(a:zd):T ((List Int)×Bool) :=
 T.bind (.ite (zi a [])
  (.ret true)
  (.ite (decide (400<(a.length:Int)))
  (.ret true)
  (T.bind (ya a [48,49,50,51,52,53,54,55,56,57]) λb =>
 .ret (!(zi b [])))):T (Bool)) λc =>
 .ite c
  (.ret ([],false))
  (T.bind (Xc a (a.length:Int) ([],0)) λd =>
 .ret (d,true))
def fG(e:Int):((List Int)×Int)->T (((List Int)×Int)⊕((List Int)))
 | (a,b) =>
 .ite (decide (b<e))
  (T.bind (gf 10) λc =>
 T.bind (sJ a c) λd =>
 .ret (.inl (d,(zI (b+1)))))
  (.ret (.inr a))
def VY x s:=T.loop (fG x) s
def sa(c:Int):T (List Int) :=
 T.bind (gf 1) λa =>
 T.bind (VY c (a,0)) λb =>
 .ret b
def vO(a:(List Int)):T (List Int) :=
 let b:=0+a.length;  .zy (a=[]->∀ r,T.leads (.zy (Yw 0 0 0 0 0 a.length 4) <|
 .zy (b=b) <|
 .ret (List.drop 0 (List.take (0+b) a)):T _) r->T.leads (.ret []:T _) r) <|
 .zy (Yw 0 0 0 0 0 a.length 4) <|
 .zy (b=b) <|
 .ret (List.drop 0 (List.take (0+b) a))
def bN(c:(List Int)):T (List Int) :=
 T.bind (we c) λa =>
 T.bind (vO a) λb =>
 .ret b
def fX(b:(List Int))(c:(List Int)):Int->T (Int⊕(Unit⊕Int))
 | a =>
 .ite (decide (0<=a))
  (oI a b <|
 oI a c <|
 .ite ((nth b a (zn (.int .u32))) != (nth c a (zn (.int .u32))))
  (oI a b <|
 oI a c <|
 .ite (decide ((nth b a (zn (.int .u32)))<(nth c a (zn (.int .u32)))))
  (.ret (.inr (.inr (-1))))
  (.ret (.inr (.inr 1))))
  (.ret (.inl (zI (a-1)))))
  (.ret (.inr (.inl ())))
def Jv a2 b2 s:=T.loop (fX a2 b2) s
def mN(d:(List Int))(e:(List Int)):T Int :=
 T.bind (we d) λa =>
 T.bind (we e) λb =>
 .ite ((a.length:Int) != (b.length:Int))
  (.ite (decide ((a.length:Int)<(b.length:Int)))
  (.ret (-1))
  (.ret 1))
  (T.bind (Jv a b (zI ((a.length:Int)-1))) <|
 Sum.elim (λ_ =>
 .ret 0)
  (λc =>
 .ret c))
def yR(b:Int)(c:Int)(a:Int):T (Int×Int) :=
 .ite ((a != 0)&&(decide (a<=b)))
  (.fail)
  (.zy (0<=(32:Int)) <|
 .zy ((zV a)≠0) <|
 .zy ((zV a)≠0) <|
 .ret ((xY (zV (Int.tdiv (ZK .u64 (gp .u64 (zV b) 32) (zV c)) (zV a)))),(xY (Int.tmod (ZK .u64 (gp .u64 (zV b) 32) (zV c)) (zV a)))))
def dV(e:(List Int))(g:Int):(Int×Int×(List Int))->T ((Int×Int×(List Int))⊕((Int×(List Int))))
 | (d,b,a) =>
 .ite (decide (0<=b))
  (oI b e <|
 T.bind (yR d (nth e b (zn (.int .u32))) g) λ(c,f) =>
 oI b a <|
 .zy (mO a.length a.length (0+(Int.toNat b)) a.length) <|
 oM a.length (List.set a (0+(Int.toNat b)) c).length <|
 .ret (.inl (f,((zI (b-1)),(List.set a (0+(Int.toNat b)) c)))))
  (oC a <|
 oE a <|
 .ret (.inr (d,a)))
def Xe a1 b1 s:=T.loop (dV a1 b1) s
def eK(a:(List Int))(e:Int):T ((List Int)×Int) :=
 .zy (XT (a.length:Int) (a.length:Int) 4) <|
 oM (Int.toNat (a.length:Int)) (List.replicate (Int.toNat (a.length:Int)) (0:Int)).length <|
 T.bind (Xe a e (0,((zI ((a.length:Int)-1)),(List.replicate (Int.toNat (a.length:Int)) 0)))) λ(c,b) =>
 oE b <|
 T.bind (we (List.drop 0 (List.take (0+b.length) b))) λd =>
 .ret (d,c)
def yY(b:Int):T Int :=
 let a:=bif (decide (65536<=b))then(vd .u32 b 16)else b;  .zy (((decide (65536<=b))=true)->(0<=(16:Int))) <|
 .zy (((decide (256<=a))=true)->(0<=(8:Int))) <|
 .zy (q9 (Gd (bif (decide (256<=a))then(vd .u32 a 8)else a)) ([0,1,2,2,3,3,3,3,4,4,4,4,4,4,4,4,5,5,5,5,5,5,5,5,5,5,5,5,5,5,5,5,6,6,6,6,6,6,6,6,6,6,6,6,6,6,6,6,6,6,6,6,6,6,6,6,6,6,6,6,6,6,6,6,7,7,7,7,7,7,7,7,7,7,7,7,7,7,7,7,7,7,7,7,7,7,7,7,7,7,7,7,7,7,7,7,7,7,7,7,7,7,7,7,7,7,7,7,7,7,7,7,7,7,7,7,7,7,7,7,7,7,7,7,7,7,7,7,8,8,8,8,8,8,8,8,8,8,8,8,8,8,8,8,8,8,8,8,8,8,8,8,8,8,8,8,8,8,8,8,8,8,8,8,8,8,8,8,8,8,8,8,8,8,8,8,8,8,8,8,8,8,8,8,8,8,8,8,8,8,8,8,8,8,8,8,8,8,8,8,8,8,8,8,8,8,8,8,8,8,8,8,8,8,8,8,8,8,8,8,8,8,8,8,8,8,8,8,8,8,8,8,8,8,8,8,8,8,8,8,8,8,8,8,8,8,8,8,8,8,8,8,8,8,8,8]:zd).length) <|
 .ret (zI ((bif (decide (256<=a))then(zI ((bif (decide (65536<=b))then 16 else 0)+8))else(bif (decide (65536<=b))then 16 else 0))+(zI (zt [0,1,2,2,3,3,3,3,4,4,4,4,4,4,4,4,5,5,5,5,5,5,5,5,5,5,5,5,5,5,5,5,6,6,6,6,6,6,6,6,6,6,6,6,6,6,6,6,6,6,6,6,6,6,6,6,6,6,6,6,6,6,6,6,7,7,7,7,7,7,7,7,7,7,7,7,7,7,7,7,7,7,7,7,7,7,7,7,7,7,7,7,7,7,7,7,7,7,7,7,7,7,7,7,7,7,7,7,7,7,7,7,7,7,7,7,7,7,7,7,7,7,7,7,7,7,7,7,8,8,8,8,8,8,8,8,8,8,8,8,8,8,8,8,8,8,8,8,8,8,8,8,8,8,8,8,8,8,8,8,8,8,8,8,8,8,8,8,8,8,8,8,8,8,8,8,8,8,8,8,8,8,8,8,8,8,8,8,8,8,8,8,8,8,8,8,8,8,8,8,8,8,8,8,8,8,8,8,8,8,8,8,8,8,8,8,8,8,8,8,8,8,8,8,8,8,8,8,8,8,8,8,8,8,8,8,8,8,8,8,8,8,8,8,8,8,8,8,8,8,8,8,8,8,8,8] (Gd (bif (decide (256<=a))then(vd .u32 a 8)else a))))))
def wZ(b:Int):T Int :=
 T.bind (yY b) λa =>
 .ret (zI (32-a))
def tF(e:Int)(h:Int)(f:(List Int))(i:Int):(Int×(List Int))->T ((Int×(List Int))⊕((List Int)))
 | (b,a)=>let c:=zI (b+1); let d:=List.set a (0+(Int.toNat b)) (ZK .u32 (gA a (0+(Int.toNat b)) (zn (.int .u32))) (xY (gp .u64 (zV (nth f b (zn (.int .u32)))) e))); let g:=List.set d (0+(Int.toNat c)) (xY (vd .u64 (gp .u64 (zV (nth f b (zn (.int .u32)))) e) 32));
 .ite (decide (b<i))
  (oI b f <|
 .zy (0<=e) <|
 oI b a <|
 .zy (mO a.length a.length (0+(Int.toNat b)) a.length) <|
 oI b a <|
 .zy (mO a.length a.length (0+(Int.toNat b)) a.length) <|
 .ite (decide (c<h))
  (.zy (0<=(32:Int)) <|
 oI c a <|
 .zy (mO a.length a.length (0+(Int.toNat c)) d.length) <|
 oM a.length g.length <|
 .ret (.inl (c,g)))
  (oM a.length d.length <|
 .ret (.inl (c,d))))
  (oC a <|
 oE a <|
 .ret (.inr a))
def tz by_1 n1 x x1 s:=T.loop (tF by_1 n1 x x1) s
def ft(c:(List Int))(d:Int)(a:Int):T (List Int) :=
 .zy (XT a a 4) <|
 oM (Int.toNat a) (List.replicate (Int.toNat a) (0:Int)).length <|
 T.bind (tz d a c (c.length:Int) (0,(List.replicate (Int.toNat a) 0))) λb =>
 oC b <|
 oE b <|
 .ret b
def bU(d:Int)(c:Int)(e:Int):(Int×Int)->T ((Int×Int)⊕(Int))
 | (a,b) =>
 .zy ((0<=(32:Int))/\((((vd .u64 a 32) != 0)=false)->(0<=(32:Int)))) <|
 .ite (((vd .u64 a 32) != 0)||(decide ((ZK .u64 (gp .u64 b 32) (zV d))<(zV (a*(zV e))))))
  (.zy (0<=(32:Int)) <|
 .ite ((vd .u64 (zV (b+(zV c))) 32) != 0)
  (.ret (.inr (zV (a-1))))
  (.ret (.inl ((zV (a-1)),(zV (b+(zV c)))))))
  (.ret (.inr a))
def Qr low1 b11 b21 s:=T.loop (bU low1 b11 b21) s
def eJ(b:Int)(c:Int)(e:Int)(a:Int)(f:Int):T Int :=
 .zy (0<=(32:Int)) <|
 .zy ((zV a)≠0) <|
 .zy ((zV a)≠0) <|
 T.bind (Qr e a f ((zV (Int.tdiv (ZK .u64 (gp .u64 (zV b) 32) (zV c)) (zV a))),(Int.tmod (ZK .u64 (gp .u64 (zV b) 32) (zV c)) (zV a)))) λd =>
 .ret d
def jB(a:Int)(b:Int)(c:Int):T (Int×Int) :=
 .zy (0<=(31:Int)) <|
 .ret ((xY ((xY (a-b))-c)),(vd .u32 (ZK .u32 (Fc .u32 (F3 .u32 4294967295 a) b) (Fc .u32 (F3 .u32 4294967295 (F3 .u32 a b)) (xY ((xY (a-b))-c)))) 31))
def yV(a:Int)(b:Int)(c:Int):T (Int×Int) :=
 .zy (0<=(32:Int)) <|
 .ret ((xY (zV ((zV ((zV a)+(zV b)))+(zV c)))),(xY (vd .u64 (zV ((zV ((zV a)+(zV b)))+(zV c))) 32)))
def bG(l:(List Int))(i:Int)(f:(List Int))(k:Int):((Nat×Nat)×Int×Int×Int×(List Int))->T (((Nat×Nat)×Int×Int×Int×(List Int))⊕(((Nat×Nat)×Int×Int×(List Int))))
 | (c,e,h,b,a)=>let d:=c.1+(Int.toNat b);
 .ite (decide (b<k))
  (oI b f <|
 .zy (q9 b c.2) <|
 .zy (mO a.length a.length d a.length) <|
 T.bind (jB (gA a d (zn (.int .u32))) (xY (zV (e+(zV (i*(zV (nth f b (zn (.int .u32))))))))) h) λ(g,j) =>
 .zy (q9 b c.2) <|
 .zy (mO a.length a.length d a.length) <|
 .zy (0<=(32:Int)) <|
 oE a <|
 .zy (a.length=(List.set a d g).length) <|
 .ret (.inl (c,((vd .u64 (zV (e+(zV (i*(zV (nth f b (zn (.int .u32)))))))) 32),(j,((zI (b+1)),(List.set a d g)))))))
  (oE a <|
 oE a <|
 .ret (.inr (c,(e,(h,a)))))
def rD b1 q1 x x1 s:=T.loop (bG b1 q1 x x1) s
def bP(j:(List Int))(g:(List Int))(i:Int):((Nat×Nat)×Int×Int×(List Int))->T (((Nat×Nat)×Int×Int×(List Int))⊕(((Nat×Nat)×Int×(List Int))))
 | (c,f,b,a)=>let d:=c.1+(Int.toNat b);
 .ite (decide (b<i))
  (oI b g <|
 .zy (q9 b c.2) <|
 .zy (mO a.length a.length d a.length) <|
 T.bind (yV (gA a d (zn (.int .u32))) (nth g b (zn (.int .u32))) f) λ(e,h) =>
 .zy (q9 b c.2) <|
 .zy (mO a.length a.length d a.length) <|
 oE a <|
 .zy (a.length=(List.set a d e).length) <|
 .ret (.inl (c,(h,((zI (b+1)),(List.set a d e))))))
  (oE a <|
 oE a <|
 .ret (.inr (c,(f,a))))
def pQ b2 x3 x4 s:=T.loop (bP b2 x3 x4) s
def iS(o:(Nat×Nat))(b:(List Int))(p:Int)(h:(List Int)):T (Bool×(List Int)) :=
 let d:=Int.toNat (b.length:Int);  oE h <|
 oE h <|
 T.bind (rD b p b (b.length:Int) (o,(0,(0,(0,h))))) λ(e,j,k,a) =>
 .zy (q9 (b.length:Int) e.2) <|
 .zy (mO a.length a.length (e.1+d) a.length) <|
 T.bind (jB (gA a (e.1+d) (zn (.int .u32))) (xY j) k) λ(l,m)=>let g:=List.set a (e.1+d) l;
 .zy (q9 (b.length:Int) e.2) <|
 .zy (mO a.length a.length (e.1+d) a.length) <|
 .ite (m==0)
  (.zy (a.length=g.length) <|
 .ret (false,g))
  (oE a <|
 .zy (a.length=g.length) <|
 T.bind (pQ b b (b.length:Int) (e,(0,(0,g)))) λ(f,n,c)=>let i:=List.set c (f.1+d) (xY ((gA c (f.1+d) (zn (.int .u32)))+n));
 .zy (q9 (b.length:Int) f.2) <|
 .zy (mO c.length c.length (f.1+d) c.length) <|
 .zy (q9 (b.length:Int) f.2) <|
 .zy (mO c.length c.length (f.1+d) c.length) <|
 .zy (c.length=i.length) <|
 .ret (true,i))
def du(e:Int)(h:Int)(f:(List Int))(i:Int):(Int×(List Int))->T ((Int×(List Int))⊕((List Int)))
 | (b,a)=>let c:=zI (b+1); let d:=List.set a (0+(Int.toNat b)) (ZK .u32 (gA a (0+(Int.toNat b)) (zn (.int .u32))) (xY (gp .u64 (zV (nth f b (zn (.int .u32)))) e))); let g:=List.set d (0+(Int.toNat c)) (xY (vd .u64 (gp .u64 (zV (nth f b (zn (.int .u32)))) e) 32));
 .ite (decide (b<i))
  (oI b f <|
 .zy (0<=e) <|
 oI b a <|
 .zy (mO a.length a.length (0+(Int.toNat b)) a.length) <|
 oI b a <|
 .zy (mO a.length a.length (0+(Int.toNat b)) a.length) <|
 .ite (decide (c<h))
  (.zy (0<=(32:Int)) <|
 oI c a <|
 .zy (mO a.length a.length (0+(Int.toNat c)) d.length) <|
 oM a.length g.length <|
 .ret (.inl (c,g)))
  (oM a.length d.length <|
 .ret (.inl (c,d))))
  (oC a <|
 oE a <|
 .ret (.inr a))
def Wd by_1 n1 x x1 s:=T.loop (du by_1 n1 x x1) s
def QV(c:(List Int))(d:Int)(a:Int):T (List Int) :=
 .zy (XT a a 4) <|
 oM (Int.toNat a) (List.replicate (Int.toNat a) (0:Int)).length <|
 T.bind (Wd d a c (c.length:Int) (0,(List.replicate (Int.toNat a) 0))) λb =>
 oE b <|
 .ret (List.drop 0 (List.take (0+b.length) b))
def bg(e:Int)(f:(List Int))(h:Int):(Int×(List Int))->T ((Int×(List Int))⊕((List Int)))
 | (b,a)=>let d:=0+(Int.toNat (zI (b-1))); let c:=List.set a (0+(Int.toNat b)) (ZK .u32 (gA a (0+(Int.toNat b)) (zn (.int .u32))) (xY (vd .u64 (vd .u64 (gp .u64 (zV (nth f b (zn (.int .u32)))) 32) e) 32))); let g:=List.set c d (ZK .u32 (gA c d (zn (.int .u32))) (xY (vd .u64 (gp .u64 (zV (nth f b (zn (.int .u32)))) 32) e)));
 .ite (decide (b<h))
  (oI b f <|
 .zy (0<=(32:Int)) <|
 .zy (0<=e) <|
 oI b a <|
 .zy (mO a.length a.length (0+(Int.toNat b)) a.length) <|
 .zy (0<=(32:Int)) <|
 oI b a <|
 .zy (mO a.length a.length (0+(Int.toNat b)) a.length) <|
 .ite (decide (0<b))
  (oI (zI (b-1)) a <|
 .zy (mO a.length a.length d c.length) <|
 oI (zI (b-1)) a <|
 .zy (mO a.length a.length d c.length) <|
 oM a.length g.length <|
 .ret (.inl ((zI (b+1)),g)))
  (oM a.length c.length <|
 .ret (.inl ((zI (b+1)),c))))
  (oC a <|
 oE a <|
 .ret (.inr a))
def ZV by_ x x1 s:=T.loop (bg by_ x x1) s
def cJ(m:(List Int))(n:Int):T (List Int) :=
 let g:=Vi (ng n (-4096)) 4096; let d:=zI (Int.tdiv g (32:Int)); let c:=zI (Int.tdiv (zI (0-g)) (32:Int));  T.bind (we m) λf=>let a:=(f.length:Int); let i:=zI ((zI (d+a))+1); let b:=Int.toNat i;
 .ite (decide (g<0))
  (.zy (32≠(0:Int)) <|
 .ite (decide (a<=c))
  (.ret [])
  (.zy (32≠(0:Int)) <|
 .zy (XT (zI (a-c)) (zI (a-c)) 4) <|
 .zy (vj c a f.length) <|
 oM (Int.toNat (zI (a-c))) (List.replicate (Int.toNat (zI (a-c))) (0:Int)).length <|
 T.bind (ZV (zV (Int.tmod (zI (0-g)) (32:Int))) (wi (e:=(.int .u32)) c a f) (Nat.cast (wi (e:=(.int .u32)) c a f).length:Int) (0,(List.replicate (Int.toNat (zI (a-c))) 0))) λh =>
 oE h <|
 T.bind (we (List.drop 0 (List.take (0+h.length) h))) λj =>
 .ret j))
  (.zy (32≠(0:Int)) <|
 .zy (XT i i 4) <|
 .zy (vj d (Nat.cast b:Int) b) <|
 .zy (32≠(0:Int)) <|
 T.bind (QV f (zV (Int.tmod g (32:Int))) (zI (a+1))) λk =>
 .zy (z5m b b (0+(Int.toNat d)) ((Int.toNat (Nat.cast b:Int))-(Int.toNat d)) (List.replicate b (0:Int)).length) <|
 .zy (b=b) <|
 T.bind (we (List.drop 0 (List.take (0+b) (yg (0+(Int.toNat d)) ((Int.toNat (Nat.cast b:Int))-(Int.toNat d)) (List.replicate b 0) k)))) λl =>
 .ret l)
def dc(m:Int)(g:(List Int))(c:Int):(Int×(List Int)×(List Int))->T ((Int×(List Int)×(List Int))⊕(((List Int)×(List Int))))
 | (b,a,d) =>
 .ite (decide (0<=b))
  (oI (zI (b+c)) a <|
 .zy (mO a.length a.length (0+(Int.toNat (zI (b+c)))) a.length) <|
 oI (zI ((zI (b+c))-1)) a <|
 .zy (mO a.length a.length (0+(Int.toNat (zI ((zI (b+c))-1)))) a.length) <|
 oI (zI ((zI (b+c))-2)) a <|
 .zy (mO a.length a.length (0+(Int.toNat (zI ((zI (b+c))-2)))) a.length) <|
 oI (zI (c-1)) g <|
 oI (zI (c-2)) g <|
 T.bind (eJ (gA a (0+(Int.toNat (zI (b+c)))) (zn (.int .u32))) (gA a (0+(Int.toNat (zI ((zI (b+c))-1)))) (zn (.int .u32))) (gA a (0+(Int.toNat (zI ((zI (b+c))-2)))) (zn (.int .u32))) (nth g (zI (c-1)) (zn (.int .u32))) (nth g (zI (c-2)) (zn (.int .u32)))) λh =>
 T.bind (.zy (vj b (zI ((zI (b+c))+1)) a.length) <|
 oE a <|
 oE a <|
 T.bind (iS ((0+(Int.toNat b)),((Int.toNat (zI ((zI (b+c))+1)))-(Int.toNat b))) g h a) λ(k,f) =>
 .ite k
  (oC d <|
 .zy (xL a.length 0 a.length f.length) <|
 oE f <|
 oE d <|
 .ret ((zV (h-1)),(f,d)))
  (oC d <|
 .zy (xL a.length 0 a.length f.length) <|
 oE f <|
 oE d <|
 .ret (h,(f,d))):T ((Int×(List Int)×(List Int)))) λ(l,i,e)=>let j:=List.set e (0+(Int.toNat b)) (xY l);
 oI b e <|
 .zy (mO e.length e.length (0+(Int.toNat b)) e.length) <|
 .zy (xL e.length 0 e.length j.length) <|
 oC i <|
 oE i <|
 .zy (e.length=j.length) <|
 .ret (.inl ((zI (b-1)),(i,j))))
  (oC d <|
 oC a <|
 oE a <|
 oE d <|
 .ret (.inr (a,d)))
def WO by_ d n s:=T.loop (dc by_ d n) s
def Qq(i:(List Int))(c:(List Int)):T ((List Int)×(List Int)) :=
 oI (zI ((c.length:Int)-1)) c <|
 T.bind (wZ (nth c (zI ((c.length:Int)-1)) (zn (.int .u32)))) λf =>
 T.bind (ft i (zV f) (zI ((i.length:Int)+1))) λg =>
 T.bind (ft c (zV f) (c.length:Int)) λa=>let j:=zI ((zI ((i.length:Int)-(a.length:Int)))+1); let b:=Int.toNat j;
 .zy (XT j j 4) <|
 oE a <|
 .zy (xL b 0 b (List.replicate b (0:Int)).length) <|
 oC g <|
 oE g <|
 .zy (b=(List.replicate b (0:Int)).length) <|
 T.bind (WO (zV f) (List.drop 0 (List.take (0+a.length) a)) (a.length:Int) ((zI ((Nat.cast b:Int)-1)),(g,(List.replicate b 0)))) λ(d,h) =>
 oE h <|
 oE d <|
 T.bind (we (List.drop 0 (List.take (0+h.length) h))) λk =>
 .zy (vj 0 (a.length:Int) (List.drop 0 (List.take (0+d.length) d)).length) <|
 T.bind (cJ (wi (e:=(.int .u32)) 0 (a.length:Int) (List.drop 0 (List.take (0+d.length) d))) (zI (0-(zI (zV f))))) λl =>
 .ret (k,l)
def gw(j:(List Int))(k:(List Int)):T ((List Int)×(List Int)×Bool) :=
 T.bind (we j) λb =>
 T.bind (we k) λa =>
 .ite ((a.length:Int)==0)
  (.ret ([],([],false)))
  (T.bind (mN b a) λc =>
 .ite (decide (c<0))
  (T.bind (bN b) λd =>
 .ret ([],(d,true)))
  (.ite ((a.length:Int)==1)
  (oI 0 a <|
 T.bind (eK b (nth a 0 (zn (.int .u32)))) λ(e,f) =>
 T.bind (gf (zV f)) λg =>
 .ret (e,(g,true)))
  (T.bind (Qq b a) λ(h,i) =>
 .ret (h,(i,true)))))
def fh  : ((List Int)×(List Int))->T (((List Int)×(List Int))⊕((List Int)))
 | (b,a) =>
 .ite (decide (0<(a.length:Int)))
  (T.bind (gw b a) λ(d,c,e) =>
 .ret (.inl (a,c)))
  (.ret (.inr b))
def Jt(s:((List Int)×(List Int))):T ((List Int)):=T.loop (fh ) s
def QD(d:(List Int))(e:(List Int)):T (List Int) :=
 T.bind (bN d) λa =>
 T.bind (bN e) λb =>
 T.bind (Jt  (a,b)) λc =>
 .ret c
def nc(g:Bool)(h:(List Int))(i:(List Int)):T Rat :=
 T.bind (bN h) λa =>
 T.bind (bN i) λb =>
 .ite (((a.length:Int)==0)||((b.length:Int)==0))
  (T.bind (gf 1) λd =>
 .ret (false,(([]:List Int),(d,()))))
  (T.bind (QD a b) λc =>
 T.bind (gw a c) λ(e,j,k) =>
 T.bind (gw b c) λ(f,l,m) =>
 .ret (g,(e,(f,()))))
def gK(f:zd):T (Rat×Int) :=
 .ite (decide (400<(f.length:Int)))
  (.ret ((false,(([]:List Int),(([]:List Int),()))),3))
  (T.bind (strings_CutPrefix f [45]) λ(c,d) =>
 T.bind (strings_Cut c [46]) λ(b,a,g) =>
 .ite g
  (T.bind (vV a) λ(t,h) =>
 oK b a <|
 T.bind (vV (cat b a)) λ(i,j) =>
 .ite ((zi b [])||((!h)||(!j)))
  (.ret ((false,(([]:List Int),(([]:List Int),()))),2))
  (T.bind (sa (a.length:Int)) λk =>
 T.bind (nc d i k) λl =>
 .ret (l,0)))
  (T.bind (strings_Cut c [47]) λ(m,n,o) =>
 T.bind (vV m) λ(p,q) =>
 T.bind (vV (bif (!o)then[49]else n)) λ(e,r) =>
 .ite ((!q)||((!r)||((e.length:Int)==0)))
  (.ret ((false,(([]:List Int),(([]:List Int),()))),2))
  (T.bind (nc d p e) λs =>
 .ret (s,0))))
def uL(i:zc):T ((AM.Expr×zc)⊕(qf×zc)) :=
 T.bind (xl (λe=>xV e) (i.1.length:Int) i) λ(c,a) =>
 T.bind (.zy (((decide (a.2.1<(a.1.length:Int)))=true)->(q9 a.2.1 a.1.length)) <|
 .ite ((decide (a.2.1<(a.1.length:Int)))&&((zt a.1 a.2.1)==46))
  (T.bind (xl (λe=>xV e) (a.1.length:Int) (a.1,((zI (a.2.1+1)),(a.2.2.1,(a.2.2.2.1,()))))) λ(b,f) =>
 .ite (zi b [])
  (T.bind (w7 2 f.2.1 f) <|
 Sum.elim (λj =>
 oK [46] b <|
 oK c (cat [46] b) <|
 .ret (.inl ((cat c (cat [46] b)),(j,(Expr.mk 0 (false,([],([],()))) [] [])))))
  (λ(k,l) =>
 .ret (.inr (k,(l,(Expr.mk 0 (false,([],([],()))) [] []))))))
  (oK [46] b <|
 oK c (cat [46] b) <|
 .ret (.inl ((cat c (cat [46] b)),(f,(Expr.mk 0 (false,([],([],()))) [] []))))))
  (.ret (.inl (c,(a,(Expr.mk 0 (false,([],([],()))) [] []))))):T ((zd×zc×AM.Expr)⊕(qf×zc×AM.Expr))) <|
 Sum.elim (λ(h,d,o) =>
 .ite (decide (400<(h.length:Int)))
  (.ret (.inl ((Expr.mk 1 (false,([],([],()))) [] []),(d.1,(d.2.1,(d.2.2.1,(true,())))))))
  (T.bind (gK h) λ(g,p) =>
 .ret (.inl ((Expr.mk 1 (g.1,(g.2.1,(g.2.2.1,()))) [] []),d))))
  (λ(m,n,q) =>
 .ret (.inr (m,n)))
def wo(V:zc->T ((AM.Expr×zc)⊕(qf×zc)))(W:zc->T ((AM.Expr×zc)⊕(qf×zc)))(X:zc):T ((AM.Expr×zc)⊕(qf×zc)) :=
 T.bind (xm [45,40] X) λ(h,a)=>let j:=(a,(Expr.mk 0 (false,([],([],()))) [] []));
 .ite (h==45)
  (T.bind (vk a) <|
 Sum.elim (λk =>
 T.bind (V k) <|
 Sum.elim (λ(l,c) =>
 .ret (.inl ((Expr.mk 7 (false,([],([],()))) [] [l]),(c.1,(c.2.1,((zI (c.2.2.1-1)),(c.2.2.2.1,())))))))
  (λ(m,n) =>
 .ret (.inr (m,n))))
  (λ(o,p) =>
 .ret (.inr (o,p))))
  (.ite (h==40)
  (T.bind (vk a) <|
 Sum.elim (λq =>
 T.bind (W q) <|
 Sum.elim (λ(r,s)=>let g:=((Expr.mk 0 (false,([],([],()))) [] []),r);
 T.bind (T.bind (xm [41] s) λ(t,e) =>
 .ite (t==0)
  (T.bind (w7 2 e.2.1 e) <|
 Sum.elim (λu =>
 .ret (.inl (u,g)))
  (λ(v,w) =>
 .ret (.inr (v,(w,g)))))
  (.ret (.inl (e,g))):T ((zc×AM.Expr×AM.Expr)⊕(qf×zc×AM.Expr×AM.Expr))) <|
 Sum.elim (λ(d,Y,x) =>
 .ret (.inl (x,(d.1,(d.2.1,((zI (d.2.2.1-1)),(d.2.2.2.1,())))))))
  (λ(y,z,Z,aa) =>
 .ret (.inr (y,z))))
  (λ(A,B) =>
 .ret (.inr (A,B))))
  (λ(C,D) =>
 .ret (.inr (C,D))))
  (T.bind (.ite (decide (a.2.1<(a.1.length:Int)))
  (oI a.2.1 a.1 <|
 T.bind (xV (zt a.1 a.2.1)) λE =>
 .ret (E,j))
  (.ret (false,j)):T ((Bool×zc×AM.Expr))) λ(G,b,i) =>
 .ite G
  (T.bind (uL b) <|
 Sum.elim (λ(H,I) =>
 .ret (.inl (H,I)))
  (λ(J,K) =>
 .ret (.inr (J,K))))
  (T.bind (.ite (decide (b.2.1<(b.1.length:Int)))
  (oI b.2.1 b.1 <|
 T.bind (vg (zt b.1 b.2.1)) λL =>
 .ret (L,(b,i)))
  (.ret (false,(b,i))):T ((Bool×zc×AM.Expr))) λ(M,f,ab) =>
 .ite M
  (T.bind (xl (λN=>vP N) 24 f) λ(O,P) =>
 .ret (.inl ((Expr.mk 2 (false,([],([],()))) O []),P)))
  (T.bind (w7 2 f.2.1 f) <|
 Sum.elim (λR =>
 .ret (.inl ((Expr.mk 0 (false,([],([],()))) [] []),R)))
  (λ(S,U) =>
 .ret (.inr (S,U)))))))
def vp(vv:zc->T ((AM.Expr×zc)⊕(qf×zc)))(p:zc):T ((AM.Expr×zc)⊕(qf×zc)):=T.fix (λF x=>wo (λy0=>F (y0)) vv x) p
def wY(l:zc->T ((AM.Expr×zc)⊕(qf×zc)))(f:zd)(m:qf):(zc×AM.Expr×AM.Expr)->T ((zc×AM.Expr×AM.Expr)⊕((zc×AM.Expr×AM.Expr)⊕(qf×zc×AM.Expr×AM.Expr)))
 | (k,e,a) =>
 T.bind (xm f k) λ(b,c) =>
 .ite (b==0)
  (.ret (.inr (.inl (c,(a,a)))))
  (T.bind ((vp l) c) <|
 Sum.elim (λ(g,h) =>
 T.bind (strings_IndexByte f b) λd =>
 .zy (q9 d 2) <|
 .ret (.inl (h,(e,(Expr.mk (oB (.int .i64) xH m (Int.toNat d)) (false,([],([],()))) [] [a,g])))))
  (λ(i,j) =>
 .ret (.inr (.inr (i,(j,(e,a)))))))
def ke vv Xo JM s:=T.loop (wY vv Xo JM) s
def vL(a:zc->T ((AM.Expr×zc)⊕(qf×zc)))(p:(Unit))(j:zd)(k:qf)(l:zc):T ((AM.Expr×zc)⊕(qf×zc)) :=
 T.bind ((vp a) l) <|
 Sum.elim (λ(b,c) =>
 T.bind (ke a j k (c,((Expr.mk 0 (false,([],([],()))) [] []),b))) <|
 Sum.elim (λ(d,e,m) =>
 .ret (.inl (e,d)))
  (λ(f,g,n,o) =>
 .ret (.inr (f,g))))
  (λ(h,i) =>
 .ret (.inr (h,i)))
def wJ(e:zc->T ((AM.Expr×zc)⊕(qf×zc)))(f:zc):T ((AM.Expr×zc)⊕(qf×zc)) :=
 T.bind ((vL e) () [42,47] ((5:Int),((6:Int),())) f) <|
 Sum.elim (λ(a,b) =>
 .ret (.inl (a,b)))
  (λ(c,d) =>
 .ret (.inr (c,d)))
def wR(l:zc->T ((AM.Expr×zc)⊕(qf×zc)))(f:zd)(m:qf):(zc×AM.Expr×AM.Expr)->T ((zc×AM.Expr×AM.Expr)⊕((zc×AM.Expr×AM.Expr)⊕(qf×zc×AM.Expr×AM.Expr)))
 | (k,e,a) =>
 T.bind (xm f k) λ(b,c) =>
 .ite (b==0)
  (.ret (.inr (.inl (c,(a,a)))))
  (T.bind ((wJ l) c) <|
 Sum.elim (λ(g,h) =>
 T.bind (strings_IndexByte f b) λd =>
 .zy (q9 d 2) <|
 .ret (.inl (h,(e,(Expr.mk (oB (.int .i64) xH m (Int.toNat d)) (false,([],([],()))) [] [a,g])))))
  (λ(i,j) =>
 .ret (.inr (.inr (i,(j,(e,a)))))))
def jQ vv Xo JM s:=T.loop (wR vv Xo JM) s
def vz(a:zc->T ((AM.Expr×zc)⊕(qf×zc)))(p:(Unit))(j:zd)(k:qf)(l:zc):T ((AM.Expr×zc)⊕(qf×zc)) :=
 T.bind ((wJ a) l) <|
 Sum.elim (λ(b,c) =>
 T.bind (jQ a j k (c,((Expr.mk 0 (false,([],([],()))) [] []),b))) <|
 Sum.elim (λ(d,e,m) =>
 .ret (.inl (e,d)))
  (λ(f,g,n,o) =>
 .ret (.inr (f,g))))
  (λ(h,i) =>
 .ret (.inr (h,i)))
def yo(e:zc->T ((AM.Expr×zc)⊕(qf×zc)))(f:zc):T ((AM.Expr×zc)⊕(qf×zc)) :=
 T.bind ((vz e) () [43,45] ((3:Int),((4:Int),())) f) <|
 Sum.elim (λ(a,b) =>
 .ret (.inl (a,b)))
  (λ(c,d) =>
 .ret (.inr (c,d)))
def ka(p:zc):T ((AM.Expr×zc)⊕(qf×zc)):=T.fix (λF x=>yo (λy0=>F (y0)) x) p
def kB(a:AM.Expr)(b:Int)(c:Int):T (AM.Expr×Int×Int) :=
 .ite false
  (.fail)
  (.ret (a,(b,c)))
def jU(a:qf)(b:AM.Expr)(c:Int)(d:Int):T (AM.Expr×Int×Int) :=
 .ite true
  (.ite (!true)
  (.fail)
  (.ret ((Expr.mk 0 (false,([],([],()))) [] []),(a.2.1,a.1))))
  (.ret (b,(c,d)))
def jX(t:zc):T (AM.Expr×Int×Int×zc) :=
 T.bind (ka t) <|
 Sum.elim (λ(b,a) =>
 .ite (decide (a.2.1<(a.1.length:Int)))
  (T.bind (w7 2 a.2.1 a) <|
 Sum.elim (λc =>
 T.bind (kB b 0 0) λ(d,e,f) =>
 .ret (d,(e,(f,c))))
  (λ(g,h) =>
 T.bind (jU g b 0 0) λ(i,j,k) =>
 .ret (i,(j,(k,h)))))
  (T.bind (kB b 0 0) λ(l,m,n) =>
 .ret (l,(m,(n,a)))))
  (λ(o,p) =>
 T.bind (jU o (Expr.mk 0 (false,([],([],()))) [] []) 0 0) λ(q,r,s) =>
 .ret (q,(r,(s,p))))
def se(a:Int):T Int :=
 .ite (bif (a==1)then(a==1)else(a==2))
  (.ret 0)
  (.ite (a==7)
  (.ret 1)
  (.ite (a==3)
  (.ret 2)
  (.ite (a==4)
  (.ret 2)
  (.ite (a==5)
  (.ret 2)
  (.ite (a==6)
  (.ret 2)
  (.ret (-1)))))))
def Zs(a:Rat):T Bool :=
 T.bind (T.bind (eW a.2.1) λb =>
 .ite (!b)
  (.ret true)
  (T.bind (eW a.2.2.1) λc =>
 .ite (!c)
  (.ret true)
  (.ite ((a.2.2.1.length:Int)==0)
  (.ret true)
  (.ite a.1
  (.ret ((a.2.1.length:Int)==0))
  (.ret false)))):T (Bool)) λd =>
 .ite d
  (.ret false)
  (T.bind (QD a.2.1 a.2.2.1) λe =>
 T.bind (gf 1) λf =>
 T.bind (mN e f) λg =>
 .ret (g==0))
def fp(a:Rat):T Rat :=
 T.bind (nc a.1 a.2.1 a.2.2.1) λb =>
 .ret b
def eG(b:Rat):T Bool :=
 T.bind (fp b) λa =>
 .ret ((decide (16<(a.2.1.length:Int)))||(decide (16<(a.2.2.1.length:Int))))
def rL(a:Rat):T zd :=
 .ite a.1
  (.ret [45])
  (.ret [])
def wg  : ((Nat×Nat)×Int×Int×(List Int))->T (((Nat×Nat)×Int×Int×(List Int))⊕((List Int)))
 | (b,c,d,a)=>let e:=List.set a (b.1+(Int.toNat c)) (gA a (b.1+(Int.toNat d)) (zn (.int .u8))); let f:=List.set e (b.1+(Int.toNat d)) (gA a (b.1+(Int.toNat c)) (zn (.int .u8)));
 .ite (decide (c<d))
  (.zy (q9 d b.2) <|
 .zy (mO a.length a.length (b.1+(Int.toNat d)) a.length) <|
 .zy (q9 c b.2) <|
 .zy (mO a.length a.length (b.1+(Int.toNat c)) a.length) <|
 .zy (q9 c b.2) <|
 .zy (mO a.length a.length (b.1+(Int.toNat c)) a.length) <|
 .zy (q9 d b.2) <|
 .zy (mO a.length a.length (b.1+(Int.toNat d)) e.length) <|
 oE a <|
 .zy (a.length=f.length) <|
 .ret (.inl (b,((zI (c+1)),((zI (d-1)),f)))))
  (oE a <|
 .ret (.inr a))
def jY(s:((Nat×Nat)×Int×Int×(List Int))):T ((List Int)):=T.loop (wg ) s
def vf(c:(Nat×Nat))(a:(List Int)):T (List Int) :=
 oE a <|
 oE a <|
 T.bind (jY  (c,(0,((zI ((Nat.cast c.2:Int)-1)),a)))) λb =>
 oE b <|
 .ret b
def b6(e:(List Int)):(Int×Int×(List Int))->T ((Int×Int×(List Int))⊕((List Int)))
 | (b,c,a)=>let d:=a++([(zt [48,49,50,51,52,53,54,55,56,57] (Int.tmod b (10:Int)))]:List Int);
 .ite (decide (c<9))
  (.zy (10≠(0:Int)) <|
 oI (Int.tmod b (10:Int)) ([48,49,50,51,52,53,54,55,56,57]:zd) <|
 oA a 1 <|
 .zy (10≠(0:Int)) <|
 oM (a.length+1) d.length <|
 .ret (.inl ((xY (Int.tdiv b (10:Int))),((zI (c+1)),d))))
  (oC a <|
 oE a <|
 .ret (.inr a))
def mE q1 s:=T.loop (b6 q1) s
def bf  : ((List Int)×(List Int))->T (((List Int)×(List Int))⊕((List Int)))
 | (d,a) =>
 .ite (decide (0<(d.length:Int)))
  (T.bind (eK d 1000000000) λ(c,e) =>
 oC a <|
 oE a <|
 T.bind (mE c (e,(0,a))) λb =>
 oC b <|
 oE b <|
 .ret (.inl (c,b)))
  (oC a <|
 oE a <|
 .ret (.inr a))
def n8(s:((List Int)×(List Int))):T ((List Int)):=T.loop (bf ) s
def bT  : ((Nat×Nat)×(List Int))->T (((Nat×Nat)×(List Int))⊕(((Nat×Nat)×(List Int))))
 | (b,a)=>let c:=zI ((Nat.cast b.2:Int)-1);
 .zy (((decide (1<(Nat.cast b.2:Int)))=true)->((q9 c b.2)/\(mO a.length a.length (b.1+(Int.toNat c)) a.length))) <|
 .ite ((decide (1<(Nat.cast b.2:Int)))&&((gA a (b.1+(Int.toNat c)) (zn (.int .u8)))==48))
  (.zy (vj 0 c b.2) <|
 oE a <|
 oE a <|
 .ret (.inl (((b.1+(Int.toNat 0)),((Int.toNat c)-(Int.toNat 0))),a)))
  (oE a <|
 oE a <|
 .ret (.inr (b,a)))
def Q1(s:((Nat×Nat)×(List Int))):T (((Nat×Nat)×(List Int))):=T.loop (bT ) s
def eB(f:(List Int)):T zd :=
 T.bind (bN f) λd =>
 .ite ((d.length:Int)==0)
  (.ret [48])
  (oZ <|
 T.bind (n8  (d,[])) λa =>
 oE a <|
 oE a <|
 T.bind (Q1  ((0,a.length),a)) λ(b,c) =>
 oE c <|
 oE c <|
 T.bind (vf b c) λe =>
 .zy (c.length=e.length) <|
 .ret (qO (List.drop b.1 (List.take (b.1+b.2) e))))
def strings_Repeat(b:zd)(a:Int):T zd :=
 .zy (0<=a/\a<=9223372036854775807/\b.length*(Int.toNat a)<=140737488355328) <|
 .ret (kA b (Int.toNat a))
def iG(a:zd)(e:Int):T zd :=
 .ite (e==0)
  (.ret a)
  (T.bind (strings_Repeat [48] (ng 0 (zI ((zI (e+1))-(a.length:Int))))) λb=>let d:=((cat b a).length:Int); let c:=zI (d-e);
 oK b a <|
 .zy (vj 0 c (cat b a).length) <|
 oK (qC 0 c (cat b a)) [46] <|
 .zy (vj c d (cat b a).length) <|
 oK (cat (qC 0 c (cat b a)) [46]) (qC c d (cat b a)) <|
 .ret (cat (cat (qC 0 c (cat b a)) [46]) (qC c d (cat b a))))
def yc  : (Int×Rat)->T ((Int×Rat)⊕(Rat⊕(zd×Bool×Rat)))
 | (b,a) =>
 .ite (decide (b<61))
  (T.bind (sa b) λe =>
 T.bind (sJ a.2.1 e) λf =>
 T.bind (gw f a.2.2.1) λ(g,h,j) =>
 .ite ((h.length:Int)==0)
  (T.bind (rL a) λc =>
 T.bind (eB g) λi =>
 T.bind (iG i b) λd =>
 oK c d <|
 .ret (.inr (.inr ((cat c d),(true,a)))))
  (.ret (.inl ((zI (b+1)),a))))
  (.ret (.inr (.inl a)))
def Q6(s:(Int×Rat)):T (Rat⊕(zd×Bool×Rat)):=T.loop (yc ) s
def mj(d:Rat):T (zd×Bool) :=
 T.bind (fp d) λa =>
 T.bind (Q6  (0,a)) <|
 Sum.elim (λe =>
 .ret ([],false))
  (λ(b,c,f) =>
 .ret (b,c))
def mV(a:Rat):T Bool :=
 T.bind (T.bind (Zs a) λb =>
 .ite (!b)
  (.ret true)
  (.ite a.1
  (.ret true)
  (T.bind (eG a) λc =>
 .ret c)):T (Bool)) λd =>
 .ite d
  (.ret false)
  (T.bind (mj a) λ(f,e) =>
 .ret e)
def dz(a:Rat):T Bool :=
 .ite (!a.1)
  (.ite ((a.2.1.length:Int)==0)
  (.ite ((a.2.2.1.length:Int)==0)
  (.ret true)
  (T.bind (Zs a) λb =>
 .ret b))
  (.ret false))
  (.ret false)
def gU(a:AM.Expr):T Bool :=
 T.bind (se (Expr.kind a)) λb =>
 .ite (((Expr.kids a).length:Int) != b)
  (.ret false)
  (.ite ((Expr.kind a)==1)
  (T.bind (mV (Expr.num a)) λc =>
 .ite c
  (.ret (zi (Expr.name a) []))
  (.ret false))
  (.ite ((Expr.kind a)==2)
  (T.bind (dz (Expr.num a)) λd =>
 .ite d
  (T.bind (xC (Expr.name a)) λe =>
 .ret e)
  (.ret false))
  (T.bind (dz (Expr.num a)) λf =>
 .ite f
  (.ret (zi (Expr.name a) []))
  (.ret false))))
def jM(c:AM.Expr->Int->Int->T (Bool×Int))(d:AM.Expr)(e:Int)(f:Int):T (Bool×Int) :=
 T.bind (c d (zI (e+1)) f) λ(a,b) =>
 .ret ((!a),b)
def zK(g:AM.Expr->Int->Int->T (Bool×Int))(e:(List AM.Expr))(h:Int):((Int×Unit)×Int×Int)->T (((Int×Unit)×Int×Int)⊕(Int⊕(Int×Int)))
 | (c,a,d) =>
 .ite (decide (a<h))
  (oI a e <|
 T.bind ((jM g) (nth e a (zn .expr)) c.1 d) λ(f,b) =>
 .ite f
  (.ret (.inr (.inr (a,b))))
  (.ret (.inl ((c.1,()),((zI (a+1)),b)))))
  (.ret (.inr (.inl d)))
def zZ self_expr_may s1 x s:=T.loop (zK self_expr_may s1 x) s
def qK(e:AM.Expr->Int->Int->T (Bool×Int))(a:(List AM.Expr))(f:(Int×Unit))(g:Int):T (Int×Int) :=
 T.bind (zZ e a (a.length:Int) ((f.1,()),(0,g))) <|
 Sum.elim (λb =>
 .ret ((-1),b))
  (λ(c,d) =>
 .ret (c,d))
def qh(c:AM.Expr->Int->Int->T (Bool×Int))(d:(List AM.Expr))(e:(Int×Unit))(f:Int):T (Bool×Int) :=
 T.bind ((qK c) d (e.1,()) f) λ(a,b) =>
 .ret ((decide (0<=a)),b)
def bE(i:AM.Expr->Int->Int->T (Bool×Int))(c:AM.Expr)(d:Int)(a:Int):T (Bool×Int) :=
 T.bind (.ite (decide ((zI (a-1))<0))
  (.ret (true,(zI (a-1))))
  (.ite (decide (32<=d))
  (.ret (true,(zI (a-1))))
  (T.bind (gU c) λe =>
 .ret ((!e),(zI (a-1))))):T ((Bool×Int))) λ(f,b) =>
 .ite f
  (.ret (false,b))
  (T.bind ((qh i) (Expr.kids c) (d,()) b) λ(g,h) =>
 .ret ((!g),h))
def ku(e:AM.Expr)(deep:Int)(left:Int):T (Bool×Int):=T.fix (λF x=>bE (λy0 y1 y2=>F (y0,y1,y2)) x.1 x.2.1 x.2.2) (e,deep,left)
def uX(b:AM.Expr):T Bool :=
 T.bind (ku b 0 256) λ(a,c) =>
 .ret a
def kg(i:zd):T (AM.Expr×Int×Int) :=
 T.bind (jX (i,((0:Int),((0:Int),(false,()))))) λ(a,e,b,c)=>let d:=((Expr.mk 0 (false,([],([],()))) [] []),(c,a));
 .ite (b != 0)
  (.ret ((Expr.mk 0 (false,([],([],()))) [] []),(e,b)))
  (T.bind (.ite c.2.2.2.1
  (.ret (true,d))
  (T.bind (uX a) λf =>
 .ret ((!f),d)):T ((Bool×AM.Expr×zc×AM.Expr))) λ(g,j,k,h) =>
 .ite g
  (.ret ((Expr.mk 0 (false,([],([],()))) [] []),(0,3)))
  (.ret (h,(0,0))))
def strings_Contains(a:zd)(b:zd):T Bool :=
 .zy (a.length<4294967281) <|
 .ret (decide (0<=dX a b))
def uc(b:zd)(v:zd):T (AM.Expr×AM.Expr×zd×Int) :=
 T.bind (strings_IndexAny b [60,61]) λa=>let c:=qC (zI (a+1)) (b.length:Int) b;
 .ite (decide (a<0))
  (.ret ((Expr.mk 0 (false,([],([],()))) [] []),((Expr.mk 0 (false,([],([],()))) [] []),([],2))))
  (.zy (vj 0 a b.length) <|
 .zy (vj (zI (a+1)) (b.length:Int) b.length) <|
 .zy (vj a (zI (a+1)) b.length) <|
 T.bind (T.bind (.ite (zi (qC a (zI (a+1)) b) [60])
  (T.bind (strings_HasPrefix c [61]) λm =>
 .ret (m,((Expr.mk 0 (false,([],([],()))) [] []),(Expr.mk 0 (false,([],([],()))) [] []))))
  (.ret (false,((Expr.mk 0 (false,([],([],()))) [] []),(Expr.mk 0 (false,([],([],()))) [] [])))):T ((Bool×AM.Expr×AM.Expr))) λ(n,e,f) =>
 .ite n
  (.zy (vj 1 (c.length:Int) c.length) <|
 .ret ([60,61],((qC 1 (c.length:Int) c),(e,f))))
  (.ret ((qC a (zI (a+1)) b),(c,(e,f)))):T ((zd×zd×AM.Expr×AM.Expr))) λ(g,o,w,p) =>
 T.bind (kg (qC 0 a b)) λ(d,x,h) =>
 .ite (h != 0)
  (.ret (d,(p,([],h))))
  (T.bind (T.bind (kg o) λ(i,y,j) =>
 T.bind (.ite (j==0)
  (T.bind (strings_Contains v g) λq =>
 .ret ((!q),(d,i)))
  (.ret (false,(d,i))):T ((Bool×AM.Expr×AM.Expr))) λ(r,k,l) =>
 .ite r
  (.ret (2,(k,l)))
  (.ret (j,(k,l))):T ((Int×AM.Expr×AM.Expr))) λ(s,t,u) =>
 .ret (t,(u,(g,s)))))
def vq  : T (List zd) :=
 .ret ([[61],[60],[60,61]]:List zd)
def qZ(b:(List zd))(c:zd)(d:Int):Int->T (Int⊕(Unit⊕Int))
 | a =>
 .ite (decide (a<d))
  (oI a b <|
 .ite (zi c (nth b a (zn .str)))
  (.ret (.inr (.inr a)))
  (.ret (.inl (zI (a+1)))))
  (.ret (.inr (.inl ())))
def yf s1 v1 x s:=T.loop (qZ s1 v1 x) s
def xd(a:(List zd))(c:zd):T Int :=
 T.bind (yf a c (a.length:Int) 0) <|
 Sum.elim (λ_ =>
 .ret (-1))
  (λb =>
 .ret b)
def wA  : T (List zd) :=
 .ret ([[114,101,113,117,105,114,101,100],[115,116,114,111,110,103],[109,101,100,105,117,109],[119,101,97,107]]:List zd)
def wF(b:(List zd))(c:zd):T Bool :=
 T.bind (xd b c) λa =>
 .ret (decide (0<=a))
def wB(a:(List zd))(b:Int)(c:Int)(d:zd):T Bool :=
 .zy ((((a.length:Int)==b)=true)->(q9 c a.length)) <|
 .ret (((a.length:Int)==b)&&(zi (nth a c (zn .str)) d))
def kH(b:(List zd))(a:Int):T (zd×Bool) :=
 .ite ((b.length:Int)==a)
  (.ret ([],true))
  (T.bind (T.bind (wB b (zI (a+2)) a [119,104,101,110]) λc =>
 .ite c
  (oI (zI (a+1)) b <|
 T.bind (xC (nth b (zI (a+1)) (zn .str))) λd =>
 .ret d)
  (.ret false):T (Bool)) λe =>
 .ite e
  (oI (zI (a+1)) b <|
 .ret ((nth b (zI (a+1)) (zn .str)),true))
  (.ret ([],false)))
def uW(i:(List zd))(x:zd)(z:(Unit))(k:(List Switch))(l:(List Param))(j:(List qq))(m:(List Field))(n:(List qk))(o:(List Check)):T (Int×(Unit)×(List Switch)×(List Param)×(List qq)×(List Field)×(List qk)×(List Check)) :=
 let p:=((),(k,(l,(j,(m,(n,o))))));  T.bind (.ite ((i.length:Int) != 2)
  (oY k l j m n o <|
 .ret (true,p))
  (oI 1 i <|
 T.bind (xC (nth i 1 (zn .str))) λr =>
 .ite (!r)
  (oY k l j m n o <|
 .ret (true,p))
  (oY k l j m n o <|
 .ret (((j.length:Int)==0),p))):T ((Bool×(Unit)×(List Switch)×(List Param)×(List qq)×(List Field)×(List qk)×(List Check)))) λ(s,y,e,f,b,g,h,a) =>
 .ite s
  (oY e f b g h a <|
 .ret (2,((),(e,(f,(b,(g,(h,a))))))))
  (oI 1 i <|
 T.bind (uc x [60,61]) λ(c,d,t,u) =>
 T.bind (vq) λv =>
 T.bind (xd v t) λw=>let q:=a++([((nth i 1 (zn .str)),((zI ((b.length:Int)-1)),(w,((Expr.mk (Expr.kind c) ((Expr.num c).1,((Expr.num c).2.1,((Expr.num c).2.2.1,()))) (Expr.name c) (Expr.kids c)),((Expr.mk (Expr.kind d) ((Expr.num d).1,((Expr.num d).2.1,((Expr.num d).2.2.1,()))) (Expr.name d) (Expr.kids d)),())))))]:List Check);
 oA a 240 <|
 oC e <|
 oC f <|
 oC b <|
 oC g <|
 oC h <|
 .zy (xL (a.length+1) 0 (a.length+1) q.length) <|
 oE e <|
 oE f <|
 oE b <|
 oE g <|
 oE h <|
 .zy ((a.length+1)=q.length) <|
 .ret (u,((),(e,(f,(b,(g,(h,q))))))))
def wU(a:(List zd))(A:zd)(D:(Unit))(j:(List Switch))(k:(List Param))(l:(List qq))(m:(List Field))(n:(List qk))(o:(List Check)):T (Int×(Unit)×(List Switch)×(List Param)×(List qq)×(List Field)×(List qk)×(List Check)) :=
 let p:=((),(j,(k,(l,(m,(n,o))))));  T.bind (.ite (decide ((a.length:Int)<3))
  (oY j k l m n o <|
 .ret (true,p))
  (T.bind (wA) λr =>
 oI 1 a <|
 T.bind (wF r (nth a 1 (zn .str))) λs =>
 .ite (!s)
  (oY j k l m n o <|
 .ret (true,p))
  (oI 2 a <|
 T.bind (xC (nth a 2 (zn .str))) λt =>
 oY j k l m n o <|
 .ret ((!t),p))):T ((Bool×(Unit)×(List Switch)×(List Param)×(List qq)×(List Field)×(List qk)×(List Check)))) λ(u,B,c,d,e,f,b,g) =>
 .ite u
  (oY c d e f b g <|
 .ret (2,((),(c,(d,(e,(f,(b,g))))))))
  (T.bind (kH a 3) λ(v,w) =>
 .ite (!w)
  (oY c d e f b g <|
 .ret (2,((),(c,(d,(e,(f,(b,g))))))))
  (oI 2 a <|
 T.bind (wA) λx =>
 oI 1 a <|
 T.bind (xd x (nth a 1 (zn .str))) λy =>
 T.bind (uc A [61]) λ(h,i,C,z)=>let q:=b++([((nth a 2 (zn .str)),(y,(v,((Expr.mk (Expr.kind h) ((Expr.num h).1,((Expr.num h).2.1,((Expr.num h).2.2.1,()))) (Expr.name h) (Expr.kids h)),((Expr.mk (Expr.kind i) ((Expr.num i).1,((Expr.num i).2.1,((Expr.num i).2.2.1,()))) (Expr.name i) (Expr.kids i)),())))))]:List qk);
 oA b 248 <|
 oC c <|
 oC d <|
 oC e <|
 oC f <|
 .zy (xL (b.length+1) 0 (b.length+1) q.length) <|
 oC g <|
 oE c <|
 oE d <|
 oE e <|
 oE f <|
 .zy ((b.length+1)=q.length) <|
 oE g <|
 .ret (z,((),(c,(d,(e,(f,(q,g)))))))))
def jn(a:(List zd))(s:(Unit))(h:(List Switch))(i:(List Param))(j:(List qq))(k:(List Field))(l:(List qk))(m:(List Check)):T (Bool×(Unit)×(List Switch)×(List Param)×(List qq)×(List Field)×(List qk)×(List Check)) :=
 let n:=((),(h,(i,(j,(k,(l,m))))));  T.bind (.ite ((a.length:Int) != 3)
  (oY h i j k l m <|
 .ret (true,n))
  (oI 1 a <|
 T.bind (xC (nth a 1 (zn .str))) λp =>
 .ite (!p)
  (oY h i j k l m <|
 .ret (true,n))
  (oI 2 a <|
 .ite (!(zi (nth a 2 (zn .str)) [111,110]))
  (oI 2 a <|
 oY h i j k l m <|
 .ret ((!(zi (nth a 2 (zn .str)) [111,102,102])),n))
  (oY h i j k l m <|
 .ret (false,n)))):T ((Bool×(Unit)×(List Switch)×(List Param)×(List qq)×(List Field)×(List qk)×(List Check)))) λ(q,r,b,c,d,e,f,g)=>let o:=b++([((nth a 1 (zn .str)),((zi (nth a 2 (zn .str)) [111,110]),()))]:List Switch);
 .ite q
  (oY b c d e f g <|
 .ret (false,((),(b,(c,(d,(e,(f,g))))))))
  (oI 1 a <|
 oI 2 a <|
 oA b 24 <|
 .zy (xL (b.length+1) 0 (b.length+1) o.length) <|
 oC c <|
 oC d <|
 oC e <|
 oC f <|
 oC g <|
 .zy ((b.length+1)=o.length) <|
 oE c <|
 oE d <|
 oE e <|
 oE f <|
 oE g <|
 .ret (true,((),(o,(c,(d,(e,(f,g))))))))
def uJ(b:(List zd))(t:(Unit))(h:(List Switch))(i:(List Param))(j:(List qq))(k:(List Field))(l:(List qk))(m:(List Check)):T (Bool×(Unit)×(List Switch)×(List Param)×(List qq)×(List Field)×(List qk)×(List Check)) :=
 T.bind (.ite ((b.length:Int) != 3)
  (oY h i j k l m <|
 .ret (true,((),(h,(i,(j,(k,(l,m))))))))
  (oI 1 b <|
 T.bind (xC (nth b 1 (zn .str))) λp =>
 oY h i j k l m <|
 .ret ((!p),((),(h,(i,(j,(k,(l,m)))))))):T ((Bool×(Unit)×(List Switch)×(List Param)×(List qq)×(List Field)×(List qk)×(List Check)))) λ(q,s,c,a,d,e,f,g) =>
 .ite q
  (oY c a d e f g <|
 .ret (false,((),(c,(a,(d,(e,(f,g))))))))
  (oI 2 b <|
 T.bind (gK (nth b 2 (zn .str))) λ(n,r)=>let o:=a++([((nth b 1 (zn .str)),((n.1,(n.2.1,(n.2.2.1,()))),()))]:List Param);
 oI 1 b <|
 oA a 72 <|
 oC c <|
 .zy (xL (a.length+1) 0 (a.length+1) o.length) <|
 oC d <|
 oC e <|
 oC f <|
 oC g <|
 oE c <|
 .zy ((a.length+1)=o.length) <|
 oE d <|
 oE e <|
 oE f <|
 oE g <|
 .ret ((r==0),((),(c,(o,(d,(e,(f,g))))))))
def ud(b:(List zd))(t:(Unit))(h:(List Switch))(i:(List Param))(j:(List qq))(k:(List Field))(l:(List qk))(m:(List Check)):T (Bool×(Unit)×(List Switch)×(List Param)×(List qq)×(List Field)×(List qk)×(List Check)) :=
 T.bind (.ite (decide ((b.length:Int)<2))
  (oY h i j k l m <|
 .ret (true,((),(h,(i,(j,(k,(l,m))))))))
  (oI 1 b <|
 T.bind (xC (nth b 1 (zn .str))) λo =>
 oY h i j k l m <|
 .ret ((!o),((),(h,(i,(j,(k,(l,m)))))))):T ((Bool×(Unit)×(List Switch)×(List Param)×(List qq)×(List Field)×(List qk)×(List Check)))) λ(p,s,c,d,a,e,f,g) =>
 .ite p
  (oY c d a e f g <|
 .ret (false,((),(c,(d,(a,(e,(f,g))))))))
  (T.bind (kH b 2) λ(q,r)=>let n:=a++([((nth b 1 (zn .str)),(q,()))]:List qq);
 oI 1 b <|
 oA a 32 <|
 oC c <|
 oC d <|
 .zy (xL (a.length+1) 0 (a.length+1) n.length) <|
 oC e <|
 oC f <|
 oC g <|
 oE c <|
 oE d <|
 .zy ((a.length+1)=n.length) <|
 oE e <|
 oE f <|
 oE g <|
 .ret (r,((),(c,(d,(n,(e,(f,g))))))))
def uF(a:(List zd))(aa:(Unit))(A:(List Switch))(B:(List Param))(s:(List qq))(C:(List Field))(D:(List qk))(E:(List Check)):T (Bool×(Unit)×(List Switch)×(List Param)×(List qq)×(List Field)×(List qk)×(List Check)) :=
 let N:=((),(A,(B,(s,(C,(D,E)))))); let b:=(a.length:Int);  T.bind (.ite (decide (b<2))
  (oY A B s C D E <|
 .ret (true,N))
  (oI 1 a <|
 T.bind (xC (nth a 1 (zn .str))) λO =>
 .ite (!O)
  (oY A B s C D E <|
 .ret (true,N))
  (oY A B s C D E <|
 .ret (((s.length:Int)==0),N))):T ((Bool×(Unit)×(List Switch)×(List Param)×(List qq)×(List Field)×(List qk)×(List Check)))) λ(P,W,g,h,c,i,j,k) =>
 .ite P
  (oY g h c i j k <|
 .ret (false,((),(g,(h,(c,(i,(j,k))))))))
  (oI 1 a <|
 .zy (vj 2 b a.length) <|
 T.bind (.zy (((decide (0<(Nat.cast (wi (e:=.str) 2 b a).length:Int)))=true)->(q9 0 (wi (e:=.str) 2 b a).length)) <|
 .ite ((decide (0<(Nat.cast (wi (e:=.str) 2 b a).length:Int)))&&(zi (nth (wi (e:=.str) 2 b a) 0 (zn .str)) [109,117,115,116]))
  (.zy (vj 1 (Nat.cast (wi (e:=.str) 2 b a).length:Int) (wi (e:=.str) 2 b a).length) <|
 oY g h c i j k <|
 .ret ((wi (e:=.str) 1 (Nat.cast (wi (e:=.str) 2 b a).length:Int) (wi (e:=.str) 2 b a)),((),(g,(h,(c,(i,(j,(k,((nth a 1 (zn .str)),((zI ((c.length:Int)-1)),(true,((0:Int),())))))))))))))
  (oY g h c i j k <|
 .ret ((wi (e:=.str) 2 b a),((),(g,(h,(c,(i,(j,(k,((nth a 1 (zn .str)),((zI ((c.length:Int)-1)),(false,((0:Int),()))))))))))))):T (((List zd)×(Unit)×(List Switch)×(List Param)×(List qq)×(List Field)×(List qk)×(List Check)×Field))) λ(d,X,m,n,o,p,q,r,R)=>let l:=nth d 1 (zn .str); let G:=((),(m,(n,(o,(p,(q,(r,R)))))));
 T.bind (T.bind (T.bind (wB d 2 0 [115,99,97,108,101]) λS =>
 .ite S
  (oI 1 d <|
 .ite ((l.length:Int)==1)
  (oI 1 d <|
 .ite (!(strLt l [48]))
  (oI 1 d <|
 oY m n o p q r <|
 .ret (((strLt l [57])||(zi l [57])),G))
  (oY m n o p q r <|
 .ret (false,G)))
  (oY m n o p q r <|
 .ret (false,G)))
  (oY m n o p q r <|
 .ret (false,G)):T ((Bool×(Unit)×(List Switch)×(List Param)×(List qq)×(List Field)×(List qk)×(List Check)×Field))) λ(U,Y,t,u,v,w,x,y,z) =>
 .ite U
  (oI 1 d <|
 oI 0 l <|
 oY t u v w x y <|
 .ret ([],((),(t,(u,(v,(w,(x,(y,(z.1,(z.2.1,(z.2.2.1,((zI (Gd ((zt l 0)-48))),())))))))))))))
  (oY t u v w x y <|
 .ret (d,((),(t,(u,(v,(w,(x,(y,z))))))))):T (((List zd)×(Unit)×(List Switch)×(List Param)×(List qq)×(List Field)×(List qk)×(List Check)×Field))) λ(V,Z,H,I,J,f,K,L,M) =>
 oA f 40 <|
 oC H <|
 oC I <|
 oC J <|
 .zy (xL (f.length+1) 0 (f.length+1) (f++[M]).length) <|
 oC K <|
 oC L <|
 oE H <|
 oE I <|
 oE J <|
 .zy ((f.length+1)=(f++[M]).length) <|
 oE K <|
 oE L <|
 .ret (((V.length:Int)==0),((),(H,(I,(J,((f++[M]),(K,L))))))))
def ep(ag:zd)(an:(Unit))(b:(List Switch))(c:(List Param))(d:(List qq))(e:(List Field))(f:(List qk))(g:(List Check)):T (Int×(Unit)×(List Switch)×(List Param)×(List qq)×(List Field)×(List qk)×(List Check)) :=
 let j:=((),(b,(c,(d,(e,(f,g))))));  T.bind (strings_Cut ag [58]) λ(Z,K,i) =>
 T.bind (ll Z) λa=>let J:=decide (0<(a.length:Int)); let h:=nth a 0 (zn .str);
 .zy (((((a.length:Int)==0)=true)->(((!i)=false)->((J=true)->((q9 0 a.length)/\(q9 0 h.length)))))/\((((a.length:Int)==0)=false)->((J=true)->((q9 0 a.length)/\(q9 0 h.length))))) <|
 .ite (bif ((a.length:Int)==0)then((!i)||(J&&((zt h 0)==35)))else(J&&((zt h 0)==35)))
  (oY b c d e f g <|
 .ret (0,j))
  (.ite ((a.length:Int)==0)
  (.ite (!false)
  (oY b c d e f g <|
 .ret (2,j))
  (oY b c d e f g <|
 .ret (0,j)))
  (.zy ((i=true)->(q9 0 a.length)) <|
 .ite (i&&(zi h [99,104,101,99,107]))
  (oY b c d e f g <|
 T.bind (uW a K () b c d e f g) λ(aa,ah,L,M,N,O,P,R) =>
 oY L M N O P R <|
 .ret (aa,((),(L,(M,(N,(O,(P,R))))))))
  (.zy ((i=true)->(q9 0 a.length)) <|
 .ite (i&&(zi h [114,117,108,101]))
  (oY b c d e f g <|
 T.bind (wU a K () b c d e f g) λ(ab,ai,S,U,V,W,X,Y) =>
 oY S U V W X Y <|
 .ret (ab,((),(S,(U,(V,(W,(X,Y))))))))
  (.ite i
  (.ite (!false)
  (oY b c d e f g <|
 .ret (2,j))
  (oY b c d e f g <|
 .ret (0,j)))
  (oI 0 a <|
 .ite (zi h [115,119,105,116,99,104])
  (oY b c d e f g <|
 T.bind (jn a () b c d e f g) λ(ac,aj,k,l,m,n,o,p) =>
 .ite (!ac)
  (oY k l m n o p <|
 .ret (2,((),(k,(l,(m,(n,(o,p))))))))
  (oY k l m n o p <|
 .ret (0,((),(k,(l,(m,(n,(o,p)))))))))
  (oI 0 a <|
 .ite (zi h [112,97,114,97,109])
  (oY b c d e f g <|
 T.bind (uJ a () b c d e f g) λ(ad,ak,q,r,s,t,u,v) =>
 .ite (!ad)
  (oY q r s t u v <|
 .ret (2,((),(q,(r,(s,(t,(u,v))))))))
  (oY q r s t u v <|
 .ret (0,((),(q,(r,(s,(t,(u,v)))))))))
  (oI 0 a <|
 .ite (zi h [112,97,103,101])
  (oY b c d e f g <|
 T.bind (ud a () b c d e f g) λ(ae,al,w,x,y,z,A,B) =>
 .ite (!ae)
  (oY w x y z A B <|
 .ret (2,((),(w,(x,(y,(z,(A,B))))))))
  (oY w x y z A B <|
 .ret (0,((),(w,(x,(y,(z,(A,B)))))))))
  (oI 0 a <|
 .ite (zi h [102,105,101,108,100])
  (oY b c d e f g <|
 T.bind (uF a () b c d e f g) λ(af,am,C,D,E,G,H,I) =>
 .ite (!af)
  (oY C D E G H I <|
 .ret (2,((),(C,(D,(E,(G,(H,I))))))))
  (oY C D E G H I <|
 .ret (0,((),(C,(D,(E,(G,(H,I)))))))))
  (.ite (!false)
  (oY b c d e f g <|
 .ret (2,j))
  (oY b c d e f g <|
 .ret (0,j)))))))))))
def j9(b:Switch):T Bool :=
 T.bind (xC b.1) λa =>
 .ret (!a)
def qV(b:(List Switch))(d:Switch->T Bool)(e:Int):Int->T (Int⊕(Unit⊕Int))
 | a =>
 .ite (decide (a<e))
  (oI a b <|
 T.bind (d (nth b a (zn zu))) λc =>
 .ite c
  (.ret (.inr (.inr a)))
  (.ret (.inl (zI (a+1)))))
  (.ret (.inr (.inl ())))
def jh s1 f x s:=T.loop (qV s1 f x) s
def wk(a:(List Switch))(c:Switch->T Bool):T Int :=
 T.bind (jh a c (a.length:Int) 0) <|
 Sum.elim (λ_ =>
 .ret (-1))
  (λb =>
 .ret b)
def qU(b:(List Switch))(c:Switch->T Bool):T Bool :=
 T.bind (wk b c) λa =>
 .ret (decide (0<=a))
def j7(a:Param):T Bool :=
 T.bind (xC a.1) λb =>
 .ite (!b)
  (.ret true)
  (T.bind (Zs a.2.1) λc =>
 .ite (!c)
  (.ret true)
  (T.bind (eG a.2.1) λd =>
 .ret d))
def xg(b:(List Param))(d:Param->T Bool)(e:Int):Int->T (Int⊕(Unit⊕Int))
 | a =>
 .ite (decide (a<e))
  (oI a b <|
 T.bind (d (nth b a (zn zD))) λc =>
 .ite c
  (.ret (.inr (.inr a)))
  (.ret (.inl (zI (a+1)))))
  (.ret (.inr (.inl ())))
def jD s1 f x s:=T.loop (xg s1 f x) s
def wH(a:(List Param))(c:Param->T Bool):T Int :=
 T.bind (jD a c (a.length:Int) 0) <|
 Sum.elim (λ_ =>
 .ret (-1))
  (λb =>
 .ret b)
def xi(b:(List Param))(c:Param->T Bool):T Bool :=
 T.bind (wH b c) λa =>
 .ret (decide (0<=a))
def kZ(a:zd):T Bool :=
 .ite (zi a [])
  (.ret true)
  (T.bind (xC a) λb =>
 .ret b)
def j5(a:qq):T Bool :=
 T.bind (xC a.1) λb =>
 .ite (!b)
  (.ret true)
  (T.bind (kZ a.2.1) λc =>
 .ret (!c))
def xA(b:(List qq))(d:qq->T Bool)(e:Int):Int->T (Int⊕(Unit⊕Int))
 | a =>
 .ite (decide (a<e))
  (oI a b <|
 T.bind (d (nth b a (zn zO))) λc =>
 .ite c
  (.ret (.inr (.inr a)))
  (.ret (.inl (zI (a+1)))))
  (.ret (.inr (.inl ())))
def jZ s1 f x s:=T.loop (xA s1 f x) s
def ve(a:(List qq))(c:qq->T Bool):T Int :=
 T.bind (jZ a c (a.length:Int) 0) <|
 Sum.elim (λ_ =>
 .ret (-1))
  (λb =>
 .ret b)
def xr(b:(List qq))(c:qq->T Bool):T Bool :=
 T.bind (ve b c) λa =>
 .ret (decide (0<=a))
def iW(b:Form):T Bool :=
 T.bind (qU b.1 (λa=>j9 a)) λc =>
 .ite (!c)
  (T.bind (xi b.2.1 (λa=>j7 a)) λd =>
 .ite (!d)
  (T.bind (xr b.2.2.1 (λa=>j5 a)) λe =>
 .ret (!e))
  (.ret false))
  (.ret false)
def bZ(a:Int)(b:Int)(c:Int):T Bool :=
 .ret ((decide ((ng b 0)<=a))&&(decide (a<c)))
def jz(i:Form)(c:(List Field))(j:Int):(Int×Int)->T ((Int×Int)⊕(Unit⊕Bool))
 | (h,b)=>let a:=nth c b (zn zw);
 .ite (decide (b<j))
  (oI b c <|
 T.bind (T.bind (xC a.1) λd =>
 .ite (!d)
  (.ret (true,a))
  (T.bind (bZ a.2.1 h (i.2.2.1.length:Int)) λe =>
 .ite (!e)
  (.ret (true,a))
  (.ite (decide (a.2.2.2.1<(0:Int)))
  (.ret (true,a))
  (.ret ((decide ((9:Int)<a.2.2.2.1)),a)))):T ((Bool×Field))) λ(f,g) =>
 .ite f
  (.ret (.inr (.inr false)))
  (.ret (.inl (g.2.1,(zI (b+1))))))
  (.ret (.inr (.inl ())))
def oc f1 x x1 s:=T.loop (jz f1 x x1) s
def dT(a:Form):T Bool :=
 T.bind (oc a a.2.2.2.1 (a.2.2.2.1.length:Int) (0,0)) <|
 Sum.elim (λ_ =>
 .ret true)
  (λb =>
 .ret b)
def vH(a:qk):T Bool :=
 T.bind (xC a.1) λb =>
 .ite (!b)
  (.ret true)
  (.ite (decide (a.2.1<(0:Int)))
  (.ret true)
  (T.bind (wA) λc =>
 .ite (decide ((c.length:Int)<=a.2.1))
  (.ret true)
  (T.bind (kZ a.2.2.1) λd =>
 .ite (!d)
  (.ret true)
  (T.bind (uX a.2.2.2.1) λe =>
 .ite (!e)
  (.ret true)
  (T.bind (uX a.2.2.2.2.1) λf =>
 .ret (!f))))))
def xp(b:(List qk))(d:qk->T Bool)(e:Int):Int->T (Int⊕(Unit⊕Int))
 | a =>
 .ite (decide (a<e))
  (oI a b <|
 T.bind (d (nth b a (zn zY))) λc =>
 .ite c
  (.ret (.inr (.inr a)))
  (.ret (.inl (zI (a+1)))))
  (.ret (.inr (.inl ())))
def kb s1 f x s:=T.loop (xp s1 f x) s
def vb(a:(List qk))(c:qk->T Bool):T Int :=
 T.bind (kb a c (a.length:Int) 0) <|
 Sum.elim (λ_ =>
 .ret (-1))
  (λb =>
 .ret b)
def xv(b:(List qk))(c:qk->T Bool):T Bool :=
 T.bind (vb b c) λa =>
 .ret (decide (0<=a))
def jx(l:Form)(c:(List Check))(m:Int):(Int×Int)->T ((Int×Int)⊕(Unit⊕Bool))
 | (k,b)=>let a:=nth c b (zn zF);
 .ite (decide (b<m))
  (oI b c <|
 T.bind (T.bind (xC a.1) λd =>
 .ite (!d)
  (.ret (true,a))
  (T.bind (bZ a.2.1 k (l.2.2.1.length:Int)) λe =>
 .ite (!e)
  (.ret (true,a))
  (.ite (decide (a.2.2.1<(0:Int)))
  (.ret (true,a))
  (T.bind (vq) λf =>
 .ite (decide ((f.length:Int)<=a.2.2.1))
  (.ret (true,a))
  (T.bind (uX (Expr.mk (Expr.kind a.2.2.2.1) ((Expr.num a.2.2.2.1).1,((Expr.num a.2.2.2.1).2.1,((Expr.num a.2.2.2.1).2.2.1,()))) (Expr.name a.2.2.2.1) (Expr.kids a.2.2.2.1))) λg =>
 .ite (!g)
  (.ret (true,a))
  (T.bind (uX (Expr.mk (Expr.kind a.2.2.2.2.1) ((Expr.num a.2.2.2.2.1).1,((Expr.num a.2.2.2.2.1).2.1,((Expr.num a.2.2.2.2.1).2.2.1,()))) (Expr.name a.2.2.2.2.1) (Expr.kids a.2.2.2.2.1))) λh =>
 .ret ((!h),a)))))):T ((Bool×Check))) λ(i,j) =>
 .ite i
  (.ret (.inr (.inr false)))
  (.ret (.inl (j.2.1,(zI (b+1))))))
  (.ret (.inr (.inl ())))
def o9 f1 x x1 s:=T.loop (jx f1 x x1) s
def dP(a:Form):T Bool :=
 T.bind (o9 a a.2.2.2.2.2.1 (a.2.2.2.2.2.1.length:Int) (0,0)) <|
 Sum.elim (λ_ =>
 T.bind (xv a.2.2.2.2.1 (λb=>vH b)) λc =>
 .ret (!c))
  (λd =>
 .ret d)
def lC(v:Unit)(l:List Int):T (Unit×List Int):=.ret (v,l)
def qi(b:zd)(e:(Unit))(c:(List Int)):T (Int×(Unit)×(List Int)) :=
 oC c <|
 oE c <|
 T.bind (lC () c) λ(d,a) =>
 .zy (Yw a.length a.length 0 a.length a.length (bytesOf b).length 1) <|
 oM (a.length+(bytesOf b).length) (a++(bytesOf b)).length <|
 .ret ((b.length:Int),((),(a++(bytesOf b))))
def lM(g:Rat):T zd :=
 T.bind (fp g) λa =>
 T.bind (rL a) λb =>
 T.bind (eB a.2.1) λc =>
 oK b c <|
 T.bind (gf 1) λe =>
 T.bind (mN a.2.2.1 e) λf =>
 .ite (f != 0)
  (T.bind (eB a.2.2.1) λd =>
 oK [47] d <|
 oK (cat b c) (cat [47] d) <|
 .ret (cat (cat b c) (cat [47] d)))
  (.ret (cat b c))
def fU(a:zd):T zd :=
 .ite (zi a [])
  (.ret [])
  (oK [32,119,104,101,110,32] a <|
 .ret (cat [32,119,104,101,110,32] a))
def strconv_Itoa(a:Int):T zd :=
 .zy ((-9223372036854775808)<=a/\a<=9223372036854775807) <|
 .ret (nV a)
def iN(a:Field):T zd :=
 let c:=cat [102,105,101,108,100,32] a.1; let b:=bif a.2.2.1 then(cat c [32,109,117,115,116])else c;  oK [102,105,101,108,100,32] a.1 <|
 .zy ((a.2.2.1=true)->((c.length+([32,109,117,115,116]:zd).length)<=4611686018427387904)) <|
 .ite (decide ((0:Int)<a.2.2.2.1))
  (T.bind (strconv_Itoa a.2.2.2.1) λe=>let d:=cat [32,115,99,97,108,101,32] e;
 oK [32,115,99,97,108,101,32] e <|
 oK b d <|
 oK (cat b d) [10] <|
 .ret (cat (cat b d) [10]))
  (oK b [10] <|
 .ret (cat b [10]))
def cy(a:AM.Expr):T Int :=
 .ite (bif ((Expr.kind a)==3)then((Expr.kind a)==3)else((Expr.kind a)==4))
  (.ret 1)
  (.ite (bif ((Expr.kind a)==5)then((Expr.kind a)==5)else((Expr.kind a)==6))
  (.ret 2)
  (.ite ((Expr.kind a)==7)
  (.ret 3)
  (.ret 4)))
def gJ(c:AM.Expr->T zd)(b:AM.Expr)(f:Int):T zd :=
 T.bind (cy b) λd =>
 .ite (decide (d<f))
  (T.bind (c b) λa =>
 oK [40] a <|
 oK (cat [40] a) [41] <|
 .ret (cat (cat [40] a) [41]))
  (T.bind (c b) λe =>
 .ret e)
def dQ(d:AM.Expr->T zd)(a:AM.Expr):T zd :=
 T.bind (.ite ((Expr.kind a)==1)
  (T.bind (mj (Expr.num a)) λ(g,k) =>
 .ret (.inr g))
  (.ite ((Expr.kind a)==2)
  (.ret (.inr (Expr.name a)))
  (.ite ((Expr.kind a)==7)
  (oI 0 (Expr.kids a) <|
 T.bind ((gJ d) (nth (Expr.kids a) 0 (zn .expr)) 3) λe =>
 oK [45] e <|
 .ret (.inr (cat [45] e)))
  (.ite ((Expr.kind a)==3)
  (.ret (.inl [32,43,32]))
  (.ite ((Expr.kind a)==4)
  (.ret (.inl [32,45,32]))
  (.ite ((Expr.kind a)==5)
  (.ret (.inl [32,42,32]))
  (.ite ((Expr.kind a)==6)
  (.ret (.inl [32,47,32]))
  (.ret (.inl [])))))))):T (zd⊕zd)) <|
 Sum.elim (λb =>
 oI 0 (Expr.kids a) <|
 T.bind (cy a) λh =>
 T.bind ((gJ d) (nth (Expr.kids a) 0 (zn .expr)) h) λc =>
 oK c b <|
 oI 1 (Expr.kids a) <|
 T.bind (cy a) λi =>
 T.bind ((gJ d) (nth (Expr.kids a) 1 (zn .expr)) (zI (i+1))) λf =>
 oK (cat c b) f <|
 .ret (cat (cat c b) f))
  (λj =>
 .ret j)
def nj(e:AM.Expr):T zd:=T.fix (λF x=>dQ (λy0=>F (y0)) x) e
def eU(a:AM.Expr):T zd :=
 T.bind (uX a) λb =>
 .ite (!b)
  (.ret [])
  (T.bind (nj a) λc =>
 .ret c)
def dx(e:AM.Expr)(a:zd)(f:AM.Expr):T zd :=
 T.bind (eU e) λc=>let b:=cat (cat [32,58,32] c) [32];
 oK [32,58,32] c <|
 oK (cat [32,58,32] c) [32] <|
 oK b a <|
 oK (cat b a) [32] <|
 T.bind (eU f) λd =>
 oK (cat (cat b a) [32]) d <|
 oK (cat (cat (cat b a) [32]) d) [10] <|
 .ret (cat (cat (cat (cat b a) [32]) d) [10])
def jy(f:Int)(k:Form)(d:(List Field))(g:Int):(Int×(Unit)×(List Int))->T ((Int×(Unit)×(List Int))⊕(((Unit)×(List Int))))
 | (b,j,a) =>
 .ite (decide (b<g))
  (oI b d <|
 .ite ((nth d b (zn zw)).2.1==f)
  (T.bind (iN (nth d b (zn zw))) λe =>
 oC a <|
 oE a <|
 T.bind (qi e () a) λ(h,i,c) =>
 oC c <|
 oE c <|
 .ret (.inl ((zI (b+1)),((),c))))
  (oC a <|
 oE a <|
 .ret (.inl ((zI (b+1)),((),a)))))
  (oC a <|
 oE a <|
 .ret (.inr ((),a)))
def o0 i1 f1 x x1 s:=T.loop (jy i1 f1 x x1) s
def jA(h:Int)(g:(List Check))(i:Int):(Int×(Unit)×(List Int))->T ((Int×(Unit)×(List Int))⊕(((Unit)×(List Int))))
 | (c,l,b)=>let a:=nth g c (zn zF);
 .ite (decide (c<i))
  (oI c g <|
 .ite (a.2.1==h)
  (oK [99,104,101,99,107,32] a.1 <|
 T.bind (vq) λe =>
 .zy (q9 a.2.2.1 e.length) <|
 T.bind (dx (Expr.mk (Expr.kind a.2.2.2.1) ((Expr.num a.2.2.2.1).1,((Expr.num a.2.2.2.1).2.1,((Expr.num a.2.2.2.1).2.2.1,()))) (Expr.name a.2.2.2.1) (Expr.kids a.2.2.2.1)) (nth e a.2.2.1 (zn .str)) (Expr.mk (Expr.kind a.2.2.2.2.1) ((Expr.num a.2.2.2.2.1).1,((Expr.num a.2.2.2.2.1).2.1,((Expr.num a.2.2.2.2.1).2.2.1,()))) (Expr.name a.2.2.2.2.1) (Expr.kids a.2.2.2.2.1))) λf =>
 oK (cat [99,104,101,99,107,32] a.1) f <|
 oC b <|
 oE b <|
 T.bind (qi (cat (cat [99,104,101,99,107,32] a.1) f) () b) λ(j,k,d) =>
 oC d <|
 oE d <|
 .ret (.inl ((zI (c+1)),((),d))))
  (oC b <|
 oE b <|
 .ret (.inl ((zI (c+1)),((),b)))))
  (oC b <|
 oE b <|
 .ret (.inr ((),b)))
def o6 i2 x3 x4 s:=T.loop (jA i2 x3 x4) s
def en(a:Form)(b:Int)(m:(Unit))(g:(List Int)):T ((Unit)×(List Int)) :=
 let h:=cat [112,97,103,101,32] (nth a.2.2.1 b (zn zO)).1;  oI b a.2.2.1 <|
 oK [112,97,103,101,32] (nth a.2.2.1 b (zn zO)).1 <|
 oI b a.2.2.1 <|
 T.bind (fU (nth a.2.2.1 b (zn zO)).2.1) λc =>
 oK h c <|
 oK (cat h c) [10] <|
 oC g <|
 oE g <|
 T.bind (qi (cat (cat h c) [10]) () g) λ(i,j,d) =>
 oC d <|
 oE d <|
 T.bind (o0 b a a.2.2.2.1 (a.2.2.2.1.length:Int) (0,((),d))) λ(k,e) =>
 oC e <|
 oE e <|
 T.bind (o6 b a.2.2.2.2.2.1 (a.2.2.2.2.2.1.length:Int) (0,((),e))) λ(l,f) =>
 oC f <|
 oE f <|
 .ret ((),f)
def mF(v:Unit)(l:List Int):T (zd×Unit):=z1H l
def kC(k:Form)(e:(List Switch))(g:Int):(Int×(Unit)×(List Int))->T ((Int×(Unit)×(List Int))⊕(((Unit)×(List Int))))
 | (b,j,a)=>let c:=nth e b (zn zu); let f:=bif c.2.1 then[32,111,110,10]else[32,111,102,102,10];
 .ite (decide (b<g))
  (oI b e <|
 oK [115,119,105,116,99,104,32] c.1 <|
 oK (cat [115,119,105,116,99,104,32] c.1) f <|
 oC a <|
 oE a <|
 T.bind (qi (cat (cat [115,119,105,116,99,104,32] c.1) f) () a) λ(h,i,d) =>
 oC d <|
 oE d <|
 .ret (.inl ((zI (b+1)),((),d))))
  (oC a <|
 oE a <|
 .ret (.inr ((),a)))
def rQ f1 x x1 s:=T.loop (kC f1 x x1) s
def kJ(l:Form)(g:(List Param))(h:Int):(Int×(Unit)×(List Int))->T ((Int×(Unit)×(List Int))⊕(((Unit)×(List Int))))
 | (c,k,a)=>let b:=nth g c (zn zD); let d:=cat [112,97,114,97,109,32] b.1;
 .ite (decide (c<h))
  (oI c g <|
 oK [112,97,114,97,109,32] b.1 <|
 oK d [32] <|
 T.bind (lM (b.2.1.1,(b.2.1.2.1,(b.2.1.2.2.1,())))) λe =>
 oK (cat d [32]) e <|
 oK (cat (cat d [32]) e) [10] <|
 oC a <|
 oE a <|
 T.bind (qi (cat (cat (cat d [32]) e) [10]) () a) λ(i,j,f) =>
 oC f <|
 oE f <|
 .ret (.inl ((zI (c+1)),((),f))))
  (oC a <|
 oE a <|
 .ret (.inr ((),a)))
def rP f2 x3 x4 s:=T.loop (kJ f2 x3 x4) s
def kv(d:Form)(e:Int):(Int×(Unit)×(List Int))->T ((Int×(Unit)×(List Int))⊕(((Unit)×(List Int))))
 | (c,g,a) =>
 .ite (decide (c<e))
  (oC a <|
 oE a <|
 T.bind (en d c () a) λ(f,b) =>
 oC b <|
 oE b <|
 .ret (.inl ((zI (c+1)),((),b))))
  (oC a <|
 oE a <|
 .ret (.inr ((),a)))
def rS f3 x6 s:=T.loop (kv f3 x6) s
def kL(i:(List qk))(j:Int):(Int×(Unit)×(List Int))->T ((Int×(Unit)×(List Int))⊕(((Unit)×(List Int))))
 | (d,m,b)=>let a:=nth i d (zn zY);
 .ite (decide (d<j))
  (oI d i <|
 T.bind (wA) λe=>let c:=cat [114,117,108,101,32] (nth e a.2.1 (zn .str));
 .zy (q9 a.2.1 e.length) <|
 oK [114,117,108,101,32] (nth e a.2.1 (zn .str)) <|
 oK c [32] <|
 oK (cat c [32]) a.1 <|
 T.bind (fU a.2.2.1) λf =>
 oK (cat (cat c [32]) a.1) f <|
 T.bind (dx (Expr.mk (Expr.kind a.2.2.2.1) ((Expr.num a.2.2.2.1).1,((Expr.num a.2.2.2.1).2.1,((Expr.num a.2.2.2.1).2.2.1,()))) (Expr.name a.2.2.2.1) (Expr.kids a.2.2.2.1)) [61] (Expr.mk (Expr.kind a.2.2.2.2.1) ((Expr.num a.2.2.2.2.1).1,((Expr.num a.2.2.2.2.1).2.1,((Expr.num a.2.2.2.2.1).2.2.1,()))) (Expr.name a.2.2.2.2.1) (Expr.kids a.2.2.2.2.1))) λh =>
 oK (cat (cat (cat c [32]) a.1) f) h <|
 oC b <|
 oE b <|
 T.bind (qi (cat (cat (cat (cat c [32]) a.1) f) h) () b) λ(k,l,g) =>
 oC g <|
 oE g <|
 .ret (.inl ((zI (d+1)),((),g))))
  (oC b <|
 oE b <|
 .ret (.inr ((),b)))
def rN x8 x9 s:=T.loop (kL x8 x9) s
def cZ(a:Form):T zd :=
 oZ <|
 T.bind (rQ a a.1 (a.1.length:Int) (0,((),[]))) λ(g,b) =>
 oC b <|
 oE b <|
 T.bind (rP a a.2.1 (a.2.1.length:Int) (0,((),b))) λ(h,c) =>
 oC c <|
 oE c <|
 T.bind (rS a (a.2.2.1.length:Int) (0,((),c))) λ(i,d) =>
 oC d <|
 oE d <|
 T.bind (rN a.2.2.2.2.1 (a.2.2.2.2.1.length:Int) (0,((),d))) λ(j,e) =>
 oC e <|
 oE e <|
 T.bind (mF () e) λ(f,k) =>
 .ret f
def mv(a:Form):T Bool :=
 T.bind (iW a) λb =>
 .ite b
  (T.bind (dT a) λc =>
 .ite c
  (T.bind (dP a) λd =>
 .ite d
  (T.bind (cZ a) λe =>
 .ret (decide ((e.length:Int)<=16384)))
  (.ret false))
  (.ret false))
  (.ret false)
def kG(u:(List zd))(w:Int):(Int×(Unit)×(Unit)×(List Check)×(List Check)×(List qk)×(List qk)×(List Switch)×(List Switch)×(List Param)×(List Param)×(List qq)×(List qq)×(List Field)×(List Field))->T ((Int×(Unit)×(Unit)×(List Check)×(List Check)×(List qk)×(List qk)×(List Switch)×(List Switch)×(List Param)×(List Param)×(List qq)×(List qq)×(List Field)×(List Field))⊕(((Unit)×(Unit)×(List Check)×(List Check)×(List qk)×(List qk)×(List Switch)×(List Switch)×(List Param)×(List Param)×(List qq)×(List qq)×(List Field)×(List Field))⊕(Int×Int×Form×(Unit)×(List Check)×(List Check)×(List qk)×(List qk)×(List Switch)×(List Switch)×(List Param)×(List Param)×(List qq)×(List qq)×(List Field)×(List Field))))
 | (m,y,z,a,n,b,o,c,p,d,q,e,r,f,s) =>
 .ite (decide (m<w))
  (oI m u <|
 oY p q r s o n <|
 T.bind (ep (nth u m (zn .str)) () p q r s o n) λ(t,x,g,h,i,j,k,l)=>let v:=((),(a,(l,(b,(k,(c,(g,(d,(h,(e,(i,(f,j))))))))))));
 .ite (t != 0)
  (oV g h i j k l <|
 oW a l b k c g <|
 oW d h e i f j <|
 .ret (.inr (.inr ((zI (m+1)),(t,((([]:List Switch),(([]:List Param),(([]:List qq),(([]:List Field),(([]:List qk),(([]:List Check),())))))),v))))))
  (oV c d e f b a <|
 oV g h i j k l <|
 oW a l b k c g <|
 oW d h e i f j <|
 .ret (.inl ((zI (m+1)),((),v)))))
  (oV c d e f b a <|
 oV p q r s o n <|
 oW a n b o c p <|
 oW d q e r f s <|
 .ret (.inr (.inl ((),((),(a,(n,(b,(o,(c,(p,(d,(q,(e,(r,(f,s))))))))))))))))
def fA x x1 s:=T.loop (kG x x1) s
def ko(h:zd):T (Form×Int×Int) :=
 .ite (decide (16384<(h.length:Int)))
  (.ret ((([]:List Switch),(([]:List Param),(([]:List qq),(([]:List Field),(([]:List qk),(([]:List Check),())))))),(0,3)))
  (T.bind (strings_Split h [10]) λg =>
 .zy (xL 0 0 0 0) <|
 .zy (xL 0 0 0 0) <|
 .zy (xL 0 0 0 0) <|
 .zy (xL 0 0 0 0) <|
 .zy (xL 0 0 0 0) <|
 .zy (xL 0 0 0 0) <|
 .zy (xL 0 0 0 0) <|
 .zy (xL 0 0 0 0) <|
 .zy (xL 0 0 0 0) <|
 .zy (xL 0 0 0 0) <|
 .zy (xL 0 0 0 0) <|
 oZ <|
 .zy (0=0) <|
 .zy (0=0) <|
 .zy (0=0) <|
 .zy (0=0) <|
 .zy (0=0) <|
 .zy (0=0) <|
 .zy (0=0) <|
 .zy (0=0) <|
 .zy (0=0) <|
 .zy (0=0) <|
 .zy (0=0) <|
 T.bind (fA g (g.length:Int) (0,((),((),([],([],([],([],([],([],([],([],([],([],([],[]))))))))))))))) <|
 Sum.elim (λ(n,o,p,a,q,b,r,c,s,d,t,e,u,f)=>let i:=((List.drop 0 (List.take (0+c.length) c)),((List.drop 0 (List.take (0+d.length) d)),((List.drop 0 (List.take (0+e.length) e)),((List.drop 0 (List.take (0+f.length) f)),((List.drop 0 (List.take (0+b.length) b)),((List.drop 0 (List.take (0+a.length) a)),()))))));
 oW c d e f b a <|
 T.bind (mv i) λj =>
 .ite (!j)
  (.ret ((([]:List Switch),(([]:List Param),(([]:List qq),(([]:List Field),(([]:List qk),(([]:List Check),())))))),(0,2)))
  (oW c d e f b a <|
 .ret (i,(0,0))))
  (λ(k,l,m,v,w,x,y,z,A,B,C,D,E,G,H,I) =>
 .ret (m,(k,l))))
def yP(c:zd)(d:Int):(Int×(List zd))->T ((Int×(List zd))⊕((Int×(List zd))))
 | (a,b) =>
 .zy (((decide (a<(c.length:Int)))=true)->(q9 a c.length)) <|
 .ite ((decide (a<(c.length:Int)))&&((zt c a) != 32))
  (oC b <|
 oE b <|
 .ret (.inl ((zI (a+1)),b)))
  (oC b <|
 oE b <|
 .ret (.inr (a,b)))
def tr s2 at_1 s:=T.loop (yP s2 at_1) s
def jJ(c:zd):(Int×(List zd))->T ((Int×(List zd))⊕((List zd)))
 | (a,b) =>
 .ite (decide (a<(c.length:Int)))
  (oI a c <|
 .ite ((zt c a)==32)
  (oC b <|
 oE b <|
 .ret (.inl ((zI (a+1)),b)))
  (oC b <|
 oE b <|
 T.bind (tr c a (a,b)) λ(d,e) =>
 .zy (vj a d c.length) <|
 oA e 16 <|
 oM (e.length+1) (e++([(qC a d c)]:List zd)).length <|
 .ret (.inl (d,(e++([(qC a d c)]:List zd))))))
  (oC b <|
 oE b <|
 .ret (.inr b))
def lF s1 s:=T.loop (jJ s1) s
def eM(b:zd):T (List zd) :=
 oZ <|
 T.bind (lF b (0,[])) λa =>
 oE a <|
 .ret (List.drop 0 (List.take (0+a.length) a))
def wy(a:Int):T Bool :=
 .ret ((decide (97<=a))&&(decide (a<=122)))
def uR(a:Int):T Bool :=
 .ret ((decide (48<=a))&&(decide (a<=57)))
def y9(b:zd):Int->T (Int⊕(Unit⊕Bool))
 | a =>
 .ite (decide (a<(b.length:Int)))
  (T.bind (oI a b <|
 T.bind (wy (zt b a)) λc =>
 .ite (!c)
  (oI a b <|
 T.bind (uR (zt b a)) λd =>
 .ite (!d)
  (oI a b <|
 .ret ((zt b a) != 95))
  (.ret false))
  (.ret false):T (Bool)) λe =>
 .ite e
  (.ret (.inr (.inr false)))
  (.ret (.inl (zI (a+1)))))
  (.ret (.inr (.inl ())))
def Qp s1 s:=T.loop (y9 s1) s
def xj(a:zd):T Bool :=
 T.bind (.ite (decide ((a.length:Int)<1))
  (.ret true)
  (.ite (decide (24<(a.length:Int)))
  (.ret true)
  (oI 0 a <|
 T.bind (wy (zt a 0)) λb =>
 .ret (!b))):T (Bool)) λc =>
 .ite c
  (.ret false)
  (T.bind (Qp a 1) <|
 Sum.elim (λ_ =>
 .ret true)
  (λd =>
 .ret d))
def bj(b:(List Int)):Int->T (Int⊕(Int))
 | a =>
 .zy (((decide (0<a))=true)->(q9 (zI (a-1)) b.length)) <|
 .ite ((decide (0<a))&&((nth b (zI (a-1)) (zn (.int .u32)))==0))
  (.ret (.inl (zI (a-1))))
  (.ret (.inr a))
def QO a1 s:=T.loop (bj a1) s
def xa(a:(List Int)):T (List Int) :=
 T.bind (QO a (a.length:Int)) λb =>
 .zy (vj 0 b a.length) <|
 .zy (Yw 0 0 0 0 0 (wi (e:=(.int .u32)) 0 b a).length 4) <|
 .zy ((0+(wi (e:=(.int .u32)) 0 b a).length)=(0+(wi (e:=(.int .u32)) 0 b a).length)) <|
 .ret (List.drop 0 (List.take (0+(0+(wi (e:=(.int .u32)) 0 b a).length)) (wi (e:=(.int .u32)) 0 b a)))
def nf(a:Int):T (List Int) :=
 .zy (0<=(32:Int)) <|
 T.bind (xa ([(xY a),(xY (vd .u64 a 32))]:List Int)) λb =>
 .ret b
def fK(c:(List Int)):(Int×Int)->T ((Int×Int)⊕(Int))
 | (b,a) =>
 .ite (decide (0<=a))
  (.zy (0<=(32:Int)) <|
 oI a c <|
 .ret (.inl ((ZK .u64 (gp .u64 b 32) (zV (nth c a (zn (.int .u32))))),(zI (a-1)))))
  (.ret (.inr b))
def K4 t1 s:=T.loop (fK t1) s
def ZR(c:(List Int)):T (Int×Bool) :=
 T.bind (xa c) λa =>
 .ite (decide (2<(a.length:Int)))
  (.ret (0,false))
  (T.bind (K4 a (0,(zI ((a.length:Int)-1)))) λb =>
 .ret (b,true))
def cU(e:(List Int))(c:Int):(Int×Int×(List Int))->T ((Int×Int×(List Int))⊕((Int×(List Int))))
 | (d,b,a)=>let f:=List.set a (0+(Int.toNat b)) (xY (zV (Int.tdiv (ZK .u64 (gp .u64 d 32) (zV (nth e b (zn (.int .u32))))) c)));
 .ite (decide (0<=b))
  (.zy (0<=(32:Int)) <|
 oI b e <|
 .zy (c≠0) <|
 oI b a <|
 .zy (mO a.length a.length (0+(Int.toNat b)) a.length) <|
 .zy (c≠0) <|
 oM a.length f.length <|
 .ret (.inl ((Int.tmod (ZK .u64 (gp .u64 d 32) (zV (nth e b (zn (.int .u32))))) c),((zI (b-1)),f))))
  (oC a <|
 oE a <|
 .ret (.inr (d,a)))
def tV a1 by_1 s:=T.loop (cU a1 by_1) s
def cK(a:(List Int))(e:Int):T ((List Int)×Int) :=
 .zy (XT (a.length:Int) (a.length:Int) 4) <|
 oM (Int.toNat (a.length:Int)) (List.replicate (Int.toNat (a.length:Int)) (0:Int)).length <|
 T.bind (tV a e (0,((zI ((a.length:Int)-1)),(List.replicate (Int.toNat (a.length:Int)) 0)))) λ(c,b) =>
 oE b <|
 T.bind (xa (List.drop 0 (List.take (0+b.length) b))) λd =>
 .ret (d,c)
def bR(a:(List Int))(b:Int):T Int :=
 .ite (decide (b<(a.length:Int)))
  (oI b a <|
 .ret (zV (nth a b (zn (.int .u32)))))
  (.ret 0)
def tu(c:(List Int))(d:Int):(Int×(List Int))->T ((Int×(List Int))⊕((List Int)))
 | (b,a) =>
 .ite (decide (b<(c.length:Int)))
  (T.bind (bR c b) λf =>
 T.bind (bR c (zI (b+1))) λg=>let e:=a++([(xY (vd .u64 (ZK .u64 f (gp .u64 g 32)) d))]:List Int);
 .zy (0<=(32:Int)) <|
 .zy (0<=d) <|
 oA a 4 <|
 oM (a.length+1) e.length <|
 .ret (.inl ((zI (b+1)),e)))
  (oC a <|
 oE a <|
 .ret (.inr a))
def KK t1 by_ s:=T.loop (tu t1 by_) s
def cM(f:(List Int))(b:Int):(Int×Int×(List Int))->T ((Int×Int×(List Int))⊕((List Int)))
 | (e,d,a) =>
 .ite (decide (d<(zI ((f.length:Int)+1))))
  (T.bind (bR f d) λc =>
 .zy (0<=b) <|
 oA a 4 <|
 .zy (0<=(32:Int)) <|
 oM (a.length+1) (a++([(xY (ZK .u64 (gp .u64 c b) e))]:List Int)).length <|
 .ret (.inl ((vd .u64 (gp .u64 c b) 32),((zI (d+1)),(a++([(xY (ZK .u64 (gp .u64 c b) e))]:List Int))))))
  (oC a <|
 oE a <|
 .ret (.inr a))
def tE t2 by_1 s:=T.loop (cM t2 by_1) s
def ns(j:(List Int))(k:Int):T (List Int) :=
 let b:=Vi (ng k (-4096)) 4096; let g:=zI (Int.tdiv (zI (0-b)) (32:Int)); let c:=zI (Int.tdiv b (32:Int));  T.bind (xa j) λa =>
 .ite (decide (b<0))
  (.zy (32≠(0:Int)) <|
 .ite (decide ((a.length:Int)<=g))
  (.ret [])
  (.zy (vj g (a.length:Int) a.length) <|
 .zy (32≠(0:Int)) <|
 oZ <|
 T.bind (KK (wi (e:=(.int .u32)) g (a.length:Int) a) (zV (Int.tmod (zI (0-b)) (32:Int))) (0,[])) λd =>
 oE d <|
 T.bind (xa (List.drop 0 (List.take (0+d.length) d))) λh =>
 .ret h))
  (.zy (32≠(0:Int)) <|
 .zy (XT c c 4) <|
 .zy (32≠(0:Int)) <|
 oM (Int.toNat c) (List.replicate (Int.toNat c) (0:Int)).length <|
 T.bind (tE a (zV (Int.tmod b (32:Int))) (0,(0,(List.replicate (Int.toNat c) 0)))) λf =>
 oE f <|
 T.bind (xa (List.drop 0 (List.take (0+f.length) f))) λi =>
 .ret i)
def iE(f:(List Int))(g:(List Int)):(Int×Int×(List Int))->T ((Int×Int×(List Int))⊕((List Int)))
 | (e,b,a) =>
 .ite (decide (b<(zI ((ng (f.length:Int) (g.length:Int))+1))))
  (T.bind (bR f b) λc =>
 T.bind (bR g b) λd =>
 oA a 4 <|
 .zy (0<=(32:Int)) <|
 oM (a.length+1) (a++([(xY (zV ((zV (e+c))+d)))]:List Int)).length <|
 .ret (.inl ((vd .u64 (zV ((zV (e+c))+d)) 32),((zI (b+1)),(a++([(xY (zV ((zV (e+c))+d)))]:List Int))))))
  (oC a <|
 oE a <|
 .ret (.inr a))
def W7 a1 b1 s:=T.loop (iE a1 b1) s
def dq(c:(List Int))(d:(List Int)):T (List Int) :=
 oZ <|
 T.bind (W7 c d (0,(0,[]))) λa =>
 oE a <|
 T.bind (xa (List.drop 0 (List.take (0+a.length) a))) λb =>
 .ret b
def dw(b:(List Int))(c:(List Int)):Int->T (Int⊕(Unit⊕Int))
 | a =>
 .ite (decide (0<=a))
  (oI a b <|
 oI a c <|
 .ite (decide ((nth b a (zn (.int .u32)))<(nth c a (zn (.int .u32)))))
  (.ret (.inr (.inr (-1))))
  (oI a b <|
 oI a c <|
 .ite (decide ((nth c a (zn (.int .u32)))<(nth b a (zn (.int .u32)))))
  (.ret (.inr (.inr 1)))
  (.ret (.inl (zI (a-1))))))
  (.ret (.inr (.inl ())))
def Wz x1 y1 s:=T.loop (dw x1 y1) s
def rU(d:(List Int))(e:(List Int)):T Int :=
 T.bind (xa d) λa =>
 T.bind (xa e) λb =>
 .ite ((a.length:Int) != (b.length:Int))
  (.ite (decide ((a.length:Int)<(b.length:Int)))
  (.ret (-1))
  (.ret 1))
  (T.bind (Wz a b (zI ((a.length:Int)-1))) <|
 Sum.elim (λ_ =>
 .ret 0)
  (λc =>
 .ret c))
def iD(f:(List Int))(h:(List Int)):(Int×Int×(List Int))->T ((Int×Int×(List Int))⊕((List Int)))
 | (e,c,a) =>
 .ite (decide (c<(f.length:Int)))
  (T.bind (bR f c) λb =>
 T.bind (bR h c) λd=>let g:=a++([(xY (zV ((bif (decide (b<(zV (d+e))))then(zV (b+4294967296))else b)-(zV (d+e)))))]:List Int);
 oA a 4 <|
 oM (a.length+1) g.length <|
 .ret (.inl ((bif (decide (b<(zV (d+e))))then 1 else 0),((zI (c+1)),g))))
  (oC a <|
 oE a <|
 .ret (.inr a))
def Wq a1 b1 s:=T.loop (iD a1 b1) s
def X5(b:(List Int))(c:(List Int)):T ((List Int)×Bool) :=
 T.bind (rU b c) λd =>
 .ite (decide (d<0))
  (.ret ([],false))
  (oZ <|
 T.bind (Wq b c (0,(0,[]))) λa =>
 oE a <|
 T.bind (xa (List.drop 0 (List.take (0+a.length) a))) λe =>
 .ret (e,true))
def uZ(i:(List Int))(j:(List Int)):((List Int)×Int×(List Int))->T (((List Int)×Int×(List Int))⊕(((List Int)×(List Int))))
 | (h,c,b)=>let d:=zI (Int.tdiv c (32:Int)); let e:=0+(Int.toNat d);
 .ite (decide (0<=c))
  (T.bind (ns h 1) λg =>
 T.bind (.zy (32≠(0:Int)) <|
 oI d i <|
 .zy (32≠(0:Int)) <|
 .zy (0<=(zV (Int.tmod c (32:Int)))) <|
 .ite ((Fc .u32 (vd .u32 (nth i d (zn (.int .u32))) (zV (Int.tmod c (32:Int)))) 1)==1)
  (T.bind (dq g ([1]:List Int)) λl =>
 oC b <|
 oE b <|
 .ret (l,b))
  (oC b <|
 oE b <|
 .ret (g,b)):T (((List Int)×(List Int)))) λ(f,a)=>let k:=List.set a e (ZK .u32 (gA a e (zn (.int .u32))) (gp .u32 1 (zV (Int.tmod c (32:Int)))));
 T.bind (rU f j) λm =>
 .ite (decide (0<=m))
  (T.bind (X5 f j) λ(n,o) =>
 .zy (32≠(0:Int)) <|
 .zy (32≠(0:Int)) <|
 oI d a <|
 .zy (mO a.length a.length e a.length) <|
 .zy (32≠(0:Int)) <|
 .zy (0<=(zV (Int.tmod c (32:Int)))) <|
 oI d a <|
 .zy (mO a.length a.length e a.length) <|
 oM a.length k.length <|
 .ret (.inl (n,((zI (c-1)),k))))
  (oC a <|
 oE a <|
 .ret (.inl (f,((zI (c-1)),a)))))
  (oC b <|
 oE b <|
 .ret (.inr (h,b)))
def eY a1 b1 s:=T.loop (uZ a1 b1) s
def kO(a:(List Int))(d:(List Int)):T ((List Int)×(List Int)×Bool) :=
 T.bind (xa d) λg =>
 .ite ((g.length:Int)==0)
  (.ret ([],([],false)))
  (T.bind (ZR a) λ(e,h) =>
 T.bind (ZR d) λ(b,f) =>
 .ite (h&&f)
  (.zy (b≠0) <|
 T.bind (nf (zV (Int.tdiv e b))) λi =>
 .zy (b≠0) <|
 T.bind (nf (Int.tmod e b)) λj =>
 .ret (i,(j,true)))
  (.ite (f&&(decide (b<4294967296)))
  (T.bind (cK a b) λ(k,l) =>
 T.bind (nf l) λm =>
 .ret (k,(m,true)))
  (.zy (XT (a.length:Int) (a.length:Int) 4) <|
 oM (Int.toNat (a.length:Int)) (List.replicate (Int.toNat (a.length:Int)) (0:Int)).length <|
 T.bind (eY a d ([],((zI ((zI (32*(a.length:Int)))-1)),(List.replicate (Int.toNat (a.length:Int)) 0)))) λ(n,c) =>
 oE c <|
 T.bind (xa (List.drop 0 (List.take (0+c.length) c))) λo =>
 T.bind (xa n) λp =>
 .ret (o,(p,true)))))
def dm  : ((List Int)×(List Int))->T (((List Int)×(List Int))⊕((List Int)))
 | (b,a) =>
 .ite (decide (0<(a.length:Int)))
  (T.bind (kO b a) λ(d,c,e) =>
 .ret (.inl (a,c)))
  (.ret (.inr b))
def WZ(s:((List Int)×(List Int))):T ((List Int)):=T.loop (dm ) s
def QZ(d:(List Int))(e:(List Int)):T (List Int) :=
 T.bind (xa d) λa =>
 T.bind (xa e) λb =>
 T.bind (WZ  (a,b)) λc =>
 .ret c
def ja(c:Rat):T Rat :=
 T.bind (xa c.2.1) λa =>
 T.bind (xa c.2.2.1) λb =>
 .ite (((b.length:Int)==0)||((a.length:Int)==0))
  (.ret (false,(([]:List Int),(([1]:List Int),()))))
  (T.bind (QZ a b) λd =>
 T.bind (kO a d) λ(e,g,h) =>
 T.bind (kO b d) λ(f,i,j) =>
 .ret (c.1,(e,(f,()))))
def cS(b:Bool)(c:(List Int))(d:(List Int)):T Rat :=
 T.bind (ja (b,(c,(d,())))) λa =>
 .ret a
def yH(a:Int):T Rat :=
 T.bind (nf (bif (decide (a<0))then(zV (0-(zV a)))else(zV a))) λb =>
 T.bind (cS (decide (a<0)) b ([1]:List Int)) λc =>
 .ret c
def iB(b:zd):Int->T (Int⊕(Int))
 | a =>
 .zy (((decide (a<(b.length:Int)))=true)->((q9 a b.length)/\(((decide (48<=(zt b a)))=true)->(q9 a b.length)))) <|
 .ite ((decide (a<(b.length:Int)))&&((decide (48<=(zt b a)))&&(decide ((zt b a)<=57))))
  (.ret (.inl (zI (a+1))))
  (.ret (.inr a))
def We s1 s:=T.loop (iB s1) s
def fH(b:zd):T Int :=
 T.bind (We b 0) λa =>
 .ret a
def dt(g:(List Int))(h:(List Int))(c:Int):(Int×Int×(List Int))->T ((Int×Int×(List Int))⊕((List Int)))
 | (f,b,a)=>let d:=0+(Int.toNat (zI (c+b)));
 .ite ((decide (b<(h.length:Int)))||(decide (0<f)))
  (.ite (decide ((a.length:Int)<=(zI (c+b))))
  (oC a <|
 oE a <|
 .ret (.inr a))
  (oI c g <|
 T.bind (bR h b) λi=>let e:=zV ((zV (f+(zV ((zV (nth g c (zn (.int .u32))))*i))))+(zV (gA a d (zn (.int .u32)))));
 oI (zI (c+b)) a <|
 .zy (mO a.length a.length d a.length) <|
 oI (zI (c+b)) a <|
 .zy (mO a.length a.length d a.length) <|
 .zy (0<=(32:Int)) <|
 oM a.length (List.set a d (xY e)).length <|
 .ret (.inl ((vd .u64 e 32),((zI (b+1)),(List.set a d (xY e)))))))
  (oC a <|
 oE a <|
 .ret (.inr a))
def WU a2 b2 i1 s:=T.loop (dt a2 b2 i1) s
def iO(d:(List Int))(e:(List Int)):(Int×(List Int))->T ((Int×(List Int))⊕((List Int)))
 | (c,a) =>
 .ite (decide (c<(d.length:Int)))
  (oC a <|
 oE a <|
 T.bind (WU d e c (0,(0,a))) λb =>
 oC b <|
 oE b <|
 .ret (.inl ((zI (c+1)),b)))
  (oC a <|
 oE a <|
 .ret (.inr a))
def WJ a1 b1 s:=T.loop (iO a1 b1) s
def yB(c:(List Int))(d:(List Int)):T (List Int) :=
 let a:=zI ((c.length:Int)+(d.length:Int));  .zy (XT a a 4) <|
 oM (Int.toNat a) (List.replicate (Int.toNat a) (0:Int)).length <|
 T.bind (WJ c d (0,(List.replicate (Int.toNat a) 0))) λb =>
 oE b <|
 T.bind (xa (List.drop 0 (List.take (0+b.length) b))) λe =>
 .ret e
def cO(b:zd):((List Int)×Int)->T (((List Int)×Int)⊕((List Int)⊕Bool))
 | (c,a) =>
 .ite (decide (a<(b.length:Int)))
  (.zy ((q9 a b.length)/\(((decide ((zt b a)<48))=false)->(q9 a b.length))) <|
 .ite ((decide ((zt b a)<48))||(decide (57<(zt b a))))
  (.ret (.inr (.inr false)))
  (T.bind (yB c ([10]:List Int)) λd =>
 oI a b <|
 T.bind (dq d ([(xY (Gd ((zt b a)-48)))]:List Int)) λe =>
 .ret (.inl (e,(zI (a+1))))))
  (.ret (.inr (.inl c)))
def tB s1 s:=T.loop (cO s1) s
def gj(a:zd):T ((List Int)×Bool) :=
 .ite ((decide ((a.length:Int)<1))||(decide (400<(a.length:Int))))
  (.ret ([],false))
  (T.bind (tB a ([],0)) <|
 Sum.elim (λb =>
 .ret (b,true))
  (λc =>
 .ret ([],c)))
def dh(d:Int):((List Int)×Int)->T (((List Int)×Int)⊕((List Int)))
 | (a,b) =>
 .ite (decide (b<d))
  (T.bind (yB a ([10]:List Int)) λc =>
 .ret (.inl (c,(zI (b+1)))))
  (.ret (.inr a))
def Wo n1 s:=T.loop (dh n1) s
def rh(b:Int):T (List Int) :=
 T.bind (Wo b (([1]:List Int),0)) λa =>
 .ret a
def ki(b:zd):T (Rat×Int) :=
 let g:=(!(zi b []))&&((zt b 0)==45); let c:=bif g then(qC 1 (b.length:Int) b)else b;  .ite (decide (400<(b.length:Int)))
  (T.bind (yH 0) λk =>
 .ret (k,3))
  (.zy (((!(zi b []))=true)->(q9 0 b.length)) <|
 .zy ((g=true)->(vj 1 (b.length:Int) b.length)) <|
 T.bind (fH c) λe=>let a:=qC e (c.length:Int) c; let d:=(a.length:Int);
 .zy (vj 0 e c.length) <|
 .zy (vj e (c.length:Int) c.length) <|
 .ite (e==0)
  (T.bind (yH 0) λl =>
 .ret (l,2))
  (T.bind (gj (qC 0 e c)) λ(h,t) =>
 .ite (zi a [])
  (T.bind (cS g h ([1]:List Int)) λm =>
 .ret (m,0))
  (.zy (vj 1 d a.length) <|
 T.bind (fH (qC 1 d a)) λf =>
 .zy (((f==0)=false)->(((f != (zI (d-1)))=false)->((q9 0 a.length)/\((((zt a 0) != 46)=true)->(q9 0 a.length))))) <|
 .ite ((f==0)||((f != (zI (d-1)))||(((zt a 0) != 46)&&((zt a 0) != 47))))
  (T.bind (yH 0) λn =>
 .ret (n,2))
  (.zy (vj 1 d a.length) <|
 T.bind (gj (qC 1 d a)) λ(i,u) =>
 .zy (q9 0 a.length) <|
 .ite ((zt a 0)==47)
  (.ite ((i.length:Int)==0)
  (T.bind (yH 0) λo =>
 .ret (o,2))
  (T.bind (cS g h i) λp =>
 .ret (p,0)))
  (T.bind (rh f) λj =>
 T.bind (yB h j) λq =>
 T.bind (dq q i) λr =>
 T.bind (cS g r j) λs =>
 .ret (s,0))))))
def jj(a:(List zd))(b:Int):T (zd×Bool) :=
 .ite ((a.length:Int)==b)
  (.ret ([],true))
  (T.bind (.ite ((a.length:Int)==(zI (b+2)))
  (oI b a <|
 .ite (zi (nth a b (zn .str)) [119,104,101,110])
  (oI (zI (b+1)) a <|
 T.bind (xj (nth a (zI (b+1)) (zn .str))) λc =>
 .ret c)
  (.ret false))
  (.ret false):T (Bool)) λd =>
 .ite d
  (oI (zI (b+1)) a <|
 .ret ((nth a (zI (b+1)) (zn .str)),true))
  (.ret ([],false)))
def kK(a:(List zd))(h:Int):T (Field×Bool) :=
 let c:=(a.length:Int);  .ite ((decide (c<2))||(decide (h<0)))
  (.ret (([],((0:Int),(false,((0:Int),())))),false))
  (oI 1 a <|
 .zy (vj 2 c a.length) <|
 T.bind (.zy (((decide (0<(Nat.cast (wi (e:=.str) 2 c a).length:Int)))=true)->(q9 0 (wi (e:=.str) 2 c a).length)) <|
 .ite ((decide (0<(Nat.cast (wi (e:=.str) 2 c a).length:Int)))&&(zi (nth (wi (e:=.str) 2 c a) 0 (zn .str)) [109,117,115,116]))
  (.zy (vj 1 (Nat.cast (wi (e:=.str) 2 c a).length:Int) (wi (e:=.str) 2 c a).length) <|
 .ret ((wi (e:=.str) 1 (Nat.cast (wi (e:=.str) 2 c a).length:Int) (wi (e:=.str) 2 c a)),(([],((0:Int),(false,((0:Int),())))),((nth a 1 (zn .str)),(h,(true,((0:Int),())))))))
  (.ret ((wi (e:=.str) 2 c a),(([],((0:Int),(false,((0:Int),())))),((nth a 1 (zn .str)),(h,(false,((0:Int),()))))))):T (((List zd)×Field×Field))) λ(b,i,f)=>let d:=nth b 1 (zn .str);
 T.bind (.zy ((((b.length:Int)==2)=true)->((q9 0 b.length)/\(((zi (nth b 0 (zn .str)) [115,99,97,108,101])=true)->((q9 1 b.length)/\((((d.length:Int)==1)=true)->((q9 1 b.length)/\((q9 0 d.length)/\(((decide (48<=(zt d 0)))=true)->((q9 1 b.length)/\(q9 0 d.length)))))))))) <|
 .ite (((b.length:Int)==2)&&((zi (nth b 0 (zn .str)) [115,99,97,108,101])&&(((d.length:Int)==1)&&((decide (48<=(zt d 0)))&&(decide ((zt d 0)<=57))))))
  (oI 1 b <|
 oI 0 d <|
 .ret ([],(i,(f.1,(f.2.1,(f.2.2.1,((zI ((zI (zt d 0))-48)),())))))))
  (.ret (b,(i,f))):T (((List zd)×Field×Field))) λ(j,l,g) =>
 .ite ((j.length:Int)==0)
  (T.bind (xj g.1) λk =>
 .ret (g,k))
  (.ret (g,false)))
def b8(b:zd)(c:Int):Int->T (Int⊕(Unit⊕Int))
 | a =>
 .ite (decide (a<(b.length:Int)))
  (oI a b <|
 .ite ((zt b a)==c)
  (.ret (.inr (.inr a)))
  (.ret (.inl (zI (a+1)))))
  (.ret (.inr (.inl ())))
def mH s1 c1 s:=T.loop (b8 s1 c1) s
def mc(b:zd)(c:Int):T Int :=
 T.bind (mH b c 0) <|
 Sum.elim (λ_ =>
 .ret (-1))
  (λa =>
 .ret a)
def wc  : zj->T (zj⊕(zj))
 | a =>
 .zy (((decide (a.2.1<(a.1.length:Int)))=true)->(q9 a.2.1 a.1.length)) <|
 .ite ((decide (a.2.1<(a.1.length:Int)))&&((zt a.1 a.2.1)==32))
  (.ret (.inl (a.1,((zI (a.2.1+1)),(a.2.2.1,(a.2.2.2.1,(a.2.2.2.2.1,(a.2.2.2.2.2.1,()))))))))
  (.ret (.inr a))
def gC(s:zj):T (zj):=T.loop (wc ) s
def w9(b:zj):T zj :=
 T.bind (gC  b) λa =>
 .ret a
def xX(b:zj):T (Int×zj) :=
 T.bind (w9 b) λa =>
 .ite ((a.2.2.1 != 0)||(decide ((a.1.length:Int)<=a.2.1)))
  (.ret (0,a))
  (oI a.2.1 a.1 <|
 .ret ((zt a.1 a.2.1),a))
def xb(b:Int)(a:zj):T (AM.Expr×zj) :=
 .ite (a.2.2.1==0)
  (.ret ((Expr.mk 0 (false,([],([],()))) [] []),(a.1,(a.2.1,(b,(a.2.1,(a.2.2.2.2.1,(a.2.2.2.2.2.1,()))))))))
  (.ret ((Expr.mk 0 (false,([],([],()))) [] []),a))
def vx(a:zj):T (Bool×zj) :=
 .ite (decide (32<=(zI (a.2.2.2.2.1+1))))
  (T.bind (xb 4 a) λ(c,b) =>
 .ret (false,b))
  (.ret (true,(a.1,((zI (a.2.1+1)),(a.2.2.1,(a.2.2.2.1,((zI (a.2.2.2.2.1+1)),(a.2.2.2.2.2.1,()))))))))
def jr(b:Int)(c:zj):T (Bool×zj) :=
 T.bind (w9 c) λa =>
 .zy (((a.2.2.1==0)=true)->(((decide (a.2.1<(a.1.length:Int)))=true)->(q9 a.2.1 a.1.length))) <|
 .ite ((a.2.2.1==0)&&((decide (a.2.1<(a.1.length:Int)))&&((zt a.1 a.2.1)==b)))
  (.ret (true,(a.1,((zI (a.2.1+1)),(a.2.2.1,(a.2.2.2.1,(a.2.2.2.2.1,(a.2.2.2.2.2.1,()))))))))
  (.ret (false,a))
def wa  : (Int×zj)->T ((Int×zj)⊕((Int×zj)))
 | (c,a) =>
 T.bind (.ite (decide (a.2.1<(a.1.length:Int)))
  (oI a.2.1 a.1 <|
 T.bind (uR (zt a.1 a.2.1)) λd =>
 .ret (d,a))
  (.ret (false,a)):T ((Bool×zj))) λ(e,b) =>
 .ite e
  (.ret (.inl ((zI (c+1)),(b.1,((zI (b.2.1+1)),(b.2.2.1,(b.2.2.2.1,(b.2.2.2.2.1,(b.2.2.2.2.2.1,())))))))))
  (.ret (.inr (c,b)))
def j3(s:(Int×zj)):T ((Int×zj)):=T.loop (wa ) s
def vn(c:zj):T (Int×zj) :=
 T.bind (j3  (0,c)) λ(a,b) =>
 .ret (a,b)
def uD(d:zj):T (AM.Expr×zj) :=
 T.bind (vn d) λ(o,a) =>
 T.bind (.zy (((decide (a.2.1<(a.1.length:Int)))=true)->(q9 a.2.1 a.1.length)) <|
 .ite ((decide (a.2.1<(a.1.length:Int)))&&((zt a.1 a.2.1)==46))
  (T.bind (vn (a.1,((zI (a.2.1+1)),(a.2.2.1,(a.2.2.2.1,(a.2.2.2.2.1,(a.2.2.2.2.2.1,()))))))) λ(h,e) =>
 .ite (h==0)
  (T.bind (xb 2 e) λ(i,j) =>
 .ret (.inr (j,i)))
  (.ret (.inl (e,(Expr.mk 0 (false,([],([],()))) [] [])))))
  (.ret (.inl (a,(Expr.mk 0 (false,([],([],()))) [] [])))):T ((zj×AM.Expr)⊕(zj×AM.Expr))) <|
 Sum.elim (λ(b,f) =>
 .zy (vj d.2.1 b.2.1 b.1.length) <|
 T.bind (ki (qC d.2.1 b.2.1 b.1)) λ(g,k) =>
 T.bind (.ite b.2.2.2.2.2.1
  (.ret ((b.1,(b.2.1,(b.2.2.1,(b.2.2.2.1,(b.2.2.2.2.1,(true,())))))),(f,g)))
  (.ret ((b.1,(b.2.1,(b.2.2.1,(b.2.2.2.1,(b.2.2.2.2.1,((k != 0),())))))),(f,g))):T ((zj×AM.Expr×Rat))) λ(l,p,c) =>
 .ret ((Expr.mk 1 (c.1,(c.2.1,(c.2.2.1,()))) [] []),l))
  (λ(m,n) =>
 .ret (n,m))
def xO(j:Int):(zj×AM.Expr)->T ((zj×AM.Expr)⊕((zj×AM.Expr)⊕(zj×AM.Expr)))
 | (a,c) =>
 T.bind (.ite (decide (a.2.1<(a.1.length:Int)))
  (oI a.2.1 a.1 <|
 T.bind (wy (zt a.1 a.2.1)) λe =>
 .ite e
  (.ret (true,(a,c)))
  (oI a.2.1 a.1 <|
 T.bind (uR (zt a.1 a.2.1)) λf =>
 .ite f
  (.ret (true,(a,c)))
  (oI a.2.1 a.1 <|
 .ret (((zt a.1 a.2.1)==95),(a,c)))))
  (.ret (false,(a,c))):T ((Bool×zj×AM.Expr))) λ(g,b,d) =>
 .ite g
  (.ite ((zI (b.2.1-j))==24)
  (T.bind (xb 2 b) λ(h,i) =>
 .ret (.inr (.inr (i,h))))
  (.ret (.inl ((b.1,((zI (b.2.1+1)),(b.2.2.1,(b.2.2.2.1,(b.2.2.2.2.1,(b.2.2.2.2.2.1,())))))),d))))
  (.ret (.inr (.inl (b,d))))
def cf from_ s:=T.loop (xO from_) s
def jo(b:zj):T (AM.Expr×zj) :=
 T.bind (cf b.2.1 (b,(Expr.mk 0 (false,([],([],()))) [] []))) <|
 Sum.elim (λ(a,e) =>
 .zy (vj b.2.1 a.2.1 a.1.length) <|
 .ret ((Expr.mk 2 (false,([],([],()))) (qC b.2.1 a.2.1 a.1) []),a))
  (λ(c,d) =>
 .ret (d,c))
def wu(w:zj->T (AM.Expr×zj))(x:zj->T (AM.Expr×zj))(y:zj):T (AM.Expr×zj) :=
 T.bind (xX y) λ(d,c) =>
 .ite (d==45)
  (T.bind (vx c) λ(g,e) =>
 .ite (!g)
  (.ret ((Expr.mk 0 (false,([],([],()))) [] []),e))
  (T.bind (w e) λ(h,b) =>
 .ret ((Expr.mk 7 (false,([],([],()))) [] [h]),(b.1,(b.2.1,(b.2.2.1,(b.2.2.2.1,((zI (b.2.2.2.2.1-1)),(b.2.2.2.2.2.1,())))))))))
  (.ite (d==40)
  (T.bind (vx c) λ(i,f) =>
 .ite (!i)
  (.ret ((Expr.mk 0 (false,([],([],()))) [] []),f))
  (T.bind (x f) λ(j,k) =>
 T.bind (jr 41 k) λ(l,a) =>
 .ite (!l)
  (T.bind (xb 2 a) λ(m,n) =>
 .ret (m,n))
  (.ret (j,(a.1,(a.2.1,(a.2.2.1,(a.2.2.2.1,((zI (a.2.2.2.2.1-1)),(a.2.2.2.2.2.1,()))))))))))
  (T.bind (uR d) λo =>
 .ite o
  (T.bind (uD c) λ(p,q) =>
 .ret (p,q))
  (T.bind (wy d) λr =>
 .ite r
  (T.bind (jo c) λ(s,t) =>
 .ret (s,t))
  (T.bind (xb 2 c) λ(u,v) =>
 .ret (u,v)))))
def vi(vw:zj->T (AM.Expr×zj))(r:zj):T (AM.Expr×zj):=T.fix (λF x=>wu (λy0=>F (y0)) vw x) r
def fm(a:Int)(b:AM.Expr)(c:AM.Expr):T AM.Expr :=
 .ret (Expr.mk a (false,([],([],()))) [] [b,c])
def yO(m:zj->T (AM.Expr×zj))  : (zj×AM.Expr×AM.Expr)->T ((zj×AM.Expr×AM.Expr)⊕((zj×AM.Expr×AM.Expr)))
 | (l,d,b) =>
 T.bind (xX l) λ(c,a)=>let e:=(vi m) (a.1,((zI (a.2.1+1)),(a.2.2.1,(a.2.2.2.1,(a.2.2.2.2.1,(a.2.2.2.2.2.1,()))))));
 .ite (c==42)
  (T.bind e λ(f,g) =>
 T.bind (fm 5 b f) λh =>
 .ret (.inl (g,(d,h))))
  (.ite (c==47)
  (T.bind e λ(i,j) =>
 T.bind (fm 6 b i) λk =>
 .ret (.inl (j,(d,k))))
  (.ret (.inr (a,(b,b)))))
def lz(vw:zj->T (AM.Expr×zj))(s:(zj×AM.Expr×AM.Expr)):T ((zj×AM.Expr×AM.Expr)):=T.loop (yO vw ) s
def wO(a:zj->T (AM.Expr×zj))(f:zj):T (AM.Expr×zj) :=
 T.bind ((vi a) f) λ(b,c) =>
 T.bind (lz a  (c,((Expr.mk 0 (false,([],([],()))) [] []),b))) λ(d,e,g) =>
 .ret (e,d)
def dB(m:zj->T (AM.Expr×zj))  : (zj×AM.Expr×AM.Expr)->T ((zj×AM.Expr×AM.Expr)⊕((zj×AM.Expr×AM.Expr)))
 | (l,d,b) =>
 T.bind (xX l) λ(c,a)=>let e:=(wO m) (a.1,((zI (a.2.1+1)),(a.2.2.1,(a.2.2.2.1,(a.2.2.2.2.1,(a.2.2.2.2.2.1,()))))));
 .ite (c==43)
  (T.bind e λ(f,g) =>
 T.bind (fm 3 b f) λh =>
 .ret (.inl (g,(d,h))))
  (.ite (c==45)
  (T.bind e λ(i,j) =>
 T.bind (fm 4 b i) λk =>
 .ret (.inl (j,(d,k))))
  (.ret (.inr (a,(b,b)))))
def rG(vw:zj->T (AM.Expr×zj))(s:(zj×AM.Expr×AM.Expr)):T ((zj×AM.Expr×AM.Expr)):=T.loop (dB vw ) s
def yn(a:zj->T (AM.Expr×zj))(f:zj):T (AM.Expr×zj) :=
 T.bind ((wO a) f) λ(b,c) =>
 T.bind (rG a  (c,((Expr.mk 0 (false,([],([],()))) [] []),b))) λ(d,e,g) =>
 .ret (e,d)
def uM(r:zj):T (AM.Expr×zj):=T.fix (λF x=>yn (λy0=>F (y0)) x) r
def yA  : ((List Int)×zd)->T (((List Int)×zd)⊕(zd))
 | (c,a) =>
 .ite (decide (0<(c.length:Int)))
  (T.bind (cK c 10) λ(d,b) =>
 oK (qO ([(Gd (zV (48+b)))]:List Int)) a <|
 .ret (.inl (d,(cat (qO ([(Gd (zV (48+b)))]:List Int)) a))))
  (.ret (.inr a))
def lr(s:((List Int)×zd)):T (zd):=T.loop (yA ) s
def cn(c:(List Int)):T zd :=
 T.bind (xa c) λa =>
 .ite ((a.length:Int)==0)
  (.ret [48])
  (T.bind (lr  (a,[])) λb =>
 .ret b)
def kE(b:Int):zd->T (zd⊕(zd))
 | a =>
 .ite (decide ((a.length:Int)<b))
  (oK [48] a <|
 .ret (.inl (cat [48] a)))
  (.ret (.inr a))
def oP least1 s:=T.loop (kE least1) s
def l8(c:(List Int))(d:Int):T zd :=
 T.bind (cn c) λa =>
 T.bind (oP d a) λb =>
 .ret b
def eI(a:Bool):T zd :=
 .ite a
  (.ret [45])
  (.ret [])
def mW(h:Bool)(g:(List Int))(c:Int):T zd :=
 T.bind (l8 g (zI (c+1))) λa=>let b:=zI ((a.length:Int)-c); let d:=bif (decide (0<c))then(cat (cat (qC 0 b a) [46]) (qC b (a.length:Int) a))else a;
 .zy (((decide (0<c))=true)->((vj 0 b a.length)/\((((qC 0 b a).length+([46]:zd).length)<=4611686018427387904)/\((vj b (a.length:Int) a.length)/\(((cat (qC 0 b a) [46]).length+(qC b (a.length:Int) a).length)<=4611686018427387904))))) <|
 .ite h
  (T.bind (eI (decide (0<(g.length:Int)))) λe =>
 oK e d <|
 .ret (cat e d))
  (T.bind (eI false) λf =>
 oK f d <|
 .ret (cat f d))
def jH  : ((List Int)×Int×Rat)->T (((List Int)×Int×Rat)⊕(Rat⊕(zd×Bool×Rat)))
 | (c,b,a) =>
 .ite (decide (b<=60))
  (T.bind (yB a.2.1 c) λd =>
 T.bind (kO d a.2.2.1) λ(e,f,i) =>
 .ite ((f.length:Int)==0)
  (T.bind (mW a.1 e b) λg =>
 .ret (.inr (.inr (g,(true,a)))))
  (T.bind (yB c ([10]:List Int)) λh =>
 .ret (.inl (h,((zI (b+1)),a)))))
  (.ret (.inr (.inl a)))
def tw(s:((List Int)×Int×Rat)):T (Rat⊕(zd×Bool×Rat)):=T.loop (jH ) s
def cv(d:Rat):T (zd×Bool) :=
 T.bind (ja d) λa =>
 T.bind (tw  (([1]:List Int),(0,a))) <|
 Sum.elim (λe =>
 .ret ([],false))
  (λ(b,c,f) =>
 .ret (b,c))
def jO(b:(List Int))(c:(List Int)):Int->T (Int⊕(Unit⊕Bool))
 | a =>
 .ite (decide (a<(b.length:Int)))
  (oI a b <|
 oI a c <|
 .ite ((nth b a (zn (.int .u32))) != (nth c a (zn (.int .u32))))
  (.ret (.inr (.inr false)))
  (.ret (.inl (zI (a+1)))))
  (.ret (.inr (.inl ())))
def lG a1 b1 s:=T.loop (jO a1 b1) s
def gq(a:(List Int))(b:(List Int)):T Bool :=
 .ite ((a.length:Int) != (b.length:Int))
  (.ret false)
  (T.bind (lG a b 0) <|
 Sum.elim (λ_ =>
 .ret true)
  (λc =>
 .ret c))
def QY(a:Rat):T Bool :=
 T.bind (ja a) λb =>
 .ite (a.1==b.1)
  (T.bind (gq a.2.1 b.2.1) λc =>
 .ite c
  (T.bind (gq a.2.2.1 b.2.2.1) λd =>
 .ret d)
  (.ret false))
  (.ret false)
def n3(b:Rat):T Bool :=
 T.bind (ja b) λa =>
 .ret ((decide (16<(a.2.1.length:Int)))||(decide (16<(a.2.2.1.length:Int))))
def eH(a:Rat):T Bool :=
 T.bind (QY a) λb =>
 .ite b
  (T.bind (n3 a) λc =>
 .ret (!c))
  (.ret false)
def kM(a:Rat):T Bool :=
 .ite (!a.1)
  (.ite ((a.2.1.length:Int)==0)
  (.ite ((a.2.2.1.length:Int)==0)
  (.ret true)
  (T.bind (QY a) λb =>
 .ret b))
  (.ret false))
  (.ret false)
def di(d:AM.Expr->Int->T Bool)(e:Int)(b:AM.Expr)(f:Int):Int->T (Int⊕(Unit⊕Bool))
 | a =>
 .ite (decide (a<f))
  (oI a (Expr.kids b) <|
 T.bind (d (nth (Expr.kids b) a (zn .expr)) (zI (e+1))) λc =>
 .ite (!c)
  (.ret (.inr (.inr false)))
  (.ret (.inl (zI (a+1)))))
  (.ret (.inr (.inl ())))
def rZ self_ref5_one deep1 e1 kids1 s:=T.loop (di self_ref5_one deep1 e1 kids1) s
def mM(l:AM.Expr->Int->T Bool)(a:AM.Expr)(c:Int):T Bool :=
 .ite (decide (32<c))
  (.ret false)
  (T.bind (.ite ((Expr.kind a)==1)
  (T.bind (cv (Expr.num a)) λ(m,d) =>
 .ite (((Expr.kids a).length:Int)==0)
  (.ite (zi (Expr.name a) [])
  (T.bind (eH (Expr.num a)) λe =>
 .ite e
  (.ite (!(Expr.num a).1)
  (.ret (.inr d))
  (.ret (.inr false)))
  (.ret (.inr false)))
  (.ret (.inr false)))
  (.ret (.inr false)))
  (.ite ((Expr.kind a)==2)
  (.ite (((Expr.kids a).length:Int)==0)
  (T.bind (xj (Expr.name a)) λf =>
 .ite f
  (T.bind (kM (Expr.num a)) λg =>
 .ret (.inr g))
  (.ret (.inr false)))
  (.ret (.inr false)))
  (.ite ((Expr.kind a)==7)
  (.ret (.inl 1))
  (.ite ((Expr.kind a)==3)
  (.ret (.inl 2))
  (.ite ((Expr.kind a)==4)
  (.ret (.inl 2))
  (.ite ((Expr.kind a)==5)
  (.ret (.inl 2))
  (.ite ((Expr.kind a)==6)
  (.ret (.inl 2))
  (.ret (.inr false)))))))):T (Int⊕Bool)) <|
 Sum.elim (λb =>
 T.bind (.ite (((Expr.kids a).length:Int) != b)
  (.ret true)
  (.ite (!(zi (Expr.name a) []))
  (.ret true)
  (T.bind (kM (Expr.num a)) λh =>
 .ret (!h))):T (Bool)) λi =>
 .ite i
  (.ret false)
  (T.bind (rZ l c a b 0) <|
 Sum.elim (λ_ =>
 .ret true)
  (λj =>
 .ret j)))
  (λk =>
 .ret k))
def lS(e:AM.Expr)(deep:Int):T Bool:=T.fix (λF x=>mM (λy0 y1=>F (y0,y1)) x.1 x.2) (e,deep)
def yG(e:AM.Expr->T Int)(b:AM.Expr):(Int×Int)->T ((Int×Int)⊕(Int))
 | (c,a) =>
 .ite (decide (a<((Expr.kids b).length:Int)))
  (oI a (Expr.kids b) <|
 T.bind (e (nth (Expr.kids b) a (zn .expr))) λd =>
 .ret (.inl ((zI (c+d)),(zI (a+1)))))
  (.ret (.inr c))
def tY self_ref5_Nodes e1 s:=T.loop (yG self_ref5_Nodes e1) s
def dS(b:AM.Expr->T Int)(c:AM.Expr):T Int :=
 T.bind (tY b c (1,0)) λa =>
 .ret a
def nJ(e:AM.Expr):T Int:=T.fix (λF x=>dS (λy0=>F (y0)) x) e
def yQ(a:AM.Expr):T Bool :=
 T.bind (lS a 1) λb =>
 .ite b
  (T.bind (nJ a) λc =>
 .ret (decide (c<=256)))
  (.ret false)
def jk(f:zd):T (AM.Expr×Int×Int) :=
 T.bind (uM (f,((0:Int),((0:Int),((0:Int),((0:Int),(false,()))))))) λ(d,g) =>
 T.bind (w9 g) λb =>
 T.bind (.ite ((b.2.2.1==0)&&(decide (b.2.1<(f.length:Int))))
  (T.bind (xb 2 b) λ(l,h) =>
 .ret ((Expr.mk 0 (false,([],([],()))) [] []),(h,d)))
  (.ret ((Expr.mk 0 (false,([],([],()))) [] []),(b,d))):T ((AM.Expr×zj×AM.Expr))) λ(e,a,c) =>
 .ite (a.2.2.1 != 0)
  (.ret ((Expr.mk 0 (false,([],([],()))) [] []),(a.2.2.2.1,a.2.2.1)))
  (T.bind (.ite a.2.2.2.2.2.1
  (.ret (true,(e,(a,c))))
  (T.bind (yQ c) λi =>
 .ret ((!i),(e,(a,c)))):T ((Bool×AM.Expr×zj×AM.Expr))) λ(j,m,n,k) =>
 .ite j
  (.ret ((Expr.mk 0 (false,([],([],()))) [] []),(0,3)))
  (.ret (k,(0,0))))
def yM(b:zd):(Int×AM.Expr×AM.Expr)->T ((Int×AM.Expr×AM.Expr)⊕((Int×AM.Expr×AM.Expr)))
 | (a,c,d) =>
 .zy (((decide (a<(b.length:Int)))=true)->((q9 a b.length)/\((((zt b a) != 60)=true)->(q9 a b.length)))) <|
 .ite ((decide (a<(b.length:Int)))&&(((zt b a) != 60)&&((zt b a) != 61)))
  (.ret (.inl ((zI (a+1)),(c,d))))
  (.ret (.inr (a,(c,d))))
def lp s1 s:=T.loop (yM s1) s
def cB(a:zd):T (AM.Expr×AM.Expr×Int×Int) :=
 T.bind (lp a (0,((Expr.mk 0 (false,([],([],()))) [] []),(Expr.mk 0 (false,([],([],()))) [] [])))) λ(c,i,j)=>let b:=zI (c+1); let e:=bif ((zt a c)==60)then(bif ((decide (b<(a.length:Int)))&&((zt a b)==61))then(zI (b+1))else b)else b;
 .ite (c==(a.length:Int))
  (.ret ((Expr.mk 0 (false,([],([],()))) [] []),((Expr.mk 0 (false,([],([],()))) [] []),(0,2))))
  (.zy ((q9 c a.length)/\((((zt a c)==60)=true)->(((decide (b<(a.length:Int)))=true)->(q9 b a.length)))) <|
 .zy (vj 0 c a.length) <|
 T.bind (jk (qC 0 c a)) λ(f,k,d) =>
 .ite (d != 0)
  (.ret ((Expr.mk 0 (false,([],([],()))) [] []),((Expr.mk 0 (false,([],([],()))) [] []),(0,d))))
  (.zy (vj e (a.length:Int) a.length) <|
 T.bind (jk (qC e (a.length:Int) a)) λ(g,l,h) =>
 .ret (f,(g,((bif ((zt a c)==60)then(bif ((decide (b<(a.length:Int)))&&((zt a b)==61))then 2 else 1)else 0),h)))))
def yK(a:Int):T zd :=
 .ite (a==0)
  (.ret [114,101,113,117,105,114,101,100])
  (.ite (a==1)
  (.ret [115,116,114,111,110,103])
  (.ite (a==2)
  (.ret [109,101,100,105,117,109])
  (.ret [119,101,97,107])))
def y5(c:zd):Int->T (Int⊕(Unit⊕Int))
 | a =>
 .ite (decide (a<4))
  (T.bind (yK a) λb =>
 .ite (zi b c)
  (.ret (.inr (.inr a)))
  (.ret (.inl (zI (a+1)))))
  (.ret (.inr (.inl ())))
def lT s1 s:=T.loop (y5 s1) s
def uS(b:zd):T Int :=
 T.bind (lT b 0) <|
 Sum.elim (λ_ =>
 .ret (-1))
  (λa =>
 .ret a)
def dN(b:zd)(U:(Unit))(u:(List Switch))(v:(List Param))(p:(List qq))(w:(List Field))(x:(List qk))(y:(List Check)):T (Int×(Unit)×(List Switch)×(List Param)×(List qq)×(List Field)×(List qk)×(List Check)) :=
 let z:=((),(u,(v,(p,(w,(x,y))))));  T.bind (mc b 58) λj =>
 .ite (decide (j<0))
  (oY u v p w x y <|
 .ret (2,z))
  (.zy (vj 0 j b.length) <|
 T.bind (eM (qC 0 j b)) λa =>
 T.bind (.ite ((a.length:Int)==2)
  (oI 0 a <|
 .ite (zi (nth a 0 (zn .str)) [99,104,101,99,107])
  (oI 1 a <|
 T.bind (xj (nth a 1 (zn .str))) λE =>
 .ite E
  (oY u v p w x y <|
 .ret ((decide (0<(p.length:Int))),z))
  (oY u v p w x y <|
 .ret (false,z)))
  (oY u v p w x y <|
 .ret (false,z)))
  (oY u v p w x y <|
 .ret (false,z)):T ((Bool×(Unit)×(List Switch)×(List Param)×(List qq)×(List Field)×(List qk)×(List Check)))) λ(G,R,f,g,d,h,i,c)=>let A:=((),(f,(g,(d,(h,(i,c))))));
 .ite G
  (.zy (vj (zI (j+1)) (b.length:Int) b.length) <|
 T.bind (cB (qC (zI (j+1)) (b.length:Int) b)) λ(q,r,H,I)=>let B:=c++([((nth a 1 (zn .str)),((zI ((d.length:Int)-1)),(H,((Expr.mk (Expr.kind q) ((Expr.num q).1,((Expr.num q).2.1,((Expr.num q).2.2.1,()))) (Expr.name q) (Expr.kids q)),((Expr.mk (Expr.kind r) ((Expr.num r).1,((Expr.num r).2.1,((Expr.num r).2.2.1,()))) (Expr.name r) (Expr.kids r)),())))))]:List Check);
 oI 1 a <|
 oA c 240 <|
 oC f <|
 oC g <|
 oC d <|
 oC h <|
 oC i <|
 .zy (xL (c.length+1) 0 (c.length+1) B.length) <|
 oE f <|
 oE g <|
 oE d <|
 oE h <|
 oE i <|
 .zy ((c.length+1)=B.length) <|
 .ret (I,((),(f,(g,(d,(h,(i,B))))))))
  (T.bind (jj a 3) λ(J,K) =>
 T.bind (.ite (!K)
  (oY f g d h i c <|
 .ret (true,A))
  (oI 0 a <|
 .ite (!(zi (nth a 0 (zn .str)) [114,117,108,101]))
  (oY f g d h i c <|
 .ret (true,A))
  (oI 1 a <|
 T.bind (uS (nth a 1 (zn .str))) λL =>
 .ite (decide (L<0))
  (oY f g d h i c <|
 .ret (true,A))
  (oI 2 a <|
 T.bind (xj (nth a 2 (zn .str))) λM =>
 oY f g d h i c <|
 .ret ((!M),A)))):T ((Bool×(Unit)×(List Switch)×(List Param)×(List qq)×(List Field)×(List qk)×(List Check)))) λ(N,S,k,l,m,n,e,o) =>
 .ite N
  (oY k l m n e o <|
 .ret (2,((),(k,(l,(m,(n,(e,o))))))))
  (.zy (vj (zI (j+1)) (b.length:Int) b.length) <|
 T.bind (cB (qC (zI (j+1)) (b.length:Int) b)) λ(s,t,O,D) =>
 .ite ((D==0)&&(O != 0))
  (oY k l m n e o <|
 .ret (2,((),(k,(l,(m,(n,(e,o))))))))
  (oI 2 a <|
 oI 1 a <|
 T.bind (uS (nth a 1 (zn .str))) λP=>let C:=e++([((nth a 2 (zn .str)),(P,(J,((Expr.mk (Expr.kind s) ((Expr.num s).1,((Expr.num s).2.1,((Expr.num s).2.2.1,()))) (Expr.name s) (Expr.kids s)),((Expr.mk (Expr.kind t) ((Expr.num t).1,((Expr.num t).2.1,((Expr.num t).2.2.1,()))) (Expr.name t) (Expr.kids t)),())))))]:List qk);
 oA e 248 <|
 oC k <|
 oC l <|
 oC m <|
 oC n <|
 .zy (xL (e.length+1) 0 (e.length+1) C.length) <|
 oC o <|
 oE k <|
 oE l <|
 oE m <|
 oE n <|
 .zy ((e.length+1)=C.length) <|
 oE o <|
 .ret (D,((),(k,(l,(m,(n,(C,o)))))))))))
def iA(ab:zd)(a:(List zd))(ag:(Unit))(d:(List Switch))(e:(List Param))(c:(List qq))(b:(List Field))(f:(List qk))(g:(List Check)):T (Int×(Unit)×(List Switch)×(List Param)×(List qq)×(List Field)×(List qk)×(List Check)) :=
 let l:=nth a 0 (zn .str); let m:=nth a 1 (zn .str); let h:=((),(d,(e,(c,(b,(f,g))))));  oI 0 a <|
 .ite (zi l [115,119,105,116,99,104])
  (T.bind (.ite ((a.length:Int)==3)
  (oI 1 a <|
 T.bind (xj m) λO =>
 .ite O
  (oI 2 a <|
 .ite (zi (nth a 2 (zn .str)) [111,110])
  (oY d e c b f g <|
 .ret (true,h))
  (oI 2 a <|
 oY d e c b f g <|
 .ret ((zi (nth a 2 (zn .str)) [111,102,102]),h)))
  (oY d e c b f g <|
 .ret (false,h)))
  (oY d e c b f g <|
 .ret (false,h)):T ((Bool×(Unit)×(List Switch)×(List Param)×(List qq)×(List Field)×(List qk)×(List Check)))) λ(P,ac,i,n,o,p,q,r)=>let E:=i++([(m,((zi (nth a 2 (zn .str)) [111,110]),()))]:List Switch);
 .ite P
  (oI 1 a <|
 oI 2 a <|
 oA i 24 <|
 .zy (xL (i.length+1) 0 (i.length+1) E.length) <|
 oC n <|
 oC o <|
 oC p <|
 oC q <|
 oC r <|
 .zy ((i.length+1)=E.length) <|
 oE n <|
 oE o <|
 oE p <|
 oE q <|
 oE r <|
 .ret (0,((),(E,(n,(o,(p,(q,r))))))))
  (oY i n o p q r <|
 .ret (2,((),(i,(n,(o,(p,(q,r)))))))))
  (.ite (zi l [112,97,114,97,109])
  (T.bind (.ite ((a.length:Int)==3)
  (oI 1 a <|
 T.bind (xj m) λR =>
 oY d e c b f g <|
 .ret (R,h))
  (oY d e c b f g <|
 .ret (false,h)):T ((Bool×(Unit)×(List Switch)×(List Param)×(List qq)×(List Field)×(List qk)×(List Check)))) λ(S,ad,s,j,t,u,v,w) =>
 .ite S
  (oI 2 a <|
 T.bind (ki (nth a 2 (zn .str))) λ(C,U)=>let G:=j++([(m,((C.1,(C.2.1,(C.2.2.1,()))),()))]:List Param);
 oI 1 a <|
 oA j 72 <|
 oC s <|
 .zy (xL (j.length+1) 0 (j.length+1) G.length) <|
 oC t <|
 oC u <|
 oC v <|
 oC w <|
 oE s <|
 .zy ((j.length+1)=G.length) <|
 oE t <|
 oE u <|
 oE v <|
 oE w <|
 .ret ((Vi 2 U),((),(s,(G,(t,(u,(v,w))))))))
  (oY s j t u v w <|
 .ret (2,((),(s,(j,(t,(u,(v,w)))))))))
  (.ite (zi l [112,97,103,101])
  (T.bind (jj a 2) λ(V,W) =>
 T.bind (.ite W
  (oI 1 a <|
 T.bind (xj m) λX =>
 oY d e c b f g <|
 .ret (X,h))
  (oY d e c b f g <|
 .ret (false,h)):T ((Bool×(Unit)×(List Switch)×(List Param)×(List qq)×(List Field)×(List qk)×(List Check)))) λ(Y,ae,x,y,k,z,A,B)=>let H:=k++([(m,(V,()))]:List qq);
 .ite Y
  (oI 1 a <|
 oA k 32 <|
 oC x <|
 oC y <|
 .zy (xL (k.length+1) 0 (k.length+1) H.length) <|
 oC z <|
 oC A <|
 oC B <|
 oE x <|
 oE y <|
 .zy ((k.length+1)=H.length) <|
 oE z <|
 oE A <|
 oE B <|
 .ret (0,((),(x,(y,(H,(z,(A,B))))))))
  (oY x y k z A B <|
 .ret (2,((),(x,(y,(k,(z,(A,B)))))))))
  (.ite (zi l [102,105,101,108,100])
  (T.bind (kK a (zI ((c.length:Int)-1))) λ(D,Z) =>
 .ite Z
  (oA b 40 <|
 oC d <|
 oC e <|
 oC c <|
 .zy (xL (b.length+1) 0 (b.length+1) (b++[D]).length) <|
 oC f <|
 oC g <|
 oE d <|
 oE e <|
 oE c <|
 .zy ((b.length+1)=(b++[D]).length) <|
 oE f <|
 oE g <|
 .ret (0,((),(d,(e,(c,((b++[D]),(f,g))))))))
  (oY d e c b f g <|
 .ret (2,h)))
  (.ite (bif (zi l [99,104,101,99,107])then(zi l [99,104,101,99,107])else(zi l [114,117,108,101]))
  (oY d e c b f g <|
 T.bind (dN ab () d e c b f g) λ(aa,af,I,J,K,L,M,N) =>
 oY I J K L M N <|
 .ret (aa,((),(I,(J,(K,(L,(M,N))))))))
  (oY d e c b f g <|
 .ret (2,h))))))
def fM(a:zd):T Bool :=
 .ite (zi a [])
  (.ret true)
  (T.bind (xj a) λb =>
 .ret b)
def yJ(c:Form):(Int×Int)->T ((Int×Int)⊕(Unit⊕Bool))
 | (g,b)=>let a:=nth c.2.2.2.1 b (zn zw);
 .ite (decide (b<(c.2.2.2.1.length:Int)))
  (oI b c.2.2.2.1 <|
 T.bind (.ite (decide (a.2.1<g))
  (.ret (true,a))
  (.ite (decide ((c.2.2.1.length:Int)<=a.2.1))
  (.ret (true,a))
  (T.bind (xj a.1) λd =>
 .ite (!d)
  (.ret (true,a))
  (.ite (decide (a.2.2.2.1<(0:Int)))
  (.ret (true,a))
  (.ret ((decide ((9:Int)<a.2.2.2.1)),a))))):T ((Bool×Field))) λ(e,f) =>
 .ite e
  (.ret (.inr (.inr false)))
  (.ret (.inl (f.2.1,(zI (b+1))))))
  (.ret (.inr (.inl ())))
def tJ f1 s:=T.loop (yJ f1) s
def yC(c:Form):(Int×Int)->T ((Int×Int)⊕(Unit⊕Bool))
 | (i,b)=>let a:=nth c.2.2.2.2.2.1 b (zn zF);
 .ite (decide (b<(c.2.2.2.2.2.1.length:Int)))
  (oI b c.2.2.2.2.2.1 <|
 T.bind (.ite (decide (a.2.1<i))
  (.ret (true,a))
  (.ite (decide ((c.2.2.1.length:Int)<=a.2.1))
  (.ret (true,a))
  (T.bind (xj a.1) λd =>
 .ite (!d)
  (.ret (true,a))
  (.ite (decide (a.2.2.1<(0:Int)))
  (.ret (true,a))
  (.ite (decide ((2:Int)<a.2.2.1))
  (.ret (true,a))
  (T.bind (yQ (Expr.mk (Expr.kind a.2.2.2.1) ((Expr.num a.2.2.2.1).1,((Expr.num a.2.2.2.1).2.1,((Expr.num a.2.2.2.1).2.2.1,()))) (Expr.name a.2.2.2.1) (Expr.kids a.2.2.2.1))) λe =>
 .ite (!e)
  (.ret (true,a))
  (T.bind (yQ (Expr.mk (Expr.kind a.2.2.2.2.1) ((Expr.num a.2.2.2.2.1).1,((Expr.num a.2.2.2.2.1).2.1,((Expr.num a.2.2.2.2.1).2.2.1,()))) (Expr.name a.2.2.2.2.1) (Expr.kids a.2.2.2.2.1))) λf =>
 .ret ((!f),a))))))):T ((Bool×Check))) λ(g,h) =>
 .ite g
  (.ret (.inr (.inr false)))
  (.ret (.inl (h.2.1,(zI (b+1))))))
  (.ret (.inr (.inl ())))
def tQ f2 s:=T.loop (yC f2) s
def nH(a:Form):T Bool :=
 T.bind (tJ a (0,0)) <|
 Sum.elim (λ_ =>
 T.bind (tQ a (0,0)) <|
 Sum.elim (λ_ =>
 .ret true)
  (λb =>
 .ret b))
  (λc =>
 .ret c)
def ni(e:Rat):T zd :=
 T.bind (ja e) λa =>
 T.bind (eI a.1) λb =>
 T.bind (cn a.2.1) λc =>
 oK b c <|
 .zy ((((a.2.2.1.length:Int) != 1)=false)->(q9 0 a.2.2.1.length)) <|
 .ite (((a.2.2.1.length:Int) != 1)||((nth a.2.2.1 0 (zn (.int .u32))) != 1))
  (oK (cat b c) [47] <|
 T.bind (cn a.2.2.1) λd =>
 oK (cat (cat b c) [47]) d <|
 .ret (cat (cat (cat b c) [47]) d))
  (.ret (cat b c))
def sq(a:zd):T zd :=
 .ite (zi a [])
  (.ret [])
  (oK [32,119,104,101,110,32] a <|
 .ret (cat [32,119,104,101,110,32] a))
def n9(a:Field):T zd :=
 let c:=cat [102,105,101,108,100,32] a.1; let b:=bif a.2.2.1 then(cat c [32,109,117,115,116])else c; let d:=cat (cat b [32,115,99,97,108,101,32]) (qO ([(Gd (zI (48+a.2.2.2.1)))]:List Int));  oK [102,105,101,108,100,32] a.1 <|
 .zy ((a.2.2.1=true)->((c.length+([32,109,117,115,116]:zd).length)<=4611686018427387904)) <|
 .ite (a.2.2.2.1 != 0)
  (oK b [32,115,99,97,108,101,32] <|
 oK (cat b [32,115,99,97,108,101,32]) (qO ([(Gd (zI (48+a.2.2.2.1)))]:List Int)) <|
 oK d [10] <|
 .ret (cat d [10]))
  (oK b [10] <|
 .ret (cat b [10]))
def rO(a:Int):T Int :=
 .ite (bif (a==3)then(a==3)else(a==4))
  (.ret 1)
  (.ite (bif (a==5)then(a==5)else(a==6))
  (.ret 2)
  (.ite (a==7)
  (.ret 3)
  (.ret 4)))
def iv(b:AM.Expr->Int->T zd)(a:AM.Expr)(q:Int):T zd :=
 let e:=nth (Expr.kids a) 1 (zn .expr); let c:=nth (Expr.kids a) 0 (zn .expr);  T.bind (.ite ((Expr.kind a)==1)
  (T.bind (cv (Expr.num a)) λ(o,r) =>
 .ret o)
  (.ite ((Expr.kind a)==2)
  (.ret (Expr.name a))
  (.ite ((Expr.kind a)==7)
  (oI 0 (Expr.kids a) <|
 T.bind (b c 3) λj =>
 oK [45] j <|
 .ret (cat [45] j))
  (.ite ((Expr.kind a)==3)
  (oI 0 (Expr.kids a) <|
 T.bind (b c 1) λf =>
 oK f [32,43,32] <|
 oI 1 (Expr.kids a) <|
 T.bind (b e 2) λk =>
 oK (cat f [32,43,32]) k <|
 .ret (cat (cat f [32,43,32]) k))
  (.ite ((Expr.kind a)==4)
  (oI 0 (Expr.kids a) <|
 T.bind (b c 1) λg =>
 oK g [32,45,32] <|
 oI 1 (Expr.kids a) <|
 T.bind (b e 2) λl =>
 oK (cat g [32,45,32]) l <|
 .ret (cat (cat g [32,45,32]) l))
  (.ite ((Expr.kind a)==5)
  (oI 0 (Expr.kids a) <|
 T.bind (b c 2) λh =>
 oK h [32,42,32] <|
 oI 1 (Expr.kids a) <|
 T.bind (b e 3) λm =>
 oK (cat h [32,42,32]) m <|
 .ret (cat (cat h [32,42,32]) m))
  (.ite ((Expr.kind a)==6)
  (oI 0 (Expr.kids a) <|
 T.bind (b c 2) λi =>
 oK i [32,47,32] <|
 oI 1 (Expr.kids a) <|
 T.bind (b e 3) λn =>
 oK (cat i [32,47,32]) n <|
 .ret (cat (cat i [32,47,32]) n))
  (.ret []))))))):T (zd)) λd =>
 T.bind (rO (Expr.kind a)) λp =>
 .ite (decide (p<q))
  (oK [40] d <|
 oK (cat [40] d) [41] <|
 .ret (cat (cat [40] d) [41]))
  (.ret d)
def sP(e:AM.Expr)(asks:Int):T zd:=T.fix (λF x=>iv (λy0 y1=>F (y0,y1)) x.1 x.2) (e,asks)
def gB(a:AM.Expr):T zd :=
 T.bind (yQ a) λb =>
 .ite (!b)
  (.ret [])
  (T.bind (sP a 1) λc =>
 .ret c)
def ZS(a:Int):T zd :=
 .ite (a==1)
  (.ret [60])
  (.ite (a==2)
  (.ret [60,61])
  (.ret [61]))
def bK(b:Form):(zd×Int)->T ((zd×Int)⊕(zd))
 | (d,a)=>let e:=cat d [115,119,105,116,99,104,32]; let c:=nth b.1 a (zn zu); let f:=bif c.2.1 then[32,111,110,10]else[32,111,102,102,10];
 .ite (decide (a<(b.1.length:Int)))
  (oI a b.1 <|
 oK d [115,119,105,116,99,104,32] <|
 oI a b.1 <|
 oK e c.1 <|
 oK (cat e c.1) f <|
 .ret (.inl ((cat (cat e c.1) f),(zI (a+1)))))
  (.ret (.inr d))
def Qf f1 s:=T.loop (bK f1) s
def bY(b:Form):(zd×Int)->T ((zd×Int)⊕(zd))
 | (c,a)=>let d:=cat (cat c [112,97,114,97,109,32]) (nth b.2.1 a (zn zD)).1;
 .ite (decide (a<(b.2.1.length:Int)))
  (oK c [112,97,114,97,109,32] <|
 oI a b.2.1 <|
 oK (cat c [112,97,114,97,109,32]) (nth b.2.1 a (zn zD)).1 <|
 oK d [32] <|
 oI a b.2.1 <|
 T.bind (ni (nth b.2.1 a (zn zD)).2.1) λe =>
 oK (cat d [32]) e <|
 oK (cat (cat d [32]) e) [10] <|
 .ret (.inl ((cat (cat (cat d [32]) e) [10]),(zI (a+1)))))
  (.ret (.inr c))
def QT f2 s:=T.loop (bY f2) s
def ba(b:Form)(e:Int):(zd×Int)->T ((zd×Int)⊕(zd))
 | (c,a) =>
 .ite (decide (a<(b.2.2.2.1.length:Int)))
  (oI a b.2.2.2.1 <|
 .ite ((nth b.2.2.2.1 a (zn zw)).2.1==e)
  (oI a b.2.2.2.1 <|
 T.bind (n9 (nth b.2.2.2.1 a (zn zw))) λd =>
 oK c d <|
 .ret (.inl ((cat c d),(zI (a+1)))))
  (.ret (.inl (c,(zI (a+1))))))
  (.ret (.inr c))
def Xd f4 i3 s:=T.loop (ba f4 i3) s
def bw(h:Form)(k:Int):(zd×Int)->T ((zd×Int)⊕(zd))
 | (e,c)=>let i:=cat e [99,104,101,99,107,32]; let a:=nth h.2.2.2.2.2.1 c (zn zF); let j:=cat (cat i a.1) [32,58,32];
 .ite (decide (c<(h.2.2.2.2.2.1.length:Int)))
  (oI c h.2.2.2.2.2.1 <|
 .ite (a.2.1==k)
  (oK e [99,104,101,99,107,32] <|
 oK i a.1 <|
 oK (cat i a.1) [32,58,32] <|
 T.bind (gB (Expr.mk (Expr.kind a.2.2.2.1) ((Expr.num a.2.2.2.1).1,((Expr.num a.2.2.2.1).2.1,((Expr.num a.2.2.2.1).2.2.1,()))) (Expr.name a.2.2.2.1) (Expr.kids a.2.2.2.1))) λf=>let d:=cat (cat j f) [32];
 oK j f <|
 oK (cat j f) [32] <|
 T.bind (ZS a.2.2.1) λb =>
 oK d b <|
 oK (cat d b) [32] <|
 T.bind (gB (Expr.mk (Expr.kind a.2.2.2.2.1) ((Expr.num a.2.2.2.2.1).1,((Expr.num a.2.2.2.2.1).2.1,((Expr.num a.2.2.2.2.1).2.2.1,()))) (Expr.name a.2.2.2.2.1) (Expr.kids a.2.2.2.2.1))) λg =>
 oK (cat (cat d b) [32]) g <|
 oK (cat (cat (cat d b) [32]) g) [10] <|
 .ret (.inl ((cat (cat (cat (cat d b) [32]) g) [10]),(zI (c+1)))))
  (.ret (.inl (e,(zI (c+1))))))
  (.ret (.inr e))
def ZP f5 i4 s:=T.loop (bw f5 i4) s
def br(b:Form):(zd×Int)->T ((zd×Int)⊕(zd))
 | (c,a)=>let e:=cat (cat c [112,97,103,101,32]) (nth b.2.2.1 a (zn zO)).1;
 .ite (decide (a<(b.2.2.1.length:Int)))
  (oK c [112,97,103,101,32] <|
 oI a b.2.2.1 <|
 oK (cat c [112,97,103,101,32]) (nth b.2.2.1 a (zn zO)).1 <|
 oI a b.2.2.1 <|
 T.bind (sq (nth b.2.2.1 a (zn zO)).2.1) λd =>
 oK e d <|
 oK (cat e d) [10] <|
 T.bind (Xd b a ((cat (cat e d) [10]),0)) λf =>
 T.bind (ZP b a (f,0)) λg =>
 .ret (.inl (g,(zI (a+1)))))
  (.ret (.inr c))
def QQ f3 s:=T.loop (br f3) s
def bp(i:Form):(zd×Int)->T ((zd×Int)⊕(zd))
 | (h,c)=>let d:=cat h [114,117,108,101,32]; let a:=nth i.2.2.2.2.1 c (zn zY);
 .ite (decide (c<(i.2.2.2.2.1.length:Int)))
  (oI c i.2.2.2.2.1 <|
 oK h [114,117,108,101,32] <|
 T.bind (yK a.2.1) λb=>let j:=cat (cat (cat d b) [32]) a.1;
 oK d b <|
 oK (cat d b) [32] <|
 oK (cat (cat d b) [32]) a.1 <|
 T.bind (sq a.2.2.1) λe=>let k:=cat (cat j e) [32,58,32];
 oK j e <|
 oK (cat j e) [32,58,32] <|
 T.bind (gB (Expr.mk (Expr.kind a.2.2.2.1) ((Expr.num a.2.2.2.1).1,((Expr.num a.2.2.2.1).2.1,((Expr.num a.2.2.2.1).2.2.1,()))) (Expr.name a.2.2.2.1) (Expr.kids a.2.2.2.1))) λf=>let l:=cat (cat k f) [32,61,32];
 oK k f <|
 oK (cat k f) [32,61,32] <|
 T.bind (gB (Expr.mk (Expr.kind a.2.2.2.2.1) ((Expr.num a.2.2.2.2.1).1,((Expr.num a.2.2.2.2.1).2.1,((Expr.num a.2.2.2.2.1).2.2.1,()))) (Expr.name a.2.2.2.2.1) (Expr.kids a.2.2.2.2.1))) λg =>
 oK l g <|
 oK (cat l g) [10] <|
 .ret (.inl ((cat (cat l g) [10]),(zI (c+1)))))
  (.ret (.inr h))
def ZT f6 s:=T.loop (bp f6) s
def sI(a:Form):T zd :=
 T.bind (Qf a ([],0)) λb =>
 T.bind (QT a (b,0)) λc =>
 T.bind (QQ a (c,0)) λd =>
 T.bind (ZT a (d,0)) λe =>
 .ret e
def fR(b:Form):Int->T (Int⊕(Unit⊕Bool))
 | a =>
 .ite (decide (a<(b.1.length:Int)))
  (oI a b.1 <|
 T.bind (xj (nth b.1 a (zn zu)).1) λc =>
 .ite (!c)
  (.ret (.inr (.inr false)))
  (.ret (.inl (zI (a+1)))))
  (.ret (.inr (.inl ())))
def Uj f1 s:=T.loop (fR f1) s
def fT(b:Form):Int->T (Int⊕(Unit⊕Bool))
 | a =>
 .ite (decide (a<(b.2.1.length:Int)))
  (T.bind (oI a b.2.1 <|
 T.bind (xj (nth b.2.1 a (zn zD)).1) λc =>
 .ite (!c)
  (.ret true)
  (oI a b.2.1 <|
 T.bind (eH (nth b.2.1 a (zn zD)).2.1) λd =>
 .ret (!d)):T (Bool)) λe =>
 .ite e
  (.ret (.inr (.inr false)))
  (.ret (.inl (zI (a+1)))))
  (.ret (.inr (.inl ())))
def UF f2 s:=T.loop (fT f2) s
def eR(b:Form):Int->T (Int⊕(Unit⊕Bool))
 | a =>
 .ite (decide (a<(b.2.2.1.length:Int)))
  (T.bind (oI a b.2.2.1 <|
 T.bind (xj (nth b.2.2.1 a (zn zO)).1) λc =>
 .ite (!c)
  (.ret true)
  (oI a b.2.2.1 <|
 T.bind (fM (nth b.2.2.1 a (zn zO)).2.1) λd =>
 .ret (!d)):T (Bool)) λe =>
 .ite e
  (.ret (.inr (.inr false)))
  (.ret (.inl (zI (a+1)))))
  (.ret (.inr (.inl ())))
def Jp f3 s:=T.loop (eR f3) s
def fV(c:Form):Int->T (Int⊕(Unit⊕Bool))
 | b=>let a:=nth c.2.2.2.2.1 b (zn zY);
 .ite (decide (b<(c.2.2.2.2.1.length:Int)))
  (oI b c.2.2.2.2.1 <|
 T.bind (T.bind (xj a.1) λd =>
 .ite (!d)
  (.ret (true,a))
  (T.bind (fM a.2.2.1) λe =>
 .ite (!e)
  (.ret (true,a))
  (.ite (decide (a.2.1<(0:Int)))
  (.ret (true,a))
  (.ite (decide ((3:Int)<a.2.1))
  (.ret (true,a))
  (T.bind (yQ (Expr.mk (Expr.kind a.2.2.2.1) ((Expr.num a.2.2.2.1).1,((Expr.num a.2.2.2.1).2.1,((Expr.num a.2.2.2.1).2.2.1,()))) (Expr.name a.2.2.2.1) (Expr.kids a.2.2.2.1))) λf =>
 .ite (!f)
  (.ret (true,a))
  (T.bind (yQ (Expr.mk (Expr.kind a.2.2.2.2.1) ((Expr.num a.2.2.2.2.1).1,((Expr.num a.2.2.2.2.1).2.1,((Expr.num a.2.2.2.2.1).2.2.1,()))) (Expr.name a.2.2.2.2.1) (Expr.kids a.2.2.2.2.1))) λg =>
 .ret ((!g),a)))))):T ((Bool×qk))) λ(h,i) =>
 .ite h
  (.ret (.inr (.inr false)))
  (.ret (.inl (zI (b+1)))))
  (.ret (.inr (.inl ())))
def Ua f4 s:=T.loop (fV f4) s
def Qn(a:Form):T Bool :=
 T.bind (Uj a 0) <|
 Sum.elim (λ_ =>
 T.bind (UF a 0) <|
 Sum.elim (λ_ =>
 T.bind (Jp a 0) <|
 Sum.elim (λ_ =>
 T.bind (Ua a 0) <|
 Sum.elim (λ_ =>
 T.bind (nH a) λb =>
 .ite b
  (T.bind (sI a) λc =>
 .ret (decide ((c.length:Int)<=16384)))
  (.ret false))
  (λd =>
 .ret d))
  (λe =>
 .ret e))
  (λf =>
 .ret f))
  (λg =>
 .ret g)
def wj(n:zd):(Int×Int×Int×(Unit)×(Unit)×(List Switch)×(List Switch)×(List Param)×(List Param)×(List qq)×(List qq)×(List Field)×(List Field)×(List Check)×(List Check)×(List qk)×(List qk))->T ((Int×Int×Int×(Unit)×(Unit)×(List Switch)×(List Switch)×(List Param)×(List Param)×(List qq)×(List qq)×(List Field)×(List Field)×(List Check)×(List Check)×(List qk)×(List qk))⊕(((Unit)×(Unit)×(List Switch)×(List Switch)×(List Param)×(List Param)×(List qq)×(List qq)×(List Field)×(List Field)×(List Check)×(List Check)×(List qk)×(List qk))⊕(Int×Int×Form×(Unit)×(List Switch)×(List Switch)×(List Param)×(List Param)×(List qq)×(List qq)×(List Field)×(List Field)×(List Check)×(List Check)×(List qk)×(List qk))))
 | (v,P,a,ai,aj,b,h,c,i,d,j,e,k,f,l,g,m)=>let R:=((),((),(b,(h,(c,(i,(d,(j,(e,(k,(f,(l,(g,m)))))))))))));
 .ite (decide (a<=(n.length:Int)))
  (.zy (((decide (a<(n.length:Int)))=true)->(q9 a n.length)) <|
 .ite ((decide (a<(n.length:Int)))&&((zt n a) != 10))
  (oV b c d e g f <|
 oV h i j k m l <|
 oW b h c i d j <|
 oW e k f l g m <|
 .ret (.inl (v,(P,((zI (a+1)),R)))))
  (.zy (vj v a n.length) <|
 T.bind (eM (qC v a n)) λo =>
 T.bind (.zy (((decide (0<(o.length:Int)))=true)->((q9 0 o.length)/\(q9 0 (nth o 0 (zn .str)).length))) <|
 .ite ((decide (0<(o.length:Int)))&&((zt (nth o 0 (zn .str)) 0) != 35))
  (.zy (vj v a n.length) <|
 oY h i j k m l <|
 T.bind (iA (qC v a n) o () h i j k m l) λ(S,ae,p,q,r,s,t,u)=>let aa:=((),(b,(p,(c,(q,(d,(r,(e,(s,(f,(u,(g,t))))))))))));
 .ite (S != 0)
  (oV p q r s t u <|
 oW b p c q d r <|
 oW e s f u g t <|
 .ret (.inr (P,(S,((([]:List Switch),(([]:List Param),(([]:List qq),(([]:List Field),(([]:List qk),(([]:List Check),())))))),aa)))))
  (oV b c d e g f <|
 oV p q r s t u <|
 oW b p c q d r <|
 oW e s f u g t <|
 .ret (.inl ((),aa))))
  (oV b c d e g f <|
 oV h i j k m l <|
 oW b h c i d j <|
 oW e k f l g m <|
 .ret (.inl R)):T (((Unit)×(Unit)×(List Switch)×(List Switch)×(List Param)×(List Param)×(List qq)×(List qq)×(List Field)×(List Field)×(List Check)×(List Check)×(List qk)×(List qk))⊕(Int×Int×Form×(Unit)×(List Switch)×(List Switch)×(List Param)×(List Param)×(List qq)×(List qq)×(List Field)×(List Field)×(List Check)×(List Check)×(List qk)×(List qk)))) <|
 Sum.elim (λ(af,ag,w,x,y,z,A,B,C,D,E,G,H,I) =>
 oV w y A C H E <|
 oV x z B D I G <|
 oW w x y z A B <|
 oW C D E G H I <|
 .ret (.inl ((zI (a+1)),((zI (P+1)),((zI (a+1)),((),((),(w,(x,(y,(z,(A,(B,(C,(D,(E,(G,(H,I))))))))))))))))))
  (λ(ab,ac,ad,ah,U,J,V,K,W,L,X,M,Y,N,Z,O) =>
 oV J K L M O N <|
 oW U J V K W L <|
 oW X M Y N Z O <|
 .ret (.inr (.inr (ab,(ac,(ad,((),(U,(J,(V,(K,(W,(L,(X,(M,(Y,(N,(Z,O))))))))))))))))))))
  (oV b c d e g f <|
 oV h i j k m l <|
 oW b h c i d j <|
 oW e k f l g m <|
 .ret (.inr (.inl R)))
def lI s1 s:=T.loop (wj s1) s
def fJ(g:zd):T (Form×Int×Int) :=
 .ite (decide (16384<(g.length:Int)))
  (.ret ((([]:List Switch),(([]:List Param),(([]:List qq),(([]:List Field),(([]:List qk),(([]:List Check),())))))),(0,3)))
  (.zy (xL 0 0 0 0) <|
 .zy (xL 0 0 0 0) <|
 .zy (xL 0 0 0 0) <|
 .zy (xL 0 0 0 0) <|
 .zy (xL 0 0 0 0) <|
 .zy (xL 0 0 0 0) <|
 .zy (xL 0 0 0 0) <|
 .zy (xL 0 0 0 0) <|
 .zy (xL 0 0 0 0) <|
 .zy (xL 0 0 0 0) <|
 .zy (xL 0 0 0 0) <|
 oZ <|
 .zy (0=0) <|
 .zy (0=0) <|
 .zy (0=0) <|
 .zy (0=0) <|
 .zy (0=0) <|
 .zy (0=0) <|
 .zy (0=0) <|
 .zy (0=0) <|
 .zy (0=0) <|
 .zy (0=0) <|
 .zy (0=0) <|
 T.bind (lI g (0,(1,(0,((),((),([],([],([],([],([],([],([],([],([],([],([],[]))))))))))))))))) <|
 Sum.elim (λ(m,n,o,a,p,b,q,c,r,d,s,e,t,f)=>let h:=((List.drop 0 (List.take (0+a.length) a)),((List.drop 0 (List.take (0+b.length) b)),((List.drop 0 (List.take (0+c.length) c)),((List.drop 0 (List.take (0+d.length) d)),((List.drop 0 (List.take (0+f.length) f)),((List.drop 0 (List.take (0+e.length) e)),()))))));
 oW a b c d f e <|
 T.bind (Qn h) λi =>
 .ite (!i)
  (.ret ((([]:List Switch),(([]:List Param),(([]:List qq),(([]:List Field),(([]:List qk),(([]:List Check),())))))),(0,2)))
  (oW a b c d f e <|
 .ret (h,(0,0))))
  (λ(j,k,l,u,v,w,x,y,z,A,B,C,D,E,G,H) =>
 .ret (l,(j,k))))
def ct(e:Rat)(f:Rat):T Bool :=
 T.bind (ja e) λa =>
 T.bind (ja f) λb =>
 .ite (a.1==b.1)
  (T.bind (gq a.2.1 b.2.1) λc =>
 .ite c
  (T.bind (gq a.2.2.1 b.2.2.1) λd =>
 .ret d)
  (.ret false))
  (.ret false)
def bS(e:AM.Expr->AM.Expr->T Bool)(b:AM.Expr)(c:AM.Expr):Int->T (Int⊕(Unit⊕Bool))
 | a =>
 .ite (decide (a<((Expr.kids b).length:Int)))
  (oI a (Expr.kids b) <|
 oI a (Expr.kids c) <|
 T.bind (e (nth (Expr.kids b) a (zn .expr)) (nth (Expr.kids c) a (zn .expr))) λd =>
 .ite (!d)
  (.ret (.inr (.inr false)))
  (.ret (.inl (zI (a+1)))))
  (.ret (.inr (.inl ())))
def ZN self_ref5_Same a1 b1 s:=T.loop (bS self_ref5_Same a1 b1) s
def ry(f:AM.Expr->AM.Expr->T Bool)(a:AM.Expr)(b:AM.Expr):T Bool :=
 T.bind (.ite ((Expr.kind a) != (Expr.kind b))
  (.ret true)
  (.ite (!(zi (Expr.name a) (Expr.name b)))
  (.ret true)
  (T.bind (ct (Expr.num a) (Expr.num b)) λc =>
 .ite (!c)
  (.ret true)
  (.ret (((Expr.kids a).length:Int) != ((Expr.kids b).length:Int))))):T (Bool)) λd =>
 .ite d
  (.ret false)
  (T.bind (ZN f a b 0) <|
 Sum.elim (λ_ =>
 .ret true)
  (λe =>
 .ret e))
def eC(a:AM.Expr)(b:AM.Expr):T Bool:=T.fix (λF x=>ry (λy0 y1=>F (y0,y1)) x.1 x.2) (a,b)
def uI(b:(List qk))(c:(List qk)):Int->T (Int⊕(Unit⊕Bool))
 | a=>let d:=nth c a (zn zY); let e:=nth b a (zn zY);
 .ite (decide (a<(b.length:Int)))
  (T.bind (oI a b <|
 oI a c <|
 .ite (!(zi e.1 d.1))
  (.ret true)
  (oI a b <|
 oI a c <|
 .ite (e.2.1 != d.2.1)
  (.ret true)
  (oI a b <|
 oI a c <|
 .ite (!(zi e.2.2.1 d.2.2.1))
  (.ret true)
  (oI a b <|
 oI a c <|
 T.bind (eC e.2.2.2.1 d.2.2.2.1) λf =>
 .ite (!f)
  (.ret true)
  (oI a b <|
 oI a c <|
 T.bind (eC e.2.2.2.2.1 d.2.2.2.2.1) λg =>
 .ret (!g))))):T (Bool)) λh =>
 .ite h
  (.ret (.inr (.inr false)))
  (.ret (.inl (zI (a+1)))))
  (.ret (.inr (.inl ())))
def iF a1 b1 s:=T.loop (uI a1 b1) s
def bM(a:(List qk))(b:(List qk)):T Bool :=
 .ite ((a.length:Int) != (b.length:Int))
  (.ret false)
  (T.bind (iF a b 0) <|
 Sum.elim (λ_ =>
 .ret true)
  (λc =>
 .ret c))
def ue(b:(List Check))(c:(List Check)):Int->T (Int⊕(Unit⊕Bool))
 | a=>let d:=nth c a (zn zF); let e:=nth b a (zn zF);
 .ite (decide (a<(b.length:Int)))
  (T.bind (oI a b <|
 oI a c <|
 .ite (!(zi e.1 d.1))
  (.ret true)
  (oI a b <|
 oI a c <|
 .ite (e.2.1 != d.2.1)
  (.ret true)
  (oI a b <|
 oI a c <|
 .ite (e.2.2.1 != d.2.2.1)
  (.ret true)
  (oI a b <|
 oI a c <|
 T.bind (eC e.2.2.2.1 d.2.2.2.1) λf =>
 .ite (!f)
  (.ret true)
  (oI a b <|
 oI a c <|
 T.bind (eC e.2.2.2.2.1 d.2.2.2.2.1) λg =>
 .ret (!g))))):T (Bool)) λh =>
 .ite h
  (.ret (.inr (.inr false)))
  (.ret (.inl (zI (a+1)))))
  (.ret (.inr (.inl ())))
def fS a1 b1 s:=T.loop (ue a1 b1) s
def yX(a:(List Check))(b:(List Check)):T Bool :=
 .ite ((a.length:Int) != (b.length:Int))
  (.ret false)
  (T.bind (fS a b 0) <|
 Sum.elim (λ_ =>
 .ret true)
  (λc =>
 .ret c))
def c7(b:Form)(c:Form):Int->T (Int⊕(Unit⊕Bool))
 | a =>
 .ite (decide (a<(b.1.length:Int)))
  (oI a b.1 <|
 oI a c.1 <|
 .ite (!((zi (nth b.1 a (zn zu)).1 (nth c.1 a (zn zu)).1)&&(((nth b.1 a (zn zu)).2.1==(nth c.1 a (zn zu)).2.1)&&true)))
  (.ret (.inr (.inr false)))
  (.ret (.inl (zI (a+1)))))
  (.ret (.inr (.inl ())))
def X3 a1 b1 s:=T.loop (c7 a1 b1) s
def bW(b:Form)(c:Form):Int->T (Int⊕(Unit⊕Bool))
 | a =>
 .ite (decide (a<(b.2.1.length:Int)))
  (T.bind (oI a b.2.1 <|
 oI a c.2.1 <|
 .ite (!(zi (nth b.2.1 a (zn zD)).1 (nth c.2.1 a (zn zD)).1))
  (.ret true)
  (oI a b.2.1 <|
 oI a c.2.1 <|
 T.bind (ct (nth b.2.1 a (zn zD)).2.1 (nth c.2.1 a (zn zD)).2.1) λd =>
 .ret (!d)):T (Bool)) λe =>
 .ite e
  (.ret (.inr (.inr false)))
  (.ret (.inl (zI (a+1)))))
  (.ret (.inr (.inl ())))
def QC a2 b2 s:=T.loop (bW a2 b2) s
def bD(b:Form)(c:Form):Int->T (Int⊕(Unit⊕Bool))
 | a =>
 .ite (decide (a<(b.2.2.1.length:Int)))
  (oI a b.2.2.1 <|
 oI a c.2.2.1 <|
 .ite (!((zi (nth b.2.2.1 a (zn zO)).1 (nth c.2.2.1 a (zn zO)).1)&&((zi (nth b.2.2.1 a (zn zO)).2.1 (nth c.2.2.1 a (zn zO)).2.1)&&true)))
  (.ret (.inr (.inr false)))
  (.ret (.inl (zI (a+1)))))
  (.ret (.inr (.inl ())))
def Qg a3 b3 s:=T.loop (bD a3 b3) s
def c8(d:Form)(e:Form):Int->T (Int⊕(Unit⊕Bool))
 | a=>let b:=nth e.2.2.2.1 a (zn zw); let c:=nth d.2.2.2.1 a (zn zw);
 .ite (decide (a<(d.2.2.2.1.length:Int)))
  (oI a d.2.2.2.1 <|
 oI a e.2.2.2.1 <|
 .ite (!((zi c.1 b.1)&&((c.2.1==b.2.1)&&((c.2.2.1==b.2.2.1)&&((c.2.2.2.1==b.2.2.2.1)&&true)))))
  (.ret (.inr (.inr false)))
  (.ret (.inl (zI (a+1)))))
  (.ret (.inr (.inl ())))
def QA a4 b4 s:=T.loop (c8 a4 b4) s
def s9(a:Form)(b:Form):T Bool :=
 .ite (((a.1.length:Int) != (b.1.length:Int))||(((a.2.1.length:Int) != (b.2.1.length:Int))||(((a.2.2.1.length:Int) != (b.2.2.1.length:Int))||((a.2.2.2.1.length:Int) != (b.2.2.2.1.length:Int)))))
  (.ret false)
  (T.bind (X3 a b 0) <|
 Sum.elim (λ_ =>
 T.bind (QC a b 0) <|
 Sum.elim (λ_ =>
 T.bind (Qg a b 0) <|
 Sum.elim (λ_ =>
 T.bind (QA a b 0) <|
 Sum.elim (λ_ =>
 T.bind (bM a.2.2.2.2.1 b.2.2.2.2.1) λc =>
 .ite c
  (T.bind (yX a.2.2.2.2.2.1 b.2.2.2.2.2.1) λd =>
 .ret d)
  (.ret false))
  (λe =>
 .ret e))
  (λf =>
 .ret f))
  (λg =>
 .ret g))
  (λh =>
 .ret h))
def iH(a:Form):T zd :=
 T.bind (mv a) λb =>
 .ite (!b)
  (.ret [])
  (T.bind (cZ a) λc =>
 .ret c)
def mX  : T Bool :=
 T.bind (ko [112,97,103,101,32,112,10,102,105,101,108,100,32,32,97,32,109,117,115,116,10,114,117,108,101,32,119,101,97,107,32,114,58,97,61,50,10]) λ(a,b,c) =>
 .ite (c==0)
  (.ite (b==0)
  (T.bind (iH a) λd =>
 .ret (zi d [112,97,103,101,32,112,10,102,105,101,108,100,32,97,32,109,117,115,116,10,114,117,108,101,32,119,101,97,107,32,114,32,58,32,97,32,61,32,50,10]))
  (.ret false))
  (.ret false)
def kW(a:zd):T Bool :=
 .ite (decide (600<(a.length:Int)))
  (.ret true)
  (T.bind (ko a) λ(b,c,d) =>
 T.bind (fJ a) λ(e,f,g) =>
 T.bind (s9 b e) λh =>
 .ite h
  (.ite (c==f)
  (.ite (d==g)
  (T.bind (mX) λi =>
 .ret i)
  (.ret false))
  (.ret false))
  (.ret false))

abbrev V6:Ty:=(.cons (.int .i64) (.cons (.int .i64) .nil))
abbrev jK:=den V6
end Go.AM.Lf
