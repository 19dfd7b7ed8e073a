/-
  The program's functions as trees in plain Lean, part 0: printed by a program of ours.
-/
import Derived.Test.YthhgaidlooddpaaGreatDoorAmA
set_option linter.unusedVariables false
noncomputable section
namespace Go.AM.Lf
abbrev yO:Ty:=(.cons .str .nil)
abbrev YF:=den yO
abbrev gn:Ty:=(.cons .str (.cons (.int .u64) .nil))
abbrev tG:=den gn
abbrev zG:Ty:=(.cons .str (.cons .bool .nil))
abbrev Switch:=den zG
abbrev q9:Ty:=(.cons .str yO)
abbrev xc:=den q9
abbrev qY:Ty:=(.cons (.int .i64) (.cons (.int .i64) .nil))
abbrev zB:=den qY
abbrev hZ:Ty:=(.cons (.int .u8) (.cons (.int .u8) .nil))
abbrev Qv:=den hZ
abbrev eL:Ty:=(.cons (.int .i64) (.cons (.int .i64) (.cons .bool (.cons (.int .u8) .nil))))
abbrev K4:=den eL
abbrev yj:Ty:=(.cons .bool (.cons (.sl (.int .u32)) (.cons (.sl (.int .u32)) .nil)))
abbrev Rat:=den yj
abbrev zQ:Ty:=(.cons .str (.cons (.int .i64) (.cons .bool (.cons (.int .i64) .nil))))
abbrev Field:=den zQ
abbrev zw:Ty:=(.cons .str (.cons (.int .i64) (.cons (.int .i64) (.cons .bool .nil))))
abbrev z8:=den zw
abbrev ql:Ty:=(.cons .str (.cons (.int .i64) (.cons .str (.cons .expr (.cons .expr .nil)))))
abbrev qV:=den ql
abbrev q8:Ty:=(.cons .str (.cons (.int .i64) (.cons (.int .i64) (.cons .expr (.cons .expr .nil)))))
abbrev Check:=den q8
abbrev zV:Ty:=(.cons .str (.cons yj .nil))
abbrev Param:=den zV
abbrev QF:Ty:=(.cons .str (.cons (.int .i64) (.cons (.int .i64) (.cons (.int .i64) (.cons (.int .i64) (.cons .bool .nil))))))
abbrev OM:=den QF
abbrev uH:Ty:=(.cons (.sl zG) (.cons (.sl zV) (.cons (.sl q9) (.cons (.sl zQ) (.cons (.sl ql) (.cons (.sl q8) .nil))))))
abbrev Form:=den uH
def lA(b:UInt8):UInt8:=if b=10 then 46 else b
def lp(s:zf):T zf:=.zC (List.length s<4294967281)<|.ret (List.map lA s)
def strings_Split(a:zf)(b:zf):T (List zf) :=
 .zC (a.length<4294967281/\b.length=1) <|
 .ret (uK (List.headD b 0) a)
def strings_Cut(a:zf)(b:zf):T (zf×zf×Bool) :=
 .zC (a.length<4294967281) <|
 .ret (wm a b)
def kX(a:Int):T Bool :=
 .ret (a==32)
def strings_FieldsFunc(a:zf)(b:Int->T Bool):T (List zf) :=
 .zC (a.length<=4294967296) <|
 .ret (w7 32 [] a)
def bP(c:zf):T (List zf) :=
 T.bind (strings_FieldsFunc c (λa=>kX a)) λb =>
 .ret b
def xZ(a:Int):T Bool :=
 .ret ((decide (97<=a))&&(decide (a<=122)))
def xk(a:Int):T Bool :=
 .ret ((decide (48<=a))&&(decide (a<=57)))
def wI(a:Int):T Bool :=
 T.bind (xZ a) λb =>
 .ite b
  (.ret true)
  (T.bind (xk a) λc =>
 .ite c
  (.ret true)
  (.ret (a==95)))
def jb(b:zf)(d:Int):Int->T (Int⊕(Unit⊕Bool))
 | a =>
 .ite (decide (a<d))
  (oI a b <|
 T.bind (wI (qz b a)) λc =>
 .ite (!c)
  (.ret (.inr (.inr false)))
  (.ret (.inl (zZ (a+1)))))
  (.ret (.inr (.inl ())))
def o0 s1 x1 s:=T.loop (jb s1 x1) s
def qS(a:zf):T Bool :=
 T.bind (.ite (zk a [])
  (.ret true)
  (.ite (decide (24<(a.length:Int)))
  (.ret true)
  (oI 0 a <|
 T.bind (xZ (qz a 0)) λb =>
 .ret (!b))):T (Bool)) λc =>
 .ite c
  (.ret false)
  (T.bind (o0 a (a.length:Int) 0) <|
 Sum.elim (λ_ =>
 .ret true)
  (λd =>
 .ret d))
def strings_IndexAny(c:zf)(a:zf):T Int :=
 .zC (c.length<4294967281/\2<=a.length/\a.length<4294967281/\(∀ b∈a,b.toNat<128)) <|
 .ret (kG c a)
def xb(b:zf)(a:zf):T Bool :=
 .zC (((decide ((a.length:Int)<=(b.length:Int)))=true)->(gb 0 (a.length:Int) b.length)) <|
 .ret ((decide ((a.length:Int)<=(b.length:Int)))&&(zk (um 0 (a.length:Int) b) a))
def strings_HasPrefix(b:zf)(c:zf):T Bool :=
 T.bind (xb b c) λa =>
 .ret a
def xv  : z8->T (z8⊕(z8))
 | a =>
 .zC (((decide (a.2.1<(a.1.length:Int)))=true)->(qO a.2.1 a.1.length)) <|
 .ite ((decide (a.2.1<(a.1.length:Int)))&&((qz a.1 a.2.1)==32))
  (.ret (.inl (a.1,((zZ (a.2.1+1)),(a.2.2.1,(a.2.2.2.1,()))))))
  (.ret (.inr a))
def jZ(s:z8):T (z8):=T.loop (xv ) s
def vz(b:z8):T z8 :=
 T.bind (jZ  b) λa =>
 .ret a
def strings_IndexByte(s:zf)(c:Int):T Int:=.ret (eK s (byteOf c))
def qF(e:zf)(f:z8):T (Int×z8) :=
 T.bind (vz f) λb =>
 T.bind (.ite (decide (b.2.1<(b.1.length:Int)))
  (oI b.2.1 b.1 <|
 T.bind (strings_IndexByte e (qz b.1 b.2.1)) λc =>
 .ret ((decide (0<=c)),b))
  (.ret (false,b)):T ((Bool×z8))) λ(d,a) =>
 .ite d
  (oI (zZ ((zZ (a.2.1+1))-1)) a.1 <|
 .ret ((qz a.1 (zZ ((zZ (a.2.1+1))-1))),(a.1,((zZ (a.2.1+1)),(a.2.2.1,(a.2.2.2.1,()))))))
  (.ret (0,a))
def xn(a:Int)(b:Int)(c:z8):T (z8⊕(zB×z8)) :=
 .ret (.inr ((a,(b,())),c))
def wj(a:z8):T (z8⊕(zB×z8)) :=
 .ite (decide (32<=(zZ (a.2.2.1+1))))
  (T.bind (xn 4 (zZ (a.2.1-1)) (a.1,(a.2.1,((zZ (a.2.2.1+1)),(a.2.2.2.1,()))))) <|
 Sum.elim (λb =>
 .ret (.inl b))
  (λ(c,d) =>
 .ret (.inr (c,d))))
  (.ret (.inl (a.1,(a.2.1,((zZ (a.2.2.1+1)),(a.2.2.2.1,()))))))
def qy(e:Int->T Bool)(f:Int)(g:Int):z8->T (z8⊕(z8))
 | a =>
 T.bind (.ite (decide (a.2.1<(a.1.length:Int)))
  (.ite (decide ((zZ (a.2.1-g))<f))
  (oI a.2.1 a.1 <|
 T.bind (e (qz a.1 a.2.1)) λc =>
 .ret (c,a))
  (.ret (false,a)))
  (.ret (false,a)):T ((Bool×z8))) λ(d,b) =>
 .ite d
  (.ret (.inl (b.1,((zZ (b.2.1+1)),(b.2.2.1,(b.2.2.2.1,()))))))
  (.ret (.inr b))
def kE is most1 from_ s:=T.loop (qy is most1 from_) s
def qG(c:Int->T Bool)(d:Int)(b:z8):T (zf×z8) :=
 T.bind (kE c d b.2.1 b) λa =>
 .zC (gb b.2.1 a.2.1 a.1.length) <|
 .ret ((um b.2.1 a.2.1 a.1),a)
def strings_CutPrefix(a:zf)(b:zf):T (zf×Bool) :=
 .ret (cP a b,List.isPrefixOf b a)
def jt(c:Int):zf->T (zf⊕(zf))
 | a=>let b:=zZ ((a.length:Int)-1);
 .zC (((decide (0<(a.length:Int)))=true)->(qO b a.length)) <|
 .ite ((decide (0<(a.length:Int)))&&((qz a b)==c))
  (.zC (gb 0 b a.length) <|
 .ret (.inl (um 0 b a)))
  (.ret (.inr a))
def ca c1 s:=T.loop (jt c1) s
def strings_trimRightByte(b:zf)(c:Int):T zf :=
 T.bind (ca c b) λa =>
 .ret a
def ke(b:Int):zf->T (zf⊕(zf))
 | a =>
 .zC (((decide (0<(a.length:Int)))=true)->(qO 0 a.length)) <|
 .ite ((decide (0<(a.length:Int)))&&((qz a 0)==b))
  (.zC (gb 1 (a.length:Int) a.length) <|
 .ret (.inl (um 1 (a.length:Int) a)))
  (.ret (.inr a))
def cD c1 s:=T.loop (ke c1) s
def strings_trimLeftByte(b:zf)(c:Int):T zf :=
 T.bind (cD c b) λa =>
 .ret a
def strings_makeASCIISet(a:zf):T ((den (gA .bool 256))×Bool) :=
 .zC (a.length<4294967281/\(∀ (j:Nat) b,a[j]? = some b->b.toNat<128)) <|
 .ret (yZ a,true)
def xe(b:(den (gA .bool 256)))(a:Int):T Bool :=
 .zC (qO a 256) <|
 .ret (fO .bool (gA .bool 256) b (Int.toNat a))
def xd(d:(den (gA .bool 256))):zf->T (zf⊕(zf))
 | a=>let b:=zZ ((a.length:Int)-1);
 .ite (decide (0<(a.length:Int)))
  (oI b a <|
 T.bind (xe d (qz a b)) λc =>
 .ite (!c)
  (.ret (.inr a))
  (.zC (gb 0 b a.length) <|
 .ret (.inl (um 0 b a))))
  (.ret (.inr a))
def ji as1 s:=T.loop (xd as1) s
def wH(b:zf)(c:(den (gA .bool 256))):T zf :=
 T.bind (ji c b) λa =>
 .ret a
def xh(c:(den (gA .bool 256))):zf->T (zf⊕(zf))
 | a =>
 .ite (decide (0<(a.length:Int)))
  (oI 0 a <|
 T.bind (xe c (qz a 0)) λb =>
 .ite (!b)
  (.ret (.inr a))
  (.zC (gb 1 (a.length:Int) a.length) <|
 .ret (.inl (um 1 (a.length:Int) a))))
  (.ret (.inr a))
def jC as1 s:=T.loop (xh as1) s
def vb(b:zf)(c:(den (gA .bool 256))):T zf :=
 T.bind (jC c b) λa =>
 .ret a
def j7(b:zf)(a:zf):T zf :=
 .ite ((zk b [])||(zk a []))
  (.ret b)
  (.zC ((((a.length:Int)==1)=true)->(qO 0 a.length)) <|
 .ite (((a.length:Int)==1)&&(decide ((qz a 0)<128)))
  (oI 0 a <|
 T.bind (strings_trimRightByte b (qz a 0)) λd =>
 oI 0 a <|
 T.bind (strings_trimLeftByte d (qz a 0)) λe =>
 .ret e)
  (T.bind (strings_makeASCIISet a) λ(c,f) =>
 .ite f
  (T.bind (wH b c) λg =>
 T.bind (vb g c) λh =>
 .ret h)
  (.fail)))
def b4(a:(List Int)):T Bool :=
 .zC ((((a.length:Int)==0)=false)->(qO (zZ ((a.length:Int)-1)) a.length)) <|
 .ret (((a.length:Int)==0)||((nth a (zZ ((a.length:Int)-1)) (zq (.int .u32))) != 0))
def bL  : (List Int)->T ((List Int)⊕((List Int)))
 | a =>
 T.bind (b4 a) λb =>
 .ite (!b)
  (.zC (gb 0 (zZ ((a.length:Int)-1)) a.length) <|
 .ret (.inl (vQ (e:=(.int .u32)) 0 (zZ ((a.length:Int)-1)) a)))
  (.ret (.inr a))
def fx(s:(List Int)):T ((List Int)):=T.loop (bL ) s
def xp(b:(List Int)):T (List Int) :=
 T.bind (fx  b) λa =>
 .ret a
def dv(j:(List Int))(d:Int)(h:Int)(k:(List Int))(l:Int)(m:Int)(g:(List Int))(i:Int):(Int×Int×(List Int))->T ((Int×Int×(List Int))⊕((Int×(List Int))))
 | (f,b,a)=>let c:=0+(Int.toNat (zZ (d+b))); let e:=zS (f+(zS ((zS ((zS h)*(zS (nth g b (zq (.int .u32))))))+(zS (kR a c (zq (.int .u32)))))));
 .ite (decide (b<i))
  (oI b g <|
 oI (zZ (d+b)) a <|
 .zC (iE a.length a.length c a.length) <|
 oI (zZ (d+b)) a <|
 .zC (iE a.length a.length c a.length) <|
 .zC (0<=(32:Int)) <|
 oM a.length (List.set a c (vv e)).length <|
 .ret (.inl ((vc .u64 e 32),((zZ (b+1)),(List.set a c (vv e))))))
  (oC a <|
 oE a <|
 .ret (.inr (f,a)))
def tS b3 i v x3 x4 x5 x6 x7 s:=T.loop (dv b3 i v x3 x4 x5 x6 x7) s
def dA(d:(List Int))(e:(List Int))(h:Int):(Int×(List Int))->T ((Int×(List Int))⊕((List Int)))
 | (a,c)=>let f:=0+(Int.toNat (zZ (a+(d.length:Int))));
 .ite (decide (a<h))
  (oI a e <|
 oC c <|
 oE c <|
 T.bind (tS d a (nth e a (zq (.int .u32))) e h a d (d.length:Int) (0,(0,c))) λ(g,b) =>
 oI (zZ (a+(d.length:Int))) b <|
 .zC (iE b.length b.length f b.length) <|
 oM b.length (List.set b f (vv g)).length <|
 .ret (.inl ((zZ (a+1)),(List.set b f (vv g)))))
  (oC c <|
 oE c <|
 .ret (.inr c))
def sT b2 x x1 s:=T.loop (dA b2 x x1) s
def iO(f:(List Int))(g:(List Int)):T (List Int) :=
 T.bind (xp f) λb =>
 T.bind (xp g) λd=>let a:=zZ ((b.length:Int)+(d.length:Int));
 .zC (WA a a 4) <|
 oM (Int.toNat a) (List.replicate (Int.toNat a) (0:Int)).length <|
 T.bind (sT d b (b.length:Int) (0,(List.replicate (Int.toNat a) 0))) λc =>
 oE c <|
 T.bind (xp (List.drop 0 (List.take (0+c.length) c))) λe =>
 .ret e
def jS(a:Int):T (List Int) :=
 .zC (0<=(32:Int)) <|
 T.bind (xp ([(vv a),(vv (vc .u64 a 32))]:List Int)) λb =>
 .ret b
def dz(h:(List Int))(c:(List Int))(e:(List Int))(g:Int):(Int×Int×(List Int))->T ((Int×Int×(List Int))⊕((Int×(List Int))))
 | (d,a,b)=>let f:=bif (decide (a<(c.length:Int)))then(zS ((zS (d+(zS (nth e a (zq (.int .u32))))))+(zS (nth c a (zq (.int .u32))))))else(zS (d+(zS (nth e a (zq (.int .u32))))));
 .ite (decide (a<g))
  (oI a e <|
 .zC (((decide (a<(c.length:Int)))=true)->(qO a c.length)) <|
 oI a b <|
 .zC (iE b.length b.length (0+(Int.toNat a)) b.length) <|
 .zC (0<=(32:Int)) <|
 oM b.length (List.set b (0+(Int.toNat a)) (vv f)).length <|
 .ret (.inl ((vc .u64 f 32),((zZ (a+1)),(List.set b (0+(Int.toNat a)) (vv f))))))
  (oC b <|
 oE b <|
 .ret (.inr (d,b)))
def ZE a2 b2 x x1 s:=T.loop (dz a2 b2 x x1) s
def so(h:(List Int))(i:(List Int)):T (List Int) :=
 T.bind (xp h) λc =>
 T.bind (xp i) λd=>let e:=bif (decide ((c.length:Int)<(d.length:Int)))then d else c; let a:=(e.length:Int);
 .zC (WA (zZ (a+1)) (zZ (a+1)) 4) <|
 oM (Int.toNat (zZ (a+1))) (List.replicate (Int.toNat (zZ (a+1))) (0:Int)).length <|
 T.bind (ZE e (bif (decide ((c.length:Int)<(d.length:Int)))then c else d) e a (0,(0,(List.replicate (Int.toNat (zZ (a+1))) 0)))) λ(f,b) =>
 oI a b <|
 .zC (iE b.length b.length (0+(Int.toNat a)) b.length) <|
 oE b <|
 T.bind (xp (List.drop 0 (List.take (0+b.length) (List.set b (0+(Int.toNat a)) (vv f))))) λg =>
 .ret g
def kC(c:zf)(g:Int):((List Int)×Int)->T (((List Int)×Int)⊕((List Int)))
 | (b,a) =>
 .ite (decide (a<g))
  (T.bind (iO b ([10]:List Int)) λd =>
 oI a c <|
 T.bind (jS (zS (Lm ((qz c a)-48)))) λe =>
 T.bind (so d e) λf =>
 .ret (.inl (f,(zZ (a+1)))))
  (.ret (.inr b))
def oq s1 x1 s:=T.loop (kC s1 x1) s
def wL(a:zf):T ((List Int)×Bool) :=
 T.bind (.ite (zk a [])
  (.ret true)
  (.ite (decide (400<(a.length:Int)))
  (.ret true)
  (T.bind (j7 a [48,49,50,51,52,53,54,55,56,57]) λb =>
 .ret (!(zk b [])))):T (Bool)) λc =>
 .ite c
  (.ret ([],false))
  (T.bind (oq a (a.length:Int) ([],0)) λd =>
 .ret (d,true))
def bc(e:Int):((List Int)×Int)->T (((List Int)×Int)⊕((List Int)))
 | (a,b) =>
 .ite (decide (b<e))
  (T.bind (jS 10) λc =>
 T.bind (iO a c) λd =>
 .ret (.inl (d,(zZ (b+1)))))
  (.ret (.inr a))
def ta x s:=T.loop (bc x) s
def iJ(c:Int):T (List Int) :=
 T.bind (jS 1) λa =>
 T.bind (ta c (a,0)) λb =>
 .ret b
def wG(a:(List Int)):T (List Int) :=
 let b:=0+a.length;  .zC (a=[]->∀ r,T.leads (.zC (UH 0 0 0 0 0 a.length 4) <|
 .zC (b=b) <|
 .ret (List.drop 0 (List.take (0+b) a)):T _) r->T.leads (.ret []:T _) r) <|
 .zC (UH 0 0 0 0 0 a.length 4) <|
 .zC (b=b) <|
 .ret (List.drop 0 (List.take (0+b) a))
def yb(c:(List Int)):T (List Int) :=
 T.bind (xp c) λa =>
 T.bind (wG a) λb =>
 .ret b
def gY(b:(List Int))(c:(List Int)):Int->T (Int⊕(Unit⊕Int))
 | a =>
 .ite (decide (0<=a))
  (oI a b <|
 oI a c <|
 .ite ((nth b a (zq (.int .u32))) != (nth c a (zq (.int .u32))))
  (oI a b <|
 oI a c <|
 .ite (decide ((nth b a (zq (.int .u32)))<(nth c a (zq (.int .u32)))))
  (.ret (.inr (.inr (-1))))
  (.ret (.inr (.inr 1))))
  (.ret (.inl (zZ (a-1)))))
  (.ret (.inr (.inl ())))
def sX a2 b2 s:=T.loop (gY a2 b2) s
def dw(d:(List Int))(e:(List Int)):T Int :=
 T.bind (xp d) λa =>
 T.bind (xp e) λb =>
 .ite ((a.length:Int) != (b.length:Int))
  (.ite (decide ((a.length:Int)<(b.length:Int)))
  (.ret (-1))
  (.ret 1))
  (T.bind (sX a b (zZ ((a.length:Int)-1))) <|
 Sum.elim (λ_ =>
 .ret 0)
  (λc =>
 .ret c))
def jK(b:Int)(c:Int)(a:Int):T (Int×Int) :=
 .ite ((a != 0)&&(decide (a<=b)))
  (.fail)
  (.zC (0<=(32:Int)) <|
 .zC ((zS a)≠0) <|
 .zC ((zS a)≠0) <|
 .ret ((vv (zS (Int.tdiv (QI .u64 (cO .u64 (zS b) 32) (zS c)) (zS a)))),(vv (Int.tmod (QI .u64 (cO .u64 (zS b) 32) (zS c)) (zS a)))))
def gF(e:(List Int))(g:Int):(Int×Int×(List Int))->T ((Int×Int×(List Int))⊕((Int×(List Int))))
 | (d,b,a) =>
 .ite (decide (0<=b))
  (oI b e <|
 T.bind (jK d (nth e b (zq (.int .u32))) g) λ(c,f) =>
 oI b a <|
 .zC (iE a.length a.length (0+(Int.toNat b)) a.length) <|
 oM a.length (List.set a (0+(Int.toNat b)) c).length <|
 .ret (.inl (f,((zZ (b-1)),(List.set a (0+(Int.toNat b)) c)))))
  (oC a <|
 oE a <|
 .ret (.inr (d,a)))
def nU a1 b1 s:=T.loop (gF a1 b1) s
def gP(a:(List Int))(e:Int):T ((List Int)×Int) :=
 .zC (WA (a.length:Int) (a.length:Int) 4) <|
 oM (Int.toNat (a.length:Int)) (List.replicate (Int.toNat (a.length:Int)) (0:Int)).length <|
 T.bind (nU a e (0,((zZ ((a.length:Int)-1)),(List.replicate (Int.toNat (a.length:Int)) 0)))) λ(c,b) =>
 oE b <|
 T.bind (xp (List.drop 0 (List.take (0+b.length) b))) λd =>
 .ret (d,c)
def jI(b:Int):T Int :=
 let a:=bif (decide (65536<=b))then(vc .u32 b 16)else b;  .zC (((decide (65536<=b))=true)->(0<=(16:Int))) <|
 .zC (((decide (256<=a))=true)->(0<=(8:Int))) <|
 .zC (qO (Lm (bif (decide (256<=a))then(vc .u32 a 8)else a)) ([0,1,2,2,3,3,3,3,4,4,4,4,4,4,4,4,5,5,5,5,5,5,5,5,5,5,5,5,5,5,5,5,6,6,6,6,6,6,6,6,6,6,6,6,6,6,6,6,6,6,6,6,6,6,6,6,6,6,6,6,6,6,6,6,7,7,7,7,7,7,7,7,7,7,7,7,7,7,7,7,7,7,7,7,7,7,7,7,7,7,7,7,7,7,7,7,7,7,7,7,7,7,7,7,7,7,7,7,7,7,7,7,7,7,7,7,7,7,7,7,7,7,7,7,7,7,7,7,8,8,8,8,8,8,8,8,8,8,8,8,8,8,8,8,8,8,8,8,8,8,8,8,8,8,8,8,8,8,8,8,8,8,8,8,8,8,8,8,8,8,8,8,8,8,8,8,8,8,8,8,8,8,8,8,8,8,8,8,8,8,8,8,8,8,8,8,8,8,8,8,8,8,8,8,8,8,8,8,8,8,8,8,8,8,8,8,8,8,8,8,8,8,8,8,8,8,8,8,8,8,8,8,8,8,8,8,8,8,8,8,8,8,8,8,8,8,8,8,8,8,8,8,8,8,8,8]:zf).length) <|
 .ret (zZ ((bif (decide (256<=a))then(zZ ((bif (decide (65536<=b))then 16 else 0)+8))else(bif (decide (65536<=b))then 16 else 0))+(zZ (qz [0,1,2,2,3,3,3,3,4,4,4,4,4,4,4,4,5,5,5,5,5,5,5,5,5,5,5,5,5,5,5,5,6,6,6,6,6,6,6,6,6,6,6,6,6,6,6,6,6,6,6,6,6,6,6,6,6,6,6,6,6,6,6,6,7,7,7,7,7,7,7,7,7,7,7,7,7,7,7,7,7,7,7,7,7,7,7,7,7,7,7,7,7,7,7,7,7,7,7,7,7,7,7,7,7,7,7,7,7,7,7,7,7,7,7,7,7,7,7,7,7,7,7,7,7,7,7,7,8,8,8,8,8,8,8,8,8,8,8,8,8,8,8,8,8,8,8,8,8,8,8,8,8,8,8,8,8,8,8,8,8,8,8,8,8,8,8,8,8,8,8,8,8,8,8,8,8,8,8,8,8,8,8,8,8,8,8,8,8,8,8,8,8,8,8,8,8,8,8,8,8,8,8,8,8,8,8,8,8,8,8,8,8,8,8,8,8,8,8,8,8,8,8,8,8,8,8,8,8,8,8,8,8,8,8,8,8,8,8,8,8,8,8,8,8,8,8,8,8,8,8,8,8,8,8,8] (Lm (bif (decide (256<=a))then(vc .u32 a 8)else a))))))
def wa(b:Int):T Int :=
 T.bind (jI b) λa =>
 .ret (zZ (32-a))
def lP(e:Int)(h:Int)(f:(List Int))(i:Int):(Int×(List Int))->T ((Int×(List Int))⊕((List Int)))
 | (b,a)=>let c:=zZ (b+1); let d:=List.set a (0+(Int.toNat b)) (QI .u32 (kR a (0+(Int.toNat b)) (zq (.int .u32))) (vv (cO .u64 (zS (nth f b (zq (.int .u32)))) e))); let g:=List.set d (0+(Int.toNat c)) (vv (vc .u64 (cO .u64 (zS (nth f b (zq (.int .u32)))) e) 32));
 .ite (decide (b<i))
  (oI b f <|
 .zC (0<=e) <|
 oI b a <|
 .zC (iE a.length a.length (0+(Int.toNat b)) a.length) <|
 oI b a <|
 .zC (iE a.length a.length (0+(Int.toNat b)) a.length) <|
 .ite (decide (c<h))
  (.zC (0<=(32:Int)) <|
 oI c a <|
 .zC (iE a.length a.length (0+(Int.toNat c)) d.length) <|
 oM a.length g.length <|
 .ret (.inl (c,g)))
  (oM a.length d.length <|
 .ret (.inl (c,d))))
  (oC a <|
 oE a <|
 .ret (.inr a))
def lK by_1 n1 x x1 s:=T.loop (lP by_1 n1 x x1) s
def bz(c:(List Int))(d:Int)(a:Int):T (List Int) :=
 .zC (WA a a 4) <|
 oM (Int.toNat a) (List.replicate (Int.toNat a) (0:Int)).length <|
 T.bind (lK d a c (c.length:Int) (0,(List.replicate (Int.toNat a) 0))) λb =>
 oC b <|
 oE b <|
 .ret b
def kD(d:Int)(c:Int)(e:Int):(Int×Int)->T ((Int×Int)⊕(Int))
 | (a,b) =>
 .zC ((0<=(32:Int))/\((((vc .u64 a 32) != 0)=false)->(0<=(32:Int)))) <|
 .ite (((vc .u64 a 32) != 0)||(decide ((QI .u64 (cO .u64 b 32) (zS d))<(zS (a*(zS e))))))
  (.zC (0<=(32:Int)) <|
 .ite ((vc .u64 (zS (b+(zS c))) 32) != 0)
  (.ret (.inr (zS (a-1))))
  (.ret (.inl ((zS (a-1)),(zS (b+(zS c)))))))
  (.ret (.inr a))
def o5 low1 b11 b21 s:=T.loop (kD low1 b11 b21) s
def gR(b:Int)(c:Int)(e:Int)(a:Int)(f:Int):T Int :=
 .zC (0<=(32:Int)) <|
 .zC ((zS a)≠0) <|
 .zC ((zS a)≠0) <|
 T.bind (o5 e a f ((zS (Int.tdiv (QI .u64 (cO .u64 (zS b) 32) (zS c)) (zS a))),(Int.tmod (QI .u64 (cO .u64 (zS b) 32) (zS c)) (zS a)))) λd =>
 .ret d
def u7(a:Int)(b:Int)(c:Int):T (Int×Int) :=
 .zC (0<=(31:Int)) <|
 .ret ((vv ((vv (a-b))-c)),(vc .u32 (QI .u32 (Ev .u32 (Y2 .u32 4294967295 a) b) (Ev .u32 (Y2 .u32 4294967295 (Y2 .u32 a b)) (vv ((vv (a-b))-c)))) 31))
def jH(a:Int)(b:Int)(c:Int):T (Int×Int) :=
 .zC (0<=(32:Int)) <|
 .ret ((vv (zS ((zS ((zS a)+(zS b)))+(zS c)))),(vv (vc .u64 (zS ((zS ((zS a)+(zS b)))+(zS c))) 32)))
def kK(l:(List Int))(i:Int)(f:(List Int))(k:Int):((Nat×Nat)×Int×Int×Int×(List Int))->T (((Nat×Nat)×Int×Int×Int×(List Int))⊕(((Nat×Nat)×Int×Int×(List Int))))
 | (c,e,h,b,a)=>let d:=c.1+(Int.toNat b);
 .ite (decide (b<k))
  (oI b f <|
 .zC (qO b c.2) <|
 .zC (iE a.length a.length d a.length) <|
 T.bind (u7 (kR a d (zq (.int .u32))) (vv (zS (e+(zS (i*(zS (nth f b (zq (.int .u32))))))))) h) λ(g,j) =>
 .zC (qO b c.2) <|
 .zC (iE a.length a.length d a.length) <|
 .zC (0<=(32:Int)) <|
 oE a <|
 .zC (a.length=(List.set a d g).length) <|
 .ret (.inl (c,((vc .u64 (zS (e+(zS (i*(zS (nth f b (zq (.int .u32)))))))) 32),(j,((zZ (b+1)),(List.set a d g)))))))
  (oE a <|
 oE a <|
 .ret (.inr (c,(e,(h,a)))))
def fq b1 q1 x x1 s:=T.loop (kK b1 q1 x x1) s
def kJ(j:(List Int))(g:(List Int))(i:Int):((Nat×Nat)×Int×Int×(List Int))->T (((Nat×Nat)×Int×Int×(List Int))⊕(((Nat×Nat)×Int×(List Int))))
 | (c,f,b,a)=>let d:=c.1+(Int.toNat b);
 .ite (decide (b<i))
  (oI b g <|
 .zC (qO b c.2) <|
 .zC (iE a.length a.length d a.length) <|
 T.bind (jH (kR a d (zq (.int .u32))) (nth g b (zq (.int .u32))) f) λ(e,h) =>
 .zC (qO b c.2) <|
 .zC (iE a.length a.length d a.length) <|
 oE a <|
 .zC (a.length=(List.set a d e).length) <|
 .ret (.inl (c,(h,((zZ (b+1)),(List.set a d e))))))
  (oE a <|
 oE a <|
 .ret (.inr (c,(f,a))))
def fP b2 x3 x4 s:=T.loop (kJ b2 x3 x4) s
def bW(o:(Nat×Nat))(b:(List Int))(p:Int)(h:(List Int)):T (Bool×(List Int)) :=
 let d:=Int.toNat (b.length:Int);  oE h <|
 oE h <|
 T.bind (fq b p b (b.length:Int) (o,(0,(0,(0,h))))) λ(e,j,k,a) =>
 .zC (qO (b.length:Int) e.2) <|
 .zC (iE a.length a.length (e.1+d) a.length) <|
 T.bind (u7 (kR a (e.1+d) (zq (.int .u32))) (vv j) k) λ(l,m)=>let g:=List.set a (e.1+d) l;
 .zC (qO (b.length:Int) e.2) <|
 .zC (iE a.length a.length (e.1+d) a.length) <|
 .ite (m==0)
  (.zC (a.length=g.length) <|
 .ret (false,g))
  (oE a <|
 .zC (a.length=g.length) <|
 T.bind (fP b b (b.length:Int) (e,(0,(0,g)))) λ(f,n,c)=>let i:=List.set c (f.1+d) (vv ((kR c (f.1+d) (zq (.int .u32)))+n));
 .zC (qO (b.length:Int) f.2) <|
 .zC (iE c.length c.length (f.1+d) c.length) <|
 .zC (qO (b.length:Int) f.2) <|
 .zC (iE c.length c.length (f.1+d) c.length) <|
 .zC (c.length=i.length) <|
 .ret (true,i))
def yP(e:Int)(h:Int)(f:(List Int))(i:Int):(Int×(List Int))->T ((Int×(List Int))⊕((List Int)))
 | (b,a)=>let c:=zZ (b+1); let d:=List.set a (0+(Int.toNat b)) (QI .u32 (kR a (0+(Int.toNat b)) (zq (.int .u32))) (vv (cO .u64 (zS (nth f b (zq (.int .u32)))) e))); let g:=List.set d (0+(Int.toNat c)) (vv (vc .u64 (cO .u64 (zS (nth f b (zq (.int .u32)))) e) 32));
 .ite (decide (b<i))
  (oI b f <|
 .zC (0<=e) <|
 oI b a <|
 .zC (iE a.length a.length (0+(Int.toNat b)) a.length) <|
 oI b a <|
 .zC (iE a.length a.length (0+(Int.toNat b)) a.length) <|
 .ite (decide (c<h))
  (.zC (0<=(32:Int)) <|
 oI c a <|
 .zC (iE a.length a.length (0+(Int.toNat c)) d.length) <|
 oM a.length g.length <|
 .ret (.inl (c,g)))
  (oM a.length d.length <|
 .ret (.inl (c,d))))
  (oC a <|
 oE a <|
 .ret (.inr a))
def rC by_1 n1 x x1 s:=T.loop (yP by_1 n1 x x1) s
def nT(c:(List Int))(d:Int)(a:Int):T (List Int) :=
 .zC (WA a a 4) <|
 oM (Int.toNat a) (List.replicate (Int.toNat a) (0:Int)).length <|
 T.bind (rC d a c (c.length:Int) (0,(List.replicate (Int.toNat a) 0))) λb =>
 oE b <|
 .ret (List.drop 0 (List.take (0+b.length) b))
def kP(e:Int)(f:(List Int))(h:Int):(Int×(List Int))->T ((Int×(List Int))⊕((List Int)))
 | (b,a)=>let d:=0+(Int.toNat (zZ (b-1))); let c:=List.set a (0+(Int.toNat b)) (QI .u32 (kR a (0+(Int.toNat b)) (zq (.int .u32))) (vv (vc .u64 (vc .u64 (cO .u64 (zS (nth f b (zq (.int .u32)))) 32) e) 32))); let g:=List.set c d (QI .u32 (kR c d (zq (.int .u32))) (vv (vc .u64 (cO .u64 (zS (nth f b (zq (.int .u32)))) 32) e)));
 .ite (decide (b<h))
  (oI b f <|
 .zC (0<=(32:Int)) <|
 .zC (0<=e) <|
 oI b a <|
 .zC (iE a.length a.length (0+(Int.toNat b)) a.length) <|
 .zC (0<=(32:Int)) <|
 oI b a <|
 .zC (iE a.length a.length (0+(Int.toNat b)) a.length) <|
 .ite (decide (0<b))
  (oI (zZ (b-1)) a <|
 .zC (iE a.length a.length d c.length) <|
 oI (zZ (b-1)) a <|
 .zC (iE a.length a.length d c.length) <|
 oM a.length g.length <|
 .ret (.inl ((zZ (b+1)),g)))
  (oM a.length c.length <|
 .ret (.inl ((zZ (b+1)),c))))
  (oC a <|
 oE a <|
 .ret (.inr a))
def nX by_ x x1 s:=T.loop (kP by_ x x1) s
def yn(m:(List Int))(n:Int):T (List Int) :=
 let g:=YV (pz n (-4096)) 4096; let d:=zZ (Int.tdiv g (32:Int)); let c:=zZ (Int.tdiv (zZ (0-g)) (32:Int));  T.bind (xp m) λf=>let a:=(f.length:Int); let i:=zZ ((zZ (d+a))+1); let b:=Int.toNat i;
 .ite (decide (g<0))
  (.zC (32≠(0:Int)) <|
 .ite (decide (a<=c))
  (.ret [])
  (.zC (32≠(0:Int)) <|
 .zC (WA (zZ (a-c)) (zZ (a-c)) 4) <|
 .zC (gb c a f.length) <|
 oM (Int.toNat (zZ (a-c))) (List.replicate (Int.toNat (zZ (a-c))) (0:Int)).length <|
 T.bind (nX (zS (Int.tmod (zZ (0-g)) (32:Int))) (vQ (e:=(.int .u32)) c a f) (Nat.cast (vQ (e:=(.int .u32)) c a f).length:Int) (0,(List.replicate (Int.toNat (zZ (a-c))) 0))) λh =>
 oE h <|
 T.bind (xp (List.drop 0 (List.take (0+h.length) h))) λj =>
 .ret j))
  (.zC (32≠(0:Int)) <|
 .zC (WA i i 4) <|
 .zC (gb d (Nat.cast b:Int) b) <|
 .zC (32≠(0:Int)) <|
 T.bind (nT f (zS (Int.tmod g (32:Int))) (zZ (a+1))) λk =>
 .zC (PE b b (0+(Int.toNat d)) ((Int.toNat (Nat.cast b:Int))-(Int.toNat d)) (List.replicate b (0:Int)).length) <|
 .zC (b=b) <|
 T.bind (xp (List.drop 0 (List.take (0+b) (jm (0+(Int.toNat d)) ((Int.toNat (Nat.cast b:Int))-(Int.toNat d)) (List.replicate b 0) k)))) λl =>
 .ret l)
def yQ(m:Int)(g:(List Int))(c:Int):(Int×(List Int)×(List Int))->T ((Int×(List Int)×(List Int))⊕(((List Int)×(List Int))))
 | (b,a,d) =>
 .ite (decide (0<=b))
  (oI (zZ (b+c)) a <|
 .zC (iE a.length a.length (0+(Int.toNat (zZ (b+c)))) a.length) <|
 oI (zZ ((zZ (b+c))-1)) a <|
 .zC (iE a.length a.length (0+(Int.toNat (zZ ((zZ (b+c))-1)))) a.length) <|
 oI (zZ ((zZ (b+c))-2)) a <|
 .zC (iE a.length a.length (0+(Int.toNat (zZ ((zZ (b+c))-2)))) a.length) <|
 oI (zZ (c-1)) g <|
 oI (zZ (c-2)) g <|
 T.bind (gR (kR a (0+(Int.toNat (zZ (b+c)))) (zq (.int .u32))) (kR a (0+(Int.toNat (zZ ((zZ (b+c))-1)))) (zq (.int .u32))) (kR a (0+(Int.toNat (zZ ((zZ (b+c))-2)))) (zq (.int .u32))) (nth g (zZ (c-1)) (zq (.int .u32))) (nth g (zZ (c-2)) (zq (.int .u32)))) λh =>
 T.bind (.zC (gb b (zZ ((zZ (b+c))+1)) a.length) <|
 oE a <|
 oE a <|
 T.bind (bW ((0+(Int.toNat b)),((Int.toNat (zZ ((zZ (b+c))+1)))-(Int.toNat b))) g h a) λ(k,f) =>
 .ite k
  (oC d <|
 .zC (vG a.length 0 a.length f.length) <|
 oE f <|
 oE d <|
 .ret ((zS (h-1)),(f,d)))
  (oC d <|
 .zC (vG a.length 0 a.length f.length) <|
 oE f <|
 oE d <|
 .ret (h,(f,d))):T ((Int×(List Int)×(List Int)))) λ(l,i,e)=>let j:=List.set e (0+(Int.toNat b)) (vv l);
 oI b e <|
 .zC (iE e.length e.length (0+(Int.toNat b)) e.length) <|
 .zC (vG e.length 0 e.length j.length) <|
 oC i <|
 oE i <|
 .zC (e.length=j.length) <|
 .ret (.inl ((zZ (b-1)),(i,j))))
  (oC d <|
 oC a <|
 oE a <|
 oE d <|
 .ret (.inr (a,d)))
def rM by_ d n s:=T.loop (yQ by_ d n) s
def ou(i:(List Int))(c:(List Int)):T ((List Int)×(List Int)) :=
 oI (zZ ((c.length:Int)-1)) c <|
 T.bind (wa (nth c (zZ ((c.length:Int)-1)) (zq (.int .u32)))) λf =>
 T.bind (bz i (zS f) (zZ ((i.length:Int)+1))) λg =>
 T.bind (bz c (zS f) (c.length:Int)) λa=>let j:=zZ ((zZ ((i.length:Int)-(a.length:Int)))+1); let b:=Int.toNat j;
 .zC (WA j j 4) <|
 oE a <|
 .zC (vG b 0 b (List.replicate b (0:Int)).length) <|
 oC g <|
 oE g <|
 .zC (b=(List.replicate b (0:Int)).length) <|
 T.bind (rM (zS f) (List.drop 0 (List.take (0+a.length) a)) (a.length:Int) ((zZ ((Nat.cast b:Int)-1)),(g,(List.replicate b 0)))) λ(d,h) =>
 oE h <|
 oE d <|
 T.bind (xp (List.drop 0 (List.take (0+h.length) h))) λk =>
 .zC (gb 0 (a.length:Int) (List.drop 0 (List.take (0+d.length) d)).length) <|
 T.bind (yn (vQ (e:=(.int .u32)) 0 (a.length:Int) (List.drop 0 (List.take (0+d.length) d))) (zZ (0-(zZ (zS f))))) λl =>
 .ret (k,l)
def jX(j:(List Int))(k:(List Int)):T ((List Int)×(List Int)×Bool) :=
 T.bind (xp j) λb =>
 T.bind (xp k) λa =>
 .ite ((a.length:Int)==0)
  (.ret ([],([],false)))
  (T.bind (dw b a) λc =>
 .ite (decide (c<0))
  (T.bind (yb b) λd =>
 .ret ([],(d,true)))
  (.ite ((a.length:Int)==1)
  (oI 0 a <|
 T.bind (gP b (nth a 0 (zq (.int .u32)))) λ(e,f) =>
 T.bind (jS (zS f)) λg =>
 .ret (e,(g,true)))
  (T.bind (ou b a) λ(h,i) =>
 .ret (h,(i,true)))))
def gS  : ((List Int)×(List Int))->T (((List Int)×(List Int))⊕((List Int)))
 | (b,a) =>
 .ite (decide (0<(a.length:Int)))
  (T.bind (jX b a) λ(d,c,e) =>
 .ret (.inl (a,c)))
  (.ret (.inr b))
def ZU(s:((List Int)×(List Int))):T ((List Int)):=T.loop (gS ) s
def nN(d:(List Int))(e:(List Int)):T (List Int) :=
 T.bind (yb d) λa =>
 T.bind (yb e) λb =>
 T.bind (ZU  (a,b)) λc =>
 .ret c
def dh(g:Bool)(h:(List Int))(i:(List Int)):T Rat :=
 T.bind (yb h) λa =>
 T.bind (yb i) λb =>
 .ite (((a.length:Int)==0)||((b.length:Int)==0))
  (T.bind (jS 1) λd =>
 .ret (false,(([]:List Int),(d,()))))
  (T.bind (nN a b) λc =>
 T.bind (jX a c) λ(e,j,k) =>
 T.bind (jX b c) λ(f,l,m) =>
 .ret (g,(e,(f,()))))
def kh(f:zf):T (Rat×Int) :=
 .ite (decide (400<(f.length:Int)))
  (.ret ((false,(([]:List Int),(([]:List Int),()))),3))
  (T.bind (strings_CutPrefix f [45]) λ(c,d) =>
 T.bind (strings_Cut c [46]) λ(b,a,g) =>
 .ite g
  (T.bind (wL a) λ(t,h) =>
 oK b a <|
 T.bind (wL (cat b a)) λ(i,j) =>
 .ite ((zk b [])||((!h)||(!j)))
  (.ret ((false,(([]:List Int),(([]:List Int),()))),2))
  (T.bind (iJ (a.length:Int)) λk =>
 T.bind (dh d i k) λl =>
 .ret (l,0)))
  (T.bind (strings_Cut c [47]) λ(m,n,o) =>
 T.bind (wL m) λ(p,q) =>
 T.bind (wL (bif (!o)then[49]else n)) λ(e,r) =>
 .ite ((!q)||((!r)||((e.length:Int)==0)))
  (.ret ((false,(([]:List Int),(([]:List Int),()))),2))
  (T.bind (dh d p e) λs =>
 .ret (s,0))))
def vu(i:z8):T ((AM.Expr×z8)⊕(zB×z8)) :=
 T.bind (qG (λe=>xk e) (i.1.length:Int) i) λ(c,a) =>
 T.bind (.zC (((decide (a.2.1<(a.1.length:Int)))=true)->(qO a.2.1 a.1.length)) <|
 .ite ((decide (a.2.1<(a.1.length:Int)))&&((qz a.1 a.2.1)==46))
  (T.bind (qG (λe=>xk e) (a.1.length:Int) (a.1,((zZ (a.2.1+1)),(a.2.2.1,(a.2.2.2.1,()))))) λ(b,f) =>
 .ite (zk b [])
  (T.bind (xn 2 f.2.1 f) <|
 Sum.elim (λj =>
 oK [46] b <|
 oK c (cat [46] b) <|
 .ret (.inl ((cat c (cat [46] b)),(j,(Expr.mk 0 (false,([],([],()))) [] [])))))
  (λ(k,l) =>
 .ret (.inr (k,(l,(Expr.mk 0 (false,([],([],()))) [] []))))))
  (oK [46] b <|
 oK c (cat [46] b) <|
 .ret (.inl ((cat c (cat [46] b)),(f,(Expr.mk 0 (false,([],([],()))) [] []))))))
  (.ret (.inl (c,(a,(Expr.mk 0 (false,([],([],()))) [] []))))):T ((zf×z8×AM.Expr)⊕(zB×z8×AM.Expr))) <|
 Sum.elim (λ(h,d,o) =>
 .ite (decide (400<(h.length:Int)))
  (.ret (.inl ((Expr.mk 1 (false,([],([],()))) [] []),(d.1,(d.2.1,(d.2.2.1,(true,())))))))
  (T.bind (kh h) λ(g,p) =>
 .ret (.inl ((Expr.mk 1 (g.1,(g.2.1,(g.2.2.1,()))) [] []),d))))
  (λ(m,n,q) =>
 .ret (.inr (m,n)))
def xC(V:z8->T ((AM.Expr×z8)⊕(zB×z8)))(W:z8->T ((AM.Expr×z8)⊕(zB×z8)))(X:z8):T ((AM.Expr×z8)⊕(zB×z8)) :=
 T.bind (qF [45,40] X) λ(h,a)=>let j:=(a,(Expr.mk 0 (false,([],([],()))) [] []));
 .ite (h==45)
  (T.bind (wj a) <|
 Sum.elim (λk =>
 T.bind (V k) <|
 Sum.elim (λ(l,c) =>
 .ret (.inl ((Expr.mk 7 (false,([],([],()))) [] [l]),(c.1,(c.2.1,((zZ (c.2.2.1-1)),(c.2.2.2.1,())))))))
  (λ(m,n) =>
 .ret (.inr (m,n))))
  (λ(o,p) =>
 .ret (.inr (o,p))))
  (.ite (h==40)
  (T.bind (wj a) <|
 Sum.elim (λq =>
 T.bind (W q) <|
 Sum.elim (λ(r,s)=>let g:=((Expr.mk 0 (false,([],([],()))) [] []),r);
 T.bind (T.bind (qF [41] s) λ(t,e) =>
 .ite (t==0)
  (T.bind (xn 2 e.2.1 e) <|
 Sum.elim (λu =>
 .ret (.inl (u,g)))
  (λ(v,w) =>
 .ret (.inr (v,(w,g)))))
  (.ret (.inl (e,g))):T ((z8×AM.Expr×AM.Expr)⊕(zB×z8×AM.Expr×AM.Expr))) <|
 Sum.elim (λ(d,Y,x) =>
 .ret (.inl (x,(d.1,(d.2.1,((zZ (d.2.2.1-1)),(d.2.2.2.1,())))))))
  (λ(y,z,Z,aa) =>
 .ret (.inr (y,z))))
  (λ(A,B) =>
 .ret (.inr (A,B))))
  (λ(C,D) =>
 .ret (.inr (C,D))))
  (T.bind (.ite (decide (a.2.1<(a.1.length:Int)))
  (oI a.2.1 a.1 <|
 T.bind (xk (qz a.1 a.2.1)) λE =>
 .ret (E,j))
  (.ret (false,j)):T ((Bool×z8×AM.Expr))) λ(G,b,i) =>
 .ite G
  (T.bind (vu b) <|
 Sum.elim (λ(H,I) =>
 .ret (.inl (H,I)))
  (λ(J,K) =>
 .ret (.inr (J,K))))
  (T.bind (.ite (decide (b.2.1<(b.1.length:Int)))
  (oI b.2.1 b.1 <|
 T.bind (xZ (qz b.1 b.2.1)) λL =>
 .ret (L,(b,i)))
  (.ret (false,(b,i))):T ((Bool×z8×AM.Expr))) λ(M,f,ab) =>
 .ite M
  (T.bind (qG (λN=>wI N) 24 f) λ(O,P) =>
 .ret (.inl ((Expr.mk 2 (false,([],([],()))) O []),P)))
  (T.bind (xn 2 f.2.1 f) <|
 Sum.elim (λR =>
 .ret (.inl ((Expr.mk 0 (false,([],([],()))) [] []),R)))
  (λ(S,U) =>
 .ret (.inr (S,U)))))))
def qX(wh:z8->T ((AM.Expr×z8)⊕(zB×z8)))(p:z8):T ((AM.Expr×z8)⊕(zB×z8)):=T.fix (λF x=>xC (λy0=>F (y0)) wh x) p
def xY(l:z8->T ((AM.Expr×z8)⊕(zB×z8)))(f:zf)(m:zB):(z8×AM.Expr×AM.Expr)->T ((z8×AM.Expr×AM.Expr)⊕((z8×AM.Expr×AM.Expr)⊕(zB×z8×AM.Expr×AM.Expr)))
 | (k,e,a) =>
 T.bind (qF f k) λ(b,c) =>
 .ite (b==0)
  (.ret (.inr (.inl (c,(a,a)))))
  (T.bind ((qX l) c) <|
 Sum.elim (λ(g,h) =>
 T.bind (strings_IndexByte f b) λd =>
 .zC (qO d 2) <|
 .ret (.inl (h,(e,(Expr.mk (fO (.int .i64) qY m (Int.toNat d)) (false,([],([],()))) [] [a,g])))))
  (λ(i,j) =>
 .ret (.inr (.inr (i,(j,(e,a)))))))
def uF wh oG ZT s:=T.loop (xY wh oG ZT) s
def xg(a:z8->T ((AM.Expr×z8)⊕(zB×z8)))(p:(Unit))(j:zf)(k:zB)(l:z8):T ((AM.Expr×z8)⊕(zB×z8)) :=
 T.bind ((qX a) l) <|
 Sum.elim (λ(b,c) =>
 T.bind (uF a j k (c,((Expr.mk 0 (false,([],([],()))) [] []),b))) <|
 Sum.elim (λ(d,e,m) =>
 .ret (.inl (e,d)))
  (λ(f,g,n,o) =>
 .ret (.inr (f,g))))
  (λ(h,i) =>
 .ret (.inr (h,i)))
def qH(e:z8->T ((AM.Expr×z8)⊕(zB×z8)))(f:z8):T ((AM.Expr×z8)⊕(zB×z8)) :=
 T.bind ((xg e) () [42,47] ((5:Int),((6:Int),())) f) <|
 Sum.elim (λ(a,b) =>
 .ret (.inl (a,b)))
  (λ(c,d) =>
 .ret (.inr (c,d)))
def xQ(l:z8->T ((AM.Expr×z8)⊕(zB×z8)))(f:zf)(m:zB):(z8×AM.Expr×AM.Expr)->T ((z8×AM.Expr×AM.Expr)⊕((z8×AM.Expr×AM.Expr)⊕(zB×z8×AM.Expr×AM.Expr)))
 | (k,e,a) =>
 T.bind (qF f k) λ(b,c) =>
 .ite (b==0)
  (.ret (.inr (.inl (c,(a,a)))))
  (T.bind ((qH l) c) <|
 Sum.elim (λ(g,h) =>
 T.bind (strings_IndexByte f b) λd =>
 .zC (qO d 2) <|
 .ret (.inl (h,(e,(Expr.mk (fO (.int .i64) qY m (Int.toNat d)) (false,([],([],()))) [] [a,g])))))
  (λ(i,j) =>
 .ret (.inr (.inr (i,(j,(e,a)))))))
def uo wh oG ZT s:=T.loop (xQ wh oG ZT) s
def xa(a:z8->T ((AM.Expr×z8)⊕(zB×z8)))(p:(Unit))(j:zf)(k:zB)(l:z8):T ((AM.Expr×z8)⊕(zB×z8)) :=
 T.bind ((qH a) l) <|
 Sum.elim (λ(b,c) =>
 T.bind (uo a j k (c,((Expr.mk 0 (false,([],([],()))) [] []),b))) <|
 Sum.elim (λ(d,e,m) =>
 .ret (.inl (e,d)))
  (λ(f,g,n,o) =>
 .ret (.inr (f,g))))
  (λ(h,i) =>
 .ret (.inr (h,i)))
def vH(e:z8->T ((AM.Expr×z8)⊕(zB×z8)))(f:z8):T ((AM.Expr×z8)⊕(zB×z8)) :=
 T.bind ((xa e) () [43,45] ((3:Int),((4:Int),())) f) <|
 Sum.elim (λ(a,b) =>
 .ret (.inl (a,b)))
  (λ(c,d) =>
 .ret (.inr (c,d)))
def vt(p:z8):T ((AM.Expr×z8)⊕(zB×z8)):=T.fix (λF x=>vH (λy0=>F (y0)) x) p
def j1(a:AM.Expr)(b:Int)(c:Int):T (AM.Expr×Int×Int) :=
 .ite false
  (.fail)
  (.ret (a,(b,c)))
def uu(a:zB)(b:AM.Expr)(c:Int)(d:Int):T (AM.Expr×Int×Int) :=
 .ite true
  (.ite (!true)
  (.fail)
  (.ret ((Expr.mk 0 (false,([],([],()))) [] []),(a.2.1,a.1))))
  (.ret (b,(c,d)))
def uB(t:z8):T (AM.Expr×Int×Int×z8) :=
 T.bind (vt t) <|
 Sum.elim (λ(b,a) =>
 .ite (decide (a.2.1<(a.1.length:Int)))
  (T.bind (xn 2 a.2.1 a) <|
 Sum.elim (λc =>
 T.bind (j1 b 0 0) λ(d,e,f) =>
 .ret (d,(e,(f,c))))
  (λ(g,h) =>
 T.bind (uu g b 0 0) λ(i,j,k) =>
 .ret (i,(j,(k,h)))))
  (T.bind (j1 b 0 0) λ(l,m,n) =>
 .ret (l,(m,(n,a)))))
  (λ(o,p) =>
 T.bind (uu o (Expr.mk 0 (false,([],([],()))) [] []) 0 0) λ(q,r,s) =>
 .ret (q,(r,(s,p))))
def iW(a:Int):T Int :=
 .ite (bif (a==1)then(a==1)else(a==2))
  (.ret 0)
  (.ite (a==7)
  (.ret 1)
  (.ite (a==3)
  (.ret 2)
  (.ite (a==4)
  (.ret 2)
  (.ite (a==5)
  (.ret 2)
  (.ite (a==6)
  (.ret 2)
  (.ret (-1)))))))
def my(a:Rat):T Bool :=
 T.bind (T.bind (b4 a.2.1) λb =>
 .ite (!b)
  (.ret true)
  (T.bind (b4 a.2.2.1) λc =>
 .ite (!c)
  (.ret true)
  (.ite ((a.2.2.1.length:Int)==0)
  (.ret true)
  (.ite a.1
  (.ret ((a.2.1.length:Int)==0))
  (.ret false)))):T (Bool)) λd =>
 .ite d
  (.ret false)
  (T.bind (nN a.2.1 a.2.2.1) λe =>
 T.bind (jS 1) λf =>
 T.bind (dw e f) λg =>
 .ret (g==0))
def hO(a:Rat):T Rat :=
 T.bind (dh a.1 a.2.1 a.2.2.1) λb =>
 .ret b
def gL(b:Rat):T Bool :=
 T.bind (hO b) λa =>
 .ret ((decide (16<(a.2.1.length:Int)))||(decide (16<(a.2.2.1.length:Int))))
def fh(a:Rat):T zf :=
 .ite a.1
  (.ret [45])
  (.ret [])
def xx  : ((Nat×Nat)×Int×Int×(List Int))->T (((Nat×Nat)×Int×Int×(List Int))⊕((List Int)))
 | (b,c,d,a)=>let e:=List.set a (b.1+(Int.toNat c)) (kR a (b.1+(Int.toNat d)) (zq (.int .u8))); let f:=List.set e (b.1+(Int.toNat d)) (kR a (b.1+(Int.toNat c)) (zq (.int .u8)));
 .ite (decide (c<d))
  (.zC (qO d b.2) <|
 .zC (iE a.length a.length (b.1+(Int.toNat d)) a.length) <|
 .zC (qO c b.2) <|
 .zC (iE a.length a.length (b.1+(Int.toNat c)) a.length) <|
 .zC (qO c b.2) <|
 .zC (iE a.length a.length (b.1+(Int.toNat c)) a.length) <|
 .zC (qO d b.2) <|
 .zC (iE a.length a.length (b.1+(Int.toNat d)) e.length) <|
 oE a <|
 .zC (a.length=f.length) <|
 .ret (.inl (b,((zZ (c+1)),((zZ (d-1)),f)))))
  (oE a <|
 .ret (.inr a))
def uA(s:((Nat×Nat)×Int×Int×(List Int))):T ((List Int)):=T.loop (xx ) s
def w9(c:(Nat×Nat))(a:(List Int)):T (List Int) :=
 oE a <|
 oE a <|
 T.bind (uA  (c,(0,((zZ ((Nat.cast c.2:Int)-1)),a)))) λb =>
 oE b <|
 .ret b
def y9(e:(List Int)):(Int×Int×(List Int))->T ((Int×Int×(List Int))⊕((List Int)))
 | (b,c,a)=>let d:=a++([(qz [48,49,50,51,52,53,54,55,56,57] (Int.tmod b (10:Int)))]:List Int);
 .ite (decide (c<9))
  (.zC (10≠(0:Int)) <|
 oI (Int.tmod b (10:Int)) ([48,49,50,51,52,53,54,55,56,57]:zf) <|
 oA a 1 <|
 .zC (10≠(0:Int)) <|
 oM (a.length+1) d.length <|
 .ret (.inl ((vv (Int.tdiv b (10:Int))),((zZ (c+1)),d))))
  (oC a <|
 oE a <|
 .ret (.inr a))
def dP q1 s:=T.loop (y9 q1) s
def kV  : ((List Int)×(List Int))->T (((List Int)×(List Int))⊕((List Int)))
 | (d,a) =>
 .ite (decide (0<(d.length:Int)))
  (T.bind (gP d 1000000000) λ(c,e) =>
 oC a <|
 oE a <|
 T.bind (dP c (e,(0,a))) λb =>
 oC b <|
 oE b <|
 .ret (.inl (c,b)))
  (oC a <|
 oE a <|
 .ret (.inr a))
def da(s:((List Int)×(List Int))):T ((List Int)):=T.loop (kV ) s
def kF  : ((Nat×Nat)×(List Int))->T (((Nat×Nat)×(List Int))⊕(((Nat×Nat)×(List Int))))
 | (b,a)=>let c:=zZ ((Nat.cast b.2:Int)-1);
 .zC (((decide (1<(Nat.cast b.2:Int)))=true)->((qO c b.2)/\(iE a.length a.length (b.1+(Int.toNat c)) a.length))) <|
 .ite ((decide (1<(Nat.cast b.2:Int)))&&((kR a (b.1+(Int.toNat c)) (zq (.int .u8)))==48))
  (.zC (gb 0 c b.2) <|
 oE a <|
 oE a <|
 .ret (.inl (((b.1+(Int.toNat 0)),((Int.toNat c)-(Int.toNat 0))),a)))
  (oE a <|
 oE a <|
 .ret (.inr (b,a)))
def ox(s:((Nat×Nat)×(List Int))):T (((Nat×Nat)×(List Int))):=T.loop (kF ) s
def gO(f:(List Int)):T zf :=
 T.bind (yb f) λd =>
 .ite ((d.length:Int)==0)
  (.ret [48])
  (oZ <|
 T.bind (da  (d,[])) λa =>
 oE a <|
 oE a <|
 T.bind (ox  ((0,a.length),a)) λ(b,c) =>
 oE c <|
 oE c <|
 T.bind (w9 b c) λe =>
 .zC (c.length=e.length) <|
 .ret (xy (List.drop b.1 (List.take (b.1+b.2) e))))
def strings_Repeat(b:zf)(a:Int):T zf :=
 .zC (0<=a/\a<=9223372036854775807/\b.length*(Int.toNat a)<=140737488355328) <|
 .ret (bB b (Int.toNat a))
def bG(a:zf)(e:Int):T zf :=
 .ite (e==0)
  (.ret a)
  (T.bind (strings_Repeat [48] (pz 0 (zZ ((zZ (e+1))-(a.length:Int))))) λb=>let d:=((cat b a).length:Int); let c:=zZ (d-e);
 oK b a <|
 .zC (gb 0 c (cat b a).length) <|
 oK (um 0 c (cat b a)) [46] <|
 .zC (gb c d (cat b a).length) <|
 oK (cat (um 0 c (cat b a)) [46]) (um c d (cat b a)) <|
 .ret (cat (cat (um 0 c (cat b a)) [46]) (um c d (cat b a))))
def j4  : (Int×Rat)->T ((Int×Rat)⊕(Rat⊕(zf×Bool×Rat)))
 | (b,a) =>
 .ite (decide (b<61))
  (T.bind (iJ b) λe =>
 T.bind (iO a.2.1 e) λf =>
 T.bind (jX f a.2.2.1) λ(g,h,j) =>
 .ite ((h.length:Int)==0)
  (T.bind (fh a) λc =>
 T.bind (gO g) λi =>
 T.bind (bG i b) λd =>
 oK c d <|
 .ret (.inr (.inr ((cat c d),(true,a)))))
  (.ret (.inl ((zZ (b+1)),a))))
  (.ret (.inr (.inl a)))
def ov(s:(Int×Rat)):T (Rat⊕(zf×Bool×Rat)):=T.loop (j4 ) s
def cz(d:Rat):T (zf×Bool) :=
 T.bind (hO d) λa =>
 T.bind (ov  (0,a)) <|
 Sum.elim (λe =>
 .ret ([],false))
  (λ(b,c,f) =>
 .ret (b,c))
def dR(a:Rat):T Bool :=
 T.bind (T.bind (my a) λb =>
 .ite (!b)
  (.ret true)
  (.ite a.1
  (.ret true)
  (T.bind (gL a) λc =>
 .ret c)):T (Bool)) λd =>
 .ite d
  (.ret false)
  (T.bind (cz a) λ(f,e) =>
 .ret e)
def yI(a:Rat):T Bool :=
 .ite (!a.1)
  (.ite ((a.2.1.length:Int)==0)
  (.ite ((a.2.2.1.length:Int)==0)
  (.ret true)
  (T.bind (my a) λb =>
 .ret b))
  (.ret false))
  (.ret false)
def kb(a:AM.Expr):T Bool :=
 T.bind (iW (Expr.kind a)) λb =>
 .ite (((Expr.kids a).length:Int) != b)
  (.ret false)
  (.ite ((Expr.kind a)==1)
  (T.bind (dR (Expr.num a)) λc =>
 .ite c
  (.ret (zk (Expr.name a) []))
  (.ret false))
  (.ite ((Expr.kind a)==2)
  (T.bind (yI (Expr.num a)) λd =>
 .ite d
  (T.bind (qS (Expr.name a)) λe =>
 .ret e)
  (.ret false))
  (T.bind (yI (Expr.num a)) λf =>
 .ite f
  (.ret (zk (Expr.name a) []))
  (.ret false))))
def ui(c:AM.Expr->Int->Int->T (Bool×Int))(d:AM.Expr)(e:Int)(f:Int):T (Bool×Int) :=
 T.bind (c d (zZ (e+1)) f) λ(a,b) =>
 .ret ((!a),b)
def zo(g:AM.Expr->Int->Int->T (Bool×Int))(e:(List AM.Expr))(h:Int):((Int×Unit)×Int×Int)->T (((Int×Unit)×Int×Int)⊕(Int⊕(Int×Int)))
 | (c,a,d) =>
 .ite (decide (a<h))
  (oI a e <|
 T.bind ((ui g) (nth e a (zq .expr)) c.1 d) λ(f,b) =>
 .ite f
  (.ret (.inr (.inr (a,b))))
  (.ret (.inl ((c.1,()),((zZ (a+1)),b)))))
  (.ret (.inr (.inl d)))
def zA self_expr_may s1 x s:=T.loop (zo self_expr_may s1 x) s
def qk(e:AM.Expr->Int->Int->T (Bool×Int))(a:(List AM.Expr))(f:(Int×Unit))(g:Int):T (Int×Int) :=
 T.bind (zA e a (a.length:Int) ((f.1,()),(0,g))) <|
 Sum.elim (λb =>
 .ret ((-1),b))
  (λ(c,d) =>
 .ret (c,d))
def zD(c:AM.Expr->Int->Int->T (Bool×Int))(d:(List AM.Expr))(e:(Int×Unit))(f:Int):T (Bool×Int) :=
 T.bind ((qk c) d (e.1,()) f) λ(a,b) =>
 .ret ((decide (0<=a)),b)
def kT(i:AM.Expr->Int->Int->T (Bool×Int))(c:AM.Expr)(d:Int)(a:Int):T (Bool×Int) :=
 T.bind (.ite (decide ((zZ (a-1))<0))
  (.ret (true,(zZ (a-1))))
  (.ite (decide (32<=d))
  (.ret (true,(zZ (a-1))))
  (T.bind (kb c) λe =>
 .ret ((!e),(zZ (a-1))))):T ((Bool×Int))) λ(f,b) =>
 .ite f
  (.ret (false,b))
  (T.bind ((zD i) (Expr.kids c) (d,()) b) λ(g,h) =>
 .ret ((!g),h))
def uL(e:AM.Expr)(deep:Int)(left:Int):T (Bool×Int):=T.fix (λF x=>kT (λy0 y1 y2=>F (y0,y1,y2)) x.1 x.2.1 x.2.2) (e,deep,left)
def vI(b:AM.Expr):T Bool :=
 T.bind (uL b 0 256) λ(a,c) =>
 .ret a
def uI(i:zf):T (AM.Expr×Int×Int) :=
 T.bind (uB (i,((0:Int),((0:Int),(false,()))))) λ(a,e,b,c)=>let d:=((Expr.mk 0 (false,([],([],()))) [] []),(c,a));
 .ite (b != 0)
  (.ret ((Expr.mk 0 (false,([],([],()))) [] []),(e,b)))
  (T.bind (.ite c.2.2.2.1
  (.ret (true,d))
  (T.bind (vI a) λf =>
 .ret ((!f),d)):T ((Bool×AM.Expr×z8×AM.Expr))) λ(g,j,k,h) =>
 .ite g
  (.ret ((Expr.mk 0 (false,([],([],()))) [] []),(0,3)))
  (.ret (h,(0,0))))
def strings_Contains(a:zf)(b:zf):T Bool :=
 .zC (a.length<4294967281) <|
 .ret (decide (0<=gK a b))
def wR(b:zf)(v:zf):T (AM.Expr×AM.Expr×zf×Int) :=
 T.bind (strings_IndexAny b [60,61]) λa=>let c:=um (zZ (a+1)) (b.length:Int) b;
 .ite (decide (a<0))
  (.ret ((Expr.mk 0 (false,([],([],()))) [] []),((Expr.mk 0 (false,([],([],()))) [] []),([],2))))
  (.zC (gb 0 a b.length) <|
 .zC (gb (zZ (a+1)) (b.length:Int) b.length) <|
 .zC (gb a (zZ (a+1)) b.length) <|
 T.bind (T.bind (.ite (zk (um a (zZ (a+1)) b) [60])
  (T.bind (strings_HasPrefix c [61]) λm =>
 .ret (m,((Expr.mk 0 (false,([],([],()))) [] []),(Expr.mk 0 (false,([],([],()))) [] []))))
  (.ret (false,((Expr.mk 0 (false,([],([],()))) [] []),(Expr.mk 0 (false,([],([],()))) [] [])))):T ((Bool×AM.Expr×AM.Expr))) λ(n,e,f) =>
 .ite n
  (.zC (gb 1 (c.length:Int) c.length) <|
 .ret ([60,61],((um 1 (c.length:Int) c),(e,f))))
  (.ret ((um a (zZ (a+1)) b),(c,(e,f)))):T ((zf×zf×AM.Expr×AM.Expr))) λ(g,o,w,p) =>
 T.bind (uI (um 0 a b)) λ(d,x,h) =>
 .ite (h != 0)
  (.ret (d,(p,([],h))))
  (T.bind (T.bind (uI o) λ(i,y,j) =>
 T.bind (.ite (j==0)
  (T.bind (strings_Contains v g) λq =>
 .ret ((!q),(d,i)))
  (.ret (false,(d,i))):T ((Bool×AM.Expr×AM.Expr))) λ(r,k,l) =>
 .ite r
  (.ret (2,(k,l)))
  (.ret (j,(k,l))):T ((Int×AM.Expr×AM.Expr))) λ(s,t,u) =>
 .ret (t,(u,(g,s)))))
def wb  : T (List zf) :=
 .ret ([[61],[60],[60,61]]:List zf)
def qw(b:(List zf))(c:zf)(d:Int):Int->T (Int⊕(Unit⊕Int))
 | a =>
 .ite (decide (a<d))
  (oI a b <|
 .ite (zk c (nth b a (zq .str)))
  (.ret (.inr (.inr a)))
  (.ret (.inl (zZ (a+1)))))
  (.ret (.inr (.inl ())))
def jq s1 v1 x s:=T.loop (qw s1 v1 x) s
def qx(a:(List zf))(c:zf):T Int :=
 T.bind (jq a c (a.length:Int) 0) <|
 Sum.elim (λ_ =>
 .ret (-1))
  (λb =>
 .ret b)
def xl  : T (List zf) :=
 .ret ([[114,101,113,117,105,114,101,100],[115,116,114,111,110,103],[109,101,100,105,117,109],[119,101,97,107]]:List zf)
def xJ(b:(List zf))(c:zf):T Bool :=
 T.bind (qx b c) λa =>
 .ret (decide (0<=a))
def xG(a:(List zf))(b:Int)(c:Int)(d:zf):T Bool :=
 .zC ((((a.length:Int)==b)=true)->(qO c a.length)) <|
 .ret (((a.length:Int)==b)&&(zk (nth a c (zq .str)) d))
def uJ(b:(List zf))(a:Int):T (zf×Bool) :=
 .ite ((b.length:Int)==a)
  (.ret ([],true))
  (T.bind (T.bind (xG b (zZ (a+2)) a [119,104,101,110]) λc =>
 .ite c
  (oI (zZ (a+1)) b <|
 T.bind (qS (nth b (zZ (a+1)) (zq .str))) λd =>
 .ret d)
  (.ret false):T (Bool)) λe =>
 .ite e
  (oI (zZ (a+1)) b <|
 .ret ((nth b (zZ (a+1)) (zq .str)),true))
  (.ret ([],false)))
def wC(i:(List zf))(x:zf)(z:(Unit))(k:(List Switch))(l:(List Param))(j:(List xc))(m:(List Field))(n:(List qV))(o:(List Check)):T (Int×(Unit)×(List Switch)×(List Param)×(List xc)×(List Field)×(List qV)×(List Check)) :=
 let p:=((),(k,(l,(j,(m,(n,o))))));  T.bind (.ite ((i.length:Int) != 2)
  (oY k l j m n o <|
 .ret (true,p))
  (oI 1 i <|
 T.bind (qS (nth i 1 (zq .str))) λr =>
 .ite (!r)
  (oY k l j m n o <|
 .ret (true,p))
  (oY k l j m n o <|
 .ret (((j.length:Int)==0),p))):T ((Bool×(Unit)×(List Switch)×(List Param)×(List xc)×(List Field)×(List qV)×(List Check)))) λ(s,y,e,f,b,g,h,a) =>
 .ite s
  (oY e f b g h a <|
 .ret (2,((),(e,(f,(b,(g,(h,a))))))))
  (oI 1 i <|
 T.bind (wR x [60,61]) λ(c,d,t,u) =>
 T.bind (wb) λv =>
 T.bind (qx v t) λw=>let q:=a++([((nth i 1 (zq .str)),((zZ ((b.length:Int)-1)),(w,((Expr.mk (Expr.kind c) ((Expr.num c).1,((Expr.num c).2.1,((Expr.num c).2.2.1,()))) (Expr.name c) (Expr.kids c)),((Expr.mk (Expr.kind d) ((Expr.num d).1,((Expr.num d).2.1,((Expr.num d).2.2.1,()))) (Expr.name d) (Expr.kids d)),())))))]:List Check);
 oA a 240 <|
 oC e <|
 oC f <|
 oC b <|
 oC g <|
 oC h <|
 .zC (vG (a.length+1) 0 (a.length+1) q.length) <|
 oE e <|
 oE f <|
 oE b <|
 oE g <|
 oE h <|
 .zC ((a.length+1)=q.length) <|
 .ret (u,((),(e,(f,(b,(g,(h,q))))))))
def xT(a:(List zf))(A:zf)(D:(Unit))(j:(List Switch))(k:(List Param))(l:(List xc))(m:(List Field))(n:(List qV))(o:(List Check)):T (Int×(Unit)×(List Switch)×(List Param)×(List xc)×(List Field)×(List qV)×(List Check)) :=
 let p:=((),(j,(k,(l,(m,(n,o))))));  T.bind (.ite (decide ((a.length:Int)<3))
  (oY j k l m n o <|
 .ret (true,p))
  (T.bind (xl) λr =>
 oI 1 a <|
 T.bind (xJ r (nth a 1 (zq .str))) λs =>
 .ite (!s)
  (oY j k l m n o <|
 .ret (true,p))
  (oI 2 a <|
 T.bind (qS (nth a 2 (zq .str))) λt =>
 oY j k l m n o <|
 .ret ((!t),p))):T ((Bool×(Unit)×(List Switch)×(List Param)×(List xc)×(List Field)×(List qV)×(List Check)))) λ(u,B,c,d,e,f,b,g) =>
 .ite u
  (oY c d e f b g <|
 .ret (2,((),(c,(d,(e,(f,(b,g))))))))
  (T.bind (uJ a 3) λ(v,w) =>
 .ite (!w)
  (oY c d e f b g <|
 .ret (2,((),(c,(d,(e,(f,(b,g))))))))
  (oI 2 a <|
 T.bind (xl) λx =>
 oI 1 a <|
 T.bind (qx x (nth a 1 (zq .str))) λy =>
 T.bind (wR A [61]) λ(h,i,C,z)=>let q:=b++([((nth a 2 (zq .str)),(y,(v,((Expr.mk (Expr.kind h) ((Expr.num h).1,((Expr.num h).2.1,((Expr.num h).2.2.1,()))) (Expr.name h) (Expr.kids h)),((Expr.mk (Expr.kind i) ((Expr.num i).1,((Expr.num i).2.1,((Expr.num i).2.2.1,()))) (Expr.name i) (Expr.kids i)),())))))]:List qV);
 oA b 248 <|
 oC c <|
 oC d <|
 oC e <|
 oC f <|
 .zC (vG (b.length+1) 0 (b.length+1) q.length) <|
 oC g <|
 oE c <|
 oE d <|
 oE e <|
 oE f <|
 .zC ((b.length+1)=q.length) <|
 oE g <|
 .ret (z,((),(c,(d,(e,(f,(q,g)))))))))
def vW(a:(List zf))(s:(Unit))(h:(List Switch))(i:(List Param))(j:(List xc))(k:(List Field))(l:(List qV))(m:(List Check)):T (Bool×(Unit)×(List Switch)×(List Param)×(List xc)×(List Field)×(List qV)×(List Check)) :=
 let n:=((),(h,(i,(j,(k,(l,m))))));  T.bind (.ite ((a.length:Int) != 3)
  (oY h i j k l m <|
 .ret (true,n))
  (oI 1 a <|
 T.bind (qS (nth a 1 (zq .str))) λp =>
 .ite (!p)
  (oY h i j k l m <|
 .ret (true,n))
  (oI 2 a <|
 .ite (!(zk (nth a 2 (zq .str)) [111,110]))
  (oI 2 a <|
 oY h i j k l m <|
 .ret ((!(zk (nth a 2 (zq .str)) [111,102,102])),n))
  (oY h i j k l m <|
 .ret (false,n)))):T ((Bool×(Unit)×(List Switch)×(List Param)×(List xc)×(List Field)×(List qV)×(List Check)))) λ(q,r,b,c,d,e,f,g)=>let o:=b++([((nth a 1 (zq .str)),((zk (nth a 2 (zq .str)) [111,110]),()))]:List Switch);
 .ite q
  (oY b c d e f g <|
 .ret (false,((),(b,(c,(d,(e,(f,g))))))))
  (oI 1 a <|
 oI 2 a <|
 oA b 24 <|
 .zC (vG (b.length+1) 0 (b.length+1) o.length) <|
 oC c <|
 oC d <|
 oC e <|
 oC f <|
 oC g <|
 .zC ((b.length+1)=o.length) <|
 oE c <|
 oE d <|
 oE e <|
 oE f <|
 oE g <|
 .ret (true,((),(o,(c,(d,(e,(f,g))))))))
def vq(b:(List zf))(t:(Unit))(h:(List Switch))(i:(List Param))(j:(List xc))(k:(List Field))(l:(List qV))(m:(List Check)):T (Bool×(Unit)×(List Switch)×(List Param)×(List xc)×(List Field)×(List qV)×(List Check)) :=
 T.bind (.ite ((b.length:Int) != 3)
  (oY h i j k l m <|
 .ret (true,((),(h,(i,(j,(k,(l,m))))))))
  (oI 1 b <|
 T.bind (qS (nth b 1 (zq .str))) λp =>
 oY h i j k l m <|
 .ret ((!p),((),(h,(i,(j,(k,(l,m)))))))):T ((Bool×(Unit)×(List Switch)×(List Param)×(List xc)×(List Field)×(List qV)×(List Check)))) λ(q,s,c,a,d,e,f,g) =>
 .ite q
  (oY c a d e f g <|
 .ret (false,((),(c,(a,(d,(e,(f,g))))))))
  (oI 2 b <|
 T.bind (kh (nth b 2 (zq .str))) λ(n,r)=>let o:=a++([((nth b 1 (zq .str)),((n.1,(n.2.1,(n.2.2.1,()))),()))]:List Param);
 oI 1 b <|
 oA a 72 <|
 oC c <|
 .zC (vG (a.length+1) 0 (a.length+1) o.length) <|
 oC d <|
 oC e <|
 oC f <|
 oC g <|
 oE c <|
 .zC ((a.length+1)=o.length) <|
 oE d <|
 oE e <|
 oE f <|
 oE g <|
 .ret ((r==0),((),(c,(o,(d,(e,(f,g))))))))
def wQ(b:(List zf))(t:(Unit))(h:(List Switch))(i:(List Param))(j:(List xc))(k:(List Field))(l:(List qV))(m:(List Check)):T (Bool×(Unit)×(List Switch)×(List Param)×(List xc)×(List Field)×(List qV)×(List Check)) :=
 T.bind (.ite (decide ((b.length:Int)<2))
  (oY h i j k l m <|
 .ret (true,((),(h,(i,(j,(k,(l,m))))))))
  (oI 1 b <|
 T.bind (qS (nth b 1 (zq .str))) λo =>
 oY h i j k l m <|
 .ret ((!o),((),(h,(i,(j,(k,(l,m)))))))):T ((Bool×(Unit)×(List Switch)×(List Param)×(List xc)×(List Field)×(List qV)×(List Check)))) λ(p,s,c,d,a,e,f,g) =>
 .ite p
  (oY c d a e f g <|
 .ret (false,((),(c,(d,(a,(e,(f,g))))))))
  (T.bind (uJ b 2) λ(q,r)=>let n:=a++([((nth b 1 (zq .str)),(q,()))]:List xc);
 oI 1 b <|
 oA a 32 <|
 oC c <|
 oC d <|
 .zC (vG (a.length+1) 0 (a.length+1) n.length) <|
 oC e <|
 oC f <|
 oC g <|
 oE c <|
 oE d <|
 .zC ((a.length+1)=n.length) <|
 oE e <|
 oE f <|
 oE g <|
 .ret (r,((),(c,(d,(n,(e,(f,g))))))))
def vp(a:(List zf))(aa:(Unit))(A:(List Switch))(B:(List Param))(s:(List xc))(C:(List Field))(D:(List qV))(E:(List Check)):T (Bool×(Unit)×(List Switch)×(List Param)×(List xc)×(List Field)×(List qV)×(List Check)) :=
 let N:=((),(A,(B,(s,(C,(D,E)))))); let b:=(a.length:Int);  T.bind (.ite (decide (b<2))
  (oY A B s C D E <|
 .ret (true,N))
  (oI 1 a <|
 T.bind (qS (nth a 1 (zq .str))) λO =>
 .ite (!O)
  (oY A B s C D E <|
 .ret (true,N))
  (oY A B s C D E <|
 .ret (((s.length:Int)==0),N))):T ((Bool×(Unit)×(List Switch)×(List Param)×(List xc)×(List Field)×(List qV)×(List Check)))) λ(P,W,g,h,c,i,j,k) =>
 .ite P
  (oY g h c i j k <|
 .ret (false,((),(g,(h,(c,(i,(j,k))))))))
  (oI 1 a <|
 .zC (gb 2 b a.length) <|
 T.bind (.zC (((decide (0<(Nat.cast (vQ (e:=.str) 2 b a).length:Int)))=true)->(qO 0 (vQ (e:=.str) 2 b a).length)) <|
 .ite ((decide (0<(Nat.cast (vQ (e:=.str) 2 b a).length:Int)))&&(zk (nth (vQ (e:=.str) 2 b a) 0 (zq .str)) [109,117,115,116]))
  (.zC (gb 1 (Nat.cast (vQ (e:=.str) 2 b a).length:Int) (vQ (e:=.str) 2 b a).length) <|
 oY g h c i j k <|
 .ret ((vQ (e:=.str) 1 (Nat.cast (vQ (e:=.str) 2 b a).length:Int) (vQ (e:=.str) 2 b a)),((),(g,(h,(c,(i,(j,(k,((nth a 1 (zq .str)),((zZ ((c.length:Int)-1)),(true,((0:Int),())))))))))))))
  (oY g h c i j k <|
 .ret ((vQ (e:=.str) 2 b a),((),(g,(h,(c,(i,(j,(k,((nth a 1 (zq .str)),((zZ ((c.length:Int)-1)),(false,((0:Int),()))))))))))))):T (((List zf)×(Unit)×(List Switch)×(List Param)×(List xc)×(List Field)×(List qV)×(List Check)×Field))) λ(d,X,m,n,o,p,q,r,R)=>let l:=nth d 1 (zq .str); let G:=((),(m,(n,(o,(p,(q,(r,R)))))));
 T.bind (T.bind (T.bind (xG d 2 0 [115,99,97,108,101]) λS =>
 .ite S
  (oI 1 d <|
 .ite ((l.length:Int)==1)
  (oI 1 d <|
 .ite (!(strLt l [48]))
  (oI 1 d <|
 oY m n o p q r <|
 .ret (((strLt l [57])||(zk l [57])),G))
  (oY m n o p q r <|
 .ret (false,G)))
  (oY m n o p q r <|
 .ret (false,G)))
  (oY m n o p q r <|
 .ret (false,G)):T ((Bool×(Unit)×(List Switch)×(List Param)×(List xc)×(List Field)×(List qV)×(List Check)×Field))) λ(U,Y,t,u,v,w,x,y,z) =>
 .ite U
  (oI 1 d <|
 oI 0 l <|
 oY t u v w x y <|
 .ret ([],((),(t,(u,(v,(w,(x,(y,(z.1,(z.2.1,(z.2.2.1,((zZ (Lm ((qz l 0)-48))),())))))))))))))
  (oY t u v w x y <|
 .ret (d,((),(t,(u,(v,(w,(x,(y,z))))))))):T (((List zf)×(Unit)×(List Switch)×(List Param)×(List xc)×(List Field)×(List qV)×(List Check)×Field))) λ(V,Z,H,I,J,f,K,L,M) =>
 oA f 40 <|
 oC H <|
 oC I <|
 oC J <|
 .zC (vG (f.length+1) 0 (f.length+1) (f++[M]).length) <|
 oC K <|
 oC L <|
 oE H <|
 oE I <|
 oE J <|
 .zC ((f.length+1)=(f++[M]).length) <|
 oE K <|
 oE L <|
 .ret (((V.length:Int)==0),((),(H,(I,(J,((f++[M]),(K,L))))))))
def gx(ag:zf)(an:(Unit))(b:(List Switch))(c:(List Param))(d:(List xc))(e:(List Field))(f:(List qV))(g:(List Check)):T (Int×(Unit)×(List Switch)×(List Param)×(List xc)×(List Field)×(List qV)×(List Check)) :=
 let j:=((),(b,(c,(d,(e,(f,g))))));  T.bind (strings_Cut ag [58]) λ(Z,K,i) =>
 T.bind (bP Z) λa=>let J:=decide (0<(a.length:Int)); let h:=nth a 0 (zq .str);
 .zC (((((a.length:Int)==0)=true)->(((!i)=false)->((J=true)->((qO 0 a.length)/\(qO 0 h.length)))))/\((((a.length:Int)==0)=false)->((J=true)->((qO 0 a.length)/\(qO 0 h.length))))) <|
 .ite (bif ((a.length:Int)==0)then((!i)||(J&&((qz h 0)==35)))else(J&&((qz h 0)==35)))
  (oY b c d e f g <|
 .ret (0,j))
  (.ite ((a.length:Int)==0)
  (.ite (!false)
  (oY b c d e f g <|
 .ret (2,j))
  (oY b c d e f g <|
 .ret (0,j)))
  (.zC ((i=true)->(qO 0 a.length)) <|
 .ite (i&&(zk h [99,104,101,99,107]))
  (oY b c d e f g <|
 T.bind (wC a K () b c d e f g) λ(aa,ah,L,M,N,O,P,R) =>
 oY L M N O P R <|
 .ret (aa,((),(L,(M,(N,(O,(P,R))))))))
  (.zC ((i=true)->(qO 0 a.length)) <|
 .ite (i&&(zk h [114,117,108,101]))
  (oY b c d e f g <|
 T.bind (xT a K () b c d e f g) λ(ab,ai,S,U,V,W,X,Y) =>
 oY S U V W X Y <|
 .ret (ab,((),(S,(U,(V,(W,(X,Y))))))))
  (.ite i
  (.ite (!false)
  (oY b c d e f g <|
 .ret (2,j))
  (oY b c d e f g <|
 .ret (0,j)))
  (oI 0 a <|
 .ite (zk h [115,119,105,116,99,104])
  (oY b c d e f g <|
 T.bind (vW a () b c d e f g) λ(ac,aj,k,l,m,n,o,p) =>
 .ite (!ac)
  (oY k l m n o p <|
 .ret (2,((),(k,(l,(m,(n,(o,p))))))))
  (oY k l m n o p <|
 .ret (0,((),(k,(l,(m,(n,(o,p)))))))))
  (oI 0 a <|
 .ite (zk h [112,97,114,97,109])
  (oY b c d e f g <|
 T.bind (vq a () b c d e f g) λ(ad,ak,q,r,s,t,u,v) =>
 .ite (!ad)
  (oY q r s t u v <|
 .ret (2,((),(q,(r,(s,(t,(u,v))))))))
  (oY q r s t u v <|
 .ret (0,((),(q,(r,(s,(t,(u,v)))))))))
  (oI 0 a <|
 .ite (zk h [112,97,103,101])
  (oY b c d e f g <|
 T.bind (wQ a () b c d e f g) λ(ae,al,w,x,y,z,A,B) =>
 .ite (!ae)
  (oY w x y z A B <|
 .ret (2,((),(w,(x,(y,(z,(A,B))))))))
  (oY w x y z A B <|
 .ret (0,((),(w,(x,(y,(z,(A,B)))))))))
  (oI 0 a <|
 .ite (zk h [102,105,101,108,100])
  (oY b c d e f g <|
 T.bind (vp a () b c d e f g) λ(af,am,C,D,E,G,H,I) =>
 .ite (!af)
  (oY C D E G H I <|
 .ret (2,((),(C,(D,(E,(G,(H,I))))))))
  (oY C D E G H I <|
 .ret (0,((),(C,(D,(E,(G,(H,I)))))))))
  (.ite (!false)
  (oY b c d e f g <|
 .ret (2,j))
  (oY b c d e f g <|
 .ret (0,j)))))))))))
def wU(b:Switch):T Bool :=
 T.bind (qS b.1) λa =>
 .ret (!a)
def qt(b:(List Switch))(d:Switch->T Bool)(e:Int):Int->T (Int⊕(Unit⊕Int))
 | a =>
 .ite (decide (a<e))
  (oI a b <|
 T.bind (d (nth b a (zq zG))) λc =>
 .ite c
  (.ret (.inr (.inr a)))
  (.ret (.inl (zZ (a+1)))))
  (.ret (.inr (.inl ())))
def vT s1 f x s:=T.loop (qt s1 f x) s
def xB(a:(List Switch))(c:Switch->T Bool):T Int :=
 T.bind (vT a c (a.length:Int) 0) <|
 Sum.elim (λ_ =>
 .ret (-1))
  (λb =>
 .ret b)
def qu(b:(List Switch))(c:Switch->T Bool):T Bool :=
 T.bind (xB b c) λa =>
 .ret (decide (0<=a))
def wT(a:Param):T Bool :=
 T.bind (qS a.1) λb =>
 .ite (!b)
  (.ret true)
  (T.bind (my a.2.1) λc =>
 .ite (!c)
  (.ret true)
  (T.bind (gL a.2.1) λd =>
 .ret d))
def qD(b:(List Param))(d:Param->T Bool)(e:Int):Int->T (Int⊕(Unit⊕Int))
 | a =>
 .ite (decide (a<e))
  (oI a b <|
 T.bind (d (nth b a (zq zV))) λc =>
 .ite c
  (.ret (.inr (.inr a)))
  (.ret (.inl (zZ (a+1)))))
  (.ret (.inr (.inl ())))
def ub s1 f x s:=T.loop (qD s1 f x) s
def xK(a:(List Param))(c:Param->T Bool):T Int :=
 T.bind (ub a c (a.length:Int) 0) <|
 Sum.elim (λ_ =>
 .ret (-1))
  (λb =>
 .ret b)
def qC(b:(List Param))(c:Param->T Bool):T Bool :=
 T.bind (xK b c) λa =>
 .ret (decide (0<=a))
def jf(a:zf):T Bool :=
 .ite (zk a [])
  (.ret true)
  (T.bind (qS a) λb =>
 .ret b)
def wN(a:xc):T Bool :=
 T.bind (qS a.1) λb =>
 .ite (!b)
  (.ret true)
  (T.bind (jf a.2.1) λc =>
 .ret (!c))
def qQ(b:(List xc))(d:xc->T Bool)(e:Int):Int->T (Int⊕(Unit⊕Int))
 | a =>
 .ite (decide (a<e))
  (oI a b <|
 T.bind (d (nth b a (zq q9))) λc =>
 .ite c
  (.ret (.inr (.inr a)))
  (.ret (.inl (zZ (a+1)))))
  (.ret (.inr (.inl ())))
def uz s1 f x s:=T.loop (qQ s1 f x) s
def w8(a:(List xc))(c:xc->T Bool):T Int :=
 T.bind (uz a c (a.length:Int) 0) <|
 Sum.elim (λ_ =>
 .ret (-1))
  (λb =>
 .ret b)
def qN(b:(List xc))(c:xc->T Bool):T Bool :=
 T.bind (w8 b c) λa =>
 .ret (decide (0<=a))
def bV(b:Form):T Bool :=
 T.bind (qu b.1 (λa=>wU a)) λc =>
 .ite (!c)
  (T.bind (qC b.2.1 (λa=>wT a)) λd =>
 .ite (!d)
  (T.bind (qN b.2.2.1 (λa=>wN a)) λe =>
 .ret (!e))
  (.ret false))
  (.ret false)
def kN(a:Int)(b:Int)(c:Int):T Bool :=
 .ret ((decide ((pz b 0)<=a))&&(decide (a<c)))
def ud(i:Form)(c:(List Field))(j:Int):(Int×Int)->T ((Int×Int)⊕(Unit⊕Bool))
 | (h,b)=>let a:=nth c b (zq zQ);
 .ite (decide (b<j))
  (oI b c <|
 T.bind (T.bind (qS a.1) λd =>
 .ite (!d)
  (.ret (true,a))
  (T.bind (kN a.2.1 h (i.2.2.1.length:Int)) λe =>
 .ite (!e)
  (.ret (true,a))
  (.ite (decide (a.2.2.2.1<(0:Int)))
  (.ret (true,a))
  (.ret ((decide ((9:Int)<a.2.2.2.1)),a)))):T ((Bool×Field))) λ(f,g) =>
 .ite f
  (.ret (.inr (.inr false)))
  (.ret (.inl (g.2.1,(zZ (b+1))))))
  (.ret (.inr (.inl ())))
def dX f1 x x1 s:=T.loop (ud f1 x x1) s
def gw(a:Form):T Bool :=
 T.bind (dX a a.2.2.2.1 (a.2.2.2.1.length:Int) (0,0)) <|
 Sum.elim (λ_ =>
 .ret true)
  (λb =>
 .ret b)
def xI(a:qV):T Bool :=
 T.bind (qS a.1) λb =>
 .ite (!b)
  (.ret true)
  (.ite (decide (a.2.1<(0:Int)))
  (.ret true)
  (T.bind (xl) λc =>
 .ite (decide ((c.length:Int)<=a.2.1))
  (.ret true)
  (T.bind (jf a.2.2.1) λd =>
 .ite (!d)
  (.ret true)
  (T.bind (vI a.2.2.2.1) λe =>
 .ite (!e)
  (.ret true)
  (T.bind (vI a.2.2.2.2.1) λf =>
 .ret (!f))))))
def qR(b:(List qV))(d:qV->T Bool)(e:Int):Int->T (Int⊕(Unit⊕Int))
 | a =>
 .ite (decide (a<e))
  (oI a b <|
 T.bind (d (nth b a (zq ql))) λc =>
 .ite c
  (.ret (.inr (.inr a)))
  (.ret (.inl (zZ (a+1)))))
  (.ret (.inr (.inl ())))
def uC s1 f x s:=T.loop (qR s1 f x) s
def w6(a:(List qV))(c:qV->T Bool):T Int :=
 T.bind (uC a c (a.length:Int) 0) <|
 Sum.elim (λ_ =>
 .ret (-1))
  (λb =>
 .ret b)
def qJ(b:(List qV))(c:qV->T Bool):T Bool :=
 T.bind (w6 b c) λa =>
 .ret (decide (0<=a))
def u6(l:Form)(c:(List Check))(m:Int):(Int×Int)->T ((Int×Int)⊕(Unit⊕Bool))
 | (k,b)=>let a:=nth c b (zq q8);
 .ite (decide (b<m))
  (oI b c <|
 T.bind (T.bind (qS a.1) λd =>
 .ite (!d)
  (.ret (true,a))
  (T.bind (kN a.2.1 k (l.2.2.1.length:Int)) λe =>
 .ite (!e)
  (.ret (true,a))
  (.ite (decide (a.2.2.1<(0:Int)))
  (.ret (true,a))
  (T.bind (wb) λf =>
 .ite (decide ((f.length:Int)<=a.2.2.1))
  (.ret (true,a))
  (T.bind (vI (Expr.mk (Expr.kind a.2.2.2.1) ((Expr.num a.2.2.2.1).1,((Expr.num a.2.2.2.1).2.1,((Expr.num a.2.2.2.1).2.2.1,()))) (Expr.name a.2.2.2.1) (Expr.kids a.2.2.2.1))) λg =>
 .ite (!g)
  (.ret (true,a))
  (T.bind (vI (Expr.mk (Expr.kind a.2.2.2.2.1) ((Expr.num a.2.2.2.2.1).1,((Expr.num a.2.2.2.2.1).2.1,((Expr.num a.2.2.2.2.1).2.2.1,()))) (Expr.name a.2.2.2.2.1) (Expr.kids a.2.2.2.2.1))) λh =>
 .ret ((!h),a)))))):T ((Bool×Check))) λ(i,j) =>
 .ite i
  (.ret (.inr (.inr false)))
  (.ret (.inl (j.2.1,(zZ (b+1))))))
  (.ret (.inr (.inl ())))
def dU f1 x x1 s:=T.loop (u6 f1 x x1) s
def gC(a:Form):T Bool :=
 T.bind (dU a a.2.2.2.2.2.1 (a.2.2.2.2.2.1.length:Int) (0,0)) <|
 Sum.elim (λ_ =>
 T.bind (qJ a.2.2.2.2.1 (λb=>xI b)) λc =>
 .ret (!c))
  (λd =>
 .ret d)
def cg(v:Unit)(l:List Int):T (Unit×List Int):=.ret (v,l)
def zF(b:zf)(e:(Unit))(c:(List Int)):T (Int×(Unit)×(List Int)) :=
 oC c <|
 oE c <|
 T.bind (cg () c) λ(d,a) =>
 .zC (UH a.length a.length 0 a.length a.length (bytesOf b).length 1) <|
 oM (a.length+(bytesOf b).length) (a++(bytesOf b)).length <|
 .ret ((b.length:Int),((),(a++(bytesOf b))))
def cG(g:Rat):T zf :=
 T.bind (hO g) λa =>
 T.bind (fh a) λb =>
 T.bind (gO a.2.1) λc =>
 oK b c <|
 T.bind (jS 1) λe =>
 T.bind (dw a.2.2.1 e) λf =>
 .ite (f != 0)
  (T.bind (gO a.2.2.1) λd =>
 oK [47] d <|
 oK (cat b c) (cat [47] d) <|
 .ret (cat (cat b c) (cat [47] d)))
  (.ret (cat b c))
def bg(a:zf):T zf :=
 .ite (zk a [])
  (.ret [])
  (oK [32,119,104,101,110,32] a <|
 .ret (cat [32,119,104,101,110,32] a))
def strconv_Itoa(a:Int):T zf :=
 .zC ((-9223372036854775808)<=a/\a<=9223372036854775807) <|
 .ret (nP a)
def bT(a:Field):T zf :=
 let c:=cat [102,105,101,108,100,32] a.1; let b:=bif a.2.2.1 then(cat c [32,109,117,115,116])else c;  oK [102,105,101,108,100,32] a.1 <|
 .zC ((a.2.2.1=true)->((c.length+([32,109,117,115,116]:zf).length)<=4611686018427387904)) <|
 .ite (decide ((0:Int)<a.2.2.2.1))
  (T.bind (strconv_Itoa a.2.2.2.1) λe=>let d:=cat [32,115,99,97,108,101,32] e;
 oK [32,115,99,97,108,101,32] e <|
 oK b d <|
 oK (cat b d) [10] <|
 .ret (cat (cat b d) [10]))
  (oK b [10] <|
 .ret (cat b [10]))
def yr(a:AM.Expr):T Int :=
 .ite (bif ((Expr.kind a)==3)then((Expr.kind a)==3)else((Expr.kind a)==4))
  (.ret 1)
  (.ite (bif ((Expr.kind a)==5)then((Expr.kind a)==5)else((Expr.kind a)==6))
  (.ret 2)
  (.ite ((Expr.kind a)==7)
  (.ret 3)
  (.ret 4)))
def kg(c:AM.Expr->T zf)(b:AM.Expr)(f:Int):T zf :=
 T.bind (yr b) λd =>
 .ite (decide (d<f))
  (T.bind (c b) λa =>
 oK [40] a <|
 oK (cat [40] a) [41] <|
 .ret (cat (cat [40] a) [41]))
  (T.bind (c b) λe =>
 .ret e)
def gD(d:AM.Expr->T zf)(a:AM.Expr):T zf :=
 T.bind (.ite ((Expr.kind a)==1)
  (T.bind (cz (Expr.num a)) λ(g,k) =>
 .ret (.inr g))
  (.ite ((Expr.kind a)==2)
  (.ret (.inr (Expr.name a)))
  (.ite ((Expr.kind a)==7)
  (oI 0 (Expr.kids a) <|
 T.bind ((kg d) (nth (Expr.kids a) 0 (zq .expr)) 3) λe =>
 oK [45] e <|
 .ret (.inr (cat [45] e)))
  (.ite ((Expr.kind a)==3)
  (.ret (.inl [32,43,32]))
  (.ite ((Expr.kind a)==4)
  (.ret (.inl [32,45,32]))
  (.ite ((Expr.kind a)==5)
  (.ret (.inl [32,42,32]))
  (.ite ((Expr.kind a)==6)
  (.ret (.inl [32,47,32]))
  (.ret (.inl [])))))))):T (zf⊕zf)) <|
 Sum.elim (λb =>
 oI 0 (Expr.kids a) <|
 T.bind (yr a) λh =>
 T.bind ((kg d) (nth (Expr.kids a) 0 (zq .expr)) h) λc =>
 oK c b <|
 oI 1 (Expr.kids a) <|
 T.bind (yr a) λi =>
 T.bind ((kg d) (nth (Expr.kids a) 1 (zq .expr)) (zZ (i+1))) λf =>
 oK (cat c b) f <|
 .ret (cat (cat c b) f))
  (λj =>
 .ret j)
def dy(e:AM.Expr):T zf:=T.fix (λF x=>gD (λy0=>F (y0)) x) e
def b5(a:AM.Expr):T zf :=
 T.bind (vI a) λb =>
 .ite (!b)
  (.ret [])
  (T.bind (dy a) λc =>
 .ret c)
def yE(e:AM.Expr)(a:zf)(f:AM.Expr):T zf :=
 T.bind (b5 e) λc=>let b:=cat (cat [32,58,32] c) [32];
 oK [32,58,32] c <|
 oK (cat [32,58,32] c) [32] <|
 oK b a <|
 oK (cat b a) [32] <|
 T.bind (b5 f) λd =>
 oK (cat (cat b a) [32]) d <|
 oK (cat (cat (cat b a) [32]) d) [10] <|
 .ret (cat (cat (cat (cat b a) [32]) d) [10])
def ue(f:Int)(k:Form)(d:(List Field))(g:Int):(Int×(Unit)×(List Int))->T ((Int×(Unit)×(List Int))⊕(((Unit)×(List Int))))
 | (b,j,a) =>
 .ite (decide (b<g))
  (oI b d <|
 .ite ((nth d b (zq zQ)).2.1==f)
  (T.bind (bT (nth d b (zq zQ))) λe =>
 oC a <|
 oE a <|
 T.bind (zF e () a) λ(h,i,c) =>
 oC c <|
 oE c <|
 .ret (.inl ((zZ (b+1)),((),c))))
  (oC a <|
 oE a <|
 .ret (.inl ((zZ (b+1)),((),a)))))
  (oC a <|
 oE a <|
 .ret (.inr ((),a)))
def eb i1 f1 x x1 s:=T.loop (ue i1 f1 x x1) s
def ua(h:Int)(g:(List Check))(i:Int):(Int×(Unit)×(List Int))->T ((Int×(Unit)×(List Int))⊕(((Unit)×(List Int))))
 | (c,l,b)=>let a:=nth g c (zq q8);
 .ite (decide (c<i))
  (oI c g <|
 .ite (a.2.1==h)
  (oK [99,104,101,99,107,32] a.1 <|
 T.bind (wb) λe =>
 .zC (qO a.2.2.1 e.length) <|
 T.bind (yE (Expr.mk (Expr.kind a.2.2.2.1) ((Expr.num a.2.2.2.1).1,((Expr.num a.2.2.2.1).2.1,((Expr.num a.2.2.2.1).2.2.1,()))) (Expr.name a.2.2.2.1) (Expr.kids a.2.2.2.1)) (nth e a.2.2.1 (zq .str)) (Expr.mk (Expr.kind a.2.2.2.2.1) ((Expr.num a.2.2.2.2.1).1,((Expr.num a.2.2.2.2.1).2.1,((Expr.num a.2.2.2.2.1).2.2.1,()))) (Expr.name a.2.2.2.2.1) (Expr.kids a.2.2.2.2.1))) λf =>
 oK (cat [99,104,101,99,107,32] a.1) f <|
 oC b <|
 oE b <|
 T.bind (zF (cat (cat [99,104,101,99,107,32] a.1) f) () b) λ(j,k,d) =>
 oC d <|
 oE d <|
 .ret (.inl ((zZ (c+1)),((),d))))
  (oC b <|
 oE b <|
 .ret (.inl ((zZ (c+1)),((),b)))))
  (oC b <|
 oE b <|
 .ret (.inr ((),b)))
def dY i2 x3 x4 s:=T.loop (ua i2 x3 x4) s
def gJ(a:Form)(b:Int)(m:(Unit))(g:(List Int)):T ((Unit)×(List Int)) :=
 let h:=cat [112,97,103,101,32] (nth a.2.2.1 b (zq q9)).1;  oI b a.2.2.1 <|
 oK [112,97,103,101,32] (nth a.2.2.1 b (zq q9)).1 <|
 oI b a.2.2.1 <|
 T.bind (bg (nth a.2.2.1 b (zq q9)).2.1) λc =>
 oK h c <|
 oK (cat h c) [10] <|
 oC g <|
 oE g <|
 T.bind (zF (cat (cat h c) [10]) () g) λ(i,j,d) =>
 oC d <|
 oE d <|
 T.bind (eb b a a.2.2.2.1 (a.2.2.2.1.length:Int) (0,((),d))) λ(k,e) =>
 oC e <|
 oE e <|
 T.bind (dY b a.2.2.2.2.2.1 (a.2.2.2.2.2.1.length:Int) (0,((),e))) λ(l,f) =>
 oC f <|
 oE f <|
 .ret ((),f)
def dS(v:Unit)(l:List Int):T (zf×Unit):=On l
def uM(k:Form)(e:(List Switch))(g:Int):(Int×(Unit)×(List Int))->T ((Int×(Unit)×(List Int))⊕(((Unit)×(List Int))))
 | (b,j,a)=>let c:=nth e b (zq zG); let f:=bif c.2.1 then[32,111,110,10]else[32,111,102,102,10];
 .ite (decide (b<g))
  (oI b e <|
 oK [115,119,105,116,99,104,32] c.1 <|
 oK (cat [115,119,105,116,99,104,32] c.1) f <|
 oC a <|
 oE a <|
 T.bind (zF (cat (cat [115,119,105,116,99,104,32] c.1) f) () a) λ(h,i,d) =>
 oC d <|
 oE d <|
 .ret (.inl ((zZ (b+1)),((),d))))
  (oC a <|
 oE a <|
 .ret (.inr ((),a)))
def fe f1 x x1 s:=T.loop (uM f1 x x1) s
def uW(l:Form)(g:(List Param))(h:Int):(Int×(Unit)×(List Int))->T ((Int×(Unit)×(List Int))⊕(((Unit)×(List Int))))
 | (c,k,a)=>let b:=nth g c (zq zV); let d:=cat [112,97,114,97,109,32] b.1;
 .ite (decide (c<h))
  (oI c g <|
 oK [112,97,114,97,109,32] b.1 <|
 oK d [32] <|
 T.bind (cG (b.2.1.1,(b.2.1.2.1,(b.2.1.2.2.1,())))) λe =>
 oK (cat d [32]) e <|
 oK (cat (cat d [32]) e) [10] <|
 oC a <|
 oE a <|
 T.bind (zF (cat (cat (cat d [32]) e) [10]) () a) λ(i,j,f) =>
 oC f <|
 oE f <|
 .ret (.inl ((zZ (c+1)),((),f))))
  (oC a <|
 oE a <|
 .ret (.inr ((),a)))
def eQ f2 x3 x4 s:=T.loop (uW f2 x3 x4) s
def uS(d:Form)(e:Int):(Int×(Unit)×(List Int))->T ((Int×(Unit)×(List Int))⊕(((Unit)×(List Int))))
 | (c,g,a) =>
 .ite (decide (c<e))
  (oC a <|
 oE a <|
 T.bind (gJ d c () a) λ(f,b) =>
 oC b <|
 oE b <|
 .ret (.inl ((zZ (c+1)),((),b))))
  (oC a <|
 oE a <|
 .ret (.inr ((),a)))
def fZ f3 x6 s:=T.loop (uS f3 x6) s
def uX(i:(List qV))(j:Int):(Int×(Unit)×(List Int))->T ((Int×(Unit)×(List Int))⊕(((Unit)×(List Int))))
 | (d,m,b)=>let a:=nth i d (zq ql);
 .ite (decide (d<j))
  (oI d i <|
 T.bind (xl) λe=>let c:=cat [114,117,108,101,32] (nth e a.2.1 (zq .str));
 .zC (qO a.2.1 e.length) <|
 oK [114,117,108,101,32] (nth e a.2.1 (zq .str)) <|
 oK c [32] <|
 oK (cat c [32]) a.1 <|
 T.bind (bg a.2.2.1) λf =>
 oK (cat (cat c [32]) a.1) f <|
 T.bind (yE (Expr.mk (Expr.kind a.2.2.2.1) ((Expr.num a.2.2.2.1).1,((Expr.num a.2.2.2.1).2.1,((Expr.num a.2.2.2.1).2.2.1,()))) (Expr.name a.2.2.2.1) (Expr.kids a.2.2.2.1)) [61] (Expr.mk (Expr.kind a.2.2.2.2.1) ((Expr.num a.2.2.2.2.1).1,((Expr.num a.2.2.2.2.1).2.1,((Expr.num a.2.2.2.2.1).2.2.1,()))) (Expr.name a.2.2.2.2.1) (Expr.kids a.2.2.2.2.1))) λh =>
 oK (cat (cat (cat c [32]) a.1) f) h <|
 oC b <|
 oE b <|
 T.bind (zF (cat (cat (cat (cat c [32]) a.1) f) h) () b) λ(k,l,g) =>
 oC g <|
 oE g <|
 .ret (.inl ((zZ (d+1)),((),g))))
  (oC b <|
 oE b <|
 .ret (.inr ((),b)))
def eR x8 x9 s:=T.loop (uX x8 x9) s
def yS(a:Form):T zf :=
 oZ <|
 T.bind (fe a a.1 (a.1.length:Int) (0,((),[]))) λ(g,b) =>
 oC b <|
 oE b <|
 T.bind (eQ a a.2.1 (a.2.1.length:Int) (0,((),b))) λ(h,c) =>
 oC c <|
 oE c <|
 T.bind (fZ a (a.2.2.1.length:Int) (0,((),c))) λ(i,d) =>
 oC d <|
 oE d <|
 T.bind (eR a.2.2.2.2.1 (a.2.2.2.2.1.length:Int) (0,((),d))) λ(j,e) =>
 oC e <|
 oE e <|
 T.bind (dS () e) λ(f,k) =>
 .ret f
def cu(a:Form):T Bool :=
 T.bind (bV a) λb =>
 .ite b
  (T.bind (gw a) λc =>
 .ite c
  (T.bind (gC a) λd =>
 .ite d
  (T.bind (yS a) λe =>
 .ret (decide ((e.length:Int)<=16384)))
  (.ret false))
  (.ret false))
  (.ret false)
def uZ(u:(List zf))(w:Int):(Int×(Unit)×(Unit)×(List Check)×(List Check)×(List qV)×(List qV)×(List Switch)×(List Switch)×(List Param)×(List Param)×(List xc)×(List xc)×(List Field)×(List Field))->T ((Int×(Unit)×(Unit)×(List Check)×(List Check)×(List qV)×(List qV)×(List Switch)×(List Switch)×(List Param)×(List Param)×(List xc)×(List xc)×(List Field)×(List Field))⊕(((Unit)×(Unit)×(List Check)×(List Check)×(List qV)×(List qV)×(List Switch)×(List Switch)×(List Param)×(List Param)×(List xc)×(List xc)×(List Field)×(List Field))⊕(Int×Int×Form×(Unit)×(List Check)×(List Check)×(List qV)×(List qV)×(List Switch)×(List Switch)×(List Param)×(List Param)×(List xc)×(List xc)×(List Field)×(List Field))))
 | (m,y,z,a,n,b,o,c,p,d,q,e,r,f,s) =>
 .ite (decide (m<w))
  (oI m u <|
 oY p q r s o n <|
 T.bind (gx (nth u m (zq .str)) () p q r s o n) λ(t,x,g,h,i,j,k,l)=>let v:=((),(a,(l,(b,(k,(c,(g,(d,(h,(e,(i,(f,j))))))))))));
 .ite (t != 0)
  (oV g h i j k l <|
 oW a l b k c g <|
 oW d h e i f j <|
 .ret (.inr (.inr ((zZ (m+1)),(t,((([]:List Switch),(([]:List Param),(([]:List xc),(([]:List Field),(([]:List qV),(([]:List Check),())))))),v))))))
  (oV c d e f b a <|
 oV g h i j k l <|
 oW a l b k c g <|
 oW d h e i f j <|
 .ret (.inl ((zZ (m+1)),((),v)))))
  (oV c d e f b a <|
 oV p q r s o n <|
 oW a n b o c p <|
 oW d q e r f s <|
 .ret (.inr (.inl ((),((),(a,(n,(b,(o,(c,(p,(d,(q,(e,(r,(f,s))))))))))))))))
def gZ x x1 s:=T.loop (uZ x x1) s
def ki(h:zf):T (Form×Int×Int) :=
 .ite (decide (16384<(h.length:Int)))
  (.ret ((([]:List Switch),(([]:List Param),(([]:List xc),(([]:List Field),(([]:List qV),(([]:List Check),())))))),(0,3)))
  (T.bind (strings_Split h [10]) λg =>
 .zC (vG 0 0 0 0) <|
 .zC (vG 0 0 0 0) <|
 .zC (vG 0 0 0 0) <|
 .zC (vG 0 0 0 0) <|
 .zC (vG 0 0 0 0) <|
 .zC (vG 0 0 0 0) <|
 .zC (vG 0 0 0 0) <|
 .zC (vG 0 0 0 0) <|
 .zC (vG 0 0 0 0) <|
 .zC (vG 0 0 0 0) <|
 .zC (vG 0 0 0 0) <|
 oZ <|
 .zC (0=0) <|
 .zC (0=0) <|
 .zC (0=0) <|
 .zC (0=0) <|
 .zC (0=0) <|
 .zC (0=0) <|
 .zC (0=0) <|
 .zC (0=0) <|
 .zC (0=0) <|
 .zC (0=0) <|
 .zC (0=0) <|
 T.bind (gZ g (g.length:Int) (0,((),((),([],([],([],([],([],([],([],([],([],([],([],[]))))))))))))))) <|
 Sum.elim (λ(n,o,p,a,q,b,r,c,s,d,t,e,u,f)=>let i:=((List.drop 0 (List.take (0+c.length) c)),((List.drop 0 (List.take (0+d.length) d)),((List.drop 0 (List.take (0+e.length) e)),((List.drop 0 (List.take (0+f.length) f)),((List.drop 0 (List.take (0+b.length) b)),((List.drop 0 (List.take (0+a.length) a)),()))))));
 oW c d e f b a <|
 T.bind (cu i) λj =>
 .ite (!j)
  (.ret ((([]:List Switch),(([]:List Param),(([]:List xc),(([]:List Field),(([]:List qV),(([]:List Check),())))))),(0,2)))
  (oW c d e f b a <|
 .ret (i,(0,0))))
  (λ(k,l,m,v,w,x,y,z,A,B,C,D,E,G,H,I) =>
 .ret (m,(k,l))))
def bX(a:Form):T zf :=
 T.bind (cu a) λb =>
 .ite (!b)
  (.ret [])
  (T.bind (yS a) λc =>
 .ret c)
def dJ  : T Bool :=
 T.bind (ki [112,97,103,101,32,112,10,102,105,101,108,100,32,32,97,32,109,117,115,116,10,114,117,108,101,32,119,101,97,107,32,114,58,97,61,50,10]) λ(a,b,c) =>
 .ite (c==0)
  (.ite (b==0)
  (T.bind (bX a) λd =>
 .ret (zk d [112,97,103,101,32,112,10,102,105,101,108,100,32,97,32,109,117,115,116,10,114,117,108,101,32,119,101,97,107,32,114,32,58,32,97,32,61,32,50,10]))
  (.ret false))
  (.ret false)
def bQ(d:zf)(c:Int)(e:zf):(zf×Int)->T ((zf×Int)⊕(zf))
 | (a,b) =>
 .ite (decide (b<c))
  (oK a [10] <|
 .ret (.inl ((cat a [10]),(zZ (b+1)))))
  (.ret (.inr a))
def kQ s1 n1 bad1 s:=T.loop (bQ s1 n1 bad1) s
def kY(b:zf)(c:Int)(e:zf):T Bool :=
 .ite ((decide (600<(b.length:Int)))||((decide (c<0))||((decide (50<c))||(decide (60<(e.length:Int))))))
  (.ret true)
  (T.bind (kQ b c e ([],0)) λf=>let d:=cat f [110,111,116,104,105,110,103,32];
 oK f [110,111,116,104,105,110,103,32] <|
 T.bind (lp e) λa =>
 oK d a <|
 oK (cat d a) [10] <|
 oK (cat (cat d a) [10]) b <|
 T.bind (ki (cat (cat (cat d a) [10]) b)) λ(j,g,h) =>
 .ite (h==2)
  (.ite (g==(zZ (c+1)))
  (T.bind (dJ) λi =>
 .ret i)
  (.ret false))
  (.ret false))

abbrev rJ:Ty:=(.cons (.int .i64) (.cons (.int .i64) .nil))
abbrev vk:=den rJ
end Go.AM.Lf
