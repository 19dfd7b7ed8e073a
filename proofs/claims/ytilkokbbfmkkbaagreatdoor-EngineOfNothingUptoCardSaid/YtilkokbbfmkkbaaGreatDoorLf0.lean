/-
  The program's functions as trees in plain Lean, part 0: printed by a program of ours.
-/
import Derived.Test.YtilkokbbfmkkbaaGreatDoorAmA
set_option linter.unusedVariables false
noncomputable section
namespace Go.AM.Lf
abbrev qP:Ty:=(.cons .str .nil)
abbrev uS:=den qP
abbrev yN:Ty:=(.cons .str (.cons (.int .u64) .nil))
abbrev ZF:=den yN
abbrev zr:Ty:=(.cons .str (.cons .bool .nil))
abbrev Switch:=den zr
abbrev zO:Ty:=(.cons .str qP)
abbrev qw:=den zO
abbrev qq:Ty:=(.cons (.int .i64) (.cons (.int .i64) .nil))
abbrev zy:=den qq
abbrev bm:Ty:=(.cons (.int .u8) (.cons (.int .u8) .nil))
abbrev ZO:=den bm
abbrev zJ:Ty:=(.cons (.int .i64) (.cons (.sl .str) qP))
abbrev Answer:=den zJ
abbrev xU:Ty:=(.cons (.sl .str) (.cons (.sl .str) .nil))
abbrev uT:=den xU
abbrev eG:Ty:=(.cons (.int .i64) (.cons (.int .i64) (.cons .bool (.cons (.int .u8) .nil))))
abbrev UL:=den eG
abbrev zc:Ty:=(.cons .bool (.cons (.sl (.int .u32)) (.cons (.sl (.int .u32)) .nil)))
abbrev Rat:=den zc
abbrev zw:Ty:=(.cons .str (.cons (.int .i64) (.cons .bool (.cons (.int .i64) .nil))))
abbrev Field:=den zw
abbrev zt:Ty:=(.cons .str (.cons (.int .i64) (.cons (.int .i64) (.cons .bool .nil))))
abbrev za:=den zt
abbrev zH:Ty:=(.cons .str (.cons (.int .i64) (.cons .str (.cons .expr (.cons .expr .nil)))))
abbrev qn:=den zH
abbrev zM:Ty:=(.cons .str (.cons (.int .i64) (.cons (.int .i64) (.cons .expr (.cons .expr .nil)))))
abbrev Check:=den zM
abbrev Q5:Ty:=(.cons .str (.cons xU (.cons (.int .i64) (.cons .bool .nil))))
abbrev Ow:=den Q5
abbrev zB:Ty:=(.cons .str (.cons zc .nil))
abbrev Param:=den zB
abbrev zu:Ty:=(.cons (.int .i64) (.cons zc .nil))
abbrev Term:=den zu
abbrev cj:Ty:=(.cons (.int .i64) (.cons .str (.cons zc (.cons .bool .nil))))
abbrev Op:=den cj
abbrev zf:Ty:=(.cons .bool (.cons .bool (.cons zc .nil)))
abbrev zm:=den zf
abbrev qA:Ty:=(.cons (.sl (.int .i64)) (.cons (.sl zc) .nil))
abbrev wv:=den qA
abbrev xC:Ty:=(.cons (.sl .str) (.cons (.sl .str) (.cons (.sl zc) .nil)))
abbrev vq:=den xC
abbrev zo:Ty:=(.cons (.int .i64) (.cons (.sl zu) (.cons zc .nil)))
abbrev qp:=den zo
abbrev Q7:Ty:=(.cons (.sl zo) (.cons (.sl (.int .i64)) .nil))
abbrev NJ:=den Q7
abbrev fH:Ty:=(.cons (.sl zo) (.cons (.sl (.int .i64)) (.cons (.sl (.int .i64)) .nil)))
abbrev Nq:=den fH
abbrev zF:Ty:=(.cons (.sl zr) (.cons (.sl zB) (.cons (.sl zO) (.cons (.sl zw) (.cons (.sl zH) (.cons (.sl zM) .nil))))))
abbrev Form:=den zF
abbrev q9:Ty:=(.cons (.sl zc) (.cons (.sl .bool) (.cons (.sl zc) (.cons (.sl (.int .i64)) (.cons (.sl zf) (.cons (.sl .bool) .nil))))))
abbrev qF:=den q9
abbrev qv:Ty:=(.cons zF fH)
abbrev xH:=den qv
abbrev zx:Ty:=(.cons zF (.cons q9 (.cons xU (.cons (.int .i64) (.cons .bool .nil)))))
abbrev zS:=den zx
def yh(a:Int):T Bool :=
 .ret ((decide (97<=a))&&(decide (a<=122)))
def vx(a:Int):T Bool :=
 .ret ((decide (48<=a))&&(decide (a<=57)))
def kh(a:Int):T Bool :=
 T.bind (yh a) λb =>
 .ite b
  (.ret true)
  (T.bind (vx a) λc =>
 .ite c
  (.ret true)
  (.ret (a==95)))
def nM(b:zh)(d:Int):Int->T (Int⊕(Unit⊕Bool))
 | a =>
 .ite (decide (a<d))
  (oI a b <|
 T.bind (kh (wk b a)) λc =>
 .ite (!c)
  (.ret (.inr (.inr false)))
  (.ret (.inl (zD (a+1)))))
  (.ret (.inr (.inl ())))
def XK s1 x1 s:=T.loop (nM s1 x1) s
def qV(a:zh):T Bool :=
 T.bind (.ite (qb a [])
  (.ret true)
  (.ite (decide (24<(a.length:Int)))
  (.ret true)
  (oI 0 a <|
 T.bind (yh (wk a 0)) λb =>
 .ret (!b))):T (Bool)) λc =>
 .ite c
  (.ret false)
  (T.bind (XK a (a.length:Int) 0) <|
 Sum.elim (λ_ =>
 .ret true)
  (λd =>
 .ret d))
def uq(b:Switch):T Bool :=
 T.bind (qV b.1) λa =>
 .ret (!a)
def qg(b:(List Switch))(d:Switch->T Bool)(e:Int):Int->T (Int⊕(Unit⊕Int))
 | a =>
 .ite (decide (a<e))
  (oI a b <|
 T.bind (d (nth b a (zd zr))) λc =>
 .ite c
  (.ret (.inr (.inr a)))
  (.ret (.inl (zD (a+1)))))
  (.ret (.inr (.inl ())))
def yo s1 f x s:=T.loop (qg s1 f x) s
def zY(a:(List Switch))(c:Switch->T Bool):T Int :=
 T.bind (yo a c (a.length:Int) 0) <|
 Sum.elim (λ_ =>
 .ret (-1))
  (λb =>
 .ret b)
def qx(b:(List Switch))(c:Switch->T Bool):T Bool :=
 T.bind (zY b c) λa =>
 .ret (decide (0<=a))
def W9(a:(List Int)):T Bool :=
 .zb ((((a.length:Int)==0)=false)->(zT (zD ((a.length:Int)-1)) a.length)) <|
 .ret (((a.length:Int)==0)||((nth a (zD ((a.length:Int)-1)) (zd (.int .u32))) != 0))
def pT  : (List Int)->T ((List Int)⊕((List Int)))
 | a =>
 T.bind (W9 a) λb =>
 .ite (!b)
  (.zb (vG 0 (zD ((a.length:Int)-1)) a.length) <|
 .ret (.inl (vw (e:=(.int .u32)) 0 (zD ((a.length:Int)-1)) a)))
  (.ret (.inr a))
def U7(s:(List Int)):T ((List Int)):=T.loop (pT ) s
def qB(b:(List Int)):T (List Int) :=
 T.bind (U7  b) λa =>
 .ret a
def kG(a:(List Int)):T (List Int) :=
 let b:=0+a.length;  .zb (a=[]->∀ r,T.leads (.zb (wg 0 0 0 0 0 a.length 4) <|
 .zb (b=b) <|
 .ret (List.drop 0 (List.take (0+b) a)):T _) r->T.leads (.ret []:T _) r) <|
 .zb (wg 0 0 0 0 0 a.length 4) <|
 .zb (b=b) <|
 .ret (List.drop 0 (List.take (0+b) a))
def b7(c:(List Int)):T (List Int) :=
 T.bind (qB c) λa =>
 T.bind (kG a) λb =>
 .ret b
def sQ(b:(List Int))(c:(List Int)):Int->T (Int⊕(Unit⊕Int))
 | a =>
 .ite (decide (0<=a))
  (oI a b <|
 oI a c <|
 .ite ((nth b a (zd (.int .u32))) != (nth c a (zd (.int .u32))))
  (oI a b <|
 oI a c <|
 .ite (decide ((nth b a (zd (.int .u32)))<(nth c a (zd (.int .u32)))))
  (.ret (.inr (.inr (-1))))
  (.ret (.inr (.inr 1))))
  (.ret (.inl (zD (a-1)))))
  (.ret (.inr (.inl ())))
def K7 a2 b2 s:=T.loop (sQ a2 b2) s
def nI(d:(List Int))(e:(List Int)):T Int :=
 T.bind (qB d) λa =>
 T.bind (qB e) λb =>
 .ite ((a.length:Int) != (b.length:Int))
  (.ite (decide ((a.length:Int)<(b.length:Int)))
  (.ret (-1))
  (.ret 1))
  (T.bind (K7 a b (zD ((a.length:Int)-1))) <|
 Sum.elim (λ_ =>
 .ret 0)
  (λc =>
 .ret c))
def eC(b:Int)(c:Int)(a:Int):T (Int×Int) :=
 .ite ((a != 0)&&(decide (a<=b)))
  (.fail)
  (.zb (0<=(32:Int)) <|
 .zb ((qa a)≠0) <|
 .zb ((qa a)≠0) <|
 .ret ((kl (qa (Int.tdiv (Ii .u64 (rO .u64 (qa b) 32) (qa c)) (qa a)))),(kl (Int.tmod (Ii .u64 (rO .u64 (qa b) 32) (qa c)) (qa a)))))
def nf(e:(List Int))(g:Int):(Int×Int×(List Int))->T ((Int×Int×(List Int))⊕((Int×(List Int))))
 | (d,b,a) =>
 .ite (decide (0<=b))
  (oI b e <|
 T.bind (eC d (nth e b (zd (.int .u32))) g) λ(c,f) =>
 oI b a <|
 .zb (va a.length a.length (0+(Int.toNat b)) a.length) <|
 oM a.length (List.set a (0+(Int.toNat b)) c).length <|
 .ret (.inl (f,((zD (b-1)),(List.set a (0+(Int.toNat b)) c)))))
  (oC a <|
 oE a <|
 .ret (.inr (d,a)))
def WL a1 b1 s:=T.loop (nf a1 b1) s
def oJ(a:(List Int))(e:Int):T ((List Int)×Int) :=
 .zb (ob (a.length:Int) (a.length:Int) 4) <|
 oM (Int.toNat (a.length:Int)) (List.replicate (Int.toNat (a.length:Int)) (0:Int)).length <|
 T.bind (WL a e (0,((zD ((a.length:Int)-1)),(List.replicate (Int.toNat (a.length:Int)) 0)))) λ(c,b) =>
 oE b <|
 T.bind (qB (List.drop 0 (List.take (0+b.length) b))) λd =>
 .ret (d,c)
def cw(a:Int):T (List Int) :=
 .zb (0<=(32:Int)) <|
 T.bind (qB ([(kl a),(kl (yM .u64 a 32))]:List Int)) λb =>
 .ret b
def dU(b:Int):T Int :=
 let a:=bif (decide (65536<=b))then(yM .u32 b 16)else b;  .zb (((decide (65536<=b))=true)->(0<=(16:Int))) <|
 .zb (((decide (256<=a))=true)->(0<=(8:Int))) <|
 .zb (zT (wu8 (bif (decide (256<=a))then(yM .u32 a 8)else a)) ([0,1,2,2,3,3,3,3,4,4,4,4,4,4,4,4,5,5,5,5,5,5,5,5,5,5,5,5,5,5,5,5,6,6,6,6,6,6,6,6,6,6,6,6,6,6,6,6,6,6,6,6,6,6,6,6,6,6,6,6,6,6,6,6,7,7,7,7,7,7,7,7,7,7,7,7,7,7,7,7,7,7,7,7,7,7,7,7,7,7,7,7,7,7,7,7,7,7,7,7,7,7,7,7,7,7,7,7,7,7,7,7,7,7,7,7,7,7,7,7,7,7,7,7,7,7,7,7,8,8,8,8,8,8,8,8,8,8,8,8,8,8,8,8,8,8,8,8,8,8,8,8,8,8,8,8,8,8,8,8,8,8,8,8,8,8,8,8,8,8,8,8,8,8,8,8,8,8,8,8,8,8,8,8,8,8,8,8,8,8,8,8,8,8,8,8,8,8,8,8,8,8,8,8,8,8,8,8,8,8,8,8,8,8,8,8,8,8,8,8,8,8,8,8,8,8,8,8,8,8,8,8,8,8,8,8,8,8,8,8,8,8,8,8,8,8,8,8,8,8,8,8,8,8,8,8]:zh).length) <|
 .ret (zD ((bif (decide (256<=a))then(zD ((bif (decide (65536<=b))then 16 else 0)+8))else(bif (decide (65536<=b))then 16 else 0))+(zD (wk [0,1,2,2,3,3,3,3,4,4,4,4,4,4,4,4,5,5,5,5,5,5,5,5,5,5,5,5,5,5,5,5,6,6,6,6,6,6,6,6,6,6,6,6,6,6,6,6,6,6,6,6,6,6,6,6,6,6,6,6,6,6,6,6,7,7,7,7,7,7,7,7,7,7,7,7,7,7,7,7,7,7,7,7,7,7,7,7,7,7,7,7,7,7,7,7,7,7,7,7,7,7,7,7,7,7,7,7,7,7,7,7,7,7,7,7,7,7,7,7,7,7,7,7,7,7,7,7,8,8,8,8,8,8,8,8,8,8,8,8,8,8,8,8,8,8,8,8,8,8,8,8,8,8,8,8,8,8,8,8,8,8,8,8,8,8,8,8,8,8,8,8,8,8,8,8,8,8,8,8,8,8,8,8,8,8,8,8,8,8,8,8,8,8,8,8,8,8,8,8,8,8,8,8,8,8,8,8,8,8,8,8,8,8,8,8,8,8,8,8,8,8,8,8,8,8,8,8,8,8,8,8,8,8,8,8,8,8,8,8,8,8,8,8,8,8,8,8,8,8,8,8,8,8,8,8] (wu8 (bif (decide (256<=a))then(yM .u32 a 8)else a))))))
def jg(b:Int):T Int :=
 T.bind (dU b) λa =>
 .ret (zD (32-a))
def lq(e:Int)(h:Int)(f:(List Int))(i:Int):(Int×(List Int))->T ((Int×(List Int))⊕((List Int)))
 | (b,a)=>let c:=zD (b+1); let d:=List.set a (0+(Int.toNat b)) (Ii .u32 (xK a (0+(Int.toNat b)) (zd (.int .u32))) (kl (rO .u64 (qa (nth f b (zd (.int .u32)))) e))); let g:=List.set d (0+(Int.toNat c)) (kl (yM .u64 (rO .u64 (qa (nth f b (zd (.int .u32)))) e) 32));
 .ite (decide (b<i))
  (oI b f <|
 .zb (0<=e) <|
 oI b a <|
 .zb (va a.length a.length (0+(Int.toNat b)) a.length) <|
 oI b a <|
 .zb (va a.length a.length (0+(Int.toNat b)) a.length) <|
 .ite (decide (c<h))
  (.zb (0<=(32:Int)) <|
 oI c a <|
 .zb (va a.length a.length (0+(Int.toNat c)) d.length) <|
 oM a.length g.length <|
 .ret (.inl (c,g)))
  (oM a.length d.length <|
 .ret (.inl (c,d))))
  (oC a <|
 oE a <|
 .ret (.inr a))
def ZX by_1 n1 x x1 s:=T.loop (lq by_1 n1 x x1) s
def lL(c:(List Int))(d:Int)(a:Int):T (List Int) :=
 .zb (ob a a 4) <|
 oM (Int.toNat a) (List.replicate (Int.toNat a) (0:Int)).length <|
 T.bind (ZX d a c (c.length:Int) (0,(List.replicate (Int.toNat a) 0))) λb =>
 oC b <|
 oE b <|
 .ret b
def na(d:Int)(c:Int)(e:Int):(Int×Int)->T ((Int×Int)⊕(Int))
 | (a,b) =>
 .zb ((0<=(32:Int))/\((((yM .u64 a 32) != 0)=false)->(0<=(32:Int)))) <|
 .ite (((yM .u64 a 32) != 0)||(decide ((Ii .u64 (rO .u64 b 32) (qa d))<(qa (a*(qa e))))))
  (.zb (0<=(32:Int)) <|
 .ite ((yM .u64 (qa (b+(qa c))) 32) != 0)
  (.ret (.inr (qa (a-1))))
  (.ret (.inl ((qa (a-1)),(qa (b+(qa c)))))))
  (.ret (.inr a))
def Ws low1 b11 b21 s:=T.loop (na low1 b11 b21) s
def Xz(b:Int)(c:Int)(e:Int)(a:Int)(f:Int):T Int :=
 .zb (0<=(32:Int)) <|
 .zb ((qa a)≠0) <|
 .zb ((qa a)≠0) <|
 T.bind (Ws e a f ((qa (Int.tdiv (Ii .u64 (rO .u64 (qa b) 32) (qa c)) (qa a))),(Int.tmod (Ii .u64 (rO .u64 (qa b) 32) (qa c)) (qa a)))) λd =>
 .ret d
def jy(a:Int)(b:Int)(c:Int):T (Int×Int) :=
 .zb (0<=(31:Int)) <|
 .ret ((kl ((kl (a-b))-c)),(yM .u32 (Ii .u32 (KC .u32 (PF .u32 4294967295 a) b) (KC .u32 (PF .u32 4294967295 (PF .u32 a b)) (kl ((kl (a-b))-c)))) 31))
def eD(a:Int)(b:Int)(c:Int):T (Int×Int) :=
 .zb (0<=(32:Int)) <|
 .ret ((kl (qa ((qa ((qa a)+(qa b)))+(qa c)))),(kl (yM .u64 (qa ((qa ((qa a)+(qa b)))+(qa c))) 32)))
def eY(l:(List Int))(i:Int)(f:(List Int))(k:Int):((Nat×Nat)×Int×Int×Int×(List Int))->T (((Nat×Nat)×Int×Int×Int×(List Int))⊕(((Nat×Nat)×Int×Int×(List Int))))
 | (c,e,h,b,a)=>let d:=c.1+(Int.toNat b);
 .ite (decide (b<k))
  (oI b f <|
 .zb (zT b c.2) <|
 .zb (va a.length a.length d a.length) <|
 T.bind (jy (xK a d (zd (.int .u32))) (kl (qa (e+(qa (i*(qa (nth f b (zd (.int .u32))))))))) h) λ(g,j) =>
 .zb (zT b c.2) <|
 .zb (va a.length a.length d a.length) <|
 .zb (0<=(32:Int)) <|
 oE a <|
 .zb (a.length=(List.set a d g).length) <|
 .ret (.inl (c,((yM .u64 (qa (e+(qa (i*(qa (nth f b (zd (.int .u32)))))))) 32),(j,((zD (b+1)),(List.set a d g)))))))
  (oE a <|
 oE a <|
 .ret (.inr (c,(e,(h,a)))))
def tK b1 q1 x x1 s:=T.loop (eY b1 q1 x x1) s
def eJ(j:(List Int))(g:(List Int))(i:Int):((Nat×Nat)×Int×Int×(List Int))->T (((Nat×Nat)×Int×Int×(List Int))⊕(((Nat×Nat)×Int×(List Int))))
 | (c,f,b,a)=>let d:=c.1+(Int.toNat b);
 .ite (decide (b<i))
  (oI b g <|
 .zb (zT b c.2) <|
 .zb (va a.length a.length d a.length) <|
 T.bind (eD (xK a d (zd (.int .u32))) (nth g b (zd (.int .u32))) f) λ(e,h) =>
 .zb (zT b c.2) <|
 .zb (va a.length a.length d a.length) <|
 oE a <|
 .zb (a.length=(List.set a d e).length) <|
 .ret (.inl (c,(h,((zD (b+1)),(List.set a d e))))))
  (oE a <|
 oE a <|
 .ret (.inr (c,(f,a))))
def sX b2 x3 x4 s:=T.loop (eJ b2 x3 x4) s
def r7(o:(Nat×Nat))(b:(List Int))(p:Int)(h:(List Int)):T (Bool×(List Int)) :=
 let d:=Int.toNat (b.length:Int);  oE h <|
 oE h <|
 T.bind (tK b p b (b.length:Int) (o,(0,(0,(0,h))))) λ(e,j,k,a) =>
 .zb (zT (b.length:Int) e.2) <|
 .zb (va a.length a.length (e.1+d) a.length) <|
 T.bind (jy (xK a (e.1+d) (zd (.int .u32))) (kl j) k) λ(l,m)=>let g:=List.set a (e.1+d) l;
 .zb (zT (b.length:Int) e.2) <|
 .zb (va a.length a.length (e.1+d) a.length) <|
 .ite (m==0)
  (.zb (a.length=g.length) <|
 .ret (false,g))
  (oE a <|
 .zb (a.length=g.length) <|
 T.bind (sX b b (b.length:Int) (e,(0,(0,g)))) λ(f,n,c)=>let i:=List.set c (f.1+d) (kl ((xK c (f.1+d) (zd (.int .u32)))+n));
 .zb (zT (b.length:Int) f.2) <|
 .zb (va c.length c.length (f.1+d) c.length) <|
 .zb (zT (b.length:Int) f.2) <|
 .zb (va c.length c.length (f.1+d) c.length) <|
 .zb (c.length=i.length) <|
 .ret (true,i))
def pN(e:Int)(h:Int)(f:(List Int))(i:Int):(Int×(List Int))->T ((Int×(List Int))⊕((List Int)))
 | (b,a)=>let c:=zD (b+1); let d:=List.set a (0+(Int.toNat b)) (Ii .u32 (xK a (0+(Int.toNat b)) (zd (.int .u32))) (kl (rO .u64 (qa (nth f b (zd (.int .u32)))) e))); let g:=List.set d (0+(Int.toNat c)) (kl (yM .u64 (rO .u64 (qa (nth f b (zd (.int .u32)))) e) 32));
 .ite (decide (b<i))
  (oI b f <|
 .zb (0<=e) <|
 oI b a <|
 .zb (va a.length a.length (0+(Int.toNat b)) a.length) <|
 oI b a <|
 .zb (va a.length a.length (0+(Int.toNat b)) a.length) <|
 .ite (decide (c<h))
  (.zb (0<=(32:Int)) <|
 oI c a <|
 .zb (va a.length a.length (0+(Int.toNat c)) d.length) <|
 oM a.length g.length <|
 .ret (.inl (c,g)))
  (oM a.length d.length <|
 .ret (.inl (c,d))))
  (oC a <|
 oE a <|
 .ret (.inr a))
def UH by_1 n1 x x1 s:=T.loop (pN by_1 n1 x x1) s
def Um(c:(List Int))(d:Int)(a:Int):T (List Int) :=
 .zb (ob a a 4) <|
 oM (Int.toNat a) (List.replicate (Int.toNat a) (0:Int)).length <|
 T.bind (UH d a c (c.length:Int) (0,(List.replicate (Int.toNat a) 0))) λb =>
 oE b <|
 .ret (List.drop 0 (List.take (0+b.length) b))
def n5(e:Int)(f:(List Int))(h:Int):(Int×(List Int))->T ((Int×(List Int))⊕((List Int)))
 | (b,a)=>let d:=0+(Int.toNat (zD (b-1))); let c:=List.set a (0+(Int.toNat b)) (Ii .u32 (xK a (0+(Int.toNat b)) (zd (.int .u32))) (kl (yM .u64 (yM .u64 (rO .u64 (qa (nth f b (zd (.int .u32)))) 32) e) 32))); let g:=List.set c d (Ii .u32 (xK c d (zd (.int .u32))) (kl (yM .u64 (rO .u64 (qa (nth f b (zd (.int .u32)))) 32) e)));
 .ite (decide (b<h))
  (oI b f <|
 .zb (0<=(32:Int)) <|
 .zb (0<=e) <|
 oI b a <|
 .zb (va a.length a.length (0+(Int.toNat b)) a.length) <|
 .zb (0<=(32:Int)) <|
 oI b a <|
 .zb (va a.length a.length (0+(Int.toNat b)) a.length) <|
 .ite (decide (0<b))
  (oI (zD (b-1)) a <|
 .zb (va a.length a.length d c.length) <|
 oI (zD (b-1)) a <|
 .zb (va a.length a.length d c.length) <|
 oM a.length g.length <|
 .ret (.inl ((zD (b+1)),g)))
  (oM a.length c.length <|
 .ret (.inl ((zD (b+1)),c))))
  (oC a <|
 oE a <|
 .ret (.inr a))
def WM by_ x x1 s:=T.loop (n5 by_ x x1) s
def X5(m:(List Int))(n:Int):T (List Int) :=
 let g:=HA (rI n (-4096)) 4096; let d:=zD (Int.tdiv g (32:Int)); let c:=zD (Int.tdiv (zD (0-g)) (32:Int));  T.bind (qB m) λf=>let a:=(f.length:Int); let i:=zD ((zD (d+a))+1); let b:=Int.toNat i;
 .ite (decide (g<0))
  (.zb (32≠(0:Int)) <|
 .ite (decide (a<=c))
  (.ret [])
  (.zb (32≠(0:Int)) <|
 .zb (ob (zD (a-c)) (zD (a-c)) 4) <|
 .zb (vG c a f.length) <|
 oM (Int.toNat (zD (a-c))) (List.replicate (Int.toNat (zD (a-c))) (0:Int)).length <|
 T.bind (WM (qa (Int.tmod (zD (0-g)) (32:Int))) (vw (e:=(.int .u32)) c a f) (Nat.cast (vw (e:=(.int .u32)) c a f).length:Int) (0,(List.replicate (Int.toNat (zD (a-c))) 0))) λh =>
 oE h <|
 T.bind (qB (List.drop 0 (List.take (0+h.length) h))) λj =>
 .ret j))
  (.zb (32≠(0:Int)) <|
 .zb (ob i i 4) <|
 .zb (vG d (Nat.cast b:Int) b) <|
 .zb (32≠(0:Int)) <|
 T.bind (Um f (qa (Int.tmod g (32:Int))) (zD (a+1))) λk =>
 .zb (Uw b b (0+(Int.toNat d)) ((Int.toNat (Nat.cast b:Int))-(Int.toNat d)) (List.replicate b (0:Int)).length) <|
 .zb (b=b) <|
 T.bind (qB (List.drop 0 (List.take (0+b) (vW (0+(Int.toNat d)) ((Int.toNat (Nat.cast b:Int))-(Int.toNat d)) (List.replicate b 0) k)))) λl =>
 .ret l)
def pz(m:Int)(g:(List Int))(c:Int):(Int×(List Int)×(List Int))->T ((Int×(List Int)×(List Int))⊕(((List Int)×(List Int))))
 | (b,a,d) =>
 .ite (decide (0<=b))
  (oI (zD (b+c)) a <|
 .zb (va a.length a.length (0+(Int.toNat (zD (b+c)))) a.length) <|
 oI (zD ((zD (b+c))-1)) a <|
 .zb (va a.length a.length (0+(Int.toNat (zD ((zD (b+c))-1)))) a.length) <|
 oI (zD ((zD (b+c))-2)) a <|
 .zb (va a.length a.length (0+(Int.toNat (zD ((zD (b+c))-2)))) a.length) <|
 oI (zD (c-1)) g <|
 oI (zD (c-2)) g <|
 T.bind (Xz (xK a (0+(Int.toNat (zD (b+c)))) (zd (.int .u32))) (xK a (0+(Int.toNat (zD ((zD (b+c))-1)))) (zd (.int .u32))) (xK a (0+(Int.toNat (zD ((zD (b+c))-2)))) (zd (.int .u32))) (nth g (zD (c-1)) (zd (.int .u32))) (nth g (zD (c-2)) (zd (.int .u32)))) λh =>
 T.bind (.zb (vG b (zD ((zD (b+c))+1)) a.length) <|
 oE a <|
 oE a <|
 T.bind (r7 ((0+(Int.toNat b)),((Int.toNat (zD ((zD (b+c))+1)))-(Int.toNat b))) g h a) λ(k,f) =>
 .ite k
  (oC d <|
 .zb (zn a.length 0 a.length f.length) <|
 oE f <|
 oE d <|
 .ret ((qa (h-1)),(f,d)))
  (oC d <|
 .zb (zn a.length 0 a.length f.length) <|
 oE f <|
 oE d <|
 .ret (h,(f,d))):T ((Int×(List Int)×(List Int)))) λ(l,i,e)=>let j:=List.set e (0+(Int.toNat b)) (kl l);
 oI b e <|
 .zb (va e.length e.length (0+(Int.toNat b)) e.length) <|
 .zb (zn e.length 0 e.length j.length) <|
 oC i <|
 oE i <|
 .zb (e.length=j.length) <|
 .ret (.inl ((zD (b-1)),(i,j))))
  (oC d <|
 oC a <|
 oE a <|
 oE d <|
 .ret (.inr (a,d)))
def VE by_ d n s:=T.loop (pz by_ d n) s
def VM(i:(List Int))(c:(List Int)):T ((List Int)×(List Int)) :=
 oI (zD ((c.length:Int)-1)) c <|
 T.bind (jg (nth c (zD ((c.length:Int)-1)) (zd (.int .u32)))) λf =>
 T.bind (lL i (qa f) (zD ((i.length:Int)+1))) λg =>
 T.bind (lL c (qa f) (c.length:Int)) λa=>let j:=zD ((zD ((i.length:Int)-(a.length:Int)))+1); let b:=Int.toNat j;
 .zb (ob j j 4) <|
 oE a <|
 .zb (zn b 0 b (List.replicate b (0:Int)).length) <|
 oC g <|
 oE g <|
 .zb (b=(List.replicate b (0:Int)).length) <|
 T.bind (VE (qa f) (List.drop 0 (List.take (0+a.length) a)) (a.length:Int) ((zD ((Nat.cast b:Int)-1)),(g,(List.replicate b 0)))) λ(d,h) =>
 oE h <|
 oE d <|
 T.bind (qB (List.drop 0 (List.take (0+h.length) h))) λk =>
 .zb (vG 0 (a.length:Int) (List.drop 0 (List.take (0+d.length) d)).length) <|
 T.bind (X5 (vw (e:=(.int .u32)) 0 (a.length:Int) (List.drop 0 (List.take (0+d.length) d))) (zD (0-(zD (qa f))))) λl =>
 .ret (k,l)
def b4(j:(List Int))(k:(List Int)):T ((List Int)×(List Int)×Bool) :=
 T.bind (qB j) λb =>
 T.bind (qB k) λa =>
 .ite ((a.length:Int)==0)
  (.ret ([],([],false)))
  (T.bind (nI b a) λc =>
 .ite (decide (c<0))
  (T.bind (b7 b) λd =>
 .ret ([],(d,true)))
  (.ite ((a.length:Int)==1)
  (oI 0 a <|
 T.bind (oJ b (nth a 0 (zd (.int .u32)))) λ(e,f) =>
 T.bind (cw (qa f)) λg =>
 .ret (e,(g,true)))
  (T.bind (VM b a) λ(h,i) =>
 .ret (h,(i,true)))))
def tS  : ((List Int)×(List Int))->T (((List Int)×(List Int))⊕((List Int)))
 | (b,a) =>
 .ite (decide (0<(a.length:Int)))
  (T.bind (b4 b a) λ(d,c,e) =>
 .ret (.inl (a,c)))
  (.ret (.inr b))
def JB(s:((List Int)×(List Int))):T ((List Int)):=T.loop (tS ) s
def XW(d:(List Int))(e:(List Int)):T (List Int) :=
 T.bind (b7 d) λa =>
 T.bind (b7 e) λb =>
 T.bind (JB  (a,b)) λc =>
 .ret c
def fN(a:Rat):T Bool :=
 T.bind (T.bind (W9 a.2.1) λb =>
 .ite (!b)
  (.ret true)
  (T.bind (W9 a.2.2.1) λc =>
 .ite (!c)
  (.ret true)
  (.ite ((a.2.2.1.length:Int)==0)
  (.ret true)
  (.ite a.1
  (.ret ((a.2.1.length:Int)==0))
  (.ret false)))):T (Bool)) λd =>
 .ite d
  (.ret false)
  (T.bind (XW a.2.1 a.2.2.1) λe =>
 T.bind (cw 1) λf =>
 T.bind (nI e f) λg =>
 .ret (g==0))
def eT(g:Bool)(h:(List Int))(i:(List Int)):T Rat :=
 T.bind (b7 h) λa =>
 T.bind (b7 i) λb =>
 .ite (((a.length:Int)==0)||((b.length:Int)==0))
  (T.bind (cw 1) λd =>
 .ret (false,(([]:List Int),(d,()))))
  (T.bind (XW a b) λc =>
 T.bind (b4 a c) λ(e,j,k) =>
 T.bind (b4 b c) λ(f,l,m) =>
 .ret (g,(e,(f,()))))
def qD(a:Rat):T Rat :=
 T.bind (eT a.1 a.2.1 a.2.2.1) λb =>
 .ret b
def jN(b:Rat):T Bool :=
 T.bind (qD b) λa =>
 .ret ((decide (16<(a.2.1.length:Int)))||(decide (16<(a.2.2.1.length:Int))))
def uw(a:Param):T Bool :=
 T.bind (qV a.1) λb =>
 .ite (!b)
  (.ret true)
  (T.bind (fN a.2.1) λc =>
 .ite (!c)
  (.ret true)
  (T.bind (jN a.2.1) λd =>
 .ret d))
def xG(b:(List Param))(d:Param->T Bool)(e:Int):Int->T (Int⊕(Unit⊕Int))
 | a =>
 .ite (decide (a<e))
  (oI a b <|
 T.bind (d (nth b a (zd zB))) λc =>
 .ite c
  (.ret (.inr (.inr a)))
  (.ret (.inl (zD (a+1)))))
  (.ret (.inr (.inl ())))
def yP s1 f x s:=T.loop (xG s1 f x) s
def wj(a:(List Param))(c:Param->T Bool):T Int :=
 T.bind (yP a c (a.length:Int) 0) <|
 Sum.elim (λ_ =>
 .ret (-1))
  (λb =>
 .ret b)
def qE(b:(List Param))(c:Param->T Bool):T Bool :=
 T.bind (wj b c) λa =>
 .ret (decide (0<=a))
def di(a:zh):T Bool :=
 .ite (qb a [])
  (.ret true)
  (T.bind (qV a) λb =>
 .ret b)
def uH(a:qw):T Bool :=
 T.bind (qV a.1) λb =>
 .ite (!b)
  (.ret true)
  (T.bind (di a.2.1) λc =>
 .ret (!c))
def u7(b:(List qw))(d:qw->T Bool)(e:Int):Int->T (Int⊕(Unit⊕Int))
 | a =>
 .ite (decide (a<e))
  (oI a b <|
 T.bind (d (nth b a (zd zO))) λc =>
 .ite c
  (.ret (.inr (.inr a)))
  (.ret (.inl (zD (a+1)))))
  (.ret (.inr (.inl ())))
def gB s1 f x s:=T.loop (u7 s1 f x) s
def jo(a:(List qw))(c:qw->T Bool):T Int :=
 T.bind (gB a c (a.length:Int) 0) <|
 Sum.elim (λ_ =>
 .ret (-1))
  (λb =>
 .ret b)
def ue(b:(List qw))(c:qw->T Bool):T Bool :=
 T.bind (jo b c) λa =>
 .ret (decide (0<=a))
def oX(b:Form):T Bool :=
 T.bind (qx b.1 (λa=>uq a)) λc =>
 .ite (!c)
  (T.bind (qE b.2.1 (λa=>uw a)) λd =>
 .ite (!d)
  (T.bind (ue b.2.2.1 (λa=>uH a)) λe =>
 .ret (!e))
  (.ret false))
  (.ret false)
def dm(a:Int)(b:Int)(c:Int):T Bool :=
 .ret ((decide ((rI b 0)<=a))&&(decide (a<c)))
def eh(i:Form)(c:(List Field))(j:Int):(Int×Int)->T ((Int×Int)⊕(Unit⊕Bool))
 | (h,b)=>let a:=nth c b (zd zw);
 .ite (decide (b<j))
  (oI b c <|
 T.bind (T.bind (qV a.1) λd =>
 .ite (!d)
  (.ret (true,a))
  (T.bind (dm a.2.1 h (i.2.2.1.length:Int)) λe =>
 .ite (!e)
  (.ret (true,a))
  (.ite (decide (a.2.2.2.1<(0:Int)))
  (.ret (true,a))
  (.ret ((decide ((9:Int)<a.2.2.2.1)),a)))):T ((Bool×Field))) λ(f,g) =>
 .ite f
  (.ret (.inr (.inr false)))
  (.ret (.inl (g.2.1,(zD (b+1))))))
  (.ret (.inr (.inl ())))
def rM f1 x x1 s:=T.loop (eh f1 x x1) s
def mM(a:Form):T Bool :=
 T.bind (rM a a.2.2.2.1 (a.2.2.2.1.length:Int) (0,0)) <|
 Sum.elim (λ_ =>
 .ret true)
  (λb =>
 .ret b)
def kJ  : T (List zh) :=
 .ret ([[61],[60],[60,61]]:List zh)
def Qz(a:Int):T Int :=
 .ite (bif (a==1)then(a==1)else(a==2))
  (.ret 0)
  (.ite (a==7)
  (.ret 1)
  (.ite (a==3)
  (.ret 2)
  (.ite (a==4)
  (.ret 2)
  (.ite (a==5)
  (.ret 2)
  (.ite (a==6)
  (.ret 2)
  (.ret (-1)))))))
def Z9(j:(List Int))(d:Int)(h:Int)(k:(List Int))(l:Int)(m:Int)(g:(List Int))(i:Int):(Int×Int×(List Int))->T ((Int×Int×(List Int))⊕((Int×(List Int))))
 | (f,b,a)=>let c:=0+(Int.toNat (zD (d+b))); let e:=qa (f+(qa ((qa ((qa h)*(qa (nth g b (zd (.int .u32))))))+(qa (xK a c (zd (.int .u32)))))));
 .ite (decide (b<i))
  (oI b g <|
 oI (zD (d+b)) a <|
 .zb (va a.length a.length c a.length) <|
 oI (zD (d+b)) a <|
 .zb (va a.length a.length c a.length) <|
 .zb (0<=(32:Int)) <|
 oM a.length (List.set a c (kl e)).length <|
 .ret (.inl ((yM .u64 e 32),((zD (b+1)),(List.set a c (kl e))))))
  (oC a <|
 oE a <|
 .ret (.inr (f,a)))
def JX b3 i v x3 x4 x5 x6 x7 s:=T.loop (Z9 b3 i v x3 x4 x5 x6 x7) s
def tf(d:(List Int))(e:(List Int))(h:Int):(Int×(List Int))->T ((Int×(List Int))⊕((List Int)))
 | (a,c)=>let f:=0+(Int.toNat (zD (a+(d.length:Int))));
 .ite (decide (a<h))
  (oI a e <|
 oC c <|
 oE c <|
 T.bind (JX d a (nth e a (zd (.int .u32))) e h a d (d.length:Int) (0,(0,c))) λ(g,b) =>
 oI (zD (a+(d.length:Int))) b <|
 .zb (va b.length b.length f b.length) <|
 oM b.length (List.set b f (kl g)).length <|
 .ret (.inl ((zD (a+1)),(List.set b f (kl g)))))
  (oC c <|
 oE c <|
 .ret (.inr c))
def Jt b2 x x1 s:=T.loop (tf b2 x x1) s
def gz(f:(List Int))(g:(List Int)):T (List Int) :=
 T.bind (qB f) λb =>
 T.bind (qB g) λd=>let a:=zD ((b.length:Int)+(d.length:Int));
 .zb (ob a a 4) <|
 oM (Int.toNat a) (List.replicate (Int.toNat a) (0:Int)).length <|
 T.bind (Jt d b (b.length:Int) (0,(List.replicate (Int.toNat a) 0))) λc =>
 oE c <|
 T.bind (qB (List.drop 0 (List.take (0+c.length) c))) λe =>
 .ret e
def sn(e:Int):((List Int)×Int)->T (((List Int)×Int)⊕((List Int)))
 | (a,b) =>
 .ite (decide (b<e))
  (T.bind (cw 10) λc =>
 T.bind (gz a c) λd =>
 .ret (.inl (d,(zD (b+1)))))
  (.ret (.inr a))
def Jx x s:=T.loop (sn x) s
def XT(c:Int):T (List Int) :=
 T.bind (cw 1) λa =>
 T.bind (Jx c (a,0)) λb =>
 .ret b
def tI(a:Rat):T zh :=
 .ite a.1
  (.ret [45])
  (.ret [])
def ua  : ((Nat×Nat)×Int×Int×(List Int))->T (((Nat×Nat)×Int×Int×(List Int))⊕((List Int)))
 | (b,c,d,a)=>let e:=List.set a (b.1+(Int.toNat c)) (xK a (b.1+(Int.toNat d)) (zd (.int .u8))); let f:=List.set e (b.1+(Int.toNat d)) (xK a (b.1+(Int.toNat c)) (zd (.int .u8)));
 .ite (decide (c<d))
  (.zb (zT d b.2) <|
 .zb (va a.length a.length (b.1+(Int.toNat d)) a.length) <|
 .zb (zT c b.2) <|
 .zb (va a.length a.length (b.1+(Int.toNat c)) a.length) <|
 .zb (zT c b.2) <|
 .zb (va a.length a.length (b.1+(Int.toNat c)) a.length) <|
 .zb (zT d b.2) <|
 .zb (va a.length a.length (b.1+(Int.toNat d)) e.length) <|
 oE a <|
 .zb (a.length=f.length) <|
 .ret (.inl (b,((zD (c+1)),((zD (d-1)),f)))))
  (oE a <|
 .ret (.inr a))
def gn(s:((Nat×Nat)×Int×Int×(List Int))):T ((List Int)):=T.loop (ua ) s
def je(c:(Nat×Nat))(a:(List Int)):T (List Int) :=
 oE a <|
 oE a <|
 T.bind (gn  (c,(0,((zD ((Nat.cast c.2:Int)-1)),a)))) λb =>
 oE b <|
 .ret b
def mN(e:(List Int)):(Int×Int×(List Int))->T ((Int×Int×(List Int))⊕((List Int)))
 | (b,c,a)=>let d:=a++([(wk [48,49,50,51,52,53,54,55,56,57] (Int.tmod b (10:Int)))]:List Int);
 .ite (decide (c<9))
  (.zb (10≠(0:Int)) <|
 oI (Int.tmod b (10:Int)) ([48,49,50,51,52,53,54,55,56,57]:zh) <|
 oA a 1 <|
 .zb (10≠(0:Int)) <|
 oM (a.length+1) d.length <|
 .ret (.inl ((kl (Int.tdiv b (10:Int))),((zD (c+1)),d))))
  (oC a <|
 oE a <|
 .ret (.inr a))
def Wt q1 s:=T.loop (mN q1) s
def ng  : ((List Int)×(List Int))->T (((List Int)×(List Int))⊕((List Int)))
 | (d,a) =>
 .ite (decide (0<(d.length:Int)))
  (T.bind (oJ d 1000000000) λ(c,e) =>
 oC a <|
 oE a <|
 T.bind (Wt c (e,(0,a))) λb =>
 oC b <|
 oE b <|
 .ret (.inl (c,b)))
  (oC a <|
 oE a <|
 .ret (.inr a))
def XS(s:((List Int)×(List Int))):T ((List Int)):=T.loop (ng ) s
def nj  : ((Nat×Nat)×(List Int))->T (((Nat×Nat)×(List Int))⊕(((Nat×Nat)×(List Int))))
 | (b,a)=>let c:=zD ((Nat.cast b.2:Int)-1);
 .zb (((decide (1<(Nat.cast b.2:Int)))=true)->((zT c b.2)/\(va a.length a.length (b.1+(Int.toNat c)) a.length))) <|
 .ite ((decide (1<(Nat.cast b.2:Int)))&&((xK a (b.1+(Int.toNat c)) (zd (.int .u8)))==48))
  (.zb (vG 0 c b.2) <|
 oE a <|
 oE a <|
 .ret (.inl (((b.1+(Int.toNat 0)),((Int.toNat c)-(Int.toNat 0))),a)))
  (oE a <|
 oE a <|
 .ret (.inr (b,a)))
def Wm(s:((Nat×Nat)×(List Int))):T (((Nat×Nat)×(List Int))):=T.loop (nj ) s
def iT(f:(List Int)):T zh :=
 T.bind (b7 f) λd =>
 .ite ((d.length:Int)==0)
  (.ret [48])
  (oZ <|
 T.bind (XS  (d,[])) λa =>
 oE a <|
 oE a <|
 T.bind (Wm  ((0,a.length),a)) λ(b,c) =>
 oE c <|
 oE c <|
 T.bind (je b c) λe =>
 .zb (c.length=e.length) <|
 .ret (wz (List.drop b.1 (List.take (b.1+b.2) e))))
def strings_Repeat(b:zh)(a:Int):T zh :=
 .zb (0<=a/\a<=9223372036854775807/\b.length*(Int.toNat a)<=140737488355328) <|
 .ret (Bf b (Int.toNat a))
def pS(a:zh)(e:Int):T zh :=
 .ite (e==0)
  (.ret a)
  (T.bind (strings_Repeat [48] (rI 0 (zD ((zD (e+1))-(a.length:Int))))) λb=>let d:=((cat b a).length:Int); let c:=zD (d-e);
 oK b a <|
 .zb (vG 0 c (cat b a).length) <|
 oK (cx 0 c (cat b a)) [46] <|
 .zb (vG c d (cat b a).length) <|
 oK (cat (cx 0 c (cat b a)) [46]) (cx c d (cat b a)) <|
 .ret (cat (cat (cx 0 c (cat b a)) [46]) (cx c d (cat b a))))
def nc  : (Int×Rat)->T ((Int×Rat)⊕(Rat⊕(zh×Bool×Rat)))
 | (b,a) =>
 .ite (decide (b<61))
  (T.bind (XT b) λe =>
 T.bind (gz a.2.1 e) λf =>
 T.bind (b4 f a.2.2.1) λ(g,h,j) =>
 .ite ((h.length:Int)==0)
  (T.bind (tI a) λc =>
 T.bind (iT g) λi =>
 T.bind (pS i b) λd =>
 oK c d <|
 .ret (.inr (.inr ((cat c d),(true,a)))))
  (.ret (.inl ((zD (b+1)),a))))
  (.ret (.inr (.inl a)))
def XX(s:(Int×Rat)):T (Rat⊕(zh×Bool×Rat)):=T.loop (nc ) s
def nW(d:Rat):T (zh×Bool) :=
 T.bind (qD d) λa =>
 T.bind (XX  (0,a)) <|
 Sum.elim (λe =>
 .ret ([],false))
  (λ(b,c,f) =>
 .ret (b,c))
def tF(a:Rat):T Bool :=
 T.bind (T.bind (fN a) λb =>
 .ite (!b)
  (.ret true)
  (.ite a.1
  (.ret true)
  (T.bind (jN a) λc =>
 .ret c)):T (Bool)) λd =>
 .ite d
  (.ret false)
  (T.bind (nW a) λ(f,e) =>
 .ret e)
def fm(a:Rat):T Bool :=
 .ite (!a.1)
  (.ite ((a.2.1.length:Int)==0)
  (.ite ((a.2.2.1.length:Int)==0)
  (.ret true)
  (T.bind (fN a) λb =>
 .ret b))
  (.ret false))
  (.ret false)
def p0(a:AM.Expr):T Bool :=
 T.bind (Qz (Expr.kind a)) λb =>
 .ite (((Expr.kids a).length:Int) != b)
  (.ret false)
  (.ite ((Expr.kind a)==1)
  (T.bind (tF (Expr.num a)) λc =>
 .ite c
  (.ret (qb (Expr.name a) []))
  (.ret false))
  (.ite ((Expr.kind a)==2)
  (T.bind (fm (Expr.num a)) λd =>
 .ite d
  (T.bind (qV (Expr.name a)) λe =>
 .ret e)
  (.ret false))
  (T.bind (fm (Expr.num a)) λf =>
 .ite f
  (.ret (qb (Expr.name a) []))
  (.ret false))))
def lJ(c:AM.Expr->Int->Int->T (Bool×Int))(d:AM.Expr)(e:Int)(f:Int):T (Bool×Int) :=
 T.bind (c d (zD (e+1)) f) λ(a,b) =>
 .ret ((!a),b)
def xa(g:AM.Expr->Int->Int->T (Bool×Int))(e:(List AM.Expr))(h:Int):((Int×Unit)×Int×Int)->T (((Int×Unit)×Int×Int)⊕(Int⊕(Int×Int)))
 | (c,a,d) =>
 .ite (decide (a<h))
  (oI a e <|
 T.bind ((lJ g) (nth e a (zd .expr)) c.1 d) λ(f,b) =>
 .ite f
  (.ret (.inr (.inr (a,b))))
  (.ret (.inl ((c.1,()),((zD (a+1)),b)))))
  (.ret (.inr (.inl d)))
def vF self_expr_may s1 x s:=T.loop (xa self_expr_may s1 x) s
def xw(e:AM.Expr->Int->Int->T (Bool×Int))(a:(List AM.Expr))(f:(Int×Unit))(g:Int):T (Int×Int) :=
 T.bind (vF e a (a.length:Int) ((f.1,()),(0,g))) <|
 Sum.elim (λb =>
 .ret ((-1),b))
  (λ(c,d) =>
 .ret (c,d))
def xb(c:AM.Expr->Int->Int->T (Bool×Int))(d:(List AM.Expr))(e:(Int×Unit))(f:Int):T (Bool×Int) :=
 T.bind ((xw c) d (e.1,()) f) λ(a,b) =>
 .ret ((decide (0<=a)),b)
def dw(i:AM.Expr->Int->Int->T (Bool×Int))(c:AM.Expr)(d:Int)(a:Int):T (Bool×Int) :=
 T.bind (.ite (decide ((zD (a-1))<0))
  (.ret (true,(zD (a-1))))
  (.ite (decide (32<=d))
  (.ret (true,(zD (a-1))))
  (T.bind (p0 c) λe =>
 .ret ((!e),(zD (a-1))))):T ((Bool×Int))) λ(f,b) =>
 .ite f
  (.ret (false,b))
  (T.bind ((xb i) (Expr.kids c) (d,()) b) λ(g,h) =>
 .ret ((!g),h))
def tN(e:AM.Expr)(deep:Int)(left:Int):T (Bool×Int):=T.fix (λF x=>dw (λy0 y1 y2=>F (y0,y1,y2)) x.1 x.2.1 x.2.2) (e,deep,left)
def bZ(b:AM.Expr):T Bool :=
 T.bind (tN b 0 256) λ(a,c) =>
 .ret a
def vE  : T (List zh) :=
 .ret ([[114,101,113,117,105,114,101,100],[115,116,114,111,110,103],[109,101,100,105,117,109],[119,101,97,107]]:List zh)
def vC(a:qn):T Bool :=
 T.bind (qV a.1) λb =>
 .ite (!b)
  (.ret true)
  (.ite (decide (a.2.1<(0:Int)))
  (.ret true)
  (T.bind (vE) λc =>
 .ite (decide ((c.length:Int)<=a.2.1))
  (.ret true)
  (T.bind (di a.2.2.1) λd =>
 .ite (!d)
  (.ret true)
  (T.bind (bZ a.2.2.2.1) λe =>
 .ite (!e)
  (.ret true)
  (T.bind (bZ a.2.2.2.2.1) λf =>
 .ret (!f))))))
def ub(b:(List qn))(d:qn->T Bool)(e:Int):Int->T (Int⊕(Unit⊕Int))
 | a =>
 .ite (decide (a<e))
  (oI a b <|
 T.bind (d (nth b a (zd zH))) λc =>
 .ite c
  (.ret (.inr (.inr a)))
  (.ret (.inl (zD (a+1)))))
  (.ret (.inr (.inl ())))
def gy s1 f x s:=T.loop (ub s1 f x) s
def jq(a:(List qn))(c:qn->T Bool):T Int :=
 T.bind (gy a c (a.length:Int) 0) <|
 Sum.elim (λ_ =>
 .ret (-1))
  (λb =>
 .ret b)
def vZ(b:(List qn))(c:qn->T Bool):T Bool :=
 T.bind (jq b c) λa =>
 .ret (decide (0<=a))
def ey(l:Form)(c:(List Check))(m:Int):(Int×Int)->T ((Int×Int)⊕(Unit⊕Bool))
 | (k,b)=>let a:=nth c b (zd zM);
 .ite (decide (b<m))
  (oI b c <|
 T.bind (T.bind (qV a.1) λd =>
 .ite (!d)
  (.ret (true,a))
  (T.bind (dm a.2.1 k (l.2.2.1.length:Int)) λe =>
 .ite (!e)
  (.ret (true,a))
  (.ite (decide (a.2.2.1<(0:Int)))
  (.ret (true,a))
  (T.bind (kJ) λf =>
 .ite (decide ((f.length:Int)<=a.2.2.1))
  (.ret (true,a))
  (T.bind (bZ (Expr.mk (Expr.kind a.2.2.2.1) ((Expr.num a.2.2.2.1).1,((Expr.num a.2.2.2.1).2.1,((Expr.num a.2.2.2.1).2.2.1,()))) (Expr.name a.2.2.2.1) (Expr.kids a.2.2.2.1))) λg =>
 .ite (!g)
  (.ret (true,a))
  (T.bind (bZ (Expr.mk (Expr.kind a.2.2.2.2.1) ((Expr.num a.2.2.2.2.1).1,((Expr.num a.2.2.2.2.1).2.1,((Expr.num a.2.2.2.2.1).2.2.1,()))) (Expr.name a.2.2.2.2.1) (Expr.kids a.2.2.2.2.1))) λh =>
 .ret ((!h),a)))))):T ((Bool×Check))) λ(i,j) =>
 .ite i
  (.ret (.inr (.inr false)))
  (.ret (.inl (j.2.1,(zD (b+1))))))
  (.ret (.inr (.inl ())))
def rR f1 x x1 s:=T.loop (ey f1 x x1) s
def nD(a:Form):T Bool :=
 T.bind (rR a a.2.2.2.2.2.1 (a.2.2.2.2.2.1.length:Int) (0,0)) <|
 Sum.elim (λ_ =>
 T.bind (vZ a.2.2.2.2.1 (λb=>vC b)) λc =>
 .ret (!c))
  (λd =>
 .ret d)
def lI(v:Unit)(l:List Int):T (Unit×List Int):=.ret (v,l)
def zR(b:zh)(e:(Unit))(c:(List Int)):T (Int×(Unit)×(List Int)) :=
 oC c <|
 oE c <|
 T.bind (lI () c) λ(d,a) =>
 .zb (wg a.length a.length 0 a.length a.length (bytesOf b).length 1) <|
 oM (a.length+(bytesOf b).length) (a++(bytesOf b)).length <|
 .ret ((b.length:Int),((),(a++(bytesOf b))))
def jQ(g:Rat):T zh :=
 T.bind (qD g) λa =>
 T.bind (tI a) λb =>
 T.bind (iT a.2.1) λc =>
 oK b c <|
 T.bind (cw 1) λe =>
 T.bind (nI a.2.2.1 e) λf =>
 .ite (f != 0)
  (T.bind (iT a.2.2.1) λd =>
 oK [47] d <|
 oK (cat b c) (cat [47] d) <|
 .ret (cat (cat b c) (cat [47] d)))
  (.ret (cat b c))
def lM(a:zh):T zh :=
 .ite (qb a [])
  (.ret [])
  (oK [32,119,104,101,110,32] a <|
 .ret (cat [32,119,104,101,110,32] a))
def strconv_Itoa(a:Int):T zh :=
 .zb ((-9223372036854775808)<=a/\a<=9223372036854775807) <|
 .ret (Vr a)
def pY(a:Field):T zh :=
 let c:=cat [102,105,101,108,100,32] a.1; let b:=bif a.2.2.1 then(cat c [32,109,117,115,116])else c;  oK [102,105,101,108,100,32] a.1 <|
 .zb ((a.2.2.1=true)->((c.length+([32,109,117,115,116]:zh).length)<=4611686018427387904)) <|
 .ite (decide ((0:Int)<a.2.2.2.1))
  (T.bind (strconv_Itoa a.2.2.2.1) λe=>let d:=cat [32,115,99,97,108,101,32] e;
 oK [32,115,99,97,108,101,32] e <|
 oK b d <|
 oK (cat b d) [10] <|
 .ret (cat (cat b d) [10]))
  (oK b [10] <|
 .ret (cat b [10]))
def dc(a:AM.Expr):T Int :=
 .ite (bif ((Expr.kind a)==3)then((Expr.kind a)==3)else((Expr.kind a)==4))
  (.ret 1)
  (.ite (bif ((Expr.kind a)==5)then((Expr.kind a)==5)else((Expr.kind a)==6))
  (.ret 2)
  (.ite ((Expr.kind a)==7)
  (.ret 3)
  (.ret 4)))
def bY(c:AM.Expr->T zh)(b:AM.Expr)(f:Int):T zh :=
 T.bind (dc b) λd =>
 .ite (decide (d<f))
  (T.bind (c b) λa =>
 oK [40] a <|
 oK (cat [40] a) [41] <|
 .ret (cat (cat [40] a) [41]))
  (T.bind (c b) λe =>
 .ret e)
def dR(d:AM.Expr->T zh)(a:AM.Expr):T zh :=
 T.bind (.ite ((Expr.kind a)==1)
  (T.bind (nW (Expr.num a)) λ(g,k) =>
 .ret (.inr g))
  (.ite ((Expr.kind a)==2)
  (.ret (.inr (Expr.name a)))
  (.ite ((Expr.kind a)==7)
  (oI 0 (Expr.kids a) <|
 T.bind ((bY d) (nth (Expr.kids a) 0 (zd .expr)) 3) λe =>
 oK [45] e <|
 .ret (.inr (cat [45] e)))
  (.ite ((Expr.kind a)==3)
  (.ret (.inl [32,43,32]))
  (.ite ((Expr.kind a)==4)
  (.ret (.inl [32,45,32]))
  (.ite ((Expr.kind a)==5)
  (.ret (.inl [32,42,32]))
  (.ite ((Expr.kind a)==6)
  (.ret (.inl [32,47,32]))
  (.ret (.inl [])))))))):T (zh⊕zh)) <|
 Sum.elim (λb =>
 oI 0 (Expr.kids a) <|
 T.bind (dc a) λh =>
 T.bind ((bY d) (nth (Expr.kids a) 0 (zd .expr)) h) λc =>
 oK c b <|
 oI 1 (Expr.kids a) <|
 T.bind (dc a) λi =>
 T.bind ((bY d) (nth (Expr.kids a) 1 (zd .expr)) (zD (i+1))) λf =>
 oK (cat c b) f <|
 .ret (cat (cat c b) f))
  (λj =>
 .ret j)
def Zl(e:AM.Expr):T zh:=T.fix (λF x=>dR (λy0=>F (y0)) x) e
def mA(a:AM.Expr):T zh :=
 T.bind (bZ a) λb =>
 .ite (!b)
  (.ret [])
  (T.bind (Zl a) λc =>
 .ret c)
def ir(e:AM.Expr)(a:zh)(f:AM.Expr):T zh :=
 T.bind (mA e) λc=>let b:=cat (cat [32,58,32] c) [32];
 oK [32,58,32] c <|
 oK (cat [32,58,32] c) [32] <|
 oK b a <|
 oK (cat b a) [32] <|
 T.bind (mA f) λd =>
 oK (cat (cat b a) [32]) d <|
 oK (cat (cat (cat b a) [32]) d) [10] <|
 .ret (cat (cat (cat (cat b a) [32]) d) [10])
def dT(f:Int)(k:Form)(d:(List Field))(g:Int):(Int×(Unit)×(List Int))->T ((Int×(Unit)×(List Int))⊕(((Unit)×(List Int))))
 | (b,j,a) =>
 .ite (decide (b<g))
  (oI b d <|
 .ite ((nth d b (zd zw)).2.1==f)
  (T.bind (pY (nth d b (zd zw))) λe =>
 oC a <|
 oE a <|
 T.bind (zR e () a) λ(h,i,c) =>
 oC c <|
 oE c <|
 .ret (.inl ((zD (b+1)),((),c))))
  (oC a <|
 oE a <|
 .ret (.inl ((zD (b+1)),((),a)))))
  (oC a <|
 oE a <|
 .ret (.inr ((),a)))
def rl i1 f1 x x1 s:=T.loop (dT i1 f1 x x1) s
def e8(h:Int)(g:(List Check))(i:Int):(Int×(Unit)×(List Int))->T ((Int×(Unit)×(List Int))⊕(((Unit)×(List Int))))
 | (c,l,b)=>let a:=nth g c (zd zM);
 .ite (decide (c<i))
  (oI c g <|
 .ite (a.2.1==h)
  (oK [99,104,101,99,107,32] a.1 <|
 T.bind (kJ) λe =>
 .zb (zT a.2.2.1 e.length) <|
 T.bind (ir (Expr.mk (Expr.kind a.2.2.2.1) ((Expr.num a.2.2.2.1).1,((Expr.num a.2.2.2.1).2.1,((Expr.num a.2.2.2.1).2.2.1,()))) (Expr.name a.2.2.2.1) (Expr.kids a.2.2.2.1)) (nth e a.2.2.1 (zd .str)) (Expr.mk (Expr.kind a.2.2.2.2.1) ((Expr.num a.2.2.2.2.1).1,((Expr.num a.2.2.2.2.1).2.1,((Expr.num a.2.2.2.2.1).2.2.1,()))) (Expr.name a.2.2.2.2.1) (Expr.kids a.2.2.2.2.1))) λf =>
 oK (cat [99,104,101,99,107,32] a.1) f <|
 oC b <|
 oE b <|
 T.bind (zR (cat (cat [99,104,101,99,107,32] a.1) f) () b) λ(j,k,d) =>
 oC d <|
 oE d <|
 .ret (.inl ((zD (c+1)),((),d))))
  (oC b <|
 oE b <|
 .ret (.inl ((zD (c+1)),((),b)))))
  (oC b <|
 oE b <|
 .ret (.inr ((),b)))
def rJ i2 x3 x4 s:=T.loop (e8 i2 x3 x4) s
def mP(a:Form)(b:Int)(m:(Unit))(g:(List Int)):T ((Unit)×(List Int)) :=
 let h:=cat [112,97,103,101,32] (nth a.2.2.1 b (zd zO)).1;  oI b a.2.2.1 <|
 oK [112,97,103,101,32] (nth a.2.2.1 b (zd zO)).1 <|
 oI b a.2.2.1 <|
 T.bind (lM (nth a.2.2.1 b (zd zO)).2.1) λc =>
 oK h c <|
 oK (cat h c) [10] <|
 oC g <|
 oE g <|
 T.bind (zR (cat (cat h c) [10]) () g) λ(i,j,d) =>
 oC d <|
 oE d <|
 T.bind (rl b a a.2.2.2.1 (a.2.2.2.1.length:Int) (0,((),d))) λ(k,e) =>
 oC e <|
 oE e <|
 T.bind (rJ b a.2.2.2.2.2.1 (a.2.2.2.2.2.1.length:Int) (0,((),e))) λ(l,f) =>
 oC f <|
 oE f <|
 .ret ((),f)
def tX(v:Unit)(l:List Int):T (zh×Unit):=Rr l
def eX(k:Form)(e:(List Switch))(g:Int):(Int×(Unit)×(List Int))->T ((Int×(Unit)×(List Int))⊕(((Unit)×(List Int))))
 | (b,j,a)=>let c:=nth e b (zd zr); let f:=bif c.2.1 then[32,111,110,10]else[32,111,102,102,10];
 .ite (decide (b<g))
  (oI b e <|
 oK [115,119,105,116,99,104,32] c.1 <|
 oK (cat [115,119,105,116,99,104,32] c.1) f <|
 oC a <|
 oE a <|
 T.bind (zR (cat (cat [115,119,105,116,99,104,32] c.1) f) () a) λ(h,i,d) =>
 oC d <|
 oE d <|
 .ret (.inl ((zD (b+1)),((),d))))
  (oC a <|
 oE a <|
 .ret (.inr ((),a)))
def te f1 x x1 s:=T.loop (eX f1 x x1) s
def fD(l:Form)(g:(List Param))(h:Int):(Int×(Unit)×(List Int))->T ((Int×(Unit)×(List Int))⊕(((Unit)×(List Int))))
 | (c,k,a)=>let b:=nth g c (zd zB); let d:=cat [112,97,114,97,109,32] b.1;
 .ite (decide (c<h))
  (oI c g <|
 oK [112,97,114,97,109,32] b.1 <|
 oK d [32] <|
 T.bind (jQ (b.2.1.1,(b.2.1.2.1,(b.2.1.2.2.1,())))) λe =>
 oK (cat d [32]) e <|
 oK (cat (cat d [32]) e) [10] <|
 oC a <|
 oE a <|
 T.bind (zR (cat (cat (cat d [32]) e) [10]) () a) λ(i,j,f) =>
 oC f <|
 oE f <|
 .ret (.inl ((zD (c+1)),((),f))))
  (oC a <|
 oE a <|
 .ret (.inr ((),a)))
def sr f2 x3 x4 s:=T.loop (fD f2 x3 x4) s
def fk(d:Form)(e:Int):(Int×(Unit)×(List Int))->T ((Int×(Unit)×(List Int))⊕(((Unit)×(List Int))))
 | (c,g,a) =>
 .ite (decide (c<e))
  (oC a <|
 oE a <|
 T.bind (mP d c () a) λ(f,b) =>
 oC b <|
 oE b <|
 .ret (.inl ((zD (c+1)),((),b))))
  (oC a <|
 oE a <|
 .ret (.inr ((),a)))
def Z8 f3 x6 s:=T.loop (fk f3 x6) s
def fj(i:(List qn))(j:Int):(Int×(Unit)×(List Int))->T ((Int×(Unit)×(List Int))⊕(((Unit)×(List Int))))
 | (d,m,b)=>let a:=nth i d (zd zH);
 .ite (decide (d<j))
  (oI d i <|
 T.bind (vE) λe=>let c:=cat [114,117,108,101,32] (nth e a.2.1 (zd .str));
 .zb (zT a.2.1 e.length) <|
 oK [114,117,108,101,32] (nth e a.2.1 (zd .str)) <|
 oK c [32] <|
 oK (cat c [32]) a.1 <|
 T.bind (lM a.2.2.1) λf =>
 oK (cat (cat c [32]) a.1) f <|
 T.bind (ir (Expr.mk (Expr.kind a.2.2.2.1) ((Expr.num a.2.2.2.1).1,((Expr.num a.2.2.2.1).2.1,((Expr.num a.2.2.2.1).2.2.1,()))) (Expr.name a.2.2.2.1) (Expr.kids a.2.2.2.1)) [61] (Expr.mk (Expr.kind a.2.2.2.2.1) ((Expr.num a.2.2.2.2.1).1,((Expr.num a.2.2.2.2.1).2.1,((Expr.num a.2.2.2.2.1).2.2.1,()))) (Expr.name a.2.2.2.2.1) (Expr.kids a.2.2.2.2.1))) λh =>
 oK (cat (cat (cat c [32]) a.1) f) h <|
 oC b <|
 oE b <|
 T.bind (zR (cat (cat (cat (cat c [32]) a.1) f) h) () b) λ(k,l,g) =>
 oC g <|
 oE g <|
 .ret (.inl ((zD (d+1)),((),g))))
  (oC b <|
 oE b <|
 .ret (.inr ((),b)))
def Zu x8 x9 s:=T.loop (fj x8 x9) s
def eW(a:Form):T zh :=
 oZ <|
 T.bind (te a a.1 (a.1.length:Int) (0,((),[]))) λ(g,b) =>
 oC b <|
 oE b <|
 T.bind (sr a a.2.1 (a.2.1.length:Int) (0,((),b))) λ(h,c) =>
 oC c <|
 oE c <|
 T.bind (Z8 a (a.2.2.1.length:Int) (0,((),c))) λ(i,d) =>
 oC d <|
 oE d <|
 T.bind (Zu a.2.2.2.2.1 (a.2.2.2.2.1.length:Int) (0,((),d))) λ(j,e) =>
 oC e <|
 oE e <|
 T.bind (tX () e) λ(f,k) =>
 .ret f
def mR(a:Form):T Bool :=
 T.bind (oX a) λb =>
 .ite b
  (T.bind (mM a) λc =>
 .ite c
  (T.bind (nD a) λd =>
 .ite d
  (T.bind (eW a) λe =>
 .ret (decide ((e.length:Int)<=16384)))
  (.ret false))
  (.ret false))
  (.ret false)
def fU(e:Form)(c:(List Switch))(d:Int):(Int×(List zh))->T ((Int×(List zh))⊕((List zh)))
 | (b,a) =>
 .ite (decide (b<d))
  (oI b c <|
 oA a 16 <|
 oM (a.length+1) (a++([(nth c b (zd zr)).1]:List zh)).length <|
 .ret (.inl ((zD (b+1)),(a++([(nth c b (zd zr)).1]:List zh)))))
  (oC a <|
 oE a <|
 .ret (.inr a))
def Zq f1 x x1 s:=T.loop (fU f1 x x1) s
def eQ(e:Form)(c:(List Param))(d:Int):(Int×(List zh))->T ((Int×(List zh))⊕((List zh)))
 | (b,a) =>
 .ite (decide (b<d))
  (oI b c <|
 oA a 16 <|
 oM (a.length+1) (a++([(nth c b (zd zB)).1]:List zh)).length <|
 .ret (.inl ((zD (b+1)),(a++([(nth c b (zd zB)).1]:List zh)))))
  (oC a <|
 oE a <|
 .ret (.inr a))
def sy f2 x3 x4 s:=T.loop (eQ f2 x3 x4) s
def fZ(e:Form)(c:(List qw))(d:Int):(Int×(List zh))->T ((Int×(List zh))⊕((List zh)))
 | (b,a) =>
 .ite (decide (b<d))
  (oI b c <|
 oA a 16 <|
 oM (a.length+1) (a++([(nth c b (zd zO)).1]:List zh)).length <|
 .ret (.inl ((zD (b+1)),(a++([(nth c b (zd zO)).1]:List zh)))))
  (oC a <|
 oE a <|
 .ret (.inr a))
def Zk f3 x6 x7 s:=T.loop (fZ f3 x6 x7) s
def fe(e:Form)(c:(List Field))(d:Int):(Int×(List zh))->T ((Int×(List zh))⊕((List zh)))
 | (b,a) =>
 .ite (decide (b<d))
  (oI b c <|
 oA a 16 <|
 oM (a.length+1) (a++([(nth c b (zd zw)).1]:List zh)).length <|
 .ret (.inl ((zD (b+1)),(a++([(nth c b (zd zw)).1]:List zh)))))
  (oC a <|
 oE a <|
 .ret (.inr a))
def sq f4 x9 x10 s:=T.loop (fe f4 x9 x10) s
def fM(e:Form)(c:(List qn))(d:Int):(Int×(List zh))->T ((Int×(List zh))⊕((List zh)))
 | (b,a) =>
 .ite (decide (b<d))
  (oI b c <|
 oA a 16 <|
 oM (a.length+1) (a++([(nth c b (zd zH)).1]:List zh)).length <|
 .ret (.inl ((zD (b+1)),(a++([(nth c b (zd zH)).1]:List zh)))))
  (oC a <|
 oE a <|
 .ret (.inr a))
def sY f5 x12 x13 s:=T.loop (fM f5 x12 x13) s
def fa(c:(List Check))(d:Int):(Int×(List zh))->T ((Int×(List zh))⊕((List zh)))
 | (b,a) =>
 .ite (decide (b<d))
  (oI b c <|
 oA a 16 <|
 oM (a.length+1) (a++([(nth c b (zd zM)).1]:List zh)).length <|
 .ret (.inl ((zD (b+1)),(a++([(nth c b (zd zM)).1]:List zh)))))
  (oC a <|
 oE a <|
 .ret (.inr a))
def tw x15 x16 s:=T.loop (fa x15 x16) s
def pZ(a:Form):T (List zh) :=
 oZ <|
 T.bind (Zq a a.1 (a.1.length:Int) (0,[])) λb =>
 oC b <|
 oE b <|
 T.bind (sy a a.2.1 (a.2.1.length:Int) (0,b)) λc =>
 oC c <|
 oE c <|
 T.bind (Zk a a.2.2.1 (a.2.2.1.length:Int) (0,c)) λd =>
 oC d <|
 oE d <|
 T.bind (sq a a.2.2.2.1 (a.2.2.2.1.length:Int) (0,d)) λe =>
 oC e <|
 oE e <|
 T.bind (sY a a.2.2.2.2.1 (a.2.2.2.2.1.length:Int) (0,e)) λf =>
 oC f <|
 oE f <|
 T.bind (tw a.2.2.2.2.2.1 (a.2.2.2.2.2.1.length:Int) (0,f)) λg =>
 oE g <|
 .ret (List.drop 0 (List.take (0+g.length) g))
def Cf:List zh->List zh->zh×Bool
 | _,[]=>([],false)
 | seen,x::r=>if x∈seen then(x,true)else Cf (seen++[x]) r
def pF(l:List zh):T (zh×Bool):=.zb (List.length l*16<=140737488351232/\∀ s∈l,List.length s<=9223372036854775807)<|.ret (Cf [] l)
def xd(a:Switch)(b:zh):T Bool :=
 .ret (qb a.1 b)
def vp(a:zh)(d:Form):T Bool :=
 .ite (!(qb a []))
  (T.bind (qx d.1 (λb=>xd b a)) λc =>
 .ret (!c))
  (.ret false)
def qy(b:(List zh))(d:zh->T Bool)(e:Int):Int->T (Int⊕(Unit⊕Int))
 | a =>
 .ite (decide (a<e))
  (oI a b <|
 T.bind (d (nth b a (zd .str))) λc =>
 .ite c
  (.ret (.inr (.inr a)))
  (.ret (.inl (zD (a+1)))))
  (.ret (.inr (.inl ())))
def yH s1 f x s:=T.loop (qy s1 f x) s
def qd(a:(List zh))(c:zh->T Bool):T Int :=
 T.bind (yH a c (a.length:Int) 0) <|
 Sum.elim (λ_ =>
 .ret (-1))
  (λb =>
 .ret b)
def gN(e:Form)(c:(List qw))(d:Int):(Int×(List zh))->T ((Int×(List zh))⊕((List zh)))
 | (b,a) =>
 .ite (decide (b<d))
  (oI b c <|
 oA a 16 <|
 oM (a.length+1) (a++([(nth c b (zd zO)).2.1]:List zh)).length <|
 .ret (.inl ((zD (b+1)),(a++([(nth c b (zd zO)).2.1]:List zh)))))
  (oC a <|
 oE a <|
 .ret (.inr a))
def mb f1 x x1 s:=T.loop (gN f1 x x1) s
def h9(e:Form)(c:(List qn))(d:Int):(Int×(List zh))->T ((Int×(List zh))⊕((List zh)))
 | (b,a) =>
 .ite (decide (b<d))
  (oI b c <|
 oA a 16 <|
 oM (a.length+1) (a++([(nth c b (zd zH)).2.2.1]:List zh)).length <|
 .ret (.inl ((zD (b+1)),(a++([(nth c b (zd zH)).2.2.1]:List zh)))))
  (oC a <|
 oE a <|
 .ret (.inr a))
def mh f2 x3 x4 s:=T.loop (h9 f2 x3 x4) s
def ea(b:Form):T (zh×Bool) :=
 oZ <|
 T.bind (mb b b.2.2.1 (b.2.2.1.length:Int) (0,[])) λd =>
 oC d <|
 oE d <|
 T.bind (mh b b.2.2.2.2.1 (b.2.2.2.2.1.length:Int) (0,d)) λa =>
 oE a <|
 T.bind (qd (List.drop 0 (List.take (0+a.length) a)) (λe=>vp e b)) λc =>
 .ite (decide (c<0))
  (.ret ([],false))
  (oI c a <|
 .zb (va a.length a.length (0+(Int.toNat c)) a.length) <|
 .ret ((xK a (0+(Int.toNat c)) (zd .str)),true))
def uZ(b:(List zh))(c:zh)(d:Int):Int->T (Int⊕(Unit⊕Int))
 | a =>
 .ite (decide (a<d))
  (oI a b <|
 .ite (qb c (nth b a (zd .str)))
  (.ret (.inr (.inr a)))
  (.ret (.inl (zD (a+1)))))
  (.ret (.inr (.inl ())))
def bE s1 v1 x s:=T.loop (uZ s1 v1 x) s
def qu(a:(List zh))(c:zh):T Int :=
 T.bind (bE a c (a.length:Int) 0) <|
 Sum.elim (λ_ =>
 .ret (-1))
  (λb =>
 .ret b)
def qi(b:(List zh))(c:zh):T Bool :=
 T.bind (qu b c) λa =>
 .ret (decide (0<=a))
def en(e:AM.Expr->(List zh)->T (List zh))(d:(List AM.Expr))(f:Int):(Int×(List zh))->T ((Int×(List zh))⊕((List zh)))
 | (b,a) =>
 .ite (decide (b<f))
  (oI b d <|
 oC a <|
 oE a <|
 T.bind (e (nth d b (zd .expr)) a) λc =>
 oC c <|
 oE c <|
 .ret (.inl ((zD (b+1)),c)))
  (oC a <|
 oE a <|
 .ret (.inr a))
def rK self_expr_names x1 x2 s:=T.loop (en self_expr_names x1 x2) s
def bo(h:AM.Expr->(List zh)->T (List zh))(c:AM.Expr)(a:(List zh)):T (List zh) :=
 T.bind (T.bind (.ite ((Expr.kind c)==2)
  (oE a <|
 T.bind (qi (List.drop 0 (List.take (0+a.length) a)) (Expr.name c)) λf =>
 oC a <|
 oE a <|
 .ret ((!f),a))
  (oC a <|
 oE a <|
 .ret (false,a)):T ((Bool×(List zh)))) λ(g,b) =>
 .ite g
  (oA b 16 <|
 oM (b.length+1) (b++([(Expr.name c)]:List zh)).length <|
 .ret (b++([(Expr.name c)]:List zh)))
  (oC b <|
 oE b <|
 .ret b):T ((List zh))) λd =>
 oC d <|
 oE d <|
 T.bind (rK h (Expr.kids c) ((Expr.kids c).length:Int) (0,d)) λe =>
 oC e <|
 oE e <|
 .ret e
def mI(e:AM.Expr)(l:(List zh)):T (List zh):=T.fix (λF x=>bo (λy0 y1=>F (y0,y1)) x.1 x.2) (e,l)
def cF(d:(List AM.Expr))(e:Int):(Int×(List zh))->T ((Int×(List zh))⊕((List zh)))
 | (b,a) =>
 .ite (decide (b<e))
  (oI b d <|
 oC a <|
 oE a <|
 T.bind (mI (nth d b (zd .expr)) a) λc =>
 oC c <|
 oE c <|
 .ret (.inl ((zD (b+1)),c)))
  (oC a <|
 oE a <|
 .ret (.inr a))
def nZ x1 x2 s:=T.loop (cF x1 x2) s
def lu(c:AM.Expr)(a:(List zh)):T (List zh) :=
 T.bind (T.bind (.ite ((Expr.kind c)==2)
  (oE a <|
 T.bind (qi (List.drop 0 (List.take (0+a.length) a)) (Expr.name c)) λf =>
 oC a <|
 oE a <|
 .ret ((!f),a))
  (oC a <|
 oE a <|
 .ret (false,a)):T ((Bool×(List zh)))) λ(g,b) =>
 .ite g
  (oA b 16 <|
 oM (b.length+1) (b++([(Expr.name c)]:List zh)).length <|
 .ret (b++([(Expr.name c)]:List zh)))
  (oC b <|
 oE b <|
 .ret b):T ((List zh))) λd =>
 oC d <|
 oE d <|
 T.bind (nZ (Expr.kids c) ((Expr.kids c).length:Int) (0,d)) λe =>
 oC e <|
 oE e <|
 .ret e
def y5(b:AM.Expr):T (List zh) :=
 oZ <|
 T.bind (lu b []) λa =>
 oE a <|
 .ret (List.drop 0 (List.take (0+a.length) a))
def wV(l:List (List zh)):T (List zh):=.zb (List.length l*24<=140737488351232/\List.length (List.flatten l)*16<=140737488355328/\l≠[])<|.ret (List.flatten l)
def xN(a:Param)(b:zh):T Bool :=
 .ret (qb a.1 b)
def uQ(a:zh)(e:(List zh))(f:Form):T Bool :=
 T.bind (qi e a) λb =>
 .ite (!b)
  (T.bind (qE f.2.1 (λc=>xN c a)) λd =>
 .ret (!d))
  (.ret false)
def cP(i:Form)(j:(List zh))(d:(List Check))(h:Int):((List zh)×Int)->T (((List zh)×Int)⊕((List zh)))
 | (c,b)=>let a:=nth d b (zd zM);
 .ite (decide (b<h))
  (oI b d <|
 T.bind (y5 (Expr.mk (Expr.kind a.2.2.2.1) ((Expr.num a.2.2.2.1).1,((Expr.num a.2.2.2.1).2.1,((Expr.num a.2.2.2.1).2.2.1,()))) (Expr.name a.2.2.2.1) (Expr.kids a.2.2.2.1))) λe =>
 T.bind (y5 (Expr.mk (Expr.kind a.2.2.2.2.1) ((Expr.num a.2.2.2.2.1).1,((Expr.num a.2.2.2.2.1).2.1,((Expr.num a.2.2.2.2.1).2.2.1,()))) (Expr.name a.2.2.2.2.1) (Expr.kids a.2.2.2.2.1))) λf =>
 T.bind (wV ([c,e,f]:List (List zh))) λg =>
 .ret (.inl (g,(zD (b+1)))))
  (.ret (.inr c))
def od f1 fields1 x x1 s:=T.loop (cP f1 fields1 x x1) s
def cJ(i:Form)(j:(List zh))(d:(List qn))(h:Int):((List zh)×Int)->T (((List zh)×Int)⊕((List zh)))
 | (c,b)=>let a:=nth d b (zd zH);
 .ite (decide (b<h))
  (oI b d <|
 T.bind (y5 (Expr.mk (Expr.kind a.2.2.2.1) ((Expr.num a.2.2.2.1).1,((Expr.num a.2.2.2.1).2.1,((Expr.num a.2.2.2.1).2.2.1,()))) (Expr.name a.2.2.2.1) (Expr.kids a.2.2.2.1))) λe =>
 T.bind (y5 (Expr.mk (Expr.kind a.2.2.2.2.1) ((Expr.num a.2.2.2.2.1).1,((Expr.num a.2.2.2.2.1).2.1,((Expr.num a.2.2.2.2.1).2.2.1,()))) (Expr.name a.2.2.2.2.1) (Expr.kids a.2.2.2.2.1))) λf =>
 T.bind (wV ([c,e,f]:List (List zh))) λg =>
 .ret (.inl (g,(zD (b+1)))))
  (.ret (.inr c))
def oL f2 fields2 x3 x4 s:=T.loop (cJ f2 fields2 x3 x4) s
def lg(a:Form)(d:(List zh)):T (zh×Bool) :=
 T.bind (od a d a.2.2.2.2.2.1 (a.2.2.2.2.2.1.length:Int) ([],0)) λe =>
 T.bind (oL a d a.2.2.2.2.1 (a.2.2.2.2.1.length:Int) (e,0)) λb =>
 T.bind (qd b (λf=>uQ f d a)) λc =>
 .ite (decide (c<0))
  (.ret ([],false))
  (oI c b <|
 .ret ((nth b c (zd .str)),true))
def ku(b:zh)(c:(List zh)):T Bool :=
 T.bind (qi c b) λa =>
 .ret a
def vd(b:(List zh))(c:zh->T Bool):T Bool :=
 T.bind (qd b c) λa =>
 .ret (decide (0<=a))
def ox(d:AM.Expr)(e:(List zh)):T Bool :=
 T.bind (y5 d) λa =>
 T.bind (vd a (λb=>ku b e)) λc =>
 .ret c
def vz(b:AM.Expr->(List zh)->T Bool)(c:AM.Expr)(d:(List zh)):T Bool :=
 T.bind (b c d) λa =>
 .ret (!a)
def ug(f:AM.Expr->(List zh)->T Bool)(b:(List AM.Expr))(d:AM.Expr->T Bool)(e:Int):Int->T (Int⊕(Unit⊕Int))
 | a =>
 .ite (decide (a<e))
  (oI a b <|
 T.bind (d (nth b a (zd .expr))) λc =>
 .ite c
  (.ret (.inr (.inr a)))
  (.ret (.inl (zD (a+1)))))
  (.ret (.inr (.inl ())))
def gp self_check_Linear s1 f x s:=T.loop (ug self_check_Linear s1 f x) s
def jl(c:AM.Expr->(List zh)->T Bool)(a:(List AM.Expr))(d:AM.Expr->T Bool):T Int :=
 T.bind (gp c a d (a.length:Int) 0) <|
 Sum.elim (λ_ =>
 .ret (-1))
  (λb =>
 .ret b)
def vY(b:AM.Expr->(List zh)->T Bool)(c:(List AM.Expr))(d:AM.Expr->T Bool):T Bool :=
 T.bind ((jl b) c d) λa =>
 .ret (decide (0<=a))
def gS(e:AM.Expr->(List zh)->T Bool)(a:AM.Expr)(d:(List zh)):T Bool :=
 let c:=ox (nth (Expr.kids a) 1 (zd .expr)) d; let b:=((nth (Expr.kids a) 0 (zd .expr)),(nth (Expr.kids a) 1 (zd .expr)));  T.bind (.ite (((Expr.kids a).length:Int)==2)
  (oI 0 (Expr.kids a) <|
 oI 1 (Expr.kids a) <|
 T.bind (.ite ((Expr.kind a)==5)
  (T.bind (ox (nth (Expr.kids a) 0 (zd .expr)) d) λf =>
 .ite f
  (T.bind c λg =>
 .ite g
  (.ret (true,b))
  (.ite ((Expr.kind a)==6)
  (T.bind c λh =>
 .ret (h,b))
  (.ret (false,b))))
  (.ite ((Expr.kind a)==6)
  (T.bind c λi =>
 .ret (i,b))
  (.ret (false,b))))
  (.ite ((Expr.kind a)==6)
  (T.bind c λj =>
 .ret (j,b))
  (.ret (false,b))):T ((Bool×AM.Expr×AM.Expr))) λ(k,o,p) =>
 .ite k
  (.ret (.inr false))
  (.ret (.inl ())))
  (.ret (.inl ())):T (Unit⊕Bool)) <|
 Sum.elim (λ_ =>
 T.bind ((vY e) (Expr.kids a) (λl=>(vz e) l d)) λm =>
 .ret (!m))
  (λn =>
 .ret n)
def dF(e:AM.Expr)(fields:(List zh)):T Bool:=T.fix (λF x=>gS (λy0 y1=>F (y0,y1)) x.1 x.2) (e,fields)
def eb(e:Form)(c:(List Field))(d:Int):(Int×(List zh))->T ((Int×(List zh))⊕((List zh)))
 | (b,a) =>
 .ite (decide (b<d))
  (oI b c <|
 oA a 16 <|
 oM (a.length+1) (a++([(nth c b (zd zw)).1]:List zh)).length <|
 .ret (.inl ((zD (b+1)),(a++([(nth c b (zd zw)).1]:List zh)))))
  (oC a <|
 oE a <|
 .ret (.inr a))
def rT f1 x x1 s:=T.loop (eb f1 x x1) s
def er(e:(List qn))(j:Int):(Int×(List zh))->T ((Int×(List zh))⊕((List zh)⊕(Int×zh×(List zh))))
 | (d,a)=>let b:=nth e d (zd zH);
 .ite (decide (d<j))
  (oI d e <|
 T.bind (oE a <|
 T.bind (dF (Expr.mk (Expr.kind b.2.2.2.1) ((Expr.num b.2.2.2.1).1,((Expr.num b.2.2.2.1).2.1,((Expr.num b.2.2.2.1).2.2.1,()))) (Expr.name b.2.2.2.1) (Expr.kids b.2.2.2.1)) (List.drop 0 (List.take (0+a.length) a))) λf =>
 .ite (!f)
  (oC a <|
 oE a <|
 .ret (true,(a,b)))
  (oE a <|
 T.bind (dF (Expr.mk (Expr.kind b.2.2.2.2.1) ((Expr.num b.2.2.2.2.1).1,((Expr.num b.2.2.2.2.1).2.1,((Expr.num b.2.2.2.2.1).2.2.1,()))) (Expr.name b.2.2.2.2.1) (Expr.kids b.2.2.2.2.1)) (List.drop 0 (List.take (0+a.length) a))) λg =>
 oC a <|
 oE a <|
 .ret ((!g),(a,b))):T ((Bool×(List zh)×qn))) λ(h,c,i) =>
 .ite h
  (oE c <|
 .ret (.inr (.inr (6,(i.1,c)))))
  (oC c <|
 oE c <|
 .ret (.inl ((zD (d+1)),c))))
  (oE a <|
 .ret (.inr (.inl a)))
def rE x3 x4 s:=T.loop (er x3 x4) s
def dt(a:Form):T (Int×zh) :=
 T.bind (mR a) λc =>
 .ite (!c)
  (.ret (2,[]))
  (.ite ((decide (64<(a.2.2.2.1.length:Int)))||(decide (64<(a.2.2.2.2.1.length:Int))))
  (.ret (3,[]))
  (T.bind (pZ a) λd =>
 T.bind (pF d) λ(e,f) =>
 .ite f
  (.ret (5,e))
  (T.bind (ea a) λ(g,h) =>
 .ite h
  (.ret (5,g))
  (oZ <|
 T.bind (rT a a.2.2.2.1 (a.2.2.2.1.length:Int) (0,[])) λb =>
 oE b <|
 T.bind (lg a (List.drop 0 (List.take (0+b.length) b))) λ(i,j) =>
 .ite j
  (.ret (5,i))
  (oC b <|
 oE b <|
 T.bind (rE a.2.2.2.2.1 (a.2.2.2.2.1.length:Int) (0,b)) <|
 Sum.elim (λm =>
 .ret (0,[]))
  (λ(k,l,n) =>
 .ret (k,l)))))))
def pc(a:Form):T zh :=
 T.bind (mR a) λb =>
 .ite (!b)
  (.ret [])
  (T.bind (eW a) λc =>
 .ret c)
def strings_Split(a:zh)(b:zh):T (List zh) :=
 .zb (a.length<4294967281/\b.length=1) <|
 .ret (tT (List.headD b 0) a)
def strings_Cut(a:zh)(b:zh):T (zh×zh×Bool) :=
 .zb (a.length<4294967281) <|
 .ret (YB a b)
def ba(a:Int):T Bool :=
 .ret (a==32)
def strings_FieldsFunc(a:zh)(b:Int->T Bool):T (List zh) :=
 .zb (a.length<=4294967296) <|
 .ret (dP 32 [] a)
def oT(c:zh):T (List zh) :=
 T.bind (strings_FieldsFunc c (λa=>ba a)) λb =>
 .ret b
def strings_IndexAny(c:zh)(a:zh):T Int :=
 .zb (c.length<4294967281/\2<=a.length/\a.length<4294967281/\(∀ b∈a,b.toNat<128)) <|
 .ret (mq c a)
def v7(b:zh)(a:zh):T Bool :=
 .zb (((decide ((a.length:Int)<=(b.length:Int)))=true)->(vG 0 (a.length:Int) b.length)) <|
 .ret ((decide ((a.length:Int)<=(b.length:Int)))&&(qb (cx 0 (a.length:Int) b) a))
def strings_HasPrefix(b:zh)(c:zh):T Bool :=
 T.bind (v7 b c) λa =>
 .ret a
def jM  : za->T (za⊕(za))
 | a =>
 .zb (((decide (a.2.1<(a.1.length:Int)))=true)->(zT a.2.1 a.1.length)) <|
 .ite ((decide (a.2.1<(a.1.length:Int)))&&((wk a.1 a.2.1)==32))
  (.ret (.inl (a.1,((zD (a.2.1+1)),(a.2.2.1,(a.2.2.2.1,()))))))
  (.ret (.inr a))
def cH(s:za):T (za):=T.loop (jM ) s
def yr(b:za):T za :=
 T.bind (cH  b) λa =>
 .ret a
def strings_IndexByte(s:zh)(c:Int):T Int:=.ret (Kg s (byteOf c))
def xO(e:zh)(f:za):T (Int×za) :=
 T.bind (yr f) λb =>
 T.bind (.ite (decide (b.2.1<(b.1.length:Int)))
  (oI b.2.1 b.1 <|
 T.bind (strings_IndexByte e (wk b.1 b.2.1)) λc =>
 .ret ((decide (0<=c)),b))
  (.ret (false,b)):T ((Bool×za))) λ(d,a) =>
 .ite d
  (oI (zD ((zD (a.2.1+1))-1)) a.1 <|
 .ret ((wk a.1 (zD ((zD (a.2.1+1))-1))),(a.1,((zD (a.2.1+1)),(a.2.2.1,(a.2.2.2.1,()))))))
  (.ret (0,a))
def xi(a:Int)(b:Int)(c:za):T (za⊕(zy×za)) :=
 .ret (.inr ((a,(b,())),c))
def uy(a:za):T (za⊕(zy×za)) :=
 .ite (decide (32<=(zD (a.2.2.1+1))))
  (T.bind (xi 4 (zD (a.2.1-1)) (a.1,(a.2.1,((zD (a.2.2.1+1)),(a.2.2.2.1,()))))) <|
 Sum.elim (λb =>
 .ret (.inl b))
  (λ(c,d) =>
 .ret (.inr (c,d))))
  (.ret (.inl (a.1,(a.2.1,((zD (a.2.2.1+1)),(a.2.2.2.1,()))))))
def vn(e:Int->T Bool)(f:Int)(g:Int):za->T (za⊕(za))
 | a =>
 T.bind (.ite (decide (a.2.1<(a.1.length:Int)))
  (.ite (decide ((zD (a.2.1-g))<f))
  (oI a.2.1 a.1 <|
 T.bind (e (wk a.1 a.2.1)) λc =>
 .ret (c,a))
  (.ret (false,a)))
  (.ret (false,a)):T ((Bool×za))) λ(d,b) =>
 .ite d
  (.ret (.inl (b.1,((zD (b.2.1+1)),(b.2.2.1,(b.2.2.2.1,()))))))
  (.ret (.inr b))
def dQ is most1 from_ s:=T.loop (vn is most1 from_) s
def xQ(c:Int->T Bool)(d:Int)(b:za):T (zh×za) :=
 T.bind (dQ c d b.2.1 b) λa =>
 .zb (vG b.2.1 a.2.1 a.1.length) <|
 .ret ((cx b.2.1 a.2.1 a.1),a)
def strings_CutPrefix(a:zh)(b:zh):T (zh×Bool) :=
 .ret (Mj a b,List.isPrefixOf b a)
def ji(c:Int):zh->T (zh⊕(zh))
 | a=>let b:=zD ((a.length:Int)-1);
 .zb (((decide (0<(a.length:Int)))=true)->(zT b a.length)) <|
 .ite ((decide (0<(a.length:Int)))&&((wk a b)==c))
  (.zb (vG 0 b a.length) <|
 .ret (.inl (cx 0 b a)))
  (.ret (.inr a))
def cm c1 s:=T.loop (ji c1) s
def strings_trimRightByte(b:zh)(c:Int):T zh :=
 T.bind (cm c b) λa =>
 .ret a
def jG(b:Int):zh->T (zh⊕(zh))
 | a =>
 .zb (((decide (0<(a.length:Int)))=true)->(zT 0 a.length)) <|
 .ite ((decide (0<(a.length:Int)))&&((wk a 0)==b))
  (.zb (vG 1 (a.length:Int) a.length) <|
 .ret (.inl (cx 1 (a.length:Int) a)))
  (.ret (.inr a))
def cC c1 s:=T.loop (jG c1) s
def strings_trimLeftByte(b:zh)(c:Int):T zh :=
 T.bind (cC c b) λa =>
 .ret a
def strings_makeASCIISet(a:zh):T ((den (bG .bool 256))×Bool) :=
 .zb (a.length<4294967281/\(∀ (j:Nat) b,a[j]? = some b->b.toNat<128)) <|
 .ret (XD a,true)
def wm(b:(den (bG .bool 256)))(a:Int):T Bool :=
 .zb (zT a 256) <|
 .ret (p7 .bool (bG .bool 256) b (Int.toNat a))
def uV(d:(den (bG .bool 256))):zh->T (zh⊕(zh))
 | a=>let b:=zD ((a.length:Int)-1);
 .ite (decide (0<(a.length:Int)))
  (oI b a <|
 T.bind (wm d (wk a b)) λc =>
 .ite (!c)
  (.ret (.inr a))
  (.zb (vG 0 b a.length) <|
 .ret (.inl (cx 0 b a))))
  (.ret (.inr a))
def bF as1 s:=T.loop (uV as1) s
def ka(b:zh)(c:(den (bG .bool 256))):T zh :=
 T.bind (bF c b) λa =>
 .ret a
def js(c:(den (bG .bool 256))):zh->T (zh⊕(zh))
 | a =>
 .ite (decide (0<(a.length:Int)))
  (oI 0 a <|
 T.bind (wm c (wk a 0)) λb =>
 .ite (!b)
  (.ret (.inr a))
  (.zb (vG 1 (a.length:Int) a.length) <|
 .ret (.inl (cx 1 (a.length:Int) a))))
  (.ret (.inr a))
def cr as1 s:=T.loop (js as1) s
def kT(b:zh)(c:(den (bG .bool 256))):T zh :=
 T.bind (cr c b) λa =>
 .ret a
def dK(b:zh)(a:zh):T zh :=
 .ite ((qb b [])||(qb a []))
  (.ret b)
  (.zb ((((a.length:Int)==1)=true)->(zT 0 a.length)) <|
 .ite (((a.length:Int)==1)&&(decide ((wk a 0)<128)))
  (oI 0 a <|
 T.bind (strings_trimRightByte b (wk a 0)) λd =>
 oI 0 a <|
 T.bind (strings_trimLeftByte d (wk a 0)) λe =>
 .ret e)
  (T.bind (strings_makeASCIISet a) λ(c,f) =>
 .ite f
  (T.bind (ka b c) λg =>
 T.bind (kT g c) λh =>
 .ret h)
  (.fail)))
def tV(h:(List Int))(c:(List Int))(e:(List Int))(g:Int):(Int×Int×(List Int))->T ((Int×Int×(List Int))⊕((Int×(List Int))))
 | (d,a,b)=>let f:=bif (decide (a<(c.length:Int)))then(qa ((qa (d+(qa (nth e a (zd (.int .u32))))))+(qa (nth c a (zd (.int .u32))))))else(qa (d+(qa (nth e a (zd (.int .u32))))));
 .ite (decide (a<g))
  (oI a e <|
 .zb (((decide (a<(c.length:Int)))=true)->(zT a c.length)) <|
 oI a b <|
 .zb (va b.length b.length (0+(Int.toNat a)) b.length) <|
 .zb (0<=(32:Int)) <|
 oM b.length (List.set b (0+(Int.toNat a)) (kl f)).length <|
 .ret (.inl ((yM .u64 f 32),((zD (a+1)),(List.set b (0+(Int.toNat a)) (kl f))))))
  (oC b <|
 oE b <|
 .ret (.inr (d,b)))
def K4 a2 b2 x x1 s:=T.loop (tV a2 b2 x x1) s
def XN(h:(List Int))(i:(List Int)):T (List Int) :=
 T.bind (qB h) λc =>
 T.bind (qB i) λd=>let e:=bif (decide ((c.length:Int)<(d.length:Int)))then d else c; let a:=(e.length:Int);
 .zb (ob (zD (a+1)) (zD (a+1)) 4) <|
 oM (Int.toNat (zD (a+1))) (List.replicate (Int.toNat (zD (a+1))) (0:Int)).length <|
 T.bind (K4 e (bif (decide ((c.length:Int)<(d.length:Int)))then c else d) e a (0,(0,(List.replicate (Int.toNat (zD (a+1))) 0)))) λ(f,b) =>
 oI a b <|
 .zb (va b.length b.length (0+(Int.toNat a)) b.length) <|
 oE b <|
 T.bind (qB (List.drop 0 (List.take (0+b.length) (List.set b (0+(Int.toNat a)) (kl f))))) λg =>
 .ret g
def mW(c:zh)(g:Int):((List Int)×Int)->T (((List Int)×Int)⊕((List Int)))
 | (b,a) =>
 .ite (decide (a<g))
  (T.bind (gz b ([10]:List Int)) λd =>
 oI a c <|
 T.bind (cw (qa (wu8 ((wk c a)-48)))) λe =>
 T.bind (XN d e) λf =>
 .ret (.inl (f,(zD (a+1)))))
  (.ret (.inr b))
def XO s1 x1 s:=T.loop (mW s1 x1) s
def cI(a:zh):T ((List Int)×Bool) :=
 T.bind (.ite (qb a [])
  (.ret true)
  (.ite (decide (400<(a.length:Int)))
  (.ret true)
  (T.bind (dK a [48,49,50,51,52,53,54,55,56,57]) λb =>
 .ret (!(qb b [])))):T (Bool)) λc =>
 .ite c
  (.ret ([],false))
  (T.bind (XO a (a.length:Int) ([],0)) λd =>
 .ret (d,true))
def iZ(f:zh):T (Rat×Int) :=
 .ite (decide (400<(f.length:Int)))
  (.ret ((false,(([]:List Int),(([]:List Int),()))),3))
  (T.bind (strings_CutPrefix f [45]) λ(c,d) =>
 T.bind (strings_Cut c [46]) λ(b,a,g) =>
 .ite g
  (T.bind (cI a) λ(t,h) =>
 oK b a <|
 T.bind (cI (cat b a)) λ(i,j) =>
 .ite ((qb b [])||((!h)||(!j)))
  (.ret ((false,(([]:List Int),(([]:List Int),()))),2))
  (T.bind (XT (a.length:Int)) λk =>
 T.bind (eT d i k) λl =>
 .ret (l,0)))
  (T.bind (strings_Cut c [47]) λ(m,n,o) =>
 T.bind (cI m) λ(p,q) =>
 T.bind (cI (bif (!o)then[49]else n)) λ(e,r) =>
 .ite ((!q)||((!r)||((e.length:Int)==0)))
  (.ret ((false,(([]:List Int),(([]:List Int),()))),2))
  (T.bind (eT d p e) λs =>
 .ret (s,0))))
def yq(i:za):T ((AM.Expr×za)⊕(zy×za)) :=
 T.bind (xQ (λe=>vx e) (i.1.length:Int) i) λ(c,a) =>
 T.bind (.zb (((decide (a.2.1<(a.1.length:Int)))=true)->(zT a.2.1 a.1.length)) <|
 .ite ((decide (a.2.1<(a.1.length:Int)))&&((wk a.1 a.2.1)==46))
  (T.bind (xQ (λe=>vx e) (a.1.length:Int) (a.1,((zD (a.2.1+1)),(a.2.2.1,(a.2.2.2.1,()))))) λ(b,f) =>
 .ite (qb b [])
  (T.bind (xi 2 f.2.1 f) <|
 Sum.elim (λj =>
 oK [46] b <|
 oK c (cat [46] b) <|
 .ret (.inl ((cat c (cat [46] b)),(j,(Expr.mk 0 (false,([],([],()))) [] [])))))
  (λ(k,l) =>
 .ret (.inr (k,(l,(Expr.mk 0 (false,([],([],()))) [] []))))))
  (oK [46] b <|
 oK c (cat [46] b) <|
 .ret (.inl ((cat c (cat [46] b)),(f,(Expr.mk 0 (false,([],([],()))) [] []))))))
  (.ret (.inl (c,(a,(Expr.mk 0 (false,([],([],()))) [] []))))):T ((zh×za×AM.Expr)⊕(zy×za×AM.Expr))) <|
 Sum.elim (λ(h,d,o) =>
 .ite (decide (400<(h.length:Int)))
  (.ret (.inl ((Expr.mk 1 (false,([],([],()))) [] []),(d.1,(d.2.1,(d.2.2.1,(true,())))))))
  (T.bind (iZ h) λ(g,p) =>
 .ret (.inl ((Expr.mk 1 (g.1,(g.2.1,(g.2.2.1,()))) [] []),d))))
  (λ(m,n,q) =>
 .ret (.inr (m,n)))
def vt(V:za->T ((AM.Expr×za)⊕(zy×za)))(W:za->T ((AM.Expr×za)⊕(zy×za)))(X:za):T ((AM.Expr×za)⊕(zy×za)) :=
 T.bind (xO [45,40] X) λ(h,a)=>let j:=(a,(Expr.mk 0 (false,([],([],()))) [] []));
 .ite (h==45)
  (T.bind (uy a) <|
 Sum.elim (λk =>
 T.bind (V k) <|
 Sum.elim (λ(l,c) =>
 .ret (.inl ((Expr.mk 7 (false,([],([],()))) [] [l]),(c.1,(c.2.1,((zD (c.2.2.1-1)),(c.2.2.2.1,())))))))
  (λ(m,n) =>
 .ret (.inr (m,n))))
  (λ(o,p) =>
 .ret (.inr (o,p))))
  (.ite (h==40)
  (T.bind (uy a) <|
 Sum.elim (λq =>
 T.bind (W q) <|
 Sum.elim (λ(r,s)=>let g:=((Expr.mk 0 (false,([],([],()))) [] []),r);
 T.bind (T.bind (xO [41] s) λ(t,e) =>
 .ite (t==0)
  (T.bind (xi 2 e.2.1 e) <|
 Sum.elim (λu =>
 .ret (.inl (u,g)))
  (λ(v,w) =>
 .ret (.inr (v,(w,g)))))
  (.ret (.inl (e,g))):T ((za×AM.Expr×AM.Expr)⊕(zy×za×AM.Expr×AM.Expr))) <|
 Sum.elim (λ(d,Y,x) =>
 .ret (.inl (x,(d.1,(d.2.1,((zD (d.2.2.1-1)),(d.2.2.2.1,())))))))
  (λ(y,z,Z,aa) =>
 .ret (.inr (y,z))))
  (λ(A,B) =>
 .ret (.inr (A,B))))
  (λ(C,D) =>
 .ret (.inr (C,D))))
  (T.bind (.ite (decide (a.2.1<(a.1.length:Int)))
  (oI a.2.1 a.1 <|
 T.bind (vx (wk a.1 a.2.1)) λE =>
 .ret (E,j))
  (.ret (false,j)):T ((Bool×za×AM.Expr))) λ(G,b,i) =>
 .ite G
  (T.bind (yq b) <|
 Sum.elim (λ(H,I) =>
 .ret (.inl (H,I)))
  (λ(J,K) =>
 .ret (.inr (J,K))))
  (T.bind (.ite (decide (b.2.1<(b.1.length:Int)))
  (oI b.2.1 b.1 <|
 T.bind (yh (wk b.1 b.2.1)) λL =>
 .ret (L,(b,i)))
  (.ret (false,(b,i))):T ((Bool×za×AM.Expr))) λ(M,f,ab) =>
 .ite M
  (T.bind (xQ (λN=>kh N) 24 f) λ(O,P) =>
 .ret (.inl ((Expr.mk 2 (false,([],([],()))) O []),P)))
  (T.bind (xi 2 f.2.1 f) <|
 Sum.elim (λR =>
 .ret (.inl ((Expr.mk 0 (false,([],([],()))) [] []),R)))
  (λ(S,U) =>
 .ret (.inr (S,U)))))))
def uC(xv:za->T ((AM.Expr×za)⊕(zy×za)))(p:za):T ((AM.Expr×za)⊕(zy×za)):=T.fix (λF x=>vt (λy0=>F (y0)) xv x) p
def xm(l:za->T ((AM.Expr×za)⊕(zy×za)))(f:zh)(m:zy):(za×AM.Expr×AM.Expr)->T ((za×AM.Expr×AM.Expr)⊕((za×AM.Expr×AM.Expr)⊕(zy×za×AM.Expr×AM.Expr)))
 | (k,e,a) =>
 T.bind (xO f k) λ(b,c) =>
 .ite (b==0)
  (.ret (.inr (.inl (c,(a,a)))))
  (T.bind ((uC l) c) <|
 Sum.elim (λ(g,h) =>
 T.bind (strings_IndexByte f b) λd =>
 .zb (zT d 2) <|
 .ret (.inl (h,(e,(Expr.mk (p7 (.int .i64) qq m (Int.toNat d)) (false,([],([],()))) [] [a,g])))))
  (λ(i,j) =>
 .ret (.inr (.inr (i,(j,(e,a)))))))
def uh xv marks1 kinds1 s:=T.loop (xm xv marks1 kinds1) s
def xM(a:za->T ((AM.Expr×za)⊕(zy×za)))(p:(Unit))(j:zh)(k:zy)(l:za):T ((AM.Expr×za)⊕(zy×za)) :=
 T.bind ((uC a) l) <|
 Sum.elim (λ(b,c) =>
 T.bind (uh a j k (c,((Expr.mk 0 (false,([],([],()))) [] []),b))) <|
 Sum.elim (λ(d,e,m) =>
 .ret (.inl (e,d)))
  (λ(f,g,n,o) =>
 .ret (.inr (f,g))))
  (λ(h,i) =>
 .ret (.inr (h,i)))
def vL(e:za->T ((AM.Expr×za)⊕(zy×za)))(f:za):T ((AM.Expr×za)⊕(zy×za)) :=
 T.bind ((xM e) () [42,47] ((5:Int),((6:Int),())) f) <|
 Sum.elim (λ(a,b) =>
 .ret (.inl (a,b)))
  (λ(c,d) =>
 .ret (.inr (c,d)))
def xf(l:za->T ((AM.Expr×za)⊕(zy×za)))(f:zh)(m:zy):(za×AM.Expr×AM.Expr)->T ((za×AM.Expr×AM.Expr)⊕((za×AM.Expr×AM.Expr)⊕(zy×za×AM.Expr×AM.Expr)))
 | (k,e,a) =>
 T.bind (xO f k) λ(b,c) =>
 .ite (b==0)
  (.ret (.inr (.inl (c,(a,a)))))
  (T.bind ((vL l) c) <|
 Sum.elim (λ(g,h) =>
 T.bind (strings_IndexByte f b) λd =>
 .zb (zT d 2) <|
 .ret (.inl (h,(e,(Expr.mk (p7 (.int .i64) qq m (Int.toNat d)) (false,([],([],()))) [] [a,g])))))
  (λ(i,j) =>
 .ret (.inr (.inr (i,(j,(e,a)))))))
def vM xv marks1 kinds1 s:=T.loop (xf xv marks1 kinds1) s
def xB(a:za->T ((AM.Expr×za)⊕(zy×za)))(p:(Unit))(j:zh)(k:zy)(l:za):T ((AM.Expr×za)⊕(zy×za)) :=
 T.bind ((vL a) l) <|
 Sum.elim (λ(b,c) =>
 T.bind (vM a j k (c,((Expr.mk 0 (false,([],([],()))) [] []),b))) <|
 Sum.elim (λ(d,e,m) =>
 .ret (.inl (e,d)))
  (λ(f,g,n,o) =>
 .ret (.inr (f,g))))
  (λ(h,i) =>
 .ret (.inr (h,i)))
def jd(e:za->T ((AM.Expr×za)⊕(zy×za)))(f:za):T ((AM.Expr×za)⊕(zy×za)) :=
 T.bind ((xB e) () [43,45] ((3:Int),((4:Int),())) f) <|
 Sum.elim (λ(a,b) =>
 .ret (.inl (a,b)))
  (λ(c,d) =>
 .ret (.inr (c,d)))
def bJ(p:za):T ((AM.Expr×za)⊕(zy×za)):=T.fix (λF x=>jd (λy0=>F (y0)) x) p
def uE(a:AM.Expr)(b:Int)(c:Int):T (AM.Expr×Int×Int) :=
 .ite false
  (.fail)
  (.ret (a,(b,c)))
def vK(a:zy)(b:AM.Expr)(c:Int)(d:Int):T (AM.Expr×Int×Int) :=
 .ite true
  (.ite (!true)
  (.fail)
  (.ret ((Expr.mk 0 (false,([],([],()))) [] []),(a.2.1,a.1))))
  (.ret (b,(c,d)))
def c8(t:za):T (AM.Expr×Int×Int×za) :=
 T.bind (bJ t) <|
 Sum.elim (λ(b,a) =>
 .ite (decide (a.2.1<(a.1.length:Int)))
  (T.bind (xi 2 a.2.1 a) <|
 Sum.elim (λc =>
 T.bind (uE b 0 0) λ(d,e,f) =>
 .ret (d,(e,(f,c))))
  (λ(g,h) =>
 T.bind (vK g b 0 0) λ(i,j,k) =>
 .ret (i,(j,(k,h)))))
  (T.bind (uE b 0 0) λ(l,m,n) =>
 .ret (l,(m,(n,a)))))
  (λ(o,p) =>
 T.bind (vK o (Expr.mk 0 (false,([],([],()))) [] []) 0 0) λ(q,r,s) =>
 .ret (q,(r,(s,p))))
def lP(i:zh):T (AM.Expr×Int×Int) :=
 T.bind (c8 (i,((0:Int),((0:Int),(false,()))))) λ(a,e,b,c)=>let d:=((Expr.mk 0 (false,([],([],()))) [] []),(c,a));
 .ite (b != 0)
  (.ret ((Expr.mk 0 (false,([],([],()))) [] []),(e,b)))
  (T.bind (.ite c.2.2.2.1
  (.ret (true,d))
  (T.bind (bZ a) λf =>
 .ret ((!f),d)):T ((Bool×AM.Expr×za×AM.Expr))) λ(g,j,k,h) =>
 .ite g
  (.ret ((Expr.mk 0 (false,([],([],()))) [] []),(0,3)))
  (.ret (h,(0,0))))
def strings_Contains(a:zh)(b:zh):T Bool :=
 .zb (a.length<4294967281) <|
 .ret (decide (0<=Zf a b))
def bq(b:zh)(v:zh):T (AM.Expr×AM.Expr×zh×Int) :=
 T.bind (strings_IndexAny b [60,61]) λa=>let c:=cx (zD (a+1)) (b.length:Int) b;
 .ite (decide (a<0))
  (.ret ((Expr.mk 0 (false,([],([],()))) [] []),((Expr.mk 0 (false,([],([],()))) [] []),([],2))))
  (.zb (vG 0 a b.length) <|
 .zb (vG (zD (a+1)) (b.length:Int) b.length) <|
 .zb (vG a (zD (a+1)) b.length) <|
 T.bind (T.bind (.ite (qb (cx a (zD (a+1)) b) [60])
  (T.bind (strings_HasPrefix c [61]) λm =>
 .ret (m,((Expr.mk 0 (false,([],([],()))) [] []),(Expr.mk 0 (false,([],([],()))) [] []))))
  (.ret (false,((Expr.mk 0 (false,([],([],()))) [] []),(Expr.mk 0 (false,([],([],()))) [] [])))):T ((Bool×AM.Expr×AM.Expr))) λ(n,e,f) =>
 .ite n
  (.zb (vG 1 (c.length:Int) c.length) <|
 .ret ([60,61],((cx 1 (c.length:Int) c),(e,f))))
  (.ret ((cx a (zD (a+1)) b),(c,(e,f)))):T ((zh×zh×AM.Expr×AM.Expr))) λ(g,o,w,p) =>
 T.bind (lP (cx 0 a b)) λ(d,x,h) =>
 .ite (h != 0)
  (.ret (d,(p,([],h))))
  (T.bind (T.bind (lP o) λ(i,y,j) =>
 T.bind (.ite (j==0)
  (T.bind (strings_Contains v g) λq =>
 .ret ((!q),(d,i)))
  (.ret (false,(d,i))):T ((Bool×AM.Expr×AM.Expr))) λ(r,k,l) =>
 .ite r
  (.ret (2,(k,l)))
  (.ret (j,(k,l))):T ((Int×AM.Expr×AM.Expr))) λ(s,t,u) =>
 .ret (t,(u,(g,s)))))
def fh(a:(List zh))(b:Int)(c:Int)(d:zh):T Bool :=
 .zb ((((a.length:Int)==b)=true)->(zT c a.length)) <|
 .ret (((a.length:Int)==b)&&(qb (nth a c (zd .str)) d))
def fp(b:(List zh))(a:Int):T (zh×Bool) :=
 .ite ((b.length:Int)==a)
  (.ret ([],true))
  (T.bind (T.bind (fh b (zD (a+2)) a [119,104,101,110]) λc =>
 .ite c
  (oI (zD (a+1)) b <|
 T.bind (qV (nth b (zD (a+1)) (zd .str))) λd =>
 .ret d)
  (.ret false):T (Bool)) λe =>
 .ite e
  (oI (zD (a+1)) b <|
 .ret ((nth b (zD (a+1)) (zd .str)),true))
  (.ret ([],false)))
def yS(i:(List zh))(x:zh)(z:(Unit))(k:(List Switch))(l:(List Param))(j:(List qw))(m:(List Field))(n:(List qn))(o:(List Check)):T (Int×(Unit)×(List Switch)×(List Param)×(List qw)×(List Field)×(List qn)×(List Check)) :=
 let p:=((),(k,(l,(j,(m,(n,o))))));  T.bind (.ite ((i.length:Int) != 2)
  (oY k l j m n o <|
 .ret (true,p))
  (oI 1 i <|
 T.bind (qV (nth i 1 (zd .str))) λr =>
 .ite (!r)
  (oY k l j m n o <|
 .ret (true,p))
  (oY k l j m n o <|
 .ret (((j.length:Int)==0),p))):T ((Bool×(Unit)×(List Switch)×(List Param)×(List qw)×(List Field)×(List qn)×(List Check)))) λ(s,y,e,f,b,g,h,a) =>
 .ite s
  (oY e f b g h a <|
 .ret (2,((),(e,(f,(b,(g,(h,a))))))))
  (oI 1 i <|
 T.bind (bq x [60,61]) λ(c,d,t,u) =>
 T.bind (kJ) λv =>
 T.bind (qu v t) λw=>let q:=a++([((nth i 1 (zd .str)),((zD ((b.length:Int)-1)),(w,((Expr.mk (Expr.kind c) ((Expr.num c).1,((Expr.num c).2.1,((Expr.num c).2.2.1,()))) (Expr.name c) (Expr.kids c)),((Expr.mk (Expr.kind d) ((Expr.num d).1,((Expr.num d).2.1,((Expr.num d).2.2.1,()))) (Expr.name d) (Expr.kids d)),())))))]:List Check);
 oA a 240 <|
 oC e <|
 oC f <|
 oC b <|
 oC g <|
 oC h <|
 .zb (zn (a.length+1) 0 (a.length+1) q.length) <|
 oE e <|
 oE f <|
 oE b <|
 oE g <|
 oE h <|
 .zb ((a.length+1)=q.length) <|
 .ret (u,((),(e,(f,(b,(g,(h,q))))))))
def gZ(a:(List zh))(A:zh)(D:(Unit))(j:(List Switch))(k:(List Param))(l:(List qw))(m:(List Field))(n:(List qn))(o:(List Check)):T (Int×(Unit)×(List Switch)×(List Param)×(List qw)×(List Field)×(List qn)×(List Check)) :=
 let p:=((),(j,(k,(l,(m,(n,o))))));  T.bind (.ite (decide ((a.length:Int)<3))
  (oY j k l m n o <|
 .ret (true,p))
  (T.bind (vE) λr =>
 oI 1 a <|
 T.bind (qi r (nth a 1 (zd .str))) λs =>
 .ite (!s)
  (oY j k l m n o <|
 .ret (true,p))
  (oI 2 a <|
 T.bind (qV (nth a 2 (zd .str))) λt =>
 oY j k l m n o <|
 .ret ((!t),p))):T ((Bool×(Unit)×(List Switch)×(List Param)×(List qw)×(List Field)×(List qn)×(List Check)))) λ(u,B,c,d,e,f,b,g) =>
 .ite u
  (oY c d e f b g <|
 .ret (2,((),(c,(d,(e,(f,(b,g))))))))
  (T.bind (fp a 3) λ(v,w) =>
 .ite (!w)
  (oY c d e f b g <|
 .ret (2,((),(c,(d,(e,(f,(b,g))))))))
  (oI 2 a <|
 T.bind (vE) λx =>
 oI 1 a <|
 T.bind (qu x (nth a 1 (zd .str))) λy =>
 T.bind (bq A [61]) λ(h,i,C,z)=>let q:=b++([((nth a 2 (zd .str)),(y,(v,((Expr.mk (Expr.kind h) ((Expr.num h).1,((Expr.num h).2.1,((Expr.num h).2.2.1,()))) (Expr.name h) (Expr.kids h)),((Expr.mk (Expr.kind i) ((Expr.num i).1,((Expr.num i).2.1,((Expr.num i).2.2.1,()))) (Expr.name i) (Expr.kids i)),())))))]:List qn);
 oA b 248 <|
 oC c <|
 oC d <|
 oC e <|
 oC f <|
 .zb (zn (b.length+1) 0 (b.length+1) q.length) <|
 oC g <|
 oE c <|
 oE d <|
 oE e <|
 oE f <|
 .zb ((b.length+1)=q.length) <|
 oE g <|
 .ret (z,((),(c,(d,(e,(f,(q,g)))))))))
def gY(a:(List zh))(s:(Unit))(h:(List Switch))(i:(List Param))(j:(List qw))(k:(List Field))(l:(List qn))(m:(List Check)):T (Bool×(Unit)×(List Switch)×(List Param)×(List qw)×(List Field)×(List qn)×(List Check)) :=
 let n:=((),(h,(i,(j,(k,(l,m))))));  T.bind (.ite ((a.length:Int) != 3)
  (oY h i j k l m <|
 .ret (true,n))
  (oI 1 a <|
 T.bind (qV (nth a 1 (zd .str))) λp =>
 .ite (!p)
  (oY h i j k l m <|
 .ret (true,n))
  (oI 2 a <|
 .ite (!(qb (nth a 2 (zd .str)) [111,110]))
  (oI 2 a <|
 oY h i j k l m <|
 .ret ((!(qb (nth a 2 (zd .str)) [111,102,102])),n))
  (oY h i j k l m <|
 .ret (false,n)))):T ((Bool×(Unit)×(List Switch)×(List Param)×(List qw)×(List Field)×(List qn)×(List Check)))) λ(q,r,b,c,d,e,f,g)=>let o:=b++([((nth a 1 (zd .str)),((qb (nth a 2 (zd .str)) [111,110]),()))]:List Switch);
 .ite q
  (oY b c d e f g <|
 .ret (false,((),(b,(c,(d,(e,(f,g))))))))
  (oI 1 a <|
 oI 2 a <|
 oA b 24 <|
 .zb (zn (b.length+1) 0 (b.length+1) o.length) <|
 oC c <|
 oC d <|
 oC e <|
 oC f <|
 oC g <|
 .zb ((b.length+1)=o.length) <|
 oE c <|
 oE d <|
 oE e <|
 oE f <|
 oE g <|
 .ret (true,((),(o,(c,(d,(e,(f,g))))))))
def bP(b:(List zh))(t:(Unit))(h:(List Switch))(i:(List Param))(j:(List qw))(k:(List Field))(l:(List qn))(m:(List Check)):T (Bool×(Unit)×(List Switch)×(List Param)×(List qw)×(List Field)×(List qn)×(List Check)) :=
 T.bind (.ite ((b.length:Int) != 3)
  (oY h i j k l m <|
 .ret (true,((),(h,(i,(j,(k,(l,m))))))))
  (oI 1 b <|
 T.bind (qV (nth b 1 (zd .str))) λp =>
 oY h i j k l m <|
 .ret ((!p),((),(h,(i,(j,(k,(l,m)))))))):T ((Bool×(Unit)×(List Switch)×(List Param)×(List qw)×(List Field)×(List qn)×(List Check)))) λ(q,s,c,a,d,e,f,g) =>
 .ite q
  (oY c a d e f g <|
 .ret (false,((),(c,(a,(d,(e,(f,g))))))))
  (oI 2 b <|
 T.bind (iZ (nth b 2 (zd .str))) λ(n,r)=>let o:=a++([((nth b 1 (zd .str)),((n.1,(n.2.1,(n.2.2.1,()))),()))]:List Param);
 oI 1 b <|
 oA a 72 <|
 oC c <|
 .zb (zn (a.length+1) 0 (a.length+1) o.length) <|
 oC d <|
 oC e <|
 oC f <|
 oC g <|
 oE c <|
 .zb ((a.length+1)=o.length) <|
 oE d <|
 oE e <|
 oE f <|
 oE g <|
 .ret ((r==0),((),(c,(o,(d,(e,(f,g))))))))
def bn(b:(List zh))(t:(Unit))(h:(List Switch))(i:(List Param))(j:(List qw))(k:(List Field))(l:(List qn))(m:(List Check)):T (Bool×(Unit)×(List Switch)×(List Param)×(List qw)×(List Field)×(List qn)×(List Check)) :=
 T.bind (.ite (decide ((b.length:Int)<2))
  (oY h i j k l m <|
 .ret (true,((),(h,(i,(j,(k,(l,m))))))))
  (oI 1 b <|
 T.bind (qV (nth b 1 (zd .str))) λo =>
 oY h i j k l m <|
 .ret ((!o),((),(h,(i,(j,(k,(l,m)))))))):T ((Bool×(Unit)×(List Switch)×(List Param)×(List qw)×(List Field)×(List qn)×(List Check)))) λ(p,s,c,d,a,e,f,g) =>
 .ite p
  (oY c d a e f g <|
 .ret (false,((),(c,(d,(a,(e,(f,g))))))))
  (T.bind (fp b 2) λ(q,r)=>let n:=a++([((nth b 1 (zd .str)),(q,()))]:List qw);
 oI 1 b <|
 oA a 32 <|
 oC c <|
 oC d <|
 .zb (zn (a.length+1) 0 (a.length+1) n.length) <|
 oC e <|
 oC f <|
 oC g <|
 oE c <|
 oE d <|
 .zb ((a.length+1)=n.length) <|
 oE e <|
 oE f <|
 oE g <|
 .ret (r,((),(c,(d,(n,(e,(f,g))))))))
def bO(a:(List zh))(aa:(Unit))(A:(List Switch))(B:(List Param))(s:(List qw))(C:(List Field))(D:(List qn))(E:(List Check)):T (Bool×(Unit)×(List Switch)×(List Param)×(List qw)×(List Field)×(List qn)×(List Check)) :=
 let N:=((),(A,(B,(s,(C,(D,E)))))); let b:=(a.length:Int);  T.bind (.ite (decide (b<2))
  (oY A B s C D E <|
 .ret (true,N))
  (oI 1 a <|
 T.bind (qV (nth a 1 (zd .str))) λO =>
 .ite (!O)
  (oY A B s C D E <|
 .ret (true,N))
  (oY A B s C D E <|
 .ret (((s.length:Int)==0),N))):T ((Bool×(Unit)×(List Switch)×(List Param)×(List qw)×(List Field)×(List qn)×(List Check)))) λ(P,W,g,h,c,i,j,k) =>
 .ite P
  (oY g h c i j k <|
 .ret (false,((),(g,(h,(c,(i,(j,k))))))))
  (oI 1 a <|
 .zb (vG 2 b a.length) <|
 T.bind (.zb (((decide (0<(Nat.cast (vw (e:=.str) 2 b a).length:Int)))=true)->(zT 0 (vw (e:=.str) 2 b a).length)) <|
 .ite ((decide (0<(Nat.cast (vw (e:=.str) 2 b a).length:Int)))&&(qb (nth (vw (e:=.str) 2 b a) 0 (zd .str)) [109,117,115,116]))
  (.zb (vG 1 (Nat.cast (vw (e:=.str) 2 b a).length:Int) (vw (e:=.str) 2 b a).length) <|
 oY g h c i j k <|
 .ret ((vw (e:=.str) 1 (Nat.cast (vw (e:=.str) 2 b a).length:Int) (vw (e:=.str) 2 b a)),((),(g,(h,(c,(i,(j,(k,((nth a 1 (zd .str)),((zD ((c.length:Int)-1)),(true,((0:Int),())))))))))))))
  (oY g h c i j k <|
 .ret ((vw (e:=.str) 2 b a),((),(g,(h,(c,(i,(j,(k,((nth a 1 (zd .str)),((zD ((c.length:Int)-1)),(false,((0:Int),()))))))))))))):T (((List zh)×(Unit)×(List Switch)×(List Param)×(List qw)×(List Field)×(List qn)×(List Check)×Field))) λ(d,X,m,n,o,p,q,r,R)=>let l:=nth d 1 (zd .str); let G:=((),(m,(n,(o,(p,(q,(r,R)))))));
 T.bind (T.bind (T.bind (fh d 2 0 [115,99,97,108,101]) λS =>
 .ite S
  (oI 1 d <|
 .ite ((l.length:Int)==1)
  (oI 1 d <|
 .ite (!(strLt l [48]))
  (oI 1 d <|
 oY m n o p q r <|
 .ret (((strLt l [57])||(qb l [57])),G))
  (oY m n o p q r <|
 .ret (false,G)))
  (oY m n o p q r <|
 .ret (false,G)))
  (oY m n o p q r <|
 .ret (false,G)):T ((Bool×(Unit)×(List Switch)×(List Param)×(List qw)×(List Field)×(List qn)×(List Check)×Field))) λ(U,Y,t,u,v,w,x,y,z) =>
 .ite U
  (oI 1 d <|
 oI 0 l <|
 oY t u v w x y <|
 .ret ([],((),(t,(u,(v,(w,(x,(y,(z.1,(z.2.1,(z.2.2.1,((zD (wu8 ((wk l 0)-48))),())))))))))))))
  (oY t u v w x y <|
 .ret (d,((),(t,(u,(v,(w,(x,(y,z))))))))):T (((List zh)×(Unit)×(List Switch)×(List Param)×(List qw)×(List Field)×(List qn)×(List Check)×Field))) λ(V,Z,H,I,J,f,K,L,M) =>
 oA f 40 <|
 oC H <|
 oC I <|
 oC J <|
 .zb (zn (f.length+1) 0 (f.length+1) (f++[M]).length) <|
 oC K <|
 oC L <|
 oE H <|
 oE I <|
 oE J <|
 .zb ((f.length+1)=(f++[M]).length) <|
 oE K <|
 oE L <|
 .ret (((V.length:Int)==0),((),(H,(I,(J,((f++[M]),(K,L))))))))
def nR(ag:zh)(an:(Unit))(b:(List Switch))(c:(List Param))(d:(List qw))(e:(List Field))(f:(List qn))(g:(List Check)):T (Int×(Unit)×(List Switch)×(List Param)×(List qw)×(List Field)×(List qn)×(List Check)) :=
 let j:=((),(b,(c,(d,(e,(f,g))))));  T.bind (strings_Cut ag [58]) λ(Z,K,i) =>
 T.bind (oT Z) λa=>let J:=decide (0<(a.length:Int)); let h:=nth a 0 (zd .str);
 .zb (((((a.length:Int)==0)=true)->(((!i)=false)->((J=true)->((zT 0 a.length)/\(zT 0 h.length)))))/\((((a.length:Int)==0)=false)->((J=true)->((zT 0 a.length)/\(zT 0 h.length))))) <|
 .ite (bif ((a.length:Int)==0)then((!i)||(J&&((wk h 0)==35)))else(J&&((wk h 0)==35)))
  (oY b c d e f g <|
 .ret (0,j))
  (.ite ((a.length:Int)==0)
  (.ite (!false)
  (oY b c d e f g <|
 .ret (2,j))
  (oY b c d e f g <|
 .ret (0,j)))
  (.zb ((i=true)->(zT 0 a.length)) <|
 .ite (i&&(qb h [99,104,101,99,107]))
  (oY b c d e f g <|
 T.bind (yS a K () b c d e f g) λ(aa,ah,L,M,N,O,P,R) =>
 oY L M N O P R <|
 .ret (aa,((),(L,(M,(N,(O,(P,R))))))))
  (.zb ((i=true)->(zT 0 a.length)) <|
 .ite (i&&(qb h [114,117,108,101]))
  (oY b c d e f g <|
 T.bind (gZ a K () b c d e f g) λ(ab,ai,S,U,V,W,X,Y) =>
 oY S U V W X Y <|
 .ret (ab,((),(S,(U,(V,(W,(X,Y))))))))
  (.ite i
  (.ite (!false)
  (oY b c d e f g <|
 .ret (2,j))
  (oY b c d e f g <|
 .ret (0,j)))
  (oI 0 a <|
 .ite (qb h [115,119,105,116,99,104])
  (oY b c d e f g <|
 T.bind (gY a () b c d e f g) λ(ac,aj,k,l,m,n,o,p) =>
 .ite (!ac)
  (oY k l m n o p <|
 .ret (2,((),(k,(l,(m,(n,(o,p))))))))
  (oY k l m n o p <|
 .ret (0,((),(k,(l,(m,(n,(o,p)))))))))
  (oI 0 a <|
 .ite (qb h [112,97,114,97,109])
  (oY b c d e f g <|
 T.bind (bP a () b c d e f g) λ(ad,ak,q,r,s,t,u,v) =>
 .ite (!ad)
  (oY q r s t u v <|
 .ret (2,((),(q,(r,(s,(t,(u,v))))))))
  (oY q r s t u v <|
 .ret (0,((),(q,(r,(s,(t,(u,v)))))))))
  (oI 0 a <|
 .ite (qb h [112,97,103,101])
  (oY b c d e f g <|
 T.bind (bn a () b c d e f g) λ(ae,al,w,x,y,z,A,B) =>
 .ite (!ae)
  (oY w x y z A B <|
 .ret (2,((),(w,(x,(y,(z,(A,B))))))))
  (oY w x y z A B <|
 .ret (0,((),(w,(x,(y,(z,(A,B)))))))))
  (oI 0 a <|
 .ite (qb h [102,105,101,108,100])
  (oY b c d e f g <|
 T.bind (bO a () b c d e f g) λ(af,am,C,D,E,G,H,I) =>
 .ite (!af)
  (oY C D E G H I <|
 .ret (2,((),(C,(D,(E,(G,(H,I))))))))
  (oY C D E G H I <|
 .ret (0,((),(C,(D,(E,(G,(H,I)))))))))
  (.ite (!false)
  (oY b c d e f g <|
 .ret (2,j))
  (oY b c d e f g <|
 .ret (0,j)))))))))))
def eZ(u:(List zh))(w:Int):(Int×(Unit)×(Unit)×(List Check)×(List Check)×(List qn)×(List qn)×(List Switch)×(List Switch)×(List Param)×(List Param)×(List qw)×(List qw)×(List Field)×(List Field))->T ((Int×(Unit)×(Unit)×(List Check)×(List Check)×(List qn)×(List qn)×(List Switch)×(List Switch)×(List Param)×(List Param)×(List qw)×(List qw)×(List Field)×(List Field))⊕(((Unit)×(Unit)×(List Check)×(List Check)×(List qn)×(List qn)×(List Switch)×(List Switch)×(List Param)×(List Param)×(List qw)×(List qw)×(List Field)×(List Field))⊕(Int×Int×Form×(Unit)×(List Check)×(List Check)×(List qn)×(List qn)×(List Switch)×(List Switch)×(List Param)×(List Param)×(List qw)×(List qw)×(List Field)×(List Field))))
 | (m,y,z,a,n,b,o,c,p,d,q,e,r,f,s) =>
 .ite (decide (m<w))
  (oI m u <|
 oY p q r s o n <|
 T.bind (nR (nth u m (zd .str)) () p q r s o n) λ(t,x,g,h,i,j,k,l)=>let v:=((),(a,(l,(b,(k,(c,(g,(d,(h,(e,(i,(f,j))))))))))));
 .ite (t != 0)
  (oV g h i j k l <|
 oW a l b k c g <|
 oW d h e i f j <|
 .ret (.inr (.inr ((zD (m+1)),(t,((([]:List Switch),(([]:List Param),(([]:List qw),(([]:List Field),(([]:List qn),(([]:List Check),())))))),v))))))
  (oV c d e f b a <|
 oV g h i j k l <|
 oW a l b k c g <|
 oW d h e i f j <|
 .ret (.inl ((zD (m+1)),((),v)))))
  (oV c d e f b a <|
 oV p q r s o n <|
 oW a n b o c p <|
 oW d q e r f s <|
 .ret (.inr (.inl ((),((),(a,(n,(b,(o,(c,(p,(d,(q,(e,(r,(f,s))))))))))))))))
def sN x x1 s:=T.loop (eZ x x1) s
def pe(h:zh):T (Form×Int×Int) :=
 .ite (decide (16384<(h.length:Int)))
  (.ret ((([]:List Switch),(([]:List Param),(([]:List qw),(([]:List Field),(([]:List qn),(([]:List Check),())))))),(0,3)))
  (T.bind (strings_Split h [10]) λg =>
 .zb (zn 0 0 0 0) <|
 .zb (zn 0 0 0 0) <|
 .zb (zn 0 0 0 0) <|
 .zb (zn 0 0 0 0) <|
 .zb (zn 0 0 0 0) <|
 .zb (zn 0 0 0 0) <|
 .zb (zn 0 0 0 0) <|
 .zb (zn 0 0 0 0) <|
 .zb (zn 0 0 0 0) <|
 .zb (zn 0 0 0 0) <|
 .zb (zn 0 0 0 0) <|
 oZ <|
 .zb (0=0) <|
 .zb (0=0) <|
 .zb (0=0) <|
 .zb (0=0) <|
 .zb (0=0) <|
 .zb (0=0) <|
 .zb (0=0) <|
 .zb (0=0) <|
 .zb (0=0) <|
 .zb (0=0) <|
 .zb (0=0) <|
 T.bind (sN g (g.length:Int) (0,((),((),([],([],([],([],([],([],([],([],([],([],([],[]))))))))))))))) <|
 Sum.elim (λ(n,o,p,a,q,b,r,c,s,d,t,e,u,f)=>let i:=((List.drop 0 (List.take (0+c.length) c)),((List.drop 0 (List.take (0+d.length) d)),((List.drop 0 (List.take (0+e.length) e)),((List.drop 0 (List.take (0+f.length) f)),((List.drop 0 (List.take (0+b.length) b)),((List.drop 0 (List.take (0+a.length) a)),()))))));
 oW c d e f b a <|
 T.bind (mR i) λj =>
 .ite (!j)
  (.ret ((([]:List Switch),(([]:List Param),(([]:List qw),(([]:List Field),(([]:List qn),(([]:List Check),())))))),(0,2)))
  (oW c d e f b a <|
 .ret (i,(0,0))))
  (λ(k,l,m,v,w,x,y,z,A,B,C,D,E,G,H,I) =>
 .ret (m,(k,l))))
def Zz(c:Form):T Form :=
 T.bind (pc c) λa =>
 T.bind (pe a) λ(b,d,e) =>
 .ret b
def ud(a:Int):T Rat :=
 T.bind (cw (bif (decide (a<0))then(qa (0-(qa a)))else(qa a))) λb =>
 T.bind (cw 1) λc =>
 .ret ((decide (a<0)),(b,(c,())))
def Vm(a:Form)(b:qF):T Bool :=
 .ret (((b.2.2.1.length:Int)==(a.2.2.2.1.length:Int))&&(((b.2.2.2.1.length:Int)==(a.2.2.2.2.1.length:Int))&&(((b.2.2.2.2.1.length:Int)==(a.2.2.2.1.length:Int))&&((b.2.2.2.2.2.1.length:Int)==(a.2.2.2.1.length:Int)))))
def kK(a:Rat):T Bool :=
 T.bind (fN a) λb =>
 .ite (!b)
  (.ret true)
  (T.bind (jN a) λc =>
 .ret c)
def w0(b:(List Rat))(d:Rat->T Bool)(e:Int):Int->T (Int⊕(Unit⊕Int))
 | a =>
 .ite (decide (a<e))
  (oI a b <|
 T.bind (d (nth b a (zd zc))) λc =>
 .ite c
  (.ret (.inr (.inr a)))
  (.ret (.inl (zD (a+1)))))
  (.ret (.inr (.inl ())))
def bp s1 f x s:=T.loop (w0 s1 f x) s
def wS(a:(List Rat))(c:Rat->T Bool):T Int :=
 T.bind (bp a c (a.length:Int) 0) <|
 Sum.elim (λ_ =>
 .ret (-1))
  (λb =>
 .ret b)
def qs(b:(List Rat))(c:Rat->T Bool):T Bool :=
 T.bind (wS b c) λa =>
 .ret (decide (0<=a))
def fJ(c:(List Field))(d:Int):(Int×(List zh))->T ((Int×(List zh))⊕((List zh)))
 | (b,a) =>
 .ite (decide (b<d))
  (oI b c <|
 oA a 16 <|
 oM (a.length+1) (a++([(nth c b (zd zw)).1]:List zh)).length <|
 .ret (.inl ((zD (b+1)),(a++([(nth c b (zd zw)).1]:List zh)))))
  (oC a <|
 oE a <|
 .ret (.inr a))
def sJ x x1 s:=T.loop (fJ x x1) s
def rf(b:Form):T (List zh) :=
 oZ <|
 T.bind (sJ b.2.2.2.1 (b.2.2.2.1.length:Int) (0,[])) λa =>
 oE a <|
 .ret (List.drop 0 (List.take (0+a.length) a))
def gj(a:(List Rat)):T (List Rat) :=
 let b:=0+a.length;  .zb (a=[]->∀ r,T.leads (.zb (wg 0 0 0 0 0 a.length 56) <|
 .zb (b=b) <|
 .ret (List.drop 0 (List.take (0+b) a)):T _) r->T.leads (.ret []:T _) r) <|
 .zb (wg 0 0 0 0 0 a.length 56) <|
 .zb (b=b) <|
 .ret (List.drop 0 (List.take (0+b) a))
def p8(h:(List Param))(i:Int):(Int×((List Rat)×Unit)×((List zh)×(List Rat)×Unit)×(List zh)×(List zh)×(List zh))->T ((Int×((List Rat)×Unit)×((List zh)×(List Rat)×Unit)×(List zh)×(List zh)×(List zh))⊕((((List Rat)×Unit)×((List zh)×(List Rat)×Unit)×(List zh)×(List zh)×(List zh))))
 | (d,g,e,b,c,a)=>let f:=a++([(nth h d (zd zB)).1]:List zh);
 .ite (decide (d<i))
  (oI d h <|
 oA a 16 <|
 oC b <|
 oC c <|
 .zb (zn (a.length+1) 0 (a.length+1) f.length) <|
 oE b <|
 oE c <|
 .zb ((a.length+1)=f.length) <|
 .ret (.inl ((zD (d+1)),((g.1,()),((e.1,(e.2.1,())),(b,(c,f)))))))
  (oC b <|
 oC c <|
 oC a <|
 oE b <|
 oE c <|
 oE a <|
 .ret (.inr ((g.1,()),((e.1,(e.2.1,())),(b,(c,a))))))
def Vb x x1 s:=T.loop (p8 x x1) s
def Vw(b:Form)(f:(List Rat)):T vq :=
 T.bind (rf b) λd =>
 T.bind (gj f) λe =>
 .zb (zn 0 0 0 0) <|
 .zb (zn 0 0 0 0) <|
 oZ <|
 .zb (0=0) <|
 .zb (0=0) <|
 T.bind (Vb b.2.1 (b.2.1.length:Int) (0,(([],()),((d,(e,())),([],([],[])))))) λ(g,c,h,i,a) =>
 oE a <|
 .ret (c.1,((List.drop 0 (List.take (0+a.length) a)),(c.2.1,())))
def gq(a:Switch)(b:zh):T Bool :=
 .ret (qb a.1 b)
def Xt(e:Form)(c:(List Bool))(b:zh):T Bool :=
 T.bind (zY e.1 (λd=>gq d b)) λa =>
 .zb (((qb b [])=false)->(((decide (0<=a))=true)->(zT a c.length))) <|
 .ret ((qb b [])||((decide (0<=a))&&(nth c a (zd .bool))))
def oz(b:(List Rat))(a:Int):T Rat :=
 .ite ((decide (a<0))||(decide ((b.length:Int)<=a)))
  (T.bind (ud 0) λc =>
 .ret c)
  (oI a b <|
 T.bind (qD (nth b a (zd zc))) λd =>
 .ret d)
def QE(g:zh)(d:vq):T (qp×Int) :=
 T.bind (qu d.1 g) λe =>
 .ite (decide (0<=e))
  (T.bind (ud 1) λa =>
 T.bind (ud 0) λb =>
 .ret (((0:Int),(([(e,((a.1,(a.2.1,(a.2.2.1,()))),()))]:List Term),((b.1,(b.2.1,(b.2.2.1,()))),()))),0))
  (T.bind (qu d.2.1 g) λf =>
 .ite (decide (f<0))
  (.ret (((0:Int),(([]:List Term),((false,(([]:List Int),(([]:List Int),()))),()))),5))
  (T.bind (oz d.2.2.1 f) λc =>
 .ret (((0:Int),(([]:List Term),((c.1,(c.2.1,(c.2.2.1,()))),()))),0)))
def iS(f:Rat)(g:Rat):T Rat :=
 T.bind (qD f) λa =>
 T.bind (qD g) λb =>
 T.bind (gz a.2.1 b.2.1) λc =>
 T.bind (gz a.2.2.1 b.2.2.1) λd =>
 T.bind (eT (!(a.1==b.1)) c d) λe =>
 .ret e
def bj(b:Rat):T Bool :=
 T.bind (qD b) λa =>
 .ret ((a.2.1.length:Int)==0)
def nw(k:Rat)(f:(List Term))(l:Int):(Int×(Int×Bool×(List Int)×(List Int)×Unit)×(Int×Bool×(List Int)×(List Int)×Unit)×(List Term)×(List Term))->T ((Int×(Int×Bool×(List Int)×(List Int)×Unit)×(Int×Bool×(List Int)×(List Int)×Unit)×(List Term)×(List Term))⊕(((Int×Bool×(List Int)×(List Int)×Unit)×(Int×Bool×(List Int)×(List Int)×Unit)×(List Term)×(List Term))))
 | (b,c,d,e,a)=>let i:=((c.1,(c.2.1,(c.2.2.1,(c.2.2.2.1,())))),((d.1,(d.2.1,(d.2.2.1,(d.2.2.2.1,())))),(e,a)));
 .ite (decide (b<l))
  (oI b f <|
 T.bind (iS ((nth f b (zd zu)).2.1.1,((nth f b (zd zu)).2.1.2.1,((nth f b (zd zu)).2.1.2.2.1,()))) k) λg=>let h:=a++([((nth f b (zd zu)).1,((g.1,(g.2.1,(g.2.2.1,()))),()))]:List Term);
 T.bind (bj g) λj =>
 .ite (!j)
  (oA a 64 <|
 oC e <|
 .zb (zn (a.length+1) 0 (a.length+1) h.length) <|
 oE e <|
 .zb ((a.length+1)=h.length) <|
 .ret (.inl ((zD (b+1)),((c.1,(c.2.1,(c.2.2.1,(c.2.2.2.1,())))),((d.1,(d.2.1,(d.2.2.1,(d.2.2.2.1,())))),(e,h))))))
  (oC e <|
 oC a <|
 oE e <|
 oE a <|
 .ret (.inl ((zD (b+1)),i))))
  (oC e <|
 oC a <|
 oE e <|
 oE a <|
 .ret (.inr i))
def XJ by_1 x x1 s:=T.loop (nw by_1 x x1) s
def kY(b:qp)(e:Rat):T qp :=
 T.bind (iS b.2.2.1 e) λc =>
 .zb (zn 0 0 0 0) <|
 oZ <|
 .zb (0=0) <|
 T.bind (XJ e b.2.1 (b.2.1.length:Int) (0,((0,(false,([],([],())))),((b.1,(c.1,(c.2.1,(c.2.2.1,())))),([],[]))))) λ(f,a,g,d) =>
 oE d <|
 .ret (a.1,((List.drop 0 (List.take (0+d.length) d)),((a.2.1,(a.2.2.1,(a.2.2.2.1,()))),())))
def sM(c:(List Int))(e:(List Int))(h:Int):(Int×Int×(List Int))->T ((Int×Int×(List Int))⊕((List Int)))
 | (g,a,b) =>
 .ite (decide (a<h))
  (oI a e <|
 .zb (((decide (a<(c.length:Int)))=true)->(zT a c.length)) <|
 T.bind (jy (nth e a (zd (.int .u32))) (bif (decide (a<(c.length:Int)))then(nth c a (zd (.int .u32)))else 0) g) λ(d,f) =>
 oI a b <|
 .zb (va b.length b.length (0+(Int.toNat a)) b.length) <|
 oM b.length (List.set b (0+(Int.toNat a)) d).length <|
 .ret (.inl (f,((zD (a+1)),(List.set b (0+(Int.toNat a)) d)))))
  (oC b <|
 oE b <|
 .ret (.inr b))
def K3 b2 x x1 s:=T.loop (sM b2 x x1) s
def Ww(c:(List Int))(d:(List Int)):T ((List Int)×Bool) :=
 T.bind (nI c d) λe =>
 .ite (decide (e<0))
  (.ret ([],false))
  (T.bind (qB c) λa =>
 T.bind (qB d) λf =>
 .zb (ob (a.length:Int) (a.length:Int) 4) <|
 oM (Int.toNat (a.length:Int)) (List.replicate (Int.toNat (a.length:Int)) (0:Int)).length <|
 T.bind (K3 f a (a.length:Int) (0,(0,(List.replicate (Int.toNat (a.length:Int)) 0)))) λb =>
 oE b <|
 T.bind (qB (List.drop 0 (List.take (0+b.length) b))) λg =>
 .ret (g,true))
def mL(m:Rat)(n:Rat):T Rat :=
 T.bind (qD m) λa =>
 T.bind (qD n) λb =>
 T.bind (gz a.2.1 b.2.2.1) λc =>
 T.bind (gz b.2.1 a.2.2.1) λd =>
 T.bind (gz a.2.2.1 b.2.2.1) λe =>
 .ite (a.1==b.1)
  (T.bind (XN c d) λf =>
 T.bind (eT a.1 f e) λg =>
 .ret g)
  (T.bind (Ww c d) λ(h,i) =>
 .ite i
  (T.bind (eT a.1 h e) λj =>
 .ret j)
  (T.bind (Ww d c) λ(k,o) =>
 T.bind (eT b.1 k e) λl =>
 .ret l))
def sj  : ((List Term)×(List Term)×(Int×Bool×(List Int)×(List Int)×Unit)×(Int×Bool×(List Int)×(List Int)×Unit)×(List Term)×(List Term))->T (((List Term)×(List Term)×(Int×Bool×(List Int)×(List Int)×Unit)×(Int×Bool×(List Int)×(List Int)×Unit)×(List Term)×(List Term))⊕(((Int×Bool×(List Int)×(List Int)×Unit)×(Int×Bool×(List Int)×(List Int)×Unit)×(List Term)×(List Term))))
 | (b,a,n,o,c,d)=>let g:=(b.length:Int); let m:=nth a 0 (zd zu); let l:=nth b 0 (zd zu); let p:=(n.1,(n.2.1,(n.2.2.1,(n.2.2.2.1,())))); let q:=(o.1,(o.2.1,(o.2.2.1,(o.2.2.2.1,()))));
 .ite (decide (0<(zD (g+(a.length:Int)))))
  (T.bind (.zb ((((a.length:Int)==0)=false)->(((decide (0<g))=true)->((zT 0 b.length)/\(zT 0 a.length)))) <|
 .ite (((a.length:Int)==0)||((decide (0<g))&&(decide (l.1<m.1))))
  (oI 0 b <|
 oI 0 b <|
 T.bind (qD l.2.1) λr =>
 .zb (vG 1 g b.length) <|
 oC c <|
 oC d <|
 oE c <|
 oE d <|
 .ret ((vw (e:=zu) 1 g b),(a,(p,(q,(c,(d,(l.1,((r.1,(r.2.1,(r.2.2.1,()))),())))))))))
  (.zb (((g==0)=false)->((zT 0 a.length)/\(zT 0 b.length))) <|
 .ite ((g==0)||(decide (m.1<l.1)))
  (oI 0 a <|
 oI 0 a <|
 T.bind (qD m.2.1) λs =>
 .zb (vG 1 (a.length:Int) a.length) <|
 oC c <|
 oC d <|
 oE c <|
 oE d <|
 .ret (b,((vw (e:=zu) 1 (a.length:Int) a),(p,(q,(c,(d,(m.1,((s.1,(s.2.1,(s.2.2.1,()))),())))))))))
  (oI 0 b <|
 oI 0 b <|
 oI 0 a <|
 T.bind (mL l.2.1 m.2.1) λt =>
 .zb (vG 1 g b.length) <|
 .zb (vG 1 (a.length:Int) a.length) <|
 oC c <|
 oC d <|
 oE c <|
 oE d <|
 .ret ((vw (e:=zu) 1 g b),((vw (e:=zu) 1 (a.length:Int) a),(p,(q,(c,(d,(l.1,((t.1,(t.2.1,(t.2.2.1,()))),())))))))))):T (((List Term)×(List Term)×(Int×Bool×(List Int)×(List Int)×Unit)×(Int×Bool×(List Int)×(List Int)×Unit)×(List Term)×(List Term)×Term))) λ(u,v,h,i,j,f,k) =>
 T.bind (bj (k.2.1.1,(k.2.1.2.1,(k.2.1.2.2.1,())))) λw =>
 .ite (!w)
  (oA f 64 <|
 oC j <|
 .zb (zn (f.length+1) 0 (f.length+1) (f++[k]).length) <|
 oE j <|
 .zb ((f.length+1)=(f++[k]).length) <|
 .ret (.inl (u,(v,((h.1,(h.2.1,(h.2.2.1,(h.2.2.2.1,())))),((i.1,(i.2.1,(i.2.2.1,(i.2.2.2.1,())))),(j,(f++[k]))))))))
  (oC j <|
 oC f <|
 oE j <|
 oE f <|
 .ret (.inl (u,(v,((h.1,(h.2.1,(h.2.2.1,(h.2.2.2.1,())))),((i.1,(i.2.1,(i.2.2.1,(i.2.2.2.1,())))),(j,f))))))))
  (oC c <|
 oC d <|
 oE c <|
 oE d <|
 .ret (.inr (p,(q,(c,d)))))
def Jl(s:((List Term)×(List Term)×(Int×Bool×(List Int)×(List Int)×Unit)×(Int×Bool×(List Int)×(List Int)×Unit)×(List Term)×(List Term))):T (((Int×Bool×(List Int)×(List Int)×Unit)×(Int×Bool×(List Int)×(List Int)×Unit)×(List Term)×(List Term))):=T.loop (sj ) s
def s7(d:qp)(e:qp):T qp :=
 T.bind (mL d.2.2.1 e.2.2.1) λb =>
 .zb (zn 0 0 0 0) <|
 oZ <|
 .zb (0=0) <|
 T.bind (Jl  (d.2.1,(e.2.1,((0,(false,([],([],())))),((d.1,(b.1,(b.2.1,(b.2.2.1,())))),([],[])))))) λ(f,a,g,c) =>
 oE c <|
 .ret (a.1,((List.drop 0 (List.take (0+c.length) c)),((a.2.1,(a.2.2.1,(a.2.2.2.1,()))),())))
def We(d:Rat)(e:Rat):T (Rat×Bool) :=
 T.bind (qD e) λa =>
 .ite ((a.2.1.length:Int)==0)
  (T.bind (ud 0) λb =>
 .ret (b,false))
  (T.bind (iS d (a.1,(a.2.2.1,(a.2.1,())))) λc =>
 .ret (c,true))
def sC(c:Int)(a:qp)(b:qp):T (qp×Int) :=
 .ite (c==3)
  (T.bind (s7 a b) λd =>
 .ret (d,0))
  (.ite (c==4)
  (T.bind (ud (-1)) λe =>
 T.bind (kY b e) λf =>
 T.bind (s7 a f) λg =>
 .ret (g,0))
  (.ite (c==5)
  (.ite ((decide (0<(a.2.1.length:Int)))&&(decide (0<(b.2.1.length:Int))))
  (.ret (((0:Int),(([]:List Term),((false,(([]:List Int),(([]:List Int),()))),()))),6))
  (.ite (decide (0<(a.2.1.length:Int)))
  (T.bind (kY a b.2.2.1) λh =>
 .ret (h,0))
  (T.bind (kY b a.2.2.1) λi =>
 .ret (i,0))))
  (T.bind (ud 1) λj =>
 T.bind (We j b.2.2.1) λ(k,l) =>
 .ite (decide (0<(b.2.1.length:Int)))
  (.ret (((0:Int),(([]:List Term),((false,(([]:List Int),(([]:List Int),()))),()))),6))
  (.ite (!l)
  (.ret (((0:Int),(([]:List Term),((false,(([]:List Int),(([]:List Int),()))),()))),7))
  (T.bind (kY a k) λm =>
 .ret (m,0))))))
def oH(g:AM.Expr->vq->T (qp×Int))(a:AM.Expr)(c:vq):T (qp×Int) :=
 .ite ((Expr.kind a)==1)
  (T.bind (qD (Expr.num a)) λb =>
 .ret (((0:Int),(([]:List Term),((b.1,(b.2.1,(b.2.2.1,()))),()))),0))
  (.ite ((Expr.kind a)==2)
  (T.bind (QE (Expr.name a) c) λ(h,i) =>
 .ret (h,i))
  (oI 0 (Expr.kids a) <|
 T.bind (g (nth (Expr.kids a) 0 (zd .expr)) c) λ(d,e) =>
 .ite (e != 0)
  (.ret (((0:Int),(([]:List Term),((false,(([]:List Int),(([]:List Int),()))),()))),e))
  (.ite ((Expr.kind a)==7)
  (T.bind (ud (-1)) λj =>
 T.bind (kY d j) λk =>
 .ret (k,0))
  (oI 1 (Expr.kids a) <|
 T.bind (g (nth (Expr.kids a) 1 (zd .expr)) c) λ(l,f) =>
 .ite (f != 0)
  (.ret (((0:Int),(([]:List Term),((false,(([]:List Int),(([]:List Int),()))),()))),f))
  (T.bind (sC (Expr.kind a) d l) λ(m,n) =>
 .ret (m,n))))))
def KO(e:AM.Expr)(v:vq):T (qp×Int):=T.fix (λF x=>oH (λy0 y1=>F (y0,y1)) x.1 x.2) (e,v)
def Kf(a:AM.Expr)(e:vq):T (qp×Int) :=
 T.bind (bZ a) λb =>
 .ite (!b)
  (.ret (((0:Int),(([]:List Term),((false,(([]:List Int),(([]:List Int),()))),()))),5))
  (T.bind (KO a e) λ(c,d) =>
 .ret (c,d))
def tU(b:qn)(g:vq):T (qp×Int) :=
 T.bind (Kf b.2.2.2.1 g) λ(c,d) =>
 .ite (d != 0)
  (.ret (c,d))
  (T.bind (Kf b.2.2.2.2.1 g) λ(e,f) =>
 .ite (f != 0)
  (.ret (e,f))
  (T.bind (ud (-1)) λh =>
 T.bind (kY e h) λi =>
 T.bind (s7 c i) λa =>
 .ret ((b.2.1,(a.2.1,((a.2.2.1.1,(a.2.2.1.2.1,(a.2.2.1.2.2.1,()))),()))),0)))
def ju(b:Term):T Bool :=
 T.bind (jN b.2.1) λa =>
 .ret a
def xR(b:(List Term))(d:Term->T Bool)(e:Int):Int->T (Int⊕(Unit⊕Int))
 | a =>
 .ite (decide (a<e))
  (oI a b <|
 T.bind (d (nth b a (zd zu))) λc =>
 .ite c
  (.ret (.inr (.inr a)))
  (.ret (.inl (zD (a+1)))))
  (.ret (.inr (.inl ())))
def gC s1 f x s:=T.loop (xR s1 f x) s
def wH(a:(List Term))(c:Term->T Bool):T Int :=
 T.bind (gC a c (a.length:Int) 0) <|
 Sum.elim (λ_ =>
 .ret (-1))
  (λb =>
 .ret b)
def qJ(b:(List Term))(c:Term->T Bool):T Bool :=
 T.bind (wH b c) λa =>
 .ret (decide (0<=a))
def td(a:qp):T Bool :=
 T.bind (jN a.2.2.1) λb =>
 .ite b
  (.ret true)
  (T.bind (qJ a.2.1 (λc=>ju c)) λd =>
 .ret d)
def fT(i:(List Bool))(j:Form)(e:(List qn))(k:Int):(Int×(Unit)×(Unit)×vq×(List qp)×(List Int))->T ((Int×(Unit)×(Unit)×vq×(List qp)×(List Int))⊕(((Unit)×(Unit)×vq×(List qp)×(List Int))⊕(zh×Int×(Unit)×(Unit)×vq×(List qp)×(List Int))))
 | (c,l,m,d,a,b) =>
 .ite (decide (c<k))
  (oI c e <|
 T.bind (Xt j i (nth e c (zd zH)).2.2.1) λh =>
 .ite (!h)
  (oC a <|
 oC b <|
 oE a <|
 oE b <|
 .ret (.inl ((zD (c+1)),((),((),(d,(a,b)))))))
  (T.bind (tU (nth e c (zd zH)) d) λ(f,g) =>
 .ite (g != 0)
  (oC a <|
 oC b <|
 oE a <|
 oE b <|
 .ret (.inr (.inr ((nth e c (zd zH)).1,(g,((),((),(d,(a,b)))))))))
  (oA a 88 <|
 oA b 8 <|
 .zb (zn (a.length+1) 0 (a.length+1) (a++[f]).length) <|
 .zb (zn (b.length+1) 0 (b.length+1) (b++[c]).length) <|
 .zb ((a.length+1)=(a++[f]).length) <|
 .zb ((b.length+1)=(b++[c]).length) <|
 .ret (.inl ((zD (c+1)),((),((),(d,((a++[f]),(b++[c]))))))))))
  (oC a <|
 oC b <|
 oE a <|
 oE b <|
 .ret (.inr (.inl ((),((),(d,(a,b)))))))
def tH on1 f1 x1 x2 s:=T.loop (fT on1 f1 x1 x2) s
def fW(f:Form)(h:Int):(Int×(Unit)×(Unit)×vq×(List qp)×(List Int))->T ((Int×(Unit)×(Unit)×vq×(List qp)×(List Int))⊕(((Unit)×(Unit)×vq×(List qp)×(List Int))⊕(zh×Int×(Unit)×(Unit)×vq×(List qp)×(List Int))))
 | (c,i,j,e,a,b)=>let d:=0+(Int.toNat c);
 .ite (decide (c<h))
  (oI c a <|
 .zb (va a.length a.length d a.length) <|
 T.bind (td (xK a d (zd zo))) λg =>
 .ite g
  (oI c b <|
 .zb (va b.length b.length d b.length) <|
 oI (xK b d (zd (.int .i64))) f.2.2.2.2.1 <|
 oC a <|
 oC b <|
 oE a <|
 oE b <|
 .ret (.inr (.inr ((nth f.2.2.2.2.1 (xK b d (zd (.int .i64))) (zd zH)).1,(8,((),((),(e,(a,b)))))))))
  (oC a <|
 oC a <|
 oC b <|
 oE a <|
 oE b <|
 .ret (.inl ((zD (c+1)),((),((),(e,(a,b))))))))
  (oC a <|
 oC b <|
 oE a <|
 oE b <|
 .ret (.inr (.inl ((),((),(e,(a,b)))))))
def Z2 f2 x6 s:=T.loop (fW f2 x6) s
def pK(a:Form)(f:(List Rat))(h:(List Bool)):T ((Unit)×zh×Int×(List qp)×(List Int)) :=
 T.bind (dt a) λ(g,i) =>
 .ite (g != 0)
  (.zb (zn 0 0 0 0) <|
 oZ <|
 .zb (0=0) <|
 .ret ((),(i,(g,([],[])))))
  (T.bind (.ite ((f.length:Int) != (a.2.1.length:Int))
  (.ret (true,()))
  (.ite ((h.length:Int) != (a.1.length:Int))
  (.ret (true,()))
  (T.bind (qs f (λj=>kK j)) λk =>
 .ret (k,()))):T ((Bool×(Unit)))) λ(l,s) =>
 .ite l
  (.zb (zn 0 0 0 0) <|
 oZ <|
 .zb (0=0) <|
 .ret ((),([],(1,([],[])))))
  (T.bind (Vw a f) λm =>
 .zb (zn 0 0 0 0) <|
 oZ <|
 .zb (0=0) <|
 T.bind (tH h a a.2.2.2.2.1 (a.2.2.2.2.1.length:Int) (0,((),((),(m,([],[])))))) <|
 Sum.elim (λ(t,u,n,b,c) =>
 oC b <|
 oC b <|
 oC c <|
 oE b <|
 oE c <|
 T.bind (Z2 a (b.length:Int) (0,((),((),(n,(b,c)))))) <|
 Sum.elim (λ(v,w,x,d,e) =>
 oC d <|
 oC e <|
 oE d <|
 oE e <|
 .ret ((),([],(0,(d,e)))))
  (λ(o,p,y,z,A,B,C) =>
 .zb (zn 0 0 0 0) <|
 oZ <|
 .zb (0=0) <|
 .ret ((),(o,(p,([],[]))))))
  (λ(q,r,D,E,G,H,I) =>
 .zb (zn 0 0 0 0) <|
 oZ <|
 .zb (0=0) <|
 .ret ((),(q,(r,([],[])))))))
def tz(c:Bool)(a:Rat):T Rat :=
 T.bind (.ite c
  (.ret (((decide (0<(a.2.1.length:Int))),(a.2.1,(a.2.2.1,()))),(false,(([]:List Int),(([]:List Int),())))))
  (.ret ((false,(a.2.1,(a.2.2.1,()))),(false,(([]:List Int),(([]:List Int),()))))):T ((Rat×Rat))) λ(b,d) =>
 .ret b
def Wb(c:Rat):T Rat :=
 T.bind (qD c) λa =>
 T.bind (tz (!a.1) a) λb =>
 .ret b
def Fu(c:Int)(d:Rat):T qp :=
 T.bind (ud 1) λa =>
 T.bind (Wb d) λb =>
 .ret ((1:Int),(([(c,((a.1,(a.2.1,(a.2.2.1,()))),()))]:List Term),((b.1,(b.2.1,(b.2.2.1,()))),())))
def kt(h:Int)(i:Rat)(f:Int)(a:((List Switch)×(List Param)×(List qw)×(List Field)×(List qn)×(List Check)×Unit))(b:(List qp))(c:(List Int))(d:(List Int)):T (((List Switch)×(List Param)×(List qw)×(List Field)×(List qn)×(List Check)×Unit)×(List qp)×(List Int)×(List Int)) :=
 let g:=d++([(zD ((a.2.2.2.2.1.length:Int)+h))]:List Int);  T.bind (Fu h i) λe =>
 oA b 88 <|
 oA c 8 <|
 oA d 8 <|
 .zb (zn (b.length+1) 0 (b.length+1) (b++[e]).length) <|
 .zb (zn (c.length+1) 0 (c.length+1) (c++[f]).length) <|
 .zb (zn (d.length+1) 0 (d.length+1) g.length) <|
 .zb ((b.length+1)=(b++[e]).length) <|
 .zb ((c.length+1)=(c++[f]).length) <|
 .zb ((d.length+1)=g.length) <|
 .ret ((a.1,(a.2.1,(a.2.2.1,(a.2.2.2.1,(a.2.2.2.2.1,(a.2.2.2.2.2.1,())))))),((b++[e]),((c++[f]),g)))
def eU(g:qF)(i:Int):(Int×(List qp)×(List Int)×(Unit)×((List Switch)×(List Param)×(List qw)×(List Field)×(List qn)×(List Check)×Unit)×(List Int))->T ((Int×(List qp)×(List Int)×(Unit)×((List Switch)×(List Param)×(List qw)×(List Field)×(List qn)×(List Check)×Unit)×(List Int))⊕(((List qp)×(List Int)×(Unit)×((List Switch)×(List Param)×(List qw)×(List Field)×(List qn)×(List Check)×Unit)×(List Int))))
 | (d,b,a,j,e,c)=>let h:=(e.1,(e.2.1,(e.2.2.1,(e.2.2.2.1,(e.2.2.2.2.1,(e.2.2.2.2.2.1,())))))); let f:=c++([(nth g.2.2.2.1 (xK a (0+(Int.toNat d)) (zd (.int .i64))) (zd (.int .i64)))]:List Int);
 .ite (decide (d<i))
  (oI d a <|
 .zb (va a.length a.length (0+(Int.toNat d)) a.length) <|
 oI (xK a (0+(Int.toNat d)) (zd (.int .i64))) g.2.2.2.1 <|
 oA c 8 <|
 oC a <|
 oE b <|
 oE a <|
 oC b <|
 oC a <|
 oC b <|
 .zb (zn (c.length+1) 0 (c.length+1) f.length) <|
 oC a <|
 .zb ((c.length+1)=f.length) <|
 .ret (.inl ((zD (d+1)),(b,(a,((),(h,f)))))))
  (oE b <|
 oE a <|
 oC b <|
 oC a <|
 oC b <|
 oC c <|
 oC a <|
 oE c <|
 .ret (.inr (b,(a,((),(h,c))))))
def tv d1 x s:=T.loop (eU d1 x) s
def fX(l:(List zm))(m:Int):(Int×(List qp)×(List Int)×(Unit)×((List Switch)×(List Param)×(List qw)×(List Field)×(List qn)×(List Check)×Unit)×(List Int))->T ((Int×(List qp)×(List Int)×(Unit)×((List Switch)×(List Param)×(List qw)×(List Field)×(List qn)×(List Check)×Unit)×(List Int))⊕(((List qp)×(List Int)×(Unit)×((List Switch)×(List Param)×(List qw)×(List Field)×(List qn)×(List Check)×Unit)×(List Int))))
 | (d,a,b,n,f,c)=>let g:=nth l d (zd zf); let k:=(f.1,(f.2.1,(f.2.2.1,(f.2.2.2.1,(f.2.2.2.2.1,(f.2.2.2.2.2.1,()))))));
 .ite (decide (d<m))
  (oI d l <|
 .ite (!g.1)
  (oE a <|
 oE b <|
 oC a <|
 oC b <|
 oC a <|
 oC c <|
 oC b <|
 oE c <|
 .ret (.inl ((zD (d+1)),(a,(b,((),(k,c)))))))
  (oC a <|
 oC c <|
 oC b <|
 oE a <|
 oE c <|
 oE b <|
 T.bind (kt d (g.2.2.1.1,(g.2.2.1.2.1,(g.2.2.1.2.2.1,()))) (bif g.2.1 then d else(-1)) k a c b) λ(e,h,j,i) =>
 oE h <|
 oE i <|
 .zb (zn a.length 0 a.length h.length) <|
 .zb (zn b.length 0 b.length i.length) <|
 oC h <|
 oC j <|
 oC i <|
 oE j <|
 .ret (.inl ((zD (d+1)),(h,(i,((),((e.1,(e.2.1,(e.2.2.1,(e.2.2.2.1,(e.2.2.2.2.1,(e.2.2.2.2.2.1,())))))),j))))))))
  (oE a <|
 oE b <|
 oC a <|
 oC b <|
 oC a <|
 oC c <|
 oC b <|
 oE c <|
 .ret (.inr (a,(b,((),(k,c))))))
def Zg x2 x3 s:=T.loop (fX x2 x3) s
def bI(a:Form)(e:qF):T ((Int×((List Switch)×(List Param)×(List qw)×(List Field)×(List qn)×(List Check)×Unit)×(List qp)×(List Int)×(List Int))⊕((List zh)×Int)) :=
 T.bind (Vm a e) λo =>
 .ite (!o)
  (.ret (.inr ([],1)))
  (T.bind (pK a e.1 e.2.1) λ(p,n,f,g,b) =>
 .ite ((f != 0)&&(!(qb n [])))
  (.ret (.inr ([n],f)))
  (.ite (f != 0)
  (.ret (.inr ([],f)))
  (oC b <|
 oE g <|
 oE b <|
 oC g <|
 oC b <|
 oC g <|
 .zb (zn 0 0 0 0) <|
 oC b <|
 .zb (0=0) <|
 T.bind (tv e (b.length:Int) (0,(g,(b,((),((a.1,(a.2.1,(a.2.2.1,(a.2.2.2.1,(a.2.2.2.2.1,(a.2.2.2.2.2.1,())))))),[])))))) λ(h,i,q,c,j) =>
 oE h <|
 oE i <|
 oC h <|
 oC i <|
 oC h <|
 oC j <|
 oC i <|
 oE j <|
 T.bind (Zg e.2.2.2.2.1 (e.2.2.2.2.1.length:Int) (0,(h,(i,((),((c.1,(c.2.1,(c.2.2.1,(c.2.2.2.1,(c.2.2.2.2.1,(c.2.2.2.2.2.1,())))))),j)))))) λ(k,l,r,d,m) =>
 oC k <|
 oC m <|
 oC l <|
 oE k <|
 oE m <|
 oE l <|
 .ret (.inl (0,((d.1,(d.2.1,(d.2.2.1,(d.2.2.2.1,(d.2.2.2.2.1,(d.2.2.2.2.2.1,())))))),(k,(m,l))))))))
def Qh(h:Int)(c:(List Term))(i:Int):(Int×Int)->T ((Int×Int)⊕(Unit⊕Bool))
 | (g,b)=>let a:=nth c b (zd zu);
 .ite (decide (b<i))
  (oI b c <|
 T.bind (.ite (decide (a.1<g))
  (.ret (true,a))
  (.ite (decide (h<=a.1))
  (.ret (true,a))
  (T.bind (fN (a.2.1.1,(a.2.1.2.1,(a.2.1.2.2.1,())))) λd =>
 .ite (!d)
  (.ret (true,a))
  (.ret (((a.2.1.2.1.length:Int)==0),a)))):T ((Bool×Term))) λ(e,f) =>
 .ite e
  (.ret (.inr (.inr false)))
  (.ret (.inl ((zD (f.1+1)),(zD (b+1))))))
  (.ret (.inr (.inl ())))
def BT n1 x1 x2 s:=T.loop (Qh n1 x1 x2) s
def W6(a:qp)(e:Int):T Bool :=
 T.bind (.ite (decide (a.1<(0:Int)))
  (.ret true)
  (.ite (decide ((4:Int)<a.1))
  (.ret true)
  (T.bind (fN a.2.2.1) λb =>
 .ret (!b))):T (Bool)) λc =>
 .ite c
  (.ret false)
  (T.bind (BT e a.2.1 (a.2.1.length:Int) (0,0)) <|
 Sum.elim (λ_ =>
 .ret true)
  (λd =>
 .ret d))
def uI(b:qp)(c:Int):T Bool :=
 T.bind (W6 b c) λa =>
 .ret (!a)
def uu(b:(List qp))(d:qp->T Bool)(e:Int):Int->T (Int⊕(Unit⊕Int))
 | a =>
 .ite (decide (a<e))
  (oI a b <|
 T.bind (d (nth b a (zd zo))) λc =>
 .ite c
  (.ret (.inr (.inr a)))
  (.ret (.inl (zD (a+1)))))
  (.ret (.inr (.inl ())))
def hO s1 f x s:=T.loop (uu s1 f x) s
def jW(a:(List qp))(c:qp->T Bool):T Int :=
 T.bind (hO a c (a.length:Int) 0) <|
 Sum.elim (λ_ =>
 .ret (-1))
  (λb =>
 .ret b)
def uG(b:(List qp))(c:qp->T Bool):T Bool :=
 T.bind (jW b c) λa =>
 .ret (decide (0<=a))
def kO  : ((Nat×Nat)×Int×(List Int))->T (((Nat×Nat)×Int×(List Int))⊕((Int×(List Int))))
 | (b,c,a)=>let d:=b.1+(Int.toNat c); let e:=xK a d (zd (.int .i64)); let f:=List.set a d (xK a (b.1+(Int.toNat e)) (zd (.int .i64)));
 .zb (zT c b.2) <|
 .zb (va a.length a.length d a.length) <|
 .ite (e != c)
  (.zb (zT c b.2) <|
 .zb (va a.length a.length d a.length) <|
 .zb (zT e b.2) <|
 .zb (va a.length a.length (b.1+(Int.toNat e)) a.length) <|
 .zb (zT c b.2) <|
 .zb (va a.length a.length d a.length) <|
 .zb (zT c b.2) <|
 .zb (va a.length a.length d f.length) <|
 oE a <|
 .zb (a.length=f.length) <|
 .ret (.inl (b,((xK f d (zd (.int .i64))),f))))
  (oE a <|
 .ret (.inr (c,a)))
def eF(s:((Nat×Nat)×Int×(List Int))):T ((Int×(List Int))):=T.loop (kO ) s
def jF(d:(Nat×Nat))(e:Int)(a:(List Int)):T (Int×(List Int)) :=
 oE a <|
 oE a <|
 T.bind (eF  (d,(e,a))) λ(c,b) =>
 oE b <|
 .ret (c,b)
def yY(c:(Nat×Nat))(g:Int)(h:Int)(e:(List Int)):T (Bool×(List Int)) :=
 oE e <|
 oE e <|
 T.bind (jF c g e) λ(a,f) =>
 .zb (e.length=f.length) <|
 oE f <|
 T.bind (jF c h f) λ(b,d) =>
 .zb (zT (rI a b) c.2) <|
 .zb (va e.length d.length (c.1+(Int.toNat (rI a b))) d.length) <|
 .zb (d.length=(List.set d (c.1+(Int.toNat (rI a b))) (HA a b)).length) <|
 .ret ((a != b),(List.set d (c.1+(Int.toNat (rI a b))) (HA a b)))
def ev(d:(List qp))(e:Int)(c:Int):(Int×(List Int))->T ((Int×(List Int))⊕((List Int)))
 | (b,a) =>
 .ite (decide (b<c))
  (oI b a <|
 .zb (va a.length a.length (0+(Int.toNat b)) a.length) <|
 oM a.length (List.set a (0+(Int.toNat b)) b).length <|
 .ret (.inl ((zD (b+1)),(List.set a (0+(Int.toNat b)) b))))
  (oC a <|
 oE a <|
 .ret (.inr a))
def rQ l1 n1 x s:=T.loop (ev l1 n1 x) s
def eu(k:Int)(j:Int)(l:(List qp))(m:Int)(n:Int):(Int×Int×(List Int)×qp)->T ((Int×Int×(List Int)×qp)⊕((Int×(List Int)×qp)))
 | (f,e,a,b) =>
 .ite (decide (e<(b.2.1.length:Int)))
  (T.bind (oI 0 b.2.1 <|
 oI e b.2.1 <|
 oE a <|
 oE a <|
 T.bind (yY (0,a.length) (nth b.2.1 0 (zd zu)).1 (nth b.2.1 e (zd zu)).1 a) λ(h,c) =>
 .ite (!h)
  (.zb (zn a.length 0 a.length c.length) <|
 oE c <|
 .ret ((decide (f<0)),(c,b)))
  (.zb (zn a.length 0 a.length c.length) <|
 oE c <|
 .ret (false,(c,b))):T ((Bool×(List Int)×qp))) λ(i,d,g) =>
 .ite i
  (oC d <|
 oE d <|
 .ret (.inl (j,((zD (e+1)),(d,g)))))
  (oC d <|
 oE d <|
 .ret (.inl (f,((zD (e+1)),(d,g))))))
  (oC a <|
 oE a <|
 .ret (.inr (f,(a,b))))
def rq n3 i x5 x6 x7 s:=T.loop (eu n3 i x5 x6 x7) s
def ez(f:Int)(c:(List qp))(g:Int):(Int×Int×(List Int))->T ((Int×Int×(List Int))⊕((Int×(List Int))))
 | (e,b,a) =>
 .ite (decide (b<g))
  (oI b c <|
 T.bind (W6 (nth c b (zd zo)) f) λh =>
 .ite (!h)
  (oC a <|
 oE a <|
 .ret (.inl (e,((zD (b+1)),a))))
  (oC a <|
 oE a <|
 T.bind (rq f b c g b (e,(1,(a,(nth c b (zd zo)))))) λ(i,d,j) =>
 oC d <|
 oE d <|
 .ret (.inl (i,((zD (b+1)),d)))))
  (oC a <|
 oE a <|
 .ret (.inr (e,a)))
def rP n2 x2 x3 s:=T.loop (ez n2 x2 x3) s
def nh(d:(List qp))(f:Int):T ((List Int)×Int) :=
 let a:=HA (rI f 0) 64;  .zb (ob a a 8) <|
 oM (Int.toNat a) (List.replicate (Int.toNat a) (0:Int)).length <|
 T.bind (rQ d a (Nat.cast (Int.toNat a):Int) (0,(List.replicate (Int.toNat a) 0))) λb =>
 oC b <|
 oE b <|
 T.bind (rP a d (d.length:Int) ((-1),(0,b))) λ(e,c) =>
 oE c <|
 .ret ((List.drop 0 (List.take (0+c.length) c)),e)
def fY(b:(List qp))(c:Int):T Int :=
 T.bind (nh b c) λ(d,a) =>
 .ret a
def w9(a:(List Int)):T (List Int) :=
 .zb (a=[]->∀ r,T.leads (.zb (wg 0 0 0 0 0 a.length 8) <|
 .zb (zn (0+a.length) 0 (0+a.length) a.length) <|
 .zb ((0+a.length)=a.length) <|
 .ret a:T _) r->T.leads (.zb (zn 0 0 0 0) <|
 .zb (0=0) <|
 .ret []:T _) r) <|
 .zb (wg 0 0 0 0 0 a.length 8) <|
 oM (0+a.length) a.length <|
 .ret a
def dV(a:Int)(b:Int):T (Int×Int) :=
 let c:=qa ((qa ((yM .u64 a 32)*(KC .u64 b 4294967295)))+(yM .u64 (qa ((KC .u64 a 4294967295)*(KC .u64 b 4294967295))) 32));  .zb (0<=(32:Int)) <|
 .zb (0<=(32:Int)) <|
 .zb (0<=(32:Int)) <|
 .zb (0<=(32:Int)) <|
 .zb (0<=(32:Int)) <|
 .ret ((qa ((qa ((qa ((yM .u64 a 32)*(yM .u64 b 32)))+(yM .u64 c 32)))+(yM .u64 (qa ((KC .u64 c 4294967295)+(qa ((KC .u64 a 4294967295)*(yM .u64 b 32))))) 32))),(qa (a*b)))
def lv(c:Int)(d:Int):T (Int×Int) :=
 T.bind (dV c d) λ(a,b) =>
 .ret (a,b)
def uX  : (Int×(List Int))->T ((Int×(List Int))⊕((List Int)))
 | (b,a)=>let c:=(Int.toNat (a.length:Int))-(Int.toNat b); let d:=List.drop (0+(Int.toNat 0)) (List.take ((0+(Int.toNat 0))+((Int.toNat b)-(Int.toNat 0))) a);
 .ite (decide (b<(a.length:Int)))
  (.zb (vG b (a.length:Int) a.length) <|
 .zb (vG 0 b a.length) <|
 oE a <|
 .zb (Uw a.length a.length (0+(Int.toNat b)) c a.length) <|
 oM a.length (vW (0+(Int.toNat b)) c a d).length <|
 .ret (.inl ((zD (b+(Nat.cast (z3J c d.length):Int))),(vW (0+(Int.toNat b)) c a d))))
  (oC a <|
 oE a <|
 .ret (.inr a))
def bC(s:(Int×(List Int))):T ((List Int)):=T.loop (uX ) s
def kz(c:(List Int))(e:Int):T (List Int) :=
 .ite (decide (e<0))
  (.fail)
  (T.bind (lv (qa (c.length:Int)) (qa e)) λ(f,b)=>let a:=Int.toNat (zD b);
 .ite ((decide (0<f))||(decide (9223372036854775807<b)))
  (.fail)
  (.zb (ob (zD b) (zD b) 8) <|
 .zb (Uw a a 0 a (List.replicate a (0:Int)).length) <|
 oM a (vW 0 a (List.replicate a 0) c).length <|
 T.bind (bC  ((Nat.cast (z3J a c.length):Int),(vW 0 a (List.replicate a 0) c))) λd =>
 oC d <|
 oE d <|
 .ret d))
def ki(a:Term)(b:Int):T Bool :=
 .ret (a.1==b)
def Xr(c:qp)(d:Int):T Bool :=
 T.bind (qJ c.2.1 (λa=>ki a d)) λb =>
 .ret b
def nz(b:(List qp))(c:Int):T Bool :=
 T.bind (fY b c) λa =>
 .ret (decide (a<0))
def c6(r:(List qp))(k:(List Int))(o:Int)(h:(List qp))(p:Int):(Int×(List Int)×(List Int)×((List qp)×Unit))->T ((Int×(List Int)×(List Int)×((List qp)×Unit))⊕(((List Int)×(List Int)×((List qp)×Unit))⊕(Bool×(List Int)×(List Int)×((List qp)×Unit))))
 | (d,b,a,g)=>let i:=nth k d (zd (.int .i64)); let f:=0+(Int.toNat i);
 .ite (decide (d<p))
  (oI d h <|
 T.bind (W6 (nth h d (zd zo)) o) λl =>
 .ite (!l)
  (oE b <|
 oE a <|
 oC b <|
 oC a <|
 .ret (.inr (.inr (false,(b,(a,(g.1,())))))))
  (oI d k <|
 .ite (i==(-1))
  (oE b <|
 oE a <|
 oC b <|
 oC a <|
 .ret (.inl ((zD (d+1)),(b,(a,(g.1,()))))))
  (T.bind (T.bind (Xr (nth h d (zd zo)) i) λm =>
 .ite (!m)
  (oE b <|
 oE a <|
 oC b <|
 oC a <|
 .ret (true,(b,(a,((g.1,()),(nth h d (zd zo)))))))
  (oI i a <|
 .zb (va a.length a.length f a.length) <|
 oE b <|
 oE a <|
 oC b <|
 oC a <|
 .ret (((xK a f (zd (.int .i64))) != (-1)),(b,(a,((g.1,()),(nth h d (zd zo))))))):T ((Bool×(List Int)×(List Int)×((List qp)×Unit)×qp))) λ(n,e,c,j,q) =>
 .ite n
  (oE e <|
 oE c <|
 oC e <|
 oC c <|
 .ret (.inr (.inr (false,(e,(c,(j.1,())))))))
  (oI i c <|
 .zb (va c.length c.length f c.length) <|
 oE e <|
 .zb (c.length=(List.set c f d).length) <|
 oC e <|
 .zb (zn c.length 0 c.length (List.set c f d).length) <|
 .ret (.inl ((zD (d+1)),(e,((List.set c f d),(j.1,())))))))))
  (oE b <|
 oE a <|
 oC b <|
 oC a <|
 .ret (.inr (.inl (b,(a,(g.1,()))))))
def mT l1 outs1 n1 x x1 s:=T.loop (c6 l1 outs1 n1 x x1) s
def kE(a:(List qp))(g:(List Int))(b:Int):T ((Bool×((List qp)×Unit)×(List Int)×(List Int))⊕Bool) :=
 .ite ((decide (b<1))||((decide (64<b))||((decide (256<(a.length:Int)))||((g.length:Int) != (a.length:Int)))))
  (.ret (.inr false))
  (T.bind (w9 g) λc =>
 T.bind (kz ([(-1)]:List Int) b) λd =>
 oE c <|
 oE d <|
 oC c <|
 oC d <|
 T.bind (mT a g b a (a.length:Int) (0,(c,(d,(a,()))))) <|
 Sum.elim (λ(e,f,h) =>
 T.bind (nz a b) λi =>
 oC e <|
 oC f <|
 oE e <|
 oE f <|
 .ret (.inl (i,((h.1,()),(e,f)))))
  (λ(j,k,l,m) =>
 .ret (.inr j)))
def j6(a:(List Int)):T (List Int) :=
 let b:=0+a.length;  .zb (a=[]->∀ r,T.leads (.zb (wg 0 0 0 0 0 a.length 8) <|
 .zb (b=b) <|
 .ret (List.drop 0 (List.take (0+b) a)):T _) r->T.leads (.ret []:T _) r) <|
 .zb (wg 0 0 0 0 0 a.length 8) <|
 .zb (b=b) <|
 .ret (List.drop 0 (List.take (0+b) a))
def cmp_isNaN_int(a:Int):T Bool :=
 .ret (a != a)
def cmp_Compare_int(a:Int)(b:Int):T Int :=
 T.bind (cmp_isNaN_int a) λd =>
 T.bind (cmp_isNaN_int b) λc =>
 .ite d
  (.ite c
  (.ret 0)
  (.ret (-1)))
  (.ite c
  (.ret 1)
  (.ite (decide (a<b))
  (.ret (-1))
  (.ite (decide (b<a))
  (.ret 1)
  (.ret 0))))
def qt(b:Int)(c:Int)(a:(List qp)):T Int :=
 oI b a <|
 oI c a <|
 T.bind (cmp_Compare_int (nth a b (zd zo)).1 (nth a c (zd zo)).1) λd =>
 .ret d
def xJ(l:Int)(n:Int)(m:Int->Int->T Int)(o:Int):((Nat×Nat)×Int×(List Int))->T (((Nat×Nat)×Int×(List Int))⊕(((Nat×Nat)×(List Int))))
 | (d,e,b)=>let f:=zD (e-1);
 T.bind (.ite (decide (l<e))
  (.zb (zT e d.2) <|
 .zb (va b.length b.length (d.1+(Int.toNat e)) b.length) <|
 .zb (zT f d.2) <|
 .zb (va b.length b.length (d.1+(Int.toNat f)) b.length) <|
 T.bind (m (xK b (d.1+(Int.toNat e)) (zd (.int .i64))) (xK b (d.1+(Int.toNat f)) (zd (.int .i64)))) λj =>
 oE b <|
 oE b <|
 .ret (d,((decide (j<0)),b)))
  (oE b <|
 oE b <|
 .ret (d,(false,b))):T (((Nat×Nat)×Bool×(List Int)))) λ(c,k,a)=>let g:=c.1+(Int.toNat e); let h:=c.1+(Int.toNat f); let i:=List.set a g (xK a h (zd (.int .i64)));
 .ite k
  (.zb (zT f c.2) <|
 .zb (va a.length a.length h a.length) <|
 .zb (zT e c.2) <|
 .zb (va a.length a.length g a.length) <|
 .zb (zT e c.2) <|
 .zb (va a.length a.length g a.length) <|
 .zb (zT f c.2) <|
 .zb (va a.length a.length h i.length) <|
 oE a <|
 .zb (a.length=(List.set i h (xK a g (zd (.int .i64)))).length) <|
 .ret (.inl (c,(f,(List.set i h (xK a g (zd (.int .i64))))))))
  (oE a <|
 oE a <|
 .ret (.inr (c,a)))
def jb a2 b2 cmp i1 s:=T.loop (xJ a2 b2 cmp i1) s
def xP(g:Int)(d:Int)(h:Int->Int->T Int):((Nat×Nat)×Int×(List Int))->T (((Nat×Nat)×Int×(List Int))⊕((List Int)))
 | (f,b,a) =>
 .ite (decide (b<d))
  (oE a <|
 oE a <|
 T.bind (jb g d h b (f,(b,a))) λ(e,c) =>
 oE c <|
 oE c <|
 .ret (.inl (e,((zD (b+1)),c))))
  (oE a <|
 .ret (.inr a))
def j8 a1 b1 cmp s:=T.loop (xP a1 b1 cmp) s
def qK(d:(Nat×Nat))(c:Int)(e:Int)(f:Int->Int->T Int)(a:(List Int)):T (List Int) :=
 oE a <|
 oE a <|
 T.bind (j8 c e f (d,((zD (c+1)),a))) λb =>
 oE b <|
 .ret b
def vi(f:Int)(g:Int->Int->T Int)(h:Int):((Nat×Nat)×Int×Int×(List Int))->T (((Nat×Nat)×Int×Int×(List Int))⊕(((Nat×Nat)×Int×(List Int))))
 | (d,e,b,a) =>
 .ite (decide (b<=f))
  (oE a <|
 oE a <|
 T.bind (qK d e b g a) λc =>
 .zb (a.length=c.length) <|
 oE c <|
 .ret (.inl (d,(b,((zD (b+h)),c)))))
  (oE a <|
 oE a <|
 .ret (.inr (d,(e,a))))
def yv n1 cmp blockSize s:=T.loop (vi n1 cmp blockSize) s
def vf(e:Int)(f:Int->Int->T Int)(g:Int):((Nat×Nat)×Int×Int×(List Int))->T (((Nat×Nat)×Int×Int×(List Int))⊕(((Nat×Nat)×Int×(List Int))))
 | (b,c,d,a) =>
 .ite (decide (d<=e))
  (.fail)
  (oE a <|
 oE a <|
 .ret (.inr (b,(c,a))))
def yn n3 cmp blockSize2 s:=T.loop (vf n3 cmp blockSize2) s
def vc(d:Int)(h:Int->Int->T Int):((Nat×Nat)×Int×(List Int))->T (((Nat×Nat)×Int×(List Int))⊕((List Int)))
 | (g,a,b) =>
 .ite (decide (a<d))
  (oE b <|
 oE b <|
 T.bind (yn d h a (g,(0,((zD (2*a)),b)))) λ(e,f,c) =>
 .ite (decide ((zD (f+a))<d))
  (.fail)
  (oE c <|
 oE c <|
 .ret (.inl (e,((zD (a*2)),c)))))
  (oE b <|
 .ret (.inr b))
def yy n2 cmp s:=T.loop (vc n2 cmp) s
def uL(i:(Nat×Nat))(c:Int)(d:Int->Int->T Int)(e:(List Int)):T (List Int) :=
 oE e <|
 oE e <|
 T.bind (yv c d 20 (i,(0,(20,e)))) λ(f,h,a) =>
 oE a <|
 oE a <|
 T.bind (qK f h c d a) λb =>
 .zb (a.length=b.length) <|
 oE b <|
 T.bind (yy c d (f,(20,b))) λg =>
 oE g <|
 .ret g
def wX(c:(Nat×Nat))(d:Int->Int->T Int)(a:(List Int)):T (List Int) :=
 oE a <|
 oE a <|
 T.bind (uL c (Nat.cast c.2:Int) d a) λb =>
 oE b <|
 .ret b
def ke(b:(List Int))(c:(List Int))(d:Int):Int->T (Int⊕(Unit⊕Bool))
 | a =>
 .ite (decide (a<d))
  (oI a b <|
 oI a c <|
 .ite ((nth b a (zd (.int .i64))) != (nth c a (zd (.int .i64))))
  (.ret (.inr (.inr false)))
  (.ret (.inl (zD (a+1)))))
  (.ret (.inr (.inl ())))
def dz s11 s21 x s:=T.loop (ke s11 s21 x) s
def j7(a:(List Int))(b:(List Int)):T Bool :=
 .ite ((a.length:Int) != (b.length:Int))
  (.ret false)
  (T.bind (dz a b (a.length:Int) 0) <|
 Sum.elim (λ_ =>
 .ret true)
  (λc =>
 .ret c))
def jn(k:Int->((List qp)×Unit)->(List Int)->(List Int)->T (Int×((List qp)×Unit)×(List Int)×(List Int)))(l:Int)(h:(List Term))(m:Int):(Int×Int×((List qp)×Unit)×(List Int)×(List Int))->T ((Int×Int×((List qp)×Unit)×(List Int)×(List Int))⊕((Int×((List qp)×Unit)×(List Int)×(List Int))))
 | (f,c,g,a,b) =>
 .ite (decide (c<m))
  (oI c h <|
 .ite ((nth h c (zd zu)).1 != l)
  (oC a <|
 oC b <|
 oE a <|
 oE b <|
 T.bind (k (nth h c (zd zu)).1 (g.1,()) a b) λ(i,j,d,e) =>
 oC d <|
 oC e <|
 oE d <|
 oE e <|
 .ret (.inl ((rI f i),((zD (c+1)),((j.1,()),(d,e))))))
  (oC a <|
 oC b <|
 oE a <|
 oE b <|
 .ret (.inl (f,((zD (c+1)),((g.1,()),(a,b)))))))
  (oC a <|
 oC b <|
 oE a <|
 oE b <|
 .ret (.inr (f,((g.1,()),(a,b)))))
def ct self_delta_choice_strong v1 x x1 s:=T.loop (jn self_delta_choice_strong v1 x x1) s
def wU(j:Int->((List qp)×Unit)->(List Int)->(List Int)->T (Int×((List qp)×Unit)×(List Int)×(List Int)))(e:Int)(b:((List qp)×Unit))(c:(List Int))(a:(List Int)):T (Int×((List qp)×Unit)×(List Int)×(List Int)) :=
 let d:=xK a (0+(Int.toNat e)) (zd (.int .i64));  oI e a <|
 .zb (va a.length a.length (0+(Int.toNat e)) a.length) <|
 .ite (d==(-1))
  (oC c <|
 oC a <|
 oE c <|
 oE a <|
 .ret (4,((b.1,()),(c,a))))
  (oI d b.1 <|
 oI d b.1 <|
 oC c <|
 oC a <|
 oE c <|
 oE a <|
 T.bind (ct j e (nth b.1 d (zd zo)).2.1 (Nat.cast (List.length (nth b.1 d (zd zo)).2.1):Int) ((nth b.1 d (zd zo)).1,(0,((b.1,()),(c,a))))) λ(h,i,f,g) =>
 oC f <|
 oC g <|
 oE f <|
 oE g <|
 .ret (h,((i.1,()),(f,g))))
def vR(v:Int)(c:((List qp)×Unit))(xs:(List Int))(OD:(List Int)):T (Int×((List qp)×Unit)×(List Int)×(List Int)):=T.fix (λF x=>wU (λy0 y1 y2 y3=>F (y0,y1,y2,y3)) x.1 x.2.1 x.2.2.1 x.2.2.2) (v,c,xs,OD)
def uY(f:(List Term))(m:Int):(Int×Int×Int×((List qp)×Unit)×(List Int)×(List Int)×(List Int))->T ((Int×Int×Int×((List qp)×Unit)×(List Int)×(List Int)×(List Int))⊕((Int×((List qp)×Unit)×(List Int)×(List Int)×(List Int))))
 | (j,k,a,l,g,d,e) =>
 .ite (decide (a<m))
  (oI a f <|
 oC d <|
 oC e <|
 oE d <|
 oE e <|
 T.bind (vR (nth f a (zd zu)).1 (l.1,()) d e) λ(h,i,b,c) =>
 .zb (RO (nth f a (zd zu)).1) <|
 .ite ((!(List.contains g (nth f a (zd zu)).1))&&(decide (k<h)))
  (oC b <|
 oC c <|
 oE b <|
 oE c <|
 .ret (.inl ((nth f a (zd zu)).1,(h,((zD (a+1)),((i.1,()),(g,(b,c))))))))
  (oC b <|
 oC c <|
 oE b <|
 oE c <|
 .ret (.inl (j,(k,((zD (a+1)),((i.1,()),(g,(b,c)))))))))
  (oC d <|
 oC e <|
 oE d <|
 oE e <|
 .ret (.inr (j,((l.1,()),(g,(d,e))))))
def bB x x1 s:=T.loop (uY x x1) s
def kf(b:Int)(a:((List qp)×Unit))(j:(List Int))(e:(List Int))(f:(List Int)):T (Int×((List qp)×Unit)×(List Int)×(List Int)×(List Int)) :=
 oI b a.1 <|
 oI b a.1 <|
 oC e <|
 oC f <|
 oE e <|
 oE f <|
 T.bind (bB (nth a.1 b (zd zo)).2.1 (Nat.cast (List.length (nth a.1 b (zd zo)).2.1):Int) ((-1),((nth a.1 b (zd zo)).1,(0,((a.1,()),(j,(e,f))))))) λ(g,h,i,c,d) =>
 oC c <|
 oC d <|
 oE c <|
 oE d <|
 .ret (g,((h.1,()),(i,(c,d))))
def uk(h:Int)(e:(List Term))(g:Int):(Int×((List qp)×Unit)×(List Int)×(List Int)×(List Int))->T ((Int×((List qp)×Unit)×(List Int)×(List Int)×(List Int))⊕((((List qp)×Unit)×(List Int)×(List Int)×(List Int))))
 | (c,f,a,b,d) =>
 .ite (decide (c<g))
  (oI c e <|
 .zb (EY true (nth e c (zd zu)).1 d) <|
 oC a <|
 oC b <|
 oE a <|
 oE b <|
 .ret (.inl ((zD (c+1)),((f.1,()),(a,(b,(d++([(nth e c (zd zu)).1]:List Int))))))))
  (oC a <|
 oC b <|
 oE a <|
 oE b <|
 .ret (.inr ((f.1,()),(a,(b,d)))))
def gW out x x1 s:=T.loop (uk out x x1) s
def uo  : (Int×((List qp)×Unit)×(List Int)×(List Int)×(List Int))->T ((Int×((List qp)×Unit)×(List Int)×(List Int)×(List Int))⊕((((List qp)×Unit)×(List Int)×(List Int)×(List Int))⊕(((List qp)×Unit)×(List Int)×(List Int)×(List Int))))
 | (c,r,f,g,s) =>
 .ite (c != (-1))
  (oC f <|
 oC g <|
 oE f <|
 oE g <|
 T.bind (kf c (r.1,()) s f g) λ(j,l,m,a,b)=>let h:=0+(Int.toNat j); let i:=xK b h (zd (.int .i64)); let p:=List.set a (0+(Int.toNat i)) (-1);
 .ite (j==(-1))
  (oC a <|
 oC b <|
 oE a <|
 oE b <|
 .ret (.inr (.inr ((l.1,()),(a,(b,m))))))
  (oI j b <|
 .zb (va b.length b.length h b.length) <|
 T.bind (.ite (i != (-1))
  (oI i a <|
 .zb (va a.length a.length (0+(Int.toNat i)) a.length) <|
 .zb (zn a.length 0 a.length p.length) <|
 oC b <|
 .zb (a.length=p.length) <|
 oE b <|
 .ret ((l.1,()),(p,(b,m))))
  (oC a <|
 oC b <|
 oE a <|
 oE b <|
 .ret ((l.1,()),(a,(b,m)))):T ((((List qp)×Unit)×(List Int)×(List Int)×(List Int)))) λ(k,e,d,t)=>let q:=List.set e (0+(Int.toNat c)) j;
 oI c e <|
 .zb (va e.length e.length (0+(Int.toNat c)) e.length) <|
 oI j d <|
 .zb (va d.length d.length h d.length) <|
 oI c k.1 <|
 .zb (zn e.length 0 e.length q.length) <|
 .zb (zn d.length 0 d.length (List.set d h c).length) <|
 .zb (e.length=q.length) <|
 .zb (d.length=(List.set d h c).length) <|
 T.bind (gW i (nth k.1 c (zd zo)).2.1 (Nat.cast (List.length (nth k.1 c (zd zo)).2.1):Int) (0,((k.1,()),(q,((List.set d h c),t))))) λ(u,n,o,v) =>
 oC n <|
 oC o <|
 oE n <|
 oE o <|
 .ret (.inl (i,((u.1,()),(n,(o,v)))))))
  (oC f <|
 oC g <|
 oE f <|
 oE g <|
 .ret (.inr (.inl ((r.1,()),(f,(g,s))))))
def hY(s:(Int×((List qp)×Unit)×(List Int)×(List Int)×(List Int))):T ((((List qp)×Unit)×(List Int)×(List Int)×(List Int))⊕(((List qp)×Unit)×(List Int)×(List Int)×(List Int))):=T.loop (uo ) s
def jP(i:Int)(j:((List qp)×Unit))(e:(List Int))(f:(List Int)):T (((List qp)×Unit)×(List Int)×(List Int)) :=
 oC e <|
 oC f <|
 oE e <|
 oE f <|
 T.bind (hY  (i,((j.1,()),(e,(f,[]))))) <|
 Sum.elim (λ(g,a,b,k) =>
 oC a <|
 oC b <|
 oE a <|
 oE b <|
 .ret ((g.1,()),(a,b)))
  (λ(h,c,d,l) =>
 oC c <|
 oC d <|
 oE c <|
 oE d <|
 .ret ((h.1,()),(c,d)))
def eA(g:(List qp))(f:Int):(Int×((List qp)×Unit)×(List Int)×(List Int)×(List Int))->T ((Int×((List qp)×Unit)×(List Int)×(List Int)×(List Int))⊕((((List qp)×Unit)×(List Int)×(List Int)×(List Int))))
 | (d,e,b,c,a) =>
 .ite (decide (d<f))
  (oA a 8 <|
 .zb (zn (a.length+1) 0 (a.length+1) (a++[d]).length) <|
 oC b <|
 oC c <|
 oE b <|
 oE c <|
 .zb ((a.length+1)=(a++[d]).length) <|
 .ret (.inl ((zD (d+1)),((e.1,()),(b,(c,(a++[d])))))))
  (oC a <|
 oC b <|
 oC c <|
 oE b <|
 oE c <|
 oE a <|
 .ret (.inr ((e.1,()),(b,(c,a)))))
def rm l1 x s:=T.loop (eA l1 x) s
def dX(k:(List Int×Bool))(j:Int):(Int×((List qp)×Unit)×(List Int)×(List Int)×(List Int))->T ((Int×((List qp)×Unit)×(List Int)×(List Int)×(List Int))⊕((((List qp)×Unit)×(List Int)×(List Int)×(List Int))))
 | (d,h,b,c,a)=>let e:=xK a (0+(Int.toNat d)) (zd (.int .i64));
 .ite (decide (d<j))
  (oI d a <|
 .zb (va a.length a.length (0+(Int.toNat d)) a.length) <|
 oI e b <|
 .zb (va b.length b.length (0+(Int.toNat e)) b.length) <|
 .ite ((xK b (0+(Int.toNat e)) (zd (.int .i64)))==(-1))
  (oC b <|
 oC c <|
 oE b <|
 oE c <|
 T.bind (jP e (h.1,()) b c) λ(i,f,g) =>
 oC a <|
 oC a <|
 oC f <|
 oC g <|
 oE f <|
 oE g <|
 oE a <|
 .ret (.inl ((zD (d+1)),((i.1,()),(f,(g,a))))))
  (oC a <|
 oC a <|
 oC b <|
 oC c <|
 oE b <|
 oE c <|
 oE a <|
 .ret (.inl ((zD (d+1)),((h.1,()),(b,(c,a)))))))
  (oC a <|
 oC b <|
 oC c <|
 oE b <|
 oE c <|
 oE a <|
 .ret (.inr ((h.1,()),(b,(c,a)))))
def rL ahead1 x3 s:=T.loop (dX ahead1 x3) s
def ek  : ((List Int×Bool)×((List qp)×Unit)×(List Int)×(List Int)×(List Int))->T (((List Int×Bool)×((List qp)×Unit)×(List Int)×(List Int)×(List Int))⊕((((List qp)×Unit)×(List Int)×(List Int)×(List Int))))
 | (l,m,b,e,f) =>
 T.bind (.ite (!l.2)
  (oC f <|
 oC b <|
 oC e <|
 oE b <|
 oE e <|
 oE f <|
 .ret (true,((m.1,()),(b,(e,f)))))
  (oE b <|
 T.bind (j7 l.1 (List.drop 0 (List.take (0+b.length) b))) λn =>
 oC f <|
 oC b <|
 oC e <|
 oE b <|
 oE e <|
 oE f <|
 .ret ((!n),((m.1,()),(b,(e,f))))):T ((Bool×((List qp)×Unit)×(List Int)×(List Int)×(List Int)))) λ(o,k,a,d,c)=>let j:=List.drop 0 (List.take (0+a.length) a);
 .ite o
  (oE a <|
 .zb ((j.length*8)<=140737488355328) <|
 oC c <|
 oC c <|
 oC a <|
 oC d <|
 oE a <|
 oE d <|
 oE c <|
 T.bind (rL (j,true) (c.length:Int) (0,((k.1,()),(a,(d,c))))) λ(p,g,h,i) =>
 oC i <|
 oC g <|
 oC h <|
 oE g <|
 oE h <|
 oE i <|
 .ret (.inl ((j,true),((p.1,()),(g,(h,i))))))
  (oC a <|
 oC d <|
 oE a <|
 oE d <|
 oE c <|
 .ret (.inr ((k.1,()),(a,(d,c)))))
def ry(s:((List Int×Bool)×((List qp)×Unit)×(List Int)×(List Int)×(List Int))):T ((((List qp)×Unit)×(List Int)×(List Int)×(List Int))):=T.loop (ek ) s
def nm(b:(List qp))(i:(List Int))(p:Int):T ((List Int)×Bool) :=
 T.bind (kE b i p) <|
 Sum.elim (λ(j,k,c,d) =>
 .ite (!j)
  (T.bind (j6 i) λl =>
 .ret (l,false))
  (.zb (zn 0 0 0 0) <|
 oC c <|
 oC d <|
 oE c <|
 oE d <|
 .zb (0=0) <|
 T.bind (rm b (b.length:Int) (0,((k.1,()),(c,(d,[]))))) λ(m,e,f,a) =>
 oE a <|
 oE a <|
 T.bind (wX (0,a.length) (λz0 z1=>qt z0 z1 b) a) λg =>
 .zb (zn a.length 0 a.length g.length) <|
 oC e <|
 oC f <|
 oE e <|
 oE f <|
 oE g <|
 T.bind (ry  (([],false),((m.1,()),(e,(f,g))))) λ(q,h,r,s) =>
 oE h <|
 .ret ((List.drop 0 (List.take (0+h.length) h)),true)))
  (λn =>
 .ite (!n)
  (T.bind (j6 i) λo =>
 .ret (o,false))
  (.fail))
def ZC(a:qp):T Bool :=
 .ite ((a.2.1.length:Int)==0)
  (T.bind (bj a.2.2.1) λb =>
 .ret b)
  (.ret false)
def np(c:(List qp))(d:(List Int))(e:Int):T Bool :=
 T.bind (kE c d e) <|
 Sum.elim (λ(a,f,g,h) =>
 .ret a)
  (λb =>
 .ret b)
def kC(b:(List Int))(c:Int)(d:Int):Int->T (Int⊕(Unit⊕Int))
 | a =>
 .ite (decide (a<d))
  (oI a b <|
 .ite (c==(nth b a (zd (.int .i64))))
  (.ret (.inr (.inr a)))
  (.ret (.inl (zD (a+1)))))
  (.ret (.inr (.inl ())))
def dq s1 v1 x s:=T.loop (kC s1 v1 x) s
def yU(a:(List Int))(c:Int):T Int :=
 T.bind (dq a c (a.length:Int) 0) <|
 Sum.elim (λ_ =>
 .ret (-1))
  (λb =>
 .ret b)
def vr(b:(List Int))(c:Int):T Bool :=
 T.bind (yU b c) λa =>
 .ret (decide (0<=a))
def cd(b:Term)(c:(List Int))(d:Int)(a:(List Int)):T (Bool×(List Int)) :=
 oI d c <|
 .ite (b.1 != (nth c d (zd (.int .i64))))
  (oE a <|
 T.bind (vr (List.drop 0 (List.take (0+a.length) a)) b.1) λe =>
 oC a <|
 oE a <|
 .ret (e,a))
  (oC a <|
 oE a <|
 .ret (false,a))
def qH(e:(List Term))(g:Int):(((List Int)×Int×Unit)×Int×(List Int))->T ((((List Int)×Int×Unit)×Int×(List Int))⊕((List Int)⊕(Int×(List Int))))
 | (d,c,b) =>
 .ite (decide (c<g))
  (oI c e <|
 oC b <|
 oE b <|
 T.bind (cd (nth e c (zd zu)) d.1 d.2.1 b) λ(f,a) =>
 .ite f
  (oC a <|
 oE a <|
 .ret (.inr (.inr (c,a))))
  (oC a <|
 oE a <|
 .ret (.inl ((d.1,(d.2.1,())),((zD (c+1)),a)))))
  (oC b <|
 oE b <|
 .ret (.inr (.inl b)))
def wM s1 x s:=T.loop (qH s1 x) s
def qS(d:(List Term))(e:((List Int)×Int×Unit))(c:(List Int)):T (Int×(List Int)) :=
 oC c <|
 oE c <|
 T.bind (wM d (d.length:Int) ((e.1,(e.2.1,())),(0,c))) <|
 Sum.elim (λa =>
 oC a <|
 oE a <|
 .ret ((-1),a))
  (λ(f,b) =>
 oC b <|
 oE b <|
 .ret (f,b))
def qG(e:(List Term))(c:((List Int)×Int×Unit))(b:(List Int)):T (Bool×(List Int)) :=
 oC b <|
 oE b <|
 T.bind (qS e (c.1,(c.2.1,())) b) λ(d,a) =>
 oC a <|
 oE a <|
 .ret ((decide (0<=d)),a)
def fx(b:Int)(d:(List qp))(f:(List Int))(a:(List Int)):T (Bool×(List Int)) :=
 oI b a <|
 .zb (va a.length a.length (0+(Int.toNat b)) a.length) <|
 .ite ((xK a (0+(Int.toNat b)) (zd (.int .i64))) != (-1))
  (oI b d <|
 oC a <|
 oE a <|
 T.bind (qG (nth d b (zd zo)).2.1 (f,(b,())) a) λ(e,c) =>
 oC c <|
 oE c <|
 .ret ((!e),c))
  (oC a <|
 oE a <|
 .ret (false,a))
def nQ(g:(List qp)):(((List qp)×(List Int)×Unit)×Int×(List Int)×(List Int))->T ((((List qp)×(List Int)×Unit)×Int×(List Int)×(List Int))⊕(((List Int)×(List Int))))
 | (d,c,e,a) =>
 .ite (decide (c<(g.length:Int)))
  (oC e <|
 oE e <|
 T.bind (fx c d.1 d.2.1 e) λ(f,b) =>
 .ite (!f)
  (oC a <|
 oC b <|
 oE b <|
 oE a <|
 .ret (.inl ((d.1,(d.2.1,())),((zD (c+1)),(b,a)))))
  (oI c b <|
 .zb (va b.length b.length (0+(Int.toNat c)) b.length) <|
 oA a 8 <|
 .zb (zn (a.length+1) 0 (a.length+1) (a++[c]).length) <|
 oM b.length (List.set b (0+(Int.toNat c)) (-1)).length <|
 .zb ((a.length+1)=(a++[c]).length) <|
 .ret (.inl ((d.1,(d.2.1,())),(0,((List.set b (0+(Int.toNat c)) (-1)),(a++[c])))))))
  (oC a <|
 oC e <|
 oE e <|
 oE a <|
 .ret (.inr (e,a)))
def XI l1 s:=T.loop (nQ l1) s
def X3(c:(List qp))(d:(List Int))(f:Int):T (List Int) :=
 T.bind (np c d f) λe =>
 .ite (!e)
  (.ret [])
  (T.bind (w9 d) λa =>
 .zb (zn 0 0 0 0) <|
 oC a <|
 oE a <|
 .zb (0=0) <|
 T.bind (XI c ((c,(d,())),(0,(a,[])))) λ(g,b) =>
 oE b <|
 .ret (List.drop 0 (List.take (0+b.length) b)))
def fE(j:Int)(g:(List Term))(k:Int):(Int×(List Rat)×Rat×Rat×Rat)->T ((Int×(List Rat)×Rat×Rat×Rat)⊕(((List Rat)×Rat×Rat×Rat)))
 | (c,a,d,e,f)=>let b:=nth g c (zd zu);
 .ite (decide (c<k))
  (oI c g <|
 .ite (b.1==j)
  (oC a <|
 oE a <|
 .ret (.inl ((zD (c+1)),(a,(d,(e,(b.2.1.1,(b.2.1.2.1,(b.2.1.2.2.1,())))))))))
  (.zb (zT b.1 a.length) <|
 .zb (va a.length a.length (0+(Int.toNat b.1)) a.length) <|
 T.bind (iS (b.2.1.1,(b.2.1.2.1,(b.2.1.2.2.1,()))) (xK a (0+(Int.toNat b.1)) (zd zc))) λh =>
 T.bind (mL e h) λi =>
 oC a <|
 oE a <|
 .ret (.inl ((zD (c+1)),(a,(d,(i,f)))))))
  (oE a <|
 .ret (.inr (a,(d,(e,f)))))
def sS v1 x x1 s:=T.loop (fE v1 x x1) s
def pI(a:qp)(j:Int)(b:(List Rat)):T (Rat×(List Rat)) :=
 T.bind (qD a.2.2.1) λd =>
 T.bind (ud 1) λe =>
 oC b <|
 oE b <|
 T.bind (sS j a.2.1 (a.2.1.length:Int) (0,(b,((false,(([]:List Int),(([]:List Int),()))),(d,e))))) λ(c,k,f,g) =>
 T.bind (Wb f) λh =>
 T.bind (We h g) λ(i,l) =>
 oE c <|
 .ret (i,c)
def sB(f:(List qp))(g:(List Int))(h:(List Rat))(d:(List Rat))(e:Int):(Int×(List Rat))->T ((Int×(List Rat))⊕((List Rat)))
 | (b,a) =>
 .ite (decide (b<e))
  (oI b d <|
 T.bind (qD (nth d b (zd zc))) λc =>
 oA a 56 <|
 oM (a.length+1) (a++[c]).length <|
 .ret (.inl ((zD (b+1)),(a++[c]))))
  (oC a <|
 oE a <|
 .ret (.inr a))
def Kk l1 outs1 val1 x x1 s:=T.loop (sB l1 outs1 val1 x x1) s
def tq(i:(List qp))(f:(List Int))(j:(List Int))(l:Int):(Int×(List Rat))->T ((Int×(List Rat))⊕((List Rat)⊕(Int×Int×(List Rat))))
 | (d,a)=>let c:=nth j d (zd (.int .i64)); let e:=nth f c (zd (.int .i64));
 .ite (decide (d<l))
  (oI d j <|
 oI c i <|
 oI c f <|
 oC a <|
 oE a <|
 T.bind (pI (nth i c (zd zo)) e a) λ(h,b)=>let g:=List.set b (0+(Int.toNat e)) h;
 T.bind (jN h) λk =>
 .ite k
  (oE b <|
 .ret (.inr (.inr (c,(8,b)))))
  (oI c f <|
 oI e a <|
 .zb (va a.length b.length (0+(Int.toNat e)) b.length) <|
 .zb (zn a.length 0 a.length g.length) <|
 .zb (b.length=g.length) <|
 .ret (.inl ((zD (d+1)),g))))
  (oC a <|
 oE a <|
 .ret (.inr (.inl a)))
def Ks l2 outs2 x3 x4 s:=T.loop (tq l2 outs2 x3 x4) s
def G9(b:(List qp))(c:(List Int))(a:(List Rat)):T ((List Rat)×Int×Int) :=
 T.bind (np b c (a.length:Int)) λg =>
 .ite (!g)
  (.ret ([],((-1),1)))
  (oZ <|
 T.bind (Kk b c a a (a.length:Int) (0,[])) λd =>
 T.bind (X3 b c (a.length:Int)) λf =>
 oC d <|
 oE d <|
 T.bind (Ks b c f (f.length:Int) (0,d)) <|
 Sum.elim (λe =>
 oE e <|
 .ret ((List.drop 0 (List.take (0+e.length) e)),((-1),0)))
  (λ(h,i,j) =>
 .ret ([],(h,i))))
def fK(m:(List qp))(n:wv)(f:(List Int))(g:(List qp))(k:Int):(Int×wv×Int)->T ((Int×wv×Int)⊕((wv×Int)⊕(Int×Int×wv×Int)))
 | (a,c,d)=>let b:=nth g a (zd zo);
 .ite (decide (a<k))
  (oI a g <|
 T.bind (.ite (b.1==0)
  (oI a f <|
 .ite (decide ((nth f a (zd (.int .i64)))<0))
  (T.bind (ZC b) λh =>
 .ret ((!h),(c,(d,b))))
  (.ret (false,(c,(d,b)))))
  (.ret (false,(c,(d,b)))):T ((Bool×wv×Int×qp))) λ(i,j,e,l) =>
 .ite i
  (.ret (.inr (.inr (a,(10,((([]:List Int),(([]:List Rat),())),e))))))
  (.ret (.inl ((zD (a+1)),(j,e)))))
  (.ret (.inr (.inl (c,d))))
def Zy l1 s1 outs1 x1 x2 s:=T.loop (fK l1 s1 outs1 x1 x2) s
def rj(a:(List qp))(b:wv):T (wv×Int×Int) :=
 let c:=((([]:List Int),(([]:List Rat),())),(b.2.1.length:Int));  T.bind (.ite (decide ((b.2.1.length:Int)<1))
  (.ret (true,c))
  (.ite (decide (64<(b.2.1.length:Int)))
  (.ret (true,c))
  (.ite (decide (256<(a.length:Int)))
  (.ret (true,c))
  (.ite ((b.1.length:Int) != (a.length:Int))
  (.ret (true,c))
  (T.bind (uG a (λh=>uI h (b.2.1.length:Int))) λi =>
 .ret (i,c))))):T ((Bool×wv×Int))) λ(j,k,d) =>
 .ite j
  (.ret ((([]:List Int),(([]:List Rat),())),((-1),1)))
  (T.bind (fY a d) λf =>
 .ite (decide (0<=f))
  (.ret ((([]:List Int),(([]:List Rat),())),(f,9)))
  (T.bind (nm a b.1 d) λ(e,l) =>
 .ite (!l)
  (.ret ((([]:List Int),(([]:List Rat),())),((-1),1)))
  (T.bind (Zy a b e a (a.length:Int) (0,(k,d))) <|
 Sum.elim (λ(r,s) =>
 T.bind (G9 a e b.2.1) λ(m,n,g) =>
 .ite (g != 0)
  (.ret ((([]:List Int),(([]:List Rat),())),(n,g)))
  (.ret ((e,(m,())),((-1),0))))
  (λ(o,p,q,t) =>
 .ret (q,(o,p))))))
def bX(b:Int)(a:xH):T ((List zh)×xH) :=
 let c:=nth a.2.2.2.1 b (zd (.int .i64));  .ite (decide (b<0))
  (.ret ([],a))
  (oI b a.2.2.2.1 <|
 .ite (decide (c<(a.1.2.2.2.2.1.length:Int)))
  (oI b a.2.2.2.1 <|
 oI c a.1.2.2.2.2.1 <|
 .ret (([(nth a.1.2.2.2.2.1 c (zd zH)).1]:List zh),a))
  (oI b a.2.2.2.1 <|
 oI (zD (c-(a.1.2.2.2.2.1.length:Int))) a.1.2.2.2.1 <|
 .ret (([(nth a.1.2.2.2.1 (zD (c-(a.1.2.2.2.2.1.length:Int))) (zd zw)).1]:List zh),a)))
def vo(g:(List Rat))(a:xH):T ((List Rat)×(List zh)×Int×xH) :=
 T.bind (rj a.2.1 (a.2.2.1,(g,()))) λ(b,d,c) =>
 .ite (c != 0)
  (T.bind (bX d a) λ(e,f) =>
 .ret ([],(e,(c,f))))
  (.ret (b.2.1,([],(0,((a.1.1,(a.1.2.1,(a.1.2.2.1,(a.1.2.2.2.1,(a.1.2.2.2.2.1,(a.1.2.2.2.2.2.1,())))))),(a.2.1,(b.1,(a.2.2.2.1,()))))))))
def vP(a:(List Rat)):T (List Rat) :=
 .zb (a=[]->∀ r,T.leads (.zb (wg 0 0 0 0 0 a.length 56) <|
 .zb (zn (0+a.length) 0 (0+a.length) a.length) <|
 .zb ((0+a.length)=a.length) <|
 .ret a:T _) r->T.leads (.zb (zn 0 0 0 0) <|
 .zb (0=0) <|
 .ret []:T _) r) <|
 .zb (wg 0 0 0 0 0 a.length 56) <|
 oM (0+a.length) a.length <|
 .ret a
def vv(a:(List Bool)):T (List Bool) :=
 .zb (a=[]->∀ r,T.leads (.zb (wg 0 0 0 0 0 a.length 1) <|
 .zb (zn (0+a.length) 0 (0+a.length) a.length) <|
 .zb ((0+a.length)=a.length) <|
 .ret a:T _) r->T.leads (.zb (zn 0 0 0 0) <|
 .zb (0=0) <|
 .ret []:T _) r) <|
 .zb (wg 0 0 0 0 0 a.length 1) <|
 oM (0+a.length) a.length <|
 .ret a
def j3(a:(List zm)):T (List zm) :=
 .zb (a=[]->∀ r,T.leads (.zb (wg 0 0 0 0 0 a.length 64) <|
 .zb (zn (0+a.length) 0 (0+a.length) a.length) <|
 .zb ((0+a.length)=a.length) <|
 .ret a:T _) r->T.leads (.zb (zn 0 0 0 0) <|
 .zb (0=0) <|
 .ret []:T _) r) <|
 .zb (wg 0 0 0 0 0 a.length 64) <|
 oM (0+a.length) a.length <|
 .ret a
def QL(a:qF):T ((Unit)×(List Rat)×(List Bool)×(List Rat)×(List Int)×(List zm)×(List Bool)) :=
 T.bind (vP a.1) λb =>
 T.bind (vv a.2.1) λc =>
 T.bind (vP a.2.2.1) λd =>
 T.bind (w9 a.2.2.2.1) λe =>
 T.bind (j3 a.2.2.2.2.1) λf =>
 T.bind (vv a.2.2.2.2.2.1) λg =>
 oY b c d e f g <|
 .ret ((),(b,(c,(d,(e,(f,g))))))
def yB(l:Int):(Int×xH×((List Rat)×Unit)×qF×(List Rat)×(List Bool)×(List Rat)×(List Int)×(List zm)×(List Bool))->T ((Int×xH×((List Rat)×Unit)×qF×(List Rat)×(List Bool)×(List Rat)×(List Int)×(List zm)×(List Bool))⊕((xH×((List Rat)×Unit)×qF×(List Rat)×(List Bool)×(List Rat)×(List Int)×(List zm)×(List Bool))))
 | (f,i,j,k,b,c,g,a,d,e)=>let h:=List.set a (0+(Int.toNat f)) (-1);
 .ite (decide (f<l))
  (oI f a <|
 .zb (va a.length a.length (0+(Int.toNat f)) a.length) <|
 oC b <|
 oC c <|
 .zb (zn a.length 0 a.length h.length) <|
 oC d <|
 oC e <|
 oE b <|
 oE c <|
 oE g <|
 .zb (a.length=h.length) <|
 oE d <|
 oE e <|
 .ret (.inl ((zD (f+1)),(i,((j.1,()),(k,(b,(c,(g,(h,(d,e)))))))))))
  (oC b <|
 oC c <|
 oC a <|
 oC d <|
 oC e <|
 oW b c g a d e <|
 .ret (.inr (i,((j.1,()),(k,(b,(c,(g,(a,(d,e))))))))))
def fO x s:=T.loop (yB x) s
def yD(m:(List Int))(q:Int):(Int×xH×((List Rat)×Unit)×qF×(List Rat)×(List Bool)×(List Rat)×(List Int)×(List zm)×(List Bool))->T ((Int×xH×((List Rat)×Unit)×qF×(List Rat)×(List Bool)×(List Rat)×(List Int)×(List zm)×(List Bool))⊕((xH×((List Rat)×Unit)×qF×(List Rat)×(List Bool)×(List Rat)×(List Int)×(List zm)×(List Bool))))
 | (f,i,k,l,c,d,g,a,b,e)=>let h:=nth i.2.2.2.1 f (zd (.int .i64)); let n:=List.set a (0+(Int.toNat h)) (nth m f (zd (.int .i64))); let o:=0+(Int.toNat (zD (h-(a.length:Int)))); let j:=xK b o (zd zf); let p:=List.set b o (j.1,(((nth m f (zd (.int .i64))) != (-1)),((j.2.2.1.1,(j.2.2.1.2.1,(j.2.2.1.2.2.1,()))),())));
 .ite (decide (f<q))
  (oI f m <|
 oI f i.2.2.2.1 <|
 .ite (decide (h<(a.length:Int)))
  (oI h a <|
 .zb (va a.length a.length (0+(Int.toNat h)) a.length) <|
 oC c <|
 oC d <|
 .zb (zn a.length 0 a.length n.length) <|
 oC b <|
 oC e <|
 oE c <|
 oE d <|
 oE g <|
 .zb (a.length=n.length) <|
 oE b <|
 oE e <|
 .ret (.inl ((zD (f+1)),(i,((k.1,()),(l,(c,(d,(g,(n,(b,e)))))))))))
  (oI (zD (h-(a.length:Int))) b <|
 .zb (va b.length b.length o b.length) <|
 oC c <|
 oC d <|
 oC a <|
 .zb (zn b.length 0 b.length p.length) <|
 oC e <|
 oE c <|
 oE d <|
 oE g <|
 oE a <|
 .zb (b.length=p.length) <|
 oE e <|
 .ret (.inl ((zD (f+1)),(i,((k.1,()),(l,(c,(d,(g,(a,(p,e))))))))))))
  (oC c <|
 oC d <|
 oC a <|
 oC b <|
 oC e <|
 oW c d g a b e <|
 .ret (.inr (i,((k.1,()),(l,(c,(d,(g,(a,(b,e))))))))))
def ij x2 x3 s:=T.loop (yD x2 x3) s
def kb(w:qF)(x:(List Rat))(y:xH):T (((List Rat)×Unit)×xH×(List Rat)×(List Bool)×(List Int)×(List zm)×(List Bool)) :=
 T.bind (QL w) λ(z,b,c,q,a,d,e) =>
 oC b <|
 oC c <|
 oC a <|
 oC d <|
 oC e <|
 oW b c q a d e <|
 T.bind (fO (a.length:Int) (0,(y,((x,()),((([]:List Rat),(([]:List Bool),(([]:List Rat),(([]:List Int),(([]:List zm),(([]:List Bool),())))))),(b,(c,(q,(a,(d,e)))))))))) λ(f,s,t,g,h,r,i,j,k) =>
 oC g <|
 oC h <|
 oC i <|
 oC j <|
 oC k <|
 oW g h r i j k <|
 T.bind (ij f.2.2.1 (f.2.2.1.length:Int) (0,(f,((s.1,()),(t,(g,(h,(r,(i,(j,k)))))))))) λ(u,v,A,l,m,B,n,o,p) =>
 oC l <|
 oC m <|
 oC n <|
 oC o <|
 oC p <|
 oE l <|
 oE m <|
 oE n <|
 oE o <|
 oE p <|
 .ret ((v.1,()),(u,(l,(m,(n,(o,p))))))
def Zh(s:Form)(j:qF):T (qF×(List zh)×Int) :=
 T.bind (bI s j) <|
 Sum.elim (λ(k,a,b,c,d) =>
 .ite (k != 0)
  (.ret ((([]:List Rat),(([]:List Bool),(([]:List Rat),(([]:List Int),(([]:List zm),(([]:List Bool),())))))),([],k)))
  (oE b <|
 oE c <|
 oE d <|
 T.bind (vo j.2.2.1 ((a.1,(a.2.1,(a.2.2.1,(a.2.2.2.1,(a.2.2.2.2.1,(a.2.2.2.2.2.1,())))))),((List.drop 0 (List.take (0+b.length) b)),((List.drop 0 (List.take (0+c.length) c)),((List.drop 0 (List.take (0+d.length) d)),()))))) λ(n,o,l,p) =>
 .ite (l != 0)
  (.ret ((([]:List Rat),(([]:List Bool),(([]:List Rat),(([]:List Int),(([]:List zm),(([]:List Bool),())))))),(o,l)))
  (T.bind (kb j n p) λ(q,t,e,f,g,h,i) =>
 oE e <|
 oE f <|
 oE g <|
 oE h <|
 oE i <|
 .ret (((List.drop 0 (List.take (0+e.length) e)),((List.drop 0 (List.take (0+f.length) f)),(q.1,((List.drop 0 (List.take (0+g.length) g)),((List.drop 0 (List.take (0+h.length) h)),((List.drop 0 (List.take (0+i.length) i)),())))))),([],0)))))
  (λ(r,m) =>
 .ite (m != 0)
  (.ret ((([]:List Rat),(([]:List Bool),(([]:List Rat),(([]:List Int),(([]:List zm),(([]:List Bool),())))))),(r,m)))
  (.fail))
def tB(s:Form)(n:(List Param))(p:Int):(Int×(Unit)×(Unit)×(List Bool)×(List Bool)×(List Bool)×(List Bool)×(List zm)×(List zm)×(List Int)×(List Int)×(List Rat)×(List Rat)×(List Rat)×(List Rat))->T ((Int×(Unit)×(Unit)×(List Bool)×(List Bool)×(List Bool)×(List Bool)×(List zm)×(List zm)×(List Int)×(List Int)×(List Rat)×(List Rat)×(List Rat)×(List Rat))⊕(((Unit)×(Unit)×(List Bool)×(List Bool)×(List Bool)×(List Bool)×(List zm)×(List zm)×(List Int)×(List Int)×(List Rat)×(List Rat)×(List Rat)×(List Rat))))
 | (b,q,r,c,d,e,f,g,h,i,j,k,l,a,m) =>
 .ite (decide (b<p))
  (oI b n <|
 T.bind (qD ((nth n b (zd zB)).2.1.1,((nth n b (zd zB)).2.1.2.1,((nth n b (zd zB)).2.1.2.2.1,())))) λo =>
 oA a 56 <|
 oV k c l i g d <|
 .zb (zn (a.length+1) 0 (a.length+1) (a++[o]).length) <|
 oC e <|
 oC m <|
 oC j <|
 oC h <|
 oC f <|
 oW c d e f g h <|
 oE i <|
 oE j <|
 oE k <|
 oE l <|
 .zb ((a.length+1)=(a++[o]).length) <|
 oE m <|
 .ret (.inl ((zD (b+1)),((),((),(c,(d,(e,(f,(g,(h,(i,(j,(k,(l,((a++[o]),m))))))))))))))))
  (oV k c l i g d <|
 oV a e m j h f <|
 oW c d e f g h <|
 oW i j k l a m <|
 .ret (.inr ((),((),(c,(d,(e,(f,(g,(h,(i,(j,(k,(l,(a,m)))))))))))))))
def Jn f1 x x1 s:=T.loop (tB f1 x x1) s
def sU(s:Form)(o:(List Switch))(p:Int):(Int×(Unit)×(Unit)×(List Bool)×(List Bool)×(List Bool)×(List Bool)×(List zm)×(List zm)×(List Int)×(List Int)×(List Rat)×(List Rat)×(List Rat)×(List Rat))->T ((Int×(Unit)×(Unit)×(List Bool)×(List Bool)×(List Bool)×(List Bool)×(List zm)×(List zm)×(List Int)×(List Int)×(List Rat)×(List Rat)×(List Rat)×(List Rat))⊕(((Unit)×(Unit)×(List Bool)×(List Bool)×(List Bool)×(List Bool)×(List zm)×(List zm)×(List Int)×(List Int)×(List Rat)×(List Rat)×(List Rat)×(List Rat))))
 | (m,q,r,b,c,a,d,e,f,g,h,i,j,k,l)=>let n:=a++([(nth o m (zd zr)).2.1]:List Bool);
 .ite (decide (m<p))
  (oI m o <|
 oA a 1 <|
 oV i b j g e c <|
 oC k <|
 .zb (zn (a.length+1) 0 (a.length+1) n.length) <|
 oC l <|
 oC h <|
 oC f <|
 oC d <|
 oE b <|
 oE c <|
 .zb ((a.length+1)=n.length) <|
 oW d e f g h i <|
 oE j <|
 oE k <|
 oE l <|
 .ret (.inl ((zD (m+1)),((),((),(b,(c,(n,(d,(e,(f,(g,(h,(i,(j,(k,l))))))))))))))))
  (oV i b j g e c <|
 oV k a l h f d <|
 oW b c a d e f <|
 oW g h i j k l <|
 .ret (.inr ((),((),(b,(c,(a,(d,(e,(f,(g,(h,(i,(j,(k,l)))))))))))))))
def UR f2 x3 x4 s:=T.loop (sU f2 x3 x4) s
def Za(t:Form)(q:Int):(Int×(Unit)×(Unit)×(List Bool)×(List Bool)×(List Bool)×(List Bool)×(List zm)×(List zm)×(List Int)×(List Int)×(List Rat)×(List Rat)×(List Rat)×(List Rat))->T ((Int×(Unit)×(Unit)×(List Bool)×(List Bool)×(List Bool)×(List Bool)×(List zm)×(List zm)×(List Int)×(List Int)×(List Rat)×(List Rat)×(List Rat)×(List Rat))⊕(((Unit)×(Unit)×(List Bool)×(List Bool)×(List Bool)×(List Bool)×(List zm)×(List zm)×(List Int)×(List Int)×(List Rat)×(List Rat)×(List Rat)×(List Rat))))
 | (p,r,s,d,e,f,a,g,c,h,i,j,k,l,b) =>
 .ite (decide (p<q))
  (T.bind (ud 0) λm =>
 oA b 56 <|
 T.bind (ud 0) λn=>let o:=c++([(false,(false,((n.1,(n.2.1,(n.2.2.1,()))),())))]:List zm);
 oA c 64 <|
 oA a 1 <|
 oV j d k h g e <|
 oC l <|
 oC f <|
 .zb (zn (b.length+1) 0 (b.length+1) (b++[m]).length) <|
 oC i <|
 .zb (zn (c.length+1) 0 (c.length+1) o.length) <|
 .zb (zn (a.length+1) 0 (a.length+1) (a++[false]).length) <|
 oE d <|
 oE e <|
 oE f <|
 .zb ((a.length+1)=(a++[false]).length) <|
 oE g <|
 .zb ((c.length+1)=o.length) <|
 oE h <|
 oE i <|
 oE j <|
 oE k <|
 oE l <|
 .zb ((b.length+1)=(b++[m]).length) <|
 .ret (.inl ((zD (p+1)),((),((),(d,(e,(f,((a++[false]),(g,(o,(h,(i,(j,(k,(l,(b++[m])))))))))))))))))
  (oV j d k h g e <|
 oV l f b i c a <|
 oW d e f a g c <|
 oW h i j k l b <|
 .ret (.inr ((),((),(d,(e,(f,(a,(g,(c,(h,(i,(j,(k,(l,b)))))))))))))))
def UU f3 x6 s:=T.loop (Za f3 x6) s
def ss(q:Form)(n:Int):(Int×(Unit)×(Unit)×(List Bool)×(List Bool)×(List Bool)×(List Bool)×(List zm)×(List zm)×(List Int)×(List Int)×(List Rat)×(List Rat)×(List Rat)×(List Rat))->T ((Int×(Unit)×(Unit)×(List Bool)×(List Bool)×(List Bool)×(List Bool)×(List zm)×(List zm)×(List Int)×(List Int)×(List Rat)×(List Rat)×(List Rat)×(List Rat))⊕(((Unit)×(Unit)×(List Bool)×(List Bool)×(List Bool)×(List Bool)×(List zm)×(List zm)×(List Int)×(List Int)×(List Rat)×(List Rat)×(List Rat)×(List Rat))))
 | (m,o,p,b,c,d,e,f,g,h,a,i,j,k,l) =>
 .ite (decide (m<n))
  (oA a 8 <|
 oV i b j h f c <|
 oC k <|
 oC d <|
 oC l <|
 .zb (zn (a.length+1) 0 (a.length+1) (a++([(-1)]:List Int)).length) <|
 oC g <|
 oC e <|
 oW b c d e f g <|
 oE h <|
 .zb ((a.length+1)=(a++([(-1)]:List Int)).length) <|
 oE i <|
 oE j <|
 oE k <|
 oE l <|
 .ret (.inl ((zD (m+1)),((),((),(b,(c,(d,(e,(f,(g,(h,((a++([(-1)]:List Int)),(i,(j,(k,l))))))))))))))))
  (oV i b j h f c <|
 oV k d l a g e <|
 oW b c d e f g <|
 oW h a i j k l <|
 .ret (.inr ((),((),(b,(c,(d,(e,(f,(g,(h,(a,(i,(j,(k,l)))))))))))))))
def JA f4 x8 s:=T.loop (ss f4 x8) s
def YV(a:Form):T (qF×(List zh)×Int) :=
 .zb (zn 0 0 0 0) <|
 .zb (zn 0 0 0 0) <|
 .zb (zn 0 0 0 0) <|
 .zb (zn 0 0 0 0) <|
 .zb (zn 0 0 0 0) <|
 .zb (zn 0 0 0 0) <|
 .zb (zn 0 0 0 0) <|
 .zb (zn 0 0 0 0) <|
 .zb (zn 0 0 0 0) <|
 .zb (zn 0 0 0 0) <|
 .zb (zn 0 0 0 0) <|
 oZ <|
 .zb (0=0) <|
 .zb (0=0) <|
 .zb (0=0) <|
 .zb (0=0) <|
 .zb (0=0) <|
 .zb (0=0) <|
 .zb (0=0) <|
 .zb (0=0) <|
 .zb (0=0) <|
 .zb (0=0) <|
 .zb (0=0) <|
 T.bind (Jn a a.2.1 (a.2.1.length:Int) (0,((),((),([],([],([],([],([],([],([],([],([],([],([],[]))))))))))))))) λ(X,Y,b,c,d,e,f,g,h,i,j,k,l,m) =>
 oV j b k h f c <|
 oV l d m i g e <|
 oW b c d e f g <|
 oW h i j k l m <|
 T.bind (UR a a.1 (a.1.length:Int) (0,((),((),(b,(c,(d,(e,(f,(g,(h,(i,(j,(k,(l,m))))))))))))))) λ(Z,aa,n,o,p,q,r,s,t,u,v,w,x,y) =>
 oV v n w t r o <|
 oV x p y u s q <|
 oW n o p q r s <|
 oW t u v w x y <|
 T.bind (UU a (a.2.2.2.1.length:Int) (0,((),((),(n,(o,(p,(q,(r,(s,(t,(u,(v,(w,(x,y))))))))))))))) λ(ab,ac,z,A,B,C,D,E,G,H,I,J,K,L) =>
 oV I z J G D A <|
 oV K B L H E C <|
 oW z A B C D E <|
 oW G H I J K L <|
 T.bind (JA a (a.2.2.2.2.1.length:Int) (0,((),((),(z,(A,(B,(C,(D,(E,(G,(H,(I,(J,(K,L))))))))))))))) λ(ad,ae,af,ag,M,N,ah,O,ai,P,aj,ak,R,S) =>
 oW R M S P O N <|
 T.bind (Zh a ((List.drop 0 (List.take (0+R.length) R)),((List.drop 0 (List.take (0+M.length) M)),((List.drop 0 (List.take (0+S.length) S)),((List.drop 0 (List.take (0+P.length) P)),((List.drop 0 (List.take (0+O.length) O)),((List.drop 0 (List.take (0+N.length) N)),()))))))) λ(U,V,W) =>
 .ret (U,(V,W))
def uP(a:Switch)(b:qw):T Bool :=
 .ret (qb a.1 b.2.1)
def cT(d:(List Bool))(h:Form)(f:(List qw))(i:Int):(Int×(List Bool))->T ((Int×(List Bool))⊕((List Bool)))
 | (b,a)=>let e:=a++[false];
 .ite (decide (b<i))
  (oI b f <|
 T.bind (zY h.1 (λg=>uP g (nth f b (zd zO)))) λc =>
 .ite (qb (nth f b (zd zO)).2.1 [])
  (oA a 1 <|
 oM (a.length+1) (a++[true]).length <|
 .ret (.inl ((zD (b+1)),(a++[true]))))
  (.ite (decide (0<=c))
  (.ite (decide (c<(d.length:Int)))
  (oI c d <|
 oA a 1 <|
 oM (a.length+1) (a++([(nth d c (zd .bool))]:List Bool)).length <|
 .ret (.inl ((zD (b+1)),(a++([(nth d c (zd .bool))]:List Bool)))))
  (oA a 1 <|
 oM (a.length+1) e.length <|
 .ret (.inl ((zD (b+1)),e))))
  (oA a 1 <|
 oM (a.length+1) e.length <|
 .ret (.inl ((zD (b+1)),e)))))
  (oC a <|
 oE a <|
 .ret (.inr a))
def o8 on1 f1 x x1 s:=T.loop (cT on1 f1 x x1) s
def lx(b:Form)(c:(List Bool)):T (List Bool) :=
 oZ <|
 T.bind (o8 c b b.2.2.1 (b.2.2.1.length:Int) (0,[])) λa =>
 oE a <|
 .ret (List.drop 0 (List.take (0+a.length) a))
def n0(c:Form)(d:(List Bool))(a:Int):T Int :=
 T.bind (lx c d) λb =>
 .zb (((decide (0<=a))=true)->(((decide (a<(b.length:Int)))=true)->(zT a b.length))) <|
 .ite ((decide (0<=a))&&((decide (a<(b.length:Int)))&&(nth b a (zd .bool))))
  (.ret a)
  (.fail)
def mG(d:Form):T ((zh×Int×zS)⊕(zh×Int)) :=
 T.bind (dt d) λ(c,e) =>
 .ite (c != 0)
  (.ret (.inr (e,c)))
  (T.bind (Zz d) λa =>
 T.bind (YV a) λ(b,h,f) =>
 .ite (f != 0)
  (.fail)
  (T.bind (n0 a b.2.1 0) λg =>
 .ret (.inl ([],(0,((a.1,(a.2.1,(a.2.2.1,(a.2.2.2.1,(a.2.2.2.2.1,(a.2.2.2.2.2.1,())))))),((b.1,(b.2.1,(b.2.2.1,(b.2.2.2.1,(b.2.2.2.2.1,(b.2.2.2.2.2.1,())))))),((([]:List zh),(([]:List zh),())),(g,(false,()))))))))))
def gu(a:Field)(b:zh):T Bool :=
 .ret (qb a.1 b)
def vB(b:(List Field))(d:Field->T Bool)(e:Int):Int->T (Int⊕(Unit⊕Int))
 | a =>
 .ite (decide (a<e))
  (oI a b <|
 T.bind (d (nth b a (zd zw))) λc =>
 .ite c
  (.ret (.inr (.inr a)))
  (.ret (.inl (zD (a+1)))))
  (.ret (.inr (.inl ())))
def yQ s1 f x s:=T.loop (vB s1 f x) s
def uU(a:(List Field))(c:Field->T Bool):T Int :=
 T.bind (yQ a c (a.length:Int) 0) <|
 Sum.elim (λ_ =>
 .ret (-1))
  (λb =>
 .ret b)
def Qr(c:Form)(d:zh):T Int :=
 T.bind (uU c.2.2.2.1 (λa=>gu a d)) λb =>
 .ret b
def gw(a:Rat):T Bool :=
 T.bind (fN a) λb =>
 .ite b
  (T.bind (jN a) λc =>
 .ret (!c))
  (.ret false)
def gK(b:Rat):T Bool :=
 T.bind (gw b) λa =>
 .ret (!a)
def QS(a:zm):T Bool :=
 T.bind (gw a.2.2.1) λb =>
 .ite b
  (.ite a.1
  (.ret true)
  (.ite (!a.2.1)
  (T.bind (bj a.2.2.1) λc =>
 .ret c)
  (.ret false)))
  (.ret false)
def gJ(b:zm):T Bool :=
 T.bind (QS b) λa =>
 .ret (!a)
def wT(b:(List zm))(d:zm->T Bool)(e:Int):Int->T (Int⊕(Unit⊕Int))
 | a =>
 .ite (decide (a<e))
  (oI a b <|
 T.bind (d (nth b a (zd zf))) λc =>
 .ite c
  (.ret (.inr (.inr a)))
  (.ret (.inl (zD (a+1)))))
  (.ret (.inr (.inl ())))
def y9 s1 f x s:=T.loop (wT s1 f x) s
def uf(a:(List zm))(c:zm->T Bool):T Int :=
 T.bind (y9 a c (a.length:Int) 0) <|
 Sum.elim (λ_ =>
 .ret (-1))
  (λb =>
 .ret b)
def xj(b:(List zm))(c:zm->T Bool):T Bool :=
 T.bind (uf b c) λa =>
 .ret (decide (0<=a))
def Xf(h:(List Rat))(b:(List Term))(i:Int):(Int×Rat×Rat)->T ((Int×Rat×Rat)⊕((Rat×Rat)))
 | (a,c,d) =>
 .ite (decide (a<i))
  (oI a b <|
 T.bind (oz h (nth b a (zd zu)).1) λe =>
 T.bind (iS ((nth b a (zd zu)).2.1.1,((nth b a (zd zu)).2.1.2.1,((nth b a (zd zu)).2.1.2.2.1,()))) e) λf =>
 T.bind (mL d f) λg =>
 .ret (.inl ((zD (a+1)),(c,g))))
  (.ret (.inr (c,d)))
def HT val1 x x1 s:=T.loop (Xf val1 x x1) s
def F9(a:qp)(d:(List Rat)):T Rat :=
 T.bind (qD a.2.2.1) λb =>
 T.bind (HT d a.2.1 (a.2.1.length:Int) (0,((false,(([]:List Int),(([]:List Int),()))),b))) λ(e,c) =>
 .ret c
def rh(c:qp)(d:(List Rat)):T Bool :=
 T.bind (F9 c d) λa =>
 T.bind (bj a) λb =>
 .ret b
def uc(f:(List Term))(l:Int):(Int×Int×Int×((List qp)×Unit)×(List Int)×(List Int))->T ((Int×Int×Int×((List qp)×Unit)×(List Int)×(List Int))⊕((Int×((List qp)×Unit)×(List Int)×(List Int))))
 | (i,j,a,k,d,e) =>
 .ite (decide (a<l))
  (oI a f <|
 oC d <|
 oC e <|
 oE d <|
 oE e <|
 T.bind (vR (nth f a (zd zu)).1 (k.1,()) d e) λ(g,h,b,c) =>
 .zb (RO (nth f a (zd zu)).1) <|
 .ite ((!false)&&(decide (j<g)))
  (oC b <|
 oC c <|
 oE b <|
 oE c <|
 .ret (.inl ((nth f a (zd zu)).1,(g,((zD (a+1)),((h.1,()),(b,c)))))))
  (oC b <|
 oC c <|
 oE b <|
 oE c <|
 .ret (.inl (i,(j,((zD (a+1)),((h.1,()),(b,c))))))))
  (oC d <|
 oC e <|
 oE d <|
 oE e <|
 .ret (.inr (i,((k.1,()),(d,e)))))
def gH x x1 s:=T.loop (uc x x1) s
def jm(b:Int)(a:((List qp)×Unit))(e:(List Int))(f:(List Int)):T (Int×((List qp)×Unit)×(List Int)×(List Int)) :=
 oI b a.1 <|
 oI b a.1 <|
 oC e <|
 oC f <|
 oE e <|
 oE f <|
 T.bind (gH (nth a.1 b (zd zo)).2.1 (Nat.cast (List.length (nth a.1 b (zd zo)).2.1):Int) ((-1),((nth a.1 b (zd zo)).1,(0,((a.1,()),(e,f)))))) λ(g,h,c,d) =>
 oC c <|
 oC d <|
 oE c <|
 oE d <|
 .ret (g,((h.1,()),(c,d)))
def lD(d:(List qp))(i:(List Int))(j:Int)(b:Int):T Bool :=
 T.bind (kE d i j) <|
 Sum.elim (λ(e,f,a,c) =>
 .ite e
  (.ite (decide (0<=b))
  (.ite (decide (b<(d.length:Int)))
  (oI b a <|
 .zb (va a.length a.length (0+(Int.toNat b)) a.length) <|
 .ite ((xK a (0+(Int.toNat b)) (zd (.int .i64)))==(-1))
  (oC a <|
 oC c <|
 oE a <|
 oE c <|
 T.bind (jm b (f.1,()) a c) λ(g,k,l,m) =>
 .ret (g==(-1)))
  (.ret false))
  (.ret false))
  (.ret false))
  (.ret false))
  (λh =>
 .ite h
  (.ite (decide (0<=b))
  (.ite (decide (b<(d.length:Int)))
  (.fail)
  (.ret false))
  (.ret false))
  (.ret false))
def gi(g:Int)(m:(List Rat))(j:((List Switch)×(List Param)×(List qw)×(List Field)×(List qn)×(List Check)×Unit))(a:(List qp))(b:(List Int))(e:(List Int)):T (Bool×((List Switch)×(List Param)×(List qw)×(List Field)×(List qn)×(List Check)×Unit)×(List qp)×(List Int)×(List Int)) :=
 let k:=(j.1,(j.2.1,(j.2.2.1,(j.2.2.2.1,(j.2.2.2.2.1,(j.2.2.2.2.2.1,())))))); let h:=xK a (0+(Int.toNat g)) (zd zo);  oI g a <|
 .zb (va a.length a.length (0+(Int.toNat g)) a.length) <|
 oI g b <|
 .zb (va b.length b.length (0+(Int.toNat g)) b.length) <|
 .ite ((xK b (0+(Int.toNat g)) (zd (.int .i64))) != (-1))
  (T.bind (rh h m) λo =>
 oC a <|
 oC b <|
 oC e <|
 oE a <|
 oE b <|
 oE e <|
 .ret (o,(k,(a,(b,e)))))
  (T.bind (.ite ((h.2.1.length:Int)==0)
  (T.bind (bj (h.2.2.1.1,(h.2.2.1.2.1,(h.2.2.1.2.2.1,())))) λp =>
 oC a <|
 oC b <|
 oC e <|
 oE a <|
 oE b <|
 oE e <|
 .ret (p,(k,(a,(b,(e,h))))))
  (oC a <|
 oC b <|
 oC e <|
 oE a <|
 oE b <|
 oE e <|
 .ret (false,(k,(a,(b,(e,h)))))):T ((Bool×((List Switch)×(List Param)×(List qw)×(List Field)×(List qn)×(List Check)×Unit)×(List qp)×(List Int)×(List Int)×qp))) λ(q,i,c,d,f,r)=>let n:=lD (List.drop 0 (List.take (0+c.length) c)) (List.drop 0 (List.take (0+d.length) d)) (m.length:Int) g; let l:=((i.1,(i.2.1,(i.2.2.1,(i.2.2.2.1,(i.2.2.2.2.1,(i.2.2.2.2.2.1,())))))),(c,(d,f)));
 .ite (r.1 != 0)
  (oE c <|
 oE d <|
 T.bind n λs =>
 oC c <|
 oC d <|
 oC f <|
 oE c <|
 oE d <|
 oE f <|
 .ret (s,l))
  (.ite q
  (oE c <|
 oE d <|
 T.bind n λt =>
 oC c <|
 oC d <|
 oC f <|
 oE c <|
 oE d <|
 oE f <|
 .ret (t,l))
  (oC c <|
 oC d <|
 oC f <|
 oE c <|
 oE d <|
 oE f <|
 .ret (false,l))))
def X7(p:qF)(k:(List Int))(o:Int):(Int×((List Switch)×(List Param)×(List qw)×(List Field)×(List qn)×(List Check)×Unit)×(List qp)×(List Int)×(List Int))->T ((Int×((List Switch)×(List Param)×(List qw)×(List Field)×(List qn)×(List Check)×Unit)×(List qp)×(List Int)×(List Int))⊕((((List Switch)×(List Param)×(List qw)×(List Field)×(List qn)×(List Check)×Unit)×(List qp)×(List Int)×(List Int))⊕(Bool×((List Switch)×(List Param)×(List qw)×(List Field)×(List qn)×(List Check)×Unit)×(List qp)×(List Int)×(List Int))))
 | (i,e,b,c,a)=>let j:=((e.1,(e.2.1,(e.2.2.1,(e.2.2.2.1,(e.2.2.2.2.1,(e.2.2.2.2.2.1,())))))),(b,(c,a)));
 .ite (decide (i<o))
  (oI i k <|
 T.bind (.ite ((nth k i (zd (.int .i64))) != (-1))
  (oE a <|
 T.bind (vr (List.drop 0 (List.take (0+a.length) a)) i) λm =>
 oC b <|
 oC c <|
 oC a <|
 oE b <|
 oE c <|
 oE a <|
 .ret ((!m),j))
  (oC b <|
 oC c <|
 oC a <|
 oE b <|
 oE c <|
 oE a <|
 .ret (false,j)):T ((Bool×((List Switch)×(List Param)×(List qw)×(List Field)×(List qn)×(List Check)×Unit)×(List qp)×(List Int)×(List Int)))) λ(n,d,f,g,h)=>let l:=((d.1,(d.2.1,(d.2.2.1,(d.2.2.2.1,(d.2.2.2.2.1,(d.2.2.2.2.2.1,())))))),(f,(g,h)));
 .ite n
  (oC f <|
 oC g <|
 oC h <|
 oE f <|
 oE g <|
 oE h <|
 .ret (.inr (.inr (false,l))))
  (oC f <|
 oC g <|
 oC h <|
 oE f <|
 oE g <|
 oE h <|
 .ret (.inl ((zD (i+1)),l))))
  (oC b <|
 oC c <|
 oC a <|
 oE b <|
 oE c <|
 oE a <|
 .ret (.inr (.inl j)))
def HM d1 x x1 s:=T.loop (X7 d1 x x1) s
def Qm(m:qF)(n:Int):(Int×((List Switch)×(List Param)×(List qw)×(List Field)×(List qn)×(List Check)×Unit)×(List qp)×(List Int)×(List Int))->T ((Int×((List Switch)×(List Param)×(List qw)×(List Field)×(List qn)×(List Check)×Unit)×(List qp)×(List Int)×(List Int))⊕((((List Switch)×(List Param)×(List qw)×(List Field)×(List qn)×(List Check)×Unit)×(List qp)×(List Int)×(List Int))⊕(Bool×((List Switch)×(List Param)×(List qw)×(List Field)×(List qn)×(List Check)×Unit)×(List qp)×(List Int)×(List Int))))
 | (i,b,c,d,e)=>let j:=(b.1,(b.2.1,(b.2.2.1,(b.2.2.2.1,(b.2.2.2.2.1,(b.2.2.2.2.2.1,()))))));
 .ite (decide (i<n))
  (oC c <|
 oC d <|
 oC e <|
 oE c <|
 oE d <|
 oE e <|
 T.bind (gi i m.2.2.1 j c d e) λ(l,a,f,g,h)=>let k:=((a.1,(a.2.1,(a.2.2.1,(a.2.2.2.1,(a.2.2.2.2.1,(a.2.2.2.2.2.1,())))))),(f,(g,h)));
 .ite (!l)
  (oC f <|
 oC g <|
 oC h <|
 oE f <|
 oE g <|
 oE h <|
 .ret (.inr (.inr (false,k))))
  (oC f <|
 oC g <|
 oC h <|
 oE f <|
 oE g <|
 oE h <|
 .ret (.inl ((zD (i+1)),k))))
  (oC c <|
 oC d <|
 oC e <|
 oE c <|
 oE d <|
 oE e <|
 .ret (.inr (.inl (j,(c,(d,e))))))
def Bx d2 x5 s:=T.loop (Qm d2 x5) s
def JG(t:Form)(a:qF):T Bool :=
 T.bind (bI t a) <|
 Sum.elim (λ(k,d,g,h,i) =>
 .ite (k != 0)
  (.ret false)
  (T.bind (qs a.2.2.1 (λb=>gK b)) λl =>
 .ite l
  (.ret false)
  (T.bind (xj a.2.2.2.2.1 (λb=>gJ b)) λm =>
 .ite m
  (.ret false)
  (oC g <|
 oC h <|
 oC i <|
 oE g <|
 oE h <|
 oE i <|
 T.bind (HM a a.2.2.2.1 (a.2.2.2.1.length:Int) (0,((d.1,(d.2.1,(d.2.2.1,(d.2.2.2.1,(d.2.2.2.2.1,(d.2.2.2.2.2.1,())))))),(g,(h,i))))) <|
 Sum.elim (λ(e,c,f,j) =>
 oE c <|
 oE f <|
 T.bind (np (List.drop 0 (List.take (0+c.length) c)) (List.drop 0 (List.take (0+f.length) f)) (a.2.2.1.length:Int)) λn =>
 .ite (!n)
  (.ret false)
  (oC c <|
 oC f <|
 oC j <|
 oE c <|
 oE f <|
 oE j <|
 T.bind (Bx a (c.length:Int) (0,((e.1,(e.2.1,(e.2.2.1,(e.2.2.2.1,(e.2.2.2.2.1,(e.2.2.2.2.2.1,())))))),(c,(f,j))))) <|
 Sum.elim (λ(u,v,w,x) =>
 .ret true)
  (λ(o,y,z,A,B) =>
 .ret o)))
  (λ(p,C,D,E,G) =>
 .ret p)))))
  (λ(H,q) =>
 .ite (q != 0)
  (.ret false)
  (T.bind (qs a.2.2.1 (λb=>gK b)) λr =>
 .ite r
  (.ret false)
  (T.bind (xj a.2.2.2.2.1 (λb=>gJ b)) λs =>
 .ite s
  (.ret false)
  (.fail))))
def V6(s:Form)(h:qF)(t:zh)(x:Rat):T (qF×(List zh)×Int) :=
 T.bind (Qr s t) λf =>
 T.bind (JG s h) λy =>
 .ite (!y)
  (.ret ((([]:List Rat),(([]:List Bool),(([]:List Rat),(([]:List Int),(([]:List zm),(([]:List Bool),())))))),([],1)))
  (.ite (decide (f<0))
  (.ret ((([]:List Rat),(([]:List Bool),(([]:List Rat),(([]:List Int),(([]:List zm),(([]:List Bool),())))))),([],5)))
  (T.bind (gw x) λz =>
 .ite (!z)
  (.ret ((([]:List Rat),(([]:List Bool),(([]:List Rat),(([]:List Int),(([]:List zm),(([]:List Bool),())))))),([t],8)))
  (T.bind (bI s h) <|
 Sum.elim (λ(g,d,i,j,k) =>
 .ite (g != 0)
  (.ret ((([]:List Rat),(([]:List Bool),(([]:List Rat),(([]:List Int),(([]:List zm),(([]:List Bool),())))))),([],g)))
  (oC i <|
 oC j <|
 oC k <|
 oE i <|
 oE j <|
 oE k <|
 T.bind (kt f x (-1) (d.1,(d.2.1,(d.2.2.1,(d.2.2.2.1,(d.2.2.2.2.1,(d.2.2.2.2.2.1,())))))) i j k) λ(e,l,m,n) =>
 oE l <|
 oE m <|
 oE n <|
 T.bind (vo h.2.2.1 ((e.1,(e.2.1,(e.2.2.1,(e.2.2.2.1,(e.2.2.2.2.1,(e.2.2.2.2.2.1,())))))),((List.drop 0 (List.take (0+l.length) l)),((List.drop 0 (List.take (0+m.length) m)),((List.drop 0 (List.take (0+n.length) n)),()))))) λ(A,B,u,a)=>let b:=zD ((a.2.1.length:Int)-1);
 .ite (u != 0)
  (.ret ((([]:List Rat),(([]:List Bool),(([]:List Rat),(([]:List Int),(([]:List zm),(([]:List Bool),())))))),(B,u)))
  (oI b a.2.2.1 <|
 .ite ((nth a.2.2.1 b (zd (.int .i64)))==(-1:Int))
  (.ret ((([]:List Rat),(([]:List Bool),(([]:List Rat),(([]:List Int),(([]:List zm),(([]:List Bool),())))))),([t],11)))
  (.zb (vG 0 b a.2.1.length) <|
 .zb (vG 0 b a.2.2.1.length) <|
 .zb (vG 0 b a.2.2.2.1.length) <|
 T.bind (vo A ((a.1.1,(a.1.2.1,(a.1.2.2.1,(a.1.2.2.2.1,(a.1.2.2.2.2.1,(a.1.2.2.2.2.2.1,())))))),((vw (e:=zo) 0 b a.2.1),((vw (e:=(.int .i64)) 0 b a.2.2.1),((vw (e:=(.int .i64)) 0 b a.2.2.2.1),()))))) λ(C,D,v,E) =>
 .ite (v != 0)
  (.ret ((([]:List Rat),(([]:List Bool),(([]:List Rat),(([]:List Int),(([]:List zm),(([]:List Bool),())))))),(D,v)))
  (T.bind (kb h C E) λ(G,I,o,p,q,r,c) =>
 oI f c <|
 .zb (va c.length c.length (0+(Int.toNat f)) c.length) <|
 oE o <|
 oE p <|
 oE q <|
 oE r <|
 oE c <|
 .ret (((List.drop 0 (List.take (0+o.length) o)),((List.drop 0 (List.take (0+p.length) p)),(G.1,((List.drop 0 (List.take (0+q.length) q)),((List.drop 0 (List.take (0+r.length) r)),((List.drop 0 (List.take (0+c.length) (List.set c (0+(Int.toNat f)) true))),())))))),([],0)))))))
  (λ(H,w) =>
 .ite (w != 0)
  (.ret ((([]:List Rat),(([]:List Bool),(([]:List Rat),(([]:List Int),(([]:List zm),(([]:List Bool),())))))),(H,w)))
  (.fail)))))
def cK(e:Rat->T zh)(d:(List Rat))(f:Int):(zh×Int)->T ((zh×Int)⊕(zh))
 | (c,a) =>
 .ite (decide (a<f))
  (oI a d <|
 T.bind (e (nth d a (zd zc))) λb =>
 oK [32] b <|
 oK c (cat [32] b) <|
 .ret (.inl ((cat c (cat [32] b)),(zD (a+1)))))
  (.ret (.inr c))
def o0 text x x1 s:=T.loop (cK text x x1) s
def cn(c:zh)(b:(List Rat))(d:Rat->T zh):T zh :=
 T.bind (o0 d b (b.length:Int) (c,0)) λa =>
 oK a [10] <|
 .ret (cat a [10])
def cQ(a:Bool):T zh :=
 .ite a
  (.ret [49])
  (.ret [48])
def bQ(e:Bool->T zh)(d:(List Bool))(f:Int):(zh×Int)->T ((zh×Int)⊕(zh))
 | (c,a) =>
 .ite (decide (a<f))
  (oI a d <|
 T.bind (e (nth d a (zd .bool))) λb =>
 oK [32] b <|
 oK c (cat [32] b) <|
 .ret (.inl ((cat c (cat [32] b)),(zD (a+1)))))
  (.ret (.inr c))
def nA text x x1 s:=T.loop (bQ text x x1) s
def hP(c:zh)(b:(List Bool))(d:Bool->T zh):T zh :=
 T.bind (nA d b (b.length:Int) (c,0)) λa =>
 oK a [10] <|
 .ret (cat a [10])
def l0(a:Int):T zh :=
 .ite (decide (a<0))
  (.ret [45])
  (T.bind (strconv_Itoa a) λb =>
 .ret b)
def cB(e:Int->T zh)(d:(List Int))(f:Int):(zh×Int)->T ((zh×Int)⊕(zh))
 | (c,a) =>
 .ite (decide (a<f))
  (oI a d <|
 T.bind (e (nth d a (zd (.int .i64)))) λb =>
 oK [32] b <|
 oK c (cat [32] b) <|
 .ret (.inl ((cat c (cat [32] b)),(zD (a+1)))))
  (.ret (.inr c))
def oB text x x1 s:=T.loop (cB text x x1) s
def ll(c:zh)(b:(List Int))(d:Int->T zh):T zh :=
 T.bind (oB d b (b.length:Int) (c,0)) λa =>
 oK a [10] <|
 .ret (cat a [10])
def iU(a:zm):T zh :=
 .ite (!a.1)
  (.ret [45])
  (.ite a.2.1
  (T.bind (jQ a.2.2.1) λb =>
 oK b [33] <|
 .ret (cat b [33]))
  (T.bind (jQ a.2.2.1) λc =>
 .ret c))
def yx(e:zm->T zh)(d:(List zm))(f:Int):(zh×Int)->T ((zh×Int)⊕(zh))
 | (c,a) =>
 .ite (decide (a<f))
  (oI a d <|
 T.bind (e (nth d a (zd zf))) λb =>
 oK [32] b <|
 oK c (cat [32] b) <|
 .ret (.inl ((cat c (cat [32] b)),(zD (a+1)))))
  (.ret (.inr c))
def ft text x x1 s:=T.loop (yx text x x1) s
def ca(c:zh)(b:(List zm))(d:zm->T zh):T zh :=
 T.bind (ft d b (b.length:Int) (c,0)) λa =>
 oK a [10] <|
 .ret (cat a [10])
def bH(b:qF):T zh :=
 T.bind (cn [112,97,114,97,109,115] b.1 (λa=>jQ a)) λc =>
 T.bind (hP [111,110] b.2.1 (λa=>cQ a)) λd =>
 oK c d <|
 T.bind (cn [118,97,108,115] b.2.2.1 (λa=>jQ a)) λg =>
 oK (cat c d) g <|
 T.bind (ll [111,117,116,115] b.2.2.2.1 (λa=>l0 a)) λi=>let f:=cat (cat (cat c d) g) i;
 oK (cat (cat c d) g) i <|
 T.bind (ca [112,105,110,115] b.2.2.2.2.1 (λa=>iU a)) λe =>
 oK f e <|
 T.bind (hP [102,105,108,108,101,100] b.2.2.2.2.2.1 (λa=>cQ a)) λh =>
 oK (cat f e) h <|
 oK (cat (cat f e) h) [101,110,100,10] <|
 .ret (cat (cat (cat f e) h) [101,110,100,10])
def xn(a:(List zh)):T (List zh) :=
 .zb (a=[]->∀ r,T.leads (.zb (wg 0 0 0 0 0 a.length 16) <|
 .zb (zn (0+a.length) 0 (0+a.length) a.length) <|
 .zb ((0+a.length)=a.length) <|
 .ret a:T _) r->T.leads (.zb (zn 0 0 0 0) <|
 .zb (0=0) <|
 .ret []:T _) r) <|
 .zb (wg 0 0 0 0 0 a.length 16) <|
 oM (0+a.length) a.length <|
 .ret a
def X4(d:uT)(e:zh):T uT :=
 T.bind (xn d.1) λc=>let a:=c.length+1; let b:=rI 0 (zD ((Nat.cast a:Int)-32));
 oA c 16 <|
 .zb (vG b (Nat.cast a:Int) a) <|
 .zb (a=a) <|
 .ret ((List.drop (0+(Int.toNat b)) (List.take ((0+(Int.toNat b))+((Int.toNat (Nat.cast a:Int))-(Int.toNat b))) (c++[e]))),(([]:List zh),()))
def jS(b:qF)(h:(List zh))(d:Int)(a:zS):T (Answer×zS) :=
 let e:=(a.1.1,(a.1.2.1,(a.1.2.2.1,(a.1.2.2.2.1,(a.1.2.2.2.2.1,(a.1.2.2.2.2.2.1,()))))));  .ite (d != 0)
  (.ret ((d,(h,([],()))),a))
  (T.bind (bH (a.2.1.1,(a.2.1.2.1,(a.2.1.2.2.1,(a.2.1.2.2.2.1,(a.2.1.2.2.2.2.1,(a.2.1.2.2.2.2.2.1,()))))))) λf =>
 T.bind (X4 (a.2.2.1.1,(a.2.2.1.2.1,())) f) λc =>
 T.bind (n0 e b.2.1 a.2.2.2.1) λg =>
 .ret (((0:Int),(([]:List zh),([],()))),(e,((b.1,(b.2.1,(b.2.2.1,(b.2.2.2.1,(b.2.2.2.2.1,(b.2.2.2.2.2.1,())))))),((c.1,(c.2.1,())),(g,(a.2.2.2.2.1,())))))))
def qT(a:(List zh)):T (List zh) :=
 let b:=0+a.length;  .zb (a=[]->∀ r,T.leads (.zb (wg 0 0 0 0 0 a.length 16) <|
 .zb (b=b) <|
 .ret (List.drop 0 (List.take (0+b) a)):T _) r->T.leads (.ret []:T _) r) <|
 .zb (wg 0 0 0 0 0 a.length 16) <|
 .zb (b=b) <|
 .ret (List.drop 0 (List.take (0+b) a))
def nV(b:(List zh))(f:(List zh))(g:zh):T ((List zh)×(List zh)×zh) :=
 let c:=zD ((b.length:Int)-1);  .zb (vG 0 c b.length) <|
 T.bind (xn (vw (e:=.str) 0 c b)) λd =>
 T.bind (xn f) λa =>
 oA a 16 <|
 oI c b <|
 oE d <|
 .zb ((a.length+1)=(a.length+1)) <|
 .ret ((List.drop 0 (List.take (0+d.length) d)),((List.drop 0 (List.take (0+(a.length+1)) (a++[g]))),(nth b c (zd .str))))
def o7(a:uT)(g:zh):T (uT×zh×Bool) :=
 .ite ((a.1.length:Int)==0)
  (T.bind (qT a.1) λb =>
 T.bind (qT a.2.1) λc =>
 .ret ((b,(c,())),([],false)))
  (T.bind (nV a.1 a.2.1 g) λ(d,e,f) =>
 .ret ((d,(e,())),(f,true)))
def xq(a:Bool):T (Unit⊕Unit) :=
 .ite (!a)
  (.ret (.inr ()))
  (.ret (.inl ()))
def yX(a:uS):T ((zh×uS)⊕(Unit×uS)) :=
 T.bind (strings_Cut a.1 [10]) λ(b,c,d) =>
 T.bind (xq d) <|
 Sum.elim (λ_ =>
 .ret (.inl (b,(c,()))))
  (λe =>
 .ret (.inr (e,a)))
def qj(h:zh)(i:uS):T (((List zh)×uS)⊕(Unit×uS)) :=
 T.bind (yX i) <|
 Sum.elim (λ(c,b) =>
 T.bind (strings_Split c [32]) λa =>
 oI 0 a <|
 T.bind (xq (qb (nth a 0 (zd .str)) h)) <|
 Sum.elim (λ_ =>
 .zb (vG 1 (a.length:Int) a.length) <|
 .ret (.inl ((vw (e:=.str) 1 (a.length:Int) a),b)))
  (λd =>
 .ret (.inr (d,b))))
  (λ(f,g) =>
 .ret (.inr (f,g)))
def hX(d:zh):T (Rat⊕Unit) :=
 T.bind (iZ d) λ(a,b) =>
 T.bind (xq (b==0)) <|
 Sum.elim (λ_ =>
 .ret (.inl a))
  (λc =>
 .ret (.inr c))
def wC(d:(List zh))(f:Int):(Int×(List Rat))->T ((Int×(List Rat))⊕((List Rat)⊕(Unit×(List Rat))))
 | (b,a) =>
 .ite (decide (b<f))
  (oI b d <|
 T.bind (hX (nth d b (zd .str))) <|
 Sum.elim (λc =>
 oA a 56 <|
 oM (a.length+1) (a++[c]).length <|
 .ret (.inl ((zD (b+1)),(a++[c]))))
  (λe =>
 oE a <|
 .ret (.inr (.inr (e,a)))))
  (oC a <|
 oE a <|
 .ret (.inr (.inl a)))
def kL x x1 s:=T.loop (wC x x1) s
def xx(b:(List zh))(e:(Unit)):T ((List Rat)⊕Unit) :=
 oZ <|
 T.bind (kL b (b.length:Int) (0,[])) <|
 Sum.elim (λa =>
 oC a <|
 oE a <|
 .ret (.inl a))
  (λ(c,d) =>
 .ret (.inr c))
def lj(a:zh):T (Bool⊕Unit) :=
 .ite (qb a [48])
  (T.bind (xq true) <|
 Sum.elim (λ_ =>
 .ret (.inl (qb a [49])))
  (λb =>
 .ret (.inr b)))
  (T.bind (xq (qb a [49])) <|
 Sum.elim (λ_ =>
 .ret (.inl (qb a [49])))
  (λc =>
 .ret (.inr c)))
def wA(d:(List zh))(f:Int):(Int×(List Bool))->T ((Int×(List Bool))⊕((List Bool)⊕(Unit×(List Bool))))
 | (b,a) =>
 .ite (decide (b<f))
  (oI b d <|
 T.bind (lj (nth d b (zd .str))) <|
 Sum.elim (λc =>
 oA a 1 <|
 oM (a.length+1) (a++[c]).length <|
 .ret (.inl ((zD (b+1)),(a++[c]))))
  (λe =>
 oE a <|
 .ret (.inr (.inr (e,a)))))
  (oC a <|
 oE a <|
 .ret (.inr (.inl a)))
def kg x x1 s:=T.loop (wA x x1) s
def xA(b:(List zh))(e:(Unit)):T ((List Bool)⊕Unit) :=
 oZ <|
 T.bind (kg b (b.length:Int) (0,[])) <|
 Sum.elim (λa =>
 oC a <|
 oE a <|
 .ret (.inl a))
  (λ(c,d) =>
 .ret (.inr c))
def lG(a:zh):T (Int⊕Unit) :=
 T.bind (.ite (!(qb a []))
  (.ite (decide ((a.length:Int)<=18))
  (T.bind (dK a [48,49,50,51,52,53,54,55,56,57]) λb =>
 T.bind (xq (qb b [])) <|
 Sum.elim (λ_ =>
 .ret (.inl ()))
  (λc =>
 .ret (.inr c)))
  (T.bind (xq false) <|
 Sum.elim (λ_ =>
 .ret (.inl ()))
  (λd =>
 .ret (.inr d))))
  (T.bind (xq false) <|
 Sum.elim (λ_ =>
 .ret (.inl ()))
  (λe =>
 .ret (.inr e))):T (Unit⊕Unit)) <|
 Sum.elim (λ_ =>
 .fail)
  (λf =>
 .ret (.inr f))
def lp(a:zh):T (Int⊕Unit) :=
 .ite (qb a [45])
  (.ret (.inl (-1)))
  (T.bind (lG a) <|
 Sum.elim (λb =>
 .ret (.inl b))
  (λc =>
 .ret (.inr c)))
def wL(d:(List zh))(f:Int):(Int×(List Int))->T ((Int×(List Int))⊕((List Int)⊕(Unit×(List Int))))
 | (b,a) =>
 .ite (decide (b<f))
  (oI b d <|
 T.bind (lp (nth d b (zd .str))) <|
 Sum.elim (λc =>
 oA a 8 <|
 oM (a.length+1) (a++[c]).length <|
 .ret (.inl ((zD (b+1)),(a++[c]))))
  (λe =>
 oE a <|
 .ret (.inr (.inr (e,a)))))
  (oC a <|
 oE a <|
 .ret (.inr (.inl a)))
def kN x x1 s:=T.loop (wL x x1) s
def vy(b:(List zh))(e:(Unit)):T ((List Int)⊕Unit) :=
 oZ <|
 T.bind (kN b (b.length:Int) (0,[])) <|
 Sum.elim (λa =>
 oC a <|
 oE a <|
 .ret (.inl a))
  (λ(c,d) =>
 .ret (.inr c))
def wW(a:zh)(b:zh):T Bool :=
 .zb (((decide ((b.length:Int)<=(a.length:Int)))=true)->(vG (zD ((a.length:Int)-(b.length:Int))) (a.length:Int) a.length)) <|
 .ret ((decide ((b.length:Int)<=(a.length:Int)))&&(qb (cx (zD ((a.length:Int)-(b.length:Int))) (a.length:Int) a) b))
def wP(a:zh)(b:zh):T (zh×Bool) :=
 T.bind (wW a b) λc =>
 .ite (!c)
  (.ret (a,false))
  (.zb (vG 0 (zD ((a.length:Int)-(b.length:Int))) a.length) <|
 .ret ((cx 0 (zD ((a.length:Int)-(b.length:Int))) a),true))
def strings_CutSuffix(c:zh)(d:zh):T (zh×Bool) :=
 T.bind (wP c d) λ(a,b) =>
 .ret (a,b)
def lC(c:zh):T (zm⊕Unit) :=
 .ite (qb c [45])
  (T.bind (ud 0) λa =>
 .ret (.inl (false,(false,((a.1,(a.2.1,(a.2.2.1,()))),())))))
  (T.bind (strings_CutSuffix c [33]) λ(d,e) =>
 T.bind (hX d) <|
 Sum.elim (λb =>
 .ret (.inl (true,(e,((b.1,(b.2.1,(b.2.2.1,()))),())))))
  (λf =>
 .ret (.inr f)))
def xT(d:(List zh))(f:Int):(Int×(List zm))->T ((Int×(List zm))⊕((List zm)⊕(Unit×(List zm))))
 | (b,a) =>
 .ite (decide (b<f))
  (oI b d <|
 T.bind (lC (nth d b (zd .str))) <|
 Sum.elim (λc =>
 oA a 64 <|
 oM (a.length+1) (a++[c]).length <|
 .ret (.inl ((zD (b+1)),(a++[c]))))
  (λe =>
 oE a <|
 .ret (.inr (.inr (e,a)))))
  (oC a <|
 oE a <|
 .ret (.inr (.inl a)))
def jh x x1 s:=T.loop (xT x x1) s
def wF(b:(List zh))(e:(Unit)):T ((List zm)⊕Unit) :=
 oZ <|
 T.bind (jh b (b.length:Int) (0,[])) <|
 Sum.elim (λa =>
 oC a <|
 oE a <|
 .ret (.inl a))
  (λ(c,d) =>
 .ret (.inr c))
def iD(a:Int):T Int :=
 .ite true
  (.ret a)
  (.fail)
def zX(b:Unit)(a:Int):T Int :=
 .ite false
  (.ret a)
  (.ite true
  (.ret 2)
  (.fail))
def nG(g:zh):T ((Unit)×Int×(List Rat)×(List Bool)×(List Rat)×(List Int)×(List zm)×(List Bool)) :=
 T.bind (qj [112,97,114,97,109,115] (g,())) <|
 Sum.elim (λ(k,l) =>
 T.bind (xx k ()) <|
 Sum.elim (λa=>let h:=(a,([],([],([],([],[])))));
 T.bind (qj [111,110] l) <|
 Sum.elim (λ(m,n) =>
 T.bind (xA m ()) <|
 Sum.elim (λb=>let i:=(a,(b,([],([],([],[])))));
 T.bind (qj [118,97,108,115] n) <|
 Sum.elim (λ(o,p) =>
 T.bind (xx o ()) <|
 Sum.elim (λc=>let j:=(a,(b,(c,([],([],[])))));
 T.bind (qj [111,117,116,115] p) <|
 Sum.elim (λ(q,r) =>
 T.bind (vy q ()) <|
 Sum.elim (λd =>
 T.bind (qj [112,105,110,115] r) <|
 Sum.elim (λ(s,t) =>
 T.bind (wF s ()) <|
 Sum.elim (λe =>
 T.bind (qj [102,105,108,108,101,100] t) <|
 Sum.elim (λ(u,aa) =>
 T.bind (xA u ()) <|
 Sum.elim (λf =>
 oW a b c d e f <|
 T.bind (bH ((List.drop 0 (List.take (0+a.length) a)),((List.drop 0 (List.take (0+b.length) b)),((List.drop 0 (List.take (0+c.length) c)),((List.drop 0 (List.take (0+d.length) d)),((List.drop 0 (List.take (0+e.length) e)),((List.drop 0 (List.take (0+f.length) f)),()))))))) λv =>
 T.bind (xq (qb v g)) <|
 Sum.elim (λ_ =>
 T.bind (iD 0) λw =>
 oY a b c d e f <|
 .ret ((),(w,(a,(b,(c,(d,(e,f))))))))
  (λx =>
 T.bind (zX x 0) λy =>
 oY a b c d e f <|
 .ret ((),(y,(a,(b,(c,(d,(e,f)))))))))
  (λz =>
 T.bind (zX z 0) λA =>
 oC a <|
 oC b <|
 oC c <|
 oC d <|
 oC e <|
 .zb (zn 0 0 0 0) <|
 oE a <|
 oE b <|
 oE c <|
 oE d <|
 oE e <|
 .zb (0=0) <|
 .ret ((),(A,(a,(b,(c,(d,(e,[])))))))))
  (λ(B,ab) =>
 T.bind (zX B 0) λC =>
 oC a <|
 oC b <|
 oC c <|
 oC d <|
 oC e <|
 .zb (zn 0 0 0 0) <|
 oE a <|
 oE b <|
 oE c <|
 oE d <|
 oE e <|
 .zb (0=0) <|
 .ret ((),(C,(a,(b,(c,(d,(e,[])))))))))
  (λD =>
 T.bind (zX D 0) λE =>
 oC a <|
 oC b <|
 oC c <|
 oC d <|
 .zb (zn 0 0 0 0) <|
 .zb (zn 0 0 0 0) <|
 oE a <|
 oE b <|
 oE c <|
 oE d <|
 .zb (0=0) <|
 .zb (0=0) <|
 .ret ((),(E,(a,(b,(c,(d,([],[])))))))))
  (λ(G,ac) =>
 T.bind (zX G 0) λH =>
 oC a <|
 oC b <|
 oC c <|
 oC d <|
 .zb (zn 0 0 0 0) <|
 .zb (zn 0 0 0 0) <|
 oE a <|
 oE b <|
 oE c <|
 oE d <|
 .zb (0=0) <|
 .zb (0=0) <|
 .ret ((),(H,(a,(b,(c,(d,([],[])))))))))
  (λI =>
 T.bind (zX I 0) λJ =>
 oC a <|
 oC b <|
 oC c <|
 .zb (zn 0 0 0 0) <|
 .zb (zn 0 0 0 0) <|
 .zb (zn 0 0 0 0) <|
 oE a <|
 oE b <|
 oE c <|
 .zb (0=0) <|
 .zb (0=0) <|
 .zb (0=0) <|
 .ret ((),(J,j))))
  (λ(K,ad) =>
 T.bind (zX K 0) λL =>
 oC a <|
 oC b <|
 oC c <|
 .zb (zn 0 0 0 0) <|
 .zb (zn 0 0 0 0) <|
 .zb (zn 0 0 0 0) <|
 oE a <|
 oE b <|
 oE c <|
 .zb (0=0) <|
 .zb (0=0) <|
 .zb (0=0) <|
 .ret ((),(L,j))))
  (λM =>
 T.bind (zX M 0) λN =>
 oC a <|
 oC b <|
 .zb (zn 0 0 0 0) <|
 .zb (zn 0 0 0 0) <|
 .zb (zn 0 0 0 0) <|
 .zb (zn 0 0 0 0) <|
 oE a <|
 oE b <|
 .zb (0=0) <|
 .zb (0=0) <|
 .zb (0=0) <|
 .zb (0=0) <|
 .ret ((),(N,i))))
  (λ(O,ae) =>
 T.bind (zX O 0) λP =>
 oC a <|
 oC b <|
 .zb (zn 0 0 0 0) <|
 .zb (zn 0 0 0 0) <|
 .zb (zn 0 0 0 0) <|
 .zb (zn 0 0 0 0) <|
 oE a <|
 oE b <|
 .zb (0=0) <|
 .zb (0=0) <|
 .zb (0=0) <|
 .zb (0=0) <|
 .ret ((),(P,i))))
  (λR =>
 T.bind (zX R 0) λS =>
 oC a <|
 .zb (zn 0 0 0 0) <|
 .zb (zn 0 0 0 0) <|
 .zb (zn 0 0 0 0) <|
 .zb (zn 0 0 0 0) <|
 .zb (zn 0 0 0 0) <|
 oE a <|
 .zb (0=0) <|
 .zb (0=0) <|
 .zb (0=0) <|
 .zb (0=0) <|
 .zb (0=0) <|
 .ret ((),(S,h))))
  (λ(U,af) =>
 T.bind (zX U 0) λV =>
 oC a <|
 .zb (zn 0 0 0 0) <|
 .zb (zn 0 0 0 0) <|
 .zb (zn 0 0 0 0) <|
 .zb (zn 0 0 0 0) <|
 .zb (zn 0 0 0 0) <|
 oE a <|
 .zb (0=0) <|
 .zb (0=0) <|
 .zb (0=0) <|
 .zb (0=0) <|
 .zb (0=0) <|
 .ret ((),(V,h))))
  (λW =>
 T.bind (zX W 0) λX =>
 .zb (zn 0 0 0 0) <|
 .zb (zn 0 0 0 0) <|
 .zb (zn 0 0 0 0) <|
 .zb (zn 0 0 0 0) <|
 .zb (zn 0 0 0 0) <|
 oZ <|
 .zb (0=0) <|
 .zb (0=0) <|
 .zb (0=0) <|
 .zb (0=0) <|
 .zb (0=0) <|
 .ret ((),(X,([],([],([],([],([],[])))))))))
  (λ(Y,ag) =>
 T.bind (zX Y 0) λZ =>
 .zb (zn 0 0 0 0) <|
 .zb (zn 0 0 0 0) <|
 .zb (zn 0 0 0 0) <|
 .zb (zn 0 0 0 0) <|
 .zb (zn 0 0 0 0) <|
 oZ <|
 .zb (0=0) <|
 .zb (0=0) <|
 .zb (0=0) <|
 .zb (0=0) <|
 .zb (0=0) <|
 .ret ((),(Z,([],([],([],([],([],[]))))))))
def pV(j:Form)(k:zh):T (qF×Int) :=
 T.bind (nG k) λ(l,g,a,b,c,d,e,f)=>let h:=((List.drop 0 (List.take (0+a.length) a)),((List.drop 0 (List.take (0+b.length) b)),((List.drop 0 (List.take (0+c.length) c)),((List.drop 0 (List.take (0+d.length) d)),((List.drop 0 (List.take (0+e.length) e)),((List.drop 0 (List.take (0+f.length) f)),()))))));
 .ite (g != 0)
  (.ret ((([]:List Rat),(([]:List Bool),(([]:List Rat),(([]:List Int),(([]:List zm),(([]:List Bool),())))))),g))
  (oW a b c d e f <|
 T.bind (JG j h) λi =>
 .ite (!i)
  (.ret ((([]:List Rat),(([]:List Bool),(([]:List Rat),(([]:List Int),(([]:List zm),(([]:List Bool),())))))),1))
  (oW a b c d e f <|
 .ret (h,0)))
def wb(j:uT->zh->T (uT×zh×Bool))(a:zS):T (Answer×zS) :=
 let c:=(a.1.1,(a.1.2.1,(a.1.2.2.1,(a.1.2.2.2.1,(a.1.2.2.2.2.1,(a.1.2.2.2.2.2.1,()))))));  T.bind (bH (a.2.1.1,(a.2.1.2.1,(a.2.1.2.2.1,(a.2.1.2.2.2.1,(a.2.1.2.2.2.2.1,(a.2.1.2.2.2.2.2.1,()))))))) λf =>
 T.bind (j (a.2.2.1.1,(a.2.2.1.2.1,())) f) λ(d,g,h) =>
 .ite (!h)
  (.ret (((13:Int),(([]:List zh),([],()))),a))
  (T.bind (pV c g) λ(b,e) =>
 .ite (e != 0)
  (.ret ((e,(([]:List zh),([],()))),a))
  (T.bind (n0 c b.2.1 a.2.2.2.1) λi =>
 .ret (((0:Int),(([]:List zh),([],()))),(c,((b.1,(b.2.1,(b.2.2.1,(b.2.2.2.1,(b.2.2.2.2.1,(b.2.2.2.2.2.1,())))))),((d.1,(d.2.1,())),(i,(a.2.2.2.2.1,()))))))))
def ou(a:uT)(g:zh):T (uT×zh×Bool) :=
 .ite ((a.2.1.length:Int)==0)
  (T.bind (qT a.1) λb =>
 T.bind (qT a.2.1) λc =>
 .ret ((b,(c,())),([],false)))
  (T.bind (nV a.2.1 a.1 g) λ(d,e,f) =>
 .ret ((e,(d,())),(f,true)))
def yG(b:Op)(a:zS):T (Answer×zS) :=
 .ite (b.1==1)
  (T.bind (V6 (a.1.1,(a.1.2.1,(a.1.2.2.1,(a.1.2.2.2.1,(a.1.2.2.2.2.1,(a.1.2.2.2.2.2.1,())))))) (a.2.1.1,(a.2.1.2.1,(a.2.1.2.2.1,(a.2.1.2.2.2.1,(a.2.1.2.2.2.2.1,(a.2.1.2.2.2.2.2.1,())))))) b.2.1 b.2.2.1) λ(c,d,e) =>
 T.bind (jS c d e a) λ(f,g) =>
 .ret (f,g))
  (.ite (bif (b.1==2)then(b.1==2)else(b.1==3))
  (.fail)
  (.ite (b.1==4)
  (.fail)
  (.ite (b.1==5)
  (.fail)
  (.ite (b.1==6)
  (.fail)
  (.ite (b.1==7)
  (.fail)
  (.ite (b.1==8)
  (.fail)
  (.ite (b.1==9)
  (T.bind (wb (λz0 z1=>o7 z0 z1) a) λ(h,i) =>
 .ret (h,i))
  (.ite (b.1==10)
  (T.bind (wb (λz0 z1=>ou z0 z1) a) λ(j,k) =>
 .ret (j,k))
  (.ite (b.1==11)
  (.fail)
  (.ret (((1:Int),(([]:List zh),([],()))),a)))))))))))
def kQ(a:zS)(b:Answer)(c:zS):T (zS×Answer×zS) :=
 .ite false
  (.ret (a,(((1:Int),(([]:List zh),([],()))),a)))
  (.ret (a,(b,c)))
def gP(f:Op)(a:zS):T (Answer×zS) :=
 .ite false
  (.ret (((1:Int),(([]:List zh),([],()))),a))
  (.ite a.2.2.2.2.1
  (.ret (((14:Int),(([]:List zh),([],()))),a))
  (T.bind (yG f a) λ(b,c) =>
 T.bind (kQ a b c) λ(g,d,e) =>
 .ret (d,e)))
def k8(e:(List Op))(g:Int):(Int×zS×(List Answer))->T ((Int×zS×(List Answer))⊕((zS×(List Answer))))
 | (b,d,a) =>
 .ite (decide (b<g))
  (oI b e <|
 T.bind (gP (nth e b (zd cj)) d) λ(c,f) =>
 oA a 48 <|
 oM (a.length+1) (a++[c]).length <|
 .ret (.inl ((zD (b+1)),(f,(a++[c])))))
  (oC a <|
 oE a <|
 .ret (.inr (d,a)))
def cZ x x1 s:=T.loop (k8 x x1) s
def gf(b:(List Op))(d:zS):T (zS×(List Answer)) :=
 oZ <|
 T.bind (cZ b (b.length:Int) (0,(d,[]))) λ(c,a) =>
 oC a <|
 oE a <|
 .ret (c,a)
def uK(a:Op):T Answer :=
 .ite true
  (.ret ((1:Int),(([]:List zh),([],()))))
  (.fail)
def jv(d:(List Op))(e:Int):(Int×(List Answer))->T ((Int×(List Answer))⊕((List Answer)))
 | (b,a) =>
 .ite (decide (b<e))
  (oI b d <|
 T.bind (uK (nth d b (zd cj))) λc =>
 oA a 48 <|
 oM (a.length+1) (a++[c]).length <|
 .ret (.inl ((zD (b+1)),(a++[c]))))
  (oC a <|
 oE a <|
 .ret (.inr a))
def cp x x1 s:=T.loop (jv x x1) s
def vQ(b:(List Op)):T (List Answer) :=
 oZ <|
 T.bind (cp b (b.length:Int) (0,[])) λa =>
 oC a <|
 oE a <|
 .ret a
def bW  : T Bool :=
 T.bind (mG (([]:List Switch),(([]:List Param),(([([112],([],()))]:List qw),(([([97],((0:Int),(false,((0:Int),()))))]:List Field),(([]:List qn),(([]:List Check),()))))))) <|
 Sum.elim (λ(f,c,d) =>
 .ite ((c != 0)||false)
  (.ret false)
  (T.bind (gf ([((1:Int),([97],((false,(([1]:List Int),(([2]:List Int),()))),(false,())))),((9:Int),([],((false,(([]:List Int),(([]:List Int),()))),(false,())))),((9:Int),([],((false,(([]:List Int),(([]:List Int),()))),(false,()))))]:List Op) d) λ(g,a) =>
 .zb ((((a.length:Int)==3)=true)->((zT 0 a.length)/\((va a.length a.length (0+(Int.toNat 0)) a.length)/\((((xK a (0+(Int.toNat 0)) (zd zJ)).1==0)=true)->((zT 1 a.length)/\((va a.length a.length (0+(Int.toNat 1)) a.length)/\((((xK a (0+(Int.toNat 1)) (zd zJ)).1==0)=true)->((zT 2 a.length)/\(va a.length a.length (0+(Int.toNat 2)) a.length))))))))) <|
 .ret (((a.length:Int)==3)&&(((xK a (0+(Int.toNat 0)) (zd zJ)).1==0)&&(((xK a (0+(Int.toNat 1)) (zd zJ)).1==0)&&((xK a (0+(Int.toNat 2)) (zd zJ)).1==13))))))
  (λ(h,e) =>
 .ite ((e != 0)||true)
  (.ret false)
  (T.bind (vQ ([((1:Int),([97],((false,(([1]:List Int),(([2]:List Int),()))),(false,())))),((9:Int),([],((false,(([]:List Int),(([]:List Int),()))),(false,())))),((9:Int),([],((false,(([]:List Int),(([]:List Int),()))),(false,()))))]:List Op)) λb =>
 .zb ((((b.length:Int)==3)=true)->((zT 0 b.length)/\((va b.length b.length (0+(Int.toNat 0)) b.length)/\((((xK b (0+(Int.toNat 0)) (zd zJ)).1==0)=true)->((zT 1 b.length)/\((va b.length b.length (0+(Int.toNat 1)) b.length)/\((((xK b (0+(Int.toNat 1)) (zd zJ)).1==0)=true)->((zT 2 b.length)/\(va b.length b.length (0+(Int.toNat 2)) b.length))))))))) <|
 .ret (((b.length:Int)==3)&&(((xK b (0+(Int.toNat 0)) (zd zJ)).1==0)&&(((xK b (0+(Int.toNat 1)) (zd zJ)).1==0)&&((xK b (0+(Int.toNat 2)) (zd zJ)).1==13))))))
def vJ(b:(List Op)):Int->T (Int⊕(Unit⊕Bool))
 | a=>let c:=nth b a (zd cj);
 .ite ((decide (a<(b.length:Int)))&&(decide (a<25)))
  (.zb ((zT a b.length)/\(((decide (60<(c.2.1.length:Int)))=false)->((zT a b.length)/\(((decide (3<(c.2.2.1.2.1.length:Int)))=false)->(zT a b.length))))) <|
 .ite ((decide (60<(c.2.1.length:Int)))||((decide (3<(c.2.2.1.2.1.length:Int)))||(decide (3<(c.2.2.1.2.2.1.length:Int)))))
  (.ret (.inr (.inr true)))
  (.ret (.inl (zD (a+1)))))
  (.ret (.inr (.inl ())))
def cu l1 s:=T.loop (vJ l1) s
def dM(b:(List Op)):T Bool :=
 T.bind (cu b 0) <|
 Sum.elim (λ_ =>
 .ret false)
  (λa =>
 .ret a)
def yC  : T uT :=
 .ite true
  (.ret (([]:List zh),(([]:List zh),())))
  (.fail)
def cO(b:Answer)(c:Answer):Int->T (Int⊕(Unit⊕Bool))
 | a =>
 .ite (decide (a<(b.2.1.length:Int)))
  (oI a b.2.1 <|
 oI a c.2.1 <|
 .ite (!(qb (nth b.2.1 a (zd .str)) (nth c.2.1 a (zd .str))))
  (.ret (.inr (.inr false)))
  (.ret (.inl (zD (a+1)))))
  (.ret (.inr (.inl ())))
def og a1 b1 s:=T.loop (cO a1 b1) s
def lz(a:Answer)(b:Answer):T Bool :=
 .ite ((a.1 != b.1)||((!(qb a.2.2.1 b.2.2.1))||((a.2.1.length:Int) != (b.2.1.length:Int))))
  (.ret false)
  (T.bind (og a b 0) <|
 Sum.elim (λ_ =>
 .ret true)
  (λc =>
 .ret c))
def yJ  : T zh :=
 .ite true
  (.ret [])
  (.fail)
def yT  : T qF :=
 .ite true
  (.ret (([]:List Rat),(([]:List Bool),(([]:List Rat),(([]:List Int),(([]:List zm),(([]:List Bool),())))))))
  (.fail)
def j4(b:(List Int))(c:(List Int))(d:Int):Int->T (Int⊕(Unit⊕Bool))
 | a =>
 .ite (decide (a<d))
  (oI a b <|
 oI a c <|
 .ite ((nth b a (zd (.int .u32))) != (nth c a (zd (.int .u32))))
  (.ret (.inr (.inr false)))
  (.ret (.inl (zD (a+1)))))
  (.ret (.inr (.inl ())))
def bw s11 s21 x s:=T.loop (j4 s11 s21 x) s
end Go.AM.Lf
