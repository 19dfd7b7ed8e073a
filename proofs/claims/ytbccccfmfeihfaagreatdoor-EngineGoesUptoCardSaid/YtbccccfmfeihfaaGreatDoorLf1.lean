/-
  The program's functions as trees in plain Lean, part 1: printed by a program of ours.
-/
import Derived.Test.YtbccccfmfeihfaaGreatDoorLf0
set_option linter.unusedVariables false
open Decidable renaming decide -> zA
open Go.AM.T renaming bind -> Y, ret -> M, ite -> U, loop -> zK
open Sum renaming inr -> zE, inl -> zF, elim -> zI
open List renaming drop -> zG, take -> zH, length -> zL, replicate -> zM, isEmpty -> zQ
open Int renaming toNat -> zJ, tmod -> zO, tdiv -> zP
open Nat renaming cast -> zN
noncomputable section
namespace Go.AM.Lf
def ig(e:Form)(L:zt)(ae:Unit)(f:zp)(g:zo)(h:zp)(a:z7)(i:zn)(j:zo):T ((zp×Unit)×zr×Int×zp×zo×z7×zn×zo) :=
 let x:=((zG 0 (zH (0+f.length) f)),((zG 0 (zH (0+g.length) g)),((zG 0 (zH (0+h.length) h)),((zG 0 (zH (0+i.length) i)),((zG 0 (zH (0+j.length) j)),())))));  Y (dt e L) <|
 zI (λ(y,b,k,l,m) =>
 U (y != 0)
  (.W (zu 0 0 0 0) <|
 .W (zu 0 0 0 0) <|
 .W (zu 0 0 0 0) <|
 .W (zu 0 0 0 0) <|
 oZ <|
 .W (0=0) <|
 .W (0=0) <|
 .W (0=0) <|
 .W (0=0) <|
 M (([],()),([],(y,([],([],([],([],[]))))))))
  (V f <|
 V g <|
 V h <|
 V i <|
 V j <|
 oC a <|
 V a <|
 Y (eJ e x a) <|
 zI (λ(z,n,c,o,p,q) =>
 U (z != 0)
  (.W (zu 0 0 0 0) <|
 .W (zu 0 0 0 0) <|
 .W (zu 0 0 0 0) <|
 .W (zu 0 0 0 0) <|
 oZ <|
 .W (0=0) <|
 .W (0=0) <|
 .W (0=0) <|
 .W (0=0) <|
 M (([],()),([],(z,([],([],([],([],[]))))))))
  (V n <|
 .W (zu a.length 0 a.length n.length) <|
 oC k <|
 oC l <|
 oC m <|
 V k <|
 V l <|
 V m <|
 oC o <|
 oC p <|
 oC q <|
 V o <|
 V p <|
 V q <|
 Y (QR e (a.length:Int) (0,(n,(x,((([]:List Rat),(([]:List Bool),(([]:List Rat),(([]:List Int),(([]:List qh),(([]:List Bool),())))))),((b.1,(b.2.1,(b.2.2.1,(b.2.2.2.1,(b.2.2.2.2.1,(b.2.2.2.2.2.1,())))))),(k,(l,(m,((c.1,(c.2.1,(c.2.2.1,(c.2.2.2.1,(c.2.2.2.2.1,(c.2.2.2.2.2.1,())))))),(o,(p,q)))))))))))) λ(r,d,zC,hx,κ,P,hl,S,zD,oE,zl) =>
 V r <|
 Y (dU e (d.1,(d.2.1,(d.2.2.1,((zG 0 (zH (0+r.length) r)),(d.2.2.2.1,(d.2.2.2.2.1,()))))))) λ(κ',G,H,s,t,u,v,w) =>
 oC s <|
 oC t <|
 oC u <|
 oC v <|
 oC w <|
 V s <|
 V t <|
 V u <|
 V v <|
 V w <|
 M ((κ'.1,()),(G,(H,(s,(t,(u,(v,w)))))))))
  (λ(hb,A,h2) =>
 U (A != 0)
  (.W (zu 0 0 0 0) <|
 .W (zu 0 0 0 0) <|
 .W (zu 0 0 0 0) <|
 .W (zu 0 0 0 0) <|
 oZ <|
 .W (0=0) <|
 .W (0=0) <|
 .W (0=0) <|
 .W (0=0) <|
 M (([],()),(hb,(A,([],([],([],([],[]))))))))
  (.fail))))
  (λ(hd,B) =>
 U (B != 0)
  (.W (zu 0 0 0 0) <|
 .W (zu 0 0 0 0) <|
 .W (zu 0 0 0 0) <|
 .W (zu 0 0 0 0) <|
 oZ <|
 .W (0=0) <|
 .W (0=0) <|
 .W (0=0) <|
 .W (0=0) <|
 M (([],()),(hd,(B,([],([],([],([],[]))))))))
  (V f <|
 V g <|
 V h <|
 V i <|
 V j <|
 oC a <|
 V a <|
 Y (eJ e x a) <|
 zI (λ(C,zB,z6,aa,ab,ac) =>
 U (C != 0)
  (.W (zu 0 0 0 0) <|
 .W (zu 0 0 0 0) <|
 .W (zu 0 0 0 0) <|
 .W (zu 0 0 0 0) <|
 oZ <|
 .W (0=0) <|
 .W (0=0) <|
 .W (0=0) <|
 .W (0=0) <|
 M (([],()),([],(C,([],([],([],([],[]))))))))
  (.fail))
  (λ(K,D,ad) =>
 U (D != 0)
  (.W (zu 0 0 0 0) <|
 .W (zu 0 0 0 0) <|
 .W (zu 0 0 0 0) <|
 .W (zu 0 0 0 0) <|
 oZ <|
 .W (0=0) <|
 .W (0=0) <|
 .W (0=0) <|
 .W (0=0) <|
 M (([],()),(K,(D,([],([],([],([],[]))))))))
  (.fail))))
def oS(m:Form)(n:zt)(p:q9)(q:Rat):T (zt×zr×Int) :=
 Y (vQ m.2.1 (λr=>gF r p)) λb =>
 Y (Xm m n) λs =>
 U (!s)
  (M ((([]:List Rat),(([]:List Bool),(([]:List Rat),(([]:List Int),(([]:List qh),(([]:List Bool),())))))),([],1)))
  (U (zA (b<0))
  (M ((([]:List Rat),(([]:List Bool),(([]:List Rat),(([]:List Int),(([]:List qh),(([]:List Bool),())))))),([],5)))
  (Y (bZ q) λt =>
 U (!t)
  (M ((([]:List Rat),(([]:List Bool),(([]:List Rat),(([]:List Int),(([]:List qh),(([]:List Bool),())))))),([p],8)))
  (Y (lZ n) λ(y,a,c,d,e,f,g) =>
 Y (vN q) λu=>let o:=List.set a (0+(zJ b)) u;
 oI b a <|
 .W (uM a.length a.length (0+(zJ b)) a.length) <|
 .W (zu a.length 0 a.length o.length) <|
 oC c <|
 oC d <|
 oC e <|
 oC f <|
 oC g <|
 .W (a.length=o.length) <|
 V c <|
 V d <|
 V e <|
 V f <|
 V g <|
 Y (ig m n () o c d e f g) λ(v,w,x,h,i,j,k,l) =>
 V h <|
 V i <|
 V j <|
 V k <|
 V l <|
 M (((zG 0 (zH (0+h.length) h)),((zG 0 (zH (0+i.length) i)),(v.1,((zG 0 (zH (0+j.length) j)),((zG 0 (zH (0+k.length) k)),((zG 0 (zH (0+l.length) l)),())))))),(w,x)))))
def yD(a:Switch)(b:q9):T Bool :=
 M (wP a.1 b)
def mK(m:Form)(n:zt)(u:q9)(v:Bool):T (zt×zr×Int) :=
 Y (wh m.1 (λp=>yD p u)) λb =>
 Y (Xm m n) λq =>
 U (!q)
  (M ((([]:List Rat),(([]:List Bool),(([]:List Rat),(([]:List Int),(([]:List qh),(([]:List Bool),())))))),([],1)))
  (U (zA (b<0))
  (M ((([]:List Rat),(([]:List Bool),(([]:List Rat),(([]:List Int),(([]:List qh),(([]:List Bool),())))))),([],5)))
  (Y (lZ n) λ(w,c,a,d,e,f,g)=>let o:=List.set a (0+(zJ b)) v;
 oI b a <|
 .W (uM a.length a.length (0+(zJ b)) a.length) <|
 oC c <|
 .W (zu a.length 0 a.length o.length) <|
 oC d <|
 oC e <|
 oC f <|
 oC g <|
 V c <|
 .W (a.length=o.length) <|
 V d <|
 V e <|
 V f <|
 V g <|
 Y (ig m n () c o d e f g) λ(r,s,t,h,i,j,k,l) =>
 V h <|
 V i <|
 V j <|
 V k <|
 V l <|
 M (((zG 0 (zH (0+h.length) h)),((zG 0 (zH (0+i.length) i)),(r.1,((zG 0 (zH (0+j.length) j)),((zG 0 (zH (0+k.length) k)),((zG 0 (zH (0+l.length) l)),())))))),(s,t))))
def jQ(c:Int)(b:Int)(a:zq):T (Answer×zq) :=
 U (b != 0)
  (M ((b,(([]:List q9),([],()))),a))
  (M (((0:Int),(([]:List q9),([],()))),((a.1.1,(a.1.2.1,(a.1.2.2.1,(a.1.2.2.2.1,(a.1.2.2.2.2.1,(a.1.2.2.2.2.2.1,())))))),((a.2.1.1,(a.2.1.2.1,(a.2.1.2.2.1,(a.2.1.2.2.2.1,(a.2.1.2.2.2.2.1,(a.2.1.2.2.2.2.2.1,())))))),((a.2.2.1.1,(a.2.2.1.2.1,())),(c,(a.2.2.2.2.1,())))))))
def jd(f:Form->zo->Int->T (Int×Bool))(a:zq):T (Answer×zq) :=
 Y (f (a.1.1,(a.1.2.1,(a.1.2.2.1,(a.1.2.2.2.1,(a.1.2.2.2.2.1,(a.1.2.2.2.2.2.1,())))))) a.2.1.2.1 a.2.2.2.1) λ(b,c) =>
 U (!c)
  (M (((13:Int),(([]:List q9),([],()))),a))
  (Y (jQ b 0 a) λ(d,e) =>
 M (d,e))
def eb(a:eY)(b:q9):T Bool :=
 M (wP a.1 b)
def WL(c:Form)(e:zo)(f:q9):T (Int×Int) :=
 Y (j4 c.2.2.1 (λd=>eb d f)) λa =>
 U (zA (a<0))
  (M ((-1),5))
  (Y (kv c e) λb =>
 oI a b <|
 U (!(nth b a (zb .bool)))
  (M ((-1),12))
  (M (a,0)))
def wT(a:zr):T zr :=
 let b:=0+a.length;  .W (a=[]->∀ r,T.leads (.W (vV 0 0 0 0 0 a.length 16) <|
 .W (b=b) <|
 M (zG 0 (zH (0+b) a)):T _) r->T.leads (M []:T _) r) <|
 .W (vV 0 0 0 0 0 a.length 16) <|
 .W (b=b) <|
 M (zG 0 (zH (0+b) a))
def Zl(b:zr)(f:zr)(g:q9):T (zr×zr×q9) :=
 let c:=qj ((b.length:Int)-1);  .W (jf 0 c b.length) <|
 Y (wV (uI (e:=.str) 0 c b)) λd =>
 Y (wV f) λa =>
 oA a 16 <|
 oI c b <|
 V d <|
 .W ((a.length+1)=(a.length+1)) <|
 M ((zG 0 (zH (0+d.length) d)),((zG 0 (zH (0+(a.length+1)) (a++[g]))),(nth b c (zb .str))))
def Zk(a:vC)(g:q9):T (vC×q9×Bool) :=
 U ((a.1.length:Int)==0)
  (Y (wT a.1) λb =>
 Y (wT a.2.1) λc =>
 M ((b,(c,())),([],false)))
  (Y (Zl a.1 a.2.1 g) λ(d,e,f) =>
 M ((d,(e,())),(f,true)))
def uD(a:Bool):T (Unit⊕Unit) :=
 U (!a)
  (M (zE ()))
  (M (zF ()))
def bn(a:gN):T ((q9×gN)⊕(Unit×gN)) :=
 Y (strings_Cut a.1 [10]) λ(b,c,d) =>
 Y (uD d) <|
 zI (λ_ =>
 M (zF (b,(c,()))))
  (λe =>
 M (zE (e,a)))
def wR(h:q9)(i:gN):T ((zr×gN)⊕(Unit×gN)) :=
 Y (bn i) <|
 zI (λ(c,b) =>
 Y (strings_Split c [32]) λa =>
 oI 0 a <|
 Y (uD (wP (nth a 0 (zb .str)) h)) <|
 zI (λ_ =>
 .W (jf 1 (a.length:Int) a.length) <|
 M (zF ((uI (e:=.str) 1 (a.length:Int) a),b)))
  (λd =>
 M (zE (d,b))))
  (λ(f,g) =>
 M (zE (f,g)))
def dw(d:q9):T (Rat⊕Unit) :=
 Y (pH d) λ(a,b) =>
 Y (uD (b==0)) <|
 zI (λ_ =>
 M (zF a))
  (λc =>
 M (zE c))
def gL(d:zr)(f:Int):(Int×zp)->T ((Int×zp)⊕(zp⊕(Unit×zp)))
 | (b,a) =>
 U (zA (b<f))
  (oI b d <|
 Y (dw (nth d b (zb .str))) <|
 zI (λc =>
 oA a 56 <|
 oM (a.length+1) (a++[c]).length <|
 M (zF ((qj (b+1)),(a++[c]))))
  (λe =>
 V a <|
 M (zE (zE (e,a)))))
  (oC a <|
 V a <|
 M (zE (zF a)))
def ik x x1 s:=zK (gL x x1) s
def uT(b:zr)(e:Unit):T (zp⊕Unit) :=
 oZ <|
 Y (ik b (b.length:Int) (0,[])) <|
 zI (λa =>
 oC a <|
 V a <|
 M (zF a))
  (λ(c,d) =>
 M (zE c))
def mM(a:q9):T (Bool⊕Unit) :=
 U (wP a [48])
  (Y (uD true) <|
 zI (λ_ =>
 M (zF (wP a [49])))
  (λb =>
 M (zE b)))
  (Y (uD (wP a [49])) <|
 zI (λ_ =>
 M (zF (wP a [49])))
  (λc =>
 M (zE c)))
def gM(d:zr)(f:Int):(Int×zo)->T ((Int×zo)⊕(zo⊕(Unit×zo)))
 | (b,a) =>
 U (zA (b<f))
  (oI b d <|
 Y (mM (nth d b (zb .str))) <|
 zI (λc =>
 oA a 1 <|
 oM (a.length+1) (a++[c]).length <|
 M (zF ((qj (b+1)),(a++[c]))))
  (λe =>
 V a <|
 M (zE (zE (e,a)))))
  (oC a <|
 V a <|
 M (zE (zF a)))
def il x x1 s:=zK (gM x x1) s
def uU(b:zr)(e:Unit):T (zo⊕Unit) :=
 oZ <|
 Y (il b (b.length:Int) (0,[])) <|
 zI (λa =>
 oC a <|
 V a <|
 M (zF a))
  (λ(c,d) =>
 M (zE c))
def dgV(s:q9):Nat:=s.foldl (λn b=>n*10+(b.toNat-48)) 0
def strconv_Atoi(s:q9):T Int:=.W ((s≠[]/\s.length<=18)/\∀ b∈s,48<=b.toNat/\b.toNat<=57) (M (dgV s:Int))
def mL(a:q9):T (Int⊕Unit) :=
 Y (U (!(wP a []))
  (U (zA ((a.length:Int)<=18))
  (Y (cz a [48,49,50,51,52,53,54,55,56,57]) λb =>
 Y (uD (wP b [])) <|
 zI (λ_ =>
 M (zF ()))
  (λc =>
 M (zE c)))
  (Y (uD false) <|
 zI (λ_ =>
 M (zF ()))
  (λd =>
 M (zE d))))
  (Y (uD false) <|
 zI (λ_ =>
 M (zF ()))
  (λe =>
 M (zE e))):T (Unit⊕Unit)) <|
 zI (λ_ =>
 Y (strconv_Atoi a) λf =>
 Y (uD true) <|
 zI (λ_ =>
 M (zF f))
  (λg =>
 M (zE g)))
  (λh =>
 M (zE h))
def mN(a:q9):T (Int⊕Unit) :=
 U (wP a [45])
  (M (zF (-1)))
  (Y (mL a) <|
 zI (λb =>
 M (zF b))
  (λc =>
 M (zE c)))
def bf(d:zr)(f:Int):(Int×z7)->T ((Int×z7)⊕(z7⊕(Unit×z7)))
 | (b,a) =>
 U (zA (b<f))
  (oI b d <|
 Y (mN (nth d b (zb .str))) <|
 zI (λc =>
 oA a 8 <|
 oM (a.length+1) (a++[c]).length <|
 M (zF ((qj (b+1)),(a++[c]))))
  (λe =>
 V a <|
 M (zE (zE (e,a)))))
  (oC a <|
 V a <|
 M (zE (zF a)))
def lD x x1 s:=zK (bf x x1) s
def kZ(b:zr)(e:Unit):T (z7⊕Unit) :=
 oZ <|
 Y (lD b (b.length:Int) (0,[])) <|
 zI (λa =>
 oC a <|
 V a <|
 M (zF a))
  (λ(c,d) =>
 M (zE c))
def ke(a:q9)(b:q9):T Bool :=
 .W (((zA ((b.length:Int)<=(a.length:Int)))=true)->(jf (qj ((a.length:Int)-(b.length:Int))) (a.length:Int) a.length)) <|
 M ((zA ((b.length:Int)<=(a.length:Int)))&&(wP (fW (qj ((a.length:Int)-(b.length:Int))) (a.length:Int) a) b))
def jZ(a:q9)(b:q9):T (q9×Bool) :=
 Y (ke a b) λc =>
 U (!c)
  (M (a,false))
  (.W (jf 0 (qj ((a.length:Int)-(b.length:Int))) a.length) <|
 M ((fW 0 (qj ((a.length:Int)-(b.length:Int))) a),true))
def strings_CutSuffix(c:q9)(d:q9):T (q9×Bool) :=
 Y (jZ c d) λ(a,b) =>
 M (a,b)
def mO(c:q9):T (qh⊕Unit) :=
 U (wP c [45])
  (Y (gm 0) λa =>
 M (zF (false,(false,((a.1,(a.2.1,(a.2.2.1,()))),())))))
  (Y (strings_CutSuffix c [33]) λ(d,e) =>
 Y (dw d) <|
 zI (λb =>
 M (zF (true,(e,((b.1,(b.2.1,(b.2.2.1,()))),())))))
  (λf =>
 M (zE f)))
def yy(d:zr)(f:Int):(Int×zn)->T ((Int×zn)⊕(zn⊕(Unit×zn)))
 | (b,a) =>
 U (zA (b<f))
  (oI b d <|
 Y (mO (nth d b (zb .str))) <|
 zI (λc =>
 oA a 64 <|
 oM (a.length+1) (a++[c]).length <|
 M (zF ((qj (b+1)),(a++[c]))))
  (λe =>
 V a <|
 M (zE (zE (e,a)))))
  (oC a <|
 V a <|
 M (zE (zF a)))
def eK x x1 s:=zK (yy x x1) s
def jt(b:zr)(e:Unit):T (zn⊕Unit) :=
 oZ <|
 Y (eK b (b.length:Int) (0,[])) <|
 zI (λa =>
 oC a <|
 V a <|
 M (zF a))
  (λ(c,d) =>
 M (zE c))
def ij(a:Int):T Int :=
 U true
  (M a)
  (.fail)
def wH(b:Unit)(a:Int):T Int :=
 U false
  (M a)
  (U true
  (M 2)
  (.fail))
def oT(g:q9):T (Unit×Int×zp×zo×zp×z7×zn×zo) :=
 Y (wR [112,97,114,97,109,115] (g,())) <|
 zI (λ(k,l) =>
 Y (uT k ()) <|
 zI (λa=>let h:=(a,([],([],([],([],[])))));
 Y (wR [111,110] l) <|
 zI (λ(m,n) =>
 Y (uU m ()) <|
 zI (λb=>let i:=(a,(b,([],([],([],[])))));
 Y (wR [118,97,108,115] n) <|
 zI (λ(o,p) =>
 Y (uT o ()) <|
 zI (λc=>let j:=(a,(b,(c,([],([],[])))));
 Y (wR [111,117,116,115] p) <|
 zI (λ(q,r) =>
 Y (kZ q ()) <|
 zI (λd =>
 Y (wR [112,105,110,115] r) <|
 zI (λ(s,t) =>
 Y (jt s ()) <|
 zI (λe =>
 Y (wR [102,105,108,108,101,100] t) <|
 zI (λ(u,aa) =>
 Y (uU u ()) <|
 zI (λf =>
 oW a b c d e f <|
 Y (fA ((zG 0 (zH (0+a.length) a)),((zG 0 (zH (0+b.length) b)),((zG 0 (zH (0+c.length) c)),((zG 0 (zH (0+d.length) d)),((zG 0 (zH (0+e.length) e)),((zG 0 (zH (0+f.length) f)),()))))))) λv =>
 Y (uD (wP v g)) <|
 zI (λ_ =>
 Y (ij 0) λw =>
 oY a b c d e f <|
 M ((),(w,(a,(b,(c,(d,(e,f))))))))
  (λx =>
 Y (wH x 0) λy =>
 oY a b c d e f <|
 M ((),(y,(a,(b,(c,(d,(e,f)))))))))
  (λz =>
 Y (wH z 0) λA =>
 oC a <|
 oC b <|
 oC c <|
 oC d <|
 oC e <|
 .W (zu 0 0 0 0) <|
 V a <|
 V b <|
 V c <|
 V d <|
 V e <|
 .W (0=0) <|
 M ((),(A,(a,(b,(c,(d,(e,[])))))))))
  (λ(B,ab) =>
 Y (wH B 0) λC =>
 oC a <|
 oC b <|
 oC c <|
 oC d <|
 oC e <|
 .W (zu 0 0 0 0) <|
 V a <|
 V b <|
 V c <|
 V d <|
 V e <|
 .W (0=0) <|
 M ((),(C,(a,(b,(c,(d,(e,[])))))))))
  (λD =>
 Y (wH D 0) λκ' =>
 oC a <|
 oC b <|
 oC c <|
 oC d <|
 .W (zu 0 0 0 0) <|
 .W (zu 0 0 0 0) <|
 V a <|
 V b <|
 V c <|
 V d <|
 .W (0=0) <|
 .W (0=0) <|
 M ((),(κ',(a,(b,(c,(d,([],[])))))))))
  (λ(G,ac) =>
 Y (wH G 0) λH =>
 oC a <|
 oC b <|
 oC c <|
 oC d <|
 .W (zu 0 0 0 0) <|
 .W (zu 0 0 0 0) <|
 V a <|
 V b <|
 V c <|
 V d <|
 .W (0=0) <|
 .W (0=0) <|
 M ((),(H,(a,(b,(c,(d,([],[])))))))))
  (λhb =>
 Y (wH hb 0) λhd =>
 oC a <|
 oC b <|
 oC c <|
 .W (zu 0 0 0 0) <|
 .W (zu 0 0 0 0) <|
 .W (zu 0 0 0 0) <|
 V a <|
 V b <|
 V c <|
 .W (0=0) <|
 .W (0=0) <|
 .W (0=0) <|
 M ((),(hd,j))))
  (λ(K,ad) =>
 Y (wH K 0) λL =>
 oC a <|
 oC b <|
 oC c <|
 .W (zu 0 0 0 0) <|
 .W (zu 0 0 0 0) <|
 .W (zu 0 0 0 0) <|
 V a <|
 V b <|
 V c <|
 .W (0=0) <|
 .W (0=0) <|
 .W (0=0) <|
 M ((),(L,j))))
  (λzC =>
 Y (wH zC 0) λhx =>
 oC a <|
 oC b <|
 .W (zu 0 0 0 0) <|
 .W (zu 0 0 0 0) <|
 .W (zu 0 0 0 0) <|
 .W (zu 0 0 0 0) <|
 V a <|
 V b <|
 .W (0=0) <|
 .W (0=0) <|
 .W (0=0) <|
 .W (0=0) <|
 M ((),(hx,i))))
  (λ(κ,ae) =>
 Y (wH κ 0) λP =>
 oC a <|
 oC b <|
 .W (zu 0 0 0 0) <|
 .W (zu 0 0 0 0) <|
 .W (zu 0 0 0 0) <|
 .W (zu 0 0 0 0) <|
 V a <|
 V b <|
 .W (0=0) <|
 .W (0=0) <|
 .W (0=0) <|
 .W (0=0) <|
 M ((),(P,i))))
  (λhl =>
 Y (wH hl 0) λS =>
 oC a <|
 .W (zu 0 0 0 0) <|
 .W (zu 0 0 0 0) <|
 .W (zu 0 0 0 0) <|
 .W (zu 0 0 0 0) <|
 .W (zu 0 0 0 0) <|
 V a <|
 .W (0=0) <|
 .W (0=0) <|
 .W (0=0) <|
 .W (0=0) <|
 .W (0=0) <|
 M ((),(S,h))))
  (λ(zD,af) =>
 Y (wH zD 0) λoE =>
 oC a <|
 .W (zu 0 0 0 0) <|
 .W (zu 0 0 0 0) <|
 .W (zu 0 0 0 0) <|
 .W (zu 0 0 0 0) <|
 .W (zu 0 0 0 0) <|
 V a <|
 .W (0=0) <|
 .W (0=0) <|
 .W (0=0) <|
 .W (0=0) <|
 .W (0=0) <|
 M ((),(oE,h))))
  (λzl =>
 Y (wH zl 0) λh2 =>
 .W (zu 0 0 0 0) <|
 .W (zu 0 0 0 0) <|
 .W (zu 0 0 0 0) <|
 .W (zu 0 0 0 0) <|
 .W (zu 0 0 0 0) <|
 oZ <|
 .W (0=0) <|
 .W (0=0) <|
 .W (0=0) <|
 .W (0=0) <|
 .W (0=0) <|
 M ((),(h2,([],([],([],([],([],[])))))))))
  (λ(zB,ag) =>
 Y (wH zB 0) λz6 =>
 .W (zu 0 0 0 0) <|
 .W (zu 0 0 0 0) <|
 .W (zu 0 0 0 0) <|
 .W (zu 0 0 0 0) <|
 .W (zu 0 0 0 0) <|
 oZ <|
 .W (0=0) <|
 .W (0=0) <|
 .W (0=0) <|
 .W (0=0) <|
 .W (0=0) <|
 M ((),(z6,([],([],([],([],([],[]))))))))
def ta(j:Form)(k:q9):T (zt×Int) :=
 Y (oT k) λ(l,g,a,b,c,d,e,f)=>let h:=((zG 0 (zH (0+a.length) a)),((zG 0 (zH (0+b.length) b)),((zG 0 (zH (0+c.length) c)),((zG 0 (zH (0+d.length) d)),((zG 0 (zH (0+e.length) e)),((zG 0 (zH (0+f.length) f)),()))))));
 U (g != 0)
  (M ((([]:List Rat),(([]:List Bool),(([]:List Rat),(([]:List Int),(([]:List qh),(([]:List Bool),())))))),g))
  (oW a b c d e f <|
 Y (Xm j h) λi =>
 U (!i)
  (M ((([]:List Rat),(([]:List Bool),(([]:List Rat),(([]:List Int),(([]:List qh),(([]:List Bool),())))))),1))
  (oW a b c d e f <|
 M (h,0)))
def uW(j:vC->q9->T (vC×q9×Bool))(a:zq):T (Answer×zq) :=
 let c:=(a.1.1,(a.1.2.1,(a.1.2.2.1,(a.1.2.2.2.1,(a.1.2.2.2.2.1,(a.1.2.2.2.2.2.1,()))))));  Y (fA (a.2.1.1,(a.2.1.2.1,(a.2.1.2.2.1,(a.2.1.2.2.2.1,(a.2.1.2.2.2.2.1,(a.2.1.2.2.2.2.2.1,()))))))) λf =>
 Y (j (a.2.2.1.1,(a.2.2.1.2.1,())) f) λ(d,g,h) =>
 U (!h)
  (M (((13:Int),(([]:List q9),([],()))),a))
  (Y (ta c g) λ(b,e) =>
 U (e != 0)
  (M ((e,(([]:List q9),([],()))),a))
  (Y (Zv c b.2.1 a.2.2.2.1) λi =>
 M (((0:Int),(([]:List q9),([],()))),(c,((b.1,(b.2.1,(b.2.2.1,(b.2.2.2.1,(b.2.2.2.2.1,(b.2.2.2.2.2.1,())))))),((d.1,(d.2.1,())),(i,(a.2.2.2.2.1,()))))))))
def Zj(a:vC)(g:q9):T (vC×q9×Bool) :=
 U ((a.2.1.length:Int)==0)
  (Y (wT a.1) λb =>
 Y (wT a.2.1) λc =>
 M ((b,(c,())),([],false)))
  (Y (Zl a.2.1 a.1 g) λ(d,e,f) =>
 M ((e,(d,())),(f,true)))
def Ut(d:q9)(a:wu)(g:zp):T (Rat×Int) :=
 Y (wI a.1 d) λb =>
 U (zA (0<=b))
  (Y (lP g b) λe =>
 M (e,0))
  (Y (wI a.2.1 d) λc =>
 U (zA (c<0))
  (M ((false,(([]:List Int),(([]:List Int),()))),5))
  (Y (lP a.2.2.1 c) λf =>
 M (f,0)))
def Jn(c:Rat)(d:Rat):T Rat :=
 Y (Qt d) λa =>
 Y (pj c a) λb =>
 M b
def yg(h:AM.Expr->wu->zp->T (Rat×Int))(a:AM.Expr)(d:wu)(e:zp):T (Rat×Int) :=
 U ((Expr.kind a)==1)
  (Y (vN (Expr.num a)) λi =>
 M (i,0))
  (U ((Expr.kind a)==2)
  (Y (Ut (Expr.name a) d e) λ(j,k) =>
 M (j,k))
  (oI 0 (Expr.kids a) <|
 Y (h (nth (Expr.kids a) 0 (zb .expr)) d e) λ(b,f) =>
 U (f != 0)
  (M ((false,(([]:List Int),(([]:List Int),()))),f))
  (U ((Expr.kind a)==7)
  (Y (Qt b) λl =>
 M (l,0))
  (oI 1 (Expr.kids a) <|
 Y (h (nth (Expr.kids a) 1 (zb .expr)) d e) λ(c,g) =>
 U (g != 0)
  (M ((false,(([]:List Int),(([]:List Int),()))),g))
  (U ((Expr.kind a)==3)
  (Y (pj b c) λm =>
 M (m,0))
  (U ((Expr.kind a)==4)
  (Y (Jn b c) λn =>
 M (n,0))
  (U ((Expr.kind a)==5)
  (Y (pn b c) λo =>
 M (o,0))
  (Y (tA b c) λ(p,q) =>
 U (!q)
  (M ((false,(([]:List Int),(([]:List Int),()))),7))
  (M (p,0))))))))))
def ZM(e:AM.Expr)(v:wu)(at_:zp):T (Rat×Int):=T.fix (λF x=>yg (λy0 y1 y2=>F (y0,y1,y2)) x.1 x.2.1 x.2.2) (e,v,at_)
def Z7(a:AM.Expr)(e:wu)(f:zp):T (Rat×Int) :=
 Y (iE a) λb =>
 U (!b)
  (M ((false,(([]:List Int),(([]:List Int),()))),5))
  (Y (ZM a e f) λ(c,d) =>
 M (c,d))
def YE(b:Rat)(c:Rat):T Int :=
 Y (Jn b c) λa =>
 U a.1
  (M (-1))
  (U (zA (0<(a.2.1.length:Int)))
  (M 1)
  (M 0))
def pq(a:Check)(c:wu)(d:zp):T Bool :=
 Y (Z7 a.2.2.2.1 c d) λ(e,f) =>
 Y (Z7 a.2.2.2.2.1 c d) λ(g,h) =>
 U ((f != 0)||(h != 0))
  (M true)
  (Y (YE e g) λb =>
 U (a.2.2.1==0)
  (M (b != 0))
  (U (a.2.2.1==1)
  (M (zA (0<=b)))
  (M (zA (0<b)))))
def l9(i:Form)(d:zt)(f:Int)(j:zo)(k:Int)(l:Int)(g:qu)(h:Int):(Int×wu×zr)->T ((Int×wu×zr)⊕((wu×zr)))
 | (b,e,a)=>let c:=nth g b (zb qy);
 U (zA (b<h))
  (oI b g <|
 .W (((c.2.1==f)=true)->((c.2.2.1=true)->(((zA ((d.2.2.2.2.2.1.length:Int)<=b))=false)->(xf b d.2.2.2.2.2.1.length)))) <|
 U ((c.2.1==f)&&(c.2.2.1&&((zA ((d.2.2.2.2.2.1.length:Int)<=b))||(!(nth d.2.2.2.2.2.1 b (zb .bool))))))
  (oA a 16 <|
 oM (a.length+1) (a++([c.1]:List q9)).length <|
 M (zF ((qj (b+1)),(e,(a++([c.1]:List q9))))))
  (oC a <|
 V a <|
 M (zF ((qj (b+1)),(e,a)))))
  (oC a <|
 V a <|
 M (zE (e,a)))
def iY f2 d2 i x3 x4 x5 x6 x7 s:=zK (l9 f2 d2 i x3 x4 x5 x6 x7) s
def lf(n:Form)(k:zt)(l:Int)(o:zo)(p:Int)(q:Int)(h:qv)(m:Int):(Int×wu×zr)->T ((Int×wu×zr)⊕((wu×zr)))
 | (c,d,a)=>let e:=nth h c (zb xm);
 U (zA (c<m))
  (oI c h <|
 Y (U (e.2.1==l)
  (Y (pq e d k.2.2.1) λi =>
 oC a <|
 V a <|
 M (i,(d,(a,e))))
  (oC a <|
 V a <|
 M (false,(d,(a,e)))):T ((Bool×wu×zr×Check))) λ(j,f,b,g) =>
 U j
  (oA b 16 <|
 oM (b.length+1) (b++([g.1]:List q9)).length <|
 M (zF ((qj (c+1)),(f,(b++([g.1]:List q9))))))
  (oC b <|
 V b <|
 M (zF ((qj (c+1)),(f,b)))))
  (oC a <|
 V a <|
 M (zE (d,a)))
def iZ f3 d3 i1 x9 x10 x11 x12 x13 s:=zK (lf f3 d3 i1 x9 x10 x11 x12 x13) s
def l8(c:Form)(i:zt)(d:zo)(h:Int):(Int×wu×zr)->T ((Int×wu×zr)⊕((wu×zr)))
 | (a,g,b) =>
 U (zA (a<h))
  (oI a d <|
 U (!(nth d a (zb .bool)))
  (oC b <|
 V b <|
 M (zF ((qj (a+1)),(g,b))))
  (oC b <|
 V b <|
 Y (iY c i a d h a c.2.2.2.1 (c.2.2.2.1.length:Int) (0,(g,b))) λ(j,e) =>
 oC e <|
 V e <|
 Y (iZ c i a d h a c.2.2.2.2.2.1 (c.2.2.2.2.2.1.length:Int) (0,(j,e))) λ(k,f) =>
 oC f <|
 V f <|
 M (zF ((qj (a+1)),(k,f)))))
  (oC b <|
 V b <|
 M (zE (g,b)))
def tB f1 d1 x x1 s:=zK (l8 f1 d1 x x1) s
def iX(b:Form)(c:zt):T zr :=
 Y (rB b c.1) λe =>
 Y (kv b c.2.1) λd =>
 oZ <|
 Y (tB b c d (d.length:Int) (0,(e,[]))) λ(f,a) =>
 V a <|
 M (zG 0 (zH (0+a.length) a))
def Qw(g:zt)(d:zo)(h:qu)(m:Int):(Int×qm)->T ((Int×qm)⊕qm)
 | (b,a)=>let c:=nth h b (zb qy);
 U (zA (b<m))
  (oI b h <|
 .W (((zA (c.2.1<(0:Int)))=false)->(((zA ((d.length:Int)<=c.2.1))=false)->(xf c.2.1 d.length))) <|
 U ((zA (c.2.1<(0:Int)))||((zA ((d.length:Int)<=c.2.1))||(!(nth d c.2.1 (zb .bool)))))
  (oC a <|
 V a <|
 M (zF ((qj (b+1)),a)))
  (Y (gm 0) λj =>
 Y (U (zA (b<(g.2.2.1.length:Int)))
  (oI b g.2.2.1 <|
 Y (vN (nth g.2.2.1 b (zb zm))) λk =>
 oC a <|
 V a <|
 M (a,(c,k)))
  (oC a <|
 V a <|
 M (a,(c,j))):T ((qm×Field×Rat))) λ(e,l,f)=>let i:=e++([(l.1,((f.1,(f.2.1,(f.2.2.1,()))),()))]:List Param);
 oA e 72 <|
 oM (e.length+1) i.length <|
 M (zF ((qj (b+1)),i))))
  (oC a <|
 V a <|
 M (zE a))
def Jp d1 on1 x x1 s:=zK (Qw d1 on1 x x1) s
def WQ(b:Form)(c:zt):T qm :=
 Y (kv b c.2.1) λd =>
 oZ <|
 Y (Jp c d b.2.2.2.1 (b.2.2.2.1.length:Int) (0,[])) λa =>
 V a <|
 M (zG 0 (zH (0+a.length) a))
def mz(f:qm)(g:Int):(Int×Unit×z7)->T ((Int×Unit×z7)⊕((Unit×z7)))
 | (c,j,b)=>let a:=nth f c (zb ql);
 U (zA (c<g))
  (oI c f <|
 oK a.1 [32] <|
 Y (gE (a.2.1.1,(a.2.1.2.1,(a.2.1.2.2.1,())))) λd =>
 oK (cat a.1 [32]) d <|
 oK (cat (cat a.1 [32]) d) [10] <|
 oC b <|
 V b <|
 Y (xx (cat (cat (cat a.1 [32]) d) [10]) () b) λ(h,i,e) =>
 oC e <|
 V e <|
 M (zF ((qj (c+1)),((),e))))
  (oC b <|
 V b <|
 M (zE ((),b)))
def Zy x x1 s:=zK (mz x x1) s
def mV(b:qm):T q9 :=
 oZ <|
 Y (Zy b (b.length:Int) (0,((),[]))) λ(d,a) =>
 oC a <|
 V a <|
 Y (pR () a) λ(c,e) =>
 M c
def kU(a:zq):T (Answer×zq) :=
 let b:=(a.1.1,(a.1.2.1,(a.1.2.2.1,(a.1.2.2.2.1,(a.1.2.2.2.2.1,(a.1.2.2.2.2.2.1,())))))); let c:=(a.2.1.1,(a.2.1.2.1,(a.2.1.2.2.1,(a.2.1.2.2.2.1,(a.2.1.2.2.2.2.1,(a.2.1.2.2.2.2.2.1,()))))));  Y (iX b c) λd =>
 U (zA (0<(d.length:Int)))
  (M (((15:Int),(d,([],()))),a))
  (Y (WQ b c) λe =>
 Y (mV e) λf =>
 M (((0:Int),(([]:List q9),(f,()))),(b,(c,((a.2.2.1.1,(a.2.2.1.2.1,())),(a.2.2.2.1,(true,())))))))
def gO(b:Op)(a:zq):T (Answer×zq) :=
 let d:=(a.2.1.1,(a.2.1.2.1,(a.2.1.2.2.1,(a.2.1.2.2.2.1,(a.2.1.2.2.2.2.1,(a.2.1.2.2.2.2.2.1,())))))); let c:=(a.1.1,(a.1.2.1,(a.1.2.2.1,(a.1.2.2.2.1,(a.1.2.2.2.2.1,(a.1.2.2.2.2.2.1,()))))));  U (b.1==1)
  (Y (UC c d b.2.1 b.2.2.1) λ(e,f,g) =>
 Y (vB e f g a) λ(h,i) =>
 M (h,i))
  (U (bif (b.1==2)then(b.1==2)else(b.1==3))
  (Y (ZX c d b.2.1 (b.1==2)) λ(j,k,l) =>
 Y (vB j k l a) λ(m,n) =>
 M (m,n))
  (U (b.1==4)
  (Y (oS c d b.2.1 b.2.2.1) λ(o,p,q) =>
 Y (vB o p q a) λ(r,s) =>
 M (r,s))
  (U (b.1==5)
  (Y (mK c d b.2.1 b.2.2.2.1) λ(t,u,v) =>
 Y (vB t u v a) λ(w,x) =>
 M (w,x))
  (U (b.1==6)
  (Y (jd (λz0 z1 z2=>pM z0 z1 z2) a) λ(y,z) =>
 M (y,z))
  (U (b.1==7)
  (Y (jd (λz0 z1 z2=>pL z0 z1 z2) a) λ(A,B) =>
 M (A,B))
  (U (b.1==8)
  (Y (WL c a.2.1.2.1 b.2.1) λ(C,D) =>
 Y (jQ C D a) λ(κ',G) =>
 M (κ',G))
  (U (b.1==9)
  (Y (uW (λz0 z1=>Zk z0 z1) a) λ(H,hb) =>
 M (H,hb))
  (U (b.1==10)
  (Y (uW (λz0 z1=>Zj z0 z1) a) λ(hd,K) =>
 M (hd,K))
  (U (b.1==11)
  (Y (kU a) λ(L,zC) =>
 M (L,zC))
  (M (((1:Int),(([]:List q9),([],()))),a)))))))))))
def cN(a:zq)(b:Answer)(c:zq):T (zq×Answer×zq) :=
 U false
  (M (a,(((1:Int),(([]:List q9),([],()))),a)))
  (M (a,(b,c)))
def uA(f:Op)(a:zq):T (Answer×zq) :=
 U false
  (M (((1:Int),(([]:List q9),([],()))),a))
  (U a.2.2.2.2.1
  (M (((14:Int),(([]:List q9),([],()))),a))
  (Y (gO f a) λ(b,c) =>
 Y (cN a b c) λ(g,d,e) =>
 M (d,e)))
def cd(e:YL)(g:Int):(Int×zq×ft)->T ((Int×zq×ft)⊕((zq×ft)))
 | (b,d,a) =>
 U (zA (b<g))
  (oI b e <|
 Y (uA (nth e b (zb gU)) d) λ(c,f) =>
 oA a 48 <|
 oM (a.length+1) (a++[c]).length <|
 M (zF ((qj (b+1)),(f,(a++[c])))))
  (oC a <|
 V a <|
 M (zE (d,a)))
def iB x x1 s:=zK (cd x x1) s
def jG(b:YL)(d:zq):T (zq×ft) :=
 oZ <|
 Y (iB b (b.length:Int) (0,(d,[]))) λ(c,a) =>
 oC a <|
 V a <|
 M (c,a)
def nq(a:Op):T Answer :=
 U true
  (M ((1:Int),(([]:List q9),([],()))))
  (.fail)
def eL(d:YL)(e:Int):(Int×ft)->T ((Int×ft)⊕ft)
 | (b,a) =>
 U (zA (b<e))
  (oI b d <|
 Y (nq (nth d b (zb gU))) λc =>
 oA a 48 <|
 oM (a.length+1) (a++[c]).length <|
 M (zF ((qj (b+1)),(a++[c]))))
  (oC a <|
 V a <|
 M (zE a))
def tR x x1 s:=zK (eL x x1) s
def gi(b:YL):T ft :=
 oZ <|
 Y (tR b (b.length:Int) (0,[])) λa =>
 oC a <|
 V a <|
 M a
def yz  : T Bool :=
 Y (iC (([]:List Switch),(([]:List Param),(([([112],([],()))]:List eY),(([([97],((0:Int),(false,((0:Int),()))))]:List Field),(([]:List eC),(([]:List Check),()))))))) <|
 zI (λ(f,c,d) =>
 U ((c != 0)||false)
  (M false)
  (Y (jG ([((1:Int),([97],((false,(([1]:List Int),(([2]:List Int),()))),(false,())))),((9:Int),([],((false,(([]:List Int),(([]:List Int),()))),(false,())))),((9:Int),([],((false,(([]:List Int),(([]:List Int),()))),(false,()))))]:List Op) d) λ(g,a) =>
 .W ((((a.length:Int)==3)=true)->((xf 0 a.length)/\((uM a.length a.length (0+(zJ 0)) a.length)/\((((wm a (0+(zJ 0)) (zb wG)).1==0)=true)->((xf 1 a.length)/\((uM a.length a.length (0+(zJ 1)) a.length)/\((((wm a (0+(zJ 1)) (zb wG)).1==0)=true)->((xf 2 a.length)/\(uM a.length a.length (0+(zJ 2)) a.length))))))))) <|
 M (((a.length:Int)==3)&&(((wm a (0+(zJ 0)) (zb wG)).1==0)&&(((wm a (0+(zJ 1)) (zb wG)).1==0)&&((wm a (0+(zJ 2)) (zb wG)).1==13))))))
  (λ(h,e) =>
 U ((e != 0)||true)
  (M false)
  (Y (gi ([((1:Int),([97],((false,(([1]:List Int),(([2]:List Int),()))),(false,())))),((9:Int),([],((false,(([]:List Int),(([]:List Int),()))),(false,())))),((9:Int),([],((false,(([]:List Int),(([]:List Int),()))),(false,()))))]:List Op)) λb =>
 .W ((((b.length:Int)==3)=true)->((xf 0 b.length)/\((uM b.length b.length (0+(zJ 0)) b.length)/\((((wm b (0+(zJ 0)) (zb wG)).1==0)=true)->((xf 1 b.length)/\((uM b.length b.length (0+(zJ 1)) b.length)/\((((wm b (0+(zJ 1)) (zb wG)).1==0)=true)->((xf 2 b.length)/\(uM b.length b.length (0+(zJ 2)) b.length))))))))) <|
 M (((b.length:Int)==3)&&(((wm b (0+(zJ 0)) (zb wG)).1==0)&&(((wm b (0+(zJ 1)) (zb wG)).1==0)&&((wm b (0+(zJ 2)) (zb wG)).1==13))))))
def eS(e:AM.Expr->Int->T Int)(c:AM.Expr):(Int×Int)->T ((Int×Int)⊕Int)
 | (b,a) =>
 U ((zA (a<((Expr.kids c).length:Int)))&&(zA (0<=b)))
  (oI a (Expr.kids c) <|
 Y (e (nth (Expr.kids c) a (zb .expr)) b) λd =>
 M (zF (d,(qj (a+1)))))
  (M (zE b))
def oh self_law22_weight e1 s:=zK (eS self_law22_weight e1) s
def dE(c:AM.Expr->Int->T Int)(a:AM.Expr)(d:Int):T Int :=
 Y (oh c a ((qj ((qj ((qj ((qj (d-3))-((Expr.name a).length:Int)))-(qj (8*(zN (zL (Expr.num a).2.1):Int)))))-(qj (8*(zN (zL (Expr.num a).2.2.1):Int))))),0)) λb =>
 M b
def cm(e:AM.Expr)(left:Int):T Int:=T.fix (λF x=>dE (λy0 y1=>F (y0,y1)) x.1 x.2) (e,left)
def rM(b:Form):(Int×Int)->T ((Int×Int)⊕Int)
 | (c,a) =>
 U ((zA (a<(b.2.1.length:Int)))&&(zA (0<=c)))
  (oI a b.2.1 <|
 oI a b.2.1 <|
 oI a b.2.1 <|
 M (zF ((qj ((qj ((qj (c-(qj (8*(zN (zL (nth b.2.1 a (zb ql)).2.1.2.1):Int)))))-(qj (8*(zN (zL (nth b.2.1 a (zb ql)).2.1.2.2.1):Int)))))-(zN (zL (nth b.2.1 a (zb ql)).1):Int))),(qj (a+1)))))
  (M (zE c))
def GB f1 s:=zK (rM f1) s
def rN(c:Form):(Int×Int)->T ((Int×Int)⊕Int)
 | (b,a) =>
 U ((zA (a<(c.1.length:Int)))&&(zA (0<=b)))
  (oI a c.1 <|
 M (zF ((qj (b-(zN (zL (nth c.1 a (zb qw)).1):Int))),(qj (a+1)))))
  (M (zE b))
def GC f2 s:=zK (rN f2) s
def rO(b:Form):(Int×Int)->T ((Int×Int)⊕Int)
 | (c,a) =>
 U ((zA (a<(b.2.2.1.length:Int)))&&(zA (0<=c)))
  (oI a b.2.2.1 <|
 oI a b.2.2.1 <|
 M (zF ((qj ((qj (c-(zN (zL (nth b.2.2.1 a (zb xy)).1):Int)))-(zN (zL (nth b.2.2.1 a (zb xy)).2.1):Int))),(qj (a+1)))))
  (M (zE c))
def GD f3 s:=zK (rO f3) s
def rP(c:Form):(Int×Int)->T ((Int×Int)⊕Int)
 | (b,a) =>
 U ((zA (a<(c.2.2.2.1.length:Int)))&&(zA (0<=b)))
  (oI a c.2.2.2.1 <|
 M (zF ((qj (b-(zN (zL (nth c.2.2.2.1 a (zb qy)).1):Int))),(qj (a+1)))))
  (M (zE b))
def GF f4 s:=zK (rP f4) s
def rQ(b:Form):(Int×Int)->T ((Int×Int)⊕Int)
 | (d,a)=>let c:=nth b.2.2.2.2.1 a (zb xp);
 U ((zA (a<(b.2.2.2.2.1.length:Int)))&&(zA (0<=d)))
  (oI a b.2.2.2.2.1 <|
 oI a b.2.2.2.2.1 <|
 oI a b.2.2.2.2.1 <|
 oI a b.2.2.2.2.1 <|
 Y (cm c.2.2.2.1 (qj ((qj (d-(c.1.length:Int)))-(c.2.2.1.length:Int)))) λe =>
 Y (cm c.2.2.2.2.1 e) λf =>
 M (zF (f,(qj (a+1)))))
  (M (zE d))
def GG f5 s:=zK (rQ f5) s
def rR(b:Form):(Int×Int)->T ((Int×Int)⊕Int)
 | (c,a)=>let d:=nth b.2.2.2.2.2.1 a (zb xm);
 U ((zA (a<(b.2.2.2.2.2.1.length:Int)))&&(zA (0<=c)))
  (oI a b.2.2.2.2.2.1 <|
 oI a b.2.2.2.2.2.1 <|
 oI a b.2.2.2.2.2.1 <|
 Y (cm d.2.2.2.1 (qj (c-(d.1.length:Int)))) λe =>
 Y (cm d.2.2.2.2.1 e) λf =>
 M (zF (f,(qj (a+1)))))
  (M (zE c))
def GH f6 s:=zK (rR f6) s
def tn(a:Form):T Bool :=
 Y (GB a ((qj (600-(qj (20*(qj ((qj ((qj ((qj ((qj ((a.1.length:Int)+(a.2.1.length:Int)))+(a.2.2.1.length:Int)))+(a.2.2.2.1.length:Int)))+(a.2.2.2.2.1.length:Int)))+(a.2.2.2.2.2.1.length:Int))))))),0)) λb =>
 Y (GC a (b,0)) λc =>
 Y (GD a (c,0)) λd =>
 Y (GF a (d,0)) λe =>
 Y (GG a (e,0)) λf =>
 Y (GH a (f,0)) λg =>
 M (zA (g<0))
def tT(b:YL):Int->T (Int⊕(Unit⊕Bool))
 | a=>let c:=nth b a (zb gU);
 U ((zA (a<(b.length:Int)))&&(zA (a<25)))
  (.W ((xf a b.length)/\(((zA (60<(c.2.1.length:Int)))=false)->((xf a b.length)/\(((zA (3<(c.2.2.1.2.1.length:Int)))=false)->(xf a b.length))))) <|
 U ((zA (60<(c.2.1.length:Int)))||((zA (3<(c.2.2.1.2.1.length:Int)))||(zA (3<(c.2.2.1.2.2.1.length:Int)))))
  (M (zE (zE true)))
  (M (zF (qj (a+1)))))
  (M (zE (zF ())))
def Ve l1 s:=zK (tT l1) s
def Qb(b:YL):T Bool :=
 Y (Ve b 0) <|
 zI (λ_ =>
 M false)
  (λa =>
 M a)
def Db(a:zt):T zt :=
 Y (ua a.1) λb =>
 Y (vT a.2.1) λc =>
 Y (ua a.2.2.1) λd =>
 Y (ub a.2.2.2.1) λe =>
 Y (uJ a.2.2.2.2.1) λf =>
 Y (vT a.2.2.2.2.2.1) λg =>
 oW b c d e f g <|
 M ((zG 0 (zH (0+b.length) b)),((zG 0 (zH (0+c.length) c)),((zG 0 (zH (0+d.length) d)),((zG 0 (zH (0+e.length) e)),((zG 0 (zH (0+f.length) f)),((zG 0 (zH (0+g.length) g)),()))))))
def ya(a:zq):T (zt×zq) :=
 U false
  (M ((([]:List Rat),(([]:List Bool),(([]:List Rat),(([]:List Int),(([]:List qh),(([]:List Bool),())))))),a))
  (Y (Db (a.2.1.1,(a.2.1.2.1,(a.2.1.2.2.1,(a.2.1.2.2.2.1,(a.2.1.2.2.2.2.1,(a.2.1.2.2.2.2.2.1,()))))))) λb =>
 M (b,a))
def rS(f:zt):(Int×(zp×zo×zp×z7×zo×Unit)×(zp×zo×zp×z7×zo×Unit)×zn×zn)->T ((Int×(zp×zo×zp×z7×zo×Unit)×(zp×zo×zp×z7×zo×Unit)×zn×zn)⊕(((zp×zo×zp×z7×zo×Unit)×(zp×zo×zp×z7×zo×Unit)×zn×zn)))
 | (e,a,b,d,c)=>let g:=c++([(nth f.2.2.2.2.1 e (zb zk))]:List qh);
 U (zA (e<(f.2.2.2.2.1.length:Int)))
  (oI e f.2.2.2.2.1 <|
 oA c 64 <|
 oC d <|
 .W (zu (c.length+1) 0 (c.length+1) g.length) <|
 V d <|
 .W ((c.length+1)=g.length) <|
 M (zF ((qj (e+1)),((a.1,(a.2.1,(a.2.2.1,(a.2.2.2.1,(a.2.2.2.2.1,()))))),((b.1,(b.2.1,(b.2.2.1,(b.2.2.2.1,(b.2.2.2.2.1,()))))),(d,g))))))
  (oC d <|
 oC c <|
 V d <|
 V c <|
 M (zE ((a.1,(a.2.1,(a.2.2.1,(a.2.2.2.1,(a.2.2.2.2.1,()))))),((b.1,(b.2.1,(b.2.2.1,(b.2.2.2.1,(b.2.2.2.2.1,()))))),(d,c)))))
def XF d1 s:=zK (rS d1) s
def dD(a:zt):T zt :=
 .W (zu 0 0 0 0) <|
 oZ <|
 .W (0=0) <|
 Y (XF a (0,(([],([],([],([],([],()))))),((a.1,(a.2.1,(a.2.2.1,(a.2.2.2.1,(a.2.2.2.2.2.1,()))))),([],[]))))) λ(d,b,e,c) =>
 V c <|
 M (b.1,(b.2.1,(b.2.2.1,(b.2.2.2.1,((zG 0 (zH (0+c.length) c)),(b.2.2.2.2.1,()))))))
def kE(a:zq):T (Unit×zq×zr×zr) :=
 let c:=0+a.2.2.1.1.length; let b:=0+a.2.2.1.2.1.length;  U false
  (.W (zu 0 0 0 0) <|
 oZ <|
 .W (0=0) <|
 M ((),(a,([],[]))))
  (U (zQ a.2.2.1.1)
  (U (zQ a.2.2.1.2.1)
  (.W (zu 0 0 0 0) <|
 oZ <|
 .W (0=0) <|
 M ((),(a,([],[]))))
  (.W ((b*16)<=140737488355328) <|
 .W (zu 0 0 0 0) <|
 .W (zu b 0 b a.2.2.1.2.1.length) <|
 .W (0=0) <|
 .W (b=a.2.2.1.2.1.length) <|
 M ((),(a,([],a.2.2.1.2.1)))))
  (.W ((c*16)<=140737488355328) <|
 U (zQ a.2.2.1.2.1)
  (.W (zu c 0 c a.2.2.1.1.length) <|
 .W (zu 0 0 0 0) <|
 .W (c=a.2.2.1.1.length) <|
 .W (0=0) <|
 M ((),(a,(a.2.2.1.1,[]))))
  (.W ((b*16)<=140737488355328) <|
 .W (zu c 0 c a.2.2.1.1.length) <|
 .W (zu b 0 b a.2.2.1.2.1.length) <|
 .W (c=a.2.2.1.1.length) <|
 .W (b=a.2.2.1.2.1.length) <|
 M ((),(a,(a.2.2.1.1,a.2.2.1.2.1))))))
def Qy(b:z7):Int->T (Int⊕Int)
 | a =>
 .W (((zA (0<a))=true)->(xf (qj (a-1)) b.length)) <|
 U ((zA (0<a))&&((nth b (qj (a-1)) (zb (.int .u32)))==0))
  (M (zF (qj (a-1))))
  (M (zE a))
def Ju a1 s:=zK (Qy a1) s
def ui(a:z7):T z7 :=
 Y (Ju a (a.length:Int)) λb =>
 .W (jf 0 b a.length) <|
 .W (vV 0 0 0 0 0 (uI (e:=(.int .u32)) 0 b a).length 4) <|
 .W ((0+(uI (e:=(.int .u32)) 0 b a).length)=(0+(uI (e:=(.int .u32)) 0 b a).length)) <|
 M (zG 0 (zH (0+(0+(uI (e:=(.int .u32)) 0 b a).length)) (uI (e:=(.int .u32)) 0 b a)))
def U6(c:z7):(Int×Int)->T ((Int×Int)⊕Int)
 | (b,a) =>
 U (zA (0<=a))
  (.W (0<=(32:Int)) <|
 oI a c <|
 M (zF ((Um .u64 (fS .u64 b 32) (xr (nth c a (zb (.int .u32))))),(qj (a-1)))))
  (M (zE b))
def Hi t1 s:=zK (U6 t1) s
def Jt(c:z7):T (Int×Bool) :=
 Y (ui c) λa =>
 U (zA (2<(a.length:Int)))
  (M (0,false))
  (Y (Hi a (0,(qj ((a.length:Int)-1)))) λb =>
 M (b,true))
def WR(a:Int):T z7 :=
 .W (0<=(32:Int)) <|
 Y (ui ([(jT a),(jT (j8 .u64 a 32))]:List Int)) λb =>
 M b
def tW(e:z7)(c:Int):(Int×Int×z7)->T ((Int×Int×z7)⊕((Int×z7)))
 | (d,b,a)=>let f:=List.set a (0+(zJ b)) (jT (xr (zP (Um .u64 (fS .u64 d 32) (xr (nth e b (zb (.int .u32))))) c)));
 U (zA (0<=b))
  (.W (0<=(32:Int)) <|
 oI b e <|
 .W (c≠0) <|
 oI b a <|
 .W (uM a.length a.length (0+(zJ b)) a.length) <|
 .W (c≠0) <|
 oM a.length f.length <|
 M (zF ((zO (Um .u64 (fS .u64 d 32) (xr (nth e b (zb (.int .u32))))) c),((qj (b-1)),f))))
  (oC a <|
 V a <|
 M (zE (d,a)))
def Vp a1 by_1 s:=zK (tW a1 by_1) s
def Qz(a:z7)(e:Int):T (z7×Int) :=
 .W (dH (a.length:Int) (a.length:Int) 4) <|
 oM (zJ (a.length:Int)) (zM (zJ (a.length:Int)) (0:Int)).length <|
 Y (Vp a e (0,((qj ((a.length:Int)-1)),(zM (zJ (a.length:Int)) 0)))) λ(c,b) =>
 V b <|
 Y (ui (zG 0 (zH (0+b.length) b))) λd =>
 M (d,c)
def nc(a:z7)(b:Int):T Int :=
 U (zA (b<(a.length:Int)))
  (oI b a <|
 M (xr (nth a b (zb (.int .u32)))))
  (M 0)
def Vo(c:z7)(d:Int):(Int×z7)->T ((Int×z7)⊕z7)
 | (b,a) =>
 U (zA (b<(c.length:Int)))
  (Y (nc c b) λf =>
 Y (nc c (qj (b+1))) λg=>let e:=a++([(jT (j8 .u64 (Um .u64 f (fS .u64 g 32)) d))]:List Int);
 .W (0<=(32:Int)) <|
 .W (0<=d) <|
 oA a 4 <|
 oM (a.length+1) e.length <|
 M (zF ((qj (b+1)),e)))
  (oC a <|
 V a <|
 M (zE a))
def Bj t1 by_ s:=zK (Vo t1 by_) s
def tV(f:z7)(b:Int):(Int×Int×z7)->T ((Int×Int×z7)⊕z7)
 | (e,d,a) =>
 U (zA (d<(qj ((f.length:Int)+1))))
  (Y (nc f d) λc =>
 .W (0<=b) <|
 oA a 4 <|
 .W (0<=(32:Int)) <|
 oM (a.length+1) (a++([(jT (Um .u64 (fS .u64 c b) e))]:List Int)).length <|
 M (zF ((j8 .u64 (fS .u64 c b) 32),((qj (d+1)),(a++([(jT (Um .u64 (fS .u64 c b) e))]:List Int))))))
  (oC a <|
 V a <|
 M (zE a))
def Vn t2 by_1 s:=zK (tV t2 by_1) s
def Qx(j:z7)(k:Int):T z7 :=
 let b:=rV (dZ k (-4096)) 4096; let g:=qj (zP (qj (0-b)) (32:Int)); let c:=qj (zP b (32:Int));  Y (ui j) λa =>
 U (zA (b<0))
  (.W (32≠(0:Int)) <|
 U (zA ((a.length:Int)<=g))
  (M [])
  (.W (jf g (a.length:Int) a.length) <|
 .W (32≠(0:Int)) <|
 oZ <|
 Y (Bj (uI (e:=(.int .u32)) g (a.length:Int) a) (xr (zO (qj (0-b)) (32:Int))) (0,[])) λd =>
 V d <|
 Y (ui (zG 0 (zH (0+d.length) d))) λh =>
 M h))
  (.W (32≠(0:Int)) <|
 .W (dH c c 4) <|
 .W (32≠(0:Int)) <|
 oM (zJ c) (zM (zJ c) (0:Int)).length <|
 Y (Vn a (xr (zO b (32:Int))) (0,(0,(zM (zJ c) 0)))) λf =>
 V f <|
 Y (ui (zG 0 (zH (0+f.length) f))) λi =>
 M i)
def XX(f:z7)(g:z7):(Int×Int×z7)->T ((Int×Int×z7)⊕z7)
 | (e,b,a) =>
 U (zA (b<(qj ((dZ (f.length:Int) (g.length:Int))+1))))
  (Y (nc f b) λc =>
 Y (nc g b) λd =>
 oA a 4 <|
 .W (0<=(32:Int)) <|
 oM (a.length+1) (a++([(jT (xr ((xr (e+c))+d)))]:List Int)).length <|
 M (zF ((j8 .u64 (xr ((xr (e+c))+d)) 32),((qj (b+1)),(a++([(jT (xr ((xr (e+c))+d)))]:List Int))))))
  (oC a <|
 V a <|
 M (zE a))
def KW a1 b1 s:=zK (XX a1 b1) s
def Jq(c:z7)(d:z7):T z7 :=
 oZ <|
 Y (KW c d (0,(0,[]))) λa =>
 V a <|
 Y (ui (zG 0 (zH (0+a.length) a))) λb =>
 M b
def nJ(b:z7)(c:z7):Int->T (Int⊕(Unit⊕Int))
 | a =>
 U (zA (0<=a))
  (oI a b <|
 oI a c <|
 U (zA ((nth b a (zb (.int .u32)))<(nth c a (zb (.int .u32)))))
  (M (zE (zE (-1))))
  (oI a b <|
 oI a c <|
 U (zA ((nth c a (zb (.int .u32)))<(nth b a (zb (.int .u32)))))
  (M (zE (zE 1)))
  (M (zF (qj (a-1))))))
  (M (zE (zF ())))
def Iz x1 y1 s:=zK (nJ x1 y1) s
def XY(d:z7)(e:z7):T Int :=
 Y (ui d) λa =>
 Y (ui e) λb =>
 U ((a.length:Int) != (b.length:Int))
  (U (zA ((a.length:Int)<(b.length:Int)))
  (M (-1))
  (M 1))
  (Y (Iz a b (qj ((a.length:Int)-1))) <|
 zI (λ_ =>
 M 0)
  (λc =>
 M c))
def W5(f:z7)(h:z7):(Int×Int×z7)->T ((Int×Int×z7)⊕z7)
 | (e,c,a) =>
 U (zA (c<(f.length:Int)))
  (Y (nc f c) λb =>
 Y (nc h c) λd=>let g:=a++([(jT (xr ((bif (zA (b<(xr (d+e))))then(xr (b+4294967296))else b)-(xr (d+e)))))]:List Int);
 oA a 4 <|
 oM (a.length+1) g.length <|
 M (zF ((bif (zA (b<(xr (d+e))))then 1 else 0),((qj (c+1)),g))))
  (oC a <|
 V a <|
 M (zE a))
def KY a1 b1 s:=zK (W5 a1 b1) s
def Js(b:z7)(c:z7):T (z7×Bool) :=
 Y (XY b c) λd =>
 U (zA (d<0))
  (M ([],false))
  (oZ <|
 Y (KY b c (0,(0,[]))) λa =>
 V a <|
 Y (ui (zG 0 (zH (0+a.length) a))) λe =>
 M (e,true))
def se(i:z7)(j:z7):(z7×Int×z7)->T ((z7×Int×z7)⊕((z7×z7)))
 | (h,c,b)=>let d:=qj (zP c (32:Int)); let e:=0+(zJ d);
 U (zA (0<=c))
  (Y (Qx h 1) λg =>
 Y (.W (32≠(0:Int)) <|
 oI d i <|
 .W (32≠(0:Int)) <|
 .W (0<=(xr (zO c (32:Int)))) <|
 U ((YR .u32 (j8 .u32 (nth i d (zb (.int .u32))) (xr (zO c (32:Int)))) 1)==1)
  (Y (Jq g ([1]:List Int)) λl =>
 oC b <|
 V b <|
 M (l,b))
  (oC b <|
 V b <|
 M (g,b)):T ((z7×z7))) λ(f,a)=>let k:=List.set a e (Um .u32 (wm a e (zb (.int .u32))) (fS .u32 1 (xr (zO c (32:Int)))));
 Y (XY f j) λm =>
 U (zA (0<=m))
  (Y (Js f j) λ(n,o) =>
 .W (32≠(0:Int)) <|
 .W (32≠(0:Int)) <|
 oI d a <|
 .W (uM a.length a.length e a.length) <|
 .W (32≠(0:Int)) <|
 .W (0<=(xr (zO c (32:Int)))) <|
 oI d a <|
 .W (uM a.length a.length e a.length) <|
 oM a.length k.length <|
 M (zF (n,((qj (c-1)),k))))
  (oC a <|
 V a <|
 M (zF (f,((qj (c-1)),a)))))
  (oC b <|
 V b <|
 M (zE (h,b)))
def XZ a1 b1 s:=zK (se a1 b1) s
def fO(a:z7)(d:z7):T (z7×z7×Bool) :=
 Y (ui d) λg =>
 U ((g.length:Int)==0)
  (M ([],([],false)))
  (Y (Jt a) λ(e,h) =>
 Y (Jt d) λ(b,f) =>
 U (h&&f)
  (.W (b≠0) <|
 Y (WR (xr (zP e b))) λi =>
 .W (b≠0) <|
 Y (WR (zO e b)) λj =>
 M (i,(j,true)))
  (U (f&&(zA (b<4294967296)))
  (Y (Qz a b) λ(k,l) =>
 Y (WR l) λm =>
 M (k,(m,true)))
  (.W (dH (a.length:Int) (a.length:Int) 4) <|
 oM (zJ (a.length:Int)) (zM (zJ (a.length:Int)) (0:Int)).length <|
 Y (XZ a d ([],((qj ((qj (32*(a.length:Int)))-1)),(zM (zJ (a.length:Int)) 0)))) λ(n,c) =>
 V c <|
 Y (ui (zG 0 (zH (0+c.length) c))) λo =>
 Y (ui n) λp =>
 M (o,(p,true)))))
def W4  : (z7×z7)->T ((z7×z7)⊕z7)
 | (b,a) =>
 U (zA (0<(a.length:Int)))
  (Y (fO b a) λ(d,c,e) =>
 M (zF (a,c)))
  (M (zE b))
def KX(s:(z7×z7)):T z7:=zK (W4 ) s
def Jr(d:z7)(e:z7):T z7 :=
 Y (ui d) λa =>
 Y (ui e) λb =>
 Y (KX  (a,b)) λc =>
 M c
def pN(c:Rat):T Rat :=
 Y (ui c.2.1) λa =>
 Y (ui c.2.2.1) λb =>
 U (((b.length:Int)==0)||((a.length:Int)==0))
  (M (false,(([]:List Int),(([1]:List Int),()))))
  (Y (Jr a b) λd =>
 Y (fO a d) λ(e,g,h) =>
 Y (fO b d) λ(f,i,j) =>
 M (c.1,(e,(f,()))))
def tX(b:z7)(c:z7):Int->T (Int⊕(Unit⊕Bool))
 | a =>
 U (zA (a<(b.length:Int)))
  (oI a b <|
 oI a c <|
 U ((nth b a (zb (.int .u32))) != (nth c a (zb (.int .u32))))
  (M (zE (zE false)))
  (M (zF (qj (a+1)))))
  (M (zE (zF ())))
def Vq a1 b1 s:=zK (tX a1 b1) s
def si(a:z7)(b:z7):T Bool :=
 U ((a.length:Int) != (b.length:Int))
  (M false)
  (Y (Vq a b 0) <|
 zI (λ_ =>
 M true)
  (λc =>
 M c))
def ZA(e:Rat)(f:Rat):T Bool :=
 Y (pN e) λa =>
 Y (pN f) λb =>
 U (a.1==b.1)
  (Y (si a.2.1 b.2.1) λc =>
 U c
  (Y (si a.2.2.1 b.2.2.1) λd =>
 M d)
  (M false))
  (M false)
def QA(b:zp)(c:zp):Int->T (Int⊕(Unit⊕Bool))
 | a =>
 U (zA (a<(b.length:Int)))
  (oI a b <|
 oI a c <|
 Y (ZA (nth b a (zb zm)) (nth c a (zb zm))) λd =>
 U (!d)
  (M (zE (zE false)))
  (M (zF (qj (a+1)))))
  (M (zE (zF ())))
def Jv a1 b1 s:=zK (QA a1 b1) s
def Zz(a:zp)(b:zp):T Bool :=
 U ((a.length:Int) != (b.length:Int))
  (M false)
  (Y (Jv a b 0) <|
 zI (λ_ =>
 M true)
  (λc =>
 M c))
def mW(b:zt)(c:zt):Int->T (Int⊕(Unit⊕Bool))
 | a =>
 U (zA (a<(b.2.1.length:Int)))
  (oI a b.2.1 <|
 oI a c.2.1 <|
 U (!((nth b.2.1 a (zb .bool))==(nth c.2.1 a (zb .bool))))
  (M (zE (zE false)))
  (M (zF (qj (a+1)))))
  (M (zE (zF ())))
def Vj a1 b1 s:=zK (mW a1 b1) s
def mX(b:zt)(c:zt):Int->T (Int⊕(Unit⊕Bool))
 | a =>
 U (zA (a<(b.2.2.2.1.length:Int)))
  (oI a b.2.2.2.1 <|
 oI a c.2.2.2.1 <|
 U ((nth b.2.2.2.1 a (zb (.int .i64))) != (nth c.2.2.2.1 a (zb (.int .i64))))
  (M (zE (zE false)))
  (M (zF (qj (a+1)))))
  (M (zE (zF ())))
def Vk a2 b2 s:=zK (mX a2 b2) s
def mY(b:zt)(c:zt):Int->T (Int⊕(Unit⊕Bool))
 | a=>let d:=nth c.2.2.2.2.1 a (zb zk); let e:=nth b.2.2.2.2.1 a (zb zk);
 U (zA (a<(b.2.2.2.2.1.length:Int)))
  (Y (oI a b.2.2.2.2.1 <|
 oI a c.2.2.2.2.1 <|
 U (!(e.1==d.1))
  (M true)
  (oI a b.2.2.2.2.1 <|
 oI a c.2.2.2.2.1 <|
 U (!(e.2.1==d.2.1))
  (M true)
  (oI a b.2.2.2.2.1 <|
 oI a c.2.2.2.2.1 <|
 Y (ZA e.2.2.1 d.2.2.1) λf =>
 M (!f))):T Bool) λg =>
 U g
  (M (zE (zE false)))
  (M (zF (qj (a+1)))))
  (M (zE (zF ())))
def Vl a3 b3 s:=zK (mY a3 b3) s
def mZ(b:zt)(c:zt):Int->T (Int⊕(Unit⊕Bool))
 | a =>
 U (zA (a<(b.2.2.2.2.2.1.length:Int)))
  (oI a b.2.2.2.2.2.1 <|
 oI a c.2.2.2.2.2.1 <|
 U (!((nth b.2.2.2.2.2.1 a (zb .bool))==(nth c.2.2.2.2.2.1 a (zb .bool))))
  (M (zE (zE false)))
  (M (zF (qj (a+1)))))
  (M (zE (zF ())))
def Vm a4 b4 s:=zK (mZ a4 b4) s
def sb(a:zt)(b:zt):T Bool :=
 Y (Y (Zz a.1 b.1) λc =>
 U (!c)
  (M true)
  (Y (Zz a.2.2.1 b.2.2.1) λd =>
 U (!d)
  (M true)
  (U ((a.2.1.length:Int) != (b.2.1.length:Int))
  (M true)
  (U ((a.2.2.2.1.length:Int) != (b.2.2.2.1.length:Int))
  (M true)
  (U ((a.2.2.2.2.1.length:Int) != (b.2.2.2.2.1.length:Int))
  (M true)
  (M ((a.2.2.2.2.2.1.length:Int) != (b.2.2.2.2.2.1.length:Int))))))):T Bool) λe =>
 U e
  (M false)
  (Y (Vj a b 0) <|
 zI (λ_ =>
 Y (Vk a b 0) <|
 zI (λ_ =>
 Y (Vl a b 0) <|
 zI (λ_ =>
 Y (Vm a b 0) <|
 zI (λ_ =>
 M true)
  (λf =>
 M f))
  (λg =>
 M g))
  (λh =>
 M h))
  (λi =>
 M i))
def sd(b:zr)(c:zr):Int->T (Int⊕(Unit⊕Bool))
 | a =>
 U (zA (a<(b.length:Int)))
  (oI a b <|
 oI a c <|
 U (!(wP (nth b a (zb .str)) (nth c a (zb .str))))
  (M (zE (zE false)))
  (M (zF (qj (a+1)))))
  (M (zE (zF ())))
def XW a1 b1 s:=zK (sd a1 b1) s
def nI(a:zr)(b:zr):T Bool :=
 U ((a.length:Int) != (b.length:Int))
  (M false)
  (Y (XW a b 0) <|
 zI (λ_ =>
 M true)
  (λc =>
 M c))
def sc(a:vC)(b:vC):T Bool :=
 Y (nI a.1 b.1) λc =>
 U c
  (Y (nI a.2.1 b.2.1) λd =>
 M d)
  (M false)
def cO  : T zt :=
 U true
  (M (([]:List Rat),(([]:List Bool),(([]:List Rat),(([]:List Int),(([]:List qh),(([]:List Bool),())))))))
  (.fail)
def ca  : T vC :=
 U true
  (M (([]:List q9),(([]:List q9),())))
  (.fail)
def bG(g:Form)(a:YL)(h:q9):T Bool :=
 let i:=([((6:Int),([],((false,(([]:List Int),(([]:List Int),()))),(false,())))),((7:Int),([],((false,(([]:List Int),(([]:List Int),()))),(false,())))),((8:Int),(h,((false,(([]:List Int),(([]:List Int),()))),(false,())))),((7:Int),([],((false,(([]:List Int),(([]:List Int),()))),(false,()))))]:List Op);  Y (Y (tn g) λj =>
 U j
  (M true)
  (Y (Qb a) λk =>
 U k
  (M true)
  (M (zA (60<(h.length:Int))))):T Bool) λl =>
 U l
  (M true)
  (Y (iC g) <|
 zI (λ(zC,m,n) =>
 U (m != 0)
  (U false
  (Y (yz) λo =>
 M o)
  (M false))
  (.W (jf 0 (rV (a.length:Int) 25) a.length) <|
 Y (jG (uI (e:=gU) 0 (rV (a.length:Int) 25) a) n) λ(b,hx) =>
 Y (ya b) λ(p,q) =>
 Y (dD p) λr =>
 Y (kE q) λ(κ,s,c,d) =>
 Y (jG i s) λ(t,P) =>
 Y (ya t) λ(u,v) =>
 Y (dD u) λw =>
 Y (sb w r) λx =>
 U x
  (Y (kE v) λ(hl,S,e,f) =>
 V e <|
 V f <|
 V c <|
 V d <|
 Y (sc ((zG 0 (zH (0+e.length) e)),((zG 0 (zH (0+f.length) f)),())) ((zG 0 (zH (0+c.length) c)),((zG 0 (zH (0+d.length) d)),()))) λy =>
 U y
  (Y (yz) λz =>
 M z)
  (M false))
  (M false)))
  (λ(zD,A) =>
 U (A != 0)
  (U true
  (Y (yz) λB =>
 M B)
  (M false))
  (.W (jf 0 (rV (a.length:Int) 25) a.length) <|
 Y (gi (uI (e:=gU) 0 (rV (a.length:Int) 25) a)) λoE =>
 Y (cO) λC =>
 Y (dD C) λD =>
 Y (ca) λκ' =>
 Y (gi i) λzl =>
 Y (cO) λG =>
 Y (dD G) λH =>
 Y (sb H D) λhb =>
 U hb
  (Y (ca) λhd =>
 Y (sc hd κ') λK =>
 U K
  (Y (yz) λL =>
 M L)
  (M false))
  (M false))))

end Go.AM.Lf
