/-
  The program's functions as trees in plain Lean, part 1: printed by a program of ours.
-/
import Derived.Test.YtgminpdghejlhaaGreatDoorLf0
set_option linter.unusedVariables false
open Decidable renaming decide -> zA
open Go.AM.T renaming bind -> Y, ret -> I, ite -> W, loop -> zK
open List renaming drop -> zE, take -> zF, length -> zL
open Sum renaming inr -> zG, inl -> zH, elim -> zI
open Int renaming toNat -> zJ
open Nat renaming cast -> zM
noncomputable section
namespace Go.AM.Lf
def iI(e:Form)(L:we)(ae:Unit)(f:zr)(g:zn)(h:zr)(a:z7)(i:qc)(j:zn):T ((zr×Unit)×zt×Int×zr×zn×z7×qc×zn) :=
 let x:=((zE 0 (zF (0+f.length) f)),((zE 0 (zF (0+g.length) g)),((zE 0 (zF (0+h.length) h)),((zE 0 (zF (0+i.length) i)),((zE 0 (zF (0+j.length) j)),())))));  Y (dC e L) <|
 zI (λ(y,b,k,l,m) =>
 W (y != 0)
  (.zl (zu 0 0 0 0) <|
 .zl (zu 0 0 0 0) <|
 .zl (zu 0 0 0 0) <|
 .zl (zu 0 0 0 0) <|
 oZ <|
 .zl (0=0) <|
 .zl (0=0) <|
 .zl (0=0) <|
 .zl (0=0) <|
 I (([],()),([],(y,([],([],([],([],[]))))))))
  (R f <|
 R g <|
 R h <|
 R i <|
 R j <|
 oC a <|
 R a <|
 Y (eT e x a) <|
 zI (λ(z,n,c,o,p,q) =>
 W (z != 0)
  (.zl (zu 0 0 0 0) <|
 .zl (zu 0 0 0 0) <|
 .zl (zu 0 0 0 0) <|
 .zl (zu 0 0 0 0) <|
 oZ <|
 .zl (0=0) <|
 .zl (0=0) <|
 .zl (0=0) <|
 .zl (0=0) <|
 I (([],()),([],(z,([],([],([],([],[]))))))))
  (R n <|
 .zl (zu a.length 0 a.length n.length) <|
 oC k <|
 oC l <|
 oC m <|
 R k <|
 R l <|
 R m <|
 oC o <|
 oC p <|
 oC q <|
 R o <|
 R p <|
 R q <|
 Y (QH e (a.length:Int) (0,(n,(x,((([]:List Rat),(([]:List Bool),(([]:List Rat),(([]:List Int),(([]:List vn),(([]:List Bool),())))))),((b.1,(b.2.1,(b.2.2.1,(b.2.2.2.1,(b.2.2.2.2.1,(b.2.2.2.2.2.1,())))))),(k,(l,(m,((c.1,(c.2.1,(c.2.2.1,(c.2.2.2.1,(c.2.2.2.2.1,(c.2.2.2.2.2.1,())))))),(o,(p,q)))))))))))) λ(r,d,M,N,κ,P,oE,S,hx,hd,zD) =>
 R r <|
 Y (en e (d.1,(d.2.1,(d.2.2.1,((zE 0 (zF (0+r.length) r)),(d.2.2.2.1,(d.2.2.2.2.1,()))))))) λ(κ',G,H,s,t,u,v,w) =>
 oC s <|
 oC t <|
 oC u <|
 oC v <|
 oC w <|
 R s <|
 R t <|
 R u <|
 R v <|
 R w <|
 I ((κ'.1,()),(G,(H,(s,(t,(u,(v,w)))))))))
  (λ(zC,A,h2) =>
 W (A != 0)
  (.zl (zu 0 0 0 0) <|
 .zl (zu 0 0 0 0) <|
 .zl (zu 0 0 0 0) <|
 .zl (zu 0 0 0 0) <|
 oZ <|
 .zl (0=0) <|
 .zl (0=0) <|
 .zl (0=0) <|
 .zl (0=0) <|
 I (([],()),(zC,(A,([],([],([],([],[]))))))))
  (.fail))))
  (λ(hb,hl) =>
 W (hl != 0)
  (.zl (zu 0 0 0 0) <|
 .zl (zu 0 0 0 0) <|
 .zl (zu 0 0 0 0) <|
 .zl (zu 0 0 0 0) <|
 oZ <|
 .zl (0=0) <|
 .zl (0=0) <|
 .zl (0=0) <|
 .zl (0=0) <|
 I (([],()),(hb,(hl,([],([],([],([],[]))))))))
  (R f <|
 R g <|
 R h <|
 R i <|
 R j <|
 oC a <|
 R a <|
 Y (eT e x a) <|
 zI (λ(C,zB,z6,aa,ab,ac) =>
 W (C != 0)
  (.zl (zu 0 0 0 0) <|
 .zl (zu 0 0 0 0) <|
 .zl (zu 0 0 0 0) <|
 .zl (zu 0 0 0 0) <|
 oZ <|
 .zl (0=0) <|
 .zl (0=0) <|
 .zl (0=0) <|
 .zl (0=0) <|
 I (([],()),([],(C,([],([],([],([],[]))))))))
  (.fail))
  (λ(K,D,ad) =>
 W (D != 0)
  (.zl (zu 0 0 0 0) <|
 .zl (zu 0 0 0 0) <|
 .zl (zu 0 0 0 0) <|
 .zl (zu 0 0 0 0) <|
 oZ <|
 .zl (0=0) <|
 .zl (0=0) <|
 .zl (0=0) <|
 .zl (0=0) <|
 I (([],()),(K,(D,([],([],([],([],[]))))))))
  (.fail))))
def pe(m:Form)(n:we)(p:zo)(q:Rat):T (we×zt×Int) :=
 Y (vN m.2.1 (λr=>gM r p)) λb =>
 Y (Xe m n) λs =>
 W (!s)
  (I ((([]:List Rat),(([]:List Bool),(([]:List Rat),(([]:List Int),(([]:List vn),(([]:List Bool),())))))),([],1)))
  (W (zA (b<0))
  (I ((([]:List Rat),(([]:List Bool),(([]:List Rat),(([]:List Int),(([]:List vn),(([]:List Bool),())))))),([],5)))
  (Y (cB q) λt =>
 W (!t)
  (I ((([]:List Rat),(([]:List Bool),(([]:List Rat),(([]:List Int),(([]:List vn),(([]:List Bool),())))))),([p],8)))
  (Y (mv n) λ(y,a,c,d,e,f,g) =>
 Y (vJ q) λu=>let o:=List.set a (0+(zJ b)) u;
 oI b a <|
 .zl (uT a.length a.length (0+(zJ b)) a.length) <|
 .zl (zu a.length 0 a.length o.length) <|
 oC c <|
 oC d <|
 oC e <|
 oC f <|
 oC g <|
 .zl (a.length=o.length) <|
 R c <|
 R d <|
 R e <|
 R f <|
 R g <|
 Y (iI m n () o c d e f g) λ(v,w,x,h,i,j,k,l) =>
 R h <|
 R i <|
 R j <|
 R k <|
 R l <|
 I (((zE 0 (zF (0+h.length) h)),((zE 0 (zF (0+i.length) i)),(v.1,((zE 0 (zF (0+j.length) j)),((zE 0 (zF (0+k.length) k)),((zE 0 (zF (0+l.length) l)),())))))),(w,x)))))
def yR(a:Switch)(b:zo):T Bool :=
 I (xw a.1 b)
def mZ(m:Form)(n:we)(u:zo)(v:Bool):T (we×zt×Int) :=
 Y (xm m.1 (λp=>yR p u)) λb =>
 Y (Xe m n) λq =>
 W (!q)
  (I ((([]:List Rat),(([]:List Bool),(([]:List Rat),(([]:List Int),(([]:List vn),(([]:List Bool),())))))),([],1)))
  (W (zA (b<0))
  (I ((([]:List Rat),(([]:List Bool),(([]:List Rat),(([]:List Int),(([]:List vn),(([]:List Bool),())))))),([],5)))
  (Y (mv n) λ(w,c,a,d,e,f,g)=>let o:=List.set a (0+(zJ b)) v;
 oI b a <|
 .zl (uT a.length a.length (0+(zJ b)) a.length) <|
 oC c <|
 .zl (zu a.length 0 a.length o.length) <|
 oC d <|
 oC e <|
 oC f <|
 oC g <|
 R c <|
 .zl (a.length=o.length) <|
 R d <|
 R e <|
 R f <|
 R g <|
 Y (iI m n () c o d e f g) λ(r,s,t,h,i,j,k,l) =>
 R h <|
 R i <|
 R j <|
 R k <|
 R l <|
 I (((zE 0 (zF (0+h.length) h)),((zE 0 (zF (0+i.length) i)),(r.1,((zE 0 (zF (0+j.length) j)),((zE 0 (zF (0+k.length) k)),((zE 0 (zF (0+l.length) l)),())))))),(s,t))))
def jU(c:Int)(b:Int)(a:zk):T (Answer×zk) :=
 W (b != 0)
  (I ((b,(([]:List zo),([],()))),a))
  (I (((0:Int),(([]:List zo),([],()))),((a.1.1,(a.1.2.1,(a.1.2.2.1,(a.1.2.2.2.1,(a.1.2.2.2.2.1,(a.1.2.2.2.2.2.1,())))))),((a.2.1.1,(a.2.1.2.1,(a.2.1.2.2.1,(a.2.1.2.2.2.1,(a.2.1.2.2.2.2.1,(a.2.1.2.2.2.2.2.1,())))))),((a.2.2.1.1,(a.2.2.1.2.1,())),(c,(a.2.2.2.2.1,())))))))
def jd(f:Form->zn->Int->T (Int×Bool))(a:zk):T (Answer×zk) :=
 Y (f (a.1.1,(a.1.2.1,(a.1.2.2.1,(a.1.2.2.2.1,(a.1.2.2.2.2.1,(a.1.2.2.2.2.2.1,())))))) a.2.1.2.1 a.2.2.2.1) λ(b,c) =>
 W (!c)
  (I (((13:Int),(([]:List zo),([],()))),a))
  (Y (jU b 0 a) λ(d,e) =>
 I (d,e))
def eC(a:cv)(b:zo):T Bool :=
 I (xw a.1 b)
def Wr(c:Form)(e:zn)(f:zo):T (Int×Int) :=
 Y (j3 c.2.2.1 (λd=>eC d f)) λa =>
 W (zA (a<0))
  (I ((-1),5))
  (Y (jr c e) λb =>
 oI a b <|
 W (!(nth b a (zb .bool)))
  (I ((-1),12))
  (I (a,0)))
def wT(a:zt):T zt :=
 let b:=0+a.length;  .zl (a=[]->∀ r,T.leads (.zl (ub 0 0 0 0 0 a.length 16) <|
 .zl (b=b) <|
 I (zE 0 (zF (0+b) a)):T _) r->T.leads (I []:T _) r) <|
 .zl (ub 0 0 0 0 0 a.length 16) <|
 .zl (b=b) <|
 I (zE 0 (zF (0+b) a))
def Zj(b:zt)(f:zt)(g:zo):T (zt×zt×zo) :=
 let c:=ql ((b.length:Int)-1);  .zl (jJ 0 c b.length) <|
 Y (wU (jS (e:=.str) 0 c b)) λd =>
 Y (wU f) λa =>
 oA a 16 <|
 oI c b <|
 R d <|
 .zl ((a.length+1)=(a.length+1)) <|
 I ((zE 0 (zF (0+d.length) d)),((zE 0 (zF (0+(a.length+1)) (a++[g]))),(nth b c (zb .str))))
def Zi(a:fU)(g:zo):T (fU×zo×Bool) :=
 W ((a.1.length:Int)==0)
  (Y (wT a.1) λb =>
 Y (wT a.2.1) λc =>
 I ((b,(c,())),([],false)))
  (Y (Zj a.1 a.2.1 g) λ(d,e,f) =>
 I ((d,(e,())),(f,true)))
def uA(a:Bool):T (Unit⊕Unit) :=
 W (!a)
  (I (zG ()))
  (I (zH ()))
def bG(a:gU):T ((zo×gU)⊕(Unit×gU)) :=
 Y (strings_Cut a.1 [10]) λ(b,c,d) =>
 Y (uA d) <|
 zI (λ_ =>
 I (zH (b,(c,()))))
  (λe =>
 I (zG (e,a)))
def wR(h:zo)(i:gU):T ((zt×gU)⊕(Unit×gU)) :=
 Y (bG i) <|
 zI (λ(c,b) =>
 Y (strings_Split c [32]) λa =>
 oI 0 a <|
 Y (uA (xw (nth a 0 (zb .str)) h)) <|
 zI (λ_ =>
 .zl (jJ 1 (a.length:Int) a.length) <|
 I (zH ((jS (e:=.str) 1 (a.length:Int) a),b)))
  (λd =>
 I (zG (d,b))))
  (λ(f,g) =>
 I (zG (f,g)))
def dF(d:zo):T (Rat⊕Unit) :=
 Y (pQ d) λ(a,b) =>
 Y (uA (b==0)) <|
 zI (λ_ =>
 I (zH a))
  (λc =>
 I (zG c))
def gS(d:zt)(f:Int):(Int×zr)->T ((Int×zr)⊕(zr⊕(Unit×zr)))
 | (b,a) =>
 W (zA (b<f))
  (oI b d <|
 Y (dF (nth d b (zb .str))) <|
 zI (λc =>
 oA a 56 <|
 oM (a.length+1) (a++[c]).length <|
 I (zH ((ql (b+1)),(a++[c]))))
  (λe =>
 R a <|
 I (zG (zG (e,a)))))
  (oC a <|
 R a <|
 I (zG (zH a)))
def iK x x1 s:=zK (gS x x1) s
def uQ(b:zt)(e:Unit):T (zr⊕Unit) :=
 oZ <|
 Y (iK b (b.length:Int) (0,[])) <|
 zI (λa =>
 oC a <|
 R a <|
 I (zH a))
  (λ(c,d) =>
 I (zG c))
def nd(a:zo):T (Bool⊕Unit) :=
 W (xw a [48])
  (Y (uA true) <|
 zI (λ_ =>
 I (zH (xw a [49])))
  (λb =>
 I (zG b)))
  (Y (uA (xw a [49])) <|
 zI (λ_ =>
 I (zH (xw a [49])))
  (λc =>
 I (zG c)))
def gT(d:zt)(f:Int):(Int×zn)->T ((Int×zn)⊕(zn⊕(Unit×zn)))
 | (b,a) =>
 W (zA (b<f))
  (oI b d <|
 Y (nd (nth d b (zb .str))) <|
 zI (λc =>
 oA a 1 <|
 oM (a.length+1) (a++[c]).length <|
 I (zH ((ql (b+1)),(a++[c]))))
  (λe =>
 R a <|
 I (zG (zG (e,a)))))
  (oC a <|
 R a <|
 I (zG (zH a)))
def iL x x1 s:=zK (gT x x1) s
def uR(b:zt)(e:Unit):T (zn⊕Unit) :=
 oZ <|
 Y (iL b (b.length:Int) (0,[])) <|
 zI (λa =>
 oC a <|
 R a <|
 I (zH a))
  (λ(c,d) =>
 I (zG c))
def dgV(s:zo):Nat:=s.foldl (λn b=>n*10+(b.toNat-48)) 0
def strconv_Atoi(s:zo):T Int:=.zl ((s≠[]/\s.length<=18)/\∀ b∈s,48<=b.toNat/\b.toNat<=57) (I (dgV s:Int))
def nc(a:zo):T (Int⊕Unit) :=
 Y (W (!(xw a []))
  (W (zA ((a.length:Int)<=18))
  (Y (cJ a [48,49,50,51,52,53,54,55,56,57]) λb =>
 Y (uA (xw b [])) <|
 zI (λ_ =>
 I (zH ()))
  (λc =>
 I (zG c)))
  (Y (uA false) <|
 zI (λ_ =>
 I (zH ()))
  (λd =>
 I (zG d))))
  (Y (uA false) <|
 zI (λ_ =>
 I (zH ()))
  (λe =>
 I (zG e))):T (Unit⊕Unit)) <|
 zI (λ_ =>
 Y (strconv_Atoi a) λf =>
 Y (uA true) <|
 zI (λ_ =>
 I (zH f))
  (λg =>
 I (zG g)))
  (λh =>
 I (zG h))
def nf(a:zo):T (Int⊕Unit) :=
 W (xw a [45])
  (I (zH (-1)))
  (Y (nc a) <|
 zI (λb =>
 I (zH b))
  (λc =>
 I (zG c)))
def bD(d:zt)(f:Int):(Int×z7)->T ((Int×z7)⊕(z7⊕(Unit×z7)))
 | (b,a) =>
 W (zA (b<f))
  (oI b d <|
 Y (nf (nth d b (zb .str))) <|
 zI (λc =>
 oA a 8 <|
 oM (a.length+1) (a++[c]).length <|
 I (zH ((ql (b+1)),(a++[c]))))
  (λe =>
 R a <|
 I (zG (zG (e,a)))))
  (oC a <|
 R a <|
 I (zG (zH a)))
def lS x x1 s:=zK (bD x x1) s
def yh(b:zt)(e:Unit):T (z7⊕Unit) :=
 oZ <|
 Y (lS b (b.length:Int) (0,[])) <|
 zI (λa =>
 oC a <|
 R a <|
 I (zH a))
  (λ(c,d) =>
 I (zG c))
def ki(a:zo)(b:zo):T Bool :=
 .zl (((zA ((b.length:Int)<=(a.length:Int)))=true)->(jJ (ql ((a.length:Int)-(b.length:Int))) (a.length:Int) a.length)) <|
 I ((zA ((b.length:Int)<=(a.length:Int)))&&(xw (iv (ql ((a.length:Int)-(b.length:Int))) (a.length:Int) a) b))
def kg(a:zo)(b:zo):T (zo×Bool) :=
 Y (ki a b) λc =>
 W (!c)
  (I (a,false))
  (.zl (jJ 0 (ql ((a.length:Int)-(b.length:Int))) a.length) <|
 I ((iv 0 (ql ((a.length:Int)-(b.length:Int))) a),true))
def strings_CutSuffix(c:zo)(d:zo):T (zo×Bool) :=
 Y (kg c d) λ(a,b) =>
 I (a,b)
def ng(c:zo):T (vn⊕Unit) :=
 W (xw c [45])
  (Y (gz 0) λa =>
 I (zH (false,(false,((a.1,(a.2.1,(a.2.2.1,()))),())))))
  (Y (strings_CutSuffix c [33]) λ(d,e) =>
 Y (dF d) <|
 zI (λb =>
 I (zH (true,(e,((b.1,(b.2.1,(b.2.2.1,()))),())))))
  (λf =>
 I (zG f)))
def yM(d:zt)(f:Int):(Int×qc)->T ((Int×qc)⊕(qc⊕(Unit×qc)))
 | (b,a) =>
 W (zA (b<f))
  (oI b d <|
 Y (ng (nth d b (zb .str))) <|
 zI (λc =>
 oA a 64 <|
 oM (a.length+1) (a++[c]).length <|
 I (zH ((ql (b+1)),(a++[c]))))
  (λe =>
 R a <|
 I (zG (zG (e,a)))))
  (oC a <|
 R a <|
 I (zG (zH a)))
def eU x x1 s:=zK (yM x x1) s
def js(b:zt)(e:Unit):T (qc⊕Unit) :=
 oZ <|
 Y (eU b (b.length:Int) (0,[])) <|
 zI (λa =>
 oC a <|
 R a <|
 I (zH a))
  (λ(c,d) =>
 I (zG c))
def iJ(a:Int):T Int :=
 W true
  (I a)
  (.fail)
def wF(b:Unit)(a:Int):T Int :=
 W false
  (I a)
  (W true
  (I 2)
  (.fail))
def pj(g:zo):T (Unit×Int×zr×zn×zr×z7×qc×zn) :=
 Y (wR [112,97,114,97,109,115] (g,())) <|
 zI (λ(k,l) =>
 Y (uQ k ()) <|
 zI (λa=>let h:=(a,([],([],([],([],[])))));
 Y (wR [111,110] l) <|
 zI (λ(m,n) =>
 Y (uR m ()) <|
 zI (λb=>let i:=(a,(b,([],([],([],[])))));
 Y (wR [118,97,108,115] n) <|
 zI (λ(o,p) =>
 Y (uQ o ()) <|
 zI (λc=>let j:=(a,(b,(c,([],([],[])))));
 Y (wR [111,117,116,115] p) <|
 zI (λ(q,r) =>
 Y (yh q ()) <|
 zI (λd =>
 Y (wR [112,105,110,115] r) <|
 zI (λ(s,t) =>
 Y (js s ()) <|
 zI (λe =>
 Y (wR [102,105,108,108,101,100] t) <|
 zI (λ(u,aa) =>
 Y (uR u ()) <|
 zI (λf =>
 oW a b c d e f <|
 Y (fP ((zE 0 (zF (0+a.length) a)),((zE 0 (zF (0+b.length) b)),((zE 0 (zF (0+c.length) c)),((zE 0 (zF (0+d.length) d)),((zE 0 (zF (0+e.length) e)),((zE 0 (zF (0+f.length) f)),()))))))) λv =>
 Y (uA (xw v g)) <|
 zI (λ_ =>
 Y (iJ 0) λw =>
 oY a b c d e f <|
 I ((),(w,(a,(b,(c,(d,(e,f))))))))
  (λx =>
 Y (wF x 0) λy =>
 oY a b c d e f <|
 I ((),(y,(a,(b,(c,(d,(e,f)))))))))
  (λz =>
 Y (wF z 0) λA =>
 oC a <|
 oC b <|
 oC c <|
 oC d <|
 oC e <|
 .zl (zu 0 0 0 0) <|
 R a <|
 R b <|
 R c <|
 R d <|
 R e <|
 .zl (0=0) <|
 I ((),(A,(a,(b,(c,(d,(e,[])))))))))
  (λ(hl,ab) =>
 Y (wF hl 0) λC =>
 oC a <|
 oC b <|
 oC c <|
 oC d <|
 oC e <|
 .zl (zu 0 0 0 0) <|
 R a <|
 R b <|
 R c <|
 R d <|
 R e <|
 .zl (0=0) <|
 I ((),(C,(a,(b,(c,(d,(e,[])))))))))
  (λD =>
 Y (wF D 0) λκ' =>
 oC a <|
 oC b <|
 oC c <|
 oC d <|
 .zl (zu 0 0 0 0) <|
 .zl (zu 0 0 0 0) <|
 R a <|
 R b <|
 R c <|
 R d <|
 .zl (0=0) <|
 .zl (0=0) <|
 I ((),(κ',(a,(b,(c,(d,([],[])))))))))
  (λ(G,ac) =>
 Y (wF G 0) λH =>
 oC a <|
 oC b <|
 oC c <|
 oC d <|
 .zl (zu 0 0 0 0) <|
 .zl (zu 0 0 0 0) <|
 R a <|
 R b <|
 R c <|
 R d <|
 .zl (0=0) <|
 .zl (0=0) <|
 I ((),(H,(a,(b,(c,(d,([],[])))))))))
  (λzC =>
 Y (wF zC 0) λhb =>
 oC a <|
 oC b <|
 oC c <|
 .zl (zu 0 0 0 0) <|
 .zl (zu 0 0 0 0) <|
 .zl (zu 0 0 0 0) <|
 R a <|
 R b <|
 R c <|
 .zl (0=0) <|
 .zl (0=0) <|
 .zl (0=0) <|
 I ((),(hb,j))))
  (λ(K,ad) =>
 Y (wF K 0) λL =>
 oC a <|
 oC b <|
 oC c <|
 .zl (zu 0 0 0 0) <|
 .zl (zu 0 0 0 0) <|
 .zl (zu 0 0 0 0) <|
 R a <|
 R b <|
 R c <|
 .zl (0=0) <|
 .zl (0=0) <|
 .zl (0=0) <|
 I ((),(L,j))))
  (λM =>
 Y (wF M 0) λN =>
 oC a <|
 oC b <|
 .zl (zu 0 0 0 0) <|
 .zl (zu 0 0 0 0) <|
 .zl (zu 0 0 0 0) <|
 .zl (zu 0 0 0 0) <|
 R a <|
 R b <|
 .zl (0=0) <|
 .zl (0=0) <|
 .zl (0=0) <|
 .zl (0=0) <|
 I ((),(N,i))))
  (λ(κ,ae) =>
 Y (wF κ 0) λP =>
 oC a <|
 oC b <|
 .zl (zu 0 0 0 0) <|
 .zl (zu 0 0 0 0) <|
 .zl (zu 0 0 0 0) <|
 .zl (zu 0 0 0 0) <|
 R a <|
 R b <|
 .zl (0=0) <|
 .zl (0=0) <|
 .zl (0=0) <|
 .zl (0=0) <|
 I ((),(P,i))))
  (λoE =>
 Y (wF oE 0) λS =>
 oC a <|
 .zl (zu 0 0 0 0) <|
 .zl (zu 0 0 0 0) <|
 .zl (zu 0 0 0 0) <|
 .zl (zu 0 0 0 0) <|
 .zl (zu 0 0 0 0) <|
 R a <|
 .zl (0=0) <|
 .zl (0=0) <|
 .zl (0=0) <|
 .zl (0=0) <|
 .zl (0=0) <|
 I ((),(S,h))))
  (λ(hx,af) =>
 Y (wF hx 0) λhd =>
 oC a <|
 .zl (zu 0 0 0 0) <|
 .zl (zu 0 0 0 0) <|
 .zl (zu 0 0 0 0) <|
 .zl (zu 0 0 0 0) <|
 .zl (zu 0 0 0 0) <|
 R a <|
 .zl (0=0) <|
 .zl (0=0) <|
 .zl (0=0) <|
 .zl (0=0) <|
 .zl (0=0) <|
 I ((),(hd,h))))
  (λzD =>
 Y (wF zD 0) λh2 =>
 .zl (zu 0 0 0 0) <|
 .zl (zu 0 0 0 0) <|
 .zl (zu 0 0 0 0) <|
 .zl (zu 0 0 0 0) <|
 .zl (zu 0 0 0 0) <|
 oZ <|
 .zl (0=0) <|
 .zl (0=0) <|
 .zl (0=0) <|
 .zl (0=0) <|
 .zl (0=0) <|
 I ((),(h2,([],([],([],([],([],[])))))))))
  (λ(zB,ag) =>
 Y (wF zB 0) λz6 =>
 .zl (zu 0 0 0 0) <|
 .zl (zu 0 0 0 0) <|
 .zl (zu 0 0 0 0) <|
 .zl (zu 0 0 0 0) <|
 .zl (zu 0 0 0 0) <|
 oZ <|
 .zl (0=0) <|
 .zl (0=0) <|
 .zl (0=0) <|
 .zl (0=0) <|
 .zl (0=0) <|
 I ((),(z6,([],([],([],([],([],[]))))))))
def te(j:Form)(k:zo):T (we×Int) :=
 Y (pj k) λ(l,g,a,b,c,d,e,f)=>let h:=((zE 0 (zF (0+a.length) a)),((zE 0 (zF (0+b.length) b)),((zE 0 (zF (0+c.length) c)),((zE 0 (zF (0+d.length) d)),((zE 0 (zF (0+e.length) e)),((zE 0 (zF (0+f.length) f)),()))))));
 W (g != 0)
  (I ((([]:List Rat),(([]:List Bool),(([]:List Rat),(([]:List Int),(([]:List vn),(([]:List Bool),())))))),g))
  (oW a b c d e f <|
 Y (Xe j h) λi =>
 W (!i)
  (I ((([]:List Rat),(([]:List Bool),(([]:List Rat),(([]:List Int),(([]:List vn),(([]:List Bool),())))))),1))
  (oW a b c d e f <|
 I (h,0)))
def uU(j:fU->zo->T (fU×zo×Bool))(a:zk):T (Answer×zk) :=
 let c:=(a.1.1,(a.1.2.1,(a.1.2.2.1,(a.1.2.2.2.1,(a.1.2.2.2.2.1,(a.1.2.2.2.2.2.1,()))))));  Y (fP (a.2.1.1,(a.2.1.2.1,(a.2.1.2.2.1,(a.2.1.2.2.2.1,(a.2.1.2.2.2.2.1,(a.2.1.2.2.2.2.2.1,()))))))) λf =>
 Y (j (a.2.2.1.1,(a.2.2.1.2.1,())) f) λ(d,g,h) =>
 W (!h)
  (I (((13:Int),(([]:List zo),([],()))),a))
  (Y (te c g) λ(b,e) =>
 W (e != 0)
  (I ((e,(([]:List zo),([],()))),a))
  (Y (Zr c b.2.1 a.2.2.2.1) λi =>
 I (((0:Int),(([]:List zo),([],()))),(c,((b.1,(b.2.1,(b.2.2.1,(b.2.2.2.1,(b.2.2.2.2.1,(b.2.2.2.2.2.1,())))))),((d.1,(d.2.1,())),(i,(a.2.2.2.2.1,()))))))))
def Zh(a:fU)(g:zo):T (fU×zo×Bool) :=
 W ((a.2.1.length:Int)==0)
  (Y (wT a.1) λb =>
 Y (wT a.2.1) λc =>
 I ((b,(c,())),([],false)))
  (Y (Zj a.2.1 a.1 g) λ(d,e,f) =>
 I ((e,(d,())),(f,true)))
def U6(d:zo)(a:wq)(g:zr):T (Rat×Int) :=
 Y (wG a.1 d) λb =>
 W (zA (0<=b))
  (Y (mg g b) λe =>
 I (e,0))
  (Y (wG a.2.1 d) λc =>
 W (zA (c<0))
  (I ((false,(([]:List Int),(([]:List Int),()))),5))
  (Y (mg a.2.2.1 c) λf =>
 I (f,0)))
def J3(c:Rat)(d:Rat):T Rat :=
 Y (Qn d) λa =>
 Y (pF c a) λb =>
 I b
def yt(h:AM.Expr->wq->zr->T (Rat×Int))(a:AM.Expr)(d:wq)(e:zr):T (Rat×Int) :=
 W ((Expr.kind a)==1)
  (Y (vJ (Expr.num a)) λi =>
 I (i,0))
  (W ((Expr.kind a)==2)
  (Y (U6 (Expr.name a) d e) λ(j,k) =>
 I (j,k))
  (oI 0 (Expr.kids a) <|
 Y (h (nth (Expr.kids a) 0 (zb .expr)) d e) λ(b,f) =>
 W (f != 0)
  (I ((false,(([]:List Int),(([]:List Int),()))),f))
  (W ((Expr.kind a)==7)
  (Y (Qn b) λl =>
 I (l,0))
  (oI 1 (Expr.kids a) <|
 Y (h (nth (Expr.kids a) 1 (zb .expr)) d e) λ(c,g) =>
 W (g != 0)
  (I ((false,(([]:List Int),(([]:List Int),()))),g))
  (W ((Expr.kind a)==3)
  (Y (pF b c) λm =>
 I (m,0))
  (W ((Expr.kind a)==4)
  (Y (J3 b c) λn =>
 I (n,0))
  (W ((Expr.kind a)==5)
  (Y (pG b c) λo =>
 I (o,0))
  (Y (tD b c) λ(p,q) =>
 W (!q)
  (I ((false,(([]:List Int),(([]:List Int),()))),7))
  (I (p,0))))))))))
def ZI(e:AM.Expr)(v:wq)(at_:zr):T (Rat×Int):=T.fix (λF x=>yt (λy0 y1 y2=>F (y0,y1,y2)) x.1 x.2.1 x.2.2) (e,v,at_)
def Z4(a:AM.Expr)(e:wq)(f:zr):T (Rat×Int) :=
 Y (iT a) λb =>
 W (!b)
  (I ((false,(([]:List Int),(([]:List Int),()))),5))
  (Y (ZI a e f) λ(c,d) =>
 I (c,d))
def Yk(b:Rat)(c:Rat):T Int :=
 Y (J3 b c) λa =>
 W a.1
  (I (-1))
  (W (zA (0<(a.2.1.length:Int)))
  (I 1)
  (I 0))
def pH(a:Check)(c:wq)(d:zr):T Bool :=
 Y (Z4 a.2.2.2.1 c d) λ(e,f) =>
 Y (Z4 a.2.2.2.2.1 c d) λ(g,h) =>
 W ((f != 0)||(h != 0))
  (I true)
  (Y (Yk e g) λb =>
 W (a.2.2.1==0)
  (I (b != 0))
  (W (a.2.2.1==1)
  (I (zA (0<=b)))
  (I (zA (0<b)))))
def lF(i:Form)(d:we)(f:Int)(j:zn)(k:Int)(l:Int)(g:qp)(h:Int):(Int×wq×zt)->T ((Int×wq×zt)⊕((wq×zt)))
 | (b,e,a)=>let c:=nth g b (zb qw);
 W (zA (b<h))
  (oI b g <|
 .zl (((c.2.1==f)=true)->((c.2.2.1=true)->(((zA ((d.2.2.2.2.2.1.length:Int)<=b))=false)->(xb b d.2.2.2.2.2.1.length)))) <|
 W ((c.2.1==f)&&(c.2.2.1&&((zA ((d.2.2.2.2.2.1.length:Int)<=b))||(!(nth d.2.2.2.2.2.1 b (zb .bool))))))
  (oA a 16 <|
 oM (a.length+1) (a++([c.1]:List zo)).length <|
 I (zH ((ql (b+1)),(e,(a++([c.1]:List zo))))))
  (oC a <|
 R a <|
 I (zH ((ql (b+1)),(e,a)))))
  (oC a <|
 R a <|
 I (zG (e,a)))
def lC f2 d2 i x3 x4 x5 x6 x7 s:=zK (lF f2 d2 i x3 x4 x5 x6 x7) s
def lG(n:Form)(k:we)(l:Int)(o:zn)(p:Int)(q:Int)(h:qs)(m:Int):(Int×wq×zt)->T ((Int×wq×zt)⊕((wq×zt)))
 | (c,d,a)=>let e:=nth h c (zb xk);
 W (zA (c<m))
  (oI c h <|
 Y (W (e.2.1==l)
  (Y (pH e d k.2.2.1) λi =>
 oC a <|
 R a <|
 I (i,(d,(a,e))))
  (oC a <|
 R a <|
 I (false,(d,(a,e)))):T ((Bool×wq×zt×Check))) λ(j,f,b,g) =>
 W j
  (oA b 16 <|
 oM (b.length+1) (b++([g.1]:List zo)).length <|
 I (zH ((ql (c+1)),(f,(b++([g.1]:List zo))))))
  (oC b <|
 R b <|
 I (zH ((ql (c+1)),(f,b)))))
  (oC a <|
 R a <|
 I (zG (d,a)))
def lD f3 d3 i1 x9 x10 x11 x12 x13 s:=zK (lG f3 d3 i1 x9 x10 x11 x12 x13) s
def lE(c:Form)(i:we)(d:zn)(h:Int):(Int×wq×zt)->T ((Int×wq×zt)⊕((wq×zt)))
 | (a,g,b) =>
 W (zA (a<h))
  (oI a d <|
 W (!(nth d a (zb .bool)))
  (oC b <|
 R b <|
 I (zH ((ql (a+1)),(g,b))))
  (oC b <|
 R b <|
 Y (lC c i a d h a c.2.2.2.1 (c.2.2.2.1.length:Int) (0,(g,b))) λ(j,e) =>
 oC e <|
 R e <|
 Y (lD c i a d h a c.2.2.2.2.2.1 (c.2.2.2.2.2.1.length:Int) (0,(j,e))) λ(k,f) =>
 oC f <|
 R f <|
 I (zH ((ql (a+1)),(k,f)))))
  (oC b <|
 R b <|
 I (zG (g,b)))
def tE f1 d1 x x1 s:=zK (lE f1 d1 x x1) s
def lB(b:Form)(c:we):T zt :=
 Y (rL b c.1) λe =>
 Y (jr b c.2.1) λd =>
 oZ <|
 Y (tE b c d (d.length:Int) (0,(e,[]))) λ(f,a) =>
 R a <|
 I (zE 0 (zF (0+a.length) a))
def Qq(g:we)(d:zn)(h:qp)(m:Int):(Int×qh)->T ((Int×qh)⊕qh)
 | (b,a)=>let c:=nth h b (zb qw);
 W (zA (b<m))
  (oI b h <|
 .zl (((zA (c.2.1<(0:Int)))=false)->(((zA ((d.length:Int)<=c.2.1))=false)->(xb c.2.1 d.length))) <|
 W ((zA (c.2.1<(0:Int)))||((zA ((d.length:Int)<=c.2.1))||(!(nth d c.2.1 (zb .bool)))))
  (oC a <|
 R a <|
 I (zH ((ql (b+1)),a)))
  (Y (gz 0) λj =>
 Y (W (zA (b<(g.2.2.1.length:Int)))
  (oI b g.2.2.1 <|
 Y (vJ (nth g.2.2.1 b (zb zm))) λk =>
 oC a <|
 R a <|
 I (a,(c,k)))
  (oC a <|
 R a <|
 I (a,(c,j))):T ((qh×Field×Rat))) λ(e,l,f)=>let i:=e++([(l.1,((f.1,(f.2.1,(f.2.2.1,()))),()))]:List Param);
 oA e 72 <|
 oM (e.length+1) i.length <|
 I (zH ((ql (b+1)),i))))
  (oC a <|
 R a <|
 I (zG a))
def J5 d1 on1 x x1 s:=zK (Qq d1 on1 x x1) s
def Wv(b:Form)(c:we):T qh :=
 Y (jr b c.2.1) λd =>
 oZ <|
 Y (J5 c d b.2.2.2.1 (b.2.2.2.1.length:Int) (0,[])) λa =>
 R a <|
 I (zE 0 (zF (0+a.length) a))
def mN(f:qh)(g:Int):(Int×Unit×z7)->T ((Int×Unit×z7)⊕((Unit×z7)))
 | (c,j,b)=>let a:=nth f c (zb qg);
 W (zA (c<g))
  (oI c f <|
 oK a.1 [32] <|
 Y (gL (a.2.1.1,(a.2.1.2.1,(a.2.1.2.2.1,())))) λd =>
 oK (cat a.1 [32]) d <|
 oK (cat (cat a.1 [32]) d) [10] <|
 oC b <|
 R b <|
 Y (xr (cat (cat (cat a.1 [32]) d) [10]) () b) λ(h,i,e) =>
 oC e <|
 R e <|
 I (zH ((ql (c+1)),((),e))))
  (oC b <|
 R b <|
 I (zG ((),b)))
def Zu x x1 s:=zK (mN x x1) s
def np(b:qh):T zo :=
 oZ <|
 Y (Zu b (b.length:Int) (0,((),[]))) λ(d,a) =>
 oC a <|
 R a <|
 Y (pZ () a) λ(c,e) =>
 I c
def y8(a:zk):T (Answer×zk) :=
 let b:=(a.1.1,(a.1.2.1,(a.1.2.2.1,(a.1.2.2.2.1,(a.1.2.2.2.2.1,(a.1.2.2.2.2.2.1,())))))); let c:=(a.2.1.1,(a.2.1.2.1,(a.2.1.2.2.1,(a.2.1.2.2.2.1,(a.2.1.2.2.2.2.1,(a.2.1.2.2.2.2.2.1,()))))));  Y (lB b c) λd =>
 W (zA (0<(d.length:Int)))
  (I (((15:Int),(d,([],()))),a))
  (Y (Wv b c) λe =>
 Y (np e) λf =>
 I (((0:Int),(([]:List zo),(f,()))),(b,(c,((a.2.2.1.1,(a.2.2.1.2.1,())),(a.2.2.2.1,(true,())))))))
def gV(b:Op)(a:zk):T (Answer×zk) :=
 let d:=(a.2.1.1,(a.2.1.2.1,(a.2.1.2.2.1,(a.2.1.2.2.2.1,(a.2.1.2.2.2.2.1,(a.2.1.2.2.2.2.2.1,())))))); let c:=(a.1.1,(a.1.2.1,(a.1.2.2.1,(a.1.2.2.2.1,(a.1.2.2.2.2.1,(a.1.2.2.2.2.2.1,()))))));  W (b.1==1)
  (Y (Ug c d b.2.1 b.2.2.1) λ(e,f,g) =>
 Y (vA e f g a) λ(h,i) =>
 I (h,i))
  (W (bif (b.1==2)then(b.1==2)else(b.1==3))
  (Y (ZU c d b.2.1 (b.1==2)) λ(j,k,l) =>
 Y (vA j k l a) λ(m,n) =>
 I (m,n))
  (W (b.1==4)
  (Y (pe c d b.2.1 b.2.2.1) λ(o,p,q) =>
 Y (vA o p q a) λ(r,s) =>
 I (r,s))
  (W (b.1==5)
  (Y (mZ c d b.2.1 b.2.2.2.1) λ(t,u,v) =>
 Y (vA t u v a) λ(w,x) =>
 I (w,x))
  (W (b.1==6)
  (Y (jd (λz0 z1 z2=>pV z0 z1 z2) a) λ(y,z) =>
 I (y,z))
  (W (b.1==7)
  (Y (jd (λz0 z1 z2=>pU z0 z1 z2) a) λ(A,hl) =>
 I (A,hl))
  (W (b.1==8)
  (Y (Wr c a.2.1.2.1 b.2.1) λ(C,D) =>
 Y (jU C D a) λ(κ',G) =>
 I (κ',G))
  (W (b.1==9)
  (Y (uU (λz0 z1=>Zi z0 z1) a) λ(H,zC) =>
 I (H,zC))
  (W (b.1==10)
  (Y (uU (λz0 z1=>Zh z0 z1) a) λ(hb,K) =>
 I (hb,K))
  (W (b.1==11)
  (Y (y8 a) λ(L,M) =>
 I (L,M))
  (I (((1:Int),(([]:List zo),([],()))),a)))))))))))
def cW(a:zk)(b:Answer)(c:zk):T (zk×Answer×zk) :=
 W false
  (I (a,(((1:Int),(([]:List zo),([],()))),a)))
  (I (a,(b,c)))
def kf(f:Op)(a:zk):T (Answer×zk) :=
 W false
  (I (((1:Int),(([]:List zo),([],()))),a))
  (W a.2.2.2.2.1
  (I (((14:Int),(([]:List zo),([],()))),a))
  (Y (gV f a) λ(b,c) =>
 Y (cW a b c) λ(g,d,e) =>
 I (d,e)))
def iR(e:U1)(g:Int):(Int×zk×fJ)->T ((Int×zk×fJ)⊕((zk×fJ)))
 | (b,d,a) =>
 W (zA (b<g))
  (oI b e <|
 Y (kf (nth e b (zb fc)) d) λ(c,f) =>
 oA a 48 <|
 oM (a.length+1) (a++[c]).length <|
 I (zH ((ql (b+1)),(f,(a++[c])))))
  (oC a <|
 R a <|
 I (zG (d,a)))
def ZY x x1 s:=zK (iR x x1) s
def oQ(b:U1)(d:zk):T (zk×fJ) :=
 oZ <|
 Y (ZY b (b.length:Int) (0,(d,[]))) λ(c,a) =>
 oC a <|
 R a <|
 I (c,a)
def nE(a:Op):T Answer :=
 W true
  (I ((1:Int),(([]:List zo),([],()))))
  (.fail)
def eV(d:U1)(e:Int):(Int×fJ)->T ((Int×fJ)⊕fJ)
 | (b,a) =>
 W (zA (b<e))
  (oI b d <|
 Y (nE (nth d b (zb fc))) λc =>
 oA a 48 <|
 oM (a.length+1) (a++[c]).length <|
 I (zH ((ql (b+1)),(a++[c]))))
  (oC a <|
 R a <|
 I (zG a))
def tT x x1 s:=zK (eV x x1) s
def lV(b:U1):T fJ :=
 oZ <|
 Y (tT b (b.length:Int) (0,[])) λa =>
 oC a <|
 R a <|
 I a
def jM  : T Bool :=
 Y (ep (([]:List Switch),(([]:List Param),(([([112],([],()))]:List cv),(([([97],((0:Int),(false,((0:Int),()))))]:List Field),(([]:List cx),(([]:List Check),()))))))) <|
 zI (λ(f,c,d) =>
 W ((c != 0)||false)
  (I false)
  (Y (oQ ([((1:Int),([97],((false,(([1]:List Int),(([2]:List Int),()))),(false,())))),((9:Int),([],((false,(([]:List Int),(([]:List Int),()))),(false,())))),((9:Int),([],((false,(([]:List Int),(([]:List Int),()))),(false,()))))]:List Op) d) λ(g,a) =>
 .zl ((((a.length:Int)==3)=true)->((xb 0 a.length)/\((uT a.length a.length (0+(zJ 0)) a.length)/\((((wo a (0+(zJ 0)) (zb wI)).1==0)=true)->((xb 1 a.length)/\((uT a.length a.length (0+(zJ 1)) a.length)/\((((wo a (0+(zJ 1)) (zb wI)).1==0)=true)->((xb 2 a.length)/\(uT a.length a.length (0+(zJ 2)) a.length))))))))) <|
 I (((a.length:Int)==3)&&(((wo a (0+(zJ 0)) (zb wI)).1==0)&&(((wo a (0+(zJ 1)) (zb wI)).1==0)&&((wo a (0+(zJ 2)) (zb wI)).1==13))))))
  (λ(h,e) =>
 W ((e != 0)||true)
  (I false)
  (Y (lV ([((1:Int),([97],((false,(([1]:List Int),(([2]:List Int),()))),(false,())))),((9:Int),([],((false,(([]:List Int),(([]:List Int),()))),(false,())))),((9:Int),([],((false,(([]:List Int),(([]:List Int),()))),(false,()))))]:List Op)) λb =>
 .zl ((((b.length:Int)==3)=true)->((xb 0 b.length)/\((uT b.length b.length (0+(zJ 0)) b.length)/\((((wo b (0+(zJ 0)) (zb wI)).1==0)=true)->((xb 1 b.length)/\((uT b.length b.length (0+(zJ 1)) b.length)/\((((wo b (0+(zJ 1)) (zb wI)).1==0)=true)->((xb 2 b.length)/\(uT b.length b.length (0+(zJ 2)) b.length))))))))) <|
 I (((b.length:Int)==3)&&(((wo b (0+(zJ 0)) (zb wI)).1==0)&&(((wo b (0+(zJ 1)) (zb wI)).1==0)&&((wo b (0+(zJ 2)) (zb wI)).1==13))))))
def fj(e:AM.Expr->Int->T Int)(c:AM.Expr):(Int×Int)->T ((Int×Int)⊕Int)
 | (b,a) =>
 W ((zA (a<((Expr.kids c).length:Int)))&&(zA (0<=b)))
  (oI a (Expr.kids c) <|
 Y (e (nth (Expr.kids c) a (zb .expr)) b) λd =>
 I (zH (d,(ql (a+1)))))
  (I (zG b))
def ow self_law22_weight e1 s:=zK (fj self_law22_weight e1) s
def dN(c:AM.Expr->Int->T Int)(a:AM.Expr)(d:Int):T Int :=
 Y (ow c a ((ql ((ql ((ql ((ql (d-3))-((Expr.name a).length:Int)))-(ql (8*(zM (zL (Expr.num a).2.1):Int)))))-(ql (8*(zM (zL (Expr.num a).2.2.1):Int))))),0)) λb =>
 I b
def cE(e:AM.Expr)(left:Int):T Int:=T.fix (λF x=>dN (λy0 y1=>F (y0,y1)) x.1 x.2) (e,left)
def rW(b:Form):(Int×Int)->T ((Int×Int)⊕Int)
 | (c,a) =>
 W ((zA (a<(b.2.1.length:Int)))&&(zA (0<=c)))
  (oI a b.2.1 <|
 oI a b.2.1 <|
 oI a b.2.1 <|
 I (zH ((ql ((ql ((ql (c-(ql (8*(zM (zL (nth b.2.1 a (zb qg)).2.1.2.1):Int)))))-(ql (8*(zM (zL (nth b.2.1 a (zb qg)).2.1.2.2.1):Int)))))-(zM (zL (nth b.2.1 a (zb qg)).1):Int))),(ql (a+1)))))
  (I (zG c))
def Gb f1 s:=zK (rW f1) s
def rX(c:Form):(Int×Int)->T ((Int×Int)⊕Int)
 | (b,a) =>
 W ((zA (a<(c.1.length:Int)))&&(zA (0<=b)))
  (oI a c.1 <|
 I (zH ((ql (b-(zM (zL (nth c.1 a (zb qe)).1):Int))),(ql (a+1)))))
  (I (zG b))
def Gc f2 s:=zK (rX f2) s
def rY(b:Form):(Int×Int)->T ((Int×Int)⊕Int)
 | (c,a) =>
 W ((zA (a<(b.2.2.1.length:Int)))&&(zA (0<=c)))
  (oI a b.2.2.1 <|
 oI a b.2.2.1 <|
 I (zH ((ql ((ql (c-(zM (zL (nth b.2.2.1 a (zb xi)).1):Int)))-(zM (zL (nth b.2.2.1 a (zb xi)).2.1):Int))),(ql (a+1)))))
  (I (zG c))
def Ge f3 s:=zK (rY f3) s
def rZ(c:Form):(Int×Int)->T ((Int×Int)⊕Int)
 | (b,a) =>
 W ((zA (a<(c.2.2.2.1.length:Int)))&&(zA (0<=b)))
  (oI a c.2.2.2.1 <|
 I (zH ((ql (b-(zM (zL (nth c.2.2.2.1 a (zb qw)).1):Int))),(ql (a+1)))))
  (I (zG b))
def Gf f4 s:=zK (rZ f4) s
def s6(b:Form):(Int×Int)->T ((Int×Int)⊕Int)
 | (d,a)=>let c:=nth b.2.2.2.2.1 a (zb xn);
 W ((zA (a<(b.2.2.2.2.1.length:Int)))&&(zA (0<=d)))
  (oI a b.2.2.2.2.1 <|
 oI a b.2.2.2.2.1 <|
 oI a b.2.2.2.2.1 <|
 oI a b.2.2.2.2.1 <|
 Y (cE c.2.2.2.1 (ql ((ql (d-(c.1.length:Int)))-(c.2.2.1.length:Int)))) λe =>
 Y (cE c.2.2.2.2.1 e) λf =>
 I (zH (f,(ql (a+1)))))
  (I (zG d))
def Gg f5 s:=zK (s6 f5) s
def s7(b:Form):(Int×Int)->T ((Int×Int)⊕Int)
 | (c,a)=>let d:=nth b.2.2.2.2.2.1 a (zb xk);
 W ((zA (a<(b.2.2.2.2.2.1.length:Int)))&&(zA (0<=c)))
  (oI a b.2.2.2.2.2.1 <|
 oI a b.2.2.2.2.2.1 <|
 oI a b.2.2.2.2.2.1 <|
 Y (cE d.2.2.2.1 (ql (c-(d.1.length:Int)))) λe =>
 Y (cE d.2.2.2.2.1 e) λf =>
 I (zH (f,(ql (a+1)))))
  (I (zG c))
def Gi f6 s:=zK (s7 f6) s
def nM(a:Form):T Bool :=
 Y (Gb a ((ql (600-(ql (20*(ql ((ql ((ql ((ql ((ql ((a.1.length:Int)+(a.2.1.length:Int)))+(a.2.2.1.length:Int)))+(a.2.2.2.1.length:Int)))+(a.2.2.2.2.1.length:Int)))+(a.2.2.2.2.2.1.length:Int))))))),0)) λb =>
 Y (Gc a (b,0)) λc =>
 Y (Ge a (c,0)) λd =>
 Y (Gf a (d,0)) λe =>
 Y (Gg a (e,0)) λf =>
 Y (Gi a (f,0)) λg =>
 I (zA (g<0))
def tV(b:U1):Int->T (Int⊕(Unit⊕Bool))
 | a=>let c:=nth b a (zb fc);
 W ((zA (a<(b.length:Int)))&&(zA (a<25)))
  (.zl ((xb a b.length)/\(((zA (60<(c.2.1.length:Int)))=false)->((xb a b.length)/\(((zA (3<(c.2.2.1.2.1.length:Int)))=false)->(xb a b.length))))) <|
 W ((zA (60<(c.2.1.length:Int)))||((zA (3<(c.2.2.1.2.1.length:Int)))||(zA (3<(c.2.2.1.2.2.1.length:Int)))))
  (I (zG (zG true)))
  (I (zH (ql (a+1)))))
  (I (zG (zH ())))
def WV l1 s:=zK (tV l1) s
def s9(b:U1):T Bool :=
 Y (WV b 0) <|
 zI (λ_ =>
 I false)
  (λa =>
 I a)
def CP(a:we):T we :=
 Y (u7 a.1) λb =>
 Y (vR a.2.1) λc =>
 Y (u7 a.2.2.1) λd =>
 Y (ua a.2.2.2.1) λe =>
 Y (uF a.2.2.2.2.1) λf =>
 Y (vR a.2.2.2.2.2.1) λg =>
 oW b c d e f g <|
 I ((zE 0 (zF (0+b.length) b)),((zE 0 (zF (0+c.length) c)),((zE 0 (zF (0+d.length) d)),((zE 0 (zF (0+e.length) e)),((zE 0 (zF (0+f.length) f)),((zE 0 (zF (0+g.length) g)),()))))))
def yn(a:zk):T (we×zk) :=
 W false
  (I ((([]:List Rat),(([]:List Bool),(([]:List Rat),(([]:List Int),(([]:List vn),(([]:List Bool),())))))),a))
  (Y (CP (a.2.1.1,(a.2.1.2.1,(a.2.1.2.2.1,(a.2.1.2.2.2.1,(a.2.1.2.2.2.2.1,(a.2.1.2.2.2.2.2.1,()))))))) λb =>
 I (b,a))
def ct(b:zn)(d:zo)(c:Form):Int->T (Int⊕(Unit⊕Bool))
 | a =>
 W (zA (a<(c.1.length:Int)))
  (oI a c.1 <|
 W (xw (nth c.1 a (zb qe)).1 d)
  (.zl (((zA (a<(b.length:Int)))=true)->(xb a b.length)) <|
 I (zG (zG ((zA (a<(b.length:Int)))&&(nth b a (zb .bool))))))
  (I (zH (ql (a+1)))))
  (I (zG (zH ())))
def tF l1 z3i f1 s:=zK (ct l1 z3i f1) s
def Zv(b:Form)(c:zn)(d:zo):T Bool :=
 Y (tF c d b 0) <|
 zI (λ_ =>
 I false)
  (λa =>
 I a)
def jv(e:zn)(c:Form):(Int×zn)->T ((Int×zn)⊕zn)
 | (b,a) =>
 W (zA (b<(c.2.2.1.length:Int)))
  (oI b c.2.2.1 <|
 W (xw (nth c.2.2.1 b (zb xi)).2.1 [])
  (oA a 1 <|
 oM (a.length+1) (a++[true]).length <|
 I (zH ((ql (b+1)),(a++[true]))))
  (Y (Zv c e (nth c.2.2.1 b (zb xi)).2.1) λd =>
 oA a 1 <|
 oM (a.length+1) (a++[d]).length <|
 I (zH ((ql (b+1)),(a++[d])))))
  (oC a <|
 R a <|
 I (zG a))
def dr l1 f1 s:=zK (jv l1 f1) s
def bV(b:Form)(c:zn):T zn :=
 oZ <|
 Y (dr c b (0,[])) λa =>
 R a <|
 I (zE 0 (zF (0+a.length) a))
def vP(a:zk):T Int :=
 W false
  (I 0)
  (I a.2.2.2.1)
def kN(f:U1)(g:Form)(h:Int)(d:zn):(Bool×Int×zk×we)->T ((Bool×Int×zk×we)⊕((Bool×zk×we)))
 | (e,a,b,c) =>
 W (zA (a<(d.length:Int)))
  (W e
  (I (zH (true,((ql (a+1)),(b,c)))))
  (oI a d <|
 I (zH ((nth d a (zb .bool)),((ql (a+1)),(b,c))))))
  (I (zG (e,(b,c))))
def kL l2 f2 i1 r8 s:=zK (kN l2 f2 i1 r8) s
def kM(e:U1)(j:Form):(Int×zk)->T ((Int×zk)⊕(zk⊕(Bool×zk)))
 | (b,i) =>
 W ((zA (b<(e.length:Int)))&&(zA (b<25)))
  (oI b e <|
 Y (kf (nth e b (zb fc)) i) λ(q,k) =>
 Y (yn k) λ(f,l) =>
 Y (bV j f.2.1) λc =>
 Y (kL e j b c (false,(0,(l,f)))) λ(m,a,d) =>
 Y (W m
  (Y (vP a) λn =>
 W (zA (n<0))
  (I (true,(a,d)))
  (Y (vP a) λo =>
 W (zA ((c.length:Int)<=o))
  (I (true,(a,d)))
  (Y (vP a) λg =>
 oI g c <|
 I ((!(nth c g (zb .bool))),(a,d)))))
  (I (false,(a,d))):T ((Bool×zk×we))) λ(p,h,r) =>
 W p
  (I (zG (zG (false,h))))
  (I (zH ((ql (b+1)),h))))
  (I (zG (zH i)))
def gZ l1 f1 s:=zK (kM l1 f1) s
def y9(a:Form)(b:U1):T Bool :=
 Y (Y (nM a) λc =>
 W c
  (I true)
  (Y (s9 b) λd =>
 I d):T Bool) λe =>
 W e
  (I true)
  (Y (ep a) <|
 zI (λ(m,f,g) =>
 W (f != 0)
  (W false
  (Y (jM) λh =>
 I h)
  (I false))
  (Y (gZ b a (0,g)) <|
 zI (λn =>
 Y (jM) λi =>
 I i)
  (λ(j,o) =>
 I j)))
  (λ(p,k) =>
 W (k != 0)
  (W true
  (Y (jM) λl =>
 I l)
  (I false))
  (.fail)))

abbrev DX:Ty:=(.cons (.sl .str) (.cons (.sl .str) .nil))
abbrev dT:=den DX
abbrev b9:Ty:=(.cons .bool (.cons .bool (.cons zm .nil)))
abbrev wz:=den b9
abbrev Iz:Ty:=(.cons (.sl zm) (.cons (.sl .bool) (.cons (.sl zm) (.cons (.sl (.int .i64)) (.cons (.sl b9) (.cons (.sl .bool) .nil))))))
abbrev wg:=den Iz
end Go.AM.Lf
