/-
  The program's functions as trees in plain Lean, part 1: printed by a program of ours.
-/
import Derived.Test.YtjklmealdnfhfaaGreatDoorLf0
set_option linter.unusedVariables false
open Decidable renaming decide -> zA
open Go.AM.T renaming bind -> Y, ret -> X, ite -> V, loop -> zK
open Sum renaming inr -> zE, elim -> zF, inl -> zG
open List renaming drop -> zH, take -> zI, length -> zL
open Int renaming toNat -> zJ
open Nat renaming cast -> zM
noncomputable section
namespace Go.AM.Lf
def fN(e:Form)(L:qe)(ae:Unit)(f:zr)(g:zp)(h:zr)(a:z7)(i:zn)(j:zp):T ((zr×Unit)×zo×Int×zr×zp×z7×zn×zp) :=
 let x:=((zH 0 (zI (0+f.length) f)),((zH 0 (zI (0+g.length) g)),((zH 0 (zI (0+h.length) h)),((zH 0 (zI (0+i.length) i)),((zH 0 (zI (0+j.length) j)),())))));  Y (cW e L) <|
 zF (λ(y,b,k,l,m) =>
 V (y != 0)
  (.W (zu 0 0 0 0) <|
 .W (zu 0 0 0 0) <|
 .W (zu 0 0 0 0) <|
 .W (zu 0 0 0 0) <|
 oZ <|
 .W (0=0) <|
 .W (0=0) <|
 .W (0=0) <|
 .W (0=0) <|
 X (([],()),([],(y,([],([],([],([],[]))))))))
  (U f <|
 U g <|
 U h <|
 U i <|
 U j <|
 oC a <|
 U a <|
 Y (ef e x a) <|
 zF (λ(z,n,c,o,p,q) =>
 V (z != 0)
  (.W (zu 0 0 0 0) <|
 .W (zu 0 0 0 0) <|
 .W (zu 0 0 0 0) <|
 .W (zu 0 0 0 0) <|
 oZ <|
 .W (0=0) <|
 .W (0=0) <|
 .W (0=0) <|
 .W (0=0) <|
 X (([],()),([],(z,([],([],([],([],[]))))))))
  (U n <|
 .W (zu a.length 0 a.length n.length) <|
 oC k <|
 oC l <|
 oC m <|
 U k <|
 U l <|
 U m <|
 oC o <|
 oC p <|
 oC q <|
 U o <|
 U p <|
 U q <|
 Y (Ql e (a.length:Int) (0,(n,(x,((([]:List Rat),(([]:List Bool),(([]:List Rat),(([]:List Int),(([]:List qk),(([]:List Bool),())))))),((b.1,(b.2.1,(b.2.2.1,(b.2.2.2.1,(b.2.2.2.2.1,(b.2.2.2.2.2.1,())))))),(k,(l,(m,((c.1,(c.2.1,(c.2.2.1,(c.2.2.2.1,(c.2.2.2.2.1,(c.2.2.2.2.2.1,())))))),(o,(p,q)))))))))))) λ(r,d,h2,hx,κ,P,hl,S,oE,zD,zk) =>
 U r <|
 Y (dG e (d.1,(d.2.1,(d.2.2.1,((zH 0 (zI (0+r.length) r)),(d.2.2.2.1,(d.2.2.2.2.1,()))))))) λ(κ',G,H,s,t,u,v,w) =>
 oC s <|
 oC t <|
 oC u <|
 oC v <|
 oC w <|
 U s <|
 U t <|
 U u <|
 U v <|
 U w <|
 X ((κ'.1,()),(G,(H,(s,(t,(u,(v,w)))))))))
  (λ(hb,A,zC) =>
 V (A != 0)
  (.W (zu 0 0 0 0) <|
 .W (zu 0 0 0 0) <|
 .W (zu 0 0 0 0) <|
 .W (zu 0 0 0 0) <|
 oZ <|
 .W (0=0) <|
 .W (0=0) <|
 .W (0=0) <|
 .W (0=0) <|
 X (([],()),(hb,(A,([],([],([],([],[]))))))))
  (.fail))))
  (λ(hd,hI) =>
 V (hI != 0)
  (.W (zu 0 0 0 0) <|
 .W (zu 0 0 0 0) <|
 .W (zu 0 0 0 0) <|
 .W (zu 0 0 0 0) <|
 oZ <|
 .W (0=0) <|
 .W (0=0) <|
 .W (0=0) <|
 .W (0=0) <|
 X (([],()),(hd,(hI,([],([],([],([],[]))))))))
  (U f <|
 U g <|
 U h <|
 U i <|
 U j <|
 oC a <|
 U a <|
 Y (ef e x a) <|
 zF (λ(C,zB,z6,aa,ab,ac) =>
 V (C != 0)
  (.W (zu 0 0 0 0) <|
 .W (zu 0 0 0 0) <|
 .W (zu 0 0 0 0) <|
 .W (zu 0 0 0 0) <|
 oZ <|
 .W (0=0) <|
 .W (0=0) <|
 .W (0=0) <|
 .W (0=0) <|
 X (([],()),([],(C,([],([],([],([],[]))))))))
  (.fail))
  (λ(K,D,ad) =>
 V (D != 0)
  (.W (zu 0 0 0 0) <|
 .W (zu 0 0 0 0) <|
 .W (zu 0 0 0 0) <|
 .W (zu 0 0 0 0) <|
 oZ <|
 .W (0=0) <|
 .W (0=0) <|
 .W (0=0) <|
 .W (0=0) <|
 X (([],()),(K,(D,([],([],([],([],[]))))))))
  (.fail))))
def ot(m:Form)(n:qe)(p:zx)(q:Rat):T (qe×zo×Int) :=
 Y (vH m.2.1 (λr=>gq r p)) λb =>
 Y (QO m n) λs =>
 V (!s)
  (X ((([]:List Rat),(([]:List Bool),(([]:List Rat),(([]:List Int),(([]:List qk),(([]:List Bool),())))))),([],1)))
  (V (zA (b<0))
  (X ((([]:List Rat),(([]:List Bool),(([]:List Rat),(([]:List Int),(([]:List qk),(([]:List Bool),())))))),([],5)))
  (Y (bO q) λt =>
 V (!t)
  (X ((([]:List Rat),(([]:List Bool),(([]:List Rat),(([]:List Int),(([]:List qk),(([]:List Bool),())))))),([p],8)))
  (Y (lN n) λ(y,a,c,d,e,f,g) =>
 Y (vD q) λu=>let o:=List.set a (0+(zJ b)) u;
 oI b a <|
 .W (uN a.length a.length (0+(zJ b)) a.length) <|
 .W (zu a.length 0 a.length o.length) <|
 oC c <|
 oC d <|
 oC e <|
 oC f <|
 oC g <|
 .W (a.length=o.length) <|
 U c <|
 U d <|
 U e <|
 U f <|
 U g <|
 Y (fN m n () o c d e f g) λ(v,w,x,h,i,j,k,l) =>
 U h <|
 U i <|
 U j <|
 U k <|
 U l <|
 X (((zH 0 (zI (0+h.length) h)),((zH 0 (zI (0+i.length) i)),(v.1,((zH 0 (zI (0+j.length) j)),((zH 0 (zI (0+k.length) k)),((zH 0 (zI (0+l.length) l)),())))))),(w,x)))))
def yt(a:Switch)(b:zx):T Bool :=
 X (wK a.1 b)
def my(m:Form)(n:qe)(u:zx)(v:Bool):T (qe×zo×Int) :=
 Y (wa m.1 (λp=>yt p u)) λb =>
 Y (QO m n) λq =>
 V (!q)
  (X ((([]:List Rat),(([]:List Bool),(([]:List Rat),(([]:List Int),(([]:List qk),(([]:List Bool),())))))),([],1)))
  (V (zA (b<0))
  (X ((([]:List Rat),(([]:List Bool),(([]:List Rat),(([]:List Int),(([]:List qk),(([]:List Bool),())))))),([],5)))
  (Y (lN n) λ(w,c,a,d,e,f,g)=>let o:=List.set a (0+(zJ b)) v;
 oI b a <|
 .W (uN a.length a.length (0+(zJ b)) a.length) <|
 oC c <|
 .W (zu a.length 0 a.length o.length) <|
 oC d <|
 oC e <|
 oC f <|
 oC g <|
 U c <|
 .W (a.length=o.length) <|
 U d <|
 U e <|
 U f <|
 U g <|
 Y (fN m n () c o d e f g) λ(r,s,t,h,i,j,k,l) =>
 U h <|
 U i <|
 U j <|
 U k <|
 U l <|
 X (((zH 0 (zI (0+h.length) h)),((zH 0 (zI (0+i.length) i)),(r.1,((zH 0 (zI (0+j.length) j)),((zH 0 (zI (0+k.length) k)),((zH 0 (zI (0+l.length) l)),())))))),(s,t))))
def jI(c:Int)(b:Int)(a:zw):T (Answer×zw) :=
 V (b != 0)
  (X ((b,(([]:List zx),([],()))),a))
  (X (((0:Int),(([]:List zx),([],()))),((a.1.1,(a.1.2.1,(a.1.2.2.1,(a.1.2.2.2.1,(a.1.2.2.2.2.1,(a.1.2.2.2.2.2.1,())))))),((a.2.1.1,(a.2.1.2.1,(a.2.1.2.2.1,(a.2.1.2.2.2.1,(a.2.1.2.2.2.2.1,(a.2.1.2.2.2.2.2.1,())))))),((a.2.2.1.1,(a.2.2.1.2.1,())),(c,(a.2.2.2.2.1,())))))))
def j5(f:Form->zp->Int->T (Int×Bool))(a:zw):T (Answer×zw) :=
 Y (f (a.1.1,(a.1.2.1,(a.1.2.2.1,(a.1.2.2.2.1,(a.1.2.2.2.2.1,(a.1.2.2.2.2.2.1,())))))) a.2.1.2.1 a.2.2.2.1) λ(b,c) =>
 V (!c)
  (X (((13:Int),(([]:List zx),([],()))),a))
  (Y (jI b 0 a) λ(d,e) =>
 X (d,e))
def dM(a:eK)(b:zx):T Bool :=
 X (wK a.1 b)
def XZ(c:Form)(e:zp)(f:zx):T (Int×Int) :=
 Y (uU c.2.2.1 (λd=>dM d f)) λa =>
 V (zA (a<0))
  (X ((-1),5))
  (Y (kf c e) λb =>
 oI a b <|
 V (!(nth b a (zb .bool)))
  (X ((-1),12))
  (X (a,0)))
def wQ(a:zo):T zo :=
 let b:=0+a.length;  .W (a=[]->∀ r,T.leads (.W (vS 0 0 0 0 0 a.length 16) <|
 .W (b=b) <|
 X (zH 0 (zI (0+b) a)):T _) r->T.leads (X []:T _) r) <|
 .W (vS 0 0 0 0 0 a.length 16) <|
 .W (b=b) <|
 X (zH 0 (zI (0+b) a))
def tU(b:zo)(f:zo)(g:zx):T (zo×zo×zx) :=
 let c:=qo ((b.length:Int)-1);  .W (jy 0 c b.length) <|
 Y (wR (jG (e:=.str) 0 c b)) λd =>
 Y (wR f) λa =>
 oA a 16 <|
 oI c b <|
 U d <|
 .W ((a.length+1)=(a.length+1)) <|
 X ((zH 0 (zI (0+d.length) d)),((zH 0 (zI (0+(a.length+1)) (a++[g]))),(nth b c (zb .str))))
def tT(a:uF)(g:zx):T (uF×zx×Bool) :=
 V ((a.1.length:Int)==0)
  (Y (wQ a.1) λb =>
 Y (wQ a.2.1) λc =>
 X ((b,(c,())),([],false)))
  (Y (tU a.1 a.2.1 g) λ(d,e,f) =>
 X ((d,(e,())),(f,true)))
def ur(a:Bool):T (Unit⊕Unit) :=
 V (!a)
  (X (zE ()))
  (X (zG ()))
def hZ(a:gB):T ((zx×gB)⊕(Unit×gB)) :=
 Y (strings_Cut a.1 [10]) λ(b,c,d) =>
 Y (ur d) <|
 zF (λ_ =>
 X (zG (b,(c,()))))
  (λe =>
 X (zE (e,a)))
def wO(h:zx)(i:gB):T ((zo×gB)⊕(Unit×gB)) :=
 Y (hZ i) <|
 zF (λ(c,b) =>
 Y (strings_Split c [32]) λa =>
 oI 0 a <|
 Y (ur (wK (nth a 0 (zb .str)) h)) <|
 zF (λ_ =>
 .W (jy 1 (a.length:Int) a.length) <|
 X (zG ((jG (e:=.str) 1 (a.length:Int) a),b)))
  (λd =>
 X (zE (d,b))))
  (λ(f,g) =>
 X (zE (f,g)))
def da(d:zx):T (Rat⊕Unit) :=
 Y (p8 d) λ(a,b) =>
 Y (ur (b==0)) <|
 zF (λ_ =>
 X (zG a))
  (λc =>
 X (zE c))
def gz(d:zo)(f:Int):(Int×zr)->T ((Int×zr)⊕(zr⊕(Unit×zr)))
 | (b,a) =>
 V (zA (b<f))
  (oI b d <|
 Y (da (nth d b (zb .str))) <|
 zF (λc =>
 oA a 56 <|
 oM (a.length+1) (a++[c]).length <|
 X (zG ((qo (b+1)),(a++[c]))))
  (λe =>
 U a <|
 X (zE (zE (e,a)))))
  (oC a <|
 U a <|
 X (zE (zG a)))
def fP x x1 s:=zK (gz x x1) s
def uK(b:zo)(e:Unit):T (zr⊕Unit) :=
 oZ <|
 Y (fP b (b.length:Int) (0,[])) <|
 zF (λa =>
 oC a <|
 U a <|
 X (zG a))
  (λ(c,d) =>
 X (zE c))
def mA(a:zx):T (Bool⊕Unit) :=
 V (wK a [48])
  (Y (ur true) <|
 zF (λ_ =>
 X (zG (wK a [49])))
  (λb =>
 X (zE b)))
  (Y (ur (wK a [49])) <|
 zF (λ_ =>
 X (zG (wK a [49])))
  (λc =>
 X (zE c)))
def gA(d:zo)(f:Int):(Int×zp)->T ((Int×zp)⊕(zp⊕(Unit×zp)))
 | (b,a) =>
 V (zA (b<f))
  (oI b d <|
 Y (mA (nth d b (zb .str))) <|
 zF (λc =>
 oA a 1 <|
 oM (a.length+1) (a++[c]).length <|
 X (zG ((qo (b+1)),(a++[c]))))
  (λe =>
 U a <|
 X (zE (zE (e,a)))))
  (oC a <|
 U a <|
 X (zE (zG a)))
def fQ x x1 s:=zK (gA x x1) s
def uL(b:zo)(e:Unit):T (zp⊕Unit) :=
 oZ <|
 Y (fQ b (b.length:Int) (0,[])) <|
 zF (λa =>
 oC a <|
 U a <|
 X (zG a))
  (λ(c,d) =>
 X (zE c))
def dgV(s:zx):Nat:=s.foldl (λn b=>n*10+(b.toNat-48)) 0
def strconv_Atoi(s:zx):T Int:=.W ((s≠[]/\s.length<=18)/\∀ b∈s,48<=b.toNat/\b.toNat<=57) (X (dgV s:Int))
def mz(a:zx):T (Int⊕Unit) :=
 Y (V (!(wK a []))
  (V (zA ((a.length:Int)<=18))
  (Y (ca a [48,49,50,51,52,53,54,55,56,57]) λb =>
 Y (ur (wK b [])) <|
 zF (λ_ =>
 X (zG ()))
  (λc =>
 X (zE c)))
  (Y (ur false) <|
 zF (λ_ =>
 X (zG ()))
  (λd =>
 X (zE d))))
  (Y (ur false) <|
 zF (λ_ =>
 X (zG ()))
  (λe =>
 X (zE e))):T (Unit⊕Unit)) <|
 zF (λ_ =>
 Y (strconv_Atoi a) λf =>
 Y (ur true) <|
 zF (λ_ =>
 X (zG f))
  (λg =>
 X (zE g)))
  (λh =>
 X (zE h))
def mB(a:zx):T (Int⊕Unit) :=
 V (wK a [45])
  (X (zG (-1)))
  (Y (mz a) <|
 zF (λb =>
 X (zG b))
  (λc =>
 X (zE c)))
def gY(d:zo)(f:Int):(Int×z7)->T ((Int×z7)⊕(z7⊕(Unit×z7)))
 | (b,a) =>
 V (zA (b<f))
  (oI b d <|
 Y (mB (nth d b (zb .str))) <|
 zF (λc =>
 oA a 8 <|
 oM (a.length+1) (a++[c]).length <|
 X (zG ((qo (b+1)),(a++[c]))))
  (λe =>
 U a <|
 X (zE (zE (e,a)))))
  (oC a <|
 U a <|
 X (zE (zG a)))
def iZ x x1 s:=zK (gY x x1) s
def kQ(b:zo)(e:Unit):T (z7⊕Unit) :=
 oZ <|
 Y (iZ b (b.length:Int) (0,[])) <|
 zF (λa =>
 oC a <|
 U a <|
 X (zG a))
  (λ(c,d) =>
 X (zE c))
def jU(a:zx)(b:zx):T Bool :=
 .W (((zA ((b.length:Int)<=(a.length:Int)))=true)->(jy (qo ((a.length:Int)-(b.length:Int))) (a.length:Int) a.length)) <|
 X ((zA ((b.length:Int)<=(a.length:Int)))&&(wK (fG (qo ((a.length:Int)-(b.length:Int))) (a.length:Int) a) b))
def jS(a:zx)(b:zx):T (zx×Bool) :=
 Y (jU a b) λc =>
 V (!c)
  (X (a,false))
  (.W (jy 0 (qo ((a.length:Int)-(b.length:Int))) a.length) <|
 X ((fG 0 (qo ((a.length:Int)-(b.length:Int))) a),true))
def strings_CutSuffix(c:zx)(d:zx):T (zx×Bool) :=
 Y (jS c d) λ(a,b) =>
 X (a,b)
def mC(c:zx):T (qk⊕Unit) :=
 V (wK c [45])
  (Y (yT 0) λa =>
 X (zG (false,(false,((a.1,(a.2.1,(a.2.2.1,()))),())))))
  (Y (strings_CutSuffix c [33]) λ(d,e) =>
 Y (da d) <|
 zF (λb =>
 X (zG (true,(e,((b.1,(b.2.1,(b.2.2.1,()))),())))))
  (λf =>
 X (zE f)))
def yo(d:zo)(f:Int):(Int×zn)->T ((Int×zn)⊕(zn⊕(Unit×zn)))
 | (b,a) =>
 V (zA (b<f))
  (oI b d <|
 Y (mC (nth d b (zb .str))) <|
 zF (λc =>
 oA a 64 <|
 oM (a.length+1) (a++[c]).length <|
 X (zG ((qo (b+1)),(a++[c]))))
  (λe =>
 U a <|
 X (zE (zE (e,a)))))
  (oC a <|
 U a <|
 X (zE (zG a)))
def ek x x1 s:=zK (yo x x1) s
def jg(b:zo)(e:Unit):T (zn⊕Unit) :=
 oZ <|
 Y (ek b (b.length:Int) (0,[])) <|
 zF (λa =>
 oC a <|
 U a <|
 X (zG a))
  (λ(c,d) =>
 X (zE c))
def fO(a:Int):T Int :=
 V true
  (X a)
  (.fail)
def wC(b:Unit)(a:Int):T Int :=
 V false
  (X a)
  (V true
  (X 2)
  (.fail))
def ov(g:zx):T (Unit×Int×zr×zp×zr×z7×zn×zp) :=
 Y (wO [112,97,114,97,109,115] (g,())) <|
 zF (λ(k,l) =>
 Y (uK k ()) <|
 zF (λa=>let h:=(a,([],([],([],([],[])))));
 Y (wO [111,110] l) <|
 zF (λ(m,n) =>
 Y (uL m ()) <|
 zF (λb=>let i:=(a,(b,([],([],([],[])))));
 Y (wO [118,97,108,115] n) <|
 zF (λ(o,p) =>
 Y (uK o ()) <|
 zF (λc=>let j:=(a,(b,(c,([],([],[])))));
 Y (wO [111,117,116,115] p) <|
 zF (λ(q,r) =>
 Y (kQ q ()) <|
 zF (λd =>
 Y (wO [112,105,110,115] r) <|
 zF (λ(s,t) =>
 Y (jg s ()) <|
 zF (λe =>
 Y (wO [102,105,108,108,101,100] t) <|
 zF (λ(u,aa) =>
 Y (uL u ()) <|
 zF (λf =>
 oW a b c d e f <|
 Y (cZ ((zH 0 (zI (0+a.length) a)),((zH 0 (zI (0+b.length) b)),((zH 0 (zI (0+c.length) c)),((zH 0 (zI (0+d.length) d)),((zH 0 (zI (0+e.length) e)),((zH 0 (zI (0+f.length) f)),()))))))) λv =>
 Y (ur (wK v g)) <|
 zF (λ_ =>
 Y (fO 0) λw =>
 oY a b c d e f <|
 X ((),(w,(a,(b,(c,(d,(e,f))))))))
  (λx =>
 Y (wC x 0) λy =>
 oY a b c d e f <|
 X ((),(y,(a,(b,(c,(d,(e,f)))))))))
  (λz =>
 Y (wC z 0) λA =>
 oC a <|
 oC b <|
 oC c <|
 oC d <|
 oC e <|
 .W (zu 0 0 0 0) <|
 U a <|
 U b <|
 U c <|
 U d <|
 U e <|
 .W (0=0) <|
 X ((),(A,(a,(b,(c,(d,(e,[])))))))))
  (λ(hI,ab) =>
 Y (wC hI 0) λC =>
 oC a <|
 oC b <|
 oC c <|
 oC d <|
 oC e <|
 .W (zu 0 0 0 0) <|
 U a <|
 U b <|
 U c <|
 U d <|
 U e <|
 .W (0=0) <|
 X ((),(C,(a,(b,(c,(d,(e,[])))))))))
  (λD =>
 Y (wC D 0) λκ' =>
 oC a <|
 oC b <|
 oC c <|
 oC d <|
 .W (zu 0 0 0 0) <|
 .W (zu 0 0 0 0) <|
 U a <|
 U b <|
 U c <|
 U d <|
 .W (0=0) <|
 .W (0=0) <|
 X ((),(κ',(a,(b,(c,(d,([],[])))))))))
  (λ(G,ac) =>
 Y (wC G 0) λH =>
 oC a <|
 oC b <|
 oC c <|
 oC d <|
 .W (zu 0 0 0 0) <|
 .W (zu 0 0 0 0) <|
 U a <|
 U b <|
 U c <|
 U d <|
 .W (0=0) <|
 .W (0=0) <|
 X ((),(H,(a,(b,(c,(d,([],[])))))))))
  (λhb =>
 Y (wC hb 0) λhd =>
 oC a <|
 oC b <|
 oC c <|
 .W (zu 0 0 0 0) <|
 .W (zu 0 0 0 0) <|
 .W (zu 0 0 0 0) <|
 U a <|
 U b <|
 U c <|
 .W (0=0) <|
 .W (0=0) <|
 .W (0=0) <|
 X ((),(hd,j))))
  (λ(K,ad) =>
 Y (wC K 0) λL =>
 oC a <|
 oC b <|
 oC c <|
 .W (zu 0 0 0 0) <|
 .W (zu 0 0 0 0) <|
 .W (zu 0 0 0 0) <|
 U a <|
 U b <|
 U c <|
 .W (0=0) <|
 .W (0=0) <|
 .W (0=0) <|
 X ((),(L,j))))
  (λh2 =>
 Y (wC h2 0) λhx =>
 oC a <|
 oC b <|
 .W (zu 0 0 0 0) <|
 .W (zu 0 0 0 0) <|
 .W (zu 0 0 0 0) <|
 .W (zu 0 0 0 0) <|
 U a <|
 U b <|
 .W (0=0) <|
 .W (0=0) <|
 .W (0=0) <|
 .W (0=0) <|
 X ((),(hx,i))))
  (λ(κ,ae) =>
 Y (wC κ 0) λP =>
 oC a <|
 oC b <|
 .W (zu 0 0 0 0) <|
 .W (zu 0 0 0 0) <|
 .W (zu 0 0 0 0) <|
 .W (zu 0 0 0 0) <|
 U a <|
 U b <|
 .W (0=0) <|
 .W (0=0) <|
 .W (0=0) <|
 .W (0=0) <|
 X ((),(P,i))))
  (λhl =>
 Y (wC hl 0) λS =>
 oC a <|
 .W (zu 0 0 0 0) <|
 .W (zu 0 0 0 0) <|
 .W (zu 0 0 0 0) <|
 .W (zu 0 0 0 0) <|
 .W (zu 0 0 0 0) <|
 U a <|
 .W (0=0) <|
 .W (0=0) <|
 .W (0=0) <|
 .W (0=0) <|
 .W (0=0) <|
 X ((),(S,h))))
  (λ(oE,af) =>
 Y (wC oE 0) λzD =>
 oC a <|
 .W (zu 0 0 0 0) <|
 .W (zu 0 0 0 0) <|
 .W (zu 0 0 0 0) <|
 .W (zu 0 0 0 0) <|
 .W (zu 0 0 0 0) <|
 U a <|
 .W (0=0) <|
 .W (0=0) <|
 .W (0=0) <|
 .W (0=0) <|
 .W (0=0) <|
 X ((),(zD,h))))
  (λzk =>
 Y (wC zk 0) λzC =>
 .W (zu 0 0 0 0) <|
 .W (zu 0 0 0 0) <|
 .W (zu 0 0 0 0) <|
 .W (zu 0 0 0 0) <|
 .W (zu 0 0 0 0) <|
 oZ <|
 .W (0=0) <|
 .W (0=0) <|
 .W (0=0) <|
 .W (0=0) <|
 .W (0=0) <|
 X ((),(zC,([],([],([],([],([],[])))))))))
  (λ(zB,ag) =>
 Y (wC zB 0) λz6 =>
 .W (zu 0 0 0 0) <|
 .W (zu 0 0 0 0) <|
 .W (zu 0 0 0 0) <|
 .W (zu 0 0 0 0) <|
 .W (zu 0 0 0 0) <|
 oZ <|
 .W (0=0) <|
 .W (0=0) <|
 .W (0=0) <|
 .W (0=0) <|
 .W (0=0) <|
 X ((),(z6,([],([],([],([],([],[]))))))))
def sA(j:Form)(k:zx):T (qe×Int) :=
 Y (ov k) λ(l,g,a,b,c,d,e,f)=>let h:=((zH 0 (zI (0+a.length) a)),((zH 0 (zI (0+b.length) b)),((zH 0 (zI (0+c.length) c)),((zH 0 (zI (0+d.length) d)),((zH 0 (zI (0+e.length) e)),((zH 0 (zI (0+f.length) f)),()))))));
 V (g != 0)
  (X ((([]:List Rat),(([]:List Bool),(([]:List Rat),(([]:List Int),(([]:List qk),(([]:List Bool),())))))),g))
  (oW a b c d e f <|
 Y (QO j h) λi =>
 V (!i)
  (X ((([]:List Rat),(([]:List Bool),(([]:List Rat),(([]:List Int),(([]:List qk),(([]:List Bool),())))))),1))
  (oW a b c d e f <|
 X (h,0)))
def uO(j:uF->zx->T (uF×zx×Bool))(a:zw):T (Answer×zw) :=
 let c:=(a.1.1,(a.1.2.1,(a.1.2.2.1,(a.1.2.2.2.1,(a.1.2.2.2.2.1,(a.1.2.2.2.2.2.1,()))))));  Y (cZ (a.2.1.1,(a.2.1.2.1,(a.2.1.2.2.1,(a.2.1.2.2.2.1,(a.2.1.2.2.2.2.1,(a.2.1.2.2.2.2.2.1,()))))))) λf =>
 Y (j (a.2.2.1.1,(a.2.2.1.2.1,())) f) λ(d,g,h) =>
 V (!h)
  (X (((13:Int),(([]:List zx),([],()))),a))
  (Y (sA c g) λ(b,e) =>
 V (e != 0)
  (X ((e,(([]:List zx),([],()))),a))
  (Y (Z2 c b.2.1 a.2.2.2.1) λi =>
 X (((0:Int),(([]:List zx),([],()))),(c,((b.1,(b.2.1,(b.2.2.1,(b.2.2.2.1,(b.2.2.2.2.1,(b.2.2.2.2.2.1,())))))),((d.1,(d.2.1,())),(i,(a.2.2.2.2.1,()))))))))
def tS(a:uF)(g:zx):T (uF×zx×Bool) :=
 V ((a.2.1.length:Int)==0)
  (Y (wQ a.1) λb =>
 Y (wQ a.2.1) λc =>
 X ((b,(c,())),([],false)))
  (Y (tU a.2.1 a.1 g) λ(d,e,f) =>
 X ((e,(d,())),(f,true)))
def VB(d:zx)(a:wj)(g:zr):T (Rat×Int) :=
 Y (wD a.1 d) λb =>
 V (zA (0<=b))
  (Y (lD g b) λe =>
 X (e,0))
  (Y (wD a.2.1 d) λc =>
 V (zA (c<0))
  (X ((false,(([]:List Int),(([]:List Int),()))),5))
  (Y (lD a.2.2.1 c) λf =>
 X (f,0)))
def Ux(c:Rat)(d:Rat):T Rat :=
 Y (Q1 d) λa =>
 Y (oJ c a) λb =>
 X b
def kZ(h:AM.Expr->wj->zr->T (Rat×Int))(a:AM.Expr)(d:wj)(e:zr):T (Rat×Int) :=
 V ((Expr.kind a)==1)
  (Y (vD (Expr.num a)) λi =>
 X (i,0))
  (V ((Expr.kind a)==2)
  (Y (VB (Expr.name a) d e) λ(j,k) =>
 X (j,k))
  (oI 0 (Expr.kids a) <|
 Y (h (nth (Expr.kids a) 0 (zb .expr)) d e) λ(b,f) =>
 V (f != 0)
  (X ((false,(([]:List Int),(([]:List Int),()))),f))
  (V ((Expr.kind a)==7)
  (Y (Q1 b) λl =>
 X (l,0))
  (oI 1 (Expr.kids a) <|
 Y (h (nth (Expr.kids a) 1 (zb .expr)) d e) λ(c,g) =>
 V (g != 0)
  (X ((false,(([]:List Int),(([]:List Int),()))),g))
  (V ((Expr.kind a)==3)
  (Y (oJ b c) λm =>
 X (m,0))
  (V ((Expr.kind a)==4)
  (Y (Ux b c) λn =>
 X (n,0))
  (V ((Expr.kind a)==5)
  (Y (oL b c) λo =>
 X (o,0))
  (Y (sQ b c) λ(p,q) =>
 V (!q)
  (X ((false,(([]:List Int),(([]:List Int),()))),7))
  (X (p,0))))))))))
def Zi(e:AM.Expr)(v:wj)(at_:zr):T (Rat×Int):=T.fix (λF x=>kZ (λy0 y1 y2=>F (y0,y1,y2)) x.1 x.2.1 x.2.2) (e,v,at_)
def tE(a:AM.Expr)(e:wj)(f:zr):T (Rat×Int) :=
 Y (fZ a) λb =>
 V (!b)
  (X ((false,(([]:List Int),(([]:List Int),()))),5))
  (Y (Zi a e f) λ(c,d) =>
 X (c,d))
def KG(b:Rat)(c:Rat):T Int :=
 Y (Ux b c) λa =>
 V a.1
  (X (-1))
  (V (zA (0<(a.2.1.length:Int)))
  (X 1)
  (X 0))
def oN(a:Check)(c:wj)(d:zr):T Bool :=
 Y (tE a.2.2.2.1 c d) λ(e,f) =>
 Y (tE a.2.2.2.2.1 c d) λ(g,h) =>
 V ((f != 0)||(h != 0))
  (X true)
  (Y (KG e g) λb =>
 V (a.2.2.1==0)
  (X (b != 0))
  (V (a.2.2.1==1)
  (X (zA (0<=b)))
  (X (zA (0<b)))))
def iN(i:Form)(d:qe)(f:Int)(j:zp)(k:Int)(l:Int)(g:qm)(h:Int):(Int×wj×zo)->T ((Int×wj×zo)⊕((wj×zo)))
 | (b,e,a)=>let c:=nth g b (zb qu);
 V (zA (b<h))
  (oI b g <|
 .W (((c.2.1==f)=true)->((c.2.2.1=true)->(((zA ((d.2.2.2.2.2.1.length:Int)<=b))=false)->(xe b d.2.2.2.2.2.1.length)))) <|
 V ((c.2.1==f)&&(c.2.2.1&&((zA ((d.2.2.2.2.2.1.length:Int)<=b))||(!(nth d.2.2.2.2.2.1 b (zb .bool))))))
  (oA a 16 <|
 oM (a.length+1) (a++([c.1]:List zx)).length <|
 X (zG ((qo (b+1)),(e,(a++([c.1]:List zx))))))
  (oC a <|
 U a <|
 X (zG ((qo (b+1)),(e,a)))))
  (oC a <|
 U a <|
 X (zE (e,a)))
def iK f2 d2 i x3 x4 x5 x6 x7 s:=zK (iN f2 d2 i x3 x4 x5 x6 x7) s
def iO(n:Form)(k:qe)(l:Int)(o:zp)(p:Int)(q:Int)(h:qp)(m:Int):(Int×wj×zo)->T ((Int×wj×zo)⊕((wj×zo)))
 | (c,d,a)=>let e:=nth h c (zb xj);
 V (zA (c<m))
  (oI c h <|
 Y (V (e.2.1==l)
  (Y (oN e d k.2.2.1) λi =>
 oC a <|
 U a <|
 X (i,(d,(a,e))))
  (oC a <|
 U a <|
 X (false,(d,(a,e)))):T ((Bool×wj×zo×Check))) λ(j,f,b,g) =>
 V j
  (oA b 16 <|
 oM (b.length+1) (b++([g.1]:List zx)).length <|
 X (zG ((qo (c+1)),(f,(b++([g.1]:List zx))))))
  (oC b <|
 U b <|
 X (zG ((qo (c+1)),(f,b)))))
  (oC a <|
 U a <|
 X (zE (d,a)))
def iL f3 d3 i1 x9 x10 x11 x12 x13 s:=zK (iO f3 d3 i1 x9 x10 x11 x12 x13) s
def iM(c:Form)(i:qe)(d:zp)(h:Int):(Int×wj×zo)->T ((Int×wj×zo)⊕((wj×zo)))
 | (a,g,b) =>
 V (zA (a<h))
  (oI a d <|
 V (!(nth d a (zb .bool)))
  (oC b <|
 U b <|
 X (zG ((qo (a+1)),(g,b))))
  (oC b <|
 U b <|
 Y (iK c i a d h a c.2.2.2.1 (c.2.2.2.1.length:Int) (0,(g,b))) λ(j,e) =>
 oC e <|
 U e <|
 Y (iL c i a d h a c.2.2.2.2.2.1 (c.2.2.2.2.2.1.length:Int) (0,(j,e))) λ(k,f) =>
 oC f <|
 U f <|
 X (zG ((qo (a+1)),(k,f)))))
  (oC b <|
 U b <|
 X (zE (g,b)))
def sR f1 d1 x x1 s:=zK (iM f1 d1 x x1) s
def iJ(b:Form)(c:qe):T zo :=
 Y (pX b c.1) λe =>
 Y (kf b c.2.1) λd =>
 oZ <|
 Y (sR b c d (d.length:Int) (0,(e,[]))) λ(f,a) =>
 U a <|
 X (zH 0 (zI (0+a.length) a))
def Q4(g:qe)(d:zp)(h:qm)(m:Int):(Int×qg)->T ((Int×qg)⊕qg)
 | (b,a)=>let c:=nth h b (zb qu);
 V (zA (b<m))
  (oI b h <|
 .W (((zA (c.2.1<(0:Int)))=false)->(((zA ((d.length:Int)<=c.2.1))=false)->(xe c.2.1 d.length))) <|
 V ((zA (c.2.1<(0:Int)))||((zA ((d.length:Int)<=c.2.1))||(!(nth d c.2.1 (zb .bool)))))
  (oC a <|
 U a <|
 X (zG ((qo (b+1)),a)))
  (Y (yT 0) λj =>
 Y (V (zA (b<(g.2.2.1.length:Int)))
  (oI b g.2.2.1 <|
 Y (vD (nth g.2.2.1 b (zb zl))) λk =>
 oC a <|
 U a <|
 X (a,(c,k)))
  (oC a <|
 U a <|
 X (a,(c,j))):T ((qg×Field×Rat))) λ(e,l,f)=>let i:=e++([(l.1,((f.1,(f.2.1,(f.2.2.1,()))),()))]:List Param);
 oA e 72 <|
 oM (e.length+1) i.length <|
 X (zG ((qo (b+1)),i))))
  (oC a <|
 U a <|
 X (zE a))
def Uz d1 on1 x x1 s:=zK (Q4 d1 on1 x x1) s
def W7(b:Form)(c:qe):T qg :=
 Y (kf b c.2.1) λd =>
 oZ <|
 Y (Uz c d b.2.2.2.1 (b.2.2.2.1.length:Int) (0,[])) λa =>
 U a <|
 X (zH 0 (zI (0+a.length) a))
def mf(f:qg)(g:Int):(Int×Unit×z7)->T ((Int×Unit×z7)⊕((Unit×z7)))
 | (c,j,b)=>let a:=nth f c (zb qf);
 V (zA (c<g))
  (oI c f <|
 oK a.1 [32] <|
 Y (gp (a.2.1.1,(a.2.1.2.1,(a.2.1.2.2.1,())))) λd =>
 oK (cat a.1 [32]) d <|
 oK (cat (cat a.1 [32]) d) [10] <|
 oC b <|
 U b <|
 Y (xo (cat (cat (cat a.1 [32]) d) [10]) () b) λ(h,i,e) =>
 oC e <|
 U e <|
 X (zG ((qo (c+1)),((),e))))
  (oC b <|
 U b <|
 X (zE ((),b)))
def Z5 x x1 s:=zK (mf x x1) s
def mI(b:qg):T zx :=
 oZ <|
 Y (Z5 b (b.length:Int) (0,((),[]))) λ(d,a) =>
 oC a <|
 U a <|
 Y (pA () a) λ(c,e) =>
 X c
def kK(a:zw):T (Answer×zw) :=
 let b:=(a.1.1,(a.1.2.1,(a.1.2.2.1,(a.1.2.2.2.1,(a.1.2.2.2.2.1,(a.1.2.2.2.2.2.1,())))))); let c:=(a.2.1.1,(a.2.1.2.1,(a.2.1.2.2.1,(a.2.1.2.2.2.1,(a.2.1.2.2.2.2.1,(a.2.1.2.2.2.2.2.1,()))))));  Y (iJ b c) λd =>
 V (zA (0<(d.length:Int)))
  (X (((15:Int),(d,([],()))),a))
  (Y (W7 b c) λe =>
 Y (mI e) λf =>
 X (((0:Int),(([]:List zx),(f,()))),(b,(c,((a.2.2.1.1,(a.2.2.1.2.1,())),(a.2.2.2.1,(true,())))))))
def gC(b:Op)(a:zw):T (Answer×zw) :=
 let d:=(a.2.1.1,(a.2.1.2.1,(a.2.1.2.2.1,(a.2.1.2.2.2.1,(a.2.1.2.2.2.2.1,(a.2.1.2.2.2.2.2.1,())))))); let c:=(a.1.1,(a.1.2.1,(a.1.2.2.1,(a.1.2.2.2.1,(a.1.2.2.2.2.1,(a.1.2.2.2.2.2.1,()))))));  V (b.1==1)
  (Y (VL c d b.2.1 b.2.2.1) λ(e,f,g) =>
 Y (vv e f g a) λ(h,i) =>
 X (h,i))
  (V (bif (b.1==2)then(b.1==2)else(b.1==3))
  (Y (Zt c d b.2.1 (b.1==2)) λ(j,k,l) =>
 Y (vv j k l a) λ(m,n) =>
 X (m,n))
  (V (b.1==4)
  (Y (ot c d b.2.1 b.2.2.1) λ(o,p,q) =>
 Y (vv o p q a) λ(r,s) =>
 X (r,s))
  (V (b.1==5)
  (Y (my c d b.2.1 b.2.2.2.1) λ(t,u,v) =>
 Y (vv t u v a) λ(w,x) =>
 X (w,x))
  (V (b.1==6)
  (Y (j5 (λz0 z1 z2=>pn z0 z1 z2) a) λ(y,z) =>
 X (y,z))
  (V (b.1==7)
  (Y (j5 (λz0 z1 z2=>pj z0 z1 z2) a) λ(A,hI) =>
 X (A,hI))
  (V (b.1==8)
  (Y (XZ c a.2.1.2.1 b.2.1) λ(C,D) =>
 Y (jI C D a) λ(κ',G) =>
 X (κ',G))
  (V (b.1==9)
  (Y (uO (λz0 z1=>tT z0 z1) a) λ(H,hb) =>
 X (H,hb))
  (V (b.1==10)
  (Y (uO (λz0 z1=>tS z0 z1) a) λ(hd,K) =>
 X (hd,K))
  (V (b.1==11)
  (Y (kK a) λ(L,h2) =>
 X (L,h2))
  (X (((1:Int),(([]:List zx),([],()))),a)))))))))))
def cy(a:zw)(b:Answer)(c:zw):T (zw×Answer×zw) :=
 V false
  (X (a,(((1:Int),(([]:List zx),([],()))),a)))
  (X (a,(b,c)))
def yG(f:Op)(a:zw):T (Answer×zw) :=
 V false
  (X (((1:Int),(([]:List zx),([],()))),a))
  (V a.2.2.2.2.1
  (X (((14:Int),(([]:List zx),([],()))),a))
  (Y (gC f a) λ(b,c) =>
 Y (cy a b c) λ(g,d,e) =>
 X (d,e)))
def fW(e:Jr)(g:Int):(Int×zw×eU)->T ((Int×zw×eU)⊕((zw×eU)))
 | (b,d,a) =>
 V (zA (b<g))
  (oI b e <|
 Y (yG (nth e b (zb fA)) d) λ(c,f) =>
 oA a 48 <|
 oM (a.length+1) (a++[c]).length <|
 X (zG ((qo (b+1)),(f,(a++[c])))))
  (oC a <|
 U a <|
 X (zE (d,a)))
def Zy x x1 s:=zK (fW x x1) s
def oa(b:Jr)(d:zw):T (zw×eU) :=
 oZ <|
 Y (Zy b (b.length:Int) (0,(d,[]))) λ(c,a) =>
 oC a <|
 U a <|
 X (c,a)
def mS(a:Op):T Answer :=
 V true
  (X ((1:Int),(([]:List zx),([],()))))
  (.fail)
def en(d:Jr)(e:Int):(Int×eU)->T ((Int×eU)⊕eU)
 | (b,a) =>
 V (zA (b<e))
  (oI b d <|
 Y (mS (nth d b (zb fA))) λc =>
 oA a 48 <|
 oM (a.length+1) (a++[c]).length <|
 X (zG ((qo (b+1)),(a++[c]))))
  (oC a <|
 U a <|
 X (zE a))
def tk x x1 s:=zK (en x x1) s
def lf(b:Jr):T eU :=
 oZ <|
 Y (tk b (b.length:Int) (0,[])) λa =>
 oC a <|
 U a <|
 X a
def gG  : T Bool :=
 Y (fX (([]:List Switch),(([]:List Param),(([([112],([],()))]:List eK),(([([97],((0:Int),(false,((0:Int),()))))]:List Field),(([]:List dW),(([]:List Check),()))))))) <|
 zF (λ(f,c,d) =>
 V ((c != 0)||false)
  (X false)
  (Y (oa ([((1:Int),([97],((false,(([1]:List Int),(([2]:List Int),()))),(false,())))),((9:Int),([],((false,(([]:List Int),(([]:List Int),()))),(false,())))),((9:Int),([],((false,(([]:List Int),(([]:List Int),()))),(false,()))))]:List Op) d) λ(g,a) =>
 .W ((((a.length:Int)==3)=true)->((xe 0 a.length)/\((uN a.length a.length (0+(zJ 0)) a.length)/\((((wi a (0+(zJ 0)) (zb wA)).1==0)=true)->((xe 1 a.length)/\((uN a.length a.length (0+(zJ 1)) a.length)/\((((wi a (0+(zJ 1)) (zb wA)).1==0)=true)->((xe 2 a.length)/\(uN a.length a.length (0+(zJ 2)) a.length))))))))) <|
 X (((a.length:Int)==3)&&(((wi a (0+(zJ 0)) (zb wA)).1==0)&&(((wi a (0+(zJ 1)) (zb wA)).1==0)&&((wi a (0+(zJ 2)) (zb wA)).1==13))))))
  (λ(h,e) =>
 V ((e != 0)||true)
  (X false)
  (Y (lf ([((1:Int),([97],((false,(([1]:List Int),(([2]:List Int),()))),(false,())))),((9:Int),([],((false,(([]:List Int),(([]:List Int),()))),(false,())))),((9:Int),([],((false,(([]:List Int),(([]:List Int),()))),(false,()))))]:List Op)) λb =>
 .W ((((b.length:Int)==3)=true)->((xe 0 b.length)/\((uN b.length b.length (0+(zJ 0)) b.length)/\((((wi b (0+(zJ 0)) (zb wA)).1==0)=true)->((xe 1 b.length)/\((uN b.length b.length (0+(zJ 1)) b.length)/\((((wi b (0+(zJ 1)) (zb wA)).1==0)=true)->((xe 2 b.length)/\(uN b.length b.length (0+(zJ 2)) b.length))))))))) <|
 X (((b.length:Int)==3)&&(((wi b (0+(zJ 0)) (zb wA)).1==0)&&(((wi b (0+(zJ 1)) (zb wA)).1==0)&&((wi b (0+(zJ 2)) (zb wA)).1==13))))))
def eE(e:AM.Expr->Int->T Int)(c:AM.Expr):(Int×Int)->T ((Int×Int)⊕Int)
 | (b,a) =>
 V ((zA (a<((Expr.kids c).length:Int)))&&(zA (0<=b)))
  (oI a (Expr.kids c) <|
 Y (e (nth (Expr.kids c) a (zb .expr)) b) λd =>
 X (zG (d,(qo (a+1)))))
  (X (zE b))
def nR self_law22_weight e1 s:=zK (eE self_law22_weight e1) s
def dq(c:AM.Expr->Int->T Int)(a:AM.Expr)(d:Int):T Int :=
 Y (nR c a ((qo ((qo ((qo ((qo (d-3))-((Expr.name a).length:Int)))-(qo (8*(zM (zL (Expr.num a).2.1):Int)))))-(qo (8*(zM (zL (Expr.num a).2.2.1):Int))))),0)) λb =>
 X b
def bT(e:AM.Expr)(left:Int):T Int:=T.fix (λF x=>dq (λy0 y1=>F (y0,y1)) x.1 x.2) (e,left)
def rm(b:Form):(Int×Int)->T ((Int×Int)⊕Int)
 | (c,a) =>
 V ((zA (a<(b.2.1.length:Int)))&&(zA (0<=c)))
  (oI a b.2.1 <|
 oI a b.2.1 <|
 oI a b.2.1 <|
 X (zG ((qo ((qo ((qo (c-(qo (8*(zM (zL (nth b.2.1 a (zb qf)).2.1.2.1):Int)))))-(qo (8*(zM (zL (nth b.2.1 a (zb qf)).2.1.2.2.1):Int)))))-(zM (zL (nth b.2.1 a (zb qf)).1):Int))),(qo (a+1)))))
  (X (zE c))
def YA f1 s:=zK (rm f1) s
def rq(c:Form):(Int×Int)->T ((Int×Int)⊕Int)
 | (b,a) =>
 V ((zA (a<(c.1.length:Int)))&&(zA (0<=b)))
  (oI a c.1 <|
 X (zG ((qo (b-(zM (zL (nth c.1 a (zb qq)).1):Int))),(qo (a+1)))))
  (X (zE b))
def YB f2 s:=zK (rq f2) s
def ru(b:Form):(Int×Int)->T ((Int×Int)⊕Int)
 | (c,a) =>
 V ((zA (a<(b.2.2.1.length:Int)))&&(zA (0<=c)))
  (oI a b.2.2.1 <|
 oI a b.2.2.1 <|
 X (zG ((qo ((qo (c-(zM (zL (nth b.2.2.1 a (zb xp)).1):Int)))-(zM (zL (nth b.2.2.1 a (zb xp)).2.1):Int))),(qo (a+1)))))
  (X (zE c))
def YC f3 s:=zK (ru f3) s
def ry(c:Form):(Int×Int)->T ((Int×Int)⊕Int)
 | (b,a) =>
 V ((zA (a<(c.2.2.2.1.length:Int)))&&(zA (0<=b)))
  (oI a c.2.2.2.1 <|
 X (zG ((qo (b-(zM (zL (nth c.2.2.2.1 a (zb qu)).1):Int))),(qo (a+1)))))
  (X (zE b))
def YD f4 s:=zK (ry f4) s
def rA(b:Form):(Int×Int)->T ((Int×Int)⊕Int)
 | (d,a)=>let c:=nth b.2.2.2.2.1 a (zb xl);
 V ((zA (a<(b.2.2.2.2.1.length:Int)))&&(zA (0<=d)))
  (oI a b.2.2.2.2.1 <|
 oI a b.2.2.2.2.1 <|
 oI a b.2.2.2.2.1 <|
 oI a b.2.2.2.2.1 <|
 Y (bT c.2.2.2.1 (qo ((qo (d-(c.1.length:Int)))-(c.2.2.1.length:Int)))) λe =>
 Y (bT c.2.2.2.2.1 e) λf =>
 X (zG (f,(qo (a+1)))))
  (X (zE d))
def YE f5 s:=zK (rA f5) s
def rB(b:Form):(Int×Int)->T ((Int×Int)⊕Int)
 | (c,a)=>let d:=nth b.2.2.2.2.2.1 a (zb xj);
 V ((zA (a<(b.2.2.2.2.2.1.length:Int)))&&(zA (0<=c)))
  (oI a b.2.2.2.2.2.1 <|
 oI a b.2.2.2.2.2.1 <|
 oI a b.2.2.2.2.2.1 <|
 Y (bT d.2.2.2.1 (qo (c-(d.1.length:Int)))) λe =>
 Y (bT d.2.2.2.2.1 e) λf =>
 X (zG (f,(qo (a+1)))))
  (X (zE c))
def YF f6 s:=zK (rB f6) s
def sH(a:Form):T Bool :=
 Y (YA a ((qo (600-(qo (20*(qo ((qo ((qo ((qo ((qo ((a.1.length:Int)+(a.2.1.length:Int)))+(a.2.2.1.length:Int)))+(a.2.2.2.1.length:Int)))+(a.2.2.2.2.1.length:Int)))+(a.2.2.2.2.2.1.length:Int))))))),0)) λb =>
 Y (YB a (b,0)) λc =>
 Y (YC a (c,0)) λd =>
 Y (YD a (d,0)) λe =>
 Y (YE a (e,0)) λf =>
 Y (YF a (f,0)) λg =>
 X (zA (g<0))
def tp(b:Jr):Int->T (Int⊕(Unit⊕Bool))
 | a=>let c:=nth b a (zb fA);
 V ((zA (a<(b.length:Int)))&&(zA (a<25)))
  (.W ((xe a b.length)/\(((zA (60<(c.2.1.length:Int)))=false)->((xe a b.length)/\(((zA (3<(c.2.2.1.2.1.length:Int)))=false)->(xe a b.length))))) <|
 V ((zA (60<(c.2.1.length:Int)))||((zA (3<(c.2.2.1.2.1.length:Int)))||(zA (3<(c.2.2.1.2.2.1.length:Int)))))
  (X (zE (zE true)))
  (X (zG (qo (a+1)))))
  (X (zE (zG ())))
def Wu l1 s:=zK (tp l1) s
def ZM(b:Jr):T Bool :=
 Y (Wu b 0) <|
 zF (λ_ =>
 X false)
  (λa =>
 X a)
def pT(b:zx):T zx :=
 Y (strconv_Itoa (b.length:Int)) λa =>
 oK a [10] <|
 oK (cat a [10]) b <|
 X (cat (cat a [10]) b)
def Zu(d:zo)(e:Int):(zx×Int)->T ((zx×Int)⊕zx)
 | (b,a) =>
 V (zA (a<e))
  (oI a d <|
 Y (pT (nth d a (zb .str))) λc =>
 oK b c <|
 X (zG ((cat b c),(qo (a+1)))))
  (X (zE b))
def VQ x x1 s:=zK (Zu x x1) s
def tO(a:zx)(c:zo):T zx :=
 oK a [32] <|
 Y (strconv_Itoa (c.length:Int)) λb =>
 oK (cat a [32]) b <|
 oK (cat (cat a [32]) b) [10] <|
 Y (VQ c (c.length:Int) ((cat (cat (cat a [32]) b) [10]),0)) λd =>
 X d
def WS(a:E5):T zx :=
 Y (pT a.1) λb =>
 Y (tO [112,97,115,116] a.2.1.1) λc =>
 oK b c <|
 Y (tO [102,117,116,117,114,101] a.2.1.2.1) λd=>let g:=cat (cat (cat b c) d) [112,97,103,101,32];
 oK (cat b c) d <|
 oK (cat (cat b c) d) [112,97,103,101,32] <|
 Y (strconv_Itoa a.2.2.1) λe=>let h:=cat (cat g e) [10,115,101,110,116,32];
 oK g e <|
 oK (cat g e) [10,115,101,110,116,32] <|
 Y (dH a.2.2.2.1) λf =>
 oK h f <|
 oK (cat h f) [10] <|
 X (cat (cat h f) [10])
def jR(a:zw):T zx :=
 V false
  (X [])
  (Y (cZ a.2.1) λb =>
 Y (WS (b,((a.2.2.1.1,(a.2.2.1.2.1,())),(a.2.2.2.1,(a.2.2.2.2.1,()))))) λc =>
 X c)
def cB(e:Jr):(Int×zw)->T ((Int×zw)⊕(zw⊕(Bool×zw)))
 | (b,d) =>
 V ((zA (b<(e.length:Int)))&&(zA (b<25)))
  (Y (jR d) λg =>
 oI b e <|
 Y (yG (nth e b (zb fA)) d) λ(a,c) =>
 Y (V (a.1 != 0)
  (Y (jR c) λh =>
 V (!(wK h g))
  (X (true,(c,a)))
  (X ((!(wK a.2.2.1 [])),(c,a))))
  (X (false,(c,a))):T ((Bool×zw×Answer))) λ(i,f,j) =>
 V i
  (X (zE (zE (false,f))))
  (X (zG ((qo (b+1)),f))))
  (X (zE (zG d)))
def ll l1 s:=zK (cB l1) s
def yI(a:Form)(b:Jr):T Bool :=
 Y (Y (sH a) λc =>
 V c
  (X true)
  (Y (ZM b) λd =>
 X d):T Bool) λe =>
 V e
  (X true)
  (Y (fX a) <|
 zF (λ(m,f,g) =>
 V (f != 0)
  (V false
  (Y (gG) λh =>
 X h)
  (X false))
  (Y (ll b (0,g)) <|
 zF (λn =>
 Y (gG) λi =>
 X i)
  (λ(j,o) =>
 X j)))
  (λ(p,k) =>
 V (k != 0)
  (V true
  (Y (gG) λl =>
 X l)
  (X false))
  (.fail)))

end Go.AM.Lf
