/-
  The program's functions as trees in plain Lean, part 1: printed by a program of ours.
-/
import Derived.Test.YtjklmealdnfhfaaGreatDoorLf0
set_option linter.unusedVariables false
open Decidable renaming decide -> zA
open Go.AM.T renaming bind -> Y, ret -> X, ite -> V, loop -> zK
open Sum renaming inr -> zE, inl -> zH, elim -> zI
open List renaming drop -> zF, take -> zG, length -> zL, isEmpty -> zN
open Int renaming toNat -> zJ
open Nat renaming cast -> zM
noncomputable section
namespace Go.AM.Lf
def fR(e:Form)(L:qe)(ae:Unit)(f:zu)(g:zr)(h:zu)(a:z7)(i:zq)(j:zr):T ((zu×Unit)×zo×Int×zu×zr×z7×zq×zr) :=
 let x:=((zF 0 (zG (0+f.length) f)),((zF 0 (zG (0+g.length) g)),((zF 0 (zG (0+h.length) h)),((zF 0 (zG (0+i.length) i)),((zF 0 (zG (0+j.length) j)),())))));  Y (cZ e L) <|
 zI (λ(y,b,k,l,m) =>
 V (y != 0)
  (.W (zp 0 0 0 0) <|
 .W (zp 0 0 0 0) <|
 .W (zp 0 0 0 0) <|
 .W (zp 0 0 0 0) <|
 oZ <|
 .W (0=0) <|
 .W (0=0) <|
 .W (0=0) <|
 .W (0=0) <|
 X (([],()),([],(y,([],([],([],([],[]))))))))
  (U f <|
 U g <|
 U h <|
 U i <|
 U j <|
 oC a <|
 U a <|
 Y (ep e x a) <|
 zI (λ(z,n,c,o,p,q) =>
 V (z != 0)
  (.W (zp 0 0 0 0) <|
 .W (zp 0 0 0 0) <|
 .W (zp 0 0 0 0) <|
 .W (zp 0 0 0 0) <|
 oZ <|
 .W (0=0) <|
 .W (0=0) <|
 .W (0=0) <|
 .W (0=0) <|
 X (([],()),([],(z,([],([],([],([],[]))))))))
  (U n <|
 .W (zp a.length 0 a.length n.length) <|
 oC k <|
 oC l <|
 oC m <|
 U k <|
 U l <|
 U m <|
 oC o <|
 oC p <|
 oC q <|
 U o <|
 U p <|
 U q <|
 Y (Qn e (a.length:Int) (0,(n,(x,((([]:List Rat),(([]:List Bool),(([]:List Rat),(([]:List Int),(([]:List ql),(([]:List Bool),())))))),((b.1,(b.2.1,(b.2.2.1,(b.2.2.2.1,(b.2.2.2.2.1,(b.2.2.2.2.2.1,())))))),(k,(l,(m,((c.1,(c.2.1,(c.2.2.1,(c.2.2.2.1,(c.2.2.2.2.1,(c.2.2.2.2.2.1,())))))),(o,(p,q)))))))))))) λ(r,d,h2,hx,κ,P,hl,S,oE,zD,zk) =>
 U r <|
 Y (dJ e (d.1,(d.2.1,(d.2.2.1,((zF 0 (zG (0+r.length) r)),(d.2.2.2.1,(d.2.2.2.2.1,()))))))) λ(κ',G,H,s,t,u,v,w) =>
 oC s <|
 oC t <|
 oC u <|
 oC v <|
 oC w <|
 U s <|
 U t <|
 U u <|
 U v <|
 U w <|
 X ((κ'.1,()),(G,(H,(s,(t,(u,(v,w)))))))))
  (λ(hb,A,zC) =>
 V (A != 0)
  (.W (zp 0 0 0 0) <|
 .W (zp 0 0 0 0) <|
 .W (zp 0 0 0 0) <|
 .W (zp 0 0 0 0) <|
 oZ <|
 .W (0=0) <|
 .W (0=0) <|
 .W (0=0) <|
 .W (0=0) <|
 X (([],()),(hb,(A,([],([],([],([],[]))))))))
  (.fail))))
  (λ(hd,hI) =>
 V (hI != 0)
  (.W (zp 0 0 0 0) <|
 .W (zp 0 0 0 0) <|
 .W (zp 0 0 0 0) <|
 .W (zp 0 0 0 0) <|
 oZ <|
 .W (0=0) <|
 .W (0=0) <|
 .W (0=0) <|
 .W (0=0) <|
 X (([],()),(hd,(hI,([],([],([],([],[]))))))))
  (U f <|
 U g <|
 U h <|
 U i <|
 U j <|
 oC a <|
 U a <|
 Y (ep e x a) <|
 zI (λ(C,zB,z6,aa,ab,ac) =>
 V (C != 0)
  (.W (zp 0 0 0 0) <|
 .W (zp 0 0 0 0) <|
 .W (zp 0 0 0 0) <|
 .W (zp 0 0 0 0) <|
 oZ <|
 .W (0=0) <|
 .W (0=0) <|
 .W (0=0) <|
 .W (0=0) <|
 X (([],()),([],(C,([],([],([],([],[]))))))))
  (.fail))
  (λ(K,D,ad) =>
 V (D != 0)
  (.W (zp 0 0 0 0) <|
 .W (zp 0 0 0 0) <|
 .W (zp 0 0 0 0) <|
 .W (zp 0 0 0 0) <|
 oZ <|
 .W (0=0) <|
 .W (0=0) <|
 .W (0=0) <|
 .W (0=0) <|
 X (([],()),(K,(D,([],([],([],([],[]))))))))
  (.fail))))
def oz(m:Form)(n:qe)(p:zx)(q:Rat):T (qe×zo×Int) :=
 Y (vJ m.2.1 (λr=>gw r p)) λb =>
 Y (QQ m n) λs =>
 V (!s)
  (X ((([]:List Rat),(([]:List Bool),(([]:List Rat),(([]:List Int),(([]:List ql),(([]:List Bool),())))))),([],1)))
  (V (zA (b<0))
  (X ((([]:List Rat),(([]:List Bool),(([]:List Rat),(([]:List Int),(([]:List ql),(([]:List Bool),())))))),([],5)))
  (Y (bR q) λt =>
 V (!t)
  (X ((([]:List Rat),(([]:List Bool),(([]:List Rat),(([]:List Int),(([]:List ql),(([]:List Bool),())))))),([p],8)))
  (Y (lQ n) λ(y,a,c,d,e,f,g) =>
 Y (vF q) λu=>let o:=List.set a (0+(zJ b)) u;
 oI b a <|
 .W (uO a.length a.length (0+(zJ b)) a.length) <|
 .W (zp a.length 0 a.length o.length) <|
 oC c <|
 oC d <|
 oC e <|
 oC f <|
 oC g <|
 .W (a.length=o.length) <|
 U c <|
 U d <|
 U e <|
 U f <|
 U g <|
 Y (fR m n () o c d e f g) λ(v,w,x,h,i,j,k,l) =>
 U h <|
 U i <|
 U j <|
 U k <|
 U l <|
 X (((zF 0 (zG (0+h.length) h)),((zF 0 (zG (0+i.length) i)),(v.1,((zF 0 (zG (0+j.length) j)),((zF 0 (zG (0+k.length) k)),((zF 0 (zG (0+l.length) l)),())))))),(w,x)))))
def yx(a:Switch)(b:zx):T Bool :=
 X (wL a.1 b)
def mB(m:Form)(n:qe)(u:zx)(v:Bool):T (qe×zo×Int) :=
 Y (wa m.1 (λp=>yx p u)) λb =>
 Y (QQ m n) λq =>
 V (!q)
  (X ((([]:List Rat),(([]:List Bool),(([]:List Rat),(([]:List Int),(([]:List ql),(([]:List Bool),())))))),([],1)))
  (V (zA (b<0))
  (X ((([]:List Rat),(([]:List Bool),(([]:List Rat),(([]:List Int),(([]:List ql),(([]:List Bool),())))))),([],5)))
  (Y (lQ n) λ(w,c,a,d,e,f,g)=>let o:=List.set a (0+(zJ b)) v;
 oI b a <|
 .W (uO a.length a.length (0+(zJ b)) a.length) <|
 oC c <|
 .W (zp a.length 0 a.length o.length) <|
 oC d <|
 oC e <|
 oC f <|
 oC g <|
 U c <|
 .W (a.length=o.length) <|
 U d <|
 U e <|
 U f <|
 U g <|
 Y (fR m n () c o d e f g) λ(r,s,t,h,i,j,k,l) =>
 U h <|
 U i <|
 U j <|
 U k <|
 U l <|
 X (((zF 0 (zG (0+h.length) h)),((zF 0 (zG (0+i.length) i)),(r.1,((zF 0 (zG (0+j.length) j)),((zF 0 (zG (0+k.length) k)),((zF 0 (zG (0+l.length) l)),())))))),(s,t))))
def jL(c:Int)(b:Int)(a:zl):T (Answer×zl) :=
 V (b != 0)
  (X ((b,(([]:List zx),([],()))),a))
  (X (((0:Int),(([]:List zx),([],()))),((a.1.1,(a.1.2.1,(a.1.2.2.1,(a.1.2.2.2.1,(a.1.2.2.2.2.1,(a.1.2.2.2.2.2.1,())))))),((a.2.1.1,(a.2.1.2.1,(a.2.1.2.2.1,(a.2.1.2.2.2.1,(a.2.1.2.2.2.2.1,(a.2.1.2.2.2.2.2.1,())))))),((a.2.2.1.1,(a.2.2.1.2.1,())),(c,(a.2.2.2.2.1,())))))))
def j6(f:Form->zr->Int->T (Int×Bool))(a:zl):T (Answer×zl) :=
 Y (f (a.1.1,(a.1.2.1,(a.1.2.2.1,(a.1.2.2.2.1,(a.1.2.2.2.2.1,(a.1.2.2.2.2.2.1,())))))) a.2.1.2.1 a.2.2.2.1) λ(b,c) =>
 V (!c)
  (X (((13:Int),(([]:List zx),([],()))),a))
  (Y (jL b 0 a) λ(d,e) =>
 X (d,e))
def dP(a:eN)(b:zx):T Bool :=
 X (wL a.1 b)
def W5(c:Form)(e:zr)(f:zx):T (Int×Int) :=
 Y (uV c.2.2.1 (λd=>dP d f)) λa =>
 V (zA (a<0))
  (X ((-1),5))
  (Y (ko c e) λb =>
 oI a b <|
 V (!(nth b a (zb .bool)))
  (X ((-1),12))
  (X (a,0)))
def wQ(a:zo):T zo :=
 let b:=0+a.length;  .W (a=[]->∀ r,T.leads (.W (vV 0 0 0 0 0 a.length 16) <|
 .W (b=b) <|
 X (zF 0 (zG (0+b) a)):T _) r->T.leads (X []:T _) r) <|
 .W (vV 0 0 0 0 0 a.length 16) <|
 .W (b=b) <|
 X (zF 0 (zG (0+b) a))
def tX(b:zo)(f:zo)(g:zx):T (zo×zo×zx) :=
 let c:=qi ((b.length:Int)-1);  .W (jA 0 c b.length) <|
 Y (wR (jJ (e:=.str) 0 c b)) λd =>
 Y (wR f) λa =>
 oA a 16 <|
 oI c b <|
 U d <|
 .W ((a.length+1)=(a.length+1)) <|
 X ((zF 0 (zG (0+d.length) d)),((zF 0 (zG (0+(a.length+1)) (a++[g]))),(nth b c (zb .str))))
def tW(a:vo)(g:zx):T (vo×zx×Bool) :=
 V ((a.1.length:Int)==0)
  (Y (wQ a.1) λb =>
 Y (wQ a.2.1) λc =>
 X ((b,(c,())),([],false)))
  (Y (tX a.1 a.2.1 g) λ(d,e,f) =>
 X ((d,(e,())),(f,true)))
def uw(a:Bool):T (Unit⊕Unit) :=
 V (!a)
  (X (zE ()))
  (X (zH ()))
def b9(a:gE):T ((zx×gE)⊕(Unit×gE)) :=
 Y (strings_Cut a.1 [10]) λ(b,c,d) =>
 Y (uw d) <|
 zI (λ_ =>
 X (zH (b,(c,()))))
  (λe =>
 X (zE (e,a)))
def wO(h:zx)(i:gE):T ((zo×gE)⊕(Unit×gE)) :=
 Y (b9 i) <|
 zI (λ(c,b) =>
 Y (strings_Split c [32]) λa =>
 oI 0 a <|
 Y (uw (wL (nth a 0 (zb .str)) h)) <|
 zI (λ_ =>
 .W (jA 1 (a.length:Int) a.length) <|
 X (zH ((jJ (e:=.str) 1 (a.length:Int) a),b)))
  (λd =>
 X (zE (d,b))))
  (λ(f,g) =>
 X (zE (f,g)))
def dc(d:zx):T (Rat⊕Unit) :=
 Y (pj d) λ(a,b) =>
 Y (uw (b==0)) <|
 zI (λ_ =>
 X (zH a))
  (λc =>
 X (zE c))
def gC(d:zo)(f:Int):(Int×zu)->T ((Int×zu)⊕(zu⊕(Unit×zu)))
 | (b,a) =>
 V (zA (b<f))
  (oI b d <|
 Y (dc (nth d b (zb .str))) <|
 zI (λc =>
 oA a 56 <|
 oM (a.length+1) (a++[c]).length <|
 X (zH ((qi (b+1)),(a++[c]))))
  (λe =>
 U a <|
 X (zE (zE (e,a)))))
  (oC a <|
 U a <|
 X (zE (zH a)))
def fT x x1 s:=zK (gC x x1) s
def uL(b:zo)(e:Unit):T (zu⊕Unit) :=
 oZ <|
 Y (fT b (b.length:Int) (0,[])) <|
 zI (λa =>
 oC a <|
 U a <|
 X (zH a))
  (λ(c,d) =>
 X (zE c))
def mD(a:zx):T (Bool⊕Unit) :=
 V (wL a [48])
  (Y (uw true) <|
 zI (λ_ =>
 X (zH (wL a [49])))
  (λb =>
 X (zE b)))
  (Y (uw (wL a [49])) <|
 zI (λ_ =>
 X (zH (wL a [49])))
  (λc =>
 X (zE c)))
def gD(d:zo)(f:Int):(Int×zr)->T ((Int×zr)⊕(zr⊕(Unit×zr)))
 | (b,a) =>
 V (zA (b<f))
  (oI b d <|
 Y (mD (nth d b (zb .str))) <|
 zI (λc =>
 oA a 1 <|
 oM (a.length+1) (a++[c]).length <|
 X (zH ((qi (b+1)),(a++[c]))))
  (λe =>
 U a <|
 X (zE (zE (e,a)))))
  (oC a <|
 U a <|
 X (zE (zH a)))
def fU x x1 s:=zK (gD x x1) s
def uM(b:zo)(e:Unit):T (zr⊕Unit) :=
 oZ <|
 Y (fU b (b.length:Int) (0,[])) <|
 zI (λa =>
 oC a <|
 U a <|
 X (zH a))
  (λ(c,d) =>
 X (zE c))
def dgV(s:zx):Nat:=s.foldl (λn b=>n*10+(b.toNat-48)) 0
def strconv_Atoi(s:zx):T Int:=.W ((s≠[]/\s.length<=18)/\∀ b∈s,48<=b.toNat/\b.toNat<=57) (X (dgV s:Int))
def mC(a:zx):T (Int⊕Unit) :=
 Y (V (!(wL a []))
  (V (zA ((a.length:Int)<=18))
  (Y (cj a [48,49,50,51,52,53,54,55,56,57]) λb =>
 Y (uw (wL b [])) <|
 zI (λ_ =>
 X (zH ()))
  (λc =>
 X (zE c)))
  (Y (uw false) <|
 zI (λ_ =>
 X (zH ()))
  (λd =>
 X (zE d))))
  (Y (uw false) <|
 zI (λ_ =>
 X (zH ()))
  (λe =>
 X (zE e))):T (Unit⊕Unit)) <|
 zI (λ_ =>
 Y (strconv_Atoi a) λf =>
 Y (uw true) <|
 zI (λ_ =>
 X (zH f))
  (λg =>
 X (zE g)))
  (λh =>
 X (zE h))
def mE(a:zx):T (Int⊕Unit) :=
 V (wL a [45])
  (X (zH (-1)))
  (Y (mC a) <|
 zI (λb =>
 X (zH b))
  (λc =>
 X (zE c)))
def hH(d:zo)(f:Int):(Int×z7)->T ((Int×z7)⊕(z7⊕(Unit×z7)))
 | (b,a) =>
 V (zA (b<f))
  (oI b d <|
 Y (mE (nth d b (zb .str))) <|
 zI (λc =>
 oA a 8 <|
 oM (a.length+1) (a++[c]).length <|
 X (zH ((qi (b+1)),(a++[c]))))
  (λe =>
 U a <|
 X (zE (zE (e,a)))))
  (oC a <|
 U a <|
 X (zE (zH a)))
def lf x x1 s:=zK (hH x x1) s
def kV(b:zo)(e:Unit):T (z7⊕Unit) :=
 oZ <|
 Y (lf b (b.length:Int) (0,[])) <|
 zI (λa =>
 oC a <|
 U a <|
 X (zH a))
  (λ(c,d) =>
 X (zE c))
def jY(a:zx)(b:zx):T Bool :=
 .W (((zA ((b.length:Int)<=(a.length:Int)))=true)->(jA (qi ((a.length:Int)-(b.length:Int))) (a.length:Int) a.length)) <|
 X ((zA ((b.length:Int)<=(a.length:Int)))&&(wL (fK (qi ((a.length:Int)-(b.length:Int))) (a.length:Int) a) b))
def jW(a:zx)(b:zx):T (zx×Bool) :=
 Y (jY a b) λc =>
 V (!c)
  (X (a,false))
  (.W (jA 0 (qi ((a.length:Int)-(b.length:Int))) a.length) <|
 X ((fK 0 (qi ((a.length:Int)-(b.length:Int))) a),true))
def strings_CutSuffix(c:zx)(d:zx):T (zx×Bool) :=
 Y (jW c d) λ(a,b) =>
 X (a,b)
def mF(c:zx):T (ql⊕Unit) :=
 V (wL c [45])
  (Y (yW 0) λa =>
 X (zH (false,(false,((a.1,(a.2.1,(a.2.2.1,()))),())))))
  (Y (strings_CutSuffix c [33]) λ(d,e) =>
 Y (dc d) <|
 zI (λb =>
 X (zH (true,(e,((b.1,(b.2.1,(b.2.2.1,()))),())))))
  (λf =>
 X (zE f)))
def yt(d:zo)(f:Int):(Int×zq)->T ((Int×zq)⊕(zq⊕(Unit×zq)))
 | (b,a) =>
 V (zA (b<f))
  (oI b d <|
 Y (mF (nth d b (zb .str))) <|
 zI (λc =>
 oA a 64 <|
 oM (a.length+1) (a++[c]).length <|
 X (zH ((qi (b+1)),(a++[c]))))
  (λe =>
 U a <|
 X (zE (zE (e,a)))))
  (oC a <|
 U a <|
 X (zE (zH a)))
def ev x x1 s:=zK (yt x x1) s
def ji(b:zo)(e:Unit):T (zq⊕Unit) :=
 oZ <|
 Y (ev b (b.length:Int) (0,[])) <|
 zI (λa =>
 oC a <|
 U a <|
 X (zH a))
  (λ(c,d) =>
 X (zE c))
def fS(a:Int):T Int :=
 V true
  (X a)
  (.fail)
def wC(b:Unit)(a:Int):T Int :=
 V false
  (X a)
  (V true
  (X 2)
  (.fail))
def oB(g:zx):T (Unit×Int×zu×zr×zu×z7×zq×zr) :=
 Y (wO [112,97,114,97,109,115] (g,())) <|
 zI (λ(k,l) =>
 Y (uL k ()) <|
 zI (λa=>let h:=(a,([],([],([],([],[])))));
 Y (wO [111,110] l) <|
 zI (λ(m,n) =>
 Y (uM m ()) <|
 zI (λb=>let i:=(a,(b,([],([],([],[])))));
 Y (wO [118,97,108,115] n) <|
 zI (λ(o,p) =>
 Y (uL o ()) <|
 zI (λc=>let j:=(a,(b,(c,([],([],[])))));
 Y (wO [111,117,116,115] p) <|
 zI (λ(q,r) =>
 Y (kV q ()) <|
 zI (λd =>
 Y (wO [112,105,110,115] r) <|
 zI (λ(s,t) =>
 Y (ji s ()) <|
 zI (λe =>
 Y (wO [102,105,108,108,101,100] t) <|
 zI (λ(u,aa) =>
 Y (uM u ()) <|
 zI (λf =>
 oW a b c d e f <|
 Y (ff ((zF 0 (zG (0+a.length) a)),((zF 0 (zG (0+b.length) b)),((zF 0 (zG (0+c.length) c)),((zF 0 (zG (0+d.length) d)),((zF 0 (zG (0+e.length) e)),((zF 0 (zG (0+f.length) f)),()))))))) λv =>
 Y (uw (wL v g)) <|
 zI (λ_ =>
 Y (fS 0) λw =>
 oY a b c d e f <|
 X ((),(w,(a,(b,(c,(d,(e,f))))))))
  (λx =>
 Y (wC x 0) λy =>
 oY a b c d e f <|
 X ((),(y,(a,(b,(c,(d,(e,f)))))))))
  (λz =>
 Y (wC z 0) λA =>
 oC a <|
 oC b <|
 oC c <|
 oC d <|
 oC e <|
 .W (zp 0 0 0 0) <|
 U a <|
 U b <|
 U c <|
 U d <|
 U e <|
 .W (0=0) <|
 X ((),(A,(a,(b,(c,(d,(e,[])))))))))
  (λ(hI,ab) =>
 Y (wC hI 0) λC =>
 oC a <|
 oC b <|
 oC c <|
 oC d <|
 oC e <|
 .W (zp 0 0 0 0) <|
 U a <|
 U b <|
 U c <|
 U d <|
 U e <|
 .W (0=0) <|
 X ((),(C,(a,(b,(c,(d,(e,[])))))))))
  (λD =>
 Y (wC D 0) λκ' =>
 oC a <|
 oC b <|
 oC c <|
 oC d <|
 .W (zp 0 0 0 0) <|
 .W (zp 0 0 0 0) <|
 U a <|
 U b <|
 U c <|
 U d <|
 .W (0=0) <|
 .W (0=0) <|
 X ((),(κ',(a,(b,(c,(d,([],[])))))))))
  (λ(G,ac) =>
 Y (wC G 0) λH =>
 oC a <|
 oC b <|
 oC c <|
 oC d <|
 .W (zp 0 0 0 0) <|
 .W (zp 0 0 0 0) <|
 U a <|
 U b <|
 U c <|
 U d <|
 .W (0=0) <|
 .W (0=0) <|
 X ((),(H,(a,(b,(c,(d,([],[])))))))))
  (λhb =>
 Y (wC hb 0) λhd =>
 oC a <|
 oC b <|
 oC c <|
 .W (zp 0 0 0 0) <|
 .W (zp 0 0 0 0) <|
 .W (zp 0 0 0 0) <|
 U a <|
 U b <|
 U c <|
 .W (0=0) <|
 .W (0=0) <|
 .W (0=0) <|
 X ((),(hd,j))))
  (λ(K,ad) =>
 Y (wC K 0) λL =>
 oC a <|
 oC b <|
 oC c <|
 .W (zp 0 0 0 0) <|
 .W (zp 0 0 0 0) <|
 .W (zp 0 0 0 0) <|
 U a <|
 U b <|
 U c <|
 .W (0=0) <|
 .W (0=0) <|
 .W (0=0) <|
 X ((),(L,j))))
  (λh2 =>
 Y (wC h2 0) λhx =>
 oC a <|
 oC b <|
 .W (zp 0 0 0 0) <|
 .W (zp 0 0 0 0) <|
 .W (zp 0 0 0 0) <|
 .W (zp 0 0 0 0) <|
 U a <|
 U b <|
 .W (0=0) <|
 .W (0=0) <|
 .W (0=0) <|
 .W (0=0) <|
 X ((),(hx,i))))
  (λ(κ,ae) =>
 Y (wC κ 0) λP =>
 oC a <|
 oC b <|
 .W (zp 0 0 0 0) <|
 .W (zp 0 0 0 0) <|
 .W (zp 0 0 0 0) <|
 .W (zp 0 0 0 0) <|
 U a <|
 U b <|
 .W (0=0) <|
 .W (0=0) <|
 .W (0=0) <|
 .W (0=0) <|
 X ((),(P,i))))
  (λhl =>
 Y (wC hl 0) λS =>
 oC a <|
 .W (zp 0 0 0 0) <|
 .W (zp 0 0 0 0) <|
 .W (zp 0 0 0 0) <|
 .W (zp 0 0 0 0) <|
 .W (zp 0 0 0 0) <|
 U a <|
 .W (0=0) <|
 .W (0=0) <|
 .W (0=0) <|
 .W (0=0) <|
 .W (0=0) <|
 X ((),(S,h))))
  (λ(oE,af) =>
 Y (wC oE 0) λzD =>
 oC a <|
 .W (zp 0 0 0 0) <|
 .W (zp 0 0 0 0) <|
 .W (zp 0 0 0 0) <|
 .W (zp 0 0 0 0) <|
 .W (zp 0 0 0 0) <|
 U a <|
 .W (0=0) <|
 .W (0=0) <|
 .W (0=0) <|
 .W (0=0) <|
 .W (0=0) <|
 X ((),(zD,h))))
  (λzk =>
 Y (wC zk 0) λzC =>
 .W (zp 0 0 0 0) <|
 .W (zp 0 0 0 0) <|
 .W (zp 0 0 0 0) <|
 .W (zp 0 0 0 0) <|
 .W (zp 0 0 0 0) <|
 oZ <|
 .W (0=0) <|
 .W (0=0) <|
 .W (0=0) <|
 .W (0=0) <|
 .W (0=0) <|
 X ((),(zC,([],([],([],([],([],[])))))))))
  (λ(zB,ag) =>
 Y (wC zB 0) λz6 =>
 .W (zp 0 0 0 0) <|
 .W (zp 0 0 0 0) <|
 .W (zp 0 0 0 0) <|
 .W (zp 0 0 0 0) <|
 .W (zp 0 0 0 0) <|
 oZ <|
 .W (0=0) <|
 .W (0=0) <|
 .W (0=0) <|
 .W (0=0) <|
 .W (0=0) <|
 X ((),(z6,([],([],([],([],([],[]))))))))
def sF(j:Form)(k:zx):T (qe×Int) :=
 Y (oB k) λ(l,g,a,b,c,d,e,f)=>let h:=((zF 0 (zG (0+a.length) a)),((zF 0 (zG (0+b.length) b)),((zF 0 (zG (0+c.length) c)),((zF 0 (zG (0+d.length) d)),((zF 0 (zG (0+e.length) e)),((zF 0 (zG (0+f.length) f)),()))))));
 V (g != 0)
  (X ((([]:List Rat),(([]:List Bool),(([]:List Rat),(([]:List Int),(([]:List ql),(([]:List Bool),())))))),g))
  (oW a b c d e f <|
 Y (QQ j h) λi =>
 V (!i)
  (X ((([]:List Rat),(([]:List Bool),(([]:List Rat),(([]:List Int),(([]:List ql),(([]:List Bool),())))))),1))
  (oW a b c d e f <|
 X (h,0)))
def uP(j:vo->zx->T (vo×zx×Bool))(a:zl):T (Answer×zl) :=
 let c:=(a.1.1,(a.1.2.1,(a.1.2.2.1,(a.1.2.2.2.1,(a.1.2.2.2.2.1,(a.1.2.2.2.2.2.1,()))))));  Y (ff (a.2.1.1,(a.2.1.2.1,(a.2.1.2.2.1,(a.2.1.2.2.2.1,(a.2.1.2.2.2.2.1,(a.2.1.2.2.2.2.2.1,()))))))) λf =>
 Y (j (a.2.2.1.1,(a.2.2.1.2.1,())) f) λ(d,g,h) =>
 V (!h)
  (X (((13:Int),(([]:List zx),([],()))),a))
  (Y (sF c g) λ(b,e) =>
 V (e != 0)
  (X ((e,(([]:List zx),([],()))),a))
  (Y (Z5 c b.2.1 a.2.2.2.1) λi =>
 X (((0:Int),(([]:List zx),([],()))),(c,((b.1,(b.2.1,(b.2.2.1,(b.2.2.2.1,(b.2.2.2.2.1,(b.2.2.2.2.2.1,())))))),((d.1,(d.2.1,())),(i,(a.2.2.2.2.1,()))))))))
def tV(a:vo)(g:zx):T (vo×zx×Bool) :=
 V ((a.2.1.length:Int)==0)
  (Y (wQ a.1) λb =>
 Y (wQ a.2.1) λc =>
 X ((b,(c,())),([],false)))
  (Y (tX a.2.1 a.1 g) λ(d,e,f) =>
 X ((e,(d,())),(f,true)))
def VA(d:zx)(a:wk)(g:zu):T (Rat×Int) :=
 Y (wD a.1 d) λb =>
 V (zA (0<=b))
  (Y (lG g b) λe =>
 X (e,0))
  (Y (wD a.2.1 d) λc =>
 V (zA (c<0))
  (X ((false,(([]:List Int),(([]:List Int),()))),5))
  (Y (lG a.2.2.1 c) λf =>
 X (f,0)))
def Uv(c:Rat)(d:Rat):T Rat :=
 Y (Q3 d) λa =>
 Y (oQ c a) λb =>
 X b
def ya(h:AM.Expr->wk->zu->T (Rat×Int))(a:AM.Expr)(d:wk)(e:zu):T (Rat×Int) :=
 V ((Expr.kind a)==1)
  (Y (vF (Expr.num a)) λi =>
 X (i,0))
  (V ((Expr.kind a)==2)
  (Y (VA (Expr.name a) d e) λ(j,k) =>
 X (j,k))
  (oI 0 (Expr.kids a) <|
 Y (h (nth (Expr.kids a) 0 (zb .expr)) d e) λ(b,f) =>
 V (f != 0)
  (X ((false,(([]:List Int),(([]:List Int),()))),f))
  (V ((Expr.kind a)==7)
  (Y (Q3 b) λl =>
 X (l,0))
  (oI 1 (Expr.kids a) <|
 Y (h (nth (Expr.kids a) 1 (zb .expr)) d e) λ(c,g) =>
 V (g != 0)
  (X ((false,(([]:List Int),(([]:List Int),()))),g))
  (V ((Expr.kind a)==3)
  (Y (oQ b c) λm =>
 X (m,0))
  (V ((Expr.kind a)==4)
  (Y (Uv b c) λn =>
 X (n,0))
  (V ((Expr.kind a)==5)
  (Y (oR b c) λo =>
 X (o,0))
  (Y (sU b c) λ(p,q) =>
 V (!q)
  (X ((false,(([]:List Int),(([]:List Int),()))),7))
  (X (p,0))))))))))
def Zl(e:AM.Expr)(v:wk)(at_:zu):T (Rat×Int):=T.fix (λF x=>ya (λy0 y1 y2=>F (y0,y1,y2)) x.1 x.2.1 x.2.2) (e,v,at_)
def tI(a:AM.Expr)(e:wk)(f:zu):T (Rat×Int) :=
 Y (ij a) λb =>
 V (!b)
  (X ((false,(([]:List Int),(([]:List Int),()))),5))
  (Y (Zl a e f) λ(c,d) =>
 X (c,d))
def KE(b:Rat)(c:Rat):T Int :=
 Y (Uv b c) λa =>
 V a.1
  (X (-1))
  (V (zA (0<(a.2.1.length:Int)))
  (X 1)
  (X 0))
def oS(a:Check)(c:wk)(d:zu):T Bool :=
 Y (tI a.2.2.2.1 c d) λ(e,f) =>
 Y (tI a.2.2.2.2.1 c d) λ(g,h) =>
 V ((f != 0)||(h != 0))
  (X true)
  (Y (KE e g) λb =>
 V (a.2.2.1==0)
  (X (b != 0))
  (V (a.2.2.1==1)
  (X (zA (0<=b)))
  (X (zA (0<b)))))
def iQ(i:Form)(d:qe)(f:Int)(j:zr)(k:Int)(l:Int)(g:qo)(h:Int):(Int×wk×zo)->T ((Int×wk×zo)⊕((wk×zo)))
 | (b,e,a)=>let c:=nth g b (zb qv);
 V (zA (b<h))
  (oI b g <|
 .W (((c.2.1==f)=true)->((c.2.2.1=true)->(((zA ((d.2.2.2.2.2.1.length:Int)<=b))=false)->(xe b d.2.2.2.2.2.1.length)))) <|
 V ((c.2.1==f)&&(c.2.2.1&&((zA ((d.2.2.2.2.2.1.length:Int)<=b))||(!(nth d.2.2.2.2.2.1 b (zb .bool))))))
  (oA a 16 <|
 oM (a.length+1) (a++([c.1]:List zx)).length <|
 X (zH ((qi (b+1)),(e,(a++([c.1]:List zx))))))
  (oC a <|
 U a <|
 X (zH ((qi (b+1)),(e,a)))))
  (oC a <|
 U a <|
 X (zE (e,a)))
def iN f2 d2 i x3 x4 x5 x6 x7 s:=zK (iQ f2 d2 i x3 x4 x5 x6 x7) s
def iR(n:Form)(k:qe)(l:Int)(o:zr)(p:Int)(q:Int)(h:qq)(m:Int):(Int×wk×zo)->T ((Int×wk×zo)⊕((wk×zo)))
 | (c,d,a)=>let e:=nth h c (zb xj);
 V (zA (c<m))
  (oI c h <|
 Y (V (e.2.1==l)
  (Y (oS e d k.2.2.1) λi =>
 oC a <|
 U a <|
 X (i,(d,(a,e))))
  (oC a <|
 U a <|
 X (false,(d,(a,e)))):T ((Bool×wk×zo×Check))) λ(j,f,b,g) =>
 V j
  (oA b 16 <|
 oM (b.length+1) (b++([g.1]:List zx)).length <|
 X (zH ((qi (c+1)),(f,(b++([g.1]:List zx))))))
  (oC b <|
 U b <|
 X (zH ((qi (c+1)),(f,b)))))
  (oC a <|
 U a <|
 X (zE (d,a)))
def iO f3 d3 i1 x9 x10 x11 x12 x13 s:=zK (iR f3 d3 i1 x9 x10 x11 x12 x13) s
def iP(c:Form)(i:qe)(d:zr)(h:Int):(Int×wk×zo)->T ((Int×wk×zo)⊕((wk×zo)))
 | (a,g,b) =>
 V (zA (a<h))
  (oI a d <|
 V (!(nth d a (zb .bool)))
  (oC b <|
 U b <|
 X (zH ((qi (a+1)),(g,b))))
  (oC b <|
 U b <|
 Y (iN c i a d h a c.2.2.2.1 (c.2.2.2.1.length:Int) (0,(g,b))) λ(j,e) =>
 oC e <|
 U e <|
 Y (iO c i a d h a c.2.2.2.2.2.1 (c.2.2.2.2.2.1.length:Int) (0,(j,e))) λ(k,f) =>
 oC f <|
 U f <|
 X (zH ((qi (a+1)),(k,f)))))
  (oC b <|
 U b <|
 X (zE (g,b)))
def sV f1 d1 x x1 s:=zK (iP f1 d1 x x1) s
def iM(b:Form)(c:qe):T zo :=
 Y (r8 b c.1) λe =>
 Y (ko b c.2.1) λd =>
 oZ <|
 Y (sV b c d (d.length:Int) (0,(e,[]))) λ(f,a) =>
 U a <|
 X (zF 0 (zG (0+a.length) a))
def Q6(g:qe)(d:zr)(h:qo)(m:Int):(Int×qg)->T ((Int×qg)⊕qg)
 | (b,a)=>let c:=nth h b (zb qv);
 V (zA (b<m))
  (oI b h <|
 .W (((zA (c.2.1<(0:Int)))=false)->(((zA ((d.length:Int)<=c.2.1))=false)->(xe c.2.1 d.length))) <|
 V ((zA (c.2.1<(0:Int)))||((zA ((d.length:Int)<=c.2.1))||(!(nth d c.2.1 (zb .bool)))))
  (oC a <|
 U a <|
 X (zH ((qi (b+1)),a)))
  (Y (yW 0) λj =>
 Y (V (zA (b<(g.2.2.1.length:Int)))
  (oI b g.2.2.1 <|
 Y (vF (nth g.2.2.1 b (zb zm))) λk =>
 oC a <|
 U a <|
 X (a,(c,k)))
  (oC a <|
 U a <|
 X (a,(c,j))):T ((qg×Field×Rat))) λ(e,l,f)=>let i:=e++([(l.1,((f.1,(f.2.1,(f.2.2.1,()))),()))]:List Param);
 oA e 72 <|
 oM (e.length+1) i.length <|
 X (zH ((qi (b+1)),i))))
  (oC a <|
 U a <|
 X (zE a))
def Ux d1 on1 x x1 s:=zK (Q6 d1 on1 x x1) s
def W9(b:Form)(c:qe):T qg :=
 Y (ko b c.2.1) λd =>
 oZ <|
 Y (Ux c d b.2.2.2.1 (b.2.2.2.1.length:Int) (0,[])) λa =>
 U a <|
 X (zF 0 (zG (0+a.length) a))
def mj(f:qg)(g:Int):(Int×Unit×z7)->T ((Int×Unit×z7)⊕((Unit×z7)))
 | (c,j,b)=>let a:=nth f c (zb qf);
 V (zA (c<g))
  (oI c f <|
 oK a.1 [32] <|
 Y (gv (a.2.1.1,(a.2.1.2.1,(a.2.1.2.2.1,())))) λd =>
 oK (cat a.1 [32]) d <|
 oK (cat (cat a.1 [32]) d) [10] <|
 oC b <|
 U b <|
 Y (xo (cat (cat (cat a.1 [32]) d) [10]) () b) λ(h,i,e) =>
 oC e <|
 U e <|
 X (zH ((qi (c+1)),((),e))))
  (oC b <|
 U b <|
 X (zE ((),b)))
def Z8 x x1 s:=zK (mj x x1) s
def mL(b:qg):T zx :=
 oZ <|
 Y (Z8 b (b.length:Int) (0,((),[]))) λ(d,a) =>
 oC a <|
 U a <|
 Y (pF () a) λ(c,e) =>
 X c
def kQ(a:zl):T (Answer×zl) :=
 let b:=(a.1.1,(a.1.2.1,(a.1.2.2.1,(a.1.2.2.2.1,(a.1.2.2.2.2.1,(a.1.2.2.2.2.2.1,())))))); let c:=(a.2.1.1,(a.2.1.2.1,(a.2.1.2.2.1,(a.2.1.2.2.2.1,(a.2.1.2.2.2.2.1,(a.2.1.2.2.2.2.2.1,()))))));  Y (iM b c) λd =>
 V (zA (0<(d.length:Int)))
  (X (((15:Int),(d,([],()))),a))
  (Y (W9 b c) λe =>
 Y (mL e) λf =>
 X (((0:Int),(([]:List zx),(f,()))),(b,(c,((a.2.2.1.1,(a.2.2.1.2.1,())),(a.2.2.2.1,(true,())))))))
def gF(b:Op)(a:zl):T (Answer×zl) :=
 let d:=(a.2.1.1,(a.2.1.2.1,(a.2.1.2.2.1,(a.2.1.2.2.2.1,(a.2.1.2.2.2.2.1,(a.2.1.2.2.2.2.2.1,())))))); let c:=(a.1.1,(a.1.2.1,(a.1.2.2.1,(a.1.2.2.2.1,(a.1.2.2.2.2.1,(a.1.2.2.2.2.2.1,()))))));  V (b.1==1)
  (Y (VK c d b.2.1 b.2.2.1) λ(e,f,g) =>
 Y (vw e f g a) λ(h,i) =>
 X (h,i))
  (V (bif (b.1==2)then(b.1==2)else(b.1==3))
  (Y (Zw c d b.2.1 (b.1==2)) λ(j,k,l) =>
 Y (vw j k l a) λ(m,n) =>
 X (m,n))
  (V (b.1==4)
  (Y (oz c d b.2.1 b.2.2.1) λ(o,p,q) =>
 Y (vw o p q a) λ(r,s) =>
 X (r,s))
  (V (b.1==5)
  (Y (mB c d b.2.1 b.2.2.2.1) λ(t,u,v) =>
 Y (vw t u v a) λ(w,x) =>
 X (w,x))
  (V (b.1==6)
  (Y (j6 (λz0 z1 z2=>pB z0 z1 z2) a) λ(y,z) =>
 X (y,z))
  (V (b.1==7)
  (Y (j6 (λz0 z1 z2=>pA z0 z1 z2) a) λ(A,hI) =>
 X (A,hI))
  (V (b.1==8)
  (Y (W5 c a.2.1.2.1 b.2.1) λ(C,D) =>
 Y (jL C D a) λ(κ',G) =>
 X (κ',G))
  (V (b.1==9)
  (Y (uP (λz0 z1=>tW z0 z1) a) λ(H,hb) =>
 X (H,hb))
  (V (b.1==10)
  (Y (uP (λz0 z1=>tV z0 z1) a) λ(hd,K) =>
 X (hd,K))
  (V (b.1==11)
  (Y (kQ a) λ(L,h2) =>
 X (L,h2))
  (X (((1:Int),(([]:List zx),([],()))),a)))))))))))
def cC(a:zl)(b:Answer)(c:zl):T (zl×Answer×zl) :=
 V false
  (X (a,(((1:Int),(([]:List zx),([],()))),a)))
  (X (a,(b,c)))
def jV(f:Op)(a:zl):T (Answer×zl) :=
 V false
  (X (((1:Int),(([]:List zx),([],()))),a))
  (V a.2.2.2.2.1
  (X (((14:Int),(([]:List zx),([],()))),a))
  (Y (gF f a) λ(b,c) =>
 Y (cC a b c) λ(g,d,e) =>
 X (d,e)))
def ic(e:Jp)(g:Int):(Int×zl×eX)->T ((Int×zl×eX)⊕((zl×eX)))
 | (b,d,a) =>
 V (zA (b<g))
  (oI b e <|
 Y (jV (nth e b (zb bK)) d) λ(c,f) =>
 oA a 48 <|
 oM (a.length+1) (a++[c]).length <|
 X (zH ((qi (b+1)),(f,(a++[c])))))
  (oC a <|
 U a <|
 X (zE (d,a)))
def ZA x x1 s:=zK (ic x x1) s
def oh(b:Jp)(d:zl):T (zl×eX) :=
 oZ <|
 Y (ZA b (b.length:Int) (0,(d,[]))) λ(c,a) =>
 oC a <|
 U a <|
 X (c,a)
def mV(a:Op):T Answer :=
 V true
  (X ((1:Int),(([]:List zx),([],()))))
  (.fail)
def ez(d:Jp)(e:Int):(Int×eX)->T ((Int×eX)⊕eX)
 | (b,a) =>
 V (zA (b<e))
  (oI b d <|
 Y (mV (nth d b (zb bK))) λc =>
 oA a 48 <|
 oM (a.length+1) (a++[c]).length <|
 X (zH ((qi (b+1)),(a++[c]))))
  (oC a <|
 U a <|
 X (zE a))
def tv x x1 s:=zK (ez x x1) s
def ll(b:Jp):T eX :=
 oZ <|
 Y (tv b (b.length:Int) (0,[])) λa =>
 oC a <|
 U a <|
 X a
def jD  : T Bool :=
 Y (dL (([]:List Switch),(([]:List Param),(([([112],([],()))]:List eN),(([([97],((0:Int),(false,((0:Int),()))))]:List Field),(([]:List dZ),(([]:List Check),()))))))) <|
 zI (λ(f,c,d) =>
 V ((c != 0)||false)
  (X false)
  (Y (oh ([((1:Int),([97],((false,(([1]:List Int),(([2]:List Int),()))),(false,())))),((9:Int),([],((false,(([]:List Int),(([]:List Int),()))),(false,())))),((9:Int),([],((false,(([]:List Int),(([]:List Int),()))),(false,()))))]:List Op) d) λ(g,a) =>
 .W ((((a.length:Int)==3)=true)->((xe 0 a.length)/\((uO a.length a.length (0+(zJ 0)) a.length)/\((((wj a (0+(zJ 0)) (zb wF)).1==0)=true)->((xe 1 a.length)/\((uO a.length a.length (0+(zJ 1)) a.length)/\((((wj a (0+(zJ 1)) (zb wF)).1==0)=true)->((xe 2 a.length)/\(uO a.length a.length (0+(zJ 2)) a.length))))))))) <|
 X (((a.length:Int)==3)&&(((wj a (0+(zJ 0)) (zb wF)).1==0)&&(((wj a (0+(zJ 1)) (zb wF)).1==0)&&((wj a (0+(zJ 2)) (zb wF)).1==13))))))
  (λ(h,e) =>
 V ((e != 0)||true)
  (X false)
  (Y (ll ([((1:Int),([97],((false,(([1]:List Int),(([2]:List Int),()))),(false,())))),((9:Int),([],((false,(([]:List Int),(([]:List Int),()))),(false,())))),((9:Int),([],((false,(([]:List Int),(([]:List Int),()))),(false,()))))]:List Op)) λb =>
 .W ((((b.length:Int)==3)=true)->((xe 0 b.length)/\((uO b.length b.length (0+(zJ 0)) b.length)/\((((wj b (0+(zJ 0)) (zb wF)).1==0)=true)->((xe 1 b.length)/\((uO b.length b.length (0+(zJ 1)) b.length)/\((((wj b (0+(zJ 1)) (zb wF)).1==0)=true)->((xe 2 b.length)/\(uO b.length b.length (0+(zJ 2)) b.length))))))))) <|
 X (((b.length:Int)==3)&&(((wj b (0+(zJ 0)) (zb wF)).1==0)&&(((wj b (0+(zJ 1)) (zb wF)).1==0)&&((wj b (0+(zJ 2)) (zb wF)).1==13))))))
def eH(e:AM.Expr->Int->T Int)(c:AM.Expr):(Int×Int)->T ((Int×Int)⊕Int)
 | (b,a) =>
 V ((zA (a<((Expr.kids c).length:Int)))&&(zA (0<=b)))
  (oI a (Expr.kids c) <|
 Y (e (nth (Expr.kids c) a (zb .expr)) b) λd =>
 X (zH (d,(qi (a+1)))))
  (X (zE b))
def nV self_law22_weight e1 s:=zK (eH self_law22_weight e1) s
def dt(c:AM.Expr->Int->T Int)(a:AM.Expr)(d:Int):T Int :=
 Y (nV c a ((qi ((qi ((qi ((qi (d-3))-((Expr.name a).length:Int)))-(qi (8*(zM (zL (Expr.num a).2.1):Int)))))-(qi (8*(zM (zL (Expr.num a).2.2.1):Int))))),0)) λb =>
 X b
def bW(e:AM.Expr)(left:Int):T Int:=T.fix (λF x=>dt (λy0 y1=>F (y0,y1)) x.1 x.2) (e,left)
def rA(b:Form):(Int×Int)->T ((Int×Int)⊕Int)
 | (c,a) =>
 V ((zA (a<(b.2.1.length:Int)))&&(zA (0<=c)))
  (oI a b.2.1 <|
 oI a b.2.1 <|
 oI a b.2.1 <|
 X (zH ((qi ((qi ((qi (c-(qi (8*(zM (zL (nth b.2.1 a (zb qf)).2.1.2.1):Int)))))-(qi (8*(zM (zL (nth b.2.1 a (zb qf)).2.1.2.2.1):Int)))))-(zM (zL (nth b.2.1 a (zb qf)).1):Int))),(qi (a+1)))))
  (X (zE c))
def Yy f1 s:=zK (rA f1) s
def rB(c:Form):(Int×Int)->T ((Int×Int)⊕Int)
 | (b,a) =>
 V ((zA (a<(c.1.length:Int)))&&(zA (0<=b)))
  (oI a c.1 <|
 X (zH ((qi (b-(zM (zL (nth c.1 a (zb qs)).1):Int))),(qi (a+1)))))
  (X (zE b))
def Yz f2 s:=zK (rB f2) s
def rC(b:Form):(Int×Int)->T ((Int×Int)⊕Int)
 | (c,a) =>
 V ((zA (a<(b.2.2.1.length:Int)))&&(zA (0<=c)))
  (oI a b.2.2.1 <|
 oI a b.2.2.1 <|
 X (zH ((qi ((qi (c-(zM (zL (nth b.2.2.1 a (zb xp)).1):Int)))-(zM (zL (nth b.2.2.1 a (zb xp)).2.1):Int))),(qi (a+1)))))
  (X (zE c))
def YA f3 s:=zK (rC f3) s
def rD(c:Form):(Int×Int)->T ((Int×Int)⊕Int)
 | (b,a) =>
 V ((zA (a<(c.2.2.2.1.length:Int)))&&(zA (0<=b)))
  (oI a c.2.2.2.1 <|
 X (zH ((qi (b-(zM (zL (nth c.2.2.2.1 a (zb qv)).1):Int))),(qi (a+1)))))
  (X (zE b))
def YB f4 s:=zK (rD f4) s
def rE(b:Form):(Int×Int)->T ((Int×Int)⊕Int)
 | (d,a)=>let c:=nth b.2.2.2.2.1 a (zb xl);
 V ((zA (a<(b.2.2.2.2.1.length:Int)))&&(zA (0<=d)))
  (oI a b.2.2.2.2.1 <|
 oI a b.2.2.2.2.1 <|
 oI a b.2.2.2.2.1 <|
 oI a b.2.2.2.2.1 <|
 Y (bW c.2.2.2.1 (qi ((qi (d-(c.1.length:Int)))-(c.2.2.1.length:Int)))) λe =>
 Y (bW c.2.2.2.2.1 e) λf =>
 X (zH (f,(qi (a+1)))))
  (X (zE d))
def YC f5 s:=zK (rE f5) s
def rF(b:Form):(Int×Int)->T ((Int×Int)⊕Int)
 | (c,a)=>let d:=nth b.2.2.2.2.2.1 a (zb xj);
 V ((zA (a<(b.2.2.2.2.2.1.length:Int)))&&(zA (0<=c)))
  (oI a b.2.2.2.2.2.1 <|
 oI a b.2.2.2.2.2.1 <|
 oI a b.2.2.2.2.2.1 <|
 Y (bW d.2.2.2.1 (qi (c-(d.1.length:Int)))) λe =>
 Y (bW d.2.2.2.2.1 e) λf =>
 X (zH (f,(qi (a+1)))))
  (X (zE c))
def YD f6 s:=zK (rF f6) s
def nf(a:Form):T Bool :=
 Y (Yy a ((qi (600-(qi (20*(qi ((qi ((qi ((qi ((qi ((a.1.length:Int)+(a.2.1.length:Int)))+(a.2.2.1.length:Int)))+(a.2.2.2.1.length:Int)))+(a.2.2.2.2.1.length:Int)))+(a.2.2.2.2.2.1.length:Int))))))),0)) λb =>
 Y (Yz a (b,0)) λc =>
 Y (YA a (c,0)) λd =>
 Y (YB a (d,0)) λe =>
 Y (YC a (e,0)) λf =>
 Y (YD a (f,0)) λg =>
 X (zA (g<0))
def tx(b:Jp):Int->T (Int⊕(Unit⊕Bool))
 | a=>let c:=nth b a (zb bK);
 V ((zA (a<(b.length:Int)))&&(zA (a<25)))
  (.W ((xe a b.length)/\(((zA (60<(c.2.1.length:Int)))=false)->((xe a b.length)/\(((zA (3<(c.2.2.1.2.1.length:Int)))=false)->(xe a b.length))))) <|
 V ((zA (60<(c.2.1.length:Int)))||((zA (3<(c.2.2.1.2.1.length:Int)))||(zA (3<(c.2.2.1.2.2.1.length:Int)))))
  (X (zE (zE true)))
  (X (zH (qi (a+1)))))
  (X (zE (zH ())))
def Ww l1 s:=zK (tx l1) s
def rG(b:Jp):T Bool :=
 Y (Ww b 0) <|
 zI (λ_ =>
 X false)
  (λa =>
 X a)
def vD(a:zl):T (Unit×zl×zo×zo) :=
 let c:=0+a.2.2.1.1.length; let b:=0+a.2.2.1.2.1.length;  V false
  (.W (zp 0 0 0 0) <|
 oZ <|
 .W (0=0) <|
 X ((),(a,([],[]))))
  (V (zN a.2.2.1.1)
  (V (zN a.2.2.1.2.1)
  (.W (zp 0 0 0 0) <|
 oZ <|
 .W (0=0) <|
 X ((),(a,([],[]))))
  (.W ((b*16)<=140737488355328) <|
 .W (zp 0 0 0 0) <|
 .W (zp b 0 b a.2.2.1.2.1.length) <|
 .W (0=0) <|
 .W (b=a.2.2.1.2.1.length) <|
 X ((),(a,([],a.2.2.1.2.1)))))
  (.W ((c*16)<=140737488355328) <|
 V (zN a.2.2.1.2.1)
  (.W (zp c 0 c a.2.2.1.1.length) <|
 .W (zp 0 0 0 0) <|
 .W (c=a.2.2.1.1.length) <|
 .W (0=0) <|
 X ((),(a,(a.2.2.1.1,[]))))
  (.W ((b*16)<=140737488355328) <|
 .W (zp c 0 c a.2.2.1.1.length) <|
 .W (zp b 0 b a.2.2.1.2.1.length) <|
 .W (c=a.2.2.1.1.length) <|
 .W (b=a.2.2.1.2.1.length) <|
 X ((),(a,(a.2.2.1.1,a.2.2.1.2.1))))))
def dy(b:zo)(c:zo):Int->T (Int⊕(Unit⊕Bool))
 | a =>
 V (zA (a<(b.length:Int)))
  (oI a b <|
 oI a c <|
 V (!(wL (nth b a (zb .str)) (nth c a (zb .str))))
  (X (zE (zE false)))
  (X (zH (qi (a+1)))))
  (X (zE (zH ())))
def iS a1 b1 s:=zK (dy a1 b1) s
def bN(a:zo)(b:zo):T Bool :=
 V ((a.length:Int) != (b.length:Int))
  (X false)
  (Y (iS a b 0) <|
 zI (λ_ =>
 X true)
  (λc =>
 X c))
def ml(a:vo)(b:vo):T Bool :=
 Y (bN a.1 b.1) λc =>
 V c
  (Y (bN a.2.1 b.2.1) λd =>
 X d)
  (X false)
def jN(h:Jp):(Int×zl)->T ((Int×zl)⊕(zl⊕(Bool×zl)))
 | (a,j)=>let g:=nth h a (zb bK);
 V ((zA (a<(h.length:Int)))&&(zA (a<25)))
  (Y (vD j) λ(n,k,c,f) =>
 oI a h <|
 Y (jV g k) λ(i,l) =>
 Y (vD l) λ(o,b,d,e) =>
 oI a h <|
 V ((i.1==0)&&((zA ((1:Int)<=g.1))&&(zA (g.1<=(5:Int)))))
  (V (((d.length:Int) != (ZP 32 (qi ((c.length:Int)+1))))||((e.length:Int) != 0))
  (X (zE (zE (false,b))))
  (X (zH ((qi (a+1)),b))))
  (V ((i.1==0)&&(g.1==9))
  (V (((d.length:Int) != (qi ((c.length:Int)-1)))||((e.length:Int) != (qi ((f.length:Int)+1))))
  (X (zE (zE (false,b))))
  (X (zH ((qi (a+1)),b))))
  (V ((i.1==0)&&(g.1==10))
  (V (((d.length:Int) != (qi ((c.length:Int)+1)))||((e.length:Int) != (qi ((f.length:Int)-1))))
  (X (zE (zE (false,b))))
  (X (zH ((qi (a+1)),b))))
  (U c <|
 U f <|
 U d <|
 U e <|
 Y (ml ((zF 0 (zG (0+c.length) c)),((zF 0 (zG (0+f.length) f)),())) ((zF 0 (zG (0+d.length) d)),((zF 0 (zG (0+e.length) e)),()))) λm =>
 V (!m)
  (X (zE (zE (false,b))))
  (X (zH ((qi (a+1)),b)))))))
  (X (zE (zH j)))
def yV l1 s:=zK (jN l1) s
def jZ(a:Form)(b:Jp):T Bool :=
 Y (Y (nf a) λc =>
 V c
  (X true)
  (Y (rG b) λd =>
 X d):T Bool) λe =>
 V e
  (X true)
  (Y (dL a) <|
 zI (λ(m,f,g) =>
 V (f != 0)
  (V false
  (Y (jD) λh =>
 X h)
  (X false))
  (Y (yV b (0,g)) <|
 zI (λn =>
 Y (jD) λi =>
 X i)
  (λ(j,o) =>
 X j)))
  (λ(p,k) =>
 V (k != 0)
  (V true
  (Y (jD) λl =>
 X l)
  (X false))
  (.fail)))

end Go.AM.Lf
