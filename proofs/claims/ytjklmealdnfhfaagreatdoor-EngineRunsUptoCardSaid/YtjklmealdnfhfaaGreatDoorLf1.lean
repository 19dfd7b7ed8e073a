/-
  The program's functions as trees in plain Lean, part 1: printed by a program of ours.
-/
import Derived.Test.YtjklmealdnfhfaaGreatDoorLf0
set_option linter.unusedVariables false
open Go.AM.T renaming bind -> B, ret -> X, ite -> V, loop -> zK
open Decidable renaming decide -> E
open Sum renaming inr -> zE, elim -> zF, inl -> zG
open List renaming drop -> zH, take -> zI, length -> zL
open Int renaming toNat -> zJ
open Nat renaming cast -> zM
noncomputable section
namespace Go.AM.Lf
def fS(e:Form)(L:qe)(ae:Unit)(f:zt)(g:zq)(h:zt)(a:z7)(i:zo)(j:zq):T ((zt×Unit)×zp×Int×zt×zq×z7×zo×zq) :=
 let x:=((zH 0 (zI (0+f.length) f)),((zH 0 (zI (0+g.length) g)),((zH 0 (zI (0+h.length) h)),((zH 0 (zI (0+i.length) i)),((zH 0 (zI (0+j.length) j)),())))));  B (db e L) <|
 zF (λ(y,b,k,l,m) =>
 V (y != 0)
  (.W (zw 0 0 0 0) <|
 .W (zw 0 0 0 0) <|
 .W (zw 0 0 0 0) <|
 .W (zw 0 0 0 0) <|
 oZ <|
 .W (0=0) <|
 .W (0=0) <|
 .W (0=0) <|
 .W (0=0) <|
 X (([],()),([],(y,([],([],([],([],[]))))))))
  (U f <|
 U g <|
 U h <|
 U i <|
 U j <|
 oC a <|
 U a <|
 B (ez e x a) <|
 zF (λ(z,n,c,o,p,q) =>
 V (z != 0)
  (.W (zw 0 0 0 0) <|
 .W (zw 0 0 0 0) <|
 .W (zw 0 0 0 0) <|
 .W (zw 0 0 0 0) <|
 oZ <|
 .W (0=0) <|
 .W (0=0) <|
 .W (0=0) <|
 .W (0=0) <|
 X (([],()),([],(z,([],([],([],([],[]))))))))
  (U n <|
 .W (zw a.length 0 a.length n.length) <|
 oC k <|
 oC l <|
 oC m <|
 U k <|
 U l <|
 U m <|
 oC o <|
 oC p <|
 oC q <|
 U o <|
 U p <|
 U q <|
 B (Qm e (a.length:Int) (0,(n,(x,((([]:List Rat),(([]:List Bool),(([]:List Rat),(([]:List Int),(([]:List qk),(([]:List Bool),())))))),((b.1,(b.2.1,(b.2.2.1,(b.2.2.2.1,(b.2.2.2.2.1,(b.2.2.2.2.2.1,())))))),(k,(l,(m,((c.1,(c.2.1,(c.2.2.1,(c.2.2.2.1,(c.2.2.2.2.1,(c.2.2.2.2.2.1,())))))),(o,(p,q)))))))))))) λ(r,d,h2,hx,z6,P,hl,S,oE,zD,zk) =>
 U r <|
 B (dL e (d.1,(d.2.1,(d.2.2.1,((zH 0 (zI (0+r.length) r)),(d.2.2.2.1,(d.2.2.2.2.1,()))))))) λ(zB,G,H,s,t,u,v,w) =>
 oC s <|
 oC t <|
 oC u <|
 oC v <|
 oC w <|
 U s <|
 U t <|
 U u <|
 U v <|
 U w <|
 X ((zB.1,()),(G,(H,(s,(t,(u,(v,w)))))))))
  (λ(hb,A,zC) =>
 V (A != 0)
  (.W (zw 0 0 0 0) <|
 .W (zw 0 0 0 0) <|
 .W (zw 0 0 0 0) <|
 .W (zw 0 0 0 0) <|
 oZ <|
 .W (0=0) <|
 .W (0=0) <|
 .W (0=0) <|
 .W (0=0) <|
 X (([],()),(hb,(A,([],([],([],([],[]))))))))
  (.fail))))
  (λ(hd,zA) =>
 V (zA != 0)
  (.W (zw 0 0 0 0) <|
 .W (zw 0 0 0 0) <|
 .W (zw 0 0 0 0) <|
 .W (zw 0 0 0 0) <|
 oZ <|
 .W (0=0) <|
 .W (0=0) <|
 .W (0=0) <|
 .W (0=0) <|
 X (([],()),(hd,(zA,([],([],([],([],[]))))))))
  (U f <|
 U g <|
 U h <|
 U i <|
 U j <|
 oC a <|
 U a <|
 B (ez e x a) <|
 zF (λ(C,κ',κ,aa,ab,ac) =>
 V (C != 0)
  (.W (zw 0 0 0 0) <|
 .W (zw 0 0 0 0) <|
 .W (zw 0 0 0 0) <|
 .W (zw 0 0 0 0) <|
 oZ <|
 .W (0=0) <|
 .W (0=0) <|
 .W (0=0) <|
 .W (0=0) <|
 X (([],()),([],(C,([],([],([],([],[]))))))))
  (.fail))
  (λ(K,D,ad) =>
 V (D != 0)
  (.W (zw 0 0 0 0) <|
 .W (zw 0 0 0 0) <|
 .W (zw 0 0 0 0) <|
 .W (zw 0 0 0 0) <|
 oZ <|
 .W (0=0) <|
 .W (0=0) <|
 .W (0=0) <|
 .W (0=0) <|
 X (([],()),(K,(D,([],([],([],([],[]))))))))
  (.fail))))
def ox(m:Form)(n:qe)(p:zx)(q:Rat):T (qe×zp×Int) :=
 B (vH m.2.1 (λr=>gy r p)) λb =>
 B (QP m n) λs =>
 V (!s)
  (X ((([]:List Rat),(([]:List Bool),(([]:List Rat),(([]:List Int),(([]:List qk),(([]:List Bool),())))))),([],1)))
  (V (E (b<0))
  (X ((([]:List Rat),(([]:List Bool),(([]:List Rat),(([]:List Int),(([]:List qk),(([]:List Bool),())))))),([],5)))
  (B (bT q) λt =>
 V (!t)
  (X ((([]:List Rat),(([]:List Bool),(([]:List Rat),(([]:List Int),(([]:List qk),(([]:List Bool),())))))),([p],8)))
  (B (lP n) λ(y,a,c,d,e,f,g) =>
 B (vD q) λu=>let o:=List.set a (0+(zJ b)) u;
 oI b a <|
 .W (uO a.length a.length (0+(zJ b)) a.length) <|
 .W (zw a.length 0 a.length o.length) <|
 oC c <|
 oC d <|
 oC e <|
 oC f <|
 oC g <|
 .W (a.length=o.length) <|
 U c <|
 U d <|
 U e <|
 U f <|
 U g <|
 B (fS m n () o c d e f g) λ(v,w,x,h,i,j,k,l) =>
 U h <|
 U i <|
 U j <|
 U k <|
 U l <|
 X (((zH 0 (zI (0+h.length) h)),((zH 0 (zI (0+i.length) i)),(v.1,((zH 0 (zI (0+j.length) j)),((zH 0 (zI (0+k.length) k)),((zH 0 (zI (0+l.length) l)),())))))),(w,x)))))
def yx(a:Switch)(b:zx):T Bool :=
 X (wG a.1 b)
def mA(m:Form)(n:qe)(u:zx)(v:Bool):T (qe×zp×Int) :=
 B (wb m.1 (λp=>yx p u)) λb =>
 B (QP m n) λq =>
 V (!q)
  (X ((([]:List Rat),(([]:List Bool),(([]:List Rat),(([]:List Int),(([]:List qk),(([]:List Bool),())))))),([],1)))
  (V (E (b<0))
  (X ((([]:List Rat),(([]:List Bool),(([]:List Rat),(([]:List Int),(([]:List qk),(([]:List Bool),())))))),([],5)))
  (B (lP n) λ(w,c,a,d,e,f,g)=>let o:=List.set a (0+(zJ b)) v;
 oI b a <|
 .W (uO a.length a.length (0+(zJ b)) a.length) <|
 oC c <|
 .W (zw a.length 0 a.length o.length) <|
 oC d <|
 oC e <|
 oC f <|
 oC g <|
 U c <|
 .W (a.length=o.length) <|
 U d <|
 U e <|
 U f <|
 U g <|
 B (fS m n () c o d e f g) λ(r,s,t,h,i,j,k,l) =>
 U h <|
 U i <|
 U j <|
 U k <|
 U l <|
 X (((zH 0 (zI (0+h.length) h)),((zH 0 (zI (0+i.length) i)),(r.1,((zH 0 (zI (0+j.length) j)),((zH 0 (zI (0+k.length) k)),((zH 0 (zI (0+l.length) l)),())))))),(s,t))))
def jK(c:Int)(b:Int)(a:zn):T (Answer×zn) :=
 V (b != 0)
  (X ((b,(([]:List zx),([],()))),a))
  (X (((0:Int),(([]:List zx),([],()))),((a.1.1,(a.1.2.1,(a.1.2.2.1,(a.1.2.2.2.1,(a.1.2.2.2.2.1,(a.1.2.2.2.2.2.1,())))))),((a.2.1.1,(a.2.1.2.1,(a.2.1.2.2.1,(a.2.1.2.2.2.1,(a.2.1.2.2.2.2.1,(a.2.1.2.2.2.2.2.1,())))))),((a.2.2.1.1,(a.2.2.1.2.1,())),(c,(a.2.2.2.2.1,())))))))
def j6(f:Form->zq->Int->T (Int×Bool))(a:zn):T (Answer×zn) :=
 B (f (a.1.1,(a.1.2.1,(a.1.2.2.1,(a.1.2.2.2.1,(a.1.2.2.2.2.1,(a.1.2.2.2.2.2.1,())))))) a.2.1.2.1 a.2.2.2.1) λ(b,c) =>
 V (!c)
  (X (((13:Int),(([]:List zx),([],()))),a))
  (B (jK b 0 a) λ(d,e) =>
 X (d,e))
def dR(a:eQ)(b:zx):T Bool :=
 X (wG a.1 b)
def W5(c:Form)(e:zq)(f:zx):T (Int×Int) :=
 B (uV c.2.2.1 (λd=>dR d f)) λa =>
 V (E (a<0))
  (X ((-1),5))
  (B (kh c e) λb =>
 oI a b <|
 V (!(nth b a (zb .bool)))
  (X ((-1),12))
  (X (a,0)))
def wQ(a:zp):T zp :=
 let b:=0+a.length;  .W (a=[]->∀ r,T.leads (.W (vV 0 0 0 0 0 a.length 16) <|
 .W (b=b) <|
 X (zH 0 (zI (0+b) a)):T _) r->T.leads (X []:T _) r) <|
 .W (vV 0 0 0 0 0 a.length 16) <|
 .W (b=b) <|
 X (zH 0 (zI (0+b) a))
def tX(b:zp)(f:zp)(g:zx):T (zp×zp×zx) :=
 let c:=qo ((b.length:Int)-1);  .W (jA 0 c b.length) <|
 B (wR (jI (e:=.str) 0 c b)) λd =>
 B (wR f) λa =>
 oA a 16 <|
 oI c b <|
 U d <|
 .W ((a.length+1)=(a.length+1)) <|
 X ((zH 0 (zI (0+d.length) d)),((zH 0 (zI (0+(a.length+1)) (a++[g]))),(nth b c (zb .str))))
def tW(a:uG)(g:zx):T (uG×zx×Bool) :=
 V ((a.1.length:Int)==0)
  (B (wQ a.1) λb =>
 B (wQ a.2.1) λc =>
 X ((b,(c,())),([],false)))
  (B (tX a.1 a.2.1 g) λ(d,e,f) =>
 X ((d,(e,())),(f,true)))
def uu(a:Bool):T (Unit⊕Unit) :=
 V (!a)
  (X (zE ()))
  (X (zG ()))
def bf(a:gG):T ((zx×gG)⊕(Unit×gG)) :=
 B (strings_Cut a.1 [10]) λ(b,c,d) =>
 B (uu d) <|
 zF (λ_ =>
 X (zG (b,(c,()))))
  (λe =>
 X (zE (e,a)))
def wO(h:zx)(i:gG):T ((zp×gG)⊕(Unit×gG)) :=
 B (bf i) <|
 zF (λ(c,b) =>
 B (strings_Split c [32]) λa =>
 oI 0 a <|
 B (uu (wG (nth a 0 (zb .str)) h)) <|
 zF (λ_ =>
 .W (jA 1 (a.length:Int) a.length) <|
 X (zG ((jI (e:=.str) 1 (a.length:Int) a),b)))
  (λd =>
 X (zE (d,b))))
  (λ(f,g) =>
 X (zE (f,g)))
def dm(d:zx):T (Rat⊕Unit) :=
 B (pe d) λ(a,b) =>
 B (uu (b==0)) <|
 zF (λ_ =>
 X (zG a))
  (λc =>
 X (zE c))
def gE(d:zp)(f:Int):(Int×zt)->T ((Int×zt)⊕(zt⊕(Unit×zt)))
 | (b,a) =>
 V (E (b<f))
  (oI b d <|
 B (dm (nth d b (zb .str))) <|
 zF (λc =>
 oA a 56 <|
 oM (a.length+1) (a++[c]).length <|
 X (zG ((qo (b+1)),(a++[c]))))
  (λe =>
 U a <|
 X (zE (zE (e,a)))))
  (oC a <|
 U a <|
 X (zE (zG a)))
def fU x x1 s:=zK (gE x x1) s
def uL(b:zp)(e:Unit):T (zt⊕Unit) :=
 oZ <|
 B (fU b (b.length:Int) (0,[])) <|
 zF (λa =>
 oC a <|
 U a <|
 X (zG a))
  (λ(c,d) =>
 X (zE c))
def mC(a:zx):T (Bool⊕Unit) :=
 V (wG a [48])
  (B (uu true) <|
 zF (λ_ =>
 X (zG (wG a [49])))
  (λb =>
 X (zE b)))
  (B (uu (wG a [49])) <|
 zF (λ_ =>
 X (zG (wG a [49])))
  (λc =>
 X (zE c)))
def gF(d:zp)(f:Int):(Int×zq)->T ((Int×zq)⊕(zq⊕(Unit×zq)))
 | (b,a) =>
 V (E (b<f))
  (oI b d <|
 B (mC (nth d b (zb .str))) <|
 zF (λc =>
 oA a 1 <|
 oM (a.length+1) (a++[c]).length <|
 X (zG ((qo (b+1)),(a++[c]))))
  (λe =>
 U a <|
 X (zE (zE (e,a)))))
  (oC a <|
 U a <|
 X (zE (zG a)))
def fV x x1 s:=zK (gF x x1) s
def uM(b:zp)(e:Unit):T (zq⊕Unit) :=
 oZ <|
 B (fV b (b.length:Int) (0,[])) <|
 zF (λa =>
 oC a <|
 U a <|
 X (zG a))
  (λ(c,d) =>
 X (zE c))
def dgV(s:zx):Nat:=s.foldl (λn b=>n*10+(b.toNat-48)) 0
def strconv_Atoi(s:zx):T Int:=.W ((s≠[]/\s.length<=18)/\∀ b∈s,48<=b.toNat/\b.toNat<=57) (X (dgV s:Int))
def mB(a:zx):T (Int⊕Unit) :=
 B (V (!(wG a []))
  (V (E ((a.length:Int)<=18))
  (B (cp a [48,49,50,51,52,53,54,55,56,57]) λb =>
 B (uu (wG b [])) <|
 zF (λ_ =>
 X (zG ()))
  (λc =>
 X (zE c)))
  (B (uu false) <|
 zF (λ_ =>
 X (zG ()))
  (λd =>
 X (zE d))))
  (B (uu false) <|
 zF (λ_ =>
 X (zG ()))
  (λe =>
 X (zE e))):T (Unit⊕Unit)) <|
 zF (λ_ =>
 B (strconv_Atoi a) λf =>
 B (uu true) <|
 zF (λ_ =>
 X (zG f))
  (λg =>
 X (zE g)))
  (λh =>
 X (zE h))
def mD(a:zx):T (Int⊕Unit) :=
 V (wG a [45])
  (X (zG (-1)))
  (B (mB a) <|
 zF (λb =>
 X (zG b))
  (λc =>
 X (zE c)))
def b8(d:zp)(f:Int):(Int×z7)->T ((Int×z7)⊕(z7⊕(Unit×z7)))
 | (b,a) =>
 V (E (b<f))
  (oI b d <|
 B (mD (nth d b (zb .str))) <|
 zF (λc =>
 oA a 8 <|
 oM (a.length+1) (a++[c]).length <|
 X (zG ((qo (b+1)),(a++[c]))))
  (λe =>
 U a <|
 X (zE (zE (e,a)))))
  (oC a <|
 U a <|
 X (zE (zG a)))
def lf x x1 s:=zK (b8 x x1) s
def kT(b:zp)(e:Unit):T (z7⊕Unit) :=
 oZ <|
 B (lf b (b.length:Int) (0,[])) <|
 zF (λa =>
 oC a <|
 U a <|
 X (zG a))
  (λ(c,d) =>
 X (zE c))
def jW(a:zx)(b:zx):T Bool :=
 .W (((E ((b.length:Int)<=(a.length:Int)))=true)->(jA (qo ((a.length:Int)-(b.length:Int))) (a.length:Int) a.length)) <|
 X ((E ((b.length:Int)<=(a.length:Int)))&&(wG (fN (qo ((a.length:Int)-(b.length:Int))) (a.length:Int) a) b))
def jU(a:zx)(b:zx):T (zx×Bool) :=
 B (jW a b) λc =>
 V (!c)
  (X (a,false))
  (.W (jA 0 (qo ((a.length:Int)-(b.length:Int))) a.length) <|
 X ((fN 0 (qo ((a.length:Int)-(b.length:Int))) a),true))
def strings_CutSuffix(c:zx)(d:zx):T (zx×Bool) :=
 B (jU c d) λ(a,b) =>
 X (a,b)
def mE(c:zx):T (qk⊕Unit) :=
 V (wG c [45])
  (B (yW 0) λa =>
 X (zG (false,(false,((a.1,(a.2.1,(a.2.2.1,()))),())))))
  (B (strings_CutSuffix c [33]) λ(d,e) =>
 B (dm d) <|
 zF (λb =>
 X (zG (true,(e,((b.1,(b.2.1,(b.2.2.1,()))),())))))
  (λf =>
 X (zE f)))
def yt(d:zp)(f:Int):(Int×zo)->T ((Int×zo)⊕(zo⊕(Unit×zo)))
 | (b,a) =>
 V (E (b<f))
  (oI b d <|
 B (mE (nth d b (zb .str))) <|
 zF (λc =>
 oA a 64 <|
 oM (a.length+1) (a++[c]).length <|
 X (zG ((qo (b+1)),(a++[c]))))
  (λe =>
 U a <|
 X (zE (zE (e,a)))))
  (oC a <|
 U a <|
 X (zE (zG a)))
def eA x x1 s:=zK (yt x x1) s
def ji(b:zp)(e:Unit):T (zo⊕Unit) :=
 oZ <|
 B (eA b (b.length:Int) (0,[])) <|
 zF (λa =>
 oC a <|
 U a <|
 X (zG a))
  (λ(c,d) =>
 X (zE c))
def fT(a:Int):T Int :=
 V true
  (X a)
  (.fail)
def wD(b:Unit)(a:Int):T Int :=
 V false
  (X a)
  (V true
  (X 2)
  (.fail))
def oy(g:zx):T (Unit×Int×zt×zq×zt×z7×zo×zq) :=
 B (wO [112,97,114,97,109,115] (g,())) <|
 zF (λ(k,l) =>
 B (uL k ()) <|
 zF (λa=>let h:=(a,([],([],([],([],[])))));
 B (wO [111,110] l) <|
 zF (λ(m,n) =>
 B (uM m ()) <|
 zF (λb=>let i:=(a,(b,([],([],([],[])))));
 B (wO [118,97,108,115] n) <|
 zF (λ(o,p) =>
 B (uL o ()) <|
 zF (λc=>let j:=(a,(b,(c,([],([],[])))));
 B (wO [111,117,116,115] p) <|
 zF (λ(q,r) =>
 B (kT q ()) <|
 zF (λd =>
 B (wO [112,105,110,115] r) <|
 zF (λ(s,t) =>
 B (ji s ()) <|
 zF (λe =>
 B (wO [102,105,108,108,101,100] t) <|
 zF (λ(u,aa) =>
 B (uM u ()) <|
 zF (λf =>
 oW a b c d e f <|
 B (dh ((zH 0 (zI (0+a.length) a)),((zH 0 (zI (0+b.length) b)),((zH 0 (zI (0+c.length) c)),((zH 0 (zI (0+d.length) d)),((zH 0 (zI (0+e.length) e)),((zH 0 (zI (0+f.length) f)),()))))))) λv =>
 B (uu (wG v g)) <|
 zF (λ_ =>
 B (fT 0) λw =>
 oY a b c d e f <|
 X ((),(w,(a,(b,(c,(d,(e,f))))))))
  (λx =>
 B (wD x 0) λy =>
 oY a b c d e f <|
 X ((),(y,(a,(b,(c,(d,(e,f)))))))))
  (λz =>
 B (wD z 0) λA =>
 oC a <|
 oC b <|
 oC c <|
 oC d <|
 oC e <|
 .W (zw 0 0 0 0) <|
 U a <|
 U b <|
 U c <|
 U d <|
 U e <|
 .W (0=0) <|
 X ((),(A,(a,(b,(c,(d,(e,[])))))))))
  (λ(zA,ab) =>
 B (wD zA 0) λC =>
 oC a <|
 oC b <|
 oC c <|
 oC d <|
 oC e <|
 .W (zw 0 0 0 0) <|
 U a <|
 U b <|
 U c <|
 U d <|
 U e <|
 .W (0=0) <|
 X ((),(C,(a,(b,(c,(d,(e,[])))))))))
  (λD =>
 B (wD D 0) λzB =>
 oC a <|
 oC b <|
 oC c <|
 oC d <|
 .W (zw 0 0 0 0) <|
 .W (zw 0 0 0 0) <|
 U a <|
 U b <|
 U c <|
 U d <|
 .W (0=0) <|
 .W (0=0) <|
 X ((),(zB,(a,(b,(c,(d,([],[])))))))))
  (λ(G,ac) =>
 B (wD G 0) λH =>
 oC a <|
 oC b <|
 oC c <|
 oC d <|
 .W (zw 0 0 0 0) <|
 .W (zw 0 0 0 0) <|
 U a <|
 U b <|
 U c <|
 U d <|
 .W (0=0) <|
 .W (0=0) <|
 X ((),(H,(a,(b,(c,(d,([],[])))))))))
  (λhb =>
 B (wD hb 0) λhd =>
 oC a <|
 oC b <|
 oC c <|
 .W (zw 0 0 0 0) <|
 .W (zw 0 0 0 0) <|
 .W (zw 0 0 0 0) <|
 U a <|
 U b <|
 U c <|
 .W (0=0) <|
 .W (0=0) <|
 .W (0=0) <|
 X ((),(hd,j))))
  (λ(K,ad) =>
 B (wD K 0) λL =>
 oC a <|
 oC b <|
 oC c <|
 .W (zw 0 0 0 0) <|
 .W (zw 0 0 0 0) <|
 .W (zw 0 0 0 0) <|
 U a <|
 U b <|
 U c <|
 .W (0=0) <|
 .W (0=0) <|
 .W (0=0) <|
 X ((),(L,j))))
  (λh2 =>
 B (wD h2 0) λhx =>
 oC a <|
 oC b <|
 .W (zw 0 0 0 0) <|
 .W (zw 0 0 0 0) <|
 .W (zw 0 0 0 0) <|
 .W (zw 0 0 0 0) <|
 U a <|
 U b <|
 .W (0=0) <|
 .W (0=0) <|
 .W (0=0) <|
 .W (0=0) <|
 X ((),(hx,i))))
  (λ(z6,ae) =>
 B (wD z6 0) λP =>
 oC a <|
 oC b <|
 .W (zw 0 0 0 0) <|
 .W (zw 0 0 0 0) <|
 .W (zw 0 0 0 0) <|
 .W (zw 0 0 0 0) <|
 U a <|
 U b <|
 .W (0=0) <|
 .W (0=0) <|
 .W (0=0) <|
 .W (0=0) <|
 X ((),(P,i))))
  (λhl =>
 B (wD hl 0) λS =>
 oC a <|
 .W (zw 0 0 0 0) <|
 .W (zw 0 0 0 0) <|
 .W (zw 0 0 0 0) <|
 .W (zw 0 0 0 0) <|
 .W (zw 0 0 0 0) <|
 U a <|
 .W (0=0) <|
 .W (0=0) <|
 .W (0=0) <|
 .W (0=0) <|
 .W (0=0) <|
 X ((),(S,h))))
  (λ(oE,af) =>
 B (wD oE 0) λzD =>
 oC a <|
 .W (zw 0 0 0 0) <|
 .W (zw 0 0 0 0) <|
 .W (zw 0 0 0 0) <|
 .W (zw 0 0 0 0) <|
 .W (zw 0 0 0 0) <|
 U a <|
 .W (0=0) <|
 .W (0=0) <|
 .W (0=0) <|
 .W (0=0) <|
 .W (0=0) <|
 X ((),(zD,h))))
  (λzk =>
 B (wD zk 0) λzC =>
 .W (zw 0 0 0 0) <|
 .W (zw 0 0 0 0) <|
 .W (zw 0 0 0 0) <|
 .W (zw 0 0 0 0) <|
 .W (zw 0 0 0 0) <|
 oZ <|
 .W (0=0) <|
 .W (0=0) <|
 .W (0=0) <|
 .W (0=0) <|
 .W (0=0) <|
 X ((),(zC,([],([],([],([],([],[])))))))))
  (λ(κ',ag) =>
 B (wD κ' 0) λκ =>
 .W (zw 0 0 0 0) <|
 .W (zw 0 0 0 0) <|
 .W (zw 0 0 0 0) <|
 .W (zw 0 0 0 0) <|
 .W (zw 0 0 0 0) <|
 oZ <|
 .W (0=0) <|
 .W (0=0) <|
 .W (0=0) <|
 .W (0=0) <|
 .W (0=0) <|
 X ((),(κ,([],([],([],([],([],[]))))))))
def sD(j:Form)(k:zx):T (qe×Int) :=
 B (oy k) λ(l,g,a,b,c,d,e,f)=>let h:=((zH 0 (zI (0+a.length) a)),((zH 0 (zI (0+b.length) b)),((zH 0 (zI (0+c.length) c)),((zH 0 (zI (0+d.length) d)),((zH 0 (zI (0+e.length) e)),((zH 0 (zI (0+f.length) f)),()))))));
 V (g != 0)
  (X ((([]:List Rat),(([]:List Bool),(([]:List Rat),(([]:List Int),(([]:List qk),(([]:List Bool),())))))),g))
  (oW a b c d e f <|
 B (QP j h) λi =>
 V (!i)
  (X ((([]:List Rat),(([]:List Bool),(([]:List Rat),(([]:List Int),(([]:List qk),(([]:List Bool),())))))),1))
  (oW a b c d e f <|
 X (h,0)))
def uP(j:uG->zx->T (uG×zx×Bool))(a:zn):T (Answer×zn) :=
 let c:=(a.1.1,(a.1.2.1,(a.1.2.2.1,(a.1.2.2.2.1,(a.1.2.2.2.2.1,(a.1.2.2.2.2.2.1,()))))));  B (dh (a.2.1.1,(a.2.1.2.1,(a.2.1.2.2.1,(a.2.1.2.2.2.1,(a.2.1.2.2.2.2.1,(a.2.1.2.2.2.2.2.1,()))))))) λf =>
 B (j (a.2.2.1.1,(a.2.2.1.2.1,())) f) λ(d,g,h) =>
 V (!h)
  (X (((13:Int),(([]:List zx),([],()))),a))
  (B (sD c g) λ(b,e) =>
 V (e != 0)
  (X ((e,(([]:List zx),([],()))),a))
  (B (Z6 c b.2.1 a.2.2.2.1) λi =>
 X (((0:Int),(([]:List zx),([],()))),(c,((b.1,(b.2.1,(b.2.2.1,(b.2.2.2.1,(b.2.2.2.2.1,(b.2.2.2.2.2.1,())))))),((d.1,(d.2.1,())),(i,(a.2.2.2.2.1,()))))))))
def tV(a:uG)(g:zx):T (uG×zx×Bool) :=
 V ((a.2.1.length:Int)==0)
  (B (wQ a.1) λb =>
 B (wQ a.2.1) λc =>
 X ((b,(c,())),([],false)))
  (B (tX a.2.1 a.1 g) λ(d,e,f) =>
 X ((e,(d,())),(f,true)))
def VF(d:zx)(a:wm)(g:zt):T (Rat×Int) :=
 B (wE a.1 d) λb =>
 V (E (0<=b))
  (B (lF g b) λe =>
 X (e,0))
  (B (wE a.2.1 d) λc =>
 V (E (c<0))
  (X ((false,(([]:List Int),(([]:List Int),()))),5))
  (B (lF a.2.2.1 c) λf =>
 X (f,0)))
def UA(c:Rat)(d:Rat):T Rat :=
 B (Q2 d) λa =>
 B (oO c a) λb =>
 X b
def y9(h:AM.Expr->wm->zt->T (Rat×Int))(a:AM.Expr)(d:wm)(e:zt):T (Rat×Int) :=
 V ((Expr.kind a)==1)
  (B (vD (Expr.num a)) λi =>
 X (i,0))
  (V ((Expr.kind a)==2)
  (B (VF (Expr.name a) d e) λ(j,k) =>
 X (j,k))
  (oI 0 (Expr.kids a) <|
 B (h (nth (Expr.kids a) 0 (zb .expr)) d e) λ(b,f) =>
 V (f != 0)
  (X ((false,(([]:List Int),(([]:List Int),()))),f))
  (V ((Expr.kind a)==7)
  (B (Q2 b) λl =>
 X (l,0))
  (oI 1 (Expr.kids a) <|
 B (h (nth (Expr.kids a) 1 (zb .expr)) d e) λ(c,g) =>
 V (g != 0)
  (X ((false,(([]:List Int),(([]:List Int),()))),g))
  (V ((Expr.kind a)==3)
  (B (oO b c) λm =>
 X (m,0))
  (V ((Expr.kind a)==4)
  (B (UA b c) λn =>
 X (n,0))
  (V ((Expr.kind a)==5)
  (B (oP b c) λo =>
 X (o,0))
  (B (sT b c) λ(p,q) =>
 V (!q)
  (X ((false,(([]:List Int),(([]:List Int),()))),7))
  (X (p,0))))))))))
def Zl(e:AM.Expr)(v:wm)(at_:zt):T (Rat×Int):=T.fix (λF x=>y9 (λy0 y1 y2=>F (y0,y1,y2)) x.1 x.2.1 x.2.2) (e,v,at_)
def tH(a:AM.Expr)(e:wm)(f:zt):T (Rat×Int) :=
 B (ik a) λb =>
 V (!b)
  (X ((false,(([]:List Int),(([]:List Int),()))),5))
  (B (Zl a e f) λ(c,d) =>
 X (c,d))
def KJ(b:Rat)(c:Rat):T Int :=
 B (UA b c) λa =>
 V a.1
  (X (-1))
  (V (E (0<(a.2.1.length:Int)))
  (X 1)
  (X 0))
def oQ(a:Check)(c:wm)(d:zt):T Bool :=
 B (tH a.2.2.2.1 c d) λ(e,f) =>
 B (tH a.2.2.2.2.1 c d) λ(g,h) =>
 V ((f != 0)||(h != 0))
  (X true)
  (B (KJ e g) λb =>
 V (a.2.2.1==0)
  (X (b != 0))
  (V (a.2.2.1==1)
  (X (E (0<=b)))
  (X (E (0<b)))))
def iR(i:Form)(d:qe)(f:Int)(j:zq)(k:Int)(l:Int)(g:qp)(h:Int):(Int×wm×zp)->T ((Int×wm×zp)⊕((wm×zp)))
 | (b,e,a)=>let c:=nth g b (zb qw);
 V (E (b<h))
  (oI b g <|
 .W (((c.2.1==f)=true)->((c.2.2.1=true)->(((E ((d.2.2.2.2.2.1.length:Int)<=b))=false)->(xe b d.2.2.2.2.2.1.length)))) <|
 V ((c.2.1==f)&&(c.2.2.1&&((E ((d.2.2.2.2.2.1.length:Int)<=b))||(!(nth d.2.2.2.2.2.1 b (zb .bool))))))
  (oA a 16 <|
 oM (a.length+1) (a++([c.1]:List zx)).length <|
 X (zG ((qo (b+1)),(e,(a++([c.1]:List zx))))))
  (oC a <|
 U a <|
 X (zG ((qo (b+1)),(e,a)))))
  (oC a <|
 U a <|
 X (zE (e,a)))
def iO f2 d2 i x3 x4 x5 x6 x7 s:=zK (iR f2 d2 i x3 x4 x5 x6 x7) s
def iS(n:Form)(k:qe)(l:Int)(o:zq)(p:Int)(q:Int)(h:qq)(m:Int):(Int×wm×zp)->T ((Int×wm×zp)⊕((wm×zp)))
 | (c,d,a)=>let e:=nth h c (zb xj);
 V (E (c<m))
  (oI c h <|
 B (V (e.2.1==l)
  (B (oQ e d k.2.2.1) λi =>
 oC a <|
 U a <|
 X (i,(d,(a,e))))
  (oC a <|
 U a <|
 X (false,(d,(a,e)))):T ((Bool×wm×zp×Check))) λ(j,f,b,g) =>
 V j
  (oA b 16 <|
 oM (b.length+1) (b++([g.1]:List zx)).length <|
 X (zG ((qo (c+1)),(f,(b++([g.1]:List zx))))))
  (oC b <|
 U b <|
 X (zG ((qo (c+1)),(f,b)))))
  (oC a <|
 U a <|
 X (zE (d,a)))
def iP f3 d3 i1 x9 x10 x11 x12 x13 s:=zK (iS f3 d3 i1 x9 x10 x11 x12 x13) s
def iQ(c:Form)(i:qe)(d:zq)(h:Int):(Int×wm×zp)->T ((Int×wm×zp)⊕((wm×zp)))
 | (a,g,b) =>
 V (E (a<h))
  (oI a d <|
 V (!(nth d a (zb .bool)))
  (oC b <|
 U b <|
 X (zG ((qo (a+1)),(g,b))))
  (oC b <|
 U b <|
 B (iO c i a d h a c.2.2.2.1 (c.2.2.2.1.length:Int) (0,(g,b))) λ(j,e) =>
 oC e <|
 U e <|
 B (iP c i a d h a c.2.2.2.2.2.1 (c.2.2.2.2.2.1.length:Int) (0,(j,e))) λ(k,f) =>
 oC f <|
 U f <|
 X (zG ((qo (a+1)),(k,f)))))
  (oC b <|
 U b <|
 X (zE (g,b)))
def sU f1 d1 x x1 s:=zK (iQ f1 d1 x x1) s
def iN(b:Form)(c:qe):T zp :=
 B (r7 b c.1) λe =>
 B (kh b c.2.1) λd =>
 oZ <|
 B (sU b c d (d.length:Int) (0,(e,[]))) λ(f,a) =>
 U a <|
 X (zH 0 (zI (0+a.length) a))
def Q5(g:qe)(d:zq)(h:qp)(m:Int):(Int×qh)->T ((Int×qh)⊕qh)
 | (b,a)=>let c:=nth h b (zb qw);
 V (E (b<m))
  (oI b h <|
 .W (((E (c.2.1<(0:Int)))=false)->(((E ((d.length:Int)<=c.2.1))=false)->(xe c.2.1 d.length))) <|
 V ((E (c.2.1<(0:Int)))||((E ((d.length:Int)<=c.2.1))||(!(nth d c.2.1 (zb .bool)))))
  (oC a <|
 U a <|
 X (zG ((qo (b+1)),a)))
  (B (yW 0) λj =>
 B (V (E (b<(g.2.2.1.length:Int)))
  (oI b g.2.2.1 <|
 B (vD (nth g.2.2.1 b (zb zl))) λk =>
 oC a <|
 U a <|
 X (a,(c,k)))
  (oC a <|
 U a <|
 X (a,(c,j))):T ((qh×Field×Rat))) λ(e,l,f)=>let i:=e++([(l.1,((f.1,(f.2.1,(f.2.2.1,()))),()))]:List Param);
 oA e 72 <|
 oM (e.length+1) i.length <|
 X (zG ((qo (b+1)),i))))
  (oC a <|
 U a <|
 X (zE a))
def UC d1 on1 x x1 s:=zK (Q5 d1 on1 x x1) s
def W9(b:Form)(c:qe):T qh :=
 B (kh b c.2.1) λd =>
 oZ <|
 B (UC c d b.2.2.2.1 (b.2.2.2.1.length:Int) (0,[])) λa =>
 U a <|
 X (zH 0 (zI (0+a.length) a))
def mj(f:qh)(g:Int):(Int×Unit×z7)->T ((Int×Unit×z7)⊕((Unit×z7)))
 | (c,j,b)=>let a:=nth f c (zb qg);
 V (E (c<g))
  (oI c f <|
 oK a.1 [32] <|
 B (gx (a.2.1.1,(a.2.1.2.1,(a.2.1.2.2.1,())))) λd =>
 oK (cat a.1 [32]) d <|
 oK (cat (cat a.1 [32]) d) [10] <|
 oC b <|
 U b <|
 B (xo (cat (cat (cat a.1 [32]) d) [10]) () b) λ(h,i,e) =>
 oC e <|
 U e <|
 X (zG ((qo (c+1)),((),e))))
  (oC b <|
 U b <|
 X (zE ((),b)))
def Z9 x x1 s:=zK (mj x x1) s
def mL(b:qh):T zx :=
 oZ <|
 B (Z9 b (b.length:Int) (0,((),[]))) λ(d,a) =>
 oC a <|
 U a <|
 B (pD () a) λ(c,e) =>
 X c
def kO(a:zn):T (Answer×zn) :=
 let b:=(a.1.1,(a.1.2.1,(a.1.2.2.1,(a.1.2.2.2.1,(a.1.2.2.2.2.1,(a.1.2.2.2.2.2.1,())))))); let c:=(a.2.1.1,(a.2.1.2.1,(a.2.1.2.2.1,(a.2.1.2.2.2.1,(a.2.1.2.2.2.2.1,(a.2.1.2.2.2.2.2.1,()))))));  B (iN b c) λd =>
 V (E (0<(d.length:Int)))
  (X (((15:Int),(d,([],()))),a))
  (B (W9 b c) λe =>
 B (mL e) λf =>
 X (((0:Int),(([]:List zx),(f,()))),(b,(c,((a.2.2.1.1,(a.2.2.1.2.1,())),(a.2.2.2.1,(true,())))))))
def gH(b:Op)(a:zn):T (Answer×zn) :=
 let d:=(a.2.1.1,(a.2.1.2.1,(a.2.1.2.2.1,(a.2.1.2.2.2.1,(a.2.1.2.2.2.2.1,(a.2.1.2.2.2.2.2.1,())))))); let c:=(a.1.1,(a.1.2.1,(a.1.2.2.1,(a.1.2.2.2.1,(a.1.2.2.2.2.1,(a.1.2.2.2.2.2.1,()))))));  V (b.1==1)
  (B (VO c d b.2.1 b.2.2.1) λ(e,f,g) =>
 B (vv e f g a) λ(h,i) =>
 X (h,i))
  (V (bif (b.1==2)then(b.1==2)else(b.1==3))
  (B (Zw c d b.2.1 (b.1==2)) λ(j,k,l) =>
 B (vv j k l a) λ(m,n) =>
 X (m,n))
  (V (b.1==4)
  (B (ox c d b.2.1 b.2.2.1) λ(o,p,q) =>
 B (vv o p q a) λ(r,s) =>
 X (r,s))
  (V (b.1==5)
  (B (mA c d b.2.1 b.2.2.2.1) λ(t,u,v) =>
 B (vv t u v a) λ(w,x) =>
 X (w,x))
  (V (b.1==6)
  (B (j6 (λz0 z1 z2=>pz z0 z1 z2) a) λ(y,z) =>
 X (y,z))
  (V (b.1==7)
  (B (j6 (λz0 z1 z2=>pw z0 z1 z2) a) λ(A,zA) =>
 X (A,zA))
  (V (b.1==8)
  (B (W5 c a.2.1.2.1 b.2.1) λ(C,D) =>
 B (jK C D a) λ(zB,G) =>
 X (zB,G))
  (V (b.1==9)
  (B (uP (λz0 z1=>tW z0 z1) a) λ(H,hb) =>
 X (H,hb))
  (V (b.1==10)
  (B (uP (λz0 z1=>tV z0 z1) a) λ(hd,K) =>
 X (hd,K))
  (V (b.1==11)
  (B (kO a) λ(L,h2) =>
 X (L,h2))
  (X (((1:Int),(([]:List zx),([],()))),a)))))))))))
def cE(a:zn)(b:Answer)(c:zn):T (zn×Answer×zn) :=
 V false
  (X (a,(((1:Int),(([]:List zx),([],()))),a)))
  (X (a,(b,c)))
def vJ(f:Op)(a:zn):T (Answer×zn) :=
 V false
  (X (((1:Int),(([]:List zx),([],()))),a))
  (V a.2.2.2.2.1
  (X (((14:Int),(([]:List zx),([],()))),a))
  (B (gH f a) λ(b,c) =>
 B (cE a b c) λ(g,d,e) =>
 X (d,e)))
def bV(e:Ju)(g:Int):(Int×zn×gw)->T ((Int×zn×gw)⊕((zn×gw)))
 | (b,d,a) =>
 V (E (b<g))
  (oI b e <|
 B (vJ (nth e b (zb cq)) d) λ(c,f) =>
 oA a 48 <|
 oM (a.length+1) (a++[c]).length <|
 X (zG ((qo (b+1)),(f,(a++[c])))))
  (oC a <|
 U a <|
 X (zE (d,a)))
def ig x x1 s:=zK (bV x x1) s
def jy(b:Ju)(d:zn):T (zn×gw) :=
 oZ <|
 B (ig b (b.length:Int) (0,(d,[]))) λ(c,a) =>
 oC a <|
 U a <|
 X (c,a)
def mV(a:Op):T Answer :=
 V true
  (X ((1:Int),(([]:List zx),([],()))))
  (.fail)
def eB(d:Ju)(e:Int):(Int×gw)->T ((Int×gw)⊕gw)
 | (b,a) =>
 V (E (b<e))
  (oI b d <|
 B (mV (nth d b (zb cq))) λc =>
 oA a 48 <|
 oM (a.length+1) (a++[c]).length <|
 X (zG ((qo (b+1)),(a++[c]))))
  (oC a <|
 U a <|
 X (zE a))
def tq x x1 s:=zK (eB x x1) s
def yU(b:Ju):T gw :=
 oZ <|
 B (tq b (b.length:Int) (0,[])) λa =>
 oC a <|
 U a <|
 X a
def kA  : T Bool :=
 B (gI (([]:List Switch),(([]:List Param),(([([112],([],()))]:List eQ),(([([97],((0:Int),(false,((0:Int),()))))]:List Field),(([]:List eb),(([]:List Check),()))))))) <|
 zF (λ(f,c,d) =>
 V ((c != 0)||false)
  (X false)
  (B (jy ([((1:Int),([97],((false,(([1]:List Int),(([2]:List Int),()))),(false,())))),((9:Int),([],((false,(([]:List Int),(([]:List Int),()))),(false,())))),((9:Int),([],((false,(([]:List Int),(([]:List Int),()))),(false,()))))]:List Op) d) λ(g,a) =>
 .W ((((a.length:Int)==3)=true)->((xe 0 a.length)/\((uO a.length a.length (0+(zJ 0)) a.length)/\((((wh a (0+(zJ 0)) (zb xv)).1==0)=true)->((xe 1 a.length)/\((uO a.length a.length (0+(zJ 1)) a.length)/\((((wh a (0+(zJ 1)) (zb xv)).1==0)=true)->((xe 2 a.length)/\(uO a.length a.length (0+(zJ 2)) a.length))))))))) <|
 X (((a.length:Int)==3)&&(((wh a (0+(zJ 0)) (zb xv)).1==0)&&(((wh a (0+(zJ 1)) (zb xv)).1==0)&&((wh a (0+(zJ 2)) (zb xv)).1==13))))))
  (λ(h,e) =>
 V ((e != 0)||true)
  (X false)
  (B (yU ([((1:Int),([97],((false,(([1]:List Int),(([2]:List Int),()))),(false,())))),((9:Int),([],((false,(([]:List Int),(([]:List Int),()))),(false,())))),((9:Int),([],((false,(([]:List Int),(([]:List Int),()))),(false,()))))]:List Op)) λb =>
 .W ((((b.length:Int)==3)=true)->((xe 0 b.length)/\((uO b.length b.length (0+(zJ 0)) b.length)/\((((wh b (0+(zJ 0)) (zb xv)).1==0)=true)->((xe 1 b.length)/\((uO b.length b.length (0+(zJ 1)) b.length)/\((((wh b (0+(zJ 1)) (zb xv)).1==0)=true)->((xe 2 b.length)/\(uO b.length b.length (0+(zJ 2)) b.length))))))))) <|
 X (((b.length:Int)==3)&&(((wh b (0+(zJ 0)) (zb xv)).1==0)&&(((wh b (0+(zJ 1)) (zb xv)).1==0)&&((wh b (0+(zJ 2)) (zb xv)).1==13))))))
def eK(e:AM.Expr->Int->T Int)(c:AM.Expr):(Int×Int)->T ((Int×Int)⊕Int)
 | (b,a) =>
 V ((E (a<((Expr.kids c).length:Int)))&&(E (0<=b)))
  (oI a (Expr.kids c) <|
 B (e (nth (Expr.kids c) a (zb .expr)) b) λd =>
 X (zG (d,(qo (a+1)))))
  (X (zE b))
def nU self_law22_weight e1 s:=zK (eK self_law22_weight e1) s
def dw(c:AM.Expr->Int->T Int)(a:AM.Expr)(d:Int):T Int :=
 B (nU c a ((qo ((qo ((qo ((qo (d-3))-((Expr.name a).length:Int)))-(qo (8*(zM (zL (Expr.num a).2.1):Int)))))-(qo (8*(zM (zL (Expr.num a).2.2.1):Int))))),0)) λb =>
 X b
def bY(e:AM.Expr)(left:Int):T Int:=T.fix (λF x=>dw (λy0 y1=>F (y0,y1)) x.1 x.2) (e,left)
def ry(b:Form):(Int×Int)->T ((Int×Int)⊕Int)
 | (c,a) =>
 V ((E (a<(b.2.1.length:Int)))&&(E (0<=c)))
  (oI a b.2.1 <|
 oI a b.2.1 <|
 oI a b.2.1 <|
 X (zG ((qo ((qo ((qo (c-(qo (8*(zM (zL (nth b.2.1 a (zb qg)).2.1.2.1):Int)))))-(qo (8*(zM (zL (nth b.2.1 a (zb qg)).2.1.2.2.1):Int)))))-(zM (zL (nth b.2.1 a (zb qg)).1):Int))),(qo (a+1)))))
  (X (zE c))
def YD f1 s:=zK (ry f1) s
def rA(c:Form):(Int×Int)->T ((Int×Int)⊕Int)
 | (b,a) =>
 V ((E (a<(c.1.length:Int)))&&(E (0<=b)))
  (oI a c.1 <|
 X (zG ((qo (b-(zM (zL (nth c.1 a (zb qs)).1):Int))),(qo (a+1)))))
  (X (zE b))
def YE f2 s:=zK (rA f2) s
def rB(b:Form):(Int×Int)->T ((Int×Int)⊕Int)
 | (c,a) =>
 V ((E (a<(b.2.2.1.length:Int)))&&(E (0<=c)))
  (oI a b.2.2.1 <|
 oI a b.2.2.1 <|
 X (zG ((qo ((qo (c-(zM (zL (nth b.2.2.1 a (zb xp)).1):Int)))-(zM (zL (nth b.2.2.1 a (zb xp)).2.1):Int))),(qo (a+1)))))
  (X (zE c))
def YF f3 s:=zK (rB f3) s
def rC(c:Form):(Int×Int)->T ((Int×Int)⊕Int)
 | (b,a) =>
 V ((E (a<(c.2.2.2.1.length:Int)))&&(E (0<=b)))
  (oI a c.2.2.2.1 <|
 X (zG ((qo (b-(zM (zL (nth c.2.2.2.1 a (zb qw)).1):Int))),(qo (a+1)))))
  (X (zE b))
def YG f4 s:=zK (rC f4) s
def rD(b:Form):(Int×Int)->T ((Int×Int)⊕Int)
 | (d,a)=>let c:=nth b.2.2.2.2.1 a (zb xm);
 V ((E (a<(b.2.2.2.2.1.length:Int)))&&(E (0<=d)))
  (oI a b.2.2.2.2.1 <|
 oI a b.2.2.2.2.1 <|
 oI a b.2.2.2.2.1 <|
 oI a b.2.2.2.2.1 <|
 B (bY c.2.2.2.1 (qo ((qo (d-(c.1.length:Int)))-(c.2.2.1.length:Int)))) λe =>
 B (bY c.2.2.2.2.1 e) λf =>
 X (zG (f,(qo (a+1)))))
  (X (zE d))
def YH f5 s:=zK (rD f5) s
def rE(b:Form):(Int×Int)->T ((Int×Int)⊕Int)
 | (c,a)=>let d:=nth b.2.2.2.2.2.1 a (zb xj);
 V ((E (a<(b.2.2.2.2.2.1.length:Int)))&&(E (0<=c)))
  (oI a b.2.2.2.2.2.1 <|
 oI a b.2.2.2.2.2.1 <|
 oI a b.2.2.2.2.2.1 <|
 B (bY d.2.2.2.1 (qo (c-(d.1.length:Int)))) λe =>
 B (bY d.2.2.2.2.1 e) λf =>
 X (zG (f,(qo (a+1)))))
  (X (zE c))
def YI f6 s:=zK (rE f6) s
def sK(a:Form):T Bool :=
 B (YD a ((qo (600-(qo (20*(qo ((qo ((qo ((qo ((qo ((a.1.length:Int)+(a.2.1.length:Int)))+(a.2.2.1.length:Int)))+(a.2.2.2.1.length:Int)))+(a.2.2.2.2.1.length:Int)))+(a.2.2.2.2.2.1.length:Int))))))),0)) λb =>
 B (YE a (b,0)) λc =>
 B (YF a (c,0)) λd =>
 B (YG a (d,0)) λe =>
 B (YH a (e,0)) λf =>
 B (YI a (f,0)) λg =>
 X (E (g<0))
def tw(b:Ju):Int->T (Int⊕(Unit⊕Bool))
 | a=>let c:=nth b a (zb cq);
 V ((E (a<(b.length:Int)))&&(E (a<25)))
  (.W ((xe a b.length)/\(((E (60<(c.2.1.length:Int)))=false)->((xe a b.length)/\(((E (3<(c.2.2.1.2.1.length:Int)))=false)->(xe a b.length))))) <|
 V ((E (60<(c.2.1.length:Int)))||((E (3<(c.2.2.1.2.1.length:Int)))||(E (3<(c.2.2.1.2.2.1.length:Int)))))
  (X (zE (zE true)))
  (X (zG (qo (a+1)))))
  (X (zE (zG ())))
def Ww l1 s:=zK (tw l1) s
def ZN(b:Ju):T Bool :=
 B (Ww b 0) <|
 zF (λ_ =>
 X false)
  (λa =>
 X a)
def lZ(b:Answer)(c:Answer):Int->T (Int⊕(Unit⊕Bool))
 | a =>
 V (E (a<(b.2.1.length:Int)))
  (oI a b.2.1 <|
 oI a c.2.1 <|
 V (!(wG (nth b.2.1 a (zb .str)) (nth c.2.1 a (zb .str))))
  (X (zE (zE false)))
  (X (zG (qo (a+1)))))
  (X (zE (zG ())))
def tZ a1 b1 s:=zK (lZ a1 b1) s
def mI(a:Answer)(b:Answer):T Bool :=
 V ((a.1 != b.1)||((!(wG a.2.2.1 b.2.2.1))||((a.2.1.length:Int) != (b.2.1.length:Int))))
  (X false)
  (B (tZ a b 0) <|
 zF (λ_ =>
 X true)
  (λc =>
 X c))
def pW(b:zx):T zx :=
 B (strconv_Itoa (b.length:Int)) λa =>
 oK a [10] <|
 oK (cat a [10]) b <|
 X (cat (cat a [10]) b)
def Zx(d:zp)(e:Int):(zx×Int)->T ((zx×Int)⊕zx)
 | (b,a) =>
 V (E (a<e))
  (oI a d <|
 B (pW (nth d a (zb .str))) λc =>
 oK b c <|
 X (zG ((cat b c),(qo (a+1)))))
  (X (zE b))
def VT x x1 s:=zK (Zx x x1) s
def tR(a:zx)(c:zp):T zx :=
 oK a [32] <|
 B (strconv_Itoa (c.length:Int)) λb =>
 oK (cat a [32]) b <|
 oK (cat (cat a [32]) b) [10] <|
 B (VT c (c.length:Int) ((cat (cat (cat a [32]) b) [10]),0)) λd =>
 X d
def WV(a:Ea):T zx :=
 B (pW a.1) λb =>
 B (tR [112,97,115,116] a.2.1.1) λc =>
 oK b c <|
 B (tR [102,117,116,117,114,101] a.2.1.2.1) λd=>let g:=cat (cat (cat b c) d) [112,97,103,101,32];
 oK (cat b c) d <|
 oK (cat (cat b c) d) [112,97,103,101,32] <|
 B (strconv_Itoa a.2.2.1) λe=>let h:=cat (cat g e) [10,115,101,110,116,32];
 oK g e <|
 oK (cat g e) [10,115,101,110,116,32] <|
 B (dM a.2.2.2.1) λf =>
 oK h f <|
 oK (cat h f) [10] <|
 X (cat (cat h f) [10])
def jT(a:zn):T zx :=
 V false
  (X [])
  (B (dh a.2.1) λb =>
 B (WV (b,((a.2.2.1.1,(a.2.2.1.2.1,())),(a.2.2.2.1,(a.2.2.2.2.1,()))))) λc =>
 X c)
def ek(d:Ju):(Int×zn×zn×gw)->T ((Int×zn×zn×gw)⊕((zn×zn×gw)⊕(Bool×zn×zn×gw)))
 | (b,f,c,a) =>
 V (E (b<(d.length:Int)))
  (oI b d <|
 B (vJ (nth d b (zb cq)) f) λ(g,e) =>
 oI b a <|
 .W (uO a.length a.length (0+(zJ b)) a.length) <|
 B (mI g (wh a (0+(zJ b)) (zb xv))) λh =>
 V (!h)
  (U a <|
 X (zE (zE (false,(e,(c,a))))))
  (oC a <|
 U a <|
 X (zG ((qo (b+1)),(e,(c,a))))))
  (U a <|
 X (zE (zG (f,(c,a)))))
def oe l1 s:=zK (ek l1) s
def bC(e:Form)(a:Ju):T Bool :=
 B (B (sK e) λf =>
 V f
  (X true)
  (B (ZN a) λg =>
 V g
  (X true)
  (X (E (25<(a.length:Int))))):T Bool) λh =>
 V h
  (X true)
  (B (gI e) <|
 zF (λ(D,b,i) =>
 B (gI e) <|
 zF (λ(zB,j,k) =>
 V ((b != j)||(!(false==false)))
  (X false)
  (V (b != 0)
  (B (kA) λl =>
 X l)
  (B (jy a k) λ(m,c) =>
 V ((c.length:Int) != (a.length:Int))
  (X false)
  (oC c <|
 U c <|
 B (oe a (0,(i,(m,c)))) <|
 zF (λ(n,o,G) =>
 B (jT n) λp =>
 B (jT o) λq =>
 V (wG p q)
  (B (kA) λr =>
 X r)
  (X false))
  (λ(s,H,hb,hd) =>
 X s)))))
  (λ(K,t) =>
 V ((b != t)||(!(false==true)))
  (X false)
  (V (b != 0)
  (B (kA) λu =>
 X u)
  (B (yU a) λv =>
 V ((v.length:Int) != (a.length:Int))
  (X false)
  (.fail)))))
  (λ(L,d) =>
 B (gI e) <|
 zF (λ(h2,w,x) =>
 V ((d != w)||(!(true==false)))
  (X false)
  (V (d != 0)
  (B (kA) λy =>
 X y)
  (B (jy a x) λ(hx,z) =>
 V ((z.length:Int) != (a.length:Int))
  (X false)
  (.fail))))
  (λ(z6,A) =>
 V ((d != A)||(!(true==true)))
  (X false)
  (V (d != 0)
  (B (kA) λzA =>
 X zA)
  (B (yU a) λC =>
 V ((C.length:Int) != (a.length:Int))
  (X false)
  (.fail))))))

end Go.AM.Lf
