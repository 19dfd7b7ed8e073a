/-
  Plain laws of the lifted program, part 1.
-/
import Derived.Test.YthhgaidlooddpaaGreatDoorLf0
import Derived.Test.YthhgaidlooddpaaGreatDoorAmA
import Derived.Test.YthhgaidlooddpaaGreatDoorAmD
import Derived.Test.YthhgaidlooddpaaGreatDoorQ0
set_option linter.unusedVariables false
open Go.AM.T (DU NC k8 mn nC q8 qu qz wN wV yp z6 z7 z8 zL za zb zf zk zr)
namespace Go.AM.PL
def wE(b:UInt8):Bool:=decide (48<=b.toNat/\b.toNat<=57)
def qX(s:zd):Bool:=s.all wE
def xx(s:zd):Nat:=s.foldl (λn b=>n*10+(b.toNat-48)) 0
theorem Ny(s:zd)(n:Nat):s.foldl (λn b=>n*10+(b.toNat-48)) n=n*10 ^ s.length+xx s:=by
 unfold xx
 induction s generalizing n with
 | nil=>simp
 | cons b s ih =>
  grind
theorem Qt(s t:zd):xx (s++t)=xx s*10 ^ t.length+xx t:=by
 have:=Ny t (xx s)
 unfold xx at this ⊢
 grind
theorem Xn(s:zd)(b:UInt8):xx (s++[b])=xx s*10+(b.toNat-48):=by
 unfold xx; rw[List.foldl_append]; rfl
theorem sQ{b:UInt8}:wE b=true↔48<=b.toNat/\b.toNat<=57:=by unfold wE; simp
theorem GN{s:zd}(h:qX s=true):xx s<10 ^ s.length:=by
 have key:∀ (s:zd) (n k:Nat),qX s=true->n<10 ^ k->s.foldl (λn b=>n*10+(b.toNat-48)) n<10 ^ (k+s.length):=by
  intro s
  induction s with
  | nil=>simp
  | cons b s ih =>
   intro n k hd hn
   simp only[qX,List.all_cons,Bool.and_eq_true]at hd
   have hb:=sQ.1 hd.1
   have:=ih (n*10+(b.toNat-48)) (k+1) hd.2 (by rw[Nat.pow_succ]; omega)
   rw[List.foldl_cons,List.length_cons]
   rwa [show k+(s.length+1)=k+1+s.length by omega]
 have:=key s 0 0 h (by simp)
 simpa[xx]using this
theorem bI(s t:zd):qX (s++t)=(qX s&&qX t):=by unfold qX; rw[List.all_append]
theorem uz(b:UInt8)(t:zd):qX (b::t)=(wE b&&qX t):=rfl
theorem fO{s:zd}(h:qX s=true):(zB (xx s)).length<=s.length+1:=by
 refine Nat.le_trans (U7 (Nat.le_of_lt (GN h))) ?_
 refine zS.2 (Nat.lt_of_lt_of_le (Nat.pow_lt_pow_right (a:=10) (by omega) (Nat.lt_succ_self s.length)) ?_)
 exact Nat.pow_le_pow_left (by omega) _
def oh(s:zd):Option Nat:=if s=[]\/400<s.length\/qX s=false then none else some (xx s)
theorem Ju(f:Nat->Bool):∀ (n k i:Nat),i<n->oB .bool (dY .bool n) (OT (e:=.bool) f n k) i=f (k+i)
 | 0,_,_,h=>by omega
 | n+1,k,0,_=>by
  rfl
 | n+1,k,i+1,h=>by
  show oB .bool (dY .bool n) (OT (e:=.bool) f n (k+1)) i=_
  rw[Ju f n (k+1) i (by omega)]
  grind
abbrev y4:zd:=[48,49,50,51,52,53,54,55,56,57]
theorem z3J:∀ c:Fin 256,y4.contains (UInt8.ofNat c.val)=decide (48<=c.val/\c.val<=57):=by decide +kernel
theorem uP{s:zd}{k:Nat}(h:k<s.length):zt s (k:Int)=((s[k]).toNat:Int):=by
 unfold zt; simp[h]
theorem Zk(b:UInt8)(s:zd):qC 1 (((b::s).length:Nat):Int) (b::s)=s:=by unfold qC; simp
theorem OF(s:zd)(b:UInt8):qC 0 ((s.length:Nat):Int) (s++[b])=s:=by unfold qC; simp
end Go.AM.PL
namespace Go.AM.Lf
open PL
theorem QX(b:UInt8):(xN (dC y4) (b.toNat:Int)).run=some (wE b):=by
 have hb:b.toNat<256:=b.toNat_lt
 unfold xN
 rw[zb ⟨by omega,by omega⟩,z7]
 unfold dC
 rw[Int.toNat_natCast,Ju _ 256 0 _ hb,Nat.zero_add]
 exact congrArg some (z3J ⟨b.toNat,hb⟩)
theorem Ko(s:zd)(hs:s.length<=1000000000):∃ r,(vM s (dC y4)).run=some r/\qX r=qX s/\(qX r=true->r=[])/\r.length<=s.length:=by
 have:=T.qY (r:=wG (dC y4)) (λt:zd=>qX t=qX s/\t.length<=s.length) (λt=>t.length) (λr:zd=>qX r=qX s/\(qX r=true->r=[])/\r.length<=s.length) (λt ht => ?_) (s:=s) ⟨rfl,Nat.le_refl _⟩
 ·obtain⟨r,h1,h2⟩:=this
  have h1:(yi (dC y4) s).run=some r:=h1
  unfold vM
  rw[z6 h1]
  exact⟨r,rfl,h2⟩
 ·rcases List.eq_nil_or_concat t with rfl | ⟨l,b,rfl⟩
  ·right
   refine⟨[],?_,ht.1,λ_=>rfl,by simp⟩
   rfl
  ·rw[List.concat_eq_append]at ht ⊢
   have hl:(l++[b]).length=l.length+1:=by simp
   have e1:zI (((l++[b]).length:Int)-1)=(l.length:Int):=by rw[hl,zA (by omega) (by omega)]; omega
   have e2:zt (l++[b]) (l.length:Int)=(b.toNat:Int):=by rw[uP (by simp)]; simp
   unfold wG
   rw[za (decide_eq_true (by simp)),e1,qz _ (by omega) (by grind),e2,z6 (QX b)]
   cases hb:wE b with
   | false =>
    right
    refine⟨_,by rfl,ht.1,λh => ?_,ht.2⟩
    rw[bI,uz,hb]at h; simp at h
   | true =>
    left
    refine⟨l,by rw[z8 (by rfl),yp _ (by omega) (by omega) (by grind),z7,OF],⟨?_,by omega⟩,by omega⟩
    rw[<- ht.1,bI,uz,hb]; simp[qX]
theorem Bc(s:zd)(hs:s.length<=1000000000):∃ r,(uf s (dC y4)).run=some r/\qX r=qX s/\(qX r=true->r=[]):=by
 have:=T.qY (r:=va (dC y4)) (λt:zd=>qX t=qX s) (λt=>t.length) (λr:zd=>qX r=qX s/\(qX r=true->r=[])) (λt ht => ?_) (s:=s) rfl
 ·obtain⟨r,h1,h2⟩:=this
  have h1:(yE (dC y4) s).run=some r:=h1
  unfold uf
  rw[z6 h1]
  exact⟨r,rfl,h2⟩
 ·cases t with
  | nil =>
   right
   refine⟨[],?_,ht,λ_=>rfl⟩
   rfl
  | cons b l =>
   have e2:zt (b::l) 0=(b.toNat:Int):=rfl
   unfold va
   rw[za (decide_eq_true (by simp)),qz _ (by omega) (by simp),e2,z6 (QX b)]
   cases hb:wE b with
   | false =>
    right
    refine⟨_,by rfl,ht,λh => ?_⟩
    rw[uz,hb]at h; simp at h
   | true =>
    left
    refine⟨l,by rw[z8 (by rfl),yp _ (by omega) (by grind) (by omega),z7,Zk],?_,by simp⟩
    rw[<- ht,uz,hb]; rfl
theorem GW:∀ (j:Nat) b,y4[j]? = some b->b.toNat<128:=by
 intro j b h
 have:b∈y4:=List.mem_of_getElem? h
 simp at this
 rcases this with rfl | rfl | rfl | rfl | rfl | rfl | rfl | rfl | rfl | rfl<;>decide
theorem Vc(s:zd)(hs:s.length<=1000000000)(hn:s≠[]):∃ r,(ya s y4).run=some r/\zi r []=qX s:=by
 obtain⟨r1,a1,a2,a3,a4⟩:=Ko s hs
 obtain⟨r,b1,b2,b3⟩:=Bc r1 (by omega)
 refine⟨r,?_,?_⟩
 ·have hm:(strings_makeASCIISet y4).run=some (dC y4,true):=by
   unfold strings_makeASCIISet
   rw[zb ⟨by decide,GW⟩,z7]
  have e1:zi s []=false:=by rw[xQ]; simpa using hn
  unfold ya
  rw[z8 (by rw[e1]; rfl),zb (λh=>by grind),z8 (by rfl),z6 hm,zk,z6 a1,z6 b1,z7]
 ·rw[xQ]
  rw[a2]at b2
  cases h:qX s with
  | true=>grind
  | false =>
   rw[h]at b2
   refine decide_eq_false λz => ?_
   subst z; cases b2
theorem z7m(v:Nat)(b:UInt8)(hb:wE b=true):zV (Gd ((b.toNat:Int)-48))=((b.toNat-48:Nat):Int):=by
 have:=sQ.1 hb
 rw[Un (by omega) (by omega),qy (by omega) (by omega)]; omega
theorem Yg:zq [(10:Int)]:=by intro x hx; simp at hx; omega
theorem cN(s:zd)(hs:s.length<=1000000000):(vV s).run=some (match oh s with | some n=>(zB n,true) | none=>([],false)):=by
 unfold vV oh
 by_cases c1:s=[]
 ·subst c1; rw[if_pos (.inl rfl)]; rfl
 ·have e1:zi s []=false:=by rw[xQ]; simpa using c1
  by_cases c2:400<s.length
  ·have hg:(.ite (zi s ([]:zd)) (.ret true) (.ite (decide ((400:Int)<(Nat.cast (List.length s):Int))) (.ret true) (T.bind (ya s ([48,49,50,51,52,53,54,55,56,57]:zd)) λr=>.ret (!(zi r ([]:zd))))):T Bool).run=some true:=by
    rw[z8 e1,za (decide_eq_true (by omega)),z7]
   rw[z6 hg,if_pos (.inr (.inl c2))]; rfl
  ·obtain⟨r,h1,h2⟩:=Vc s hs c1
   have hg:(.ite (zi s ([]:zd)) (.ret true) (.ite (decide ((400:Int)<(Nat.cast (List.length s):Int))) (.ret true) (T.bind (ya s ([48,49,50,51,52,53,54,55,56,57]:zd)) λr=>.ret (!(zi r ([]:zd))))):T Bool).run=some (!(qX s)):=by
    rw[z8 e1,z8 (decide_eq_false (by omega)),z6 h1,z7,h2]
   rw[z6 hg]
   cases hd:qX s with
   | false=>simp
   | true =>
    rw[if_neg (by simp[c1]; omega),z8 (by rfl)]
    have hL:(Xc s (s.length:Int) ([],0)).run=some (zB (xx s)):=by
     have:=wN (r:=b7 s (s.length:Int)) (λst:List Int×Int=>∃ k:Nat,st=(zB (xx (s.take k)),(k:Int))/\k<=s.length) (λst=>s.length-st.2.toNat) (λ_=>zB (xx s)) (λst xR => ?_) (s:=([],0)) ⟨0,by simp[xx,qs],by omega⟩
     ·exact this
     ·obtain⟨k,rfl,hk⟩:=xR
      by_cases c:k<s.length
      ·left
       have hb:wE s[k]=true:=List.all_eq_true.1 hd _ (List.getElem_mem c)
       have ht:qX (s.take k)=true:=List.all_eq_true.2 λx hx=>List.all_eq_true.1 hd x (List.mem_of_mem_take hx)
       have hl:=fO ht
       have PW:(zB (xx (s.take k))).length<=500:=by rw[List.length_take]at hl; omega
       have hm:=rK (zB (xx (s.take k))) [10] (zo _) Yg (by omega) (by simp)
       rw[zN,show nv [10]=10 from rfl]at hm
       have hml:=iT (xx (s.take k)) 10
       have Pu:(zB 10).length<=1:=zS.2 (by decide)
       have hd9:(zB (s[k].toNat-48)).length<=1:=zS.2 (by have:=sQ.1 hb; show _<4294967296 ^ 1; omega)
       have ha:=Cs (zB (xx (s.take k)*10)) (zB (s[k].toNat-48)) (zo _) (zo _) (by omega) (by omega)
       rw[zN,zN]at ha
       refine⟨(zB (xx (s.take (k+1))),((k+1:Nat):Int)),?_,⟨k+1,rfl,c⟩,by simp only[Int.toNat_natCast]; omega,rfl⟩
       unfold b7
       dsimp only
       rw[za (vX c),z6 hm,zb (zH c),uP c,z7m 0 _ hb,z6 (gv _ (by have:=sQ.1 hb; omega)),z6 ha,z7,fx k _ c (by omega),
        List.take_succ_eq_append_getElem c,Xn]
      ·have:k=s.length:=by omega
       subst this
       right
       unfold b7
       dsimp only
       rw[z8 (oz _),z7,List.take_length]
    rw[z6 hL,z7]
end Go.AM.Lf
namespace Go.AM.PL
def XM(t:zd):Option (Nat×Nat) :=
 if t.takeWhile wE=[]then none else match t.dropWhile wE with
 | []=>some (xx (t.takeWhile wE),1)
 | c::q=>if q=[]\/qX q=false then none else if c=46 then some (xx (t.takeWhile wE)*10 ^ q.length+xx q,10 ^ q.length)
  else if c=47 then(if xx q=0 then none else some (xx (t.takeWhile wE),xx q))else none
theorem pB{u:zd}(h:qX u=true)(r:zd)(hr:∀ c q,r=c::q->wE c=false):(u++r).takeWhile wE=u/\(u++r).dropWhile wE=r:=by
 induction u with
 | nil =>
  cases r with
  | nil=>simp
  | cons c q=>have:=hr c q rfl; simp[this]
 | cons b u ih =>
  rw[uz,Bool.and_eq_true]at h
  obtain⟨i1,i2⟩:=ih h.2
  simp[h.1,i1,i2]
theorem QJ{u:zd}(h:qX u=true):XM u=if u=[]then none else some (xx u,1):=by
 have:=pB h [] (λc q z=>by cases z)
 unfold XM
 grind
theorem dy{u:zd}(h:qX u=true)(c:UInt8)(q:zd)(hc:wE c=false):XM (u++c::q)=if u=[]then none else if q=[]\/qX q=false then none else if c=46 then some (xx u*10 ^ q.length+xx q,10 ^ q.length)
  else if c=47 then(if xx q=0 then none else some (xx u,xx q))else none:=by
 have:=pB h (c::q) (λc' q' z=>by grind)
 unfold XM
 grind
theorem Cb{u:zd}(h:qX u=true)(c:UInt8)(q:zd)(hc:wE c=false)(h1:c≠46)(h2:c≠47):XM (u++c::q)=none:=by
 rw[dy h c q hc,if_neg h1,if_neg h2]
 simp
theorem mU{w:zd}(h:qX w=false):∃ u c v,w=u++c::v/\qX u=true/\wE c=false:=by
 induction w with
 | nil=>cases h
 | cons b w ih =>
  cases hb:wE b with
  | false=>exact⟨[],b,w,rfl,rfl,hb⟩
  | true =>
   rw[uz,hb,Bool.true_and]at h
   obtain⟨u,c,v,rfl,h1,h2⟩:=ih h
   exact⟨b::u,c,v,rfl,by rw[uz,hb,h1]; rfl,h2⟩
theorem Us{c:UInt8}{s:zd}(h:c∈s):∃ w q,s=w++c::q/\c ∉ w:=by
 induction s with
 | nil=>cases h
 | cons b s ih =>
  by_cases hb:b=c
  ·subst hb; exact⟨[],s,rfl,by simp⟩
  ·grind
theorem z1s(c:UInt8)(w q:zd)(h:c ∉ w):dX (w++c::q) [c]=(w.length:Int):=by
 induction w with
 | nil=>simp[dX]
 | cons b w ih =>
  unfold dX
  grind
theorem OZ(c:UInt8)(s:zd)(h:c ∉ s):dX s [c] = -1:=by
 induction s with
 | nil=>rfl
 | cons b w ih =>
  unfold dX
  grind
theorem lO(c:UInt8)(w q:zd)(h:c ∉ w):wT (w++c::q) [c]=(w,q,true):=by
 unfold wT
 rw[z1s c w q h,if_pos (by omega)]
 simp
theorem cE(c:UInt8)(s:zd)(h:c ∉ s):wT s [c]=(s,[],false):=by
 unfold wT
 rw[OZ c s h,if_neg (by omega)]
theorem Ys{s:zd}{n:Nat}(h:oh s=some n):s≠[]/\s.length<=400/\qX s=true/\n=xx s:=by
 unfold oh at h
 grind
theorem QN{s:zd}(h1:s≠[])(h2:s.length<=400)(h3:qX s=true):oh s=some (xx s):=by
 unfold oh
 grind
theorem nn{s:zd}(h:s=[]\/qX s=false):oh s=none:=by
 unfold oh
 grind
end Go.AM.PL
namespace Go.AM.Lf
open PL
def qo:Rat:=(false,[],[],())
def oi(s:zd):Option (Nat×Nat):=XM (yU s [45])
theorem pZ(s p:zd):(yU s p).length<=s.length:=by unfold yU; split<;>simp
theorem FV(t:zd)(ht:t.length<=400)(neg:Bool) :
  (T.bind (strings_Cut t ([46]:zd)) λ(whole,part,ok) =>
   .ite ok
    (T.bind (vV part) λ(r,is) =>
     .zy (((List.length whole)+(List.length part))<=(4611686018427387904:Nat)) <|
     T.bind (vV (cat whole part)) λ(n,both) =>
     .ite ((zi whole ([]:zd))||((!is)||(!both)))
      (.ret ((false,(([]:List Int),(([]:List Int),()))),(2:Int)))
      (T.bind (sa (Nat.cast (List.length part):Int)) λr1 =>
       T.bind (nc neg n r1) λr2 =>
       .ret (r2,(0:Int))))
    (T.bind (strings_Cut t ([47]:zd)) λ(num,den,ok1) =>
     T.bind (vV num) λ(n1,is1) =>
     T.bind (vV (bif (!ok1)then([49]:zd)else den)) λ(d,both1) =>
     .ite ((!is1)||((!both1)||((Nat.cast (List.length d):Int)==(0:Int))))
      (.ret ((false,(([]:List Int),(([]:List Int),()))),(2:Int)))
      (T.bind (nc neg n1 d) λr3 =>
       .ret (r3,(0:Int)))):T (Rat×Int)).run=some (match XM t with | some (n,d)=>(um neg n d,(0:Int)) | none=>(qo,(2:Int))):=by
 have cF:∀ c:UInt8,(strings_Cut t [c]).run=some (wT t [c]):=λc=>by
  unfold strings_Cut; rw[zb (by omega),z7]
 rw[z6 (cF 46)]
 have h46:wE 46=false:=by decide
 have h47:wE 47=false:=by decide
 by_cases c1:(46:UInt8)∈t
 ·obtain⟨w,p,rfl,hw⟩:=Us c1
  rw[lO 46 w p hw]
  have hl:w.length+p.length+1<=400:=by simp at ht; omega
  dsimp only
  rw[zk,z6 (cN p (by omega))]
  have hwp:=cN (cat w p) (by rw[qe]; omega)
  by_cases d1:qX w=true
  ·rw[dy d1 46 p h46]
   by_cases d2:w=[]
   ·subst d2
    rw[if_pos rfl]
    generalize oh p=o at *
    cases o<;>(dsimp only; rw[zr _ (by simp; omega),z6 hwp]; generalize oh (cat [] p)=o2; cases o2<;>rfl)
   ·rw[if_neg d2]
    by_cases d3:p=[]\/qX p=false
    ·rw[if_pos d3,nn d3]
     dsimp only
     rw[zr _ (by omega),z6 hwp]
     generalize oh (cat w p)=o2
     cases o2<;>(dsimp only; rw[za (by simp),z7]; rfl)
    ·rw[if_neg d3,if_pos rfl]
     have d4:p≠[]:=λz=>d3 (.inl z)
     have d5:qX p=true:=by cases h:qX p with | true=>rfl | false=>exact absurd (.inr h) d3
     have d6:qX (cat w p)=true:=by rw[kz,bI,d1,d5]; rfl
     have d7:cat w p≠[]:=by rw[kz]; simp[d2]
     rw[QN d4 (by omega) d5]
     rw[QN d7 (by rw[qe]; omega) d6]at hwp
     dsimp only at hwp ⊢
     have e1:zi w []=false:=by rw[xQ]; simpa using d2
     have Pu:=iw p.length
     have hn:=fO d6
     have ho:=Z2 neg (zB (xx (cat w p))) (zB (10 ^ p.length)) (zo _) (zo _) (by rw[qe]at hn; omega) (by omega)
     rw[zN,zN]at ho
     rw[zr _ (by omega),z6 hwp]
     dsimp only
     rw[z8 (by rw[e1]; rfl),z6 (pD p.length (by omega)),z6 ho,z7,kz,Qt]
  ·have d1:qX w=false:=by simpa using d1
   obtain⟨u,c,v,rfl,g1,g2⟩:=mU d1
   have z2b:c≠46:=λz=>hw (by simp[z])
   have e:XM (u++c::v++46::p)=none:=by
    rw[List.append_assoc,List.cons_append,dy g1 c _ g2]
    have:qX (v++46::p)=false:=by rw[bI,uz,h46]; simp
    grind
   rw[e]
   have kf:oh (cat (u++c::v) p)=none:=nn (.inr (by rw[kz,bI,d1]; rfl))
   rw[kf]at hwp
   generalize oh p=o at *
   cases o<;>(dsimp only; rw[zr _ (by omega),z6 hwp]; dsimp only; rw[za (by simp),z7]; rfl)
 ·rw[cE 46 t c1]
  dsimp only
  rw[zf,z6 (cF 47)]
  have fin:∀ (num den:zd) (x:Bool),num.length<=400->den.length<=400->(T.bind (vV num) λ(n1,is1) =>
     T.bind (vV (bif (!x)then([49]:zd)else den)) λ(d,both1) =>
     .ite ((!is1)||((!both1)||((Nat.cast (List.length d):Int)==(0:Int))))
      (.ret ((false,(([]:List Int),(([]:List Int),()))),(2:Int)))
      (T.bind (nc neg n1 d) λr3=>.ret (r3,(0:Int))):T (Rat×Int)).run =
     some (match oh num,oh (bif (!x)then([49]:zd)else den)with | some n,some d=>if d=0 then(qo,(2:Int))else(um neg n d,(0:Int)) | _,_=>(qo,(2:Int))):=by
   intro num den x hn hd
   have hd2:(bif (!x)then([49]:zd)else den).length<=400:=by cases x<;>simp[hd]
   generalize (bif (!x)then([49]:zd)else den)=dd at *
   rw[z6 (cN num (by omega))]
   have Iy:=cN dd (by omega)
   cases h1:oh num with
   | none =>
    dsimp only
    rw[z6 Iy]
    rfl
   | some n =>
    dsimp only
    rw[z6 Iy]
    cases h2:oh dd with
    | none=>rfl
    | some d =>
     obtain⟨a1,a2,a3,rfl⟩:=Ys h1
     obtain⟨b1,b2,b3,rfl⟩:=Ys h2
     dsimp only
     have l1:=fO a3
     have l2:=fO b3
     by_cases z:xx dd=0
     ·rw[z,qs,if_pos rfl]; rfl
     ·rw[if_neg z]
      have:(zB (xx dd)).length≠0:=λh=>z (xn.1 (List.eq_nil_of_length_eq_zero h))
      have ho:=Z2 neg (zB (xx num)) (zB (xx dd)) (zo _) (zo _) (by omega) (by omega)
      rw[zN,zN]at ho
      rw[z8 (by simp; exact λh=>z (xn.1 h)),z6 ho,z7]
  by_cases c2:(47:UInt8)∈t
  ·obtain⟨w,q,rfl,hw⟩:=Us c2
   rw[lO 47 w q hw]
   have hl:w.length+q.length+1<=400:=by simp at ht; omega
   rw[fin w q true (by omega) (by omega)]
   rw[show(bif (!true)then([49]:zd)else q)=q from rfl]
   by_cases d1:qX w=true
   ·rw[dy d1 47 q h47]
    by_cases d2:w=[]
    ·rw[if_pos d2,nn (.inl d2)]
    ·rw[if_neg d2,QN d2 (by omega) d1]
     by_cases d3:q=[]\/qX q=false
     ·rw[if_pos d3,nn d3]
     ·have d4:q≠[]:=λz=>d3 (.inl z)
      have d5:qX q=true:=by cases h:qX q with | true=>rfl | false=>exact absurd (.inr h) d3
      rw[if_neg d3,if_neg (by decide),if_pos rfl,QN d4 (by omega) d5]
      dsimp only
      split<;>rfl
   ·have d1:qX w=false:=by simpa using d1
    obtain⟨u,c,v,rfl,g1,g2⟩:=mU d1
    rw[nn (.inr d1)]
    have z7l:c≠47:=λz=>hw (by simp[z])
    have z2b:c≠46:=λz=>c1 (by simp[z])
    rw[List.append_assoc,List.cons_append,Cb g1 c _ g2 z2b z7l]
  ·rw[cE 47 t c2]
   rw[fin t [] false ht (by simp)]
   rw[show(bif (!false)then([49]:zd)else[])=[49]from rfl]
   have h1:oh [49]=some 1:=by decide
   rw[h1]
   by_cases d1:qX t=true
   ·rw[QJ d1]
    by_cases d2:t=[]
    ·rw[if_pos d2,nn (.inl d2)]
    ·rw[if_neg d2,QN d2 ht d1]; rfl
   ·have d1:qX t=false:=by simpa using d1
    rw[nn (.inr d1)]
    obtain⟨u,c,v,rfl,g1,g2⟩:=mU d1
    have z7l:c≠47:=λz=>c2 (by simp[z])
    have z2b:c≠46:=λz=>c1 (by simp[z])
    rw[Cb g1 c _ g2 z2b z7l]
theorem tS(s:zd)(hs:s.length<=1000000000):(gK s).run=some (if 400<s.length then(qo,(3:Int))else match oi s with | some (n,d)=>(um (List.isPrefixOf [45] s) n d,(0:Int)) | none=>(qo,(2:Int))):=by
 unfold gK
 by_cases c:400<s.length
 ·rw[za (decide_eq_true (by omega)),if_pos c,z7]; rfl
 ·have hp:(strings_CutPrefix s [45]).run=some (yU s [45],List.isPrefixOf [45] s):=rfl
  have hl:=pZ s [45]
  rw[z8 (decide_eq_false (by omega)),if_neg c,z6 hp]
  exact FV _ (by omega) _
end Go.AM.Lf
namespace Go.AM.PL
theorem FK(t:zd):∃ u r,t=u++r/\qX u=true/\(∀ c q,r=c::q->wE c=false):=by
 induction t with
 | nil=>exact⟨[],[],rfl,rfl,λc q h=>by cases h⟩
 | cons b t ih =>
  cases hb:wE b with
  | false=>exact⟨[],b::t,rfl,rfl,λc q h=>by grind⟩
  | true =>
   obtain⟨u,r,rfl,h1,h2⟩:=ih
   exact⟨b::u,r,rfl,by rw[uz,hb,h1]; rfl,h2⟩
theorem C9{b:UInt8}:(decide ((48:Int)<=(b.toNat:Int))&&decide ((b.toNat:Int)<=57))=wE b:=by
 unfold wE
 grind
theorem Ia{b:UInt8}:(decide ((b.toNat:Int)<(48:Int))||decide ((57:Int)<(b.toNat:Int))) = !(wE b):=by
 unfold wE
 grind
end Go.AM.PL
namespace Go.AM.Lf
open PL
theorem Ld{u r:zd}(hu:qX u=true)(hr:∀ c q,r=c::q->wE c=false)(hl:(u++r).length<=1000000000):(fH (u++r)).run=some (u.length:Int):=by
 have hL:(We (u++r) 0).run=some (u.length:Int):=by
  have:=wN (r:=iB (u++r)) (λi:Int=>∃ k:Nat,i=(k:Int)/\k<=u.length) (λi=>u.length-i.toNat) (λ_=>(u.length:Int)) (λi hi => ?_) (s:=0) ⟨0,rfl,by omega⟩
  ·exact this
  ·obtain⟨k,rfl,hk⟩:=hi
   unfold iB
   dsimp only
   by_cases c:k<u.length
   ·left
    have qD:k<(u++r).length:=by simp; omega
    have hg:(u++r)[k]=u[k]:=List.getElem_append_left c
    have hd:wE u[k]=true:=List.all_eq_true.1 hu _ (List.getElem_mem c)
    refine⟨((k+1:Nat):Int),?_,⟨k+1,rfl,c⟩,by simp only[Int.toNat_natCast]; omega,rfl⟩
    rw[zb (λ_=>⟨zH qD,λ_=>zH qD⟩),uP qD,hg,C9,hd,vX qD,za (by rfl),z7,fx k _ qD (by omega)]
   ·right
    have hk:k=u.length:=by omega
    subst hk
    cases r with
    | nil =>
     have hf:decide ((u.length:Int)<(((u++([]:zd)).length:Nat):Int))=false:=decide_eq_false (by simp)
     rw[hf,zb (λh=>by cases h),z8 (by rfl),z7]
    | cons c q =>
     have qD:u.length<(u++c::q).length:=by simp
     have hg:(u++c::q)[u.length]=c:=by simp
     rw[zb (λ_=>⟨zH qD,λ_=>zH qD⟩),uP qD,hg,C9,hr c q rfl,vX qD,z8 (by rfl),z7]
 unfold fH
 rw[z6 hL,z7]
theorem pU{u:zd}(h1:u≠[])(h2:u.length<=400)(h3:qX u=true):(gj u).run=some (zB (xx u),true):=by
 have hL:(tB u ([],0)).run=some (.inl (zB (xx u))):=by
  have:=wN (r:=cO u) (λst:List Int×Int=>∃ k:Nat,st=(zB (xx (u.take k)),(k:Int))/\k<=u.length) (λst=>u.length-st.2.toNat) (λ_=>(.inl (zB (xx u)):List Int⊕Bool)) (λst xR => ?_) (s:=([],0)) ⟨0,by simp[xx,qs],by omega⟩
  ·exact this
  ·obtain⟨k,rfl,hk⟩:=xR
   unfold cO
   dsimp only
   by_cases c:k<u.length
   ·left
    have hb:wE u[k]=true:=List.all_eq_true.1 h3 _ (List.getElem_mem c)
    have hbb:=sQ.1 hb
    have ht:qX (u.take k)=true:=List.all_eq_true.2 λx hx=>List.all_eq_true.1 h3 x (List.mem_of_mem_take hx)
    have hl:=fO ht
    have PW:(zB (xx (u.take k))).length<=500:=by rw[List.length_take]at hl; omega
    have hm:=bQ (zB (xx (u.take k))) [10] (zo _) Yg (by omega) (by simp)
    rw[zN,show nv [10]=10 from rfl]at hm
    have hml:=iT (xx (u.take k)) 10
    have Pu:(zB 10).length<=1:=zS.2 (by decide)
    have hd:xY (Gd ((u[k].toNat:Int)-48))=((u[k].toNat-48:Nat):Int):=by rw[Un (by omega) (by omega),sW (by omega) (by omega)]; omega
    have ha:=nd (zB (xx (u.take k)*10)) [((u[k].toNat-48:Nat):Int)] (zo _) (by intro x hx; simp at hx; omega) (by omega) (by simp)
    rw[zN,show nv [((u[k].toNat-48:Nat):Int)]=u[k].toNat-48 by rw[iJ,Bb]; omega]at ha
    refine⟨(zB (xx (u.take (k+1))),((k+1:Nat):Int)),?_,⟨k+1,rfl,c⟩,by simp only[Int.toNat_natCast]; omega,rfl⟩
    rw[za (vX c),zb ⟨zH c,λ_=>zH c⟩,uP c,Ia,hb,z8 (by rfl),z6 hm,zb (zH c),hd,z6 ha,z7,fx k _ c (by omega),
     List.take_succ_eq_append_getElem c,Xn]
   ·have:k=u.length:=by omega
    subst this
    right
    rw[z8 (oz _),z7,List.take_length]
 have hlen:0<u.length:=List.length_pos_iff.2 h1
 have hg:(decide ((u.length:Int)<1)||decide ((400:Int)<(u.length:Int)))=false:=by rw[decide_eq_false (by omega),decide_eq_false (by omega)]; rfl
 unfold gj
 rw[z8 hg,z6 hL]; rfl
theorem yF:(yH 0).run=some (toR 0):=by
 have h:=lg 0 (by omega)
 rw[qs]at h
 have h2:=iX false [] [1] gD ZQ (by simp) (by simp)
 rw[show nv []=0 from rfl,show nv [1]=1 from rfl,z0t,V3]at h2
 unfold yH
 rw[show(bif (decide ((0:Int)<0))then(zV ((0:Int)-(zV 0)))else(zV 0))=((0:Nat):Int)from by decide,show decide ((0:Int)<0)=false from by decide,z6 h,z6 h2,z7]
theorem TC(neg:Bool)(n:Nat):um neg n 1=um neg (nv (zB n)) (nv [1]):=by simp
theorem Tx(t:zd)(ht:t.length<=400)(neg:Bool) :
  (T.bind (fH t) λk =>
   .zy (vj (0:Int) k (List.length t)) <|
   .zy (vj k (Nat.cast (List.length t):Int) (List.length t)) <|
   .ite (k==(0:Int))
    (T.bind (yH (0:Int)) λr1 =>
     .ret (r1,(2:Int)))
    (T.bind (gj (qC (0:Int) k t)) λ(n,r2) =>
     .ite (zi (qC k (Nat.cast (List.length t):Int) t) ([]:zd))
      (T.bind (cS neg n ([(1:Int)]:List Int)) λr3 =>
       .ret (r3,(0:Int)))
      (.zy (vj (1:Int) (Nat.cast (List.length (qC k (Nat.cast (List.length t):Int) t)):Int) (List.length (qC k (Nat.cast (List.length t):Int) t))) <|
       T.bind (fH (qC (1:Int) (Nat.cast (List.length (qC k (Nat.cast (List.length t):Int) t)):Int) (qC k (Nat.cast (List.length t):Int) t))) λm =>
       .zy (((m==(0:Int))=false)->(((m != (zI ((Nat.cast (List.length (qC k (Nat.cast (List.length t):Int) t)):Int)-(1:Int))))=false)->((q9 (0:Int) (List.length (qC k (Nat.cast (List.length t):Int) t)))/\((((zt (qC k (Nat.cast (List.length t):Int) t) (0:Int)) != (46:Int))=true)->(q9 (0:Int) (List.length (qC k (Nat.cast (List.length t):Int) t))))))) <|
       .ite ((m==(0:Int))||((m != (zI ((Nat.cast (List.length (qC k (Nat.cast (List.length t):Int) t)):Int)-(1:Int))))||(((zt (qC k (Nat.cast (List.length t):Int) t) (0:Int)) != (46:Int))&&((zt (qC k (Nat.cast (List.length t):Int) t) (0:Int)) != (47:Int)))))
        (T.bind (yH (0:Int)) λr4 =>
         .ret (r4,(2:Int)))
        (.zy (vj (1:Int) (Nat.cast (List.length (qC k (Nat.cast (List.length t):Int) t)):Int) (List.length (qC k (Nat.cast (List.length t):Int) t))) <|
         T.bind (gj (qC (1:Int) (Nat.cast (List.length (qC k (Nat.cast (List.length t):Int) t)):Int) (qC k (Nat.cast (List.length t):Int) t))) λ(x,r5) =>
         .zy (q9 (0:Int) (List.length (qC k (Nat.cast (List.length t):Int) t))) <|
         .ite ((zt (qC k (Nat.cast (List.length t):Int) t) (0:Int))==(47:Int))
          (.ite ((Nat.cast (List.length x):Int)==(0:Int))
            (T.bind (yH (0:Int)) λr6 =>
             .ret (r6,(2:Int)))
            (T.bind (cS neg n x) λr7 =>
             .ret (r7,(0:Int))))
          (T.bind (rh m) λt =>
           T.bind (yB n t) λr8 =>
           T.bind (dq r8 x) λr9 =>
           T.bind (cS neg r9 t) λr10 =>
           .ret (r10,(0:Int)))))):T (Rat×Int)).run=some (match XM t with | some (n,d)=>(um neg n d,(0:Int)) | none=>(toR 0,(2:Int))):=by
 obtain⟨u,r,rfl,h1,h2⟩:=FK t
 have hl:u.length+r.length<=400:=by simpa using ht
 have hlen:(u++r).length=u.length+r.length:=by simp
 have c1:qC 0 (u.length:Int) (u++r)=u:=by unfold qC; simp
 have c2:qC (u.length:Int) (((u++r).length:Nat):Int) (u++r)=r:=by unfold qC; rw[Int.toNat_natCast,Int.toNat_natCast,List.take_length]; simp
 rw[z6 (Ld h1 h2 (by omega)),yp _ (by omega) (by omega) (by omega),yp _ (by omega) (by omega) (by omega),c1,c2]
 by_cases d2:u=[]
 ·subst d2
  have e:XM ([]++r)=none:=by
   cases r with
   | nil=>rfl
   | cons c q=>rw[dy h1 c q (h2 c q rfl),if_pos rfl]
  rw[e,za (by rfl),z6 yF,z7]
 ·have hu0:u.length≠0:=λz=>d2 (List.eq_nil_of_length_eq_zero z)
  have hn:=fO h1
  rw[z8 (by simpa using d2),z6 (pU d2 (by omega) h1)]
  dsimp only
  cases r with
  | nil =>
   have ho:=iX neg (zB (xx u)) [1] (zo _) ZQ (by omega) (by simp)
   rw[<- TC]at ho
   rw[za (by rfl),z6 ho,z7,List.append_nil,QJ h1,if_neg d2]
  | cons c q =>
   have hc:=h2 c q rfl
   have hq:(c::q).length=q.length+1:=rfl
   have e1:zi (c::q) []=false:=by rw[xQ]; simp
   have e2:zI (((c::q).length:Int)-1)=(q.length:Int):=by rw[hq,zA (by omega) (by omega)]; omega
   have e3:zt (c::q) 0=(c.toNat:Int):=rfl
   obtain⟨u2,r2,rfl,k1,k2⟩:=FK q
   have iU:(u2++r2).length=u2.length+r2.length:=by simp
   rw[z8 e1,yp _ (by omega) (by rw[hq]; omega) (by omega),Zk,z6 (Ld k1 k2 (by omega)),e2,e3,dy h1 c _ hc,if_neg d2]
   rw[zb (λ_ _=>⟨⟨by omega,by rw[hq]; omega⟩,λ_=>⟨by omega,by rw[hq]; omega⟩⟩)]
   by_cases d3:u2++r2=[]\/qX (u2++r2)=false
   ·rw[if_pos d3]
    have hg:(((u2.length:Int)==0)||(((u2.length:Int) != (((u2++r2).length:Nat):Int))||(((c.toNat:Int) != 46)&&((c.toNat:Int) != 47))))=true:=by
     rcases d3 with d3 | d3
     ·grind
     ·cases r2 with
      | nil=>grind
      | cons a b=>grind
    rw[za hg,z6 yF,z7]
   ·rw[if_neg d3]
    have d4:u2++r2≠[]:=λz=>d3 (.inl z)
    have d5:qX (u2++r2)=true:=by cases h:qX (u2++r2)with | true=>rfl | false=>exact absurd (.inr h) d3
    have d6:r2=[]:=by
     cases r2 with
     | nil=>rfl
     | cons a b =>
      rw[bI,uz,k2 a b rfl]at d5; simp at d5
    subst d6
    rw[List.append_nil]at *
    have P1:u2.length≠0:=λz=>d4 (List.eq_nil_of_length_eq_zero z)
    have hcn:∀ x:UInt8,((c.toNat:Int)==(x.toNat:Int))=decide (c=x):=λx=>by
     by_cases z:c=x
     ·grind
     ·rw[decide_eq_false z]
      have:c.toNat≠x.toNat:=λh=>z (UInt8.toNat_inj.1 h)
      simp; omega
    have hg:(((u2.length:Int)==0)||(((u2.length:Int) != (u2.length:Int))||(((c.toNat:Int) != 46)&&((c.toNat:Int) != 47))))=(!decide (c=46) && !decide (c=47)):=by
     have a1:((c.toNat:Int)==46)=decide (c=46):=hcn 46
     have a2:((c.toNat:Int)==47)=decide (c=47):=hcn 47
     grind
    rw[hg]
    have hx:=fO k1
    have hp:=pU d4 (by omega) k1
    by_cases f1:c=46
    ·rw[if_pos f1,z8 (by simp[f1]),yp _ (by omega) (by rw[hq]; omega) (by omega),z6 hp]
     dsimp only
     have Pu:=iw u2.length
     have hm:=GX (xx u) (10 ^ u2.length) (by omega) (by omega)
     have hml:=iT (xx u) (10 ^ u2.length)
     have ha:=HD (xx u*10 ^ u2.length) (xx u2) (by omega) (by omega)
     have ou:=DI (xx u*10 ^ u2.length) (xx u2) 5000 (by omega) (by omega)
     have ho:=iX neg (zB (xx u*10 ^ u2.length+xx u2)) (zB (10 ^ u2.length)) (zo _) (zo _) (by omega) (by omega)
     rw[zN,zN]at ho
     rw[qz _ (by omega) (by rw[hq]; omega),z8 (by rw[f1]; rfl),z6 (HU _ (by omega)),z6 hm,z6 ha,z6 ho,z7]
    ·rw[if_neg f1]
     by_cases f2:c=47
     ·rw[if_pos f2,z8 (by simp[f2]),yp _ (by omega) (by rw[hq]; omega) (by omega),z6 hp]
      dsimp only
      rw[qz _ (by omega) (by rw[hq]; omega),za (by rw[f2]; rfl),fB]
      by_cases z:xx u2=0
      ·rw[if_pos z,za (decide_eq_true z),z6 yF,z7]
      ·have ho:=iX neg (zB (xx u)) (zB (xx u2)) (zo _) (zo _) (by omega) (by omega)
       rw[zN,zN]at ho
       rw[if_neg z,z8 (decide_eq_false z),z6 ho,z7]
     ·rw[if_neg f2,za (by simp[f1,f2]),z6 yF,z7]
theorem rm(s:zd)(hs:s.length<=1000000000):(ki s).run=some (if 400<s.length then(toR 0,(3:Int))else match oi s with | some (n,d)=>(um (List.isPrefixOf [45] s) n d,(0:Int)) | none=>(toR 0,(2:Int))):=by
 unfold ki
 by_cases c:400<s.length
 ·rw[za (decide_eq_true (by omega)),if_pos c,z6 yF,z7]
 ·rw[z8 (decide_eq_false (by omega)),if_neg c]
  have z6s:((!(zi s ([]:zd)))&&((zt s (0:Int))==(45:Int)))=List.isPrefixOf [45] s:=by
   cases s with
   | nil=>rfl
   | cons b l =>
    have e2:zt (b::l) 0=(b.toNat:Int):=rfl
    show(true&&_)=((45:UInt8)==b&&true)
    rw[Bool.true_and,Bool.and_true,Bool.eq_iff_iff]
    simp only[beq_iff_eq]
    constructor
    ·intro h; exact(UInt8.toNat_inj.1 (by grind))
    ·intro h; subst h; rfl
  have cF:(bif ((!(zi s ([]:zd)))&&((zt s (0:Int))==(45:Int)))then(qC (1:Int) (Nat.cast (List.length s):Int) s)else s)=yU s [45]:=by
   rw[z6s]
   unfold yU
   cases h:List.isPrefixOf [45] s with
   | false=>rfl
   | true =>
    cases s with
    | nil=>cases h
    | cons b l=>rw[if_pos rfl]; exact Zk b l
  have hl:=pZ s [45]
  have core:=Tx (yU s [45]) (by omega) (List.isPrefixOf [45] s)
  have o1:((!(zi s ([]:zd)))=true)->(q9 (0:Int) (List.length s)):=λh=>by
   cases s with
   | nil=>cases h
   | cons b l=>exact⟨by omega,by simp⟩
  have o2:(((!(zi s ([]:zd)))&&((zt s (0:Int))==(45:Int)))=true)->(vj (1:Int) (Nat.cast (List.length s):Int) (List.length s)):=λh=>by
   cases s with
   | nil=>cases h
   | cons b l=>exact⟨by omega,by simp; omega,by omega⟩
  rw[zb o1,zb o2]
  simp only[cF]
  simp only[z6s]
  exact core
end Go.AM.Lf
namespace Go.AM.PL
theorem z3k(n:Nat):wE (OO n)=true/\(OO n).toNat-48=n % 10:=by
 have h:(OO n).toNat=48+n % 10:=by unfold OO; rw[UInt8.toNat_ofNat']; omega
 exact⟨sQ.2 (by omega),by omega⟩
theorem S7(n:Nat):qX (EL n)=true/\xx (EL n)=n:=by
 induction n using Nat.strongRecOn with
 | _ n ih =>
  by_cases h:n=0
  ·subst h; rw[pX]; exact⟨rfl,rfl⟩
  ·obtain⟨h1,h2⟩:=ih (n / 10) (by omega)
   obtain⟨h3,h4⟩:=z3k n
   rw[sd h]
   refine⟨by rw[bI,h1,uz,h3]; rfl,?_⟩
   rw[Xn,h2,h4]; omega
theorem z3a(n:Nat):qX (pr n)=true/\xx (pr n)=n:=by
 unfold pr
 split
 ·rename_i h; subst h; exact⟨by decide,by decide⟩
 ·exact S7 n
theorem T8(k:Nat):qX (kA [48] k)=true/\xx (kA [48] k)=0:=by
 induction k with
 | zero=>exact⟨rfl,rfl⟩
 | succ k ih =>
  show qX ([48]++kA [48] k)=true/\xx ([48]++kA [48] k)=0
  rw[bI,Qt,ih.1,ih.2]
  exact⟨by decide,by show 0*_+0=0; omega⟩
end Go.AM.PL
namespace Go.AM.Lf
open PL
theorem OH(s:zd)(k:Nat)(hk:k≠0)(hs:qX s=true):∃ w p,Ow s k=w++46::p/\qX w=true/\w≠[]/\qX p=true/\p.length=k/\xx w*10 ^ k+xx p=xx s/\w.length+k=max s.length (k+1):=by
 unfold Ow
 rw[if_neg hk]
 have hr:=T8 (k+1-s.length)
 have hl:=QG (k+1-s.length)
 have hd:qX (kA [48] (k+1-s.length)++s)=true:=by rw[bI,hr.1,hs]; rfl
 have hv:xx (kA [48] (k+1-s.length)++s)=xx s:=by rw[Qt,hr.2]; omega
 have hlen:(kA [48] (k+1-s.length)++s).length=(k+1-s.length)+s.length:=by rw[List.length_append,hl]
 generalize kA [48] (k+1-s.length)++s=t at *
 refine⟨t.take (t.length-k),t.drop (t.length-k),by simp,?_,?_,?_,by grind,?_,by simp; omega⟩
 ·exact List.all_eq_true.2 λx hx=>List.all_eq_true.1 hd x (List.mem_of_mem_take hx)
 ·intro z
  have:=congrArg List.length z
  grind
 ·exact List.all_eq_true.2 λx hx=>List.all_eq_true.1 hd x (List.mem_of_mem_drop hx)
 ·have:=Qt (t.take (t.length-k)) (t.drop (t.length-k))
  rw[List.take_append_drop,hv,List.length_drop,show t.length-(t.length-k)=k by omega]at this
  grind
theorem G9(b:Bool)(N D:Nat)(hD:D≠0):∀ (f k:Nat) (s:zd),xB b N D k f=(s,true)->∃ j,k<=j/\j<k+f/\N*10 ^ j % D=0/\s=Oz b++Ow (pr (N*10 ^ j / D)) j
 | 0,k,s,h=>by unfold xB at h; cases h
 | f+1,k,s,h=>by
  unfold xB at h
  split at h
  ·grind
  ·obtain⟨j,h1,h2,h3,h4⟩:=G9 b N D hD f (k+1) s h
   grind
theorem z1V{t:zd}{n d:Nat}(h:XM t=some (n,d)):n<10 ^ t.length/\d<=10 ^ t.length:=by
 obtain⟨u,r,rfl,h1,h2⟩:=FK t
 have hu:=GN h1
 cases r with
 | nil =>
  rw[List.append_nil,QJ h1]at h
  split at h
  ·cases h
  ·cases h
   rw[List.append_nil]
   exact⟨hu,Nat.one_le_pow _ _ (by omega)⟩
 | cons c q =>
  rw[dy h1 c q (h2 c q rfl)]at h
  have hl:(u++c::q).length=u.length+q.length+1:=by simp; omega
  have mono:∀ {a b:Nat},a<=b->10 ^ a<=10 ^ b:=λh=>Nat.pow_le_pow_right (by omega) h
  split at h
  ·cases h
  ·split at h
   ·cases h
   ·rename_i hq
    have hd:qX q=true:=by cases hh:qX q with | true=>rfl | false=>exact absurd (.inr hh) hq
    have hq1:=GN hd
    rw[hl]
    split at h
    ·cases h
     refine⟨?_,mono (by omega)⟩
     have e:10 ^ (u.length+q.length)<=10 ^ (u.length+q.length+1):=mono (by omega)
     rw[Nat.pow_add]at e
     have:(xx u+1)*10 ^ q.length<=10 ^ u.length*10 ^ q.length:=Nat.mul_le_mul_right _ hu
     rw[Nat.add_mul,Nat.one_mul]at this
     omega
    ·split at h
     ·split at h
      ·cases h
      ·cases h
       have e1:10 ^ u.length<=10 ^ (u.length+q.length+1):=mono (by omega)
       have e2:10 ^ q.length<=10 ^ (u.length+q.length+1):=mono (by omega)
       omega
     ·cases h
theorem zay:10 ^ 400<4294967296 ^ 42:=by decide +kernel
theorem R9{n k:Nat}(h:n<=10 ^ k)(hk:k<=400):(zB n).length<=42 :=
 zS.2 (Nat.lt_of_le_of_lt (Nat.le_trans h (Nat.pow_le_pow_right (by omega) hk)) zay)
theorem WB{s:zd}{n d:Nat}(neg:Bool)(hs:s.length<=400)(h:oi s=some (n,d)):vK 50 (um neg n d):=by
 have hl:=pZ s [45]
 obtain⟨h1,h2⟩:=z1V h
 exact MK _ _ _ _ (by omega) (Nat.le_trans (R9 (by omega) (by omega:(yU s [45]).length<=400)) (by omega)) (Nat.le_trans (R9 h2 (by omega)) (by omega))
def ZJ{α:Type}(p:α->Bool)(i:Int):List α->Int
 | [] => -1
 | x::r=>if p x=true then i else ZJ p (i+1) r
end Go.AM.Lf
namespace Go.AM.T
theorem zg{α β:Type}(a:β)(t:T α):(zy (a=a) t).run=t.run:=by simp
end Go.AM.T
namespace Go.AM.Lf
open PL
abbrev zg3:Ty:=.cons .str (.cons wS .nil)
abbrev ItT:=den zg3
theorem bC{α:Type}{l:List α}{k:Nat}(h:k<l.length)(d:α):nth l (k:Int) d=l[k]:=by simp[nth,h]
theorem WT(s:zd):(bytesOf s).length=s.length:=by unfold bytesOf; simp
theorem Dy(s t:zd):bytesOf (s++t)=bytesOf s++bytesOf t:=by unfold bytesOf; simp
theorem Dn(s:zd):qO (bytesOf s)=s:=by
 unfold qO bytesOf
 rw[List.map_map]
 conv=>rhs; rw[<- List.map_id s]
 refine List.map_congr_left λb _ => ?_
 simp[byteOf]
theorem KP(s:zd):∀ n∈bytesOf s,(0:Int)<=n/\n<256:=by
 intro n hn
 obtain⟨b,_,rfl⟩:=List.mem_map.1 hn
 have:=b.toNat_lt
 omega
theorem uy(s b:zd)(h:b.length+s.length<=140737488355328):(qi s () (bytesOf b)).run=some ((s.length:Int),(),bytesOf (b++s)):=by
 unfold qi lC
 simp only[T.bind]
 rw[q8 _ rfl rfl rfl,zb rfl,k8 _ rfl rfl rfl (by simp[WT]; omega),q8 _ (by simp) rfl (by simp),zb (by simp),z7,Dy]
theorem KA(b:zd)(h:b.length<=140737488355328):(mF () (bytesOf b)).run=some (b,()):=by
 unfold mF z1H
 rw[zb ⟨KP b,by rw[WT]; exact h⟩,z7,Dn]
def zcR(x:ItT):zd:=x.1++[32]++lA (norm x.2.1)++[10]
def Uy(b:UInt8):Bool:=decide (97<=(b.toNat:Int))&&decide ((b.toNat:Int)<=122)
def wb(b:UInt8):Bool:=Uy b||((decide (48<=(b.toNat:Int))&&decide ((b.toNat:Int)<=57))||((b.toNat:Int)==95))
def zT(s:zd):Bool:=match s with | []=>false | b::_=>decide (s.length<=24)&&(Uy b&&s.all wb)
theorem pw(b:UInt8):(vP (b.toNat:Int)).run=some (wb b):=by
 have h1:(vg (b.toNat:Int)).run=some (Uy b):=rfl
 have h2:(xV (b.toNat:Int)).run=some (decide (48<=(b.toNat:Int))&&decide ((b.toNat:Int)<=57)):=rfl
 unfold vP wb
 rw[z6 h1]
 cases Uy b with
 | true=>rfl
 | false =>
  rw[zf,z6 h2]
  cases(decide (48<=(b.toNat:Int))&&decide ((b.toNat:Int)<=57))with
  | true=>rfl
  | false=>rfl
theorem xT(s:zd):(xC s).run=some (zT s):=by
 unfold xC
 cases s with
 | nil=>rfl
 | cons b r =>
  have e0:zi (b::r) []=false:=by rw[xQ]; simp
  rw[e0]
  by_cases c:24<(b::r).length
  ·have:(T.ite false (.ret true) (.ite (decide ((24:Int)<((b::r).length:Int))) (.ret true) (.zy (q9 (0:Int) (List.length (b::r)))<|T.bind (vg (zt (b::r) (0:Int))) λr=>.ret (!r))):T Bool).run=some true:=by
    rw[zf,za (decide_eq_true (by omega)),z7]
   rw[z6 this,zk,z7]
   unfold zT
   grind
  ·have hb:zt (b::r) (0:Int)=(b.toNat:Int):=uP (s:=b::r) (k:=0) (by simp)
   have h1:(vg (b.toNat:Int)).run=some (Uy b):=rfl
   have:(T.ite false (.ret true) (.ite (decide ((24:Int)<((b::r).length:Int))) (.ret true) (.zy (q9 (0:Int) (List.length (b::r)))<|T.bind (vg (zt (b::r) (0:Int))) λr=>.ret (!r))):T Bool).run=some (!Uy b):=by
    rw[zf,z8 (decide_eq_false (by omega)),zb (by refine⟨by omega,?_⟩; simp only[List.length_cons]; omega),hb,z6 h1,z7]
   rw[z6 this]
   unfold zT
   dsimp only
   rw[decide_eq_true (by omega),Bool.true_and]
   cases Uy b with
   | false=>rfl
   | true =>
    rw[z8 (by rfl),Bool.true_and]
    have key:(Q8 (b::r) ((b::r).length:Int) 0).run=some (if(b::r).all wb=true then .inl ()else .inr false):=by
     refine T.sx (r:=y3 (b::r) ((b::r).length:Int)) (b::r) (0:UInt8) (λ(_:Unit) i=>i) (λ_ _=>True) (λl _=>(if l.all wb=true then .inl ()else .inr false:Unit⊕Bool)) (λk _ x xs hk hx hm hd hI => ?_) (λ_ _ => ?_) (b:=()) trivial
     ·have hxk:(b::r)[k]=x:=by rw[<- hx]; unfold nth; rw[Int.toNat_natCast,List.getD_eq_getElem?_getD,List.getElem?_eq_getElem hk]; rfl
      have E5:zt (b::r) (k:Int)=(x.toNat:Int):=by rw[uP hk,hxk]
      cases V9:wb x with
      | true =>
       left
       refine⟨(),?_,trivial,?_⟩
       ·unfold y3
        rw[za (vX hk),zb (zH hk),E5,z6 (pw x),V9,z8 (by rfl),z7,fx k _ hk (by omega)]
       ·grind
      | false =>
       right
       unfold y3
       rw[za (vX hk),zb (zH hk),E5,z6 (pw x),V9,za (by rfl),z7,List.all_cons,V9]
       rfl
     ·unfold y3
      simp
    rw[z6 key]
    cases h:(b::r).all wb with
    | true=>rfl
    | false=>rfl
theorem tq(l:List zd)(v:zd)(hl:l.length<=1000000000):(xd l v).run=some (PL.ZJ (λs=>zi v s) 0 l):=by
 have key:(yf l v (l.length:Int) 0).run=some (if PL.ZJ (λs=>zi v s) 0 l = -1 then .inl ()else .inr (PL.ZJ (λs=>zi v s) 0 l)):=by
  refine PL.Qz (r:=qZ l v (l.length:Int)) l (zn .str) _ (λi h0 h hp => ?_) (λi h0 h hp => ?_) (λi h => ?_)
  ·unfold qZ
   rw[za (decide_eq_true h),zb ⟨h0,h⟩,za hp,z7]
  ·unfold qZ
   rw[za (decide_eq_true h),zb ⟨h0,h⟩,z8 hp,z7,zA (by omega) (by omega)]
  ·unfold qZ
   rw[z8 (decide_eq_false h),z7]
 unfold xd
 rw[z6 key]
 split<;>rename_i h
 ·rw[h]; rfl
 ·rfl
mutual
/-- What an expression weighs. -/
def szE:Expr->Nat
 | .mk _ n s l=>3+s.length+8*n.2.1.length+8*n.2.2.1.length+szEs l
def szEs:List Expr->Nat
 | []=>0
 | e::r=>szE e+szEs r
end
def trimB(l:List Int):Bool:=zB (nv l)==l
def og(a:Rat):Bool:=trimB a.2.1&&(trimB a.2.2.1&&(!(nv a.2.2.1==0)&&(!(a.1&&(nv a.2.1==0))&&(Nat.gcd (nv a.2.1) (nv a.2.2.1)==1))))
theorem jG{l:List Int}(h:zq l):trimB l=true↔WC l:=by
 unfold trimB
 constructor
 ·intro e
  have e:zB (nv l)=l:=by simpa using e
  rw[<- e]; exact sV _
 ·intro ht
  rw[Zu h ht]; simp
theorem JZ(l:List Int)(h:zq l)(hl:l.length<=1000000000):(eW l).run=some (trimB l):=by
 unfold eW
 cases l with
 | nil =>
  rw[zb (λh=>by simp at h),z7]
  have e:trimB []=true:=by unfold trimB; rw[show nv []=0 from rfl,qs]; rfl
  rw[e]; rfl
 | cons x r =>
  obtain⟨n,hn⟩:∃ n,(x::r).length=n+1:=⟨r.length,rfl⟩
  have ew:zI (((x::r).length:Int)-1)=(n:Int):=by rw[hn,zA (by omega) (by omega)]; omega
  have P6:n<(x::r).length:=by omega
  have e0:(((x::r).length:Int)==0)=false:=by rw[hn]; simp; omega
  have hg:(x::r).getLast? = some ((x::r)[n]):=by
   rw[List.getLast?_eq_getElem?,hn,Nat.add_sub_cancel,List.getElem?_eq_getElem P6]
  rw[zb (λ_=>by rw[ew]; exact zH P6),z7,ew,bC P6,e0,Bool.false_or]
  congr 1
  cases hq:((x::r)[n] != 0)with
  | true =>
   symm
   rw[jG h]
   intro y hy
   rw[hg]at hy
   cases hy
   simpa using hq
  | false =>
   symm
   rw[Bool.eq_false_iff]
   intro ht
   have:=(jG h).1 ht _ hg
   simp at hq
   exact this hq
theorem ZC(a:Rat)(h:vK 100000000 a):(Zs a).run=some (og a):=by
 obtain⟨h1,h2,h3,h4⟩:=h
 unfold Zs og
 have n1:=JZ a.2.1 h1 (by omega)
 have n2:=JZ a.2.2.1 h2 (by omega)
 have hzD:trimB a.2.2.1=true->(((a.2.2.1.length:Int))==0)=(nv a.2.2.1==0):=λht=>by
  have e:zB (nv a.2.2.1)=a.2.2.1:=Zu h2 ((jG h2).1 ht)
  conv=>lhs; rw[<- e]
  rw[fB]
  cases q:decide (nv a.2.2.1=0)<;>simp_all
 have hzN:trimB a.2.1=true->(((a.2.1.length:Int))==0)=(nv a.2.1==0):=λht=>by
  have e:zB (nv a.2.1)=a.2.1:=Zu h1 ((jG h1).1 ht)
  conv=>lhs; rw[<- e]
  rw[fB]
  cases q:decide (nv a.2.1=0)<;>simp_all
 have hg:=WV a.2.1 a.2.2.1 h1 h2 (by omega) (by omega)
 have Vd:(gf 1).run=some (zB 1):=gv 1 (by omega)
 have hc:∀ g:Nat,(zB g).length<=100000001->(mN (zB g) (zB 1)).run=some (sZ g 1):=λg hl=>by
  have:=pE (zB g) (zB 1) (zo _) (zo _) (by omega) (by rw[dZ]; simp)
  rwa [zN,zN]at this
 have head:∀ b:Bool,((T.bind (eW a.2.1) λr=>.ite (!r) (.ret true) (T.bind (eW a.2.2.1) λr1=>.ite (!r1) (.ret true) (.ite ((a.2.2.1.length:Int)==(0:Int)) (.ret true) (.ite a.1 (.ret ((a.2.1.length:Int)==(0:Int))) (.ret false))))):T Bool).run =
   some (!(trimB a.2.1&&(trimB a.2.2.1&&(!(nv a.2.2.1==0) && !(a.1&&(nv a.2.1==0)))))):=λ_=>by
  rw[z6 n1]
  cases t1:trimB a.2.1 with
  | false=>rfl
  | true =>
   rw[z8 (by rfl),z6 n2]
   cases t2:trimB a.2.2.1 with
   | false=>rfl
   | true =>
    rw[z8 (by rfl),hzD t2]
    cases nv a.2.2.1==0 with
    | true=>rfl
    | false =>
     rw[zf,hzN t1]
     cases a.1 with
     | true=>rw[zk,z7]; cases nv a.2.1==0<;>rfl
     | false=>rfl
 rw[z6 (head true)]
 cases hb:(trimB a.2.1&&(trimB a.2.2.1&&(!(nv a.2.2.1==0) && !(a.1&&(nv a.2.1==0)))))with
 | false =>
  rw[za (by rfl),z7]
  congr 1
  generalize (Nat.gcd (nv a.2.1) (nv a.2.2.1)==1)=g
  revert hb
  cases trimB a.2.1<;>cases trimB a.2.2.1<;>cases(nv a.2.2.1==0)<;>cases a.1<;>cases(nv a.2.1==0)<;>simp
 | true =>
  rw[z8 (by rfl),z6 hg,z6 Vd]
  have hle:(zB (Nat.gcd (nv a.2.1) (nv a.2.2.1))).length<=100000001:=by
   simp only[Bool.and_eq_true,Bool.not_eq_true',beq_eq_false_iff_ne]at hb
   have hd:0<nv a.2.2.1:=Nat.pos_of_ne_zero hb.2.2.1
   have m1:=U7 (Nat.gcd_le_right (nv a.2.1) hd)
   have m2:=q7 h2
   omega
  rw[z6 (hc _ hle),z7]
  congr 1
  have hgc:(sZ (Nat.gcd (nv a.2.1) (nv a.2.2.1)) 1==0)=(Nat.gcd (nv a.2.1) (nv a.2.2.1)==1):=by
   generalize Nat.gcd (nv a.2.1) (nv a.2.2.1)=g
   unfold sZ
   by_cases q1:g<1
   ·rw[if_pos q1]; simp; omega
   ·by_cases q2:1<g
    ·rw[if_neg q1,if_pos q2]; simp; omega
    ·have:g=1:=by omega
     subst this; rfl
  rw[hgc]
  revert hb
  generalize (Nat.gcd (nv a.2.1) (nv a.2.2.1)==1)=g
  cases trimB a.2.1<;>cases trimB a.2.2.1<;>cases(nv a.2.2.1==0)<;>cases a.1<;>cases(nv a.2.1==0)<;>simp
def cD(a:Rat):Bool:=decide (16<(norm a).2.1.length)||decide (16<(norm a).2.2.1.length)
theorem tC(a:Rat)(h:vK 100000000 a):(eG a).run=some (cD a):=by
 unfold eG cD
 rw[z6 (JI a h),z7]
 congr 2
 ·exact decide_eq_decide.2 (by omega)
 ·exact decide_eq_decide.2 (by omega)
def yr(a:Rat):Bool:=og a&&(!a.1&&(!cD a&&(xB (norm a).1 (nv (norm a).2.1) (nv (norm a).2.2.1) 0 61).2))
def wh(a:Rat):Bool := !a.1&&(a.2.1.isEmpty&&(a.2.2.1.isEmpty||og a))
def pG(k:Int):Int:=if k=1\/k=2 then 0 else if k=7 then 1 else if k=3\/k=4\/k=5\/k=6 then 2 else -1
def gP(e:Expr):Bool:=((e.kids.length:Int)==pG e.kind)&&(if e.kind=1 then yr e.num&&zi e.name []else if e.kind=2 then wh e.num&&zT e.name else wh e.num&&zi e.name [])
mutual
def vy:Expr->Nat
 | .mk _ _ _ l=>1+u6 l
def u6:List Expr->Nat
 | []=>0
 | e::r=>vy e+u6 r
end
mutual
def uw(deep:Nat):Expr->Bool
 | .mk k n s l=>decide (deep<32)&&(gP (.mk k n s l)&&kY (deep+1) l)
def kY(deep:Nat):List Expr->Bool
 | []=>true
 | e::r=>uw deep e&&kY deep r
end
theorem oy:∀ (l:List Expr),l.length<=u6 l
 | []=>Nat.le_refl _
 | .mk _ _ _ k::r=>by
  have:=oy r
  unfold u6 vy
  grind
theorem mb{e:Expr}:∀ {l:List Expr},e∈l->vy e<=u6 l
 | [],h=>by cases h
 | x::r,h=>by
  unfold u6
  rcases List.mem_cons.1 h with rfl | h
  ·omega
  ·have:=mb h; omega
mutual
/-- How many nodes are looked at. -/
def Kt(deep:Nat):Expr->Nat
 | .mk k n s l=>1+if(decide (deep<32)&&gP (.mk k n s l))=true then ml (deep+1) l else 0
def ml(deep:Nat):List Expr->Nat
 | []=>0
 | e::r=>Kt deep e+if uw deep e=true then ml deep r else 0
end
mutual
theorem LI:∀ (e:Expr) (deep:Nat),Kt deep e<=vy e
 | .mk k n s l,deep=>by
  have:=U4 l (deep+1)
  unfold Kt vy
  split<;>omega
theorem U4:∀ (l:List Expr) (deep:Nat),ml deep l<=u6 l
 | [],_=>Nat.le_refl _
 | e::r,deep=>by
  have h1:=LI e deep
  have h2:=U4 r deep
  unfold ml u6
  split<;>omega
end
mutual
theorem TZ:∀ (e:Expr),3*vy e<=szE e
 | .mk k n s l=>by
  have:=MN l
  unfold vy szE
  omega
theorem MN:∀ (l:List Expr),3*u6 l<=szEs l
 | []=>Nat.le_refl _
 | e::r=>by
  have h1:=TZ e
  have h2:=MN r
  unfold u6 szEs
  omega
end
def yN(a:Rat):Prop:=vK 100 a
mutual
def allOk:Expr->Prop
 | .mk _ n _ l=>yN n/\allOks l
def allOks:List Expr->Prop
 | []=>True
 | e::r=>allOk e/\allOks r
end
theorem fy{l:List Expr}(h:allOks l):∀ e∈l,allOk e:=by
 induction l with
 | nil=>simp
 | cons x r ih =>
  intro e he
  rcases List.mem_cons.1 he with rfl | he
  ·exact h.1
  ·exact ih h.2 e he
theorem FW(a:Rat)(h:yN a):(dz a).run=some (wh a):=by
 unfold dz wh
 have hr:=ZC a (eZ h (by omega))
 have e:∀ l:List Int,(((l.length:Int))==0)=l.isEmpty:=λl=>by cases l<;>simp; omega
 rw[e,e]
 cases a.1 with
 | true=>rfl
 | false =>
  rw[za (by rfl)]
  cases a.2.1.isEmpty with
  | false=>rfl
  | true =>
   rw[zk]
   cases a.2.2.1.isEmpty with
   | true=>rfl
   | false=>rw[zf,z6 hr,z7]; rfl
theorem NH(a:Rat)(h:yN a):(mV a).run=some (yr a):=by
 unfold mV yr
 have hr:=ZC a (eZ h (by omega))
 have hl:=tC a (eZ h (by omega))
 have he:=tL a (eZ h (by omega))
 have head:((T.bind (Zs a) λr=>.ite (!r) (.ret true) (.ite a.1 (.ret true) (T.bind (eG a) λr1=>.ret r1))):T Bool).run=some (!(og a&&(!a.1 && !cD a))):=by
  rw[z6 hr]
  cases og a with
  | false=>rfl
  | true =>
   rw[z8 (by rfl)]
   cases a.1 with
   | true=>rfl
   | false=>rw[zf,z6 hl,z7]; simp
 rw[z6 head]
 cases q:(og a&&(!a.1 && !cD a))with
 | false =>
  rw[za (by rfl),z7]
  congr 1
  grind
 | true =>
  rw[z8 (by rfl),z6 he]
  rw[z7]
  grind
theorem PD(k:Int):(se k).run=some (pG k):=by
 unfold se pG
 by_cases h1:k=1
 ·subst h1; rfl
 by_cases h2:k=2
 ·subst h2; rfl
 by_cases h7:k=7
 ·subst h7; rfl
 by_cases h3:k=3
 ·subst h3; rfl
 by_cases h4:k=4
 ·subst h4; rfl
 by_cases h5:k=5
 ·subst h5; rfl
 by_cases h6:k=6
 ·subst h6; rfl
 ·simp[h1,h2,h3,h4,h5,h6,h7]
theorem J8(e:Expr)(h:yN e.num):(gU e).run=some (gP e):=by
 unfold gU gP
 rw[z6 (PD _)]
 have hN:=NH e.num h
 have h0:=FW e.num h
 have hn:=xT e.name
 cases q:((e.kids.length:Int)==pG e.kind)with
 | false=>rw[za (by grind),z7]; rfl
 | true =>
  rw[z8 (by grind),Bool.true_and]
  by_cases h1:e.kind=1
  ·rw[if_pos h1,za (by grind),z6 hN]
   cases yr e.num with
   | true=>rfl
   | false=>rfl
  ·rw[if_neg h1,z8 (by grind)]
   by_cases h2:e.kind=2
   ·rw[if_pos h2,za (by grind),z6 h0]
    cases wh e.num with
    | true=>rw[zk,z6 hn,z7]; rfl
    | false=>rfl
   ·rw[if_neg h2,z8 (by grind),z6 h0]
    cases wh e.num with
    | true=>rfl
    | false=>rfl
theorem z2j(e:Expr)(deep left:Nat)(h:allOk e)(hl:vy e<=left)(iU:left<=100000)(hd:deep<=32):(ku e (deep:Int) (left:Int)).run=some (uw deep e,((left-Kt deep e:Nat):Int)):=by
 unfold ku
 refine nC (λx:Expr×Int×Int=>allOk x.1/\0<=x.2.1/\x.2.1<=32/\(vy x.1:Int)<=x.2.2/\x.2.2<=100000) (λx=>vy x.1) (λx=>(uw x.2.1.toNat x.1,((x.2.2.toNat-Kt x.2.1.toNat x.1:Nat):Int))) (λx hx g hg => ?_) (x:=(e,(deep:Int),(left:Int))) ⟨h,by dsimp only; omega,by dsimp only; omega,by dsimp only; omega,by dsimp only; omega⟩
 obtain⟨e,d,lf⟩:=x
 obtain⟨ha,NS,EF,hn,hlf⟩:=hx
 dsimp only at ha NS EF hn hlf
 obtain⟨D,rfl⟩:∃ D:Nat,d=(D:Int):=⟨d.toNat,by omega⟩
 obtain⟨L,rfl⟩:∃ L:Nat,lf=(L:Int):=⟨lf.toNat,by omega⟩
 cases e with | mk k n s kids =>
 obtain⟨oX,Dz⟩:=ha
 have OA:vy (.mk k n s kids)=1+u6 kids:=by unfold vy; rfl
 rw[OA]at hn
 have hv:=U4 kids (D+1)
 have ew:zI ((L:Int)-1)=((L-1:Nat):Int):=by rw[zA (by omega) (by omega)]; omega
 have R4:=J8 (.mk k n s kids) oX
 simp only[Int.toNat_natCast]
 unfold bE
 rw[ew]
 have head:((.ite (decide (((L-1:Nat):Int)<(0:Int))) (.ret (true,((L-1:Nat):Int))) (.ite (decide ((32:Int)<=(D:Int))) (.ret (true,((L-1:Nat):Int))) (T.bind (gU (.mk k n s kids)) λr=>.ret ((!r),((L-1:Nat):Int))))):T (Bool×Int)).run =
   some (!(decide (D<32)&&gP (.mk k n s kids)),((L-1:Nat):Int)):=by
  rw[z8 (decide_eq_false (by omega))]
  by_cases c:D<32
  ·rw[z8 (decide_eq_false (by omega)),z6 R4,z7,decide_eq_true c,Bool.true_and]
  ·rw[za (decide_eq_true (by omega)),z7,decide_eq_false c]; rfl
 rw[z6 head]
 dsimp only
 unfold uw Kt
 cases q:(decide (D<32)&&gP (.mk k n s kids))with
 | false =>
  rw[za (by rfl),z7,if_neg (by simp),<- Bool.and_assoc,q,Bool.false_and]
 | true =>
  rw[z8 (by rfl),if_pos rfl,<- Bool.and_assoc,q,Bool.true_and]
  have hD:D<32:=by
   grind
  have ed:zI ((D:Int)+1)=((D+1:Nat):Int):=by rw[zA (by omega) (by omega)]; omega
  have loop:∃ z,(zZ (λy0 y1 y2=>g (y0,y1,y2)) kids (kids.length:Int) (((D:Int),()),((0:Int),((L-1:Nat):Int)))).run=some z /\
    ((kY (D+1) kids=true/\z=.inl ((L-1-ml (D+1) kids:Nat):Int))\/(kY (D+1) kids=false/\∃ i:Int,0<=i/\z=.inr (i,((L-1-ml (D+1) kids:Nat):Int)))):=by
   refine T.qY (r:=zK (λy0 y1 y2=>g (y0,y1,y2)) kids (kids.length:Int)) (λst:(Int×Unit)×Int×Int=>∃ (j B:Nat),st=(((D:Int),()),(j:Int),(B:Int))/\j<=kids.length/\B<=100000/\u6 (kids.drop j)<=B /\
    B-ml (D+1) (kids.drop j)=L-1-ml (D+1) kids/\kY (D+1) (kids.drop j)=kY (D+1) kids) (λst=>kids.length-st.2.1.toNat) _ (λst xR => ?_) ⟨0,L-1,rfl,by omega,by omega,by rw[List.drop_zero]; omega,by rw[List.drop_zero],by rw[List.drop_zero]⟩
   obtain⟨j,B,rfl,hj,hB,hnB,hvB,GZ⟩:=xR
   by_cases c:j<kids.length
   ·have Bs:kids.drop j=kids[j]::kids.drop (j+1):=List.drop_eq_getElem_cons c
    rw[Bs]at hnB hvB GZ
    rw[show u6 (kids[j]::kids.drop (j+1))=vy kids[j]+u6 (kids.drop (j+1))from rfl]at hnB
    rw[show ml (D+1) (kids[j]::kids.drop (j+1))=Kt (D+1) kids[j]+if uw (D+1) kids[j]=true then ml (D+1) (kids.drop (j+1))else 0 from rfl]at hvB
    rw[show kY (D+1) (kids[j]::kids.drop (j+1))=(uw (D+1) kids[j]&&kY (D+1) (kids.drop (j+1)))from rfl]at GZ
    have nO:=fy Dz _ (List.getElem_mem c)
    have NQ:=LI kids[j] (D+1)
    have Ij:vy kids[j]<1+u6 kids:=by have:=mb (List.getElem_mem c); omega
    have Vf:=hg (kids[j],((D+1:Nat):Int),(B:Int)) ⟨nO,by dsimp only; omega,by dsimp only; omega,by dsimp only; omega,by dsimp only; omega⟩ (by dsimp only; rw[OA]; exact Ij)
    dsimp only at Vf
    simp only[Int.toNat_natCast]at Vf
    have hf:(jM (λy0 y1 y2=>g (y0,y1,y2)) kids[j] (D:Int) (B:Int)).run=some (!uw (D+1) kids[j],((B-Kt (D+1) kids[j]:Nat):Int)):=by
     unfold jM
     rw[ed,z6 Vf]; rfl
    unfold zK
    dsimp only
    rw[za (vX c),zb (zH c),bC c,z6 hf]
    dsimp only
    cases hk:uw (D+1) kids[j]with
    | true =>
     left
     rw[hk,if_pos rfl]at hvB
     rw[hk,Bool.true_and]at GZ
     rw[z8 (by rfl),z7]
     have hlen:=oy kids
     rw[fx j _ c (by omega)]
     refine⟨_,rfl,⟨j+1,B-Kt (D+1) kids[j],rfl,c,by omega,by omega,by omega,GZ⟩,?_⟩
     simp only[Int.toNat_natCast]
     omega
    | false =>
     right
     rw[hk,if_neg (by simp),Nat.add_zero]at hvB
     rw[hk,Bool.false_and]at GZ
     rw[za (by rfl),z7]
     exact⟨_,rfl,.inr ⟨GZ.symm,(j:Int),by omega,by rw[hvB]⟩⟩
   ·right
    have hj2:j=kids.length:=by omega
    subst hj2
    rw[List.drop_length]at hvB GZ
    unfold zK
    dsimp only
    rw[z8 (oz _),z7]
    exact⟨_,rfl,.inl ⟨GZ.symm,by rw[<- hvB]; rfl⟩⟩
  obtain⟨z,hz,hc⟩:=loop
  have hcf:(qh (λy0 y1 y2=>g (y0,y1,y2)) kids ((D:Int),()) ((L-1:Nat):Int)).run=some (!kY (D+1) kids,((L-1-ml (D+1) kids:Nat):Int)):=by
   unfold qh qK
   rcases hc with⟨ho,rfl⟩ | ⟨ho,i,hi,rfl⟩
   ·have:((T.bind (zZ (λy0 y1 y2=>g (y0,y1,y2)) kids (kids.length:Int) (((D:Int),()),((0:Int),((L-1:Nat):Int))))<|Sum.elim (λv2=>.ret ((-1:Int),v2)) (λ(x2,v3)=>.ret (x2,v3))):T (Int×Int)).run=some (-1,((L-1-ml (D+1) kids:Nat):Int)):=by
     rw[z6 hz]; rfl
    rw[z6 this,ho]; rfl
   ·have:((T.bind (zZ (λy0 y1 y2=>g (y0,y1,y2)) kids (kids.length:Int) (((D:Int),()),((0:Int),((L-1:Nat):Int))))<|Sum.elim (λv2=>.ret ((-1:Int),v2)) (λ(x2,v3)=>.ret (x2,v3))):T (Int×Int)).run=some (i,((L-1-ml (D+1) kids:Nat):Int)):=by
     rw[z6 hz]; rfl
    rw[z6 this,ho,z7,decide_eq_true hi]; rfl
  rw[show Expr.kids (.mk k n s kids)=kids from rfl,z6 hcf]
  dsimp only
  rw[z7,Bool.not_not]
  congr 3
  omega
theorem z7w(e:Expr)(h:allOk e)(hn:vy e<=256):(uX e).run=some (uw 0 e):=by
 unfold uX
 have:=z2j e 0 256 h hn (by omega) (by omega)
 have this:(ku e 0 256).run=some (uw 0 e,((256-Kt 0 e:Nat):Int)):=this
 rw[z6 this]; rfl
def dd(acc:List zd)(xs:List zd):List zd:=xs.foldl (λb x=>if x∈b then b else b++[x]) acc
end Go.AM.Lf
namespace Go.AM.PL
def XU:zd->List zd×zd
 | []=>([],[])
 | b::r=>if b=10 then([]::(XU r).1,(XU r).2)else match(XU r).1 with
  | []=>([],b::(XU r).2)
  | l::ls=>((b::l)::ls,(XU r).2)
end Go.AM.PL
namespace Go.AM.Lf
open PL
def RN(u:zd):Option Rat:=if 400<u.length then none else(oi u).map λp=>um (List.isPrefixOf [45] u) p.1 p.2
theorem z3H{u:zd}{r:Rat}(h:RN u=some r):vK 50 r:=by
 unfold RN at h
 split at h
 ·cases h
 ·rename_i c
  obtain⟨p,hp,rfl⟩:=Option.map_eq_some_iff.1 h
  exact WB _ (by omega) hp
def zcH(t:zd):Option ItT:=match RN (wT t [32]).2.1 with
 | some r=>if zT (wT t [32]).1=true then some ((wT t [32]).1,r,())else none
 | none=>none
def Tc:List zd->Option (List ItT)
 | []=>some []
 | t::r=>match zcH t with
  | some x=>(Tc r).map (x :: ·)
  | none=>none
theorem ZF{s:zd}(h:zT s=true):s.length<=24/\s.all wb=true:=by
 cases s with
 | nil=>cases h
 | cons b r =>
  unfold zT at h
  simp only[Bool.and_eq_true,decide_eq_true_eq]at h
  exact⟨h.1,h.2.2⟩
theorem qA(s:zd):(xj s).run=some (zT s):=by
 have hL:∀ b:UInt8,(wy (b.toNat:Int)).run=some (Uy b):=λ_=>rfl
 have hD:∀ b:UInt8,(uR (b.toNat:Int)).run=some (decide (48<=(b.toNat:Int))&&decide ((b.toNat:Int)<=57)):=λ_=>rfl
 unfold xj
 cases s with
 | nil=>rfl
 | cons b r =>
  by_cases c:24<(b::r).length
  ·have:(T.ite (decide (((b::r).length:Int)<(1:Int))) (.ret true) (.ite (decide ((24:Int)<((b::r).length:Int))) (.ret true) (.zy (q9 (0:Int) (List.length (b::r)))<|T.bind (wy (zt (b::r) (0:Int))) λr=>.ret (!r))):T Bool).run=some true:=by
    rw[z8 (decide_eq_false (by omega)),za (decide_eq_true (by omega)),z7]
   rw[z6 this,zk,z7]
   unfold zT
   rw[decide_eq_false (by omega)]; rfl
  ·have hb:zt (b::r) (0:Int)=(b.toNat:Int):=uP (s:=b::r) (k:=0) (by simp)
   have:(T.ite (decide (((b::r).length:Int)<(1:Int))) (.ret true) (.ite (decide ((24:Int)<((b::r).length:Int))) (.ret true) (.zy (q9 (0:Int) (List.length (b::r)))<|T.bind (wy (zt (b::r) (0:Int))) λr=>.ret (!r))):T Bool).run=some (!Uy b):=by
    rw[z8 (decide_eq_false (by simp only[List.length_cons]; omega)),z8 (decide_eq_false (by omega)),zb (by refine⟨by omega,?_⟩; simp only[List.length_cons]; omega),hb,z6 (hL b),z7]
   rw[z6 this]
   unfold zT
   dsimp only
   rw[decide_eq_true (by omega),Bool.true_and]
   cases hbl:Uy b with
   | false=>rw[za (by rfl),z7]; rfl
   | true =>
    rw[z8 (by rfl),Bool.true_and]
    have hbi:wb b=true:=by unfold wb; rw[hbl]; rfl
    have key:(Qp (b::r) 1).run=some (if r.all wb=true then .inl ()else .inr false):=by
     have Sd:=wN (r:=y9 (b::r)) (λi=>∃ k:Nat,i=((k+1:Nat):Int)/\k<=r.length) (λi=>((b::r).length:Int).toNat-i.toNat) (λi=>if(r.drop (i.toNat-1)).all wb=true then .inl ()else .inr false) (λi hi => ?_) (s:=1) ⟨0,rfl,by omega⟩
     ·exact Sd
     ·obtain⟨k,rfl,hk⟩:=hi
      have ek:((k+1:Nat):Int).toNat-1=k:=by omega
      by_cases q:k<r.length
      ·have hq:k+1<(b::r).length:=by simp only[List.length_cons]; omega
       have E5:zt (b::r) ((k+1:Nat):Int)=(r[k].toNat:Int):=by rw[uP hq]; rfl
       have z55:r.drop k=r[k]::r.drop (k+1):=List.drop_eq_getElem_cons q
       have V9:((.zy (q9 ((k+1:Nat):Int) (List.length (b::r)))<|T.bind (wy (zt (b::r) ((k+1:Nat):Int))) λr1 =>
         .ite (!r1) (.zy (q9 ((k+1:Nat):Int) (List.length (b::r)))<|T.bind (uR (zt (b::r) ((k+1:Nat):Int))) λr2 =>
           .ite (!r2) (.zy (q9 ((k+1:Nat):Int) (List.length (b::r)))<|.ret ((zt (b::r) ((k+1:Nat):Int)) != (95:Int))) (.ret false)) (.ret false)):T Bool).run=some (!wb r[k]):=by
        rw[zb (zH hq),E5,z6 (hL _)]
        unfold wb
        cases Uy r[k]with
        | true=>rfl
        | false =>
         rw[za (by rfl),zb (zH hq),z6 (hD _)]
         cases(decide (48<=(r[k].toNat:Int))&&decide ((r[k].toNat:Int)<=57))with
         | true=>rfl
         | false=>rw[za (by rfl),zb (zH hq),z7]; rfl
       cases hik:wb r[k]with
       | true =>
        left
        refine⟨((k+1+1:Nat):Int),?_,⟨k+1,rfl,q⟩,by simp only[List.length_cons]; omega,?_⟩
        ·unfold y9
         rw[za (vX hq),z6 V9,hik,z8 (by rfl),z7,fx (k+1) _ hq (by omega)]
        ·rw[ek,z55,List.all_cons,hik,Bool.true_and,show((k+1+1:Nat):Int).toNat-1=k+1 by omega]
       | false =>
        right
        unfold y9
        rw[za (vX hq),z6 V9,hik,za (by rfl),z7,ek,z55,List.all_cons,hik]
        rfl
      ·right
       have cq:k=r.length:=by omega
       unfold y9
       rw[z8 (decide_eq_false (by simp only[List.length_cons]; omega)),z7,ek,cq,List.drop_length]; rfl
    rw[z6 key,List.all_cons,hbi,Bool.true_and]
    cases h:r.all wb with
    | true=>rfl
    | false=>rfl
theorem On(s:zd)(c:UInt8):(wT s [c]).1.length<=s.length/\(wT s [c]).2.1.length<=s.length:=by
 by_cases h:c∈s
 ·obtain⟨w,q,rfl,hw⟩:=Us h
  rw[lO c w q hw]
  simp only[List.length_append,List.length_cons]
  exact⟨by omega,by omega⟩
 ·rw[cE c s h]; simp
def zeq(l:List ItT):zd:=l.flatMap zcR
def UI(s:zd):List ItT×Int:=match Tc (XU s).1 with
 | some ys=>if zeq ys=s then(ys,0)else([],2)
 | none=>([],2)
theorem zho(a b:Rat):((a.1==b.1)&&((a.2.1==b.2.1)&&(a.2.2.1==b.2.2.1)))=true↔a=b:=by grind
theorem CZ(a:Rat)(h1:zq a.2.1)(h2:zq a.2.2.1):og a=true↔norm a=a:=by
 unfold og norm
 obtain⟨b,N,D,⟨⟩⟩:=a
 simp only[Bool.and_eq_true,Bool.not_eq_true',beq_eq_false_iff_ne,beq_iff_eq,Bool.and_eq_false_imp]
 constructor
 ·rintro⟨t1,t2,hd,hn,hg⟩
  have eN:zB (nv N)=N:=Zu h1 ((jG h1).1 t1)
  have eD:zB (nv D)=D:=Zu h2 ((jG h2).1 t2)
  unfold um
  by_cases c:nv N=0
  ·rw[if_pos (.inl c)]
   rw[c,Nat.gcd_zero_left]at hg
   rw[c,qs]at eN
   rw[hg,dZ]at eD
   grind
  ·grind
 ·intro e
  unfold um at e
  by_cases c:nv N=0\/nv D=0
  ·rw[if_pos c]at e
   obtain⟨rfl,rfl,rfl⟩:=e
   refine⟨by rw[jG h1]; exact YX,?_,by decide,by simp,by decide⟩
   rw[jG h2,<- dZ]; exact sV _
  ·rw[if_neg c]at e
   simp at e
   obtain⟨e1,e2⟩:=e
   simp only[not_or]at c
   have v1:nv N=nv N / Nat.gcd (nv N) (nv D):=by conv=>lhs; rw[<- e1,zN]
   refine⟨by rw[jG h1,<- e1]; exact sV _,by rw[jG h2,<- e2]; exact sV _,c.2,λ_=>c.1,?_⟩
   have hp:0<nv N:=Nat.pos_of_ne_zero c.1
   by_cases g:Nat.gcd (nv N) (nv D)=1
   ·exact g
   ·have hg0:0<Nat.gcd (nv N) (nv D):=Nat.gcd_pos_of_pos_left _ hp
    have:=Nat.div_lt_self hp (by omega:1<Nat.gcd (nv N) (nv D))
    omega
theorem nt(a b:List Int)(la:a.length<=1000000000):(gq a b).run=some (a==b):=by
 unfold gq
 by_cases hlen:a.length=b.length
 ·have key:(lG a b 0).run=some (if a=b then .inl ()else .inr false):=by
   have h:=wN (r:=jO a b) (λi=>∃ k:Nat,i=(k:Int)/\k<=a.length) (λi=>a.length-i.toNat) (λi=>if a.drop i.toNat=b.drop i.toNat then .inl ()else .inr false) (λi hi => ?_) (s:=0) ⟨0,rfl,by omega⟩
   ·unfold lG; simpa using h
   ·obtain⟨k,rfl,hk⟩:=hi
    by_cases c:k<a.length
    ·have cb:k<b.length:=by omega
     have ea:a.drop k=a[k]::a.drop (k+1):=List.drop_eq_getElem_cons c
     have eb:b.drop k=b[k]::b.drop (k+1):=List.drop_eq_getElem_cons cb
     have ek:((k:Nat):Int).toNat=k:=rfl
     have zct:(a.drop k=b.drop k)↔(a[k]=b[k]/\a.drop (k+1)=b.drop (k+1)):=by rw[ea,eb,List.cons.injEq]
     have ek1:((k+1:Nat):Int).toNat=k+1:=rfl
     by_cases q:a[k]=b[k]
     ·left
      refine⟨((k+1:Nat):Int),?_,⟨k+1,rfl,c⟩,by omega,?_⟩
      ·unfold jO
       rw[za (vX c),zb (zH c),zb (zH cb),bC c,bC cb,z8 (by simp[q]),z7,fx k _ c (by omega)]
      ·simp only[ek,ek1,zct,q,true_and]
     ·right
      unfold jO
      rw[za (vX c),zb (zH c),zb (zH cb),bC c,bC cb,za (by simp[q]),z7,ek,if_neg (by rw[zct]; exact λh=>q h.1)]
    ·right
     have cq:k=a.length:=by omega
     unfold jO
     rw[z8 (decide_eq_false (by omega)),z7,cq]
     simp[hlen]
  rw[z8 (by rw[hlen]; simp),z6 key]
  by_cases e:a=b
  ·rw[if_pos e,e]; simp
  ·rw[if_neg e]
   have:(a==b)=false:=by simpa using e
   rw[this]; rfl
 ·have e:(a==b)=false:=by
   rw[beq_eq_false_iff_ne]
   intro e; exact hlen (by rw[e])
  rw[za (by simp; omega),z7,e]
theorem WR(a:Rat)(h:vK 100000000 a):(QY a).run=some (og a):=by
 unfold QY
 have hb:og a=((a.1==(norm a).1)&&((a.2.1==(norm a).2.1)&&(a.2.2.1==(norm a).2.2.1))):=by
  rw[Bool.eq_iff_iff,CZ a h.1 h.2.1,zho]
  grind
 rw[z6 (eL a h),hb]
 cases a.1==(norm a).1 with
 | false=>rfl
 | true =>
  rw[zk,z6 (nt _ _ (by have:=h.2.2.1; omega))]
  cases a.2.1==(norm a).2.1 with
  | false=>rfl
  | true=>rw[zk,z6 (nt _ _ (by have:=h.2.2.2; omega)),z7]; rfl
theorem Jy(a:Rat)(h:vK 100000000 a):(n3 a).run=some (cD a):=by
 unfold n3 cD
 rw[z6 (eL a h),z7]
 congr 2
 ·grind
 ·grind
theorem tD(a:Rat)(h:vK 100000000 a):(eH a).run=some (og a && !cD a):=by
 unfold eH
 rw[z6 (WR a h)]
 cases og a with
 | false=>rfl
 | true=>rw[zk,z6 (Jy a h),z7]; rfl
theorem O8(a:Rat)(h:yN a):(kM a).run=some (wh a):=by
 unfold kM wh
 have hr:=WR a (eZ h (by omega))
 have e:∀ l:List Int,(((l.length:Int))==0)=l.isEmpty:=λl=>by cases l<;>simp; omega
 rw[e,e]
 cases a.1 with
 | true=>rfl
 | false =>
  rw[za (by rfl)]
  cases a.2.1.isEmpty with
  | false=>rfl
  | true =>
   rw[zk]
   cases a.2.2.1.isEmpty with
   | true=>rfl
   | false=>rw[zf,z6 hr,z7]; rfl
theorem TX(g:Expr×Int->T Bool)(kids:List Expr)(k0:Int)(n0:Rat)(s0:zd)(D:Nat)(hl:kids.length<=100000)
  (hg:∀ e∈kids,(g (e,zI (((D+1:Nat):Int)+1))).run=some (uw (D+1) e)) :
  (rZ (λy0 y1=>g (y0,y1)) ((D+1:Nat):Int) (.mk k0 n0 s0 kids) (kids.length:Int) 0).run=some (if kY (D+1) kids=true then .inl ()else .inr false):=by
 refine T.sx (r:=di (λy0 y1=>g (y0,y1)) ((D+1:Nat):Int) (.mk k0 n0 s0 kids) (kids.length:Int)) kids (zn .expr) (λ(_:Unit) i=>i) (λ_ _=>True) (λl _=>(if kY (D+1) l=true then .inl ()else .inr false:Unit⊕Bool)) (λk _ x xs hk hx hm hd hI => ?_) (λ_ _ => ?_) (b:=()) trivial
 ·have Zt:=hg x hm
  have ek:Expr.kids (.mk k0 n0 s0 kids)=kids:=rfl
  unfold di
  rw[za (vX hk),ek,zb (zH hk),hx,z6 Zt]
  cases q:uw (D+1) x with
  | true =>
   left
   refine⟨(),?_,trivial,?_⟩
   ·rw[z8 (by rfl),z7,fx k _ hk (by omega)]
   ·show _=(if(uw (D+1) x&&kY (D+1) xs)=true then _ else _)
    grind
  | false =>
   right
   rw[za (by rfl),z7]
   show _=some (Sum.inr (if(uw (D+1) x&&kY (D+1) xs)=true then _ else _))
   grind
 ·unfold di
  rw[z8 (oz _),z7]; rfl
theorem M1(e:Expr)(deep:Nat)(h:allOk e)(hn:vy e<=100000)(hd:deep<=32):(lS e ((deep+1:Nat):Int)).run=some (uw deep e):=by
 unfold lS
 refine nC (λx:Expr×Int=>allOk x.1/\vy x.1<=100000/\1<=x.2/\x.2<=33) (λx=>vy x.1) (λx=>uw (x.2.toNat-1) x.1) (λx hx g hg => ?_) (x:=(e,((deep+1:Nat):Int))) ⟨h,hn,by dsimp only; omega,by dsimp only; omega⟩
 obtain⟨e,d⟩:=x
 obtain⟨ha,hn,NS,EF⟩:=hx
 dsimp only at ha hn NS EF
 obtain⟨D,rfl⟩:∃ D:Nat,d=((D+1:Nat):Int):=⟨d.toNat-1,by omega⟩
 cases e with | mk k n s kids =>
 obtain⟨oX,Dz⟩:=ha
 have OA:vy (.mk k n s kids)=1+u6 kids:=rfl
 have hlen:=oy kids
 have Iy:(((D+1:Nat):Int)).toNat-1=D:=by omega
 dsimp only
 rw[Iy]
 unfold mM
 show _=some (decide (D<32)&&(gP (.mk k n s kids)&&kY (D+1) kids))
 by_cases c:D<32
 ·rw[z8 (decide_eq_false (by omega)),decide_eq_true c,Bool.true_and]
  have hN:=oF n (eZ oX (by omega))
  have hG:=tD n (eZ oX (by omega))
  have hB:=O8 n oX
  have hNm:=qA s
  have e0:∀ m:Nat,(((m:Int))==0)=(((m:Int))==(0:Int)):=λ_=>rfl
  have Vf:∀ e∈kids,(g (e,zI (((D+1:Nat):Int)+1))).run=some (uw (D+1) e):=λe he=>by
   have hm:=mb he
   have ew:zI (((D+1:Nat):Int)+1)=((D+1+1:Nat):Int):=by rw[zA (by omega) (by omega)]; omega
   have:=hg (e,((D+1+1:Nat):Int)) ⟨fy Dz e he,by dsimp only; omega,by dsimp only; omega,by dsimp only; omega⟩ (by dsimp only; rw[OA]; omega)
   grind
  have Sd:=TX g kids k n s D (by omega) Vf
  have zcQ:Expr.kids (.mk k n s kids)=kids:=rfl
  have z9O:Expr.kind (.mk k n s kids)=k:=rfl
  have zag:Expr.name (.mk k n s kids)=s:=rfl
  have z9C:Expr.num (.mk k n s kids)=n:=rfl
  have tail:∀ kd:Int,(T.bind (.ite ((Nat.cast (List.length kids):Int) != kd) (.ret true) (.ite (!(zi s ([]:zd))) (.ret true) (T.bind (kM n) λr4=>.ret (!r4))):T Bool) λx1 =>
     .ite x1 (.ret false) (T.bind (rZ (λy0 y1=>g (y0,y1)) ((D+1:Nat):Int) (.mk k n s kids) kd (0:Int))<|Sum.elim (λ_=>.ret true) (λx2=>.ret x2)):T Bool).run =
     some (((kids.length:Int)==kd)&&((wh n&&zi s [])&&kY (D+1) kids)):=by
   intro kd
   have head:(.ite ((Nat.cast (List.length kids):Int) != kd) (.ret true) (.ite (!(zi s ([]:zd))) (.ret true) (T.bind (kM n) λr4=>.ret (!r4))):T Bool).run=some (!(((kids.length:Int)==kd)&&(wh n&&zi s []))):=by
    cases q:((kids.length:Int)==kd)with
    | false=>rw[za (by rw[bne,q]; rfl)]; rfl
    | true =>
     rw[z8 (by rw[bne,q]; rfl)]
     cases zi s []with
     | false=>simp
     | true=>rw[z8 (by rfl),z6 hB,z7,Bool.and_true,Bool.true_and]
   rw[z6 head]
   cases q:((kids.length:Int)==kd)with
   | false=>rfl
   | true =>
    have hkd:kd=(kids.length:Int):=by
     grind
    subst hkd
    rw[Bool.true_and,Bool.true_and]
    cases(wh n&&zi s [])with
    | false=>rfl
    | true =>
     rw[z8 (by rfl),z6 Sd,Bool.true_and]
     cases kY (D+1) kids<;>rfl
  unfold gP pG
  rw[zcQ,z9O,zag,z9C]
  by_cases h1:k=1
  ·subst h1
   have head:(T.bind (cv n) λ(r,ok)=>.ite ((Nat.cast (List.length kids):Int)==(0:Int)) (.ite (zi s ([]:zd)) (T.bind (eH n) λr1=>.ite r1 (.ite (!n.1) (.ret (.inr ok)) (.ret (.inr false))) (.ret (.inr false))) (.ret (.inr false))) (.ret (.inr false)):T (Int⊕Bool)).run=some (.inr (((kids.length:Int)==0)&&(yr n&&zi s []))):=by
    rw[z6 hN]
    unfold yr
    generalize xB (norm n).1 (nv (norm n).2.1) (nv (norm n).2.2.1) 0 61=x
    obtain⟨x1,x2⟩:=x
    dsimp only
    cases(Nat.cast (List.length kids):Int)==(0:Int)with
    | false=>rfl
    | true =>
     rw[zk]
     cases zi s []with
     | false=>simp
     | true =>
      rw[zk,z6 hG]
      cases og n<;>cases cD n<;>cases n.1<;>cases x2<;>rfl
   refine(z6 (a:=.inr (((kids.length:Int)==0)&&(yr n&&zi s []))) ?_ _).trans ?_
   ·rw[za (by rfl)]; exact head
   ·rw[Sum.elim_inr,z7,if_pos (.inl rfl),if_pos rfl]
    cases q:((kids.length:Int)==0)with
    | false=>rfl
    | true =>
     have:kids=[]:=List.eq_nil_of_length_eq_zero (by have:(kids.length:Int)=0:=(by simpa using q); omega)
     subst this
     show _=some (true&&(yr n&&zi s [])&&true)
     rw[Bool.and_true]
  ·by_cases h2:k=2
   ·subst h2
    have head:(.ite ((Nat.cast (List.length kids):Int)==(0:Int)) (T.bind (xj s) λr2=>.ite r2 (T.bind (kM n) λr3=>.ret (.inr r3)) (.ret (.inr false))) (.ret (.inr false)):T (Int⊕Bool)).run=some (.inr (((kids.length:Int)==0)&&(wh n&&zT s))):=by
     cases(Nat.cast (List.length kids):Int)==(0:Int)with
     | false=>rfl
     | true =>
      rw[zk,z6 hNm]
      cases zT s with
      | false=>rw[zf,z7,Bool.and_false]; rfl
      | true=>rw[zk,z6 hB,z7,Bool.and_true,Bool.true_and]
    refine(z6 (a:=.inr (((kids.length:Int)==0)&&(wh n&&zT s))) ?_ _).trans ?_
    ·rw[z8 (by rfl),za (by rfl)]; exact head
    ·rw[Sum.elim_inr,z7,if_pos (.inr rfl),if_neg (by decide),if_pos rfl]
     cases q:((kids.length:Int)==0)with
     | false=>rfl
     | true =>
      have:kids=[]:=List.eq_nil_of_length_eq_zero (by have:(kids.length:Int)=0:=(by simpa using q); omega)
      subst this
      show _=some (true&&(wh n&&zT s)&&true)
      rw[Bool.and_true]
   ·have k1:(k==1)=false:=by simpa using h1
    have k2:(k==2)=false:=by simpa using h2
    have fin:∀ kd:Int,(if k=7 then(1:Int)else if k=3\/k=4\/k=5\/k=6 then 2 else -1)=kd->((((kids.length:Int)==kd)&&((wh n&&zi s [])&&kY (D+1) kids))) =
      ((((kids.length:Int)==(if k=1\/k=2 then(0:Int)else if k=7 then 1 else if k=3\/k=4\/k=5\/k=6 then 2 else -1))&&(if k=1 then yr n&&zi s []else if k=2 then wh n&&zT s else wh n&&zi s []))&&kY (D+1) kids):=by
     intro kd hkd
     rw[if_neg (by rintro(h | h); exact h1 h; exact h2 h),hkd,if_neg h1,if_neg h2]
     simp only[Bool.and_assoc]
    by_cases h7:k=7
    ·refine(z6 (a:=.inl 1) ?_ _).trans ?_
     ·rw[z8 k1,z8 k2,za (by simpa using h7),z7]
     ·rw[Sum.elim_inl,<- fin 1 (by rw[if_pos h7])]; exact tail 1
    ·have k7:(k==7)=false:=by simpa using h7
     by_cases h3:k=3
     ·refine(z6 (a:=.inl 2) ?_ _).trans ?_
      ·rw[z8 k1,z8 k2,z8 k7,za (by simpa using h3),z7]
      ·rw[Sum.elim_inl,<- fin 2 (by rw[if_neg h7,if_pos (.inl h3)])]; exact tail 2
     ·have k3:(k==3)=false:=by simpa using h3
      by_cases h4:k=4
      ·refine(z6 (a:=.inl 2) ?_ _).trans ?_
       ·rw[z8 k1,z8 k2,z8 k7,z8 k3,za (by simpa using h4),z7]
       ·rw[Sum.elim_inl,<- fin 2 (by rw[if_neg h7,if_pos (.inr (.inl h4))])]; exact tail 2
      ·have k4:(k==4)=false:=by simpa using h4
       by_cases h5:k=5
       ·refine(z6 (a:=.inl 2) ?_ _).trans ?_
        ·rw[z8 k1,z8 k2,z8 k7,z8 k3,z8 k4,za (by simpa using h5),z7]
        ·rw[Sum.elim_inl,<- fin 2 (by rw[if_neg h7,if_pos (.inr (.inr (.inl h5)))])]; exact tail 2
       ·have k5:(k==5)=false:=by simpa using h5
        by_cases h6:k=6
        ·refine(z6 (a:=.inl 2) ?_ _).trans ?_
         ·rw[z8 k1,z8 k2,z8 k7,z8 k3,z8 k4,z8 k5,za (by simpa using h6),z7]
         ·rw[Sum.elim_inl,<- fin 2 (by rw[if_neg h7,if_pos (.inr (.inr (.inr h6)))])]; exact tail 2
        ·have k6:(k==6)=false:=by simpa using h6
         refine(z6 (a:=.inr false) ?_ _).trans ?_
         ·rw[z8 k1,z8 k2,z8 k7,z8 k3,z8 k4,z8 k5,z8 k6,z7]
         ·rw[Sum.elim_inr,z7,<- fin (-1) (by rw[if_neg h7,if_neg (by rintro(h | h | h | h)<;>contradiction)])]
          have:((kids.length:Int) == -1)=false:=by simp
          rw[this]; rfl
 ·rw[za (decide_eq_true (by omega)),z7,decide_eq_false c]; rfl
theorem rX(e:Expr)(hb:bkE e<=1000000000):(nJ e).run=some ((vy e:Nat):Int):=by
 unfold nJ
 refine nC (λx:Expr=>bkE x<=1000000000) (λx=>bkE x) (λx=>((vy x:Nat):Int)) (λx hx g hg => ?_) (x:=e) hb
 have hk:=Y3 x
 have hkl:=z0e x.kids
 have ndb:∀ (l:List Expr),u6 l<=bkEs l:=by
  have both:∀ n,(∀ e:Expr,bkE e<=n->vy e<=bkE e):=by
   intro n
   induction n using Nat.strongRecOn with
   | _ n ih =>
    intro e he
    cases e with | mk k m s l =>
    have hl:∀ l':List Expr,bkEs l'<n->u6 l'<=bkEs l':=by
     intro l'
     induction l' with
     | nil=>intro _; exact Nat.le_refl _
     | cons y r ihr =>
      intro h
      unfold bkEs at h ⊢
      unfold u6
      grind
    have h3:bkEs l<bkE (.mk k m s l):=Y3 (.mk k m s l)
    have:=hl l (by omega)
    unfold vy
    omega
  intro l
  induction l with
  | nil=>exact Nat.le_refl _
  | cons y r ihr =>
   unfold u6 bkEs
   have:=both (bkE y) y (Nat.le_refl _)
   omega
 have loop:(tY (λy0=>g y0) x (1,0)).run=some ((1+u6 x.kids:Nat):Int):=by
  have key:=NC (r:=yG (λy0=>g y0) x) x.kids (zn .expr) (λ(b:Nat) i=>(((b:Nat):Int),i)) (λb r=>b+u6 r<=1+u6 x.kids/\∀ y∈r,y∈x.kids) (λr b=>((b+u6 r:Nat):Int)) ?_ ?_ (b:=1) ⟨Nat.le_refl _,λy hy=>hy⟩
  ·exact key
  ·rintro b y ys i h0 hi hy ⟨h1,h2⟩
   have hm:=TR (h2 y List.mem_cons_self)
   have hr:=hg y (by omega) (by omega)
   have OA:=ndb x.kids
   have e1:u6 (y::ys)=vy y+u6 ys:=rfl
   refine .inl ⟨b+vy y,?_,⟨by omega,λz hz=>h2 z (List.mem_cons_of_mem _ hz)⟩,by rw[e1,Nat.add_assoc]⟩
   unfold yG
   rw[za (decide_eq_true hi),zb ⟨h0,hi⟩,hy,z6 hr,z7,zA (x:=i+1) (by omega) (by omega),zA (by omega) (by omega)]
   rfl
  ·rintro b _
   unfold yG
   rw[z8 (oz _),z7]; rfl
 unfold dS
 rw[z6 loop,z7]
 cases x with | mk k n s kids=>rfl
theorem BE(e:Expr)(h:allOk e)(hb:bkE e<=1000000)(hn:vy e<=256):(yQ e).run=some (uw 0 e):=by
 unfold yQ
 have h1:(lS e 1).run=some (uw 0 e):=M1 e 0 h (by omega) (by omega)
 rw[z6 h1]
 cases uw 0 e with
 | false=>rfl
 | true=>rw[zk,z6 (rX e (by omega)),z7,decide_eq_true (by omega)]
def qE(k:Int):Int:=if k=3\/k=4 then 1 else if k=5\/k=6 then 2 else if k=7 then 3 else 4
def Db(k:Int):zd:=if k=3 then[32,43,32]else if k=4 then[32,45,32]else if k=5 then[32,42,32]else if k=6 then[32,47,32]else[]
def nI(b:Bool)(s:zd):zd:=if b=true then[40]++s++[41]else s
def Qw(k:Int):List (Int×zd)->zd
 | [a]=>[45]++nI (decide (a.1<3)) a.2
 | [a,b]=>nI (decide (a.1<qE k)) a.2++Db k++nI (decide (b.1<qE k+1)) b.2
 | _=>[]
mutual
def prE:Expr->zd
 | .mk k n s l=>if k=1 then(xB (norm n).1 (nv (norm n).2.1) (nv (norm n).2.2.1) 0 61).1 else if k=2 then s else Qw k (prL l)
def prL:List Expr->List (Int×zd)
 | []=>[]
 | e::r=>(qE e.kind,prE e)::prL r
end
theorem bu(b:Bool)(s:zd):(nI b s).length<=s.length+2:=by unfold nI; split<;>simp<;>omega
theorem Gn(k:Int):(Db k).length<=3:=by unfold Db; (repeat' split)<;>simp
theorem OS(n:Rat)(h:yN n):(xB (norm n).1 (nv (norm n).2.1) (nv (norm n).2.2.1) 0 61).1.length<=6000:=by
 have hn:=mL (k:=100) (by omega) h
 have hd:=Ud n.1 (nv n.2.1) (nv n.2.2.1)
 have hd:nv (norm n).2.2.1≠0:=hd
 rcases hx:xB (norm n).1 (nv (norm n).2.1) (nv (norm n).2.2.1) 0 61 with⟨s,b⟩
 cases b with
 | true =>
  obtain⟨j,h1,h2,h3,rfl⟩:=G9 _ _ _ hd 61 0 s hx
  have l1:=q7 hn.1
  have l2:=hn.2.2.1
  have l3:=iw j
  have l4:=iT (nv (norm n).2.1) (10 ^ j)
  have l5:=U7 (Nat.div_le_self (nv (norm n).2.1*10 ^ j) (nv (norm n).2.2.1))
  have l6:=fD (nv (norm n).2.1*10 ^ j / nv (norm n).2.2.1) 162 (by omega)
  have l7:(Oz (norm n).1).length<=1:=by unfold Oz; split<;>simp
  dsimp only
  rw[List.length_append]
  by_cases hj:j=0
  ·subst hj
   unfold Ow
   grind
  ·obtain⟨w,p,e,_,_,_,hp,_,hw⟩:=OH (pr (nv (norm n).2.1*10 ^ j / nv (norm n).2.2.1)) j hj (z3a _).1
   grind
 | false =>
  have:∀ (f k:Nat) (s:zd),xB (norm n).1 (nv (norm n).2.1) (nv (norm n).2.2.1) k f=(s,false)->s=[]:=by
   intro f
   induction f with
   | zero=>intro k s h; unfold xB at h; cases h; rfl
   | succ f ih =>
    intro k s h
    unfold xB at h
    grind
  grind
theorem Ql{d:Nat}{k:Int}{n:Rat}{s:zd}{l:List Expr}(h:uw d (.mk k n s l)=true):((l.length:Int)=pG k)/\kY (d+1) l=true:=by
 have h:(decide (d<32)&&(gP (.mk k n s l)&&kY (d+1) l))=true:=h
 simp at h
 obtain⟨_,h1,h2⟩:=h
 unfold gP at h1
 simp only[Bool.and_eq_true]at h1
 exact⟨eq_of_beq h1.1,h2⟩
theorem iL:∀ (m:Nat) (e:Expr) (d:Nat),vy e<=m->uw d e=true->allOk e->(prE e).length<=2000*szE e:=by
 intro m
 induction m with
 | zero=>intro e d hm; cases e; unfold vy at hm; omega
 | succ m ih =>
  intro e d hm ho ha
  cases e with | mk k n s l =>
  obtain⟨hk,hl⟩:=Ql ho
  obtain⟨hn,ou⟩:=ha
  have OA:vy (.mk k n s l)=1+u6 l:=rfl
  have jv:szE (.mk k n s l)=3+s.length+8*n.2.1.length+8*n.2.2.1.length+szEs l:=rfl
  rw[OA]at hm
  rw[jv]
  show(if k=1 then(xB (norm n).1 (nv (norm n).2.1) (nv (norm n).2.2.1) 0 61).1 else if k=2 then s else Qw k (prL l)).length<=_
  by_cases h1:k=1
  ·rw[if_pos h1]; have:=OS n hn; omega
  ·rw[if_neg h1]
   by_cases h2:k=2
   ·grind
   ·rw[if_neg h2]
    match l,hl,ou,hm with
    | [],_,_,_=>show(Qw k []).length<=_; unfold Qw; simp
    | [a],hl,ou,hm =>
     have ha':uw (d+1) a=true:=by
      have:(uw (d+1) a&&kY (d+1) [])=true:=hl
      simp_all
     have:=ih a (d+1) (by have:u6 [a]=vy a+0:=rfl; omega) ha' ou.1
     have e1:szEs [a]=szE a+0:=rfl
     have hp:=bu (decide (qE a.kind<3)) (prE a)
     show([45]++nI (decide (qE a.kind<3)) (prE a)).length<=_
     grind
    | [a,b],hl,ou,hm =>
     have Ki:uw (d+1) a=true/\uw (d+1) b=true:=by
      have:(uw (d+1) a&&(uw (d+1) b&&kY (d+1) []))=true:=hl
      grind
     have e0:u6 [a,b]=vy a+(vy b+0):=rfl
     have h3:=ih a (d+1) (by omega) Ki.1 ou.1
     have h4:=ih b (d+1) (by omega) Ki.2 ou.2.1
     have e1:szEs [a,b]=szE a+(szE b+0):=rfl
     have hp:=bu (decide (qE a.kind<qE k)) (prE a)
     have hq:=bu (decide (qE b.kind<qE k+1)) (prE b)
     have hm':=Gn k
     show(nI (decide (qE a.kind<qE k)) (prE a)++Db k++nI (decide (qE b.kind<qE k+1)) (prE b)).length<=_
     grind
    | a::b::c::r,_,_,_=>show(Qw k _).length<=_; unfold prL prL prL Qw; simp
theorem Gb(e:Expr):(cy e).run=some (qE e.kind):=by
 unfold cy qE
 generalize e.kind=k
 by_cases h3:k=3
 ·subst h3; rfl
 by_cases h4:k=4
 ·subst h4; rfl
 by_cases h5:k=5
 ·subst h5; rfl
 by_cases h6:k=6
 ·subst h6; rfl
 by_cases h7:k=7
 ·subst h7; rfl
 ·simp[h3,h4,h5,h6,h7]
theorem z1k(k:Int):(rO k).run=some (qE k):=by
 unfold rO qE
 by_cases h3:k=3
 ·subst h3; rfl
 by_cases h4:k=4
 ·subst h4; rfl
 by_cases h5:k=5
 ·subst h5; rfl
 by_cases h6:k=6
 ·subst h6; rfl
 by_cases h7:k=7
 ·subst h7; rfl
 ·simp[h3,h4,h5,h6,h7]
theorem Zq(g:Expr->T zd)(e:Expr)(least:Int)(t:zd)(hg:(g e).run=some t)(hl:t.length<=1000000000000):(gJ (λy0=>g y0) e least).run=some (nI (decide (qE e.kind<least)) t):=by
 unfold gJ nI
 rw[z6 (Gb e)]
 cases decide (qE e.kind<least)with
 | true=>rw[zk,z6 hg,zr _ (by grind),zr _ (by simp[kz]; omega),z7,if_pos rfl]; rfl
 | false=>rw[zf,z6 hg,z7,if_neg (by simp)]
theorem Hu{k:Int}{l:List Expr}(hk:(l.length:Int)=pG k)(h1:k≠1)(h2:k≠2):(k=7/\∃ a,l=[a])\/((k=3\/k=4\/k=5\/k=6)/\∃ a b,l=[a,b]):=by
 unfold pG at hk
 rw[if_neg (by grind)]at hk
 by_cases h7:k=7
 ·rw[if_pos h7]at hk
  match l,hk with
  | [a],_=>grind
  | [],hk=>simp at hk
  | _::_::_,hk=>grind
 ·rw[if_neg h7]at hk
  by_cases h:k=3\/k=4\/k=5\/k=6
  ·rw[if_pos h]at hk
   match l,hk with
   | [a,b],_=>grind
   | [],hk=>simp at hk
   | [_],hk=>simp at hk
   | _::_::_::_,hk=>grind
  ·grind
theorem NF(e:Expr)(d:Nat)(ho:uw d e=true)(ha:allOk e)(hs:szE e<=1000000):(nj e).run=some (prE e):=by
 unfold nj
 refine nC (λx:Expr=>(∃ d,uw d x=true)/\allOk x/\szE x<=1000000) (λx=>vy x) (λx=>prE x) (λx hx g hg => ?_) (x:=e) ⟨⟨d,ho⟩,ha,hs⟩
 obtain⟨⟨d,ho⟩,ha,hs⟩:=hx
 cases x with | mk k n s l =>
 obtain⟨hk,hl⟩:=Ql ho
 obtain⟨hn,ou⟩:=ha
 have OA:vy (.mk k n s l)=1+u6 l:=rfl
 have jv:szE (.mk k n s l)=3+s.length+8*n.2.1.length+8*n.2.2.1.length+szEs l:=rfl
 have hE:=tL n (eZ hn (by omega))
 have z6t:prE (.mk k n s l)=if k=1 then(xB (norm n).1 (nv (norm n).2.1) (nv (norm n).2.2.1) 0 61).1 else if k=2 then s else Qw k (prL l):=rfl
 rw[z6t]
 unfold dQ
 rw[show Expr.kind (.mk k n s l)=k from rfl,show Expr.kids (.mk k n s l)=l from rfl,show Expr.num (.mk k n s l)=n from rfl,show Expr.name (.mk k n s l)=s from rfl]
 have Pv:=Gb (.mk k n s l)
 rw[show Expr.kind (.mk k n s l)=k from rfl]at Pv
 by_cases h1:k=1
 ·rw[if_pos h1]
  refine(z6 (a:=.inr (xB (norm n).1 (nv (norm n).2.1) (nv (norm n).2.2.1) 0 61).1) ?_ _).trans rfl
  rw[za (by simpa using h1),z6 hE,z7]
 have k1:(k==1)=false:=by simpa using h1
 by_cases h2:k=2
 ·rw[if_neg h1,if_pos h2]
  refine(z6 (a:=.inr s) ?_ _).trans rfl
  rw[z8 k1,za (by simpa using h2),z7]
 have k2:(k==2)=false:=by simpa using h2
 rw[if_neg h1,if_neg h2]
 rcases Hu hk h1 h2 with⟨h7,a,rfl⟩ | ⟨h36,a,b,rfl⟩
 ·have ha':uw (d+1) a=true:=by
   have:(uw (d+1) a&&kY (d+1) [])=true:=hl
   grind
  have e0:u6 [a]=vy a+0:=rfl
  have e1:szEs [a]=szE a+0:=rfl
  have hr:=hg a ⟨⟨_,ha'⟩,ou.1,by omega⟩ (by omega)
  have hlen:=iL (vy a) a (d+1) (Nat.le_refl _) ha' ou.1
  have hp:=Zq g a 3 (prE a) hr (by omega)
  have V4:=bu (decide (qE a.kind<3)) (prE a)
  refine(z6 (a:=.inr (Qw k (prL [a]))) ?_ _).trans rfl
  rw[z8 k1,z8 k2,za (by simpa using h7),zb ⟨by omega,by simp⟩,show nth [a] (0:Int) (zn .expr)=a from rfl,z6 hp,zr _ (by simp; omega),z7]
  rfl
 ·have Ki:uw (d+1) a=true/\uw (d+1) b=true:=by
   have:(uw (d+1) a&&(uw (d+1) b&&kY (d+1) []))=true:=hl
   grind
  have e0:u6 [a,b]=vy a+(vy b+0):=rfl
  have e1:szEs [a,b]=szE a+(szE b+0):=rfl
  have ra:=hg a ⟨⟨_,Ki.1⟩,ou.1,by omega⟩ (by omega)
  have rb:=hg b ⟨⟨_,Ki.2⟩,ou.2.1,by omega⟩ (by omega)
  have la:=iL (vy a) a (d+1) (Nat.le_refl _) Ki.1 ou.1
  have lb:=iL (vy b) b (d+1) (Nat.le_refl _) Ki.2 ou.2.1
  have E5:zI (qE k+1)=qE k+1:=by
   have:qE k=1\/qE k=2\/qE k=3\/qE k=4:=by unfold qE; (repeat' split)<;>simp
   rw[zA (by omega) (by omega)]
  have pa:=Zq g a (qE k) (prE a) ra (by omega)
  have pb:=Zq g b (qE k+1) (prE b) rb (by omega)
  have qa:=bu (decide (qE a.kind<qE k)) (prE a)
  have qb:=bu (decide (qE b.kind<qE k+1)) (prE b)
  have hm:=Gn k
  have k7:(k==7)=false:=by rw[beq_eq_false_iff_ne]; omega
  refine(z6 (a:=.inl (Db k)) ?_ _).trans ?_
  ·rw[z8 k1,z8 k2,z8 k7]
   rcases h36 with rfl | rfl | rfl | rfl<;>rfl
  ·rw[Sum.elim_inl,zb ⟨by omega,by simp⟩,z6 Pv,show nth [a,b] (0:Int) (zn .expr)=a from rfl,z6 pa,zr _ (by omega),zb ⟨by omega,by simp⟩,z6 Pv,E5,show nth [a,b] (1:Int) (zn .expr)=b from rfl,z6 pb,zr _ (by simp[kz]; omega),z7]
   rfl
theorem z0m(e:Expr)(asks:Int)(d:Nat)(ho:uw d e=true)(ha:allOk e)(hs:szE e<=100000):(sP e asks).run=some (nI (decide (qE e.kind<asks)) (prE e)):=by
 unfold sP
 refine nC (λx:Expr×Int=>(∃ d,uw d x.1=true)/\allOk x.1/\szE x.1<=100000) (λx=>vy x.1) (λx=>nI (decide (qE x.1.kind<x.2)) (prE x.1)) (λx hx g hg => ?_) (x:=(e,asks)) ⟨⟨d,ho⟩,ha,hs⟩
 obtain⟨x,q⟩:=x
 obtain⟨⟨d,ho⟩,ha,hs⟩:=hx
 dsimp only at ho ha hs
 have zhP:=iL (vy x) x d (Nat.le_refl _) ho ha
 cases x with | mk k n s l =>
 obtain⟨hk,hl⟩:=Ql ho
 obtain⟨hn,ou⟩:=ha
 have OA:vy (.mk k n s l)=1+u6 l:=rfl
 have jv:szE (.mk k n s l)=3+s.length+8*n.2.1.length+8*n.2.2.1.length+szEs l:=rfl
 have hE:=oF n (eZ hn (by omega))
 have z6t:prE (.mk k n s l)=if k=1 then(xB (norm n).1 (nv (norm n).2.1) (nv (norm n).2.2.1) 0 61).1 else if k=2 then s else Qw k (prL l):=rfl
 unfold iv
 rw[show Expr.kind (.mk k n s l)=k from rfl,show Expr.kids (.mk k n s l)=l from rfl,show Expr.num (.mk k n s l)=n from rfl,show Expr.name (.mk k n s l)=s from rfl]
 have fin:∀ t:T zd,t.run=some (prE (.mk k n s l))->(T.bind t λs1=>T.bind (rO k) λr10=>.ite (decide (r10<q))
   (.zy (((List.length ([40]:zd))+(List.length s1))<=(4611686018427387904:Nat))<|.zy (((List.length (cat ([40]:zd) s1))+(List.length ([41]:zd)))<=(4611686018427387904:Nat))<|.ret (cat (cat ([40]:zd) s1) ([41]:zd))) (.ret s1):T zd).run=some (nI (decide (qE k<q)) (prE (.mk k n s l))):=by
  intro t ht
  rw[z6 ht,z6 (z1k k)]
  cases decide (qE k<q)with
  | true=>rw[zk,zr _ (by simp; omega),zr _ (by simp[kz]; omega),z7]; rfl
  | false=>rfl
 refine fin _ ?_
 rw[z6t]
 by_cases h1:k=1
 ·rw[if_pos h1,za (by simpa using h1),z6 hE,z7]
 have k1:(k==1)=false:=by simpa using h1
 by_cases h2:k=2
 ·rw[if_neg h1,if_pos h2,z8 k1,za (by simpa using h2),z7]
 have k2:(k==2)=false:=by simpa using h2
 rw[if_neg h1,if_neg h2]
 rcases Hu hk h1 h2 with⟨h7,a,rfl⟩ | ⟨h36,a,b,rfl⟩
 ·have ha':uw (d+1) a=true:=by
   have:(uw (d+1) a&&kY (d+1) [])=true:=hl
   grind
  have e0:u6 [a]=vy a+0:=rfl
  have e1:szEs [a]=szE a+0:=rfl
  have hr:=hg (a,3) ⟨⟨_,ha'⟩,ou.1,by dsimp only; omega⟩ (by dsimp only; omega)
  have hlen:=iL (vy a) a (d+1) (Nat.le_refl _) ha' ou.1
  have V4:=bu (decide (qE a.kind<3)) (prE a)
  dsimp only at hr
  rw[z8 k1,z8 k2,za (by simpa using h7),zb ⟨by omega,by simp⟩,show nth [a] (0:Int) (zn .expr)=a from rfl,z6 hr,zr _ (by simp; omega),z7]
  rfl
 ·have Ki:uw (d+1) a=true/\uw (d+1) b=true:=by
   have:(uw (d+1) a&&(uw (d+1) b&&kY (d+1) []))=true:=hl
   grind
  have e0:u6 [a,b]=vy a+(vy b+0):=rfl
  have e1:szEs [a,b]=szE a+(szE b+0):=rfl
  have ra:∀ q:Int,(g (a,q)).run=some (nI (decide (qE a.kind<q)) (prE a)):=λq=>hg (a,q) ⟨⟨_,Ki.1⟩,ou.1,by dsimp only; omega⟩ (by dsimp only; omega)
  have rb:∀ q:Int,(g (b,q)).run=some (nI (decide (qE b.kind<q)) (prE b)):=λq=>hg (b,q) ⟨⟨_,Ki.2⟩,ou.2.1,by dsimp only; omega⟩ (by dsimp only; omega)
  have la:=iL (vy a) a (d+1) (Nat.le_refl _) Ki.1 ou.1
  have lb:=iL (vy b) b (d+1) (Nat.le_refl _) Ki.2 ou.2.1
  have qa:∀ q:Int,(nI (decide (qE a.kind<q)) (prE a)).length<=1000000000:=λq=>by have:=bu (decide (qE a.kind<q)) (prE a); omega
  have qb:∀ q:Int,(nI (decide (qE b.kind<q)) (prE b)).length<=1000000000:=λq=>by have:=bu (decide (qE b.kind<q)) (prE b); omega
  have k7:(k==7)=false:=by rw[beq_eq_false_iff_ne]; omega
  have two:∀ (m:zd) (p q:Int),m.length<=3->(.zy (q9 (0:Int) (List.length [a,b]))<|T.bind (g (nth [a,b] (0:Int) (zn .expr),p)) λr2=>.zy (((List.length r2)+(List.length m))<=(4611686018427387904:Nat))<|.zy (q9 (1:Int) (List.length [a,b])) <|
    T.bind (g (nth [a,b] (1:Int) (zn .expr),q)) λr3=>.zy (((List.length (cat r2 m))+(List.length r3))<=(4611686018427387904:Nat))<|.ret (cat (cat r2 m) r3):T zd).run=some (nI (decide (qE a.kind<p)) (prE a)++m++nI (decide (qE b.kind<q)) (prE b)):=by
   intro m p q hm
   have h3:=qa p
   have h4:=qb q
   rw[zb ⟨by omega,by simp⟩,show nth [a,b] (0:Int) (zn .expr)=a from rfl,z6 (ra p),zr _ (by omega),zb ⟨by omega,by simp⟩,show nth [a,b] (1:Int) (zn .expr)=b from rfl,z6 (rb q),zr _ (by simp[kz]; omega),z7]
   rfl
  rw[z8 k1,z8 k2,z8 k7]
  rcases h36 with rfl | rfl | rfl | rfl
  ·rw[za (by rfl)]; exact two [32,43,32] 1 2 (by simp)
  ·rw[z8 (by rfl),za (by rfl)]; exact two [32,45,32] 1 2 (by simp)
  ·rw[z8 (by rfl),z8 (by rfl),za (by rfl)]; exact two [32,42,32] 2 3 (by simp)
  ·rw[z8 (by rfl),z8 (by rfl),z8 (by rfl),za (by rfl)]; exact two [32,47,32] 2 3 (by simp)
theorem gx(e:Expr):Expr.mk (Expr.kind e) ((Expr.num e).1,((Expr.num e).2.1,((Expr.num e).2.2.1,()))) (Expr.name e) (Expr.kids e)=e:=by
 cases e; rfl
mutual
theorem S5:∀ e:Expr,bkE e<=4*szE e
 | .mk k n s l=>by
  have:=LH l
  unfold bkE szE
  omega
theorem LH:∀ l:List Expr,bkEs l<=4*szEs l
 | []=>Nat.le_refl _
 | e::r=>by
  have h1:=S5 e
  have h2:=LH r
  unfold bkEs szEs
  omega
end
def uT(e:Expr):Prop:=szE e<=74000/\vy e<=256/\allOk e
theorem LQ{e:Expr}(h:szE e<=600)(ha:allOk e):uT e:=⟨by omega,by have:=TZ e; omega,ha⟩
theorem z1Q{e:Expr}(h:uT e):bkE e<=296000:=by have:=S5 e; have:=h.1; omega
theorem IW{e:Expr}(h:uT e):vy e<=256:=h.2.1
theorem QS{e:Expr}(h:uT e):(uX e).run=some (uw 0 e):=z7w e h.2.2 (IW h)
theorem rW{e:Expr}(h:uT e):(yQ e).run=some (uw 0 e):=BE e h.2.2 (by have:=z1Q h; omega) (IW h)
theorem La{e:Expr}(h:uT e)(ho:uw 0 e=true):(eU e).run=some (prE e):=by
 unfold eU
 rw[z6 (QS h),ho,z8 (by rfl),z6 (NF e 0 ho h.2.2 (by have:=h.1; omega)),z7]
theorem QW{e:Expr}(h:uT e)(ho:uw 0 e=true):(gB e).run=some (prE e):=by
 unfold gB
 rw[z6 (rW h),ho,z8 (by rfl),z6 (z0m e 1 0 ho h.2.2 (by have:=h.1; omega)),z7]
 have:decide (qE e.kind<1)=false:=by
  unfold qE
  grind
 rw[this]; rfl
theorem cX{e:Expr}(h:uT e)(ho:uw 0 e=true):(prE e).length<=148000000:=by
 have:=iL (vy e) e 0 (Nat.le_refl _) ho h.2.2
 have:=h.1
 omega
structure FS(f:Form):Prop where
 n:f.1.length+f.2.1.length+f.2.2.1.length+f.2.2.2.1.length+f.2.2.2.2.1.length+f.2.2.2.2.2.1.length<=601
 s:∀ x∈f.1,x.1.length<=600
 p:∀ x∈f.2.1,x.1.length<=600/\vK 100 x.2.1
 g:∀ x∈f.2.2.1,x.1.length<=600/\x.2.1.length<=600
 d:∀ x∈f.2.2.2.1,x.1.length<=600
 r:∀ x∈f.2.2.2.2.1,x.1.length<=600/\x.2.2.1.length<=600/\uT x.2.2.2.1/\uT x.2.2.2.2.1
 c:∀ x∈f.2.2.2.2.2.1,x.1.length<=600/\uT x.2.2.2.1/\uT x.2.2.2.2.1
def GD(x:Switch):Bool := !zT x.1
def oH(x:Param):Bool := !zT x.1||(!og x.2.1||cD x.2.1)
def oQ(s:zd):Bool:=zi s []||zT s
def Hp(x:qq):Bool := !zT x.1 || !oQ x.2.1
def K1(n at_:Int)(x:Field):Bool:=decide (x.2.1<at_)||(decide (n<=x.2.1)||(!zT x.1||(decide (x.2.2.2.1<(0:Int))||decide ((9:Int)<x.2.2.2.1))))
def Uk(n at_:Int)(x:Check):Bool:=decide (x.2.1<at_)||(decide (n<=x.2.1)||(!zT x.1||(decide (x.2.2.1<(0:Int))||(decide ((2:Int)<x.2.2.1)||(!uw 0 x.2.2.2.1 || !uw 0 x.2.2.2.2.1)))))
def Z3(x:qk):Bool := !zT x.1||(!oQ x.2.2.1||(decide (x.2.1<(0:Int))||(decide ((3:Int)<x.2.1)||(!uw 0 x.2.2.2.1 || !uw 0 x.2.2.2.2.1))))
def X1{α:Type}(bad:Int->α->Bool)(nx:α->Int):Int->List α->Bool
 | _,[]=>true
 | at_,x::r => !bad at_ x&&X1 bad nx (nx x) r
theorem Fb{α:Type}(bad:Int->α->Bool)(nx:α->Int)(at_:Int)(x:α)(r:List α):X1 bad nx at_ (x::r)=(!bad at_ x&&X1 bad nx (nx x) r):=rfl
def a1(f:Form):Bool := !f.1.any GD
def a2(f:Form):Bool := !f.2.1.any oH
def a3(f:Form):Bool := !f.2.2.1.any Hp
def a4(f:Form):Bool:=X1 (K1 (f.2.2.1.length:Int)) (λx=>x.2.1) 0 f.2.2.2.1
def a5(f:Form):Bool:=X1 (Uk (f.2.2.1.length:Int)) (λx=>x.2.1) 0 f.2.2.2.2.2.1
def a6(f:Form):Bool := !f.2.2.2.2.1.any Z3
theorem Qk{α:Type}(l:List α)(d:α)(bad:α->Bool){r:Int->T (Int⊕(Unit⊕Bool))}
  (step:∀ (k:Nat) (x:α),k<l.length->nth l (k:Int) d=x->x∈l->(r (k:Int)).run=some (if bad x=true then .inr (.inr false)else .inl ((k+1:Nat):Int)))
  (done:(r (l.length:Int)).run=some (.inr (.inl ()))):(T.loop r 0).run=some (if l.any bad=true then .inr false else .inl ()):=by
 refine T.sx (r:=r) l d (λ(_:Unit) i=>i) (λ_ _=>True) (λxs _=>if xs.any bad=true then .inr false else .inl ()) (λk b x xs hk hx hm _ _ => ?_) (λb _ => ?_) (b:=()) trivial
 ·rw[step k x hk hx hm,List.any_cons]
  cases bad x with
  | true=>simp
  | false=>simp
 ·exact done
theorem sC{α:Type}(l:List α)(d:α)(bad:Int->α->Bool)(nx:α->Int){r:Int×Int->T ((Int×Int)⊕(Unit⊕Bool))}
  (hn:∀ at_ x,0<=at_->bad at_ x=false->0<=nx x)
  (step:∀ (k:Nat) (at_:Int) (x:α),k<l.length->nth l (k:Int) d=x->x∈l->0<=at_->(r (at_,(k:Int))).run=some (if bad at_ x=true then .inr (.inr false)else .inl (nx x,((k+1:Nat):Int))))
  (done:∀ at_,(r (at_,(l.length:Int))).run=some (.inr (.inl ()))):(T.loop r (0,0)).run=some (if X1 bad nx 0 l=true then .inl ()else .inr false):=by
 refine T.sx (r:=r) l d (λ(b:Int) i=>(b,i)) (λ_ b=>0<=b) (λxs b=>if X1 bad nx b xs=true then .inl ()else .inr false) (λk b x xs hk hx hm _ h0 => ?_) (λb _ => ?_) (b:=0) (Int.le_refl 0)
 ·rw[step k b x hk hx hm h0]
  rw[Fb]
  grind
 ·exact done b
theorem XY{α:Type}{bad:Int->α->Bool}{nx:α->Int}:∀ {l:List α} {at_:Int},X1 bad nx at_ l=true->∀ x∈l,∃ b,bad b x=false
 | [],_,_,x,hx=>by cases hx
 | y::r,at_,h,x,hx=>by
  unfold X1 at h
  rw[Bool.and_eq_true,Bool.not_eq_true']at h
  rcases List.mem_cons.1 hx with rfl | hx
  ·grind
  ·exact XY h.2 x hx
theorem Nu{α:Type}{x:α}{b c:Bool}{t:T (Bool×α)}(h:t.run=some (c,x)):(T.ite b (.ret (true,x)) t).run=some (b||c,x):=by cases b; exact h; rfl
theorem orB{b c:Bool}{t:T Bool}(h:t.run=some c):(T.ite b (.ret true) t).run=some (b||c):=by cases b; exact h; rfl
theorem pe{α:Type}{x:α}{m:T Bool}{b c:Bool}{t:T (Bool×α)}(hm:m.run=some b)(h:t.run=some (c,x)):(T.bind m λr=>T.ite (!r) (.ret (true,x)) t).run=some (!b||c,x):=by
 rw[z6 hm]; exact Nu h
theorem Wr{m:T Bool}{b c:Bool}{t:T Bool}(hm:m.run=some b)(h:t.run=some c):(T.bind m λr=>T.ite (!r) (.ret true) t).run=some (!b||c):=by
 rw[z6 hm]; exact orB h
theorem z7L{α:Type}{x:α}{m:T Bool}{b:Bool}(hm:m.run=some b):(T.bind m λr=>.ret ((!r),x)).run=some (!b,x):=by
 rw[z6 hm]; rfl
theorem Pm{m:T Bool}{b:Bool}(hm:m.run=some b):(T.bind m λr=>.ret (!r)).run=some (!b):=by
 rw[z6 hm]; rfl
abbrev Ft(a b:Int):Prop:=a<=b
abbrev ilt(a b:Int):Prop:=a<b
abbrev FT:=List Switch×List Param×List Field×List qk×List Check×Unit
def Pf(x:Switch):zd:=[115,119,105,116,99,104,32]++x.1++(bif x.2.1 then[32,111,110,10]else[32,111,102,102,10])
def P8(x:Param):zd:=[112,97,114,97,109,32]++x.1++[32]++lA (norm x.2.1)++[10]
def whS(s:zd):zd:=if s=[]then[]else[32,119,104,101,110,32]++s
def phS(x:qq):zd:=[112,97,103,101,32]++x.1++whS x.2.1++[10]
def fhS(x:Field):zd:=bif x.2.2.1 then[102,105,101,108,100,32]++x.1++[32,109,117,115,116]else[102,105,101,108,100,32]++x.1
def fdS(x:Field):zd:=if(0:Int)<x.2.2.2.1 then fhS x++([32,115,99,97,108,101,32]++nV x.2.2.2.1)++[10]else fhS x++[10]
def Sv(l:Expr)(sign:zd)(r:Expr):zd:=[32,58,32]++prE l++[32]++sign++[32]++prE r++[10]
def cC(n:Int):zd:=if n=1 then[60]else if n=2 then[60,61]else[61]
def lL(n:Int):zd:=if n=0 then[114,101,113,117,105,114,101,100]else if n=1 then[115,116,114,111,110,103]else if n=2 then[109,101,100,105,117,109]else[119,101,97,107]
def ckS(x:Check):zd:=[99,104,101,99,107,32]++x.1++Sv x.2.2.2.1 (cC x.2.2.1) x.2.2.2.2.1
def Ey(x:qk):zd:=[114,117,108,101,32]++lL x.2.1++[32]++x.1++whS x.2.2.1++Sv x.2.2.2.1 [61] x.2.2.2.2.1
def Pe(i:Int)(x:Field):zd:=if(x.2.1==i)=true then fdS x else[]
def ckI(i:Int)(x:Check):zd:=if(x.2.1==i)=true then ckS x else[]
def Nq(f:Form)(i:Nat):zd:=phS (nth f.2.2.1 (i:Int) (zn zO))++f.2.2.2.1.flatMap (Pe i)++f.2.2.2.2.2.1.flatMap (ckI i)
def frS(f:Form):zd:=f.1.flatMap Pf++f.2.1.flatMap P8++(List.range f.2.2.1.length).flatMap (Nq f)++f.2.2.2.2.1.flatMap Ey
structure P7(f:Form):Prop extends FS f where
 d2:∀ x∈f.2.2.2.1,Ft 0 x.2.2.2.1/\Ft x.2.2.2.1 9
 c2:∀ x∈f.2.2.2.2.2.1,Ft 0 x.2.2.1/\Ft x.2.2.1 2/\uw 0 x.2.2.2.1=true/\uw 0 x.2.2.2.2.1=true
 r2:∀ x∈f.2.2.2.2.1,Ft 0 x.2.1/\Ft x.2.1 3/\uw 0 x.2.2.2.1=true/\uw 0 x.2.2.2.2.1=true
theorem Sl{f:Form}(h:FS f)(h4:a4 f=true)(h5:a5 f=true)(h6:a6 f=true):P7 f:=by
 refine { toFS:=h,d2:=λx hx => ?_,c2:=λx hx => ?_,r2:=λx hx => ?_ }
 ·obtain⟨b,hb⟩:=XY h4 x hx
  unfold K1 at hb
  grind
 ·obtain⟨b,hb⟩:=XY h5 x hx
  unfold Uk at hb
  grind
 ·unfold a6 at h6
  rw[Bool.not_eq_true',List.any_eq_false]at h6
  have hb:Z3 x=false:=by simpa using h6 x hx
  unfold Z3 at hb
  grind
theorem Qb(n:Int):(cC n).length<=2:=by unfold cC; split; decide; split<;>decide
theorem Uf(n:Int):(lL n).length<=8:=by unfold lL; split; decide; split; decide; split<;>decide
theorem sz(s:zd):(whS s).length<=s.length+6:=by unfold whS; split<;>simp
theorem VK(x:Switch)(h:x.1.length<=600):(Pf x).length<=300000000:=by
 unfold Pf
 grind
theorem VH(x:Param)(h:x.1.length<=600)(hr:vK 100 x.2.1):(P8 x).length<=300000000:=by
 have:=Za x.2.1 ⟨hr.1,hr.2.1,by have:=hr.2.2.1; omega,by have:=hr.2.2.2; omega⟩
 unfold P8
 grind
theorem Le(x:qq)(h:x.1.length<=600)(h2:x.2.1.length<=600):(phS x).length<=300000000:=by
 have:=sz x.2.1
 unfold phS
 grind
theorem HI(x:Field):(fhS x).length<=x.1.length+11:=by
 unfold fhS
 cases x.2.2.1<;>simp
theorem Hb(x:Field)(h:x.1.length<=600)(h1:Ft 0 x.2.2.2.1)(h2:Ft x.2.2.2.1 9):(fdS x).length<=300000000:=by
 have:=Cg x.2.2.2.1 ⟨by grind,by grind⟩
 have:=HI x
 unfold fdS
 split<;>simp<;>omega
theorem VI{l r:Expr}(s:zd)(hs:s.length<=8)(h1:uT l)(h2:uT r)(o1:uw 0 l=true)(o2:uw 0 r=true):(Sv l s r).length<=297000000:=by
 have:=cX h1 o1
 have:=cX h2 o2
 unfold Sv
 grind
theorem M4(x:Check)(h:x.1.length<=600)(h1:uT x.2.2.2.1)(h2:uT x.2.2.2.2.1)(o1:uw 0 x.2.2.2.1=true)(o2:uw 0 x.2.2.2.2.1=true):(ckS x).length<=300000000:=by
 have:=VI (cC x.2.2.1) (by have:=Qb x.2.2.1; omega) h1 h2 o1 o2
 unfold ckS
 grind
theorem Vu(x:qk)(h:x.1.length<=600)(h':x.2.2.1.length<=600)(h1:uT x.2.2.2.1)(h2:uT x.2.2.2.2.1)(o1:uw 0 x.2.2.2.1=true)(o2:uw 0 x.2.2.2.2.1=true):(Ey x).length<=300000000:=by
 have:=VI [61] (by decide) h1 h2 o1 o2
 have:=Uf x.2.1
 have:=sz x.2.2.1
 unfold Ey
 grind
theorem Q5{f:Form}(h:P7 f)(i:Int):∀ x∈f.2.2.2.1,(Pe i x).length<=300000000:=λx hx=>by
 unfold Pe
 split
 ·exact Hb x (h.d x hx) (h.d2 x hx).1 (h.d2 x hx).2
 ·simp
theorem Bm{f:Form}(h:P7 f)(i:Int):∀ x∈f.2.2.2.2.2.1,(ckI i x).length<=300000000:=λx hx=>by
 unfold ckI
 obtain⟨q1,q2,q3⟩:=h.c x hx
 obtain⟨_,_,o1,o2⟩:=h.c2 x hx
 split
 ·exact M4 x q1 q2 q3 o1 o2
 ·simp
theorem Mt{f:Form}(h:P7 f){i:Nat}(hi:i<f.2.2.1.length):(nth f.2.2.1 (i:Int) (zn zO)).1.length<=600/\(nth f.2.2.1 (i:Int) (zn zO)).2.1.length<=600 :=
 h.g _ (bh (by omega) (by omega))
theorem HG{f:Form}(h:P7 f){i:Nat}(hi:i<f.2.2.1.length):(Nq f i).length<=181000000000:=by
 obtain⟨g1,g2⟩:=Mt h hi
 have h1:=Le _ g1 g2
 have h2:=je (Pe i) f.2.2.2.1 300000000 (Q5 h i)
 have h3:=je (ckI i) f.2.2.2.2.2.1 300000000 (Bm h i)
 have:=h.n
 unfold Nq
 grind
theorem mA{α:Type}(l:List α)(d:α)(C B:Nat)(f:α->zd)(s:zd){r:zd×Int->T ((zd×Int)⊕zd)}
  (step:∀ (k:Nat) (b:zd) (x:α),k<l.length->nth l (k:Int) d=x->x∈l->b.length+C<=B->(r (b,(k:Int))).run=some (.inl (b++f x,((k+1:Nat):Int))))
  (done:∀ b,(r (b,(l.length:Int))).run=some (.inr b)) (hf:∀ x∈l,(f x).length<=C) (hB:s.length+l.length*C<=B):(T.loop r (s,0)).run=some (s++l.flatMap f):=by
 rw[<- Y8]
 refine T.JO (r:=r) l d (λ(b:zd) i=>(b,i)) (λk b=>b.length<=s.length+k*C) (λb x=>b++f x) (λb=>b) (λk b x hk hx hm hI => ?_) (λb hI=>done b) (b:=s) (by omega)
 have h4:=DJ (c:=C) (show k+1<=l.length from hk)
 grind
theorem mC{α:Type}(l:List α)(d:α)(C B:Nat)(f:α->zd)(s:zd){r:Int×Unit×List Int->T ((Int×Unit×List Int)⊕(Unit×List Int))}
  (step:∀ (k:Nat) (b:zd) (x:α),k<l.length->nth l (k:Int) d=x->x∈l->b.length+C<=B->(r ((k:Int),(),bytesOf b)).run=some (.inl (((k+1:Nat):Int),(),bytesOf (b++f x))))
  (done:∀ b,(r ((l.length:Int),(),bytesOf b)).run=some (.inr ((),bytesOf b))) (hf:∀ x∈l,(f x).length<=C) (hB:s.length+l.length*C<=B):(T.loop r (0,(),bytesOf s)).run=some ((),bytesOf (s++l.flatMap f)):=by
 rw[<- Y8]
 refine T.JO (r:=r) l d (λ(b:zd) i=>(i,(),bytesOf b)) (λk b=>b.length<=s.length+k*C) (λb x=>b++f x) (λb=>((),bytesOf b)) (λk b x hk hx hm hI => ?_) (λb hI=>done b) (b:=s) (by omega)
 have h4:=DJ (c:=C) (show k+1<=l.length from hk)
 grind
theorem Kp(l:List Switch)(g:Switch->T Bool)(p:Switch->Bool)(hg:∀ x∈l,(g x).run=some (p x))(hl:l.length<=1000000000):(qU l g).run=some (l.any p):=by
 have key:(jh l g (l.length:Int) 0).run=some (if PL.ZJ p 0 l = -1 then .inl ()else .inr (PL.ZJ p 0 l)):=by
  refine PL.Qz l (zn zu) p (λi h hi hp => ?_) (λi h hi hp => ?_) (λi hi => ?_)
  ·have hm:=bh (d:=zn zu) h hi
   simp(disch:=omega) [qV,hi,hg _ hm,hp]
  ·have hm:=bh (d:=zn zu) h hi
   simp(disch:=omega) [qV,hi,hg _ hm,hp]
  ·simp[qV,hi]
 have hx:(wk l g).run=some (PL.ZJ p 0 l):=by
  unfold wk
  rw[z6 key]
  split<;>rename_i h<;>simp[h]
 unfold qU
 rw[z6 hx,z7,PL.Vs _ _ _ (Int.le_refl 0)]
theorem Hw(l:List Param)(g:Param->T Bool)(p:Param->Bool)(hg:∀ x∈l,(g x).run=some (p x))(hl:l.length<=1000000000):(xi l g).run=some (l.any p):=by
 have key:(jD l g (l.length:Int) 0).run=some (if PL.ZJ p 0 l = -1 then .inl ()else .inr (PL.ZJ p 0 l)):=by
  refine PL.Qz l (zn zD) p (λi h hi hp => ?_) (λi h hi hp => ?_) (λi hi => ?_)
  ·have hm:=bh (d:=zn zD) h hi
   simp(disch:=omega) [xg,hi,hg _ hm,hp]
  ·have hm:=bh (d:=zn zD) h hi
   simp(disch:=omega) [xg,hi,hg _ hm,hp]
  ·simp[xg,hi]
 have hx:(wH l g).run=some (PL.ZJ p 0 l):=by
  unfold wH
  rw[z6 key]
  split<;>rename_i h<;>simp[h]
 unfold xi
 rw[z6 hx,z7,PL.Vs _ _ _ (Int.le_refl 0)]
theorem Dd(l:List qq)(g:qq->T Bool)(p:qq->Bool)(hg:∀ x∈l,(g x).run=some (p x))(hl:l.length<=1000000000):(xr l g).run=some (l.any p):=by
 have key:(jZ l g (l.length:Int) 0).run=some (if PL.ZJ p 0 l = -1 then .inl ()else .inr (PL.ZJ p 0 l)):=by
  refine PL.Qz l (zn zO) p (λi h hi hp => ?_) (λi h hi hp => ?_) (λi hi => ?_)
  ·have hm:=bh (d:=zn zO) h hi
   simp(disch:=omega) [xA,hi,hg _ hm,hp]
  ·have hm:=bh (d:=zn zO) h hi
   simp(disch:=omega) [xA,hi,hg _ hm,hp]
  ·simp[xA,hi]
 have hx:(ve l g).run=some (PL.ZJ p 0 l):=by
  unfold ve
  rw[z6 key]
  split<;>rename_i h<;>simp[h]
 unfold xr
 rw[z6 hx,z7,PL.Vs _ _ _ (Int.le_refl 0)]
theorem DF(l:List qk)(g:qk->T Bool)(p:qk->Bool)(hg:∀ x∈l,(g x).run=some (p x))(hl:l.length<=1000000000):(xv l g).run=some (l.any p):=by
 have key:(kb l g (l.length:Int) 0).run=some (if PL.ZJ p 0 l = -1 then .inl ()else .inr (PL.ZJ p 0 l)):=by
  refine PL.Qz l (zn zY) p (λi h hi hp => ?_) (λi h hi hp => ?_) (λi hi => ?_)
  ·have hm:=bh (d:=zn zY) h hi
   simp(disch:=omega) [xp,hi,hg _ hm,hp]
  ·have hm:=bh (d:=zn zY) h hi
   simp(disch:=omega) [xp,hi,hg _ hm,hp]
  ·simp[xp,hi]
 have hx:(vb l g).run=some (PL.ZJ p 0 l):=by
  unfold vb
  rw[z6 key]
  split<;>rename_i h<;>simp[h]
 unfold xv
 rw[z6 hx,z7,PL.Vs _ _ _ (Int.le_refl 0)]
theorem Jk(s:zd):(kZ s).run=some (oQ s):=by
 unfold kZ oQ
 cases zi s []with
 | true=>rfl
 | false=>rw[zf,z6 (xT s)]; rfl
theorem Nz(f:Form)(h:FS f):(iW f).run=some (a1 f&&(a2 f&&a3 f)):=by
 have hn:=h.n
 have h1:(qU f.1 (λz0=>j9 z0)).run=some (f.1.any GD):=Kp f.1 _ GD (λx _=>by
  exact Pm (xT x.1)) (by omega)
 have h2:(xi f.2.1 (λz0=>j7 z0)).run=some (f.2.1.any oH):=Hw f.2.1 _ oH (λx hx=>by
  have hr:=(h.p x hx).2
  have hr:vK 100000000 x.2.1:=⟨hr.1,hr.2.1,by have:=hr.2.2.1; omega,by have:=hr.2.2.2; omega⟩
  exact Wr (xT x.1) (Wr (ZC _ hr) (by rw[z6 (tC _ hr)]; rfl))) (by omega)
 have h3:(xr f.2.2.1 (λz0=>j5 z0)).run=some (f.2.2.1.any Hp):=Dd f.2.2.1 _ Hp (λx hx=>by
  exact Wr (xT x.1) (Pm (Jk _))) (by omega)
 unfold iW a1 a2 a3
 rw[z6 h1]
 cases f.1.any GD with
 | true=>rfl
 | false =>
  rw[za (by rfl),z6 h2]
  cases f.2.1.any oH with
  | true=>rfl
  | false=>rw[za (by rfl),z6 h3,z7]; rfl
theorem Jo(pg at_ n:Int)(h:0<=at_):(bZ pg at_ n).run=some (!(decide (pg<at_)||decide (n<=pg))):=by
 unfold bZ
 have e1:ng at_ 0=at_:=by unfold ng; split<;>omega
 rw[e1,z7]
 by_cases q1:pg<at_<;>by_cases q2:n<=pg
 ·grind
 ·grind
 ·grind
 ·grind
theorem Xs(f:Form)(h:FS f):(dT f).run=some (a4 f):=by
 have hn:=h.n
 have key:(oc f f.2.2.2.1 (f.2.2.2.1.length:Int) (0,0)).run=some (if a4 f=true then .inl ()else .inr false):=by
  refine sC (r:=jz f f.2.2.2.1 (f.2.2.2.1.length:Int)) f.2.2.2.1 (zn zw) (K1 (f.2.2.1.length:Int)) (λx=>x.2.1) (λat_ x h0 hb => ?_) (λk at_ x hk hx hm h0 => ?_) (λat_ => ?_)
  ·unfold K1 at hb
   grind
  ·unfold jz
   rw[za (vX hk),zb (zH hk),hx]
   refine(z6 (a:=(K1 (f.2.2.1.length:Int) at_ x,x)) ?_ _).trans ?_
   ·refine(pe (xT x.1) (pe (Jo x.2.1 at_ _ h0) (Nu (z7 _)))).trans ?_
    unfold K1
    grind
   ·dsimp only
    cases K1 (f.2.2.1.length:Int) at_ x with
    | true=>rfl
    | false=>rw[zf,z7,fx k _ hk (by omega)]; rfl
  ·unfold jz
   simp
 unfold dT
 rw[z6 key]
 cases a4 f<;>rfl
theorem Rd(x:qk)(h1:uT x.2.2.2.1)(h2:uT x.2.2.2.2.1):(vH x).run=some (Z3 x):=by
 have e:(T.bind (wA) λr2=>T.ite (decide ((Nat.cast (List.length r2):Int)<=x.2.1)) (.ret true) (T.bind (kZ x.2.2.1) λr3=>T.ite (!r3) (.ret true) (T.bind (uX x.2.2.2.1) λr4=>T.ite (!r4) (.ret true) (T.bind (uX x.2.2.2.2.1) λr5=>.ret (!r5))))).run
   = some (decide ((4:Int)<=x.2.1)||(!oQ x.2.2.1||(!uw 0 x.2.2.2.1 || !uw 0 x.2.2.2.2.1))):=by
  exact orB (Wr (Jk _) (Wr (QS h1) (Pm (QS h2))))
 refine(Wr (xT x.1) (orB e)).trans ?_
 unfold Z3
 grind
theorem XG(f:Form)(h:FS f):(dP f).run=some (a5 f&&a6 f):=by
 have hn:=h.n
 have key:(o9 f f.2.2.2.2.2.1 (f.2.2.2.2.2.1.length:Int) (0,0)).run=some (if a5 f=true then .inl ()else .inr false):=by
  refine sC (r:=jx f f.2.2.2.2.2.1 (f.2.2.2.2.2.1.length:Int)) f.2.2.2.2.2.1 (zn zF) (Uk (f.2.2.1.length:Int)) (λx=>x.2.1) (λat_ x h0 hb => ?_) (λk at_ x hk hx hm h0 => ?_) (λat_ => ?_)
  ·unfold Uk at hb
   grind
  ·obtain⟨_,x1,x2⟩:=h.c x hm
   unfold jx
   dsimp only
   rw[za (vX hk),zb (zH hk),hx]
   simp only[gx]
   refine(z6 (a:=(Uk (f.2.2.1.length:Int) at_ x,x)) ?_ _).trans ?_
   ·have e:(T.bind (vq) λr2=>T.ite (decide ((Nat.cast (List.length r2):Int)<=x.2.2.1)) (.ret (true,x)) (T.bind (uX x.2.2.2.1) λr3=>T.ite (!r3) (.ret (true,x)) (T.bind (uX x.2.2.2.2.1) λr4=>.ret ((!r4),x)))).run
      = some (decide ((3:Int)<=x.2.2.1)||(!uw 0 x.2.2.2.1 || !uw 0 x.2.2.2.2.1),x):=by
     unfold vq
     exact Nu (pe (QS x1) (z7L (QS x2)))
    refine(pe (xT x.1) (pe (Jo x.2.1 at_ _ h0) (Nu e))).trans ?_
    unfold Uk
    grind
   ·dsimp only
    cases Uk (f.2.2.1.length:Int) at_ x with
    | true=>rfl
    | false=>rw[zf,z7,fx k _ hk (by omega)]; rfl
  ·unfold jx
   simp
 have h3:(xv f.2.2.2.2.1 (λz0=>vH z0)).run=some (f.2.2.2.2.1.any Z3):=DF f.2.2.2.2.1 _ Z3 (λx hx=>by
  obtain⟨_,_,x1,x2⟩:=h.r x hx
  exact Rd x x1 x2) (by omega)
 unfold dP
 rw[z6 key]
 cases a5 f with
 | false=>rfl
 | true =>
  rw[if_pos rfl,Sum.elim_inl,z6 h3,z7]
  rfl
theorem VU(s:zd)(h:s.length<=600):(fU s).run=some (whS s):=by
 unfold fU whS
 cases s with
 | nil=>rfl
 | cons b r=>rw[z8 (by rfl),zr _ (by simp at *; omega),z7,if_neg (by simp)]; rfl
theorem No(x:Field)(h:x.1.length<=600)(h1:Ft 0 x.2.2.2.1)(h2:Ft x.2.2.2.1 9):(iN x).run=some (fdS x):=by
 have hi:=Ti x.2.2.2.1 ⟨by grind,by grind⟩
 have hl:=Cg x.2.2.2.1 ⟨by grind,by grind⟩
 obtain⟨nm,pg,mu,sc,u⟩:=x
 have h:nm.length<=600:=h
 dsimp only at hi hl
 unfold iN fdS
 have e:(bif mu then(cat (cat ([102,105,101,108,100,32]:zd) nm) ([32,109,117,115,116]:zd))else(cat ([102,105,101,108,100,32]:zd) nm))=fhS (nm,pg,mu,sc,u):=rfl
 have hf:(fhS (nm,pg,mu,sc,u)).length<=nm.length+11:=HI _
 rw[zr _ (by grind),zb (λ_=>by simp[qe]; omega),e]
 by_cases hs:ilt 0 sc
 ·rw[za (decide_eq_true hs),z6 hi,zr _ (by grind),zr _ (by simp[qe]; omega),zr _ (by simp[qe]; omega),z7,if_pos hs]
  rfl
 ·rw[z8 (decide_eq_false hs),zr _ (by grind),z7,if_neg hs]
  rfl
theorem Yx(l r:Expr)(s:zd)(hs:s.length<=8)(h1:uT l)(h2:uT r)(o1:uw 0 l=true)(o2:uw 0 r=true):(dx l s r).run=some (Sv l s r):=by
 have l1:=cX h1 o1
 have l2:=cX h2 o2
 unfold dx
 rw[z6 (La h1 o1)]
 rw[zr _ (by grind),zr _ (by simp[qe]; omega),zr _ (by simp[qe]; omega),zr _ (by simp[qe]; omega)]
 rw[z6 (La h2 o2)]
 rw[zr _ (by simp[qe]; omega),zr _ (by simp[qe]; omega),z7]
 rfl
theorem z2O(n:Int)(h:0<=n)(h2:n<=2):nth ([([61]:zd),([60]:zd),([60,61]:zd)]:List zd) n (zn .str)=cC n:=by
 have:n=0\/n=1\/n=2:=by omega
 rcases this with rfl | rfl | rfl<;>rfl
theorem z1R(n:Int)(h:0<=n)(h2:n<=3):nth ([([114,101,113,117,105,114,101,100]:zd),([115,116,114,111,110,103]:zd),([109,101,100,105,117,109]:zd),([119,101,97,107]:zd)]:List zd) n (zn .str)=lL n:=by
 have:n=0\/n=1\/n=2\/n=3:=by omega
 rcases this with rfl | rfl | rfl | rfl<;>rfl
theorem T5(f:Form)(h:P7 f)(i:Nat)(hi:i<f.2.2.1.length)(b:zd)(hb:b.length<=110000000000000):(en f (i:Int) () (bytesOf b)).run=some ((),bytesOf (b++Nq f i)):=by
 have hn:=h.n
 obtain⟨g1,g2⟩:=Mt h hi
 have hp:=Le _ g1 g2
 have hw:=sz (nth f.2.2.1 (i:Int) (zn zO)).2.1
 have k1:∀ s:zd,s.length<=115000000000000->(o0 (i:Int) f f.2.2.2.1 (f.2.2.2.1.length:Int) (0,(),bytesOf s)).run=some ((),bytesOf (s++f.2.2.2.1.flatMap (Pe i))):=λs hs=>by
  refine mC (r:=jy (i:Int) f f.2.2.2.1 (f.2.2.2.1.length:Int)) f.2.2.2.1 (zn zw) 300000000 120000000000000 (Pe i) s (λk b x hk hx hm hb => ?_) (λb => ?_) (Q5 h i) (by omega)
  ·unfold jy Pe
   dsimp only
   rw[za (vX hk),zb (zH hk),hx]
   cases hc:x.2.1==(i:Int)with
   | true =>
    have fl:=Hb x (h.d x hm) (h.d2 x hm).1 (h.d2 x hm).2
    rw[zk,z6 (No x (h.d x hm) (h.d2 x hm).1 (h.d2 x hm).2),q8 _ rfl rfl rfl,T.zg,z6 (uy (fdS x) b (by omega))]
    dsimp only
    rw[q8 _ rfl rfl rfl,T.zg,z7,fx k _ hk (by omega),if_pos rfl]
   | false =>
    rw[zf,q8 _ rfl rfl rfl,T.zg,z7,fx k _ hk (by omega),if_neg (by decide),List.append_nil]
  ·unfold jy
   simp
 have k2:∀ s:zd,s.length<=120000000000000->(o6 (i:Int) f.2.2.2.2.2.1 (f.2.2.2.2.2.1.length:Int) (0,(),bytesOf s)).run=some ((),bytesOf (s++f.2.2.2.2.2.1.flatMap (ckI i))):=λs hs=>by
  refine mC (r:=jA (i:Int) f.2.2.2.2.2.1 (f.2.2.2.2.2.1.length:Int)) f.2.2.2.2.2.1 (zn zF) 300000000 130000000000000 (ckI i) s (λk b x hk hx hm hb => ?_) (λb => ?_) (Bm h i) (by omega)
  ·unfold jA ckI
   dsimp only
   rw[za (vX hk),zb (zH hk),hx]
   cases hc:x.2.1==(i:Int)with
   | true =>
    obtain⟨q1,q2,q3⟩:=h.c x hm
    obtain⟨c1,c2,o1,o2⟩:=h.c2 x hm
    have cl:=M4 x q1 q2 q3 o1 o2
    have hs:=Yx x.2.2.2.1 x.2.2.2.2.1 (cC x.2.2.1) (by have:=Qb x.2.2.1; omega) q2 q3 o1 o2
    have sl:=VI (cC x.2.2.1) (by have:=Qb x.2.2.1; omega) q2 q3 o1 o2
    unfold vq
    rw[zk,zr _ (by simp only[List.length_cons,List.length_nil]; omega)]
    simp only[T.bind,gx]
    have c3:x.2.2.1<((3:Nat):Int):=Int.lt_of_le_of_lt c2 (by decide)
    rw[zb ⟨c1,c3⟩,z2O _ c1 c2,z6 hs,zr _ (by simp only[qe,List.length_cons,List.length_nil]; omega),q8 _ rfl rfl rfl,zb rfl]
    have e:cat (cat ([99,104,101,99,107,32]:zd) x.1) (Sv x.2.2.2.1 (cC x.2.2.1) x.2.2.2.2.1)=ckS x:=rfl
    rw[e,z6 (uy (ckS x) b (by omega))]
    dsimp only
    rw[q8 _ rfl rfl rfl,zb rfl,z7,fx k _ hk (by omega),if_pos trivial]
   | false =>
    rw[zf,q8 _ rfl rfl rfl,T.zg,z7,fx k _ hk (by omega),if_neg (by decide),List.append_nil]
  ·unfold jA
   dsimp only
   rw[z8 (oz _),q8 _ rfl rfl rfl,T.zg,z7]
 have l2:=je (Pe i) f.2.2.2.1 300000000 (Q5 h i)
 unfold en
 rw[zb (zH hi),zr _ (by simp only[List.length_cons,List.length_nil]; omega),zb (zH hi),z6 (VU _ g2),zr _ (by simp only[qe,List.length_cons,List.length_nil]; omega),zr _ (by simp only[qe,List.length_cons,List.length_nil]; omega),q8 _ rfl rfl rfl,T.zg]
 have e:cat (cat (cat ([112,97,103,101,32]:zd) (nth f.2.2.1 (i:Int) (zn zO)).1) (whS (nth f.2.2.1 (i:Int) (zn zO)).2.1)) ([10]:zd)=phS (nth f.2.2.1 (i:Int) (zn zO)):=rfl
 rw[e,z6 (uy _ b (by omega))]
 dsimp only
 rw[q8 _ rfl rfl rfl,T.zg,z6 (k1 _ (by rw[List.length_append]; omega))]
 dsimp only
 rw[q8 _ rfl rfl rfl,T.zg,z6 (k2 _ (by rw[List.length_append,List.length_append]; omega))]
 dsimp only
 rw[q8 _ rfl rfl rfl,T.zg,z7]
 unfold Nq
 simp only[List.append_assoc]
theorem Y5(n k:Nat)(h:k<n):nth (List.range n) (k:Int) 0=k:=by
 rw[bC (by grind),List.getElem_range]
theorem CP{f:Form}(h:P7 f):(f.1.flatMap Pf).length<=f.1.length*300000000:=je Pf f.1 300000000 λx hx=>VK x (h.s x hx)
theorem Cf{f:Form}(h:P7 f):(f.2.1.flatMap P8).length<=f.2.1.length*300000000:=je P8 f.2.1 300000000 λx hx=>VH x (h.p x hx).1 (h.p x hx).2
theorem DL{f:Form}(h:P7 f):((List.range f.2.2.1.length).flatMap (Nq f)).length<=f.2.2.1.length*181000000000:=by
 have:=je (Nq f) (List.range f.2.2.1.length) 181000000000 (λx hx=>HG h (List.mem_range.1 hx))
 grind
theorem CM{f:Form}(h:P7 f):(f.2.2.2.2.1.flatMap Ey).length<=f.2.2.2.2.1.length*300000000:=je Ey f.2.2.2.2.1 300000000 λx hx=>by
 obtain⟨q1,q2,q3,q4⟩:=h.r x hx
 obtain⟨_,_,o1,o2⟩:=h.r2 x hx
 exact Vu x q1 q2 q3 q4 o1 o2
theorem od(f:Form)(h:P7 f):(cZ f).run=some (frS f):=by
 have hn:=h.n
 have m1:=CP h
 have m2:=Cf h
 have m3:=DL h
 have m4:=CM h
 have k1:(rQ f f.1 (f.1.length:Int) (0,(),bytesOf [])).run=some ((),bytesOf ([]++f.1.flatMap Pf)):=by
  refine mC (r:=kC f f.1 (f.1.length:Int)) f.1 (zn zu) 300000000 110000000000000 Pf [] (λk b x hk hx hm hb => ?_) (λb => ?_) (λx hx=>VK x (h.s x hx)) (by simp only[List.length_nil]; omega)
  ·have q:=h.s x hm
   have sl:=VK x q
   have bl:(bif x.2.1 then([32,111,110,10]:zd)else[32,111,102,102,10]).length<=5:=by cases x.2.1<;>decide
   unfold kC
   dsimp only
   rw[za (vX hk),zb (zH hk),hx,zr _ (by simp only[List.length_cons,List.length_nil]; omega),zr _ (by simp only[qe,List.length_cons,List.length_nil]; omega),q8 _ rfl rfl rfl,T.zg]
   have e:cat (cat ([115,119,105,116,99,104,32]:zd) x.1) (bif x.2.1 then([32,111,110,10]:zd)else([32,111,102,102,10]:zd))=Pf x:=rfl
   rw[e,z6 (uy (Pf x) b (by omega))]
   dsimp only
   rw[q8 _ rfl rfl rfl,T.zg,z7,fx k _ hk (by omega)]
  ·unfold kC
   simp
 have k2:∀ s:zd,s.length<=190000000000->(rP f f.2.1 (f.2.1.length:Int) (0,(),bytesOf s)).run=some ((),bytesOf (s++f.2.1.flatMap P8)):=λs hs=>by
  refine mC (r:=kJ f f.2.1 (f.2.1.length:Int)) f.2.1 (zn zD) 300000000 110000000000000 P8 s (λk b x hk hx hm hb => ?_) (λb => ?_) (λx hx=>VH x (h.p x hx).1 (h.p x hx).2) (by omega)
  ·obtain⟨q,hr⟩:=h.p x hm
   have hr:vK 1000 x.2.1:=⟨hr.1,hr.2.1,by have:=hr.2.2.1; omega,by have:=hr.2.2.2; omega⟩
   have sl:=VH x q (h.p x hm).2
   have hd:(lM (x.2.1.1,(x.2.1.2.1,(x.2.1.2.2.1,())))).run=some (lA (norm x.2.1)):=KX x.2.1 hr
   have pl:=Za _ hr
   unfold kJ
   dsimp only
   rw[za (vX hk),zb (zH hk),hx,zr _ (by simp only[List.length_cons,List.length_nil]; omega),zr _ (by simp only[qe,List.length_cons,List.length_nil]; omega),z6 hd,zr _ (by simp only[qe,List.length_cons,List.length_nil]; omega),zr _ (by simp only[qe,List.length_cons,List.length_nil]; omega),q8 _ rfl rfl rfl,T.zg]
   have e:cat (cat (cat (cat ([112,97,114,97,109,32]:zd) x.1) ([32]:zd)) (lA (norm x.2.1))) ([10]:zd)=P8 x:=rfl
   rw[e,z6 (uy (P8 x) b (by omega))]
   dsimp only
   rw[q8 _ rfl rfl rfl,T.zg,z7,fx k _ hk (by omega)]
  ·unfold kJ
   simp
 have k3:∀ s:zd,s.length<=380000000000->(rS f (f.2.2.1.length:Int) (0,(),bytesOf s)).run=some ((),bytesOf (s++(List.range f.2.2.1.length).flatMap (Nq f))):=λs hs=>by
  refine mC (r:=kv f (f.2.2.1.length:Int)) (List.range f.2.2.1.length) 0 181000000000 110000000000000 (Nq f) s (λk b x hk hx hm hb => ?_) (λb => ?_) (λx hx=>HG h (List.mem_range.1 hx)) (by rw[List.length_range]; omega)
  ·rw[List.length_range]at hk
   rw[Y5 _ _ hk]at hx
   subst hx
   unfold kv
   dsimp only
   rw[za (vX hk),q8 _ rfl rfl rfl,T.zg,z6 (T5 f h k hk b (by omega))]
   dsimp only
   rw[q8 _ rfl rfl rfl,T.zg,z7,fx k _ hk (by omega)]
  ·unfold kv
   dsimp only
   rw[List.length_range,z8 (oz _),q8 _ rfl rfl rfl,T.zg,z7]
 have k4:∀ s:zd,s.length<=109000000000000->(rN f.2.2.2.2.1 (f.2.2.2.2.1.length:Int) (0,(),bytesOf s)).run=some ((),bytesOf (s++f.2.2.2.2.1.flatMap Ey)):=λs hs=>by
  refine mC (r:=kL f.2.2.2.2.1 (f.2.2.2.2.1.length:Int)) f.2.2.2.2.1 (zn zY) 300000000 110000000000000 Ey s (λk b x hk hx hm hb => ?_) (λb => ?_) (λx hx=>by
   obtain⟨q1,q2,q3,q4⟩:=h.r x hx
   obtain⟨_,_,o1,o2⟩:=h.r2 x hx
   exact Vu x q1 q2 q3 q4 o1 o2) (by omega)
  ·obtain⟨q1,q2,q3,q4⟩:=h.r x hm
   obtain⟨c1,c2,o1,o2⟩:=h.r2 x hm
   have rl:=Vu x q1 q2 q3 q4 o1 o2
   have hs:=Yx x.2.2.2.1 x.2.2.2.2.1 [61] (by decide) q3 q4 o1 o2
   have sl:=VI [61] (by decide) q3 q4 o1 o2
   have tl:=Uf x.2.1
   have wl:=sz x.2.2.1
   have c3:x.2.1<((4:Nat):Int):=Int.lt_of_le_of_lt c2 (by decide)
   unfold kL wA
   dsimp only
   rw[za (vX hk),zb (zH hk),hx]
   simp only[T.bind,gx]
   rw[zb ⟨c1,c3⟩,z1R _ c1 c2,zr _ (by simp only[List.length_cons,List.length_nil]; omega),zr _ (by simp only[qe,List.length_cons,List.length_nil]; omega),zr _ (by simp only[qe,List.length_cons,List.length_nil]; omega),z6 (VU _ q2),
    zr _ (by simp only[qe,List.length_cons,List.length_nil]; omega),z6 hs,zr _ (by simp only[qe,List.length_cons,List.length_nil]; omega),q8 _ rfl rfl rfl,zb rfl]
   have e:cat (cat (cat (cat (cat ([114,117,108,101,32]:zd) (lL x.2.1)) ([32]:zd)) x.1) (whS x.2.2.1)) (Sv x.2.2.2.1 [61] x.2.2.2.2.1)=Ey x:=rfl
   rw[e,z6 (uy (Ey x) b (by omega))]
   dsimp only
   rw[q8 _ rfl rfl rfl,zb rfl,z7,fx k _ hk (by omega)]
  ·unfold kL
   dsimp only
   rw[z8 (oz _),q8 _ rfl rfl rfl,T.zg,z7]
 unfold cZ
 rw[q8 _ rfl rfl rfl,T.zg]
 refine(z6 k1 _).trans ?_
 dsimp only
 rw[List.nil_append,q8 _ rfl rfl rfl,T.zg,z6 (k2 _ (by omega))]
 dsimp only
 rw[q8 _ rfl rfl rfl,T.zg,z6 (k3 _ (by rw[List.length_append]; omega))]
 dsimp only
 rw[q8 _ rfl rfl rfl,T.zg,z6 (k4 _ (by simp only[List.length_append]; omega))]
 dsimp only
 rw[q8 _ rfl rfl rfl,T.zg,z6 (KA _ (by simp only[List.length_append]; omega))]
 rfl
def Vk(f:Form):Bool:=a1 f&&(a2 f&&(a3 f&&(a4 f&&(a5 f&&(a6 f&&decide (((frS f).length:Int)<=16384))))))
theorem X7(f:Form)(h:FS f):(mv f).run=some (Vk f):=by
 unfold mv Vk
 rw[z6 (Nz f h)]
 cases a1 f with
 | false=>rfl
 | true =>
 cases a2 f with
 | false=>rfl
 | true =>
 cases a3 f with
 | false=>rfl
 | true =>
 rw[za (by rfl),z6 (Xs f h)]
 cases h4:a4 f with
 | false=>rfl
 | true =>
 rw[za (by rfl),z6 (XG f h)]
 cases h5:a5 f with
 | false=>rfl
 | true =>
 cases h6:a6 f with
 | false=>rfl
 | true =>
 rw[za (by rfl),z6 (od f (Sl h h4 h5 h6)),z7]
 rfl
theorem z6l{r:Rat}(hr:vK 100 r):vK 100000000 r:=⟨hr.1,hr.2.1,by have:=hr.2.2.1; omega,by have:=hr.2.2.2; omega⟩
theorem z1a{r:Rat}(hr:vK 100 r):vK 1000 r:=⟨hr.1,hr.2.1,by have:=hr.2.2.1; omega,by have:=hr.2.2.2; omega⟩
theorem YF(s:zd):(fM s).run=some (oQ s):=by
 unfold fM oQ
 cases zi s []with
 | true=>rfl
 | false=>rw[zf,z6 (qA s)]; rfl
theorem JJ(f:Form)(h:FS f):(nH f).run=some (a4 f&&a5 f):=by
 have hn:=h.n
 have k1:(tJ f (0,0)).run=some (if a4 f=true then .inl ()else .inr false):=by
  refine sC (r:=yJ f) f.2.2.2.1 (zn zw) (K1 (f.2.2.1.length:Int)) (λx=>x.2.1) (λat_ x h0 hb => ?_) (λk at_ x hk hx hm h0 => ?_) (λat_ => ?_)
  ·unfold K1 at hb
   grind
  ·unfold yJ
   dsimp only
   rw[za (vX hk),zb (zH hk),hx]
   refine(z6 (a:=(K1 (f.2.2.1.length:Int) at_ x,x)) ?_ _).trans ?_
   ·exact Nu (Nu (pe (qA x.1) (Nu (z7 _))))
   ·dsimp only
    cases K1 (f.2.2.1.length:Int) at_ x with
    | true=>rfl
    | false=>rw[zf,z7,fx k _ hk (by omega)]; rfl
  ·unfold yJ
   simp
 have k2:(tQ f (0,0)).run=some (if a5 f=true then .inl ()else .inr false):=by
  refine sC (r:=yC f) f.2.2.2.2.2.1 (zn zF) (Uk (f.2.2.1.length:Int)) (λx=>x.2.1) (λat_ x h0 hb => ?_) (λk at_ x hk hx hm h0 => ?_) (λat_ => ?_)
  ·unfold Uk at hb
   grind
  ·obtain⟨_,x1,x2⟩:=h.c x hm
   unfold yC
   rw[za (vX hk),zb (zH hk),hx]
   simp only[gx]
   refine(z6 (a:=(Uk (f.2.2.1.length:Int) at_ x,x)) ?_ _).trans ?_
   ·exact Nu (Nu (pe (qA x.1) (Nu (Nu (pe (rW x1) (z7L (rW x2)))))))
   ·dsimp only
    cases Uk (f.2.2.1.length:Int) at_ x with
    | true=>rfl
    | false=>rw[zf,z7,fx k _ hk (by omega)]; rfl
  ·unfold yC
   simp
 unfold nH
 rw[z6 k1]
 cases a4 f with
 | false=>rfl
 | true =>
  rw[if_pos rfl,Sum.elim_inl,z6 k2]
  cases a5 f<;>rfl
theorem tx(s:zd)(h:s.length<=600):(sq s).run=some (whS s):=VU s h
theorem Ep(n:Int)(h1:1<=n)(h2:n<=9):qO [Gd (zI (48+n))]=nV n:=by
 have:n=1\/n=2\/n=3\/n=4\/n=5\/n=6\/n=7\/n=8\/n=9:=by omega
 have e:∀ k:Nat,k<10->nV (k:Int)=[UInt8.ofNat (48+k)]:=λk hk=>by
  unfold nV
  rw[if_neg (by omega),Int.toNat_natCast,AM.UI,dif_pos hk]
 rcases this with rfl | rfl | rfl | rfl | rfl | rfl | rfl | rfl | rfl
 ·exact(e 1 (by decide)).symm
 ·exact(e 2 (by decide)).symm
 ·exact(e 3 (by decide)).symm
 ·exact(e 4 (by decide)).symm
 ·exact(e 5 (by decide)).symm
 ·exact(e 6 (by decide)).symm
 ·exact(e 7 (by decide)).symm
 ·exact(e 8 (by decide)).symm
 ·exact(e 9 (by decide)).symm
theorem UX(x:Field)(h:x.1.length<=600)(h1:Ft 0 x.2.2.2.1)(h2:Ft x.2.2.2.1 9):(n9 x).run=some (fdS x):=by
 have hi:=λh0:Ft 1 x.2.2.2.1=>Ep x.2.2.2.1 h0 h2
 have hb:(qO ([(Gd (zI ((48:Int)+x.2.2.2.1)))]:List Int)).length=1:=rfl
 have hz:¬ ilt 0 x.2.2.2.1->x.2.2.2.1=(0:Int):=λq=>Int.le_antisymm (Int.not_lt.1 q) h1
 have ho:ilt 0 x.2.2.2.1->Ft 1 x.2.2.2.1:=λq=>by unfold Ft ilt at *; omega
 have hf:(fhS x).length<=x.1.length+11:=HI _
 unfold n9 fdS
 have e:(bif x.2.2.1 then(cat (cat ([102,105,101,108,100,32]:zd) x.1) ([32,109,117,115,116]:zd))else(cat ([102,105,101,108,100,32]:zd) x.1))=fhS x:=rfl
 rw[zr _ (by grind),zb (λ_=>by simp[qe]; omega),e]
 by_cases hs:ilt 0 x.2.2.2.1
 ·have uh:(x.2.2.2.1 != (0:Int))=true:=by
   grind
  rw[za uh,zr _ (by grind),zr _ (by simp[qe]; omega),zr _ (by simp[qe]; omega),z7,if_pos hs,hi (ho hs)]
  simp[kz]
 ·have uh:(x.2.2.2.1 != (0:Int))=false:=by rw[hz hs]; rfl
  rw[z8 uh,zr _ (by grind),z7,if_neg hs]
  rfl
theorem z3E(n:Int):(ZS n).run=some (cC n):=by
 unfold ZS cC
 by_cases h1:n=1
 ·rw[if_pos h1,za (by grind),z7]
 ·rw[if_neg h1,z8 (by grind)]
  by_cases h2:n=2
  ·rw[if_pos h2,za (by grind),z7]
  ·rw[if_neg h2,z8 (by grind),z7]
theorem Qe(n:Int):(yK n).run=some (lL n):=by
 unfold yK lL
 by_cases h0:n=0
 ·rw[if_pos h0,za (by grind),z7]
 ·rw[if_neg h0,z8 (by grind)]
  by_cases h1:n=1
  ·rw[if_pos h1,za (by grind),z7]
  ·rw[if_neg h1,z8 (by grind)]
   by_cases h2:n=2
   ·rw[if_pos h2,za (by grind),z7]
   ·rw[if_neg h2,z8 (by grind),z7]
theorem Kx(f:Form)(h:P7 f):(sI f).run=some (frS f):=by
 have hn:=h.n
 have m1:=CP h
 have m2:=Cf h
 have m3:=DL h
 have m4:=CM h
 have k1:(Qf f ([],0)).run=some ([]++f.1.flatMap Pf):=by
  refine mA (r:=bK f) f.1 (zn zu) 300000000 110000000000000 Pf [] (λk b x hk hx hm hb => ?_) (λb => ?_) (λx hx=>VK x (h.s x hx)) (by simp only[List.length_nil]; omega)
  ·have q:=h.s x hm
   have bl:(bif x.2.1 then([32,111,110,10]:zd)else[32,111,102,102,10]).length<=5:=by cases x.2.1<;>decide
   unfold bK
   dsimp only
   rw[hx,za (vX hk),zb (zH hk),zr _ (by simp only[qe,List.length_cons,List.length_nil]; omega),zb (zH hk),zr _ (by simp only[qe,List.length_cons,List.length_nil]; omega),zr _ (by simp only[qe,List.length_cons,List.length_nil]; omega),z7,fx k _ hk (by omega)]
   unfold Pf
   simp only[kz,List.append_assoc]
  ·unfold bK
   simp
 have k2:∀ s:zd,s.length<=190000000000->(QT f (s,0)).run=some (s++f.2.1.flatMap P8):=λs hs=>by
  refine mA (r:=bY f) f.2.1 (zn zD) 300000000 110000000000000 P8 s (λk b x hk hx hm hb => ?_) (λb => ?_) (λx hx=>VH x (h.p x hx).1 (h.p x hx).2) (by omega)
  ·obtain⟨q,hr⟩:=h.p x hm
   have hr:=z1a hr
   have pl:=Za _ hr
   unfold bY
   dsimp only
   rw[hx,za (vX hk),zr _ (by simp only[qe,List.length_cons,List.length_nil]; omega),zb (zH hk),zr _ (by simp only[qe,List.length_cons,List.length_nil]; omega),zr _ (by simp only[qe,List.length_cons,List.length_nil]; omega),zb (zH hk),z6 (VV _ hr),
    zr _ (by simp only[qe,List.length_cons,List.length_nil]; omega),zr _ (by simp only[qe,List.length_cons,List.length_nil]; omega),z7,fx k _ hk (by omega)]
   unfold P8
   simp only[kz,List.append_assoc]
  ·unfold bY
   simp
 have j1:∀ (i:Nat) (s:zd),s.length<=115000000000000->(Xd f (i:Int) (s,0)).run=some (s++f.2.2.2.1.flatMap (Pe i)):=λi s hs=>by
  refine mA (r:=ba f (i:Int)) f.2.2.2.1 (zn zw) 300000000 120000000000000 (Pe i) s (λk b x hk hx hm hb => ?_) (λb => ?_) (Q5 h i) (by omega)
  ·unfold ba Pe
   dsimp only
   rw[hx,za (vX hk),zb (zH hk)]
   cases hc:x.2.1==(i:Int)with
   | true =>
    have fl:=Hb x (h.d x hm) (h.d2 x hm).1 (h.d2 x hm).2
    rw[zk,zb (zH hk),z6 (UX x (h.d x hm) (h.d2 x hm).1 (h.d2 x hm).2),zr _ (by omega),z7,fx k _ hk (by omega),if_pos rfl,kz]
   | false=>rw[zf,z7,fx k _ hk (by omega),if_neg (by decide),List.append_nil]
  ·unfold ba
   simp
 have j2:∀ (i:Nat) (s:zd),s.length<=120000000000000->(ZP f (i:Int) (s,0)).run=some (s++f.2.2.2.2.2.1.flatMap (ckI i)):=λi s hs=>by
  refine mA (r:=bw f (i:Int)) f.2.2.2.2.2.1 (zn zF) 300000000 130000000000000 (ckI i) s (λk b x hk hx hm hb => ?_) (λb => ?_) (Bm h i) (by omega)
  ·unfold bw ckI
   dsimp only
   rw[hx,za (vX hk),zb (zH hk)]
   simp only[gx]
   cases hc:x.2.1==(i:Int)with
   | true =>
    obtain⟨q1,q2,q3⟩:=h.c x hm
    obtain⟨c1,c2,o1,o2⟩:=h.c2 x hm
    have p1:=cX q2 o1
    have p2:=cX q3 o2
    have cl:=Qb x.2.2.1
    rw[zk,zr _ (by simp only[qe,List.length_cons,List.length_nil]; omega),zr _ (by simp only[qe,List.length_cons,List.length_nil]; omega),zr _ (by simp only[qe,List.length_cons,List.length_nil]; omega),z6 (QW q2 o1),
     zr _ (by simp only[qe,List.length_cons,List.length_nil]; omega),zr _ (by simp only[qe,List.length_cons,List.length_nil]; omega),z6 (z3E _),zr _ (by simp only[qe,List.length_cons,List.length_nil]; omega),zr _ (by simp only[qe,List.length_cons,List.length_nil]; omega),
     z6 (QW q3 o2),zr _ (by simp only[qe,List.length_cons,List.length_nil]; omega),zr _ (by simp only[qe,List.length_cons,List.length_nil]; omega),z7,fx k _ hk (by omega),if_pos rfl]
    unfold ckS Sv
    simp only[kz,List.append_assoc]
   | false=>rw[zf,z7,fx k _ hk (by omega),if_neg (by decide),List.append_nil]
  ·unfold bw
   dsimp only
   rw[z8 (oz _),z7]
 have k3:∀ s:zd,s.length<=380000000000->(QQ f (s,0)).run=some (s++(List.range f.2.2.1.length).flatMap (Nq f)):=λs hs=>by
  refine mA (r:=br f) (List.range f.2.2.1.length) 0 181000000000 110000000000000 (Nq f) s (λk b x hk hx hm hb => ?_) (λb => ?_) (λx hx=>HG h (List.mem_range.1 hx)) (by rw[List.length_range]; omega)
  ·rw[List.length_range]at hk
   rw[Y5 _ _ hk]at hx
   subst hx
   obtain⟨g1,g2⟩:=Mt h hk
   have hw:=sz (nth f.2.2.1 (k:Int) (zn zO)).2.1
   have fl:=je (Pe k) f.2.2.2.1 300000000 (Q5 h k)
   unfold br
   dsimp only
   rw[za (vX hk),zr _ (by simp only[qe,List.length_cons,List.length_nil]; omega),zb (zH hk),zr _ (by simp only[qe,List.length_cons,List.length_nil]; omega),zb (zH hk),z6 (tx _ g2),zr _ (by simp only[qe,List.length_cons,List.length_nil]; omega),zr _ (by simp only[qe,List.length_cons,List.length_nil]; omega),
    z6 (j1 k _ (by simp only[qe,List.length_cons,List.length_nil]; omega)),z6 (j2 k _ (by simp only[List.length_append,qe,List.length_cons,List.length_nil]; omega)),z7,fx k _ hk (by omega)]
   unfold Nq phS
   simp only[kz,List.append_assoc]
  ·unfold br
   dsimp only
   rw[List.length_range,z8 (oz _),z7]
 have k4:∀ s:zd,s.length<=109000000000000->(ZT f (s,0)).run=some (s++f.2.2.2.2.1.flatMap Ey):=λs hs=>by
  refine mA (r:=bp f) f.2.2.2.2.1 (zn zY) 300000000 110000000000000 Ey s (λk b x hk hx hm hb => ?_) (λb => ?_) (λx hx=>by
   obtain⟨q1,q2,q3,q4⟩:=h.r x hx
   obtain⟨_,_,o1,o2⟩:=h.r2 x hx
   exact Vu x q1 q2 q3 q4 o1 o2) (by omega)
  ·obtain⟨q1,q2,q3,q4⟩:=h.r x hm
   obtain⟨c1,c2,o1,o2⟩:=h.r2 x hm
   have p1:=cX q3 o1
   have p2:=cX q4 o2
   have tl:=Uf x.2.1
   have wl:=sz x.2.2.1
   unfold bp
   dsimp only
   rw[hx,za (vX hk),zb (zH hk)]
   simp only[gx]
   rw[zr _ (by simp only[qe,List.length_cons,List.length_nil]; omega),z6 (Qe _),zr _ (by simp only[qe,List.length_cons,List.length_nil]; omega),zr _ (by simp only[qe,List.length_cons,List.length_nil]; omega),zr _ (by simp only[qe,List.length_cons,List.length_nil]; omega),z6 (tx _ q2),
    zr _ (by simp only[qe,List.length_cons,List.length_nil]; omega),zr _ (by simp only[qe,List.length_cons,List.length_nil]; omega),z6 (QW q3 o1),zr _ (by simp only[qe,List.length_cons,List.length_nil]; omega),zr _ (by simp only[qe,List.length_cons,List.length_nil]; omega),z6 (QW q4 o2),
    zr _ (by simp only[qe,List.length_cons,List.length_nil]; omega),zr _ (by simp only[qe,List.length_cons,List.length_nil]; omega),z7,fx k _ hk (by omega)]
   unfold Ey Sv
   simp only[kz,List.append_assoc,List.cons_append,List.nil_append]
  ·unfold bp
   dsimp only
   rw[z8 (oz _),z7]
 unfold sI
 rw[z6 k1,List.nil_append,z6 (k2 _ (by omega)),z6 (k3 _ (by rw[List.length_append]; omega)),z6 (k4 _ (by simp only[List.length_append]; omega)),z7]
 rfl
theorem CL(f:Form)(h:FS f):(Qn f).run=some (Vk f):=by
 have hn:=h.n
 have k1:(Uj f 0).run=some (if f.1.any GD=true then .inr false else .inl ()):=by
  refine Qk (r:=fR f) f.1 (zn zu) GD (λk x hk hx hm => ?_) ?_
  ·unfold fR GD
   dsimp only
   rw[za (vX hk),zb (zH hk),hx,z6 (qA x.1)]
   cases zT x.1 with
   | true=>rw[z8 (by rfl),z7,fx k _ hk (by omega)]; rfl
   | false=>rfl
  ·unfold fR
   simp
 have k2:(UF f 0).run=some (if f.2.1.any oH=true then .inr false else .inl ()):=by
  refine Qk (r:=fT f) f.2.1 (zn zD) oH (λk x hk hx hm => ?_) ?_
  ·unfold fT
   dsimp only
   rw[za (vX hk)]
   refine(z6 (a:=oH x) ?_ _).trans ?_
   ·rw[zb (zH hk),hx]
    refine(Wr (qA x.1) ((zb (zH hk) _).trans (Pm (tD _ (z6l (h.p x hm).2))))).trans ?_
    unfold oH
    simp
   ·cases oH x with
    | true=>rfl
    | false=>rw[zf,z7,fx k _ hk (by omega)]; rfl
  ·unfold fT
   simp
 have k3:(Jp f 0).run=some (if f.2.2.1.any Hp=true then .inr false else .inl ()):=by
  refine Qk (r:=eR f) f.2.2.1 (zn zO) Hp (λk x hk hx hm => ?_) ?_
  ·unfold eR
   dsimp only
   rw[za (vX hk)]
   refine(z6 (a:=Hp x) ?_ _).trans ?_
   ·rw[zb (zH hk),hx]
    exact Wr (qA x.1) ((zb (zH hk) _).trans (Pm (YF _)))
   ·cases Hp x with
    | true=>rfl
    | false=>rw[zf,z7,fx k _ hk (by omega)]; rfl
  ·unfold eR
   simp
 have k4:(Ua f 0).run=some (if f.2.2.2.2.1.any Z3=true then .inr false else .inl ()):=by
  refine Qk (r:=fV f) f.2.2.2.2.1 (zn zY) Z3 (λk x hk hx hm => ?_) ?_
  ·obtain⟨_,_,x1,x2⟩:=h.r x hm
   unfold fV
   dsimp only
   rw[za (vX hk),zb (zH hk),hx]
   simp only[gx]
   refine(z6 (a:=(Z3 x,x)) ?_ _).trans ?_
   ·exact pe (qA x.1) (pe (YF _) (Nu (Nu (pe (rW x1) (z7L (rW x2))))))
   ·dsimp only
    cases Z3 x with
    | true=>rfl
    | false=>rw[zf,z7,fx k _ hk (by omega)]; rfl
  ·unfold fV
   simp
 unfold Qn Vk
 rw[z6 k1]
 have e1:a1 f = !f.1.any GD:=rfl
 have e2:a2 f = !f.2.1.any oH:=rfl
 have e3:a3 f = !f.2.2.1.any Hp:=rfl
 have e6:a6 f = !f.2.2.2.2.1.any Z3:=rfl
 rw[e1,e2,e3]
 cases f.1.any GD with
 | true=>rfl
 | false =>
 rw[if_neg (by decide),Sum.elim_inl,z6 k2]
 cases f.2.1.any oH with
 | true=>rfl
 | false =>
 rw[if_neg (by decide),Sum.elim_inl,z6 k3]
 cases f.2.2.1.any Hp with
 | true=>rfl
 | false =>
 rw[if_neg (by decide),Sum.elim_inl,z6 k4]
 cases q6:f.2.2.2.2.1.any Z3 with
 | true=>rw[e6,q6]; cases a4 f<;>cases a5 f<;>rfl
 | false =>
 rw[if_neg (by decide),Sum.elim_inl,z6 (JJ f h)]
 cases h4:a4 f with
 | false=>rfl
 | true =>
 cases h5:a5 f with
 | false=>rfl
 | true =>
 have h6:a6 f=true:=by rw[e6,q6]; rfl
 rw[za (by rfl),z6 (Kx f (Sl h h4 h5 h6)),z7,h6]
 rfl
end Go.AM.Lf
namespace Go.AM
theorem T.Vy{σ ρ:Type}{b:(σ->T ρ)->σ->T ρ}(R:Nat->σ->ρ->Prop)(h0:∀ x y,¬ R 0 x y)
  (h:∀ n x y,R (n+1) x y->∀ g:σ->T ρ,(∀ x' y',R n x' y'->(g x').run=some y')->(b g x).run=some y) {n:Nat} {x:σ} {y:ρ} (hx:R n x y):(T.fix b x).run=some y:=by
 rw[wV,mn]
 refine⟨n,λm hm => ?_⟩
 induction n generalizing m x y with
 | zero=>grind
 | succ n ih =>
  cases m with
  | zero=>omega
  | succ m =>
   rw[<- wV]
   exact h n x y hx (DU b m) λx' y' hr=>by rw[wV]; exact ih hr m (by omega)
end Go.AM
namespace Go.AM.PL
def h9:zd->zd
 | []=>[]
 | c::r=>if c=32 then h9 r else c::r
def uK(p:UInt8->Bool):Nat->zd->zd×zd
 | 0,r=>([],r)
 | _+1,[]=>([],[])
 | n+1,c::r=>if p c=true then(c::(uK p n r).1,(uK p n r).2)else([],c::r)
theorem pN(p:UInt8->Bool):∀ (n:Nat) (r:zd),(uK p n r).1++(uK p n r).2=r
 | 0,r=>rfl
 | _+1,[]=>rfl
 | n+1,c::r=>by
  unfold uK
  split
  ·rw[List.cons_append,pN p n r]
  ·rfl
theorem JG(p:UInt8->Bool):∀ (n:Nat) (r:zd),r.length<=n->uK p n r=(r.takeWhile p,r.dropWhile p)
 | 0,[],_=>rfl
 | 0,c::r,h=>by simp at h
 | _+1,[],_=>rfl
 | n+1,c::r,h=>by
  unfold uK
  rw[JG p n r (by grind)]
  cases hp:p c with
  | true=>simp[hp]
  | false=>simp[hp]
theorem vD:∀ (r:zd),h9 r <:+ r
 | []=>List.suffix_refl _
 | c::r=>by
  unfold h9
  split
  ·exact List.IsSuffix.trans (vD r) (List.suffix_cons c r)
  ·simp
theorem DS:∀ (r:zd) (c:UInt8) (q:zd),h9 r=c::q->c≠32
 | [],_,_,h=>by cases h
 | b::r,c,q,h=>by
  unfold h9 at h
  split at h
  ·exact DS r c q h
  ·grind
theorem TF(r:zd):h9 (h9 r)=h9 r:=by
 cases h:h9 r with
 | nil=>rfl
 | cons c q=>unfold h9; rw[if_neg (DS r c q h)]
theorem H8(r:zd):(h9 r).length<=r.length:=(vD r).length_le
theorem Xb(p:UInt8->Bool)(n:Nat)(r:zd):(uK p n r).2 <:+ r:=⟨(uK p n r).1,pN p n r⟩
def xy(s r:zd):Nat:=s.length-r.length
theorem YR(s:zd):xy s s=0:=by unfold xy; omega
theorem CB(s:zd):xy s []=s.length:=rfl
theorem wq{c:UInt8}{r s:zd}(h:(c::r) <:+ s):r <:+ s:=List.IsSuffix.trans (List.suffix_cons c r) h
theorem ux{c:UInt8}{r s:zd}(h:(c::r) <:+ s):xy s r=xy s (c::r)+1/\xy s (c::r)<s.length:=by
 have:=h.length_le
 simp at this
 unfold xy; simp; omega
theorem RH{r s:zd}(h:r <:+ s):s.drop (xy s r)=r:=by
 obtain⟨t,rfl⟩:=h
 unfold xy
 simp
theorem vY{c:UInt8}{r s:zd}(h:(c::r) <:+ s):zt s ((xy s (c::r):Nat):Int)=(c.toNat:Int):=by
 have h1:=ux h
 rw[uP h1.2]
 have h2:=RH h
 rw[List.drop_eq_getElem_cons h1.2]at h2
 grind
theorem GO{r q s:zd}(h:r <:+ q)(h2:q <:+ s):xy s q<=xy s r:=by
 have:=h.length_le; unfold xy; omega
theorem Ux{a r q s:zd}(h:r <:+ s)(e:a++q=r):qC ((xy s r:Nat):Int) ((xy s q:Nat):Int) s=a:=by
 subst e
 obtain⟨t,rfl⟩:=h
 unfold qC xy
 rw[Int.toNat_natCast,Int.toNat_natCast]
 simp only[List.length_append]
 rw[show t.length+(a.length+q.length)-q.length=t.length+a.length by omega,show t.length+(a.length+q.length)-(a.length+q.length)=t.length by omega,<- List.append_assoc,<- List.length_append,List.take_left,List.drop_left]
theorem BB:∀ (l:zd) (c:UInt8),decide ((0:Int)<=ZL l c)=l.contains c
 | [],_=>rfl
 | b::l,c=>by
  have ih:=BB l c
  unfold ZL
  grind
theorem UC(c:UInt8):byteOf (c.toNat:Int)=c:=by unfold byteOf; simp
end Go.AM.PL
namespace Go.AM.Lf
open PL
def qL(s r:zd)(d:Nat)(l:Bool):zc:=(s,((xy s r:Nat):Int),(d:Int),l,())
theorem vA(s r:zd)(d:Nat)(l:Bool):(qL s r d l).1=s:=rfl
theorem uv(s r:zd)(d:Nat)(l:Bool):(qL s r d l).2.1=((xy s r:Nat):Int):=rfl
theorem Jd(s r:zd)(d:Nat)(l:Bool):(qL s r d l).2.2.1=(d:Int):=rfl
theorem Jb{s r:zd}{c:UInt8}(d:Nat)(l:Bool)(h:(c::r) <:+ s)(hs:s.length<=1000000):((s,zI (((xy s (c::r):Nat):Int)+1),(d:Int),l,()):zc)=qL s r d l:=by
 have:=ux h
 unfold qL
 rw[zA (by omega) (by omega),this.1]
 rfl
theorem dK{s r:zd}{c:UInt8}(h:(c::r) <:+ s):decide (((xy s (c::r):Nat):Int)<(s.length:Int))=true:=decide_eq_true (by have:=ux h; omega)
theorem lW(s:zd):decide (((xy s []:Nat):Int)<(s.length:Int))=false:=by rw[CB]; exact decide_eq_false (by omega)
theorem jt{s r:zd}{c:UInt8}(h:(c::r) <:+ s):q9 ((xy s (c::r):Nat):Int) s.length:=⟨by omega,by have:=ux h; omega⟩
theorem tb(c b:UInt8):((c.toNat:Int)==(b.toNat:Int))=decide (c=b):=by
 by_cases h:c=b
 ·grind
 ·rw[decide_eq_false h]
  simp
  intro e
  exact h (UInt8.toNat_inj.1 (by omega))
theorem WH(s:zd)(hs:s.length<=1000000)(d:Nat)(l:Bool):∀ (r:zd),r <:+ s->(gV (qL s r d l)).run=some (qL s (h9 r) d l)
 | [],_=>by
  refine zL ?_
  unfold w8
  dsimp only
  rw[uv,vA,lW,zb (λh=>by cases h),z8 (by rfl),z7]
  rfl
 | c::r,h=>by
  have e:(w8 (qL s (c::r) d l)).run=some (if c=32 then .inl (qL s r d l)else .inr (qL s (c::r) d l)):=by
   unfold w8
   dsimp only
   rw[uv,vA,dK h,zb (λ_=>jt h),Bool.true_and,vY h,show((c.toNat:Int)==32)=decide (c=32)from tb c 32]
   by_cases hc:c=32
   ·rw[za (by grind),z7,if_pos hc]
    show some (Sum.inl (s,zI (((xy s (c::r):Nat):Int)+1),(d:Int),l,()))=_
    rw[Jb d l h hs]
   ·rw[z8 (by grind),z7,if_neg hc]
  unfold h9
  by_cases hc:c=32
  ·rw[if_pos hc]at e ⊢
   exact(qu e).trans (WH s hs d l r (wq h))
  ·rw[if_neg hc]at e ⊢
   exact zL e
theorem Er(s:zd)(hs:s.length<=1000000)(d:Nat)(l:Bool)(r:zd)(h:r <:+ s):(uB (qL s r d l)).run=some (qL s (h9 r) d l):=by
 unfold uB
 rw[z6 (WH s hs d l r h),z7]
def jd(some:zd)(r:zd):Option (UInt8×zd):=match h9 r with
 | []=>none
 | c::q=>if some.contains c=true then .some (c,q)else none
theorem Zf(s:zd)(hs:s.length<=1000000)(d:Nat)(l:Bool)(r:zd)(h:r <:+ s)(m:zd) :
  (xm m (qL s r d l)).run=some (match jd m r with | some (c,q)=>((c.toNat:Int),qL s q d l) | none=>(0,qL s (h9 r) d l)):=by
 have hk:=List.IsSuffix.trans (vD r) h
 unfold xm jd
 rw[z6 (Er s hs d l r h)]
 cases e:h9 r with
 | nil =>
  rw[z6 (a:=(false,qL s [] d l)) (by rw[uv,vA,lW,zf,z7]),zf,z7]
 | cons c q =>
  rw[e]at hk
  have hi:(strings_IndexByte m (c.toNat:Int)).run=some (ZL m c):=by unfold strings_IndexByte; rw[z7,UC]
  rw[z6 (a:=(m.contains c,qL s (c::q) d l)) (by rw[uv,vA,dK hk,zk,zb (jt hk),vY hk,z6 hi,z7,BB])]
  have hp:=ux hk
  dsimp only
  cases hc:m.contains c with
  | false=>rfl
  | true =>
   rw[zk,uv,vA,zA (x:=((xy s (c::q):Nat):Int)+1) (by omega) (by omega),show((xy s (c::q):Nat):Int)+1-1=((xy s (c::q):Nat):Int) by omega,zA (by omega) (by omega),zb (jt hk),z7,vY hk]
   rw[show((xy s (c::q):Nat):Int)+1=((xy s q:Nat):Int) by omega]
   rfl
theorem sK(b:UInt8):(xV (b.toNat:Int)).run=some (wE b):=by
 unfold xV wE
 rw[z7]
 congr 1
 grind
theorem Np(b:UInt8):(vg (b.toNat:Int)).run=some (Uy b):=rfl
theorem EH(s:zd)(hs:s.length<=1000000)(d:Nat)(l:Bool)(is:Int->T Bool)(p:UInt8->Bool)(hp:∀ b:UInt8,(is (b.toNat:Int)).run=some (p b))(f m:Nat)(hm:m<=1000000) :
  ∀ (n:Nat) (r:zd),r <:+ s->f<=xy s r->xy s r-f+n=m->(bm is (m:Int) (f:Int) (qL s r d l)).run=some (qL s (uK p n r).2 d l):=by
 intro n r
 induction r generalizing n with
 | nil =>
  intro h hf he
  have:(uK p n []).2=[]:=by cases n<;>rfl
  rw[this]
  refine zL ?_
  unfold xc
  rw[z6 (a:=(false,qL s [] d l)) (by rw[uv,vA,lW,zf,z7]),zf,z7]
 | cons c r ih =>
  intro h hf he
  have Zr:=ux h
  cases n with
  | zero =>
   refine zL ?_
   unfold xc
   rw[z6 (a:=(false,qL s (c::r) d l)) (by rw[uv,vA,dK h,zk,zA (by omega) (by omega),z8 (decide_eq_false (by omega)),z7]),zf,z7]
   rfl
  | succ n =>
   have e:(xc is (m:Int) (f:Int) (qL s (c::r) d l)).run=some (if p c=true then .inl (qL s r d l)else .inr (qL s (c::r) d l)):=by
    unfold xc
    rw[z6 (a:=(p c,qL s (c::r) d l)) (by rw[uv,vA,dK h,zk,zA (by omega) (by omega),za (decide_eq_true (by omega)),zb (jt h),vY h,z6 (hp c),z7])]
    cases p c with
    | false=>rfl
    | true =>
     rw[zk,z7,if_pos rfl]
     show some (Sum.inl (s,zI (((xy s (c::r):Nat):Int)+1),(d:Int),l,()))=_
     rw[Jb d l h hs]
   unfold uK
   by_cases hc:p c=true
   ·rw[if_pos hc]at e ⊢
    exact(qu e).trans (ih n (wq h) (by omega) (by omega))
   ·rw[if_neg hc]at e ⊢
    exact zL e
theorem Xy(s:zd)(hs:s.length<=1000000)(d:Nat)(l:Bool)(is:Int->T Bool)(p:UInt8->Bool)(hp:∀ b:UInt8,(is (b.toNat:Int)).run=some (p b))(m:Nat)(hm:m<=1000000)(r:zd)(h:r <:+ s) :
  (xl is (m:Int) (qL s r d l)).run=some ((uK p m r).1,qL s (uK p m r).2 d l):=by
 unfold xl
 have h3:=GO (Xb p m r) h
 have h4:xy s (uK p m r).2<=s.length:=by unfold xy; omega
 rw[uv,z6 (EH s hs d l is p hp (xy s r) m hm m r h (Nat.le_refl _) (by omega))]
 rw[uv,vA,zb ⟨by omega,by omega,by omega⟩,z7,Ux h (pN p m r)]
inductive PR where
 | no
 | er (k:Int) (bad r:zd) (d:Nat) (l:Bool)
 | ok (e:Expr) (r:zd) (l:Bool)
def PR.bind:PR->(Expr->zd->Bool->PR)->PR
 | .no,_=>.no
 | .er k b r d l,_=>.er k b r d l
 | .ok e r l,f=>f e r l
def iC(k:Int)(l:List Expr):Expr:=.mk k qo [] l
def oe(t:zd):Rat:=match oi t with | some (n,d)=>um (List.isPrefixOf [45] t) n d | none=>qo
def XE(z:Rat)(t r:zd)(l:Bool):PR:=if 400<t.length then .ok (.mk 1 z [] []) r true else .ok (.mk 1 (oe t) [] []) r l
def XB(z:Rat)(d:Nat)(r:zd)(l:Bool):PR:=match r.dropWhile wE with
 | []=>XE z (r.takeWhile wE) [] l
 | c::q=>if c=46 then(if q.takeWhile wE=[]then .er 2 q q d l else XE z (r.takeWhile wE++(46::q.takeWhile wE)) (q.dropWhile wE) l)
  else XE z (r.takeWhile wE) (c::q) l
def z3y(r:zd)(l:Bool):PR:=.ok (.mk 2 qo (uK wb 24 r).1 []) (uK wb 24 r).2 l
def fN(K:Bool->zd->PR)(m1 m2:UInt8)(k1 k2:Int):Nat->Expr->zd->Bool->PR
 | 0,_,_,_=>.no
 | n+1,e,r,l=>match jd [m1,m2] r with
  | none=>.ok e (h9 r) l
  | some (c,q)=>(K l q).bind λe2 q2 l2=>fN K m1 m2 k1 k2 n (iC (if c=m1 then k1 else k2) [e,e2]) q2 l2
def rowP(K:Bool->zd->PR)(m1 m2:UInt8)(k1 k2:Int)(n:Nat)(l:Bool)(r:zd):PR:=(K l r).bind λe q l'=>fN K m1 m2 k1 k2 n e q l'
def Jh(z:Rat)(F S:Nat->Bool->zd->PR)(d:Nat)(l:Bool)(s:zd):PR:=match h9 s with
 | []=>.er 2 [] [] d l
 | c::r =>
  if c=45 then(if 31<=d then .er 4 (c::r) r (d+1) l else(F (d+1) l r).bind λe q l'=>.ok (iC 7 [e]) q l')
  else if c=40 then(if 31<=d then .er 4 (c::r) r (d+1) l else(S (d+1) l r).bind λe q l'=>match jd [41] q with
   | some (_,q')=>.ok e q' l'
   | none=>.er 2 (h9 q) (h9 q) (d+1) l')
  else if wE c=true then XB z d (c::r) l
  else if Uy c=true then z3y (c::r) l
  else .er 2 (c::r) (c::r) d l
mutual
def pF(z:Rat):Nat->Nat->Bool->zd->PR
 | 0,_,_,_=>.no
 | n+1,d,l,s=>Jh z (pF z n) (pS z n) d l s
def pP(z:Rat):Nat->Nat->Bool->zd->PR
 | 0,_,_,_=>.no
 | n+1,d,l,s=>rowP (pF z n d) 42 47 5 6 n l s
def pS(z:Rat):Nat->Nat->Bool->zd->PR
 | 0,_,_,_=>.no
 | n+1,d,l,s=>rowP (pP z n d) 43 45 3 4 n l s
end
def PR.om(s:zd):PR->Prop
 | .no=>True
 | .er _ b r _ _=>b <:+ s/\r <:+ s
 | .ok _ r _=>r <:+ s
theorem PR.Qs{s:zd}{R:PR}{f:Expr->zd->Bool->PR}(h:R.om s)(hf:∀ e r l,r <:+ s->(f e r l).om s):(R.bind f).om s:=by
 cases R with
 | no=>trivial
 | er=>exact h
 | ok e r l=>exact hf e r l h
theorem gG{m r q:zd}{c:UInt8}(h:jd m r=some (c,q)):(c::q) <:+ r/\m.contains c=true/\h9 r=c::q:=by
 have:=vD r
 unfold jd at h
 grind
theorem Jn{s r t:zd}{z:Rat}{l:Bool}(h:r <:+ s):(XE z t r l).om s:=by unfold XE; split<;>exact h
theorem gS(p:UInt8->Bool)(r:zd):r.dropWhile p <:+ r:=List.dropWhile_suffix p
theorem z07{s r:zd}{z:Rat}{d:Nat}{l:Bool}(h:r <:+ s):(XB z d r l).om s:=by
 have hd:=gS wE r
 unfold XB
 split
 ·exact Jn List.nil_suffix
 ·rename_i c q e
  rw[e]at hd
  have hq:=(wq hd).trans h
  split
  ·split
   ·exact⟨hq,hq⟩
   ·exact Jn ((gS wE q).trans hq)
  ·exact Jn (hd.trans h)
theorem CT{s:zd}{K:Bool->zd->PR}(hK:∀ l r,r <:+ s->(K l r).om s)(m1 m2:UInt8)(k1 k2:Int):∀ (n:Nat) (e:Expr) (r:zd) (l:Bool),r <:+ s->(fN K m1 m2 k1 k2 n e r l).om s
 | 0,_,_,_,_=>trivial
 | n+1,e,r,l,h=>by
  unfold fN
  split
  ·exact(vD r).trans h
  ·rename_i c q ht
   have hq:=(wq (gG ht).1).trans h
   exact PR.Qs (hK l q hq) λe2 q2 l2 h2=>CT hK m1 m2 k1 k2 n _ q2 l2 h2
theorem CY{s:zd}{K:Bool->zd->PR}(hK:∀ l r,r <:+ s->(K l r).om s)(m1 m2:UInt8)(k1 k2:Int)(n:Nat)(l:Bool)(r:zd)(h:r <:+ s):(rowP K m1 m2 k1 k2 n l r).om s :=
 PR.Qs (hK l r h) λ_ _ _ h2=>CT hK m1 m2 k1 k2 n _ _ _ h2
theorem Sq{s:zd}{z:Rat}{F S:Nat->Bool->zd->PR}(hF:∀ d l r,r <:+ s->(F d l r).om s)(hS:∀ d l r,r <:+ s->(S d l r).om s)(d:Nat)(l:Bool)(r:zd)(h:r <:+ s):(Jh z F S d l r).om s:=by
 have hk:=(vD r).trans h
 unfold Jh
 split
 ·exact⟨List.nil_suffix,List.nil_suffix⟩
 ·rename_i c q e
  rw[e]at hk
  have hq:=wq hk
  split
  ·split
   ·exact⟨hk,hq⟩
   ·exact PR.Qs (hF _ _ _ hq) λ_ _ _ h2=>h2
  ·split
   ·split
    ·exact⟨hk,hq⟩
    ·refine PR.Qs (hS _ _ _ hq) λe2 q2 l2 h2 => ?_
     split
     ·rename_i ht
      exact(wq (gG ht).1).trans h2
     ·exact⟨(vD q2).trans h2,(vD q2).trans h2⟩
   ·split
    ·exact z07 hk
    ·split
     ·exact(Xb wb 24 (c::q)).trans hk
     ·exact⟨hk,hk⟩
theorem UK(z:Rat)(s:zd):∀ (n:Nat),(∀ d l r,r <:+ s->(pF z n d l r).om s)/\(∀ d l r,r <:+ s->(pP z n d l r).om s)/\(∀ d l r,r <:+ s->(pS z n d l r).om s)
 | 0=>⟨λ_ _ _ _=>by unfold pF; trivial,λ_ _ _ _=>by unfold pP; trivial,λ_ _ _ _=>by unfold pS; trivial⟩
 | n+1=>by
  obtain⟨h1,h2,h3⟩:=UK z s n
  refine⟨λd l r h => ?_,λd l r h => ?_,λd l r h => ?_⟩
  ·unfold pF; exact Sq h1 h3 d l r h
  ·unfold pP; exact CY (h1 d) _ _ _ _ n l r h
  ·unfold pS; exact CY (h2 d) _ _ _ _ n l r h
def encR(s:zd)(d:Nat):PR->Option ((AM.Expr×zc)⊕(jK×zc))
 | .no=>none
 | .er k b r d' l=>some (.inr ((k,(((xy s b:Nat):Int),())),qL s r d' l))
 | .ok e r l=>some (.inl (e,qL s r d l))
theorem Cn(e a:Int)(p:zc):(w7 e a p).run=some (.inr ((e,(a,())),p)):=rfl
theorem FD(s:zd)(hs:s.length<=1000000){c:UInt8}{r:zd}(h:(c::r) <:+ s)(d:Nat)(hd:d<=31)(l:Bool):(vk (qL s r d l)).run=some (if 31<=d then .inr ((4,(((xy s (c::r):Nat):Int),())),qL s r (d+1) l)else .inl (qL s r (d+1) l)):=by
 have hp:=ux h
 have e:((qL s r d l).1,((qL s r d l).2.1,((zI ((qL s r d l).2.2.1+(1:Int))),((qL s r d l).2.2.2.1,()))))=qL s r (d+1) l:=by
  rw[Jd,zA (by omega) (by omega)]; rfl
 unfold vk
 rw[e,Jd,uv,zA (by omega) (by omega),zA (by omega) (by omega)]
 by_cases c1:31<=d
 ·rw[if_pos c1,za (decide_eq_true (by omega)),z6 (Cn _ _ _),Sum.elim_inr,z7,show((xy s r:Nat):Int)-1=((xy s (c::r):Nat):Int) by omega]
 ·rw[if_neg c1,z8 (decide_eq_false (by omega)),z7]
theorem Uu(r:zd):qX (r.takeWhile wE)=true:=by
 unfold qX
 simp
theorem gn(p:UInt8->Bool)(r:zd):r.takeWhile p++r.dropWhile p=r:=by simp
theorem EM(s:zd)(hs:s.length<=1000000)(d:Nat)(l:Bool)(r:zd)(h:r <:+ s):(uL (qL s r d l)).run=encR s d (XB qo d r l):=by
 have Bs:=gS wE r
 have hl:=h.length_le
 have hw:=Xy s hs d l (λz0=>xV z0) wE sK s.length hs r h
 rw[JG wE s.length r hl]at hw
 -- what is done with the text
 have fin:∀ (t q:zd),(T.ite (decide ((400:Int)<(Nat.cast (List.length t):Int)))
    (.ret (.inl ((Expr.mk (1:Int) (false,(([]:List Int),(([]:List Int),()))) ([]:zd) ([]:List AM.Expr)),((qL s q d l).1,((qL s q d l).2.1,((qL s q d l).2.2.1,(true,())))))))
    (T.bind (gK t) λ(r,r1) =>
     .ret (.inl ((Expr.mk (1:Int) (r.1,(r.2.1,(r.2.2.1,()))) ([]:zd) ([]:List AM.Expr)),(qL s q d l)))):T ((AM.Expr×zc)⊕(jK×zc))).run=encR s d (XE qo t q l):=by
  intro t q
  unfold XE
  by_cases c1:400<t.length
  ·rw[if_pos c1,za (decide_eq_true (by omega)),z7]; rfl
  ·rw[if_neg c1,z8 (decide_eq_false (by omega)),z6 (tS t (by omega)),if_neg c1]
   unfold oe
   cases oi t with
   | none=>rfl
   | some x=>rfl
 unfold uL XB
 rw[vA,z6 hw]
 dsimp only
 cases e:r.dropWhile wE with
 | nil =>
  rw[e]at Bs
  rw[z6 (a:=.inl (r.takeWhile wE,qL s [] d l,Expr.mk 0 (false,([],([],()))) [] [])) (by rw[uv,vA,lW,zb (λh=>by cases h),Bool.false_and,zf,z7]),Sum.elim_inl]
  grind
 | cons c q =>
  rw[e]at Bs
  have KO:=Bs.trans h
  have hq:=wq KO
  have Zr:=ux KO
  dsimp only
  by_cases hc:c=46
  ·rw[if_pos hc]
   have sU:=Xy s hs d l (λz0=>xV z0) wE sK s.length hs q hq
   rw[JG wE s.length q hq.length_le]at sU
   have zir:(r.takeWhile wE).length<=1000000:=by have:=congrArg List.length (gn wE r); rw[List.length_append]at this; omega
   have z5z:(q.takeWhile wE).length<=1000000:=by have:=congrArg List.length (gn wE q); rw[List.length_append]at this; have:=hq.length_le; omega
   have cond:((decide (((xy s (c::q):Nat):Int)<(s.length:Int)))&&((zt s ((xy s (c::q):Nat):Int))==(46:Int)))=true:=by
    rw[dK KO,Bool.true_and,vY KO,show((c.toNat:Int)==46)=decide (c=46)from tb c 46]; simpa using hc
   have st:(((qL s (c::q) d l).1,((zI ((qL s (c::q) d l).2.1+(1:Int))),((qL s (c::q) d l).2.2.1,((qL s (c::q) d l).2.2.2.1,())))):zc)=qL s q d l:=Jb d l KO hs
   by_cases Lg:q.takeWhile wE=[]
   ·rw[if_pos Lg,z6 (a:=.inr ((2,(((xy s q:Nat):Int),())),qL s q d l,Expr.mk 0 (false,([],([],()))) [] [])),Sum.elim_inr]
    ·rfl
    ·rw[st,uv,vA,zb (λ_=>jt KO),za cond,z6 sU,za (by rw[xQ]; simpa using Lg)]
     have:q.dropWhile wE=q:=by have:=gn wE q; rw[Lg]at this; simpa using this
     rw[this,z6 (Cn _ _ _),Sum.elim_inr,z7,uv]
   ·rw[if_neg Lg,z6 (a:=.inl (cat (r.takeWhile wE) (cat [46] (q.takeWhile wE)),qL s (q.dropWhile wE) d l,Expr.mk 0 (false,([],([],()))) [] [])),Sum.elim_inl]
    ·exact fin _ _
    ·rw[st,uv,vA,zb (λ_=>jt KO),za cond,z6 sU,z8 (by rw[xQ]; simpa using Lg),zr _ (by simp; omega),zr _ (by simp[kz]; omega),z7]
  ·rw[if_neg hc,z6 (a:=.inl (r.takeWhile wE,qL s (c::q) d l,Expr.mk 0 (false,([],([],()))) [] [])),Sum.elim_inl]
   ·grind
   ·rw[uv,vA,zb (λ_=>jt KO),z8 (by rw[dK KO,Bool.true_and,vY KO,show((c.toNat:Int)==46)=decide (c=46)from tb c 46]; simpa using hc),z7]
abbrev KT:=zc->T ((AM.Expr×zc)⊕(jK×zc))
abbrev zE:Expr:=Expr.mk (0:Int) (false,(([]:List Int),(([]:List Int),()))) ([]:zd) ([]:List AM.Expr)
noncomputable def Ut (K:KT) (Xo:zd) (JM:jK):(zc×AM.Expr×AM.Expr)->T ((zc×AM.Expr×AM.Expr)⊕((zc×AM.Expr×AM.Expr)⊕(jK×zc×AM.Expr×AM.Expr)))
 | (v,v1,v2) =>
  T.bind (xm Xo v) λ(c,p3) =>
  .ite (c==(0:Int))
   (.ret (.inr (.inl (p3,(v2,v2)))))
   (T.bind (K p3) <|
     Sum.elim (λ(r1,p4) =>
      T.bind (strings_IndexByte Xo c) λr2 =>
      .zy (q9 r2 (2:Nat)) <|
      .ret (.inl (p4,(v1,(Expr.mk (oB (.int .i64) V6 JM (Int.toNat r2)) (false,(([]:List Int),(([]:List Int),()))) ([]:zd) ([v2,r1]:List AM.Expr))))))
     (λ(pv1,p5) =>
      .ret (.inr (.inr (pv1,(p5,(v1,v2)))))))
noncomputable def zaP (K:KT) (marks:zd) (kinds:jK) (p:zc):T ((AM.Expr×zc)⊕(jK×zc)) :=
 T.bind (K p) <|
  Sum.elim (λ(r,p1) =>
   T.bind (T.loop (Ut K marks kinds) (p1,(zE,r))) <|
    Sum.elim (λ(v3,v4,v5) =>
     .ret (.inl (v4,v3)))
    (λ(p6,v6,v7,v8) =>
     .ret (.inr (p6,v6))))
  (λ(pv,p2) =>
   .ret (.inr (pv,p2)))
theorem zgM{m1 m2 c:UInt8}(h:[m1,m2].contains c=true):ZL [m1,m2] c=if c=m1 then 0 else 1:=by
 unfold ZL
 by_cases h1:c=m1
 ·grind
 ·have Vd:(m1==c)=false:=by simpa using λe:m1=c=>h1 e.symm
  have h2:c=m2:=by simpa[h1]using h
  subst h2
  rw[Vd,if_neg h1]
  unfold ZL
  simp
theorem Dv(s:zd)(hs:s.length<=1000000)(d:Nat)(K:KT)(Ks:Bool->zd->PR)(hK:∀ l r,r <:+ s->Ks l r≠.no->(K (qL s r d l)).run=encR s d (Ks l r))(hx:∀ l r,r <:+ s->(Ks l r).om s)(m1 m2:UInt8)(ON:m1≠0)(KB:m2≠0)(k1 k2:Int) :
  ∀ (n:Nat) (e:Expr) (r:zd) (l:Bool),r <:+ s->fN Ks m1 m2 k1 k2 n e r l≠.no ->
   match fN Ks m1 m2 k1 k2 n e r l with
   | .no=>True
   | .ok e' r' l'=>(T.loop (Ut K [m1,m2] (k1,(k2,()))) (qL s r d l,(zE,e))).run=some (.inl (qL s r' d l',(e',e')))
   | .er k b r' d' l'=>∃ x,(T.loop (Ut K [m1,m2] (k1,(k2,()))) (qL s r d l,(zE,e))).run=some (.inr ((k,(((xy s b:Nat):Int),())),(qL s r' d' l',(zE,x))))
 | 0,_,_,_,_,hn=>absurd rfl hn
 | n+1,e,r,l,h,hn=>by
  have ht:=Zf s hs d l r h [m1,m2]
  unfold fN at hn ⊢
  cases q:jd [m1,m2] r with
  | none =>
   rw[q]at ht
   dsimp only
   refine zL ?_
   unfold Ut
   rw[z6 ht]
   rfl
  | some x =>
   obtain⟨c,q'⟩:=x
   rw[q]at ht hn
   dsimp only at ht hn ⊢
   have hsf:=gG q
   have hq:=(wq hsf.1).trans h
   have hc0:((c.toNat:Int)==0)=false:=by
    rw[show((c.toNat:Int)==0)=decide (c=0)from tb c 0]
    grind
   have Z9:=hK l q' hq
   have Zt:=hx l q' hq
   cases z:Ks l q' with
   | no=>rw[z]at hn; exact absurd rfl hn
   | er k b r' d' l' =>
    rw[z]at Z9
    have Z9:=Z9 (by simp)
    refine⟨e,zL ?_⟩
    unfold Ut
    rw[z6 ht]
    rw[z8 hc0,z6 Z9]
    rfl
   | ok e2 r2 l2 =>
    rw[z]at Z9 hn Zt
    have Z9:=Z9 (by simp)
    have hi:(strings_IndexByte [m1,m2] (c.toNat:Int)).run=some (ZL [m1,m2] c):=by unfold strings_IndexByte; rw[z7,UC]
    have step:(Ut K [m1,m2] (k1,(k2,())) (qL s r d l,(zE,e))).run=some (.inl (qL s r2 d l2,(zE,iC (if c=m1 then k1 else k2) [e,e2]))):=by
     unfold Ut
     rw[z6 ht]
     rw[z8 hc0,z6 Z9,Sum.elim_inl,z6 hi,zgM hsf.2.1]
     by_cases hc:c=m1
     ·rw[if_pos hc,if_pos hc,zb ⟨by omega,by omega⟩,z7]
      rfl
     ·rw[if_neg hc,if_neg hc,zb ⟨by omega,by omega⟩,z7]
      rfl
    rw[qu step]
    exact Dv s hs d K Ks hK hx m1 m2 ON KB k1 k2 n _ r2 l2 Zt hn
theorem DK(s:zd)(hs:s.length<=1000000)(d:Nat)(K:KT)(Ks:Bool->zd->PR)(hK:∀ l r,r <:+ s->Ks l r≠.no->(K (qL s r d l)).run=encR s d (Ks l r))(hx:∀ l r,r <:+ s->(Ks l r).om s)(m1 m2:UInt8)(ON:m1≠0)(KB:m2≠0)(k1 k2:Int)
  (n:Nat) (l:Bool) (r:zd) (h:r <:+ s) (hn:rowP Ks m1 m2 k1 k2 n l r≠.no):(zaP K [m1,m2] (k1,(k2,())) (qL s r d l)).run=encR s d (rowP Ks m1 m2 k1 k2 n l r):=by
 have Z9:=hK l r h
 have Zt:=hx l r h
 unfold zaP
 unfold rowP at hn ⊢
 cases z:Ks l r with
 | no=>rw[z]at hn; exact absurd rfl hn
 | er k b r' d' l' =>
  rw[z]at Z9
  rw[z6 (Z9 (by simp))]
  rfl
 | ok e r' l' =>
  rw[z]at Z9 hn Zt
  have Z9:=Z9 (by simp)
  have hn:fN Ks m1 m2 k1 k2 n e r' l'≠.no:=hn
  have hl:=Dv s hs d K Ks hK hx m1 m2 ON KB k1 k2 n e r' l' Zt hn
  rw[z6 Z9,Sum.elim_inl]
  show _=encR s d (fN Ks m1 m2 k1 k2 n e r' l')
  cases w:fN Ks m1 m2 k1 k2 n e r' l' with
  | no=>grind
  | er k b r2 d2 l2 =>
   rw[w]at hl
   obtain⟨x,hl⟩:=hl
   rw[z6 hl]
   rfl
  | ok e2 r2 l2 =>
   rw[w]at hl
   rw[z6 hl]
   rfl
theorem BK(s:zd)(hs:s.length<=1000000)(FT ST:KT)(F S:Nat->Bool->zd->PR)
  (hF:∀ d l r,d<=31->r <:+ s->F d l r≠.no->(FT (qL s r d l)).run=encR s d (F d l r)) (hS:∀ d l r,d<=31->r <:+ s->S d l r≠.no->(ST (qL s r d l)).run=encR s d (S d l r))
  (xS:∀ d l r,r <:+ s->(S d l r).om s) (d:Nat) (l:Bool) (r:zd) (hd:d<=31) (h:r <:+ s) (hn:Jh qo F S d l r≠.no):(wo FT ST (qL s r d l)).run=encR s d (Jh qo F S d l r):=by
 have ht:=Zf s hs d l r h [45,40]
 have hk:=(vD r).trans h
 unfold wo
 unfold Jh at hn ⊢
 unfold jd at ht
 -- what deeper ones leave
 have down:∀ (q:zd) (l':Bool),(((qL s q (d+1) l').1,((qL s q (d+1) l').2.1,((zI ((qL s q (d+1) l').2.2.1-(1:Int))),((qL s q (d+1) l').2.2.2.1,())))):zc)=qL s q d l':=by
  intro q l'
  rw[Jd,zA (by omega) (by omega)]
  show(s,(((xy s q:Nat):Int),(((d+1:Nat):Int)-1,(l',()))))=(s,(((xy s q:Nat):Int),((d:Int),(l',()))))
  simp
 cases e:h9 r with
 | nil =>
  rw[e]at ht
  dsimp only at ht ⊢
  rw[z6 ht]
  dsimp only
  rw[z8 (by rfl),z8 (by rfl)]
  rw[z6 (a:=(false,(qL s [] d l,zE))) (by rw[uv,vA,lW,zf,z7])]
  dsimp only
  rw[zf,z6 (a:=(false,(qL s [] d l,zE))) (by rw[uv,vA,lW,zf,z7])]
  rfl
 | cons c q =>
  rw[e]at ht hn hk
  have hq:=wq hk
  dsimp only at ht hn ⊢
  have hw:=FD s hs hk d hd l
  by_cases c45:c=45
  ·subst c45
   rw[if_pos (by decide)]at ht
   dsimp only at ht
   rw[if_pos rfl]at hn ⊢
   rw[z6 ht]
   dsimp only
   rw[za (by rfl),z6 hw]
   by_cases c31:31<=d
   ·rw[if_pos c31,if_pos c31]; rfl
   ·rw[if_neg c31]at hn
    rw[if_neg c31,if_neg c31,Sum.elim_inl]
    have hf:=hF (d+1) l q (by omega) hq
    cases z:F (d+1) l q with
    | no=>rw[z]at hn; exact absurd rfl hn
    | er k b r' d' l'=>rw[z]at hf; rw[z6 (hf (by simp))]; rfl
    | ok e2 r2 l2 =>
     rw[z]at hf
     rw[z6 (hf (by simp)),Sum.elim_inl]
     dsimp only
     rw[z7,down]
     rfl
  ·rw[if_neg c45]at hn ⊢
   by_cases c40:c=40
   ·subst c40
    rw[if_pos (by decide)]at ht
    dsimp only at ht
    rw[if_pos rfl]at hn ⊢
    rw[z6 ht]
    dsimp only
    rw[z8 (by rfl),za (by rfl),z6 hw]
    by_cases c31:31<=d
    ·rw[if_pos c31,if_pos c31]; rfl
    ·rw[if_neg c31]at hn
     rw[if_neg c31,if_neg c31,Sum.elim_inl]
     have hf:=hS (d+1) l q (by omega) hq
     have xf:=xS (d+1) l q hq
     cases z:S (d+1) l q with
     | no=>rw[z]at hn; exact absurd rfl hn
     | er k b r' d' l'=>rw[z]at hf; rw[z6 (hf (by simp))]; rfl
     | ok e2 r2 l2 =>
      rw[z]at hf xf
      rw[z6 (hf (by simp)),Sum.elim_inl]
      dsimp only
      have G6:=Zf s hs (d+1) l2 r2 xf [41]
      show _=encR s d (match jd [41] r2 with | some (_,q')=>.ok e2 q' l2 | none=>.er 2 (h9 r2) (h9 r2) (d+1) l2)
      cases w:jd [41] r2 with
      | none =>
       rw[w]at G6
       dsimp only at G6 ⊢
       rw[z6 (a:=.inr ((2,(((xy s (h9 r2):Nat):Int),())),(qL s (h9 r2) (d+1) l2,(zE,e2)))) (by rw[z6 G6]; rfl)]
       rfl
      | some x =>
       obtain⟨c',q'⟩:=x
       rw[w]at G6
       have hc':=(gG w).2.1
       have hc':c'=41:=by simpa using hc'
       subst hc'
       dsimp only at G6 ⊢
       rw[z6 (a:=.inl (qL s q' (d+1) l2,(zE,e2))) (by rw[z6 G6]; rfl),Sum.elim_inl]
       dsimp only
       rw[z7,down]
       rfl
   ·rw[if_neg (by simp[c45,c40])]at ht
    dsimp only at ht
    rw[if_neg c40]at hn ⊢
    rw[z6 ht]
    dsimp only
    rw[z8 (by rfl),z8 (by rfl)]
    rw[z6 (a:=(wE c,(qL s (c::q) d l,zE))) (by rw[uv,vA,dK hk,zk,zb (jt hk),vY hk,z6 (sK c),z7])]
    dsimp only
    cases hD:wE c with
    | true =>
     rw[if_pos rfl,zk]
     have oX:=EM s hs d l (c::q) hk
     cases z:XB qo d (c::q) l with
     | no =>
      exfalso
      rw[if_pos hD,z]at hn
      exact hn rfl
     | er k b r' d' l'=>rw[z]at oX; rw[z6 oX]; rfl
     | ok e2 r2 l2=>rw[z]at oX; rw[z6 oX]; rfl
    | false =>
     rw[if_neg (by simp),zf]
     rw[z6 (a:=(Uy c,(qL s (c::q) d l,zE))) (by rw[uv,vA,dK hk,zk,zb (jt hk),vY hk,z6 (Np c),z7])]
     dsimp only
     cases hL:Uy c with
     | true =>
      rw[if_pos rfl,zk]
      have hwl:(xl (λz0=>vP z0) 24 (qL s (c::q) d l)).run=_:=Xy s hs d l (λz0=>vP z0) wb pw 24 (by omega) (c::q) hk
      rw[z6 hwl]
      rfl
     | false =>
      rw[if_neg (by simp),zf]
      rfl
mutual
def ij(deep:Nat)(left:Int):Expr->Bool×Int
 | .mk k n s l=>if left-1<0\/(decide (deep<32)&&gP (.mk k n s l))=false then(false,left-1)else gT (deep+1) (left-1) l
def gT(deep:Nat)(left:Int):List Expr->Bool×Int
 | []=>(true,left)
 | e::r=>if(ij deep left e).1=true then gT deep (ij deep left e).2 r else(false,(ij deep left e).2)
end
mutual
theorem HH:∀ (e:Expr) (d:Nat) (left:Int),0<=left->(ij d left e).1=(uw d e&&decide ((vy e:Int)<=left))/\((ij d left e).1=true->(ij d left e).2=left-vy e)/\(ij d left e).2<=left /\ -1<=(ij d left e).2
 | .mk k n s l,d,left,h=>by
  have e1:uw d (.mk k n s l)=((decide (d<32)&&gP (.mk k n s l))&&kY (d+1) l):=by unfold uw; rw[Bool.and_assoc]
  have e2:vy (.mk k n s l)=1+u6 l:=rfl
  unfold ij
  rw[e1,e2]
  by_cases c:left-1<0
  ·rw[if_pos (.inl c)]
   refine⟨?_,λh=>by simp at h,by omega,by dsimp only; omega⟩
   dsimp only
   rw[show decide (((1+u6 l:Nat):Int)<=left)=false from decide_eq_false (by omega),Bool.and_false]
  ·cases q:(decide (d<32)&&gP (.mk k n s l))with
   | false=>rw[if_pos (.inr rfl)]; exact⟨rfl,λh=>by simp at h,by dsimp only; omega,by dsimp only; omega⟩
   | true =>
    rw[if_neg (by rintro(h | h); exact c h; simp at h),Bool.true_and]
    obtain⟨h1,h2,h3,h4⟩:=Ce l (d+1) (left-1) (by omega)
    refine⟨?_,λh=>by rw[h2 h]; omega,by omega,by omega⟩
    rw[h1]
    congr 1
    exact decide_eq_decide.2 (by omega)
theorem Ce:∀ (l:List Expr) (d:Nat) (left:Int),0<=left->(gT d left l).1=(kY d l&&decide ((u6 l:Int)<=left))/\((gT d left l).1=true->(gT d left l).2=left-u6 l)/\(gT d left l).2<=left /\ -1<=(gT d left l).2
 | [],d,left,h=>by
  refine⟨?_,λ_ => ?_,Int.le_refl _,?_⟩
  ·show true=(true&&decide (((0:Nat):Int)<=left)); simp; omega
  ·show left=left-((0:Nat):Int); omega
  ·show -1<=left; omega
 | e::r,d,left,h=>by
  have e1:kY d (e::r)=(uw d e&&kY d r):=rfl
  have e2:u6 (e::r)=vy e+u6 r:=rfl
  obtain⟨h1,h2,h3,h4⟩:=HH e d left h
  unfold gT
  rw[e1,e2]
  cases q:(ij d left e).1 with
  | false =>
   rw[if_neg (by simp)]
   refine⟨?_,λh=>by simp at h,h3,h4⟩
   dsimp only
   rw[q]at h1
   cases ho:uw d e with
   | false=>rfl
   | true =>
    rw[ho,Bool.true_and]at h1
    have:=of_decide_eq_false h1.symm
    rw[show decide (((vy e+u6 r:Nat):Int)<=left)=false from decide_eq_false (by omega),Bool.and_false]
  | true =>
   rw[if_pos rfl]
   have hq:=h2 q
   rw[q]at h1
   have h1:=h1.symm
   rw[Bool.and_eq_true,decide_eq_true_eq]at h1
   obtain⟨g1,g2,g3,g4⟩:=Ce r d (ij d left e).2 (by omega)
   refine⟨?_,λh=>by rw[g2 h]; omega,by omega,by omega⟩
   rw[g1,h1.1,Bool.true_and]
   congr 1
   exact decide_eq_decide.2 (by omega)
end
theorem Ee(e:Expr)(deep:Nat)(left:Int)(h:allOk e)(hl:vy e<=1000000)(hl0:0<=left)(iU:left<=100000)(hd:deep<=32):(ku e (deep:Int) left).run=some (ij deep left e):=by
 unfold ku
 refine nC (λx:Expr×Int×Int=>allOk x.1/\0<=x.2.1/\x.2.1<=32/\vy x.1<=1000000/\0<=x.2.2/\x.2.2<=100000) (λx=>vy x.1) (λx=>ij x.2.1.toNat x.2.2 x.1) (λx hx g hg => ?_) (x:=(e,(deep:Int),left)) ⟨h,by dsimp only; omega,by dsimp only; omega,by dsimp only; omega,by dsimp only; omega,by dsimp only; omega⟩
 obtain⟨e,d,L⟩:=x
 obtain⟨ha,NS,EF,hn,zg9,hlf⟩:=hx
 dsimp only at ha NS EF hn zg9 hlf
 obtain⟨D,rfl⟩:∃ D:Nat,d=(D:Int):=⟨d.toNat,by omega⟩
 cases e with | mk k n s kids =>
 obtain⟨oX,Dz⟩:=ha
 have OA:vy (.mk k n s kids)=1+u6 kids:=by unfold vy; rfl
 rw[OA]at hn
 have ew:zI (L-1)=L-1:=zA (by omega) (by omega)
 have R4:=J8 (.mk k n s kids) oX
 simp only[Int.toNat_natCast]
 unfold bE
 rw[ew]
 have head:((.ite (decide ((L-1)<(0:Int))) (.ret (true,L-1)) (.ite (decide ((32:Int)<=(D:Int))) (.ret (true,L-1)) (T.bind (gU (.mk k n s kids)) λr=>.ret ((!r),L-1)))):T (Bool×Int)).run =
   some (decide (L-1<0\/(decide (D<32)&&gP (.mk k n s kids))=false),L-1):=by
  by_cases c0:L-1<0
  ·rw[za (decide_eq_true c0),z7,decide_eq_true (.inl c0)]
  ·rw[z8 (decide_eq_false c0)]
   by_cases c:D<32
   ·rw[z8 (decide_eq_false (by omega)),z6 R4,z7,decide_eq_true c,Bool.true_and]
    cases gP (.mk k n s kids)<;>simp[c0]
   ·rw[za (decide_eq_true (by omega)),z7,decide_eq_false c,Bool.false_and]
    simp
 rw[z6 head]
 dsimp only
 unfold ij
 by_cases q:L-1<0\/(decide (D<32)&&gP (.mk k n s kids))=false
 ·rw[za (decide_eq_true q),z7,if_pos q]
 ·rw[z8 (decide_eq_false q),if_neg q]
  have q1:¬ L-1<0:=λh=>q (.inl h)
  have hD:D<32:=by
   grind
  have ed:zI ((D:Int)+1)=((D+1:Nat):Int):=by rw[zA (by omega) (by omega)]; omega
  have loop:∃ z,(zZ (λy0 y1 y2=>g (y0,y1,y2)) kids (kids.length:Int) (((D:Int),()),((0:Int),L-1))).run=some z /\
    (((gT (D+1) (L-1) kids).1=true/\z=.inl (gT (D+1) (L-1) kids).2)\/((gT (D+1) (L-1) kids).1=false/\∃ i:Int,0<=i/\z=.inr (i,(gT (D+1) (L-1) kids).2))):=by
   refine T.qY (r:=zK (λy0 y1 y2=>g (y0,y1,y2)) kids (kids.length:Int)) (λst:(Int×Unit)×Int×Int=>∃ (j:Nat) (B:Int),st=(((D:Int),()),(j:Int),B)/\j<=kids.length/\0<=B/\B<=100000 /\
    gT (D+1) B (kids.drop j)=gT (D+1) (L-1) kids) (λst=>kids.length-st.2.1.toNat) _ (λst xR => ?_) ⟨0,L-1,rfl,by omega,by omega,by omega,by rw[List.drop_zero]⟩
   obtain⟨j,B,rfl,hj,hB0,hB,GZ⟩:=xR
   by_cases c:j<kids.length
   ·have Bs:kids.drop j=kids[j]::kids.drop (j+1):=List.drop_eq_getElem_cons c
    rw[Bs]at GZ
    rw[show gT (D+1) B (kids[j]::kids.drop (j+1))=if(ij (D+1) B kids[j]).1=true then gT (D+1) (ij (D+1) B kids[j]).2 (kids.drop (j+1))else(false,(ij (D+1) B kids[j]).2)from rfl]at GZ
    have nO:=fy Dz _ (List.getElem_mem c)
    have NQ:=HH kids[j] (D+1) B hB0
    have Ij:vy kids[j]<1+u6 kids:=by have:=mb (List.getElem_mem c); omega
    have Vf:=hg (kids[j],((D+1:Nat):Int),B) ⟨nO,by dsimp only; omega,by dsimp only; omega,by dsimp only; omega,by dsimp only; omega,by dsimp only; omega⟩ (by dsimp only; rw[OA]; exact Ij)
    dsimp only at Vf
    simp only[Int.toNat_natCast]at Vf
    have hf:(jM (λy0 y1 y2=>g (y0,y1,y2)) kids[j] (D:Int) B).run=some (!(ij (D+1) B kids[j]).1,(ij (D+1) B kids[j]).2):=by
     unfold jM
     rw[ed,z6 Vf]; rfl
    unfold zK
    dsimp only
    rw[za (vX c),zb (zH c),bC c,z6 hf]
    dsimp only
    cases hk:(ij (D+1) B kids[j]).1 with
    | true =>
     left
     rw[hk,if_pos rfl]at GZ
     rw[z8 (by rfl),z7]
     have hlen:=oy kids
     rw[fx j _ c (by omega)]
     have hb:=NQ.1
     rw[hk]at hb
     have hb:=hb.symm
     rw[Bool.and_eq_true,decide_eq_true_eq]at hb
     have h2:=NQ.2.1 hk
     refine⟨_,rfl,⟨j+1,(ij (D+1) B kids[j]).2,rfl,c,by omega,by omega,GZ⟩,?_⟩
     simp only[Int.toNat_natCast]
     omega
    | false =>
     right
     rw[hk,if_neg (by simp)]at GZ
     rw[za (by rfl),z7]
     exact⟨_,rfl,.inr ⟨by rw[<- GZ],(j:Int),by omega,by rw[<- GZ]⟩⟩
   ·right
    have hj2:j=kids.length:=by omega
    subst hj2
    rw[List.drop_length]at GZ
    unfold zK
    dsimp only
    rw[z8 (oz _),z7]
    exact⟨_,rfl,.inl ⟨by rw[<- GZ]; rfl,by rw[<- GZ]; rfl⟩⟩
  obtain⟨z,hz,hc⟩:=loop
  have hcf:(qh (λy0 y1 y2=>g (y0,y1,y2)) kids ((D:Int),()) (L-1)).run=some (!(gT (D+1) (L-1) kids).1,(gT (D+1) (L-1) kids).2):=by
   unfold qh qK
   rcases hc with⟨ho,rfl⟩ | ⟨ho,i,hi,rfl⟩
   ·have:((T.bind (zZ (λy0 y1 y2=>g (y0,y1,y2)) kids (kids.length:Int) (((D:Int),()),((0:Int),L-1)))<|Sum.elim (λv2=>.ret ((-1:Int),v2)) (λ(x2,v3)=>.ret (x2,v3))):T (Int×Int)).run=some (-1,(gT (D+1) (L-1) kids).2):=by
     rw[z6 hz]; rfl
    rw[z6 this,ho]; rfl
   ·have:((T.bind (zZ (λy0 y1 y2=>g (y0,y1,y2)) kids (kids.length:Int) (((D:Int),()),((0:Int),L-1)))<|Sum.elim (λv2=>.ret ((-1:Int),v2)) (λ(x2,v3)=>.ret (x2,v3))):T (Int×Int)).run=some (i,(gT (D+1) (L-1) kids).2):=by
     rw[z6 hz]; rfl
    rw[z6 this,ho,z7,decide_eq_true hi]; rfl
  rw[show Expr.kids (.mk k n s kids)=kids from rfl,z6 hcf]
  dsimp only
  rw[z7,Bool.not_not]
def Ea(e:Expr):Bool:=uw 0 e&&decide (vy e<=256)
theorem Oe(e:Expr)(h:allOk e)(hn:vy e<=1000000):(uX e).run=some (Ea e):=by
 unfold uX Ea
 have:=Ee e 0 256 h hn (by omega) (by omega) (by omega)
 have this:(ku e 0 256).run=some (ij 0 256 e):=this
 rw[z6 this,z7,(HH e 0 256 (by omega)).1]
 congr 2
 grind
theorem JN(e:Expr)(h:allOk e)(hb:bkE e<=1000000000)(hn:vy e<=100000):(yQ e).run=some (Ea e):=by
 unfold yQ Ea
 have h1:(lS e 1).run=some (uw 0 e):=M1 e 0 h (by omega) (by omega)
 rw[z6 h1]
 cases uw 0 e with
 | false=>rfl
 | true =>
  rw[zk,z6 (rX e hb),z7]
  congr 1
  grind
end Go.AM.Lf
