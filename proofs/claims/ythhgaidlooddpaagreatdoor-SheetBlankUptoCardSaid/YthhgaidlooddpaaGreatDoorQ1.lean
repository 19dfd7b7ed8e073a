/-
  Plain laws of the lifted program, part 1.
-/
import Derived.Test.YthhgaidlooddpaaGreatDoorLf0
import Derived.Test.YthhgaidlooddpaaGreatDoorAmA
import Derived.Test.YthhgaidlooddpaaGreatDoorAmD
import Derived.Test.YthhgaidlooddpaaGreatDoorQ0
set_option linter.unusedVariables false
open Go.AM.T (D4 Nk jZ lT nf q8 qA qu wK wZ yq z6 z7 z8 zL za zb zf zk zr)
namespace Go.AM.PL
def wH(b:UInt8):Bool:=decide (48<=b.toNat/\b.toNat<=57)
def qZ(s:zd):Bool:=s.all wH
def xv(s:zd):Nat:=s.foldl (λn b=>n*10+(b.toNat-48)) 0
theorem ND(s:zd)(n:Nat):s.foldl (λn b=>n*10+(b.toNat-48)) n=n*10 ^ s.length+xv s:=by
 unfold xv
 induction s generalizing n with
 | nil=>simp
 | cons b s ih =>
  grind
theorem X3(s t:zd):xv (s++t)=xv s*10 ^ t.length+xv t:=by
 have:=ND t (xv s)
 unfold xv at this ⊢
 grind
theorem XU(s:zd)(b:UInt8):xv (s++[b])=xv s*10+(b.toNat-48):=by
 unfold xv; rw[List.foldl_append]; rfl
theorem ss{b:UInt8}:wH b=true↔48<=b.toNat/\b.toNat<=57:=by unfold wH; simp
theorem HX{s:zd}(h:qZ s=true):xv s<10 ^ s.length:=by
 have key:∀ (s:zd) (n k:Nat),qZ s=true->n<10 ^ k->s.foldl (λn b=>n*10+(b.toNat-48)) n<10 ^ (k+s.length):=by
  intro s
  induction s with
  | nil=>simp
  | cons b s ih =>
   intro n k hd hn
   simp only[qZ,List.all_cons,Bool.and_eq_true]at hd
   have hb:=ss.1 hd.1
   have:=ih (n*10+(b.toNat-48)) (k+1) hd.2 (by rw[Nat.pow_succ]; omega)
   rw[List.foldl_cons,List.length_cons]
   rwa [show k+(s.length+1)=k+1+s.length by omega]
 have:=key s 0 0 h (by simp)
 simpa[xv]using this
theorem bR(s t:zd):qZ (s++t)=(qZ s&&qZ t):=by unfold qZ; rw[List.all_append]
theorem uC(b:UInt8)(t:zd):qZ (b::t)=(wH b&&qZ t):=rfl
theorem fD{s:zd}(h:qZ s=true):(zB (xv s)).length<=s.length+1:=by
 refine Nat.le_trans (JI (Nat.le_of_lt (HX h))) ?_
 refine zT.2 (Nat.lt_of_lt_of_le (Nat.pow_lt_pow_right (a:=10) (by omega) (Nat.lt_succ_self s.length)) ?_)
 exact Nat.pow_le_pow_left (by omega) _
def ox(s:zd):Option Nat:=if s=[]\/400<s.length\/qZ s=false then none else some (xv s)
theorem Jk(f:Nat->Bool):∀ (n k i:Nat),i<n->rT .bool (ep .bool n) (Oz (e:=.bool) f n k) i=f (k+i)
 | 0,_,_,h=>by omega
 | n+1,k,0,_=>by
  rfl
 | n+1,k,i+1,h=>by
  show rT .bool (ep .bool n) (Oz (e:=.bool) f n (k+1)) i=_
  rw[Jk f n (k+1) i (by omega)]
  grind
abbrev y6:zd:=[48,49,50,51,52,53,54,55,56,57]
theorem z3x:∀ c:Fin 256,y6.contains (UInt8.ofNat c.val)=decide (48<=c.val/\c.val<=57):=by decide +kernel
theorem uT{s:zd}{k:Nat}(h:k<s.length):zt s (k:Int)=((s[k]).toNat:Int):=by
 unfold zt; simp[h]
theorem ZB(b:UInt8)(s:zd):qz 1 (((b::s).length:Nat):Int) (b::s)=s:=by unfold qz; simp
theorem Nn(s:zd)(b:UInt8):qz 0 ((s.length:Nat):Int) (s++[b])=s:=by unfold qz; simp
end Go.AM.PL
namespace Go.AM.Lf
open PL
theorem QF(b:UInt8):(xO (dL y6) (b.toNat:Int)).run=some (wH b):=by
 have hb:b.toNat<256:=b.toNat_lt
 unfold xO
 rw[zb ⟨by omega,by omega⟩,z7]
 unfold dL
 rw[Int.toNat_natCast,Jk _ 256 0 _ hb,Nat.zero_add]
 exact congrArg some (z3x ⟨b.toNat,hb⟩)
theorem Y2(s:zd)(hs:s.length<=1000000000):∃ r,(vU s (dL y6)).run=some r/\qZ r=qZ s/\(qZ r=true->r=[])/\r.length<=s.length:=by
 have:=T.qU (r:=wG (dL y6)) (λt:zd=>qZ t=qZ s/\t.length<=s.length) (λt=>t.length) (λr:zd=>qZ r=qZ s/\(qZ r=true->r=[])/\r.length<=s.length) (λt ht => ?_) (s:=s) ⟨rfl,Nat.le_refl _⟩
 ·obtain⟨r,h1,h2⟩:=this
  have h1:(yo (dL y6) s).run=some r:=h1
  unfold vU
  rw[z6 h1]
  exact⟨r,rfl,h2⟩
 ·rcases List.eq_nil_or_concat t with rfl | ⟨l,b,rfl⟩
  ·right
   refine⟨[],?_,ht.1,λ_=>rfl,by simp⟩
   rfl
  ·rw[List.concat_eq_append]at ht ⊢
   have hl:(l++[b]).length=l.length+1:=by simp
   have e1:zI (((l++[b]).length:Int)-1)=(l.length:Int):=by rw[hl,zA (by omega) (by omega)]; omega
   have e2:zt (l++[b]) (l.length:Int)=(b.toNat:Int):=by rw[uT (by simp)]; simp
   unfold wG
   rw[za (decide_eq_true (by simp)),e1,qA _ (by omega) (by grind),e2,z6 (QF b)]
   cases hb:wH b with
   | false =>
    right
    refine⟨_,by rfl,ht.1,λh => ?_,ht.2⟩
    rw[bR,uC,hb]at h; simp at h
   | true =>
    left
    refine⟨l,by rw[z8 (by rfl),yq _ (by omega) (by omega) (by grind),z7,Nn],⟨?_,by omega⟩,by omega⟩
    rw[<- ht.1,bR,uC,hb]; simp[qZ]
theorem H3(s:zd)(hs:s.length<=1000000000):∃ r,(uk s (dL y6)).run=some r/\qZ r=qZ s/\(qZ r=true->r=[]):=by
 have:=T.qU (r:=vg (dL y6)) (λt:zd=>qZ t=qZ s) (λt=>t.length) (λr:zd=>qZ r=qZ s/\(qZ r=true->r=[])) (λt ht => ?_) (s:=s) rfl
 ·obtain⟨r,h1,h2⟩:=this
  have h1:(yC (dL y6) s).run=some r:=h1
  unfold uk
  rw[z6 h1]
  exact⟨r,rfl,h2⟩
 ·cases t with
  | nil =>
   right
   refine⟨[],?_,ht,λ_=>rfl⟩
   rfl
  | cons b l =>
   have e2:zt (b::l) 0=(b.toNat:Int):=rfl
   unfold vg
   rw[za (decide_eq_true (by simp)),qA _ (by omega) (by simp),e2,z6 (QF b)]
   cases hb:wH b with
   | false =>
    right
    refine⟨_,by rfl,ht,λh => ?_⟩
    rw[uC,hb]at h; simp at h
   | true =>
    left
    refine⟨l,by rw[z8 (by rfl),yq _ (by omega) (by grind) (by omega),z7,ZB],?_,by simp⟩
    rw[<- ht,uC,hb]; rfl
theorem Hv:∀ (j:Nat) b,y6[j]? = some b->b.toNat<128:=by
 intro j b h
 have:b∈y6:=List.mem_of_getElem? h
 simp at this
 rcases this with rfl | rfl | rfl | rfl | rfl | rfl | rfl | rfl | rfl | rfl<;>decide
theorem Vo(s:zd)(hs:s.length<=1000000000)(hn:s≠[]):∃ r,(ya s y6).run=some r/\zi r []=qZ s:=by
 obtain⟨r1,a1,a2,a3,a4⟩:=Y2 s hs
 obtain⟨r,b1,b2,b3⟩:=H3 r1 (by omega)
 refine⟨r,?_,?_⟩
 ·have hm:(strings_makeASCIISet y6).run=some (dL y6,true):=by
   unfold strings_makeASCIISet
   rw[zb ⟨by decide,Hv⟩,z7]
  have e1:zi s []=false:=by rw[xR]; simpa using hn
  unfold ya
  rw[z8 (by rw[e1]; rfl),zb (λh=>by grind),z8 (by rfl),z6 hm,zk,z6 a1,z6 b1,z7]
 ·rw[xR]
  rw[a2]at b2
  cases h:qZ s with
  | true=>grind
  | false =>
   rw[h]at b2
   refine decide_eq_false λz => ?_
   subst z; cases b2
theorem z8D(v:Nat)(b:UInt8)(hb:wH b=true):zV (YF ((b.toNat:Int)-48))=((b.toNat-48:Nat):Int):=by
 have:=ss.1 hb
 rw[JZ (by omega) (by omega),qy (by omega) (by omega)]; omega
theorem Yx:zq [(10:Int)]:=by intro x hx; simp at hx; omega
theorem cS(s:zd)(hs:s.length<=1000000000):(vY s).run=some (match ox s with | some n=>(zB n,true) | none=>([],false)):=by
 unfold vY ox
 by_cases c1:s=[]
 ·subst c1; rw[if_pos (.inl rfl)]; rfl
 ·have e1:zi s []=false:=by rw[xR]; simpa using c1
  by_cases c2:400<s.length
  ·have hg:(.ite (zi s ([]:zd)) (.ret true) (.ite (decide ((400:Int)<(Nat.cast (List.length s):Int))) (.ret true) (T.bind (ya s ([48,49,50,51,52,53,54,55,56,57]:zd)) λr=>.ret (!(zi r ([]:zd))))):T Bool).run=some true:=by
    rw[z8 e1,za (decide_eq_true (by omega)),z7]
   rw[z6 hg,if_pos (.inr (.inl c2))]; rfl
  ·obtain⟨r,h1,h2⟩:=Vo s hs c1
   have hg:(.ite (zi s ([]:zd)) (.ret true) (.ite (decide ((400:Int)<(Nat.cast (List.length s):Int))) (.ret true) (T.bind (ya s ([48,49,50,51,52,53,54,55,56,57]:zd)) λr=>.ret (!(zi r ([]:zd))))):T Bool).run=some (!(qZ s)):=by
    rw[z8 e1,z8 (decide_eq_false (by omega)),z6 h1,z7,h2]
   rw[z6 hg]
   cases hd:qZ s with
   | false=>simp
   | true =>
    rw[if_neg (by simp[c1]; omega),z8 (by rfl)]
    have hL:(Qa s (s.length:Int) ([],0)).run=some (zB (xv s)):=by
     have:=wK (r:=bF s (s.length:Int)) (λst:List Int×Int=>∃ k:Nat,st=(zB (xv (s.take k)),(k:Int))/\k<=s.length) (λst=>s.length-st.2.toNat) (λ_=>zB (xv s)) (λst xV => ?_) (s:=([],0)) ⟨0,by simp[xv,qs],by omega⟩
     ·exact this
     ·obtain⟨k,rfl,hk⟩:=xV
      by_cases c:k<s.length
      ·left
       have hb:wH s[k]=true:=List.all_eq_true.1 hd _ (List.getElem_mem c)
       have ht:qZ (s.take k)=true:=List.all_eq_true.2 λx hx=>List.all_eq_true.1 hd x (List.mem_of_mem_take hx)
       have hl:=fD ht
       have RL:(zB (xv (s.take k))).length<=500:=by rw[List.length_take]at hl; omega
       have hm:=rM (zB (xv (s.take k))) [10] (zp _) Yx (by omega) (by simp)
       rw[zN,show nv [10]=10 from rfl]at hm
       have hml:=iU (xv (s.take k)) 10
       have T6:(zB 10).length<=1:=zT.2 (by decide)
       have hd9:(zB (s[k].toNat-48)).length<=1:=zT.2 (by have:=ss.1 hb; show _<4294967296 ^ 1; omega)
       have ha:=BO (zB (xv (s.take k)*10)) (zB (s[k].toNat-48)) (zp _) (zp _) (by omega) (by omega)
       rw[zN,zN]at ha
       refine⟨(zB (xv (s.take (k+1))),((k+1:Nat):Int)),?_,⟨k+1,rfl,c⟩,by simp only[Int.toNat_natCast]; omega,rfl⟩
       unfold bF
       dsimp only
       rw[za (vQ c),z6 hm,zb (zG c),uT c,z8D 0 _ hb,z6 (gp _ (by have:=ss.1 hb; omega)),z6 ha,z7,eS k _ c (by omega),
        List.take_succ_eq_append_getElem c,XU]
      ·have:k=s.length:=by omega
       subst this
       right
       unfold bF
       dsimp only
       rw[z8 (oB _),z7,List.take_length]
    rw[z6 hL,z7]
end Go.AM.Lf
namespace Go.AM.PL
def Wa(t:zd):Option (Nat×Nat) :=
 if t.takeWhile wH=[]then none else match t.dropWhile wH with
 | []=>some (xv (t.takeWhile wH),1)
 | c::q=>if q=[]\/qZ q=false then none else if c=46 then some (xv (t.takeWhile wH)*10 ^ q.length+xv q,10 ^ q.length)
  else if c=47 then(if xv q=0 then none else some (xv (t.takeWhile wH),xv q))else none
theorem pG{u:zd}(h:qZ u=true)(r:zd)(hr:∀ c q,r=c::q->wH c=false):(u++r).takeWhile wH=u/\(u++r).dropWhile wH=r:=by
 induction u with
 | nil =>
  cases r with
  | nil=>simp
  | cons c q=>have:=hr c q rfl; simp[this]
 | cons b u ih =>
  rw[uC,Bool.and_eq_true]at h
  obtain⟨i1,i2⟩:=ih h.2
  simp[h.1,i1,i2]
theorem Xi{u:zd}(h:qZ u=true):Wa u=if u=[]then none else some (xv u,1):=by
 have:=pG h [] (λc q z=>by cases z)
 unfold Wa
 grind
theorem du{u:zd}(h:qZ u=true)(c:UInt8)(q:zd)(hc:wH c=false):Wa (u++c::q)=if u=[]then none else if q=[]\/qZ q=false then none else if c=46 then some (xv u*10 ^ q.length+xv q,10 ^ q.length)
  else if c=47 then(if xv q=0 then none else some (xv u,xv q))else none:=by
 have:=pG h (c::q) (λc' q' z=>by grind)
 unfold Wa
 grind
theorem C3{u:zd}(h:qZ u=true)(c:UInt8)(q:zd)(hc:wH c=false)(h1:c≠46)(h2:c≠47):Wa (u++c::q)=none:=by
 rw[du h c q hc,if_neg h1,if_neg h2]
 simp
theorem nQ{w:zd}(h:qZ w=false):∃ u c v,w=u++c::v/\qZ u=true/\wH c=false:=by
 induction w with
 | nil=>cases h
 | cons b w ih =>
  cases hb:wH b with
  | false=>exact⟨[],b,w,rfl,rfl,hb⟩
  | true =>
   rw[uC,hb,Bool.true_and]at h
   obtain⟨u,c,v,rfl,h1,h2⟩:=ih h
   exact⟨b::u,c,v,rfl,by rw[uC,hb,h1]; rfl,h2⟩
theorem JS{c:UInt8}{s:zd}(h:c∈s):∃ w q,s=w++c::q/\c ∉ w:=by
 induction s with
 | nil=>cases h
 | cons b s ih =>
  by_cases hb:b=c
  ·subst hb; exact⟨[],s,rfl,by simp⟩
  ·grind
theorem z3d(c:UInt8)(w q:zd)(h:c ∉ w):dZ (w++c::q) [c]=(w.length:Int):=by
 induction w with
 | nil=>simp[dZ]
 | cons b w ih =>
  unfold dZ
  grind
theorem Nr(c:UInt8)(s:zd)(h:c ∉ s):dZ s [c] = -1:=by
 induction s with
 | nil=>rfl
 | cons b w ih =>
  unfold dZ
  grind
theorem dt(c:UInt8)(w q:zd)(h:c ∉ w):wR (w++c::q) [c]=(w,q,true):=by
 unfold wR
 rw[z3d c w q h,if_pos (by omega)]
 simp
theorem kC(c:UInt8)(s:zd)(h:c ∉ s):wR s [c]=(s,[],false):=by
 unfold wR
 rw[Nr c s h,if_neg (by omega)]
theorem G6{s:zd}{n:Nat}(h:ox s=some n):s≠[]/\s.length<=400/\qZ s=true/\n=xv s:=by
 unfold ox at h
 grind
theorem QP{s:zd}(h1:s≠[])(h2:s.length<=400)(h3:qZ s=true):ox s=some (xv s):=by
 unfold ox
 grind
theorem nP{s:zd}(h:s=[]\/qZ s=false):ox s=none:=by
 unfold ox
 grind
end Go.AM.PL
namespace Go.AM.Lf
open PL
def qm:Rat:=(false,[],[],())
def oy(s:zd):Option (Nat×Nat):=Wa (ga s [45])
theorem rH(s p:zd):(ga s p).length<=s.length:=by unfold ga; split<;>simp
theorem IB(t:zd)(ht:t.length<=400)(neg:Bool) :
  (T.bind (strings_Cut t ([46]:zd)) λ(whole,part,ok) =>
   .ite ok
    (T.bind (vY part) λ(r,is) =>
     .zx (((List.length whole)+(List.length part))<=(4611686018427387904:Nat)) <|
     T.bind (vY (cat whole part)) λ(n,both) =>
     .ite ((zi whole ([]:zd))||((!is)||(!both)))
      (.ret ((false,(([]:List Int),(([]:List Int),()))),(2:Int)))
      (T.bind (sq (Nat.cast (List.length part):Int)) λr1 =>
       T.bind (ns neg n r1) λr2 =>
       .ret (r2,(0:Int))))
    (T.bind (strings_Cut t ([47]:zd)) λ(num,den,ok1) =>
     T.bind (vY num) λ(n1,is1) =>
     T.bind (vY (bif (!ok1)then([49]:zd)else den)) λ(d,both1) =>
     .ite ((!is1)||((!both1)||((Nat.cast (List.length d):Int)==(0:Int))))
      (.ret ((false,(([]:List Int),(([]:List Int),()))),(2:Int)))
      (T.bind (ns neg n1 d) λr3 =>
       .ret (r3,(0:Int)))):T (Rat×Int)).run=some (match Wa t with | some (n,d)=>(uz neg n d,(0:Int)) | none=>(qm,(2:Int))):=by
 have cx:∀ c:UInt8,(strings_Cut t [c]).run=some (wR t [c]):=λc=>by
  unfold strings_Cut; rw[zb (by omega),z7]
 rw[z6 (cx 46)]
 have h46:wH 46=false:=by decide
 have h47:wH 47=false:=by decide
 by_cases c1:(46:UInt8)∈t
 ·obtain⟨w,p,rfl,hw⟩:=JS c1
  rw[dt 46 w p hw]
  have hl:w.length+p.length+1<=400:=by simp at ht; omega
  dsimp only
  rw[zk,z6 (cS p (by omega))]
  have hwp:=cS (cat w p) (by rw[qc]; omega)
  by_cases d1:qZ w=true
  ·rw[du d1 46 p h46]
   by_cases d2:w=[]
   ·subst d2
    rw[if_pos rfl]
    generalize ox p=o at *
    cases o<;>(dsimp only; rw[zr _ (by simp; omega),z6 hwp]; generalize ox (cat [] p)=o2; cases o2<;>rfl)
   ·rw[if_neg d2]
    by_cases d3:p=[]\/qZ p=false
    ·rw[if_pos d3,nP d3]
     dsimp only
     rw[zr _ (by omega),z6 hwp]
     generalize ox (cat w p)=o2
     cases o2<;>(dsimp only; rw[za (by simp),z7]; rfl)
    ·rw[if_neg d3,if_pos rfl]
     have d4:p≠[]:=λz=>d3 (.inl z)
     have d5:qZ p=true:=by cases h:qZ p with | true=>rfl | false=>exact absurd (.inr h) d3
     have d6:qZ (cat w p)=true:=by rw[jx,bR,d1,d5]; rfl
     have d7:cat w p≠[]:=by rw[jx]; simp[d2]
     rw[QP d4 (by omega) d5]
     rw[QP d7 (by rw[qc]; omega) d6]at hwp
     dsimp only at hwp ⊢
     have e1:zi w []=false:=by rw[xR]; simpa using d2
     have T6:=iF p.length
     have hn:=fD d6
     have ho:=Zv neg (zB (xv (cat w p))) (zB (10 ^ p.length)) (zp _) (zp _) (by rw[qc]at hn; omega) (by omega)
     rw[zN,zN]at ho
     rw[zr _ (by omega),z6 hwp]
     dsimp only
     rw[z8 (by rw[e1]; rfl),z6 (pz p.length (by omega)),z6 ho,z7,jx,X3]
  ·have d1:qZ w=false:=by simpa using d1
   obtain⟨u,c,v,rfl,g1,g2⟩:=nQ d1
   have z2G:c≠46:=λz=>hw (by simp[z])
   have e:Wa (u++c::v++46::p)=none:=by
    rw[List.append_assoc,List.cons_append,du g1 c _ g2]
    have:qZ (v++46::p)=false:=by rw[bR,uC,h46]; simp
    grind
   rw[e]
   have kl:ox (cat (u++c::v) p)=none:=nP (.inr (by rw[jx,bR,d1]; rfl))
   rw[kl]at hwp
   generalize ox p=o at *
   cases o<;>(dsimp only; rw[zr _ (by omega),z6 hwp]; dsimp only; rw[za (by simp),z7]; rfl)
 ·rw[kC 46 t c1]
  dsimp only
  rw[zf,z6 (cx 47)]
  have fin:∀ (num den:zd) (x:Bool),num.length<=400->den.length<=400->(T.bind (vY num) λ(n1,is1) =>
     T.bind (vY (bif (!x)then([49]:zd)else den)) λ(d,both1) =>
     .ite ((!is1)||((!both1)||((Nat.cast (List.length d):Int)==(0:Int))))
      (.ret ((false,(([]:List Int),(([]:List Int),()))),(2:Int)))
      (T.bind (ns neg n1 d) λr3=>.ret (r3,(0:Int))):T (Rat×Int)).run =
     some (match ox num,ox (bif (!x)then([49]:zd)else den)with | some n,some d=>if d=0 then(qm,(2:Int))else(uz neg n d,(0:Int)) | _,_=>(qm,(2:Int))):=by
   intro num den x hn hd
   have hd2:(bif (!x)then([49]:zd)else den).length<=400:=by cases x<;>simp[hd]
   generalize (bif (!x)then([49]:zd)else den)=dd at *
   rw[z6 (cS num (by omega))]
   have N6:=cS dd (by omega)
   cases h1:ox num with
   | none =>
    dsimp only
    rw[z6 N6]
    rfl
   | some n =>
    dsimp only
    rw[z6 N6]
    cases h2:ox dd with
    | none=>rfl
    | some d =>
     obtain⟨a1,a2,a3,rfl⟩:=G6 h1
     obtain⟨b1,b2,b3,rfl⟩:=G6 h2
     dsimp only
     have l1:=fD a3
     have l2:=fD b3
     by_cases z:xv dd=0
     ·rw[z,qs,if_pos rfl]; rfl
     ·rw[if_neg z]
      have:(zB (xv dd)).length≠0:=λh=>z (xo.1 (List.eq_nil_of_length_eq_zero h))
      have ho:=Zv neg (zB (xv num)) (zB (xv dd)) (zp _) (zp _) (by omega) (by omega)
      rw[zN,zN]at ho
      rw[z8 (by simp; exact λh=>z (xo.1 h)),z6 ho,z7]
  by_cases c2:(47:UInt8)∈t
  ·obtain⟨w,q,rfl,hw⟩:=JS c2
   rw[dt 47 w q hw]
   have hl:w.length+q.length+1<=400:=by simp at ht; omega
   rw[fin w q true (by omega) (by omega)]
   rw[show(bif (!true)then([49]:zd)else q)=q from rfl]
   by_cases d1:qZ w=true
   ·rw[du d1 47 q h47]
    by_cases d2:w=[]
    ·rw[if_pos d2,nP (.inl d2)]
    ·rw[if_neg d2,QP d2 (by omega) d1]
     by_cases d3:q=[]\/qZ q=false
     ·rw[if_pos d3,nP d3]
     ·have d4:q≠[]:=λz=>d3 (.inl z)
      have d5:qZ q=true:=by cases h:qZ q with | true=>rfl | false=>exact absurd (.inr h) d3
      rw[if_neg d3,if_neg (by decide),if_pos rfl,QP d4 (by omega) d5]
      dsimp only
      split<;>rfl
   ·have d1:qZ w=false:=by simpa using d1
    obtain⟨u,c,v,rfl,g1,g2⟩:=nQ d1
    rw[nP (.inr d1)]
    have z6H:c≠47:=λz=>hw (by simp[z])
    have z2G:c≠46:=λz=>c1 (by simp[z])
    rw[List.append_assoc,List.cons_append,C3 g1 c _ g2 z2G z6H]
  ·rw[kC 47 t c2]
   rw[fin t [] false ht (by simp)]
   rw[show(bif (!false)then([49]:zd)else[])=[49]from rfl]
   have h1:ox [49]=some 1:=by decide
   rw[h1]
   by_cases d1:qZ t=true
   ·rw[Xi d1]
    by_cases d2:t=[]
    ·rw[if_pos d2,nP (.inl d2)]
    ·rw[if_neg d2,QP d2 ht d1]; rfl
   ·have d1:qZ t=false:=by simpa using d1
    rw[nP (.inr d1)]
    obtain⟨u,c,v,rfl,g1,g2⟩:=nQ d1
    have z6H:c≠47:=λz=>c2 (by simp[z])
    have z2G:c≠46:=λz=>c1 (by simp[z])
    rw[C3 g1 c _ g2 z2G z6H]
theorem tH(s:zd)(hs:s.length<=1000000000):(gK s).run=some (if 400<s.length then(qm,(3:Int))else match oy s with | some (n,d)=>(uz (List.isPrefixOf [45] s) n d,(0:Int)) | none=>(qm,(2:Int))):=by
 unfold gK
 by_cases c:400<s.length
 ·rw[za (decide_eq_true (by omega)),if_pos c,z7]; rfl
 ·have hp:(strings_CutPrefix s [45]).run=some (ga s [45],List.isPrefixOf [45] s):=rfl
  have hl:=rH s [45]
  rw[z8 (decide_eq_false (by omega)),if_neg c,z6 hp]
  exact IB _ (by omega) _
end Go.AM.Lf
namespace Go.AM.PL
theorem Ig(t:zd):∃ u r,t=u++r/\qZ u=true/\(∀ c q,r=c::q->wH c=false):=by
 induction t with
 | nil=>exact⟨[],[],rfl,rfl,λc q h=>by cases h⟩
 | cons b t ih =>
  cases hb:wH b with
  | false=>exact⟨[],b::t,rfl,rfl,λc q h=>by grind⟩
  | true =>
   obtain⟨u,r,rfl,h1,h2⟩:=ih
   exact⟨b::u,r,rfl,by rw[uC,hb,h1]; rfl,h2⟩
theorem BR{b:UInt8}:(decide ((48:Int)<=(b.toNat:Int))&&decide ((b.toNat:Int)<=57))=wH b:=by
 unfold wH
 grind
theorem Eu{b:UInt8}:(decide ((b.toNat:Int)<(48:Int))||decide ((57:Int)<(b.toNat:Int))) = !(wH b):=by
 unfold wH
 grind
end Go.AM.PL
namespace Go.AM.Lf
open PL
theorem MC{u r:zd}(hu:qZ u=true)(hr:∀ c q,r=c::q->wH c=false)(hl:(u++r).length<=1000000000):(fJ (u++r)).run=some (u.length:Int):=by
 have hL:(V1 (u++r) 0).run=some (u.length:Int):=by
  have:=wK (r:=iT (u++r)) (λi:Int=>∃ k:Nat,i=(k:Int)/\k<=u.length) (λi=>u.length-i.toNat) (λ_=>(u.length:Int)) (λi hi => ?_) (s:=0) ⟨0,rfl,by omega⟩
  ·exact this
  ·obtain⟨k,rfl,hk⟩:=hi
   unfold iT
   dsimp only
   by_cases c:k<u.length
   ·left
    have qD:k<(u++r).length:=by simp; omega
    have hg:(u++r)[k]=u[k]:=List.getElem_append_left c
    have hd:wH u[k]=true:=List.all_eq_true.1 hu _ (List.getElem_mem c)
    refine⟨((k+1:Nat):Int),?_,⟨k+1,rfl,c⟩,by simp only[Int.toNat_natCast]; omega,rfl⟩
    rw[zb (λ_=>⟨zG qD,λ_=>zG qD⟩),uT qD,hg,BR,hd,vQ qD,za (by rfl),z7,eS k _ qD (by omega)]
   ·right
    have hk:k=u.length:=by omega
    subst hk
    cases r with
    | nil =>
     have hf:decide ((u.length:Int)<(((u++([]:zd)).length:Nat):Int))=false:=decide_eq_false (by simp)
     rw[hf,zb (λh=>by cases h),z8 (by rfl),z7]
    | cons c q =>
     have qD:u.length<(u++c::q).length:=by simp
     have hg:(u++c::q)[u.length]=c:=by simp
     rw[zb (λ_=>⟨zG qD,λ_=>zG qD⟩),uT qD,hg,BR,hr c q rfl,vQ qD,z8 (by rfl),z7]
 unfold fJ
 rw[z6 hL,z7]
theorem oU{u:zd}(h1:u≠[])(h2:u.length<=400)(h3:qZ u=true):(gv u).run=some (zB (xv u),true):=by
 have hL:(tV u ([],0)).run=some (.inl (zB (xv u))):=by
  have:=wK (r:=cP u) (λst:List Int×Int=>∃ k:Nat,st=(zB (xv (u.take k)),(k:Int))/\k<=u.length) (λst=>u.length-st.2.toNat) (λ_=>(.inl (zB (xv u)):List Int⊕Bool)) (λst xV => ?_) (s:=([],0)) ⟨0,by simp[xv,qs],by omega⟩
  ·exact this
  ·obtain⟨k,rfl,hk⟩:=xV
   unfold cP
   dsimp only
   by_cases c:k<u.length
   ·left
    have hb:wH u[k]=true:=List.all_eq_true.1 h3 _ (List.getElem_mem c)
    have hbb:=ss.1 hb
    have ht:qZ (u.take k)=true:=List.all_eq_true.2 λx hx=>List.all_eq_true.1 h3 x (List.mem_of_mem_take hx)
    have hl:=fD ht
    have RL:(zB (xv (u.take k))).length<=500:=by rw[List.length_take]at hl; omega
    have hm:=bu (zB (xv (u.take k))) [10] (zp _) Yx (by omega) (by simp)
    rw[zN,show nv [10]=10 from rfl]at hm
    have hml:=iU (xv (u.take k)) 10
    have T6:(zB 10).length<=1:=zT.2 (by decide)
    have hd:w6 (YF ((u[k].toNat:Int)-48))=((u[k].toNat-48:Nat):Int):=by rw[JZ (by omega) (by omega),sP (by omega) (by omega)]; omega
    have ha:=nN (zB (xv (u.take k)*10)) [((u[k].toNat-48:Nat):Int)] (zp _) (by intro x hx; simp at hx; omega) (by omega) (by simp)
    rw[zN,show nv [((u[k].toNat-48:Nat):Int)]=u[k].toNat-48 by rw[iL,GU]; omega]at ha
    refine⟨(zB (xv (u.take (k+1))),((k+1:Nat):Int)),?_,⟨k+1,rfl,c⟩,by simp only[Int.toNat_natCast]; omega,rfl⟩
    rw[za (vQ c),zb ⟨zG c,λ_=>zG c⟩,uT c,Eu,hb,z8 (by rfl),z6 hm,zb (zG c),hd,z6 ha,z7,eS k _ c (by omega),
     List.take_succ_eq_append_getElem c,XU]
   ·have:k=u.length:=by omega
    subst this
    right
    rw[z8 (oB _),z7,List.take_length]
 have hlen:0<u.length:=List.length_pos_iff.2 h1
 have hg:(decide ((u.length:Int)<1)||decide ((400:Int)<(u.length:Int)))=false:=by rw[decide_eq_false (by omega),decide_eq_false (by omega)]; rfl
 unfold gv
 rw[z8 hg,z6 hL]; rfl
theorem yJ:(yy 0).run=some (toR 0):=by
 have h:=lj 0 (by omega)
 rw[qs]at h
 have h2:=iK false [] [1] gV QS (by simp) (by simp)
 rw[show nv []=0 from rfl,show nv [1]=1 from rfl,z0G,Ve]at h2
 unfold yy
 rw[show(bif (decide ((0:Int)<0))then(zV ((0:Int)-(zV 0)))else(zV 0))=((0:Nat):Int)from by decide,show decide ((0:Int)<0)=false from by decide,z6 h,z6 h2,z7]
theorem SO(neg:Bool)(n:Nat):uz neg n 1=uz neg (nv (zB n)) (nv [1]):=by simp
theorem Sx(t:zd)(ht:t.length<=400)(neg:Bool) :
  (T.bind (fJ t) λk =>
   .zx (wW (0:Int) k (List.length t)) <|
   .zx (wW k (Nat.cast (List.length t):Int) (List.length t)) <|
   .ite (k==(0:Int))
    (T.bind (yy (0:Int)) λr1 =>
     .ret (r1,(2:Int)))
    (T.bind (gv (qz (0:Int) k t)) λ(n,r2) =>
     .ite (zi (qz k (Nat.cast (List.length t):Int) t) ([]:zd))
      (T.bind (cX neg n ([(1:Int)]:List Int)) λr3 =>
       .ret (r3,(0:Int)))
      (.zx (wW (1:Int) (Nat.cast (List.length (qz k (Nat.cast (List.length t):Int) t)):Int) (List.length (qz k (Nat.cast (List.length t):Int) t))) <|
       T.bind (fJ (qz (1:Int) (Nat.cast (List.length (qz k (Nat.cast (List.length t):Int) t)):Int) (qz k (Nat.cast (List.length t):Int) t))) λm =>
       .zx (((m==(0:Int))=false)->(((m != (zI ((Nat.cast (List.length (qz k (Nat.cast (List.length t):Int) t)):Int)-(1:Int))))=false)->((q9 (0:Int) (List.length (qz k (Nat.cast (List.length t):Int) t)))/\((((zt (qz k (Nat.cast (List.length t):Int) t) (0:Int)) != (46:Int))=true)->(q9 (0:Int) (List.length (qz k (Nat.cast (List.length t):Int) t))))))) <|
       .ite ((m==(0:Int))||((m != (zI ((Nat.cast (List.length (qz k (Nat.cast (List.length t):Int) t)):Int)-(1:Int))))||(((zt (qz k (Nat.cast (List.length t):Int) t) (0:Int)) != (46:Int))&&((zt (qz k (Nat.cast (List.length t):Int) t) (0:Int)) != (47:Int)))))
        (T.bind (yy (0:Int)) λr4 =>
         .ret (r4,(2:Int)))
        (.zx (wW (1:Int) (Nat.cast (List.length (qz k (Nat.cast (List.length t):Int) t)):Int) (List.length (qz k (Nat.cast (List.length t):Int) t))) <|
         T.bind (gv (qz (1:Int) (Nat.cast (List.length (qz k (Nat.cast (List.length t):Int) t)):Int) (qz k (Nat.cast (List.length t):Int) t))) λ(x,r5) =>
         .zx (q9 (0:Int) (List.length (qz k (Nat.cast (List.length t):Int) t))) <|
         .ite ((zt (qz k (Nat.cast (List.length t):Int) t) (0:Int))==(47:Int))
          (.ite ((Nat.cast (List.length x):Int)==(0:Int))
            (T.bind (yy (0:Int)) λr6 =>
             .ret (r6,(2:Int)))
            (T.bind (cX neg n x) λr7 =>
             .ret (r7,(0:Int))))
          (T.bind (rW m) λt =>
           T.bind (yS n t) λr8 =>
           T.bind (cZ r8 x) λr9 =>
           T.bind (cX neg r9 t) λr10 =>
           .ret (r10,(0:Int)))))):T (Rat×Int)).run=some (match Wa t with | some (n,d)=>(uz neg n d,(0:Int)) | none=>(toR 0,(2:Int))):=by
 obtain⟨u,r,rfl,h1,h2⟩:=Ig t
 have hl:u.length+r.length<=400:=by simpa using ht
 have hlen:(u++r).length=u.length+r.length:=by simp
 have c1:qz 0 (u.length:Int) (u++r)=u:=by unfold qz; simp
 have c2:qz (u.length:Int) (((u++r).length:Nat):Int) (u++r)=r:=by unfold qz; rw[Int.toNat_natCast,Int.toNat_natCast,List.take_length]; simp
 rw[z6 (MC h1 h2 (by omega)),yq _ (by omega) (by omega) (by omega),yq _ (by omega) (by omega) (by omega),c1,c2]
 by_cases d2:u=[]
 ·subst d2
  have e:Wa ([]++r)=none:=by
   cases r with
   | nil=>rfl
   | cons c q=>rw[du h1 c q (h2 c q rfl),if_pos rfl]
  rw[e,za (by rfl),z6 yJ,z7]
 ·have hu0:u.length≠0:=λz=>d2 (List.eq_nil_of_length_eq_zero z)
  have hn:=fD h1
  rw[z8 (by simpa using d2),z6 (oU d2 (by omega) h1)]
  dsimp only
  cases r with
  | nil =>
   have ho:=iK neg (zB (xv u)) [1] (zp _) QS (by omega) (by simp)
   rw[<- SO]at ho
   rw[za (by rfl),z6 ho,z7,List.append_nil,Xi h1,if_neg d2]
  | cons c q =>
   have hc:=h2 c q rfl
   have hq:(c::q).length=q.length+1:=rfl
   have e1:zi (c::q) []=false:=by rw[xR]; simp
   have e2:zI (((c::q).length:Int)-1)=(q.length:Int):=by rw[hq,zA (by omega) (by omega)]; omega
   have e3:zt (c::q) 0=(c.toNat:Int):=rfl
   obtain⟨u2,r2,rfl,k1,k2⟩:=Ig q
   have iI:(u2++r2).length=u2.length+r2.length:=by simp
   rw[z8 e1,yq _ (by omega) (by rw[hq]; omega) (by omega),ZB,z6 (MC k1 k2 (by omega)),e2,e3,du h1 c _ hc,if_neg d2]
   rw[zb (λ_ _=>⟨⟨by omega,by rw[hq]; omega⟩,λ_=>⟨by omega,by rw[hq]; omega⟩⟩)]
   by_cases d3:u2++r2=[]\/qZ (u2++r2)=false
   ·rw[if_pos d3]
    have hg:(((u2.length:Int)==0)||(((u2.length:Int) != (((u2++r2).length:Nat):Int))||(((c.toNat:Int) != 46)&&((c.toNat:Int) != 47))))=true:=by
     rcases d3 with d3 | d3
     ·grind
     ·cases r2 with
      | nil=>grind
      | cons a b=>grind
    rw[za hg,z6 yJ,z7]
   ·rw[if_neg d3]
    have d4:u2++r2≠[]:=λz=>d3 (.inl z)
    have d5:qZ (u2++r2)=true:=by cases h:qZ (u2++r2)with | true=>rfl | false=>exact absurd (.inr h) d3
    have d6:r2=[]:=by
     cases r2 with
     | nil=>rfl
     | cons a b =>
      rw[bR,uC,k2 a b rfl]at d5; simp at d5
    subst d6
    rw[List.append_nil]at *
    have Pq:u2.length≠0:=λz=>d4 (List.eq_nil_of_length_eq_zero z)
    have hcn:∀ x:UInt8,((c.toNat:Int)==(x.toNat:Int))=decide (c=x):=λx=>by
     by_cases z:c=x
     ·grind
     ·rw[decide_eq_false z]
      have:c.toNat≠x.toNat:=λh=>z (UInt8.toNat_inj.1 h)
      simp; omega
    have hg:(((u2.length:Int)==0)||(((u2.length:Int) != (u2.length:Int))||(((c.toNat:Int) != 46)&&((c.toNat:Int) != 47))))=(!decide (c=46) && !decide (c=47)):=by
     have a1:((c.toNat:Int)==46)=decide (c=46):=hcn 46
     have a2:((c.toNat:Int)==47)=decide (c=47):=hcn 47
     grind
    rw[hg]
    have hx:=fD k1
    have hp:=oU d4 (by omega) k1
    by_cases f1:c=46
    ·rw[if_pos f1,z8 (by simp[f1]),yq _ (by omega) (by rw[hq]; omega) (by omega),z6 hp]
     dsimp only
     have T6:=iF u2.length
     have hm:=HH (xv u) (10 ^ u2.length) (by omega) (by omega)
     have hml:=iU (xv u) (10 ^ u2.length)
     have ha:=Hu (xv u*10 ^ u2.length) (xv u2) (by omega) (by omega)
     have ot:=Dj (xv u*10 ^ u2.length) (xv u2) 5000 (by omega) (by omega)
     have ho:=iK neg (zB (xv u*10 ^ u2.length+xv u2)) (zB (10 ^ u2.length)) (zp _) (zp _) (by omega) (by omega)
     rw[zN,zN]at ho
     rw[qA _ (by omega) (by rw[hq]; omega),z8 (by rw[f1]; rfl),z6 (Br _ (by omega)),z6 hm,z6 ha,z6 ho,z7]
    ·rw[if_neg f1]
     by_cases f2:c=47
     ·rw[if_pos f2,z8 (by simp[f2]),yq _ (by omega) (by rw[hq]; omega) (by omega),z6 hp]
      dsimp only
      rw[qA _ (by omega) (by rw[hq]; omega),za (by rw[f2]; rfl),fh]
      by_cases z:xv u2=0
      ·rw[if_pos z,za (decide_eq_true z),z6 yJ,z7]
      ·have ho:=iK neg (zB (xv u)) (zB (xv u2)) (zp _) (zp _) (by omega) (by omega)
       rw[zN,zN]at ho
       rw[if_neg z,z8 (decide_eq_false z),z6 ho,z7]
     ·rw[if_neg f2,za (by simp[f1,f2]),z6 yJ,z7]
theorem rQ(s:zd)(hs:s.length<=1000000000):(kK s).run=some (if 400<s.length then(toR 0,(3:Int))else match oy s with | some (n,d)=>(uz (List.isPrefixOf [45] s) n d,(0:Int)) | none=>(toR 0,(2:Int))):=by
 unfold kK
 by_cases c:400<s.length
 ·rw[za (decide_eq_true (by omega)),if_pos c,z6 yJ,z7]
 ·rw[z8 (decide_eq_false (by omega)),if_neg c]
  have z6t:((!(zi s ([]:zd)))&&((zt s (0:Int))==(45:Int)))=List.isPrefixOf [45] s:=by
   cases s with
   | nil=>rfl
   | cons b l =>
    have e2:zt (b::l) 0=(b.toNat:Int):=rfl
    show(true&&_)=((45:UInt8)==b&&true)
    rw[Bool.true_and,Bool.and_true,Bool.eq_iff_iff]
    simp only[beq_iff_eq]
    constructor
    ·intro h; exact(UInt8.toNat_inj.1 (by grind))
    ·intro h; subst h; rfl
  have cx:(bif ((!(zi s ([]:zd)))&&((zt s (0:Int))==(45:Int)))then(qz (1:Int) (Nat.cast (List.length s):Int) s)else s)=ga s [45]:=by
   rw[z6t]
   unfold ga
   cases h:List.isPrefixOf [45] s with
   | false=>rfl
   | true =>
    cases s with
    | nil=>cases h
    | cons b l=>rw[if_pos rfl]; exact ZB b l
  have hl:=rH s [45]
  have core:=Sx (ga s [45]) (by omega) (List.isPrefixOf [45] s)
  have o1:((!(zi s ([]:zd)))=true)->(q9 (0:Int) (List.length s)):=λh=>by
   cases s with
   | nil=>cases h
   | cons b l=>exact⟨by omega,by simp⟩
  have o2:(((!(zi s ([]:zd)))&&((zt s (0:Int))==(45:Int)))=true)->(wW (1:Int) (Nat.cast (List.length s):Int) (List.length s)):=λh=>by
   cases s with
   | nil=>cases h
   | cons b l=>exact⟨by omega,by simp; omega,by omega⟩
  rw[zb o1,zb o2]
  simp only[cx]
  simp only[z6t]
  exact core
end Go.AM.Lf
namespace Go.AM.PL
theorem z3S(n:Nat):wH (Ou n)=true/\(Ou n).toNat-48=n % 10:=by
 have h:(Ou n).toNat=48+n % 10:=by unfold Ou; rw[UInt8.toNat_ofNat']; omega
 exact⟨ss.2 (by omega),by omega⟩
theorem Tn(n:Nat):qZ (F4 n)=true/\xv (F4 n)=n:=by
 induction n using Nat.strongRecOn with
 | _ n ih =>
  by_cases h:n=0
  ·subst h; rw[rj]; exact⟨rfl,rfl⟩
  ·obtain⟨h1,h2⟩:=ih (n / 10) (by omega)
   obtain⟨h3,h4⟩:=z3S n
   rw[si h]
   refine⟨by rw[bR,h1,uC,h3]; rfl,?_⟩
   rw[XU,h2,h4]; omega
theorem z3r(n:Nat):qZ (pr n)=true/\xv (pr n)=n:=by
 unfold pr
 split
 ·rename_i h; subst h; exact⟨by decide,by decide⟩
 ·exact Tn n
theorem z0t(k:Nat):qZ (kz [48] k)=true/\xv (kz [48] k)=0:=by
 induction k with
 | zero=>exact⟨rfl,rfl⟩
 | succ k ih =>
  show qZ ([48]++kz [48] k)=true/\xv ([48]++kz [48] k)=0
  rw[bR,X3,ih.1,ih.2]
  exact⟨by decide,by show 0*_+0=0; omega⟩
end Go.AM.PL
namespace Go.AM.Lf
open PL
theorem NO(s:zd)(k:Nat)(hk:k≠0)(hs:qZ s=true):∃ w p,OC s k=w++46::p/\qZ w=true/\w≠[]/\qZ p=true/\p.length=k/\xv w*10 ^ k+xv p=xv s/\w.length+k=max s.length (k+1):=by
 unfold OC
 rw[if_neg hk]
 have hr:=z0t (k+1-s.length)
 have hl:=QW (k+1-s.length)
 have hd:qZ (kz [48] (k+1-s.length)++s)=true:=by rw[bR,hr.1,hs]; rfl
 have hv:xv (kz [48] (k+1-s.length)++s)=xv s:=by rw[X3,hr.2]; omega
 have hlen:(kz [48] (k+1-s.length)++s).length=(k+1-s.length)+s.length:=by rw[List.length_append,hl]
 generalize kz [48] (k+1-s.length)++s=t at *
 refine⟨t.take (t.length-k),t.drop (t.length-k),by simp,?_,?_,?_,by grind,?_,by simp; omega⟩
 ·exact List.all_eq_true.2 λx hx=>List.all_eq_true.1 hd x (List.mem_of_mem_take hx)
 ·intro z
  have:=congrArg List.length z
  grind
 ·exact List.all_eq_true.2 λx hx=>List.all_eq_true.1 hd x (List.mem_of_mem_drop hx)
 ·have:=X3 (t.take (t.length-k)) (t.drop (t.length-k))
  rw[List.take_append_drop,hv,List.length_drop,show t.length-(t.length-k)=k by omega]at this
  grind
theorem Gp(b:Bool)(N D:Nat)(hD:D≠0):∀ (f k:Nat) (s:zd),xC b N D k f=(s,true)->∃ j,k<=j/\j<k+f/\N*10 ^ j % D=0/\s=OM b++OC (pr (N*10 ^ j / D)) j
 | 0,k,s,h=>by unfold xC at h; cases h
 | f+1,k,s,h=>by
  unfold xC at h
  split at h
  ·grind
  ·obtain⟨j,h1,h2,h3,h4⟩:=Gp b N D hD f (k+1) s h
   grind
theorem z1t{t:zd}{n d:Nat}(h:Wa t=some (n,d)):n<10 ^ t.length/\d<=10 ^ t.length:=by
 obtain⟨u,r,rfl,h1,h2⟩:=Ig t
 have hu:=HX h1
 cases r with
 | nil =>
  rw[List.append_nil,Xi h1]at h
  split at h
  ·cases h
  ·cases h
   rw[List.append_nil]
   exact⟨hu,Nat.one_le_pow _ _ (by omega)⟩
 | cons c q =>
  rw[du h1 c q (h2 c q rfl)]at h
  have hl:(u++c::q).length=u.length+q.length+1:=by simp; omega
  have mono:∀ {a b:Nat},a<=b->10 ^ a<=10 ^ b:=λh=>Nat.pow_le_pow_right (by omega) h
  split at h
  ·cases h
  ·split at h
   ·cases h
   ·rename_i hq
    have hd:qZ q=true:=by cases hh:qZ q with | true=>rfl | false=>exact absurd (.inr hh) hq
    have hq1:=HX hd
    rw[hl]
    split at h
    ·cases h
     refine⟨?_,mono (by omega)⟩
     have e:10 ^ (u.length+q.length)<=10 ^ (u.length+q.length+1):=mono (by omega)
     rw[Nat.pow_add]at e
     have:(xv u+1)*10 ^ q.length<=10 ^ u.length*10 ^ q.length:=Nat.mul_le_mul_right _ hu
     rw[Nat.add_mul,Nat.one_mul]at this
     omega
    ·split at h
     ·split at h
      ·cases h
      ·cases h
       have e1:10 ^ u.length<=10 ^ (u.length+q.length+1):=mono (by omega)
       have e2:10 ^ q.length<=10 ^ (u.length+q.length+1):=mono (by omega)
       omega
     ·cases h
theorem zdG:10 ^ 400<4294967296 ^ 42:=by decide +kernel
theorem Tk{n k:Nat}(h:n<=10 ^ k)(hk:k<=400):(zB n).length<=42 :=
 zT.2 (Nat.lt_of_le_of_lt (Nat.le_trans h (Nat.pow_le_pow_right (by omega) hk)) zdG)
theorem Wf{s:zd}{n d:Nat}(neg:Bool)(hs:s.length<=400)(h:oy s=some (n,d)):vM 50 (uz neg n d):=by
 have hl:=rH s [45]
 obtain⟨h1,h2⟩:=z1t h
 exact IU _ _ _ _ (by omega) (Nat.le_trans (Tk (by omega) (by omega:(ga s [45]).length<=400)) (by omega)) (Nat.le_trans (Tk h2 (by omega)) (by omega))
def ZO{α:Type}(p:α->Bool)(i:Int):List α->Int
 | [] => -1
 | x::r=>if p x=true then i else ZO p (i+1) r
end Go.AM.Lf
namespace Go.AM.T
theorem zg{α β:Type}(a:β)(t:T α):(zx (a=a) t).run=t.run:=by simp
end Go.AM.T
namespace Go.AM.Lf
open PL
abbrev zgQ:Ty:=.cons .str (.cons wL .nil)
abbrev ItT:=den zgQ
theorem bV{α:Type}{l:List α}{k:Nat}(h:k<l.length)(d:α):nth l (k:Int) d=l[k]:=by simp[nth,h]
theorem Vd(s:zd):(bytesOf s).length=s.length:=by unfold bytesOf; simp
theorem D5(s t:zd):bytesOf (s++t)=bytesOf s++bytesOf t:=by unfold bytesOf; simp
theorem Cs(s:zd):qQ (bytesOf s)=s:=by
 unfold qQ bytesOf
 rw[List.map_map]
 conv=>rhs; rw[<- List.map_id s]
 refine List.map_congr_left λb _ => ?_
 simp[byteOf]
theorem Yb(s:zd):∀ n∈bytesOf s,(0:Int)<=n/\n<256:=by
 intro n hn
 obtain⟨b,_,rfl⟩:=List.mem_map.1 hn
 have:=b.toNat_lt
 omega
theorem uD(s b:zd)(h:b.length+s.length<=140737488355328):(qi s () (bytesOf b)).run=some ((s.length:Int),(),bytesOf (b++s)):=by
 unfold qi lO
 simp only[T.bind]
 rw[q8 _ rfl rfl rfl,zb rfl,jZ _ rfl rfl rfl (by simp[Vd]; omega),q8 _ (by simp) rfl (by simp),zb (by simp),z7,D5]
theorem Kv(b:zd)(h:b.length<=140737488355328):(nH () (bytesOf b)).run=some (b,()):=by
 unfold nH z47
 rw[zb ⟨Yb b,by rw[Vd]; exact h⟩,z7,Cs]
def zcd(x:ItT):zd:=x.1++[32]++lM (norm x.2.1)++[10]
def JJ(b:UInt8):Bool:=decide (97<=(b.toNat:Int))&&decide ((b.toNat:Int)<=122)
def wb(b:UInt8):Bool:=JJ b||((decide (48<=(b.toNat:Int))&&decide ((b.toNat:Int)<=57))||((b.toNat:Int)==95))
def zS(s:zd):Bool:=match s with | []=>false | b::_=>decide (s.length<=24)&&(JJ b&&s.all wb)
theorem pT(b:UInt8):(vV (b.toNat:Int)).run=some (wb b):=by
 have h1:(ve (b.toNat:Int)).run=some (JJ b):=rfl
 have h2:(xX (b.toNat:Int)).run=some (decide (48<=(b.toNat:Int))&&decide ((b.toNat:Int)<=57)):=rfl
 unfold vV wb
 rw[z6 h1]
 cases JJ b with
 | true=>rfl
 | false =>
  rw[zf,z6 h2]
  cases(decide (48<=(b.toNat:Int))&&decide ((b.toNat:Int)<=57))with
  | true=>rfl
  | false=>rfl
theorem xW(s:zd):(xD s).run=some (zS s):=by
 unfold xD
 cases s with
 | nil=>rfl
 | cons b r =>
  have e0:zi (b::r) []=false:=by rw[xR]; simp
  rw[e0]
  by_cases c:24<(b::r).length
  ·have:(T.ite false (.ret true) (.ite (decide ((24:Int)<((b::r).length:Int))) (.ret true) (.zx (q9 (0:Int) (List.length (b::r)))<|T.bind (ve (zt (b::r) (0:Int))) λr=>.ret (!r))):T Bool).run=some true:=by
    rw[zf,za (decide_eq_true (by omega)),z7]
   rw[z6 this,zk,z7]
   unfold zS
   grind
  ·have hb:zt (b::r) (0:Int)=(b.toNat:Int):=uT (s:=b::r) (k:=0) (by simp)
   have h1:(ve (b.toNat:Int)).run=some (JJ b):=rfl
   have:(T.ite false (.ret true) (.ite (decide ((24:Int)<((b::r).length:Int))) (.ret true) (.zx (q9 (0:Int) (List.length (b::r)))<|T.bind (ve (zt (b::r) (0:Int))) λr=>.ret (!r))):T Bool).run=some (!JJ b):=by
    rw[zf,z8 (decide_eq_false (by omega)),zb (by refine⟨by omega,?_⟩; simp only[List.length_cons]; omega),hb,z6 h1,z7]
   rw[z6 this]
   unfold zS
   dsimp only
   rw[decide_eq_true (by omega),Bool.true_and]
   cases JJ b with
   | false=>rfl
   | true =>
    rw[z8 (by rfl),Bool.true_and]
    have key:(Q9 (b::r) ((b::r).length:Int) 0).run=some (if(b::r).all wb=true then .inl ()else .inr false):=by
     refine T.se (r:=kZ (b::r) ((b::r).length:Int)) (b::r) (0:UInt8) (λ(_:Unit) i=>i) (λ_ _=>True) (λl _=>(if l.all wb=true then .inl ()else .inr false:Unit⊕Bool)) (λk _ x xs hk hx hm hd hI => ?_) (λ_ _ => ?_) (b:=()) trivial
     ·have hxk:(b::r)[k]=x:=by rw[<- hx]; unfold nth; rw[Int.toNat_natCast,List.getD_eq_getElem?_getD,List.getElem?_eq_getElem hk]; rfl
      have Ep:zt (b::r) (k:Int)=(x.toNat:Int):=by rw[uT hk,hxk]
      cases Vm:wb x with
      | true =>
       left
       refine⟨(),?_,trivial,?_⟩
       ·unfold kZ
        rw[za (vQ hk),zb (zG hk),Ep,z6 (pT x),Vm,z8 (by rfl),z7,eS k _ hk (by omega)]
       ·grind
      | false =>
       right
       unfold kZ
       rw[za (vQ hk),zb (zG hk),Ep,z6 (pT x),Vm,za (by rfl),z7,List.all_cons,Vm]
       rfl
     ·unfold kZ
      simp
    rw[z6 key]
    cases h:(b::r).all wb with
    | true=>rfl
    | false=>rfl
theorem tM(l:List zd)(v:zd)(hl:l.length<=1000000000):(xd l v).run=some (PL.ZO (λs=>zi v s) 0 l):=by
 have key:(yh l v (l.length:Int) 0).run=some (if PL.ZO (λs=>zi v s) 0 l = -1 then .inl ()else .inr (PL.ZO (λs=>zi v s) 0 l)):=by
  refine PL.Xl (r:=xb l v (l.length:Int)) l (zn .str) _ (λi h0 h hp => ?_) (λi h0 h hp => ?_) (λi h => ?_)
  ·unfold xb
   rw[za (decide_eq_true h),zb ⟨h0,h⟩,za hp,z7]
  ·unfold xb
   rw[za (decide_eq_true h),zb ⟨h0,h⟩,z8 hp,z7,zA (by omega) (by omega)]
  ·unfold xb
   rw[z8 (decide_eq_false h),z7]
 unfold xd
 rw[z6 key]
 split<;>rename_i h
 ·rw[h]; rfl
 ·rfl
mutual
/-- What an expression weighs. -/
def szE:Expr->Nat
 | .mk _ n s l=>3+s.length+8*n.2.1.length+8*n.2.2.1.length+szEs l
def szEs:List Expr->Nat
 | []=>0
 | e::r=>szE e+szEs r
end
def trimB(l:List Int):Bool:=zB (nv l)==l
def ou(a:Rat):Bool:=trimB a.2.1&&(trimB a.2.2.1&&(!(nv a.2.2.1==0)&&(!(a.1&&(nv a.2.1==0))&&(Nat.gcd (nv a.2.1) (nv a.2.2.1)==1))))
theorem jJ{l:List Int}(h:zq l):trimB l=true↔WZ l:=by
 unfold trimB
 constructor
 ·intro e
  have e:zB (nv l)=l:=by simpa using e
  rw[<- e]; exact sd _
 ·intro ht
  rw[Z6 h ht]; simp
theorem UN(l:List Int)(h:zq l)(hl:l.length<=1000000000):(fY l).run=some (trimB l):=by
 unfold fY
 cases l with
 | nil =>
  rw[zb (λh=>by simp at h),z7]
  have e:trimB []=true:=by unfold trimB; rw[show nv []=0 from rfl,qs]; rfl
  rw[e]; rfl
 | cons x r =>
  obtain⟨n,hn⟩:∃ n,(x::r).length=n+1:=⟨r.length,rfl⟩
  have ew:zI (((x::r).length:Int)-1)=(n:Int):=by rw[hn,zA (by omega) (by omega)]; omega
  have Pj:n<(x::r).length:=by omega
  have e0:(((x::r).length:Int)==0)=false:=by rw[hn]; simp; omega
  have hg:(x::r).getLast? = some ((x::r)[n]):=by
   rw[List.getLast?_eq_getElem?,hn,Nat.add_sub_cancel,List.getElem?_eq_getElem Pj]
  rw[zb (λ_=>by rw[ew]; exact zG Pj),z7,ew,bV Pj,e0,Bool.false_or]
  congr 1
  cases hq:((x::r)[n] != 0)with
  | true =>
   symm
   rw[jJ h]
   intro y hy
   rw[hg]at hy
   cases hy
   simpa using hq
  | false =>
   symm
   rw[Bool.eq_false_iff]
   intro ht
   have:=(jJ h).1 ht _ hg
   simp at hq
   exact this hq
theorem Z8(a:Rat)(h:vM 100000000 a):(Zn a).run=some (ou a):=by
 obtain⟨h1,h2,h3,h4⟩:=h
 unfold Zn ou
 have n1:=UN a.2.1 h1 (by omega)
 have n2:=UN a.2.2.1 h2 (by omega)
 have hzD:trimB a.2.2.1=true->(((a.2.2.1.length:Int))==0)=(nv a.2.2.1==0):=λht=>by
  have e:zB (nv a.2.2.1)=a.2.2.1:=Z6 h2 ((jJ h2).1 ht)
  conv=>lhs; rw[<- e]
  rw[fh]
  cases q:decide (nv a.2.2.1=0)<;>simp_all
 have hzN:trimB a.2.1=true->(((a.2.1.length:Int))==0)=(nv a.2.1==0):=λht=>by
  have e:zB (nv a.2.1)=a.2.1:=Z6 h1 ((jJ h1).1 ht)
  conv=>lhs; rw[<- e]
  rw[fh]
  cases q:decide (nv a.2.1=0)<;>simp_all
 have hg:=Wp a.2.1 a.2.2.1 h1 h2 (by omega) (by omega)
 have Vv:(gy 1).run=some (zB 1):=gp 1 (by omega)
 have hc:∀ g:Nat,(zB g).length<=100000001->(n3 (zB g) (zB 1)).run=some (tc g 1):=λg hl=>by
  have:=rE (zB g) (zB 1) (zp _) (zp _) (by omega) (by rw[ez]; simp)
  rwa [zN,zN]at this
 have head:∀ b:Bool,((T.bind (fY a.2.1) λr=>.ite (!r) (.ret true) (T.bind (fY a.2.2.1) λr1=>.ite (!r1) (.ret true) (.ite ((a.2.2.1.length:Int)==(0:Int)) (.ret true) (.ite a.1 (.ret ((a.2.1.length:Int)==(0:Int))) (.ret false))))):T Bool).run =
   some (!(trimB a.2.1&&(trimB a.2.2.1&&(!(nv a.2.2.1==0) && !(a.1&&(nv a.2.1==0)))))):=λ_=>by
  rw[z6 n1]
  cases t1:trimB a.2.1 with
  | false=>rfl
  | true =>
   rw[z8 (by rfl),z6 n2]
   cases t2:trimB a.2.2.1 with
   | false=>rfl
   | true =>
    rw[z8 (by rfl),hzD t2]
    cases nv a.2.2.1==0 with
    | true=>rfl
    | false =>
     rw[zf,hzN t1]
     cases a.1 with
     | true=>rw[zk,z7]; cases nv a.2.1==0<;>rfl
     | false=>rfl
 rw[z6 (head true)]
 cases hb:(trimB a.2.1&&(trimB a.2.2.1&&(!(nv a.2.2.1==0) && !(a.1&&(nv a.2.1==0)))))with
 | false =>
  rw[za (by rfl),z7]
  congr 1
  generalize (Nat.gcd (nv a.2.1) (nv a.2.2.1)==1)=g
  revert hb
  cases trimB a.2.1<;>cases trimB a.2.2.1<;>cases(nv a.2.2.1==0)<;>cases a.1<;>cases(nv a.2.1==0)<;>simp
 | true =>
  rw[z8 (by rfl),z6 hg,z6 Vv]
  have hle:(zB (Nat.gcd (nv a.2.1) (nv a.2.2.1))).length<=100000001:=by
   simp only[Bool.and_eq_true,Bool.not_eq_true',beq_eq_false_iff_ne]at hb
   have hd:0<nv a.2.2.1:=Nat.pos_of_ne_zero hb.2.2.1
   have m1:=JI (Nat.gcd_le_right (nv a.2.1) hd)
   have m2:=q7 h2
   omega
  rw[z6 (hc _ hle),z7]
  congr 1
  have hgc:(tc (Nat.gcd (nv a.2.1) (nv a.2.2.1)) 1==0)=(Nat.gcd (nv a.2.1) (nv a.2.2.1)==1):=by
   generalize Nat.gcd (nv a.2.1) (nv a.2.2.1)=g
   unfold tc
   by_cases q1:g<1
   ·rw[if_pos q1]; simp; omega
   ·by_cases q2:1<g
    ·rw[if_neg q1,if_pos q2]; simp; omega
    ·have:g=1:=by omega
     subst this; rfl
  rw[hgc]
  revert hb
  generalize (Nat.gcd (nv a.2.1) (nv a.2.2.1)==1)=g
  cases trimB a.2.1<;>cases trimB a.2.2.1<;>cases(nv a.2.2.1==0)<;>cases a.1<;>cases(nv a.2.1==0)<;>simp
def cN(a:Rat):Bool:=decide (16<(norm a).2.1.length)||decide (16<(norm a).2.2.1.length)
theorem tC(a:Rat)(h:vM 100000000 a):(eH a).run=some (cN a):=by
 unfold eH cN
 rw[z6 (UC a h),z7]
 congr 2
 ·exact decide_eq_decide.2 (by omega)
 ·exact decide_eq_decide.2 (by omega)
def yr(a:Rat):Bool:=ou a&&(!a.1&&(!cN a&&(xC (norm a).1 (nv (norm a).2.1) (nv (norm a).2.2.1) 0 61).2))
def wj(a:Rat):Bool := !a.1&&(a.2.1.isEmpty&&(a.2.2.1.isEmpty||ou a))
def pK(k:Int):Int:=if k=1\/k=2 then 0 else if k=7 then 1 else if k=3\/k=4\/k=5\/k=6 then 2 else -1
def gP(e:Expr):Bool:=((e.kids.length:Int)==pK e.kind)&&(if e.kind=1 then yr e.num&&zi e.name []else if e.kind=2 then wj e.num&&zS e.name else wj e.num&&zi e.name [])
mutual
def vB:Expr->Nat
 | .mk _ _ _ l=>1+ue l
def ue:List Expr->Nat
 | []=>0
 | e::r=>vB e+ue r
end
mutual
def uA(deep:Nat):Expr->Bool
 | .mk k n s l=>decide (deep<32)&&(gP (.mk k n s l)&&y9 (deep+1) l)
def y9(deep:Nat):List Expr->Bool
 | []=>true
 | e::r=>uA deep e&&y9 deep r
end
theorem pY:∀ (l:List Expr),l.length<=ue l
 | []=>Nat.le_refl _
 | .mk _ _ _ k::r=>by
  have:=pY r
  unfold ue vB
  grind
theorem mz{e:Expr}:∀ {l:List Expr},e∈l->vB e<=ue l
 | [],h=>by cases h
 | x::r,h=>by
  unfold ue
  rcases List.mem_cons.1 h with rfl | h
  ·omega
  ·have:=mz h; omega
mutual
/-- How many nodes are looked at. -/
def KI(deep:Nat):Expr->Nat
 | .mk k n s l=>1+if(decide (deep<32)&&gP (.mk k n s l))=true then lV (deep+1) l else 0
def lV(deep:Nat):List Expr->Nat
 | []=>0
 | e::r=>KI deep e+if uA deep e=true then lV deep r else 0
end
mutual
theorem Mq:∀ (e:Expr) (deep:Nat),KI deep e<=vB e
 | .mk k n s l,deep=>by
  have:=Jz l (deep+1)
  unfold KI vB
  split<;>omega
theorem Jz:∀ (l:List Expr) (deep:Nat),lV deep l<=ue l
 | [],_=>Nat.le_refl _
 | e::r,deep=>by
  have h1:=Mq e deep
  have h2:=Jz r deep
  unfold lV ue
  split<;>omega
end
mutual
theorem PJ:∀ (e:Expr),3*vB e<=szE e
 | .mk k n s l=>by
  have:=MY l
  unfold vB szE
  omega
theorem MY:∀ (l:List Expr),3*ue l<=szEs l
 | []=>Nat.le_refl _
 | e::r=>by
  have h1:=PJ e
  have h2:=MY r
  unfold ue szEs
  omega
end
def yH(a:Rat):Prop:=vM 100 a
mutual
def allOk:Expr->Prop
 | .mk _ n _ l=>yH n/\allOks l
def allOks:List Expr->Prop
 | []=>True
 | e::r=>allOk e/\allOks r
end
theorem eU{l:List Expr}(h:allOks l):∀ e∈l,allOk e:=by
 induction l with
 | nil=>simp
 | cons x r ih =>
  intro e he
  rcases List.mem_cons.1 he with rfl | he
  ·exact h.1
  ·exact ih h.2 e he
theorem FO(a:Rat)(h:yH a):(dz a).run=some (wj a):=by
 unfold dz wj
 have hr:=Z8 a (fj h (by omega))
 have e:∀ l:List Int,(((l.length:Int))==0)=l.isEmpty:=λl=>by cases l<;>simp; omega
 rw[e,e]
 cases a.1 with
 | true=>rfl
 | false =>
  rw[za (by rfl)]
  cases a.2.1.isEmpty with
  | false=>rfl
  | true =>
   rw[zk]
   cases a.2.2.1.isEmpty with
   | true=>rfl
   | false=>rw[zf,z6 hr,z7]; rfl
theorem Nx(a:Rat)(h:yH a):(nM a).run=some (yr a):=by
 unfold nM yr
 have hr:=Z8 a (fj h (by omega))
 have hl:=tC a (fj h (by omega))
 have he:=tS a (fj h (by omega))
 have head:((T.bind (Zn a) λr=>.ite (!r) (.ret true) (.ite a.1 (.ret true) (T.bind (eH a) λr1=>.ret r1))):T Bool).run=some (!(ou a&&(!a.1 && !cN a))):=by
  rw[z6 hr]
  cases ou a with
  | false=>rfl
  | true =>
   rw[z8 (by rfl)]
   cases a.1 with
   | true=>rfl
   | false=>rw[zf,z6 hl,z7]; simp
 rw[z6 head]
 cases q:(ou a&&(!a.1 && !cN a))with
 | false =>
  rw[za (by rfl),z7]
  congr 1
  grind
 | true =>
  rw[z8 (by rfl),z6 he]
  rw[z7]
  grind
theorem RG(k:Int):(sD k).run=some (pK k):=by
 unfold sD pK
 by_cases h1:k=1
 ·subst h1; rfl
 by_cases h2:k=2
 ·subst h2; rfl
 by_cases h7:k=7
 ·subst h7; rfl
 by_cases h3:k=3
 ·subst h3; rfl
 by_cases h4:k=4
 ·subst h4; rfl
 by_cases h5:k=5
 ·subst h5; rfl
 by_cases h6:k=6
 ·subst h6; rfl
 ·simp[h1,h2,h3,h4,h5,h6,h7]
theorem Kf(e:Expr)(h:yH e.num):(h9 e).run=some (gP e):=by
 unfold h9 gP
 rw[z6 (RG _)]
 have hN:=Nx e.num h
 have h0:=FO e.num h
 have hn:=xW e.name
 cases q:((e.kids.length:Int)==pK e.kind)with
 | false=>rw[za (by grind),z7]; rfl
 | true =>
  rw[z8 (by grind),Bool.true_and]
  by_cases h1:e.kind=1
  ·rw[if_pos h1,za (by grind),z6 hN]
   cases yr e.num with
   | true=>rfl
   | false=>rfl
  ·rw[if_neg h1,z8 (by grind)]
   by_cases h2:e.kind=2
   ·rw[if_pos h2,za (by grind),z6 h0]
    cases wj e.num with
    | true=>rw[zk,z6 hn,z7]; rfl
    | false=>rfl
   ·rw[if_neg h2,z8 (by grind),z6 h0]
    cases wj e.num with
    | true=>rfl
    | false=>rfl
theorem z3U(e:Expr)(deep left:Nat)(h:allOk e)(hl:vB e<=left)(iI:left<=100000)(hd:deep<=32):(kB e (deep:Int) (left:Int)).run=some (uA deep e,((left-KI deep e:Nat):Int)):=by
 unfold kB
 refine nf (λx:Expr×Int×Int=>allOk x.1/\0<=x.2.1/\x.2.1<=32/\(vB x.1:Int)<=x.2.2/\x.2.2<=100000) (λx=>vB x.1) (λx=>(uA x.2.1.toNat x.1,((x.2.2.toNat-KI x.2.1.toNat x.1:Nat):Int))) (λx hx g hg => ?_) (x:=(e,(deep:Int),(left:Int))) ⟨h,by dsimp only; omega,by dsimp only; omega,by dsimp only; omega,by dsimp only; omega⟩
 obtain⟨e,d,lf⟩:=x
 obtain⟨ha,P2,FY,hn,hlf⟩:=hx
 dsimp only at ha P2 FY hn hlf
 obtain⟨D,rfl⟩:∃ D:Nat,d=(D:Int):=⟨d.toNat,by omega⟩
 obtain⟨L,rfl⟩:∃ L:Nat,lf=(L:Int):=⟨lf.toNat,by omega⟩
 cases e with | mk k n s kids =>
 obtain⟨oT,C5⟩:=ha
 have Nl:vB (.mk k n s kids)=1+ue kids:=by unfold vB; rfl
 rw[Nl]at hn
 have hv:=Jz kids (D+1)
 have ew:zI ((L:Int)-1)=((L-1:Nat):Int):=by rw[zA (by omega) (by omega)]; omega
 have RB:=Kf (.mk k n s kids) oT
 simp only[Int.toNat_natCast]
 unfold bE
 rw[ew]
 have head:((.ite (decide (((L-1:Nat):Int)<(0:Int))) (.ret (true,((L-1:Nat):Int))) (.ite (decide ((32:Int)<=(D:Int))) (.ret (true,((L-1:Nat):Int))) (T.bind (h9 (.mk k n s kids)) λr=>.ret ((!r),((L-1:Nat):Int))))):T (Bool×Int)).run =
   some (!(decide (D<32)&&gP (.mk k n s kids)),((L-1:Nat):Int)):=by
  rw[z8 (decide_eq_false (by omega))]
  by_cases c:D<32
  ·rw[z8 (decide_eq_false (by omega)),z6 RB,z7,decide_eq_true c,Bool.true_and]
  ·rw[za (decide_eq_true (by omega)),z7,decide_eq_false c]; rfl
 rw[z6 head]
 dsimp only
 unfold uA KI
 cases q:(decide (D<32)&&gP (.mk k n s kids))with
 | false =>
  rw[za (by rfl),z7,if_neg (by simp),<- Bool.and_assoc,q,Bool.false_and]
 | true =>
  rw[z8 (by rfl),if_pos rfl,<- Bool.and_assoc,q,Bool.true_and]
  have hD:D<32:=by
   grind
  have ed:zI ((D:Int)+1)=((D+1:Nat):Int):=by rw[zA (by omega) (by omega)]; omega
  have loop:∃ z,(zZ (λy0 y1 y2=>g (y0,y1,y2)) kids (kids.length:Int) (((D:Int),()),((0:Int),((L-1:Nat):Int)))).run=some z /\
    ((y9 (D+1) kids=true/\z=.inl ((L-1-lV (D+1) kids:Nat):Int))\/(y9 (D+1) kids=false/\∃ i:Int,0<=i/\z=.inr (i,((L-1-lV (D+1) kids:Nat):Int)))):=by
   refine T.qU (r:=zK (λy0 y1 y2=>g (y0,y1,y2)) kids (kids.length:Int)) (λst:(Int×Unit)×Int×Int=>∃ (j B:Nat),st=(((D:Int),()),(j:Int),(B:Int))/\j<=kids.length/\B<=100000/\ue (kids.drop j)<=B /\
    B-lV (D+1) (kids.drop j)=L-1-lV (D+1) kids/\y9 (D+1) (kids.drop j)=y9 (D+1) kids) (λst=>kids.length-st.2.1.toNat) _ (λst xV => ?_) ⟨0,L-1,rfl,by omega,by omega,by rw[List.drop_zero]; omega,by rw[List.drop_zero],by rw[List.drop_zero]⟩
   obtain⟨j,B,rfl,hj,hB,hnB,hvB,GR⟩:=xV
   by_cases c:j<kids.length
   ·have BH:kids.drop j=kids[j]::kids.drop (j+1):=List.drop_eq_getElem_cons c
    rw[BH]at hnB hvB GR
    rw[show ue (kids[j]::kids.drop (j+1))=vB kids[j]+ue (kids.drop (j+1))from rfl]at hnB
    rw[show lV (D+1) (kids[j]::kids.drop (j+1))=KI (D+1) kids[j]+if uA (D+1) kids[j]=true then lV (D+1) (kids.drop (j+1))else 0 from rfl]at hvB
    rw[show y9 (D+1) (kids[j]::kids.drop (j+1))=(uA (D+1) kids[j]&&y9 (D+1) (kids.drop (j+1)))from rfl]at GR
    have ni:=eU C5 _ (List.getElem_mem c)
    have NT:=Mq kids[j] (D+1)
    have Fe:vB kids[j]<1+ue kids:=by have:=mz (List.getElem_mem c); omega
    have Vu:=hg (kids[j],((D+1:Nat):Int),(B:Int)) ⟨ni,by dsimp only; omega,by dsimp only; omega,by dsimp only; omega,by dsimp only; omega⟩ (by dsimp only; rw[Nl]; exact Fe)
    dsimp only at Vu
    simp only[Int.toNat_natCast]at Vu
    have hf:(jL (λy0 y1 y2=>g (y0,y1,y2)) kids[j] (D:Int) (B:Int)).run=some (!uA (D+1) kids[j],((B-KI (D+1) kids[j]:Nat):Int)):=by
     unfold jL
     rw[ed,z6 Vu]; rfl
    unfold zK
    dsimp only
    rw[za (vQ c),zb (zG c),bV c,z6 hf]
    dsimp only
    cases hk:uA (D+1) kids[j]with
    | true =>
     left
     rw[hk,if_pos rfl]at hvB
     rw[hk,Bool.true_and]at GR
     rw[z8 (by rfl),z7]
     have hlen:=pY kids
     rw[eS j _ c (by omega)]
     refine⟨_,rfl,⟨j+1,B-KI (D+1) kids[j],rfl,c,by omega,by omega,by omega,GR⟩,?_⟩
     simp only[Int.toNat_natCast]
     omega
    | false =>
     right
     rw[hk,if_neg (by simp),Nat.add_zero]at hvB
     rw[hk,Bool.false_and]at GR
     rw[za (by rfl),z7]
     exact⟨_,rfl,.inr ⟨GR.symm,(j:Int),by omega,by rw[hvB]⟩⟩
   ·right
    have hj2:j=kids.length:=by omega
    subst hj2
    rw[List.drop_length]at hvB GR
    unfold zK
    dsimp only
    rw[z8 (oB _),z7]
    exact⟨_,rfl,.inl ⟨GR.symm,by rw[<- hvB]; rfl⟩⟩
  obtain⟨z,hz,hc⟩:=loop
  have hcf:(qh (λy0 y1 y2=>g (y0,y1,y2)) kids ((D:Int),()) ((L-1:Nat):Int)).run=some (!y9 (D+1) kids,((L-1-lV (D+1) kids:Nat):Int)):=by
   unfold qh qM
   rcases hc with⟨ho,rfl⟩ | ⟨ho,i,hi,rfl⟩
   ·have:((T.bind (zZ (λy0 y1 y2=>g (y0,y1,y2)) kids (kids.length:Int) (((D:Int),()),((0:Int),((L-1:Nat):Int))))<|Sum.elim (λv2=>.ret ((-1:Int),v2)) (λ(x2,v3)=>.ret (x2,v3))):T (Int×Int)).run=some (-1,((L-1-lV (D+1) kids:Nat):Int)):=by
     rw[z6 hz]; rfl
    rw[z6 this,ho]; rfl
   ·have:((T.bind (zZ (λy0 y1 y2=>g (y0,y1,y2)) kids (kids.length:Int) (((D:Int),()),((0:Int),((L-1:Nat):Int))))<|Sum.elim (λv2=>.ret ((-1:Int),v2)) (λ(x2,v3)=>.ret (x2,v3))):T (Int×Int)).run=some (i,((L-1-lV (D+1) kids:Nat):Int)):=by
     rw[z6 hz]; rfl
    rw[z6 this,ho,z7,decide_eq_true hi]; rfl
  rw[show Expr.kids (.mk k n s kids)=kids from rfl,z6 hcf]
  dsimp only
  rw[z7,Bool.not_not]
  congr 3
  omega
theorem z6U(e:Expr)(h:allOk e)(hn:vB e<=256):(j3 e).run=some (uA 0 e):=by
 unfold j3
 have:=z3U e 0 256 h hn (by omega) (by omega)
 have this:(kB e 0 256).run=some (uA 0 e,((256-KI 0 e:Nat):Int)):=this
 rw[z6 this]; rfl
def dd(acc:List zd)(xs:List zd):List zd:=xs.foldl (λb x=>if x∈b then b else b++[x]) acc
end Go.AM.Lf
namespace Go.AM.PL
def Xt:zd->List zd×zd
 | []=>([],[])
 | b::r=>if b=10 then([]::(Xt r).1,(Xt r).2)else match(Xt r).1 with
  | []=>([],b::(Xt r).2)
  | l::ls=>((b::l)::ls,(Xt r).2)
end Go.AM.PL
namespace Go.AM.Lf
open PL
def z0c(u:zd):Option Rat:=if 400<u.length then none else(oy u).map λp=>uz (List.isPrefixOf [45] u) p.1 p.2
theorem z1Y{u:zd}{r:Rat}(h:z0c u=some r):vM 50 r:=by
 unfold z0c at h
 split at h
 ·cases h
 ·rename_i c
  obtain⟨p,hp,rfl⟩:=Option.map_eq_some_iff.1 h
  exact Wf _ (by omega) hp
def zdV(t:zd):Option ItT:=match z0c (wR t [32]).2.1 with
 | some r=>if zS (wR t [32]).1=true then some ((wR t [32]).1,r,())else none
 | none=>none
def PK:List zd->Option (List ItT)
 | []=>some []
 | t::r=>match zdV t with
  | some x=>(PK r).map (x :: ·)
  | none=>none
theorem Zw{s:zd}(h:zS s=true):s.length<=24/\s.all wb=true:=by
 cases s with
 | nil=>cases h
 | cons b r =>
  unfold zS at h
  simp only[Bool.and_eq_true,decide_eq_true_eq]at h
  exact⟨h.1,h.2.2⟩
theorem qB(s:zd):(xk s).run=some (zS s):=by
 have hL:∀ b:UInt8,(wB (b.toNat:Int)).run=some (JJ b):=λ_=>rfl
 have hD:∀ b:UInt8,(uX (b.toNat:Int)).run=some (decide (48<=(b.toNat:Int))&&decide ((b.toNat:Int)<=57)):=λ_=>rfl
 unfold xk
 cases s with
 | nil=>rfl
 | cons b r =>
  by_cases c:24<(b::r).length
  ·have:(T.ite (decide (((b::r).length:Int)<(1:Int))) (.ret true) (.ite (decide ((24:Int)<((b::r).length:Int))) (.ret true) (.zx (q9 (0:Int) (List.length (b::r)))<|T.bind (wB (zt (b::r) (0:Int))) λr=>.ret (!r))):T Bool).run=some true:=by
    rw[z8 (decide_eq_false (by omega)),za (decide_eq_true (by omega)),z7]
   rw[z6 this,zk,z7]
   unfold zS
   rw[decide_eq_false (by omega)]; rfl
  ·have hb:zt (b::r) (0:Int)=(b.toNat:Int):=uT (s:=b::r) (k:=0) (by simp)
   have:(T.ite (decide (((b::r).length:Int)<(1:Int))) (.ret true) (.ite (decide ((24:Int)<((b::r).length:Int))) (.ret true) (.zx (q9 (0:Int) (List.length (b::r)))<|T.bind (wB (zt (b::r) (0:Int))) λr=>.ret (!r))):T Bool).run=some (!JJ b):=by
    rw[z8 (decide_eq_false (by simp only[List.length_cons]; omega)),z8 (decide_eq_false (by omega)),zb (by refine⟨by omega,?_⟩; simp only[List.length_cons]; omega),hb,z6 (hL b),z7]
   rw[z6 this]
   unfold zS
   dsimp only
   rw[decide_eq_true (by omega),Bool.true_and]
   cases hbl:JJ b with
   | false=>rw[za (by rfl),z7]; rfl
   | true =>
    rw[z8 (by rfl),Bool.true_and]
    have hbi:wb b=true:=by unfold wb; rw[hbl]; rfl
    have key:(X9 (b::r) 1).run=some (if r.all wb=true then .inl ()else .inr false):=by
     have SM:=wK (r:=yb (b::r)) (λi=>∃ k:Nat,i=((k+1:Nat):Int)/\k<=r.length) (λi=>((b::r).length:Int).toNat-i.toNat) (λi=>if(r.drop (i.toNat-1)).all wb=true then .inl ()else .inr false) (λi hi => ?_) (s:=1) ⟨0,rfl,by omega⟩
     ·exact SM
     ·obtain⟨k,rfl,hk⟩:=hi
      have ek:((k+1:Nat):Int).toNat-1=k:=by omega
      by_cases q:k<r.length
      ·have hq:k+1<(b::r).length:=by simp only[List.length_cons]; omega
       have Ep:zt (b::r) ((k+1:Nat):Int)=(r[k].toNat:Int):=by rw[uT hq]; rfl
       have z5O:r.drop k=r[k]::r.drop (k+1):=List.drop_eq_getElem_cons q
       have Vm:((.zx (q9 ((k+1:Nat):Int) (List.length (b::r)))<|T.bind (wB (zt (b::r) ((k+1:Nat):Int))) λr1 =>
         .ite (!r1) (.zx (q9 ((k+1:Nat):Int) (List.length (b::r)))<|T.bind (uX (zt (b::r) ((k+1:Nat):Int))) λr2 =>
           .ite (!r2) (.zx (q9 ((k+1:Nat):Int) (List.length (b::r)))<|.ret ((zt (b::r) ((k+1:Nat):Int)) != (95:Int))) (.ret false)) (.ret false)):T Bool).run=some (!wb r[k]):=by
        rw[zb (zG hq),Ep,z6 (hL _)]
        unfold wb
        cases JJ r[k]with
        | true=>rfl
        | false =>
         rw[za (by rfl),zb (zG hq),z6 (hD _)]
         cases(decide (48<=(r[k].toNat:Int))&&decide ((r[k].toNat:Int)<=57))with
         | true=>rfl
         | false=>rw[za (by rfl),zb (zG hq),z7]; rfl
       cases hik:wb r[k]with
       | true =>
        left
        refine⟨((k+1+1:Nat):Int),?_,⟨k+1,rfl,q⟩,by simp only[List.length_cons]; omega,?_⟩
        ·unfold yb
         rw[za (vQ hq),z6 Vm,hik,z8 (by rfl),z7,eS (k+1) _ hq (by omega)]
        ·rw[ek,z5O,List.all_cons,hik,Bool.true_and,show((k+1+1:Nat):Int).toNat-1=k+1 by omega]
       | false =>
        right
        unfold yb
        rw[za (vQ hq),z6 Vm,hik,za (by rfl),z7,ek,z5O,List.all_cons,hik]
        rfl
      ·right
       have cM:k=r.length:=by omega
       unfold yb
       rw[z8 (decide_eq_false (by simp only[List.length_cons]; omega)),z7,ek,cM,List.drop_length]; rfl
    rw[z6 key,List.all_cons,hbi,Bool.true_and]
    cases h:r.all wb with
    | true=>rfl
    | false=>rfl
theorem NG(s:zd)(c:UInt8):(wR s [c]).1.length<=s.length/\(wR s [c]).2.1.length<=s.length:=by
 by_cases h:c∈s
 ·obtain⟨w,q,rfl,hw⟩:=JS h
  rw[dt c w q hw]
  simp only[List.length_append,List.length_cons]
  exact⟨by omega,by omega⟩
 ·rw[kC c s h]; simp
def zf3(l:List ItT):zd:=l.flatMap zcd
def UQ(s:zd):List ItT×Int:=match PK (Xt s).1 with
 | some ys=>if zf3 ys=s then(ys,0)else([],2)
 | none=>([],2)
theorem zh3(a b:Rat):((a.1==b.1)&&((a.2.1==b.2.1)&&(a.2.2.1==b.2.2.1)))=true↔a=b:=by grind
theorem CK(a:Rat)(h1:zq a.2.1)(h2:zq a.2.2.1):ou a=true↔norm a=a:=by
 unfold ou norm
 obtain⟨b,N,D,⟨⟩⟩:=a
 simp only[Bool.and_eq_true,Bool.not_eq_true',beq_eq_false_iff_ne,beq_iff_eq,Bool.and_eq_false_imp]
 constructor
 ·rintro⟨t1,t2,hd,hn,hg⟩
  have eN:zB (nv N)=N:=Z6 h1 ((jJ h1).1 t1)
  have eD:zB (nv D)=D:=Z6 h2 ((jJ h2).1 t2)
  unfold uz
  by_cases c:nv N=0
  ·rw[if_pos (.inl c)]
   rw[c,Nat.gcd_zero_left]at hg
   rw[c,qs]at eN
   rw[hg,ez]at eD
   grind
  ·grind
 ·intro e
  unfold uz at e
  by_cases c:nv N=0\/nv D=0
  ·rw[if_pos c]at e
   obtain⟨rfl,rfl,rfl⟩:=e
   refine⟨by rw[jJ h1]; exact GF,?_,by decide,by simp,by decide⟩
   rw[jJ h2,<- ez]; exact sd _
  ·rw[if_neg c]at e
   simp at e
   obtain⟨e1,e2⟩:=e
   simp only[not_or]at c
   have v1:nv N=nv N / Nat.gcd (nv N) (nv D):=by conv=>lhs; rw[<- e1,zN]
   refine⟨by rw[jJ h1,<- e1]; exact sd _,by rw[jJ h2,<- e2]; exact sd _,c.2,λ_=>c.1,?_⟩
   have hp:0<nv N:=Nat.pos_of_ne_zero c.1
   by_cases g:Nat.gcd (nv N) (nv D)=1
   ·exact g
   ·have hg0:0<Nat.gcd (nv N) (nv D):=Nat.gcd_pos_of_pos_left _ hp
    have:=Nat.div_lt_self hp (by omega:1<Nat.gcd (nv N) (nv D))
    omega
theorem mN(a b:List Int)(la:a.length<=1000000000):(gA a b).run=some (a==b):=by
 unfold gA
 by_cases hlen:a.length=b.length
 ·have key:(lR a b 0).run=some (if a=b then .inl ()else .inr false):=by
   have h:=wK (r:=jK a b) (λi=>∃ k:Nat,i=(k:Int)/\k<=a.length) (λi=>a.length-i.toNat) (λi=>if a.drop i.toNat=b.drop i.toNat then .inl ()else .inr false) (λi hi => ?_) (s:=0) ⟨0,rfl,by omega⟩
   ·unfold lR; simpa using h
   ·obtain⟨k,rfl,hk⟩:=hi
    by_cases c:k<a.length
    ·have cb:k<b.length:=by omega
     have ea:a.drop k=a[k]::a.drop (k+1):=List.drop_eq_getElem_cons c
     have eb:b.drop k=b[k]::b.drop (k+1):=List.drop_eq_getElem_cons cb
     have ek:((k:Nat):Int).toNat=k:=rfl
     have z9S:(a.drop k=b.drop k)↔(a[k]=b[k]/\a.drop (k+1)=b.drop (k+1)):=by rw[ea,eb,List.cons.injEq]
     have ek1:((k+1:Nat):Int).toNat=k+1:=rfl
     by_cases q:a[k]=b[k]
     ·left
      refine⟨((k+1:Nat):Int),?_,⟨k+1,rfl,c⟩,by omega,?_⟩
      ·unfold jK
       rw[za (vQ c),zb (zG c),zb (zG cb),bV c,bV cb,z8 (by simp[q]),z7,eS k _ c (by omega)]
      ·simp only[ek,ek1,z9S,q,true_and]
     ·right
      unfold jK
      rw[za (vQ c),zb (zG c),zb (zG cb),bV c,bV cb,za (by simp[q]),z7,ek,if_neg (by rw[z9S]; exact λh=>q h.1)]
    ·right
     have cM:k=a.length:=by omega
     unfold jK
     rw[z8 (decide_eq_false (by omega)),z7,cM]
     simp[hlen]
  rw[z8 (by rw[hlen]; simp),z6 key]
  by_cases e:a=b
  ·rw[if_pos e,e]; simp
  ·rw[if_neg e]
   have:(a==b)=false:=by simpa using e
   rw[this]; rfl
 ·have e:(a==b)=false:=by
   rw[beq_eq_false_iff_ne]
   intro e; exact hlen (by rw[e])
  rw[za (by simp; omega),z7,e]
theorem Wn(a:Rat)(h:vM 100000000 a):(QD a).run=some (ou a):=by
 unfold QD
 have hb:ou a=((a.1==(norm a).1)&&((a.2.1==(norm a).2.1)&&(a.2.2.1==(norm a).2.2.1))):=by
  rw[Bool.eq_iff_iff,CK a h.1 h.2.1,zh3]
  grind
 rw[z6 (eK a h),hb]
 cases a.1==(norm a).1 with
 | false=>rfl
 | true =>
  rw[zk,z6 (mN _ _ (by have:=h.2.2.1; omega))]
  cases a.2.1==(norm a).2.1 with
  | false=>rfl
  | true=>rw[zk,z6 (mN _ _ (by have:=h.2.2.2; omega)),z7]; rfl
theorem UZ(a:Rat)(h:vM 100000000 a):(nU a).run=some (cN a):=by
 unfold nU cN
 rw[z6 (eK a h),z7]
 congr 2
 ·grind
 ·grind
theorem tY(a:Rat)(h:vM 100000000 a):(eL a).run=some (ou a && !cN a):=by
 unfold eL
 rw[z6 (Wn a h)]
 cases ou a with
 | false=>rfl
 | true=>rw[zk,z6 (UZ a h),z7]; rfl
theorem O4(a:Rat)(h:yH a):(kH a).run=some (wj a):=by
 unfold kH wj
 have hr:=Wn a (fj h (by omega))
 have e:∀ l:List Int,(((l.length:Int))==0)=l.isEmpty:=λl=>by cases l<;>simp; omega
 rw[e,e]
 cases a.1 with
 | true=>rfl
 | false =>
  rw[za (by rfl)]
  cases a.2.1.isEmpty with
  | false=>rfl
  | true =>
   rw[zk]
   cases a.2.2.1.isEmpty with
   | true=>rfl
   | false=>rw[zf,z6 hr,z7]; rfl
theorem PA(g:Expr×Int->T Bool)(kids:List Expr)(k0:Int)(n0:Rat)(s0:zd)(D:Nat)(hl:kids.length<=100000)
  (hg:∀ e∈kids,(g (e,zI (((D+1:Nat):Int)+1))).run=some (uA (D+1) e)) :
  (pA (λy0 y1=>g (y0,y1)) ((D+1:Nat):Int) (.mk k0 n0 s0 kids) (kids.length:Int) 0).run=some (if y9 (D+1) kids=true then .inl ()else .inr false):=by
 refine T.se (r:=dA (λy0 y1=>g (y0,y1)) ((D+1:Nat):Int) (.mk k0 n0 s0 kids) (kids.length:Int)) kids (zn .expr) (λ(_:Unit) i=>i) (λ_ _=>True) (λl _=>(if y9 (D+1) l=true then .inl ()else .inr false:Unit⊕Bool)) (λk _ x xs hk hx hm hd hI => ?_) (λ_ _ => ?_) (b:=()) trivial
 ·have ZG:=hg x hm
  have ek:Expr.kids (.mk k0 n0 s0 kids)=kids:=rfl
  unfold dA
  rw[za (vQ hk),ek,zb (zG hk),hx,z6 ZG]
  cases q:uA (D+1) x with
  | true =>
   left
   refine⟨(),?_,trivial,?_⟩
   ·rw[z8 (by rfl),z7,eS k _ hk (by omega)]
   ·show _=(if(uA (D+1) x&&y9 (D+1) xs)=true then _ else _)
    grind
  | false =>
   right
   rw[za (by rfl),z7]
   show _=some (Sum.inr (if(uA (D+1) x&&y9 (D+1) xs)=true then _ else _))
   grind
 ·unfold dA
  rw[z8 (oB _),z7]; rfl
theorem MI(e:Expr)(deep:Nat)(h:allOk e)(hn:vB e<=100000)(hd:deep<=32):(mE e ((deep+1:Nat):Int)).run=some (uA deep e):=by
 unfold mE
 refine nf (λx:Expr×Int=>allOk x.1/\vB x.1<=100000/\1<=x.2/\x.2<=33) (λx=>vB x.1) (λx=>uA (x.2.toNat-1) x.1) (λx hx g hg => ?_) (x:=(e,((deep+1:Nat):Int))) ⟨h,hn,by dsimp only; omega,by dsimp only; omega⟩
 obtain⟨e,d⟩:=x
 obtain⟨ha,hn,P2,FY⟩:=hx
 dsimp only at ha hn P2 FY
 obtain⟨D,rfl⟩:∃ D:Nat,d=((D+1:Nat):Int):=⟨d.toNat-1,by omega⟩
 cases e with | mk k n s kids =>
 obtain⟨oT,C5⟩:=ha
 have Nl:vB (.mk k n s kids)=1+ue kids:=rfl
 have hlen:=pY kids
 have N6:(((D+1:Nat):Int)).toNat-1=D:=by omega
 dsimp only
 rw[N6]
 unfold nF
 show _=some (decide (D<32)&&(gP (.mk k n s kids)&&y9 (D+1) kids))
 by_cases c:D<32
 ·rw[z8 (decide_eq_false (by omega)),decide_eq_true c,Bool.true_and]
  have hN:=rX n (fj oT (by omega))
  have hG:=tY n (fj oT (by omega))
  have hB:=O4 n oT
  have hNm:=qB s
  have e0:∀ m:Nat,(((m:Int))==0)=(((m:Int))==(0:Int)):=λ_=>rfl
  have Vu:∀ e∈kids,(g (e,zI (((D+1:Nat):Int)+1))).run=some (uA (D+1) e):=λe he=>by
   have hm:=mz he
   have ew:zI (((D+1:Nat):Int)+1)=((D+1+1:Nat):Int):=by rw[zA (by omega) (by omega)]; omega
   have:=hg (e,((D+1+1:Nat):Int)) ⟨eU C5 e he,by dsimp only; omega,by dsimp only; omega,by dsimp only; omega⟩ (by dsimp only; rw[Nl]; omega)
   grind
  have SM:=PA g kids k n s D (by omega) Vu
  have zdh:Expr.kids (.mk k n s kids)=kids:=rfl
  have zbv:Expr.kind (.mk k n s kids)=k:=rfl
  have zbG:Expr.name (.mk k n s kids)=s:=rfl
  have z9m:Expr.num (.mk k n s kids)=n:=rfl
  have tail:∀ kd:Int,(T.bind (.ite ((Nat.cast (List.length kids):Int) != kd) (.ret true) (.ite (!(zi s ([]:zd))) (.ret true) (T.bind (kH n) λr4=>.ret (!r4))):T Bool) λx1 =>
     .ite x1 (.ret false) (T.bind (pA (λy0 y1=>g (y0,y1)) ((D+1:Nat):Int) (.mk k n s kids) kd (0:Int))<|Sum.elim (λ_=>.ret true) (λx2=>.ret x2)):T Bool).run =
     some (((kids.length:Int)==kd)&&((wj n&&zi s [])&&y9 (D+1) kids)):=by
   intro kd
   have head:(.ite ((Nat.cast (List.length kids):Int) != kd) (.ret true) (.ite (!(zi s ([]:zd))) (.ret true) (T.bind (kH n) λr4=>.ret (!r4))):T Bool).run=some (!(((kids.length:Int)==kd)&&(wj n&&zi s []))):=by
    cases q:((kids.length:Int)==kd)with
    | false=>rw[za (by rw[bne,q]; rfl)]; rfl
    | true =>
     rw[z8 (by rw[bne,q]; rfl)]
     cases zi s []with
     | false=>simp
     | true=>rw[z8 (by rfl),z6 hB,z7,Bool.and_true,Bool.true_and]
   rw[z6 head]
   cases q:((kids.length:Int)==kd)with
   | false=>rfl
   | true =>
    have hkd:kd=(kids.length:Int):=by
     grind
    subst hkd
    rw[Bool.true_and,Bool.true_and]
    cases(wj n&&zi s [])with
    | false=>rfl
    | true =>
     rw[z8 (by rfl),z6 SM,Bool.true_and]
     cases y9 (D+1) kids<;>rfl
  unfold gP pK
  rw[zdh,zbv,zbG,z9m]
  by_cases h1:k=1
  ·subst h1
   have head:(T.bind (ct n) λ(r,ok)=>.ite ((Nat.cast (List.length kids):Int)==(0:Int)) (.ite (zi s ([]:zd)) (T.bind (eL n) λr1=>.ite r1 (.ite (!n.1) (.ret (.inr ok)) (.ret (.inr false))) (.ret (.inr false))) (.ret (.inr false))) (.ret (.inr false)):T (Int⊕Bool)).run=some (.inr (((kids.length:Int)==0)&&(yr n&&zi s []))):=by
    rw[z6 hN]
    unfold yr
    generalize xC (norm n).1 (nv (norm n).2.1) (nv (norm n).2.2.1) 0 61=x
    obtain⟨x1,x2⟩:=x
    dsimp only
    cases(Nat.cast (List.length kids):Int)==(0:Int)with
    | false=>rfl
    | true =>
     rw[zk]
     cases zi s []with
     | false=>simp
     | true =>
      rw[zk,z6 hG]
      cases ou n<;>cases cN n<;>cases n.1<;>cases x2<;>rfl
   refine(z6 (a:=.inr (((kids.length:Int)==0)&&(yr n&&zi s []))) ?_ _).trans ?_
   ·rw[za (by rfl)]; exact head
   ·rw[Sum.elim_inr,z7,if_pos (.inl rfl),if_pos rfl]
    cases q:((kids.length:Int)==0)with
    | false=>rfl
    | true =>
     have:kids=[]:=List.eq_nil_of_length_eq_zero (by have:(kids.length:Int)=0:=(by simpa using q); omega)
     subst this
     show _=some (true&&(yr n&&zi s [])&&true)
     rw[Bool.and_true]
  ·by_cases h2:k=2
   ·subst h2
    have head:(.ite ((Nat.cast (List.length kids):Int)==(0:Int)) (T.bind (xk s) λr2=>.ite r2 (T.bind (kH n) λr3=>.ret (.inr r3)) (.ret (.inr false))) (.ret (.inr false)):T (Int⊕Bool)).run=some (.inr (((kids.length:Int)==0)&&(wj n&&zS s))):=by
     cases(Nat.cast (List.length kids):Int)==(0:Int)with
     | false=>rfl
     | true =>
      rw[zk,z6 hNm]
      cases zS s with
      | false=>rw[zf,z7,Bool.and_false]; rfl
      | true=>rw[zk,z6 hB,z7,Bool.and_true,Bool.true_and]
    refine(z6 (a:=.inr (((kids.length:Int)==0)&&(wj n&&zS s))) ?_ _).trans ?_
    ·rw[z8 (by rfl),za (by rfl)]; exact head
    ·rw[Sum.elim_inr,z7,if_pos (.inr rfl),if_neg (by decide),if_pos rfl]
     cases q:((kids.length:Int)==0)with
     | false=>rfl
     | true =>
      have:kids=[]:=List.eq_nil_of_length_eq_zero (by have:(kids.length:Int)=0:=(by simpa using q); omega)
      subst this
      show _=some (true&&(wj n&&zS s)&&true)
      rw[Bool.and_true]
   ·have k1:(k==1)=false:=by simpa using h1
    have k2:(k==2)=false:=by simpa using h2
    have fin:∀ kd:Int,(if k=7 then(1:Int)else if k=3\/k=4\/k=5\/k=6 then 2 else -1)=kd->((((kids.length:Int)==kd)&&((wj n&&zi s [])&&y9 (D+1) kids))) =
      ((((kids.length:Int)==(if k=1\/k=2 then(0:Int)else if k=7 then 1 else if k=3\/k=4\/k=5\/k=6 then 2 else -1))&&(if k=1 then yr n&&zi s []else if k=2 then wj n&&zS s else wj n&&zi s []))&&y9 (D+1) kids):=by
     intro kd hkd
     rw[if_neg (by rintro(h | h); exact h1 h; exact h2 h),hkd,if_neg h1,if_neg h2]
     simp only[Bool.and_assoc]
    by_cases h7:k=7
    ·refine(z6 (a:=.inl 1) ?_ _).trans ?_
     ·rw[z8 k1,z8 k2,za (by simpa using h7),z7]
     ·rw[Sum.elim_inl,<- fin 1 (by rw[if_pos h7])]; exact tail 1
    ·have k7:(k==7)=false:=by simpa using h7
     by_cases h3:k=3
     ·refine(z6 (a:=.inl 2) ?_ _).trans ?_
      ·rw[z8 k1,z8 k2,z8 k7,za (by simpa using h3),z7]
      ·rw[Sum.elim_inl,<- fin 2 (by rw[if_neg h7,if_pos (.inl h3)])]; exact tail 2
     ·have k3:(k==3)=false:=by simpa using h3
      by_cases h4:k=4
      ·refine(z6 (a:=.inl 2) ?_ _).trans ?_
       ·rw[z8 k1,z8 k2,z8 k7,z8 k3,za (by simpa using h4),z7]
       ·rw[Sum.elim_inl,<- fin 2 (by rw[if_neg h7,if_pos (.inr (.inl h4))])]; exact tail 2
      ·have k4:(k==4)=false:=by simpa using h4
       by_cases h5:k=5
       ·refine(z6 (a:=.inl 2) ?_ _).trans ?_
        ·rw[z8 k1,z8 k2,z8 k7,z8 k3,z8 k4,za (by simpa using h5),z7]
        ·rw[Sum.elim_inl,<- fin 2 (by rw[if_neg h7,if_pos (.inr (.inr (.inl h5)))])]; exact tail 2
       ·have k5:(k==5)=false:=by simpa using h5
        by_cases h6:k=6
        ·refine(z6 (a:=.inl 2) ?_ _).trans ?_
         ·rw[z8 k1,z8 k2,z8 k7,z8 k3,z8 k4,z8 k5,za (by simpa using h6),z7]
         ·rw[Sum.elim_inl,<- fin 2 (by rw[if_neg h7,if_pos (.inr (.inr (.inr h6)))])]; exact tail 2
        ·have k6:(k==6)=false:=by simpa using h6
         refine(z6 (a:=.inr false) ?_ _).trans ?_
         ·rw[z8 k1,z8 k2,z8 k7,z8 k3,z8 k4,z8 k5,z8 k6,z7]
         ·rw[Sum.elim_inr,z7,<- fin (-1) (by rw[if_neg h7,if_neg (by rintro(h | h | h | h)<;>contradiction)])]
          have:((kids.length:Int) == -1)=false:=by simp
          rw[this]; rfl
 ·rw[za (decide_eq_true (by omega)),z7,decide_eq_false c]; rfl
theorem pC(e:Expr)(hb:bkE e<=1000000000):(nz e).run=some ((vB e:Nat):Int):=by
 unfold nz
 refine nf (λx:Expr=>bkE x<=1000000000) (λx=>bkE x) (λx=>((vB x:Nat):Int)) (λx hx g hg => ?_) (x:=e) hb
 have hk:=G7 x
 have hkl:=SB x.kids
 have ndb:∀ (l:List Expr),ue l<=bkEs l:=by
  have both:∀ n,(∀ e:Expr,bkE e<=n->vB e<=bkE e):=by
   intro n
   induction n using Nat.strongRecOn with
   | _ n ih =>
    intro e he
    cases e with | mk k m s l =>
    have hl:∀ l':List Expr,bkEs l'<n->ue l'<=bkEs l':=by
     intro l'
     induction l' with
     | nil=>intro _; exact Nat.le_refl _
     | cons y r ihr =>
      intro h
      unfold bkEs at h ⊢
      unfold ue
      grind
    have h3:bkEs l<bkE (.mk k m s l):=G7 (.mk k m s l)
    have:=hl l (by omega)
    unfold vB
    omega
  intro l
  induction l with
  | nil=>exact Nat.le_refl _
  | cons y r ihr =>
   unfold ue bkEs
   have:=both (bkE y) y (Nat.le_refl _)
   omega
 have loop:(tD (λy0=>g y0) x (1,0)).run=some ((1+ue x.kids:Nat):Int):=by
  have key:=Nk (r:=yN (λy0=>g y0) x) x.kids (zn .expr) (λ(b:Nat) i=>(((b:Nat):Int),i)) (λb r=>b+ue r<=1+ue x.kids/\∀ y∈r,y∈x.kids) (λr b=>((b+ue r:Nat):Int)) ?_ ?_ (b:=1) ⟨Nat.le_refl _,λy hy=>hy⟩
  ·exact key
  ·rintro b y ys i h0 hi hy ⟨h1,h2⟩
   have hm:=S9 (h2 y List.mem_cons_self)
   have hr:=hg y (by omega) (by omega)
   have Nl:=ndb x.kids
   have e1:ue (y::ys)=vB y+ue ys:=rfl
   refine .inl ⟨b+vB y,?_,⟨by omega,λz hz=>h2 z (List.mem_cons_of_mem _ hz)⟩,by rw[e1,Nat.add_assoc]⟩
   unfold yN
   rw[za (decide_eq_true hi),zb ⟨h0,hi⟩,hy,z6 hr,z7,zA (x:=i+1) (by omega) (by omega),zA (by omega) (by omega)]
   rfl
  ·rintro b _
   unfold yN
   rw[z8 (oB _),z7]; rfl
 unfold eE
 rw[z6 loop,z7]
 cases x with | mk k n s kids=>rfl
theorem Cw(e:Expr)(h:allOk e)(hb:bkE e<=1000000)(hn:vB e<=256):(gf e).run=some (uA 0 e):=by
 unfold gf
 have h1:(mE e 1).run=some (uA 0 e):=MI e 0 h (by omega) (by omega)
 rw[z6 h1]
 cases uA 0 e with
 | false=>rfl
 | true=>rw[zk,z6 (pC e (by omega)),z7,decide_eq_true (by omega)]
def qE(k:Int):Int:=if k=3\/k=4 then 1 else if k=5\/k=6 then 2 else if k=7 then 3 else 4
def Ei(k:Int):zd:=if k=3 then[32,43,32]else if k=4 then[32,45,32]else if k=5 then[32,42,32]else if k=6 then[32,47,32]else[]
def n4(b:Bool)(s:zd):zd:=if b=true then[40]++s++[41]else s
def Qo(k:Int):List (Int×zd)->zd
 | [a]=>[45]++n4 (decide (a.1<3)) a.2
 | [a,b]=>n4 (decide (a.1<qE k)) a.2++Ei k++n4 (decide (b.1<qE k+1)) b.2
 | _=>[]
mutual
def prE:Expr->zd
 | .mk k n s l=>if k=1 then(xC (norm n).1 (nv (norm n).2.1) (nv (norm n).2.2.1) 0 61).1 else if k=2 then s else Qo k (prL l)
def prL:List Expr->List (Int×zd)
 | []=>[]
 | e::r=>(qE e.kind,prE e)::prL r
end
theorem bj(b:Bool)(s:zd):(n4 b s).length<=s.length+2:=by unfold n4; split<;>simp<;>omega
theorem YX(k:Int):(Ei k).length<=3:=by unfold Ei; (repeat' split)<;>simp
theorem On(n:Rat)(h:yH n):(xC (norm n).1 (nv (norm n).2.1) (nv (norm n).2.2.1) 0 61).1.length<=6000:=by
 have hn:=nn (k:=100) (by omega) h
 have hd:=JY n.1 (nv n.2.1) (nv n.2.2.1)
 have hd:nv (norm n).2.2.1≠0:=hd
 rcases hx:xC (norm n).1 (nv (norm n).2.1) (nv (norm n).2.2.1) 0 61 with⟨s,b⟩
 cases b with
 | true =>
  obtain⟨j,h1,h2,h3,rfl⟩:=Gp _ _ _ hd 61 0 s hx
  have l1:=q7 hn.1
  have l2:=hn.2.2.1
  have l3:=iF j
  have l4:=iU (nv (norm n).2.1) (10 ^ j)
  have l5:=JI (Nat.div_le_self (nv (norm n).2.1*10 ^ j) (nv (norm n).2.2.1))
  have l6:=ft (nv (norm n).2.1*10 ^ j / nv (norm n).2.2.1) 162 (by omega)
  have l7:(OM (norm n).1).length<=1:=by unfold OM; split<;>simp
  dsimp only
  rw[List.length_append]
  by_cases hj:j=0
  ·subst hj
   unfold OC
   grind
  ·obtain⟨w,p,e,_,_,_,hp,_,hw⟩:=NO (pr (nv (norm n).2.1*10 ^ j / nv (norm n).2.2.1)) j hj (z3r _).1
   grind
 | false =>
  have:∀ (f k:Nat) (s:zd),xC (norm n).1 (nv (norm n).2.1) (nv (norm n).2.2.1) k f=(s,false)->s=[]:=by
   intro f
   induction f with
   | zero=>intro k s h; unfold xC at h; cases h; rfl
   | succ f ih =>
    intro k s h
    unfold xC at h
    grind
  grind
theorem Qg{d:Nat}{k:Int}{n:Rat}{s:zd}{l:List Expr}(h:uA d (.mk k n s l)=true):((l.length:Int)=pK k)/\y9 (d+1) l=true:=by
 have h:(decide (d<32)&&(gP (.mk k n s l)&&y9 (d+1) l))=true:=h
 simp at h
 obtain⟨_,h1,h2⟩:=h
 unfold gP at h1
 simp only[Bool.and_eq_true]at h1
 exact⟨eq_of_beq h1.1,h2⟩
theorem lv:∀ (m:Nat) (e:Expr) (d:Nat),vB e<=m->uA d e=true->allOk e->(prE e).length<=2000*szE e:=by
 intro m
 induction m with
 | zero=>intro e d hm; cases e; unfold vB at hm; omega
 | succ m ih =>
  intro e d hm ho ha
  cases e with | mk k n s l =>
  obtain⟨hk,hl⟩:=Qg ho
  obtain⟨hn,ot⟩:=ha
  have Nl:vB (.mk k n s l)=1+ue l:=rfl
  have jA:szE (.mk k n s l)=3+s.length+8*n.2.1.length+8*n.2.2.1.length+szEs l:=rfl
  rw[Nl]at hm
  rw[jA]
  show(if k=1 then(xC (norm n).1 (nv (norm n).2.1) (nv (norm n).2.2.1) 0 61).1 else if k=2 then s else Qo k (prL l)).length<=_
  by_cases h1:k=1
  ·rw[if_pos h1]; have:=On n hn; omega
  ·rw[if_neg h1]
   by_cases h2:k=2
   ·grind
   ·rw[if_neg h2]
    match l,hl,ot,hm with
    | [],_,_,_=>show(Qo k []).length<=_; unfold Qo; simp
    | [a],hl,ot,hm =>
     have ha':uA (d+1) a=true:=by
      have:(uA (d+1) a&&y9 (d+1) [])=true:=hl
      simp_all
     have:=ih a (d+1) (by have:ue [a]=vB a+0:=rfl; omega) ha' ot.1
     have e1:szEs [a]=szE a+0:=rfl
     have hp:=bj (decide (qE a.kind<3)) (prE a)
     show([45]++n4 (decide (qE a.kind<3)) (prE a)).length<=_
     grind
    | [a,b],hl,ot,hm =>
     have Y8:uA (d+1) a=true/\uA (d+1) b=true:=by
      have:(uA (d+1) a&&(uA (d+1) b&&y9 (d+1) []))=true:=hl
      grind
     have e0:ue [a,b]=vB a+(vB b+0):=rfl
     have h3:=ih a (d+1) (by omega) Y8.1 ot.1
     have h4:=ih b (d+1) (by omega) Y8.2 ot.2.1
     have e1:szEs [a,b]=szE a+(szE b+0):=rfl
     have hp:=bj (decide (qE a.kind<qE k)) (prE a)
     have hq:=bj (decide (qE b.kind<qE k+1)) (prE b)
     have hm':=YX k
     show(n4 (decide (qE a.kind<qE k)) (prE a)++Ei k++n4 (decide (qE b.kind<qE k+1)) (prE b)).length<=_
     grind
    | a::b::c::r,_,_,_=>show(Qo k _).length<=_; unfold prL prL prL Qo; simp
theorem Gi(e:Expr):(cB e).run=some (qE e.kind):=by
 unfold cB qE
 generalize e.kind=k
 by_cases h3:k=3
 ·subst h3; rfl
 by_cases h4:k=4
 ·subst h4; rfl
 by_cases h5:k=5
 ·subst h5; rfl
 by_cases h6:k=6
 ·subst h6; rfl
 by_cases h7:k=7
 ·subst h7; rfl
 ·simp[h3,h4,h5,h6,h7]
theorem z3B(k:Int):(pI k).run=some (qE k):=by
 unfold pI qE
 by_cases h3:k=3
 ·subst h3; rfl
 by_cases h4:k=4
 ·subst h4; rfl
 by_cases h5:k=5
 ·subst h5; rfl
 by_cases h6:k=6
 ·subst h6; rfl
 by_cases h7:k=7
 ·subst h7; rfl
 ·simp[h3,h4,h5,h6,h7]
theorem ZC(g:Expr->T zd)(e:Expr)(least:Int)(t:zd)(hg:(g e).run=some t)(hl:t.length<=1000000000000):(gJ (λy0=>g y0) e least).run=some (n4 (decide (qE e.kind<least)) t):=by
 unfold gJ n4
 rw[z6 (Gi e)]
 cases decide (qE e.kind<least)with
 | true=>rw[zk,z6 hg,zr _ (by grind),zr _ (by simp[jx]; omega),z7,if_pos rfl]; rfl
 | false=>rw[zf,z6 hg,z7,if_neg (by simp)]
theorem HI{k:Int}{l:List Expr}(hk:(l.length:Int)=pK k)(h1:k≠1)(h2:k≠2):(k=7/\∃ a,l=[a])\/((k=3\/k=4\/k=5\/k=6)/\∃ a b,l=[a,b]):=by
 unfold pK at hk
 rw[if_neg (by grind)]at hk
 by_cases h7:k=7
 ·rw[if_pos h7]at hk
  match l,hk with
  | [a],_=>grind
  | [],hk=>simp at hk
  | _::_::_,hk=>grind
 ·rw[if_neg h7]at hk
  by_cases h:k=3\/k=4\/k=5\/k=6
  ·rw[if_pos h]at hk
   match l,hk with
   | [a,b],_=>grind
   | [],hk=>simp at hk
   | [_],hk=>simp at hk
   | _::_::_::_,hk=>grind
  ·grind
theorem OX(e:Expr)(d:Nat)(ho:uA d e=true)(ha:allOk e)(hs:szE e<=1000000):(ng e).run=some (prE e):=by
 unfold ng
 refine nf (λx:Expr=>(∃ d,uA d x=true)/\allOk x/\szE x<=1000000) (λx=>vB x) (λx=>prE x) (λx hx g hg => ?_) (x:=e) ⟨⟨d,ho⟩,ha,hs⟩
 obtain⟨⟨d,ho⟩,ha,hs⟩:=hx
 cases x with | mk k n s l =>
 obtain⟨hk,hl⟩:=Qg ho
 obtain⟨hn,ot⟩:=ha
 have Nl:vB (.mk k n s l)=1+ue l:=rfl
 have jA:szE (.mk k n s l)=3+s.length+8*n.2.1.length+8*n.2.2.1.length+szEs l:=rfl
 have hE:=tS n (fj hn (by omega))
 have z8a:prE (.mk k n s l)=if k=1 then(xC (norm n).1 (nv (norm n).2.1) (nv (norm n).2.2.1) 0 61).1 else if k=2 then s else Qo k (prL l):=rfl
 rw[z8a]
 unfold dY
 rw[show Expr.kind (.mk k n s l)=k from rfl,show Expr.kids (.mk k n s l)=l from rfl,show Expr.num (.mk k n s l)=n from rfl,show Expr.name (.mk k n s l)=s from rfl]
 have R7:=Gi (.mk k n s l)
 rw[show Expr.kind (.mk k n s l)=k from rfl]at R7
 by_cases h1:k=1
 ·rw[if_pos h1]
  refine(z6 (a:=.inr (xC (norm n).1 (nv (norm n).2.1) (nv (norm n).2.2.1) 0 61).1) ?_ _).trans rfl
  rw[za (by simpa using h1),z6 hE,z7]
 have k1:(k==1)=false:=by simpa using h1
 by_cases h2:k=2
 ·rw[if_neg h1,if_pos h2]
  refine(z6 (a:=.inr s) ?_ _).trans rfl
  rw[z8 k1,za (by simpa using h2),z7]
 have k2:(k==2)=false:=by simpa using h2
 rw[if_neg h1,if_neg h2]
 rcases HI hk h1 h2 with⟨h7,a,rfl⟩ | ⟨h36,a,b,rfl⟩
 ·have ha':uA (d+1) a=true:=by
   have:(uA (d+1) a&&y9 (d+1) [])=true:=hl
   grind
  have e0:ue [a]=vB a+0:=rfl
  have e1:szEs [a]=szE a+0:=rfl
  have hr:=hg a ⟨⟨_,ha'⟩,ot.1,by omega⟩ (by omega)
  have hlen:=lv (vB a) a (d+1) (Nat.le_refl _) ha' ot.1
  have hp:=ZC g a 3 (prE a) hr (by omega)
  have V5:=bj (decide (qE a.kind<3)) (prE a)
  refine(z6 (a:=.inr (Qo k (prL [a]))) ?_ _).trans rfl
  rw[z8 k1,z8 k2,za (by simpa using h7),zb ⟨by omega,by simp⟩,show nth [a] (0:Int) (zn .expr)=a from rfl,z6 hp,zr _ (by simp; omega),z7]
  rfl
 ·have Y8:uA (d+1) a=true/\uA (d+1) b=true:=by
   have:(uA (d+1) a&&(uA (d+1) b&&y9 (d+1) []))=true:=hl
   grind
  have e0:ue [a,b]=vB a+(vB b+0):=rfl
  have e1:szEs [a,b]=szE a+(szE b+0):=rfl
  have ra:=hg a ⟨⟨_,Y8.1⟩,ot.1,by omega⟩ (by omega)
  have rb:=hg b ⟨⟨_,Y8.2⟩,ot.2.1,by omega⟩ (by omega)
  have la:=lv (vB a) a (d+1) (Nat.le_refl _) Y8.1 ot.1
  have lb:=lv (vB b) b (d+1) (Nat.le_refl _) Y8.2 ot.2.1
  have Ep:zI (qE k+1)=qE k+1:=by
   have:qE k=1\/qE k=2\/qE k=3\/qE k=4:=by unfold qE; (repeat' split)<;>simp
   rw[zA (by omega) (by omega)]
  have pa:=ZC g a (qE k) (prE a) ra (by omega)
  have pb:=ZC g b (qE k+1) (prE b) rb (by omega)
  have qa:=bj (decide (qE a.kind<qE k)) (prE a)
  have qb:=bj (decide (qE b.kind<qE k+1)) (prE b)
  have hm:=YX k
  have k7:(k==7)=false:=by rw[beq_eq_false_iff_ne]; omega
  refine(z6 (a:=.inl (Ei k)) ?_ _).trans ?_
  ·rw[z8 k1,z8 k2,z8 k7]
   rcases h36 with rfl | rfl | rfl | rfl<;>rfl
  ·rw[Sum.elim_inl,zb ⟨by omega,by simp⟩,z6 R7,show nth [a,b] (0:Int) (zn .expr)=a from rfl,z6 pa,zr _ (by omega),zb ⟨by omega,by simp⟩,z6 R7,Ep,show nth [a,b] (1:Int) (zn .expr)=b from rfl,z6 pb,zr _ (by simp[jx]; omega),z7]
   rfl
theorem Ti(e:Expr)(asks:Int)(d:Nat)(ho:uA d e=true)(ha:allOk e)(hs:szE e<=100000):(sj e asks).run=some (n4 (decide (qE e.kind<asks)) (prE e)):=by
 unfold sj
 refine nf (λx:Expr×Int=>(∃ d,uA d x.1=true)/\allOk x.1/\szE x.1<=100000) (λx=>vB x.1) (λx=>n4 (decide (qE x.1.kind<x.2)) (prE x.1)) (λx hx g hg => ?_) (x:=(e,asks)) ⟨⟨d,ho⟩,ha,hs⟩
 obtain⟨x,q⟩:=x
 obtain⟨⟨d,ho⟩,ha,hs⟩:=hx
 dsimp only at ho ha hs
 have zj7:=lv (vB x) x d (Nat.le_refl _) ho ha
 cases x with | mk k n s l =>
 obtain⟨hk,hl⟩:=Qg ho
 obtain⟨hn,ot⟩:=ha
 have Nl:vB (.mk k n s l)=1+ue l:=rfl
 have jA:szE (.mk k n s l)=3+s.length+8*n.2.1.length+8*n.2.2.1.length+szEs l:=rfl
 have hE:=rX n (fj hn (by omega))
 have z8a:prE (.mk k n s l)=if k=1 then(xC (norm n).1 (nv (norm n).2.1) (nv (norm n).2.2.1) 0 61).1 else if k=2 then s else Qo k (prL l):=rfl
 unfold iV
 rw[show Expr.kind (.mk k n s l)=k from rfl,show Expr.kids (.mk k n s l)=l from rfl,show Expr.num (.mk k n s l)=n from rfl,show Expr.name (.mk k n s l)=s from rfl]
 have fin:∀ t:T zd,t.run=some (prE (.mk k n s l))->(T.bind t λs1=>T.bind (pI k) λr10=>.ite (decide (r10<q))
   (.zx (((List.length ([40]:zd))+(List.length s1))<=(4611686018427387904:Nat))<|.zx (((List.length (cat ([40]:zd) s1))+(List.length ([41]:zd)))<=(4611686018427387904:Nat))<|.ret (cat (cat ([40]:zd) s1) ([41]:zd))) (.ret s1):T zd).run=some (n4 (decide (qE k<q)) (prE (.mk k n s l))):=by
  intro t ht
  rw[z6 ht,z6 (z3B k)]
  cases decide (qE k<q)with
  | true=>rw[zk,zr _ (by simp; omega),zr _ (by simp[jx]; omega),z7]; rfl
  | false=>rfl
 refine fin _ ?_
 rw[z8a]
 by_cases h1:k=1
 ·rw[if_pos h1,za (by simpa using h1),z6 hE,z7]
 have k1:(k==1)=false:=by simpa using h1
 by_cases h2:k=2
 ·rw[if_neg h1,if_pos h2,z8 k1,za (by simpa using h2),z7]
 have k2:(k==2)=false:=by simpa using h2
 rw[if_neg h1,if_neg h2]
 rcases HI hk h1 h2 with⟨h7,a,rfl⟩ | ⟨h36,a,b,rfl⟩
 ·have ha':uA (d+1) a=true:=by
   have:(uA (d+1) a&&y9 (d+1) [])=true:=hl
   grind
  have e0:ue [a]=vB a+0:=rfl
  have e1:szEs [a]=szE a+0:=rfl
  have hr:=hg (a,3) ⟨⟨_,ha'⟩,ot.1,by dsimp only; omega⟩ (by dsimp only; omega)
  have hlen:=lv (vB a) a (d+1) (Nat.le_refl _) ha' ot.1
  have V5:=bj (decide (qE a.kind<3)) (prE a)
  dsimp only at hr
  rw[z8 k1,z8 k2,za (by simpa using h7),zb ⟨by omega,by simp⟩,show nth [a] (0:Int) (zn .expr)=a from rfl,z6 hr,zr _ (by simp; omega),z7]
  rfl
 ·have Y8:uA (d+1) a=true/\uA (d+1) b=true:=by
   have:(uA (d+1) a&&(uA (d+1) b&&y9 (d+1) []))=true:=hl
   grind
  have e0:ue [a,b]=vB a+(vB b+0):=rfl
  have e1:szEs [a,b]=szE a+(szE b+0):=rfl
  have ra:∀ q:Int,(g (a,q)).run=some (n4 (decide (qE a.kind<q)) (prE a)):=λq=>hg (a,q) ⟨⟨_,Y8.1⟩,ot.1,by dsimp only; omega⟩ (by dsimp only; omega)
  have rb:∀ q:Int,(g (b,q)).run=some (n4 (decide (qE b.kind<q)) (prE b)):=λq=>hg (b,q) ⟨⟨_,Y8.2⟩,ot.2.1,by dsimp only; omega⟩ (by dsimp only; omega)
  have la:=lv (vB a) a (d+1) (Nat.le_refl _) Y8.1 ot.1
  have lb:=lv (vB b) b (d+1) (Nat.le_refl _) Y8.2 ot.2.1
  have qa:∀ q:Int,(n4 (decide (qE a.kind<q)) (prE a)).length<=1000000000:=λq=>by have:=bj (decide (qE a.kind<q)) (prE a); omega
  have qb:∀ q:Int,(n4 (decide (qE b.kind<q)) (prE b)).length<=1000000000:=λq=>by have:=bj (decide (qE b.kind<q)) (prE b); omega
  have k7:(k==7)=false:=by rw[beq_eq_false_iff_ne]; omega
  have two:∀ (m:zd) (p q:Int),m.length<=3->(.zx (q9 (0:Int) (List.length [a,b]))<|T.bind (g (nth [a,b] (0:Int) (zn .expr),p)) λr2=>.zx (((List.length r2)+(List.length m))<=(4611686018427387904:Nat))<|.zx (q9 (1:Int) (List.length [a,b])) <|
    T.bind (g (nth [a,b] (1:Int) (zn .expr),q)) λr3=>.zx (((List.length (cat r2 m))+(List.length r3))<=(4611686018427387904:Nat))<|.ret (cat (cat r2 m) r3):T zd).run=some (n4 (decide (qE a.kind<p)) (prE a)++m++n4 (decide (qE b.kind<q)) (prE b)):=by
   intro m p q hm
   have h3:=qa p
   have h4:=qb q
   rw[zb ⟨by omega,by simp⟩,show nth [a,b] (0:Int) (zn .expr)=a from rfl,z6 (ra p),zr _ (by omega),zb ⟨by omega,by simp⟩,show nth [a,b] (1:Int) (zn .expr)=b from rfl,z6 (rb q),zr _ (by simp[jx]; omega),z7]
   rfl
  rw[z8 k1,z8 k2,z8 k7]
  rcases h36 with rfl | rfl | rfl | rfl
  ·rw[za (by rfl)]; exact two [32,43,32] 1 2 (by simp)
  ·rw[z8 (by rfl),za (by rfl)]; exact two [32,45,32] 1 2 (by simp)
  ·rw[z8 (by rfl),z8 (by rfl),za (by rfl)]; exact two [32,42,32] 2 3 (by simp)
  ·rw[z8 (by rfl),z8 (by rfl),z8 (by rfl),za (by rfl)]; exact two [32,47,32] 2 3 (by simp)
theorem gC(e:Expr):Expr.mk (Expr.kind e) ((Expr.num e).1,((Expr.num e).2.1,((Expr.num e).2.2.1,()))) (Expr.name e) (Expr.kids e)=e:=by
 cases e; rfl
mutual
theorem PW:∀ e:Expr,bkE e<=4*szE e
 | .mk k n s l=>by
  have:=MZ l
  unfold bkE szE
  omega
theorem MZ:∀ l:List Expr,bkEs l<=4*szEs l
 | []=>Nat.le_refl _
 | e::r=>by
  have h1:=PW e
  have h2:=MZ r
  unfold bkEs szEs
  omega
end
def uS(e:Expr):Prop:=szE e<=74000/\vB e<=256/\allOk e
theorem Ls{e:Expr}(h:szE e<=600)(ha:allOk e):uS e:=⟨by omega,by have:=PJ e; omega,ha⟩
theorem z2M{e:Expr}(h:uS e):bkE e<=296000:=by have:=PW e; have:=h.1; omega
theorem LD{e:Expr}(h:uS e):vB e<=256:=h.2.1
theorem Qh{e:Expr}(h:uS e):(j3 e).run=some (uA 0 e):=z6U e h.2.2 (LD h)
theorem pH{e:Expr}(h:uS e):(gf e).run=some (uA 0 e):=Cw e h.2.2 (by have:=z2M h; omega) (LD h)
theorem LG{e:Expr}(h:uS e)(ho:uA 0 e=true):(fM e).run=some (prE e):=by
 unfold fM
 rw[z6 (Qh h),ho,z8 (by rfl),z6 (OX e 0 ho h.2.2 (by have:=h.1; omega)),z7]
theorem Qp{e:Expr}(h:uS e)(ho:uA 0 e=true):(gm e).run=some (prE e):=by
 unfold gm
 rw[z6 (pH h),ho,z8 (by rfl),z6 (Ti e 1 0 ho h.2.2 (by have:=h.1; omega)),z7]
 have:decide (qE e.kind<1)=false:=by
  unfold qE
  grind
 rw[this]; rfl
theorem dc{e:Expr}(h:uS e)(ho:uA 0 e=true):(prE e).length<=148000000:=by
 have:=lv (vB e) e 0 (Nat.le_refl _) ho h.2.2
 have:=h.1
 omega
structure FS(f:Form):Prop where
 n:f.1.length+f.2.1.length+f.2.2.1.length+f.2.2.2.1.length+f.2.2.2.2.1.length+f.2.2.2.2.2.1.length<=601
 s:∀ x∈f.1,x.1.length<=600
 p:∀ x∈f.2.1,x.1.length<=600/\vM 100 x.2.1
 g:∀ x∈f.2.2.1,x.1.length<=600/\x.2.1.length<=600
 d:∀ x∈f.2.2.2.1,x.1.length<=600
 r:∀ x∈f.2.2.2.2.1,x.1.length<=600/\x.2.2.1.length<=600/\uS x.2.2.2.1/\uS x.2.2.2.2.1
 c:∀ x∈f.2.2.2.2.2.1,x.1.length<=600/\uS x.2.2.2.1/\uS x.2.2.2.2.1
def HE(x:Switch):Bool := !zS x.1
def oQ(x:Param):Bool := !zS x.1||(!ou x.2.1||cN x.2.1)
def oL(s:zd):Bool:=zi s []||zS s
def Ba(x:qq):Bool := !zS x.1 || !oL x.2.1
def J3(n at_:Int)(x:Field):Bool:=decide (x.2.1<at_)||(decide (n<=x.2.1)||(!zS x.1||(decide (x.2.2.2.1<(0:Int))||decide ((9:Int)<x.2.2.2.1))))
def JC(n at_:Int)(x:Check):Bool:=decide (x.2.1<at_)||(decide (n<=x.2.1)||(!zS x.1||(decide (x.2.2.1<(0:Int))||(decide ((2:Int)<x.2.2.1)||(!uA 0 x.2.2.2.1 || !uA 0 x.2.2.2.2.1)))))
def Zp(x:qk):Bool := !zS x.1||(!oL x.2.2.1||(decide (x.2.1<(0:Int))||(decide ((3:Int)<x.2.1)||(!uA 0 x.2.2.2.1 || !uA 0 x.2.2.2.2.1))))
def Qx{α:Type}(bad:Int->α->Bool)(nx:α->Int):Int->List α->Bool
 | _,[]=>true
 | at_,x::r => !bad at_ x&&Qx bad nx (nx x) r
theorem EG{α:Type}(bad:Int->α->Bool)(nx:α->Int)(at_:Int)(x:α)(r:List α):Qx bad nx at_ (x::r)=(!bad at_ x&&Qx bad nx (nx x) r):=rfl
def a1(f:Form):Bool := !f.1.any HE
def a2(f:Form):Bool := !f.2.1.any oQ
def a3(f:Form):Bool := !f.2.2.1.any Ba
def a4(f:Form):Bool:=Qx (J3 (f.2.2.1.length:Int)) (λx=>x.2.1) 0 f.2.2.2.1
def a5(f:Form):Bool:=Qx (JC (f.2.2.1.length:Int)) (λx=>x.2.1) 0 f.2.2.2.2.2.1
def a6(f:Form):Bool := !f.2.2.2.2.1.any Zp
theorem X4{α:Type}(l:List α)(d:α)(bad:α->Bool){r:Int->T (Int⊕(Unit⊕Bool))}
  (step:∀ (k:Nat) (x:α),k<l.length->nth l (k:Int) d=x->x∈l->(r (k:Int)).run=some (if bad x=true then .inr (.inr false)else .inl ((k+1:Nat):Int)))
  (done:(r (l.length:Int)).run=some (.inr (.inl ()))):(T.loop r 0).run=some (if l.any bad=true then .inr false else .inl ()):=by
 refine T.se (r:=r) l d (λ(_:Unit) i=>i) (λ_ _=>True) (λxs _=>if xs.any bad=true then .inr false else .inl ()) (λk b x xs hk hx hm _ _ => ?_) (λb _ => ?_) (b:=()) trivial
 ·rw[step k x hk hx hm,List.any_cons]
  cases bad x with
  | true=>simp
  | false=>simp
 ·exact done
theorem sG{α:Type}(l:List α)(d:α)(bad:Int->α->Bool)(nx:α->Int){r:Int×Int->T ((Int×Int)⊕(Unit⊕Bool))}
  (hn:∀ at_ x,0<=at_->bad at_ x=false->0<=nx x)
  (step:∀ (k:Nat) (at_:Int) (x:α),k<l.length->nth l (k:Int) d=x->x∈l->0<=at_->(r (at_,(k:Int))).run=some (if bad at_ x=true then .inr (.inr false)else .inl (nx x,((k+1:Nat):Int))))
  (done:∀ at_,(r (at_,(l.length:Int))).run=some (.inr (.inl ()))):(T.loop r (0,0)).run=some (if Qx bad nx 0 l=true then .inl ()else .inr false):=by
 refine T.se (r:=r) l d (λ(b:Int) i=>(b,i)) (λ_ b=>0<=b) (λxs b=>if Qx bad nx b xs=true then .inl ()else .inr false) (λk b x xs hk hx hm _ h0 => ?_) (λb _ => ?_) (b:=0) (Int.le_refl 0)
 ·rw[step k b x hk hx hm h0]
  rw[EG]
  grind
 ·exact done b
theorem Wc{α:Type}{bad:Int->α->Bool}{nx:α->Int}:∀ {l:List α} {at_:Int},Qx bad nx at_ l=true->∀ x∈l,∃ b,bad b x=false
 | [],_,_,x,hx=>by cases hx
 | y::r,at_,h,x,hx=>by
  unfold Qx at h
  rw[Bool.and_eq_true,Bool.not_eq_true']at h
  rcases List.mem_cons.1 hx with rfl | hx
  ·grind
  ·exact Wc h.2 x hx
theorem NP{α:Type}{x:α}{b c:Bool}{t:T (Bool×α)}(h:t.run=some (c,x)):(T.ite b (.ret (true,x)) t).run=some (b||c,x):=by cases b; exact h; rfl
theorem orB{b c:Bool}{t:T Bool}(h:t.run=some c):(T.ite b (.ret true) t).run=some (b||c):=by cases b; exact h; rfl
theorem rV{α:Type}{x:α}{m:T Bool}{b c:Bool}{t:T (Bool×α)}(hm:m.run=some b)(h:t.run=some (c,x)):(T.bind m λr=>T.ite (!r) (.ret (true,x)) t).run=some (!b||c,x):=by
 rw[z6 hm]; exact NP h
theorem Wg{m:T Bool}{b c:Bool}{t:T Bool}(hm:m.run=some b)(h:t.run=some c):(T.bind m λr=>T.ite (!r) (.ret true) t).run=some (!b||c):=by
 rw[z6 hm]; exact orB h
theorem z6f{α:Type}{x:α}{m:T Bool}{b:Bool}(hm:m.run=some b):(T.bind m λr=>.ret ((!r),x)).run=some (!b,x):=by
 rw[z6 hm]; rfl
theorem Rq{m:T Bool}{b:Bool}(hm:m.run=some b):(T.bind m λr=>.ret (!r)).run=some (!b):=by
 rw[z6 hm]; rfl
abbrev ER(a b:Int):Prop:=a<=b
abbrev ilt(a b:Int):Prop:=a<b
abbrev FT:=List Switch×List Param×List Field×List qk×List Check×Unit
def Pl(x:Switch):zd:=[115,119,105,116,99,104,32]++x.1++(bif x.2.1 then[32,111,110,10]else[32,111,102,102,10])
def Pr(x:Param):zd:=[112,97,114,97,109,32]++x.1++[32]++lM (norm x.2.1)++[10]
def whS(s:zd):zd:=if s=[]then[]else[32,119,104,101,110,32]++s
def phS(x:qq):zd:=[112,97,103,101,32]++x.1++whS x.2.1++[10]
def fhS(x:Field):zd:=bif x.2.2.1 then[102,105,101,108,100,32]++x.1++[32,109,117,115,116]else[102,105,101,108,100,32]++x.1
def fdS(x:Field):zd:=if(0:Int)<x.2.2.2.1 then fhS x++([32,115,99,97,108,101,32]++od x.2.2.2.1)++[10]else fhS x++[10]
def Pu(l:Expr)(sign:zd)(r:Expr):zd:=[32,58,32]++prE l++[32]++sign++[32]++prE r++[10]
def cC(n:Int):zd:=if n=1 then[60]else if n=2 then[60,61]else[61]
def lC(n:Int):zd:=if n=0 then[114,101,113,117,105,114,101,100]else if n=1 then[115,116,114,111,110,103]else if n=2 then[109,101,100,105,117,109]else[119,101,97,107]
def ckS(x:Check):zd:=[99,104,101,99,107,32]++x.1++Pu x.2.2.2.1 (cC x.2.2.1) x.2.2.2.2.1
def Ib(x:qk):zd:=[114,117,108,101,32]++lC x.2.1++[32]++x.1++whS x.2.2.1++Pu x.2.2.2.1 [61] x.2.2.2.2.1
def Po(i:Int)(x:Field):zd:=if(x.2.1==i)=true then fdS x else[]
def ckI(i:Int)(x:Check):zd:=if(x.2.1==i)=true then ckS x else[]
def OP(f:Form)(i:Nat):zd:=phS (nth f.2.2.1 (i:Int) (zn zO))++f.2.2.2.1.flatMap (Po i)++f.2.2.2.2.2.1.flatMap (ckI i)
def frS(f:Form):zd:=f.1.flatMap Pl++f.2.1.flatMap Pr++(List.range f.2.2.1.length).flatMap (OP f)++f.2.2.2.2.1.flatMap Ib
structure Pf(f:Form):Prop extends FS f where
 d2:∀ x∈f.2.2.2.1,ER 0 x.2.2.2.1/\ER x.2.2.2.1 9
 c2:∀ x∈f.2.2.2.2.2.1,ER 0 x.2.2.1/\ER x.2.2.1 2/\uA 0 x.2.2.2.1=true/\uA 0 x.2.2.2.2.1=true
 r2:∀ x∈f.2.2.2.2.1,ER 0 x.2.1/\ER x.2.1 3/\uA 0 x.2.2.2.1=true/\uA 0 x.2.2.2.2.1=true
theorem To{f:Form}(h:FS f)(h4:a4 f=true)(h5:a5 f=true)(h6:a6 f=true):Pf f:=by
 refine { toFS:=h,d2:=λx hx => ?_,c2:=λx hx => ?_,r2:=λx hx => ?_ }
 ·obtain⟨b,hb⟩:=Wc h4 x hx
  unfold J3 at hb
  grind
 ·obtain⟨b,hb⟩:=Wc h5 x hx
  unfold JC at hb
  grind
 ·unfold a6 at h6
  rw[Bool.not_eq_true',List.any_eq_false]at h6
  have hb:Zp x=false:=by simpa using h6 x hx
  unfold Zp at hb
  grind
theorem Qw(n:Int):(cC n).length<=2:=by unfold cC; split; decide; split<;>decide
theorem JG(n:Int):(lC n).length<=8:=by unfold lC; split; decide; split; decide; split<;>decide
theorem sL(s:zd):(whS s).length<=s.length+6:=by unfold whS; split<;>simp
theorem VY(x:Switch)(h:x.1.length<=600):(Pl x).length<=300000000:=by
 unfold Pl
 grind
theorem VV(x:Param)(h:x.1.length<=600)(hr:vM 100 x.2.1):(Pr x).length<=300000000:=by
 have:=Zg x.2.1 ⟨hr.1,hr.2.1,by have:=hr.2.2.1; omega,by have:=hr.2.2.2; omega⟩
 unfold Pr
 grind
theorem M0(x:qq)(h:x.1.length<=600)(h2:x.2.1.length<=600):(phS x).length<=300000000:=by
 have:=sL x.2.1
 unfold phS
 grind
theorem HJ(x:Field):(fhS x).length<=x.1.length+11:=by
 unfold fhS
 cases x.2.2.1<;>simp
theorem HO(x:Field)(h:x.1.length<=600)(h1:ER 0 x.2.2.2.1)(h2:ER x.2.2.2.1 9):(fdS x).length<=300000000:=by
 have:=DE x.2.2.2.1 ⟨by grind,by grind⟩
 have:=HJ x
 unfold fdS
 split<;>simp<;>omega
theorem VL{l r:Expr}(s:zd)(hs:s.length<=8)(h1:uS l)(h2:uS r)(o1:uA 0 l=true)(o2:uA 0 r=true):(Pu l s r).length<=297000000:=by
 have:=dc h1 o1
 have:=dc h2 o2
 unfold Pu
 grind
theorem IG(x:Check)(h:x.1.length<=600)(h1:uS x.2.2.2.1)(h2:uS x.2.2.2.2.1)(o1:uA 0 x.2.2.2.1=true)(o2:uA 0 x.2.2.2.2.1=true):(ckS x).length<=300000000:=by
 have:=VL (cC x.2.2.1) (by have:=Qw x.2.2.1; omega) h1 h2 o1 o2
 unfold ckS
 grind
theorem VN(x:qk)(h:x.1.length<=600)(h':x.2.2.1.length<=600)(h1:uS x.2.2.2.1)(h2:uS x.2.2.2.2.1)(o1:uA 0 x.2.2.2.1=true)(o2:uA 0 x.2.2.2.2.1=true):(Ib x).length<=300000000:=by
 have:=VL [61] (by decide) h1 h2 o1 o2
 have:=JG x.2.1
 have:=sL x.2.2.1
 unfold Ib
 grind
theorem QX{f:Form}(h:Pf f)(i:Int):∀ x∈f.2.2.2.1,(Po i x).length<=300000000:=λx hx=>by
 unfold Po
 split
 ·exact HO x (h.d x hx) (h.d2 x hx).1 (h.d2 x hx).2
 ·simp
theorem Bz{f:Form}(h:Pf f)(i:Int):∀ x∈f.2.2.2.2.2.1,(ckI i x).length<=300000000:=λx hx=>by
 unfold ckI
 obtain⟨q1,q2,q3⟩:=h.c x hx
 obtain⟨_,_,o1,o2⟩:=h.c2 x hx
 split
 ·exact IG x q1 q2 q3 o1 o2
 ·simp
theorem M1{f:Form}(h:Pf f){i:Nat}(hi:i<f.2.2.1.length):(nth f.2.2.1 (i:Int) (zn zO)).1.length<=600/\(nth f.2.2.1 (i:Int) (zn zO)).2.1.length<=600 :=
 h.g _ (bB (by omega) (by omega))
theorem HK{f:Form}(h:Pf f){i:Nat}(hi:i<f.2.2.1.length):(OP f i).length<=181000000000:=by
 obtain⟨g1,g2⟩:=M1 h hi
 have h1:=M0 _ g1 g2
 have h2:=jj (Po i) f.2.2.2.1 300000000 (QX h i)
 have h3:=jj (ckI i) f.2.2.2.2.2.1 300000000 (Bz h i)
 have:=h.n
 unfold OP
 grind
theorem lZ{α:Type}(l:List α)(d:α)(C B:Nat)(f:α->zd)(s:zd){r:zd×Int->T ((zd×Int)⊕zd)}
  (step:∀ (k:Nat) (b:zd) (x:α),k<l.length->nth l (k:Int) d=x->x∈l->b.length+C<=B->(r (b,(k:Int))).run=some (.inl (b++f x,((k+1:Nat):Int))))
  (done:∀ b,(r (b,(l.length:Int))).run=some (.inr b)) (hf:∀ x∈l,(f x).length<=C) (hB:s.length+l.length*C<=B):(T.loop r (s,0)).run=some (s++l.flatMap f):=by
 rw[<- YL]
 refine T.JM (r:=r) l d (λ(b:zd) i=>(b,i)) (λk b=>b.length<=s.length+k*C) (λb x=>b++f x) (λb=>b) (λk b x hk hx hm hI => ?_) (λb hI=>done b) (b:=s) (by omega)
 have h4:=E3 (c:=C) (show k+1<=l.length from hk)
 grind
theorem mm{α:Type}(l:List α)(d:α)(C B:Nat)(f:α->zd)(s:zd){r:Int×Unit×List Int->T ((Int×Unit×List Int)⊕(Unit×List Int))}
  (step:∀ (k:Nat) (b:zd) (x:α),k<l.length->nth l (k:Int) d=x->x∈l->b.length+C<=B->(r ((k:Int),(),bytesOf b)).run=some (.inl (((k+1:Nat):Int),(),bytesOf (b++f x))))
  (done:∀ b,(r ((l.length:Int),(),bytesOf b)).run=some (.inr ((),bytesOf b))) (hf:∀ x∈l,(f x).length<=C) (hB:s.length+l.length*C<=B):(T.loop r (0,(),bytesOf s)).run=some ((),bytesOf (s++l.flatMap f)):=by
 rw[<- YL]
 refine T.JM (r:=r) l d (λ(b:zd) i=>(i,(),bytesOf b)) (λk b=>b.length<=s.length+k*C) (λb x=>b++f x) (λb=>((),bytesOf b)) (λk b x hk hx hm hI => ?_) (λb hI=>done b) (b:=s) (by omega)
 have h4:=E3 (c:=C) (show k+1<=l.length from hk)
 grind
theorem Y1(l:List Switch)(g:Switch->T Bool)(p:Switch->Bool)(hg:∀ x∈l,(g x).run=some (p x))(hl:l.length<=1000000000):(qW l g).run=some (l.any p):=by
 have key:(ji l g (l.length:Int) 0).run=some (if PL.ZO p 0 l = -1 then .inl ()else .inr (PL.ZO p 0 l)):=by
  refine PL.Xl l (zn zu) p (λi h hi hp => ?_) (λi h hi hp => ?_) (λi hi => ?_)
  ·have hm:=bB (d:=zn zu) h hi
   simp(disch:=omega) [qV,hi,hg _ hm,hp]
  ·have hm:=bB (d:=zn zu) h hi
   simp(disch:=omega) [qV,hi,hg _ hm,hp]
  ·simp[qV,hi]
 have hx:(wv l g).run=some (PL.ZO p 0 l):=by
  unfold wv
  rw[z6 key]
  split<;>rename_i h<;>simp[h]
 unfold qW
 rw[z6 hx,z7,PL.VM _ _ _ (Int.le_refl 0)]
theorem H8(l:List Param)(g:Param->T Bool)(p:Param->Bool)(hg:∀ x∈l,(g x).run=some (p x))(hl:l.length<=1000000000):(xi l g).run=some (l.any p):=by
 have key:(jC l g (l.length:Int) 0).run=some (if PL.ZO p 0 l = -1 then .inl ()else .inr (PL.ZO p 0 l)):=by
  refine PL.Xl l (zn zD) p (λi h hi hp => ?_) (λi h hi hp => ?_) (λi hi => ?_)
  ·have hm:=bB (d:=zn zD) h hi
   simp(disch:=omega) [xh,hi,hg _ hm,hp]
  ·have hm:=bB (d:=zn zD) h hi
   simp(disch:=omega) [xh,hi,hg _ hm,hp]
  ·simp[xh,hi]
 have hx:(wI l g).run=some (PL.ZO p 0 l):=by
  unfold wI
  rw[z6 key]
  split<;>rename_i h<;>simp[h]
 unfold xi
 rw[z6 hx,z7,PL.VM _ _ _ (Int.le_refl 0)]
theorem DX(l:List qq)(g:qq->T Bool)(p:qq->Bool)(hg:∀ x∈l,(g x).run=some (p x))(hl:l.length<=1000000000):(xy l g).run=some (l.any p):=by
 have key:(kb l g (l.length:Int) 0).run=some (if PL.ZO p 0 l = -1 then .inl ()else .inr (PL.ZO p 0 l)):=by
  refine PL.Xl l (zn zO) p (λi h hi hp => ?_) (λi h hi hp => ?_) (λi hi => ?_)
  ·have hm:=bB (d:=zn zO) h hi
   simp(disch:=omega) [xB,hi,hg _ hm,hp]
  ·have hm:=bB (d:=zn zO) h hi
   simp(disch:=omega) [xB,hi,hg _ hm,hp]
  ·simp[xB,hi]
 have hx:(vd l g).run=some (PL.ZO p 0 l):=by
  unfold vd
  rw[z6 key]
  split<;>rename_i h<;>simp[h]
 unfold xy
 rw[z6 hx,z7,PL.VM _ _ _ (Int.le_refl 0)]
theorem Cq(l:List qk)(g:qk->T Bool)(p:qk->Bool)(hg:∀ x∈l,(g x).run=some (p x))(hl:l.length<=1000000000):(xA l g).run=some (l.any p):=by
 have key:(ke l g (l.length:Int) 0).run=some (if PL.ZO p 0 l = -1 then .inl ()else .inr (PL.ZO p 0 l)):=by
  refine PL.Xl l (zn zY) p (λi h hi hp => ?_) (λi h hi hp => ?_) (λi hi => ?_)
  ·have hm:=bB (d:=zn zY) h hi
   simp(disch:=omega) [xw,hi,hg _ hm,hp]
  ·have hm:=bB (d:=zn zY) h hi
   simp(disch:=omega) [xw,hi,hg _ hm,hp]
  ·simp[xw,hi]
 have hx:(vk l g).run=some (PL.ZO p 0 l):=by
  unfold vk
  rw[z6 key]
  split<;>rename_i h<;>simp[h]
 unfold xA
 rw[z6 hx,z7,PL.VM _ _ _ (Int.le_refl 0)]
theorem U4(s:zd):(y4 s).run=some (oL s):=by
 unfold y4 oL
 cases zi s []with
 | true=>rfl
 | false=>rw[zf,z6 (xW s)]; rfl
theorem P1(f:Form)(h:FS f):(iN f).run=some (a1 f&&(a2 f&&a3 f)):=by
 have hn:=h.n
 have h1:(qW f.1 (λz0=>j9 z0)).run=some (f.1.any HE):=Y1 f.1 _ HE (λx _=>by
  exact Rq (xW x.1)) (by omega)
 have h2:(xi f.2.1 (λz0=>j6 z0)).run=some (f.2.1.any oQ):=H8 f.2.1 _ oQ (λx hx=>by
  have hr:=(h.p x hx).2
  have hr:vM 100000000 x.2.1:=⟨hr.1,hr.2.1,by have:=hr.2.2.1; omega,by have:=hr.2.2.2; omega⟩
  exact Wg (xW x.1) (Wg (Z8 _ hr) (by rw[z6 (tC _ hr)]; rfl))) (by omega)
 have h3:(xy f.2.2.1 (λz0=>j8 z0)).run=some (f.2.2.1.any Ba):=DX f.2.2.1 _ Ba (λx hx=>by
  exact Wg (xW x.1) (Rq (U4 _))) (by omega)
 unfold iN a1 a2 a3
 rw[z6 h1]
 cases f.1.any HE with
 | true=>rfl
 | false =>
  rw[za (by rfl),z6 h2]
  cases f.2.1.any oQ with
  | true=>rfl
  | false=>rw[za (by rfl),z6 h3,z7]; rfl
theorem UF(pg at_ n:Int)(h:0<=at_):(ca pg at_ n).run=some (!(decide (pg<at_)||decide (n<=pg))):=by
 unfold ca
 have e1:nO at_ 0=at_:=by unfold nO; split<;>omega
 rw[e1,z7]
 by_cases q1:pg<at_<;>by_cases q2:n<=pg
 ·grind
 ·grind
 ·grind
 ·grind
theorem XK(f:Form)(h:FS f):(eC f).run=some (a4 f):=by
 have hn:=h.n
 have key:(oi f f.2.2.2.1 (f.2.2.2.1.length:Int) (0,0)).run=some (if a4 f=true then .inl ()else .inr false):=by
  refine sG (r:=jF f f.2.2.2.1 (f.2.2.2.1.length:Int)) f.2.2.2.1 (zn zw) (J3 (f.2.2.1.length:Int)) (λx=>x.2.1) (λat_ x h0 hb => ?_) (λk at_ x hk hx hm h0 => ?_) (λat_ => ?_)
  ·unfold J3 at hb
   grind
  ·unfold jF
   rw[za (vQ hk),zb (zG hk),hx]
   refine(z6 (a:=(J3 (f.2.2.1.length:Int) at_ x,x)) ?_ _).trans ?_
   ·refine(rV (xW x.1) (rV (UF x.2.1 at_ _ h0) (NP (z7 _)))).trans ?_
    unfold J3
    grind
   ·dsimp only
    cases J3 (f.2.2.1.length:Int) at_ x with
    | true=>rfl
    | false=>rw[zf,z7,eS k _ hk (by omega)]; rfl
  ·unfold jF
   simp
 unfold eC
 rw[z6 key]
 cases a4 f<;>rfl
theorem TG(x:qk)(h1:uS x.2.2.2.1)(h2:uS x.2.2.2.2.1):(vK x).run=some (Zp x):=by
 have e:(T.bind (wF) λr2=>T.ite (decide ((Nat.cast (List.length r2):Int)<=x.2.1)) (.ret true) (T.bind (y4 x.2.2.1) λr3=>T.ite (!r3) (.ret true) (T.bind (j3 x.2.2.2.1) λr4=>T.ite (!r4) (.ret true) (T.bind (j3 x.2.2.2.2.1) λr5=>.ret (!r5))))).run
   = some (decide ((4:Int)<=x.2.1)||(!oL x.2.2.1||(!uA 0 x.2.2.2.1 || !uA 0 x.2.2.2.2.1))):=by
  exact orB (Wg (U4 _) (Wg (Qh h1) (Rq (Qh h2))))
 refine(Wg (xW x.1) (orB e)).trans ?_
 unfold Zp
 grind
theorem XA(f:Form)(h:FS f):(dU f).run=some (a5 f&&a6 f):=by
 have hn:=h.n
 have key:(og f f.2.2.2.2.2.1 (f.2.2.2.2.2.1.length:Int) (0,0)).run=some (if a5 f=true then .inl ()else .inr false):=by
  refine sG (r:=jE f f.2.2.2.2.2.1 (f.2.2.2.2.2.1.length:Int)) f.2.2.2.2.2.1 (zn zF) (JC (f.2.2.1.length:Int)) (λx=>x.2.1) (λat_ x h0 hb => ?_) (λk at_ x hk hx hm h0 => ?_) (λat_ => ?_)
  ·unfold JC at hb
   grind
  ·obtain⟨_,x1,x2⟩:=h.c x hm
   unfold jE
   dsimp only
   rw[za (vQ hk),zb (zG hk),hx]
   simp only[gC]
   refine(z6 (a:=(JC (f.2.2.1.length:Int) at_ x,x)) ?_ _).trans ?_
   ·have e:(T.bind (vA) λr2=>T.ite (decide ((Nat.cast (List.length r2):Int)<=x.2.2.1)) (.ret (true,x)) (T.bind (j3 x.2.2.2.1) λr3=>T.ite (!r3) (.ret (true,x)) (T.bind (j3 x.2.2.2.2.1) λr4=>.ret ((!r4),x)))).run
      = some (decide ((3:Int)<=x.2.2.1)||(!uA 0 x.2.2.2.1 || !uA 0 x.2.2.2.2.1),x):=by
     unfold vA
     exact NP (rV (Qh x1) (z6f (Qh x2)))
    refine(rV (xW x.1) (rV (UF x.2.1 at_ _ h0) (NP e))).trans ?_
    unfold JC
    grind
   ·dsimp only
    cases JC (f.2.2.1.length:Int) at_ x with
    | true=>rfl
    | false=>rw[zf,z7,eS k _ hk (by omega)]; rfl
  ·unfold jE
   simp
 have h3:(xA f.2.2.2.2.1 (λz0=>vK z0)).run=some (f.2.2.2.2.1.any Zp):=Cq f.2.2.2.2.1 _ Zp (λx hx=>by
  obtain⟨_,_,x1,x2⟩:=h.r x hx
  exact TG x x1 x2) (by omega)
 unfold dU
 rw[z6 key]
 cases a5 f with
 | false=>rfl
 | true =>
  rw[if_pos rfl,Sum.elim_inl,z6 h3,z7]
  rfl
theorem JO(s:zd)(h:s.length<=600):(fH s).run=some (whS s):=by
 unfold fH whS
 cases s with
 | nil=>rfl
 | cons b r=>rw[z8 (by rfl),zr _ (by simp at *; omega),z7,if_neg (by simp)]; rfl
theorem OV(x:Field)(h:x.1.length<=600)(h1:ER 0 x.2.2.2.1)(h2:ER x.2.2.2.1 9):(iQ x).run=some (fdS x):=by
 have hi:=TD x.2.2.2.1 ⟨by grind,by grind⟩
 have hl:=DE x.2.2.2.1 ⟨by grind,by grind⟩
 obtain⟨nm,pg,mu,sc,u⟩:=x
 have h:nm.length<=600:=h
 dsimp only at hi hl
 unfold iQ fdS
 have e:(bif mu then(cat (cat ([102,105,101,108,100,32]:zd) nm) ([32,109,117,115,116]:zd))else(cat ([102,105,101,108,100,32]:zd) nm))=fhS (nm,pg,mu,sc,u):=rfl
 have hf:(fhS (nm,pg,mu,sc,u)).length<=nm.length+11:=HJ _
 rw[zr _ (by grind),zb (λ_=>by simp[qc]; omega),e]
 by_cases hs:ilt 0 sc
 ·rw[za (decide_eq_true hs),z6 hi,zr _ (by grind),zr _ (by simp[qc]; omega),zr _ (by simp[qc]; omega),z7,if_pos hs]
  rfl
 ·rw[z8 (decide_eq_false hs),zr _ (by grind),z7,if_neg hs]
  rfl
theorem Gn(l r:Expr)(s:zd)(hs:s.length<=8)(h1:uS l)(h2:uS r)(o1:uA 0 l=true)(o2:uA 0 r=true):(dw l s r).run=some (Pu l s r):=by
 have l1:=dc h1 o1
 have l2:=dc h2 o2
 unfold dw
 rw[z6 (LG h1 o1)]
 rw[zr _ (by grind),zr _ (by simp[qc]; omega),zr _ (by simp[qc]; omega),zr _ (by simp[qc]; omega)]
 rw[z6 (LG h2 o2)]
 rw[zr _ (by simp[qc]; omega),zr _ (by simp[qc]; omega),z7]
 rfl
theorem z3G(n:Int)(h:0<=n)(h2:n<=2):nth ([([61]:zd),([60]:zd),([60,61]:zd)]:List zd) n (zn .str)=cC n:=by
 have:n=0\/n=1\/n=2:=by omega
 rcases this with rfl | rfl | rfl<;>rfl
theorem z2N(n:Int)(h:0<=n)(h2:n<=3):nth ([([114,101,113,117,105,114,101,100]:zd),([115,116,114,111,110,103]:zd),([109,101,100,105,117,109]:zd),([119,101,97,107]:zd)]:List zd) n (zn .str)=lC n:=by
 have:n=0\/n=1\/n=2\/n=3:=by omega
 rcases this with rfl | rfl | rfl | rfl<;>rfl
theorem Rz(f:Form)(h:Pf f)(i:Nat)(hi:i<f.2.2.1.length)(b:zd)(hb:b.length<=110000000000000):(eF f (i:Int) () (bytesOf b)).run=some ((),bytesOf (b++OP f i)):=by
 have hn:=h.n
 obtain⟨g1,g2⟩:=M1 h hi
 have hp:=M0 _ g1 g2
 have hw:=sL (nth f.2.2.1 (i:Int) (zn zO)).2.1
 have k1:∀ s:zd,s.length<=115000000000000->(o8 (i:Int) f f.2.2.2.1 (f.2.2.2.1.length:Int) (0,(),bytesOf s)).run=some ((),bytesOf (s++f.2.2.2.1.flatMap (Po i))):=λs hs=>by
  refine mm (r:=jH (i:Int) f f.2.2.2.1 (f.2.2.2.1.length:Int)) f.2.2.2.1 (zn zw) 300000000 120000000000000 (Po i) s (λk b x hk hx hm hb => ?_) (λb => ?_) (QX h i) (by omega)
  ·unfold jH Po
   dsimp only
   rw[za (vQ hk),zb (zG hk),hx]
   cases hc:x.2.1==(i:Int)with
   | true =>
    have fl:=HO x (h.d x hm) (h.d2 x hm).1 (h.d2 x hm).2
    rw[zk,z6 (OV x (h.d x hm) (h.d2 x hm).1 (h.d2 x hm).2),q8 _ rfl rfl rfl,T.zg,z6 (uD (fdS x) b (by omega))]
    dsimp only
    rw[q8 _ rfl rfl rfl,T.zg,z7,eS k _ hk (by omega),if_pos rfl]
   | false =>
    rw[zf,q8 _ rfl rfl rfl,T.zg,z7,eS k _ hk (by omega),if_neg (by decide),List.append_nil]
  ·unfold jH
   simp
 have k2:∀ s:zd,s.length<=120000000000000->(o7 (i:Int) f.2.2.2.2.2.1 (f.2.2.2.2.2.1.length:Int) (0,(),bytesOf s)).run=some ((),bytesOf (s++f.2.2.2.2.2.1.flatMap (ckI i))):=λs hs=>by
  refine mm (r:=jB (i:Int) f.2.2.2.2.2.1 (f.2.2.2.2.2.1.length:Int)) f.2.2.2.2.2.1 (zn zF) 300000000 130000000000000 (ckI i) s (λk b x hk hx hm hb => ?_) (λb => ?_) (Bz h i) (by omega)
  ·unfold jB ckI
   dsimp only
   rw[za (vQ hk),zb (zG hk),hx]
   cases hc:x.2.1==(i:Int)with
   | true =>
    obtain⟨q1,q2,q3⟩:=h.c x hm
    obtain⟨c1,c2,o1,o2⟩:=h.c2 x hm
    have cl:=IG x q1 q2 q3 o1 o2
    have hs:=Gn x.2.2.2.1 x.2.2.2.2.1 (cC x.2.2.1) (by have:=Qw x.2.2.1; omega) q2 q3 o1 o2
    have sl:=VL (cC x.2.2.1) (by have:=Qw x.2.2.1; omega) q2 q3 o1 o2
    unfold vA
    rw[zk,zr _ (by simp only[List.length_cons,List.length_nil]; omega)]
    simp only[T.bind,gC]
    have c3:x.2.2.1<((3:Nat):Int):=Int.lt_of_le_of_lt c2 (by decide)
    rw[zb ⟨c1,c3⟩,z3G _ c1 c2,z6 hs,zr _ (by simp only[qc,List.length_cons,List.length_nil]; omega),q8 _ rfl rfl rfl,zb rfl]
    have e:cat (cat ([99,104,101,99,107,32]:zd) x.1) (Pu x.2.2.2.1 (cC x.2.2.1) x.2.2.2.2.1)=ckS x:=rfl
    rw[e,z6 (uD (ckS x) b (by omega))]
    dsimp only
    rw[q8 _ rfl rfl rfl,zb rfl,z7,eS k _ hk (by omega),if_pos trivial]
   | false =>
    rw[zf,q8 _ rfl rfl rfl,T.zg,z7,eS k _ hk (by omega),if_neg (by decide),List.append_nil]
  ·unfold jB
   dsimp only
   rw[z8 (oB _),q8 _ rfl rfl rfl,T.zg,z7]
 have l2:=jj (Po i) f.2.2.2.1 300000000 (QX h i)
 unfold eF
 rw[zb (zG hi),zr _ (by simp only[List.length_cons,List.length_nil]; omega),zb (zG hi),z6 (JO _ g2),zr _ (by simp only[qc,List.length_cons,List.length_nil]; omega),zr _ (by simp only[qc,List.length_cons,List.length_nil]; omega),q8 _ rfl rfl rfl,T.zg]
 have e:cat (cat (cat ([112,97,103,101,32]:zd) (nth f.2.2.1 (i:Int) (zn zO)).1) (whS (nth f.2.2.1 (i:Int) (zn zO)).2.1)) ([10]:zd)=phS (nth f.2.2.1 (i:Int) (zn zO)):=rfl
 rw[e,z6 (uD _ b (by omega))]
 dsimp only
 rw[q8 _ rfl rfl rfl,T.zg,z6 (k1 _ (by rw[List.length_append]; omega))]
 dsimp only
 rw[q8 _ rfl rfl rfl,T.zg,z6 (k2 _ (by rw[List.length_append,List.length_append]; omega))]
 dsimp only
 rw[q8 _ rfl rfl rfl,T.zg,z7]
 unfold OP
 simp only[List.append_assoc]
theorem YM(n k:Nat)(h:k<n):nth (List.range n) (k:Int) 0=k:=by
 rw[bV (by grind),List.getElem_range]
theorem Dh{f:Form}(h:Pf f):(f.1.flatMap Pl).length<=f.1.length*300000000:=jj Pl f.1 300000000 λx hx=>VY x (h.s x hx)
theorem Dp{f:Form}(h:Pf f):(f.2.1.flatMap Pr).length<=f.2.1.length*300000000:=jj Pr f.2.1 300000000 λx hx=>VV x (h.p x hx).1 (h.p x hx).2
theorem Eb{f:Form}(h:Pf f):((List.range f.2.2.1.length).flatMap (OP f)).length<=f.2.2.1.length*181000000000:=by
 have:=jj (OP f) (List.range f.2.2.1.length) 181000000000 (λx hx=>HK h (List.mem_range.1 hx))
 grind
theorem CI{f:Form}(h:Pf f):(f.2.2.2.2.1.flatMap Ib).length<=f.2.2.2.2.1.length*300000000:=jj Ib f.2.2.2.2.1 300000000 λx hx=>by
 obtain⟨q1,q2,q3,q4⟩:=h.r x hx
 obtain⟨_,_,o1,o2⟩:=h.r2 x hx
 exact VN x q1 q2 q3 q4 o1 o2
theorem oe(f:Form)(h:Pf f):(de f).run=some (frS f):=by
 have hn:=h.n
 have m1:=Dh h
 have m2:=Dp h
 have m3:=Eb h
 have m4:=CI h
 have k1:(rJ f f.1 (f.1.length:Int) (0,(),bytesOf [])).run=some ((),bytesOf ([]++f.1.flatMap Pl)):=by
  refine mm (r:=kR f f.1 (f.1.length:Int)) f.1 (zn zu) 300000000 110000000000000 Pl [] (λk b x hk hx hm hb => ?_) (λb => ?_) (λx hx=>VY x (h.s x hx)) (by simp only[List.length_nil]; omega)
  ·have q:=h.s x hm
   have sl:=VY x q
   have bl:(bif x.2.1 then([32,111,110,10]:zd)else[32,111,102,102,10]).length<=5:=by cases x.2.1<;>decide
   unfold kR
   dsimp only
   rw[za (vQ hk),zb (zG hk),hx,zr _ (by simp only[List.length_cons,List.length_nil]; omega),zr _ (by simp only[qc,List.length_cons,List.length_nil]; omega),q8 _ rfl rfl rfl,T.zg]
   have e:cat (cat ([115,119,105,116,99,104,32]:zd) x.1) (bif x.2.1 then([32,111,110,10]:zd)else([32,111,102,102,10]:zd))=Pl x:=rfl
   rw[e,z6 (uD (Pl x) b (by omega))]
   dsimp only
   rw[q8 _ rfl rfl rfl,T.zg,z7,eS k _ hk (by omega)]
  ·unfold kR
   simp
 have k2:∀ s:zd,s.length<=190000000000->(rk f f.2.1 (f.2.1.length:Int) (0,(),bytesOf s)).run=some ((),bytesOf (s++f.2.1.flatMap Pr)):=λs hs=>by
  refine mm (r:=kE f f.2.1 (f.2.1.length:Int)) f.2.1 (zn zD) 300000000 110000000000000 Pr s (λk b x hk hx hm hb => ?_) (λb => ?_) (λx hx=>VV x (h.p x hx).1 (h.p x hx).2) (by omega)
  ·obtain⟨q,hr⟩:=h.p x hm
   have hr:vM 1000 x.2.1:=⟨hr.1,hr.2.1,by have:=hr.2.2.1; omega,by have:=hr.2.2.2; omega⟩
   have sl:=VV x q (h.p x hm).2
   have hd:(mc (x.2.1.1,(x.2.1.2.1,(x.2.1.2.2.1,())))).run=some (lM (norm x.2.1)):=Kz x.2.1 hr
   have pl:=Zg _ hr
   unfold kE
   dsimp only
   rw[za (vQ hk),zb (zG hk),hx,zr _ (by simp only[List.length_cons,List.length_nil]; omega),zr _ (by simp only[qc,List.length_cons,List.length_nil]; omega),z6 hd,zr _ (by simp only[qc,List.length_cons,List.length_nil]; omega),zr _ (by simp only[qc,List.length_cons,List.length_nil]; omega),q8 _ rfl rfl rfl,T.zg]
   have e:cat (cat (cat (cat ([112,97,114,97,109,32]:zd) x.1) ([32]:zd)) (lM (norm x.2.1))) ([10]:zd)=Pr x:=rfl
   rw[e,z6 (uD (Pr x) b (by omega))]
   dsimp only
   rw[q8 _ rfl rfl rfl,T.zg,z7,eS k _ hk (by omega)]
  ·unfold kE
   simp
 have k3:∀ s:zd,s.length<=380000000000->(rZ f (f.2.2.1.length:Int) (0,(),bytesOf s)).run=some ((),bytesOf (s++(List.range f.2.2.1.length).flatMap (OP f))):=λs hs=>by
  refine mm (r:=kv f (f.2.2.1.length:Int)) (List.range f.2.2.1.length) 0 181000000000 110000000000000 (OP f) s (λk b x hk hx hm hb => ?_) (λb => ?_) (λx hx=>HK h (List.mem_range.1 hx)) (by rw[List.length_range]; omega)
  ·rw[List.length_range]at hk
   rw[YM _ _ hk]at hx
   subst hx
   unfold kv
   dsimp only
   rw[za (vQ hk),q8 _ rfl rfl rfl,T.zg,z6 (Rz f h k hk b (by omega))]
   dsimp only
   rw[q8 _ rfl rfl rfl,T.zg,z7,eS k _ hk (by omega)]
  ·unfold kv
   dsimp only
   rw[List.length_range,z8 (oB _),q8 _ rfl rfl rfl,T.zg,z7]
 have k4:∀ s:zd,s.length<=109000000000000->(rR f.2.2.2.2.1 (f.2.2.2.2.1.length:Int) (0,(),bytesOf s)).run=some ((),bytesOf (s++f.2.2.2.2.1.flatMap Ib)):=λs hs=>by
  refine mm (r:=kA f.2.2.2.2.1 (f.2.2.2.2.1.length:Int)) f.2.2.2.2.1 (zn zY) 300000000 110000000000000 Ib s (λk b x hk hx hm hb => ?_) (λb => ?_) (λx hx=>by
   obtain⟨q1,q2,q3,q4⟩:=h.r x hx
   obtain⟨_,_,o1,o2⟩:=h.r2 x hx
   exact VN x q1 q2 q3 q4 o1 o2) (by omega)
  ·obtain⟨q1,q2,q3,q4⟩:=h.r x hm
   obtain⟨c1,c2,o1,o2⟩:=h.r2 x hm
   have rl:=VN x q1 q2 q3 q4 o1 o2
   have hs:=Gn x.2.2.2.1 x.2.2.2.2.1 [61] (by decide) q3 q4 o1 o2
   have sl:=VL [61] (by decide) q3 q4 o1 o2
   have tl:=JG x.2.1
   have wl:=sL x.2.2.1
   have c3:x.2.1<((4:Nat):Int):=Int.lt_of_le_of_lt c2 (by decide)
   unfold kA wF
   dsimp only
   rw[za (vQ hk),zb (zG hk),hx]
   simp only[T.bind,gC]
   rw[zb ⟨c1,c3⟩,z2N _ c1 c2,zr _ (by simp only[List.length_cons,List.length_nil]; omega),zr _ (by simp only[qc,List.length_cons,List.length_nil]; omega),zr _ (by simp only[qc,List.length_cons,List.length_nil]; omega),z6 (JO _ q2),
    zr _ (by simp only[qc,List.length_cons,List.length_nil]; omega),z6 hs,zr _ (by simp only[qc,List.length_cons,List.length_nil]; omega),q8 _ rfl rfl rfl,zb rfl]
   have e:cat (cat (cat (cat (cat ([114,117,108,101,32]:zd) (lC x.2.1)) ([32]:zd)) x.1) (whS x.2.2.1)) (Pu x.2.2.2.1 [61] x.2.2.2.2.1)=Ib x:=rfl
   rw[e,z6 (uD (Ib x) b (by omega))]
   dsimp only
   rw[q8 _ rfl rfl rfl,zb rfl,z7,eS k _ hk (by omega)]
  ·unfold kA
   dsimp only
   rw[z8 (oB _),q8 _ rfl rfl rfl,T.zg,z7]
 unfold de
 rw[q8 _ rfl rfl rfl,T.zg]
 refine(z6 k1 _).trans ?_
 dsimp only
 rw[List.nil_append,q8 _ rfl rfl rfl,T.zg,z6 (k2 _ (by omega))]
 dsimp only
 rw[q8 _ rfl rfl rfl,T.zg,z6 (k3 _ (by rw[List.length_append]; omega))]
 dsimp only
 rw[q8 _ rfl rfl rfl,T.zg,z6 (k4 _ (by simp only[List.length_append]; omega))]
 dsimp only
 rw[q8 _ rfl rfl rfl,T.zg,z6 (Kv _ (by simp only[List.length_append]; omega))]
 rfl
def Xh(f:Form):Bool:=a1 f&&(a2 f&&(a3 f&&(a4 f&&(a5 f&&(a6 f&&decide (((frS f).length:Int)<=16384))))))
theorem Qi(f:Form)(h:FS f):(mK f).run=some (Xh f):=by
 unfold mK Xh
 rw[z6 (P1 f h)]
 cases a1 f with
 | false=>rfl
 | true =>
 cases a2 f with
 | false=>rfl
 | true =>
 cases a3 f with
 | false=>rfl
 | true =>
 rw[za (by rfl),z6 (XK f h)]
 cases h4:a4 f with
 | false=>rfl
 | true =>
 rw[za (by rfl),z6 (XA f h)]
 cases h5:a5 f with
 | false=>rfl
 | true =>
 cases h6:a6 f with
 | false=>rfl
 | true =>
 rw[za (by rfl),z6 (oe f (To h h4 h5 h6)),z7]
 rfl
theorem z7H{r:Rat}(hr:vM 100 r):vM 100000000 r:=⟨hr.1,hr.2.1,by have:=hr.2.2.1; omega,by have:=hr.2.2.2; omega⟩
theorem z3C{r:Rat}(hr:vM 100 r):vM 1000 r:=⟨hr.1,hr.2.1,by have:=hr.2.2.1; omega,by have:=hr.2.2.2; omega⟩
theorem YK(s:zd):(fX s).run=some (oL s):=by
 unfold fX oL
 cases zi s []with
 | true=>rfl
 | false=>rw[zf,z6 (qB s)]; rfl
theorem UE(f:Form)(h:FS f):(nI f).run=some (a4 f&&a5 f):=by
 have hn:=h.n
 have k1:(tz f (0,0)).run=some (if a4 f=true then .inl ()else .inr false):=by
  refine sG (r:=yA f) f.2.2.2.1 (zn zw) (J3 (f.2.2.1.length:Int)) (λx=>x.2.1) (λat_ x h0 hb => ?_) (λk at_ x hk hx hm h0 => ?_) (λat_ => ?_)
  ·unfold J3 at hb
   grind
  ·unfold yA
   dsimp only
   rw[za (vQ hk),zb (zG hk),hx]
   refine(z6 (a:=(J3 (f.2.2.1.length:Int) at_ x,x)) ?_ _).trans ?_
   ·exact NP (NP (rV (qB x.1) (NP (z7 _))))
   ·dsimp only
    cases J3 (f.2.2.1.length:Int) at_ x with
    | true=>rfl
    | false=>rw[zf,z7,eS k _ hk (by omega)]; rfl
  ·unfold yA
   simp
 have k2:(tA f (0,0)).run=some (if a5 f=true then .inl ()else .inr false):=by
  refine sG (r:=yL f) f.2.2.2.2.2.1 (zn zF) (JC (f.2.2.1.length:Int)) (λx=>x.2.1) (λat_ x h0 hb => ?_) (λk at_ x hk hx hm h0 => ?_) (λat_ => ?_)
  ·unfold JC at hb
   grind
  ·obtain⟨_,x1,x2⟩:=h.c x hm
   unfold yL
   rw[za (vQ hk),zb (zG hk),hx]
   simp only[gC]
   refine(z6 (a:=(JC (f.2.2.1.length:Int) at_ x,x)) ?_ _).trans ?_
   ·exact NP (NP (rV (qB x.1) (NP (NP (rV (pH x1) (z6f (pH x2)))))))
   ·dsimp only
    cases JC (f.2.2.1.length:Int) at_ x with
    | true=>rfl
    | false=>rw[zf,z7,eS k _ hk (by omega)]; rfl
  ·unfold yL
   simp
 unfold nI
 rw[z6 k1]
 cases a4 f with
 | false=>rfl
 | true =>
  rw[if_pos rfl,Sum.elim_inl,z6 k2]
  cases a5 f<;>rfl
theorem tW(s:zd)(h:s.length<=600):(sK s).run=some (whS s):=JO s h
theorem FA(n:Int)(h1:1<=n)(h2:n<=9):qQ [YF (zI (48+n))]=od n:=by
 have:n=1\/n=2\/n=3\/n=4\/n=5\/n=6\/n=7\/n=8\/n=9:=by omega
 have e:∀ k:Nat,k<10->od (k:Int)=[UInt8.ofNat (48+k)]:=λk hk=>by
  unfold od
  rw[if_neg (by omega),Int.toNat_natCast,AM.UQ,dif_pos hk]
 rcases this with rfl | rfl | rfl | rfl | rfl | rfl | rfl | rfl | rfl
 ·exact(e 1 (by decide)).symm
 ·exact(e 2 (by decide)).symm
 ·exact(e 3 (by decide)).symm
 ·exact(e 4 (by decide)).symm
 ·exact(e 5 (by decide)).symm
 ·exact(e 6 (by decide)).symm
 ·exact(e 7 (by decide)).symm
 ·exact(e 8 (by decide)).symm
 ·exact(e 9 (by decide)).symm
theorem Jd(x:Field)(h:x.1.length<=600)(h1:ER 0 x.2.2.2.1)(h2:ER x.2.2.2.1 9):(n8 x).run=some (fdS x):=by
 have hi:=λh0:ER 1 x.2.2.2.1=>FA x.2.2.2.1 h0 h2
 have hb:(qQ ([(YF (zI ((48:Int)+x.2.2.2.1)))]:List Int)).length=1:=rfl
 have hz:¬ ilt 0 x.2.2.2.1->x.2.2.2.1=(0:Int):=λq=>Int.le_antisymm (Int.not_lt.1 q) h1
 have ho:ilt 0 x.2.2.2.1->ER 1 x.2.2.2.1:=λq=>by unfold ER ilt at *; omega
 have hf:(fhS x).length<=x.1.length+11:=HJ _
 unfold n8 fdS
 have e:(bif x.2.2.1 then(cat (cat ([102,105,101,108,100,32]:zd) x.1) ([32,109,117,115,116]:zd))else(cat ([102,105,101,108,100,32]:zd) x.1))=fhS x:=rfl
 rw[zr _ (by grind),zb (λ_=>by simp[qc]; omega),e]
 by_cases hs:ilt 0 x.2.2.2.1
 ·have um:(x.2.2.2.1 != (0:Int))=true:=by
   grind
  rw[za um,zr _ (by grind),zr _ (by simp[qc]; omega),zr _ (by simp[qc]; omega),z7,if_pos hs,hi (ho hs)]
  simp[jx]
 ·have um:(x.2.2.2.1 != (0:Int))=false:=by rw[hz hs]; rfl
  rw[z8 um,zr _ (by grind),z7,if_neg hs]
  rfl
theorem z1C(n:Int):(Q1 n).run=some (cC n):=by
 unfold Q1 cC
 by_cases h1:n=1
 ·rw[if_pos h1,za (by grind),z7]
 ·rw[if_neg h1,z8 (by grind)]
  by_cases h2:n=2
  ·rw[if_pos h2,za (by grind),z7]
  ·rw[if_neg h2,z8 (by grind),z7]
theorem QI(n:Int):(yO n).run=some (lC n):=by
 unfold yO lC
 by_cases h0:n=0
 ·rw[if_pos h0,za (by grind),z7]
 ·rw[if_neg h0,z8 (by grind)]
  by_cases h1:n=1
  ·rw[if_pos h1,za (by grind),z7]
  ·rw[if_neg h1,z8 (by grind)]
   by_cases h2:n=2
   ·rw[if_pos h2,za (by grind),z7]
   ·rw[if_neg h2,z8 (by grind),z7]
theorem KB(f:Form)(h:Pf f):(sX f).run=some (frS f):=by
 have hn:=h.n
 have m1:=Dh h
 have m2:=Dp h
 have m3:=Eb h
 have m4:=CI h
 have k1:(QV f ([],0)).run=some ([]++f.1.flatMap Pl):=by
  refine lZ (r:=bJ f) f.1 (zn zu) 300000000 110000000000000 Pl [] (λk b x hk hx hm hb => ?_) (λb => ?_) (λx hx=>VY x (h.s x hx)) (by simp only[List.length_nil]; omega)
  ·have q:=h.s x hm
   have bl:(bif x.2.1 then([32,111,110,10]:zd)else[32,111,102,102,10]).length<=5:=by cases x.2.1<;>decide
   unfold bJ
   dsimp only
   rw[hx,za (vQ hk),zb (zG hk),zr _ (by simp only[qc,List.length_cons,List.length_nil]; omega),zb (zG hk),zr _ (by simp only[qc,List.length_cons,List.length_nil]; omega),zr _ (by simp only[qc,List.length_cons,List.length_nil]; omega),z7,eS k _ hk (by omega)]
   unfold Pl
   simp only[jx,List.append_assoc]
  ·unfold bJ
   simp
 have k2:∀ s:zd,s.length<=190000000000->(Qf f (s,0)).run=some (s++f.2.1.flatMap Pr):=λs hs=>by
  refine lZ (r:=c8 f) f.2.1 (zn zD) 300000000 110000000000000 Pr s (λk b x hk hx hm hb => ?_) (λb => ?_) (λx hx=>VV x (h.p x hx).1 (h.p x hx).2) (by omega)
  ·obtain⟨q,hr⟩:=h.p x hm
   have hr:=z3C hr
   have pl:=Zg _ hr
   unfold c8
   dsimp only
   rw[hx,za (vQ hk),zr _ (by simp only[qc,List.length_cons,List.length_nil]; omega),zb (zG hk),zr _ (by simp only[qc,List.length_cons,List.length_nil]; omega),zr _ (by simp only[qc,List.length_cons,List.length_nil]; omega),zb (zG hk),z6 (Ki _ hr),
    zr _ (by simp only[qc,List.length_cons,List.length_nil]; omega),zr _ (by simp only[qc,List.length_cons,List.length_nil]; omega),z7,eS k _ hk (by omega)]
   unfold Pr
   simp only[jx,List.append_assoc]
  ·unfold c8
   simp
 have j1:∀ (i:Nat) (s:zd),s.length<=115000000000000->(X5 f (i:Int) (s,0)).run=some (s++f.2.2.2.1.flatMap (Po i)):=λi s hs=>by
  refine lZ (r:=c7 f (i:Int)) f.2.2.2.1 (zn zw) 300000000 120000000000000 (Po i) s (λk b x hk hx hm hb => ?_) (λb => ?_) (QX h i) (by omega)
  ·unfold c7 Po
   dsimp only
   rw[hx,za (vQ hk),zb (zG hk)]
   cases hc:x.2.1==(i:Int)with
   | true =>
    have fl:=HO x (h.d x hm) (h.d2 x hm).1 (h.d2 x hm).2
    rw[zk,zb (zG hk),z6 (Jd x (h.d x hm) (h.d2 x hm).1 (h.d2 x hm).2),zr _ (by omega),z7,eS k _ hk (by omega),if_pos rfl,jx]
   | false=>rw[zf,z7,eS k _ hk (by omega),if_neg (by decide),List.append_nil]
  ·unfold c7
   simp
 have j2:∀ (i:Nat) (s:zd),s.length<=120000000000000->(Qs f (i:Int) (s,0)).run=some (s++f.2.2.2.2.2.1.flatMap (ckI i)):=λi s hs=>by
  refine lZ (r:=bC f (i:Int)) f.2.2.2.2.2.1 (zn zF) 300000000 130000000000000 (ckI i) s (λk b x hk hx hm hb => ?_) (λb => ?_) (Bz h i) (by omega)
  ·unfold bC ckI
   dsimp only
   rw[hx,za (vQ hk),zb (zG hk)]
   simp only[gC]
   cases hc:x.2.1==(i:Int)with
   | true =>
    obtain⟨q1,q2,q3⟩:=h.c x hm
    obtain⟨c1,c2,o1,o2⟩:=h.c2 x hm
    have p1:=dc q2 o1
    have p2:=dc q3 o2
    have cl:=Qw x.2.2.1
    rw[zk,zr _ (by simp only[qc,List.length_cons,List.length_nil]; omega),zr _ (by simp only[qc,List.length_cons,List.length_nil]; omega),zr _ (by simp only[qc,List.length_cons,List.length_nil]; omega),z6 (Qp q2 o1),
     zr _ (by simp only[qc,List.length_cons,List.length_nil]; omega),zr _ (by simp only[qc,List.length_cons,List.length_nil]; omega),z6 (z1C _),zr _ (by simp only[qc,List.length_cons,List.length_nil]; omega),zr _ (by simp only[qc,List.length_cons,List.length_nil]; omega),
     z6 (Qp q3 o2),zr _ (by simp only[qc,List.length_cons,List.length_nil]; omega),zr _ (by simp only[qc,List.length_cons,List.length_nil]; omega),z7,eS k _ hk (by omega),if_pos rfl]
    unfold ckS Pu
    simp only[jx,List.append_assoc]
   | false=>rw[zf,z7,eS k _ hk (by omega),if_neg (by decide),List.append_nil]
  ·unfold bC
   dsimp only
   rw[z8 (oB _),z7]
 have k3:∀ s:zd,s.length<=380000000000->(QL f (s,0)).run=some (s++(List.range f.2.2.1.length).flatMap (OP f)):=λs hs=>by
  refine lZ (r:=bg f) (List.range f.2.2.1.length) 0 181000000000 110000000000000 (OP f) s (λk b x hk hx hm hb => ?_) (λb => ?_) (λx hx=>HK h (List.mem_range.1 hx)) (by rw[List.length_range]; omega)
  ·rw[List.length_range]at hk
   rw[YM _ _ hk]at hx
   subst hx
   obtain⟨g1,g2⟩:=M1 h hk
   have hw:=sL (nth f.2.2.1 (k:Int) (zn zO)).2.1
   have fl:=jj (Po k) f.2.2.2.1 300000000 (QX h k)
   unfold bg
   dsimp only
   rw[za (vQ hk),zr _ (by simp only[qc,List.length_cons,List.length_nil]; omega),zb (zG hk),zr _ (by simp only[qc,List.length_cons,List.length_nil]; omega),zb (zG hk),z6 (tW _ g2),zr _ (by simp only[qc,List.length_cons,List.length_nil]; omega),zr _ (by simp only[qc,List.length_cons,List.length_nil]; omega),
    z6 (j1 k _ (by simp only[qc,List.length_cons,List.length_nil]; omega)),z6 (j2 k _ (by simp only[List.length_append,qc,List.length_cons,List.length_nil]; omega)),z7,eS k _ hk (by omega)]
   unfold OP phS
   simp only[jx,List.append_assoc]
  ·unfold bg
   dsimp only
   rw[List.length_range,z8 (oB _),z7]
 have k4:∀ s:zd,s.length<=109000000000000->(Xg f (s,0)).run=some (s++f.2.2.2.2.1.flatMap Ib):=λs hs=>by
  refine lZ (r:=bX f) f.2.2.2.2.1 (zn zY) 300000000 110000000000000 Ib s (λk b x hk hx hm hb => ?_) (λb => ?_) (λx hx=>by
   obtain⟨q1,q2,q3,q4⟩:=h.r x hx
   obtain⟨_,_,o1,o2⟩:=h.r2 x hx
   exact VN x q1 q2 q3 q4 o1 o2) (by omega)
  ·obtain⟨q1,q2,q3,q4⟩:=h.r x hm
   obtain⟨c1,c2,o1,o2⟩:=h.r2 x hm
   have p1:=dc q3 o1
   have p2:=dc q4 o2
   have tl:=JG x.2.1
   have wl:=sL x.2.2.1
   unfold bX
   dsimp only
   rw[hx,za (vQ hk),zb (zG hk)]
   simp only[gC]
   rw[zr _ (by simp only[qc,List.length_cons,List.length_nil]; omega),z6 (QI _),zr _ (by simp only[qc,List.length_cons,List.length_nil]; omega),zr _ (by simp only[qc,List.length_cons,List.length_nil]; omega),zr _ (by simp only[qc,List.length_cons,List.length_nil]; omega),z6 (tW _ q2),
    zr _ (by simp only[qc,List.length_cons,List.length_nil]; omega),zr _ (by simp only[qc,List.length_cons,List.length_nil]; omega),z6 (Qp q3 o1),zr _ (by simp only[qc,List.length_cons,List.length_nil]; omega),zr _ (by simp only[qc,List.length_cons,List.length_nil]; omega),z6 (Qp q4 o2),
    zr _ (by simp only[qc,List.length_cons,List.length_nil]; omega),zr _ (by simp only[qc,List.length_cons,List.length_nil]; omega),z7,eS k _ hk (by omega)]
   unfold Ib Pu
   simp only[jx,List.append_assoc,List.cons_append,List.nil_append]
  ·unfold bX
   dsimp only
   rw[z8 (oB _),z7]
 unfold sX
 rw[z6 k1,List.nil_append,z6 (k2 _ (by omega)),z6 (k3 _ (by rw[List.length_append]; omega)),z6 (k4 _ (by simp only[List.length_append]; omega)),z7]
 rfl
theorem Dv(f:Form)(h:FS f):(Xb f).run=some (Xh f):=by
 have hn:=h.n
 have k1:(JN f 0).run=some (if f.1.any HE=true then .inr false else .inl ()):=by
  refine X4 (r:=ij f) f.1 (zn zu) HE (λk x hk hx hm => ?_) ?_
  ·unfold ij HE
   dsimp only
   rw[za (vQ hk),zb (zG hk),hx,z6 (qB x.1)]
   cases zS x.1 with
   | true=>rw[z8 (by rfl),z7,eS k _ hk (by omega)]; rfl
   | false=>rfl
  ·unfold ij
   simp
 have k2:(Je f 0).run=some (if f.2.1.any oQ=true then .inr false else .inl ()):=by
  refine X4 (r:=fU f) f.2.1 (zn zD) oQ (λk x hk hx hm => ?_) ?_
  ·unfold fU
   dsimp only
   rw[za (vQ hk)]
   refine(z6 (a:=oQ x) ?_ _).trans ?_
   ·rw[zb (zG hk),hx]
    refine(Wg (qB x.1) ((zb (zG hk) _).trans (Rq (tY _ (z7H (h.p x hm).2))))).trans ?_
    unfold oQ
    simp
   ·cases oQ x with
    | true=>rfl
    | false=>rw[zf,z7,eS k _ hk (by omega)]; rfl
  ·unfold fU
   simp
 have k3:(UL f 0).run=some (if f.2.2.1.any Ba=true then .inr false else .inl ()):=by
  refine X4 (r:=ic f) f.2.2.1 (zn zO) Ba (λk x hk hx hm => ?_) ?_
  ·unfold ic
   dsimp only
   rw[za (vQ hk)]
   refine(z6 (a:=Ba x) ?_ _).trans ?_
   ·rw[zb (zG hk),hx]
    exact Wg (qB x.1) ((zb (zG hk) _).trans (Rq (YK _)))
   ·cases Ba x with
    | true=>rfl
    | false=>rw[zf,z7,eS k _ hk (by omega)]; rfl
  ·unfold ic
   simp
 have k4:(UB f 0).run=some (if f.2.2.2.2.1.any Zp=true then .inr false else .inl ()):=by
  refine X4 (r:=fp f) f.2.2.2.2.1 (zn zY) Zp (λk x hk hx hm => ?_) ?_
  ·obtain⟨_,_,x1,x2⟩:=h.r x hm
   unfold fp
   dsimp only
   rw[za (vQ hk),zb (zG hk),hx]
   simp only[gC]
   refine(z6 (a:=(Zp x,x)) ?_ _).trans ?_
   ·exact rV (qB x.1) (rV (YK _) (NP (NP (rV (pH x1) (z6f (pH x2))))))
   ·dsimp only
    cases Zp x with
    | true=>rfl
    | false=>rw[zf,z7,eS k _ hk (by omega)]; rfl
  ·unfold fp
   simp
 unfold Xb Xh
 rw[z6 k1]
 have e1:a1 f = !f.1.any HE:=rfl
 have e2:a2 f = !f.2.1.any oQ:=rfl
 have e3:a3 f = !f.2.2.1.any Ba:=rfl
 have e6:a6 f = !f.2.2.2.2.1.any Zp:=rfl
 rw[e1,e2,e3]
 cases f.1.any HE with
 | true=>rfl
 | false =>
 rw[if_neg (by decide),Sum.elim_inl,z6 k2]
 cases f.2.1.any oQ with
 | true=>rfl
 | false =>
 rw[if_neg (by decide),Sum.elim_inl,z6 k3]
 cases f.2.2.1.any Ba with
 | true=>rfl
 | false =>
 rw[if_neg (by decide),Sum.elim_inl,z6 k4]
 cases q6:f.2.2.2.2.1.any Zp with
 | true=>rw[e6,q6]; cases a4 f<;>cases a5 f<;>rfl
 | false =>
 rw[if_neg (by decide),Sum.elim_inl,z6 (UE f h)]
 cases h4:a4 f with
 | false=>rfl
 | true =>
 cases h5:a5 f with
 | false=>rfl
 | true =>
 have h6:a6 f=true:=by rw[e6,q6]; rfl
 rw[za (by rfl),z6 (KB f (To h h4 h5 h6)),z7,h6]
 rfl
end Go.AM.Lf
namespace Go.AM
theorem T.U1{σ ρ:Type}{b:(σ->T ρ)->σ->T ρ}(R:Nat->σ->ρ->Prop)(h0:∀ x y,¬ R 0 x y)
  (h:∀ n x y,R (n+1) x y->∀ g:σ->T ρ,(∀ x' y',R n x' y'->(g x').run=some y')->(b g x).run=some y) {n:Nat} {x:σ} {y:ρ} (hx:R n x y):(T.fix b x).run=some y:=by
 rw[wZ,lT]
 refine⟨n,λm hm => ?_⟩
 induction n generalizing m x y with
 | zero=>grind
 | succ n ih =>
  cases m with
  | zero=>omega
  | succ m =>
   rw[<- wZ]
   exact h n x y hx (D4 b m) λx' y' hr=>by rw[wZ]; exact ih hr m (by omega)
end Go.AM
namespace Go.AM.PL
def hO:zd->zd
 | []=>[]
 | c::r=>if c=32 then hO r else c::r
def uH(p:UInt8->Bool):Nat->zd->zd×zd
 | 0,r=>([],r)
 | _+1,[]=>([],[])
 | n+1,c::r=>if p c=true then(c::(uH p n r).1,(uH p n r).2)else([],c::r)
theorem oN(p:UInt8->Bool):∀ (n:Nat) (r:zd),(uH p n r).1++(uH p n r).2=r
 | 0,r=>rfl
 | _+1,[]=>rfl
 | n+1,c::r=>by
  unfold uH
  split
  ·rw[List.cons_append,oN p n r]
  ·rfl
theorem Uj(p:UInt8->Bool):∀ (n:Nat) (r:zd),r.length<=n->uH p n r=(r.takeWhile p,r.dropWhile p)
 | 0,[],_=>rfl
 | 0,c::r,h=>by simp at h
 | _+1,[],_=>rfl
 | n+1,c::r,h=>by
  unfold uH
  rw[Uj p n r (by grind)]
  cases hp:p c with
  | true=>simp[hp]
  | false=>simp[hp]
theorem vE:∀ (r:zd),hO r <:+ r
 | []=>List.suffix_refl _
 | c::r=>by
  unfold hO
  split
  ·exact List.IsSuffix.trans (vE r) (List.suffix_cons c r)
  ·simp
theorem D2:∀ (r:zd) (c:UInt8) (q:zd),hO r=c::q->c≠32
 | [],_,_,h=>by cases h
 | b::r,c,q,h=>by
  unfold hO at h
  split at h
  ·exact D2 r c q h
  ·grind
theorem z05(r:zd):hO (hO r)=hO r:=by
 cases h:hO r with
 | nil=>rfl
 | cons c q=>unfold hO; rw[if_neg (D2 r c q h)]
theorem Hp(r:zd):(hO r).length<=r.length:=(vE r).length_le
theorem QE(p:UInt8->Bool)(n:Nat)(r:zd):(uH p n r).2 <:+ r:=⟨(uH p n r).1,oN p n r⟩
def xx(s r:zd):Nat:=s.length-r.length
theorem G1(s:zd):xx s s=0:=by unfold xx; omega
theorem Du(s:zd):xx s []=s.length:=rfl
theorem wo{c:UInt8}{r s:zd}(h:(c::r) <:+ s):r <:+ s:=List.IsSuffix.trans (List.suffix_cons c r) h
theorem uB{c:UInt8}{r s:zd}(h:(c::r) <:+ s):xx s r=xx s (c::r)+1/\xx s (c::r)<s.length:=by
 have:=h.length_le
 simp at this
 unfold xx; simp; omega
theorem Te{r s:zd}(h:r <:+ s):s.drop (xx s r)=r:=by
 obtain⟨t,rfl⟩:=h
 unfold xx
 simp
theorem uc{c:UInt8}{r s:zd}(h:(c::r) <:+ s):zt s ((xx s (c::r):Nat):Int)=(c.toNat:Int):=by
 have h1:=uB h
 rw[uT h1.2]
 have h2:=Te h
 rw[List.drop_eq_getElem_cons h1.2]at h2
 grind
theorem GN{r q s:zd}(h:r <:+ q)(h2:q <:+ s):xx s q<=xx s r:=by
 have:=h.length_le; unfold xx; omega
theorem Ua{a r q s:zd}(h:r <:+ s)(e:a++q=r):qz ((xx s r:Nat):Int) ((xx s q:Nat):Int) s=a:=by
 subst e
 obtain⟨t,rfl⟩:=h
 unfold qz xx
 rw[Int.toNat_natCast,Int.toNat_natCast]
 simp only[List.length_append]
 rw[show t.length+(a.length+q.length)-q.length=t.length+a.length by omega,show t.length+(a.length+q.length)-(a.length+q.length)=t.length by omega,<- List.append_assoc,<- List.length_append,List.take_left,List.drop_left]
theorem Cc:∀ (l:zd) (c:UInt8),decide ((0:Int)<=Xa l c)=l.contains c
 | [],_=>rfl
 | b::l,c=>by
  have ih:=Cc l c
  unfold Xa
  grind
theorem Jc(c:UInt8):byteOf (c.toNat:Int)=c:=by unfold byteOf; simp
end Go.AM.PL
namespace Go.AM.Lf
open PL
def qL(s r:zd)(d:Nat)(l:Bool):zc:=(s,((xx s r:Nat):Int),(d:Int),l,())
theorem vC(s r:zd)(d:Nat)(l:Bool):(qL s r d l).1=s:=rfl
theorem uw(s r:zd)(d:Nat)(l:Bool):(qL s r d l).2.1=((xx s r:Nat):Int):=rfl
theorem UM(s r:zd)(d:Nat)(l:Bool):(qL s r d l).2.2.1=(d:Int):=rfl
theorem UU{s r:zd}{c:UInt8}(d:Nat)(l:Bool)(h:(c::r) <:+ s)(hs:s.length<=1000000):((s,zI (((xx s (c::r):Nat):Int)+1),(d:Int),l,()):zc)=qL s r d l:=by
 have:=uB h
 unfold qL
 rw[zA (by omega) (by omega),this.1]
 rfl
theorem dR{s r:zd}{c:UInt8}(h:(c::r) <:+ s):decide (((xx s (c::r):Nat):Int)<(s.length:Int))=true:=decide_eq_true (by have:=uB h; omega)
theorem mh(s:zd):decide (((xx s []:Nat):Int)<(s.length:Int))=false:=by rw[Du]; exact decide_eq_false (by omega)
theorem js{s r:zd}{c:UInt8}(h:(c::r) <:+ s):q9 ((xx s (c::r):Nat):Int) s.length:=⟨by omega,by have:=uB h; omega⟩
theorem tn(c b:UInt8):((c.toNat:Int)==(b.toNat:Int))=decide (c=b):=by
 by_cases h:c=b
 ·grind
 ·rw[decide_eq_false h]
  simp
  intro e
  exact h (UInt8.toNat_inj.1 (by omega))
theorem Wm(s:zd)(hs:s.length<=1000000)(d:Nat)(l:Bool):∀ (r:zd),r <:+ s->(gZ (qL s r d l)).run=some (qL s (hO r) d l)
 | [],_=>by
  refine zL ?_
  unfold wh
  dsimp only
  rw[uw,vC,mh,zb (λh=>by cases h),z8 (by rfl),z7]
  rfl
 | c::r,h=>by
  have e:(wh (qL s (c::r) d l)).run=some (if c=32 then .inl (qL s r d l)else .inr (qL s (c::r) d l)):=by
   unfold wh
   dsimp only
   rw[uw,vC,dR h,zb (λ_=>js h),Bool.true_and,uc h,show((c.toNat:Int)==32)=decide (c=32)from tn c 32]
   by_cases hc:c=32
   ·rw[za (by grind),z7,if_pos hc]
    show some (Sum.inl (s,zI (((xx s (c::r):Nat):Int)+1),(d:Int),l,()))=_
    rw[UU d l h hs]
   ·rw[z8 (by grind),z7,if_neg hc]
  unfold hO
  by_cases hc:c=32
  ·rw[if_pos hc]at e ⊢
   exact(qu e).trans (Wm s hs d l r (wo h))
  ·rw[if_neg hc]at e ⊢
   exact zL e
theorem FC(s:zd)(hs:s.length<=1000000)(d:Nat)(l:Bool)(r:zd)(h:r <:+ s):(uM (qL s r d l)).run=some (qL s (hO r) d l):=by
 unfold uM
 rw[z6 (Wm s hs d l r h),z7]
def jb(some:zd)(r:zd):Option (UInt8×zd):=match hO r with
 | []=>none
 | c::q=>if some.contains c=true then .some (c,q)else none
theorem ZA(s:zd)(hs:s.length<=1000000)(d:Nat)(l:Bool)(r:zd)(h:r <:+ s)(m:zd) :
  (xm m (qL s r d l)).run=some (match jb m r with | some (c,q)=>((c.toNat:Int),qL s q d l) | none=>(0,qL s (hO r) d l)):=by
 have hk:=List.IsSuffix.trans (vE r) h
 unfold xm jb
 rw[z6 (FC s hs d l r h)]
 cases e:hO r with
 | nil =>
  rw[z6 (a:=(false,qL s [] d l)) (by rw[uw,vC,mh,zf,z7]),zf,z7]
 | cons c q =>
  rw[e]at hk
  have hi:(strings_IndexByte m (c.toNat:Int)).run=some (Xa m c):=by unfold strings_IndexByte; rw[z7,Jc]
  rw[z6 (a:=(m.contains c,qL s (c::q) d l)) (by rw[uw,vC,dR hk,zk,zb (js hk),uc hk,z6 hi,z7,Cc])]
  have hp:=uB hk
  dsimp only
  cases hc:m.contains c with
  | false=>rfl
  | true =>
   rw[zk,uw,vC,zA (x:=((xx s (c::q):Nat):Int)+1) (by omega) (by omega),show((xx s (c::q):Nat):Int)+1-1=((xx s (c::q):Nat):Int) by omega,zA (by omega) (by omega),zb (js hk),z7,uc hk]
   rw[show((xx s (c::q):Nat):Int)+1=((xx s q:Nat):Int) by omega]
   rfl
theorem sE(b:UInt8):(xX (b.toNat:Int)).run=some (wH b):=by
 unfold xX wH
 rw[z7]
 congr 1
 grind
theorem Nt(b:UInt8):(ve (b.toNat:Int)).run=some (JJ b):=rfl
theorem Fg(s:zd)(hs:s.length<=1000000)(d:Nat)(l:Bool)(is:Int->T Bool)(p:UInt8->Bool)(hp:∀ b:UInt8,(is (b.toNat:Int)).run=some (p b))(f m:Nat)(hm:m<=1000000) :
  ∀ (n:Nat) (r:zd),r <:+ s->f<=xx s r->xx s r-f+n=m->(bz is (m:Int) (f:Int) (qL s r d l)).run=some (qL s (uH p n r).2 d l):=by
 intro n r
 induction r generalizing n with
 | nil =>
  intro h hf he
  have:(uH p n []).2=[]:=by cases n<;>rfl
  rw[this]
  refine zL ?_
  unfold xc
  rw[z6 (a:=(false,qL s [] d l)) (by rw[uw,vC,mh,zf,z7]),zf,z7]
 | cons c r ih =>
  intro h hf he
  have Zy:=uB h
  cases n with
  | zero =>
   refine zL ?_
   unfold xc
   rw[z6 (a:=(false,qL s (c::r) d l)) (by rw[uw,vC,dR h,zk,zA (by omega) (by omega),z8 (decide_eq_false (by omega)),z7]),zf,z7]
   rfl
  | succ n =>
   have e:(xc is (m:Int) (f:Int) (qL s (c::r) d l)).run=some (if p c=true then .inl (qL s r d l)else .inr (qL s (c::r) d l)):=by
    unfold xc
    rw[z6 (a:=(p c,qL s (c::r) d l)) (by rw[uw,vC,dR h,zk,zA (by omega) (by omega),za (decide_eq_true (by omega)),zb (js h),uc h,z6 (hp c),z7])]
    cases p c with
    | false=>rfl
    | true =>
     rw[zk,z7,if_pos rfl]
     show some (Sum.inl (s,zI (((xx s (c::r):Nat):Int)+1),(d:Int),l,()))=_
     rw[UU d l h hs]
   unfold uH
   by_cases hc:p c=true
   ·rw[if_pos hc]at e ⊢
    exact(qu e).trans (ih n (wo h) (by omega) (by omega))
   ·rw[if_neg hc]at e ⊢
    exact zL e
theorem W4(s:zd)(hs:s.length<=1000000)(d:Nat)(l:Bool)(is:Int->T Bool)(p:UInt8->Bool)(hp:∀ b:UInt8,(is (b.toNat:Int)).run=some (p b))(m:Nat)(hm:m<=1000000)(r:zd)(h:r <:+ s) :
  (xn is (m:Int) (qL s r d l)).run=some ((uH p m r).1,qL s (uH p m r).2 d l):=by
 unfold xn
 have h3:=GN (QE p m r) h
 have h4:xx s (uH p m r).2<=s.length:=by unfold xx; omega
 rw[uw,z6 (Fg s hs d l is p hp (xx s r) m hm m r h (Nat.le_refl _) (by omega))]
 rw[uw,vC,zb ⟨by omega,by omega,by omega⟩,z7,Ua h (oN p m r)]
inductive PR where
 | no
 | er (k:Int) (bad r:zd) (d:Nat) (l:Bool)
 | ok (e:Expr) (r:zd) (l:Bool)
def PR.bind:PR->(Expr->zd->Bool->PR)->PR
 | .no,_=>.no
 | .er k b r d l,_=>.er k b r d l
 | .ok e r l,f=>f e r l
def lg(k:Int)(l:List Expr):Expr:=.mk k qm [] l
def om(t:zd):Rat:=match oy t with | some (n,d)=>uz (List.isPrefixOf [45] t) n d | none=>qm
def XO(z:Rat)(t r:zd)(l:Bool):PR:=if 400<t.length then .ok (.mk 1 z [] []) r true else .ok (.mk 1 (om t) [] []) r l
def XW(z:Rat)(d:Nat)(r:zd)(l:Bool):PR:=match r.dropWhile wH with
 | []=>XO z (r.takeWhile wH) [] l
 | c::q=>if c=46 then(if q.takeWhile wH=[]then .er 2 q q d l else XO z (r.takeWhile wH++(46::q.takeWhile wH)) (q.dropWhile wH) l)
  else XO z (r.takeWhile wH) (c::q) l
def z2o(r:zd)(l:Bool):PR:=.ok (.mk 2 qm (uH wb 24 r).1 []) (uH wb 24 r).2 l
def fc(K:Bool->zd->PR)(m1 m2:UInt8)(k1 k2:Int):Nat->Expr->zd->Bool->PR
 | 0,_,_,_=>.no
 | n+1,e,r,l=>match jb [m1,m2] r with
  | none=>.ok e (hO r) l
  | some (c,q)=>(K l q).bind λe2 q2 l2=>fc K m1 m2 k1 k2 n (lg (if c=m1 then k1 else k2) [e,e2]) q2 l2
def rowP(K:Bool->zd->PR)(m1 m2:UInt8)(k1 k2:Int)(n:Nat)(l:Bool)(r:zd):PR:=(K l r).bind λe q l'=>fc K m1 m2 k1 k2 n e q l'
def Us(z:Rat)(F S:Nat->Bool->zd->PR)(d:Nat)(l:Bool)(s:zd):PR:=match hO s with
 | []=>.er 2 [] [] d l
 | c::r =>
  if c=45 then(if 31<=d then .er 4 (c::r) r (d+1) l else(F (d+1) l r).bind λe q l'=>.ok (lg 7 [e]) q l')
  else if c=40 then(if 31<=d then .er 4 (c::r) r (d+1) l else(S (d+1) l r).bind λe q l'=>match jb [41] q with
   | some (_,q')=>.ok e q' l'
   | none=>.er 2 (hO q) (hO q) (d+1) l')
  else if wH c=true then XW z d (c::r) l
  else if JJ c=true then z2o (c::r) l
  else .er 2 (c::r) (c::r) d l
mutual
def pF(z:Rat):Nat->Nat->Bool->zd->PR
 | 0,_,_,_=>.no
 | n+1,d,l,s=>Us z (pF z n) (pS z n) d l s
def pP(z:Rat):Nat->Nat->Bool->zd->PR
 | 0,_,_,_=>.no
 | n+1,d,l,s=>rowP (pF z n d) 42 47 5 6 n l s
def pS(z:Rat):Nat->Nat->Bool->zd->PR
 | 0,_,_,_=>.no
 | n+1,d,l,s=>rowP (pP z n d) 43 45 3 4 n l s
end
def PR.ov(s:zd):PR->Prop
 | .no=>True
 | .er _ b r _ _=>b <:+ s/\r <:+ s
 | .ok _ r _=>r <:+ s
theorem PR.Xf{s:zd}{R:PR}{f:Expr->zd->Bool->PR}(h:R.ov s)(hf:∀ e r l,r <:+ s->(f e r l).ov s):(R.bind f).ov s:=by
 cases R with
 | no=>trivial
 | er=>exact h
 | ok e r l=>exact hf e r l h
theorem gL{m r q:zd}{c:UInt8}(h:jb m r=some (c,q)):(c::q) <:+ r/\m.contains c=true/\hO r=c::q:=by
 have:=vE r
 unfold jb at h
 grind
theorem UD{s r t:zd}{z:Rat}{l:Bool}(h:r <:+ s):(XO z t r l).ov s:=by unfold XO; split<;>exact h
theorem gN(p:UInt8->Bool)(r:zd):r.dropWhile p <:+ r:=List.dropWhile_suffix p
theorem S0{s r:zd}{z:Rat}{d:Nat}{l:Bool}(h:r <:+ s):(XW z d r l).ov s:=by
 have hd:=gN wH r
 unfold XW
 split
 ·exact UD List.nil_suffix
 ·rename_i c q e
  rw[e]at hd
  have hq:=(wo hd).trans h
  split
  ·split
   ·exact⟨hq,hq⟩
   ·exact UD ((gN wH q).trans hq)
  ·exact UD (hd.trans h)
theorem E4{s:zd}{K:Bool->zd->PR}(hK:∀ l r,r <:+ s->(K l r).ov s)(m1 m2:UInt8)(k1 k2:Int):∀ (n:Nat) (e:Expr) (r:zd) (l:Bool),r <:+ s->(fc K m1 m2 k1 k2 n e r l).ov s
 | 0,_,_,_,_=>trivial
 | n+1,e,r,l,h=>by
  unfold fc
  split
  ·exact(vE r).trans h
  ·rename_i c q ht
   have hq:=(wo (gL ht).1).trans h
   exact PR.Xf (hK l q hq) λe2 q2 l2 h2=>E4 hK m1 m2 k1 k2 n _ q2 l2 h2
theorem Dx{s:zd}{K:Bool->zd->PR}(hK:∀ l r,r <:+ s->(K l r).ov s)(m1 m2:UInt8)(k1 k2:Int)(n:Nat)(l:Bool)(r:zd)(h:r <:+ s):(rowP K m1 m2 k1 k2 n l r).ov s :=
 PR.Xf (hK l r h) λ_ _ _ h2=>E4 hK m1 m2 k1 k2 n _ _ _ h2
theorem z07{s:zd}{z:Rat}{F S:Nat->Bool->zd->PR}(hF:∀ d l r,r <:+ s->(F d l r).ov s)(hS:∀ d l r,r <:+ s->(S d l r).ov s)(d:Nat)(l:Bool)(r:zd)(h:r <:+ s):(Us z F S d l r).ov s:=by
 have hk:=(vE r).trans h
 unfold Us
 split
 ·exact⟨List.nil_suffix,List.nil_suffix⟩
 ·rename_i c q e
  rw[e]at hk
  have hq:=wo hk
  split
  ·split
   ·exact⟨hk,hq⟩
   ·exact PR.Xf (hF _ _ _ hq) λ_ _ _ h2=>h2
  ·split
   ·split
    ·exact⟨hk,hq⟩
    ·refine PR.Xf (hS _ _ _ hq) λe2 q2 l2 h2 => ?_
     split
     ·rename_i ht
      exact(wo (gL ht).1).trans h2
     ·exact⟨(vE q2).trans h2,(vE q2).trans h2⟩
   ·split
    ·exact S0 hk
    ·split
     ·exact(QE wb 24 (c::q)).trans hk
     ·exact⟨hk,hk⟩
theorem Ut(z:Rat)(s:zd):∀ (n:Nat),(∀ d l r,r <:+ s->(pF z n d l r).ov s)/\(∀ d l r,r <:+ s->(pP z n d l r).ov s)/\(∀ d l r,r <:+ s->(pS z n d l r).ov s)
 | 0=>⟨λ_ _ _ _=>by unfold pF; trivial,λ_ _ _ _=>by unfold pP; trivial,λ_ _ _ _=>by unfold pS; trivial⟩
 | n+1=>by
  obtain⟨h1,h2,h3⟩:=Ut z s n
  refine⟨λd l r h => ?_,λd l r h => ?_,λd l r h => ?_⟩
  ·unfold pF; exact z07 h1 h3 d l r h
  ·unfold pP; exact Dx (h1 d) _ _ _ _ n l r h
  ·unfold pS; exact Dx (h2 d) _ _ _ _ n l r h
def encR(s:zd)(d:Nat):PR->Option ((AM.Expr×zc)⊕(jQ×zc))
 | .no=>none
 | .er k b r d' l=>some (.inr ((k,(((xx s b:Nat):Int),())),qL s r d' l))
 | .ok e r l=>some (.inl (e,qL s r d l))
theorem CZ(e a:Int)(p:zc):(w8 e a p).run=some (.inr ((e,(a,())),p)):=rfl
theorem Fo(s:zd)(hs:s.length<=1000000){c:UInt8}{r:zd}(h:(c::r) <:+ s)(d:Nat)(hd:d<=31)(l:Bool):(vw (qL s r d l)).run=some (if 31<=d then .inr ((4,(((xx s (c::r):Nat):Int),())),qL s r (d+1) l)else .inl (qL s r (d+1) l)):=by
 have hp:=uB h
 have e:((qL s r d l).1,((qL s r d l).2.1,((zI ((qL s r d l).2.2.1+(1:Int))),((qL s r d l).2.2.2.1,()))))=qL s r (d+1) l:=by
  rw[UM,zA (by omega) (by omega)]; rfl
 unfold vw
 rw[e,UM,uw,zA (by omega) (by omega),zA (by omega) (by omega)]
 by_cases c1:31<=d
 ·rw[if_pos c1,za (decide_eq_true (by omega)),z6 (CZ _ _ _),Sum.elim_inr,z7,show((xx s r:Nat):Int)-1=((xx s (c::r):Nat):Int) by omega]
 ·rw[if_neg c1,z8 (decide_eq_false (by omega)),z7]
theorem Jb(r:zd):qZ (r.takeWhile wH)=true:=by
 unfold qZ
 simp
theorem gn(p:UInt8->Bool)(r:zd):r.takeWhile p++r.dropWhile p=r:=by simp
theorem FF(s:zd)(hs:s.length<=1000000)(d:Nat)(l:Bool)(r:zd)(h:r <:+ s):(uK (qL s r d l)).run=encR s d (XW qm d r l):=by
 have BH:=gN wH r
 have hl:=h.length_le
 have hw:=W4 s hs d l (λz0=>xX z0) wH sE s.length hs r h
 rw[Uj wH s.length r hl]at hw
 -- what is done with the text
 have fin:∀ (t q:zd),(T.ite (decide ((400:Int)<(Nat.cast (List.length t):Int)))
    (.ret (.inl ((Expr.mk (1:Int) (false,(([]:List Int),(([]:List Int),()))) ([]:zd) ([]:List AM.Expr)),((qL s q d l).1,((qL s q d l).2.1,((qL s q d l).2.2.1,(true,())))))))
    (T.bind (gK t) λ(r,r1) =>
     .ret (.inl ((Expr.mk (1:Int) (r.1,(r.2.1,(r.2.2.1,()))) ([]:zd) ([]:List AM.Expr)),(qL s q d l)))):T ((AM.Expr×zc)⊕(jQ×zc))).run=encR s d (XO qm t q l):=by
  intro t q
  unfold XO
  by_cases c1:400<t.length
  ·rw[if_pos c1,za (decide_eq_true (by omega)),z7]; rfl
  ·rw[if_neg c1,z8 (decide_eq_false (by omega)),z6 (tH t (by omega)),if_neg c1]
   unfold om
   cases oy t with
   | none=>rfl
   | some x=>rfl
 unfold uK XW
 rw[vC,z6 hw]
 dsimp only
 cases e:r.dropWhile wH with
 | nil =>
  rw[e]at BH
  rw[z6 (a:=.inl (r.takeWhile wH,qL s [] d l,Expr.mk 0 (false,([],([],()))) [] [])) (by rw[uw,vC,mh,zb (λh=>by cases h),Bool.false_and,zf,z7]),Sum.elim_inl]
  grind
 | cons c q =>
  rw[e]at BH
  have Kw:=BH.trans h
  have hq:=wo Kw
  have Zy:=uB Kw
  dsimp only
  by_cases hc:c=46
  ·rw[if_pos hc]
   have sS:=W4 s hs d l (λz0=>xX z0) wH sE s.length hs q hq
   rw[Uj wH s.length q hq.length_le]at sS
   have ziP:(r.takeWhile wH).length<=1000000:=by have:=congrArg List.length (gn wH r); rw[List.length_append]at this; omega
   have z4E:(q.takeWhile wH).length<=1000000:=by have:=congrArg List.length (gn wH q); rw[List.length_append]at this; have:=hq.length_le; omega
   have cond:((decide (((xx s (c::q):Nat):Int)<(s.length:Int)))&&((zt s ((xx s (c::q):Nat):Int))==(46:Int)))=true:=by
    rw[dR Kw,Bool.true_and,uc Kw,show((c.toNat:Int)==46)=decide (c=46)from tn c 46]; simpa using hc
   have st:(((qL s (c::q) d l).1,((zI ((qL s (c::q) d l).2.1+(1:Int))),((qL s (c::q) d l).2.2.1,((qL s (c::q) d l).2.2.2.1,())))):zc)=qL s q d l:=UU d l Kw hs
   by_cases MR:q.takeWhile wH=[]
   ·rw[if_pos MR,z6 (a:=.inr ((2,(((xx s q:Nat):Int),())),qL s q d l,Expr.mk 0 (false,([],([],()))) [] [])),Sum.elim_inr]
    ·rfl
    ·rw[st,uw,vC,zb (λ_=>js Kw),za cond,z6 sS,za (by rw[xR]; simpa using MR)]
     have:q.dropWhile wH=q:=by have:=gn wH q; rw[MR]at this; simpa using this
     rw[this,z6 (CZ _ _ _),Sum.elim_inr,z7,uw]
   ·rw[if_neg MR,z6 (a:=.inl (cat (r.takeWhile wH) (cat [46] (q.takeWhile wH)),qL s (q.dropWhile wH) d l,Expr.mk 0 (false,([],([],()))) [] [])),Sum.elim_inl]
    ·exact fin _ _
    ·rw[st,uw,vC,zb (λ_=>js Kw),za cond,z6 sS,z8 (by rw[xR]; simpa using MR),zr _ (by simp; omega),zr _ (by simp[jx]; omega),z7]
  ·rw[if_neg hc,z6 (a:=.inl (r.takeWhile wH,qL s (c::q) d l,Expr.mk 0 (false,([],([],()))) [] [])),Sum.elim_inl]
   ·grind
   ·rw[uw,vC,zb (λ_=>js Kw),z8 (by rw[dR Kw,Bool.true_and,uc Kw,show((c.toNat:Int)==46)=decide (c=46)from tn c 46]; simpa using hc),z7]
abbrev KT:=zc->T ((AM.Expr×zc)⊕(jQ×zc))
abbrev zE:Expr:=Expr.mk (0:Int) (false,(([]:List Int),(([]:List Int),()))) ([]:zd) ([]:List AM.Expr)
noncomputable def U7 (K:KT) (W2:zd) (J8:jQ):(zc×AM.Expr×AM.Expr)->T ((zc×AM.Expr×AM.Expr)⊕((zc×AM.Expr×AM.Expr)⊕(jQ×zc×AM.Expr×AM.Expr)))
 | (v,v1,v2) =>
  T.bind (xm W2 v) λ(c,p3) =>
  .ite (c==(0:Int))
   (.ret (.inr (.inl (p3,(v2,v2)))))
   (T.bind (K p3) <|
     Sum.elim (λ(r1,p4) =>
      T.bind (strings_IndexByte W2 c) λr2 =>
      .zx (q9 r2 (2:Nat)) <|
      .ret (.inl (p4,(v1,(Expr.mk (rT (.int .i64) Wh J8 (Int.toNat r2)) (false,(([]:List Int),(([]:List Int),()))) ([]:zd) ([v2,r1]:List AM.Expr))))))
     (λ(pv1,p5) =>
      .ret (.inr (.inr (pv1,(p5,(v1,v2)))))))
noncomputable def z9a (K:KT) (marks:zd) (kinds:jQ) (p:zc):T ((AM.Expr×zc)⊕(jQ×zc)) :=
 T.bind (K p) <|
  Sum.elim (λ(r,p1) =>
   T.bind (T.loop (U7 K marks kinds) (p1,(zE,r))) <|
    Sum.elim (λ(v3,v4,v5) =>
     .ret (.inl (v4,v3)))
    (λ(p6,v6,v7,v8) =>
     .ret (.inr (p6,v6))))
  (λ(pv,p2) =>
   .ret (.inr (pv,p2)))
theorem zfe{m1 m2 c:UInt8}(h:[m1,m2].contains c=true):Xa [m1,m2] c=if c=m1 then 0 else 1:=by
 unfold Xa
 by_cases h1:c=m1
 ·grind
 ·have Vv:(m1==c)=false:=by simpa using λe:m1=c=>h1 e.symm
  have h2:c=m2:=by simpa[h1]using h
  subst h2
  rw[Vv,if_neg h1]
  unfold Xa
  simp
theorem DV(s:zd)(hs:s.length<=1000000)(d:Nat)(K:KT)(Ks:Bool->zd->PR)(hK:∀ l r,r <:+ s->Ks l r≠.no->(K (qL s r d l)).run=encR s d (Ks l r))(hx:∀ l r,r <:+ s->(Ks l r).ov s)(m1 m2:UInt8)(NH:m1≠0)(Y3:m2≠0)(k1 k2:Int) :
  ∀ (n:Nat) (e:Expr) (r:zd) (l:Bool),r <:+ s->fc Ks m1 m2 k1 k2 n e r l≠.no ->
   match fc Ks m1 m2 k1 k2 n e r l with
   | .no=>True
   | .ok e' r' l'=>(T.loop (U7 K [m1,m2] (k1,(k2,()))) (qL s r d l,(zE,e))).run=some (.inl (qL s r' d l',(e',e')))
   | .er k b r' d' l'=>∃ x,(T.loop (U7 K [m1,m2] (k1,(k2,()))) (qL s r d l,(zE,e))).run=some (.inr ((k,(((xx s b:Nat):Int),())),(qL s r' d' l',(zE,x))))
 | 0,_,_,_,_,hn=>absurd rfl hn
 | n+1,e,r,l,h,hn=>by
  have ht:=ZA s hs d l r h [m1,m2]
  unfold fc at hn ⊢
  cases q:jb [m1,m2] r with
  | none =>
   rw[q]at ht
   dsimp only
   refine zL ?_
   unfold U7
   rw[z6 ht]
   rfl
  | some x =>
   obtain⟨c,q'⟩:=x
   rw[q]at ht hn
   dsimp only at ht hn ⊢
   have hsf:=gL q
   have hq:=(wo hsf.1).trans h
   have hc0:((c.toNat:Int)==0)=false:=by
    rw[show((c.toNat:Int)==0)=decide (c=0)from tn c 0]
    grind
   have Zb:=hK l q' hq
   have ZG:=hx l q' hq
   cases z:Ks l q' with
   | no=>rw[z]at hn; exact absurd rfl hn
   | er k b r' d' l' =>
    rw[z]at Zb
    have Zb:=Zb (by simp)
    refine⟨e,zL ?_⟩
    unfold U7
    rw[z6 ht]
    rw[z8 hc0,z6 Zb]
    rfl
   | ok e2 r2 l2 =>
    rw[z]at Zb hn ZG
    have Zb:=Zb (by simp)
    have hi:(strings_IndexByte [m1,m2] (c.toNat:Int)).run=some (Xa [m1,m2] c):=by unfold strings_IndexByte; rw[z7,Jc]
    have step:(U7 K [m1,m2] (k1,(k2,())) (qL s r d l,(zE,e))).run=some (.inl (qL s r2 d l2,(zE,lg (if c=m1 then k1 else k2) [e,e2]))):=by
     unfold U7
     rw[z6 ht]
     rw[z8 hc0,z6 Zb,Sum.elim_inl,z6 hi,zfe hsf.2.1]
     by_cases hc:c=m1
     ·rw[if_pos hc,if_pos hc,zb ⟨by omega,by omega⟩,z7]
      rfl
     ·rw[if_neg hc,if_neg hc,zb ⟨by omega,by omega⟩,z7]
      rfl
    rw[qu step]
    exact DV s hs d K Ks hK hx m1 m2 NH Y3 k1 k2 n _ r2 l2 ZG hn
theorem Dw(s:zd)(hs:s.length<=1000000)(d:Nat)(K:KT)(Ks:Bool->zd->PR)(hK:∀ l r,r <:+ s->Ks l r≠.no->(K (qL s r d l)).run=encR s d (Ks l r))(hx:∀ l r,r <:+ s->(Ks l r).ov s)(m1 m2:UInt8)(NH:m1≠0)(Y3:m2≠0)(k1 k2:Int)
  (n:Nat) (l:Bool) (r:zd) (h:r <:+ s) (hn:rowP Ks m1 m2 k1 k2 n l r≠.no):(z9a K [m1,m2] (k1,(k2,())) (qL s r d l)).run=encR s d (rowP Ks m1 m2 k1 k2 n l r):=by
 have Zb:=hK l r h
 have ZG:=hx l r h
 unfold z9a
 unfold rowP at hn ⊢
 cases z:Ks l r with
 | no=>rw[z]at hn; exact absurd rfl hn
 | er k b r' d' l' =>
  rw[z]at Zb
  rw[z6 (Zb (by simp))]
  rfl
 | ok e r' l' =>
  rw[z]at Zb hn ZG
  have Zb:=Zb (by simp)
  have hn:fc Ks m1 m2 k1 k2 n e r' l'≠.no:=hn
  have hl:=DV s hs d K Ks hK hx m1 m2 NH Y3 k1 k2 n e r' l' ZG hn
  rw[z6 Zb,Sum.elim_inl]
  show _=encR s d (fc Ks m1 m2 k1 k2 n e r' l')
  cases w:fc Ks m1 m2 k1 k2 n e r' l' with
  | no=>grind
  | er k b r2 d2 l2 =>
   rw[w]at hl
   obtain⟨x,hl⟩:=hl
   rw[z6 hl]
   rfl
  | ok e2 r2 l2 =>
   rw[w]at hl
   rw[z6 hl]
   rfl
theorem Ca(s:zd)(hs:s.length<=1000000)(FT ST:KT)(F S:Nat->Bool->zd->PR)
  (hF:∀ d l r,d<=31->r <:+ s->F d l r≠.no->(FT (qL s r d l)).run=encR s d (F d l r)) (hS:∀ d l r,d<=31->r <:+ s->S d l r≠.no->(ST (qL s r d l)).run=encR s d (S d l r))
  (xS:∀ d l r,r <:+ s->(S d l r).ov s) (d:Nat) (l:Bool) (r:zd) (hd:d<=31) (h:r <:+ s) (hn:Us qm F S d l r≠.no):(wy FT ST (qL s r d l)).run=encR s d (Us qm F S d l r):=by
 have ht:=ZA s hs d l r h [45,40]
 have hk:=(vE r).trans h
 unfold wy
 unfold Us at hn ⊢
 unfold jb at ht
 -- what deeper ones leave
 have down:∀ (q:zd) (l':Bool),(((qL s q (d+1) l').1,((qL s q (d+1) l').2.1,((zI ((qL s q (d+1) l').2.2.1-(1:Int))),((qL s q (d+1) l').2.2.2.1,())))):zc)=qL s q d l':=by
  intro q l'
  rw[UM,zA (by omega) (by omega)]
  show(s,(((xx s q:Nat):Int),(((d+1:Nat):Int)-1,(l',()))))=(s,(((xx s q:Nat):Int),((d:Int),(l',()))))
  simp
 cases e:hO r with
 | nil =>
  rw[e]at ht
  dsimp only at ht ⊢
  rw[z6 ht]
  dsimp only
  rw[z8 (by rfl),z8 (by rfl)]
  rw[z6 (a:=(false,(qL s [] d l,zE))) (by rw[uw,vC,mh,zf,z7])]
  dsimp only
  rw[zf,z6 (a:=(false,(qL s [] d l,zE))) (by rw[uw,vC,mh,zf,z7])]
  rfl
 | cons c q =>
  rw[e]at ht hn hk
  have hq:=wo hk
  dsimp only at ht hn ⊢
  have hw:=Fo s hs hk d hd l
  by_cases c45:c=45
  ·subst c45
   rw[if_pos (by decide)]at ht
   dsimp only at ht
   rw[if_pos rfl]at hn ⊢
   rw[z6 ht]
   dsimp only
   rw[za (by rfl),z6 hw]
   by_cases c31:31<=d
   ·rw[if_pos c31,if_pos c31]; rfl
   ·rw[if_neg c31]at hn
    rw[if_neg c31,if_neg c31,Sum.elim_inl]
    have hf:=hF (d+1) l q (by omega) hq
    cases z:F (d+1) l q with
    | no=>rw[z]at hn; exact absurd rfl hn
    | er k b r' d' l'=>rw[z]at hf; rw[z6 (hf (by simp))]; rfl
    | ok e2 r2 l2 =>
     rw[z]at hf
     rw[z6 (hf (by simp)),Sum.elim_inl]
     dsimp only
     rw[z7,down]
     rfl
  ·rw[if_neg c45]at hn ⊢
   by_cases c40:c=40
   ·subst c40
    rw[if_pos (by decide)]at ht
    dsimp only at ht
    rw[if_pos rfl]at hn ⊢
    rw[z6 ht]
    dsimp only
    rw[z8 (by rfl),za (by rfl),z6 hw]
    by_cases c31:31<=d
    ·rw[if_pos c31,if_pos c31]; rfl
    ·rw[if_neg c31]at hn
     rw[if_neg c31,if_neg c31,Sum.elim_inl]
     have hf:=hS (d+1) l q (by omega) hq
     have xf:=xS (d+1) l q hq
     cases z:S (d+1) l q with
     | no=>rw[z]at hn; exact absurd rfl hn
     | er k b r' d' l'=>rw[z]at hf; rw[z6 (hf (by simp))]; rfl
     | ok e2 r2 l2 =>
      rw[z]at hf xf
      rw[z6 (hf (by simp)),Sum.elim_inl]
      dsimp only
      have Yg:=ZA s hs (d+1) l2 r2 xf [41]
      show _=encR s d (match jb [41] r2 with | some (_,q')=>.ok e2 q' l2 | none=>.er 2 (hO r2) (hO r2) (d+1) l2)
      cases w:jb [41] r2 with
      | none =>
       rw[w]at Yg
       dsimp only at Yg ⊢
       rw[z6 (a:=.inr ((2,(((xx s (hO r2):Nat):Int),())),(qL s (hO r2) (d+1) l2,(zE,e2)))) (by rw[z6 Yg]; rfl)]
       rfl
      | some x =>
       obtain⟨c',q'⟩:=x
       rw[w]at Yg
       have hc':=(gL w).2.1
       have hc':c'=41:=by simpa using hc'
       subst hc'
       dsimp only at Yg ⊢
       rw[z6 (a:=.inl (qL s q' (d+1) l2,(zE,e2))) (by rw[z6 Yg]; rfl),Sum.elim_inl]
       dsimp only
       rw[z7,down]
       rfl
   ·rw[if_neg (by simp[c45,c40])]at ht
    dsimp only at ht
    rw[if_neg c40]at hn ⊢
    rw[z6 ht]
    dsimp only
    rw[z8 (by rfl),z8 (by rfl)]
    rw[z6 (a:=(wH c,(qL s (c::q) d l,zE))) (by rw[uw,vC,dR hk,zk,zb (js hk),uc hk,z6 (sE c),z7])]
    dsimp only
    cases hD:wH c with
    | true =>
     rw[if_pos rfl,zk]
     have oT:=FF s hs d l (c::q) hk
     cases z:XW qm d (c::q) l with
     | no =>
      exfalso
      rw[if_pos hD,z]at hn
      exact hn rfl
     | er k b r' d' l'=>rw[z]at oT; rw[z6 oT]; rfl
     | ok e2 r2 l2=>rw[z]at oT; rw[z6 oT]; rfl
    | false =>
     rw[if_neg (by simp),zf]
     rw[z6 (a:=(JJ c,(qL s (c::q) d l,zE))) (by rw[uw,vC,dR hk,zk,zb (js hk),uc hk,z6 (Nt c),z7])]
     dsimp only
     cases hL:JJ c with
     | true =>
      rw[if_pos rfl,zk]
      have hwl:(xn (λz0=>vV z0) 24 (qL s (c::q) d l)).run=_:=W4 s hs d l (λz0=>vV z0) wb pT 24 (by omega) (c::q) hk
      rw[z6 hwl]
      rfl
     | false =>
      rw[if_neg (by simp),zf]
      rfl
mutual
def iw(deep:Nat)(left:Int):Expr->Bool×Int
 | .mk k n s l=>if left-1<0\/(decide (deep<32)&&gP (.mk k n s l))=false then(false,left-1)else gM (deep+1) (left-1) l
def gM(deep:Nat)(left:Int):List Expr->Bool×Int
 | []=>(true,left)
 | e::r=>if(iw deep left e).1=true then gM deep (iw deep left e).2 r else(false,(iw deep left e).2)
end
mutual
theorem Bi:∀ (e:Expr) (d:Nat) (left:Int),0<=left->(iw d left e).1=(uA d e&&decide ((vB e:Int)<=left))/\((iw d left e).1=true->(iw d left e).2=left-vB e)/\(iw d left e).2<=left /\ -1<=(iw d left e).2
 | .mk k n s l,d,left,h=>by
  have e1:uA d (.mk k n s l)=((decide (d<32)&&gP (.mk k n s l))&&y9 (d+1) l):=by unfold uA; rw[Bool.and_assoc]
  have e2:vB (.mk k n s l)=1+ue l:=rfl
  unfold iw
  rw[e1,e2]
  by_cases c:left-1<0
  ·rw[if_pos (.inl c)]
   refine⟨?_,λh=>by simp at h,by omega,by dsimp only; omega⟩
   dsimp only
   rw[show decide (((1+ue l:Nat):Int)<=left)=false from decide_eq_false (by omega),Bool.and_false]
  ·cases q:(decide (d<32)&&gP (.mk k n s l))with
   | false=>rw[if_pos (.inr rfl)]; exact⟨rfl,λh=>by simp at h,by dsimp only; omega,by dsimp only; omega⟩
   | true =>
    rw[if_neg (by rintro(h | h); exact c h; simp at h),Bool.true_and]
    obtain⟨h1,h2,h3,h4⟩:=Dc l (d+1) (left-1) (by omega)
    refine⟨?_,λh=>by rw[h2 h]; omega,by omega,by omega⟩
    rw[h1]
    congr 1
    exact decide_eq_decide.2 (by omega)
theorem Dc:∀ (l:List Expr) (d:Nat) (left:Int),0<=left->(gM d left l).1=(y9 d l&&decide ((ue l:Int)<=left))/\((gM d left l).1=true->(gM d left l).2=left-ue l)/\(gM d left l).2<=left /\ -1<=(gM d left l).2
 | [],d,left,h=>by
  refine⟨?_,λ_ => ?_,Int.le_refl _,?_⟩
  ·show true=(true&&decide (((0:Nat):Int)<=left)); simp; omega
  ·show left=left-((0:Nat):Int); omega
  ·show -1<=left; omega
 | e::r,d,left,h=>by
  have e1:y9 d (e::r)=(uA d e&&y9 d r):=rfl
  have e2:ue (e::r)=vB e+ue r:=rfl
  obtain⟨h1,h2,h3,h4⟩:=Bi e d left h
  unfold gM
  rw[e1,e2]
  cases q:(iw d left e).1 with
  | false =>
   rw[if_neg (by simp)]
   refine⟨?_,λh=>by simp at h,h3,h4⟩
   dsimp only
   rw[q]at h1
   cases ho:uA d e with
   | false=>rfl
   | true =>
    rw[ho,Bool.true_and]at h1
    have:=of_decide_eq_false h1.symm
    rw[show decide (((vB e+ue r:Nat):Int)<=left)=false from decide_eq_false (by omega),Bool.and_false]
  | true =>
   rw[if_pos rfl]
   have hq:=h2 q
   rw[q]at h1
   have h1:=h1.symm
   rw[Bool.and_eq_true,decide_eq_true_eq]at h1
   obtain⟨g1,g2,g3,g4⟩:=Dc r d (iw d left e).2 (by omega)
   refine⟨?_,λh=>by rw[g2 h]; omega,by omega,by omega⟩
   rw[g1,h1.1,Bool.true_and]
   congr 1
   exact decide_eq_decide.2 (by omega)
end
theorem Fc(e:Expr)(deep:Nat)(left:Int)(h:allOk e)(hl:vB e<=1000000)(hl0:0<=left)(iI:left<=100000)(hd:deep<=32):(kB e (deep:Int) left).run=some (iw deep left e):=by
 unfold kB
 refine nf (λx:Expr×Int×Int=>allOk x.1/\0<=x.2.1/\x.2.1<=32/\vB x.1<=1000000/\0<=x.2.2/\x.2.2<=100000) (λx=>vB x.1) (λx=>iw x.2.1.toNat x.2.2 x.1) (λx hx g hg => ?_) (x:=(e,(deep:Int),left)) ⟨h,by dsimp only; omega,by dsimp only; omega,by dsimp only; omega,by dsimp only; omega,by dsimp only; omega⟩
 obtain⟨e,d,L⟩:=x
 obtain⟨ha,P2,FY,hn,zfZ,hlf⟩:=hx
 dsimp only at ha P2 FY hn zfZ hlf
 obtain⟨D,rfl⟩:∃ D:Nat,d=(D:Int):=⟨d.toNat,by omega⟩
 cases e with | mk k n s kids =>
 obtain⟨oT,C5⟩:=ha
 have Nl:vB (.mk k n s kids)=1+ue kids:=by unfold vB; rfl
 rw[Nl]at hn
 have ew:zI (L-1)=L-1:=zA (by omega) (by omega)
 have RB:=Kf (.mk k n s kids) oT
 simp only[Int.toNat_natCast]
 unfold bE
 rw[ew]
 have head:((.ite (decide ((L-1)<(0:Int))) (.ret (true,L-1)) (.ite (decide ((32:Int)<=(D:Int))) (.ret (true,L-1)) (T.bind (h9 (.mk k n s kids)) λr=>.ret ((!r),L-1)))):T (Bool×Int)).run =
   some (decide (L-1<0\/(decide (D<32)&&gP (.mk k n s kids))=false),L-1):=by
  by_cases c0:L-1<0
  ·rw[za (decide_eq_true c0),z7,decide_eq_true (.inl c0)]
  ·rw[z8 (decide_eq_false c0)]
   by_cases c:D<32
   ·rw[z8 (decide_eq_false (by omega)),z6 RB,z7,decide_eq_true c,Bool.true_and]
    cases gP (.mk k n s kids)<;>simp[c0]
   ·rw[za (decide_eq_true (by omega)),z7,decide_eq_false c,Bool.false_and]
    simp
 rw[z6 head]
 dsimp only
 unfold iw
 by_cases q:L-1<0\/(decide (D<32)&&gP (.mk k n s kids))=false
 ·rw[za (decide_eq_true q),z7,if_pos q]
 ·rw[z8 (decide_eq_false q),if_neg q]
  have q1:¬ L-1<0:=λh=>q (.inl h)
  have hD:D<32:=by
   grind
  have ed:zI ((D:Int)+1)=((D+1:Nat):Int):=by rw[zA (by omega) (by omega)]; omega
  have loop:∃ z,(zZ (λy0 y1 y2=>g (y0,y1,y2)) kids (kids.length:Int) (((D:Int),()),((0:Int),L-1))).run=some z /\
    (((gM (D+1) (L-1) kids).1=true/\z=.inl (gM (D+1) (L-1) kids).2)\/((gM (D+1) (L-1) kids).1=false/\∃ i:Int,0<=i/\z=.inr (i,(gM (D+1) (L-1) kids).2))):=by
   refine T.qU (r:=zK (λy0 y1 y2=>g (y0,y1,y2)) kids (kids.length:Int)) (λst:(Int×Unit)×Int×Int=>∃ (j:Nat) (B:Int),st=(((D:Int),()),(j:Int),B)/\j<=kids.length/\0<=B/\B<=100000 /\
    gM (D+1) B (kids.drop j)=gM (D+1) (L-1) kids) (λst=>kids.length-st.2.1.toNat) _ (λst xV => ?_) ⟨0,L-1,rfl,by omega,by omega,by omega,by rw[List.drop_zero]⟩
   obtain⟨j,B,rfl,hj,hB0,hB,GR⟩:=xV
   by_cases c:j<kids.length
   ·have BH:kids.drop j=kids[j]::kids.drop (j+1):=List.drop_eq_getElem_cons c
    rw[BH]at GR
    rw[show gM (D+1) B (kids[j]::kids.drop (j+1))=if(iw (D+1) B kids[j]).1=true then gM (D+1) (iw (D+1) B kids[j]).2 (kids.drop (j+1))else(false,(iw (D+1) B kids[j]).2)from rfl]at GR
    have ni:=eU C5 _ (List.getElem_mem c)
    have NT:=Bi kids[j] (D+1) B hB0
    have Fe:vB kids[j]<1+ue kids:=by have:=mz (List.getElem_mem c); omega
    have Vu:=hg (kids[j],((D+1:Nat):Int),B) ⟨ni,by dsimp only; omega,by dsimp only; omega,by dsimp only; omega,by dsimp only; omega,by dsimp only; omega⟩ (by dsimp only; rw[Nl]; exact Fe)
    dsimp only at Vu
    simp only[Int.toNat_natCast]at Vu
    have hf:(jL (λy0 y1 y2=>g (y0,y1,y2)) kids[j] (D:Int) B).run=some (!(iw (D+1) B kids[j]).1,(iw (D+1) B kids[j]).2):=by
     unfold jL
     rw[ed,z6 Vu]; rfl
    unfold zK
    dsimp only
    rw[za (vQ c),zb (zG c),bV c,z6 hf]
    dsimp only
    cases hk:(iw (D+1) B kids[j]).1 with
    | true =>
     left
     rw[hk,if_pos rfl]at GR
     rw[z8 (by rfl),z7]
     have hlen:=pY kids
     rw[eS j _ c (by omega)]
     have hb:=NT.1
     rw[hk]at hb
     have hb:=hb.symm
     rw[Bool.and_eq_true,decide_eq_true_eq]at hb
     have h2:=NT.2.1 hk
     refine⟨_,rfl,⟨j+1,(iw (D+1) B kids[j]).2,rfl,c,by omega,by omega,GR⟩,?_⟩
     simp only[Int.toNat_natCast]
     omega
    | false =>
     right
     rw[hk,if_neg (by simp)]at GR
     rw[za (by rfl),z7]
     exact⟨_,rfl,.inr ⟨by rw[<- GR],(j:Int),by omega,by rw[<- GR]⟩⟩
   ·right
    have hj2:j=kids.length:=by omega
    subst hj2
    rw[List.drop_length]at GR
    unfold zK
    dsimp only
    rw[z8 (oB _),z7]
    exact⟨_,rfl,.inl ⟨by rw[<- GR]; rfl,by rw[<- GR]; rfl⟩⟩
  obtain⟨z,hz,hc⟩:=loop
  have hcf:(qh (λy0 y1 y2=>g (y0,y1,y2)) kids ((D:Int),()) (L-1)).run=some (!(gM (D+1) (L-1) kids).1,(gM (D+1) (L-1) kids).2):=by
   unfold qh qM
   rcases hc with⟨ho,rfl⟩ | ⟨ho,i,hi,rfl⟩
   ·have:((T.bind (zZ (λy0 y1 y2=>g (y0,y1,y2)) kids (kids.length:Int) (((D:Int),()),((0:Int),L-1)))<|Sum.elim (λv2=>.ret ((-1:Int),v2)) (λ(x2,v3)=>.ret (x2,v3))):T (Int×Int)).run=some (-1,(gM (D+1) (L-1) kids).2):=by
     rw[z6 hz]; rfl
    rw[z6 this,ho]; rfl
   ·have:((T.bind (zZ (λy0 y1 y2=>g (y0,y1,y2)) kids (kids.length:Int) (((D:Int),()),((0:Int),L-1)))<|Sum.elim (λv2=>.ret ((-1:Int),v2)) (λ(x2,v3)=>.ret (x2,v3))):T (Int×Int)).run=some (i,(gM (D+1) (L-1) kids).2):=by
     rw[z6 hz]; rfl
    rw[z6 this,ho,z7,decide_eq_true hi]; rfl
  rw[show Expr.kids (.mk k n s kids)=kids from rfl,z6 hcf]
  dsimp only
  rw[z7,Bool.not_not]
def Er(e:Expr):Bool:=uA 0 e&&decide (vB e<=256)
theorem Nu(e:Expr)(h:allOk e)(hn:vB e<=1000000):(j3 e).run=some (Er e):=by
 unfold j3 Er
 have:=Fc e 0 256 h hn (by omega) (by omega) (by omega)
 have this:(kB e 0 256).run=some (iw 0 256 e):=this
 rw[z6 this,z7,(Bi e 0 256 (by omega)).1]
 congr 2
 grind
theorem Uy(e:Expr)(h:allOk e)(hb:bkE e<=1000000000)(hn:vB e<=100000):(gf e).run=some (Er e):=by
 unfold gf Er
 have h1:(mE e 1).run=some (uA 0 e):=MI e 0 h (by omega) (by omega)
 rw[z6 h1]
 cases uA 0 e with
 | false=>rfl
 | true =>
  rw[zk,z6 (pC e hb),z7]
  congr 1
  grind
end Go.AM.Lf
