/-
  Plain laws of the lifted program, part 1.
-/
import Derived.Test.YtgadkkagiejlkaaGreatDoorLf0
import Derived.Test.YtgadkkagiejlkaaGreatDoorAmA
import Derived.Test.YtgadkkagiejlkaaGreatDoorAmD
import Derived.Test.YtgadkkagiejlkaaGreatDoorQ0
set_option linter.unusedVariables false
open Go.AM.T (KU Ws dM eA jv q9 qi qm wg wq xV z6 z8 za zc zl zm zq)
namespace Go.AM.PL
def xY(b:UInt8):Bool:=decide (48≤b.toNat∧b.toNat≤57)
def qD(s:zh):Bool:=s.all xY
def qU(s:zh):Nat:=s.foldl (fun n b=>n*10+(b.toNat-48)) 0
theorem Dw(s:zh)(n:Nat):s.foldl (fun n b=>n*10+(b.toNat-48)) n=n*10 ^ s.length+qU s:=by
 unfold qU
 induction s generalizing n with
 | nil=>simp
 | cons b s ih =>
  rw[List.foldl_cons,List.foldl_cons,ih,ih (0*10+(b.toNat-48)),List.length_cons,Nat.pow_succ]
  grind
theorem pL(s t:zh):qU (s++t)=qU s*10 ^ t.length+qU t:=by
 have:=Dw t (qU s)
 unfold qU at this ⊢
 rw[List.foldl_append,this]
theorem rY(s:zh)(b:UInt8):qU (s++[b])=qU s*10+(b.toNat-48):=by
 unfold qU; rw[List.foldl_append]; rfl
theorem ba{b:UInt8}:xY b=true↔48≤b.toNat∧b.toNat≤57:=by unfold xY; simp
theorem VW{s:zh}(h:qD s=true):qU s<10 ^ s.length:=by
 have key:∀ (s:zh) (n k:Nat),qD s=true→n<10 ^ k→s.foldl (fun n b=>n*10+(b.toNat-48)) n<10 ^ (k+s.length):=by
  intro s
  induction s with
  | nil=>intro n k _ h; simpa using h
  | cons b s ih =>
   intro n k hd hn
   simp only[qD,List.all_cons,Bool.and_eq_true]at hd
   have hb:=ba.1 hd.1
   have:=ih (n*10+(b.toNat-48)) (k+1) hd.2 (by rw[Nat.pow_succ]; omega)
   rw[List.foldl_cons,List.length_cons]
   rwa [show k+(s.length+1)=k+1+s.length by omega]
 have:=key s 0 0 h (by simp)
 simpa[qU]using this
theorem yq(s t:zh):qD (s++t)=(qD s&&qD t):=by unfold qD; rw[List.all_append]
theorem wF(b:UInt8)(t:zh):qD (b::t)=(xY b&&qD t):=rfl
theorem bp{s:zh}(h:qD s=true):(zw (qU s)).length≤s.length+1:=by
 refine Nat.le_trans (Zk (Nat.le_of_lt (VW h))) ?_
 refine zK.2 (Nat.lt_of_lt_of_le (Nat.pow_lt_pow_right (a:=10) (by omega) (Nat.lt_succ_self s.length)) ?_)
 exact Nat.pow_le_pow_left (by omega) _
def fD(s:zh):Option Nat:=if s=[]∨400<s.length∨qD s=false then none else some (qU s)
theorem Zu(f:Nat→Bool):∀ (n k i:Nat),i<n→lF .bool (hO .bool n) (Dh (e:=.bool) f n k) i=f (k+i)
 | 0,_,_,h=>by omega
 | n+1,k,0,_=>by
  show(match(wS (a:=.bool) (f k):Option (den .bool))with | some y=>y | none=>zA .bool)=_
  simp[wS]
 | n+1,k,i+1,h=>by
  show lF .bool (hO .bool n) (Dh (e:=.bool) f n (k+1)) i=_
  rw[Zu f n (k+1) i (by omega)]
  congr 1; omega
abbrev uN:zh:=[48,49,50,51,52,53,54,55,56,57]
theorem N9:∀ c:Fin 256,uN.contains (UInt8.ofNat c.val)=decide (48≤c.val∧c.val≤57):=by decide +kernel
theorem vK{s:zh}{k:Nat}(h:k<s.length):zo s (k:Int)=((s[k]).toNat:Int):=by
 unfold zo; simp[h]
theorem nE(b:UInt8)(s:zh):zS 1 (((b::s).length:Nat):Int) (b::s)=s:=by unfold zS; simp
theorem Cq(s:zh)(b:UInt8):zS 0 ((s.length:Nat):Int) (s++[b])=s:=by unfold zS; simp
end Go.AM.PL
namespace Go.AM.Lf
open PL
theorem oq(b:UInt8):(xi (gV uN) (b.toNat:Int)).run=some (xY b):=by
 have hb:b.toNat<256:=b.toNat_lt
 unfold xi
 rw[zq ⟨by omega,by omega⟩,z8]
 unfold gV
 rw[Int.toNat_natCast,Zu _ 256 0 _ hb,Nat.zero_add]
 exact congrArg some (N9 ⟨b.toNat,hb⟩)
theorem XB(s:zh)(hs:s.length≤1000000000):∃ r,(wR s (gV uN)).run=some r∧qD r=qD s∧(qD r=true→r=[])∧r.length≤s.length:=by
 have:=T.qL (r:=xj (gV uN)) (fun t:zh=>qD t=qD s∧t.length≤s.length) (fun t=>t.length) (fun r:zh=>qD r=qD s∧(qD r=true→r=[])∧r.length≤s.length) (fun t ht => ?_) (s:=s) ⟨rfl,Nat.le_refl _⟩
 ·obtain⟨r,h1,h2⟩:=this
  have h1:(jl (gV uN) s).run=some r:=h1
  unfold wR
  rw[z6 h1]
  exact⟨r,rfl,h2⟩
 ·rcases List.eq_nil_or_concat t with rfl | ⟨l,b,rfl⟩
  ·right
   refine⟨[],?_,ht.1,fun _=>rfl,by simp⟩
   unfold xj
   dsimp only
   rw[za (by rfl),z8]
  ·rw[List.concat_eq_append]at ht ⊢
   have hl:(l++[b]).length=l.length+1:=by simp
   have e1:zr (((l++[b]).length:Int)-1)=(l.length:Int):=by rw[hl,zJ (by omega) (by omega)]; omega
   have e2:zo (l++[b]) (l.length:Int)=(b.toNat:Int):=by rw[vK (by simp)]; simp
   unfold xj
   dsimp only
   rw[zc (decide_eq_true (by rw[hl]; omega)),e1,qi _ (by omega) (by rw[hl]; omega),e2,z6 (oq b)]
   cases hb:xY b with
   | false =>
    right
    refine⟨_,by rw[zc (by rfl),z8],ht.1,fun h => ?_,ht.2⟩
    rw[yq,wF,hb]at h; simp at h
   | true =>
    left
    refine⟨l,by rw[za (by rfl),jv _ (by omega) (by omega) (by rw[hl]; omega),z8,Cq],⟨?_,by omega⟩,by omega⟩
    rw[← ht.1,yq,wF,hb]; simp[qD]
theorem VU(s:zh)(hs:s.length≤1000000000):∃ r,(vk s (gV uN)).run=some r∧qD r=qD s∧(qD r=true→r=[]):=by
 have:=T.qL (r:=xv (gV uN)) (fun t:zh=>qD t=qD s) (fun t=>t.length) (fun r:zh=>qD r=qD s∧(qD r=true→r=[])) (fun t ht => ?_) (s:=s) rfl
 ·obtain⟨r,h1,h2⟩:=this
  have h1:(jF (gV uN) s).run=some r:=h1
  unfold vk
  rw[z6 h1]
  exact⟨r,rfl,h2⟩
 ·cases t with
  | nil =>
   right
   refine⟨[],?_,ht,fun _=>rfl⟩
   unfold xv
   dsimp only
   rw[za (by rfl),z8]
  | cons b l =>
   have e2:zo (b::l) 0=(b.toNat:Int):=rfl
   unfold xv
   dsimp only
   rw[zc (decide_eq_true (by simp)),qi _ (by omega) (by simp),e2,z6 (oq b)]
   cases hb:xY b with
   | false =>
    right
    refine⟨_,by rw[zc (by rfl),z8],ht,fun h => ?_⟩
    rw[wF,hb]at h; simp at h
   | true =>
    left
    refine⟨l,by rw[za (by rfl),jv _ (by omega) (by simp; omega) (by omega),z8,nE],?_,by simp⟩
    rw[← ht,wF,hb]; rfl
theorem VV:∀ (j:Nat) b,uN[j]? = some b→b.toNat<128:=by
 intro j b h
 have:b∈uN:=List.mem_of_getElem? h
 simp only[uN,List.mem_cons,List.not_mem_nil,or_false]at this
 rcases this with rfl | rfl | rfl | rfl | rfl | rfl | rfl | rfl | rfl | rfl<;>decide
theorem tJ(s:zh)(hs:s.length≤1000000000)(hn:s≠[]):∃ r,(j8 s uN).run=some r∧zD r []=qD s:=by
 obtain⟨r1,a1,a2,a3,a4⟩:=XB s hs
 obtain⟨r,b1,b2,b3⟩:=VU r1 (by omega)
 refine⟨r,?_,?_⟩
 ·have hm:(strings_makeASCIISet uN).run=some (gV uN,true):=by
   unfold strings_makeASCIISet
   rw[zq ⟨by decide,VV⟩,z8]
  have e1:zD s []=false:=by rw[wI]; simpa using hn
  unfold j8
  rw[za (by rw[e1]; rfl),zq (fun h=>by simp at h),za (by rfl),z6 hm,zl,z6 a1,z6 b1,z8]
 ·rw[wI]
  rw[a2]at b2
  cases h:qD s with
  | true=>rw[h]at b2; rw[b3 b2]; simp
  | false =>
   rw[h]at b2
   refine decide_eq_false fun z => ?_
   subst z; cases b2
theorem Rv(v:Nat)(b:UInt8)(hb:xY b=true):zn (C9 ((b.toNat:Int)-48))=((b.toNat-48:Nat):Int):=by
 have:=ba.1 hb
 rw[Ud (by omega) (by omega),qf (by omega) (by omega)]; omega
theorem W0:zp [(10:Int)]:=by intro x hx; simp at hx; omega
theorem gi(s:zh)(hs:s.length≤1000000000):(wX s).run=some (match fD s with | some n=>(zw n,true) | none=>([],false)):=by
 unfold wX fD
 by_cases c1:s=[]
 ·subst c1; rw[if_pos (.inl rfl)]; rfl
 ·have e1:zD s []=false:=by rw[wI]; simpa using c1
  by_cases c2:400<s.length
  ·have hg:(.ite (zD s ([]:zh)) (.ret true) (.ite (decide ((400:Int)<(Nat.cast (List.length s):Int))) (.ret true) (T.bind (j8 s ([48,49,50,51,52,53,54,55,56,57]:zh)) fun r=>.ret (!(zD r ([]:zh))))):T Bool).run=some true:=by
    rw[za e1,zc (decide_eq_true (by omega)),z8]
   rw[z6 hg,if_pos (.inr (.inl c2))]; rfl
  ·obtain⟨r,h1,h2⟩:=tJ s hs c1
   have hg:(.ite (zD s ([]:zh)) (.ret true) (.ite (decide ((400:Int)<(Nat.cast (List.length s):Int))) (.ret true) (T.bind (j8 s ([48,49,50,51,52,53,54,55,56,57]:zh)) fun r=>.ret (!(zD r ([]:zh))))):T Bool).run=some (!(qD s)):=by
    rw[za e1,za (decide_eq_false (by omega)),z6 h1,z8,h2]
   rw[z6 hg]
   cases hd:qD s with
   | false=>rw[if_pos (.inr (.inr rfl))]; rfl
   | true =>
    rw[if_neg (by simp[c1]; omega),za (by rfl)]
    have hL:(oZ s (s.length:Int) ([],0)).run=some (zw (qU s)):=by
     have:=wq (r:=y4 s (s.length:Int)) (fun st:List Int×Int=>∃ k:Nat,st=(zw (qU (s.take k)),(k:Int))∧k≤s.length) (fun st=>s.length-st.2.toNat) (fun _=>zw (qU s)) (fun st xh => ?_) (s:=([],0)) ⟨0,by simp[qU,qc],by omega⟩
     ·exact this
     ·obtain⟨k,rfl,hk⟩:=xh
      by_cases c:k<s.length
      ·left
       have hb:xY s[k]=true:=List.all_eq_true.1 hd _ (List.getElem_mem c)
       have ht:qD (s.take k)=true:=List.all_eq_true.2 fun x hx=>List.all_eq_true.1 hd x (List.mem_of_mem_take hx)
       have hl:=bp ht
       have Cb:(zw (qU (s.take k))).length≤500:=by rw[List.length_take]at hl; omega
       have hm:=lK (zw (qU (s.take k))) [10] (zk _) W0 (by omega) (by simp)
       rw[zI,show nv [10]=10 from rfl]at hm
       have TI:=cC (qU (s.take k)) 10
       have P0:(zw 10).length≤1:=zK.2 (by decide)
       have hd9:(zw (s[k].toNat-48)).length≤1:=zK.2 (by have:=ba.1 hb; show _<4294967296 ^ 1; omega)
       have ha:=UB (zw (qU (s.take k)*10)) (zw (s[k].toNat-48)) (zk _) (zk _) (by omega) (by omega)
       rw[zI,zI]at ha
       refine⟨(zw (qU (s.take (k+1))),((k+1:Nat):Int)),?_,⟨k+1,rfl,c⟩,by simp only[Int.toNat_natCast]; omega,rfl⟩
       unfold y4
       dsimp only
       rw[zc (pA c),z6 hm,zq (vo c),vK c,Rv 0 _ hb,z6 (yM _ (by have:=ba.1 hb; omega)),z6 ha,z8,Lh k _ c (by omega),
        List.take_succ_eq_append_getElem c,rY]
      ·have:k=s.length:=by omega
       subst this
       right
       unfold y4
       dsimp only
       rw[za (J9 _),z8,List.take_length]
    rw[z6 hL,z8]
end Go.AM.Lf
namespace Go.AM.PL
def tH(t:zh):Option (Nat×Nat) :=
 if t.takeWhile xY=[]then none else match t.dropWhile xY with
 | []=>some (qU (t.takeWhile xY),1)
 | c::q=>if q=[]∨qD q=false then none else if c=46 then some (qU (t.takeWhile xY)*10 ^ q.length+qU q,10 ^ q.length)
  else if c=47 then(if qU q=0 then none else some (qU (t.takeWhile xY),qU q))else none
theorem j5{u:zh}(h:qD u=true)(r:zh)(hr:∀ c q,r=c::q→xY c=false):(u++r).takeWhile xY=u∧(u++r).dropWhile xY=r:=by
 induction u with
 | nil =>
  cases r with
  | nil=>exact⟨rfl,rfl⟩
  | cons c q=>have:=hr c q rfl; simp[this]
 | cons b u ih =>
  rw[wF,Bool.and_eq_true]at h
  obtain⟨i1,i2⟩:=ih h.2
  simp[h.1,i1,i2]
theorem iP{u:zh}(h:qD u=true):tH u=if u=[]then none else some (qU u,1):=by
 have:=j5 h [] (fun c q z=>by cases z)
 rw[List.append_nil]at this
 unfold tH
 rw[this.1,this.2]
theorem kU{u:zh}(h:qD u=true)(c:UInt8)(q:zh)(hc:xY c=false):tH (u++c::q)=if u=[]then none else if q=[]∨qD q=false then none else if c=46 then some (qU u*10 ^ q.length+qU q,10 ^ q.length)
  else if c=47 then(if qU q=0 then none else some (qU u,qU q))else none:=by
 have:=j5 h (c::q) (fun c' q' z=>by cases z; exact hc)
 unfold tH
 rw[this.1,this.2]
theorem UD{u:zh}(h:qD u=true)(c:UInt8)(q:zh)(hc:xY c=false)(h1:c≠46)(h2:c≠47):tH (u++c::q)=none:=by
 rw[kU h c q hc,if_neg h1,if_neg h2]
 split
 ·rfl
 ·split<;>rfl
theorem fO{w:zh}(h:qD w=false):∃ u c v,w=u++c::v∧qD u=true∧xY c=false:=by
 induction w with
 | nil=>cases h
 | cons b w ih =>
  cases hb:xY b with
  | false=>exact⟨[],b,w,rfl,rfl,hb⟩
  | true =>
   rw[wF,hb,Bool.true_and]at h
   obtain⟨u,c,v,rfl,h1,h2⟩:=ih h
   exact⟨b::u,c,v,rfl,by rw[wF,hb,h1]; rfl,h2⟩
theorem JQ{c:UInt8}{s:zh}(h:c∈s):∃ w q,s=w++c::q∧c ∉ w:=by
 induction s with
 | nil=>cases h
 | cons b s ih =>
  by_cases hb:b=c
  ·subst hb; exact⟨[],s,rfl,by simp⟩
  ·obtain⟨w,q,rfl,h2⟩:=ih (by rcases List.mem_cons.1 h with h | h; exact absurd h.symm hb; exact h)
   exact⟨b::w,q,rfl,by simp[h2]; exact fun z=>hb z.symm⟩
theorem LG(c:UInt8)(w q:zh)(h:c ∉ w):tL (w++c::q) [c]=(w.length:Int):=by
 induction w with
 | nil=>simp[tL]
 | cons b w ih =>
  have hb:c≠b:=fun z=>h (by simp[z])
  have hw:=ih (fun z=>h (List.mem_cons_of_mem _ z))
  rw[List.cons_append]
  unfold tL
  rw[hw]
  have e1:List.isPrefixOf [c] (b::(w++c::q))=false:=by simp[List.isPrefixOf,hb]
  rw[e1]
  have e2:((w.length:Int) == -1)=false:=by simp
  rw[e2]
  simp
theorem CF(c:UInt8)(s:zh)(h:c ∉ s):tL s [c] = -1:=by
 induction s with
 | nil=>rfl
 | cons b w ih =>
  have hb:c≠b:=fun z=>h (by simp[z])
  unfold tL
  rw[ih (fun z=>h (List.mem_cons_of_mem _ z))]
  have e1:List.isPrefixOf [c] (b::w)=false:=by simp[List.isPrefixOf,hb]
  rw[e1]; rfl
theorem Jz(c:UInt8)(w q:zh)(h:c ∉ w):oH (w++c::q) [c]=(w,q,true):=by
 unfold oH
 rw[LG c w q h,if_pos (by omega)]
 simp
theorem Qc(c:UInt8)(s:zh)(h:c ∉ s):oH s [c]=(s,[],false):=by
 unfold oH
 rw[CF c s h,if_neg (by omega)]
theorem Wt{s:zh}{n:Nat}(h:fD s=some n):s≠[]∧s.length≤400∧qD s=true∧n=qU s:=by
 unfold fD at h
 split at h
 ·cases h
 ·rename_i hc
  cases h
  simp only[not_or]at hc
  exact⟨hc.1,by omega,by simpa using hc.2.2,rfl⟩
theorem oA{s:zh}(h1:s≠[])(h2:s.length≤400)(h3:qD s=true):fD s=some (qU s):=by
 unfold fD
 rw[if_neg (by simp[h1,h3]; omega)]
theorem eG{s:zh}(h:s=[]∨qD s=false):fD s=none:=by
 unfold fD
 rw[if_pos (by rcases h with h | h; exact .inl h; exact .inr (.inr h))]
end Go.AM.PL
namespace Go.AM.Lf
open PL
def zF:Rat:=(false,[],[],())
def nQ(s:zh):Option (Nat×Nat):=tH (ji s [45])
theorem lS(s p:zh):(ji s p).length≤s.length:=by unfold ji; split<;>simp
theorem GC(t:zh)(ht:t.length≤400)(neg:Bool) :
  (T.bind (strings_Cut t ([46]:zh)) fun(whole,part,ok) =>
   .ite ok
    (T.bind (wX part) fun(r,is) =>
     .zj (((List.length whole)+(List.length part))≤(4611686018427387904:Nat)) <|
     T.bind (wX (cat whole part)) fun(n,both) =>
     .ite ((zD whole ([]:zh))||((!is)||(!both)))
      (.ret ((false,(([]:List Int),(([]:List Int),()))),(2:Int)))
      (T.bind (mb (Nat.cast (List.length part):Int)) fun r1 =>
       T.bind (dV neg n r1) fun r2 =>
       .ret (r2,(0:Int))))
    (T.bind (strings_Cut t ([47]:zh)) fun(num,den,ok1) =>
     T.bind (wX num) fun(n1,is1) =>
     T.bind (wX (bif (!ok1)then([49]:zh)else den)) fun(d,both1) =>
     .ite ((!is1)||((!both1)||((Nat.cast (List.length d):Int)==(0:Int))))
      (.ret ((false,(([]:List Int),(([]:List Int),()))),(2:Int)))
      (T.bind (dV neg n1 d) fun r3 =>
       .ret (r3,(0:Int)))):T (Rat×Int)).run=some (match tH t with | some (n,d)=>(wK neg n d,(0:Int)) | none=>(zF,(2:Int))):=by
 have MN:∀ c:UInt8,(strings_Cut t [c]).run=some (oH t [c]):=fun c=>by
  unfold strings_Cut; rw[zq (by omega),z8]
 rw[z6 (MN 46)]
 have h46:xY 46=false:=by decide
 have h47:xY 47=false:=by decide
 by_cases c1:(46:UInt8)∈t
 ·obtain⟨w,p,rfl,hw⟩:=JQ c1
  rw[Jz 46 w p hw]
  have hl:w.length+p.length+1≤400:=by simp at ht; omega
  dsimp only
  rw[zl,z6 (gi p (by omega))]
  have Rj:=gi (cat w p) (by rw[vT]; omega)
  by_cases d1:qD w=true
  ·rw[kU d1 46 p h46]
   by_cases d2:w=[]
   ·subst d2
    rw[if_pos rfl]
    generalize fD p=o at *
    cases o<;>(dsimp only; rw[qm _ (by simp; omega),z6 Rj]; generalize fD (cat [] p)=o2; cases o2<;>rfl)
   ·rw[if_neg d2]
    by_cases d3:p=[]∨qD p=false
    ·rw[if_pos d3,eG d3]
     dsimp only
     rw[qm _ (by omega),z6 Rj]
     generalize fD (cat w p)=o2
     cases o2<;>(dsimp only; rw[zc (by simp),z8]; rfl)
    ·rw[if_neg d3,if_pos rfl]
     have d4:p≠[]:=fun z=>d3 (.inl z)
     have d5:qD p=true:=by cases h:qD p with | true=>rfl | false=>exact absurd (.inr h) d3
     have d6:qD (cat w p)=true:=by rw[gO,yq,d1,d5]; rfl
     have d7:cat w p≠[]:=by rw[gO]; simp[d2]
     rw[oA d4 (by omega) d5]
     rw[oA d7 (by rw[vT]; omega) d6]at Rj
     dsimp only at Rj ⊢
     have e1:zD w []=false:=by rw[wI]; simpa using d2
     have P0:=cQ p.length
     have hn:=bp d6
     have ho:=nV neg (zw (qU (cat w p))) (zw (10 ^ p.length)) (zk _) (zk _) (by rw[vT]at hn; omega) (by omega)
     rw[zI,zI]at ho
     rw[qm _ (by omega),z6 Rj]
     dsimp only
     rw[za (by rw[e1]; rfl),z6 (lV p.length (by omega)),z6 ho,z8,gO,pL]
  ·have d1:qD w=false:=by simpa using d1
   obtain⟨u,c,v,rfl,g1,g2⟩:=fO d1
   have O8:c≠46:=fun z=>hw (by simp[z])
   have e:tH (u++c::v++46::p)=none:=by
    rw[List.append_assoc,List.cons_append,kU g1 c _ g2]
    have:qD (v++46::p)=false:=by rw[yq,wF,h46]; simp
    rw[if_pos (show v++46::p=[]∨qD (v++46::p)=false from .inr this)]; split<;>rfl
   rw[e]
   have uq:fD (cat (u++c::v) p)=none:=eG (.inr (by rw[gO,yq,d1]; rfl))
   rw[uq]at Rj
   generalize fD p=o at *
   cases o<;>(dsimp only; rw[qm _ (by omega),z6 Rj]; dsimp only; rw[zc (by simp),z8]; rfl)
 ·rw[Qc 46 t c1]
  dsimp only
  rw[zm,z6 (MN 47)]
  have fin:∀ (num den:zh) (x:Bool),num.length≤400→den.length≤400→(T.bind (wX num) fun(n1,is1) =>
     T.bind (wX (bif (!x)then([49]:zh)else den)) fun(d,both1) =>
     .ite ((!is1)||((!both1)||((Nat.cast (List.length d):Int)==(0:Int))))
      (.ret ((false,(([]:List Int),(([]:List Int),()))),(2:Int)))
      (T.bind (dV neg n1 d) fun r3=>.ret (r3,(0:Int))):T (Rat×Int)).run =
     some (match fD num,fD (bif (!x)then([49]:zh)else den)with | some n,some d=>if d=0 then(zF,(2:Int))else(wK neg n d,(0:Int)) | _,_=>(zF,(2:Int))):=by
   intro num den x hn hd
   have L4:(bif (!x)then([49]:zh)else den).length≤400:=by cases x<;>simp[hd]
   generalize (bif (!x)then([49]:zh)else den)=dd at *
   rw[z6 (gi num (by omega))]
   have BQ:=gi dd (by omega)
   cases h1:fD num with
   | none =>
    dsimp only
    rw[z6 BQ]
    generalize fD dd=o
    cases o<;>rfl
   | some n =>
    dsimp only
    rw[z6 BQ]
    cases h2:fD dd with
    | none=>rfl
    | some d =>
     obtain⟨a1,a2,a3,rfl⟩:=Wt h1
     obtain⟨b1,b2,b3,rfl⟩:=Wt h2
     dsimp only
     have l1:=bp a3
     have l2:=bp b3
     by_cases z:qU dd=0
     ·rw[z,qc,if_pos rfl]; rfl
     ·rw[if_neg z]
      have:(zw (qU dd)).length≠0:=fun h=>z (qR.1 (List.eq_nil_of_length_eq_zero h))
      have ho:=nV neg (zw (qU num)) (zw (qU dd)) (zk _) (zk _) (by omega) (by omega)
      rw[zI,zI]at ho
      rw[za (by simp; exact fun h=>z (qR.1 h)),z6 ho,z8]
  by_cases c2:(47:UInt8)∈t
  ·obtain⟨w,q,rfl,hw⟩:=JQ c2
   rw[Jz 47 w q hw]
   have hl:w.length+q.length+1≤400:=by simp at ht; omega
   rw[fin w q true (by omega) (by omega)]
   rw[show(bif (!true)then([49]:zh)else q)=q from rfl]
   by_cases d1:qD w=true
   ·rw[kU d1 47 q h47]
    by_cases d2:w=[]
    ·rw[if_pos d2,eG (.inl d2)]
    ·rw[if_neg d2,oA d2 (by omega) d1]
     by_cases d3:q=[]∨qD q=false
     ·rw[if_pos d3,eG d3]
     ·have d4:q≠[]:=fun z=>d3 (.inl z)
      have d5:qD q=true:=by cases h:qD q with | true=>rfl | false=>exact absurd (.inr h) d3
      rw[if_neg d3,if_neg (by decide),if_pos rfl,oA d4 (by omega) d5]
      dsimp only
      split<;>rfl
   ·have d1:qD w=false:=by simpa using d1
    obtain⟨u,c,v,rfl,g1,g2⟩:=fO d1
    rw[eG (.inr d1)]
    have Pu:c≠47:=fun z=>hw (by simp[z])
    have O8:c≠46:=fun z=>c1 (by simp[z])
    rw[List.append_assoc,List.cons_append,UD g1 c _ g2 O8 Pu]
  ·rw[Qc 47 t c2]
   rw[fin t [] false ht (by simp)]
   rw[show(bif (!false)then([49]:zh)else[])=[49]from rfl]
   have h1:fD [49]=some 1:=by decide
   rw[h1]
   by_cases d1:qD t=true
   ·rw[iP d1]
    by_cases d2:t=[]
    ·rw[if_pos d2,eG (.inl d2)]
    ·rw[if_neg d2,oA d2 ht d1]; rfl
   ·have d1:qD t=false:=by simpa using d1
    rw[eG (.inr d1)]
    obtain⟨u,c,v,rfl,g1,g2⟩:=fO d1
    have Pu:c≠47:=fun z=>c2 (by simp[z])
    have O8:c≠46:=fun z=>c1 (by simp[z])
    rw[UD g1 c _ g2 O8 Pu]
theorem da(s:zh)(hs:s.length≤1000000000):(jk s).run=some (if 400<s.length then(zF,(3:Int))else match nQ s with | some (n,d)=>(wK (List.isPrefixOf [45] s) n d,(0:Int)) | none=>(zF,(2:Int))):=by
 unfold jk
 by_cases c:400<s.length
 ·rw[zc (decide_eq_true (by omega)),if_pos c,z8]; rfl
 ·have hp:(strings_CutPrefix s [45]).run=some (ji s [45],List.isPrefixOf [45] s):=rfl
  have hl:=lS s [45]
  rw[za (decide_eq_false (by omega)),if_neg c,z6 hp]
  exact GC _ (by omega) _
end Go.AM.Lf
namespace Go.AM.PL
theorem YR(t:zh):∃ u r,t=u++r∧qD u=true∧(∀ c q,r=c::q→xY c=false):=by
 induction t with
 | nil=>exact⟨[],[],rfl,rfl,fun c q h=>by cases h⟩
 | cons b t ih =>
  cases hb:xY b with
  | false=>exact⟨[],b::t,rfl,rfl,fun c q h=>by cases h; exact hb⟩
  | true =>
   obtain⟨u,r,rfl,h1,h2⟩:=ih
   exact⟨b::u,r,rfl,by rw[wF,hb,h1]; rfl,h2⟩
theorem K9{b:UInt8}:(decide ((48:Int)≤(b.toNat:Int))&&decide ((b.toNat:Int)≤57))=xY b:=by
 unfold xY
 rw[Bool.eq_iff_iff]; simp; omega
theorem GH{b:UInt8}:(decide ((b.toNat:Int)<(48:Int))||decide ((57:Int)<(b.toNat:Int))) = !(xY b):=by
 unfold xY
 rw[Bool.eq_iff_iff]; simp; omega
end Go.AM.PL
namespace Go.AM.Lf
open PL
theorem Ha{u r:zh}(hu:qD u=true)(hr:∀ c q,r=c::q→xY c=false)(hl:(u++r).length≤1000000000):(bW (u++r)).run=some (u.length:Int):=by
 have hL:(sG (u++r) 0).run=some (u.length:Int):=by
  have:=wq (r:=cA (u++r)) (fun i:Int=>∃ k:Nat,i=(k:Int)∧k≤u.length) (fun i=>u.length-i.toNat) (fun _=>(u.length:Int)) (fun i hi => ?_) (s:=0) ⟨0,rfl,by omega⟩
  ·exact this
  ·obtain⟨k,rfl,hk⟩:=hi
   unfold cA
   dsimp only
   by_cases c:k<u.length
   ·left
    have qh:k<(u++r).length:=by simp; omega
    have hg:(u++r)[k]=u[k]:=List.getElem_append_left c
    have hd:xY u[k]=true:=List.all_eq_true.1 hu _ (List.getElem_mem c)
    refine⟨((k+1:Nat):Int),?_,⟨k+1,rfl,c⟩,by simp only[Int.toNat_natCast]; omega,rfl⟩
    rw[zq (fun _=>⟨vo qh,fun _=>vo qh⟩),vK qh,hg,K9,hd,pA qh,zc (by rfl),z8,Lh k _ qh (by omega)]
   ·right
    have hk:k=u.length:=by omega
    subst hk
    cases r with
    | nil =>
     have hf:decide ((u.length:Int)<(((u++([]:zh)).length:Nat):Int))=false:=decide_eq_false (by simp)
     rw[hf,zq (fun h=>by cases h),za (by rfl),z8]
    | cons c q =>
     have qh:u.length<(u++c::q).length:=by simp
     have hg:(u++c::q)[u.length]=c:=by simp
     rw[zq (fun _=>⟨vo qh,fun _=>vo qh⟩),vK qh,hg,K9,hr c q rfl,pA qh,za (by rfl),z8]
 unfold bW
 rw[z6 hL,z8]
theorem iD{u:zh}(h1:u≠[])(h2:u.length≤400)(h3:qD u=true):(ki u).run=some (zw (qU u),true):=by
 have hL:(nt u ([],0)).run=some (.inl (zw (qU u))):=by
  have:=wq (r:=gm u) (fun st:List Int×Int=>∃ k:Nat,st=(zw (qU (u.take k)),(k:Int))∧k≤u.length) (fun st=>u.length-st.2.toNat) (fun _=>(.inl (zw (qU u)):List Int⊕Bool)) (fun st xh => ?_) (s:=([],0)) ⟨0,by simp[qU,qc],by omega⟩
  ·exact this
  ·obtain⟨k,rfl,hk⟩:=xh
   unfold gm
   dsimp only
   by_cases c:k<u.length
   ·left
    have hb:xY u[k]=true:=List.all_eq_true.1 h3 _ (List.getElem_mem c)
    have FK:=ba.1 hb
    have ht:qD (u.take k)=true:=List.all_eq_true.2 fun x hx=>List.all_eq_true.1 h3 x (List.mem_of_mem_take hx)
    have hl:=bp ht
    have Cb:(zw (qU (u.take k))).length≤500:=by rw[List.length_take]at hl; omega
    have hm:=yd (zw (qU (u.take k))) [10] (zk _) W0 (by omega) (by simp)
    rw[zI,show nv [10]=10 from rfl]at hm
    have TI:=cC (qU (u.take k)) 10
    have P0:(zw 10).length≤1:=zK.2 (by decide)
    have hd:qg (C9 ((u[k].toNat:Int)-48))=((u[k].toNat-48:Nat):Int):=by rw[Ud (by omega) (by omega),mN (by omega) (by omega)]; omega
    have ha:=fg (zw (qU (u.take k)*10)) [((u[k].toNat-48:Nat):Int)] (zk _) (by intro x hx; simp at hx; omega) (by omega) (by simp)
    rw[zI,show nv [((u[k].toNat-48:Nat):Int)]=u[k].toNat-48 by rw[yY,ZX]; omega]at ha
    refine⟨(zw (qU (u.take (k+1))),((k+1:Nat):Int)),?_,⟨k+1,rfl,c⟩,by simp only[Int.toNat_natCast]; omega,rfl⟩
    rw[zc (pA c),zq ⟨vo c,fun _=>vo c⟩,vK c,GH,hb,za (by rfl),z6 hm,zq (vo c),hd,z6 ha,z8,Lh k _ c (by omega),
     List.take_succ_eq_append_getElem c,rY]
   ·have:k=u.length:=by omega
    subst this
    right
    rw[za (J9 _),z8,List.take_length]
 have hlen:0<u.length:=List.length_pos_iff.2 h1
 have hg:(decide ((u.length:Int)<1)||decide ((400:Int)<(u.length:Int)))=false:=by rw[decide_eq_false (by omega),decide_eq_false (by omega)]; rfl
 unfold ki
 rw[za hg,z6 hL]; rfl
theorem jD:(jN 0).run=some (Lm 0):=by
 have h:=cB 0 (by omega)
 rw[qc]at h
 have h2:=cL false [] [1] kO pM (by simp) (by simp)
 rw[show nv []=0 from rfl,show nv [1]=1 from rfl,QA,sD]at h2
 unfold jN
 rw[show(bif (decide ((0:Int)<0))then(zn ((0:Int)-(zn 0)))else(zn 0))=((0:Nat):Int)from by decide,show decide ((0:Int)<0)=false from by decide,z6 h,z6 h2,z8]
theorem Fu(neg:Bool)(n:Nat):wK neg n 1=wK neg (nv (zw n)) (nv [1]):=by rw[zI]; rfl
theorem EJ(t:zh)(ht:t.length≤400)(neg:Bool) :
  (T.bind (bW t) fun k =>
   .zj (kc (0:Int) k (List.length t)) <|
   .zj (kc k (Nat.cast (List.length t):Int) (List.length t)) <|
   .ite (k==(0:Int))
    (T.bind (jN (0:Int)) fun r1 =>
     .ret (r1,(2:Int)))
    (T.bind (ki (zS (0:Int) k t)) fun(n,r2) =>
     .ite (zD (zS k (Nat.cast (List.length t):Int) t) ([]:zh))
      (T.bind (ga neg n ([(1:Int)]:List Int)) fun r3 =>
       .ret (r3,(0:Int)))
      (.zj (kc (1:Int) (Nat.cast (List.length (zS k (Nat.cast (List.length t):Int) t)):Int) (List.length (zS k (Nat.cast (List.length t):Int) t))) <|
       T.bind (bW (zS (1:Int) (Nat.cast (List.length (zS k (Nat.cast (List.length t):Int) t)):Int) (zS k (Nat.cast (List.length t):Int) t))) fun m =>
       .zj (((m==(0:Int))=false)→(((m != (zr ((Nat.cast (List.length (zS k (Nat.cast (List.length t):Int) t)):Int)-(1:Int))))=false)→((zt (0:Int) (List.length (zS k (Nat.cast (List.length t):Int) t)))∧((((zo (zS k (Nat.cast (List.length t):Int) t) (0:Int)) != (46:Int))=true)→(zt (0:Int) (List.length (zS k (Nat.cast (List.length t):Int) t))))))) <|
       .ite ((m==(0:Int))||((m != (zr ((Nat.cast (List.length (zS k (Nat.cast (List.length t):Int) t)):Int)-(1:Int))))||(((zo (zS k (Nat.cast (List.length t):Int) t) (0:Int)) != (46:Int))&&((zo (zS k (Nat.cast (List.length t):Int) t) (0:Int)) != (47:Int)))))
        (T.bind (jN (0:Int)) fun r4 =>
         .ret (r4,(2:Int)))
        (.zj (kc (1:Int) (Nat.cast (List.length (zS k (Nat.cast (List.length t):Int) t)):Int) (List.length (zS k (Nat.cast (List.length t):Int) t))) <|
         T.bind (ki (zS (1:Int) (Nat.cast (List.length (zS k (Nat.cast (List.length t):Int) t)):Int) (zS k (Nat.cast (List.length t):Int) t))) fun(x,r5) =>
         .zj (zt (0:Int) (List.length (zS k (Nat.cast (List.length t):Int) t))) <|
         .ite ((zo (zS k (Nat.cast (List.length t):Int) t) (0:Int))==(47:Int))
          (.ite ((Nat.cast (List.length x):Int)==(0:Int))
            (T.bind (jN (0:Int)) fun r6 =>
             .ret (r6,(2:Int)))
            (T.bind (ga neg n x) fun r7 =>
             .ret (r7,(0:Int))))
          (T.bind (lT m) fun t =>
           T.bind (jG n t) fun r8 =>
           T.bind (gA r8 x) fun r9 =>
           T.bind (ga neg r9 t) fun Uy =>
           .ret (Uy,(0:Int)))))):T (Rat×Int)).run=some (match tH t with | some (n,d)=>(wK neg n d,(0:Int)) | none=>(Lm 0,(2:Int))):=by
 obtain⟨u,r,rfl,h1,h2⟩:=YR t
 have hl:u.length+r.length≤400:=by simpa using ht
 have hlen:(u++r).length=u.length+r.length:=by simp
 have c1:zS 0 (u.length:Int) (u++r)=u:=by unfold zS; simp
 have c2:zS (u.length:Int) (((u++r).length:Nat):Int) (u++r)=r:=by unfold zS; rw[Int.toNat_natCast,Int.toNat_natCast,List.take_length]; simp
 rw[z6 (Ha h1 h2 (by omega)),jv _ (by omega) (by omega) (by omega),jv _ (by omega) (by omega) (by omega),c1,c2]
 by_cases d2:u=[]
 ·subst d2
  have e:tH ([]++r)=none:=by
   cases r with
   | nil=>rfl
   | cons c q=>rw[kU h1 c q (h2 c q rfl),if_pos rfl]
  rw[e,zc (by rfl),z6 jD,z8]
 ·have hu0:u.length≠0:=fun z=>d2 (List.eq_nil_of_length_eq_zero z)
  have hn:=bp h1
  rw[za (by simpa using d2),z6 (iD d2 (by omega) h1)]
  dsimp only
  cases r with
  | nil =>
   have ho:=cL neg (zw (qU u)) [1] (zk _) pM (by omega) (by simp)
   rw[← Fu]at ho
   rw[zc (by rfl),z6 ho,z8,List.append_nil,iP h1,if_neg d2]
  | cons c q =>
   have hc:=h2 c q rfl
   have hq:(c::q).length=q.length+1:=rfl
   have e1:zD (c::q) []=false:=by rw[wI]; simp
   have e2:zr (((c::q).length:Int)-1)=(q.length:Int):=by rw[hq,zJ (by omega) (by omega)]; omega
   have e3:zo (c::q) 0=(c.toNat:Int):=rfl
   obtain⟨u2,r2,rfl,k1,k2⟩:=YR q
   have cx:(u2++r2).length=u2.length+r2.length:=by simp
   rw[za e1,jv _ (by omega) (by rw[hq]; omega) (by omega),nE,z6 (Ha k1 k2 (by omega)),e2,e3,kU h1 c _ hc,if_neg d2]
   rw[zq (fun _ _=>⟨⟨by omega,by rw[hq]; omega⟩,fun _=>⟨by omega,by rw[hq]; omega⟩⟩)]
   by_cases d3:u2++r2=[]∨qD (u2++r2)=false
   ·rw[if_pos d3]
    have hg:(((u2.length:Int)==0)||(((u2.length:Int) != (((u2++r2).length:Nat):Int))||(((c.toNat:Int) != 46)&&((c.toNat:Int) != 47))))=true:=by
     rcases d3 with d3 | d3
     ·have:u2=[]:=(List.append_eq_nil_iff.1 d3).1
      subst this; rfl
     ·cases r2 with
      | nil=>rw[List.append_nil,k1]at d3; cases d3
      | cons a b=>rw[cx,show((a::b).length)=b.length+1 from rfl]; simp; omega
    rw[zc hg,z6 jD,z8]
   ·rw[if_neg d3]
    have d4:u2++r2≠[]:=fun z=>d3 (.inl z)
    have d5:qD (u2++r2)=true:=by cases h:qD (u2++r2)with | true=>rfl | false=>exact absurd (.inr h) d3
    have d6:r2=[]:=by
     cases r2 with
     | nil=>rfl
     | cons a b =>
      rw[yq,wF,k2 a b rfl]at d5; simp at d5
    subst d6
    rw[List.append_nil]at *
    have DM:u2.length≠0:=fun z=>d4 (List.eq_nil_of_length_eq_zero z)
    have hcn:∀ x:UInt8,((c.toNat:Int)==(x.toNat:Int))=decide (c=x):=fun x=>by
     by_cases z:c=x
     ·subst z; simp
     ·rw[decide_eq_false z]
      have:c.toNat≠x.toNat:=fun h=>z (UInt8.toNat_inj.1 h)
      simp; omega
    have hg:(((u2.length:Int)==0)||(((u2.length:Int) != (u2.length:Int))||(((c.toNat:Int) != 46)&&((c.toNat:Int) != 47))))=(!decide (c=46) && !decide (c=47)):=by
     have a1:((c.toNat:Int)==46)=decide (c=46):=hcn 46
     have a2:((c.toNat:Int)==47)=decide (c=47):=hcn 47
     have a3:((u2.length:Int)==0)=false:=by simp; exact d4
     rw[a3,bne_self_eq_false,Bool.false_or,Bool.false_or]
     unfold bne
     rw[a1,a2]
    rw[hg]
    have hx:=bp k1
    have hp:=iD d4 (by omega) k1
    by_cases f1:c=46
    ·rw[if_pos f1,za (by simp[f1]),jv _ (by omega) (by rw[hq]; omega) (by omega),z6 hp]
     dsimp only
     have P0:=cQ u2.length
     have hm:=VS (qU u) (10 ^ u2.length) (by omega) (by omega)
     have TI:=cC (qU u) (10 ^ u2.length)
     have ha:=WZ (qU u*10 ^ u2.length) (qU u2) (by omega) (by omega)
     have ir:=JO (qU u*10 ^ u2.length) (qU u2) 5000 (by omega) (by omega)
     have ho:=cL neg (zw (qU u*10 ^ u2.length+qU u2)) (zw (10 ^ u2.length)) (zk _) (zk _) (by omega) (by omega)
     rw[zI,zI]at ho
     rw[qi _ (by omega) (by rw[hq]; omega),za (by rw[f1]; rfl),z6 (VH _ (by omega)),z6 hm,z6 ha,z6 ho,z8]
    ·rw[if_neg f1]
     by_cases f2:c=47
     ·rw[if_pos f2,za (by simp[f2]),jv _ (by omega) (by rw[hq]; omega) (by omega),z6 hp]
      dsimp only
      rw[qi _ (by omega) (by rw[hq]; omega),zc (by rw[f2]; rfl),bq]
      by_cases z:qU u2=0
      ·rw[if_pos z,zc (decide_eq_true z),z6 jD,z8]
      ·have ho:=cL neg (zw (qU u)) (zw (qU u2)) (zk _) (zk _) (by omega) (by omega)
       rw[zI,zI]at ho
       rw[if_neg z,za (decide_eq_false z),z6 ho,z8]
     ·rw[if_neg f2,zc (by simp[f1,f2]),z6 jD,z8]
theorem QG(s:zh)(hs:s.length≤1000000000):(cd s).run=some (if 400<s.length then(Lm 0,(3:Int))else match nQ s with | some (n,d)=>(wK (List.isPrefixOf [45] s) n d,(0:Int)) | none=>(Lm 0,(2:Int))):=by
 unfold cd
 by_cases c:400<s.length
 ·rw[zc (decide_eq_true (by omega)),if_pos c,z6 jD,z8]
 ·rw[za (decide_eq_false (by omega)),if_neg c]
  have z00:((!(zD s ([]:zh)))&&((zo s (0:Int))==(45:Int)))=List.isPrefixOf [45] s:=by
   cases s with
   | nil=>rfl
   | cons b l =>
    have e1:zD (b::l) []=false:=by rw[wI]; simp
    have e2:zo (b::l) 0=(b.toNat:Int):=rfl
    rw[e1,e2]
    show(true&&_)=((45:UInt8)==b&&true)
    rw[Bool.true_and,Bool.and_true,Bool.eq_iff_iff]
    simp only[beq_iff_eq]
    constructor
    ·intro h; exact(UInt8.toNat_inj.1 (by show(45:UInt8).toNat=b.toNat; rw[show(45:UInt8).toNat=45 from rfl]; omega))
    ·intro h; subst h; rfl
  have MN:(bif ((!(zD s ([]:zh)))&&((zo s (0:Int))==(45:Int)))then(zS (1:Int) (Nat.cast (List.length s):Int) s)else s)=ji s [45]:=by
   rw[z00]
   unfold ji
   cases h:List.isPrefixOf [45] s with
   | false=>rfl
   | true =>
    cases s with
    | nil=>cases h
    | cons b l=>rw[if_pos rfl]; exact nE b l
  have hl:=lS s [45]
  have core:=EJ (ji s [45]) (by omega) (List.isPrefixOf [45] s)
  have o1:((!(zD s ([]:zh)))=true)→(zt (0:Int) (List.length s)):=fun h=>by
   cases s with
   | nil=>cases h
   | cons b l=>exact⟨by omega,by simp⟩
  have o2:(((!(zD s ([]:zh)))&&((zo s (0:Int))==(45:Int)))=true)→(kc (1:Int) (Nat.cast (List.length s):Int) (List.length s)):=fun h=>by
   cases s with
   | nil=>cases h
   | cons b l=>exact⟨by omega,by simp; omega,by omega⟩
  rw[zq o1,zq o2]
  simp only[MN]
  simp only[z00]
  exact core
end Go.AM.Lf
namespace Go.AM.PL
theorem LR(n:Nat):xY (DK n)=true∧(DK n).toNat-48=n % 10:=by
 have h:(DK n).toNat=48+n % 10:=by unfold DK; rw[UInt8.toNat_ofNat']; omega
 exact⟨ba.2 (by omega),by omega⟩
theorem Iy(n:Nat):qD (Y7 n)=true∧qU (Y7 n)=n:=by
 induction n using Nat.strongRecOn with
 | _ n ih =>
  by_cases h:n=0
  ·subst h; rw[dJ]; exact⟨rfl,rfl⟩
  ·obtain⟨h1,h2⟩:=ih (n / 10) (by omega)
   obtain⟨h3,h4⟩:=LR n
   rw[eU h]
   refine⟨by rw[yq,h1,wF,h3]; rfl,?_⟩
   rw[rY,h2,h4]; omega
theorem pV(n:Nat):qD (pr n)=true∧qU (pr n)=n:=by
 unfold pr
 split
 ·rename_i h; subst h; exact⟨by decide,by decide⟩
 ·exact Iy n
theorem Py{n:Nat}(h:n≠0):Y7 n≠[]:=by rw[eU h]; simp
theorem Ow(n:Nat):pr n≠[]:=by
 unfold pr
 split
 ·simp
 ·rename_i h; exact Py h
theorem z02(n k:Nat)(hk:1≤k)(h:n<10 ^ k):(pr n).length≤k:=by
 unfold pr
 split
 ·simpa using hk
 ·exact NW n k h
theorem Iq(k:Nat):qD (j2 [48] k)=true∧qU (j2 [48] k)=0:=by
 induction k with
 | zero=>exact⟨rfl,rfl⟩
 | succ k ih =>
  show qD ([48]++j2 [48] k)=true∧qU ([48]++j2 [48] k)=0
  rw[yq,pL,ih.1,ih.2]
  exact⟨by decide,by show 0*_+0=0; omega⟩
theorem UL{t:zh}(h:qD t=true)(hn:t≠[])(r:zh):List.isPrefixOf [45] (t++r)=false:=by
 cases t with
 | nil=>exact absurd rfl hn
 | cons b t =>
  rw[wF,Bool.and_eq_true]at h
  have hb:=ba.1 h.1
  have:(45:UInt8)≠b:=fun z=>by subst z; have e:(45:UInt8).toNat=45:=rfl; omega
  show((45:UInt8)==b&&true)=false
  rw[Bool.and_true]; exact beq_eq_false_iff_ne.2 this
end Go.AM.PL
namespace Go.AM.Lf
open PL
theorem O2(b:Bool)(t:zh)(h:List.isPrefixOf [45] t=false):List.isPrefixOf [45] (VQ b++t)=b∧ji (VQ b++t) [45]=t:=by
 unfold ji VQ
 cases b with
 | false=>rw[if_neg (by simp),List.nil_append]; exact⟨h,by rw[if_neg (by rw[h]; simp)]⟩
 | true =>
  have e:List.isPrefixOf [45] ([45]++t)=true:=by simp[List.isPrefixOf]
  rw[if_pos rfl,e]
  exact⟨rfl,by rw[if_pos rfl]; simp⟩
theorem KC(b:Bool)(t:zh)(n d:Nat)(h:List.isPrefixOf [45] t=false)(hl:t.length≤399)(hd:tH t=some (n,d)):(jk (VQ b++t)).run=some (wK b n d,0):=by
 obtain⟨h1,h2⟩:=O2 b t h
 have hs:=Z6 b
 have hlen:(VQ b++t).length≤400:=by rw[List.length_append]; omega
 rw[da _ (by omega),if_neg (by omega)]
 unfold nQ
 rw[h1,h2,hd]
theorem Jo(b:Bool)(n:Nat)(hl:(pr n).length≤399):(jk (VQ b++pr n)).run=some (wK b n 1,0):=by
 obtain⟨h1,h2⟩:=pV n
 have h3:=Ow n
 have:=UL h1 h3 []
 rw[List.append_nil]at this
 exact KC b (pr n) n 1 this hl (by rw[iP h1,if_neg h3,h2])
theorem rE(s:zh)(k:Nat)(hk:k≠0)(hs:qD s=true):∃ w p,Wf s k=w++46::p∧qD w=true∧w≠[]∧qD p=true∧p.length=k∧qU w*10 ^ k+qU p=qU s∧w.length+k=max s.length (k+1):=by
 unfold Wf
 rw[if_neg hk]
 have hr:=Iq (k+1-s.length)
 have hl:=ov (k+1-s.length)
 have hd:qD (j2 [48] (k+1-s.length)++s)=true:=by rw[yq,hr.1,hs]; rfl
 have hv:qU (j2 [48] (k+1-s.length)++s)=qU s:=by rw[pL,hr.2]; omega
 have hlen:(j2 [48] (k+1-s.length)++s).length=(k+1-s.length)+s.length:=by rw[List.length_append,hl]
 generalize j2 [48] (k+1-s.length)++s=t at *
 refine⟨t.take (t.length-k),t.drop (t.length-k),by simp,?_,?_,?_,by simp; omega,?_,by simp; omega⟩
 ·exact List.all_eq_true.2 fun x hx=>List.all_eq_true.1 hd x (List.mem_of_mem_take hx)
 ·intro z
  have:=congrArg List.length z
  simp at this; omega
 ·exact List.all_eq_true.2 fun x hx=>List.all_eq_true.1 hd x (List.mem_of_mem_drop hx)
 ·have:=pL (t.take (t.length-k)) (t.drop (t.length-k))
  rw[List.take_append_drop,hv,List.length_drop,show t.length-(t.length-k)=k by omega]at this
  exact this.symm
theorem D8(b:Bool)(n k:Nat)(hl:(pr n).length+k≤397):(jk (VQ b++Wf (pr n) k)).run=some (wK b n (10 ^ k),0):=by
 obtain⟨h1,h2⟩:=pV n
 by_cases hk:k=0
 ·subst hk
  have:Wf (pr n) 0=pr n:=by unfold Wf; rw[if_pos rfl]
  rw[this]
  exact Jo b n (by omega)
 ·obtain⟨w,p,e,a1,a2,a3,a4,a5,a6⟩:=rE (pr n) k hk h1
  rw[e]
  have hp:p≠[]:=fun z=>hk (by rw[← a4,z]; rfl)
  refine KC b _ n (10 ^ k) (UL a1 a2 _) (by simp; omega) ?_
  rw[kU a1 46 _ (by decide),if_neg a2,if_neg (by simp[hp,a3]),if_pos rfl,a4,a5,h2]
theorem I7(n k:Nat)(h:(zw n).length≤k):n<10 ^ (10*k):=by
 refine Nat.lt_of_lt_of_le (zK.1 h) ?_
 rw[Nat.pow_mul]
 exact Nat.pow_le_pow_left (by decide) k
theorem Dv(a:Rat):wK (norm a).1 (nv (norm a).2.1) (nv (norm a).2.2.1)=norm a:=DG a
theorem Cs(b:Bool)(n d m e:Nat)(hd:d≠0)(he:e≠0)(h:n*e=m*d):wK b n d=wK b m e:=by
 rw[QA,QA]
 congr 1
 rw[IL,IL,Rat.mkRat_eq_iff hd he]
 unfold sgn
 cases b with
 | false=>simp only[Bool.false_eq_true,if_false]; exact_mod_cast h
 | true=>simp only[if_true]; rw[Int.neg_mul,Int.neg_mul]; congr 1; exact_mod_cast h
theorem mH(b:Bool)(N D:Nat)(hD:D≠0):∀ (f k:Nat) (s:zh),qC b N D k f=(s,true)→∃ j,k≤j∧j<k+f∧N*10 ^ j % D=0∧s=VQ b++Wf (pr (N*10 ^ j / D)) j
 | 0,k,s,h=>by unfold qC at h; cases h
 | f+1,k,s,h=>by
  unfold qC at h
  split at h
  ·rename_i c; cases h; exact⟨k,Nat.le_refl _,by omega,c,rfl⟩
  ·obtain⟨j,h1,h2,h3,h4⟩:=mH b N D hD f (k+1) s h
   exact⟨j,by omega,by omega,h3,h4⟩
theorem JJ(v:Rat)(hv:wK v.1 (nv v.2.1) (nv v.2.2.1)=v)(hd:nv v.2.2.1≠0)(hl:(zw (nv v.2.1)).length≤16)(s:zh)(h:qC v.1 (nv v.2.1) (nv v.2.2.1) 0 61=(s,true)):(jk s).run=some (v,0):=by
 obtain⟨j,_,h2,h3,rfl⟩:=mH _ _ _ hd _ _ _ h
 have hN:=I7 _ _ hl
 have hq:nv v.2.1*10 ^ j / nv v.2.2.1<10 ^ (160+j):=by
  refine Nat.lt_of_le_of_lt (Nat.div_le_self _ _) ?_
  rw[Nat.pow_add]
  exact Nat.mul_lt_mul_of_pos_right hN (Nat.pow_pos (by omega))
 have hp:=z02 _ (160+j) (by omega) hq
 rw[D8 _ _ j (by omega)]
 have:wK v.1 (nv v.2.1*10 ^ j / nv v.2.2.1) (10 ^ j)=wK v.1 (nv v.2.1) (nv v.2.2.1):=by
  refine Cs _ _ _ _ _ (Nat.pos_iff_ne_zero.1 (Nat.pow_pos (by omega))) hd ?_
  rw[Nat.div_mul_cancel (Nat.dvd_of_mod_eq_zero h3)]
 rw[this,hv]
theorem LI{t:zh}{n d:Nat}(h:tH t=some (n,d)):n<10 ^ t.length∧d≤10 ^ t.length:=by
 obtain⟨u,r,rfl,h1,h2⟩:=YR t
 have hu:=VW h1
 cases r with
 | nil =>
  rw[List.append_nil,iP h1]at h
  split at h
  ·cases h
  ·cases h
   rw[List.append_nil]
   exact⟨hu,Nat.one_le_pow _ _ (by omega)⟩
 | cons c q =>
  rw[kU h1 c q (h2 c q rfl)]at h
  have hl:(u++c::q).length=u.length+q.length+1:=by simp; omega
  have mono:∀ {a b:Nat},a≤b→10 ^ a≤10 ^ b:=fun h=>Nat.pow_le_pow_right (by omega) h
  split at h
  ·cases h
  ·split at h
   ·cases h
   ·rename_i hq
    have hd:qD q=true:=by cases hh:qD q with | true=>rfl | false=>exact absurd (.inr hh) hq
    have TF:=VW hd
    rw[hl]
    split at h
    ·cases h
     refine⟨?_,mono (by omega)⟩
     have e:10 ^ (u.length+q.length)≤10 ^ (u.length+q.length+1):=mono (by omega)
     rw[Nat.pow_add]at e
     have:(qU u+1)*10 ^ q.length≤10 ^ u.length*10 ^ q.length:=Nat.mul_le_mul_right _ hu
     rw[Nat.add_mul,Nat.one_mul]at this
     omega
    ·split at h
     ·split at h
      ·cases h
      ·cases h
       have e1:10 ^ u.length≤10 ^ (u.length+q.length+1):=mono (by omega)
       have e2:10 ^ q.length≤10 ^ (u.length+q.length+1):=mono (by omega)
       omega
     ·cases h
theorem TE:10 ^ 400<4294967296 ^ 42:=by decide +kernel
theorem FV{n k:Nat}(h:n≤10 ^ k)(hk:k≤400):(zw n).length≤42 :=
 zK.2 (Nat.lt_of_le_of_lt (Nat.le_trans h (Nat.pow_le_pow_right (by omega) hk)) TE)
theorem Kf{s:zh}{n d:Nat}(neg:Bool)(hs:s.length≤400)(h:nQ s=some (n,d)):yG 50 (wK neg n d):=by
 have hl:=lS s [45]
 obtain⟨h1,h2⟩:=LI h
 exact BW _ _ _ _ (by omega) (Nat.le_trans (FV (by omega) (by omega:(ji s [45]).length≤400)) (by omega)) (Nat.le_trans (FV h2 (by omega)) (by omega))
theorem lB{α:Type}{l:List α}{k:Nat}(h:k<l.length)(d:α):nth l (k:Int) d=l[k]:=by simp[nth,h]
def ru(b:UInt8):Bool:=decide (97≤(b.toNat:Int))&&decide ((b.toNat:Int)≤122)
def qT(b:UInt8):Bool:=ru b||((decide (48≤(b.toNat:Int))&&decide ((b.toNat:Int)≤57))||((b.toNat:Int)==95))
def ui(s:zh):Bool:=match s with | []=>false | b::_=>decide (s.length≤24)&&(ru b&&s.all qT)
theorem lG(b:UInt8):(wO (b.toNat:Int)).run=some (qT b):=by
 have h1:(wi (b.toNat:Int)).run=some (ru b):=rfl
 have h2:(xw (b.toNat:Int)).run=some (decide (48≤(b.toNat:Int))&&decide ((b.toNat:Int)≤57)):=rfl
 unfold wO qT
 rw[z6 h1]
 cases ru b with
 | true=>rw[zl,z8]; rfl
 | false =>
  rw[zm,z6 h2]
  cases(decide (48≤(b.toNat:Int))&&decide ((b.toNat:Int)≤57))with
  | true=>rw[zl,z8]; rfl
  | false=>rw[zm,z8]; rfl
theorem Ed(s:zh):(mA s).run=some (ui s):=by
 unfold mA
 cases s with
 | nil=>rfl
 | cons b r =>
  have e0:zD (b::r) []=false:=by rw[wI]; simp
  rw[e0]
  by_cases c:24<(b::r).length
  ·have:(T.ite false (.ret true) (.ite (decide ((24:Int)<((b::r).length:Int))) (.ret true) (.zj (zt (0:Int) (List.length (b::r)))<|T.bind (wi (zo (b::r) (0:Int))) fun r=>.ret (!r))):T Bool).run=some true:=by
    rw[zm,zc (decide_eq_true (by omega)),z8]
   rw[z6 this,zl,z8]
   unfold ui
   rw[decide_eq_false (by omega)]; rfl
  ·have hb:zo (b::r) (0:Int)=(b.toNat:Int):=vK (s:=b::r) (k:=0) (by simp)
   have h1:(wi (b.toNat:Int)).run=some (ru b):=rfl
   have:(T.ite false (.ret true) (.ite (decide ((24:Int)<((b::r).length:Int))) (.ret true) (.zj (zt (0:Int) (List.length (b::r)))<|T.bind (wi (zo (b::r) (0:Int))) fun r=>.ret (!r))):T Bool).run=some (!ru b):=by
    rw[zm,za (decide_eq_false (by omega)),zq (by refine⟨by omega,?_⟩; simp only[List.length_cons]; omega),hb,z6 h1,z8]
   rw[z6 this]
   unfold ui
   dsimp only
   rw[decide_eq_true (by omega),Bool.true_and]
   cases ru b with
   | false=>rw[zc (by rfl),z8]; rfl
   | true =>
    rw[za (by rfl),Bool.true_and]
    have key:(ri (b::r) ((b::r).length:Int) 0).run=some (if(b::r).all qT=true then .inl ()else .inr false):=by
     refine T.Wo (r:=jg (b::r) ((b::r).length:Int)) (b::r) (0:UInt8) (fun(_:Unit) i=>i) (fun _ _=>True) (fun l _=>(if l.all qT=true then .inl ()else .inr false:Unit⊕Bool)) (fun k _ x xs hk hx hm hd hI => ?_) (fun _ _ => ?_) (b:=()) trivial
     ·have hxk:(b::r)[k]=x:=by rw[← hx]; unfold nth; rw[Int.toNat_natCast,List.getD_eq_getElem?_getD,List.getElem?_eq_getElem hk]; rfl
      have Sw:zo (b::r) (k:Int)=(x.toNat:Int):=by rw[vK hk,hxk]
      cases Xr:qT x with
      | true =>
       left
       refine⟨(),?_,trivial,?_⟩
       ·unfold jg
        rw[zc (pA hk),zq (vo hk),Sw,z6 (lG x),Xr,za (by rfl),z8,Lh k _ hk (by omega)]
       ·rw[List.all_cons,Xr,Bool.true_and]
      | false =>
       right
       unfold jg
       rw[zc (pA hk),zq (vo hk),Sw,z6 (lG x),Xr,zc (by rfl),z8,List.all_cons,Xr]
       rfl
     ·unfold jg
      rw[za (J9 _),z8]; rfl
    rw[z6 key]
    cases h:(b::r).all qT with
    | true=>rfl
    | false=>rfl
mutual
/-- What an expression weighs. -/
def hJ:Expr→Nat
 | .mk _ n s l=>3+s.length+8*n.2.1.length+8*n.2.2.1.length+szEs l
def szEs:List Expr→Nat
 | []=>0
 | e::r=>hJ e+szEs r
end
mutual
theorem L5:∀ (e:Expr) (left:Int),0≤wtE e left→wtE e left=left-hJ e
 | .mk _ n s l,left,h=>by
  have:=BN l (left-3-s.length-8*n.2.1.length-8*n.2.2.1.length)
  simp only[wtE,hJ]at h ⊢
  rw[this h]; omega
theorem BN:∀ (l:List Expr) (left:Int),0≤wtEs l left→wtEs l left=left-szEs l
 | [],left,h=>by simp[wtEs,szEs]
 | e::r,left,h=>by
  have h1:=L5 e left
  have h2:=BN r (wtE e left)
  have h3:=(U2 r (wtE e left)).1
  by_cases c:0≤left
  ·simp only[wtEs,szEs,if_pos c]at h ⊢
   rw[h2 h,h1 (by omega)]; omega
  ·simp only[wtEs,if_neg c]at h; omega
end
def trimB(l:List Int):Bool:=zw (nv l)==l
def eK(a:Rat):Bool:=trimB a.2.1&&(trimB a.2.2.1&&(!(nv a.2.2.1==0)&&(!(a.1&&(nv a.2.1==0))&&(Nat.gcd (nv a.2.1) (nv a.2.2.1)==1))))
theorem uv{l:List Int}(h:zp l):trimB l=true↔sW l:=by
 unfold trimB
 constructor
 ·intro e
  have e:zw (nv l)=l:=by simpa using e
  rw[← e]; exact mD _
 ·intro ht
  rw[nI h ht]; simp
theorem Zn(l:List Int)(h:zp l)(hl:l.length≤1000000000):(bQ l).run=some (trimB l):=by
 unfold bQ
 cases l with
 | nil =>
  rw[zq (fun h=>by simp at h),z8]
  have e:trimB []=true:=by unfold trimB; rw[show nv []=0 from rfl,qc]; rfl
  rw[e]; rfl
 | cons x r =>
  obtain⟨n,hn⟩:∃ n,(x::r).length=n+1:=⟨r.length,rfl⟩
  have ew:zr (((x::r).length:Int)-1)=(n:Int):=by rw[hn,zJ (by omega) (by omega)]; omega
  have B9:n<(x::r).length:=by omega
  have e0:(((x::r).length:Int)==0)=false:=by rw[hn]; simp; omega
  have hg:(x::r).getLast? = some ((x::r)[n]):=by
   rw[List.getLast?_eq_getElem?,hn,Nat.add_sub_cancel,List.getElem?_eq_getElem B9]
  rw[zq (fun _=>by rw[ew]; exact vo B9),z8,ew,lB B9,e0,Bool.false_or]
  congr 1
  cases hq:((x::r)[n] != 0)with
  | true =>
   symm
   rw[uv h]
   intro y hy
   rw[hg]at hy
   cases hy
   simpa using hq
  | false =>
   symm
   rw[Bool.eq_false_iff]
   intro ht
   have:=(uv h).1 ht _ hg
   simp at hq
   exact this hq
theorem Zm(a:Rat)(h:yG 100000000 a):(rK a).run=some (eK a):=by
 obtain⟨h1,h2,h3,h4⟩:=h
 unfold rK eK
 have n1:=Zn a.2.1 h1 (by omega)
 have n2:=Zn a.2.2.1 h2 (by omega)
 have hzD:trimB a.2.2.1=true→(((a.2.2.1.length:Int))==0)=(nv a.2.2.1==0):=fun ht=>by
  have e:zw (nv a.2.2.1)=a.2.2.1:=nI h2 ((uv h2).1 ht)
  conv=>lhs; rw[← e]
  rw[bq]
  cases q:decide (nv a.2.2.1=0)<;>simp_all
 have hzN:trimB a.2.1=true→(((a.2.1.length:Int))==0)=(nv a.2.1==0):=fun ht=>by
  have e:zw (nv a.2.1)=a.2.1:=nI h1 ((uv h1).1 ht)
  conv=>lhs; rw[← e]
  rw[bq]
  cases q:decide (nv a.2.1=0)<;>simp_all
 have hg:=sO a.2.1 a.2.2.1 h1 h2 (by omega) (by omega)
 have sF:(yR 1).run=some (zw 1):=yM 1 (by omega)
 have hc:∀ g:Nat,(zw g).length≤100000001→(mo (zw g) (zw 1)).run=some (nB g 1):=fun g hl=>by
  have:=sy (zw g) (zw 1) (zk _) (zk _) (by omega) (by rw[mc]; simp)
  rwa [zI,zI]at this
 have head:∀ b:Bool,((T.bind (bQ a.2.1) fun r=>.ite (!r) (.ret true) (T.bind (bQ a.2.2.1) fun r1=>.ite (!r1) (.ret true) (.ite ((a.2.2.1.length:Int)==(0:Int)) (.ret true) (.ite a.1 (.ret ((a.2.1.length:Int)==(0:Int))) (.ret false))))):T Bool).run =
   some (!(trimB a.2.1&&(trimB a.2.2.1&&(!(nv a.2.2.1==0) && !(a.1&&(nv a.2.1==0)))))):=fun _=>by
  rw[z6 n1]
  cases t1:trimB a.2.1 with
  | false=>rfl
  | true =>
   rw[za (by rfl),z6 n2]
   cases t2:trimB a.2.2.1 with
   | false=>rfl
   | true =>
    rw[za (by rfl),hzD t2]
    cases nv a.2.2.1==0 with
    | true=>rfl
    | false =>
     rw[zm,hzN t1]
     cases a.1 with
     | true=>rw[zl,z8]; cases nv a.2.1==0<;>rfl
     | false=>rfl
 rw[z6 (head true)]
 cases hb:(trimB a.2.1&&(trimB a.2.2.1&&(!(nv a.2.2.1==0) && !(a.1&&(nv a.2.1==0)))))with
 | false =>
  rw[zc (by rfl),z8]
  congr 1
  generalize (Nat.gcd (nv a.2.1) (nv a.2.2.1)==1)=g
  revert hb
  cases trimB a.2.1<;>cases trimB a.2.2.1<;>cases(nv a.2.2.1==0)<;>cases a.1<;>cases(nv a.2.1==0)<;>simp
 | true =>
  rw[za (by rfl),z6 hg,z6 sF]
  have hle:(zw (Nat.gcd (nv a.2.1) (nv a.2.2.1))).length≤100000001:=by
   simp only[Bool.and_eq_true,Bool.not_eq_true',beq_eq_false_iff_ne]at hb
   have hd:0<nv a.2.2.1:=Nat.pos_of_ne_zero hb.2.2.1
   have m1:=Zk (Nat.gcd_le_right (nv a.2.1) hd)
   have m2:=zR h2
   omega
  rw[z6 (hc _ hle),z8]
  congr 1
  have hgc:(nB (Nat.gcd (nv a.2.1) (nv a.2.2.1)) 1==0)=(Nat.gcd (nv a.2.1) (nv a.2.2.1)==1):=by
   generalize Nat.gcd (nv a.2.1) (nv a.2.2.1)=g
   unfold nB
   by_cases q1:g<1
   ·rw[if_pos q1]; simp; omega
   ·by_cases q2:1<g
    ·rw[if_neg q1,if_pos q2]; simp; omega
    ·have:g=1:=by omega
     subst this; rfl
  rw[hgc]
  revert hb
  generalize (Nat.gcd (nv a.2.1) (nv a.2.2.1)==1)=g
  cases trimB a.2.1<;>cases trimB a.2.2.1<;>cases(nv a.2.2.1==0)<;>cases a.1<;>cases(nv a.2.1==0)<;>simp
def yf(a:Rat):Bool:=decide (16<(norm a).2.1.length)||decide (16<(norm a).2.2.1.length)
theorem Xq(a:Rat)(h:yG 100000000 a):(dh a).run=some (yf a):=by
 unfold dh yf
 rw[z6 (JV a h),z8]
 congr 2
 ·exact decide_eq_decide.2 (by omega)
 ·exact decide_eq_decide.2 (by omega)
def uH(a:Rat):Bool:=eK a&&(!a.1&&(!yf a&&(qC (norm a).1 (nv (norm a).2.1) (nv (norm a).2.2.1) 0 61).2))
def xT(a:Rat):Bool := !a.1&&(a.2.1.isEmpty&&(a.2.2.1.isEmpty||eK a))
def fR(k:Int):Int:=if k=1∨k=2 then 0 else if k=7 then 1 else if k=3∨k=4∨k=5∨k=6 then 2 else -1
def jM(e:Expr):Bool:=((e.kids.length:Int)==fR e.kind)&&(if e.kind=1 then uH e.num&&zD e.name []else if e.kind=2 then xT e.num&&ui e.name else xT e.num&&zD e.name [])
mutual
def wo:Expr→Nat
 | .mk _ _ _ l=>1+vA l
def vA:List Expr→Nat
 | []=>0
 | e::r=>wo e+vA r
end
mutual
def uI(deep:Nat):Expr→Bool
 | .mk k n s l=>decide (deep<32)&&(jM (.mk k n s l)&&kQ (deep+1) l)
def kQ(deep:Nat):List Expr→Bool
 | []=>true
 | e::r=>uI deep e&&kQ deep r
end
theorem rl:∀ (l:List Expr),l.length≤vA l
 | []=>Nat.le_refl _
 | .mk _ _ _ k::r=>by
  have:=rl r
  unfold vA wo
  simp only[List.length_cons]; omega
theorem iO{e:Expr}:∀ {l:List Expr},e∈l→wo e≤vA l
 | [],h=>by cases h
 | x::r,h=>by
  unfold vA
  rcases List.mem_cons.1 h with rfl | h
  ·omega
  ·have:=iO h; omega
mutual
theorem Qo:∀ (e:Expr),3*wo e≤hJ e
 | .mk k n s l=>by
  have:=Bv l
  unfold wo hJ
  omega
theorem Bv:∀ (l:List Expr),3*vA l≤szEs l
 | []=>Nat.le_refl _
 | e::r=>by
  have h1:=Qo e
  have h2:=Bv r
  unfold vA szEs
  omega
end
def jt(a:Rat):Prop:=yG 100 a
mutual
def allOk:Expr→Prop
 | .mk _ n _ l=>jt n∧allOks l
def allOks:List Expr→Prop
 | []=>True
 | e::r=>allOk e∧allOks r
end
theorem dX{l:List Expr}(h:allOks l):∀ e∈l,allOk e:=by
 induction l with
 | nil=>intro e he; cases he
 | cons x r ih =>
  intro e he
  rcases List.mem_cons.1 he with rfl | he
  ·exact h.1
  ·exact ih h.2 e he
mutual
theorem UK:∀ (e:Expr),wfE e→hJ e≤800→allOk e
 | .mk k n s l,hw,hs=>by
  unfold hJ at hs
  have hw':wf pW (Expr.mk k n s l).DE:=(BB _).2 hw
  obtain⟨_,hn,_,hl,_⟩:=hw'
  obtain⟨r1,r2⟩:=RM hn
  have r1:zp n.2.1:=r1
  have r2:zp n.2.2.1:=r2
  refine⟨⟨r1,r2,by omega,by omega⟩,Wg l (fun e he=>hl e he) (by omega)⟩
theorem Wg:∀ (l:List Expr),(∀ e∈l,wfE e)→szEs l≤800→allOks l
 | [],_,_=>trivial
 | e::r,hw,hs=>by
  unfold szEs at hs
  exact⟨UK e (hw e List.mem_cons_self) (by omega),Wg r (fun x hx=>hw x (List.mem_cons_of_mem _ hx)) (by omega)⟩
end
theorem GL(a:Rat)(h:jt a):(gC a).run=some (xT a):=by
 unfold gC xT
 have hr:=Zm a (dF h (by omega))
 have e:∀ l:List Int,(((l.length:Int))==0)=l.isEmpty:=fun l=>by cases l<;>simp; omega
 rw[e,e]
 cases a.1 with
 | true=>rfl
 | false =>
  rw[zc (by rfl)]
  cases a.2.1.isEmpty with
  | false=>rfl
  | true =>
   rw[zl]
   cases a.2.2.1.isEmpty with
   | true=>rfl
   | false=>rw[zm,z6 hr,z8]; rfl
theorem CI(a:Rat)(h:jt a):(ep a).run=some (uH a):=by
 unfold ep uH
 have hr:=Zm a (dF h (by omega))
 have hl:=Xq a (dF h (by omega))
 have he:=nm a (dF h (by omega))
 have head:((T.bind (rK a) fun r=>.ite (!r) (.ret true) (.ite a.1 (.ret true) (T.bind (dh a) fun r1=>.ret r1))):T Bool).run=some (!(eK a&&(!a.1 && !yf a))):=by
  rw[z6 hr]
  cases eK a with
  | false=>rfl
  | true =>
   rw[za (by rfl)]
   cases a.1 with
   | true=>rfl
   | false=>rw[zm,z6 hl,z8]; simp
 rw[z6 head]
 cases q:(eK a&&(!a.1 && !yf a))with
 | false =>
  rw[zc (by rfl),z8]
  congr 1
  revert q
  cases eK a<;>cases a.1<;>cases yf a<;>simp
 | true =>
  rw[za (by rfl),z6 he]
  generalize qC (norm a).1 (nv (norm a).2.1) (nv (norm a).2.2.1) 0 61=x
  obtain⟨x1,x2⟩:=x
  dsimp only
  rw[z8]
  congr 1
  revert q
  cases eK a<;>cases a.1<;>cases yf a<;>simp
theorem L1(k:Int):(mR k).run=some (fR k):=by
 unfold mR fR
 by_cases h1:k=1
 ·subst h1; rfl
 by_cases h2:k=2
 ·subst h2; rfl
 by_cases h7:k=7
 ·subst h7; rfl
 by_cases h3:k=3
 ·subst h3; rfl
 by_cases h4:k=4
 ·subst h4; rfl
 by_cases h5:k=5
 ·subst h5; rfl
 by_cases h6:k=6
 ·subst h6; rfl
 ·simp[h1,h2,h3,h4,h5,h6,h7]
theorem YP(e:Expr)(h:jt e.num):(gp e).run=some (jM e):=by
 unfold gp jM
 rw[z6 (L1 _)]
 have hN:=CI e.num h
 have h0:=GL e.num h
 have hn:=Ed e.name
 cases q:((e.kids.length:Int)==fR e.kind)with
 | false=>rw[zc (by rw[bne,q]; rfl),z8]; rfl
 | true =>
  rw[za (by rw[bne,q]; rfl),Bool.true_and]
  by_cases h1:e.kind=1
  ·rw[if_pos h1,zc (by rw[h1]; rfl),z6 hN]
   cases uH e.num with
   | true=>rw[zl,z8]; rfl
   | false=>rw[zm,z8]; rfl
  ·rw[if_neg h1,za (by simpa using h1)]
   by_cases h2:e.kind=2
   ·rw[if_pos h2,zc (by rw[h2]; rfl),z6 h0]
    cases xT e.num with
    | true=>rw[zl,z6 hn,z8]; rfl
    | false=>rw[zm,z8]; rfl
   ·rw[if_neg h2,za (by simpa using h2),z6 h0]
    cases xT e.num with
    | true=>rw[zl,z8]; rfl
    | false=>rw[zm,z8]; rfl
def dd(acc:List zh)(xs:List zh):List zh:=xs.foldl (fun b x=>if x∈b then b else b++[x]) acc
theorem Ga{s:zh}(h:ui s=true):s.length≤24∧s.all qT=true:=by
 cases s with
 | nil=>cases h
 | cons b r =>
  unfold ui at h
  simp only[Bool.and_eq_true,decide_eq_true_eq]at h
  exact⟨h.1,h.2.2⟩
theorem XD(s:zh):(dr s).run=some (ui s):=by
 have hL:∀ b:UInt8,(xH (b.toNat:Int)).run=some (ru b):=fun _=>rfl
 have hD:∀ b:UInt8,(vf (b.toNat:Int)).run=some (decide (48≤(b.toNat:Int))&&decide ((b.toNat:Int)≤57)):=fun _=>rfl
 unfold dr
 cases s with
 | nil=>rfl
 | cons b r =>
  by_cases c:24<(b::r).length
  ·have:(T.ite (decide (((b::r).length:Int)<(1:Int))) (.ret true) (.ite (decide ((24:Int)<((b::r).length:Int))) (.ret true) (.zj (zt (0:Int) (List.length (b::r)))<|T.bind (xH (zo (b::r) (0:Int))) fun r=>.ret (!r))):T Bool).run=some true:=by
    rw[za (decide_eq_false (by omega)),zc (decide_eq_true (by omega)),z8]
   rw[z6 this,zl,z8]
   unfold ui
   rw[decide_eq_false (by omega)]; rfl
  ·have hb:zo (b::r) (0:Int)=(b.toNat:Int):=vK (s:=b::r) (k:=0) (by simp)
   have:(T.ite (decide (((b::r).length:Int)<(1:Int))) (.ret true) (.ite (decide ((24:Int)<((b::r).length:Int))) (.ret true) (.zj (zt (0:Int) (List.length (b::r)))<|T.bind (xH (zo (b::r) (0:Int))) fun r=>.ret (!r))):T Bool).run=some (!ru b):=by
    rw[za (decide_eq_false (by simp only[List.length_cons]; omega)),za (decide_eq_false (by omega)),zq (by refine⟨by omega,?_⟩; simp only[List.length_cons]; omega),hb,z6 (hL b),z8]
   rw[z6 this]
   unfold ui
   dsimp only
   rw[decide_eq_true (by omega),Bool.true_and]
   cases hbl:ru b with
   | false=>rw[zc (by rfl),z8]; rfl
   | true =>
    rw[za (by rfl),Bool.true_and]
    have hbi:qT b=true:=by unfold qT; rw[hbl]; rfl
    have key:(ot (b::r) 1).run=some (if r.all qT=true then .inl ()else .inr false):=by
     have EK:=wq (r:=jj (b::r)) (fun i=>∃ k:Nat,i=((k+1:Nat):Int)∧k≤r.length) (fun i=>((b::r).length:Int).toNat-i.toNat) (fun i=>if(r.drop (i.toNat-1)).all qT=true then .inl ()else .inr false) (fun i hi => ?_) (s:=1) ⟨0,rfl,by omega⟩
     ·exact EK
     ·obtain⟨k,rfl,hk⟩:=hi
      have ek:((k+1:Nat):Int).toNat-1=k:=by omega
      by_cases q:k<r.length
      ·have hq:k+1<(b::r).length:=by simp only[List.length_cons]; omega
       have Sw:zo (b::r) ((k+1:Nat):Int)=(r[k].toNat:Int):=by rw[vK hq]; rfl
       have Ot:r.drop k=r[k]::r.drop (k+1):=List.drop_eq_getElem_cons q
       have Xr:((.zj (zt ((k+1:Nat):Int) (List.length (b::r)))<|T.bind (xH (zo (b::r) ((k+1:Nat):Int))) fun r1 =>
         .ite (!r1) (.zj (zt ((k+1:Nat):Int) (List.length (b::r)))<|T.bind (vf (zo (b::r) ((k+1:Nat):Int))) fun r2 =>
           .ite (!r2) (.zj (zt ((k+1:Nat):Int) (List.length (b::r)))<|.ret ((zo (b::r) ((k+1:Nat):Int)) != (95:Int))) (.ret false)) (.ret false)):T Bool).run=some (!qT r[k]):=by
        rw[zq (vo hq),Sw,z6 (hL _)]
        unfold qT
        cases ru r[k]with
        | true=>rfl
        | false =>
         rw[zc (by rfl),zq (vo hq),z6 (hD _)]
         cases(decide (48≤(r[k].toNat:Int))&&decide ((r[k].toNat:Int)≤57))with
         | true=>rfl
         | false=>rw[zc (by rfl),zq (vo hq),z8]; rfl
       cases Sj:qT r[k]with
       | true =>
        left
        refine⟨((k+1+1:Nat):Int),?_,⟨k+1,rfl,q⟩,by simp only[List.length_cons]; omega,?_⟩
        ·unfold jj
         rw[zc (pA hq),z6 Xr,Sj,za (by rfl),z8,Lh (k+1) _ hq (by omega)]
        ·rw[ek,Ot,List.all_cons,Sj,Bool.true_and,show((k+1+1:Nat):Int).toNat-1=k+1 by omega]
       | false =>
        right
        unfold jj
        rw[zc (pA hq),z6 Xr,Sj,zc (by rfl),z8,ek,Ot,List.all_cons,Sj]
        rfl
      ·right
       have yF:k=r.length:=by omega
       unfold jj
       rw[za (decide_eq_false (by simp only[List.length_cons]; omega)),z8,ek,yF,List.drop_length]; rfl
    rw[z6 key,List.all_cons,hbi,Bool.true_and]
    cases h:r.all qT with
    | true=>rfl
    | false=>rfl
theorem z4J(a b:Rat):((a.1==b.1)&&((a.2.1==b.2.1)&&(a.2.2.1==b.2.2.1)))=true↔a=b:=by
 obtain⟨a1,a2,a3,⟨⟩⟩:=a
 obtain⟨b1,b2,b3,⟨⟩⟩:=b
 simp only[Bool.and_eq_true,beq_iff_eq,Prod.mk.injEq,and_true]
theorem K8(a:Rat)(h1:zp a.2.1)(h2:zp a.2.2.1):eK a=true↔norm a=a:=by
 unfold eK norm
 obtain⟨b,N,D,⟨⟩⟩:=a
 dsimp only at h1 h2 ⊢
 simp only[Bool.and_eq_true,Bool.not_eq_true',beq_eq_false_iff_ne,beq_iff_eq,Bool.and_eq_false_imp]
 constructor
 ·rintro⟨t1,t2,hd,hn,hg⟩
  have eN:zw (nv N)=N:=nI h1 ((uv h1).1 t1)
  have eD:zw (nv D)=D:=nI h2 ((uv h2).1 t2)
  unfold wK
  by_cases c:nv N=0
  ·rw[if_pos (.inl c)]
   rw[c,Nat.gcd_zero_left]at hg
   rw[c,qc]at eN
   rw[hg,mc]at eD
   cases b with
   | true=>exact absurd c (hn rfl)
   | false=>rw[← eN,← eD]
  ·rw[if_neg (by rintro(h | h); exact c h; exact hd h),hg,Nat.div_one,Nat.div_one,eN,eD]
 ·intro e
  unfold wK at e
  by_cases c:nv N=0∨nv D=0
  ·rw[if_pos c]at e
   simp only[Prod.mk.injEq,and_true]at e
   obtain⟨rfl,rfl,rfl⟩:=e
   refine⟨by rw[uv h1]; exact so,?_,by decide,by simp,by decide⟩
   rw[uv h2,← mc]; exact mD _
  ·rw[if_neg c]at e
   simp only[Prod.mk.injEq,and_true,true_and]at e
   obtain⟨e1,e2⟩:=e
   simp only[not_or]at c
   have v1:nv N=nv N / Nat.gcd (nv N) (nv D):=by conv=>lhs; rw[← e1,zI]
   refine⟨by rw[uv h1,← e1]; exact mD _,by rw[uv h2,← e2]; exact mD _,c.2,fun _=>c.1,?_⟩
   have hp:0<nv N:=Nat.pos_of_ne_zero c.1
   by_cases g:Nat.gcd (nv N) (nv D)=1
   ·exact g
   ·have SO:0<Nat.gcd (nv N) (nv D):=Nat.gcd_pos_of_pos_left _ hp
    have:=Nat.div_lt_self hp (by omega:1<Nat.gcd (nv N) (nv D))
    omega
theorem dU(a b:List Int)(la:a.length≤1000000000):(ko a b).run=some (a==b):=by
 unfold ko
 by_cases hlen:a.length=b.length
 ·have key:(dc a b 0).run=some (if a=b then .inl ()else .inr false):=by
   have h:=wq (r:=uA a b) (fun i=>∃ k:Nat,i=(k:Int)∧k≤a.length) (fun i=>a.length-i.toNat) (fun i=>if a.drop i.toNat=b.drop i.toNat then .inl ()else .inr false) (fun i hi => ?_) (s:=0) ⟨0,rfl,by omega⟩
   ·unfold dc; simpa using h
   ·obtain⟨k,rfl,hk⟩:=hi
    by_cases c:k<a.length
    ·have cb:k<b.length:=by omega
     have ea:a.drop k=a[k]::a.drop (k+1):=List.drop_eq_getElem_cons c
     have eb:b.drop k=b[k]::b.drop (k+1):=List.drop_eq_getElem_cons cb
     have ek:((k:Nat):Int).toNat=k:=rfl
     have z0D:(a.drop k=b.drop k)↔(a[k]=b[k]∧a.drop (k+1)=b.drop (k+1)):=by rw[ea,eb,List.cons.injEq]
     have ek1:((k+1:Nat):Int).toNat=k+1:=rfl
     by_cases q:a[k]=b[k]
     ·left
      refine⟨((k+1:Nat):Int),?_,⟨k+1,rfl,c⟩,by omega,?_⟩
      ·unfold uA
       rw[zc (pA c),zq (vo c),zq (vo cb),lB c,lB cb,za (by simp[q]),z8,Lh k _ c (by omega)]
      ·simp only[ek,ek1,z0D,q,true_and]
     ·right
      unfold uA
      rw[zc (pA c),zq (vo c),zq (vo cb),lB c,lB cb,zc (by simp[q]),z8,ek,if_neg (by rw[z0D]; exact fun h=>q h.1)]
    ·right
     have yF:k=a.length:=by omega
     unfold uA
     rw[za (decide_eq_false (by omega)),z8,yF]
     simp[hlen]
  rw[za (by rw[hlen]; simp),z6 key]
  by_cases e:a=b
  ·rw[if_pos e,e]; simp
  ·rw[if_neg e]
   have:(a==b)=false:=by simpa using e
   rw[this]; rfl
 ·have e:(a==b)=false:=by
   rw[beq_eq_false_iff_ne]
   intro e; exact hlen (by rw[e])
  rw[zc (by simp; omega),z8,e]
theorem tv(a:Rat)(h:yG 100000000 a):(oD a).run=some (eK a):=by
 unfold oD
 have hb:eK a=((a.1==(norm a).1)&&((a.2.1==(norm a).2.1)&&(a.2.2.1==(norm a).2.2.1))):=by
  rw[Bool.eq_iff_iff,K8 a h.1 h.2.1,z4J]
  exact⟨fun e=>e.symm,fun e=>e.symm⟩
 rw[z6 (dw a h),hb]
 cases a.1==(norm a).1 with
 | false=>rfl
 | true =>
  rw[zl,z6 (dU _ _ (by have:=h.2.2.1; omega))]
  cases a.2.1==(norm a).2.1 with
  | false=>rfl
  | true=>rw[zl,z6 (dU _ _ (by have:=h.2.2.2; omega)),z8]; rfl
theorem QX(a:Rat)(h:yG 100000000 a):(fq a).run=some (yf a):=by
 unfold fq yf
 rw[z6 (dw a h),z8]
 congr 2
 ·exact decide_eq_decide.2 (by omega)
 ·exact decide_eq_decide.2 (by omega)
theorem Xd(a:Rat)(h:yG 100000000 a):(dB a).run=some (eK a && !yf a):=by
 unfold dB
 rw[z6 (tv a h)]
 cases eK a with
 | false=>rfl
 | true=>rw[zl,z6 (QX a h),z8]; rfl
theorem Dm(a:Rat)(h:jt a):(j3 a).run=some (xT a):=by
 unfold j3 xT
 have hr:=tv a (dF h (by omega))
 have e:∀ l:List Int,(((l.length:Int))==0)=l.isEmpty:=fun l=>by cases l<;>simp; omega
 rw[e,e]
 cases a.1 with
 | true=>rfl
 | false =>
  rw[zc (by rfl)]
  cases a.2.1.isEmpty with
  | false=>rfl
  | true =>
   rw[zl]
   cases a.2.2.1.isEmpty with
   | true=>rfl
   | false=>rw[zm,z6 hr,z8]; rfl
theorem IS(g:Expr×Int→T Bool)(kids:List Expr)(k0:Int)(n0:Rat)(s0:zh)(D:Nat)(hl:kids.length≤100000)
  (hg:∀ e∈kids,(g (e,zr (((D+1:Nat):Int)+1))).run=some (uI (D+1) e)) :
  (iJ (fun y0 y1=>g (y0,y1)) ((D+1:Nat):Int) (.mk k0 n0 s0 kids) (kids.length:Int) 0).run=some (if kQ (D+1) kids=true then .inl ()else .inr false):=by
 refine T.Wo (r:=gv (fun y0 y1=>g (y0,y1)) ((D+1:Nat):Int) (.mk k0 n0 s0 kids) (kids.length:Int)) kids (zA .expr) (fun(_:Unit) i=>i) (fun _ _=>True) (fun l _=>(if kQ (D+1) l=true then .inl ()else .inr false:Unit⊕Bool)) (fun k _ x xs hk hx hm hd hI => ?_) (fun _ _ => ?_) (b:=()) trivial
 ·have rA:=hg x hm
  have ek:Expr.kids (.mk k0 n0 s0 kids)=kids:=rfl
  unfold gv
  rw[zc (pA hk),ek,zq (vo hk),hx,z6 rA]
  cases q:uI (D+1) x with
  | true =>
   left
   refine⟨(),?_,trivial,?_⟩
   ·rw[za (by rfl),z8,Lh k _ hk (by omega)]
   ·show _=(if(uI (D+1) x&&kQ (D+1) xs)=true then _ else _)
    rw[q,Bool.true_and]
  | false =>
   right
   rw[zc (by rfl),z8]
   show _=some (Sum.inr (if(uI (D+1) x&&kQ (D+1) xs)=true then _ else _))
   rw[q,Bool.false_and]; rfl
 ·unfold gv
  rw[za (J9 _),z8]; rfl
theorem Bp(e:Expr)(deep:Nat)(h:allOk e)(hn:wo e≤100000)(hd:deep≤32):(dN e ((deep+1:Nat):Int)).run=some (uI deep e):=by
 unfold dN
 refine eA (fun x:Expr×Int=>allOk x.1∧wo x.1≤100000∧1≤x.2∧x.2≤33) (fun x=>wo x.1) (fun x=>uI (x.2.toNat-1) x.1) (fun x hx g hg => ?_) (x:=(e,((deep+1:Nat):Int))) ⟨h,hn,by dsimp only; omega,by dsimp only; omega⟩
 obtain⟨e,d⟩:=x
 obtain⟨ha,hn,N3,Hk⟩:=hx
 dsimp only at ha hn N3 Hk
 obtain⟨D,rfl⟩:∃ D:Nat,d=((D+1:Nat):Int):=⟨d.toNat-1,by omega⟩
 cases e with | mk k n s kids =>
 obtain⟨nP,Iz⟩:=ha
 have Lp:wo (.mk k n s kids)=1+vA kids:=rfl
 have hlen:=rl kids
 have BQ:(((D+1:Nat):Int)).toNat-1=D:=by omega
 dsimp only
 rw[BQ]
 unfold eC
 show _=some (decide (D<32)&&(jM (.mk k n s kids)&&kQ (D+1) kids))
 by_cases c:D<32
 ·rw[za (decide_eq_false (by omega)),decide_eq_true c,Bool.true_and]
  have hN:=iK n (dF nP (by omega))
  have hG:=Xd n (dF nP (by omega))
  have hB:=Dm n nP
  have hNm:=XD s
  have e0:∀ m:Nat,(((m:Int))==0)=(((m:Int))==(0:Int)):=fun _=>rfl
  have J1:∀ e∈kids,(g (e,zr (((D+1:Nat):Int)+1))).run=some (uI (D+1) e):=fun e he=>by
   have hm:=iO he
   have ew:zr (((D+1:Nat):Int)+1)=((D+1+1:Nat):Int):=by rw[zJ (by omega) (by omega)]; omega
   have:=hg (e,((D+1+1:Nat):Int)) ⟨dX Iz e he,by dsimp only; omega,by dsimp only; omega,by dsimp only; omega⟩ (by dsimp only; rw[Lp]; omega)
   rw[ew,this]
   dsimp only
   rw[show(((D+1+1:Nat):Int)).toNat-1=D+1 by omega]
  have EK:=IS g kids k n s D (by omega) J1
  have z0C:Expr.kids (.mk k n s kids)=kids:=rfl
  have Tj:Expr.kind (.mk k n s kids)=k:=rfl
  have z0G:Expr.name (.mk k n s kids)=s:=rfl
  have z0N:Expr.num (.mk k n s kids)=n:=rfl
  have tail:∀ kd:Int,(T.bind (.ite ((Nat.cast (List.length kids):Int) != kd) (.ret true) (.ite (!(zD s ([]:zh))) (.ret true) (T.bind (j3 n) fun r4=>.ret (!r4))):T Bool) fun x1 =>
     .ite x1 (.ret false) (T.bind (iJ (fun y0 y1=>g (y0,y1)) ((D+1:Nat):Int) (.mk k n s kids) kd (0:Int))<|Sum.elim (fun _=>.ret true) (fun x2=>.ret x2)):T Bool).run =
     some (((kids.length:Int)==kd)&&((xT n&&zD s [])&&kQ (D+1) kids)):=by
   intro kd
   have head:(.ite ((Nat.cast (List.length kids):Int) != kd) (.ret true) (.ite (!(zD s ([]:zh))) (.ret true) (T.bind (j3 n) fun r4=>.ret (!r4))):T Bool).run=some (!(((kids.length:Int)==kd)&&(xT n&&zD s []))):=by
    cases q:((kids.length:Int)==kd)with
    | false=>rw[zc (by rw[bne,q]; rfl)]; rfl
    | true =>
     rw[za (by rw[bne,q]; rfl)]
     cases zD s []with
     | false=>rw[zc (by rfl),z8,Bool.and_false]; rfl
     | true=>rw[za (by rfl),z6 hB,z8,Bool.and_true,Bool.true_and]
   rw[z6 head]
   cases q:((kids.length:Int)==kd)with
   | false=>rfl
   | true =>
    have hkd:kd=(kids.length:Int):=by
     have:(kids.length:Int)=kd:=by simpa using q
     exact this.symm
    subst hkd
    rw[Bool.true_and,Bool.true_and]
    cases(xT n&&zD s [])with
    | false=>rfl
    | true =>
     rw[za (by rfl),z6 EK,Bool.true_and]
     cases kQ (D+1) kids<;>rfl
  unfold jM fR
  rw[z0C,Tj,z0G,z0N]
  by_cases h1:k=1
  ·subst h1
   have head:(T.bind (yT n) fun(r,ok)=>.ite ((Nat.cast (List.length kids):Int)==(0:Int)) (.ite (zD s ([]:zh)) (T.bind (dB n) fun r1=>.ite r1 (.ite (!n.1) (.ret (.inr ok)) (.ret (.inr false))) (.ret (.inr false))) (.ret (.inr false))) (.ret (.inr false)):T (Int⊕Bool)).run=some (.inr (((kids.length:Int)==0)&&(uH n&&zD s []))):=by
    rw[z6 hN]
    unfold uH
    generalize qC (norm n).1 (nv (norm n).2.1) (nv (norm n).2.2.1) 0 61=x
    obtain⟨x1,x2⟩:=x
    dsimp only
    cases(Nat.cast (List.length kids):Int)==(0:Int)with
    | false=>rfl
    | true =>
     rw[zl]
     cases zD s []with
     | false=>rw[zm,z8,Bool.and_false]; rfl
     | true =>
      rw[zl,z6 hG]
      cases eK n<;>cases yf n<;>cases n.1<;>cases x2<;>rfl
   refine(z6 (a:=.inr (((kids.length:Int)==0)&&(uH n&&zD s []))) ?_ _).trans ?_
   ·rw[zc (by rfl)]; exact head
   ·rw[Sum.elim_inr,z8,if_pos (.inl rfl),if_pos rfl]
    cases q:((kids.length:Int)==0)with
    | false=>rfl
    | true =>
     have:kids=[]:=List.eq_nil_of_length_eq_zero (by have:(kids.length:Int)=0:=(by simpa using q); omega)
     subst this
     show _=some (true&&(uH n&&zD s [])&&true)
     rw[Bool.and_true]
  ·by_cases h2:k=2
   ·subst h2
    have head:(.ite ((Nat.cast (List.length kids):Int)==(0:Int)) (T.bind (dr s) fun r2=>.ite r2 (T.bind (j3 n) fun r3=>.ret (.inr r3)) (.ret (.inr false))) (.ret (.inr false)):T (Int⊕Bool)).run=some (.inr (((kids.length:Int)==0)&&(xT n&&ui s))):=by
     cases(Nat.cast (List.length kids):Int)==(0:Int)with
     | false=>rfl
     | true =>
      rw[zl,z6 hNm]
      cases ui s with
      | false=>rw[zm,z8,Bool.and_false]; rfl
      | true=>rw[zl,z6 hB,z8,Bool.and_true,Bool.true_and]
    refine(z6 (a:=.inr (((kids.length:Int)==0)&&(xT n&&ui s))) ?_ _).trans ?_
    ·rw[za (by rfl),zc (by rfl)]; exact head
    ·rw[Sum.elim_inr,z8,if_pos (.inr rfl),if_neg (by decide),if_pos rfl]
     cases q:((kids.length:Int)==0)with
     | false=>rfl
     | true =>
      have:kids=[]:=List.eq_nil_of_length_eq_zero (by have:(kids.length:Int)=0:=(by simpa using q); omega)
      subst this
      show _=some (true&&(xT n&&ui s)&&true)
      rw[Bool.and_true]
   ·have k1:(k==1)=false:=by simpa using h1
    have k2:(k==2)=false:=by simpa using h2
    have fin:∀ kd:Int,(if k=7 then(1:Int)else if k=3∨k=4∨k=5∨k=6 then 2 else -1)=kd→((((kids.length:Int)==kd)&&((xT n&&zD s [])&&kQ (D+1) kids))) =
      ((((kids.length:Int)==(if k=1∨k=2 then(0:Int)else if k=7 then 1 else if k=3∨k=4∨k=5∨k=6 then 2 else -1))&&(if k=1 then uH n&&zD s []else if k=2 then xT n&&ui s else xT n&&zD s []))&&kQ (D+1) kids):=by
     intro kd hkd
     rw[if_neg (by rintro(h | h); exact h1 h; exact h2 h),hkd,if_neg h1,if_neg h2]
     simp only[Bool.and_assoc]
    by_cases h7:k=7
    ·refine(z6 (a:=.inl 1) ?_ _).trans ?_
     ·rw[za k1,za k2,zc (by simpa using h7),z8]
     ·rw[Sum.elim_inl,← fin 1 (by rw[if_pos h7])]; exact tail 1
    ·have k7:(k==7)=false:=by simpa using h7
     by_cases h3:k=3
     ·refine(z6 (a:=.inl 2) ?_ _).trans ?_
      ·rw[za k1,za k2,za k7,zc (by simpa using h3),z8]
      ·rw[Sum.elim_inl,← fin 2 (by rw[if_neg h7,if_pos (.inl h3)])]; exact tail 2
     ·have k3:(k==3)=false:=by simpa using h3
      by_cases h4:k=4
      ·refine(z6 (a:=.inl 2) ?_ _).trans ?_
       ·rw[za k1,za k2,za k7,za k3,zc (by simpa using h4),z8]
       ·rw[Sum.elim_inl,← fin 2 (by rw[if_neg h7,if_pos (.inr (.inl h4))])]; exact tail 2
      ·have k4:(k==4)=false:=by simpa using h4
       by_cases h5:k=5
       ·refine(z6 (a:=.inl 2) ?_ _).trans ?_
        ·rw[za k1,za k2,za k7,za k3,za k4,zc (by simpa using h5),z8]
        ·rw[Sum.elim_inl,← fin 2 (by rw[if_neg h7,if_pos (.inr (.inr (.inl h5)))])]; exact tail 2
       ·have k5:(k==5)=false:=by simpa using h5
        by_cases h6:k=6
        ·refine(z6 (a:=.inl 2) ?_ _).trans ?_
         ·rw[za k1,za k2,za k7,za k3,za k4,za k5,zc (by simpa using h6),z8]
         ·rw[Sum.elim_inl,← fin 2 (by rw[if_neg h7,if_pos (.inr (.inr (.inr h6)))])]; exact tail 2
        ·have k6:(k==6)=false:=by simpa using h6
         refine(z6 (a:=.inr false) ?_ _).trans ?_
         ·rw[za k1,za k2,za k7,za k3,za k4,za k5,za k6,z8]
         ·rw[Sum.elim_inr,z8,← fin (-1) (by rw[if_neg h7,if_neg (by rintro(h | h | h | h)<;>contradiction)])]
          have:((kids.length:Int) == -1)=false:=by simp
          rw[this]; rfl
 ·rw[zc (decide_eq_true (by omega)),z8,decide_eq_false c]; rfl
theorem iV(e:Expr)(hb:bkE e≤1000000000):(fA e).run=some ((wo e:Nat):Int):=by
 unfold fA
 refine eA (fun x:Expr=>bkE x≤1000000000) (fun x=>bkE x) (fun x=>((wo x:Nat):Int)) (fun x hx g hg => ?_) (x:=e) hb
 have hk:=rU x
 have hkl:=JG x.kids
 have ndb:∀ (l:List Expr),vA l≤bkEs l:=by
  have both:∀ n,(∀ e:Expr,bkE e≤n→wo e≤bkE e):=by
   intro n
   induction n using Nat.strongRecOn with
   | _ n ih =>
    intro e he
    cases e with | mk k m s l =>
    have hl:∀ l':List Expr,bkEs l'<n→vA l'≤bkEs l':=by
     intro l'
     induction l' with
     | nil=>intro _; exact Nat.le_refl _
     | cons y r ihr =>
      intro h
      unfold bkEs at h ⊢
      unfold vA
      have h1:=ih (bkE y) (by omega) y (Nat.le_refl _)
      have h2:=ihr (by omega)
      omega
    have h3:bkEs l<bkE (.mk k m s l):=rU (.mk k m s l)
    have:=hl l (by omega)
    unfold wo
    omega
  intro l
  induction l with
  | nil=>exact Nat.le_refl _
  | cons y r ihr =>
   unfold vA bkEs
   have:=both (bkE y) y (Nat.le_refl _)
   omega
 have loop:(n9 (fun y0=>g y0) x (1,0)).run=some ((1+vA x.kids:Nat):Int):=by
  have key:=Ws (r:=jz (fun y0=>g y0) x) x.kids (zA .expr) (fun(b:Nat) i=>(((b:Nat):Int),i)) (fun b r=>b+vA r≤1+vA x.kids∧∀ y∈r,y∈x.kids) (fun r b=>((b+vA r:Nat):Int)) ?_ ?_ (b:=1) ⟨Nat.le_refl _,fun y hy=>hy⟩
  ·exact key
  ·rintro b y ys i h0 hi hy ⟨h1,h2⟩
   have hm:=KJ (h2 y List.mem_cons_self)
   have hr:=hg y (by omega) (by omega)
   have Lp:=ndb x.kids
   have e1:vA (y::ys)=wo y+vA ys:=rfl
   rw[e1]at h1
   refine .inl ⟨b+wo y,?_,⟨by omega,fun z hz=>h2 z (List.mem_cons_of_mem _ hz)⟩,by rw[e1,Nat.add_assoc]⟩
   unfold jz
   dsimp only
   rw[zc (decide_eq_true hi),zq ⟨h0,hi⟩,hy,z6 hr,z8,zJ (x:=i+1) (by omega) (by omega),zJ (by omega) (by omega)]
   rfl
  ·rintro b _
   unfold jz
   dsimp only
   rw[za (J9 _),z8]; rfl
 unfold b7
 rw[z6 loop,z8]
 cases x with | mk k n s kids=>rfl
theorem Kv(e:Expr)(h:allOk e)(hb:bkE e≤1000000)(hn:wo e≤256):(jW e).run=some (uI 0 e):=by
 unfold jW
 have h1:(dN e 1).run=some (uI 0 e):=Bp e 0 h (by omega) (by omega)
 rw[z6 h1]
 cases uI 0 e with
 | false=>rfl
 | true=>rw[zl,z6 (iV e (by omega)),z8,decide_eq_true (by omega)]
def zy(k:Int):Int:=if k=3∨k=4 then 1 else if k=5∨k=6 then 2 else if k=7 then 3 else 4
def rf(k:Int):zh:=if k=3 then[32,43,32]else if k=4 then[32,45,32]else if k=5 then[32,42,32]else if k=6 then[32,47,32]else[]
def vz(b:Bool)(s:zh):zh:=if b=true then[40]++s++[41]else s
def nh(k:Int):List (Int×zh)→zh
 | [a]=>[45]++vz (decide (a.1<3)) a.2
 | [a,b]=>vz (decide (a.1<zy k)) a.2++rf k++vz (decide (b.1<zy k+1)) b.2
 | _=>[]
mutual
def prE:Expr→zh
 | .mk k n s l=>if k=1 then(qC (norm n).1 (nv (norm n).2.1) (nv (norm n).2.2.1) 0 61).1 else if k=2 then s else nh k (prL l)
def prL:List Expr→List (Int×zh)
 | []=>[]
 | e::r=>(zy e.kind,prE e)::prL r
end
theorem uu(b:Bool)(s:zh):(vz b s).length≤s.length+2:=by unfold vz; split<;>simp<;>omega
theorem sr(k:Int):(rf k).length≤3:=by unfold rf; (repeat' split)<;>simp
theorem XH(n:Rat)(h:jt n):(qC (norm n).1 (nv (norm n).2.1) (nv (norm n).2.2.1) 0 61).1.length≤6000:=by
 have hn:=mG (k:=100) (by omega) h
 have hd:=pT n.1 (nv n.2.1) (nv n.2.2.1)
 have hd:nv (norm n).2.2.1≠0:=hd
 rcases hx:qC (norm n).1 (nv (norm n).2.1) (nv (norm n).2.2.1) 0 61 with⟨s,b⟩
 cases b with
 | true =>
  obtain⟨j,h1,h2,h3,rfl⟩:=mH _ _ _ hd 61 0 s hx
  have l1:=zR hn.1
  have l2:=hn.2.2.1
  have l3:=cQ j
  have l4:=cC (nv (norm n).2.1) (10 ^ j)
  have l5:=Zk (Nat.div_le_self (nv (norm n).2.1*10 ^ j) (nv (norm n).2.2.1))
  have l6:=Vk (nv (norm n).2.1*10 ^ j / nv (norm n).2.2.1) 162 (by omega)
  have l7:(VQ (norm n).1).length≤1:=by unfold VQ; split<;>simp
  dsimp only
  rw[List.length_append]
  by_cases hj:j=0
  ·subst hj
   unfold Wf
   rw[if_pos rfl]
   omega
  ·obtain⟨w,p,e,_,_,_,hp,_,hw⟩:=rE (pr (nv (norm n).2.1*10 ^ j / nv (norm n).2.2.1)) j hj (pV _).1
   rw[e,List.length_append,List.length_cons]
   omega
 | false =>
  have:∀ (f k:Nat) (s:zh),qC (norm n).1 (nv (norm n).2.1) (nv (norm n).2.2.1) k f=(s,false)→s=[]:=by
   intro f
   induction f with
   | zero=>intro k s h; unfold qC at h; cases h; rfl
   | succ f ih =>
    intro k s h
    unfold qC at h
    split at h
    ·cases h
    ·exact ih _ _ h
  rw[this 61 0 s hx]; simp
theorem lq{d:Nat}{k:Int}{n:Rat}{s:zh}{l:List Expr}(h:uI d (.mk k n s l)=true):((l.length:Int)=fR k)∧kQ (d+1) l=true:=by
 have h:(decide (d<32)&&(jM (.mk k n s l)&&kQ (d+1) l))=true:=h
 simp only[Bool.and_eq_true]at h
 obtain⟨_,h1,h2⟩:=h
 unfold jM at h1
 simp only[Bool.and_eq_true]at h1
 exact⟨eq_of_beq h1.1,h2⟩
theorem dY:∀ (m:Nat) (e:Expr) (d:Nat),wo e≤m→uI d e=true→allOk e→(prE e).length≤2000*hJ e:=by
 intro m
 induction m with
 | zero=>intro e d hm; cases e; unfold wo at hm; omega
 | succ m ih =>
  intro e d hm ho ha
  cases e with | mk k n s l =>
  obtain⟨hk,hl⟩:=lq ho
  obtain⟨hn,ir⟩:=ha
  have Lp:wo (.mk k n s l)=1+vA l:=rfl
  have uj:hJ (.mk k n s l)=3+s.length+8*n.2.1.length+8*n.2.2.1.length+szEs l:=rfl
  rw[Lp]at hm
  rw[uj]
  show(if k=1 then(qC (norm n).1 (nv (norm n).2.1) (nv (norm n).2.2.1) 0 61).1 else if k=2 then s else nh k (prL l)).length≤_
  by_cases h1:k=1
  ·rw[if_pos h1]; have:=XH n hn; omega
  ·rw[if_neg h1]
   by_cases h2:k=2
   ·rw[if_pos h2]; omega
   ·rw[if_neg h2]
    match l,hl,ir,hm with
    | [],_,_,_=>show(nh k []).length≤_; unfold nh; simp
    | [a],hl,ir,hm =>
     have Pv:uI (d+1) a=true:=by
      have:(uI (d+1) a&&kQ (d+1) [])=true:=hl
      simp only[Bool.and_eq_true]at this; exact this.1
     have:=ih a (d+1) (by have:vA [a]=wo a+0:=rfl; omega) Pv ir.1
     have e1:szEs [a]=hJ a+0:=rfl
     have hp:=uu (decide (zy a.kind<3)) (prE a)
     show([45]++vz (decide (zy a.kind<3)) (prE a)).length≤_
     rw[List.length_append,List.length_singleton,e1]; omega
    | [a,b],hl,ir,hm =>
     have Wu:uI (d+1) a=true∧uI (d+1) b=true:=by
      have:(uI (d+1) a&&(uI (d+1) b&&kQ (d+1) []))=true:=hl
      simp only[Bool.and_eq_true]at this; exact⟨this.1,this.2.1⟩
     have e0:vA [a,b]=wo a+(wo b+0):=rfl
     have h3:=ih a (d+1) (by omega) Wu.1 ir.1
     have h4:=ih b (d+1) (by omega) Wu.2 ir.2.1
     have e1:szEs [a,b]=hJ a+(hJ b+0):=rfl
     have hp:=uu (decide (zy a.kind<zy k)) (prE a)
     have hq:=uu (decide (zy b.kind<zy k+1)) (prE b)
     have hm':=sr k
     show(vz (decide (zy a.kind<zy k)) (prE a)++rf k++vz (decide (zy b.kind<zy k+1)) (prE b)).length≤_
     rw[List.length_append,List.length_append,e1]; omega
    | a::b::c::r,_,_,_=>show(nh k _).length≤_; unfold prL prL prL nh; simp
theorem Wp(e:Expr):(yV e).run=some (zy e.kind):=by
 unfold yV zy
 generalize e.kind=k
 by_cases h3:k=3
 ·subst h3; rfl
 by_cases h4:k=4
 ·subst h4; rfl
 by_cases h5:k=5
 ·subst h5; rfl
 by_cases h6:k=6
 ·subst h6; rfl
 by_cases h7:k=7
 ·subst h7; rfl
 ·simp[h3,h4,h5,h6,h7]
theorem Of(k:Int):(iF k).run=some (zy k):=by
 unfold iF zy
 by_cases h3:k=3
 ·subst h3; rfl
 by_cases h4:k=4
 ·subst h4; rfl
 by_cases h5:k=5
 ·subst h5; rfl
 by_cases h6:k=6
 ·subst h6; rfl
 by_cases h7:k=7
 ·subst h7; rfl
 ·simp[h3,h4,h5,h6,h7]
theorem o6(g:Expr→T zh)(e:Expr)(least:Int)(t:zh)(hg:(g e).run=some t)(hl:t.length≤1000000000000):(kN (fun y0=>g y0) e least).run=some (vz (decide (zy e.kind<least)) t):=by
 unfold kN vz
 rw[z6 (Wp e)]
 cases decide (zy e.kind<least)with
 | true=>rw[zl,z6 hg,qm _ (by simp; omega),qm _ (by simp[gO]; omega),z8,if_pos rfl]; rfl
 | false=>rw[zm,z6 hg,z8,if_neg (by simp)]
theorem V0{k:Int}{l:List Expr}(hk:(l.length:Int)=fR k)(h1:k≠1)(h2:k≠2):(k=7∧∃ a,l=[a])∨((k=3∨k=4∨k=5∨k=6)∧∃ a b,l=[a,b]):=by
 unfold fR at hk
 rw[if_neg (by rintro(h | h); exact h1 h; exact h2 h)]at hk
 by_cases h7:k=7
 ·rw[if_pos h7]at hk
  match l,hk with
  | [a],_=>exact .inl ⟨h7,a,rfl⟩
  | [],hk=>simp at hk
  | _::_::_,hk=>simp at hk; omega
 ·rw[if_neg h7]at hk
  by_cases h:k=3∨k=4∨k=5∨k=6
  ·rw[if_pos h]at hk
   match l,hk with
   | [a,b],_=>exact .inr ⟨h,a,b,rfl⟩
   | [],hk=>simp at hk
   | [_],hk=>simp at hk
   | _::_::_::_,hk=>simp at hk; omega
  ·rw[if_neg h]at hk; omega
theorem CO(e:Expr)(d:Nat)(ho:uI d e=true)(ha:allOk e)(hs:hJ e≤1000000):(eL e).run=some (prE e):=by
 unfold eL
 refine eA (fun x:Expr=>(∃ d,uI d x=true)∧allOk x∧hJ x≤1000000) (fun x=>wo x) (fun x=>prE x) (fun x hx g hg => ?_) (x:=e) ⟨⟨d,ho⟩,ha,hs⟩
 obtain⟨⟨d,ho⟩,ha,hs⟩:=hx
 cases x with | mk k n s l =>
 obtain⟨hk,hl⟩:=lq ho
 obtain⟨hn,ir⟩:=ha
 have Lp:wo (.mk k n s l)=1+vA l:=rfl
 have uj:hJ (.mk k n s l)=3+s.length+8*n.2.1.length+8*n.2.2.1.length+szEs l:=rfl
 have hE:=nm n (dF hn (by omega))
 have Rb:prE (.mk k n s l)=if k=1 then(qC (norm n).1 (nv (norm n).2.1) (nv (norm n).2.2.1) 0 61).1 else if k=2 then s else nh k (prL l):=rfl
 rw[Rb]
 unfold b0
 rw[show Expr.kind (.mk k n s l)=k from rfl,show Expr.kids (.mk k n s l)=l from rfl,show Expr.num (.mk k n s l)=n from rfl,show Expr.name (.mk k n s l)=s from rfl]
 have IJ:=Wp (.mk k n s l)
 rw[show Expr.kind (.mk k n s l)=k from rfl]at IJ
 by_cases h1:k=1
 ·rw[if_pos h1]
  refine(z6 (a:=.inr (qC (norm n).1 (nv (norm n).2.1) (nv (norm n).2.2.1) 0 61).1) ?_ _).trans rfl
  rw[zc (by simpa using h1),z6 hE,z8]
 have k1:(k==1)=false:=by simpa using h1
 by_cases h2:k=2
 ·rw[if_neg h1,if_pos h2]
  refine(z6 (a:=.inr s) ?_ _).trans rfl
  rw[za k1,zc (by simpa using h2),z8]
 have k2:(k==2)=false:=by simpa using h2
 rw[if_neg h1,if_neg h2]
 rcases V0 hk h1 h2 with⟨h7,a,rfl⟩ | ⟨OZ,a,b,rfl⟩
 ·have Pv:uI (d+1) a=true:=by
   have:(uI (d+1) a&&kQ (d+1) [])=true:=hl
   simp only[Bool.and_eq_true]at this; exact this.1
  have e0:vA [a]=wo a+0:=rfl
  have e1:szEs [a]=hJ a+0:=rfl
  have hr:=hg a ⟨⟨_,Pv⟩,ir.1,by omega⟩ (by omega)
  have hlen:=dY (wo a) a (d+1) (Nat.le_refl _) Pv ir.1
  have hp:=o6 g a 3 (prE a) hr (by omega)
  have rD:=uu (decide (zy a.kind<3)) (prE a)
  refine(z6 (a:=.inr (nh k (prL [a]))) ?_ _).trans rfl
  rw[za k1,za k2,zc (by simpa using h7),zq ⟨by omega,by simp⟩,show nth [a] (0:Int) (zA .expr)=a from rfl,z6 hp,qm _ (by simp; omega),z8]
  rfl
 ·have Wu:uI (d+1) a=true∧uI (d+1) b=true:=by
   have:(uI (d+1) a&&(uI (d+1) b&&kQ (d+1) []))=true:=hl
   simp only[Bool.and_eq_true]at this; exact⟨this.1,this.2.1⟩
  have e0:vA [a,b]=wo a+(wo b+0):=rfl
  have e1:szEs [a,b]=hJ a+(hJ b+0):=rfl
  have ra:=hg a ⟨⟨_,Wu.1⟩,ir.1,by omega⟩ (by omega)
  have rb:=hg b ⟨⟨_,Wu.2⟩,ir.2.1,by omega⟩ (by omega)
  have la:=dY (wo a) a (d+1) (Nat.le_refl _) Wu.1 ir.1
  have lb:=dY (wo b) b (d+1) (Nat.le_refl _) Wu.2 ir.2.1
  have Sw:zr (zy k+1)=zy k+1:=by
   have:zy k=1∨zy k=2∨zy k=3∨zy k=4:=by unfold zy; (repeat' split)<;>simp
   rw[zJ (by omega) (by omega)]
  have pa:=o6 g a (zy k) (prE a) ra (by omega)
  have pb:=o6 g b (zy k+1) (prE b) rb (by omega)
  have qa:=uu (decide (zy a.kind<zy k)) (prE a)
  have qb:=uu (decide (zy b.kind<zy k+1)) (prE b)
  have hm:=sr k
  have k7:(k==7)=false:=by rw[beq_eq_false_iff_ne]; omega
  refine(z6 (a:=.inl (rf k)) ?_ _).trans ?_
  ·rw[za k1,za k2,za k7]
   rcases OZ with rfl | rfl | rfl | rfl<;>rfl
  ·rw[Sum.elim_inl,zq ⟨by omega,by simp⟩,z6 IJ,show nth [a,b] (0:Int) (zA .expr)=a from rfl,z6 pa,qm _ (by omega),zq ⟨by omega,by simp⟩,z6 IJ,Sw,show nth [a,b] (1:Int) (zA .expr)=b from rfl,z6 pb,qm _ (by simp[gO]; omega),z8]
   rfl
theorem EY(e:Expr)(asks:Int)(d:Nat)(ho:uI d e=true)(ha:allOk e)(hs:hJ e≤100000):(mh e asks).run=some (vz (decide (zy e.kind<asks)) (prE e)):=by
 unfold mh
 refine eA (fun x:Expr×Int=>(∃ d,uI d x.1=true)∧allOk x.1∧hJ x.1≤100000) (fun x=>wo x.1) (fun x=>vz (decide (zy x.1.kind<x.2)) (prE x.1)) (fun x hx g hg => ?_) (x:=(e,asks)) ⟨⟨d,ho⟩,ha,hs⟩
 obtain⟨x,q⟩:=x
 obtain⟨⟨d,ho⟩,ha,hs⟩:=hx
 dsimp only at ho ha hs
 have z6S:=dY (wo x) x d (Nat.le_refl _) ho ha
 cases x with | mk k n s l =>
 obtain⟨hk,hl⟩:=lq ho
 obtain⟨hn,ir⟩:=ha
 have Lp:wo (.mk k n s l)=1+vA l:=rfl
 have uj:hJ (.mk k n s l)=3+s.length+8*n.2.1.length+8*n.2.2.1.length+szEs l:=rfl
 have hE:=iK n (dF hn (by omega))
 have Rb:prE (.mk k n s l)=if k=1 then(qC (norm n).1 (nv (norm n).2.1) (nv (norm n).2.2.1) 0 61).1 else if k=2 then s else nh k (prL l):=rfl
 unfold ct
 rw[show Expr.kind (.mk k n s l)=k from rfl,show Expr.kids (.mk k n s l)=l from rfl,show Expr.num (.mk k n s l)=n from rfl,show Expr.name (.mk k n s l)=s from rfl]
 have fin:∀ t:T zh,t.run=some (prE (.mk k n s l))→(T.bind t fun s1=>T.bind (iF k) fun Uy=>.ite (decide (Uy<q))
   (.zj (((List.length ([40]:zh))+(List.length s1))≤(4611686018427387904:Nat))<|.zj (((List.length (cat ([40]:zh) s1))+(List.length ([41]:zh)))≤(4611686018427387904:Nat))<|.ret (cat (cat ([40]:zh) s1) ([41]:zh))) (.ret s1):T zh).run=some (vz (decide (zy k<q)) (prE (.mk k n s l))):=by
  intro t ht
  rw[z6 ht,z6 (Of k)]
  cases decide (zy k<q)with
  | true=>rw[zl,qm _ (by simp; omega),qm _ (by simp[gO]; omega),z8]; rfl
  | false=>rw[zm,z8]; rfl
 refine fin _ ?_
 rw[Rb]
 by_cases h1:k=1
 ·rw[if_pos h1,zc (by simpa using h1),z6 hE,z8]
 have k1:(k==1)=false:=by simpa using h1
 by_cases h2:k=2
 ·rw[if_neg h1,if_pos h2,za k1,zc (by simpa using h2),z8]
 have k2:(k==2)=false:=by simpa using h2
 rw[if_neg h1,if_neg h2]
 rcases V0 hk h1 h2 with⟨h7,a,rfl⟩ | ⟨OZ,a,b,rfl⟩
 ·have Pv:uI (d+1) a=true:=by
   have:(uI (d+1) a&&kQ (d+1) [])=true:=hl
   simp only[Bool.and_eq_true]at this; exact this.1
  have e0:vA [a]=wo a+0:=rfl
  have e1:szEs [a]=hJ a+0:=rfl
  have hr:=hg (a,3) ⟨⟨_,Pv⟩,ir.1,by dsimp only; omega⟩ (by dsimp only; omega)
  have hlen:=dY (wo a) a (d+1) (Nat.le_refl _) Pv ir.1
  have rD:=uu (decide (zy a.kind<3)) (prE a)
  dsimp only at hr
  rw[za k1,za k2,zc (by simpa using h7),zq ⟨by omega,by simp⟩,show nth [a] (0:Int) (zA .expr)=a from rfl,z6 hr,qm _ (by simp; omega),z8]
  rfl
 ·have Wu:uI (d+1) a=true∧uI (d+1) b=true:=by
   have:(uI (d+1) a&&(uI (d+1) b&&kQ (d+1) []))=true:=hl
   simp only[Bool.and_eq_true]at this; exact⟨this.1,this.2.1⟩
  have e0:vA [a,b]=wo a+(wo b+0):=rfl
  have e1:szEs [a,b]=hJ a+(hJ b+0):=rfl
  have ra:∀ q:Int,(g (a,q)).run=some (vz (decide (zy a.kind<q)) (prE a)):=fun q=>hg (a,q) ⟨⟨_,Wu.1⟩,ir.1,by dsimp only; omega⟩ (by dsimp only; omega)
  have rb:∀ q:Int,(g (b,q)).run=some (vz (decide (zy b.kind<q)) (prE b)):=fun q=>hg (b,q) ⟨⟨_,Wu.2⟩,ir.2.1,by dsimp only; omega⟩ (by dsimp only; omega)
  have la:=dY (wo a) a (d+1) (Nat.le_refl _) Wu.1 ir.1
  have lb:=dY (wo b) b (d+1) (Nat.le_refl _) Wu.2 ir.2.1
  have qa:∀ q:Int,(vz (decide (zy a.kind<q)) (prE a)).length≤1000000000:=fun q=>by have:=uu (decide (zy a.kind<q)) (prE a); omega
  have qb:∀ q:Int,(vz (decide (zy b.kind<q)) (prE b)).length≤1000000000:=fun q=>by have:=uu (decide (zy b.kind<q)) (prE b); omega
  have k7:(k==7)=false:=by rw[beq_eq_false_iff_ne]; omega
  have two:∀ (m:zh) (p q:Int),m.length≤3→(.zj (zt (0:Int) (List.length [a,b]))<|T.bind (g (nth [a,b] (0:Int) (zA .expr),p)) fun r2=>.zj (((List.length r2)+(List.length m))≤(4611686018427387904:Nat))<|.zj (zt (1:Int) (List.length [a,b])) <|
    T.bind (g (nth [a,b] (1:Int) (zA .expr),q)) fun r3=>.zj (((List.length (cat r2 m))+(List.length r3))≤(4611686018427387904:Nat))<|.ret (cat (cat r2 m) r3):T zh).run=some (vz (decide (zy a.kind<p)) (prE a)++m++vz (decide (zy b.kind<q)) (prE b)):=by
   intro m p q hm
   have h3:=qa p
   have h4:=qb q
   rw[zq ⟨by omega,by simp⟩,show nth [a,b] (0:Int) (zA .expr)=a from rfl,z6 (ra p),qm _ (by omega),zq ⟨by omega,by simp⟩,show nth [a,b] (1:Int) (zA .expr)=b from rfl,z6 (rb q),qm _ (by simp[gO]; omega),z8]
   rfl
  rw[za k1,za k2,za k7]
  rcases OZ with rfl | rfl | rfl | rfl
  ·rw[zc (by rfl)]; exact two [32,43,32] 1 2 (by simp)
  ·rw[za (by rfl),zc (by rfl)]; exact two [32,45,32] 1 2 (by simp)
  ·rw[za (by rfl),za (by rfl),zc (by rfl)]; exact two [32,42,32] 2 3 (by simp)
  ·rw[za (by rfl),za (by rfl),za (by rfl),zc (by rfl)]; exact two [32,47,32] 2 3 (by simp)
theorem l8(e:Expr)(ho:uI 0 e=true)(ha:allOk e)(hs:hJ e≤700)(hb:bkE e≤1000000):(bB e).run=some (prE e):=by
 have hn:=Qo e
 unfold bB
 rw[z6 (Kv e ha hb (by omega)),ho,za (by rfl),z6 (EY e 1 0 ho ha (by omega)),z8]
 have:decide (zy e.kind<1)=false:=by
  refine decide_eq_false ?_
  unfold zy
  (repeat' split)<;>omega
 rw[this]; rfl
end Go.AM.Lf
namespace Go.AM
theorem T.Za{σ ρ:Type}{b:(σ→T ρ)→σ→T ρ}(R:Nat→σ→ρ→Prop)(h0:∀ x y,¬ R 0 x y)
  (h:∀ n x y,R (n+1) x y→∀ g:σ→T ρ,(∀ x' y',R n x' y'→(g x').run=some y')→(b g x).run=some y) {n:Nat} {x:σ} {y:ρ} (hx:R n x y):(T.fix b x).run=some y:=by
 rw[wg,dM]
 refine⟨n,fun m hm => ?_⟩
 induction n generalizing m x y with
 | zero=>exact absurd hx (h0 _ _)
 | succ n ih =>
  cases m with
  | zero=>omega
  | succ m =>
   rw[← wg]
   exact h n x y hx (KU b m) fun x' y' hr=>by rw[wg]; exact ih hr m (by omega)
end Go.AM
namespace Go.AM.PL
def wV:zh→zh
 | []=>[]
 | c::r=>if c=32 then wV r else c::r
def vc(p:UInt8→Bool):Nat→zh→zh×zh
 | 0,r=>([],r)
 | _+1,[]=>([],[])
 | n+1,c::r=>if p c=true then(c::(vc p n r).1,(vc p n r).2)else([],c::r)
theorem iM(p:UInt8→Bool):∀ (n:Nat) (r:zh),(vc p n r).1++(vc p n r).2=r
 | 0,r=>rfl
 | _+1,[]=>rfl
 | n+1,c::r=>by
  unfold vc
  split
  ·rw[List.cons_append,iM p n r]
  ·rfl
theorem Zr(p:UInt8→Bool):∀ (n:Nat) (r:zh),r.length≤n→vc p n r=(r.takeWhile p,r.dropWhile p)
 | 0,[],_=>rfl
 | 0,c::r,h=>by simp at h
 | _+1,[],_=>rfl
 | n+1,c::r,h=>by
  unfold vc
  rw[Zr p n r (by simp at h; omega)]
  cases hp:p c with
  | true=>simp[hp]
  | false=>simp[hp]
theorem wD:∀ (r:zh),wV r <:+ r
 | []=>List.suffix_refl _
 | c::r=>by
  unfold wV
  split
  ·exact List.IsSuffix.trans (wD r) (List.suffix_cons c r)
  ·exact List.suffix_refl _
theorem Jy:∀ (r:zh) (c:UInt8) (q:zh),wV r=c::q→c≠32
 | [],_,_,h=>by cases h
 | b::r,c,q,h=>by
  unfold wV at h
  split at h
  ·exact Jy r c q h
  ·cases h; assumption
theorem Zh(r:zh):wV (wV r)=wV r:=by
 cases h:wV r with
 | nil=>rfl
 | cons c q=>unfold wV; rw[if_neg (Jy r c q h)]
theorem U8(r:zh):(wV r).length≤r.length:=(wD r).length_le
theorem dD(p:UInt8→Bool)(n:Nat)(r:zh):(vc p n r).2 <:+ r:=⟨(vc p n r).1,iM p n r⟩
def qX(s r:zh):Nat:=s.length-r.length
theorem WO(s:zh):qX s s=0:=by unfold qX; omega
theorem Jx(s:zh):qX s []=s.length:=rfl
theorem xR{c:UInt8}{r s:zh}(h:(c::r) <:+ s):r <:+ s:=List.IsSuffix.trans (List.suffix_cons c r) h
theorem wG{c:UInt8}{r s:zh}(h:(c::r) <:+ s):qX s r=qX s (c::r)+1∧qX s (c::r)<s.length:=by
 have:=h.length_le
 simp only[List.length_cons]at this
 unfold qX; simp only[List.length_cons]; omega
theorem I9{r s:zh}(h:r <:+ s):s.drop (qX s r)=r:=by
 obtain⟨t,rfl⟩:=h
 unfold qX
 rw[List.length_append,Nat.add_sub_cancel,List.drop_left]
theorem vi{c:UInt8}{r s:zh}(h:(c::r) <:+ s):zo s ((qX s (c::r):Nat):Int)=(c.toNat:Int):=by
 have h1:=wG h
 rw[vK h1.2]
 have h2:=I9 h
 rw[List.drop_eq_getElem_cons h1.2]at h2
 injection h2 with h2 _
 rw[h2]
theorem VM{r q s:zh}(h:r <:+ q)(h2:q <:+ s):qX s q≤qX s r:=by
 have:=h.length_le; unfold qX; omega
theorem QH{a r q s:zh}(h:r <:+ s)(e:a++q=r):zS ((qX s r:Nat):Int) ((qX s q:Nat):Int) s=a:=by
 subst e
 obtain⟨t,rfl⟩:=h
 unfold zS qX
 rw[Int.toNat_natCast,Int.toNat_natCast]
 simp only[List.length_append]
 rw[show t.length+(a.length+q.length)-q.length=t.length+a.length by omega,show t.length+(a.length+q.length)-(a.length+q.length)=t.length by omega,← List.append_assoc,← List.length_append,List.take_left,List.drop_left]
theorem KH:∀ (l:zh) (c:UInt8),decide ((0:Int)≤iw l c)=l.contains c
 | [],_=>rfl
 | b::l,c=>by
  have ih:=KH l c
  unfold iw
  rw[List.contains_cons]
  by_cases h:b=c
  ·subst h; simp
  ·have h':(b==c)=false:=by simpa using h
   have h'':(c==b)=false:=by simpa using fun e:c=b=>h e.symm
   rw[h',h'',Bool.false_or,← ih]
   have hge:∀ l:zh,iw l c = -1∨0≤iw l c:=by
    intro l
    induction l with
    | nil=>exact .inl rfl
    | cons x l ih =>
     unfold iw
     split
     ·right; omega
     ·split
      ·left; rfl
      ·right
       rename_i u7
       rcases ih with h | h
       ·exact absurd (by simpa using h) u7
       ·omega
   rcases hge l with h | h
   ·rw[h]; rfl
   ·have:(iw l c == -1)=false:=by simp; omega
    simp only[this,Bool.false_eq_true,if_false]
    rw[decide_eq_true (by omega),decide_eq_true (by omega)]
theorem Qz(c:UInt8):byteOf (c.toNat:Int)=c:=by unfold byteOf; simp
end Go.AM.PL
namespace Go.AM.Lf
open PL
def qt(s r:zh)(d:Nat)(l:Bool):zd:=(s,((qX s r:Nat):Int),(d:Int),l,())
theorem wH(s r:zh)(d:Nat)(l:Bool):(qt s r d l).1=s:=rfl
theorem vp(s r:zh)(d:Nat)(l:Bool):(qt s r d l).2.1=((qX s r:Nat):Int):=rfl
theorem QK(s r:zh)(d:Nat)(l:Bool):(qt s r d l).2.2.1=(d:Int):=rfl
theorem ZG{s r:zh}{c:UInt8}(d:Nat)(l:Bool)(h:(c::r) <:+ s)(hs:s.length≤1000000):((s,zr (((qX s (c::r):Nat):Int)+1),(d:Int),l,()):zd)=qt s r d l:=by
 have:=wG h
 unfold qt
 rw[zJ (by omega) (by omega),this.1]
 rfl
theorem gY{s r:zh}{c:UInt8}(h:(c::r) <:+ s):decide (((qX s (c::r):Nat):Int)<(s.length:Int))=true:=decide_eq_true (by have:=wG h; omega)
theorem di(s:zh):decide (((qX s []:Nat):Int)<(s.length:Int))=false:=by rw[Jx]; exact decide_eq_false (by omega)
theorem uh{s r:zh}{c:UInt8}(h:(c::r) <:+ s):zt ((qX s (c::r):Nat):Int) s.length:=⟨by omega,by have:=wG h; omega⟩
theorem mY(c b:UInt8):((c.toNat:Int)==(b.toNat:Int))=decide (c=b):=by
 by_cases h:c=b
 ·subst h; simp
 ·rw[decide_eq_false h]
  simp only[beq_eq_false_iff_ne,ne_eq]
  intro e
  exact h (UInt8.toNat_inj.1 (by omega))
theorem tb(s:zh)(hs:s.length≤1000000)(d:Nat)(l:Bool):∀ (r:zh),r <:+ s→(kF (qt s r d l)).run=some (qt s (wV r) d l)
 | [],_=>by
  refine q9 ?_
  unfold xJ
  dsimp only
  rw[vp,wH,di,zq (fun h=>by cases h),za (by rfl),z8]
  rfl
 | c::r,h=>by
  have e:(xJ (qt s (c::r) d l)).run=some (if c=32 then .inl (qt s r d l)else .inr (qt s (c::r) d l)):=by
   unfold xJ
   dsimp only
   rw[vp,wH,gY h,zq (fun _=>uh h),Bool.true_and,vi h,show((c.toNat:Int)==32)=decide (c=32)from mY c 32]
   by_cases hc:c=32
   ·rw[zc (by simpa using hc),z8,if_pos hc]
    show some (Sum.inl (s,zr (((qX s (c::r):Nat):Int)+1),(d:Int),l,()))=_
    rw[ZG d l h hs]
   ·rw[za (by simpa using hc),z8,if_neg hc]
  unfold wV
  by_cases hc:c=32
  ·rw[if_pos hc]at e ⊢
   exact(xV e).trans (tb s hs d l r (xR h))
  ·rw[if_neg hc]at e ⊢
   exact q9 e
theorem Gy(s:zh)(hs:s.length≤1000000)(d:Nat)(l:Bool)(r:zh)(h:r <:+ s):(vw (qt s r d l)).run=some (qt s (wV r) d l):=by
 unfold vw
 rw[z6 (tb s hs d l r h),z8]
def qu(some:zh)(r:zh):Option (UInt8×zh):=match wV r with
 | []=>none
 | c::q=>if some.contains c=true then .some (c,q)else none
theorem od(s:zh)(hs:s.length≤1000000)(d:Nat)(l:Bool)(r:zh)(h:r <:+ s)(m:zh) :
  (qM m (qt s r d l)).run=some (match qu m r with | some (c,q)=>((c.toNat:Int),qt s q d l) | none=>(0,qt s (wV r) d l)):=by
 have hk:=List.IsSuffix.trans (wD r) h
 unfold qM qu
 rw[z6 (Gy s hs d l r h)]
 cases e:wV r with
 | nil =>
  rw[z6 (a:=(false,qt s [] d l)) (by rw[vp,wH,di,zm,z8]),zm,z8]
 | cons c q =>
  rw[e]at hk
  have hi:(strings_IndexByte m (c.toNat:Int)).run=some (iw m c):=by unfold strings_IndexByte; rw[z8,Qz]
  rw[z6 (a:=(m.contains c,qt s (c::q) d l)) (by rw[vp,wH,gY hk,zl,zq (uh hk),vi hk,z6 hi,z8,KH])]
  have hp:=wG hk
  dsimp only
  cases hc:m.contains c with
  | false=>rw[zm,z8]; rfl
  | true =>
   rw[zl,vp,wH,zJ (x:=((qX s (c::q):Nat):Int)+1) (by omega) (by omega),show((qX s (c::q):Nat):Int)+1-1=((qX s (c::q):Nat):Int) by omega,zJ (by omega) (by omega),zq (uh hk),z8,vi hk]
   rw[show((qX s (c::q):Nat):Int)+1=((qX s q:Nat):Int) by omega]
   rfl
theorem mO(b:UInt8):(xw (b.toNat:Int)).run=some (xY b):=by
 unfold xw xY
 rw[z8]
 congr 1
 by_cases h1:48≤b.toNat<;>by_cases h2:b.toNat≤57<;>simp[h1,h2]<;>omega
theorem Dp(b:UInt8):(wi (b.toNat:Int)).run=some (ru b):=rfl
theorem Yo(s:zh)(hs:s.length≤1000000)(d:Nat)(l:Bool)(is:Int→T Bool)(p:UInt8→Bool)(hp:∀ b:UInt8,(is (b.toNat:Int)).run=some (p b))(f m:Nat)(hm:m≤1000000) :
  ∀ (n:Nat) (r:zh),r <:+ s→f≤qX s r→qX s r-f+n=m→(yu is (m:Int) (f:Int) (qt s r d l)).run=some (qt s (vc p n r).2 d l):=by
 intro n r
 induction r generalizing n with
 | nil =>
  intro h hf he
  have:(vc p n []).2=[]:=by cases n<;>rfl
  rw[this]
  refine q9 ?_
  unfold qI
  dsimp only
  rw[z6 (a:=(false,qt s [] d l)) (by rw[vp,wH,di,zm,z8]),zm,z8]
 | cons c r ih =>
  intro h hf he
  have nW:=wG h
  cases n with
  | zero =>
   refine q9 ?_
   unfold qI
   dsimp only
   rw[z6 (a:=(false,qt s (c::r) d l)) (by rw[vp,wH,gY h,zl,zJ (by omega) (by omega),za (decide_eq_false (by omega)),z8]),zm,z8]
   rfl
  | succ n =>
   have e:(qI is (m:Int) (f:Int) (qt s (c::r) d l)).run=some (if p c=true then .inl (qt s r d l)else .inr (qt s (c::r) d l)):=by
    unfold qI
    dsimp only
    rw[z6 (a:=(p c,qt s (c::r) d l)) (by rw[vp,wH,gY h,zl,zJ (by omega) (by omega),zc (decide_eq_true (by omega)),zq (uh h),vi h,z6 (hp c),z8])]
    dsimp only
    cases p c with
    | false=>rfl
    | true =>
     rw[zl,z8,if_pos rfl]
     show some (Sum.inl (s,zr (((qX s (c::r):Nat):Int)+1),(d:Int),l,()))=_
     rw[ZG d l h hs]
   unfold vc
   by_cases hc:p c=true
   ·rw[if_pos hc]at e ⊢
    exact(xV e).trans (ih n (xR h) (by omega) (by omega))
   ·rw[if_neg hc]at e ⊢
    exact q9 e
theorem sk(s:zh)(hs:s.length≤1000000)(d:Nat)(l:Bool)(is:Int→T Bool)(p:UInt8→Bool)(hp:∀ b:UInt8,(is (b.toNat:Int)).run=some (p b))(m:Nat)(hm:m≤1000000)(r:zh)(h:r <:+ s) :
  (qN is (m:Int) (qt s r d l)).run=some ((vc p m r).1,qt s (vc p m r).2 d l):=by
 unfold qN
 have h2:=List.IsSuffix.trans (dD p m r) h
 have h3:=VM (dD p m r) h
 have h4:qX s (vc p m r).2≤s.length:=by unfold qX; omega
 rw[vp,z6 (Yo s hs d l is p hp (qX s r) m hm m r h (Nat.le_refl _) (by omega))]
 rw[vp,wH,zq ⟨by omega,by omega,by omega⟩,z8,QH h (iM p m r)]
inductive PR where
 | no
 | er (k:Int) (bad r:zh) (d:Nat) (l:Bool)
 | ok (e:Expr) (r:zh) (l:Bool)
def PR.bind:PR→(Expr→zh→Bool→PR)→PR
 | .no,_=>.no
 | .er k b r d l,_=>.er k b r d l
 | .ok e r l,f=>f e r l
def xa(k:Int)(l:List Expr):Expr:=.mk k zF [] l
def yz(t:zh):Rat:=match nQ t with | some (n,d)=>wK (List.isPrefixOf [45] t) n d | none=>zF
def nC(z:Rat)(t r:zh)(l:Bool):PR:=if 400<t.length then .ok (.mk 1 z [] []) r true else .ok (.mk 1 (yz t) [] []) r l
def iC(z:Rat)(d:Nat)(r:zh)(l:Bool):PR:=match r.dropWhile xY with
 | []=>nC z (r.takeWhile xY) [] l
 | c::q=>if c=46 then(if q.takeWhile xY=[]then .er 2 q q d l else nC z (r.takeWhile xY++(46::q.takeWhile xY)) (q.dropWhile xY) l)
  else nC z (r.takeWhile xY) (c::q) l
def KK(r:zh)(l:Bool):PR:=.ok (.mk 2 zF (vc qT 24 r).1 []) (vc qT 24 r).2 l
def u9(K:Bool→zh→PR)(m1 m2:UInt8)(k1 k2:Int):Nat→Expr→zh→Bool→PR
 | 0,_,_,_=>.no
 | n+1,e,r,l=>match qu [m1,m2] r with
  | none=>.ok e (wV r) l
  | some (c,q)=>(K l q).bind fun e2 q2 l2=>u9 K m1 m2 k1 k2 n (xa (if c=m1 then k1 else k2) [e,e2]) q2 l2
def rowP(K:Bool→zh→PR)(m1 m2:UInt8)(k1 k2:Int)(n:Nat)(l:Bool)(r:zh):PR:=(K l r).bind fun e q l'=>u9 K m1 m2 k1 k2 n e q l'
def cj(z:Rat)(F S:Nat→Bool→zh→PR)(d:Nat)(l:Bool)(s:zh):PR:=match wV s with
 | []=>.er 2 [] [] d l
 | c::r =>
  if c=45 then(if 31≤d then .er 4 (c::r) r (d+1) l else(F (d+1) l r).bind fun e q l'=>.ok (xa 7 [e]) q l')
  else if c=40 then(if 31≤d then .er 4 (c::r) r (d+1) l else(S (d+1) l r).bind fun e q l'=>match qu [41] q with
   | some (_,q')=>.ok e q' l'
   | none=>.er 2 (wV q) (wV q) (d+1) l')
  else if xY c=true then iC z d (c::r) l
  else if ru c=true then KK (c::r) l
  else .er 2 (c::r) (c::r) d l
mutual
def pF(z:Rat):Nat→Nat→Bool→zh→PR
 | 0,_,_,_=>.no
 | n+1,d,l,s=>cj z (pF z n) (pS z n) d l s
def pP(z:Rat):Nat→Nat→Bool→zh→PR
 | 0,_,_,_=>.no
 | n+1,d,l,s=>rowP (pF z n d) 42 47 5 6 n l s
def pS(z:Rat):Nat→Nat→Bool→zh→PR
 | 0,_,_,_=>.no
 | n+1,d,l,s=>rowP (pP z n d) 43 45 3 4 n l s
end
def PR.ij(s:zh):PR→Prop
 | .no=>True
 | .er _ b r _ _=>b <:+ s∧r <:+ s
 | .ok _ r _=>r <:+ s
theorem PR.oL{s:zh}{R:PR}{f:Expr→zh→Bool→PR}(h:R.ij s)(hf:∀ e r l,r <:+ s→(f e r l).ij s):(R.bind f).ij s:=by
 cases R with
 | no=>trivial
 | er=>exact h
 | ok e r l=>exact hf e r l h
theorem kv{m r q:zh}{c:UInt8}(h:qu m r=some (c,q)):(c::q) <:+ r∧m.contains c=true∧wV r=c::q:=by
 have:=wD r
 unfold qu at h
 split at h
 ·cases h
 ·rename_i c' q' e
  split at h
  ·cases h; rw[e]at this; exact⟨this,by assumption,e⟩
  ·cases h
theorem Zd{s r t:zh}{z:Rat}{l:Bool}(h:r <:+ s):(nC z t r l).ij s:=by unfold nC; split<;>exact h
theorem kC(p:UInt8→Bool)(r:zh):r.dropWhile p <:+ r:=List.dropWhile_suffix p
theorem EM{s r:zh}{z:Rat}{d:Nat}{l:Bool}(h:r <:+ s):(iC z d r l).ij s:=by
 have hd:=kC xY r
 unfold iC
 split
 ·exact Zd List.nil_suffix
 ·rename_i c q e
  rw[e]at hd
  have hq:=(xR hd).trans h
  split
  ·split
   ·exact⟨hq,hq⟩
   ·exact Zd ((kC xY q).trans hq)
  ·exact Zd (hd.trans h)
theorem Ji{s:zh}{K:Bool→zh→PR}(hK:∀ l r,r <:+ s→(K l r).ij s)(m1 m2:UInt8)(k1 k2:Int):∀ (n:Nat) (e:Expr) (r:zh) (l:Bool),r <:+ s→(u9 K m1 m2 k1 k2 n e r l).ij s
 | 0,_,_,_,_=>trivial
 | n+1,e,r,l,h=>by
  unfold u9
  split
  ·exact(wD r).trans h
  ·rename_i c q ht
   have hq:=(xR (kv ht).1).trans h
   exact PR.oL (hK l q hq) fun e2 q2 l2 h2=>Ji hK m1 m2 k1 k2 n _ q2 l2 h2
theorem UQ{s:zh}{K:Bool→zh→PR}(hK:∀ l r,r <:+ s→(K l r).ij s)(m1 m2:UInt8)(k1 k2:Int)(n:Nat)(l:Bool)(r:zh)(h:r <:+ s):(rowP K m1 m2 k1 k2 n l r).ij s :=
 PR.oL (hK l r h) fun _ _ _ h2=>Ji hK m1 m2 k1 k2 n _ _ _ h2
theorem FG{s:zh}{z:Rat}{F S:Nat→Bool→zh→PR}(hF:∀ d l r,r <:+ s→(F d l r).ij s)(hS:∀ d l r,r <:+ s→(S d l r).ij s)(d:Nat)(l:Bool)(r:zh)(h:r <:+ s):(cj z F S d l r).ij s:=by
 have hk:=(wD r).trans h
 unfold cj
 split
 ·exact⟨List.nil_suffix,List.nil_suffix⟩
 ·rename_i c q e
  rw[e]at hk
  have hq:=xR hk
  split
  ·split
   ·exact⟨hk,hq⟩
   ·exact PR.oL (hF _ _ _ hq) fun _ _ _ h2=>h2
  ·split
   ·split
    ·exact⟨hk,hq⟩
    ·refine PR.oL (hS _ _ _ hq) fun e2 q2 l2 h2 => ?_
     split
     ·rename_i ht
      exact(xR (kv ht).1).trans h2
     ·exact⟨(wD q2).trans h2,(wD q2).trans h2⟩
   ·split
    ·exact EM hk
    ·split
     ·exact(dD qT 24 (c::q)).trans hk
     ·exact⟨hk,hk⟩
theorem Zo(z:Rat)(s:zh):∀ (n:Nat),(∀ d l r,r <:+ s→(pF z n d l r).ij s)∧(∀ d l r,r <:+ s→(pP z n d l r).ij s)∧(∀ d l r,r <:+ s→(pS z n d l r).ij s)
 | 0=>⟨fun _ _ _ _=>by unfold pF; trivial,fun _ _ _ _=>by unfold pP; trivial,fun _ _ _ _=>by unfold pS; trivial⟩
 | n+1=>by
  obtain⟨h1,h2,h3⟩:=Zo z s n
  refine⟨fun d l r h => ?_,fun d l r h => ?_,fun d l r h => ?_⟩
  ·unfold pF; exact FG h1 h3 d l r h
  ·unfold pP; exact UQ (h1 d) _ _ _ _ n l r h
  ·unfold pS; exact UQ (h2 d) _ _ _ _ n l r h
def b9(s:zh)(d:Nat):PR→Option ((AM.Expr×zd)⊕(zO×zd))
 | .no=>none
 | .er k b r d' l=>some (.inr ((k,(((qX s b:Nat):Int),())),qt s r d' l))
 | .ok e r l=>some (.inl (e,qt s r d l))
theorem Ky(e a:Int)(p:zd):(xy e a p).run=some (.inr ((e,(a,())),p)):=rfl
theorem Gr(s:zh)(hs:s.length≤1000000){c:UInt8}{r:zh}(h:(c::r) <:+ s)(d:Nat)(hd:d≤31)(l:Bool):(wA (qt s r d l)).run=some (if 31≤d then .inr ((4,(((qX s (c::r):Nat):Int),())),qt s r (d+1) l)else .inl (qt s r (d+1) l)):=by
 have hp:=wG h
 have e:((qt s r d l).1,((qt s r d l).2.1,((zr ((qt s r d l).2.2.1+(1:Int))),((qt s r d l).2.2.2.1,()))))=qt s r (d+1) l:=by
  rw[QK,zJ (by omega) (by omega)]; rfl
 unfold wA
 rw[e,QK,vp,zJ (by omega) (by omega),zJ (by omega) (by omega)]
 by_cases c1:31≤d
 ·rw[if_pos c1,zc (decide_eq_true (by omega)),z6 (Ky _ _ _),Sum.elim_inr,z8,show((qX s r:Nat):Int)-1=((qX s (c::r):Nat):Int) by omega]
 ·rw[if_neg c1,za (decide_eq_false (by omega)),z8]
theorem Qw(r:zh):qD (r.takeWhile xY)=true:=by
 unfold qD
 induction r with
 | nil=>rfl
 | cons c r ih =>
  rw[List.takeWhile_cons]
  split
  ·rename_i hc; rw[List.all_cons,ih,hc]; rfl
  ·rfl
theorem k9(p:UInt8→Bool)(r:zh):r.takeWhile p++r.dropWhile p=r:=List.takeWhile_append_dropWhile
theorem Gn(s:zh)(hs:s.length≤1000000)(d:Nat)(l:Bool)(r:zh)(h:r <:+ s):(vG (qt s r d l)).run=b9 s d (iC zF d r l):=by
 have DL:=kC xY r
 have hl:=h.length_le
 have hw:=sk s hs d l (fun z0=>xw z0) xY mO s.length hs r h
 rw[Zr xY s.length r hl]at hw
 -- what is done with the text
 have fin:∀ (t q:zh),(T.ite (decide ((400:Int)<(Nat.cast (List.length t):Int)))
    (.ret (.inl ((Expr.mk (1:Int) (false,(([]:List Int),(([]:List Int),()))) ([]:zh) ([]:List AM.Expr)),((qt s q d l).1,((qt s q d l).2.1,((qt s q d l).2.2.1,(true,())))))))
    (T.bind (jk t) fun(r,r1) =>
     .ret (.inl ((Expr.mk (1:Int) (r.1,(r.2.1,(r.2.2.1,()))) ([]:zh) ([]:List AM.Expr)),(qt s q d l)))):T ((AM.Expr×zd)⊕(zO×zd))).run=b9 s d (nC zF t q l):=by
  intro t q
  unfold nC
  by_cases c1:400<t.length
  ·rw[if_pos c1,zc (decide_eq_true (by omega)),z8]; rfl
  ·rw[if_neg c1,za (decide_eq_false (by omega)),z6 (da t (by omega)),if_neg c1]
   unfold yz
   cases nQ t with
   | none=>rfl
   | some x=>rfl
 unfold vG iC
 rw[wH,z6 hw]
 dsimp only
 cases e:r.dropWhile xY with
 | nil =>
  rw[e]at DL
  rw[z6 (a:=.inl (r.takeWhile xY,qt s [] d l,Expr.mk 0 (false,([],([],()))) [] [])) (by rw[vp,wH,di,zq (fun h=>by cases h),Bool.false_and,zm,z8]),Sum.elim_inl]
  exact fin _ _
 | cons c q =>
  rw[e]at DL
  have Xk:=DL.trans h
  have hq:=xR Xk
  have nW:=wG Xk
  dsimp only
  by_cases hc:c=46
  ·rw[if_pos hc]
   have mW:=sk s hs d l (fun z0=>xw z0) xY mO s.length hs q hq
   rw[Zr xY s.length q hq.length_le]at mW
   have z6j:(r.takeWhile xY).length≤1000000:=by have:=congrArg List.length (k9 xY r); rw[List.length_append]at this; omega
   have z6z:(q.takeWhile xY).length≤1000000:=by have:=congrArg List.length (k9 xY q); rw[List.length_append]at this; have:=hq.length_le; omega
   have cond:((decide (((qX s (c::q):Nat):Int)<(s.length:Int)))&&((zo s ((qX s (c::q):Nat):Int))==(46:Int)))=true:=by
    rw[gY Xk,Bool.true_and,vi Xk,show((c.toNat:Int)==46)=decide (c=46)from mY c 46]; simpa using hc
   have st:(((qt s (c::q) d l).1,((zr ((qt s (c::q) d l).2.1+(1:Int))),((qt s (c::q) d l).2.2.1,((qt s (c::q) d l).2.2.2.1,())))):zd)=qt s q d l:=ZG d l Xk hs
   by_cases YS:q.takeWhile xY=[]
   ·rw[if_pos YS,z6 (a:=.inr ((2,(((qX s q:Nat):Int),())),qt s q d l,Expr.mk 0 (false,([],([],()))) [] [])),Sum.elim_inr]
    ·rfl
    ·rw[st,vp,wH,zq (fun _=>uh Xk),zc cond,z6 mW,zc (by rw[wI]; simpa using YS)]
     have:q.dropWhile xY=q:=by have:=k9 xY q; rw[YS]at this; simpa using this
     rw[this,z6 (Ky _ _ _),Sum.elim_inr,z8,vp]
   ·rw[if_neg YS,z6 (a:=.inl (cat (r.takeWhile xY) (cat [46] (q.takeWhile xY)),qt s (q.dropWhile xY) d l,Expr.mk 0 (false,([],([],()))) [] [])),Sum.elim_inl]
    ·exact fin _ _
    ·rw[st,vp,wH,zq (fun _=>uh Xk),zc cond,z6 mW,za (by rw[wI]; simpa using YS),qm _ (by simp; omega),qm _ (by simp[gO]; omega),z8]
  ·rw[if_neg hc,z6 (a:=.inl (r.takeWhile xY,qt s (c::q) d l,Expr.mk 0 (false,([],([],()))) [] [])),Sum.elim_inl]
   ·exact fin _ _
   ·rw[vp,wH,zq (fun _=>uh Xk),za (by rw[gY Xk,Bool.true_and,vi Xk,show((c.toNat:Int)==46)=decide (c=46)from mY c 46]; simpa using hc),z8]
abbrev KT:=zd→T ((AM.Expr×zd)⊕(zO×zd))
abbrev zE:Expr:=Expr.mk (0:Int) (false,(([]:List Int),(([]:List Int),()))) ([]:zh) ([]:List AM.Expr)
noncomputable def Q3 (K:KT) (gT:zh) (ez:zO):(zd×AM.Expr×AM.Expr)→T ((zd×AM.Expr×AM.Expr)⊕((zd×AM.Expr×AM.Expr)⊕(zO×zd×AM.Expr×AM.Expr)))
 | (v,v1,v2) =>
  T.bind (qM gT v) fun(c,p3) =>
  .ite (c==(0:Int))
   (.ret (.inr (.inl (p3,(v2,v2)))))
   (T.bind (K p3) <|
     Sum.elim (fun(r1,p4) =>
      T.bind (strings_IndexByte gT c) fun r2 =>
      .zj (zt r2 (2:Nat)) <|
      .ret (.inl (p4,(v1,(Expr.mk (lF (.int .i64) zU ez (Int.toNat r2)) (false,(([]:List Int),(([]:List Int),()))) ([]:zh) ([v2,r1]:List AM.Expr))))))
     (fun(pv1,p5) =>
      .ret (.inr (.inr (pv1,(p5,(v1,v2)))))))
noncomputable def M3 (K:KT) (marks:zh) (kinds:zO) (p:zd):T ((AM.Expr×zd)⊕(zO×zd)) :=
 T.bind (K p) <|
  Sum.elim (fun(r,p1) =>
   T.bind (T.loop (Q3 K marks kinds) (p1,(zE,r))) <|
    Sum.elim (fun(v3,v4,v5) =>
     .ret (.inl (v4,v3)))
    (fun(p6,v6,v7,v8) =>
     .ret (.inr (p6,v6))))
  (fun(pv,p2) =>
   .ret (.inr (pv,p2)))
theorem z5k{m1 m2 c:UInt8}(h:[m1,m2].contains c=true):iw [m1,m2] c=if c=m1 then 0 else 1:=by
 unfold iw
 by_cases h1:c=m1
 ·subst h1; simp
 ·have sF:(m1==c)=false:=by simpa using fun e:m1=c=>h1 e.symm
  have h2:c=m2:=by simpa[h1]using h
  subst h2
  rw[sF,if_neg h1]
  unfold iw
  simp
theorem UF(s:zh)(hs:s.length≤1000000)(d:Nat)(K:KT)(Ks:Bool→zh→PR)(hK:∀ l r,r <:+ s→Ks l r≠.no→(K (qt s r d l)).run=b9 s d (Ks l r))(hx:∀ l r,r <:+ s→(Ks l r).ij s)(m1 m2:UInt8)(HX:m1≠0)(tW:m2≠0)(k1 k2:Int) :
  ∀ (n:Nat) (e:Expr) (r:zh) (l:Bool),r <:+ s→u9 Ks m1 m2 k1 k2 n e r l≠.no →
   match u9 Ks m1 m2 k1 k2 n e r l with
   | .no=>True
   | .ok e' r' l'=>(T.loop (Q3 K [m1,m2] (k1,(k2,()))) (qt s r d l,(zE,e))).run=some (.inl (qt s r' d l',(e',e')))
   | .er k b r' d' l'=>∃ x,(T.loop (Q3 K [m1,m2] (k1,(k2,()))) (qt s r d l,(zE,e))).run=some (.inr ((k,(((qX s b:Nat):Int),())),(qt s r' d' l',(zE,x))))
 | 0,_,_,_,_,hn=>absurd rfl hn
 | n+1,e,r,l,h,hn=>by
  have ht:=od s hs d l r h [m1,m2]
  unfold u9 at hn ⊢
  cases q:qu [m1,m2] r with
  | none =>
   rw[q]at ht
   dsimp only
   refine q9 ?_
   unfold Q3
   dsimp only
   rw[z6 ht]
   rfl
  | some x =>
   obtain⟨c,q'⟩:=x
   rw[q]at ht hn
   dsimp only at ht hn ⊢
   have NF:=kv q
   have hq:=(xR NF.1).trans h
   have hc0:((c.toNat:Int)==0)=false:=by
    rw[show((c.toNat:Int)==0)=decide (c=0)from mY c 0]
    have h2:c=m1∨c=m2:=by simpa using NF.2.1
    rcases h2 with rfl | rfl<;>simpa
   have nL:=hK l q' hq
   have rA:=hx l q' hq
   cases z:Ks l q' with
   | no=>rw[z]at hn; exact absurd rfl hn
   | er k b r' d' l' =>
    rw[z]at nL
    have nL:=nL (by simp)
    refine⟨e,q9 ?_⟩
    unfold Q3
    dsimp only
    rw[z6 ht]
    dsimp only
    rw[za hc0,z6 nL]
    rfl
   | ok e2 r2 l2 =>
    rw[z]at nL hn rA
    have nL:=nL (by simp)
    have hi:(strings_IndexByte [m1,m2] (c.toNat:Int)).run=some (iw [m1,m2] c):=by unfold strings_IndexByte; rw[z8,Qz]
    have step:(Q3 K [m1,m2] (k1,(k2,())) (qt s r d l,(zE,e))).run=some (.inl (qt s r2 d l2,(zE,xa (if c=m1 then k1 else k2) [e,e2]))):=by
     unfold Q3
     dsimp only
     rw[z6 ht]
     dsimp only
     rw[za hc0,z6 nL,Sum.elim_inl,z6 hi,z5k NF.2.1]
     by_cases hc:c=m1
     ·rw[if_pos hc,if_pos hc,zq ⟨by omega,by omega⟩,z8]
      rfl
     ·rw[if_neg hc,if_neg hc,zq ⟨by omega,by omega⟩,z8]
      rfl
    rw[xV step]
    exact UF s hs d K Ks hK hx m1 m2 HX tW k1 k2 n _ r2 l2 rA hn
theorem Kx(s:zh)(hs:s.length≤1000000)(d:Nat)(K:KT)(Ks:Bool→zh→PR)(hK:∀ l r,r <:+ s→Ks l r≠.no→(K (qt s r d l)).run=b9 s d (Ks l r))(hx:∀ l r,r <:+ s→(Ks l r).ij s)(m1 m2:UInt8)(HX:m1≠0)(tW:m2≠0)(k1 k2:Int)
  (n:Nat) (l:Bool) (r:zh) (h:r <:+ s) (hn:rowP Ks m1 m2 k1 k2 n l r≠.no):(M3 K [m1,m2] (k1,(k2,())) (qt s r d l)).run=b9 s d (rowP Ks m1 m2 k1 k2 n l r):=by
 have nL:=hK l r h
 have rA:=hx l r h
 unfold M3
 unfold rowP at hn ⊢
 cases z:Ks l r with
 | no=>rw[z]at hn; exact absurd rfl hn
 | er k b r' d' l' =>
  rw[z]at nL
  rw[z6 (nL (by simp))]
  rfl
 | ok e r' l' =>
  rw[z]at nL hn rA
  have nL:=nL (by simp)
  have hn:u9 Ks m1 m2 k1 k2 n e r' l'≠.no:=hn
  have hl:=UF s hs d K Ks hK hx m1 m2 HX tW k1 k2 n e r' l' rA hn
  rw[z6 nL,Sum.elim_inl]
  show _=b9 s d (u9 Ks m1 m2 k1 k2 n e r' l')
  cases w:u9 Ks m1 m2 k1 k2 n e r' l' with
  | no=>exact absurd w hn
  | er k b r2 d2 l2 =>
   rw[w]at hl
   obtain⟨x,hl⟩:=hl
   dsimp only
   rw[z6 hl]
   rfl
  | ok e2 r2 l2 =>
   rw[w]at hl
   dsimp only at hl ⊢
   rw[z6 hl]
   rfl
theorem JL(s:zh)(hs:s.length≤1000000)(FT ST:KT)(F S:Nat→Bool→zh→PR)
  (hF:∀ d l r,d≤31→r <:+ s→F d l r≠.no→(FT (qt s r d l)).run=b9 s d (F d l r)) (hS:∀ d l r,d≤31→r <:+ s→S d l r≠.no→(ST (qt s r d l)).run=b9 s d (S d l r))
  (xS:∀ d l r,r <:+ s→(S d l r).ij s) (d:Nat) (l:Bool) (r:zh) (hd:d≤31) (h:r <:+ s) (hn:cj zF F S d l r≠.no):(xU FT ST (qt s r d l)).run=b9 s d (cj zF F S d l r):=by
 have ht:=od s hs d l r h [45,40]
 have hk:=(wD r).trans h
 unfold xU
 unfold cj at hn ⊢
 unfold qu at ht
 -- what deeper ones leave
 have down:∀ (q:zh) (l':Bool),(((qt s q (d+1) l').1,((qt s q (d+1) l').2.1,((zr ((qt s q (d+1) l').2.2.1-(1:Int))),((qt s q (d+1) l').2.2.2.1,())))):zd)=qt s q d l':=by
  intro q l'
  rw[QK,zJ (by omega) (by omega)]
  show(s,(((qX s q:Nat):Int),(((d+1:Nat):Int)-1,(l',()))))=(s,(((qX s q:Nat):Int),((d:Int),(l',()))))
  rw[show((d+1:Nat):Int)-1=(d:Int) by omega]
 cases e:wV r with
 | nil =>
  rw[e]at ht
  dsimp only at ht ⊢
  rw[z6 ht]
  dsimp only
  rw[za (by rfl),za (by rfl)]
  rw[z6 (a:=(false,(qt s [] d l,zE))) (by rw[vp,wH,di,zm,z8])]
  dsimp only
  rw[zm,z6 (a:=(false,(qt s [] d l,zE))) (by rw[vp,wH,di,zm,z8])]
  rfl
 | cons c q =>
  rw[e]at ht hn hk
  have hq:=xR hk
  dsimp only at ht hn ⊢
  have hw:=Gr s hs hk d hd l
  by_cases X5:c=45
  ·subst X5
   rw[if_pos (by decide)]at ht
   dsimp only at ht
   rw[if_pos rfl]at hn ⊢
   rw[z6 ht]
   dsimp only
   rw[zc (by rfl),z6 hw]
   by_cases c31:31≤d
   ·rw[if_pos c31,if_pos c31]; rfl
   ·rw[if_neg c31]at hn
    rw[if_neg c31,if_neg c31,Sum.elim_inl]
    have hf:=hF (d+1) l q (by omega) hq
    cases z:F (d+1) l q with
    | no=>rw[z]at hn; exact absurd rfl hn
    | er k b r' d' l'=>rw[z]at hf; rw[z6 (hf (by simp))]; rfl
    | ok e2 r2 l2 =>
     rw[z]at hf
     rw[z6 (hf (by simp)),Sum.elim_inl]
     dsimp only
     rw[z8,down]
     rfl
  ·rw[if_neg X5]at hn ⊢
   by_cases QY:c=40
   ·subst QY
    rw[if_pos (by decide)]at ht
    dsimp only at ht
    rw[if_pos rfl]at hn ⊢
    rw[z6 ht]
    dsimp only
    rw[za (by rfl),zc (by rfl),z6 hw]
    by_cases c31:31≤d
    ·rw[if_pos c31,if_pos c31]; rfl
    ·rw[if_neg c31]at hn
     rw[if_neg c31,if_neg c31,Sum.elim_inl]
     have hf:=hS (d+1) l q (by omega) hq
     have xf:=xS (d+1) l q hq
     cases z:S (d+1) l q with
     | no=>rw[z]at hn; exact absurd rfl hn
     | er k b r' d' l'=>rw[z]at hf; rw[z6 (hf (by simp))]; rfl
     | ok e2 r2 l2 =>
      rw[z]at hf xf
      rw[z6 (hf (by simp)),Sum.elim_inl]
      dsimp only
      have WU:=od s hs (d+1) l2 r2 xf [41]
      show _=b9 s d (match qu [41] r2 with | some (_,q')=>.ok e2 q' l2 | none=>.er 2 (wV r2) (wV r2) (d+1) l2)
      cases w:qu [41] r2 with
      | none =>
       rw[w]at WU
       dsimp only at WU ⊢
       rw[z6 (a:=.inr ((2,(((qX s (wV r2):Nat):Int),())),(qt s (wV r2) (d+1) l2,(zE,e2)))) (by rw[z6 WU]; rfl)]
       rfl
      | some x =>
       obtain⟨c',q'⟩:=x
       rw[w]at WU
       have hc':=(kv w).2.1
       have hc':c'=41:=by simpa using hc'
       subst hc'
       dsimp only at WU ⊢
       rw[z6 (a:=.inl (qt s q' (d+1) l2,(zE,e2))) (by rw[z6 WU]; rfl),Sum.elim_inl]
       dsimp only
       rw[z8,down]
       rfl
   ·rw[if_neg (by simp[X5,QY])]at ht
    dsimp only at ht
    rw[if_neg QY]at hn ⊢
    rw[z6 ht]
    dsimp only
    rw[za (by rfl),za (by rfl)]
    rw[z6 (a:=(xY c,(qt s (c::q) d l,zE))) (by rw[vp,wH,gY hk,zl,zq (uh hk),vi hk,z6 (mO c),z8])]
    dsimp only
    cases hD:xY c with
    | true =>
     rw[if_pos rfl,zl]
     have nP:=Gn s hs d l (c::q) hk
     cases z:iC zF d (c::q) l with
     | no =>
      exfalso
      rw[if_pos hD,z]at hn
      exact hn rfl
     | er k b r' d' l'=>rw[z]at nP; rw[z6 nP]; rfl
     | ok e2 r2 l2=>rw[z]at nP; rw[z6 nP]; rfl
    | false =>
     rw[if_neg (by simp),zm]
     rw[z6 (a:=(ru c,(qt s (c::q) d l,zE))) (by rw[vp,wH,gY hk,zl,zq (uh hk),vi hk,z6 (Dp c),z8])]
     dsimp only
     cases hL:ru c with
     | true =>
      rw[if_pos rfl,zl]
      have hwl:(qN (fun z0=>wO z0) 24 (qt s (c::q) d l)).run=_:=sk s hs d l (fun z0=>wO z0) qT lG 24 (by omega) (c::q) hk
      rw[z6 hwl]
      rfl
     | false =>
      rw[if_neg (by simp),zm]
      rfl
mutual
def cm(deep:Nat)(left:Int):Expr→Bool×Int
 | .mk k n s l=>if left-1<0∨(decide (deep<32)&&jM (.mk k n s l))=false then(false,left-1)else kM (deep+1) (left-1) l
def kM(deep:Nat)(left:Int):List Expr→Bool×Int
 | []=>(true,left)
 | e::r=>if(cm deep left e).1=true then kM deep (cm deep left e).2 r else(false,(cm deep left e).2)
end
mutual
theorem V1:∀ (e:Expr) (d:Nat) (left:Int),0≤left→(cm d left e).1=(uI d e&&decide ((wo e:Int)≤left))∧((cm d left e).1=true→(cm d left e).2=left-wo e)∧(cm d left e).2≤left ∧ -1≤(cm d left e).2
 | .mk k n s l,d,left,h=>by
  have e1:uI d (.mk k n s l)=((decide (d<32)&&jM (.mk k n s l))&&kQ (d+1) l):=by unfold uI; rw[Bool.and_assoc]
  have e2:wo (.mk k n s l)=1+vA l:=rfl
  unfold cm
  rw[e1,e2]
  by_cases c:left-1<0
  ·rw[if_pos (.inl c)]
   refine⟨?_,fun h=>by simp at h,by omega,by dsimp only; omega⟩
   dsimp only
   rw[show decide (((1+vA l:Nat):Int)≤left)=false from decide_eq_false (by omega),Bool.and_false]
  ·cases q:(decide (d<32)&&jM (.mk k n s l))with
   | false=>rw[if_pos (.inr rfl)]; exact⟨rfl,fun h=>by simp at h,by dsimp only; omega,by dsimp only; omega⟩
   | true =>
    rw[if_neg (by rintro(h | h); exact c h; simp at h),Bool.true_and]
    obtain⟨h1,h2,h3,h4⟩:=JN l (d+1) (left-1) (by omega)
    refine⟨?_,fun h=>by rw[h2 h]; omega,by omega,by omega⟩
    rw[h1]
    congr 1
    exact decide_eq_decide.2 (by omega)
theorem JN:∀ (l:List Expr) (d:Nat) (left:Int),0≤left→(kM d left l).1=(kQ d l&&decide ((vA l:Int)≤left))∧((kM d left l).1=true→(kM d left l).2=left-vA l)∧(kM d left l).2≤left ∧ -1≤(kM d left l).2
 | [],d,left,h=>by
  refine⟨?_,fun _ => ?_,Int.le_refl _,?_⟩
  ·show true=(true&&decide (((0:Nat):Int)≤left)); simp; omega
  ·show left=left-((0:Nat):Int); omega
  ·show -1≤left; omega
 | e::r,d,left,h=>by
  have e1:kQ d (e::r)=(uI d e&&kQ d r):=rfl
  have e2:vA (e::r)=wo e+vA r:=rfl
  obtain⟨h1,h2,h3,h4⟩:=V1 e d left h
  unfold kM
  rw[e1,e2]
  cases q:(cm d left e).1 with
  | false =>
   rw[if_neg (by simp)]
   refine⟨?_,fun h=>by simp at h,h3,h4⟩
   dsimp only
   rw[q]at h1
   cases ho:uI d e with
   | false=>rfl
   | true =>
    rw[ho,Bool.true_and]at h1
    have:=of_decide_eq_false h1.symm
    rw[show decide (((wo e+vA r:Nat):Int)≤left)=false from decide_eq_false (by omega),Bool.and_false]
  | true =>
   rw[if_pos rfl]
   have hq:=h2 q
   rw[q]at h1
   have h1:=h1.symm
   rw[Bool.and_eq_true,decide_eq_true_eq]at h1
   obtain⟨g1,g2,g3,g4⟩:=JN r d (cm d left e).2 (by omega)
   refine⟨?_,fun h=>by rw[g2 h]; omega,by omega,by omega⟩
   rw[g1,h1.1,Bool.true_and]
   congr 1
   exact decide_eq_decide.2 (by omega)
end
theorem GI(e:Expr)(deep:Nat)(left:Int)(h:allOk e)(hl:wo e≤1000000)(hl0:0≤left)(cx:left≤100000)(hd:deep≤32):(bE e (deep:Int) left).run=some (cm deep left e):=by
 unfold bE
 refine eA (fun x:Expr×Int×Int=>allOk x.1∧0≤x.2.1∧x.2.1≤32∧wo x.1≤1000000∧0≤x.2.2∧x.2.2≤100000) (fun x=>wo x.1) (fun x=>cm x.2.1.toNat x.2.2 x.1) (fun x hx g hg => ?_) (x:=(e,(deep:Int),left)) ⟨h,by dsimp only; omega,by dsimp only; omega,by dsimp only; omega,by dsimp only; omega,by dsimp only; omega⟩
 obtain⟨e,d,L⟩:=x
 obtain⟨ha,N3,Hk,hn,z5O,hlf⟩:=hx
 dsimp only at ha N3 Hk hn z5O hlf
 obtain⟨D,rfl⟩:∃ D:Nat,d=(D:Int):=⟨d.toNat,by omega⟩
 cases e with | mk k n s kids =>
 obtain⟨nP,Iz⟩:=ha
 have Lp:wo (.mk k n s kids)=1+vA kids:=by unfold wo; rfl
 rw[Lp]at hn
 have ew:zr (L-1)=L-1:=zJ (by omega) (by omega)
 have z0P:=YP (.mk k n s kids) nP
 simp only[Int.toNat_natCast]
 unfold bc
 rw[ew]
 have head:((.ite (decide ((L-1)<(0:Int))) (.ret (true,L-1)) (.ite (decide ((32:Int)≤(D:Int))) (.ret (true,L-1)) (T.bind (gp (.mk k n s kids)) fun r=>.ret ((!r),L-1)))):T (Bool×Int)).run =
   some (decide (L-1<0∨(decide (D<32)&&jM (.mk k n s kids))=false),L-1):=by
  by_cases c0:L-1<0
  ·rw[zc (decide_eq_true c0),z8,decide_eq_true (.inl c0)]
  ·rw[za (decide_eq_false c0)]
   by_cases c:D<32
   ·rw[za (decide_eq_false (by omega)),z6 z0P,z8,decide_eq_true c,Bool.true_and]
    cases jM (.mk k n s kids)<;>simp[c0]
   ·rw[zc (decide_eq_true (by omega)),z8,decide_eq_false c,Bool.false_and]
    simp
 rw[z6 head]
 dsimp only
 unfold cm
 by_cases q:L-1<0∨(decide (D<32)&&jM (.mk k n s kids))=false
 ·rw[zc (decide_eq_true q),z8,if_pos q]
 ·rw[za (decide_eq_false q),if_neg q]
  have q1:¬ L-1<0:=fun h=>q (.inl h)
  have hD:D<32:=by
   by_cases c:D<32
   ·exact c
   ·exact absurd (.inr (by rw[decide_eq_false c]; rfl)) q
  have ed:zr ((D:Int)+1)=((D+1:Nat):Int):=by rw[zJ (by omega) (by omega)]; omega
  have loop:∃ z,(qk (fun y0 y1 y2=>g (y0,y1,y2)) kids (kids.length:Int) (((D:Int),()),((0:Int),L-1))).run=some z ∧
    (((kM (D+1) (L-1) kids).1=true∧z=.inl (kM (D+1) (L-1) kids).2)∨((kM (D+1) (L-1) kids).1=false∧∃ i:Int,0≤i∧z=.inr (i,(kM (D+1) (L-1) kids).2))):=by
   refine T.qL (r:=zX (fun y0 y1 y2=>g (y0,y1,y2)) kids (kids.length:Int)) (fun st:(Int×Unit)×Int×Int=>∃ (j:Nat) (B:Int),st=(((D:Int),()),(j:Int),B)∧j≤kids.length∧0≤B∧B≤100000 ∧
    kM (D+1) B (kids.drop j)=kM (D+1) (L-1) kids) (fun st=>kids.length-st.2.1.toNat) _ (fun st xh => ?_) ⟨0,L-1,rfl,by omega,by omega,by omega,by rw[List.drop_zero]⟩
   obtain⟨j,B,rfl,hj,hB0,hB,Lr⟩:=xh
   by_cases c:j<kids.length
   ·have DL:kids.drop j=kids[j]::kids.drop (j+1):=List.drop_eq_getElem_cons c
    rw[DL]at Lr
    rw[show kM (D+1) B (kids[j]::kids.drop (j+1))=if(cm (D+1) B kids[j]).1=true then kM (D+1) (cm (D+1) B kids[j]).2 (kids.drop (j+1))else(false,(cm (D+1) B kids[j]).2)from rfl]at Lr
    have tF:=dX Iz _ (List.getElem_mem c)
    have FP:=V1 kids[j] (D+1) B hB0
    have Eg:wo kids[j]<1+vA kids:=by have:=iO (List.getElem_mem c); omega
    have J1:=hg (kids[j],((D+1:Nat):Int),B) ⟨tF,by dsimp only; omega,by dsimp only; omega,by dsimp only; omega,by dsimp only; omega,by dsimp only; omega⟩ (by dsimp only; rw[Lp]; exact Eg)
    dsimp only at J1
    simp only[Int.toNat_natCast]at J1
    have hf:(gn (fun y0 y1 y2=>g (y0,y1,y2)) kids[j] (D:Int) B).run=some (!(cm (D+1) B kids[j]).1,(cm (D+1) B kids[j]).2):=by
     unfold gn
     rw[ed,z6 J1]; rfl
    unfold zX
    dsimp only
    rw[zc (pA c),zq (vo c),lB c,z6 hf]
    dsimp only
    cases hk:(cm (D+1) B kids[j]).1 with
    | true =>
     left
     rw[hk,if_pos rfl]at Lr
     rw[za (by rfl),z8]
     have hlen:=rl kids
     rw[Lh j _ c (by omega)]
     have hb:=FP.1
     rw[hk]at hb
     have hb:=hb.symm
     rw[Bool.and_eq_true,decide_eq_true_eq]at hb
     have h2:=FP.2.1 hk
     refine⟨_,rfl,⟨j+1,(cm (D+1) B kids[j]).2,rfl,c,by omega,by omega,Lr⟩,?_⟩
     simp only[Int.toNat_natCast]
     omega
    | false =>
     right
     rw[hk,if_neg (by simp)]at Lr
     rw[zc (by rfl),z8]
     exact⟨_,rfl,.inr ⟨by rw[← Lr],(j:Int),by omega,by rw[← Lr]⟩⟩
   ·right
    have hj2:j=kids.length:=by omega
    subst hj2
    rw[List.drop_length]at Lr
    unfold zX
    dsimp only
    rw[za (J9 _),z8]
    exact⟨_,rfl,.inl ⟨by rw[← Lr]; rfl,by rw[← Lr]; rfl⟩⟩
  obtain⟨z,hz,hc⟩:=loop
  have hcf:(ql (fun y0 y1 y2=>g (y0,y1,y2)) kids ((D:Int),()) (L-1)).run=some (!(kM (D+1) (L-1) kids).1,(kM (D+1) (L-1) kids).2):=by
   unfold ql qZ
   rcases hc with⟨ho,rfl⟩ | ⟨ho,i,hi,rfl⟩
   ·have:((T.bind (qk (fun y0 y1 y2=>g (y0,y1,y2)) kids (kids.length:Int) (((D:Int),()),((0:Int),L-1)))<|Sum.elim (fun v2=>.ret ((-1:Int),v2)) (fun(x2,v3)=>.ret (x2,v3))):T (Int×Int)).run=some (-1,(kM (D+1) (L-1) kids).2):=by
     rw[z6 hz]; rfl
    rw[z6 this,ho]; rfl
   ·have:((T.bind (qk (fun y0 y1 y2=>g (y0,y1,y2)) kids (kids.length:Int) (((D:Int),()),((0:Int),L-1)))<|Sum.elim (fun v2=>.ret ((-1:Int),v2)) (fun(x2,v3)=>.ret (x2,v3))):T (Int×Int)).run=some (i,(kM (D+1) (L-1) kids).2):=by
     rw[z6 hz]; rfl
    rw[z6 this,ho,z8,decide_eq_true hi]; rfl
  rw[show Expr.kids (.mk k n s kids)=kids from rfl,z6 hcf]
  dsimp only
  rw[z8,Bool.not_not]
def sn(e:Expr):Bool:=uI 0 e&&decide (wo e≤256)
theorem XN(e:Expr)(h:allOk e)(hn:wo e≤1000000):(pI e).run=some (sn e):=by
 unfold pI sn
 have:=GI e 0 256 h hn (by omega) (by omega) (by omega)
 have this:(bE e 0 256).run=some (cm 0 256 e):=this
 rw[z6 this,z8,(V1 e 0 256 (by omega)).1]
 congr 2
 exact decide_eq_decide.2 (by omega)
theorem ym(e:Expr)(h:allOk e)(hb:bkE e≤1000000000)(hn:wo e≤100000):(jW e).run=some (sn e):=by
 unfold jW sn
 have h1:(dN e 1).run=some (uI 0 e):=Bp e 0 h (by omega) (by omega)
 rw[z6 h1]
 cases uI 0 e with
 | false=>rfl
 | true =>
  rw[zl,z6 (iV e hb),z8]
  congr 1
  rw[Bool.true_and]
  exact decide_eq_decide.2 (by omega)
def kt(e:Expr):Prop:=allOk e∧bkE e≤300*wo e
def PR.yJ(N:Nat):PR→Prop
 | .ok e r _=>kt e∧wo e+r.length≤N
 | _=>True
theorem pq(e:Expr):1≤wo e:=by cases e; unfold wo; omega
theorem xW:jt zF:=⟨kO,kO,by show(0:Nat)≤100; omega,by show(0:Nat)≤100; omega⟩
theorem uB(k:Int)(n:Rat)(s:zh)(hn:jt n)(hs:s.length≤24):kt (.mk k n s []):=by
 refine⟨⟨hn,trivial⟩,?_⟩
 have h3:=hn.2.2.1
 have h4:=hn.2.2.2
 show 1+((1+((List.length n.2.1+1)+((List.length n.2.2.1+1)+1)))+((List.length s+1)+((0+1)+1)))≤300*(1+0)
 omega
theorem QV(k:Int){a:Expr}(h:kt a):kt (xa k [a]):=by
 refine⟨⟨xW,h.1,trivial⟩,?_⟩
 show 1+((1+((0+1)+((0+1)+1)))+((0+1)+(((bkE a+0)+1)+1)))≤300*(1+(wo a+0))
 have:=h.2
 omega
theorem yS(k:Int){a b:Expr}(h:kt a)(h2:kt b):kt (xa k [a,b]):=by
 refine⟨⟨xW,h.1,h2.1,trivial⟩,?_⟩
 show 1+((1+((0+1)+((0+1)+1)))+((0+1)+(((bkE a+(bkE b+0))+1)+1)))≤300*(1+(wo a+(wo b+0)))
 have:=h.2
 have:=h2.2
 omega
theorem nd1(k:Int)(a:Expr):wo (xa k [a])=1+wo a:=rfl
theorem Sd(k:Int)(a b:Expr):wo (xa k [a,b])=1+(wo a+wo b):=rfl
theorem PR.mE{N:Nat}{R:PR}{f:Expr→zh→Bool→PR}{M:Nat}(h:R.yJ M)(hf:∀ e r l,kt e→wo e+r.length≤M→(f e r l).yJ N):(R.bind f).yJ N:=by
 cases R with
 | no=>trivial
 | er=>trivial
 | ok e r l=>exact hf e r l h.1 h.2
theorem H0(t:zh)(ht:t.length≤400):jt (yz t):=by
 unfold yz
 split
 ·rename_i n d h
  have:=Kf (List.isPrefixOf [45] t) ht h
  exact⟨this.1,this.2.1,by have:=this.2.2.1; omega,by have:=this.2.2.2; omega⟩
 ·exact xW
theorem rB{z:Rat}(hz:jt z)(t r:zh)(l:Bool)(N:Nat)(h:r.length+1≤N):(nC z t r l).yJ N:=by
 unfold nC
 split
 ·exact⟨uB 1 z [] hz (by simp),by show 1+0+r.length≤N; omega⟩
 ·exact⟨uB 1 _ [] (H0 t (by omega)) (by simp),by show 1+0+r.length≤N; omega⟩
theorem CD{z:Rat}(hz:jt z)(d:Nat)(c:UInt8)(r:zh)(l:Bool)(hc:xY c=true):(iC z d (c::r) l).yJ (c::r).length:=by
 have hd:(c::r).dropWhile xY=r.dropWhile xY:=by rw[List.dropWhile_cons_of_pos hc]
 have hl:=(kC xY r).length_le
 unfold iC
 rw[hd]
 split
 ·exact rB hz _ _ _ _ (by simp)
 ·rename_i c' q e
  rw[e]at hl
  split
  ·split
   ·trivial
   ·have:=(kC xY q).length_le
    simp only[List.length_cons]at hl
    exact rB hz _ _ _ _ (by simp only[List.length_cons]; omega)
  ·exact rB hz _ _ _ _ (by simp only[List.length_cons]at hl ⊢; omega)
theorem Kd(p:UInt8→Bool):∀ (n:Nat) (r:zh),(vc p n r).1.length≤n
 | 0,_=>by unfold vc; simp
 | _+1,[]=>by unfold vc; simp
 | n+1,c::r=>by
  have:=Kd p n r
  unfold vc
  split
  ·simp only[List.length_cons]; omega
  ·simp
theorem Rf{c:UInt8}(h:ru c=true):qT c=true:=by unfold qT; rw[h]; rfl
theorem CQ(c:UInt8)(r:zh)(l:Bool)(hc:ru c=true):(KK (c::r) l).yJ (c::r).length:=by
 have h1:=Kd qT 24 (c::r)
 have h2:=congrArg List.length (iM qT 24 (c::r))
 have h3:(vc qT 24 (c::r)).1=c::(vc qT 23 r).1:=by
  show(if qT c=true then(c::(vc qT 23 r).1,(vc qT 23 r).2)else([],c::r)).1=_
  rw[if_pos (Rf hc)]
 rw[List.length_append,h3]at h2
 refine⟨uB 2 zF _ xW h1,?_⟩
 show 1+0+(vc qT 24 (c::r)).2.length≤_
 simp only[List.length_cons]at h2 ⊢
 omega
theorem rL{m r q:zh}{c:UInt8}(h:qu m r=some (c,q)):q.length+1≤r.length:=by
 have:=(kv h).1.length_le
 simpa using this
theorem Wx{K:Bool→zh→PR}(hK:∀ l q,(K l q).yJ q.length)(m1 m2:UInt8)(k1 k2:Int):∀ (n:Nat) (e:Expr) (r:zh) (l:Bool) (N:Nat),kt e→wo e+r.length≤N→(u9 K m1 m2 k1 k2 n e r l).yJ N
 | 0,_,_,_,_,_,_=>trivial
 | n+1,e,r,l,N,he,hN=>by
  unfold u9
  split
  ·exact⟨he,by have:=U8 r; omega⟩
  ·rename_i c q ht
   have hq:=rL ht
   refine PR.mE (hK l q) fun e2 q2 l2 h1 h2 => ?_
   refine Wx hK m1 m2 k1 k2 n _ q2 l2 N (yS _ he h1) ?_
   rw[Sd]
   omega
theorem Ww{K:Bool→zh→PR}(hK:∀ l q,(K l q).yJ q.length)(m1 m2:UInt8)(k1 k2:Int)(n:Nat)(l:Bool)(r:zh):(rowP K m1 m2 k1 k2 n l r).yJ r.length :=
 PR.mE (hK l r) fun e q l' h1 h2=>Wx hK m1 m2 k1 k2 n e q l' _ h1 h2
theorem Dd{z:Rat}(hz:jt z){F S:Nat→Bool→zh→PR}(hF:∀ d l q,(F d l q).yJ q.length)(hS:∀ d l q,(S d l q).yJ q.length)(d:Nat)(l:Bool)(r:zh):(cj z F S d l r).yJ r.length:=by
 have hk:=U8 r
 unfold cj
 split
 ·trivial
 ·rename_i c q e
  rw[e]at hk
  simp only[List.length_cons]at hk
  split
  ·split
   ·trivial
   ·refine PR.mE (hF _ _ _) fun e2 r2 l2 h1 h2=>⟨QV 7 h1,?_⟩
    rw[nd1]; omega
  ·split
   ·split
    ·trivial
    ·refine PR.mE (hS _ _ _) fun e2 r2 l2 h1 h2 => ?_
     split
     ·rename_i ht
      have:=rL ht
      exact⟨h1,by omega⟩
     ·trivial
   ·split
    ·rename_i hc
     have:=CD hz d c q l hc
     cases w:iC z d (c::q) l with
     | no=>trivial
     | er=>trivial
     | ok e2 r2 l2=>rw[w]at this; exact⟨this.1,by have:=this.2; simp only[List.length_cons]at this; omega⟩
    ·split
     ·rename_i hc
      have:=CQ c q l hc
      exact⟨this.1,by have:=this.2; simp only[List.length_cons]at this; omega⟩
     ·trivial
theorem VO{z:Rat}(hz:jt z):∀ (n:Nat),(∀ d l r,(pF z n d l r).yJ r.length)∧(∀ d l r,(pP z n d l r).yJ r.length)∧(∀ d l r,(pS z n d l r).yJ r.length)
 | 0=>⟨fun _ _ _=>by unfold pF; trivial,fun _ _ _=>by unfold pP; trivial,fun _ _ _=>by unfold pS; trivial⟩
 | n+1=>by
  obtain⟨h1,h2,h3⟩:=VO hz n
  refine⟨fun d l r => ?_,fun d l r => ?_,fun d l r => ?_⟩
  ·unfold pF; exact Dd hz h1 h3 d l r
  ·unfold pP; exact Ww (h1 d) _ _ _ _ n l r
  ·unfold pS; exact Ww (h2 d) _ _ _ _ n l r
theorem PR.tQ{R:PR}{f:Expr→zh→Bool→PR}{M:Nat}(h:R≠.no)(hg:R.yJ M)(hf:∀ e r l,kt e→wo e+r.length≤M→f e r l≠.no):R.bind f≠.no:=by
 cases R with
 | no=>exact absurd rfl h
 | er=>intro h; cases h
 | ok e r l=>exact hf e r l hg.1 hg.2
theorem JS{K:Bool→zh→PR}(hK:∀ l q,(K l q).yJ q.length)(m1 m2:UInt8)(k1 k2:Int):∀ (n:Nat) (e:Expr) (r:zh) (l:Bool),(∀ l q,q.length≤r.length→K l q≠.no)→r.length+1≤n→u9 K m1 m2 k1 k2 n e r l≠.no
 | 0,_,_,_,_,h=>by omega
 | n+1,e,r,l,hT,h=>by
  unfold u9
  split
  ·intro h; cases h
  ·rename_i c q ht
   have hq:=rL ht
   refine PR.tQ (hT l q (by omega)) (hK l q) fun e2 q2 l2 h1 h2 => ?_
   have:=pq e2
   exact JS hK m1 m2 k1 k2 n _ q2 l2 (fun l q3 h3=>hT l q3 (by omega)) (by omega)
theorem JC{K:Bool→zh→PR}(hK:∀ l q,(K l q).yJ q.length)(m1 m2:UInt8)(k1 k2:Int)(n:Nat)(l:Bool)(r:zh)(hT:∀ l q,q.length≤r.length→K l q≠.no)(h:r.length≤n):rowP K m1 m2 k1 k2 n l r≠.no:=by
 refine PR.tQ (hT l r (Nat.le_refl _)) (hK l r) fun e q l' h1 h2 => ?_
 have:=pq e
 exact JS hK m1 m2 k1 k2 n e q l' (fun l q3 h3=>hT l q3 (by omega)) (by omega)
theorem Jc(z:Rat)(d:Nat)(r:zh)(l:Bool):iC z d r l≠.no:=by
 have fin:∀ t q,nC z t q l≠.no:=fun t q=>by unfold nC; split<;>(intro h; cases h)
 unfold iC
 split
 ·exact fin _ _
 ·split
  ·split
   ·intro h; cases h
   ·exact fin _ _
  ·exact fin _ _
theorem Fe{z:Rat}(hz:jt z):∀ (n:Nat),(∀ d l r,3*r.length+1≤n→pF z n d l r≠.no)∧(∀ d l r,3*r.length+2≤n→pP z n d l r≠.no)∧(∀ d l r,3*r.length+3≤n→pS z n d l r≠.no)
 | 0=>⟨fun _ _ _ h=>by omega,fun _ _ _ h=>by omega,fun _ _ _ h=>by omega⟩
 | n+1=>by
  obtain⟨h1,h2,h3⟩:=Fe hz n
  obtain⟨g1,g2,g3⟩:=VO hz n
  refine⟨fun d l r h => ?_,fun d l r h => ?_,fun d l r h => ?_⟩
  ·unfold pF
   have hk:=U8 r
   unfold cj
   split
   ·intro h; cases h
   ·rename_i c q e
    rw[e]at hk
    simp only[List.length_cons]at hk
    split
    ·split
     ·intro h; cases h
     ·exact PR.tQ (h1 _ _ _ (by omega)) (g1 _ _ _) fun _ _ _ _ _=>by intro h; cases h
    ·split
     ·split
      ·intro h; cases h
      ·refine PR.tQ (h3 _ _ _ (by omega)) (g3 _ _ _) fun _ _ _ _ _ => ?_
       split<;>(intro h; cases h)
     ·split
      ·exact Jc z d _ l
      ·split<;>(intro h; cases h)
  ·unfold pP
   exact JC (g1 d) _ _ _ _ n l r (fun l q hq=>h1 d l q (by omega)) (by omega)
  ·unfold pS
   exact JC (g2 d) _ _ _ _ n l r (fun l q hq=>h2 d l q (by omega)) (by omega)
theorem Gm(s:zh)(hs:s.length≤1000000)(ST:KT)(N:Nat)(hS:∀ m,m≤N→∀ d l r,d≤31→r <:+ s→pS zF m d l r≠.no→(ST (qt s r d l)).run=b9 s d (pS zF m d l r))
  (n:Nat) (hn:n≤N+1) (d:Nat) (l:Bool) (r:zh) (hd:d≤31) (h:r <:+ s) (uq:pF zF n d l r≠.no):(xc ST (qt s r d l)).run=b9 s d (pF zF n d l r):=by
 unfold xc
 obtain⟨y,hy⟩:∃ y,b9 s d (pF zF n d l r)=some y:=by
  cases q:pF zF n d l r with
  | no=>exact absurd q uq
  | er=>exact⟨_,rfl⟩
  | ok=>exact⟨_,rfl⟩
 rw[hy]
 refine T.Za (fun n x y=>n≤N+1∧∃ d l r,d≤31∧r <:+ s∧x=qt s r d l∧pF zF n d l r≠.no∧b9 s d (pF zF n d l r)=some y) (fun x y => ?_) (fun n x y hx g hg => ?_) (n:=n) ⟨hn,d,l,r,hd,h,rfl,uq,hy⟩
 ·rintro⟨_,d,l,r,_,_,_,h,_⟩
  exact h (by unfold pF; rfl)
 ·obtain⟨hn,d,l,r,hd,h,rfl,uq,hy⟩:=hx
  rw[← hy]
  unfold pF at uq ⊢
  have hgF:∀ d l r,d≤31→r <:+ s→pF zF n d l r≠.no→(g (qt s r d l)).run=b9 s d (pF zF n d l r):=by
   intro d l r hd h uq
   obtain⟨y,hy⟩:∃ y,b9 s d (pF zF n d l r)=some y:=by
    cases q:pF zF n d l r with
    | no=>exact absurd q uq
    | er=>exact⟨_,rfl⟩
    | ok=>exact⟨_,rfl⟩
   rw[hy]
   exact hg _ _ ⟨by omega,d,l,r,hd,h,rfl,uq,hy⟩
  exact JL s hs (fun y0=>g y0) ST (pF zF n) (pS zF n) hgF (hS n (by omega)) ((Zo zF s n).2.2) d l r hd h uq
theorem VF(ST:KT)(m:zh)(k:zO)(p:zd):xl ST () m k p=M3 (xc ST) m k p:=rfl
theorem Xn(ST:KT)(m:zh)(k:zO)(p:zd):xe ST () m k p=M3 (qO ST) m k p:=rfl
theorem Jg{t:T ((AM.Expr×zd)⊕(zO×zd))}{o:Option ((AM.Expr×zd)⊕(zO×zd))}(h:t.run=o)(ho:o≠none):(T.bind t<|Sum.elim (fun(r,p1)=>.ret (.inl (r,p1))) (fun(pv,p2)=>.ret (.inr (pv,p2))):T ((AM.Expr×zd)⊕(zO×zd))).run=o:=by
 cases o with
 | none=>exact absurd rfl ho
 | some x=>rw[z6 h]; cases x<;>rfl
theorem Jv{s:zh}{d:Nat}{R:PR}(h:R≠.no):b9 s d R≠none:=by
 cases R with
 | no=>exact absurd rfl h
 | er=>intro h; cases h
 | ok=>intro h; cases h
theorem Ja(s:zh)(hs:s.length≤1000000)(ST:KT)(N:Nat)(hS:∀ m,m≤N→∀ d l r,d≤31→r <:+ s→pS zF m d l r≠.no→(ST (qt s r d l)).run=b9 s d (pS zF m d l r))
  (n:Nat) (hn:n≤N+1) (d:Nat) (l:Bool) (r:zh) (hd:d≤31) (h:r <:+ s) (uq:pP zF n d l r≠.no):(qO ST (qt s r d l)).run=b9 s d (pP zF n d l r):=by
 cases n with
 | zero=>exact absurd (by unfold pP; rfl) uq
 | succ n =>
  unfold pP at uq ⊢
  unfold qO
  refine Jg ?_ (Jv uq)
  rw[VF]
  exact Kx s hs d (xc ST) (pF zF n d) (fun l r h uq=>Gm s hs ST N hS n (by omega) d l r hd h uq) ((Zo zF s n).1 d) 42 47 (by decide) (by decide) 5 6 n l r h uq
theorem MO(s:zh)(hs:s.length≤1000000)(n:Nat)(d:Nat)(l:Bool)(r:zh)(hd:d≤31)(h:r <:+ s)(uq:pS zF n d l r≠.no):(vD (qt s r d l)).run=b9 s d (pS zF n d l r):=by
 have hH:∀ (n d:Nat) (l:Bool) (r:zh),pS zF n d l r≠.no→∃ y,b9 s d (pS zF n d l r)=some y:=by
  intro n d l r uq
  cases q:pS zF n d l r with
  | no=>exact absurd q uq
  | er=>exact⟨_,rfl⟩
  | ok=>exact⟨_,rfl⟩
 unfold vD
 obtain⟨y,hy⟩:=hH n d l r uq
 rw[hy]
 refine T.Za (fun n x y=>∃ m,m≤n∧∃ d l r,d≤31∧r <:+ s∧x=qt s r d l∧pS zF m d l r≠.no∧b9 s d (pS zF m d l r)=some y) (fun x y => ?_) (fun n x y hx g hg => ?_) (n:=n) ⟨n,Nat.le_refl _,d,l,r,hd,h,rfl,uq,hy⟩
 ·rintro⟨m,hm,d,l,r,_,_,_,h,_⟩
  have:m=0:=by omega
  subst this
  exact h (by unfold pS; rfl)
 ·obtain⟨m,hm,d,l,r,hd,h,rfl,uq,hy⟩:=hx
  rw[← hy]
  cases m with
  | zero=>exact absurd (by unfold pS; rfl) uq
  | succ m =>
   have NM:∀ k,k≤m→∀ d l r,d≤31→r <:+ s→pS zF k d l r≠.no→(g (qt s r d l)).run=b9 s d (pS zF k d l r):=by
    intro k hk d l r hd h uq
    obtain⟨y,hy⟩:=hH k d l r uq
    rw[hy]
    exact hg _ _ ⟨k,by omega,d,l,r,hd,h,rfl,uq,hy⟩
   unfold pS at uq ⊢
   unfold vQ
   refine Jg ?_ (Jv uq)
   rw[Xn]
   exact Kx s hs d (qO fun y0=>g y0) (pP zF m d) (fun l r h uq=>Ja s hs (fun y0=>g y0) m NM m (by omega) d l r hd h uq) ((Zo zF s m).2.1 d) 43 45 (by decide) (by decide) 3 4 m l r h uq
def ft(s:zh):PR→Expr×Int×Int×Bool
 | .no=>(zE,0,0,false)
 | .er k b _ _ l=>(zE,((qX s b:Nat):Int),k,l)
 | .ok e [] l=>(e,0,0,l)
 | .ok _ (c::r) l=>(zE,((qX s (c::r):Nat):Int),2,l)
def cT(z:Rat)(s:zh):PR:=pS z (3*s.length+3) 0 false s
theorem Vb{z:Rat}(hz:jt z)(s:zh):cT z s≠.no:=(Fe hz _).2.2 0 false s (Nat.le_refl _)
theorem UE(z:Rat)(s:zh):(cT z s).ij s:=(Zo z s _).2.2 0 false s (List.suffix_refl s)
theorem Wa{z:Rat}(hz:jt z)(s:zh):(cT z s).yJ s.length:=(VO hz _).2.2 0 false s
theorem Gv(s:zh)(hs:s.length≤1000000):∃ p,(uO (s,((0:Int),((0:Int),(false,()))))).run=some ((ft s (cT zF s)).1,((ft s (cT zF s)).2.1,((ft s (cT zF s)).2.2.1,p)))∧p.2.2.2.1=(ft s (cT zF s)).2.2.2:=by
 have uq:=Vb xW s
 have NF:=UE zF s
 have hr:=MO s hs (3*s.length+3) 0 false s (by omega) (List.suffix_refl s) uq
 have e0:qt s s 0 false=(s,((0:Int),((0:Int),(false,())))):=by unfold qt; rw[WO]; rfl
 rw[e0]at hr
 have hr:(vD (s,((0:Int),((0:Int),(false,()))))).run=b9 s 0 (cT zF s):=hr
 unfold uO
 cases q:cT zF s with
 | no=>exact absurd q uq
 | er k b r d l =>
  rw[q]at hr
  refine⟨qt s r d l,?_,rfl⟩
  rw[z6 hr,Sum.elim_inr]
  rfl
 | ok e r l =>
  rw[q]at hr NF
  cases r with
  | nil =>
   refine⟨qt s [] 0 l,?_,rfl⟩
   rw[z6 hr,Sum.elim_inl]
   dsimp only
   rw[vp,wH,di,zm]
   rfl
  | cons c r =>
   refine⟨qt s (c::r) 0 l,?_,rfl⟩
   rw[z6 hr,Sum.elim_inl]
   dsimp only
   rw[vp,wH,gY NF,zl]
   rfl
def J3(s:zh)(R:PR):Expr×Int×Int :=
 if(ft s R).2.2.1≠0 then(zE,((ft s R).2.1,(ft s R).2.2.1))
 else if(ft s R).2.2.2=true∨sn (ft s R).1=false then(zE,((0:Int),(3:Int)))
 else((ft s R).1,((0:Int),(0:Int)))
def eJ(s:zh):Expr×Int×Int:=J3 s (cT zF s)
theorem LJ:kt zE:=uB 0 zF [] xW (by simp)
theorem Df{s:zh}{R:PR}{N:Nat}(h:R.yJ N)(h1:1≤N):kt (ft s R).1∧wo (ft s R).1≤N:=by
 have hz:kt zE∧wo zE≤N:=⟨LJ,h1⟩
 cases R with
 | no=>exact hz
 | er=>exact hz
 | ok e r l =>
  cases r with
  | nil=>exact⟨h.1,by have:=h.2; show wo e≤N; omega⟩
  | cons=>exact hz
theorem XO(s:zh)(hs:s.length≤900000):(bS s).run=some (eJ s):=by
 obtain⟨p,h1,h2⟩:=Gv s (by omega)
 have hg:=Df (s:=s) (R:=cT zF s) (N:=s.length+1) (by
  have:=Wa xW s
  cases q:cT zF s with
  | no=>trivial
  | er=>trivial
  | ok e r l=>rw[q]at this; exact⟨this.1,by have:=this.2; omega⟩) (by omega)
 unfold eJ J3
 generalize ft s (cT zF s)=w at h1 h2 hg ⊢
 obtain⟨e,at_,x,l⟩:=w
 dsimp only at h1 h2 hg ⊢
 unfold bS
 rw[z6 h1]
 dsimp only
 by_cases c:x≠0
 ·rw[zc (by simpa using c),z8,if_pos c]
 ·rw[za (by simpa using c),if_neg c,h2]
  have hI:=XN e hg.1.1 (by omega)
  rw[z6 (a:=(decide (l=true∨sn e=false),(zE,(p,e))))]
  ·dsimp only
   by_cases c2:l=true∨sn e=false
   ·rw[zc (decide_eq_true c2),z8,if_pos c2]
   ·rw[za (decide_eq_false c2),z8,if_neg c2]
  ·cases l with
   | true=>rw[zl,z8]; simp
   | false =>
    rw[zm,z6 hI,z8]
    cases sn e<;>simp
inductive QR where
 | no
 | er (k:Int) (bad:zh) (x:Expr) (r:zh) (d:Nat) (l:Bool)
 | ok (e:Expr) (r:zh) (l:Bool)
def U6(t r:zh)(l:Bool):QR:=if 400<t.length then .ok (.mk 1 (Lm 0) [] []) r true else .ok (.mk 1 (yz t) [] []) r l
def UI(d:Nat)(r:zh)(l:Bool):QR:=match r.dropWhile xY with
 | []=>U6 (r.takeWhile xY) [] l
 | c::q=>if c=46 then(if q.takeWhile xY=[]then .er 2 q zE q d l else U6 (r.takeWhile xY++(46::q.takeWhile xY)) (q.dropWhile xY) l)
  else U6 (r.takeWhile xY) (c::q) l
def stuck:zh→Bool
 | []=>false
 | c::_=>qT c
def J6(d:Nat)(r:zh)(l:Bool):QR:=if stuck (vc qT 24 r).2=true then .er 2 (vc qT 24 r).2 zE (vc qT 24 r).2 d l else .ok (.mk 2 zF (vc qT 24 r).1 []) (vc qT 24 r).2 l
def np(K:Bool→zh→QR)(m1 m2:UInt8)(k1 k2:Int):Nat→Expr→zh→Bool→QR
 | 0,_,_,_=>.no
 | n+1,e,r,l=>match qu [m1,m2] r with
  | none=>.ok e (wV r) l
  | some (c,q)=>match K l q with
   | .no=>.no
   | .er k b x q2 d2 l2=>.er k b (xa (if c=m1 then k1 else k2) [e,x]) (wV q2) d2 l2
   | .ok e2 q2 l2=>np K m1 m2 k1 k2 n (xa (if c=m1 then k1 else k2) [e,e2]) q2 l2
def Vt(K:Bool→zh→QR)(m1 m2:UInt8)(k1 k2:Int)(n:Nat)(l:Bool)(r:zh):QR:=match K l r with
 | .no=>.no
 | .er k b x q d l2=>.er k b x (wV q) d l2
 | .ok e q l2=>np K m1 m2 k1 k2 n e q l2
def Ku(F S:Nat→Bool→zh→QR)(d:Nat)(l:Bool)(s:zh):QR:=match wV s with
 | []=>.er 2 [] zE [] d l
 | c::r =>
  if c=45 then(if 31≤d then .er 4 (c::r) zE (c::r) d l else match F (d+1) l r with
   | .no=>.no
   | .er k b x q d2 l2=>.er k b (xa 7 [x]) q (d2-1) l2
   | .ok e q l2=>.ok (xa 7 [e]) q l2)
  else if c=40 then(if 31≤d then .er 4 (c::r) zE (c::r) d l else match S (d+1) l r with
   | .no=>.no
   | .er k b _ q d2 l2=>.er k b zE (wV q) d2 l2
   | .ok e q l2=>match qu [41] q with
    | some (_,q')=>.ok e q' l2
    | none=>.er 2 (wV q) zE (wV q) (d+1) l2)
  else if xY c=true then UI d (c::r) l
  else if ru c=true then J6 d (c::r) l
  else .er 2 (c::r) zE (c::r) d l
mutual
def qF:Nat→Nat→Bool→zh→QR
 | 0,_,_,_=>.no
 | n+1,d,l,s=>Ku (qF n) (qS n) d l s
def qP:Nat→Nat→Bool→zh→QR
 | 0,_,_,_=>.no
 | n+1,d,l,s=>Vt (qF n d) 42 47 5 6 n l s
def qS:Nat→Nat→Bool→zh→QR
 | 0,_,_,_=>.no
 | n+1,d,l,s=>Vt (qP n d) 43 45 3 4 n l s
end
def QR.rel(l0:Bool):QR→PR→Prop
 | _,.no=>True
 | .no,_=>False
 | .er k b _ _ _ _,.er k' b' _ _ _=>k=k'∧b=b'
 | .er k b _ _ _ _,.ok _ r' _=>k=2∧b=r'∧stuck r'=true
 | .ok e r l,.ok e' r' l'=>r=r'∧l=l'∧(l=false→l0=false∧e=e')
 | .ok _ _ _,.er _ _ _ _ _=>False
theorem Vq(l:Bool)(Q:QR):Q.rel l .no:=by cases Q<;>trivial
theorem Zl{m r:zh}(h:stuck r=true)(hm:m.all (fun c => !qT c)=true):qu m r=none∧wV r=r:=by
 cases r with
 | nil=>cases h
 | cons c q =>
  have h:qT c=true:=h
  have h32:c≠32:=by rintro rfl; revert h; decide
  have e:wV (c::q)=c::q:=by unfold wV; rw[if_neg h32]
  refine⟨?_,e⟩
  unfold qu
  rw[e]
  dsimp only
  rw[if_neg]
  intro hc
  have:=List.all_eq_true.1 hm c (by simpa using hc)
  rw[h]at this
  cases this
theorem Ue(t r:zh)(l:Bool):(U6 t r l).rel l (nC zF t r l):=by
 unfold U6 nC
 split
 ·exact⟨rfl,rfl,fun h=>by cases h⟩
 ·exact⟨rfl,rfl,fun h=>⟨h,rfl⟩⟩
theorem Nw(d:Nat)(r:zh)(l:Bool):(UI d r l).rel l (iC zF d r l):=by
 unfold UI iC
 cases r.dropWhile xY with
 | nil=>exact Ue _ _ _
 | cons c q =>
  dsimp only
  by_cases hc:c=46
  ·rw[if_pos hc,if_pos hc]
   by_cases hq:q.takeWhile xY=[]
   ·rw[if_pos hq,if_pos hq]; exact⟨rfl,rfl⟩
   ·rw[if_neg hq,if_neg hq]; exact Ue _ _ _
  ·rw[if_neg hc,if_neg hc]; exact Ue _ _ _
theorem NR(d:Nat)(r:zh)(l:Bool):(J6 d r l).rel l (KK r l):=by
 unfold J6 KK
 split
 ·rename_i h; exact⟨rfl,rfl,h⟩
 ·exact⟨rfl,rfl,fun h=>⟨h,rfl⟩⟩
theorem Qe(K:Bool→zh→PR)(m1 m2:UInt8)(k1 k2:Int)(hm:[m1,m2].all (fun c => !qT c)=true)(n:Nat)(e:Expr){r:zh}(l:Bool)(h:stuck r=true):u9 K m1 m2 k1 k2 n e r l=.no∨u9 K m1 m2 k1 k2 n e r l=.ok e r l:=by
 cases n with
 | zero=>exact .inl rfl
 | succ n =>
  obtain⟨h1,h2⟩:=Zl h hm
  right
  unfold u9
  rw[h1,h2]
theorem Y2{KQ:Bool→zh→QR}{K:Bool→zh→PR}(hK:∀ l q,(KQ l q).rel l (K l q))(m1 m2:UInt8)(k1 k2:Int)(hm:[m1,m2].all (fun c => !qT c)=true)(l0:Bool) :
  ∀ (n:Nat) (e e':Expr) (r:zh) (l:Bool),(l=false→l0=false∧e=e')→(np KQ m1 m2 k1 k2 n e r l).rel l0 (u9 K m1 m2 k1 k2 n e' r l)
 | 0,_,_,_,_,_=>trivial
 | n+1,e,e',r,l,h=>by
  unfold np u9
  cases q:qu [m1,m2] r with
  | none=>exact⟨rfl,rfl,h⟩
  | some x =>
   obtain⟨c,q'⟩:=x
   dsimp only
   have hr:=hK l q'
   cases zP:K l q' with
   | no=>exact Vq _ _
   | er k' b' r' d' l' =>
    rw[zP]at hr
    cases zQ:KQ l q' with
    | no=>rw[zQ]at hr; exact hr.elim
    | er k b x q2 d2 l2=>rw[zQ]at hr; exact hr
    | ok=>rw[zQ]at hr; exact hr.elim
   | ok e2 q2 l2 =>
    rw[zP]at hr
    show QR.rel l0 _ (u9 K m1 m2 k1 k2 n (xa (if c=m1 then k1 else k2) [e',e2]) q2 l2)
    cases zQ:KQ l q' with
    | no=>rw[zQ]at hr; exact hr.elim
    | er k b x q3 d3 l3 =>
     rw[zQ]at hr
     obtain⟨rfl,rfl,hs⟩:=hr
     rcases Qe K m1 m2 k1 k2 hm n (xa (if c=m1 then k1 else k2) [e',e2]) l2 hs with w | w<;>rw[w]
     ·trivial
     ·exact⟨rfl,rfl,hs⟩
    | ok e3 q3 l3 =>
     rw[zQ]at hr
     obtain⟨rfl,rfl,hh⟩:=hr
     refine Y2 hK m1 m2 k1 k2 hm l0 n _ _ q3 l3 fun h3 => ?_
     obtain⟨h4,rfl⟩:=hh h3
     obtain⟨h5,rfl⟩:=h h4
     exact⟨h5,rfl⟩
theorem HT{KQ:Bool→zh→QR}{K:Bool→zh→PR}(hK:∀ l q,(KQ l q).rel l (K l q))(m1 m2:UInt8)(k1 k2:Int)(hm:[m1,m2].all (fun c => !qT c)=true)(n:Nat)(l:Bool)(r:zh):(Vt KQ m1 m2 k1 k2 n l r).rel l (rowP K m1 m2 k1 k2 n l r):=by
 have hr:=hK l r
 unfold Vt rowP
 cases zP:K l r with
 | no=>exact Vq _ _
 | er k' b' r' d' l' =>
  rw[zP]at hr
  cases zQ:KQ l r with
  | no=>rw[zQ]at hr; exact hr.elim
  | er k b x q2 d2 l2=>rw[zQ]at hr; exact hr
  | ok=>rw[zQ]at hr; exact hr.elim
 | ok e2 q2 l2 =>
  rw[zP]at hr
  show QR.rel l _ (u9 K m1 m2 k1 k2 n e2 q2 l2)
  cases zQ:KQ l r with
  | no=>rw[zQ]at hr; exact hr.elim
  | er k b x q3 d3 l3 =>
   rw[zQ]at hr
   obtain⟨rfl,rfl,hs⟩:=hr
   rcases Qe K m1 m2 k1 k2 hm n e2 l2 hs with w | w<;>rw[w]
   ·trivial
   ·exact⟨rfl,rfl,hs⟩
  | ok e3 q3 l3 =>
   rw[zQ]at hr
   obtain⟨rfl,rfl,hh⟩:=hr
   exact Y2 hK m1 m2 k1 k2 hm l n _ _ q3 l3 hh
theorem O3{FQ SQ:Nat→Bool→zh→QR}{F S:Nat→Bool→zh→PR}(hF:∀ d l q,(FQ d l q).rel l (F d l q))(hS:∀ d l q,(SQ d l q).rel l (S d l q))(d:Nat)(l:Bool)(r:zh):(Ku FQ SQ d l r).rel l (cj zF F S d l r):=by
 unfold Ku cj
 cases e:wV r with
 | nil=>exact⟨rfl,rfl⟩
 | cons c q =>
  dsimp only
  by_cases X5:c=45
  ·rw[if_pos X5,if_pos X5]
   by_cases c31:31≤d
   ·rw[if_pos c31,if_pos c31]; exact⟨rfl,rfl⟩
   ·rw[if_neg c31,if_neg c31]
    have hr:=hF (d+1) l q
    cases zP:F (d+1) l q with
    | no=>exact Vq _ _
    | er k' b' r' d' l' =>
     rw[zP]at hr
     cases zQ:FQ (d+1) l q with
     | no=>rw[zQ]at hr; exact hr.elim
     | er k b x q2 d2 l2=>rw[zQ]at hr; exact hr
     | ok=>rw[zQ]at hr; exact hr.elim
    | ok e2 q2 l2 =>
     rw[zP]at hr
     cases zQ:FQ (d+1) l q with
     | no=>rw[zQ]at hr; exact hr.elim
     | er k b x q3 d3 l3=>rw[zQ]at hr; exact hr
     | ok e3 q3 l3 =>
      rw[zQ]at hr
      obtain⟨h1,h2,h3⟩:=hr
      exact⟨h1,h2,fun h=>by obtain⟨h4,rfl⟩:=h3 h; exact⟨h4,rfl⟩⟩
  ·rw[if_neg X5,if_neg X5]
   by_cases QY:c=40
   ·rw[if_pos QY,if_pos QY]
    by_cases c31:31≤d
    ·rw[if_pos c31,if_pos c31]; exact⟨rfl,rfl⟩
    ·rw[if_neg c31,if_neg c31]
     have hr:=hS (d+1) l q
     cases zP:S (d+1) l q with
     | no=>exact Vq _ _
     | er k' b' r' d' l' =>
      rw[zP]at hr
      cases zQ:SQ (d+1) l q with
      | no=>rw[zQ]at hr; exact hr.elim
      | er k b x q2 d2 l2=>rw[zQ]at hr; exact hr
      | ok=>rw[zQ]at hr; exact hr.elim
     | ok e2 q2 l2 =>
      rw[zP]at hr
      show QR.rel l _ (match qu [41] q2 with | some (_,q')=>.ok e2 q' l2 | none=>.er 2 (wV q2) (wV q2) (d+1) l2)
      cases zQ:SQ (d+1) l q with
      | no=>rw[zQ]at hr; exact hr.elim
      | er k b x q3 d3 l3 =>
       rw[zQ]at hr
       obtain⟨rfl,rfl,hs⟩:=hr
       obtain⟨h1,h2⟩:=Zl hs (m:=[41]) (by decide)
       rw[h1,h2]
       exact⟨rfl,rfl⟩
      | ok e3 q3 l3 =>
       rw[zQ]at hr
       obtain⟨rfl,rfl,h3⟩:=hr
       dsimp only
       cases qu [41] q3 with
       | none=>exact⟨rfl,rfl⟩
       | some x=>exact⟨rfl,rfl,h3⟩
   ·rw[if_neg QY,if_neg QY]
    by_cases hD:xY c=true
    ·rw[if_pos hD,if_pos hD]; exact Nw _ _ _
    ·rw[if_neg hD,if_neg hD]
     by_cases hL:ru c=true
     ·rw[if_pos hL,if_pos hL]; exact NR _ _ _
     ·rw[if_neg hL,if_neg hL]; exact⟨rfl,rfl⟩
theorem Ig:∀ (n:Nat),(∀ d l r,(qF n d l r).rel l (pF zF n d l r))∧(∀ d l r,(qP n d l r).rel l (pP zF n d l r))∧(∀ d l r,(qS n d l r).rel l (pS zF n d l r))
 | 0=>⟨fun _ _ _=>by unfold qF pF; trivial,fun _ _ _=>by unfold qP pP; trivial,fun _ _ _=>by unfold qS pS; trivial⟩
 | n+1=>by
  obtain⟨h1,h2,h3⟩:=Ig n
  refine⟨fun d l r => ?_,fun d l r => ?_,fun d l r => ?_⟩
  ·unfold qF pF; exact O3 h1 h3 d l r
  ·unfold qP pP; exact HT (h1 d) 42 47 5 6 (by decide) n l r
  ·unfold qS pS; exact HT (h2 d) 43 45 3 4 (by decide) n l r
def xx(s r:zh)(e b:Int)(d:Nat)(l:Bool):zf:=(s,((qX s r:Nat):Int),e,b,(d:Int),l,())
theorem uM(s r:zh)(e b:Int)(d:Nat)(l:Bool):(xx s r e b d l).1=s:=rfl
theorem vg(s r:zh)(e b:Int)(d:Nat)(l:Bool):(xx s r e b d l).2.1=((qX s r:Nat):Int):=rfl
theorem ny(s r:zh)(e b:Int)(d:Nat)(l:Bool):(xx s r e b d l).2.2.1=e:=rfl
theorem OG(s r:zh)(e b:Int)(d:Nat)(l:Bool):(xx s r e b d l).2.2.2.1=b:=rfl
theorem OQ(s r:zh)(e b:Int)(d:Nat)(l:Bool):(xx s r e b d l).2.2.2.2.1=(d:Int):=rfl
theorem z0w(s r:zh)(e b:Int)(d:Nat)(l:Bool):(xx s r e b d l).2.2.2.2.2.1=l:=rfl
theorem bX{s r:zh}{c:UInt8}(e b:Int)(d:Nat)(l:Bool)(h:(c::r) <:+ s)(hs:s.length≤1000000) :
  (((xx s (c::r) e b d l).1,((zr ((xx s (c::r) e b d l).2.1+(1:Int))),((xx s (c::r) e b d l).2.2.1,((xx s (c::r) e b d l).2.2.2.1,((xx s (c::r) e b d l).2.2.2.2.1,((xx s (c::r) e b d l).2.2.2.2.2.1,())))))):zf)=xx s r e b d l:=by
 have:=wG h
 rw[vg,zJ (by omega) (by omega),show((qX s (c::r):Nat):Int)+1=((qX s r:Nat):Int) by omega]
 rfl
theorem pg(s:zh)(hs:s.length≤1000000)(e b:Int)(d:Nat)(l:Bool):∀ (r:zh),r <:+ s→(kD (xx s r e b d l)).run=some (xx s (wV r) e b d l)
 | [],_=>by
  refine q9 ?_
  unfold xE
  dsimp only
  rw[vg,uM,di,zq (fun h=>by cases h),za (by rfl),z8]
  rfl
 | c::r,h=>by
  have st:(xE (xx s (c::r) e b d l)).run=some (if c=32 then .inl (xx s r e b d l)else .inr (xx s (c::r) e b d l)):=by
   unfold xE
   dsimp only
   rw[bX e b d l h hs,vg,uM,gY h,zq (fun _=>uh h),Bool.true_and,vi h,show((c.toNat:Int)==32)=decide (c=32)from mY c 32]
   by_cases hc:c=32
   ·rw[zc (by simpa using hc),z8,if_pos hc]
   ·rw[za (by simpa using hc),z8,if_neg hc]
  unfold wV
  by_cases hc:c=32
  ·rw[if_pos hc]at st ⊢
   exact(xV st).trans (pg s hs e b d l r (xR h))
  ·rw[if_neg hc]at st ⊢
   exact q9 st
theorem cN(s:zh)(hs:s.length≤1000000)(e b:Int)(d:Nat)(l:Bool)(r:zh)(h:r <:+ s):(xI (xx s r e b d l)).run=some (xx s (wV r) e b d l):=by
 unfold xI
 rw[z6 (pg s hs e b d l r h),z8]
def Sv:zh→Int
 | []=>0
 | c::_=>(c.toNat:Int)
theorem sd(s:zh)(hs:s.length≤1000000)(e b:Int)(d:Nat)(l:Bool)(r:zh)(h:r <:+ s):(xA (xx s r e b d l)).run=some (if e=0 then Sv (wV r)else 0,xx s (wV r) e b d l):=by
 have hk:=(wD r).trans h
 unfold xA
 rw[z6 (cN s hs e b d l r h),ny,vg,uM]
 by_cases he:e=0
 ·rw[if_pos he]
  have e1:(e != (0:Int))=false:=by simpa using he
  rw[e1,Bool.false_or]
  cases q:wV r with
  | nil=>rw[zc (decide_eq_true (by rw[Jx]; omega)),z8]; rfl
  | cons c r' =>
   rw[q]at hk
   have:=wG hk
   rw[za (decide_eq_false (by omega)),zq (uh hk),z8,vi hk]
   rfl
 ·rw[if_neg he,zc (by rw[show(e != (0:Int))=true by simpa using he]; rfl),z8]
theorem kG(k:Int)(s r:zh)(e b:Int)(d:Nat)(l:Bool):(qJ k (xx s r e b d l)).run=some (zE,if e=0 then xx s r k ((qX s r:Nat):Int) d l else xx s r e b d l):=by
 unfold qJ
 rw[ny]
 by_cases he:e=0
 ·rw[if_pos he,zc (by simpa using he),z8]; rfl
 ·rw[if_neg he,za (by simpa using he),z8]
theorem Kc(s:zh)(hs:s.length≤1000000){c:UInt8}{r:zh}(h:(c::r) <:+ s)(d:Nat)(hd:d≤31)(l:Bool):(wz (xx s (c::r) 0 0 d l)).run=some (if 31≤d then(false,xx s (c::r) 4 ((qX s (c::r):Nat):Int) d l)else(true,xx s r 0 0 (d+1) l)):=by
 have hp:=wG h
 unfold wz
 rw[OQ,zJ (x:=(d:Int)+1) (by omega) (by omega)]
 by_cases c1:31≤d
 ·rw[if_pos c1,zc (decide_eq_true (by omega)),z6 (kG _ _ _ _ _ _ _),if_pos rfl,z8]
 ·rw[if_neg c1,za (decide_eq_false (by omega)),z8,vg,zJ (by omega) (by omega),show((qX s (c::r):Nat):Int)+1=((qX s r:Nat):Int) by omega]
  rfl
theorem Wn(s:zh)(hs:s.length≤1000000)(e b:Int)(d:Nat)(l:Bool)(r:zh)(h:r <:+ s):(ue 41 (xx s r e b d l)).run=some (if e=0 then(match qu [41] r with | some (_,q)=>(true,xx s q e b d l) | none=>(false,xx s (wV r) e b d l))else(false,xx s (wV r) e b d l)):=by
 have hk:=(wD r).trans h
 unfold ue qu
 rw[z6 (cN s hs e b d l r h),ny,vg,uM]
 by_cases he:e=0
 ·have e1:(e==(0:Int))=true:=by simpa using he
  rw[if_pos he,e1,Bool.true_and]
  cases q:wV r with
  | nil=>rw[di,zq (fun _ h=>by cases h),za (by rfl),z8]
  | cons c r' =>
   rw[q]at hk
   have n1:=bX e b d l hk hs
   rw[vg,ny]at n1
   rw[gY hk,zq (fun _ _=>uh hk),Bool.true_and,vi hk,show((c.toNat:Int)==41)=decide (c=41)from mY c 41]
   dsimp only
   by_cases hc:c=41
   ·rw[zc (by simpa using hc),z8,if_pos (by simpa using hc)]
    exact congrArg (fun z=>some (true,z)) n1
   ·rw[za (by simpa using hc),z8,if_neg (by simpa using hc)]
 ·have e1:(e==(0:Int))=false:=by simpa using he
  rw[if_neg he,e1,zq (fun h=>by cases h),za (by rfl),z8]
theorem Jf(b:UInt8):(vf (b.toNat:Int)).run=some (xY b):=mO b
theorem Wc(s:zh)(hs:s.length≤1000000)(e b:Int)(d:Nat)(l:Bool):∀ (r:zh) (n:Nat),r <:+ s→n+r.length≤1000000 →
  (vY ((n:Int),xx s r e b d l)).run=some (((n+(r.takeWhile xY).length:Nat):Int),xx s (r.dropWhile xY) e b d l)
 | [],n,_,_=>by
  refine q9 ?_
  unfold xG
  dsimp only
  rw[z6 (a:=(false,xx s [] e b d l)) (by rw[vg,uM,di,zm,z8]),zm,z8]
  rfl
 | c::r,n,h,hn=>by
  have hp:=wG h
  have DS:n+1≤1000000:=by simp only[List.length_cons]at hn; omega
  have st:(xG ((n:Int),xx s (c::r) e b d l)).run=some (if xY c=true then .inl (((n+1:Nat):Int),xx s r e b d l)else .inr ((n:Int),xx s (c::r) e b d l)):=by
   unfold xG
   dsimp only
   rw[z6 (a:=(xY c,xx s (c::r) e b d l)) (by rw[vg,uM,gY h,zl,zq (uh h),vi h,z6 (Jf c),z8])]
   dsimp only
   cases xY c with
   | true =>
    rw[zl,z8,if_pos rfl,bX e b d l h hs,zJ (by omega) (by omega)]
    rfl
   | false=>rfl
  cases hc:xY c with
  | true =>
   rw[hc,if_pos rfl]at st
   rw[List.takeWhile_cons_of_pos hc,List.dropWhile_cons_of_pos hc]
   simp only[List.length_cons]at hn
   have:=(xV st).trans (Wc s hs e b d l r (n+1) (xR h) (by omega))
   rw[show n+1+(r.takeWhile xY).length=n+(c::r.takeWhile xY).length by simp; omega]at this
   exact this
  | false =>
   rw[hc,if_neg (by simp)]at st
   rw[List.takeWhile_cons_of_neg (by simp[hc]),List.dropWhile_cons_of_neg (by simp[hc])]
   exact q9 st
theorem XL(s:zh)(hs:s.length≤1000000)(e b:Int)(d:Nat)(l:Bool)(r:zh)(h:r <:+ s):(wu (xx s r e b d l)).run=some ((((r.takeWhile xY).length:Nat):Int),xx s (r.dropWhile xY) e b d l):=by
 unfold wu
 have:=Wc s hs e b d l r 0 h (by have:=h.length_le; omega)
 rw[Nat.zero_add]at this
 have this:(vY (0,xx s r e b d l)).run=_:=this
 rw[z6 this,z8]
def fG(s:zh)(d:Nat):QR→Option (AM.Expr×zf)
 | .no=>none
 | .er k b x r d' l=>some (x,xx s r k ((qX s b:Nat):Int) d' l)
 | .ok e r l=>some (e,xx s r 0 0 d l)
theorem Ek{u:zh}(h1:qD u=true)(h0:u≠[]):nQ u≠none∧∀ q,qD q=true→q≠[]→nQ (u++46::q)≠none:=by
 have tp:∀ t:zh,ji (u++t) [45]=u++t:=by
  intro t
  cases u with
  | nil=>exact absurd rfl h0
  | cons c u =>
   have hc:xY c=true:=by rw[wF,Bool.and_eq_true]at h1; exact h1.1
   have h45:(45:UInt8)≠c:=by rintro rfl; revert hc; decide
   unfold ji
   rw[if_neg]
   simp[List.isPrefixOf,h45]
 constructor
 ·unfold nQ
  have:=tp []
  rw[List.append_nil]at this
  rw[this,iP h1,if_neg h0]
  simp
 ·intro q hq YS
  unfold nQ
  rw[tp,kU h1 46 q (by decide),if_neg h0,if_neg (by simp[YS,hq]),if_pos rfl]
  simp
theorem Kr(s:zh)(hs:s.length≤1000000)(d:Nat)(l:Bool)(r:zh)(h:r <:+ s)(hd:r.takeWhile xY≠[]):(vv (xx s r 0 0 d l)).run=fG s d (UI d r l):=by
 have DL:=kC xY r
 have hl:=h.length_le
 have hw:=XL s hs 0 0 d l r h
 have N1:=Ek (Qw r) hd
 -- what is done with the text
 have fin:∀ (t q:zh),r=t++q→nQ t≠none →
   (.zj (kc (xx s r 0 0 d l).2.1 (xx s q 0 0 d l).2.1 (List.length (xx s q 0 0 d l).1)) <|
   T.bind (cd (zS (xx s r 0 0 d l).2.1 (xx s q 0 0 d l).2.1 (xx s q 0 0 d l).1)) fun(r7,e) =>
   T.bind (.ite (xx s q 0 0 d l).2.2.2.2.2.1
      (.ret (((xx s q 0 0 d l).1,((xx s q 0 0 d l).2.1,((xx s q 0 0 d l).2.2.1,((xx s q 0 0 d l).2.2.2.1,((xx s q 0 0 d l).2.2.2.2.1,(true,())))))),(zE,r7)))
      (.ret (((xx s q 0 0 d l).1,((xx s q 0 0 d l).2.1,((xx s q 0 0 d l).2.2.1,((xx s q 0 0 d l).2.2.2.1,((xx s q 0 0 d l).2.2.2.2.1,((e != (0:Int)),())))))),(zE,r7))):T ((zf×AM.Expr×Rat))) fun(v4,v5,v6) =>
   .ret ((Expr.mk (1:Int) (v6.1,(v6.2.1,(v6.2.2.1,()))) ([]:zh) ([]:List AM.Expr)),v4):T (AM.Expr×zf)).run=fG s d (U6 t q l):=by
  intro t q e hp
  have hq:q <:+ r:=⟨t,e.symm⟩
  have h3:=VM hq h
  have h4:qX s q≤s.length:=by unfold qX; omega
  have hlen:t.length≤1000000:=by have:=congrArg List.length e; rw[List.length_append]at this; omega
  rw[vg,vg,uM,zq ⟨by omega,by omega,by omega⟩,QH h e.symm]
  unfold U6
  have Ts:=QG t (by omega)
  by_cases c1:400<t.length
  ·rw[if_pos c1]at Ts ⊢
   rw[z6 Ts]
   cases l<;>rfl
  ·rw[if_neg c1]at Ts ⊢
   unfold yz
   cases w:nQ t with
   | none=>exact absurd w hp
   | some x =>
    rw[w]at Ts
    rw[z6 Ts]
    cases l<;>rfl
 unfold vv UI
 rw[z6 hw]
 dsimp only
 cases e:r.dropWhile xY with
 | nil =>
  have er:r=r.takeWhile xY++[]:=by rw[← e,k9]
  rw[z6 (a:=.inl (xx s [] 0 0 d l,zE)) (by rw[vg,uM,di,zq (fun h=>by cases h),Bool.false_and,zm,z8]),Sum.elim_inl]
  exact fin _ _ er N1.1
 | cons c q =>
  have er:r=r.takeWhile xY++c::q:=by rw[← e,k9]
  rw[e]at DL
  have Xk:=DL.trans h
  have hq:=xR Xk
  dsimp only
  by_cases hc:c=46
  ·subst hc
   rw[if_pos rfl]
   have mW:=XL s hs 0 0 d l q hq
   have cond:((decide (((qX s (46::q):Nat):Int)<(s.length:Int)))&&((zo s ((qX s (46::q):Nat):Int))==(46:Int)))=true:=by
    rw[gY Xk,Bool.true_and,vi Xk]; rfl
   by_cases YS:q.takeWhile xY=[]
   ·have hqq:q.dropWhile xY=q:=by have:=k9 xY q; rw[YS]at this; simpa using this
    rw[if_pos YS,z6 (a:=.inr (xx s q 2 ((qX s q:Nat):Int) d l,zE)),Sum.elim_inr]
    ·rfl
    ·rw[bX 0 0 d l Xk hs,vg,uM,zq (fun _=>uh Xk),zc cond,z6 mW,YS,zc (by rfl),hqq,z6 (kG _ _ _ _ _ _ _),if_pos rfl,z8]
   ·rw[if_neg YS,z6 (a:=.inl (xx s (q.dropWhile xY) 0 0 d l,zE)),Sum.elim_inl]
    ·refine fin _ _ ?_ (N1.2 _ (Qw q) YS)
     rw[List.append_assoc,List.cons_append,k9]
     exact er
    ·have hl0:(q.takeWhile xY).length≠0:=fun h=>YS (List.eq_nil_of_length_eq_zero h)
     rw[bX 0 0 d l Xk hs,vg,uM,zq (fun _=>uh Xk),zc cond,z6 mW,za (by simpa using YS),z8]
  ·rw[if_neg hc,z6 (a:=.inl (xx s (c::q) 0 0 d l,zE)),Sum.elim_inl]
   ·exact fin _ _ er N1.1
   ·rw[vg,uM,zq (fun _=>uh Xk),za (by rw[gY Xk,Bool.true_and,vi Xk,show((c.toNat:Int)==46)=decide (c=46)from mY c 46]; simpa using hc),z8]
theorem GM(s:zh)(hs:s.length≤1000000)(d:Nat)(l:Bool)(f:Nat):∀ (n:Nat) (r:zh),r <:+ s→f≤qX s r→qX s r-f+n=24 →
  (yC (f:Int) (xx s r 0 0 d l,zE)).run=some (if stuck (vc qT n r).2=true then .inr (xx s (vc qT n r).2 2 ((qX s (vc qT n r).2:Nat):Int) d l,zE)else .inl (xx s (vc qT n r).2 0 0 d l,zE)):=by
 intro n r
 induction r generalizing n with
 | nil =>
  intro h hf he
  have:(vc qT n []).2=[]:=by cases n<;>rfl
  rw[this,if_neg (by simp[stuck])]
  refine q9 ?_
  unfold xo
  dsimp only
  rw[z6 (a:=(false,(xx s [] 0 0 d l,zE))) (by rw[vg,uM,di,zm,z8]),zm,z8]
 | cons c r ih =>
  intro h hf he
  have nW:=wG h
  have head:((T.ite (decide ((xx s (c::r) 0 0 d l).2.1<(Nat.cast (List.length (xx s (c::r) 0 0 d l).1):Int)))
     (.zj (zt (xx s (c::r) 0 0 d l).2.1 (List.length (xx s (c::r) 0 0 d l).1)) <|
      T.bind (xH (zo (xx s (c::r) 0 0 d l).1 (xx s (c::r) 0 0 d l).2.1)) fun r1 =>
      .ite r1
       (.ret (true,(xx s (c::r) 0 0 d l,zE)))
       (.zj (zt (xx s (c::r) 0 0 d l).2.1 (List.length (xx s (c::r) 0 0 d l).1)) <|
        T.bind (vf (zo (xx s (c::r) 0 0 d l).1 (xx s (c::r) 0 0 d l).2.1)) fun r2 =>
        .ite r2
         (.ret (true,(xx s (c::r) 0 0 d l,zE)))
         (.zj (zt (xx s (c::r) 0 0 d l).2.1 (List.length (xx s (c::r) 0 0 d l).1)) <|
          .ret (((zo (xx s (c::r) 0 0 d l).1 (xx s (c::r) 0 0 d l).2.1)==(95:Int)),(xx s (c::r) 0 0 d l,zE)))))
     (.ret (false,(xx s (c::r) 0 0 d l,zE)))):T (Bool×zf×AM.Expr)).run=some (qT c,(xx s (c::r) 0 0 d l,zE)):=by
   have h1:(xH (c.toNat:Int)).run=some (ru c):=rfl
   have h2:(vf (c.toNat:Int)).run=some (decide (48≤(c.toNat:Int))&&decide ((c.toNat:Int)≤57)):=rfl
   rw[vg,uM,gY h,zl,zq (uh h),vi h,z6 h1]
   unfold qT
   cases ru c with
   | true=>rfl
   | false =>
    rw[zm,zq (uh h),z6 h2]
    cases(decide (48≤(c.toNat:Int))&&decide ((c.toNat:Int)≤57))with
    | true=>rfl
    | false=>rw[zm,zq (uh h),z8]; rfl
  cases hc:qT c with
  | false =>
   have:(vc qT n (c::r)).2=c::r:=by
    cases n with
    | zero=>rfl
    | succ n=>show(if qT c=true then _ else([],c::r)).2=c::r; rw[if_neg (by simp[hc])]
   rw[this,if_neg (by simp[stuck,hc])]
   refine q9 ?_
   unfold xo
   dsimp only
   rw[z6 head,hc]
   rfl
  | true =>
   cases n with
   | zero =>
    have:(vc qT 0 (c::r)).2=c::r:=rfl
    rw[this,if_pos (show stuck (c::r)=true from hc)]
    refine q9 ?_
    unfold xo
    dsimp only
    rw[z6 head,hc]
    dsimp only
    rw[zl,vg,zJ (by omega) (by omega),show((qX s (c::r):Nat):Int)-(f:Int)=24 by omega,zc (by rfl),z6 (kG _ _ _ _ _ _ _),if_pos rfl,z8]
   | succ n =>
    have e2:(vc qT (n+1) (c::r)).2=(vc qT n r).2:=by
     show(if qT c=true then(c::(vc qT n r).1,(vc qT n r).2)else([],c::r)).2=_; rw[if_pos hc]
    rw[e2]
    refine(xV ?_).trans (ih n (xR h) (by omega) (by omega))
    unfold xo
    dsimp only
    rw[z6 head,hc]
    dsimp only
    rw[zl,bX 0 0 d l h hs,vg,zJ (by omega) (by omega),za (by rw[beq_eq_false_iff_ne]; omega),z8]
theorem DD(s:zh)(hs:s.length≤1000000)(d:Nat)(l:Bool)(r:zh)(h:r <:+ s):(uc (xx s r 0 0 d l)).run=fG s d (J6 d r l):=by
 have h2:=(dD qT 24 r).trans h
 have h3:=VM (dD qT 24 r) h
 have h4:qX s (vc qT 24 r).2≤s.length:=by unfold qX; omega
 unfold uc J6
 rw[vg,z6 (GM s hs d l (qX s r) 24 r h (Nat.le_refl _) (by omega))]
 by_cases hc:stuck (vc qT 24 r).2=true
 ·rw[if_pos hc,if_pos hc,Sum.elim_inr]; rfl
 ·rw[if_neg hc,if_neg hc,Sum.elim_inl]
  dsimp only
  rw[vg,uM,zq ⟨by omega,by omega,by omega⟩,z8,QH h (iM qT 24 r)]
  rfl
def QR.ij(s:zh)(d:Nat):QR→Prop
 | .no=>True
 | .er k b _ r d' _=>k≠0∧b <:+ s∧r <:+ s∧d≤d'∧d'≤1000
 | .ok _ r _=>r <:+ s
theorem Qa{s r t:zh}{l:Bool}{d:Nat}(h:r <:+ s):(U6 t r l).ij s d:=by unfold U6; split<;>exact h
theorem FO{s r:zh}{d:Nat}{l:Bool}(hd:d≤31)(h:r <:+ s):(UI d r l).ij s d:=by
 have DL:=kC xY r
 unfold UI
 cases e:r.dropWhile xY with
 | nil=>exact Qa List.nil_suffix
 | cons c q =>
  rw[e]at DL
  have hq:=(xR DL).trans h
  dsimp only
  split
  ·split
   ·exact⟨by decide,hq,hq,Nat.le_refl _,by omega⟩
   ·exact Qa ((kC xY q).trans hq)
  ·exact Qa (DL.trans h)
theorem Wr{s:zh}{d:Nat}{K:Bool→zh→QR}(hK:∀ l r,r <:+ s→(K l r).ij s d)(m1 m2:UInt8)(k1 k2:Int):∀ (n:Nat) (e:Expr) (r:zh) (l:Bool),r <:+ s→(np K m1 m2 k1 k2 n e r l).ij s d
 | 0,_,_,_,_=>trivial
 | n+1,e,r,l,h=>by
  unfold np
  cases ht:qu [m1,m2] r with
  | none=>exact(wD r).trans h
  | some x =>
   obtain⟨c,q⟩:=x
   have hq:=(xR (kv ht).1).trans h
   have:=hK l q hq
   dsimp only
   cases z:K l q with
   | no=>trivial
   | er k b x q2 d2 l2=>rw[z]at this; exact⟨this.1,this.2.1,(wD q2).trans this.2.2.1,this.2.2.2⟩
   | ok e2 q2 l2=>rw[z]at this; exact Wr hK m1 m2 k1 k2 n _ q2 l2 this
theorem UY{s:zh}{d:Nat}{K:Bool→zh→QR}(hK:∀ l r,r <:+ s→(K l r).ij s d)(m1 m2:UInt8)(k1 k2:Int)(n:Nat)(l:Bool)(r:zh)(h:r <:+ s):(Vt K m1 m2 k1 k2 n l r).ij s d:=by
 unfold Vt
 have:=hK l r h
 cases z:K l r with
 | no=>trivial
 | er k b x q2 d2 l2=>rw[z]at this; exact⟨this.1,this.2.1,(wD q2).trans this.2.2.1,this.2.2.2⟩
 | ok e2 q2 l2=>rw[z]at this; exact Wr hK m1 m2 k1 k2 n _ q2 l2 this
theorem Eh{s:zh}{F S:Nat→Bool→zh→QR}(hF:∀ d l r,d≤31→r <:+ s→(F d l r).ij s d)(hS:∀ d l r,d≤31→r <:+ s→(S d l r).ij s d)(d:Nat)(l:Bool)(r:zh)(hd:d≤31)(h:r <:+ s):(Ku F S d l r).ij s d:=by
 have hk:=(wD r).trans h
 unfold Ku
 cases e:wV r with
 | nil=>exact⟨by decide,List.nil_suffix,List.nil_suffix,Nat.le_refl _,by omega⟩
 | cons c q =>
  rw[e]at hk
  have hq:=xR hk
  dsimp only
  split
  ·split
   ·exact⟨by decide,hk,hk,Nat.le_refl _,by omega⟩
   ·have:=hF (d+1) l q (by omega) hq
    cases z:F (d+1) l q with
    | no=>trivial
    | er k b x q2 d2 l2=>rw[z]at this; exact⟨this.1,this.2.1,this.2.2.1,by have:=this.2.2.2.1; omega,by have:=this.2.2.2.2; omega⟩
    | ok e2 q2 l2=>rw[z]at this; exact this
  ·split
   ·split
    ·exact⟨by decide,hk,hk,Nat.le_refl _,by omega⟩
    ·have:=hS (d+1) l q (by omega) hq
     cases z:S (d+1) l q with
     | no=>trivial
     | er k b x q2 d2 l2=>rw[z]at this; exact⟨this.1,this.2.1,(wD q2).trans this.2.2.1,by have:=this.2.2.2.1; omega,this.2.2.2.2⟩
     | ok e2 q2 l2 =>
      rw[z]at this
      show QR.ij s d (match qu [41] q2 with | some (_,q')=>.ok e2 q' l2 | none=>.er 2 (wV q2) zE (wV q2) (d+1) l2)
      cases w:qu [41] q2 with
      | none=>exact⟨by decide,(wD q2).trans this,(wD q2).trans this,by omega,by omega⟩
      | some x=>exact(xR (kv w).1).trans this
   ·split
    ·exact FO hd hk
    ·split
     ·unfold J6
      have:=(dD qT 24 (c::q)).trans hk
      split
      ·exact⟨by decide,this,this,Nat.le_refl _,by omega⟩
      ·exact this
     ·exact⟨by decide,hk,hk,Nat.le_refl _,by omega⟩
theorem rQ(s:zh):∀ (n:Nat),(∀ d l r,d≤31→r <:+ s→(qF n d l r).ij s d)∧(∀ d l r,d≤31→r <:+ s→(qP n d l r).ij s d)∧(∀ d l r,d≤31→r <:+ s→(qS n d l r).ij s d)
 | 0=>⟨fun _ _ _ _ _=>by unfold qF; trivial,fun _ _ _ _ _=>by unfold qP; trivial,fun _ _ _ _ _=>by unfold qS; trivial⟩
 | n+1=>by
  obtain⟨h1,h2,h3⟩:=rQ s n
  refine⟨fun d l r hd h => ?_,fun d l r hd h => ?_,fun d l r hd h => ?_⟩
  ·unfold qF; exact Eh h1 h3 d l r hd h
  ·unfold qP; exact UY (fun l r h=>h1 d l r hd h) _ _ _ _ n l r h
  ·unfold qS; exact UY (fun l r h=>h2 d l r hd h) _ _ _ _ n l r h
end Go.AM.Lf
