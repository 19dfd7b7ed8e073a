/-
  Plain laws of the lifted program, part 1.
-/
import Derived.Test.YthhgaidlooddpaaGreatDoorLf0
import Derived.Test.YthhgaidlooddpaaGreatDoorAmA
import Derived.Test.YthhgaidlooddpaaGreatDoorAmD
import Derived.Test.YthhgaidlooddpaaGreatDoorQ0
set_option linter.unusedVariables false
open Go.AM.T (H4 Je cF fx iY lF qR qo uh vk wb z6 z7 z8 zH za zb zg zi zo)
namespace Go.AM.T
variable {σ ρ α β:Type}
theorem L8{r:σ->T (σ⊕ρ)}(l:List α)(d:α)(e:β->Int->σ)(I:Nat->β->Prop)(g:β->α->β)(fin:β->ρ)
  (step:∀ (k:Nat) (b:β) (x:α),k<l.length->nth l (k:Int) d=x->x∈l->I k b->(r (e b (k:Int))).run=some (.inl (e (g b x) ((k+1:Nat):Int)))/\I (k+1) (g b x))
  (done:∀ b,I l.length b->(r (e b (l.length:Int))).run=some (.inr (fin b))) {b:β} (h0:I 0 b):(loop r (e b 0)).run=some (fin (l.foldl g b))/\I l.length (l.foldl g b):=by
 have key:∀ (n k:Nat) (b:β),n+k=l.length->I k b->(loop r (e b (k:Int))).run=some (fin ((l.drop k).foldl g b))/\I l.length ((l.drop k).foldl g b):=by
  intro n
  induction n with
  | zero =>
   intro k b hk hb
   have:k=l.length:=by omega
   subst this
   rw[List.drop_length]
   exact⟨qR (done b hb),hb⟩
  | succ n ih =>
   intro k b hk hb
   have qs:k<l.length:=by omega
   have hd:l.drop k=l[k]::l.drop (k+1):=List.drop_eq_getElem_cons qs
   have hn:nth l (k:Int) d=l[k]:=by simp[nth,qs]
   obtain⟨h1,h2⟩:=step k b l[k] qs hn (List.getElem_mem qs) hb
   rw[hd,List.foldl_cons,uh h1]
   exact ih (k+1) _ (by omega) h2
 have:=key l.length 0 b (by omega) h0
 simpa using this
theorem XT{r:σ->T (σ⊕ρ)}(l:List α)(d:α)(e:β->Int->σ)(I:Nat->β->Prop)(g:β->α->β)(fin:β->ρ)
  (step:∀ (k:Nat) (b:β) (x:α),k<l.length->nth l (k:Int) d=x->x∈l->I k b->(r (e b (k:Int))).run=some (.inl (e (g b x) ((k+1:Nat):Int)))/\I (k+1) (g b x))
  (done:∀ b,I l.length b->(r (e b (l.length:Int))).run=some (.inr (fin b))) {b:β} (h0:I 0 b):(loop r (e b 0)).run=some (fin (l.foldl g b)) :=
 (L8 l d e I g fin step done h0).1
theorem nW{r:σ->T (σ⊕ρ)}(l:List α)(d:α)(e:β->Int->σ)(I:Nat->β->Prop)(f:List α->β->ρ)
  (step:∀ (k:Nat) (b:β) (x:α) (xs:List α),k<l.length->nth l (k:Int) d=x->x∈l->l.drop k=x::xs->I k b ->
   (∃ b',(r (e b (k:Int))).run=some (.inl (e b' ((k+1:Nat):Int)))/\I (k+1) b'/\f xs b'=f (x::xs) b)\/(r (e b (k:Int))).run=some (.inr (f (x::xs) b)))
  (done:∀ b,I l.length b->(r (e b (l.length:Int))).run=some (.inr (f [] b))) {b:β} (h0:I 0 b):(loop r (e b 0)).run=some (f l b):=by
 have key:∀ (n k:Nat) (b:β),n+k=l.length->I k b->(loop r (e b (k:Int))).run=some (f (l.drop k) b):=by
  intro n
  induction n with
  | zero =>
   intro k b hk hb
   have:k=l.length:=by omega
   subst this
   rw[List.drop_length]
   exact qR (done b hb)
  | succ n ih =>
   intro k b hk hb
   have qs:k<l.length:=by omega
   have hd:l.drop k=l[k]::l.drop (k+1):=List.drop_eq_getElem_cons qs
   have hn:nth l (k:Int) d=l[k]:=by simp[nth,qs]
   rcases step k b l[k] _ qs hn (List.getElem_mem qs) hd hb with⟨b',h1,h2,h3⟩ | h1
   ·rw[hd,uh h1,<- h3]
    exact ih (k+1) _ (by omega) h2
   ·rw[hd]; exact qR h1
 have:=key l.length 0 b (by omega) h0
 simpa using this
end Go.AM.T
namespace Go.AM.PL
theorem oy(k n:Nat)(h:k<n)(hn:n<=4000000000000):zF ((k:Int)+1)=((k+1:Nat):Int):=by rw[zu (by omega) (by omega)]; omega
theorem kl{k n:Nat}(h:k<n):decide ((k:Int)<(n:Int))=true:=decide_eq_true (by omega)
theorem gS(n:Nat):decide ((n:Int)<(n:Int))=false:=decide_eq_false (by omega)
theorem qp{k n:Nat}(h:k<n):qu (k:Int) n:=⟨by omega,by omega⟩
theorem JE{α:Type}(f:α->zf)(l:List α)(s:zf):l.foldl (λs x=>s++f x) s=s++l.flatMap f:=by
 induction l generalizing s with
 | nil=>simp
 | cons x l ih=>rw[List.foldl_cons,ih,List.flatMap_cons,List.append_assoc]
theorem uk{α:Type}(f:α->zf)(l:List α)(c:Nat)(h:∀ x∈l,(f x).length<=c):(l.flatMap f).length<=l.length*c:=by
 induction l with
 | nil=>simp
 | cons x l ih =>
  have h1:=h x List.mem_cons_self
  have h2:=ih λy hy=>h y (List.mem_cons_of_mem _ hy)
  rw[List.flatMap_cons,List.length_append,List.length_cons,Nat.add_mul]; omega
theorem Gc{k n c:Nat}(h:k<=n):k*c<=n*c:=Nat.mul_le_mul_right c h
theorem jA(a b:zf):cat a b=a++b:=rfl
theorem zQ(a b:zf):(cat a b).length=a.length+b.length:=by rw[jA,List.length_append]
end Go.AM.PL
namespace Go.AM.PL
theorem Pm(n:Nat)(h:n≠0):WQ n=Bo n:=by
 induction n using Nat.strongRecOn with
 | _ n ih =>
  rw[WQ,iN h]
  split
  ·rename_i c
   rw[show n / 10=0 by omega,cW]
   unfold LI
   rw[show n % 10=n by omega]; rfl
  ·rename_i c
   rw[ih (n / 10) (by omega) (by omega)]; rfl
theorem I7(n:Nat):WQ n=pr n:=by
 unfold pr
 by_cases h:n=0
 ·subst h; rw[WQ]; rfl
 ·rw[if_neg h,Pm n h]
end Go.AM.PL
namespace Go.AM.Lf
open PL
def z2K(n:Int):Prop := -9223372036854775808<=n/\n<=9223372036854775807
theorem Mq(n:Int)(h:z2K n):(strconv_Itoa n).run=some (fj n):=by
 unfold strconv_Itoa
 unfold z2K at h
 rw[zb h,z7]
theorem z7g{n:Nat}(h:n<18446744073709551616):(zt n).length<=2:=zM.2 (by show n<4294967296 ^ 2; omega)
theorem G7{n:Nat}(h:n<18446744073709551616):(pr n).length<=37:=cJ n 2 (z7g h)
theorem GG(n:Int)(h:z2K n):(fj n).length<=38:=by
 obtain⟨h1,h2⟩:=h
 unfold fj
 split
 ·rw[I7]
  have:=G7 (n:=n.natAbs) (by omega)
  simp; omega
 ·rw[I7]
  have:=G7 (n:=n.toNat) (by omega)
  omega
theorem s7(a:Rat)(h:wG 1000 a):(cZ (norm a)).length<=40000:=by
 have ya:=en (by omega) h
 generalize norm a=v at *
 have h1:=cJ (nv v.2.1) 1000 (Nat.le_trans (zC ya.1) ya.2.2.1)
 have h2:=cJ (nv v.2.2.1) 1000 (Nat.le_trans (zC ya.2.1) ya.2.2.2)
 have h3:=o8 v.1
 unfold cZ
 split<;>simp<;>omega
theorem BQ(s:zf):zr s s=true:=by rw[vD]; simp
theorem Gl{l:List Int}(h:wf (.sl u32) l):zk l:=λx hx=>by
 obtain⟨p,q⟩:=h x hx
 have p':(0:Int)<=x:=p
 have q':x<=4294967295:=q
 exact⟨p',by omega⟩
theorem P9{a:Rat}(h:wf vn a):zk a.2.1/\zk a.2.2.1:=⟨Gl h.2.1,Gl h.2.2.1⟩
end Go.AM.Lf
namespace Go.AM.PL
def kg(b:UInt8):Bool:=decide (48<=b.toNat/\b.toNat<=57)
def xn(s:zf):Bool:=s.all kg
def wD(s:zf):Nat:=s.foldl (λn b=>n*10+(b.toNat-48)) 0
theorem IA(s:zf)(n:Nat):s.foldl (λn b=>n*10+(b.toNat-48)) n=n*10 ^ s.length+wD s:=by
 unfold wD
 induction s generalizing n with
 | nil=>simp
 | cons b s ih =>
  rw[List.foldl_cons,List.foldl_cons,ih,ih (0*10+(b.toNat-48)),List.length_cons,Nat.pow_succ]
  grind
theorem sP(s t:zf):wD (s++t)=wD s*10 ^ t.length+wD t:=by
 have:=IA t (wD s)
 unfold wD at this ⊢
 rw[List.foldl_append,this]
theorem Ja(s:zf)(b:UInt8):wD (s++[b])=wD s*10+(b.toNat-48):=by
 unfold wD; rw[List.foldl_append]; rfl
theorem oq{b:UInt8}:kg b=true↔48<=b.toNat/\b.toNat<=57:=by unfold kg; simp
theorem KA{s:zf}(h:xn s=true):wD s<10 ^ s.length:=by
 have key:∀ (s:zf) (n k:Nat),xn s=true->n<10 ^ k->s.foldl (λn b=>n*10+(b.toNat-48)) n<10 ^ (k+s.length):=by
  intro s
  induction s with
  | nil=>intro n k _ h; simpa using h
  | cons b s ih =>
   intro n k hd hn
   simp only[xn,List.all_cons,Bool.and_eq_true]at hd
   have hb:=oq.1 hd.1
   have:=ih (n*10+(b.toNat-48)) (k+1) hd.2 (by rw[Nat.pow_succ]; omega)
   rw[List.foldl_cons,List.length_cons]
   rwa [show k+(s.length+1)=k+1+s.length by omega]
 have:=key s 0 0 h (by simp)
 simpa[wD]using this
theorem bD(s t:zf):xn (s++t)=(xn s&&xn t):=by unfold xn; rw[List.all_append]
theorem uO(b:UInt8)(t:zf):xn (b::t)=(kg b&&xn t):=rfl
theorem tg{s:zf}(h:xn s=true):(zt (wD s)).length<=s.length+1:=by
 refine Nat.le_trans (Vo (Nat.le_of_lt (KA h))) ?_
 refine zM.2 (Nat.lt_of_lt_of_le (Nat.pow_lt_pow_right (a:=10) (by omega) (Nat.lt_succ_self s.length)) ?_)
 exact Nat.pow_le_pow_left (by omega) _
def lK(s:zf):Option Nat:=if s=[]\/400<s.length\/xn s=false then none else some (wD s)
theorem XI(f:Nat->Bool):∀ (n k i:Nat),i<n->nJ .bool (cj .bool n) (IT (e:=.bool) f n k) i=f (k+i)
 | 0,_,_,h=>by omega
 | n+1,k,0,_=>by
  show(match(wv (a:=.bool) (f k):Option (den .bool))with | some y=>y | none=>zj .bool)=_
  simp[wv]
 | n+1,k,i+1,h=>by
  show nJ .bool (cj .bool n) (IT (e:=.bool) f n (k+1)) i=_
  rw[XI f n (k+1) i (by omega)]
  congr 1; omega
abbrev j4:zf:=[48,49,50,51,52,53,54,55,56,57]
theorem TU:∀ c:Fin 256,j4.contains (UInt8.ofNat c.val)=decide (48<=c.val/\c.val<=57):=by decide +kernel
theorem kV{s:zf}{k:Nat}(h:k<s.length):qm s (k:Int)=((s[k]).toNat:Int):=by
 unfold qm; simp[h]
theorem DC(b:UInt8)(s:zf):wX 1 (((b::s).length:Nat):Int) (b::s)=s:=by unfold wX; simp
theorem IF(s:zf)(b:UInt8):wX 0 ((s.length:Nat):Int) (s++[b])=s:=by unfold wX; simp
end Go.AM.PL
namespace Go.AM.Lf
open PL
theorem tU(b:UInt8):(xw (bM j4) (b.toNat:Int)).run=some (kg b):=by
 have hb:b.toNat<256:=b.toNat_lt
 unfold xw
 rw[zb ⟨by omega,by omega⟩,z7]
 unfold bM
 rw[Int.toNat_natCast,XI _ 256 0 _ hb,Nat.zero_add]
 exact congrArg some (TU ⟨b.toNat,hb⟩)
theorem Ur(s:zf)(hs:s.length<=1000000000):∃ r,(wO s (bM j4)).run=some r/\xn r=xn s/\(xn r=true->r=[])/\r.length<=s.length:=by
 have:=T.qE (r:=xv (bM j4)) (λt:zf=>xn t=xn s/\t.length<=s.length) (λt=>t.length) (λr:zf=>xn r=xn s/\(xn r=true->r=[])/\r.length<=s.length) (λt ht => ?_) (s:=s) ⟨rfl,Nat.le_refl _⟩
 ·obtain⟨r,h1,h2⟩:=this
  have h1:(k9 (bM j4) s).run=some r:=h1
  unfold wO
  rw[z6 h1]
  exact⟨r,rfl,h2⟩
 ·rcases List.eq_nil_or_concat t with rfl | ⟨l,b,rfl⟩
  ·right
   refine⟨[],?_,ht.1,λ_=>rfl,by simp⟩
   unfold xv
   dsimp only
   rw[z8 (by rfl),z7]
  ·rw[List.concat_eq_append]at ht ⊢
   have hl:(l++[b]).length=l.length+1:=by simp
   have e1:zF (((l++[b]).length:Int)-1)=(l.length:Int):=by rw[hl,zu (by omega) (by omega)]; omega
   have e2:qm (l++[b]) (l.length:Int)=(b.toNat:Int):=by rw[kV (by simp)]; simp
   unfold xv
   dsimp only
   rw[za (decide_eq_true (by rw[hl]; omega)),e1,qo _ (by omega) (by rw[hl]; omega),e2,z6 (tU b)]
   cases hb:kg b with
   | false =>
    right
    refine⟨_,by rw[za (by rfl),z7],ht.1,λh => ?_,ht.2⟩
    rw[bD,uO,hb]at h; simp at h
   | true =>
    left
    refine⟨l,by rw[z8 (by rfl),cF _ (by omega) (by omega) (by rw[hl]; omega),z7,IF],⟨?_,by omega⟩,by omega⟩
    rw[<- ht.1,bD,uO,hb]; simp[xn]
theorem Kg(s:zf)(hs:s.length<=1000000000):∃ r,(vt s (bM j4)).run=some r/\xn r=xn s/\(xn r=true->r=[]):=by
 have:=T.qE (r:=xA (bM j4)) (λt:zf=>xn t=xn s) (λt=>t.length) (λr:zf=>xn r=xn s/\(xn r=true->r=[])) (λt ht => ?_) (s:=s) rfl
 ·obtain⟨r,h1,h2⟩:=this
  have h1:(kz (bM j4) s).run=some r:=h1
  unfold vt
  rw[z6 h1]
  exact⟨r,rfl,h2⟩
 ·cases t with
  | nil =>
   right
   refine⟨[],?_,ht,λ_=>rfl⟩
   unfold xA
   dsimp only
   rw[z8 (by rfl),z7]
  | cons b l =>
   have e2:qm (b::l) 0=(b.toNat:Int):=rfl
   unfold xA
   dsimp only
   rw[za (decide_eq_true (by simp)),qo _ (by omega) (by simp),e2,z6 (tU b)]
   cases hb:kg b with
   | false =>
    right
    refine⟨_,by rw[za (by rfl),z7],ht,λh => ?_⟩
    rw[uO,hb]at h; simp at h
   | true =>
    left
    refine⟨l,by rw[z8 (by rfl),cF _ (by omega) (by simp; omega) (by omega),z7,DC],?_,by simp⟩
    rw[<- ht,uO,hb]; rfl
theorem Kh:∀ (j:Nat) b,j4[j]? = some b->b.toNat<128:=by
 intro j b h
 have:b∈j4:=List.mem_of_getElem? h
 simp only[j4,List.mem_cons,List.not_mem_nil,or_false]at this
 rcases this with rfl | rfl | rfl | rfl | rfl | rfl | rfl | rfl | rfl | rfl<;>decide
theorem X0(s:zf)(hs:s.length<=1000000000)(hn:s≠[]):∃ r,(jG s j4).run=some r/\zr r []=xn s:=by
 obtain⟨r1,a1,a2,a3,a4⟩:=Ur s hs
 obtain⟨r,b1,b2,b3⟩:=Kg r1 (by omega)
 refine⟨r,?_,?_⟩
 ·have hm:(strings_makeASCIISet j4).run=some (bM j4,true):=by
   unfold strings_makeASCIISet
   rw[zb ⟨by decide,Kh⟩,z7]
  have e1:zr s []=false:=by rw[vD]; simpa using hn
  unfold jG
  rw[z8 (by rw[e1]; rfl),zb (λh=>by simp at h),z8 (by rfl),z6 hm,zi,z6 a1,z6 b1,z7]
 ·rw[vD]
  rw[a2]at b2
  cases h:xn s with
  | true=>rw[h]at b2; rw[b3 b2]; simp
  | false =>
   rw[h]at b2
   refine decide_eq_false λz => ?_
   subst z; cases b2
theorem z3r(v:Nat)(b:UInt8)(hb:kg b=true):zK (YE ((b.toNat:Int)-48))=((b.toNat-48:Nat):Int):=by
 have:=oq.1 hb
 rw[Yw (by omega) (by omega),qk (by omega) (by omega)]; omega
theorem IE:zk [(10:Int)]:=by intro x hx; simp at hx; omega
theorem gY(s:zf)(hs:s.length<=1000000000):(vb s).run=some (match lK s with | some n=>(zt n,true) | none=>([],false)):=by
 unfold vb lK
 by_cases c1:s=[]
 ·subst c1; rw[if_pos (.inl rfl)]; rfl
 ·have e1:zr s []=false:=by rw[vD]; simpa using c1
  by_cases c2:400<s.length
  ·have hg:(.ite (zr s ([]:zf)) (.ret true) (.ite (decide ((400:Int)<(Nat.cast (List.length s):Int))) (.ret true) (T.bind (jG s ([48,49,50,51,52,53,54,55,56,57]:zf)) λr=>.ret (!(zr r ([]:zf))))):T Bool).run=some true:=by
    rw[z8 e1,za (decide_eq_true (by omega)),z7]
   rw[z6 hg,if_pos (.inr (.inl c2))]; rfl
  ·obtain⟨r,h1,h2⟩:=X0 s hs c1
   have hg:(.ite (zr s ([]:zf)) (.ret true) (.ite (decide ((400:Int)<(Nat.cast (List.length s):Int))) (.ret true) (T.bind (jG s ([48,49,50,51,52,53,54,55,56,57]:zf)) λr=>.ret (!(zr r ([]:zf))))):T Bool).run=some (!(xn s)):=by
    rw[z8 e1,z8 (decide_eq_false (by omega)),z6 h1,z7,h2]
   rw[z6 hg]
   cases hd:xn s with
   | false=>rw[if_pos (.inr (.inr rfl))]; rfl
   | true =>
    rw[if_neg (by simp[c1]; omega),z8 (by rfl)]
    have hL:(sV s (s.length:Int) ([],0)).run=some (zt (wD s)):=by
     have:=vk (r:=yG s (s.length:Int)) (λst:List Int×Int=>∃ k:Nat,st=(zt (wD (s.take k)),(k:Int))/\k<=s.length) (λst=>s.length-st.2.toNat) (λ_=>zt (wD s)) (λst xE => ?_) (s:=([],0)) ⟨0,by simp[wD,ql],by omega⟩
     ·exact this
     ·obtain⟨k,rfl,hk⟩:=xE
      by_cases c:k<s.length
      ·left
       have hb:kg s[k]=true:=List.all_eq_true.1 hd _ (List.getElem_mem c)
       have ht:xn (s.take k)=true:=List.all_eq_true.2 λx hx=>List.all_eq_true.1 hd x (List.mem_of_mem_take hx)
       have hl:=tg ht
       have RU:(zt (wD (s.take k))).length<=500:=by rw[List.length_take]at hl; omega
       have hm:=nD (zt (wD (s.take k))) [10] (zl _) IE (by omega) (by simp)
       rw[zO,show nv [10]=10 from rfl]at hm
       have hml:=Qk (wD (s.take k)) 10
       have SL:(zt 10).length<=1:=zM.2 (by decide)
       have hd9:(zt (s[k].toNat-48)).length<=1:=zM.2 (by have:=oq.1 hb; show _<4294967296 ^ 1; omega)
       have ha:=Gg (zt (wD (s.take k)*10)) (zt (s[k].toNat-48)) (zl _) (zl _) (by omega) (by omega)
       rw[zO,zO]at ha
       refine⟨(zt (wD (s.take (k+1))),((k+1:Nat):Int)),?_,⟨k+1,rfl,c⟩,by simp only[Int.toNat_natCast]; omega,rfl⟩
       unfold yG
       dsimp only
       rw[za (kl c),z6 hm,zb (qp c),kV c,z3r 0 _ hb,z6 (kW _ (by have:=oq.1 hb; omega)),z6 ha,z7,oy k _ c (by omega),
        List.take_succ_eq_append_getElem c,Ja]
      ·have:k=s.length:=by omega
       subst this
       right
       unfold yG
       dsimp only
       rw[z8 (gS _),z7,List.take_length]
    rw[z6 hL,z7]
end Go.AM.Lf
namespace Go.AM.PL
def Yq(t:zf):Option (Nat×Nat) :=
 if t.takeWhile kg=[]then none else match t.dropWhile kg with
 | []=>some (wD (t.takeWhile kg),1)
 | c::q=>if q=[]\/xn q=false then none else if c=46 then some (wD (t.takeWhile kg)*10 ^ q.length+wD q,10 ^ q.length)
  else if c=47 then(if wD q=0 then none else some (wD (t.takeWhile kg),wD q))else none
theorem nz{u:zf}(h:xn u=true)(r:zf)(hr:∀ c q,r=c::q->kg c=false):(u++r).takeWhile kg=u/\(u++r).dropWhile kg=r:=by
 induction u with
 | nil =>
  cases r with
  | nil=>exact⟨rfl,rfl⟩
  | cons c q=>have:=hr c q rfl; simp[this]
 | cons b u ih =>
  rw[uO,Bool.and_eq_true]at h
  obtain⟨i1,i2⟩:=ih h.2
  simp[h.1,i1,i2]
theorem Gv{u:zf}(h:xn u=true):Yq u=if u=[]then none else some (wD u,1):=by
 have:=nz h [] (λc q z=>by cases z)
 rw[List.append_nil]at this
 unfold Yq
 rw[this.1,this.2]
theorem mF{u:zf}(h:xn u=true)(c:UInt8)(q:zf)(hc:kg c=false):Yq (u++c::q)=if u=[]then none else if q=[]\/xn q=false then none else if c=46 then some (wD u*10 ^ q.length+wD q,10 ^ q.length)
  else if c=47 then(if wD q=0 then none else some (wD u,wD q))else none:=by
 have:=nz h (c::q) (λc' q' z=>by cases z; exact hc)
 unfold Yq
 rw[this.1,this.2]
theorem GR{u:zf}(h:xn u=true)(c:UInt8)(q:zf)(hc:kg c=false)(h1:c≠46)(h2:c≠47):Yq (u++c::q)=none:=by
 rw[mF h c q hc,if_neg h1,if_neg h2]
 split
 ·rfl
 ·split<;>rfl
theorem iA{w:zf}(h:xn w=false):∃ u c v,w=u++c::v/\xn u=true/\kg c=false:=by
 induction w with
 | nil=>cases h
 | cons b w ih =>
  cases hb:kg b with
  | false=>exact⟨[],b,w,rfl,rfl,hb⟩
  | true =>
   rw[uO,hb,Bool.true_and]at h
   obtain⟨u,c,v,rfl,h1,h2⟩:=ih h
   exact⟨b::u,c,v,rfl,by rw[uO,hb,h1]; rfl,h2⟩
theorem V0{c:UInt8}{s:zf}(h:c∈s):∃ w q,s=w++c::q/\c ∉ w:=by
 induction s with
 | nil=>cases h
 | cons b s ih =>
  by_cases hb:b=c
  ·subst hb; exact⟨[],s,rfl,by simp⟩
  ·obtain⟨w,q,rfl,h2⟩:=ih (by rcases List.mem_cons.1 h with h | h; exact absurd h.symm hb; exact h)
   exact⟨b::w,q,rfl,by simp[h2]; exact λz=>hb z.symm⟩
theorem Sz(c:UInt8)(w q:zf)(h:c ∉ w):cn (w++c::q) [c]=(w.length:Int):=by
 induction w with
 | nil=>simp[cn]
 | cons b w ih =>
  have hb:c≠b:=λz=>h (by simp[z])
  have hw:=ih (λz=>h (List.mem_cons_of_mem _ z))
  rw[List.cons_append]
  unfold cn
  rw[hw]
  have e1:List.isPrefixOf [c] (b::(w++c::q))=false:=by simp[List.isPrefixOf,hb]
  rw[e1]
  have e2:((w.length:Int) == -1)=false:=by simp
  rw[e2]
  simp
theorem LJ(c:UInt8)(s:zf)(h:c ∉ s):cn s [c] = -1:=by
 induction s with
 | nil=>rfl
 | cons b w ih =>
  have hb:c≠b:=λz=>h (by simp[z])
  unfold cn
  rw[ih (λz=>h (List.mem_cons_of_mem _ z))]
  have e1:List.isPrefixOf [c] (b::w)=false:=by simp[List.isPrefixOf,hb]
  rw[e1]; rfl
theorem WC(c:UInt8)(w q:zf)(h:c ∉ w):ua (w++c::q) [c]=(w,q,true):=by
 unfold ua
 rw[Sz c w q h,if_pos (by omega)]
 simp
theorem rZ(c:UInt8)(s:zf)(h:c ∉ s):ua s [c]=(s,[],false):=by
 unfold ua
 rw[LJ c s h,if_neg (by omega)]
theorem JR{s:zf}{n:Nat}(h:lK s=some n):s≠[]/\s.length<=400/\xn s=true/\n=wD s:=by
 unfold lK at h
 split at h
 ·cases h
 ·rename_i hc
  cases h
  simp only[not_or]at hc
  exact⟨hc.1,by omega,by simpa using hc.2.2,rfl⟩
theorem ta{s:zf}(h1:s≠[])(h2:s.length<=400)(h3:xn s=true):lK s=some (wD s):=by
 unfold lK
 rw[if_neg (by simp[h1,h3]; omega)]
theorem iO{s:zf}(h:s=[]\/xn s=false):lK s=none:=by
 unfold lK
 rw[if_pos (by rcases h with h | h; exact .inl h; exact .inr (.inr h))]
end Go.AM.PL
namespace Go.AM.Lf
open PL
def q7:Rat:=(false,[],[],())
def Ux(s:zf):Option (Nat×Nat):=Yq (oH s [45])
theorem Qi(s p:zf):(oH s p).length<=s.length:=by unfold oH; split<;>simp
theorem CG(t:zf)(ht:t.length<=400)(neg:Bool) :
  (T.bind (strings_Cut t ([46]:zf)) λ(whole,part,ok) =>
   .ite ok
    (T.bind (vb part) λ(r,is) =>
     .zA (((List.length whole)+(List.length part))<=(4611686018427387904:Nat)) <|
     T.bind (vb (cat whole part)) λ(n,both) =>
     .ite ((zr whole ([]:zf))||((!is)||(!both)))
      (.ret ((false,(([]:List Int),(([]:List Int),()))),(2:Int)))
      (T.bind (o9 (Nat.cast (List.length part):Int)) λr1 =>
       T.bind (lM neg n r1) λr2 =>
       .ret (r2,(0:Int))))
    (T.bind (strings_Cut t ([47]:zf)) λ(num,den,ok1) =>
     T.bind (vb num) λ(n1,is1) =>
     T.bind (vb (bif (!ok1)then([49]:zf)else den)) λ(d,both1) =>
     .ite ((!is1)||((!both1)||((Nat.cast (List.length d):Int)==(0:Int))))
      (.ret ((false,(([]:List Int),(([]:List Int),()))),(2:Int)))
      (T.bind (lM neg n1 d) λr3 =>
       .ret (r3,(0:Int)))):T (Rat×Int)).run=some (match Yq t with | some (n,d)=>(uE neg n d,(0:Int)) | none=>(q7,(2:Int))):=by
 have Un:∀ c:UInt8,(strings_Cut t [c]).run=some (ua t [c]):=λc=>by
  unfold strings_Cut; rw[zb (by omega),z7]
 rw[z6 (Un 46)]
 have h46:kg 46=false:=by decide
 have h47:kg 47=false:=by decide
 by_cases c1:(46:UInt8)∈t
 ·obtain⟨w,p,rfl,hw⟩:=V0 c1
  rw[WC 46 w p hw]
  have hl:w.length+p.length+1<=400:=by simp at ht; omega
  dsimp only
  rw[zi,z6 (gY p (by omega))]
  have hwp:=gY (cat w p) (by rw[zQ]; omega)
  by_cases d1:xn w=true
  ·rw[mF d1 46 p h46]
   by_cases d2:w=[]
   ·subst d2
    rw[if_pos rfl]
    generalize lK p=o at *
    cases o<;>(dsimp only; rw[zo _ (by simp; omega),z6 hwp]; generalize lK (cat [] p)=o2; cases o2<;>rfl)
   ·rw[if_neg d2]
    by_cases d3:p=[]\/xn p=false
    ·rw[if_pos d3,iO d3]
     dsimp only
     rw[zo _ (by omega),z6 hwp]
     generalize lK (cat w p)=o2
     cases o2<;>(dsimp only; rw[za (by simp),z7]; rfl)
    ·rw[if_neg d3,if_pos rfl]
     have d4:p≠[]:=λz=>d3 (.inl z)
     have d5:xn p=true:=by cases h:xn p with | true=>rfl | false=>exact absurd (.inr h) d3
     have d6:xn (cat w p)=true:=by rw[jA,bD,d1,d5]; rfl
     have d7:cat w p≠[]:=by rw[jA]; simp[d2]
     rw[ta d4 (by omega) d5]
     rw[ta d7 (by rw[zQ]; omega) d6]at hwp
     dsimp only at hwp ⊢
     have e1:zr w []=false:=by rw[vD]; simpa using d2
     have SL:=oj p.length
     have hn:=tg d6
     have ho:=rH neg (zt (wD (cat w p))) (zt (10 ^ p.length)) (zl _) (zl _) (by rw[zQ]at hn; omega) (by omega)
     rw[zO,zO]at ho
     rw[zo _ (by omega),z6 hwp]
     dsimp only
     rw[z8 (by rw[e1]; rfl),z6 (mP p.length (by omega)),z6 ho,z7,jA,sP]
  ·have d1:xn w=false:=by simpa using d1
   obtain⟨u,c,v,rfl,g1,g2⟩:=iA d1
   have TH:c≠46:=λz=>hw (by simp[z])
   have e:Yq (u++c::v++46::p)=none:=by
    rw[List.append_assoc,List.cons_append,mF g1 c _ g2]
    have:xn (v++46::p)=false:=by rw[bD,uO,h46]; simp
    rw[if_pos (show v++46::p=[]\/xn (v++46::p)=false from .inr this)]; split<;>rfl
   rw[e]
   have ya:lK (cat (u++c::v) p)=none:=iO (.inr (by rw[jA,bD,d1]; rfl))
   rw[ya]at hwp
   generalize lK p=o at *
   cases o<;>(dsimp only; rw[zo _ (by omega),z6 hwp]; dsimp only; rw[za (by simp),z7]; rfl)
 ·rw[rZ 46 t c1]
  dsimp only
  rw[zg,z6 (Un 47)]
  have fin:∀ (num den:zf) (x:Bool),num.length<=400->den.length<=400->(T.bind (vb num) λ(n1,is1) =>
     T.bind (vb (bif (!x)then([49]:zf)else den)) λ(d,both1) =>
     .ite ((!is1)||((!both1)||((Nat.cast (List.length d):Int)==(0:Int))))
      (.ret ((false,(([]:List Int),(([]:List Int),()))),(2:Int)))
      (T.bind (lM neg n1 d) λr3=>.ret (r3,(0:Int))):T (Rat×Int)).run =
     some (match lK num,lK (bif (!x)then([49]:zf)else den)with | some n,some d=>if d=0 then(q7,(2:Int))else(uE neg n d,(0:Int)) | _,_=>(q7,(2:Int))):=by
   intro num den x hn hd
   have RV:(bif (!x)then([49]:zf)else den).length<=400:=by cases x<;>simp[hd]
   generalize (bif (!x)then([49]:zf)else den)=dd at *
   rw[z6 (gY num (by omega))]
   have FJ:=gY dd (by omega)
   cases h1:lK num with
   | none =>
    dsimp only
    rw[z6 FJ]
    generalize lK dd=o
    cases o<;>rfl
   | some n =>
    dsimp only
    rw[z6 FJ]
    cases h2:lK dd with
    | none=>rfl
    | some d =>
     obtain⟨a1,a2,a3,rfl⟩:=JR h1
     obtain⟨b1,b2,b3,rfl⟩:=JR h2
     dsimp only
     have l1:=tg a3
     have l2:=tg b3
     by_cases z:wD dd=0
     ·rw[z,ql,if_pos rfl]; rfl
     ·rw[if_neg z]
      have:(zt (wD dd)).length≠0:=λh=>z (qV.1 (List.eq_nil_of_length_eq_zero h))
      have ho:=rH neg (zt (wD num)) (zt (wD dd)) (zl _) (zl _) (by omega) (by omega)
      rw[zO,zO]at ho
      rw[z8 (by simp; exact λh=>z (qV.1 h)),z6 ho,z7]
  by_cases c2:(47:UInt8)∈t
  ·obtain⟨w,q,rfl,hw⟩:=V0 c2
   rw[WC 47 w q hw]
   have hl:w.length+q.length+1<=400:=by simp at ht; omega
   rw[fin w q true (by omega) (by omega)]
   rw[show(bif (!true)then([49]:zf)else q)=q from rfl]
   by_cases d1:xn w=true
   ·rw[mF d1 47 q h47]
    by_cases d2:w=[]
    ·rw[if_pos d2,iO (.inl d2)]
    ·rw[if_neg d2,ta d2 (by omega) d1]
     by_cases d3:q=[]\/xn q=false
     ·rw[if_pos d3,iO d3]
     ·have d4:q≠[]:=λz=>d3 (.inl z)
      have d5:xn q=true:=by cases h:xn q with | true=>rfl | false=>exact absurd (.inr h) d3
      rw[if_neg d3,if_neg (by decide),if_pos rfl,ta d4 (by omega) d5]
      dsimp only
      split<;>rfl
   ·have d1:xn w=false:=by simpa using d1
    obtain⟨u,c,v,rfl,g1,g2⟩:=iA d1
    rw[iO (.inr d1)]
    have z2Q:c≠47:=λz=>hw (by simp[z])
    have TH:c≠46:=λz=>c1 (by simp[z])
    rw[List.append_assoc,List.cons_append,GR g1 c _ g2 TH z2Q]
  ·rw[rZ 47 t c2]
   rw[fin t [] false ht (by simp)]
   rw[show(bif (!false)then([49]:zf)else[])=[49]from rfl]
   have h1:lK [49]=some 1:=by decide
   rw[h1]
   by_cases d1:xn t=true
   ·rw[Gv d1]
    by_cases d2:t=[]
    ·rw[if_pos d2,iO (.inl d2)]
    ·rw[if_neg d2,ta d2 ht d1]; rfl
   ·have d1:xn t=false:=by simpa using d1
    rw[iO (.inr d1)]
    obtain⟨u,c,v,rfl,g1,g2⟩:=iA d1
    have z2Q:c≠47:=λz=>c2 (by simp[z])
    have TH:c≠46:=λz=>c1 (by simp[z])
    rw[GR g1 c _ g2 TH z2Q]
theorem pO(s:zf)(hs:s.length<=1000000000):(yq s).run=some (if 400<s.length then(q7,(3:Int))else match Ux s with | some (n,d)=>(uE (List.isPrefixOf [45] s) n d,(0:Int)) | none=>(q7,(2:Int))):=by
 unfold yq
 by_cases c:400<s.length
 ·rw[za (decide_eq_true (by omega)),if_pos c,z7]; rfl
 ·have hp:(strings_CutPrefix s [45]).run=some (oH s [45],List.isPrefixOf [45] s):=rfl
  have hl:=Qi s [45]
  rw[z8 (decide_eq_false (by omega)),if_neg c,z6 hp]
  exact CG _ (by omega) _
end Go.AM.Lf
namespace Go.AM.PL
theorem z4e(t:zf):∃ u r,t=u++r/\xn u=true/\(∀ c q,r=c::q->kg c=false):=by
 induction t with
 | nil=>exact⟨[],[],rfl,rfl,λc q h=>by cases h⟩
 | cons b t ih =>
  cases hb:kg b with
  | false=>exact⟨[],b::t,rfl,rfl,λc q h=>by cases h; exact hb⟩
  | true =>
   obtain⟨u,r,rfl,h1,h2⟩:=ih
   exact⟨b::u,r,rfl,by rw[uO,hb,h1]; rfl,h2⟩
end Go.AM.PL

namespace Go.AM.PL
theorem SB(n:Nat):kg (LI n)=true/\(LI n).toNat-48=n % 10:=by
 have h:(LI n).toNat=48+n % 10:=by unfold LI; rw[UInt8.toNat_ofNat']; omega
 exact⟨oq.2 (by omega),by omega⟩
theorem OI(n:Nat):xn (Bo n)=true/\wD (Bo n)=n:=by
 induction n using Nat.strongRecOn with
 | _ n ih =>
  by_cases h:n=0
  ·subst h; rw[cW]; exact⟨rfl,rfl⟩
  ·obtain⟨h1,h2⟩:=ih (n / 10) (by omega)
   obtain⟨h3,h4⟩:=SB n
   rw[iN h]
   refine⟨by rw[bD,h1,uO,h3]; rfl,?_⟩
   rw[Ja,h2,h4]; omega
theorem I1(n:Nat):xn (pr n)=true/\wD (pr n)=n:=by
 unfold pr
 split
 ·rename_i h; subst h; exact⟨by decide,by decide⟩
 ·exact OI n
theorem z2j(n k:Nat)(hk:1<=k)(h:n<10 ^ k):(pr n).length<=k:=by
 unfold pr
 split
 ·simpa using hk
 ·exact Tg n k h
theorem Rn(k:Nat):xn (jh [48] k)=true/\wD (jh [48] k)=0:=by
 induction k with
 | zero=>exact⟨rfl,rfl⟩
 | succ k ih =>
  show xn ([48]++jh [48] k)=true/\wD ([48]++jh [48] k)=0
  rw[bD,sP,ih.1,ih.2]
  exact⟨by decide,by show 0*_+0=0; omega⟩
end Go.AM.PL
namespace Go.AM.Lf
open PL
theorem UZ(s:zf)(k:Nat)(hk:k≠0)(hs:xn s=true):∃ w p,CQ s k=w++46::p/\xn w=true/\w≠[]/\xn p=true/\p.length=k/\wD w*10 ^ k+wD p=wD s/\w.length+k=max s.length (k+1):=by
 unfold CQ
 rw[if_neg hk]
 have hr:=Rn (k+1-s.length)
 have hl:=tJ (k+1-s.length)
 have hd:xn (jh [48] (k+1-s.length)++s)=true:=by rw[bD,hr.1,hs]; rfl
 have hv:wD (jh [48] (k+1-s.length)++s)=wD s:=by rw[sP,hr.2]; omega
 have hlen:(jh [48] (k+1-s.length)++s).length=(k+1-s.length)+s.length:=by rw[List.length_append,hl]
 generalize jh [48] (k+1-s.length)++s=t at *
 refine⟨t.take (t.length-k),t.drop (t.length-k),by simp,?_,?_,?_,by simp; omega,?_,by simp; omega⟩
 ·exact List.all_eq_true.2 λx hx=>List.all_eq_true.1 hd x (List.mem_of_mem_take hx)
 ·intro z
  have:=congrArg List.length z
  simp at this; omega
 ·exact List.all_eq_true.2 λx hx=>List.all_eq_true.1 hd x (List.mem_of_mem_drop hx)
 ·have:=sP (t.take (t.length-k)) (t.drop (t.length-k))
  rw[List.take_append_drop,hv,List.length_drop,show t.length-(t.length-k)=k by omega]at this
  exact this.symm
theorem Hb(n k:Nat)(h:(zt n).length<=k):n<10 ^ (10*k):=by
 refine Nat.lt_of_lt_of_le (zM.1 h) ?_
 rw[Nat.pow_mul]
 exact Nat.pow_le_pow_left (by decide) k
theorem Ew(n k:Nat)(hk:1<=k)(h:(zt n).length<=k):(pr n).length<=10*k:=z2j n (10*k) (by omega) (Hb n k h)
theorem Zy(b:Bool)(N D:Nat)(hD:D≠0):∀ (f k:Nat) (s:zf),qF b N D k f=(s,true)->∃ j,k<=j/\j<k+f/\N*10 ^ j % D=0/\s=YA b++CQ (pr (N*10 ^ j / D)) j
 | 0,k,s,h=>by unfold qF at h; cases h
 | f+1,k,s,h=>by
  unfold qF at h
  split at h
  ·rename_i c; cases h; exact⟨k,Nat.le_refl _,by omega,c,rfl⟩
  ·obtain⟨j,h1,h2,h3,h4⟩:=Zy b N D hD f (k+1) s h
   exact⟨j,by omega,by omega,h3,h4⟩
theorem z02{t:zf}{n d:Nat}(h:Yq t=some (n,d)):n<10 ^ t.length/\d<=10 ^ t.length:=by
 obtain⟨u,r,rfl,h1,h2⟩:=z4e t
 have hu:=KA h1
 cases r with
 | nil =>
  rw[List.append_nil,Gv h1]at h
  split at h
  ·cases h
  ·cases h
   rw[List.append_nil]
   exact⟨hu,Nat.one_le_pow _ _ (by omega)⟩
 | cons c q =>
  rw[mF h1 c q (h2 c q rfl)]at h
  have hl:(u++c::q).length=u.length+q.length+1:=by simp; omega
  have mono:∀ {a b:Nat},a<=b->10 ^ a<=10 ^ b:=λh=>Nat.pow_le_pow_right (by omega) h
  split at h
  ·cases h
  ·split at h
   ·cases h
   ·rename_i hq
    have hd:xn q=true:=by cases hh:xn q with | true=>rfl | false=>exact absurd (.inr hh) hq
    have hq1:=KA hd
    rw[hl]
    split at h
    ·cases h
     refine⟨?_,mono (by omega)⟩
     have e:10 ^ (u.length+q.length)<=10 ^ (u.length+q.length+1):=mono (by omega)
     rw[Nat.pow_add]at e
     have:(wD u+1)*10 ^ q.length<=10 ^ u.length*10 ^ q.length:=Nat.mul_le_mul_right _ hu
     rw[Nat.add_mul,Nat.one_mul]at this
     omega
    ·split at h
     ·split at h
      ·cases h
      ·cases h
       have e1:10 ^ u.length<=10 ^ (u.length+q.length+1):=mono (by omega)
       have e2:10 ^ q.length<=10 ^ (u.length+q.length+1):=mono (by omega)
       omega
     ·cases h
theorem z5Z:10 ^ 400<4294967296 ^ 42:=by decide +kernel
theorem NZ{n k:Nat}(h:n<=10 ^ k)(hk:k<=400):(zt n).length<=42 :=
 zM.2 (Nat.lt_of_le_of_lt (Nat.le_trans h (Nat.pow_le_pow_right (by omega) hk)) z5Z)
theorem Q2{s:zf}{n d:Nat}(neg:Bool)(hs:s.length<=400)(h:Ux s=some (n,d)):wG 50 (uE neg n d):=by
 have hl:=Qi s [45]
 obtain⟨h1,h2⟩:=z02 h
 exact Et _ _ _ _ (by omega) (Nat.le_trans (NZ (by omega) (by omega:(oH s [45]).length<=400)) (by omega)) (Nat.le_trans (NZ h2 (by omega)) (by omega))
def sj{α:Type}(p:α->Bool)(i:Int):List α->Int
 | [] => -1
 | x::r=>if p x=true then i else sj p (i+1) r
end Go.AM.Lf
namespace Go.AM.T
theorem zh{α β:Type}(a:β)(t:T α):(zA (a=a) t).run=t.run:=zb rfl t
end Go.AM.T
namespace Go.AM.Lf
open PL
abbrev zbl:Ty:=.cons .str (.cons vn .nil)
abbrev ItT:=den zbl
theorem dq{α:Type}{l:List α}{k:Nat}(h:k<l.length)(d:α):nth l (k:Int) d=l[k]:=by simp[nth,h]
theorem Qx(s:zf):(bytesOf s).length=s.length:=by unfold bytesOf; simp
theorem GY(s t:zf):bytesOf (s++t)=bytesOf s++bytesOf t:=by unfold bytesOf; simp
theorem Hq(s:zf):qD (bytesOf s)=s:=by
 unfold qD bytesOf
 rw[List.map_map]
 conv=>rhs; rw[<- List.map_id s]
 refine List.map_congr_left λb _ => ?_
 simp[byteOf]
theorem U5(s:zf):∀ n∈bytesOf s,(0:Int)<=n/\n<256:=by
 intro n hn
 unfold bytesOf at hn
 obtain⟨b,_,rfl⟩:=List.mem_map.1 hn
 have:=b.toNat_lt
 omega
theorem vG(s b:zf)(h:b.length+s.length<=140737488355328):(zY s () (bytesOf b)).run=some ((s.length:Int),(),bytesOf (b++s)):=by
 unfold zY eZ
 simp only[T.bind]
 rw[zH _ rfl rfl rfl,zb rfl,lF _ rfl rfl rfl (by simp only[Qx]; omega),zH _ (by simp) rfl (by simp),zb (by simp),z7,GY]
theorem Uc(b:zf)(h:b.length<=140737488355328):(iw () (bytesOf b)).run=some (b,()):=by
 unfold iw z15
 rw[zb ⟨U5 b,by rw[Qx]; exact h⟩,z7,Hq]
def z7R(x:ItT):zf:=x.1++[32]++cZ (norm x.2.1)++[10]
def QI(b:UInt8):Bool:=decide (97<=(b.toNat:Int))&&decide ((b.toNat:Int)<=122)
def vY(b:UInt8):Bool:=QI b||((decide (48<=(b.toNat:Int))&&decide ((b.toNat:Int)<=57))||((b.toNat:Int)==95))
def zT(s:zf):Bool:=match s with | []=>false | b::_=>decide (s.length<=24)&&(QI b&&s.all vY)
theorem nu(b:UInt8):(wP (b.toNat:Int)).run=some (vY b):=by
 have h1:(wi (b.toNat:Int)).run=some (QI b):=rfl
 have h2:(xD (b.toNat:Int)).run=some (decide (48<=(b.toNat:Int))&&decide ((b.toNat:Int)<=57)):=rfl
 unfold wP vY
 rw[z6 h1]
 cases QI b with
 | true=>rw[zi,z7]; rfl
 | false =>
  rw[zg,z6 h2]
  cases(decide (48<=(b.toNat:Int))&&decide ((b.toNat:Int)<=57))with
  | true=>rw[zi,z7]; rfl
  | false=>rw[zg,z7]; rfl
theorem xB(s:zf):(xg s).run=some (zT s):=by
 unfold xg
 cases s with
 | nil=>rfl
 | cons b r =>
  have e0:zr (b::r) []=false:=by rw[vD]; simp
  rw[e0]
  by_cases c:24<(b::r).length
  ·have:(T.ite false (.ret true) (.ite (decide ((24:Int)<((b::r).length:Int))) (.ret true) (.zA (qu (0:Int) (List.length (b::r)))<|T.bind (wi (qm (b::r) (0:Int))) λr=>.ret (!r))):T Bool).run=some true:=by
    rw[zg,za (decide_eq_true (by omega)),z7]
   rw[z6 this,zi,z7]
   unfold zT
   rw[decide_eq_false (by omega)]; rfl
  ·have hb:qm (b::r) (0:Int)=(b.toNat:Int):=kV (s:=b::r) (k:=0) (by simp)
   have h1:(wi (b.toNat:Int)).run=some (QI b):=rfl
   have:(T.ite false (.ret true) (.ite (decide ((24:Int)<((b::r).length:Int))) (.ret true) (.zA (qu (0:Int) (List.length (b::r)))<|T.bind (wi (qm (b::r) (0:Int))) λr=>.ret (!r))):T Bool).run=some (!QI b):=by
    rw[zg,z8 (decide_eq_false (by omega)),zb (by refine⟨by omega,?_⟩; simp only[List.length_cons]; omega),hb,z6 h1,z7]
   rw[z6 this]
   unfold zT
   dsimp only
   rw[decide_eq_true (by omega),Bool.true_and]
   cases QI b with
   | false=>rw[za (by rfl),z7]; rfl
   | true =>
    rw[z8 (by rfl),Bool.true_and]
    have key:(tC (b::r) ((b::r).length:Int) 0).run=some (if(b::r).all vY=true then .inl ()else .inr false):=by
     refine T.nW (r:=jN (b::r) ((b::r).length:Int)) (b::r) (0:UInt8) (λ(_:Unit) i=>i) (λ_ _=>True) (λl _=>(if l.all vY=true then .inl ()else .inr false:Unit⊕Bool)) (λk _ x xs hk hx hm hd hI => ?_) (λ_ _ => ?_) (b:=()) trivial
     ·have hxk:(b::r)[k]=x:=by rw[<- hx]; unfold nth; rw[Int.toNat_natCast,List.getD_eq_getElem?_getD,List.getElem?_eq_getElem hk]; rfl
      have Bs:qm (b::r) (k:Int)=(x.toNat:Int):=by rw[kV hk,hxk]
      cases QF:vY x with
      | true =>
       left
       refine⟨(),?_,trivial,?_⟩
       ·unfold jN
        rw[za (kl hk),zb (qp hk),Bs,z6 (nu x),QF,z8 (by rfl),z7,oy k _ hk (by omega)]
       ·rw[List.all_cons,QF,Bool.true_and]
      | false =>
       right
       unfold jN
       rw[za (kl hk),zb (qp hk),Bs,z6 (nu x),QF,za (by rfl),z7,List.all_cons,QF]
       rfl
     ·unfold jN
      rw[z8 (gS _),z7]; rfl
    rw[z6 key]
    cases h:(b::r).all vY with
    | true=>rfl
    | false=>rfl
theorem pZ(l:List zf)(v:zf)(hl:l.length<=1000000000):(qM l v).run=some (PL.sj (λs=>zr v s) 0 l):=by
 have key:(jT l v (l.length:Int) 0).run=some (if PL.sj (λs=>zr v s) 0 l = -1 then .inl ()else .inr (PL.sj (λs=>zr v s) 0 l)):=by
  refine PL.tX (r:=qJ l v (l.length:Int)) l (zj .str) _ (λi h0 h hp => ?_) (λi h0 h hp => ?_) (λi h => ?_)
  ·unfold qJ
   rw[za (decide_eq_true h),zb ⟨h0,h⟩,za hp,z7]
  ·unfold qJ
   rw[za (decide_eq_true h),zb ⟨h0,h⟩,z8 hp,z7,zu (by omega) (by omega)]
  ·unfold qJ
   rw[z8 (decide_eq_false h),z7]
 unfold qM
 rw[z6 key]
 split<;>rename_i h
 ·rw[h]; rfl
 ·rfl
theorem fM{α:Type}(f:α->Nat)(l:List α):∀ x∈l,f x<=bX f l:=by
 induction l with
 | nil=>intro x hx; cases hx
 | cons y l ih =>
  intro x hx
  show _<=f y+bX f l
  rcases List.mem_cons.1 hx with rfl | hx
  ·omega
  ·have:=ih x hx; omega
theorem fg{α:Type}(f:α->Nat)(l:List α)(h:∀ x,1<=f x):l.length<=bX f l:=by
 induction l with
 | nil=>simp
 | cons y l ih =>
  show _<=f y+bX f l
  have:=h y
  simp; omega
mutual
/-- What an expression weighs. -/
def szE:Expr->Nat
 | .mk _ n s l=>3+s.length+8*n.2.1.length+8*n.2.2.1.length+szEs l
def szEs:List Expr->Nat
 | []=>0
 | e::r=>szE e+szEs r
end
mutual
theorem XN:∀ (e:Expr) (left:Int),0<=wtE e left->wtE e left=left-szE e
 | .mk _ n s l,left,h=>by
  have:=FA l (left-3-s.length-8*n.2.1.length-8*n.2.2.1.length)
  simp only[wtE,szE]at h ⊢
  rw[this h]; omega
theorem FA:∀ (l:List Expr) (left:Int),0<=wtEs l left->wtEs l left=left-szEs l
 | [],left,h=>by simp[wtEs,szEs]
 | e::r,left,h=>by
  have h1:=XN e left
  have h2:=FA r (wtE e left)
  have h3:=(Yy r (wtE e left)).1
  by_cases c:0<=left
  ·simp only[wtEs,szEs,if_pos c]at h ⊢
   rw[h2 h,h1 (by omega)]; omega
  ·simp only[wtEs,if_neg c]at h; omega
end
structure FB(f:Form):Prop where
 l1:f.1.length<=1048576
 l2:f.2.1.length<=1048576
 l3:f.2.2.1.length<=1048576
 l4:f.2.2.2.1.length<=1048576
 l5:f.2.2.2.2.1.length<=1048576
 l6:f.2.2.2.2.2.1.length<=1048576
 s:∀ x∈f.1,x.1.length<=1048576
 p:∀ x∈f.2.1,x.1.length<=1048576/\x.2.1.2.1.length<=1048576/\x.2.1.2.2.1.length<=1048576/\zk x.2.1.2.1/\zk x.2.1.2.2.1
 g:∀ x∈f.2.2.1,x.1.length<=1048576/\x.2.1.length<=1048576
 d:∀ x∈f.2.2.2.1,x.1.length<=1048576
 r:∀ x∈f.2.2.2.2.1,x.1.length<=1048576/\x.2.2.1.length<=1048576/\bkE x.2.2.2.1<=1048576/\bkE x.2.2.2.2.1<=1048576
 c:∀ x∈f.2.2.2.2.2.1,x.1.length<=1048576/\bkE x.2.2.2.1<=1048576/\bkE x.2.2.2.2.1<=1048576
theorem z2f{f:Form}(hw:wf qg f)(hb:bk qg f<=1048576):FB f:=by
 have e1:bk qg f=(bX (bk zJ) f.1+1)+((bX (bk zP) f.2.1+1)+((bX (bk zV) f.2.2.1+1)+((bX (bk zL) f.2.2.2.1+1)+((bX (bk qf) f.2.2.2.2.1+1)+((bX (bk zX) f.2.2.2.2.2.1+1)+1))))):=rfl
 have b1:∀ x,bk zJ x=(x.1.length+1)+(1+1):=λ_=>rfl
 have b2:∀ x,bk zP x=(x.1.length+1)+((1+((bX (bk u32) x.2.1.2.1+1)+((bX (bk u32) x.2.1.2.2.1+1)+1)))+1):=λ_=>rfl
 have b3:∀ x,bk zV x=(x.1.length+1)+((x.2.1.length+1)+1):=λ_=>rfl
 have b4:∀ x,bk zL x=(x.1.length+1)+(1+(1+(1+1))):=λ_=>rfl
 have b5:∀ x,bk qf x=(x.1.length+1)+(1+((x.2.2.1.length+1)+(bkE x.2.2.2.1+(bkE x.2.2.2.2.1+1)))):=λ_=>rfl
 have b6:∀ x,bk zX x=(x.1.length+1)+(1+(1+(bkE x.2.2.2.1+(bkE x.2.2.2.2.1+1)))):=λ_=>rfl
 have u1:∀ l:List Int,bX (bk u32) l=l.length:=λl=>Ge l
 have k1:=fg (bk zJ) f.1 (λx=>by rw[b1]; omega)
 have k2:=fg (bk zP) f.2.1 (λx=>by rw[b2]; omega)
 have k3:=fg (bk zV) f.2.2.1 (λx=>by rw[b3]; omega)
 have k4:=fg (bk zL) f.2.2.2.1 (λx=>by rw[b4]; omega)
 have k5:=fg (bk qf) f.2.2.2.2.1 (λx=>by rw[b5]; omega)
 have k6:=fg (bk zX) f.2.2.2.2.2.1 (λx=>by rw[b6]; omega)
 rw[e1]at hb
 refine⟨by omega,by omega,by omega,by omega,by omega,by omega,λx hx => ?_,λx hx => ?_,λx hx => ?_,λx hx => ?_,λx hx => ?_,λx hx => ?_⟩
 ·have:=fM (bk zJ) f.1 x hx; rw[b1]at this; omega
 ·have:=fM (bk zP) f.2.1 x hx
  rw[b2,u1,u1]at this
  have Tq:wf zP x:=hw.2.1 x hx
  obtain⟨r1,r2⟩:=P9 Tq.2.1
  exact⟨by omega,by omega,by omega,r1,r2⟩
 ·have:=fM (bk zV) f.2.2.1 x hx; rw[b3]at this; exact⟨by omega,by omega⟩
 ·have:=fM (bk zL) f.2.2.2.1 x hx; rw[b4]at this; omega
 ·have:=fM (bk qf) f.2.2.2.2.1 x hx; rw[b5]at this; exact⟨by omega,by omega,by omega,by omega⟩
 ·have:=fM (bk zX) f.2.2.2.2.2.1 x hx; rw[b6]at this; exact⟨by omega,by omega,by omega⟩
def trimB(l:List Int):Bool:=zt (nv l)==l
def eV(a:Rat):Bool:=trimB a.2.1&&(trimB a.2.2.1&&(!(nv a.2.2.1==0)&&(!(a.1&&(nv a.2.1==0))&&(Nat.gcd (nv a.2.1) (nv a.2.2.1)==1))))
theorem uM{l:List Int}(h:zk l):trimB l=true↔Q4 l:=by
 unfold trimB
 constructor
 ·intro e
  have e:zt (nv l)=l:=by simpa using e
  rw[<- e]; exact oh _
 ·intro ht
  rw[rm h ht]; simp
theorem Vi(l:List Int)(h:zk l)(hl:l.length<=1000000000):(dx l).run=some (trimB l):=by
 unfold dx
 cases l with
 | nil =>
  rw[zb (λh=>by simp at h),z7]
  have e:trimB []=true:=by unfold trimB; rw[show nv []=0 from rfl,ql]; rfl
  rw[e]; rfl
 | cons x r =>
  obtain⟨n,hn⟩:∃ n,(x::r).length=n+1:=⟨r.length,rfl⟩
  have ew:zF (((x::r).length:Int)-1)=(n:Int):=by rw[hn,zu (by omega) (by omega)]; omega
  have Dt:n<(x::r).length:=by omega
  have e0:(((x::r).length:Int)==0)=false:=by rw[hn]; simp; omega
  have hg:(x::r).getLast? = some ((x::r)[n]):=by
   rw[List.getLast?_eq_getElem?,hn,Nat.add_sub_cancel,List.getElem?_eq_getElem Dt]
  rw[zb (λ_=>by rw[ew]; exact qp Dt),z7,ew,dq Dt,e0,Bool.false_or]
  congr 1
  cases hq:((x::r)[n] != 0)with
  | true =>
   symm
   rw[uM h]
   intro y hy
   rw[hg]at hy
   cases hy
   simpa using hq
  | false =>
   symm
   rw[Bool.eq_false_iff]
   intro ht
   have:=(uM h).1 ht _ hg
   simp at hq
   exact this hq
theorem rR(a:Rat)(h:wG 100000000 a):(rE a).run=some (eV a):=by
 obtain⟨h1,h2,h3,h4⟩:=h
 unfold rE eV
 have n1:=Vi a.2.1 h1 (by omega)
 have n2:=Vi a.2.2.1 h2 (by omega)
 have hzD:trimB a.2.2.1=true->(((a.2.2.1.length:Int))==0)=(nv a.2.2.1==0):=λht=>by
  have e:zt (nv a.2.2.1)=a.2.2.1:=rm h2 ((uM h2).1 ht)
  conv=>lhs; rw[<- e]
  rw[fJ]
  cases q:decide (nv a.2.2.1=0)<;>simp_all
 have hzN:trimB a.2.1=true->(((a.2.1.length:Int))==0)=(nv a.2.1==0):=λht=>by
  have e:zt (nv a.2.1)=a.2.1:=rm h1 ((uM h1).1 ht)
  conv=>lhs; rw[<- e]
  rw[fJ]
  cases q:decide (nv a.2.1=0)<;>simp_all
 have hg:=Q9 a.2.1 a.2.2.1 h1 h2 (by omega) (by omega)
 have QS:(y3 1).run=some (zt 1):=kW 1 (by omega)
 have hc:∀ g:Nat,(zt g).length<=100000001->(iS (zt g) (zt 1)).run=some (pj g 1):=λg hl=>by
  have:=nH (zt g) (zt 1) (zl _) (zl _) (by omega) (by rw[eB]; simp)
  rwa [zO,zO]at this
 have head:∀ b:Bool,((T.bind (dx a.2.1) λr=>.ite (!r) (.ret true) (T.bind (dx a.2.2.1) λr1=>.ite (!r1) (.ret true) (.ite ((a.2.2.1.length:Int)==(0:Int)) (.ret true) (.ite a.1 (.ret ((a.2.1.length:Int)==(0:Int))) (.ret false))))):T Bool).run =
   some (!(trimB a.2.1&&(trimB a.2.2.1&&(!(nv a.2.2.1==0) && !(a.1&&(nv a.2.1==0)))))):=λ_=>by
  rw[z6 n1]
  cases t1:trimB a.2.1 with
  | false=>rfl
  | true =>
   rw[z8 (by rfl),z6 n2]
   cases t2:trimB a.2.2.1 with
   | false=>rfl
   | true =>
    rw[z8 (by rfl),hzD t2]
    cases nv a.2.2.1==0 with
    | true=>rfl
    | false =>
     rw[zg,hzN t1]
     cases a.1 with
     | true=>rw[zi,z7]; cases nv a.2.1==0<;>rfl
     | false=>rfl
 rw[z6 (head true)]
 cases hb:(trimB a.2.1&&(trimB a.2.2.1&&(!(nv a.2.2.1==0) && !(a.1&&(nv a.2.1==0)))))with
 | false =>
  rw[za (by rfl),z7]
  congr 1
  generalize (Nat.gcd (nv a.2.1) (nv a.2.2.1)==1)=g
  revert hb
  cases trimB a.2.1<;>cases trimB a.2.2.1<;>cases(nv a.2.2.1==0)<;>cases a.1<;>cases(nv a.2.1==0)<;>simp
 | true =>
  rw[z8 (by rfl),z6 hg,z6 QS]
  have hle:(zt (Nat.gcd (nv a.2.1) (nv a.2.2.1))).length<=100000001:=by
   simp only[Bool.and_eq_true,Bool.not_eq_true',beq_eq_false_iff_ne]at hb
   have hd:0<nv a.2.2.1:=Nat.pos_of_ne_zero hb.2.2.1
   have m1:=Vo (Nat.gcd_le_right (nv a.2.1) hd)
   have m2:=zC h2
   omega
  rw[z6 (hc _ hle),z7]
  congr 1
  have hgc:(pj (Nat.gcd (nv a.2.1) (nv a.2.2.1)) 1==0)=(Nat.gcd (nv a.2.1) (nv a.2.2.1)==1):=by
   generalize Nat.gcd (nv a.2.1) (nv a.2.2.1)=g
   unfold pj
   by_cases q1:g<1
   ·rw[if_pos q1]; simp; omega
   ·by_cases q2:1<g
    ·rw[if_neg q1,if_pos q2]; simp; omega
    ·have:g=1:=by omega
     subst this; rfl
  rw[hgc]
  revert hb
  generalize (Nat.gcd (nv a.2.1) (nv a.2.2.1)==1)=g
  cases trimB a.2.1<;>cases trimB a.2.2.1<;>cases(nv a.2.2.1==0)<;>cases a.1<;>cases(nv a.2.1==0)<;>simp
def jo(a:Rat):Bool:=decide (16<(norm a).2.1.length)||decide (16<(norm a).2.2.1.length)
theorem pA(a:Rat)(h:wG 100000000 a):(cw a).run=some (jo a):=by
 unfold cw jo
 rw[z6 (Vp a h),z7]
 congr 2
 ·exact decide_eq_decide.2 (by omega)
 ·exact decide_eq_decide.2 (by omega)
def jf(a:Rat):Bool:=eV a&&(!a.1&&(!jo a&&(qF (norm a).1 (nv (norm a).2.1) (nv (norm a).2.2.1) 0 61).2))
def xK(a:Rat):Bool := !a.1&&(a.2.1.isEmpty&&(a.2.2.1.isEmpty||eV a))
def nP(k:Int):Int:=if k=1\/k=2 then 0 else if k=7 then 1 else if k=3\/k=4\/k=5\/k=6 then 2 else -1
def uF(e:Expr):Bool:=((e.kids.length:Int)==nP e.kind)&&(if e.kind=1 then jf e.num&&zr e.name []else if e.kind=2 then xK e.num&&zT e.name else xK e.num&&zr e.name [])
mutual
def wA:Expr->Nat
 | .mk _ _ _ l=>1+wR l
def wR:List Expr->Nat
 | []=>0
 | e::r=>wA e+wR r
end
mutual
def wK(deep:Nat):Expr->Bool
 | .mk k n s l=>decide (deep<32)&&(uF (.mk k n s l)&&uv (deep+1) l)
def uv(deep:Nat):List Expr->Bool
 | []=>true
 | e::r=>wK deep e&&uv deep r
end
theorem sJ:∀ (l:List Expr),l.length<=wR l
 | []=>Nat.le_refl _
 | .mk _ _ _ k::r=>by
  have:=sJ r
  unfold wR wA
  simp only[List.length_cons]; omega
theorem so{e:Expr}:∀ {l:List Expr},e∈l->wA e<=wR l
 | [],h=>by cases h
 | x::r,h=>by
  unfold wR
  rcases List.mem_cons.1 h with rfl | h
  ·omega
  ·have:=so h; omega
mutual
/-- How many nodes are looked at. -/
def U7(deep:Nat):Expr->Nat
 | .mk k n s l=>1+if(decide (deep<32)&&uF (.mk k n s l))=true then ft (deep+1) l else 0
def ft(deep:Nat):List Expr->Nat
 | []=>0
 | e::r=>U7 deep e+if wK deep e=true then ft deep r else 0
end
mutual
theorem DL:∀ (e:Expr) (deep:Nat),U7 deep e<=wA e
 | .mk k n s l,deep=>by
  have:=Vk l (deep+1)
  unfold U7 wA
  split<;>omega
theorem Vk:∀ (l:List Expr) (deep:Nat),ft deep l<=wR l
 | [],_=>Nat.le_refl _
 | e::r,deep=>by
  have h1:=DL e deep
  have h2:=Vk r deep
  unfold ft wR
  split<;>omega
end
mutual
theorem Rx:∀ (e:Expr),3*wA e<=szE e
 | .mk k n s l=>by
  have:=Fe l
  unfold wA szE
  omega
theorem Fe:∀ (l:List Expr),3*wR l<=szEs l
 | []=>Nat.le_refl _
 | e::r=>by
  have h1:=Rx e
  have h2:=Fe r
  unfold wR szEs
  omega
end
def ye(a:Rat):Prop:=wG 100 a
mutual
def allOk:Expr->Prop
 | .mk _ n _ l=>ye n/\allOks l
def allOks:List Expr->Prop
 | []=>True
 | e::r=>allOk e/\allOks r
end
theorem sb{l:List Expr}(h:allOks l):∀ e∈l,allOk e:=by
 induction l with
 | nil=>intro e he; cases he
 | cons x r ih =>
  intro e he
  rcases List.mem_cons.1 he with rfl | he
  ·exact h.1
  ·exact ih h.2 e he
mutual
theorem nt:∀ (e:Expr),wfE e->szE e<=800->allOk e
 | .mk k n s l,hw,hs=>by
  unfold szE at hs
  have hw':wf tS (Expr.mk k n s l).Iz:=(Ek _).2 hw
  obtain⟨_,hn,_,hl,_⟩:=hw'
  obtain⟨r1,r2⟩:=P9 hn
  have r1:zk n.2.1:=r1
  have r2:zk n.2.2.1:=r2
  refine⟨⟨r1,r2,by omega,by omega⟩,UF l (λe he=>hl e he) (by omega)⟩
theorem UF:∀ (l:List Expr),(∀ e∈l,wfE e)->szEs l<=800->allOks l
 | [],_,_=>trivial
 | e::r,hw,hs=>by
  unfold szEs at hs
  exact⟨nt e (hw e List.mem_cons_self) (by omega),UF r (λx hx=>hw x (List.mem_cons_of_mem _ hx)) (by omega)⟩
end
theorem CD(a:Rat)(h:ye a):(bq a).run=some (xK a):=by
 unfold bq xK
 have hr:=rR a (fK h (by omega))
 have e:∀ l:List Int,(((l.length:Int))==0)=l.isEmpty:=λl=>by cases l<;>simp; omega
 rw[e,e]
 cases a.1 with
 | true=>rfl
 | false =>
  rw[za (by rfl)]
  cases a.2.1.isEmpty with
  | false=>rfl
  | true =>
   rw[zi]
   cases a.2.2.1.isEmpty with
   | true=>rfl
   | false=>rw[zg,z6 hr,z7]; rfl
theorem IX(a:Rat)(h:ye a):(iH a).run=some (jf a):=by
 unfold iH jf
 have hr:=rR a (fK h (by omega))
 have hl:=pA a (fK h (by omega))
 have he:=pI a (fK h (by omega))
 have head:((T.bind (rE a) λr=>.ite (!r) (.ret true) (.ite a.1 (.ret true) (T.bind (cw a) λr1=>.ret r1))):T Bool).run=some (!(eV a&&(!a.1 && !jo a))):=by
  rw[z6 hr]
  cases eV a with
  | false=>rfl
  | true =>
   rw[z8 (by rfl)]
   cases a.1 with
   | true=>rfl
   | false=>rw[zg,z6 hl,z7]; simp
 rw[z6 head]
 cases q:(eV a&&(!a.1 && !jo a))with
 | false =>
  rw[za (by rfl),z7]
  congr 1
  revert q
  cases eV a<;>cases a.1<;>cases jo a<;>simp
 | true =>
  rw[z8 (by rfl),z6 he]
  generalize qF (norm a).1 (nv (norm a).2.1) (nv (norm a).2.2.1) 0 61=x
  obtain⟨x1,x2⟩:=x
  dsimp only
  rw[z7]
  congr 1
  revert q
  cases eV a<;>cases a.1<;>cases jo a<;>simp
theorem MQ(k:Int):(oa k).run=some (nP k):=by
 unfold oa nP
 by_cases h1:k=1
 ·subst h1; rfl
 by_cases h2:k=2
 ·subst h2; rfl
 by_cases h7:k=7
 ·subst h7; rfl
 by_cases h3:k=3
 ·subst h3; rfl
 by_cases h4:k=4
 ·subst h4; rfl
 by_cases h5:k=5
 ·subst h5; rfl
 by_cases h6:k=6
 ·subst h6; rfl
 ·simp[h1,h2,h3,h4,h5,h6,h7]
theorem WM(e:Expr)(h:ye e.num):(yr e).run=some (uF e):=by
 unfold yr uF
 rw[z6 (MQ _)]
 have hN:=IX e.num h
 have h0:=CD e.num h
 have hn:=xB e.name
 cases q:((e.kids.length:Int)==nP e.kind)with
 | false=>rw[za (by rw[bne,q]; rfl),z7]; rfl
 | true =>
  rw[z8 (by rw[bne,q]; rfl),Bool.true_and]
  by_cases h1:e.kind=1
  ·rw[if_pos h1,za (by rw[h1]; rfl),z6 hN]
   cases jf e.num with
   | true=>rw[zi,z7]; rfl
   | false=>rw[zg,z7]; rfl
  ·rw[if_neg h1,z8 (by simpa using h1)]
   by_cases h2:e.kind=2
   ·rw[if_pos h2,za (by rw[h2]; rfl),z6 h0]
    cases xK e.num with
    | true=>rw[zi,z6 hn,z7]; rfl
    | false=>rw[zg,z7]; rfl
   ·rw[if_neg h2,z8 (by simpa using h2),z6 h0]
    cases xK e.num with
    | true=>rw[zi,z7]; rfl
    | false=>rw[zg,z7]; rfl
theorem Sg(e:Expr)(deep left:Nat)(h:allOk e)(hl:wA e<=left)(dJ:left<=100000)(hd:deep<=32):(jn e (deep:Int) (left:Int)).run=some (wK deep e,((left-U7 deep e:Nat):Int)):=by
 unfold jn
 refine iY (λx:Expr×Int×Int=>allOk x.1/\0<=x.2.1/\x.2.1<=32/\(wA x.1:Int)<=x.2.2/\x.2.2<=100000) (λx=>wA x.1) (λx=>(wK x.2.1.toNat x.1,((x.2.2.toNat-U7 x.2.1.toNat x.1:Nat):Int))) (λx hx g hg => ?_) (x:=(e,(deep:Int),(left:Int))) ⟨h,by dsimp only; omega,by dsimp only; omega,by dsimp only; omega,by dsimp only; omega⟩
 obtain⟨e,d,lf⟩:=x
 obtain⟨ha,II,BJ,hn,hlf⟩:=hx
 dsimp only at ha II BJ hn hlf
 obtain⟨D,rfl⟩:∃ D:Nat,d=(D:Int):=⟨d.toNat,by omega⟩
 obtain⟨L,rfl⟩:∃ L:Nat,lf=(L:Int):=⟨lf.toNat,by omega⟩
 cases e with | mk k n s kids =>
 obtain⟨X3,Gs⟩:=ha
 have Dy:wA (.mk k n s kids)=1+wR kids:=by unfold wA; rfl
 rw[Dy]at hn
 have hv:=Vk kids (D+1)
 have ew:zF ((L:Int)-1)=((L-1:Nat):Int):=by rw[zu (by omega) (by omega)]; omega
 have NH:=WM (.mk k n s kids) X3
 simp only[Int.toNat_natCast]
 unfold gx
 rw[ew]
 have head:((.ite (decide (((L-1:Nat):Int)<(0:Int))) (.ret (true,((L-1:Nat):Int))) (.ite (decide ((32:Int)<=(D:Int))) (.ret (true,((L-1:Nat):Int))) (T.bind (yr (.mk k n s kids)) λr=>.ret ((!r),((L-1:Nat):Int))))):T (Bool×Int)).run =
   some (!(decide (D<32)&&uF (.mk k n s kids)),((L-1:Nat):Int)):=by
  rw[z8 (decide_eq_false (by omega))]
  by_cases c:D<32
  ·rw[z8 (decide_eq_false (by omega)),z6 NH,z7,decide_eq_true c,Bool.true_and]
  ·rw[za (decide_eq_true (by omega)),z7,decide_eq_false c]; rfl
 rw[z6 head]
 dsimp only
 unfold wK U7
 cases q:(decide (D<32)&&uF (.mk k n s kids))with
 | false =>
  rw[za (by rfl),z7,if_neg (by simp),<- Bool.and_assoc,q,Bool.false_and]
 | true =>
  rw[z8 (by rfl),if_pos rfl,<- Bool.and_assoc,q,Bool.true_and]
  have hD:D<32:=by
   simp only[Bool.and_eq_true,decide_eq_true_eq]at q
   exact q.1
  have ed:zF ((D:Int)+1)=((D+1:Nat):Int):=by rw[zu (by omega) (by omega)]; omega
  have loop:∃ z,(zN (λy0 y1 y2=>g (y0,y1,y2)) kids (kids.length:Int) (((D:Int),()),((0:Int),((L-1:Nat):Int)))).run=some z /\
    ((uv (D+1) kids=true/\z=.inl ((L-1-ft (D+1) kids:Nat):Int))\/(uv (D+1) kids=false/\∃ i:Int,0<=i/\z=.inr (i,((L-1-ft (D+1) kids:Nat):Int)))):=by
   refine T.qE (r:=zx (λy0 y1 y2=>g (y0,y1,y2)) kids (kids.length:Int)) (λst:(Int×Unit)×Int×Int=>∃ (j B:Nat),st=(((D:Int),()),(j:Int),(B:Int))/\j<=kids.length/\B<=100000/\wR (kids.drop j)<=B /\
    B-ft (D+1) (kids.drop j)=L-1-ft (D+1) kids/\uv (D+1) (kids.drop j)=uv (D+1) kids) (λst=>kids.length-st.2.1.toNat) _ (λst xE => ?_) ⟨0,L-1,rfl,by omega,by omega,by rw[List.drop_zero]; omega,by rw[List.drop_zero],by rw[List.drop_zero]⟩
   obtain⟨j,B,rfl,hj,hB,hnB,hvB,K5⟩:=xE
   by_cases c:j<kids.length
   ·have hdr:kids.drop j=kids[j]::kids.drop (j+1):=List.drop_eq_getElem_cons c
    rw[hdr]at hnB hvB K5
    rw[show wR (kids[j]::kids.drop (j+1))=wA kids[j]+wR (kids.drop (j+1))from rfl]at hnB
    rw[show ft (D+1) (kids[j]::kids.drop (j+1))=U7 (D+1) kids[j]+if wK (D+1) kids[j]=true then ft (D+1) (kids.drop (j+1))else 0 from rfl]at hvB
    rw[show uv (D+1) (kids[j]::kids.drop (j+1))=(wK (D+1) kids[j]&&uv (D+1) (kids.drop (j+1)))from rfl]at K5
    have sU:=sb Gs _ (List.getElem_mem c)
    have Is:=DL kids[j] (D+1)
    have CI:wA kids[j]<1+wR kids:=by have:=so (List.getElem_mem c); omega
    have QY:=hg (kids[j],((D+1:Nat):Int),(B:Int)) ⟨sU,by dsimp only; omega,by dsimp only; omega,by dsimp only; omega,by dsimp only; omega⟩ (by dsimp only; rw[Dy]; exact CI)
    dsimp only at QY
    simp only[Int.toNat_natCast]at QY
    have hf:(uI (λy0 y1 y2=>g (y0,y1,y2)) kids[j] (D:Int) (B:Int)).run=some (!wK (D+1) kids[j],((B-U7 (D+1) kids[j]:Nat):Int)):=by
     unfold uI
     rw[ed,z6 QY]; rfl
    unfold zx
    dsimp only
    rw[za (kl c),zb (qp c),dq c,z6 hf]
    dsimp only
    cases hk:wK (D+1) kids[j]with
    | true =>
     left
     rw[hk,if_pos rfl]at hvB
     rw[hk,Bool.true_and]at K5
     rw[z8 (by rfl),z7]
     have hlen:=sJ kids
     rw[oy j _ c (by omega)]
     refine⟨_,rfl,⟨j+1,B-U7 (D+1) kids[j],rfl,c,by omega,by omega,by omega,K5⟩,?_⟩
     simp only[Int.toNat_natCast]
     omega
    | false =>
     right
     rw[hk,if_neg (by simp),Nat.add_zero]at hvB
     rw[hk,Bool.false_and]at K5
     rw[za (by rfl),z7]
     exact⟨_,rfl,.inr ⟨K5.symm,(j:Int),by omega,by rw[hvB]⟩⟩
   ·right
    have hj2:j=kids.length:=by omega
    subst hj2
    rw[List.drop_length]at hvB K5
    unfold zx
    dsimp only
    rw[z8 (gS _),z7]
    exact⟨_,rfl,.inl ⟨K5.symm,by rw[<- hvB]; rfl⟩⟩
  obtain⟨z,hz,hc⟩:=loop
  have hcf:(zW (λy0 y1 y2=>g (y0,y1,y2)) kids ((D:Int),()) ((L-1:Nat):Int)).run=some (!uv (D+1) kids,((L-1-ft (D+1) kids:Nat):Int)):=by
   unfold zW qx
   rcases hc with⟨ho,rfl⟩ | ⟨ho,i,hi,rfl⟩
   ·have:((T.bind (zN (λy0 y1 y2=>g (y0,y1,y2)) kids (kids.length:Int) (((D:Int),()),((0:Int),((L-1:Nat):Int))))<|Sum.elim (λv2=>.ret ((-1:Int),v2)) (λ(x2,v3)=>.ret (x2,v3))):T (Int×Int)).run=some (-1,((L-1-ft (D+1) kids:Nat):Int)):=by
     rw[z6 hz]; rfl
    rw[z6 this,ho]; rfl
   ·have:((T.bind (zN (λy0 y1 y2=>g (y0,y1,y2)) kids (kids.length:Int) (((D:Int),()),((0:Int),((L-1:Nat):Int))))<|Sum.elim (λv2=>.ret ((-1:Int),v2)) (λ(x2,v3)=>.ret (x2,v3))):T (Int×Int)).run=some (i,((L-1-ft (D+1) kids:Nat):Int)):=by
     rw[z6 hz]; rfl
    rw[z6 this,ho,z7,decide_eq_true hi]; rfl
  rw[show Expr.kids (.mk k n s kids)=kids from rfl,z6 hcf]
  dsimp only
  rw[z7,Bool.not_not]
  congr 3
  omega
theorem z2W(e:Expr)(h:allOk e)(hn:wA e<=256):(vZ e).run=some (wK 0 e):=by
 unfold vZ
 have:=Sg e 0 256 h hn (by omega) (by omega)
 have this:(jn e 0 256).run=some (wK 0 e,((256-U7 0 e:Nat):Int)):=this
 rw[z6 this]; rfl
def dd(acc:List zf)(xs:List zf):List zf:=xs.foldl (λb x=>if x∈b then b else b++[x]) acc
end Go.AM.Lf
namespace Go.AM.PL
def Zz:zf->List zf×zf
 | []=>([],[])
 | b::r=>if b=10 then([]::(Zz r).1,(Zz r).2)else match(Zz r).1 with
  | []=>([],b::(Zz r).2)
  | l::ls=>((b::l)::ls,(Zz r).2)
end Go.AM.PL
namespace Go.AM.Lf
open PL
def Mx(u:zf):Option Rat:=if 400<u.length then none else(Ux u).map λp=>uE (List.isPrefixOf [45] u) p.1 p.2
theorem z06{u:zf}{r:Rat}(h:Mx u=some r):wG 50 r:=by
 unfold Mx at h
 split at h
 ·cases h
 ·rename_i c
  obtain⟨p,hp,rfl⟩:=Option.map_eq_some_iff.1 h
  exact Q2 _ (by omega) hp
def z9f(t:zf):Option ItT:=match Mx (ua t [32]).2.1 with
 | some r=>if zT (ua t [32]).1=true then some ((ua t [32]).1,r,())else none
 | none=>none
def Pf:List zf->Option (List ItT)
 | []=>some []
 | t::r=>match z9f t with
  | some x=>(Pf r).map (x :: ·)
  | none=>none
theorem s6{s:zf}(h:zT s=true):s.length<=24/\s.all vY=true:=by
 cases s with
 | nil=>cases h
 | cons b r =>
  unfold zT at h
  simp only[Bool.and_eq_true,decide_eq_true_eq]at h
  exact⟨h.1,h.2.2⟩
theorem wV(s:zf):(vF s).run=some (zT s):=by
 have hL:∀ b:UInt8,(je (b.toNat:Int)).run=some (QI b):=λ_=>rfl
 have hD:∀ b:UInt8,(il (b.toNat:Int)).run=some (decide (48<=(b.toNat:Int))&&decide ((b.toNat:Int)<=57)):=λ_=>rfl
 unfold vF
 cases s with
 | nil=>rfl
 | cons b r =>
  by_cases c:24<(b::r).length
  ·have:(T.ite (decide (((b::r).length:Int)<(1:Int))) (.ret true) (.ite (decide ((24:Int)<((b::r).length:Int))) (.ret true) (.zA (qu (0:Int) (List.length (b::r)))<|T.bind (je (qm (b::r) (0:Int))) λr=>.ret (!r))):T Bool).run=some true:=by
    rw[z8 (decide_eq_false (by omega)),za (decide_eq_true (by omega)),z7]
   rw[z6 this,zi,z7]
   unfold zT
   rw[decide_eq_false (by omega)]; rfl
  ·have hb:qm (b::r) (0:Int)=(b.toNat:Int):=kV (s:=b::r) (k:=0) (by simp)
   have:(T.ite (decide (((b::r).length:Int)<(1:Int))) (.ret true) (.ite (decide ((24:Int)<((b::r).length:Int))) (.ret true) (.zA (qu (0:Int) (List.length (b::r)))<|T.bind (je (qm (b::r) (0:Int))) λr=>.ret (!r))):T Bool).run=some (!QI b):=by
    rw[z8 (decide_eq_false (by simp only[List.length_cons]; omega)),z8 (decide_eq_false (by omega)),zb (by refine⟨by omega,?_⟩; simp only[List.length_cons]; omega),hb,z6 (hL b),z7]
   rw[z6 this]
   unfold zT
   dsimp only
   rw[decide_eq_true (by omega),Bool.true_and]
   cases hbl:QI b with
   | false=>rw[za (by rfl),z7]; rfl
   | true =>
    rw[z8 (by rfl),Bool.true_and]
    have hbi:vY b=true:=by unfold vY; rw[hbl]; rfl
    have key:(tB (b::r) 1).run=some (if r.all vY=true then .inl ()else .inr false):=by
     have Ru:=vk (r:=jH (b::r)) (λi=>∃ k:Nat,i=((k+1:Nat):Int)/\k<=r.length) (λi=>((b::r).length:Int).toNat-i.toNat) (λi=>if(r.drop (i.toNat-1)).all vY=true then .inl ()else .inr false) (λi hi => ?_) (s:=1) ⟨0,rfl,by omega⟩
     ·exact Ru
     ·obtain⟨k,rfl,hk⟩:=hi
      have ek:((k+1:Nat):Int).toNat-1=k:=by omega
      by_cases q:k<r.length
      ·have hq:k+1<(b::r).length:=by simp only[List.length_cons]; omega
       have Bs:qm (b::r) ((k+1:Nat):Int)=(r[k].toNat:Int):=by rw[kV hq]; rfl
       have z1y:r.drop k=r[k]::r.drop (k+1):=List.drop_eq_getElem_cons q
       have QF:((.zA (qu ((k+1:Nat):Int) (List.length (b::r)))<|T.bind (je (qm (b::r) ((k+1:Nat):Int))) λr1 =>
         .ite (!r1) (.zA (qu ((k+1:Nat):Int) (List.length (b::r)))<|T.bind (il (qm (b::r) ((k+1:Nat):Int))) λr2 =>
           .ite (!r2) (.zA (qu ((k+1:Nat):Int) (List.length (b::r)))<|.ret ((qm (b::r) ((k+1:Nat):Int)) != (95:Int))) (.ret false)) (.ret false)):T Bool).run=some (!vY r[k]):=by
        rw[zb (qp hq),Bs,z6 (hL _)]
        unfold vY
        cases QI r[k]with
        | true=>rfl
        | false =>
         rw[za (by rfl),zb (qp hq),z6 (hD _)]
         cases(decide (48<=(r[k].toNat:Int))&&decide ((r[k].toNat:Int)<=57))with
         | true=>rfl
         | false=>rw[za (by rfl),zb (qp hq),z7]; rfl
       cases hik:vY r[k]with
       | true =>
        left
        refine⟨((k+1+1:Nat):Int),?_,⟨k+1,rfl,q⟩,by simp only[List.length_cons]; omega,?_⟩
        ·unfold jH
         rw[za (kl hq),z6 QF,hik,z8 (by rfl),z7,oy (k+1) _ hq (by omega)]
        ·rw[ek,z1y,List.all_cons,hik,Bool.true_and,show((k+1+1:Nat):Int).toNat-1=k+1 by omega]
       | false =>
        right
        unfold jH
        rw[za (kl hq),z6 QF,hik,za (by rfl),z7,ek,z1y,List.all_cons,hik]
        rfl
      ·right
       have bF:k=r.length:=by omega
       unfold jH
       rw[z8 (decide_eq_false (by simp only[List.length_cons]; omega)),z7,ek,bF,List.drop_length]; rfl
    rw[z6 key,List.all_cons,hbi,Bool.true_and]
    cases h:r.all vY with
    | true=>rfl
    | false=>rfl
theorem LP(s:zf)(c:UInt8):(ua s [c]).1.length<=s.length/\(ua s [c]).2.1.length<=s.length:=by
 by_cases h:c∈s
 ·obtain⟨w,q,rfl,hw⟩:=V0 h
  rw[WC c w q hw]
  simp only[List.length_append,List.length_cons]
  exact⟨by omega,by omega⟩
 ·rw[rZ c s h]; simp
def zbz(l:List ItT):zf:=l.flatMap z7R
def WQ(s:zf):List ItT×Int:=match Pf (Zz s).1 with
 | some ys=>if zbz ys=s then(ys,0)else([],2)
 | none=>([],2)
theorem zb0(a b:Rat):((a.1==b.1)&&((a.2.1==b.2.1)&&(a.2.2.1==b.2.2.1)))=true↔a=b:=by
 obtain⟨a1,a2,a3,⟨⟩⟩:=a
 obtain⟨b1,b2,b3,⟨⟩⟩:=b
 simp only[Bool.and_eq_true,beq_iff_eq,Prod.mk.injEq,and_true]
theorem YJ(a:Rat)(h1:zk a.2.1)(h2:zk a.2.2.1):eV a=true↔norm a=a:=by
 unfold eV norm
 obtain⟨b,N,D,⟨⟩⟩:=a
 dsimp only at h1 h2 ⊢
 simp only[Bool.and_eq_true,Bool.not_eq_true',beq_eq_false_iff_ne,beq_iff_eq,Bool.and_eq_false_imp]
 constructor
 ·rintro⟨t1,t2,hd,hn,hg⟩
  have eN:zt (nv N)=N:=rm h1 ((uM h1).1 t1)
  have eD:zt (nv D)=D:=rm h2 ((uM h2).1 t2)
  unfold uE
  by_cases c:nv N=0
  ·rw[if_pos (.inl c)]
   rw[c,Nat.gcd_zero_left]at hg
   rw[c,ql]at eN
   rw[hg,eB]at eD
   cases b with
   | true=>exact absurd c (hn rfl)
   | false=>rw[<- eN,<- eD]
  ·rw[if_neg (by rintro(h | h); exact c h; exact hd h),hg,Nat.div_one,Nat.div_one,eN,eD]
 ·intro e
  unfold uE at e
  by_cases c:nv N=0\/nv D=0
  ·rw[if_pos c]at e
   simp only[Prod.mk.injEq,and_true]at e
   obtain⟨rfl,rfl,rfl⟩:=e
   refine⟨by rw[uM h1]; exact Zw,?_,by decide,by simp,by decide⟩
   rw[uM h2,<- eB]; exact oh _
  ·rw[if_neg c]at e
   simp only[Prod.mk.injEq,and_true,true_and]at e
   obtain⟨e1,e2⟩:=e
   simp only[not_or]at c
   have v1:nv N=nv N / Nat.gcd (nv N) (nv D):=by conv=>lhs; rw[<- e1,zO]
   refine⟨by rw[uM h1,<- e1]; exact oh _,by rw[uM h2,<- e2]; exact oh _,c.2,λ_=>c.1,?_⟩
   have hp:0<nv N:=Nat.pos_of_ne_zero c.1
   by_cases g:Nat.gcd (nv N) (nv D)=1
   ·exact g
   ·have hg0:0<Nat.gcd (nv N) (nv D):=Nat.gcd_pos_of_pos_left _ hp
    have:=Nat.div_lt_self hp (by omega:1<Nat.gcd (nv N) (nv D))
    omega
theorem Wo(a b:List Int)(la:a.length<=1000000000):(cI a b).run=some (a==b):=by
 unfold cI
 by_cases hlen:a.length=b.length
 ·have key:(fb a b 0).run=some (if a=b then .inl ()else .inr false):=by
   have h:=vk (r:=uP a b) (λi=>∃ k:Nat,i=(k:Int)/\k<=a.length) (λi=>a.length-i.toNat) (λi=>if a.drop i.toNat=b.drop i.toNat then .inl ()else .inr false) (λi hi => ?_) (s:=0) ⟨0,rfl,by omega⟩
   ·unfold fb; simpa using h
   ·obtain⟨k,rfl,hk⟩:=hi
    by_cases c:k<a.length
    ·have cb:k<b.length:=by omega
     have ea:a.drop k=a[k]::a.drop (k+1):=List.drop_eq_getElem_cons c
     have eb:b.drop k=b[k]::b.drop (k+1):=List.drop_eq_getElem_cons cb
     have ek:((k:Nat):Int).toNat=k:=rfl
     have z7p:(a.drop k=b.drop k)↔(a[k]=b[k]/\a.drop (k+1)=b.drop (k+1)):=by rw[ea,eb,List.cons.injEq]
     have ek1:((k+1:Nat):Int).toNat=k+1:=rfl
     by_cases q:a[k]=b[k]
     ·left
      refine⟨((k+1:Nat):Int),?_,⟨k+1,rfl,c⟩,by omega,?_⟩
      ·unfold uP
       rw[za (kl c),zb (qp c),zb (qp cb),dq c,dq cb,z8 (by simp[q]),z7,oy k _ c (by omega)]
      ·simp only[ek,ek1,z7p,q,true_and]
     ·right
      unfold uP
      rw[za (kl c),zb (qp c),zb (qp cb),dq c,dq cb,za (by simp[q]),z7,ek,if_neg (by rw[z7p]; exact λh=>q h.1)]
    ·right
     have bF:k=a.length:=by omega
     unfold uP
     rw[z8 (decide_eq_false (by omega)),z7,bF]
     simp[hlen]
  rw[z8 (by rw[hlen]; simp),z6 key]
  by_cases e:a=b
  ·rw[if_pos e,e]; simp
  ·rw[if_neg e]
   have:(a==b)=false:=by simpa using e
   rw[this]; rfl
 ·have e:(a==b)=false:=by
   rw[beq_eq_false_iff_ne]
   intro e; exact hlen (by rw[e])
  rw[za (by simp; omega),z7,e]
theorem Q5(a:Rat)(h:wG 100000000 a):(sQ a).run=some (eV a):=by
 unfold sQ
 have hb:eV a=((a.1==(norm a).1)&&((a.2.1==(norm a).2.1)&&(a.2.2.1==(norm a).2.2.1))):=by
  rw[Bool.eq_iff_iff,YJ a h.1 h.2.1,zb0]
  exact⟨λe=>e.symm,λe=>e.symm⟩
 rw[z6 (oc a h),hb]
 cases a.1==(norm a).1 with
 | false=>rfl
 | true =>
  rw[zi,z6 (Wo _ _ (by have:=h.2.2.1; omega))]
  cases a.2.1==(norm a).2.1 with
  | false=>rfl
  | true=>rw[zi,z6 (Wo _ _ (by have:=h.2.2.2; omega)),z7]; rfl
theorem Wz(a:Rat)(h:wG 100000000 a):(iT a).run=some (jo a):=by
 unfold iT jo
 rw[z6 (oc a h),z7]
 congr 2
 ·exact decide_eq_decide.2 (by omega)
 ·exact decide_eq_decide.2 (by omega)
theorem r8(a:Rat)(h:wG 100000000 a):(cu a).run=some (eV a && !jo a):=by
 unfold cu
 rw[z6 (Q5 a h)]
 cases eV a with
 | false=>rfl
 | true=>rw[zi,z6 (Wz a h),z7]; rfl
theorem LV(a:Rat)(h:ye a):(jd a).run=some (xK a):=by
 unfold jd xK
 have hr:=Q5 a (fK h (by omega))
 have e:∀ l:List Int,(((l.length:Int))==0)=l.isEmpty:=λl=>by cases l<;>simp; omega
 rw[e,e]
 cases a.1 with
 | true=>rfl
 | false =>
  rw[za (by rfl)]
  cases a.2.1.isEmpty with
  | false=>rfl
  | true =>
   rw[zi]
   cases a.2.2.1.isEmpty with
   | true=>rfl
   | false=>rw[zg,z6 hr,z7]; rfl
theorem PE(g:Expr×Int->T Bool)(kids:List Expr)(k0:Int)(n0:Rat)(s0:zf)(D:Nat)(hl:kids.length<=100000)
  (hg:∀ e∈kids,(g (e,zF (((D+1:Nat):Int)+1))).run=some (wK (D+1) e)) :
  (mV (λy0 y1=>g (y0,y1)) ((D+1:Nat):Int) (.mk k0 n0 s0 kids) (kids.length:Int) 0).run=some (if uv (D+1) kids=true then .inl ()else .inr false):=by
 refine T.nW (r:=br (λy0 y1=>g (y0,y1)) ((D+1:Nat):Int) (.mk k0 n0 s0 kids) (kids.length:Int)) kids (zj .expr) (λ(_:Unit) i=>i) (λ_ _=>True) (λl _=>(if uv (D+1) l=true then .inl ()else .inr false:Unit⊕Bool)) (λk _ x xs hk hx hm hd hI => ?_) (λ_ _ => ?_) (b:=()) trivial
 ·have K3:=hg x hm
  have ek:Expr.kids (.mk k0 n0 s0 kids)=kids:=rfl
  unfold br
  rw[za (kl hk),ek,zb (qp hk),hx,z6 K3]
  cases q:wK (D+1) x with
  | true =>
   left
   refine⟨(),?_,trivial,?_⟩
   ·rw[z8 (by rfl),z7,oy k _ hk (by omega)]
   ·show _=(if(wK (D+1) x&&uv (D+1) xs)=true then _ else _)
    rw[q,Bool.true_and]
  | false =>
   right
   rw[za (by rfl),z7]
   show _=some (Sum.inr (if(wK (D+1) x&&uv (D+1) xs)=true then _ else _))
   rw[q,Bool.false_and]; rfl
 ·unfold br
  rw[z8 (gS _),z7]; rfl
theorem z0Y(e:Expr)(deep:Nat)(h:allOk e)(hn:wA e<=100000)(hd:deep<=32):(mC e ((deep+1:Nat):Int)).run=some (wK deep e):=by
 unfold mC
 refine iY (λx:Expr×Int=>allOk x.1/\wA x.1<=100000/\1<=x.2/\x.2<=33) (λx=>wA x.1) (λx=>wK (x.2.toNat-1) x.1) (λx hx g hg => ?_) (x:=(e,((deep+1:Nat):Int))) ⟨h,hn,by dsimp only; omega,by dsimp only; omega⟩
 obtain⟨e,d⟩:=x
 obtain⟨ha,hn,II,BJ⟩:=hx
 dsimp only at ha hn II BJ
 obtain⟨D,rfl⟩:∃ D:Nat,d=((D+1:Nat):Int):=⟨d.toNat-1,by omega⟩
 cases e with | mk k n s kids =>
 obtain⟨X3,Gs⟩:=ha
 have Dy:wA (.mk k n s kids)=1+wR kids:=rfl
 have hlen:=sJ kids
 have FJ:(((D+1:Nat):Int)).toNat-1=D:=by omega
 dsimp only
 rw[FJ]
 unfold iL
 show _=some (decide (D<32)&&(uF (.mk k n s kids)&&uv (D+1) kids))
 by_cases c:D<32
 ·rw[z8 (decide_eq_false (by omega)),decide_eq_true c,Bool.true_and]
  have hN:=mq n (fK X3 (by omega))
  have hG:=r8 n (fK X3 (by omega))
  have hB:=LV n X3
  have hNm:=wV s
  have e0:∀ m:Nat,(((m:Int))==0)=(((m:Int))==(0:Int)):=λ_=>rfl
  have QY:∀ e∈kids,(g (e,zF (((D+1:Nat):Int)+1))).run=some (wK (D+1) e):=λe he=>by
   have hm:=so he
   have ew:zF (((D+1:Nat):Int)+1)=((D+1+1:Nat):Int):=by rw[zu (by omega) (by omega)]; omega
   have:=hg (e,((D+1+1:Nat):Int)) ⟨sb Gs e he,by dsimp only; omega,by dsimp only; omega,by dsimp only; omega⟩ (by dsimp only; rw[Dy]; omega)
   rw[ew,this]
   dsimp only
   rw[show(((D+1+1:Nat):Int)).toNat-1=D+1 by omega]
  have Ru:=PE g kids k n s D (by omega) QY
  have z8Q:Expr.kids (.mk k n s kids)=kids:=rfl
  have z84:Expr.kind (.mk k n s kids)=k:=rfl
  have z94:Expr.name (.mk k n s kids)=s:=rfl
  have z7I:Expr.num (.mk k n s kids)=n:=rfl
  have tail:∀ kd:Int,(T.bind (.ite ((Nat.cast (List.length kids):Int) != kd) (.ret true) (.ite (!(zr s ([]:zf))) (.ret true) (T.bind (jd n) λr4=>.ret (!r4))):T Bool) λx1 =>
     .ite x1 (.ret false) (T.bind (mV (λy0 y1=>g (y0,y1)) ((D+1:Nat):Int) (.mk k n s kids) kd (0:Int))<|Sum.elim (λ_=>.ret true) (λx2=>.ret x2)):T Bool).run =
     some (((kids.length:Int)==kd)&&((xK n&&zr s [])&&uv (D+1) kids)):=by
   intro kd
   have head:(.ite ((Nat.cast (List.length kids):Int) != kd) (.ret true) (.ite (!(zr s ([]:zf))) (.ret true) (T.bind (jd n) λr4=>.ret (!r4))):T Bool).run=some (!(((kids.length:Int)==kd)&&(xK n&&zr s []))):=by
    cases q:((kids.length:Int)==kd)with
    | false=>rw[za (by rw[bne,q]; rfl)]; rfl
    | true =>
     rw[z8 (by rw[bne,q]; rfl)]
     cases zr s []with
     | false=>rw[za (by rfl),z7,Bool.and_false]; rfl
     | true=>rw[z8 (by rfl),z6 hB,z7,Bool.and_true,Bool.true_and]
   rw[z6 head]
   cases q:((kids.length:Int)==kd)with
   | false=>rfl
   | true =>
    have hkd:kd=(kids.length:Int):=by
     have:(kids.length:Int)=kd:=by simpa using q
     exact this.symm
    subst hkd
    rw[Bool.true_and,Bool.true_and]
    cases(xK n&&zr s [])with
    | false=>rfl
    | true =>
     rw[z8 (by rfl),z6 Ru,Bool.true_and]
     cases uv (D+1) kids<;>rfl
  unfold uF nP
  rw[z8Q,z84,z94,z7I]
  by_cases h1:k=1
  ·subst h1
   have head:(T.bind (gQ n) λ(r,ok)=>.ite ((Nat.cast (List.length kids):Int)==(0:Int)) (.ite (zr s ([]:zf)) (T.bind (cu n) λr1=>.ite r1 (.ite (!n.1) (.ret (.inr ok)) (.ret (.inr false))) (.ret (.inr false))) (.ret (.inr false))) (.ret (.inr false)):T (Int⊕Bool)).run=some (.inr (((kids.length:Int)==0)&&(jf n&&zr s []))):=by
    rw[z6 hN]
    unfold jf
    generalize qF (norm n).1 (nv (norm n).2.1) (nv (norm n).2.2.1) 0 61=x
    obtain⟨x1,x2⟩:=x
    dsimp only
    cases(Nat.cast (List.length kids):Int)==(0:Int)with
    | false=>rfl
    | true =>
     rw[zi]
     cases zr s []with
     | false=>rw[zg,z7,Bool.and_false]; rfl
     | true =>
      rw[zi,z6 hG]
      cases eV n<;>cases jo n<;>cases n.1<;>cases x2<;>rfl
   refine(z6 (a:=.inr (((kids.length:Int)==0)&&(jf n&&zr s []))) ?_ _).trans ?_
   ·rw[za (by rfl)]; exact head
   ·rw[Sum.elim_inr,z7,if_pos (.inl rfl),if_pos rfl]
    cases q:((kids.length:Int)==0)with
    | false=>rfl
    | true =>
     have:kids=[]:=List.eq_nil_of_length_eq_zero (by have:(kids.length:Int)=0:=(by simpa using q); omega)
     subst this
     show _=some (true&&(jf n&&zr s [])&&true)
     rw[Bool.and_true]
  ·by_cases h2:k=2
   ·subst h2
    have head:(.ite ((Nat.cast (List.length kids):Int)==(0:Int)) (T.bind (vF s) λr2=>.ite r2 (T.bind (jd n) λr3=>.ret (.inr r3)) (.ret (.inr false))) (.ret (.inr false)):T (Int⊕Bool)).run=some (.inr (((kids.length:Int)==0)&&(xK n&&zT s))):=by
     cases(Nat.cast (List.length kids):Int)==(0:Int)with
     | false=>rfl
     | true =>
      rw[zi,z6 hNm]
      cases zT s with
      | false=>rw[zg,z7,Bool.and_false]; rfl
      | true=>rw[zi,z6 hB,z7,Bool.and_true,Bool.true_and]
    refine(z6 (a:=.inr (((kids.length:Int)==0)&&(xK n&&zT s))) ?_ _).trans ?_
    ·rw[z8 (by rfl),za (by rfl)]; exact head
    ·rw[Sum.elim_inr,z7,if_pos (.inr rfl),if_neg (by decide),if_pos rfl]
     cases q:((kids.length:Int)==0)with
     | false=>rfl
     | true =>
      have:kids=[]:=List.eq_nil_of_length_eq_zero (by have:(kids.length:Int)=0:=(by simpa using q); omega)
      subst this
      show _=some (true&&(xK n&&zT s)&&true)
      rw[Bool.and_true]
   ·have k1:(k==1)=false:=by simpa using h1
    have k2:(k==2)=false:=by simpa using h2
    have fin:∀ kd:Int,(if k=7 then(1:Int)else if k=3\/k=4\/k=5\/k=6 then 2 else -1)=kd->((((kids.length:Int)==kd)&&((xK n&&zr s [])&&uv (D+1) kids))) =
      ((((kids.length:Int)==(if k=1\/k=2 then(0:Int)else if k=7 then 1 else if k=3\/k=4\/k=5\/k=6 then 2 else -1))&&(if k=1 then jf n&&zr s []else if k=2 then xK n&&zT s else xK n&&zr s []))&&uv (D+1) kids):=by
     intro kd hkd
     rw[if_neg (by rintro(h | h); exact h1 h; exact h2 h),hkd,if_neg h1,if_neg h2]
     simp only[Bool.and_assoc]
    by_cases h7:k=7
    ·refine(z6 (a:=.inl 1) ?_ _).trans ?_
     ·rw[z8 k1,z8 k2,za (by simpa using h7),z7]
     ·rw[Sum.elim_inl,<- fin 1 (by rw[if_pos h7])]; exact tail 1
    ·have k7:(k==7)=false:=by simpa using h7
     by_cases h3:k=3
     ·refine(z6 (a:=.inl 2) ?_ _).trans ?_
      ·rw[z8 k1,z8 k2,z8 k7,za (by simpa using h3),z7]
      ·rw[Sum.elim_inl,<- fin 2 (by rw[if_neg h7,if_pos (.inl h3)])]; exact tail 2
     ·have k3:(k==3)=false:=by simpa using h3
      by_cases h4:k=4
      ·refine(z6 (a:=.inl 2) ?_ _).trans ?_
       ·rw[z8 k1,z8 k2,z8 k7,z8 k3,za (by simpa using h4),z7]
       ·rw[Sum.elim_inl,<- fin 2 (by rw[if_neg h7,if_pos (.inr (.inl h4))])]; exact tail 2
      ·have k4:(k==4)=false:=by simpa using h4
       by_cases h5:k=5
       ·refine(z6 (a:=.inl 2) ?_ _).trans ?_
        ·rw[z8 k1,z8 k2,z8 k7,z8 k3,z8 k4,za (by simpa using h5),z7]
        ·rw[Sum.elim_inl,<- fin 2 (by rw[if_neg h7,if_pos (.inr (.inr (.inl h5)))])]; exact tail 2
       ·have k5:(k==5)=false:=by simpa using h5
        by_cases h6:k=6
        ·refine(z6 (a:=.inl 2) ?_ _).trans ?_
         ·rw[z8 k1,z8 k2,z8 k7,z8 k3,z8 k4,z8 k5,za (by simpa using h6),z7]
         ·rw[Sum.elim_inl,<- fin 2 (by rw[if_neg h7,if_pos (.inr (.inr (.inr h6)))])]; exact tail 2
        ·have k6:(k==6)=false:=by simpa using h6
         refine(z6 (a:=.inr false) ?_ _).trans ?_
         ·rw[z8 k1,z8 k2,z8 k7,z8 k3,z8 k4,z8 k5,z8 k6,z7]
         ·rw[Sum.elim_inr,z7,<- fin (-1) (by rw[if_neg h7,if_neg (by rintro(h | h | h | h)<;>contradiction)])]
          have:((kids.length:Int) == -1)=false:=by simp
          rw[this]; rfl
 ·rw[za (decide_eq_true (by omega)),z7,decide_eq_false c]; rfl
theorem VH(e:Expr)(hb:bkE e<=1000000000):(ig e).run=some ((wA e:Nat):Int):=by
 unfold ig
 refine iY (λx:Expr=>bkE x<=1000000000) (λx=>bkE x) (λx=>((wA x:Nat):Int)) (λx hx g hg => ?_) (x:=e) hb
 have hk:=ZE x
 have DY:=HR x.kids
 have ndb:∀ (l:List Expr),wR l<=bkEs l:=by
  have both:∀ n,(∀ e:Expr,bkE e<=n->wA e<=bkE e):=by
   intro n
   induction n using Nat.strongRecOn with
   | _ n ih =>
    intro e he
    cases e with | mk k m s l =>
    have hl:∀ l':List Expr,bkEs l'<n->wR l'<=bkEs l':=by
     intro l'
     induction l' with
     | nil=>intro _; exact Nat.le_refl _
     | cons y r ihr =>
      intro h
      unfold bkEs at h ⊢
      unfold wR
      have h1:=ih (bkE y) (by omega) y (Nat.le_refl _)
      have h2:=ihr (by omega)
      omega
    have h3:bkEs l<bkE (.mk k m s l):=ZE (.mk k m s l)
    have:=hl l (by omega)
    unfold wA
    omega
  intro l
  induction l with
  | nil=>exact Nat.le_refl _
  | cons y r ihr =>
   unfold wR bkEs
   have:=both (bkE y) y (Nat.le_refl _)
   omega
 have loop:(pz (λy0=>g y0) x (1,0)).run=some ((1+wR x.kids:Nat):Int):=by
  have key:=Je (r:=kK (λy0=>g y0) x) x.kids (zj .expr) (λ(b:Nat) i=>(((b:Nat):Int),i)) (λb r=>b+wR r<=1+wR x.kids/\∀ y∈r,y∈x.kids) (λr b=>((b+wR r:Nat):Int)) ?_ ?_ (b:=1) ⟨Nat.le_refl _,λy hy=>hy⟩
  ·exact key
  ·rintro b y ys i h0 hi hy ⟨h1,h2⟩
   have hm:=HW (h2 y List.mem_cons_self)
   have hr:=hg y (by omega) (by omega)
   have Dy:=ndb x.kids
   have e1:wR (y::ys)=wA y+wR ys:=rfl
   rw[e1]at h1
   refine .inl ⟨b+wA y,?_,⟨by omega,λz hz=>h2 z (List.mem_cons_of_mem _ hz)⟩,by rw[e1,Nat.add_assoc]⟩
   unfold kK
   dsimp only
   rw[za (decide_eq_true hi),zb ⟨h0,hi⟩,hy,z6 hr,z7,zu (x:=i+1) (by omega) (by omega),zu (by omega) (by omega)]
   rfl
  ·rintro b _
   unfold kK
   dsimp only
   rw[z8 (gS _),z7]; rfl
 unfold bW
 rw[z6 loop,z7]
 cases x with | mk k n s kids=>rfl
theorem G2(e:Expr)(h:allOk e)(hb:bkE e<=1000000)(hn:wA e<=256):(cf e).run=some (wK 0 e):=by
 unfold cf
 have h1:(mC e 1).run=some (wK 0 e):=z0Y e 0 h (by omega) (by omega)
 rw[z6 h1]
 cases wK 0 e with
 | false=>rfl
 | true=>rw[zi,z6 (VH e (by omega)),z7,decide_eq_true (by omega)]
def q9(k:Int):Int:=if k=3\/k=4 then 1 else if k=5\/k=6 then 2 else if k=7 then 3 else 4
def JC(k:Int):zf:=if k=3 then[32,43,32]else if k=4 then[32,45,32]else if k=5 then[32,42,32]else if k=6 then[32,47,32]else[]
def dI(b:Bool)(s:zf):zf:=if b=true then[40]++s++[41]else s
def dP(k:Int):List (Int×zf)->zf
 | [a]=>[45]++dI (decide (a.1<3)) a.2
 | [a,b]=>dI (decide (a.1<q9 k)) a.2++JC k++dI (decide (b.1<q9 k+1)) b.2
 | _=>[]
mutual
def prE:Expr->zf
 | .mk k n s l=>if k=1 then(qF (norm n).1 (nv (norm n).2.1) (nv (norm n).2.2.1) 0 61).1 else if k=2 then s else dP k (prL l)
def prL:List Expr->List (Int×zf)
 | []=>[]
 | e::r=>(q9 e.kind,prE e)::prL r
end
theorem uB(b:Bool)(s:zf):(dI b s).length<=s.length+2:=by unfold dI; split<;>simp<;>omega
theorem Zn(k:Int):(JC k).length<=3:=by unfold JC; (repeat' split)<;>simp
theorem Le(n:Rat)(h:ye n):(qF (norm n).1 (nv (norm n).2.1) (nv (norm n).2.2.1) 0 61).1.length<=6000:=by
 have hn:=en (k:=100) (by omega) h
 have hd:=mR n.1 (nv n.2.1) (nv n.2.2.1)
 have hd:nv (norm n).2.2.1≠0:=hd
 rcases hx:qF (norm n).1 (nv (norm n).2.1) (nv (norm n).2.2.1) 0 61 with⟨s,b⟩
 cases b with
 | true =>
  obtain⟨j,h1,h2,h3,rfl⟩:=Zy _ _ _ hd 61 0 s hx
  have l1:=zC hn.1
  have l2:=hn.2.2.1
  have l3:=oj j
  have l4:=Qk (nv (norm n).2.1) (10 ^ j)
  have l5:=Vo (Nat.div_le_self (nv (norm n).2.1*10 ^ j) (nv (norm n).2.2.1))
  have l6:=cJ (nv (norm n).2.1*10 ^ j / nv (norm n).2.2.1) 162 (by omega)
  have l7:(YA (norm n).1).length<=1:=by unfold YA; split<;>simp
  dsimp only
  rw[List.length_append]
  by_cases hj:j=0
  ·subst hj
   unfold CQ
   rw[if_pos rfl]
   omega
  ·obtain⟨w,p,e,_,_,_,hp,_,hw⟩:=UZ (pr (nv (norm n).2.1*10 ^ j / nv (norm n).2.2.1)) j hj (I1 _).1
   rw[e,List.length_append,List.length_cons]
   omega
 | false =>
  have:∀ (f k:Nat) (s:zf),qF (norm n).1 (nv (norm n).2.1) (nv (norm n).2.2.1) k f=(s,false)->s=[]:=by
   intro f
   induction f with
   | zero=>intro k s h; unfold qF at h; cases h; rfl
   | succ f ih =>
    intro k s h
    unfold qF at h
    split at h
    ·cases h
    ·exact ih _ _ h
  rw[this 61 0 s hx]; simp
theorem nj{d:Nat}{k:Int}{n:Rat}{s:zf}{l:List Expr}(h:wK d (.mk k n s l)=true):((l.length:Int)=nP k)/\uv (d+1) l=true:=by
 have h:(decide (d<32)&&(uF (.mk k n s l)&&uv (d+1) l))=true:=h
 simp only[Bool.and_eq_true]at h
 obtain⟨_,h1,h2⟩:=h
 unfold uF at h1
 simp only[Bool.and_eq_true]at h1
 exact⟨eq_of_beq h1.1,h2⟩
theorem eM:∀ (m:Nat) (e:Expr) (d:Nat),wA e<=m->wK d e=true->allOk e->(prE e).length<=2000*szE e:=by
 intro m
 induction m with
 | zero=>intro e d hm; cases e; unfold wA at hm; omega
 | succ m ih =>
  intro e d hm ho ha
  cases e with | mk k n s l =>
  obtain⟨hk,hl⟩:=nj ho
  obtain⟨hn,fc⟩:=ha
  have Dy:wA (.mk k n s l)=1+wR l:=rfl
  have uo:szE (.mk k n s l)=3+s.length+8*n.2.1.length+8*n.2.2.1.length+szEs l:=rfl
  rw[Dy]at hm
  rw[uo]
  show(if k=1 then(qF (norm n).1 (nv (norm n).2.1) (nv (norm n).2.2.1) 0 61).1 else if k=2 then s else dP k (prL l)).length<=_
  by_cases h1:k=1
  ·rw[if_pos h1]; have:=Le n hn; omega
  ·rw[if_neg h1]
   by_cases h2:k=2
   ·rw[if_pos h2]; omega
   ·rw[if_neg h2]
    match l,hl,fc,hm with
    | [],_,_,_=>show(dP k []).length<=_; unfold dP; simp
    | [a],hl,fc,hm =>
     have Sl:wK (d+1) a=true:=by
      have:(wK (d+1) a&&uv (d+1) [])=true:=hl
      simp only[Bool.and_eq_true]at this; exact this.1
     have:=ih a (d+1) (by have:wR [a]=wA a+0:=rfl; omega) Sl fc.1
     have e1:szEs [a]=szE a+0:=rfl
     have hp:=uB (decide (q9 a.kind<3)) (prE a)
     show([45]++dI (decide (q9 a.kind<3)) (prE a)).length<=_
     rw[List.length_append,List.length_singleton,e1]; omega
    | [a,b],hl,fc,hm =>
     have WA:wK (d+1) a=true/\wK (d+1) b=true:=by
      have:(wK (d+1) a&&(wK (d+1) b&&uv (d+1) []))=true:=hl
      simp only[Bool.and_eq_true]at this; exact⟨this.1,this.2.1⟩
     have e0:wR [a,b]=wA a+(wA b+0):=rfl
     have h3:=ih a (d+1) (by omega) WA.1 fc.1
     have h4:=ih b (d+1) (by omega) WA.2 fc.2.1
     have e1:szEs [a,b]=szE a+(szE b+0):=rfl
     have hp:=uB (decide (q9 a.kind<q9 k)) (prE a)
     have hq:=uB (decide (q9 b.kind<q9 k+1)) (prE b)
     have hm':=Zn k
     show(dI (decide (q9 a.kind<q9 k)) (prE a)++JC k++dI (decide (q9 b.kind<q9 k+1)) (prE b)).length<=_
     rw[List.length_append,List.length_append,e1]; omega
    | a::b::c::r,_,_,_=>show(dP k _).length<=_; unfold prL prL prL dP; simp
theorem Jb(e:Expr):(gH e).run=some (q9 e.kind):=by
 unfold gH q9
 generalize e.kind=k
 by_cases h3:k=3
 ·subst h3; rfl
 by_cases h4:k=4
 ·subst h4; rfl
 by_cases h5:k=5
 ·subst h5; rfl
 by_cases h6:k=6
 ·subst h6; rfl
 by_cases h7:k=7
 ·subst h7; rfl
 ·simp[h3,h4,h5,h6,h7]
theorem SW(k:Int):(nL k).run=some (q9 k):=by
 unfold nL q9
 by_cases h3:k=3
 ·subst h3; rfl
 by_cases h4:k=4
 ·subst h4; rfl
 by_cases h5:k=5
 ·subst h5; rfl
 by_cases h6:k=6
 ·subst h6; rfl
 by_cases h7:k=7
 ·subst h7; rfl
 ·simp[h3,h4,h5,h6,h7]
theorem rI(g:Expr->T zf)(e:Expr)(least:Int)(t:zf)(hg:(g e).run=some t)(hl:t.length<=1000000000000):(yl (λy0=>g y0) e least).run=some (dI (decide (q9 e.kind<least)) t):=by
 unfold yl dI
 rw[z6 (Jb e)]
 cases decide (q9 e.kind<least)with
 | true=>rw[zi,z6 hg,zo _ (by simp; omega),zo _ (by simp[jA]; omega),z7,if_pos rfl]; rfl
 | false=>rw[zg,z6 hg,z7,if_neg (by simp)]
theorem Kv{k:Int}{l:List Expr}(hk:(l.length:Int)=nP k)(h1:k≠1)(h2:k≠2):(k=7/\∃ a,l=[a])\/((k=3\/k=4\/k=5\/k=6)/\∃ a b,l=[a,b]):=by
 unfold nP at hk
 rw[if_neg (by rintro(h | h); exact h1 h; exact h2 h)]at hk
 by_cases h7:k=7
 ·rw[if_pos h7]at hk
  match l,hk with
  | [a],_=>exact .inl ⟨h7,a,rfl⟩
  | [],hk=>simp at hk
  | _::_::_,hk=>simp at hk; omega
 ·rw[if_neg h7]at hk
  by_cases h:k=3\/k=4\/k=5\/k=6
  ·rw[if_pos h]at hk
   match l,hk with
   | [a,b],_=>exact .inr ⟨h,a,b,rfl⟩
   | [],hk=>simp at hk
   | [_],hk=>simp at hk
   | _::_::_::_,hk=>simp at hk; omega
  ·rw[if_neg h]at hk; omega
theorem M7(e:Expr)(d:Nat)(ho:wK d e=true)(ha:allOk e)(hs:szE e<=1000000):(iJ e).run=some (prE e):=by
 unfold iJ
 refine iY (λx:Expr=>(∃ d,wK d x=true)/\allOk x/\szE x<=1000000) (λx=>wA x) (λx=>prE x) (λx hx g hg => ?_) (x:=e) ⟨⟨d,ho⟩,ha,hs⟩
 obtain⟨⟨d,ho⟩,ha,hs⟩:=hx
 cases x with | mk k n s l =>
 obtain⟨hk,hl⟩:=nj ho
 obtain⟨hn,fc⟩:=ha
 have Dy:wA (.mk k n s l)=1+wR l:=rfl
 have uo:szE (.mk k n s l)=3+s.length+8*n.2.1.length+8*n.2.2.1.length+szEs l:=rfl
 have hE:=pI n (fK hn (by omega))
 have z3H:prE (.mk k n s l)=if k=1 then(qF (norm n).1 (nv (norm n).2.1) (nv (norm n).2.2.1) 0 61).1 else if k=2 then s else dP k (prL l):=rfl
 rw[z3H]
 unfold cq
 rw[show Expr.kind (.mk k n s l)=k from rfl,show Expr.kids (.mk k n s l)=l from rfl,show Expr.num (.mk k n s l)=n from rfl,show Expr.name (.mk k n s l)=s from rfl]
 have Mv:=Jb (.mk k n s l)
 rw[show Expr.kind (.mk k n s l)=k from rfl]at Mv
 by_cases h1:k=1
 ·rw[if_pos h1]
  refine(z6 (a:=.inr (qF (norm n).1 (nv (norm n).2.1) (nv (norm n).2.2.1) 0 61).1) ?_ _).trans rfl
  rw[za (by simpa using h1),z6 hE,z7]
 have k1:(k==1)=false:=by simpa using h1
 by_cases h2:k=2
 ·rw[if_neg h1,if_pos h2]
  refine(z6 (a:=.inr s) ?_ _).trans rfl
  rw[z8 k1,za (by simpa using h2),z7]
 have k2:(k==2)=false:=by simpa using h2
 rw[if_neg h1,if_neg h2]
 rcases Kv hk h1 h2 with⟨h7,a,rfl⟩ | ⟨Ou,a,b,rfl⟩
 ·have Sl:wK (d+1) a=true:=by
   have:(wK (d+1) a&&uv (d+1) [])=true:=hl
   simp only[Bool.and_eq_true]at this; exact this.1
  have e0:wR [a]=wA a+0:=rfl
  have e1:szEs [a]=szE a+0:=rfl
  have hr:=hg a ⟨⟨_,Sl⟩,fc.1,by omega⟩ (by omega)
  have hlen:=eM (wA a) a (d+1) (Nat.le_refl _) Sl fc.1
  have hp:=rI g a 3 (prE a) hr (by omega)
  have Qa:=uB (decide (q9 a.kind<3)) (prE a)
  refine(z6 (a:=.inr (dP k (prL [a]))) ?_ _).trans rfl
  rw[z8 k1,z8 k2,za (by simpa using h7),zb ⟨by omega,by simp⟩,show nth [a] (0:Int) (zj .expr)=a from rfl,z6 hp,zo _ (by simp; omega),z7]
  rfl
 ·have WA:wK (d+1) a=true/\wK (d+1) b=true:=by
   have:(wK (d+1) a&&(wK (d+1) b&&uv (d+1) []))=true:=hl
   simp only[Bool.and_eq_true]at this; exact⟨this.1,this.2.1⟩
  have e0:wR [a,b]=wA a+(wA b+0):=rfl
  have e1:szEs [a,b]=szE a+(szE b+0):=rfl
  have ra:=hg a ⟨⟨_,WA.1⟩,fc.1,by omega⟩ (by omega)
  have rb:=hg b ⟨⟨_,WA.2⟩,fc.2.1,by omega⟩ (by omega)
  have la:=eM (wA a) a (d+1) (Nat.le_refl _) WA.1 fc.1
  have lb:=eM (wA b) b (d+1) (Nat.le_refl _) WA.2 fc.2.1
  have Bs:zF (q9 k+1)=q9 k+1:=by
   have:q9 k=1\/q9 k=2\/q9 k=3\/q9 k=4:=by unfold q9; (repeat' split)<;>simp
   rw[zu (by omega) (by omega)]
  have pa:=rI g a (q9 k) (prE a) ra (by omega)
  have pb:=rI g b (q9 k+1) (prE b) rb (by omega)
  have qa:=uB (decide (q9 a.kind<q9 k)) (prE a)
  have qb:=uB (decide (q9 b.kind<q9 k+1)) (prE b)
  have hm:=Zn k
  have k7:(k==7)=false:=by rw[beq_eq_false_iff_ne]; omega
  refine(z6 (a:=.inl (JC k)) ?_ _).trans ?_
  ·rw[z8 k1,z8 k2,z8 k7]
   rcases Ou with rfl | rfl | rfl | rfl<;>rfl
  ·rw[Sum.elim_inl,zb ⟨by omega,by simp⟩,z6 Mv,show nth [a,b] (0:Int) (zj .expr)=a from rfl,z6 pa,zo _ (by omega),zb ⟨by omega,by simp⟩,z6 Mv,Bs,show nth [a,b] (1:Int) (zj .expr)=b from rfl,z6 pb,zo _ (by simp[jA]; omega),z7]
   rfl
theorem Nr(e:Expr)(asks:Int)(d:Nat)(ho:wK d e=true)(ha:allOk e)(hs:szE e<=100000):(o0 e asks).run=some (dI (decide (q9 e.kind<asks)) (prE e)):=by
 unfold o0
 refine iY (λx:Expr×Int=>(∃ d,wK d x.1=true)/\allOk x.1/\szE x.1<=100000) (λx=>wA x.1) (λx=>dI (decide (q9 x.1.kind<x.2)) (prE x.1)) (λx hx g hg => ?_) (x:=(e,asks)) ⟨⟨d,ho⟩,ha,hs⟩
 obtain⟨x,q⟩:=x
 obtain⟨⟨d,ho⟩,ha,hs⟩:=hx
 dsimp only at ho ha hs
 have ze9:=eM (wA x) x d (Nat.le_refl _) ho ha
 cases x with | mk k n s l =>
 obtain⟨hk,hl⟩:=nj ho
 obtain⟨hn,fc⟩:=ha
 have Dy:wA (.mk k n s l)=1+wR l:=rfl
 have uo:szE (.mk k n s l)=3+s.length+8*n.2.1.length+8*n.2.2.1.length+szEs l:=rfl
 have hE:=mq n (fK hn (by omega))
 have z3H:prE (.mk k n s l)=if k=1 then(qF (norm n).1 (nv (norm n).2.1) (nv (norm n).2.2.1) 0 61).1 else if k=2 then s else dP k (prL l):=rfl
 unfold dW
 rw[show Expr.kind (.mk k n s l)=k from rfl,show Expr.kids (.mk k n s l)=l from rfl,show Expr.num (.mk k n s l)=n from rfl,show Expr.name (.mk k n s l)=s from rfl]
 have fin:∀ t:T zf,t.run=some (prE (.mk k n s l))->(T.bind t λs1=>T.bind (nL k) λr10=>.ite (decide (r10<q))
   (.zA (((List.length ([40]:zf))+(List.length s1))<=(4611686018427387904:Nat))<|.zA (((List.length (cat ([40]:zf) s1))+(List.length ([41]:zf)))<=(4611686018427387904:Nat))<|.ret (cat (cat ([40]:zf) s1) ([41]:zf))) (.ret s1):T zf).run=some (dI (decide (q9 k<q)) (prE (.mk k n s l))):=by
  intro t ht
  rw[z6 ht,z6 (SW k)]
  cases decide (q9 k<q)with
  | true=>rw[zi,zo _ (by simp; omega),zo _ (by simp[jA]; omega),z7]; rfl
  | false=>rw[zg,z7]; rfl
 refine fin _ ?_
 rw[z3H]
 by_cases h1:k=1
 ·rw[if_pos h1,za (by simpa using h1),z6 hE,z7]
 have k1:(k==1)=false:=by simpa using h1
 by_cases h2:k=2
 ·rw[if_neg h1,if_pos h2,z8 k1,za (by simpa using h2),z7]
 have k2:(k==2)=false:=by simpa using h2
 rw[if_neg h1,if_neg h2]
 rcases Kv hk h1 h2 with⟨h7,a,rfl⟩ | ⟨Ou,a,b,rfl⟩
 ·have Sl:wK (d+1) a=true:=by
   have:(wK (d+1) a&&uv (d+1) [])=true:=hl
   simp only[Bool.and_eq_true]at this; exact this.1
  have e0:wR [a]=wA a+0:=rfl
  have e1:szEs [a]=szE a+0:=rfl
  have hr:=hg (a,3) ⟨⟨_,Sl⟩,fc.1,by dsimp only; omega⟩ (by dsimp only; omega)
  have hlen:=eM (wA a) a (d+1) (Nat.le_refl _) Sl fc.1
  have Qa:=uB (decide (q9 a.kind<3)) (prE a)
  dsimp only at hr
  rw[z8 k1,z8 k2,za (by simpa using h7),zb ⟨by omega,by simp⟩,show nth [a] (0:Int) (zj .expr)=a from rfl,z6 hr,zo _ (by simp; omega),z7]
  rfl
 ·have WA:wK (d+1) a=true/\wK (d+1) b=true:=by
   have:(wK (d+1) a&&(wK (d+1) b&&uv (d+1) []))=true:=hl
   simp only[Bool.and_eq_true]at this; exact⟨this.1,this.2.1⟩
  have e0:wR [a,b]=wA a+(wA b+0):=rfl
  have e1:szEs [a,b]=szE a+(szE b+0):=rfl
  have ra:∀ q:Int,(g (a,q)).run=some (dI (decide (q9 a.kind<q)) (prE a)):=λq=>hg (a,q) ⟨⟨_,WA.1⟩,fc.1,by dsimp only; omega⟩ (by dsimp only; omega)
  have rb:∀ q:Int,(g (b,q)).run=some (dI (decide (q9 b.kind<q)) (prE b)):=λq=>hg (b,q) ⟨⟨_,WA.2⟩,fc.2.1,by dsimp only; omega⟩ (by dsimp only; omega)
  have la:=eM (wA a) a (d+1) (Nat.le_refl _) WA.1 fc.1
  have lb:=eM (wA b) b (d+1) (Nat.le_refl _) WA.2 fc.2.1
  have qa:∀ q:Int,(dI (decide (q9 a.kind<q)) (prE a)).length<=1000000000:=λq=>by have:=uB (decide (q9 a.kind<q)) (prE a); omega
  have qb:∀ q:Int,(dI (decide (q9 b.kind<q)) (prE b)).length<=1000000000:=λq=>by have:=uB (decide (q9 b.kind<q)) (prE b); omega
  have k7:(k==7)=false:=by rw[beq_eq_false_iff_ne]; omega
  have two:∀ (m:zf) (p q:Int),m.length<=3->(.zA (qu (0:Int) (List.length [a,b]))<|T.bind (g (nth [a,b] (0:Int) (zj .expr),p)) λr2=>.zA (((List.length r2)+(List.length m))<=(4611686018427387904:Nat))<|.zA (qu (1:Int) (List.length [a,b])) <|
    T.bind (g (nth [a,b] (1:Int) (zj .expr),q)) λr3=>.zA (((List.length (cat r2 m))+(List.length r3))<=(4611686018427387904:Nat))<|.ret (cat (cat r2 m) r3):T zf).run=some (dI (decide (q9 a.kind<p)) (prE a)++m++dI (decide (q9 b.kind<q)) (prE b)):=by
   intro m p q hm
   have h3:=qa p
   have h4:=qb q
   rw[zb ⟨by omega,by simp⟩,show nth [a,b] (0:Int) (zj .expr)=a from rfl,z6 (ra p),zo _ (by omega),zb ⟨by omega,by simp⟩,show nth [a,b] (1:Int) (zj .expr)=b from rfl,z6 (rb q),zo _ (by simp[jA]; omega),z7]
   rfl
  rw[z8 k1,z8 k2,z8 k7]
  rcases Ou with rfl | rfl | rfl | rfl
  ·rw[za (by rfl)]; exact two [32,43,32] 1 2 (by simp)
  ·rw[z8 (by rfl),za (by rfl)]; exact two [32,45,32] 1 2 (by simp)
  ·rw[z8 (by rfl),z8 (by rfl),za (by rfl)]; exact two [32,42,32] 2 3 (by simp)
  ·rw[z8 (by rfl),z8 (by rfl),z8 (by rfl),za (by rfl)]; exact two [32,47,32] 2 3 (by simp)
structure FL(f:Form):Prop where
 n:f.1.length+f.2.1.length+f.2.2.1.length+f.2.2.2.1.length+f.2.2.2.2.1.length+f.2.2.2.2.2.1.length<=30
 s:∀ x∈f.1,x.1.length<=600
 p:∀ x∈f.2.1,x.1.length<=600/\x.2.1.2.1.length<=75/\x.2.1.2.2.1.length<=75
 g:∀ x∈f.2.2.1,x.1.length<=600/\x.2.1.length<=600
 d:∀ x∈f.2.2.2.1,x.1.length<=600
 r:∀ x∈f.2.2.2.2.1,x.1.length<=600/\x.2.2.1.length<=600/\szE x.2.2.2.1<=600/\szE x.2.2.2.2.1<=600
 c:∀ x∈f.2.2.2.2.2.1,x.1.length<=600/\szE x.2.2.2.1<=600/\szE x.2.2.2.2.1<=600
theorem dB(e:Expr):Expr.mk (Expr.kind e) ((Expr.num e).1,((Expr.num e).2.1,((Expr.num e).2.2.1,()))) (Expr.name e) (Expr.kids e)=e:=by
 cases e; rfl
mutual
theorem MS:∀ e:Expr,bkE e<=4*szE e
 | .mk k n s l=>by
  have:=DH l
  unfold bkE szE
  omega
theorem DH:∀ l:List Expr,bkEs l<=4*szEs l
 | []=>Nat.le_refl _
 | e::r=>by
  have h1:=MS e
  have h2:=DH r
  unfold bkEs szEs
  omega
end
def jm(e:Expr):Prop:=szE e<=74000/\wA e<=256/\allOk e
theorem o5{e:Expr}(h:szE e<=600)(ha:allOk e):jm e:=⟨by omega,by have:=Rx e; omega,ha⟩
theorem TV{e:Expr}(h:jm e):bkE e<=296000:=by have:=MS e; have:=h.1; omega
theorem E3{e:Expr}(h:jm e):wA e<=256:=h.2.1
theorem Zc{e:Expr}(h:jm e):(vZ e).run=some (wK 0 e):=z2W e h.2.2 (E3 h)
theorem mB{e:Expr}(h:jm e):(cf e).run=some (wK 0 e):=G2 e h.2.2 (by have:=TV h; omega) (E3 h)
theorem Fa{e:Expr}(h:jm e)(ho:wK 0 e=true):(cY e).run=some (prE e):=by
 unfold cY
 rw[z6 (Zc h),ho,z8 (by rfl),z6 (M7 e 0 ho h.2.2 (by have:=h.1; omega)),z7]
theorem sF{e:Expr}(h:jm e)(ho:wK 0 e=true):(kX e).run=some (prE e):=by
 unfold kX
 rw[z6 (mB h),ho,z8 (by rfl),z6 (Nr e 1 0 ho h.2.2 (by have:=h.1; omega)),z7]
 have:decide (q9 e.kind<1)=false:=by
  refine decide_eq_false ?_
  unfold q9
  (repeat' split)<;>omega
 rw[this]; rfl
theorem bw{e:Expr}(h:jm e)(ho:wK 0 e=true):(prE e).length<=148000000:=by
 have:=eM (wA e) e 0 (Nat.le_refl _) ho h.2.2
 have:=h.1
 omega
structure FS(f:Form):Prop where
 n:f.1.length+f.2.1.length+f.2.2.1.length+f.2.2.2.1.length+f.2.2.2.2.1.length+f.2.2.2.2.2.1.length<=601
 s:∀ x∈f.1,x.1.length<=600
 p:∀ x∈f.2.1,x.1.length<=600/\wG 100 x.2.1
 g:∀ x∈f.2.2.1,x.1.length<=600/\x.2.1.length<=600
 d:∀ x∈f.2.2.2.1,x.1.length<=600
 r:∀ x∈f.2.2.2.2.1,x.1.length<=600/\x.2.2.1.length<=600/\jm x.2.2.2.1/\jm x.2.2.2.2.1
 c:∀ x∈f.2.2.2.2.2.1,x.1.length<=600/\jm x.2.2.2.1/\jm x.2.2.2.2.1
theorem z6A{f:Form}(hw:wf qg f)(hb:FB f)(hl:FL f):FS f:=by
 refine⟨by have:=hl.n; omega,hl.s,λx hx => ?_,hl.g,hl.d,λx hx => ?_,λx hx => ?_⟩
 ·obtain⟨a,b,c⟩:=hl.p x hx
  obtain⟨_,_,_,d,e⟩:=hb.p x hx
  exact⟨a,d,e,by omega,by omega⟩
 ·obtain⟨a,b,c,d⟩:=hl.r x hx
  have Tq:wf qf x:=hw.2.2.2.2.1 x hx
  exact⟨a,b,o5 c (nt _ Tq.2.2.2.1 (by omega)),o5 d (nt _ Tq.2.2.2.2.1 (by omega))⟩
 ·obtain⟨a,b,c⟩:=hl.c x hx
  have Tq:wf zX x:=hw.2.2.2.2.2.1 x hx
  exact⟨a,o5 b (nt _ Tq.2.2.2.1 (by omega)),o5 c (nt _ Tq.2.2.2.2.1 (by omega))⟩
def Us(x:Switch):Bool := !zT x.1
def lU(x:Param):Bool := !zT x.1||(!eV x.2.1||jo x.2.1)
def ir(s:zf):Bool:=zr s []||zT s
def Uu(x:xm):Bool := !zT x.1 || !ir x.2.1
def tK(n at_:Int)(x:Field):Bool:=decide (x.2.1<at_)||(decide (n<=x.2.1)||(!zT x.1||(decide (x.2.2.2.1<(0:Int))||decide ((9:Int)<x.2.2.2.1))))
def XC(n at_:Int)(x:Check):Bool:=decide (x.2.1<at_)||(decide (n<=x.2.1)||(!zT x.1||(decide (x.2.2.1<(0:Int))||(decide ((2:Int)<x.2.2.1)||(!wK 0 x.2.2.2.1 || !wK 0 x.2.2.2.2.1)))))
def rV(x:xe):Bool := !zT x.1||(!ir x.2.2.1||(decide (x.2.1<(0:Int))||(decide ((3:Int)<x.2.1)||(!wK 0 x.2.2.2.1 || !wK 0 x.2.2.2.2.1))))
def dQ{α:Type}(bad:Int->α->Bool)(nx:α->Int):Int->List α->Bool
 | _,[]=>true
 | at_,x::r => !bad at_ x&&dQ bad nx (nx x) r
theorem kU{α:Type}(bad:Int->α->Bool)(nx:α->Int)(at_:Int)(x:α)(r:List α):dQ bad nx at_ (x::r)=(!bad at_ x&&dQ bad nx (nx x) r):=rfl
def a1(f:Form):Bool := !f.1.any Us
def a2(f:Form):Bool := !f.2.1.any lU
def a3(f:Form):Bool := !f.2.2.1.any Uu
def a4(f:Form):Bool:=dQ (tK (f.2.2.1.length:Int)) (λx=>x.2.1) 0 f.2.2.2.1
def a5(f:Form):Bool:=dQ (XC (f.2.2.1.length:Int)) (λx=>x.2.1) 0 f.2.2.2.2.2.1
def a6(f:Form):Bool := !f.2.2.2.2.1.any rV
theorem Z4{α:Type}(l:List α)(d:α)(bad:α->Bool){r:Int->T (Int⊕(Unit⊕Bool))}
  (step:∀ (k:Nat) (x:α),k<l.length->nth l (k:Int) d=x->x∈l->(r (k:Int)).run=some (if bad x=true then .inr (.inr false)else .inl ((k+1:Nat):Int)))
  (done:(r (l.length:Int)).run=some (.inr (.inl ()))):(T.loop r 0).run=some (if l.any bad=true then .inr false else .inl ()):=by
 refine T.nW (r:=r) l d (λ(_:Unit) i=>i) (λ_ _=>True) (λxs _=>if xs.any bad=true then .inr false else .inl ()) (λk b x xs hk hx hm _ _ => ?_) (λb _ => ?_) (b:=()) trivial
 ·rw[step k x hk hx hm,List.any_cons]
  cases bad x with
  | true=>exact .inr rfl
  | false=>exact .inl ⟨(),rfl,trivial,rfl⟩
 ·exact done
theorem oi{α:Type}(l:List α)(d:α)(bad:Int->α->Bool)(nx:α->Int){r:Int×Int->T ((Int×Int)⊕(Unit⊕Bool))}
  (hn:∀ at_ x,0<=at_->bad at_ x=false->0<=nx x)
  (step:∀ (k:Nat) (at_:Int) (x:α),k<l.length->nth l (k:Int) d=x->x∈l->0<=at_->(r (at_,(k:Int))).run=some (if bad at_ x=true then .inr (.inr false)else .inl (nx x,((k+1:Nat):Int))))
  (done:∀ at_,(r (at_,(l.length:Int))).run=some (.inr (.inl ()))):(T.loop r (0,0)).run=some (if dQ bad nx 0 l=true then .inl ()else .inr false):=by
 refine T.nW (r:=r) l d (λ(b:Int) i=>(b,i)) (λ_ b=>0<=b) (λxs b=>if dQ bad nx b xs=true then .inl ()else .inr false) (λk b x xs hk hx hm _ h0 => ?_) (λb _ => ?_) (b:=0) (Int.le_refl 0)
 ·rw[step k b x hk hx hm h0]
  rw[kU]
  cases h:bad b x with
  | true=>exact .inr rfl
  | false=>exact .inl ⟨nx x,rfl,hn b x h0 h,rfl⟩
 ·exact done b
theorem ZM{α:Type}{bad:Int->α->Bool}{nx:α->Int}:∀ {l:List α} {at_:Int},dQ bad nx at_ l=true->∀ x∈l,∃ b,bad b x=false
 | [],_,_,x,hx=>by cases hx
 | y::r,at_,h,x,hx=>by
  unfold dQ at h
  rw[Bool.and_eq_true,Bool.not_eq_true']at h
  rcases List.mem_cons.1 hx with rfl | hx
  ·exact⟨at_,h.1⟩
  ·exact ZM h.2 x hx
theorem LB{α:Type}{x:α}{b c:Bool}{t:T (Bool×α)}(h:t.run=some (c,x)):(T.ite b (.ret (true,x)) t).run=some (b||c,x):=by cases b; exact h; rfl
theorem orB{b c:Bool}{t:T Bool}(h:t.run=some c):(T.ite b (.ret true) t).run=some (b||c):=by cases b; exact h; rfl
theorem n8{α:Type}{x:α}{m:T Bool}{b c:Bool}{t:T (Bool×α)}(hm:m.run=some b)(h:t.run=some (c,x)):(T.bind m λr=>T.ite (!r) (.ret (true,x)) t).run=some (!b||c,x):=by
 rw[z6 hm]; exact LB h
theorem QJ{m:T Bool}{b c:Bool}{t:T Bool}(hm:m.run=some b)(h:t.run=some c):(T.bind m λr=>T.ite (!r) (.ret true) t).run=some (!b||c):=by
 rw[z6 hm]; exact orB h
theorem z4C{α:Type}{x:α}{m:T Bool}{b:Bool}(hm:m.run=some b):(T.bind m λr=>.ret ((!r),x)).run=some (!b,x):=by
 rw[z6 hm]; rfl
theorem Ot{m:T Bool}{b:Bool}(hm:m.run=some b):(T.bind m λr=>.ret (!r)).run=some (!b):=by
 rw[z6 hm]; rfl
abbrev Ub(a b:Int):Prop:=a<=b
abbrev ilt(a b:Int):Prop:=a<b
abbrev FT:=List Switch×List Param×List Field×List xe×List Check×Unit
def DZ(x:Switch):zf:=[115,119,105,116,99,104,32]++x.1++(bif x.2.1 then[32,111,110,10]else[32,111,102,102,10])
def DA(x:Param):zf:=[112,97,114,97,109,32]++x.1++[32]++cZ (norm x.2.1)++[10]
def whS(s:zf):zf:=if s=[]then[]else[32,119,104,101,110,32]++s
def PC(x:xm):zf:=[112,97,103,101,32]++x.1++whS x.2.1++[10]
def fhS(x:Field):zf:=bif x.2.2.1 then[102,105,101,108,100,32]++x.1++[32,109,117,115,116]else[102,105,101,108,100,32]++x.1
def fdS(x:Field):zf:=if(0:Int)<x.2.2.2.1 then fhS x++([32,115,99,97,108,101,32]++fj x.2.2.2.1)++[10]else fhS x++[10]
def Ma(l:Expr)(sign:zf)(r:Expr):zf:=[32,58,32]++prE l++[32]++sign++[32]++prE r++[10]
def gJ(n:Int):zf:=if n=1 then[60]else if n=2 then[60,61]else[61]
def CR(n:Int):zf:=if n=0 then[114,101,113,117,105,114,101,100]else if n=1 then[115,116,114,111,110,103]else if n=2 then[109,101,100,105,117,109]else[119,101,97,107]
def ckS(x:Check):zf:=[99,104,101,99,107,32]++x.1++Ma x.2.2.2.1 (gJ x.2.2.1) x.2.2.2.2.1
def B5(x:xe):zf:=[114,117,108,101,32]++CR x.2.1++[32]++x.1++whS x.2.2.1++Ma x.2.2.2.1 [61] x.2.2.2.2.1
def Bp(i:Int)(x:Field):zf:=if(x.2.1==i)=true then fdS x else[]
def LW(i:Int)(x:Check):zf:=if(x.2.1==i)=true then ckS x else[]
def Bt(f:Form)(i:Nat):zf:=PC (nth f.2.2.1 (i:Int) (zj zV))++f.2.2.2.1.flatMap (Bp i)++f.2.2.2.2.2.1.flatMap (LW i)
def frS(f:Form):zf:=f.1.flatMap DZ++f.2.1.flatMap DA++(List.range f.2.2.1.length).flatMap (Bt f)++f.2.2.2.2.1.flatMap B5
structure EW(f:Form):Prop extends FS f where
 d2:∀ x∈f.2.2.2.1,Ub 0 x.2.2.2.1/\Ub x.2.2.2.1 9
 c2:∀ x∈f.2.2.2.2.2.1,Ub 0 x.2.2.1/\Ub x.2.2.1 2/\wK 0 x.2.2.2.1=true/\wK 0 x.2.2.2.2.1=true
 r2:∀ x∈f.2.2.2.2.1,Ub 0 x.2.1/\Ub x.2.1 3/\wK 0 x.2.2.2.1=true/\wK 0 x.2.2.2.2.1=true
theorem YI{f:Form}(h:FS f)(h4:a4 f=true)(h5:a5 f=true)(h6:a6 f=true):EW f:=by
 refine { toFS:=h,d2:=λx hx => ?_,c2:=λx hx => ?_,r2:=λx hx => ?_ }
 ·obtain⟨b,hb⟩:=ZM h4 x hx
  unfold tK at hb
  simp only[Bool.or_eq_false_iff,decide_eq_false_iff_not,Bool.not_eq_false']at hb
  obtain⟨_,_,_,q1,q2⟩:=hb
  exact⟨Int.not_lt.1 q1,Int.not_lt.1 q2⟩
 ·obtain⟨b,hb⟩:=ZM h5 x hx
  unfold XC at hb
  simp only[Bool.or_eq_false_iff,decide_eq_false_iff_not,Bool.not_eq_false']at hb
  obtain⟨_,_,_,q1,q2,q3,q4⟩:=hb
  exact⟨Int.not_lt.1 q1,Int.not_lt.1 q2,q3,q4⟩
 ·unfold a6 at h6
  rw[Bool.not_eq_true',List.any_eq_false]at h6
  have hb:rV x=false:=by simpa using h6 x hx
  unfold rV at hb
  simp only[Bool.or_eq_false_iff,decide_eq_false_iff_not,Bool.not_eq_false']at hb
  obtain⟨_,_,q1,q2,q3,q4⟩:=hb
  exact⟨Int.not_lt.1 q1,Int.not_lt.1 q2,q3,q4⟩
theorem nK(n:Int):(gJ n).length<=2:=by unfold gJ; split; decide; split<;>decide
theorem tZ(n:Int):(CR n).length<=8:=by unfold CR; split; decide; split; decide; split<;>decide
theorem eL(s:zf):(whS s).length<=s.length+6:=by unfold whS; split<;>simp
theorem Xy(x:Switch)(h:x.1.length<=600):(DZ x).length<=300000000:=by
 unfold DZ
 cases x.2.1<;>simp<;>omega
theorem Xp(x:Param)(h:x.1.length<=600)(hr:wG 100 x.2.1):(DA x).length<=300000000:=by
 have:=s7 x.2.1 ⟨hr.1,hr.2.1,by have:=hr.2.2.1; omega,by have:=hr.2.2.2; omega⟩
 unfold DA
 simp only[List.length_append,List.length_cons,List.length_nil]
 omega
theorem ER(x:xm)(h:x.1.length<=600)(h2:x.2.1.length<=600):(PC x).length<=300000000:=by
 have:=eL x.2.1
 unfold PC
 simp only[List.length_append,List.length_cons,List.length_nil]
 omega
theorem KU(x:Field):(fhS x).length<=x.1.length+11:=by
 unfold fhS
 cases x.2.2.1<;>simp
theorem Kk(x:Field)(h:x.1.length<=600)(h1:Ub 0 x.2.2.2.1)(h2:Ub x.2.2.2.1 9):(fdS x).length<=300000000:=by
 have:=GG x.2.2.2.1 ⟨by unfold Ub at *; omega,by unfold Ub at *; omega⟩
 have:=KU x
 unfold fdS
 split<;>simp only[List.length_append,List.length_cons,List.length_nil]<;>omega
theorem Xd{l r:Expr}(s:zf)(hs:s.length<=8)(h1:jm l)(h2:jm r)(o1:wK 0 l=true)(o2:wK 0 r=true):(Ma l s r).length<=297000000:=by
 have:=bw h1 o1
 have:=bw h2 o2
 unfold Ma
 simp only[List.length_append,List.length_cons,List.length_nil]
 omega
theorem Ic(x:Check)(h:x.1.length<=600)(h1:jm x.2.2.2.1)(h2:jm x.2.2.2.2.1)(o1:wK 0 x.2.2.2.1=true)(o2:wK 0 x.2.2.2.2.1=true):(ckS x).length<=300000000:=by
 have:=Xd (gJ x.2.2.1) (by have:=nK x.2.2.1; omega) h1 h2 o1 o2
 unfold ckS
 simp only[List.length_append,List.length_cons,List.length_nil]
 omega
theorem Xc(x:xe)(h:x.1.length<=600)(h':x.2.2.1.length<=600)(h1:jm x.2.2.2.1)(h2:jm x.2.2.2.2.1)(o1:wK 0 x.2.2.2.1=true)(o2:wK 0 x.2.2.2.2.1=true):(B5 x).length<=300000000:=by
 have:=Xd [61] (by decide) h1 h2 o1 o2
 have:=tZ x.2.1
 have:=eL x.2.2.1
 unfold B5
 simp only[List.length_append,List.length_cons,List.length_nil]
 omega
theorem sI{f:Form}(h:EW f)(i:Int):∀ x∈f.2.2.2.1,(Bp i x).length<=300000000:=λx hx=>by
 unfold Bp
 split
 ·exact Kk x (h.d x hx) (h.d2 x hx).1 (h.d2 x hx).2
 ·exact Nat.zero_le _
theorem Y7{f:Form}(h:EW f)(i:Int):∀ x∈f.2.2.2.2.2.1,(LW i x).length<=300000000:=λx hx=>by
 unfold LW
 obtain⟨q1,q2,q3⟩:=h.c x hx
 obtain⟨_,_,o1,o2⟩:=h.c2 x hx
 split
 ·exact Ic x q1 q2 q3 o1 o2
 ·exact Nat.zero_le _
theorem I3{f:Form}(h:EW f){i:Nat}(hi:i<f.2.2.1.length):(nth f.2.2.1 (i:Int) (zj zV)).1.length<=600/\(nth f.2.2.1 (i:Int) (zj zV)).2.1.length<=600 :=
 h.g _ (hZ (by omega) (by omega))
theorem Ye{f:Form}(h:EW f){i:Nat}(hi:i<f.2.2.1.length):(Bt f i).length<=181000000000:=by
 obtain⟨g1,g2⟩:=I3 h hi
 have h1:=ER _ g1 g2
 have h2:=uk (Bp i) f.2.2.2.1 300000000 (sI h i)
 have h3:=uk (LW i) f.2.2.2.2.2.1 300000000 (Y7 h i)
 have:=h.n
 unfold Bt
 simp only[List.length_append]
 omega
theorem fZ{α:Type}(l:List α)(d:α)(C B:Nat)(f:α->zf)(s:zf){r:zf×Int->T ((zf×Int)⊕zf)}
  (step:∀ (k:Nat) (b:zf) (x:α),k<l.length->nth l (k:Int) d=x->x∈l->b.length+C<=B->(r (b,(k:Int))).run=some (.inl (b++f x,((k+1:Nat):Int))))
  (done:∀ b,(r (b,(l.length:Int))).run=some (.inr b)) (hf:∀ x∈l,(f x).length<=C) (hB:s.length+l.length*C<=B):(T.loop r (s,0)).run=some (s++l.flatMap f):=by
 rw[<- JE]
 refine T.XT (r:=r) l d (λ(b:zf) i=>(b,i)) (λk b=>b.length<=s.length+k*C) (λb x=>b++f x) (λb=>b) (λk b x hk hx hm hI => ?_) (λb hI=>done b) (b:=s) (by omega)
 have h4:=Gc (c:=C) (show k+1<=l.length from hk)
 rw[Nat.add_mul,Nat.one_mul]at h4
 refine⟨step k b x hk hx hm (by omega),?_⟩
 have:=hf x hm
 rw[List.length_append,Nat.add_mul,Nat.one_mul]
 omega
theorem fW{α:Type}(l:List α)(d:α)(C B:Nat)(f:α->zf)(s:zf){r:Int×Unit×List Int->T ((Int×Unit×List Int)⊕(Unit×List Int))}
  (step:∀ (k:Nat) (b:zf) (x:α),k<l.length->nth l (k:Int) d=x->x∈l->b.length+C<=B->(r ((k:Int),(),bytesOf b)).run=some (.inl (((k+1:Nat):Int),(),bytesOf (b++f x))))
  (done:∀ b,(r ((l.length:Int),(),bytesOf b)).run=some (.inr ((),bytesOf b))) (hf:∀ x∈l,(f x).length<=C) (hB:s.length+l.length*C<=B):(T.loop r (0,(),bytesOf s)).run=some ((),bytesOf (s++l.flatMap f)):=by
 rw[<- JE]
 refine T.XT (r:=r) l d (λ(b:zf) i=>(i,(),bytesOf b)) (λk b=>b.length<=s.length+k*C) (λb x=>b++f x) (λb=>((),bytesOf b)) (λk b x hk hx hm hI => ?_) (λb hI=>done b) (b:=s) (by omega)
 have h4:=Gc (c:=C) (show k+1<=l.length from hk)
 rw[Nat.add_mul,Nat.one_mul]at h4
 refine⟨step k b x hk hx hm (by omega),?_⟩
 have:=hf x hm
 rw[List.length_append,Nat.add_mul,Nat.one_mul]
 omega
theorem Ut(l:List Switch)(g:Switch->T Bool)(p:Switch->Bool)(hg:∀ x∈l,(g x).run=some (p x))(hl:l.length<=1000000000):(qG l g).run=some (l.any p):=by
 have key:(ui l g (l.length:Int) 0).run=some (if PL.sj p 0 l = -1 then .inl ()else .inr (PL.sj p 0 l)):=by
  refine PL.tX l (zj zJ) p (λi h hi hp => ?_) (λi h hi hp => ?_) (λi hi => ?_)
  ·have hm:=hZ (d:=zj zJ) h hi
   simp(disch:=omega) [qI,hi,hg _ hm,hp]
  ·have hm:=hZ (d:=zj zJ) h hi
   simp(disch:=omega) [qI,hi,hg _ hm,hp]
  ·simp[qI,hi]
 have hx:(xP l g).run=some (PL.sj p 0 l):=by
  unfold xP
  rw[z6 key]
  split<;>rename_i h<;>simp[h]
 unfold qG
 rw[z6 hx,z7,PL.Xv _ _ _ (Int.le_refl 0)]
theorem Kj(l:List Param)(g:Param->T Bool)(p:Param->Bool)(hg:∀ x∈l,(g x).run=some (p x))(hl:l.length<=1000000000):(qO l g).run=some (l.any p):=by
 have key:(uA l g (l.length:Int) 0).run=some (if PL.sj p 0 l = -1 then .inl ()else .inr (PL.sj p 0 l)):=by
  refine PL.tX l (zj zP) p (λi h hi hp => ?_) (λi h hi hp => ?_) (λi hi => ?_)
  ·have hm:=hZ (d:=zj zP) h hi
   simp(disch:=omega) [qQ,hi,hg _ hm,hp]
  ·have hm:=hZ (d:=zj zP) h hi
   simp(disch:=omega) [qQ,hi,hg _ hm,hp]
  ·simp[qQ,hi]
 have hx:(xX l g).run=some (PL.sj p 0 l):=by
  unfold xX
  rw[z6 key]
  split<;>rename_i h<;>simp[h]
 unfold qO
 rw[z6 hx,z7,PL.Xv _ _ _ (Int.le_refl 0)]
theorem HK(l:List xm)(g:xm->T Bool)(p:xm->Bool)(hg:∀ x∈l,(g x).run=some (p x))(hl:l.length<=1000000000):(xa l g).run=some (l.any p):=by
 have key:(uZ l g (l.length:Int) 0).run=some (if PL.sj p 0 l = -1 then .inl ()else .inr (PL.sj p 0 l)):=by
  refine PL.tX l (zj zV) p (λi h hi hp => ?_) (λi h hi hp => ?_) (λi hi => ?_)
  ·have hm:=hZ (d:=zj zV) h hi
   simp(disch:=omega) [qY,hi,hg _ hm,hp]
  ·have hm:=hZ (d:=zj zV) h hi
   simp(disch:=omega) [qY,hi,hg _ hm,hp]
  ·simp[qY,hi]
 have hx:(wk l g).run=some (PL.sj p 0 l):=by
  unfold wk
  rw[z6 key]
  split<;>rename_i h<;>simp[h]
 unfold xa
 rw[z6 hx,z7,PL.Xv _ _ _ (Int.le_refl 0)]
theorem G8(l:List xe)(g:xe->T Bool)(p:xe->Bool)(hg:∀ x∈l,(g x).run=some (p x))(hl:l.length<=1000000000):(qZ l g).run=some (l.any p):=by
 have key:(j5 l g (l.length:Int) 0).run=some (if PL.sj p 0 l = -1 then .inl ()else .inr (PL.sj p 0 l)):=by
  refine PL.tX l (zj qf) p (λi h hi hp => ?_) (λi h hi hp => ?_) (λi hi => ?_)
  ·have hm:=hZ (d:=zj qf) h hi
   simp(disch:=omega) [xb,hi,hg _ hm,hp]
  ·have hm:=hZ (d:=zj qf) h hi
   simp(disch:=omega) [xb,hi,hg _ hm,hp]
  ·simp[xb,hi]
 have hx:(wo l g).run=some (PL.sj p 0 l):=by
  unfold wo
  rw[z6 key]
  split<;>rename_i h<;>simp[h]
 unfold qZ
 rw[z6 hx,z7,PL.Xv _ _ _ (Int.le_refl 0)]
theorem WK(s:zf):(jE s).run=some (ir s):=by
 unfold jE ir
 cases zr s []with
 | true=>rfl
 | false=>rw[zg,z6 (xB s)]; rfl
theorem Lq(f:Form)(h:FS f):(eF f).run=some (a1 f&&(a2 f&&a3 f)):=by
 have hn:=h.n
 have h1:(qG f.1 (λz0=>ve z0)).run=some (f.1.any Us):=Ut f.1 _ Us (λx _=>by
  unfold ve Us
  exact Ot (xB x.1)) (by omega)
 have h2:(qO f.2.1 (λz0=>vp z0)).run=some (f.2.1.any lU):=Kj f.2.1 _ lU (λx hx=>by
  have hr:=(h.p x hx).2
  have hr:wG 100000000 x.2.1:=⟨hr.1,hr.2.1,by have:=hr.2.2.1; omega,by have:=hr.2.2.2; omega⟩
  unfold vp lU
  exact QJ (xB x.1) (QJ (rR _ hr) (by rw[z6 (pA _ hr)]; rfl))) (by omega)
 have h3:(xa f.2.2.1 (λz0=>vg z0)).run=some (f.2.2.1.any Uu):=HK f.2.2.1 _ Uu (λx hx=>by
  unfold vg Uu
  exact QJ (xB x.1) (Ot (WK _))) (by omega)
 unfold eF a1 a2 a3
 rw[z6 h1]
 cases f.1.any Us with
 | true=>rfl
 | false =>
  rw[za (by rfl),z6 h2]
  cases f.2.1.any lU with
  | true=>rfl
  | false=>rw[za (by rfl),z6 h3,z7]; rfl
theorem V9(pg at_ n:Int)(h:0<=at_):(yU pg at_ n).run=some (!(decide (pg<at_)||decide (n<=pg))):=by
 unfold yU
 have e1:lJ at_ 0=at_:=by unfold lJ; split<;>omega
 rw[e1,z7]
 by_cases q1:pg<at_<;>by_cases q2:n<=pg
 ·rw[decide_eq_true q1,decide_eq_false (by omega:¬ at_<=pg)]; rfl
 ·rw[decide_eq_true q1,decide_eq_false (by omega:¬ at_<=pg)]; rfl
 ·rw[decide_eq_true q2,decide_eq_false (by omega:¬ pg<n),Bool.and_false,Bool.or_true]; rfl
 ·rw[decide_eq_false q1,decide_eq_false q2,decide_eq_true (by omega:at_<=pg),decide_eq_true (by omega:pg<n)]; rfl
theorem ZH(f:Form)(h:FS f):(bY f).run=some (a4 f):=by
 have hn:=h.n
 have key:(lS f f.2.2.2.1 (f.2.2.2.1.length:Int) (0,0)).run=some (if a4 f=true then .inl ()else .inr false):=by
  refine oi (r:=uy f f.2.2.2.1 (f.2.2.2.1.length:Int)) f.2.2.2.1 (zj zL) (tK (f.2.2.1.length:Int)) (λx=>x.2.1) (λat_ x h0 hb => ?_) (λk at_ x hk hx hm h0 => ?_) (λat_ => ?_)
  ·unfold tK at hb
   rw[Bool.or_eq_false_iff,decide_eq_false_iff_not]at hb
   exact Int.le_trans h0 (Int.not_lt.1 hb.1)
  ·unfold uy
   dsimp only
   rw[za (kl hk),zb (qp hk),hx]
   refine(z6 (a:=(tK (f.2.2.1.length:Int) at_ x,x)) ?_ _).trans ?_
   ·refine(n8 (xB x.1) (n8 (V9 x.2.1 at_ _ h0) (LB (z7 _)))).trans ?_
    unfold tK
    cases zT x.1<;>cases decide (x.2.1<at_)<;>cases decide ((f.2.2.1.length:Int)<=x.2.1)<;>cases decide (x.2.2.2.1<(0:Int))<;>cases decide ((9:Int)<x.2.2.2.1)<;>rfl
   ·dsimp only
    cases tK (f.2.2.1.length:Int) at_ x with
    | true=>rfl
    | false=>rw[zg,z7,oy k _ hk (by omega)]; rfl
  ·unfold uy
   dsimp only
   rw[z8 (gS _),z7]
 unfold bY
 rw[z6 key]
 cases a4 f<;>rfl
theorem N8(x:xe)(h1:jm x.2.2.2.1)(h2:jm x.2.2.2.2.1):(xU x).run=some (rV x):=by
 unfold xU
 have e:(T.bind (xC) λr2=>T.ite (decide ((Nat.cast (List.length r2):Int)<=x.2.1)) (.ret true) (T.bind (jE x.2.2.1) λr3=>T.ite (!r3) (.ret true) (T.bind (vZ x.2.2.2.1) λr4=>T.ite (!r4) (.ret true) (T.bind (vZ x.2.2.2.2.1) λr5=>.ret (!r5))))).run
   = some (decide ((4:Int)<=x.2.1)||(!ir x.2.2.1||(!wK 0 x.2.2.2.1 || !wK 0 x.2.2.2.2.1))):=by
  unfold xC
  exact orB (QJ (WK _) (QJ (Zc h1) (Ot (Zc h2))))
 refine(QJ (xB x.1) (orB e)).trans ?_
 unfold rV
 rw[show decide ((4:Int)<=x.2.1)=decide ((3:Int)<x.2.1)from rfl]
 cases zT x.1<;>cases ir x.2.2.1<;>cases decide ((3:Int)<x.2.1)<;>cases decide (x.2.1<(0:Int))<;>rfl
theorem Zv(f:Form)(h:FS f):(bV f).run=some (a5 f&&a6 f):=by
 have hn:=h.n
 have key:(lV f f.2.2.2.2.2.1 (f.2.2.2.2.2.1.length:Int) (0,0)).run=some (if a5 f=true then .inl ()else .inr false):=by
  refine oi (r:=uH f f.2.2.2.2.2.1 (f.2.2.2.2.2.1.length:Int)) f.2.2.2.2.2.1 (zj zX) (XC (f.2.2.1.length:Int)) (λx=>x.2.1) (λat_ x h0 hb => ?_) (λk at_ x hk hx hm h0 => ?_) (λat_ => ?_)
  ·unfold XC at hb
   rw[Bool.or_eq_false_iff,decide_eq_false_iff_not]at hb
   exact Int.le_trans h0 (Int.not_lt.1 hb.1)
  ·obtain⟨_,x1,x2⟩:=h.c x hm
   unfold uH
   dsimp only
   rw[za (kl hk),zb (qp hk),hx]
   simp only[dB]
   refine(z6 (a:=(XC (f.2.2.1.length:Int) at_ x,x)) ?_ _).trans ?_
   ·have e:(T.bind (wy) λr2=>T.ite (decide ((Nat.cast (List.length r2):Int)<=x.2.2.1)) (.ret (true,x)) (T.bind (vZ x.2.2.2.1) λr3=>T.ite (!r3) (.ret (true,x)) (T.bind (vZ x.2.2.2.2.1) λr4=>.ret ((!r4),x)))).run
      = some (decide ((3:Int)<=x.2.2.1)||(!wK 0 x.2.2.2.1 || !wK 0 x.2.2.2.2.1),x):=by
     unfold wy
     exact LB (n8 (Zc x1) (z4C (Zc x2)))
    refine(n8 (xB x.1) (n8 (V9 x.2.1 at_ _ h0) (LB e))).trans ?_
    unfold XC
    rw[show decide ((3:Int)<=x.2.2.1)=decide ((2:Int)<x.2.2.1)from rfl]
    cases zT x.1<;>cases decide (x.2.1<at_)<;>cases decide ((f.2.2.1.length:Int)<=x.2.1)<;>cases decide (x.2.2.1<(0:Int))<;>cases decide ((2:Int)<x.2.2.1)<;>rfl
   ·dsimp only
    cases XC (f.2.2.1.length:Int) at_ x with
    | true=>rfl
    | false=>rw[zg,z7,oy k _ hk (by omega)]; rfl
  ·unfold uH
   dsimp only
   rw[z8 (gS _),z7]
 have h3:(qZ f.2.2.2.2.1 (λz0=>xU z0)).run=some (f.2.2.2.2.1.any rV):=G8 f.2.2.2.2.1 _ rV (λx hx=>by
  obtain⟨_,_,x1,x2⟩:=h.r x hx
  exact N8 x x1 x2) (by omega)
 unfold bV
 rw[z6 key]
 cases a5 f with
 | false=>rfl
 | true =>
  rw[if_pos rfl,Sum.elim_inl,z6 h3,z7]
  rfl
theorem XM(s:zf)(h:s.length<=600):(cU s).run=some (whS s):=by
 unfold cU whS
 cases s with
 | nil=>rfl
 | cons b r=>rw[z8 (by rfl),zo _ (by simp only[List.length_cons,List.length_nil]at *; omega),z7,if_neg (by simp)]; rfl
theorem IW(x:Field)(h:x.1.length<=600)(h1:Ub 0 x.2.2.2.1)(h2:Ub x.2.2.2.1 9):(dV x).run=some (fdS x):=by
 have hi:=Mq x.2.2.2.1 ⟨by unfold Ub at *; omega,by unfold Ub at *; omega⟩
 have hl:=GG x.2.2.2.1 ⟨by unfold Ub at *; omega,by unfold Ub at *; omega⟩
 obtain⟨nm,pg,mu,sc,u⟩:=x
 have h:nm.length<=600:=h
 dsimp only at hi hl
 unfold dV fdS
 dsimp only
 have e:(bif mu then(cat (cat ([102,105,101,108,100,32]:zf) nm) ([32,109,117,115,116]:zf))else(cat ([102,105,101,108,100,32]:zf) nm))=fhS (nm,pg,mu,sc,u):=rfl
 have hf:(fhS (nm,pg,mu,sc,u)).length<=nm.length+11:=KU _
 rw[zo _ (by simp only[List.length_cons,List.length_nil]; omega),zb (λ_=>by simp only[zQ,List.length_cons,List.length_nil]; omega),e]
 by_cases hs:ilt 0 sc
 ·rw[za (decide_eq_true hs),z6 hi,zo _ (by simp only[List.length_cons,List.length_nil]; omega),zo _ (by simp only[zQ,List.length_cons,List.length_nil]; omega),zo _ (by simp only[zQ,List.length_cons,List.length_nil]; omega),z7,if_pos hs]
  rfl
 ·rw[z8 (decide_eq_false hs),zo _ (by simp only[List.length_cons,List.length_nil]; omega),z7,if_neg hs]
  rfl
theorem UT(l r:Expr)(s:zf)(hs:s.length<=8)(h1:jm l)(h2:jm r)(o1:wK 0 l=true)(o2:wK 0 r=true):(bm l s r).run=some (Ma l s r):=by
 have l1:=bw h1 o1
 have l2:=bw h2 o2
 unfold bm
 rw[z6 (Fa h1 o1)]
 rw[zo _ (by simp only[List.length_cons,List.length_nil]; omega),zo _ (by simp only[zQ,List.length_cons,List.length_nil]; omega),zo _ (by simp only[zQ,List.length_cons,List.length_nil]; omega),zo _ (by simp only[zQ,List.length_cons,List.length_nil]; omega)]
 rw[z6 (Fa h2 o2)]
 rw[zo _ (by simp only[zQ,List.length_cons,List.length_nil]; omega),zo _ (by simp only[zQ,List.length_cons,List.length_nil]; omega),z7]
 rfl
theorem SI(n:Int)(h:0<=n)(h2:n<=2):nth ([([61]:zf),([60]:zf),([60,61]:zf)]:List zf) n (zj .str)=gJ n:=by
 have:n=0\/n=1\/n=2:=by omega
 rcases this with rfl | rfl | rfl<;>rfl
theorem z1e(n:Int)(h:0<=n)(h2:n<=3):nth ([([114,101,113,117,105,114,101,100]:zf),([115,116,114,111,110,103]:zf),([109,101,100,105,117,109]:zf),([119,101,97,107]:zf)]:List zf) n (zj .str)=CR n:=by
 have:n=0\/n=1\/n=2\/n=3:=by omega
 rcases this with rfl | rfl | rfl | rfl<;>rfl
theorem RA(f:Form)(h:EW f)(i:Nat)(hi:i<f.2.2.1.length)(b:zf)(hb:b.length<=110000000000000):(c6 f (i:Int) () (bytesOf b)).run=some ((),bytesOf (b++Bt f i)):=by
 have hn:=h.n
 obtain⟨g1,g2⟩:=I3 h hi
 have hp:=ER _ g1 g2
 have hw:=eL (nth f.2.2.1 (i:Int) (zj zV)).2.1
 have k1:∀ s:zf,s.length<=115000000000000->(ma (i:Int) f f.2.2.2.1 (f.2.2.2.1.length:Int) (0,(),bytesOf s)).run=some ((),bytesOf (s++f.2.2.2.1.flatMap (Bp i))):=λs hs=>by
  refine fW (r:=uz (i:Int) f f.2.2.2.1 (f.2.2.2.1.length:Int)) f.2.2.2.1 (zj zL) 300000000 120000000000000 (Bp i) s (λk b x hk hx hm hb => ?_) (λb => ?_) (sI h i) (by omega)
  ·unfold uz Bp
   dsimp only
   rw[za (kl hk),zb (qp hk),hx]
   cases hc:x.2.1==(i:Int)with
   | true =>
    have fl:=Kk x (h.d x hm) (h.d2 x hm).1 (h.d2 x hm).2
    rw[zi,z6 (IW x (h.d x hm) (h.d2 x hm).1 (h.d2 x hm).2),zH _ rfl rfl rfl,T.zh,z6 (vG (fdS x) b (by omega))]
    dsimp only
    rw[zH _ rfl rfl rfl,T.zh,z7,oy k _ hk (by omega),if_pos rfl]
   | false =>
    rw[zg,zH _ rfl rfl rfl,T.zh,z7,oy k _ hk (by omega),if_neg (by decide),List.append_nil]
  ·unfold uz
   dsimp only
   rw[z8 (gS _),zH _ rfl rfl rfl,T.zh,z7]
 have k2:∀ s:zf,s.length<=120000000000000->(lT (i:Int) f.2.2.2.2.2.1 (f.2.2.2.2.2.1.length:Int) (0,(),bytesOf s)).run=some ((),bytesOf (s++f.2.2.2.2.2.1.flatMap (LW i))):=λs hs=>by
  refine fW (r:=uC (i:Int) f.2.2.2.2.2.1 (f.2.2.2.2.2.1.length:Int)) f.2.2.2.2.2.1 (zj zX) 300000000 130000000000000 (LW i) s (λk b x hk hx hm hb => ?_) (λb => ?_) (Y7 h i) (by omega)
  ·unfold uC LW
   dsimp only
   rw[za (kl hk),zb (qp hk),hx]
   cases hc:x.2.1==(i:Int)with
   | true =>
    obtain⟨q1,q2,q3⟩:=h.c x hm
    obtain⟨c1,c2,o1,o2⟩:=h.c2 x hm
    have cl:=Ic x q1 q2 q3 o1 o2
    have hs:=UT x.2.2.2.1 x.2.2.2.2.1 (gJ x.2.2.1) (by have:=nK x.2.2.1; omega) q2 q3 o1 o2
    have sl:=Xd (gJ x.2.2.1) (by have:=nK x.2.2.1; omega) q2 q3 o1 o2
    unfold wy
    rw[zi,zo _ (by simp only[List.length_cons,List.length_nil]; omega)]
    simp only[T.bind,dB]
    have c3:x.2.2.1<((3:Nat):Int):=Int.lt_of_le_of_lt c2 (by decide)
    rw[zb ⟨c1,c3⟩,SI _ c1 c2,z6 hs,zo _ (by simp only[zQ,List.length_cons,List.length_nil]; omega),zH _ rfl rfl rfl,zb rfl]
    have e:cat (cat ([99,104,101,99,107,32]:zf) x.1) (Ma x.2.2.2.1 (gJ x.2.2.1) x.2.2.2.2.1)=ckS x:=rfl
    rw[e,z6 (vG (ckS x) b (by omega))]
    dsimp only
    rw[zH _ rfl rfl rfl,zb rfl,z7,oy k _ hk (by omega),if_pos trivial]
   | false =>
    rw[zg,zH _ rfl rfl rfl,T.zh,z7,oy k _ hk (by omega),if_neg (by decide),List.append_nil]
  ·unfold uC
   dsimp only
   rw[z8 (gS _),zH _ rfl rfl rfl,T.zh,z7]
 have l2:=uk (Bp i) f.2.2.2.1 300000000 (sI h i)
 unfold c6
 rw[zb (qp hi),zo _ (by simp only[List.length_cons,List.length_nil]; omega),zb (qp hi),z6 (XM _ g2),zo _ (by simp only[zQ,List.length_cons,List.length_nil]; omega),zo _ (by simp only[zQ,List.length_cons,List.length_nil]; omega),zH _ rfl rfl rfl,T.zh]
 have e:cat (cat (cat ([112,97,103,101,32]:zf) (nth f.2.2.1 (i:Int) (zj zV)).1) (whS (nth f.2.2.1 (i:Int) (zj zV)).2.1)) ([10]:zf)=PC (nth f.2.2.1 (i:Int) (zj zV)):=rfl
 rw[e,z6 (vG _ b (by omega))]
 dsimp only
 rw[zH _ rfl rfl rfl,T.zh,z6 (k1 _ (by rw[List.length_append]; omega))]
 dsimp only
 rw[zH _ rfl rfl rfl,T.zh,z6 (k2 _ (by rw[List.length_append,List.length_append]; omega))]
 dsimp only
 rw[zH _ rfl rfl rfl,T.zh,z7]
 unfold Bt
 simp only[List.append_assoc]
theorem US(n k:Nat)(h:k<n):nth (List.range n) (k:Int) 0=k:=by
 rw[dq (by rw[List.length_range]; exact h),List.getElem_range]
theorem Hp{f:Form}(h:EW f):(f.1.flatMap DZ).length<=f.1.length*300000000:=uk DZ f.1 300000000 λx hx=>Xy x (h.s x hx)
theorem GF{f:Form}(h:EW f):(f.2.1.flatMap DA).length<=f.2.1.length*300000000:=uk DA f.2.1 300000000 λx hx=>Xp x (h.p x hx).1 (h.p x hx).2
theorem HA{f:Form}(h:EW f):((List.range f.2.2.1.length).flatMap (Bt f)).length<=f.2.2.1.length*181000000000:=by
 have:=uk (Bt f) (List.range f.2.2.1.length) 181000000000 (λx hx=>Ye h (List.mem_range.1 hx))
 rwa [List.length_range]at this
theorem Gb{f:Form}(h:EW f):(f.2.2.2.2.1.flatMap B5).length<=f.2.2.2.2.1.length*300000000:=uk B5 f.2.2.2.2.1 300000000 λx hx=>by
 obtain⟨q1,q2,q3,q4⟩:=h.r x hx
 obtain⟨_,_,o1,o2⟩:=h.r2 x hx
 exact Xc x q1 q2 q3 q4 o1 o2
theorem bS(f:Form)(h:EW f):(bB f).run=some (frS f):=by
 have hn:=h.n
 have m1:=Hp h
 have m2:=GF h
 have m3:=HA h
 have m4:=Gb h
 have k1:(mH f f.1 (f.1.length:Int) (0,(),bytesOf [])).run=some ((),bytesOf ([]++f.1.flatMap DZ)):=by
  refine fW (r:=jg f f.1 (f.1.length:Int)) f.1 (zj zJ) 300000000 110000000000000 DZ [] (λk b x hk hx hm hb => ?_) (λb => ?_) (λx hx=>Xy x (h.s x hx)) (by simp only[List.length_nil]; omega)
  ·have q:=h.s x hm
   have sl:=Xy x q
   have bl:(bif x.2.1 then([32,111,110,10]:zf)else[32,111,102,102,10]).length<=5:=by cases x.2.1<;>decide
   unfold jg
   dsimp only
   rw[za (kl hk),zb (qp hk),hx,zo _ (by simp only[List.length_cons,List.length_nil]; omega),zo _ (by simp only[zQ,List.length_cons,List.length_nil]; omega),zH _ rfl rfl rfl,T.zh]
   have e:cat (cat ([115,119,105,116,99,104,32]:zf) x.1) (bif x.2.1 then([32,111,110,10]:zf)else([32,111,102,102,10]:zf))=DZ x:=rfl
   rw[e,z6 (vG (DZ x) b (by omega))]
   dsimp only
   rw[zH _ rfl rfl rfl,T.zh,z7,oy k _ hk (by omega)]
  ·unfold jg
   dsimp only
   rw[z8 (gS _),zH _ rfl rfl rfl,T.zh,z7]
 have k2:∀ s:zf,s.length<=190000000000->(nn f f.2.1 (f.2.1.length:Int) (0,(),bytesOf s)).run=some ((),bytesOf (s++f.2.1.flatMap DA)):=λs hs=>by
  refine fW (r:=jr f f.2.1 (f.2.1.length:Int)) f.2.1 (zj zP) 300000000 110000000000000 DA s (λk b x hk hx hm hb => ?_) (λb => ?_) (λx hx=>Xp x (h.p x hx).1 (h.p x hx).2) (by omega)
  ·obtain⟨q,hr⟩:=h.p x hm
   have hr:wG 1000 x.2.1:=⟨hr.1,hr.2.1,by have:=hr.2.2.1; omega,by have:=hr.2.2.2; omega⟩
   have sl:=Xp x q (h.p x hm).2
   have hd:(fH (x.2.1.1,(x.2.1.2.1,(x.2.1.2.2.1,())))).run=some (cZ (norm x.2.1)):=U0 x.2.1 hr
   have pl:=s7 _ hr
   unfold jr
   dsimp only
   rw[za (kl hk),zb (qp hk),hx,zo _ (by simp only[List.length_cons,List.length_nil]; omega),zo _ (by simp only[zQ,List.length_cons,List.length_nil]; omega),z6 hd,zo _ (by simp only[zQ,List.length_cons,List.length_nil]; omega),zo _ (by simp only[zQ,List.length_cons,List.length_nil]; omega),zH _ rfl rfl rfl,T.zh]
   have e:cat (cat (cat (cat ([112,97,114,97,109,32]:zf) x.1) ([32]:zf)) (cZ (norm x.2.1))) ([10]:zf)=DA x:=rfl
   rw[e,z6 (vG (DA x) b (by omega))]
   dsimp only
   rw[zH _ rfl rfl rfl,T.zh,z7,oy k _ hk (by omega)]
  ·unfold jr
   dsimp only
   rw[z8 (gS _),zH _ rfl rfl rfl,T.zh,z7]
 have k3:∀ s:zf,s.length<=380000000000->(nS f (f.2.2.1.length:Int) (0,(),bytesOf s)).run=some ((),bytesOf (s++(List.range f.2.2.1.length).flatMap (Bt f))):=λs hs=>by
  refine fW (r:=jk f (f.2.2.1.length:Int)) (List.range f.2.2.1.length) 0 181000000000 110000000000000 (Bt f) s (λk b x hk hx hm hb => ?_) (λb => ?_) (λx hx=>Ye h (List.mem_range.1 hx)) (by rw[List.length_range]; omega)
  ·rw[List.length_range]at hk
   rw[US _ _ hk]at hx
   subst hx
   unfold jk
   dsimp only
   rw[za (kl hk),zH _ rfl rfl rfl,T.zh,z6 (RA f h k hk b (by omega))]
   dsimp only
   rw[zH _ rfl rfl rfl,T.zh,z7,oy k _ hk (by omega)]
  ·unfold jk
   dsimp only
   rw[List.length_range,z8 (gS _),zH _ rfl rfl rfl,T.zh,z7]
 have k4:∀ s:zf,s.length<=109000000000000->(mQ f.2.2.2.2.1 (f.2.2.2.2.1.length:Int) (0,(),bytesOf s)).run=some ((),bytesOf (s++f.2.2.2.2.1.flatMap B5)):=λs hs=>by
  refine fW (r:=j9 f.2.2.2.2.1 (f.2.2.2.2.1.length:Int)) f.2.2.2.2.1 (zj qf) 300000000 110000000000000 B5 s (λk b x hk hx hm hb => ?_) (λb => ?_) (λx hx=>by
   obtain⟨q1,q2,q3,q4⟩:=h.r x hx
   obtain⟨_,_,o1,o2⟩:=h.r2 x hx
   exact Xc x q1 q2 q3 q4 o1 o2) (by omega)
  ·obtain⟨q1,q2,q3,q4⟩:=h.r x hm
   obtain⟨c1,c2,o1,o2⟩:=h.r2 x hm
   have rl:=Xc x q1 q2 q3 q4 o1 o2
   have hs:=UT x.2.2.2.1 x.2.2.2.2.1 [61] (by decide) q3 q4 o1 o2
   have sl:=Xd [61] (by decide) q3 q4 o1 o2
   have tl:=tZ x.2.1
   have wl:=eL x.2.2.1
   have c3:x.2.1<((4:Nat):Int):=Int.lt_of_le_of_lt c2 (by decide)
   unfold j9 xC
   dsimp only
   rw[za (kl hk),zb (qp hk),hx]
   simp only[T.bind,dB]
   rw[zb ⟨c1,c3⟩,z1e _ c1 c2,zo _ (by simp only[List.length_cons,List.length_nil]; omega),zo _ (by simp only[zQ,List.length_cons,List.length_nil]; omega),zo _ (by simp only[zQ,List.length_cons,List.length_nil]; omega),z6 (XM _ q2),
    zo _ (by simp only[zQ,List.length_cons,List.length_nil]; omega),z6 hs,zo _ (by simp only[zQ,List.length_cons,List.length_nil]; omega),zH _ rfl rfl rfl,zb rfl]
   have e:cat (cat (cat (cat (cat ([114,117,108,101,32]:zf) (CR x.2.1)) ([32]:zf)) x.1) (whS x.2.2.1)) (Ma x.2.2.2.1 [61] x.2.2.2.2.1)=B5 x:=rfl
   rw[e,z6 (vG (B5 x) b (by omega))]
   dsimp only
   rw[zH _ rfl rfl rfl,zb rfl,z7,oy k _ hk (by omega)]
  ·unfold j9
   dsimp only
   rw[z8 (gS _),zH _ rfl rfl rfl,T.zh,z7]
 unfold bB
 rw[zH _ rfl rfl rfl,T.zh]
 refine(z6 k1 _).trans ?_
 dsimp only
 rw[List.nil_append,zH _ rfl rfl rfl,T.zh,z6 (k2 _ (by omega))]
 dsimp only
 rw[zH _ rfl rfl rfl,T.zh,z6 (k3 _ (by rw[List.length_append]; omega))]
 dsimp only
 rw[zH _ rfl rfl rfl,T.zh,z6 (k4 _ (by simp only[List.length_append]; omega))]
 dsimp only
 rw[zH _ rfl rfl rfl,T.zh,z6 (Uc _ (by simp only[List.length_append]; omega))]
 rfl
def fG(f:Form):Bool:=a1 f&&(a2 f&&(a3 f&&(a4 f&&(a5 f&&(a6 f&&decide (((frS f).length:Int)<=16384))))))
theorem jQ(f:Form)(h:FS f):(kH f).run=some (fG f):=by
 unfold kH fG
 rw[z6 (Lq f h)]
 cases a1 f with
 | false=>rfl
 | true =>
 cases a2 f with
 | false=>rfl
 | true =>
 cases a3 f with
 | false=>rfl
 | true =>
 rw[za (by rfl),z6 (ZH f h)]
 cases h4:a4 f with
 | false=>rfl
 | true =>
 rw[za (by rfl),z6 (Zv f h)]
 cases h5:a5 f with
 | false=>rfl
 | true =>
 cases h6:a6 f with
 | false=>rfl
 | true =>
 rw[za (by rfl),z6 (bS f (YI h h4 h5 h6)),z7]
 rfl
theorem z4Y{r:Rat}(hr:wG 100 r):wG 100000000 r:=⟨hr.1,hr.2.1,by have:=hr.2.2.1; omega,by have:=hr.2.2.2; omega⟩
theorem z0F{r:Rat}(hr:wG 100 r):wG 1000 r:=⟨hr.1,hr.2.1,by have:=hr.2.2.1; omega,by have:=hr.2.2.2; omega⟩
theorem JH(s:zf):(cT s).run=some (ir s):=by
 unfold cT ir
 cases zr s []with
 | true=>rfl
 | false=>rw[zg,z6 (wV s)]; rfl
theorem WN(f:Form)(h:FS f):(lr f).run=some (a4 f&&a5 f):=by
 have hn:=h.n
 have k1:(pN f (0,0)).run=some (if a4 f=true then .inl ()else .inr false):=by
  refine oi (r:=kL f) f.2.2.2.1 (zj zL) (tK (f.2.2.1.length:Int)) (λx=>x.2.1) (λat_ x h0 hb => ?_) (λk at_ x hk hx hm h0 => ?_) (λat_ => ?_)
  ·unfold tK at hb
   rw[Bool.or_eq_false_iff,decide_eq_false_iff_not]at hb
   exact Int.le_trans h0 (Int.not_lt.1 hb.1)
  ·unfold kL
   dsimp only
   rw[za (kl hk),zb (qp hk),hx]
   refine(z6 (a:=(tK (f.2.2.1.length:Int) at_ x,x)) ?_ _).trans ?_
   ·exact LB (LB (n8 (wV x.1) (LB (z7 _))))
   ·dsimp only
    cases tK (f.2.2.1.length:Int) at_ x with
    | true=>rfl
    | false=>rw[zg,z7,oy k _ hk (by omega)]; rfl
  ·unfold kL
   dsimp only
   rw[z8 (gS _),z7]
 have k2:(pE f (0,0)).run=some (if a5 f=true then .inl ()else .inr false):=by
  refine oi (r:=kt f) f.2.2.2.2.2.1 (zj zX) (XC (f.2.2.1.length:Int)) (λx=>x.2.1) (λat_ x h0 hb => ?_) (λk at_ x hk hx hm h0 => ?_) (λat_ => ?_)
  ·unfold XC at hb
   rw[Bool.or_eq_false_iff,decide_eq_false_iff_not]at hb
   exact Int.le_trans h0 (Int.not_lt.1 hb.1)
  ·obtain⟨_,x1,x2⟩:=h.c x hm
   unfold kt
   dsimp only
   rw[za (kl hk),zb (qp hk),hx]
   simp only[dB]
   refine(z6 (a:=(XC (f.2.2.1.length:Int) at_ x,x)) ?_ _).trans ?_
   ·exact LB (LB (n8 (wV x.1) (LB (LB (n8 (mB x1) (z4C (mB x2)))))))
   ·dsimp only
    cases XC (f.2.2.1.length:Int) at_ x with
    | true=>rfl
    | false=>rw[zg,z7,oy k _ hk (by omega)]; rfl
  ·unfold kt
   dsimp only
   rw[z8 (gS _),z7]
 unfold lr
 rw[z6 k1]
 cases a4 f with
 | false=>rfl
 | true =>
  rw[if_pos rfl,Sum.elim_inl,z6 k2]
  cases a5 f<;>rfl
theorem pR(s:zf)(h:s.length<=600):(oT s).run=some (whS s):=XM s h
theorem VA(n:Int)(h1:1<=n)(h2:n<=9):qD [YE (zF (48+n))]=fj n:=by
 have:n=1\/n=2\/n=3\/n=4\/n=5\/n=6\/n=7\/n=8\/n=9:=by omega
 have e:∀ k:Nat,k<10->fj (k:Int)=[UInt8.ofNat (48+k)]:=λk hk=>by
  unfold fj
  rw[if_neg (by omega),Int.toNat_natCast,AM.WQ,dif_pos hk]
 rcases this with rfl | rfl | rfl | rfl | rfl | rfl | rfl | rfl | rfl
 ·exact(e 1 (by decide)).symm
 ·exact(e 2 (by decide)).symm
 ·exact(e 3 (by decide)).symm
 ·exact(e 4 (by decide)).symm
 ·exact(e 5 (by decide)).symm
 ·exact(e 6 (by decide)).symm
 ·exact(e 7 (by decide)).symm
 ·exact(e 8 (by decide)).symm
 ·exact(e 9 (by decide)).symm
theorem Vn(x:Field)(h:x.1.length<=600)(h1:Ub 0 x.2.2.2.1)(h2:Ub x.2.2.2.1 9):(iZ x).run=some (fdS x):=by
 have hi:=λh0:Ub 1 x.2.2.2.1=>VA x.2.2.2.1 h0 h2
 have hb:(qD ([(YE (zF ((48:Int)+x.2.2.2.1)))]:List Int)).length=1:=rfl
 have hz:¬ ilt 0 x.2.2.2.1->x.2.2.2.1=(0:Int):=λq=>Int.le_antisymm (Int.not_lt.1 q) h1
 have ho:ilt 0 x.2.2.2.1->Ub 1 x.2.2.2.1:=λq=>by unfold Ub ilt at *; omega
 have hf:(fhS x).length<=x.1.length+11:=KU _
 unfold iZ fdS
 have e:(bif x.2.2.1 then(cat (cat ([102,105,101,108,100,32]:zf) x.1) ([32,109,117,115,116]:zf))else(cat ([102,105,101,108,100,32]:zf) x.1))=fhS x:=rfl
 rw[zo _ (by simp only[List.length_cons,List.length_nil]; omega),zb (λ_=>by simp only[zQ,List.length_cons,List.length_nil]; omega),e]
 clear e
 by_cases hs:ilt 0 x.2.2.2.1
 ·have vy:(x.2.2.2.1 != (0:Int))=true:=by
   rw[bne_iff_ne]; intro q; unfold ilt at hs; rw[q]at hs; exact absurd hs (by decide)
  rw[za vy,zo _ (by simp only[List.length_cons,List.length_nil]; omega),zo _ (by simp only[zQ,List.length_cons,List.length_nil]; omega),zo _ (by simp only[zQ,List.length_cons,List.length_nil]; omega),z7,if_pos hs,hi (ho hs)]
  simp only[jA,List.append_assoc]
 ·have vy:(x.2.2.2.1 != (0:Int))=false:=by rw[hz hs]; rfl
  rw[z8 vy,zo _ (by simp only[List.length_cons,List.length_nil]; omega),z7,if_neg hs]
  rfl
theorem Tf(n:Int):(sY n).run=some (gJ n):=by
 unfold sY gJ
 by_cases h1:n=1
 ·rw[if_pos h1,za (by rw[h1]; rfl),z7]
 ·rw[if_neg h1,z8 (by simpa using h1)]
  by_cases h2:n=2
  ·rw[if_pos h2,za (by rw[h2]; rfl),z7]
  ·rw[if_neg h2,z8 (by simpa using h2),z7]
theorem KY(n:Int):(gZ n).run=some (CR n):=by
 unfold gZ CR
 by_cases h0:n=0
 ·rw[if_pos h0,za (by rw[h0]; rfl),z7]
 ·rw[if_neg h0,z8 (by simpa using h0)]
  by_cases h1:n=1
  ·rw[if_pos h1,za (by rw[h1]; rfl),z7]
  ·rw[if_neg h1,z8 (by simpa using h1)]
   by_cases h2:n=2
   ·rw[if_pos h2,za (by rw[h2]; rfl),z7]
   ·rw[if_neg h2,z8 (by simpa using h2),z7]
theorem VX(f:Form)(h:EW f):(nZ f).run=some (frS f):=by
 have hn:=h.n
 have m1:=Hp h
 have m2:=GF h
 have m3:=HA h
 have m4:=Gb h
 have k1:(ss f ([],0)).run=some ([]++f.1.flatMap DZ):=by
  refine fZ (r:=yP f) f.1 (zj zJ) 300000000 110000000000000 DZ [] (λk b x hk hx hm hb => ?_) (λb => ?_) (λx hx=>Xy x (h.s x hx)) (by simp only[List.length_nil]; omega)
  ·have q:=h.s x hm
   have bl:(bif x.2.1 then([32,111,110,10]:zf)else[32,111,102,102,10]).length<=5:=by cases x.2.1<;>decide
   unfold yP
   dsimp only
   rw[hx,za (kl hk),zb (qp hk),zo _ (by simp only[zQ,List.length_cons,List.length_nil]; omega),zb (qp hk),zo _ (by simp only[zQ,List.length_cons,List.length_nil]; omega),zo _ (by simp only[zQ,List.length_cons,List.length_nil]; omega),z7,oy k _ hk (by omega)]
   unfold DZ
   simp only[jA,List.append_assoc]
  ·unfold yP
   dsimp only
   rw[z8 (gS _),z7]
 have k2:∀ s:zf,s.length<=190000000000->(tr f (s,0)).run=some (s++f.2.1.flatMap DA):=λs hs=>by
  refine fZ (r:=yK f) f.2.1 (zj zP) 300000000 110000000000000 DA s (λk b x hk hx hm hb => ?_) (λb => ?_) (λx hx=>Xp x (h.p x hx).1 (h.p x hx).2) (by omega)
  ·obtain⟨q,hr⟩:=h.p x hm
   have hr:=z0F hr
   have pl:=s7 _ hr
   unfold yK
   dsimp only
   rw[hx,za (kl hk),zo _ (by simp only[zQ,List.length_cons,List.length_nil]; omega),zb (qp hk),zo _ (by simp only[zQ,List.length_cons,List.length_nil]; omega),zo _ (by simp only[zQ,List.length_cons,List.length_nil]; omega),zb (qp hk),z6 (WW _ hr),
    zo _ (by simp only[zQ,List.length_cons,List.length_nil]; omega),zo _ (by simp only[zQ,List.length_cons,List.length_nil]; omega),z7,oy k _ hk (by omega)]
   unfold DA
   simp only[jA,List.append_assoc]
  ·unfold yK
   dsimp only
   rw[z8 (gS _),z7]
 have j1:∀ (i:Nat) (s:zf),s.length<=115000000000000->(sZ f (i:Int) (s,0)).run=some (s++f.2.2.2.1.flatMap (Bp i)):=λi s hs=>by
  refine fZ (r:=gu f (i:Int)) f.2.2.2.1 (zj zL) 300000000 120000000000000 (Bp i) s (λk b x hk hx hm hb => ?_) (λb => ?_) (sI h i) (by omega)
  ·unfold gu Bp
   dsimp only
   rw[hx,za (kl hk),zb (qp hk)]
   cases hc:x.2.1==(i:Int)with
   | true =>
    have fl:=Kk x (h.d x hm) (h.d2 x hm).1 (h.d2 x hm).2
    rw[zi,zb (qp hk),z6 (Vn x (h.d x hm) (h.d2 x hm).1 (h.d2 x hm).2),zo _ (by omega),z7,oy k _ hk (by omega),if_pos rfl,jA]
   | false=>rw[zg,z7,oy k _ hk (by omega),if_neg (by decide),List.append_nil]
  ·unfold gu
   dsimp only
   rw[z8 (gS _),z7]
 have j2:∀ (i:Nat) (s:zf),s.length<=120000000000000->(sM f (i:Int) (s,0)).run=some (s++f.2.2.2.2.2.1.flatMap (LW i)):=λi s hs=>by
  refine fZ (r:=yC f (i:Int)) f.2.2.2.2.2.1 (zj zX) 300000000 130000000000000 (LW i) s (λk b x hk hx hm hb => ?_) (λb => ?_) (Y7 h i) (by omega)
  ·unfold yC LW
   dsimp only
   rw[hx,za (kl hk),zb (qp hk)]
   simp only[dB]
   cases hc:x.2.1==(i:Int)with
   | true =>
    obtain⟨q1,q2,q3⟩:=h.c x hm
    obtain⟨c1,c2,o1,o2⟩:=h.c2 x hm
    have p1:=bw q2 o1
    have p2:=bw q3 o2
    have cl:=nK x.2.2.1
    rw[zi,zo _ (by simp only[zQ,List.length_cons,List.length_nil]; omega),zo _ (by simp only[zQ,List.length_cons,List.length_nil]; omega),zo _ (by simp only[zQ,List.length_cons,List.length_nil]; omega),z6 (sF q2 o1),
     zo _ (by simp only[zQ,List.length_cons,List.length_nil]; omega),zo _ (by simp only[zQ,List.length_cons,List.length_nil]; omega),z6 (Tf _),zo _ (by simp only[zQ,List.length_cons,List.length_nil]; omega),zo _ (by simp only[zQ,List.length_cons,List.length_nil]; omega),
     z6 (sF q3 o2),zo _ (by simp only[zQ,List.length_cons,List.length_nil]; omega),zo _ (by simp only[zQ,List.length_cons,List.length_nil]; omega),z7,oy k _ hk (by omega),if_pos rfl]
    unfold ckS Ma
    simp only[jA,List.append_assoc]
   | false=>rw[zg,z7,oy k _ hk (by omega),if_neg (by decide),List.append_nil]
  ·unfold yC
   dsimp only
   rw[z8 (gS _),z7]
 have k3:∀ s:zf,s.length<=380000000000->(sy f (s,0)).run=some (s++(List.range f.2.2.1.length).flatMap (Bt f)):=λs hs=>by
  refine fZ (r:=gw f) (List.range f.2.2.1.length) 0 181000000000 110000000000000 (Bt f) s (λk b x hk hx hm hb => ?_) (λb => ?_) (λx hx=>Ye h (List.mem_range.1 hx)) (by rw[List.length_range]; omega)
  ·rw[List.length_range]at hk
   rw[US _ _ hk]at hx
   subst hx
   obtain⟨g1,g2⟩:=I3 h hk
   have hw:=eL (nth f.2.2.1 (k:Int) (zj zV)).2.1
   have fl:=uk (Bp k) f.2.2.2.1 300000000 (sI h k)
   unfold gw
   dsimp only
   rw[za (kl hk),zo _ (by simp only[zQ,List.length_cons,List.length_nil]; omega),zb (qp hk),zo _ (by simp only[zQ,List.length_cons,List.length_nil]; omega),zb (qp hk),z6 (pR _ g2),zo _ (by simp only[zQ,List.length_cons,List.length_nil]; omega),zo _ (by simp only[zQ,List.length_cons,List.length_nil]; omega),
    z6 (j1 k _ (by simp only[zQ,List.length_cons,List.length_nil]; omega)),z6 (j2 k _ (by simp only[List.length_append,zQ,List.length_cons,List.length_nil]; omega)),z7,oy k _ hk (by omega)]
   unfold Bt PC
   simp only[jA,List.append_assoc]
  ·unfold gw
   dsimp only
   rw[List.length_range,z8 (gS _),z7]
 have k4:∀ s:zf,s.length<=109000000000000->(sR f (s,0)).run=some (s++f.2.2.2.2.1.flatMap B5):=λs hs=>by
  refine fZ (r:=yY f) f.2.2.2.2.1 (zj qf) 300000000 110000000000000 B5 s (λk b x hk hx hm hb => ?_) (λb => ?_) (λx hx=>by
   obtain⟨q1,q2,q3,q4⟩:=h.r x hx
   obtain⟨_,_,o1,o2⟩:=h.r2 x hx
   exact Xc x q1 q2 q3 q4 o1 o2) (by omega)
  ·obtain⟨q1,q2,q3,q4⟩:=h.r x hm
   obtain⟨c1,c2,o1,o2⟩:=h.r2 x hm
   have p1:=bw q3 o1
   have p2:=bw q4 o2
   have tl:=tZ x.2.1
   have wl:=eL x.2.2.1
   unfold yY
   dsimp only
   rw[hx,za (kl hk),zb (qp hk)]
   simp only[dB]
   rw[zo _ (by simp only[zQ,List.length_cons,List.length_nil]; omega),z6 (KY _),zo _ (by simp only[zQ,List.length_cons,List.length_nil]; omega),zo _ (by simp only[zQ,List.length_cons,List.length_nil]; omega),zo _ (by simp only[zQ,List.length_cons,List.length_nil]; omega),z6 (pR _ q2),
    zo _ (by simp only[zQ,List.length_cons,List.length_nil]; omega),zo _ (by simp only[zQ,List.length_cons,List.length_nil]; omega),z6 (sF q3 o1),zo _ (by simp only[zQ,List.length_cons,List.length_nil]; omega),zo _ (by simp only[zQ,List.length_cons,List.length_nil]; omega),z6 (sF q4 o2),
    zo _ (by simp only[zQ,List.length_cons,List.length_nil]; omega),zo _ (by simp only[zQ,List.length_cons,List.length_nil]; omega),z7,oy k _ hk (by omega)]
   unfold B5 Ma
   simp only[jA,List.append_assoc,List.cons_append,List.nil_append]
  ·unfold yY
   dsimp only
   rw[z8 (gS _),z7]
 unfold nZ
 rw[z6 k1,List.nil_append,z6 (k2 _ (by omega)),z6 (k3 _ (by rw[List.length_append]; omega)),z6 (k4 _ (by simp only[List.length_append]; omega)),z7]
 rfl
theorem nN(f:Form)(h:FS f):(X4 f).run=some (fG f):=by
 have hn:=h.n
 have k1:(Wu f 0).run=some (if f.1.any Us=true then .inr false else .inl ()):=by
  refine Z4 (r:=cC f) f.1 (zj zJ) Us (λk x hk hx hm => ?_) ?_
  ·unfold cC Us
   dsimp only
   rw[za (kl hk),zb (qp hk),hx,z6 (wV x.1)]
   cases zT x.1 with
   | true=>rw[z8 (by rfl),z7,oy k _ hk (by omega)]; rfl
   | false=>rfl
  ·unfold cC
   rw[z8 (gS _),z7]
 have k2:(VL f 0).run=some (if f.2.1.any lU=true then .inr false else .inl ()):=by
  refine Z4 (r:=cK f) f.2.1 (zj zP) lU (λk x hk hx hm => ?_) ?_
  ·unfold cK
   dsimp only
   rw[za (kl hk)]
   refine(z6 (a:=lU x) ?_ _).trans ?_
   ·rw[zb (qp hk),hx]
    refine(QJ (wV x.1) ((zb (qp hk) _).trans (Ot (r8 _ (z4Y (h.p x hm).2))))).trans ?_
    unfold lU
    cases eV x.2.1<;>cases jo x.2.1<;>rfl
   ·cases lU x with
    | true=>rfl
    | false=>rw[zg,z7,oy k _ hk (by omega)]; rfl
  ·unfold cK
   rw[z8 (gS _),z7]
 have k3:(XR f 0).run=some (if f.2.2.1.any Uu=true then .inr false else .inl ()):=by
  refine Z4 (r:=dw f) f.2.2.1 (zj zV) Uu (λk x hk hx hm => ?_) ?_
  ·unfold dw
   dsimp only
   rw[za (kl hk)]
   refine(z6 (a:=Uu x) ?_ _).trans ?_
   ·rw[zb (qp hk),hx]
    exact QJ (wV x.1) ((zb (qp hk) _).trans (Ot (JH _)))
   ·cases Uu x with
    | true=>rfl
    | false=>rw[zg,z7,oy k _ hk (by omega)]; rfl
  ·unfold dw
   rw[z8 (gS _),z7]
 have k4:(Wm f 0).run=some (if f.2.2.2.2.1.any rV=true then .inr false else .inl ()):=by
  refine Z4 (r:=cL f) f.2.2.2.2.1 (zj qf) rV (λk x hk hx hm => ?_) ?_
  ·obtain⟨_,_,x1,x2⟩:=h.r x hm
   unfold cL
   dsimp only
   rw[za (kl hk),zb (qp hk),hx]
   simp only[dB]
   refine(z6 (a:=(rV x,x)) ?_ _).trans ?_
   ·exact n8 (wV x.1) (n8 (JH _) (LB (LB (n8 (mB x1) (z4C (mB x2))))))
   ·dsimp only
    cases rV x with
    | true=>rfl
    | false=>rw[zg,z7,oy k _ hk (by omega)]; rfl
  ·unfold cL
   rw[z8 (gS _),z7]
 unfold X4 fG
 rw[z6 k1]
 have e1:a1 f = !f.1.any Us:=rfl
 have e2:a2 f = !f.2.1.any lU:=rfl
 have e3:a3 f = !f.2.2.1.any Uu:=rfl
 have e6:a6 f = !f.2.2.2.2.1.any rV:=rfl
 rw[e1,e2,e3]
 cases f.1.any Us with
 | true=>rfl
 | false =>
 rw[if_neg (by decide),Sum.elim_inl,z6 k2]
 cases f.2.1.any lU with
 | true=>rfl
 | false =>
 rw[if_neg (by decide),Sum.elim_inl,z6 k3]
 cases f.2.2.1.any Uu with
 | true=>rfl
 | false =>
 rw[if_neg (by decide),Sum.elim_inl,z6 k4]
 cases q6:f.2.2.2.2.1.any rV with
 | true=>rw[e6,q6]; cases a4 f<;>cases a5 f<;>rfl
 | false =>
 rw[if_neg (by decide),Sum.elim_inl,z6 (WN f h)]
 cases h4:a4 f with
 | false=>rfl
 | true =>
 cases h5:a5 f with
 | false=>rfl
 | true =>
 have h6:a6 f=true:=by rw[e6,q6]; rfl
 rw[za (by rfl),z6 (VX f (YI h h4 h5 h6)),z7,h6]
 rfl
end Go.AM.Lf
namespace Go.AM
theorem T.I4{σ ρ:Type}{b:(σ->T ρ)->σ->T ρ}(R:Nat->σ->ρ->Prop)(h0:∀ x y,¬ R 0 x y)
  (h:∀ n x y,R (n+1) x y->∀ g:σ->T ρ,(∀ x' y',R n x' y'->(g x').run=some y')->(b g x).run=some y) {n:Nat} {x:σ} {y:ρ} (hx:R n x y):(T.fix b x).run=some y:=by
 rw[wb,fx]
 refine⟨n,λm hm => ?_⟩
 induction n generalizing m x y with
 | zero=>exact absurd hx (h0 _ _)
 | succ n ih =>
  cases m with
  | zero=>omega
  | succ m =>
   rw[<- wb]
   exact h n x y hx (H4 b m) λx' y' hr=>by rw[wb]; exact ih hr m (by omega)
end Go.AM
namespace Go.AM.PL
def mg:zf->zf
 | []=>[]
 | c::r=>if c=32 then mg r else c::r
def gi(p:UInt8->Bool):Nat->zf->zf×zf
 | 0,r=>([],r)
 | _+1,[]=>([],[])
 | n+1,c::r=>if p c=true then(c::(gi p n r).1,(gi p n r).2)else([],c::r)
theorem tO(p:UInt8->Bool):∀ (n:Nat) (r:zf),(gi p n r).1++(gi p n r).2=r
 | 0,r=>rfl
 | _+1,[]=>rfl
 | n+1,c::r=>by
  unfold gi
  split
  ·rw[List.cons_append,tO p n r]
  ·rfl
theorem WH(p:UInt8->Bool):∀ (n:Nat) (r:zf),r.length<=n->gi p n r=(r.takeWhile p,r.dropWhile p)
 | 0,[],_=>rfl
 | 0,c::r,h=>by simp at h
 | _+1,[],_=>rfl
 | n+1,c::r,h=>by
  unfold gi
  rw[WH p n r (by simp at h; omega)]
  cases hp:p c with
  | true=>simp[hp]
  | false=>simp[hp]
theorem c9:∀ (r:zf),mg r <:+ r
 | []=>List.suffix_refl _
 | c::r=>by
  unfold mg
  split
  ·exact List.IsSuffix.trans (c9 r) (List.suffix_cons c r)
  ·exact List.suffix_refl _
theorem YR:∀ (r:zf) (c:UInt8) (q:zf),mg r=c::q->c≠32
 | [],_,_,h=>by cases h
 | b::r,c,q,h=>by
  unfold mg at h
  split at h
  ·exact YR r c q h
  ·cases h; assumption
theorem HV(r:zf):mg (mg r)=mg r:=by
 cases h:mg r with
 | nil=>rfl
 | cons c q=>unfold mg; rw[if_neg (YR r c q h)]
theorem Yt(r:zf):(mg r).length<=r.length:=(c9 r).length_le
theorem Wr(p:UInt8->Bool)(n:Nat)(r:zf):(gi p n r).2 <:+ r:=⟨(gi p n r).1,tO p n r⟩
def vq(s r:zf):Nat:=s.length-r.length
theorem M0(s:zf):vq s s=0:=by unfold vq; omega
theorem No(s:zf):vq s []=s.length:=rfl
theorem yA{c:UInt8}{r s:zf}(h:(c::r) <:+ s):r <:+ s:=List.IsSuffix.trans (List.suffix_cons c r) h
theorem yo{c:UInt8}{r s:zf}(h:(c::r) <:+ s):vq s r=vq s (c::r)+1/\vq s (c::r)<s.length:=by
 have:=h.length_le
 simp only[List.length_cons]at this
 unfold vq; simp only[List.length_cons]; omega
theorem Ok{r s:zf}(h:r <:+ s):s.drop (vq s r)=r:=by
 obtain⟨t,rfl⟩:=h
 unfold vq
 rw[List.length_append,Nat.add_sub_cancel,List.drop_left]
theorem bc{c:UInt8}{r s:zf}(h:(c::r) <:+ s):qm s ((vq s (c::r):Nat):Int)=(c.toNat:Int):=by
 have h1:=yo h
 rw[kV h1.2]
 have h2:=Ok h
 rw[List.drop_eq_getElem_cons h1.2]at h2
 injection h2 with h2 _
 rw[h2]
theorem z0w{r q s:zf}(h:r <:+ q)(h2:q <:+ s):vq s q<=vq s r:=by
 have:=h.length_le; unfold vq; omega
theorem NS{a r q s:zf}(h:r <:+ s)(e:a++q=r):wX ((vq s r:Nat):Int) ((vq s q:Nat):Int) s=a:=by
 subst e
 obtain⟨t,rfl⟩:=h
 unfold wX vq
 rw[Int.toNat_natCast,Int.toNat_natCast]
 simp only[List.length_append]
 rw[show t.length+(a.length+q.length)-q.length=t.length+a.length by omega,show t.length+(a.length+q.length)-(a.length+q.length)=t.length by omega,<- List.append_assoc,<- List.length_append,List.take_left,List.drop_left]
theorem GM:∀ (l:zf) (c:UInt8),decide ((0:Int)<=mc l c)=l.contains c
 | [],_=>rfl
 | b::l,c=>by
  have ih:=GM l c
  unfold mc
  rw[List.contains_cons]
  by_cases h:b=c
  ·subst h; simp
  ·have h':(b==c)=false:=by simpa using h
   have h'':(c==b)=false:=by simpa using λe:c=b=>h e.symm
   rw[h',h'',Bool.false_or,<- ih]
   have hge:∀ l:zf,mc l c = -1\/0<=mc l c:=by
    intro l
    induction l with
    | nil=>exact .inl rfl
    | cons x l ih =>
     unfold mc
     split
     ·right; omega
     ·split
      ·left; rfl
      ·right
       rename_i vy
       rcases ih with h | h
       ·exact absurd (by simpa using h) vy
       ·omega
   rcases hge l with h | h
   ·rw[h]; rfl
   ·have:(mc l c == -1)=false:=by simp; omega
    simp only[this,Bool.false_eq_true,if_false]
    rw[decide_eq_true (by omega),decide_eq_true (by omega)]
theorem V1(c:UInt8):byteOf (c.toNat:Int)=c:=by unfold byteOf; simp
end Go.AM.PL
namespace Go.AM.Lf
open PL
def qz(s r:zf)(d:Nat)(l:Bool):zc:=(s,((vq s r:Nat):Int),(d:Int),l,())
theorem wE(s r:zf)(d:Nat)(l:Bool):(qz s r d l).1=s:=rfl
theorem vA(s r:zf)(d:Nat)(l:Bool):(qz s r d l).2.1=((vq s r:Nat):Int):=rfl
theorem Vx(s r:zf)(d:Nat)(l:Bool):(qz s r d l).2.2.1=(d:Int):=rfl
theorem VK{s r:zf}{c:UInt8}(d:Nat)(l:Bool)(h:(c::r) <:+ s)(hs:s.length<=1000000):((s,zF (((vq s (c::r):Nat):Int)+1),(d:Int),l,()):zc)=qz s r d l:=by
 have:=yo h
 unfold qz
 rw[zu (by omega) (by omega),this.1]
 rfl
theorem Z1{s r:zf}{c:UInt8}(h:(c::r) <:+ s):decide (((vq s (c::r):Nat):Int)<(s.length:Int))=true:=decide_eq_true (by have:=yo h; omega)
theorem V6(s:zf):decide (((vq s []:Nat):Int)<(s.length:Int))=false:=by rw[No]; exact decide_eq_false (by omega)
theorem lj{s r:zf}{c:UInt8}(h:(c::r) <:+ s):qu ((vq s (c::r):Nat):Int) s.length:=⟨by omega,by have:=yo h; omega⟩
theorem Sa(c b:UInt8):((c.toNat:Int)==(b.toNat:Int))=decide (c=b):=by
 by_cases h:c=b
 ·subst h; simp
 ·rw[decide_eq_false h]
  simp only[beq_eq_false_iff_ne,ne_eq]
  intro e
  exact h (UInt8.toNat_inj.1 (by omega))
theorem Qm(s:zf)(hs:s.length<=1000000)(d:Nat)(l:Bool):∀ (r:zf),r <:+ s->(ym (qz s r d l)).run=some (qz s (mg r) d l)
 | [],_=>by
  refine qR ?_
  unfold xI
  dsimp only
  rw[vA,wE,V6,zb (λh=>by cases h),z8 (by rfl),z7]
  rfl
 | c::r,h=>by
  have e:(xI (qz s (c::r) d l)).run=some (if c=32 then .inl (qz s r d l)else .inr (qz s (c::r) d l)):=by
   unfold xI
   dsimp only
   rw[vA,wE,Z1 h,zb (λ_=>lj h),Bool.true_and,bc h,show((c.toNat:Int)==32)=decide (c=32)from Sa c 32]
   by_cases hc:c=32
   ·rw[za (by simpa using hc),z7,if_pos hc]
    show some (Sum.inl (s,zF (((vq s (c::r):Nat):Int)+1),(d:Int),l,()))=_
    rw[VK d l h hs]
   ·rw[z8 (by simpa using hc),z7,if_neg hc]
  unfold mg
  by_cases hc:c=32
  ·rw[if_pos hc]at e ⊢
   exact(uh e).trans (Qm s hs d l r (yA h))
  ·rw[if_neg hc]at e ⊢
   exact qR e
theorem Cb(s:zf)(hs:s.length<=1000000)(d:Nat)(l:Bool)(r:zf)(h:r <:+ s):(vL (qz s r d l)).run=some (qz s (mg r) d l):=by
 unfold vL
 rw[z6 (Qm s hs d l r h),z7]
def jc(some:zf)(r:zf):Option (UInt8×zf):=match mg r with
 | []=>none
 | c::q=>if some.contains c=true then .some (c,q)else none
theorem sa(s:zf)(hs:s.length<=1000000)(d:Nat)(l:Bool)(r:zf)(h:r <:+ s)(m:zf) :
  (qT m (qz s r d l)).run=some (match jc m r with | some (c,q)=>((c.toNat:Int),qz s q d l) | none=>(0,qz s (mg r) d l)):=by
 have hk:=List.IsSuffix.trans (c9 r) h
 unfold qT jc
 rw[z6 (Cb s hs d l r h)]
 cases e:mg r with
 | nil =>
  rw[z6 (a:=(false,qz s [] d l)) (by rw[vA,wE,V6,zg,z7]),zg,z7]
 | cons c q =>
  rw[e]at hk
  have hi:(strings_IndexByte m (c.toNat:Int)).run=some (mc m c):=by unfold strings_IndexByte; rw[z7,V1]
  rw[z6 (a:=(m.contains c,qz s (c::q) d l)) (by rw[vA,wE,Z1 hk,zi,zb (lj hk),bc hk,z6 hi,z7,GM])]
  have hp:=yo hk
  dsimp only
  cases hc:m.contains c with
  | false=>rw[zg,z7]; rfl
  | true =>
   rw[zi,vA,wE,zu (x:=((vq s (c::q):Nat):Int)+1) (by omega) (by omega),show((vq s (c::q):Nat):Int)+1-1=((vq s (c::q):Nat):Int) by omega,zu (by omega) (by omega),zb (lj hk),z7,bc hk]
   rw[show((vq s (c::q):Nat):Int)+1=((vq s q:Nat):Int) by omega]
   rfl
theorem ZQ(b:UInt8):(xD (b.toNat:Int)).run=some (kg b):=by
 unfold xD kg
 rw[z7]
 congr 1
 by_cases h1:48<=b.toNat<;>by_cases h2:b.toNat<=57<;>simp[h1,h2]<;>omega
theorem IZ(b:UInt8):(wi (b.toNat:Int)).run=some (QI b):=rfl
theorem C3(s:zf)(hs:s.length<=1000000)(d:Nat)(l:Bool)(is:Int->T Bool)(p:UInt8->Bool)(hp:∀ b:UInt8,(is (b.toNat:Int)).run=some (p b))(f m:Nat)(hm:m<=1000000) :
  ∀ (n:Nat) (r:zf),r <:+ s->f<=vq s r->vq s r-f+n=m->(yz is (m:Int) (f:Int) (qz s r d l)).run=some (qz s (gi p n r).2 d l):=by
 intro n r
 induction r generalizing n with
 | nil =>
  intro h hf he
  have:(gi p n []).2=[]:=by cases n<;>rfl
  rw[this]
  refine qR ?_
  unfold qL
  dsimp only
  rw[z6 (a:=(false,qz s [] d l)) (by rw[vA,wE,V6,zg,z7]),zg,z7]
 | cons c r ih =>
  intro h hf he
  have sE:=yo h
  cases n with
  | zero =>
   refine qR ?_
   unfold qL
   dsimp only
   rw[z6 (a:=(false,qz s (c::r) d l)) (by rw[vA,wE,Z1 h,zi,zu (by omega) (by omega),z8 (decide_eq_false (by omega)),z7]),zg,z7]
   rfl
  | succ n =>
   have e:(qL is (m:Int) (f:Int) (qz s (c::r) d l)).run=some (if p c=true then .inl (qz s r d l)else .inr (qz s (c::r) d l)):=by
    unfold qL
    dsimp only
    rw[z6 (a:=(p c,qz s (c::r) d l)) (by rw[vA,wE,Z1 h,zi,zu (by omega) (by omega),za (decide_eq_true (by omega)),zb (lj h),bc h,z6 (hp c),z7])]
    dsimp only
    cases p c with
    | false=>rfl
    | true =>
     rw[zi,z7,if_pos rfl]
     show some (Sum.inl (s,zF (((vq s (c::r):Nat):Int)+1),(d:Int),l,()))=_
     rw[VK d l h hs]
   unfold gi
   by_cases hc:p c=true
   ·rw[if_pos hc]at e ⊢
    exact(uh e).trans (ih n (yA h) (by omega) (by omega))
   ·rw[if_neg hc]at e ⊢
    exact qR e
theorem Zf(s:zf)(hs:s.length<=1000000)(d:Nat)(l:Bool)(is:Int->T Bool)(p:UInt8->Bool)(hp:∀ b:UInt8,(is (b.toNat:Int)).run=some (p b))(m:Nat)(hm:m<=1000000)(r:zf)(h:r <:+ s) :
  (qU is (m:Int) (qz s r d l)).run=some ((gi p m r).1,qz s (gi p m r).2 d l):=by
 unfold qU
 have h2:=List.IsSuffix.trans (Wr p m r) h
 have h3:=z0w (Wr p m r) h
 have h4:vq s (gi p m r).2<=s.length:=by unfold vq; omega
 rw[vA,z6 (C3 s hs d l is p hp (vq s r) m hm m r h (Nat.le_refl _) (by omega))]
 rw[vA,wE,zb ⟨by omega,by omega,by omega⟩,z7,NS h (tO p m r)]
inductive PR where
 | no
 | er (k:Int) (bad r:zf) (d:Nat) (l:Bool)
 | ok (e:Expr) (r:zf) (l:Bool)
def PR.bind:PR->(Expr->zf->Bool->PR)->PR
 | .no,_=>.no
 | .er k b r d l,_=>.er k b r d l
 | .ok e r l,f=>f e r l
def pL(k:Int)(l:List Expr):Expr:=.mk k q7 [] l
def oU(t:zf):Rat:=match Ux t with | some (n,d)=>uE (List.isPrefixOf [45] t) n d | none=>q7
def XJ(z:Rat)(t r:zf)(l:Bool):PR:=if 400<t.length then .ok (.mk 1 z [] []) r true else .ok (.mk 1 (oU t) [] []) r l
def We(z:Rat)(d:Nat)(r:zf)(l:Bool):PR:=match r.dropWhile kg with
 | []=>XJ z (r.takeWhile kg) [] l
 | c::q=>if c=46 then(if q.takeWhile kg=[]then .er 2 q q d l else XJ z (r.takeWhile kg++(46::q.takeWhile kg)) (q.dropWhile kg) l)
  else XJ z (r.takeWhile kg) (c::q) l
def C4(r:zf)(l:Bool):PR:=.ok (.mk 2 q7 (gi vY 24 r).1 []) (gi vY 24 r).2 l
def yc(K:Bool->zf->PR)(m1 m2:UInt8)(k1 k2:Int):Nat->Expr->zf->Bool->PR
 | 0,_,_,_=>.no
 | n+1,e,r,l=>match jc [m1,m2] r with
  | none=>.ok e (mg r) l
  | some (c,q)=>(K l q).bind λe2 q2 l2=>yc K m1 m2 k1 k2 n (pL (if c=m1 then k1 else k2) [e,e2]) q2 l2
def rowP(K:Bool->zf->PR)(m1 m2:UInt8)(k1 k2:Int)(n:Nat)(l:Bool)(r:zf):PR:=(K l r).bind λe q l'=>yc K m1 m2 k1 k2 n e q l'
def tu(z:Rat)(F S:Nat->Bool->zf->PR)(d:Nat)(l:Bool)(s:zf):PR:=match mg s with
 | []=>.er 2 [] [] d l
 | c::r =>
  if c=45 then(if 31<=d then .er 4 (c::r) r (d+1) l else(F (d+1) l r).bind λe q l'=>.ok (pL 7 [e]) q l')
  else if c=40 then(if 31<=d then .er 4 (c::r) r (d+1) l else(S (d+1) l r).bind λe q l'=>match jc [41] q with
   | some (_,q')=>.ok e q' l'
   | none=>.er 2 (mg q) (mg q) (d+1) l')
  else if kg c=true then We z d (c::r) l
  else if QI c=true then C4 (c::r) l
  else .er 2 (c::r) (c::r) d l
mutual
def pF(z:Rat):Nat->Nat->Bool->zf->PR
 | 0,_,_,_=>.no
 | n+1,d,l,s=>tu z (pF z n) (pS z n) d l s
def pP(z:Rat):Nat->Nat->Bool->zf->PR
 | 0,_,_,_=>.no
 | n+1,d,l,s=>rowP (pF z n d) 42 47 5 6 n l s
def pS(z:Rat):Nat->Nat->Bool->zf->PR
 | 0,_,_,_=>.no
 | n+1,d,l,s=>rowP (pP z n d) 43 45 3 4 n l s
end
def PR.Jo(s:zf):PR->Prop
 | .no=>True
 | .er _ b r _ _=>b <:+ s/\r <:+ s
 | .ok _ r _=>r <:+ s
theorem PR.Z0{s:zf}{R:PR}{f:Expr->zf->Bool->PR}(h:R.Jo s)(hf:∀ e r l,r <:+ s->(f e r l).Jo s):(R.bind f).Jo s:=by
 cases R with
 | no=>trivial
 | er=>exact h
 | ok e r l=>exact hf e r l h
theorem fV{m r q:zf}{c:UInt8}(h:jc m r=some (c,q)):(c::q) <:+ r/\m.contains c=true/\mg r=c::q:=by
 have:=c9 r
 unfold jc at h
 split at h
 ·cases h
 ·rename_i c' q' e
  split at h
  ·cases h; rw[e]at this; exact⟨this,by assumption,e⟩
  ·cases h
theorem WS{s r t:zf}{z:Rat}{l:Bool}(h:r <:+ s):(XJ z t r l).Jo s:=by unfold XJ; split<;>exact h
theorem ic(p:UInt8->Bool)(r:zf):r.dropWhile p <:+ r:=List.dropWhile_suffix p
theorem N7{s r:zf}{z:Rat}{d:Nat}{l:Bool}(h:r <:+ s):(We z d r l).Jo s:=by
 have hd:=ic kg r
 unfold We
 split
 ·exact WS List.nil_suffix
 ·rename_i c q e
  rw[e]at hd
  have hq:=(yA hd).trans h
  split
  ·split
   ·exact⟨hq,hq⟩
   ·exact WS ((ic kg q).trans hq)
  ·exact WS (hd.trans h)
theorem YL{s:zf}{K:Bool->zf->PR}(hK:∀ l r,r <:+ s->(K l r).Jo s)(m1 m2:UInt8)(k1 k2:Int):∀ (n:Nat) (e:Expr) (r:zf) (l:Bool),r <:+ s->(yc K m1 m2 k1 k2 n e r l).Jo s
 | 0,_,_,_,_=>trivial
 | n+1,e,r,l,h=>by
  unfold yc
  split
  ·exact(c9 r).trans h
  ·rename_i c q ht
   have hq:=(yA (fV ht).1).trans h
   exact PR.Z0 (hK l q hq) λe2 q2 l2 h2=>YL hK m1 m2 k1 k2 n _ q2 l2 h2
theorem YQ{s:zf}{K:Bool->zf->PR}(hK:∀ l r,r <:+ s->(K l r).Jo s)(m1 m2:UInt8)(k1 k2:Int)(n:Nat)(l:Bool)(r:zf)(h:r <:+ s):(rowP K m1 m2 k1 k2 n l r).Jo s :=
 PR.Z0 (hK l r h) λ_ _ _ h2=>YL hK m1 m2 k1 k2 n _ _ _ h2
theorem RF{s:zf}{z:Rat}{F S:Nat->Bool->zf->PR}(hF:∀ d l r,r <:+ s->(F d l r).Jo s)(hS:∀ d l r,r <:+ s->(S d l r).Jo s)(d:Nat)(l:Bool)(r:zf)(h:r <:+ s):(tu z F S d l r).Jo s:=by
 have hk:=(c9 r).trans h
 unfold tu
 split
 ·exact⟨List.nil_suffix,List.nil_suffix⟩
 ·rename_i c q e
  rw[e]at hk
  have hq:=yA hk
  split
  ·split
   ·exact⟨hk,hq⟩
   ·exact PR.Z0 (hF _ _ _ hq) λ_ _ _ h2=>h2
  ·split
   ·split
    ·exact⟨hk,hq⟩
    ·refine PR.Z0 (hS _ _ _ hq) λe2 q2 l2 h2 => ?_
     split
     ·rename_i ht
      exact(yA (fV ht).1).trans h2
     ·exact⟨(c9 q2).trans h2,(c9 q2).trans h2⟩
   ·split
    ·exact N7 hk
    ·split
     ·exact(Wr vY 24 (c::q)).trans hk
     ·exact⟨hk,hk⟩
theorem XV(z:Rat)(s:zf):∀ (n:Nat),(∀ d l r,r <:+ s->(pF z n d l r).Jo s)/\(∀ d l r,r <:+ s->(pP z n d l r).Jo s)/\(∀ d l r,r <:+ s->(pS z n d l r).Jo s)
 | 0=>⟨λ_ _ _ _=>by unfold pF; trivial,λ_ _ _ _=>by unfold pP; trivial,λ_ _ _ _=>by unfold pS; trivial⟩
 | n+1=>by
  obtain⟨h1,h2,h3⟩:=XV z s n
  refine⟨λd l r h => ?_,λd l r h => ?_,λd l r h => ?_⟩
  ·unfold pF; exact RF h1 h3 d l r h
  ·unfold pP; exact YQ (h1 d) _ _ _ _ n l r h
  ·unfold pS; exact YQ (h2 d) _ _ _ _ n l r h
def encR(s:zf)(d:Nat):PR->Option ((AM.Expr×zc)⊕(vE×zc))
 | .no=>none
 | .er k b r d' l=>some (.inr ((k,(((vq s b:Nat):Int),())),qz s r d' l))
 | .ok e r l=>some (.inl (e,qz s r d l))
theorem GH(e a:Int)(p:zc):(xG e a p).run=some (.inr ((e,(a,())),p)):=rfl
theorem Ch(s:zf)(hs:s.length<=1000000){c:UInt8}{r:zf}(h:(c::r) <:+ s)(d:Nat)(hd:d<=31)(l:Bool):(wu (qz s r d l)).run=some (if 31<=d then .inr ((4,(((vq s (c::r):Nat):Int),())),qz s r (d+1) l)else .inl (qz s r (d+1) l)):=by
 have hp:=yo h
 have e:((qz s r d l).1,((qz s r d l).2.1,((zF ((qz s r d l).2.2.1+(1:Int))),((qz s r d l).2.2.2.1,()))))=qz s r (d+1) l:=by
  rw[Vx,zu (by omega) (by omega)]; rfl
 unfold wu
 rw[e,Vx,vA,zu (by omega) (by omega),zu (by omega) (by omega)]
 by_cases c1:31<=d
 ·rw[if_pos c1,za (decide_eq_true (by omega)),z6 (GH _ _ _),Sum.elim_inr,z7,show((vq s r:Nat):Int)-1=((vq s (c::r):Nat):Int) by omega]
 ·rw[if_neg c1,z8 (decide_eq_false (by omega)),z7]
theorem rM(p:UInt8->Bool)(r:zf):r.takeWhile p++r.dropWhile p=r:=List.takeWhile_append_dropWhile
theorem BC(s:zf)(hs:s.length<=1000000)(d:Nat)(l:Bool)(r:zf)(h:r <:+ s):(vO (qz s r d l)).run=encR s d (We q7 d r l):=by
 have hdr:=ic kg r
 have hl:=h.length_le
 have hw:=Zf s hs d l (λz0=>xD z0) kg ZQ s.length hs r h
 rw[WH kg s.length r hl]at hw
 -- what is done with the text
 have fin:∀ (t q:zf),(T.ite (decide ((400:Int)<(Nat.cast (List.length t):Int)))
    (.ret (.inl ((Expr.mk (1:Int) (false,(([]:List Int),(([]:List Int),()))) ([]:zf) ([]:List AM.Expr)),((qz s q d l).1,((qz s q d l).2.1,((qz s q d l).2.2.1,(true,())))))))
    (T.bind (yq t) λ(r,r1) =>
     .ret (.inl ((Expr.mk (1:Int) (r.1,(r.2.1,(r.2.2.1,()))) ([]:zf) ([]:List AM.Expr)),(qz s q d l)))):T ((AM.Expr×zc)⊕(vE×zc))).run=encR s d (XJ q7 t q l):=by
  intro t q
  unfold XJ
  by_cases c1:400<t.length
  ·rw[if_pos c1,za (decide_eq_true (by omega)),z7]; rfl
  ·rw[if_neg c1,z8 (decide_eq_false (by omega)),z6 (pO t (by omega)),if_neg c1]
   unfold oU
   cases Ux t with
   | none=>rfl
   | some x=>rfl
 unfold vO We
 rw[wE,z6 hw]
 dsimp only
 cases e:r.dropWhile kg with
 | nil =>
  rw[e]at hdr
  rw[z6 (a:=.inl (r.takeWhile kg,qz s [] d l,Expr.mk 0 (false,([],([],()))) [] [])) (by rw[vA,wE,V6,zb (λh=>by cases h),Bool.false_and,zg,z7]),Sum.elim_inl]
  exact fin _ _
 | cons c q =>
  rw[e]at hdr
  have S4:=hdr.trans h
  have hq:=yA S4
  have sE:=yo S4
  dsimp only
  by_cases hc:c=46
  ·rw[if_pos hc]
   have tF:=Zf s hs d l (λz0=>xD z0) kg ZQ s.length hs q hq
   rw[WH kg s.length q hq.length_le]at tF
   have ze4:(r.takeWhile kg).length<=1000000:=by have:=congrArg List.length (rM kg r); rw[List.length_append]at this; omega
   have z2d:(q.takeWhile kg).length<=1000000:=by have:=congrArg List.length (rM kg q); rw[List.length_append]at this; have:=hq.length_le; omega
   have cond:((decide (((vq s (c::q):Nat):Int)<(s.length:Int)))&&((qm s ((vq s (c::q):Nat):Int))==(46:Int)))=true:=by
    rw[Z1 S4,Bool.true_and,bc S4,show((c.toNat:Int)==46)=decide (c=46)from Sa c 46]; simpa using hc
   have st:(((qz s (c::q) d l).1,((zF ((qz s (c::q) d l).2.1+(1:Int))),((qz s (c::q) d l).2.2.1,((qz s (c::q) d l).2.2.2.1,())))):zc)=qz s q d l:=VK d l S4 hs
   by_cases hq0:q.takeWhile kg=[]
   ·rw[if_pos hq0,z6 (a:=.inr ((2,(((vq s q:Nat):Int),())),qz s q d l,Expr.mk 0 (false,([],([],()))) [] [])),Sum.elim_inr]
    ·rfl
    ·rw[st,vA,wE,zb (λ_=>lj S4),za cond,z6 tF,za (by rw[vD]; simpa using hq0)]
     have:q.dropWhile kg=q:=by have:=rM kg q; rw[hq0]at this; simpa using this
     rw[this,z6 (GH _ _ _),Sum.elim_inr,z7,vA]
   ·rw[if_neg hq0,z6 (a:=.inl (cat (r.takeWhile kg) (cat [46] (q.takeWhile kg)),qz s (q.dropWhile kg) d l,Expr.mk 0 (false,([],([],()))) [] [])),Sum.elim_inl]
    ·exact fin _ _
    ·rw[st,vA,wE,zb (λ_=>lj S4),za cond,z6 tF,z8 (by rw[vD]; simpa using hq0),zo _ (by simp; omega),zo _ (by simp[jA]; omega),z7]
  ·rw[if_neg hc,z6 (a:=.inl (r.takeWhile kg,qz s (c::q) d l,Expr.mk 0 (false,([],([],()))) [] [])),Sum.elim_inl]
   ·exact fin _ _
   ·rw[vA,wE,zb (λ_=>lj S4),z8 (by rw[Z1 S4,Bool.true_and,bc S4,show((c.toNat:Int)==46)=decide (c=46)from Sa c 46]; simpa using hc),z7]
abbrev KT:=zc->T ((AM.Expr×zc)⊕(vE×zc))
abbrev zE:Expr:=Expr.mk (0:Int) (false,(([]:List Int),(([]:List Int),()))) ([]:zf) ([]:List AM.Expr)
noncomputable def W8 (K:KT) (Zt:zf) (Vl:vE):(zc×AM.Expr×AM.Expr)->T ((zc×AM.Expr×AM.Expr)⊕((zc×AM.Expr×AM.Expr)⊕(vE×zc×AM.Expr×AM.Expr)))
 | (v,v1,v2) =>
  T.bind (qT Zt v) λ(c,p3) =>
  .ite (c==(0:Int))
   (.ret (.inr (.inl (p3,(v2,v2)))))
   (T.bind (K p3) <|
     Sum.elim (λ(r1,p4) =>
      T.bind (strings_IndexByte Zt c) λr2 =>
      .zA (qu r2 (2:Nat)) <|
      .ret (.inl (p4,(v1,(Expr.mk (nJ (.int .i64) ZZ Vl (Int.toNat r2)) (false,(([]:List Int),(([]:List Int),()))) ([]:zf) ([v2,r1]:List AM.Expr))))))
     (λ(pv1,p5) =>
      .ret (.inr (.inr (pv1,(p5,(v1,v2)))))))
noncomputable def To (K:KT) (marks:zf) (kinds:vE) (p:zc):T ((AM.Expr×zc)⊕(vE×zc)) :=
 T.bind (K p) <|
  Sum.elim (λ(r,p1) =>
   T.bind (T.loop (W8 K marks kinds) (p1,(zE,r))) <|
    Sum.elim (λ(v3,v4,v5) =>
     .ret (.inl (v4,v3)))
    (λ(p6,v6,v7,v8) =>
     .ret (.inr (p6,v6))))
  (λ(pv,p2) =>
   .ret (.inr (pv,p2)))
theorem zcn{m1 m2 c:UInt8}(h:[m1,m2].contains c=true):mc [m1,m2] c=if c=m1 then 0 else 1:=by
 unfold mc
 by_cases h1:c=m1
 ·subst h1; simp
 ·have QS:(m1==c)=false:=by simpa using λe:m1=c=>h1 e.symm
  have h2:c=m2:=by simpa[h1]using h
  subst h2
  rw[QS,if_neg h1]
  unfold mc
  simp
theorem Hm(s:zf)(hs:s.length<=1000000)(d:Nat)(K:KT)(Ks:Bool->zf->PR)(hK:∀ l r,r <:+ s->Ks l r≠.no->(K (qz s r d l)).run=encR s d (Ks l r))(hx:∀ l r,r <:+ s->(Ks l r).Jo s)(m1 m2:UInt8)(hm1:m1≠0)(B8:m2≠0)(k1 k2:Int) :
  ∀ (n:Nat) (e:Expr) (r:zf) (l:Bool),r <:+ s->yc Ks m1 m2 k1 k2 n e r l≠.no ->
   match yc Ks m1 m2 k1 k2 n e r l with
   | .no=>True
   | .ok e' r' l'=>(T.loop (W8 K [m1,m2] (k1,(k2,()))) (qz s r d l,(zE,e))).run=some (.inl (qz s r' d l',(e',e')))
   | .er k b r' d' l'=>∃ x,(T.loop (W8 K [m1,m2] (k1,(k2,()))) (qz s r d l,(zE,e))).run=some (.inr ((k,(((vq s b:Nat):Int),())),(qz s r' d' l',(zE,x))))
 | 0,_,_,_,_,hn=>absurd rfl hn
 | n+1,e,r,l,h,hn=>by
  have ht:=sa s hs d l r h [m1,m2]
  unfold yc at hn ⊢
  cases q:jc [m1,m2] r with
  | none =>
   rw[q]at ht
   dsimp only
   refine qR ?_
   unfold W8
   dsimp only
   rw[z6 ht]
   rfl
  | some x =>
   obtain⟨c,q'⟩:=x
   rw[q]at ht hn
   dsimp only at ht hn ⊢
   have hsf:=fV q
   have hq:=(yA hsf.1).trans h
   have T4:((c.toNat:Int)==0)=false:=by
    rw[show((c.toNat:Int)==0)=decide (c=0)from Sa c 0]
    have h2:c=m1\/c=m2:=by simpa using hsf.2.1
    rcases h2 with rfl | rfl<;>simpa
   have BD:=hK l q' hq
   have K3:=hx l q' hq
   cases z:Ks l q' with
   | no=>rw[z]at hn; exact absurd rfl hn
   | er k b r' d' l' =>
    rw[z]at BD
    have BD:=BD (by simp)
    refine⟨e,qR ?_⟩
    unfold W8
    dsimp only
    rw[z6 ht]
    dsimp only
    rw[z8 T4,z6 BD]
    rfl
   | ok e2 r2 l2 =>
    rw[z]at BD hn K3
    have BD:=BD (by simp)
    have hi:(strings_IndexByte [m1,m2] (c.toNat:Int)).run=some (mc [m1,m2] c):=by unfold strings_IndexByte; rw[z7,V1]
    have step:(W8 K [m1,m2] (k1,(k2,())) (qz s r d l,(zE,e))).run=some (.inl (qz s r2 d l2,(zE,pL (if c=m1 then k1 else k2) [e,e2]))):=by
     unfold W8
     dsimp only
     rw[z6 ht]
     dsimp only
     rw[z8 T4,z6 BD,Sum.elim_inl,z6 hi,zcn hsf.2.1]
     by_cases hc:c=m1
     ·rw[if_pos hc,if_pos hc,zb ⟨by omega,by omega⟩,z7]
      rfl
     ·rw[if_neg hc,if_neg hc,zb ⟨by omega,by omega⟩,z7]
      rfl
    rw[uh step]
    exact Hm s hs d K Ks hK hx m1 m2 hm1 B8 k1 k2 n _ r2 l2 K3 hn
theorem GV(s:zf)(hs:s.length<=1000000)(d:Nat)(K:KT)(Ks:Bool->zf->PR)(hK:∀ l r,r <:+ s->Ks l r≠.no->(K (qz s r d l)).run=encR s d (Ks l r))(hx:∀ l r,r <:+ s->(Ks l r).Jo s)(m1 m2:UInt8)(hm1:m1≠0)(B8:m2≠0)(k1 k2:Int)
  (n:Nat) (l:Bool) (r:zf) (h:r <:+ s) (hn:rowP Ks m1 m2 k1 k2 n l r≠.no):(To K [m1,m2] (k1,(k2,())) (qz s r d l)).run=encR s d (rowP Ks m1 m2 k1 k2 n l r):=by
 have BD:=hK l r h
 have K3:=hx l r h
 unfold To
 unfold rowP at hn ⊢
 cases z:Ks l r with
 | no=>rw[z]at hn; exact absurd rfl hn
 | er k b r' d' l' =>
  rw[z]at BD
  rw[z6 (BD (by simp))]
  rfl
 | ok e r' l' =>
  rw[z]at BD hn K3
  have BD:=BD (by simp)
  have hn:yc Ks m1 m2 k1 k2 n e r' l'≠.no:=hn
  have hl:=Hm s hs d K Ks hK hx m1 m2 hm1 B8 k1 k2 n e r' l' K3 hn
  rw[z6 BD,Sum.elim_inl]
  show _=encR s d (yc Ks m1 m2 k1 k2 n e r' l')
  cases w:yc Ks m1 m2 k1 k2 n e r' l' with
  | no=>exact absurd w hn
  | er k b r2 d2 l2 =>
   rw[w]at hl
   obtain⟨x,hl⟩:=hl
   dsimp only
   rw[z6 hl]
   rfl
  | ok e2 r2 l2 =>
   rw[w]at hl
   dsimp only at hl ⊢
   rw[z6 hl]
   rfl
theorem HE(s:zf)(hs:s.length<=1000000)(FT ST:KT)(F S:Nat->Bool->zf->PR)
  (hF:∀ d l r,d<=31->r <:+ s->F d l r≠.no->(FT (qz s r d l)).run=encR s d (F d l r)) (hS:∀ d l r,d<=31->r <:+ s->S d l r≠.no->(ST (qz s r d l)).run=encR s d (S d l r))
  (xS:∀ d l r,r <:+ s->(S d l r).Jo s) (d:Nat) (l:Bool) (r:zf) (hd:d<=31) (h:r <:+ s) (hn:tu q7 F S d l r≠.no):(xO FT ST (qz s r d l)).run=encR s d (tu q7 F S d l r):=by
 have ht:=sa s hs d l r h [45,40]
 have hk:=(c9 r).trans h
 unfold xO
 unfold tu at hn ⊢
 unfold jc at ht
 -- what deeper ones leave
 have down:∀ (q:zf) (l':Bool),(((qz s q (d+1) l').1,((qz s q (d+1) l').2.1,((zF ((qz s q (d+1) l').2.2.1-(1:Int))),((qz s q (d+1) l').2.2.2.1,())))):zc)=qz s q d l':=by
  intro q l'
  rw[Vx,zu (by omega) (by omega)]
  show(s,(((vq s q:Nat):Int),(((d+1:Nat):Int)-1,(l',()))))=(s,(((vq s q:Nat):Int),((d:Int),(l',()))))
  rw[show((d+1:Nat):Int)-1=(d:Int) by omega]
 cases e:mg r with
 | nil =>
  rw[e]at ht
  dsimp only at ht ⊢
  rw[z6 ht]
  dsimp only
  rw[z8 (by rfl),z8 (by rfl)]
  rw[z6 (a:=(false,(qz s [] d l,zE))) (by rw[vA,wE,V6,zg,z7])]
  dsimp only
  rw[zg,z6 (a:=(false,(qz s [] d l,zE))) (by rw[vA,wE,V6,zg,z7])]
  rfl
 | cons c q =>
  rw[e]at ht hn hk
  have hq:=yA hk
  dsimp only at ht hn ⊢
  have hw:=Ch s hs hk d hd l
  by_cases RX:c=45
  ·subst RX
   rw[if_pos (by decide)]at ht
   dsimp only at ht
   rw[if_pos rfl]at hn ⊢
   rw[z6 ht]
   dsimp only
   rw[za (by rfl),z6 hw]
   by_cases c31:31<=d
   ·rw[if_pos c31,if_pos c31]; rfl
   ·rw[if_neg c31]at hn
    rw[if_neg c31,if_neg c31,Sum.elim_inl]
    have hf:=hF (d+1) l q (by omega) hq
    cases z:F (d+1) l q with
    | no=>rw[z]at hn; exact absurd rfl hn
    | er k b r' d' l'=>rw[z]at hf; rw[z6 (hf (by simp))]; rfl
    | ok e2 r2 l2 =>
     rw[z]at hf
     rw[z6 (hf (by simp)),Sum.elim_inl]
     dsimp only
     rw[z7,down]
     rfl
  ·rw[if_neg RX]at hn ⊢
   by_cases RL:c=40
   ·subst RL
    rw[if_pos (by decide)]at ht
    dsimp only at ht
    rw[if_pos rfl]at hn ⊢
    rw[z6 ht]
    dsimp only
    rw[z8 (by rfl),za (by rfl),z6 hw]
    by_cases c31:31<=d
    ·rw[if_pos c31,if_pos c31]; rfl
    ·rw[if_neg c31]at hn
     rw[if_neg c31,if_neg c31,Sum.elim_inl]
     have hf:=hS (d+1) l q (by omega) hq
     have xf:=xS (d+1) l q hq
     cases z:S (d+1) l q with
     | no=>rw[z]at hn; exact absurd rfl hn
     | er k b r' d' l'=>rw[z]at hf; rw[z6 (hf (by simp))]; rfl
     | ok e2 r2 l2 =>
      rw[z]at hf xf
      rw[z6 (hf (by simp)),Sum.elim_inl]
      dsimp only
      have JK:=sa s hs (d+1) l2 r2 xf [41]
      show _=encR s d (match jc [41] r2 with | some (_,q')=>.ok e2 q' l2 | none=>.er 2 (mg r2) (mg r2) (d+1) l2)
      cases w:jc [41] r2 with
      | none =>
       rw[w]at JK
       dsimp only at JK ⊢
       rw[z6 (a:=.inr ((2,(((vq s (mg r2):Nat):Int),())),(qz s (mg r2) (d+1) l2,(zE,e2)))) (by rw[z6 JK]; rfl)]
       rfl
      | some x =>
       obtain⟨c',q'⟩:=x
       rw[w]at JK
       have hc':=(fV w).2.1
       have hc':c'=41:=by simpa using hc'
       subst hc'
       dsimp only at JK ⊢
       rw[z6 (a:=.inl (qz s q' (d+1) l2,(zE,e2))) (by rw[z6 JK]; rfl),Sum.elim_inl]
       dsimp only
       rw[z7,down]
       rfl
   ·rw[if_neg (by simp[RX,RL])]at ht
    dsimp only at ht
    rw[if_neg RL]at hn ⊢
    rw[z6 ht]
    dsimp only
    rw[z8 (by rfl),z8 (by rfl)]
    rw[z6 (a:=(kg c,(qz s (c::q) d l,zE))) (by rw[vA,wE,Z1 hk,zi,zb (lj hk),bc hk,z6 (ZQ c),z7])]
    dsimp only
    cases hD:kg c with
    | true =>
     rw[if_pos rfl,zi]
     have X3:=BC s hs d l (c::q) hk
     cases z:We q7 d (c::q) l with
     | no =>
      exfalso
      rw[if_pos hD,z]at hn
      exact hn rfl
     | er k b r' d' l'=>rw[z]at X3; rw[z6 X3]; rfl
     | ok e2 r2 l2=>rw[z]at X3; rw[z6 X3]; rfl
    | false =>
     rw[if_neg (by simp),zg]
     rw[z6 (a:=(QI c,(qz s (c::q) d l,zE))) (by rw[vA,wE,Z1 hk,zi,zb (lj hk),bc hk,z6 (IZ c),z7])]
     dsimp only
     cases hL:QI c with
     | true =>
      rw[if_pos rfl,zi]
      have hwl:(qU (λz0=>wP z0) 24 (qz s (c::q) d l)).run=_:=Zf s hs d l (λz0=>wP z0) vY nu 24 (by omega) (c::q) hk
      rw[z6 hwl]
      rfl
     | false =>
      rw[if_neg (by simp),zg]
      rfl
end Go.AM.Lf
