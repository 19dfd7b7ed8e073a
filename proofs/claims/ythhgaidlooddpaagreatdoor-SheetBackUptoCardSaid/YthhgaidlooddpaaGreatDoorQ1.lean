/-
  Plain laws of the lifted program, part 1.
-/
import Derived.Test.YthhgaidlooddpaaGreatDoorLf0
import Derived.Test.YthhgaidlooddpaaGreatDoorAmA
import Derived.Test.YthhgaidlooddpaaGreatDoorAmD
import Derived.Test.YthhgaidlooddpaaGreatDoorQ0
set_option linter.unusedVariables false
open Go.AM.T (Bz G0 fa ik lK mN qp qz vp vz wy z6 z7 z8 zK za zb zg zj zp)
namespace Go.AM.T
variable {σ ρ α β:Type}
theorem N1{r:σ->T (σ⊕ρ)}(l:List α)(d:α)(e:β->Int->σ)(I:Nat->β->Prop)(g:β->α->β)(fin:β->ρ)
  (step:∀ (k:Nat) (b:β) (x:α),k<l.length->nth l (k:Int) d=x->x∈l->I k b->(r (e b (k:Int))).run=some (.inl (e (g b x) ((k+1:Nat):Int)))/\I (k+1) (g b x))
  (done:∀ b,I l.length b->(r (e b (l.length:Int))).run=some (.inr (fin b))) {b:β} (h0:I 0 b):(loop r (e b 0)).run=some (fin (l.foldl g b))/\I l.length (l.foldl g b):=by
 have key:∀ (n k:Nat) (b:β),n+k=l.length->I k b->(loop r (e b (k:Int))).run=some (fin ((l.drop k).foldl g b))/\I l.length ((l.drop k).foldl g b):=by
  intro n
  induction n with
  | zero =>
   intro k b hk hb
   have:k=l.length:=by omega
   subst this
   rw[List.drop_length]
   exact⟨qz (done b hb),hb⟩
  | succ n ih =>
   intro k b hk hb
   have qs:k<l.length:=by omega
   have hd:l.drop k=l[k]::l.drop (k+1):=List.drop_eq_getElem_cons qs
   have hn:nth l (k:Int) d=l[k]:=by simp[nth,qs]
   obtain⟨h1,h2⟩:=step k b l[k] qs hn (List.getElem_mem qs) hb
   rw[hd,List.foldl_cons,vp h1]
   exact ih (k+1) _ (by omega) h2
 have:=key l.length 0 b (by omega) h0
 simpa using this
theorem Vx{r:σ->T (σ⊕ρ)}(l:List α)(d:α)(e:β->Int->σ)(I:Nat->β->Prop)(g:β->α->β)(fin:β->ρ)
  (step:∀ (k:Nat) (b:β) (x:α),k<l.length->nth l (k:Int) d=x->x∈l->I k b->(r (e b (k:Int))).run=some (.inl (e (g b x) ((k+1:Nat):Int)))/\I (k+1) (g b x))
  (done:∀ b,I l.length b->(r (e b (l.length:Int))).run=some (.inr (fin b))) {b:β} (h0:I 0 b):(loop r (e b 0)).run=some (fin (l.foldl g b)) :=
 (N1 l d e I g fin step done h0).1
theorem r9{r:σ->T (σ⊕ρ)}(l:List α)(d:α)(e:β->Int->σ)(I:Nat->β->Prop)(f:List α->β->ρ)
  (step:∀ (k:Nat) (b:β) (x:α) (xs:List α),k<l.length->nth l (k:Int) d=x->x∈l->l.drop k=x::xs->I k b ->
   (∃ b',(r (e b (k:Int))).run=some (.inl (e b' ((k+1:Nat):Int)))/\I (k+1) b'/\f xs b'=f (x::xs) b)\/(r (e b (k:Int))).run=some (.inr (f (x::xs) b)))
  (done:∀ b,I l.length b->(r (e b (l.length:Int))).run=some (.inr (f [] b))) {b:β} (h0:I 0 b):(loop r (e b 0)).run=some (f l b):=by
 have key:∀ (n k:Nat) (b:β),n+k=l.length->I k b->(loop r (e b (k:Int))).run=some (f (l.drop k) b):=by
  intro n
  induction n with
  | zero =>
   intro k b hk hb
   have:k=l.length:=by omega
   subst this
   rw[List.drop_length]
   exact qz (done b hb)
  | succ n ih =>
   intro k b hk hb
   have qs:k<l.length:=by omega
   have hd:l.drop k=l[k]::l.drop (k+1):=List.drop_eq_getElem_cons qs
   have hn:nth l (k:Int) d=l[k]:=by simp[nth,qs]
   rcases step k b l[k] _ qs hn (List.getElem_mem qs) hd hb with⟨b',h1,h2,h3⟩ | h1
   ·rw[hd,vp h1,<- h3]
    exact ih (k+1) _ (by omega) h2
   ·rw[hd]; exact qz h1
 have:=key l.length 0 b (by omega) h0
 simpa using this
end Go.AM.T
namespace Go.AM.PL
theorem ll(k n:Nat)(h:k<n)(hn:n<=4000000000000):zF ((k:Int)+1)=((k+1:Nat):Int):=by rw[zA (by omega) (by omega)]; omega
theorem uL{k n:Nat}(h:k<n):decide ((k:Int)<(n:Int))=true:=decide_eq_true (by omega)
theorem kf(n:Nat):decide ((n:Int)<(n:Int))=false:=decide_eq_false (by omega)
theorem qf{k n:Nat}(h:k<n):qt (k:Int) n:=⟨by omega,by omega⟩
theorem KC{α:Type}(f:α->ze)(l:List α)(s:ze):l.foldl (λs x=>s++f x) s=s++l.flatMap f:=by
 induction l generalizing s with
 | nil=>simp
 | cons x l ih=>rw[List.foldl_cons,ih,List.flatMap_cons,List.append_assoc]
theorem uG{α:Type}(f:α->ze)(l:List α)(c:Nat)(h:∀ x∈l,(f x).length<=c):(l.flatMap f).length<=l.length*c:=by
 induction l with
 | nil=>simp
 | cons x l ih =>
  have h1:=h x List.mem_cons_self
  have h2:=ih λy hy=>h y (List.mem_cons_of_mem _ hy)
  rw[List.flatMap_cons,List.length_append,List.length_cons,Nat.add_mul]; omega
theorem D3{k n c:Nat}(h:k<=n):k*c<=n*c:=Nat.mul_le_mul_right c h
theorem jC(a b:ze):cat a b=a++b:=rfl
theorem zV(a b:ze):(cat a b).length=a.length+b.length:=by rw[jC,List.length_append]
end Go.AM.PL
namespace Go.AM.PL
theorem TI(n:Nat)(h:n≠0):J0 n=CG n:=by
 induction n using Nat.strongRecOn with
 | _ n ih =>
  rw[J0,ir h]
  split
  ·rename_i c
   rw[show n / 10=0 by omega,dM]
   unfold Ou
   rw[show n % 10=n by omega]; rfl
  ·rename_i c
   rw[ih (n / 10) (by omega) (by omega)]; rfl
theorem Mw(n:Nat):J0 n=pr n:=by
 unfold pr
 by_cases h:n=0
 ·subst h; rw[J0]; rfl
 ·rw[if_neg h,TI n h]
end Go.AM.PL
namespace Go.AM.Lf
open PL
def z6C(n:Int):Prop := -9223372036854775808<=n/\n<=9223372036854775807
theorem T0(n:Int)(h:z6C n):(strconv_Itoa n).run=some (en n):=by
 unfold strconv_Itoa
 unfold z6C at h
 rw[zb h,z7]
theorem zb1{n:Nat}(h:n<18446744073709551616):(zu n).length<=2:=zQ.2 (by show n<4294967296 ^ 2; omega)
theorem Cr{n:Nat}(h:n<18446744073709551616):(pr n).length<=37:=dW n 2 (zb1 h)
theorem Ch(n:Int)(h:z6C n):(en n).length<=38:=by
 obtain⟨h1,h2⟩:=h
 unfold en
 split
 ·rw[Mw]
  have:=Cr (n:=n.natAbs) (by omega)
  simp; omega
 ·rw[Mw]
  have:=Cr (n:=n.toNat) (by omega)
  omega
theorem th(a:Rat)(h:we 1000 a):(vk (norm a)).length<=40000:=by
 have kK:=yd (by omega) h
 generalize norm a=v at *
 have h1:=dW (nv v.2.1) 1000 (Nat.le_trans (zy kK.1) kK.2.2.1)
 have h2:=dW (nv v.2.2.1) 1000 (Nat.le_trans (zy kK.2.1) kK.2.2.2)
 have h3:=mo v.1
 unfold vk
 split<;>simp<;>omega
theorem qx(s:ze):zi s s=true:=by rw[xP]; simp
theorem Bf{l:List Int}(h:wf (.sl u32) l):zm l:=λx hx=>by
 obtain⟨p,q⟩:=h x hx
 have p':(0:Int)<=x:=p
 have q':x<=4294967295:=q
 exact⟨p',by omega⟩
theorem RH{a:Rat}(h:wf vc a):zm a.2.1/\zm a.2.2.1:=⟨Bf h.2.1,Bf h.2.2.1⟩
end Go.AM.Lf
namespace Go.AM.PL
def uK(b:UInt8):Bool:=decide (48<=b.toNat/\b.toNat<=57)
def qS(s:ze):Bool:=s.all uK
def wQ(s:ze):Nat:=s.foldl (λn b=>n*10+(b.toNat-48)) 0
theorem N2(s:ze)(n:Nat):s.foldl (λn b=>n*10+(b.toNat-48)) n=n*10 ^ s.length+wQ s:=by
 unfold wQ
 induction s generalizing n with
 | nil=>simp
 | cons b s ih =>
  rw[List.foldl_cons,List.foldl_cons,ih,ih (0*10+(b.toNat-48)),List.length_cons,Nat.pow_succ]
  grind
theorem Z7(s t:ze):wQ (s++t)=wQ s*10 ^ t.length+wQ t:=by
 have:=N2 t (wQ s)
 unfold wQ at this ⊢
 rw[List.foldl_append,this]
theorem Y7(s:ze)(b:UInt8):wQ (s++[b])=wQ s*10+(b.toNat-48):=by
 unfold wQ; rw[List.foldl_append]; rfl
theorem fO{b:UInt8}:uK b=true↔48<=b.toNat/\b.toNat<=57:=by unfold uK; simp
theorem GW{s:ze}(h:qS s=true):wQ s<10 ^ s.length:=by
 have key:∀ (s:ze) (n k:Nat),qS s=true->n<10 ^ k->s.foldl (λn b=>n*10+(b.toNat-48)) n<10 ^ (k+s.length):=by
  intro s
  induction s with
  | nil=>intro n k _ h; simpa using h
  | cons b s ih =>
   intro n k hd hn
   simp only[qS,List.all_cons,Bool.and_eq_true]at hd
   have hb:=fO.1 hd.1
   have:=ih (n*10+(b.toNat-48)) (k+1) hd.2 (by rw[Nat.pow_succ]; omega)
   rw[List.foldl_cons,List.length_cons]
   rwa [show k+(s.length+1)=k+1+s.length by omega]
 have:=key s 0 0 h (by simp)
 simpa[wQ]using this
theorem bV(s t:ze):qS (s++t)=(qS s&&qS t):=by unfold qS; rw[List.all_append]
theorem vT(b:UInt8)(t:ze):qS (b::t)=(uK b&&qS t):=rfl
theorem Zq{s:ze}(h:qS s=true):(zu (wQ s)).length<=s.length+1:=by
 refine Nat.le_trans (Jj (Nat.le_of_lt (GW h))) ?_
 refine zQ.2 (Nat.lt_of_lt_of_le (Nat.pow_lt_pow_right (a:=10) (by omega) (Nat.lt_succ_self s.length)) ?_)
 exact Nat.pow_le_pow_left (by omega) _
def lO(s:ze):Option Nat:=if s=[]\/400<s.length\/qS s=false then none else some (wQ s)
theorem Uv(f:Nat->Bool):∀ (n k i:Nat),i<n->p7 .bool (dc .bool n) (MI (e:=.bool) f n k) i=f (k+i)
 | 0,_,_,h=>by omega
 | n+1,k,0,_=>by
  show(match(wO (a:=.bool) (f k):Option (den .bool))with | some y=>y | none=>zk .bool)=_
  simp[wO]
 | n+1,k,i+1,h=>by
  show p7 .bool (dc .bool n) (MI (e:=.bool) f n (k+1)) i=_
  rw[Uv f n (k+1) i (by omega)]
  congr 1; omega
abbrev jn:ze:=[48,49,50,51,52,53,54,55,56,57]
theorem z2p:∀ c:Fin 256,jn.contains (UInt8.ofNat c.val)=decide (48<=c.val/\c.val<=57):=by decide +kernel
theorem yE{s:ze}{k:Nat}(h:k<s.length):qo s (k:Int)=((s[k]).toNat:Int):=by
 unfold qo; simp[h]
theorem EP(b:UInt8)(s:ze):vq 1 (((b::s).length:Nat):Int) (b::s)=s:=by unfold vq; simp
theorem MN(s:ze)(b:UInt8):vq 0 ((s.length:Nat):Int) (s++[b])=s:=by unfold vq; simp
end Go.AM.PL
namespace Go.AM.Lf
open PL
theorem Q4(b:UInt8):(xz (cC jn) (b.toNat:Int)).run=some (uK b):=by
 have hb:b.toNat<256:=b.toNat_lt
 unfold xz
 rw[zb ⟨by omega,by omega⟩,z7]
 unfold cC
 rw[Int.toNat_natCast,Uv _ 256 0 _ hb,Nat.zero_add]
 exact congrArg some (z2p ⟨b.toNat,hb⟩)
theorem K9(s:ze)(hs:s.length<=1000000000):∃ r,(vd s (cC jn)).run=some r/\qS r=qS s/\(qS r=true->r=[])/\r.length<=s.length:=by
 have:=T.qH (r:=xx (cC jn)) (λt:ze=>qS t=qS s/\t.length<=s.length) (λt=>t.length) (λr:ze=>qS r=qS s/\(qS r=true->r=[])/\r.length<=s.length) (λt ht => ?_) (s:=s) ⟨rfl,Nat.le_refl _⟩
 ·obtain⟨r,h1,h2⟩:=this
  have h1:(kE (cC jn) s).run=some r:=h1
  unfold vd
  rw[z6 h1]
  exact⟨r,rfl,h2⟩
 ·rcases List.eq_nil_or_concat t with rfl | ⟨l,b,rfl⟩
  ·right
   refine⟨[],?_,ht.1,λ_=>rfl,by simp⟩
   unfold xx
   dsimp only
   rw[z8 (by rfl),z7]
  ·rw[List.concat_eq_append]at ht ⊢
   have hl:(l++[b]).length=l.length+1:=by simp
   have e1:zF (((l++[b]).length:Int)-1)=(l.length:Int):=by rw[hl,zA (by omega) (by omega)]; omega
   have e2:qo (l++[b]) (l.length:Int)=(b.toNat:Int):=by rw[yE (by simp)]; simp
   unfold xx
   dsimp only
   rw[za (decide_eq_true (by rw[hl]; omega)),e1,qp _ (by omega) (by rw[hl]; omega),e2,z6 (Q4 b)]
   cases hb:uK b with
   | false =>
    right
    refine⟨_,by rw[za (by rfl),z7],ht.1,λh => ?_,ht.2⟩
    rw[bV,vT,hb]at h; simp at h
   | true =>
    left
    refine⟨l,by rw[z8 (by rfl),fa _ (by omega) (by omega) (by rw[hl]; omega),z7,MN],⟨?_,by omega⟩,by omega⟩
    rw[<- ht.1,bV,vT,hb]; simp[qS]
theorem HB(s:ze)(hs:s.length<=1000000000):∃ r,(vK s (cC jn)).run=some r/\qS r=qS s/\(qS r=true->r=[]):=by
 have:=T.qH (r:=xF (cC jn)) (λt:ze=>qS t=qS s) (λt=>t.length) (λr:ze=>qS r=qS s/\(qS r=true->r=[])) (λt ht => ?_) (s:=s) rfl
 ·obtain⟨r,h1,h2⟩:=this
  have h1:(y8 (cC jn) s).run=some r:=h1
  unfold vK
  rw[z6 h1]
  exact⟨r,rfl,h2⟩
 ·cases t with
  | nil =>
   right
   refine⟨[],?_,ht,λ_=>rfl⟩
   unfold xF
   dsimp only
   rw[z8 (by rfl),z7]
  | cons b l =>
   have e2:qo (b::l) 0=(b.toNat:Int):=rfl
   unfold xF
   dsimp only
   rw[za (decide_eq_true (by simp)),qp _ (by omega) (by simp),e2,z6 (Q4 b)]
   cases hb:uK b with
   | false =>
    right
    refine⟨_,by rw[za (by rfl),z7],ht,λh => ?_⟩
    rw[vT,hb]at h; simp at h
   | true =>
    left
    refine⟨l,by rw[z8 (by rfl),fa _ (by omega) (by simp; omega) (by omega),z7,EP],?_,by simp⟩
    rw[<- ht,vT,hb]; rfl
theorem Hu:∀ (j:Nat) b,jn[j]? = some b->b.toNat<128:=by
 intro j b h
 have:b∈jn:=List.mem_of_getElem? h
 simp only[jn,List.mem_cons,List.not_mem_nil,or_false]at this
 rcases this with rfl | rfl | rfl | rfl | rfl | rfl | rfl | rfl | rfl | rfl<;>decide
theorem Wu(s:ze)(hs:s.length<=1000000000)(hn:s≠[]):∃ r,(ki s jn).run=some r/\zi r []=qS s:=by
 obtain⟨r1,a1,a2,a3,a4⟩:=K9 s hs
 obtain⟨r,b1,b2,b3⟩:=HB r1 (by omega)
 refine⟨r,?_,?_⟩
 ·have hm:(strings_makeASCIISet jn).run=some (cC jn,true):=by
   unfold strings_makeASCIISet
   rw[zb ⟨by decide,Hu⟩,z7]
  have e1:zi s []=false:=by rw[xP]; simpa using hn
  unfold ki
  rw[z8 (by rw[e1]; rfl),zb (λh=>by simp at h),z8 (by rfl),z6 hm,zj,z6 a1,z6 b1,z7]
 ·rw[xP]
  rw[a2]at b2
  cases h:qS s with
  | true=>rw[h]at b2; rw[b3 b2]; simp
  | false =>
   rw[h]at b2
   refine decide_eq_false λz => ?_
   subst z; cases b2
theorem z8b(v:Nat)(b:UInt8)(hb:uK b=true):zO (HR ((b.toNat:Int)-48))=((b.toNat-48:Nat):Int):=by
 have:=fO.1 hb
 rw[GJ (by omega) (by omega),qm (by omega) (by omega)]; omega
theorem O1:zm [(10:Int)]:=by intro x hx; simp at hx; omega
theorem bT(s:ze)(hs:s.length<=1000000000):(vr s).run=some (match lO s with | some n=>(zu n,true) | none=>([],false)):=by
 unfold vr lO
 by_cases c1:s=[]
 ·subst c1; rw[if_pos (.inl rfl)]; rfl
 ·have e1:zi s []=false:=by rw[xP]; simpa using c1
  by_cases c2:400<s.length
  ·have hg:(.ite (zi s ([]:ze)) (.ret true) (.ite (decide ((400:Int)<(Nat.cast (List.length s):Int))) (.ret true) (T.bind (ki s ([48,49,50,51,52,53,54,55,56,57]:ze)) λr=>.ret (!(zi r ([]:ze))))):T Bool).run=some true:=by
    rw[z8 e1,za (decide_eq_true (by omega)),z7]
   rw[z6 hg,if_pos (.inr (.inl c2))]; rfl
  ·obtain⟨r,h1,h2⟩:=Wu s hs c1
   have hg:(.ite (zi s ([]:ze)) (.ret true) (.ite (decide ((400:Int)<(Nat.cast (List.length s):Int))) (.ret true) (T.bind (ki s ([48,49,50,51,52,53,54,55,56,57]:ze)) λr=>.ret (!(zi r ([]:ze))))):T Bool).run=some (!(qS s)):=by
    rw[z8 e1,z8 (decide_eq_false (by omega)),z6 h1,z7,h2]
   rw[z6 hg]
   cases hd:qS s with
   | false=>rw[if_pos (.inr (.inr rfl))]; rfl
   | true =>
    rw[if_neg (by simp[c1]; omega),z8 (by rfl)]
    have hL:(Qw s (s.length:Int) ([],0)).run=some (zu (wQ s)):=by
     have:=vz (r:=gu s (s.length:Int)) (λst:List Int×Int=>∃ k:Nat,st=(zu (wQ (s.take k)),(k:Int))/\k<=s.length) (λst=>s.length-st.2.toNat) (λ_=>zu (wQ s)) (λst xJ => ?_) (s:=([],0)) ⟨0,by simp[wQ,qk],by omega⟩
     ·exact this
     ·obtain⟨k,rfl,hk⟩:=xJ
      by_cases c:k<s.length
      ·left
       have hb:uK s[k]=true:=List.all_eq_true.1 hd _ (List.getElem_mem c)
       have ht:qS (s.take k)=true:=List.all_eq_true.2 λx hx=>List.all_eq_true.1 hd x (List.mem_of_mem_take hx)
       have hl:=Zq ht
       have hl':(zu (wQ (s.take k))).length<=500:=by rw[List.length_take]at hl; omega
       have hm:=oL (zu (wQ (s.take k))) [10] (zn _) O1 (by omega) (by simp)
       rw[zU,show nv [10]=10 from rfl]at hm
       have hml:=Wb (wQ (s.take k)) 10
       have h10:(zu 10).length<=1:=zQ.2 (by decide)
       have hd9:(zu (s[k].toNat-48)).length<=1:=zQ.2 (by have:=fO.1 hb; show _<4294967296 ^ 1; omega)
       have ha:=BA (zu (wQ (s.take k)*10)) (zu (s[k].toNat-48)) (zn _) (zn _) (by omega) (by omega)
       rw[zU,zU]at ha
       refine⟨(zu (wQ (s.take (k+1))),((k+1:Nat):Int)),?_,⟨k+1,rfl,c⟩,by simp only[Int.toNat_natCast]; omega,rfl⟩
       unfold gu
       dsimp only
       rw[za (uL c),z6 hm,zb (qf c),yE c,z8b 0 _ hb,z6 (yx _ (by have:=fO.1 hb; omega)),z6 ha,z7,ll k _ c (by omega),
        List.take_succ_eq_append_getElem c,Y7]
      ·have:k=s.length:=by omega
       subst this
       right
       unfold gu
       dsimp only
       rw[z8 (kf _),z7,List.take_length]
    rw[z6 hL,z7]
end Go.AM.Lf
namespace Go.AM.PL
def Wq(t:ze):Option (Nat×Nat) :=
 if t.takeWhile uK=[]then none else match t.dropWhile uK with
 | []=>some (wQ (t.takeWhile uK),1)
 | c::q=>if q=[]\/qS q=false then none else if c=46 then some (wQ (t.takeWhile uK)*10 ^ q.length+wQ q,10 ^ q.length)
  else if c=47 then(if wQ q=0 then none else some (wQ (t.takeWhile uK),wQ q))else none
theorem jU{u:ze}(h:qS u=true)(r:ze)(hr:∀ c q,r=c::q->uK c=false):(u++r).takeWhile uK=u/\(u++r).dropWhile uK=r:=by
 induction u with
 | nil =>
  cases r with
  | nil=>exact⟨rfl,rfl⟩
  | cons c q=>have:=hr c q rfl; simp[this]
 | cons b u ih =>
  rw[vT,Bool.and_eq_true]at h
  obtain⟨i1,i2⟩:=ih h.2
  simp[h.1,i1,i2]
theorem Jo{u:ze}(h:qS u=true):Wq u=if u=[]then none else some (wQ u,1):=by
 have:=jU h [] (λc q z=>by cases z)
 rw[List.append_nil]at this
 unfold Wq
 rw[this.1,this.2]
theorem dN{u:ze}(h:qS u=true)(c:UInt8)(q:ze)(hc:uK c=false):Wq (u++c::q)=if u=[]then none else if q=[]\/qS q=false then none else if c=46 then some (wQ u*10 ^ q.length+wQ q,10 ^ q.length)
  else if c=47 then(if wQ q=0 then none else some (wQ u,wQ q))else none:=by
 have:=jU h (c::q) (λc' q' z=>by cases z; exact hc)
 unfold Wq
 rw[this.1,this.2]
theorem Bp{u:ze}(h:qS u=true)(c:UInt8)(q:ze)(hc:uK c=false)(h1:c≠46)(h2:c≠47):Wq (u++c::q)=none:=by
 rw[dN h c q hc,if_neg h1,if_neg h2]
 split
 ·rfl
 ·split<;>rfl
theorem mO{w:ze}(h:qS w=false):∃ u c v,w=u++c::v/\qS u=true/\uK c=false:=by
 induction w with
 | nil=>cases h
 | cons b w ih =>
  cases hb:uK b with
  | false=>exact⟨[],b,w,rfl,rfl,hb⟩
  | true =>
   rw[vT,hb,Bool.true_and]at h
   obtain⟨u,c,v,rfl,h1,h2⟩:=ih h
   exact⟨b::u,c,v,rfl,by rw[vT,hb,h1]; rfl,h2⟩
theorem J9{c:UInt8}{s:ze}(h:c∈s):∃ w q,s=w++c::q/\c ∉ w:=by
 induction s with
 | nil=>cases h
 | cons b s ih =>
  by_cases hb:b=c
  ·subst hb; exact⟨[],s,rfl,by simp⟩
  ·obtain⟨w,q,rfl,h2⟩:=ih (by rcases List.mem_cons.1 h with h | h; exact absurd h.symm hb; exact h)
   exact⟨b::w,q,rfl,by simp[h2]; exact λz=>hb z.symm⟩
theorem z3t(c:UInt8)(w q:ze)(h:c ∉ w):cW (w++c::q) [c]=(w.length:Int):=by
 induction w with
 | nil=>simp[cW]
 | cons b w ih =>
  have hb:c≠b:=λz=>h (by simp[z])
  have hw:=ih (λz=>h (List.mem_cons_of_mem _ z))
  rw[List.cons_append]
  unfold cW
  rw[hw]
  have e1:List.isPrefixOf [c] (b::(w++c::q))=false:=by simp[List.isPrefixOf,hb]
  rw[e1]
  have e2:((w.length:Int) == -1)=false:=by simp
  rw[e2]
  simp
theorem N5(c:UInt8)(s:ze)(h:c ∉ s):cW s [c] = -1:=by
 induction s with
 | nil=>rfl
 | cons b w ih =>
  have hb:c≠b:=λz=>h (by simp[z])
  unfold cW
  rw[ih (λz=>h (List.mem_cons_of_mem _ z))]
  have e1:List.isPrefixOf [c] (b::w)=false:=by simp[List.isPrefixOf,hb]
  rw[e1]; rfl
theorem pN(c:UInt8)(w q:ze)(h:c ∉ w):wU (w++c::q) [c]=(w,q,true):=by
 unfold wU
 rw[z3t c w q h,if_pos (by omega)]
 simp
theorem eY(c:UInt8)(s:ze)(h:c ∉ s):wU s [c]=(s,[],false):=by
 unfold wU
 rw[N5 c s h,if_neg (by omega)]
theorem KZ{s:ze}{n:Nat}(h:lO s=some n):s≠[]/\s.length<=400/\qS s=true/\n=wQ s:=by
 unfold lO at h
 split at h
 ·cases h
 ·rename_i hc
  cases h
  simp only[not_or]at hc
  exact⟨hc.1,by omega,by simpa using hc.2.2,rfl⟩
theorem Zr{s:ze}(h1:s≠[])(h2:s.length<=400)(h3:qS s=true):lO s=some (wQ s):=by
 unfold lO
 rw[if_neg (by simp[h1,h3]; omega)]
theorem lN{s:ze}(h:s=[]\/qS s=false):lO s=none:=by
 unfold lO
 rw[if_pos (by rcases h with h | h; exact .inl h; exact .inr (.inr h))]
end Go.AM.PL
namespace Go.AM.Lf
open PL
def zR:Rat:=(false,[],[],())
def tA(s:ze):Option (Nat×Nat):=Wq (cV s [45])
theorem XV(s p:ze):(cV s p).length<=s.length:=by unfold cV; split<;>simp
theorem Fs(t:ze)(ht:t.length<=400)(neg:Bool) :
  (T.bind (strings_Cut t ([46]:ze)) λ(whole,part,ok) =>
   .ite ok
    (T.bind (vr part) λ(r,is) =>
     .zL (((List.length whole)+(List.length part))<=(4611686018427387904:Nat)) <|
     T.bind (vr (cat whole part)) λ(n,both) =>
     .ite ((zi whole ([]:ze))||((!is)||(!both)))
      (.ret ((false,(([]:List Int),(([]:List Int),()))),(2:Int)))
      (T.bind (pR (Nat.cast (List.length part):Int)) λr1 =>
       T.bind (lT neg n r1) λr2 =>
       .ret (r2,(0:Int))))
    (T.bind (strings_Cut t ([47]:ze)) λ(num,den,ok1) =>
     T.bind (vr num) λ(n1,is1) =>
     T.bind (vr (bif (!ok1)then([49]:ze)else den)) λ(d,both1) =>
     .ite ((!is1)||((!both1)||((Nat.cast (List.length d):Int)==(0:Int))))
      (.ret ((false,(([]:List Int),(([]:List Int),()))),(2:Int)))
      (T.bind (lT neg n1 d) λr3 =>
       .ret (r3,(0:Int)))):T (Rat×Int)).run=some (match Wq t with | some (n,d)=>(va neg n d,(0:Int)) | none=>(zR,(2:Int))):=by
 have Qz:∀ c:UInt8,(strings_Cut t [c]).run=some (wU t [c]):=λc=>by
  unfold strings_Cut; rw[zb (by omega),z7]
 rw[z6 (Qz 46)]
 have h46:uK 46=false:=by decide
 have h47:uK 47=false:=by decide
 by_cases c1:(46:UInt8)∈t
 ·obtain⟨w,p,rfl,hw⟩:=J9 c1
  rw[pN 46 w p hw]
  have hl:w.length+p.length+1<=400:=by simp at ht; omega
  dsimp only
  rw[zj,z6 (bT p (by omega))]
  have hwp:=bT (cat w p) (by rw[zV]; omega)
  by_cases d1:qS w=true
  ·rw[dN d1 46 p h46]
   by_cases d2:w=[]
   ·subst d2
    rw[if_pos rfl]
    generalize lO p=o at *
    cases o<;>(dsimp only; rw[zp _ (by simp; omega),z6 hwp]; generalize lO (cat [] p)=o2; cases o2<;>rfl)
   ·rw[if_neg d2]
    by_cases d3:p=[]\/qS p=false
    ·rw[if_pos d3,lN d3]
     dsimp only
     rw[zp _ (by omega),z6 hwp]
     generalize lO (cat w p)=o2
     cases o2<;>(dsimp only; rw[za (by simp),z7]; rfl)
    ·rw[if_neg d3,if_pos rfl]
     have d4:p≠[]:=λz=>d3 (.inl z)
     have d5:qS p=true:=by cases h:qS p with | true=>rfl | false=>exact absurd (.inr h) d3
     have d6:qS (cat w p)=true:=by rw[jC,bV,d1,d5]; rfl
     have d7:cat w p≠[]:=by rw[jC]; simp[d2]
     rw[Zr d4 (by omega) d5]
     rw[Zr d7 (by rw[zV]; omega) d6]at hwp
     dsimp only at hwp ⊢
     have e1:zi w []=false:=by rw[xP]; simpa using d2
     have h10:=rW p.length
     have hn:=Zq d6
     have ho:=tu neg (zu (wQ (cat w p))) (zu (10 ^ p.length)) (zn _) (zn _) (by rw[zV]at hn; omega) (by omega)
     rw[zU,zU]at ho
     rw[zp _ (by omega),z6 hwp]
     dsimp only
     rw[z8 (by rw[e1]; rfl),z6 (oz p.length (by omega)),z6 ho,z7,jC,Z7]
  ·have d1:qS w=false:=by simpa using d1
   obtain⟨u,c,v,rfl,g1,g2⟩:=mO d1
   have z1M:c≠46:=λz=>hw (by simp[z])
   have e:Wq (u++c::v++46::p)=none:=by
    rw[List.append_assoc,List.cons_append,dN g1 c _ g2]
    have:qS (v++46::p)=false:=by rw[bV,vT,h46]; simp
    rw[if_pos (show v++46::p=[]\/qS (v++46::p)=false from .inr this)]; split<;>rfl
   rw[e]
   have kK:lO (cat (u++c::v) p)=none:=lN (.inr (by rw[jC,bV,d1]; rfl))
   rw[kK]at hwp
   generalize lO p=o at *
   cases o<;>(dsimp only; rw[zp _ (by omega),z6 hwp]; dsimp only; rw[za (by simp),z7]; rfl)
 ·rw[eY 46 t c1]
  dsimp only
  rw[zg,z6 (Qz 47)]
  have fin:∀ (num den:ze) (x:Bool),num.length<=400->den.length<=400->(T.bind (vr num) λ(n1,is1) =>
     T.bind (vr (bif (!x)then([49]:ze)else den)) λ(d,both1) =>
     .ite ((!is1)||((!both1)||((Nat.cast (List.length d):Int)==(0:Int))))
      (.ret ((false,(([]:List Int),(([]:List Int),()))),(2:Int)))
      (T.bind (lT neg n1 d) λr3=>.ret (r3,(0:Int))):T (Rat×Int)).run =
     some (match lO num,lO (bif (!x)then([49]:ze)else den)with | some n,some d=>if d=0 then(zR,(2:Int))else(va neg n d,(0:Int)) | _,_=>(zR,(2:Int))):=by
   intro num den x hn hd
   have hd2:(bif (!x)then([49]:ze)else den).length<=400:=by cases x<;>simp[hd]
   generalize (bif (!x)then([49]:ze)else den)=dd at *
   rw[z6 (bT num (by omega))]
   have Io:=bT dd (by omega)
   cases h1:lO num with
   | none =>
    dsimp only
    rw[z6 Io]
    generalize lO dd=o
    cases o<;>rfl
   | some n =>
    dsimp only
    rw[z6 Io]
    cases h2:lO dd with
    | none=>rfl
    | some d =>
     obtain⟨a1,a2,a3,rfl⟩:=KZ h1
     obtain⟨b1,b2,b3,rfl⟩:=KZ h2
     dsimp only
     have l1:=Zq a3
     have l2:=Zq b3
     by_cases z:wQ dd=0
     ·rw[z,qk,if_pos rfl]; rfl
     ·rw[if_neg z]
      have:(zu (wQ dd)).length≠0:=λh=>z (qZ.1 (List.eq_nil_of_length_eq_zero h))
      have ho:=tu neg (zu (wQ num)) (zu (wQ dd)) (zn _) (zn _) (by omega) (by omega)
      rw[zU,zU]at ho
      rw[z8 (by simp; exact λh=>z (qZ.1 h)),z6 ho,z7]
  by_cases c2:(47:UInt8)∈t
  ·obtain⟨w,q,rfl,hw⟩:=J9 c2
   rw[pN 47 w q hw]
   have hl:w.length+q.length+1<=400:=by simp at ht; omega
   rw[fin w q true (by omega) (by omega)]
   rw[show(bif (!true)then([49]:ze)else q)=q from rfl]
   by_cases d1:qS w=true
   ·rw[dN d1 47 q h47]
    by_cases d2:w=[]
    ·rw[if_pos d2,lN (.inl d2)]
    ·rw[if_neg d2,Zr d2 (by omega) d1]
     by_cases d3:q=[]\/qS q=false
     ·rw[if_pos d3,lN d3]
     ·have d4:q≠[]:=λz=>d3 (.inl z)
      have d5:qS q=true:=by cases h:qS q with | true=>rfl | false=>exact absurd (.inr h) d3
      rw[if_neg d3,if_neg (by decide),if_pos rfl,Zr d4 (by omega) d5]
      dsimp only
      split<;>rfl
   ·have d1:qS w=false:=by simpa using d1
    obtain⟨u,c,v,rfl,g1,g2⟩:=mO d1
    rw[lN (.inr d1)]
    have z6L:c≠47:=λz=>hw (by simp[z])
    have z1M:c≠46:=λz=>c1 (by simp[z])
    rw[List.append_assoc,List.cons_append,Bp g1 c _ g2 z1M z6L]
  ·rw[eY 47 t c2]
   rw[fin t [] false ht (by simp)]
   rw[show(bif (!false)then([49]:ze)else[])=[49]from rfl]
   have h1:lO [49]=some 1:=by decide
   rw[h1]
   by_cases d1:qS t=true
   ·rw[Jo d1]
    by_cases d2:t=[]
    ·rw[if_pos d2,lN (.inl d2)]
    ·rw[if_neg d2,Zr d2 ht d1]; rfl
   ·have d1:qS t=false:=by simpa using d1
    rw[lN (.inr d1)]
    obtain⟨u,c,v,rfl,g1,g2⟩:=mO d1
    have z6L:c≠47:=λz=>c2 (by simp[z])
    have z1M:c≠46:=λz=>c1 (by simp[z])
    rw[Bp g1 c _ g2 z1M z6L]
theorem bR(s:ze)(hs:s.length<=1000000000):(wq s).run=some (if 400<s.length then(zR,(3:Int))else match tA s with | some (n,d)=>(va (List.isPrefixOf [45] s) n d,(0:Int)) | none=>(zR,(2:Int))):=by
 unfold wq
 by_cases c:400<s.length
 ·rw[za (decide_eq_true (by omega)),if_pos c,z7]; rfl
 ·have hp:(strings_CutPrefix s [45]).run=some (cV s [45],List.isPrefixOf [45] s):=rfl
  have hl:=XV s [45]
  rw[z8 (decide_eq_false (by omega)),if_neg c,z6 hp]
  exact Fs _ (by omega) _
end Go.AM.Lf
namespace Go.AM.PL
theorem z6h(t:ze):∃ u r,t=u++r/\qS u=true/\(∀ c q,r=c::q->uK c=false):=by
 induction t with
 | nil=>exact⟨[],[],rfl,rfl,λc q h=>by cases h⟩
 | cons b t ih =>
  cases hb:uK b with
  | false=>exact⟨[],b::t,rfl,rfl,λc q h=>by cases h; exact hb⟩
  | true =>
   obtain⟨u,r,rfl,h1,h2⟩:=ih
   exact⟨b::u,r,rfl,by rw[vT,hb,h1]; rfl,h2⟩
end Go.AM.PL

namespace Go.AM.PL
theorem z2c(n:Nat):uK (Ou n)=true/\(Ou n).toNat-48=n % 10:=by
 have h:(Ou n).toNat=48+n % 10:=by unfold Ou; rw[UInt8.toNat_ofNat']; omega
 exact⟨fO.2 (by omega),by omega⟩
theorem Sb(n:Nat):qS (CG n)=true/\wQ (CG n)=n:=by
 induction n using Nat.strongRecOn with
 | _ n ih =>
  by_cases h:n=0
  ·subst h; rw[dM]; exact⟨rfl,rfl⟩
  ·obtain⟨h1,h2⟩:=ih (n / 10) (by omega)
   obtain⟨h3,h4⟩:=z2c n
   rw[ir h]
   refine⟨by rw[bV,h1,vT,h3]; rfl,?_⟩
   rw[Y7,h2,h4]; omega
theorem lZ(n:Nat):qS (pr n)=true/\wQ (pr n)=n:=by
 unfold pr
 split
 ·rename_i h; subst h; exact⟨by decide,by decide⟩
 ·exact Sb n
theorem z7L{n:Nat}(h:n≠0):CG n≠[]:=by rw[ir h]; simp
theorem IH(n:Nat):pr n≠[]:=by
 unfold pr
 split
 ·simp
 ·rename_i h; exact z7L h
theorem z5w(n k:Nat)(hk:1<=k)(h:n<10 ^ k):(pr n).length<=k:=by
 unfold pr
 split
 ·simpa using hk
 ·exact z19 n k h
theorem z06(k:Nat):qS (jV [48] k)=true/\wQ (jV [48] k)=0:=by
 induction k with
 | zero=>exact⟨rfl,rfl⟩
 | succ k ih =>
  show qS ([48]++jV [48] k)=true/\wQ ([48]++jV [48] k)=0
  rw[bV,Z7,ih.1,ih.2]
  exact⟨by decide,by show 0*_+0=0; omega⟩
theorem Jp{t:ze}(h:qS t=true)(hn:t≠[])(r:ze):List.isPrefixOf [45] (t++r)=false:=by
 cases t with
 | nil=>exact absurd rfl hn
 | cons b t =>
  rw[vT,Bool.and_eq_true]at h
  have hb:=fO.1 h.1
  have:(45:UInt8)≠b:=λz=>by subst z; have e:(45:UInt8).toNat=45:=rfl; omega
  show((45:UInt8)==b&&true)=false
  rw[Bool.and_true]; exact beq_eq_false_iff_ne.2 this
end Go.AM.PL
namespace Go.AM.Lf
open PL
theorem z3T(b:Bool)(t:ze)(h:List.isPrefixOf [45] t=false):List.isPrefixOf [45] (Wz b++t)=b/\cV (Wz b++t) [45]=t:=by
 unfold cV Wz
 cases b with
 | false=>rw[if_neg (by simp),List.nil_append]; exact⟨h,by rw[if_neg (by rw[h]; simp)]⟩
 | true =>
  have e:List.isPrefixOf [45] ([45]++t)=true:=by simp[List.isPrefixOf]
  rw[if_pos rfl,e]
  exact⟨rfl,by rw[if_pos rfl]; simp⟩
theorem Ve(b:Bool)(t:ze)(n d:Nat)(h:List.isPrefixOf [45] t=false)(hl:t.length<=399)(hd:Wq t=some (n,d)):(wq (Wz b++t)).run=some (va b n d,0):=by
 obtain⟨h1,h2⟩:=z3T b t h
 have hs:=mo b
 have hlen:(Wz b++t).length<=400:=by rw[List.length_append]; omega
 rw[bR _ (by omega),if_neg (by omega)]
 unfold tA
 rw[h1,h2,hd]
theorem Xo(b:Bool)(n:Nat)(hl:(pr n).length<=399):(wq (Wz b++pr n)).run=some (va b n 1,0):=by
 obtain⟨h1,h2⟩:=lZ n
 have h3:=IH n
 have:=Jp h1 h3 []
 rw[List.append_nil]at this
 exact Ve b (pr n) n 1 this hl (by rw[Jo h1,if_neg h3,h2])
theorem Fq(b:Bool)(n d:Nat)(hd:d≠0)(hl:(pr n).length+(pr d).length<=398):(wq (Wz b++(pr n++47::pr d))).run=some (va b n d,0):=by
 obtain⟨h1,h2⟩:=lZ n
 obtain⟨k1,k2⟩:=lZ d
 have h3:=IH n
 have k3:=IH d
 refine Ve b _ n d (Jp h1 h3 _) (by simp; omega) ?_
 rw[dN h1 47 _ (by decide),if_neg h3,if_neg (by simp[k3,k1]),if_neg (by decide),if_pos rfl,k2,if_neg hd,h2]
theorem QY(s:ze)(k:Nat)(hk:k≠0)(hs:qS s=true):∃ w p,KW s k=w++46::p/\qS w=true/\w≠[]/\qS p=true/\p.length=k/\wQ w*10 ^ k+wQ p=wQ s/\w.length+k=max s.length (k+1):=by
 unfold KW
 rw[if_neg hk]
 have hr:=z06 (k+1-s.length)
 have hl:=ZC (k+1-s.length)
 have hd:qS (jV [48] (k+1-s.length)++s)=true:=by rw[bV,hr.1,hs]; rfl
 have hv:wQ (jV [48] (k+1-s.length)++s)=wQ s:=by rw[Z7,hr.2]; omega
 have hlen:(jV [48] (k+1-s.length)++s).length=(k+1-s.length)+s.length:=by rw[List.length_append,hl]
 generalize jV [48] (k+1-s.length)++s=t at *
 refine⟨t.take (t.length-k),t.drop (t.length-k),by simp,?_,?_,?_,by simp; omega,?_,by simp; omega⟩
 ·exact List.all_eq_true.2 λx hx=>List.all_eq_true.1 hd x (List.mem_of_mem_take hx)
 ·intro z
  have:=congrArg List.length z
  simp at this; omega
 ·exact List.all_eq_true.2 λx hx=>List.all_eq_true.1 hd x (List.mem_of_mem_drop hx)
 ·have:=Z7 (t.take (t.length-k)) (t.drop (t.length-k))
  rw[List.take_append_drop,hv,List.length_drop,show t.length-(t.length-k)=k by omega]at this
  exact this.symm
theorem N6(b:Bool)(n k:Nat)(hl:(pr n).length+k<=397):(wq (Wz b++KW (pr n) k)).run=some (va b n (10 ^ k),0):=by
 obtain⟨h1,h2⟩:=lZ n
 by_cases hk:k=0
 ·subst hk
  have:KW (pr n) 0=pr n:=by unfold KW; rw[if_pos rfl]
  rw[this]
  exact Xo b n (by omega)
 ·obtain⟨w,p,e,a1,a2,a3,a4,a5,a6⟩:=QY (pr n) k hk h1
  rw[e]
  have hp:p≠[]:=λz=>hk (by rw[<- a4,z]; rfl)
  refine Ve b _ n (10 ^ k) (Jp a1 a2 _) (by simp; omega) ?_
  rw[dN a1 46 _ (by decide),if_neg a2,if_neg (by simp[hp,a3]),if_pos rfl,a4,a5,h2]
theorem BG(n k:Nat)(h:(zu n).length<=k):n<10 ^ (10*k):=by
 refine Nat.lt_of_lt_of_le (zQ.1 h) ?_
 rw[Nat.pow_mul]
 exact Nat.pow_le_pow_left (by decide) k
theorem Vc(n k:Nat)(hk:1<=k)(h:(zu n).length<=k):(pr n).length<=10*k:=z5w n (10*k) (by omega) (BG n k h)
theorem Yp(a:Rat):va (norm a).1 (nv (norm a).2.1) (nv (norm a).2.2.1)=norm a:=NV a
theorem Br(a:Rat)(h:we 1000 a)(hl:(pr (nv (norm a).2.1)).length+(pr (nv (norm a).2.2.1)).length<=398):(wq (vk (norm a))).run=some (norm a,0):=by
 have hd:=oP a.1 (nv a.2.1) (nv a.2.2.1)
 have hs:=Yp a
 change nv (norm a).2.2.1≠0 at hd
 generalize norm a=v at *
 unfold vk
 by_cases c:nv v.2.2.1=1
 ·rw[if_pos c,Xo _ _ (by omega)]
  rw[c]at hs
  rw[hs]
 ·rw[if_neg c,List.append_assoc]
  show(wq (Wz v.1++(pr (nv v.2.1)++(47::pr (nv v.2.2.1))))).run=_
  rw[Fq _ _ _ hd hl,hs]
theorem Ns(b:Bool)(n d m e:Nat)(hd:d≠0)(he:e≠0)(h:n*e=m*d):va b n d=va b m e:=by
 rw[D4,D4]
 congr 1
 rw[SG,SG,Rat.mkRat_eq_iff hd he]
 unfold sgn
 cases b with
 | false=>simp only[Bool.false_eq_true,if_false]; exact_mod_cast h
 | true=>simp only[if_true]; rw[Int.neg_mul,Int.neg_mul]; congr 1; exact_mod_cast h
theorem rm(b:Bool)(N D:Nat)(hD:D≠0):∀ (f k:Nat) (s:ze),qG b N D k f=(s,true)->∃ j,k<=j/\j<k+f/\N*10 ^ j % D=0/\s=Wz b++KW (pr (N*10 ^ j / D)) j
 | 0,k,s,h=>by unfold qG at h; cases h
 | f+1,k,s,h=>by
  unfold qG at h
  split at h
  ·rename_i c; cases h; exact⟨k,Nat.le_refl _,by omega,c,rfl⟩
  ·obtain⟨j,h1,h2,h3,h4⟩:=rm b N D hD f (k+1) s h
   exact⟨j,by omega,by omega,h3,h4⟩
theorem B8(v:Rat)(hv:va v.1 (nv v.2.1) (nv v.2.2.1)=v)(hd:nv v.2.2.1≠0)(hl:(zu (nv v.2.1)).length<=16)(s:ze)(h:qG v.1 (nv v.2.1) (nv v.2.2.1) 0 61=(s,true)):(wq s).run=some (v,0):=by
 obtain⟨j,_,h2,h3,rfl⟩:=rm _ _ _ hd _ _ _ h
 have hN:=BG _ _ hl
 have hq:nv v.2.1*10 ^ j / nv v.2.2.1<10 ^ (160+j):=by
  refine Nat.lt_of_le_of_lt (Nat.div_le_self _ _) ?_
  rw[Nat.pow_add]
  exact Nat.mul_lt_mul_of_pos_right hN (Nat.pow_pos (by omega))
 have hp:=z5w _ (160+j) (by omega) hq
 rw[N6 _ _ j (by omega)]
 have:va v.1 (nv v.2.1*10 ^ j / nv v.2.2.1) (10 ^ j)=va v.1 (nv v.2.1) (nv v.2.2.1):=by
  refine Ns _ _ _ _ _ (Nat.pos_iff_ne_zero.1 (Nat.pow_pos (by omega))) hd ?_
  rw[Nat.div_mul_cancel (Nat.dvd_of_mod_eq_zero h3)]
 rw[this,hv]
theorem z3W{t:ze}{n d:Nat}(h:Wq t=some (n,d)):n<10 ^ t.length/\d<=10 ^ t.length:=by
 obtain⟨u,r,rfl,h1,h2⟩:=z6h t
 have hu:=GW h1
 cases r with
 | nil =>
  rw[List.append_nil,Jo h1]at h
  split at h
  ·cases h
  ·cases h
   rw[List.append_nil]
   exact⟨hu,Nat.one_le_pow _ _ (by omega)⟩
 | cons c q =>
  rw[dN h1 c q (h2 c q rfl)]at h
  have hl:(u++c::q).length=u.length+q.length+1:=by simp; omega
  have mono:∀ {a b:Nat},a<=b->10 ^ a<=10 ^ b:=λh=>Nat.pow_le_pow_right (by omega) h
  split at h
  ·cases h
  ·split at h
   ·cases h
   ·rename_i hq
    have hd:qS q=true:=by cases hh:qS q with | true=>rfl | false=>exact absurd (.inr hh) hq
    have hq1:=GW hd
    rw[hl]
    split at h
    ·cases h
     refine⟨?_,mono (by omega)⟩
     have e:10 ^ (u.length+q.length)<=10 ^ (u.length+q.length+1):=mono (by omega)
     rw[Nat.pow_add]at e
     have:(wQ u+1)*10 ^ q.length<=10 ^ u.length*10 ^ q.length:=Nat.mul_le_mul_right _ hu
     rw[Nat.add_mul,Nat.one_mul]at this
     omega
    ·split at h
     ·split at h
      ·cases h
      ·cases h
       have e1:10 ^ u.length<=10 ^ (u.length+q.length+1):=mono (by omega)
       have e2:10 ^ q.length<=10 ^ (u.length+q.length+1):=mono (by omega)
       omega
     ·cases h
theorem zci:10 ^ 400<4294967296 ^ 42:=by decide +kernel
theorem RX{n k:Nat}(h:n<=10 ^ k)(hk:k<=400):(zu n).length<=42 :=
 zQ.2 (Nat.lt_of_le_of_lt (Nat.le_trans h (Nat.pow_le_pow_right (by omega) hk)) zci)
theorem W6{s:ze}{n d:Nat}(neg:Bool)(hs:s.length<=400)(h:tA s=some (n,d)):we 50 (va neg n d):=by
 have hl:=XV s [45]
 obtain⟨h1,h2⟩:=z3W h
 exact Ir _ _ _ _ (by omega) (Nat.le_trans (RX (by omega) (by omega:(cV s [45]).length<=400)) (by omega)) (Nat.le_trans (RX h2 (by omega)) (by omega))
def tQ{α:Type}(p:α->Bool)(i:Int):List α->Int
 | [] => -1
 | x::r=>if p x=true then i else tQ p (i+1) r
end Go.AM.Lf
namespace Go.AM.T
theorem zh{α β:Type}(a:β)(t:T α):(zL (a=a) t).run=t.run:=zb rfl t
end Go.AM.T
namespace Go.AM.Lf
open PL
abbrev zeR:Ty:=.cons .str (.cons vc .nil)
abbrev ItT:=den zeR
theorem kO{α:Type}{l:List α}{k:Nat}(h:k<l.length)(d:α):nth l (k:Int) d=l[k]:=by simp[nth,h]
theorem Xm(s:ze):(bytesOf s).length=s.length:=by unfold bytesOf; simp
theorem BT(s t:ze):bytesOf (s++t)=bytesOf s++bytesOf t:=by unfold bytesOf; simp
theorem Bi(s:ze):qF (bytesOf s)=s:=by
 unfold qF bytesOf
 rw[List.map_map]
 conv=>rhs; rw[<- List.map_id s]
 refine List.map_congr_left λb _ => ?_
 simp[byteOf]
theorem Kh(s:ze):∀ n∈bytesOf s,(0:Int)<=n/\n<256:=by
 intro n hn
 unfold bytesOf at hn
 obtain⟨b,_,rfl⟩:=List.mem_map.1 hn
 have:=b.toNat_lt
 omega
theorem vW(s b:ze)(h:b.length+s.length<=140737488355328):(q8 s () (bytesOf b)).run=some ((s.length:Int),(),bytesOf (b++s)):=by
 unfold q8 iw
 simp only[T.bind]
 rw[zK _ rfl rfl rfl,zb rfl,mN _ rfl rfl rfl (by simp only[Xm]; omega),zK _ (by simp) rfl (by simp),zb (by simp),z7,BT]
theorem JJ(b:ze)(h:b.length<=140737488355328):(ma () (bytesOf b)).run=some (b,()):=by
 unfold ma z2O
 rw[zb ⟨Kh b,by rw[Xm]; exact h⟩,z7,Bi]
def zcl(x:ItT):ze:=x.1++[32]++vk (norm x.2.1)++[10]
def XJ(b:UInt8):Bool:=decide (97<=(b.toNat:Int))&&decide ((b.toNat:Int)<=122)
def wX(b:UInt8):Bool:=XJ b||((decide (48<=(b.toNat:Int))&&decide ((b.toNat:Int)<=57))||((b.toNat:Int)==95))
def zG(s:ze):Bool:=match s with | []=>false | b::_=>decide (s.length<=24)&&(XJ b&&s.all wX)
theorem pD(b:UInt8):(ve (b.toNat:Int)).run=some (wX b):=by
 have h1:(wI (b.toNat:Int)).run=some (XJ b):=rfl
 have h2:(xH (b.toNat:Int)).run=some (decide (48<=(b.toNat:Int))&&decide ((b.toNat:Int)<=57)):=rfl
 unfold ve wX
 rw[z6 h1]
 cases XJ b with
 | true=>rw[zj,z7]; rfl
 | false =>
  rw[zg,z6 h2]
  cases(decide (48<=(b.toNat:Int))&&decide ((b.toNat:Int)<=57))with
  | true=>rw[zj,z7]; rfl
  | false=>rw[zg,z7]; rfl
theorem xG(s:ze):(xi s).run=some (zG s):=by
 unfold xi
 cases s with
 | nil=>rfl
 | cons b r =>
  have e0:zi (b::r) []=false:=by rw[xP]; simp
  rw[e0]
  by_cases c:24<(b::r).length
  ·have:(T.ite false (.ret true) (.ite (decide ((24:Int)<((b::r).length:Int))) (.ret true) (.zL (qt (0:Int) (List.length (b::r)))<|T.bind (wI (qo (b::r) (0:Int))) λr=>.ret (!r))):T Bool).run=some true:=by
    rw[zg,za (decide_eq_true (by omega)),z7]
   rw[z6 this,zj,z7]
   unfold zG
   rw[decide_eq_false (by omega)]; rfl
  ·have hb:qo (b::r) (0:Int)=(b.toNat:Int):=yE (s:=b::r) (k:=0) (by simp)
   have h1:(wI (b.toNat:Int)).run=some (XJ b):=rfl
   have:(T.ite false (.ret true) (.ite (decide ((24:Int)<((b::r).length:Int))) (.ret true) (.zL (qt (0:Int) (List.length (b::r)))<|T.bind (wI (qo (b::r) (0:Int))) λr=>.ret (!r))):T Bool).run=some (!XJ b):=by
    rw[zg,z8 (decide_eq_false (by omega)),zb (by refine⟨by omega,?_⟩; simp only[List.length_cons]; omega),hb,z6 h1,z7]
   rw[z6 this]
   unfold zG
   dsimp only
   rw[decide_eq_true (by omega),Bool.true_and]
   cases XJ b with
   | false=>rw[za (by rfl),z7]; rfl
   | true =>
    rw[z8 (by rfl),Bool.true_and]
    have key:(Qg (b::r) ((b::r).length:Int) 0).run=some (if(b::r).all wX=true then .inl ()else .inr false):=by
     refine T.r9 (r:=ko (b::r) ((b::r).length:Int)) (b::r) (0:UInt8) (λ(_:Unit) i=>i) (λ_ _=>True) (λl _=>(if l.all wX=true then .inl ()else .inr false:Unit⊕Bool)) (λk _ x xs hk hx hm hd hI => ?_) (λ_ _ => ?_) (b:=()) trivial
     ·have hxk:(b::r)[k]=x:=by rw[<- hx]; unfold nth; rw[Int.toNat_natCast,List.getD_eq_getElem?_getD,List.getElem?_eq_getElem hk]; rfl
      have DE:qo (b::r) (k:Int)=(x.toNat:Int):=by rw[yE hk,hxk]
      cases Xu:wX x with
      | true =>
       left
       refine⟨(),?_,trivial,?_⟩
       ·unfold ko
        rw[za (uL hk),zb (qf hk),DE,z6 (pD x),Xu,z8 (by rfl),z7,ll k _ hk (by omega)]
       ·rw[List.all_cons,Xu,Bool.true_and]
      | false =>
       right
       unfold ko
       rw[za (uL hk),zb (qf hk),DE,z6 (pD x),Xu,za (by rfl),z7,List.all_cons,Xu]
       rfl
     ·unfold ko
      rw[z8 (kf _),z7]; rfl
    rw[z6 key]
    cases h:(b::r).all wX with
    | true=>rfl
    | false=>rfl
theorem sB(l:List ze)(v:ze)(hl:l.length<=1000000000):(qP l v).run=some (PL.tQ (λs=>zi v s) 0 l):=by
 have key:(kD l v (l.length:Int) 0).run=some (if PL.tQ (λs=>zi v s) 0 l = -1 then .inl ()else .inr (PL.tQ (λs=>zi v s) 0 l)):=by
  refine PL.Q6 (r:=qM l v (l.length:Int)) l (zk .str) _ (λi h0 h hp => ?_) (λi h0 h hp => ?_) (λi h => ?_)
  ·unfold qM
   rw[za (decide_eq_true h),zb ⟨h0,h⟩,za hp,z7]
  ·unfold qM
   rw[za (decide_eq_true h),zb ⟨h0,h⟩,z8 hp,z7,zA (by omega) (by omega)]
  ·unfold qM
   rw[z8 (decide_eq_false h),z7]
 unfold qP
 rw[z6 key]
 split<;>rename_i h
 ·rw[h]; rfl
 ·rfl
theorem lv{α:Type}(f:α->Nat)(l:List α):∀ x∈l,f x<=cT f l:=by
 induction l with
 | nil=>intro x hx; cases hx
 | cons y l ih =>
  intro x hx
  show _<=f y+cT f l
  rcases List.mem_cons.1 hx with rfl | hx
  ·omega
  ·have:=ih x hx; omega
theorem lg{α:Type}(f:α->Nat)(l:List α)(h:∀ x,1<=f x):l.length<=cT f l:=by
 induction l with
 | nil=>simp
 | cons y l ih =>
  show _<=f y+cT f l
  have:=h y
  simp; omega
mutual
/-- What an expression weighs. -/
def szE:Expr->Nat
 | .mk _ n s l=>3+s.length+8*n.2.1.length+8*n.2.2.1.length+szEs l
def szEs:List Expr->Nat
 | []=>0
 | e::r=>szE e+szEs r
end
mutual
theorem UB:∀ (e:Expr) (left:Int),0<=wtE e left->wtE e left=left-szE e
 | .mk _ n s l,left,h=>by
  have:=L8 l (left-3-s.length-8*n.2.1.length-8*n.2.2.1.length)
  simp only[wtE,szE]at h ⊢
  rw[this h]; omega
theorem L8:∀ (l:List Expr) (left:Int),0<=wtEs l left->wtEs l left=left-szEs l
 | [],left,h=>by simp[wtEs,szEs]
 | e::r,left,h=>by
  have h1:=UB e left
  have h2:=L8 r (wtE e left)
  have h3:=(HF r (wtE e left)).1
  by_cases c:0<=left
  ·simp only[wtEs,szEs,if_pos c]at h ⊢
   rw[h2 h,h1 (by omega)]; omega
  ·simp only[wtEs,if_neg c]at h; omega
end
structure FB(f:Form):Prop where
 l1:f.1.length<=1048576
 l2:f.2.1.length<=1048576
 l3:f.2.2.1.length<=1048576
 l4:f.2.2.2.1.length<=1048576
 l5:f.2.2.2.2.1.length<=1048576
 l6:f.2.2.2.2.2.1.length<=1048576
 s:∀ x∈f.1,x.1.length<=1048576
 p:∀ x∈f.2.1,x.1.length<=1048576/\x.2.1.2.1.length<=1048576/\x.2.1.2.2.1.length<=1048576/\zm x.2.1.2.1/\zm x.2.1.2.2.1
 g:∀ x∈f.2.2.1,x.1.length<=1048576/\x.2.1.length<=1048576
 d:∀ x∈f.2.2.2.1,x.1.length<=1048576
 r:∀ x∈f.2.2.2.2.1,x.1.length<=1048576/\x.2.2.1.length<=1048576/\bkE x.2.2.2.1<=1048576/\bkE x.2.2.2.2.1<=1048576
 c:∀ x∈f.2.2.2.2.2.1,x.1.length<=1048576/\bkE x.2.2.2.1<=1048576/\bkE x.2.2.2.2.1<=1048576
theorem z4S{f:Form}(hw:wf qc f)(hb:bk qc f<=1048576):FB f:=by
 have e1:bk qc f=(cT (bk zw) f.1+1)+((cT (bk zM) f.2.1+1)+((cT (bk zY) f.2.2.1+1)+((cT (bk zN) f.2.2.2.1+1)+((cT (bk q9) f.2.2.2.2.1+1)+((cT (bk zT) f.2.2.2.2.2.1+1)+1))))):=rfl
 have b1:∀ x,bk zw x=(x.1.length+1)+(1+1):=λ_=>rfl
 have b2:∀ x,bk zM x=(x.1.length+1)+((1+((cT (bk u32) x.2.1.2.1+1)+((cT (bk u32) x.2.1.2.2.1+1)+1)))+1):=λ_=>rfl
 have b3:∀ x,bk zY x=(x.1.length+1)+((x.2.1.length+1)+1):=λ_=>rfl
 have b4:∀ x,bk zN x=(x.1.length+1)+(1+(1+(1+1))):=λ_=>rfl
 have b5:∀ x,bk q9 x=(x.1.length+1)+(1+((x.2.2.1.length+1)+(bkE x.2.2.2.1+(bkE x.2.2.2.2.1+1)))):=λ_=>rfl
 have b6:∀ x,bk zT x=(x.1.length+1)+(1+(1+(bkE x.2.2.2.1+(bkE x.2.2.2.2.1+1)))):=λ_=>rfl
 have u1:∀ l:List Int,cT (bk u32) l=l.length:=λl=>Cv l
 have k1:=lg (bk zw) f.1 (λx=>by rw[b1]; omega)
 have k2:=lg (bk zM) f.2.1 (λx=>by rw[b2]; omega)
 have k3:=lg (bk zY) f.2.2.1 (λx=>by rw[b3]; omega)
 have k4:=lg (bk zN) f.2.2.2.1 (λx=>by rw[b4]; omega)
 have k5:=lg (bk q9) f.2.2.2.2.1 (λx=>by rw[b5]; omega)
 have k6:=lg (bk zT) f.2.2.2.2.2.1 (λx=>by rw[b6]; omega)
 rw[e1]at hb
 refine⟨by omega,by omega,by omega,by omega,by omega,by omega,λx hx => ?_,λx hx => ?_,λx hx => ?_,λx hx => ?_,λx hx => ?_,λx hx => ?_⟩
 ·have:=lv (bk zw) f.1 x hx; rw[b1]at this; omega
 ·have:=lv (bk zM) f.2.1 x hx
  rw[b2,u1,u1]at this
  have hwx:wf zM x:=hw.2.1 x hx
  obtain⟨r1,r2⟩:=RH hwx.2.1
  exact⟨by omega,by omega,by omega,r1,r2⟩
 ·have:=lv (bk zY) f.2.2.1 x hx; rw[b3]at this; exact⟨by omega,by omega⟩
 ·have:=lv (bk zN) f.2.2.2.1 x hx; rw[b4]at this; omega
 ·have:=lv (bk q9) f.2.2.2.2.1 x hx; rw[b5]at this; exact⟨by omega,by omega,by omega,by omega⟩
 ·have:=lv (bk zT) f.2.2.2.2.2.1 x hx; rw[b6]at this; exact⟨by omega,by omega,by omega⟩
def trimB(l:List Int):Bool:=zu (nv l)==l
def fc(a:Rat):Bool:=trimB a.2.1&&(trimB a.2.2.1&&(!(nv a.2.2.1==0)&&(!(a.1&&(nv a.2.1==0))&&(Nat.gcd (nv a.2.1) (nv a.2.2.1)==1))))
theorem j6{l:List Int}(h:zm l):trimB l=true↔W0 l:=by
 unfold trimB
 constructor
 ·intro e
  have e:zu (nv l)=l:=by simpa using e
  rw[<- e]; exact ri _
 ·intro ht
  rw[tC h ht]; simp
theorem Jc(l:List Int)(h:zm l)(hl:l.length<=1000000000):(eO l).run=some (trimB l):=by
 unfold eO
 cases l with
 | nil =>
  rw[zb (λh=>by simp at h),z7]
  have e:trimB []=true:=by unfold trimB; rw[show nv []=0 from rfl,qk]; rfl
  rw[e]; rfl
 | cons x r =>
  obtain⟨n,hn⟩:∃ n,(x::r).length=n+1:=⟨r.length,rfl⟩
  have ew:zF (((x::r).length:Int)-1)=(n:Int):=by rw[hn,zA (by omega) (by omega)]; omega
  have FR:n<(x::r).length:=by omega
  have e0:(((x::r).length:Int)==0)=false:=by rw[hn]; simp; omega
  have hg:(x::r).getLast? = some ((x::r)[n]):=by
   rw[List.getLast?_eq_getElem?,hn,Nat.add_sub_cancel,List.getElem?_eq_getElem FR]
  rw[zb (λ_=>by rw[ew]; exact qf FR),z7,ew,kO FR,e0,Bool.false_or]
  congr 1
  cases hq:((x::r)[n] != 0)with
  | true =>
   symm
   rw[j6 h]
   intro y hy
   rw[hg]at hy
   cases hy
   simpa using hq
  | false =>
   symm
   rw[Bool.eq_false_iff]
   intro ht
   have:=(j6 h).1 ht _ hg
   simp at hq
   exact this hq
theorem sU(a:Rat)(h:we 100000000 a):(tB a).run=some (fc a):=by
 obtain⟨h1,h2,h3,h4⟩:=h
 unfold tB fc
 have n1:=Jc a.2.1 h1 (by omega)
 have n2:=Jc a.2.2.1 h2 (by omega)
 have hzD:trimB a.2.2.1=true->(((a.2.2.1.length:Int))==0)=(nv a.2.2.1==0):=λht=>by
  have e:zu (nv a.2.2.1)=a.2.2.1:=tC h2 ((j6 h2).1 ht)
  conv=>lhs; rw[<- e]
  rw[iY]
  cases q:decide (nv a.2.2.1=0)<;>simp_all
 have hzN:trimB a.2.1=true->(((a.2.1.length:Int))==0)=(nv a.2.1==0):=λht=>by
  have e:zu (nv a.2.1)=a.2.1:=tC h1 ((j6 h1).1 ht)
  conv=>lhs; rw[<- e]
  rw[iY]
  cases q:decide (nv a.2.1=0)<;>simp_all
 have hg:=W5 a.2.1 a.2.2.1 h1 h2 (by omega) (by omega)
 have Wp:(yq 1).run=some (zu 1):=yx 1 (by omega)
 have hc:∀ g:Nat,(zu g).length<=100000001->(mh (zu g) (zu 1)).run=some (s7 g 1):=λg hl=>by
  have:=oD (zu g) (zu 1) (zn _) (zn _) (by omega) (by rw[ij]; simp)
  rwa [zU,zU]at this
 have head:∀ b:Bool,((T.bind (eO a.2.1) λr=>.ite (!r) (.ret true) (T.bind (eO a.2.2.1) λr1=>.ite (!r1) (.ret true) (.ite ((a.2.2.1.length:Int)==(0:Int)) (.ret true) (.ite a.1 (.ret ((a.2.1.length:Int)==(0:Int))) (.ret false))))):T Bool).run =
   some (!(trimB a.2.1&&(trimB a.2.2.1&&(!(nv a.2.2.1==0) && !(a.1&&(nv a.2.1==0)))))):=λ_=>by
  rw[z6 n1]
  cases t1:trimB a.2.1 with
  | false=>rfl
  | true =>
   rw[z8 (by rfl),z6 n2]
   cases t2:trimB a.2.2.1 with
   | false=>rfl
   | true =>
    rw[z8 (by rfl),hzD t2]
    cases nv a.2.2.1==0 with
    | true=>rfl
    | false =>
     rw[zg,hzN t1]
     cases a.1 with
     | true=>rw[zj,z7]; cases nv a.2.1==0<;>rfl
     | false=>rfl
 rw[z6 (head true)]
 cases hb:(trimB a.2.1&&(trimB a.2.2.1&&(!(nv a.2.2.1==0) && !(a.1&&(nv a.2.1==0)))))with
 | false =>
  rw[za (by rfl),z7]
  congr 1
  generalize (Nat.gcd (nv a.2.1) (nv a.2.2.1)==1)=g
  revert hb
  cases trimB a.2.1<;>cases trimB a.2.2.1<;>cases(nv a.2.2.1==0)<;>cases a.1<;>cases(nv a.2.1==0)<;>simp
 | true =>
  rw[z8 (by rfl),z6 hg,z6 Wp]
  have hle:(zu (Nat.gcd (nv a.2.1) (nv a.2.2.1))).length<=100000001:=by
   simp only[Bool.and_eq_true,Bool.not_eq_true',beq_eq_false_iff_ne]at hb
   have hd:0<nv a.2.2.1:=Nat.pos_of_ne_zero hb.2.2.1
   have m1:=Jj (Nat.gcd_le_right (nv a.2.1) hd)
   have m2:=zy h2
   omega
  rw[z6 (hc _ hle),z7]
  congr 1
  have hgc:(s7 (Nat.gcd (nv a.2.1) (nv a.2.2.1)) 1==0)=(Nat.gcd (nv a.2.1) (nv a.2.2.1)==1):=by
   generalize Nat.gcd (nv a.2.1) (nv a.2.2.1)=g
   unfold s7
   by_cases q1:g<1
   ·rw[if_pos q1]; simp; omega
   ·by_cases q2:1<g
    ·rw[if_neg q1,if_pos q2]; simp; omega
    ·have:g=1:=by omega
     subst this; rfl
  rw[hgc]
  revert hb
  generalize (Nat.gcd (nv a.2.1) (nv a.2.2.1)==1)=g
  cases trimB a.2.1<;>cases trimB a.2.2.1<;>cases(nv a.2.2.1==0)<;>cases a.1<;>cases(nv a.2.1==0)<;>simp
def uM(a:Rat):Bool:=decide (16<(norm a).2.1.length)||decide (16<(norm a).2.2.1.length)
theorem sH(a:Rat)(h:we 100000000 a):(dz a).run=some (uM a):=by
 unfold dz uM
 rw[z6 (Us a h),z7]
 congr 2
 ·exact decide_eq_decide.2 (by omega)
 ·exact decide_eq_decide.2 (by omega)
def ug(a:Rat):Bool:=fc a&&(!a.1&&(!uM a&&(qG (norm a).1 (nv (norm a).2.1) (nv (norm a).2.2.1) 0 61).2))
def xC(a:Rat):Bool := !a.1&&(a.2.1.isEmpty&&(a.2.2.1.isEmpty||fc a))
def fp(k:Int):Int:=if k=1\/k=2 then 0 else if k=7 then 1 else if k=3\/k=4\/k=5\/k=6 then 2 else -1
def uX(e:Expr):Bool:=((e.kids.length:Int)==fp e.kind)&&(if e.kind=1 then ug e.num&&zi e.name []else if e.kind=2 then xC e.num&&zG e.name else xC e.num&&zi e.name [])
mutual
def xw:Expr->Nat
 | .mk _ _ _ l=>1+wR l
def wR:List Expr->Nat
 | []=>0
 | e::r=>xw e+wR r
end
mutual
def xM(deep:Nat):Expr->Bool
 | .mk k n s l=>decide (deep<32)&&(uX (.mk k n s l)&&uC (deep+1) l)
def uC(deep:Nat):List Expr->Bool
 | []=>true
 | e::r=>xM deep e&&uC deep r
end
theorem ox:∀ (l:List Expr),l.length<=wR l
 | []=>Nat.le_refl _
 | .mk _ _ _ k::r=>by
  have:=ox r
  unfold wR xw
  simp only[List.length_cons]; omega
theorem lE{e:Expr}:∀ {l:List Expr},e∈l->xw e<=wR l
 | [],h=>by cases h
 | x::r,h=>by
  unfold wR
  rcases List.mem_cons.1 h with rfl | h
  ·omega
  ·have:=lE h; omega
mutual
/-- How many nodes are looked at. -/
def Kc(deep:Nat):Expr->Nat
 | .mk k n s l=>1+if(decide (deep<32)&&uX (.mk k n s l))=true then iR (deep+1) l else 0
def iR(deep:Nat):List Expr->Nat
 | []=>0
 | e::r=>Kc deep e+if xM deep e=true then iR deep r else 0
end
mutual
theorem I4:∀ (e:Expr) (deep:Nat),Kc deep e<=xw e
 | .mk k n s l,deep=>by
  have:=VP l (deep+1)
  unfold Kc xw
  split<;>omega
theorem VP:∀ (l:List Expr) (deep:Nat),iR deep l<=wR l
 | [],_=>Nat.le_refl _
 | e::r,deep=>by
  have h1:=I4 e deep
  have h2:=VP r deep
  unfold iR wR
  split<;>omega
end
mutual
theorem Pc:∀ (e:Expr),3*xw e<=szE e
 | .mk k n s l=>by
  have:=LM l
  unfold xw szE
  omega
theorem LM:∀ (l:List Expr),3*wR l<=szEs l
 | []=>Nat.le_refl _
 | e::r=>by
  have h1:=Pc e
  have h2:=LM r
  unfold wR szEs
  omega
end
def uR(a:Rat):Prop:=we 100 a
mutual
def allOk:Expr->Prop
 | .mk _ n _ l=>uR n/\allOks l
def allOks:List Expr->Prop
 | []=>True
 | e::r=>allOk e/\allOks r
end
theorem eU{l:List Expr}(h:allOks l):∀ e∈l,allOk e:=by
 induction l with
 | nil=>intro e he; cases he
 | cons x r ih =>
  intro e he
  rcases List.mem_cons.1 he with rfl | he
  ·exact h.1
  ·exact ih h.2 e he
mutual
theorem o9:∀ (e:Expr),wfE e->szE e<=800->allOk e
 | .mk k n s l,hw,hs=>by
  unfold szE at hs
  have hw':wf Qj (Expr.mk k n s l).Nv:=(IV _).2 hw
  obtain⟨_,hn,_,hl,_⟩:=hw'
  obtain⟨r1,r2⟩:=RH hn
  have r1:zm n.2.1:=r1
  have r2:zm n.2.2.1:=r2
  refine⟨⟨r1,r2,by omega,by omega⟩,Y3 l (λe he=>hl e he) (by omega)⟩
theorem Y3:∀ (l:List Expr),(∀ e∈l,wfE e)->szEs l<=800->allOks l
 | [],_,_=>trivial
 | e::r,hw,hs=>by
  unfold szEs at hs
  exact⟨o9 e (hw e List.mem_cons_self) (by omega),Y3 r (λx hx=>hw x (List.mem_cons_of_mem _ hx)) (by omega)⟩
end
theorem EO(a:Rat)(h:uR a):(cq a).run=some (xC a):=by
 unfold cq xC
 have hr:=sU a (eE h (by omega))
 have e:∀ l:List Int,(((l.length:Int))==0)=l.isEmpty:=λl=>by cases l<;>simp; omega
 rw[e,e]
 cases a.1 with
 | true=>rfl
 | false =>
  rw[za (by rfl)]
  cases a.2.1.isEmpty with
  | false=>rfl
  | true =>
   rw[zj]
   cases a.2.2.1.isEmpty with
   | true=>rfl
   | false=>rw[zg,z6 hr,z7]; rfl
theorem Nf(a:Rat)(h:uR a):(mW a).run=some (ug a):=by
 unfold mW ug
 have hr:=sU a (eE h (by omega))
 have hl:=sH a (eE h (by omega))
 have he:=ss a (eE h (by omega))
 have head:((T.bind (tB a) λr=>.ite (!r) (.ret true) (.ite a.1 (.ret true) (T.bind (dz a) λr1=>.ret r1))):T Bool).run=some (!(fc a&&(!a.1 && !uM a))):=by
  rw[z6 hr]
  cases fc a with
  | false=>rfl
  | true =>
   rw[z8 (by rfl)]
   cases a.1 with
   | true=>rfl
   | false=>rw[zg,z6 hl,z7]; simp
 rw[z6 head]
 cases q:(fc a&&(!a.1 && !uM a))with
 | false =>
  rw[za (by rfl),z7]
  congr 1
  revert q
  cases fc a<;>cases a.1<;>cases uM a<;>simp
 | true =>
  rw[z8 (by rfl),z6 he]
  generalize qG (norm a).1 (nv (norm a).2.1) (nv (norm a).2.2.1) 0 61=x
  obtain⟨x1,x2⟩:=x
  dsimp only
  rw[z7]
  congr 1
  revert q
  cases fc a<;>cases a.1<;>cases uM a<;>simp
theorem Rv(k:Int):(rh k).run=some (fp k):=by
 unfold rh fp
 by_cases h1:k=1
 ·subst h1; rfl
 by_cases h2:k=2
 ·subst h2; rfl
 by_cases h7:k=7
 ·subst h7; rfl
 by_cases h3:k=3
 ·subst h3; rfl
 by_cases h4:k=4
 ·subst h4; rfl
 by_cases h5:k=5
 ·subst h5; rfl
 by_cases h6:k=6
 ·subst h6; rfl
 ·simp[h1,h2,h3,h4,h5,h6,h7]
theorem VO(e:Expr)(h:uR e.num):(yL e).run=some (uX e):=by
 unfold yL uX
 rw[z6 (Rv _)]
 have hN:=Nf e.num h
 have h0:=EO e.num h
 have hn:=xG e.name
 cases q:((e.kids.length:Int)==fp e.kind)with
 | false=>rw[za (by rw[bne,q]; rfl),z7]; rfl
 | true =>
  rw[z8 (by rw[bne,q]; rfl),Bool.true_and]
  by_cases h1:e.kind=1
  ·rw[if_pos h1,za (by rw[h1]; rfl),z6 hN]
   cases ug e.num with
   | true=>rw[zj,z7]; rfl
   | false=>rw[zg,z7]; rfl
  ·rw[if_neg h1,z8 (by simpa using h1)]
   by_cases h2:e.kind=2
   ·rw[if_pos h2,za (by rw[h2]; rfl),z6 h0]
    cases xC e.num with
    | true=>rw[zj,z6 hn,z7]; rfl
    | false=>rw[zg,z7]; rfl
   ·rw[if_neg h2,z8 (by simpa using h2),z6 h0]
    cases xC e.num with
    | true=>rw[zj,z7]; rfl
    | false=>rw[zg,z7]; rfl
theorem z1i(e:Expr)(deep left:Nat)(h:allOk e)(hl:xw e<=left)(fj:left<=100000)(hd:deep<=32):(jY e (deep:Int) (left:Int)).run=some (xM deep e,((left-Kc deep e:Nat):Int)):=by
 unfold jY
 refine ik (λx:Expr×Int×Int=>allOk x.1/\0<=x.2.1/\x.2.1<=32/\(xw x.1:Int)<=x.2.2/\x.2.2<=100000) (λx=>xw x.1) (λx=>(xM x.2.1.toNat x.1,((x.2.2.toNat-Kc x.2.1.toNat x.1:Nat):Int))) (λx hx g hg => ?_) (x:=(e,(deep:Int),(left:Int))) ⟨h,by dsimp only; omega,by dsimp only; omega,by dsimp only; omega,by dsimp only; omega⟩
 obtain⟨e,d,lf⟩:=x
 obtain⟨ha,MG,DS,hn,hlf⟩:=hx
 dsimp only at ha MG DS hn hlf
 obtain⟨D,rfl⟩:∃ D:Nat,d=(D:Int):=⟨d.toNat,by omega⟩
 obtain⟨L,rfl⟩:∃ L:Nat,lf=(L:Int):=⟨lf.toNat,by omega⟩
 cases e with | mk k n s kids =>
 obtain⟨Wj,Dj⟩:=ha
 have F4:xw (.mk k n s kids)=1+wR kids:=by unfold xw; rfl
 rw[F4]at hn
 have hv:=VP kids (D+1)
 have ew:zF ((L:Int)-1)=((L-1:Nat):Int):=by rw[zA (by omega) (by omega)]; omega
 have SR:=VO (.mk k n s kids) Wj
 simp only[Int.toNat_natCast]
 unfold gx
 rw[ew]
 have head:((.ite (decide (((L-1:Nat):Int)<(0:Int))) (.ret (true,((L-1:Nat):Int))) (.ite (decide ((32:Int)<=(D:Int))) (.ret (true,((L-1:Nat):Int))) (T.bind (yL (.mk k n s kids)) λr=>.ret ((!r),((L-1:Nat):Int))))):T (Bool×Int)).run =
   some (!(decide (D<32)&&uX (.mk k n s kids)),((L-1:Nat):Int)):=by
  rw[z8 (decide_eq_false (by omega))]
  by_cases c:D<32
  ·rw[z8 (decide_eq_false (by omega)),z6 SR,z7,decide_eq_true c,Bool.true_and]
  ·rw[za (decide_eq_true (by omega)),z7,decide_eq_false c]; rfl
 rw[z6 head]
 dsimp only
 unfold xM Kc
 cases q:(decide (D<32)&&uX (.mk k n s kids))with
 | false =>
  rw[za (by rfl),z7,if_neg (by simp),<- Bool.and_assoc,q,Bool.false_and]
 | true =>
  rw[z8 (by rfl),if_pos rfl,<- Bool.and_assoc,q,Bool.true_and]
  have hD:D<32:=by
   simp only[Bool.and_eq_true,decide_eq_true_eq]at q
   exact q.1
  have ed:zF ((D:Int)+1)=((D+1:Nat):Int):=by rw[zA (by omega) (by omega)]; omega
  have loop:∃ z,(zP (λy0 y1 y2=>g (y0,y1,y2)) kids (kids.length:Int) (((D:Int),()),((0:Int),((L-1:Nat):Int)))).run=some z /\
    ((uC (D+1) kids=true/\z=.inl ((L-1-iR (D+1) kids:Nat):Int))\/(uC (D+1) kids=false/\∃ i:Int,0<=i/\z=.inr (i,((L-1-iR (D+1) kids:Nat):Int)))):=by
   refine T.qH (r:=zB (λy0 y1 y2=>g (y0,y1,y2)) kids (kids.length:Int)) (λst:(Int×Unit)×Int×Int=>∃ (j B:Nat),st=(((D:Int),()),(j:Int),(B:Int))/\j<=kids.length/\B<=100000/\wR (kids.drop j)<=B /\
    B-iR (D+1) (kids.drop j)=L-1-iR (D+1) kids/\uC (D+1) (kids.drop j)=uC (D+1) kids) (λst=>kids.length-st.2.1.toNat) _ (λst xJ => ?_) ⟨0,L-1,rfl,by omega,by omega,by rw[List.drop_zero]; omega,by rw[List.drop_zero],by rw[List.drop_zero]⟩
   obtain⟨j,B,rfl,hj,hB,hnB,hvB,GG⟩:=xJ
   by_cases c:j<kids.length
   ·have hdr:kids.drop j=kids[j]::kids.drop (j+1):=List.drop_eq_getElem_cons c
    rw[hdr]at hnB hvB GG
    rw[show wR (kids[j]::kids.drop (j+1))=xw kids[j]+wR (kids.drop (j+1))from rfl]at hnB
    rw[show iR (D+1) (kids[j]::kids.drop (j+1))=Kc (D+1) kids[j]+if xM (D+1) kids[j]=true then iR (D+1) (kids.drop (j+1))else 0 from rfl]at hvB
    rw[show uC (D+1) (kids[j]::kids.drop (j+1))=(xM (D+1) kids[j]&&uC (D+1) (kids.drop (j+1)))from rfl]at GG
    have Q9:=eU Dj _ (List.getElem_mem c)
    have Nz:=I4 kids[j] (D+1)
    have EA:xw kids[j]<1+wR kids:=by have:=lE (List.getElem_mem c); omega
    have Ws:=hg (kids[j],((D+1:Nat):Int),(B:Int)) ⟨Q9,by dsimp only; omega,by dsimp only; omega,by dsimp only; omega,by dsimp only; omega⟩ (by dsimp only; rw[F4]; exact EA)
    dsimp only at Ws
    simp only[Int.toNat_natCast]at Ws
    have hf:(j3 (λy0 y1 y2=>g (y0,y1,y2)) kids[j] (D:Int) (B:Int)).run=some (!xM (D+1) kids[j],((B-Kc (D+1) kids[j]:Nat):Int)):=by
     unfold j3
     rw[ed,z6 Ws]; rfl
    unfold zB
    dsimp only
    rw[za (uL c),zb (qf c),kO c,z6 hf]
    dsimp only
    cases hk:xM (D+1) kids[j]with
    | true =>
     left
     rw[hk,if_pos rfl]at hvB
     rw[hk,Bool.true_and]at GG
     rw[z8 (by rfl),z7]
     have hlen:=ox kids
     rw[ll j _ c (by omega)]
     refine⟨_,rfl,⟨j+1,B-Kc (D+1) kids[j],rfl,c,by omega,by omega,by omega,GG⟩,?_⟩
     simp only[Int.toNat_natCast]
     omega
    | false =>
     right
     rw[hk,if_neg (by simp),Nat.add_zero]at hvB
     rw[hk,Bool.false_and]at GG
     rw[za (by rfl),z7]
     exact⟨_,rfl,.inr ⟨GG.symm,(j:Int),by omega,by rw[hvB]⟩⟩
   ·right
    have hj2:j=kids.length:=by omega
    subst hj2
    rw[List.drop_length]at hvB GG
    unfold zB
    dsimp only
    rw[z8 (kf _),z7]
    exact⟨_,rfl,.inl ⟨GG.symm,by rw[<- hvB]; rfl⟩⟩
  obtain⟨z,hz,hc⟩:=loop
  have hcf:(q7 (λy0 y1 y2=>g (y0,y1,y2)) kids ((D:Int),()) ((L-1:Nat):Int)).run=some (!uC (D+1) kids,((L-1-iR (D+1) kids:Nat):Int)):=by
   unfold q7 qC
   rcases hc with⟨ho,rfl⟩ | ⟨ho,i,hi,rfl⟩
   ·have:((T.bind (zP (λy0 y1 y2=>g (y0,y1,y2)) kids (kids.length:Int) (((D:Int),()),((0:Int),((L-1:Nat):Int))))<|Sum.elim (λv2=>.ret ((-1:Int),v2)) (λ(x2,v3)=>.ret (x2,v3))):T (Int×Int)).run=some (-1,((L-1-iR (D+1) kids:Nat):Int)):=by
     rw[z6 hz]; rfl
    rw[z6 this,ho]; rfl
   ·have:((T.bind (zP (λy0 y1 y2=>g (y0,y1,y2)) kids (kids.length:Int) (((D:Int),()),((0:Int),((L-1:Nat):Int))))<|Sum.elim (λv2=>.ret ((-1:Int),v2)) (λ(x2,v3)=>.ret (x2,v3))):T (Int×Int)).run=some (i,((L-1-iR (D+1) kids:Nat):Int)):=by
     rw[z6 hz]; rfl
    rw[z6 this,ho,z7,decide_eq_true hi]; rfl
  rw[show Expr.kids (.mk k n s kids)=kids from rfl,z6 hcf]
  dsimp only
  rw[z7,Bool.not_not]
  congr 3
  omega
theorem z6D(e:Expr)(h:allOk e)(hn:xw e<=256):(uv e).run=some (xM 0 e):=by
 unfold uv
 have:=z1i e 0 256 h hn (by omega) (by omega)
 have this:(jY e 0 256).run=some (xM 0 e,((256-Kc 0 e:Nat):Int)):=this
 rw[z6 this]; rfl
def dd(acc:List ze)(xs:List ze):List ze:=xs.foldl (λb x=>if x∈b then b else b++[x]) acc
end Go.AM.Lf
namespace Go.AM.PL
def QA:ze->List ze×ze
 | []=>([],[])
 | b::r=>if b=10 then([]::(QA r).1,(QA r).2)else match(QA r).1 with
  | []=>([],b::(QA r).2)
  | l::ls=>((b::l)::ls,(QA r).2)
end Go.AM.PL
namespace Go.AM.Lf
open PL
def RB(u:ze):Option Rat:=if 400<u.length then none else(tA u).map λp=>va (List.isPrefixOf [45] u) p.1 p.2
theorem z3P{u:ze}{r:Rat}(h:RB u=some r):we 50 r:=by
 unfold RB at h
 split at h
 ·cases h
 ·rename_i c
  obtain⟨p,hp,rfl⟩:=Option.map_eq_some_iff.1 h
  exact W6 _ (by omega) hp
def zdh(t:ze):Option ItT:=match RB (wU t [32]).2.1 with
 | some r=>if zG (wU t [32]).1=true then some ((wU t [32]).1,r,())else none
 | none=>none
def Pu:List ze->Option (List ItT)
 | []=>some []
 | t::r=>match zdh t with
  | some x=>(Pu r).map (x :: ·)
  | none=>none
theorem nf{s:ze}(h:zG s=true):s.length<=24/\s.all wX=true:=by
 cases s with
 | nil=>cases h
 | cons b r =>
  unfold zG at h
  simp only[Bool.and_eq_true,decide_eq_true_eq]at h
  exact⟨h.1,h.2.2⟩
theorem vo(s:ze):(vU s).run=some (zG s):=by
 have hL:∀ b:UInt8,(jx (b.toNat:Int)).run=some (XJ b):=λ_=>rfl
 have hD:∀ b:UInt8,(mg (b.toNat:Int)).run=some (decide (48<=(b.toNat:Int))&&decide ((b.toNat:Int)<=57)):=λ_=>rfl
 unfold vU
 cases s with
 | nil=>rfl
 | cons b r =>
  by_cases c:24<(b::r).length
  ·have:(T.ite (decide (((b::r).length:Int)<(1:Int))) (.ret true) (.ite (decide ((24:Int)<((b::r).length:Int))) (.ret true) (.zL (qt (0:Int) (List.length (b::r)))<|T.bind (jx (qo (b::r) (0:Int))) λr=>.ret (!r))):T Bool).run=some true:=by
    rw[z8 (decide_eq_false (by omega)),za (decide_eq_true (by omega)),z7]
   rw[z6 this,zj,z7]
   unfold zG
   rw[decide_eq_false (by omega)]; rfl
  ·have hb:qo (b::r) (0:Int)=(b.toNat:Int):=yE (s:=b::r) (k:=0) (by simp)
   have:(T.ite (decide (((b::r).length:Int)<(1:Int))) (.ret true) (.ite (decide ((24:Int)<((b::r).length:Int))) (.ret true) (.zL (qt (0:Int) (List.length (b::r)))<|T.bind (jx (qo (b::r) (0:Int))) λr=>.ret (!r))):T Bool).run=some (!XJ b):=by
    rw[z8 (decide_eq_false (by simp only[List.length_cons]; omega)),z8 (decide_eq_false (by omega)),zb (by refine⟨by omega,?_⟩; simp only[List.length_cons]; omega),hb,z6 (hL b),z7]
   rw[z6 this]
   unfold zG
   dsimp only
   rw[decide_eq_true (by omega),Bool.true_and]
   cases hbl:XJ b with
   | false=>rw[za (by rfl),z7]; rfl
   | true =>
    rw[z8 (by rfl),Bool.true_and]
    have hbi:wX b=true:=by unfold wX; rw[hbl]; rfl
    have key:(tY (b::r) 1).run=some (if r.all wX=true then .inl ()else .inr false):=by
     have Ps:=vz (r:=kv (b::r)) (λi=>∃ k:Nat,i=((k+1:Nat):Int)/\k<=r.length) (λi=>((b::r).length:Int).toNat-i.toNat) (λi=>if(r.drop (i.toNat-1)).all wX=true then .inl ()else .inr false) (λi hi => ?_) (s:=1) ⟨0,rfl,by omega⟩
     ·exact Ps
     ·obtain⟨k,rfl,hk⟩:=hi
      have ek:((k+1:Nat):Int).toNat-1=k:=by omega
      by_cases q:k<r.length
      ·have hq:k+1<(b::r).length:=by simp only[List.length_cons]; omega
       have DE:qo (b::r) ((k+1:Nat):Int)=(r[k].toNat:Int):=by rw[yE hq]; rfl
       have z4C:r.drop k=r[k]::r.drop (k+1):=List.drop_eq_getElem_cons q
       have Xu:((.zL (qt ((k+1:Nat):Int) (List.length (b::r)))<|T.bind (jx (qo (b::r) ((k+1:Nat):Int))) λr1 =>
         .ite (!r1) (.zL (qt ((k+1:Nat):Int) (List.length (b::r)))<|T.bind (mg (qo (b::r) ((k+1:Nat):Int))) λr2 =>
           .ite (!r2) (.zL (qt ((k+1:Nat):Int) (List.length (b::r)))<|.ret ((qo (b::r) ((k+1:Nat):Int)) != (95:Int))) (.ret false)) (.ret false)):T Bool).run=some (!wX r[k]):=by
        rw[zb (qf hq),DE,z6 (hL _)]
        unfold wX
        cases XJ r[k]with
        | true=>rfl
        | false =>
         rw[za (by rfl),zb (qf hq),z6 (hD _)]
         cases(decide (48<=(r[k].toNat:Int))&&decide ((r[k].toNat:Int)<=57))with
         | true=>rfl
         | false=>rw[za (by rfl),zb (qf hq),z7]; rfl
       cases hik:wX r[k]with
       | true =>
        left
        refine⟨((k+1+1:Nat):Int),?_,⟨k+1,rfl,q⟩,by simp only[List.length_cons]; omega,?_⟩
        ·unfold kv
         rw[za (uL hq),z6 Xu,hik,z8 (by rfl),z7,ll (k+1) _ hq (by omega)]
        ·rw[ek,z4C,List.all_cons,hik,Bool.true_and,show((k+1+1:Nat):Int).toNat-1=k+1 by omega]
       | false =>
        right
        unfold kv
        rw[za (uL hq),z6 Xu,hik,za (by rfl),z7,ek,z4C,List.all_cons,hik]
        rfl
      ·right
       have cx:k=r.length:=by omega
       unfold kv
       rw[z8 (decide_eq_false (by simp only[List.length_cons]; omega)),z7,ek,cx,List.drop_length]; rfl
    rw[z6 key,List.all_cons,hbi,Bool.true_and]
    cases h:r.all wX with
    | true=>rfl
    | false=>rfl
theorem OA(s:ze)(c:UInt8):(wU s [c]).1.length<=s.length/\(wU s [c]).2.1.length<=s.length:=by
 by_cases h:c∈s
 ·obtain⟨w,q,rfl,hw⟩:=J9 h
  rw[pN c w q hw]
  simp only[List.length_append,List.length_cons]
  exact⟨by omega,by omega⟩
 ·rw[eY c s h]; simp
def zed(l:List ItT):ze:=l.flatMap zcl
def J0(s:ze):List ItT×Int:=match Pu (QA s).1 with
 | some ys=>if zed ys=s then(ys,0)else([],2)
 | none=>([],2)
theorem zhq(a b:Rat):((a.1==b.1)&&((a.2.1==b.2.1)&&(a.2.2.1==b.2.2.1)))=true↔a=b:=by
 obtain⟨a1,a2,a3,⟨⟩⟩:=a
 obtain⟨b1,b2,b3,⟨⟩⟩:=b
 simp only[Bool.and_eq_true,beq_iff_eq,Prod.mk.injEq,and_true]
theorem Un(a:Rat)(h1:zm a.2.1)(h2:zm a.2.2.1):fc a=true↔norm a=a:=by
 unfold fc norm
 obtain⟨b,N,D,⟨⟩⟩:=a
 dsimp only at h1 h2 ⊢
 simp only[Bool.and_eq_true,Bool.not_eq_true',beq_eq_false_iff_ne,beq_iff_eq,Bool.and_eq_false_imp]
 constructor
 ·rintro⟨t1,t2,hd,hn,hg⟩
  have eN:zu (nv N)=N:=tC h1 ((j6 h1).1 t1)
  have eD:zu (nv D)=D:=tC h2 ((j6 h2).1 t2)
  unfold va
  by_cases c:nv N=0
  ·rw[if_pos (.inl c)]
   rw[c,Nat.gcd_zero_left]at hg
   rw[c,qk]at eN
   rw[hg,ij]at eD
   cases b with
   | true=>exact absurd c (hn rfl)
   | false=>rw[<- eN,<- eD]
  ·rw[if_neg (by rintro(h | h); exact c h; exact hd h),hg,Nat.div_one,Nat.div_one,eN,eD]
 ·intro e
  unfold va at e
  by_cases c:nv N=0\/nv D=0
  ·rw[if_pos c]at e
   simp only[Prod.mk.injEq,and_true]at e
   obtain⟨rfl,rfl,rfl⟩:=e
   refine⟨by rw[j6 h1]; exact X4,?_,by decide,by simp,by decide⟩
   rw[j6 h2,<- ij]; exact ri _
  ·rw[if_neg c]at e
   simp only[Prod.mk.injEq,and_true,true_and]at e
   obtain⟨e1,e2⟩:=e
   simp only[not_or]at c
   have v1:nv N=nv N / Nat.gcd (nv N) (nv D):=by conv=>lhs; rw[<- e1,zU]
   refine⟨by rw[j6 h1,<- e1]; exact ri _,by rw[j6 h2,<- e2]; exact ri _,c.2,λ_=>c.1,?_⟩
   have hp:0<nv N:=Nat.pos_of_ne_zero c.1
   by_cases g:Nat.gcd (nv N) (nv D)=1
   ·exact g
   ·have hg0:0<Nat.gcd (nv N) (nv D):=Nat.gcd_pos_of_pos_left _ hp
    have:=Nat.div_lt_self hp (by omega:1<Nat.gcd (nv N) (nv D))
    omega
theorem lS(a b:List Int)(la:a.length<=1000000000):(yr a b).run=some (a==b):=by
 unfold yr
 by_cases hlen:a.length=b.length
 ·have key:(iv a b 0).run=some (if a=b then .inl ()else .inr false):=by
   have h:=vz (r:=j7 a b) (λi=>∃ k:Nat,i=(k:Int)/\k<=a.length) (λi=>a.length-i.toNat) (λi=>if a.drop i.toNat=b.drop i.toNat then .inl ()else .inr false) (λi hi => ?_) (s:=0) ⟨0,rfl,by omega⟩
   ·unfold iv; simpa using h
   ·obtain⟨k,rfl,hk⟩:=hi
    by_cases c:k<a.length
    ·have cb:k<b.length:=by omega
     have ea:a.drop k=a[k]::a.drop (k+1):=List.drop_eq_getElem_cons c
     have eb:b.drop k=b[k]::b.drop (k+1):=List.drop_eq_getElem_cons cb
     have ek:((k:Nat):Int).toNat=k:=rfl
     have z9q:(a.drop k=b.drop k)↔(a[k]=b[k]/\a.drop (k+1)=b.drop (k+1)):=by rw[ea,eb,List.cons.injEq]
     have ek1:((k+1:Nat):Int).toNat=k+1:=rfl
     by_cases q:a[k]=b[k]
     ·left
      refine⟨((k+1:Nat):Int),?_,⟨k+1,rfl,c⟩,by omega,?_⟩
      ·unfold j7
       rw[za (uL c),zb (qf c),zb (qf cb),kO c,kO cb,z8 (by simp[q]),z7,ll k _ c (by omega)]
      ·simp only[ek,ek1,z9q,q,true_and]
     ·right
      unfold j7
      rw[za (uL c),zb (qf c),zb (qf cb),kO c,kO cb,za (by simp[q]),z7,ek,if_neg (by rw[z9q]; exact λh=>q h.1)]
    ·right
     have cx:k=a.length:=by omega
     unfold j7
     rw[z8 (decide_eq_false (by omega)),z7,cx]
     simp[hlen]
  rw[z8 (by rw[hlen]; simp),z6 key]
  by_cases e:a=b
  ·rw[if_pos e,e]; simp
  ·rw[if_neg e]
   have:(a==b)=false:=by simpa using e
   rw[this]; rfl
 ·have e:(a==b)=false:=by
   rw[beq_eq_false_iff_ne]
   intro e; exact hlen (by rw[e])
  rw[za (by simp; omega),z7,e]
theorem XR(a:Rat)(h:we 100000000 a):(Z4 a).run=some (fc a):=by
 unfold Z4
 have hb:fc a=((a.1==(norm a).1)&&((a.2.1==(norm a).2.1)&&(a.2.2.1==(norm a).2.2.1))):=by
  rw[Bool.eq_iff_iff,Un a h.1 h.2.1,zhq]
  exact⟨λe=>e.symm,λe=>e.symm⟩
 rw[z6 (dr a h),hb]
 cases a.1==(norm a).1 with
 | false=>rfl
 | true =>
  rw[zj,z6 (lS _ _ (by have:=h.2.2.1; omega))]
  cases a.2.1==(norm a).2.1 with
  | false=>rfl
  | true=>rw[zj,z6 (lS _ _ (by have:=h.2.2.2; omega)),z7]; rfl
theorem Uu(a:Rat)(h:we 100000000 a):(nc a).run=some (uM a):=by
 unfold nc uM
 rw[z6 (dr a h),z7]
 congr 2
 ·exact decide_eq_decide.2 (by omega)
 ·exact decide_eq_decide.2 (by omega)
theorem se(a:Rat)(h:we 100000000 a):(dB a).run=some (fc a && !uM a):=by
 unfold dB
 rw[z6 (XR a h)]
 cases fc a with
 | false=>rfl
 | true=>rw[zj,z6 (Uu a h),z7]; rfl
theorem Oh(a:Rat)(h:uR a):(jQ a).run=some (xC a):=by
 unfold jQ xC
 have hr:=XR a (eE h (by omega))
 have e:∀ l:List Int,(((l.length:Int))==0)=l.isEmpty:=λl=>by cases l<;>simp; omega
 rw[e,e]
 cases a.1 with
 | true=>rfl
 | false =>
  rw[za (by rfl)]
  cases a.2.1.isEmpty with
  | false=>rfl
  | true =>
   rw[zj]
   cases a.2.2.1.isEmpty with
   | true=>rfl
   | false=>rw[zg,z6 hr,z7]; rfl
theorem S2(g:Expr×Int->T Bool)(kids:List Expr)(k0:Int)(n0:Rat)(s0:ze)(D:Nat)(hl:kids.length<=100000)
  (hg:∀ e∈kids,(g (e,zF (((D+1:Nat):Int)+1))).run=some (xM (D+1) e)) :
  (oy (λy0 y1=>g (y0,y1)) ((D+1:Nat):Int) (.mk k0 n0 s0 kids) (kids.length:Int) 0).run=some (if uC (D+1) kids=true then .inl ()else .inr false):=by
 refine T.r9 (r:=cv (λy0 y1=>g (y0,y1)) ((D+1:Nat):Int) (.mk k0 n0 s0 kids) (kids.length:Int)) kids (zk .expr) (λ(_:Unit) i=>i) (λ_ _=>True) (λl _=>(if uC (D+1) l=true then .inl ()else .inr false:Unit⊕Bool)) (λk _ x xs hk hx hm hd hI => ?_) (λ_ _ => ?_) (b:=()) trivial
 ·have GV:=hg x hm
  have ek:Expr.kids (.mk k0 n0 s0 kids)=kids:=rfl
  unfold cv
  rw[za (uL hk),ek,zb (qf hk),hx,z6 GV]
  cases q:xM (D+1) x with
  | true =>
   left
   refine⟨(),?_,trivial,?_⟩
   ·rw[z8 (by rfl),z7,ll k _ hk (by omega)]
   ·show _=(if(xM (D+1) x&&uC (D+1) xs)=true then _ else _)
    rw[q,Bool.true_and]
  | false =>
   right
   rw[za (by rfl),z7]
   show _=some (Sum.inr (if(xM (D+1) x&&uC (D+1) xs)=true then _ else _))
   rw[q,Bool.false_and]; rfl
 ·unfold cv
  rw[z8 (kf _),z7]; rfl
theorem z1O(e:Expr)(deep:Nat)(h:allOk e)(hn:xw e<=100000)(hd:deep<=32):(pj e ((deep+1:Nat):Int)).run=some (xM deep e):=by
 unfold pj
 refine ik (λx:Expr×Int=>allOk x.1/\xw x.1<=100000/\1<=x.2/\x.2<=33) (λx=>xw x.1) (λx=>xM (x.2.toNat-1) x.1) (λx hx g hg => ?_) (x:=(e,((deep+1:Nat):Int))) ⟨h,hn,by dsimp only; omega,by dsimp only; omega⟩
 obtain⟨e,d⟩:=x
 obtain⟨ha,hn,MG,DS⟩:=hx
 dsimp only at ha hn MG DS
 obtain⟨D,rfl⟩:∃ D:Nat,d=((D+1:Nat):Int):=⟨d.toNat-1,by omega⟩
 cases e with | mk k n s kids =>
 obtain⟨Wj,Dj⟩:=ha
 have F4:xw (.mk k n s kids)=1+wR kids:=rfl
 have hlen:=ox kids
 have Io:(((D+1:Nat):Int)).toNat-1=D:=by omega
 dsimp only
 rw[Io]
 unfold mR
 show _=some (decide (D<32)&&(uX (.mk k n s kids)&&uC (D+1) kids))
 by_cases c:D<32
 ·rw[z8 (decide_eq_false (by omega)),decide_eq_true c,Bool.true_and]
  have hN:=pK n (eE Wj (by omega))
  have hG:=se n (eE Wj (by omega))
  have hB:=Oh n Wj
  have hNm:=vo s
  have e0:∀ m:Nat,(((m:Int))==0)=(((m:Int))==(0:Int)):=λ_=>rfl
  have Ws:∀ e∈kids,(g (e,zF (((D+1:Nat):Int)+1))).run=some (xM (D+1) e):=λe he=>by
   have hm:=lE he
   have ew:zF (((D+1:Nat):Int)+1)=((D+1+1:Nat):Int):=by rw[zA (by omega) (by omega)]; omega
   have:=hg (e,((D+1+1:Nat):Int)) ⟨eU Dj e he,by dsimp only; omega,by dsimp only; omega,by dsimp only; omega⟩ (by dsimp only; rw[F4]; omega)
   rw[ew,this]
   dsimp only
   rw[show(((D+1+1:Nat):Int)).toNat-1=D+1 by omega]
  have Ps:=S2 g kids k n s D (by omega) Ws
  have zaL:Expr.kids (.mk k n s kids)=kids:=rfl
  have zd0:Expr.kind (.mk k n s kids)=k:=rfl
  have zd8:Expr.name (.mk k n s kids)=s:=rfl
  have zdc:Expr.num (.mk k n s kids)=n:=rfl
  have tail:∀ kd:Int,(T.bind (.ite ((Nat.cast (List.length kids):Int) != kd) (.ret true) (.ite (!(zi s ([]:ze))) (.ret true) (T.bind (jQ n) λr4=>.ret (!r4))):T Bool) λx1 =>
     .ite x1 (.ret false) (T.bind (oy (λy0 y1=>g (y0,y1)) ((D+1:Nat):Int) (.mk k n s kids) kd (0:Int))<|Sum.elim (λ_=>.ret true) (λx2=>.ret x2)):T Bool).run =
     some (((kids.length:Int)==kd)&&((xC n&&zi s [])&&uC (D+1) kids)):=by
   intro kd
   have head:(.ite ((Nat.cast (List.length kids):Int) != kd) (.ret true) (.ite (!(zi s ([]:ze))) (.ret true) (T.bind (jQ n) λr4=>.ret (!r4))):T Bool).run=some (!(((kids.length:Int)==kd)&&(xC n&&zi s []))):=by
    cases q:((kids.length:Int)==kd)with
    | false=>rw[za (by rw[bne,q]; rfl)]; rfl
    | true =>
     rw[z8 (by rw[bne,q]; rfl)]
     cases zi s []with
     | false=>rw[za (by rfl),z7,Bool.and_false]; rfl
     | true=>rw[z8 (by rfl),z6 hB,z7,Bool.and_true,Bool.true_and]
   rw[z6 head]
   cases q:((kids.length:Int)==kd)with
   | false=>rfl
   | true =>
    have hkd:kd=(kids.length:Int):=by
     have:(kids.length:Int)=kd:=by simpa using q
     exact this.symm
    subst hkd
    rw[Bool.true_and,Bool.true_and]
    cases(xC n&&zi s [])with
    | false=>rfl
    | true =>
     rw[z8 (by rfl),z6 Ps,Bool.true_and]
     cases uC (D+1) kids<;>rfl
  unfold uX fp
  rw[zaL,zd0,zd8,zdc]
  by_cases h1:k=1
  ·subst h1
   have head:(T.bind (bw n) λ(r,ok)=>.ite ((Nat.cast (List.length kids):Int)==(0:Int)) (.ite (zi s ([]:ze)) (T.bind (dB n) λr1=>.ite r1 (.ite (!n.1) (.ret (.inr ok)) (.ret (.inr false))) (.ret (.inr false))) (.ret (.inr false))) (.ret (.inr false)):T (Int⊕Bool)).run=some (.inr (((kids.length:Int)==0)&&(ug n&&zi s []))):=by
    rw[z6 hN]
    unfold ug
    generalize qG (norm n).1 (nv (norm n).2.1) (nv (norm n).2.2.1) 0 61=x
    obtain⟨x1,x2⟩:=x
    dsimp only
    cases(Nat.cast (List.length kids):Int)==(0:Int)with
    | false=>rfl
    | true =>
     rw[zj]
     cases zi s []with
     | false=>rw[zg,z7,Bool.and_false]; rfl
     | true =>
      rw[zj,z6 hG]
      cases fc n<;>cases uM n<;>cases n.1<;>cases x2<;>rfl
   refine(z6 (a:=.inr (((kids.length:Int)==0)&&(ug n&&zi s []))) ?_ _).trans ?_
   ·rw[za (by rfl)]; exact head
   ·rw[Sum.elim_inr,z7,if_pos (.inl rfl),if_pos rfl]
    cases q:((kids.length:Int)==0)with
    | false=>rfl
    | true =>
     have:kids=[]:=List.eq_nil_of_length_eq_zero (by have:(kids.length:Int)=0:=(by simpa using q); omega)
     subst this
     show _=some (true&&(ug n&&zi s [])&&true)
     rw[Bool.and_true]
  ·by_cases h2:k=2
   ·subst h2
    have head:(.ite ((Nat.cast (List.length kids):Int)==(0:Int)) (T.bind (vU s) λr2=>.ite r2 (T.bind (jQ n) λr3=>.ret (.inr r3)) (.ret (.inr false))) (.ret (.inr false)):T (Int⊕Bool)).run=some (.inr (((kids.length:Int)==0)&&(xC n&&zG s))):=by
     cases(Nat.cast (List.length kids):Int)==(0:Int)with
     | false=>rfl
     | true =>
      rw[zj,z6 hNm]
      cases zG s with
      | false=>rw[zg,z7,Bool.and_false]; rfl
      | true=>rw[zj,z6 hB,z7,Bool.and_true,Bool.true_and]
    refine(z6 (a:=.inr (((kids.length:Int)==0)&&(xC n&&zG s))) ?_ _).trans ?_
    ·rw[z8 (by rfl),za (by rfl)]; exact head
    ·rw[Sum.elim_inr,z7,if_pos (.inr rfl),if_neg (by decide),if_pos rfl]
     cases q:((kids.length:Int)==0)with
     | false=>rfl
     | true =>
      have:kids=[]:=List.eq_nil_of_length_eq_zero (by have:(kids.length:Int)=0:=(by simpa using q); omega)
      subst this
      show _=some (true&&(xC n&&zG s)&&true)
      rw[Bool.and_true]
   ·have k1:(k==1)=false:=by simpa using h1
    have k2:(k==2)=false:=by simpa using h2
    have fin:∀ kd:Int,(if k=7 then(1:Int)else if k=3\/k=4\/k=5\/k=6 then 2 else -1)=kd->((((kids.length:Int)==kd)&&((xC n&&zi s [])&&uC (D+1) kids))) =
      ((((kids.length:Int)==(if k=1\/k=2 then(0:Int)else if k=7 then 1 else if k=3\/k=4\/k=5\/k=6 then 2 else -1))&&(if k=1 then ug n&&zi s []else if k=2 then xC n&&zG s else xC n&&zi s []))&&uC (D+1) kids):=by
     intro kd hkd
     rw[if_neg (by rintro(h | h); exact h1 h; exact h2 h),hkd,if_neg h1,if_neg h2]
     simp only[Bool.and_assoc]
    by_cases h7:k=7
    ·refine(z6 (a:=.inl 1) ?_ _).trans ?_
     ·rw[z8 k1,z8 k2,za (by simpa using h7),z7]
     ·rw[Sum.elim_inl,<- fin 1 (by rw[if_pos h7])]; exact tail 1
    ·have k7:(k==7)=false:=by simpa using h7
     by_cases h3:k=3
     ·refine(z6 (a:=.inl 2) ?_ _).trans ?_
      ·rw[z8 k1,z8 k2,z8 k7,za (by simpa using h3),z7]
      ·rw[Sum.elim_inl,<- fin 2 (by rw[if_neg h7,if_pos (.inl h3)])]; exact tail 2
     ·have k3:(k==3)=false:=by simpa using h3
      by_cases h4:k=4
      ·refine(z6 (a:=.inl 2) ?_ _).trans ?_
       ·rw[z8 k1,z8 k2,z8 k7,z8 k3,za (by simpa using h4),z7]
       ·rw[Sum.elim_inl,<- fin 2 (by rw[if_neg h7,if_pos (.inr (.inl h4))])]; exact tail 2
      ·have k4:(k==4)=false:=by simpa using h4
       by_cases h5:k=5
       ·refine(z6 (a:=.inl 2) ?_ _).trans ?_
        ·rw[z8 k1,z8 k2,z8 k7,z8 k3,z8 k4,za (by simpa using h5),z7]
        ·rw[Sum.elim_inl,<- fin 2 (by rw[if_neg h7,if_pos (.inr (.inr (.inl h5)))])]; exact tail 2
       ·have k5:(k==5)=false:=by simpa using h5
        by_cases h6:k=6
        ·refine(z6 (a:=.inl 2) ?_ _).trans ?_
         ·rw[z8 k1,z8 k2,z8 k7,z8 k3,z8 k4,z8 k5,za (by simpa using h6),z7]
         ·rw[Sum.elim_inl,<- fin 2 (by rw[if_neg h7,if_pos (.inr (.inr (.inr h6)))])]; exact tail 2
        ·have k6:(k==6)=false:=by simpa using h6
         refine(z6 (a:=.inr false) ?_ _).trans ?_
         ·rw[z8 k1,z8 k2,z8 k7,z8 k3,z8 k4,z8 k5,z8 k6,z7]
         ·rw[Sum.elim_inr,z7,<- fin (-1) (by rw[if_neg h7,if_neg (by rintro(h | h | h | h)<;>contradiction)])]
          have:((kids.length:Int) == -1)=false:=by simp
          rw[this]; rfl
 ·rw[za (decide_eq_true (by omega)),z7,decide_eq_false c]; rfl
theorem Jx(e:Expr)(hb:bkE e<=1000000000):(mV e).run=some ((xw e:Nat):Int):=by
 unfold mV
 refine ik (λx:Expr=>bkE x<=1000000000) (λx=>bkE x) (λx=>((xw x:Nat):Int)) (λx hx g hg => ?_) (x:=e) hb
 have hk:=QJ x
 have hkl:=Dx x.kids
 have ndb:∀ (l:List Expr),wR l<=bkEs l:=by
  have both:∀ n,(∀ e:Expr,bkE e<=n->xw e<=bkE e):=by
   intro n
   induction n using Nat.strongRecOn with
   | _ n ih =>
    intro e he
    cases e with | mk k m s l =>
    have hl:∀ l':List Expr,bkEs l'<n->wR l'<=bkEs l':=by
     intro l'
     induction l' with
     | nil=>intro _; exact Nat.le_refl _
     | cons y r ihr =>
      intro h
      unfold bkEs at h ⊢
      unfold wR
      have h1:=ih (bkE y) (by omega) y (Nat.le_refl _)
      have h2:=ihr (by omega)
      omega
    have h3:bkEs l<bkE (.mk k m s l):=QJ (.mk k m s l)
    have:=hl l (by omega)
    unfold xw
    omega
  intro l
  induction l with
  | nil=>exact Nat.le_refl _
  | cons y r ihr =>
   unfold wR bkEs
   have:=both (bkE y) y (Nat.le_refl _)
   omega
 have loop:(sw (λy0=>g y0) x (1,0)).run=some ((1+wR x.kids:Nat):Int):=by
  have key:=G0 (r:=yc (λy0=>g y0) x) x.kids (zk .expr) (λ(b:Nat) i=>(((b:Nat):Int),i)) (λb r=>b+wR r<=1+wR x.kids/\∀ y∈r,y∈x.kids) (λr b=>((b+wR r:Nat):Int)) ?_ ?_ (b:=1) ⟨Nat.le_refl _,λy hy=>hy⟩
  ·exact key
  ·rintro b y ys i h0 hi hy ⟨h1,h2⟩
   have hm:=CL (h2 y List.mem_cons_self)
   have hr:=hg y (by omega) (by omega)
   have F4:=ndb x.kids
   have e1:wR (y::ys)=xw y+wR ys:=rfl
   rw[e1]at h1
   refine .inl ⟨b+xw y,?_,⟨by omega,λz hz=>h2 z (List.mem_cons_of_mem _ hz)⟩,by rw[e1,Nat.add_assoc]⟩
   unfold yc
   dsimp only
   rw[za (decide_eq_true hi),zb ⟨h0,hi⟩,hy,z6 hr,z7,zA (x:=i+1) (by omega) (by omega),zA (by omega) (by omega)]
   rfl
  ·rintro b _
   unfold yc
   dsimp only
   rw[z8 (kf _),z7]; rfl
 unfold de
 rw[z6 loop,z7]
 cases x with | mk k n s kids=>rfl
theorem Di(e:Expr)(h:allOk e)(hb:bkE e<=1000000)(hn:xw e<=256):(cZ e).run=some (xM 0 e):=by
 unfold cZ
 have h1:(pj e 1).run=some (xM 0 e):=z1O e 0 h (by omega) (by omega)
 rw[z6 h1]
 cases xM 0 e with
 | false=>rfl
 | true=>rw[zj,z6 (Jx e (by omega)),z7,decide_eq_true (by omega)]
def zr(k:Int):Int:=if k=3\/k=4 then 1 else if k=5\/k=6 then 2 else if k=7 then 3 else 4
def ZI(k:Int):ze:=if k=3 then[32,43,32]else if k=4 then[32,45,32]else if k=5 then[32,42,32]else if k=6 then[32,47,32]else[]
def um(b:Bool)(s:ze):ze:=if b=true then[40]++s++[41]else s
def fI(k:Int):List (Int×ze)->ze
 | [a]=>[45]++um (decide (a.1<3)) a.2
 | [a,b]=>um (decide (a.1<zr k)) a.2++ZI k++um (decide (b.1<zr k+1)) b.2
 | _=>[]
mutual
def prE:Expr->ze
 | .mk k n s l=>if k=1 then(qG (norm n).1 (nv (norm n).2.1) (nv (norm n).2.2.1) 0 61).1 else if k=2 then s else fI k (prL l)
def prL:List Expr->List (Int×ze)
 | []=>[]
 | e::r=>(zr e.kind,prE e)::prL r
end
theorem uU(b:Bool)(s:ze):(um b s).length<=s.length+2:=by unfold um; split<;>simp<;>omega
theorem X1(k:Int):(ZI k).length<=3:=by unfold ZI; (repeat' split)<;>simp
theorem KJ(n:Rat)(h:uR n):(qG (norm n).1 (nv (norm n).2.1) (nv (norm n).2.2.1) 0 61).1.length<=6000:=by
 have hn:=yd (k:=100) (by omega) h
 have hd:=oP n.1 (nv n.2.1) (nv n.2.2.1)
 have hd:nv (norm n).2.2.1≠0:=hd
 rcases hx:qG (norm n).1 (nv (norm n).2.1) (nv (norm n).2.2.1) 0 61 with⟨s,b⟩
 cases b with
 | true =>
  obtain⟨j,h1,h2,h3,rfl⟩:=rm _ _ _ hd 61 0 s hx
  have l1:=zy hn.1
  have l2:=hn.2.2.1
  have l3:=rW j
  have l4:=Wb (nv (norm n).2.1) (10 ^ j)
  have l5:=Jj (Nat.div_le_self (nv (norm n).2.1*10 ^ j) (nv (norm n).2.2.1))
  have l6:=dW (nv (norm n).2.1*10 ^ j / nv (norm n).2.2.1) 162 (by omega)
  have l7:(Wz (norm n).1).length<=1:=by unfold Wz; split<;>simp
  dsimp only
  rw[List.length_append]
  by_cases hj:j=0
  ·subst hj
   unfold KW
   rw[if_pos rfl]
   omega
  ·obtain⟨w,p,e,_,_,_,hp,_,hw⟩:=QY (pr (nv (norm n).2.1*10 ^ j / nv (norm n).2.2.1)) j hj (lZ _).1
   rw[e,List.length_append,List.length_cons]
   omega
 | false =>
  have:∀ (f k:Nat) (s:ze),qG (norm n).1 (nv (norm n).2.1) (nv (norm n).2.2.1) k f=(s,false)->s=[]:=by
   intro f
   induction f with
   | zero=>intro k s h; unfold qG at h; cases h; rfl
   | succ f ih =>
    intro k s h
    unfold qG at h
    split at h
    ·cases h
    ·exact ih _ _ h
  rw[this 61 0 s hx]; simp
theorem oR{d:Nat}{k:Int}{n:Rat}{s:ze}{l:List Expr}(h:xM d (.mk k n s l)=true):((l.length:Int)=fp k)/\uC (d+1) l=true:=by
 have h:(decide (d<32)&&(uX (.mk k n s l)&&uC (d+1) l))=true:=h
 simp only[Bool.and_eq_true]at h
 obtain⟨_,h1,h2⟩:=h
 unfold uX at h1
 simp only[Bool.and_eq_true]at h1
 exact⟨eq_of_beq h1.1,h2⟩
theorem fW:∀ (m:Nat) (e:Expr) (d:Nat),xw e<=m->xM d e=true->allOk e->(prE e).length<=2000*szE e:=by
 intro m
 induction m with
 | zero=>intro e d hm; cases e; unfold xw at hm; omega
 | succ m ih =>
  intro e d hm ho ha
  cases e with | mk k n s l =>
  obtain⟨hk,hl⟩:=oR ho
  obtain⟨hn,iI⟩:=ha
  have F4:xw (.mk k n s l)=1+wR l:=rfl
  have uP:szE (.mk k n s l)=3+s.length+8*n.2.1.length+8*n.2.2.1.length+szEs l:=rfl
  rw[F4]at hm
  rw[uP]
  show(if k=1 then(qG (norm n).1 (nv (norm n).2.1) (nv (norm n).2.2.1) 0 61).1 else if k=2 then s else fI k (prL l)).length<=_
  by_cases h1:k=1
  ·rw[if_pos h1]; have:=KJ n hn; omega
  ·rw[if_neg h1]
   by_cases h2:k=2
   ·rw[if_pos h2]; omega
   ·rw[if_neg h2]
    match l,hl,iI,hm with
    | [],_,_,_=>show(fI k []).length<=_; unfold fI; simp
    | [a],hl,iI,hm =>
     have ha':xM (d+1) a=true:=by
      have:(xM (d+1) a&&uC (d+1) [])=true:=hl
      simp only[Bool.and_eq_true]at this; exact this.1
     have:=ih a (d+1) (by have:wR [a]=xw a+0:=rfl; omega) ha' iI.1
     have e1:szEs [a]=szE a+0:=rfl
     have hp:=uU (decide (zr a.kind<3)) (prE a)
     show([45]++um (decide (zr a.kind<3)) (prE a)).length<=_
     rw[List.length_append,List.length_singleton,e1]; omega
    | [a,b],hl,iI,hm =>
     have Wt:xM (d+1) a=true/\xM (d+1) b=true:=by
      have:(xM (d+1) a&&(xM (d+1) b&&uC (d+1) []))=true:=hl
      simp only[Bool.and_eq_true]at this; exact⟨this.1,this.2.1⟩
     have e0:wR [a,b]=xw a+(xw b+0):=rfl
     have h3:=ih a (d+1) (by omega) Wt.1 iI.1
     have h4:=ih b (d+1) (by omega) Wt.2 iI.2.1
     have e1:szEs [a,b]=szE a+(szE b+0):=rfl
     have hp:=uU (decide (zr a.kind<zr k)) (prE a)
     have hq:=uU (decide (zr b.kind<zr k+1)) (prE b)
     have hm':=X1 k
     show(um (decide (zr a.kind<zr k)) (prE a)++ZI k++um (decide (zr b.kind<zr k+1)) (prE b)).length<=_
     rw[List.length_append,List.length_append,e1]; omega
    | a::b::c::r,_,_,_=>show(fI k _).length<=_; unfold prL prL prL fI; simp
theorem YG(e:Expr):(bj e).run=some (zr e.kind):=by
 unfold bj zr
 generalize e.kind=k
 by_cases h3:k=3
 ·subst h3; rfl
 by_cases h4:k=4
 ·subst h4; rfl
 by_cases h5:k=5
 ·subst h5; rfl
 by_cases h6:k=6
 ·subst h6; rfl
 by_cases h7:k=7
 ·subst h7; rfl
 ·simp[h3,h4,h5,h6,h7]
theorem z2f(k:Int):(pG k).run=some (zr k):=by
 unfold pG zr
 by_cases h3:k=3
 ·subst h3; rfl
 by_cases h4:k=4
 ·subst h4; rfl
 by_cases h5:k=5
 ·subst h5; rfl
 by_cases h6:k=6
 ·subst h6; rfl
 by_cases h7:k=7
 ·subst h7; rfl
 ·simp[h3,h4,h5,h6,h7]
theorem tJ(g:Expr->T ze)(e:Expr)(least:Int)(t:ze)(hg:(g e).run=some t)(hl:t.length<=1000000000000):(yJ (λy0=>g y0) e least).run=some (um (decide (zr e.kind<least)) t):=by
 unfold yJ um
 rw[z6 (YG e)]
 cases decide (zr e.kind<least)with
 | true=>rw[zj,z6 hg,zp _ (by simp; omega),zp _ (by simp[jC]; omega),z7,if_pos rfl]; rfl
 | false=>rw[zg,z6 hg,z7,if_neg (by simp)]
theorem He{k:Int}{l:List Expr}(hk:(l.length:Int)=fp k)(h1:k≠1)(h2:k≠2):(k=7/\∃ a,l=[a])\/((k=3\/k=4\/k=5\/k=6)/\∃ a b,l=[a,b]):=by
 unfold fp at hk
 rw[if_neg (by rintro(h | h); exact h1 h; exact h2 h)]at hk
 by_cases h7:k=7
 ·rw[if_pos h7]at hk
  match l,hk with
  | [a],_=>exact .inl ⟨h7,a,rfl⟩
  | [],hk=>simp at hk
  | _::_::_,hk=>simp at hk; omega
 ·rw[if_neg h7]at hk
  by_cases h:k=3\/k=4\/k=5\/k=6
  ·rw[if_pos h]at hk
   match l,hk with
   | [a,b],_=>exact .inr ⟨h,a,b,rfl⟩
   | [],hk=>simp at hk
   | [_],hk=>simp at hk
   | _::_::_::_,hk=>simp at hk; omega
  ·rw[if_neg h]at hk; omega
theorem Og(e:Expr)(d:Nat)(ho:xM d e=true)(ha:allOk e)(hs:szE e<=1000000):(ni e).run=some (prE e):=by
 unfold ni
 refine ik (λx:Expr=>(∃ d,xM d x=true)/\allOk x/\szE x<=1000000) (λx=>xw x) (λx=>prE x) (λx hx g hg => ?_) (x:=e) ⟨⟨d,ho⟩,ha,hs⟩
 obtain⟨⟨d,ho⟩,ha,hs⟩:=hx
 cases x with | mk k n s l =>
 obtain⟨hk,hl⟩:=oR ho
 obtain⟨hn,iI⟩:=ha
 have F4:xw (.mk k n s l)=1+wR l:=rfl
 have uP:szE (.mk k n s l)=3+s.length+8*n.2.1.length+8*n.2.2.1.length+szEs l:=rfl
 have hE:=ss n (eE hn (by omega))
 have z7u:prE (.mk k n s l)=if k=1 then(qG (norm n).1 (nv (norm n).2.1) (nv (norm n).2.2.1) 0 61).1 else if k=2 then s else fI k (prL l):=rfl
 rw[z7u]
 unfold cS
 rw[show Expr.kind (.mk k n s l)=k from rfl,show Expr.kids (.mk k n s l)=l from rfl,show Expr.num (.mk k n s l)=n from rfl,show Expr.name (.mk k n s l)=s from rfl]
 have S5:=YG (.mk k n s l)
 rw[show Expr.kind (.mk k n s l)=k from rfl]at S5
 by_cases h1:k=1
 ·rw[if_pos h1]
  refine(z6 (a:=.inr (qG (norm n).1 (nv (norm n).2.1) (nv (norm n).2.2.1) 0 61).1) ?_ _).trans rfl
  rw[za (by simpa using h1),z6 hE,z7]
 have k1:(k==1)=false:=by simpa using h1
 by_cases h2:k=2
 ·rw[if_neg h1,if_pos h2]
  refine(z6 (a:=.inr s) ?_ _).trans rfl
  rw[z8 k1,za (by simpa using h2),z7]
 have k2:(k==2)=false:=by simpa using h2
 rw[if_neg h1,if_neg h2]
 rcases He hk h1 h2 with⟨h7,a,rfl⟩ | ⟨Tp,a,b,rfl⟩
 ·have ha':xM (d+1) a=true:=by
   have:(xM (d+1) a&&uC (d+1) [])=true:=hl
   simp only[Bool.and_eq_true]at this; exact this.1
  have e0:wR [a]=xw a+0:=rfl
  have e1:szEs [a]=szE a+0:=rfl
  have hr:=hg a ⟨⟨_,ha'⟩,iI.1,by omega⟩ (by omega)
  have hlen:=fW (xw a) a (d+1) (Nat.le_refl _) ha' iI.1
  have hp:=tJ g a 3 (prE a) hr (by omega)
  have Xk:=uU (decide (zr a.kind<3)) (prE a)
  refine(z6 (a:=.inr (fI k (prL [a]))) ?_ _).trans rfl
  rw[z8 k1,z8 k2,za (by simpa using h7),zb ⟨by omega,by simp⟩,show nth [a] (0:Int) (zk .expr)=a from rfl,z6 hp,zp _ (by simp; omega),z7]
  rfl
 ·have Wt:xM (d+1) a=true/\xM (d+1) b=true:=by
   have:(xM (d+1) a&&(xM (d+1) b&&uC (d+1) []))=true:=hl
   simp only[Bool.and_eq_true]at this; exact⟨this.1,this.2.1⟩
  have e0:wR [a,b]=xw a+(xw b+0):=rfl
  have e1:szEs [a,b]=szE a+(szE b+0):=rfl
  have ra:=hg a ⟨⟨_,Wt.1⟩,iI.1,by omega⟩ (by omega)
  have rb:=hg b ⟨⟨_,Wt.2⟩,iI.2.1,by omega⟩ (by omega)
  have la:=fW (xw a) a (d+1) (Nat.le_refl _) Wt.1 iI.1
  have lb:=fW (xw b) b (d+1) (Nat.le_refl _) Wt.2 iI.2.1
  have DE:zF (zr k+1)=zr k+1:=by
   have:zr k=1\/zr k=2\/zr k=3\/zr k=4:=by unfold zr; (repeat' split)<;>simp
   rw[zA (by omega) (by omega)]
  have pa:=tJ g a (zr k) (prE a) ra (by omega)
  have pb:=tJ g b (zr k+1) (prE b) rb (by omega)
  have qa:=uU (decide (zr a.kind<zr k)) (prE a)
  have qb:=uU (decide (zr b.kind<zr k+1)) (prE b)
  have hm:=X1 k
  have k7:(k==7)=false:=by rw[beq_eq_false_iff_ne]; omega
  refine(z6 (a:=.inl (ZI k)) ?_ _).trans ?_
  ·rw[z8 k1,z8 k2,z8 k7]
   rcases Tp with rfl | rfl | rfl | rfl<;>rfl
  ·rw[Sum.elim_inl,zb ⟨by omega,by simp⟩,z6 S5,show nth [a,b] (0:Int) (zk .expr)=a from rfl,z6 pa,zp _ (by omega),zb ⟨by omega,by simp⟩,z6 S5,DE,show nth [a,b] (1:Int) (zk .expr)=b from rfl,z6 pb,zp _ (by simp[jC]; omega),z7]
   rfl
theorem OY(e:Expr)(asks:Int)(d:Nat)(ho:xM d e=true)(ha:allOk e)(hs:szE e<=100000):(rI e asks).run=some (um (decide (zr e.kind<asks)) (prE e)):=by
 unfold rI
 refine ik (λx:Expr×Int=>(∃ d,xM d x.1=true)/\allOk x.1/\szE x.1<=100000) (λx=>xw x.1) (λx=>um (decide (zr x.1.kind<x.2)) (prE x.1)) (λx hx g hg => ?_) (x:=(e,asks)) ⟨⟨d,ho⟩,ha,hs⟩
 obtain⟨x,q⟩:=x
 obtain⟨⟨d,ho⟩,ha,hs⟩:=hx
 dsimp only at ho ha hs
 have zig:=fW (xw x) x d (Nat.le_refl _) ho ha
 cases x with | mk k n s l =>
 obtain⟨hk,hl⟩:=oR ho
 obtain⟨hn,iI⟩:=ha
 have F4:xw (.mk k n s l)=1+wR l:=rfl
 have uP:szE (.mk k n s l)=3+s.length+8*n.2.1.length+8*n.2.2.1.length+szEs l:=rfl
 have hE:=pK n (eE hn (by omega))
 have z7u:prE (.mk k n s l)=if k=1 then(qG (norm n).1 (nv (norm n).2.1) (nv (norm n).2.2.1) 0 61).1 else if k=2 then s else fI k (prL l):=rfl
 unfold fJ
 rw[show Expr.kind (.mk k n s l)=k from rfl,show Expr.kids (.mk k n s l)=l from rfl,show Expr.num (.mk k n s l)=n from rfl,show Expr.name (.mk k n s l)=s from rfl]
 have fin:∀ t:T ze,t.run=some (prE (.mk k n s l))->(T.bind t λs1=>T.bind (pG k) λr10=>.ite (decide (r10<q))
   (.zL (((List.length ([40]:ze))+(List.length s1))<=(4611686018427387904:Nat))<|.zL (((List.length (cat ([40]:ze) s1))+(List.length ([41]:ze)))<=(4611686018427387904:Nat))<|.ret (cat (cat ([40]:ze) s1) ([41]:ze))) (.ret s1):T ze).run=some (um (decide (zr k<q)) (prE (.mk k n s l))):=by
  intro t ht
  rw[z6 ht,z6 (z2f k)]
  cases decide (zr k<q)with
  | true=>rw[zj,zp _ (by simp; omega),zp _ (by simp[jC]; omega),z7]; rfl
  | false=>rw[zg,z7]; rfl
 refine fin _ ?_
 rw[z7u]
 by_cases h1:k=1
 ·rw[if_pos h1,za (by simpa using h1),z6 hE,z7]
 have k1:(k==1)=false:=by simpa using h1
 by_cases h2:k=2
 ·rw[if_neg h1,if_pos h2,z8 k1,za (by simpa using h2),z7]
 have k2:(k==2)=false:=by simpa using h2
 rw[if_neg h1,if_neg h2]
 rcases He hk h1 h2 with⟨h7,a,rfl⟩ | ⟨Tp,a,b,rfl⟩
 ·have ha':xM (d+1) a=true:=by
   have:(xM (d+1) a&&uC (d+1) [])=true:=hl
   simp only[Bool.and_eq_true]at this; exact this.1
  have e0:wR [a]=xw a+0:=rfl
  have e1:szEs [a]=szE a+0:=rfl
  have hr:=hg (a,3) ⟨⟨_,ha'⟩,iI.1,by dsimp only; omega⟩ (by dsimp only; omega)
  have hlen:=fW (xw a) a (d+1) (Nat.le_refl _) ha' iI.1
  have Xk:=uU (decide (zr a.kind<3)) (prE a)
  dsimp only at hr
  rw[z8 k1,z8 k2,za (by simpa using h7),zb ⟨by omega,by simp⟩,show nth [a] (0:Int) (zk .expr)=a from rfl,z6 hr,zp _ (by simp; omega),z7]
  rfl
 ·have Wt:xM (d+1) a=true/\xM (d+1) b=true:=by
   have:(xM (d+1) a&&(xM (d+1) b&&uC (d+1) []))=true:=hl
   simp only[Bool.and_eq_true]at this; exact⟨this.1,this.2.1⟩
  have e0:wR [a,b]=xw a+(xw b+0):=rfl
  have e1:szEs [a,b]=szE a+(szE b+0):=rfl
  have ra:∀ q:Int,(g (a,q)).run=some (um (decide (zr a.kind<q)) (prE a)):=λq=>hg (a,q) ⟨⟨_,Wt.1⟩,iI.1,by dsimp only; omega⟩ (by dsimp only; omega)
  have rb:∀ q:Int,(g (b,q)).run=some (um (decide (zr b.kind<q)) (prE b)):=λq=>hg (b,q) ⟨⟨_,Wt.2⟩,iI.2.1,by dsimp only; omega⟩ (by dsimp only; omega)
  have la:=fW (xw a) a (d+1) (Nat.le_refl _) Wt.1 iI.1
  have lb:=fW (xw b) b (d+1) (Nat.le_refl _) Wt.2 iI.2.1
  have qa:∀ q:Int,(um (decide (zr a.kind<q)) (prE a)).length<=1000000000:=λq=>by have:=uU (decide (zr a.kind<q)) (prE a); omega
  have qb:∀ q:Int,(um (decide (zr b.kind<q)) (prE b)).length<=1000000000:=λq=>by have:=uU (decide (zr b.kind<q)) (prE b); omega
  have k7:(k==7)=false:=by rw[beq_eq_false_iff_ne]; omega
  have two:∀ (m:ze) (p q:Int),m.length<=3->(.zL (qt (0:Int) (List.length [a,b]))<|T.bind (g (nth [a,b] (0:Int) (zk .expr),p)) λr2=>.zL (((List.length r2)+(List.length m))<=(4611686018427387904:Nat))<|.zL (qt (1:Int) (List.length [a,b])) <|
    T.bind (g (nth [a,b] (1:Int) (zk .expr),q)) λr3=>.zL (((List.length (cat r2 m))+(List.length r3))<=(4611686018427387904:Nat))<|.ret (cat (cat r2 m) r3):T ze).run=some (um (decide (zr a.kind<p)) (prE a)++m++um (decide (zr b.kind<q)) (prE b)):=by
   intro m p q hm
   have h3:=qa p
   have h4:=qb q
   rw[zb ⟨by omega,by simp⟩,show nth [a,b] (0:Int) (zk .expr)=a from rfl,z6 (ra p),zp _ (by omega),zb ⟨by omega,by simp⟩,show nth [a,b] (1:Int) (zk .expr)=b from rfl,z6 (rb q),zp _ (by simp[jC]; omega),z7]
   rfl
  rw[z8 k1,z8 k2,z8 k7]
  rcases Tp with rfl | rfl | rfl | rfl
  ·rw[za (by rfl)]; exact two [32,43,32] 1 2 (by simp)
  ·rw[z8 (by rfl),za (by rfl)]; exact two [32,45,32] 1 2 (by simp)
  ·rw[z8 (by rfl),z8 (by rfl),za (by rfl)]; exact two [32,42,32] 2 3 (by simp)
  ·rw[z8 (by rfl),z8 (by rfl),z8 (by rfl),za (by rfl)]; exact two [32,47,32] 2 3 (by simp)
structure FL(f:Form):Prop where
 n:f.1.length+f.2.1.length+f.2.2.1.length+f.2.2.2.1.length+f.2.2.2.2.1.length+f.2.2.2.2.2.1.length<=30
 s:∀ x∈f.1,x.1.length<=600
 p:∀ x∈f.2.1,x.1.length<=600/\x.2.1.2.1.length<=75/\x.2.1.2.2.1.length<=75
 g:∀ x∈f.2.2.1,x.1.length<=600/\x.2.1.length<=600
 d:∀ x∈f.2.2.2.1,x.1.length<=600
 r:∀ x∈f.2.2.2.2.1,x.1.length<=600/\x.2.2.1.length<=600/\szE x.2.2.2.1<=600/\szE x.2.2.2.2.1<=600
 c:∀ x∈f.2.2.2.2.2.1,x.1.length<=600/\szE x.2.2.2.1<=600/\szE x.2.2.2.2.1<=600
theorem dQ(e:Expr):Expr.mk (Expr.kind e) ((Expr.num e).1,((Expr.num e).2.1,((Expr.num e).2.2.1,()))) (Expr.name e) (Expr.kids e)=e:=by
 cases e; rfl
mutual
theorem Rf:∀ e:Expr,bkE e<=4*szE e
 | .mk k n s l=>by
  have:=I8 l
  unfold bkE szE
  omega
theorem I8:∀ l:List Expr,bkEs l<=4*szEs l
 | []=>Nat.le_refl _
 | e::r=>by
  have h1:=Rf e
  have h2:=I8 r
  unfold bkEs szEs
  omega
end
def wm(e:Expr):Prop:=szE e<=74000/\xw e<=256/\allOk e
theorem rS{e:Expr}(h:szE e<=600)(ha:allOk e):wm e:=⟨by omega,by have:=Pc e; omega,ha⟩
theorem z2H{e:Expr}(h:wm e):bkE e<=296000:=by have:=Rf e; have:=h.1; omega
theorem GK{e:Expr}(h:wm e):xw e<=256:=h.2.1
theorem Zb{e:Expr}(h:wm e):(uv e).run=some (xM 0 e):=z6D e h.2.2 (GK h)
theorem pB{e:Expr}(h:wm e):(cZ e).run=some (xM 0 e):=Di e h.2.2 (by have:=z2H h; omega) (GK h)
theorem LJ{e:Expr}(h:wm e)(ho:xM 0 e=true):(dU e).run=some (prE e):=by
 unfold dU
 rw[z6 (Zb h),ho,z8 (by rfl),z6 (Og e 0 ho h.2.2 (by have:=h.1; omega)),z7]
theorem Qm{e:Expr}(h:wm e)(ho:xM 0 e=true):(yt e).run=some (prE e):=by
 unfold yt
 rw[z6 (pB h),ho,z8 (by rfl),z6 (OY e 1 0 ho h.2.2 (by have:=h.1; omega)),z7]
 have:decide (zr e.kind<1)=false:=by
  refine decide_eq_false ?_
  unfold zr
  (repeat' split)<;>omega
 rw[this]; rfl
theorem bZ{e:Expr}(h:wm e)(ho:xM 0 e=true):(prE e).length<=148000000:=by
 have:=fW (xw e) e 0 (Nat.le_refl _) ho h.2.2
 have:=h.1
 omega
structure FS(f:Form):Prop where
 n:f.1.length+f.2.1.length+f.2.2.1.length+f.2.2.2.1.length+f.2.2.2.2.1.length+f.2.2.2.2.2.1.length<=601
 s:∀ x∈f.1,x.1.length<=600
 p:∀ x∈f.2.1,x.1.length<=600/\we 100 x.2.1
 g:∀ x∈f.2.2.1,x.1.length<=600/\x.2.1.length<=600
 d:∀ x∈f.2.2.2.1,x.1.length<=600
 r:∀ x∈f.2.2.2.2.1,x.1.length<=600/\x.2.2.1.length<=600/\wm x.2.2.2.1/\wm x.2.2.2.2.1
 c:∀ x∈f.2.2.2.2.2.1,x.1.length<=600/\wm x.2.2.2.1/\wm x.2.2.2.2.1
theorem zcz{f:Form}(hw:wf qc f)(hb:FB f)(hl:FL f):FS f:=by
 refine⟨by have:=hl.n; omega,hl.s,λx hx => ?_,hl.g,hl.d,λx hx => ?_,λx hx => ?_⟩
 ·obtain⟨a,b,c⟩:=hl.p x hx
  obtain⟨_,_,_,d,e⟩:=hb.p x hx
  exact⟨a,d,e,by omega,by omega⟩
 ·obtain⟨a,b,c,d⟩:=hl.r x hx
  have hwx:wf q9 x:=hw.2.2.2.2.1 x hx
  exact⟨a,b,rS c (o9 _ hwx.2.2.2.1 (by omega)),rS d (o9 _ hwx.2.2.2.2.1 (by omega))⟩
 ·obtain⟨a,b,c⟩:=hl.c x hx
  have hwx:wf zT x:=hw.2.2.2.2.2.1 x hx
  exact⟨a,rS b (o9 _ hwx.2.2.2.1 (by omega)),rS c (o9 _ hwx.2.2.2.2.1 (by omega))⟩
def Uc(x:Switch):Bool := !zG x.1
def fu(x:Param):Bool := !zG x.1||(!fc x.2.1||uM x.2.1)
def yu(s:ze):Bool:=zi s []||zG s
def Wr(x:xm):Bool := !zG x.1 || !yu x.2.1
def X5(n at_:Int)(x:Field):Bool:=decide (x.2.1<at_)||(decide (n<=x.2.1)||(!zG x.1||(decide (x.2.2.2.1<(0:Int))||decide ((9:Int)<x.2.2.2.1))))
def ZO(n at_:Int)(x:Check):Bool:=decide (x.2.1<at_)||(decide (n<=x.2.1)||(!zG x.1||(decide (x.2.2.1<(0:Int))||(decide ((2:Int)<x.2.2.1)||(!xM 0 x.2.2.2.1 || !xM 0 x.2.2.2.2.1)))))
def nM(x:qI):Bool := !zG x.1||(!yu x.2.2.1||(decide (x.2.1<(0:Int))||(decide ((3:Int)<x.2.1)||(!xM 0 x.2.2.2.1 || !xM 0 x.2.2.2.2.1))))
def nD{α:Type}(bad:Int->α->Bool)(nx:α->Int):Int->List α->Bool
 | _,[]=>true
 | at_,x::r => !bad at_ x&&nD bad nx (nx x) r
theorem lX{α:Type}(bad:Int->α->Bool)(nx:α->Int)(at_:Int)(x:α)(r:List α):nD bad nx at_ (x::r)=(!bad at_ x&&nD bad nx (nx x) r):=rfl
def a1(f:Form):Bool := !f.1.any Uc
def a2(f:Form):Bool := !f.2.1.any fu
def a3(f:Form):Bool := !f.2.2.1.any Wr
def a4(f:Form):Bool:=nD (X5 (f.2.2.1.length:Int)) (λx=>x.2.1) 0 f.2.2.2.1
def a5(f:Form):Bool:=nD (ZO (f.2.2.1.length:Int)) (λx=>x.2.1) 0 f.2.2.2.2.2.1
def a6(f:Form):Bool := !f.2.2.2.2.1.any nM
theorem Zo{α:Type}(l:List α)(d:α)(bad:α->Bool){r:Int->T (Int⊕(Unit⊕Bool))}
  (step:∀ (k:Nat) (x:α),k<l.length->nth l (k:Int) d=x->x∈l->(r (k:Int)).run=some (if bad x=true then .inr (.inr false)else .inl ((k+1:Nat):Int)))
  (done:(r (l.length:Int)).run=some (.inr (.inl ()))):(T.loop r 0).run=some (if l.any bad=true then .inr false else .inl ()):=by
 refine T.r9 (r:=r) l d (λ(_:Unit) i=>i) (λ_ _=>True) (λxs _=>if xs.any bad=true then .inr false else .inl ()) (λk b x xs hk hx hm _ _ => ?_) (λb _ => ?_) (b:=()) trivial
 ·rw[step k x hk hx hm,List.any_cons]
  cases bad x with
  | true=>exact .inr rfl
  | false=>exact .inl ⟨(),rfl,trivial,rfl⟩
 ·exact done
theorem rA{α:Type}(l:List α)(d:α)(bad:Int->α->Bool)(nx:α->Int){r:Int×Int->T ((Int×Int)⊕(Unit⊕Bool))}
  (hn:∀ at_ x,0<=at_->bad at_ x=false->0<=nx x)
  (step:∀ (k:Nat) (at_:Int) (x:α),k<l.length->nth l (k:Int) d=x->x∈l->0<=at_->(r (at_,(k:Int))).run=some (if bad at_ x=true then .inr (.inr false)else .inl (nx x,((k+1:Nat):Int))))
  (done:∀ at_,(r (at_,(l.length:Int))).run=some (.inr (.inl ()))):(T.loop r (0,0)).run=some (if nD bad nx 0 l=true then .inl ()else .inr false):=by
 refine T.r9 (r:=r) l d (λ(b:Int) i=>(b,i)) (λ_ b=>0<=b) (λxs b=>if nD bad nx b xs=true then .inl ()else .inr false) (λk b x xs hk hx hm _ h0 => ?_) (λb _ => ?_) (b:=0) (Int.le_refl 0)
 ·rw[step k b x hk hx hm h0]
  rw[lX]
  cases h:bad b x with
  | true=>exact .inr rfl
  | false=>exact .inl ⟨nx x,rfl,hn b x h0 h,rfl⟩
 ·exact done b
theorem lH{α:Type}{bad:Int->α->Bool}{nx:α->Int}:∀ {l:List α} {at_:Int},nD bad nx at_ l=true->∀ x∈l,∃ b,bad b x=false
 | [],_,_,x,hx=>by cases hx
 | y::r,at_,h,x,hx=>by
  unfold nD at h
  rw[Bool.and_eq_true,Bool.not_eq_true']at h
  rcases List.mem_cons.1 hx with rfl | hx
  ·exact⟨at_,h.1⟩
  ·exact lH h.2 x hx
theorem N3{α:Type}{x:α}{b c:Bool}{t:T (Bool×α)}(h:t.run=some (c,x)):(T.ite b (.ret (true,x)) t).run=some (b||c,x):=by cases b; exact h; rfl
theorem orB{b c:Bool}{t:T Bool}(h:t.run=some c):(T.ite b (.ret true) t).run=some (b||c):=by cases b; exact h; rfl
theorem pz{α:Type}{x:α}{m:T Bool}{b c:Bool}{t:T (Bool×α)}(hm:m.run=some b)(h:t.run=some (c,x)):(T.bind m λr=>T.ite (!r) (.ret (true,x)) t).run=some (!b||c,x):=by
 rw[z6 hm]; exact N3 h
theorem W7{m:T Bool}{b c:Bool}{t:T Bool}(hm:m.run=some b)(h:t.run=some c):(T.bind m λr=>T.ite (!r) (.ret true) t).run=some (!b||c):=by
 rw[z6 hm]; exact orB h
theorem z6v{α:Type}{x:α}{m:T Bool}{b:Bool}(hm:m.run=some b):(T.bind m λr=>.ret ((!r),x)).run=some (!b,x):=by
 rw[z6 hm]; rfl
theorem SB{m:T Bool}{b:Bool}(hm:m.run=some b):(T.bind m λr=>.ret (!r)).run=some (!b):=by
 rw[z6 hm]; rfl
abbrev rZ(a b:Int):Prop:=a<=b
abbrev ilt(a b:Int):Prop:=a<b
abbrev FT:=List Switch×List Param×List Field×List qI×List Check×Unit
def CS(x:Switch):ze:=[115,119,105,116,99,104,32]++x.1++(bif x.2.1 then[32,111,110,10]else[32,111,102,102,10])
def YC(x:Param):ze:=[112,97,114,97,109,32]++x.1++[32]++vk (norm x.2.1)++[10]
def Yk(s:ze):ze:=if s=[]then[]else[32,119,104,101,110,32]++s
def phS(x:xm):ze:=[112,97,103,101,32]++x.1++Yk x.2.1++[10]
def fhS(x:Field):ze:=bif x.2.2.1 then[102,105,101,108,100,32]++x.1++[32,109,117,115,116]else[102,105,101,108,100,32]++x.1
def Po(x:Field):ze:=if(0:Int)<x.2.2.2.1 then fhS x++([32,115,99,97,108,101,32]++en x.2.2.2.1)++[10]else fhS x++[10]
def Ez(l:Expr)(sign:ze)(r:Expr):ze:=[32,58,32]++prE l++[32]++sign++[32]++prE r++[10]
def jt(n:Int):ze:=if n=1 then[60]else if n=2 then[60,61]else[61]
def fm(n:Int):ze:=if n=0 then[114,101,113,117,105,114,101,100]else if n=1 then[115,116,114,111,110,103]else if n=2 then[109,101,100,105,117,109]else[119,101,97,107]
def ckS(x:Check):ze:=[99,104,101,99,107,32]++x.1++Ez x.2.2.2.1 (jt x.2.2.1) x.2.2.2.2.1
def VN(x:qI):ze:=[114,117,108,101,32]++fm x.2.1++[32]++x.1++Yk x.2.2.1++Ez x.2.2.2.1 [61] x.2.2.2.2.1
def FK(i:Int)(x:Field):ze:=if(x.2.1==i)=true then Po x else[]
def DI(i:Int)(x:Check):ze:=if(x.2.1==i)=true then ckS x else[]
def HW(f:Form)(i:Nat):ze:=phS (nth f.2.2.1 (i:Int) (zk zY))++f.2.2.2.1.flatMap (FK i)++f.2.2.2.2.2.1.flatMap (DI i)
def Nx(f:Form):ze:=f.1.flatMap CS++f.2.1.flatMap YC++(List.range f.2.2.1.length).flatMap (HW f)++f.2.2.2.2.1.flatMap VN
structure DB(f:Form):Prop extends FS f where
 d2:∀ x∈f.2.2.2.1,rZ 0 x.2.2.2.1/\rZ x.2.2.2.1 9
 c2:∀ x∈f.2.2.2.2.2.1,rZ 0 x.2.2.1/\rZ x.2.2.1 2/\xM 0 x.2.2.2.1=true/\xM 0 x.2.2.2.2.1=true
 r2:∀ x∈f.2.2.2.2.1,rZ 0 x.2.1/\rZ x.2.1 3/\xM 0 x.2.2.2.1=true/\xM 0 x.2.2.2.2.1=true
theorem G6{f:Form}(h:FS f)(h4:a4 f=true)(h5:a5 f=true)(h6:a6 f=true):DB f:=by
 refine { toFS:=h,d2:=λx hx => ?_,c2:=λx hx => ?_,r2:=λx hx => ?_ }
 ·obtain⟨b,hb⟩:=lH h4 x hx
  unfold X5 at hb
  simp only[Bool.or_eq_false_iff,decide_eq_false_iff_not,Bool.not_eq_false']at hb
  obtain⟨_,_,_,q1,q2⟩:=hb
  exact⟨Int.not_lt.1 q1,Int.not_lt.1 q2⟩
 ·obtain⟨b,hb⟩:=lH h5 x hx
  unfold ZO at hb
  simp only[Bool.or_eq_false_iff,decide_eq_false_iff_not,Bool.not_eq_false']at hb
  obtain⟨_,_,_,q1,q2,q3,q4⟩:=hb
  exact⟨Int.not_lt.1 q1,Int.not_lt.1 q2,q3,q4⟩
 ·unfold a6 at h6
  rw[Bool.not_eq_true',List.any_eq_false]at h6
  have hb:nM x=false:=by simpa using h6 x hx
  unfold nM at hb
  simp only[Bool.or_eq_false_iff,decide_eq_false_iff_not,Bool.not_eq_false']at hb
  obtain⟨_,_,q1,q2,q3,q4⟩:=hb
  exact⟨Int.not_lt.1 q1,Int.not_lt.1 q2,q3,q4⟩
theorem Qd(n:Int):(jt n).length<=2:=by unfold jt; split; decide; split<;>decide
theorem J2(n:Int):(fm n).length<=8:=by unfold fm; split; decide; split; decide; split<;>decide
theorem rC(s:ze):(Yk s).length<=s.length+6:=by unfold Yk; split<;>simp
theorem V9(x:Switch)(h:x.1.length<=600):(CS x).length<=300000000:=by
 unfold CS
 cases x.2.1<;>simp<;>omega
theorem V5(x:Param)(h:x.1.length<=600)(hr:we 100 x.2.1):(YC x).length<=300000000:=by
 have:=th x.2.1 ⟨hr.1,hr.2.1,by have:=hr.2.2.1; omega,by have:=hr.2.2.2; omega⟩
 unfold YC
 simp only[List.length_append,List.length_cons,List.length_nil]
 omega
theorem LS(x:xm)(h:x.1.length<=600)(h2:x.2.1.length<=600):(phS x).length<=300000000:=by
 have:=rC x.2.1
 unfold phS
 simp only[List.length_append,List.length_cons,List.length_nil]
 omega
theorem Ha(x:Field):(fhS x).length<=x.1.length+11:=by
 unfold fhS
 cases x.2.2.1<;>simp
theorem Ht(x:Field)(h:x.1.length<=600)(h1:rZ 0 x.2.2.2.1)(h2:rZ x.2.2.2.1 9):(Po x).length<=300000000:=by
 have:=Ch x.2.2.2.1 ⟨by unfold rZ at *; omega,by unfold rZ at *; omega⟩
 have:=Ha x
 unfold Po
 split<;>simp only[List.length_append,List.length_cons,List.length_nil]<;>omega
theorem WU{l r:Expr}(s:ze)(hs:s.length<=8)(h1:wm l)(h2:wm r)(o1:xM 0 l=true)(o2:xM 0 r=true):(Ez l s r).length<=297000000:=by
 have:=bZ h1 o1
 have:=bZ h2 o2
 unfold Ez
 simp only[List.length_append,List.length_cons,List.length_nil]
 omega
theorem Mk(x:Check)(h:x.1.length<=600)(h1:wm x.2.2.2.1)(h2:wm x.2.2.2.2.1)(o1:xM 0 x.2.2.2.1=true)(o2:xM 0 x.2.2.2.2.1=true):(ckS x).length<=300000000:=by
 have:=WU (jt x.2.2.1) (by have:=Qd x.2.2.1; omega) h1 h2 o1 o2
 unfold ckS
 simp only[List.length_append,List.length_cons,List.length_nil]
 omega
theorem WZ(x:qI)(h:x.1.length<=600)(h':x.2.2.1.length<=600)(h1:wm x.2.2.2.1)(h2:wm x.2.2.2.2.1)(o1:xM 0 x.2.2.2.1=true)(o2:xM 0 x.2.2.2.2.1=true):(VN x).length<=300000000:=by
 have:=WU [61] (by decide) h1 h2 o1 o2
 have:=J2 x.2.1
 have:=rC x.2.2.1
 unfold VN
 simp only[List.length_append,List.length_cons,List.length_nil]
 omega
theorem Qb{f:Form}(h:DB f)(i:Int):∀ x∈f.2.2.2.1,(FK i x).length<=300000000:=λx hx=>by
 unfold FK
 split
 ·exact Ht x (h.d x hx) (h.d2 x hx).1 (h.d2 x hx).2
 ·exact Nat.zero_le _
theorem HO{f:Form}(h:DB f)(i:Int):∀ x∈f.2.2.2.2.2.1,(DI i x).length<=300000000:=λx hx=>by
 unfold DI
 obtain⟨q1,q2,q3⟩:=h.c x hx
 obtain⟨_,_,o1,o2⟩:=h.c2 x hx
 split
 ·exact Mk x q1 q2 q3 o1 o2
 ·exact Nat.zero_le _
theorem I3{f:Form}(h:DB f){i:Nat}(hi:i<f.2.2.1.length):(nth f.2.2.1 (i:Int) (zk zY)).1.length<=600/\(nth f.2.2.1 (i:Int) (zk zY)).2.1.length<=600 :=
 h.g _ (bN (by omega) (by omega))
theorem Gt{f:Form}(h:DB f){i:Nat}(hi:i<f.2.2.1.length):(HW f i).length<=181000000000:=by
 obtain⟨g1,g2⟩:=I3 h hi
 have h1:=LS _ g1 g2
 have h2:=uG (FK i) f.2.2.2.1 300000000 (Qb h i)
 have h3:=uG (DI i) f.2.2.2.2.2.1 300000000 (HO h i)
 have:=h.n
 unfold HW
 simp only[List.length_append]
 omega
theorem lJ{α:Type}(l:List α)(d:α)(C B:Nat)(f:α->ze)(s:ze){r:ze×Int->T ((ze×Int)⊕ze)}
  (step:∀ (k:Nat) (b:ze) (x:α),k<l.length->nth l (k:Int) d=x->x∈l->b.length+C<=B->(r (b,(k:Int))).run=some (.inl (b++f x,((k+1:Nat):Int))))
  (done:∀ b,(r (b,(l.length:Int))).run=some (.inr b)) (hf:∀ x∈l,(f x).length<=C) (hB:s.length+l.length*C<=B):(T.loop r (s,0)).run=some (s++l.flatMap f):=by
 rw[<- KC]
 refine T.Vx (r:=r) l d (λ(b:ze) i=>(b,i)) (λk b=>b.length<=s.length+k*C) (λb x=>b++f x) (λb=>b) (λk b x hk hx hm hI => ?_) (λb hI=>done b) (b:=s) (by omega)
 have h4:=D3 (c:=C) (show k+1<=l.length from hk)
 rw[Nat.add_mul,Nat.one_mul]at h4
 refine⟨step k b x hk hx hm (by omega),?_⟩
 have:=hf x hm
 rw[List.length_append,Nat.add_mul,Nat.one_mul]
 omega
theorem iT{α:Type}(l:List α)(d:α)(C B:Nat)(f:α->ze)(s:ze){r:Int×Unit×List Int->T ((Int×Unit×List Int)⊕(Unit×List Int))}
  (step:∀ (k:Nat) (b:ze) (x:α),k<l.length->nth l (k:Int) d=x->x∈l->b.length+C<=B->(r ((k:Int),(),bytesOf b)).run=some (.inl (((k+1:Nat):Int),(),bytesOf (b++f x))))
  (done:∀ b,(r ((l.length:Int),(),bytesOf b)).run=some (.inr ((),bytesOf b))) (hf:∀ x∈l,(f x).length<=C) (hB:s.length+l.length*C<=B):(T.loop r (0,(),bytesOf s)).run=some ((),bytesOf (s++l.flatMap f)):=by
 rw[<- KC]
 refine T.Vx (r:=r) l d (λ(b:ze) i=>(i,(),bytesOf b)) (λk b=>b.length<=s.length+k*C) (λb x=>b++f x) (λb=>((),bytesOf b)) (λk b x hk hx hm hI => ?_) (λb hI=>done b) (b:=s) (by omega)
 have h4:=D3 (c:=C) (show k+1<=l.length from hk)
 rw[Nat.add_mul,Nat.one_mul]at h4
 refine⟨step k b x hk hx hm (by omega),?_⟩
 have:=hf x hm
 rw[List.length_append,Nat.add_mul,Nat.one_mul]
 omega
theorem K5(l:List Switch)(g:Switch->T Bool)(p:Switch->Bool)(hg:∀ x∈l,(g x).run=some (p x))(hl:l.length<=1000000000):(qL l g).run=some (l.any p):=by
 have key:(uF l g (l.length:Int) 0).run=some (if PL.tQ p 0 l = -1 then .inl ()else .inr (PL.tQ p 0 l)):=by
  refine PL.Q6 l (zk zw) p (λi h hi hp => ?_) (λi h hi hp => ?_) (λi hi => ?_)
  ·have hm:=bN (d:=zk zw) h hi
   simp(disch:=omega) [qK,hi,hg _ hm,hp]
  ·have hm:=bN (d:=zk zw) h hi
   simp(disch:=omega) [qK,hi,hg _ hm,hp]
  ·simp[qK,hi]
 have hx:(xW l g).run=some (PL.tQ p 0 l):=by
  unfold xW
  rw[z6 key]
  split<;>rename_i h<;>simp[h]
 unfold qL
 rw[z6 hx,z7,PL.WD _ _ _ (Int.le_refl 0)]
theorem Gu(l:List Param)(g:Param->T Bool)(p:Param->Bool)(hg:∀ x∈l,(g x).run=some (p x))(hl:l.length<=1000000000):(qV l g).run=some (l.any p):=by
 have key:(uV l g (l.length:Int) 0).run=some (if PL.tQ p 0 l = -1 then .inl ()else .inr (PL.tQ p 0 l)):=by
  refine PL.Q6 l (zk zM) p (λi h hi hp => ?_) (λi h hi hp => ?_) (λi hi => ?_)
  ·have hm:=bN (d:=zk zM) h hi
   simp(disch:=omega) [qU,hi,hg _ hm,hp]
  ·have hm:=bN (d:=zk zM) h hi
   simp(disch:=omega) [qU,hi,hg _ hm,hp]
  ·simp[qU,hi]
 have hx:(wb l g).run=some (PL.tQ p 0 l):=by
  unfold wb
  rw[z6 key]
  split<;>rename_i h<;>simp[h]
 unfold qV
 rw[z6 hx,z7,PL.WD _ _ _ (Int.le_refl 0)]
theorem BH(l:List xm)(g:xm->T Bool)(p:xm->Bool)(hg:∀ x∈l,(g x).run=some (p x))(hl:l.length<=1000000000):(xc l g).run=some (l.any p):=by
 have key:(jq l g (l.length:Int) 0).run=some (if PL.tQ p 0 l = -1 then .inl ()else .inr (PL.tQ p 0 l)):=by
  refine PL.Q6 l (zk zY) p (λi h hi hp => ?_) (λi h hi hp => ?_) (λi hi => ?_)
  ·have hm:=bN (d:=zk zY) h hi
   simp(disch:=omega) [xe,hi,hg _ hm,hp]
  ·have hm:=bN (d:=zk zY) h hi
   simp(disch:=omega) [xe,hi,hg _ hm,hp]
  ·simp[xe,hi]
 have hx:(wG l g).run=some (PL.tQ p 0 l):=by
  unfold wG
  rw[z6 key]
  split<;>rename_i h<;>simp[h]
 unfold xc
 rw[z6 hx,z7,PL.WD _ _ _ (Int.le_refl 0)]
theorem B4(l:List qI)(g:qI->T Bool)(p:qI->Bool)(hg:∀ x∈l,(g x).run=some (p x))(hl:l.length<=1000000000):(xd l g).run=some (l.any p):=by
 have key:(jl l g (l.length:Int) 0).run=some (if PL.tQ p 0 l = -1 then .inl ()else .inr (PL.tQ p 0 l)):=by
  refine PL.Q6 l (zk q9) p (λi h hi hp => ?_) (λi h hi hp => ?_) (λi hi => ?_)
  ·have hm:=bN (d:=zk q9) h hi
   simp(disch:=omega) [xg,hi,hg _ hm,hp]
  ·have hm:=bN (d:=zk q9) h hi
   simp(disch:=omega) [xg,hi,hg _ hm,hp]
  ·simp[xg,hi]
 have hx:(wD l g).run=some (PL.tQ p 0 l):=by
  unfold wD
  rw[z6 key]
  split<;>rename_i h<;>simp[h]
 unfold xd
 rw[z6 hx,z7,PL.WD _ _ _ (Int.le_refl 0)]
theorem Js(s:ze):(kc s).run=some (yu s):=by
 unfold kc yu
 cases zi s []with
 | true=>rfl
 | false=>rw[zg,z6 (xG s)]; rfl
theorem Oi(f:Form)(h:FS f):(fU f).run=some (a1 f&&(a2 f&&a3 f)):=by
 have hn:=h.n
 have h1:(qL f.1 (λz0=>vH z0)).run=some (f.1.any Uc):=K5 f.1 _ Uc (λx _=>by
  unfold vH Uc
  exact SB (xG x.1)) (by omega)
 have h2:(qV f.2.1 (λz0=>vF z0)).run=some (f.2.1.any fu):=Gu f.2.1 _ fu (λx hx=>by
  have hr:=(h.p x hx).2
  have hr:we 100000000 x.2.1:=⟨hr.1,hr.2.1,by have:=hr.2.2.1; omega,by have:=hr.2.2.2; omega⟩
  unfold vF fu
  exact W7 (xG x.1) (W7 (sU _ hr) (by rw[z6 (sH _ hr)]; rfl))) (by omega)
 have h3:(xc f.2.2.1 (λz0=>vB z0)).run=some (f.2.2.1.any Wr):=BH f.2.2.1 _ Wr (λx hx=>by
  unfold vB Wr
  exact W7 (xG x.1) (SB (Js _))) (by omega)
 unfold fU a1 a2 a3
 rw[z6 h1]
 cases f.1.any Uc with
 | true=>rfl
 | false =>
  rw[za (by rfl),z6 h2]
  cases f.2.1.any fu with
  | true=>rfl
  | false=>rw[za (by rfl),z6 h3,z7]; rfl
theorem U8(pg at_ n:Int)(h:0<=at_):(gO pg at_ n).run=some (!(decide (pg<at_)||decide (n<=pg))):=by
 unfold gO
 have e1:mj at_ 0=at_:=by unfold mj; split<;>omega
 rw[e1,z7]
 by_cases q1:pg<at_<;>by_cases q2:n<=pg
 ·rw[decide_eq_true q1,decide_eq_false (by omega:¬ at_<=pg)]; rfl
 ·rw[decide_eq_true q1,decide_eq_false (by omega:¬ at_<=pg)]; rfl
 ·rw[decide_eq_true q2,decide_eq_false (by omega:¬ pg<n),Bool.and_false,Bool.or_true]; rfl
 ·rw[decide_eq_false q1,decide_eq_false q2,decide_eq_true (by omega:at_<=pg),decide_eq_true (by omega:pg<n)]; rfl
theorem QB(f:Form)(h:FS f):(cX f).run=some (a4 f):=by
 have hn:=h.n
 have key:(nw f f.2.2.2.1 (f.2.2.2.1.length:Int) (0,0)).run=some (if a4 f=true then .inl ()else .inr false):=by
  refine rA (r:=uS f f.2.2.2.1 (f.2.2.2.1.length:Int)) f.2.2.2.1 (zk zN) (X5 (f.2.2.1.length:Int)) (λx=>x.2.1) (λat_ x h0 hb => ?_) (λk at_ x hk hx hm h0 => ?_) (λat_ => ?_)
  ·unfold X5 at hb
   rw[Bool.or_eq_false_iff,decide_eq_false_iff_not]at hb
   exact Int.le_trans h0 (Int.not_lt.1 hb.1)
  ·unfold uS
   dsimp only
   rw[za (uL hk),zb (qf hk),hx]
   refine(z6 (a:=(X5 (f.2.2.1.length:Int) at_ x,x)) ?_ _).trans ?_
   ·refine(pz (xG x.1) (pz (U8 x.2.1 at_ _ h0) (N3 (z7 _)))).trans ?_
    unfold X5
    cases zG x.1<;>cases decide (x.2.1<at_)<;>cases decide ((f.2.2.1.length:Int)<=x.2.1)<;>cases decide (x.2.2.2.1<(0:Int))<;>cases decide ((9:Int)<x.2.2.2.1)<;>rfl
   ·dsimp only
    cases X5 (f.2.2.1.length:Int) at_ x with
    | true=>rfl
    | false=>rw[zg,z7,ll k _ hk (by omega)]; rfl
  ·unfold uS
   dsimp only
   rw[z8 (kf _),z7]
 unfold cX
 rw[z6 key]
 cases a4 f<;>rfl
theorem TU(x:qI)(h1:wm x.2.2.2.1)(h2:wm x.2.2.2.2.1):(wa x).run=some (nM x):=by
 unfold wa
 have e:(T.bind (xI) λr2=>T.ite (decide ((Nat.cast (List.length r2):Int)<=x.2.1)) (.ret true) (T.bind (kc x.2.2.1) λr3=>T.ite (!r3) (.ret true) (T.bind (uv x.2.2.2.1) λr4=>T.ite (!r4) (.ret true) (T.bind (uv x.2.2.2.2.1) λr5=>.ret (!r5))))).run
   = some (decide ((4:Int)<=x.2.1)||(!yu x.2.2.1||(!xM 0 x.2.2.2.1 || !xM 0 x.2.2.2.2.1))):=by
  unfold xI
  exact orB (W7 (Js _) (W7 (Zb h1) (SB (Zb h2))))
 refine(W7 (xG x.1) (orB e)).trans ?_
 unfold nM
 rw[show decide ((4:Int)<=x.2.1)=decide ((3:Int)<x.2.1)from rfl]
 cases zG x.1<;>cases yu x.2.2.1<;>cases decide ((3:Int)<x.2.1)<;>cases decide (x.2.1<(0:Int))<;>rfl
theorem QO(f:Form)(h:FS f):(cO f).run=some (a5 f&&a6 f):=by
 have hn:=h.n
 have key:(nI f f.2.2.2.2.2.1 (f.2.2.2.2.2.1.length:Int) (0,0)).run=some (if a5 f=true then .inl ()else .inr false):=by
  refine rA (r:=uT f f.2.2.2.2.2.1 (f.2.2.2.2.2.1.length:Int)) f.2.2.2.2.2.1 (zk zT) (ZO (f.2.2.1.length:Int)) (λx=>x.2.1) (λat_ x h0 hb => ?_) (λk at_ x hk hx hm h0 => ?_) (λat_ => ?_)
  ·unfold ZO at hb
   rw[Bool.or_eq_false_iff,decide_eq_false_iff_not]at hb
   exact Int.le_trans h0 (Int.not_lt.1 hb.1)
  ·obtain⟨_,x1,x2⟩:=h.c x hm
   unfold uT
   dsimp only
   rw[za (uL hk),zb (qf hk),hx]
   simp only[dQ]
   refine(z6 (a:=(ZO (f.2.2.1.length:Int) at_ x,x)) ?_ _).trans ?_
   ·have e:(T.bind (wP) λr2=>T.ite (decide ((Nat.cast (List.length r2):Int)<=x.2.2.1)) (.ret (true,x)) (T.bind (uv x.2.2.2.1) λr3=>T.ite (!r3) (.ret (true,x)) (T.bind (uv x.2.2.2.2.1) λr4=>.ret ((!r4),x)))).run
      = some (decide ((3:Int)<=x.2.2.1)||(!xM 0 x.2.2.2.1 || !xM 0 x.2.2.2.2.1),x):=by
     unfold wP
     exact N3 (pz (Zb x1) (z6v (Zb x2)))
    refine(pz (xG x.1) (pz (U8 x.2.1 at_ _ h0) (N3 e))).trans ?_
    unfold ZO
    rw[show decide ((3:Int)<=x.2.2.1)=decide ((2:Int)<x.2.2.1)from rfl]
    cases zG x.1<;>cases decide (x.2.1<at_)<;>cases decide ((f.2.2.1.length:Int)<=x.2.1)<;>cases decide (x.2.2.1<(0:Int))<;>cases decide ((2:Int)<x.2.2.1)<;>rfl
   ·dsimp only
    cases ZO (f.2.2.1.length:Int) at_ x with
    | true=>rfl
    | false=>rw[zg,z7,ll k _ hk (by omega)]; rfl
  ·unfold uT
   dsimp only
   rw[z8 (kf _),z7]
 have h3:(xd f.2.2.2.2.1 (λz0=>wa z0)).run=some (f.2.2.2.2.1.any nM):=B4 f.2.2.2.2.1 _ nM (λx hx=>by
  obtain⟨_,_,x1,x2⟩:=h.r x hx
  exact TU x x1 x2) (by omega)
 unfold cO
 rw[z6 key]
 cases a5 f with
 | false=>rfl
 | true =>
  rw[if_pos rfl,Sum.elim_inl,z6 h3,z7]
  rfl
theorem JE(s:ze)(h:s.length<=600):(ez s).run=some (Yk s):=by
 unfold ez Yk
 cases s with
 | nil=>rfl
 | cons b r=>rw[z8 (by rfl),zp _ (by simp only[List.length_cons,List.length_nil]at *; omega),z7,if_neg (by simp)]; rfl
theorem O0(x:Field)(h:x.1.length<=600)(h1:rZ 0 x.2.2.2.1)(h2:rZ x.2.2.2.1 9):(il x).run=some (Po x):=by
 have hi:=T0 x.2.2.2.1 ⟨by unfold rZ at *; omega,by unfold rZ at *; omega⟩
 have hl:=Ch x.2.2.2.1 ⟨by unfold rZ at *; omega,by unfold rZ at *; omega⟩
 obtain⟨nm,pg,mu,sc,u⟩:=x
 have h:nm.length<=600:=h
 dsimp only at hi hl
 unfold il Po
 dsimp only
 have e:(bif mu then(cat (cat ([102,105,101,108,100,32]:ze) nm) ([32,109,117,115,116]:ze))else(cat ([102,105,101,108,100,32]:ze) nm))=fhS (nm,pg,mu,sc,u):=rfl
 have hf:(fhS (nm,pg,mu,sc,u)).length<=nm.length+11:=Ha _
 rw[zp _ (by simp only[List.length_cons,List.length_nil]; omega),zb (λ_=>by simp only[zV,List.length_cons,List.length_nil]; omega),e]
 by_cases hs:ilt 0 sc
 ·rw[za (decide_eq_true hs),z6 hi,zp _ (by simp only[List.length_cons,List.length_nil]; omega),zp _ (by simp only[zV,List.length_cons,List.length_nil]; omega),zp _ (by simp only[zV,List.length_cons,List.length_nil]; omega),z7,if_pos hs]
  rfl
 ·rw[z8 (decide_eq_false hs),zp _ (by simp only[List.length_cons,List.length_nil]; omega),z7,if_neg hs]
  rfl
theorem Y1(l r:Expr)(s:ze)(hs:s.length<=8)(h1:wm l)(h2:wm r)(o1:xM 0 l=true)(o2:xM 0 r=true):(bY l s r).run=some (Ez l s r):=by
 have l1:=bZ h1 o1
 have l2:=bZ h2 o2
 unfold bY
 rw[z6 (LJ h1 o1)]
 rw[zp _ (by simp only[List.length_cons,List.length_nil]; omega),zp _ (by simp only[zV,List.length_cons,List.length_nil]; omega),zp _ (by simp only[zV,List.length_cons,List.length_nil]; omega),zp _ (by simp only[zV,List.length_cons,List.length_nil]; omega)]
 rw[z6 (LJ h2 o2)]
 rw[zp _ (by simp only[zV,List.length_cons,List.length_nil]; omega),zp _ (by simp only[zV,List.length_cons,List.length_nil]; omega),z7]
 rfl
theorem z1u(n:Int)(h:0<=n)(h2:n<=2):nth ([([61]:ze),([60]:ze),([60,61]:ze)]:List ze) n (zk .str)=jt n:=by
 have:n=0\/n=1\/n=2:=by omega
 rcases this with rfl | rfl | rfl<;>rfl
theorem z3B(n:Int)(h:0<=n)(h2:n<=3):nth ([([114,101,113,117,105,114,101,100]:ze),([115,116,114,111,110,103]:ze),([109,101,100,105,117,109]:ze),([119,101,97,107]:ze)]:List ze) n (zk .str)=fm n:=by
 have:n=0\/n=1\/n=2\/n=3:=by omega
 rcases this with rfl | rfl | rfl | rfl<;>rfl
theorem TD(f:Form)(h:DB f)(i:Nat)(hi:i<f.2.2.1.length)(b:ze)(hb:b.length<=110000000000000):(db f (i:Int) () (bytesOf b)).run=some ((),bytesOf (b++HW f i)):=by
 have hn:=h.n
 obtain⟨g1,g2⟩:=I3 h hi
 have hp:=LS _ g1 g2
 have hw:=rC (nth f.2.2.1 (i:Int) (zk zY)).2.1
 have k1:∀ s:ze,s.length<=115000000000000->(nz (i:Int) f f.2.2.2.1 (f.2.2.2.1.length:Int) (0,(),bytesOf s)).run=some ((),bytesOf (s++f.2.2.2.1.flatMap (FK i))):=λs hs=>by
  refine iT (r:=uY (i:Int) f f.2.2.2.1 (f.2.2.2.1.length:Int)) f.2.2.2.1 (zk zN) 300000000 120000000000000 (FK i) s (λk b x hk hx hm hb => ?_) (λb => ?_) (Qb h i) (by omega)
  ·unfold uY FK
   dsimp only
   rw[za (uL hk),zb (qf hk),hx]
   cases hc:x.2.1==(i:Int)with
   | true =>
    have fl:=Ht x (h.d x hm) (h.d2 x hm).1 (h.d2 x hm).2
    rw[zj,z6 (O0 x (h.d x hm) (h.d2 x hm).1 (h.d2 x hm).2),zK _ rfl rfl rfl,T.zh,z6 (vW (Po x) b (by omega))]
    dsimp only
    rw[zK _ rfl rfl rfl,T.zh,z7,ll k _ hk (by omega),if_pos rfl]
   | false =>
    rw[zg,zK _ rfl rfl rfl,T.zh,z7,ll k _ hk (by omega),if_neg (by decide),List.append_nil]
  ·unfold uY
   dsimp only
   rw[z8 (kf _),zK _ rfl rfl rfl,T.zh,z7]
 have k2:∀ s:ze,s.length<=120000000000000->(nt (i:Int) f.2.2.2.2.2.1 (f.2.2.2.2.2.1.length:Int) (0,(),bytesOf s)).run=some ((),bytesOf (s++f.2.2.2.2.2.1.flatMap (DI i))):=λs hs=>by
  refine iT (r:=uZ (i:Int) f.2.2.2.2.2.1 (f.2.2.2.2.2.1.length:Int)) f.2.2.2.2.2.1 (zk zT) 300000000 130000000000000 (DI i) s (λk b x hk hx hm hb => ?_) (λb => ?_) (HO h i) (by omega)
  ·unfold uZ DI
   dsimp only
   rw[za (uL hk),zb (qf hk),hx]
   cases hc:x.2.1==(i:Int)with
   | true =>
    obtain⟨q1,q2,q3⟩:=h.c x hm
    obtain⟨c1,c2,o1,o2⟩:=h.c2 x hm
    have cl:=Mk x q1 q2 q3 o1 o2
    have hs:=Y1 x.2.2.2.1 x.2.2.2.2.1 (jt x.2.2.1) (by have:=Qd x.2.2.1; omega) q2 q3 o1 o2
    have sl:=WU (jt x.2.2.1) (by have:=Qd x.2.2.1; omega) q2 q3 o1 o2
    unfold wP
    rw[zj,zp _ (by simp only[List.length_cons,List.length_nil]; omega)]
    simp only[T.bind,dQ]
    have c3:x.2.2.1<((3:Nat):Int):=Int.lt_of_le_of_lt c2 (by decide)
    rw[zb ⟨c1,c3⟩,z1u _ c1 c2,z6 hs,zp _ (by simp only[zV,List.length_cons,List.length_nil]; omega),zK _ rfl rfl rfl,zb rfl]
    have e:cat (cat ([99,104,101,99,107,32]:ze) x.1) (Ez x.2.2.2.1 (jt x.2.2.1) x.2.2.2.2.1)=ckS x:=rfl
    rw[e,z6 (vW (ckS x) b (by omega))]
    dsimp only
    rw[zK _ rfl rfl rfl,zb rfl,z7,ll k _ hk (by omega),if_pos trivial]
   | false =>
    rw[zg,zK _ rfl rfl rfl,T.zh,z7,ll k _ hk (by omega),if_neg (by decide),List.append_nil]
  ·unfold uZ
   dsimp only
   rw[z8 (kf _),zK _ rfl rfl rfl,T.zh,z7]
 have l2:=uG (FK i) f.2.2.2.1 300000000 (Qb h i)
 unfold db
 rw[zb (qf hi),zp _ (by simp only[List.length_cons,List.length_nil]; omega),zb (qf hi),z6 (JE _ g2),zp _ (by simp only[zV,List.length_cons,List.length_nil]; omega),zp _ (by simp only[zV,List.length_cons,List.length_nil]; omega),zK _ rfl rfl rfl,T.zh]
 have e:cat (cat (cat ([112,97,103,101,32]:ze) (nth f.2.2.1 (i:Int) (zk zY)).1) (Yk (nth f.2.2.1 (i:Int) (zk zY)).2.1)) ([10]:ze)=phS (nth f.2.2.1 (i:Int) (zk zY)):=rfl
 rw[e,z6 (vW _ b (by omega))]
 dsimp only
 rw[zK _ rfl rfl rfl,T.zh,z6 (k1 _ (by rw[List.length_append]; omega))]
 dsimp only
 rw[zK _ rfl rfl rfl,T.zh,z6 (k2 _ (by rw[List.length_append,List.length_append]; omega))]
 dsimp only
 rw[zK _ rfl rfl rfl,T.zh,z7]
 unfold HW
 simp only[List.append_assoc]
theorem Kz(n k:Nat)(h:k<n):nth (List.range n) (k:Int) 0=k:=by
 rw[kO (by rw[List.length_range]; exact h),List.getElem_range]
theorem Cu{f:Form}(h:DB f):(f.1.flatMap CS).length<=f.1.length*300000000:=uG CS f.1 300000000 λx hx=>V9 x (h.s x hx)
theorem CM{f:Form}(h:DB f):(f.2.1.flatMap YC).length<=f.2.1.length*300000000:=uG YC f.2.1 300000000 λx hx=>V5 x (h.p x hx).1 (h.p x hx).2
theorem De{f:Form}(h:DB f):((List.range f.2.2.1.length).flatMap (HW f)).length<=f.2.2.1.length*181000000000:=by
 have:=uG (HW f) (List.range f.2.2.1.length) 181000000000 (λx hx=>Gt h (List.mem_range.1 hx))
 rwa [List.length_range]at this
theorem BR{f:Form}(h:DB f):(f.2.2.2.2.1.flatMap VN).length<=f.2.2.2.2.1.length*300000000:=uG VN f.2.2.2.2.1 300000000 λx hx=>by
 obtain⟨q1,q2,q3,q4⟩:=h.r x hx
 obtain⟨_,_,o1,o2⟩:=h.r2 x hx
 exact WZ x q1 q2 q3 q4 o1 o2
theorem cA(f:Form)(h:DB f):(c9 f).run=some (Nx f):=by
 have hn:=h.n
 have m1:=Cu h
 have m2:=CM h
 have m3:=De h
 have m4:=BR h
 have k1:(oX f f.1 (f.1.length:Int) (0,(),bytesOf [])).run=some ((),bytesOf ([]++f.1.flatMap CS)):=by
  refine iT (r:=jA f f.1 (f.1.length:Int)) f.1 (zk zw) 300000000 110000000000000 CS [] (λk b x hk hx hm hb => ?_) (λb => ?_) (λx hx=>V9 x (h.s x hx)) (by simp only[List.length_nil]; omega)
  ·have q:=h.s x hm
   have sl:=V9 x q
   have bl:(bif x.2.1 then([32,111,110,10]:ze)else[32,111,102,102,10]).length<=5:=by cases x.2.1<;>decide
   unfold jA
   dsimp only
   rw[za (uL hk),zb (qf hk),hx,zp _ (by simp only[List.length_cons,List.length_nil]; omega),zp _ (by simp only[zV,List.length_cons,List.length_nil]; omega),zK _ rfl rfl rfl,T.zh]
   have e:cat (cat ([115,119,105,116,99,104,32]:ze) x.1) (bif x.2.1 then([32,111,110,10]:ze)else([32,111,102,102,10]:ze))=CS x:=rfl
   rw[e,z6 (vW (CS x) b (by omega))]
   dsimp only
   rw[zK _ rfl rfl rfl,T.zh,z7,ll k _ hk (by omega)]
  ·unfold jA
   dsimp only
   rw[z8 (kf _),zK _ rfl rfl rfl,T.zh,z7]
 have k2:∀ s:ze,s.length<=190000000000->(o0 f f.2.1 (f.2.1.length:Int) (0,(),bytesOf s)).run=some ((),bytesOf (s++f.2.1.flatMap YC)):=λs hs=>by
  refine iT (r:=jN f f.2.1 (f.2.1.length:Int)) f.2.1 (zk zM) 300000000 110000000000000 YC s (λk b x hk hx hm hb => ?_) (λb => ?_) (λx hx=>V5 x (h.p x hx).1 (h.p x hx).2) (by omega)
  ·obtain⟨q,hr⟩:=h.p x hm
   have hr:we 1000 x.2.1:=⟨hr.1,hr.2.1,by have:=hr.2.2.1; omega,by have:=hr.2.2.2; omega⟩
   have sl:=V5 x q (h.p x hm).2
   have hd:(lI (x.2.1.1,(x.2.1.2.1,(x.2.1.2.2.1,())))).run=some (vk (norm x.2.1)):=Ki x.2.1 hr
   have pl:=th _ hr
   unfold jN
   dsimp only
   rw[za (uL hk),zb (qf hk),hx,zp _ (by simp only[List.length_cons,List.length_nil]; omega),zp _ (by simp only[zV,List.length_cons,List.length_nil]; omega),z6 hd,zp _ (by simp only[zV,List.length_cons,List.length_nil]; omega),zp _ (by simp only[zV,List.length_cons,List.length_nil]; omega),zK _ rfl rfl rfl,T.zh]
   have e:cat (cat (cat (cat ([112,97,114,97,109,32]:ze) x.1) ([32]:ze)) (vk (norm x.2.1))) ([10]:ze)=YC x:=rfl
   rw[e,z6 (vW (YC x) b (by omega))]
   dsimp only
   rw[zK _ rfl rfl rfl,T.zh,z7,ll k _ hk (by omega)]
  ·unfold jN
   dsimp only
   rw[z8 (kf _),zK _ rfl rfl rfl,T.zh,z7]
 have k3:∀ s:ze,s.length<=380000000000->(pQ f (f.2.2.1.length:Int) (0,(),bytesOf s)).run=some ((),bytesOf (s++(List.range f.2.2.1.length).flatMap (HW f))):=λs hs=>by
  refine iT (r:=jM f (f.2.2.1.length:Int)) (List.range f.2.2.1.length) 0 181000000000 110000000000000 (HW f) s (λk b x hk hx hm hb => ?_) (λb => ?_) (λx hx=>Gt h (List.mem_range.1 hx)) (by rw[List.length_range]; omega)
  ·rw[List.length_range]at hk
   rw[Kz _ _ hk]at hx
   subst hx
   unfold jM
   dsimp only
   rw[za (uL hk),zK _ rfl rfl rfl,T.zh,z6 (TD f h k hk b (by omega))]
   dsimp only
   rw[zK _ rfl rfl rfl,T.zh,z7,ll k _ hk (by omega)]
  ·unfold jM
   dsimp only
   rw[List.length_range,z8 (kf _),zK _ rfl rfl rfl,T.zh,z7]
 have k4:∀ s:ze,s.length<=109000000000000->(oq f.2.2.2.2.1 (f.2.2.2.2.1.length:Int) (0,(),bytesOf s)).run=some ((),bytesOf (s++f.2.2.2.2.1.flatMap VN)):=λs hs=>by
  refine iT (r:=jT f.2.2.2.2.1 (f.2.2.2.2.1.length:Int)) f.2.2.2.2.1 (zk q9) 300000000 110000000000000 VN s (λk b x hk hx hm hb => ?_) (λb => ?_) (λx hx=>by
   obtain⟨q1,q2,q3,q4⟩:=h.r x hx
   obtain⟨_,_,o1,o2⟩:=h.r2 x hx
   exact WZ x q1 q2 q3 q4 o1 o2) (by omega)
  ·obtain⟨q1,q2,q3,q4⟩:=h.r x hm
   obtain⟨c1,c2,o1,o2⟩:=h.r2 x hm
   have rl:=WZ x q1 q2 q3 q4 o1 o2
   have hs:=Y1 x.2.2.2.1 x.2.2.2.2.1 [61] (by decide) q3 q4 o1 o2
   have sl:=WU [61] (by decide) q3 q4 o1 o2
   have tl:=J2 x.2.1
   have wl:=rC x.2.2.1
   have c3:x.2.1<((4:Nat):Int):=Int.lt_of_le_of_lt c2 (by decide)
   unfold jT xI
   dsimp only
   rw[za (uL hk),zb (qf hk),hx]
   simp only[T.bind,dQ]
   rw[zb ⟨c1,c3⟩,z3B _ c1 c2,zp _ (by simp only[List.length_cons,List.length_nil]; omega),zp _ (by simp only[zV,List.length_cons,List.length_nil]; omega),zp _ (by simp only[zV,List.length_cons,List.length_nil]; omega),z6 (JE _ q2),
    zp _ (by simp only[zV,List.length_cons,List.length_nil]; omega),z6 hs,zp _ (by simp only[zV,List.length_cons,List.length_nil]; omega),zK _ rfl rfl rfl,zb rfl]
   have e:cat (cat (cat (cat (cat ([114,117,108,101,32]:ze) (fm x.2.1)) ([32]:ze)) x.1) (Yk x.2.2.1)) (Ez x.2.2.2.1 [61] x.2.2.2.2.1)=VN x:=rfl
   rw[e,z6 (vW (VN x) b (by omega))]
   dsimp only
   rw[zK _ rfl rfl rfl,zb rfl,z7,ll k _ hk (by omega)]
  ·unfold jT
   dsimp only
   rw[z8 (kf _),zK _ rfl rfl rfl,T.zh,z7]
 unfold c9
 rw[zK _ rfl rfl rfl,T.zh]
 refine(z6 k1 _).trans ?_
 dsimp only
 rw[List.nil_append,zK _ rfl rfl rfl,T.zh,z6 (k2 _ (by omega))]
 dsimp only
 rw[zK _ rfl rfl rfl,T.zh,z6 (k3 _ (by rw[List.length_append]; omega))]
 dsimp only
 rw[zK _ rfl rfl rfl,T.zh,z6 (k4 _ (by simp only[List.length_append]; omega))]
 dsimp only
 rw[zK _ rfl rfl rfl,T.zh,z6 (JJ _ (by simp only[List.length_append]; omega))]
 rfl
def ff(f:Form):Bool:=a1 f&&(a2 f&&(a3 f&&(a4 f&&(a5 f&&(a6 f&&decide (((Nx f).length:Int)<=16384))))))
theorem mb(f:Form)(h:FS f):(l8 f).run=some (ff f):=by
 unfold l8 ff
 rw[z6 (Oi f h)]
 cases a1 f with
 | false=>rfl
 | true =>
 cases a2 f with
 | false=>rfl
 | true =>
 cases a3 f with
 | false=>rfl
 | true =>
 rw[za (by rfl),z6 (QB f h)]
 cases h4:a4 f with
 | false=>rfl
 | true =>
 rw[za (by rfl),z6 (QO f h)]
 cases h5:a5 f with
 | false=>rfl
 | true =>
 cases h6:a6 f with
 | false=>rfl
 | true =>
 rw[za (by rfl),z6 (cA f (G6 h h4 h5 h6)),z7]
 rfl
theorem z7p{r:Rat}(hr:we 100 r):we 100000000 r:=⟨hr.1,hr.2.1,by have:=hr.2.2.1; omega,by have:=hr.2.2.2; omega⟩
theorem Lv{r:Rat}(hr:we 100 r):we 1000 r:=⟨hr.1,hr.2.1,by have:=hr.2.2.1; omega,by have:=hr.2.2.2; omega⟩
theorem Yr(s:ze):(eX s).run=some (yu s):=by
 unfold eX yu
 cases zi s []with
 | true=>rfl
 | false=>rw[zg,z6 (vo s)]; rfl
theorem Ub(f:Form)(h:FS f):(nh f).run=some (a4 f&&a5 f):=by
 have hn:=h.n
 have k1:(sL f (0,0)).run=some (if a4 f=true then .inl ()else .inr false):=by
  refine rA (r:=y5 f) f.2.2.2.1 (zk zN) (X5 (f.2.2.1.length:Int)) (λx=>x.2.1) (λat_ x h0 hb => ?_) (λk at_ x hk hx hm h0 => ?_) (λat_ => ?_)
  ·unfold X5 at hb
   rw[Bool.or_eq_false_iff,decide_eq_false_iff_not]at hb
   exact Int.le_trans h0 (Int.not_lt.1 hb.1)
  ·unfold y5
   dsimp only
   rw[za (uL hk),zb (qf hk),hx]
   refine(z6 (a:=(X5 (f.2.2.1.length:Int) at_ x,x)) ?_ _).trans ?_
   ·exact N3 (N3 (pz (vo x.1) (N3 (z7 _))))
   ·dsimp only
    cases X5 (f.2.2.1.length:Int) at_ x with
    | true=>rfl
    | false=>rw[zg,z7,ll k _ hk (by omega)]; rfl
  ·unfold y5
   dsimp only
   rw[z8 (kf _),z7]
 have k2:(so f (0,0)).run=some (if a5 f=true then .inl ()else .inr false):=by
  refine rA (r:=kW f) f.2.2.2.2.2.1 (zk zT) (ZO (f.2.2.1.length:Int)) (λx=>x.2.1) (λat_ x h0 hb => ?_) (λk at_ x hk hx hm h0 => ?_) (λat_ => ?_)
  ·unfold ZO at hb
   rw[Bool.or_eq_false_iff,decide_eq_false_iff_not]at hb
   exact Int.le_trans h0 (Int.not_lt.1 hb.1)
  ·obtain⟨_,x1,x2⟩:=h.c x hm
   unfold kW
   dsimp only
   rw[za (uL hk),zb (qf hk),hx]
   simp only[dQ]
   refine(z6 (a:=(ZO (f.2.2.1.length:Int) at_ x,x)) ?_ _).trans ?_
   ·exact N3 (N3 (pz (vo x.1) (N3 (N3 (pz (pB x1) (z6v (pB x2)))))))
   ·dsimp only
    cases ZO (f.2.2.1.length:Int) at_ x with
    | true=>rfl
    | false=>rw[zg,z7,ll k _ hk (by omega)]; rfl
  ·unfold kW
   dsimp only
   rw[z8 (kf _),z7]
 unfold nh
 rw[z6 k1]
 cases a4 f with
 | false=>rfl
 | true =>
  rw[if_pos rfl,Sum.elim_inl,z6 k2]
  cases a5 f<;>rfl
theorem sF(s:ze)(h:s.length<=600):(pV s).run=some (Yk s):=JE s h
theorem JA(n:Int)(h1:1<=n)(h2:n<=9):qF [HR (zF (48+n))]=en n:=by
 have:n=1\/n=2\/n=3\/n=4\/n=5\/n=6\/n=7\/n=8\/n=9:=by omega
 have e:∀ k:Nat,k<10->en (k:Int)=[UInt8.ofNat (48+k)]:=λk hk=>by
  unfold en
  rw[if_neg (by omega),Int.toNat_natCast,AM.J0,dif_pos hk]
 rcases this with rfl | rfl | rfl | rfl | rfl | rfl | rfl | rfl | rfl
 ·exact(e 1 (by decide)).symm
 ·exact(e 2 (by decide)).symm
 ·exact(e 3 (by decide)).symm
 ·exact(e 4 (by decide)).symm
 ·exact(e 5 (by decide)).symm
 ·exact(e 6 (by decide)).symm
 ·exact(e 7 (by decide)).symm
 ·exact(e 8 (by decide)).symm
 ·exact(e 9 (by decide)).symm
theorem U5(x:Field)(h:x.1.length<=600)(h1:rZ 0 x.2.2.2.1)(h2:rZ x.2.2.2.1 9):(mG x).run=some (Po x):=by
 have hi:=λh0:rZ 1 x.2.2.2.1=>JA x.2.2.2.1 h0 h2
 have hb:(qF ([(HR (zF ((48:Int)+x.2.2.2.1)))]:List Int)).length=1:=rfl
 have hz:¬ ilt 0 x.2.2.2.1->x.2.2.2.1=(0:Int):=λq=>Int.le_antisymm (Int.not_lt.1 q) h1
 have ho:ilt 0 x.2.2.2.1->rZ 1 x.2.2.2.1:=λq=>by unfold rZ ilt at *; omega
 have hf:(fhS x).length<=x.1.length+11:=Ha _
 unfold mG Po
 have e:(bif x.2.2.1 then(cat (cat ([102,105,101,108,100,32]:ze) x.1) ([32,109,117,115,116]:ze))else(cat ([102,105,101,108,100,32]:ze) x.1))=fhS x:=rfl
 rw[zp _ (by simp only[List.length_cons,List.length_nil]; omega),zb (λ_=>by simp only[zV,List.length_cons,List.length_nil]; omega),e]
 clear e
 by_cases hs:ilt 0 x.2.2.2.1
 ·have vJ:(x.2.2.2.1 != (0:Int))=true:=by
   rw[bne_iff_ne]; intro q; unfold ilt at hs; rw[q]at hs; exact absurd hs (by decide)
  rw[za vJ,zp _ (by simp only[List.length_cons,List.length_nil]; omega),zp _ (by simp only[zV,List.length_cons,List.length_nil]; omega),zp _ (by simp only[zV,List.length_cons,List.length_nil]; omega),z7,if_pos hs,hi (ho hs)]
  simp only[jC,List.append_assoc]
 ·have vJ:(x.2.2.2.1 != (0:Int))=false:=by rw[hz hs]; rfl
  rw[z8 vJ,zp _ (by simp only[List.length_cons,List.length_nil]; omega),z7,if_neg hs]
  rfl
theorem z2S(n:Int):(ZJ n).run=some (jt n):=by
 unfold ZJ jt
 by_cases h1:n=1
 ·rw[if_pos h1,za (by rw[h1]; rfl),z7]
 ·rw[if_neg h1,z8 (by simpa using h1)]
  by_cases h2:n=2
  ·rw[if_pos h2,za (by rw[h2]; rfl),z7]
  ·rw[if_neg h2,z8 (by simpa using h2),z7]
theorem GI(n:Int):(bP n).run=some (fm n):=by
 unfold bP fm
 by_cases h0:n=0
 ·rw[if_pos h0,za (by rw[h0]; rfl),z7]
 ·rw[if_neg h0,z8 (by simpa using h0)]
  by_cases h1:n=1
  ·rw[if_pos h1,za (by rw[h1]; rfl),z7]
  ·rw[if_neg h1,z8 (by simpa using h1)]
   by_cases h2:n=2
   ·rw[if_pos h2,za (by rw[h2]; rfl),z7]
   ·rw[if_neg h2,z8 (by simpa using h2),z7]
theorem Kf(f:Form)(h:DB f):(rT f).run=some (Nx f):=by
 have hn:=h.n
 have m1:=Cu h
 have m2:=CM h
 have m3:=De h
 have m4:=BR h
 have k1:(Qa f ([],0)).run=some ([]++f.1.flatMap CS):=by
  refine lJ (r:=gp f) f.1 (zk zw) 300000000 110000000000000 CS [] (λk b x hk hx hm hb => ?_) (λb => ?_) (λx hx=>V9 x (h.s x hx)) (by simp only[List.length_nil]; omega)
  ·have q:=h.s x hm
   have bl:(bif x.2.1 then([32,111,110,10]:ze)else[32,111,102,102,10]).length<=5:=by cases x.2.1<;>decide
   unfold gp
   dsimp only
   rw[hx,za (uL hk),zb (qf hk),zp _ (by simp only[zV,List.length_cons,List.length_nil]; omega),zb (qf hk),zp _ (by simp only[zV,List.length_cons,List.length_nil]; omega),zp _ (by simp only[zV,List.length_cons,List.length_nil]; omega),z7,ll k _ hk (by omega)]
   unfold CS
   simp only[jC,List.append_assoc]
  ·unfold gp
   dsimp only
   rw[z8 (kf _),z7]
 have k2:∀ s:ze,s.length<=190000000000->(Zk f (s,0)).run=some (s++f.2.1.flatMap YC):=λs hs=>by
  refine lJ (r:=gm f) f.2.1 (zk zM) 300000000 110000000000000 YC s (λk b x hk hx hm hb => ?_) (λb => ?_) (λx hx=>V5 x (h.p x hx).1 (h.p x hx).2) (by omega)
  ·obtain⟨q,hr⟩:=h.p x hm
   have hr:=Lv hr
   have pl:=th _ hr
   unfold gm
   dsimp only
   rw[hx,za (uL hk),zp _ (by simp only[zV,List.length_cons,List.length_nil]; omega),zb (qf hk),zp _ (by simp only[zV,List.length_cons,List.length_nil]; omega),zp _ (by simp only[zV,List.length_cons,List.length_nil]; omega),zb (qf hk),z6 (Vk _ hr),
    zp _ (by simp only[zV,List.length_cons,List.length_nil]; omega),zp _ (by simp only[zV,List.length_cons,List.length_nil]; omega),z7,ll k _ hk (by omega)]
   unfold YC
   simp only[jC,List.append_assoc]
  ·unfold gm
   dsimp only
   rw[z8 (kf _),z7]
 have j1:∀ (i:Nat) (s:ze),s.length<=115000000000000->(Q3 f (i:Int) (s,0)).run=some (s++f.2.2.2.1.flatMap (FK i)):=λi s hs=>by
  refine lJ (r:=gX f (i:Int)) f.2.2.2.1 (zk zN) 300000000 120000000000000 (FK i) s (λk b x hk hx hm hb => ?_) (λb => ?_) (Qb h i) (by omega)
  ·unfold gX FK
   dsimp only
   rw[hx,za (uL hk),zb (qf hk)]
   cases hc:x.2.1==(i:Int)with
   | true =>
    have fl:=Ht x (h.d x hm) (h.d2 x hm).1 (h.d2 x hm).2
    rw[zj,zb (qf hk),z6 (U5 x (h.d x hm) (h.d2 x hm).1 (h.d2 x hm).2),zp _ (by omega),z7,ll k _ hk (by omega),if_pos rfl,jC]
   | false=>rw[zg,z7,ll k _ hk (by omega),if_neg (by decide),List.append_nil]
  ·unfold gX
   dsimp only
   rw[z8 (kf _),z7]
 have j2:∀ (i:Nat) (s:ze),s.length<=120000000000000->(Z0 f (i:Int) (s,0)).run=some (s++f.2.2.2.2.2.1.flatMap (DI i)):=λi s hs=>by
  refine lJ (r:=gn f (i:Int)) f.2.2.2.2.2.1 (zk zT) 300000000 130000000000000 (DI i) s (λk b x hk hx hm hb => ?_) (λb => ?_) (HO h i) (by omega)
  ·unfold gn DI
   dsimp only
   rw[hx,za (uL hk),zb (qf hk)]
   simp only[dQ]
   cases hc:x.2.1==(i:Int)with
   | true =>
    obtain⟨q1,q2,q3⟩:=h.c x hm
    obtain⟨c1,c2,o1,o2⟩:=h.c2 x hm
    have p1:=bZ q2 o1
    have p2:=bZ q3 o2
    have cl:=Qd x.2.2.1
    rw[zj,zp _ (by simp only[zV,List.length_cons,List.length_nil]; omega),zp _ (by simp only[zV,List.length_cons,List.length_nil]; omega),zp _ (by simp only[zV,List.length_cons,List.length_nil]; omega),z6 (Qm q2 o1),
     zp _ (by simp only[zV,List.length_cons,List.length_nil]; omega),zp _ (by simp only[zV,List.length_cons,List.length_nil]; omega),z6 (z2S _),zp _ (by simp only[zV,List.length_cons,List.length_nil]; omega),zp _ (by simp only[zV,List.length_cons,List.length_nil]; omega),
     z6 (Qm q3 o2),zp _ (by simp only[zV,List.length_cons,List.length_nil]; omega),zp _ (by simp only[zV,List.length_cons,List.length_nil]; omega),z7,ll k _ hk (by omega),if_pos rfl]
    unfold ckS Ez
    simp only[jC,List.append_assoc]
   | false=>rw[zg,z7,ll k _ hk (by omega),if_neg (by decide),List.append_nil]
  ·unfold gn
   dsimp only
   rw[z8 (kf _),z7]
 have k3:∀ s:ze,s.length<=380000000000->(Q1 f (s,0)).run=some (s++(List.range f.2.2.1.length).flatMap (HW f)):=λs hs=>by
  refine lJ (r:=gT f) (List.range f.2.2.1.length) 0 181000000000 110000000000000 (HW f) s (λk b x hk hx hm hb => ?_) (λb => ?_) (λx hx=>Gt h (List.mem_range.1 hx)) (by rw[List.length_range]; omega)
  ·rw[List.length_range]at hk
   rw[Kz _ _ hk]at hx
   subst hx
   obtain⟨g1,g2⟩:=I3 h hk
   have hw:=rC (nth f.2.2.1 (k:Int) (zk zY)).2.1
   have fl:=uG (FK k) f.2.2.2.1 300000000 (Qb h k)
   unfold gT
   dsimp only
   rw[za (uL hk),zp _ (by simp only[zV,List.length_cons,List.length_nil]; omega),zb (qf hk),zp _ (by simp only[zV,List.length_cons,List.length_nil]; omega),zb (qf hk),z6 (sF _ g2),zp _ (by simp only[zV,List.length_cons,List.length_nil]; omega),zp _ (by simp only[zV,List.length_cons,List.length_nil]; omega),
    z6 (j1 k _ (by simp only[zV,List.length_cons,List.length_nil]; omega)),z6 (j2 k _ (by simp only[List.length_append,zV,List.length_cons,List.length_nil]; omega)),z7,ll k _ hk (by omega)]
   unfold HW phS
   simp only[jC,List.append_assoc]
  ·unfold gT
   dsimp only
   rw[List.length_range,z8 (kf _),z7]
 have k4:∀ s:ze,s.length<=109000000000000->(Z5 f (s,0)).run=some (s++f.2.2.2.2.1.flatMap VN):=λs hs=>by
  refine lJ (r:=gR f) f.2.2.2.2.1 (zk q9) 300000000 110000000000000 VN s (λk b x hk hx hm hb => ?_) (λb => ?_) (λx hx=>by
   obtain⟨q1,q2,q3,q4⟩:=h.r x hx
   obtain⟨_,_,o1,o2⟩:=h.r2 x hx
   exact WZ x q1 q2 q3 q4 o1 o2) (by omega)
  ·obtain⟨q1,q2,q3,q4⟩:=h.r x hm
   obtain⟨c1,c2,o1,o2⟩:=h.r2 x hm
   have p1:=bZ q3 o1
   have p2:=bZ q4 o2
   have tl:=J2 x.2.1
   have wl:=rC x.2.2.1
   unfold gR
   dsimp only
   rw[hx,za (uL hk),zb (qf hk)]
   simp only[dQ]
   rw[zp _ (by simp only[zV,List.length_cons,List.length_nil]; omega),z6 (GI _),zp _ (by simp only[zV,List.length_cons,List.length_nil]; omega),zp _ (by simp only[zV,List.length_cons,List.length_nil]; omega),zp _ (by simp only[zV,List.length_cons,List.length_nil]; omega),z6 (sF _ q2),
    zp _ (by simp only[zV,List.length_cons,List.length_nil]; omega),zp _ (by simp only[zV,List.length_cons,List.length_nil]; omega),z6 (Qm q3 o1),zp _ (by simp only[zV,List.length_cons,List.length_nil]; omega),zp _ (by simp only[zV,List.length_cons,List.length_nil]; omega),z6 (Qm q4 o2),
    zp _ (by simp only[zV,List.length_cons,List.length_nil]; omega),zp _ (by simp only[zV,List.length_cons,List.length_nil]; omega),z7,ll k _ hk (by omega)]
   unfold VN Ez
   simp only[jC,List.append_assoc,List.cons_append,List.nil_append]
  ·unfold gR
   dsimp only
   rw[z8 (kf _),z7]
 unfold rT
 rw[z6 k1,List.nil_append,z6 (k2 _ (by omega)),z6 (k3 _ (by rw[List.length_append]; omega)),z6 (k4 _ (by simp only[List.length_append]; omega)),z7]
 rfl
theorem Xr(f:Form)(h:FS f):(WJ f).run=some (ff f):=by
 have hn:=h.n
 have k1:(U9 f 0).run=some (if f.1.any Uc=true then .inr false else .inl ()):=by
  refine Zo (r:=ep f) f.1 (zk zw) Uc (λk x hk hx hm => ?_) ?_
  ·unfold ep Uc
   dsimp only
   rw[za (uL hk),zb (qf hk),hx,z6 (vo x.1)]
   cases zG x.1 with
   | true=>rw[z8 (by rfl),z7,ll k _ hk (by omega)]; rfl
   | false=>rfl
  ·unfold ep
   rw[z8 (kf _),z7]
 have k2:(Vn f 0).run=some (if f.2.1.any fu=true then .inr false else .inl ()):=by
  refine Zo (r:=dF f) f.2.1 (zk zM) fu (λk x hk hx hm => ?_) ?_
  ·unfold dF
   dsimp only
   rw[za (uL hk)]
   refine(z6 (a:=fu x) ?_ _).trans ?_
   ·rw[zb (qf hk),hx]
    refine(W7 (vo x.1) ((zb (qf hk) _).trans (SB (se _ (z7p (h.p x hm).2))))).trans ?_
    unfold fu
    cases fc x.2.1<;>cases uM x.2.1<;>rfl
   ·cases fu x with
    | true=>rfl
    | false=>rw[zg,z7,ll k _ hk (by omega)]; rfl
  ·unfold dF
   rw[z8 (kf _),z7]
 have k3:(Ud f 0).run=some (if f.2.2.1.any Wr=true then .inr false else .inl ()):=by
  refine Zo (r:=eC f) f.2.2.1 (zk zY) Wr (λk x hk hx hm => ?_) ?_
  ·unfold eC
   dsimp only
   rw[za (uL hk)]
   refine(z6 (a:=Wr x) ?_ _).trans ?_
   ·rw[zb (qf hk),hx]
    exact W7 (vo x.1) ((zb (qf hk) _).trans (SB (Yr _)))
   ·cases Wr x with
    | true=>rfl
    | false=>rw[zg,z7,ll k _ hk (by omega)]; rfl
  ·unfold eC
   rw[z8 (kf _),z7]
 have k4:(Ja f 0).run=some (if f.2.2.2.2.1.any nM=true then .inr false else .inl ()):=by
  refine Zo (r:=dV f) f.2.2.2.2.1 (zk q9) nM (λk x hk hx hm => ?_) ?_
  ·obtain⟨_,_,x1,x2⟩:=h.r x hm
   unfold dV
   dsimp only
   rw[za (uL hk),zb (qf hk),hx]
   simp only[dQ]
   refine(z6 (a:=(nM x,x)) ?_ _).trans ?_
   ·exact pz (vo x.1) (pz (Yr _) (N3 (N3 (pz (pB x1) (z6v (pB x2))))))
   ·dsimp only
    cases nM x with
    | true=>rfl
    | false=>rw[zg,z7,ll k _ hk (by omega)]; rfl
  ·unfold dV
   rw[z8 (kf _),z7]
 unfold WJ ff
 rw[z6 k1]
 have e1:a1 f = !f.1.any Uc:=rfl
 have e2:a2 f = !f.2.1.any fu:=rfl
 have e3:a3 f = !f.2.2.1.any Wr:=rfl
 have e6:a6 f = !f.2.2.2.2.1.any nM:=rfl
 rw[e1,e2,e3]
 cases f.1.any Uc with
 | true=>rfl
 | false =>
 rw[if_neg (by decide),Sum.elim_inl,z6 k2]
 cases f.2.1.any fu with
 | true=>rfl
 | false =>
 rw[if_neg (by decide),Sum.elim_inl,z6 k3]
 cases f.2.2.1.any Wr with
 | true=>rfl
 | false =>
 rw[if_neg (by decide),Sum.elim_inl,z6 k4]
 cases q6:f.2.2.2.2.1.any nM with
 | true=>rw[e6,q6]; cases a4 f<;>cases a5 f<;>rfl
 | false =>
 rw[if_neg (by decide),Sum.elim_inl,z6 (Ub f h)]
 cases h4:a4 f with
 | false=>rfl
 | true =>
 cases h5:a5 f with
 | false=>rfl
 | true =>
 have h6:a6 f=true:=by rw[e6,q6]; rfl
 rw[za (by rfl),z6 (Kf f (G6 h h4 h5 h6)),z7,h6]
 rfl
end Go.AM.Lf
namespace Go.AM
theorem T.M5{σ ρ:Type}{b:(σ->T ρ)->σ->T ρ}(R:Nat->σ->ρ->Prop)(h0:∀ x y,¬ R 0 x y)
  (h:∀ n x y,R (n+1) x y->∀ g:σ->T ρ,(∀ x' y',R n x' y'->(g x').run=some y')->(b g x).run=some y) {n:Nat} {x:σ} {y:ρ} (hx:R n x y):(T.fix b x).run=some y:=by
 rw[wy,lK]
 refine⟨n,λm hm => ?_⟩
 induction n generalizing m x y with
 | zero=>exact absurd hx (h0 _ _)
 | succ n ih =>
  cases m with
  | zero=>omega
  | succ m =>
   rw[<- wy]
   exact h n x y hx (Bz b m) λx' y' hr=>by rw[wy]; exact ih hr m (by omega)
end Go.AM
namespace Go.AM.PL
def yl:ze->ze
 | []=>[]
 | c::r=>if c=32 then yl r else c::r
def gI(p:UInt8->Bool):Nat->ze->ze×ze
 | 0,r=>([],r)
 | _+1,[]=>([],[])
 | n+1,c::r=>if p c=true then(c::(gI p n r).1,(gI p n r).2)else([],c::r)
theorem ZR(p:UInt8->Bool):∀ (n:Nat) (r:ze),(gI p n r).1++(gI p n r).2=r
 | 0,r=>rfl
 | _+1,[]=>rfl
 | n+1,c::r=>by
  unfold gI
  split
  ·rw[List.cons_append,ZR p n r]
  ·rfl
theorem Vw(p:UInt8->Bool):∀ (n:Nat) (r:ze),r.length<=n->gI p n r=(r.takeWhile p,r.dropWhile p)
 | 0,[],_=>rfl
 | 0,c::r,h=>by simp at h
 | _+1,[],_=>rfl
 | n+1,c::r,h=>by
  unfold gI
  rw[Vw p n r (by simp at h; omega)]
  cases hp:p c with
  | true=>simp[hp]
  | false=>simp[hp]
theorem cR:∀ (r:ze),yl r <:+ r
 | []=>List.suffix_refl _
 | c::r=>by
  unfold yl
  split
  ·exact List.IsSuffix.trans (cR r) (List.suffix_cons c r)
  ·exact List.suffix_refl _
theorem D7:∀ (r:ze) (c:UInt8) (q:ze),yl r=c::q->c≠32
 | [],_,_,h=>by cases h
 | b::r,c,q,h=>by
  unfold yl at h
  split at h
  ·exact D7 r c q h
  ·cases h; assumption
theorem BV(r:ze):yl (yl r)=yl r:=by
 cases h:yl r with
 | nil=>rfl
 | cons c q=>unfold yl; rw[if_neg (D7 r c q h)]
theorem Hb(r:ze):(yl r).length<=r.length:=(cR r).length_le
theorem VQ(p:UInt8->Bool)(n:Nat)(r:ze):(gI p n r).2 <:+ r:=⟨(gI p n r).1,ZR p n r⟩
def vE(s r:ze):Nat:=s.length-r.length
theorem MM(s:ze):vE s s=0:=by unfold vE; omega
theorem SX(s:ze):vE s []=s.length:=rfl
theorem gD{c:UInt8}{r s:ze}(h:(c::r) <:+ s):r <:+ s:=List.IsSuffix.trans (List.suffix_cons c r) h
theorem yS{c:UInt8}{r s:ze}(h:(c::r) <:+ s):vE s r=vE s (c::r)+1/\vE s (c::r)<s.length:=by
 have:=h.length_le
 simp only[List.length_cons]at this
 unfold vE; simp only[List.length_cons]; omega
theorem TK{r s:ze}(h:r <:+ s):s.drop (vE s r)=r:=by
 obtain⟨t,rfl⟩:=h
 unfold vE
 rw[List.length_append,Nat.add_sub_cancel,List.drop_left]
theorem bW{c:UInt8}{r s:ze}(h:(c::r) <:+ s):qo s ((vE s (c::r):Nat):Int)=(c.toNat:Int):=by
 have h1:=yS h
 rw[yE h1.2]
 have h2:=TK h
 rw[List.drop_eq_getElem_cons h1.2]at h2
 injection h2 with h2 _
 rw[h2]
theorem z3O{r q s:ze}(h:r <:+ q)(h2:q <:+ s):vE s q<=vE s r:=by
 have:=h.length_le; unfold vE; omega
theorem Rr{a r q s:ze}(h:r <:+ s)(e:a++q=r):vq ((vE s r:Nat):Int) ((vE s q:Nat):Int) s=a:=by
 subst e
 obtain⟨t,rfl⟩:=h
 unfold vq vE
 rw[Int.toNat_natCast,Int.toNat_natCast]
 simp only[List.length_append]
 rw[show t.length+(a.length+q.length)-q.length=t.length+a.length by omega,show t.length+(a.length+q.length)-(a.length+q.length)=t.length by omega,<- List.append_assoc,<- List.length_append,List.take_left,List.drop_left]
theorem BE:∀ (l:ze) (c:UInt8),decide ((0:Int)<=nS l c)=l.contains c
 | [],_=>rfl
 | b::l,c=>by
  have ih:=BE l c
  unfold nS
  rw[List.contains_cons]
  by_cases h:b=c
  ·subst h; simp
  ·have h':(b==c)=false:=by simpa using h
   have h'':(c==b)=false:=by simpa using λe:c=b=>h e.symm
   rw[h',h'',Bool.false_or,<- ih]
   have hge:∀ l:ze,nS l c = -1\/0<=nS l c:=by
    intro l
    induction l with
    | nil=>exact .inl rfl
    | cons x l ih =>
     unfold nS
     split
     ·right; omega
     ·split
      ·left; rfl
      ·right
       rename_i vJ
       rcases ih with h | h
       ·exact absurd (by simpa using h) vJ
       ·omega
   rcases hge l with h | h
   ·rw[h]; rfl
   ·have:(nS l c == -1)=false:=by simp; omega
    simp only[this,Bool.false_eq_true,if_false]
    rw[decide_eq_true (by omega),decide_eq_true (by omega)]
theorem JF(c:UInt8):byteOf (c.toNat:Int)=c:=by unfold byteOf; simp
end Go.AM.PL
namespace Go.AM.Lf
open PL
def qA(s r:ze)(d:Nat)(l:Bool):zc:=(s,((vE s r:Nat):Int),(d:Int),l,())
theorem wT(s r:ze)(d:Nat)(l:Bool):(qA s r d l).1=s:=rfl
theorem vS(s r:ze)(d:Nat)(l:Bool):(qA s r d l).2.1=((vE s r:Nat):Int):=rfl
theorem Ur(s r:ze)(d:Nat)(l:Bool):(qA s r d l).2.2.1=(d:Int):=rfl
theorem Vh{s r:ze}{c:UInt8}(d:Nat)(l:Bool)(h:(c::r) <:+ s)(hs:s.length<=1000000):((s,zF (((vE s (c::r):Nat):Int)+1),(d:Int),l,()):zc)=qA s r d l:=by
 have:=yS h
 unfold qA
 rw[zA (by omega) (by omega),this.1]
 rfl
theorem Qc{s r:ze}{c:UInt8}(h:(c::r) <:+ s):decide (((vE s (c::r):Nat):Int)<(s.length:Int))=true:=decide_eq_true (by have:=yS h; omega)
theorem VI(s:ze):decide (((vE s []:Nat):Int)<(s.length:Int))=false:=by rw[SX]; exact decide_eq_false (by omega)
theorem lQ{s r:ze}{c:UInt8}(h:(c::r) <:+ s):qt ((vE s (c::r):Nat):Int) s.length:=⟨by omega,by have:=yS h; omega⟩
theorem z1m(c b:UInt8):((c.toNat:Int)==(b.toNat:Int))=decide (c=b):=by
 by_cases h:c=b
 ·subst h; simp
 ·rw[decide_eq_false h]
  simp only[beq_eq_false_iff_ne,ne_eq]
  intro e
  exact h (UInt8.toNat_inj.1 (by omega))
theorem Wa(s:ze)(hs:s.length<=1000000)(d:Nat)(l:Bool):∀ (r:ze),r <:+ s->(yP (qA s r d l)).run=some (qA s (yl r) d l)
 | [],_=>by
  refine qz ?_
  unfold xO
  dsimp only
  rw[vS,wT,VI,zb (λh=>by cases h),z8 (by rfl),z7]
  rfl
 | c::r,h=>by
  have e:(xO (qA s (c::r) d l)).run=some (if c=32 then .inl (qA s r d l)else .inr (qA s (c::r) d l)):=by
   unfold xO
   dsimp only
   rw[vS,wT,Qc h,zb (λ_=>lQ h),Bool.true_and,bW h,show((c.toNat:Int)==32)=decide (c=32)from z1m c 32]
   by_cases hc:c=32
   ·rw[za (by simpa using hc),z7,if_pos hc]
    show some (Sum.inl (s,zF (((vE s (c::r):Nat):Int)+1),(d:Int),l,()))=_
    rw[Vh d l h hs]
   ·rw[z8 (by simpa using hc),z7,if_neg hc]
  unfold yl
  by_cases hc:c=32
  ·rw[if_pos hc]at e ⊢
   exact(vp e).trans (Wa s hs d l r (gD h))
  ·rw[if_neg hc]at e ⊢
   exact qz e
theorem EF(s:ze)(hs:s.length<=1000000)(d:Nat)(l:Bool)(r:ze)(h:r <:+ s):(ub (qA s r d l)).run=some (qA s (yl r) d l):=by
 unfold ub
 rw[z6 (Wa s hs d l r h),z7]
def xT(some:ze)(r:ze):Option (UInt8×ze):=match yl r with
 | []=>none
 | c::q=>if some.contains c=true then .some (c,q)else none
theorem tx(s:ze)(hs:s.length<=1000000)(d:Nat)(l:Bool)(r:ze)(h:r <:+ s)(m:ze) :
  (qX m (qA s r d l)).run=some (match xT m r with | some (c,q)=>((c.toNat:Int),qA s q d l) | none=>(0,qA s (yl r) d l)):=by
 have hk:=List.IsSuffix.trans (cR r) h
 unfold qX xT
 rw[z6 (EF s hs d l r h)]
 cases e:yl r with
 | nil =>
  rw[z6 (a:=(false,qA s [] d l)) (by rw[vS,wT,VI,zg,z7]),zg,z7]
 | cons c q =>
  rw[e]at hk
  have hi:(strings_IndexByte m (c.toNat:Int)).run=some (nS m c):=by unfold strings_IndexByte; rw[z7,JF]
  rw[z6 (a:=(m.contains c,qA s (c::q) d l)) (by rw[vS,wT,Qc hk,zj,zb (lQ hk),bW hk,z6 hi,z7,BE])]
  have hp:=yS hk
  dsimp only
  cases hc:m.contains c with
  | false=>rw[zg,z7]; rfl
  | true =>
   rw[zj,vS,wT,zA (x:=((vE s (c::q):Nat):Int)+1) (by omega) (by omega),show((vE s (c::q):Nat):Int)+1-1=((vE s (c::q):Nat):Int) by omega,zA (by omega) (by omega),zb (lQ hk),z7,bW hk]
   rw[show((vE s (c::q):Nat):Int)+1=((vE s q:Nat):Int) by omega]
   rfl
theorem Xb(b:UInt8):(xH (b.toNat:Int)).run=some (uK b):=by
 unfold xH uK
 rw[z7]
 congr 1
 by_cases h1:48<=b.toNat<;>by_cases h2:b.toNat<=57<;>simp[h1,h2]<;>omega
theorem O8(b:UInt8):(wI (b.toNat:Int)).run=some (XJ b):=rfl
theorem Ej(s:ze)(hs:s.length<=1000000)(d:Nat)(l:Bool)(is:Int->T Bool)(p:UInt8->Bool)(hp:∀ b:UInt8,(is (b.toNat:Int)).run=some (p b))(f m:Nat)(hm:m<=1000000) :
  ∀ (n:Nat) (r:ze),r <:+ s->f<=vE s r->vE s r-f+n=m->(gS is (m:Int) (f:Int) (qA s r d l)).run=some (qA s (gI p n r).2 d l):=by
 intro n r
 induction r generalizing n with
 | nil =>
  intro h hf he
  have:(gI p n []).2=[]:=by cases n<;>rfl
  rw[this]
  refine qz ?_
  unfold qO
  dsimp only
  rw[z6 (a:=(false,qA s [] d l)) (by rw[vS,wT,VI,zg,z7]),zg,z7]
 | cons c r ih =>
  intro h hf he
  have tX:=yS h
  cases n with
  | zero =>
   refine qz ?_
   unfold qO
   dsimp only
   rw[z6 (a:=(false,qA s (c::r) d l)) (by rw[vS,wT,Qc h,zj,zA (by omega) (by omega),z8 (decide_eq_false (by omega)),z7]),zg,z7]
   rfl
  | succ n =>
   have e:(qO is (m:Int) (f:Int) (qA s (c::r) d l)).run=some (if p c=true then .inl (qA s r d l)else .inr (qA s (c::r) d l)):=by
    unfold qO
    dsimp only
    rw[z6 (a:=(p c,qA s (c::r) d l)) (by rw[vS,wT,Qc h,zj,zA (by omega) (by omega),za (decide_eq_true (by omega)),zb (lQ h),bW h,z6 (hp c),z7])]
    dsimp only
    cases p c with
    | false=>rfl
    | true =>
     rw[zj,z7,if_pos rfl]
     show some (Sum.inl (s,zF (((vE s (c::r):Nat):Int)+1),(d:Int),l,()))=_
     rw[Vh d l h hs]
   unfold gI
   by_cases hc:p c=true
   ·rw[if_pos hc]at e ⊢
    exact(vp e).trans (ih n (gD h) (by omega) (by omega))
   ·rw[if_neg hc]at e ⊢
    exact qz e
theorem QI(s:ze)(hs:s.length<=1000000)(d:Nat)(l:Bool)(is:Int->T Bool)(p:UInt8->Bool)(hp:∀ b:UInt8,(is (b.toNat:Int)).run=some (p b))(m:Nat)(hm:m<=1000000)(r:ze)(h:r <:+ s) :
  (qY is (m:Int) (qA s r d l)).run=some ((gI p m r).1,qA s (gI p m r).2 d l):=by
 unfold qY
 have h2:=List.IsSuffix.trans (VQ p m r) h
 have h3:=z3O (VQ p m r) h
 have h4:vE s (gI p m r).2<=s.length:=by unfold vE; omega
 rw[vS,z6 (Ej s hs d l is p hp (vE s r) m hm m r h (Nat.le_refl _) (by omega))]
 rw[vS,wT,zb ⟨by omega,by omega,by omega⟩,z7,Rr h (ZR p m r)]
inductive PR where
 | no
 | er (k:Int) (bad r:ze) (d:Nat) (l:Bool)
 | ok (e:Expr) (r:ze) (l:Bool)
def PR.bind:PR->(Expr->ze->Bool->PR)->PR
 | .no,_=>.no
 | .er k b r d l,_=>.er k b r d l
 | .ok e r l,f=>f e r l
def b9(k:Int)(l:List Expr):Expr:=.mk k zR [] l
def nN(t:ze):Rat:=match tA t with | some (n,d)=>va (List.isPrefixOf [45] t) n d | none=>zR
def Xf(z:Rat)(t r:ze)(l:Bool):PR:=if 400<t.length then .ok (.mk 1 z [] []) r true else .ok (.mk 1 (nN t) [] []) r l
def tG(z:Rat)(d:Nat)(r:ze)(l:Bool):PR:=match r.dropWhile uK with
 | []=>Xf z (r.takeWhile uK) [] l
 | c::q=>if c=46 then(if q.takeWhile uK=[]then .er 2 q q d l else Xf z (r.takeWhile uK++(46::q.takeWhile uK)) (q.dropWhile uK) l)
  else Xf z (r.takeWhile uK) (c::q) l
def El(r:ze)(l:Bool):PR:=.ok (.mk 2 zR (gI wX 24 r).1 []) (gI wX 24 r).2 l
def yB(K:Bool->ze->PR)(m1 m2:UInt8)(k1 k2:Int):Nat->Expr->ze->Bool->PR
 | 0,_,_,_=>.no
 | n+1,e,r,l=>match xT [m1,m2] r with
  | none=>.ok e (yl r) l
  | some (c,q)=>(K l q).bind λe2 q2 l2=>yB K m1 m2 k1 k2 n (b9 (if c=m1 then k1 else k2) [e,e2]) q2 l2
def rowP(K:Bool->ze->PR)(m1 m2:UInt8)(k1 k2:Int)(n:Nat)(l:Bool)(r:ze):PR:=(K l r).bind λe q l'=>yB K m1 m2 k1 k2 n e q l'
def lA(z:Rat)(F S:Nat->Bool->ze->PR)(d:Nat)(l:Bool)(s:ze):PR:=match yl s with
 | []=>.er 2 [] [] d l
 | c::r =>
  if c=45 then(if 31<=d then .er 4 (c::r) r (d+1) l else(F (d+1) l r).bind λe q l'=>.ok (b9 7 [e]) q l')
  else if c=40 then(if 31<=d then .er 4 (c::r) r (d+1) l else(S (d+1) l r).bind λe q l'=>match xT [41] q with
   | some (_,q')=>.ok e q' l'
   | none=>.er 2 (yl q) (yl q) (d+1) l')
  else if uK c=true then tG z d (c::r) l
  else if XJ c=true then El (c::r) l
  else .er 2 (c::r) (c::r) d l
mutual
def pF(z:Rat):Nat->Nat->Bool->ze->PR
 | 0,_,_,_=>.no
 | n+1,d,l,s=>lA z (pF z n) (pS z n) d l s
def pP(z:Rat):Nat->Nat->Bool->ze->PR
 | 0,_,_,_=>.no
 | n+1,d,l,s=>rowP (pF z n d) 42 47 5 6 n l s
def pS(z:Rat):Nat->Nat->Bool->ze->PR
 | 0,_,_,_=>.no
 | n+1,d,l,s=>rowP (pP z n d) 43 45 3 4 n l s
end
def PR.Yh(s:ze):PR->Prop
 | .no=>True
 | .er _ b r _ _=>b <:+ s/\r <:+ s
 | .ok _ r _=>r <:+ s
theorem PR.Za{s:ze}{R:PR}{f:Expr->ze->Bool->PR}(h:R.Yh s)(hf:∀ e r l,r <:+ s->(f e r l).Yh s):(R.bind f).Yh s:=by
 cases R with
 | no=>trivial
 | er=>exact h
 | ok e r l=>exact hf e r l h
theorem lr{m r q:ze}{c:UInt8}(h:xT m r=some (c,q)):(c::q) <:+ r/\m.contains c=true/\yl r=c::q:=by
 have:=cR r
 unfold xT at h
 split at h
 ·cases h
 ·rename_i c' q' e
  split at h
  ·cases h; rw[e]at this; exact⟨this,by assumption,e⟩
  ·cases h
theorem VF{s r t:ze}{z:Rat}{l:Bool}(h:r <:+ s):(Xf z t r l).Yh s:=by unfold Xf; split<;>exact h
theorem lC(p:UInt8->Bool)(r:ze):r.dropWhile p <:+ r:=List.dropWhile_suffix p
theorem S0{s r:ze}{z:Rat}{d:Nat}{l:Bool}(h:r <:+ s):(tG z d r l).Yh s:=by
 have hd:=lC uK r
 unfold tG
 split
 ·exact VF List.nil_suffix
 ·rename_i c q e
  rw[e]at hd
  have hq:=(gD hd).trans h
  split
  ·split
   ·exact⟨hq,hq⟩
   ·exact VF ((lC uK q).trans hq)
  ·exact VF (hd.trans h)
theorem BQ{s:ze}{K:Bool->ze->PR}(hK:∀ l r,r <:+ s->(K l r).Yh s)(m1 m2:UInt8)(k1 k2:Int):∀ (n:Nat) (e:Expr) (r:ze) (l:Bool),r <:+ s->(yB K m1 m2 k1 k2 n e r l).Yh s
 | 0,_,_,_,_=>trivial
 | n+1,e,r,l,h=>by
  unfold yB
  split
  ·exact(cR r).trans h
  ·rename_i c q ht
   have hq:=(gD (lr ht).1).trans h
   exact PR.Za (hK l q hq) λe2 q2 l2 h2=>BQ hK m1 m2 k1 k2 n _ q2 l2 h2
theorem Dm{s:ze}{K:Bool->ze->PR}(hK:∀ l r,r <:+ s->(K l r).Yh s)(m1 m2:UInt8)(k1 k2:Int)(n:Nat)(l:Bool)(r:ze)(h:r <:+ s):(rowP K m1 m2 k1 k2 n l r).Yh s :=
 PR.Za (hK l r h) λ_ _ _ h2=>BQ hK m1 m2 k1 k2 n _ _ _ h2
theorem Sh{s:ze}{z:Rat}{F S:Nat->Bool->ze->PR}(hF:∀ d l r,r <:+ s->(F d l r).Yh s)(hS:∀ d l r,r <:+ s->(S d l r).Yh s)(d:Nat)(l:Bool)(r:ze)(h:r <:+ s):(lA z F S d l r).Yh s:=by
 have hk:=(cR r).trans h
 unfold lA
 split
 ·exact⟨List.nil_suffix,List.nil_suffix⟩
 ·rename_i c q e
  rw[e]at hk
  have hq:=gD hk
  split
  ·split
   ·exact⟨hk,hq⟩
   ·exact PR.Za (hF _ _ _ hq) λ_ _ _ h2=>h2
  ·split
   ·split
    ·exact⟨hk,hq⟩
    ·refine PR.Za (hS _ _ _ hq) λe2 q2 l2 h2 => ?_
     split
     ·rename_i ht
      exact(gD (lr ht).1).trans h2
     ·exact⟨(cR q2).trans h2,(cR q2).trans h2⟩
   ·split
    ·exact S0 hk
    ·split
     ·exact(VQ wX 24 (c::q)).trans hk
     ·exact⟨hk,hk⟩
theorem Jt(z:Rat)(s:ze):∀ (n:Nat),(∀ d l r,r <:+ s->(pF z n d l r).Yh s)/\(∀ d l r,r <:+ s->(pP z n d l r).Yh s)/\(∀ d l r,r <:+ s->(pS z n d l r).Yh s)
 | 0=>⟨λ_ _ _ _=>by unfold pF; trivial,λ_ _ _ _=>by unfold pP; trivial,λ_ _ _ _=>by unfold pS; trivial⟩
 | n+1=>by
  obtain⟨h1,h2,h3⟩:=Jt z s n
  refine⟨λd l r h => ?_,λd l r h => ?_,λd l r h => ?_⟩
  ·unfold pF; exact Sh h1 h3 d l r h
  ·unfold pP; exact Dm (h1 d) _ _ _ _ n l r h
  ·unfold pS; exact Dm (h2 d) _ _ _ _ n l r h
def encR(s:ze)(d:Nat):PR->Option ((AM.Expr×zc)⊕(vV×zc))
 | .no=>none
 | .er k b r d' l=>some (.inr ((k,(((vE s b:Nat):Int),())),qA s r d' l))
 | .ok e r l=>some (.inl (e,qA s r d l))
theorem Bj(e a:Int)(p:zc):(xK e a p).run=some (.inr ((e,(a,())),p)):=rfl
theorem EM(s:ze)(hs:s.length<=1000000){c:UInt8}{r:ze}(h:(c::r) <:+ s)(d:Nat)(hd:d<=31)(l:Bool):(wM (qA s r d l)).run=some (if 31<=d then .inr ((4,(((vE s (c::r):Nat):Int),())),qA s r (d+1) l)else .inl (qA s r (d+1) l)):=by
 have hp:=yS h
 have e:((qA s r d l).1,((qA s r d l).2.1,((zF ((qA s r d l).2.2.1+(1:Int))),((qA s r d l).2.2.2.1,()))))=qA s r (d+1) l:=by
  rw[Ur,zA (by omega) (by omega)]; rfl
 unfold wM
 rw[e,Ur,vS,zA (by omega) (by omega),zA (by omega) (by omega)]
 by_cases c1:31<=d
 ·rw[if_pos c1,za (decide_eq_true (by omega)),z6 (Bj _ _ _),Sum.elim_inr,z7,show((vE s r:Nat):Int)-1=((vE s (c::r):Nat):Int) by omega]
 ·rw[if_neg c1,z8 (decide_eq_false (by omega)),z7]
theorem tE(p:UInt8->Bool)(r:ze):r.takeWhile p++r.dropWhile p=r:=List.takeWhile_append_dropWhile
theorem FY(s:ze)(hs:s.length<=1000000)(d:Nat)(l:Bool)(r:ze)(h:r <:+ s):(vX (qA s r d l)).run=encR s d (tG zR d r l):=by
 have hdr:=lC uK r
 have hl:=h.length_le
 have hw:=QI s hs d l (λz0=>xH z0) uK Xb s.length hs r h
 rw[Vw uK s.length r hl]at hw
 -- what is done with the text
 have fin:∀ (t q:ze),(T.ite (decide ((400:Int)<(Nat.cast (List.length t):Int)))
    (.ret (.inl ((Expr.mk (1:Int) (false,(([]:List Int),(([]:List Int),()))) ([]:ze) ([]:List AM.Expr)),((qA s q d l).1,((qA s q d l).2.1,((qA s q d l).2.2.1,(true,())))))))
    (T.bind (wq t) λ(r,r1) =>
     .ret (.inl ((Expr.mk (1:Int) (r.1,(r.2.1,(r.2.2.1,()))) ([]:ze) ([]:List AM.Expr)),(qA s q d l)))):T ((AM.Expr×zc)⊕(vV×zc))).run=encR s d (Xf zR t q l):=by
  intro t q
  unfold Xf
  by_cases c1:400<t.length
  ·rw[if_pos c1,za (decide_eq_true (by omega)),z7]; rfl
  ·rw[if_neg c1,z8 (decide_eq_false (by omega)),z6 (bR t (by omega)),if_neg c1]
   unfold nN
   cases tA t with
   | none=>rfl
   | some x=>rfl
 unfold vX tG
 rw[wT,z6 hw]
 dsimp only
 cases e:r.dropWhile uK with
 | nil =>
  rw[e]at hdr
  rw[z6 (a:=.inl (r.takeWhile uK,qA s [] d l,Expr.mk 0 (false,([],([],()))) [] [])) (by rw[vS,wT,VI,zb (λh=>by cases h),Bool.false_and,zg,z7]),Sum.elim_inl]
  exact fin _ _
 | cons c q =>
  rw[e]at hdr
  have hcq:=hdr.trans h
  have hq:=gD hcq
  have tX:=yS hcq
  dsimp only
  by_cases hc:c=46
  ·rw[if_pos hc]
   have Qq:=QI s hs d l (λz0=>xH z0) uK Xb s.length hs q hq
   rw[Vw uK s.length q hq.length_le]at Qq
   have ziw:(r.takeWhile uK).length<=1000000:=by have:=congrArg List.length (tE uK r); rw[List.length_append]at this; omega
   have z5q:(q.takeWhile uK).length<=1000000:=by have:=congrArg List.length (tE uK q); rw[List.length_append]at this; have:=hq.length_le; omega
   have cond:((decide (((vE s (c::q):Nat):Int)<(s.length:Int)))&&((qo s ((vE s (c::q):Nat):Int))==(46:Int)))=true:=by
    rw[Qc hcq,Bool.true_and,bW hcq,show((c.toNat:Int)==46)=decide (c=46)from z1m c 46]; simpa using hc
   have st:(((qA s (c::q) d l).1,((zF ((qA s (c::q) d l).2.1+(1:Int))),((qA s (c::q) d l).2.2.1,((qA s (c::q) d l).2.2.2.1,())))):zc)=qA s q d l:=Vh d l hcq hs
   by_cases hq0:q.takeWhile uK=[]
   ·rw[if_pos hq0,z6 (a:=.inr ((2,(((vE s q:Nat):Int),())),qA s q d l,Expr.mk 0 (false,([],([],()))) [] [])),Sum.elim_inr]
    ·rfl
    ·rw[st,vS,wT,zb (λ_=>lQ hcq),za cond,z6 Qq,za (by rw[xP]; simpa using hq0)]
     have:q.dropWhile uK=q:=by have:=tE uK q; rw[hq0]at this; simpa using this
     rw[this,z6 (Bj _ _ _),Sum.elim_inr,z7,vS]
   ·rw[if_neg hq0,z6 (a:=.inl (cat (r.takeWhile uK) (cat [46] (q.takeWhile uK)),qA s (q.dropWhile uK) d l,Expr.mk 0 (false,([],([],()))) [] [])),Sum.elim_inl]
    ·exact fin _ _
    ·rw[st,vS,wT,zb (λ_=>lQ hcq),za cond,z6 Qq,z8 (by rw[xP]; simpa using hq0),zp _ (by simp; omega),zp _ (by simp[jC]; omega),z7]
  ·rw[if_neg hc,z6 (a:=.inl (r.takeWhile uK,qA s (c::q) d l,Expr.mk 0 (false,([],([],()))) [] [])),Sum.elim_inl]
   ·exact fin _ _
   ·rw[vS,wT,zb (λ_=>lQ hcq),z8 (by rw[Qc hcq,Bool.true_and,bW hcq,show((c.toNat:Int)==46)=decide (c=46)from z1m c 46]; simpa using hc),z7]
abbrev KT:=zc->T ((AM.Expr×zc)⊕(vV×zc))
abbrev zE:Expr:=Expr.mk (0:Int) (false,(([]:List Int),(([]:List Int),()))) ([]:ze) ([]:List AM.Expr)
noncomputable def VG (K:KT) (Xa:ze) (Vu:vV):(zc×AM.Expr×AM.Expr)->T ((zc×AM.Expr×AM.Expr)⊕((zc×AM.Expr×AM.Expr)⊕(vV×zc×AM.Expr×AM.Expr)))
 | (v,v1,v2) =>
  T.bind (qX Xa v) λ(c,p3) =>
  .ite (c==(0:Int))
   (.ret (.inr (.inl (p3,(v2,v2)))))
   (T.bind (K p3) <|
     Sum.elim (λ(r1,p4) =>
      T.bind (strings_IndexByte Xa c) λr2 =>
      .zL (qt r2 (2:Nat)) <|
      .ret (.inl (p4,(v1,(Expr.mk (p7 (.int .i64) XF Vu (Int.toNat r2)) (false,(([]:List Int),(([]:List Int),()))) ([]:ze) ([v2,r1]:List AM.Expr))))))
     (λ(pv1,p5) =>
      .ret (.inr (.inr (pv1,(p5,(v1,v2)))))))
noncomputable def z1D (K:KT) (marks:ze) (kinds:vV) (p:zc):T ((AM.Expr×zc)⊕(vV×zc)) :=
 T.bind (K p) <|
  Sum.elim (λ(r,p1) =>
   T.bind (T.loop (VG K marks kinds) (p1,(zE,r))) <|
    Sum.elim (λ(v3,v4,v5) =>
     .ret (.inl (v4,v3)))
    (λ(p6,v6,v7,v8) =>
     .ret (.inr (p6,v6))))
  (λ(pv,p2) =>
   .ret (.inr (pv,p2)))
theorem zeM{m1 m2 c:UInt8}(h:[m1,m2].contains c=true):nS [m1,m2] c=if c=m1 then 0 else 1:=by
 unfold nS
 by_cases h1:c=m1
 ·subst h1; simp
 ·have Wp:(m1==c)=false:=by simpa using λe:m1=c=>h1 e.symm
  have h2:c=m2:=by simpa[h1]using h
  subst h2
  rw[Wp,if_neg h1]
  unfold nS
  simp
theorem C9(s:ze)(hs:s.length<=1000000)(d:Nat)(K:KT)(Ks:Bool->ze->PR)(hK:∀ l r,r <:+ s->Ks l r≠.no->(K (qA s r d l)).run=encR s d (Ks l r))(hx:∀ l r,r <:+ s->(Ks l r).Yh s)(m1 m2:UInt8)(hm1:m1≠0)(Bt:m2≠0)(k1 k2:Int) :
  ∀ (n:Nat) (e:Expr) (r:ze) (l:Bool),r <:+ s->yB Ks m1 m2 k1 k2 n e r l≠.no ->
   match yB Ks m1 m2 k1 k2 n e r l with
   | .no=>True
   | .ok e' r' l'=>(T.loop (VG K [m1,m2] (k1,(k2,()))) (qA s r d l,(zE,e))).run=some (.inl (qA s r' d l',(e',e')))
   | .er k b r' d' l'=>∃ x,(T.loop (VG K [m1,m2] (k1,(k2,()))) (qA s r d l,(zE,e))).run=some (.inr ((k,(((vE s b:Nat):Int),())),(qA s r' d' l',(zE,x))))
 | 0,_,_,_,_,hn=>absurd rfl hn
 | n+1,e,r,l,h,hn=>by
  have ht:=tx s hs d l r h [m1,m2]
  unfold yB at hn ⊢
  cases q:xT [m1,m2] r with
  | none =>
   rw[q]at ht
   dsimp only
   refine qz ?_
   unfold VG
   dsimp only
   rw[z6 ht]
   rfl
  | some x =>
   obtain⟨c,q'⟩:=x
   rw[q]at ht hn
   dsimp only at ht hn ⊢
   have hsf:=lr q
   have hq:=(gD hsf.1).trans h
   have hc0:((c.toNat:Int)==0)=false:=by
    rw[show((c.toNat:Int)==0)=decide (c=0)from z1m c 0]
    have h2:c=m1\/c=m2:=by simpa using hsf.2.1
    rcases h2 with rfl | rfl<;>simpa
   have Ee:=hK l q' hq
   have GV:=hx l q' hq
   cases z:Ks l q' with
   | no=>rw[z]at hn; exact absurd rfl hn
   | er k b r' d' l' =>
    rw[z]at Ee
    have Ee:=Ee (by simp)
    refine⟨e,qz ?_⟩
    unfold VG
    dsimp only
    rw[z6 ht]
    dsimp only
    rw[z8 hc0,z6 Ee]
    rfl
   | ok e2 r2 l2 =>
    rw[z]at Ee hn GV
    have Ee:=Ee (by simp)
    have hi:(strings_IndexByte [m1,m2] (c.toNat:Int)).run=some (nS [m1,m2] c):=by unfold strings_IndexByte; rw[z7,JF]
    have step:(VG K [m1,m2] (k1,(k2,())) (qA s r d l,(zE,e))).run=some (.inl (qA s r2 d l2,(zE,b9 (if c=m1 then k1 else k2) [e,e2]))):=by
     unfold VG
     dsimp only
     rw[z6 ht]
     dsimp only
     rw[z8 hc0,z6 Ee,Sum.elim_inl,z6 hi,zeM hsf.2.1]
     by_cases hc:c=m1
     ·rw[if_pos hc,if_pos hc,zb ⟨by omega,by omega⟩,z7]
      rfl
     ·rw[if_neg hc,if_neg hc,zb ⟨by omega,by omega⟩,z7]
      rfl
    rw[vp step]
    exact C9 s hs d K Ks hK hx m1 m2 hm1 Bt k1 k2 n _ r2 l2 GV hn
theorem Cj(s:ze)(hs:s.length<=1000000)(d:Nat)(K:KT)(Ks:Bool->ze->PR)(hK:∀ l r,r <:+ s->Ks l r≠.no->(K (qA s r d l)).run=encR s d (Ks l r))(hx:∀ l r,r <:+ s->(Ks l r).Yh s)(m1 m2:UInt8)(hm1:m1≠0)(Bt:m2≠0)(k1 k2:Int)
  (n:Nat) (l:Bool) (r:ze) (h:r <:+ s) (hn:rowP Ks m1 m2 k1 k2 n l r≠.no):(z1D K [m1,m2] (k1,(k2,())) (qA s r d l)).run=encR s d (rowP Ks m1 m2 k1 k2 n l r):=by
 have Ee:=hK l r h
 have GV:=hx l r h
 unfold z1D
 unfold rowP at hn ⊢
 cases z:Ks l r with
 | no=>rw[z]at hn; exact absurd rfl hn
 | er k b r' d' l' =>
  rw[z]at Ee
  rw[z6 (Ee (by simp))]
  rfl
 | ok e r' l' =>
  rw[z]at Ee hn GV
  have Ee:=Ee (by simp)
  have hn:yB Ks m1 m2 k1 k2 n e r' l'≠.no:=hn
  have hl:=C9 s hs d K Ks hK hx m1 m2 hm1 Bt k1 k2 n e r' l' GV hn
  rw[z6 Ee,Sum.elim_inl]
  show _=encR s d (yB Ks m1 m2 k1 k2 n e r' l')
  cases w:yB Ks m1 m2 k1 k2 n e r' l' with
  | no=>exact absurd w hn
  | er k b r2 d2 l2 =>
   rw[w]at hl
   obtain⟨x,hl⟩:=hl
   dsimp only
   rw[z6 hl]
   rfl
  | ok e2 r2 l2 =>
   rw[w]at hl
   dsimp only at hl ⊢
   rw[z6 hl]
   rfl
theorem BP(s:ze)(hs:s.length<=1000000)(FT ST:KT)(F S:Nat->Bool->ze->PR)
  (hF:∀ d l r,d<=31->r <:+ s->F d l r≠.no->(FT (qA s r d l)).run=encR s d (F d l r)) (hS:∀ d l r,d<=31->r <:+ s->S d l r≠.no->(ST (qA s r d l)).run=encR s d (S d l r))
  (xS:∀ d l r,r <:+ s->(S d l r).Yh s) (d:Nat) (l:Bool) (r:ze) (hd:d<=31) (h:r <:+ s) (hn:lA zR F S d l r≠.no):(xY FT ST (qA s r d l)).run=encR s d (lA zR F S d l r):=by
 have ht:=tx s hs d l r h [45,40]
 have hk:=(cR r).trans h
 unfold xY
 unfold lA at hn ⊢
 unfold xT at ht
 -- what deeper ones leave
 have down:∀ (q:ze) (l':Bool),(((qA s q (d+1) l').1,((qA s q (d+1) l').2.1,((zF ((qA s q (d+1) l').2.2.1-(1:Int))),((qA s q (d+1) l').2.2.2.1,())))):zc)=qA s q d l':=by
  intro q l'
  rw[Ur,zA (by omega) (by omega)]
  show(s,(((vE s q:Nat):Int),(((d+1:Nat):Int)-1,(l',()))))=(s,(((vE s q:Nat):Int),((d:Int),(l',()))))
  rw[show((d+1:Nat):Int)-1=(d:Int) by omega]
 cases e:yl r with
 | nil =>
  rw[e]at ht
  dsimp only at ht ⊢
  rw[z6 ht]
  dsimp only
  rw[z8 (by rfl),z8 (by rfl)]
  rw[z6 (a:=(false,(qA s [] d l,zE))) (by rw[vS,wT,VI,zg,z7])]
  dsimp only
  rw[zg,z6 (a:=(false,(qA s [] d l,zE))) (by rw[vS,wT,VI,zg,z7])]
  rfl
 | cons c q =>
  rw[e]at ht hn hk
  have hq:=gD hk
  dsimp only at ht hn ⊢
  have hw:=EM s hs hk d hd l
  by_cases OC:c=45
  ·subst OC
   rw[if_pos (by decide)]at ht
   dsimp only at ht
   rw[if_pos rfl]at hn ⊢
   rw[z6 ht]
   dsimp only
   rw[za (by rfl),z6 hw]
   by_cases c31:31<=d
   ·rw[if_pos c31,if_pos c31]; rfl
   ·rw[if_neg c31]at hn
    rw[if_neg c31,if_neg c31,Sum.elim_inl]
    have hf:=hF (d+1) l q (by omega) hq
    cases z:F (d+1) l q with
    | no=>rw[z]at hn; exact absurd rfl hn
    | er k b r' d' l'=>rw[z]at hf; rw[z6 (hf (by simp))]; rfl
    | ok e2 r2 l2 =>
     rw[z]at hf
     rw[z6 (hf (by simp)),Sum.elim_inl]
     dsimp only
     rw[z7,down]
     rfl
  ·rw[if_neg OC]at hn ⊢
   by_cases OD:c=40
   ·subst OD
    rw[if_pos (by decide)]at ht
    dsimp only at ht
    rw[if_pos rfl]at hn ⊢
    rw[z6 ht]
    dsimp only
    rw[z8 (by rfl),za (by rfl),z6 hw]
    by_cases c31:31<=d
    ·rw[if_pos c31,if_pos c31]; rfl
    ·rw[if_neg c31]at hn
     rw[if_neg c31,if_neg c31,Sum.elim_inl]
     have hf:=hS (d+1) l q (by omega) hq
     have xf:=xS (d+1) l q hq
     cases z:S (d+1) l q with
     | no=>rw[z]at hn; exact absurd rfl hn
     | er k b r' d' l'=>rw[z]at hf; rw[z6 (hf (by simp))]; rfl
     | ok e2 r2 l2 =>
      rw[z]at hf xf
      rw[z6 (hf (by simp)),Sum.elim_inl]
      dsimp only
      have YE:=tx s hs (d+1) l2 r2 xf [41]
      show _=encR s d (match xT [41] r2 with | some (_,q')=>.ok e2 q' l2 | none=>.er 2 (yl r2) (yl r2) (d+1) l2)
      cases w:xT [41] r2 with
      | none =>
       rw[w]at YE
       dsimp only at YE ⊢
       rw[z6 (a:=.inr ((2,(((vE s (yl r2):Nat):Int),())),(qA s (yl r2) (d+1) l2,(zE,e2)))) (by rw[z6 YE]; rfl)]
       rfl
      | some x =>
       obtain⟨c',q'⟩:=x
       rw[w]at YE
       have hc':=(lr w).2.1
       have hc':c'=41:=by simpa using hc'
       subst hc'
       dsimp only at YE ⊢
       rw[z6 (a:=.inl (qA s q' (d+1) l2,(zE,e2))) (by rw[z6 YE]; rfl),Sum.elim_inl]
       dsimp only
       rw[z7,down]
       rfl
   ·rw[if_neg (by simp[OC,OD])]at ht
    dsimp only at ht
    rw[if_neg OD]at hn ⊢
    rw[z6 ht]
    dsimp only
    rw[z8 (by rfl),z8 (by rfl)]
    rw[z6 (a:=(uK c,(qA s (c::q) d l,zE))) (by rw[vS,wT,Qc hk,zj,zb (lQ hk),bW hk,z6 (Xb c),z7])]
    dsimp only
    cases hD:uK c with
    | true =>
     rw[if_pos rfl,zj]
     have Wj:=FY s hs d l (c::q) hk
     cases z:tG zR d (c::q) l with
     | no =>
      exfalso
      rw[if_pos hD,z]at hn
      exact hn rfl
     | er k b r' d' l'=>rw[z]at Wj; rw[z6 Wj]; rfl
     | ok e2 r2 l2=>rw[z]at Wj; rw[z6 Wj]; rfl
    | false =>
     rw[if_neg (by simp),zg]
     rw[z6 (a:=(XJ c,(qA s (c::q) d l,zE))) (by rw[vS,wT,Qc hk,zj,zb (lQ hk),bW hk,z6 (O8 c),z7])]
     dsimp only
     cases hL:XJ c with
     | true =>
      rw[if_pos rfl,zj]
      have hwl:(qY (λz0=>ve z0) 24 (qA s (c::q) d l)).run=_:=QI s hs d l (λz0=>ve z0) wX pD 24 (by omega) (c::q) hk
      rw[z6 hwl]
      rfl
     | false =>
      rw[if_neg (by simp),zg]
      rfl
end Go.AM.Lf
