/-
  Plain laws of the lifted program, part 1.
-/
import Derived.Test.YthhgaidlooddpaaGreatDoorLf0
import Derived.Test.YthhgaidlooddpaaGreatDoorAmA
import Derived.Test.YthhgaidlooddpaaGreatDoorAmD
import Derived.Test.YthhgaidlooddpaaGreatDoorQ0
set_option linter.unusedVariables false
open Go.AM.T (Ce Kf cY eJ lq mh qq qw vD wU wz z6 z7 z8 zL za zb zg zh zp)
namespace Go.AM.T
variable {σ ρ α β:Type}
theorem LF{r:σ->T (σ⊕ρ)}(l:List α)(d:α)(e:β->Int->σ)(I:Nat->β->Prop)(g:β->α->β)(fin:β->ρ)
  (step:∀ (k:Nat) (b:β) (x:α),k<l.length->nth l (k:Int) d=x->x∈l->I k b->(r (e b (k:Int))).run=some (.inl (e (g b x) ((k+1:Nat):Int)))/\I (k+1) (g b x))
  (done:∀ b,I l.length b->(r (e b (l.length:Int))).run=some (.inr (fin b))) {b:β} (h0:I 0 b):(loop r (e b 0)).run=some (fin (l.foldl g b))/\I l.length (l.foldl g b):=by
 have key:∀ (n k:Nat) (b:β),n+k=l.length->I k b->(loop r (e b (k:Int))).run=some (fin ((l.drop k).foldl g b))/\I l.length ((l.drop k).foldl g b):=by
  intro n
  induction n with
  | zero =>
   intro k b hk hb
   have:k=l.length:=by omega
   subst this
   rw[List.drop_length]
   exact⟨qw (done b hb),hb⟩
  | succ n ih =>
   intro k b hk hb
   have qy:k<l.length:=by omega
   have hd:l.drop k=l[k]::l.drop (k+1):=List.drop_eq_getElem_cons qy
   have hn:nth l (k:Int) d=l[k]:=by simp[nth,qy]
   obtain⟨h1,h2⟩:=step k b l[k] qy hn (List.getElem_mem qy) hb
   rw[hd,List.foldl_cons,wU h1]
   exact ih (k+1) _ (by omega) h2
 have:=key l.length 0 b (by omega) h0
 simpa using this
theorem Vv{r:σ->T (σ⊕ρ)}(l:List α)(d:α)(e:β->Int->σ)(I:Nat->β->Prop)(g:β->α->β)(fin:β->ρ)
  (step:∀ (k:Nat) (b:β) (x:α),k<l.length->nth l (k:Int) d=x->x∈l->I k b->(r (e b (k:Int))).run=some (.inl (e (g b x) ((k+1:Nat):Int)))/\I (k+1) (g b x))
  (done:∀ b,I l.length b->(r (e b (l.length:Int))).run=some (.inr (fin b))) {b:β} (h0:I 0 b):(loop r (e b 0)).run=some (fin (l.foldl g b)) :=
 (LF l d e I g fin step done h0).1
theorem pG{r:σ->T (σ⊕ρ)}(l:List α)(d:α)(e:β->Int->σ)(I:Nat->β->Prop)(f:List α->β->ρ)
  (step:∀ (k:Nat) (b:β) (x:α) (xs:List α),k<l.length->nth l (k:Int) d=x->x∈l->l.drop k=x::xs->I k b ->
   (∃ b',(r (e b (k:Int))).run=some (.inl (e b' ((k+1:Nat):Int)))/\I (k+1) b'/\f xs b'=f (x::xs) b)\/(r (e b (k:Int))).run=some (.inr (f (x::xs) b)))
  (done:∀ b,I l.length b->(r (e b (l.length:Int))).run=some (.inr (f [] b))) {b:β} (h0:I 0 b):(loop r (e b 0)).run=some (f l b):=by
 have key:∀ (n k:Nat) (b:β),n+k=l.length->I k b->(loop r (e b (k:Int))).run=some (f (l.drop k) b):=by
  intro n
  induction n with
  | zero =>
   intro k b hk hb
   have:k=l.length:=by omega
   subst this
   rw[List.drop_length]
   exact qw (done b hb)
  | succ n ih =>
   intro k b hk hb
   have qy:k<l.length:=by omega
   have hd:l.drop k=l[k]::l.drop (k+1):=List.drop_eq_getElem_cons qy
   have hn:nth l (k:Int) d=l[k]:=by simp[nth,qy]
   rcases step k b l[k] _ qy hn (List.getElem_mem qy) hd hb with⟨b',h1,h2,h3⟩ | h1
   ·rw[hd,wU h1,<- h3]
    exact ih (k+1) _ (by omega) h2
   ·rw[hd]; exact qw h1
 have:=key l.length 0 b (by omega) h0
 simpa using this
end Go.AM.T
namespace Go.AM.PL
theorem fB(k n:Nat)(h:k<n)(hn:n<=4000000000000):zF ((k:Int)+1)=((k+1:Nat):Int):=by rw[zB (by omega) (by omega)]; omega
theorem ua{k n:Nat}(h:k<n):decide ((k:Int)<(n:Int))=true:=decide_eq_true (by omega)
theorem jy(n:Nat):decide ((n:Int)<(n:Int))=false:=decide_eq_false (by omega)
theorem zW{k n:Nat}(h:k<n):qz (k:Int) n:=⟨by omega,by omega⟩
theorem Kt{α:Type}(f:α->zf)(l:List α)(s:zf):l.foldl (λs x=>s++f x) s=s++l.flatMap f:=by
 induction l generalizing s with
 | nil=>simp
 | cons x l ih=>rw[List.foldl_cons,ih,List.flatMap_cons,List.append_assoc]
theorem uJ{α:Type}(f:α->zf)(l:List α)(c:Nat)(h:∀ x∈l,(f x).length<=c):(l.flatMap f).length<=l.length*c:=by
 induction l with
 | nil=>simp
 | cons x l ih =>
  have h1:=h x List.mem_cons_self
  have h2:=ih λy hy=>h y (List.mem_cons_of_mem _ hy)
  rw[List.flatMap_cons,List.length_append,List.length_cons,Nat.add_mul]; omega
theorem Cp{k n c:Nat}(h:k<=n):k*c<=n*c:=Nat.mul_le_mul_right c h
theorem jZ(a b:zf):cat a b=a++b:=rfl
theorem zV(a b:zf):(cat a b).length=a.length+b.length:=by rw[jZ,List.length_append]
end Go.AM.PL
namespace Go.AM.PL
theorem Pn(n:Nat)(h:n≠0):VJ n=Eh n:=by
 induction n using Nat.strongRecOn with
 | _ n ih =>
  rw[VJ,r7 h]
  split
  ·rename_i c
   rw[show n / 10=0 by omega,nS]
   unfold N2
   rw[show n % 10=n by omega]; rfl
  ·rename_i c
   rw[ih (n / 10) (by omega) (by omega)]; rfl
theorem I7(n:Nat):VJ n=pr n:=by
 unfold pr
 by_cases h:n=0
 ·subst h; rw[VJ]; rfl
 ·rw[if_neg h,Pn n h]
end Go.AM.PL
namespace Go.AM.Lf
open PL
def z4D(n:Int):Prop := -9223372036854775808<=n/\n<=9223372036854775807
theorem OZ(n:Int)(h:z4D n):(strconv_Itoa n).run=some (nh n):=by
 unfold strconv_Itoa
 unfold z4D at h
 rw[zb h,z7]
theorem z8C{n:Nat}(h:n<18446744073709551616):(zx n).length<=2:=zR.2 (by show n<4294967296 ^ 2; omega)
theorem B6{n:Nat}(h:n<18446744073709551616):(pr n).length<=37:=dW n 2 (z8C h)
theorem BL(n:Int)(h:z4D n):(nh n).length<=38:=by
 obtain⟨h1,h2⟩:=h
 unfold nh
 split
 ·rw[I7]
  have:=B6 (n:=n.natAbs) (by omega)
  simp; omega
 ·rw[I7]
  have:=B6 (n:=n.toNat) (by omega)
  omega
theorem th(a:Rat)(h:wW 1000 a):(iv (norm a)).length<=40000:=by
 have yA:=di (by omega) h
 generalize norm a=v at *
 have h1:=dW (nv v.2.1) 1000 (Nat.le_trans (zQ yA.1) yA.2.2.1)
 have h2:=dW (nv v.2.2.1) 1000 (Nat.le_trans (zQ yA.2.1) yA.2.2.2)
 have h3:=rD v.1
 unfold iv
 split<;>simp<;>omega
theorem uo(s:zf):zl s s=true:=by rw[vx]; simp
theorem Hj{l:List Int}(h:wf (.sl u32) l):zm l:=λx hx=>by
 obtain⟨p,q⟩:=h x hx
 have p':(0:Int)<=x:=p
 have q':x<=4294967295:=q
 exact⟨p',by omega⟩
theorem PV{a:Rat}(h:wf wO a):zm a.2.1/\zm a.2.2.1:=⟨Hj h.2.1,Hj h.2.2.1⟩
end Go.AM.Lf
namespace Go.AM.PL
def kY(b:UInt8):Bool:=decide (48<=b.toNat/\b.toNat<=57)
def xx(s:zf):Bool:=s.all kY
def wS(s:zf):Nat:=s.foldl (λn b=>n*10+(b.toNat-48)) 0
theorem MN(s:zf)(n:Nat):s.foldl (λn b=>n*10+(b.toNat-48)) n=n*10 ^ s.length+wS s:=by
 unfold wS
 induction s generalizing n with
 | nil=>simp
 | cons b s ih =>
  rw[List.foldl_cons,List.foldl_cons,ih,ih (0*10+(b.toNat-48)),List.length_cons,Nat.pow_succ]
  grind
theorem ZT(s t:zf):wS (s++t)=wS s*10 ^ t.length+wS t:=by
 have:=MN t (wS s)
 unfold wS at this ⊢
 rw[List.foldl_append,this]
theorem Ke(s:zf)(b:UInt8):wS (s++[b])=wS s*10+(b.toNat-48):=by
 unfold wS; rw[List.foldl_append]; rfl
theorem rH{b:UInt8}:kY b=true↔48<=b.toNat/\b.toNat<=57:=by unfold kY; simp
theorem GN{s:zf}(h:xx s=true):wS s<10 ^ s.length:=by
 have key:∀ (s:zf) (n k:Nat),xx s=true->n<10 ^ k->s.foldl (λn b=>n*10+(b.toNat-48)) n<10 ^ (k+s.length):=by
  intro s
  induction s with
  | nil=>intro n k _ h; simpa using h
  | cons b s ih =>
   intro n k hd hn
   simp only[xx,List.all_cons,Bool.and_eq_true]at hd
   have hb:=rH.1 hd.1
   have:=ih (n*10+(b.toNat-48)) (k+1) hd.2 (by rw[Nat.pow_succ]; omega)
   rw[List.foldl_cons,List.length_cons]
   rwa [show k+(s.length+1)=k+1+s.length by omega]
 have:=key s 0 0 h (by simp)
 simpa[wS]using this
theorem ca(s t:zf):xx (s++t)=(xx s&&xx t):=by unfold xx; rw[List.all_append]
theorem jc(b:UInt8)(t:zf):xx (b::t)=(kY b&&xx t):=rfl
theorem Z2{s:zf}(h:xx s=true):(zx (wS s)).length<=s.length+1:=by
 refine Nat.le_trans (Vu (Nat.le_of_lt (GN h))) ?_
 refine zR.2 (Nat.lt_of_lt_of_le (Nat.pow_lt_pow_right (a:=10) (by omega) (Nat.lt_succ_self s.length)) ?_)
 exact Nat.pow_le_pow_left (by omega) _
def mw(s:zf):Option Nat:=if s=[]\/400<s.length\/xx s=false then none else some (wS s)
theorem Vz(f:Nat->Bool):∀ (n k i:Nat),i<n->pn .bool (dx .bool n) (Mk (e:=.bool) f n k) i=f (k+i)
 | 0,_,_,h=>by omega
 | n+1,k,0,_=>by
  show(match(wP (a:=.bool) (f k):Option (den .bool))with | some y=>y | none=>zj .bool)=_
  simp[wP]
 | n+1,k,i+1,h=>by
  show pn .bool (dx .bool n) (Mk (e:=.bool) f n (k+1)) i=_
  rw[Vz f n (k+1) i (by omega)]
  congr 1; omega
abbrev jo:zf:=[48,49,50,51,52,53,54,55,56,57]
theorem z1p:∀ c:Fin 256,jo.contains (UInt8.ofNat c.val)=decide (48<=c.val/\c.val<=57):=by decide +kernel
theorem yv{s:zf}{k:Nat}(h:k<s.length):qp s (k:Int)=((s[k]).toNat:Int):=by
 unfold qp; simp[h]
theorem Eg(b:UInt8)(s:zf):vv 1 (((b::s).length:Nat):Int) (b::s)=s:=by unfold vv; simp
theorem LS(s:zf)(b:UInt8):vv 0 ((s.length:Nat):Int) (s++[b])=s:=by unfold vv; simp
end Go.AM.PL
namespace Go.AM.Lf
open PL
theorem ZB(b:UInt8):(xD (cI jo) (b.toNat:Int)).run=some (kY b):=by
 have hb:b.toNat<256:=b.toNat_lt
 unfold xD
 rw[zb ⟨by omega,by omega⟩,z7]
 unfold cI
 rw[Int.toNat_natCast,Vz _ 256 0 _ hb,Nat.zero_add]
 exact congrArg some (z1p ⟨b.toNat,hb⟩)
theorem Ju(s:zf)(hs:s.length<=1000000000):∃ r,(vj s (cI jo)).run=some r/\xx r=xx s/\(xx r=true->r=[])/\r.length<=s.length:=by
 have:=T.qL (r:=xE (cI jo)) (λt:zf=>xx t=xx s/\t.length<=s.length) (λt=>t.length) (λr:zf=>xx r=xx s/\(xx r=true->r=[])/\r.length<=s.length) (λt ht => ?_) (s:=s) ⟨rfl,Nat.le_refl _⟩
 ·obtain⟨r,h1,h2⟩:=this
  have h1:(kG (cI jo) s).run=some r:=h1
  unfold vj
  rw[z6 h1]
  exact⟨r,rfl,h2⟩
 ·rcases List.eq_nil_or_concat t with rfl | ⟨l,b,rfl⟩
  ·right
   refine⟨[],?_,ht.1,λ_=>rfl,by simp⟩
   unfold xE
   dsimp only
   rw[z8 (by rfl),z7]
  ·rw[List.concat_eq_append]at ht ⊢
   have hl:(l++[b]).length=l.length+1:=by simp
   have e1:zF (((l++[b]).length:Int)-1)=(l.length:Int):=by rw[hl,zB (by omega) (by omega)]; omega
   have e2:qp (l++[b]) (l.length:Int)=(b.toNat:Int):=by rw[yv (by simp)]; simp
   unfold xE
   dsimp only
   rw[za (decide_eq_true (by rw[hl]; omega)),e1,qq _ (by omega) (by rw[hl]; omega),e2,z6 (ZB b)]
   cases hb:kY b with
   | false =>
    right
    refine⟨_,by rw[za (by rfl),z7],ht.1,λh => ?_,ht.2⟩
    rw[ca,jc,hb]at h; simp at h
   | true =>
    left
    refine⟨l,by rw[z8 (by rfl),eJ _ (by omega) (by omega) (by rw[hl]; omega),z7,LS],⟨?_,by omega⟩,by omega⟩
    rw[<- ht.1,ca,jc,hb]; simp[xx]
theorem YG(s:zf)(hs:s.length<=1000000000):∃ r,(vO s (cI jo)).run=some r/\xx r=xx s/\(xx r=true->r=[]):=by
 have:=T.qL (r:=xH (cI jo)) (λt:zf=>xx t=xx s) (λt=>t.length) (λr:zf=>xx r=xx s/\(xx r=true->r=[])) (λt ht => ?_) (s:=s) rfl
 ·obtain⟨r,h1,h2⟩:=this
  have h1:(ye (cI jo) s).run=some r:=h1
  unfold vO
  rw[z6 h1]
  exact⟨r,rfl,h2⟩
 ·cases t with
  | nil =>
   right
   refine⟨[],?_,ht,λ_=>rfl⟩
   unfold xH
   dsimp only
   rw[z8 (by rfl),z7]
  | cons b l =>
   have e2:qp (b::l) 0=(b.toNat:Int):=rfl
   unfold xH
   dsimp only
   rw[za (decide_eq_true (by simp)),qq _ (by omega) (by simp),e2,z6 (ZB b)]
   cases hb:kY b with
   | false =>
    right
    refine⟨_,by rw[za (by rfl),z7],ht,λh => ?_⟩
    rw[jc,hb]at h; simp at h
   | true =>
    left
    refine⟨l,by rw[z8 (by rfl),eJ _ (by omega) (by simp; omega) (by omega),z7,Eg],?_,by simp⟩
    rw[<- ht,jc,hb]; rfl
theorem Yk:∀ (j:Nat) b,jo[j]? = some b->b.toNat<128:=by
 intro j b h
 have:b∈jo:=List.mem_of_getElem? h
 simp only[jo,List.mem_cons,List.not_mem_nil,or_false]at this
 rcases this with rfl | rfl | rfl | rfl | rfl | rfl | rfl | rfl | rfl | rfl<;>decide
theorem Wa(s:zf)(hs:s.length<=1000000000)(hn:s≠[]):∃ r,(ku s jo).run=some r/\zl r []=xx s:=by
 obtain⟨r1,a1,a2,a3,a4⟩:=Ju s hs
 obtain⟨r,b1,b2,b3⟩:=YG r1 (by omega)
 refine⟨r,?_,?_⟩
 ·have hm:(strings_makeASCIISet jo).run=some (cI jo,true):=by
   unfold strings_makeASCIISet
   rw[zb ⟨by decide,Yk⟩,z7]
  have e1:zl s []=false:=by rw[vx]; simpa using hn
  unfold ku
  rw[z8 (by rw[e1]; rfl),zb (λh=>by simp at h),z8 (by rfl),z6 hm,zh,z6 a1,z6 b1,z7]
 ·rw[vx]
  rw[a2]at b2
  cases h:xx s with
  | true=>rw[h]at b2; rw[b3 b2]; simp
  | false =>
   rw[h]at b2
   refine decide_eq_false λz => ?_
   subst z; cases b2
theorem z6r(v:Nat)(b:UInt8)(hb:kY b=true):zN (GW ((b.toNat:Int)-48))=((b.toNat-48:Nat):Int):=by
 have:=rH.1 hb
 rw[Gv (by omega) (by omega),qk (by omega) (by omega)]; omega
theorem Ly:zm [(10:Int)]:=by intro x hx; simp at hx; omega
theorem c6(s:zf)(hs:s.length<=1000000000):(vt s).run=some (match mw s with | some n=>(zx n,true) | none=>([],false)):=by
 unfold vt mw
 by_cases c1:s=[]
 ·subst c1; rw[if_pos (.inl rfl)]; rfl
 ·have e1:zl s []=false:=by rw[vx]; simpa using c1
  by_cases c2:400<s.length
  ·have hg:(.ite (zl s ([]:zf)) (.ret true) (.ite (decide ((400:Int)<(Nat.cast (List.length s):Int))) (.ret true) (T.bind (ku s ([48,49,50,51,52,53,54,55,56,57]:zf)) λr=>.ret (!(zl r ([]:zf))))):T Bool).run=some true:=by
    rw[z8 e1,za (decide_eq_true (by omega)),z7]
   rw[z6 hg,if_pos (.inr (.inl c2))]; rfl
  ·obtain⟨r,h1,h2⟩:=Wa s hs c1
   have hg:(.ite (zl s ([]:zf)) (.ret true) (.ite (decide ((400:Int)<(Nat.cast (List.length s):Int))) (.ret true) (T.bind (ku s ([48,49,50,51,52,53,54,55,56,57]:zf)) λr=>.ret (!(zl r ([]:zf))))):T Bool).run=some (!(xx s)):=by
    rw[z8 e1,z8 (decide_eq_false (by omega)),z6 h1,z7,h2]
   rw[z6 hg]
   cases hd:xx s with
   | false=>rw[if_pos (.inr (.inr rfl))]; rfl
   | true =>
    rw[if_neg (by simp[c1]; omega),z8 (by rfl)]
    have hL:(Q7 s (s.length:Int) ([],0)).run=some (zx (wS s)):=by
     have:=vD (r:=hJ s (s.length:Int)) (λst:List Int×Int=>∃ k:Nat,st=(zx (wS (s.take k)),(k:Int))/\k<=s.length) (λst=>s.length-st.2.toNat) (λ_=>zx (wS s)) (λst xM => ?_) (s:=([],0)) ⟨0,by simp[wS,qo],by omega⟩
     ·exact this
     ·obtain⟨k,rfl,hk⟩:=xM
      by_cases c:k<s.length
      ·left
       have hb:kY s[k]=true:=List.all_eq_true.1 hd _ (List.getElem_mem c)
       have ht:xx (s.take k)=true:=List.all_eq_true.2 λx hx=>List.all_eq_true.1 hd x (List.mem_of_mem_take hx)
       have hl:=Z2 ht
       have Tp:(zx (wS (s.take k))).length<=500:=by rw[List.length_take]at hl; omega
       have hm:=nX (zx (wS (s.take k))) [10] (zn _) Ly (by omega) (by simp)
       rw[zS,show nv [10]=10 from rfl]at hm
       have hml:=Xc (wS (s.take k)) 10
       have h10:(zx 10).length<=1:=zR.2 (by decide)
       have hd9:(zx (s[k].toNat-48)).length<=1:=zR.2 (by have:=rH.1 hb; show _<4294967296 ^ 1; omega)
       have ha:=H7 (zx (wS (s.take k)*10)) (zx (s[k].toNat-48)) (zn _) (zn _) (by omega) (by omega)
       rw[zS,zS]at ha
       refine⟨(zx (wS (s.take (k+1))),((k+1:Nat):Int)),?_,⟨k+1,rfl,c⟩,by simp only[Int.toNat_natCast]; omega,rfl⟩
       unfold hJ
       dsimp only
       rw[za (ua c),z6 hm,zb (zW c),yv c,z6r 0 _ hb,z6 (yC _ (by have:=rH.1 hb; omega)),z6 ha,z7,fB k _ c (by omega),
        List.take_succ_eq_append_getElem c,Ke]
      ·have:k=s.length:=by omega
       subst this
       right
       unfold hJ
       dsimp only
       rw[z8 (jy _),z7,List.take_length]
    rw[z6 hL,z7]
end Go.AM.Lf
namespace Go.AM.PL
def GJ(t:zf):Option (Nat×Nat) :=
 if t.takeWhile kY=[]then none else match t.dropWhile kY with
 | []=>some (wS (t.takeWhile kY),1)
 | c::q=>if q=[]\/xx q=false then none else if c=46 then some (wS (t.takeWhile kY)*10 ^ q.length+wS q,10 ^ q.length)
  else if c=47 then(if wS q=0 then none else some (wS (t.takeWhile kY),wS q))else none
theorem nY{u:zf}(h:xx u=true)(r:zf)(hr:∀ c q,r=c::q->kY c=false):(u++r).takeWhile kY=u/\(u++r).dropWhile kY=r:=by
 induction u with
 | nil =>
  cases r with
  | nil=>exact⟨rfl,rfl⟩
  | cons c q=>have:=hr c q rfl; simp[this]
 | cons b u ih =>
  rw[jc,Bool.and_eq_true]at h
  obtain⟨i1,i2⟩:=ih h.2
  simp[h.1,i1,i2]
theorem HT{u:zf}(h:xx u=true):GJ u=if u=[]then none else some (wS u,1):=by
 have:=nY h [] (λc q z=>by cases z)
 rw[List.append_nil]at this
 unfold GJ
 rw[this.1,this.2]
theorem pj{u:zf}(h:xx u=true)(c:UInt8)(q:zf)(hc:kY c=false):GJ (u++c::q)=if u=[]then none else if q=[]\/xx q=false then none else if c=46 then some (wS u*10 ^ q.length+wS q,10 ^ q.length)
  else if c=47 then(if wS q=0 then none else some (wS u,wS q))else none:=by
 have:=nY h (c::q) (λc' q' z=>by cases z; exact hc)
 unfold GJ
 rw[this.1,this.2]
theorem BG{u:zf}(h:xx u=true)(c:UInt8)(q:zf)(hc:kY c=false)(h1:c≠46)(h2:c≠47):GJ (u++c::q)=none:=by
 rw[pj h c q hc,if_neg h1,if_neg h2]
 split
 ·rfl
 ·split<;>rfl
theorem mH{w:zf}(h:xx w=false):∃ u c v,w=u++c::v/\xx u=true/\kY c=false:=by
 induction w with
 | nil=>cases h
 | cons b w ih =>
  cases hb:kY b with
  | false=>exact⟨[],b,w,rfl,rfl,hb⟩
  | true =>
   rw[jc,hb,Bool.true_and]at h
   obtain⟨u,c,v,rfl,h1,h2⟩:=ih h
   exact⟨b::u,c,v,rfl,by rw[jc,hb,h1]; rfl,h2⟩
theorem VC{c:UInt8}{s:zf}(h:c∈s):∃ w q,s=w++c::q/\c ∉ w:=by
 induction s with
 | nil=>cases h
 | cons b s ih =>
  by_cases hb:b=c
  ·subst hb; exact⟨[],s,rfl,by simp⟩
  ·obtain⟨w,q,rfl,h2⟩:=ih (by rcases List.mem_cons.1 h with h | h; exact absurd h.symm hb; exact h)
   exact⟨b::w,q,rfl,by simp[h2]; exact λz=>hb z.symm⟩
theorem z0r(c:UInt8)(w q:zf)(h:c ∉ w):cZ (w++c::q) [c]=(w.length:Int):=by
 induction w with
 | nil=>simp[cZ]
 | cons b w ih =>
  have hb:c≠b:=λz=>h (by simp[z])
  have hw:=ih (λz=>h (List.mem_cons_of_mem _ z))
  rw[List.cons_append]
  unfold cZ
  rw[hw]
  have e1:List.isPrefixOf [c] (b::(w++c::q))=false:=by simp[List.isPrefixOf,hb]
  rw[e1]
  have e2:((w.length:Int) == -1)=false:=by simp
  rw[e2]
  simp
theorem MY(c:UInt8)(s:zf)(h:c ∉ s):cZ s [c] = -1:=by
 induction s with
 | nil=>rfl
 | cons b w ih =>
  have hb:c≠b:=λz=>h (by simp[z])
  unfold cZ
  rw[ih (λz=>h (List.mem_cons_of_mem _ z))]
  have e1:List.isPrefixOf [c] (b::w)=false:=by simp[List.isPrefixOf,hb]
  rw[e1]; rfl
theorem V6(c:UInt8)(w q:zf)(h:c ∉ w):uD (w++c::q) [c]=(w,q,true):=by
 unfold uD
 rw[z0r c w q h,if_pos (by omega)]
 simp
theorem sP(c:UInt8)(s:zf)(h:c ∉ s):uD s [c]=(s,[],false):=by
 unfold uD
 rw[MY c s h,if_neg (by omega)]
theorem KG{s:zf}{n:Nat}(h:mw s=some n):s≠[]/\s.length<=400/\xx s=true/\n=wS s:=by
 unfold mw at h
 split at h
 ·cases h
 ·rename_i hc
  cases h
  simp only[not_or]at hc
  exact⟨hc.1,by omega,by simpa using hc.2.2,rfl⟩
theorem ZV{s:zf}(h1:s≠[])(h2:s.length<=400)(h3:xx s=true):mw s=some (wS s):=by
 unfold mw
 rw[if_neg (by simp[h1,h3]; omega)]
theorem mD{s:zf}(h:s=[]\/xx s=false):mw s=none:=by
 unfold mw
 rw[if_pos (by rcases h with h | h; exact .inl h; exact .inr (.inr h))]
end Go.AM.PL
namespace Go.AM.Lf
open PL
def qc:Rat:=(false,[],[],())
def Jv(s:zf):Option (Nat×Nat):=GJ (r8 s [45])
theorem XQ(s p:zf):(r8 s p).length<=s.length:=by unfold r8; split<;>simp
theorem E5(t:zf)(ht:t.length<=400)(neg:Bool) :
  (T.bind (strings_Cut t ([46]:zf)) λ(whole,part,ok) =>
   .ite ok
    (T.bind (vt part) λ(r,is) =>
     .zM (((List.length whole)+(List.length part))<=(4611686018427387904:Nat)) <|
     T.bind (vt (cat whole part)) λ(n,both) =>
     .ite ((zl whole ([]:zf))||((!is)||(!both)))
      (.ret ((false,(([]:List Int),(([]:List Int),()))),(2:Int)))
      (T.bind (pI (Nat.cast (List.length part):Int)) λr1 =>
       T.bind (lG neg n r1) λr2 =>
       .ret (r2,(0:Int))))
    (T.bind (strings_Cut t ([47]:zf)) λ(num,den,ok1) =>
     T.bind (vt num) λ(n1,is1) =>
     T.bind (vt (bif (!ok1)then([49]:zf)else den)) λ(d,both1) =>
     .ite ((!is1)||((!both1)||((Nat.cast (List.length d):Int)==(0:Int))))
      (.ret ((false,(([]:List Int),(([]:List Int),()))),(2:Int)))
      (T.bind (lG neg n1 d) λr3 =>
       .ret (r3,(0:Int)))):T (Rat×Int)).run=some (match GJ t with | some (n,d)=>(j3 neg n d,(0:Int)) | none=>(qc,(2:Int))):=by
 have Jh:∀ c:UInt8,(strings_Cut t [c]).run=some (uD t [c]):=λc=>by
  unfold strings_Cut; rw[zb (by omega),z7]
 rw[z6 (Jh 46)]
 have h46:kY 46=false:=by decide
 have h47:kY 47=false:=by decide
 by_cases c1:(46:UInt8)∈t
 ·obtain⟨w,p,rfl,hw⟩:=VC c1
  rw[V6 46 w p hw]
  have hl:w.length+p.length+1<=400:=by simp at ht; omega
  dsimp only
  rw[zh,z6 (c6 p (by omega))]
  have hwp:=c6 (cat w p) (by rw[zV]; omega)
  by_cases d1:xx w=true
  ·rw[pj d1 46 p h46]
   by_cases d2:w=[]
   ·subst d2
    rw[if_pos rfl]
    generalize mw p=o at *
    cases o<;>(dsimp only; rw[zp _ (by simp; omega),z6 hwp]; generalize mw (cat [] p)=o2; cases o2<;>rfl)
   ·rw[if_neg d2]
    by_cases d3:p=[]\/xx p=false
    ·rw[if_pos d3,mD d3]
     dsimp only
     rw[zp _ (by omega),z6 hwp]
     generalize mw (cat w p)=o2
     cases o2<;>(dsimp only; rw[za (by simp),z7]; rfl)
    ·rw[if_neg d3,if_pos rfl]
     have d4:p≠[]:=λz=>d3 (.inl z)
     have d5:xx p=true:=by cases h:xx p with | true=>rfl | false=>exact absurd (.inr h) d3
     have d6:xx (cat w p)=true:=by rw[jZ,ca,d1,d5]; rfl
     have d7:cat w p≠[]:=by rw[jZ]; simp[d2]
     rw[ZV d4 (by omega) d5]
     rw[ZV d7 (by rw[zV]; omega) d6]at hwp
     dsimp only at hwp ⊢
     have e1:zl w []=false:=by rw[vx]; simpa using d2
     have h10:=pO p.length
     have hn:=Z2 d6
     have ho:=tG neg (zx (wS (cat w p))) (zx (10 ^ p.length)) (zn _) (zn _) (by rw[zV]at hn; omega) (by omega)
     rw[zS,zS]at ho
     rw[zp _ (by omega),z6 hwp]
     dsimp only
     rw[z8 (by rw[e1]; rfl),z6 (nP p.length (by omega)),z6 ho,z7,jZ,ZT]
  ·have d1:xx w=false:=by simpa using d1
   obtain⟨u,c,v,rfl,g1,g2⟩:=mH d1
   have TZ:c≠46:=λz=>hw (by simp[z])
   have e:GJ (u++c::v++46::p)=none:=by
    rw[List.append_assoc,List.cons_append,pj g1 c _ g2]
    have:xx (v++46::p)=false:=by rw[ca,jc,h46]; simp
    rw[if_pos (show v++46::p=[]\/xx (v++46::p)=false from .inr this)]; split<;>rfl
   rw[e]
   have yA:mw (cat (u++c::v) p)=none:=mD (.inr (by rw[jZ,ca,d1]; rfl))
   rw[yA]at hwp
   generalize mw p=o at *
   cases o<;>(dsimp only; rw[zp _ (by omega),z6 hwp]; dsimp only; rw[za (by simp),z7]; rfl)
 ·rw[sP 46 t c1]
  dsimp only
  rw[zg,z6 (Jh 47)]
  have fin:∀ (num den:zf) (x:Bool),num.length<=400->den.length<=400->(T.bind (vt num) λ(n1,is1) =>
     T.bind (vt (bif (!x)then([49]:zf)else den)) λ(d,both1) =>
     .ite ((!is1)||((!both1)||((Nat.cast (List.length d):Int)==(0:Int))))
      (.ret ((false,(([]:List Int),(([]:List Int),()))),(2:Int)))
      (T.bind (lG neg n1 d) λr3=>.ret (r3,(0:Int))):T (Rat×Int)).run =
     some (match mw num,mw (bif (!x)then([49]:zf)else den)with | some n,some d=>if d=0 then(qc,(2:Int))else(j3 neg n d,(0:Int)) | _,_=>(qc,(2:Int))):=by
   intro num den x hn hd
   have Tj:(bif (!x)then([49]:zf)else den).length<=400:=by cases x<;>simp[hd]
   generalize (bif (!x)then([49]:zf)else den)=dd at *
   rw[z6 (c6 num (by omega))]
   have FR:=c6 dd (by omega)
   cases h1:mw num with
   | none =>
    dsimp only
    rw[z6 FR]
    generalize mw dd=o
    cases o<;>rfl
   | some n =>
    dsimp only
    rw[z6 FR]
    cases h2:mw dd with
    | none=>rfl
    | some d =>
     obtain⟨a1,a2,a3,rfl⟩:=KG h1
     obtain⟨b1,b2,b3,rfl⟩:=KG h2
     dsimp only
     have l1:=Z2 a3
     have l2:=Z2 b3
     by_cases z:wS dd=0
     ·rw[z,qo,if_pos rfl]; rfl
     ·rw[if_neg z]
      have:(zx (wS dd)).length≠0:=λh=>z (xb.1 (List.eq_nil_of_length_eq_zero h))
      have ho:=tG neg (zx (wS num)) (zx (wS dd)) (zn _) (zn _) (by omega) (by omega)
      rw[zS,zS]at ho
      rw[z8 (by simp; exact λh=>z (xb.1 h)),z6 ho,z7]
  by_cases c2:(47:UInt8)∈t
  ·obtain⟨w,q,rfl,hw⟩:=VC c2
   rw[V6 47 w q hw]
   have hl:w.length+q.length+1<=400:=by simp at ht; omega
   rw[fin w q true (by omega) (by omega)]
   rw[show(bif (!true)then([49]:zf)else q)=q from rfl]
   by_cases d1:xx w=true
   ·rw[pj d1 47 q h47]
    by_cases d2:w=[]
    ·rw[if_pos d2,mD (.inl d2)]
    ·rw[if_neg d2,ZV d2 (by omega) d1]
     by_cases d3:q=[]\/xx q=false
     ·rw[if_pos d3,mD d3]
     ·have d4:q≠[]:=λz=>d3 (.inl z)
      have d5:xx q=true:=by cases h:xx q with | true=>rfl | false=>exact absurd (.inr h) d3
      rw[if_neg d3,if_neg (by decide),if_pos rfl,ZV d4 (by omega) d5]
      dsimp only
      split<;>rfl
   ·have d1:xx w=false:=by simpa using d1
    obtain⟨u,c,v,rfl,g1,g2⟩:=mH d1
    rw[mD (.inr d1)]
    have z4C:c≠47:=λz=>hw (by simp[z])
    have TZ:c≠46:=λz=>c1 (by simp[z])
    rw[List.append_assoc,List.cons_append,BG g1 c _ g2 TZ z4C]
  ·rw[sP 47 t c2]
   rw[fin t [] false ht (by simp)]
   rw[show(bif (!false)then([49]:zf)else[])=[49]from rfl]
   have h1:mw [49]=some 1:=by decide
   rw[h1]
   by_cases d1:xx t=true
   ·rw[HT d1]
    by_cases d2:t=[]
    ·rw[if_pos d2,mD (.inl d2)]
    ·rw[if_neg d2,ZV d2 ht d1]; rfl
   ·have d1:xx t=false:=by simpa using d1
    rw[mD (.inr d1)]
    obtain⟨u,c,v,rfl,g1,g2⟩:=mH d1
    have z4C:c≠47:=λz=>c2 (by simp[z])
    have TZ:c≠46:=λz=>c1 (by simp[z])
    rw[BG g1 c _ g2 TZ z4C]
theorem sA(s:zf)(hs:s.length<=1000000000):(yK s).run=some (if 400<s.length then(qc,(3:Int))else match Jv s with | some (n,d)=>(j3 (List.isPrefixOf [45] s) n d,(0:Int)) | none=>(qc,(2:Int))):=by
 unfold yK
 by_cases c:400<s.length
 ·rw[za (decide_eq_true (by omega)),if_pos c,z7]; rfl
 ·have hp:(strings_CutPrefix s [45]).run=some (r8 s [45],List.isPrefixOf [45] s):=rfl
  have hl:=XQ s [45]
  rw[z8 (decide_eq_false (by omega)),if_neg c,z6 hp]
  exact E5 _ (by omega) _
end Go.AM.Lf
namespace Go.AM.PL
theorem z6c(t:zf):∃ u r,t=u++r/\xx u=true/\(∀ c q,r=c::q->kY c=false):=by
 induction t with
 | nil=>exact⟨[],[],rfl,rfl,λc q h=>by cases h⟩
 | cons b t ih =>
  cases hb:kY b with
  | false=>exact⟨[],b::t,rfl,rfl,λc q h=>by cases h; exact hb⟩
  | true =>
   obtain⟨u,r,rfl,h1,h2⟩:=ih
   exact⟨b::u,r,rfl,by rw[jc,hb,h1]; rfl,h2⟩
end Go.AM.PL

namespace Go.AM.PL
theorem z2H(n:Nat):kY (N2 n)=true/\(N2 n).toNat-48=n % 10:=by
 have h:(N2 n).toNat=48+n % 10:=by unfold N2; rw[UInt8.toNat_ofNat']; omega
 exact⟨rH.2 (by omega),by omega⟩
theorem RT(n:Nat):xx (Eh n)=true/\wS (Eh n)=n:=by
 induction n using Nat.strongRecOn with
 | _ n ih =>
  by_cases h:n=0
  ·subst h; rw[nS]; exact⟨rfl,rfl⟩
  ·obtain⟨h1,h2⟩:=ih (n / 10) (by omega)
   obtain⟨h3,h4⟩:=z2H n
   rw[r7 h]
   refine⟨by rw[ca,h1,jc,h3]; rfl,?_⟩
   rw[Ke,h2,h4]; omega
theorem z0W(n:Nat):xx (pr n)=true/\wS (pr n)=n:=by
 unfold pr
 split
 ·rename_i h; subst h; exact⟨by decide,by decide⟩
 ·exact RT n
theorem Sd(k:Nat):xx (jS [48] k)=true/\wS (jS [48] k)=0:=by
 induction k with
 | zero=>exact⟨rfl,rfl⟩
 | succ k ih =>
  show xx ([48]++jS [48] k)=true/\wS ([48]++jS [48] k)=0
  rw[ca,ZT,ih.1,ih.2]
  exact⟨by decide,by show 0*_+0=0; omega⟩
end Go.AM.PL
namespace Go.AM.Lf
open PL
theorem Nd(s:zf)(k:Nat)(hk:k≠0)(hs:xx s=true):∃ w p,Lp s k=w++46::p/\xx w=true/\w≠[]/\xx p=true/\p.length=k/\wS w*10 ^ k+wS p=wS s/\w.length+k=max s.length (k+1):=by
 unfold Lp
 rw[if_neg hk]
 have hr:=Sd (k+1-s.length)
 have hl:=Zh (k+1-s.length)
 have hd:xx (jS [48] (k+1-s.length)++s)=true:=by rw[ca,hr.1,hs]; rfl
 have hv:wS (jS [48] (k+1-s.length)++s)=wS s:=by rw[ZT,hr.2]; omega
 have hlen:(jS [48] (k+1-s.length)++s).length=(k+1-s.length)+s.length:=by rw[List.length_append,hl]
 generalize jS [48] (k+1-s.length)++s=t at *
 refine⟨t.take (t.length-k),t.drop (t.length-k),by simp,?_,?_,?_,by simp; omega,?_,by simp; omega⟩
 ·exact List.all_eq_true.2 λx hx=>List.all_eq_true.1 hd x (List.mem_of_mem_take hx)
 ·intro z
  have:=congrArg List.length z
  simp at this; omega
 ·exact List.all_eq_true.2 λx hx=>List.all_eq_true.1 hd x (List.mem_of_mem_drop hx)
 ·have:=ZT (t.take (t.length-k)) (t.drop (t.length-k))
  rw[List.take_append_drop,hv,List.length_drop,show t.length-(t.length-k)=k by omega]at this
  exact this.symm
theorem KL(b:Bool)(N D:Nat)(hD:D≠0):∀ (f k:Nat) (s:zf),xc b N D k f=(s,true)->∃ j,k<=j/\j<k+f/\N*10 ^ j % D=0/\s=Lg b++Lp (pr (N*10 ^ j / D)) j
 | 0,k,s,h=>by unfold xc at h; cases h
 | f+1,k,s,h=>by
  unfold xc at h
  split at h
  ·rename_i c; cases h; exact⟨k,Nat.le_refl _,by omega,c,rfl⟩
  ·obtain⟨j,h1,h2,h3,h4⟩:=KL b N D hD f (k+1) s h
   exact⟨j,by omega,by omega,h3,h4⟩
theorem z0e{t:zf}{n d:Nat}(h:GJ t=some (n,d)):n<10 ^ t.length/\d<=10 ^ t.length:=by
 obtain⟨u,r,rfl,h1,h2⟩:=z6c t
 have hu:=GN h1
 cases r with
 | nil =>
  rw[List.append_nil,HT h1]at h
  split at h
  ·cases h
  ·cases h
   rw[List.append_nil]
   exact⟨hu,Nat.one_le_pow _ _ (by omega)⟩
 | cons c q =>
  rw[pj h1 c q (h2 c q rfl)]at h
  have hl:(u++c::q).length=u.length+q.length+1:=by simp; omega
  have mono:∀ {a b:Nat},a<=b->10 ^ a<=10 ^ b:=λh=>Nat.pow_le_pow_right (by omega) h
  split at h
  ·cases h
  ·split at h
   ·cases h
   ·rename_i hq
    have hd:xx q=true:=by cases hh:xx q with | true=>rfl | false=>exact absurd (.inr hh) hq
    have hq1:=GN hd
    rw[hl]
    split at h
    ·cases h
     refine⟨?_,mono (by omega)⟩
     have e:10 ^ (u.length+q.length)<=10 ^ (u.length+q.length+1):=mono (by omega)
     rw[Nat.pow_add]at e
     have:(wS u+1)*10 ^ q.length<=10 ^ u.length*10 ^ q.length:=Nat.mul_le_mul_right _ hu
     rw[Nat.add_mul,Nat.one_mul]at this
     omega
    ·split at h
     ·split at h
      ·cases h
      ·cases h
       have e1:10 ^ u.length<=10 ^ (u.length+q.length+1):=mono (by omega)
       have e2:10 ^ q.length<=10 ^ (u.length+q.length+1):=mono (by omega)
       omega
     ·cases h
theorem z8b:10 ^ 400<4294967296 ^ 42:=by decide +kernel
theorem Pu{n k:Nat}(h:n<=10 ^ k)(hk:k<=400):(zx n).length<=42 :=
 zR.2 (Nat.lt_of_le_of_lt (Nat.le_trans h (Nat.pow_le_pow_right (by omega) hk)) z8b)
theorem Xj{s:zf}{n d:Nat}(neg:Bool)(hs:s.length<=400)(h:Jv s=some (n,d)):wW 50 (j3 neg n d):=by
 have hl:=XQ s [45]
 obtain⟨h1,h2⟩:=z0e h
 exact EV _ _ _ _ (by omega) (Nat.le_trans (Pu (by omega) (by omega:(r8 s [45]).length<=400)) (by omega)) (Nat.le_trans (Pu h2 (by omega)) (by omega))
def tK{α:Type}(p:α->Bool)(i:Int):List α->Int
 | [] => -1
 | x::r=>if p x=true then i else tK p (i+1) r
end Go.AM.Lf
namespace Go.AM.T
theorem zi{α β:Type}(a:β)(t:T α):(zM (a=a) t).run=t.run:=zb rfl t
end Go.AM.T
namespace Go.AM.Lf
open PL
abbrev zcF:Ty:=.cons .str (.cons wO .nil)
abbrev ItT:=den zcF
theorem uN{α:Type}{l:List α}{k:Nat}(h:k<l.length)(d:α):nth l (k:Int) d=l[k]:=by simp[nth,h]
theorem XM(s:zf):(bytesOf s).length=s.length:=by unfold bytesOf; simp
theorem B5(s t:zf):bytesOf (s++t)=bytesOf s++bytesOf t:=by unfold bytesOf; simp
theorem HP(s:zf):qK (bytesOf s)=s:=by
 unfold qK bytesOf
 rw[List.map_map]
 conv=>rhs; rw[<- List.map_id s]
 refine List.map_congr_left λb _ => ?_
 simp[byteOf]
theorem Je(s:zf):∀ n∈bytesOf s,(0:Int)<=n/\n<256:=by
 intro n hn
 unfold bytesOf at hn
 obtain⟨b,_,rfl⟩:=List.mem_map.1 hn
 have:=b.toNat_lt
 omega
theorem vY(s b:zf)(h:b.length+s.length<=140737488355328):(q9 s () (bytesOf b)).run=some ((s.length:Int),(),bytesOf (b++s)):=by
 unfold q9 iu
 simp only[T.bind]
 rw[zL _ rfl rfl rfl,zb rfl,mh _ rfl rfl rfl (by simp only[XM]; omega),zL _ (by simp) rfl (by simp),zb (by simp),z7,B5]
theorem Jj(b:zf)(h:b.length<=140737488355328):(mB () (bytesOf b)).run=some (b,()):=by
 unfold mB TJ
 rw[zb ⟨Je b,by rw[XM]; exact h⟩,z7,HP]
def zbL(x:ItT):zf:=x.1++[32]++iv (norm x.2.1)++[10]
def XW(b:UInt8):Bool:=decide (97<=(b.toNat:Int))&&decide ((b.toNat:Int)<=122)
def ux(b:UInt8):Bool:=XW b||((decide (48<=(b.toNat:Int))&&decide ((b.toNat:Int)<=57))||((b.toNat:Int)==95))
def q7(s:zf):Bool:=match s with | []=>false | b::_=>decide (s.length<=24)&&(XW b&&s.all ux)
theorem nH(b:UInt8):(vg (b.toNat:Int)).run=some (ux b):=by
 have h1:(wJ (b.toNat:Int)).run=some (XW b):=rfl
 have h2:(xL (b.toNat:Int)).run=some (decide (48<=(b.toNat:Int))&&decide ((b.toNat:Int)<=57)):=rfl
 unfold vg ux
 rw[z6 h1]
 cases XW b with
 | true=>rw[zh,z7]; rfl
 | false =>
  rw[zg,z6 h2]
  cases(decide (48<=(b.toNat:Int))&&decide ((b.toNat:Int)<=57))with
  | true=>rw[zh,z7]; rfl
  | false=>rw[zg,z7]; rfl
theorem xI(s:zf):(xn s).run=some (q7 s):=by
 unfold xn
 cases s with
 | nil=>rfl
 | cons b r =>
  have e0:zl (b::r) []=false:=by rw[vx]; simp
  rw[e0]
  by_cases c:24<(b::r).length
  ·have:(T.ite false (.ret true) (.ite (decide ((24:Int)<((b::r).length:Int))) (.ret true) (.zM (qz (0:Int) (List.length (b::r)))<|T.bind (wJ (qp (b::r) (0:Int))) λr=>.ret (!r))):T Bool).run=some true:=by
    rw[zg,za (decide_eq_true (by omega)),z7]
   rw[z6 this,zh,z7]
   unfold q7
   rw[decide_eq_false (by omega)]; rfl
  ·have hb:qp (b::r) (0:Int)=(b.toNat:Int):=yv (s:=b::r) (k:=0) (by simp)
   have h1:(wJ (b.toNat:Int)).run=some (XW b):=rfl
   have:(T.ite false (.ret true) (.ite (decide ((24:Int)<((b::r).length:Int))) (.ret true) (.zM (qz (0:Int) (List.length (b::r)))<|T.bind (wJ (qp (b::r) (0:Int))) λr=>.ret (!r))):T Bool).run=some (!XW b):=by
    rw[zg,z8 (decide_eq_false (by omega)),zb (by refine⟨by omega,?_⟩; simp only[List.length_cons]; omega),hb,z6 h1,z7]
   rw[z6 this]
   unfold q7
   dsimp only
   rw[decide_eq_true (by omega),Bool.true_and]
   cases XW b with
   | false=>rw[za (by rfl),z7]; rfl
   | true =>
    rw[z8 (by rfl),Bool.true_and]
    have key:(ZQ (b::r) ((b::r).length:Int) 0).run=some (if(b::r).all ux=true then .inl ()else .inr false):=by
     refine T.pG (r:=kD (b::r) ((b::r).length:Int)) (b::r) (0:UInt8) (λ(_:Unit) i=>i) (λ_ _=>True) (λl _=>(if l.all ux=true then .inl ()else .inr false:Unit⊕Bool)) (λk _ x xs hk hx hm hd hI => ?_) (λ_ _ => ?_) (b:=()) trivial
     ·have hxk:(b::r)[k]=x:=by rw[<- hx]; unfold nth; rw[Int.toNat_natCast,List.getD_eq_getElem?_getD,List.getElem?_eq_getElem hk]; rfl
      have Cw:qp (b::r) (k:Int)=(x.toNat:Int):=by rw[yv hk,hxk]
      cases Xr:ux x with
      | true =>
       left
       refine⟨(),?_,trivial,?_⟩
       ·unfold kD
        rw[za (ua hk),zb (zW hk),Cw,z6 (nH x),Xr,z8 (by rfl),z7,fB k _ hk (by omega)]
       ·rw[List.all_cons,Xr,Bool.true_and]
      | false =>
       right
       unfold kD
       rw[za (ua hk),zb (zW hk),Cw,z6 (nH x),Xr,za (by rfl),z7,List.all_cons,Xr]
       rfl
     ·unfold kD
      rw[z8 (jy _),z7]; rfl
    rw[z6 key]
    cases h:(b::r).all ux with
    | true=>rfl
    | false=>rfl
theorem s9(l:List zf)(v:zf)(hl:l.length<=1000000000):(qT l v).run=some (PL.tK (λs=>zl v s) 0 l):=by
 have key:(kH l v (l.length:Int) 0).run=some (if PL.tK (λs=>zl v s) 0 l = -1 then .inl ()else .inr (PL.tK (λs=>zl v s) 0 l)):=by
  refine PL.tY (r:=qQ l v (l.length:Int)) l (zj .str) _ (λi h0 h hp => ?_) (λi h0 h hp => ?_) (λi h => ?_)
  ·unfold qQ
   rw[za (decide_eq_true h),zb ⟨h0,h⟩,za hp,z7]
  ·unfold qQ
   rw[za (decide_eq_true h),zb ⟨h0,h⟩,z8 hp,z7,zB (by omega) (by omega)]
  ·unfold qQ
   rw[z8 (decide_eq_false h),z7]
 unfold qT
 rw[z6 key]
 split<;>rename_i h
 ·rw[h]; rfl
 ·rfl
theorem lD{α:Type}(f:α->Nat)(l:List α):∀ x∈l,f x<=db f l:=by
 induction l with
 | nil=>intro x hx; cases hx
 | cons y l ih =>
  intro x hx
  show _<=f y+db f l
  rcases List.mem_cons.1 hx with rfl | hx
  ·omega
  ·have:=ih x hx; omega
theorem iE{α:Type}(f:α->Nat)(l:List α)(h:∀ x,1<=f x):l.length<=db f l:=by
 induction l with
 | nil=>simp
 | cons y l ih =>
  show _<=f y+db f l
  have:=h y
  simp; omega
mutual
/-- What an expression weighs. -/
def szE:Expr->Nat
 | .mk _ n s l=>3+s.length+8*n.2.1.length+8*n.2.2.1.length+szEs l
def szEs:List Expr->Nat
 | []=>0
 | e::r=>szE e+szEs r
end
mutual
theorem V1:∀ (e:Expr) (left:Int),0<=wtE e left->wtE e left=left-szE e
 | .mk _ n s l,left,h=>by
  have:=F4 l (left-3-s.length-8*n.2.1.length-8*n.2.2.1.length)
  simp only[wtE,szE]at h ⊢
  rw[this h]; omega
theorem F4:∀ (l:List Expr) (left:Int),0<=wtEs l left->wtEs l left=left-szEs l
 | [],left,h=>by simp[wtEs,szEs]
 | e::r,left,h=>by
  have h1:=V1 e left
  have h2:=F4 r (wtE e left)
  have h3:=(YI r (wtE e left)).1
  by_cases c:0<=left
  ·simp only[wtEs,szEs,if_pos c]at h ⊢
   rw[h2 h,h1 (by omega)]; omega
  ·simp only[wtEs,if_neg c]at h; omega
end
structure FB(f:Form):Prop where
 l1:f.1.length<=1048576
 l2:f.2.1.length<=1048576
 l3:f.2.2.1.length<=1048576
 l4:f.2.2.2.1.length<=1048576
 l5:f.2.2.2.2.1.length<=1048576
 l6:f.2.2.2.2.2.1.length<=1048576
 s:∀ x∈f.1,x.1.length<=1048576
 p:∀ x∈f.2.1,x.1.length<=1048576/\x.2.1.2.1.length<=1048576/\x.2.1.2.2.1.length<=1048576/\zm x.2.1.2.1/\zm x.2.1.2.2.1
 g:∀ x∈f.2.2.1,x.1.length<=1048576/\x.2.1.length<=1048576
 d:∀ x∈f.2.2.2.1,x.1.length<=1048576
 r:∀ x∈f.2.2.2.2.1,x.1.length<=1048576/\x.2.2.1.length<=1048576/\bkE x.2.2.2.1<=1048576/\bkE x.2.2.2.2.1<=1048576
 c:∀ x∈f.2.2.2.2.2.1,x.1.length<=1048576/\bkE x.2.2.2.1<=1048576/\bkE x.2.2.2.2.1<=1048576
theorem z3I{f:Form}(hw:wf zT f)(hb:bk zT f<=1048576):FB f:=by
 have e1:bk zT f=(db (bk zt) f.1+1)+((db (bk zw) f.2.1+1)+((db (bk zO) f.2.2.1+1)+((db (bk zy) f.2.2.2.1+1)+((db (bk zX) f.2.2.2.2.1+1)+((db (bk zD) f.2.2.2.2.2.1+1)+1))))):=rfl
 have b1:∀ x,bk zt x=(x.1.length+1)+(1+1):=λ_=>rfl
 have b2:∀ x,bk zw x=(x.1.length+1)+((1+((db (bk u32) x.2.1.2.1+1)+((db (bk u32) x.2.1.2.2.1+1)+1)))+1):=λ_=>rfl
 have b3:∀ x,bk zO x=(x.1.length+1)+((x.2.1.length+1)+1):=λ_=>rfl
 have b4:∀ x,bk zy x=(x.1.length+1)+(1+(1+(1+1))):=λ_=>rfl
 have b5:∀ x,bk zX x=(x.1.length+1)+(1+((x.2.2.1.length+1)+(bkE x.2.2.2.1+(bkE x.2.2.2.2.1+1)))):=λ_=>rfl
 have b6:∀ x,bk zD x=(x.1.length+1)+(1+(1+(bkE x.2.2.2.1+(bkE x.2.2.2.2.1+1)))):=λ_=>rfl
 have u1:∀ l:List Int,db (bk u32) l=l.length:=λl=>HA l
 have k1:=iE (bk zt) f.1 (λx=>by rw[b1]; omega)
 have k2:=iE (bk zw) f.2.1 (λx=>by rw[b2]; omega)
 have k3:=iE (bk zO) f.2.2.1 (λx=>by rw[b3]; omega)
 have k4:=iE (bk zy) f.2.2.2.1 (λx=>by rw[b4]; omega)
 have k5:=iE (bk zX) f.2.2.2.2.1 (λx=>by rw[b5]; omega)
 have k6:=iE (bk zD) f.2.2.2.2.2.1 (λx=>by rw[b6]; omega)
 rw[e1]at hb
 refine⟨by omega,by omega,by omega,by omega,by omega,by omega,λx hx => ?_,λx hx => ?_,λx hx => ?_,λx hx => ?_,λx hx => ?_,λx hx => ?_⟩
 ·have:=lD (bk zt) f.1 x hx; rw[b1]at this; omega
 ·have:=lD (bk zw) f.2.1 x hx
  rw[b2,u1,u1]at this
  have hwx:wf zw x:=hw.2.1 x hx
  obtain⟨r1,r2⟩:=PV hwx.2.1
  exact⟨by omega,by omega,by omega,r1,r2⟩
 ·have:=lD (bk zO) f.2.2.1 x hx; rw[b3]at this; exact⟨by omega,by omega⟩
 ·have:=lD (bk zy) f.2.2.2.1 x hx; rw[b4]at this; omega
 ·have:=lD (bk zX) f.2.2.2.2.1 x hx; rw[b5]at this; exact⟨by omega,by omega,by omega,by omega⟩
 ·have:=lD (bk zD) f.2.2.2.2.2.1 x hx; rw[b6]at this; exact⟨by omega,by omega,by omega⟩
def trimB(l:List Int):Bool:=zx (nv l)==l
def iA(a:Rat):Bool:=trimB a.2.1&&(trimB a.2.2.1&&(!(nv a.2.2.1==0)&&(!(a.1&&(nv a.2.1==0))&&(Nat.gcd (nv a.2.1) (nv a.2.2.1)==1))))
theorem j7{l:List Int}(h:zm l):trimB l=true↔XU l:=by
 unfold trimB
 constructor
 ·intro e
  have e:zx (nv l)=l:=by simpa using e
  rw[<- e]; exact rA _
 ·intro ht
  rw[sN h ht]; simp
theorem VX(l:List Int)(h:zm l)(hl:l.length<=1000000000):(eZ l).run=some (trimB l):=by
 unfold eZ
 cases l with
 | nil =>
  rw[zb (λh=>by simp at h),z7]
  have e:trimB []=true:=by unfold trimB; rw[show nv []=0 from rfl,qo]; rfl
  rw[e]; rfl
 | cons x r =>
  obtain⟨n,hn⟩:∃ n,(x::r).length=n+1:=⟨r.length,rfl⟩
  have ew:zF (((x::r).length:Int)-1)=(n:Int):=by rw[hn,zB (by omega) (by omega)]; omega
  have Dh:n<(x::r).length:=by omega
  have e0:(((x::r).length:Int)==0)=false:=by rw[hn]; simp; omega
  have hg:(x::r).getLast? = some ((x::r)[n]):=by
   rw[List.getLast?_eq_getElem?,hn,Nat.add_sub_cancel,List.getElem?_eq_getElem Dh]
  rw[zb (λ_=>by rw[ew]; exact zW Dh),z7,ew,uN Dh,e0,Bool.false_or]
  congr 1
  cases hq:((x::r)[n] != 0)with
  | true =>
   symm
   rw[j7 h]
   intro y hy
   rw[hg]at hy
   cases hy
   simpa using hq
  | false =>
   symm
   rw[Bool.eq_false_iff]
   intro ht
   have:=(j7 h).1 ht _ hg
   simp at hq
   exact this hq
theorem tB(a:Rat)(h:wW 100000000 a):(tx a).run=some (iA a):=by
 obtain⟨h1,h2,h3,h4⟩:=h
 unfold tx iA
 have n1:=VX a.2.1 h1 (by omega)
 have n2:=VX a.2.2.1 h2 (by omega)
 have hzD:trimB a.2.2.1=true->(((a.2.2.1.length:Int))==0)=(nv a.2.2.1==0):=λht=>by
  have e:zx (nv a.2.2.1)=a.2.2.1:=sN h2 ((j7 h2).1 ht)
  conv=>lhs; rw[<- e]
  rw[iU]
  cases q:decide (nv a.2.2.1=0)<;>simp_all
 have hzN:trimB a.2.1=true->(((a.2.1.length:Int))==0)=(nv a.2.1==0):=λht=>by
  have e:zx (nv a.2.1)=a.2.1:=sN h1 ((j7 h1).1 ht)
  conv=>lhs; rw[<- e]
  rw[iU]
  cases q:decide (nv a.2.1=0)<;>simp_all
 have hg:=XB a.2.1 a.2.2.1 h1 h2 (by omega) (by omega)
 have W8:(yB 1).run=some (zx 1):=yC 1 (by omega)
 have hc:∀ g:Nat,(zx g).length<=100000001->(mU (zx g) (zx 1)).run=some (rV g 1):=λg hl=>by
  have:=oq (zx g) (zx 1) (zn _) (zn _) (by omega) (by rw[fD]; simp)
  rwa [zS,zS]at this
 have head:∀ b:Bool,((T.bind (eZ a.2.1) λr=>.ite (!r) (.ret true) (T.bind (eZ a.2.2.1) λr1=>.ite (!r1) (.ret true) (.ite ((a.2.2.1.length:Int)==(0:Int)) (.ret true) (.ite a.1 (.ret ((a.2.1.length:Int)==(0:Int))) (.ret false))))):T Bool).run =
   some (!(trimB a.2.1&&(trimB a.2.2.1&&(!(nv a.2.2.1==0) && !(a.1&&(nv a.2.1==0)))))):=λ_=>by
  rw[z6 n1]
  cases t1:trimB a.2.1 with
  | false=>rfl
  | true =>
   rw[z8 (by rfl),z6 n2]
   cases t2:trimB a.2.2.1 with
   | false=>rfl
   | true =>
    rw[z8 (by rfl),hzD t2]
    cases nv a.2.2.1==0 with
    | true=>rfl
    | false =>
     rw[zg,hzN t1]
     cases a.1 with
     | true=>rw[zh,z7]; cases nv a.2.1==0<;>rfl
     | false=>rfl
 rw[z6 (head true)]
 cases hb:(trimB a.2.1&&(trimB a.2.2.1&&(!(nv a.2.2.1==0) && !(a.1&&(nv a.2.1==0)))))with
 | false =>
  rw[za (by rfl),z7]
  congr 1
  generalize (Nat.gcd (nv a.2.1) (nv a.2.2.1)==1)=g
  revert hb
  cases trimB a.2.1<;>cases trimB a.2.2.1<;>cases(nv a.2.2.1==0)<;>cases a.1<;>cases(nv a.2.1==0)<;>simp
 | true =>
  rw[z8 (by rfl),z6 hg,z6 W8]
  have hle:(zx (Nat.gcd (nv a.2.1) (nv a.2.2.1))).length<=100000001:=by
   simp only[Bool.and_eq_true,Bool.not_eq_true',beq_eq_false_iff_ne]at hb
   have hd:0<nv a.2.2.1:=Nat.pos_of_ne_zero hb.2.2.1
   have m1:=Vu (Nat.gcd_le_right (nv a.2.1) hd)
   have m2:=zQ h2
   omega
  rw[z6 (hc _ hle),z7]
  congr 1
  have hgc:(rV (Nat.gcd (nv a.2.1) (nv a.2.2.1)) 1==0)=(Nat.gcd (nv a.2.1) (nv a.2.2.1)==1):=by
   generalize Nat.gcd (nv a.2.1) (nv a.2.2.1)=g
   unfold rV
   by_cases q1:g<1
   ·rw[if_pos q1]; simp; omega
   ·by_cases q2:1<g
    ·rw[if_neg q1,if_pos q2]; simp; omega
    ·have:g=1:=by omega
     subst this; rfl
  rw[hgc]
  revert hb
  generalize (Nat.gcd (nv a.2.1) (nv a.2.2.1)==1)=g
  cases trimB a.2.1<;>cases trimB a.2.2.1<;>cases(nv a.2.2.1==0)<;>cases a.1<;>cases(nv a.2.1==0)<;>simp
def kT(a:Rat):Bool:=decide (16<(norm a).2.1.length)||decide (16<(norm a).2.2.1.length)
theorem sk(a:Rat)(h:wW 100000000 a):(dF a).run=some (kT a):=by
 unfold dF kT
 rw[z6 (nD a h),z7]
 congr 2
 ·exact decide_eq_decide.2 (by omega)
 ·exact decide_eq_decide.2 (by omega)
def kP(a:Rat):Bool:=iA a&&(!a.1&&(!kT a&&(xc (norm a).1 (nv (norm a).2.1) (nv (norm a).2.2.1) 0 61).2))
def xW(a:Rat):Bool := !a.1&&(a.2.1.isEmpty&&(a.2.2.1.isEmpty||iA a))
def ot(k:Int):Int:=if k=1\/k=2 then 0 else if k=7 then 1 else if k=3\/k=4\/k=5\/k=6 then 2 else -1
def jF(e:Expr):Bool:=((e.kids.length:Int)==ot e.kind)&&(if e.kind=1 then kP e.num&&zl e.name []else if e.kind=2 then xW e.num&&q7 e.name else xW e.num&&zl e.name [])
mutual
def w6:Expr->Nat
 | .mk _ _ _ l=>1+wX l
def wX:List Expr->Nat
 | []=>0
 | e::r=>w6 e+wX r
end
mutual
def vN(deep:Nat):Expr->Bool
 | .mk k n s l=>decide (deep<32)&&(jF (.mk k n s l)&&jz (deep+1) l)
def jz(deep:Nat):List Expr->Bool
 | []=>true
 | e::r=>vN deep e&&jz deep r
end
theorem oO:∀ (l:List Expr),l.length<=wX l
 | []=>Nat.le_refl _
 | .mk _ _ _ k::r=>by
  have:=oO r
  unfold wX w6
  simp only[List.length_cons]; omega
theorem cn{e:Expr}:∀ {l:List Expr},e∈l->w6 e<=wX l
 | [],h=>by cases h
 | x::r,h=>by
  unfold wX
  rcases List.mem_cons.1 h with rfl | h
  ·omega
  ·have:=cn h; omega
mutual
/-- How many nodes are looked at. -/
def JH(deep:Nat):Expr->Nat
 | .mk k n s l=>1+if(decide (deep<32)&&jF (.mk k n s l))=true then iX (deep+1) l else 0
def iX(deep:Nat):List Expr->Nat
 | []=>0
 | e::r=>JH deep e+if vN deep e=true then iX deep r else 0
end
mutual
theorem Fa:∀ (e:Expr) (deep:Nat),JH deep e<=w6 e
 | .mk k n s l,deep=>by
  have:=Vt l (deep+1)
  unfold JH w6
  split<;>omega
theorem Vt:∀ (l:List Expr) (deep:Nat),iX deep l<=wX l
 | [],_=>Nat.le_refl _
 | e::r,deep=>by
  have h1:=Fa e deep
  have h2:=Vt r deep
  unfold iX wX
  split<;>omega
end
mutual
theorem Oz:∀ (e:Expr),3*w6 e<=szE e
 | .mk k n s l=>by
  have:=Iv l
  unfold w6 szE
  omega
theorem Iv:∀ (l:List Expr),3*wX l<=szEs l
 | []=>Nat.le_refl _
 | e::r=>by
  have h1:=Oz e
  have h2:=Iv r
  unfold wX szEs
  omega
end
def jt(a:Rat):Prop:=wW 100 a
mutual
def allOk:Expr->Prop
 | .mk _ n _ l=>jt n/\allOks l
def allOks:List Expr->Prop
 | []=>True
 | e::r=>allOk e/\allOks r
end
theorem yy{l:List Expr}(h:allOks l):∀ e∈l,allOk e:=by
 induction l with
 | nil=>intro e he; cases he
 | cons x r ih =>
  intro e he
  rcases List.mem_cons.1 he with rfl | he
  ·exact h.1
  ·exact ih h.2 e he
mutual
theorem o7:∀ (e:Expr),wfE e->szE e<=800->allOk e
 | .mk k n s l,hw,hs=>by
  unfold szE at hs
  have hw':wf Qj (Expr.mk k n s l).N5:=(FQ _).2 hw
  obtain⟨_,hn,_,hl,_⟩:=hw'
  obtain⟨r1,r2⟩:=PV hn
  have r1:zm n.2.1:=r1
  have r2:zm n.2.2.1:=r2
  refine⟨⟨r1,r2,by omega,by omega⟩,K0 l (λe he=>hl e he) (by omega)⟩
theorem K0:∀ (l:List Expr),(∀ e∈l,wfE e)->szEs l<=800->allOks l
 | [],_,_=>trivial
 | e::r,hw,hs=>by
  unfold szEs at hs
  exact⟨o7 e (hw e List.mem_cons_self) (by omega),K0 r (λx hx=>hw x (List.mem_cons_of_mem _ hx)) (by omega)⟩
end
theorem DP(a:Rat)(h:jt a):(cp a).run=some (xW a):=by
 unfold cp xW
 have hr:=tB a (ct h (by omega))
 have e:∀ l:List Int,(((l.length:Int))==0)=l.isEmpty:=λl=>by cases l<;>simp; omega
 rw[e,e]
 cases a.1 with
 | true=>rfl
 | false =>
  rw[za (by rfl)]
  cases a.2.1.isEmpty with
  | false=>rfl
  | true =>
   rw[zh]
   cases a.2.2.1.isEmpty with
   | true=>rfl
   | false=>rw[zg,z6 hr,z7]; rfl
theorem LM(a:Rat)(h:jt a):(lF a).run=some (kP a):=by
 unfold lF kP
 have hr:=tB a (ct h (by omega))
 have hl:=sk a (ct h (by omega))
 have he:=so a (ct h (by omega))
 have head:((T.bind (tx a) λr=>.ite (!r) (.ret true) (.ite a.1 (.ret true) (T.bind (dF a) λr1=>.ret r1))):T Bool).run=some (!(iA a&&(!a.1 && !kT a))):=by
  rw[z6 hr]
  cases iA a with
  | false=>rfl
  | true =>
   rw[z8 (by rfl)]
   cases a.1 with
   | true=>rfl
   | false=>rw[zg,z6 hl,z7]; simp
 rw[z6 head]
 cases q:(iA a&&(!a.1 && !kT a))with
 | false =>
  rw[za (by rfl),z7]
  congr 1
  revert q
  cases iA a<;>cases a.1<;>cases kT a<;>simp
 | true =>
  rw[z8 (by rfl),z6 he]
  generalize xc (norm a).1 (nv (norm a).2.1) (nv (norm a).2.2.1) 0 61=x
  obtain⟨x1,x2⟩:=x
  dsimp only
  rw[z7]
  congr 1
  revert q
  cases iA a<;>cases a.1<;>cases kT a<;>simp
theorem RI(k:Int):(r9 k).run=some (ot k):=by
 unfold r9 ot
 by_cases h1:k=1
 ·subst h1; rfl
 by_cases h2:k=2
 ·subst h2; rfl
 by_cases h7:k=7
 ·subst h7; rfl
 by_cases h3:k=3
 ·subst h3; rfl
 by_cases h4:k=4
 ·subst h4; rfl
 by_cases h5:k=5
 ·subst h5; rfl
 by_cases h6:k=6
 ·subst h6; rfl
 ·simp[h1,h2,h3,h4,h5,h6,h7]
theorem Uv(e:Expr)(h:jt e.num):(yV e).run=some (jF e):=by
 unfold yV jF
 rw[z6 (RI _)]
 have hN:=LM e.num h
 have h0:=DP e.num h
 have hn:=xI e.name
 cases q:((e.kids.length:Int)==ot e.kind)with
 | false=>rw[za (by rw[bne,q]; rfl),z7]; rfl
 | true =>
  rw[z8 (by rw[bne,q]; rfl),Bool.true_and]
  by_cases h1:e.kind=1
  ·rw[if_pos h1,za (by rw[h1]; rfl),z6 hN]
   cases kP e.num with
   | true=>rw[zh,z7]; rfl
   | false=>rw[zg,z7]; rfl
  ·rw[if_neg h1,z8 (by simpa using h1)]
   by_cases h2:e.kind=2
   ·rw[if_pos h2,za (by rw[h2]; rfl),z6 h0]
    cases xW e.num with
    | true=>rw[zh,z6 hn,z7]; rfl
    | false=>rw[zg,z7]; rfl
   ·rw[if_neg h2,z8 (by simpa using h2),z6 h0]
    cases xW e.num with
    | true=>rw[zh,z7]; rfl
    | false=>rw[zg,z7]; rfl
theorem z0Q(e:Expr)(deep left:Nat)(h:allOk e)(hl:w6 e<=left)(fh:left<=100000)(hd:deep<=32):(jP e (deep:Int) (left:Int)).run=some (vN deep e,((left-JH deep e:Nat):Int)):=by
 unfold jP
 refine cY (λx:Expr×Int×Int=>allOk x.1/\0<=x.2.1/\x.2.1<=32/\(w6 x.1:Int)<=x.2.2/\x.2.2<=100000) (λx=>w6 x.1) (λx=>(vN x.2.1.toNat x.1,((x.2.2.toNat-JH x.2.1.toNat x.1:Nat):Int))) (λx hx g hg => ?_) (x:=(e,(deep:Int),(left:Int))) ⟨h,by dsimp only; omega,by dsimp only; omega,by dsimp only; omega,by dsimp only; omega⟩
 obtain⟨e,d,lf⟩:=x
 obtain⟨ha,Mn,EB,hn,hlf⟩:=hx
 dsimp only at ha Mn EB hn hlf
 obtain⟨D,rfl⟩:∃ D:Nat,d=(D:Int):=⟨d.toNat,by omega⟩
 obtain⟨L,rfl⟩:∃ L:Nat,lf=(L:Int):=⟨lf.toNat,by omega⟩
 cases e with | mk k n s kids =>
 obtain⟨Wf,B7⟩:=ha
 have Lu:w6 (.mk k n s kids)=1+wX kids:=by unfold w6; rfl
 rw[Lu]at hn
 have hv:=Vt kids (D+1)
 have ew:zF ((L:Int)-1)=((L-1:Nat):Int):=by rw[zB (by omega) (by omega)]; omega
 have OW:=Uv (.mk k n s kids) Wf
 simp only[Int.toNat_natCast]
 unfold gW
 rw[ew]
 have head:((.ite (decide (((L-1:Nat):Int)<(0:Int))) (.ret (true,((L-1:Nat):Int))) (.ite (decide ((32:Int)<=(D:Int))) (.ret (true,((L-1:Nat):Int))) (T.bind (yV (.mk k n s kids)) λr=>.ret ((!r),((L-1:Nat):Int))))):T (Bool×Int)).run =
   some (!(decide (D<32)&&jF (.mk k n s kids)),((L-1:Nat):Int)):=by
  rw[z8 (decide_eq_false (by omega))]
  by_cases c:D<32
  ·rw[z8 (decide_eq_false (by omega)),z6 OW,z7,decide_eq_true c,Bool.true_and]
  ·rw[za (decide_eq_true (by omega)),z7,decide_eq_false c]; rfl
 rw[z6 head]
 dsimp only
 unfold vN JH
 cases q:(decide (D<32)&&jF (.mk k n s kids))with
 | false =>
  rw[za (by rfl),z7,if_neg (by simp),<- Bool.and_assoc,q,Bool.false_and]
 | true =>
  rw[z8 (by rfl),if_pos rfl,<- Bool.and_assoc,q,Bool.true_and]
  have hD:D<32:=by
   simp only[Bool.and_eq_true,decide_eq_true_eq]at q
   exact q.1
  have ed:zF ((D:Int)+1)=((D+1:Nat):Int):=by rw[zB (by omega) (by omega)]; omega
  have loop:∃ z,(zP (λy0 y1 y2=>g (y0,y1,y2)) kids (kids.length:Int) (((D:Int),()),((0:Int),((L-1:Nat):Int)))).run=some z /\
    ((jz (D+1) kids=true/\z=.inl ((L-1-iX (D+1) kids:Nat):Int))\/(jz (D+1) kids=false/\∃ i:Int,0<=i/\z=.inr (i,((L-1-iX (D+1) kids:Nat):Int)))):=by
   refine T.qL (r:=zC (λy0 y1 y2=>g (y0,y1,y2)) kids (kids.length:Int)) (λst:(Int×Unit)×Int×Int=>∃ (j B:Nat),st=(((D:Int),()),(j:Int),(B:Int))/\j<=kids.length/\B<=100000/\wX (kids.drop j)<=B /\
    B-iX (D+1) (kids.drop j)=L-1-iX (D+1) kids/\jz (D+1) (kids.drop j)=jz (D+1) kids) (λst=>kids.length-st.2.1.toNat) _ (λst xM => ?_) ⟨0,L-1,rfl,by omega,by omega,by rw[List.drop_zero]; omega,by rw[List.drop_zero],by rw[List.drop_zero]⟩
   obtain⟨j,B,rfl,hj,hB,hnB,hvB,YS⟩:=xM
   by_cases c:j<kids.length
   ·have hdr:kids.drop j=kids[j]::kids.drop (j+1):=List.drop_eq_getElem_cons c
    rw[hdr]at hnB hvB YS
    rw[show wX (kids[j]::kids.drop (j+1))=w6 kids[j]+wX (kids.drop (j+1))from rfl]at hnB
    rw[show iX (D+1) (kids[j]::kids.drop (j+1))=JH (D+1) kids[j]+if vN (D+1) kids[j]=true then iX (D+1) (kids.drop (j+1))else 0 from rfl]at hvB
    rw[show jz (D+1) (kids[j]::kids.drop (j+1))=(vN (D+1) kids[j]&&jz (D+1) (kids.drop (j+1)))from rfl]at YS
    have ZK:=yy B7 _ (List.getElem_mem c)
    have Nf:=Fa kids[j] (D+1)
    have Eo:w6 kids[j]<1+wX kids:=by have:=cn (List.getElem_mem c); omega
    have W3:=hg (kids[j],((D+1:Nat):Int),(B:Int)) ⟨ZK,by dsimp only; omega,by dsimp only; omega,by dsimp only; omega,by dsimp only; omega⟩ (by dsimp only; rw[Lu]; exact Eo)
    dsimp only at W3
    simp only[Int.toNat_natCast]at W3
    have hf:(j8 (λy0 y1 y2=>g (y0,y1,y2)) kids[j] (D:Int) (B:Int)).run=some (!vN (D+1) kids[j],((B-JH (D+1) kids[j]:Nat):Int)):=by
     unfold j8
     rw[ed,z6 W3]; rfl
    unfold zC
    dsimp only
    rw[za (ua c),zb (zW c),uN c,z6 hf]
    dsimp only
    cases hk:vN (D+1) kids[j]with
    | true =>
     left
     rw[hk,if_pos rfl]at hvB
     rw[hk,Bool.true_and]at YS
     rw[z8 (by rfl),z7]
     have hlen:=oO kids
     rw[fB j _ c (by omega)]
     refine⟨_,rfl,⟨j+1,B-JH (D+1) kids[j],rfl,c,by omega,by omega,by omega,YS⟩,?_⟩
     simp only[Int.toNat_natCast]
     omega
    | false =>
     right
     rw[hk,if_neg (by simp),Nat.add_zero]at hvB
     rw[hk,Bool.false_and]at YS
     rw[za (by rfl),z7]
     exact⟨_,rfl,.inr ⟨YS.symm,(j:Int),by omega,by rw[hvB]⟩⟩
   ·right
    have hj2:j=kids.length:=by omega
    subst hj2
    rw[List.drop_length]at hvB YS
    unfold zC
    dsimp only
    rw[z8 (jy _),z7]
    exact⟨_,rfl,.inl ⟨YS.symm,by rw[<- hvB]; rfl⟩⟩
  obtain⟨z,hz,hc⟩:=loop
  have hcf:(q8 (λy0 y1 y2=>g (y0,y1,y2)) kids ((D:Int),()) ((L-1:Nat):Int)).run=some (!jz (D+1) kids,((L-1-iX (D+1) kids:Nat):Int)):=by
   unfold q8 qC
   rcases hc with⟨ho,rfl⟩ | ⟨ho,i,hi,rfl⟩
   ·have:((T.bind (zP (λy0 y1 y2=>g (y0,y1,y2)) kids (kids.length:Int) (((D:Int),()),((0:Int),((L-1:Nat):Int))))<|Sum.elim (λv2=>.ret ((-1:Int),v2)) (λ(x2,v3)=>.ret (x2,v3))):T (Int×Int)).run=some (-1,((L-1-iX (D+1) kids:Nat):Int)):=by
     rw[z6 hz]; rfl
    rw[z6 this,ho]; rfl
   ·have:((T.bind (zP (λy0 y1 y2=>g (y0,y1,y2)) kids (kids.length:Int) (((D:Int),()),((0:Int),((L-1:Nat):Int))))<|Sum.elim (λv2=>.ret ((-1:Int),v2)) (λ(x2,v3)=>.ret (x2,v3))):T (Int×Int)).run=some (i,((L-1-iX (D+1) kids:Nat):Int)):=by
     rw[z6 hz]; rfl
    rw[z6 this,ho,z7,decide_eq_true hi]; rfl
  rw[show Expr.kids (.mk k n s kids)=kids from rfl,z6 hcf]
  dsimp only
  rw[z7,Bool.not_not]
  congr 3
  omega
theorem z5U(e:Expr)(h:allOk e)(hn:w6 e<=256):(uz e).run=some (vN 0 e):=by
 unfold uz
 have:=z0Q e 0 256 h hn (by omega) (by omega)
 have this:(jP e 0 256).run=some (vN 0 e,((256-JH 0 e:Nat):Int)):=this
 rw[z6 this]; rfl
def dd(acc:List zf)(xs:List zf):List zf:=xs.foldl (λb x=>if x∈b then b else b++[x]) acc
end Go.AM.Lf
namespace Go.AM.PL
def QT:zf->List zf×zf
 | []=>([],[])
 | b::r=>if b=10 then([]::(QT r).1,(QT r).2)else match(QT r).1 with
  | []=>([],b::(QT r).2)
  | l::ls=>((b::l)::ls,(QT r).2)
end Go.AM.PL
namespace Go.AM.Lf
open PL
def Rq(u:zf):Option Rat:=if 400<u.length then none else(Jv u).map λp=>j3 (List.isPrefixOf [45] u) p.1 p.2
theorem z08{u:zf}{r:Rat}(h:Rq u=some r):wW 50 r:=by
 unfold Rq at h
 split at h
 ·cases h
 ·rename_i c
  obtain⟨p,hp,rfl⟩:=Option.map_eq_some_iff.1 h
  exact Xj _ (by omega) hp
def zaO(t:zf):Option ItT:=match Rq (uD t [32]).2.1 with
 | some r=>if q7 (uD t [32]).1=true then some ((uD t [32]).1,r,())else none
 | none=>none
def OX:List zf->Option (List ItT)
 | []=>some []
 | t::r=>match zaO t with
  | some x=>(OX r).map (x :: ·)
  | none=>none
theorem sX{s:zf}(h:q7 s=true):s.length<=24/\s.all ux=true:=by
 cases s with
 | nil=>cases h
 | cons b r =>
  unfold q7 at h
  simp only[Bool.and_eq_true,decide_eq_true_eq]at h
  exact⟨h.1,h.2.2⟩
theorem vp(s:zf):(vZ s).run=some (q7 s):=by
 have hL:∀ b:UInt8,(k8 (b.toNat:Int)).run=some (XW b):=λ_=>rfl
 have hD:∀ b:UInt8,(lY (b.toNat:Int)).run=some (decide (48<=(b.toNat:Int))&&decide ((b.toNat:Int)<=57)):=λ_=>rfl
 unfold vZ
 cases s with
 | nil=>rfl
 | cons b r =>
  by_cases c:24<(b::r).length
  ·have:(T.ite (decide (((b::r).length:Int)<(1:Int))) (.ret true) (.ite (decide ((24:Int)<((b::r).length:Int))) (.ret true) (.zM (qz (0:Int) (List.length (b::r)))<|T.bind (k8 (qp (b::r) (0:Int))) λr=>.ret (!r))):T Bool).run=some true:=by
    rw[z8 (decide_eq_false (by omega)),za (decide_eq_true (by omega)),z7]
   rw[z6 this,zh,z7]
   unfold q7
   rw[decide_eq_false (by omega)]; rfl
  ·have hb:qp (b::r) (0:Int)=(b.toNat:Int):=yv (s:=b::r) (k:=0) (by simp)
   have:(T.ite (decide (((b::r).length:Int)<(1:Int))) (.ret true) (.ite (decide ((24:Int)<((b::r).length:Int))) (.ret true) (.zM (qz (0:Int) (List.length (b::r)))<|T.bind (k8 (qp (b::r) (0:Int))) λr=>.ret (!r))):T Bool).run=some (!XW b):=by
    rw[z8 (decide_eq_false (by simp only[List.length_cons]; omega)),z8 (decide_eq_false (by omega)),zb (by refine⟨by omega,?_⟩; simp only[List.length_cons]; omega),hb,z6 (hL b),z7]
   rw[z6 this]
   unfold q7
   dsimp only
   rw[decide_eq_true (by omega),Bool.true_and]
   cases hbl:XW b with
   | false=>rw[za (by rfl),z7]; rfl
   | true =>
    rw[z8 (by rfl),Bool.true_and]
    have hbi:ux b=true:=by unfold ux; rw[hbl]; rfl
    have key:(Zs (b::r) 1).run=some (if r.all ux=true then .inl ()else .inr false):=by
     have O5:=vD (r:=kh (b::r)) (λi=>∃ k:Nat,i=((k+1:Nat):Int)/\k<=r.length) (λi=>((b::r).length:Int).toNat-i.toNat) (λi=>if(r.drop (i.toNat-1)).all ux=true then .inl ()else .inr false) (λi hi => ?_) (s:=1) ⟨0,rfl,by omega⟩
     ·exact O5
     ·obtain⟨k,rfl,hk⟩:=hi
      have ek:((k+1:Nat):Int).toNat-1=k:=by omega
      by_cases q:k<r.length
      ·have hq:k+1<(b::r).length:=by simp only[List.length_cons]; omega
       have Cw:qp (b::r) ((k+1:Nat):Int)=(r[k].toNat:Int):=by rw[yv hq]; rfl
       have z3X:r.drop k=r[k]::r.drop (k+1):=List.drop_eq_getElem_cons q
       have Xr:((.zM (qz ((k+1:Nat):Int) (List.length (b::r)))<|T.bind (k8 (qp (b::r) ((k+1:Nat):Int))) λr1 =>
         .ite (!r1) (.zM (qz ((k+1:Nat):Int) (List.length (b::r)))<|T.bind (lY (qp (b::r) ((k+1:Nat):Int))) λr2 =>
           .ite (!r2) (.zM (qz ((k+1:Nat):Int) (List.length (b::r)))<|.ret ((qp (b::r) ((k+1:Nat):Int)) != (95:Int))) (.ret false)) (.ret false)):T Bool).run=some (!ux r[k]):=by
        rw[zb (zW hq),Cw,z6 (hL _)]
        unfold ux
        cases XW r[k]with
        | true=>rfl
        | false =>
         rw[za (by rfl),zb (zW hq),z6 (hD _)]
         cases(decide (48<=(r[k].toNat:Int))&&decide ((r[k].toNat:Int)<=57))with
         | true=>rfl
         | false=>rw[za (by rfl),zb (zW hq),z7]; rfl
       cases hik:ux r[k]with
       | true =>
        left
        refine⟨((k+1+1:Nat):Int),?_,⟨k+1,rfl,q⟩,by simp only[List.length_cons]; omega,?_⟩
        ·unfold kh
         rw[za (ua hq),z6 Xr,hik,z8 (by rfl),z7,fB (k+1) _ hq (by omega)]
        ·rw[ek,z3X,List.all_cons,hik,Bool.true_and,show((k+1+1:Nat):Int).toNat-1=k+1 by omega]
       | false =>
        right
        unfold kh
        rw[za (ua hq),z6 Xr,hik,za (by rfl),z7,ek,z3X,List.all_cons,hik]
        rfl
      ·right
       have cH:k=r.length:=by omega
       unfold kh
       rw[z8 (decide_eq_false (by simp only[List.length_cons]; omega)),z7,ek,cH,List.drop_length]; rfl
    rw[z6 key,List.all_cons,hbi,Bool.true_and]
    cases h:r.all ux with
    | true=>rfl
    | false=>rfl
theorem LP(s:zf)(c:UInt8):(uD s [c]).1.length<=s.length/\(uD s [c]).2.1.length<=s.length:=by
 by_cases h:c∈s
 ·obtain⟨w,q,rfl,hw⟩:=VC h
  rw[V6 c w q hw]
  simp only[List.length_append,List.length_cons]
  exact⟨by omega,by omega⟩
 ·rw[sP c s h]; simp
def ze0(l:List ItT):zf:=l.flatMap zbL
def VJ(s:zf):List ItT×Int:=match OX (QT s).1 with
 | some ys=>if ze0 ys=s then(ys,0)else([],2)
 | none=>([],2)
theorem zf3(a b:Rat):((a.1==b.1)&&((a.2.1==b.2.1)&&(a.2.2.1==b.2.2.1)))=true↔a=b:=by
 obtain⟨a1,a2,a3,⟨⟩⟩:=a
 obtain⟨b1,b2,b3,⟨⟩⟩:=b
 simp only[Bool.and_eq_true,beq_iff_eq,Prod.mk.injEq,and_true]
theorem HL(a:Rat)(h1:zm a.2.1)(h2:zm a.2.2.1):iA a=true↔norm a=a:=by
 unfold iA norm
 obtain⟨b,N,D,⟨⟩⟩:=a
 dsimp only at h1 h2 ⊢
 simp only[Bool.and_eq_true,Bool.not_eq_true',beq_eq_false_iff_ne,beq_iff_eq,Bool.and_eq_false_imp]
 constructor
 ·rintro⟨t1,t2,hd,hn,hg⟩
  have eN:zx (nv N)=N:=sN h1 ((j7 h1).1 t1)
  have eD:zx (nv D)=D:=sN h2 ((j7 h2).1 t2)
  unfold j3
  by_cases c:nv N=0
  ·rw[if_pos (.inl c)]
   rw[c,Nat.gcd_zero_left]at hg
   rw[c,qo]at eN
   rw[hg,fD]at eD
   cases b with
   | true=>exact absurd c (hn rfl)
   | false=>rw[<- eN,<- eD]
  ·rw[if_neg (by rintro(h | h); exact c h; exact hd h),hg,Nat.div_one,Nat.div_one,eN,eD]
 ·intro e
  unfold j3 at e
  by_cases c:nv N=0\/nv D=0
  ·rw[if_pos c]at e
   simp only[Prod.mk.injEq,and_true]at e
   obtain⟨rfl,rfl,rfl⟩:=e
   refine⟨by rw[j7 h1]; exact QP,?_,by decide,by simp,by decide⟩
   rw[j7 h2,<- fD]; exact rA _
  ·rw[if_neg c]at e
   simp only[Prod.mk.injEq,and_true,true_and]at e
   obtain⟨e1,e2⟩:=e
   simp only[not_or]at c
   have v1:nv N=nv N / Nat.gcd (nv N) (nv D):=by conv=>lhs; rw[<- e1,zS]
   refine⟨by rw[j7 h1,<- e1]; exact rA _,by rw[j7 h2,<- e2]; exact rA _,c.2,λ_=>c.1,?_⟩
   have hp:0<nv N:=Nat.pos_of_ne_zero c.1
   by_cases g:Nat.gcd (nv N) (nv D)=1
   ·exact g
   ·have hg0:0<Nat.gcd (nv N) (nv D):=Nat.gcd_pos_of_pos_left _ hp
    have:=Nat.div_lt_self hp (by omega:1<Nat.gcd (nv N) (nv D))
    omega
theorem mS(a b:List Int)(la:a.length<=1000000000):(yz a b).run=some (a==b):=by
 unfold yz
 by_cases hlen:a.length=b.length
 ·have key:(ik a b 0).run=some (if a=b then .inl ()else .inr false):=by
   have h:=vD (r:=ja a b) (λi=>∃ k:Nat,i=(k:Int)/\k<=a.length) (λi=>a.length-i.toNat) (λi=>if a.drop i.toNat=b.drop i.toNat then .inl ()else .inr false) (λi hi => ?_) (s:=0) ⟨0,rfl,by omega⟩
   ·unfold ik; simpa using h
   ·obtain⟨k,rfl,hk⟩:=hi
    by_cases c:k<a.length
    ·have cb:k<b.length:=by omega
     have ea:a.drop k=a[k]::a.drop (k+1):=List.drop_eq_getElem_cons c
     have eb:b.drop k=b[k]::b.drop (k+1):=List.drop_eq_getElem_cons cb
     have ek:((k:Nat):Int).toNat=k:=rfl
     have z8c:(a.drop k=b.drop k)↔(a[k]=b[k]/\a.drop (k+1)=b.drop (k+1)):=by rw[ea,eb,List.cons.injEq]
     have ek1:((k+1:Nat):Int).toNat=k+1:=rfl
     by_cases q:a[k]=b[k]
     ·left
      refine⟨((k+1:Nat):Int),?_,⟨k+1,rfl,c⟩,by omega,?_⟩
      ·unfold ja
       rw[za (ua c),zb (zW c),zb (zW cb),uN c,uN cb,z8 (by simp[q]),z7,fB k _ c (by omega)]
      ·simp only[ek,ek1,z8c,q,true_and]
     ·right
      unfold ja
      rw[za (ua c),zb (zW c),zb (zW cb),uN c,uN cb,za (by simp[q]),z7,ek,if_neg (by rw[z8c]; exact λh=>q h.1)]
    ·right
     have cH:k=a.length:=by omega
     unfold ja
     rw[z8 (decide_eq_false (by omega)),z7,cH]
     simp[hlen]
  rw[z8 (by rw[hlen]; simp),z6 key]
  by_cases e:a=b
  ·rw[if_pos e,e]; simp
  ·rw[if_neg e]
   have:(a==b)=false:=by simpa using e
   rw[this]; rfl
 ·have e:(a==b)=false:=by
   rw[beq_eq_false_iff_ne]
   intro e; exact hlen (by rw[e])
  rw[za (by simp; omega),z7,e]
theorem Xi(a:Rat)(h:wW 100000000 a):(Q3 a).run=some (iA a):=by
 unfold Q3
 have hb:iA a=((a.1==(norm a).1)&&((a.2.1==(norm a).2.1)&&(a.2.2.1==(norm a).2.2.1))):=by
  rw[Bool.eq_iff_iff,HL a h.1 h.2.1,zf3]
  exact⟨λe=>e.symm,λe=>e.symm⟩
 rw[z6 (dB a h),hb]
 cases a.1==(norm a).1 with
 | false=>rfl
 | true =>
  rw[zh,z6 (mS _ _ (by have:=h.2.2.1; omega))]
  cases a.2.1==(norm a).2.1 with
  | false=>rfl
  | true=>rw[zh,z6 (mS _ _ (by have:=h.2.2.2; omega)),z7]; rfl
theorem UW(a:Rat)(h:wW 100000000 a):(lP a).run=some (kT a):=by
 unfold lP kT
 rw[z6 (dB a h),z7]
 congr 2
 ·exact decide_eq_decide.2 (by omega)
 ·exact decide_eq_decide.2 (by omega)
theorem rW(a:Rat)(h:wW 100000000 a):(dC a).run=some (iA a && !kT a):=by
 unfold dC
 rw[z6 (Xi a h)]
 cases iA a with
 | false=>rfl
 | true=>rw[zh,z6 (UW a h),z7]; rfl
theorem Ng(a:Rat)(h:jt a):(jJ a).run=some (xW a):=by
 unfold jJ xW
 have hr:=Xi a (ct h (by omega))
 have e:∀ l:List Int,(((l.length:Int))==0)=l.isEmpty:=λl=>by cases l<;>simp; omega
 rw[e,e]
 cases a.1 with
 | true=>rfl
 | false =>
  rw[za (by rfl)]
  cases a.2.1.isEmpty with
  | false=>rfl
  | true =>
   rw[zh]
   cases a.2.2.1.isEmpty with
   | true=>rfl
   | false=>rw[zg,z6 hr,z7]; rfl
theorem RL(g:Expr×Int->T Bool)(kids:List Expr)(k0:Int)(n0:Rat)(s0:zf)(D:Nat)(hl:kids.length<=100000)
  (hg:∀ e∈kids,(g (e,zF (((D+1:Nat):Int)+1))).run=some (vN (D+1) e)) :
  (oz (λy0 y1=>g (y0,y1)) ((D+1:Nat):Int) (.mk k0 n0 s0 kids) (kids.length:Int) 0).run=some (if jz (D+1) kids=true then .inl ()else .inr false):=by
 refine T.pG (r:=cg (λy0 y1=>g (y0,y1)) ((D+1:Nat):Int) (.mk k0 n0 s0 kids) (kids.length:Int)) kids (zj .expr) (λ(_:Unit) i=>i) (λ_ _=>True) (λl _=>(if jz (D+1) l=true then .inl ()else .inr false:Unit⊕Bool)) (λk _ x xs hk hx hm hd hI => ?_) (λ_ _ => ?_) (b:=()) trivial
 ·have Gw:=hg x hm
  have ek:Expr.kids (.mk k0 n0 s0 kids)=kids:=rfl
  unfold cg
  rw[za (ua hk),ek,zb (zW hk),hx,z6 Gw]
  cases q:vN (D+1) x with
  | true =>
   left
   refine⟨(),?_,trivial,?_⟩
   ·rw[z8 (by rfl),z7,fB k _ hk (by omega)]
   ·show _=(if(vN (D+1) x&&jz (D+1) xs)=true then _ else _)
    rw[q,Bool.true_and]
  | false =>
   right
   rw[za (by rfl),z7]
   show _=some (Sum.inr (if(vN (D+1) x&&jz (D+1) xs)=true then _ else _))
   rw[q,Bool.false_and]; rfl
 ·unfold cg
  rw[z8 (jy _),z7]; rfl
theorem z0S(e:Expr)(deep:Nat)(h:allOk e)(hn:w6 e<=100000)(hd:deep<=32):(o5 e ((deep+1:Nat):Int)).run=some (vN deep e):=by
 unfold o5
 refine cY (λx:Expr×Int=>allOk x.1/\w6 x.1<=100000/\1<=x.2/\x.2<=33) (λx=>w6 x.1) (λx=>vN (x.2.toNat-1) x.1) (λx hx g hg => ?_) (x:=(e,((deep+1:Nat):Int))) ⟨h,hn,by dsimp only; omega,by dsimp only; omega⟩
 obtain⟨e,d⟩:=x
 obtain⟨ha,hn,Mn,EB⟩:=hx
 dsimp only at ha hn Mn EB
 obtain⟨D,rfl⟩:∃ D:Nat,d=((D+1:Nat):Int):=⟨d.toNat-1,by omega⟩
 cases e with | mk k n s kids =>
 obtain⟨Wf,B7⟩:=ha
 have Lu:w6 (.mk k n s kids)=1+wX kids:=rfl
 have hlen:=oO kids
 have FR:(((D+1:Nat):Int)).toNat-1=D:=by omega
 dsimp only
 rw[FR]
 unfold mq
 show _=some (decide (D<32)&&(jF (.mk k n s kids)&&jz (D+1) kids))
 by_cases c:D<32
 ·rw[z8 (decide_eq_false (by omega)),decide_eq_true c,Bool.true_and]
  have hN:=pz n (ct Wf (by omega))
  have hG:=rW n (ct Wf (by omega))
  have hB:=Ng n Wf
  have hNm:=vp s
  have e0:∀ m:Nat,(((m:Int))==0)=(((m:Int))==(0:Int)):=λ_=>rfl
  have W3:∀ e∈kids,(g (e,zF (((D+1:Nat):Int)+1))).run=some (vN (D+1) e):=λe he=>by
   have hm:=cn he
   have ew:zF (((D+1:Nat):Int)+1)=((D+1+1:Nat):Int):=by rw[zB (by omega) (by omega)]; omega
   have:=hg (e,((D+1+1:Nat):Int)) ⟨yy B7 e he,by dsimp only; omega,by dsimp only; omega,by dsimp only; omega⟩ (by dsimp only; rw[Lu]; omega)
   rw[ew,this]
   dsimp only
   rw[show(((D+1+1:Nat):Int)).toNat-1=D+1 by omega]
  have O5:=RL g kids k n s D (by omega) W3
  have zbP:Expr.kids (.mk k n s kids)=kids:=rfl
  have za5:Expr.kind (.mk k n s kids)=k:=rfl
  have zbK:Expr.name (.mk k n s kids)=s:=rfl
  have z7h:Expr.num (.mk k n s kids)=n:=rfl
  have tail:∀ kd:Int,(T.bind (.ite ((Nat.cast (List.length kids):Int) != kd) (.ret true) (.ite (!(zl s ([]:zf))) (.ret true) (T.bind (jJ n) λr4=>.ret (!r4))):T Bool) λx1 =>
     .ite x1 (.ret false) (T.bind (oz (λy0 y1=>g (y0,y1)) ((D+1:Nat):Int) (.mk k n s kids) kd (0:Int))<|Sum.elim (λ_=>.ret true) (λx2=>.ret x2)):T Bool).run =
     some (((kids.length:Int)==kd)&&((xW n&&zl s [])&&jz (D+1) kids)):=by
   intro kd
   have head:(.ite ((Nat.cast (List.length kids):Int) != kd) (.ret true) (.ite (!(zl s ([]:zf))) (.ret true) (T.bind (jJ n) λr4=>.ret (!r4))):T Bool).run=some (!(((kids.length:Int)==kd)&&(xW n&&zl s []))):=by
    cases q:((kids.length:Int)==kd)with
    | false=>rw[za (by rw[bne,q]; rfl)]; rfl
    | true =>
     rw[z8 (by rw[bne,q]; rfl)]
     cases zl s []with
     | false=>rw[za (by rfl),z7,Bool.and_false]; rfl
     | true=>rw[z8 (by rfl),z6 hB,z7,Bool.and_true,Bool.true_and]
   rw[z6 head]
   cases q:((kids.length:Int)==kd)with
   | false=>rfl
   | true =>
    have hkd:kd=(kids.length:Int):=by
     have:(kids.length:Int)=kd:=by simpa using q
     exact this.symm
    subst hkd
    rw[Bool.true_and,Bool.true_and]
    cases(xW n&&zl s [])with
    | false=>rfl
    | true =>
     rw[z8 (by rfl),z6 O5,Bool.true_and]
     cases jz (D+1) kids<;>rfl
  unfold jF ot
  rw[zbP,za5,zbK,z7h]
  by_cases h1:k=1
  ·subst h1
   have head:(T.bind (bL n) λ(r,ok)=>.ite ((Nat.cast (List.length kids):Int)==(0:Int)) (.ite (zl s ([]:zf)) (T.bind (dC n) λr1=>.ite r1 (.ite (!n.1) (.ret (.inr ok)) (.ret (.inr false))) (.ret (.inr false))) (.ret (.inr false))) (.ret (.inr false)):T (Int⊕Bool)).run=some (.inr (((kids.length:Int)==0)&&(kP n&&zl s []))):=by
    rw[z6 hN]
    unfold kP
    generalize xc (norm n).1 (nv (norm n).2.1) (nv (norm n).2.2.1) 0 61=x
    obtain⟨x1,x2⟩:=x
    dsimp only
    cases(Nat.cast (List.length kids):Int)==(0:Int)with
    | false=>rfl
    | true =>
     rw[zh]
     cases zl s []with
     | false=>rw[zg,z7,Bool.and_false]; rfl
     | true =>
      rw[zh,z6 hG]
      cases iA n<;>cases kT n<;>cases n.1<;>cases x2<;>rfl
   refine(z6 (a:=.inr (((kids.length:Int)==0)&&(kP n&&zl s []))) ?_ _).trans ?_
   ·rw[za (by rfl)]; exact head
   ·rw[Sum.elim_inr,z7,if_pos (.inl rfl),if_pos rfl]
    cases q:((kids.length:Int)==0)with
    | false=>rfl
    | true =>
     have:kids=[]:=List.eq_nil_of_length_eq_zero (by have:(kids.length:Int)=0:=(by simpa using q); omega)
     subst this
     show _=some (true&&(kP n&&zl s [])&&true)
     rw[Bool.and_true]
  ·by_cases h2:k=2
   ·subst h2
    have head:(.ite ((Nat.cast (List.length kids):Int)==(0:Int)) (T.bind (vZ s) λr2=>.ite r2 (T.bind (jJ n) λr3=>.ret (.inr r3)) (.ret (.inr false))) (.ret (.inr false)):T (Int⊕Bool)).run=some (.inr (((kids.length:Int)==0)&&(xW n&&q7 s))):=by
     cases(Nat.cast (List.length kids):Int)==(0:Int)with
     | false=>rfl
     | true =>
      rw[zh,z6 hNm]
      cases q7 s with
      | false=>rw[zg,z7,Bool.and_false]; rfl
      | true=>rw[zh,z6 hB,z7,Bool.and_true,Bool.true_and]
    refine(z6 (a:=.inr (((kids.length:Int)==0)&&(xW n&&q7 s))) ?_ _).trans ?_
    ·rw[z8 (by rfl),za (by rfl)]; exact head
    ·rw[Sum.elim_inr,z7,if_pos (.inr rfl),if_neg (by decide),if_pos rfl]
     cases q:((kids.length:Int)==0)with
     | false=>rfl
     | true =>
      have:kids=[]:=List.eq_nil_of_length_eq_zero (by have:(kids.length:Int)=0:=(by simpa using q); omega)
      subst this
      show _=some (true&&(xW n&&q7 s)&&true)
      rw[Bool.and_true]
   ·have k1:(k==1)=false:=by simpa using h1
    have k2:(k==2)=false:=by simpa using h2
    have fin:∀ kd:Int,(if k=7 then(1:Int)else if k=3\/k=4\/k=5\/k=6 then 2 else -1)=kd->((((kids.length:Int)==kd)&&((xW n&&zl s [])&&jz (D+1) kids))) =
      ((((kids.length:Int)==(if k=1\/k=2 then(0:Int)else if k=7 then 1 else if k=3\/k=4\/k=5\/k=6 then 2 else -1))&&(if k=1 then kP n&&zl s []else if k=2 then xW n&&q7 s else xW n&&zl s []))&&jz (D+1) kids):=by
     intro kd hkd
     rw[if_neg (by rintro(h | h); exact h1 h; exact h2 h),hkd,if_neg h1,if_neg h2]
     simp only[Bool.and_assoc]
    by_cases h7:k=7
    ·refine(z6 (a:=.inl 1) ?_ _).trans ?_
     ·rw[z8 k1,z8 k2,za (by simpa using h7),z7]
     ·rw[Sum.elim_inl,<- fin 1 (by rw[if_pos h7])]; exact tail 1
    ·have k7:(k==7)=false:=by simpa using h7
     by_cases h3:k=3
     ·refine(z6 (a:=.inl 2) ?_ _).trans ?_
      ·rw[z8 k1,z8 k2,z8 k7,za (by simpa using h3),z7]
      ·rw[Sum.elim_inl,<- fin 2 (by rw[if_neg h7,if_pos (.inl h3)])]; exact tail 2
     ·have k3:(k==3)=false:=by simpa using h3
      by_cases h4:k=4
      ·refine(z6 (a:=.inl 2) ?_ _).trans ?_
       ·rw[z8 k1,z8 k2,z8 k7,z8 k3,za (by simpa using h4),z7]
       ·rw[Sum.elim_inl,<- fin 2 (by rw[if_neg h7,if_pos (.inr (.inl h4))])]; exact tail 2
      ·have k4:(k==4)=false:=by simpa using h4
       by_cases h5:k=5
       ·refine(z6 (a:=.inl 2) ?_ _).trans ?_
        ·rw[z8 k1,z8 k2,z8 k7,z8 k3,z8 k4,za (by simpa using h5),z7]
        ·rw[Sum.elim_inl,<- fin 2 (by rw[if_neg h7,if_pos (.inr (.inr (.inl h5)))])]; exact tail 2
       ·have k5:(k==5)=false:=by simpa using h5
        by_cases h6:k=6
        ·refine(z6 (a:=.inl 2) ?_ _).trans ?_
         ·rw[z8 k1,z8 k2,z8 k7,z8 k3,z8 k4,z8 k5,za (by simpa using h6),z7]
         ·rw[Sum.elim_inl,<- fin 2 (by rw[if_neg h7,if_pos (.inr (.inr (.inr h6)))])]; exact tail 2
        ·have k6:(k==6)=false:=by simpa using h6
         refine(z6 (a:=.inr false) ?_ _).trans ?_
         ·rw[z8 k1,z8 k2,z8 k7,z8 k3,z8 k4,z8 k5,z8 k6,z7]
         ·rw[Sum.elim_inr,z7,<- fin (-1) (by rw[if_neg h7,if_neg (by rintro(h | h | h | h)<;>contradiction)])]
          have:((kids.length:Int) == -1)=false:=by simp
          rw[this]; rfl
 ·rw[za (decide_eq_true (by omega)),z7,decide_eq_false c]; rfl
theorem US(e:Expr)(hb:bkE e<=1000000000):(mf e).run=some ((w6 e:Nat):Int):=by
 unfold mf
 refine cY (λx:Expr=>bkE x<=1000000000) (λx=>bkE x) (λx=>((w6 x:Nat):Int)) (λx hx g hg => ?_) (x:=e) hb
 have hk:=QW x
 have hkl:=Bv x.kids
 have ndb:∀ (l:List Expr),wX l<=bkEs l:=by
  have both:∀ n,(∀ e:Expr,bkE e<=n->w6 e<=bkE e):=by
   intro n
   induction n using Nat.strongRecOn with
   | _ n ih =>
    intro e he
    cases e with | mk k m s l =>
    have hl:∀ l':List Expr,bkEs l'<n->wX l'<=bkEs l':=by
     intro l'
     induction l' with
     | nil=>intro _; exact Nat.le_refl _
     | cons y r ihr =>
      intro h
      unfold bkEs at h ⊢
      unfold wX
      have h1:=ih (bkE y) (by omega) y (Nat.le_refl _)
      have h2:=ihr (by omega)
      omega
    have h3:bkEs l<bkE (.mk k m s l):=QW (.mk k m s l)
    have:=hl l (by omega)
    unfold w6
    omega
  intro l
  induction l with
  | nil=>exact Nat.le_refl _
  | cons y r ihr =>
   unfold wX bkEs
   have:=both (bkE y) y (Nat.le_refl _)
   omega
 have loop:(sw (λy0=>g y0) x (1,0)).run=some ((1+wX x.kids:Nat):Int):=by
  have key:=Kf (r:=y7 (λy0=>g y0) x) x.kids (zj .expr) (λ(b:Nat) i=>(((b:Nat):Int),i)) (λb r=>b+wX r<=1+wX x.kids/\∀ y∈r,y∈x.kids) (λr b=>((b+wX r:Nat):Int)) ?_ ?_ (b:=1) ⟨Nat.le_refl _,λy hy=>hy⟩
  ·exact key
  ·rintro b y ys i h0 hi hy ⟨h1,h2⟩
   have hm:=Hl (h2 y List.mem_cons_self)
   have hr:=hg y (by omega) (by omega)
   have Lu:=ndb x.kids
   have e1:wX (y::ys)=w6 y+wX ys:=rfl
   rw[e1]at h1
   refine .inl ⟨b+w6 y,?_,⟨by omega,λz hz=>h2 z (List.mem_cons_of_mem _ hz)⟩,by rw[e1,Nat.add_assoc]⟩
   unfold y7
   dsimp only
   rw[za (decide_eq_true hi),zb ⟨h0,hi⟩,hy,z6 hr,z7,zB (x:=i+1) (by omega) (by omega),zB (by omega) (by omega)]
   rfl
  ·rintro b _
   unfold y7
   dsimp only
   rw[z8 (jy _),z7]; rfl
 unfold dy
 rw[z6 loop,z7]
 cases x with | mk k n s kids=>rfl
theorem Cs(e:Expr)(h:allOk e)(hb:bkE e<=1000000)(hn:w6 e<=256):(dv e).run=some (vN 0 e):=by
 unfold dv
 have h1:(o5 e 1).run=some (vN 0 e):=z0S e 0 h (by omega) (by omega)
 rw[z6 h1]
 cases vN 0 e with
 | false=>rfl
 | true=>rw[zh,z6 (US e (by omega)),z7,decide_eq_true (by omega)]
def qu(k:Int):Int:=if k=3\/k=4 then 1 else if k=5\/k=6 then 2 else if k=7 then 3 else 4
def Hb(k:Int):zf:=if k=3 then[32,43,32]else if k=4 then[32,45,32]else if k=5 then[32,42,32]else if k=6 then[32,47,32]else[]
def lH(b:Bool)(s:zf):zf:=if b=true then[40]++s++[41]else s
def Qn(k:Int):List (Int×zf)->zf
 | [a]=>[45]++lH (decide (a.1<3)) a.2
 | [a,b]=>lH (decide (a.1<qu k)) a.2++Hb k++lH (decide (b.1<qu k+1)) b.2
 | _=>[]
mutual
def prE:Expr->zf
 | .mk k n s l=>if k=1 then(xc (norm n).1 (nv (norm n).2.1) (nv (norm n).2.2.1) 0 61).1 else if k=2 then s else Qn k (prL l)
def prL:List Expr->List (Int×zf)
 | []=>[]
 | e::r=>(qu e.kind,prE e)::prL r
end
theorem hH(b:Bool)(s:zf):(lH b s).length<=s.length+2:=by unfold lH; split<;>simp<;>omega
theorem Kd(k:Int):(Hb k).length<=3:=by unfold Hb; (repeat' split)<;>simp
theorem LC(n:Rat)(h:jt n):(xc (norm n).1 (nv (norm n).2.1) (nv (norm n).2.2.1) 0 61).1.length<=6000:=by
 have hn:=di (k:=100) (by omega) h
 have hd:=VW n.1 (nv n.2.1) (nv n.2.2.1)
 have hd:nv (norm n).2.2.1≠0:=hd
 rcases hx:xc (norm n).1 (nv (norm n).2.1) (nv (norm n).2.2.1) 0 61 with⟨s,b⟩
 cases b with
 | true =>
  obtain⟨j,h1,h2,h3,rfl⟩:=KL _ _ _ hd 61 0 s hx
  have l1:=zQ hn.1
  have l2:=hn.2.2.1
  have l3:=pO j
  have l4:=Xc (nv (norm n).2.1) (10 ^ j)
  have l5:=Vu (Nat.div_le_self (nv (norm n).2.1*10 ^ j) (nv (norm n).2.2.1))
  have l6:=dW (nv (norm n).2.1*10 ^ j / nv (norm n).2.2.1) 162 (by omega)
  have l7:(Lg (norm n).1).length<=1:=by unfold Lg; split<;>simp
  dsimp only
  rw[List.length_append]
  by_cases hj:j=0
  ·subst hj
   unfold Lp
   rw[if_pos rfl]
   omega
  ·obtain⟨w,p,e,_,_,_,hp,_,hw⟩:=Nd (pr (nv (norm n).2.1*10 ^ j / nv (norm n).2.2.1)) j hj (z0W _).1
   rw[e,List.length_append,List.length_cons]
   omega
 | false =>
  have:∀ (f k:Nat) (s:zf),xc (norm n).1 (nv (norm n).2.1) (nv (norm n).2.2.1) k f=(s,false)->s=[]:=by
   intro f
   induction f with
   | zero=>intro k s h; unfold xc at h; cases h; rfl
   | succ f ih =>
    intro k s h
    unfold xc at h
    split at h
    ·cases h
    ·exact ih _ _ h
  rw[this 61 0 s hx]; simp
theorem Zz{d:Nat}{k:Int}{n:Rat}{s:zf}{l:List Expr}(h:vN d (.mk k n s l)=true):((l.length:Int)=ot k)/\jz (d+1) l=true:=by
 have h:(decide (d<32)&&(jF (.mk k n s l)&&jz (d+1) l))=true:=h
 simp only[Bool.and_eq_true]at h
 obtain⟨_,h1,h2⟩:=h
 unfold jF at h1
 simp only[Bool.and_eq_true]at h1
 exact⟨eq_of_beq h1.1,h2⟩
theorem fQ:∀ (m:Nat) (e:Expr) (d:Nat),w6 e<=m->vN d e=true->allOk e->(prE e).length<=2000*szE e:=by
 intro m
 induction m with
 | zero=>intro e d hm; cases e; unfold w6 at hm; omega
 | succ m ih =>
  intro e d hm ho ha
  cases e with | mk k n s l =>
  obtain⟨hk,hl⟩:=Zz ho
  obtain⟨hn,nB⟩:=ha
  have Lu:w6 (.mk k n s l)=1+wX l:=rfl
  have uU:szE (.mk k n s l)=3+s.length+8*n.2.1.length+8*n.2.2.1.length+szEs l:=rfl
  rw[Lu]at hm
  rw[uU]
  show(if k=1 then(xc (norm n).1 (nv (norm n).2.1) (nv (norm n).2.2.1) 0 61).1 else if k=2 then s else Qn k (prL l)).length<=_
  by_cases h1:k=1
  ·rw[if_pos h1]; have:=LC n hn; omega
  ·rw[if_neg h1]
   by_cases h2:k=2
   ·rw[if_pos h2]; omega
   ·rw[if_neg h2]
    match l,hl,nB,hm with
    | [],_,_,_=>show(Qn k []).length<=_; unfold Qn; simp
    | [a],hl,nB,hm =>
     have ha':vN (d+1) a=true:=by
      have:(vN (d+1) a&&jz (d+1) [])=true:=hl
      simp only[Bool.and_eq_true]at this; exact this.1
     have:=ih a (d+1) (by have:wX [a]=w6 a+0:=rfl; omega) ha' nB.1
     have e1:szEs [a]=szE a+0:=rfl
     have hp:=hH (decide (qu a.kind<3)) (prE a)
     show([45]++lH (decide (qu a.kind<3)) (prE a)).length<=_
     rw[List.length_append,List.length_singleton,e1]; omega
    | [a,b],hl,nB,hm =>
     have Y5:vN (d+1) a=true/\vN (d+1) b=true:=by
      have:(vN (d+1) a&&(vN (d+1) b&&jz (d+1) []))=true:=hl
      simp only[Bool.and_eq_true]at this; exact⟨this.1,this.2.1⟩
     have e0:wX [a,b]=w6 a+(w6 b+0):=rfl
     have h3:=ih a (d+1) (by omega) Y5.1 nB.1
     have h4:=ih b (d+1) (by omega) Y5.2 nB.2.1
     have e1:szEs [a,b]=szE a+(szE b+0):=rfl
     have hp:=hH (decide (qu a.kind<qu k)) (prE a)
     have hq:=hH (decide (qu b.kind<qu k+1)) (prE b)
     have hm':=Kd k
     show(lH (decide (qu a.kind<qu k)) (prE a)++Hb k++lH (decide (qu b.kind<qu k+1)) (prE b)).length<=_
     rw[List.length_append,List.length_append,e1]; omega
    | a::b::c::r,_,_,_=>show(Qn k _).length<=_; unfold prL prL prL Qn; simp
theorem Yd(e:Expr):(br e).run=some (qu e.kind):=by
 unfold br qu
 generalize e.kind=k
 by_cases h3:k=3
 ·subst h3; rfl
 by_cases h4:k=4
 ·subst h4; rfl
 by_cases h5:k=5
 ·subst h5; rfl
 by_cases h6:k=6
 ·subst h6; rfl
 by_cases h7:k=7
 ·subst h7; rfl
 ·simp[h3,h4,h5,h6,h7]
theorem z0C(k:Int):(pe k).run=some (qu k):=by
 unfold pe qu
 by_cases h3:k=3
 ·subst h3; rfl
 by_cases h4:k=4
 ·subst h4; rfl
 by_cases h5:k=5
 ·subst h5; rfl
 by_cases h6:k=6
 ·subst h6; rfl
 by_cases h7:k=7
 ·subst h7; rfl
 ·simp[h3,h4,h5,h6,h7]
theorem tr(g:Expr->T zf)(e:Expr)(least:Int)(t:zf)(hg:(g e).run=some t)(hl:t.length<=1000000000000):(yY (λy0=>g y0) e least).run=some (lH (decide (qu e.kind<least)) t):=by
 unfold yY lH
 rw[z6 (Yd e)]
 cases decide (qu e.kind<least)with
 | true=>rw[zh,z6 hg,zp _ (by simp; omega),zp _ (by simp[jZ]; omega),z7,if_pos rfl]; rfl
 | false=>rw[zg,z6 hg,z7,if_neg (by simp)]
theorem G9{k:Int}{l:List Expr}(hk:(l.length:Int)=ot k)(h1:k≠1)(h2:k≠2):(k=7/\∃ a,l=[a])\/((k=3\/k=4\/k=5\/k=6)/\∃ a b,l=[a,b]):=by
 unfold ot at hk
 rw[if_neg (by rintro(h | h); exact h1 h; exact h2 h)]at hk
 by_cases h7:k=7
 ·rw[if_pos h7]at hk
  match l,hk with
  | [a],_=>exact .inl ⟨h7,a,rfl⟩
  | [],hk=>simp at hk
  | _::_::_,hk=>simp at hk; omega
 ·rw[if_neg h7]at hk
  by_cases h:k=3\/k=4\/k=5\/k=6
  ·rw[if_pos h]at hk
   match l,hk with
   | [a,b],_=>exact .inr ⟨h,a,b,rfl⟩
   | [],hk=>simp at hk
   | [_],hk=>simp at hk
   | _::_::_::_,hk=>simp at hk; omega
  ·rw[if_neg h]at hk; omega
theorem Ml(e:Expr)(d:Nat)(ho:vN d e=true)(ha:allOk e)(hs:szE e<=1000000):(lV e).run=some (prE e):=by
 unfold lV
 refine cY (λx:Expr=>(∃ d,vN d x=true)/\allOk x/\szE x<=1000000) (λx=>w6 x) (λx=>prE x) (λx hx g hg => ?_) (x:=e) ⟨⟨d,ho⟩,ha,hs⟩
 obtain⟨⟨d,ho⟩,ha,hs⟩:=hx
 cases x with | mk k n s l =>
 obtain⟨hk,hl⟩:=Zz ho
 obtain⟨hn,nB⟩:=ha
 have Lu:w6 (.mk k n s l)=1+wX l:=rfl
 have uU:szE (.mk k n s l)=3+s.length+8*n.2.1.length+8*n.2.2.1.length+szEs l:=rfl
 have hE:=so n (ct hn (by omega))
 have z4G:prE (.mk k n s l)=if k=1 then(xc (norm n).1 (nv (norm n).2.1) (nv (norm n).2.2.1) 0 61).1 else if k=2 then s else Qn k (prL l):=rfl
 rw[z4G]
 unfold dt
 rw[show Expr.kind (.mk k n s l)=k from rfl,show Expr.kids (.mk k n s l)=l from rfl,show Expr.num (.mk k n s l)=n from rfl,show Expr.name (.mk k n s l)=s from rfl]
 have Pc:=Yd (.mk k n s l)
 rw[show Expr.kind (.mk k n s l)=k from rfl]at Pc
 by_cases h1:k=1
 ·rw[if_pos h1]
  refine(z6 (a:=.inr (xc (norm n).1 (nv (norm n).2.1) (nv (norm n).2.2.1) 0 61).1) ?_ _).trans rfl
  rw[za (by simpa using h1),z6 hE,z7]
 have k1:(k==1)=false:=by simpa using h1
 by_cases h2:k=2
 ·rw[if_neg h1,if_pos h2]
  refine(z6 (a:=.inr s) ?_ _).trans rfl
  rw[z8 k1,za (by simpa using h2),z7]
 have k2:(k==2)=false:=by simpa using h2
 rw[if_neg h1,if_neg h2]
 rcases G9 hk h1 h2 with⟨h7,a,rfl⟩ | ⟨Pk,a,b,rfl⟩
 ·have ha':vN (d+1) a=true:=by
   have:(vN (d+1) a&&jz (d+1) [])=true:=hl
   simp only[Bool.and_eq_true]at this; exact this.1
  have e0:wX [a]=w6 a+0:=rfl
  have e1:szEs [a]=szE a+0:=rfl
  have hr:=hg a ⟨⟨_,ha'⟩,nB.1,by omega⟩ (by omega)
  have hlen:=fQ (w6 a) a (d+1) (Nat.le_refl _) ha' nB.1
  have hp:=tr g a 3 (prE a) hr (by omega)
  have XO:=hH (decide (qu a.kind<3)) (prE a)
  refine(z6 (a:=.inr (Qn k (prL [a]))) ?_ _).trans rfl
  rw[z8 k1,z8 k2,za (by simpa using h7),zb ⟨by omega,by simp⟩,show nth [a] (0:Int) (zj .expr)=a from rfl,z6 hp,zp _ (by simp; omega),z7]
  rfl
 ·have Y5:vN (d+1) a=true/\vN (d+1) b=true:=by
   have:(vN (d+1) a&&(vN (d+1) b&&jz (d+1) []))=true:=hl
   simp only[Bool.and_eq_true]at this; exact⟨this.1,this.2.1⟩
  have e0:wX [a,b]=w6 a+(w6 b+0):=rfl
  have e1:szEs [a,b]=szE a+(szE b+0):=rfl
  have ra:=hg a ⟨⟨_,Y5.1⟩,nB.1,by omega⟩ (by omega)
  have rb:=hg b ⟨⟨_,Y5.2⟩,nB.2.1,by omega⟩ (by omega)
  have la:=fQ (w6 a) a (d+1) (Nat.le_refl _) Y5.1 nB.1
  have lb:=fQ (w6 b) b (d+1) (Nat.le_refl _) Y5.2 nB.2.1
  have Cw:zF (qu k+1)=qu k+1:=by
   have:qu k=1\/qu k=2\/qu k=3\/qu k=4:=by unfold qu; (repeat' split)<;>simp
   rw[zB (by omega) (by omega)]
  have pa:=tr g a (qu k) (prE a) ra (by omega)
  have pb:=tr g b (qu k+1) (prE b) rb (by omega)
  have qa:=hH (decide (qu a.kind<qu k)) (prE a)
  have qb:=hH (decide (qu b.kind<qu k+1)) (prE b)
  have hm:=Kd k
  have k7:(k==7)=false:=by rw[beq_eq_false_iff_ne]; omega
  refine(z6 (a:=.inl (Hb k)) ?_ _).trans ?_
  ·rw[z8 k1,z8 k2,z8 k7]
   rcases Pk with rfl | rfl | rfl | rfl<;>rfl
  ·rw[Sum.elim_inl,zb ⟨by omega,by simp⟩,z6 Pc,show nth [a,b] (0:Int) (zj .expr)=a from rfl,z6 pa,zp _ (by omega),zb ⟨by omega,by simp⟩,z6 Pc,Cw,show nth [a,b] (1:Int) (zj .expr)=b from rfl,z6 pb,zp _ (by simp[jZ]; omega),z7]
   rfl
theorem PM(e:Expr)(asks:Int)(d:Nat)(ho:vN d e=true)(ha:allOk e)(hs:szE e<=100000):(pC e asks).run=some (lH (decide (qu e.kind<asks)) (prE e)):=by
 unfold pC
 refine cY (λx:Expr×Int=>(∃ d,vN d x.1=true)/\allOk x.1/\szE x.1<=100000) (λx=>w6 x.1) (λx=>lH (decide (qu x.1.kind<x.2)) (prE x.1)) (λx hx g hg => ?_) (x:=(e,asks)) ⟨⟨d,ho⟩,ha,hs⟩
 obtain⟨x,q⟩:=x
 obtain⟨⟨d,ho⟩,ha,hs⟩:=hx
 dsimp only at ho ha hs
 have zgB:=fQ (w6 x) x d (Nat.le_refl _) ho ha
 cases x with | mk k n s l =>
 obtain⟨hk,hl⟩:=Zz ho
 obtain⟨hn,nB⟩:=ha
 have Lu:w6 (.mk k n s l)=1+wX l:=rfl
 have uU:szE (.mk k n s l)=3+s.length+8*n.2.1.length+8*n.2.2.1.length+szEs l:=rfl
 have hE:=pz n (ct hn (by omega))
 have z4G:prE (.mk k n s l)=if k=1 then(xc (norm n).1 (nv (norm n).2.1) (nv (norm n).2.2.1) 0 61).1 else if k=2 then s else Qn k (prL l):=rfl
 unfold fx
 rw[show Expr.kind (.mk k n s l)=k from rfl,show Expr.kids (.mk k n s l)=l from rfl,show Expr.num (.mk k n s l)=n from rfl,show Expr.name (.mk k n s l)=s from rfl]
 have fin:∀ t:T zf,t.run=some (prE (.mk k n s l))->(T.bind t λs1=>T.bind (pe k) λr10=>.ite (decide (r10<q))
   (.zM (((List.length ([40]:zf))+(List.length s1))<=(4611686018427387904:Nat))<|.zM (((List.length (cat ([40]:zf) s1))+(List.length ([41]:zf)))<=(4611686018427387904:Nat))<|.ret (cat (cat ([40]:zf) s1) ([41]:zf))) (.ret s1):T zf).run=some (lH (decide (qu k<q)) (prE (.mk k n s l))):=by
  intro t ht
  rw[z6 ht,z6 (z0C k)]
  cases decide (qu k<q)with
  | true=>rw[zh,zp _ (by simp; omega),zp _ (by simp[jZ]; omega),z7]; rfl
  | false=>rw[zg,z7]; rfl
 refine fin _ ?_
 rw[z4G]
 by_cases h1:k=1
 ·rw[if_pos h1,za (by simpa using h1),z6 hE,z7]
 have k1:(k==1)=false:=by simpa using h1
 by_cases h2:k=2
 ·rw[if_neg h1,if_pos h2,z8 k1,za (by simpa using h2),z7]
 have k2:(k==2)=false:=by simpa using h2
 rw[if_neg h1,if_neg h2]
 rcases G9 hk h1 h2 with⟨h7,a,rfl⟩ | ⟨Pk,a,b,rfl⟩
 ·have ha':vN (d+1) a=true:=by
   have:(vN (d+1) a&&jz (d+1) [])=true:=hl
   simp only[Bool.and_eq_true]at this; exact this.1
  have e0:wX [a]=w6 a+0:=rfl
  have e1:szEs [a]=szE a+0:=rfl
  have hr:=hg (a,3) ⟨⟨_,ha'⟩,nB.1,by dsimp only; omega⟩ (by dsimp only; omega)
  have hlen:=fQ (w6 a) a (d+1) (Nat.le_refl _) ha' nB.1
  have XO:=hH (decide (qu a.kind<3)) (prE a)
  dsimp only at hr
  rw[z8 k1,z8 k2,za (by simpa using h7),zb ⟨by omega,by simp⟩,show nth [a] (0:Int) (zj .expr)=a from rfl,z6 hr,zp _ (by simp; omega),z7]
  rfl
 ·have Y5:vN (d+1) a=true/\vN (d+1) b=true:=by
   have:(vN (d+1) a&&(vN (d+1) b&&jz (d+1) []))=true:=hl
   simp only[Bool.and_eq_true]at this; exact⟨this.1,this.2.1⟩
  have e0:wX [a,b]=w6 a+(w6 b+0):=rfl
  have e1:szEs [a,b]=szE a+(szE b+0):=rfl
  have ra:∀ q:Int,(g (a,q)).run=some (lH (decide (qu a.kind<q)) (prE a)):=λq=>hg (a,q) ⟨⟨_,Y5.1⟩,nB.1,by dsimp only; omega⟩ (by dsimp only; omega)
  have rb:∀ q:Int,(g (b,q)).run=some (lH (decide (qu b.kind<q)) (prE b)):=λq=>hg (b,q) ⟨⟨_,Y5.2⟩,nB.2.1,by dsimp only; omega⟩ (by dsimp only; omega)
  have la:=fQ (w6 a) a (d+1) (Nat.le_refl _) Y5.1 nB.1
  have lb:=fQ (w6 b) b (d+1) (Nat.le_refl _) Y5.2 nB.2.1
  have qa:∀ q:Int,(lH (decide (qu a.kind<q)) (prE a)).length<=1000000000:=λq=>by have:=hH (decide (qu a.kind<q)) (prE a); omega
  have qb:∀ q:Int,(lH (decide (qu b.kind<q)) (prE b)).length<=1000000000:=λq=>by have:=hH (decide (qu b.kind<q)) (prE b); omega
  have k7:(k==7)=false:=by rw[beq_eq_false_iff_ne]; omega
  have two:∀ (m:zf) (p q:Int),m.length<=3->(.zM (qz (0:Int) (List.length [a,b]))<|T.bind (g (nth [a,b] (0:Int) (zj .expr),p)) λr2=>.zM (((List.length r2)+(List.length m))<=(4611686018427387904:Nat))<|.zM (qz (1:Int) (List.length [a,b])) <|
    T.bind (g (nth [a,b] (1:Int) (zj .expr),q)) λr3=>.zM (((List.length (cat r2 m))+(List.length r3))<=(4611686018427387904:Nat))<|.ret (cat (cat r2 m) r3):T zf).run=some (lH (decide (qu a.kind<p)) (prE a)++m++lH (decide (qu b.kind<q)) (prE b)):=by
   intro m p q hm
   have h3:=qa p
   have h4:=qb q
   rw[zb ⟨by omega,by simp⟩,show nth [a,b] (0:Int) (zj .expr)=a from rfl,z6 (ra p),zp _ (by omega),zb ⟨by omega,by simp⟩,show nth [a,b] (1:Int) (zj .expr)=b from rfl,z6 (rb q),zp _ (by simp[jZ]; omega),z7]
   rfl
  rw[z8 k1,z8 k2,z8 k7]
  rcases Pk with rfl | rfl | rfl | rfl
  ·rw[za (by rfl)]; exact two [32,43,32] 1 2 (by simp)
  ·rw[z8 (by rfl),za (by rfl)]; exact two [32,45,32] 1 2 (by simp)
  ·rw[z8 (by rfl),z8 (by rfl),za (by rfl)]; exact two [32,42,32] 2 3 (by simp)
  ·rw[z8 (by rfl),z8 (by rfl),z8 (by rfl),za (by rfl)]; exact two [32,47,32] 2 3 (by simp)
structure FL(f:Form):Prop where
 n:f.1.length+f.2.1.length+f.2.2.1.length+f.2.2.2.1.length+f.2.2.2.2.1.length+f.2.2.2.2.2.1.length<=30
 s:∀ x∈f.1,x.1.length<=600
 p:∀ x∈f.2.1,x.1.length<=600/\x.2.1.2.1.length<=75/\x.2.1.2.2.1.length<=75
 g:∀ x∈f.2.2.1,x.1.length<=600/\x.2.1.length<=600
 d:∀ x∈f.2.2.2.1,x.1.length<=600
 r:∀ x∈f.2.2.2.2.1,x.1.length<=600/\x.2.2.1.length<=600/\szE x.2.2.2.1<=600/\szE x.2.2.2.2.1<=600
 c:∀ x∈f.2.2.2.2.2.1,x.1.length<=600/\szE x.2.2.2.1<=600/\szE x.2.2.2.2.1<=600
theorem eV(e:Expr):Expr.mk (Expr.kind e) ((Expr.num e).1,((Expr.num e).2.1,((Expr.num e).2.2.1,()))) (Expr.name e) (Expr.kids e)=e:=by
 cases e; rfl
mutual
theorem Td:∀ e:Expr,bkE e<=4*szE e
 | .mk k n s l=>by
  have:=L5 l
  unfold bkE szE
  omega
theorem L5:∀ l:List Expr,bkEs l<=4*szEs l
 | []=>Nat.le_refl _
 | e::r=>by
  have h1:=Td e
  have h2:=L5 r
  unfold bkEs szEs
  omega
end
def vG(e:Expr):Prop:=szE e<=74000/\w6 e<=256/\allOk e
theorem ri{e:Expr}(h:szE e<=600)(ha:allOk e):vG e:=⟨by omega,by have:=Oz e; omega,ha⟩
theorem z13{e:Expr}(h:vG e):bkE e<=296000:=by have:=Td e; have:=h.1; omega
theorem Wz{e:Expr}(h:vG e):w6 e<=256:=h.2.1
theorem ZZ{e:Expr}(h:vG e):(uz e).run=some (vN 0 e):=z5U e h.2.2 (Wz h)
theorem oo{e:Expr}(h:vG e):(dv e).run=some (vN 0 e):=Cs e h.2.2 (by have:=z13 h; omega) (Wz h)
theorem Ia{e:Expr}(h:vG e)(ho:vN 0 e=true):(eQ e).run=some (prE e):=by
 unfold eQ
 rw[z6 (ZZ h),ho,z8 (by rfl),z6 (Ml e 0 ho h.2.2 (by have:=h.1; omega)),z7]
theorem Zo{e:Expr}(h:vG e)(ho:vN 0 e=true):(yq e).run=some (prE e):=by
 unfold yq
 rw[z6 (oo h),ho,z8 (by rfl),z6 (PM e 1 0 ho h.2.2 (by have:=h.1; omega)),z7]
 have:decide (qu e.kind<1)=false:=by
  refine decide_eq_false ?_
  unfold qu
  (repeat' split)<;>omega
 rw[this]; rfl
theorem cB{e:Expr}(h:vG e)(ho:vN 0 e=true):(prE e).length<=148000000:=by
 have:=fQ (w6 e) e 0 (Nat.le_refl _) ho h.2.2
 have:=h.1
 omega
structure FS(f:Form):Prop where
 n:f.1.length+f.2.1.length+f.2.2.1.length+f.2.2.2.1.length+f.2.2.2.2.1.length+f.2.2.2.2.2.1.length<=601
 s:∀ x∈f.1,x.1.length<=600
 p:∀ x∈f.2.1,x.1.length<=600/\wW 100 x.2.1
 g:∀ x∈f.2.2.1,x.1.length<=600/\x.2.1.length<=600
 d:∀ x∈f.2.2.2.1,x.1.length<=600
 r:∀ x∈f.2.2.2.2.1,x.1.length<=600/\x.2.2.1.length<=600/\vG x.2.2.2.1/\vG x.2.2.2.2.1
 c:∀ x∈f.2.2.2.2.2.1,x.1.length<=600/\vG x.2.2.2.1/\vG x.2.2.2.2.1
theorem z8a{f:Form}(hw:wf zT f)(hb:FB f)(hl:FL f):FS f:=by
 refine⟨by have:=hl.n; omega,hl.s,λx hx => ?_,hl.g,hl.d,λx hx => ?_,λx hx => ?_⟩
 ·obtain⟨a,b,c⟩:=hl.p x hx
  obtain⟨_,_,_,d,e⟩:=hb.p x hx
  exact⟨a,d,e,by omega,by omega⟩
 ·obtain⟨a,b,c,d⟩:=hl.r x hx
  have hwx:wf zX x:=hw.2.2.2.2.1 x hx
  exact⟨a,b,ri c (o7 _ hwx.2.2.2.1 (by omega)),ri d (o7 _ hwx.2.2.2.2.1 (by omega))⟩
 ·obtain⟨a,b,c⟩:=hl.c x hx
  have hwx:wf zD x:=hw.2.2.2.2.2.1 x hx
  exact⟨a,ri b (o7 _ hwx.2.2.2.1 (by omega)),ri c (o7 _ hwx.2.2.2.2.1 (by omega))⟩
def Jq(x:Switch):Bool := !q7 x.1
def nk(x:Param):Bool := !q7 x.1||(!iA x.2.1||kT x.2.1)
def lR(s:zf):Bool:=zl s []||q7 s
def J4(x:xl):Bool := !q7 x.1 || !lR x.2.1
def U6(n at_:Int)(x:Field):Bool:=decide (x.2.1<at_)||(decide (n<=x.2.1)||(!q7 x.1||(decide (x.2.2.2.1<(0:Int))||decide ((9:Int)<x.2.2.2.1))))
def VK(n at_:Int)(x:Check):Bool:=decide (x.2.1<at_)||(decide (n<=x.2.1)||(!q7 x.1||(decide (x.2.2.1<(0:Int))||(decide ((2:Int)<x.2.2.1)||(!vN 0 x.2.2.2.1 || !vN 0 x.2.2.2.2.1)))))
def tf(x:qG):Bool := !q7 x.1||(!lR x.2.2.1||(decide (x.2.1<(0:Int))||(decide ((3:Int)<x.2.1)||(!vN 0 x.2.2.2.1 || !vN 0 x.2.2.2.2.1))))
def Qi{α:Type}(bad:Int->α->Bool)(nx:α->Int):Int->List α->Bool
 | _,[]=>true
 | at_,x::r => !bad at_ x&&Qi bad nx (nx x) r
theorem DM{α:Type}(bad:Int->α->Bool)(nx:α->Int)(at_:Int)(x:α)(r:List α):Qi bad nx at_ (x::r)=(!bad at_ x&&Qi bad nx (nx x) r):=rfl
def a1(f:Form):Bool := !f.1.any Jq
def a2(f:Form):Bool := !f.2.1.any nk
def a3(f:Form):Bool := !f.2.2.1.any J4
def a4(f:Form):Bool:=Qi (U6 (f.2.2.1.length:Int)) (λx=>x.2.1) 0 f.2.2.2.1
def a5(f:Form):Bool:=Qi (VK (f.2.2.1.length:Int)) (λx=>x.2.1) 0 f.2.2.2.2.2.1
def a6(f:Form):Bool := !f.2.2.2.2.1.any tf
theorem Zv{α:Type}(l:List α)(d:α)(bad:α->Bool){r:Int->T (Int⊕(Unit⊕Bool))}
  (step:∀ (k:Nat) (x:α),k<l.length->nth l (k:Int) d=x->x∈l->(r (k:Int)).run=some (if bad x=true then .inr (.inr false)else .inl ((k+1:Nat):Int)))
  (done:(r (l.length:Int)).run=some (.inr (.inl ()))):(T.loop r 0).run=some (if l.any bad=true then .inr false else .inl ()):=by
 refine T.pG (r:=r) l d (λ(_:Unit) i=>i) (λ_ _=>True) (λxs _=>if xs.any bad=true then .inr false else .inl ()) (λk b x xs hk hx hm _ _ => ?_) (λb _ => ?_) (b:=()) trivial
 ·rw[step k x hk hx hm,List.any_cons]
  cases bad x with
  | true=>exact .inr rfl
  | false=>exact .inl ⟨(),rfl,trivial,rfl⟩
 ·exact done
theorem pY{α:Type}(l:List α)(d:α)(bad:Int->α->Bool)(nx:α->Int){r:Int×Int->T ((Int×Int)⊕(Unit⊕Bool))}
  (hn:∀ at_ x,0<=at_->bad at_ x=false->0<=nx x)
  (step:∀ (k:Nat) (at_:Int) (x:α),k<l.length->nth l (k:Int) d=x->x∈l->0<=at_->(r (at_,(k:Int))).run=some (if bad at_ x=true then .inr (.inr false)else .inl (nx x,((k+1:Nat):Int))))
  (done:∀ at_,(r (at_,(l.length:Int))).run=some (.inr (.inl ()))):(T.loop r (0,0)).run=some (if Qi bad nx 0 l=true then .inl ()else .inr false):=by
 refine T.pG (r:=r) l d (λ(b:Int) i=>(b,i)) (λ_ b=>0<=b) (λxs b=>if Qi bad nx b xs=true then .inl ()else .inr false) (λk b x xs hk hx hm _ h0 => ?_) (λb _ => ?_) (b:=0) (Int.le_refl 0)
 ·rw[step k b x hk hx hm h0]
  rw[DM]
  cases h:bad b x with
  | true=>exact .inr rfl
  | false=>exact .inl ⟨nx x,rfl,hn b x h0 h,rfl⟩
 ·exact done b
theorem Qv{α:Type}{bad:Int->α->Bool}{nx:α->Int}:∀ {l:List α} {at_:Int},Qi bad nx at_ l=true->∀ x∈l,∃ b,bad b x=false
 | [],_,_,x,hx=>by cases hx
 | y::r,at_,h,x,hx=>by
  unfold Qi at h
  rw[Bool.and_eq_true,Bool.not_eq_true']at h
  rcases List.mem_cons.1 hx with rfl | hx
  ·exact⟨at_,h.1⟩
  ·exact Qv h.2 x hx
theorem LL{α:Type}{x:α}{b c:Bool}{t:T (Bool×α)}(h:t.run=some (c,x)):(T.ite b (.ret (true,x)) t).run=some (b||c,x):=by cases b; exact h; rfl
theorem orB{b c:Bool}{t:T Bool}(h:t.run=some c):(T.ite b (.ret true) t).run=some (b||c):=by cases b; exact h; rfl
theorem oN{α:Type}{x:α}{m:T Bool}{b c:Bool}{t:T (Bool×α)}(hm:m.run=some b)(h:t.run=some (c,x)):(T.bind m λr=>T.ite (!r) (.ret (true,x)) t).run=some (!b||c,x):=by
 rw[z6 hm]; exact LL h
theorem XG{m:T Bool}{b c:Bool}{t:T Bool}(hm:m.run=some b)(h:t.run=some c):(T.bind m λr=>T.ite (!r) (.ret true) t).run=some (!b||c):=by
 rw[z6 hm]; exact orB h
theorem z4j{α:Type}{x:α}{m:T Bool}{b:Bool}(hm:m.run=some b):(T.bind m λr=>.ret ((!r),x)).run=some (!b,x):=by
 rw[z6 hm]; rfl
theorem SI{m:T Bool}{b:Bool}(hm:m.run=some b):(T.bind m λr=>.ret (!r)).run=some (!b):=by
 rw[z6 hm]; rfl
abbrev JN(a b:Int):Prop:=a<=b
abbrev ilt(a b:Int):Prop:=a<b
abbrev FT:=List Switch×List Param×List Field×List qG×List Check×Unit
def ND(x:Switch):zf:=[115,119,105,116,99,104,32]++x.1++(bif x.2.1 then[32,111,110,10]else[32,111,102,102,10])
def NC(x:Param):zf:=[112,97,114,97,109,32]++x.1++[32]++iv (norm x.2.1)++[10]
def whS(s:zf):zf:=if s=[]then[]else[32,119,104,101,110,32]++s
def phS(x:xl):zf:=[112,97,103,101,32]++x.1++whS x.2.1++[10]
def fhS(x:Field):zf:=bif x.2.2.1 then[102,105,101,108,100,32]++x.1++[32,109,117,115,116]else[102,105,101,108,100,32]++x.1
def fdS(x:Field):zf:=if(0:Int)<x.2.2.2.1 then fhS x++([32,115,99,97,108,101,32]++nh x.2.2.2.1)++[10]else fhS x++[10]
def Od(l:Expr)(sign:zf)(r:Expr):zf:=[32,58,32]++prE l++[32]++sign++[32]++prE r++[10]
def bD(n:Int):zf:=if n=1 then[60]else if n=2 then[60,61]else[61]
def D6(n:Int):zf:=if n=0 then[114,101,113,117,105,114,101,100]else if n=1 then[115,116,114,111,110,103]else if n=2 then[109,101,100,105,117,109]else[119,101,97,107]
def ckS(x:Check):zf:=[99,104,101,99,107,32]++x.1++Od x.2.2.2.1 (bD x.2.2.1) x.2.2.2.2.1
def CS(x:qG):zf:=[114,117,108,101,32]++D6 x.2.1++[32]++x.1++whS x.2.2.1++Od x.2.2.2.1 [61] x.2.2.2.2.1
def NB(i:Int)(x:Field):zf:=if(x.2.1==i)=true then fdS x else[]
def Tm(i:Int)(x:Check):zf:=if(x.2.1==i)=true then ckS x else[]
def MV(f:Form)(i:Nat):zf:=phS (nth f.2.2.1 (i:Int) (zj zO))++f.2.2.2.1.flatMap (NB i)++f.2.2.2.2.2.1.flatMap (Tm i)
def frS(f:Form):zf:=f.1.flatMap ND++f.2.1.flatMap NC++(List.range f.2.2.1.length).flatMap (MV f)++f.2.2.2.2.1.flatMap CS
structure M0(f:Form):Prop extends FS f where
 d2:∀ x∈f.2.2.2.1,JN 0 x.2.2.2.1/\JN x.2.2.2.1 9
 c2:∀ x∈f.2.2.2.2.2.1,JN 0 x.2.2.1/\JN x.2.2.1 2/\vN 0 x.2.2.2.1=true/\vN 0 x.2.2.2.2.1=true
 r2:∀ x∈f.2.2.2.2.1,JN 0 x.2.1/\JN x.2.1 3/\vN 0 x.2.2.2.1=true/\vN 0 x.2.2.2.2.1=true
theorem Fy{f:Form}(h:FS f)(h4:a4 f=true)(h5:a5 f=true)(h6:a6 f=true):M0 f:=by
 refine { toFS:=h,d2:=λx hx => ?_,c2:=λx hx => ?_,r2:=λx hx => ?_ }
 ·obtain⟨b,hb⟩:=Qv h4 x hx
  unfold U6 at hb
  simp only[Bool.or_eq_false_iff,decide_eq_false_iff_not,Bool.not_eq_false']at hb
  obtain⟨_,_,_,q1,q2⟩:=hb
  exact⟨Int.not_lt.1 q1,Int.not_lt.1 q2⟩
 ·obtain⟨b,hb⟩:=Qv h5 x hx
  unfold VK at hb
  simp only[Bool.or_eq_false_iff,decide_eq_false_iff_not,Bool.not_eq_false']at hb
  obtain⟨_,_,_,q1,q2,q3,q4⟩:=hb
  exact⟨Int.not_lt.1 q1,Int.not_lt.1 q2,q3,q4⟩
 ·unfold a6 at h6
  rw[Bool.not_eq_true',List.any_eq_false]at h6
  have hb:tf x=false:=by simpa using h6 x hx
  unfold tf at hb
  simp only[Bool.or_eq_false_iff,decide_eq_false_iff_not,Bool.not_eq_false']at hb
  obtain⟨_,_,q1,q2,q3,q4⟩:=hb
  exact⟨Int.not_lt.1 q1,Int.not_lt.1 q2,q3,q4⟩
theorem ZN(n:Int):(bD n).length<=2:=by unfold bD; split; decide; split<;>decide
theorem Vw(n:Int):(D6 n).length<=8:=by unfold D6; split; decide; split; decide; split<;>decide
theorem rF(s:zf):(whS s).length<=s.length+6:=by unfold whS; split<;>simp
theorem Wy(x:Switch)(h:x.1.length<=600):(ND x).length<=300000000:=by
 unfold ND
 cases x.2.1<;>simp<;>omega
theorem WM(x:Param)(h:x.1.length<=600)(hr:wW 100 x.2.1):(NC x).length<=300000000:=by
 have:=th x.2.1 ⟨hr.1,hr.2.1,by have:=hr.2.2.1; omega,by have:=hr.2.2.2; omega⟩
 unfold NC
 simp only[List.length_append,List.length_cons,List.length_nil]
 omega
theorem I9(x:xl)(h:x.1.length<=600)(h2:x.2.1.length<=600):(phS x).length<=300000000:=by
 have:=rF x.2.1
 unfold phS
 simp only[List.length_append,List.length_cons,List.length_nil]
 omega
theorem Gq(x:Field):(fhS x).length<=x.1.length+11:=by
 unfold fhS
 cases x.2.2.1<;>simp
theorem Gu(x:Field)(h:x.1.length<=600)(h1:JN 0 x.2.2.2.1)(h2:JN x.2.2.2.1 9):(fdS x).length<=300000000:=by
 have:=BL x.2.2.2.1 ⟨by unfold JN at *; omega,by unfold JN at *; omega⟩
 have:=Gq x
 unfold fdS
 split<;>simp only[List.length_append,List.length_cons,List.length_nil]<;>omega
theorem Wt{l r:Expr}(s:zf)(hs:s.length<=8)(h1:vG l)(h2:vG r)(o1:vN 0 l=true)(o2:vN 0 r=true):(Od l s r).length<=297000000:=by
 have:=cB h1 o1
 have:=cB h2 o2
 unfold Od
 simp only[List.length_append,List.length_cons,List.length_nil]
 omega
theorem Fw(x:Check)(h:x.1.length<=600)(h1:vG x.2.2.2.1)(h2:vG x.2.2.2.2.1)(o1:vN 0 x.2.2.2.1=true)(o2:vN 0 x.2.2.2.2.1=true):(ckS x).length<=300000000:=by
 have:=Wt (bD x.2.2.1) (by have:=ZN x.2.2.1; omega) h1 h2 o1 o2
 unfold ckS
 simp only[List.length_append,List.length_cons,List.length_nil]
 omega
theorem Wm(x:qG)(h:x.1.length<=600)(h':x.2.2.1.length<=600)(h1:vG x.2.2.2.1)(h2:vG x.2.2.2.2.1)(o1:vN 0 x.2.2.2.1=true)(o2:vN 0 x.2.2.2.2.1=true):(CS x).length<=300000000:=by
 have:=Wt [61] (by decide) h1 h2 o1 o2
 have:=Vw x.2.1
 have:=rF x.2.2.1
 unfold CS
 simp only[List.length_append,List.length_cons,List.length_nil]
 omega
theorem Qb{f:Form}(h:M0 f)(i:Int):∀ x∈f.2.2.2.1,(NB i x).length<=300000000:=λx hx=>by
 unfold NB
 split
 ·exact Gu x (h.d x hx) (h.d2 x hx).1 (h.d2 x hx).2
 ·exact Nat.zero_le _
theorem G3{f:Form}(h:M0 f)(i:Int):∀ x∈f.2.2.2.2.2.1,(Tm i x).length<=300000000:=λx hx=>by
 unfold Tm
 obtain⟨q1,q2,q3⟩:=h.c x hx
 obtain⟨_,_,o1,o2⟩:=h.c2 x hx
 split
 ·exact Fw x q1 q2 q3 o1 o2
 ·exact Nat.zero_le _
theorem IN{f:Form}(h:M0 f){i:Nat}(hi:i<f.2.2.1.length):(nth f.2.2.1 (i:Int) (zj zO)).1.length<=600/\(nth f.2.2.1 (i:Int) (zj zO)).2.1.length<=600 :=
 h.g _ (c7 (by omega) (by omega))
theorem G4{f:Form}(h:M0 f){i:Nat}(hi:i<f.2.2.1.length):(MV f i).length<=181000000000:=by
 obtain⟨g1,g2⟩:=IN h hi
 have h1:=I9 _ g1 g2
 have h2:=uJ (NB i) f.2.2.2.1 300000000 (Qb h i)
 have h3:=uJ (Tm i) f.2.2.2.2.2.1 300000000 (G3 h i)
 have:=h.n
 unfold MV
 simp only[List.length_append]
 omega
theorem iO{α:Type}(l:List α)(d:α)(C B:Nat)(f:α->zf)(s:zf){r:zf×Int->T ((zf×Int)⊕zf)}
  (step:∀ (k:Nat) (b:zf) (x:α),k<l.length->nth l (k:Int) d=x->x∈l->b.length+C<=B->(r (b,(k:Int))).run=some (.inl (b++f x,((k+1:Nat):Int))))
  (done:∀ b,(r (b,(l.length:Int))).run=some (.inr b)) (hf:∀ x∈l,(f x).length<=C) (hB:s.length+l.length*C<=B):(T.loop r (s,0)).run=some (s++l.flatMap f):=by
 rw[<- Kt]
 refine T.Vv (r:=r) l d (λ(b:zf) i=>(b,i)) (λk b=>b.length<=s.length+k*C) (λb x=>b++f x) (λb=>b) (λk b x hk hx hm hI => ?_) (λb hI=>done b) (b:=s) (by omega)
 have h4:=Cp (c:=C) (show k+1<=l.length from hk)
 rw[Nat.add_mul,Nat.one_mul]at h4
 refine⟨step k b x hk hx hm (by omega),?_⟩
 have:=hf x hm
 rw[List.length_append,Nat.add_mul,Nat.one_mul]
 omega
theorem l9{α:Type}(l:List α)(d:α)(C B:Nat)(f:α->zf)(s:zf){r:Int×Unit×List Int->T ((Int×Unit×List Int)⊕(Unit×List Int))}
  (step:∀ (k:Nat) (b:zf) (x:α),k<l.length->nth l (k:Int) d=x->x∈l->b.length+C<=B->(r ((k:Int),(),bytesOf b)).run=some (.inl (((k+1:Nat):Int),(),bytesOf (b++f x))))
  (done:∀ b,(r ((l.length:Int),(),bytesOf b)).run=some (.inr ((),bytesOf b))) (hf:∀ x∈l,(f x).length<=C) (hB:s.length+l.length*C<=B):(T.loop r (0,(),bytesOf s)).run=some ((),bytesOf (s++l.flatMap f)):=by
 rw[<- Kt]
 refine T.Vv (r:=r) l d (λ(b:zf) i=>(i,(),bytesOf b)) (λk b=>b.length<=s.length+k*C) (λb x=>b++f x) (λb=>((),bytesOf b)) (λk b x hk hx hm hI => ?_) (λb hI=>done b) (b:=s) (by omega)
 have h4:=Cp (c:=C) (show k+1<=l.length from hk)
 rw[Nat.add_mul,Nat.one_mul]at h4
 refine⟨step k b x hk hx hm (by omega),?_⟩
 have:=hf x hm
 rw[List.length_append,Nat.add_mul,Nat.one_mul]
 omega
theorem Jw(l:List Switch)(g:Switch->T Bool)(p:Switch->Bool)(hg:∀ x∈l,(g x).run=some (p x))(hl:l.length<=1000000000):(qO l g).run=some (l.any p):=by
 have key:(uL l g (l.length:Int) 0).run=some (if PL.tK p 0 l = -1 then .inl ()else .inr (PL.tK p 0 l)):=by
  refine PL.tY l (zj zt) p (λi h hi hp => ?_) (λi h hi hp => ?_) (λi hi => ?_)
  ·have hm:=c7 (d:=zj zt) h hi
   simp(disch:=omega) [qM,hi,hg _ hm,hp]
  ·have hm:=c7 (d:=zj zt) h hi
   simp(disch:=omega) [qM,hi,hg _ hm,hp]
  ·simp[qM,hi]
 have hx:(w8 l g).run=some (PL.tK p 0 l):=by
  unfold w8
  rw[z6 key]
  split<;>rename_i h<;>simp[h]
 unfold qO
 rw[z6 hx,z7,PL.Wn _ _ _ (Int.le_refl 0)]
theorem Ga(l:List Param)(g:Param->T Bool)(p:Param->Bool)(hg:∀ x∈l,(g x).run=some (p x))(hl:l.length<=1000000000):(qW l g).run=some (l.any p):=by
 have key:(uX l g (l.length:Int) 0).run=some (if PL.tK p 0 l = -1 then .inl ()else .inr (PL.tK p 0 l)):=by
  refine PL.tY l (zj zw) p (λi h hi hp => ?_) (λi h hi hp => ?_) (λi hi => ?_)
  ·have hm:=c7 (d:=zj zw) h hi
   simp(disch:=omega) [qV,hi,hg _ hm,hp]
  ·have hm:=c7 (d:=zj zw) h hi
   simp(disch:=omega) [qV,hi,hg _ hm,hp]
  ·simp[qV,hi]
 have hx:(wj l g).run=some (PL.tK p 0 l):=by
  unfold wj
  rw[z6 key]
  split<;>rename_i h<;>simp[h]
 unfold qW
 rw[z6 hx,z7,PL.Wn _ _ _ (Int.le_refl 0)]
theorem HR(l:List xl)(g:xl->T Bool)(p:xl->Bool)(hg:∀ x∈l,(g x).run=some (p x))(hl:l.length<=1000000000):(xh l g).run=some (l.any p):=by
 have key:(jv l g (l.length:Int) 0).run=some (if PL.tK p 0 l = -1 then .inl ()else .inr (PL.tK p 0 l)):=by
  refine PL.tY l (zj zO) p (λi h hi hp => ?_) (λi h hi hp => ?_) (λi hi => ?_)
  ·have hm:=c7 (d:=zj zO) h hi
   simp(disch:=omega) [xm,hi,hg _ hm,hp]
  ·have hm:=c7 (d:=zj zO) h hi
   simp(disch:=omega) [xm,hi,hg _ hm,hp]
  ·simp[xm,hi]
 have hx:(wC l g).run=some (PL.tK p 0 l):=by
  unfold wC
  rw[z6 key]
  split<;>rename_i h<;>simp[h]
 unfold xh
 rw[z6 hx,z7,PL.Wn _ _ _ (Int.le_refl 0)]
theorem Ho(l:List qG)(g:qG->T Bool)(p:qG->Bool)(hg:∀ x∈l,(g x).run=some (p x))(hl:l.length<=1000000000):(xk l g).run=some (l.any p):=by
 have key:(jn l g (l.length:Int) 0).run=some (if PL.tK p 0 l = -1 then .inl ()else .inr (PL.tK p 0 l)):=by
  refine PL.tY l (zj zX) p (λi h hi hp => ?_) (λi h hi hp => ?_) (λi hi => ?_)
  ·have hm:=c7 (d:=zj zX) h hi
   simp(disch:=omega) [xj,hi,hg _ hm,hp]
  ·have hm:=c7 (d:=zj zX) h hi
   simp(disch:=omega) [xj,hi,hg _ hm,hp]
  ·simp[xj,hi]
 have hx:(wI l g).run=some (PL.tK p 0 l):=by
  unfold wI
  rw[z6 key]
  split<;>rename_i h<;>simp[h]
 unfold xk
 rw[z6 hx,z7,PL.Wn _ _ _ (Int.le_refl 0)]
theorem UM(s:zf):(kz s).run=some (lR s):=by
 unfold kz lR
 cases zl s []with
 | true=>rfl
 | false=>rw[zg,z6 (xI s)]; rfl
theorem LB(f:Form)(h:FS f):(fO f).run=some (a1 f&&(a2 f&&a3 f)):=by
 have hn:=h.n
 have h1:(qO f.1 (λz0=>vH z0)).run=some (f.1.any Jq):=Jw f.1 _ Jq (λx _=>by
  unfold vH Jq
  exact SI (xI x.1)) (by omega)
 have h2:(qW f.2.1 (λz0=>vJ z0)).run=some (f.2.1.any nk):=Ga f.2.1 _ nk (λx hx=>by
  have hr:=(h.p x hx).2
  have hr:wW 100000000 x.2.1:=⟨hr.1,hr.2.1,by have:=hr.2.2.1; omega,by have:=hr.2.2.2; omega⟩
  unfold vJ nk
  exact XG (xI x.1) (XG (tB _ hr) (by rw[z6 (sk _ hr)]; rfl))) (by omega)
 have h3:(xh f.2.2.1 (λz0=>vB z0)).run=some (f.2.2.1.any J4):=HR f.2.2.1 _ J4 (λx hx=>by
  unfold vB J4
  exact XG (xI x.1) (SI (UM _))) (by omega)
 unfold fO a1 a2 a3
 rw[z6 h1]
 cases f.1.any Jq with
 | true=>rfl
 | false =>
  rw[za (by rfl),z6 h2]
  cases f.2.1.any nk with
  | true=>rfl
  | false=>rw[za (by rfl),z6 h3,z7]; rfl
theorem UN(pg at_ n:Int)(h:0<=at_):(hZ pg at_ n).run=some (!(decide (pg<at_)||decide (n<=pg))):=by
 unfold hZ
 have e1:mj at_ 0=at_:=by unfold mj; split<;>omega
 rw[e1,z7]
 by_cases q1:pg<at_<;>by_cases q2:n<=pg
 ·rw[decide_eq_true q1,decide_eq_false (by omega:¬ at_<=pg)]; rfl
 ·rw[decide_eq_true q1,decide_eq_false (by omega:¬ at_<=pg)]; rfl
 ·rw[decide_eq_true q2,decide_eq_false (by omega:¬ pg<n),Bool.and_false,Bool.or_true]; rfl
 ·rw[decide_eq_false q1,decide_eq_false q2,decide_eq_true (by omega:at_<=pg),decide_eq_true (by omega:pg<n)]; rfl
theorem X3(f:Form)(h:FS f):(dm f).run=some (a4 f):=by
 have hn:=h.n
 have key:(n9 f f.2.2.2.1 (f.2.2.2.1.length:Int) (0,0)).run=some (if a4 f=true then .inl ()else .inr false):=by
  refine pY (r:=uV f f.2.2.2.1 (f.2.2.2.1.length:Int)) f.2.2.2.1 (zj zy) (U6 (f.2.2.1.length:Int)) (λx=>x.2.1) (λat_ x h0 hb => ?_) (λk at_ x hk hx hm h0 => ?_) (λat_ => ?_)
  ·unfold U6 at hb
   rw[Bool.or_eq_false_iff,decide_eq_false_iff_not]at hb
   exact Int.le_trans h0 (Int.not_lt.1 hb.1)
  ·unfold uV
   dsimp only
   rw[za (ua hk),zb (zW hk),hx]
   refine(z6 (a:=(U6 (f.2.2.1.length:Int) at_ x,x)) ?_ _).trans ?_
   ·refine(oN (xI x.1) (oN (UN x.2.1 at_ _ h0) (LL (z7 _)))).trans ?_
    unfold U6
    cases q7 x.1<;>cases decide (x.2.1<at_)<;>cases decide ((f.2.2.1.length:Int)<=x.2.1)<;>cases decide (x.2.2.2.1<(0:Int))<;>cases decide ((9:Int)<x.2.2.2.1)<;>rfl
   ·dsimp only
    cases U6 (f.2.2.1.length:Int) at_ x with
    | true=>rfl
    | false=>rw[zg,z7,fB k _ hk (by omega)]; rfl
  ·unfold uV
   dsimp only
   rw[z8 (jy _),z7]
 unfold dm
 rw[z6 key]
 cases a4 f<;>rfl
theorem PS(x:qG)(h1:vG x.2.2.2.1)(h2:vG x.2.2.2.2.1):(wg x).run=some (tf x):=by
 unfold wg
 have e:(T.bind (xK) λr2=>T.ite (decide ((Nat.cast (List.length r2):Int)<=x.2.1)) (.ret true) (T.bind (kz x.2.2.1) λr3=>T.ite (!r3) (.ret true) (T.bind (uz x.2.2.2.1) λr4=>T.ite (!r4) (.ret true) (T.bind (uz x.2.2.2.2.1) λr5=>.ret (!r5))))).run
   = some (decide ((4:Int)<=x.2.1)||(!lR x.2.2.1||(!vN 0 x.2.2.2.1 || !vN 0 x.2.2.2.2.1))):=by
  unfold xK
  exact orB (XG (UM _) (XG (ZZ h1) (SI (ZZ h2))))
 refine(XG (xI x.1) (orB e)).trans ?_
 unfold tf
 rw[show decide ((4:Int)<=x.2.1)=decide ((3:Int)<x.2.1)from rfl]
 cases q7 x.1<;>cases lR x.2.2.1<;>cases decide ((3:Int)<x.2.1)<;>cases decide (x.2.1<(0:Int))<;>rfl
theorem Qz(f:Form)(h:FS f):(dz f).run=some (a5 f&&a6 f):=by
 have hn:=h.n
 have key:(ng f f.2.2.2.2.2.1 (f.2.2.2.2.2.1.length:Int) (0,0)).run=some (if a5 f=true then .inl ()else .inr false):=by
  refine pY (r:=j6 f f.2.2.2.2.2.1 (f.2.2.2.2.2.1.length:Int)) f.2.2.2.2.2.1 (zj zD) (VK (f.2.2.1.length:Int)) (λx=>x.2.1) (λat_ x h0 hb => ?_) (λk at_ x hk hx hm h0 => ?_) (λat_ => ?_)
  ·unfold VK at hb
   rw[Bool.or_eq_false_iff,decide_eq_false_iff_not]at hb
   exact Int.le_trans h0 (Int.not_lt.1 hb.1)
  ·obtain⟨_,x1,x2⟩:=h.c x hm
   unfold j6
   dsimp only
   rw[za (ua hk),zb (zW hk),hx]
   simp only[eV]
   refine(z6 (a:=(VK (f.2.2.1.length:Int) at_ x,x)) ?_ _).trans ?_
   ·have e:(T.bind (wM) λr2=>T.ite (decide ((Nat.cast (List.length r2):Int)<=x.2.2.1)) (.ret (true,x)) (T.bind (uz x.2.2.2.1) λr3=>T.ite (!r3) (.ret (true,x)) (T.bind (uz x.2.2.2.2.1) λr4=>.ret ((!r4),x)))).run
      = some (decide ((3:Int)<=x.2.2.1)||(!vN 0 x.2.2.2.1 || !vN 0 x.2.2.2.2.1),x):=by
     unfold wM
     exact LL (oN (ZZ x1) (z4j (ZZ x2)))
    refine(oN (xI x.1) (oN (UN x.2.1 at_ _ h0) (LL e))).trans ?_
    unfold VK
    rw[show decide ((3:Int)<=x.2.2.1)=decide ((2:Int)<x.2.2.1)from rfl]
    cases q7 x.1<;>cases decide (x.2.1<at_)<;>cases decide ((f.2.2.1.length:Int)<=x.2.1)<;>cases decide (x.2.2.1<(0:Int))<;>cases decide ((2:Int)<x.2.2.1)<;>rfl
   ·dsimp only
    cases VK (f.2.2.1.length:Int) at_ x with
    | true=>rfl
    | false=>rw[zg,z7,fB k _ hk (by omega)]; rfl
  ·unfold j6
   dsimp only
   rw[z8 (jy _),z7]
 have h3:(xk f.2.2.2.2.1 (λz0=>wg z0)).run=some (f.2.2.2.2.1.any tf):=Ho f.2.2.2.2.1 _ tf (λx hx=>by
  obtain⟨_,_,x1,x2⟩:=h.r x hx
  exact PS x x1 x2) (by omega)
 unfold dz
 rw[z6 key]
 cases a5 f with
 | false=>rfl
 | true =>
  rw[if_pos rfl,Sum.elim_inl,z6 h3,z7]
  rfl
theorem VA(s:zf)(h:s.length<=600):(eI s).run=some (whS s):=by
 unfold eI whS
 cases s with
 | nil=>rfl
 | cons b r=>rw[z8 (by rfl),zp _ (by simp only[List.length_cons,List.length_nil]at *; omega),z7,if_neg (by simp)]; rfl
theorem LD(x:Field)(h:x.1.length<=600)(h1:JN 0 x.2.2.2.1)(h2:JN x.2.2.2.1 9):(fK x).run=some (fdS x):=by
 have hi:=OZ x.2.2.2.1 ⟨by unfold JN at *; omega,by unfold JN at *; omega⟩
 have hl:=BL x.2.2.2.1 ⟨by unfold JN at *; omega,by unfold JN at *; omega⟩
 obtain⟨nm,pg,mu,sc,u⟩:=x
 have h:nm.length<=600:=h
 dsimp only at hi hl
 unfold fK fdS
 dsimp only
 have e:(bif mu then(cat (cat ([102,105,101,108,100,32]:zf) nm) ([32,109,117,115,116]:zf))else(cat ([102,105,101,108,100,32]:zf) nm))=fhS (nm,pg,mu,sc,u):=rfl
 have hf:(fhS (nm,pg,mu,sc,u)).length<=nm.length+11:=Gq _
 rw[zp _ (by simp only[List.length_cons,List.length_nil]; omega),zb (λ_=>by simp only[zV,List.length_cons,List.length_nil]; omega),e]
 by_cases hs:ilt 0 sc
 ·rw[za (decide_eq_true hs),z6 hi,zp _ (by simp only[List.length_cons,List.length_nil]; omega),zp _ (by simp only[zV,List.length_cons,List.length_nil]; omega),zp _ (by simp only[zV,List.length_cons,List.length_nil]; omega),z7,if_pos hs]
  rfl
 ·rw[z8 (decide_eq_false hs),zp _ (by simp only[List.length_cons,List.length_nil]; omega),z7,if_neg hs]
  rfl
theorem Y1(l r:Expr)(s:zf)(hs:s.length<=8)(h1:vG l)(h2:vG r)(o1:vN 0 l=true)(o2:vN 0 r=true):(c8 l s r).run=some (Od l s r):=by
 have l1:=cB h1 o1
 have l2:=cB h2 o2
 unfold c8
 rw[z6 (Ia h1 o1)]
 rw[zp _ (by simp only[List.length_cons,List.length_nil]; omega),zp _ (by simp only[zV,List.length_cons,List.length_nil]; omega),zp _ (by simp only[zV,List.length_cons,List.length_nil]; omega),zp _ (by simp only[zV,List.length_cons,List.length_nil]; omega)]
 rw[z6 (Ia h2 o2)]
 rw[zp _ (by simp only[zV,List.length_cons,List.length_nil]; omega),zp _ (by simp only[zV,List.length_cons,List.length_nil]; omega),z7]
 rfl
theorem z1d(n:Int)(h:0<=n)(h2:n<=2):nth ([([61]:zf),([60]:zf),([60,61]:zf)]:List zf) n (zj .str)=bD n:=by
 have:n=0\/n=1\/n=2:=by omega
 rcases this with rfl | rfl | rfl<;>rfl
theorem z1h(n:Int)(h:0<=n)(h2:n<=3):nth ([([114,101,113,117,105,114,101,100]:zf),([115,116,114,111,110,103]:zf),([109,101,100,105,117,109]:zf),([119,101,97,107]:zf)]:List zf) n (zj .str)=D6 n:=by
 have:n=0\/n=1\/n=2\/n=3:=by omega
 rcases this with rfl | rfl | rfl | rfl<;>rfl
theorem NP(f:Form)(h:M0 f)(i:Nat)(hi:i<f.2.2.1.length)(b:zf)(hb:b.length<=110000000000000):(dc f (i:Int) () (bytesOf b)).run=some ((),bytesOf (b++MV f i)):=by
 have hn:=h.n
 obtain⟨g1,g2⟩:=IN h hi
 have hp:=I9 _ g1 g2
 have hw:=rF (nth f.2.2.1 (i:Int) (zj zO)).2.1
 have k1:∀ s:zf,s.length<=115000000000000->(ni (i:Int) f f.2.2.2.1 (f.2.2.2.1.length:Int) (0,(),bytesOf s)).run=some ((),bytesOf (s++f.2.2.2.1.flatMap (NB i))):=λs hs=>by
  refine l9 (r:=uZ (i:Int) f f.2.2.2.1 (f.2.2.2.1.length:Int)) f.2.2.2.1 (zj zy) 300000000 120000000000000 (NB i) s (λk b x hk hx hm hb => ?_) (λb => ?_) (Qb h i) (by omega)
  ·unfold uZ NB
   dsimp only
   rw[za (ua hk),zb (zW hk),hx]
   cases hc:x.2.1==(i:Int)with
   | true =>
    have fl:=Gu x (h.d x hm) (h.d2 x hm).1 (h.d2 x hm).2
    rw[zh,z6 (LD x (h.d x hm) (h.d2 x hm).1 (h.d2 x hm).2),zL _ rfl rfl rfl,T.zi,z6 (vY (fdS x) b (by omega))]
    dsimp only
    rw[zL _ rfl rfl rfl,T.zi,z7,fB k _ hk (by omega),if_pos rfl]
   | false =>
    rw[zg,zL _ rfl rfl rfl,T.zi,z7,fB k _ hk (by omega),if_neg (by decide),List.append_nil]
  ·unfold uZ
   dsimp only
   rw[z8 (jy _),zL _ rfl rfl rfl,T.zi,z7]
 have k2:∀ s:zf,s.length<=120000000000000->(mY (i:Int) f.2.2.2.2.2.1 (f.2.2.2.2.2.1.length:Int) (0,(),bytesOf s)).run=some ((),bytesOf (s++f.2.2.2.2.2.1.flatMap (Tm i))):=λs hs=>by
  refine l9 (r:=j4 (i:Int) f.2.2.2.2.2.1 (f.2.2.2.2.2.1.length:Int)) f.2.2.2.2.2.1 (zj zD) 300000000 130000000000000 (Tm i) s (λk b x hk hx hm hb => ?_) (λb => ?_) (G3 h i) (by omega)
  ·unfold j4 Tm
   dsimp only
   rw[za (ua hk),zb (zW hk),hx]
   cases hc:x.2.1==(i:Int)with
   | true =>
    obtain⟨q1,q2,q3⟩:=h.c x hm
    obtain⟨c1,c2,o1,o2⟩:=h.c2 x hm
    have cl:=Fw x q1 q2 q3 o1 o2
    have hs:=Y1 x.2.2.2.1 x.2.2.2.2.1 (bD x.2.2.1) (by have:=ZN x.2.2.1; omega) q2 q3 o1 o2
    have sl:=Wt (bD x.2.2.1) (by have:=ZN x.2.2.1; omega) q2 q3 o1 o2
    unfold wM
    rw[zh,zp _ (by simp only[List.length_cons,List.length_nil]; omega)]
    simp only[T.bind,eV]
    have c3:x.2.2.1<((3:Nat):Int):=Int.lt_of_le_of_lt c2 (by decide)
    rw[zb ⟨c1,c3⟩,z1d _ c1 c2,z6 hs,zp _ (by simp only[zV,List.length_cons,List.length_nil]; omega),zL _ rfl rfl rfl,zb rfl]
    have e:cat (cat ([99,104,101,99,107,32]:zf) x.1) (Od x.2.2.2.1 (bD x.2.2.1) x.2.2.2.2.1)=ckS x:=rfl
    rw[e,z6 (vY (ckS x) b (by omega))]
    dsimp only
    rw[zL _ rfl rfl rfl,zb rfl,z7,fB k _ hk (by omega),if_pos trivial]
   | false =>
    rw[zg,zL _ rfl rfl rfl,T.zi,z7,fB k _ hk (by omega),if_neg (by decide),List.append_nil]
  ·unfold j4
   dsimp only
   rw[z8 (jy _),zL _ rfl rfl rfl,T.zi,z7]
 have l2:=uJ (NB i) f.2.2.2.1 300000000 (Qb h i)
 unfold dc
 rw[zb (zW hi),zp _ (by simp only[List.length_cons,List.length_nil]; omega),zb (zW hi),z6 (VA _ g2),zp _ (by simp only[zV,List.length_cons,List.length_nil]; omega),zp _ (by simp only[zV,List.length_cons,List.length_nil]; omega),zL _ rfl rfl rfl,T.zi]
 have e:cat (cat (cat ([112,97,103,101,32]:zf) (nth f.2.2.1 (i:Int) (zj zO)).1) (whS (nth f.2.2.1 (i:Int) (zj zO)).2.1)) ([10]:zf)=phS (nth f.2.2.1 (i:Int) (zj zO)):=rfl
 rw[e,z6 (vY _ b (by omega))]
 dsimp only
 rw[zL _ rfl rfl rfl,T.zi,z6 (k1 _ (by rw[List.length_append]; omega))]
 dsimp only
 rw[zL _ rfl rfl rfl,T.zi,z6 (k2 _ (by rw[List.length_append,List.length_append]; omega))]
 dsimp only
 rw[zL _ rfl rfl rfl,T.zi,z7]
 unfold MV
 simp only[List.append_assoc]
theorem Kk(n k:Nat)(h:k<n):nth (List.range n) (k:Int) 0=k:=by
 rw[uN (by rw[List.length_range]; exact h),List.getElem_range]
theorem Bg{f:Form}(h:M0 f):(f.1.flatMap ND).length<=f.1.length*300000000:=uJ ND f.1 300000000 λx hx=>Wy x (h.s x hx)
theorem Bl{f:Form}(h:M0 f):(f.2.1.flatMap NC).length<=f.2.1.length*300000000:=uJ NC f.2.1 300000000 λx hx=>WM x (h.p x hx).1 (h.p x hx).2
theorem HV{f:Form}(h:M0 f):((List.range f.2.2.1.length).flatMap (MV f)).length<=f.2.2.1.length*181000000000:=by
 have:=uJ (MV f) (List.range f.2.2.1.length) 181000000000 (λx hx=>G4 h (List.mem_range.1 hx))
 rwa [List.length_range]at this
theorem BN{f:Form}(h:M0 f):(f.2.2.2.2.1.flatMap CS).length<=f.2.2.2.2.1.length*300000000:=uJ CS f.2.2.2.2.1 300000000 λx hx=>by
 obtain⟨q1,q2,q3,q4⟩:=h.r x hx
 obtain⟨_,_,o1,o2⟩:=h.r2 x hx
 exact Wm x q1 q2 q3 q4 o1 o2
theorem cJ(f:Form)(h:M0 f):(cu f).run=some (frS f):=by
 have hn:=h.n
 have m1:=Bg h
 have m2:=Bl h
 have m3:=HV h
 have m4:=BN h
 have k1:(nU f f.1 (f.1.length:Int) (0,(),bytesOf [])).run=some ((),bytesOf ([]++f.1.flatMap ND)):=by
  refine l9 (r:=jB f f.1 (f.1.length:Int)) f.1 (zj zt) 300000000 110000000000000 ND [] (λk b x hk hx hm hb => ?_) (λb => ?_) (λx hx=>Wy x (h.s x hx)) (by simp only[List.length_nil]; omega)
  ·have q:=h.s x hm
   have sl:=Wy x q
   have bl:(bif x.2.1 then([32,111,110,10]:zf)else[32,111,102,102,10]).length<=5:=by cases x.2.1<;>decide
   unfold jB
   dsimp only
   rw[za (ua hk),zb (zW hk),hx,zp _ (by simp only[List.length_cons,List.length_nil]; omega),zp _ (by simp only[zV,List.length_cons,List.length_nil]; omega),zL _ rfl rfl rfl,T.zi]
   have e:cat (cat ([115,119,105,116,99,104,32]:zf) x.1) (bif x.2.1 then([32,111,110,10]:zf)else([32,111,102,102,10]:zf))=ND x:=rfl
   rw[e,z6 (vY (ND x) b (by omega))]
   dsimp only
   rw[zL _ rfl rfl rfl,T.zi,z7,fB k _ hk (by omega)]
  ·unfold jB
   dsimp only
   rw[z8 (jy _),zL _ rfl rfl rfl,T.zi,z7]
 have k2:∀ s:zf,s.length<=190000000000->(oX f f.2.1 (f.2.1.length:Int) (0,(),bytesOf s)).run=some ((),bytesOf (s++f.2.1.flatMap NC)):=λs hs=>by
  refine l9 (r:=jE f f.2.1 (f.2.1.length:Int)) f.2.1 (zj zw) 300000000 110000000000000 NC s (λk b x hk hx hm hb => ?_) (λb => ?_) (λx hx=>WM x (h.p x hx).1 (h.p x hx).2) (by omega)
  ·obtain⟨q,hr⟩:=h.p x hm
   have hr:wW 1000 x.2.1:=⟨hr.1,hr.2.1,by have:=hr.2.2.1; omega,by have:=hr.2.2.2; omega⟩
   have sl:=WM x q (h.p x hm).2
   have hd:(iT (x.2.1.1,(x.2.1.2.1,(x.2.1.2.2.1,())))).run=some (iv (norm x.2.1)):=JA x.2.1 hr
   have pl:=th _ hr
   unfold jE
   dsimp only
   rw[za (ua hk),zb (zW hk),hx,zp _ (by simp only[List.length_cons,List.length_nil]; omega),zp _ (by simp only[zV,List.length_cons,List.length_nil]; omega),z6 hd,zp _ (by simp only[zV,List.length_cons,List.length_nil]; omega),zp _ (by simp only[zV,List.length_cons,List.length_nil]; omega),zL _ rfl rfl rfl,T.zi]
   have e:cat (cat (cat (cat ([112,97,114,97,109,32]:zf) x.1) ([32]:zf)) (iv (norm x.2.1))) ([10]:zf)=NC x:=rfl
   rw[e,z6 (vY (NC x) b (by omega))]
   dsimp only
   rw[zL _ rfl rfl rfl,T.zi,z7,fB k _ hk (by omega)]
  ·unfold jE
   dsimp only
   rw[z8 (jy _),zL _ rfl rfl rfl,T.zi,z7]
 have k3:∀ s:zf,s.length<=380000000000->(oJ f (f.2.2.1.length:Int) (0,(),bytesOf s)).run=some ((),bytesOf (s++(List.range f.2.2.1.length).flatMap (MV f))):=λs hs=>by
  refine l9 (r:=jX f (f.2.2.1.length:Int)) (List.range f.2.2.1.length) 0 181000000000 110000000000000 (MV f) s (λk b x hk hx hm hb => ?_) (λb => ?_) (λx hx=>G4 h (List.mem_range.1 hx)) (by rw[List.length_range]; omega)
  ·rw[List.length_range]at hk
   rw[Kk _ _ hk]at hx
   subst hx
   unfold jX
   dsimp only
   rw[za (ua hk),zL _ rfl rfl rfl,T.zi,z6 (NP f h k hk b (by omega))]
   dsimp only
   rw[zL _ rfl rfl rfl,T.zi,z7,fB k _ hk (by omega)]
  ·unfold jX
   dsimp only
   rw[List.length_range,z8 (jy _),zL _ rfl rfl rfl,T.zi,z7]
 have k4:∀ s:zf,s.length<=109000000000000->(oc f.2.2.2.2.1 (f.2.2.2.2.1.length:Int) (0,(),bytesOf s)).run=some ((),bytesOf (s++f.2.2.2.2.1.flatMap CS)):=λs hs=>by
  refine l9 (r:=jN f.2.2.2.2.1 (f.2.2.2.2.1.length:Int)) f.2.2.2.2.1 (zj zX) 300000000 110000000000000 CS s (λk b x hk hx hm hb => ?_) (λb => ?_) (λx hx=>by
   obtain⟨q1,q2,q3,q4⟩:=h.r x hx
   obtain⟨_,_,o1,o2⟩:=h.r2 x hx
   exact Wm x q1 q2 q3 q4 o1 o2) (by omega)
  ·obtain⟨q1,q2,q3,q4⟩:=h.r x hm
   obtain⟨c1,c2,o1,o2⟩:=h.r2 x hm
   have rl:=Wm x q1 q2 q3 q4 o1 o2
   have hs:=Y1 x.2.2.2.1 x.2.2.2.2.1 [61] (by decide) q3 q4 o1 o2
   have sl:=Wt [61] (by decide) q3 q4 o1 o2
   have tl:=Vw x.2.1
   have wl:=rF x.2.2.1
   have c3:x.2.1<((4:Nat):Int):=Int.lt_of_le_of_lt c2 (by decide)
   unfold jN xK
   dsimp only
   rw[za (ua hk),zb (zW hk),hx]
   simp only[T.bind,eV]
   rw[zb ⟨c1,c3⟩,z1h _ c1 c2,zp _ (by simp only[List.length_cons,List.length_nil]; omega),zp _ (by simp only[zV,List.length_cons,List.length_nil]; omega),zp _ (by simp only[zV,List.length_cons,List.length_nil]; omega),z6 (VA _ q2),
    zp _ (by simp only[zV,List.length_cons,List.length_nil]; omega),z6 hs,zp _ (by simp only[zV,List.length_cons,List.length_nil]; omega),zL _ rfl rfl rfl,zb rfl]
   have e:cat (cat (cat (cat (cat ([114,117,108,101,32]:zf) (D6 x.2.1)) ([32]:zf)) x.1) (whS x.2.2.1)) (Od x.2.2.2.1 [61] x.2.2.2.2.1)=CS x:=rfl
   rw[e,z6 (vY (CS x) b (by omega))]
   dsimp only
   rw[zL _ rfl rfl rfl,zb rfl,z7,fB k _ hk (by omega)]
  ·unfold jN
   dsimp only
   rw[z8 (jy _),zL _ rfl rfl rfl,T.zi,z7]
 unfold cu
 rw[zL _ rfl rfl rfl,T.zi]
 refine(z6 k1 _).trans ?_
 dsimp only
 rw[List.nil_append,zL _ rfl rfl rfl,T.zi,z6 (k2 _ (by omega))]
 dsimp only
 rw[zL _ rfl rfl rfl,T.zi,z6 (k3 _ (by rw[List.length_append]; omega))]
 dsimp only
 rw[zL _ rfl rfl rfl,T.zi,z6 (k4 _ (by simp only[List.length_append]; omega))]
 dsimp only
 rw[zL _ rfl rfl rfl,T.zi,z6 (Jj _ (by simp only[List.length_append]; omega))]
 rfl
def sS(f:Form):Bool:=a1 f&&(a2 f&&(a3 f&&(a4 f&&(a5 f&&(a6 f&&decide (((frS f).length:Int)<=16384))))))
theorem dw(f:Form)(h:FS f):(dS f).run=some (sS f):=by
 unfold dS sS
 rw[z6 (LB f h)]
 cases a1 f with
 | false=>rfl
 | true =>
 cases a2 f with
 | false=>rfl
 | true =>
 cases a3 f with
 | false=>rfl
 | true =>
 rw[za (by rfl),z6 (X3 f h)]
 cases h4:a4 f with
 | false=>rfl
 | true =>
 rw[za (by rfl),z6 (Qz f h)]
 cases h5:a5 f with
 | false=>rfl
 | true =>
 cases h6:a6 f with
 | false=>rfl
 | true =>
 rw[za (by rfl),z6 (cJ f (Fy h h4 h5 h6)),z7]
 rfl
theorem z6w{r:Rat}(hr:wW 100 r):wW 100000000 r:=⟨hr.1,hr.2.1,by have:=hr.2.2.1; omega,by have:=hr.2.2.2; omega⟩
theorem z2a{r:Rat}(hr:wW 100 r):wW 1000 r:=⟨hr.1,hr.2.1,by have:=hr.2.2.1; omega,by have:=hr.2.2.2; omega⟩
theorem JY(s:zf):(eL s).run=some (lR s):=by
 unfold eL lR
 cases zl s []with
 | true=>rfl
 | false=>rw[zg,z6 (vp s)]; rfl
theorem VM(f:Form)(h:FS f):(mR f).run=some (a4 f&&a5 f):=by
 have hn:=h.n
 have k1:(si f (0,0)).run=some (if a4 f=true then .inl ()else .inr false):=by
  refine pY (r:=kU f) f.2.2.2.1 (zj zy) (U6 (f.2.2.1.length:Int)) (λx=>x.2.1) (λat_ x h0 hb => ?_) (λk at_ x hk hx hm h0 => ?_) (λat_ => ?_)
  ·unfold U6 at hb
   rw[Bool.or_eq_false_iff,decide_eq_false_iff_not]at hb
   exact Int.le_trans h0 (Int.not_lt.1 hb.1)
  ·unfold kU
   dsimp only
   rw[za (ua hk),zb (zW hk),hx]
   refine(z6 (a:=(U6 (f.2.2.1.length:Int) at_ x,x)) ?_ _).trans ?_
   ·exact LL (LL (oN (vp x.1) (LL (z7 _))))
   ·dsimp only
    cases U6 (f.2.2.1.length:Int) at_ x with
    | true=>rfl
    | false=>rw[zg,z7,fB k _ hk (by omega)]; rfl
  ·unfold kU
   dsimp only
   rw[z8 (jy _),z7]
 have k2:(sn f (0,0)).run=some (if a5 f=true then .inl ()else .inr false):=by
  refine pY (r:=y3 f) f.2.2.2.2.2.1 (zj zD) (VK (f.2.2.1.length:Int)) (λx=>x.2.1) (λat_ x h0 hb => ?_) (λk at_ x hk hx hm h0 => ?_) (λat_ => ?_)
  ·unfold VK at hb
   rw[Bool.or_eq_false_iff,decide_eq_false_iff_not]at hb
   exact Int.le_trans h0 (Int.not_lt.1 hb.1)
  ·obtain⟨_,x1,x2⟩:=h.c x hm
   unfold y3
   dsimp only
   rw[za (ua hk),zb (zW hk),hx]
   simp only[eV]
   refine(z6 (a:=(VK (f.2.2.1.length:Int) at_ x,x)) ?_ _).trans ?_
   ·exact LL (LL (oN (vp x.1) (LL (LL (oN (oo x1) (z4j (oo x2)))))))
   ·dsimp only
    cases VK (f.2.2.1.length:Int) at_ x with
    | true=>rfl
    | false=>rw[zg,z7,fB k _ hk (by omega)]; rfl
  ·unfold y3
   dsimp only
   rw[z8 (jy _),z7]
 unfold mR
 rw[z6 k1]
 cases a4 f with
 | false=>rfl
 | true =>
  rw[if_pos rfl,Sum.elim_inl,z6 k2]
  cases a5 f<;>rfl
theorem sg(s:zf)(h:s.length<=600):(pN s).run=some (whS s):=VA s h
theorem EJ(n:Int)(h1:1<=n)(h2:n<=9):qK [GW (zF (48+n))]=nh n:=by
 have:n=1\/n=2\/n=3\/n=4\/n=5\/n=6\/n=7\/n=8\/n=9:=by omega
 have e:∀ k:Nat,k<10->nh (k:Int)=[UInt8.ofNat (48+k)]:=λk hk=>by
  unfold nh
  rw[if_neg (by omega),Int.toNat_natCast,AM.VJ,dif_pos hk]
 rcases this with rfl | rfl | rfl | rfl | rfl | rfl | rfl | rfl | rfl
 ·exact(e 1 (by decide)).symm
 ·exact(e 2 (by decide)).symm
 ·exact(e 3 (by decide)).symm
 ·exact(e 4 (by decide)).symm
 ·exact(e 5 (by decide)).symm
 ·exact(e 6 (by decide)).symm
 ·exact(e 7 (by decide)).symm
 ·exact(e 8 (by decide)).symm
 ·exact(e 9 (by decide)).symm
theorem WY(x:Field)(h:x.1.length<=600)(h1:JN 0 x.2.2.2.1)(h2:JN x.2.2.2.1 9):(lJ x).run=some (fdS x):=by
 have hi:=λh0:JN 1 x.2.2.2.1=>EJ x.2.2.2.1 h0 h2
 have hb:(qK ([(GW (zF ((48:Int)+x.2.2.2.1)))]:List Int)).length=1:=rfl
 have hz:¬ ilt 0 x.2.2.2.1->x.2.2.2.1=(0:Int):=λq=>Int.le_antisymm (Int.not_lt.1 q) h1
 have ho:ilt 0 x.2.2.2.1->JN 1 x.2.2.2.1:=λq=>by unfold JN ilt at *; omega
 have hf:(fhS x).length<=x.1.length+11:=Gq _
 unfold lJ fdS
 have e:(bif x.2.2.1 then(cat (cat ([102,105,101,108,100,32]:zf) x.1) ([32,109,117,115,116]:zf))else(cat ([102,105,101,108,100,32]:zf) x.1))=fhS x:=rfl
 rw[zp _ (by simp only[List.length_cons,List.length_nil]; omega),zb (λ_=>by simp only[zV,List.length_cons,List.length_nil]; omega),e]
 clear e
 by_cases hs:ilt 0 x.2.2.2.1
 ·have vT:(x.2.2.2.1 != (0:Int))=true:=by
   rw[bne_iff_ne]; intro q; unfold ilt at hs; rw[q]at hs; exact absurd hs (by decide)
  rw[za vT,zp _ (by simp only[List.length_cons,List.length_nil]; omega),zp _ (by simp only[zV,List.length_cons,List.length_nil]; omega),zp _ (by simp only[zV,List.length_cons,List.length_nil]; omega),z7,if_pos hs,hi (ho hs)]
  simp only[jZ,List.append_assoc]
 ·have vT:(x.2.2.2.1 != (0:Int))=false:=by rw[hz hs]; rfl
  rw[z8 vT,zp _ (by simp only[List.length_cons,List.length_nil]; omega),z7,if_neg hs]
  rfl
theorem z2g(n:Int):(Qh n).run=some (bD n):=by
 unfold Qh bD
 by_cases h1:n=1
 ·rw[if_pos h1,za (by rw[h1]; rfl),z7]
 ·rw[if_neg h1,z8 (by simpa using h1)]
  by_cases h2:n=2
  ·rw[if_pos h2,za (by rw[h2]; rfl),z7]
  ·rw[if_neg h2,z8 (by simpa using h2),z7]
theorem Yx(n:Int):(bW n).run=some (D6 n):=by
 unfold bW D6
 by_cases h0:n=0
 ·rw[if_pos h0,za (by rw[h0]; rfl),z7]
 ·rw[if_neg h0,z8 (by simpa using h0)]
  by_cases h1:n=1
  ·rw[if_pos h1,za (by rw[h1]; rfl),z7]
  ·rw[if_neg h1,z8 (by simpa using h1)]
   by_cases h2:n=2
   ·rw[if_pos h2,za (by rw[h2]; rfl),z7]
   ·rw[if_neg h2,z8 (by simpa using h2),z7]
theorem sI(f:Form)(h:M0 f):(iG f).run=some (frS f):=by
 have hn:=h.n
 have m1:=Bg h
 have m2:=Bl h
 have m3:=HV h
 have m4:=BN h
 have k1:(Ze f ([],0)).run=some ([]++f.1.flatMap ND):=by
  refine iO (r:=gM f) f.1 (zj zt) 300000000 110000000000000 ND [] (λk b x hk hx hm hb => ?_) (λb => ?_) (λx hx=>Wy x (h.s x hx)) (by simp only[List.length_nil]; omega)
  ·have q:=h.s x hm
   have bl:(bif x.2.1 then([32,111,110,10]:zf)else[32,111,102,102,10]).length<=5:=by cases x.2.1<;>decide
   unfold gM
   dsimp only
   rw[hx,za (ua hk),zb (zW hk),zp _ (by simp only[zV,List.length_cons,List.length_nil]; omega),zb (zW hk),zp _ (by simp only[zV,List.length_cons,List.length_nil]; omega),zp _ (by simp only[zV,List.length_cons,List.length_nil]; omega),z7,fB k _ hk (by omega)]
   unfold ND
   simp only[jZ,List.append_assoc]
  ·unfold gM
   dsimp only
   rw[z8 (jy _),z7]
 have k2:∀ s:zf,s.length<=190000000000->(ZP f (s,0)).run=some (s++f.2.1.flatMap NC):=λs hs=>by
  refine iO (r:=gC f) f.2.1 (zj zw) 300000000 110000000000000 NC s (λk b x hk hx hm hb => ?_) (λb => ?_) (λx hx=>WM x (h.p x hx).1 (h.p x hx).2) (by omega)
  ·obtain⟨q,hr⟩:=h.p x hm
   have hr:=z2a hr
   have pl:=th _ hr
   unfold gC
   dsimp only
   rw[hx,za (ua hk),zp _ (by simp only[zV,List.length_cons,List.length_nil]; omega),zb (zW hk),zp _ (by simp only[zV,List.length_cons,List.length_nil]; omega),zp _ (by simp only[zV,List.length_cons,List.length_nil]; omega),zb (zW hk),z6 (UT _ hr),
    zp _ (by simp only[zV,List.length_cons,List.length_nil]; omega),zp _ (by simp only[zV,List.length_cons,List.length_nil]; omega),z7,fB k _ hk (by omega)]
   unfold NC
   simp only[jZ,List.append_assoc]
  ·unfold gC
   dsimp only
   rw[z8 (jy _),z7]
 have j1:∀ (i:Nat) (s:zf),s.length<=115000000000000->(tZ f (i:Int) (s,0)).run=some (s++f.2.2.2.1.flatMap (NB i)):=λi s hs=>by
  refine iO (r:=gq f (i:Int)) f.2.2.2.1 (zj zy) 300000000 120000000000000 (NB i) s (λk b x hk hx hm hb => ?_) (λb => ?_) (Qb h i) (by omega)
  ·unfold gq NB
   dsimp only
   rw[hx,za (ua hk),zb (zW hk)]
   cases hc:x.2.1==(i:Int)with
   | true =>
    have fl:=Gu x (h.d x hm) (h.d2 x hm).1 (h.d2 x hm).2
    rw[zh,zb (zW hk),z6 (WY x (h.d x hm) (h.d2 x hm).1 (h.d2 x hm).2),zp _ (by omega),z7,fB k _ hk (by omega),if_pos rfl,jZ]
   | false=>rw[zg,z7,fB k _ hk (by omega),if_neg (by decide),List.append_nil]
  ·unfold gq
   dsimp only
   rw[z8 (jy _),z7]
 have j2:∀ (i:Nat) (s:zf),s.length<=120000000000000->(ZC f (i:Int) (s,0)).run=some (s++f.2.2.2.2.2.1.flatMap (Tm i)):=λi s hs=>by
  refine iO (r:=gE f (i:Int)) f.2.2.2.2.2.1 (zj zD) 300000000 130000000000000 (Tm i) s (λk b x hk hx hm hb => ?_) (λb => ?_) (G3 h i) (by omega)
  ·unfold gE Tm
   dsimp only
   rw[hx,za (ua hk),zb (zW hk)]
   simp only[eV]
   cases hc:x.2.1==(i:Int)with
   | true =>
    obtain⟨q1,q2,q3⟩:=h.c x hm
    obtain⟨c1,c2,o1,o2⟩:=h.c2 x hm
    have p1:=cB q2 o1
    have p2:=cB q3 o2
    have cl:=ZN x.2.2.1
    rw[zh,zp _ (by simp only[zV,List.length_cons,List.length_nil]; omega),zp _ (by simp only[zV,List.length_cons,List.length_nil]; omega),zp _ (by simp only[zV,List.length_cons,List.length_nil]; omega),z6 (Zo q2 o1),
     zp _ (by simp only[zV,List.length_cons,List.length_nil]; omega),zp _ (by simp only[zV,List.length_cons,List.length_nil]; omega),z6 (z2g _),zp _ (by simp only[zV,List.length_cons,List.length_nil]; omega),zp _ (by simp only[zV,List.length_cons,List.length_nil]; omega),
     z6 (Zo q3 o2),zp _ (by simp only[zV,List.length_cons,List.length_nil]; omega),zp _ (by simp only[zV,List.length_cons,List.length_nil]; omega),z7,fB k _ hk (by omega),if_pos rfl]
    unfold ckS Od
    simp only[jZ,List.append_assoc]
   | false=>rw[zg,z7,fB k _ hk (by omega),if_neg (by decide),List.append_nil]
  ·unfold gE
   dsimp only
   rw[z8 (jy _),z7]
 have k3:∀ s:zf,s.length<=380000000000->(Qr f (s,0)).run=some (s++(List.range f.2.2.1.length).flatMap (MV f)):=λs hs=>by
  refine iO (r:=gQ f) (List.range f.2.2.1.length) 0 181000000000 110000000000000 (MV f) s (λk b x hk hx hm hb => ?_) (λb => ?_) (λx hx=>G4 h (List.mem_range.1 hx)) (by rw[List.length_range]; omega)
  ·rw[List.length_range]at hk
   rw[Kk _ _ hk]at hx
   subst hx
   obtain⟨g1,g2⟩:=IN h hk
   have hw:=rF (nth f.2.2.1 (k:Int) (zj zO)).2.1
   have fl:=uJ (NB k) f.2.2.2.1 300000000 (Qb h k)
   unfold gQ
   dsimp only
   rw[za (ua hk),zp _ (by simp only[zV,List.length_cons,List.length_nil]; omega),zb (zW hk),zp _ (by simp only[zV,List.length_cons,List.length_nil]; omega),zb (zW hk),z6 (sg _ g2),zp _ (by simp only[zV,List.length_cons,List.length_nil]; omega),zp _ (by simp only[zV,List.length_cons,List.length_nil]; omega),
    z6 (j1 k _ (by simp only[zV,List.length_cons,List.length_nil]; omega)),z6 (j2 k _ (by simp only[List.length_append,zV,List.length_cons,List.length_nil]; omega)),z7,fB k _ hk (by omega)]
   unfold MV phS
   simp only[jZ,List.append_assoc]
  ·unfold gQ
   dsimp only
   rw[List.length_range,z8 (jy _),z7]
 have k4:∀ s:zf,s.length<=109000000000000->(Zr f (s,0)).run=some (s++f.2.2.2.2.1.flatMap CS):=λs hs=>by
  refine iO (r:=gF f) f.2.2.2.2.1 (zj zX) 300000000 110000000000000 CS s (λk b x hk hx hm hb => ?_) (λb => ?_) (λx hx=>by
   obtain⟨q1,q2,q3,q4⟩:=h.r x hx
   obtain⟨_,_,o1,o2⟩:=h.r2 x hx
   exact Wm x q1 q2 q3 q4 o1 o2) (by omega)
  ·obtain⟨q1,q2,q3,q4⟩:=h.r x hm
   obtain⟨c1,c2,o1,o2⟩:=h.r2 x hm
   have p1:=cB q3 o1
   have p2:=cB q4 o2
   have tl:=Vw x.2.1
   have wl:=rF x.2.2.1
   unfold gF
   dsimp only
   rw[hx,za (ua hk),zb (zW hk)]
   simp only[eV]
   rw[zp _ (by simp only[zV,List.length_cons,List.length_nil]; omega),z6 (Yx _),zp _ (by simp only[zV,List.length_cons,List.length_nil]; omega),zp _ (by simp only[zV,List.length_cons,List.length_nil]; omega),zp _ (by simp only[zV,List.length_cons,List.length_nil]; omega),z6 (sg _ q2),
    zp _ (by simp only[zV,List.length_cons,List.length_nil]; omega),zp _ (by simp only[zV,List.length_cons,List.length_nil]; omega),z6 (Zo q3 o1),zp _ (by simp only[zV,List.length_cons,List.length_nil]; omega),zp _ (by simp only[zV,List.length_cons,List.length_nil]; omega),z6 (Zo q4 o2),
    zp _ (by simp only[zV,List.length_cons,List.length_nil]; omega),zp _ (by simp only[zV,List.length_cons,List.length_nil]; omega),z7,fB k _ hk (by omega)]
   unfold CS Od
   simp only[jZ,List.append_assoc,List.cons_append,List.nil_append]
  ·unfold gF
   dsimp only
   rw[z8 (jy _),z7]
 unfold iG
 rw[z6 k1,List.nil_append,z6 (k2 _ (by omega)),z6 (k3 _ (by rw[List.length_append]; omega)),z6 (k4 _ (by simp only[List.length_append]; omega)),z7]
 rfl
theorem Xa(f:Form)(h:FS f):(Qk f).run=some (sS f):=by
 have hn:=h.n
 have k1:(VR f 0).run=some (if f.1.any Jq=true then .inr false else .inl ()):=by
  refine Zv (r:=dQ f) f.1 (zj zt) Jq (λk x hk hx hm => ?_) ?_
  ·unfold dQ Jq
   dsimp only
   rw[za (ua hk),zb (zW hk),hx,z6 (vp x.1)]
   cases q7 x.1 with
   | true=>rw[z8 (by rfl),z7,fB k _ hk (by omega)]; rfl
   | false=>rfl
  ·unfold dQ
   rw[z8 (jy _),z7]
 have k2:(VY f 0).run=some (if f.2.1.any nk=true then .inr false else .inl ()):=by
  refine Zv (r:=fa f) f.2.1 (zj zw) nk (λk x hk hx hm => ?_) ?_
  ·unfold fa
   dsimp only
   rw[za (ua hk)]
   refine(z6 (a:=nk x) ?_ _).trans ?_
   ·rw[zb (zW hk),hx]
    refine(XG (vp x.1) ((zb (zW hk) _).trans (SI (rW _ (z6w (h.p x hm).2))))).trans ?_
    unfold nk
    cases iA x.2.1<;>cases kT x.2.1<;>rfl
   ·cases nk x with
    | true=>rfl
    | false=>rw[zg,z7,fB k _ hk (by omega)]; rfl
  ·unfold fa
   rw[z8 (jy _),z7]
 have k3:(VL f 0).run=some (if f.2.2.1.any J4=true then .inr false else .inl ()):=by
  refine Zv (r:=dP f) f.2.2.1 (zj zO) J4 (λk x hk hx hm => ?_) ?_
  ·unfold dP
   dsimp only
   rw[za (ua hk)]
   refine(z6 (a:=J4 x) ?_ _).trans ?_
   ·rw[zb (zW hk),hx]
    exact XG (vp x.1) ((zb (zW hk) _).trans (SI (JY _)))
   ·cases J4 x with
    | true=>rfl
    | false=>rw[zg,z7,fB k _ hk (by omega)]; rfl
  ·unfold dP
   rw[z8 (jy _),z7]
 have k4:(Vb f 0).run=some (if f.2.2.2.2.1.any tf=true then .inr false else .inl ()):=by
  refine Zv (r:=eU f) f.2.2.2.2.1 (zj zX) tf (λk x hk hx hm => ?_) ?_
  ·obtain⟨_,_,x1,x2⟩:=h.r x hm
   unfold eU
   dsimp only
   rw[za (ua hk),zb (zW hk),hx]
   simp only[eV]
   refine(z6 (a:=(tf x,x)) ?_ _).trans ?_
   ·exact oN (vp x.1) (oN (JY _) (LL (LL (oN (oo x1) (z4j (oo x2))))))
   ·dsimp only
    cases tf x with
    | true=>rfl
    | false=>rw[zg,z7,fB k _ hk (by omega)]; rfl
  ·unfold eU
   rw[z8 (jy _),z7]
 unfold Qk sS
 rw[z6 k1]
 have e1:a1 f = !f.1.any Jq:=rfl
 have e2:a2 f = !f.2.1.any nk:=rfl
 have e3:a3 f = !f.2.2.1.any J4:=rfl
 have e6:a6 f = !f.2.2.2.2.1.any tf:=rfl
 rw[e1,e2,e3]
 cases f.1.any Jq with
 | true=>rfl
 | false =>
 rw[if_neg (by decide),Sum.elim_inl,z6 k2]
 cases f.2.1.any nk with
 | true=>rfl
 | false =>
 rw[if_neg (by decide),Sum.elim_inl,z6 k3]
 cases f.2.2.1.any J4 with
 | true=>rfl
 | false =>
 rw[if_neg (by decide),Sum.elim_inl,z6 k4]
 cases q6:f.2.2.2.2.1.any tf with
 | true=>rw[e6,q6]; cases a4 f<;>cases a5 f<;>rfl
 | false =>
 rw[if_neg (by decide),Sum.elim_inl,z6 (VM f h)]
 cases h4:a4 f with
 | false=>rfl
 | true =>
 cases h5:a5 f with
 | false=>rfl
 | true =>
 have h6:a6 f=true:=by rw[e6,q6]; rfl
 rw[za (by rfl),z6 (sI f (Fy h h4 h5 h6)),z7,h6]
 rfl
end Go.AM.Lf
namespace Go.AM
theorem T.Le{σ ρ:Type}{b:(σ->T ρ)->σ->T ρ}(R:Nat->σ->ρ->Prop)(h0:∀ x y,¬ R 0 x y)
  (h:∀ n x y,R (n+1) x y->∀ g:σ->T ρ,(∀ x' y',R n x' y'->(g x').run=some y')->(b g x).run=some y) {n:Nat} {x:σ} {y:ρ} (hx:R n x y):(T.fix b x).run=some y:=by
 rw[wz,lq]
 refine⟨n,λm hm => ?_⟩
 induction n generalizing m x y with
 | zero=>exact absurd hx (h0 _ _)
 | succ n ih =>
  cases m with
  | zero=>omega
  | succ m =>
   rw[<- wz]
   exact h n x y hx (Ce b m) λx' y' hr=>by rw[wz]; exact ih hr m (by omega)
end Go.AM
namespace Go.AM.PL
def nw:zf->zf
 | []=>[]
 | c::r=>if c=32 then nw r else c::r
def gN(p:UInt8->Bool):Nat->zf->zf×zf
 | 0,r=>([],r)
 | _+1,[]=>([],[])
 | n+1,c::r=>if p c=true then(c::(gN p n r).1,(gN p n r).2)else([],c::r)
theorem tV(p:UInt8->Bool):∀ (n:Nat) (r:zf),(gN p n r).1++(gN p n r).2=r
 | 0,r=>rfl
 | _+1,[]=>rfl
 | n+1,c::r=>by
  unfold gN
  split
  ·rw[List.cons_append,tV p n r]
  ·rfl
theorem WW(p:UInt8->Bool):∀ (n:Nat) (r:zf),r.length<=n->gN p n r=(r.takeWhile p,r.dropWhile p)
 | 0,[],_=>rfl
 | 0,c::r,h=>by simp at h
 | _+1,[],_=>rfl
 | n+1,c::r,h=>by
  unfold gN
  rw[WW p n r (by simp at h; omega)]
  cases hp:p c with
  | true=>simp[hp]
  | false=>simp[hp]
theorem dA:∀ (r:zf),nw r <:+ r
 | []=>List.suffix_refl _
 | c::r=>by
  unfold nw
  split
  ·exact List.IsSuffix.trans (dA r) (List.suffix_cons c r)
  ·exact List.suffix_refl _
theorem H3:∀ (r:zf) (c:UInt8) (q:zf),nw r=c::q->c≠32
 | [],_,_,h=>by cases h
 | b::r,c,q,h=>by
  unfold nw at h
  split at h
  ·exact H3 r c q h
  ·cases h; assumption
theorem HK(r:zf):nw (nw r)=nw r:=by
 cases h:nw r with
 | nil=>rfl
 | cons c q=>unfold nw; rw[if_neg (H3 r c q h)]
theorem Gs(r:zf):(nw r).length<=r.length:=(dA r).length_le
theorem Vi(p:UInt8->Bool)(n:Nat)(r:zf):(gN p n r).2 <:+ r:=⟨(gN p n r).1,tV p n r⟩
def vI(s r:zf):Nat:=s.length-r.length
theorem Nr(s:zf):vI s s=0:=by unfold vI; omega
theorem Sn(s:zf):vI s []=s.length:=rfl
theorem gj{c:UInt8}{r s:zf}(h:(c::r) <:+ s):r <:+ s:=List.IsSuffix.trans (List.suffix_cons c r) h
theorem yM{c:UInt8}{r s:zf}(h:(c::r) <:+ s):vI s r=vI s (c::r)+1/\vI s (c::r)<s.length:=by
 have:=h.length_le
 simp only[List.length_cons]at this
 unfold vI; simp only[List.length_cons]; omega
theorem RB{r s:zf}(h:r <:+ s):s.drop (vI s r)=r:=by
 obtain⟨t,rfl⟩:=h
 unfold vI
 rw[List.length_append,Nat.add_sub_cancel,List.drop_left]
theorem cx{c:UInt8}{r s:zf}(h:(c::r) <:+ s):qp s ((vI s (c::r):Nat):Int)=(c.toNat:Int):=by
 have h1:=yM h
 rw[yv h1.2]
 have h2:=RB h
 rw[List.drop_eq_getElem_cons h1.2]at h2
 injection h2 with h2 _
 rw[h2]
theorem z0E{r q s:zf}(h:r <:+ q)(h2:q <:+ s):vI s q<=vI s r:=by
 have:=h.length_le; unfold vI; omega
theorem O7{a r q s:zf}(h:r <:+ s)(e:a++q=r):vv ((vI s r:Nat):Int) ((vI s q:Nat):Int) s=a:=by
 subst e
 obtain⟨t,rfl⟩:=h
 unfold vv vI
 rw[Int.toNat_natCast,Int.toNat_natCast]
 simp only[List.length_append]
 rw[show t.length+(a.length+q.length)-q.length=t.length+a.length by omega,show t.length+(a.length+q.length)-(a.length+q.length)=t.length by omega,<- List.append_assoc,<- List.length_append,List.take_left,List.drop_left]
theorem Bc:∀ (l:zf) (c:UInt8),decide ((0:Int)<=nt l c)=l.contains c
 | [],_=>rfl
 | b::l,c=>by
  have ih:=Bc l c
  unfold nt
  rw[List.contains_cons]
  by_cases h:b=c
  ·subst h; simp
  ·have h':(b==c)=false:=by simpa using h
   have h'':(c==b)=false:=by simpa using λe:c=b=>h e.symm
   rw[h',h'',Bool.false_or,<- ih]
   have hge:∀ l:zf,nt l c = -1\/0<=nt l c:=by
    intro l
    induction l with
    | nil=>exact .inl rfl
    | cons x l ih =>
     unfold nt
     split
     ·right; omega
     ·split
      ·left; rfl
      ·right
       rename_i vT
       rcases ih with h | h
       ·exact absurd (by simpa using h) vT
       ·omega
   rcases hge l with h | h
   ·rw[h]; rfl
   ·have:(nt l c == -1)=false:=by simp; omega
    simp only[this,Bool.false_eq_true,if_false]
    rw[decide_eq_true (by omega),decide_eq_true (by omega)]
theorem Ub(c:UInt8):byteOf (c.toNat:Int)=c:=by unfold byteOf; simp
end Go.AM.PL
namespace Go.AM.Lf
open PL
def qE(s r:zf)(d:Nat)(l:Bool):zc:=(s,((vI s r:Nat):Int),(d:Int),l,())
theorem wT(s r:zf)(d:Nat)(l:Bool):(qE s r d l).1=s:=rfl
theorem vV(s r:zf)(d:Nat)(l:Bool):(qE s r d l).2.1=((vI s r:Nat):Int):=rfl
theorem V4(s r:zf)(d:Nat)(l:Bool):(qE s r d l).2.2.1=(d:Int):=rfl
theorem WU{s r:zf}{c:UInt8}(d:Nat)(l:Bool)(h:(c::r) <:+ s)(hs:s.length<=1000000):((s,zF (((vI s (c::r):Nat):Int)+1),(d:Int),l,()):zc)=qE s r d l:=by
 have:=yM h
 unfold qE
 rw[zB (by omega) (by omega),this.1]
 rfl
theorem Zn{s r:zf}{c:UInt8}(h:(c::r) <:+ s):decide (((vI s (c::r):Nat):Int)<(s.length:Int))=true:=decide_eq_true (by have:=yM h; omega)
theorem VN(s:zf):decide (((vI s []:Nat):Int)<(s.length:Int))=false:=by rw[Sn]; exact decide_eq_false (by omega)
theorem lT{s r:zf}{c:UInt8}(h:(c::r) <:+ s):qz ((vI s (c::r):Nat):Int) s.length:=⟨by omega,by have:=yM h; omega⟩
theorem z0m(c b:UInt8):((c.toNat:Int)==(b.toNat:Int))=decide (c=b):=by
 by_cases h:c=b
 ·subst h; simp
 ·rw[decide_eq_false h]
  simp only[beq_eq_false_iff_ne,ne_eq]
  intro e
  exact h (UInt8.toNat_inj.1 (by omega))
theorem XF(s:zf)(hs:s.length<=1000000)(d:Nat)(l:Bool):∀ (r:zf),r <:+ s->(yW (qE s r d l)).run=some (qE s (nw r) d l)
 | [],_=>by
  refine qw ?_
  unfold xR
  dsimp only
  rw[vV,wT,VN,zb (λh=>by cases h),z8 (by rfl),z7]
  rfl
 | c::r,h=>by
  have e:(xR (qE s (c::r) d l)).run=some (if c=32 then .inl (qE s r d l)else .inr (qE s (c::r) d l)):=by
   unfold xR
   dsimp only
   rw[vV,wT,Zn h,zb (λ_=>lT h),Bool.true_and,cx h,show((c.toNat:Int)==32)=decide (c=32)from z0m c 32]
   by_cases hc:c=32
   ·rw[za (by simpa using hc),z7,if_pos hc]
    show some (Sum.inl (s,zF (((vI s (c::r):Nat):Int)+1),(d:Int),l,()))=_
    rw[WU d l h hs]
   ·rw[z8 (by simpa using hc),z7,if_neg hc]
  unfold nw
  by_cases hc:c=32
  ·rw[if_pos hc]at e ⊢
   exact(wU e).trans (XF s hs d l r (gj h))
  ·rw[if_neg hc]at e ⊢
   exact qw e
theorem Di(s:zf)(hs:s.length<=1000000)(d:Nat)(l:Bool)(r:zf)(h:r <:+ s):(uj (qE s r d l)).run=some (qE s (nw r) d l):=by
 unfold uj
 rw[z6 (XF s hs d l r h),z7]
def kc(some:zf)(r:zf):Option (UInt8×zf):=match nw r with
 | []=>none
 | c::q=>if some.contains c=true then .some (c,q)else none
theorem sO(s:zf)(hs:s.length<=1000000)(d:Nat)(l:Bool)(r:zf)(h:r <:+ s)(m:zf) :
  (qZ m (qE s r d l)).run=some (match kc m r with | some (c,q)=>((c.toNat:Int),qE s q d l) | none=>(0,qE s (nw r) d l)):=by
 have hk:=List.IsSuffix.trans (dA r) h
 unfold qZ kc
 rw[z6 (Di s hs d l r h)]
 cases e:nw r with
 | nil =>
  rw[z6 (a:=(false,qE s [] d l)) (by rw[vV,wT,VN,zg,z7]),zg,z7]
 | cons c q =>
  rw[e]at hk
  have hi:(strings_IndexByte m (c.toNat:Int)).run=some (nt m c):=by unfold strings_IndexByte; rw[z7,Ub]
  rw[z6 (a:=(m.contains c,qE s (c::q) d l)) (by rw[vV,wT,Zn hk,zh,zb (lT hk),cx hk,z6 hi,z7,Bc])]
  have hp:=yM hk
  dsimp only
  cases hc:m.contains c with
  | false=>rw[zg,z7]; rfl
  | true =>
   rw[zh,vV,wT,zB (x:=((vI s (c::q):Nat):Int)+1) (by omega) (by omega),show((vI s (c::q):Nat):Int)+1-1=((vI s (c::q):Nat):Int) by omega,zB (by omega) (by omega),zb (lT hk),z7,cx hk]
   rw[show((vI s (c::q):Nat):Int)+1=((vI s q:Nat):Int) by omega]
   rfl
theorem QE(b:UInt8):(xL (b.toNat:Int)).run=some (kY b):=by
 unfold xL kY
 rw[z7]
 congr 1
 by_cases h1:48<=b.toNat<;>by_cases h2:b.toNat<=57<;>simp[h1,h2]<;>omega
theorem LK(b:UInt8):(wJ (b.toNat:Int)).run=some (XW b):=rfl
theorem D7(s:zf)(hs:s.length<=1000000)(d:Nat)(l:Bool)(is:Int->T Bool)(p:UInt8->Bool)(hp:∀ b:UInt8,(is (b.toNat:Int)).run=some (p b))(f m:Nat)(hm:m<=1000000) :
  ∀ (n:Nat) (r:zf),r <:+ s->f<=vI s r->vI s r-f+n=m->(gD is (m:Int) (f:Int) (qE s r d l)).run=some (qE s (gN p n r).2 d l):=by
 intro n r
 induction r generalizing n with
 | nil =>
  intro h hf he
  have:(gN p n []).2=[]:=by cases n<;>rfl
  rw[this]
  refine qw ?_
  unfold qS
  dsimp only
  rw[z6 (a:=(false,qE s [] d l)) (by rw[vV,wT,VN,zg,z7]),zg,z7]
 | cons c r ih =>
  intro h hf he
  have ZO:=yM h
  cases n with
  | zero =>
   refine qw ?_
   unfold qS
   dsimp only
   rw[z6 (a:=(false,qE s (c::r) d l)) (by rw[vV,wT,Zn h,zh,zB (by omega) (by omega),z8 (decide_eq_false (by omega)),z7]),zg,z7]
   rfl
  | succ n =>
   have e:(qS is (m:Int) (f:Int) (qE s (c::r) d l)).run=some (if p c=true then .inl (qE s r d l)else .inr (qE s (c::r) d l)):=by
    unfold qS
    dsimp only
    rw[z6 (a:=(p c,qE s (c::r) d l)) (by rw[vV,wT,Zn h,zh,zB (by omega) (by omega),za (decide_eq_true (by omega)),zb (lT h),cx h,z6 (hp c),z7])]
    dsimp only
    cases p c with
    | false=>rfl
    | true =>
     rw[zh,z7,if_pos rfl]
     show some (Sum.inl (s,zF (((vI s (c::r):Nat):Int)+1),(d:Int),l,()))=_
     rw[WU d l h hs]
   unfold gN
   by_cases hc:p c=true
   ·rw[if_pos hc]at e ⊢
    exact(wU e).trans (ih n (gj h) (by omega) (by omega))
   ·rw[if_neg hc]at e ⊢
    exact qw e
theorem Qy(s:zf)(hs:s.length<=1000000)(d:Nat)(l:Bool)(is:Int->T Bool)(p:UInt8->Bool)(hp:∀ b:UInt8,(is (b.toNat:Int)).run=some (p b))(m:Nat)(hm:m<=1000000)(r:zf)(h:r <:+ s) :
  (xa is (m:Int) (qE s r d l)).run=some ((gN p m r).1,qE s (gN p m r).2 d l):=by
 unfold xa
 have h2:=List.IsSuffix.trans (Vi p m r) h
 have h3:=z0E (Vi p m r) h
 have h4:vI s (gN p m r).2<=s.length:=by unfold vI; omega
 rw[vV,z6 (D7 s hs d l is p hp (vI s r) m hm m r h (Nat.le_refl _) (by omega))]
 rw[vV,wT,zb ⟨by omega,by omega,by omega⟩,z7,O7 h (tV p m r)]
inductive PR where
 | no
 | er (k:Int) (bad r:zf) (d:Nat) (l:Bool)
 | ok (e:Expr) (r:zf) (l:Bool)
def PR.bind:PR->(Expr->zf->Bool->PR)->PR
 | .no,_=>.no
 | .er k b r d l,_=>.er k b r d l
 | .ok e r l,f=>f e r l
def sa(k:Int)(l:List Expr):Expr:=.mk k qc [] l
def rT(t:zf):Rat:=match Jv t with | some (n,d)=>j3 (List.isPrefixOf [45] t) n d | none=>qc
def VI(z:Rat)(t r:zf)(l:Bool):PR:=if 400<t.length then .ok (.mk 1 z [] []) r true else .ok (.mk 1 (rT t) [] []) r l
def UX(z:Rat)(d:Nat)(r:zf)(l:Bool):PR:=match r.dropWhile kY with
 | []=>VI z (r.takeWhile kY) [] l
 | c::q=>if c=46 then(if q.takeWhile kY=[]then .er 2 q q d l else VI z (r.takeWhile kY++(46::q.takeWhile kY)) (q.dropWhile kY) l)
  else VI z (r.takeWhile kY) (c::q) l
def EP(r:zf)(l:Bool):PR:=.ok (.mk 2 qc (gN ux 24 r).1 []) (gN ux 24 r).2 l
def yx(K:Bool->zf->PR)(m1 m2:UInt8)(k1 k2:Int):Nat->Expr->zf->Bool->PR
 | 0,_,_,_=>.no
 | n+1,e,r,l=>match kc [m1,m2] r with
  | none=>.ok e (nw r) l
  | some (c,q)=>(K l q).bind λe2 q2 l2=>yx K m1 m2 k1 k2 n (sa (if c=m1 then k1 else k2) [e,e2]) q2 l2
def rowP(K:Bool->zf->PR)(m1 m2:UInt8)(k1 k2:Int)(n:Nat)(l:Bool)(r:zf):PR:=(K l r).bind λe q l'=>yx K m1 m2 k1 k2 n e q l'
def ZJ(z:Rat)(F S:Nat->Bool->zf->PR)(d:Nat)(l:Bool)(s:zf):PR:=match nw s with
 | []=>.er 2 [] [] d l
 | c::r =>
  if c=45 then(if 31<=d then .er 4 (c::r) r (d+1) l else(F (d+1) l r).bind λe q l'=>.ok (sa 7 [e]) q l')
  else if c=40 then(if 31<=d then .er 4 (c::r) r (d+1) l else(S (d+1) l r).bind λe q l'=>match kc [41] q with
   | some (_,q')=>.ok e q' l'
   | none=>.er 2 (nw q) (nw q) (d+1) l')
  else if kY c=true then UX z d (c::r) l
  else if XW c=true then EP (c::r) l
  else .er 2 (c::r) (c::r) d l
mutual
def pF(z:Rat):Nat->Nat->Bool->zf->PR
 | 0,_,_,_=>.no
 | n+1,d,l,s=>ZJ z (pF z n) (pS z n) d l s
def pP(z:Rat):Nat->Nat->Bool->zf->PR
 | 0,_,_,_=>.no
 | n+1,d,l,s=>rowP (pF z n d) 42 47 5 6 n l s
def pS(z:Rat):Nat->Nat->Bool->zf->PR
 | 0,_,_,_=>.no
 | n+1,d,l,s=>rowP (pP z n d) 43 45 3 4 n l s
end
def PR.Y0(s:zf):PR->Prop
 | .no=>True
 | .er _ b r _ _=>b <:+ s/\r <:+ s
 | .ok _ r _=>r <:+ s
theorem PR.Qe{s:zf}{R:PR}{f:Expr->zf->Bool->PR}(h:R.Y0 s)(hf:∀ e r l,r <:+ s->(f e r l).Y0 s):(R.bind f).Y0 s:=by
 cases R with
 | no=>trivial
 | er=>exact h
 | ok e r l=>exact hf e r l h
theorem iJ{m r q:zf}{c:UInt8}(h:kc m r=some (c,q)):(c::q) <:+ r/\m.contains c=true/\nw r=c::q:=by
 have:=dA r
 unfold kc at h
 split at h
 ·cases h
 ·rename_i c' q' e
  split at h
  ·cases h; rw[e]at this; exact⟨this,by assumption,e⟩
  ·cases h
theorem Vm{s r t:zf}{z:Rat}{l:Bool}(h:r <:+ s):(VI z t r l).Y0 s:=by unfold VI; split<;>exact h
theorem iH(p:UInt8->Bool)(r:zf):r.dropWhile p <:+ r:=List.dropWhile_suffix p
theorem PE{s r:zf}{z:Rat}{d:Nat}{l:Bool}(h:r <:+ s):(UX z d r l).Y0 s:=by
 have hd:=iH kY r
 unfold UX
 split
 ·exact Vm List.nil_suffix
 ·rename_i c q e
  rw[e]at hd
  have hq:=(gj hd).trans h
  split
  ·split
   ·exact⟨hq,hq⟩
   ·exact Vm ((iH kY q).trans hq)
  ·exact Vm (hd.trans h)
theorem BR{s:zf}{K:Bool->zf->PR}(hK:∀ l r,r <:+ s->(K l r).Y0 s)(m1 m2:UInt8)(k1 k2:Int):∀ (n:Nat) (e:Expr) (r:zf) (l:Bool),r <:+ s->(yx K m1 m2 k1 k2 n e r l).Y0 s
 | 0,_,_,_,_=>trivial
 | n+1,e,r,l,h=>by
  unfold yx
  split
  ·exact(dA r).trans h
  ·rename_i c q ht
   have hq:=(gj (iJ ht).1).trans h
   exact PR.Qe (hK l q hq) λe2 q2 l2 h2=>BR hK m1 m2 k1 k2 n _ q2 l2 h2
theorem BT{s:zf}{K:Bool->zf->PR}(hK:∀ l r,r <:+ s->(K l r).Y0 s)(m1 m2:UInt8)(k1 k2:Int)(n:Nat)(l:Bool)(r:zf)(h:r <:+ s):(rowP K m1 m2 k1 k2 n l r).Y0 s :=
 PR.Qe (hK l r h) λ_ _ _ h2=>BR hK m1 m2 k1 k2 n _ _ _ h2
theorem OT{s:zf}{z:Rat}{F S:Nat->Bool->zf->PR}(hF:∀ d l r,r <:+ s->(F d l r).Y0 s)(hS:∀ d l r,r <:+ s->(S d l r).Y0 s)(d:Nat)(l:Bool)(r:zf)(h:r <:+ s):(ZJ z F S d l r).Y0 s:=by
 have hk:=(dA r).trans h
 unfold ZJ
 split
 ·exact⟨List.nil_suffix,List.nil_suffix⟩
 ·rename_i c q e
  rw[e]at hk
  have hq:=gj hk
  split
  ·split
   ·exact⟨hk,hq⟩
   ·exact PR.Qe (hF _ _ _ hq) λ_ _ _ h2=>h2
  ·split
   ·split
    ·exact⟨hk,hq⟩
    ·refine PR.Qe (hS _ _ _ hq) λe2 q2 l2 h2 => ?_
     split
     ·rename_i ht
      exact(gj (iJ ht).1).trans h2
     ·exact⟨(dA q2).trans h2,(dA q2).trans h2⟩
   ·split
    ·exact PE hk
    ·split
     ·exact(Vi ux 24 (c::q)).trans hk
     ·exact⟨hk,hk⟩
theorem Uw(z:Rat)(s:zf):∀ (n:Nat),(∀ d l r,r <:+ s->(pF z n d l r).Y0 s)/\(∀ d l r,r <:+ s->(pP z n d l r).Y0 s)/\(∀ d l r,r <:+ s->(pS z n d l r).Y0 s)
 | 0=>⟨λ_ _ _ _=>by unfold pF; trivial,λ_ _ _ _=>by unfold pP; trivial,λ_ _ _ _=>by unfold pS; trivial⟩
 | n+1=>by
  obtain⟨h1,h2,h3⟩:=Uw z s n
  refine⟨λd l r h => ?_,λd l r h => ?_,λd l r h => ?_⟩
  ·unfold pF; exact OT h1 h3 d l r h
  ·unfold pP; exact BT (h1 d) _ _ _ _ n l r h
  ·unfold pS; exact BT (h2 d) _ _ _ _ n l r h
def encR(s:zf)(d:Nat):PR->Option ((AM.Expr×zc)⊕(u6×zc))
 | .no=>none
 | .er k b r d' l=>some (.inr ((k,(((vI s b:Nat):Int),())),qE s r d' l))
 | .ok e r l=>some (.inl (e,qE s r d l))
theorem Ba(e a:Int)(p:zc):(xN e a p).run=some (.inr ((e,(a,())),p)):=rfl
theorem CT(s:zf)(hs:s.length<=1000000){c:UInt8}{r:zf}(h:(c::r) <:+ s)(d:Nat)(hd:d<=31)(l:Bool):(wQ (qE s r d l)).run=some (if 31<=d then .inr ((4,(((vI s (c::r):Nat):Int),())),qE s r (d+1) l)else .inl (qE s r (d+1) l)):=by
 have hp:=yM h
 have e:((qE s r d l).1,((qE s r d l).2.1,((zF ((qE s r d l).2.2.1+(1:Int))),((qE s r d l).2.2.2.1,()))))=qE s r (d+1) l:=by
  rw[V4,zB (by omega) (by omega)]; rfl
 unfold wQ
 rw[e,V4,vV,zB (by omega) (by omega),zB (by omega) (by omega)]
 by_cases c1:31<=d
 ·rw[if_pos c1,za (decide_eq_true (by omega)),z6 (Ba _ _ _),Sum.elim_inr,z7,show((vI s r:Nat):Int)-1=((vI s (c::r):Nat):Int) by omega]
 ·rw[if_neg c1,z8 (decide_eq_false (by omega)),z7]
theorem sV(p:UInt8->Bool)(r:zf):r.takeWhile p++r.dropWhile p=r:=List.takeWhile_append_dropWhile
theorem CD(s:zf)(hs:s.length<=1000000)(d:Nat)(l:Bool)(r:zf)(h:r <:+ s):(uf (qE s r d l)).run=encR s d (UX qc d r l):=by
 have hdr:=iH kY r
 have hl:=h.length_le
 have hw:=Qy s hs d l (λz0=>xL z0) kY QE s.length hs r h
 rw[WW kY s.length r hl]at hw
 -- what is done with the text
 have fin:∀ (t q:zf),(T.ite (decide ((400:Int)<(Nat.cast (List.length t):Int)))
    (.ret (.inl ((Expr.mk (1:Int) (false,(([]:List Int),(([]:List Int),()))) ([]:zf) ([]:List AM.Expr)),((qE s q d l).1,((qE s q d l).2.1,((qE s q d l).2.2.1,(true,())))))))
    (T.bind (yK t) λ(r,r1) =>
     .ret (.inl ((Expr.mk (1:Int) (r.1,(r.2.1,(r.2.2.1,()))) ([]:zf) ([]:List AM.Expr)),(qE s q d l)))):T ((AM.Expr×zc)⊕(u6×zc))).run=encR s d (VI qc t q l):=by
  intro t q
  unfold VI
  by_cases c1:400<t.length
  ·rw[if_pos c1,za (decide_eq_true (by omega)),z7]; rfl
  ·rw[if_neg c1,z8 (decide_eq_false (by omega)),z6 (sA t (by omega)),if_neg c1]
   unfold rT
   cases Jv t with
   | none=>rfl
   | some x=>rfl
 unfold uf UX
 rw[wT,z6 hw]
 dsimp only
 cases e:r.dropWhile kY with
 | nil =>
  rw[e]at hdr
  rw[z6 (a:=.inl (r.takeWhile kY,qE s [] d l,Expr.mk 0 (false,([],([],()))) [] [])) (by rw[vV,wT,VN,zb (λh=>by cases h),Bool.false_and,zg,z7]),Sum.elim_inl]
  exact fin _ _
 | cons c q =>
  rw[e]at hdr
  have Tt:=hdr.trans h
  have hq:=gj Tt
  have ZO:=yM Tt
  dsimp only
  by_cases hc:c=46
  ·rw[if_pos hc]
   have Ql:=Qy s hs d l (λz0=>xL z0) kY QE s.length hs q hq
   rw[WW kY s.length q hq.length_le]at Ql
   have zg8:(r.takeWhile kY).length<=1000000:=by have:=congrArg List.length (sV kY r); rw[List.length_append]at this; omega
   have z3m:(q.takeWhile kY).length<=1000000:=by have:=congrArg List.length (sV kY q); rw[List.length_append]at this; have:=hq.length_le; omega
   have cond:((decide (((vI s (c::q):Nat):Int)<(s.length:Int)))&&((qp s ((vI s (c::q):Nat):Int))==(46:Int)))=true:=by
    rw[Zn Tt,Bool.true_and,cx Tt,show((c.toNat:Int)==46)=decide (c=46)from z0m c 46]; simpa using hc
   have st:(((qE s (c::q) d l).1,((zF ((qE s (c::q) d l).2.1+(1:Int))),((qE s (c::q) d l).2.2.1,((qE s (c::q) d l).2.2.2.1,())))):zc)=qE s q d l:=WU d l Tt hs
   by_cases hq0:q.takeWhile kY=[]
   ·rw[if_pos hq0,z6 (a:=.inr ((2,(((vI s q:Nat):Int),())),qE s q d l,Expr.mk 0 (false,([],([],()))) [] [])),Sum.elim_inr]
    ·rfl
    ·rw[st,vV,wT,zb (λ_=>lT Tt),za cond,z6 Ql,za (by rw[vx]; simpa using hq0)]
     have:q.dropWhile kY=q:=by have:=sV kY q; rw[hq0]at this; simpa using this
     rw[this,z6 (Ba _ _ _),Sum.elim_inr,z7,vV]
   ·rw[if_neg hq0,z6 (a:=.inl (cat (r.takeWhile kY) (cat [46] (q.takeWhile kY)),qE s (q.dropWhile kY) d l,Expr.mk 0 (false,([],([],()))) [] [])),Sum.elim_inl]
    ·exact fin _ _
    ·rw[st,vV,wT,zb (λ_=>lT Tt),za cond,z6 Ql,z8 (by rw[vx]; simpa using hq0),zp _ (by simp; omega),zp _ (by simp[jZ]; omega),z7]
  ·rw[if_neg hc,z6 (a:=.inl (r.takeWhile kY,qE s (c::q) d l,Expr.mk 0 (false,([],([],()))) [] [])),Sum.elim_inl]
   ·exact fin _ _
   ·rw[vV,wT,zb (λ_=>lT Tt),z8 (by rw[Zn Tt,Bool.true_and,cx Tt,show((c.toNat:Int)==46)=decide (c=46)from z0m c 46]; simpa using hc),z7]
abbrev KT:=zc->T ((AM.Expr×zc)⊕(u6×zc))
abbrev zE:Expr:=Expr.mk (0:Int) (false,(([]:List Int),(([]:List Int),()))) ([]:zf) ([]:List AM.Expr)
noncomputable def Uj (K:KT) (QG:zf) (VU:u6):(zc×AM.Expr×AM.Expr)->T ((zc×AM.Expr×AM.Expr)⊕((zc×AM.Expr×AM.Expr)⊕(u6×zc×AM.Expr×AM.Expr)))
 | (v,v1,v2) =>
  T.bind (qZ QG v) λ(c,p3) =>
  .ite (c==(0:Int))
   (.ret (.inr (.inl (p3,(v2,v2)))))
   (T.bind (K p3) <|
     Sum.elim (λ(r1,p4) =>
      T.bind (strings_IndexByte QG c) λr2 =>
      .zM (qz r2 (2:Nat)) <|
      .ret (.inl (p4,(v1,(Expr.mk (pn (.int .i64) Xy VU (Int.toNat r2)) (false,(([]:List Int),(([]:List Int),()))) ([]:zf) ([v2,r1]:List AM.Expr))))))
     (λ(pv1,p5) =>
      .ret (.inr (.inr (pv1,(p5,(v1,v2)))))))
noncomputable def z0Y (K:KT) (marks:zf) (kinds:u6) (p:zc):T ((AM.Expr×zc)⊕(u6×zc)) :=
 T.bind (K p) <|
  Sum.elim (λ(r,p1) =>
   T.bind (T.loop (Uj K marks kinds) (p1,(zE,r))) <|
    Sum.elim (λ(v3,v4,v5) =>
     .ret (.inl (v4,v3)))
    (λ(p6,v6,v7,v8) =>
     .ret (.inr (p6,v6))))
  (λ(pv,p2) =>
   .ret (.inr (pv,p2)))
theorem zcQ{m1 m2 c:UInt8}(h:[m1,m2].contains c=true):nt [m1,m2] c=if c=m1 then 0 else 1:=by
 unfold nt
 by_cases h1:c=m1
 ·subst h1; simp
 ·have W8:(m1==c)=false:=by simpa using λe:m1=c=>h1 e.symm
  have h2:c=m2:=by simpa[h1]using h
  subst h2
  rw[W8,if_neg h1]
  unfold nt
  simp
theorem H8(s:zf)(hs:s.length<=1000000)(d:Nat)(K:KT)(Ks:Bool->zf->PR)(hK:∀ l r,r <:+ s->Ks l r≠.no->(K (qE s r d l)).run=encR s d (Ks l r))(hx:∀ l r,r <:+ s->(Ks l r).Y0 s)(m1 m2:UInt8)(hm1:m1≠0)(Hp:m2≠0)(k1 k2:Int) :
  ∀ (n:Nat) (e:Expr) (r:zf) (l:Bool),r <:+ s->yx Ks m1 m2 k1 k2 n e r l≠.no ->
   match yx Ks m1 m2 k1 k2 n e r l with
   | .no=>True
   | .ok e' r' l'=>(T.loop (Uj K [m1,m2] (k1,(k2,()))) (qE s r d l,(zE,e))).run=some (.inl (qE s r' d l',(e',e')))
   | .er k b r' d' l'=>∃ x,(T.loop (Uj K [m1,m2] (k1,(k2,()))) (qE s r d l,(zE,e))).run=some (.inr ((k,(((vI s b:Nat):Int),())),(qE s r' d' l',(zE,x))))
 | 0,_,_,_,_,hn=>absurd rfl hn
 | n+1,e,r,l,h,hn=>by
  have ht:=sO s hs d l r h [m1,m2]
  unfold yx at hn ⊢
  cases q:kc [m1,m2] r with
  | none =>
   rw[q]at ht
   dsimp only
   refine qw ?_
   unfold Uj
   dsimp only
   rw[z6 ht]
   rfl
  | some x =>
   obtain⟨c,q'⟩:=x
   rw[q]at ht hn
   dsimp only at ht hn ⊢
   have hsf:=iJ q
   have hq:=(gj hsf.1).trans h
   have hc0:((c.toNat:Int)==0)=false:=by
    rw[show((c.toNat:Int)==0)=decide (c=0)from z0m c 0]
    have h2:c=m1\/c=m2:=by simpa using hsf.2.1
    rcases h2 with rfl | rfl<;>simpa
   have Ey:=hK l q' hq
   have Gw:=hx l q' hq
   cases z:Ks l q' with
   | no=>rw[z]at hn; exact absurd rfl hn
   | er k b r' d' l' =>
    rw[z]at Ey
    have Ey:=Ey (by simp)
    refine⟨e,qw ?_⟩
    unfold Uj
    dsimp only
    rw[z6 ht]
    dsimp only
    rw[z8 hc0,z6 Ey]
    rfl
   | ok e2 r2 l2 =>
    rw[z]at Ey hn Gw
    have Ey:=Ey (by simp)
    have hi:(strings_IndexByte [m1,m2] (c.toNat:Int)).run=some (nt [m1,m2] c):=by unfold strings_IndexByte; rw[z7,Ub]
    have step:(Uj K [m1,m2] (k1,(k2,())) (qE s r d l,(zE,e))).run=some (.inl (qE s r2 d l2,(zE,sa (if c=m1 then k1 else k2) [e,e2]))):=by
     unfold Uj
     dsimp only
     rw[z6 ht]
     dsimp only
     rw[z8 hc0,z6 Ey,Sum.elim_inl,z6 hi,zcQ hsf.2.1]
     by_cases hc:c=m1
     ·rw[if_pos hc,if_pos hc,zb ⟨by omega,by omega⟩,z7]
      rfl
     ·rw[if_neg hc,if_neg hc,zb ⟨by omega,by omega⟩,z7]
      rfl
    rw[wU step]
    exact H8 s hs d K Ks hK hx m1 m2 hm1 Hp k1 k2 n _ r2 l2 Gw hn
theorem BO(s:zf)(hs:s.length<=1000000)(d:Nat)(K:KT)(Ks:Bool->zf->PR)(hK:∀ l r,r <:+ s->Ks l r≠.no->(K (qE s r d l)).run=encR s d (Ks l r))(hx:∀ l r,r <:+ s->(Ks l r).Y0 s)(m1 m2:UInt8)(hm1:m1≠0)(Hp:m2≠0)(k1 k2:Int)
  (n:Nat) (l:Bool) (r:zf) (h:r <:+ s) (hn:rowP Ks m1 m2 k1 k2 n l r≠.no):(z0Y K [m1,m2] (k1,(k2,())) (qE s r d l)).run=encR s d (rowP Ks m1 m2 k1 k2 n l r):=by
 have Ey:=hK l r h
 have Gw:=hx l r h
 unfold z0Y
 unfold rowP at hn ⊢
 cases z:Ks l r with
 | no=>rw[z]at hn; exact absurd rfl hn
 | er k b r' d' l' =>
  rw[z]at Ey
  rw[z6 (Ey (by simp))]
  rfl
 | ok e r' l' =>
  rw[z]at Ey hn Gw
  have Ey:=Ey (by simp)
  have hn:yx Ks m1 m2 k1 k2 n e r' l'≠.no:=hn
  have hl:=H8 s hs d K Ks hK hx m1 m2 hm1 Hp k1 k2 n e r' l' Gw hn
  rw[z6 Ey,Sum.elim_inl]
  show _=encR s d (yx Ks m1 m2 k1 k2 n e r' l')
  cases w:yx Ks m1 m2 k1 k2 n e r' l' with
  | no=>exact absurd w hn
  | er k b r2 d2 l2 =>
   rw[w]at hl
   obtain⟨x,hl⟩:=hl
   dsimp only
   rw[z6 hl]
   rfl
  | ok e2 r2 l2 =>
   rw[w]at hl
   dsimp only at hl ⊢
   rw[z6 hl]
   rfl
theorem HM(s:zf)(hs:s.length<=1000000)(FT ST:KT)(F S:Nat->Bool->zf->PR)
  (hF:∀ d l r,d<=31->r <:+ s->F d l r≠.no->(FT (qE s r d l)).run=encR s d (F d l r)) (hS:∀ d l r,d<=31->r <:+ s->S d l r≠.no->(ST (qE s r d l)).run=encR s d (S d l r))
  (xS:∀ d l r,r <:+ s->(S d l r).Y0 s) (d:Nat) (l:Bool) (r:zf) (hd:d<=31) (h:r <:+ s) (hn:ZJ qc F S d l r≠.no):(w9 FT ST (qE s r d l)).run=encR s d (ZJ qc F S d l r):=by
 have ht:=sO s hs d l r h [45,40]
 have hk:=(dA r).trans h
 unfold w9
 unfold ZJ at hn ⊢
 unfold kc at ht
 -- what deeper ones leave
 have down:∀ (q:zf) (l':Bool),(((qE s q (d+1) l').1,((qE s q (d+1) l').2.1,((zF ((qE s q (d+1) l').2.2.1-(1:Int))),((qE s q (d+1) l').2.2.2.1,())))):zc)=qE s q d l':=by
  intro q l'
  rw[V4,zB (by omega) (by omega)]
  show(s,(((vI s q:Nat):Int),(((d+1:Nat):Int)-1,(l',()))))=(s,(((vI s q:Nat):Int),((d:Int),(l',()))))
  rw[show((d+1:Nat):Int)-1=(d:Int) by omega]
 cases e:nw r with
 | nil =>
  rw[e]at ht
  dsimp only at ht ⊢
  rw[z6 ht]
  dsimp only
  rw[z8 (by rfl),z8 (by rfl)]
  rw[z6 (a:=(false,(qE s [] d l,zE))) (by rw[vV,wT,VN,zg,z7])]
  dsimp only
  rw[zg,z6 (a:=(false,(qE s [] d l,zE))) (by rw[vV,wT,VN,zg,z7])]
  rfl
 | cons c q =>
  rw[e]at ht hn hk
  have hq:=gj hk
  dsimp only at ht hn ⊢
  have hw:=CT s hs hk d hd l
  by_cases Tx:c=45
  ·subst Tx
   rw[if_pos (by decide)]at ht
   dsimp only at ht
   rw[if_pos rfl]at hn ⊢
   rw[z6 ht]
   dsimp only
   rw[za (by rfl),z6 hw]
   by_cases c31:31<=d
   ·rw[if_pos c31,if_pos c31]; rfl
   ·rw[if_neg c31]at hn
    rw[if_neg c31,if_neg c31,Sum.elim_inl]
    have hf:=hF (d+1) l q (by omega) hq
    cases z:F (d+1) l q with
    | no=>rw[z]at hn; exact absurd rfl hn
    | er k b r' d' l'=>rw[z]at hf; rw[z6 (hf (by simp))]; rfl
    | ok e2 r2 l2 =>
     rw[z]at hf
     rw[z6 (hf (by simp)),Sum.elim_inl]
     dsimp only
     rw[z7,down]
     rfl
  ·rw[if_neg Tx]at hn ⊢
   by_cases Ts:c=40
   ·subst Ts
    rw[if_pos (by decide)]at ht
    dsimp only at ht
    rw[if_pos rfl]at hn ⊢
    rw[z6 ht]
    dsimp only
    rw[z8 (by rfl),za (by rfl),z6 hw]
    by_cases c31:31<=d
    ·rw[if_pos c31,if_pos c31]; rfl
    ·rw[if_neg c31]at hn
     rw[if_neg c31,if_neg c31,Sum.elim_inl]
     have hf:=hS (d+1) l q (by omega) hq
     have xf:=xS (d+1) l q hq
     cases z:S (d+1) l q with
     | no=>rw[z]at hn; exact absurd rfl hn
     | er k b r' d' l'=>rw[z]at hf; rw[z6 (hf (by simp))]; rfl
     | ok e2 r2 l2 =>
      rw[z]at hf xf
      rw[z6 (hf (by simp)),Sum.elim_inl]
      dsimp only
      have Kr:=sO s hs (d+1) l2 r2 xf [41]
      show _=encR s d (match kc [41] r2 with | some (_,q')=>.ok e2 q' l2 | none=>.er 2 (nw r2) (nw r2) (d+1) l2)
      cases w:kc [41] r2 with
      | none =>
       rw[w]at Kr
       dsimp only at Kr ⊢
       rw[z6 (a:=.inr ((2,(((vI s (nw r2):Nat):Int),())),(qE s (nw r2) (d+1) l2,(zE,e2)))) (by rw[z6 Kr]; rfl)]
       rfl
      | some x =>
       obtain⟨c',q'⟩:=x
       rw[w]at Kr
       have hc':=(iJ w).2.1
       have hc':c'=41:=by simpa using hc'
       subst hc'
       dsimp only at Kr ⊢
       rw[z6 (a:=.inl (qE s q' (d+1) l2,(zE,e2))) (by rw[z6 Kr]; rfl),Sum.elim_inl]
       dsimp only
       rw[z7,down]
       rfl
   ·rw[if_neg (by simp[Tx,Ts])]at ht
    dsimp only at ht
    rw[if_neg Ts]at hn ⊢
    rw[z6 ht]
    dsimp only
    rw[z8 (by rfl),z8 (by rfl)]
    rw[z6 (a:=(kY c,(qE s (c::q) d l,zE))) (by rw[vV,wT,Zn hk,zh,zb (lT hk),cx hk,z6 (QE c),z7])]
    dsimp only
    cases hD:kY c with
    | true =>
     rw[if_pos rfl,zh]
     have Wf:=CD s hs d l (c::q) hk
     cases z:UX qc d (c::q) l with
     | no =>
      exfalso
      rw[if_pos hD,z]at hn
      exact hn rfl
     | er k b r' d' l'=>rw[z]at Wf; rw[z6 Wf]; rfl
     | ok e2 r2 l2=>rw[z]at Wf; rw[z6 Wf]; rfl
    | false =>
     rw[if_neg (by simp),zg]
     rw[z6 (a:=(XW c,(qE s (c::q) d l,zE))) (by rw[vV,wT,Zn hk,zh,zb (lT hk),cx hk,z6 (LK c),z7])]
     dsimp only
     cases hL:XW c with
     | true =>
      rw[if_pos rfl,zh]
      have hwl:(xa (λz0=>vg z0) 24 (qE s (c::q) d l)).run=_:=Qy s hs d l (λz0=>vg z0) ux nH 24 (by omega) (c::q) hk
      rw[z6 hwl]
      rfl
     | false =>
      rw[if_neg (by simp),zg]
      rfl
end Go.AM.Lf
