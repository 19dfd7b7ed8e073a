/-
  Plain laws of the lifted program, part 1.
-/
import Derived.Test.YthhgaidlooddpaaGreatDoorLf0
import Derived.Test.YthhgaidlooddpaaGreatDoorAmA
import Derived.Test.YthhgaidlooddpaaGreatDoorAmD
import Derived.Test.YthhgaidlooddpaaGreatDoorQ0
set_option linter.unusedVariables false
open Go.AM.T (BF G3 fJ fh lN mK qp qz vI vu wq z6 z7 z8 zJ za zb zg zj zp)
namespace Go.AM.T
variable {σ ρ α β:Type}
theorem N5{r:σ->T (σ⊕ρ)}(l:List α)(d:α)(e:β->Int->σ)(I:Nat->β->Prop)(g:β->α->β)(fin:β->ρ)
  (step:∀ (k:Nat) (b:β) (x:α),k<l.length->nth l (k:Int) d=x->x∈l->I k b->(r (e b (k:Int))).run=some (.inl (e (g b x) ((k+1:Nat):Int)))/\I (k+1) (g b x))
  (done:∀ b,I l.length b->(r (e b (l.length:Int))).run=some (.inr (fin b))) {b:β} (h0:I 0 b):(loop r (e b 0)).run=some (fin (l.foldl g b))/\I l.length (l.foldl g b):=by
 have key:∀ (n k:Nat) (b:β),n+k=l.length->I k b->(loop r (e b (k:Int))).run=some (fin ((l.drop k).foldl g b))/\I l.length ((l.drop k).foldl g b):=by
  intro n
  induction n with
  | zero =>
   intro k b hk hb
   have:k=l.length:=by omega
   subst this
   rw[List.drop_length]
   exact⟨qz (done b hb),hb⟩
  | succ n ih =>
   intro k b hk hb
   have qu:k<l.length:=by omega
   have hd:l.drop k=l[k]::l.drop (k+1):=List.drop_eq_getElem_cons qu
   have hn:nth l (k:Int) d=l[k]:=by simp[nth,qu]
   obtain⟨h1,h2⟩:=step k b l[k] qu hn (List.getElem_mem qu) hb
   rw[hd,List.foldl_cons,vu h1]
   exact ih (k+1) _ (by omega) h2
 have:=key l.length 0 b (by omega) h0
 simpa using this
theorem VG{r:σ->T (σ⊕ρ)}(l:List α)(d:α)(e:β->Int->σ)(I:Nat->β->Prop)(g:β->α->β)(fin:β->ρ)
  (step:∀ (k:Nat) (b:β) (x:α),k<l.length->nth l (k:Int) d=x->x∈l->I k b->(r (e b (k:Int))).run=some (.inl (e (g b x) ((k+1:Nat):Int)))/\I (k+1) (g b x))
  (done:∀ b,I l.length b->(r (e b (l.length:Int))).run=some (.inr (fin b))) {b:β} (h0:I 0 b):(loop r (e b 0)).run=some (fin (l.foldl g b)) :=
 (N5 l d e I g fin step done h0).1
theorem rO{r:σ->T (σ⊕ρ)}(l:List α)(d:α)(e:β->Int->σ)(I:Nat->β->Prop)(f:List α->β->ρ)
  (step:∀ (k:Nat) (b:β) (x:α) (xs:List α),k<l.length->nth l (k:Int) d=x->x∈l->l.drop k=x::xs->I k b ->
   (∃ b',(r (e b (k:Int))).run=some (.inl (e b' ((k+1:Nat):Int)))/\I (k+1) b'/\f xs b'=f (x::xs) b)\/(r (e b (k:Int))).run=some (.inr (f (x::xs) b)))
  (done:∀ b,I l.length b->(r (e b (l.length:Int))).run=some (.inr (f [] b))) {b:β} (h0:I 0 b):(loop r (e b 0)).run=some (f l b):=by
 have key:∀ (n k:Nat) (b:β),n+k=l.length->I k b->(loop r (e b (k:Int))).run=some (f (l.drop k) b):=by
  intro n
  induction n with
  | zero =>
   intro k b hk hb
   have:k=l.length:=by omega
   subst this
   rw[List.drop_length]
   exact qz (done b hb)
  | succ n ih =>
   intro k b hk hb
   have qu:k<l.length:=by omega
   have hd:l.drop k=l[k]::l.drop (k+1):=List.drop_eq_getElem_cons qu
   have hn:nth l (k:Int) d=l[k]:=by simp[nth,qu]
   rcases step k b l[k] _ qu hn (List.getElem_mem qu) hd hb with⟨b',h1,h2,h3⟩ | h1
   ·rw[hd,vu h1,<- h3]
    exact ih (k+1) _ (by omega) h2
   ·rw[hd]; exact qz h1
 have:=key l.length 0 b (by omega) h0
 simpa using this
end Go.AM.T
namespace Go.AM.PL
theorem iU(k n:Nat)(h:k<n)(hn:n<=4000000000000):zF ((k:Int)+1)=((k+1:Nat):Int):=by rw[zA (by omega) (by omega)]; omega
theorem uN{k n:Nat}(h:k<n):decide ((k:Int)<(n:Int))=true:=decide_eq_true (by omega)
theorem kl(n:Nat):decide ((n:Int)<(n:Int))=false:=decide_eq_false (by omega)
theorem qf{k n:Nat}(h:k<n):qw (k:Int) n:=⟨by omega,by omega⟩
theorem YP{α:Type}(f:α->ze)(l:List α)(s:ze):l.foldl (λs x=>s++f x) s=s++l.flatMap f:=by
 induction l generalizing s with
 | nil=>simp
 | cons x l ih=>rw[List.foldl_cons,ih,List.flatMap_cons,List.append_assoc]
theorem uI{α:Type}(f:α->ze)(l:List α)(c:Nat)(h:∀ x∈l,(f x).length<=c):(l.flatMap f).length<=l.length*c:=by
 induction l with
 | nil=>simp
 | cons x l ih =>
  have h1:=h x List.mem_cons_self
  have h2:=ih λy hy=>h y (List.mem_cons_of_mem _ hy)
  rw[List.flatMap_cons,List.length_append,List.length_cons,Nat.add_mul]; omega
theorem Cw{k n c:Nat}(h:k<=n):k*c<=n*c:=Nat.mul_le_mul_right c h
theorem jc(a b:ze):cat a b=a++b:=rfl
theorem zS(a b:ze):(cat a b).length=a.length+b.length:=by rw[jc,List.length_append]
end Go.AM.PL
namespace Go.AM.PL
theorem Tm(n:Nat)(h:n≠0):VK n=DK n:=by
 induction n using Nat.strongRecOn with
 | _ n ih =>
  rw[VK,cX h]
  split
  ·rename_i c
   rw[show n / 10=0 by omega,cf]
   unfold NS
   rw[show n % 10=n by omega]; rfl
  ·rename_i c
   rw[ih (n / 10) (by omega) (by omega)]; rfl
theorem MI(n:Nat):VK n=pr n:=by
 unfold pr
 by_cases h:n=0
 ·subst h; rw[VK]; rfl
 ·rw[if_neg h,Tm n h]
end Go.AM.PL
namespace Go.AM.Lf
open PL
def z6c(n:Int):Prop := -9223372036854775808<=n/\n<=9223372036854775807
theorem z0b(n:Int)(h:z6c n):(strconv_Itoa n).run=some (cQ n):=by
 unfold strconv_Itoa
 unfold z6c at h
 rw[zb h,z7]
theorem z9W{n:Nat}(h:n<18446744073709551616):(zu n).length<=2:=zR.2 (by show n<4294967296 ^ 2; omega)
theorem DF{n:Nat}(h:n<18446744073709551616):(pr n).length<=37:=eJ n 2 (z9W h)
theorem Cm(n:Int)(h:z6c n):(cQ n).length<=38:=by
 obtain⟨h1,h2⟩:=h
 unfold cQ
 split
 ·rw[MI]
  have:=DF (n:=n.natAbs) (by omega)
  simp; omega
 ·rw[MI]
  have:=DF (n:=n.toNat) (by omega)
  omega
theorem tP(a:Rat)(h:wh 1000 a):(vg (norm a)).length<=40000:=by
 have kK:=ki (by omega) h
 generalize norm a=v at *
 have h1:=eJ (nv v.2.1) 1000 (Nat.le_trans (zw kK.1) kK.2.2.1)
 have h2:=eJ (nv v.2.2.1) 1000 (Nat.le_trans (zw kK.2.1) kK.2.2.2)
 have h3:=nn v.1
 unfold vg
 split<;>simp<;>omega
theorem qq(s:ze):zh s s=true:=by rw[xP]; simp
theorem Ds{l:List Int}(h:wf (.sl u32) l):zm l:=λx hx=>by
 obtain⟨p,q⟩:=h x hx
 have p':(0:Int)<=x:=p
 have q':x<=4294967295:=q
 exact⟨p',by omega⟩
theorem z0I{a:Rat}(h:wf ve a):zm a.2.1/\zm a.2.2.1:=⟨Ds h.2.1,Ds h.2.2.1⟩
end Go.AM.Lf
namespace Go.AM.PL
def uO(b:UInt8):Bool:=decide (48<=b.toNat/\b.toNat<=57)
def qS(s:ze):Bool:=s.all uO
def wS(s:ze):Nat:=s.foldl (λn b=>n*10+(b.toNat-48)) 0
theorem Nw(s:ze)(n:Nat):s.foldl (λn b=>n*10+(b.toNat-48)) n=n*10 ^ s.length+wS s:=by
 unfold wS
 induction s generalizing n with
 | nil=>simp
 | cons b s ih =>
  rw[List.foldl_cons,List.foldl_cons,ih,ih (0*10+(b.toNat-48)),List.length_cons,Nat.pow_succ]
  grind
theorem ZL(s t:ze):wS (s++t)=wS s*10 ^ t.length+wS t:=by
 have:=Nw t (wS s)
 unfold wS at this ⊢
 rw[List.foldl_append,this]
theorem YV(s:ze)(b:UInt8):wS (s++[b])=wS s*10+(b.toNat-48):=by
 unfold wS; rw[List.foldl_append]; rfl
theorem fQ{b:UInt8}:uO b=true↔48<=b.toNat/\b.toNat<=57:=by unfold uO; simp
theorem H2{s:ze}(h:qS s=true):wS s<10 ^ s.length:=by
 have key:∀ (s:ze) (n k:Nat),qS s=true->n<10 ^ k->s.foldl (λn b=>n*10+(b.toNat-48)) n<10 ^ (k+s.length):=by
  intro s
  induction s with
  | nil=>intro n k _ h; simpa using h
  | cons b s ih =>
   intro n k hd hn
   simp only[qS,List.all_cons,Bool.and_eq_true]at hd
   have hb:=fQ.1 hd.1
   have:=ih (n*10+(b.toNat-48)) (k+1) hd.2 (by rw[Nat.pow_succ]; omega)
   rw[List.foldl_cons,List.length_cons]
   rwa [show k+(s.length+1)=k+1+s.length by omega]
 have:=key s 0 0 h (by simp)
 simpa[wS]using this
theorem cp(s t:ze):qS (s++t)=(qS s&&qS t):=by unfold qS; rw[List.all_append]
theorem u7(b:UInt8)(t:ze):qS (b::t)=(uO b&&qS t):=rfl
theorem Qv{s:ze}(h:qS s=true):(zu (wS s)).length<=s.length+1:=by
 refine Nat.le_trans (Uv (Nat.le_of_lt (H2 h))) ?_
 refine zR.2 (Nat.lt_of_lt_of_le (Nat.pow_lt_pow_right (a:=10) (by omega) (Nat.lt_succ_self s.length)) ?_)
 exact Nat.pow_le_pow_left (by omega) _
def me(s:ze):Option Nat:=if s=[]\/400<s.length\/qS s=false then none else some (wS s)
theorem U7(f:Nat->Bool):∀ (n k i:Nat),i<n->pW .bool (di .bool n) (NZ (e:=.bool) f n k) i=f (k+i)
 | 0,_,_,h=>by omega
 | n+1,k,0,_=>by
  show(match(wP (a:=.bool) (f k):Option (den .bool))with | some y=>y | none=>zk .bool)=_
  simp[wP]
 | n+1,k,i+1,h=>by
  show pW .bool (di .bool n) (NZ (e:=.bool) f n (k+1)) i=_
  rw[U7 f n (k+1) i (by omega)]
  congr 1; omega
abbrev jn:ze:=[48,49,50,51,52,53,54,55,56,57]
theorem z2i:∀ c:Fin 256,jn.contains (UInt8.ofNat c.val)=decide (48<=c.val/\c.val<=57):=by decide +kernel
theorem yA{s:ze}{k:Nat}(h:k<s.length):qo s (k:Int)=((s[k]).toNat:Int):=by
 unfold qo; simp[h]
theorem Ea(b:UInt8)(s:ze):vw 1 (((b::s).length:Nat):Int) (b::s)=s:=by unfold vw; simp
theorem O3(s:ze)(b:UInt8):vw 0 ((s.length:Nat):Int) (s++[b])=s:=by unfold vw; simp
end Go.AM.PL
namespace Go.AM.Lf
open PL
theorem Zo(b:UInt8):(xy (cI jn) (b.toNat:Int)).run=some (uO b):=by
 have hb:b.toNat<256:=b.toNat_lt
 unfold xy
 rw[zb ⟨by omega,by omega⟩,z7]
 unfold cI
 rw[Int.toNat_natCast,U7 _ 256 0 _ hb,Nat.zero_add]
 exact congrArg some (z2i ⟨b.toNat,hb⟩)
theorem Kx(s:ze)(hs:s.length<=1000000000):∃ r,(vn s (cI jn)).run=some r/\qS r=qS s/\(qS r=true->r=[])/\r.length<=s.length:=by
 have:=T.qI (r:=xz (cI jn)) (λt:ze=>qS t=qS s/\t.length<=s.length) (λt=>t.length) (λr:ze=>qS r=qS s/\(qS r=true->r=[])/\r.length<=s.length) (λt ht => ?_) (s:=s) ⟨rfl,Nat.le_refl _⟩
 ·obtain⟨r,h1,h2⟩:=this
  have h1:(kD (cI jn) s).run=some r:=h1
  unfold vn
  rw[z6 h1]
  exact⟨r,rfl,h2⟩
 ·rcases List.eq_nil_or_concat t with rfl | ⟨l,b,rfl⟩
  ·right
   refine⟨[],?_,ht.1,λ_=>rfl,by simp⟩
   unfold xz
   dsimp only
   rw[z8 (by rfl),z7]
  ·rw[List.concat_eq_append]at ht ⊢
   have hl:(l++[b]).length=l.length+1:=by simp
   have e1:zF (((l++[b]).length:Int)-1)=(l.length:Int):=by rw[hl,zA (by omega) (by omega)]; omega
   have e2:qo (l++[b]) (l.length:Int)=(b.toNat:Int):=by rw[yA (by simp)]; simp
   unfold xz
   dsimp only
   rw[za (decide_eq_true (by rw[hl]; omega)),e1,qp _ (by omega) (by rw[hl]; omega),e2,z6 (Zo b)]
   cases hb:uO b with
   | false =>
    right
    refine⟨_,by rw[za (by rfl),z7],ht.1,λh => ?_,ht.2⟩
    rw[cp,u7,hb]at h; simp at h
   | true =>
    left
    refine⟨l,by rw[z8 (by rfl),fh _ (by omega) (by omega) (by rw[hl]; omega),z7,O3],⟨?_,by omega⟩,by omega⟩
    rw[<- ht.1,cp,u7,hb]; simp[qS]
theorem H5(s:ze)(hs:s.length<=1000000000):∃ r,(vL s (cI jn)).run=some r/\qS r=qS s/\(qS r=true->r=[]):=by
 have:=T.qI (r:=xH (cI jn)) (λt:ze=>qS t=qS s) (λt=>t.length) (λr:ze=>qS r=qS s/\(qS r=true->r=[])) (λt ht => ?_) (s:=s) rfl
 ·obtain⟨r,h1,h2⟩:=this
  have h1:(y8 (cI jn) s).run=some r:=h1
  unfold vL
  rw[z6 h1]
  exact⟨r,rfl,h2⟩
 ·cases t with
  | nil =>
   right
   refine⟨[],?_,ht,λ_=>rfl⟩
   unfold xH
   dsimp only
   rw[z8 (by rfl),z7]
  | cons b l =>
   have e2:qo (b::l) 0=(b.toNat:Int):=rfl
   unfold xH
   dsimp only
   rw[za (decide_eq_true (by simp)),qp _ (by omega) (by simp),e2,z6 (Zo b)]
   cases hb:uO b with
   | false =>
    right
    refine⟨_,by rw[za (by rfl),z7],ht,λh => ?_⟩
    rw[u7,hb]at h; simp at h
   | true =>
    left
    refine⟨l,by rw[z8 (by rfl),fh _ (by omega) (by simp; omega) (by omega),z7,Ea],?_,by simp⟩
    rw[<- ht,u7,hb]; rfl
theorem Hd:∀ (j:Nat) b,jn[j]? = some b->b.toNat<128:=by
 intro j b h
 have:b∈jn:=List.mem_of_getElem? h
 simp only[jn,List.mem_cons,List.not_mem_nil,or_false]at this
 rcases this with rfl | rfl | rfl | rfl | rfl | rfl | rfl | rfl | rfl | rfl<;>decide
theorem Wz(s:ze)(hs:s.length<=1000000000)(hn:s≠[]):∃ r,(kg s jn).run=some r/\zh r []=qS s:=by
 obtain⟨r1,a1,a2,a3,a4⟩:=Kx s hs
 obtain⟨r,b1,b2,b3⟩:=H5 r1 (by omega)
 refine⟨r,?_,?_⟩
 ·have hm:(strings_makeASCIISet jn).run=some (cI jn,true):=by
   unfold strings_makeASCIISet
   rw[zb ⟨by decide,Hd⟩,z7]
  have e1:zh s []=false:=by rw[xP]; simpa using hn
  unfold kg
  rw[z8 (by rw[e1]; rfl),zb (λh=>by simp at h),z8 (by rfl),z6 hm,zj,z6 a1,z6 b1,z7]
 ·rw[xP]
  rw[a2]at b2
  cases h:qS s with
  | true=>rw[h]at b2; rw[b3 b2]; simp
  | false =>
   rw[h]at b2
   refine decide_eq_false λz => ?_
   subst z; cases b2
theorem z7J(v:Nat)(b:UInt8)(hb:uO b=true):zO (Bg ((b.toNat:Int)-48))=((b.toNat-48:Nat):Int):=by
 have:=fQ.1 hb
 rw[Gq (by omega) (by omega),qm (by omega) (by omega)]; omega
theorem No:zm [(10:Int)]:=by intro x hx; simp at hx; omega
theorem bL(s:ze)(hs:s.length<=1000000000):(vt s).run=some (match me s with | some n=>(zu n,true) | none=>([],false)):=by
 unfold vt me
 by_cases c1:s=[]
 ·subst c1; rw[if_pos (.inl rfl)]; rfl
 ·have e1:zh s []=false:=by rw[xP]; simpa using c1
  by_cases c2:400<s.length
  ·have hg:(.ite (zh s ([]:ze)) (.ret true) (.ite (decide ((400:Int)<(Nat.cast (List.length s):Int))) (.ret true) (T.bind (kg s ([48,49,50,51,52,53,54,55,56,57]:ze)) λr=>.ret (!(zh r ([]:ze))))):T Bool).run=some true:=by
    rw[z8 e1,za (decide_eq_true (by omega)),z7]
   rw[z6 hg,if_pos (.inr (.inl c2))]; rfl
  ·obtain⟨r,h1,h2⟩:=Wz s hs c1
   have hg:(.ite (zh s ([]:ze)) (.ret true) (.ite (decide ((400:Int)<(Nat.cast (List.length s):Int))) (.ret true) (T.bind (kg s ([48,49,50,51,52,53,54,55,56,57]:ze)) λr=>.ret (!(zh r ([]:ze))))):T Bool).run=some (!(qS s)):=by
    rw[z8 e1,z8 (decide_eq_false (by omega)),z6 h1,z7,h2]
   rw[z6 hg]
   cases hd:qS s with
   | false=>rw[if_pos (.inr (.inr rfl))]; rfl
   | true =>
    rw[if_neg (by simp[c1]; omega),z8 (by rfl)]
    have hL:(Qf s (s.length:Int) ([],0)).run=some (zu (wS s)):=by
     have:=vI (r:=gO s (s.length:Int)) (λst:List Int×Int=>∃ k:Nat,st=(zu (wS (s.take k)),(k:Int))/\k<=s.length) (λst=>s.length-st.2.toNat) (λ_=>zu (wS s)) (λst xK => ?_) (s:=([],0)) ⟨0,by simp[wS,ql],by omega⟩
     ·exact this
     ·obtain⟨k,rfl,hk⟩:=xK
      by_cases c:k<s.length
      ·left
       have hb:uO s[k]=true:=List.all_eq_true.1 hd _ (List.getElem_mem c)
       have ht:qS (s.take k)=true:=List.all_eq_true.2 λx hx=>List.all_eq_true.1 hd x (List.mem_of_mem_take hx)
       have hl:=Qv ht
       have hl':(zu (wS (s.take k))).length<=500:=by rw[List.length_take]at hl; omega
       have hm:=oP (zu (wS (s.take k))) [10] (zn _) No (by omega) (by simp)
       rw[zW,show nv [10]=10 from rfl]at hm
       have hml:=XA (wS (s.take k)) 10
       have h10:(zu 10).length<=1:=zR.2 (by decide)
       have hd9:(zu (s[k].toNat-48)).length<=1:=zR.2 (by have:=fQ.1 hb; show _<4294967296 ^ 1; omega)
       have ha:=DL (zu (wS (s.take k)*10)) (zu (s[k].toNat-48)) (zn _) (zn _) (by omega) (by omega)
       rw[zW,zW]at ha
       refine⟨(zu (wS (s.take (k+1))),((k+1:Nat):Int)),?_,⟨k+1,rfl,c⟩,by simp only[Int.toNat_natCast]; omega,rfl⟩
       unfold gO
       dsimp only
       rw[za (uN c),z6 hm,zb (qf c),yA c,z7J 0 _ hb,z6 (yz _ (by have:=fQ.1 hb; omega)),z6 ha,z7,iU k _ c (by omega),
        List.take_succ_eq_append_getElem c,YV]
      ·have:k=s.length:=by omega
       subst this
       right
       unfold gO
       dsimp only
       rw[z8 (kl _),z7,List.take_length]
    rw[z6 hL,z7]
end Go.AM.Lf
namespace Go.AM.PL
def WK(t:ze):Option (Nat×Nat) :=
 if t.takeWhile uO=[]then none else match t.dropWhile uO with
 | []=>some (wS (t.takeWhile uO),1)
 | c::q=>if q=[]\/qS q=false then none else if c=46 then some (wS (t.takeWhile uO)*10 ^ q.length+wS q,10 ^ q.length)
  else if c=47 then(if wS q=0 then none else some (wS (t.takeWhile uO),wS q))else none
theorem jV{u:ze}(h:qS u=true)(r:ze)(hr:∀ c q,r=c::q->uO c=false):(u++r).takeWhile uO=u/\(u++r).dropWhile uO=r:=by
 induction u with
 | nil =>
  cases r with
  | nil=>exact⟨rfl,rfl⟩
  | cons c q=>have:=hr c q rfl; simp[this]
 | cons b u ih =>
  rw[u7,Bool.and_eq_true]at h
  obtain⟨i1,i2⟩:=ih h.2
  simp[h.1,i1,i2]
theorem Vw{u:ze}(h:qS u=true):WK u=if u=[]then none else some (wS u,1):=by
 have:=jV h [] (λc q z=>by cases z)
 rw[List.append_nil]at this
 unfold WK
 rw[this.1,this.2]
theorem dR{u:ze}(h:qS u=true)(c:UInt8)(q:ze)(hc:uO c=false):WK (u++c::q)=if u=[]then none else if q=[]\/qS q=false then none else if c=46 then some (wS u*10 ^ q.length+wS q,10 ^ q.length)
  else if c=47 then(if wS q=0 then none else some (wS u,wS q))else none:=by
 have:=jV h (c::q) (λc' q' z=>by cases z; exact hc)
 unfold WK
 rw[this.1,this.2]
theorem Ca{u:ze}(h:qS u=true)(c:UInt8)(q:ze)(hc:uO c=false)(h1:c≠46)(h2:c≠47):WK (u++c::q)=none:=by
 rw[dR h c q hc,if_neg h1,if_neg h2]
 split
 ·rfl
 ·split<;>rfl
theorem mR{w:ze}(h:qS w=false):∃ u c v,w=u++c::v/\qS u=true/\uO c=false:=by
 induction w with
 | nil=>cases h
 | cons b w ih =>
  cases hb:uO b with
  | false=>exact⟨[],b,w,rfl,rfl,hb⟩
  | true =>
   rw[u7,hb,Bool.true_and]at h
   obtain⟨u,c,v,rfl,h1,h2⟩:=ih h
   exact⟨b::u,c,v,rfl,by rw[u7,hb,h1]; rfl,h2⟩
theorem UZ{c:UInt8}{s:ze}(h:c∈s):∃ w q,s=w++c::q/\c ∉ w:=by
 induction s with
 | nil=>cases h
 | cons b s ih =>
  by_cases hb:b=c
  ·subst hb; exact⟨[],s,rfl,by simp⟩
  ·obtain⟨w,q,rfl,h2⟩:=ih (by rcases List.mem_cons.1 h with h | h; exact absurd h.symm hb; exact h)
   exact⟨b::w,q,rfl,by simp[h2]; exact λz=>hb z.symm⟩
theorem z2N(c:UInt8)(w q:ze)(h:c ∉ w):cV (w++c::q) [c]=(w.length:Int):=by
 induction w with
 | nil=>simp[cV]
 | cons b w ih =>
  have hb:c≠b:=λz=>h (by simp[z])
  have hw:=ih (λz=>h (List.mem_cons_of_mem _ z))
  rw[List.cons_append]
  unfold cV
  rw[hw]
  have e1:List.isPrefixOf [c] (b::(w++c::q))=false:=by simp[List.isPrefixOf,hb]
  rw[e1]
  have e2:((w.length:Int) == -1)=false:=by simp
  rw[e2]
  simp
theorem O9(c:UInt8)(s:ze)(h:c ∉ s):cV s [c] = -1:=by
 induction s with
 | nil=>rfl
 | cons b w ih =>
  have hb:c≠b:=λz=>h (by simp[z])
  unfold cV
  rw[ih (λz=>h (List.mem_cons_of_mem _ z))]
  have e1:List.isPrefixOf [c] (b::w)=false:=by simp[List.isPrefixOf,hb]
  rw[e1]; rfl
theorem pX(c:UInt8)(w q:ze)(h:c ∉ w):wT (w++c::q) [c]=(w,q,true):=by
 unfold wT
 rw[z2N c w q h,if_pos (by omega)]
 simp
theorem dQ(c:UInt8)(s:ze)(h:c ∉ s):wT s [c]=(s,[],false):=by
 unfold wT
 rw[O9 c s h,if_neg (by omega)]
theorem YN{s:ze}{n:Nat}(h:me s=some n):s≠[]/\s.length<=400/\qS s=true/\n=wS s:=by
 unfold me at h
 split at h
 ·cases h
 ·rename_i hc
  cases h
  simp only[not_or]at hc
  exact⟨hc.1,by omega,by simpa using hc.2.2,rfl⟩
theorem Qx{s:ze}(h1:s≠[])(h2:s.length<=400)(h3:qS s=true):me s=some (wS s):=by
 unfold me
 rw[if_neg (by simp[h1,h3]; omega)]
theorem mT{s:ze}(h:s=[]\/qS s=false):me s=none:=by
 unfold me
 rw[if_pos (by rcases h with h | h; exact .inl h; exact .inr (.inr h))]
end Go.AM.PL
namespace Go.AM.Lf
open PL
def zQ:Rat:=(false,[],[],())
def pn(s:ze):Option (Nat×Nat):=WK (cW s [45])
theorem XV(s p:ze):(cW s p).length<=s.length:=by unfold cW; split<;>simp
theorem EX(t:ze)(ht:t.length<=400)(neg:Bool) :
  (T.bind (strings_Cut t ([46]:ze)) λ(whole,part,ok) =>
   .ite ok
    (T.bind (vt part) λ(r,is) =>
     .zL (((List.length whole)+(List.length part))<=(4611686018427387904:Nat)) <|
     T.bind (vt (cat whole part)) λ(n,both) =>
     .ite ((zh whole ([]:ze))||((!is)||(!both)))
      (.ret ((false,(([]:List Int),(([]:List Int),()))),(2:Int)))
      (T.bind (rA (Nat.cast (List.length part):Int)) λr1 =>
       T.bind (nG neg n r1) λr2 =>
       .ret (r2,(0:Int))))
    (T.bind (strings_Cut t ([47]:ze)) λ(num,den,ok1) =>
     T.bind (vt num) λ(n1,is1) =>
     T.bind (vt (bif (!ok1)then([49]:ze)else den)) λ(d,both1) =>
     .ite ((!is1)||((!both1)||((Nat.cast (List.length d):Int)==(0:Int))))
      (.ret ((false,(([]:List Int),(([]:List Int),()))),(2:Int)))
      (T.bind (nG neg n1 d) λr3 =>
       .ret (r3,(0:Int)))):T (Rat×Int)).run=some (match WK t with | some (n,d)=>(wM neg n d,(0:Int)) | none=>(zQ,(2:Int))):=by
 have tG:∀ c:UInt8,(strings_Cut t [c]).run=some (wT t [c]):=λc=>by
  unfold strings_Cut; rw[zb (by omega),z7]
 rw[z6 (tG 46)]
 have h46:uO 46=false:=by decide
 have h47:uO 47=false:=by decide
 by_cases c1:(46:UInt8)∈t
 ·obtain⟨w,p,rfl,hw⟩:=UZ c1
  rw[pX 46 w p hw]
  have hl:w.length+p.length+1<=400:=by simp at ht; omega
  dsimp only
  rw[zj,z6 (bL p (by omega))]
  have hwp:=bL (cat w p) (by rw[zS]; omega)
  by_cases d1:qS w=true
  ·rw[dR d1 46 p h46]
   by_cases d2:w=[]
   ·subst d2
    rw[if_pos rfl]
    generalize me p=o at *
    cases o<;>(dsimp only; rw[zp _ (by simp; omega),z6 hwp]; generalize me (cat [] p)=o2; cases o2<;>rfl)
   ·rw[if_neg d2]
    by_cases d3:p=[]\/qS p=false
    ·rw[if_pos d3,mT d3]
     dsimp only
     rw[zp _ (by omega),z6 hwp]
     generalize me (cat w p)=o2
     cases o2<;>(dsimp only; rw[za (by simp),z7]; rfl)
    ·rw[if_neg d3,if_pos rfl]
     have d4:p≠[]:=λz=>d3 (.inl z)
     have d5:qS p=true:=by cases h:qS p with | true=>rfl | false=>exact absurd (.inr h) d3
     have d6:qS (cat w p)=true:=by rw[jc,cp,d1,d5]; rfl
     have d7:cat w p≠[]:=by rw[jc]; simp[d2]
     rw[Qx d4 (by omega) d5]
     rw[Qx d7 (by rw[zS]; omega) d6]at hwp
     dsimp only at hwp ⊢
     have e1:zh w []=false:=by rw[xP]; simpa using d2
     have h10:=rC p.length
     have hn:=Qv d6
     have ho:=Z5 neg (zu (wS (cat w p))) (zu (10 ^ p.length)) (zn _) (zn _) (by rw[zS]at hn; omega) (by omega)
     rw[zW,zW]at ho
     rw[zp _ (by omega),z6 hwp]
     dsimp only
     rw[z8 (by rw[e1]; rfl),z6 (oD p.length (by omega)),z6 ho,z7,jc,ZL]
  ·have d1:qS w=false:=by simpa using d1
   obtain⟨u,c,v,rfl,g1,g2⟩:=mR d1
   have z2P:c≠46:=λz=>hw (by simp[z])
   have e:WK (u++c::v++46::p)=none:=by
    rw[List.append_assoc,List.cons_append,dR g1 c _ g2]
    have:qS (v++46::p)=false:=by rw[cp,u7,h46]; simp
    rw[if_pos (show v++46::p=[]\/qS (v++46::p)=false from .inr this)]; split<;>rfl
   rw[e]
   have kK:me (cat (u++c::v) p)=none:=mT (.inr (by rw[jc,cp,d1]; rfl))
   rw[kK]at hwp
   generalize me p=o at *
   cases o<;>(dsimp only; rw[zp _ (by omega),z6 hwp]; dsimp only; rw[za (by simp),z7]; rfl)
 ·rw[dQ 46 t c1]
  dsimp only
  rw[zg,z6 (tG 47)]
  have fin:∀ (num den:ze) (x:Bool),num.length<=400->den.length<=400->(T.bind (vt num) λ(n1,is1) =>
     T.bind (vt (bif (!x)then([49]:ze)else den)) λ(d,both1) =>
     .ite ((!is1)||((!both1)||((Nat.cast (List.length d):Int)==(0:Int))))
      (.ret ((false,(([]:List Int),(([]:List Int),()))),(2:Int)))
      (T.bind (nG neg n1 d) λr3=>.ret (r3,(0:Int))):T (Rat×Int)).run =
     some (match me num,me (bif (!x)then([49]:ze)else den)with | some n,some d=>if d=0 then(zQ,(2:Int))else(wM neg n d,(0:Int)) | _,_=>(zQ,(2:Int))):=by
   intro num den x hn hd
   have hd2:(bif (!x)then([49]:ze)else den).length<=400:=by cases x<;>simp[hd]
   generalize (bif (!x)then([49]:ze)else den)=dd at *
   rw[z6 (bL num (by omega))]
   have M1:=bL dd (by omega)
   cases h1:me num with
   | none =>
    dsimp only
    rw[z6 M1]
    generalize me dd=o
    cases o<;>rfl
   | some n =>
    dsimp only
    rw[z6 M1]
    cases h2:me dd with
    | none=>rfl
    | some d =>
     obtain⟨a1,a2,a3,rfl⟩:=YN h1
     obtain⟨b1,b2,b3,rfl⟩:=YN h2
     dsimp only
     have l1:=Qv a3
     have l2:=Qv b3
     by_cases z:wS dd=0
     ·rw[z,ql,if_pos rfl]; rfl
     ·rw[if_neg z]
      have:(zu (wS dd)).length≠0:=λh=>z (qZ.1 (List.eq_nil_of_length_eq_zero h))
      have ho:=Z5 neg (zu (wS num)) (zu (wS dd)) (zn _) (zn _) (by omega) (by omega)
      rw[zW,zW]at ho
      rw[z8 (by simp; exact λh=>z (qZ.1 h)),z6 ho,z7]
  by_cases c2:(47:UInt8)∈t
  ·obtain⟨w,q,rfl,hw⟩:=UZ c2
   rw[pX 47 w q hw]
   have hl:w.length+q.length+1<=400:=by simp at ht; omega
   rw[fin w q true (by omega) (by omega)]
   rw[show(bif (!true)then([49]:ze)else q)=q from rfl]
   by_cases d1:qS w=true
   ·rw[dR d1 47 q h47]
    by_cases d2:w=[]
    ·rw[if_pos d2,mT (.inl d2)]
    ·rw[if_neg d2,Qx d2 (by omega) d1]
     by_cases d3:q=[]\/qS q=false
     ·rw[if_pos d3,mT d3]
     ·have d4:q≠[]:=λz=>d3 (.inl z)
      have d5:qS q=true:=by cases h:qS q with | true=>rfl | false=>exact absurd (.inr h) d3
      rw[if_neg d3,if_neg (by decide),if_pos rfl,Qx d4 (by omega) d5]
      dsimp only
      split<;>rfl
   ·have d1:qS w=false:=by simpa using d1
    obtain⟨u,c,v,rfl,g1,g2⟩:=mR d1
    rw[mT (.inr d1)]
    have z8r:c≠47:=λz=>hw (by simp[z])
    have z2P:c≠46:=λz=>c1 (by simp[z])
    rw[List.append_assoc,List.cons_append,Ca g1 c _ g2 z2P z8r]
  ·rw[dQ 47 t c2]
   rw[fin t [] false ht (by simp)]
   rw[show(bif (!false)then([49]:ze)else[])=[49]from rfl]
   have h1:me [49]=some 1:=by decide
   rw[h1]
   by_cases d1:qS t=true
   ·rw[Vw d1]
    by_cases d2:t=[]
    ·rw[if_pos d2,mT (.inl d2)]
    ·rw[if_neg d2,Qx d2 ht d1]; rfl
   ·have d1:qS t=false:=by simpa using d1
    rw[mT (.inr d1)]
    obtain⟨u,c,v,rfl,g1,g2⟩:=mR d1
    have z8r:c≠47:=λz=>c2 (by simp[z])
    have z2P:c≠46:=λz=>c1 (by simp[z])
    rw[Ca g1 c _ g2 z2P z8r]
theorem bT(s:ze)(hs:s.length<=1000000000):(wu s).run=some (if 400<s.length then(zQ,(3:Int))else match pn s with | some (n,d)=>(wM (List.isPrefixOf [45] s) n d,(0:Int)) | none=>(zQ,(2:Int))):=by
 unfold wu
 by_cases c:400<s.length
 ·rw[za (decide_eq_true (by omega)),if_pos c,z7]; rfl
 ·have hp:(strings_CutPrefix s [45]).run=some (cW s [45],List.isPrefixOf [45] s):=rfl
  have hl:=XV s [45]
  rw[z8 (decide_eq_false (by omega)),if_neg c,z6 hp]
  exact EX _ (by omega) _
end Go.AM.Lf
namespace Go.AM.PL
theorem z8E(t:ze):∃ u r,t=u++r/\qS u=true/\(∀ c q,r=c::q->uO c=false):=by
 induction t with
 | nil=>exact⟨[],[],rfl,rfl,λc q h=>by cases h⟩
 | cons b t ih =>
  cases hb:uO b with
  | false=>exact⟨[],b::t,rfl,rfl,λc q h=>by cases h; exact hb⟩
  | true =>
   obtain⟨u,r,rfl,h1,h2⟩:=ih
   exact⟨b::u,r,rfl,by rw[u7,hb,h1]; rfl,h2⟩
end Go.AM.PL

namespace Go.AM.PL
theorem z1I(n:Nat):uO (NS n)=true/\(NS n).toNat-48=n % 10:=by
 have h:(NS n).toNat=48+n % 10:=by unfold NS; rw[UInt8.toNat_ofNat']; omega
 exact⟨fQ.2 (by omega),by omega⟩
theorem z0h(n:Nat):qS (DK n)=true/\wS (DK n)=n:=by
 induction n using Nat.strongRecOn with
 | _ n ih =>
  by_cases h:n=0
  ·subst h; rw[cf]; exact⟨rfl,rfl⟩
  ·obtain⟨h1,h2⟩:=ih (n / 10) (by omega)
   obtain⟨h3,h4⟩:=z1I n
   rw[cX h]
   refine⟨by rw[cp,h1,u7,h3]; rfl,?_⟩
   rw[YV,h2,h4]; omega
theorem iH(n:Nat):qS (pr n)=true/\wS (pr n)=n:=by
 unfold pr
 split
 ·rename_i h; subst h; exact⟨by decide,by decide⟩
 ·exact z0h n
theorem z8N{n:Nat}(h:n≠0):DK n≠[]:=by rw[cX h]; simp
theorem ML(n:Nat):pr n≠[]:=by
 unfold pr
 split
 ·simp
 ·rename_i h; exact z8N h
theorem Ts(n k:Nat)(hk:1<=k)(h:n<10 ^ k):(pr n).length<=k:=by
 unfold pr
 split
 ·simpa using hk
 ·exact z4I n k h
theorem Rp(k:Nat):qS (jS [48] k)=true/\wS (jS [48] k)=0:=by
 induction k with
 | zero=>exact⟨rfl,rfl⟩
 | succ k ih =>
  show qS ([48]++jS [48] k)=true/\wS ([48]++jS [48] k)=0
  rw[cp,ZL,ih.1,ih.2]
  exact⟨by decide,by show 0*_+0=0; omega⟩
theorem UW{t:ze}(h:qS t=true)(hn:t≠[])(r:ze):List.isPrefixOf [45] (t++r)=false:=by
 cases t with
 | nil=>exact absurd rfl hn
 | cons b t =>
  rw[u7,Bool.and_eq_true]at h
  have hb:=fQ.1 h.1
  have:(45:UInt8)≠b:=λz=>by subst z; have e:(45:UInt8).toNat=45:=rfl; omega
  show((45:UInt8)==b&&true)=false
  rw[Bool.and_true]; exact beq_eq_false_iff_ne.2 this
end Go.AM.PL
namespace Go.AM.Lf
open PL
theorem z1G(b:Bool)(t:ze)(h:List.isPrefixOf [45] t=false):List.isPrefixOf [45] (QS b++t)=b/\cW (QS b++t) [45]=t:=by
 unfold cW QS
 cases b with
 | false=>rw[if_neg (by simp),List.nil_append]; exact⟨h,by rw[if_neg (by rw[h]; simp)]⟩
 | true =>
  have e:List.isPrefixOf [45] ([45]++t)=true:=by simp[List.isPrefixOf]
  rw[if_pos rfl,e]
  exact⟨rfl,by rw[if_pos rfl]; simp⟩
theorem JB(b:Bool)(t:ze)(n d:Nat)(h:List.isPrefixOf [45] t=false)(hl:t.length<=399)(hd:WK t=some (n,d)):(wu (QS b++t)).run=some (wM b n d,0):=by
 obtain⟨h1,h2⟩:=z1G b t h
 have hs:=nn b
 have hlen:(QS b++t).length<=400:=by rw[List.length_append]; omega
 rw[bT _ (by omega),if_neg (by omega)]
 unfold pn
 rw[h1,h2,hd]
theorem XP(b:Bool)(n:Nat)(hl:(pr n).length<=399):(wu (QS b++pr n)).run=some (wM b n 1,0):=by
 obtain⟨h1,h2⟩:=iH n
 have h3:=ML n
 have:=UW h1 h3 []
 rw[List.append_nil]at this
 exact JB b (pr n) n 1 this hl (by rw[Vw h1,if_neg h3,h2])
theorem FA(b:Bool)(n d:Nat)(hd:d≠0)(hl:(pr n).length+(pr d).length<=398):(wu (QS b++(pr n++47::pr d))).run=some (wM b n d,0):=by
 obtain⟨h1,h2⟩:=iH n
 obtain⟨k1,k2⟩:=iH d
 have h3:=ML n
 have k3:=ML d
 refine JB b _ n d (UW h1 h3 _) (by simp; omega) ?_
 rw[dR h1 47 _ (by decide),if_neg h3,if_neg (by simp[k3,k1]),if_neg (by decide),if_pos rfl,k2,if_neg hd,h2]
theorem sk(s:ze)(k:Nat)(hk:k≠0)(hs:qS s=true):∃ w p,UB s k=w++46::p/\qS w=true/\w≠[]/\qS p=true/\p.length=k/\wS w*10 ^ k+wS p=wS s/\w.length+k=max s.length (k+1):=by
 unfold UB
 rw[if_neg hk]
 have hr:=Rp (k+1-s.length)
 have hl:=Zs (k+1-s.length)
 have hd:qS (jS [48] (k+1-s.length)++s)=true:=by rw[cp,hr.1,hs]; rfl
 have hv:wS (jS [48] (k+1-s.length)++s)=wS s:=by rw[ZL,hr.2]; omega
 have hlen:(jS [48] (k+1-s.length)++s).length=(k+1-s.length)+s.length:=by rw[List.length_append,hl]
 generalize jS [48] (k+1-s.length)++s=t at *
 refine⟨t.take (t.length-k),t.drop (t.length-k),by simp,?_,?_,?_,by simp; omega,?_,by simp; omega⟩
 ·exact List.all_eq_true.2 λx hx=>List.all_eq_true.1 hd x (List.mem_of_mem_take hx)
 ·intro z
  have:=congrArg List.length z
  simp at this; omega
 ·exact List.all_eq_true.2 λx hx=>List.all_eq_true.1 hd x (List.mem_of_mem_drop hx)
 ·have:=ZL (t.take (t.length-k)) (t.drop (t.length-k))
  rw[List.take_append_drop,hv,List.length_drop,show t.length-(t.length-k)=k by omega]at this
  exact this.symm
theorem Ow(b:Bool)(n k:Nat)(hl:(pr n).length+k<=397):(wu (QS b++UB (pr n) k)).run=some (wM b n (10 ^ k),0):=by
 obtain⟨h1,h2⟩:=iH n
 by_cases hk:k=0
 ·subst hk
  have:UB (pr n) 0=pr n:=by unfold UB; rw[if_pos rfl]
  rw[this]
  exact XP b n (by omega)
 ·obtain⟨w,p,e,a1,a2,a3,a4,a5,a6⟩:=sk (pr n) k hk h1
  rw[e]
  have hp:p≠[]:=λz=>hk (by rw[<- a4,z]; rfl)
  refine JB b _ n (10 ^ k) (UW a1 a2 _) (by simp; omega) ?_
  rw[dR a1 46 _ (by decide),if_neg a2,if_neg (by simp[hp,a3]),if_pos rfl,a4,a5,h2]
theorem VT(n k:Nat)(h:(zu n).length<=k):n<10 ^ (10*k):=by
 refine Nat.lt_of_lt_of_le (zR.1 h) ?_
 rw[Nat.pow_mul]
 exact Nat.pow_le_pow_left (by decide) k
theorem Vn(n k:Nat)(hk:1<=k)(h:(zu n).length<=k):(pr n).length<=10*k:=Ts n (10*k) (by omega) (VT n k h)
theorem YW(a:Rat):wM (norm a).1 (nv (norm a).2.1) (nv (norm a).2.2.1)=norm a:=NR a
theorem CJ(a:Rat)(h:wh 1000 a)(hl:(pr (nv (norm a).2.1)).length+(pr (nv (norm a).2.2.1)).length<=398):(wu (vg (norm a))).run=some (norm a,0):=by
 have hd:=eI a.1 (nv a.2.1) (nv a.2.2.1)
 have hs:=YW a
 change nv (norm a).2.2.1≠0 at hd
 generalize norm a=v at *
 unfold vg
 by_cases c:nv v.2.2.1=1
 ·rw[if_pos c,XP _ _ (by omega)]
  rw[c]at hs
  rw[hs]
 ·rw[if_neg c,List.append_assoc]
  show(wu (QS v.1++(pr (nv v.2.1)++(47::pr (nv v.2.2.1))))).run=_
  rw[FA _ _ _ hd hl,hs]
theorem NU(b:Bool)(n d m e:Nat)(hd:d≠0)(he:e≠0)(h:n*e=m*d):wM b n d=wM b m e:=by
 rw[D1,D1]
 congr 1
 rw[z0p,z0p,Rat.mkRat_eq_iff hd he]
 unfold sgn
 cases b with
 | false=>simp only[Bool.false_eq_true,if_false]; exact_mod_cast h
 | true=>simp only[if_true]; rw[Int.neg_mul,Int.neg_mul]; congr 1; exact_mod_cast h
theorem lY(b:Bool)(N D:Nat)(hD:D≠0):∀ (f k:Nat) (s:ze),qs b N D k f=(s,true)->∃ j,k<=j/\j<k+f/\N*10 ^ j % D=0/\s=QS b++UB (pr (N*10 ^ j / D)) j
 | 0,k,s,h=>by unfold qs at h; cases h
 | f+1,k,s,h=>by
  unfold qs at h
  split at h
  ·rename_i c; cases h; exact⟨k,Nat.le_refl _,by omega,c,rfl⟩
  ·obtain⟨j,h1,h2,h3,h4⟩:=lY b N D hD f (k+1) s h
   exact⟨j,by omega,by omega,h3,h4⟩
theorem Bj(v:Rat)(hv:wM v.1 (nv v.2.1) (nv v.2.2.1)=v)(hd:nv v.2.2.1≠0)(hl:(zu (nv v.2.1)).length<=16)(s:ze)(h:qs v.1 (nv v.2.1) (nv v.2.2.1) 0 61=(s,true)):(wu s).run=some (v,0):=by
 obtain⟨j,_,h2,h3,rfl⟩:=lY _ _ _ hd _ _ _ h
 have hN:=VT _ _ hl
 have hq:nv v.2.1*10 ^ j / nv v.2.2.1<10 ^ (160+j):=by
  refine Nat.lt_of_le_of_lt (Nat.div_le_self _ _) ?_
  rw[Nat.pow_add]
  exact Nat.mul_lt_mul_of_pos_right hN (Nat.pow_pos (by omega))
 have hp:=Ts _ (160+j) (by omega) hq
 rw[Ow _ _ j (by omega)]
 have:wM v.1 (nv v.2.1*10 ^ j / nv v.2.2.1) (10 ^ j)=wM v.1 (nv v.2.1) (nv v.2.2.1):=by
  refine NU _ _ _ _ _ (Nat.pos_iff_ne_zero.1 (Nat.pow_pos (by omega))) hd ?_
  rw[Nat.div_mul_cancel (Nat.dvd_of_mod_eq_zero h3)]
 rw[this,hv]
theorem z4M{t:ze}{n d:Nat}(h:WK t=some (n,d)):n<10 ^ t.length/\d<=10 ^ t.length:=by
 obtain⟨u,r,rfl,h1,h2⟩:=z8E t
 have hu:=H2 h1
 cases r with
 | nil =>
  rw[List.append_nil,Vw h1]at h
  split at h
  ·cases h
  ·cases h
   rw[List.append_nil]
   exact⟨hu,Nat.one_le_pow _ _ (by omega)⟩
 | cons c q =>
  rw[dR h1 c q (h2 c q rfl)]at h
  have hl:(u++c::q).length=u.length+q.length+1:=by simp; omega
  have mono:∀ {a b:Nat},a<=b->10 ^ a<=10 ^ b:=λh=>Nat.pow_le_pow_right (by omega) h
  split at h
  ·cases h
  ·split at h
   ·cases h
   ·rename_i hq
    have hd:qS q=true:=by cases hh:qS q with | true=>rfl | false=>exact absurd (.inr hh) hq
    have hq1:=H2 hd
    rw[hl]
    split at h
    ·cases h
     refine⟨?_,mono (by omega)⟩
     have e:10 ^ (u.length+q.length)<=10 ^ (u.length+q.length+1):=mono (by omega)
     rw[Nat.pow_add]at e
     have:(wS u+1)*10 ^ q.length<=10 ^ u.length*10 ^ q.length:=Nat.mul_le_mul_right _ hu
     rw[Nat.add_mul,Nat.one_mul]at this
     omega
    ·split at h
     ·split at h
      ·cases h
      ·cases h
       have e1:10 ^ u.length<=10 ^ (u.length+q.length+1):=mono (by omega)
       have e2:10 ^ q.length<=10 ^ (u.length+q.length+1):=mono (by omega)
       omega
     ·cases h
theorem zak:10 ^ 400<4294967296 ^ 42:=by decide +kernel
theorem Tq{n k:Nat}(h:n<=10 ^ k)(hk:k<=400):(zu n).length<=42 :=
 zR.2 (Nat.lt_of_le_of_lt (Nat.le_trans h (Nat.pow_le_pow_right (by omega) hk)) zak)
theorem Xz{s:ze}{n d:Nat}(neg:Bool)(hs:s.length<=400)(h:pn s=some (n,d)):wh 50 (wM neg n d):=by
 have hl:=XV s [45]
 obtain⟨h1,h2⟩:=z4M h
 exact IT _ _ _ _ (by omega) (Nat.le_trans (Tq (by omega) (by omega:(cW s [45]).length<=400)) (by omega)) (Nat.le_trans (Tq h2 (by omega)) (by omega))
def Z9{α:Type}(p:α->Bool)(i:Int):List α->Int
 | [] => -1
 | x::r=>if p x=true then i else Z9 p (i+1) r
end Go.AM.Lf
namespace Go.AM.T
theorem zi{α β:Type}(a:β)(t:T α):(zL (a=a) t).run=t.run:=zb rfl t
end Go.AM.T
namespace Go.AM.Lf
open PL
abbrev zfg:Ty:=.cons .str (.cons ve .nil)
abbrev ItT:=den zfg
theorem kO{α:Type}{l:List α}{k:Nat}(h:k<l.length)(d:α):nth l (k:Int) d=l[k]:=by simp[nth,h]
theorem Wn(s:ze):(bytesOf s).length=s.length:=by unfold bytesOf; simp
theorem CL(s t:ze):bytesOf (s++t)=bytesOf s++bytesOf t:=by unfold bytesOf; simp
theorem C8(s:ze):qG (bytesOf s)=s:=by
 unfold qG bytesOf
 rw[List.map_map]
 conv=>rhs; rw[<- List.map_id s]
 refine List.map_congr_left λb _ => ?_
 simp[byteOf]
theorem K9(s:ze):∀ n∈bytesOf s,(0:Int)<=n/\n<256:=by
 intro n hn
 unfold bytesOf at hn
 obtain⟨b,_,rfl⟩:=List.mem_map.1 hn
 have:=b.toNat_lt
 omega
theorem vZ(s b:ze)(h:b.length+s.length<=140737488355328):(q9 s () (bytesOf b)).run=some ((s.length:Int),(),bytesOf (b++s)):=by
 unfold q9 iI
 simp only[T.bind]
 rw[zJ _ rfl rfl rfl,zb rfl,mK _ rfl rfl rfl (by simp only[Wn]; omega),zJ _ (by simp) rfl (by simp),zb (by simp),z7,CL]
theorem Kl(b:ze)(h:b.length<=140737488355328):(nu () (bytesOf b)).run=some (b,()):=by
 unfold nu z3r
 rw[zb ⟨K9 b,by rw[Wn]; exact h⟩,z7,C8]
def z9y(x:ItT):ze:=x.1++[32]++vg (norm x.2.1)++[10]
def XG(b:UInt8):Bool:=decide (97<=(b.toNat:Int))&&decide ((b.toNat:Int)<=122)
def wW(b:UInt8):Bool:=XG b||((decide (48<=(b.toNat:Int))&&decide ((b.toNat:Int)<=57))||((b.toNat:Int)==95))
def zG(s:ze):Bool:=match s with | []=>false | b::_=>decide (s.length<=24)&&(XG b&&s.all wW)
theorem oH(b:UInt8):(vf (b.toNat:Int)).run=some (wW b):=by
 have h1:(wG (b.toNat:Int)).run=some (XG b):=rfl
 have h2:(xI (b.toNat:Int)).run=some (decide (48<=(b.toNat:Int))&&decide ((b.toNat:Int)<=57)):=rfl
 unfold vf wW
 rw[z6 h1]
 cases XG b with
 | true=>rw[zj,z7]; rfl
 | false =>
  rw[zg,z6 h2]
  cases(decide (48<=(b.toNat:Int))&&decide ((b.toNat:Int)<=57))with
  | true=>rw[zj,z7]; rfl
  | false=>rw[zg,z7]; rfl
theorem xG(s:ze):(xi s).run=some (zG s):=by
 unfold xi
 cases s with
 | nil=>rfl
 | cons b r =>
  have e0:zh (b::r) []=false:=by rw[xP]; simp
  rw[e0]
  by_cases c:24<(b::r).length
  ·have:(T.ite false (.ret true) (.ite (decide ((24:Int)<((b::r).length:Int))) (.ret true) (.zL (qw (0:Int) (List.length (b::r)))<|T.bind (wG (qo (b::r) (0:Int))) λr=>.ret (!r))):T Bool).run=some true:=by
    rw[zg,za (decide_eq_true (by omega)),z7]
   rw[z6 this,zj,z7]
   unfold zG
   rw[decide_eq_false (by omega)]; rfl
  ·have hb:qo (b::r) (0:Int)=(b.toNat:Int):=yA (s:=b::r) (k:=0) (by simp)
   have h1:(wG (b.toNat:Int)).run=some (XG b):=rfl
   have:(T.ite false (.ret true) (.ite (decide ((24:Int)<((b::r).length:Int))) (.ret true) (.zL (qw (0:Int) (List.length (b::r)))<|T.bind (wG (qo (b::r) (0:Int))) λr=>.ret (!r))):T Bool).run=some (!XG b):=by
    rw[zg,z8 (decide_eq_false (by omega)),zb (by refine⟨by omega,?_⟩; simp only[List.length_cons]; omega),hb,z6 h1,z7]
   rw[z6 this]
   unfold zG
   dsimp only
   rw[decide_eq_true (by omega),Bool.true_and]
   cases XG b with
   | false=>rw[za (by rfl),z7]; rfl
   | true =>
    rw[z8 (by rfl),Bool.true_and]
    have key:(ZE (b::r) ((b::r).length:Int) 0).run=some (if(b::r).all wW=true then .inl ()else .inr false):=by
     refine T.rO (r:=kv (b::r) ((b::r).length:Int)) (b::r) (0:UInt8) (λ(_:Unit) i=>i) (λ_ _=>True) (λl _=>(if l.all wW=true then .inl ()else .inr false:Unit⊕Bool)) (λk _ x xs hk hx hm hd hI => ?_) (λ_ _ => ?_) (b:=()) trivial
     ·have hxk:(b::r)[k]=x:=by rw[<- hx]; unfold nth; rw[Int.toNat_natCast,List.getD_eq_getElem?_getD,List.getElem?_eq_getElem hk]; rfl
      have DQ:qo (b::r) (k:Int)=(x.toNat:Int):=by rw[yA hk,hxk]
      cases XS:wW x with
      | true =>
       left
       refine⟨(),?_,trivial,?_⟩
       ·unfold kv
        rw[za (uN hk),zb (qf hk),DQ,z6 (oH x),XS,z8 (by rfl),z7,iU k _ hk (by omega)]
       ·rw[List.all_cons,XS,Bool.true_and]
      | false =>
       right
       unfold kv
       rw[za (uN hk),zb (qf hk),DQ,z6 (oH x),XS,za (by rfl),z7,List.all_cons,XS]
       rfl
     ·unfold kv
      rw[z8 (kl _),z7]; rfl
    rw[z6 key]
    cases h:(b::r).all wW with
    | true=>rfl
    | false=>rfl
theorem sM(l:List ze)(v:ze)(hl:l.length<=1000000000):(qQ l v).run=some (PL.Z9 (λs=>zh v s) 0 l):=by
 have key:(kI l v (l.length:Int) 0).run=some (if PL.Z9 (λs=>zh v s) 0 l = -1 then .inl ()else .inr (PL.Z9 (λs=>zh v s) 0 l)):=by
  refine PL.Q0 (r:=qN l v (l.length:Int)) l (zk .str) _ (λi h0 h hp => ?_) (λi h0 h hp => ?_) (λi h => ?_)
  ·unfold qN
   rw[za (decide_eq_true h),zb ⟨h0,h⟩,za hp,z7]
  ·unfold qN
   rw[za (decide_eq_true h),zb ⟨h0,h⟩,z8 hp,z7,zA (by omega) (by omega)]
  ·unfold qN
   rw[z8 (decide_eq_false h),z7]
 unfold qQ
 rw[z6 key]
 split<;>rename_i h
 ·rw[h]; rfl
 ·rfl
theorem lj{α:Type}(f:α->Nat)(l:List α):∀ x∈l,f x<=dr f l:=by
 induction l with
 | nil=>intro x hx; cases hx
 | cons y l ih =>
  intro x hx
  show _<=f y+dr f l
  rcases List.mem_cons.1 hx with rfl | hx
  ·omega
  ·have:=ih x hx; omega
theorem ma{α:Type}(f:α->Nat)(l:List α)(h:∀ x,1<=f x):l.length<=dr f l:=by
 induction l with
 | nil=>simp
 | cons y l ih =>
  show _<=f y+dr f l
  have:=h y
  simp; omega
mutual
/-- What an expression weighs. -/
def szE:Expr->Nat
 | .mk _ n s l=>3+s.length+8*n.2.1.length+8*n.2.2.1.length+szEs l
def szEs:List Expr->Nat
 | []=>0
 | e::r=>szE e+szEs r
end
mutual
theorem Ja:∀ (e:Expr) (left:Int),0<=wtE e left->wtE e left=left-szE e
 | .mk _ n s l,left,h=>by
  have:=L3 l (left-3-s.length-8*n.2.1.length-8*n.2.2.1.length)
  simp only[wtE,szE]at h ⊢
  rw[this h]; omega
theorem L3:∀ (l:List Expr) (left:Int),0<=wtEs l left->wtEs l left=left-szEs l
 | [],left,h=>by simp[wtEs,szEs]
 | e::r,left,h=>by
  have h1:=Ja e left
  have h2:=L3 r (wtE e left)
  have h3:=(HH r (wtE e left)).1
  by_cases c:0<=left
  ·simp only[wtEs,szEs,if_pos c]at h ⊢
   rw[h2 h,h1 (by omega)]; omega
  ·simp only[wtEs,if_neg c]at h; omega
end
structure FB(f:Form):Prop where
 l1:f.1.length<=1048576
 l2:f.2.1.length<=1048576
 l3:f.2.2.1.length<=1048576
 l4:f.2.2.2.1.length<=1048576
 l5:f.2.2.2.2.1.length<=1048576
 l6:f.2.2.2.2.2.1.length<=1048576
 s:∀ x∈f.1,x.1.length<=1048576
 p:∀ x∈f.2.1,x.1.length<=1048576/\x.2.1.2.1.length<=1048576/\x.2.1.2.2.1.length<=1048576/\zm x.2.1.2.1/\zm x.2.1.2.2.1
 g:∀ x∈f.2.2.1,x.1.length<=1048576/\x.2.1.length<=1048576
 d:∀ x∈f.2.2.2.1,x.1.length<=1048576
 r:∀ x∈f.2.2.2.2.1,x.1.length<=1048576/\x.2.2.1.length<=1048576/\bkE x.2.2.2.1<=1048576/\bkE x.2.2.2.2.1<=1048576
 c:∀ x∈f.2.2.2.2.2.1,x.1.length<=1048576/\bkE x.2.2.2.1<=1048576/\bkE x.2.2.2.2.1<=1048576
theorem z5O{f:Form}(hw:wf qc f)(hb:bk qc f<=1048576):FB f:=by
 have e1:bk qc f=(dr (bk zx) f.1+1)+((dr (bk zM) f.2.1+1)+((dr (bk zV) f.2.2.1+1)+((dr (bk zN) f.2.2.2.1+1)+((dr (bk q8) f.2.2.2.2.1+1)+((dr (bk zU) f.2.2.2.2.2.1+1)+1))))):=rfl
 have b1:∀ x,bk zx x=(x.1.length+1)+(1+1):=λ_=>rfl
 have b2:∀ x,bk zM x=(x.1.length+1)+((1+((dr (bk u32) x.2.1.2.1+1)+((dr (bk u32) x.2.1.2.2.1+1)+1)))+1):=λ_=>rfl
 have b3:∀ x,bk zV x=(x.1.length+1)+((x.2.1.length+1)+1):=λ_=>rfl
 have b4:∀ x,bk zN x=(x.1.length+1)+(1+(1+(1+1))):=λ_=>rfl
 have b5:∀ x,bk q8 x=(x.1.length+1)+(1+((x.2.2.1.length+1)+(bkE x.2.2.2.1+(bkE x.2.2.2.2.1+1)))):=λ_=>rfl
 have b6:∀ x,bk zU x=(x.1.length+1)+(1+(1+(bkE x.2.2.2.1+(bkE x.2.2.2.2.1+1)))):=λ_=>rfl
 have u1:∀ l:List Int,dr (bk u32) l=l.length:=λl=>BU l
 have k1:=ma (bk zx) f.1 (λx=>by rw[b1]; omega)
 have k2:=ma (bk zM) f.2.1 (λx=>by rw[b2]; omega)
 have k3:=ma (bk zV) f.2.2.1 (λx=>by rw[b3]; omega)
 have k4:=ma (bk zN) f.2.2.2.1 (λx=>by rw[b4]; omega)
 have k5:=ma (bk q8) f.2.2.2.2.1 (λx=>by rw[b5]; omega)
 have k6:=ma (bk zU) f.2.2.2.2.2.1 (λx=>by rw[b6]; omega)
 rw[e1]at hb
 refine⟨by omega,by omega,by omega,by omega,by omega,by omega,λx hx => ?_,λx hx => ?_,λx hx => ?_,λx hx => ?_,λx hx => ?_,λx hx => ?_⟩
 ·have:=lj (bk zx) f.1 x hx; rw[b1]at this; omega
 ·have:=lj (bk zM) f.2.1 x hx
  rw[b2,u1,u1]at this
  have hwx:wf zM x:=hw.2.1 x hx
  obtain⟨r1,r2⟩:=z0I hwx.2.1
  exact⟨by omega,by omega,by omega,r1,r2⟩
 ·have:=lj (bk zV) f.2.2.1 x hx; rw[b3]at this; exact⟨by omega,by omega⟩
 ·have:=lj (bk zN) f.2.2.2.1 x hx; rw[b4]at this; omega
 ·have:=lj (bk q8) f.2.2.2.2.1 x hx; rw[b5]at this; exact⟨by omega,by omega,by omega,by omega⟩
 ·have:=lj (bk zU) f.2.2.2.2.2.1 x hx; rw[b6]at this; exact⟨by omega,by omega,by omega⟩
def trimB(l:List Int):Bool:=zu (nv l)==l
def ep(a:Rat):Bool:=trimB a.2.1&&(trimB a.2.2.1&&(!(nv a.2.2.1==0)&&(!(a.1&&(nv a.2.1==0))&&(Nat.gcd (nv a.2.1) (nv a.2.2.1)==1))))
theorem j7{l:List Int}(h:zm l):trimB l=true↔Wi l:=by
 unfold trimB
 constructor
 ·intro e
  have e:zu (nv l)=l:=by simpa using e
  rw[<- e]; exact rZ _
 ·intro ht
  rw[tr h ht]; simp
theorem UK(l:List Int)(h:zm l)(hl:l.length<=1000000000):(ft l).run=some (trimB l):=by
 unfold ft
 cases l with
 | nil =>
  rw[zb (λh=>by simp at h),z7]
  have e:trimB []=true:=by unfold trimB; rw[show nv []=0 from rfl,ql]; rfl
  rw[e]; rfl
 | cons x r =>
  obtain⟨n,hn⟩:∃ n,(x::r).length=n+1:=⟨r.length,rfl⟩
  have ew:zF (((x::r).length:Int)-1)=(n:Int):=by rw[hn,zA (by omega) (by omega)]; omega
  have FP:n<(x::r).length:=by omega
  have e0:(((x::r).length:Int)==0)=false:=by rw[hn]; simp; omega
  have hg:(x::r).getLast? = some ((x::r)[n]):=by
   rw[List.getLast?_eq_getElem?,hn,Nat.add_sub_cancel,List.getElem?_eq_getElem FP]
  rw[zb (λ_=>by rw[ew]; exact qf FP),z7,ew,kO FP,e0,Bool.false_or]
  congr 1
  cases hq:((x::r)[n] != 0)with
  | true =>
   symm
   rw[j7 h]
   intro y hy
   rw[hg]at hy
   cases hy
   simpa using hq
  | false =>
   symm
   rw[Bool.eq_false_iff]
   intro ht
   have:=(j7 h).1 ht _ hg
   simp at hq
   exact this hq
theorem tO(a:Rat)(h:wh 100000000 a):(tQ a).run=some (ep a):=by
 obtain⟨h1,h2,h3,h4⟩:=h
 unfold tQ ep
 have n1:=UK a.2.1 h1 (by omega)
 have n2:=UK a.2.2.1 h2 (by omega)
 have hzD:trimB a.2.2.1=true->(((a.2.2.1.length:Int))==0)=(nv a.2.2.1==0):=λht=>by
  have e:zu (nv a.2.2.1)=a.2.2.1:=tr h2 ((j7 h2).1 ht)
  conv=>lhs; rw[<- e]
  rw[lA]
  cases q:decide (nv a.2.2.1=0)<;>simp_all
 have hzN:trimB a.2.1=true->(((a.2.1.length:Int))==0)=(nv a.2.1==0):=λht=>by
  have e:zu (nv a.2.1)=a.2.1:=tr h1 ((j7 h1).1 ht)
  conv=>lhs; rw[<- e]
  rw[lA]
  cases q:decide (nv a.2.1=0)<;>simp_all
 have hg:=XD a.2.1 a.2.2.1 h1 h2 (by omega) (by omega)
 have WD:(yC 1).run=some (zu 1):=yz 1 (by omega)
 have hc:∀ g:Nat,(zu g).length<=100000001->(mz (zu g) (zu 1)).run=some (so g 1):=λg hl=>by
  have:=pz (zu g) (zu 1) (zn _) (zn _) (by omega) (by rw[fI]; simp)
  rwa [zW,zW]at this
 have head:∀ b:Bool,((T.bind (ft a.2.1) λr=>.ite (!r) (.ret true) (T.bind (ft a.2.2.1) λr1=>.ite (!r1) (.ret true) (.ite ((a.2.2.1.length:Int)==(0:Int)) (.ret true) (.ite a.1 (.ret ((a.2.1.length:Int)==(0:Int))) (.ret false))))):T Bool).run =
   some (!(trimB a.2.1&&(trimB a.2.2.1&&(!(nv a.2.2.1==0) && !(a.1&&(nv a.2.1==0)))))):=λ_=>by
  rw[z6 n1]
  cases t1:trimB a.2.1 with
  | false=>rfl
  | true =>
   rw[z8 (by rfl),z6 n2]
   cases t2:trimB a.2.2.1 with
   | false=>rfl
   | true =>
    rw[z8 (by rfl),hzD t2]
    cases nv a.2.2.1==0 with
    | true=>rfl
    | false =>
     rw[zg,hzN t1]
     cases a.1 with
     | true=>rw[zj,z7]; cases nv a.2.1==0<;>rfl
     | false=>rfl
 rw[z6 (head true)]
 cases hb:(trimB a.2.1&&(trimB a.2.2.1&&(!(nv a.2.2.1==0) && !(a.1&&(nv a.2.1==0)))))with
 | false =>
  rw[za (by rfl),z7]
  congr 1
  generalize (Nat.gcd (nv a.2.1) (nv a.2.2.1)==1)=g
  revert hb
  cases trimB a.2.1<;>cases trimB a.2.2.1<;>cases(nv a.2.2.1==0)<;>cases a.1<;>cases(nv a.2.1==0)<;>simp
 | true =>
  rw[z8 (by rfl),z6 hg,z6 WD]
  have hle:(zu (Nat.gcd (nv a.2.1) (nv a.2.2.1))).length<=100000001:=by
   simp only[Bool.and_eq_true,Bool.not_eq_true',beq_eq_false_iff_ne]at hb
   have hd:0<nv a.2.2.1:=Nat.pos_of_ne_zero hb.2.2.1
   have m1:=Uv (Nat.gcd_le_right (nv a.2.1) hd)
   have m2:=zw h2
   omega
  rw[z6 (hc _ hle),z7]
  congr 1
  have hgc:(so (Nat.gcd (nv a.2.1) (nv a.2.2.1)) 1==0)=(Nat.gcd (nv a.2.1) (nv a.2.2.1)==1):=by
   generalize Nat.gcd (nv a.2.1) (nv a.2.2.1)=g
   unfold so
   by_cases q1:g<1
   ·rw[if_pos q1]; simp; omega
   ·by_cases q2:1<g
    ·rw[if_neg q1,if_pos q2]; simp; omega
    ·have:g=1:=by omega
     subst this; rfl
  rw[hgc]
  revert hb
  generalize (Nat.gcd (nv a.2.1) (nv a.2.2.1)==1)=g
  cases trimB a.2.1<;>cases trimB a.2.2.1<;>cases(nv a.2.2.1==0)<;>cases a.1<;>cases(nv a.2.1==0)<;>simp
def um(a:Rat):Bool:=decide (16<(norm a).2.1.length)||decide (16<(norm a).2.2.1.length)
theorem sS(a:Rat)(h:wh 100000000 a):(dL a).run=some (um a):=by
 unfold dL um
 rw[z6 (Vz a h),z7]
 congr 2
 ·exact decide_eq_decide.2 (by omega)
 ·exact decide_eq_decide.2 (by omega)
def wY(a:Rat):Bool:=ep a&&(!a.1&&(!um a&&(qs (norm a).1 (nv (norm a).2.1) (nv (norm a).2.2.1) 0 61).2))
def xD(a:Rat):Bool := !a.1&&(a.2.1.isEmpty&&(a.2.2.1.isEmpty||ep a))
def dW(k:Int):Int:=if k=1\/k=2 then 0 else if k=7 then 1 else if k=3\/k=4\/k=5\/k=6 then 2 else -1
def vR(e:Expr):Bool:=((e.kids.length:Int)==dW e.kind)&&(if e.kind=1 then wY e.num&&zh e.name []else if e.kind=2 then xD e.num&&zG e.name else xD e.num&&zh e.name [])
mutual
def xk:Expr->Nat
 | .mk _ _ _ l=>1+wz l
def wz:List Expr->Nat
 | []=>0
 | e::r=>xk e+wz r
end
mutual
def xB(deep:Nat):Expr->Bool
 | .mk k n s l=>decide (deep<32)&&(vR (.mk k n s l)&&ub (deep+1) l)
def ub(deep:Nat):List Expr->Bool
 | []=>true
 | e::r=>xB deep e&&ub deep r
end
theorem oN:∀ (l:List Expr),l.length<=wz l
 | []=>Nat.le_refl _
 | .mk _ _ _ k::r=>by
  have:=oN r
  unfold wz xk
  simp only[List.length_cons]; omega
theorem lQ{e:Expr}:∀ {l:List Expr},e∈l->xk e<=wz l
 | [],h=>by cases h
 | x::r,h=>by
  unfold wz
  rcases List.mem_cons.1 h with rfl | h
  ·omega
  ·have:=lQ h; omega
mutual
/-- How many nodes are looked at. -/
def KG(deep:Nat):Expr->Nat
 | .mk k n s l=>1+if(decide (deep<32)&&vR (.mk k n s l))=true then lD (deep+1) l else 0
def lD(deep:Nat):List Expr->Nat
 | []=>0
 | e::r=>KG deep e+if xB deep e=true then lD deep r else 0
end
mutual
theorem MY:∀ (e:Expr) (deep:Nat),KG deep e<=xk e
 | .mk k n s l,deep=>by
  have:=VP l (deep+1)
  unfold KG xk
  split<;>omega
theorem VP:∀ (l:List Expr) (deep:Nat),lD deep l<=wz l
 | [],_=>Nat.le_refl _
 | e::r,deep=>by
  have h1:=MY e deep
  have h2:=VP r deep
  unfold lD wz
  split<;>omega
end
mutual
theorem TZ:∀ (e:Expr),3*xk e<=szE e
 | .mk k n s l=>by
  have:=MH l
  unfold xk szE
  omega
theorem MH:∀ (l:List Expr),3*wz l<=szEs l
 | []=>Nat.le_refl _
 | e::r=>by
  have h1:=TZ e
  have h2:=MH r
  unfold wz szEs
  omega
end
def uK(a:Rat):Prop:=wh 100 a
mutual
def allOk:Expr->Prop
 | .mk _ n _ l=>uK n/\allOks l
def allOks:List Expr->Prop
 | []=>True
 | e::r=>allOk e/\allOks r
end
theorem eH{l:List Expr}(h:allOks l):∀ e∈l,allOk e:=by
 induction l with
 | nil=>intro e he; cases he
 | cons x r ih =>
  intro e he
  rcases List.mem_cons.1 he with rfl | he
  ·exact h.1
  ·exact ih h.2 e he
mutual
theorem pj:∀ (e:Expr),wfE e->szE e<=800->allOk e
 | .mk k n s l,hw,hs=>by
  unfold szE at hs
  have hw':wf Qj (Expr.mk k n s l).OJ:=(M7 _).2 hw
  obtain⟨_,hn,_,hl,_⟩:=hw'
  obtain⟨r1,r2⟩:=z0I hn
  have r1:zm n.2.1:=r1
  have r2:zm n.2.2.1:=r2
  refine⟨⟨r1,r2,by omega,by omega⟩,KQ l (λe he=>hl e he) (by omega)⟩
theorem KQ:∀ (l:List Expr),(∀ e∈l,wfE e)->szEs l<=800->allOks l
 | [],_,_=>trivial
 | e::r,hw,hs=>by
  unfold szEs at hs
  exact⟨pj e (hw e List.mem_cons_self) (by omega),KQ r (λx hx=>hw x (List.mem_cons_of_mem _ hx)) (by omega)⟩
end
theorem Ee(a:Rat)(h:uK a):(c6 a).run=some (xD a):=by
 unfold c6 xD
 have hr:=tO a (ez h (by omega))
 have e:∀ l:List Int,(((l.length:Int))==0)=l.isEmpty:=λl=>by cases l<;>simp; omega
 rw[e,e]
 cases a.1 with
 | true=>rfl
 | false =>
  rw[za (by rfl)]
  cases a.2.1.isEmpty with
  | false=>rfl
  | true =>
   rw[zj]
   cases a.2.2.1.isEmpty with
   | true=>rfl
   | false=>rw[zg,z6 hr,z7]; rfl
theorem Np(a:Rat)(h:uK a):(mZ a).run=some (wY a):=by
 unfold mZ wY
 have hr:=tO a (ez h (by omega))
 have hl:=sS a (ez h (by omega))
 have he:=sA a (ez h (by omega))
 have head:((T.bind (tQ a) λr=>.ite (!r) (.ret true) (.ite a.1 (.ret true) (T.bind (dL a) λr1=>.ret r1))):T Bool).run=some (!(ep a&&(!a.1 && !um a))):=by
  rw[z6 hr]
  cases ep a with
  | false=>rfl
  | true =>
   rw[z8 (by rfl)]
   cases a.1 with
   | true=>rfl
   | false=>rw[zg,z6 hl,z7]; simp
 rw[z6 head]
 cases q:(ep a&&(!a.1 && !um a))with
 | false =>
  rw[za (by rfl),z7]
  congr 1
  revert q
  cases ep a<;>cases a.1<;>cases um a<;>simp
 | true =>
  rw[z8 (by rfl),z6 he]
  generalize qs (norm a).1 (nv (norm a).2.1) (nv (norm a).2.2.1) 0 61=x
  obtain⟨x1,x2⟩:=x
  dsimp only
  rw[z7]
  congr 1
  revert q
  cases ep a<;>cases a.1<;>cases um a<;>simp
theorem z0B(k:Int):(rT k).run=some (dW k):=by
 unfold rT dW
 by_cases h1:k=1
 ·subst h1; rfl
 by_cases h2:k=2
 ·subst h2; rfl
 by_cases h7:k=7
 ·subst h7; rfl
 by_cases h3:k=3
 ·subst h3; rfl
 by_cases h4:k=4
 ·subst h4; rfl
 by_cases h5:k=5
 ·subst h5; rfl
 by_cases h6:k=6
 ·subst h6; rfl
 ·simp[h1,h2,h3,h4,h5,h6,h7]
theorem Jx(e:Expr)(h:uK e.num):(yP e).run=some (vR e):=by
 unfold yP vR
 rw[z6 (z0B _)]
 have hN:=Np e.num h
 have h0:=Ee e.num h
 have hn:=xG e.name
 cases q:((e.kids.length:Int)==dW e.kind)with
 | false=>rw[za (by rw[bne,q]; rfl),z7]; rfl
 | true =>
  rw[z8 (by rw[bne,q]; rfl),Bool.true_and]
  by_cases h1:e.kind=1
  ·rw[if_pos h1,za (by rw[h1]; rfl),z6 hN]
   cases wY e.num with
   | true=>rw[zj,z7]; rfl
   | false=>rw[zg,z7]; rfl
  ·rw[if_neg h1,z8 (by simpa using h1)]
   by_cases h2:e.kind=2
   ·rw[if_pos h2,za (by rw[h2]; rfl),z6 h0]
    cases xD e.num with
    | true=>rw[zj,z6 hn,z7]; rfl
    | false=>rw[zg,z7]; rfl
   ·rw[if_neg h2,z8 (by simpa using h2),z6 h0]
    cases xD e.num with
    | true=>rw[zj,z7]; rfl
    | false=>rw[zg,z7]; rfl
theorem z2W(e:Expr)(deep left:Nat)(h:allOk e)(hl:xk e<=left)(fy:left<=100000)(hd:deep<=32):(jy e (deep:Int) (left:Int)).run=some (xB deep e,((left-KG deep e:Nat):Int)):=by
 unfold jy
 refine fJ (λx:Expr×Int×Int=>allOk x.1/\0<=x.2.1/\x.2.1<=32/\(xk x.1:Int)<=x.2.2/\x.2.2<=100000) (λx=>xk x.1) (λx=>(xB x.2.1.toNat x.1,((x.2.2.toNat-KG x.2.1.toNat x.1:Nat):Int))) (λx hx g hg => ?_) (x:=(e,(deep:Int),(left:Int))) ⟨h,by dsimp only; omega,by dsimp only; omega,by dsimp only; omega,by dsimp only; omega⟩
 obtain⟨e,d,lf⟩:=x
 obtain⟨ha,NX,Fb,hn,hlf⟩:=hx
 dsimp only at ha NX Fb hn hlf
 obtain⟨D,rfl⟩:∃ D:Nat,d=(D:Int):=⟨d.toNat,by omega⟩
 obtain⟨L,rfl⟩:∃ L:Nat,lf=(L:Int):=⟨lf.toNat,by omega⟩
 cases e with | mk k n s kids =>
 obtain⟨Ww,Dx⟩:=ha
 have Du:xk (.mk k n s kids)=1+wz kids:=by unfold xk; rfl
 rw[Du]at hn
 have hv:=VP kids (D+1)
 have ew:zF ((L:Int)-1)=((L-1:Nat):Int):=by rw[zA (by omega) (by omega)]; omega
 have Pn:=Jx (.mk k n s kids) Ww
 simp only[Int.toNat_natCast]
 unfold gJ
 rw[ew]
 have head:((.ite (decide (((L-1:Nat):Int)<(0:Int))) (.ret (true,((L-1:Nat):Int))) (.ite (decide ((32:Int)<=(D:Int))) (.ret (true,((L-1:Nat):Int))) (T.bind (yP (.mk k n s kids)) λr=>.ret ((!r),((L-1:Nat):Int))))):T (Bool×Int)).run =
   some (!(decide (D<32)&&vR (.mk k n s kids)),((L-1:Nat):Int)):=by
  rw[z8 (decide_eq_false (by omega))]
  by_cases c:D<32
  ·rw[z8 (decide_eq_false (by omega)),z6 Pn,z7,decide_eq_true c,Bool.true_and]
  ·rw[za (decide_eq_true (by omega)),z7,decide_eq_false c]; rfl
 rw[z6 head]
 dsimp only
 unfold xB KG
 cases q:(decide (D<32)&&vR (.mk k n s kids))with
 | false =>
  rw[za (by rfl),z7,if_neg (by simp),<- Bool.and_assoc,q,Bool.false_and]
 | true =>
  rw[z8 (by rfl),if_pos rfl,<- Bool.and_assoc,q,Bool.true_and]
  have hD:D<32:=by
   simp only[Bool.and_eq_true,decide_eq_true_eq]at q
   exact q.1
  have ed:zF ((D:Int)+1)=((D+1:Nat):Int):=by rw[zA (by omega) (by omega)]; omega
  have loop:∃ z,(zP (λy0 y1 y2=>g (y0,y1,y2)) kids (kids.length:Int) (((D:Int),()),((0:Int),((L-1:Nat):Int)))).run=some z /\
    ((ub (D+1) kids=true/\z=.inl ((L-1-lD (D+1) kids:Nat):Int))\/(ub (D+1) kids=false/\∃ i:Int,0<=i/\z=.inr (i,((L-1-lD (D+1) kids:Nat):Int)))):=by
   refine T.qI (r:=zB (λy0 y1 y2=>g (y0,y1,y2)) kids (kids.length:Int)) (λst:(Int×Unit)×Int×Int=>∃ (j B:Nat),st=(((D:Int),()),(j:Int),(B:Int))/\j<=kids.length/\B<=100000/\wz (kids.drop j)<=B /\
    B-lD (D+1) (kids.drop j)=L-1-lD (D+1) kids/\ub (D+1) (kids.drop j)=ub (D+1) kids) (λst=>kids.length-st.2.1.toNat) _ (λst xK => ?_) ⟨0,L-1,rfl,by omega,by omega,by rw[List.drop_zero]; omega,by rw[List.drop_zero],by rw[List.drop_zero]⟩
   obtain⟨j,B,rfl,hj,hB,hnB,hvB,Ha⟩:=xK
   by_cases c:j<kids.length
   ·have hdr:kids.drop j=kids[j]::kids.drop (j+1):=List.drop_eq_getElem_cons c
    rw[hdr]at hnB hvB Ha
    rw[show wz (kids[j]::kids.drop (j+1))=xk kids[j]+wz (kids.drop (j+1))from rfl]at hnB
    rw[show lD (D+1) (kids[j]::kids.drop (j+1))=KG (D+1) kids[j]+if xB (D+1) kids[j]=true then lD (D+1) (kids.drop (j+1))else 0 from rfl]at hvB
    rw[show ub (D+1) (kids[j]::kids.drop (j+1))=(xB (D+1) kids[j]&&ub (D+1) (kids.drop (j+1)))from rfl]at Ha
    have Q9:=eH Dx _ (List.getElem_mem c)
    have O8:=MY kids[j] (D+1)
    have FN:xk kids[j]<1+wz kids:=by have:=lQ (List.getElem_mem c); omega
    have WB:=hg (kids[j],((D+1:Nat):Int),(B:Int)) ⟨Q9,by dsimp only; omega,by dsimp only; omega,by dsimp only; omega,by dsimp only; omega⟩ (by dsimp only; rw[Du]; exact FN)
    dsimp only at WB
    simp only[Int.toNat_natCast]at WB
    have hf:(j6 (λy0 y1 y2=>g (y0,y1,y2)) kids[j] (D:Int) (B:Int)).run=some (!xB (D+1) kids[j],((B-KG (D+1) kids[j]:Nat):Int)):=by
     unfold j6
     rw[ed,z6 WB]; rfl
    unfold zB
    dsimp only
    rw[za (uN c),zb (qf c),kO c,z6 hf]
    dsimp only
    cases hk:xB (D+1) kids[j]with
    | true =>
     left
     rw[hk,if_pos rfl]at hvB
     rw[hk,Bool.true_and]at Ha
     rw[z8 (by rfl),z7]
     have hlen:=oN kids
     rw[iU j _ c (by omega)]
     refine⟨_,rfl,⟨j+1,B-KG (D+1) kids[j],rfl,c,by omega,by omega,by omega,Ha⟩,?_⟩
     simp only[Int.toNat_natCast]
     omega
    | false =>
     right
     rw[hk,if_neg (by simp),Nat.add_zero]at hvB
     rw[hk,Bool.false_and]at Ha
     rw[za (by rfl),z7]
     exact⟨_,rfl,.inr ⟨Ha.symm,(j:Int),by omega,by rw[hvB]⟩⟩
   ·right
    have hj2:j=kids.length:=by omega
    subst hj2
    rw[List.drop_length]at hvB Ha
    unfold zB
    dsimp only
    rw[z8 (kl _),z7]
    exact⟨_,rfl,.inl ⟨Ha.symm,by rw[<- hvB]; rfl⟩⟩
  obtain⟨z,hz,hc⟩:=loop
  have hcf:(q7 (λy0 y1 y2=>g (y0,y1,y2)) kids ((D:Int),()) ((L-1:Nat):Int)).run=some (!ub (D+1) kids,((L-1-lD (D+1) kids:Nat):Int)):=by
   unfold q7 qD
   rcases hc with⟨ho,rfl⟩ | ⟨ho,i,hi,rfl⟩
   ·have:((T.bind (zP (λy0 y1 y2=>g (y0,y1,y2)) kids (kids.length:Int) (((D:Int),()),((0:Int),((L-1:Nat):Int))))<|Sum.elim (λv2=>.ret ((-1:Int),v2)) (λ(x2,v3)=>.ret (x2,v3))):T (Int×Int)).run=some (-1,((L-1-lD (D+1) kids:Nat):Int)):=by
     rw[z6 hz]; rfl
    rw[z6 this,ho]; rfl
   ·have:((T.bind (zP (λy0 y1 y2=>g (y0,y1,y2)) kids (kids.length:Int) (((D:Int),()),((0:Int),((L-1:Nat):Int))))<|Sum.elim (λv2=>.ret ((-1:Int),v2)) (λ(x2,v3)=>.ret (x2,v3))):T (Int×Int)).run=some (i,((L-1-lD (D+1) kids:Nat):Int)):=by
     rw[z6 hz]; rfl
    rw[z6 this,ho,z7,decide_eq_true hi]; rfl
  rw[show Expr.kids (.mk k n s kids)=kids from rfl,z6 hcf]
  dsimp only
  rw[z7,Bool.not_not]
  congr 3
  omega
theorem z8X(e:Expr)(h:allOk e)(hn:xk e<=256):(uA e).run=some (xB 0 e):=by
 unfold uA
 have:=z2W e 0 256 h hn (by omega) (by omega)
 have this:(jy e 0 256).run=some (xB 0 e,((256-KG 0 e:Nat):Int)):=this
 rw[z6 this]; rfl
def dd(acc:List ze)(xs:List ze):List ze:=xs.foldl (λb x=>if x∈b then b else b++[x]) acc
end Go.AM.Lf
namespace Go.AM.PL
def X0:ze->List ze×ze
 | []=>([],[])
 | b::r=>if b=10 then([]::(X0 r).1,(X0 r).2)else match(X0 r).1 with
  | []=>([],b::(X0 r).2)
  | l::ls=>((b::l)::ls,(X0 r).2)
end Go.AM.PL
namespace Go.AM.Lf
open PL
def TM(u:ze):Option Rat:=if 400<u.length then none else(pn u).map λp=>wM (List.isPrefixOf [45] u) p.1 p.2
theorem z4l{u:ze}{r:Rat}(h:TM u=some r):wh 50 r:=by
 unfold TM at h
 split at h
 ·cases h
 ·rename_i c
  obtain⟨p,hp,rfl⟩:=Option.map_eq_some_iff.1 h
  exact Xz _ (by omega) hp
def zdV(t:ze):Option ItT:=match TM (wT t [32]).2.1 with
 | some r=>if zG (wT t [32]).1=true then some ((wT t [32]).1,r,())else none
 | none=>none
def z0q:List ze->Option (List ItT)
 | []=>some []
 | t::r=>match zdV t with
  | some x=>(z0q r).map (x :: ·)
  | none=>none
theorem nt{s:ze}(h:zG s=true):s.length<=24/\s.all wW=true:=by
 cases s with
 | nil=>cases h
 | cons b r =>
  unfold zG at h
  simp only[Bool.and_eq_true,decide_eq_true_eq]at h
  exact⟨h.1,h.2.2⟩
theorem vq(s:ze):(u6 s).run=some (zG s):=by
 have hL:∀ b:UInt8,(jK (b.toNat:Int)).run=some (XG b):=λ_=>rfl
 have hD:∀ b:UInt8,(mJ (b.toNat:Int)).run=some (decide (48<=(b.toNat:Int))&&decide ((b.toNat:Int)<=57)):=λ_=>rfl
 unfold u6
 cases s with
 | nil=>rfl
 | cons b r =>
  by_cases c:24<(b::r).length
  ·have:(T.ite (decide (((b::r).length:Int)<(1:Int))) (.ret true) (.ite (decide ((24:Int)<((b::r).length:Int))) (.ret true) (.zL (qw (0:Int) (List.length (b::r)))<|T.bind (jK (qo (b::r) (0:Int))) λr=>.ret (!r))):T Bool).run=some true:=by
    rw[z8 (decide_eq_false (by omega)),za (decide_eq_true (by omega)),z7]
   rw[z6 this,zj,z7]
   unfold zG
   rw[decide_eq_false (by omega)]; rfl
  ·have hb:qo (b::r) (0:Int)=(b.toNat:Int):=yA (s:=b::r) (k:=0) (by simp)
   have:(T.ite (decide (((b::r).length:Int)<(1:Int))) (.ret true) (.ite (decide ((24:Int)<((b::r).length:Int))) (.ret true) (.zL (qw (0:Int) (List.length (b::r)))<|T.bind (jK (qo (b::r) (0:Int))) λr=>.ret (!r))):T Bool).run=some (!XG b):=by
    rw[z8 (decide_eq_false (by simp only[List.length_cons]; omega)),z8 (decide_eq_false (by omega)),zb (by refine⟨by omega,?_⟩; simp only[List.length_cons]; omega),hb,z6 (hL b),z7]
   rw[z6 this]
   unfold zG
   dsimp only
   rw[decide_eq_true (by omega),Bool.true_and]
   cases hbl:XG b with
   | false=>rw[za (by rfl),z7]; rfl
   | true =>
    rw[z8 (by rfl),Bool.true_and]
    have hbi:wW b=true:=by unfold wW; rw[hbl]; rfl
    have key:(Qo (b::r) 1).run=some (if r.all wW=true then .inl ()else .inr false):=by
     have Rq:=vI (r:=kf (b::r)) (λi=>∃ k:Nat,i=((k+1:Nat):Int)/\k<=r.length) (λi=>((b::r).length:Int).toNat-i.toNat) (λi=>if(r.drop (i.toNat-1)).all wW=true then .inl ()else .inr false) (λi hi => ?_) (s:=1) ⟨0,rfl,by omega⟩
     ·exact Rq
     ·obtain⟨k,rfl,hk⟩:=hi
      have ek:((k+1:Nat):Int).toNat-1=k:=by omega
      by_cases q:k<r.length
      ·have hq:k+1<(b::r).length:=by simp only[List.length_cons]; omega
       have DQ:qo (b::r) ((k+1:Nat):Int)=(r[k].toNat:Int):=by rw[yA hq]; rfl
       have z5q:r.drop k=r[k]::r.drop (k+1):=List.drop_eq_getElem_cons q
       have XS:((.zL (qw ((k+1:Nat):Int) (List.length (b::r)))<|T.bind (jK (qo (b::r) ((k+1:Nat):Int))) λr1 =>
         .ite (!r1) (.zL (qw ((k+1:Nat):Int) (List.length (b::r)))<|T.bind (mJ (qo (b::r) ((k+1:Nat):Int))) λr2 =>
           .ite (!r2) (.zL (qw ((k+1:Nat):Int) (List.length (b::r)))<|.ret ((qo (b::r) ((k+1:Nat):Int)) != (95:Int))) (.ret false)) (.ret false)):T Bool).run=some (!wW r[k]):=by
        rw[zb (qf hq),DQ,z6 (hL _)]
        unfold wW
        cases XG r[k]with
        | true=>rfl
        | false =>
         rw[za (by rfl),zb (qf hq),z6 (hD _)]
         cases(decide (48<=(r[k].toNat:Int))&&decide ((r[k].toNat:Int)<=57))with
         | true=>rfl
         | false=>rw[za (by rfl),zb (qf hq),z7]; rfl
       cases hik:wW r[k]with
       | true =>
        left
        refine⟨((k+1+1:Nat):Int),?_,⟨k+1,rfl,q⟩,by simp only[List.length_cons]; omega,?_⟩
        ·unfold kf
         rw[za (uN hq),z6 XS,hik,z8 (by rfl),z7,iU (k+1) _ hq (by omega)]
        ·rw[ek,z5q,List.all_cons,hik,Bool.true_and,show((k+1+1:Nat):Int).toNat-1=k+1 by omega]
       | false =>
        right
        unfold kf
        rw[za (uN hq),z6 XS,hik,za (by rfl),z7,ek,z5q,List.all_cons,hik]
        rfl
      ·right
       have cC:k=r.length:=by omega
       unfold kf
       rw[z8 (decide_eq_false (by simp only[List.length_cons]; omega)),z7,ek,cC,List.drop_length]; rfl
    rw[z6 key,List.all_cons,hbi,Bool.true_and]
    cases h:r.all wW with
    | true=>rfl
    | false=>rfl
theorem N3(s:ze)(c:UInt8):(wT s [c]).1.length<=s.length/\(wT s [c]).2.1.length<=s.length:=by
 by_cases h:c∈s
 ·obtain⟨w,q,rfl,hw⟩:=UZ h
  rw[pX c w q hw]
  simp only[List.length_append,List.length_cons]
  exact⟨by omega,by omega⟩
 ·rw[dQ c s h]; simp
def zhM(l:List ItT):ze:=l.flatMap z9y
def VK(s:ze):List ItT×Int:=match z0q (X0 s).1 with
 | some ys=>if zhM ys=s then(ys,0)else([],2)
 | none=>([],2)
theorem zfS(a b:Rat):((a.1==b.1)&&((a.2.1==b.2.1)&&(a.2.2.1==b.2.2.1)))=true↔a=b:=by
 obtain⟨a1,a2,a3,⟨⟩⟩:=a
 obtain⟨b1,b2,b3,⟨⟩⟩:=b
 simp only[Bool.and_eq_true,beq_iff_eq,Prod.mk.injEq,and_true]
theorem Jk(a:Rat)(h1:zm a.2.1)(h2:zm a.2.2.1):ep a=true↔norm a=a:=by
 unfold ep norm
 obtain⟨b,N,D,⟨⟩⟩:=a
 dsimp only at h1 h2 ⊢
 simp only[Bool.and_eq_true,Bool.not_eq_true',beq_eq_false_iff_ne,beq_iff_eq,Bool.and_eq_false_imp]
 constructor
 ·rintro⟨t1,t2,hd,hn,hg⟩
  have eN:zu (nv N)=N:=tr h1 ((j7 h1).1 t1)
  have eD:zu (nv D)=D:=tr h2 ((j7 h2).1 t2)
  unfold wM
  by_cases c:nv N=0
  ·rw[if_pos (.inl c)]
   rw[c,Nat.gcd_zero_left]at hg
   rw[c,ql]at eN
   rw[hg,fI]at eD
   cases b with
   | true=>exact absurd c (hn rfl)
   | false=>rw[<- eN,<- eD]
  ·rw[if_neg (by rintro(h | h); exact c h; exact hd h),hg,Nat.div_one,Nat.div_one,eN,eD]
 ·intro e
  unfold wM at e
  by_cases c:nv N=0\/nv D=0
  ·rw[if_pos c]at e
   simp only[Prod.mk.injEq,and_true]at e
   obtain⟨rfl,rfl,rfl⟩:=e
   refine⟨by rw[j7 h1]; exact Xv,?_,by decide,by simp,by decide⟩
   rw[j7 h2,<- fI]; exact rZ _
  ·rw[if_neg c]at e
   simp only[Prod.mk.injEq,and_true,true_and]at e
   obtain⟨e1,e2⟩:=e
   simp only[not_or]at c
   have v1:nv N=nv N / Nat.gcd (nv N) (nv D):=by conv=>lhs; rw[<- e1,zW]
   refine⟨by rw[j7 h1,<- e1]; exact rZ _,by rw[j7 h2,<- e2]; exact rZ _,c.2,λ_=>c.1,?_⟩
   have hp:0<nv N:=Nat.pos_of_ne_zero c.1
   by_cases g:Nat.gcd (nv N) (nv D)=1
   ·exact g
   ·have hg0:0<Nat.gcd (nv N) (nv D):=Nat.gcd_pos_of_pos_left _ hp
    have:=Nat.div_lt_self hp (by omega:1<Nat.gcd (nv N) (nv D))
    omega
theorem mw(a b:List Int)(la:a.length<=1000000000):(yp a b).run=some (a==b):=by
 unfold yp
 by_cases hlen:a.length=b.length
 ·have key:(iK a b 0).run=some (if a=b then .inl ()else .inr false):=by
   have h:=vI (r:=j9 a b) (λi=>∃ k:Nat,i=(k:Int)/\k<=a.length) (λi=>a.length-i.toNat) (λi=>if a.drop i.toNat=b.drop i.toNat then .inl ()else .inr false) (λi hi => ?_) (s:=0) ⟨0,rfl,by omega⟩
   ·unfold iK; simpa using h
   ·obtain⟨k,rfl,hk⟩:=hi
    by_cases c:k<a.length
    ·have cb:k<b.length:=by omega
     have ea:a.drop k=a[k]::a.drop (k+1):=List.drop_eq_getElem_cons c
     have eb:b.drop k=b[k]::b.drop (k+1):=List.drop_eq_getElem_cons cb
     have ek:((k:Nat):Int).toNat=k:=rfl
     have zcz:(a.drop k=b.drop k)↔(a[k]=b[k]/\a.drop (k+1)=b.drop (k+1)):=by rw[ea,eb,List.cons.injEq]
     have ek1:((k+1:Nat):Int).toNat=k+1:=rfl
     by_cases q:a[k]=b[k]
     ·left
      refine⟨((k+1:Nat):Int),?_,⟨k+1,rfl,c⟩,by omega,?_⟩
      ·unfold j9
       rw[za (uN c),zb (qf c),zb (qf cb),kO c,kO cb,z8 (by simp[q]),z7,iU k _ c (by omega)]
      ·simp only[ek,ek1,zcz,q,true_and]
     ·right
      unfold j9
      rw[za (uN c),zb (qf c),zb (qf cb),kO c,kO cb,za (by simp[q]),z7,ek,if_neg (by rw[zcz]; exact λh=>q h.1)]
    ·right
     have cC:k=a.length:=by omega
     unfold j9
     rw[z8 (decide_eq_false (by omega)),z7,cC]
     simp[hlen]
  rw[z8 (by rw[hlen]; simp),z6 key]
  by_cases e:a=b
  ·rw[if_pos e,e]; simp
  ·rw[if_neg e]
   have:(a==b)=false:=by simpa using e
   rw[this]; rfl
 ·have e:(a==b)=false:=by
   rw[beq_eq_false_iff_ne]
   intro e; exact hlen (by rw[e])
  rw[za (by simp; omega),z7,e]
theorem Wh(a:Rat)(h:wh 100000000 a):(Zj a).run=some (ep a):=by
 unfold Zj
 have hb:ep a=((a.1==(norm a).1)&&((a.2.1==(norm a).2.1)&&(a.2.2.1==(norm a).2.2.1))):=by
  rw[Bool.eq_iff_iff,Jk a h.1 h.2.1,zfS]
  exact⟨λe=>e.symm,λe=>e.symm⟩
 rw[z6 (dE a h),hb]
 cases a.1==(norm a).1 with
 | false=>rfl
 | true =>
  rw[zj,z6 (mw _ _ (by have:=h.2.2.1; omega))]
  cases a.2.1==(norm a).2.1 with
  | false=>rfl
  | true=>rw[zj,z6 (mw _ _ (by have:=h.2.2.2; omega)),z7]; rfl
theorem Jd(a:Rat)(h:wh 100000000 a):(mQ a).run=some (um a):=by
 unfold mQ um
 rw[z6 (dE a h),z7]
 congr 2
 ·exact decide_eq_decide.2 (by omega)
 ·exact decide_eq_decide.2 (by omega)
theorem sQ(a:Rat)(h:wh 100000000 a):(dG a).run=some (ep a && !um a):=by
 unfold dG
 rw[z6 (Wh a h)]
 cases ep a with
 | false=>rfl
 | true=>rw[zj,z6 (Jd a h),z7]; rfl
theorem Na(a:Rat)(h:uK a):(jN a).run=some (xD a):=by
 unfold jN xD
 have hr:=Wh a (ez h (by omega))
 have e:∀ l:List Int,(((l.length:Int))==0)=l.isEmpty:=λl=>by cases l<;>simp; omega
 rw[e,e]
 cases a.1 with
 | true=>rfl
 | false =>
  rw[za (by rfl)]
  cases a.2.1.isEmpty with
  | false=>rfl
  | true =>
   rw[zj]
   cases a.2.2.1.isEmpty with
   | true=>rfl
   | false=>rw[zg,z6 hr,z7]; rfl
theorem TA(g:Expr×Int->T Bool)(kids:List Expr)(k0:Int)(n0:Rat)(s0:ze)(D:Nat)(hl:kids.length<=100000)
  (hg:∀ e∈kids,(g (e,zF (((D+1:Nat):Int)+1))).run=some (xB (D+1) e)) :
  (rh (λy0 y1=>g (y0,y1)) ((D+1:Nat):Int) (.mk k0 n0 s0 kids) (kids.length:Int) 0).run=some (if ub (D+1) kids=true then .inl ()else .inr false):=by
 refine T.rO (r:=cu (λy0 y1=>g (y0,y1)) ((D+1:Nat):Int) (.mk k0 n0 s0 kids) (kids.length:Int)) kids (zk .expr) (λ(_:Unit) i=>i) (λ_ _=>True) (λl _=>(if ub (D+1) l=true then .inl ()else .inr false:Unit⊕Bool)) (λk _ x xs hk hx hm hd hI => ?_) (λ_ _ => ?_) (b:=()) trivial
 ·have HR:=hg x hm
  have ek:Expr.kids (.mk k0 n0 s0 kids)=kids:=rfl
  unfold cu
  rw[za (uN hk),ek,zb (qf hk),hx,z6 HR]
  cases q:xB (D+1) x with
  | true =>
   left
   refine⟨(),?_,trivial,?_⟩
   ·rw[z8 (by rfl),z7,iU k _ hk (by omega)]
   ·show _=(if(xB (D+1) x&&ub (D+1) xs)=true then _ else _)
    rw[q,Bool.true_and]
  | false =>
   right
   rw[za (by rfl),z7]
   show _=some (Sum.inr (if(xB (D+1) x&&ub (D+1) xs)=true then _ else _))
   rw[q,Bool.false_and]; rfl
 ·unfold cu
  rw[z8 (kl _),z7]; rfl
theorem z4a(e:Expr)(deep:Nat)(h:allOk e)(hn:xk e<=100000)(hd:deep<=32):(oU e ((deep+1:Nat):Int)).run=some (xB deep e):=by
 unfold oU
 refine fJ (λx:Expr×Int=>allOk x.1/\xk x.1<=100000/\1<=x.2/\x.2<=33) (λx=>xk x.1) (λx=>xB (x.2.toNat-1) x.1) (λx hx g hg => ?_) (x:=(e,((deep+1:Nat):Int))) ⟨h,hn,by dsimp only; omega,by dsimp only; omega⟩
 obtain⟨e,d⟩:=x
 obtain⟨ha,hn,NX,Fb⟩:=hx
 dsimp only at ha hn NX Fb
 obtain⟨D,rfl⟩:∃ D:Nat,d=((D+1:Nat):Int):=⟨d.toNat-1,by omega⟩
 cases e with | mk k n s kids =>
 obtain⟨Ww,Dx⟩:=ha
 have Du:xk (.mk k n s kids)=1+wz kids:=rfl
 have hlen:=oN kids
 have M1:(((D+1:Nat):Int)).toNat-1=D:=by omega
 dsimp only
 rw[M1]
 unfold mE
 show _=some (decide (D<32)&&(vR (.mk k n s kids)&&ub (D+1) kids))
 by_cases c:D<32
 ·rw[z8 (decide_eq_false (by omega)),decide_eq_true c,Bool.true_and]
  have hN:=pK n (ez Ww (by omega))
  have hG:=sQ n (ez Ww (by omega))
  have hB:=Na n Ww
  have hNm:=vq s
  have e0:∀ m:Nat,(((m:Int))==0)=(((m:Int))==(0:Int)):=λ_=>rfl
  have WB:∀ e∈kids,(g (e,zF (((D+1:Nat):Int)+1))).run=some (xB (D+1) e):=λe he=>by
   have hm:=lQ he
   have ew:zF (((D+1:Nat):Int)+1)=((D+1+1:Nat):Int):=by rw[zA (by omega) (by omega)]; omega
   have:=hg (e,((D+1+1:Nat):Int)) ⟨eH Dx e he,by dsimp only; omega,by dsimp only; omega,by dsimp only; omega⟩ (by dsimp only; rw[Du]; omega)
   rw[ew,this]
   dsimp only
   rw[show(((D+1+1:Nat):Int)).toNat-1=D+1 by omega]
  have Rq:=TA g kids k n s D (by omega) WB
  have z9J:Expr.kids (.mk k n s kids)=kids:=rfl
  have zcI:Expr.kind (.mk k n s kids)=k:=rfl
  have zcJ:Expr.name (.mk k n s kids)=s:=rfl
  have zaA:Expr.num (.mk k n s kids)=n:=rfl
  have tail:∀ kd:Int,(T.bind (.ite ((Nat.cast (List.length kids):Int) != kd) (.ret true) (.ite (!(zh s ([]:ze))) (.ret true) (T.bind (jN n) λr4=>.ret (!r4))):T Bool) λx1 =>
     .ite x1 (.ret false) (T.bind (rh (λy0 y1=>g (y0,y1)) ((D+1:Nat):Int) (.mk k n s kids) kd (0:Int))<|Sum.elim (λ_=>.ret true) (λx2=>.ret x2)):T Bool).run =
     some (((kids.length:Int)==kd)&&((xD n&&zh s [])&&ub (D+1) kids)):=by
   intro kd
   have head:(.ite ((Nat.cast (List.length kids):Int) != kd) (.ret true) (.ite (!(zh s ([]:ze))) (.ret true) (T.bind (jN n) λr4=>.ret (!r4))):T Bool).run=some (!(((kids.length:Int)==kd)&&(xD n&&zh s []))):=by
    cases q:((kids.length:Int)==kd)with
    | false=>rw[za (by rw[bne,q]; rfl)]; rfl
    | true =>
     rw[z8 (by rw[bne,q]; rfl)]
     cases zh s []with
     | false=>rw[za (by rfl),z7,Bool.and_false]; rfl
     | true=>rw[z8 (by rfl),z6 hB,z7,Bool.and_true,Bool.true_and]
   rw[z6 head]
   cases q:((kids.length:Int)==kd)with
   | false=>rfl
   | true =>
    have hkd:kd=(kids.length:Int):=by
     have:(kids.length:Int)=kd:=by simpa using q
     exact this.symm
    subst hkd
    rw[Bool.true_and,Bool.true_and]
    cases(xD n&&zh s [])with
    | false=>rfl
    | true =>
     rw[z8 (by rfl),z6 Rq,Bool.true_and]
     cases ub (D+1) kids<;>rfl
  unfold vR dW
  rw[z9J,zcI,zcJ,zaA]
  by_cases h1:k=1
  ·subst h1
   have head:(T.bind (bq n) λ(r,ok)=>.ite ((Nat.cast (List.length kids):Int)==(0:Int)) (.ite (zh s ([]:ze)) (T.bind (dG n) λr1=>.ite r1 (.ite (!n.1) (.ret (.inr ok)) (.ret (.inr false))) (.ret (.inr false))) (.ret (.inr false))) (.ret (.inr false)):T (Int⊕Bool)).run=some (.inr (((kids.length:Int)==0)&&(wY n&&zh s []))):=by
    rw[z6 hN]
    unfold wY
    generalize qs (norm n).1 (nv (norm n).2.1) (nv (norm n).2.2.1) 0 61=x
    obtain⟨x1,x2⟩:=x
    dsimp only
    cases(Nat.cast (List.length kids):Int)==(0:Int)with
    | false=>rfl
    | true =>
     rw[zj]
     cases zh s []with
     | false=>rw[zg,z7,Bool.and_false]; rfl
     | true =>
      rw[zj,z6 hG]
      cases ep n<;>cases um n<;>cases n.1<;>cases x2<;>rfl
   refine(z6 (a:=.inr (((kids.length:Int)==0)&&(wY n&&zh s []))) ?_ _).trans ?_
   ·rw[za (by rfl)]; exact head
   ·rw[Sum.elim_inr,z7,if_pos (.inl rfl),if_pos rfl]
    cases q:((kids.length:Int)==0)with
    | false=>rfl
    | true =>
     have:kids=[]:=List.eq_nil_of_length_eq_zero (by have:(kids.length:Int)=0:=(by simpa using q); omega)
     subst this
     show _=some (true&&(wY n&&zh s [])&&true)
     rw[Bool.and_true]
  ·by_cases h2:k=2
   ·subst h2
    have head:(.ite ((Nat.cast (List.length kids):Int)==(0:Int)) (T.bind (u6 s) λr2=>.ite r2 (T.bind (jN n) λr3=>.ret (.inr r3)) (.ret (.inr false))) (.ret (.inr false)):T (Int⊕Bool)).run=some (.inr (((kids.length:Int)==0)&&(xD n&&zG s))):=by
     cases(Nat.cast (List.length kids):Int)==(0:Int)with
     | false=>rfl
     | true =>
      rw[zj,z6 hNm]
      cases zG s with
      | false=>rw[zg,z7,Bool.and_false]; rfl
      | true=>rw[zj,z6 hB,z7,Bool.and_true,Bool.true_and]
    refine(z6 (a:=.inr (((kids.length:Int)==0)&&(xD n&&zG s))) ?_ _).trans ?_
    ·rw[z8 (by rfl),za (by rfl)]; exact head
    ·rw[Sum.elim_inr,z7,if_pos (.inr rfl),if_neg (by decide),if_pos rfl]
     cases q:((kids.length:Int)==0)with
     | false=>rfl
     | true =>
      have:kids=[]:=List.eq_nil_of_length_eq_zero (by have:(kids.length:Int)=0:=(by simpa using q); omega)
      subst this
      show _=some (true&&(xD n&&zG s)&&true)
      rw[Bool.and_true]
   ·have k1:(k==1)=false:=by simpa using h1
    have k2:(k==2)=false:=by simpa using h2
    have fin:∀ kd:Int,(if k=7 then(1:Int)else if k=3\/k=4\/k=5\/k=6 then 2 else -1)=kd->((((kids.length:Int)==kd)&&((xD n&&zh s [])&&ub (D+1) kids))) =
      ((((kids.length:Int)==(if k=1\/k=2 then(0:Int)else if k=7 then 1 else if k=3\/k=4\/k=5\/k=6 then 2 else -1))&&(if k=1 then wY n&&zh s []else if k=2 then xD n&&zG s else xD n&&zh s []))&&ub (D+1) kids):=by
     intro kd hkd
     rw[if_neg (by rintro(h | h); exact h1 h; exact h2 h),hkd,if_neg h1,if_neg h2]
     simp only[Bool.and_assoc]
    by_cases h7:k=7
    ·refine(z6 (a:=.inl 1) ?_ _).trans ?_
     ·rw[z8 k1,z8 k2,za (by simpa using h7),z7]
     ·rw[Sum.elim_inl,<- fin 1 (by rw[if_pos h7])]; exact tail 1
    ·have k7:(k==7)=false:=by simpa using h7
     by_cases h3:k=3
     ·refine(z6 (a:=.inl 2) ?_ _).trans ?_
      ·rw[z8 k1,z8 k2,z8 k7,za (by simpa using h3),z7]
      ·rw[Sum.elim_inl,<- fin 2 (by rw[if_neg h7,if_pos (.inl h3)])]; exact tail 2
     ·have k3:(k==3)=false:=by simpa using h3
      by_cases h4:k=4
      ·refine(z6 (a:=.inl 2) ?_ _).trans ?_
       ·rw[z8 k1,z8 k2,z8 k7,z8 k3,za (by simpa using h4),z7]
       ·rw[Sum.elim_inl,<- fin 2 (by rw[if_neg h7,if_pos (.inr (.inl h4))])]; exact tail 2
      ·have k4:(k==4)=false:=by simpa using h4
       by_cases h5:k=5
       ·refine(z6 (a:=.inl 2) ?_ _).trans ?_
        ·rw[z8 k1,z8 k2,z8 k7,z8 k3,z8 k4,za (by simpa using h5),z7]
        ·rw[Sum.elim_inl,<- fin 2 (by rw[if_neg h7,if_pos (.inr (.inr (.inl h5)))])]; exact tail 2
       ·have k5:(k==5)=false:=by simpa using h5
        by_cases h6:k=6
        ·refine(z6 (a:=.inl 2) ?_ _).trans ?_
         ·rw[z8 k1,z8 k2,z8 k7,z8 k3,z8 k4,z8 k5,za (by simpa using h6),z7]
         ·rw[Sum.elim_inl,<- fin 2 (by rw[if_neg h7,if_pos (.inr (.inr (.inr h6)))])]; exact tail 2
        ·have k6:(k==6)=false:=by simpa using h6
         refine(z6 (a:=.inr false) ?_ _).trans ?_
         ·rw[z8 k1,z8 k2,z8 k7,z8 k3,z8 k4,z8 k5,z8 k6,z7]
         ·rw[Sum.elim_inr,z7,<- fin (-1) (by rw[if_neg h7,if_neg (by rintro(h | h | h | h)<;>contradiction)])]
          have:((kids.length:Int) == -1)=false:=by simp
          rw[this]; rfl
 ·rw[za (decide_eq_true (by omega)),z7,decide_eq_false c]; rfl
theorem JD(e:Expr)(hb:bkE e<=1000000000):(nz e).run=some ((xk e:Nat):Int):=by
 unfold nz
 refine fJ (λx:Expr=>bkE x<=1000000000) (λx=>bkE x) (λx=>((xk x:Nat):Int)) (λx hx g hg => ?_) (x:=e) hb
 have hk:=X5 x
 have hkl:=Dw x.kids
 have ndb:∀ (l:List Expr),wz l<=bkEs l:=by
  have both:∀ n,(∀ e:Expr,bkE e<=n->xk e<=bkE e):=by
   intro n
   induction n using Nat.strongRecOn with
   | _ n ih =>
    intro e he
    cases e with | mk k m s l =>
    have hl:∀ l':List Expr,bkEs l'<n->wz l'<=bkEs l':=by
     intro l'
     induction l' with
     | nil=>intro _; exact Nat.le_refl _
     | cons y r ihr =>
      intro h
      unfold bkEs at h ⊢
      unfold wz
      have h1:=ih (bkE y) (by omega) y (Nat.le_refl _)
      have h2:=ihr (by omega)
      omega
    have h3:bkEs l<bkE (.mk k m s l):=X5 (.mk k m s l)
    have:=hl l (by omega)
    unfold xk
    omega
  intro l
  induction l with
  | nil=>exact Nat.le_refl _
  | cons y r ihr =>
   unfold wz bkEs
   have:=both (bkE y) y (Nat.le_refl _)
   omega
 have loop:(tc (λy0=>g y0) x (1,0)).run=some ((1+wz x.kids:Nat):Int):=by
  have key:=G3 (r:=kY (λy0=>g y0) x) x.kids (zk .expr) (λ(b:Nat) i=>(((b:Nat):Int),i)) (λb r=>b+wz r<=1+wz x.kids/\∀ y∈r,y∈x.kids) (λr b=>((b+wz r:Nat):Int)) ?_ ?_ (b:=1) ⟨Nat.le_refl _,λy hy=>hy⟩
  ·exact key
  ·rintro b y ys i h0 hi hy ⟨h1,h2⟩
   have hm:=BQ (h2 y List.mem_cons_self)
   have hr:=hg y (by omega) (by omega)
   have Du:=ndb x.kids
   have e1:wz (y::ys)=xk y+wz ys:=rfl
   rw[e1]at h1
   refine .inl ⟨b+xk y,?_,⟨by omega,λz hz=>h2 z (List.mem_cons_of_mem _ hz)⟩,by rw[e1,Nat.add_assoc]⟩
   unfold kY
   dsimp only
   rw[za (decide_eq_true hi),zb ⟨h0,hi⟩,hy,z6 hr,z7,zA (x:=i+1) (by omega) (by omega),zA (by omega) (by omega)]
   rfl
  ·rintro b _
   unfold kY
   dsimp only
   rw[z8 (kl _),z7]; rfl
 unfold da
 rw[z6 loop,z7]
 cases x with | mk k n s kids=>rfl
theorem Da(e:Expr)(h:allOk e)(hb:bkE e<=1000000)(hn:xk e<=256):(dx e).run=some (xB 0 e):=by
 unfold dx
 have h1:(oU e 1).run=some (xB 0 e):=z4a e 0 h (by omega) (by omega)
 rw[z6 h1]
 cases xB 0 e with
 | false=>rfl
 | true=>rw[zj,z6 (JD e (by omega)),z7,decide_eq_true (by omega)]
def zr(k:Int):Int:=if k=3\/k=4 then 1 else if k=5\/k=6 then 2 else if k=7 then 3 else 4
def ta(k:Int):ze:=if k=3 then[32,43,32]else if k=4 then[32,45,32]else if k=5 then[32,42,32]else if k=6 then[32,47,32]else[]
def vO(b:Bool)(s:ze):ze:=if b=true then[40]++s++[41]else s
def gD(k:Int):List (Int×ze)->ze
 | [a]=>[45]++vO (decide (a.1<3)) a.2
 | [a,b]=>vO (decide (a.1<zr k)) a.2++ta k++vO (decide (b.1<zr k+1)) b.2
 | _=>[]
mutual
def prE:Expr->ze
 | .mk k n s l=>if k=1 then(qs (norm n).1 (nv (norm n).2.1) (nv (norm n).2.2.1) 0 61).1 else if k=2 then s else gD k (prL l)
def prL:List Expr->List (Int×ze)
 | []=>[]
 | e::r=>(zr e.kind,prE e)::prL r
end
theorem vH(b:Bool)(s:ze):(vO b s).length<=s.length+2:=by unfold vO; split<;>simp<;>omega
theorem rW(k:Int):(ta k).length<=3:=by unfold ta; (repeat' split)<;>simp
theorem Y3(n:Rat)(h:uK n):(qs (norm n).1 (nv (norm n).2.1) (nv (norm n).2.2.1) 0 61).1.length<=6000:=by
 have hn:=ki (k:=100) (by omega) h
 have hd:=eI n.1 (nv n.2.1) (nv n.2.2.1)
 have hd:nv (norm n).2.2.1≠0:=hd
 rcases hx:qs (norm n).1 (nv (norm n).2.1) (nv (norm n).2.2.1) 0 61 with⟨s,b⟩
 cases b with
 | true =>
  obtain⟨j,h1,h2,h3,rfl⟩:=lY _ _ _ hd 61 0 s hx
  have l1:=zw hn.1
  have l2:=hn.2.2.1
  have l3:=rC j
  have l4:=XA (nv (norm n).2.1) (10 ^ j)
  have l5:=Uv (Nat.div_le_self (nv (norm n).2.1*10 ^ j) (nv (norm n).2.2.1))
  have l6:=eJ (nv (norm n).2.1*10 ^ j / nv (norm n).2.2.1) 162 (by omega)
  have l7:(QS (norm n).1).length<=1:=by unfold QS; split<;>simp
  dsimp only
  rw[List.length_append]
  by_cases hj:j=0
  ·subst hj
   unfold UB
   rw[if_pos rfl]
   omega
  ·obtain⟨w,p,e,_,_,_,hp,_,hw⟩:=sk (pr (nv (norm n).2.1*10 ^ j / nv (norm n).2.2.1)) j hj (iH _).1
   rw[e,List.length_append,List.length_cons]
   omega
 | false =>
  have:∀ (f k:Nat) (s:ze),qs (norm n).1 (nv (norm n).2.1) (nv (norm n).2.2.1) k f=(s,false)->s=[]:=by
   intro f
   induction f with
   | zero=>intro k s h; unfold qs at h; cases h; rfl
   | succ f ih =>
    intro k s h
    unfold qs at h
    split at h
    ·cases h
    ·exact ih _ _ h
  rw[this 61 0 s hx]; simp
theorem lM{d:Nat}{k:Int}{n:Rat}{s:ze}{l:List Expr}(h:xB d (.mk k n s l)=true):((l.length:Int)=dW k)/\ub (d+1) l=true:=by
 have h:(decide (d<32)&&(vR (.mk k n s l)&&ub (d+1) l))=true:=h
 simp only[Bool.and_eq_true]at h
 obtain⟨_,h1,h2⟩:=h
 unfold vR at h1
 simp only[Bool.and_eq_true]at h1
 exact⟨eq_of_beq h1.1,h2⟩
theorem fW:∀ (m:Nat) (e:Expr) (d:Nat),xk e<=m->xB d e=true->allOk e->(prE e).length<=2000*szE e:=by
 intro m
 induction m with
 | zero=>intro e d hm; cases e; unfold xk at hm; omega
 | succ m ih =>
  intro e d hm ho ha
  cases e with | mk k n s l =>
  obtain⟨hk,hl⟩:=lM ho
  obtain⟨hn,cT⟩:=ha
  have Du:xk (.mk k n s l)=1+wz l:=rfl
  have uH:szE (.mk k n s l)=3+s.length+8*n.2.1.length+8*n.2.2.1.length+szEs l:=rfl
  rw[Du]at hm
  rw[uH]
  show(if k=1 then(qs (norm n).1 (nv (norm n).2.1) (nv (norm n).2.2.1) 0 61).1 else if k=2 then s else gD k (prL l)).length<=_
  by_cases h1:k=1
  ·rw[if_pos h1]; have:=Y3 n hn; omega
  ·rw[if_neg h1]
   by_cases h2:k=2
   ·rw[if_pos h2]; omega
   ·rw[if_neg h2]
    match l,hl,cT,hm with
    | [],_,_,_=>show(gD k []).length<=_; unfold gD; simp
    | [a],hl,cT,hm =>
     have Rn:xB (d+1) a=true:=by
      have:(xB (d+1) a&&ub (d+1) [])=true:=hl
      simp only[Bool.and_eq_true]at this; exact this.1
     have:=ih a (d+1) (by have:wz [a]=xk a+0:=rfl; omega) Rn cT.1
     have e1:szEs [a]=szE a+0:=rfl
     have hp:=vH (decide (zr a.kind<3)) (prE a)
     show([45]++vO (decide (zr a.kind<3)) (prE a)).length<=_
     rw[List.length_append,List.length_singleton,e1]; omega
    | [a,b],hl,cT,hm =>
     have QQ:xB (d+1) a=true/\xB (d+1) b=true:=by
      have:(xB (d+1) a&&(xB (d+1) b&&ub (d+1) []))=true:=hl
      simp only[Bool.and_eq_true]at this; exact⟨this.1,this.2.1⟩
     have e0:wz [a,b]=xk a+(xk b+0):=rfl
     have h3:=ih a (d+1) (by omega) QQ.1 cT.1
     have h4:=ih b (d+1) (by omega) QQ.2 cT.2.1
     have e1:szEs [a,b]=szE a+(szE b+0):=rfl
     have hp:=vH (decide (zr a.kind<zr k)) (prE a)
     have hq:=vH (decide (zr b.kind<zr k+1)) (prE b)
     have hm':=rW k
     show(vO (decide (zr a.kind<zr k)) (prE a)++ta k++vO (decide (zr b.kind<zr k+1)) (prE b)).length<=_
     rw[List.length_append,List.length_append,e1]; omega
    | a::b::c::r,_,_,_=>show(gD k _).length<=_; unfold prL prL prL gD; simp
theorem Yh(e:Expr):(bK e).run=some (zr e.kind):=by
 unfold bK zr
 generalize e.kind=k
 by_cases h3:k=3
 ·subst h3; rfl
 by_cases h4:k=4
 ·subst h4; rfl
 by_cases h5:k=5
 ·subst h5; rfl
 by_cases h6:k=6
 ·subst h6; rfl
 by_cases h7:k=7
 ·subst h7; rfl
 ·simp[h3,h4,h5,h6,h7]
theorem z3f(k:Int):(oc k).run=some (zr k):=by
 unfold oc zr
 by_cases h3:k=3
 ·subst h3; rfl
 by_cases h4:k=4
 ·subst h4; rfl
 by_cases h5:k=5
 ·subst h5; rfl
 by_cases h6:k=6
 ·subst h6; rfl
 by_cases h7:k=7
 ·subst h7; rfl
 ·simp[h3,h4,h5,h6,h7]
theorem tS(g:Expr->T ze)(e:Expr)(least:Int)(t:ze)(hg:(g e).run=some t)(hl:t.length<=1000000000000):(yS (λy0=>g y0) e least).run=some (vO (decide (zr e.kind<least)) t):=by
 unfold yS vO
 rw[z6 (Yh e)]
 cases decide (zr e.kind<least)with
 | true=>rw[zj,z6 hg,zp _ (by simp; omega),zp _ (by simp[jc]; omega),z7,if_pos rfl]; rfl
 | false=>rw[zg,z6 hg,z7,if_neg (by simp)]
theorem Hy{k:Int}{l:List Expr}(hk:(l.length:Int)=dW k)(h1:k≠1)(h2:k≠2):(k=7/\∃ a,l=[a])\/((k=3\/k=4\/k=5\/k=6)/\∃ a b,l=[a,b]):=by
 unfold dW at hk
 rw[if_neg (by rintro(h | h); exact h1 h; exact h2 h)]at hk
 by_cases h7:k=7
 ·rw[if_pos h7]at hk
  match l,hk with
  | [a],_=>exact .inl ⟨h7,a,rfl⟩
  | [],hk=>simp at hk
  | _::_::_,hk=>simp at hk; omega
 ·rw[if_neg h7]at hk
  by_cases h:k=3\/k=4\/k=5\/k=6
  ·rw[if_pos h]at hk
   match l,hk with
   | [a,b],_=>exact .inr ⟨h,a,b,rfl⟩
   | [],hk=>simp at hk
   | [_],hk=>simp at hk
   | _::_::_::_,hk=>simp at hk; omega
  ·rw[if_neg h]at hk; omega
theorem NL(e:Expr)(d:Nat)(ho:xB d e=true)(ha:allOk e)(hs:szE e<=1000000):(mV e).run=some (prE e):=by
 unfold mV
 refine fJ (λx:Expr=>(∃ d,xB d x=true)/\allOk x/\szE x<=1000000) (λx=>xk x) (λx=>prE x) (λx hx g hg => ?_) (x:=e) ⟨⟨d,ho⟩,ha,hs⟩
 obtain⟨⟨d,ho⟩,ha,hs⟩:=hx
 cases x with | mk k n s l =>
 obtain⟨hk,hl⟩:=lM ho
 obtain⟨hn,cT⟩:=ha
 have Du:xk (.mk k n s l)=1+wz l:=rfl
 have uH:szE (.mk k n s l)=3+s.length+8*n.2.1.length+8*n.2.2.1.length+szEs l:=rfl
 have hE:=sA n (ez hn (by omega))
 have z6n:prE (.mk k n s l)=if k=1 then(qs (norm n).1 (nv (norm n).2.1) (nv (norm n).2.2.1) 0 61).1 else if k=2 then s else gD k (prL l):=rfl
 rw[z6n]
 unfold dc
 rw[show Expr.kind (.mk k n s l)=k from rfl,show Expr.kids (.mk k n s l)=l from rfl,show Expr.num (.mk k n s l)=n from rfl,show Expr.name (.mk k n s l)=s from rfl]
 have z0N:=Yh (.mk k n s l)
 rw[show Expr.kind (.mk k n s l)=k from rfl]at z0N
 by_cases h1:k=1
 ·rw[if_pos h1]
  refine(z6 (a:=.inr (qs (norm n).1 (nv (norm n).2.1) (nv (norm n).2.2.1) 0 61).1) ?_ _).trans rfl
  rw[za (by simpa using h1),z6 hE,z7]
 have k1:(k==1)=false:=by simpa using h1
 by_cases h2:k=2
 ·rw[if_neg h1,if_pos h2]
  refine(z6 (a:=.inr s) ?_ _).trans rfl
  rw[z8 k1,za (by simpa using h2),z7]
 have k2:(k==2)=false:=by simpa using h2
 rw[if_neg h1,if_neg h2]
 rcases Hy hk h1 h2 with⟨h7,a,rfl⟩ | ⟨RJ,a,b,rfl⟩
 ·have Rn:xB (d+1) a=true:=by
   have:(xB (d+1) a&&ub (d+1) [])=true:=hl
   simp only[Bool.and_eq_true]at this; exact this.1
  have e0:wz [a]=xk a+0:=rfl
  have e1:szEs [a]=szE a+0:=rfl
  have hr:=hg a ⟨⟨_,Rn⟩,cT.1,by omega⟩ (by omega)
  have hlen:=fW (xk a) a (d+1) (Nat.le_refl _) Rn cT.1
  have hp:=tS g a 3 (prE a) hr (by omega)
  have W4:=vH (decide (zr a.kind<3)) (prE a)
  refine(z6 (a:=.inr (gD k (prL [a]))) ?_ _).trans rfl
  rw[z8 k1,z8 k2,za (by simpa using h7),zb ⟨by omega,by simp⟩,show nth [a] (0:Int) (zk .expr)=a from rfl,z6 hp,zp _ (by simp; omega),z7]
  rfl
 ·have QQ:xB (d+1) a=true/\xB (d+1) b=true:=by
   have:(xB (d+1) a&&(xB (d+1) b&&ub (d+1) []))=true:=hl
   simp only[Bool.and_eq_true]at this; exact⟨this.1,this.2.1⟩
  have e0:wz [a,b]=xk a+(xk b+0):=rfl
  have e1:szEs [a,b]=szE a+(szE b+0):=rfl
  have ra:=hg a ⟨⟨_,QQ.1⟩,cT.1,by omega⟩ (by omega)
  have rb:=hg b ⟨⟨_,QQ.2⟩,cT.2.1,by omega⟩ (by omega)
  have la:=fW (xk a) a (d+1) (Nat.le_refl _) QQ.1 cT.1
  have lb:=fW (xk b) b (d+1) (Nat.le_refl _) QQ.2 cT.2.1
  have DQ:zF (zr k+1)=zr k+1:=by
   have:zr k=1\/zr k=2\/zr k=3\/zr k=4:=by unfold zr; (repeat' split)<;>simp
   rw[zA (by omega) (by omega)]
  have pa:=tS g a (zr k) (prE a) ra (by omega)
  have pb:=tS g b (zr k+1) (prE b) rb (by omega)
  have qa:=vH (decide (zr a.kind<zr k)) (prE a)
  have qb:=vH (decide (zr b.kind<zr k+1)) (prE b)
  have hm:=rW k
  have k7:(k==7)=false:=by rw[beq_eq_false_iff_ne]; omega
  refine(z6 (a:=.inl (ta k)) ?_ _).trans ?_
  ·rw[z8 k1,z8 k2,z8 k7]
   rcases RJ with rfl | rfl | rfl | rfl<;>rfl
  ·rw[Sum.elim_inl,zb ⟨by omega,by simp⟩,z6 z0N,show nth [a,b] (0:Int) (zk .expr)=a from rfl,z6 pa,zp _ (by omega),zb ⟨by omega,by simp⟩,z6 z0N,DQ,show nth [a,b] (1:Int) (zk .expr)=b from rfl,z6 pb,zp _ (by simp[jc]; omega),z7]
   rfl
theorem Ti(e:Expr)(asks:Int)(d:Nat)(ho:xB d e=true)(ha:allOk e)(hs:szE e<=100000):(rD e asks).run=some (vO (decide (zr e.kind<asks)) (prE e)):=by
 unfold rD
 refine fJ (λx:Expr×Int=>(∃ d,xB d x.1=true)/\allOk x.1/\szE x.1<=100000) (λx=>xk x.1) (λx=>vO (decide (zr x.1.kind<x.2)) (prE x.1)) (λx hx g hg => ?_) (x:=(e,asks)) ⟨⟨d,ho⟩,ha,hs⟩
 obtain⟨x,q⟩:=x
 obtain⟨⟨d,ho⟩,ha,hs⟩:=hx
 dsimp only at ho ha hs
 have ziS:=fW (xk x) x d (Nat.le_refl _) ho ha
 cases x with | mk k n s l =>
 obtain⟨hk,hl⟩:=lM ho
 obtain⟨hn,cT⟩:=ha
 have Du:xk (.mk k n s l)=1+wz l:=rfl
 have uH:szE (.mk k n s l)=3+s.length+8*n.2.1.length+8*n.2.2.1.length+szEs l:=rfl
 have hE:=pK n (ez hn (by omega))
 have z6n:prE (.mk k n s l)=if k=1 then(qs (norm n).1 (nv (norm n).2.1) (nv (norm n).2.2.1) 0 61).1 else if k=2 then s else gD k (prL l):=rfl
 unfold iD
 rw[show Expr.kind (.mk k n s l)=k from rfl,show Expr.kids (.mk k n s l)=l from rfl,show Expr.num (.mk k n s l)=n from rfl,show Expr.name (.mk k n s l)=s from rfl]
 have fin:∀ t:T ze,t.run=some (prE (.mk k n s l))->(T.bind t λs1=>T.bind (oc k) λr10=>.ite (decide (r10<q))
   (.zL (((List.length ([40]:ze))+(List.length s1))<=(4611686018427387904:Nat))<|.zL (((List.length (cat ([40]:ze) s1))+(List.length ([41]:ze)))<=(4611686018427387904:Nat))<|.ret (cat (cat ([40]:ze) s1) ([41]:ze))) (.ret s1):T ze).run=some (vO (decide (zr k<q)) (prE (.mk k n s l))):=by
  intro t ht
  rw[z6 ht,z6 (z3f k)]
  cases decide (zr k<q)with
  | true=>rw[zj,zp _ (by simp; omega),zp _ (by simp[jc]; omega),z7]; rfl
  | false=>rw[zg,z7]; rfl
 refine fin _ ?_
 rw[z6n]
 by_cases h1:k=1
 ·rw[if_pos h1,za (by simpa using h1),z6 hE,z7]
 have k1:(k==1)=false:=by simpa using h1
 by_cases h2:k=2
 ·rw[if_neg h1,if_pos h2,z8 k1,za (by simpa using h2),z7]
 have k2:(k==2)=false:=by simpa using h2
 rw[if_neg h1,if_neg h2]
 rcases Hy hk h1 h2 with⟨h7,a,rfl⟩ | ⟨RJ,a,b,rfl⟩
 ·have Rn:xB (d+1) a=true:=by
   have:(xB (d+1) a&&ub (d+1) [])=true:=hl
   simp only[Bool.and_eq_true]at this; exact this.1
  have e0:wz [a]=xk a+0:=rfl
  have e1:szEs [a]=szE a+0:=rfl
  have hr:=hg (a,3) ⟨⟨_,Rn⟩,cT.1,by dsimp only; omega⟩ (by dsimp only; omega)
  have hlen:=fW (xk a) a (d+1) (Nat.le_refl _) Rn cT.1
  have W4:=vH (decide (zr a.kind<3)) (prE a)
  dsimp only at hr
  rw[z8 k1,z8 k2,za (by simpa using h7),zb ⟨by omega,by simp⟩,show nth [a] (0:Int) (zk .expr)=a from rfl,z6 hr,zp _ (by simp; omega),z7]
  rfl
 ·have QQ:xB (d+1) a=true/\xB (d+1) b=true:=by
   have:(xB (d+1) a&&(xB (d+1) b&&ub (d+1) []))=true:=hl
   simp only[Bool.and_eq_true]at this; exact⟨this.1,this.2.1⟩
  have e0:wz [a,b]=xk a+(xk b+0):=rfl
  have e1:szEs [a,b]=szE a+(szE b+0):=rfl
  have ra:∀ q:Int,(g (a,q)).run=some (vO (decide (zr a.kind<q)) (prE a)):=λq=>hg (a,q) ⟨⟨_,QQ.1⟩,cT.1,by dsimp only; omega⟩ (by dsimp only; omega)
  have rb:∀ q:Int,(g (b,q)).run=some (vO (decide (zr b.kind<q)) (prE b)):=λq=>hg (b,q) ⟨⟨_,QQ.2⟩,cT.2.1,by dsimp only; omega⟩ (by dsimp only; omega)
  have la:=fW (xk a) a (d+1) (Nat.le_refl _) QQ.1 cT.1
  have lb:=fW (xk b) b (d+1) (Nat.le_refl _) QQ.2 cT.2.1
  have qa:∀ q:Int,(vO (decide (zr a.kind<q)) (prE a)).length<=1000000000:=λq=>by have:=vH (decide (zr a.kind<q)) (prE a); omega
  have qb:∀ q:Int,(vO (decide (zr b.kind<q)) (prE b)).length<=1000000000:=λq=>by have:=vH (decide (zr b.kind<q)) (prE b); omega
  have k7:(k==7)=false:=by rw[beq_eq_false_iff_ne]; omega
  have two:∀ (m:ze) (p q:Int),m.length<=3->(.zL (qw (0:Int) (List.length [a,b]))<|T.bind (g (nth [a,b] (0:Int) (zk .expr),p)) λr2=>.zL (((List.length r2)+(List.length m))<=(4611686018427387904:Nat))<|.zL (qw (1:Int) (List.length [a,b])) <|
    T.bind (g (nth [a,b] (1:Int) (zk .expr),q)) λr3=>.zL (((List.length (cat r2 m))+(List.length r3))<=(4611686018427387904:Nat))<|.ret (cat (cat r2 m) r3):T ze).run=some (vO (decide (zr a.kind<p)) (prE a)++m++vO (decide (zr b.kind<q)) (prE b)):=by
   intro m p q hm
   have h3:=qa p
   have h4:=qb q
   rw[zb ⟨by omega,by simp⟩,show nth [a,b] (0:Int) (zk .expr)=a from rfl,z6 (ra p),zp _ (by omega),zb ⟨by omega,by simp⟩,show nth [a,b] (1:Int) (zk .expr)=b from rfl,z6 (rb q),zp _ (by simp[jc]; omega),z7]
   rfl
  rw[z8 k1,z8 k2,z8 k7]
  rcases RJ with rfl | rfl | rfl | rfl
  ·rw[za (by rfl)]; exact two [32,43,32] 1 2 (by simp)
  ·rw[z8 (by rfl),za (by rfl)]; exact two [32,45,32] 1 2 (by simp)
  ·rw[z8 (by rfl),z8 (by rfl),za (by rfl)]; exact two [32,42,32] 2 3 (by simp)
  ·rw[z8 (by rfl),z8 (by rfl),z8 (by rfl),za (by rfl)]; exact two [32,47,32] 2 3 (by simp)
structure FL(f:Form):Prop where
 n:f.1.length+f.2.1.length+f.2.2.1.length+f.2.2.2.1.length+f.2.2.2.2.1.length+f.2.2.2.2.2.1.length<=30
 s:∀ x∈f.1,x.1.length<=600
 p:∀ x∈f.2.1,x.1.length<=600/\x.2.1.2.1.length<=75/\x.2.1.2.2.1.length<=75
 g:∀ x∈f.2.2.1,x.1.length<=600/\x.2.1.length<=600
 d:∀ x∈f.2.2.2.1,x.1.length<=600
 r:∀ x∈f.2.2.2.2.1,x.1.length<=600/\x.2.2.1.length<=600/\szE x.2.2.2.1<=600/\szE x.2.2.2.2.1<=600
 c:∀ x∈f.2.2.2.2.2.1,x.1.length<=600/\szE x.2.2.2.1<=600/\szE x.2.2.2.2.1<=600
theorem fb(e:Expr):Expr.mk (Expr.kind e) ((Expr.num e).1,((Expr.num e).2.1,((Expr.num e).2.2.1,()))) (Expr.name e) (Expr.kids e)=e:=by
 cases e; rfl
mutual
theorem TY:∀ e:Expr,bkE e<=4*szE e
 | .mk k n s l=>by
  have:=IJ l
  unfold bkE szE
  omega
theorem IJ:∀ l:List Expr,bkEs l<=4*szEs l
 | []=>Nat.le_refl _
 | e::r=>by
  have h1:=TY e
  have h2:=IJ r
  unfold bkEs szEs
  omega
end
def w6(e:Expr):Prop:=szE e<=74000/\xk e<=256/\allOk e
theorem rB{e:Expr}(h:szE e<=600)(ha:allOk e):w6 e:=⟨by omega,by have:=TZ e; omega,ha⟩
theorem z2s{e:Expr}(h:w6 e):bkE e<=296000:=by have:=TY e; have:=h.1; omega
theorem Hj{e:Expr}(h:w6 e):xk e<=256:=h.2.1
theorem Qr{e:Expr}(h:w6 e):(uA e).run=some (xB 0 e):=z8X e h.2.2 (Hj h)
theorem ox{e:Expr}(h:w6 e):(dx e).run=some (xB 0 e):=Da e h.2.2 (by have:=z2s h; omega) (Hj h)
theorem MA{e:Expr}(h:w6 e)(ho:xB 0 e=true):(eP e).run=some (prE e):=by
 unfold eP
 rw[z6 (Qr h),ho,z8 (by rfl),z6 (NL e 0 ho h.2.2 (by have:=h.1; omega)),z7]
theorem Zg{e:Expr}(h:w6 e)(ho:xB 0 e=true):(yr e).run=some (prE e):=by
 unfold yr
 rw[z6 (ox h),ho,z8 (by rfl),z6 (Ti e 1 0 ho h.2.2 (by have:=h.1; omega)),z7]
 have:decide (zr e.kind<1)=false:=by
  refine decide_eq_false ?_
  unfold zr
  (repeat' split)<;>omega
 rw[this]; rfl
theorem ca{e:Expr}(h:w6 e)(ho:xB 0 e=true):(prE e).length<=148000000:=by
 have:=fW (xk e) e 0 (Nat.le_refl _) ho h.2.2
 have:=h.1
 omega
structure FS(f:Form):Prop where
 n:f.1.length+f.2.1.length+f.2.2.1.length+f.2.2.2.1.length+f.2.2.2.2.1.length+f.2.2.2.2.2.1.length<=601
 s:∀ x∈f.1,x.1.length<=600
 p:∀ x∈f.2.1,x.1.length<=600/\wh 100 x.2.1
 g:∀ x∈f.2.2.1,x.1.length<=600/\x.2.1.length<=600
 d:∀ x∈f.2.2.2.1,x.1.length<=600
 r:∀ x∈f.2.2.2.2.1,x.1.length<=600/\x.2.2.1.length<=600/\w6 x.2.2.2.1/\w6 x.2.2.2.2.1
 c:∀ x∈f.2.2.2.2.2.1,x.1.length<=600/\w6 x.2.2.2.1/\w6 x.2.2.2.2.1
theorem z9O{f:Form}(hw:wf qc f)(hb:FB f)(hl:FL f):FS f:=by
 refine⟨by have:=hl.n; omega,hl.s,λx hx => ?_,hl.g,hl.d,λx hx => ?_,λx hx => ?_⟩
 ·obtain⟨a,b,c⟩:=hl.p x hx
  obtain⟨_,_,_,d,e⟩:=hb.p x hx
  exact⟨a,d,e,by omega,by omega⟩
 ·obtain⟨a,b,c,d⟩:=hl.r x hx
  have hwx:wf q8 x:=hw.2.2.2.2.1 x hx
  exact⟨a,b,rB c (pj _ hwx.2.2.2.1 (by omega)),rB d (pj _ hwx.2.2.2.2.1 (by omega))⟩
 ·obtain⟨a,b,c⟩:=hl.c x hx
  have hwx:wf zU x:=hw.2.2.2.2.2.1 x hx
  exact⟨a,rB b (pj _ hwx.2.2.2.1 (by omega)),rB c (pj _ hwx.2.2.2.2.1 (by omega))⟩
def Ua(x:Switch):Bool := !zG x.1
def fU(x:Param):Bool := !zG x.1||(!ep x.2.1||um x.2.1)
def yy(s:ze):Bool:=zh s []||zG s
def WJ(x:xj):Bool := !zG x.1 || !yy x.2.1
def Xe(n at_:Int)(x:Field):Bool:=decide (x.2.1<at_)||(decide (n<=x.2.1)||(!zG x.1||(decide (x.2.2.2.1<(0:Int))||decide ((9:Int)<x.2.2.2.1))))
def Qk(n at_:Int)(x:Check):Bool:=decide (x.2.1<at_)||(decide (n<=x.2.1)||(!zG x.1||(decide (x.2.2.1<(0:Int))||(decide ((2:Int)<x.2.2.1)||(!xB 0 x.2.2.2.1 || !xB 0 x.2.2.2.2.1)))))
def iQ(x:qH):Bool := !zG x.1||(!yy x.2.2.1||(decide (x.2.1<(0:Int))||(decide ((3:Int)<x.2.1)||(!xB 0 x.2.2.2.1 || !xB 0 x.2.2.2.2.1))))
def nN{α:Type}(bad:Int->α->Bool)(nx:α->Int):Int->List α->Bool
 | _,[]=>true
 | at_,x::r => !bad at_ x&&nN bad nx (nx x) r
theorem nh{α:Type}(bad:Int->α->Bool)(nx:α->Int)(at_:Int)(x:α)(r:List α):nN bad nx at_ (x::r)=(!bad at_ x&&nN bad nx (nx x) r):=rfl
def a1(f:Form):Bool := !f.1.any Ua
def a2(f:Form):Bool := !f.2.1.any fU
def a3(f:Form):Bool := !f.2.2.1.any WJ
def a4(f:Form):Bool:=nN (Xe (f.2.2.1.length:Int)) (λx=>x.2.1) 0 f.2.2.2.1
def a5(f:Form):Bool:=nN (Qk (f.2.2.1.length:Int)) (λx=>x.2.1) 0 f.2.2.2.2.2.1
def a6(f:Form):Bool := !f.2.2.2.2.1.any iQ
theorem Zi{α:Type}(l:List α)(d:α)(bad:α->Bool){r:Int->T (Int⊕(Unit⊕Bool))}
  (step:∀ (k:Nat) (x:α),k<l.length->nth l (k:Int) d=x->x∈l->(r (k:Int)).run=some (if bad x=true then .inr (.inr false)else .inl ((k+1:Nat):Int)))
  (done:(r (l.length:Int)).run=some (.inr (.inl ()))):(T.loop r 0).run=some (if l.any bad=true then .inr false else .inl ()):=by
 refine T.rO (r:=r) l d (λ(_:Unit) i=>i) (λ_ _=>True) (λxs _=>if xs.any bad=true then .inr false else .inl ()) (λk b x xs hk hx hm _ _ => ?_) (λb _ => ?_) (b:=()) trivial
 ·rw[step k x hk hx hm,List.any_cons]
  cases bad x with
  | true=>exact .inr rfl
  | false=>exact .inl ⟨(),rfl,trivial,rfl⟩
 ·exact done
theorem s9{α:Type}(l:List α)(d:α)(bad:Int->α->Bool)(nx:α->Int){r:Int×Int->T ((Int×Int)⊕(Unit⊕Bool))}
  (hn:∀ at_ x,0<=at_->bad at_ x=false->0<=nx x)
  (step:∀ (k:Nat) (at_:Int) (x:α),k<l.length->nth l (k:Int) d=x->x∈l->0<=at_->(r (at_,(k:Int))).run=some (if bad at_ x=true then .inr (.inr false)else .inl (nx x,((k+1:Nat):Int))))
  (done:∀ at_,(r (at_,(l.length:Int))).run=some (.inr (.inl ()))):(T.loop r (0,0)).run=some (if nN bad nx 0 l=true then .inl ()else .inr false):=by
 refine T.rO (r:=r) l d (λ(b:Int) i=>(b,i)) (λ_ b=>0<=b) (λxs b=>if nN bad nx b xs=true then .inl ()else .inr false) (λk b x xs hk hx hm _ h0 => ?_) (λb _ => ?_) (b:=0) (Int.le_refl 0)
 ·rw[step k b x hk hx hm h0]
  rw[nh]
  cases h:bad b x with
  | true=>exact .inr rfl
  | false=>exact .inl ⟨nx x,rfl,hn b x h0 h,rfl⟩
 ·exact done b
theorem lJ{α:Type}{bad:Int->α->Bool}{nx:α->Int}:∀ {l:List α} {at_:Int},nN bad nx at_ l=true->∀ x∈l,∃ b,bad b x=false
 | [],_,_,x,hx=>by cases hx
 | y::r,at_,h,x,hx=>by
  unfold nN at h
  rw[Bool.and_eq_true,Bool.not_eq_true']at h
  rcases List.mem_cons.1 hx with rfl | hx
  ·exact⟨at_,h.1⟩
  ·exact lJ h.2 x hx
theorem N8{α:Type}{x:α}{b c:Bool}{t:T (Bool×α)}(h:t.run=some (c,x)):(T.ite b (.ret (true,x)) t).run=some (b||c,x):=by cases b; exact h; rfl
theorem orB{b c:Bool}{t:T Bool}(h:t.run=some c):(T.ite b (.ret true) t).run=some (b||c):=by cases b; exact h; rfl
theorem oq{α:Type}{x:α}{m:T Bool}{b c:Bool}{t:T (Bool×α)}(hm:m.run=some b)(h:t.run=some (c,x)):(T.bind m λr=>T.ite (!r) (.ret (true,x)) t).run=some (!b||c,x):=by
 rw[z6 hm]; exact N8 h
theorem XB{m:T Bool}{b c:Bool}{t:T Bool}(hm:m.run=some b)(h:t.run=some c):(T.bind m λr=>T.ite (!r) (.ret true) t).run=some (!b||c):=by
 rw[z6 hm]; exact orB h
theorem z6r{α:Type}{x:α}{m:T Bool}{b:Bool}(hm:m.run=some b):(T.bind m λr=>.ret ((!r),x)).run=some (!b,x):=by
 rw[z6 hm]; rfl
theorem z01{m:T Bool}{b:Bool}(hm:m.run=some b):(T.bind m λr=>.ret (!r)).run=some (!b):=by
 rw[z6 hm]; rfl
abbrev ss(a b:Int):Prop:=a<=b
abbrev ilt(a b:Int):Prop:=a<b
abbrev FT:=List Switch×List Param×List Field×List qH×List Check×Unit
def YZ(x:Switch):ze:=[115,119,105,116,99,104,32]++x.1++(bif x.2.1 then[32,111,110,10]else[32,111,102,102,10])
def JW(x:Param):ze:=[112,97,114,97,109,32]++x.1++[32]++vg (norm x.2.1)++[10]
def Kk(s:ze):ze:=if s=[]then[]else[32,119,104,101,110,32]++s
def E8(x:xj):ze:=[112,97,103,101,32]++x.1++Kk x.2.1++[10]
def fhS(x:Field):ze:=bif x.2.2.1 then[102,105,101,108,100,32]++x.1++[32,109,117,115,116]else[102,105,101,108,100,32]++x.1
def Ph(x:Field):ze:=if(0:Int)<x.2.2.2.1 then fhS x++([32,115,99,97,108,101,32]++cQ x.2.2.2.1)++[10]else fhS x++[10]
def Be(l:Expr)(sign:ze)(r:Expr):ze:=[32,58,32]++prE l++[32]++sign++[32]++prE r++[10]
def ju(n:Int):ze:=if n=1 then[60]else if n=2 then[60,61]else[61]
def cH(n:Int):ze:=if n=0 then[114,101,113,117,105,114,101,100]else if n=1 then[115,116,114,111,110,103]else if n=2 then[109,101,100,105,117,109]else[119,101,97,107]
def Sw(x:Check):ze:=[99,104,101,99,107,32]++x.1++Be x.2.2.2.1 (ju x.2.2.1) x.2.2.2.2.1
def Z8(x:qH):ze:=[114,117,108,101,32]++cH x.2.1++[32]++x.1++Kk x.2.2.1++Be x.2.2.2.1 [61] x.2.2.2.2.1
def Gp(i:Int)(x:Field):ze:=if(x.2.1==i)=true then Ph x else[]
def HG(i:Int)(x:Check):ze:=if(x.2.1==i)=true then Sw x else[]
def JX(f:Form)(i:Nat):ze:=E8 (nth f.2.2.1 (i:Int) (zk zV))++f.2.2.2.1.flatMap (Gp i)++f.2.2.2.2.2.1.flatMap (HG i)
def Gw(f:Form):ze:=f.1.flatMap YZ++f.2.1.flatMap JW++(List.range f.2.2.1.length).flatMap (JX f)++f.2.2.2.2.1.flatMap Z8
structure CC(f:Form):Prop extends FS f where
 d2:∀ x∈f.2.2.2.1,ss 0 x.2.2.2.1/\ss x.2.2.2.1 9
 c2:∀ x∈f.2.2.2.2.2.1,ss 0 x.2.2.1/\ss x.2.2.1 2/\xB 0 x.2.2.2.1=true/\xB 0 x.2.2.2.2.1=true
 r2:∀ x∈f.2.2.2.2.1,ss 0 x.2.1/\ss x.2.1 3/\xB 0 x.2.2.2.1=true/\xB 0 x.2.2.2.2.1=true
theorem UM{f:Form}(h:FS f)(h4:a4 f=true)(h5:a5 f=true)(h6:a6 f=true):CC f:=by
 refine { toFS:=h,d2:=λx hx => ?_,c2:=λx hx => ?_,r2:=λx hx => ?_ }
 ·obtain⟨b,hb⟩:=lJ h4 x hx
  unfold Xe at hb
  simp only[Bool.or_eq_false_iff,decide_eq_false_iff_not,Bool.not_eq_false']at hb
  obtain⟨_,_,_,q1,q2⟩:=hb
  exact⟨Int.not_lt.1 q1,Int.not_lt.1 q2⟩
 ·obtain⟨b,hb⟩:=lJ h5 x hx
  unfold Qk at hb
  simp only[Bool.or_eq_false_iff,decide_eq_false_iff_not,Bool.not_eq_false']at hb
  obtain⟨_,_,_,q1,q2,q3,q4⟩:=hb
  exact⟨Int.not_lt.1 q1,Int.not_lt.1 q2,q3,q4⟩
 ·unfold a6 at h6
  rw[Bool.not_eq_true',List.any_eq_false]at h6
  have hb:iQ x=false:=by simpa using h6 x hx
  unfold iQ at hb
  simp only[Bool.or_eq_false_iff,decide_eq_false_iff_not,Bool.not_eq_false']at hb
  obtain⟨_,_,q1,q2,q3,q4⟩:=hb
  exact⟨Int.not_lt.1 q1,Int.not_lt.1 q2,q3,q4⟩
theorem pJ(n:Int):(ju n).length<=2:=by unfold ju; split; decide; split<;>decide
theorem oS(n:Int):(cH n).length<=8:=by unfold cH; split; decide; split; decide; split<;>decide
theorem fY(s:ze):(Kk s).length<=s.length+6:=by unfold Kk; split<;>simp
theorem z3D:Kk []=[]:=rfl
theorem V0(x:Switch)(h:x.1.length<=600):(YZ x).length<=300000000:=by
 unfold YZ
 cases x.2.1<;>simp<;>omega
theorem V7(x:Param)(h:x.1.length<=600)(hr:wh 100 x.2.1):(JW x).length<=300000000:=by
 have:=tP x.2.1 ⟨hr.1,hr.2.1,by have:=hr.2.2.1; omega,by have:=hr.2.2.2; omega⟩
 unfold JW
 simp only[List.length_append,List.length_cons,List.length_nil]
 omega
theorem LA(x:xj)(h:x.1.length<=600)(h2:x.2.1.length<=600):(E8 x).length<=300000000:=by
 have:=fY x.2.1
 unfold E8
 simp only[List.length_append,List.length_cons,List.length_nil]
 omega
theorem HB(x:Field):(fhS x).length<=x.1.length+11:=by
 unfold fhS
 cases x.2.2.1<;>simp
theorem GD(x:Field)(h:x.1.length<=600)(h1:ss 0 x.2.2.2.1)(h2:ss x.2.2.2.1 9):(Ph x).length<=300000000:=by
 have:=Cm x.2.2.2.1 ⟨by unfold ss at *; omega,by unfold ss at *; omega⟩
 have:=HB x
 unfold Ph
 split<;>simp only[List.length_append,List.length_cons,List.length_nil]<;>omega
theorem V5{l r:Expr}(s:ze)(hs:s.length<=8)(h1:w6 l)(h2:w6 r)(o1:xB 0 l=true)(o2:xB 0 r=true):(Be l s r).length<=297000000:=by
 have:=ca h1 o1
 have:=ca h2 o2
 unfold Be
 simp only[List.length_append,List.length_cons,List.length_nil]
 omega
theorem IW(x:Check)(h:x.1.length<=600)(h1:w6 x.2.2.2.1)(h2:w6 x.2.2.2.2.1)(o1:xB 0 x.2.2.2.1=true)(o2:xB 0 x.2.2.2.2.1=true):(Sw x).length<=300000000:=by
 have:=V5 (ju x.2.2.1) (by have:=pJ x.2.2.1; omega) h1 h2 o1 o2
 unfold Sw
 simp only[List.length_append,List.length_cons,List.length_nil]
 omega
theorem Va(x:qH)(h:x.1.length<=600)(h':x.2.2.1.length<=600)(h1:w6 x.2.2.2.1)(h2:w6 x.2.2.2.2.1)(o1:xB 0 x.2.2.2.1=true)(o2:xB 0 x.2.2.2.2.1=true):(Z8 x).length<=300000000:=by
 have:=V5 [61] (by decide) h1 h2 o1 o2
 have:=oS x.2.1
 have:=fY x.2.2.1
 unfold Z8
 simp only[List.length_append,List.length_cons,List.length_nil]
 omega
theorem Qd{f:Form}(h:CC f)(i:Int):∀ x∈f.2.2.2.1,(Gp i x).length<=300000000:=λx hx=>by
 unfold Gp
 split
 ·exact GD x (h.d x hx) (h.d2 x hx).1 (h.d2 x hx).2
 ·exact Nat.zero_le _
theorem HT{f:Form}(h:CC f)(i:Int):∀ x∈f.2.2.2.2.2.1,(HG i x).length<=300000000:=λx hx=>by
 unfold HG
 obtain⟨q1,q2,q3⟩:=h.c x hx
 obtain⟨_,_,o1,o2⟩:=h.c2 x hx
 split
 ·exact IW x q1 q2 q3 o1 o2
 ·exact Nat.zero_le _
theorem Mt{f:Form}(h:CC f){i:Nat}(hi:i<f.2.2.1.length):(nth f.2.2.1 (i:Int) (zk zV)).1.length<=600/\(nth f.2.2.1 (i:Int) (zk zV)).2.1.length<=600 :=
 h.g _ (bP (by omega) (by omega))
theorem Hv{f:Form}(h:CC f){i:Nat}(hi:i<f.2.2.1.length):(JX f i).length<=181000000000:=by
 obtain⟨g1,g2⟩:=Mt h hi
 have h1:=LA _ g1 g2
 have h2:=uI (Gp i) f.2.2.2.1 300000000 (Qd h i)
 have h3:=uI (HG i) f.2.2.2.2.2.1 300000000 (HT h i)
 have:=h.n
 unfold JX
 simp only[List.length_append]
 omega
theorem l8{α:Type}(l:List α)(d:α)(C B:Nat)(f:α->ze)(s:ze){r:ze×Int->T ((ze×Int)⊕ze)}
  (step:∀ (k:Nat) (b:ze) (x:α),k<l.length->nth l (k:Int) d=x->x∈l->b.length+C<=B->(r (b,(k:Int))).run=some (.inl (b++f x,((k+1:Nat):Int))))
  (done:∀ b,(r (b,(l.length:Int))).run=some (.inr b)) (hf:∀ x∈l,(f x).length<=C) (hB:s.length+l.length*C<=B):(T.loop r (s,0)).run=some (s++l.flatMap f):=by
 rw[<- YP]
 refine T.VG (r:=r) l d (λ(b:ze) i=>(b,i)) (λk b=>b.length<=s.length+k*C) (λb x=>b++f x) (λb=>b) (λk b x hk hx hm hI => ?_) (λb hI=>done b) (b:=s) (by omega)
 have h4:=Cw (c:=C) (show k+1<=l.length from hk)
 rw[Nat.add_mul,Nat.one_mul]at h4
 refine⟨step k b x hk hx hm (by omega),?_⟩
 have:=hf x hm
 rw[List.length_append,Nat.add_mul,Nat.one_mul]
 omega
theorem lV{α:Type}(l:List α)(d:α)(C B:Nat)(f:α->ze)(s:ze){r:Int×Unit×List Int->T ((Int×Unit×List Int)⊕(Unit×List Int))}
  (step:∀ (k:Nat) (b:ze) (x:α),k<l.length->nth l (k:Int) d=x->x∈l->b.length+C<=B->(r ((k:Int),(),bytesOf b)).run=some (.inl (((k+1:Nat):Int),(),bytesOf (b++f x))))
  (done:∀ b,(r ((l.length:Int),(),bytesOf b)).run=some (.inr ((),bytesOf b))) (hf:∀ x∈l,(f x).length<=C) (hB:s.length+l.length*C<=B):(T.loop r (0,(),bytesOf s)).run=some ((),bytesOf (s++l.flatMap f)):=by
 rw[<- YP]
 refine T.VG (r:=r) l d (λ(b:ze) i=>(i,(),bytesOf b)) (λk b=>b.length<=s.length+k*C) (λb x=>b++f x) (λb=>((),bytesOf b)) (λk b x hk hx hm hI => ?_) (λb hI=>done b) (b:=s) (by omega)
 have h4:=Cw (c:=C) (show k+1<=l.length from hk)
 rw[Nat.add_mul,Nat.one_mul]at h4
 refine⟨step k b x hk hx hm (by omega),?_⟩
 have:=hf x hm
 rw[List.length_append,Nat.add_mul,Nat.one_mul]
 omega
theorem KI(l:List Switch)(g:Switch->T Bool)(p:Switch->Bool)(hg:∀ x∈l,(g x).run=some (p x))(hl:l.length<=1000000000):(qK l g).run=some (l.any p):=by
 have key:(uL l g (l.length:Int) 0).run=some (if PL.Z9 p 0 l = -1 then .inl ()else .inr (PL.Z9 p 0 l)):=by
  refine PL.Q0 l (zk zx) p (λi h hi hp => ?_) (λi h hi hp => ?_) (λi hi => ?_)
  ·have hm:=bP (d:=zk zx) h hi
   simp(disch:=omega) [qL,hi,hg _ hm,hp]
  ·have hm:=bP (d:=zk zx) h hi
   simp(disch:=omega) [qL,hi,hg _ hm,hp]
  ·simp[qL,hi]
 have hx:(xY l g).run=some (PL.Z9 p 0 l):=by
  unfold xY
  rw[z6 key]
  split<;>rename_i h<;>simp[h]
 unfold qK
 rw[z6 hx,z7,PL.WV _ _ _ (Int.le_refl 0)]
theorem GJ(l:List Param)(g:Param->T Bool)(p:Param->Bool)(hg:∀ x∈l,(g x).run=some (p x))(hl:l.length<=1000000000):(qU l g).run=some (l.any p):=by
 have key:(uY l g (l.length:Int) 0).run=some (if PL.Z9 p 0 l = -1 then .inl ()else .inr (PL.Z9 p 0 l)):=by
  refine PL.Q0 l (zk zM) p (λi h hi hp => ?_) (λi h hi hp => ?_) (λi hi => ?_)
  ·have hm:=bP (d:=zk zM) h hi
   simp(disch:=omega) [qT,hi,hg _ hm,hp]
  ·have hm:=bP (d:=zk zM) h hi
   simp(disch:=omega) [qT,hi,hg _ hm,hp]
  ·simp[qT,hi]
 have hx:(wc l g).run=some (PL.Z9 p 0 l):=by
  unfold wc
  rw[z6 key]
  split<;>rename_i h<;>simp[h]
 unfold qU
 rw[z6 hx,z7,PL.WV _ _ _ (Int.le_refl 0)]
theorem Cj(l:List xj)(g:xj->T Bool)(p:xj->Bool)(hg:∀ x∈l,(g x).run=some (p x))(hl:l.length<=1000000000):(xe l g).run=some (l.any p):=by
 have key:(jo l g (l.length:Int) 0).run=some (if PL.Z9 p 0 l = -1 then .inl ()else .inr (PL.Z9 p 0 l)):=by
  refine PL.Q0 l (zk zV) p (λi h hi hp => ?_) (λi h hi hp => ?_) (λi hi => ?_)
  ·have hm:=bP (d:=zk zV) h hi
   simp(disch:=omega) [xg,hi,hg _ hm,hp]
  ·have hm:=bP (d:=zk zV) h hi
   simp(disch:=omega) [xg,hi,hg _ hm,hp]
  ·simp[xg,hi]
 have hx:(wI l g).run=some (PL.Z9 p 0 l):=by
  unfold wI
  rw[z6 key]
  split<;>rename_i h<;>simp[h]
 unfold xe
 rw[z6 hx,z7,PL.WV _ _ _ (Int.le_refl 0)]
theorem Dc(l:List qH)(g:qH->T Bool)(p:qH->Bool)(hg:∀ x∈l,(g x).run=some (p x))(hl:l.length<=1000000000):(xh l g).run=some (l.any p):=by
 have key:(js l g (l.length:Int) 0).run=some (if PL.Z9 p 0 l = -1 then .inl ()else .inr (PL.Z9 p 0 l)):=by
  refine PL.Q0 l (zk q8) p (λi h hi hp => ?_) (λi h hi hp => ?_) (λi hi => ?_)
  ·have hm:=bP (d:=zk q8) h hi
   simp(disch:=omega) [xb,hi,hg _ hm,hp]
  ·have hm:=bP (d:=zk q8) h hi
   simp(disch:=omega) [xb,hi,hg _ hm,hp]
  ·simp[xb,hi]
 have hx:(wE l g).run=some (PL.Z9 p 0 l):=by
  unfold wE
  rw[z6 key]
  split<;>rename_i h<;>simp[h]
 unfold xh
 rw[z6 hx,z7,PL.WV _ _ _ (Int.le_refl 0)]
theorem VL(s:ze):(ke s).run=some (yy s):=by
 unfold ke yy
 cases zh s []with
 | true=>rfl
 | false=>rw[zg,z6 (xG s)]; rfl
theorem NA(f:Form)(h:FS f):(fR f).run=some (a1 f&&(a2 f&&a3 f)):=by
 have hn:=h.n
 have h1:(qK f.1 (λz0=>vE z0)).run=some (f.1.any Ua):=KI f.1 _ Ua (λx _=>by
  unfold vE Ua
  exact z01 (xG x.1)) (by omega)
 have h2:(qU f.2.1 (λz0=>vC z0)).run=some (f.2.1.any fU):=GJ f.2.1 _ fU (λx hx=>by
  have hr:=(h.p x hx).2
  have hr:wh 100000000 x.2.1:=⟨hr.1,hr.2.1,by have:=hr.2.2.1; omega,by have:=hr.2.2.2; omega⟩
  unfold vC fU
  exact XB (xG x.1) (XB (tO _ hr) (by rw[z6 (sS _ hr)]; rfl))) (by omega)
 have h3:(xe f.2.2.1 (λz0=>vD z0)).run=some (f.2.2.1.any WJ):=Cj f.2.2.1 _ WJ (λx hx=>by
  unfold vD WJ
  exact XB (xG x.1) (z01 (VL _))) (by omega)
 unfold fR a1 a2 a3
 rw[z6 h1]
 cases f.1.any Ua with
 | true=>rfl
 | false =>
  rw[za (by rfl),z6 h2]
  cases f.2.1.any fU with
  | true=>rfl
  | false=>rw[za (by rfl),z6 h3,z7]; rfl
theorem VR(pg at_ n:Int)(h:0<=at_):(gR pg at_ n).run=some (!(decide (pg<at_)||decide (n<=pg))):=by
 unfold gR
 have e1:mP at_ 0=at_:=by unfold mP; split<;>omega
 rw[e1,z7]
 by_cases q1:pg<at_<;>by_cases q2:n<=pg
 ·rw[decide_eq_true q1,decide_eq_false (by omega:¬ at_<=pg)]; rfl
 ·rw[decide_eq_true q1,decide_eq_false (by omega:¬ at_<=pg)]; rfl
 ·rw[decide_eq_true q2,decide_eq_false (by omega:¬ pg<n),Bool.and_false,Bool.or_true]; rfl
 ·rw[decide_eq_false q1,decide_eq_false q2,decide_eq_true (by omega:at_<=pg),decide_eq_true (by omega:pg<n)]; rfl
theorem Xh(f:Form)(h:FS f):(de f).run=some (a4 f):=by
 have hn:=h.n
 have key:(nI f f.2.2.2.1 (f.2.2.2.1.length:Int) (0,0)).run=some (if a4 f=true then .inl ()else .inr false):=by
  refine s9 (r:=uV f f.2.2.2.1 (f.2.2.2.1.length:Int)) f.2.2.2.1 (zk zN) (Xe (f.2.2.1.length:Int)) (λx=>x.2.1) (λat_ x h0 hb => ?_) (λk at_ x hk hx hm h0 => ?_) (λat_ => ?_)
  ·unfold Xe at hb
   rw[Bool.or_eq_false_iff,decide_eq_false_iff_not]at hb
   exact Int.le_trans h0 (Int.not_lt.1 hb.1)
  ·unfold uV
   dsimp only
   rw[za (uN hk),zb (qf hk),hx]
   refine(z6 (a:=(Xe (f.2.2.1.length:Int) at_ x,x)) ?_ _).trans ?_
   ·refine(oq (xG x.1) (oq (VR x.2.1 at_ _ h0) (N8 (z7 _)))).trans ?_
    unfold Xe
    cases zG x.1<;>cases decide (x.2.1<at_)<;>cases decide ((f.2.2.1.length:Int)<=x.2.1)<;>cases decide (x.2.2.2.1<(0:Int))<;>cases decide ((9:Int)<x.2.2.2.1)<;>rfl
   ·dsimp only
    cases Xe (f.2.2.1.length:Int) at_ x with
    | true=>rfl
    | false=>rw[zg,z7,iU k _ hk (by omega)]; rfl
  ·unfold uV
   dsimp only
   rw[z8 (kl _),z7]
 unfold de
 rw[z6 key]
 cases a4 f<;>rfl
theorem R8(x:qH)(h1:w6 x.2.2.2.1)(h2:w6 x.2.2.2.2.1):(w8 x).run=some (iQ x):=by
 unfold w8
 have e:(T.bind (xJ) λr2=>T.ite (decide ((Nat.cast (List.length r2):Int)<=x.2.1)) (.ret true) (T.bind (ke x.2.2.1) λr3=>T.ite (!r3) (.ret true) (T.bind (uA x.2.2.2.1) λr4=>T.ite (!r4) (.ret true) (T.bind (uA x.2.2.2.2.1) λr5=>.ret (!r5))))).run
   = some (decide ((4:Int)<=x.2.1)||(!yy x.2.2.1||(!xB 0 x.2.2.2.1 || !xB 0 x.2.2.2.2.1))):=by
  unfold xJ
  exact orB (XB (VL _) (XB (Qr h1) (z01 (Qr h2))))
 refine(XB (xG x.1) (orB e)).trans ?_
 unfold iQ
 rw[show decide ((4:Int)<=x.2.1)=decide ((3:Int)<x.2.1)from rfl]
 cases zG x.1<;>cases yy x.2.2.1<;>cases decide ((3:Int)<x.2.1)<;>cases decide (x.2.1<(0:Int))<;>rfl
theorem Xd(f:Form)(h:FS f):(dh f).run=some (a5 f&&a6 f):=by
 have hn:=h.n
 have key:(nP f f.2.2.2.2.2.1 (f.2.2.2.2.2.1.length:Int) (0,0)).run=some (if a5 f=true then .inl ()else .inr false):=by
  refine s9 (r:=uZ f f.2.2.2.2.2.1 (f.2.2.2.2.2.1.length:Int)) f.2.2.2.2.2.1 (zk zU) (Qk (f.2.2.1.length:Int)) (λx=>x.2.1) (λat_ x h0 hb => ?_) (λk at_ x hk hx hm h0 => ?_) (λat_ => ?_)
  ·unfold Qk at hb
   rw[Bool.or_eq_false_iff,decide_eq_false_iff_not]at hb
   exact Int.le_trans h0 (Int.not_lt.1 hb.1)
  ·obtain⟨_,x1,x2⟩:=h.c x hm
   unfold uZ
   dsimp only
   rw[za (uN hk),zb (qf hk),hx]
   simp only[fb]
   refine(z6 (a:=(Qk (f.2.2.1.length:Int) at_ x,x)) ?_ _).trans ?_
   ·have e:(T.bind (wQ) λr2=>T.ite (decide ((Nat.cast (List.length r2):Int)<=x.2.2.1)) (.ret (true,x)) (T.bind (uA x.2.2.2.1) λr3=>T.ite (!r3) (.ret (true,x)) (T.bind (uA x.2.2.2.2.1) λr4=>.ret ((!r4),x)))).run
      = some (decide ((3:Int)<=x.2.2.1)||(!xB 0 x.2.2.2.1 || !xB 0 x.2.2.2.2.1),x):=by
     unfold wQ
     exact N8 (oq (Qr x1) (z6r (Qr x2)))
    refine(oq (xG x.1) (oq (VR x.2.1 at_ _ h0) (N8 e))).trans ?_
    unfold Qk
    rw[show decide ((3:Int)<=x.2.2.1)=decide ((2:Int)<x.2.2.1)from rfl]
    cases zG x.1<;>cases decide (x.2.1<at_)<;>cases decide ((f.2.2.1.length:Int)<=x.2.1)<;>cases decide (x.2.2.1<(0:Int))<;>cases decide ((2:Int)<x.2.2.1)<;>rfl
   ·dsimp only
    cases Qk (f.2.2.1.length:Int) at_ x with
    | true=>rfl
    | false=>rw[zg,z7,iU k _ hk (by omega)]; rfl
  ·unfold uZ
   dsimp only
   rw[z8 (kl _),z7]
 have h3:(xh f.2.2.2.2.1 (λz0=>w8 z0)).run=some (f.2.2.2.2.1.any iQ):=Dc f.2.2.2.2.1 _ iQ (λx hx=>by
  obtain⟨_,_,x1,x2⟩:=h.r x hx
  exact R8 x x1 x2) (by omega)
 unfold dh
 rw[z6 key]
 cases a5 f with
 | false=>rfl
 | true =>
  rw[if_pos rfl,Sum.elim_inl,z6 h3,z7]
  rfl
theorem VH(s:ze)(h:s.length<=600):(eZ s).run=some (Kk s):=by
 unfold eZ Kk
 cases s with
 | nil=>rfl
 | cons b r=>rw[z8 (by rfl),zp _ (by simp only[List.length_cons,List.length_nil]at *; omega),z7,if_neg (by simp)]; rfl
theorem Ni(x:Field)(h:x.1.length<=600)(h1:ss 0 x.2.2.2.1)(h2:ss x.2.2.2.1 9):(iA x).run=some (Ph x):=by
 have hi:=z0b x.2.2.2.1 ⟨by unfold ss at *; omega,by unfold ss at *; omega⟩
 have hl:=Cm x.2.2.2.1 ⟨by unfold ss at *; omega,by unfold ss at *; omega⟩
 obtain⟨nm,pg,mu,sc,u⟩:=x
 have h:nm.length<=600:=h
 dsimp only at hi hl
 unfold iA Ph
 dsimp only
 have e:(bif mu then(cat (cat ([102,105,101,108,100,32]:ze) nm) ([32,109,117,115,116]:ze))else(cat ([102,105,101,108,100,32]:ze) nm))=fhS (nm,pg,mu,sc,u):=rfl
 have hf:(fhS (nm,pg,mu,sc,u)).length<=nm.length+11:=HB _
 rw[zp _ (by simp only[List.length_cons,List.length_nil]; omega),zb (λ_=>by simp only[zS,List.length_cons,List.length_nil]; omega),e]
 by_cases hs:ilt 0 sc
 ·rw[za (decide_eq_true hs),z6 hi,zp _ (by simp only[List.length_cons,List.length_nil]; omega),zp _ (by simp only[zS,List.length_cons,List.length_nil]; omega),zp _ (by simp only[zS,List.length_cons,List.length_nil]; omega),z7,if_pos hs]
  rfl
 ·rw[z8 (decide_eq_false hs),zp _ (by simp only[List.length_cons,List.length_nil]; omega),z7,if_neg hs]
  rfl
theorem YK(l r:Expr)(s:ze)(hs:s.length<=8)(h1:w6 l)(h2:w6 r)(o1:xB 0 l=true)(o2:xB 0 r=true):(cz l s r).run=some (Be l s r):=by
 have l1:=ca h1 o1
 have l2:=ca h2 o2
 unfold cz
 rw[z6 (MA h1 o1)]
 rw[zp _ (by simp only[List.length_cons,List.length_nil]; omega),zp _ (by simp only[zS,List.length_cons,List.length_nil]; omega),zp _ (by simp only[zS,List.length_cons,List.length_nil]; omega),zp _ (by simp only[zS,List.length_cons,List.length_nil]; omega)]
 rw[z6 (MA h2 o2)]
 rw[zp _ (by simp only[zS,List.length_cons,List.length_nil]; omega),zp _ (by simp only[zS,List.length_cons,List.length_nil]; omega),z7]
 rfl
theorem z2k(n:Int)(h:0<=n)(h2:n<=2):nth ([([61]:ze),([60]:ze),([60,61]:ze)]:List ze) n (zk .str)=ju n:=by
 have:n=0\/n=1\/n=2:=by omega
 rcases this with rfl | rfl | rfl<;>rfl
theorem z4h(n:Int)(h:0<=n)(h2:n<=3):nth ([([114,101,113,117,105,114,101,100]:ze),([115,116,114,111,110,103]:ze),([109,101,100,105,117,109]:ze),([119,101,97,107]:ze)]:List ze) n (zk .str)=cH n:=by
 have:n=0\/n=1\/n=2\/n=3:=by omega
 rcases this with rfl | rfl | rfl | rfl<;>rfl
theorem z0L(f:Form)(h:CC f)(i:Nat)(hi:i<f.2.2.1.length)(b:ze)(hb:b.length<=110000000000000):(cU f (i:Int) () (bytesOf b)).run=some ((),bytesOf (b++JX f i)):=by
 have hn:=h.n
 obtain⟨g1,g2⟩:=Mt h hi
 have hp:=LA _ g1 g2
 have hw:=fY (nth f.2.2.1 (i:Int) (zk zV)).2.1
 have k1:∀ s:ze,s.length<=115000000000000->(nR (i:Int) f f.2.2.2.1 (f.2.2.2.1.length:Int) (0,(),bytesOf s)).run=some ((),bytesOf (s++f.2.2.2.1.flatMap (Gp i))):=λs hs=>by
  refine lV (r:=uU (i:Int) f f.2.2.2.1 (f.2.2.2.1.length:Int)) f.2.2.2.1 (zk zN) 300000000 120000000000000 (Gp i) s (λk b x hk hx hm hb => ?_) (λb => ?_) (Qd h i) (by omega)
  ·unfold uU Gp
   dsimp only
   rw[za (uN hk),zb (qf hk),hx]
   cases hc:x.2.1==(i:Int)with
   | true =>
    have fl:=GD x (h.d x hm) (h.d2 x hm).1 (h.d2 x hm).2
    rw[zj,z6 (Ni x (h.d x hm) (h.d2 x hm).1 (h.d2 x hm).2),zJ _ rfl rfl rfl,T.zi,z6 (vZ (Ph x) b (by omega))]
    dsimp only
    rw[zJ _ rfl rfl rfl,T.zi,z7,iU k _ hk (by omega),if_pos rfl]
   | false =>
    rw[zg,zJ _ rfl rfl rfl,T.zi,z7,iU k _ hk (by omega),if_neg (by decide),List.append_nil]
  ·unfold uU
   dsimp only
   rw[z8 (kl _),zJ _ rfl rfl rfl,T.zi,z7]
 have k2:∀ s:ze,s.length<=120000000000000->(nL (i:Int) f.2.2.2.2.2.1 (f.2.2.2.2.2.1.length:Int) (0,(),bytesOf s)).run=some ((),bytesOf (s++f.2.2.2.2.2.1.flatMap (HG i))):=λs hs=>by
  refine lV (r:=uW (i:Int) f.2.2.2.2.2.1 (f.2.2.2.2.2.1.length:Int)) f.2.2.2.2.2.1 (zk zU) 300000000 130000000000000 (HG i) s (λk b x hk hx hm hb => ?_) (λb => ?_) (HT h i) (by omega)
  ·unfold uW HG
   dsimp only
   rw[za (uN hk),zb (qf hk),hx]
   cases hc:x.2.1==(i:Int)with
   | true =>
    obtain⟨q1,q2,q3⟩:=h.c x hm
    obtain⟨c1,c2,o1,o2⟩:=h.c2 x hm
    have cl:=IW x q1 q2 q3 o1 o2
    have hs:=YK x.2.2.2.1 x.2.2.2.2.1 (ju x.2.2.1) (by have:=pJ x.2.2.1; omega) q2 q3 o1 o2
    have sl:=V5 (ju x.2.2.1) (by have:=pJ x.2.2.1; omega) q2 q3 o1 o2
    unfold wQ
    rw[zj,zp _ (by simp only[List.length_cons,List.length_nil]; omega)]
    simp only[T.bind,fb]
    have c3:x.2.2.1<((3:Nat):Int):=Int.lt_of_le_of_lt c2 (by decide)
    rw[zb ⟨c1,c3⟩,z2k _ c1 c2,z6 hs,zp _ (by simp only[zS,List.length_cons,List.length_nil]; omega),zJ _ rfl rfl rfl,zb rfl]
    have e:cat (cat ([99,104,101,99,107,32]:ze) x.1) (Be x.2.2.2.1 (ju x.2.2.1) x.2.2.2.2.1)=Sw x:=rfl
    rw[e,z6 (vZ (Sw x) b (by omega))]
    dsimp only
    rw[zJ _ rfl rfl rfl,zb rfl,z7,iU k _ hk (by omega),if_pos trivial]
   | false =>
    rw[zg,zJ _ rfl rfl rfl,T.zi,z7,iU k _ hk (by omega),if_neg (by decide),List.append_nil]
  ·unfold uW
   dsimp only
   rw[z8 (kl _),zJ _ rfl rfl rfl,T.zi,z7]
 have l2:=uI (Gp i) f.2.2.2.1 300000000 (Qd h i)
 unfold cU
 rw[zb (qf hi),zp _ (by simp only[List.length_cons,List.length_nil]; omega),zb (qf hi),z6 (VH _ g2),zp _ (by simp only[zS,List.length_cons,List.length_nil]; omega),zp _ (by simp only[zS,List.length_cons,List.length_nil]; omega),zJ _ rfl rfl rfl,T.zi]
 have e:cat (cat (cat ([112,97,103,101,32]:ze) (nth f.2.2.1 (i:Int) (zk zV)).1) (Kk (nth f.2.2.1 (i:Int) (zk zV)).2.1)) ([10]:ze)=E8 (nth f.2.2.1 (i:Int) (zk zV)):=rfl
 rw[e,z6 (vZ _ b (by omega))]
 dsimp only
 rw[zJ _ rfl rfl rfl,T.zi,z6 (k1 _ (by rw[List.length_append]; omega))]
 dsimp only
 rw[zJ _ rfl rfl rfl,T.zi,z6 (k2 _ (by rw[List.length_append,List.length_append]; omega))]
 dsimp only
 rw[zJ _ rfl rfl rfl,T.zi,z7]
 unfold JX
 simp only[List.append_assoc]
theorem G0(n k:Nat)(h:k<n):nth (List.range n) (k:Int) 0=k:=by
 rw[kO (by rw[List.length_range]; exact h),List.getElem_range]
theorem BB{f:Form}(h:CC f):(f.1.flatMap YZ).length<=f.1.length*300000000:=uI YZ f.1 300000000 λx hx=>V0 x (h.s x hx)
theorem Cn{f:Form}(h:CC f):(f.2.1.flatMap JW).length<=f.2.1.length*300000000:=uI JW f.2.1 300000000 λx hx=>V7 x (h.p x hx).1 (h.p x hx).2
theorem BL{f:Form}(h:CC f):((List.range f.2.2.1.length).flatMap (JX f)).length<=f.2.2.1.length*181000000000:=by
 have:=uI (JX f) (List.range f.2.2.1.length) 181000000000 (λx hx=>Hv h (List.mem_range.1 hx))
 rwa [List.length_range]at this
theorem Dn{f:Form}(h:CC f):(f.2.2.2.2.1.flatMap Z8).length<=f.2.2.2.2.1.length*300000000:=uI Z8 f.2.2.2.2.1 300000000 λx hx=>by
 obtain⟨q1,q2,q3,q4⟩:=h.r x hx
 obtain⟨_,_,o1,o2⟩:=h.r2 x hx
 exact Va x q1 q2 q3 q4 o1 o2
theorem nU(f:Form)(h:CC f):(bW f).run=some (Gw f):=by
 have hn:=h.n
 have m1:=BB h
 have m2:=Cn h
 have m3:=BL h
 have m4:=Dn h
 have k1:(oB f f.1 (f.1.length:Int) (0,(),bytesOf [])).run=some ((),bytesOf ([]++f.1.flatMap YZ)):=by
  refine lV (r:=jT f f.1 (f.1.length:Int)) f.1 (zk zx) 300000000 110000000000000 YZ [] (λk b x hk hx hm hb => ?_) (λb => ?_) (λx hx=>V0 x (h.s x hx)) (by simp only[List.length_nil]; omega)
  ·have q:=h.s x hm
   have sl:=V0 x q
   have bl:(bif x.2.1 then([32,111,110,10]:ze)else[32,111,102,102,10]).length<=5:=by cases x.2.1<;>decide
   unfold jT
   dsimp only
   rw[za (uN hk),zb (qf hk),hx,zp _ (by simp only[List.length_cons,List.length_nil]; omega),zp _ (by simp only[zS,List.length_cons,List.length_nil]; omega),zJ _ rfl rfl rfl,T.zi]
   have e:cat (cat ([115,119,105,116,99,104,32]:ze) x.1) (bif x.2.1 then([32,111,110,10]:ze)else([32,111,102,102,10]:ze))=YZ x:=rfl
   rw[e,z6 (vZ (YZ x) b (by omega))]
   dsimp only
   rw[zJ _ rfl rfl rfl,T.zi,z7,iU k _ hk (by omega)]
  ·unfold jT
   dsimp only
   rw[z8 (kl _),zJ _ rfl rfl rfl,T.zi,z7]
 have k2:∀ s:ze,s.length<=190000000000->(oT f f.2.1 (f.2.1.length:Int) (0,(),bytesOf s)).run=some ((),bytesOf (s++f.2.1.flatMap JW)):=λs hs=>by
  refine lV (r:=jO f f.2.1 (f.2.1.length:Int)) f.2.1 (zk zM) 300000000 110000000000000 JW s (λk b x hk hx hm hb => ?_) (λb => ?_) (λx hx=>V7 x (h.p x hx).1 (h.p x hx).2) (by omega)
  ·obtain⟨q,hr⟩:=h.p x hm
   have hr:wh 1000 x.2.1:=⟨hr.1,hr.2.1,by have:=hr.2.2.1; omega,by have:=hr.2.2.2; omega⟩
   have sl:=V7 x q (h.p x hm).2
   have hd:(lI (x.2.1.1,(x.2.1.2.1,(x.2.1.2.2.1,())))).run=some (vg (norm x.2.1)):=K1 x.2.1 hr
   have pl:=tP _ hr
   unfold jO
   dsimp only
   rw[za (uN hk),zb (qf hk),hx,zp _ (by simp only[List.length_cons,List.length_nil]; omega),zp _ (by simp only[zS,List.length_cons,List.length_nil]; omega),z6 hd,zp _ (by simp only[zS,List.length_cons,List.length_nil]; omega),zp _ (by simp only[zS,List.length_cons,List.length_nil]; omega),zJ _ rfl rfl rfl,T.zi]
   have e:cat (cat (cat (cat ([112,97,114,97,109,32]:ze) x.1) ([32]:ze)) (vg (norm x.2.1))) ([10]:ze)=JW x:=rfl
   rw[e,z6 (vZ (JW x) b (by omega))]
   dsimp only
   rw[zJ _ rfl rfl rfl,T.zi,z7,iU k _ hk (by omega)]
  ·unfold jO
   dsimp only
   rw[z8 (kl _),zJ _ rfl rfl rfl,T.zi,z7]
 have k3:∀ s:ze,s.length<=380000000000->(pZ f (f.2.2.1.length:Int) (0,(),bytesOf s)).run=some ((),bytesOf (s++(List.range f.2.2.1.length).flatMap (JX f))):=λs hs=>by
  refine lV (r:=jX f (f.2.2.1.length:Int)) (List.range f.2.2.1.length) 0 181000000000 110000000000000 (JX f) s (λk b x hk hx hm hb => ?_) (λb => ?_) (λx hx=>Hv h (List.mem_range.1 hx)) (by rw[List.length_range]; omega)
  ·rw[List.length_range]at hk
   rw[G0 _ _ hk]at hx
   subst hx
   unfold jX
   dsimp only
   rw[za (uN hk),zJ _ rfl rfl rfl,T.zi,z6 (z0L f h k hk b (by omega))]
   dsimp only
   rw[zJ _ rfl rfl rfl,T.zi,z7,iU k _ hk (by omega)]
  ·unfold jX
   dsimp only
   rw[List.length_range,z8 (kl _),zJ _ rfl rfl rfl,T.zi,z7]
 have k4:∀ s:ze,s.length<=109000000000000->(oe f.2.2.2.2.1 (f.2.2.2.2.1.length:Int) (0,(),bytesOf s)).run=some ((),bytesOf (s++f.2.2.2.2.1.flatMap Z8)):=λs hs=>by
  refine lV (r:=jB f.2.2.2.2.1 (f.2.2.2.2.1.length:Int)) f.2.2.2.2.1 (zk q8) 300000000 110000000000000 Z8 s (λk b x hk hx hm hb => ?_) (λb => ?_) (λx hx=>by
   obtain⟨q1,q2,q3,q4⟩:=h.r x hx
   obtain⟨_,_,o1,o2⟩:=h.r2 x hx
   exact Va x q1 q2 q3 q4 o1 o2) (by omega)
  ·obtain⟨q1,q2,q3,q4⟩:=h.r x hm
   obtain⟨c1,c2,o1,o2⟩:=h.r2 x hm
   have rl:=Va x q1 q2 q3 q4 o1 o2
   have hs:=YK x.2.2.2.1 x.2.2.2.2.1 [61] (by decide) q3 q4 o1 o2
   have sl:=V5 [61] (by decide) q3 q4 o1 o2
   have tl:=oS x.2.1
   have wl:=fY x.2.2.1
   have c3:x.2.1<((4:Nat):Int):=Int.lt_of_le_of_lt c2 (by decide)
   unfold jB xJ
   dsimp only
   rw[za (uN hk),zb (qf hk),hx]
   simp only[T.bind,fb]
   rw[zb ⟨c1,c3⟩,z4h _ c1 c2,zp _ (by simp only[List.length_cons,List.length_nil]; omega),zp _ (by simp only[zS,List.length_cons,List.length_nil]; omega),zp _ (by simp only[zS,List.length_cons,List.length_nil]; omega),z6 (VH _ q2),
    zp _ (by simp only[zS,List.length_cons,List.length_nil]; omega),z6 hs,zp _ (by simp only[zS,List.length_cons,List.length_nil]; omega),zJ _ rfl rfl rfl,zb rfl]
   have e:cat (cat (cat (cat (cat ([114,117,108,101,32]:ze) (cH x.2.1)) ([32]:ze)) x.1) (Kk x.2.2.1)) (Be x.2.2.2.1 [61] x.2.2.2.2.1)=Z8 x:=rfl
   rw[e,z6 (vZ (Z8 x) b (by omega))]
   dsimp only
   rw[zJ _ rfl rfl rfl,zb rfl,z7,iU k _ hk (by omega)]
  ·unfold jB
   dsimp only
   rw[z8 (kl _),zJ _ rfl rfl rfl,T.zi,z7]
 unfold bW
 rw[zJ _ rfl rfl rfl,T.zi]
 refine(z6 k1 _).trans ?_
 dsimp only
 rw[List.nil_append,zJ _ rfl rfl rfl,T.zi,z6 (k2 _ (by omega))]
 dsimp only
 rw[zJ _ rfl rfl rfl,T.zi,z6 (k3 _ (by rw[List.length_append]; omega))]
 dsimp only
 rw[zJ _ rfl rfl rfl,T.zi,z6 (k4 _ (by simp only[List.length_append]; omega))]
 dsimp only
 rw[zJ _ rfl rfl rfl,T.zi,z6 (Kl _ (by simp only[List.length_append]; omega))]
 rfl
def cY(f:Form):Bool:=a1 f&&(a2 f&&(a3 f&&(a4 f&&(a5 f&&(a6 f&&decide (((Gw f).length:Int)<=16384))))))
theorem ZT(f:Form)(h:FS f):(lh f).run=some (cY f):=by
 unfold lh cY
 rw[z6 (NA f h)]
 cases a1 f with
 | false=>rfl
 | true =>
 cases a2 f with
 | false=>rfl
 | true =>
 cases a3 f with
 | false=>rfl
 | true =>
 rw[za (by rfl),z6 (Xh f h)]
 cases h4:a4 f with
 | false=>rfl
 | true =>
 rw[za (by rfl),z6 (Xd f h)]
 cases h5:a5 f with
 | false=>rfl
 | true =>
 cases h6:a6 f with
 | false=>rfl
 | true =>
 rw[za (by rfl),z6 (nU f (UM h h4 h5 h6)),z7]
 rfl
theorem z6T{r:Rat}(hr:wh 100 r):wh 100000000 r:=⟨hr.1,hr.2.1,by have:=hr.2.2.1; omega,by have:=hr.2.2.2; omega⟩
theorem MD{r:Rat}(hr:wh 100 r):wh 1000 r:=⟨hr.1,hr.2.1,by have:=hr.2.2.1; omega,by have:=hr.2.2.2; omega⟩
theorem Yn(s:ze):(eE s).run=some (yy s):=by
 unfold eE yy
 cases zh s []with
 | true=>rfl
 | false=>rw[zg,z6 (vq s)]; rfl
theorem J6(f:Form)(h:FS f):(nc f).run=some (a4 f&&a5 f):=by
 have hn:=h.n
 have k1:(sX f (0,0)).run=some (if a4 f=true then .inl ()else .inr false):=by
  refine s9 (r:=yb f) f.2.2.2.1 (zk zN) (Xe (f.2.2.1.length:Int)) (λx=>x.2.1) (λat_ x h0 hb => ?_) (λk at_ x hk hx hm h0 => ?_) (λat_ => ?_)
  ·unfold Xe at hb
   rw[Bool.or_eq_false_iff,decide_eq_false_iff_not]at hb
   exact Int.le_trans h0 (Int.not_lt.1 hb.1)
  ·unfold yb
   dsimp only
   rw[za (uN hk),zb (qf hk),hx]
   refine(z6 (a:=(Xe (f.2.2.1.length:Int) at_ x,x)) ?_ _).trans ?_
   ·exact N8 (N8 (oq (vq x.1) (N8 (z7 _))))
   ·dsimp only
    cases Xe (f.2.2.1.length:Int) at_ x with
    | true=>rfl
    | false=>rw[zg,z7,iU k _ hk (by omega)]; rfl
  ·unfold yb
   dsimp only
   rw[z8 (kl _),z7]
 have k2:(te f (0,0)).run=some (if a5 f=true then .inl ()else .inr false):=by
  refine s9 (r:=kX f) f.2.2.2.2.2.1 (zk zU) (Qk (f.2.2.1.length:Int)) (λx=>x.2.1) (λat_ x h0 hb => ?_) (λk at_ x hk hx hm h0 => ?_) (λat_ => ?_)
  ·unfold Qk at hb
   rw[Bool.or_eq_false_iff,decide_eq_false_iff_not]at hb
   exact Int.le_trans h0 (Int.not_lt.1 hb.1)
  ·obtain⟨_,x1,x2⟩:=h.c x hm
   unfold kX
   dsimp only
   rw[za (uN hk),zb (qf hk),hx]
   simp only[fb]
   refine(z6 (a:=(Qk (f.2.2.1.length:Int) at_ x,x)) ?_ _).trans ?_
   ·exact N8 (N8 (oq (vq x.1) (N8 (N8 (oq (ox x1) (z6r (ox x2)))))))
   ·dsimp only
    cases Qk (f.2.2.1.length:Int) at_ x with
    | true=>rfl
    | false=>rw[zg,z7,iU k _ hk (by omega)]; rfl
  ·unfold kX
   dsimp only
   rw[z8 (kl _),z7]
 unfold nc
 rw[z6 k1]
 cases a4 f with
 | false=>rfl
 | true =>
  rw[if_pos rfl,Sum.elim_inl,z6 k2]
  cases a5 f<;>rfl
theorem sL(s:ze)(h:s.length<=600):(rP s).run=some (Kk s):=VH s h
theorem Z4(n:Int)(h1:1<=n)(h2:n<=9):qG [Bg (zF (48+n))]=cQ n:=by
 have:n=1\/n=2\/n=3\/n=4\/n=5\/n=6\/n=7\/n=8\/n=9:=by omega
 have e:∀ k:Nat,k<10->cQ (k:Int)=[UInt8.ofNat (48+k)]:=λk hk=>by
  unfold cQ
  rw[if_neg (by omega),Int.toNat_natCast,AM.VK,dif_pos hk]
 rcases this with rfl | rfl | rfl | rfl | rfl | rfl | rfl | rfl | rfl
 ·exact(e 1 (by decide)).symm
 ·exact(e 2 (by decide)).symm
 ·exact(e 3 (by decide)).symm
 ·exact(e 4 (by decide)).symm
 ·exact(e 5 (by decide)).symm
 ·exact(e 6 (by decide)).symm
 ·exact(e 7 (by decide)).symm
 ·exact(e 8 (by decide)).symm
 ·exact(e 9 (by decide)).symm
theorem JM(x:Field)(h:x.1.length<=600)(h1:ss 0 x.2.2.2.1)(h2:ss x.2.2.2.1 9):(mX x).run=some (Ph x):=by
 have hi:=λh0:ss 1 x.2.2.2.1=>Z4 x.2.2.2.1 h0 h2
 have hb:(qG ([(Bg (zF ((48:Int)+x.2.2.2.1)))]:List Int)).length=1:=rfl
 have hz:¬ ilt 0 x.2.2.2.1->x.2.2.2.1=(0:Int):=λq=>Int.le_antisymm (Int.not_lt.1 q) h1
 have ho:ilt 0 x.2.2.2.1->ss 1 x.2.2.2.1:=λq=>by unfold ss ilt at *; omega
 have hf:(fhS x).length<=x.1.length+11:=HB _
 unfold mX Ph
 have e:(bif x.2.2.1 then(cat (cat ([102,105,101,108,100,32]:ze) x.1) ([32,109,117,115,116]:ze))else(cat ([102,105,101,108,100,32]:ze) x.1))=fhS x:=rfl
 rw[zp _ (by simp only[List.length_cons,List.length_nil]; omega),zb (λ_=>by simp only[zS,List.length_cons,List.length_nil]; omega),e]
 clear e
 by_cases hs:ilt 0 x.2.2.2.1
 ·have vM:(x.2.2.2.1 != (0:Int))=true:=by
   rw[bne_iff_ne]; intro q; unfold ilt at hs; rw[q]at hs; exact absurd hs (by decide)
  rw[za vM,zp _ (by simp only[List.length_cons,List.length_nil]; omega),zp _ (by simp only[zS,List.length_cons,List.length_nil]; omega),zp _ (by simp only[zS,List.length_cons,List.length_nil]; omega),z7,if_pos hs,hi (ho hs)]
  simp only[jc,List.append_assoc]
 ·have vM:(x.2.2.2.1 != (0:Int))=false:=by rw[hz hs]; rfl
  rw[z8 vM,zp _ (by simp only[List.length_cons,List.length_nil]; omega),z7,if_neg hs]
  rfl
theorem z1T(n:Int):(ZK n).run=some (ju n):=by
 unfold ZK ju
 by_cases h1:n=1
 ·rw[if_pos h1,za (by rw[h1]; rfl),z7]
 ·rw[if_neg h1,z8 (by simpa using h1)]
  by_cases h2:n=2
  ·rw[if_pos h2,za (by rw[h2]; rfl),z7]
  ·rw[if_neg h2,z8 (by simpa using h2),z7]
theorem ZF(n:Int):(ya n).run=some (cH n):=by
 unfold ya cH
 by_cases h0:n=0
 ·rw[if_pos h0,za (by rw[h0]; rfl),z7]
 ·rw[if_neg h0,z8 (by simpa using h0)]
  by_cases h1:n=1
  ·rw[if_pos h1,za (by rw[h1]; rfl),z7]
  ·rw[if_neg h1,z8 (by simpa using h1)]
   by_cases h2:n=2
   ·rw[if_pos h2,za (by rw[h2]; rfl),z7]
   ·rw[if_neg h2,z8 (by simpa using h2),z7]
theorem sF(f:Form)(h:CC f):(lZ f).run=some (Gw f):=by
 have hn:=h.n
 have m1:=BB h
 have m2:=Cn h
 have m3:=BL h
 have m4:=Dn h
 have k1:(QH f ([],0)).run=some ([]++f.1.flatMap YZ):=by
  refine l8 (r:=gX f) f.1 (zk zx) 300000000 110000000000000 YZ [] (λk b x hk hx hm hb => ?_) (λb => ?_) (λx hx=>V0 x (h.s x hx)) (by simp only[List.length_nil]; omega)
  ·have q:=h.s x hm
   have bl:(bif x.2.1 then([32,111,110,10]:ze)else[32,111,102,102,10]).length<=5:=by cases x.2.1<;>decide
   unfold gX
   dsimp only
   rw[hx,za (uN hk),zb (qf hk),zp _ (by simp only[zS,List.length_cons,List.length_nil]; omega),zb (qf hk),zp _ (by simp only[zS,List.length_cons,List.length_nil]; omega),zp _ (by simp only[zS,List.length_cons,List.length_nil]; omega),z7,iU k _ hk (by omega)]
   unfold YZ
   simp only[jc,List.append_assoc]
  ·unfold gX
   dsimp only
   rw[z8 (kl _),z7]
 have k2:∀ s:ze,s.length<=190000000000->(Q5 f (s,0)).run=some (s++f.2.1.flatMap JW):=λs hs=>by
  refine l8 (r:=gY f) f.2.1 (zk zM) 300000000 110000000000000 JW s (λk b x hk hx hm hb => ?_) (λb => ?_) (λx hx=>V7 x (h.p x hx).1 (h.p x hx).2) (by omega)
  ·obtain⟨q,hr⟩:=h.p x hm
   have hr:=MD hr
   have pl:=tP _ hr
   unfold gY
   dsimp only
   rw[hx,za (uN hk),zp _ (by simp only[zS,List.length_cons,List.length_nil]; omega),zb (qf hk),zp _ (by simp only[zS,List.length_cons,List.length_nil]; omega),zp _ (by simp only[zS,List.length_cons,List.length_nil]; omega),zb (qf hk),z6 (Ul _ hr),
    zp _ (by simp only[zS,List.length_cons,List.length_nil]; omega),zp _ (by simp only[zS,List.length_cons,List.length_nil]; omega),z7,iU k _ hk (by omega)]
   unfold JW
   simp only[jc,List.append_assoc]
  ·unfold gY
   dsimp only
   rw[z8 (kl _),z7]
 have j1:∀ (i:Nat) (s:ze),s.length<=115000000000000->(Zk f (i:Int) (s,0)).run=some (s++f.2.2.2.1.flatMap (Gp i)):=λi s hs=>by
  refine l8 (r:=gP f (i:Int)) f.2.2.2.1 (zk zN) 300000000 120000000000000 (Gp i) s (λk b x hk hx hm hb => ?_) (λb => ?_) (Qd h i) (by omega)
  ·unfold gP Gp
   dsimp only
   rw[hx,za (uN hk),zb (qf hk)]
   cases hc:x.2.1==(i:Int)with
   | true =>
    have fl:=GD x (h.d x hm) (h.d2 x hm).1 (h.d2 x hm).2
    rw[zj,zb (qf hk),z6 (JM x (h.d x hm) (h.d2 x hm).1 (h.d2 x hm).2),zp _ (by omega),z7,iU k _ hk (by omega),if_pos rfl,jc]
   | false=>rw[zg,z7,iU k _ hk (by omega),if_neg (by decide),List.append_nil]
  ·unfold gP
   dsimp only
   rw[z8 (kl _),z7]
 have j2:∀ (i:Nat) (s:ze),s.length<=120000000000000->(Qt f (i:Int) (s,0)).run=some (s++f.2.2.2.2.2.1.flatMap (HG i)):=λi s hs=>by
  refine l8 (r:=hZ f (i:Int)) f.2.2.2.2.2.1 (zk zU) 300000000 130000000000000 (HG i) s (λk b x hk hx hm hb => ?_) (λb => ?_) (HT h i) (by omega)
  ·unfold hZ HG
   dsimp only
   rw[hx,za (uN hk),zb (qf hk)]
   simp only[fb]
   cases hc:x.2.1==(i:Int)with
   | true =>
    obtain⟨q1,q2,q3⟩:=h.c x hm
    obtain⟨c1,c2,o1,o2⟩:=h.c2 x hm
    have p1:=ca q2 o1
    have p2:=ca q3 o2
    have cl:=pJ x.2.2.1
    rw[zj,zp _ (by simp only[zS,List.length_cons,List.length_nil]; omega),zp _ (by simp only[zS,List.length_cons,List.length_nil]; omega),zp _ (by simp only[zS,List.length_cons,List.length_nil]; omega),z6 (Zg q2 o1),
     zp _ (by simp only[zS,List.length_cons,List.length_nil]; omega),zp _ (by simp only[zS,List.length_cons,List.length_nil]; omega),z6 (z1T _),zp _ (by simp only[zS,List.length_cons,List.length_nil]; omega),zp _ (by simp only[zS,List.length_cons,List.length_nil]; omega),
     z6 (Zg q3 o2),zp _ (by simp only[zS,List.length_cons,List.length_nil]; omega),zp _ (by simp only[zS,List.length_cons,List.length_nil]; omega),z7,iU k _ hk (by omega),if_pos rfl]
    unfold Sw Be
    simp only[jc,List.append_assoc]
   | false=>rw[zg,z7,iU k _ hk (by omega),if_neg (by decide),List.append_nil]
  ·unfold hZ
   dsimp only
   rw[z8 (kl _),z7]
 have k3:∀ s:ze,s.length<=380000000000->(ZI f (s,0)).run=some (s++(List.range f.2.2.1.length).flatMap (JX f)):=λs hs=>by
  refine l8 (r:=gn f) (List.range f.2.2.1.length) 0 181000000000 110000000000000 (JX f) s (λk b x hk hx hm hb => ?_) (λb => ?_) (λx hx=>Hv h (List.mem_range.1 hx)) (by rw[List.length_range]; omega)
  ·rw[List.length_range]at hk
   rw[G0 _ _ hk]at hx
   subst hx
   obtain⟨g1,g2⟩:=Mt h hk
   have hw:=fY (nth f.2.2.1 (k:Int) (zk zV)).2.1
   have fl:=uI (Gp k) f.2.2.2.1 300000000 (Qd h k)
   unfold gn
   dsimp only
   rw[za (uN hk),zp _ (by simp only[zS,List.length_cons,List.length_nil]; omega),zb (qf hk),zp _ (by simp only[zS,List.length_cons,List.length_nil]; omega),zb (qf hk),z6 (sL _ g2),zp _ (by simp only[zS,List.length_cons,List.length_nil]; omega),zp _ (by simp only[zS,List.length_cons,List.length_nil]; omega),
    z6 (j1 k _ (by simp only[zS,List.length_cons,List.length_nil]; omega)),z6 (j2 k _ (by simp only[List.length_append,zS,List.length_cons,List.length_nil]; omega)),z7,iU k _ hk (by omega)]
   unfold JX E8
   simp only[jc,List.append_assoc]
  ·unfold gn
   dsimp only
   rw[List.length_range,z8 (kl _),z7]
 have k4:∀ s:ze,s.length<=109000000000000->(QO f (s,0)).run=some (s++f.2.2.2.2.1.flatMap Z8):=λs hs=>by
  refine l8 (r:=gw f) f.2.2.2.2.1 (zk q8) 300000000 110000000000000 Z8 s (λk b x hk hx hm hb => ?_) (λb => ?_) (λx hx=>by
   obtain⟨q1,q2,q3,q4⟩:=h.r x hx
   obtain⟨_,_,o1,o2⟩:=h.r2 x hx
   exact Va x q1 q2 q3 q4 o1 o2) (by omega)
  ·obtain⟨q1,q2,q3,q4⟩:=h.r x hm
   obtain⟨c1,c2,o1,o2⟩:=h.r2 x hm
   have p1:=ca q3 o1
   have p2:=ca q4 o2
   have tl:=oS x.2.1
   have wl:=fY x.2.2.1
   unfold gw
   dsimp only
   rw[hx,za (uN hk),zb (qf hk)]
   simp only[fb]
   rw[zp _ (by simp only[zS,List.length_cons,List.length_nil]; omega),z6 (ZF _),zp _ (by simp only[zS,List.length_cons,List.length_nil]; omega),zp _ (by simp only[zS,List.length_cons,List.length_nil]; omega),zp _ (by simp only[zS,List.length_cons,List.length_nil]; omega),z6 (sL _ q2),
    zp _ (by simp only[zS,List.length_cons,List.length_nil]; omega),zp _ (by simp only[zS,List.length_cons,List.length_nil]; omega),z6 (Zg q3 o1),zp _ (by simp only[zS,List.length_cons,List.length_nil]; omega),zp _ (by simp only[zS,List.length_cons,List.length_nil]; omega),z6 (Zg q4 o2),
    zp _ (by simp only[zS,List.length_cons,List.length_nil]; omega),zp _ (by simp only[zS,List.length_cons,List.length_nil]; omega),z7,iU k _ hk (by omega)]
   unfold Z8 Be
   simp only[jc,List.append_assoc,List.cons_append,List.nil_append]
  ·unfold gw
   dsimp only
   rw[z8 (kl _),z7]
 unfold lZ
 rw[z6 k1,List.nil_append,z6 (k2 _ (by omega)),z6 (k3 _ (by rw[List.length_append]; omega)),z6 (k4 _ (by simp only[List.length_append]; omega)),z7]
 rfl
theorem p7(f:Form)(h:FS f):(Qn f).run=some (cY f):=by
 have hn:=h.n
 have k1:(UD f 0).run=some (if f.1.any Ua=true then .inr false else .inl ()):=by
  refine Zi (r:=dV f) f.1 (zk zx) Ua (λk x hk hx hm => ?_) ?_
  ·unfold dV Ua
   dsimp only
   rw[za (uN hk),zb (qf hk),hx,z6 (vq x.1)]
   cases zG x.1 with
   | true=>rw[z8 (by rfl),z7,iU k _ hk (by omega)]; rfl
   | false=>rfl
  ·unfold dV
   rw[z8 (kl _),z7]
 have k2:(U8 f 0).run=some (if f.2.1.any fU=true then .inr false else .inl ()):=by
  refine Zi (r:=dP f) f.2.1 (zk zM) fU (λk x hk hx hm => ?_) ?_
  ·unfold dP
   dsimp only
   rw[za (uN hk)]
   refine(z6 (a:=fU x) ?_ _).trans ?_
   ·rw[zb (qf hk),hx]
    refine(XB (vq x.1) ((zb (qf hk) _).trans (z01 (sQ _ (z6T (h.p x hm).2))))).trans ?_
    unfold fU
    cases ep x.2.1<;>cases um x.2.1<;>rfl
   ·cases fU x with
    | true=>rfl
    | false=>rw[zg,z7,iU k _ hk (by omega)]; rfl
  ·unfold dP
   rw[z8 (kl _),z7]
 have k3:(Jt f 0).run=some (if f.2.2.1.any WJ=true then .inr false else .inl ()):=by
  refine Zi (r:=fq f) f.2.2.1 (zk zV) WJ (λk x hk hx hm => ?_) ?_
  ·unfold fq
   dsimp only
   rw[za (uN hk)]
   refine(z6 (a:=WJ x) ?_ _).trans ?_
   ·rw[zb (qf hk),hx]
    exact XB (vq x.1) ((zb (qf hk) _).trans (z01 (Yn _)))
   ·cases WJ x with
    | true=>rfl
    | false=>rw[zg,z7,iU k _ hk (by omega)]; rfl
  ·unfold fq
   rw[z8 (kl _),z7]
 have k4:(U9 f 0).run=some (if f.2.2.2.2.1.any iQ=true then .inr false else .inl ()):=by
  refine Zi (r:=eQ f) f.2.2.2.2.1 (zk q8) iQ (λk x hk hx hm => ?_) ?_
  ·obtain⟨_,_,x1,x2⟩:=h.r x hm
   unfold eQ
   dsimp only
   rw[za (uN hk),zb (qf hk),hx]
   simp only[fb]
   refine(z6 (a:=(iQ x,x)) ?_ _).trans ?_
   ·exact oq (vq x.1) (oq (Yn _) (N8 (N8 (oq (ox x1) (z6r (ox x2))))))
   ·dsimp only
    cases iQ x with
    | true=>rfl
    | false=>rw[zg,z7,iU k _ hk (by omega)]; rfl
  ·unfold eQ
   rw[z8 (kl _),z7]
 unfold Qn cY
 rw[z6 k1]
 have e1:a1 f = !f.1.any Ua:=rfl
 have e2:a2 f = !f.2.1.any fU:=rfl
 have e3:a3 f = !f.2.2.1.any WJ:=rfl
 have e6:a6 f = !f.2.2.2.2.1.any iQ:=rfl
 rw[e1,e2,e3]
 cases f.1.any Ua with
 | true=>rfl
 | false =>
 rw[if_neg (by decide),Sum.elim_inl,z6 k2]
 cases f.2.1.any fU with
 | true=>rfl
 | false =>
 rw[if_neg (by decide),Sum.elim_inl,z6 k3]
 cases f.2.2.1.any WJ with
 | true=>rfl
 | false =>
 rw[if_neg (by decide),Sum.elim_inl,z6 k4]
 cases q6:f.2.2.2.2.1.any iQ with
 | true=>rw[e6,q6]; cases a4 f<;>cases a5 f<;>rfl
 | false =>
 rw[if_neg (by decide),Sum.elim_inl,z6 (J6 f h)]
 cases h4:a4 f with
 | false=>rfl
 | true =>
 cases h5:a5 f with
 | false=>rfl
 | true =>
 have h6:a6 f=true:=by rw[e6,q6]; rfl
 rw[za (by rfl),z6 (sF f (UM h h4 h5 h6)),z7,h6]
 rfl
end Go.AM.Lf
namespace Go.AM
theorem T.LH{σ ρ:Type}{b:(σ->T ρ)->σ->T ρ}(R:Nat->σ->ρ->Prop)(h0:∀ x y,¬ R 0 x y)
  (h:∀ n x y,R (n+1) x y->∀ g:σ->T ρ,(∀ x' y',R n x' y'->(g x').run=some y')->(b g x).run=some y) {n:Nat} {x:σ} {y:ρ} (hx:R n x y):(T.fix b x).run=some y:=by
 rw[wq,lN]
 refine⟨n,λm hm => ?_⟩
 induction n generalizing m x y with
 | zero=>exact absurd hx (h0 _ _)
 | succ n ih =>
  cases m with
  | zero=>omega
  | succ m =>
   rw[<- wq]
   exact h n x y hx (BF b m) λx' y' hr=>by rw[wq]; exact ih hr m (by omega)
end Go.AM
namespace Go.AM.PL
def yg:ze->ze
 | []=>[]
 | c::r=>if c=32 then yg r else c::r
def ga(p:UInt8->Bool):Nat->ze->ze×ze
 | 0,r=>([],r)
 | _+1,[]=>([],[])
 | n+1,c::r=>if p c=true then(c::(ga p n r).1,(ga p n r).2)else([],c::r)
theorem Q1(p:UInt8->Bool):∀ (n:Nat) (r:ze),(ga p n r).1++(ga p n r).2=r
 | 0,r=>rfl
 | _+1,[]=>rfl
 | n+1,c::r=>by
  unfold ga
  split
  ·rw[List.cons_append,Q1 p n r]
  ·rfl
theorem JH(p:UInt8->Bool):∀ (n:Nat) (r:ze),r.length<=n->ga p n r=(r.takeWhile p,r.dropWhile p)
 | 0,[],_=>rfl
 | 0,c::r,h=>by simp at h
 | _+1,[],_=>rfl
 | n+1,c::r,h=>by
  unfold ga
  rw[JH p n r (by simp at h; omega)]
  cases hp:p c with
  | true=>simp[hp]
  | false=>simp[hp]
theorem dq:∀ (r:ze),yg r <:+ r
 | []=>List.suffix_refl _
 | c::r=>by
  unfold yg
  split
  ·exact List.IsSuffix.trans (dq r) (List.suffix_cons c r)
  ·exact List.suffix_refl _
theorem DE:∀ (r:ze) (c:UInt8) (q:ze),yg r=c::q->c≠32
 | [],_,_,h=>by cases h
 | b::r,c,q,h=>by
  unfold yg at h
  split at h
  ·exact DE r c q h
  ·cases h; assumption
theorem BR(r:ze):yg (yg r)=yg r:=by
 cases h:yg r with
 | nil=>rfl
 | cons c q=>unfold yg; rw[if_neg (DE r c q h)]
theorem HJ(r:ze):(yg r).length<=r.length:=(dq r).length_le
theorem Uo(p:UInt8->Bool)(n:Nat)(r:ze):(ga p n r).2 <:+ r:=⟨(ga p n r).1,Q1 p n r⟩
def vB(s r:ze):Nat:=s.length-r.length
theorem Og(s:ze):vB s s=0:=by unfold vB; omega
theorem RZ(s:ze):vB s []=s.length:=rfl
theorem gx{c:UInt8}{r s:ze}(h:(c::r) <:+ s):r <:+ s:=List.IsSuffix.trans (List.suffix_cons c r) h
theorem yJ{c:UInt8}{r s:ze}(h:(c::r) <:+ s):vB s r=vB s (c::r)+1/\vB s (c::r)<s.length:=by
 have:=h.length_le
 simp only[List.length_cons]at this
 unfold vB; simp only[List.length_cons]; omega
theorem RO{r s:ze}(h:r <:+ s):s.drop (vB s r)=r:=by
 obtain⟨t,rfl⟩:=h
 unfold vB
 rw[List.length_append,Nat.add_sub_cancel,List.drop_left]
theorem c7{c:UInt8}{r s:ze}(h:(c::r) <:+ s):qo s ((vB s (c::r):Nat):Int)=(c.toNat:Int):=by
 have h1:=yJ h
 rw[yA h1.2]
 have h2:=RO h
 rw[List.drop_eq_getElem_cons h1.2]at h2
 injection h2 with h2 _
 rw[h2]
theorem z3F{r q s:ze}(h:r <:+ q)(h2:q <:+ s):vB s q<=vB s r:=by
 have:=h.length_le; unfold vB; omega
theorem z03{a r q s:ze}(h:r <:+ s)(e:a++q=r):vw ((vB s r:Nat):Int) ((vB s q:Nat):Int) s=a:=by
 subst e
 obtain⟨t,rfl⟩:=h
 unfold vw vB
 rw[Int.toNat_natCast,Int.toNat_natCast]
 simp only[List.length_append]
 rw[show t.length+(a.length+q.length)-q.length=t.length+a.length by omega,show t.length+(a.length+q.length)-(a.length+q.length)=t.length by omega,<- List.append_assoc,<- List.length_append,List.take_left,List.drop_left]
theorem By:∀ (l:ze) (c:UInt8),decide ((0:Int)<=o0 l c)=l.contains c
 | [],_=>rfl
 | b::l,c=>by
  have ih:=By l c
  unfold o0
  rw[List.contains_cons]
  by_cases h:b=c
  ·subst h; simp
  ·have h':(b==c)=false:=by simpa using h
   have h'':(c==b)=false:=by simpa using λe:c=b=>h e.symm
   rw[h',h'',Bool.false_or,<- ih]
   have hge:∀ l:ze,o0 l c = -1\/0<=o0 l c:=by
    intro l
    induction l with
    | nil=>exact .inl rfl
    | cons x l ih =>
     unfold o0
     split
     ·right; omega
     ·split
      ·left; rfl
      ·right
       rename_i vM
       rcases ih with h | h
       ·exact absurd (by simpa using h) vM
       ·omega
   rcases hge l with h | h
   ·rw[h]; rfl
   ·have:(o0 l c == -1)=false:=by simp; omega
    simp only[this,Bool.false_eq_true,if_false]
    rw[decide_eq_true (by omega),decide_eq_true (by omega)]
theorem Vq(c:UInt8):byteOf (c.toNat:Int)=c:=by unfold byteOf; simp
end Go.AM.PL
namespace Go.AM.Lf
open PL
def qB(s r:ze)(d:Nat)(l:Bool):zc:=(s,((vB s r:Nat):Int),(d:Int),l,())
theorem wV(s r:ze)(d:Nat)(l:Bool):(qB s r d l).1=s:=rfl
theorem vT(s r:ze)(d:Nat)(l:Bool):(qB s r d l).2.1=((vB s r:Nat):Int):=rfl
theorem VJ(s r:ze)(d:Nat)(l:Bool):(qB s r d l).2.2.1=(d:Int):=rfl
theorem US{s r:ze}{c:UInt8}(d:Nat)(l:Bool)(h:(c::r) <:+ s)(hs:s.length<=1000000):((s,zF (((vB s (c::r):Nat):Int)+1),(d:Int),l,()):zc)=qB s r d l:=by
 have:=yJ h
 unfold qB
 rw[zA (by omega) (by omega),this.1]
 rfl
theorem Ze{s r:ze}{c:UInt8}(h:(c::r) <:+ s):decide (((vB s (c::r):Nat):Int)<(s.length:Int))=true:=decide_eq_true (by have:=yJ h; omega)
theorem VC(s:ze):decide (((vB s []:Nat):Int)<(s.length:Int))=false:=by rw[RZ]; exact decide_eq_false (by omega)
theorem mU{s r:ze}{c:UInt8}(h:(c::r) <:+ s):qw ((vB s (c::r):Nat):Int) s.length:=⟨by omega,by have:=yJ h; omega⟩
theorem z1y(c b:UInt8):((c.toNat:Int)==(b.toNat:Int))=decide (c=b):=by
 by_cases h:c=b
 ·subst h; simp
 ·rw[decide_eq_false h]
  simp only[beq_eq_false_iff_ne,ne_eq]
  intro e
  exact h (UInt8.toNat_inj.1 (by omega))
theorem XW(s:ze)(hs:s.length<=1000000)(d:Nat)(l:Bool):∀ (r:ze),r <:+ s->(yT (qB s r d l)).run=some (qB s (yg r) d l)
 | [],_=>by
  refine qz ?_
  unfold xO
  dsimp only
  rw[vT,wV,VC,zb (λh=>by cases h),z8 (by rfl),z7]
  rfl
 | c::r,h=>by
  have e:(xO (qB s (c::r) d l)).run=some (if c=32 then .inl (qB s r d l)else .inr (qB s (c::r) d l)):=by
   unfold xO
   dsimp only
   rw[vT,wV,Ze h,zb (λ_=>mU h),Bool.true_and,c7 h,show((c.toNat:Int)==32)=decide (c=32)from z1y c 32]
   by_cases hc:c=32
   ·rw[za (by simpa using hc),z7,if_pos hc]
    show some (Sum.inl (s,zF (((vB s (c::r):Nat):Int)+1),(d:Int),l,()))=_
    rw[US d l h hs]
   ·rw[z8 (by simpa using hc),z7,if_neg hc]
  unfold yg
  by_cases hc:c=32
  ·rw[if_pos hc]at e ⊢
   exact(vu e).trans (XW s hs d l r (gx h))
  ·rw[if_neg hc]at e ⊢
   exact qz e
theorem FZ(s:ze)(hs:s.length<=1000000)(d:Nat)(l:Bool)(r:ze)(h:r <:+ s):(uh (qB s r d l)).run=some (qB s (yg r) d l):=by
 unfold uh
 rw[z6 (XW s hs d l r h),z7]
def xT(some:ze)(r:ze):Option (UInt8×ze):=match yg r with
 | []=>none
 | c::q=>if some.contains c=true then .some (c,q)else none
theorem tY(s:ze)(hs:s.length<=1000000)(d:Nat)(l:Bool)(r:ze)(h:r <:+ s)(m:ze) :
  (qY m (qB s r d l)).run=some (match xT m r with | some (c,q)=>((c.toNat:Int),qB s q d l) | none=>(0,qB s (yg r) d l)):=by
 have hk:=List.IsSuffix.trans (dq r) h
 unfold qY xT
 rw[z6 (FZ s hs d l r h)]
 cases e:yg r with
 | nil =>
  rw[z6 (a:=(false,qB s [] d l)) (by rw[vT,wV,VC,zg,z7]),zg,z7]
 | cons c q =>
  rw[e]at hk
  have hi:(strings_IndexByte m (c.toNat:Int)).run=some (o0 m c):=by unfold strings_IndexByte; rw[z7,Vq]
  rw[z6 (a:=(m.contains c,qB s (c::q) d l)) (by rw[vT,wV,Ze hk,zj,zb (mU hk),c7 hk,z6 hi,z7,By])]
  have hp:=yJ hk
  dsimp only
  cases hc:m.contains c with
  | false=>rw[zg,z7]; rfl
  | true =>
   rw[zj,vT,wV,zA (x:=((vB s (c::q):Nat):Int)+1) (by omega) (by omega),show((vB s (c::q):Nat):Int)+1-1=((vB s (c::q):Nat):Int) by omega,zA (by omega) (by omega),zb (mU hk),z7,c7 hk]
   rw[show((vB s (c::q):Nat):Int)+1=((vB s q:Nat):Int) by omega]
   rfl
theorem X1(b:UInt8):(xI (b.toNat:Int)).run=some (uO b):=by
 unfold xI uO
 rw[z7]
 congr 1
 by_cases h1:48<=b.toNat<;>by_cases h2:b.toNat<=57<;>simp[h1,h2]<;>omega
theorem OL(b:UInt8):(wG (b.toNat:Int)).run=some (XG b):=rfl
theorem E3(s:ze)(hs:s.length<=1000000)(d:Nat)(l:Bool)(is:Int->T Bool)(p:UInt8->Bool)(hp:∀ b:UInt8,(is (b.toNat:Int)).run=some (p b))(f m:Nat)(hm:m<=1000000) :
  ∀ (n:Nat) (r:ze),r <:+ s->f<=vB s r->vB s r-f+n=m->(gQ is (m:Int) (f:Int) (qB s r d l)).run=some (qB s (ga p n r).2 d l):=by
 intro n r
 induction r generalizing n with
 | nil =>
  intro h hf he
  have:(ga p n []).2=[]:=by cases n<;>rfl
  rw[this]
  refine qz ?_
  unfold qP
  dsimp only
  rw[z6 (a:=(false,qB s [] d l)) (by rw[vT,wV,VC,zg,z7]),zg,z7]
 | cons c r ih =>
  intro h hf he
  have ZV:=yJ h
  cases n with
  | zero =>
   refine qz ?_
   unfold qP
   dsimp only
   rw[z6 (a:=(false,qB s (c::r) d l)) (by rw[vT,wV,Ze h,zj,zA (by omega) (by omega),z8 (decide_eq_false (by omega)),z7]),zg,z7]
   rfl
  | succ n =>
   have e:(qP is (m:Int) (f:Int) (qB s (c::r) d l)).run=some (if p c=true then .inl (qB s r d l)else .inr (qB s (c::r) d l)):=by
    unfold qP
    dsimp only
    rw[z6 (a:=(p c,qB s (c::r) d l)) (by rw[vT,wV,Ze h,zj,zA (by omega) (by omega),za (decide_eq_true (by omega)),zb (mU h),c7 h,z6 (hp c),z7])]
    dsimp only
    cases p c with
    | false=>rfl
    | true =>
     rw[zj,z7,if_pos rfl]
     show some (Sum.inl (s,zF (((vB s (c::r):Nat):Int)+1),(d:Int),l,()))=_
     rw[US d l h hs]
   unfold ga
   by_cases hc:p c=true
   ·rw[if_pos hc]at e ⊢
    exact(vu e).trans (ih n (gx h) (by omega) (by omega))
   ·rw[if_neg hc]at e ⊢
    exact qz e
theorem Xo(s:ze)(hs:s.length<=1000000)(d:Nat)(l:Bool)(is:Int->T Bool)(p:UInt8->Bool)(hp:∀ b:UInt8,(is (b.toNat:Int)).run=some (p b))(m:Nat)(hm:m<=1000000)(r:ze)(h:r <:+ s) :
  (qX is (m:Int) (qB s r d l)).run=some ((ga p m r).1,qB s (ga p m r).2 d l):=by
 unfold qX
 have h2:=List.IsSuffix.trans (Uo p m r) h
 have h3:=z3F (Uo p m r) h
 have h4:vB s (ga p m r).2<=s.length:=by unfold vB; omega
 rw[vT,z6 (E3 s hs d l is p hp (vB s r) m hm m r h (Nat.le_refl _) (by omega))]
 rw[vT,wV,zb ⟨by omega,by omega,by omega⟩,z7,z03 h (Q1 p m r)]
inductive PR where
 | no
 | er (k:Int) (bad r:ze) (d:Nat) (l:Bool)
 | ok (e:Expr) (r:ze) (l:Bool)
def PR.bind:PR->(Expr->ze->Bool->PR)->PR
 | .no,_=>.no
 | .er k b r d l,_=>.er k b r d l
 | .ok e r l,f=>f e r l
def bc(k:Int)(l:List Expr):Expr:=.mk k zQ [] l
def fB(t:ze):Rat:=match pn t with | some (n,d)=>wM (List.isPrefixOf [45] t) n d | none=>zQ
def Xr(z:Rat)(t r:ze)(l:Bool):PR:=if 400<t.length then .ok (.mk 1 z [] []) r true else .ok (.mk 1 (fB t) [] []) r l
def tK(z:Rat)(d:Nat)(r:ze)(l:Bool):PR:=match r.dropWhile uO with
 | []=>Xr z (r.takeWhile uO) [] l
 | c::q=>if c=46 then(if q.takeWhile uO=[]then .er 2 q q d l else Xr z (r.takeWhile uO++(46::q.takeWhile uO)) (q.dropWhile uO) l)
  else Xr z (r.takeWhile uO) (c::q) l
def E4(r:ze)(l:Bool):PR:=.ok (.mk 2 zQ (ga wW 24 r).1 []) (ga wW 24 r).2 l
def yD(K:Bool->ze->PR)(m1 m2:UInt8)(k1 k2:Int):Nat->Expr->ze->Bool->PR
 | 0,_,_,_=>.no
 | n+1,e,r,l=>match xT [m1,m2] r with
  | none=>.ok e (yg r) l
  | some (c,q)=>(K l q).bind λe2 q2 l2=>yD K m1 m2 k1 k2 n (bc (if c=m1 then k1 else k2) [e,e2]) q2 l2
def rowP(K:Bool->ze->PR)(m1 m2:UInt8)(k1 k2:Int)(n:Nat)(l:Bool)(r:ze):PR:=(K l r).bind λe q l'=>yD K m1 m2 k1 k2 n e q l'
def iY(z:Rat)(F S:Nat->Bool->ze->PR)(d:Nat)(l:Bool)(s:ze):PR:=match yg s with
 | []=>.er 2 [] [] d l
 | c::r =>
  if c=45 then(if 31<=d then .er 4 (c::r) r (d+1) l else(F (d+1) l r).bind λe q l'=>.ok (bc 7 [e]) q l')
  else if c=40 then(if 31<=d then .er 4 (c::r) r (d+1) l else(S (d+1) l r).bind λe q l'=>match xT [41] q with
   | some (_,q')=>.ok e q' l'
   | none=>.er 2 (yg q) (yg q) (d+1) l')
  else if uO c=true then tK z d (c::r) l
  else if XG c=true then E4 (c::r) l
  else .er 2 (c::r) (c::r) d l
mutual
def pF(z:Rat):Nat->Nat->Bool->ze->PR
 | 0,_,_,_=>.no
 | n+1,d,l,s=>iY z (pF z n) (pS z n) d l s
def pP(z:Rat):Nat->Nat->Bool->ze->PR
 | 0,_,_,_=>.no
 | n+1,d,l,s=>rowP (pF z n d) 42 47 5 6 n l s
def pS(z:Rat):Nat->Nat->Bool->ze->PR
 | 0,_,_,_=>.no
 | n+1,d,l,s=>rowP (pP z n d) 43 45 3 4 n l s
end
def PR.YS(s:ze):PR->Prop
 | .no=>True
 | .er _ b r _ _=>b <:+ s/\r <:+ s
 | .ok _ r _=>r <:+ s
theorem PR.ZJ{s:ze}{R:PR}{f:Expr->ze->Bool->PR}(h:R.YS s)(hf:∀ e r l,r <:+ s->(f e r l).YS s):(R.bind f).YS s:=by
 cases R with
 | no=>trivial
 | er=>exact h
 | ok e r l=>exact hf e r l h
theorem lr{m r q:ze}{c:UInt8}(h:xT m r=some (c,q)):(c::q) <:+ r/\m.contains c=true/\yg r=c::q:=by
 have:=dq r
 unfold xT at h
 split at h
 ·cases h
 ·rename_i c' q' e
  split at h
  ·cases h; rw[e]at this; exact⟨this,by assumption,e⟩
  ·cases h
theorem J1{s r t:ze}{z:Rat}{l:Bool}(h:r <:+ s):(Xr z t r l).YS s:=by unfold Xr; split<;>exact h
theorem lp(p:UInt8->Bool)(r:ze):r.dropWhile p <:+ r:=List.dropWhile_suffix p
theorem TP{s r:ze}{z:Rat}{d:Nat}{l:Bool}(h:r <:+ s):(tK z d r l).YS s:=by
 have hd:=lp uO r
 unfold tK
 split
 ·exact J1 List.nil_suffix
 ·rename_i c q e
  rw[e]at hd
  have hq:=(gx hd).trans h
  split
  ·split
   ·exact⟨hq,hq⟩
   ·exact J1 ((lp uO q).trans hq)
  ·exact J1 (hd.trans h)
theorem BC{s:ze}{K:Bool->ze->PR}(hK:∀ l r,r <:+ s->(K l r).YS s)(m1 m2:UInt8)(k1 k2:Int):∀ (n:Nat) (e:Expr) (r:ze) (l:Bool),r <:+ s->(yD K m1 m2 k1 k2 n e r l).YS s
 | 0,_,_,_,_=>trivial
 | n+1,e,r,l,h=>by
  unfold yD
  split
  ·exact(dq r).trans h
  ·rename_i c q ht
   have hq:=(gx (lr ht).1).trans h
   exact PR.ZJ (hK l q hq) λe2 q2 l2 h2=>BC hK m1 m2 k1 k2 n _ q2 l2 h2
theorem BH{s:ze}{K:Bool->ze->PR}(hK:∀ l r,r <:+ s->(K l r).YS s)(m1 m2:UInt8)(k1 k2:Int)(n:Nat)(l:Bool)(r:ze)(h:r <:+ s):(rowP K m1 m2 k1 k2 n l r).YS s :=
 PR.ZJ (hK l r h) λ_ _ _ h2=>BC hK m1 m2 k1 k2 n _ _ _ h2
theorem R7{s:ze}{z:Rat}{F S:Nat->Bool->ze->PR}(hF:∀ d l r,r <:+ s->(F d l r).YS s)(hS:∀ d l r,r <:+ s->(S d l r).YS s)(d:Nat)(l:Bool)(r:ze)(h:r <:+ s):(iY z F S d l r).YS s:=by
 have hk:=(dq r).trans h
 unfold iY
 split
 ·exact⟨List.nil_suffix,List.nil_suffix⟩
 ·rename_i c q e
  rw[e]at hk
  have hq:=gx hk
  split
  ·split
   ·exact⟨hk,hq⟩
   ·exact PR.ZJ (hF _ _ _ hq) λ_ _ _ h2=>h2
  ·split
   ·split
    ·exact⟨hk,hq⟩
    ·refine PR.ZJ (hS _ _ _ hq) λe2 q2 l2 h2 => ?_
     split
     ·rename_i ht
      exact(gx (lr ht).1).trans h2
     ·exact⟨(dq q2).trans h2,(dq q2).trans h2⟩
   ·split
    ·exact TP hk
    ·split
     ·exact(Uo wW 24 (c::q)).trans hk
     ·exact⟨hk,hk⟩
theorem Um(z:Rat)(s:ze):∀ (n:Nat),(∀ d l r,r <:+ s->(pF z n d l r).YS s)/\(∀ d l r,r <:+ s->(pP z n d l r).YS s)/\(∀ d l r,r <:+ s->(pS z n d l r).YS s)
 | 0=>⟨λ_ _ _ _=>by unfold pF; trivial,λ_ _ _ _=>by unfold pP; trivial,λ_ _ _ _=>by unfold pS; trivial⟩
 | n+1=>by
  obtain⟨h1,h2,h3⟩:=Um z s n
  refine⟨λd l r h => ?_,λd l r h => ?_,λd l r h => ?_⟩
  ·unfold pF; exact R7 h1 h3 d l r h
  ·unfold pP; exact BH (h1 d) _ _ _ _ n l r h
  ·unfold pS; exact BH (h2 d) _ _ _ _ n l r h
def encR(s:ze)(d:Nat):PR->Option ((AM.Expr×zc)⊕(vY×zc))
 | .no=>none
 | .er k b r d' l=>some (.inr ((k,(((vB s b:Nat):Int),())),qB s r d' l))
 | .ok e r l=>some (.inl (e,qB s r d l))
theorem Cf(e a:Int)(p:zc):(xM e a p).run=some (.inr ((e,(a,())),p)):=rfl
theorem Fo(s:ze)(hs:s.length<=1000000){c:UInt8}{r:ze}(h:(c::r) <:+ s)(d:Nat)(hd:d<=31)(l:Bool):(wK (qB s r d l)).run=some (if 31<=d then .inr ((4,(((vB s (c::r):Nat):Int),())),qB s r (d+1) l)else .inl (qB s r (d+1) l)):=by
 have hp:=yJ h
 have e:((qB s r d l).1,((qB s r d l).2.1,((zF ((qB s r d l).2.2.1+(1:Int))),((qB s r d l).2.2.2.1,()))))=qB s r (d+1) l:=by
  rw[VJ,zA (by omega) (by omega)]; rfl
 unfold wK
 rw[e,VJ,vT,zA (by omega) (by omega),zA (by omega) (by omega)]
 by_cases c1:31<=d
 ·rw[if_pos c1,za (decide_eq_true (by omega)),z6 (Cf _ _ _),Sum.elim_inr,z7,show((vB s r:Nat):Int)-1=((vB s (c::r):Nat):Int) by omega]
 ·rw[if_neg c1,z8 (decide_eq_false (by omega)),z7]
theorem tW(p:UInt8->Bool)(r:ze):r.takeWhile p++r.dropWhile p=r:=List.takeWhile_append_dropWhile
theorem Fu(s:ze)(hs:s.length<=1000000)(d:Nat)(l:Bool)(r:ze)(h:r <:+ s):(ua (qB s r d l)).run=encR s d (tK zQ d r l):=by
 have hdr:=lp uO r
 have hl:=h.length_le
 have hw:=Xo s hs d l (λz0=>xI z0) uO X1 s.length hs r h
 rw[JH uO s.length r hl]at hw
 -- what is done with the text
 have fin:∀ (t q:ze),(T.ite (decide ((400:Int)<(Nat.cast (List.length t):Int)))
    (.ret (.inl ((Expr.mk (1:Int) (false,(([]:List Int),(([]:List Int),()))) ([]:ze) ([]:List AM.Expr)),((qB s q d l).1,((qB s q d l).2.1,((qB s q d l).2.2.1,(true,())))))))
    (T.bind (wu t) λ(r,r1) =>
     .ret (.inl ((Expr.mk (1:Int) (r.1,(r.2.1,(r.2.2.1,()))) ([]:ze) ([]:List AM.Expr)),(qB s q d l)))):T ((AM.Expr×zc)⊕(vY×zc))).run=encR s d (Xr zQ t q l):=by
  intro t q
  unfold Xr
  by_cases c1:400<t.length
  ·rw[if_pos c1,za (decide_eq_true (by omega)),z7]; rfl
  ·rw[if_neg c1,z8 (decide_eq_false (by omega)),z6 (bT t (by omega)),if_neg c1]
   unfold fB
   cases pn t with
   | none=>rfl
   | some x=>rfl
 unfold ua tK
 rw[wV,z6 hw]
 dsimp only
 cases e:r.dropWhile uO with
 | nil =>
  rw[e]at hdr
  rw[z6 (a:=.inl (r.takeWhile uO,qB s [] d l,Expr.mk 0 (false,([],([],()))) [] [])) (by rw[vT,wV,VC,zb (λh=>by cases h),Bool.false_and,zg,z7]),Sum.elim_inl]
  exact fin _ _
 | cons c q =>
  rw[e]at hdr
  have hcq:=hdr.trans h
  have hq:=gx hcq
  have ZV:=yJ hcq
  dsimp only
  by_cases hc:c=46
  ·rw[if_pos hc]
   have QI:=Xo s hs d l (λz0=>xI z0) uO X1 s.length hs q hq
   rw[JH uO s.length q hq.length_le]at QI
   have ziJ:(r.takeWhile uO).length<=1000000:=by have:=congrArg List.length (tW uO r); rw[List.length_append]at this; omega
   have z5J:(q.takeWhile uO).length<=1000000:=by have:=congrArg List.length (tW uO q); rw[List.length_append]at this; have:=hq.length_le; omega
   have cond:((decide (((vB s (c::q):Nat):Int)<(s.length:Int)))&&((qo s ((vB s (c::q):Nat):Int))==(46:Int)))=true:=by
    rw[Ze hcq,Bool.true_and,c7 hcq,show((c.toNat:Int)==46)=decide (c=46)from z1y c 46]; simpa using hc
   have st:(((qB s (c::q) d l).1,((zF ((qB s (c::q) d l).2.1+(1:Int))),((qB s (c::q) d l).2.2.1,((qB s (c::q) d l).2.2.2.1,())))):zc)=qB s q d l:=US d l hcq hs
   by_cases hq0:q.takeWhile uO=[]
   ·rw[if_pos hq0,z6 (a:=.inr ((2,(((vB s q:Nat):Int),())),qB s q d l,Expr.mk 0 (false,([],([],()))) [] [])),Sum.elim_inr]
    ·rfl
    ·rw[st,vT,wV,zb (λ_=>mU hcq),za cond,z6 QI,za (by rw[xP]; simpa using hq0)]
     have:q.dropWhile uO=q:=by have:=tW uO q; rw[hq0]at this; simpa using this
     rw[this,z6 (Cf _ _ _),Sum.elim_inr,z7,vT]
   ·rw[if_neg hq0,z6 (a:=.inl (cat (r.takeWhile uO) (cat [46] (q.takeWhile uO)),qB s (q.dropWhile uO) d l,Expr.mk 0 (false,([],([],()))) [] [])),Sum.elim_inl]
    ·exact fin _ _
    ·rw[st,vT,wV,zb (λ_=>mU hcq),za cond,z6 QI,z8 (by rw[xP]; simpa using hq0),zp _ (by simp; omega),zp _ (by simp[jc]; omega),z7]
  ·rw[if_neg hc,z6 (a:=.inl (r.takeWhile uO,qB s (c::q) d l,Expr.mk 0 (false,([],([],()))) [] [])),Sum.elim_inl]
   ·exact fin _ _
   ·rw[vT,wV,zb (λ_=>mU hcq),z8 (by rw[Ze hcq,Bool.true_and,c7 hcq,show((c.toNat:Int)==46)=decide (c=46)from z1y c 46]; simpa using hc),z7]
abbrev KT:=zc->T ((AM.Expr×zc)⊕(vY×zc))
abbrev zE:Expr:=Expr.mk (0:Int) (false,(([]:List Int),(([]:List Int),()))) ([]:ze) ([]:List AM.Expr)
noncomputable def VZ (K:KT) (Xi:ze) (UJ:vY):(zc×AM.Expr×AM.Expr)->T ((zc×AM.Expr×AM.Expr)⊕((zc×AM.Expr×AM.Expr)⊕(vY×zc×AM.Expr×AM.Expr)))
 | (v,v1,v2) =>
  T.bind (qY Xi v) λ(c,p3) =>
  .ite (c==(0:Int))
   (.ret (.inr (.inl (p3,(v2,v2)))))
   (T.bind (K p3) <|
     Sum.elim (λ(r1,p4) =>
      T.bind (strings_IndexByte Xi c) λr2 =>
      .zL (qw r2 (2:Nat)) <|
      .ret (.inl (p4,(v1,(Expr.mk (pW (.int .i64) Wf UJ (Int.toNat r2)) (false,(([]:List Int),(([]:List Int),()))) ([]:ze) ([v2,r1]:List AM.Expr))))))
     (λ(pv1,p5) =>
      .ret (.inr (.inr (pv1,(p5,(v1,v2)))))))
noncomputable def z2T (K:KT) (marks:ze) (kinds:vY) (p:zc):T ((AM.Expr×zc)⊕(vY×zc)) :=
 T.bind (K p) <|
  Sum.elim (λ(r,p1) =>
   T.bind (T.loop (VZ K marks kinds) (p1,(zE,r))) <|
    Sum.elim (λ(v3,v4,v5) =>
     .ret (.inl (v4,v3)))
    (λ(p6,v6,v7,v8) =>
     .ret (.inr (p6,v6))))
  (λ(pv,p2) =>
   .ret (.inr (pv,p2)))
theorem zeY{m1 m2 c:UInt8}(h:[m1,m2].contains c=true):o0 [m1,m2] c=if c=m1 then 0 else 1:=by
 unfold o0
 by_cases h1:c=m1
 ·subst h1; simp
 ·have WD:(m1==c)=false:=by simpa using λe:m1=c=>h1 e.symm
  have h2:c=m2:=by simpa[h1]using h
  subst h2
  rw[WD,if_neg h1]
  unfold o0
  simp
theorem CM(s:ze)(hs:s.length<=1000000)(d:Nat)(K:KT)(Ks:Bool->ze->PR)(hK:∀ l r,r <:+ s->Ks l r≠.no->(K (qB s r d l)).run=encR s d (Ks l r))(hx:∀ l r,r <:+ s->(Ks l r).YS s)(m1 m2:UInt8)(hm1:m1≠0)(D6:m2≠0)(k1 k2:Int) :
  ∀ (n:Nat) (e:Expr) (r:ze) (l:Bool),r <:+ s->yD Ks m1 m2 k1 k2 n e r l≠.no ->
   match yD Ks m1 m2 k1 k2 n e r l with
   | .no=>True
   | .ok e' r' l'=>(T.loop (VZ K [m1,m2] (k1,(k2,()))) (qB s r d l,(zE,e))).run=some (.inl (qB s r' d l',(e',e')))
   | .er k b r' d' l'=>∃ x,(T.loop (VZ K [m1,m2] (k1,(k2,()))) (qB s r d l,(zE,e))).run=some (.inr ((k,(((vB s b:Nat):Int),())),(qB s r' d' l',(zE,x))))
 | 0,_,_,_,_,hn=>absurd rfl hn
 | n+1,e,r,l,h,hn=>by
  have ht:=tY s hs d l r h [m1,m2]
  unfold yD at hn ⊢
  cases q:xT [m1,m2] r with
  | none =>
   rw[q]at ht
   dsimp only
   refine qz ?_
   unfold VZ
   dsimp only
   rw[z6 ht]
   rfl
  | some x =>
   obtain⟨c,q'⟩:=x
   rw[q]at ht hn
   dsimp only at ht hn ⊢
   have hsf:=lr q
   have hq:=(gx hsf.1).trans h
   have hc0:((c.toNat:Int)==0)=false:=by
    rw[show((c.toNat:Int)==0)=decide (c=0)from z1y c 0]
    have h2:c=m1\/c=m2:=by simpa using hsf.2.1
    rcases h2 with rfl | rfl<;>simpa
   have F6:=hK l q' hq
   have HR:=hx l q' hq
   cases z:Ks l q' with
   | no=>rw[z]at hn; exact absurd rfl hn
   | er k b r' d' l' =>
    rw[z]at F6
    have F6:=F6 (by simp)
    refine⟨e,qz ?_⟩
    unfold VZ
    dsimp only
    rw[z6 ht]
    dsimp only
    rw[z8 hc0,z6 F6]
    rfl
   | ok e2 r2 l2 =>
    rw[z]at F6 hn HR
    have F6:=F6 (by simp)
    have hi:(strings_IndexByte [m1,m2] (c.toNat:Int)).run=some (o0 [m1,m2] c):=by unfold strings_IndexByte; rw[z7,Vq]
    have step:(VZ K [m1,m2] (k1,(k2,())) (qB s r d l,(zE,e))).run=some (.inl (qB s r2 d l2,(zE,bc (if c=m1 then k1 else k2) [e,e2]))):=by
     unfold VZ
     dsimp only
     rw[z6 ht]
     dsimp only
     rw[z8 hc0,z6 F6,Sum.elim_inl,z6 hi,zeY hsf.2.1]
     by_cases hc:c=m1
     ·rw[if_pos hc,if_pos hc,zb ⟨by omega,by omega⟩,z7]
      rfl
     ·rw[if_neg hc,if_neg hc,zb ⟨by omega,by omega⟩,z7]
      rfl
    rw[vu step]
    exact CM s hs d K Ks hK hx m1 m2 hm1 D6 k1 k2 n _ r2 l2 HR hn
theorem CY(s:ze)(hs:s.length<=1000000)(d:Nat)(K:KT)(Ks:Bool->ze->PR)(hK:∀ l r,r <:+ s->Ks l r≠.no->(K (qB s r d l)).run=encR s d (Ks l r))(hx:∀ l r,r <:+ s->(Ks l r).YS s)(m1 m2:UInt8)(hm1:m1≠0)(D6:m2≠0)(k1 k2:Int)
  (n:Nat) (l:Bool) (r:ze) (h:r <:+ s) (hn:rowP Ks m1 m2 k1 k2 n l r≠.no):(z2T K [m1,m2] (k1,(k2,())) (qB s r d l)).run=encR s d (rowP Ks m1 m2 k1 k2 n l r):=by
 have F6:=hK l r h
 have HR:=hx l r h
 unfold z2T
 unfold rowP at hn ⊢
 cases z:Ks l r with
 | no=>rw[z]at hn; exact absurd rfl hn
 | er k b r' d' l' =>
  rw[z]at F6
  rw[z6 (F6 (by simp))]
  rfl
 | ok e r' l' =>
  rw[z]at F6 hn HR
  have F6:=F6 (by simp)
  have hn:yD Ks m1 m2 k1 k2 n e r' l'≠.no:=hn
  have hl:=CM s hs d K Ks hK hx m1 m2 hm1 D6 k1 k2 n e r' l' HR hn
  rw[z6 F6,Sum.elim_inl]
  show _=encR s d (yD Ks m1 m2 k1 k2 n e r' l')
  cases w:yD Ks m1 m2 k1 k2 n e r' l' with
  | no=>exact absurd w hn
  | er k b r2 d2 l2 =>
   rw[w]at hl
   obtain⟨x,hl⟩:=hl
   dsimp only
   rw[z6 hl]
   rfl
  | ok e2 r2 l2 =>
   rw[w]at hl
   dsimp only at hl ⊢
   rw[z6 hl]
   rfl
theorem CK(s:ze)(hs:s.length<=1000000)(FT ST:KT)(F S:Nat->Bool->ze->PR)
  (hF:∀ d l r,d<=31->r <:+ s->F d l r≠.no->(FT (qB s r d l)).run=encR s d (F d l r)) (hS:∀ d l r,d<=31->r <:+ s->S d l r≠.no->(ST (qB s r d l)).run=encR s d (S d l r))
  (xS:∀ d l r,r <:+ s->(S d l r).YS s) (d:Nat) (l:Bool) (r:ze) (hd:d<=31) (h:r <:+ s) (hn:iY zQ F S d l r≠.no):(xW FT ST (qB s r d l)).run=encR s d (iY zQ F S d l r):=by
 have ht:=tY s hs d l r h [45,40]
 have hk:=(dq r).trans h
 unfold xW
 unfold iY at hn ⊢
 unfold xT at ht
 -- what deeper ones leave
 have down:∀ (q:ze) (l':Bool),(((qB s q (d+1) l').1,((qB s q (d+1) l').2.1,((zF ((qB s q (d+1) l').2.2.1-(1:Int))),((qB s q (d+1) l').2.2.2.1,())))):zc)=qB s q d l':=by
  intro q l'
  rw[VJ,zA (by omega) (by omega)]
  show(s,(((vB s q:Nat):Int),(((d+1:Nat):Int)-1,(l',()))))=(s,(((vB s q:Nat):Int),((d:Int),(l',()))))
  rw[show((d+1:Nat):Int)-1=(d:Int) by omega]
 cases e:yg r with
 | nil =>
  rw[e]at ht
  dsimp only at ht ⊢
  rw[z6 ht]
  dsimp only
  rw[z8 (by rfl),z8 (by rfl)]
  rw[z6 (a:=(false,(qB s [] d l,zE))) (by rw[vT,wV,VC,zg,z7])]
  dsimp only
  rw[zg,z6 (a:=(false,(qB s [] d l,zE))) (by rw[vT,wV,VC,zg,z7])]
  rfl
 | cons c q =>
  rw[e]at ht hn hk
  have hq:=gx hk
  dsimp only at ht hn ⊢
  have hw:=Fo s hs hk d hd l
  by_cases P8:c=45
  ·subst P8
   rw[if_pos (by decide)]at ht
   dsimp only at ht
   rw[if_pos rfl]at hn ⊢
   rw[z6 ht]
   dsimp only
   rw[za (by rfl),z6 hw]
   by_cases c31:31<=d
   ·rw[if_pos c31,if_pos c31]; rfl
   ·rw[if_neg c31]at hn
    rw[if_neg c31,if_neg c31,Sum.elim_inl]
    have hf:=hF (d+1) l q (by omega) hq
    cases z:F (d+1) l q with
    | no=>rw[z]at hn; exact absurd rfl hn
    | er k b r' d' l'=>rw[z]at hf; rw[z6 (hf (by simp))]; rfl
    | ok e2 r2 l2 =>
     rw[z]at hf
     rw[z6 (hf (by simp)),Sum.elim_inl]
     dsimp only
     rw[z7,down]
     rfl
  ·rw[if_neg P8]at hn ⊢
   by_cases P9:c=40
   ·subst P9
    rw[if_pos (by decide)]at ht
    dsimp only at ht
    rw[if_pos rfl]at hn ⊢
    rw[z6 ht]
    dsimp only
    rw[z8 (by rfl),za (by rfl),z6 hw]
    by_cases c31:31<=d
    ·rw[if_pos c31,if_pos c31]; rfl
    ·rw[if_neg c31]at hn
     rw[if_neg c31,if_neg c31,Sum.elim_inl]
     have hf:=hS (d+1) l q (by omega) hq
     have xf:=xS (d+1) l q hq
     cases z:S (d+1) l q with
     | no=>rw[z]at hn; exact absurd rfl hn
     | er k b r' d' l'=>rw[z]at hf; rw[z6 (hf (by simp))]; rfl
     | ok e2 r2 l2 =>
      rw[z]at hf xf
      rw[z6 (hf (by simp)),Sum.elim_inl]
      dsimp only
      have Y5:=tY s hs (d+1) l2 r2 xf [41]
      show _=encR s d (match xT [41] r2 with | some (_,q')=>.ok e2 q' l2 | none=>.er 2 (yg r2) (yg r2) (d+1) l2)
      cases w:xT [41] r2 with
      | none =>
       rw[w]at Y5
       dsimp only at Y5 ⊢
       rw[z6 (a:=.inr ((2,(((vB s (yg r2):Nat):Int),())),(qB s (yg r2) (d+1) l2,(zE,e2)))) (by rw[z6 Y5]; rfl)]
       rfl
      | some x =>
       obtain⟨c',q'⟩:=x
       rw[w]at Y5
       have hc':=(lr w).2.1
       have hc':c'=41:=by simpa using hc'
       subst hc'
       dsimp only at Y5 ⊢
       rw[z6 (a:=.inl (qB s q' (d+1) l2,(zE,e2))) (by rw[z6 Y5]; rfl),Sum.elim_inl]
       dsimp only
       rw[z7,down]
       rfl
   ·rw[if_neg (by simp[P8,P9])]at ht
    dsimp only at ht
    rw[if_neg P9]at hn ⊢
    rw[z6 ht]
    dsimp only
    rw[z8 (by rfl),z8 (by rfl)]
    rw[z6 (a:=(uO c,(qB s (c::q) d l,zE))) (by rw[vT,wV,Ze hk,zj,zb (mU hk),c7 hk,z6 (X1 c),z7])]
    dsimp only
    cases hD:uO c with
    | true =>
     rw[if_pos rfl,zj]
     have Ww:=Fu s hs d l (c::q) hk
     cases z:tK zQ d (c::q) l with
     | no =>
      exfalso
      rw[if_pos hD,z]at hn
      exact hn rfl
     | er k b r' d' l'=>rw[z]at Ww; rw[z6 Ww]; rfl
     | ok e2 r2 l2=>rw[z]at Ww; rw[z6 Ww]; rfl
    | false =>
     rw[if_neg (by simp),zg]
     rw[z6 (a:=(XG c,(qB s (c::q) d l,zE))) (by rw[vT,wV,Ze hk,zj,zb (mU hk),c7 hk,z6 (OL c),z7])]
     dsimp only
     cases hL:XG c with
     | true =>
      rw[if_pos rfl,zj]
      have hwl:(qX (λz0=>vf z0) 24 (qB s (c::q) d l)).run=_:=Xo s hs d l (λz0=>vf z0) wW oH 24 (by omega) (c::q) hk
      rw[z6 hwl]
      rfl
     | false =>
      rw[if_neg (by simp),zg]
      rfl
end Go.AM.Lf
