/-
  Plain laws of the lifted program, part 0.
-/
import Derived.Test.YtilkokbbfmkkbaaGreatDoorLf1
import Derived.Test.YtilkokbbfmkkbaaGreatDoorAmD
import Derived.KernelRfl
set_option linter.unusedVariables false
open Go.AM.T (QA Wi fy jV jz l5 nY oe oy qk)
namespace Go.AM.Lf
instance (i:Int) (n:Nat):Decidable (zT i n):=inferInstanceAs (Decidable (_/\_))
instance (a b c d:Nat):Decidable (va a b c d):=inferInstanceAs (Decidable (_/\_))
instance (a b c d:Nat):Decidable (zn a b c d):=inferInstanceAs (Decidable (_/\_/\_))
instance (a b:Int) (c:Nat):Decidable (vG a b c):=inferInstanceAs (Decidable (_/\_/\_))
instance (a b c:Int) (d:Nat):Decidable (TY a b c d):=inferInstanceAs (Decidable (_/\_/\_/\_))
instance (a b:Int) (c:Nat):Decidable (ob a b c):=inferInstanceAs (Decidable (_/\_/\_/\_))
instance (a b c d e f g:Nat):Decidable (wg a b c d e f g):=inferInstanceAs (Decidable (_/\_/\_/\_))
instance (a b c d e:Nat):Decidable (Uw a b c d e):=inferInstanceAs (Decidable (_/\_))
instance (n:Int):Decidable (RO n):=inferInstanceAs (Decidable (_=true))
instance (y:Bool) (n:Int) (l:List Int):Decidable (EY y n l):=inferInstanceAs (Decidable (_/\_/\_))
noncomputable def nx {σ ρ:Type} (r:σ->T (σ⊕ρ)):σ⊕ρ->Option ρ
 | .inl s=>(T.loop r s).run
 | .inr y=>some y
theorem Hm{σ ρ:Type}{r:σ->T (σ⊕ρ)}{s:σ}{z:σ⊕ρ}{x:ρ}(h:(r s).run=some z)(k:nx r z=some x):(T.loop r s).run=some x:=by
 cases z with
 | inl s'=>rw[QA h]; exact k
 | inr y=>rw[oe h]; exact k
theorem nxL{σ ρ:Type}{r:σ->T (σ⊕ρ)}{s:σ}{x:ρ}(k:(T.loop r s).run=some x):nx r (.inl s)=some x:=k
theorem nxR{σ ρ:Type}{r:σ->T (σ⊕ρ)}{y:ρ}:nx r (.inr y)=some y:=rfl
theorem GU{α β:Type}{t:T α}{f:α->T β}{a:α}{x:β}(h:t.run=some a)(k:(f a).run=some x):(t.bind f).run=some x:=(fy h f).trans k
theorem IJ{α:Type}{b:Bool}{t e:T α}{x:α}(h:b=true)(k:t.run=some x):(T.ite b t e).run=some x:=by subst h; exact k
theorem Mg{α:Type}{b:Bool}{t e:T α}{x:α}(h:b=false)(k:e.run=some x):(T.ite b t e).run=some x:=by subst h; exact k
theorem N4{α:Type}{p:Prop}{t:T α}{x:α}(h:p)(k:t.run=some x):(T.zb p t).run=some x:=(qk h t).trans k
theorem elL{α β γ:Type}{f:α->T γ}{g:β->T γ}{a:α}{x:γ}(h:(f a).run=some x):(Sum.elim f g (.inl a)).run=some x:=h
theorem elR{α β γ:Type}{f:α->T γ}{g:β->T γ}{a:β}{x:γ}(h:(g a).run=some x):(Sum.elim f g (.inr a)).run=some x:=h
theorem Rh{a:zh}(h:(decide (a.length<4294967281)&&a.all λb=>decide (b.toNat<128))=true):(strings_makeASCIISet a).run=some (XD a,true):=by
 simp only[Bool.and_eq_true,decide_eq_true_eq,List.all_eq_true]at h
 unfold strings_makeASCIISet
 rw[qk ⟨h.1,λj b hb=>h.2 b (List.mem_of_getElem? hb)⟩,jz]
theorem evd{α:Type}{t:T α}{x y:α}(h:t.run=some x)(k:x=y):t.run=some y:=by rw[h,k]
theorem Pc{e:Type}{a:List e}{n:Nat}(h:wg 0 0 0 0 0 a.length n):(T.zb (a=[]->∀ r,T.leads (.zb (wg 0 0 0 0 0 a.length n)<|.zb (0+a.length=0+a.length)<|.ret (List.drop 0 (List.take (0+(0+a.length)) a)):T _) r->T.leads (.ret ([]:List e):T _) r)<|.zb (wg 0 0 0 0 0 a.length n)<|.zb (0+a.length=0+a.length)<|.ret (List.drop 0 (List.take (0+(0+a.length)) a)):T (List e)).run=some a:=by
 have e0:List.drop 0 (List.take (0+(0+a.length)) a)=a:=by simp
 rw[e0,qk (λe r h=>by rw[e]at h; exact h.2.2),qk h,qk rfl,jz]
theorem R9{e:Type}{a:List e}{n:Nat}(h:wg 0 0 0 0 0 a.length n):(T.zb (a=[]->∀ r,T.leads (.zb (wg 0 0 0 0 0 a.length n)<|.zb (zn (0+a.length) 0 (0+a.length) a.length)<|.zb (0+a.length=a.length)<|.ret a:T _) r->T.leads (.zb (zn 0 0 0 0)<|.zb ((0:Nat)=0)<|.ret ([]:List e):T _) r)<|.zb (wg 0 0 0 0 0 a.length n)<|oM (0+a.length) a.length<|.ret a:T (List e)).run=some a:=by
 have e0:0+a.length=a.length:=Nat.zero_add _
 rw[qk (λe r h=>by rw[e]at h; exact⟨⟨rfl,rfl,rfl⟩,rfl,h.2.2.2⟩),qk h]
 show(T.zb _ (T.zb _ _)).run=_
 rw[qk ⟨e0,rfl,e0⟩,qk e0,jz]
theorem TS(N:Nat){σ ρ:Type}{b:(σ->T ρ)->σ->T ρ}{x:σ}{y:ρ}(h:∀ k,(Wi b (k+N) x).run=some y):(T.fix b x).run=some y:=by
 rw[jV,l5]
 exact⟨N,λm hm=>T.jV.1 (by have:=h (m-N); rwa [Nat.sub_add_cancel hm]at this)⟩
theorem z6c{σ ρ:Type}{b:(σ->T ρ)->σ->T ρ}{m:Nat}{x:σ}{y:ρ}(h:(b (Wi b m) x).run=some y):(Wi b (m+1) x).run=some y:=h
set_option maxRecDepth 100000 in
set_option maxHeartbeats 20000000 in
theorem MZ:bW.run=some true:=by
 unfold bW
 apply evd
 ·repeat first
    | with_reducible exact jz _
    | with_reducible exact nxR
    | with_reducible apply nxL
    | with_reducible apply GU
    | with_reducible apply Hm
    | (with_reducible apply TS 6; intro k)
    | with_reducible apply z6c
    | with_reducible apply elL
    | with_reducible apply elR
    | (with_reducible apply N4; · first | decide +kernel | (intro e r h; rw[e]at h; simpa[T.leads]using h))
    | with_reducible apply IJ (by decide +kernel)
    | with_reducible apply Mg (by decide +kernel)
    | with_reducible exact Rh (by decide +kernel)
    | dsimp only
    | exact Pc (by decide +kernel)
    | exact R9 (by decide +kernel)
    | apply GU
    | (apply N4; · first | decide +kernel | (intro e r h; rw[e]at h; simpa[T.leads]using h))
    | apply IJ (by decide +kernel)
    | apply Mg (by decide +kernel)
    | apply Hm
    | (apply TS 6; intro k)
    | exact jz _
 ·kernel_rfl
theorem RA(o:Op):∃ b,(dM ([o]:List Op)).run=some b:=by
 have key:∃ z,(cu ([o]:List Op) (0:Int)).run=some z:=by
  unfold cu
  by_cases h:((decide ((60:Int)<(Nat.cast (List.length (nth ([o]:List Op) 0 (zd cj)).2.1):Int)))||((decide ((3:Int)<(Nat.cast (List.length (nth ([o]:List Op) 0 (zd cj)).2.2.1.2.1):Int)))||(decide ((3:Int)<(Nat.cast (List.length (nth ([o]:List Op) 0 (zd cj)).2.2.1.2.2.1):Int)))))=true
  ·refine⟨.inr true,oe ?_⟩
   unfold vJ
   dsimp only
   rw[nY (by rfl),qk ⟨⟨by omega,by simp⟩,λ_=>⟨⟨by omega,by simp⟩,λ_=>⟨by omega,by simp⟩⟩⟩,nY h,jz]
  ·have h:=Bool.eq_false_iff.2 h
   refine⟨.inl (),?_⟩
   have h1:(vJ ([o]:List Op) 0).run=some (.inl (zD (0+1))):=by
    unfold vJ
    dsimp only
    rw[nY (by rfl),qk ⟨⟨by omega,by simp⟩,λ_=>⟨⟨by omega,by simp⟩,λ_=>⟨by omega,by simp⟩⟩⟩,oy h,jz]
   rw[QA h1]
   refine oe ?_
   unfold vJ
   dsimp only
   rw[oy (by rfl),jz]
 obtain⟨z,hz⟩:=key
 unfold dM
 rw[fy hz]
 cases z with
 | inl u=>exact⟨false,jz _⟩
 | inr b=>exact⟨b,jz _⟩
set_option maxRecDepth 100000 in
set_option maxHeartbeats 4000000 in
theorem HV(o:Op):(wa o).run=some true:=by
 obtain⟨b,hb⟩:=RA o
 unfold wa
 rw[fy hb]
 cases b with
 | true=>rfl
 | false =>
  rw[oy rfl]
  apply evd
  ·repeat first
    | with_reducible exact jz _
    | with_reducible exact nxR
    | with_reducible apply nxL
    | with_reducible exact MZ
    | with_reducible apply GU
    | with_reducible apply Hm
    | with_reducible apply elL
    | with_reducible apply elR
    | (with_reducible apply N4; · first | decide +kernel | rfl | (simp[zT,zn,va,wg,vG]; done))
    | with_reducible apply IJ (by first | decide +kernel | rfl)
    | with_reducible apply Mg (by first | decide +kernel | rfl)
    | dsimp only
    | apply GU
    | (apply N4; · first | decide +kernel | rfl | (simp[zT,zn,va,wg,vG]; done))
    | apply IJ (by first | decide +kernel | rfl)
    | apply Mg (by first | decide +kernel | rfl)
    | apply Hm
    | exact jz _
  ·rfl
theorem bz(x:ZQ [cj])(hw:wfL [cj] x)(hb:RT [cj] x<=1048576):(wa (ER [cj] x)).run=some true:=HV _
end Go.AM.Lf
