/-
  The abstract machine, part B: texts of our own, the same for each claim.
-/
import Derived.Test.YthhgaidlooddpaaGreatDoorAmA
import Derived.Lib.AppendStr
import Derived.WideLaws
import Derived.Laws.BytesArg
import Derived.Laws.CopyRow
import Derived.Laws.IdiomCopy
set_option linter.unusedVariables false
namespace Go.AM
set_option linter.unusedSectionVars false
variable [vz]
section
variable {c:Ctx} {κ κ':KS}
theorem cS.mono(x:Ext κ κ'){b:Nat}(hp:κ'.ph[b]? = κ.ph[b]?)(hh:∀ blk n,κ.ph[b]? = some (some (blk,n))->κ'.w.heap[blk]? = κ.w.heap[blk]?){y:jW}(h:cS κ b y):cS κ' b y:=by
 cases y with
 | dead=>trivial
 | var d =>
  obtain⟨blk,n,cs,t,h1,h2,h3,h4,h5⟩:=h
  exact⟨blk,n,cs,t,hp.trans h1,(hh blk n h1).trans h2,h3,h4.mono x,h5⟩
 | arr qw e xs =>
  obtain⟨h0,h⟩:=h
  refine⟨h0,da h (λh=>⟨h.1,hp.trans h.2⟩) ?_⟩
  rintro⟨blk,n,cs,t,h1,h2,h3,h4,hr,f,h5⟩
  exact⟨blk,n,cs,t,hp.trans h1,(hh blk n h1).trans h2,h3,h4,hr,f,λi hi=>⟨(h5 i hi).1.mono x.same,(h5 i hi).2⟩⟩
def KS.zD(κ:KS)(w':World):KS:={ κ with w:=w',ok:=λk=>κ.ok k\/k=κ.w.heap.size }
structure cX(w w':World)(o:Obj):Prop where
 os:w'.os=w.os
 tape:w'.tape=w.tape
 output:w'.output=w.output
 heap:w'.heap=w.heap.push o
theorem cX.size{w w':World}{o:Obj}(g:cX w w' o):w'.heap.size=w.heap.size+1:=by rw[g.heap]; simp
theorem cX.old{w w':World}{o:Obj}(g:cX w w' o){k:Nat}(h:k<w.heap.size):w'.heap[k]? = w.heap[k]? := by
 rw[g.heap,Array.getElem?_push,if_neg (by omega)]
theorem cX.new{w w':World}{o:Obj}(g:cX w w' o):w'.heap[w.heap.size]? = some o:=by rw[g.heap]; simp
theorem cX.alloc(w:World)(o:Obj):cX w (w.alloc o) o:=⟨rfl,rfl,rfl,rfl⟩
theorem cX.drew(w:World)(o:Obj):cX w (w.drew.alloc o) o:=⟨rfl,rfl,rfl,rfl⟩
theorem Xm{w':World}{o:Obj}(hI:Inv κ)(g:cX κ.w w' o):Ext κ (κ.zD w'):=by
 refine⟨g.os,g.tape,g.output,by show κ.w.heap.size<=w'.heap.size; rw[g.size]; omega,λk hk=>⟨.inl hk,g.old (hI.y4 k hk)⟩,?_,λ_ _ _ h=>.inl h,λb d h=>⟨⟨d,h⟩,rfl⟩,
  λb v0 e xs h=>.inr ⟨v0,xs,h,Nat.le_refl _,λ_=>⟨rfl,rfl⟩⟩,λ_ h=>h,Nat.le_refl _,λk hk _=>g.old hk⟩
 rintro k (hk | hk)
 ·grind
 ·grind
theorem gb{w':World}{o:Obj}(hI:Inv κ)(g:cX κ.w w' o):Inv (κ.zD w'):=by
 refine⟨hI.len,?_,?_,hI.inj,?_,hI.gl.mono (Xm hI g).same⟩
 ·rintro k (hk | hk)
  ·have:=hI.y4 k hk; show k<w'.heap.size; rw[g.size]; omega
  ·show k<w'.heap.size; rw[g.size]; omega
 ·intro b blk n h
  obtain⟨h1,h2⟩:=hI.apart b blk n h
  refine⟨by show blk<w'.heap.size; rw[g.size]; omega,?_⟩
  rintro(hk | hk)
  ·exact h2 hk
  ·omega
 ·intro b x hx
  exact(hI.blk b x hx).mono (Xm hI g) rfl λblk n h=>g.old (hI.apart b blk n h).1
def KS.add(κ:KS)(w':World)(n:Nat)(x:jW):KS:={ κ with w:=w',ph:=κ.ph++[some (κ.w.heap.size,n)],st:=κ.st++[x] }
theorem nX{w':World}{o:Obj}{n:Nat}{x:jW}(hI:Inv κ)(g:cX κ.w w' o):Ext κ (κ.add w' n x):=by
 have xE:∀ b y,κ.st[b]? = some y->(κ.st++[x])[b]? = some y:=λb y h=>by rw[List.getElem?_append_left (List.getElem?_eq_some_iff.1 h).1]; exact h
 have Jd:∀ b y,κ.st[b]? = some y->(κ.ph++[some (κ.w.heap.size,n)])[b]? = κ.ph[b]? := λb y h=>by
  rw[List.getElem?_append_left]; rw[hI.len]; exact(List.getElem?_eq_some_iff.1 h).1
 refine⟨g.os,g.tape,g.output,by show κ.w.heap.size<=w'.heap.size; rw[g.size]; omega,λk hk=>⟨hk,g.old (hI.y4 k hk)⟩,λk hk=>.inl hk,?_,λb d h=>⟨⟨d,xE b _ h⟩,Jd b _ h⟩,
  λb v0 e xs h=>.inr ⟨v0,xs,xE b _ h,Nat.le_refl _,λ_=>⟨Jd b _ h,rfl⟩⟩,λb h=>xE b _ h,by simp[KS.add],λk hk _=>g.old hk⟩
 intro b blk m h
 simp only[KS.add]at h
 grind
theorem nI(hI:Inv κ){w':World}{n:Nat}{x:jW}:(κ.add w' n x).ph[κ.st.length]? = some (some (κ.w.heap.size,n)):=by
 simp[KS.add,<- hI.len]
theorem rW{w':World}{n:Nat}{x:jW}:(κ.add w' n x).st[κ.st.length]? = some x:=by simp[KS.add]
theorem Xr{w':World}{o:Obj}{n:Nat}{x:jW}(hI:Inv κ)(g:cX κ.w w' o)(hx:cS (κ.add w' n x) κ.st.length x):Inv (κ.add w' n x):=by
 have hold:∀ (b blk m:Nat),(κ.ph++[some (κ.w.heap.size,n)])[b]? = some (some (blk,m))->κ.ph[b]? = some (some (blk,m))\/(b=κ.ph.length/\blk=κ.w.heap.size):=by
  grind
 refine⟨by simp[KS.add,hI.len],?_,?_,?_,?_,hI.gl.mono (nX hI g).same⟩
 ·intro k hk; have:=hI.y4 k hk; show k<w'.heap.size; rw[g.size]; omega
 ·intro b blk m h
  rcases hold b blk m h with h | ⟨rfl,rfl⟩
  ·obtain⟨h1,h2⟩:=hI.apart b blk m h
   exact⟨by show blk<w'.heap.size; rw[g.size]; omega,h2⟩
  ·exact⟨by show κ.w.heap.size<w'.heap.size; rw[g.size]; omega,λhk=>absurd (hI.y4 _ hk) (Nat.lt_irrefl _)⟩
 ·intro b b' blk m m' h h'
  rcases hold b blk m h with h | ⟨rfl,rfl⟩<;>rcases hold b' _ m' h' with h' | ⟨rfl,h''⟩
  ·exact hI.inj b b' blk m m' h h'
  ·have:=(hI.apart b blk m h).1; omega
  ·have:=(hI.apart b' _ m' h').1; omega
  ·rfl
 ·intro b y hy
  simp only[KS.add]at hy
  by_cases hb:b<κ.st.length
  ·rw[List.getElem?_append_left hb]at hy
   refine(hI.blk b y hy).mono (nX hI g) ?_ λblk m h=>g.old (hI.apart b blk m h).1
   simp only[KS.add]
   rw[List.getElem?_append_left (by rw[hI.len]; exact hb)]
  ·grind
theorem Fy{d:D}{v:Value}{t:TypeId}(hI:Inv κ)(hd:RD κ d v)(ht:d.uj=false)(F2:∀ T,d.typed=some T->t=T) :
  ∃ κ':KS,κ'.w=κ.w.alloc (.cells v.cells t)/\κ'.st=κ.st++[.var d]/\Inv κ'/\Ext κ κ'/\RD κ' (.ptr κ.st.length 0) (.pointer (some ⟨κ.w.heap.size,0,none⟩)):=by
 have g:=cX.alloc κ.w (.cells v.cells t)
 have hx:=nX (n:=v.cells.size) (x:=.var d) hI g
 refine⟨κ.add _ v.cells.size (.var d),rfl,rfl,Xr hI g ?_,hx,.ptr _ 0 _ v.cells.size d rW (nI hI)⟩
 exact⟨κ.w.heap.size,v.cells.size,v.cells,t,nI hI,g.new,rfl,(uN hd ht).mono hx,uL hd,F2⟩
theorem MB{t:Nat}{x:Option D}{v:Value}{d:Option D}{zq:St}(hI:Inv κ)(hx:∀ z,x=some z->RD κ z v)
  (h:(zB (PZ x) κ.st).leads (d,zq)) :
  qt c.P (do Pure.pure (.value (<- Instr.box t v))) κ d zq:=by
 cases x with
 | none=>exact absurd h ze
 | some y =>
  simp only[PZ]at h
  cases ht:y.uj||y.typed.isSome with
  | true=>rw[ht]at h; exact absurd h ze
  | false =>
   rw[ht,cond_false]at h
   simp at ht
   obtain⟨ht,F2⟩:=ht
   have zcm:∀ T,y.typed=some T->t=T:=λT e=>by rw[e]at F2; cases F2
   obtain⟨rfl,rfl⟩:=h
   obtain⟨κ',h1,h2,h3,h4,h5⟩:=Fy (t:=t) hI (hx _ rfl) ht zcm
   refine⟨κ',_,_,?_,.inl rfl,h2,h3,h4,λ_ he=>by cases he; exact h5⟩
   simp[Instr.box,newVar,newRow,h1]
theorem z2N{d:D}{τ:Ty}{x:den τ}{v:Value}{t:TypeId}(hI:Inv κ)(hd:RD κ d v)(hx:cN τ d=some x) :
  ∃ κ':KS,κ'.w=κ.w.alloc (.cells v.cells t)/\κ'.st=κ.st/\Inv κ'/\Ext κ κ'/\RD κ' (.qN τ x) (.pointer (some ⟨κ.w.heap.size,0,none⟩)):=by
 have g:=cX.alloc κ.w (.cells v.cells t)
 have K3:=Xm hI g
 obtain⟨cs,h1,h2⟩:=RD.gb (gX hd hx)
 have hc:=tV h1.len h1.one
 have hn:(κ.w.alloc (.cells v.cells t)).heap[κ.w.heap.size]? = some (.cells v.cells t (0,0)):=g.new
 have rh:∀ j u,cs[j]? = some u->(κ.w.alloc (.cells v.cells t)).cell? ⟨κ.w.heap.size,0+j,none⟩=some u:=by
  simp
  grind
 exact⟨κ.zD _,rfl,rfl,gb hI g,K3,.qN τ x cs κ.w.heap.size 0 (.inr rfl) (h1.mono K3.same) rh⟩
theorem DE{t:Nat}{x:Option D}{v:Value}{d:Option D}{zq:St}(hI:Inv κ)(hx:∀ z,x=some z->RD κ z v)
  (h:(zB (Re c t x) κ.st).leads (d,zq)):qt c.P (do Pure.pure (.value (<- Instr.box t v))) κ d zq:=by
 have key:∀ (y:D) (τ:Ty) (z:den τ),x=some y->cN τ y=some z->(zB (val (.qN τ z)) κ.st).leads (d,zq)->qt c.P (do Pure.pure (.value (<- Instr.box t v))) κ d zq:=by
  intro y τ z hy hz h
  obtain⟨rfl,rfl⟩:=h
  obtain⟨κ',h1,h2,h3,h4,h5⟩:=z2N (t:=t) hI (hx y hy) hz
  refine⟨κ',_,_,?_,.inl rfl,h2,h3,h4,λ_ he=>by cases he; exact h5⟩
  simp[Instr.box,newVar,newRow,h1]
 unfold Re at h
 split at h
 ·rename_i τ z
  exact key _ τ z rfl (by simp[cN,wv]) h
 ·split at h
  ·split at h
   ·grind
   ·exact absurd h ze
  ·exact absurd h ze
 ·exact absurd h ze
theorem BG{t:Nat}{dst:Option Nat}{x:Option D}{v:Value}{d:Option D}{zq:St}(hI:Inv κ)(hx:∀ z,x=some z->RD κ z v)
  (h:(zB (MW c t dst x) κ.st).leads (d,zq)):qt c.P (do Pure.pure (.value (<- Instr.box t v))) κ d zq:=by
 unfold MW at h
 cases hb:z5J c dst with
 | true=>rw[hb]at h; exact DE hI hx h
 | false=>rw[hb]at h; exact MB hI hx h
theorem oP{v:Value}{d:D}(h:mT v=some d):RD κ d v/\d.one=true/\d.uj=false/\(∀ cs,v≠.agg cs):=by
 unfold mT at h
 split at h<;>cases h<;>refine⟨?_,rfl,rfl,λ_=>nofun⟩
 ·exact .int
 ·exact .bool
 ·rename_i s; have:=RD.str (κ:=κ) (s:=s.data.toList); simpa using this
 ·exact .xo
 ·exact .kG
 ·exact .vC
 ·exact .qP
 ·exact .vB
theorem Ww{v:Value}{d:D}(h:Qf v=some d):RD κ d v/\d.uj=false:=by
 unfold Qf at h
 split at h
 ·rename_i cs
  split at h
  ·rename_i l hl
   cases h
   have nQ:∀ x∈l,x.one=true:=by
    intro x hx
    have:some x∈cs.toList.map mT:=by rw[cr hl]; exact List.mem_map.2 ⟨x,hx,rfl⟩
    obtain⟨u,_,hu⟩:=List.mem_map.1 this
    exact(oP (κ:=κ) hu).2.1
   have hr:=yi (κ:=κ) (vs:=cs.toList) hl (by simp) (λi d v hd hv=>by
    simp only[List.getElem?_map,hv,Option.map_some,Option.some.injEq]at hd
    exact(oP hd).1)
   refine⟨?_,rfl⟩
   have:=RD.agg l cs.toList hr.1 nQ hr.2
   omega
  ·cases h
 ·exact⟨(oP h).1,(oP (κ:=κ) h).2.2.1⟩
theorem sX{v:Value}{d:D}(h:mT v=some d):(∀ l,d≠.agg l)/\(∀ T,d≠.bj T)/\∀ b T,d≠.kf b T:=by
 unfold mT at h
 grind
theorem HP{v:Value}{d:D}(h:Qf v=some d):d.typed=none:=by
 unfold Qf at h
 split at h
 ·rename_i cs
  split at h
  ·rename_i l hl
   cases h
   have hz:=cr hl
   cases l with
   | nil=>rfl
   | cons x r =>
    have:some x∈cs.toList.map mT:=by rw[hz]; simp
    obtain⟨u,_,hu⟩:=List.mem_map.1 this
    obtain⟨_,h1,h2⟩:=sX hu
    cases x<;>first | rfl | exact absurd rfl (h1 _) | exact absurd rfl (h2 _ _)
  ·cases h
 ·have:=(sX h).1
  cases d<;>first | rfl | exact absurd rfl (this _)
structure ZD(t:Nat)(d:D)(z:Value):Prop where
 rd:∀ κ:KS,RD κ d z
 kY:d.uj=false
 ty:∀ T,d.typed=some T->t=T
theorem PO{t:Nat}{d:D}{z:Value}(h:Qf z=some d):ZD t (ND c t d) z:=by
 have h0:∀ κ:KS,RD κ d z:=λκ=>(Ww h).1
 have h1:d.uj=false:=(Ww (κ:=⟨default,λ_=>False,[],[]⟩) h).2
 have h2:=HP h
 have same:ZD t d z:=⟨h0,h1,λT e=>by grind⟩
 unfold ND
 split
 ·rename_i r
  cases hs:z2r c t with
  | false=>exact same
  | true =>
   refine⟨λκ => ?_,rfl,λT e=>by cases e; rfl⟩
   cases h0 κ with
   | agg _ vs hl ho hh =>
    have hR:qA κ (.kG::r) vs:=⟨hl,hh⟩
    obtain⟨v,us,rfl,g1,g2⟩:=hR.cons_inv
    have hR2:qA κ (.bj t::r) (v::us):=.cons (by cases g1; exact .bj t) g2
    exact .agg _ _ hR2.1 (λx hx=>by
     rcases List.mem_cons.1 hx with rfl | hx
     ·rfl
     ·exact ho x (List.mem_cons_of_mem _ hx)) hR2.2
 ·exact same
theorem dr{t:Nat}{d:D}(h:Qj c t=some d):∃ i z,c.P.info? t=some i/\i.zero=some z/\ZD t d z:=by
 unfold Qj at h
 split at h
 ·rename_i i hi
  split at h
  ·rename_i z hz
   split at h
   ·rename_i d0 II
    cases h
    exact⟨i,z,hi,hz,PO II⟩
   ·cases h
  ·cases h
 ·cases h
theorem C0{t:Nat}{d:Option D}{zq:St}(hI:Inv κ)
  (h:(zB (iP c t) κ.st).leads (d,zq)) :
  qt c.P (do Pure.pure (.value (<- Instr.alloc t true (.tuple #[])))) κ d zq:=by
 unfold iP at h
 split at h
 ·rename_i y hy
  obtain⟨i,z,h1,h2,h3⟩:=dr hy
  obtain⟨rfl,rfl⟩:=h
  obtain⟨κ',g1,g2,g3,g4,g5⟩:=Fy (t:=t) hI (h3.rd κ) h3.kY h3.ty
  refine⟨κ',_,_,?_,.inl rfl,g2,g3,g4,λ_ he=>by cases he; exact g5⟩
  simp[Instr.alloc,zeroValue,typeInfo,h1,h2,newVar,newRow,g1]
 ·exact absurd h ze
end
end Go.AM
namespace Go.AM
set_option linter.unusedSectionVars false
variable [vz]
section
variable {c:Ctx} {κ:KS}
def KS.Yz(κ:KS)(b blk:Nat)(cs:Array Value)(x:jW):KS:={ κ with w:=κ.w.setRow blk cs,st:=κ.st.set b x }
def Alike:jW->jW->Prop
 | .var _,.var _=>True
 | .arr v e xs,.arr v' e' xs'=>e=e'/\v<=v'/\(v=v'->xs.length=xs'.length)
 | _,_=>False
theorem lC{b blk n:Nat}{cs:Array Value}{x y:jW}(hI:Inv κ)(hp:κ.ph[b]? = some (some (blk,n)))(hy:κ.st[b]? = some y)(ha:Alike y x):Ext κ (κ.Yz b blk cs x):=by
 have qs:b<κ.st.length:=(List.getElem?_eq_some_iff.1 hy).1
 have vy:∀ k,κ.ok k->k≠blk:=λk hk e=>(hI.apart b blk n hp).2 (e▸hk)
 refine⟨rfl,rfl,rfl,by simp[KS.Yz],λk hk=>⟨hk,setRow_other _ _ _ _ (vy k hk)⟩,λk hk=>.inl hk,λ_ _ _ h=>.inl h,?_,?_,?_,by simp[KS.Yz],?_⟩
 ·intro b' d hd
  refine⟨?_,rfl⟩
  simp only[KS.Yz,List.getElem?_set]
  split
  ·rename_i e
   subst e
   rw[hy]at hd; cases hd
   cases x<;>simp[Alike]at ha
   simp
  ·grind
 ·intro b' v0 e rB hd
  simp only[KS.Yz,List.getElem?_set]
  split
  ·rename_i e'
   subst e'
   rw[hy]at hd; cases hd
   cases x<;>simp[Alike]at ha
   grind
  ·grind
 ·intro b' hd
  simp only[KS.Yz,List.getElem?_set]
  split
  ·rename_i e
   subst e
   rw[hy]at hd; cases hd
   simp[Alike]at ha
  ·exact hd
 ·intro k hk hn
  exact setRow_other _ _ _ _ (λe=>hn b n (e▸hp))
theorem tf{b blk n:Nat}{cs:Array Value}{x y:jW}(hI:Inv κ)(hp:κ.ph[b]? = some (some (blk,n)))(hy:κ.st[b]? = some y)(ha:Alike y x)
  (hx:cS (κ.Yz b blk cs x) b x):Inv (κ.Yz b blk cs x):=by
 refine⟨by simp[KS.Yz,hI.len],?_,?_,hI.inj,?_,hI.gl.mono (lC hI hp hy ha).same⟩
 ·intro k hk; show k<(κ.w.setRow blk cs).heap.size; rw[setRow_size]; exact hI.y4 k hk
 ·intro b' fS m h
  obtain⟨h1,h2⟩:=hI.apart b' fS m h
  exact⟨by show fS<(κ.w.setRow blk cs).heap.size; rw[setRow_size]; exact h1,h2⟩
 ·intro b' z hz
  by_cases hb:b=b'
  ·subst hb
   simp only[KS.Yz]at hz
   grind
  ·simp only[KS.Yz,List.getElem?_set,if_neg hb]at hz
   refine(hI.blk b' z hz).mono (lC hI hp hy ha) rfl λfS m h => ?_
   refine setRow_other _ _ _ _ λe => ?_
   subst e
   exact hb (hI.inj b b' _ n m hp h)
theorem K1{d d':D}{t:Nat}(h:iu d d'=true)(hd:∀ T,d.typed=some T->t=T):∀ T,d'.typed=some T->t=T:=by
 intro T hT
 unfold iu at h
 rw[hT]at h
 cases II:d.typed with
 | none=>grind
 | some T' =>
  rw[II]at h
  have e:=Nat.eq_of_beq_eq_true h
  grind
theorem lX{t:Nat}{n blk o:Nat}{v:Value}{cs:Array Value}{T:TypeId}(hn:eE c t=some n)(hv:v.cells.toList.length=n)(h1:∀ u∈v.cells.toList,u.oneCell'=true)
  (hg:κ.w.heap[blk]? = some (.cells cs T (0,0))) (hle:o+n<=cs.size) :
  (storeVar t ⟨blk,o,none⟩ v).run c.P κ.w=.ok () (κ.w.setRow blk (cs.toList.take o++v.cells.toList++cs.toList.drop (o+n)).toArray):=by
 have hs:v.cells.size=n:=by simpa using hv
 have:=run_storeCells_at c.P blk o T v.cells.toList 0 cs κ.w hg (by grind) h1
 simp[storeVar,run_sizeOf hn,hs,this]
theorem eT{l:List D}{vs us:List Value}{x:List D}(h:qA κ l vs)(hx:qA κ x us)(o n:Nat) :
  qA κ (l.take o++x++l.drop (o+n)) (vs.take o++us++vs.drop (o+n)):=((h.take o).append hx).append (h.drop (o+n))
theorem rN{cs us:List Value}{o n:Nat}(hu:us.length=n)(ho:o+n<=cs.length)(p:Nat) :
  (cs.take o++us++cs.drop (o+n))[p]? = if p<o then cs[p]? else if p<o+n then us[p-o]? else cs[p]? := by grind
theorem J1{t:Nat}{d x r:D}{off:Nat}(h:B4 c t d off x=some r):∃ n,eE c t=some n/\0<n/\(qe x).length=n/\off+n<=(qe d).length /\
  qe r=(qe d).take off++qe x++(qe d).drop (off+n)/\((∀ y∈qe d,y.one=true)->(∀ y∈qe x,y.one=true)->∀ y∈qe r,y.one=true)/\x.uj=false:=by
 unfold B4 at h
 split at h
 ·cases h
 ·rename_i n hn
  cases hb:Nat.blt 0 n&&Nat.beq n (qe x).length&&Nat.ble (off+n) (qe d).length with
  | false=>grind
  | true =>
   rw[hb,cond_true]at h
   simp only[Bool.and_eq_true]at hb
   obtain⟨⟨h0,h1⟩,h2⟩:=hb
   have h0':0<n:=Nat.le_of_ble_eq_true h0
   have QS:n=(qe x).length:=Nat.eq_of_beq_eq_true h1
   have h2':=Nat.le_of_ble_eq_true h2
   have YS:x.uj=false:=by
    cases x with
    | kY l=>simp[qe]at QS; omega
    | _=>rfl
   cases hw:Nat.beq n (qe d).length with
   | true =>
    have h3:n=(qe d).length:=Nat.eq_of_beq_eq_true hw
    have h4:off=0:=by omega
    subst h4
    grind
   | false =>
    rw[hw,cond_false]at h
    cases h
    refine⟨n,hn,h0',QS.symm,h2',rfl,λhd hx y hy => ?_,YS⟩
    simp only[qe,List.mem_append]at hy
    rcases hy with(hy | hy) | hy
    ·exact hd y (List.mem_of_mem_take hy)
    ·exact hx y hy
    ·exact hd y (List.mem_of_mem_drop hy)
theorem nB{τ:Ty}{r:D}{x:den τ}{vs:List Value}(h:cN τ r=some x)(hr:qA κ (qe r) vs)(nQ:∀ y∈qe r,y.one=true)(ht:r.uj=false):Rc κ.w κ.ok τ x vs:=by
 cases r with
 | zD σ y=>obtain⟨rfl,rfl⟩:=qj h; exact Xt _ _ hr
 | agg l =>
  have:=gX (RD.agg l vs hr.1 nQ hr.2) h
  obtain⟨cs,h1,h2⟩:=RD.gb this
  have hc:=tV h1.len h1.one
  simp only[Value.cells]at hc
  grind
 | kY l=>cases ht
 | _ =>
  obtain⟨v,r',rfl,h1,h2⟩:=qA.cons_inv hr
  have e2:=h2.qc
  subst e2
  have h3:=gX h1 h
  obtain⟨cs,h4,h5⟩:=RD.gb h3
  have NR:τ.isAgg=false:=by
   cases hta:τ.isAgg with
   | false=>rfl
   | true=>simp[cN,D.isAgg,hta]at h
  obtain⟨u,rfl⟩:=h4.single NR
  rw[XP NR]at h5
  rwa [h5]
theorem Ci{t:Nat}{a x:Option D}{v u:Value}{d:Option D}{zq:St}(hI:Inv κ)(ha:∀ z,a=some z->RD κ z v)(hx:∀ z,x=some z->RD κ z u)
  (h:(zB (Xe c t a x) κ.st).leads (d,zq)):qt c.P (do Instr.storeAt t v u; Pure.pure .skip) κ d zq:=by
 unfold Xe at h
 split at h
 ·rename_i b off y
  simp only[zB]at h
  split at h
  ·rename_i d0 hb
   split at h
   ·rename_i r hr
    cases w7:iu d0 r with
    | false=>rw[w7]at h; exact h.elim
    | true =>
    rw[w7,cond_true]at h
    simp only[T.leads,Prod.mk.injEq]at h
    obtain⟨rfl,rfl⟩:=h
    obtain⟨n,hn,h0,YC,hle,GI,nQ,YS⟩:=J1 hr
    cases ha _ rfl with
    | ptr _ _ blk m d1 hd hp =>
     obtain⟨fS,m',cs,T,g1,g2,g3,g4,g5⟩:=hI.blk b _ hb
     rw[hp]at g1
     cases g1
     have hy:=hx _ rfl
     have hfy:=uN hy YS
     have hvl:u.cells.toList.length=n:=by rw[<- hfy.1]; exact YC
     have uo:off+n<=cs.size:=by have:=g4.1; simp at this; omega
     have h1:∀ z∈u.cells.toList,z.oneCell'=true:=by
      intro z hz
      obtain⟨i,hi,rfl⟩:=List.getElem_of_mem hz
      exact(hfy.2 i (hfy.1▸hi) hi).Xi (uL hy _ (List.getElem_mem _))
     have vi:=lX (c:=c) (κ:=κ) hn hvl h1 g2 uo
     have fc:Alike (.var d0) (.var r):=trivial
     let hM:=(cs.toList.take off++u.cells.toList++cs.toList.drop (off+n)).toArray
     have hex:=lC (cs:=hM) (x:=.var r) hI hp hb fc
     refine⟨κ.Yz b blk hM (.var r),.skip,undef,?_,.inr ⟨rfl,rfl⟩,rfl,tf hI hp hb fc ?_,hex,λ_ he=>by cases he⟩
     ·simp only[Sem.run_bind,Instr.storeAt,Instr.sureAddr,Sem.run_pure,Result.andThen_ok,vi]; rfl
     ·refine⟨blk,m,hM,T,hp,setRow_heap _ _ _ _ _ _ g2,?_,?_,nQ g5.1 (uL hy),K1 w7 g5.2⟩
      ·grind
      ·rw[GI]; exact(eT g4 hfy off n).mono hex
   ·exact h.elim
  ·exact h.elim
 ·rename_i b qw e idx off y
  simp only[zB]at h
  split at h
  ·rename_i jv e' xs hb
   cases he:decide (e'=e)with
   | false=>rw[he]at h; exact h.elim
   | true =>
    rw[he,cond_true]at h
    have My:e'=e:=of_decide_eq_true he
    subst My
    obtain⟨⟨rfl,qs⟩,h⟩:=h
    split at h
    ·rename_i r hr
     split at h
     ·rename_i z hz
      simp only[T.leads,Prod.mk.injEq]at h
      obtain⟨rfl,rfl⟩:=h
      obtain⟨n,hn,h0,YC,hle,GI,nQ,YS⟩:=J1 hr
      cases ha _ rfl with
      | vU _ _ _ _ _ blk o hold hp =>
       obtain⟨m,p1,rfl⟩:=hp xs hb qs
       obtain⟨uo,⟨Wg,_⟩ | ⟨fS,n',cs,T,g1,g2,g3,g4,gr,f,g5⟩⟩:=hI.blk b _ hb
       ·grind
       ·rw[p1]at g1
        cases g1
        rw[X7 qs]at hr GI hle nQ
        have hy:=hx _ rfl
        have hfy:=uN hy YS
        have hvl:u.cells.toList.length=n:=by rw[<- hfy.1]; exact YC
        obtain⟨k1,k2⟩:=g5 idx qs
        have YN:=k1.len
        have Ul:off+n<=e'.size:=by simpa[qe,sL]using hle
        have zgi:idx*e'.size+e'.size<=xs.length*e'.size:=by rw[<- Nat.succ_mul]; exact Nat.mul_le_mul_right _ qs
        have IY:idx*e'.size+off+n<=cs.size:=by omega
        have h1:∀ z∈u.cells.toList,z.oneCell'=true:=by
         intro z hz
         obtain⟨i,hi,rfl⟩:=List.getElem_of_mem hz
         exact(hfy.2 i (hfy.1▸hi) hi).Xi (uL hy _ (List.getElem_mem _))
        have vi:=lX (c:=c) (κ:=κ) hn hvl h1 g2 IY
        have fc:Alike (.arr qw e' xs) (.arr qw e' (xs.set idx z)):=⟨rfl,Nat.le_refl _,λ_=>by simp⟩
        let hM:=(cs.toList.take (idx*e'.size+off)++u.cells.toList++cs.toList.drop (idx*e'.size+off+n)).toArray
        have hex:=lC (cs:=hM) (x:=.arr qw e' (xs.set idx z)) hI p1 hb fc
        refine⟨κ.Yz b blk hM (.arr qw e' (xs.set idx z)),.skip,undef,?_,.inr ⟨rfl,rfl⟩,rfl,tf hI p1 hb fc ?_,hex,λ_ he=>by cases he⟩
        ·simp only[Sem.run_bind,Instr.storeAt,Instr.sureAddr,Sem.run_pure,Result.andThen_ok,vi]; rfl
        ·have hlen:hM.size=cs.size:=by simp[hM,hvl]; omega
         refine⟨uo,.inr ⟨blk,m,hM,T,p1,setRow_heap _ _ _ _ _ _ g2,by rw[hlen]; exact g3,by simpa using g4,?_⟩⟩
         -- cells of the element that is written
         let fi:=(f idx).take off++u.cells.toList++(f idx).drop (off+n)
         have zdr:qA κ (qe r) fi:=by
          rw[GI]
          exact eT (mK k1) hfy off n
         have hrt:r.uj=false:=by
          cases r with
          | kY l =>
           have h6:=congrArg List.length GI
           rw[List.length_append,List.length_append,YC]at h6
           have h7:(qe (D.kY l)).length=0:=rfl
           omega
          | _=>rfl
         have Bh:=nB hz zdr (nQ (dF _ _) (uL hy)) hrt
         have U2:∀ p,hM[p]? = if p<idx*e'.size+off then cs[p]? else if p<idx*e'.size+off+n then u.cells.toList[p-(idx*e'.size+off)]? else cs[p]? := by
          intro p
          have:=rN (cs:=cs.toList) (us:=u.cells.toList) hvl (by simpa using IY) p
          simpa only[hM,List.getElem?_toArray,Array.getElem?_toList]using this
         have zd6:∀ j,fi[j]? = if j<off then(f idx)[j]? else if j<off+n then u.cells.toList[j-off]? else(f idx)[j]? := λj=>rN hvl (by omega) j
         refine⟨gr,λi=>if i=idx then fi else f i,λi hi => ?_⟩
         rw[List.length_set]at hi
         by_cases hii:i=idx
         ·subst hii
          simp only[if_true,List.getElem_set_self]
          refine⟨Bh.mono hex.same,λj w hj => ?_⟩
          rw[zd6]at hj
          rw[U2]
          split at hj
          ·rw[if_pos (by omega)]; exact k2 j w hj
          ·split at hj
           ·rw[if_neg (by omega),if_pos (by omega)]; rw[<- hj]; congr 1; omega
           ·rw[if_neg (by omega),if_neg (by omega)]; exact k2 j w hj
         ·simp only[if_neg hii]
          obtain⟨q1,q2⟩:=g5 i hi
          refine⟨by rw[List.getElem_set_ne (λe=>hii e.symm)]; exact q1.mono hex.same,λj w hj => ?_⟩
          have Mh:j<e'.size:=by rw[<- q1.len]; exact(List.getElem?_eq_some_iff.1 hj).1
          rw[U2]
          rcases Nat.lt_or_gt_of_ne hii with VU | hgt'
          ·have:i*e'.size+e'.size<=idx*e'.size:=by rw[<- Nat.succ_mul]; exact Nat.mul_le_mul_right _ VU
           rw[if_pos (by omega)]; exact q2 j w hj
          ·have:idx*e'.size+e'.size<=i*e'.size:=by rw[<- Nat.succ_mul]; exact Nat.mul_le_mul_right _ hgt'
           rw[if_neg (by omega),if_neg (by omega)]; exact q2 j w hj
     ·exact h.elim
    ·exact h.elim
  ·exact h.elim
 ·exact absurd h ze
end
end Go.AM
namespace Go.AM
set_option linter.unusedSectionVars false
variable [vz]
section
variable {c:Ctx} {κ:KS}
theorem Qb:∀ (vs:List Value) (cells:Array Value) (off k:Nat),off+k+vs.length<=cells.size ->
  ((vs.zipIdx k).foldl (λ(cs:Array Value) (p:Value×Nat)=>cs.setIfInBounds (off+p.2) p.1) cells).toList=cells.toList.take (off+k)++vs++cells.toList.drop (off+k+vs.length)
 | [],cells,off,k,_=>by simp
 | v::vs,cells,off,k,h=>by
  simp only[List.length_cons]at h
  simp only[List.zipIdx_cons,List.foldl_cons]
  rw[Qb vs _ off (k+1) (by simp; omega)]
  have qs:off+k<cells.toList.length:=by simp; omega
  simp only[Array.toList_setIfInBounds,List.length_cons]
  have e1:(cells.toList.set (off+k) v).take (off+(k+1))=cells.toList.take (off+k)++[v]:=by
   rw[show off+(k+1)=off+k+1 by omega,List.take_succ_eq_append_getElem (by simpa using qs)]
   rw[List.take_set_of_le (Nat.le_refl _)]
   simp
  have e2:(cells.toList.set (off+k) v).drop (off+(k+1)+vs.length)=cells.toList.drop (off+k+(vs.length+1)):=by
   rw[List.drop_set_of_lt (by omega)]
   grind
  grind
theorem Ba{place:Nat->Option (Nat×Nat)}{cells:Array Value}{i off size:Nat}{v:Value}{rest:List (Nat×Value)}(hp:place i=some (off,size))(hs:v.cells.toList.length=size)(hle:off+size<=cells.size) :
  Instr.fill place cells ((i,v)::rest)=Instr.fill place (cells.toList.take off++v.cells.toList++cells.toList.drop (off+size)).toArray rest:=by
 have hs':v.cells.size=size:=by simpa using hs
 have hf:=Qb v.cells.toList cells off 0 (by grind)
 simp only[hs]at hf
 conv=>lhs; unfold Instr.fill
 simp only[hp]
 rw[if_neg (by grind)]
 congr 1
 apply Array.ext'
 rw[<- Array.foldl_toList,Array.toList_zipIdx]
 exact hf
theorem UW{e:Ty}{x:den e}{v:Value}(h:RD κ (.zD e x) v):Rc κ.w κ.ok e x v.cells.toList:=by
 obtain⟨cs,h1,rfl⟩:=RD.gb h
 rw[tV h1.len h1.one]; exact h1
theorem JS{e:Ty}{F:Operand->Option D}{G:Operand->Value}(hF:∀ x d,F x=some d->RD κ d (G x)):∀ (L:List (Nat×Operand)) (k:Nat) (cells:Array Value) (l:List (den e)),
  UC e k (L.map λp=>(p.1,F p.2))=some l->(k+L.length)*e.size<=cells.size ->
  ∃ di,Instr.fill (λi=>some (i*e.size,e.size)) cells (L.map λp=>(p.1,G p.2))=some di/\di.size=cells.size/\(∀ p,p<k*e.size->di[p]? = cells[p]?)/\l.length=L.length /\
   ∃ f:Nat->List Value,∀ i (hi:i<l.length),Rc κ.w κ.ok e l[i] (f i)/\∀ j v,(f i)[j]? = some v->di[(k+i)*e.size+j]? = some v
 | [],k,cells,l,h,_=>by
  simp only[List.map_nil,UC,Option.some.injEq]at h
  subst h
  exact⟨cells,rfl,rfl,λ_ _=>rfl,rfl,λ_=>[],λi hi=>absurd hi (Nat.not_lt_zero i)⟩
 | (i,x)::L,k,cells,l,h,hle=>by
  simp only[List.map_cons]at h
  cases hx:F x with
  | none=>rw[hx]at h; simp[UC]at h
  | some d =>
   rw[hx]at h
   simp only[UC]at h
   cases hb:Nat.beq k i with
   | false=>grind
   | true =>
    have hik:k=i:=Nat.eq_of_beq_eq_true hb
    subst hik
    rw[hb,cond_true]at h
    split at h
    ·rename_i y l' hy RU
     cases h
     have hr:=UW (gX (hF x d hx) hy)
     have hlen:=hr.len
     simp only[List.length_cons]at hle
     have hk1:(k+(L.length+1))*e.size=k*e.size+e.size+L.length*e.size:=by rw[Nat.add_mul,Nat.add_mul]; omega
     have rh:k*e.size+e.size<=cells.size:=by omega
     let c1:=(cells.toList.take (k*e.size)++(G x).cells.toList++cells.toList.drop (k*e.size+e.size)).toArray
     have Iw:c1.size=cells.size:=by simp only[c1,List.size_toArray,List.length_append,List.length_take,List.length_drop,hlen,Array.length_toList]; omega
     have hg:∀ p,c1[p]? = if p<k*e.size then cells[p]? else if p<k*e.size+e.size then(G x).cells.toList[p-k*e.size]? else cells[p]? := by
      grind
     obtain⟨di,h1,h2,h3,h4,f,h5⟩:=JS hF L (k+1) c1 l' RU (by rw[Iw,show k+1+L.length=k+(L.length+1) by omega]; exact hle)
     refine⟨di,?_,h2.trans Iw,?_,by simp[h4],λi=>match i with | 0=>(G x).cells.toList | i+1=>f i,?_⟩
     ·simp only[List.map_cons]
      rw[Ba rfl hlen rh]
      exact h1
     ·grind
     ·intro i hi
      cases i with
      | zero =>
       grind
      | succ i =>
       have:=h5 i (by simpa using hi)
       rw[show k+1+i=k+(i+1) by omega]at this
       exact this
    ·cases h
theorem mn{t n:Nat}(h:iv c t=some n):∃ i,c.P.info? t=some i/\i.bytes=n:=by
 unfold iv at h
 cases hi:c.P.info? t with
 | none=>grind
 | some i=>grind
theorem dU{et:Nat}{e:Ty}{z:den e}(h:zeroOf c et e=some z):∃ i v,c.P.info? et=some i/\i.zero=some v/\Rc κ.w κ.ok e z v.cells.toList:=by
 unfold zeroOf at h
 split at h
 ·rename_i d hd
  obtain⟨i,v,h1,h2,h3⟩:=dr hd
  exact⟨i,v,h1,h2,UW (gX (h3.rd κ) h)⟩
 ·cases h
theorem QZ{t n:Nat}{L:List (Nat×Operand)}{F:Operand->Option D}{G:Operand->Value}{d:Option D}{zq:St}(hI:Inv κ)(hF:∀ x d,F x=some d->RD κ d (G x))
  (h:(zB (iI c t n (L.map λp=>(p.1,F p.2))) κ.st).leads (d,zq)) :
  qt c.P (do Pure.pure (.value (<- Instr.buildSlice t n (L.map λp=>(p.1,G p.2)).toArray))) κ d zq:=by
 unfold iI at h
 split at h
 ·exact absurd h ze
 ·rename_i et het
  have hu:=vV het
  split at h
  ·rename_i e F2
   cases hb:jK c et e&&Nat.beq n (L.map λp=>(p.1,F p.2)).length&&Nat.ble n 1000&&Nat.ble e.size 100&&(zeroOf c et e).isSome with
   | false=>rw[hb]at h; exact absurd h ze
   | true =>
    rw[hb,cond_true]at h
    simp only[Bool.and_eq_true]at hb
    obtain⟨⟨⟨⟨w7,hn⟩,h1⟩,h2⟩,h3⟩:=hb
    have hn':n=L.length:=by have:=Nat.eq_of_beq_eq_true hn; simpa using this
    have QS:=Nat.le_of_ble_eq_true h1
    have h2':=Nat.le_of_ble_eq_true h2
    obtain⟨hs,_⟩:=wZ w7
    obtain⟨z,hz⟩:=Option.isSome_iff_exists.1 h3
    obtain⟨i,zv,CF,QL,hi3⟩:=dU (κ:=κ) hz
    split at h
    ·rename_i l hl
     cases O7:Nat.beq n 0&&Nat.blt 0 e.size with
     | true =>
     rw[O7,cond_true]at h
     simp only[Bool.and_eq_true]at O7
     obtain⟨O7,uo⟩:=O7
     have IY:0<e.size:=Nat.le_of_ble_eq_true uo
     have Mo:=Nat.eq_of_beq_eq_true O7
     have hL:L=[]:=List.eq_nil_of_length_eq_zero (hn'.symm.trans Mo)
     subst hL
     subst Mo
     simp only[zB,T.leads,Prod.mk.injEq]at h
     obtain⟨rfl,rfl⟩:=h
     have g:=cX.alloc κ.w (.cells #[] et)
     have hex:=nX (n:=0) (x:=.arr 0 e ([]:List (den e))) hI g
     have vi:(Instr.buildSlice t 0 (([]:List (Nat×Operand)).map λp=>(p.1,G p.2)).toArray).run c.P κ.w=.ok (.slice (some ⟨κ.w.heap.size,0,none⟩) 0 0) (κ.w.alloc (.cells #[] et)):=by
      simp[Instr.buildSlice,Sem.run_bind,run_underlying hu,Result.andThen_ok,run_sizeOf hs,Instr.fill,newRow]
      grind
     refine⟨κ.add _ 0 (.arr 0 e []),_,.slice (some ⟨κ.w.heap.size,0,none⟩) 0 0,by simp only[Sem.run_bind,vi,Result.andThen_ok]; rfl,.inl rfl,rfl,Xr hI g ?_,hex,?_⟩
     ·exact⟨IY,.inr ⟨κ.w.heap.size,0,#[],et,nI hI,g.new,rfl,by simp,Z2 w7,λ_=>[],λi hi=>absurd hi (Nat.not_lt_zero i)⟩⟩
     ·intro d' ke
      cases ke
      refine .ms _ 0 e 0 0 0 _ (.inr ⟨0,e,_,rW,Nat.le_refl _⟩) (by omega) nofun (λp hp=>by cases hp; rfl) λxs Xo => ?_
      rw[rW]at Xo
      cases Xo
      exact⟨by simp,.inr ⟨κ.w.heap.size,0,0,0,nI hI,rfl,by omega,by simp,.inl rfl⟩⟩
     | false =>
     rw[O7,cond_false,jj]at h
     obtain⟨rfl,rfl⟩:=h
     subst hn'
     have hle:L.length*e.size<=100000:=Nat.le_trans (Nat.mul_le_mul QS h2') (by decide)
     have Sd:zv.cells.size=e.size:=by have:=hi3.len; simpa using this
     let cells:Array Value:=(Array.range (L.length*e.size)).map ((if L.length*e.size=0 then #[]else zv.cells)[· % (if L.length*e.size=0 then #[]else zv.cells).size]!)
     have ZF:cells.size=L.length*e.size:=by simp[cells]
     obtain⟨di,g1,g2,_,g4,f,g5⟩:=JS hF L 0 cells l hl (by rw[ZF]; simp)
     have g:=cX.alloc κ.w (.cells di et)
     have hex:=Xm hI g
     refine⟨κ.zD _,_,.slice (some ⟨κ.w.heap.size,0,none⟩) L.length L.length,?_,.inl rfl,rfl,gb hI g,hex,?_⟩
     ·have B9:Instr.fill (λi=>some (i*e.size,e.size)) cells (L.map λp=>(p.1,G p.2))=some di:=g1
      simp only[cells]at B9
      simp only[Instr.buildSlice,Sem.run_bind,run_underlying hu,Result.andThen_ok,run_sizeOf hs,gt_iff_lt,if_neg (show ¬ 2 ^ 24<L.length*e.size by omega)]
      by_cases h0:L.length*e.size=0
      ·simp only[if_pos h0]at B9 ⊢
       simp only[Sem.run_bind,Sem.run_pure,Result.andThen_ok,B9]
       rfl
      ·simp only[if_neg h0]at B9 ⊢
       simp only[Sem.run_bind,Sem.run_pure,Result.andThen_ok,zeroValue,typeInfo,run_program,CF,QL,B9]
       rfl
     ·intro d' ke
      cases ke
      have rh:∀ i,i<l.length->∀ j v,(f i)[j]? = some v->(κ.zD (κ.w.alloc (.cells di et))).w.cell? ⟨κ.w.heap.size,0+i*e.size+j,none⟩=some v:=by
       intro i hi j v hj
       have:=(g5 i hi).2 j v hj
       simp only[Nat.zero_add]at this ⊢
       rw[oQ (κ:=κ.zD (κ.w.alloc (.cells di et))) g.new]
       exact this
      rw[<- g4]
      refine .tight e l _ κ.w.heap.size 0 f ?_ (.inr rfl) (λi hi=>(g5 i hi).1.mono hex.same) rh
      intro vy Wg
      subst Wg
      simp at g4
      simp[<- g4]at vy
    ·exact absurd h ze
  ·exact absurd h ze
end
end Go.AM
namespace Go.AM
set_option linter.unusedSectionVars false
variable [vz]
section
variable {c:Ctx} {κ:KS}
theorem IP{t:Nat}{x y:Option D}{v u:Value}{d:Option D}{zq:St}(hI:Inv κ)(hx:∀ z,x=some z->RD κ z v)(hy:∀ z,y=some z->RD κ z u)
  (h:(zB (CX c t x y) κ.st).leads (d,zq)):qt c.P (do Pure.pure (.value (<- Instr.makeSlice t v u))) κ d zq:=by
 unfold CX at h
 split at h
 ·rename_i et k n k' m het hn hm
  have hu:=vV het
  have:=vK hn hx
  subst this
  have:=vK hm hy
  subst this
  split at h
  ·rename_i e bytes F2 Bq
   split at h
   ·rename_i z hz
    cases hb:jK c et e&&Nat.blt 0 e.size with
    | false=>rw[hb]at h; exact absurd h ze
    | true =>
     rw[hb,cond_true]at h
     simp only[Bool.and_eq_true]at hb
     obtain⟨w7,uo⟩:=hb
     have IY:0<e.size:=Nat.le_of_ble_eq_true uo
     obtain⟨hs,_⟩:=wZ w7
     simp only[zB,T.leads,Prod.mk.injEq]at h
     obtain⟨⟨h0,h1,h2,h3⟩,rfl,rfl⟩:=h
     obtain⟨i,zv,CF,QL,hi3⟩:=dU (κ:=κ) hz
     obtain⟨ib,z7A,zck⟩:=mn Bq
     obtain⟨i',z7K,zg5⟩:=cR hs
     rw[CF]at z7A z7K
     cases z7A
     cases z7K
     have Sd:zv.cells.size=e.size:=by have:=hi3.len; simpa using this
     let N:=m.toNat*e.size
     let cells:Array Value:=(Array.range N).map (zv.cells[· % zv.cells.size]!)
     have ZF:cells.size=N:=by simp[cells]
     have vi:(Instr.makeSlice t (.int k n) (.int k' m)).run c.P κ.w=.ok (.slice (some ⟨κ.w.heap.size,0,none⟩) n.toNat m.toNat) (κ.w.alloc (.cells cells et)):=by
      have w1:IntKind.i64.wrap n=n:=IntWalk.i64_in _ (by omega)
      have w2:IntKind.i64.wrap m=m:=IntWalk.i64_in _ (by omega)
      have hmb:¬ ((2:Int) ^ 48<bytes*m):=by
       grind
      have ai:∀ k n w,(Go.asInt (.int k n)).run c.P w=.ok n w:=λk n w=>by simp[Go.asInt,asIntOf]
      have hm0:¬ (m<0):=by omega
      have Mo:¬ (n<0):=by omega
      have hnm:¬ (m<n):=by omega
      simp only[Instr.makeSlice,Sem.run_bind,run_underlying hu,Result.andThen_ok,ai,typeInfo,run_program,CF,zck,w1,w2,Sem.run_pure,gt_iff_lt,hm0,Mo,hnm,hmb,decide_false,Bool.or_self,Bool.false_eq_true,if_false,run_askRoom,run_sizeOf hs]
      by_cases O7:m.toNat*e.size=0
      ·have hce:cells = #[]:=Array.eq_empty_of_size_eq_zero (by rw[ZF]; exact O7)
       have e2:∀ g:Nat->Value,(Array.range (m.toNat*e.size)).map g = #[]:=λg=>by rw[O7]; simp
       simp only[if_pos O7,Sem.run_bind,Sem.run_pure,Result.andThen_ok,newRow,run_newObj,e2]
       rw[hce]
       rfl
      ·simp only[if_neg O7,Sem.run_bind,Sem.run_pure,Result.andThen_ok,newRow,run_newObj,zeroValue,typeInfo,run_program,CF,QL]
       rfl
     have g:=cX.alloc κ.w (.cells cells et)
     have hex:=nX (n:=N) (x:=.arr n.toNat e (List.replicate n.toNat z)) hI g
     refine⟨κ.add _ N (.arr n.toNat e (List.replicate n.toNat z)),_,.slice (some ⟨κ.w.heap.size,0,none⟩) n.toNat m.toNat,by simp only[Sem.run_bind,vi,Result.andThen_ok]; rfl,.inl rfl,rfl,Xr hI g ?_,hex,?_⟩
     ·refine⟨IY,.inr ⟨κ.w.heap.size,N,cells,et,nI hI,g.new,ZF,?_,Z2 w7,λ_=>zv.cells.toList,λi hi => ?_⟩⟩
      ·rw[List.length_replicate]; exact Nat.mul_le_mul_right _ (by omega)
      ·rw[List.length_replicate]at hi
       refine⟨by rw[List.getElem_replicate]; exact hi3.mono hex.same,λj w hj => ?_⟩
       have Mh:j<e.size:=by rw[<- hi3.len]; exact(List.getElem?_eq_some_iff.1 hj).1
       have qs:i*e.size+j<N:=by
        have:i*e.size+e.size<=N:=by rw[<- Nat.succ_mul]; exact Nat.mul_le_mul_right _ (by omega)
        omega
       have z4W:(i*e.size+j) % e.size=j:=by rw[Nat.mul_comm,Nat.mul_add_mod,Nat.mod_eq_of_lt Mh]
       grind
     ·intro d' ke
      cases ke
      refine .ms _ n.toNat e 0 n.toNat m.toNat _ (.inr ⟨n.toNat,e,_,rW,Nat.le_refl _⟩) (by omega) nofun (λp hp=>by cases hp; rfl) λxs Xo => ?_
      rw[rW]at Xo
      cases Xo
      refine⟨by simp,.inr ⟨κ.w.heap.size,N,0,m.toNat,nI hI,rfl,by omega,by simp[N],.inr (by simp)⟩⟩
   ·exact absurd h ze
  ·exact absurd h ze
 ·exact absurd h ze
end
end Go.AM
namespace Go.AM
set_option linter.unusedSectionVars false
variable [vz]
section
variable {c:Ctx} {κ:KS}
def k8(f:Nat->List Value):Nat->List Value
 | 0=>[]
 | n+1=>k8 f n++f n
theorem ue{f:Nat->List Value}{s:Nat}:∀ {n:Nat},(∀ i,i<n->(f i).length=s)->(k8 f n).length=n*s
 | 0,_=>by simp[k8]
 | n+1,h=>by rw[k8,List.length_append,ue (λi hi=>h i (by omega)),h n (by omega),Nat.add_mul]; omega
theorem oF{f:Nat->List Value}{s:Nat}:∀ {n:Nat},(∀ i,i<n->(f i).length=s)->∀ i j,i<n->j<s->(k8 f n)[i*s+j]? = (f i)[j]?
 | 0,_,i,_,hi,_=>absurd hi (Nat.not_lt_zero i)
 | n+1,h,i,j,hi,hj=>by
  have hl:=ue (f:=f) (n:=n) (λi hi=>h i (by omega))
  rw[k8]
  by_cases QF:i<n
  ·have:i*s+s<=n*s:=by rw[<- Nat.succ_mul]; exact Nat.mul_le_mul_right _ QF
   rw[List.getElem?_append_left (by omega)]
   exact oF (λi hi=>h i (by omega)) i j QF hj
  ·grind
theorem JU{f:Nat->List Value}:∀ {n:Nat},(∀ i,i<n->∀ v∈f i,v.oneCell'=true)->∀ v∈k8 f n,v.oneCell'=true
 | 0,_,v,hv=>by simp[k8]at hv
 | n+1,h,v,hv=>by
  rw[k8,List.mem_append]at hv
  rcases hv with hv | hv
  ·exact JU (λi hi=>h i (by omega)) v hv
  ·grind
theorem HY{f:Nat->List Value}{s:Nat}{n p:Nat}{v:Value}(hs:0<s)(h:∀ i,i<n->(f i).length=s)(hp:(k8 f n)[p]? = some v):∃ i j,i<n/\j<s/\p=i*s+j/\(f i)[j]? = some v:=by
 have qs:=(List.getElem?_eq_some_iff.1 hp).1
 rw[ue h]at qs
 have hi:p / s<n:=(Nat.div_lt_iff_lt_mul hs).2 qs
 have hj:=Nat.mod_lt p hs
 have he:p / s*s+p % s=p:=Nat.div_add_mod' p s
 refine⟨p / s,p % s,hi,hj,he.symm,?_⟩
 rw[<- oF h _ _ hi hj,he]; exact hp
def Mg(κ:KS):Nat->Prop:=λk=>κ.ok k\/∃ b n:Nat,κ.ph[b]? = some (some (k,n))
structure Src(κ:KS)(e:Ty)(ys:List (den e))(v:Value):Prop where
 ex:∃ (a:Option Addr) (cap:Nat) (f:Nat->List Value),v=.slice a ys.length cap/\ys.length<=cap/\(a=none->ys=[]/\cap=0)/\(∀ i (hi:i<ys.length),Rc κ.w κ.ok e ys[i] (f i)) /\
  ∀ p,a=some p->(ys=[]/\cap=0)\/(p.spot=none/\Mg κ p.block/\∀ i,i<ys.length->∀ j u,(f i)[j]? = some u->κ.w.cell? ⟨p.block,p.off+i*e.size+j,none⟩=some u)
theorem FQ{e:Ty}{ys:List (den e)}{v:Value}(h:RD κ (.zD (.sl e) ys) v):Src κ e ys v:=by
 rcases(h.wU rfl).Zi with⟨rfl,a0,he⟩ | ⟨blk,off,cap,f,he,w7,wM,h1,h2⟩
 ·cases he; exact⟨⟨a0,0,λ_=>[],rfl,Nat.le_refl _,λ_=>⟨rfl,rfl⟩,λi hi=>absurd hi (Nat.not_lt_zero i),λ_ _=>.inl ⟨rfl,rfl⟩⟩⟩
 ·cases he; exact⟨⟨some ⟨blk,off,none⟩,cap,f,rfl,wM,nofun,h1,λp hp=>by cases hp; exact .inr ⟨rfl,.inl w7,h2⟩⟩⟩
theorem oR{e:Ty}{ys:List (den e)}{ne:Bool}{v:Value}(h:RD κ (.tight e ys ne) v):Src κ e ys v:=by
 cases h with
 | xd _ a0=>exact⟨⟨a0,0,λ_=>[],rfl,Nat.le_refl _,λ_=>⟨rfl,rfl⟩,λi hi=>absurd hi (Nat.not_lt_zero i),λ_ _=>.inl ⟨rfl,rfl⟩⟩⟩
 | tight _ _ _ blk off f vy w7 h1 h2=>exact⟨⟨some ⟨blk,off,none⟩,_,f,rfl,Nat.le_refl _,nofun,h1,λp hp=>by cases hp; exact .inr ⟨rfl,.inl w7,h2⟩⟩⟩
theorem Xu{e:Ty}{v:Value}(h:RD κ .xo v):Src κ e [] v:=by
 cases h; exact⟨⟨none,0,λ_=>[],rfl,Nat.le_refl _,λ_=>⟨rfl,rfl⟩,λi hi=>absurd hi (Nat.not_lt_zero i),nofun⟩⟩
theorem BW{b qw off len:Nat}{e:Ty}{xs:List (den e)}{v:Value}(hI:Inv κ)(h:RD κ (.ms b qw e off len) v)(hb:κ.st[b]? = some (.arr qw e xs)):Src κ e ((xs.take (off+len)).drop off) v/\off+len<=xs.length:=by
 cases h with
 | ms _ _ _ _ _ cap a hold wM ha mW hm =>
  obtain⟨hle,hm⟩:=hm xs hb
  have hl:((xs.take (off+len)).drop off).length=len:=by simp; omega
  have hg:∀ i (hi:i<((xs.take (off+len)).drop off).length),∃ h:off+i<xs.length,((xs.take (off+len)).drop off)[i]=xs[off+i]:=λi hi=>⟨by omega,by simp[List.getElem_drop,List.getElem_take]⟩
  refine⟨?_,hle⟩
  rcases hm with⟨rfl,rfl,hv,hp⟩ | ⟨blk,n,o,Cw,h3,h4,h5,h6,h7⟩
  ·cases hv
   have:(xs.take (0+0)).drop 0=[]:=by simp
   rw[this]
   exact⟨⟨none,0,λ_=>[],rfl,Nat.le_refl _,λ_=>⟨rfl,rfl⟩,λi hi=>absurd hi (Nat.not_lt_zero i),nofun⟩⟩
  ·cases h4
   obtain⟨uo,⟨Wg,_⟩ | ⟨fS,n',cs,T,g1,g2,g3,g4,gr,f,g5⟩⟩:=hI.blk b _ hb
   ·grind
   ·rw[h3]at g1
    cases g1
    refine⟨⟨some ⟨blk,o,none⟩,cap,λi=>f (off+i),by rw[hl],by rw[hl]; exact wM,nofun,λi hi => ?_,λp hp => ?_⟩⟩
    ·grind
    ·cases hp
     refine .inr ⟨rfl,.inr ⟨b,n,h3⟩,λi hi j u hj => ?_⟩
     obtain⟨k1,_⟩:=hg i hi
     have:=(g5 _ k1).2 j u hj
     rw[oQ g2]
     rcases h7 with h7 | h7
     ·omega
     ·rw[h7,<- Nat.add_mul]; exact this
theorem Zk{e:Ty}{ys:List (den e)}{v:Value}(h:Src κ e ys v)(uo:0<e.size):∃ (news:List Value) (f:Nat->List Value),news=k8 f ys.length/\(∀ i (hi:i<ys.length),Rc κ.w κ.ok e ys[i] (f i)) /\
  (∀ P,(Builtin.lenOf v).run P κ.w=.ok ys.length κ.w)/\(∀ P,(Builtin.firstCells e.size ys.length v).run P κ.w=.ok news.toArray κ.w)/\(∀ P,(Builtin.firstCells e.size ys.length v).run P κ.w.drew=.ok news.toArray κ.w.drew):=by
 obtain⟨a,cap,f,rfl,_,hn,h1,h2⟩:=h.ex
 have hf:∀ i,i<ys.length->(f i).length=e.size:=λi hi=>(h1 i hi).len
 refine⟨k8 f ys.length,f,rfl,h1,λP=>rfl,λP => ?_,λP => ?_⟩
 all_goals
  cases a with
  | none=>have:=(hn rfl).1; subst this; simp[Builtin.firstCells,k8]
  | some p =>
   rcases h2 p rfl with⟨rfl,_⟩ | ⟨hp,_,hc⟩
   ·simp[Builtin.firstCells,k8,loadCells,loadCellsFrom]
   obtain⟨blk,o,sp⟩:=p
   subst hp
   refine run_firstCells_some (P:=P) _ e.size ys.length ⟨blk,o,none⟩ ys.length cap (k8 f ys.length) (ue hf) λj u hj => ?_
   obtain⟨i,k,hi,hk,rfl,hu⟩:=HY uo hf hj
   rw[vc]
   try rw[World.cell?_drew]
   grind
structure Cel(κ:KS)(e:Ty)(ys:List (den e))(v:Value):Prop where
 ex:∃ (news:List Value) (f:Nat->List Value),news=k8 f ys.length/\(∀ i (hi:i<ys.length),Rc κ.w κ.ok e ys[i] (f i)) /\
  (∀ P,(Builtin.lenOf v).run P κ.w=.ok ys.length κ.w)/\(∀ P,(Builtin.firstCells e.size ys.length v).run P κ.w=.ok news.toArray κ.w)/\(∀ P,(Builtin.firstCells e.size ys.length v).run P κ.w.drew=.ok news.toArray κ.w.drew)
theorem Tn{e:Ty}{ys:List (den e)}{v:Value}(h:Src κ e ys v)(uo:0<e.size):Cel κ e ys v:=⟨Zk h uo⟩
def Rg(c:Ctx)(t2:TypeId):Prop:=(∃ e,c.P.underlying t2=some (.slice e))\/c.P.underlying t2=some .string
section run
variable {t t2 e:TypeId} {i:TypeInfo} {z:Value} {sLen sCap n:Nat} {base:Option Addr} {x:Value} {news olds:List Value} {ty:TypeId}
theorem run_append_fits(ht:c.P.underlying t=some (.slice e))(JK:Rg c t2)(hi:c.P.info? e=some i)(hlen:∀ P,(Builtin.lenOf x).run P κ.w=.ok n κ.w)(hf:∀ P,(Builtin.firstCells i.size n x).run P κ.w=.ok news.toArray κ.w)
  (lR:sLen+n<=sCap) {w':World} (xE:(match base with | some a=>storeCells (a.add (sLen*i.size)) news | none=>pure ()).run c.P κ.w=.ok () w') :
  (Builtin.append_ #[t,t2] ty #[.slice base sLen sCap,x]).run c.P κ.w=.ok (.slice base (sLen+n) sCap) w':=by
 rcases JK with⟨e2,JK⟩ | JK
 all_goals cases base with
 | none=>simp at xE; subst xE; simp[Builtin.append_,run_underlying ht,run_underlying JK,sizeOf,typeInfo,hi,hlen,lR,hf]
 | some a=>simp only at xE; simp[Builtin.append_,run_underlying ht,run_underlying JK,sizeOf,typeInfo,hi,hlen,lR,hf,xE]
theorem nb(ht:c.P.underlying t=some (.slice e))(JK:Rg c t2)(hi:c.P.info? e=some i)(hz:i.zero=some z)(hlen:∀ P,(Builtin.lenOf x).run P κ.w=.ok n κ.w)(hf:∀ P,(Builtin.firstCells i.size n x).run P κ.w.drew=.ok news.toArray κ.w.drew)
  (ho:∀ P,(Builtin.firstCells i.size sLen (.slice base sLen sCap)).run P κ.w.drew=.ok olds.toArray κ.w.drew)
  (hg:sCap<sLen+n) (h63:((sLen+n:Nat):Int)<=9223372036854775807) (hb:(sLen+n)*i.bytes<=140737488355328) :
  (Builtin.append_ #[t,t2] ty #[.slice base sLen sCap,x]).run c.P κ.w=.ok (.slice (some ⟨κ.w.heap.size,0,none⟩) (sLen+n) (grownCap κ.w (sLen+n) sCap e))
   (κ.w.drew.alloc (.cells (olds.toArray++news.toArray++Builtin.zeroCells z.cells (grownCap κ.w (sLen+n) sCap e-(sLen+n))) e)):=by
 have h1:¬ (sLen+n<=sCap):=by omega
 have h2:¬ (9223372036854775807<((sLen+n:Nat):Int)):=by omega
 have h3:=growslice_fits (bytes:=i.bytes) hg hb
 have h4:¬ (281474976710656<Builtin.nextslicecap (sLen+n) sCap*i.bytes):=by omega
 have h5:IntKind.i64.max=9223372036854775807:=by decide
 rcases JK with⟨e2,JK⟩ | JK
 all_goals
  simp[Builtin.append_,run_underlying ht,run_underlying JK,sizeOf,typeInfo,zeroValue,hi,hz,hlen,hf,ho,Question.forced,newRow,grownCap]
  grind
end run
theorem mO(z:Array Value)(n:Nat):(Builtin.zeroCells z n).size=n*z.size:=by simp[Builtin.zeroCells]
theorem WT{e:Ty}{l ys:List (den e)}{f g:Nat->List Value}(hl:∀ i (hi:i<l.length),Rc κ.w κ.ok e l[i] (f i))(hy:∀ i (hi:i<ys.length),Rc κ.w κ.ok e ys[i] (g i))(zs:List Value) :
  ∀ i (hi:i<(l++ys).length),Rc κ.w κ.ok e (l++ys)[i] (if i<l.length then f i else g (i-l.length)) /\
   ∀ j v,(if i<l.length then f i else g (i-l.length))[j]? = some v->(k8 f l.length++k8 g ys.length++zs)[i*e.size+j]? = some v:=by
 have YC:∀ i,i<l.length->(f i).length=e.size:=λi hi=>(hl i hi).len
 have Nq:∀ i,i<ys.length->(g i).length=e.size:=λi hi=>(hy i hi).len
 have h1:=ue YC
 have h2:=ue Nq
 intro i hi
 by_cases LL:i<l.length
 ·simp only[if_pos LL]
  refine⟨by grind,λj v hj => ?_⟩
  have Mh:j<e.size:=by rw[<- YC i LL]; exact(List.getElem?_eq_some_iff.1 hj).1
  have:i*e.size+e.size<=l.length*e.size:=by rw[<- Nat.succ_mul]; exact Nat.mul_le_mul_right _ LL
  rw[List.append_assoc,List.getElem?_append_left (by omega),oF YC i j LL Mh]
  exact hj
 ·simp only[if_neg LL]
  simp only[List.length_append]at hi
  have z4T:i-l.length<ys.length:=by omega
  refine⟨by grind,λj v hj => ?_⟩
  have Mh:j<e.size:=by rw[<- Nq _ z4T]; exact(List.getElem?_eq_some_iff.1 hj).1
  have e1:i*e.size=l.length*e.size+(i-l.length)*e.size:=by rw[<- Nat.add_mul]; congr 1; omega
  have:(i-l.length)*e.size+e.size<=ys.length*e.size:=by rw[<- Nat.succ_mul]; exact Nat.mul_le_mul_right _ z4T
  rw[List.append_assoc,List.getElem?_append_right (by omega),h1,List.getElem?_append_left (by omega)]
  rw[show i*e.size+j-l.length*e.size=(i-l.length)*e.size+j by omega,oF Nq _ j z4T Mh]
  exact hj
theorem Co{t t2 et:Nat}{e:Ty}{l ys:List (den e)}{sv v:Value}{bytes:Nat}{ty:Nat}(hI:Inv κ)(hu:c.P.underlying t=some (.slice et))(Pc:Rg c t2)(w7:jK c et e=true)(uo:0<e.size)(Bq:iv c et=some bytes)(hz:∃ y,zeroOf c et e=some y)
  (hs:Src κ e l sv) (wM:∃ a,sv=.slice a l.length l.length) (hv:Cel κ e ys v) (vy:ys≠[]) (hb:(l.length+ys.length)*bytes<=140737488355328) (hn:l.length+ys.length<=9223372036854775807) :
  ∃ (κ':KS) (r:Value),(Builtin.append_ #[t,t2] ty #[sv,v]).run c.P κ.w=.ok r κ'.w/\κ'.st=κ.st++[.arr (l.length+ys.length) e (l++ys)]/\Inv κ'/\Ext κ κ'/\RD κ' (.ms κ.st.length (l.length+ys.length) e 0 (l.length+ys.length)) r:=by
 obtain⟨RG,_⟩:=wZ w7
 obtain⟨i,CF,QL⟩:=cR RG
 obtain⟨y,hy⟩:=hz
 obtain⟨i',zv,g1,g2,g3⟩:=dU (κ:=κ) hy
 obtain⟨i'',k1,k2⟩:=mn Bq
 rw[CF]at g1 k1
 cases g1
 cases k1
 obtain⟨olds,f,MD,RZ,ho3,ho4,ho5⟩:=Zk hs uo
 obtain⟨news,g,H2,XY,hn3,hn4,hn5⟩:=hv.ex
 obtain⟨a,hsv⟩:=wM
 subst hsv
 have sE:0<ys.length:=List.length_pos_iff.2 vy
 have vi:=nb (c:=c) (κ:=κ) (t:=t) (t2:=t2) (e:=et) (ty:=ty) (base:=a) (sLen:=l.length) (sCap:=l.length) (n:=ys.length) (x:=v) (news:=news) (olds:=olds) hu Pc CF g2 hn3
  (by intro P; rw[QL]; exact hn5 P) (by intro P; rw[QL]; exact ho5 P) (by omega) (by omega) (by rw[k2]; exact hb)
 let C:=grownCap κ.w (l.length+ys.length) l.length et
 have hC:l.length+ys.length<=C:=grownCap_ge _ _ _ _
 let zs:=Builtin.zeroCells zv.cells (C-(l.length+ys.length))
 let cells:=olds.toArray++news.toArray++zs
 have Sd:zs.size=(C-(l.length+ys.length))*e.size:=by have:=g3.len; simp only[Array.length_toList]at this; simp[zs,mO,this]
 have hol:olds.length=l.length*e.size:=by rw[MD]; exact ue λi hi=>(RZ i hi).len
 have Dt:news.length=ys.length*e.size:=by rw[H2]; exact ue λi hi=>(XY i hi).len
 have ZF:cells.size=C*e.size:=by
  simp only[cells,Array.size_append,List.size_toArray,hol,Dt,Sd,<- Nat.add_mul]
  grind
 have gr:=cX.drew κ.w (.cells cells et)
 have hex:=nX (n:=cells.size) (x:=.arr (l.length+ys.length) e (l++ys)) hI gr
 refine⟨κ.add _ cells.size (.arr (l.length+ys.length) e (l++ys)),_,vi,rfl,Xr hI gr ?_,hex,?_⟩
 ·refine⟨uo,.inr ⟨κ.w.heap.size,cells.size,cells,et,nI hI,gr.new,rfl,?_,Z2 w7,λi=>if i<l.length then f i else g (i-l.length),λi hi => ?_⟩⟩
  ·rw[ZF,List.length_append]; exact Nat.mul_le_mul_right _ hC
  ·obtain⟨q1,q2⟩:=WT RZ XY zs.toList i hi
   refine⟨q1.mono hex.same,λj v hj => ?_⟩
   grind
 ·refine .ms _ (l.length+ys.length) e 0 _ C _ (.inr ⟨l.length+ys.length,e,_,rW,Nat.le_refl _⟩) hC nofun (λp hp=>by cases hp; rfl) λxs Xo => ?_
  rw[rW]at Xo
  cases Xo
  exact⟨by simp,.inr ⟨κ.w.heap.size,cells.size,0,C,nI hI,rfl,hC,by rw[ZF]; simp,.inr (by simp)⟩⟩
def KS.re(κ:KS)(w':World)(b n:Nat)(x:jW):KS:={ κ with w:=w',ph:=κ.ph.set b (some (κ.w.heap.size,n)),st:=κ.st.set b x }
theorem CZ{w':World}{o:Obj}{b n v0 v1:Nat}{e:Ty}{xs ys:List (den e)}(hI:Inv κ)(g:cX κ.w w' o)(hb:κ.st[b]? = some (.arr v0 e xs))(hv:v0<v1):Ext κ (κ.re w' b n (.arr v1 e ys)):=by
 refine⟨g.os,g.tape,g.output,by show κ.w.heap.size<=w'.heap.size; rw[g.size]; omega,λk hk=>⟨hk,g.old (hI.y4 k hk)⟩,λk hk=>.inl hk,?_,?_,?_,?_,by simp[KS.re],λk hk _=>g.old hk⟩
 ·intro b' blk m h
  simp only[KS.re]at h
  grind
 ·intro b' d hd
  have vy:b≠b':=λe=>by subst e; rw[hb]at hd; cases hd
  simp only[KS.re]
  grind
 ·intro b' u0 e' zs hd
  simp only[KS.re]
  grind
 ·intro b' hd
  have vy:b≠b':=λe=>by subst e; rw[hb]at hd; cases hd
  simp only[KS.re,List.getElem?_set,if_neg vy]
  exact hd
theorem z3w{w':World}{o:Obj}{b n v0 v1:Nat}{e:Ty}{xs ys:List (den e)}(hI:Inv κ)(g:cX κ.w w' o)(hb:κ.st[b]? = some (.arr v0 e xs))(hv:v0<v1)
  (hx:cS (κ.re w' b n (.arr v1 e ys)) b (.arr v1 e ys)):Inv (κ.re w' b n (.arr v1 e ys)):=by
 have hold:∀ (b' blk m:Nat),(κ.ph.set b (some (κ.w.heap.size,n)))[b']? = some (some (blk,m))->(b≠b'/\κ.ph[b']? = some (some (blk,m)))\/(b=b'/\blk=κ.w.heap.size):=by
  grind
 refine⟨by simp[KS.re,hI.len],?_,?_,?_,?_,hI.gl.mono (CZ (n:=n) (ys:=ys) hI g hb hv).same⟩
 ·intro k hk; have:=hI.y4 k hk; show k<w'.heap.size; rw[g.size]; omega
 ·intro b' blk m h
  rcases hold b' blk m h with⟨_,h⟩ | ⟨rfl,rfl⟩
  ·obtain⟨h1,h2⟩:=hI.apart b' blk m h
   exact⟨by show blk<w'.heap.size; rw[g.size]; omega,h2⟩
  ·exact⟨by show κ.w.heap.size<w'.heap.size; rw[g.size]; omega,λhk=>absurd (hI.y4 _ hk) (Nat.lt_irrefl _)⟩
 ·intro b1 b2 blk m m' h h'
  rcases hold b1 blk m h with⟨_,h⟩ | ⟨rfl,rfl⟩<;>rcases hold b2 _ m' h' with⟨_,h'⟩ | ⟨rfl,h''⟩
  ·exact hI.inj b1 b2 blk m m' h h'
  ·have:=(hI.apart b1 blk m h).1; omega
  ·have:=(hI.apart b2 _ m' h').1; omega
  ·rfl
 ·intro b' y hy
  simp only[KS.re,List.getElem?_set]at hy
  split at hy
  ·grind
  ·rename_i e1
   refine(hI.blk b' y hy).mono (CZ hI g hb hv) ?_ λblk m h=>g.old (hI.apart b' blk m h).1
   simp only[KS.re,List.getElem?_set,if_neg e1]
theorem VF{α:Type}{l:List α}{i:Nat}{a:α}(h:l[i]? = some a):l.set i a=l:=by
 apply List.ext_getElem?
 grind
theorem LQ{t t2 et b qw len:Nat}{e:Ty}{xs ys:List (den e)}{sv v:Value}{bytes:Nat}{ty:Nat}(hI:Inv κ)(hu:c.P.underlying t=some (.slice et))(Pc:Rg c t2)(w7:jK c et e=true)(uo:0<e.size)(Bq:iv c et=some bytes)
  (hz:∃ y,zeroOf c et e=some y) (hs:RD κ (.ms b qw e 0 len) sv) (hb:κ.st[b]? = some (.arr qw e xs)) (hlen:len=xs.length) (hv:Cel κ e ys v) (hbb:(xs.length+ys.length)*bytes<=140737488355328)
  (hn:xs.length+ys.length<=9223372036854775807) :
  ∃ (κ':KS) (r:Value),(Builtin.append_ #[t,t2] ty #[sv,v]).run c.P κ.w=.ok r κ'.w/\κ'.st=κ.st.set b (.arr (qw+ys.length) e (xs++ys))/\Inv κ'/\Ext κ κ'/\RD κ' (.ms b (qw+ys.length) e 0 (len+ys.length)) r:=by
 subst hlen
 have qs:b<κ.st.length:=(List.getElem?_eq_some_iff.1 hb).1
 have VU:b<κ.ph.length:=by rw[hI.len]; exact qs
 obtain⟨RG,_⟩:=wZ w7
 obtain⟨i,CF,QL⟩:=cR RG
 obtain⟨y,hy⟩:=hz
 obtain⟨i',zv,g1,g2,g3⟩:=dU (κ:=κ) hy
 obtain⟨i'',k1,k2⟩:=mn Bq
 rw[CF]at g1 k1
 cases g1
 cases k1
 have Y0:=(BW hI hs hb).1
 simp only[Nat.zero_add,List.take_length,List.drop_zero]at Y0
 obtain⟨olds,f,MD,RZ,ho3,ho4,ho5⟩:=Zk Y0 uo
 obtain⟨news,g,H2,XY,hn3,hn4,hn5⟩:=hv.ex
 have hol:olds.length=xs.length*e.size:=by rw[MD]; exact ue λi hi=>(RZ i hi).len
 have Dt:news.length=ys.length*e.size:=by rw[H2]; exact ue λi hi=>(XY i hi).len
 have Jx:∀ u∈news,u.oneCell'=true:=by rw[H2]; exact JU λi hi=>(XY i hi).one
 cases hs with
 | ms _ _ _ _ _ cap a hold wM ha mW hm =>
  obtain⟨hle,hm⟩:=hm xs hb
  by_cases lR:xs.length+ys.length<=cap
  ·-- there is room
   rcases hm with⟨h1,_,hv',hp⟩ | ⟨blk,n,o,Cw,h3,h4,h5,h6,h7⟩
   ·simp only[Value.slice.injEq]at hv'
    obtain⟨rfl,VP,rfl⟩:=hv'
    have Xz:xs=[]:=List.eq_nil_of_length_eq_zero h1
    have hy0:ys=[]:=List.eq_nil_of_length_eq_zero (by omega)
    subst Xz hy0
    refine⟨κ,.slice none 0 0,?_,?_,hI,Ext.refl κ,.ms b qw e 0 0 0 none hold (Nat.le_refl _) (λ_=>rfl) nofun λzs Sd => ?_⟩
    ·have Mo:news=[]:=List.eq_nil_of_length_eq_zero (by simpa using Dt)
     subst Mo
     exact run_append_fits (c:=c) (κ:=κ) (t:=t) (t2:=t2) (e:=et) (ty:=ty) (base:=none) (sLen:=0) (sCap:=0) (n:=0) (x:=v) (news:=[]) hu Pc CF hn3 (by intro P; rw[QL]; exact hn4 P) (by omega) rfl
    ·simp only[List.length_nil,Nat.add_zero,List.append_nil]
     rw[VF hb]
    ·grind
   ·cases h4
    obtain⟨_,⟨Wg,hpn⟩ | ⟨fS,n',cs,T,p1,p2,p3,p4,pr,F,p5⟩⟩:=hI.blk b _ hb
    ·grind
    ·rw[h3]at p1
     cases p1
     have ho:xs.length+ys.length=0\/o=0:=by
      grind
     have z5y:cap*e.size<=cs.size:=by rw[p3]; simpa using h6
     have WB:xs.length*e.size+ys.length*e.size<=cs.size:=by
      rw[<- Nat.add_mul]; exact Nat.le_trans (Nat.mul_le_mul_right _ lR) z5y
     let hM:=(cs.toList.take (xs.length*e.size)++news++cs.toList.drop (xs.length*e.size+news.length)).toArray
     have Xl:cs.toList.length=cs.size:=by simp
     have U2:hM.size=cs.size:=by simp only[hM,List.size_toArray,List.length_append,List.length_take,List.length_drop,Dt,Xl]; omega
     have hoa:∀ m,(⟨blk,o,none⟩:Addr).add (xs.length*e.size)=⟨blk,xs.length*e.size,none⟩\/m=0\/xs.length+ys.length=0:=by
      intro m
      rcases ho with h | h
      ·grind
      ·subst h; rw[vc,Nat.zero_add]; exact .inl rfl
     have xE:(storeCells ((⟨blk,o,none⟩:Addr).add (xs.length*i.size)) news).run c.P κ.w=.ok () (κ.w.setRow blk hM):=by
      rw[QL]
      rcases hoa 1 with h | h | h
      ·rw[h]
       have:=run_storeCells_at c.P blk (xs.length*e.size) T news 0 cs κ.w p2 (by rw[Dt]; omega) Jx
       simpa only[Nat.add_zero]using this
      ·cases h
      ·have Mo:news=[]:=List.eq_nil_of_length_eq_zero (by rw[Dt,show ys.length=0 by omega]; simp)
       have Xz:xs.length=0:=by omega
       have hce:hM=cs:=by simp[hM,Mo,Xz]
       rw[Mo,hce,setRow_self _ _ _ _ _ p2]
       rfl
     have fc:Alike (.arr qw e xs) (.arr (qw+ys.length) e (xs++ys)):=⟨rfl,by omega,λh=>by rw[List.length_append]; omega⟩
     have hex:=lC (cs:=hM) (x:=.arr (qw+ys.length) e (xs++ys)) hI h3 hb fc
     refine⟨κ.Yz b blk hM (.arr (qw+ys.length) e (xs++ys)),.slice (some ⟨blk,o,none⟩) (xs.length+ys.length) cap,?_,rfl,tf hI h3 hb fc ?_,hex,?_⟩
     ·exact run_append_fits (c:=c) (κ:=κ) (t:=t) (t2:=t2) (e:=et) (ty:=ty) (base:=some ⟨blk,o,none⟩) (sLen:=xs.length) (sCap:=cap) (n:=ys.length) (x:=v) (news:=news) hu Pc CF hn3 (by intro P; rw[QL]; exact hn4 P) lR xE
     ·refine⟨uo,.inr ⟨blk,n,hM,T,h3,setRow_heap _ _ _ _ _ _ p2,by rw[U2]; exact p3,?_,pr,λi=>if i<xs.length then F i else g (i-xs.length),λi hi => ?_⟩⟩
      ·rw[List.length_append]; exact Nat.le_trans (Nat.mul_le_mul_right _ lR) (by simpa using h6)
      ·have hF:∀ i (hi:i<xs.length),Rc κ.w κ.ok e xs[i] (F i):=λi hi=>(p5 i hi).1
       have z1E:∀ i,i<xs.length->(F i).length=e.size:=λi hi=>(hF i hi).len
       have NB:cs.toList.take (xs.length*e.size)=k8 F xs.length:=by
        apply List.ext_getElem?
        intro p
        rw[List.getElem?_take]
        have YC:=ue z1E
        split
        ·rename_i hp
         obtain⟨q,hq⟩:∃ q,(k8 F xs.length)[p]? = some q:=⟨_,List.getElem?_eq_getElem (by rw[YC]; exact hp)⟩
         obtain⟨i',j',a1,a2,a3,a4⟩:=HY uo z1E hq
         rw[hq]
         have:=(p5 i' a1).2 j' q a4
         rw[a3,Array.getElem?_toList]; exact this
        ·rename_i hp
         rw[List.getElem?_eq_none (by rw[YC]; omega)]
       obtain⟨q1,q2⟩:=WT hF XY (cs.toList.drop (xs.length*e.size+news.length)) i hi
       refine⟨q1.mono hex.same,λj w hj => ?_⟩
       have:=q2 j w hj
       rw[<- H2,<- NB]at this
       simpa only[hM,List.getElem?_toArray]using this
     ·refine .ms b _ e 0 _ cap _ (.inr ⟨qw+ys.length,e,xs++ys,by simp[KS.Yz,qs],Nat.le_refl _⟩) lR nofun (λp hp=>by cases hp; rfl) λzs Sd => ?_
      have:zs=xs++ys:=by simp only[KS.Yz,List.getElem?_set_self qs]at Sd; cases Sd; rfl
      subst this
      refine⟨by simp,.inr ⟨blk,n,o,cap,h3,rfl,lR,by simpa using h6,?_⟩⟩
      rcases h7 with h7 | h7
      ·exact .inl h7
      ·exact .inr (by simpa using h7)
  ·-- it grows
   have sE:0<ys.length:=by omega
   have vi:=nb (c:=c) (κ:=κ) (t:=t) (t2:=t2) (e:=et) (ty:=ty) (base:=a) (sLen:=xs.length) (sCap:=cap) (n:=ys.length) (x:=v) (news:=news) (olds:=olds) hu Pc CF g2 hn3
    (by intro P; rw[QL]; exact hn5 P) (by intro P; rw[QL]; exact ho5 P) (by omega) (by omega) (by rw[k2]; exact hbb)
   let C:=grownCap κ.w (xs.length+ys.length) cap et
   have hC:xs.length+ys.length<=C:=grownCap_ge _ _ _ _
   let zs:=Builtin.zeroCells zv.cells (C-(xs.length+ys.length))
   let cells:=olds.toArray++news.toArray++zs
   have Sd:zs.size=(C-(xs.length+ys.length))*e.size:=by have:=g3.len; simp only[Array.length_toList]at this; simp[zs,mO,this]
   have ZF:cells.size=C*e.size:=by
    simp only[cells,Array.size_append,List.size_toArray,hol,Dt,Sd,<- Nat.add_mul]
    congr 1; omega
   have gr:=cX.drew κ.w (.cells cells et)
   have Pw:qw<qw+ys.length:=by omega
   have hex:=CZ (n:=cells.size) (ys:=xs++ys) hI gr hb Pw
   refine⟨κ.re _ b cells.size (.arr (qw+ys.length) e (xs++ys)),_,vi,rfl,z3w hI gr hb Pw ?_,hex,?_⟩
   ·refine⟨uo,.inr ⟨κ.w.heap.size,cells.size,cells,et,by simp[KS.re,VU],gr.new,rfl,?_,Z2 w7,λi=>if i<xs.length then f i else g (i-xs.length),λi hi => ?_⟩⟩
    ·rw[ZF,List.length_append]; exact Nat.mul_le_mul_right _ hC
    ·obtain⟨q1,q2⟩:=WT RZ XY zs.toList i hi
     refine⟨q1.mono hex.same,λj v hj => ?_⟩
     have:=q2 j v hj
     rw[<- MD,<- H2]at this
     rw[<- Array.getElem?_toList]
     simpa[cells]using this
   ·refine .ms b _ e 0 _ C _ (.inr ⟨qw+ys.length,e,xs++ys,by simp[KS.re,qs],Nat.le_refl _⟩) hC nofun (λp hp=>by cases hp; rfl) λus hus => ?_
    have:us=xs++ys:=by simp only[KS.re,List.getElem?_set_self qs]at hus; cases hus; rfl
    subst this
    exact⟨by simp,.inr ⟨κ.w.heap.size,cells.size,0,C,by simp[KS.re,VU],rfl,hC,by rw[ZF]; simp,.inr (by simp)⟩⟩
end
end Go.AM
namespace Go.AM
set_option linter.unusedSectionVars false
variable [vz]
section
variable {c:Ctx} {κ:KS}
theorem rF{x y:D}{v:Value}(hI:Inv κ)(hx:RD κ x v)(h:(mb κ.st x).leads y):(y=x/\∀ b qw e off len,x≠.ms b qw e off len)\/∃ (e:Ty) (ys:List (den e)),y=.zD (.sl e) ys/\Src κ e ys v/\∃ b qw off len,x=.ms b qw e off len:=by
 cases x with
 | ms b qw e off len =>
  simp only[mb]at h
  split at h
  ·rename_i jv e' xs hb
   split at h
   ·rename_i he
    subst he
    obtain⟨rfl,h⟩:=h
    refine .inr ⟨e',_,h.symm,(BW hI hx hb).1,b,qw,off,len,rfl⟩
   ·exact h.elim
  ·exact h.elim
 | _=>exact .inl ⟨h.symm,λ_ _ _ _ _=>nofun⟩
theorem pM{t t2 et:Nat}{e:Ty}{s:D}{ys:List (den e)}{ne:Bool}{sv v:Value}{bytes ty:Nat}{d:Option D}{zq:St}(hI:Inv κ)(hu:c.P.underlying t=some (.slice et))(Pc:Rg c t2)(w7:jK c et e=true)(uo:0<e.size)
  (Bq:iv c et=some bytes) (Xb:0<bytes) (hz:∃ y,zeroOf c et e=some y) (hs:RD κ s sv) (hv:Cel κ e ys v) (vy:ne=true->ys≠[])
  (h:(jl e s ys ne bytes κ.st).leads (d,zq)) :
  ∃ (κ':KS) (r:Value),(Builtin.append_ #[t,t2] ty #[sv,v]).run c.P κ.w=.ok r κ'.w/\κ'.st=zq/\Inv κ'/\Ext κ κ'/\∀ d',d=some d'->RD κ' d' r:=by
 have hlen:∀ n,n*bytes<=140737488355328->n<=9223372036854775807:=λn hn=>Nat.le_trans (Nat.le_mul_of_pos_right n Xb) (Nat.le_trans hn (by decide))
 -- nothing is appended
 have same:∀ (a:Option Addr) (n cap:Nat),sv=.slice a n cap->n<=cap->ys=[]->d=some s->zq=κ.st ->
   ∃ (κ':KS) (r:Value),(Builtin.append_ #[t,t2] ty #[sv,v]).run c.P κ.w=.ok r κ'.w/\κ'.st=zq/\Inv κ'/\Ext κ κ'/\∀ d',d=some d'->RD κ' d' r:=by
  rintro a n cap rfl wM rfl rfl rfl
  obtain⟨RG,_⟩:=wZ w7
  obtain⟨i,CF,QL⟩:=cR RG
  obtain⟨news,g,H2,XY,hn3,hn4,hn5⟩:=hv.ex
  have Mo:news=[]:=H2
  subst Mo
  refine⟨κ,.slice a n cap,?_,rfl,hI,Ext.refl κ,λd' he=>by cases he; exact hs⟩
  have:=run_append_fits (c:=c) (κ:=κ) (t:=t) (t2:=t2) (e:=et) (ty:=ty) (base:=a) (sLen:=n) (sCap:=cap) (n:=0) (x:=v) (news:=[]) (i:=i) hu Pc CF hn3 (by intro P; rw[QL]; exact hn4 P) (by omega) (w':=κ.w) (by cases a<;>rfl)
  grind
 have new:∀ l:List (den e),Src κ e l sv->(∃ a,sv=.slice a l.length l.length)->ys≠[]->(fB e l ys bytes κ.st).leads (d,zq) ->
   ∃ (κ':KS) (r:Value),(Builtin.append_ #[t,t2] ty #[sv,v]).run c.P κ.w=.ok r κ'.w/\κ'.st=zq/\Inv κ'/\Ext κ κ'/\∀ d',d=some d'->RD κ' d' r:=by
  intro l hl wM vy h
  obtain⟨hb,h⟩:=h
  cases h
  obtain⟨κ',r,h1,h2,h3,h4,h5⟩:=Co (ty:=ty) hI hu Pc w7 uo Bq hz hl wM hv vy hb (hlen _ hb)
  grind
 unfold jl at h
 split at h
 ·have hsv:sv=.slice none 0 0:=by cases hs; rfl
  cases hn:ne with
  | true=>rw[hn,cond_true]at h; exact new [] (Xu hs) ⟨none,hsv⟩ (vy hn) h
  | false =>
   rw[hn,cond_false]at h
   rcases h with⟨hy,h⟩ | ⟨hy,h⟩
   ·cases h; exact same none 0 0 hsv (Nat.le_refl _) (List.isEmpty_iff.1 hy) rfl rfl
   ·exact new [] (Xu hs) ⟨none,hsv⟩ (λe=>by rw[e]at hy; cases hy) h
 ·rename_i e' l ne'
  split at h
  ·rename_i l' RU
   obtain⟨he,z9W⟩:=qj RU
   cases he
   simp only at z9W
   subst z9W
   have hsv:∃ a,sv=.slice a l'.length l'.length:=by
    cases hs with
    | xd=>simp
    | tight=>simp
   cases hn:ne with
   | true=>rw[hn,cond_true]at h; exact new l' (oR hs) hsv (vy hn) h
   | false =>
    rw[hn,cond_false]at h
    rcases h with⟨hy,h⟩ | ⟨hy,h⟩
    ·cases h
     obtain⟨a,ha⟩:=hsv
     exact same a _ _ ha (Nat.le_refl _) (List.isEmpty_iff.1 hy) rfl rfl
    ·exact new l' (oR hs) hsv (λe=>by rw[e]at hy; cases hy) h
  ·exact h.elim
 ·rename_i b qw e' off len
  split at h
  ·rename_i jv e'' xs hb
   split at h
   ·rename_i xs' K3
    obtain⟨he,z8p⟩:=qj K3
    cases he
    simp only at z8p
    subst z8p
    cases RW:decide (e'=_)with
    | false=>rw[RW]at h; exact h.elim
    | true =>
     rw[RW,cond_true]at h
     have:=of_decide_eq_true RW
     subst this
     obtain⟨⟨rfl,rfl,hl,hbb⟩,h⟩:=h
     cases h
     obtain⟨κ',r,h1,h2,h3,h4,h5⟩:=LQ (ty:=ty) hI hu Pc w7 uo Bq hz hs hb hl hv hbb (hlen _ hbb)
     exact⟨κ',r,h1,h2,h3,h4,λd' he=>by cases he; exact h5⟩
   ·exact h.elim
  ·exact h.elim
 ·exact h.elim
theorem GD{t ty:Nat}{s x:Option D}{sv v:Value}{d:Option D}{zq:St}(hI:Inv κ)(hs:∀ z,s=some z->RD κ z sv)(hx:∀ z,x=some z->RD κ z v)
  (h:(zB (sB c t s x) κ.st).leads (d,zq)):qt c.P (do Pure.pure (.value (<- Builtin.append_ #[t,t] ty #[sv,v]))) κ d zq:=by
 unfold sB at h
 split at h
 ·exact absurd h ze
 ·rename_i et het
  have hu:=vV het
  split at h
  ·rename_i e bytes F2 Bq
   cases hb:jK c et e&&Nat.blt 0 e.size&&Nat.blt 0 bytes&&(zeroOf c et e).isSome with
   | false=>rw[hb]at h; exact absurd h ze
   | true =>
    rw[hb,cond_true]at h
    simp only[Bool.and_eq_true]at hb
    obtain⟨⟨⟨w7,h1⟩,h2⟩,h3⟩:=hb
    have uo:0<e.size:=Nat.le_of_ble_eq_true h1
    have Xb:0<bytes:=Nat.le_of_ble_eq_true h2
    have hz:=Option.isSome_iff_exists.1 h3
    split at h
    ·rename_i s x
     simp only[zB,T.zy]at h
     obtain⟨y,hy,h⟩:=h
     have fin:∀ (ys:List (den e)) (ne:Bool),Src κ e ys v->(ne=true->ys≠[])->(jl e s ys ne bytes κ.st).leads (d,zq)->qt c.P (do Pure.pure (.value (<- Builtin.append_ #[t,t] ty #[sv,v]))) κ d zq:=by
      intro ys ne hv vy h
      obtain⟨κ',r,g1,g2,g3,g4,g5⟩:=pM (t2:=t) (ty:=ty) hI hu (.inl ⟨et,hu⟩) w7 uo Bq Xb hz (hs _ rfl) (Tn hv uo) vy h
      exact⟨κ',.value r,r,by simp only[Sem.run_bind,g1,Result.andThen_ok]; rfl,.inl rfl,g2,g3,g4,g5⟩
     have Cr:=hx _ rfl
     rcases rF hI Cr hy with⟨rfl,hnm⟩ | ⟨e',ys,rfl,Y0,_⟩
     ·split at h
      ·rename_i σ z
       split at h
       ·rename_i ys hys
        obtain⟨he,hz'⟩:=qj hys
        cases he
        subst hz'
        exact fin _ false (FQ Cr) nofun h
       ·exact h.elim
      ·rename_i σ z ne
       split at h
       ·rename_i ys hys
        obtain⟨he,hz'⟩:=qj hys
        cases he
        subst hz'
        refine fin _ ne (oR Cr) (λvy => ?_) h
        cases Cr with
        | xd=>cases vy
        | tight _ _ _ _ _ _ q=>exact q vy
       ·exact h.elim
      ·exact fin [] false (Xu Cr) nofun h
      ·exact h.elim
     ·simp only at h
      split at h
      ·rename_i ys' hys
       obtain⟨he,hz'⟩:=qj hys
       grind
      ·exact h.elim
    ·exact absurd h ze
  ·exact absurd h ze
theorem z0o{l:zf}{v:Value}(h:RD κ (.zD .str l) v):Cel κ (.int .u8) (bytesOf l) v:=by
 have hv:=h.wj
 subst hv
 have hl:(bytesOf l).length=l.length:=by simp[bytesOf]
 have uo:(⟨l.toArray⟩:ByteArray).size=l.length:=List.size_toArray
 refine⟨Lib.strCells ⟨l.toArray⟩,λi=>[.int .u8 ((bytesOf l)[i]?.getD 0)],?_,λi hi => ?_,λP => ?_,λP => ?_,λP => ?_⟩
 ·have gen:∀ (n:Nat),n<=l.length->k8 (λi=>[Value.int .u8 ((bytesOf l)[i]?.getD 0)]) n=(l.take n).map λb=>Value.int .u8 b.toNat:=by
   intro n
   induction n with
   | zero=>intro _; rfl
   | succ n ih =>
    intro hn
    have qs:n<l.length:=hn
    rw[k8,ih (by omega),List.take_succ_eq_append_getElem qs,List.map_append]
    simp[bytesOf,List.getElem?_eq_getElem qs]
  rw[hl,gen _ (Nat.le_refl _),List.take_length]
  rfl
 ·have:(bytesOf l)[i]?.getD 0=(bytesOf l)[i]:=by rw[List.getElem?_eq_getElem hi]; rfl
  show Rc κ.w κ.ok (.int .u8) (bytesOf l)[i] [Value.int .u8 ((bytesOf l)[i]?.getD 0)]
  rw[this]
  exact .int .u8 _
 ·show(pure (⟨l.toArray⟩:ByteArray).size:Sem Nat).run P κ.w=_
  rw[uo,hl]; rfl
 ·rw[hl,<- uo]; exact Lib.run_firstCells_string _ _ _
 ·rw[hl,<- uo]; exact Lib.run_firstCells_string _ _ _
theorem VJ{t t2 ty:Nat}{s x:Option D}{sv v:Value}{d:Option D}{zq:St}(hI:Inv κ)(hs:∀ z,s=some z->RD κ z sv)(hx:∀ z,x=some z->RD κ z v)
  (h:(zB (oG c t t2 s x) κ.st).leads (d,zq)):qt c.P (do Pure.pure (.value (<- Builtin.append_ #[t,t2] ty #[sv,v]))) κ d zq:=by
 unfold oG at h
 split at h
 ·exact absurd h ze
 ·rename_i et het
  have hu:=vV het
  split at h
  ·rename_i bytes F2 Bq Pc
   cases hb:jK c et (.int .u8)&&Nat.blt 0 bytes&&(zeroOf c et (.int .u8)).isSome with
   | false=>rw[hb]at h; exact absurd h ze
   | true =>
    rw[hb,cond_true]at h
    simp only[Bool.and_eq_true]at hb
    obtain⟨⟨w7,h2⟩,h3⟩:=hb
    have Xb:0<bytes:=Nat.le_of_ble_eq_true h2
    have hz:=Option.isSome_iff_exists.1 h3
    split at h
    ·rename_i s l
     obtain⟨κ',r,g1,g2,g3,g4,g5⟩:=pM (t2:=t2) (ty:=ty) hI hu (.inr Pc) w7 (by decide) Bq Xb hz (hs _ rfl) (ne:=false) (z0o (hx _ rfl)) (λe=>by cases e) h
     exact⟨κ',.value r,r,by simp only[Sem.run_bind,g1]; rfl,.inl rfl,g2,g3,g4,g5⟩
    ·exact absurd h ze
  ·exact absurd h ze
end
end Go.AM
namespace Go.AM
set_option linter.unusedSectionVars false
variable [vz]
section
variable {c:Ctx} {κ:KS}
theorem rT{places:List (Nat×Nat)}{pf:Nat->Option (Nat×Nat)}(hpf:∀ (i:Nat) p,places[i]? = some p->pf i=some p){F:Operand->Option D}{G:Operand->Value}(hF:∀ x d,F x=some d->RD κ d (G x)):∀ (L:List (Nat×Operand)) (cells r:List D) (cs:Array Value),
  dA places (L.map λp=>(p.1,F p.2)) cells=some r->qA κ cells cs.toList->(∀ d∈cells,d.one=true) ->
  ∃ hM,Instr.fill pf cs (L.map λp=>(p.1,G p.2))=some hM/\qA κ r hM.toList/\∀ d∈r,d.one=true
 | [],cells,r,cs,h,hr,ho=>by
  simp only[List.map_nil,dA,Option.some.injEq]at h
  subst h
  exact⟨cs,rfl,hr,ho⟩
 | (i,x)::L,cells,r,cs,h,hr,ho=>by
  simp at h
  cases hx:F x with
  | none=>rw[hx]at h; simp[dA]at h
  | some d =>
   rw[hx]at h
   simp only[dA]at h
   split at h
   ·rename_i off n hp
    cases hb : !d.uj&&Nat.beq n (qe d).length&&Nat.ble (off+n) cells.length with
    | false=>grind
    | true =>
     rw[hb,cond_true]at h
     simp only[Bool.and_eq_true,Bool.not_eq_true']at hb
     obtain⟨⟨h1,h2⟩,h3⟩:=hb
     have h2':n=(qe d).length:=Nat.eq_of_beq_eq_true h2
     have h3':=Nat.le_of_ble_eq_true h3
     have hd:=hF x d hx
     have hfd:=uN hd h1
     have hvl:(G x).cells.toList.length=n:=by rw[<- hfd.1]; exact h2'.symm
     have hle:off+n<=cs.size:=by have:=hr.1; simp at this; omega
     have hn:=eT hr hfd off n
     obtain⟨hM,g1,g2,g3⟩:=rT hpf hF L _ r (cs.toList.take off++(G x).cells.toList++cs.toList.drop (off+n)).toArray h (by grind) (by
      intro y hy
      simp only[List.mem_append]at hy
      rcases hy with(hy | hy) | hy
      ·grind
      ·exact uL hd y hy
      ·exact ho y (List.mem_of_mem_drop hy))
     refine⟨hM,?_,g2,g3⟩
     simp
     rw[Ba (hpf _ _ hp) hvl hle]
     exact g1
   ·cases h
theorem CM{t:Nat}{L:List (Nat×Operand)}{F:Operand->Option D}{G:Operand->Value}{d:Option D}{zq:St}(hI:Inv κ)(hF:∀ x d,F x=some d->RD κ d (G x))
  (h:(zB (KJ c t (L.map λp=>(p.1,F p.2))) κ.st).leads (d,zq)):qt c.P (do Pure.pure (.value (<- Instr.build t (L.map λp=>(p.1,G p.2)).toArray))) κ d zq:=by
 unfold KJ at h
 split at h
 ·rename_i fs hu
  split at h
  ·rename_i z places hz hp
   split at h
   ·rename_i l hl
    rw[jj]at h
    obtain⟨rfl,rfl⟩:=h
    obtain⟨i,zv,h1,h2,h3⟩:=dr hz
    have hzr:=h3.rd κ
    obtain⟨hM,g1,g2,g3⟩:=rT (pf:=(places.toArray[·]?)) (λi p hp=>by simpa using hp) hF L z l zv.cells hl (uN hzr rfl) (uL hzr)
    have hb:c.P.built t (L.map λp=>(p.1,G p.2))=some hM:=by
     unfold Program.built
     grind
    refine qt.pure hI (run_build κ.w t _ hM (by simpa using hb)) ?_
    have:=RD.agg l hM.toList g2.1 g3 g2.2
    omega
   ·exact absurd h ze
  ·exact absurd h ze
 ·rename_i k e hu
  split at h
  ·rename_i z ie hz hp
   split at h
   ·rename_i l hl
    obtain⟨rfl,rfl⟩:=h
    obtain⟨i,zv,h1,h2,h3⟩:=dr hz
    have hzr:=h3.rd κ
    obtain⟨hM,g1,g2,g3⟩:=rT (pf:=λi=>some (i*ie.size,ie.size)) (λi p hp=>by
     rw[List.getElem?_map]at hp
     cases hr:(List.range k)[i]? with
     | none=>grind
     | some j =>
      rw[hr]at hp
      obtain⟨qs,rfl⟩:=List.getElem?_eq_some_iff.1 hr
      simpa using hp) hF L z l zv.cells hl (uN hzr rfl) (uL hzr)
    have hb:c.P.built t (L.map λp=>(p.1,G p.2))=some hM:=by
     unfold Program.built
     grind
    refine qt.pure hI (run_build κ.w t _ hM (by simpa using hb)) ?_
    have:=RD.agg l hM.toList g2.1 g3 g2.2
    omega
   ·exact absurd h ze
  ·exact absurd h ze
 ·exact absurd h ze
theorem Uj{a:Act}{o:Oper}{p:Operand}(ho:o.op=.nilCheck p){x:Option D}{d:Option D}{zq:St}(hI:Inv κ)(hx:∀ z,x=some z->RD κ z (a.eval p))
  (h:(zB (rX x) κ.st).leads (d,zq)):qt c.P (execOp a.eval o) κ d zq:=by
 have key:∀ z v,RD κ z v->a.eval p=v->(∀ b:Option Addr,v=.pointer b->b≠none)->((∃ b,v=.pointer b)\/∃ g q l,v=.func (.func g) q l)->qt c.P (execOp a.eval o) κ (some z) κ.st:=by
  intro z v hz hv hn hc
  have:execOp a.eval o=Pure.pure (.value v):=by
   rcases hc with⟨b,rfl⟩ | ⟨g,q,l,rfl⟩
   ·cases b with
    | none=>grind
    | some b=>simp only[execOp,ho,hv]
   ·simp only[execOp,ho,hv]
  rw[this]
  exact qt.val hI λ_ he=>by cases he; exact hz
 unfold rX at h
 split at h
 all_goals try exact absurd h ze
 all_goals
  rw[jj]at h; obtain⟨rfl,rfl⟩:=h
  have hr:=hx _ rfl
  generalize hv:a.eval p=v at hr
  refine key _ v hr hv ?_ ?_
  ·intro b hb; cases hr<;>first | (cases hb<;>nofun) | (rename_i f l vs _ _; obtain⟨g,q,l',e⟩:=Vv f vs; rw[e]at hb; cases hb)
  ·cases hr<;>first | exact .inl ⟨_,rfl⟩ | exact .inr (Vv _ _)
theorem CK{op:BinOp}{t:Nat}{px:Operand}{x:Option D}{v:Value}{d:Option D}{zq:St}(hI:Inv κ)(hx:∀ z,x=some z->RD κ z v)
  (h:(zB (KH c op t x) κ.st).leads (d,zq)):qt c.P (do Pure.pure (.value (<- (do eqGuard op t px (.const .nilIface) v .nilIface; binOp op t v .nilIface)))) κ d zq:=by
 unfold KH at h
 split at h
 ·rename_i ms hu
  have hm:c.P.underlying t=some (.interface (c.P.methodsAt t)):=by unfold Program.methodsAt; rw[hu]
  have g1:∀ w,(eqGuard op t px (.const .nilIface) .nilIface .nilIface).run c.P w=.ok () w:=λw=>by cases op<;>simp[eqGuard]
  have g2:∀ u y w,(eqGuard op t px (.const .nilIface) (.iface u y) .nilIface).run c.P w=.ok () w:=λu y w=>by cases op<;>simp[eqGuard]
  split at h
  ·unfold bb at h
   obtain⟨rfl,rfl⟩:=h
   cases hx _ rfl
   exact qt.pure hI (by simp only[Sem.run_bind,g1,Result.andThen_ok,run_eql_nil_nil _ _ hm]) RD.bool
  ·unfold bb at h
   obtain⟨rfl,rfl⟩:=h
   cases hx _ rfl
   exact qt.pure hI (by simp only[Sem.run_bind,g2,Result.andThen_ok,run_eql_held_nil _ _ _ _ hm]) RD.bool
  ·unfold bb at h
   obtain⟨rfl,rfl⟩:=h
   cases hx _ rfl
   exact qt.pure hI (by simp only[Sem.run_bind,g1,Result.andThen_ok,run_neq_nil_nil _ _ hm]) RD.bool
  ·unfold bb at h
   obtain⟨rfl,rfl⟩:=h
   cases hx _ rfl
   exact qt.pure hI (by simp only[Sem.run_bind,g2,Result.andThen_ok,run_neq_held_nil _ _ _ _ hm]) RD.bool
  ·exact absurd h ze
 ·exact absurd h ze
theorem X2{x:Option D}{v:Value}{xt at':Nat}{ok:Bool}{d:Option D}{zq:St}(hI:Inv κ)(hx:∀ z,x=some z->RD κ z v)
  (h:(zB (lq c x at' ok) κ.st).leads (d,zq)):qt c.P (do Pure.pure (.value (<- Instr.typeAssert v xt at' ok))) κ d zq:=by
 unfold lq at h
 split at h
 ·exact absurd h ze
 ·exact absurd h ze
 ·rename_i ty hni hu
  split at h
  ·rename_i t e
   cases hb:Nat.beq t at'&&ok with
   | false=>rw[hb]at h; exact absurd h ze
   | true =>
    rw[hb,cond_true,jj]at h
    obtain⟨rfl,rfl⟩:=h
    simp only[Bool.and_eq_true]at hb
    have:=Nat.eq_of_beq_eq_true hb.1
    subst this
    obtain rfl:=hb.2
    cases hx _ rfl with
    | iface _ _ u hu' =>
     refine qt.pure hI (v:=.tuple #[u,.bool true]) ?_ ?_
     ·cases ty<;>first | (exact(hni _ rfl).elim) | (simp[Instr.typeAssert,run_underlying hu])
     ·have:=qA.cons hu' (qA.cons (RD.bool (κ:=κ) (b:=true)) qA.nil)
      exact .kY _ [u,.bool true] this.1 this.2
  ·exact absurd h ze
theorem WU{t:Nat}{x:Option D}{v:Value}{d:Option D}{zq:St}(hI:Inv κ)(hx:∀ z,x=some z->RD κ z v)
  (h:(zB (nO c t x) κ.st).leads (d,zq)):qt c.P (do Pure.pure (.value (<- Instr.makeInterface t v))) κ d zq:=by
 unfold nO at h
 cases hu:c.P.underlying t with
 | none=>rw[hu]at h; exact absurd h ze
 | some u =>
  rw[hu]at h
  cases u<;>simp only at h
  all_goals try exact absurd h ze
  all_goals
   split at h
   ·rw[jj]at h; obtain⟨rfl,rfl⟩:=h
    have hc:c.P.concrete t=true:=by unfold Program.concrete; rw[hu]
    exact qt.pure hI (run_makeInterface κ.w t v hc) (.iface t _ v (hx _ rfl))
   ·exact absurd h ze
theorem Nf{e:Ty}{x y:D}{v:Value}{l:List (den e)}(hI:Inv κ)(hx:RD κ x v)(h:(mb κ.st x).leads y)(hl:YT e y=some l):Src κ e l v:=by
 rcases rF hI hx h with⟨rfl,_⟩ | ⟨e',ys,rfl,hs,_⟩
 ·cases y with
  | zD σ z =>
   obtain⟨he,hz⟩:=qj (a:=σ) (b:=.sl e) hl
   cases he
   cases hz
   exact FQ hx
  | tight e' z ne =>
   obtain⟨he,hz⟩:=qj (a:=.sl e') (b:=.sl e) hl
   cases he
   cases hz
   exact oR hx
  | xo =>
   simp only[YT,Option.some.injEq]at hl
   subst hl
   exact Xu hx
  | _=>simp[YT]at hl
 ·obtain⟨he,hz⟩:=qj (a:=.sl e') (b:=.sl e) hl
  grind
theorem WL{s t e:Nat}{x:Option D}{v:Value}{d:Option D}{zq:St}(hI:Inv κ)(hx:∀ z,x=some z->RD κ z v)(hs:c.P.underlying s=some (.slice e))(ht:c.P.underlying t=some .string)
  (h:(zB (Zg c e x) κ.st).leads (d,zq)):qt c.P (do Pure.pure (.value (<- convert s t v))) κ d zq:=by
 unfold Zg at h
 split at h
 ·rename_i z he
  rw[fI]at h
  obtain⟨h,rfl⟩:=h
  obtain⟨y,h1,h2⟩:=T.zy.1 h
  split at h2
  ·rename_i l hl
   cases h2
   have Y0:=Nf hI (hx _ rfl) h1 hl
   obtain⟨a,cap,f,rfl,wM,hn,g1,g2⟩:=Y0.ex
   have vi:(convert s t (.slice a l.length cap)).run c.P κ.w=.ok (.string (strOfNums l)) κ.w:=by
    cases a with
    | none =>
     obtain⟨rfl,rfl⟩:=hn rfl
     exact run_convert_bytes_nil κ.w s e hs he 0 0 t ht
    | some p =>
     rcases g2 p rfl with⟨rfl,rfl⟩ | ⟨hp,_,hc⟩
     ·have h0:(loadCells p 0).run c.P κ.w=.ok (([]:List Int).map (Value.int .u8)).toArray κ.w:=by
       rfl
      simp only[List.length_nil]
      rw[run_convert_bytes_string κ.w s t e _ 0 0 hs he ht,run_bytesToString κ.w _ 0 0 [] h0]
      rfl
     ·obtain⟨blk,o,sp⟩:=p
      subst hp
      refine run_convert_bytes_arg κ.w s e hs he blk o l.length cap l rfl (λi hi => ?_) t ht
      have hf:=(g1 i hi).kT
      have:=hc i hi 0 (.int .u8 l[i]) (by grind)
      have e1:o+i*Ty.size (.int .u8)+0=o+i:=by simp[Ty.size]
      grind
   refine qt.pure hI vi ?_
   exact .str
  ·exact h2.elim
 ·exact absurd h ze
theorem Kp{s t:Nat}{x:Option D}{v:Value}{d:Option D}{zq:St}(hI:Inv κ)(hx:∀ z,x=some z->RD κ z v)
  (h:(zB (convertOp c s t x) κ.st).leads (d,zq)):qt c.P (do Pure.pure (.value (<- convert s t v))) κ d zq:=by
 unfold convertOp at h
 split at h
 ·rename_i e hs ht
  exact WL hI hx hs ht h
 ·rename_i k0 k hs ht
  split at h
  ·rename_i k1 n hk
   have:=vK hk hx
   subst this
   obtain⟨rfl,rfl⟩:=h
   exact qt.pure hI (by simp[convert,run_underlying hs,run_underlying ht,Conv.intToInt]) RD.int
  ·exact absurd h ze
 ·rename_i hs ht
  split at h
  ·rename_i s' hk
   have:=nd hk hx
   subst this
   obtain⟨rfl,rfl⟩:=h
   exact qt.pure hI (by simp[convert,run_underlying hs,run_underlying ht]) RD.str
  ·exact absurd h ze
 ·exact absurd h ze
end
end Go.AM
namespace Go.AM
set_option linter.unusedSectionVars false
variable [vz]
section
variable {c:Ctx} {κ:KS}
theorem M8{ty t t':Nat}{s x:Option D}{v u:Value}{d:Option D}{zq:St}(hI:Inv κ)(hs:∀ z,s=some z->RD κ z v)(hx:∀ z,x=some z->RD κ z u)
  (h:(zB (Cc c t s x) κ.st).leads (d,zq)):qt c.P (do Pure.pure (.value (<- Builtin.copy_ #[t,t'] ty #[v,u]))) κ d zq:=by
 unfold Cc at h
 split at h
 ·rename_i et het
  split at h
  ·rename_i k b qw k' off len z hu uo
   cases hk:decide (k'=k)with
   | false=>rw[hk]at h; exact absurd h ze
   | true =>
    rw[hk,cond_true]at h
    obtain rfl:k'=k:=of_decide_eq_true hk
    simp only[zB]at h
    obtain⟨y,h1,h2⟩:=T.zy.1 h
    split at h2
    ·rename_i l hl
     unfold PU at h2
     split at h2
     ·rename_i jv e' rB hb
      split at h2
      ·rename_i xs Xo
       obtain⟨he,hxx⟩:=qj (a:=.sl e') (b:=.sl (.int k')) Xo
       cases he
       obtain rfl:xs=rB:=hxx
       obtain⟨⟨Yk,WB⟩,h2⟩:=h2
       cases h2
       subst Yk
       have Y0:=Nf hI (hx _ rfl) h1 hl
       obtain⟨a,cap,f,rfl,wM,hn,g1,g2⟩:=Y0.ex
       have hue:=vV het
       have Ny:(c.P.info? et).map (·.size)=some 1:=uo
       have hrd:=hs _ rfl
       cases hrd with
       | ms _ _ _ _ _ cap0 a0 Xb hcap0 JO hsp0 hh =>
       have hm:=hh xs hb
       have Xl:((List.take len l).map (Value.int k')).length=Nat.min l.length len:=by rw[List.length_map,List.length_take]; exact Nat.min_comm _ _
       have z1X:min len (List.length l)=Nat.min l.length len:=Nat.min_comm _ _
       by_cases h0:min len (List.length l)=0
       ·-- nothing goes over
        have vi:=run_copy_none (P:=c.P) κ.w t t' ty et a0 a len cap0 l.length cap hue Ny (by rw[<- z1X]; exact h0)
        have QK:jU off len xs l=xs:=by
         unfold jU
         have ht:List.take len l=[]:=List.eq_nil_of_length_eq_zero (by rw[List.length_take]; exact h0)
         rw[ht,h0,List.append_nil,Nat.add_zero,List.take_append_drop]
        have gA:κ.st.set b (.arr qw (.int k') (jU off len xs l))=κ.st:=by
         rw[QK]
         obtain⟨qs,hge⟩:=List.getElem?_eq_some_iff.1 hb
         rw[<- hge,List.set_getElem_self]
        rw[gA]
        refine⟨κ,.value (goInt 0),goInt 0,by simp[vi],.inl rfl,rfl,hI,Ext.refl κ,λd' ke => ?_⟩
        cases ke
        rw[h0]
        exact RD.int
       ·obtain⟨hle,hm⟩:=hm
        rcases hm with⟨hz,_⟩ | ⟨blk,n,o,zfH,hp,hv,Iw,O8,hc3⟩
        ·omega
        ·cases hv
         have ho:o=off:=by
          rcases hc3 with h | h
          ·omega
          ·simpa[Ty.size]using h
         subst ho
         have hl0:l≠[]:=λh=>h0 (by rw[h]; simp)
         obtain⟨p,rfl⟩:∃ p,a=some p:=by
          cases a with
          | none=>grind
          | some p=>simp
         rcases g2 p rfl with⟨h,_⟩ | ⟨mW,_,hc⟩
         ·grind
         obtain⟨pb,po,psp⟩:=p
         simp only at mW
         subst mW
         obtain⟨_,OM⟩:=hI.blk b _ hb
         rcases OM with⟨_,hpn⟩ | ⟨fS,n',SO,T,k1,k2,k3,k4,kr,g,k5⟩
         ·grind
         rw[hp]at k1
         cases k1
         have hn':List.length xs<=SO.size:=by rw[k3]; simpa[Ty.size]using k4
         have rh:∀ (i:Nat) (hi:i<List.length xs),SO[i]? = some (.int k' xs[i]):=by
          intro i hi
          obtain⟨q1,q2⟩:=k5 i hi
          have:=q2 0 (.int k' xs[i]) (by rw[q1.kT]; rfl)
          simpa[Ty.size]using this
         have zc3:((List.take len l).map (Value.int k')).length<=len:=by simp; omega
         have vi:=run_copy_row c.P κ.w t t' ty et blk o len cap0 ⟨pb,po,none⟩ l.length cap SO T ((List.take len l).map (Value.int k')) hue Ny k2 Xl
          (λj w hj=>by
           have hj':j<(List.take len l).length:=by have:=(List.getElem?_eq_some_iff.1 hj).1; simpa using this
           have Mh:j<l.length:=by simp at hj'; omega
           have e1:w=.int k' l[j]:=by
            grind
           have:=hc j Mh 0 (.int k' l[j]) (by rw[(g1 j Mh).kT]; rfl)
           have MI:(⟨pb,po,none⟩:Addr).add j=⟨pb,po+j,none⟩:=by unfold Addr.add; split<;>simp_all
           rw[MI,e1]
           simpa[Ty.size]using this)
          (by omega) (λw hw=>by obtain⟨_,_,rfl⟩:=List.mem_map.1 hw; rfl)
         have hlen:List.length (jU o len xs l)=List.length xs:=by
          simp only[jU,List.length_append,List.length_take,List.length_drop]
          omega
         have fc:Alike (.arr qw (.int k') xs) (.arr qw (.int k') (jU o len xs l)):=⟨rfl,Nat.le_refl _,λ_=>hlen.symm⟩
         let hM:Array Value:=(SO.toList.take o++(List.take len l).map (Value.int k')++SO.toList.drop (o+((List.take len l).map (Value.int k')).length)).toArray
         have U2:hM.size=n:=by
          simp only[hM,List.size_toArray,List.length_append,List.length_take,List.length_drop,Array.length_toList,List.length_map]at *
          omega
         have z7s:∀ (i:Nat) (hi:i<List.length (jU o len xs l)),hM[i]? = some (.int k' (jU o len xs l)[i]):=by
          intro i hi
          have h1:=rN (cs:=SO.toList) (us:=(List.take len l).map (Value.int k')) (o:=o) (n:=((List.take len l).map (Value.int k')).length) rfl (by simp; simp at zc3; omega) i
          have e1:hM[i]? = (SO.toList.take o++(List.take len l).map (Value.int k')++SO.toList.drop (o+((List.take len l).map (Value.int k')).length))[i]? := by simp[hM]
          have B8:(List.map (Value.int k') (List.take len l)).length=min len (List.length l):=by simp
          rw[B8]at h1 e1
          have e2:(jU o len xs l)[i]? = if i<o then xs[i]? else if i<o+min len (List.length l)then(List.take len l)[i-o]? else xs[i]? := by
           unfold jU
           have hto:(List.take o xs).length=o:=by simp; omega
           by_cases q1:i<o
           ·rw[if_pos q1,List.append_assoc,List.getElem?_append_left (by omega),List.getElem?_take,if_pos q1]
           ·rw[if_neg q1,List.append_assoc,List.getElem?_append_right (by omega),hto]
            by_cases q2:i<o+min len (List.length l)
            ·rw[if_pos q2,List.getElem?_append_left (by simp; omega)]
            ·rw[if_neg q2,List.getElem?_append_right (by simp; omega),List.getElem?_drop,List.length_take]
             congr 1; omega
          have e3:(jU o len xs l)[i]? = some (jU o len xs l)[i]:=List.getElem?_eq_getElem hi
          rw[e1,h1]
          rw[e2]at e3
          have hix:i<List.length xs:=by rw[<- hlen]; exact hi
          split
          ·rename_i q1
           rw[if_pos q1,List.getElem?_eq_getElem hix]at e3
           rw[Array.getElem?_toList,rh i hix,Option.some.inj e3]
          ·rename_i q1
           rw[if_neg q1]at e3
           split
           ·rename_i q2
            rw[if_pos q2]at e3
            rw[List.getElem?_map,e3]
            rfl
           ·rename_i q2
            rw[if_neg q2,List.getElem?_eq_getElem hix]at e3
            rw[Array.getElem?_toList,rh i hix,Option.some.inj e3]
         refine⟨κ.Yz b blk hM (.arr qw (.int k') (jU o len xs l)),.value (goInt (((List.take len l).map (Value.int k')).length:Nat)),goInt (((List.take len l).map (Value.int k')).length:Nat),(by rw[Sem.run_bind,vi]; rfl),.inl rfl,rfl,tf hI hp hb fc ?_,lC hI hp hb fc,λd' ke => ?_⟩
         ·refine⟨by simp[Ty.size],.inr ⟨blk,n,hM,T,hp,setRow_heap κ.w blk SO hM T (0,0) k2,U2,by simp[Ty.size]; omega,kr,λi=>[.int k' ((jU o len xs l).getD i 0)],λi hi => ?_⟩⟩
          have hg:(jU o len xs l).getD i 0=(jU o len xs l)[i]:=by simp[List.getD_eq_getElem?_getD,List.getElem?_eq_getElem hi]
          show Rc _ _ (.int k') _ [Value.int k' ((jU o len xs l).getD i 0)]/\∀ (j:Nat) (v:Value),[Value.int k' ((jU o len xs l).getD i 0)][j]? = some v->_
          rw[hg]
          refine⟨.int k' _,λj w hj => ?_⟩
          cases j with
          | zero =>
           simp at hj
           subst hj
           simpa[Ty.size]using z7s i hi
          | succ j=>simp at hj
         ·cases ke
          rw[z1X,<- Xl]
          exact RD.int
      ·exact h2.elim
     ·exact h2.elim
    ·exact h2.elim
  ·exact absurd h ze
 ·exact absurd h ze
end
end Go.AM
namespace Go.AM
set_option linter.unusedSectionVars false
variable [vz]
def ug(P:Program)(g:Nat)(args:Array Value)(w:World)(R:Ending->World->Prop):Prop :=
 ((callFunc g args).run P w=.ok (.enter g args) w/\Calls P g args w R)\/∃ v w',(callFunc g args).run P w=.ok (.value v) w'/\R (.returned v) w'
theorem ug.mono{P:Program}{g:Nat}{args:Array Value}{w:World}{R R':Ending->World->Prop}(h:ug P g args w R)(hr:∀ e w,R e w->R' e w):ug P g args w R':=by
 rcases h with⟨h1,h2⟩ | ⟨v,w',h1,h2⟩
 ·exact .inl ⟨h1,h2.mono hr⟩
 ·exact .inr ⟨v,w',h1,hr _ _ h2⟩
def wc(κ:KS):Ku->Ending->Prop
 | .ret ds,e=>∃ v,e=.returned v/\RD κ (kO ds) v
 | .kb d,e=>∃ v,e=.panicked [{ v,recovered:=false }]/\RD κ d v
abbrev OB:=Nat->Array Value->World->(Ending->World->Prop)->Prop
def zbm(Dr:OB)(g:Nat)(S:List D->St->T (Ku×St)):Prop :=
 ∀ (κ:KS) (args:List D) (zw:List Value) (rs:Ku) (zq:St),(S args κ.st).leads (rs,zq)->Inv κ->qA κ args zw ->
  Dr g zw.toArray κ.w λe w'=>∃ κ':KS,κ'.w=w'/\κ'.st=zq/\Inv κ'/\Ext κ κ'/\wc κ' rs e
def YB(P:Program)(g:Nat)(S:List D->St->T (Ku×St)):Prop :=
 ∀ (κ:KS) (args:List D) (zw:List Value) (rs:Ku) (zq:St),(S args κ.st).leads (rs,zq)->Inv κ->qA κ args zw ->
  ug P g zw.toArray κ.w λe w'=>∃ κ':KS,κ'.w=w'/\κ'.st=zq/\Inv κ'/\Ext κ κ'/\wc κ' rs e
section
variable {c:Ctx} {κ:KS}
theorem RD.weaken{Q0:Nat->Prop}(hs:∀ k,κ.ok k->Q0 k){d:D}{v:Value}(h:RD κ d v):RD { κ with ok:=Q0 } d v:=by
 have QK:Df κ.w κ.w κ.ok Q0:=λk hk=>⟨hs k hk,rfl⟩
 induction h with
 | zD τ y cs h=>exact .zD τ y cs (h.mono QK)
 | xd e a=>exact .xd e a
 | tight e l ne blk off f vy w7 h hc=>exact .tight e l ne blk off f vy (hs _ w7) (λi hi=>(h i hi).mono QK) hc
 | xo=>exact .xo
 | kG=>exact .kG
 | qP=>exact .qP
 | vC=>exact .vC
 | vB=>exact .vB
 | pK v h=>exact .pK v h
 | bj T=>exact .bj T
 | bC b T d hd=>exact .bC b T d hd
 | bE b T blk n d hd h=>exact .bE b T blk n d hd h
 | ptr b off blk n d hd h=>exact .ptr b off blk n d hd h
 | qN τ y cs blk off w7 h hc=>exact .qN τ y cs blk off (hs _ w7) (h.mono QK) hc
 | vU b qw e idx off blk o hb h=>exact .vU b qw e idx off blk o hb h
 | ms b qw e off len cap a hb wM ha mW h=>exact .ms b qw e off len cap a hb wM ha mW h
 | qS f l vs hl h ih=>exact .qS f l vs hl ih
 | agg l vs hl ho h ih=>exact .agg l vs hl ho ih
 | kY l vs hl h ih=>exact .kY l vs hl ih
 | iface t d v h ih=>exact .iface t d v ih
theorem RD.free{κ':KS}(hw:κ'.w=κ.w)(w7:κ'.ok=κ.ok)(xE:κ.st=[]){d:D}{v:Value}(h:RD κ d v):RD κ' d v:=by
 obtain⟨w',Q0,ph',zq⟩:=κ'
 subst hw w7
 induction h with
 | zD τ y cs h=>exact .zD τ y cs h
 | xd e a=>exact .xd e a
 | tight e l ne blk off f vy w7 h hc=>exact .tight e l ne blk off f vy w7 h hc
 | xo=>exact .xo
 | kG=>exact .kG
 | qP=>exact .qP
 | vC=>exact .vC
 | vB=>exact .vB
 | pK v h=>exact .pK v h
 | bj T=>exact .bj T
 | bC b T d hd=>grind
 | bE b T blk n d hd h=>grind
 | ptr b off blk n d hd h=>grind
 | qN τ y cs blk off w7 h hc=>exact .qN τ y cs blk off w7 h hc
 | vU b qw e idx off blk o hb h=>rcases hb with hb | ⟨_,_,_,hb,_⟩ <;> · rw[xE]at hb; simp at hb
 | ms b qw e off len cap a hb wM ha mW h=>rcases hb with hb | ⟨_,_,_,hb,_⟩ <;> · rw[xE]at hb; simp at hb
 | qS f l vs hl h ih=>exact .qS f l vs hl ih
 | agg l vs hl ho h ih=>exact .agg l vs hl ho ih
 | kY l vs hl h ih=>exact .kY l vs hl ih
 | iface t d v h ih=>exact .iface t d v ih
theorem Rc.scalar{w w':World}{ok Q0:Nat->Prop}{τ:Ty}{x:den τ}{cs:List Value}(h:Rc w ok τ x cs)(ht:τ.scalar=true):Rc w' Q0 τ x cs:=by
 induction h with
 | int k n=>exact .int k n
 | bool b=>exact .bool b
 | str s=>exact .str s
 | eK=>cases ht
 | sl=>cases ht
 | nil=>exact .nil
 | cons a b x y c1 c2 h1 h2 i1 i2=>simp only[Ty.scalar,Bool.and_eq_true]at ht; exact .cons a b x y c1 c2 (i1 ht.1) (i2 ht.2)
 | expr=>cases ht
theorem z4b{e:Ty}{ys:List (den e)}{v:Value}(h:Src κ e ys v):Rc κ.w (Mg κ) (.sl e) ys [v]:=by
 obtain⟨a,cap,f,rfl,wM,hn,h1,h2⟩:=h.ex
 cases a with
 | none=>obtain⟨rfl,rfl⟩:=hn rfl; exact .eK e none
 | some p =>
  rcases h2 p rfl with⟨rfl,rfl⟩ | ⟨hp,w7,hc⟩
  ·exact .eK e _
  obtain⟨blk,o,sp⟩:=p
  subst hp
  exact .sl e ys blk o cap f w7 wM (λi hi=>(h1 i hi).mono λk hk=>⟨.inl hk,rfl⟩) hc
def KS.all(κ:KS):KS:={ κ with ok:=Mg κ }
theorem RD.all{d:D}{v:Value}(h:RD κ d v):RD κ.all d v:=h.weaken λ_ hk=>.inl hk
theorem qA.all{l:List D}{vs:List Value}(h:qA κ l vs):qA κ.all l vs:=⟨h.1,λi h1 h2=>(h.2 i h1 h2).all⟩
theorem JG{x y:D}{v:Value}(hI:Inv κ)(hx:RD κ x v)(h:(mb κ.st x).leads y):RD κ.all y v/\(x.one=true->y.one=true)/\(x.uj=false->y.uj=false):=by
 rcases rF hI hx h with⟨rfl,_⟩ | ⟨e,ys,rfl,hs,_⟩
 ·exact⟨hx.all,id,id⟩
 ·exact⟨RD.ik rfl (z4b hs),λ_=>rfl,λ_=>rfl⟩
theorem Ji(hI:Inv κ):∀ {l r:List D} {vs:List Value},qA κ l vs->(∀ d∈l,d.one=true)->(UD κ.st l).leads r->qA κ.all r vs/\∀ d∈r,d.one=true
 | [],r,vs,h,_,hs=>by cases hs; rw[h.qc]; exact⟨.nil,nofun⟩
 | d::l,r,vs,h,ho,hs=>by
  simp only[UD,T.zy]at hs
  obtain⟨x,hx,l',hl,rfl⟩:=hs
  obtain⟨v,us,rfl,h1,h2⟩:=h.cons_inv
  obtain⟨g1,g2,_⟩:=JG hI h1 hx
  obtain⟨k1,k2⟩:=Ji hI h2 (λd hd=>ho d (List.mem_cons_of_mem _ hd)) hl
  refine⟨.cons g1 k1,λd hd => ?_⟩
  grind
theorem NF{x y:D}{v:Value}(hI:Inv κ)(hx:RD κ x v)(h:(snap κ.st x).leads y):RD κ.all y v:=by
 cases x with
 | agg l =>
  simp only[snap,T.zy]at h
  obtain⟨r,hr,rfl⟩:=h
  cases hx with
  | agg _ vs hl ho hh =>
   obtain⟨g1,g2⟩:=Ji hI (⟨hl,hh⟩:qA κ l vs) ho hr
   exact .agg r vs g1.1 g2 g1.2
 | _=>exact(JG hI hx h).1
theorem tE{τ:Ty}{d:D}{x:den τ}{v:Value}(hI:Inv κ)(hd:RD κ d v)(h:(Z7 κ.st τ d).leads x):RD κ.all (.zD τ x) v:=by
 simp only[Z7,T.zy,T.vM]at h
 obtain⟨y,h1,h2⟩:=h
 exact gX (NF hI hd h1) h2
theorem Jp{x y:D}(h:(mb [] x).leads y):y=x:=by
 cases x with
 | ms=>simp[mb,T.leads]at h
 | _=>exact h.symm
theorem JX:∀ {l r:List D},(UD [] l).leads r->r=l
 | [],_,h=>h.symm
 | d::l,r,h=>by
  simp only[UD,T.zy]at h
  obtain⟨x,hx,l',hl,rfl⟩:=h
  rw[Jp hx,JX hl]
theorem RB{x y:D}(h:(snap [] x).leads y):y=x:=by
 cases x with
 | agg l =>
  simp only[snap,T.zy]at h
  obtain⟨r,hr,rfl⟩:=h
  rw[JX hr]
 | _=>exact Jp h
theorem H6{τ:Ty}{d:D}{x:den τ}{v:Value}(hd:RD κ d v)(h:(Z7 [] τ d).leads x):RD κ (.zD τ x) v:=by
 simp only[Z7,T.zy,T.vM]at h
 obtain⟨y,h1,h2⟩:=h
 rw[RB h1]at h2
 exact gX hd h2
def Qt:D->Bool | .zD .. | .qN .. => true | _=>false
def Fx:D->Bool
 | .qS _ l=>l.all Qt
 | d=>Qt d
theorem Sw{d:D}(h:Qt d=true):Fx d=true:=by cases d<;>first | exact h | cases h
theorem Wa{st:St}{τ:Ty}{d y:D}(h:(lP st τ d).leads y):Qt y=true:=by
 unfold lP at h
 split at h
 ·split at h
  ·cases h; rfl
  ·exact h.elim
 ·split at h
  ·split at h
   ·cases h; rfl
   ·exact h.elim
  ·exact h.elim
 ·exact h.elim
theorem UH{τ:Ty}{d y:D}{v:Value}(hI:Inv κ)(hd:RD κ d v)(h:(lP κ.st τ d).leads y):RD κ.all y v:=by
 unfold lP at h
 split at h
 ·split at h
  ·rename_i x z hz
   cases h
   obtain⟨e,rfl⟩:=qj hz
   cases e
   exact hd.all
  ·exact h.elim
 ·rename_i b off
  split at h
  ·rename_i d' hb
   split at h
   ·rename_i z hz
    cases h
    cases ho:Nat.beq off 0 with
    | false=>grind
    | true =>
     have:=Nat.eq_of_beq_eq_true ho
     subst this
     obtain⟨blk,n,cs,t,g1,g2,g3,g4,g5⟩:=hI.blk b _ hb
     cases hd with
     | ptr _ _ fS n' d1 BJ hp =>
      rw[g1]at hp
      cases hp
      have w7:Mg κ blk:=.inr ⟨b,n,g1⟩
      have ht:d'.uj=false:=by
       cases d' with
       | kY l=>simp[cN,D.uj]at hz
       | _=>rfl
      have Bh:=nB hz g4 g5.1 ht
      refine .qN τ z cs.toList blk 0 w7 (Bh.mono λk hk=>⟨.inl hk,rfl⟩) λj v hj => ?_
      show κ.w.cell? _=_
      rw[oQ g2,Nat.zero_add]
      grind
   ·exact h.elim
  ·exact h.elim
 ·exact h.elim
theorem Jv{τ:Ty}{d y:D}{v:Value}(hd:RD κ d v)(h:(lP [] τ d).leads y):RD κ y v:=by
 unfold lP at h
 split at h
 ·split at h
  ·rename_i x z hz
   cases h
   obtain⟨e,rfl⟩:=qj hz
   grind
  ·exact h.elim
 ·rename_i b off
  split at h
  ·grind
  ·exact h.elim
 ·exact h.elim
theorem YK{st:St}{p:Zm}{d y:D}(h:(mL st p d).leads y):Qt y=true:=by
 cases p with
 | rp τ=>exact Wa h
 | im τ=>simp only[mL,T.zy]at h; obtain⟨x,_,rfl⟩:=h; rfl
theorem BR{p:Zm}{d y:D}{v:Value}(hI:Inv κ)(hd:RD κ d v)(h:(mL κ.st p d).leads y):RD κ.all y v:=by
 cases p with
 | rp τ=>exact UH hI hd h
 | im τ=>simp only[mL,T.zy]at h; obtain⟨x,hx,rfl⟩:=h; exact tE hI hd hx
theorem BB{p:Zm}{d y:D}{v:Value}(hd:RD κ d v)(h:(mL [] p d).leads y):RD κ y v:=by
 cases p with
 | rp τ=>exact Jv hd h
 | im τ=>simp only[mL,T.zy]at h; obtain⟨x,hx,rfl⟩:=h; exact H6 hd hx
theorem Z3{st:St}:∀ {ps:List Zm} {ds r:List D},(hH st ps ds).leads r->∀ d∈r,Qt d=true
 | [],[],r,hs=>by cases hs; nofun
 | p::ps,d::ds,r,hs=>by
  simp only[hH,T.zy]at hs
  obtain⟨x,hx,l,hl,rfl⟩:=hs
  intro d' ke
  rcases List.mem_cons.1 ke with rfl | ke
  ·exact YK hx
  ·exact Z3 hl d' ke
 | [],_::_,_,hs=>hs.elim
 | _::_,[],_,hs=>hs.elim
theorem Qe(hI:Inv κ):∀ {ps:List Zm} {ds r:List D} {vs:List Value},qA κ ds vs->(hH κ.st ps ds).leads r->qA κ.all r vs
 | [],[],r,vs,h,hs=>by cases hs; rw[h.qc]; exact .nil
 | p::ps,d::ds,r,vs,h,hs=>by
  simp only[hH,T.zy]at hs
  obtain⟨x,hx,l,hl,rfl⟩:=hs
  obtain⟨v,us,rfl,h1,h2⟩:=h.cons_inv
  exact .cons (BR hI h1 hx) (Qe hI h2 hl)
 | [],_::_,_,_,_,hs=>hs.elim
 | _::_,[],_,_,_,hs=>hs.elim
theorem Qy:∀ {ps:List Zm} {ds r:List D} {vs:List Value},qA κ ds vs->(hH [] ps ds).leads r->qA κ r vs
 | [],[],r,vs,h,hs=>by cases hs; rw[h.qc]; exact .nil
 | p::ps,d::ds,r,vs,h,hs=>by
  simp only[hH,T.zy]at hs
  obtain⟨x,hx,l,hl,rfl⟩:=hs
  obtain⟨v,us,rfl,h1,h2⟩:=h.cons_inv
  exact .cons (BB h1 hx) (Qy h2 hl)
 | [],_::_,_,_,_,hs=>hs.elim
 | _::_,[],_,_,_,hs=>hs.elim
theorem rk{st:St}{p:sn}{d y:D}(h:(YO st p d).leads y):(∃ τ x,p=.ty τ/\(Z7 st τ d).leads x/\y=.zD τ x)\/(∃ τ,p=.rp τ/\(lP st τ d).leads y) \/
  ∃ f caps l l',p=.qS f caps/\d=.qS f l/\(hH st caps l).leads l'/\y=.qS f l':=by
 cases p with
 | ty τ =>
  have h':((Z7 st τ d).bind λx=>T.ret (D.zD τ x)).leads y:=by cases d<;>exact h
  simp only[T.zy]at h'
  obtain⟨x,hx,rfl⟩:=h'
  grind
 | rp τ=>exact .inr (.inl ⟨τ,rfl,by cases d<;>exact h⟩)
 | qS f caps =>
  cases d with
  | qS f' l =>
   simp only[YO]at h
   cases hb:Nat.beq f f' with
   | false=>rw[hb]at h; exact h.elim
   | true =>
    rw[hb,cond_true,T.zy]at h
    obtain⟨l',hl,rfl⟩:=h
    have:=Nat.eq_of_beq_eq_true hb
    grind
  | _=>exact h.elim
theorem LN{st:St}{p:sn}{d y:D}(h:(YO st p d).leads y):Fx y=true:=by
 rcases rk h with⟨τ,x,_,_,rfl⟩ | ⟨τ,_,h⟩ | ⟨f,caps,l,l',_,_,h',rfl⟩
 ·rfl
 ·exact Sw (Wa h)
 ·exact List.all_eq_true.2 (Z3 h')
theorem N4{p:sn}{d y:D}{v:Value}(hI:Inv κ)(hd:RD κ d v)(h:(YO κ.st p d).leads y):RD κ.all y v:=by
 rcases rk h with⟨τ,x,_,hx,rfl⟩ | ⟨τ,_,h⟩ | ⟨f,caps,l,l',_,rfl,h',rfl⟩
 ·exact tE hI hd hx
 ·exact UH hI hd h
 ·cases hd with
  | qS _ _ vs hl hh =>
   have:=Qe hI (⟨hl,hh⟩:qA κ l vs) h'
   exact .qS f l' vs this.1 this.2
theorem NK{p:sn}{d y:D}{v:Value}(hd:RD κ d v)(h:(YO [] p d).leads y):RD κ y v:=by
 rcases rk h with⟨τ,x,_,hx,rfl⟩ | ⟨τ,_,h⟩ | ⟨f,caps,l,l',_,rfl,h',rfl⟩
 ·exact H6 hd hx
 ·exact Jv hd h
 ·cases hd with
  | qS _ _ vs hl hh =>
   have:=Qy (⟨hl,hh⟩:qA κ l vs) h'
   exact .qS f l' vs this.1 this.2
theorem rJ{st:St}:∀ {ps:List sn} {ds r:List D},(lW st ps ds).leads r->∀ d∈r,Fx d=true
 | [],[],r,hs=>by cases hs; nofun
 | p::ps,d::ds,r,hs=>by
  simp only[lW,T.zy]at hs
  obtain⟨x,hx,l,hl,rfl⟩:=hs
  intro d' ke
  rcases List.mem_cons.1 ke with rfl | ke
  ·exact LN hx
  ·exact rJ hl d' ke
 | [],_::_,_,hs=>hs.elim
 | _::_,[],_,hs=>hs.elim
theorem Jl(hI:Inv κ):∀ {ps:List sn} {ds r:List D} {vs:List Value},qA κ ds vs->(lW κ.st ps ds).leads r->qA κ.all r vs
 | [],[],r,vs,h,hs=>by cases hs; rw[h.qc]; exact .nil
 | p::ps,d::ds,r,vs,h,hs=>by
  simp only[lW,T.zy]at hs
  obtain⟨x,hx,l,hl,rfl⟩:=hs
  obtain⟨v,us,rfl,h1,h2⟩:=h.cons_inv
  exact .cons (N4 hI h1 hx) (Jl hI h2 hl)
 | [],_::_,_,_,_,hs=>hs.elim
 | _::_,[],_,_,_,hs=>hs.elim
theorem ZS:∀ {ps:List sn} {ds r:List D} {vs:List Value},qA κ ds vs->(lW [] ps ds).leads r->qA κ r vs
 | [],[],r,vs,h,hs=>by cases hs; rw[h.qc]; exact .nil
 | p::ps,d::ds,r,vs,h,hs=>by
  simp only[lW,T.zy]at hs
  obtain⟨x,hx,l,hl,rfl⟩:=hs
  obtain⟨v,us,rfl,h1,h2⟩:=h.cons_inv
  exact .cons (NK h1 hx) (ZS h2 hl)
 | [],_::_,_,_,hs,h=>h.elim
 | _::_,[],_,_,hs,h=>h.elim
def KS.bare(κ:KS)(ok:Nat->Prop):KS:=⟨κ.w,ok,[],[]⟩
theorem Vg{ok:Nat->Prop}(hI:Inv κ)(hs:∀ k,κ.ok k->ok k)(h:∀ k,ok k->k<κ.w.heap.size):Inv (κ.bare ok) :=
 ⟨rfl,h,λb blk n h=>by simp[KS.bare]at h,λb b' blk n n' h=>by nofun,λb x h=>by simp[KS.bare]at h,hI.gl.mono λk hk=>⟨hs k hk,rfl⟩⟩
theorem lE{ok:Nat->Prop}{d:D}{v:Value}(hi:Qt d=true)(h:RD { κ with ok:=ok } d v):RD (κ.bare ok) d v:=by
 cases d with
 | zD τ x=>obtain⟨cs,h1,rfl⟩:=RD.gb h; exact .zD τ x cs h1
 | qN τ x=>cases h with | qN _ _ cs blk off w7 h hc=>exact .qN τ x cs blk off w7 h hc
 | _=>cases hi
theorem Jh{ok:Nat->Prop}{d:D}{v:Value}(hi:Fx d=true)(h:RD { κ with ok:=ok } d v):RD (κ.bare ok) d v:=by
 cases d with
 | qS f l =>
  cases h with
  | qS _ _ vs hl hh=>exact .qS f l vs hl λi h1 h2=>lE (List.all_eq_true.1 hi _ (List.getElem_mem h1)) (hh i h1 h2)
 | zD τ x=>exact lE hi h
 | qN τ x=>exact lE hi h
 | _=>cases hi
theorem HH{κ1:KS}{ok:Nat->Prop}(hI:Inv κ)(Ze:Inv κ1)(xE:κ1.st=[])(hx:Ext (κ.bare ok) κ1)(Q0:Nat->Prop)(h1:∀ k,κ.ok k->Q0 k)(h2:∀ k,Q0 k->κ.ok k\/κ.w.heap.size<=k)(h3:∀ k,Q0 k->k<κ1.w.heap.size) :
  Ext κ { κ with w:=κ1.w,ok:=Q0 }/\Inv { κ with w:=κ1.w,ok:=Q0 }:=by
 have hfr:∀ k,k<κ.w.heap.size->κ1.w.heap[k]? = κ.w.heap[k]? := λk hk=>hx.frame k hk λb n h=>by simp[KS.bare]at h
 have uo:κ.w.heap.size<=κ1.w.heap.size:=hx.size
 have he:Ext κ { κ with w:=κ1.w,ok:=Q0 }:=⟨hx.os,hx.tape,hx.output,uo,λk hk=>⟨h1 k hk,hfr k (hI.y4 k hk)⟩,λk hk=>(h2 k hk).elim .inl (λh=>.inr (.inl h)),λ_ _ _ h=>.inl h,λb d h=>⟨⟨d,h⟩,rfl⟩,
  λb v0 e xs h=>.inr ⟨v0,xs,h,Nat.le_refl _,λ_=>⟨rfl,rfl⟩⟩,λ_ h=>h,Nat.le_refl _,λk hk _=>hfr k hk⟩
 refine⟨he,hI.len,h3,λb blk n h => ?_,hI.inj,λb x h=>(hI.blk b x h).mono he rfl λblk n h=>hfr _ (hI.apart b blk n h).1,hI.gl.mono he.same⟩
 obtain⟨g1,g2⟩:=hI.apart b blk n h
 grind
theorem Ij{g:Nat}{args:List D}{zw:List Value}{d:Option D}{zq:St}(hs:YB c.P g (c.fn g))(hI:Inv κ)(ha:qA κ args zw)
  (h:(zB (match c.sig g args with | some s=>gv c g s args | none=>oN c g args) κ.st).leads (d,zq)) :
  ug c.P g zw.toArray κ.w λe w'=>∃ (κ':KS) (v:Value),κ'.w=w'/\κ'.st=zq/\Inv κ'/\Ext κ κ'/\e=.returned v/\∀ d',d=some d'->RD κ' d' v:=by
 split at h
 ·rename_i s IM
  unfold gv at h
  cases hm:(!(args.any Wy))with
  | true =>
   rw[hm,cond_true,wH]at h
   obtain⟨h,rfl⟩:=h
   simp only[T.zy]at h
   obtain⟨l,hl,⟨rs,yJ⟩,hc,hr⟩:=h
   have gF:=ZS ha hl
   have hb:qA (κ.bare κ.ok) l zw:=⟨gF.1,λi h1 h2=>Jh (rJ hl _ (List.getElem_mem h1)) (gF.2 i h1 h2)⟩
   refine(hs (κ.bare κ.ok) l zw rs yJ hc (Vg hI (λ_ h=>h) hI.y4) hb).mono ?_
   rintro e w' ⟨κ1,rfl,xE,Ze,hx,he⟩
   unfold N1 at hr
   split at hr
   ·rename_i ds heq
    cases heq
    cases hr
    obtain⟨v,rfl,hv⟩:=he
    obtain⟨hE,hI'⟩:=HH hI Ze xE hx κ1.ok (λk hk=>(hx.same k hk).1) (λk hk=>by
     rcases hx.fresh k hk with h | h | ⟨b,n,h⟩
     ·exact .inl h
     ·exact .inr h
     ·simp[KS.bare]at h) Ze.y4
    exact⟨{ κ with w:=κ1.w,ok:=κ1.ok },v,rfl,rfl,hI',hE,rfl,λd' ke=>by cases ke; exact RD.free (κ:=κ1) (κ':={ κ with w:=κ1.w,ok:=κ1.ok }) rfl rfl xE hv⟩
   ·exact hr.elim
  | false =>
   rw[hm,cond_false,fI]at h
   obtain⟨h,rfl⟩:=h
   simp only[T.zy]at h
   obtain⟨l,hl,⟨rs,yJ⟩,hc,hr⟩:=h
   have gF:=Jl hI ha hl
   have hb:qA (κ.bare (Mg κ)) l zw:=⟨gF.1,λi h1 h2=>Jh (rJ hl _ (List.getElem_mem h1)) (gF.2 i h1 h2)⟩
   have qs:∀ k,Mg κ k->k<κ.w.heap.size:=by
    rintro k (hk | ⟨b,n,hk⟩)
    ·exact hI.y4 k hk
    ·exact(hI.apart b k n hk).1
   refine(hs (κ.bare (Mg κ)) l zw rs yJ hc (Vg hI (λ_ h=>.inl h) qs) hb).mono ?_
   rintro e w' ⟨κ1,rfl,xE,Ze,hx,he⟩
   unfold oB at hr
   split at hr
   ·rename_i ds heq
    cases heq
    cases oX:ds.all oz with
    | false=>rw[oX]at hr; exact hr.elim
    | true =>
     rw[oX,cond_true]at hr
     cases hr
     obtain⟨v,rfl,hv⟩:=he
     obtain⟨hE,hI'⟩:=HH hI Ze xE hx κ.ok (λk hk=>hk) (λk hk=>.inl hk) (λk hk=>Nat.lt_of_lt_of_le (hI.y4 k hk) hx.size)
     refine⟨{ κ with w:=κ1.w,ok:=κ.ok },v,rfl,rfl,hI',hE,rfl,λd' ke => ?_⟩
     cases ke
     have one:∀ d u,oz d=true->RD κ1 d u->RD { κ with w:=κ1.w,ok:=κ.ok } d u:=by
      intro d u hd hu
      cases d<;>simp[oz]at hd
      obtain⟨cs,h1,rfl⟩:=RD.gb hu
      exact .zD _ _ cs (h1.scalar hd)
     have sU:=List.all_eq_true.1 oX
     unfold kO at hv ⊢
     split at hv
     ·exact one _ _ (sU _ (by simp)) hv
     ·rename_i vy
      cases hv with
      | kY _ vs hl hh=>exact .kY ds vs hl λi h1 h2=>one _ _ (sU _ (List.getElem_mem h1)) (hh i h1 h2)
   ·exact hr.elim
 ·unfold oN at h
  simp only[zB,T.zy]at h
  obtain⟨⟨rs,yJ⟩,hc,hr⟩:=h
  refine(hs κ args zw rs yJ hc hI ha).mono ?_
  rintro e w' ⟨κ1,rfl,xE,Ze,hx,he⟩
  cases rs with
  | kb p=>exact hr.elim
  | ret ds =>
   cases hr
   obtain⟨v,rfl,hv⟩:=he
   exact⟨κ1,v,rfl,xE,Ze,hx,rfl,λd' ke=>by cases ke; exact hv⟩
end
end Go.AM