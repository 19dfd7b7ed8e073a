/-
  The abstract machine, part B: texts of our own, the same for each claim.
-/
import Derived.Test.YthhgaidlooddpaaGreatDoorAmA
import Derived.Lib.AppendStr
import Derived.WideLaws
import Derived.Laws.BytesArg
import Derived.Laws.CopyRow
import Derived.Laws.IdiomCopy
set_option linter.unusedVariables false
namespace Go.AM
set_option linter.unusedSectionVars false
variable [vU]
section
variable {c:Ctx} {κ κ':KS}
theorem dR.mono(x:Ext κ κ'){b:Nat}(hp:κ'.ph[b]? = κ.ph[b]?)(hh:∀ blk n,κ.ph[b]? = some (some (blk,n))->κ'.w.heap[blk]? = κ.w.heap[blk]?){y:kE}(h:dR κ b y):dR κ' b y:=by
 cases y with
 | dead=>trivial
 | var d =>
  obtain⟨blk,n,cs,t,h1,h2,h3,h4,h5⟩:=h
  exact⟨blk,n,cs,t,hp.trans h1,(hh blk n h1).trans h2,h3,h4.mono x,h5⟩
 | arr qB e xs =>
  obtain⟨h0,h⟩:=h
  refine⟨h0,eP h (λh=>⟨h.1,hp.trans h.2⟩) ?_⟩
  rintro⟨blk,n,cs,t,h1,h2,h3,h4,hr,f,h5⟩
  exact⟨blk,n,cs,t,hp.trans h1,(hh blk n h1).trans h2,h3,h4,hr,f,λi hi=>⟨(h5 i hi).1.mono x.same,(h5 i hi).2⟩⟩
def KS.zI(κ:KS)(w':World):KS:={ κ with w:=w',ok:=λk=>κ.ok k\/k=κ.w.heap.size }
structure ep(w w':World)(o:Obj):Prop where
 os:w'.os=w.os
 tape:w'.tape=w.tape
 output:w'.output=w.output
 heap:w'.heap=w.heap.push o
theorem ep.size{w w':World}{o:Obj}(g:ep w w' o):w'.heap.size=w.heap.size+1:=by rw[g.heap]; simp
theorem ep.old{w w':World}{o:Obj}(g:ep w w' o){k:Nat}(h:k<w.heap.size):w'.heap[k]? = w.heap[k]? := by
 rw[g.heap,Array.getElem?_push,if_neg (by omega)]
theorem ep.new{w w':World}{o:Obj}(g:ep w w' o):w'.heap[w.heap.size]? = some o:=by rw[g.heap]; simp
theorem ep.alloc(w:World)(o:Obj):ep w (w.alloc o) o:=⟨rfl,rfl,rfl,rfl⟩
theorem ep.drew(w:World)(o:Obj):ep w (w.drew.alloc o) o:=⟨rfl,rfl,rfl,rfl⟩
theorem Wh{w':World}{o:Obj}(hI:Inv κ)(g:ep κ.w w' o):Ext κ (κ.zI w'):=by
 refine⟨g.os,g.tape,g.output,by show κ.w.heap.size<=w'.heap.size; rw[g.size]; omega,λk hk=>⟨.inl hk,g.old (hI.yr k hk)⟩,?_,λ_ _ _ h=>.inl h,λb d h=>⟨⟨d,h⟩,rfl⟩,
  λb v0 e xs h=>.inr ⟨v0,xs,h,Nat.le_refl _,λ_=>⟨rfl,rfl⟩⟩,λ_ h=>h,Nat.le_refl _,λk hk _=>g.old hk⟩
 rintro k (hk | hk)
 ·grind
 ·grind
theorem gn{w':World}{o:Obj}(hI:Inv κ)(g:ep κ.w w' o):Inv (κ.zI w'):=by
 refine⟨hI.len,?_,?_,hI.inj,?_,hI.gl.mono (Wh hI g).same⟩
 ·rintro k (hk | hk)
  ·have:=hI.yr k hk; show k<w'.heap.size; rw[g.size]; omega
  ·show k<w'.heap.size; rw[g.size]; omega
 ·intro b blk n h
  obtain⟨h1,h2⟩:=hI.apart b blk n h
  refine⟨by show blk<w'.heap.size; rw[g.size]; omega,?_⟩
  rintro(hk | hk)
  ·exact h2 hk
  ·omega
 ·intro b x hx
  exact(hI.blk b x hx).mono (Wh hI g) rfl λblk n h=>g.old (hI.apart b blk n h).1
def KS.add(κ:KS)(w':World)(n:Nat)(x:kE):KS:={ κ with w:=w',ph:=κ.ph++[some (κ.w.heap.size,n)],st:=κ.st++[x] }
theorem pR{w':World}{o:Obj}{n:Nat}{x:kE}(hI:Inv κ)(g:ep κ.w w' o):Ext κ (κ.add w' n x):=by
 have xM:∀ b y,κ.st[b]? = some y->(κ.st++[x])[b]? = some y:=λb y h=>by rw[List.getElem?_append_left (List.getElem?_eq_some_iff.1 h).1]; exact h
 have KE:∀ b y,κ.st[b]? = some y->(κ.ph++[some (κ.w.heap.size,n)])[b]? = κ.ph[b]? := λb y h=>by
  rw[List.getElem?_append_left]; rw[hI.len]; exact(List.getElem?_eq_some_iff.1 h).1
 refine⟨g.os,g.tape,g.output,by show κ.w.heap.size<=w'.heap.size; rw[g.size]; omega,λk hk=>⟨hk,g.old (hI.yr k hk)⟩,λk hk=>.inl hk,?_,λb d h=>⟨⟨d,xM b _ h⟩,KE b _ h⟩,
  λb v0 e xs h=>.inr ⟨v0,xs,xM b _ h,Nat.le_refl _,λ_=>⟨KE b _ h,rfl⟩⟩,λb h=>xM b _ h,by simp[KS.add],λk hk _=>g.old hk⟩
 intro b blk m h
 simp only[KS.add]at h
 grind
theorem nZ(hI:Inv κ){w':World}{n:Nat}{x:kE}:(κ.add w' n x).ph[κ.st.length]? = some (some (κ.w.heap.size,n)):=by
 simp[KS.add,<- hI.len]
theorem tu{w':World}{n:Nat}{x:kE}:(κ.add w' n x).st[κ.st.length]? = some x:=by simp[KS.add]
theorem WE{w':World}{o:Obj}{n:Nat}{x:kE}(hI:Inv κ)(g:ep κ.w w' o)(hx:dR (κ.add w' n x) κ.st.length x):Inv (κ.add w' n x):=by
 have hold:∀ (b blk m:Nat),(κ.ph++[some (κ.w.heap.size,n)])[b]? = some (some (blk,m))->κ.ph[b]? = some (some (blk,m))\/(b=κ.ph.length/\blk=κ.w.heap.size):=by
  grind
 refine⟨by simp[KS.add,hI.len],?_,?_,?_,?_,hI.gl.mono (pR hI g).same⟩
 ·intro k hk; have:=hI.yr k hk; show k<w'.heap.size; rw[g.size]; omega
 ·intro b blk m h
  rcases hold b blk m h with h | ⟨rfl,rfl⟩
  ·obtain⟨h1,h2⟩:=hI.apart b blk m h
   exact⟨by show blk<w'.heap.size; rw[g.size]; omega,h2⟩
  ·exact⟨by show κ.w.heap.size<w'.heap.size; rw[g.size]; omega,λhk=>absurd (hI.yr _ hk) (Nat.lt_irrefl _)⟩
 ·intro b b' blk m m' h h'
  rcases hold b blk m h with h | ⟨rfl,rfl⟩<;>rcases hold b' _ m' h' with h' | ⟨rfl,h''⟩
  ·exact hI.inj b b' blk m m' h h'
  ·have:=(hI.apart b blk m h).1; omega
  ·have:=(hI.apart b' _ m' h').1; omega
  ·rfl
 ·intro b y hy
  simp only[KS.add]at hy
  by_cases hb:b<κ.st.length
  ·rw[List.getElem?_append_left hb]at hy
   refine(hI.blk b y hy).mono (pR hI g) ?_ λblk m h=>g.old (hI.apart b blk m h).1
   simp only[KS.add]
   rw[List.getElem?_append_left (by rw[hI.len]; exact hb)]
  ·grind
theorem FU{d:D}{v:Value}{t:TypeId}(hI:Inv κ)(hd:RD κ d v)(ht:d.uM=false)(IW:∀ T,d.typed=some T->t=T) :
  ∃ κ':KS,κ'.w=κ.w.alloc (.cells v.cells t)/\κ'.st=κ.st++[.var d]/\Inv κ'/\Ext κ κ'/\RD κ' (.ptr κ.st.length 0) (.pointer (some ⟨κ.w.heap.size,0,none⟩)):=by
 have g:=ep.alloc κ.w (.cells v.cells t)
 have hx:=pR (n:=v.cells.size) (x:=.var d) hI g
 refine⟨κ.add _ v.cells.size (.var d),rfl,rfl,WE hI g ?_,hx,.ptr _ 0 _ v.cells.size d tu (nZ hI)⟩
 exact⟨κ.w.heap.size,v.cells.size,v.cells,t,nZ hI,g.new,rfl,(j9 hd ht).mono hx,jd hd,IW⟩
theorem Rs{t:Nat}{x:Option D}{v:Value}{d:Option D}{zr:St}(hI:Inv κ)(hx:∀ z,x=some z->RD κ z v)
  (h:(zH (Pj x) κ.st).leads (d,zr)) :
  qA c.P (do Pure.pure (.value (<- Instr.box t v))) κ d zr:=by
 cases x with
 | none=>exact absurd h ze
 | some y =>
  simp only[Pj]at h
  cases ht:y.uM||y.typed.isSome with
  | true=>rw[ht]at h; exact absurd h ze
  | false =>
   rw[ht,cond_false]at h
   simp at ht
   obtain⟨ht,IW⟩:=ht
   have zdg:∀ T,y.typed=some T->t=T:=λT e=>by rw[e]at IW; cases IW
   obtain⟨rfl,rfl⟩:=h
   obtain⟨κ',h1,h2,h3,h4,h5⟩:=FU (t:=t) hI (hx _ rfl) ht zdg
   refine⟨κ',_,_,?_,.inl rfl,h2,h3,h4,λ_ he=>by cases he; exact h5⟩
   simp[Instr.box,newVar,newRow,h1]
theorem z5H{d:D}{τ:Ty}{x:den τ}{v:Value}{t:TypeId}(hI:Inv κ)(hd:RD κ d v)(hx:eG τ d=some x) :
  ∃ κ':KS,κ'.w=κ.w.alloc (.cells v.cells t)/\κ'.st=κ.st/\Inv κ'/\Ext κ κ'/\RD κ' (.qU τ x) (.pointer (some ⟨κ.w.heap.size,0,none⟩)):=by
 have g:=ep.alloc κ.w (.cells v.cells t)
 have Gw:=Wh hI g
 obtain⟨cs,h1,h2⟩:=RD.gn (bX hd hx)
 have hc:=Qf h1.len h1.one
 have hn:(κ.w.alloc (.cells v.cells t)).heap[κ.w.heap.size]? = some (.cells v.cells t (0,0)):=g.new
 have sd:∀ j u,cs[j]? = some u->(κ.w.alloc (.cells v.cells t)).cell? ⟨κ.w.heap.size,0+j,none⟩=some u:=by
  simp
  grind
 exact⟨κ.zI _,rfl,rfl,gn hI g,Gw,.qU τ x cs κ.w.heap.size 0 (.inr rfl) (h1.mono Gw.same) sd⟩
theorem EL{t:Nat}{x:Option D}{v:Value}{d:Option D}{zr:St}(hI:Inv κ)(hx:∀ z,x=some z->RD κ z v)
  (h:(zH (Oy c t x) κ.st).leads (d,zr)):qA c.P (do Pure.pure (.value (<- Instr.box t v))) κ d zr:=by
 have key:∀ (y:D) (τ:Ty) (z:den τ),x=some y->eG τ y=some z->(zH (val (.qU τ z)) κ.st).leads (d,zr)->qA c.P (do Pure.pure (.value (<- Instr.box t v))) κ d zr:=by
  intro y τ z hy hz h
  obtain⟨rfl,rfl⟩:=h
  obtain⟨κ',h1,h2,h3,h4,h5⟩:=z5H (t:=t) hI (hx y hy) hz
  refine⟨κ',_,_,?_,.inl rfl,h2,h3,h4,λ_ he=>by cases he; exact h5⟩
  simp[Instr.box,newVar,newRow,h1]
 unfold Oy at h
 split at h
 ·rename_i τ z
  exact key _ τ z rfl (by simp[eG,wP]) h
 ·split at h
  ·split at h
   ·grind
   ·exact absurd h ze
  ·exact absurd h ze
 ·exact absurd h ze
theorem CL{t:Nat}{dst:Option Nat}{x:Option D}{v:Value}{d:Option D}{zr:St}(hI:Inv κ)(hx:∀ z,x=some z->RD κ z v)
  (h:(zH (O0 c t dst x) κ.st).leads (d,zr)):qA c.P (do Pure.pure (.value (<- Instr.box t v))) κ d zr:=by
 unfold O0 at h
 cases hb:z8r c dst with
 | true=>rw[hb]at h; exact EL hI hx h
 | false=>rw[hb]at h; exact Rs hI hx h
theorem pH{v:Value}{d:D}(h:ox v=some d):RD κ d v/\d.one=true/\d.uM=false/\(∀ cs,v≠.agg cs):=by
 unfold ox at h
 split at h<;>cases h<;>refine⟨?_,rfl,rfl,λ_=>nofun⟩
 ·exact .int
 ·exact .bool
 ·rename_i s; have:=RD.str (κ:=κ) (s:=s.data.toList); simpa using this
 ·exact .xy
 ·exact .y9
 ·exact .vW
 ·exact .qX
 ·exact .vX
theorem J1{v:Value}{d:D}(h:XZ v=some d):RD κ d v/\d.uM=false:=by
 unfold XZ at h
 split at h
 ·rename_i cs
  split at h
  ·rename_i l hl
   cases h
   have nM:∀ x∈l,x.one=true:=by
    intro x hx
    have:some x∈cs.toList.map ox:=by rw[de hl]; exact List.mem_map.2 ⟨x,hx,rfl⟩
    obtain⟨u,_,hu⟩:=List.mem_map.1 this
    exact(pH (κ:=κ) hu).2.1
   have hr:=yO (κ:=κ) (vs:=cs.toList) hl (by simp) (λi d v hd hv=>by
    simp only[List.getElem?_map,hv,Option.map_some,Option.some.injEq]at hd
    exact(pH hd).1)
   refine⟨?_,rfl⟩
   have:=RD.agg l cs.toList hr.1 nM hr.2
   omega
  ·cases h
 ·exact⟨(pH h).1,(pH (κ:=κ) h).2.2.1⟩
theorem Q0{v:Value}{d:D}(h:ox v=some d):(∀ l,d≠.agg l)/\(∀ T,d≠.cj T)/\∀ b T,d≠.kS b T:=by
 unfold ox at h
 grind
theorem Cv{v:Value}{d:D}(h:XZ v=some d):d.typed=none:=by
 unfold XZ at h
 split at h
 ·rename_i cs
  split at h
  ·rename_i l hl
   cases h
   have hz:=de hl
   cases l with
   | nil=>rfl
   | cons x r =>
    have:some x∈cs.toList.map ox:=by rw[hz]; simp
    obtain⟨u,_,hu⟩:=List.mem_map.1 this
    obtain⟨_,h1,h2⟩:=Q0 hu
    cases x<;>first | rfl | exact absurd rfl (h1 _) | exact absurd rfl (h2 _ _)
  ·cases h
 ·have:=(Q0 h).1
  cases d<;>first | rfl | exact absurd rfl (this _)
structure ZD(t:Nat)(d:D)(z:Value):Prop where
 rd:∀ κ:KS,RD κ d z
 yH:d.uM=false
 ty:∀ T,d.typed=some T->t=T
theorem Rf{t:Nat}{d:D}{z:Value}(h:XZ z=some d):ZD t (Sg c t d) z:=by
 have h0:∀ κ:KS,RD κ d z:=λκ=>(J1 h).1
 have h1:d.uM=false:=(J1 (κ:=⟨default,λ_=>False,[],[]⟩) h).2
 have h2:=Cv h
 have same:ZD t d z:=⟨h0,h1,λT e=>by grind⟩
 unfold Sg
 split
 ·rename_i r
  cases hs:z47 c t with
  | false=>exact same
  | true =>
   refine⟨λκ => ?_,rfl,λT e=>by cases e; rfl⟩
   cases h0 κ with
   | agg _ vs hl ho hh =>
    have hR:qH κ (.y9::r) vs:=⟨hl,hh⟩
    obtain⟨v,us,rfl,g1,g2⟩:=hR.cons_inv
    have hR2:qH κ (.cj t::r) (v::us):=.cons (by cases g1; exact .cj t) g2
    exact .agg _ _ hR2.1 (λx hx=>by
     rcases List.mem_cons.1 hx with rfl | hx
     ·rfl
     ·exact ho x (List.mem_cons_of_mem _ hx)) hR2.2
 ·exact same
theorem eY{t:Nat}{d:D}(h:XV c t=some d):∃ i z,c.P.info? t=some i/\i.zero=some z/\ZD t d z:=by
 unfold XV at h
 split at h
 ·rename_i i hi
  split at h
  ·rename_i z hz
   split at h
   ·rename_i d0 Mn
    cases h
    exact⟨i,z,hi,hz,Rf Mn⟩
   ·cases h
  ·cases h
 ·cases h
theorem CM{t:Nat}{d:Option D}{zr:St}(hI:Inv κ)
  (h:(zH (ma c t) κ.st).leads (d,zr)) :
  qA c.P (do Pure.pure (.value (<- Instr.alloc t true (.tuple #[])))) κ d zr:=by
 unfold ma at h
 split at h
 ·rename_i y hy
  obtain⟨i,z,h1,h2,h3⟩:=eY hy
  obtain⟨rfl,rfl⟩:=h
  obtain⟨κ',g1,g2,g3,g4,g5⟩:=FU (t:=t) hI (h3.rd κ) h3.yH h3.ty
  refine⟨κ',_,_,?_,.inl rfl,g2,g3,g4,λ_ he=>by cases he; exact g5⟩
  simp[Instr.alloc,zeroValue,typeInfo,h1,h2,newVar,newRow,g1]
 ·exact absurd h ze
end
end Go.AM
namespace Go.AM
set_option linter.unusedSectionVars false
variable [vU]
section
variable {c:Ctx} {κ:KS}
def KS.GV(κ:KS)(b blk:Nat)(cs:Array Value)(x:kE):KS:={ κ with w:=κ.w.setRow blk cs,st:=κ.st.set b x }
def Alike:kE->kE->Prop
 | .var _,.var _=>True
 | .arr v e xs,.arr v' e' xs'=>e=e'/\v<=v'/\(v=v'->xs.length=xs'.length)
 | _,_=>False
theorem ml{b blk n:Nat}{cs:Array Value}{x y:kE}(hI:Inv κ)(hp:κ.ph[b]? = some (some (blk,n)))(hy:κ.st[b]? = some y)(ha:Alike y x):Ext κ (κ.GV b blk cs x):=by
 have qy:b<κ.st.length:=(List.getElem?_eq_some_iff.1 hy).1
 have vT:∀ k,κ.ok k->k≠blk:=λk hk e=>(hI.apart b blk n hp).2 (e▸hk)
 refine⟨rfl,rfl,rfl,by simp[KS.GV],λk hk=>⟨hk,setRow_other _ _ _ _ (vT k hk)⟩,λk hk=>.inl hk,λ_ _ _ h=>.inl h,?_,?_,?_,by simp[KS.GV],?_⟩
 ·intro b' d hd
  refine⟨?_,rfl⟩
  simp only[KS.GV,List.getElem?_set]
  split
  ·rename_i e
   subst e
   rw[hy]at hd; cases hd
   cases x<;>simp[Alike]at ha
   simp
  ·grind
 ·intro b' v0 e sJ hd
  simp only[KS.GV,List.getElem?_set]
  split
  ·rename_i e'
   subst e'
   rw[hy]at hd; cases hd
   cases x<;>simp[Alike]at ha
   grind
  ·grind
 ·intro b' hd
  simp only[KS.GV,List.getElem?_set]
  split
  ·rename_i e
   subst e
   rw[hy]at hd; cases hd
   simp[Alike]at ha
  ·exact hd
 ·intro k hk hn
  exact setRow_other _ _ _ _ (λe=>hn b n (e▸hp))
theorem ZU{b blk n:Nat}{cs:Array Value}{x y:kE}(hI:Inv κ)(hp:κ.ph[b]? = some (some (blk,n)))(hy:κ.st[b]? = some y)(ha:Alike y x)
  (hx:dR (κ.GV b blk cs x) b x):Inv (κ.GV b blk cs x):=by
 refine⟨by simp[KS.GV,hI.len],?_,?_,hI.inj,?_,hI.gl.mono (ml hI hp hy ha).same⟩
 ·intro k hk; show k<(κ.w.setRow blk cs).heap.size; rw[setRow_size]; exact hI.yr k hk
 ·intro b' iQ m h
  obtain⟨h1,h2⟩:=hI.apart b' iQ m h
  exact⟨by show iQ<(κ.w.setRow blk cs).heap.size; rw[setRow_size]; exact h1,h2⟩
 ·intro b' z hz
  by_cases hb:b=b'
  ·subst hb
   simp only[KS.GV]at hz
   grind
  ·simp only[KS.GV,List.getElem?_set,if_neg hb]at hz
   refine(hI.blk b' z hz).mono (ml hI hp hy ha) rfl λiQ m h => ?_
   refine setRow_other _ _ _ _ λe => ?_
   subst e
   exact hb (hI.inj b b' _ n m hp h)
theorem YL{d d':D}{t:Nat}(h:mr d d'=true)(hd:∀ T,d.typed=some T->t=T):∀ T,d'.typed=some T->t=T:=by
 intro T hT
 unfold mr at h
 rw[hT]at h
 cases Mn:d.typed with
 | none=>grind
 | some T' =>
  rw[Mn]at h
  have e:=Nat.eq_of_beq_eq_true h
  grind
theorem nn{t:Nat}{n blk o:Nat}{v:Value}{cs:Array Value}{T:TypeId}(hn:fJ c t=some n)(hv:v.cells.toList.length=n)(h1:∀ u∈v.cells.toList,u.oneCell'=true)
  (hg:κ.w.heap[blk]? = some (.cells cs T (0,0))) (hle:o+n<=cs.size) :
  (storeVar t ⟨blk,o,none⟩ v).run c.P κ.w=.ok () (κ.w.setRow blk (cs.toList.take o++v.cells.toList++cs.toList.drop (o+n)).toArray):=by
 have hs:v.cells.size=n:=by simpa using hv
 have:=run_storeCells_at c.P blk o T v.cells.toList 0 cs κ.w hg (by grind) h1
 simp[storeVar,run_sizeOf hn,hs,this]
theorem iD{l:List D}{vs us:List Value}{x:List D}(h:qH κ l vs)(hx:qH κ x us)(o n:Nat) :
  qH κ (l.take o++x++l.drop (o+n)) (vs.take o++us++vs.drop (o+n)):=((h.take o).append hx).append (h.drop (o+n))
theorem tC{cs us:List Value}{o n:Nat}(hu:us.length=n)(ho:o+n<=cs.length)(p:Nat) :
  (cs.take o++us++cs.drop (o+n))[p]? = if p<o then cs[p]? else if p<o+n then us[p-o]? else cs[p]? := by grind
theorem JP{t:Nat}{d x r:D}{off:Nat}(h:HB c t d off x=some r):∃ n,fJ c t=some n/\0<n/\(qg x).length=n/\off+n<=(qg d).length /\
  qg r=(qg d).take off++qg x++(qg d).drop (off+n)/\((∀ y∈qg d,y.one=true)->(∀ y∈qg x,y.one=true)->∀ y∈qg r,y.one=true)/\x.uM=false:=by
 unfold HB at h
 split at h
 ·cases h
 ·rename_i n hn
  cases hb:Nat.blt 0 n&&Nat.beq n (qg x).length&&Nat.ble (off+n) (qg d).length with
  | false=>grind
  | true =>
   rw[hb,cond_true]at h
   simp only[Bool.and_eq_true]at hb
   obtain⟨⟨h0,h1⟩,h2⟩:=hb
   have h0':0<n:=Nat.le_of_ble_eq_true h0
   have W8:n=(qg x).length:=Nat.eq_of_beq_eq_true h1
   have h2':=Nat.le_of_ble_eq_true h2
   have HU:x.uM=false:=by
    cases x with
    | yH l=>simp[qg]at W8; omega
    | _=>rfl
   cases hw:Nat.beq n (qg d).length with
   | true =>
    have h3:n=(qg d).length:=Nat.eq_of_beq_eq_true hw
    have h4:off=0:=by omega
    subst h4
    grind
   | false =>
    rw[hw,cond_false]at h
    cases h
    refine⟨n,hn,h0',W8.symm,h2',rfl,λhd hx y hy => ?_,HU⟩
    simp only[qg,List.mem_append]at hy
    rcases hy with(hy | hy) | hy
    ·exact hd y (List.mem_of_mem_take hy)
    ·exact hx y hy
    ·exact hd y (List.mem_of_mem_drop hy)
theorem oj{τ:Ty}{r:D}{x:den τ}{vs:List Value}(h:eG τ r=some x)(hr:qH κ (qg r) vs)(nM:∀ y∈qg r,y.one=true)(ht:r.uM=false):Rc κ.w κ.ok τ x vs:=by
 cases r with
 | zI σ y=>obtain⟨rfl,rfl⟩:=qi h; exact WN _ _ hr
 | agg l =>
  have:=bX (RD.agg l vs hr.1 nM hr.2) h
  obtain⟨cs,h1,h2⟩:=RD.gn this
  have hc:=Qf h1.len h1.one
  simp only[Value.cells]at hc
  grind
 | yH l=>cases ht
 | _ =>
  obtain⟨v,r',rfl,h1,h2⟩:=qH.cons_inv hr
  have e2:=h2.qf
  subst e2
  have h3:=bX h1 h
  obtain⟨cs,h4,h5⟩:=RD.gn h3
  have Sb:τ.isAgg=false:=by
   cases hta:τ.isAgg with
   | false=>rfl
   | true=>simp[eG,D.isAgg,hta]at h
  obtain⟨u,rfl⟩:=h4.single Sb
  rw[Uq Sb]at h5
  rwa [h5]
theorem E1{t:Nat}{a x:Option D}{v u:Value}{d:Option D}{zr:St}(hI:Inv κ)(ha:∀ z,a=some z->RD κ z v)(hx:∀ z,x=some z->RD κ z u)
  (h:(zH (Wj c t a x) κ.st).leads (d,zr)):qA c.P (do Instr.storeAt t v u; Pure.pure .skip) κ d zr:=by
 unfold Wj at h
 split at h
 ·rename_i b off y
  simp only[zH]at h
  split at h
  ·rename_i d0 hb
   split at h
   ·rename_i r hr
    cases wm:mr d0 r with
    | false=>rw[wm]at h; exact h.elim
    | true =>
    rw[wm,cond_true]at h
    simp only[T.leads,Prod.mk.injEq]at h
    obtain⟨rfl,rfl⟩:=h
    obtain⟨n,hn,h0,GX,hle,Bw,nM,HU⟩:=JP hr
    cases ha _ rfl with
    | ptr _ _ blk m d1 hd hp =>
     obtain⟨iQ,m',cs,T,g1,g2,g3,g4,g5⟩:=hI.blk b _ hb
     rw[hp]at g1
     cases g1
     have hy:=hx _ rfl
     have hfy:=j9 hy HU
     have hvl:u.cells.toList.length=n:=by rw[<- hfy.1]; exact GX
     have uU:off+n<=cs.size:=by have:=g4.1; simp at this; omega
     have h1:∀ z∈u.cells.toList,z.oneCell'=true:=by
      intro z hz
      obtain⟨i,hi,rfl⟩:=List.getElem_of_mem hz
      exact(hfy.2 i (hfy.1▸hi) hi).Wp (jd hy _ (List.getElem_mem _))
     have vF:=nn (c:=c) (κ:=κ) hn hvl h1 g2 uU
     have nB:Alike (.var d0) (.var r):=trivial
     let bZ:=(cs.toList.take off++u.cells.toList++cs.toList.drop (off+n)).toArray
     have hex:=ml (cs:=bZ) (x:=.var r) hI hp hb nB
     refine⟨κ.GV b blk bZ (.var r),.skip,undef,?_,.inr ⟨rfl,rfl⟩,rfl,ZU hI hp hb nB ?_,hex,λ_ he=>by cases he⟩
     ·simp only[Sem.run_bind,Instr.storeAt,Instr.sureAddr,Sem.run_pure,Result.andThen_ok,vF]; rfl
     ·refine⟨blk,m,bZ,T,hp,setRow_heap _ _ _ _ _ _ g2,?_,?_,nM g5.1 (jd hy),YL wm g5.2⟩
      ·grind
      ·rw[Bw]; exact(iD g4 hfy off n).mono hex
   ·exact h.elim
  ·exact h.elim
 ·rename_i b qB e idx off y
  simp only[zH]at h
  split at h
  ·rename_i jK e' xs hb
   cases he:decide (e'=e)with
   | false=>rw[he]at h; exact h.elim
   | true =>
    rw[he,cond_true]at h
    have On:e'=e:=of_decide_eq_true he
    subst On
    obtain⟨⟨rfl,qy⟩,h⟩:=h
    split at h
    ·rename_i r hr
     split at h
     ·rename_i z hz
      simp only[T.leads,Prod.mk.injEq]at h
      obtain⟨rfl,rfl⟩:=h
      obtain⟨n,hn,h0,GX,hle,Bw,nM,HU⟩:=JP hr
      cases ha _ rfl with
      | uk _ _ _ _ _ blk o hold hp =>
       obtain⟨m,p1,rfl⟩:=hp xs hb qy
       obtain⟨uU,⟨U4,_⟩ | ⟨iQ,n',cs,T,g1,g2,g3,g4,gr,f,g5⟩⟩:=hI.blk b _ hb
       ·grind
       ·rw[p1]at g1
        cases g1
        rw[WB qy]at hr Bw hle nM
        have hy:=hx _ rfl
        have hfy:=j9 hy HU
        have hvl:u.cells.toList.length=n:=by rw[<- hfy.1]; exact GX
        obtain⟨k1,k2⟩:=g5 idx qy
        have Bo:=k1.len
        have J8:off+n<=e'.size:=by simpa[qg,ZS]using hle
        have zim:idx*e'.size+e'.size<=xs.length*e'.size:=by rw[<- Nat.succ_mul]; exact Nat.mul_le_mul_right _ qy
        have Mp:idx*e'.size+off+n<=cs.size:=by omega
        have h1:∀ z∈u.cells.toList,z.oneCell'=true:=by
         intro z hz
         obtain⟨i,hi,rfl⟩:=List.getElem_of_mem hz
         exact(hfy.2 i (hfy.1▸hi) hi).Wp (jd hy _ (List.getElem_mem _))
        have vF:=nn (c:=c) (κ:=κ) hn hvl h1 g2 Mp
        have nB:Alike (.arr qB e' xs) (.arr qB e' (xs.set idx z)):=⟨rfl,Nat.le_refl _,λ_=>by simp⟩
        let bZ:=(cs.toList.take (idx*e'.size+off)++u.cells.toList++cs.toList.drop (idx*e'.size+off+n)).toArray
        have hex:=ml (cs:=bZ) (x:=.arr qB e' (xs.set idx z)) hI p1 hb nB
        refine⟨κ.GV b blk bZ (.arr qB e' (xs.set idx z)),.skip,undef,?_,.inr ⟨rfl,rfl⟩,rfl,ZU hI p1 hb nB ?_,hex,λ_ he=>by cases he⟩
        ·simp only[Sem.run_bind,Instr.storeAt,Instr.sureAddr,Sem.run_pure,Result.andThen_ok,vF]; rfl
        ·have hlen:bZ.size=cs.size:=by simp[bZ,hvl]; omega
         refine⟨uU,.inr ⟨blk,m,bZ,T,p1,setRow_heap _ _ _ _ _ _ g2,by rw[hlen]; exact g3,by simpa using g4,?_⟩⟩
         -- cells of the element that is written
         let fi:=(f idx).take off++u.cells.toList++(f idx).drop (off+n)
         have zer:qH κ (qg r) fi:=by
          rw[Bw]
          exact iD (oD k1) hfy off n
         have hrt:r.uM=false:=by
          cases r with
          | yH l =>
           have h6:=congrArg List.length Bw
           rw[List.length_append,List.length_append,GX]at h6
           have h7:(qg (D.yH l)).length=0:=rfl
           omega
          | _=>rfl
         have CC:=oj hz zer (nM (dO _ _) (jd hy)) hrt
         have JJ:∀ p,bZ[p]? = if p<idx*e'.size+off then cs[p]? else if p<idx*e'.size+off+n then u.cells.toList[p-(idx*e'.size+off)]? else cs[p]? := by
          intro p
          have:=tC (cs:=cs.toList) (us:=u.cells.toList) hvl (by simpa using Mp) p
          simpa only[bZ,List.getElem?_toArray,Array.getElem?_toList]using this
         have zeQ:∀ j,fi[j]? = if j<off then(f idx)[j]? else if j<off+n then u.cells.toList[j-off]? else(f idx)[j]? := λj=>tC hvl (by omega) j
         refine⟨gr,λi=>if i=idx then fi else f i,λi hi => ?_⟩
         rw[List.length_set]at hi
         by_cases hii:i=idx
         ·subst hii
          simp only[if_true,List.getElem_set_self]
          refine⟨CC.mono hex.same,λj w hj => ?_⟩
          rw[zeQ]at hj
          rw[JJ]
          split at hj
          ·rw[if_pos (by omega)]; exact k2 j w hj
          ·split at hj
           ·rw[if_neg (by omega),if_pos (by omega)]; rw[<- hj]; congr 1; omega
           ·rw[if_neg (by omega),if_neg (by omega)]; exact k2 j w hj
         ·simp only[if_neg hii]
          obtain⟨q1,q2⟩:=g5 i hi
          refine⟨by rw[List.getElem_set_ne (λe=>hii e.symm)]; exact q1.mono hex.same,λj w hj => ?_⟩
          have NA:j<e'.size:=by rw[<- q1.len]; exact(List.getElem?_eq_some_iff.1 hj).1
          rw[JJ]
          rcases Nat.lt_or_gt_of_ne hii with Ja | hgt'
          ·have:i*e'.size+e'.size<=idx*e'.size:=by rw[<- Nat.succ_mul]; exact Nat.mul_le_mul_right _ Ja
           rw[if_pos (by omega)]; exact q2 j w hj
          ·have:idx*e'.size+e'.size<=i*e'.size:=by rw[<- Nat.succ_mul]; exact Nat.mul_le_mul_right _ hgt'
           rw[if_neg (by omega),if_neg (by omega)]; exact q2 j w hj
     ·exact h.elim
    ·exact h.elim
  ·exact h.elim
 ·exact absurd h ze
end
end Go.AM
namespace Go.AM
set_option linter.unusedSectionVars false
variable [vU]
section
variable {c:Ctx} {κ:KS}
theorem XP:∀ (vs:List Value) (cells:Array Value) (off k:Nat),off+k+vs.length<=cells.size ->
  ((vs.zipIdx k).foldl (λ(cs:Array Value) (p:Value×Nat)=>cs.setIfInBounds (off+p.2) p.1) cells).toList=cells.toList.take (off+k)++vs++cells.toList.drop (off+k+vs.length)
 | [],cells,off,k,_=>by simp
 | v::vs,cells,off,k,h=>by
  simp only[List.length_cons]at h
  simp only[List.zipIdx_cons,List.foldl_cons]
  rw[XP vs _ off (k+1) (by simp; omega)]
  have qy:off+k<cells.toList.length:=by simp; omega
  simp only[Array.toList_setIfInBounds,List.length_cons]
  have e1:(cells.toList.set (off+k) v).take (off+(k+1))=cells.toList.take (off+k)++[v]:=by
   rw[show off+(k+1)=off+k+1 by omega,List.take_succ_eq_append_getElem (by simpa using qy)]
   rw[List.take_set_of_le (Nat.le_refl _)]
   simp
  have e2:(cells.toList.set (off+k) v).drop (off+(k+1)+vs.length)=cells.toList.drop (off+k+(vs.length+1)):=by
   rw[List.drop_set_of_lt (by omega)]
   grind
  grind
theorem Bu{place:Nat->Option (Nat×Nat)}{cells:Array Value}{i off size:Nat}{v:Value}{rest:List (Nat×Value)}(hp:place i=some (off,size))(hs:v.cells.toList.length=size)(hle:off+size<=cells.size) :
  Instr.fill place cells ((i,v)::rest)=Instr.fill place (cells.toList.take off++v.cells.toList++cells.toList.drop (off+size)).toArray rest:=by
 have hs':v.cells.size=size:=by simpa using hs
 have hf:=XP v.cells.toList cells off 0 (by grind)
 simp only[hs]at hf
 conv=>lhs; unfold Instr.fill
 simp only[hp]
 rw[if_neg (by grind)]
 congr 1
 apply Array.ext'
 rw[<- Array.foldl_toList,Array.toList_zipIdx]
 exact hf
theorem KN{e:Ty}{x:den e}{v:Value}(h:RD κ (.zI e x) v):Rc κ.w κ.ok e x v.cells.toList:=by
 obtain⟨cs,h1,rfl⟩:=RD.gn h
 rw[Qf h1.len h1.one]; exact h1
theorem KR{e:Ty}{F:Operand->Option D}{G:Operand->Value}(hF:∀ x d,F x=some d->RD κ d (G x)):∀ (L:List (Nat×Operand)) (k:Nat) (cells:Array Value) (l:List (den e)),
  K1 e k (L.map λp=>(p.1,F p.2))=some l->(k+L.length)*e.size<=cells.size ->
  ∃ eF,Instr.fill (λi=>some (i*e.size,e.size)) cells (L.map λp=>(p.1,G p.2))=some eF/\eF.size=cells.size/\(∀ p,p<k*e.size->eF[p]? = cells[p]?)/\l.length=L.length /\
   ∃ f:Nat->List Value,∀ i (hi:i<l.length),Rc κ.w κ.ok e l[i] (f i)/\∀ j v,(f i)[j]? = some v->eF[(k+i)*e.size+j]? = some v
 | [],k,cells,l,h,_=>by
  simp only[List.map_nil,K1,Option.some.injEq]at h
  subst h
  exact⟨cells,rfl,rfl,λ_ _=>rfl,rfl,λ_=>[],λi hi=>absurd hi (Nat.not_lt_zero i)⟩
 | (i,x)::L,k,cells,l,h,hle=>by
  simp only[List.map_cons]at h
  cases hx:F x with
  | none=>rw[hx]at h; simp[K1]at h
  | some d =>
   rw[hx]at h
   simp only[K1]at h
   cases hb:Nat.beq k i with
   | false=>grind
   | true =>
    have hik:k=i:=Nat.eq_of_beq_eq_true hb
    subst hik
    rw[hb,cond_true]at h
    split at h
    ·rename_i y l' hy Tp
     cases h
     have hr:=KN (bX (hF x d hx) hy)
     have hlen:=hr.len
     simp only[List.length_cons]at hle
     have hk1:(k+(L.length+1))*e.size=k*e.size+e.size+L.length*e.size:=by rw[Nat.add_mul,Nat.add_mul]; omega
     have sd:k*e.size+e.size<=cells.size:=by omega
     let c1:=(cells.toList.take (k*e.size)++(G x).cells.toList++cells.toList.drop (k*e.size+e.size)).toArray
     have Lv:c1.size=cells.size:=by simp only[c1,List.size_toArray,List.length_append,List.length_take,List.length_drop,hlen,Array.length_toList]; omega
     have hg:∀ p,c1[p]? = if p<k*e.size then cells[p]? else if p<k*e.size+e.size then(G x).cells.toList[p-k*e.size]? else cells[p]? := by
      grind
     obtain⟨eF,h1,h2,h3,h4,f,h5⟩:=KR hF L (k+1) c1 l' Tp (by rw[Lv,show k+1+L.length=k+(L.length+1) by omega]; exact hle)
     refine⟨eF,?_,h2.trans Lv,?_,by simp[h4],λi=>match i with | 0=>(G x).cells.toList | i+1=>f i,?_⟩
     ·simp only[List.map_cons]
      rw[Bu rfl hlen sd]
      exact h1
     ·grind
     ·intro i hi
      cases i with
      | zero =>
       grind
      | succ i =>
       have:=h5 i (by simpa using hi)
       rw[show k+1+i=k+(i+1) by omega]at this
       exact this
    ·cases h
theorem nK{t n:Nat}(h:lS c t=some n):∃ i,c.P.info? t=some i/\i.bytes=n:=by
 unfold lS at h
 cases hi:c.P.info? t with
 | none=>grind
 | some i=>grind
theorem fp{et:Nat}{e:Ty}{z:den e}(h:zeroOf c et e=some z):∃ i v,c.P.info? et=some i/\i.zero=some v/\Rc κ.w κ.ok e z v.cells.toList:=by
 unfold zeroOf at h
 split at h
 ·rename_i d hd
  obtain⟨i,v,h1,h2,h3⟩:=eY hd
  exact⟨i,v,h1,h2,KN (bX (h3.rd κ) h)⟩
 ·cases h
theorem W6{t n:Nat}{L:List (Nat×Operand)}{F:Operand->Option D}{G:Operand->Value}{d:Option D}{zr:St}(hI:Inv κ)(hF:∀ x d,F x=some d->RD κ d (G x))
  (h:(zH (lZ c t n (L.map λp=>(p.1,F p.2))) κ.st).leads (d,zr)) :
  qA c.P (do Pure.pure (.value (<- Instr.buildSlice t n (L.map λp=>(p.1,G p.2)).toArray))) κ d zr:=by
 unfold lZ at h
 split at h
 ·exact absurd h ze
 ·rename_i et het
  have hu:=uq het
  split at h
  ·rename_i e IW
   cases hb:ko c et e&&Nat.beq n (L.map λp=>(p.1,F p.2)).length&&Nat.ble n 1000&&Nat.ble e.size 100&&(zeroOf c et e).isSome with
   | false=>rw[hb]at h; exact absurd h ze
   | true =>
    rw[hb,cond_true]at h
    simp only[Bool.and_eq_true]at hb
    obtain⟨⟨⟨⟨wm,hn⟩,h1⟩,h2⟩,h3⟩:=hb
    have hn':n=L.length:=by have:=Nat.eq_of_beq_eq_true hn; simpa using this
    have W8:=Nat.le_of_ble_eq_true h1
    have h2':=Nat.le_of_ble_eq_true h2
    obtain⟨hs,_⟩:=vw wm
    obtain⟨z,hz⟩:=Option.isSome_iff_exists.1 h3
    obtain⟨i,zv,DL,XL,hi3⟩:=fp (κ:=κ) hz
    split at h
    ·rename_i l hl
     cases Sc:Nat.beq n 0&&Nat.blt 0 e.size with
     | true =>
     rw[Sc,cond_true]at h
     simp only[Bool.and_eq_true]at Sc
     obtain⟨Sc,uU⟩:=Sc
     have Mp:0<e.size:=Nat.le_of_ble_eq_true uU
     have NG:=Nat.eq_of_beq_eq_true Sc
     have hL:L=[]:=List.eq_nil_of_length_eq_zero (hn'.symm.trans NG)
     subst hL
     subst NG
     simp only[zH,T.leads,Prod.mk.injEq]at h
     obtain⟨rfl,rfl⟩:=h
     have g:=ep.alloc κ.w (.cells #[] et)
     have hex:=pR (n:=0) (x:=.arr 0 e ([]:List (den e))) hI g
     have vF:(Instr.buildSlice t 0 (([]:List (Nat×Operand)).map λp=>(p.1,G p.2)).toArray).run c.P κ.w=.ok (.slice (some ⟨κ.w.heap.size,0,none⟩) 0 0) (κ.w.alloc (.cells #[] et)):=by
      simp[Instr.buildSlice,Sem.run_bind,run_underlying hu,Result.andThen_ok,run_sizeOf hs,Instr.fill,newRow]
      grind
     refine⟨κ.add _ 0 (.arr 0 e []),_,.slice (some ⟨κ.w.heap.size,0,none⟩) 0 0,by simp only[Sem.run_bind,vF,Result.andThen_ok]; rfl,.inl rfl,rfl,WE hI g ?_,hex,?_⟩
     ·exact⟨Mp,.inr ⟨κ.w.heap.size,0,#[],et,nZ hI,g.new,rfl,by simp,Q4 wm,λ_=>[],λi hi=>absurd hi (Nat.not_lt_zero i)⟩⟩
     ·intro d' kR
      cases kR
      refine .ms _ 0 e 0 0 0 _ (.inr ⟨0,e,_,tu,Nat.le_refl _⟩) (by omega) nofun (λp hp=>by cases hp; rfl) λxs Wq => ?_
      rw[tu]at Wq
      cases Wq
      exact⟨by simp,.inr ⟨κ.w.heap.size,0,0,0,nZ hI,rfl,by omega,by simp,.inl rfl⟩⟩
     | false =>
     rw[Sc,cond_false,jV]at h
     obtain⟨rfl,rfl⟩:=h
     subst hn'
     have hle:L.length*e.size<=100000:=Nat.le_trans (Nat.mul_le_mul W8 h2') (by decide)
     have hzs:zv.cells.size=e.size:=by have:=hi3.len; simpa using this
     let cells:Array Value:=(Array.range (L.length*e.size)).map ((if L.length*e.size=0 then #[]else zv.cells)[· % (if L.length*e.size=0 then #[]else zv.cells).size]!)
     have QB:cells.size=L.length*e.size:=by simp[cells]
     obtain⟨eF,g1,g2,_,g4,f,g5⟩:=KR hF L 0 cells l hl (by rw[QB]; simp)
     have g:=ep.alloc κ.w (.cells eF et)
     have hex:=Wh hI g
     refine⟨κ.zI _,_,.slice (some ⟨κ.w.heap.size,0,none⟩) L.length L.length,?_,.inl rfl,rfl,gn hI g,hex,?_⟩
     ·have Hq:Instr.fill (λi=>some (i*e.size,e.size)) cells (L.map λp=>(p.1,G p.2))=some eF:=g1
      simp only[cells]at Hq
      simp only[Instr.buildSlice,Sem.run_bind,run_underlying hu,Result.andThen_ok,run_sizeOf hs,gt_iff_lt,if_neg (show ¬ 2 ^ 24<L.length*e.size by omega)]
      by_cases h0:L.length*e.size=0
      ·simp only[if_pos h0]at Hq ⊢
       simp only[Sem.run_bind,Sem.run_pure,Result.andThen_ok,Hq]
       rfl
      ·simp only[if_neg h0]at Hq ⊢
       simp only[Sem.run_bind,Sem.run_pure,Result.andThen_ok,zeroValue,typeInfo,run_program,DL,XL,Hq]
       rfl
     ·intro d' kR
      cases kR
      have sd:∀ i,i<l.length->∀ j v,(f i)[j]? = some v->(κ.zI (κ.w.alloc (.cells eF et))).w.cell? ⟨κ.w.heap.size,0+i*e.size+j,none⟩=some v:=by
       intro i hi j v hj
       have:=(g5 i hi).2 j v hj
       simp only[Nat.zero_add]at this ⊢
       rw[pT (κ:=κ.zI (κ.w.alloc (.cells eF et))) g.new]
       exact this
      rw[<- g4]
      refine .tight e l _ κ.w.heap.size 0 f ?_ (.inr rfl) (λi hi=>(g5 i hi).1.mono hex.same) sd
      intro vT U4
      subst U4
      simp at g4
      simp[<- g4]at vT
    ·exact absurd h ze
  ·exact absurd h ze
end
end Go.AM
namespace Go.AM
set_option linter.unusedSectionVars false
variable [vU]
section
variable {c:Ctx} {κ:KS}
theorem MJ{t:Nat}{x y:Option D}{v u:Value}{d:Option D}{zr:St}(hI:Inv κ)(hx:∀ z,x=some z->RD κ z v)(hy:∀ z,y=some z->RD κ z u)
  (h:(zH (DK c t x y) κ.st).leads (d,zr)):qA c.P (do Pure.pure (.value (<- Instr.makeSlice t v u))) κ d zr:=by
 unfold DK at h
 split at h
 ·rename_i et k n k' m het hn hm
  have hu:=uq het
  have:=ue hn hx
  subst this
  have:=ue hm hy
  subst this
  split at h
  ·rename_i e bytes IW Cx
   split at h
   ·rename_i z hz
    cases hb:ko c et e&&Nat.blt 0 e.size with
    | false=>rw[hb]at h; exact absurd h ze
    | true =>
     rw[hb,cond_true]at h
     simp only[Bool.and_eq_true]at hb
     obtain⟨wm,uU⟩:=hb
     have Mp:0<e.size:=Nat.le_of_ble_eq_true uU
     obtain⟨hs,_⟩:=vw wm
     simp only[zH,T.leads,Prod.mk.injEq]at h
     obtain⟨⟨h0,h1,h2,h3⟩,rfl,rfl⟩:=h
     obtain⟨i,zv,DL,XL,hi3⟩:=fp (κ:=κ) hz
     obtain⟨ib,zay,zeC⟩:=nK Cx
     obtain⟨i',zb9,ziC⟩:=dM hs
     rw[DL]at zay zb9
     cases zay
     cases zb9
     have hzs:zv.cells.size=e.size:=by have:=hi3.len; simpa using this
     let N:=m.toNat*e.size
     let cells:Array Value:=(Array.range N).map (zv.cells[· % zv.cells.size]!)
     have QB:cells.size=N:=by simp[cells]
     have vF:(Instr.makeSlice t (.int k n) (.int k' m)).run c.P κ.w=.ok (.slice (some ⟨κ.w.heap.size,0,none⟩) n.toNat m.toNat) (κ.w.alloc (.cells cells et)):=by
      have w1:IntKind.i64.wrap n=n:=IntWalk.i64_in _ (by omega)
      have w2:IntKind.i64.wrap m=m:=IntWalk.i64_in _ (by omega)
      have hmb:¬ ((2:Int) ^ 48<bytes*m):=by
       grind
      have ai:∀ k n w,(Go.asInt (.int k n)).run c.P w=.ok n w:=λk n w=>by simp[Go.asInt,asIntOf]
      have hm0:¬ (m<0):=by omega
      have NG:¬ (n<0):=by omega
      have hnm:¬ (m<n):=by omega
      simp only[Instr.makeSlice,Sem.run_bind,run_underlying hu,Result.andThen_ok,ai,typeInfo,run_program,DL,zeC,w1,w2,Sem.run_pure,gt_iff_lt,hm0,NG,hnm,hmb,decide_false,Bool.or_self,Bool.false_eq_true,if_false,run_askRoom,run_sizeOf hs]
      by_cases Sc:m.toNat*e.size=0
      ·have hce:cells = #[]:=Array.eq_empty_of_size_eq_zero (by rw[QB]; exact Sc)
       have e2:∀ g:Nat->Value,(Array.range (m.toNat*e.size)).map g = #[]:=λg=>by rw[Sc]; simp
       simp only[if_pos Sc,Sem.run_bind,Sem.run_pure,Result.andThen_ok,newRow,run_newObj,e2]
       rw[hce]
       rfl
      ·simp only[if_neg Sc,Sem.run_bind,Sem.run_pure,Result.andThen_ok,newRow,run_newObj,zeroValue,typeInfo,run_program,DL,XL]
       rfl
     have g:=ep.alloc κ.w (.cells cells et)
     have hex:=pR (n:=N) (x:=.arr n.toNat e (List.replicate n.toNat z)) hI g
     refine⟨κ.add _ N (.arr n.toNat e (List.replicate n.toNat z)),_,.slice (some ⟨κ.w.heap.size,0,none⟩) n.toNat m.toNat,by simp only[Sem.run_bind,vF,Result.andThen_ok]; rfl,.inl rfl,rfl,WE hI g ?_,hex,?_⟩
     ·refine⟨Mp,.inr ⟨κ.w.heap.size,N,cells,et,nZ hI,g.new,QB,?_,Q4 wm,λ_=>zv.cells.toList,λi hi => ?_⟩⟩
      ·rw[List.length_replicate]; exact Nat.mul_le_mul_right _ (by omega)
      ·rw[List.length_replicate]at hi
       refine⟨by rw[List.getElem_replicate]; exact hi3.mono hex.same,λj w hj => ?_⟩
       have NA:j<e.size:=by rw[<- hi3.len]; exact(List.getElem?_eq_some_iff.1 hj).1
       have qy:i*e.size+j<N:=by
        have:i*e.size+e.size<=N:=by rw[<- Nat.succ_mul]; exact Nat.mul_le_mul_right _ (by omega)
        omega
       have z5r:(i*e.size+j) % e.size=j:=by rw[Nat.mul_comm,Nat.mul_add_mod,Nat.mod_eq_of_lt NA]
       grind
     ·intro d' kR
      cases kR
      refine .ms _ n.toNat e 0 n.toNat m.toNat _ (.inr ⟨n.toNat,e,_,tu,Nat.le_refl _⟩) (by omega) nofun (λp hp=>by cases hp; rfl) λxs Wq => ?_
      rw[tu]at Wq
      cases Wq
      refine⟨by simp,.inr ⟨κ.w.heap.size,N,0,m.toNat,nZ hI,rfl,by omega,by simp[N],.inr (by simp)⟩⟩
   ·exact absurd h ze
  ·exact absurd h ze
 ·exact absurd h ze
end
end Go.AM
namespace Go.AM
set_option linter.unusedSectionVars false
variable [vU]
section
variable {c:Ctx} {κ:KS}
def kK(f:Nat->List Value):Nat->List Value
 | 0=>[]
 | n+1=>kK f n++f n
theorem uG{f:Nat->List Value}{s:Nat}:∀ {n:Nat},(∀ i,i<n->(f i).length=s)->(kK f n).length=n*s
 | 0,_=>by simp[kK]
 | n+1,h=>by rw[kK,List.length_append,uG (λi hi=>h i (by omega)),h n (by omega),Nat.add_mul]; omega
theorem ru{f:Nat->List Value}{s:Nat}:∀ {n:Nat},(∀ i,i<n->(f i).length=s)->∀ i j,i<n->j<s->(kK f n)[i*s+j]? = (f i)[j]?
 | 0,_,i,_,hi,_=>absurd hi (Nat.not_lt_zero i)
 | n+1,h,i,j,hi,hj=>by
  have hl:=uG (f:=f) (n:=n) (λi hi=>h i (by omega))
  rw[kK]
  by_cases Xr:i<n
  ·have:i*s+s<=n*s:=by rw[<- Nat.succ_mul]; exact Nat.mul_le_mul_right _ Xr
   rw[List.getElem?_append_left (by omega)]
   exact ru (λi hi=>h i (by omega)) i j Xr hj
  ·grind
theorem KB{f:Nat->List Value}:∀ {n:Nat},(∀ i,i<n->∀ v∈f i,v.oneCell'=true)->∀ v∈kK f n,v.oneCell'=true
 | 0,_,v,hv=>by simp[kK]at hv
 | n+1,h,v,hv=>by
  rw[kK,List.mem_append]at hv
  rcases hv with hv | hv
  ·exact KB (λi hi=>h i (by omega)) v hv
  ·grind
theorem HW{f:Nat->List Value}{s:Nat}{n p:Nat}{v:Value}(hs:0<s)(h:∀ i,i<n->(f i).length=s)(hp:(kK f n)[p]? = some v):∃ i j,i<n/\j<s/\p=i*s+j/\(f i)[j]? = some v:=by
 have qy:=(List.getElem?_eq_some_iff.1 hp).1
 rw[uG h]at qy
 have hi:p / s<n:=(Nat.div_lt_iff_lt_mul hs).2 qy
 have hj:=Nat.mod_lt p hs
 have he:p / s*s+p % s=p:=Nat.div_add_mod' p s
 refine⟨p / s,p % s,hi,hj,he.symm,?_⟩
 rw[<- ru h _ _ hi hj,he]; exact hp
def NH(κ:KS):Nat->Prop:=λk=>κ.ok k\/∃ b n:Nat,κ.ph[b]? = some (some (k,n))
structure Src(κ:KS)(e:Ty)(ys:List (den e))(v:Value):Prop where
 ex:∃ (a:Option Addr) (cap:Nat) (f:Nat->List Value),v=.slice a ys.length cap/\ys.length<=cap/\(a=none->ys=[]/\cap=0)/\(∀ i (hi:i<ys.length),Rc κ.w κ.ok e ys[i] (f i)) /\
  ∀ p,a=some p->(ys=[]/\cap=0)\/(p.spot=none/\NH κ p.block/\∀ i,i<ys.length->∀ j u,(f i)[j]? = some u->κ.w.cell? ⟨p.block,p.off+i*e.size+j,none⟩=some u)
theorem Ir{e:Ty}{ys:List (den e)}{v:Value}(h:RD κ (.zI (.sl e) ys) v):Src κ e ys v:=by
 rcases(h.vi rfl).QV with⟨rfl,a0,he⟩ | ⟨blk,off,cap,f,he,wm,vc,h1,h2⟩
 ·cases he; exact⟨⟨a0,0,λ_=>[],rfl,Nat.le_refl _,λ_=>⟨rfl,rfl⟩,λi hi=>absurd hi (Nat.not_lt_zero i),λ_ _=>.inl ⟨rfl,rfl⟩⟩⟩
 ·cases he; exact⟨⟨some ⟨blk,off,none⟩,cap,f,rfl,vc,nofun,h1,λp hp=>by cases hp; exact .inr ⟨rfl,.inl wm,h2⟩⟩⟩
theorem rB{e:Ty}{ys:List (den e)}{ne:Bool}{v:Value}(h:RD κ (.tight e ys ne) v):Src κ e ys v:=by
 cases h with
 | xi _ a0=>exact⟨⟨a0,0,λ_=>[],rfl,Nat.le_refl _,λ_=>⟨rfl,rfl⟩,λi hi=>absurd hi (Nat.not_lt_zero i),λ_ _=>.inl ⟨rfl,rfl⟩⟩⟩
 | tight _ _ _ blk off f vT wm h1 h2=>exact⟨⟨some ⟨blk,off,none⟩,_,f,rfl,Nat.le_refl _,nofun,h1,λp hp=>by cases hp; exact .inr ⟨rfl,.inl wm,h2⟩⟩⟩
theorem WG{e:Ty}{v:Value}(h:RD κ .xy v):Src κ e [] v:=by
 cases h; exact⟨⟨none,0,λ_=>[],rfl,Nat.le_refl _,λ_=>⟨rfl,rfl⟩,λi hi=>absurd hi (Nat.not_lt_zero i),nofun⟩⟩
theorem EH{b qB off len:Nat}{e:Ty}{xs:List (den e)}{v:Value}(hI:Inv κ)(h:RD κ (.ms b qB e off len) v)(hb:κ.st[b]? = some (.arr qB e xs)):Src κ e ((xs.take (off+len)).drop off) v/\off+len<=xs.length:=by
 cases h with
 | ms _ _ _ _ _ cap a hold vc ha nN hm =>
  obtain⟨hle,hm⟩:=hm xs hb
  have hl:((xs.take (off+len)).drop off).length=len:=by simp; omega
  have hg:∀ i (hi:i<((xs.take (off+len)).drop off).length),∃ h:off+i<xs.length,((xs.take (off+len)).drop off)[i]=xs[off+i]:=λi hi=>⟨by omega,by simp[List.getElem_drop,List.getElem_take]⟩
  refine⟨?_,hle⟩
  rcases hm with⟨rfl,rfl,hv,hp⟩ | ⟨blk,n,o,E4,h3,h4,h5,h6,h7⟩
  ·cases hv
   have:(xs.take (0+0)).drop 0=[]:=by simp
   rw[this]
   exact⟨⟨none,0,λ_=>[],rfl,Nat.le_refl _,λ_=>⟨rfl,rfl⟩,λi hi=>absurd hi (Nat.not_lt_zero i),nofun⟩⟩
  ·cases h4
   obtain⟨uU,⟨U4,_⟩ | ⟨iQ,n',cs,T,g1,g2,g3,g4,gr,f,g5⟩⟩:=hI.blk b _ hb
   ·grind
   ·rw[h3]at g1
    cases g1
    refine⟨⟨some ⟨blk,o,none⟩,cap,λi=>f (off+i),by rw[hl],by rw[hl]; exact vc,nofun,λi hi => ?_,λp hp => ?_⟩⟩
    ·grind
    ·cases hp
     refine .inr ⟨rfl,.inr ⟨b,n,h3⟩,λi hi j u hj => ?_⟩
     obtain⟨k1,_⟩:=hg i hi
     have:=(g5 _ k1).2 j u hj
     rw[pT g2]
     rcases h7 with h7 | h7
     ·omega
     ·rw[h7,<- Nat.add_mul]; exact this
theorem QF{e:Ty}{ys:List (den e)}{v:Value}(h:Src κ e ys v)(uU:0<e.size):∃ (news:List Value) (f:Nat->List Value),news=kK f ys.length/\(∀ i (hi:i<ys.length),Rc κ.w κ.ok e ys[i] (f i)) /\
  (∀ P,(Builtin.lenOf v).run P κ.w=.ok ys.length κ.w)/\(∀ P,(Builtin.firstCells e.size ys.length v).run P κ.w=.ok news.toArray κ.w)/\(∀ P,(Builtin.firstCells e.size ys.length v).run P κ.w.drew=.ok news.toArray κ.w.drew):=by
 obtain⟨a,cap,f,rfl,_,hn,h1,h2⟩:=h.ex
 have hf:∀ i,i<ys.length->(f i).length=e.size:=λi hi=>(h1 i hi).len
 refine⟨kK f ys.length,f,rfl,h1,λP=>rfl,λP => ?_,λP => ?_⟩
 all_goals
  cases a with
  | none=>have:=(hn rfl).1; subst this; simp[Builtin.firstCells,kK]
  | some p =>
   rcases h2 p rfl with⟨rfl,_⟩ | ⟨hp,_,hc⟩
   ·simp[Builtin.firstCells,kK,loadCells,loadCellsFrom]
   obtain⟨blk,o,sp⟩:=p
   subst hp
   refine run_firstCells_some (P:=P) _ e.size ys.length ⟨blk,o,none⟩ ys.length cap (kK f ys.length) (uG hf) λj u hj => ?_
   obtain⟨i,k,hi,hk,rfl,hu⟩:=HW uU hf hj
   rw[vE]
   try rw[World.cell?_drew]
   grind
structure Cel(κ:KS)(e:Ty)(ys:List (den e))(v:Value):Prop where
 ex:∃ (news:List Value) (f:Nat->List Value),news=kK f ys.length/\(∀ i (hi:i<ys.length),Rc κ.w κ.ok e ys[i] (f i)) /\
  (∀ P,(Builtin.lenOf v).run P κ.w=.ok ys.length κ.w)/\(∀ P,(Builtin.firstCells e.size ys.length v).run P κ.w=.ok news.toArray κ.w)/\(∀ P,(Builtin.firstCells e.size ys.length v).run P κ.w.drew=.ok news.toArray κ.w.drew)
theorem z1x{e:Ty}{ys:List (den e)}{v:Value}(h:Src κ e ys v)(uU:0<e.size):Cel κ e ys v:=⟨QF h uU⟩
def Tc(c:Ctx)(t2:TypeId):Prop:=(∃ e,c.P.underlying t2=some (.slice e))\/c.P.underlying t2=some .string
section run
variable {t t2 e:TypeId} {i:TypeInfo} {z:Value} {sLen sCap n:Nat} {base:Option Addr} {x:Value} {news olds:List Value} {ty:TypeId}
theorem run_append_fits(ht:c.P.underlying t=some (.slice e))(Kr:Tc c t2)(hi:c.P.info? e=some i)(hlen:∀ P,(Builtin.lenOf x).run P κ.w=.ok n κ.w)(hf:∀ P,(Builtin.firstCells i.size n x).run P κ.w=.ok news.toArray κ.w)
  (n8:sLen+n<=sCap) {w':World} (xM:(match base with | some a=>storeCells (a.add (sLen*i.size)) news | none=>pure ()).run c.P κ.w=.ok () w') :
  (Builtin.append_ #[t,t2] ty #[.slice base sLen sCap,x]).run c.P κ.w=.ok (.slice base (sLen+n) sCap) w':=by
 rcases Kr with⟨e2,Kr⟩ | Kr
 all_goals cases base with
 | none=>simp at xM; subst xM; simp[Builtin.append_,run_underlying ht,run_underlying Kr,sizeOf,typeInfo,hi,hlen,n8,hf]
 | some a=>simp only at xM; simp[Builtin.append_,run_underlying ht,run_underlying Kr,sizeOf,typeInfo,hi,hlen,n8,hf,xM]
theorem oU(ht:c.P.underlying t=some (.slice e))(Kr:Tc c t2)(hi:c.P.info? e=some i)(hz:i.zero=some z)(hlen:∀ P,(Builtin.lenOf x).run P κ.w=.ok n κ.w)(hf:∀ P,(Builtin.firstCells i.size n x).run P κ.w.drew=.ok news.toArray κ.w.drew)
  (ho:∀ P,(Builtin.firstCells i.size sLen (.slice base sLen sCap)).run P κ.w.drew=.ok olds.toArray κ.w.drew)
  (hg:sCap<sLen+n) (h63:((sLen+n:Nat):Int)<=9223372036854775807) (hb:(sLen+n)*i.bytes<=140737488355328) :
  (Builtin.append_ #[t,t2] ty #[.slice base sLen sCap,x]).run c.P κ.w=.ok (.slice (some ⟨κ.w.heap.size,0,none⟩) (sLen+n) (grownCap κ.w (sLen+n) sCap e))
   (κ.w.drew.alloc (.cells (olds.toArray++news.toArray++Builtin.zeroCells z.cells (grownCap κ.w (sLen+n) sCap e-(sLen+n))) e)):=by
 have h1:¬ (sLen+n<=sCap):=by omega
 have h2:¬ (9223372036854775807<((sLen+n:Nat):Int)):=by omega
 have h3:=growslice_fits (bytes:=i.bytes) hg hb
 have h4:¬ (281474976710656<Builtin.nextslicecap (sLen+n) sCap*i.bytes):=by omega
 have h5:IntKind.i64.max=9223372036854775807:=by decide
 rcases Kr with⟨e2,Kr⟩ | Kr
 all_goals
  simp[Builtin.append_,run_underlying ht,run_underlying Kr,sizeOf,typeInfo,zeroValue,hi,hz,hlen,hf,ho,Question.forced,newRow,grownCap]
  grind
end run
theorem nE(z:Array Value)(n:Nat):(Builtin.zeroCells z n).size=n*z.size:=by simp[Builtin.zeroCells]
theorem UQ{e:Ty}{l ys:List (den e)}{f g:Nat->List Value}(hl:∀ i (hi:i<l.length),Rc κ.w κ.ok e l[i] (f i))(hy:∀ i (hi:i<ys.length),Rc κ.w κ.ok e ys[i] (g i))(zs:List Value) :
  ∀ i (hi:i<(l++ys).length),Rc κ.w κ.ok e (l++ys)[i] (if i<l.length then f i else g (i-l.length)) /\
   ∀ j v,(if i<l.length then f i else g (i-l.length))[j]? = some v->(kK f l.length++kK g ys.length++zs)[i*e.size+j]? = some v:=by
 have GX:∀ i,i<l.length->(f i).length=e.size:=λi hi=>(hl i hi).len
 have NR:∀ i,i<ys.length->(g i).length=e.size:=λi hi=>(hy i hi).len
 have h1:=uG GX
 have h2:=uG NR
 intro i hi
 by_cases M5:i<l.length
 ·simp only[if_pos M5]
  refine⟨by grind,λj v hj => ?_⟩
  have NA:j<e.size:=by rw[<- GX i M5]; exact(List.getElem?_eq_some_iff.1 hj).1
  have:i*e.size+e.size<=l.length*e.size:=by rw[<- Nat.succ_mul]; exact Nat.mul_le_mul_right _ M5
  rw[List.append_assoc,List.getElem?_append_left (by omega),ru GX i j M5 NA]
  exact hj
 ·simp only[if_neg M5]
  simp only[List.length_append]at hi
  have z5f:i-l.length<ys.length:=by omega
  refine⟨by grind,λj v hj => ?_⟩
  have NA:j<e.size:=by rw[<- NR _ z5f]; exact(List.getElem?_eq_some_iff.1 hj).1
  have e1:i*e.size=l.length*e.size+(i-l.length)*e.size:=by rw[<- Nat.add_mul]; congr 1; omega
  have:(i-l.length)*e.size+e.size<=ys.length*e.size:=by rw[<- Nat.succ_mul]; exact Nat.mul_le_mul_right _ z5f
  rw[List.append_assoc,List.getElem?_append_right (by omega),h1,List.getElem?_append_left (by omega)]
  rw[show i*e.size+j-l.length*e.size=(i-l.length)*e.size+j by omega,ru NR _ j z5f NA]
  exact hj
theorem Dc{t t2 et:Nat}{e:Ty}{l ys:List (den e)}{sv v:Value}{bytes:Nat}{ty:Nat}(hI:Inv κ)(hu:c.P.underlying t=some (.slice et))(RR:Tc c t2)(wm:ko c et e=true)(uU:0<e.size)(Cx:lS c et=some bytes)(hz:∃ y,zeroOf c et e=some y)
  (hs:Src κ e l sv) (vc:∃ a,sv=.slice a l.length l.length) (hv:Cel κ e ys v) (vT:ys≠[]) (hb:(l.length+ys.length)*bytes<=140737488355328) (hn:l.length+ys.length<=9223372036854775807) :
  ∃ (κ':KS) (r:Value),(Builtin.append_ #[t,t2] ty #[sv,v]).run c.P κ.w=.ok r κ'.w/\κ'.st=κ.st++[.arr (l.length+ys.length) e (l++ys)]/\Inv κ'/\Ext κ κ'/\RD κ' (.ms κ.st.length (l.length+ys.length) e 0 (l.length+ys.length)) r:=by
 obtain⟨Si,_⟩:=vw wm
 obtain⟨i,DL,XL⟩:=dM Si
 obtain⟨y,hy⟩:=hz
 obtain⟨i',zv,g1,g2,g3⟩:=fp (κ:=κ) hy
 obtain⟨i'',k1,k2⟩:=nK Cx
 rw[DL]at g1 k1
 cases g1
 cases k1
 obtain⟨olds,f,Sl,Th,ho3,ho4,ho5⟩:=QF hs uU
 obtain⟨news,g,C7,Uf,hn3,hn4,hn5⟩:=hv.ex
 obtain⟨a,hsv⟩:=vc
 subst hsv
 have ZO:0<ys.length:=List.length_pos_iff.2 vT
 have vF:=oU (c:=c) (κ:=κ) (t:=t) (t2:=t2) (e:=et) (ty:=ty) (base:=a) (sLen:=l.length) (sCap:=l.length) (n:=ys.length) (x:=v) (news:=news) (olds:=olds) hu RR DL g2 hn3
  (by intro P; rw[XL]; exact hn5 P) (by intro P; rw[XL]; exact ho5 P) (by omega) (by omega) (by rw[k2]; exact hb)
 let C:=grownCap κ.w (l.length+ys.length) l.length et
 have hC:l.length+ys.length<=C:=grownCap_ge _ _ _ _
 let zs:=Builtin.zeroCells zv.cells (C-(l.length+ys.length))
 let cells:=olds.toArray++news.toArray++zs
 have hzs:zs.size=(C-(l.length+ys.length))*e.size:=by have:=g3.len; simp only[Array.length_toList]at this; simp[zs,nE,this]
 have hol:olds.length=l.length*e.size:=by rw[Sl]; exact uG λi hi=>(Th i hi).len
 have Dh:news.length=ys.length*e.size:=by rw[C7]; exact uG λi hi=>(Uf i hi).len
 have QB:cells.size=C*e.size:=by
  simp only[cells,Array.size_append,List.size_toArray,hol,Dh,hzs,<- Nat.add_mul]
  grind
 have gr:=ep.drew κ.w (.cells cells et)
 have hex:=pR (n:=cells.size) (x:=.arr (l.length+ys.length) e (l++ys)) hI gr
 refine⟨κ.add _ cells.size (.arr (l.length+ys.length) e (l++ys)),_,vF,rfl,WE hI gr ?_,hex,?_⟩
 ·refine⟨uU,.inr ⟨κ.w.heap.size,cells.size,cells,et,nZ hI,gr.new,rfl,?_,Q4 wm,λi=>if i<l.length then f i else g (i-l.length),λi hi => ?_⟩⟩
  ·rw[QB,List.length_append]; exact Nat.mul_le_mul_right _ hC
  ·obtain⟨q1,q2⟩:=UQ Th Uf zs.toList i hi
   refine⟨q1.mono hex.same,λj v hj => ?_⟩
   grind
 ·refine .ms _ (l.length+ys.length) e 0 _ C _ (.inr ⟨l.length+ys.length,e,_,tu,Nat.le_refl _⟩) hC nofun (λp hp=>by cases hp; rfl) λxs Wq => ?_
  rw[tu]at Wq
  cases Wq
  exact⟨by simp,.inr ⟨κ.w.heap.size,cells.size,0,C,nZ hI,rfl,hC,by rw[QB]; simp,.inr (by simp)⟩⟩
def KS.re(κ:KS)(w':World)(b n:Nat)(x:kE):KS:={ κ with w:=w',ph:=κ.ph.set b (some (κ.w.heap.size,n)),st:=κ.st.set b x }
theorem DI{w':World}{o:Obj}{b n v0 v1:Nat}{e:Ty}{xs ys:List (den e)}(hI:Inv κ)(g:ep κ.w w' o)(hb:κ.st[b]? = some (.arr v0 e xs))(hv:v0<v1):Ext κ (κ.re w' b n (.arr v1 e ys)):=by
 refine⟨g.os,g.tape,g.output,by show κ.w.heap.size<=w'.heap.size; rw[g.size]; omega,λk hk=>⟨hk,g.old (hI.yr k hk)⟩,λk hk=>.inl hk,?_,?_,?_,?_,by simp[KS.re],λk hk _=>g.old hk⟩
 ·intro b' blk m h
  simp only[KS.re]at h
  grind
 ·intro b' d hd
  have vT:b≠b':=λe=>by subst e; rw[hb]at hd; cases hd
  simp only[KS.re]
  grind
 ·intro b' u0 e' zs hd
  simp only[KS.re]
  grind
 ·intro b' hd
  have vT:b≠b':=λe=>by subst e; rw[hb]at hd; cases hd
  simp only[KS.re,List.getElem?_set,if_neg vT]
  exact hd
theorem z5P{w':World}{o:Obj}{b n v0 v1:Nat}{e:Ty}{xs ys:List (den e)}(hI:Inv κ)(g:ep κ.w w' o)(hb:κ.st[b]? = some (.arr v0 e xs))(hv:v0<v1)
  (hx:dR (κ.re w' b n (.arr v1 e ys)) b (.arr v1 e ys)):Inv (κ.re w' b n (.arr v1 e ys)):=by
 have hold:∀ (b' blk m:Nat),(κ.ph.set b (some (κ.w.heap.size,n)))[b']? = some (some (blk,m))->(b≠b'/\κ.ph[b']? = some (some (blk,m)))\/(b=b'/\blk=κ.w.heap.size):=by
  grind
 refine⟨by simp[KS.re,hI.len],?_,?_,?_,?_,hI.gl.mono (DI (n:=n) (ys:=ys) hI g hb hv).same⟩
 ·intro k hk; have:=hI.yr k hk; show k<w'.heap.size; rw[g.size]; omega
 ·intro b' blk m h
  rcases hold b' blk m h with⟨_,h⟩ | ⟨rfl,rfl⟩
  ·obtain⟨h1,h2⟩:=hI.apart b' blk m h
   exact⟨by show blk<w'.heap.size; rw[g.size]; omega,h2⟩
  ·exact⟨by show κ.w.heap.size<w'.heap.size; rw[g.size]; omega,λhk=>absurd (hI.yr _ hk) (Nat.lt_irrefl _)⟩
 ·intro b1 b2 blk m m' h h'
  rcases hold b1 blk m h with⟨_,h⟩ | ⟨rfl,rfl⟩<;>rcases hold b2 _ m' h' with⟨_,h'⟩ | ⟨rfl,h''⟩
  ·exact hI.inj b1 b2 blk m m' h h'
  ·have:=(hI.apart b1 blk m h).1; omega
  ·have:=(hI.apart b2 _ m' h').1; omega
  ·rfl
 ·intro b' y hy
  simp only[KS.re,List.getElem?_set]at hy
  split at hy
  ·grind
  ·rename_i e1
   refine(hI.blk b' y hy).mono (DI hI g hb hv) ?_ λblk m h=>g.old (hI.apart b' blk m h).1
   simp only[KS.re,List.getElem?_set,if_neg e1]
theorem Ud{α:Type}{l:List α}{i:Nat}{a:α}(h:l[i]? = some a):l.set i a=l:=by
 apply List.ext_getElem?
 grind
theorem N0{t t2 et b qB len:Nat}{e:Ty}{xs ys:List (den e)}{sv v:Value}{bytes:Nat}{ty:Nat}(hI:Inv κ)(hu:c.P.underlying t=some (.slice et))(RR:Tc c t2)(wm:ko c et e=true)(uU:0<e.size)(Cx:lS c et=some bytes)
  (hz:∃ y,zeroOf c et e=some y) (hs:RD κ (.ms b qB e 0 len) sv) (hb:κ.st[b]? = some (.arr qB e xs)) (hlen:len=xs.length) (hv:Cel κ e ys v) (hbb:(xs.length+ys.length)*bytes<=140737488355328)
  (hn:xs.length+ys.length<=9223372036854775807) :
  ∃ (κ':KS) (r:Value),(Builtin.append_ #[t,t2] ty #[sv,v]).run c.P κ.w=.ok r κ'.w/\κ'.st=κ.st.set b (.arr (qB+ys.length) e (xs++ys))/\Inv κ'/\Ext κ κ'/\RD κ' (.ms b (qB+ys.length) e 0 (len+ys.length)) r:=by
 subst hlen
 have qy:b<κ.st.length:=(List.getElem?_eq_some_iff.1 hb).1
 have Ja:b<κ.ph.length:=by rw[hI.len]; exact qy
 obtain⟨Si,_⟩:=vw wm
 obtain⟨i,DL,XL⟩:=dM Si
 obtain⟨y,hy⟩:=hz
 obtain⟨i',zv,g1,g2,g3⟩:=fp (κ:=κ) hy
 obtain⟨i'',k1,k2⟩:=nK Cx
 rw[DL]at g1 k1
 cases g1
 cases k1
 have Gb:=(EH hI hs hb).1
 simp only[Nat.zero_add,List.take_length,List.drop_zero]at Gb
 obtain⟨olds,f,Sl,Th,ho3,ho4,ho5⟩:=QF Gb uU
 obtain⟨news,g,C7,Uf,hn3,hn4,hn5⟩:=hv.ex
 have hol:olds.length=xs.length*e.size:=by rw[Sl]; exact uG λi hi=>(Th i hi).len
 have Dh:news.length=ys.length*e.size:=by rw[C7]; exact uG λi hi=>(Uf i hi).len
 have Ku:∀ u∈news,u.oneCell'=true:=by rw[C7]; exact KB λi hi=>(Uf i hi).one
 cases hs with
 | ms _ _ _ _ _ cap a hold vc ha nN hm =>
  obtain⟨hle,hm⟩:=hm xs hb
  by_cases n8:xs.length+ys.length<=cap
  ·-- there is room
   rcases hm with⟨h1,_,hv',hp⟩ | ⟨blk,n,o,E4,h3,h4,h5,h6,h7⟩
   ·simp only[Value.slice.injEq]at hv'
    obtain⟨rfl,J3,rfl⟩:=hv'
    have WO:xs=[]:=List.eq_nil_of_length_eq_zero h1
    have hy0:ys=[]:=List.eq_nil_of_length_eq_zero (by omega)
    subst WO hy0
    refine⟨κ,.slice none 0 0,?_,?_,hI,Ext.refl κ,.ms b qB e 0 0 0 none hold (Nat.le_refl _) (λ_=>rfl) nofun λzs hzs => ?_⟩
    ·have NG:news=[]:=List.eq_nil_of_length_eq_zero (by simpa using Dh)
     subst NG
     exact run_append_fits (c:=c) (κ:=κ) (t:=t) (t2:=t2) (e:=et) (ty:=ty) (base:=none) (sLen:=0) (sCap:=0) (n:=0) (x:=v) (news:=[]) hu RR DL hn3 (by intro P; rw[XL]; exact hn4 P) (by omega) rfl
    ·simp only[List.length_nil,Nat.add_zero,List.append_nil]
     rw[Ud hb]
    ·grind
   ·cases h4
    obtain⟨_,⟨U4,hpn⟩ | ⟨iQ,n',cs,T,p1,p2,p3,p4,pr,F,p5⟩⟩:=hI.blk b _ hb
    ·grind
    ·rw[h3]at p1
     cases p1
     have ho:xs.length+ys.length=0\/o=0:=by
      grind
     have zbH:cap*e.size<=cs.size:=by rw[p3]; simpa using h6
     have V8:xs.length*e.size+ys.length*e.size<=cs.size:=by
      rw[<- Nat.add_mul]; exact Nat.le_trans (Nat.mul_le_mul_right _ n8) zbH
     let bZ:=(cs.toList.take (xs.length*e.size)++news++cs.toList.drop (xs.length*e.size+news.length)).toArray
     have WC:cs.toList.length=cs.size:=by simp
     have JJ:bZ.size=cs.size:=by simp only[bZ,List.size_toArray,List.length_append,List.length_take,List.length_drop,Dh,WC]; omega
     have hoa:∀ m,(⟨blk,o,none⟩:Addr).add (xs.length*e.size)=⟨blk,xs.length*e.size,none⟩\/m=0\/xs.length+ys.length=0:=by
      intro m
      rcases ho with h | h
      ·grind
      ·subst h; rw[vE,Nat.zero_add]; exact .inl rfl
     have xM:(storeCells ((⟨blk,o,none⟩:Addr).add (xs.length*i.size)) news).run c.P κ.w=.ok () (κ.w.setRow blk bZ):=by
      rw[XL]
      rcases hoa 1 with h | h | h
      ·rw[h]
       have:=run_storeCells_at c.P blk (xs.length*e.size) T news 0 cs κ.w p2 (by rw[Dh]; omega) Ku
       simpa only[Nat.add_zero]using this
      ·cases h
      ·have NG:news=[]:=List.eq_nil_of_length_eq_zero (by rw[Dh,show ys.length=0 by omega]; simp)
       have WO:xs.length=0:=by omega
       have hce:bZ=cs:=by simp[bZ,NG,WO]
       rw[NG,hce,setRow_self _ _ _ _ _ p2]
       rfl
     have nB:Alike (.arr qB e xs) (.arr (qB+ys.length) e (xs++ys)):=⟨rfl,by omega,λh=>by rw[List.length_append]; omega⟩
     have hex:=ml (cs:=bZ) (x:=.arr (qB+ys.length) e (xs++ys)) hI h3 hb nB
     refine⟨κ.GV b blk bZ (.arr (qB+ys.length) e (xs++ys)),.slice (some ⟨blk,o,none⟩) (xs.length+ys.length) cap,?_,rfl,ZU hI h3 hb nB ?_,hex,?_⟩
     ·exact run_append_fits (c:=c) (κ:=κ) (t:=t) (t2:=t2) (e:=et) (ty:=ty) (base:=some ⟨blk,o,none⟩) (sLen:=xs.length) (sCap:=cap) (n:=ys.length) (x:=v) (news:=news) hu RR DL hn3 (by intro P; rw[XL]; exact hn4 P) n8 xM
     ·refine⟨uU,.inr ⟨blk,n,bZ,T,h3,setRow_heap _ _ _ _ _ _ p2,by rw[JJ]; exact p3,?_,pr,λi=>if i<xs.length then F i else g (i-xs.length),λi hi => ?_⟩⟩
      ·rw[List.length_append]; exact Nat.le_trans (Nat.mul_le_mul_right _ n8) (by simpa using h6)
      ·have hF:∀ i (hi:i<xs.length),Rc κ.w κ.ok e xs[i] (F i):=λi hi=>(p5 i hi).1
       have z2Z:∀ i,i<xs.length->(F i).length=e.size:=λi hi=>(hF i hi).len
       have R5:cs.toList.take (xs.length*e.size)=kK F xs.length:=by
        apply List.ext_getElem?
        intro p
        rw[List.getElem?_take]
        have GX:=uG z2Z
        split
        ·rename_i hp
         obtain⟨q,hq⟩:∃ q,(kK F xs.length)[p]? = some q:=⟨_,List.getElem?_eq_getElem (by rw[GX]; exact hp)⟩
         obtain⟨i',j',a1,a2,a3,a4⟩:=HW uU z2Z hq
         rw[hq]
         have:=(p5 i' a1).2 j' q a4
         rw[a3,Array.getElem?_toList]; exact this
        ·rename_i hp
         rw[List.getElem?_eq_none (by rw[GX]; omega)]
       obtain⟨q1,q2⟩:=UQ hF Uf (cs.toList.drop (xs.length*e.size+news.length)) i hi
       refine⟨q1.mono hex.same,λj w hj => ?_⟩
       have:=q2 j w hj
       rw[<- C7,<- R5]at this
       simpa only[bZ,List.getElem?_toArray]using this
     ·refine .ms b _ e 0 _ cap _ (.inr ⟨qB+ys.length,e,xs++ys,by simp[KS.GV,qy],Nat.le_refl _⟩) n8 nofun (λp hp=>by cases hp; rfl) λzs hzs => ?_
      have:zs=xs++ys:=by simp only[KS.GV,List.getElem?_set_self qy]at hzs; cases hzs; rfl
      subst this
      refine⟨by simp,.inr ⟨blk,n,o,cap,h3,rfl,n8,by simpa using h6,?_⟩⟩
      rcases h7 with h7 | h7
      ·exact .inl h7
      ·exact .inr (by simpa using h7)
  ·-- it grows
   have ZO:0<ys.length:=by omega
   have vF:=oU (c:=c) (κ:=κ) (t:=t) (t2:=t2) (e:=et) (ty:=ty) (base:=a) (sLen:=xs.length) (sCap:=cap) (n:=ys.length) (x:=v) (news:=news) (olds:=olds) hu RR DL g2 hn3
    (by intro P; rw[XL]; exact hn5 P) (by intro P; rw[XL]; exact ho5 P) (by omega) (by omega) (by rw[k2]; exact hbb)
   let C:=grownCap κ.w (xs.length+ys.length) cap et
   have hC:xs.length+ys.length<=C:=grownCap_ge _ _ _ _
   let zs:=Builtin.zeroCells zv.cells (C-(xs.length+ys.length))
   let cells:=olds.toArray++news.toArray++zs
   have hzs:zs.size=(C-(xs.length+ys.length))*e.size:=by have:=g3.len; simp only[Array.length_toList]at this; simp[zs,nE,this]
   have QB:cells.size=C*e.size:=by
    simp only[cells,Array.size_append,List.size_toArray,hol,Dh,hzs,<- Nat.add_mul]
    congr 1; omega
   have gr:=ep.drew κ.w (.cells cells et)
   have O1:qB<qB+ys.length:=by omega
   have hex:=DI (n:=cells.size) (ys:=xs++ys) hI gr hb O1
   refine⟨κ.re _ b cells.size (.arr (qB+ys.length) e (xs++ys)),_,vF,rfl,z5P hI gr hb O1 ?_,hex,?_⟩
   ·refine⟨uU,.inr ⟨κ.w.heap.size,cells.size,cells,et,by simp[KS.re,Ja],gr.new,rfl,?_,Q4 wm,λi=>if i<xs.length then f i else g (i-xs.length),λi hi => ?_⟩⟩
    ·rw[QB,List.length_append]; exact Nat.mul_le_mul_right _ hC
    ·obtain⟨q1,q2⟩:=UQ Th Uf zs.toList i hi
     refine⟨q1.mono hex.same,λj v hj => ?_⟩
     have:=q2 j v hj
     rw[<- Sl,<- C7]at this
     rw[<- Array.getElem?_toList]
     simpa[cells]using this
   ·refine .ms b _ e 0 _ C _ (.inr ⟨qB+ys.length,e,xs++ys,by simp[KS.re,qy],Nat.le_refl _⟩) hC nofun (λp hp=>by cases hp; rfl) λus hus => ?_
    have:us=xs++ys:=by simp only[KS.re,List.getElem?_set_self qy]at hus; cases hus; rfl
    subst this
    exact⟨by simp,.inr ⟨κ.w.heap.size,cells.size,0,C,by simp[KS.re,Ja],rfl,hC,by rw[QB]; simp,.inr (by simp)⟩⟩
end
end Go.AM
namespace Go.AM
set_option linter.unusedSectionVars false
variable [vU]
section
variable {c:Ctx} {κ:KS}
theorem tn{x y:D}{v:Value}(hI:Inv κ)(hx:RD κ x v)(h:(mX κ.st x).leads y):(y=x/\∀ b qB e off len,x≠.ms b qB e off len)\/∃ (e:Ty) (ys:List (den e)),y=.zI (.sl e) ys/\Src κ e ys v/\∃ b qB off len,x=.ms b qB e off len:=by
 cases x with
 | ms b qB e off len =>
  simp only[mX]at h
  split at h
  ·rename_i jK e' xs hb
   split at h
   ·rename_i he
    subst he
    obtain⟨rfl,h⟩:=h
    refine .inr ⟨e',_,h.symm,(EH hI hx hb).1,b,qB,off,len,rfl⟩
   ·exact h.elim
  ·exact h.elim
 | _=>exact .inl ⟨h.symm,λ_ _ _ _ _=>nofun⟩
theorem sq{t t2 et:Nat}{e:Ty}{s:D}{ys:List (den e)}{ne:Bool}{sv v:Value}{bytes ty:Nat}{d:Option D}{zr:St}(hI:Inv κ)(hu:c.P.underlying t=some (.slice et))(RR:Tc c t2)(wm:ko c et e=true)(uU:0<e.size)
  (Cx:lS c et=some bytes) (Wv:0<bytes) (hz:∃ y,zeroOf c et e=some y) (hs:RD κ s sv) (hv:Cel κ e ys v) (vT:ne=true->ys≠[])
  (h:(jL e s ys ne bytes κ.st).leads (d,zr)) :
  ∃ (κ':KS) (r:Value),(Builtin.append_ #[t,t2] ty #[sv,v]).run c.P κ.w=.ok r κ'.w/\κ'.st=zr/\Inv κ'/\Ext κ κ'/\∀ d',d=some d'->RD κ' d' r:=by
 have hlen:∀ n,n*bytes<=140737488355328->n<=9223372036854775807:=λn hn=>Nat.le_trans (Nat.le_mul_of_pos_right n Wv) (Nat.le_trans hn (by decide))
 -- nothing is appended
 have same:∀ (a:Option Addr) (n cap:Nat),sv=.slice a n cap->n<=cap->ys=[]->d=some s->zr=κ.st ->
   ∃ (κ':KS) (r:Value),(Builtin.append_ #[t,t2] ty #[sv,v]).run c.P κ.w=.ok r κ'.w/\κ'.st=zr/\Inv κ'/\Ext κ κ'/\∀ d',d=some d'->RD κ' d' r:=by
  rintro a n cap rfl vc rfl rfl rfl
  obtain⟨Si,_⟩:=vw wm
  obtain⟨i,DL,XL⟩:=dM Si
  obtain⟨news,g,C7,Uf,hn3,hn4,hn5⟩:=hv.ex
  have NG:news=[]:=C7
  subst NG
  refine⟨κ,.slice a n cap,?_,rfl,hI,Ext.refl κ,λd' he=>by cases he; exact hs⟩
  have:=run_append_fits (c:=c) (κ:=κ) (t:=t) (t2:=t2) (e:=et) (ty:=ty) (base:=a) (sLen:=n) (sCap:=cap) (n:=0) (x:=v) (news:=[]) (i:=i) hu RR DL hn3 (by intro P; rw[XL]; exact hn4 P) (by omega) (w':=κ.w) (by cases a<;>rfl)
  grind
 have new:∀ l:List (den e),Src κ e l sv->(∃ a,sv=.slice a l.length l.length)->ys≠[]->(lB e l ys bytes κ.st).leads (d,zr) ->
   ∃ (κ':KS) (r:Value),(Builtin.append_ #[t,t2] ty #[sv,v]).run c.P κ.w=.ok r κ'.w/\κ'.st=zr/\Inv κ'/\Ext κ κ'/\∀ d',d=some d'->RD κ' d' r:=by
  intro l hl vc vT h
  obtain⟨hb,h⟩:=h
  cases h
  obtain⟨κ',r,h1,h2,h3,h4,h5⟩:=Dc (ty:=ty) hI hu RR wm uU Cx hz hl vc hv vT hb (hlen _ hb)
  grind
 unfold jL at h
 split at h
 ·have hsv:sv=.slice none 0 0:=by cases hs; rfl
  cases hn:ne with
  | true=>rw[hn,cond_true]at h; exact new [] (WG hs) ⟨none,hsv⟩ (vT hn) h
  | false =>
   rw[hn,cond_false]at h
   rcases h with⟨hy,h⟩ | ⟨hy,h⟩
   ·cases h; exact same none 0 0 hsv (Nat.le_refl _) (List.isEmpty_iff.1 hy) rfl rfl
   ·exact new [] (WG hs) ⟨none,hsv⟩ (λe=>by rw[e]at hy; cases hy) h
 ·rename_i e' l ne'
  split at h
  ·rename_i l' Tp
   obtain⟨he,z8j⟩:=qi Tp
   cases he
   simp only at z8j
   subst z8j
   have hsv:∃ a,sv=.slice a l'.length l'.length:=by
    cases hs with
    | xi=>simp
    | tight=>simp
   cases hn:ne with
   | true=>rw[hn,cond_true]at h; exact new l' (rB hs) hsv (vT hn) h
   | false =>
    rw[hn,cond_false]at h
    rcases h with⟨hy,h⟩ | ⟨hy,h⟩
    ·cases h
     obtain⟨a,ha⟩:=hsv
     exact same a _ _ ha (Nat.le_refl _) (List.isEmpty_iff.1 hy) rfl rfl
    ·exact new l' (rB hs) hsv (λe=>by rw[e]at hy; cases hy) h
  ·exact h.elim
 ·rename_i b qB e' off len
  split at h
  ·rename_i jK e'' xs hb
   split at h
   ·rename_i xs' Gw
    obtain⟨he,z7x⟩:=qi Gw
    cases he
    simp only at z7x
    subst z7x
    cases Tv:decide (e'=_)with
    | false=>rw[Tv]at h; exact h.elim
    | true =>
     rw[Tv,cond_true]at h
     have:=of_decide_eq_true Tv
     subst this
     obtain⟨⟨rfl,rfl,hl,hbb⟩,h⟩:=h
     cases h
     obtain⟨κ',r,h1,h2,h3,h4,h5⟩:=N0 (ty:=ty) hI hu RR wm uU Cx hz hs hb hl hv hbb (hlen _ hbb)
     exact⟨κ',r,h1,h2,h3,h4,λd' he=>by cases he; exact h5⟩
   ·exact h.elim
  ·exact h.elim
 ·exact h.elim
theorem C9{t ty:Nat}{s x:Option D}{sv v:Value}{d:Option D}{zr:St}(hI:Inv κ)(hs:∀ z,s=some z->RD κ z sv)(hx:∀ z,x=some z->RD κ z v)
  (h:(zH (Q6 c t s x) κ.st).leads (d,zr)):qA c.P (do Pure.pure (.value (<- Builtin.append_ #[t,t] ty #[sv,v]))) κ d zr:=by
 unfold Q6 at h
 split at h
 ·exact absurd h ze
 ·rename_i et het
  have hu:=uq het
  split at h
  ·rename_i e bytes IW Cx
   cases hb:ko c et e&&Nat.blt 0 e.size&&Nat.blt 0 bytes&&(zeroOf c et e).isSome with
   | false=>rw[hb]at h; exact absurd h ze
   | true =>
    rw[hb,cond_true]at h
    simp only[Bool.and_eq_true]at hb
    obtain⟨⟨⟨wm,h1⟩,h2⟩,h3⟩:=hb
    have uU:0<e.size:=Nat.le_of_ble_eq_true h1
    have Wv:0<bytes:=Nat.le_of_ble_eq_true h2
    have hz:=Option.isSome_iff_exists.1 h3
    split at h
    ·rename_i s x
     simp only[zH,T.zG]at h
     obtain⟨y,hy,h⟩:=h
     have fin:∀ (ys:List (den e)) (ne:Bool),Src κ e ys v->(ne=true->ys≠[])->(jL e s ys ne bytes κ.st).leads (d,zr)->qA c.P (do Pure.pure (.value (<- Builtin.append_ #[t,t] ty #[sv,v]))) κ d zr:=by
      intro ys ne hv vT h
      obtain⟨κ',r,g1,g2,g3,g4,g5⟩:=sq (t2:=t) (ty:=ty) hI hu (.inl ⟨et,hu⟩) wm uU Cx Wv hz (hs _ rfl) (z1x hv uU) vT h
      exact⟨κ',.value r,r,by simp only[Sem.run_bind,g1,Result.andThen_ok]; rfl,.inl rfl,g2,g3,g4,g5⟩
     have Ez:=hx _ rfl
     rcases tn hI Ez hy with⟨rfl,hnm⟩ | ⟨e',ys,rfl,Gb,_⟩
     ·split at h
      ·rename_i σ z
       split at h
       ·rename_i ys hys
        obtain⟨he,hz'⟩:=qi hys
        cases he
        subst hz'
        exact fin _ false (Ir Ez) nofun h
       ·exact h.elim
      ·rename_i σ z ne
       split at h
       ·rename_i ys hys
        obtain⟨he,hz'⟩:=qi hys
        cases he
        subst hz'
        refine fin _ ne (rB Ez) (λvT => ?_) h
        cases Ez with
        | xi=>cases vT
        | tight _ _ _ _ _ _ q=>exact q vT
       ·exact h.elim
      ·exact fin [] false (WG Ez) nofun h
      ·exact h.elim
     ·simp only at h
      split at h
      ·rename_i ys' hys
       obtain⟨he,hz'⟩:=qi hys
       grind
      ·exact h.elim
    ·exact absurd h ze
  ·exact absurd h ze
theorem z1Q{l:zf}{v:Value}(h:RD κ (.zI .str l) v):Cel κ (.int .u8) (bytesOf l) v:=by
 have hv:=h.wG
 subst hv
 have hl:(bytesOf l).length=l.length:=by simp[bytesOf]
 have uU:(⟨l.toArray⟩:ByteArray).size=l.length:=List.size_toArray
 refine⟨Lib.strCells ⟨l.toArray⟩,λi=>[.int .u8 ((bytesOf l)[i]?.getD 0)],?_,λi hi => ?_,λP => ?_,λP => ?_,λP => ?_⟩
 ·have gen:∀ (n:Nat),n<=l.length->kK (λi=>[Value.int .u8 ((bytesOf l)[i]?.getD 0)]) n=(l.take n).map λb=>Value.int .u8 b.toNat:=by
   intro n
   induction n with
   | zero=>intro _; rfl
   | succ n ih =>
    intro hn
    have qy:n<l.length:=hn
    rw[kK,ih (by omega),List.take_succ_eq_append_getElem qy,List.map_append]
    simp[bytesOf,List.getElem?_eq_getElem qy]
  rw[hl,gen _ (Nat.le_refl _),List.take_length]
  rfl
 ·have:(bytesOf l)[i]?.getD 0=(bytesOf l)[i]:=by rw[List.getElem?_eq_getElem hi]; rfl
  show Rc κ.w κ.ok (.int .u8) (bytesOf l)[i] [Value.int .u8 ((bytesOf l)[i]?.getD 0)]
  rw[this]
  exact .int .u8 _
 ·show(pure (⟨l.toArray⟩:ByteArray).size:Sem Nat).run P κ.w=_
  rw[uU,hl]; rfl
 ·rw[hl,<- uU]; exact Lib.run_firstCells_string _ _ _
 ·rw[hl,<- uU]; exact Lib.run_firstCells_string _ _ _
theorem UC{t t2 ty:Nat}{s x:Option D}{sv v:Value}{d:Option D}{zr:St}(hI:Inv κ)(hs:∀ z,s=some z->RD κ z sv)(hx:∀ z,x=some z->RD κ z v)
  (h:(zH (pX c t t2 s x) κ.st).leads (d,zr)):qA c.P (do Pure.pure (.value (<- Builtin.append_ #[t,t2] ty #[sv,v]))) κ d zr:=by
 unfold pX at h
 split at h
 ·exact absurd h ze
 ·rename_i et het
  have hu:=uq het
  split at h
  ·rename_i bytes IW Cx RR
   cases hb:ko c et (.int .u8)&&Nat.blt 0 bytes&&(zeroOf c et (.int .u8)).isSome with
   | false=>rw[hb]at h; exact absurd h ze
   | true =>
    rw[hb,cond_true]at h
    simp only[Bool.and_eq_true]at hb
    obtain⟨⟨wm,h2⟩,h3⟩:=hb
    have Wv:0<bytes:=Nat.le_of_ble_eq_true h2
    have hz:=Option.isSome_iff_exists.1 h3
    split at h
    ·rename_i s l
     obtain⟨κ',r,g1,g2,g3,g4,g5⟩:=sq (t2:=t2) (ty:=ty) hI hu (.inr RR) wm (by decide) Cx Wv hz (hs _ rfl) (ne:=false) (z1Q (hx _ rfl)) (λe=>by cases e) h
     exact⟨κ',.value r,r,by simp only[Sem.run_bind,g1]; rfl,.inl rfl,g2,g3,g4,g5⟩
    ·exact absurd h ze
  ·exact absurd h ze
end
end Go.AM
namespace Go.AM
set_option linter.unusedSectionVars false
variable [vU]
section
variable {c:Ctx} {κ:KS}
theorem sM{places:List (Nat×Nat)}{pf:Nat->Option (Nat×Nat)}(hpf:∀ (i:Nat) p,places[i]? = some p->pf i=some p){F:Operand->Option D}{G:Operand->Value}(hF:∀ x d,F x=some d->RD κ d (G x)):∀ (L:List (Nat×Operand)) (cells r:List D) (cs:Array Value),
  eK places (L.map λp=>(p.1,F p.2)) cells=some r->qH κ cells cs.toList->(∀ d∈cells,d.one=true) ->
  ∃ bZ,Instr.fill pf cs (L.map λp=>(p.1,G p.2))=some bZ/\qH κ r bZ.toList/\∀ d∈r,d.one=true
 | [],cells,r,cs,h,hr,ho=>by
  simp only[List.map_nil,eK,Option.some.injEq]at h
  subst h
  exact⟨cs,rfl,hr,ho⟩
 | (i,x)::L,cells,r,cs,h,hr,ho=>by
  simp at h
  cases hx:F x with
  | none=>rw[hx]at h; simp[eK]at h
  | some d =>
   rw[hx]at h
   simp only[eK]at h
   split at h
   ·rename_i off n hp
    cases hb : !d.uM&&Nat.beq n (qg d).length&&Nat.ble (off+n) cells.length with
    | false=>grind
    | true =>
     rw[hb,cond_true]at h
     simp only[Bool.and_eq_true,Bool.not_eq_true']at hb
     obtain⟨⟨h1,h2⟩,h3⟩:=hb
     have h2':n=(qg d).length:=Nat.eq_of_beq_eq_true h2
     have h3':=Nat.le_of_ble_eq_true h3
     have hd:=hF x d hx
     have hfd:=j9 hd h1
     have hvl:(G x).cells.toList.length=n:=by rw[<- hfd.1]; exact h2'.symm
     have hle:off+n<=cs.size:=by have:=hr.1; simp at this; omega
     have hn:=iD hr hfd off n
     obtain⟨bZ,g1,g2,g3⟩:=sM hpf hF L _ r (cs.toList.take off++(G x).cells.toList++cs.toList.drop (off+n)).toArray h (by grind) (by
      intro y hy
      simp only[List.mem_append]at hy
      rcases hy with(hy | hy) | hy
      ·grind
      ·exact jd hd y hy
      ·exact ho y (List.mem_of_mem_drop hy))
     refine⟨bZ,?_,g2,g3⟩
     simp
     rw[Bu (hpf _ _ hp) hvl hle]
     exact g1
   ·cases h
theorem Da{t:Nat}{L:List (Nat×Operand)}{F:Operand->Option D}{G:Operand->Value}{d:Option D}{zr:St}(hI:Inv κ)(hF:∀ x d,F x=some d->RD κ d (G x))
  (h:(zH (GB c t (L.map λp=>(p.1,F p.2))) κ.st).leads (d,zr)):qA c.P (do Pure.pure (.value (<- Instr.build t (L.map λp=>(p.1,G p.2)).toArray))) κ d zr:=by
 unfold GB at h
 split at h
 ·rename_i fs hu
  split at h
  ·rename_i z places hz hp
   split at h
   ·rename_i l hl
    rw[jV]at h
    obtain⟨rfl,rfl⟩:=h
    obtain⟨i,zv,h1,h2,h3⟩:=eY hz
    have hzr:=h3.rd κ
    obtain⟨bZ,g1,g2,g3⟩:=sM (pf:=(places.toArray[·]?)) (λi p hp=>by simpa using hp) hF L z l zv.cells hl (j9 hzr rfl) (jd hzr)
    have hb:c.P.built t (L.map λp=>(p.1,G p.2))=some bZ:=by
     unfold Program.built
     grind
    refine qA.pure hI (run_build κ.w t _ bZ (by simpa using hb)) ?_
    have:=RD.agg l bZ.toList g2.1 g3 g2.2
    omega
   ·exact absurd h ze
  ·exact absurd h ze
 ·rename_i k e hu
  split at h
  ·rename_i z ie hz hp
   split at h
   ·rename_i l hl
    obtain⟨rfl,rfl⟩:=h
    obtain⟨i,zv,h1,h2,h3⟩:=eY hz
    have hzr:=h3.rd κ
    obtain⟨bZ,g1,g2,g3⟩:=sM (pf:=λi=>some (i*ie.size,ie.size)) (λi p hp=>by
     rw[List.getElem?_map]at hp
     cases hr:(List.range k)[i]? with
     | none=>grind
     | some j =>
      rw[hr]at hp
      obtain⟨qy,rfl⟩:=List.getElem?_eq_some_iff.1 hr
      simpa using hp) hF L z l zv.cells hl (j9 hzr rfl) (jd hzr)
    have hb:c.P.built t (L.map λp=>(p.1,G p.2))=some bZ:=by
     unfold Program.built
     grind
    refine qA.pure hI (run_build κ.w t _ bZ (by simpa using hb)) ?_
    have:=RD.agg l bZ.toList g2.1 g3 g2.2
    omega
   ·exact absurd h ze
  ·exact absurd h ze
 ·exact absurd h ze
theorem Jo{a:Act}{o:Oper}{p:Operand}(ho:o.op=.nilCheck p){x:Option D}{d:Option D}{zr:St}(hI:Inv κ)(hx:∀ z,x=some z->RD κ z (a.eval p))
  (h:(zH (sK x) κ.st).leads (d,zr)):qA c.P (execOp a.eval o) κ d zr:=by
 have key:∀ z v,RD κ z v->a.eval p=v->(∀ b:Option Addr,v=.pointer b->b≠none)->((∃ b,v=.pointer b)\/∃ g q l,v=.func (.func g) q l)->qA c.P (execOp a.eval o) κ (some z) κ.st:=by
  intro z v hz hv hn hc
  have:execOp a.eval o=Pure.pure (.value v):=by
   rcases hc with⟨b,rfl⟩ | ⟨g,q,l,rfl⟩
   ·cases b with
    | none=>grind
    | some b=>simp only[execOp,ho,hv]
   ·simp only[execOp,ho,hv]
  rw[this]
  exact qA.val hI λ_ he=>by cases he; exact hz
 unfold sK at h
 split at h
 all_goals try exact absurd h ze
 all_goals
  rw[jV]at h; obtain⟨rfl,rfl⟩:=h
  have hr:=hx _ rfl
  generalize hv:a.eval p=v at hr
  refine key _ v hr hv ?_ ?_
  ·intro b hb; cases hr<;>first | (cases hb<;>nofun) | (rename_i f l vs _ _; obtain⟨g,q,l',e⟩:=VQ f vs; rw[e]at hb; cases hb)
  ·cases hr<;>first | exact .inl ⟨_,rfl⟩ | exact .inr (VQ _ _)
theorem CV{op:BinOp}{t:Nat}{px:Operand}{x:Option D}{v:Value}{d:Option D}{zr:St}(hI:Inv κ)(hx:∀ z,x=some z->RD κ z v)
  (h:(zH (Gc c op t x) κ.st).leads (d,zr)):qA c.P (do Pure.pure (.value (<- (do eqGuard op t px (.const .nilIface) v .nilIface; binOp op t v .nilIface)))) κ d zr:=by
 unfold Gc at h
 split at h
 ·rename_i ms hu
  have hm:c.P.underlying t=some (.interface (c.P.methodsAt t)):=by unfold Program.methodsAt; rw[hu]
  have g1:∀ w,(eqGuard op t px (.const .nilIface) .nilIface .nilIface).run c.P w=.ok () w:=λw=>by cases op<;>simp[eqGuard]
  have g2:∀ u y w,(eqGuard op t px (.const .nilIface) (.iface u y) .nilIface).run c.P w=.ok () w:=λu y w=>by cases op<;>simp[eqGuard]
  split at h
  ·unfold bb at h
   obtain⟨rfl,rfl⟩:=h
   cases hx _ rfl
   exact qA.pure hI (by simp only[Sem.run_bind,g1,Result.andThen_ok,run_eql_nil_nil _ _ hm]) RD.bool
  ·unfold bb at h
   obtain⟨rfl,rfl⟩:=h
   cases hx _ rfl
   exact qA.pure hI (by simp only[Sem.run_bind,g2,Result.andThen_ok,run_eql_held_nil _ _ _ _ hm]) RD.bool
  ·unfold bb at h
   obtain⟨rfl,rfl⟩:=h
   cases hx _ rfl
   exact qA.pure hI (by simp only[Sem.run_bind,g1,Result.andThen_ok,run_neq_nil_nil _ _ hm]) RD.bool
  ·unfold bb at h
   obtain⟨rfl,rfl⟩:=h
   cases hx _ rfl
   exact qA.pure hI (by simp only[Sem.run_bind,g2,Result.andThen_ok,run_neq_held_nil _ _ _ _ hm]) RD.bool
  ·exact absurd h ze
 ·exact absurd h ze
theorem Wg{x:Option D}{v:Value}{xt at':Nat}{ok:Bool}{d:Option D}{zr:St}(hI:Inv κ)(hx:∀ z,x=some z->RD κ z v)
  (h:(zH (mC c x at' ok) κ.st).leads (d,zr)):qA c.P (do Pure.pure (.value (<- Instr.typeAssert v xt at' ok))) κ d zr:=by
 unfold mC at h
 split at h
 ·exact absurd h ze
 ·exact absurd h ze
 ·rename_i ty hni hu
  split at h
  ·rename_i t e
   cases hb:Nat.beq t at'&&ok with
   | false=>rw[hb]at h; exact absurd h ze
   | true =>
    rw[hb,cond_true,jV]at h
    obtain⟨rfl,rfl⟩:=h
    simp only[Bool.and_eq_true]at hb
    have:=Nat.eq_of_beq_eq_true hb.1
    subst this
    obtain rfl:=hb.2
    cases hx _ rfl with
    | iface _ _ u hu' =>
     refine qA.pure hI (v:=.tuple #[u,.bool true]) ?_ ?_
     ·cases ty<;>first | (exact(hni _ rfl).elim) | (simp[Instr.typeAssert,run_underlying hu])
     ·have:=qH.cons hu' (qH.cons (RD.bool (κ:=κ) (b:=true)) qH.nil)
      exact .yH _ [u,.bool true] this.1 this.2
  ·exact absurd h ze
theorem UD{t:Nat}{x:Option D}{v:Value}{d:Option D}{zr:St}(hI:Inv κ)(hx:∀ z,x=some z->RD κ z v)
  (h:(zH (nW c t x) κ.st).leads (d,zr)):qA c.P (do Pure.pure (.value (<- Instr.makeInterface t v))) κ d zr:=by
 unfold nW at h
 cases hu:c.P.underlying t with
 | none=>rw[hu]at h; exact absurd h ze
 | some u =>
  rw[hu]at h
  cases u<;>simp only at h
  all_goals try exact absurd h ze
  all_goals
   split at h
   ·rw[jV]at h; obtain⟨rfl,rfl⟩:=h
    have hc:c.P.concrete t=true:=by unfold Program.concrete; rw[hu]
    exact qA.pure hI (run_makeInterface κ.w t v hc) (.iface t _ v (hx _ rfl))
   ·exact absurd h ze
theorem O4{e:Ty}{x y:D}{v:Value}{l:List (den e)}(hI:Inv κ)(hx:RD κ x v)(h:(mX κ.st x).leads y)(hl:C2 e y=some l):Src κ e l v:=by
 rcases tn hI hx h with⟨rfl,_⟩ | ⟨e',ys,rfl,hs,_⟩
 ·cases y with
  | zI σ z =>
   obtain⟨he,hz⟩:=qi (a:=σ) (b:=.sl e) hl
   cases he
   cases hz
   exact Ir hx
  | tight e' z ne =>
   obtain⟨he,hz⟩:=qi (a:=.sl e') (b:=.sl e) hl
   cases he
   cases hz
   exact rB hx
  | xy =>
   simp only[C2,Option.some.injEq]at hl
   subst hl
   exact WG hx
  | _=>simp[C2]at hl
 ·obtain⟨he,hz⟩:=qi (a:=.sl e') (b:=.sl e) hl
  grind
theorem Vd{s t e:Nat}{x:Option D}{v:Value}{d:Option D}{zr:St}(hI:Inv κ)(hx:∀ z,x=some z->RD κ z v)(hs:c.P.underlying s=some (.slice e))(ht:c.P.underlying t=some .string)
  (h:(zH (QC c e x) κ.st).leads (d,zr)):qA c.P (do Pure.pure (.value (<- convert s t v))) κ d zr:=by
 unfold QC at h
 split at h
 ·rename_i z he
  rw[lg]at h
  obtain⟨h,rfl⟩:=h
  obtain⟨y,h1,h2⟩:=T.zG.1 h
  split at h2
  ·rename_i l hl
   cases h2
   have Gb:=O4 hI (hx _ rfl) h1 hl
   obtain⟨a,cap,f,rfl,vc,hn,g1,g2⟩:=Gb.ex
   have vF:(convert s t (.slice a l.length cap)).run c.P κ.w=.ok (.string (strOfNums l)) κ.w:=by
    cases a with
    | none =>
     obtain⟨rfl,rfl⟩:=hn rfl
     exact run_convert_bytes_nil κ.w s e hs he 0 0 t ht
    | some p =>
     rcases g2 p rfl with⟨rfl,rfl⟩ | ⟨hp,_,hc⟩
     ·have h0:(loadCells p 0).run c.P κ.w=.ok (([]:List Int).map (Value.int .u8)).toArray κ.w:=by
       rfl
      simp only[List.length_nil]
      rw[run_convert_bytes_string κ.w s t e _ 0 0 hs he ht,run_bytesToString κ.w _ 0 0 [] h0]
      rfl
     ·obtain⟨blk,o,sp⟩:=p
      subst hp
      refine run_convert_bytes_arg κ.w s e hs he blk o l.length cap l rfl (λi hi => ?_) t ht
      have hf:=(g1 i hi).yk
      have:=hc i hi 0 (.int .u8 l[i]) (by grind)
      have e1:o+i*Ty.size (.int .u8)+0=o+i:=by simp[Ty.size]
      grind
   refine qA.pure hI vF ?_
   exact .str
  ·exact h2.elim
 ·exact absurd h ze
theorem YR{s t:Nat}{x:Option D}{v:Value}{d:Option D}{zr:St}(hI:Inv κ)(hx:∀ z,x=some z->RD κ z v)
  (h:(zH (convertOp c s t x) κ.st).leads (d,zr)):qA c.P (do Pure.pure (.value (<- convert s t v))) κ d zr:=by
 unfold convertOp at h
 split at h
 ·rename_i e hs ht
  exact Vd hI hx hs ht h
 ·rename_i k0 k hs ht
  split at h
  ·rename_i k1 n hk
   have:=ue hk hx
   subst this
   obtain⟨rfl,rfl⟩:=h
   exact qA.pure hI (by simp[convert,run_underlying hs,run_underlying ht,Conv.intToInt]) RD.int
  ·exact absurd h ze
 ·rename_i hs ht
  split at h
  ·rename_i s' hk
   have:=nJ hk hx
   subst this
   obtain⟨rfl,rfl⟩:=h
   exact qA.pure hI (by simp[convert,run_underlying hs,run_underlying ht]) RD.str
  ·exact absurd h ze
 ·exact absurd h ze
end
end Go.AM
namespace Go.AM
set_option linter.unusedSectionVars false
variable [vU]
section
variable {c:Ctx} {κ:KS}
theorem MI{ty t t':Nat}{s x:Option D}{v u:Value}{d:Option D}{zr:St}(hI:Inv κ)(hs:∀ z,s=some z->RD κ z v)(hx:∀ z,x=some z->RD κ z u)
  (h:(zH (Dm c t s x) κ.st).leads (d,zr)):qA c.P (do Pure.pure (.value (<- Builtin.copy_ #[t,t'] ty #[v,u]))) κ d zr:=by
 unfold Dm at h
 split at h
 ·rename_i et het
  split at h
  ·rename_i k b qB k' off len z hu uU
   cases hk:decide (k'=k)with
   | false=>rw[hk]at h; exact absurd h ze
   | true =>
    rw[hk,cond_true]at h
    obtain rfl:k'=k:=of_decide_eq_true hk
    simp only[zH]at h
    obtain⟨y,h1,h2⟩:=T.zG.1 h
    split at h2
    ·rename_i l hl
     unfold NQ at h2
     split at h2
     ·rename_i jK e' sJ hb
      split at h2
      ·rename_i xs Wq
       obtain⟨he,hxx⟩:=qi (a:=.sl e') (b:=.sl (.int k')) Wq
       cases he
       obtain rfl:xs=sJ:=hxx
       obtain⟨⟨Yi,V8⟩,h2⟩:=h2
       cases h2
       subst Yi
       have Gb:=O4 hI (hx _ rfl) h1 hl
       obtain⟨a,cap,f,rfl,vc,hn,g1,g2⟩:=Gb.ex
       have hue:=uq het
       have Ol:(c.P.info? et).map (·.size)=some 1:=uU
       have hrd:=hs _ rfl
       cases hrd with
       | ms _ _ _ _ _ cap0 a0 Wv hcap0 Ya hsp0 hh =>
       have hm:=hh xs hb
       have WC:((List.take len l).map (Value.int k')).length=Nat.min l.length len:=by rw[List.length_map,List.length_take]; exact Nat.min_comm _ _
       have z2W:min len (List.length l)=Nat.min l.length len:=Nat.min_comm _ _
       by_cases h0:min len (List.length l)=0
       ·-- nothing goes over
        have vF:=run_copy_none (P:=c.P) κ.w t t' ty et a0 a len cap0 l.length cap hue Ol (by rw[<- z2W]; exact h0)
        have X4:kL off len xs l=xs:=by
         unfold kL
         have ht:List.take len l=[]:=List.eq_nil_of_length_eq_zero (by rw[List.length_take]; exact h0)
         rw[ht,h0,List.append_nil,Nat.add_zero,List.take_append_drop]
        have bj:κ.st.set b (.arr qB (.int k') (kL off len xs l))=κ.st:=by
         rw[X4]
         obtain⟨qy,hge⟩:=List.getElem?_eq_some_iff.1 hb
         rw[<- hge,List.set_getElem_self]
        rw[bj]
        refine⟨κ,.value (goInt 0),goInt 0,by simp[vF],.inl rfl,rfl,hI,Ext.refl κ,λd' kR => ?_⟩
        cases kR
        rw[h0]
        exact RD.int
       ·obtain⟨hle,hm⟩:=hm
        rcases hm with⟨hz,_⟩ | ⟨blk,n,o,zj6,hp,hv,Lv,Oh,hc3⟩
        ·omega
        ·cases hv
         have ho:o=off:=by
          rcases hc3 with h | h
          ·omega
          ·simpa[Ty.size]using h
         subst ho
         have hl0:l≠[]:=λh=>h0 (by rw[h]; simp)
         obtain⟨p,rfl⟩:∃ p,a=some p:=by
          cases a with
          | none=>grind
          | some p=>simp
         rcases g2 p rfl with⟨h,_⟩ | ⟨nN,_,hc⟩
         ·grind
         obtain⟨pb,po,psp⟩:=p
         simp only at nN
         subst nN
         obtain⟨_,PC⟩:=hI.blk b _ hb
         rcases PC with⟨_,hpn⟩ | ⟨iQ,n',TW,T,k1,k2,k3,k4,kr,g,k5⟩
         ·grind
         rw[hp]at k1
         cases k1
         have hn':List.length xs<=TW.size:=by rw[k3]; simpa[Ty.size]using k4
         have sd:∀ (i:Nat) (hi:i<List.length xs),TW[i]? = some (.int k' xs[i]):=by
          intro i hi
          obtain⟨q1,q2⟩:=k5 i hi
          have:=q2 0 (.int k' xs[i]) (by rw[q1.yk]; rfl)
          simpa[Ty.size]using this
         have zcL:((List.take len l).map (Value.int k')).length<=len:=by simp; omega
         have vF:=run_copy_row c.P κ.w t t' ty et blk o len cap0 ⟨pb,po,none⟩ l.length cap TW T ((List.take len l).map (Value.int k')) hue Ol k2 WC
          (λj w hj=>by
           have hj':j<(List.take len l).length:=by have:=(List.getElem?_eq_some_iff.1 hj).1; simpa using this
           have NA:j<l.length:=by simp at hj'; omega
           have e1:w=.int k' l[j]:=by
            grind
           have:=hc j NA 0 (.int k' l[j]) (by rw[(g1 j NA).yk]; rfl)
           have OJ:(⟨pb,po,none⟩:Addr).add j=⟨pb,po+j,none⟩:=by unfold Addr.add; split<;>simp_all
           rw[OJ,e1]
           simpa[Ty.size]using this)
          (by omega) (λw hw=>by obtain⟨_,_,rfl⟩:=List.mem_map.1 hw; rfl)
         have hlen:List.length (kL o len xs l)=List.length xs:=by
          simp only[kL,List.length_append,List.length_take,List.length_drop]
          omega
         have nB:Alike (.arr qB (.int k') xs) (.arr qB (.int k') (kL o len xs l)):=⟨rfl,Nat.le_refl _,λ_=>hlen.symm⟩
         let bZ:Array Value:=(TW.toList.take o++(List.take len l).map (Value.int k')++TW.toList.drop (o+((List.take len l).map (Value.int k')).length)).toArray
         have JJ:bZ.size=n:=by
          simp only[bZ,List.size_toArray,List.length_append,List.length_take,List.length_drop,Array.length_toList,List.length_map]at *
          omega
         have zaQ:∀ (i:Nat) (hi:i<List.length (kL o len xs l)),bZ[i]? = some (.int k' (kL o len xs l)[i]):=by
          intro i hi
          have h1:=tC (cs:=TW.toList) (us:=(List.take len l).map (Value.int k')) (o:=o) (n:=((List.take len l).map (Value.int k')).length) rfl (by simp; simp at zcL; omega) i
          have e1:bZ[i]? = (TW.toList.take o++(List.take len l).map (Value.int k')++TW.toList.drop (o+((List.take len l).map (Value.int k')).length))[i]? := by simp[bZ]
          have Hp:(List.map (Value.int k') (List.take len l)).length=min len (List.length l):=by simp
          rw[Hp]at h1 e1
          have e2:(kL o len xs l)[i]? = if i<o then xs[i]? else if i<o+min len (List.length l)then(List.take len l)[i-o]? else xs[i]? := by
           unfold kL
           have hto:(List.take o xs).length=o:=by simp; omega
           by_cases q1:i<o
           ·rw[if_pos q1,List.append_assoc,List.getElem?_append_left (by omega),List.getElem?_take,if_pos q1]
           ·rw[if_neg q1,List.append_assoc,List.getElem?_append_right (by omega),hto]
            by_cases q2:i<o+min len (List.length l)
            ·rw[if_pos q2,List.getElem?_append_left (by simp; omega)]
            ·rw[if_neg q2,List.getElem?_append_right (by simp; omega),List.getElem?_drop,List.length_take]
             congr 1; omega
          have e3:(kL o len xs l)[i]? = some (kL o len xs l)[i]:=List.getElem?_eq_getElem hi
          rw[e1,h1]
          rw[e2]at e3
          have hix:i<List.length xs:=by rw[<- hlen]; exact hi
          split
          ·rename_i q1
           rw[if_pos q1,List.getElem?_eq_getElem hix]at e3
           rw[Array.getElem?_toList,sd i hix,Option.some.inj e3]
          ·rename_i q1
           rw[if_neg q1]at e3
           split
           ·rename_i q2
            rw[if_pos q2]at e3
            rw[List.getElem?_map,e3]
            rfl
           ·rename_i q2
            rw[if_neg q2,List.getElem?_eq_getElem hix]at e3
            rw[Array.getElem?_toList,sd i hix,Option.some.inj e3]
         refine⟨κ.GV b blk bZ (.arr qB (.int k') (kL o len xs l)),.value (goInt (((List.take len l).map (Value.int k')).length:Nat)),goInt (((List.take len l).map (Value.int k')).length:Nat),(by rw[Sem.run_bind,vF]; rfl),.inl rfl,rfl,ZU hI hp hb nB ?_,ml hI hp hb nB,λd' kR => ?_⟩
         ·refine⟨by simp[Ty.size],.inr ⟨blk,n,bZ,T,hp,setRow_heap κ.w blk TW bZ T (0,0) k2,JJ,by simp[Ty.size]; omega,kr,λi=>[.int k' ((kL o len xs l).getD i 0)],λi hi => ?_⟩⟩
          have hg:(kL o len xs l).getD i 0=(kL o len xs l)[i]:=by simp[List.getD_eq_getElem?_getD,List.getElem?_eq_getElem hi]
          show Rc _ _ (.int k') _ [Value.int k' ((kL o len xs l).getD i 0)]/\∀ (j:Nat) (v:Value),[Value.int k' ((kL o len xs l).getD i 0)][j]? = some v->_
          rw[hg]
          refine⟨.int k' _,λj w hj => ?_⟩
          cases j with
          | zero =>
           simp at hj
           subst hj
           simpa[Ty.size]using zaQ i hi
          | succ j=>simp at hj
         ·cases kR
          rw[z2W,<- WC]
          exact RD.int
      ·exact h2.elim
     ·exact h2.elim
    ·exact h2.elim
  ·exact absurd h ze
 ·exact absurd h ze
end
end Go.AM
namespace Go.AM
set_option linter.unusedSectionVars false
variable [vU]
def uE(P:Program)(g:Nat)(args:Array Value)(w:World)(R:Ending->World->Prop):Prop :=
 ((callFunc g args).run P w=.ok (.enter g args) w/\Calls P g args w R)\/∃ v w',(callFunc g args).run P w=.ok (.value v) w'/\R (.returned v) w'
theorem uE.mono{P:Program}{g:Nat}{args:Array Value}{w:World}{R R':Ending->World->Prop}(h:uE P g args w R)(hr:∀ e w,R e w->R' e w):uE P g args w R':=by
 rcases h with⟨h1,h2⟩ | ⟨v,w',h1,h2⟩
 ·exact .inl ⟨h1,h2.mono hr⟩
 ·exact .inr ⟨v,w',h1,hr _ _ h2⟩
def wy(κ:KS):YH->Ending->Prop
 | .ret ds,e=>∃ v,e=.returned v/\RD κ (yn ds) v
 | .kM d,e=>∃ v,e=.panicked [{ v,recovered:=false }]/\RD κ d v
abbrev Pw:=Nat->Array Value->World->(Ending->World->Prop)->Prop
def zfD(Dr:Pw)(g:Nat)(S:List D->St->T (YH×St)):Prop :=
 ∀ (κ:KS) (args:List D) (zA:List Value) (rs:YH) (zr:St),(S args κ.st).leads (rs,zr)->Inv κ->qH κ args zA ->
  Dr g zA.toArray κ.w λe w'=>∃ κ':KS,κ'.w=w'/\κ'.st=zr/\Inv κ'/\Ext κ κ'/\wy κ' rs e
def GY(P:Program)(g:Nat)(S:List D->St->T (YH×St)):Prop :=
 ∀ (κ:KS) (args:List D) (zA:List Value) (rs:YH) (zr:St),(S args κ.st).leads (rs,zr)->Inv κ->qH κ args zA ->
  uE P g zA.toArray κ.w λe w'=>∃ κ':KS,κ'.w=w'/\κ'.st=zr/\Inv κ'/\Ext κ κ'/\wy κ' rs e
section
variable {c:Ctx} {κ:KS}
theorem RD.weaken{Xn:Nat->Prop}(hs:∀ k,κ.ok k->Xn k){d:D}{v:Value}(h:RD κ d v):RD { κ with ok:=Xn } d v:=by
 have X4:ED κ.w κ.w κ.ok Xn:=λk hk=>⟨hs k hk,rfl⟩
 induction h with
 | zI τ y cs h=>exact .zI τ y cs (h.mono X4)
 | xi e a=>exact .xi e a
 | tight e l ne blk off f vT wm h hc=>exact .tight e l ne blk off f vT (hs _ wm) (λi hi=>(h i hi).mono X4) hc
 | xy=>exact .xy
 | y9=>exact .y9
 | qX=>exact .qX
 | vW=>exact .vW
 | vX=>exact .vX
 | rZ v h=>exact .rZ v h
 | cj T=>exact .cj T
 | cq b T d hd=>exact .cq b T d hd
 | cE b T blk n d hd h=>exact .cE b T blk n d hd h
 | ptr b off blk n d hd h=>exact .ptr b off blk n d hd h
 | qU τ y cs blk off wm h hc=>exact .qU τ y cs blk off (hs _ wm) (h.mono X4) hc
 | uk b qB e idx off blk o hb h=>exact .uk b qB e idx off blk o hb h
 | ms b qB e off len cap a hb vc ha nN h=>exact .ms b qB e off len cap a hb vc ha nN h
 | qN f l vs hl h ih=>exact .qN f l vs hl ih
 | agg l vs hl ho h ih=>exact .agg l vs hl ho ih
 | yH l vs hl h ih=>exact .yH l vs hl ih
 | iface t d v h ih=>exact .iface t d v ih
theorem RD.free{κ':KS}(hw:κ'.w=κ.w)(wm:κ'.ok=κ.ok)(xM:κ.st=[]){d:D}{v:Value}(h:RD κ d v):RD κ' d v:=by
 obtain⟨w',Xn,ph',zr⟩:=κ'
 subst hw wm
 induction h with
 | zI τ y cs h=>exact .zI τ y cs h
 | xi e a=>exact .xi e a
 | tight e l ne blk off f vT wm h hc=>exact .tight e l ne blk off f vT wm h hc
 | xy=>exact .xy
 | y9=>exact .y9
 | qX=>exact .qX
 | vW=>exact .vW
 | vX=>exact .vX
 | rZ v h=>exact .rZ v h
 | cj T=>exact .cj T
 | cq b T d hd=>grind
 | cE b T blk n d hd h=>grind
 | ptr b off blk n d hd h=>grind
 | qU τ y cs blk off wm h hc=>exact .qU τ y cs blk off wm h hc
 | uk b qB e idx off blk o hb h=>rcases hb with hb | ⟨_,_,_,hb,_⟩ <;> · rw[xM]at hb; simp at hb
 | ms b qB e off len cap a hb vc ha nN h=>rcases hb with hb | ⟨_,_,_,hb,_⟩ <;> · rw[xM]at hb; simp at hb
 | qN f l vs hl h ih=>exact .qN f l vs hl ih
 | agg l vs hl ho h ih=>exact .agg l vs hl ho ih
 | yH l vs hl h ih=>exact .yH l vs hl ih
 | iface t d v h ih=>exact .iface t d v ih
theorem Rc.scalar{w w':World}{ok Xn:Nat->Prop}{τ:Ty}{x:den τ}{cs:List Value}(h:Rc w ok τ x cs)(ht:τ.scalar=true):Rc w' Xn τ x cs:=by
 induction h with
 | int k n=>exact .int k n
 | bool b=>exact .bool b
 | str s=>exact .str s
 | fG=>cases ht
 | sl=>cases ht
 | nil=>exact .nil
 | cons a b x y c1 c2 h1 h2 i1 i2=>simp only[Ty.scalar,Bool.and_eq_true]at ht; exact .cons a b x y c1 c2 (i1 ht.1) (i2 ht.2)
 | expr=>cases ht
theorem z5Z{e:Ty}{ys:List (den e)}{v:Value}(h:Src κ e ys v):Rc κ.w (NH κ) (.sl e) ys [v]:=by
 obtain⟨a,cap,f,rfl,vc,hn,h1,h2⟩:=h.ex
 cases a with
 | none=>obtain⟨rfl,rfl⟩:=hn rfl; exact .fG e none
 | some p =>
  rcases h2 p rfl with⟨rfl,rfl⟩ | ⟨hp,wm,hc⟩
  ·exact .fG e _
  obtain⟨blk,o,sp⟩:=p
  subst hp
  exact .sl e ys blk o cap f wm vc (λi hi=>(h1 i hi).mono λk hk=>⟨.inl hk,rfl⟩) hc
def KS.all(κ:KS):KS:={ κ with ok:=NH κ }
theorem RD.all{d:D}{v:Value}(h:RD κ d v):RD κ.all d v:=h.weaken λ_ hk=>.inl hk
theorem qH.all{l:List D}{vs:List Value}(h:qH κ l vs):qH κ.all l vs:=⟨h.1,λi h1 h2=>(h.2 i h1 h2).all⟩
theorem JT{x y:D}{v:Value}(hI:Inv κ)(hx:RD κ x v)(h:(mX κ.st x).leads y):RD κ.all y v/\(x.one=true->y.one=true)/\(x.uM=false->y.uM=false):=by
 rcases tn hI hx h with⟨rfl,_⟩ | ⟨e,ys,rfl,hs,_⟩
 ·exact⟨hx.all,id,id⟩
 ·exact⟨RD.mg rfl (z5Z hs),λ_=>rfl,λ_=>rfl⟩
theorem JU(hI:Inv κ):∀ {l r:List D} {vs:List Value},qH κ l vs->(∀ d∈l,d.one=true)->(K9 κ.st l).leads r->qH κ.all r vs/\∀ d∈r,d.one=true
 | [],r,vs,h,_,hs=>by cases hs; rw[h.qf]; exact⟨.nil,nofun⟩
 | d::l,r,vs,h,ho,hs=>by
  simp only[K9,T.zG]at hs
  obtain⟨x,hx,l',hl,rfl⟩:=hs
  obtain⟨v,us,rfl,h1,h2⟩:=h.cons_inv
  obtain⟨g1,g2,_⟩:=JT hI h1 hx
  obtain⟨k1,k2⟩:=JU hI h2 (λd hd=>ho d (List.mem_cons_of_mem _ hd)) hl
  refine⟨.cons g1 k1,λd hd => ?_⟩
  grind
theorem SN{x y:D}{v:Value}(hI:Inv κ)(hx:RD κ x v)(h:(snap κ.st x).leads y):RD κ.all y v:=by
 cases x with
 | agg l =>
  simp only[snap,T.zG]at h
  obtain⟨r,hr,rfl⟩:=h
  cases hx with
  | agg _ vs hl ho hh =>
   obtain⟨g1,g2⟩:=JU hI (⟨hl,hh⟩:qH κ l vs) ho hr
   exact .agg r vs g1.1 g2 g1.2
 | _=>exact(JT hI hx h).1
theorem Zl{τ:Ty}{d:D}{x:den τ}{v:Value}(hI:Inv κ)(hd:RD κ d v)(h:(Zk κ.st τ d).leads x):RD κ.all (.zI τ x) v:=by
 simp only[Zk,T.zG,T.ud]at h
 obtain⟨y,h1,h2⟩:=h
 exact bX (SN hI hd h1) h2
theorem Kc{x y:D}(h:(mX [] x).leads y):y=x:=by
 cases x with
 | ms=>simp[mX,T.leads]at h
 | _=>exact h.symm
theorem KM:∀ {l r:List D},(K9 [] l).leads r->r=l
 | [],_,h=>h.symm
 | d::l,r,h=>by
  simp only[K9,T.zG]at h
  obtain⟨x,hx,l',hl,rfl⟩:=h
  rw[Kc hx,KM hl]
theorem SD{x y:D}(h:(snap [] x).leads y):y=x:=by
 cases x with
 | agg l =>
  simp only[snap,T.zG]at h
  obtain⟨r,hr,rfl⟩:=h
  rw[KM hr]
 | _=>exact Kc h
theorem Bx{τ:Ty}{d:D}{x:den τ}{v:Value}(hd:RD κ d v)(h:(Zk [] τ d).leads x):RD κ (.zI τ x) v:=by
 simp only[Zk,T.zG,T.ud]at h
 obtain⟨y,h1,h2⟩:=h
 rw[SD h1]at h2
 exact bX hd h2
def Xt:D->Bool | .zI .. | .qU .. => true | _=>false
def Iw:D->Bool
 | .qN _ l=>l.all Xt
 | d=>Xt d
theorem z1b{d:D}(h:Xt d=true):Iw d=true:=by cases d<;>first | exact h | cases h
theorem Ue{st:St}{τ:Ty}{d y:D}(h:(mZ st τ d).leads y):Xt y=true:=by
 unfold mZ at h
 split at h
 ·split at h
  ·cases h; rfl
  ·exact h.elim
 ·split at h
  ·split at h
   ·cases h; rfl
   ·exact h.elim
  ·exact h.elim
 ·exact h.elim
theorem Kp{τ:Ty}{d y:D}{v:Value}(hI:Inv κ)(hd:RD κ d v)(h:(mZ κ.st τ d).leads y):RD κ.all y v:=by
 unfold mZ at h
 split at h
 ·split at h
  ·rename_i x z hz
   cases h
   obtain⟨e,rfl⟩:=qi hz
   cases e
   exact hd.all
  ·exact h.elim
 ·rename_i b off
  split at h
  ·rename_i d' hb
   split at h
   ·rename_i z hz
    cases h
    cases ho:Nat.beq off 0 with
    | false=>grind
    | true =>
     have:=Nat.eq_of_beq_eq_true ho
     subst this
     obtain⟨blk,n,cs,t,g1,g2,g3,g4,g5⟩:=hI.blk b _ hb
     cases hd with
     | ptr _ _ iQ n' d1 EB hp =>
      rw[g1]at hp
      cases hp
      have wm:NH κ blk:=.inr ⟨b,n,g1⟩
      have ht:d'.uM=false:=by
       cases d' with
       | yH l=>simp[eG,D.uM]at hz
       | _=>rfl
      have CC:=oj hz g4 g5.1 ht
      refine .qU τ z cs.toList blk 0 wm (CC.mono λk hk=>⟨.inl hk,rfl⟩) λj v hj => ?_
      show κ.w.cell? _=_
      rw[pT g2,Nat.zero_add]
      grind
   ·exact h.elim
  ·exact h.elim
 ·exact h.elim
theorem KK{τ:Ty}{d y:D}{v:Value}(hd:RD κ d v)(h:(mZ [] τ d).leads y):RD κ y v:=by
 unfold mZ at h
 split at h
 ·split at h
  ·rename_i x z hz
   cases h
   obtain⟨e,rfl⟩:=qi hz
   grind
  ·exact h.elim
 ·rename_i b off
  split at h
  ·grind
  ·exact h.elim
 ·exact h.elim
theorem GZ{st:St}{p:Qu}{d y:D}(h:(p7 st p d).leads y):Xt y=true:=by
 cases p with
 | rp τ=>exact Ue h
 | im τ=>simp only[p7,T.zG]at h; obtain⟨x,_,rfl⟩:=h; rfl
theorem Dz{p:Qu}{d y:D}{v:Value}(hI:Inv κ)(hd:RD κ d v)(h:(p7 κ.st p d).leads y):RD κ.all y v:=by
 cases p with
 | rp τ=>exact Kp hI hd h
 | im τ=>simp only[p7,T.zG]at h; obtain⟨x,hx,rfl⟩:=h; exact Zl hI hd hx
theorem CU{p:Qu}{d y:D}{v:Value}(hd:RD κ d v)(h:(p7 [] p d).leads y):RD κ y v:=by
 cases p with
 | rp τ=>exact KK hd h
 | im τ=>simp only[p7,T.zG]at h; obtain⟨x,hx,rfl⟩:=h; exact Bx hd hx
theorem Qd{st:St}:∀ {ps:List Qu} {ds r:List D},(bY st ps ds).leads r->∀ d∈r,Xt d=true
 | [],[],r,hs=>by cases hs; nofun
 | p::ps,d::ds,r,hs=>by
  simp only[bY,T.zG]at hs
  obtain⟨x,hx,l,hl,rfl⟩:=hs
  intro d' kR
  rcases List.mem_cons.1 kR with rfl | kR
  ·exact GZ hx
  ·exact Qd hl d' kR
 | [],_::_,_,hs=>hs.elim
 | _::_,[],_,hs=>hs.elim
theorem Xo(hI:Inv κ):∀ {ps:List Qu} {ds r:List D} {vs:List Value},qH κ ds vs->(bY κ.st ps ds).leads r->qH κ.all r vs
 | [],[],r,vs,h,hs=>by cases hs; rw[h.qf]; exact .nil
 | p::ps,d::ds,r,vs,h,hs=>by
  simp only[bY,T.zG]at hs
  obtain⟨x,hx,l,hl,rfl⟩:=hs
  obtain⟨v,us,rfl,h1,h2⟩:=h.cons_inv
  exact .cons (Dz hI h1 hx) (Xo hI h2 hl)
 | [],_::_,_,_,_,hs=>hs.elim
 | _::_,[],_,_,_,hs=>hs.elim
theorem XY:∀ {ps:List Qu} {ds r:List D} {vs:List Value},qH κ ds vs->(bY [] ps ds).leads r->qH κ r vs
 | [],[],r,vs,h,hs=>by cases hs; rw[h.qf]; exact .nil
 | p::ps,d::ds,r,vs,h,hs=>by
  simp only[bY,T.zG]at hs
  obtain⟨x,hx,l,hl,rfl⟩:=hs
  obtain⟨v,us,rfl,h1,h2⟩:=h.cons_inv
  exact .cons (CU h1 hx) (XY h2 hl)
 | [],_::_,_,_,_,hs=>hs.elim
 | _::_,[],_,_,_,hs=>hs.elim
theorem tv{st:St}{p:tI}{d y:D}(h:(Hm st p d).leads y):(∃ τ x,p=.ty τ/\(Zk st τ d).leads x/\y=.zI τ x)\/(∃ τ,p=.rp τ/\(mZ st τ d).leads y) \/
  ∃ f caps l l',p=.qN f caps/\d=.qN f l/\(bY st caps l).leads l'/\y=.qN f l':=by
 cases p with
 | ty τ =>
  have h':((Zk st τ d).bind λx=>T.ret (D.zI τ x)).leads y:=by cases d<;>exact h
  simp only[T.zG]at h'
  obtain⟨x,hx,rfl⟩:=h'
  grind
 | rp τ=>exact .inr (.inl ⟨τ,rfl,by cases d<;>exact h⟩)
 | qN f caps =>
  cases d with
  | qN f' l =>
   simp only[Hm]at h
   cases hb:Nat.beq f f' with
   | false=>rw[hb]at h; exact h.elim
   | true =>
    rw[hb,cond_true,T.zG]at h
    obtain⟨l',hl,rfl⟩:=h
    have:=Nat.eq_of_beq_eq_true hb
    grind
  | _=>exact h.elim
theorem Mx{st:St}{p:tI}{d y:D}(h:(Hm st p d).leads y):Iw y=true:=by
 rcases tv h with⟨τ,x,_,_,rfl⟩ | ⟨τ,_,h⟩ | ⟨f,caps,l,l',_,_,h',rfl⟩
 ·rfl
 ·exact z1b (Ue h)
 ·exact List.all_eq_true.2 (Qd h')
theorem SQ{p:tI}{d y:D}{v:Value}(hI:Inv κ)(hd:RD κ d v)(h:(Hm κ.st p d).leads y):RD κ.all y v:=by
 rcases tv h with⟨τ,x,_,hx,rfl⟩ | ⟨τ,_,h⟩ | ⟨f,caps,l,l',_,rfl,h',rfl⟩
 ·exact Zl hI hd hx
 ·exact Kp hI hd h
 ·cases hd with
  | qN _ _ vs hl hh =>
   have:=Xo hI (⟨hl,hh⟩:qH κ l vs) h'
   exact .qN f l' vs this.1 this.2
theorem T5{p:tI}{d y:D}{v:Value}(hd:RD κ d v)(h:(Hm [] p d).leads y):RD κ y v:=by
 rcases tv h with⟨τ,x,_,hx,rfl⟩ | ⟨τ,_,h⟩ | ⟨f,caps,l,l',_,rfl,h',rfl⟩
 ·exact Bx hd hx
 ·exact KK hd h
 ·cases hd with
  | qN _ _ vs hl hh =>
   have:=XY (⟨hl,hh⟩:qH κ l vs) h'
   exact .qN f l' vs this.1 this.2
theorem tA{st:St}:∀ {ps:List tI} {ds r:List D},(nc st ps ds).leads r->∀ d∈r,Iw d=true
 | [],[],r,hs=>by cases hs; nofun
 | p::ps,d::ds,r,hs=>by
  simp only[nc,T.zG]at hs
  obtain⟨x,hx,l,hl,rfl⟩:=hs
  intro d' kR
  rcases List.mem_cons.1 kR with rfl | kR
  ·exact Mx hx
  ·exact tA hl d' kR
 | [],_::_,_,hs=>hs.elim
 | _::_,[],_,hs=>hs.elim
theorem KX(hI:Inv κ):∀ {ps:List tI} {ds r:List D} {vs:List Value},qH κ ds vs->(nc κ.st ps ds).leads r->qH κ.all r vs
 | [],[],r,vs,h,hs=>by cases hs; rw[h.qf]; exact .nil
 | p::ps,d::ds,r,vs,h,hs=>by
  simp only[nc,T.zG]at hs
  obtain⟨x,hx,l,hl,rfl⟩:=hs
  obtain⟨v,us,rfl,h1,h2⟩:=h.cons_inv
  exact .cons (SQ hI h1 hx) (KX hI h2 hl)
 | [],_::_,_,_,_,hs=>hs.elim
 | _::_,[],_,_,_,hs=>hs.elim
theorem QI:∀ {ps:List tI} {ds r:List D} {vs:List Value},qH κ ds vs->(nc [] ps ds).leads r->qH κ r vs
 | [],[],r,vs,h,hs=>by cases hs; rw[h.qf]; exact .nil
 | p::ps,d::ds,r,vs,h,hs=>by
  simp only[nc,T.zG]at hs
  obtain⟨x,hx,l,hl,rfl⟩:=hs
  obtain⟨v,us,rfl,h1,h2⟩:=h.cons_inv
  exact .cons (T5 h1 hx) (QI h2 hl)
 | [],_::_,_,_,hs,h=>h.elim
 | _::_,[],_,_,hs,h=>h.elim
def KS.bare(κ:KS)(ok:Nat->Prop):KS:=⟨κ.w,ok,[],[]⟩
theorem V0{ok:Nat->Prop}(hI:Inv κ)(hs:∀ k,κ.ok k->ok k)(h:∀ k,ok k->k<κ.w.heap.size):Inv (κ.bare ok) :=
 ⟨rfl,h,λb blk n h=>by simp[KS.bare]at h,λb b' blk n n' h=>by nofun,λb x h=>by simp[KS.bare]at h,hI.gl.mono λk hk=>⟨hs k hk,rfl⟩⟩
theorem mI{ok:Nat->Prop}{d:D}{v:Value}(hi:Xt d=true)(h:RD { κ with ok:=ok } d v):RD (κ.bare ok) d v:=by
 cases d with
 | zI τ x=>obtain⟨cs,h1,rfl⟩:=RD.gn h; exact .zI τ x cs h1
 | qU τ x=>cases h with | qU _ _ cs blk off wm h hc=>exact .qU τ x cs blk off wm h hc
 | _=>cases hi
theorem Kg{ok:Nat->Prop}{d:D}{v:Value}(hi:Iw d=true)(h:RD { κ with ok:=ok } d v):RD (κ.bare ok) d v:=by
 cases d with
 | qN f l =>
  cases h with
  | qN _ _ vs hl hh=>exact .qN f l vs hl λi h1 h2=>mI (List.all_eq_true.1 hi _ (List.getElem_mem h1)) (hh i h1 h2)
 | zI τ x=>exact mI hi h
 | qU τ x=>exact mI hi h
 | _=>cases hi
theorem HO{κ1:KS}{ok:Nat->Prop}(hI:Inv κ)(Qs:Inv κ1)(xM:κ1.st=[])(hx:Ext (κ.bare ok) κ1)(Xn:Nat->Prop)(h1:∀ k,κ.ok k->Xn k)(h2:∀ k,Xn k->κ.ok k\/κ.w.heap.size<=k)(h3:∀ k,Xn k->k<κ1.w.heap.size) :
  Ext κ { κ with w:=κ1.w,ok:=Xn }/\Inv { κ with w:=κ1.w,ok:=Xn }:=by
 have hfr:∀ k,k<κ.w.heap.size->κ1.w.heap[k]? = κ.w.heap[k]? := λk hk=>hx.frame k hk λb n h=>by simp[KS.bare]at h
 have uU:κ.w.heap.size<=κ1.w.heap.size:=hx.size
 have he:Ext κ { κ with w:=κ1.w,ok:=Xn }:=⟨hx.os,hx.tape,hx.output,uU,λk hk=>⟨h1 k hk,hfr k (hI.yr k hk)⟩,λk hk=>(h2 k hk).elim .inl (λh=>.inr (.inl h)),λ_ _ _ h=>.inl h,λb d h=>⟨⟨d,h⟩,rfl⟩,
  λb v0 e xs h=>.inr ⟨v0,xs,h,Nat.le_refl _,λ_=>⟨rfl,rfl⟩⟩,λ_ h=>h,Nat.le_refl _,λk hk _=>hfr k hk⟩
 refine⟨he,hI.len,h3,λb blk n h => ?_,hI.inj,λb x h=>(hI.blk b x h).mono he rfl λblk n h=>hfr _ (hI.apart b blk n h).1,hI.gl.mono he.same⟩
 obtain⟨g1,g2⟩:=hI.apart b blk n h
 grind
theorem LA{g:Nat}{args:List D}{zA:List Value}{d:Option D}{zr:St}(hs:GY c.P g (c.fn g))(hI:Inv κ)(ha:qH κ args zA)
  (h:(zH (match c.sig g args with | some s=>gw c g s args | none=>pL c g args) κ.st).leads (d,zr)) :
  uE c.P g zA.toArray κ.w λe w'=>∃ (κ':KS) (v:Value),κ'.w=w'/\κ'.st=zr/\Inv κ'/\Ext κ κ'/\e=.returned v/\∀ d',d=some d'->RD κ' d' v:=by
 split at h
 ·rename_i s Lx
  unfold gw at h
  cases hm:(!(args.any Vk))with
  | true =>
   rw[hm,cond_true,wV]at h
   obtain⟨h,rfl⟩:=h
   simp only[T.zG]at h
   obtain⟨l,hl,⟨rs,hO⟩,hc,hr⟩:=h
   have bq:=QI ha hl
   have hb:qH (κ.bare κ.ok) l zA:=⟨bq.1,λi h1 h2=>Kg (tA hl _ (List.getElem_mem h1)) (bq.2 i h1 h2)⟩
   refine(hs (κ.bare κ.ok) l zA rs hO hc (V0 hI (λ_ h=>h) hI.yr) hb).mono ?_
   rintro e w' ⟨κ1,rfl,xM,Qs,hx,he⟩
   unfold PT at hr
   split at hr
   ·rename_i ds heq
    cases heq
    cases hr
    obtain⟨v,rfl,hv⟩:=he
    obtain⟨hE,TD⟩:=HO hI Qs xM hx κ1.ok (λk hk=>(hx.same k hk).1) (λk hk=>by
     rcases hx.fresh k hk with h | h | ⟨b,n,h⟩
     ·exact .inl h
     ·exact .inr h
     ·simp[KS.bare]at h) Qs.yr
    exact⟨{ κ with w:=κ1.w,ok:=κ1.ok },v,rfl,rfl,TD,hE,rfl,λd' kR=>by cases kR; exact RD.free (κ:=κ1) (κ':={ κ with w:=κ1.w,ok:=κ1.ok }) rfl rfl xM hv⟩
   ·exact hr.elim
  | false =>
   rw[hm,cond_false,lg]at h
   obtain⟨h,rfl⟩:=h
   simp only[T.zG]at h
   obtain⟨l,hl,⟨rs,hO⟩,hc,hr⟩:=h
   have bq:=KX hI ha hl
   have hb:qH (κ.bare (NH κ)) l zA:=⟨bq.1,λi h1 h2=>Kg (tA hl _ (List.getElem_mem h1)) (bq.2 i h1 h2)⟩
   have qy:∀ k,NH κ k->k<κ.w.heap.size:=by
    rintro k (hk | ⟨b,n,hk⟩)
    ·exact hI.yr k hk
    ·exact(hI.apart b k n hk).1
   refine(hs (κ.bare (NH κ)) l zA rs hO hc (V0 hI (λ_ h=>.inl h) qy) hb).mono ?_
   rintro e w' ⟨κ1,rfl,xM,Qs,hx,he⟩
   unfold pE at hr
   split at hr
   ·rename_i ds heq
    cases heq
    cases rO:ds.all rG with
    | false=>rw[rO]at hr; exact hr.elim
    | true =>
     rw[rO,cond_true]at hr
     cases hr
     obtain⟨v,rfl,hv⟩:=he
     obtain⟨hE,TD⟩:=HO hI Qs xM hx κ.ok (λk hk=>hk) (λk hk=>.inl hk) (λk hk=>Nat.lt_of_lt_of_le (hI.yr k hk) hx.size)
     refine⟨{ κ with w:=κ1.w,ok:=κ.ok },v,rfl,rfl,TD,hE,rfl,λd' kR => ?_⟩
     cases kR
     have one:∀ d u,rG d=true->RD κ1 d u->RD { κ with w:=κ1.w,ok:=κ.ok } d u:=by
      intro d u hd hu
      cases d<;>simp[rG]at hd
      obtain⟨cs,h1,rfl⟩:=RD.gn hu
      exact .zI _ _ cs (h1.scalar hd)
     have ZK:=List.all_eq_true.1 rO
     unfold yn at hv ⊢
     split at hv
     ·exact one _ _ (ZK _ (by simp)) hv
     ·rename_i vT
      cases hv with
      | yH _ vs hl hh=>exact .yH ds vs hl λi h1 h2=>one _ _ (ZK _ (List.getElem_mem h1)) (hh i h1 h2)
   ·exact hr.elim
 ·unfold pL at h
  simp only[zH,T.zG]at h
  obtain⟨⟨rs,hO⟩,hc,hr⟩:=h
  refine(hs κ args zA rs hO hc hI ha).mono ?_
  rintro e w' ⟨κ1,rfl,xM,Qs,hx,he⟩
  cases rs with
  | kM p=>exact hr.elim
  | ret ds =>
   cases hr
   obtain⟨v,rfl,hv⟩:=he
   exact⟨κ1,v,rfl,xM,Qs,hx,rfl,λd' kR=>by cases kR; exact hv⟩
end
end Go.AM