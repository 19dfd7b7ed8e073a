/-
  The abstract machine, part B: texts of our own, the same for each claim.
-/
import Derived.Test.YthhgaidlooddpaaGreatDoorAmA
import Derived.Lib.AppendStr
import Derived.WideLaws
import Derived.Laws.BytesArg
import Derived.Laws.CopyRow
import Derived.Laws.IdiomCopy
set_option linter.unusedVariables false
namespace Go.AM
set_option linter.unusedSectionVars false
variable [vi]
section
variable {c:Ctx} {κ κ':KS}
theorem gT.mono(x:Ext κ κ'){b:Nat}(hp:κ'.ph[b]? = κ.ph[b]?)(hh:∀ blk n,κ.ph[b]? = some (some (blk,n))->κ'.w.heap[blk]? = κ.w.heap[blk]?){y:jn}(h:gT κ b y):gT κ' b y:=by
 cases y with
 | dead=>trivial
 | var d =>
  obtain⟨blk,n,cs,t,h1,h2,h3,h4,h5⟩:=h
  exact⟨blk,n,cs,t,hp.trans h1,(hh blk n h1).trans h2,h3,h4.mono x,h5⟩
 | arr qh e xs =>
  obtain⟨h0,h⟩:=h
  refine⟨h0,hJ h (λh=>⟨h.1,hp.trans h.2⟩) ?_⟩
  rintro⟨blk,n,cs,t,h1,h2,h3,h4,hr,f,h5⟩
  exact⟨blk,n,cs,t,hp.trans h1,(hh blk n h1).trans h2,h3,h4,hr,f,λi hi=>⟨(h5 i hi).1.mono x.same,(h5 i hi).2⟩⟩
def KS.zx(κ:KS)(w':World):KS:={ κ with w:=w',ok:=λk=>κ.ok k\/k=κ.w.heap.size }
structure b6(w w':World)(o:Obj):Prop where
 os:w'.os=w.os
 tape:w'.tape=w.tape
 output:w'.output=w.output
 heap:w'.heap=w.heap.push o
theorem b6.size{w w':World}{o:Obj}(g:b6 w w' o):w'.heap.size=w.heap.size+1:=by rw[g.heap]; simp
theorem b6.old{w w':World}{o:Obj}(g:b6 w w' o){k:Nat}(h:k<w.heap.size):w'.heap[k]? = w.heap[k]? := by
 rw[g.heap,Array.getElem?_push,if_neg (by omega)]
theorem b6.new{w w':World}{o:Obj}(g:b6 w w' o):w'.heap[w.heap.size]? = some o:=by rw[g.heap]; simp
theorem b6.alloc(w:World)(o:Obj):b6 w (w.alloc o) o:=⟨rfl,rfl,rfl,rfl⟩
theorem b6.drew(w:World)(o:Obj):b6 w (w.drew.alloc o) o:=⟨rfl,rfl,rfl,rfl⟩
theorem sC{w':World}{o:Obj}(hI:Inv κ)(g:b6 κ.w w' o):Ext κ (κ.zx w'):=by
 refine⟨g.os,g.tape,g.output,by show κ.w.heap.size<=w'.heap.size; rw[g.size]; omega,λk hk=>⟨.inl hk,g.old (hI.jN k hk)⟩,?_,λ_ _ _ h=>.inl h,λb d h=>⟨⟨d,h⟩,rfl⟩,
  λb v0 e xs h=>.inr ⟨v0,xs,h,Nat.le_refl _,λ_=>⟨rfl,rfl⟩⟩,λ_ h=>h,Nat.le_refl _,λk hk _=>g.old hk⟩
 rintro k (hk | hk)
 ·grind
 ·grind
theorem y4{w':World}{o:Obj}(hI:Inv κ)(g:b6 κ.w w' o):Inv (κ.zx w'):=by
 refine⟨hI.len,?_,?_,hI.inj,?_,hI.gl.mono (sC hI g).same⟩
 ·rintro k (hk | hk)
  ·have:=hI.jN k hk; show k<w'.heap.size; rw[g.size]; omega
  ·show k<w'.heap.size; rw[g.size]; omega
 ·intro b blk n h
  obtain⟨h1,h2⟩:=hI.apart b blk n h
  refine⟨by show blk<w'.heap.size; rw[g.size]; omega,?_⟩
  rintro(hk | hk)
  ·exact h2 hk
  ·omega
 ·intro b x hx
  exact(hI.blk b x hx).mono (sC hI g) rfl λblk n h=>g.old (hI.apart b blk n h).1
def KS.add(κ:KS)(w':World)(n:Nat)(x:jn):KS:={ κ with w:=w',ph:=κ.ph++[some (κ.w.heap.size,n)],st:=κ.st++[x] }
theorem iP{w':World}{o:Obj}{n:Nat}{x:jn}(hI:Inv κ)(g:b6 κ.w w' o):Ext κ (κ.add w' n x):=by
 have xm:∀ b y,κ.st[b]? = some y->(κ.st++[x])[b]? = some y:=λb y h=>by rw[List.getElem?_append_left (List.getElem?_eq_some_iff.1 h).1]; exact h
 have X0:∀ b y,κ.st[b]? = some y->(κ.ph++[some (κ.w.heap.size,n)])[b]? = κ.ph[b]? := λb y h=>by
  rw[List.getElem?_append_left]; rw[hI.len]; exact(List.getElem?_eq_some_iff.1 h).1
 refine⟨g.os,g.tape,g.output,by show κ.w.heap.size<=w'.heap.size; rw[g.size]; omega,λk hk=>⟨hk,g.old (hI.jN k hk)⟩,λk hk=>.inl hk,?_,λb d h=>⟨⟨d,xm b _ h⟩,X0 b _ h⟩,
  λb v0 e xs h=>.inr ⟨v0,xs,xm b _ h,Nat.le_refl _,λ_=>⟨X0 b _ h,rfl⟩⟩,λb h=>xm b _ h,by simp[KS.add],λk hk _=>g.old hk⟩
 intro b blk m h
 simp only[KS.add]at h
 grind
theorem fX(hI:Inv κ){w':World}{n:Nat}{x:jn}:(κ.add w' n x).ph[κ.st.length]? = some (some (κ.w.heap.size,n)):=by
 simp[KS.add,<- hI.len]
theorem mU{w':World}{n:Nat}{x:jn}:(κ.add w' n x).st[κ.st.length]? = some x:=by simp[KS.add]
theorem ss{w':World}{o:Obj}{n:Nat}{x:jn}(hI:Inv κ)(g:b6 κ.w w' o)(hx:gT (κ.add w' n x) κ.st.length x):Inv (κ.add w' n x):=by
 have hold:∀ (b blk m:Nat),(κ.ph++[some (κ.w.heap.size,n)])[b]? = some (some (blk,m))->κ.ph[b]? = some (some (blk,m))\/(b=κ.ph.length/\blk=κ.w.heap.size):=by
  grind
 refine⟨by simp[KS.add,hI.len],?_,?_,?_,?_,hI.gl.mono (iP hI g).same⟩
 ·intro k hk; have:=hI.jN k hk; show k<w'.heap.size; rw[g.size]; omega
 ·intro b blk m h
  rcases hold b blk m h with h | ⟨rfl,rfl⟩
  ·obtain⟨h1,h2⟩:=hI.apart b blk m h
   exact⟨by show blk<w'.heap.size; rw[g.size]; omega,h2⟩
  ·exact⟨by show κ.w.heap.size<w'.heap.size; rw[g.size]; omega,λhk=>absurd (hI.jN _ hk) (Nat.lt_irrefl _)⟩
 ·intro b b' blk m m' h h'
  rcases hold b blk m h with h | ⟨rfl,rfl⟩<;>rcases hold b' _ m' h' with h' | ⟨rfl,h''⟩
  ·exact hI.inj b b' blk m m' h h'
  ·have:=(hI.apart b blk m h).1; omega
  ·have:=(hI.apart b' _ m' h').1; omega
  ·rfl
 ·intro b y hy
  simp only[KS.add]at hy
  by_cases hb:b<κ.st.length
  ·rw[List.getElem?_append_left hb]at hy
   refine(hI.blk b y hy).mono (iP hI g) ?_ λblk m h=>g.old (hI.apart b blk m h).1
   simp only[KS.add]
   rw[List.getElem?_append_left (by rw[hI.len]; exact hb)]
  ·grind
theorem Gs{d:D}{v:Value}{t:TypeId}(hI:Inv κ)(hd:RD κ d v)(ht:d.vS=false)(Gi:∀ T,d.typed=some T->t=T) :
  ∃ κ':KS,κ'.w=κ.w.alloc (.cells v.cells t)/\κ'.st=κ.st++[.var d]/\Inv κ'/\Ext κ κ'/\RD κ' (.ptr κ.st.length 0) (.pointer (some ⟨κ.w.heap.size,0,none⟩)):=by
 have g:=b6.alloc κ.w (.cells v.cells t)
 have hx:=iP (n:=v.cells.size) (x:=.var d) hI g
 refine⟨κ.add _ v.cells.size (.var d),rfl,rfl,ss hI g ?_,hx,.ptr _ 0 _ v.cells.size d mU (fX hI)⟩
 exact⟨κ.w.heap.size,v.cells.size,v.cells,t,fX hI,g.new,rfl,(uj hd ht).mono hx,ug hd,Gi⟩
theorem L0{t:Nat}{x:Option D}{v:Value}{d:Option D}{zl:St}(hI:Inv κ)(hx:∀ z,x=some z->RD κ z v)
  (h:(zr (Dt x) κ.st).leads (d,zl)) :
  qg c.P (do Pure.pure (.value (<- Instr.box t v))) κ d zl:=by
 cases x with
 | none=>exact absurd h ze
 | some y =>
  simp only[Dt]at h
  cases ht:y.vS||y.typed.isSome with
  | true=>rw[ht]at h; exact absurd h ze
  | false =>
   rw[ht,cond_false]at h
   simp at ht
   obtain⟨ht,Gi⟩:=ht
   have z5q:∀ T,y.typed=some T->t=T:=λT e=>by rw[e]at Gi; cases Gi
   obtain⟨rfl,rfl⟩:=h
   obtain⟨κ',h1,h2,h3,h4,h5⟩:=Gs (t:=t) hI (hx _ rfl) ht z5q
   refine⟨κ',_,_,?_,.inl rfl,h2,h3,h4,λ_ he=>by cases he; exact h5⟩
   simp[Instr.box,newVar,newRow,h1]
theorem PS{d:D}{τ:Ty}{x:den τ}{v:Value}{t:TypeId}(hI:Inv κ)(hd:RD κ d v)(hx:gX τ d=some x) :
  ∃ κ':KS,κ'.w=κ.w.alloc (.cells v.cells t)/\κ'.st=κ.st/\Inv κ'/\Ext κ κ'/\RD κ' (.qA τ x) (.pointer (some ⟨κ.w.heap.size,0,none⟩)):=by
 have g:=b6.alloc κ.w (.cells v.cells t)
 have JA:=sC hI g
 obtain⟨cs,h1,h2⟩:=RD.y4 (yD hd hx)
 have hc:=nJ h1.len h1.one
 have hn:(κ.w.alloc (.cells v.cells t)).heap[κ.w.heap.size]? = some (.cells v.cells t (0,0)):=g.new
 have lO:∀ j u,cs[j]? = some u->(κ.w.alloc (.cells v.cells t)).cell? ⟨κ.w.heap.size,0+j,none⟩=some u:=by
  simp
  grind
 exact⟨κ.zx _,rfl,rfl,y4 hI g,JA,.qA τ x cs κ.w.heap.size 0 (.inr rfl) (h1.mono JA.same) lO⟩
theorem KD{t:Nat}{x:Option D}{v:Value}{d:Option D}{zl:St}(hI:Inv κ)(hx:∀ z,x=some z->RD κ z v)
  (h:(zr (FM c t x) κ.st).leads (d,zl)):qg c.P (do Pure.pure (.value (<- Instr.box t v))) κ d zl:=by
 have key:∀ (y:D) (τ:Ty) (z:den τ),x=some y->gX τ y=some z->(zr (val (.qA τ z)) κ.st).leads (d,zl)->qg c.P (do Pure.pure (.value (<- Instr.box t v))) κ d zl:=by
  intro y τ z hy hz h
  obtain⟨rfl,rfl⟩:=h
  obtain⟨κ',h1,h2,h3,h4,h5⟩:=PS (t:=t) hI (hx y hy) hz
  refine⟨κ',_,_,?_,.inl rfl,h2,h3,h4,λ_ he=>by cases he; exact h5⟩
  simp[Instr.box,newVar,newRow,h1]
 unfold FM at h
 split at h
 ·rename_i τ z
  exact key _ τ z rfl (by simp[gX,we]) h
 ·split at h
  ·split at h
   ·grind
   ·exact absurd h ze
  ·exact absurd h ze
 ·exact absurd h ze
theorem KC{t:Nat}{dst:Option Nat}{x:Option D}{v:Value}{d:Option D}{zl:St}(hI:Inv κ)(hx:∀ z,x=some z->RD κ z v)
  (h:(zr (Ix c t dst x) κ.st).leads (d,zl)):qg c.P (do Pure.pure (.value (<- Instr.box t v))) κ d zl:=by
 unfold Ix at h
 cases hb:z0N c dst with
 | true=>rw[hb]at h; exact KD hI hx h
 | false=>rw[hb]at h; exact L0 hI hx h
theorem lj{v:Value}{d:D}(h:iv v=some d):RD κ d v/\d.one=true/\d.vS=false/\(∀ cs,v≠.agg cs):=by
 unfold iv at h
 split at h<;>cases h<;>refine⟨?_,rfl,rfl,λ_=>nofun⟩
 ·exact .int
 ·exact .bool
 ·rename_i s; have:=RD.str (κ:=κ) (s:=s.data.toList); simpa using this
 ·exact .qZ
 ·exact .jF
 ·exact .vj
 ·exact .qB
 ·exact .vf
theorem ZS{v:Value}{d:D}(h:ri v=some d):RD κ d v/\d.vS=false:=by
 unfold ri at h
 split at h
 ·rename_i cs
  split at h
  ·rename_i l hl
   cases h
   have fQ:∀ x∈l,x.one=true:=by
    intro x hx
    have:some x∈cs.toList.map iv:=by rw[gG hl]; exact List.mem_map.2 ⟨x,hx,rfl⟩
    obtain⟨u,_,hu⟩:=List.mem_map.1 this
    exact(lj (κ:=κ) hu).2.1
   have hr:=k9 (κ:=κ) (vs:=cs.toList) hl (by simp) (λi d v hd hv=>by
    simp only[List.getElem?_map,hv,Option.map_some,Option.some.injEq]at hd
    exact(lj hd).1)
   refine⟨?_,rfl⟩
   have:=RD.agg l cs.toList hr.1 fQ hr.2
   omega
  ·cases h
 ·exact⟨(lj h).1,(lj (κ:=κ) h).2.2.1⟩
theorem nE{v:Value}{d:D}(h:iv v=some d):(∀ l,d≠.agg l)/\(∀ T,d≠.yK T)/\∀ b T,d≠.jr b T:=by
 unfold iv at h
 grind
theorem VN{v:Value}{d:D}(h:ri v=some d):d.typed=none:=by
 unfold ri at h
 split at h
 ·rename_i cs
  split at h
  ·rename_i l hl
   cases h
   have hz:=gG hl
   cases l with
   | nil=>rfl
   | cons x r =>
    have:some x∈cs.toList.map iv:=by rw[hz]; simp
    obtain⟨u,_,hu⟩:=List.mem_map.1 this
    obtain⟨_,h1,h2⟩:=nE hu
    cases x<;>first | rfl | exact absurd rfl (h1 _) | exact absurd rfl (h2 _ _)
  ·cases h
 ·have:=(nE h).1
  cases d<;>first | rfl | exact absurd rfl (this _)
structure ZD(t:Nat)(d:D)(z:Value):Prop where
 rd:∀ κ:KS,RD κ d z
 jW:d.vS=false
 ty:∀ T,d.typed=some T->t=T
theorem FX{t:Nat}{d:D}{z:Value}(h:ri z=some d):ZD t (FA c t d) z:=by
 have h0:∀ κ:KS,RD κ d z:=λκ=>(ZS h).1
 have h1:d.vS=false:=(ZS (κ:=⟨default,λ_=>False,[],[]⟩) h).2
 have h2:=VN h
 have same:ZD t d z:=⟨h0,h1,λT e=>by grind⟩
 unfold FA
 split
 ·rename_i r
  cases hs:Pm c t with
  | false=>exact same
  | true =>
   refine⟨λκ => ?_,rfl,λT e=>by cases e; rfl⟩
   cases h0 κ with
   | agg _ vs hl ho hh =>
    have hR:qj κ (.jF::r) vs:=⟨hl,hh⟩
    obtain⟨v,us,rfl,g1,g2⟩:=hR.cons_inv
    have hR2:qj κ (.yK t::r) (v::us):=.cons (by cases g1; exact .yK t) g2
    exact .agg _ _ hR2.1 (λx hx=>by
     rcases List.mem_cons.1 hx with rfl | hx
     ·rfl
     ·exact ho x (List.mem_cons_of_mem _ hx)) hR2.2
 ·exact same
theorem gU{t:Nat}{d:D}(h:rF c t=some d):∃ i z,c.P.info? t=some i/\i.zero=some z/\ZD t d z:=by
 unfold rF at h
 split at h
 ·rename_i i hi
  split at h
  ·rename_i z hz
   split at h
   ·rename_i d0 L1
    cases h
    exact⟨i,z,hi,hz,FX L1⟩
   ·cases h
  ·cases h
 ·cases h
theorem YG{t:Nat}{d:Option D}{zl:St}(hI:Inv κ)
  (h:(zr (cX c t) κ.st).leads (d,zl)) :
  qg c.P (do Pure.pure (.value (<- Instr.alloc t true (.tuple #[])))) κ d zl:=by
 unfold cX at h
 split at h
 ·rename_i y hy
  obtain⟨i,z,h1,h2,h3⟩:=gU hy
  obtain⟨rfl,rfl⟩:=h
  obtain⟨κ',g1,g2,g3,g4,g5⟩:=Gs (t:=t) hI (h3.rd κ) h3.jW h3.ty
  refine⟨κ',_,_,?_,.inl rfl,g2,g3,g4,λ_ he=>by cases he; exact g5⟩
  simp[Instr.alloc,zeroValue,typeInfo,h1,h2,newVar,newRow,g1]
 ·exact absurd h ze
end
end Go.AM
namespace Go.AM
set_option linter.unusedSectionVars false
variable [vi]
section
variable {c:Ctx} {κ:KS}
def KS.VG(κ:KS)(b blk:Nat)(cs:Array Value)(x:jn):KS:={ κ with w:=κ.w.setRow blk cs,st:=κ.st.set b x }
def Alike:jn->jn->Prop
 | .var _,.var _=>True
 | .arr v e xs,.arr v' e' xs'=>e=e'/\v<=v'/\(v=v'->xs.length=xs'.length)
 | _,_=>False
theorem dq{b blk n:Nat}{cs:Array Value}{x y:jn}(hI:Inv κ)(hp:κ.ph[b]? = some (some (blk,n)))(hy:κ.st[b]? = some y)(ha:Alike y x):Ext κ (κ.VG b blk cs x):=by
 have qc:b<κ.st.length:=(List.getElem?_eq_some_iff.1 hy).1
 have vP:∀ k,κ.ok k->k≠blk:=λk hk e=>(hI.apart b blk n hp).2 (e▸hk)
 refine⟨rfl,rfl,rfl,by simp[KS.VG],λk hk=>⟨hk,setRow_other _ _ _ _ (vP k hk)⟩,λk hk=>.inl hk,λ_ _ _ h=>.inl h,?_,?_,?_,by simp[KS.VG],?_⟩
 ·intro b' d hd
  refine⟨?_,rfl⟩
  simp only[KS.VG,List.getElem?_set]
  split
  ·rename_i e
   subst e
   rw[hy]at hd; cases hd
   cases x<;>simp[Alike]at ha
   simp
  ·grind
 ·intro b' v0 e mc hd
  simp only[KS.VG,List.getElem?_set]
  split
  ·rename_i e'
   subst e'
   rw[hy]at hd; cases hd
   cases x<;>simp[Alike]at ha
   grind
  ·grind
 ·intro b' hd
  simp only[KS.VG,List.getElem?_set]
  split
  ·rename_i e
   subst e
   rw[hy]at hd; cases hd
   simp[Alike]at ha
  ·exact hd
 ·intro k hk hn
  exact setRow_other _ _ _ _ (λe=>hn b n (e▸hp))
theorem nu{b blk n:Nat}{cs:Array Value}{x y:jn}(hI:Inv κ)(hp:κ.ph[b]? = some (some (blk,n)))(hy:κ.st[b]? = some y)(ha:Alike y x)
  (hx:gT (κ.VG b blk cs x) b x):Inv (κ.VG b blk cs x):=by
 refine⟨by simp[KS.VG,hI.len],?_,?_,hI.inj,?_,hI.gl.mono (dq hI hp hy ha).same⟩
 ·intro k hk; show k<(κ.w.setRow blk cs).heap.size; rw[setRow_size]; exact hI.jN k hk
 ·intro b' cC m h
  obtain⟨h1,h2⟩:=hI.apart b' cC m h
  exact⟨by show cC<(κ.w.setRow blk cs).heap.size; rw[setRow_size]; exact h1,h2⟩
 ·intro b' z hz
  by_cases hb:b=b'
  ·subst hb
   simp only[KS.VG]at hz
   grind
  ·simp only[KS.VG,List.getElem?_set,if_neg hb]at hz
   refine(hI.blk b' z hz).mono (dq hI hp hy ha) rfl λcC m h => ?_
   refine setRow_other _ _ _ _ λe => ?_
   subst e
   exact hb (hI.inj b b' _ n m hp h)
theorem Wq{d d':D}{t:Nat}(h:dM d d'=true)(hd:∀ T,d.typed=some T->t=T):∀ T,d'.typed=some T->t=T:=by
 intro T hT
 unfold dM at h
 rw[hT]at h
 cases L1:d.typed with
 | none=>grind
 | some T' =>
  rw[L1]at h
  have e:=Nat.eq_of_beq_eq_true h
  grind
theorem eA{t:Nat}{n blk o:Nat}{v:Value}{cs:Array Value}{T:TypeId}(hn:bN c t=some n)(hv:v.cells.toList.length=n)(h1:∀ u∈v.cells.toList,u.oneCell'=true)
  (hg:κ.w.heap[blk]? = some (.cells cs T (0,0))) (hle:o+n<=cs.size) :
  (storeVar t ⟨blk,o,none⟩ v).run c.P κ.w=.ok () (κ.w.setRow blk (cs.toList.take o++v.cells.toList++cs.toList.drop (o+n)).toArray):=by
 have hs:v.cells.size=n:=by simpa using hv
 have:=run_storeCells_at c.P blk o T v.cells.toList 0 cs κ.w hg (by grind) h1
 simp[storeVar,run_sizeOf hn,hs,this]
theorem cj{l:List D}{vs us:List Value}{x:List D}(h:qj κ l vs)(hx:qj κ x us)(o n:Nat) :
  qj κ (l.take o++x++l.drop (o+n)) (vs.take o++us++vs.drop (o+n)):=((h.take o).append hx).append (h.drop (o+n))
theorem mo{cs us:List Value}{o n:Nat}(hu:us.length=n)(ho:o+n<=cs.length)(p:Nat) :
  (cs.take o++us++cs.drop (o+n))[p]? = if p<o then cs[p]? else if p<o+n then us[p-o]? else cs[p]? := by grind
theorem Xq{t:Nat}{d x r:D}{off:Nat}(h:Jg c t d off x=some r):∃ n,bN c t=some n/\0<n/\(zR x).length=n/\off+n<=(zR d).length /\
  zR r=(zR d).take off++zR x++(zR d).drop (off+n)/\((∀ y∈zR d,y.one=true)->(∀ y∈zR x,y.one=true)->∀ y∈zR r,y.one=true)/\x.vS=false:=by
 unfold Jg at h
 split at h
 ·cases h
 ·rename_i n hn
  cases hb:Nat.blt 0 n&&Nat.beq n (zR x).length&&Nat.ble (off+n) (zR d).length with
  | false=>grind
  | true =>
   rw[hb,cond_true]at h
   simp only[Bool.and_eq_true]at hb
   obtain⟨⟨h0,h1⟩,h2⟩:=hb
   have h0':0<n:=Nat.le_of_ble_eq_true h0
   have rX:n=(zR x).length:=Nat.eq_of_beq_eq_true h1
   have Pc:=Nat.le_of_ble_eq_true h2
   have VU:x.vS=false:=by
    cases x with
    | jW l=>simp[zR]at rX; omega
    | _=>rfl
   cases hw:Nat.beq n (zR d).length with
   | true =>
    have h3:n=(zR d).length:=Nat.eq_of_beq_eq_true hw
    have h4:off=0:=by omega
    subst h4
    grind
   | false =>
    rw[hw,cond_false]at h
    cases h
    refine⟨n,hn,h0',rX.symm,Pc,rfl,λhd hx y hy => ?_,VU⟩
    simp only[zR,List.mem_append]at hy
    rcases hy with(hy | hy) | hy
    ·exact hd y (List.mem_of_mem_take hy)
    ·exact hx y hy
    ·exact hd y (List.mem_of_mem_drop hy)
theorem fN{τ:Ty}{r:D}{x:den τ}{vs:List Value}(h:gX τ r=some x)(hr:qj κ (zR r) vs)(fQ:∀ y∈zR r,y.one=true)(ht:r.vS=false):Rc κ.w κ.ok τ x vs:=by
 cases r with
 | zx σ y=>obtain⟨rfl,rfl⟩:=zX h; exact sk _ _ hr
 | agg l =>
  have:=yD (RD.agg l vs hr.1 fQ hr.2) h
  obtain⟨cs,h1,h2⟩:=RD.y4 this
  have hc:=nJ h1.len h1.one
  simp only[Value.cells]at hc
  grind
 | jW l=>cases ht
 | _ =>
  obtain⟨v,r',rfl,h1,h2⟩:=qj.cons_inv hr
  have e2:=h2.zN
  subst e2
  have h3:=yD h1 h
  obtain⟨cs,h4,h5⟩:=RD.y4 h3
  have Eo:τ.isAgg=false:=by
   cases hta:τ.isAgg with
   | false=>rfl
   | true=>simp[gX,D.isAgg,hta]at h
  obtain⟨u,rfl⟩:=h4.single Eo
  rw[Zp Eo]at h5
  rwa [h5]
theorem Yq{t:Nat}{a x:Option D}{v u:Value}{d:Option D}{zl:St}(hI:Inv κ)(ha:∀ z,a=some z->RD κ z v)(hx:∀ z,x=some z->RD κ z u)
  (h:(zr (si c t a x) κ.st).leads (d,zl)):qg c.P (do Instr.storeAt t v u; Pure.pure .skip) κ d zl:=by
 unfold si at h
 split at h
 ·rename_i b off y
  simp only[zr]at h
  split at h
  ·rename_i d0 hb
   split at h
   ·rename_i r hr
    cases xO:dM d0 r with
    | false=>rw[xO]at h; exact h.elim
    | true =>
    rw[xO,cond_true]at h
    simp only[T.leads,Prod.mk.injEq]at h
    obtain⟨rfl,rfl⟩:=h
    obtain⟨n,hn,h0,J1,hle,Uy,fQ,VU⟩:=Xq hr
    cases ha _ rfl with
    | ptr _ _ blk m d1 hd hp =>
     obtain⟨cC,m',cs,T,g1,g2,g3,g4,g5⟩:=hI.blk b _ hb
     rw[hp]at g1
     cases g1
     have hy:=hx _ rfl
     have Mh:=uj hy VU
     have Pn:u.cells.toList.length=n:=by rw[<- Mh.1]; exact J1
     have vV:off+n<=cs.size:=by have:=g4.1; simp at this; omega
     have h1:∀ z∈u.cells.toList,z.oneCell'=true:=by
      intro z hz
      obtain⟨i,hi,rfl⟩:=List.getElem_of_mem hz
      exact(Mh.2 i (Mh.1▸hi) hi).sD (ug hy _ (List.getElem_mem _))
     have wO:=eA (c:=c) (κ:=κ) hn Pn h1 g2 vV
     have oh:Alike (.var d0) (.var r):=trivial
     let yB:=(cs.toList.take off++u.cells.toList++cs.toList.drop (off+n)).toArray
     have hex:=dq (cs:=yB) (x:=.var r) hI hp hb oh
     refine⟨κ.VG b blk yB (.var r),.skip,undef,?_,.inr ⟨rfl,rfl⟩,rfl,nu hI hp hb oh ?_,hex,λ_ he=>by cases he⟩
     ·simp only[Sem.run_bind,Instr.storeAt,Instr.sureAddr,Sem.run_pure,Result.andThen_ok,wO]; rfl
     ·refine⟨blk,m,yB,T,hp,setRow_heap _ _ _ _ _ _ g2,?_,?_,fQ g5.1 (ug hy),Wq xO g5.2⟩
      ·grind
      ·rw[Uy]; exact(cj g4 Mh off n).mono hex
   ·exact h.elim
  ·exact h.elim
 ·rename_i b qh e idx off y
  simp only[zr]at h
  split at h
  ·rename_i uO e' xs hb
   cases he:decide (e'=e)with
   | false=>rw[he]at h; exact h.elim
   | true =>
    rw[he,cond_true]at h
    have Eb:e'=e:=of_decide_eq_true he
    subst Eb
    obtain⟨⟨rfl,qc⟩,h⟩:=h
    split at h
    ·rename_i r hr
     split at h
     ·rename_i z hz
      simp only[T.leads,Prod.mk.injEq]at h
      obtain⟨rfl,rfl⟩:=h
      obtain⟨n,hn,h0,J1,hle,Uy,fQ,VU⟩:=Xq hr
      cases ha _ rfl with
      | vD _ _ _ _ _ blk o hold hp =>
       obtain⟨m,p1,rfl⟩:=hp xs hb qc
       obtain⟨vV,⟨ZL,_⟩ | ⟨cC,n',cs,T,g1,g2,g3,g4,gr,f,g5⟩⟩:=hI.blk b _ hb
       ·grind
       ·rw[p1]at g1
        cases g1
        rw[sz qc]at hr Uy hle fQ
        have hy:=hx _ rfl
        have Mh:=uj hy VU
        have Pn:u.cells.toList.length=n:=by rw[<- Mh.1]; exact J1
        obtain⟨k1,k2⟩:=g5 idx qc
        have UQ:=k1.len
        have Q8:off+n<=e'.size:=by simpa[zR,ni]using hle
        have z7Q:idx*e'.size+e'.size<=xs.length*e'.size:=by rw[<- Nat.succ_mul]; exact Nat.mul_le_mul_right _ qc
        have CH:idx*e'.size+off+n<=cs.size:=by omega
        have h1:∀ z∈u.cells.toList,z.oneCell'=true:=by
         intro z hz
         obtain⟨i,hi,rfl⟩:=List.getElem_of_mem hz
         exact(Mh.2 i (Mh.1▸hi) hi).sD (ug hy _ (List.getElem_mem _))
        have wO:=eA (c:=c) (κ:=κ) hn Pn h1 g2 CH
        have oh:Alike (.arr qh e' xs) (.arr qh e' (xs.set idx z)):=⟨rfl,Nat.le_refl _,λ_=>by simp⟩
        let yB:=(cs.toList.take (idx*e'.size+off)++u.cells.toList++cs.toList.drop (idx*e'.size+off+n)).toArray
        have hex:=dq (cs:=yB) (x:=.arr qh e' (xs.set idx z)) hI p1 hb oh
        refine⟨κ.VG b blk yB (.arr qh e' (xs.set idx z)),.skip,undef,?_,.inr ⟨rfl,rfl⟩,rfl,nu hI p1 hb oh ?_,hex,λ_ he=>by cases he⟩
        ·simp only[Sem.run_bind,Instr.storeAt,Instr.sureAddr,Sem.run_pure,Result.andThen_ok,wO]; rfl
        ·have hlen:yB.size=cs.size:=by simp[yB,Pn]; omega
         refine⟨vV,.inr ⟨blk,m,yB,T,p1,setRow_heap _ _ _ _ _ _ g2,by rw[hlen]; exact g3,by simpa using g4,?_⟩⟩
         -- cells of the element that is written
         let fi:=(f idx).take off++u.cells.toList++(f idx).drop (off+n)
         have z3Z:qj κ (zR r) fi:=by
          rw[Uy]
          exact cj (fu k1) Mh off n
         have hrt:r.vS=false:=by
          cases r with
          | jW l =>
           have h6:=congrArg List.length Uy
           rw[List.length_append,List.length_append,J1]at h6
           have h7:(zR (D.jW l)).length=0:=rfl
           omega
          | _=>rfl
         have K1:=fN hz z3Z (fQ (bf _ _) (ug hy)) hrt
         have Qk:∀ p,yB[p]? = if p<idx*e'.size+off then cs[p]? else if p<idx*e'.size+off+n then u.cells.toList[p-(idx*e'.size+off)]? else cs[p]? := by
          intro p
          have:=mo (cs:=cs.toList) (us:=u.cells.toList) Pn (by simpa using CH) p
          simpa only[yB,List.getElem?_toArray,Array.getElem?_toList]using this
         have z6x:∀ j,fi[j]? = if j<off then(f idx)[j]? else if j<off+n then u.cells.toList[j-off]? else(f idx)[j]? := λj=>mo Pn (by omega) j
         refine⟨gr,λi=>if i=idx then fi else f i,λi hi => ?_⟩
         rw[List.length_set]at hi
         by_cases hii:i=idx
         ·subst hii
          simp only[if_true,List.getElem_set_self]
          refine⟨K1.mono hex.same,λj w hj => ?_⟩
          rw[z6x]at hj
          rw[Qk]
          split at hj
          ·rw[if_pos (by omega)]; exact k2 j w hj
          ·split at hj
           ·rw[if_neg (by omega),if_pos (by omega)]; rw[<- hj]; congr 1; omega
           ·rw[if_neg (by omega),if_neg (by omega)]; exact k2 j w hj
         ·simp only[if_neg hii]
          obtain⟨q1,q2⟩:=g5 i hi
          refine⟨by rw[List.getElem_set_ne (λe=>hii e.symm)]; exact q1.mono hex.same,λj w hj => ?_⟩
          have Dg:j<e'.size:=by rw[<- q1.len]; exact(List.getElem?_eq_some_iff.1 hj).1
          rw[Qk]
          rcases Nat.lt_or_gt_of_ne hii with Qa | hgt'
          ·have:i*e'.size+e'.size<=idx*e'.size:=by rw[<- Nat.succ_mul]; exact Nat.mul_le_mul_right _ Qa
           rw[if_pos (by omega)]; exact q2 j w hj
          ·have:idx*e'.size+e'.size<=i*e'.size:=by rw[<- Nat.succ_mul]; exact Nat.mul_le_mul_right _ hgt'
           rw[if_neg (by omega),if_neg (by omega)]; exact q2 j w hj
     ·exact h.elim
    ·exact h.elim
  ·exact h.elim
 ·exact absurd h ze
end
end Go.AM
namespace Go.AM
set_option linter.unusedSectionVars false
variable [vi]
section
variable {c:Ctx} {κ:KS}
theorem ry:∀ (vs:List Value) (cells:Array Value) (off k:Nat),off+k+vs.length<=cells.size ->
  ((vs.zipIdx k).foldl (λ(cs:Array Value) (p:Value×Nat)=>cs.setIfInBounds (off+p.2) p.1) cells).toList=cells.toList.take (off+k)++vs++cells.toList.drop (off+k+vs.length)
 | [],cells,off,k,_=>by simp
 | v::vs,cells,off,k,h=>by
  simp only[List.length_cons]at h
  simp only[List.zipIdx_cons,List.foldl_cons]
  rw[ry vs _ off (k+1) (by simp; omega)]
  have qc:off+k<cells.toList.length:=by simp; omega
  simp only[Array.toList_setIfInBounds,List.length_cons]
  have e1:(cells.toList.set (off+k) v).take (off+(k+1))=cells.toList.take (off+k)++[v]:=by
   rw[show off+(k+1)=off+k+1 by omega,List.take_succ_eq_append_getElem (by simpa using qc)]
   rw[List.take_set_of_le (Nat.le_refl _)]
   simp
  have e2:(cells.toList.set (off+k) v).drop (off+(k+1)+vs.length)=cells.toList.drop (off+k+(vs.length+1)):=by
   rw[List.drop_set_of_lt (by omega)]
   grind
  grind
theorem U1{place:Nat->Option (Nat×Nat)}{cells:Array Value}{i off size:Nat}{v:Value}{rest:List (Nat×Value)}(hp:place i=some (off,size))(hs:v.cells.toList.length=size)(hle:off+size<=cells.size) :
  Instr.fill place cells ((i,v)::rest)=Instr.fill place (cells.toList.take off++v.cells.toList++cells.toList.drop (off+size)).toArray rest:=by
 have hs':v.cells.size=size:=by simpa using hs
 have hf:=ry v.cells.toList cells off 0 (by grind)
 simp only[hs]at hf
 conv=>lhs; unfold Instr.fill
 simp only[hp]
 rw[if_neg (by grind)]
 congr 1
 apply Array.ext'
 rw[<- Array.foldl_toList,Array.toList_zipIdx]
 exact hf
theorem Xv{e:Ty}{x:den e}{v:Value}(h:RD κ (.zx e x) v):Rc κ.w κ.ok e x v.cells.toList:=by
 obtain⟨cs,h1,rfl⟩:=RD.y4 h
 rw[nJ h1.len h1.one]; exact h1
theorem XQ{e:Ty}{F:Operand->Option D}{G:Operand->Value}(hF:∀ x d,F x=some d->RD κ d (G x)):∀ (L:List (Nat×Operand)) (k:Nat) (cells:Array Value) (l:List (den e)),
  Xh e k (L.map λp=>(p.1,F p.2))=some l->(k+L.length)*e.size<=cells.size ->
  ∃ bn,Instr.fill (λi=>some (i*e.size,e.size)) cells (L.map λp=>(p.1,G p.2))=some bn/\bn.size=cells.size/\(∀ p,p<k*e.size->bn[p]? = cells[p]?)/\l.length=L.length /\
   ∃ f:Nat->List Value,∀ i (hi:i<l.length),Rc κ.w κ.ok e l[i] (f i)/\∀ j v,(f i)[j]? = some v->bn[(k+i)*e.size+j]? = some v
 | [],k,cells,l,h,_=>by
  simp only[List.map_nil,Xh,Option.some.injEq]at h
  subst h
  exact⟨cells,rfl,rfl,λ_ _=>rfl,rfl,λ_=>[],λi hi=>absurd hi (Nat.not_lt_zero i)⟩
 | (i,x)::L,k,cells,l,h,hle=>by
  simp only[List.map_cons]at h
  cases hx:F x with
  | none=>rw[hx]at h; simp[Xh]at h
  | some d =>
   rw[hx]at h
   simp only[Xh]at h
   cases hb:Nat.beq k i with
   | false=>grind
   | true =>
    have hik:k=i:=Nat.eq_of_beq_eq_true hb
    subst hik
    rw[hb,cond_true]at h
    split at h
    ·rename_i y l' hy Lu
     cases h
     have hr:=Xv (yD (hF x d hx) hy)
     have hlen:=hr.len
     simp only[List.length_cons]at hle
     have hk1:(k+(L.length+1))*e.size=k*e.size+e.size+L.length*e.size:=by rw[Nat.add_mul,Nat.add_mul]; omega
     have lO:k*e.size+e.size<=cells.size:=by omega
     let c1:=(cells.toList.take (k*e.size)++(G x).cells.toList++cells.toList.drop (k*e.size+e.size)).toArray
     have CD:c1.size=cells.size:=by simp only[c1,List.size_toArray,List.length_append,List.length_take,List.length_drop,hlen,Array.length_toList]; omega
     have hg:∀ p,c1[p]? = if p<k*e.size then cells[p]? else if p<k*e.size+e.size then(G x).cells.toList[p-k*e.size]? else cells[p]? := by
      grind
     obtain⟨bn,h1,h2,h3,h4,f,h5⟩:=XQ hF L (k+1) c1 l' Lu (by rw[CD,show k+1+L.length=k+(L.length+1) by omega]; exact hle)
     refine⟨bn,?_,h2.trans CD,?_,by simp[h4],λi=>match i with | 0=>(G x).cells.toList | i+1=>f i,?_⟩
     ·simp only[List.map_cons]
      rw[U1 rfl hlen lO]
      exact h1
     ·grind
     ·intro i hi
      cases i with
      | zero =>
       grind
      | succ i =>
       have:=h5 i (by simpa using hi)
       rw[show k+1+i=k+(i+1) by omega]at this
       exact this
    ·cases h
theorem iw{t n:Nat}(h:dQ c t=some n):∃ i,c.P.info? t=some i/\i.bytes=n:=by
 unfold dQ at h
 cases hi:c.P.info? t with
 | none=>grind
 | some i=>grind
theorem bJ{et:Nat}{e:Ty}{z:den e}(h:zeroOf c et e=some z):∃ i v,c.P.info? et=some i/\i.zero=some v/\Rc κ.w κ.ok e z v.cells.toList:=by
 unfold zeroOf at h
 split at h
 ·rename_i d hd
  obtain⟨i,v,h1,h2,h3⟩:=gU hd
  exact⟨i,v,h1,h2,Xv (yD (h3.rd κ) h)⟩
 ·cases h
theorem sa{t n:Nat}{L:List (Nat×Operand)}{F:Operand->Option D}{G:Operand->Value}{d:Option D}{zl:St}(hI:Inv κ)(hF:∀ x d,F x=some d->RD κ d (G x))
  (h:(zr (dE c t n (L.map λp=>(p.1,F p.2))) κ.st).leads (d,zl)) :
  qg c.P (do Pure.pure (.value (<- Instr.buildSlice t n (L.map λp=>(p.1,G p.2)).toArray))) κ d zl:=by
 unfold dE at h
 split at h
 ·exact absurd h ze
 ·rename_i et het
  have hu:=vB het
  split at h
  ·rename_i e Gi
   cases hb:ja c et e&&Nat.beq n (L.map λp=>(p.1,F p.2)).length&&Nat.ble n 1000&&Nat.ble e.size 100&&(zeroOf c et e).isSome with
   | false=>rw[hb]at h; exact absurd h ze
   | true =>
    rw[hb,cond_true]at h
    simp only[Bool.and_eq_true]at hb
    obtain⟨⟨⟨⟨xO,hn⟩,h1⟩,h2⟩,h3⟩:=hb
    have SE:n=L.length:=by have:=Nat.eq_of_beq_eq_true hn; simpa using this
    have rX:=Nat.le_of_ble_eq_true h1
    have Pc:=Nat.le_of_ble_eq_true h2
    obtain⟨hs,_⟩:=wJ xO
    obtain⟨z,hz⟩:=Option.isSome_iff_exists.1 h3
    obtain⟨i,zv,Y7,X4,hi3⟩:=bJ (κ:=κ) hz
    split at h
    ·rename_i l hl
     cases DT:Nat.beq n 0&&Nat.blt 0 e.size with
     | true =>
     rw[DT,cond_true]at h
     simp only[Bool.and_eq_true]at DT
     obtain⟨DT,vV⟩:=DT
     have CH:0<e.size:=Nat.le_of_ble_eq_true vV
     have Dc:=Nat.eq_of_beq_eq_true DT
     have hL:L=[]:=List.eq_nil_of_length_eq_zero (SE.symm.trans Dc)
     subst hL
     subst Dc
     simp only[zr,T.leads,Prod.mk.injEq]at h
     obtain⟨rfl,rfl⟩:=h
     have g:=b6.alloc κ.w (.cells #[] et)
     have hex:=iP (n:=0) (x:=.arr 0 e ([]:List (den e))) hI g
     have wO:(Instr.buildSlice t 0 (([]:List (Nat×Operand)).map λp=>(p.1,G p.2)).toArray).run c.P κ.w=.ok (.slice (some ⟨κ.w.heap.size,0,none⟩) 0 0) (κ.w.alloc (.cells #[] et)):=by
      simp[Instr.buildSlice,Sem.run_bind,run_underlying hu,Result.andThen_ok,run_sizeOf hs,Instr.fill,newRow]
      grind
     refine⟨κ.add _ 0 (.arr 0 e []),_,.slice (some ⟨κ.w.heap.size,0,none⟩) 0 0,by simp only[Sem.run_bind,wO,Result.andThen_ok]; rfl,.inl rfl,rfl,ss hI g ?_,hex,?_⟩
     ·exact⟨CH,.inr ⟨κ.w.heap.size,0,#[],et,fX hI,g.new,rfl,by simp,nh xO,λ_=>[],λi hi=>absurd hi (Nat.not_lt_zero i)⟩⟩
     ·intro d' jR
      cases jR
      refine .ms _ 0 e 0 0 0 _ (.inr ⟨0,e,_,mU,Nat.le_refl _⟩) (by omega) nofun (λp hp=>by cases hp; rfl) λxs XI => ?_
      rw[mU]at XI
      cases XI
      exact⟨by simp,.inr ⟨κ.w.heap.size,0,0,0,fX hI,rfl,by omega,by simp,.inl rfl⟩⟩
     | false =>
     rw[DT,cond_false,uT]at h
     obtain⟨rfl,rfl⟩:=h
     subst SE
     have hle:L.length*e.size<=100000:=Nat.le_trans (Nat.mul_le_mul rX Pc) (by decide)
     have M9:zv.cells.size=e.size:=by have:=hi3.len; simpa using this
     let cells:Array Value:=(Array.range (L.length*e.size)).map ((if L.length*e.size=0 then #[]else zv.cells)[· % (if L.length*e.size=0 then #[]else zv.cells).size]!)
     have pj:cells.size=L.length*e.size:=by simp[cells]
     obtain⟨bn,g1,g2,_,g4,f,g5⟩:=XQ hF L 0 cells l hl (by rw[pj]; simp)
     have g:=b6.alloc κ.w (.cells bn et)
     have hex:=sC hI g
     refine⟨κ.zx _,_,.slice (some ⟨κ.w.heap.size,0,none⟩) L.length L.length,?_,.inl rfl,rfl,y4 hI g,hex,?_⟩
     ·have Ux:Instr.fill (λi=>some (i*e.size,e.size)) cells (L.map λp=>(p.1,G p.2))=some bn:=g1
      simp only[cells]at Ux
      simp only[Instr.buildSlice,Sem.run_bind,run_underlying hu,Result.andThen_ok,run_sizeOf hs,gt_iff_lt,if_neg (show ¬ 2 ^ 24<L.length*e.size by omega)]
      by_cases h0:L.length*e.size=0
      ·simp only[if_pos h0]at Ux ⊢
       simp only[Sem.run_bind,Sem.run_pure,Result.andThen_ok,Ux]
       rfl
      ·simp only[if_neg h0]at Ux ⊢
       simp only[Sem.run_bind,Sem.run_pure,Result.andThen_ok,zeroValue,typeInfo,run_program,Y7,X4,Ux]
       rfl
     ·intro d' jR
      cases jR
      have lO:∀ i,i<l.length->∀ j v,(f i)[j]? = some v->(κ.zx (κ.w.alloc (.cells bn et))).w.cell? ⟨κ.w.heap.size,0+i*e.size+j,none⟩=some v:=by
       intro i hi j v hj
       have:=(g5 i hi).2 j v hj
       simp only[Nat.zero_add]at this ⊢
       rw[l8 (κ:=κ.zx (κ.w.alloc (.cells bn et))) g.new]
       exact this
      rw[<- g4]
      refine .tight e l _ κ.w.heap.size 0 f ?_ (.inr rfl) (λi hi=>(g5 i hi).1.mono hex.same) lO
      intro vP ZL
      subst ZL
      simp at g4
      simp[<- g4]at vP
    ·exact absurd h ze
  ·exact absurd h ze
end
end Go.AM
namespace Go.AM
set_option linter.unusedSectionVars false
variable [vi]
section
variable {c:Ctx} {κ:KS}
theorem Cz{t:Nat}{x y:Option D}{v u:Value}{d:Option D}{zl:St}(hI:Inv κ)(hx:∀ z,x=some z->RD κ z v)(hy:∀ z,y=some z->RD κ z u)
  (h:(zr (Ky c t x y) κ.st).leads (d,zl)):qg c.P (do Pure.pure (.value (<- Instr.makeSlice t v u))) κ d zl:=by
 unfold Ky at h
 split at h
 ·rename_i et k n k' m het hn hm
  have hu:=vB het
  have:=vo hn hx
  subst this
  have:=vo hm hy
  subst this
  split at h
  ·rename_i e bytes Gi K2
   split at h
   ·rename_i z hz
    cases hb:ja c et e&&Nat.blt 0 e.size with
    | false=>rw[hb]at h; exact absurd h ze
    | true =>
     rw[hb,cond_true]at h
     simp only[Bool.and_eq_true]at hb
     obtain⟨xO,vV⟩:=hb
     have CH:0<e.size:=Nat.le_of_ble_eq_true vV
     obtain⟨hs,_⟩:=wJ xO
     simp only[zr,T.leads,Prod.mk.injEq]at h
     obtain⟨⟨h0,h1,h2,h3⟩,rfl,rfl⟩:=h
     obtain⟨i,zv,Y7,X4,hi3⟩:=bJ (κ:=κ) hz
     obtain⟨ib,z2u,z4d⟩:=iw K2
     obtain⟨i',z0C,z8I⟩:=bj hs
     rw[Y7]at z2u z0C
     cases z2u
     cases z0C
     have M9:zv.cells.size=e.size:=by have:=hi3.len; simpa using this
     let N:=m.toNat*e.size
     let cells:Array Value:=(Array.range N).map (zv.cells[· % zv.cells.size]!)
     have pj:cells.size=N:=by simp[cells]
     have wO:(Instr.makeSlice t (.int k n) (.int k' m)).run c.P κ.w=.ok (.slice (some ⟨κ.w.heap.size,0,none⟩) n.toNat m.toNat) (κ.w.alloc (.cells cells et)):=by
      have w1:IntKind.i64.wrap n=n:=IntWalk.i64_in _ (by omega)
      have w2:IntKind.i64.wrap m=m:=IntWalk.i64_in _ (by omega)
      have hmb:¬ ((2:Int) ^ 48<bytes*m):=by
       grind
      have ai:∀ k n w,(Go.asInt (.int k n)).run c.P w=.ok n w:=λk n w=>by simp[Go.asInt,asIntOf]
      have hm0:¬ (m<0):=by omega
      have Dc:¬ (n<0):=by omega
      have SK:¬ (m<n):=by omega
      simp only[Instr.makeSlice,Sem.run_bind,run_underlying hu,Result.andThen_ok,ai,typeInfo,run_program,Y7,z4d,w1,w2,Sem.run_pure,gt_iff_lt,hm0,Dc,SK,hmb,decide_false,Bool.or_self,Bool.false_eq_true,if_false,run_askRoom,run_sizeOf hs]
      by_cases DT:m.toNat*e.size=0
      ·have hce:cells = #[]:=Array.eq_empty_of_size_eq_zero (by rw[pj]; exact DT)
       have e2:∀ g:Nat->Value,(Array.range (m.toNat*e.size)).map g = #[]:=λg=>by rw[DT]; simp
       simp only[if_pos DT,Sem.run_bind,Sem.run_pure,Result.andThen_ok,newRow,run_newObj,e2]
       rw[hce]
       rfl
      ·simp only[if_neg DT,Sem.run_bind,Sem.run_pure,Result.andThen_ok,newRow,run_newObj,zeroValue,typeInfo,run_program,Y7,X4]
       rfl
     have g:=b6.alloc κ.w (.cells cells et)
     have hex:=iP (n:=N) (x:=.arr n.toNat e (List.replicate n.toNat z)) hI g
     refine⟨κ.add _ N (.arr n.toNat e (List.replicate n.toNat z)),_,.slice (some ⟨κ.w.heap.size,0,none⟩) n.toNat m.toNat,by simp only[Sem.run_bind,wO,Result.andThen_ok]; rfl,.inl rfl,rfl,ss hI g ?_,hex,?_⟩
     ·refine⟨CH,.inr ⟨κ.w.heap.size,N,cells,et,fX hI,g.new,pj,?_,nh xO,λ_=>zv.cells.toList,λi hi => ?_⟩⟩
      ·rw[List.length_replicate]; exact Nat.mul_le_mul_right _ (by omega)
      ·rw[List.length_replicate]at hi
       refine⟨by rw[List.getElem_replicate]; exact hi3.mono hex.same,λj w hj => ?_⟩
       have Dg:j<e.size:=by rw[<- hi3.len]; exact(List.getElem?_eq_some_iff.1 hj).1
       have qc:i*e.size+j<N:=by
        have:i*e.size+e.size<=N:=by rw[<- Nat.succ_mul]; exact Nat.mul_le_mul_right _ (by omega)
        omega
       have Rp:(i*e.size+j) % e.size=j:=by rw[Nat.mul_comm,Nat.mul_add_mod,Nat.mod_eq_of_lt Dg]
       grind
     ·intro d' jR
      cases jR
      refine .ms _ n.toNat e 0 n.toNat m.toNat _ (.inr ⟨n.toNat,e,_,mU,Nat.le_refl _⟩) (by omega) nofun (λp hp=>by cases hp; rfl) λxs XI => ?_
      rw[mU]at XI
      cases XI
      refine⟨by simp,.inr ⟨κ.w.heap.size,N,0,m.toNat,fX hI,rfl,by omega,by simp[N],.inr (by simp)⟩⟩
   ·exact absurd h ze
  ·exact absurd h ze
 ·exact absurd h ze
end
end Go.AM
namespace Go.AM
set_option linter.unusedSectionVars false
variable [vi]
section
variable {c:Ctx} {κ:KS}
def jl(f:Nat->List Value):Nat->List Value
 | 0=>[]
 | n+1=>jl f n++f n
theorem vM{f:Nat->List Value}{s:Nat}:∀ {n:Nat},(∀ i,i<n->(f i).length=s)->(jl f n).length=n*s
 | 0,_=>by simp[jl]
 | n+1,h=>by rw[jl,List.length_append,vM (λi hi=>h i (by omega)),h n (by omega),Nat.add_mul]; omega
theorem iQ{f:Nat->List Value}{s:Nat}:∀ {n:Nat},(∀ i,i<n->(f i).length=s)->∀ i j,i<n->j<s->(jl f n)[i*s+j]? = (f i)[j]?
 | 0,_,i,_,hi,_=>absurd hi (Nat.not_lt_zero i)
 | n+1,h,i,j,hi,hj=>by
  have hl:=vM (f:=f) (n:=n) (λi hi=>h i (by omega))
  rw[jl]
  by_cases tb:i<n
  ·have:i*s+s<=n*s:=by rw[<- Nat.succ_mul]; exact Nat.mul_le_mul_right _ tb
   rw[List.getElem?_append_left (by omega)]
   exact iQ (λi hi=>h i (by omega)) i j tb hj
  ·grind
theorem XZ{f:Nat->List Value}:∀ {n:Nat},(∀ i,i<n->∀ v∈f i,v.oneCell'=true)->∀ v∈jl f n,v.oneCell'=true
 | 0,_,v,hv=>by simp[jl]at hv
 | n+1,h,v,hv=>by
  rw[jl,List.mem_append]at hv
  rcases hv with hv | hv
  ·exact XZ (λi hi=>h i (by omega)) v hv
  ·grind
theorem Jp{f:Nat->List Value}{s:Nat}{n p:Nat}{v:Value}(hs:0<s)(h:∀ i,i<n->(f i).length=s)(hp:(jl f n)[p]? = some v):∃ i j,i<n/\j<s/\p=i*s+j/\(f i)[j]? = some v:=by
 have qc:=(List.getElem?_eq_some_iff.1 hp).1
 rw[vM h]at qc
 have hi:p / s<n:=(Nat.div_lt_iff_lt_mul hs).2 qc
 have hj:=Nat.mod_lt p hs
 have he:p / s*s+p % s=p:=Nat.div_add_mod' p s
 refine⟨p / s,p % s,hi,hj,he.symm,?_⟩
 rw[<- iQ h _ _ hi hj,he]; exact hp
def Dd(κ:KS):Nat->Prop:=λk=>κ.ok k\/∃ b n:Nat,κ.ph[b]? = some (some (k,n))
structure Src(κ:KS)(e:Ty)(ys:List (den e))(v:Value):Prop where
 ex:∃ (a:Option Addr) (cap:Nat) (f:Nat->List Value),v=.slice a ys.length cap/\ys.length<=cap/\(a=none->ys=[]/\cap=0)/\(∀ i (hi:i<ys.length),Rc κ.w κ.ok e ys[i] (f i)) /\
  ∀ p,a=some p->(ys=[]/\cap=0)\/(p.spot=none/\Dd κ p.block/\∀ i,i<ys.length->∀ j u,(f i)[j]? = some u->κ.w.cell? ⟨p.block,p.off+i*e.size+j,none⟩=some u)
theorem GO{e:Ty}{ys:List (den e)}{v:Value}(h:RD κ (.zx (.sl e) ys) v):Src κ e ys v:=by
 rcases(h.wF rfl).p7 with⟨rfl,a0,he⟩ | ⟨blk,off,cap,f,he,xO,wD,h1,h2⟩
 ·cases he; exact⟨⟨a0,0,λ_=>[],rfl,Nat.le_refl _,λ_=>⟨rfl,rfl⟩,λi hi=>absurd hi (Nat.not_lt_zero i),λ_ _=>.inl ⟨rfl,rfl⟩⟩⟩
 ·cases he; exact⟨⟨some ⟨blk,off,none⟩,cap,f,rfl,wD,nofun,h1,λp hp=>by cases hp; exact .inr ⟨rfl,.inl xO,h2⟩⟩⟩
theorem iY{e:Ty}{ys:List (den e)}{ne:Bool}{v:Value}(h:RD κ (.tight e ys ne) v):Src κ e ys v:=by
 cases h with
 | qL _ a0=>exact⟨⟨a0,0,λ_=>[],rfl,Nat.le_refl _,λ_=>⟨rfl,rfl⟩,λi hi=>absurd hi (Nat.not_lt_zero i),λ_ _=>.inl ⟨rfl,rfl⟩⟩⟩
 | tight _ _ _ blk off f vP xO h1 h2=>exact⟨⟨some ⟨blk,off,none⟩,_,f,rfl,Nat.le_refl _,nofun,h1,λp hp=>by cases hp; exact .inr ⟨rfl,.inl xO,h2⟩⟩⟩
theorem sE{e:Ty}{v:Value}(h:RD κ .qZ v):Src κ e [] v:=by
 cases h; exact⟨⟨none,0,λ_=>[],rfl,Nat.le_refl _,λ_=>⟨rfl,rfl⟩,λi hi=>absurd hi (Nat.not_lt_zero i),nofun⟩⟩
theorem K9{b qh off len:Nat}{e:Ty}{xs:List (den e)}{v:Value}(hI:Inv κ)(h:RD κ (.ms b qh e off len) v)(hb:κ.st[b]? = some (.arr qh e xs)):Src κ e ((xs.take (off+len)).drop off) v/\off+len<=xs.length:=by
 cases h with
 | ms _ _ _ _ _ cap a hold wD ha fI hm =>
  obtain⟨hle,hm⟩:=hm xs hb
  have hl:((xs.take (off+len)).drop off).length=len:=by simp; omega
  have hg:∀ i (hi:i<((xs.take (off+len)).drop off).length),∃ h:off+i<xs.length,((xs.take (off+len)).drop off)[i]=xs[off+i]:=λi hi=>⟨by omega,by simp[List.getElem_drop,List.getElem_take]⟩
  refine⟨?_,hle⟩
  rcases hm with⟨rfl,rfl,hv,hp⟩ | ⟨blk,n,o,Kf,h3,h4,h5,h6,h7⟩
  ·cases hv
   have:(xs.take (0+0)).drop 0=[]:=by simp
   rw[this]
   exact⟨⟨none,0,λ_=>[],rfl,Nat.le_refl _,λ_=>⟨rfl,rfl⟩,λi hi=>absurd hi (Nat.not_lt_zero i),nofun⟩⟩
  ·cases h4
   obtain⟨vV,⟨ZL,_⟩ | ⟨cC,n',cs,T,g1,g2,g3,g4,gr,f,g5⟩⟩:=hI.blk b _ hb
   ·grind
   ·rw[h3]at g1
    cases g1
    refine⟨⟨some ⟨blk,o,none⟩,cap,λi=>f (off+i),by rw[hl],by rw[hl]; exact wD,nofun,λi hi => ?_,λp hp => ?_⟩⟩
    ·grind
    ·cases hp
     refine .inr ⟨rfl,.inr ⟨b,n,h3⟩,λi hi j u hj => ?_⟩
     obtain⟨k1,_⟩:=hg i hi
     have:=(g5 _ k1).2 j u hj
     rw[l8 g2]
     rcases h7 with h7 | h7
     ·omega
     ·rw[h7,<- Nat.add_mul]; exact this
theorem p8{e:Ty}{ys:List (den e)}{v:Value}(h:Src κ e ys v)(vV:0<e.size):∃ (news:List Value) (f:Nat->List Value),news=jl f ys.length/\(∀ i (hi:i<ys.length),Rc κ.w κ.ok e ys[i] (f i)) /\
  (∀ P,(Builtin.lenOf v).run P κ.w=.ok ys.length κ.w)/\(∀ P,(Builtin.firstCells e.size ys.length v).run P κ.w=.ok news.toArray κ.w)/\(∀ P,(Builtin.firstCells e.size ys.length v).run P κ.w.drew=.ok news.toArray κ.w.drew):=by
 obtain⟨a,cap,f,rfl,_,hn,h1,h2⟩:=h.ex
 have hf:∀ i,i<ys.length->(f i).length=e.size:=λi hi=>(h1 i hi).len
 refine⟨jl f ys.length,f,rfl,h1,λP=>rfl,λP => ?_,λP => ?_⟩
 all_goals
  cases a with
  | none=>have:=(hn rfl).1; subst this; simp[Builtin.firstCells,jl]
  | some p =>
   rcases h2 p rfl with⟨rfl,_⟩ | ⟨hp,_,hc⟩
   ·simp[Builtin.firstCells,jl,loadCells,loadCellsFrom]
   obtain⟨blk,o,sp⟩:=p
   subst hp
   refine run_firstCells_some (P:=P) _ e.size ys.length ⟨blk,o,none⟩ ys.length cap (jl f ys.length) (vM hf) λj u hj => ?_
   obtain⟨i,k,hi,hk,rfl,hu⟩:=Jp vV hf hj
   rw[wY]
   try rw[World.cell?_drew]
   grind
structure Tz(κ:KS)(e:Ty)(ys:List (den e))(v:Value):Prop where
 ex:∃ (news:List Value) (f:Nat->List Value),news=jl f ys.length/\(∀ i (hi:i<ys.length),Rc κ.w κ.ok e ys[i] (f i)) /\
  (∀ P,(Builtin.lenOf v).run P κ.w=.ok ys.length κ.w)/\(∀ P,(Builtin.firstCells e.size ys.length v).run P κ.w=.ok news.toArray κ.w)/\(∀ P,(Builtin.firstCells e.size ys.length v).run P κ.w.drew=.ok news.toArray κ.w.drew)
theorem LW{e:Ty}{ys:List (den e)}{v:Value}(h:Src κ e ys v)(vV:0<e.size):Tz κ e ys v:=⟨p8 h vV⟩
def FV(c:Ctx)(t2:TypeId):Prop:=(∃ e,c.P.underlying t2=some (.slice e))\/c.P.underlying t2=some .string
section run
variable {t t2 e:TypeId} {i:TypeInfo} {z:Value} {sLen sCap n:Nat} {base:Option Addr} {x:Value} {news olds:List Value} {ty:TypeId}
theorem run_append_fits(ht:c.P.underlying t=some (.slice e))(Xg:FV c t2)(hi:c.P.info? e=some i)(hlen:∀ P,(Builtin.lenOf x).run P κ.w=.ok n κ.w)(hf:∀ P,(Builtin.firstCells i.size n x).run P κ.w=.ok news.toArray κ.w)
  (ez:sLen+n<=sCap) {w':World} (xm:(match base with | some a=>storeCells (a.add (sLen*i.size)) news | none=>pure ()).run c.P κ.w=.ok () w') :
  (Builtin.append_ #[t,t2] ty #[.slice base sLen sCap,x]).run c.P κ.w=.ok (.slice base (sLen+n) sCap) w':=by
 rcases Xg with⟨e2,Xg⟩ | Xg
 all_goals cases base with
 | none=>simp at xm; subst xm; simp[Builtin.append_,run_underlying ht,run_underlying Xg,sizeOf,typeInfo,hi,hlen,ez,hf]
 | some a=>simp only at xm; simp[Builtin.append_,run_underlying ht,run_underlying Xg,sizeOf,typeInfo,hi,hlen,ez,hf,xm]
theorem fG(ht:c.P.underlying t=some (.slice e))(Xg:FV c t2)(hi:c.P.info? e=some i)(hz:i.zero=some z)(hlen:∀ P,(Builtin.lenOf x).run P κ.w=.ok n κ.w)(hf:∀ P,(Builtin.firstCells i.size n x).run P κ.w.drew=.ok news.toArray κ.w.drew)
  (ho:∀ P,(Builtin.firstCells i.size sLen (.slice base sLen sCap)).run P κ.w.drew=.ok olds.toArray κ.w.drew)
  (hg:sCap<sLen+n) (h63:((sLen+n:Nat):Int)<=9223372036854775807) (hb:(sLen+n)*i.bytes<=140737488355328) :
  (Builtin.append_ #[t,t2] ty #[.slice base sLen sCap,x]).run c.P κ.w=.ok (.slice (some ⟨κ.w.heap.size,0,none⟩) (sLen+n) (grownCap κ.w (sLen+n) sCap e))
   (κ.w.drew.alloc (.cells (olds.toArray++news.toArray++Builtin.zeroCells z.cells (grownCap κ.w (sLen+n) sCap e-(sLen+n))) e)):=by
 have h1:¬ (sLen+n<=sCap):=by omega
 have h2:¬ (9223372036854775807<((sLen+n:Nat):Int)):=by omega
 have h3:=growslice_fits (bytes:=i.bytes) hg hb
 have h4:¬ (281474976710656<Builtin.nextslicecap (sLen+n) sCap*i.bytes):=by omega
 have h5:IntKind.i64.max=9223372036854775807:=by decide
 rcases Xg with⟨e2,Xg⟩ | Xg
 all_goals
  simp[Builtin.append_,run_underlying ht,run_underlying Xg,sizeOf,typeInfo,zeroValue,hi,hz,hlen,hf,ho,Question.forced,newRow,grownCap]
  grind
end run
theorem ff(z:Array Value)(n:Nat):(Builtin.zeroCells z n).size=n*z.size:=by simp[Builtin.zeroCells]
theorem Z3{e:Ty}{l ys:List (den e)}{f g:Nat->List Value}(hl:∀ i (hi:i<l.length),Rc κ.w κ.ok e l[i] (f i))(hy:∀ i (hi:i<ys.length),Rc κ.w κ.ok e ys[i] (g i))(zs:List Value) :
  ∀ i (hi:i<(l++ys).length),Rc κ.w κ.ok e (l++ys)[i] (if i<l.length then f i else g (i-l.length)) /\
   ∀ j v,(if i<l.length then f i else g (i-l.length))[j]? = some v->(jl f l.length++jl g ys.length++zs)[i*e.size+j]? = some v:=by
 have J1:∀ i,i<l.length->(f i).length=e.size:=λi hi=>(hl i hi).len
 have Pq:∀ i,i<ys.length->(g i).length=e.size:=λi hi=>(hy i hi).len
 have h1:=vM J1
 have h2:=vM Pq
 intro i hi
 by_cases D3:i<l.length
 ·simp only[if_pos D3]
  refine⟨by grind,λj v hj => ?_⟩
  have Dg:j<e.size:=by rw[<- J1 i D3]; exact(List.getElem?_eq_some_iff.1 hj).1
  have:i*e.size+e.size<=l.length*e.size:=by rw[<- Nat.succ_mul]; exact Nat.mul_le_mul_right _ D3
  rw[List.append_assoc,List.getElem?_append_left (by omega),iQ J1 i j D3 Dg]
  exact hj
 ·simp only[if_neg D3]
  simp only[List.length_append]at hi
  have PY:i-l.length<ys.length:=by omega
  refine⟨by grind,λj v hj => ?_⟩
  have Dg:j<e.size:=by rw[<- Pq _ PY]; exact(List.getElem?_eq_some_iff.1 hj).1
  have e1:i*e.size=l.length*e.size+(i-l.length)*e.size:=by rw[<- Nat.add_mul]; congr 1; omega
  have:(i-l.length)*e.size+e.size<=ys.length*e.size:=by rw[<- Nat.succ_mul]; exact Nat.mul_le_mul_right _ PY
  rw[List.append_assoc,List.getElem?_append_right (by omega),h1,List.getElem?_append_left (by omega)]
  rw[show i*e.size+j-l.length*e.size=(i-l.length)*e.size+j by omega,iQ Pq _ j PY Dg]
  exact hj
theorem G3{t t2 et:Nat}{e:Ty}{l ys:List (den e)}{sv v:Value}{bytes:Nat}{ty:Nat}(hI:Inv κ)(hu:c.P.underlying t=some (.slice et))(DU:FV c t2)(xO:ja c et e=true)(vV:0<e.size)(K2:dQ c et=some bytes)(hz:∃ y,zeroOf c et e=some y)
  (hs:Src κ e l sv) (wD:∃ a,sv=.slice a l.length l.length) (hv:Tz κ e ys v) (vP:ys≠[]) (hb:(l.length+ys.length)*bytes<=140737488355328) (hn:l.length+ys.length<=9223372036854775807) :
  ∃ (κ':KS) (r:Value),(Builtin.append_ #[t,t2] ty #[sv,v]).run c.P κ.w=.ok r κ'.w/\κ'.st=κ.st++[.arr (l.length+ys.length) e (l++ys)]/\Inv κ'/\Ext κ κ'/\RD κ' (.ms κ.st.length (l.length+ys.length) e 0 (l.length+ys.length)) r:=by
 obtain⟨Mn,_⟩:=wJ xO
 obtain⟨i,Y7,X4⟩:=bj Mn
 obtain⟨y,hy⟩:=hz
 obtain⟨i',zv,g1,g2,g3⟩:=bJ (κ:=κ) hy
 obtain⟨i'',k1,k2⟩:=iw K2
 rw[Y7]at g1 k1
 cases g1
 cases k1
 obtain⟨olds,f,I2,Lp,ho3,ho4,ho5⟩:=p8 hs vV
 obtain⟨news,g,J5,VL,Rn,hn4,hn5⟩:=hv.ex
 obtain⟨a,MF⟩:=wD
 subst MF
 have oa:0<ys.length:=List.length_pos_iff.2 vP
 have wO:=fG (c:=c) (κ:=κ) (t:=t) (t2:=t2) (e:=et) (ty:=ty) (base:=a) (sLen:=l.length) (sCap:=l.length) (n:=ys.length) (x:=v) (news:=news) (olds:=olds) hu DU Y7 g2 Rn
  (by intro P; rw[X4]; exact hn5 P) (by intro P; rw[X4]; exact ho5 P) (by omega) (by omega) (by rw[k2]; exact hb)
 let C:=grownCap κ.w (l.length+ys.length) l.length et
 have hC:l.length+ys.length<=C:=grownCap_ge _ _ _ _
 let zs:=Builtin.zeroCells zv.cells (C-(l.length+ys.length))
 let cells:=olds.toArray++news.toArray++zs
 have M9:zs.size=(C-(l.length+ys.length))*e.size:=by have:=g3.len; simp only[Array.length_toList]at this; simp[zs,ff,this]
 have hol:olds.length=l.length*e.size:=by rw[I2]; exact vM λi hi=>(Lp i hi).len
 have G1:news.length=ys.length*e.size:=by rw[J5]; exact vM λi hi=>(VL i hi).len
 have pj:cells.size=C*e.size:=by
  simp only[cells,Array.size_append,List.size_toArray,hol,G1,M9,<- Nat.add_mul]
  grind
 have gr:=b6.drew κ.w (.cells cells et)
 have hex:=iP (n:=cells.size) (x:=.arr (l.length+ys.length) e (l++ys)) hI gr
 refine⟨κ.add _ cells.size (.arr (l.length+ys.length) e (l++ys)),_,wO,rfl,ss hI gr ?_,hex,?_⟩
 ·refine⟨vV,.inr ⟨κ.w.heap.size,cells.size,cells,et,fX hI,gr.new,rfl,?_,nh xO,λi=>if i<l.length then f i else g (i-l.length),λi hi => ?_⟩⟩
  ·rw[pj,List.length_append]; exact Nat.mul_le_mul_right _ hC
  ·obtain⟨q1,q2⟩:=Z3 Lp VL zs.toList i hi
   refine⟨q1.mono hex.same,λj v hj => ?_⟩
   grind
 ·refine .ms _ (l.length+ys.length) e 0 _ C _ (.inr ⟨l.length+ys.length,e,_,mU,Nat.le_refl _⟩) hC nofun (λp hp=>by cases hp; rfl) λxs XI => ?_
  rw[mU]at XI
  cases XI
  exact⟨by simp,.inr ⟨κ.w.heap.size,cells.size,0,C,fX hI,rfl,hC,by rw[pj]; simp,.inr (by simp)⟩⟩
def KS.re(κ:KS)(w':World)(b n:Nat)(x:jn):KS:={ κ with w:=w',ph:=κ.ph.set b (some (κ.w.heap.size,n)),st:=κ.st.set b x }
theorem KA{w':World}{o:Obj}{b n v0 v1:Nat}{e:Ty}{xs ys:List (den e)}(hI:Inv κ)(g:b6 κ.w w' o)(hb:κ.st[b]? = some (.arr v0 e xs))(hv:v0<v1):Ext κ (κ.re w' b n (.arr v1 e ys)):=by
 refine⟨g.os,g.tape,g.output,by show κ.w.heap.size<=w'.heap.size; rw[g.size]; omega,λk hk=>⟨hk,g.old (hI.jN k hk)⟩,λk hk=>.inl hk,?_,?_,?_,?_,by simp[KS.re],λk hk _=>g.old hk⟩
 ·intro b' blk m h
  simp only[KS.re]at h
  grind
 ·intro b' d hd
  have vP:b≠b':=λe=>by subst e; rw[hb]at hd; cases hd
  simp only[KS.re]
  grind
 ·intro b' u0 e' zs hd
  simp only[KS.re]
  grind
 ·intro b' hd
  have vP:b≠b':=λe=>by subst e; rw[hb]at hd; cases hd
  simp only[KS.re,List.getElem?_set,if_neg vP]
  exact hd
theorem Sw{w':World}{o:Obj}{b n v0 v1:Nat}{e:Ty}{xs ys:List (den e)}(hI:Inv κ)(g:b6 κ.w w' o)(hb:κ.st[b]? = some (.arr v0 e xs))(hv:v0<v1)
  (hx:gT (κ.re w' b n (.arr v1 e ys)) b (.arr v1 e ys)):Inv (κ.re w' b n (.arr v1 e ys)):=by
 have hold:∀ (b' blk m:Nat),(κ.ph.set b (some (κ.w.heap.size,n)))[b']? = some (some (blk,m))->(b≠b'/\κ.ph[b']? = some (some (blk,m)))\/(b=b'/\blk=κ.w.heap.size):=by
  grind
 refine⟨by simp[KS.re,hI.len],?_,?_,?_,?_,hI.gl.mono (KA (n:=n) (ys:=ys) hI g hb hv).same⟩
 ·intro k hk; have:=hI.jN k hk; show k<w'.heap.size; rw[g.size]; omega
 ·intro b' blk m h
  rcases hold b' blk m h with⟨_,h⟩ | ⟨rfl,rfl⟩
  ·obtain⟨h1,h2⟩:=hI.apart b' blk m h
   exact⟨by show blk<w'.heap.size; rw[g.size]; omega,h2⟩
  ·exact⟨by show κ.w.heap.size<w'.heap.size; rw[g.size]; omega,λhk=>absurd (hI.jN _ hk) (Nat.lt_irrefl _)⟩
 ·intro b1 b2 blk m m' h h'
  rcases hold b1 blk m h with⟨_,h⟩ | ⟨rfl,rfl⟩<;>rcases hold b2 _ m' h' with⟨_,h'⟩ | ⟨rfl,h''⟩
  ·exact hI.inj b1 b2 blk m m' h h'
  ·have:=(hI.apart b1 blk m h).1; omega
  ·have:=(hI.apart b2 _ m' h').1; omega
  ·rfl
 ·intro b' y hy
  simp only[KS.re,List.getElem?_set]at hy
  split at hy
  ·grind
  ·rename_i e1
   refine(hI.blk b' y hy).mono (KA hI g hb hv) ?_ λblk m h=>g.old (hI.apart b' blk m h).1
   simp only[KS.re,List.getElem?_set,if_neg e1]
theorem Q0{α:Type}{l:List α}{i:Nat}{a:α}(h:l[i]? = some a):l.set i a=l:=by
 apply List.ext_getElem?
 grind
theorem BH{t t2 et b qh len:Nat}{e:Ty}{xs ys:List (den e)}{sv v:Value}{bytes:Nat}{ty:Nat}(hI:Inv κ)(hu:c.P.underlying t=some (.slice et))(DU:FV c t2)(xO:ja c et e=true)(vV:0<e.size)(K2:dQ c et=some bytes)
  (hz:∃ y,zeroOf c et e=some y) (hs:RD κ (.ms b qh e 0 len) sv) (hb:κ.st[b]? = some (.arr qh e xs)) (hlen:len=xs.length) (hv:Tz κ e ys v) (PK:(xs.length+ys.length)*bytes<=140737488355328)
  (hn:xs.length+ys.length<=9223372036854775807) :
  ∃ (κ':KS) (r:Value),(Builtin.append_ #[t,t2] ty #[sv,v]).run c.P κ.w=.ok r κ'.w/\κ'.st=κ.st.set b (.arr (qh+ys.length) e (xs++ys))/\Inv κ'/\Ext κ κ'/\RD κ' (.ms b (qh+ys.length) e 0 (len+ys.length)) r:=by
 subst hlen
 have qc:b<κ.st.length:=(List.getElem?_eq_some_iff.1 hb).1
 have Qa:b<κ.ph.length:=by rw[hI.len]; exact qc
 obtain⟨Mn,_⟩:=wJ xO
 obtain⟨i,Y7,X4⟩:=bj Mn
 obtain⟨y,hy⟩:=hz
 obtain⟨i',zv,g1,g2,g3⟩:=bJ (κ:=κ) hy
 obtain⟨i'',k1,k2⟩:=iw K2
 rw[Y7]at g1 k1
 cases g1
 cases k1
 have WW:=(K9 hI hs hb).1
 simp only[Nat.zero_add,List.take_length,List.drop_zero]at WW
 obtain⟨olds,f,I2,Lp,ho3,ho4,ho5⟩:=p8 WW vV
 obtain⟨news,g,J5,VL,Rn,hn4,hn5⟩:=hv.ex
 have hol:olds.length=xs.length*e.size:=by rw[I2]; exact vM λi hi=>(Lp i hi).len
 have G1:news.length=ys.length*e.size:=by rw[J5]; exact vM λi hi=>(VL i hi).len
 have XB:∀ u∈news,u.oneCell'=true:=by rw[J5]; exact XZ λi hi=>(VL i hi).one
 cases hs with
 | ms _ _ _ _ _ cap a hold wD ha fI hm =>
  obtain⟨hle,hm⟩:=hm xs hb
  by_cases ez:xs.length+ys.length<=cap
  ·-- there is room
   rcases hm with⟨h1,_,Pd,hp⟩ | ⟨blk,n,o,Kf,h3,h4,h5,h6,h7⟩
   ·simp only[Value.slice.injEq]at Pd
    obtain⟨rfl,U7,rfl⟩:=Pd
    have sI:xs=[]:=List.eq_nil_of_length_eq_zero h1
    have RE:ys=[]:=List.eq_nil_of_length_eq_zero (by omega)
    subst sI RE
    refine⟨κ,.slice none 0 0,?_,?_,hI,Ext.refl κ,.ms b qh e 0 0 0 none hold (Nat.le_refl _) (λ_=>rfl) nofun λzs M9 => ?_⟩
    ·have Dc:news=[]:=List.eq_nil_of_length_eq_zero (by simpa using G1)
     subst Dc
     exact run_append_fits (c:=c) (κ:=κ) (t:=t) (t2:=t2) (e:=et) (ty:=ty) (base:=none) (sLen:=0) (sCap:=0) (n:=0) (x:=v) (news:=[]) hu DU Y7 Rn (by intro P; rw[X4]; exact hn4 P) (by omega) rfl
    ·simp only[List.length_nil,Nat.add_zero,List.append_nil]
     rw[Q0 hb]
    ·grind
   ·cases h4
    obtain⟨_,⟨ZL,hpn⟩ | ⟨cC,n',cs,T,p1,p2,p3,p4,pr,F,p5⟩⟩:=hI.blk b _ hb
    ·grind
    ·rw[h3]at p1
     cases p1
     have ho:xs.length+ys.length=0\/o=0:=by
      grind
     have z2r:cap*e.size<=cs.size:=by rw[p3]; simpa using h6
     have tF:xs.length*e.size+ys.length*e.size<=cs.size:=by
      rw[<- Nat.add_mul]; exact Nat.le_trans (Nat.mul_le_mul_right _ ez) z2r
     let yB:=(cs.toList.take (xs.length*e.size)++news++cs.toList.drop (xs.length*e.size+news.length)).toArray
     have sx:cs.toList.length=cs.size:=by simp
     have Qk:yB.size=cs.size:=by simp only[yB,List.size_toArray,List.length_append,List.length_take,List.length_drop,G1,sx]; omega
     have hoa:∀ m,(⟨blk,o,none⟩:Addr).add (xs.length*e.size)=⟨blk,xs.length*e.size,none⟩\/m=0\/xs.length+ys.length=0:=by
      intro m
      rcases ho with h | h
      ·grind
      ·subst h; rw[wY,Nat.zero_add]; exact .inl rfl
     have xm:(storeCells ((⟨blk,o,none⟩:Addr).add (xs.length*i.size)) news).run c.P κ.w=.ok () (κ.w.setRow blk yB):=by
      rw[X4]
      rcases hoa 1 with h | h | h
      ·rw[h]
       have:=run_storeCells_at c.P blk (xs.length*e.size) T news 0 cs κ.w p2 (by rw[G1]; omega) XB
       simpa only[Nat.add_zero]using this
      ·cases h
      ·have Dc:news=[]:=List.eq_nil_of_length_eq_zero (by rw[G1,show ys.length=0 by omega]; simp)
       have sI:xs.length=0:=by omega
       have hce:yB=cs:=by simp[yB,Dc,sI]
       rw[Dc,hce,setRow_self _ _ _ _ _ p2]
       rfl
     have oh:Alike (.arr qh e xs) (.arr (qh+ys.length) e (xs++ys)):=⟨rfl,by omega,λh=>by rw[List.length_append]; omega⟩
     have hex:=dq (cs:=yB) (x:=.arr (qh+ys.length) e (xs++ys)) hI h3 hb oh
     refine⟨κ.VG b blk yB (.arr (qh+ys.length) e (xs++ys)),.slice (some ⟨blk,o,none⟩) (xs.length+ys.length) cap,?_,rfl,nu hI h3 hb oh ?_,hex,?_⟩
     ·exact run_append_fits (c:=c) (κ:=κ) (t:=t) (t2:=t2) (e:=et) (ty:=ty) (base:=some ⟨blk,o,none⟩) (sLen:=xs.length) (sCap:=cap) (n:=ys.length) (x:=v) (news:=news) hu DU Y7 Rn (by intro P; rw[X4]; exact hn4 P) ez xm
     ·refine⟨vV,.inr ⟨blk,n,yB,T,h3,setRow_heap _ _ _ _ _ _ p2,by rw[Qk]; exact p3,?_,pr,λi=>if i<xs.length then F i else g (i-xs.length),λi hi => ?_⟩⟩
      ·rw[List.length_append]; exact Nat.le_trans (Nat.mul_le_mul_right _ ez) (by simpa using h6)
      ·have hF:∀ i (hi:i<xs.length),Rc κ.w κ.ok e xs[i] (F i):=λi hi=>(p5 i hi).1
       have Ps:∀ i,i<xs.length->(F i).length=e.size:=λi hi=>(hF i hi).len
       have El:cs.toList.take (xs.length*e.size)=jl F xs.length:=by
        apply List.ext_getElem?
        intro p
        rw[List.getElem?_take]
        have J1:=vM Ps
        split
        ·rename_i hp
         obtain⟨q,hq⟩:∃ q,(jl F xs.length)[p]? = some q:=⟨_,List.getElem?_eq_getElem (by rw[J1]; exact hp)⟩
         obtain⟨i',j',a1,a2,a3,a4⟩:=Jp vV Ps hq
         rw[hq]
         have:=(p5 i' a1).2 j' q a4
         rw[a3,Array.getElem?_toList]; exact this
        ·rename_i hp
         rw[List.getElem?_eq_none (by rw[J1]; omega)]
       obtain⟨q1,q2⟩:=Z3 hF VL (cs.toList.drop (xs.length*e.size+news.length)) i hi
       refine⟨q1.mono hex.same,λj w hj => ?_⟩
       have:=q2 j w hj
       rw[<- J5,<- El]at this
       simpa only[yB,List.getElem?_toArray]using this
     ·refine .ms b _ e 0 _ cap _ (.inr ⟨qh+ys.length,e,xs++ys,by simp[KS.VG,qc],Nat.le_refl _⟩) ez nofun (λp hp=>by cases hp; rfl) λzs M9 => ?_
      have:zs=xs++ys:=by simp only[KS.VG,List.getElem?_set_self qc]at M9; cases M9; rfl
      subst this
      refine⟨by simp,.inr ⟨blk,n,o,cap,h3,rfl,ez,by simpa using h6,?_⟩⟩
      rcases h7 with h7 | h7
      ·exact .inl h7
      ·exact .inr (by simpa using h7)
  ·-- it grows
   have oa:0<ys.length:=by omega
   have wO:=fG (c:=c) (κ:=κ) (t:=t) (t2:=t2) (e:=et) (ty:=ty) (base:=a) (sLen:=xs.length) (sCap:=cap) (n:=ys.length) (x:=v) (news:=news) (olds:=olds) hu DU Y7 g2 Rn
    (by intro P; rw[X4]; exact hn5 P) (by intro P; rw[X4]; exact ho5 P) (by omega) (by omega) (by rw[k2]; exact PK)
   let C:=grownCap κ.w (xs.length+ys.length) cap et
   have hC:xs.length+ys.length<=C:=grownCap_ge _ _ _ _
   let zs:=Builtin.zeroCells zv.cells (C-(xs.length+ys.length))
   let cells:=olds.toArray++news.toArray++zs
   have M9:zs.size=(C-(xs.length+ys.length))*e.size:=by have:=g3.len; simp only[Array.length_toList]at this; simp[zs,ff,this]
   have pj:cells.size=C*e.size:=by
    simp only[cells,Array.size_append,List.size_toArray,hol,G1,M9,<- Nat.add_mul]
    congr 1; omega
   have gr:=b6.drew κ.w (.cells cells et)
   have Iw:qh<qh+ys.length:=by omega
   have hex:=KA (n:=cells.size) (ys:=xs++ys) hI gr hb Iw
   refine⟨κ.re _ b cells.size (.arr (qh+ys.length) e (xs++ys)),_,wO,rfl,Sw hI gr hb Iw ?_,hex,?_⟩
   ·refine⟨vV,.inr ⟨κ.w.heap.size,cells.size,cells,et,by simp[KS.re,Qa],gr.new,rfl,?_,nh xO,λi=>if i<xs.length then f i else g (i-xs.length),λi hi => ?_⟩⟩
    ·rw[pj,List.length_append]; exact Nat.mul_le_mul_right _ hC
    ·obtain⟨q1,q2⟩:=Z3 Lp VL zs.toList i hi
     refine⟨q1.mono hex.same,λj v hj => ?_⟩
     have:=q2 j v hj
     rw[<- I2,<- J5]at this
     rw[<- Array.getElem?_toList]
     simpa[cells]using this
   ·refine .ms b _ e 0 _ C _ (.inr ⟨qh+ys.length,e,xs++ys,by simp[KS.re,qc],Nat.le_refl _⟩) hC nofun (λp hp=>by cases hp; rfl) λus OL => ?_
    have:us=xs++ys:=by simp only[KS.re,List.getElem?_set_self qc]at OL; cases OL; rfl
    subst this
    exact⟨by simp,.inr ⟨κ.w.heap.size,cells.size,0,C,by simp[KS.re,Qa],rfl,hC,by rw[pj]; simp,.inr (by simp)⟩⟩
end
end Go.AM
namespace Go.AM
set_option linter.unusedSectionVars false
variable [vi]
section
variable {c:Ctx} {κ:KS}
theorem mm{x y:D}{v:Value}(hI:Inv κ)(hx:RD κ x v)(h:(eB κ.st x).leads y):(y=x/\∀ b qh e off len,x≠.ms b qh e off len)\/∃ (e:Ty) (ys:List (den e)),y=.zx (.sl e) ys/\Src κ e ys v/\∃ b qh off len,x=.ms b qh e off len:=by
 cases x with
 | ms b qh e off len =>
  simp only[eB]at h
  split at h
  ·rename_i uO e' xs hb
   split at h
   ·rename_i he
    subst he
    obtain⟨rfl,h⟩:=h
    refine .inr ⟨e',_,h.symm,(K9 hI hx hb).1,b,qh,off,len,rfl⟩
   ·exact h.elim
  ·exact h.elim
 | _=>exact .inl ⟨h.symm,λ_ _ _ _ _=>nofun⟩
theorem lU{t t2 et:Nat}{e:Ty}{s:D}{ys:List (den e)}{ne:Bool}{sv v:Value}{bytes ty:Nat}{d:Option D}{zl:St}(hI:Inv κ)(hu:c.P.underlying t=some (.slice et))(DU:FV c t2)(xO:ja c et e=true)(vV:0<e.size)
  (K2:dQ c et=some bytes) (VZ:0<bytes) (hz:∃ y,zeroOf c et e=some y) (hs:RD κ s sv) (hv:Tz κ e ys v) (vP:ne=true->ys≠[])
  (h:(uR e s ys ne bytes κ.st).leads (d,zl)) :
  ∃ (κ':KS) (r:Value),(Builtin.append_ #[t,t2] ty #[sv,v]).run c.P κ.w=.ok r κ'.w/\κ'.st=zl/\Inv κ'/\Ext κ κ'/\∀ d',d=some d'->RD κ' d' r:=by
 have hlen:∀ n,n*bytes<=140737488355328->n<=9223372036854775807:=λn hn=>Nat.le_trans (Nat.le_mul_of_pos_right n VZ) (Nat.le_trans hn (by decide))
 -- nothing is appended
 have same:∀ (a:Option Addr) (n cap:Nat),sv=.slice a n cap->n<=cap->ys=[]->d=some s->zl=κ.st ->
   ∃ (κ':KS) (r:Value),(Builtin.append_ #[t,t2] ty #[sv,v]).run c.P κ.w=.ok r κ'.w/\κ'.st=zl/\Inv κ'/\Ext κ κ'/\∀ d',d=some d'->RD κ' d' r:=by
  rintro a n cap rfl wD rfl rfl rfl
  obtain⟨Mn,_⟩:=wJ xO
  obtain⟨i,Y7,X4⟩:=bj Mn
  obtain⟨news,g,J5,VL,Rn,hn4,hn5⟩:=hv.ex
  have Dc:news=[]:=J5
  subst Dc
  refine⟨κ,.slice a n cap,?_,rfl,hI,Ext.refl κ,λd' he=>by cases he; exact hs⟩
  have:=run_append_fits (c:=c) (κ:=κ) (t:=t) (t2:=t2) (e:=et) (ty:=ty) (base:=a) (sLen:=n) (sCap:=cap) (n:=0) (x:=v) (news:=[]) (i:=i) hu DU Y7 Rn (by intro P; rw[X4]; exact hn4 P) (by omega) (w':=κ.w) (by cases a<;>rfl)
  grind
 have new:∀ l:List (den e),Src κ e l sv->(∃ a,sv=.slice a l.length l.length)->ys≠[]->(cN e l ys bytes κ.st).leads (d,zl) ->
   ∃ (κ':KS) (r:Value),(Builtin.append_ #[t,t2] ty #[sv,v]).run c.P κ.w=.ok r κ'.w/\κ'.st=zl/\Inv κ'/\Ext κ κ'/\∀ d',d=some d'->RD κ' d' r:=by
  intro l hl wD vP h
  obtain⟨hb,h⟩:=h
  cases h
  obtain⟨κ',r,h1,h2,h3,h4,h5⟩:=G3 (ty:=ty) hI hu DU xO vV K2 hz hl wD hv vP hb (hlen _ hb)
  grind
 unfold uR at h
 split at h
 ·have MF:sv=.slice none 0 0:=by cases hs; rfl
  cases hn:ne with
  | true=>rw[hn,cond_true]at h; exact new [] (sE hs) ⟨none,MF⟩ (vP hn) h
  | false =>
   rw[hn,cond_false]at h
   rcases h with⟨hy,h⟩ | ⟨hy,h⟩
   ·cases h; exact same none 0 0 MF (Nat.le_refl _) (List.isEmpty_iff.1 hy) rfl rfl
   ·exact new [] (sE hs) ⟨none,MF⟩ (λe=>by rw[e]at hy; cases hy) h
 ·rename_i e' l ne'
  split at h
  ·rename_i l' Lu
   obtain⟨he,z0m⟩:=zX Lu
   cases he
   simp only at z0m
   subst z0m
   have MF:∃ a,sv=.slice a l'.length l'.length:=by
    cases hs with
    | qL=>simp
    | tight=>simp
   cases hn:ne with
   | true=>rw[hn,cond_true]at h; exact new l' (iY hs) MF (vP hn) h
   | false =>
    rw[hn,cond_false]at h
    rcases h with⟨hy,h⟩ | ⟨hy,h⟩
    ·cases h
     obtain⟨a,ha⟩:=MF
     exact same a _ _ ha (Nat.le_refl _) (List.isEmpty_iff.1 hy) rfl rfl
    ·exact new l' (iY hs) MF (λe=>by rw[e]at hy; cases hy) h
  ·exact h.elim
 ·rename_i b qh e' off len
  split at h
  ·rename_i uO e'' xs hb
   split at h
   ·rename_i xs' JA
    obtain⟨he,z2z⟩:=zX JA
    cases he
    simp only at z2z
    subst z2z
    cases LB:decide (e'=_)with
    | false=>rw[LB]at h; exact h.elim
    | true =>
     rw[LB,cond_true]at h
     have:=of_decide_eq_true LB
     subst this
     obtain⟨⟨rfl,rfl,hl,PK⟩,h⟩:=h
     cases h
     obtain⟨κ',r,h1,h2,h3,h4,h5⟩:=BH (ty:=ty) hI hu DU xO vV K2 hz hs hb hl hv PK (hlen _ PK)
     exact⟨κ',r,h1,h2,h3,h4,λd' he=>by cases he; exact h5⟩
   ·exact h.elim
  ·exact h.elim
 ·exact h.elim
theorem Us{t ty:Nat}{s x:Option D}{sv v:Value}{d:Option D}{zl:St}(hI:Inv κ)(hs:∀ z,s=some z->RD κ z sv)(hx:∀ z,x=some z->RD κ z v)
  (h:(zr (oe c t s x) κ.st).leads (d,zl)):qg c.P (do Pure.pure (.value (<- Builtin.append_ #[t,t] ty #[sv,v]))) κ d zl:=by
 unfold oe at h
 split at h
 ·exact absurd h ze
 ·rename_i et het
  have hu:=vB het
  split at h
  ·rename_i e bytes Gi K2
   cases hb:ja c et e&&Nat.blt 0 e.size&&Nat.blt 0 bytes&&(zeroOf c et e).isSome with
   | false=>rw[hb]at h; exact absurd h ze
   | true =>
    rw[hb,cond_true]at h
    simp only[Bool.and_eq_true]at hb
    obtain⟨⟨⟨xO,h1⟩,h2⟩,h3⟩:=hb
    have vV:0<e.size:=Nat.le_of_ble_eq_true h1
    have VZ:0<bytes:=Nat.le_of_ble_eq_true h2
    have hz:=Option.isSome_iff_exists.1 h3
    split at h
    ·rename_i s x
     simp only[zr,T.zp]at h
     obtain⟨y,hy,h⟩:=h
     have fin:∀ (ys:List (den e)) (ne:Bool),Src κ e ys v->(ne=true->ys≠[])->(uR e s ys ne bytes κ.st).leads (d,zl)->qg c.P (do Pure.pure (.value (<- Builtin.append_ #[t,t] ty #[sv,v]))) κ d zl:=by
      intro ys ne hv vP h
      obtain⟨κ',r,g1,g2,g3,g4,g5⟩:=lU (t2:=t) (ty:=ty) hI hu (.inl ⟨et,hu⟩) xO vV K2 VZ hz (hs _ rfl) (LW hv vV) vP h
      exact⟨κ',.value r,r,by simp only[Sem.run_bind,g1,Result.andThen_ok]; rfl,.inl rfl,g2,g3,g4,g5⟩
     have Ku:=hx _ rfl
     rcases mm hI Ku hy with⟨rfl,SK⟩ | ⟨e',ys,rfl,WW,_⟩
     ·split at h
      ·rename_i σ z
       split at h
       ·rename_i ys Rq
        obtain⟨he,hz'⟩:=zX Rq
        cases he
        subst hz'
        exact fin _ false (GO Ku) nofun h
       ·exact h.elim
      ·rename_i σ z ne
       split at h
       ·rename_i ys Rq
        obtain⟨he,hz'⟩:=zX Rq
        cases he
        subst hz'
        refine fin _ ne (iY Ku) (λvP => ?_) h
        cases Ku with
        | qL=>cases vP
        | tight _ _ _ _ _ _ q=>exact q vP
       ·exact h.elim
      ·exact fin [] false (sE Ku) nofun h
      ·exact h.elim
     ·simp only at h
      split at h
      ·rename_i ys' Rq
       obtain⟨he,hz'⟩:=zX Rq
       grind
      ·exact h.elim
    ·exact absurd h ze
  ·exact absurd h ze
theorem MR{l:zf}{v:Value}(h:RD κ (.zx .str l) v):Tz κ (.int .u8) (bytesOf l) v:=by
 have hv:=h.xM
 subst hv
 have hl:(bytesOf l).length=l.length:=by simp[bytesOf]
 have vV:(⟨l.toArray⟩:ByteArray).size=l.length:=List.size_toArray
 refine⟨Lib.strCells ⟨l.toArray⟩,λi=>[.int .u8 ((bytesOf l)[i]?.getD 0)],?_,λi hi => ?_,λP => ?_,λP => ?_,λP => ?_⟩
 ·have gen:∀ (n:Nat),n<=l.length->jl (λi=>[Value.int .u8 ((bytesOf l)[i]?.getD 0)]) n=(l.take n).map λb=>Value.int .u8 b.toNat:=by
   intro n
   induction n with
   | zero=>intro _; rfl
   | succ n ih =>
    intro hn
    have qc:n<l.length:=hn
    rw[jl,ih (by omega),List.take_succ_eq_append_getElem qc,List.map_append]
    simp[bytesOf,List.getElem?_eq_getElem qc]
  rw[hl,gen _ (Nat.le_refl _),List.take_length]
  rfl
 ·have:(bytesOf l)[i]?.getD 0=(bytesOf l)[i]:=by rw[List.getElem?_eq_getElem hi]; rfl
  show Rc κ.w κ.ok (.int .u8) (bytesOf l)[i] [Value.int .u8 ((bytesOf l)[i]?.getD 0)]
  rw[this]
  exact .int .u8 _
 ·show(pure (⟨l.toArray⟩:ByteArray).size:Sem Nat).run P κ.w=_
  rw[vV,hl]; rfl
 ·rw[hl,<- vV]; exact Lib.run_firstCells_string _ _ _
 ·rw[hl,<- vV]; exact Lib.run_firstCells_string _ _ _
theorem ZJ{t t2 ty:Nat}{s x:Option D}{sv v:Value}{d:Option D}{zl:St}(hI:Inv κ)(hs:∀ z,s=some z->RD κ z sv)(hx:∀ z,x=some z->RD κ z v)
  (h:(zr (iH c t t2 s x) κ.st).leads (d,zl)):qg c.P (do Pure.pure (.value (<- Builtin.append_ #[t,t2] ty #[sv,v]))) κ d zl:=by
 unfold iH at h
 split at h
 ·exact absurd h ze
 ·rename_i et het
  have hu:=vB het
  split at h
  ·rename_i bytes Gi K2 DU
   cases hb:ja c et (.int .u8)&&Nat.blt 0 bytes&&(zeroOf c et (.int .u8)).isSome with
   | false=>rw[hb]at h; exact absurd h ze
   | true =>
    rw[hb,cond_true]at h
    simp only[Bool.and_eq_true]at hb
    obtain⟨⟨xO,h2⟩,h3⟩:=hb
    have VZ:0<bytes:=Nat.le_of_ble_eq_true h2
    have hz:=Option.isSome_iff_exists.1 h3
    split at h
    ·rename_i s l
     obtain⟨κ',r,g1,g2,g3,g4,g5⟩:=lU (t2:=t2) (ty:=ty) hI hu (.inr DU) xO (by decide) K2 VZ hz (hs _ rfl) (ne:=false) (MR (hx _ rfl)) (λe=>by cases e) h
     exact⟨κ',.value r,r,by simp only[Sem.run_bind,g1]; rfl,.inl rfl,g2,g3,g4,g5⟩
    ·exact absurd h ze
  ·exact absurd h ze
end
end Go.AM
namespace Go.AM
set_option linter.unusedSectionVars false
variable [vi]
section
variable {c:Ctx} {κ:KS}
theorem mb{places:List (Nat×Nat)}{pf:Nat->Option (Nat×Nat)}(hpf:∀ (i:Nat) p,places[i]? = some p->pf i=some p){F:Operand->Option D}{G:Operand->Value}(hF:∀ x d,F x=some d->RD κ d (G x)):∀ (L:List (Nat×Operand)) (cells r:List D) (cs:Array Value),
  bh places (L.map λp=>(p.1,F p.2)) cells=some r->qj κ cells cs.toList->(∀ d∈cells,d.one=true) ->
  ∃ yB,Instr.fill pf cs (L.map λp=>(p.1,G p.2))=some yB/\qj κ r yB.toList/\∀ d∈r,d.one=true
 | [],cells,r,cs,h,hr,ho=>by
  simp only[List.map_nil,bh,Option.some.injEq]at h
  subst h
  exact⟨cs,rfl,hr,ho⟩
 | (i,x)::L,cells,r,cs,h,hr,ho=>by
  simp at h
  cases hx:F x with
  | none=>rw[hx]at h; simp[bh]at h
  | some d =>
   rw[hx]at h
   simp only[bh]at h
   split at h
   ·rename_i off n hp
    cases hb : !d.vS&&Nat.beq n (zR d).length&&Nat.ble (off+n) cells.length with
    | false=>grind
    | true =>
     rw[hb,cond_true]at h
     simp only[Bool.and_eq_true,Bool.not_eq_true']at hb
     obtain⟨⟨h1,h2⟩,h3⟩:=hb
     have Pc:n=(zR d).length:=Nat.eq_of_beq_eq_true h2
     have h3':=Nat.le_of_ble_eq_true h3
     have hd:=hF x d hx
     have OO:=uj hd h1
     have Pn:(G x).cells.toList.length=n:=by rw[<- OO.1]; exact Pc.symm
     have hle:off+n<=cs.size:=by have:=hr.1; simp at this; omega
     have hn:=cj hr OO off n
     obtain⟨yB,g1,g2,g3⟩:=mb hpf hF L _ r (cs.toList.take off++(G x).cells.toList++cs.toList.drop (off+n)).toArray h (by grind) (by
      intro y hy
      simp only[List.mem_append]at hy
      rcases hy with(hy | hy) | hy
      ·grind
      ·exact ug hd y hy
      ·exact ho y (List.mem_of_mem_drop hy))
     refine⟨yB,?_,g2,g3⟩
     simp
     rw[U1 (hpf _ _ hp) Pn hle]
     exact g1
   ·cases h
theorem Kr{t:Nat}{L:List (Nat×Operand)}{F:Operand->Option D}{G:Operand->Value}{d:Option D}{zl:St}(hI:Inv κ)(hF:∀ x d,F x=some d->RD κ d (G x))
  (h:(zr (VA c t (L.map λp=>(p.1,F p.2))) κ.st).leads (d,zl)):qg c.P (do Pure.pure (.value (<- Instr.build t (L.map λp=>(p.1,G p.2)).toArray))) κ d zl:=by
 unfold VA at h
 split at h
 ·rename_i fs hu
  split at h
  ·rename_i z places hz hp
   split at h
   ·rename_i l hl
    rw[uT]at h
    obtain⟨rfl,rfl⟩:=h
    obtain⟨i,zv,h1,h2,h3⟩:=gU hz
    have hzr:=h3.rd κ
    obtain⟨yB,g1,g2,g3⟩:=mb (pf:=(places.toArray[·]?)) (λi p hp=>by simpa using hp) hF L z l zv.cells hl (uj hzr rfl) (ug hzr)
    have hb:c.P.built t (L.map λp=>(p.1,G p.2))=some yB:=by
     unfold Program.built
     grind
    refine qg.pure hI (run_build κ.w t _ yB (by simpa using hb)) ?_
    have:=RD.agg l yB.toList g2.1 g3 g2.2
    omega
   ·exact absurd h ze
  ·exact absurd h ze
 ·rename_i k e hu
  split at h
  ·rename_i z ie hz hp
   split at h
   ·rename_i l hl
    obtain⟨rfl,rfl⟩:=h
    obtain⟨i,zv,h1,h2,h3⟩:=gU hz
    have hzr:=h3.rd κ
    obtain⟨yB,g1,g2,g3⟩:=mb (pf:=λi=>some (i*ie.size,ie.size)) (λi p hp=>by
     rw[List.getElem?_map]at hp
     cases hr:(List.range k)[i]? with
     | none=>grind
     | some j =>
      rw[hr]at hp
      obtain⟨qc,rfl⟩:=List.getElem?_eq_some_iff.1 hr
      simpa using hp) hF L z l zv.cells hl (uj hzr rfl) (ug hzr)
    have hb:c.P.built t (L.map λp=>(p.1,G p.2))=some yB:=by
     unfold Program.built
     grind
    refine qg.pure hI (run_build κ.w t _ yB (by simpa using hb)) ?_
    have:=RD.agg l yB.toList g2.1 g3 g2.2
    omega
   ·exact absurd h ze
  ·exact absurd h ze
 ·exact absurd h ze
theorem QG{a:Act}{o:Oper}{p:Operand}(ho:o.op=.nilCheck p){x:Option D}{d:Option D}{zl:St}(hI:Inv κ)(hx:∀ z,x=some z->RD κ z (a.eval p))
  (h:(zr (mg x) κ.st).leads (d,zl)):qg c.P (execOp a.eval o) κ d zl:=by
 have key:∀ z v,RD κ z v->a.eval p=v->(∀ b:Option Addr,v=.pointer b->b≠none)->((∃ b,v=.pointer b)\/∃ g q l,v=.func (.func g) q l)->qg c.P (execOp a.eval o) κ (some z) κ.st:=by
  intro z v hz hv hn hc
  have:execOp a.eval o=Pure.pure (.value v):=by
   rcases hc with⟨b,rfl⟩ | ⟨g,q,l,rfl⟩
   ·cases b with
    | none=>grind
    | some b=>simp only[execOp,ho,hv]
   ·simp only[execOp,ho,hv]
  rw[this]
  exact qg.val hI λ_ he=>by cases he; exact hz
 unfold mg at h
 split at h
 all_goals try exact absurd h ze
 all_goals
  rw[uT]at h; obtain⟨rfl,rfl⟩:=h
  have hr:=hx _ rfl
  generalize hv:a.eval p=v at hr
  refine key _ v hr hv ?_ ?_
  ·intro b hb; cases hr<;>first | (cases hb<;>nofun) | (rename_i f l vs _ _; obtain⟨g,q,l',e⟩:=tn f vs; rw[e]at hb; cases hb)
  ·cases hr<;>first | exact .inl ⟨_,rfl⟩ | exact .inr (tn _ _)
theorem Yn{op:BinOp}{t:Nat}{px:Operand}{x:Option D}{v:Value}{d:Option D}{zl:St}(hI:Inv κ)(hx:∀ z,x=some z->RD κ z v)
  (h:(zr (Vf c op t x) κ.st).leads (d,zl)):qg c.P (do Pure.pure (.value (<- (do eqGuard op t px (.const .nilIface) v .nilIface; binOp op t v .nilIface)))) κ d zl:=by
 unfold Vf at h
 split at h
 ·rename_i ms hu
  have hm:c.P.underlying t=some (.interface (c.P.methodsAt t)):=by unfold Program.methodsAt; rw[hu]
  have g1:∀ w,(eqGuard op t px (.const .nilIface) .nilIface .nilIface).run c.P w=.ok () w:=λw=>by cases op<;>simp[eqGuard]
  have g2:∀ u y w,(eqGuard op t px (.const .nilIface) (.iface u y) .nilIface).run c.P w=.ok () w:=λu y w=>by cases op<;>simp[eqGuard]
  split at h
  ·unfold bb at h
   obtain⟨rfl,rfl⟩:=h
   cases hx _ rfl
   exact qg.pure hI (by simp only[Sem.run_bind,g1,Result.andThen_ok,run_eql_nil_nil _ _ hm]) RD.bool
  ·unfold bb at h
   obtain⟨rfl,rfl⟩:=h
   cases hx _ rfl
   exact qg.pure hI (by simp only[Sem.run_bind,g2,Result.andThen_ok,run_eql_held_nil _ _ _ _ hm]) RD.bool
  ·unfold bb at h
   obtain⟨rfl,rfl⟩:=h
   cases hx _ rfl
   exact qg.pure hI (by simp only[Sem.run_bind,g1,Result.andThen_ok,run_neq_nil_nil _ _ hm]) RD.bool
  ·unfold bb at h
   obtain⟨rfl,rfl⟩:=h
   cases hx _ rfl
   exact qg.pure hI (by simp only[Sem.run_bind,g2,Result.andThen_ok,run_neq_held_nil _ _ _ _ hm]) RD.bool
  ·exact absurd h ze
 ·exact absurd h ze
theorem rV{x:Option D}{v:Value}{xt at':Nat}{ok:Bool}{d:Option D}{zl:St}(hI:Inv κ)(hx:∀ z,x=some z->RD κ z v)
  (h:(zr (dG c x at' ok) κ.st).leads (d,zl)):qg c.P (do Pure.pure (.value (<- Instr.typeAssert v xt at' ok))) κ d zl:=by
 unfold dG at h
 split at h
 ·exact absurd h ze
 ·exact absurd h ze
 ·rename_i ty hni hu
  split at h
  ·rename_i t e
   cases hb:Nat.beq t at'&&ok with
   | false=>rw[hb]at h; exact absurd h ze
   | true =>
    rw[hb,cond_true,uT]at h
    obtain⟨rfl,rfl⟩:=h
    simp only[Bool.and_eq_true]at hb
    have:=Nat.eq_of_beq_eq_true hb.1
    subst this
    obtain rfl:=hb.2
    cases hx _ rfl with
    | iface _ _ u MJ =>
     refine qg.pure hI (v:=.tuple #[u,.bool true]) ?_ ?_
     ·cases ty<;>first | (exact(hni _ rfl).elim) | (simp[Instr.typeAssert,run_underlying hu])
     ·have:=qj.cons MJ (qj.cons (RD.bool (κ:=κ) (b:=true)) qj.nil)
      exact .jW _ [u,.bool true] this.1 this.2
  ·exact absurd h ze
theorem Zj{t:Nat}{x:Option D}{v:Value}{d:Option D}{zl:St}(hI:Inv κ)(hx:∀ z,x=some z->RD κ z v)
  (h:(zr (fR c t x) κ.st).leads (d,zl)):qg c.P (do Pure.pure (.value (<- Instr.makeInterface t v))) κ d zl:=by
 unfold fR at h
 cases hu:c.P.underlying t with
 | none=>rw[hu]at h; exact absurd h ze
 | some u =>
  rw[hu]at h
  cases u<;>simp only at h
  all_goals try exact absurd h ze
  all_goals
   split at h
   ·rw[uT]at h; obtain⟨rfl,rfl⟩:=h
    have hc:c.P.concrete t=true:=by unfold Program.concrete; rw[hu]
    exact qg.pure hI (run_makeInterface κ.w t v hc) (.iface t _ v (hx _ rfl))
   ·exact absurd h ze
theorem L8{e:Ty}{x y:D}{v:Value}{l:List (den e)}(hI:Inv κ)(hx:RD κ x v)(h:(eB κ.st x).leads y)(hl:Jk e y=some l):Src κ e l v:=by
 rcases mm hI hx h with⟨rfl,_⟩ | ⟨e',ys,rfl,hs,_⟩
 ·cases y with
  | zx σ z =>
   obtain⟨he,hz⟩:=zX (a:=σ) (b:=.sl e) hl
   cases he
   cases hz
   exact GO hx
  | tight e' z ne =>
   obtain⟨he,hz⟩:=zX (a:=.sl e') (b:=.sl e) hl
   cases he
   cases hz
   exact iY hx
  | qZ =>
   simp only[Jk,Option.some.injEq]at hl
   subst hl
   exact sE hx
  | _=>simp[Jk]at hl
 ·obtain⟨he,hz⟩:=zX (a:=.sl e') (b:=.sl e) hl
  grind
theorem Zc{s t e:Nat}{x:Option D}{v:Value}{d:Option D}{zl:St}(hI:Inv κ)(hx:∀ z,x=some z->RD κ z v)(hs:c.P.underlying s=some (.slice e))(ht:c.P.underlying t=some .string)
  (h:(zr (pA c e x) κ.st).leads (d,zl)):qg c.P (do Pure.pure (.value (<- convert s t v))) κ d zl:=by
 unfold pA at h
 split at h
 ·rename_i z he
  rw[ct]at h
  obtain⟨h,rfl⟩:=h
  obtain⟨y,h1,h2⟩:=T.zp.1 h
  split at h2
  ·rename_i l hl
   cases h2
   have WW:=L8 hI (hx _ rfl) h1 hl
   obtain⟨a,cap,f,rfl,wD,hn,g1,g2⟩:=WW.ex
   have wO:(convert s t (.slice a l.length cap)).run c.P κ.w=.ok (.string (strOfNums l)) κ.w:=by
    cases a with
    | none =>
     obtain⟨rfl,rfl⟩:=hn rfl
     exact run_convert_bytes_nil κ.w s e hs he 0 0 t ht
    | some p =>
     rcases g2 p rfl with⟨rfl,rfl⟩ | ⟨hp,_,hc⟩
     ·have h0:(loadCells p 0).run c.P κ.w=.ok (([]:List Int).map (Value.int .u8)).toArray κ.w:=by
       rfl
      simp only[List.length_nil]
      rw[run_convert_bytes_string κ.w s t e _ 0 0 hs he ht,run_bytesToString κ.w _ 0 0 [] h0]
      rfl
     ·obtain⟨blk,o,sp⟩:=p
      subst hp
      refine run_convert_bytes_arg κ.w s e hs he blk o l.length cap l rfl (λi hi => ?_) t ht
      have hf:=(g1 i hi).jJ
      have:=hc i hi 0 (.int .u8 l[i]) (by grind)
      have e1:o+i*Ty.size (.int .u8)+0=o+i:=by simp[Ty.size]
      grind
   refine qg.pure hI wO ?_
   exact .str
  ·exact h2.elim
 ·exact absurd h ze
theorem V6{s t:Nat}{x:Option D}{v:Value}{d:Option D}{zl:St}(hI:Inv κ)(hx:∀ z,x=some z->RD κ z v)
  (h:(zr (convertOp c s t x) κ.st).leads (d,zl)):qg c.P (do Pure.pure (.value (<- convert s t v))) κ d zl:=by
 unfold convertOp at h
 split at h
 ·rename_i e hs ht
  exact Zc hI hx hs ht h
 ·rename_i k0 k hs ht
  split at h
  ·rename_i k1 n hk
   have:=vo hk hx
   subst this
   obtain⟨rfl,rfl⟩:=h
   exact qg.pure hI (by simp[convert,run_underlying hs,run_underlying ht,Conv.intToInt]) RD.int
  ·exact absurd h ze
 ·rename_i hs ht
  split at h
  ·rename_i s' hk
   have:=fK hk hx
   subst this
   obtain⟨rfl,rfl⟩:=h
   exact qg.pure hI (by simp[convert,run_underlying hs,run_underlying ht]) RD.str
  ·exact absurd h ze
 ·exact absurd h ze
end
end Go.AM
namespace Go.AM
set_option linter.unusedSectionVars false
variable [vi]
section
variable {c:Ctx} {κ:KS}
theorem Cu{ty t t':Nat}{s x:Option D}{v u:Value}{d:Option D}{zl:St}(hI:Inv κ)(hs:∀ z,s=some z->RD κ z v)(hx:∀ z,x=some z->RD κ z u)
  (h:(zr (KG c t s x) κ.st).leads (d,zl)):qg c.P (do Pure.pure (.value (<- Builtin.copy_ #[t,t'] ty #[v,u]))) κ d zl:=by
 unfold KG at h
 split at h
 ·rename_i et het
  split at h
  ·rename_i k b qh k' off len z hu vV
   cases hk:decide (k'=k)with
   | false=>rw[hk]at h; exact absurd h ze
   | true =>
    rw[hk,cond_true]at h
    obtain rfl:k'=k:=of_decide_eq_true hk
    simp only[zr]at h
    obtain⟨y,h1,h2⟩:=T.zp.1 h
    split at h2
    ·rename_i l hl
     unfold DH at h2
     split at h2
     ·rename_i uO e' mc hb
      split at h2
      ·rename_i xs XI
       obtain⟨he,hxx⟩:=zX (a:=.sl e') (b:=.sl (.int k')) XI
       cases he
       obtain rfl:xs=mc:=hxx
       obtain⟨⟨VF,tF⟩,h2⟩:=h2
       cases h2
       subst VF
       have WW:=L8 hI (hx _ rfl) h1 hl
       obtain⟨a,cap,f,rfl,wD,hn,g1,g2⟩:=WW.ex
       have T0:=vB het
       have IF:(c.P.info? et).map (·.size)=some 1:=vV
       have hrd:=hs _ rfl
       cases hrd with
       | ms _ _ _ _ _ cap0 a0 VZ hcap0 Q4 hsp0 hh =>
       have hm:=hh xs hb
       have sx:((List.take len l).map (Value.int k')).length=Nat.min l.length len:=by rw[List.length_map,List.length_take]; exact Nat.min_comm _ _
       have PC:min len (List.length l)=Nat.min l.length len:=Nat.min_comm _ _
       by_cases h0:min len (List.length l)=0
       ·-- nothing goes over
        have wO:=run_copy_none (P:=c.P) κ.w t t' ty et a0 a len cap0 l.length cap T0 IF (by rw[<- PC]; exact h0)
        have rk:jm off len xs l=xs:=by
         unfold jm
         have ht:List.take len l=[]:=List.eq_nil_of_length_eq_zero (by rw[List.length_take]; exact h0)
         rw[ht,h0,List.append_nil,Nat.add_zero,List.take_append_drop]
        have yU:κ.st.set b (.arr qh (.int k') (jm off len xs l))=κ.st:=by
         rw[rk]
         obtain⟨qc,hge⟩:=List.getElem?_eq_some_iff.1 hb
         rw[<- hge,List.set_getElem_self]
        rw[yU]
        refine⟨κ,.value (goInt 0),goInt 0,by simp[wO],.inl rfl,rfl,hI,Ext.refl κ,λd' jR => ?_⟩
        cases jR
        rw[h0]
        exact RD.int
       ·obtain⟨hle,hm⟩:=hm
        rcases hm with⟨hz,_⟩ | ⟨blk,n,o,z8B,hp,hv,CD,I9,hc3⟩
        ·omega
        ·cases hv
         have ho:o=off:=by
          rcases hc3 with h | h
          ·omega
          ·simpa[Ty.size]using h
         subst ho
         have hl0:l≠[]:=λh=>h0 (by rw[h]; simp)
         obtain⟨p,rfl⟩:∃ p,a=some p:=by
          cases a with
          | none=>grind
          | some p=>simp
         rcases g2 p rfl with⟨h,_⟩ | ⟨fI,_,hc⟩
         ·grind
         obtain⟨pb,po,psp⟩:=p
         simp only at fI
         subst fI
         obtain⟨_,ER⟩:=hI.blk b _ hb
         rcases ER with⟨_,hpn⟩ | ⟨cC,n',M5,T,k1,k2,k3,k4,kr,g,k5⟩
         ·grind
         rw[hp]at k1
         cases k1
         have SE:List.length xs<=M5.size:=by rw[k3]; simpa[Ty.size]using k4
         have lO:∀ (i:Nat) (hi:i<List.length xs),M5[i]? = some (.int k' xs[i]):=by
          intro i hi
          obtain⟨q1,q2⟩:=k5 i hi
          have:=q2 0 (.int k' xs[i]) (by rw[q1.jJ]; rfl)
          simpa[Ty.size]using this
         have z5E:((List.take len l).map (Value.int k')).length<=len:=by simp; omega
         have wO:=run_copy_row c.P κ.w t t' ty et blk o len cap0 ⟨pb,po,none⟩ l.length cap M5 T ((List.take len l).map (Value.int k')) T0 IF k2 sx
          (λj w hj=>by
           have RG:j<(List.take len l).length:=by have:=(List.getElem?_eq_some_iff.1 hj).1; simpa using this
           have Dg:j<l.length:=by simp at RG; omega
           have e1:w=.int k' l[j]:=by
            grind
           have:=hc j Dg 0 (.int k' l[j]) (by rw[(g1 j Dg).jJ]; rfl)
           have z5c:(⟨pb,po,none⟩:Addr).add j=⟨pb,po+j,none⟩:=by unfold Addr.add; split<;>simp_all
           rw[z5c,e1]
           simpa[Ty.size]using this)
          (by omega) (λw hw=>by obtain⟨_,_,rfl⟩:=List.mem_map.1 hw; rfl)
         have hlen:List.length (jm o len xs l)=List.length xs:=by
          simp only[jm,List.length_append,List.length_take,List.length_drop]
          omega
         have oh:Alike (.arr qh (.int k') xs) (.arr qh (.int k') (jm o len xs l)):=⟨rfl,Nat.le_refl _,λ_=>hlen.symm⟩
         let yB:Array Value:=(M5.toList.take o++(List.take len l).map (Value.int k')++M5.toList.drop (o+((List.take len l).map (Value.int k')).length)).toArray
         have Qk:yB.size=n:=by
          simp only[yB,List.size_toArray,List.length_append,List.length_take,List.length_drop,Array.length_toList,List.length_map]at *
          omega
         have z0w:∀ (i:Nat) (hi:i<List.length (jm o len xs l)),yB[i]? = some (.int k' (jm o len xs l)[i]):=by
          intro i hi
          have h1:=mo (cs:=M5.toList) (us:=(List.take len l).map (Value.int k')) (o:=o) (n:=((List.take len l).map (Value.int k')).length) rfl (by simp; simp at z5E; omega) i
          have e1:yB[i]? = (M5.toList.take o++(List.take len l).map (Value.int k')++M5.toList.drop (o+((List.take len l).map (Value.int k')).length))[i]? := by simp[yB]
          have Dh:(List.map (Value.int k') (List.take len l)).length=min len (List.length l):=by simp
          rw[Dh]at h1 e1
          have e2:(jm o len xs l)[i]? = if i<o then xs[i]? else if i<o+min len (List.length l)then(List.take len l)[i-o]? else xs[i]? := by
           unfold jm
           have hto:(List.take o xs).length=o:=by simp; omega
           by_cases q1:i<o
           ·rw[if_pos q1,List.append_assoc,List.getElem?_append_left (by omega),List.getElem?_take,if_pos q1]
           ·rw[if_neg q1,List.append_assoc,List.getElem?_append_right (by omega),hto]
            by_cases q2:i<o+min len (List.length l)
            ·rw[if_pos q2,List.getElem?_append_left (by simp; omega)]
            ·rw[if_neg q2,List.getElem?_append_right (by simp; omega),List.getElem?_drop,List.length_take]
             congr 1; omega
          have e3:(jm o len xs l)[i]? = some (jm o len xs l)[i]:=List.getElem?_eq_getElem hi
          rw[e1,h1]
          rw[e2]at e3
          have hix:i<List.length xs:=by rw[<- hlen]; exact hi
          split
          ·rename_i q1
           rw[if_pos q1,List.getElem?_eq_getElem hix]at e3
           rw[Array.getElem?_toList,lO i hix,Option.some.inj e3]
          ·rename_i q1
           rw[if_neg q1]at e3
           split
           ·rename_i q2
            rw[if_pos q2]at e3
            rw[List.getElem?_map,e3]
            rfl
           ·rename_i q2
            rw[if_neg q2,List.getElem?_eq_getElem hix]at e3
            rw[Array.getElem?_toList,lO i hix,Option.some.inj e3]
         refine⟨κ.VG b blk yB (.arr qh (.int k') (jm o len xs l)),.value (goInt (((List.take len l).map (Value.int k')).length:Nat)),goInt (((List.take len l).map (Value.int k')).length:Nat),(by rw[Sem.run_bind,wO]; rfl),.inl rfl,rfl,nu hI hp hb oh ?_,dq hI hp hb oh,λd' jR => ?_⟩
         ·refine⟨by simp[Ty.size],.inr ⟨blk,n,yB,T,hp,setRow_heap κ.w blk M5 yB T (0,0) k2,Qk,by simp[Ty.size]; omega,kr,λi=>[.int k' ((jm o len xs l).getD i 0)],λi hi => ?_⟩⟩
          have hg:(jm o len xs l).getD i 0=(jm o len xs l)[i]:=by simp[List.getD_eq_getElem?_getD,List.getElem?_eq_getElem hi]
          show Rc _ _ (.int k') _ [Value.int k' ((jm o len xs l).getD i 0)]/\∀ (j:Nat) (v:Value),[Value.int k' ((jm o len xs l).getD i 0)][j]? = some v->_
          rw[hg]
          refine⟨.int k' _,λj w hj => ?_⟩
          cases j with
          | zero =>
           simp at hj
           subst hj
           simpa[Ty.size]using z0w i hi
          | succ j=>simp at hj
         ·cases jR
          rw[PC,<- sx]
          exact RD.int
      ·exact h2.elim
     ·exact h2.elim
    ·exact h2.elim
  ·exact absurd h ze
 ·exact absurd h ze
end
end Go.AM
namespace Go.AM
set_option linter.unusedSectionVars false
variable [vi]
def vL(P:Program)(g:Nat)(args:Array Value)(w:World)(R:Ending->World->Prop):Prop :=
 ((callFunc g args).run P w=.ok (.enter g args) w/\Calls P g args w R)\/∃ v w',(callFunc g args).run P w=.ok (.value v) w'/\R (.returned v) w'
theorem vL.mono{P:Program}{g:Nat}{args:Array Value}{w:World}{R R':Ending->World->Prop}(h:vL P g args w R)(hr:∀ e w,R e w->R' e w):vL P g args w R':=by
 rcases h with⟨h1,h2⟩ | ⟨v,w',h1,h2⟩
 ·exact .inl ⟨h1,h2.mono hr⟩
 ·exact .inr ⟨v,w',h1,hr _ _ h2⟩
def xR(κ:KS):Wd->Ending->Prop
 | .ret ds,e=>∃ v,e=.returned v/\RD κ (jG ds) v
 | .jg d,e=>∃ v,e=.panicked [{ v,recovered:=false }]/\RD κ d v
abbrev IJ:=Nat->Array Value->World->(Ending->World->Prop)->Prop
def z5y(Dr:IJ)(g:Nat)(S:List D->St->T (Wd×St)):Prop :=
 ∀ (κ:KS) (args:List D) (zn:List Value) (rs:Wd) (zl:St),(S args κ.st).leads (rs,zl)->Inv κ->qj κ args zn ->
  Dr g zn.toArray κ.w λe w'=>∃ κ':KS,κ'.w=w'/\κ'.st=zl/\Inv κ'/\Ext κ κ'/\xR κ' rs e
def VJ(P:Program)(g:Nat)(S:List D->St->T (Wd×St)):Prop :=
 ∀ (κ:KS) (args:List D) (zn:List Value) (rs:Wd) (zl:St),(S args κ.st).leads (rs,zl)->Inv κ->qj κ args zn ->
  vL P g zn.toArray κ.w λe w'=>∃ κ':KS,κ'.w=w'/\κ'.st=zl/\Inv κ'/\Ext κ κ'/\xR κ' rs e
section
variable {c:Ctx} {κ:KS}
theorem RD.weaken{rR:Nat->Prop}(hs:∀ k,κ.ok k->rR k){d:D}{v:Value}(h:RD κ d v):RD { κ with ok:=rR } d v:=by
 have rk:Yf κ.w κ.w κ.ok rR:=λk hk=>⟨hs k hk,rfl⟩
 induction h with
 | zx τ y cs h=>exact .zx τ y cs (h.mono rk)
 | qL e a=>exact .qL e a
 | tight e l ne blk off f vP xO h hc=>exact .tight e l ne blk off f vP (hs _ xO) (λi hi=>(h i hi).mono rk) hc
 | qZ=>exact .qZ
 | jF=>exact .jF
 | qB=>exact .qB
 | vj=>exact .vj
 | vf=>exact .vf
 | lI v h=>exact .lI v h
 | yK T=>exact .yK T
 | yG b T d hd=>exact .yG b T d hd
 | yF b T blk n d hd h=>exact .yF b T blk n d hd h
 | ptr b off blk n d hd h=>exact .ptr b off blk n d hd h
 | qA τ y cs blk off xO h hc=>exact .qA τ y cs blk off (hs _ xO) (h.mono rk) hc
 | vD b qh e idx off blk o hb h=>exact .vD b qh e idx off blk o hb h
 | ms b qh e off len cap a hb wD ha fI h=>exact .ms b qh e off len cap a hb wD ha fI h
 | qE f l vs hl h ih=>exact .qE f l vs hl ih
 | agg l vs hl ho h ih=>exact .agg l vs hl ho ih
 | jW l vs hl h ih=>exact .jW l vs hl ih
 | iface t d v h ih=>exact .iface t d v ih
theorem RD.free{κ':KS}(hw:κ'.w=κ.w)(xO:κ'.ok=κ.ok)(xm:κ.st=[]){d:D}{v:Value}(h:RD κ d v):RD κ' d v:=by
 obtain⟨w',rR,ph',zl⟩:=κ'
 subst hw xO
 induction h with
 | zx τ y cs h=>exact .zx τ y cs h
 | qL e a=>exact .qL e a
 | tight e l ne blk off f vP xO h hc=>exact .tight e l ne blk off f vP xO h hc
 | qZ=>exact .qZ
 | jF=>exact .jF
 | qB=>exact .qB
 | vj=>exact .vj
 | vf=>exact .vf
 | lI v h=>exact .lI v h
 | yK T=>exact .yK T
 | yG b T d hd=>grind
 | yF b T blk n d hd h=>grind
 | ptr b off blk n d hd h=>grind
 | qA τ y cs blk off xO h hc=>exact .qA τ y cs blk off xO h hc
 | vD b qh e idx off blk o hb h=>rcases hb with hb | ⟨_,_,_,hb,_⟩ <;> · rw[xm]at hb; simp at hb
 | ms b qh e off len cap a hb wD ha fI h=>rcases hb with hb | ⟨_,_,_,hb,_⟩ <;> · rw[xm]at hb; simp at hb
 | qE f l vs hl h ih=>exact .qE f l vs hl ih
 | agg l vs hl ho h ih=>exact .agg l vs hl ho ih
 | jW l vs hl h ih=>exact .jW l vs hl ih
 | iface t d v h ih=>exact .iface t d v ih
theorem Rc.scalar{w w':World}{ok rR:Nat->Prop}{τ:Ty}{x:den τ}{cs:List Value}(h:Rc w ok τ x cs)(ht:τ.scalar=true):Rc w' rR τ x cs:=by
 induction h with
 | int k n=>exact .int k n
 | bool b=>exact .bool b
 | str s=>exact .str s
 | bI=>cases ht
 | sl=>cases ht
 | nil=>exact .nil
 | cons a b x y c1 c2 h1 h2 i1 i2=>simp only[Ty.scalar,Bool.and_eq_true]at ht; exact .cons a b x y c1 c2 (i1 ht.1) (i2 ht.2)
 | expr=>cases ht
theorem S3{e:Ty}{ys:List (den e)}{v:Value}(h:Src κ e ys v):Rc κ.w (Dd κ) (.sl e) ys [v]:=by
 obtain⟨a,cap,f,rfl,wD,hn,h1,h2⟩:=h.ex
 cases a with
 | none=>obtain⟨rfl,rfl⟩:=hn rfl; exact .bI e none
 | some p =>
  rcases h2 p rfl with⟨rfl,rfl⟩ | ⟨hp,xO,hc⟩
  ·exact .bI e _
  obtain⟨blk,o,sp⟩:=p
  subst hp
  exact .sl e ys blk o cap f xO wD (λi hi=>(h1 i hi).mono λk hk=>⟨.inl hk,rfl⟩) hc
def KS.all(κ:KS):KS:={ κ with ok:=Dd κ }
theorem RD.all{d:D}{v:Value}(h:RD κ d v):RD κ.all d v:=h.weaken λ_ hk=>.inl hk
theorem qj.all{l:List D}{vs:List Value}(h:qj κ l vs):qj κ.all l vs:=⟨h.1,λi h1 h2=>(h.2 i h1 h2).all⟩
theorem W2{x y:D}{v:Value}(hI:Inv κ)(hx:RD κ x v)(h:(eB κ.st x).leads y):RD κ.all y v/\(x.one=true->y.one=true)/\(x.vS=false->y.vS=false):=by
 rcases mm hI hx h with⟨rfl,_⟩ | ⟨e,ys,rfl,hs,_⟩
 ·exact⟨hx.all,id,id⟩
 ·exact⟨RD.dN rfl (S3 hs),λ_=>rfl,λ_=>rfl⟩
theorem XW(hI:Inv κ):∀ {l r:List D} {vs:List Value},qj κ l vs->(∀ d∈l,d.one=true)->(Xc κ.st l).leads r->qj κ.all r vs/\∀ d∈r,d.one=true
 | [],r,vs,h,_,hs=>by cases hs; rw[h.zN]; exact⟨.nil,nofun⟩
 | d::l,r,vs,h,ho,hs=>by
  simp only[Xc,T.zp]at hs
  obtain⟨x,hx,l',hl,rfl⟩:=hs
  obtain⟨v,us,rfl,h1,h2⟩:=h.cons_inv
  obtain⟨g1,g2,_⟩:=W2 hI h1 hx
  obtain⟨k1,k2⟩:=XW hI h2 (λd hd=>ho d (List.mem_cons_of_mem _ hd)) hl
  refine⟨.cons g1 k1,λd hd => ?_⟩
  grind
theorem IC{x y:D}{v:Value}(hI:Inv κ)(hx:RD κ x v)(h:(snap κ.st x).leads y):RD κ.all y v:=by
 cases x with
 | agg l =>
  simp only[snap,T.zp]at h
  obtain⟨r,hr,rfl⟩:=h
  cases hx with
  | agg _ vs hl ho hh =>
   obtain⟨g1,g2⟩:=XW hI (⟨hl,hh⟩:qj κ l vs) ho hr
   exact .agg r vs g1.1 g2 g1.2
 | _=>exact(W2 hI hx h).1
theorem nL{τ:Ty}{d:D}{x:den τ}{v:Value}(hI:Inv κ)(hd:RD κ d v)(h:(nA κ.st τ d).leads x):RD κ.all (.zx τ x) v:=by
 simp only[nA,T.zp,T.vx]at h
 obtain⟨y,h1,h2⟩:=h
 exact yD (IC hI hd h1) h2
theorem QS{x y:D}(h:(eB [] x).leads y):y=x:=by
 cases x with
 | ms=>simp[eB,T.leads]at h
 | _=>exact h.symm
theorem XN:∀ {l r:List D},(Xc [] l).leads r->r=l
 | [],_,h=>h.symm
 | d::l,r,h=>by
  simp only[Xc,T.zp]at h
  obtain⟨x,hx,l',hl,rfl⟩:=h
  rw[QS hx,XN hl]
theorem Ej{x y:D}(h:(snap [] x).leads y):y=x:=by
 cases x with
 | agg l =>
  simp only[snap,T.zp]at h
  obtain⟨r,hr,rfl⟩:=h
  rw[XN hr]
 | _=>exact QS h
theorem Uh{τ:Ty}{d:D}{x:den τ}{v:Value}(hd:RD κ d v)(h:(nA [] τ d).leads x):RD κ (.zx τ x) v:=by
 simp only[nA,T.zp,T.vx]at h
 obtain⟨y,h1,h2⟩:=h
 rw[Ej h1]at h2
 exact yD hd h2
def rO:D->Bool | .zx .. | .qA .. => true | _=>false
def Gx:D->Bool
 | .qE _ l=>l.all rO
 | d=>rO d
theorem Mp{d:D}(h:rO d=true):Gx d=true:=by cases d<;>first | exact h | cases h
theorem tY{st:St}{τ:Ty}{d y:D}(h:(en st τ d).leads y):rO y=true:=by
 unfold en at h
 split at h
 ·split at h
  ·cases h; rfl
  ·exact h.elim
 ·split at h
  ·split at h
   ·cases h; rfl
   ·exact h.elim
  ·exact h.elim
 ·exact h.elim
theorem XT{τ:Ty}{d y:D}{v:Value}(hI:Inv κ)(hd:RD κ d v)(h:(en κ.st τ d).leads y):RD κ.all y v:=by
 unfold en at h
 split at h
 ·split at h
  ·rename_i x z hz
   cases h
   obtain⟨e,rfl⟩:=zX hz
   cases e
   exact hd.all
  ·exact h.elim
 ·rename_i b off
  split at h
  ·rename_i d' hb
   split at h
   ·rename_i z hz
    cases h
    cases ho:Nat.beq off 0 with
    | false=>grind
    | true =>
     have:=Nat.eq_of_beq_eq_true ho
     subst this
     obtain⟨blk,n,cs,t,g1,g2,g3,g4,g5⟩:=hI.blk b _ hb
     cases hd with
     | ptr _ _ cC n' d1 C8 hp =>
      rw[g1]at hp
      cases hp
      have xO:Dd κ blk:=.inr ⟨b,n,g1⟩
      have ht:d'.vS=false:=by
       cases d' with
       | jW l=>simp[gX,D.vS]at hz
       | _=>rfl
      have K1:=fN hz g4 g5.1 ht
      refine .qA τ z cs.toList blk 0 xO (K1.mono λk hk=>⟨.inl hk,rfl⟩) λj v hj => ?_
      show κ.w.cell? _=_
      rw[l8 g2,Nat.zero_add]
      grind
   ·exact h.elim
  ·exact h.elim
 ·exact h.elim
theorem QX{τ:Ty}{d y:D}{v:Value}(hd:RD κ d v)(h:(en [] τ d).leads y):RD κ y v:=by
 unfold en at h
 split at h
 ·split at h
  ·rename_i x z hz
   cases h
   obtain⟨e,rfl⟩:=zX hz
   grind
  ·exact h.elim
 ·rename_i b off
  split at h
  ·grind
  ·exact h.elim
 ·exact h.elim
theorem JS{st:St}{p:pn}{d y:D}(h:(fk st p d).leads y):rO y=true:=by
 cases p with
 | rp τ=>exact tY h
 | im τ=>simp only[fk,T.zp]at h; obtain⟨x,_,rfl⟩:=h; rfl
theorem Kt{p:pn}{d y:D}{v:Value}(hI:Inv κ)(hd:RD κ d v)(h:(fk κ.st p d).leads y):RD κ.all y v:=by
 cases p with
 | rp τ=>exact XT hI hd h
 | im τ=>simp only[fk,T.zp]at h; obtain⟨x,hx,rfl⟩:=h; exact nL hI hd hx
theorem KY{p:pn}{d y:D}{v:Value}(hd:RD κ d v)(h:(fk [] p d).leads y):RD κ y v:=by
 cases p with
 | rp τ=>exact QX hd h
 | im τ=>simp only[fk,T.zp]at h; obtain⟨x,hx,rfl⟩:=h; exact Uh hd hx
theorem nK{st:St}:∀ {ps:List pn} {ds r:List D},(yA st ps ds).leads r->∀ d∈r,rO d=true
 | [],[],r,hs=>by cases hs; nofun
 | p::ps,d::ds,r,hs=>by
  simp only[yA,T.zp]at hs
  obtain⟨x,hx,l,hl,rfl⟩:=hs
  intro d' jR
  rcases List.mem_cons.1 jR with rfl | jR
  ·exact JS hx
  ·exact nK hl d' jR
 | [],_::_,_,hs=>hs.elim
 | _::_,[],_,hs=>hs.elim
theorem pV(hI:Inv κ):∀ {ps:List pn} {ds r:List D} {vs:List Value},qj κ ds vs->(yA κ.st ps ds).leads r->qj κ.all r vs
 | [],[],r,vs,h,hs=>by cases hs; rw[h.zN]; exact .nil
 | p::ps,d::ds,r,vs,h,hs=>by
  simp only[yA,T.zp]at hs
  obtain⟨x,hx,l,hl,rfl⟩:=hs
  obtain⟨v,us,rfl,h1,h2⟩:=h.cons_inv
  exact .cons (Kt hI h1 hx) (pV hI h2 hl)
 | [],_::_,_,_,_,hs=>hs.elim
 | _::_,[],_,_,_,hs=>hs.elim
theorem r8:∀ {ps:List pn} {ds r:List D} {vs:List Value},qj κ ds vs->(yA [] ps ds).leads r->qj κ r vs
 | [],[],r,vs,h,hs=>by cases hs; rw[h.zN]; exact .nil
 | p::ps,d::ds,r,vs,h,hs=>by
  simp only[yA,T.zp]at hs
  obtain⟨x,hx,l,hl,rfl⟩:=hs
  obtain⟨v,us,rfl,h1,h2⟩:=h.cons_inv
  exact .cons (KY h1 hx) (r8 h2 hl)
 | [],_::_,_,_,_,hs=>hs.elim
 | _::_,[],_,_,_,hs=>hs.elim
theorem mF{st:St}{p:mX}{d y:D}(h:(Jq st p d).leads y):(∃ τ x,p=.ty τ/\(nA st τ d).leads x/\y=.zx τ x)\/(∃ τ,p=.rp τ/\(en st τ d).leads y) \/
  ∃ f caps l l',p=.qE f caps/\d=.qE f l/\(yA st caps l).leads l'/\y=.qE f l':=by
 cases p with
 | ty τ =>
  have h':((nA st τ d).bind λx=>T.ret (D.zx τ x)).leads y:=by cases d<;>exact h
  simp only[T.zp]at h'
  obtain⟨x,hx,rfl⟩:=h'
  grind
 | rp τ=>exact .inr (.inl ⟨τ,rfl,by cases d<;>exact h⟩)
 | qE f caps =>
  cases d with
  | qE f' l =>
   simp only[Jq]at h
   cases hb:Nat.beq f f' with
   | false=>rw[hb]at h; exact h.elim
   | true =>
    rw[hb,cond_true,T.zp]at h
    obtain⟨l',hl,rfl⟩:=h
    have:=Nat.eq_of_beq_eq_true hb
    grind
  | _=>exact h.elim
theorem BU{st:St}{p:mX}{d y:D}(h:(Jq st p d).leads y):Gx y=true:=by
 rcases mF h with⟨τ,x,_,_,rfl⟩ | ⟨τ,_,h⟩ | ⟨f,caps,l,l',_,_,h',rfl⟩
 ·rfl
 ·exact Mp (tY h)
 ·exact List.all_eq_true.2 (nK h')
theorem Ld{p:mX}{d y:D}{v:Value}(hI:Inv κ)(hd:RD κ d v)(h:(Jq κ.st p d).leads y):RD κ.all y v:=by
 rcases mF h with⟨τ,x,_,hx,rfl⟩ | ⟨τ,_,h⟩ | ⟨f,caps,l,l',_,rfl,h',rfl⟩
 ·exact nL hI hd hx
 ·exact XT hI hd h
 ·cases hd with
  | qE _ _ vs hl hh =>
   have:=pV hI (⟨hl,hh⟩:qj κ l vs) h'
   exact .qE f l' vs this.1 this.2
theorem FF{p:mX}{d y:D}{v:Value}(hd:RD κ d v)(h:(Jq [] p d).leads y):RD κ y v:=by
 rcases mF h with⟨τ,x,_,hx,rfl⟩ | ⟨τ,_,h⟩ | ⟨f,caps,l,l',_,rfl,h',rfl⟩
 ·exact Uh hd hx
 ·exact QX hd h
 ·cases hd with
  | qE _ _ vs hl hh =>
   have:=r8 (⟨hl,hh⟩:qj κ l vs) h'
   exact .qE f l' vs this.1 this.2
theorem mL{st:St}:∀ {ps:List mX} {ds r:List D},(eC st ps ds).leads r->∀ d∈r,Gx d=true
 | [],[],r,hs=>by cases hs; nofun
 | p::ps,d::ds,r,hs=>by
  simp only[eC,T.zp]at hs
  obtain⟨x,hx,l,hl,rfl⟩:=hs
  intro d' jR
  rcases List.mem_cons.1 jR with rfl | jR
  ·exact BU hx
  ·exact mL hl d' jR
 | [],_::_,_,hs=>hs.elim
 | _::_,[],_,hs=>hs.elim
theorem Xm(hI:Inv κ):∀ {ps:List mX} {ds r:List D} {vs:List Value},qj κ ds vs->(eC κ.st ps ds).leads r->qj κ.all r vs
 | [],[],r,vs,h,hs=>by cases hs; rw[h.zN]; exact .nil
 | p::ps,d::ds,r,vs,h,hs=>by
  simp only[eC,T.zp]at hs
  obtain⟨x,hx,l,hl,rfl⟩:=hs
  obtain⟨v,us,rfl,h1,h2⟩:=h.cons_inv
  exact .cons (Ld hI h1 hx) (Xm hI h2 hl)
 | [],_::_,_,_,_,hs=>hs.elim
 | _::_,[],_,_,_,hs=>hs.elim
theorem oT:∀ {ps:List mX} {ds r:List D} {vs:List Value},qj κ ds vs->(eC [] ps ds).leads r->qj κ r vs
 | [],[],r,vs,h,hs=>by cases hs; rw[h.zN]; exact .nil
 | p::ps,d::ds,r,vs,h,hs=>by
  simp only[eC,T.zp]at hs
  obtain⟨x,hx,l,hl,rfl⟩:=hs
  obtain⟨v,us,rfl,h1,h2⟩:=h.cons_inv
  exact .cons (FF h1 hx) (oT h2 hl)
 | [],_::_,_,_,hs,h=>h.elim
 | _::_,[],_,_,hs,h=>h.elim
def KS.bare(κ:KS)(ok:Nat->Prop):KS:=⟨κ.w,ok,[],[]⟩
theorem Zd{ok:Nat->Prop}(hI:Inv κ)(hs:∀ k,κ.ok k->ok k)(h:∀ k,ok k->k<κ.w.heap.size):Inv (κ.bare ok) :=
 ⟨rfl,h,λb blk n h=>by simp[KS.bare]at h,λb b' blk n n' h=>by nofun,λb x h=>by simp[KS.bare]at h,hI.gl.mono λk hk=>⟨hs k hk,rfl⟩⟩
theorem dn{ok:Nat->Prop}{d:D}{v:Value}(hi:rO d=true)(h:RD { κ with ok:=ok } d v):RD (κ.bare ok) d v:=by
 cases d with
 | zx τ x=>obtain⟨cs,h1,rfl⟩:=RD.y4 h; exact .zx τ x cs h1
 | qA τ x=>cases h with | qA _ _ cs blk off xO h hc=>exact .qA τ x cs blk off xO h hc
 | _=>cases hi
theorem QN{ok:Nat->Prop}{d:D}{v:Value}(hi:Gx d=true)(h:RD { κ with ok:=ok } d v):RD (κ.bare ok) d v:=by
 cases d with
 | qE f l =>
  cases h with
  | qE _ _ vs hl hh=>exact .qE f l vs hl λi h1 h2=>dn (List.all_eq_true.1 hi _ (List.getElem_mem h1)) (hh i h1 h2)
 | zx τ x=>exact dn hi h
 | qA τ x=>exact dn hi h
 | _=>cases hi
theorem JH{κ1:KS}{ok:Nat->Prop}(hI:Inv κ)(oy:Inv κ1)(xm:κ1.st=[])(hx:Ext (κ.bare ok) κ1)(rR:Nat->Prop)(h1:∀ k,κ.ok k->rR k)(h2:∀ k,rR k->κ.ok k\/κ.w.heap.size<=k)(h3:∀ k,rR k->k<κ1.w.heap.size) :
  Ext κ { κ with w:=κ1.w,ok:=rR }/\Inv { κ with w:=κ1.w,ok:=rR }:=by
 have hfr:∀ k,k<κ.w.heap.size->κ1.w.heap[k]? = κ.w.heap[k]? := λk hk=>hx.frame k hk λb n h=>by simp[KS.bare]at h
 have vV:κ.w.heap.size<=κ1.w.heap.size:=hx.size
 have he:Ext κ { κ with w:=κ1.w,ok:=rR }:=⟨hx.os,hx.tape,hx.output,vV,λk hk=>⟨h1 k hk,hfr k (hI.jN k hk)⟩,λk hk=>(h2 k hk).elim .inl (λh=>.inr (.inl h)),λ_ _ _ h=>.inl h,λb d h=>⟨⟨d,h⟩,rfl⟩,
  λb v0 e xs h=>.inr ⟨v0,xs,h,Nat.le_refl _,λ_=>⟨rfl,rfl⟩⟩,λ_ h=>h,Nat.le_refl _,λk hk _=>hfr k hk⟩
 refine⟨he,hI.len,h3,λb blk n h => ?_,hI.inj,λb x h=>(hI.blk b x h).mono he rfl λblk n h=>hfr _ (hI.apart b blk n h).1,hI.gl.mono he.same⟩
 obtain⟨g1,g2⟩:=hI.apart b blk n h
 grind
theorem Bz{g:Nat}{args:List D}{zn:List Value}{d:Option D}{zl:St}(hs:VJ c.P g (c.fn g))(hI:Inv κ)(ha:qj κ args zn)
  (h:(zr (match c.sig g args with | some s=>kB c g s args | none=>iG c g args) κ.st).leads (d,zl)) :
  vL c.P g zn.toArray κ.w λe w'=>∃ (κ':KS) (v:Value),κ'.w=w'/\κ'.st=zl/\Inv κ'/\Ext κ κ'/\e=.returned v/\∀ d',d=some d'->RD κ' d' v:=by
 split at h
 ·rename_i s BK
  unfold kB at h
  cases hm:(!(args.any ZP))with
  | true =>
   rw[hm,cond_true,wo]at h
   obtain⟨h,rfl⟩:=h
   simp only[T.zp]at h
   obtain⟨l,hl,⟨rs,y6⟩,hc,hr⟩:=h
   have yk:=oT ha hl
   have hb:qj (κ.bare κ.ok) l zn:=⟨yk.1,λi h1 h2=>QN (mL hl _ (List.getElem_mem h1)) (yk.2 i h1 h2)⟩
   refine(hs (κ.bare κ.ok) l zn rs y6 hc (Zd hI (λ_ h=>h) hI.jN) hb).mono ?_
   rintro e w' ⟨κ1,rfl,xm,oy,hx,he⟩
   unfold Lh at hr
   split at hr
   ·rename_i ds heq
    cases heq
    cases hr
    obtain⟨v,rfl,hv⟩:=he
    obtain⟨hE,NV⟩:=JH hI oy xm hx κ1.ok (λk hk=>(hx.same k hk).1) (λk hk=>by
     rcases hx.fresh k hk with h | h | ⟨b,n,h⟩
     ·exact .inl h
     ·exact .inr h
     ·simp[KS.bare]at h) oy.jN
    exact⟨{ κ with w:=κ1.w,ok:=κ1.ok },v,rfl,rfl,NV,hE,rfl,λd' jR=>by cases jR; exact RD.free (κ:=κ1) (κ':={ κ with w:=κ1.w,ok:=κ1.ok }) rfl rfl xm hv⟩
   ·exact hr.elim
  | false =>
   rw[hm,cond_false,ct]at h
   obtain⟨h,rfl⟩:=h
   simp only[T.zp]at h
   obtain⟨l,hl,⟨rs,y6⟩,hc,hr⟩:=h
   have yk:=Xm hI ha hl
   have hb:qj (κ.bare (Dd κ)) l zn:=⟨yk.1,λi h1 h2=>QN (mL hl _ (List.getElem_mem h1)) (yk.2 i h1 h2)⟩
   have qc:∀ k,Dd κ k->k<κ.w.heap.size:=by
    rintro k (hk | ⟨b,n,hk⟩)
    ·exact hI.jN k hk
    ·exact(hI.apart b k n hk).1
   refine(hs (κ.bare (Dd κ)) l zn rs y6 hc (Zd hI (λ_ h=>.inl h) qc) hb).mono ?_
   rintro e w' ⟨κ1,rfl,xm,oy,hx,he⟩
   unfold ll at hr
   split at hr
   ·rename_i ds heq
    cases heq
    cases eG:ds.all lr with
    | false=>rw[eG]at hr; exact hr.elim
    | true =>
     rw[eG,cond_true]at hr
     cases hr
     obtain⟨v,rfl,hv⟩:=he
     obtain⟨hE,NV⟩:=JH hI oy xm hx κ.ok (λk hk=>hk) (λk hk=>.inl hk) (λk hk=>Nat.lt_of_lt_of_le (hI.jN k hk) hx.size)
     refine⟨{ κ with w:=κ1.w,ok:=κ.ok },v,rfl,rfl,NV,hE,rfl,λd' jR => ?_⟩
     cases jR
     have one:∀ d u,lr d=true->RD κ1 d u->RD { κ with w:=κ1.w,ok:=κ.ok } d u:=by
      intro d u hd hu
      cases d<;>simp[lr]at hd
      obtain⟨cs,h1,rfl⟩:=RD.y4 hu
      exact .zx _ _ cs (h1.scalar hd)
     have o9:=List.all_eq_true.1 eG
     unfold jG at hv ⊢
     split at hv
     ·exact one _ _ (o9 _ (by simp)) hv
     ·rename_i vP
      cases hv with
      | jW _ vs hl hh=>exact .jW ds vs hl λi h1 h2=>one _ _ (o9 _ (List.getElem_mem h1)) (hh i h1 h2)
   ·exact hr.elim
 ·unfold iG at h
  simp only[zr,T.zp]at h
  obtain⟨⟨rs,y6⟩,hc,hr⟩:=h
  refine(hs κ args zn rs y6 hc hI ha).mono ?_
  rintro e w' ⟨κ1,rfl,xm,oy,hx,he⟩
  cases rs with
  | jg p=>exact hr.elim
  | ret ds =>
   cases hr
   obtain⟨v,rfl,hv⟩:=he
   exact⟨κ1,v,rfl,xm,oy,hx,rfl,λd' jR=>by cases jR; exact hv⟩
end
end Go.AM