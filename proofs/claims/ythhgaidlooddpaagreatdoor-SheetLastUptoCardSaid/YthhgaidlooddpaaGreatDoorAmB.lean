/-
  The abstract machine, part B: texts of our own, the same for each claim.
-/
import Derived.Test.YthhgaidlooddpaaGreatDoorAmA
import Derived.Lib.AppendStr
import Derived.WideLaws
import Derived.Laws.BytesArg
import Derived.Laws.CopyRow
import Derived.Laws.IdiomCopy
set_option linter.unusedVariables false
namespace Go.AM
set_option linter.unusedSectionVars false
variable [vX]
section
variable {c:Ctx} {κ κ':KS}
theorem eK.mono(x:Ext κ κ'){b:Nat}(hp:κ'.ph[b]? = κ.ph[b]?)(hh:∀ blk n,κ.ph[b]? = some (some (blk,n))->κ'.w.heap[blk]? = κ.w.heap[blk]?){y:kA}(h:eK κ b y):eK κ' b y:=by
 cases y with
 | dead=>trivial
 | var d =>
  obtain⟨blk,n,cs,t,h1,h2,h3,h4,h5⟩:=h
  exact⟨blk,n,cs,t,hp.trans h1,(hh blk n h1).trans h2,h3,h4.mono x,h5⟩
 | arr qA e xs =>
  obtain⟨h0,h⟩:=h
  refine⟨h0,fg h (λh=>⟨h.1,hp.trans h.2⟩) ?_⟩
  rintro⟨blk,n,cs,t,h1,h2,h3,h4,hr,f,h5⟩
  exact⟨blk,n,cs,t,hp.trans h1,(hh blk n h1).trans h2,h3,h4,hr,f,λi hi=>⟨(h5 i hi).1.mono x.same,(h5 i hi).2⟩⟩
def KS.zI(κ:KS)(w':World):KS:={ κ with w:=w',ok:=λk=>κ.ok k\/k=κ.w.heap.size }
structure eX(w w':World)(o:Obj):Prop where
 os:w'.os=w.os
 tape:w'.tape=w.tape
 output:w'.output=w.output
 heap:w'.heap=w.heap.push o
theorem eX.size{w w':World}{o:Obj}(g:eX w w' o):w'.heap.size=w.heap.size+1:=by rw[g.heap]; simp
theorem eX.old{w w':World}{o:Obj}(g:eX w w' o){k:Nat}(h:k<w.heap.size):w'.heap[k]? = w.heap[k]? := by
 rw[g.heap,Array.getElem?_push,if_neg (by omega)]
theorem eX.new{w w':World}{o:Obj}(g:eX w w' o):w'.heap[w.heap.size]? = some o:=by rw[g.heap]; simp
theorem eX.alloc(w:World)(o:Obj):eX w (w.alloc o) o:=⟨rfl,rfl,rfl,rfl⟩
theorem eX.drew(w:World)(o:Obj):eX w (w.drew.alloc o) o:=⟨rfl,rfl,rfl,rfl⟩
theorem V1{w':World}{o:Obj}(hI:Inv κ)(g:eX κ.w w' o):Ext κ (κ.zI w'):=by
 refine⟨g.os,g.tape,g.output,by show κ.w.heap.size<=w'.heap.size; rw[g.size]; omega,λk hk=>⟨.inl hk,g.old (hI.yF k hk)⟩,?_,λ_ _ _ h=>.inl h,λb d h=>⟨⟨d,h⟩,rfl⟩,
  λb v0 e xs h=>.inr ⟨v0,xs,h,Nat.le_refl _,λ_=>⟨rfl,rfl⟩⟩,λ_ h=>h,Nat.le_refl _,λk hk _=>g.old hk⟩
 rintro k (hk | hk)
 ·grind
 ·grind
theorem gL{w':World}{o:Obj}(hI:Inv κ)(g:eX κ.w w' o):Inv (κ.zI w'):=by
 refine⟨hI.len,?_,?_,hI.inj,?_,hI.gl.mono (V1 hI g).same⟩
 ·rintro k (hk | hk)
  ·have:=hI.yF k hk; show k<w'.heap.size; rw[g.size]; omega
  ·show k<w'.heap.size; rw[g.size]; omega
 ·intro b blk n h
  obtain⟨h1,h2⟩:=hI.apart b blk n h
  refine⟨by show blk<w'.heap.size; rw[g.size]; omega,?_⟩
  rintro(hk | hk)
  ·exact h2 hk
  ·omega
 ·intro b x hx
  exact(hI.blk b x hx).mono (V1 hI g) rfl λblk n h=>g.old (hI.apart b blk n h).1
def KS.add(κ:KS)(w':World)(n:Nat)(x:kA):KS:={ κ with w:=w',ph:=κ.ph++[some (κ.w.heap.size,n)],st:=κ.st++[x] }
theorem ry{w':World}{o:Obj}{n:Nat}{x:kA}(hI:Inv κ)(g:eX κ.w w' o):Ext κ (κ.add w' n x):=by
 have xK:∀ b y,κ.st[b]? = some y->(κ.st++[x])[b]? = some y:=λb y h=>by rw[List.getElem?_append_left (List.getElem?_eq_some_iff.1 h).1]; exact h
 have Yv:∀ b y,κ.st[b]? = some y->(κ.ph++[some (κ.w.heap.size,n)])[b]? = κ.ph[b]? := λb y h=>by
  rw[List.getElem?_append_left]; rw[hI.len]; exact(List.getElem?_eq_some_iff.1 h).1
 refine⟨g.os,g.tape,g.output,by show κ.w.heap.size<=w'.heap.size; rw[g.size]; omega,λk hk=>⟨hk,g.old (hI.yF k hk)⟩,λk hk=>.inl hk,?_,λb d h=>⟨⟨d,xK b _ h⟩,Yv b _ h⟩,
  λb v0 e xs h=>.inr ⟨v0,xs,xK b _ h,Nat.le_refl _,λ_=>⟨Yv b _ h,rfl⟩⟩,λb h=>xK b _ h,by simp[KS.add],λk hk _=>g.old hk⟩
 intro b blk m h
 simp only[KS.add]at h
 grind
theorem oJ(hI:Inv κ){w':World}{n:Nat}{x:kA}:(κ.add w' n x).ph[κ.st.length]? = some (some (κ.w.heap.size,n)):=by
 simp[KS.add,<- hI.len]
theorem Z0{w':World}{n:Nat}{x:kA}:(κ.add w' n x).st[κ.st.length]? = some x:=by simp[KS.add]
theorem WX{w':World}{o:Obj}{n:Nat}{x:kA}(hI:Inv κ)(g:eX κ.w w' o)(hx:eK (κ.add w' n x) κ.st.length x):Inv (κ.add w' n x):=by
 have hold:∀ (b blk m:Nat),(κ.ph++[some (κ.w.heap.size,n)])[b]? = some (some (blk,m))->κ.ph[b]? = some (some (blk,m))\/(b=κ.ph.length/\blk=κ.w.heap.size):=by
  grind
 refine⟨by simp[KS.add,hI.len],?_,?_,?_,?_,hI.gl.mono (ry hI g).same⟩
 ·intro k hk; have:=hI.yF k hk; show k<w'.heap.size; rw[g.size]; omega
 ·intro b blk m h
  rcases hold b blk m h with h | ⟨rfl,rfl⟩
  ·obtain⟨h1,h2⟩:=hI.apart b blk m h
   exact⟨by show blk<w'.heap.size; rw[g.size]; omega,h2⟩
  ·exact⟨by show κ.w.heap.size<w'.heap.size; rw[g.size]; omega,λhk=>absurd (hI.yF _ hk) (Nat.lt_irrefl _)⟩
 ·intro b b' blk m m' h h'
  rcases hold b blk m h with h | ⟨rfl,rfl⟩<;>rcases hold b' _ m' h' with h' | ⟨rfl,h''⟩
  ·exact hI.inj b b' blk m m' h h'
  ·have:=(hI.apart b blk m h).1; omega
  ·have:=(hI.apart b' _ m' h').1; omega
  ·rfl
 ·intro b y hy
  simp only[KS.add]at hy
  by_cases hb:b<κ.st.length
  ·rw[List.getElem?_append_left hb]at hy
   refine(hI.blk b y hy).mono (ry hI g) ?_ λblk m h=>g.old (hI.apart b blk m h).1
   simp only[KS.add]
   rw[List.getElem?_append_left (by rw[hI.len]; exact hb)]
  ·grind
theorem LV{d:D}{v:Value}{t:TypeId}(hI:Inv κ)(hd:RD κ d v)(ht:d.uM=false)(Lm:∀ T,d.typed=some T->t=T) :
  ∃ κ':KS,κ'.w=κ.w.alloc (.cells v.cells t)/\κ'.st=κ.st++[.var d]/\Inv κ'/\Ext κ κ'/\RD κ' (.ptr κ.st.length 0) (.pointer (some ⟨κ.w.heap.size,0,none⟩)):=by
 have g:=eX.alloc κ.w (.cells v.cells t)
 have hx:=ry (n:=v.cells.size) (x:=.var d) hI g
 refine⟨κ.add _ v.cells.size (.var d),rfl,rfl,WX hI g ?_,hx,.ptr _ 0 _ v.cells.size d Z0 (oJ hI)⟩
 exact⟨κ.w.heap.size,v.cells.size,v.cells,t,oJ hI,g.new,rfl,(j3 hd ht).mono hx,j4 hd,Lm⟩
theorem z0n{t:Nat}{x:Option D}{v:Value}{d:Option D}{zt:St}(hI:Inv κ)(hx:∀ z,x=some z->RD κ z v)
  (h:(zH (Pk x) κ.st).leads (d,zt)) :
  qx c.P (do Pure.pure (.value (<- Instr.box t v))) κ d zt:=by
 cases x with
 | none=>exact absurd h zf
 | some y =>
  simp only[Pk]at h
  cases ht:y.uM||y.typed.isSome with
  | true=>rw[ht]at h; exact absurd h zf
  | false =>
   rw[ht,cond_false]at h
   simp at ht
   obtain⟨ht,Lm⟩:=ht
   have zeV:∀ T,y.typed=some T->t=T:=λT e=>by rw[e]at Lm; cases Lm
   obtain⟨rfl,rfl⟩:=h
   obtain⟨κ',h1,h2,h3,h4,h5⟩:=LV (t:=t) hI (hx _ rfl) ht zeV
   refine⟨κ',_,_,?_,.inl rfl,h2,h3,h4,λ_ he=>by cases he; exact h5⟩
   simp[Instr.box,newVar,newRow,h1]
theorem z8M{d:D}{τ:Ty}{x:den τ}{v:Value}{t:TypeId}(hI:Inv κ)(hd:RD κ d v)(hx:fp τ d=some x) :
  ∃ κ':KS,κ'.w=κ.w.alloc (.cells v.cells t)/\κ'.st=κ.st/\Inv κ'/\Ext κ κ'/\RD κ' (.qR τ x) (.pointer (some ⟨κ.w.heap.size,0,none⟩)):=by
 have g:=eX.alloc κ.w (.cells v.cells t)
 have HR:=V1 hI g
 obtain⟨cs,h1,h2⟩:=RD.gL (bN hd hx)
 have hc:=Qe h1.len h1.one
 have hn:(κ.w.alloc (.cells v.cells t)).heap[κ.w.heap.size]? = some (.cells v.cells t (0,0)):=g.new
 have sJ:∀ j u,cs[j]? = some u->(κ.w.alloc (.cells v.cells t)).cell? ⟨κ.w.heap.size,0+j,none⟩=some u:=by
  simp
  grind
 exact⟨κ.zI _,rfl,rfl,gL hI g,HR,.qR τ x cs κ.w.heap.size 0 (.inr rfl) (h1.mono HR.same) sJ⟩
theorem EC{t:Nat}{x:Option D}{v:Value}{d:Option D}{zt:St}(hI:Inv κ)(hx:∀ z,x=some z->RD κ z v)
  (h:(zH (RM c t x) κ.st).leads (d,zt)):qx c.P (do Pure.pure (.value (<- Instr.box t v))) κ d zt:=by
 have key:∀ (y:D) (τ:Ty) (z:den τ),x=some y->fp τ y=some z->(zH (val (.qR τ z)) κ.st).leads (d,zt)->qx c.P (do Pure.pure (.value (<- Instr.box t v))) κ d zt:=by
  intro y τ z hy hz h
  obtain⟨rfl,rfl⟩:=h
  obtain⟨κ',h1,h2,h3,h4,h5⟩:=z8M (t:=t) hI (hx y hy) hz
  refine⟨κ',_,_,?_,.inl rfl,h2,h3,h4,λ_ he=>by cases he; exact h5⟩
  simp[Instr.box,newVar,newRow,h1]
 unfold RM at h
 split at h
 ·rename_i τ z
  exact key _ τ z rfl (by simp[fp,wP]) h
 ·split at h
  ·split at h
   ·grind
   ·exact absurd h zf
  ·exact absurd h zf
 ·exact absurd h zf
theorem EF{t:Nat}{dst:Option Nat}{x:Option D}{v:Value}{d:Option D}{zt:St}(hI:Inv κ)(hx:∀ z,x=some z->RD κ z v)
  (h:(zH (RB c t dst x) κ.st).leads (d,zt)):qx c.P (do Pure.pure (.value (<- Instr.box t v))) κ d zt:=by
 unfold RB at h
 cases hb:z9N c dst with
 | true=>rw[hb]at h; exact EC hI hx h
 | false=>rw[hb]at h; exact z0n hI hx h
theorem rN{v:Value}{d:D}(h:p9 v=some d):RD κ d v/\d.one=true/\d.uM=false/\(∀ cs,v≠.agg cs):=by
 unfold p9 at h
 split at h<;>cases h<;>refine⟨?_,rfl,rfl,λ_=>nofun⟩
 ·exact .int
 ·exact .bool
 ·rename_i s; have:=RD.str (κ:=κ) (s:=s.data.toList); simpa using this
 ·exact .xr
 ·exact .yd
 ·exact .vW
 ·exact .qV
 ·exact .vV
theorem Js{v:Value}{d:D}(h:Wo v=some d):RD κ d v/\d.uM=false:=by
 unfold Wo at h
 split at h
 ·rename_i cs
  split at h
  ·rename_i l hl
   cases h
   have oz:∀ x∈l,x.one=true:=by
    intro x hx
    have:some x∈cs.toList.map p9:=by rw[dw hl]; exact List.mem_map.2 ⟨x,hx,rfl⟩
    obtain⟨u,_,hu⟩:=List.mem_map.1 this
    exact(rN (κ:=κ) hu).2.1
   have hr:=yQ (κ:=κ) (vs:=cs.toList) hl (by simp) (λi d v hd hv=>by
    simp only[List.getElem?_map,hv,Option.map_some,Option.some.injEq]at hd
    exact(rN hd).1)
   refine⟨?_,rfl⟩
   have:=RD.agg l cs.toList hr.1 oz hr.2
   omega
  ·cases h
 ·exact⟨(rN h).1,(rN (κ:=κ) h).2.2.1⟩
theorem ZW{v:Value}{d:D}(h:p9 v=some d):(∀ l,d≠.agg l)/\(∀ T,d≠.cA T)/\∀ b T,d≠.kJ b T:=by
 unfold p9 at h
 grind
theorem Cs{v:Value}{d:D}(h:Wo v=some d):d.typed=none:=by
 unfold Wo at h
 split at h
 ·rename_i cs
  split at h
  ·rename_i l hl
   cases h
   have hz:=dw hl
   cases l with
   | nil=>rfl
   | cons x r =>
    have:some x∈cs.toList.map p9:=by rw[hz]; simp
    obtain⟨u,_,hu⟩:=List.mem_map.1 this
    obtain⟨_,h1,h2⟩:=ZW hu
    cases x<;>first | rfl | exact absurd rfl (h1 _) | exact absurd rfl (h2 _ _)
  ·cases h
 ·have:=(ZW h).1
  cases d<;>first | rfl | exact absurd rfl (this _)
structure ZD(t:Nat)(d:D)(z:Value):Prop where
 rd:∀ κ:KS,RD κ d z
 yq:d.uM=false
 ty:∀ T,d.typed=some T->t=T
theorem T3{t:Nat}{d:D}{z:Value}(h:Wo z=some d):ZD t (PB c t d) z:=by
 have h0:∀ κ:KS,RD κ d z:=λκ=>(Js h).1
 have h1:d.uM=false:=(Js (κ:=⟨default,λ_=>False,[],[]⟩) h).2
 have h2:=Cs h
 have same:ZD t d z:=⟨h0,h1,λT e=>by grind⟩
 unfold PB
 split
 ·rename_i r
  cases hs:z5p c t with
  | false=>exact same
  | true =>
   refine⟨λκ => ?_,rfl,λT e=>by cases e; rfl⟩
   cases h0 κ with
   | agg _ vs hl ho hh =>
    have hR:qE κ (.yd::r) vs:=⟨hl,hh⟩
    obtain⟨v,us,rfl,g1,g2⟩:=hR.cons_inv
    have hR2:qE κ (.cA t::r) (v::us):=.cons (by cases g1; exact .cA t) g2
    exact .agg _ _ hR2.1 (λx hx=>by
     rcases List.mem_cons.1 hx with rfl | hx
     ·rfl
     ·exact ho x (List.mem_cons_of_mem _ hx)) hR2.2
 ·exact same
theorem fj{t:Nat}{d:D}(h:Wt c t=some d):∃ i z,c.P.info? t=some i/\i.zero=some z/\ZD t d z:=by
 unfold Wt at h
 split at h
 ·rename_i i hi
  split at h
  ·rename_i z hz
   split at h
   ·rename_i d0 NX
    cases h
    exact⟨i,z,hi,hz,T3 NX⟩
   ·cases h
  ·cases h
 ·cases h
theorem FH{t:Nat}{d:Option D}{zt:St}(hI:Inv κ)
  (h:(zH (nE c t) κ.st).leads (d,zt)) :
  qx c.P (do Pure.pure (.value (<- Instr.alloc t true (.tuple #[])))) κ d zt:=by
 unfold nE at h
 split at h
 ·rename_i y hy
  obtain⟨i,z,h1,h2,h3⟩:=fj hy
  obtain⟨rfl,rfl⟩:=h
  obtain⟨κ',g1,g2,g3,g4,g5⟩:=LV (t:=t) hI (h3.rd κ) h3.yq h3.ty
  refine⟨κ',_,_,?_,.inl rfl,g2,g3,g4,λ_ he=>by cases he; exact g5⟩
  simp[Instr.alloc,zeroValue,typeInfo,h1,h2,newVar,newRow,g1]
 ·exact absurd h zf
end
end Go.AM
namespace Go.AM
set_option linter.unusedSectionVars false
variable [vX]
section
variable {c:Ctx} {κ:KS}
def KS.Bh(κ:KS)(b blk:Nat)(cs:Array Value)(x:kA):KS:={ κ with w:=κ.w.setRow blk cs,st:=κ.st.set b x }
def Alike:kA->kA->Prop
 | .var _,.var _=>True
 | .arr v e xs,.arr v' e' xs'=>e=e'/\v<=v'/\(v=v'->xs.length=xs'.length)
 | _,_=>False
theorem ny{b blk n:Nat}{cs:Array Value}{x y:kA}(hI:Inv κ)(hp:κ.ph[b]? = some (some (blk,n)))(hy:κ.st[b]? = some y)(ha:Alike y x):Ext κ (κ.Bh b blk cs x):=by
 have qu:b<κ.st.length:=(List.getElem?_eq_some_iff.1 hy).1
 have vM:∀ k,κ.ok k->k≠blk:=λk hk e=>(hI.apart b blk n hp).2 (e▸hk)
 refine⟨rfl,rfl,rfl,by simp[KS.Bh],λk hk=>⟨hk,setRow_other _ _ _ _ (vM k hk)⟩,λk hk=>.inl hk,λ_ _ _ h=>.inl h,?_,?_,?_,by simp[KS.Bh],?_⟩
 ·intro b' d hd
  refine⟨?_,rfl⟩
  simp only[KS.Bh,List.getElem?_set]
  split
  ·rename_i e
   subst e
   rw[hy]at hd; cases hd
   cases x<;>simp[Alike]at ha
   simp
  ·grind
 ·intro b' v0 e tq hd
  simp only[KS.Bh,List.getElem?_set]
  split
  ·rename_i e'
   subst e'
   rw[hy]at hd; cases hd
   cases x<;>simp[Alike]at ha
   grind
  ·grind
 ·intro b' hd
  simp only[KS.Bh,List.getElem?_set]
  split
  ·rename_i e
   subst e
   rw[hy]at hd; cases hd
   simp[Alike]at ha
  ·exact hd
 ·intro k hk hn
  exact setRow_other _ _ _ _ (λe=>hn b n (e▸hp))
theorem Zt{b blk n:Nat}{cs:Array Value}{x y:kA}(hI:Inv κ)(hp:κ.ph[b]? = some (some (blk,n)))(hy:κ.st[b]? = some y)(ha:Alike y x)
  (hx:eK (κ.Bh b blk cs x) b x):Inv (κ.Bh b blk cs x):=by
 refine⟨by simp[KS.Bh,hI.len],?_,?_,hI.inj,?_,hI.gl.mono (ny hI hp hy ha).same⟩
 ·intro k hk; show k<(κ.w.setRow blk cs).heap.size; rw[setRow_size]; exact hI.yF k hk
 ·intro b' lW m h
  obtain⟨h1,h2⟩:=hI.apart b' lW m h
  exact⟨by show lW<(κ.w.setRow blk cs).heap.size; rw[setRow_size]; exact h1,h2⟩
 ·intro b' z hz
  by_cases hb:b=b'
  ·subst hb
   simp only[KS.Bh]at hz
   grind
  ·simp only[KS.Bh,List.getElem?_set,if_neg hb]at hz
   refine(hI.blk b' z hz).mono (ny hI hp hy ha) rfl λlW m h => ?_
   refine setRow_other _ _ _ _ λe => ?_
   subst e
   exact hb (hI.inj b b' _ n m hp h)
theorem GA{d d':D}{t:Nat}(h:n8 d d'=true)(hd:∀ T,d.typed=some T->t=T):∀ T,d'.typed=some T->t=T:=by
 intro T hT
 unfold n8 at h
 rw[hT]at h
 cases NX:d.typed with
 | none=>grind
 | some T' =>
  rw[NX]at h
  have e:=Nat.eq_of_beq_eq_true h
  grind
theorem nH{t:Nat}{n blk o:Nat}{v:Value}{cs:Array Value}{T:TypeId}(hn:fP c t=some n)(hv:v.cells.toList.length=n)(h1:∀ u∈v.cells.toList,u.oneCell'=true)
  (hg:κ.w.heap[blk]? = some (.cells cs T (0,0))) (hle:o+n<=cs.size) :
  (storeVar t ⟨blk,o,none⟩ v).run c.P κ.w=.ok () (κ.w.setRow blk (cs.toList.take o++v.cells.toList++cs.toList.drop (o+n)).toArray):=by
 have hs:v.cells.size=n:=by simpa using hv
 have:=run_storeCells_at c.P blk o T v.cells.toList 0 cs κ.w hg (by grind) h1
 simp[storeVar,run_sizeOf hn,hs,this]
theorem iM{l:List D}{vs us:List Value}{x:List D}(h:qE κ l vs)(hx:qE κ x us)(o n:Nat) :
  qE κ (l.take o++x++l.drop (o+n)) (vs.take o++us++vs.drop (o+n)):=((h.take o).append hx).append (h.drop (o+n))
theorem Z1{cs us:List Value}{o n:Nat}(hu:us.length=n)(ho:o+n<=cs.length)(p:Nat) :
  (cs.take o++us++cs.drop (o+n))[p]? = if p<o then cs[p]? else if p<o+n then us[p-o]? else cs[p]? := by grind
theorem Yc{t:Nat}{d x r:D}{off:Nat}(h:CZ c t d off x=some r):∃ n,fP c t=some n/\0<n/\(qh x).length=n/\off+n<=(qh d).length /\
  qh r=(qh d).take off++qh x++(qh d).drop (off+n)/\((∀ y∈qh d,y.one=true)->(∀ y∈qh x,y.one=true)->∀ y∈qh r,y.one=true)/\x.uM=false:=by
 unfold CZ at h
 split at h
 ·cases h
 ·rename_i n hn
  cases hb:Nat.blt 0 n&&Nat.beq n (qh x).length&&Nat.ble (off+n) (qh d).length with
  | false=>grind
  | true =>
   rw[hb,cond_true]at h
   simp only[Bool.and_eq_true]at hb
   obtain⟨⟨h0,h1⟩,h2⟩:=hb
   have h0':0<n:=Nat.le_of_ble_eq_true h0
   have WD:n=(qh x).length:=Nat.eq_of_beq_eq_true h1
   have h2':=Nat.le_of_ble_eq_true h2
   have Bo:x.uM=false:=by
    cases x with
    | yq l=>simp[qh]at WD; omega
    | _=>rfl
   cases hw:Nat.beq n (qh d).length with
   | true =>
    have h3:n=(qh d).length:=Nat.eq_of_beq_eq_true hw
    have h4:off=0:=by omega
    subst h4
    grind
   | false =>
    rw[hw,cond_false]at h
    cases h
    refine⟨n,hn,h0',WD.symm,h2',rfl,λhd hx y hy => ?_,Bo⟩
    simp only[qh,List.mem_append]at hy
    rcases hy with(hy | hy) | hy
    ·exact hd y (List.mem_of_mem_take hy)
    ·exact hx y hy
    ·exact hd y (List.mem_of_mem_drop hy)
theorem pB{τ:Ty}{r:D}{x:den τ}{vs:List Value}(h:fp τ r=some x)(hr:qE κ (qh r) vs)(oz:∀ y∈qh r,y.one=true)(ht:r.uM=false):Rc κ.w κ.ok τ x vs:=by
 cases r with
 | zI σ y=>obtain⟨rfl,rfl⟩:=qk h; exact WO _ _ hr
 | agg l =>
  have:=bN (RD.agg l vs hr.1 oz hr.2) h
  obtain⟨cs,h1,h2⟩:=RD.gL this
  have hc:=Qe h1.len h1.one
  simp only[Value.cells]at hc
  grind
 | yq l=>cases ht
 | _ =>
  obtain⟨v,r',rfl,h1,h2⟩:=qE.cons_inv hr
  have e2:=h2.qg
  subst e2
  have h3:=bN h1 h
  obtain⟨cs,h4,h5⟩:=RD.gL h3
  have SH:τ.isAgg=false:=by
   cases hta:τ.isAgg with
   | false=>rfl
   | true=>simp[fp,D.isAgg,hta]at h
  obtain⟨u,rfl⟩:=h4.single SH
  rw[VD SH]at h5
  rwa [h5]
theorem Fq{t:Nat}{a x:Option D}{v u:Value}{d:Option D}{zt:St}(hI:Inv κ)(ha:∀ z,a=some z->RD κ z v)(hx:∀ z,x=some z->RD κ z u)
  (h:(zH (Vj c t a x) κ.st).leads (d,zt)):qx c.P (do Instr.storeAt t v u; Pure.pure .skip) κ d zt:=by
 unfold Vj at h
 split at h
 ·rename_i b off y
  simp only[zH]at h
  split at h
  ·rename_i d0 hb
   split at h
   ·rename_i r hr
    cases wg:n8 d0 r with
    | false=>rw[wg]at h; exact h.elim
    | true =>
    rw[wg,cond_true]at h
    simp only[T.leads,Prod.mk.injEq]at h
    obtain⟨rfl,rfl⟩:=h
    obtain⟨n,hn,h0,Bc,hle,CP,oz,Bo⟩:=Yc hr
    cases ha _ rfl with
    | ptr _ _ blk m d1 hd hp =>
     obtain⟨lW,m',cs,T,g1,g2,g3,g4,g5⟩:=hI.blk b _ hb
     rw[hp]at g1
     cases g1
     have hy:=hx _ rfl
     have hfy:=j3 hy Bo
     have hvl:u.cells.toList.length=n:=by rw[<- hfy.1]; exact Bc
     have uH:off+n<=cs.size:=by have:=g4.1; simp at this; omega
     have h1:∀ z∈u.cells.toList,z.oneCell'=true:=by
      intro z hz
      obtain⟨i,hi,rfl⟩:=List.getElem_of_mem hz
      exact(hfy.2 i (hfy.1▸hi) hi).Vk (j4 hy _ (List.getElem_mem _))
     have vK:=nH (c:=c) (κ:=κ) hn hvl h1 g2 uH
     have cT:Alike (.var d0) (.var r):=trivial
     let bS:=(cs.toList.take off++u.cells.toList++cs.toList.drop (off+n)).toArray
     have hex:=ny (cs:=bS) (x:=.var r) hI hp hb cT
     refine⟨κ.Bh b blk bS (.var r),.skip,undef,?_,.inr ⟨rfl,rfl⟩,rfl,Zt hI hp hb cT ?_,hex,λ_ he=>by cases he⟩
     ·simp only[Sem.run_bind,Instr.storeAt,Instr.sureAddr,Sem.run_pure,Result.andThen_ok,vK]; rfl
     ·refine⟨blk,m,bS,T,hp,setRow_heap _ _ _ _ _ _ g2,?_,?_,oz g5.1 (j4 hy),GA wg g5.2⟩
      ·grind
      ·rw[CP]; exact(iM g4 hfy off n).mono hex
   ·exact h.elim
  ·exact h.elim
 ·rename_i b qA e idx off y
  simp only[zH]at h
  split at h
  ·rename_i jQ e' xs hb
   cases he:decide (e'=e)with
   | false=>rw[he]at h; exact h.elim
   | true =>
    rw[he,cond_true]at h
    have TX:e'=e:=of_decide_eq_true he
    subst TX
    obtain⟨⟨rfl,qu⟩,h⟩:=h
    split at h
    ·rename_i r hr
     split at h
     ·rename_i z hz
      simp only[T.leads,Prod.mk.injEq]at h
      obtain⟨rfl,rfl⟩:=h
      obtain⟨n,hn,h0,Bc,hle,CP,oz,Bo⟩:=Yc hr
      cases ha _ rfl with
      | uo _ _ _ _ _ blk o hold hp =>
       obtain⟨m,p1,rfl⟩:=hp xs hb qu
       obtain⟨uH,⟨JV,_⟩ | ⟨lW,n',cs,T,g1,g2,g3,g4,gr,f,g5⟩⟩:=hI.blk b _ hb
       ·grind
       ·rw[p1]at g1
        cases g1
        rw[WY qu]at hr CP hle oz
        have hy:=hx _ rfl
        have hfy:=j3 hy Bo
        have hvl:u.cells.toList.length=n:=by rw[<- hfy.1]; exact Bc
        obtain⟨k1,k2⟩:=g5 idx qu
        have C0:=k1.len
        have KA:off+n<=e'.size:=by simpa[qh,Zw]using hle
        have zjG:idx*e'.size+e'.size<=xs.length*e'.size:=by rw[<- Nat.succ_mul]; exact Nat.mul_le_mul_right _ qu
        have NM:idx*e'.size+off+n<=cs.size:=by omega
        have h1:∀ z∈u.cells.toList,z.oneCell'=true:=by
         intro z hz
         obtain⟨i,hi,rfl⟩:=List.getElem_of_mem hz
         exact(hfy.2 i (hfy.1▸hi) hi).Vk (j4 hy _ (List.getElem_mem _))
        have vK:=nH (c:=c) (κ:=κ) hn hvl h1 g2 NM
        have cT:Alike (.arr qA e' xs) (.arr qA e' (xs.set idx z)):=⟨rfl,Nat.le_refl _,λ_=>by simp⟩
        let bS:=(cs.toList.take (idx*e'.size+off)++u.cells.toList++cs.toList.drop (idx*e'.size+off+n)).toArray
        have hex:=ny (cs:=bS) (x:=.arr qA e' (xs.set idx z)) hI p1 hb cT
        refine⟨κ.Bh b blk bS (.arr qA e' (xs.set idx z)),.skip,undef,?_,.inr ⟨rfl,rfl⟩,rfl,Zt hI p1 hb cT ?_,hex,λ_ he=>by cases he⟩
        ·simp only[Sem.run_bind,Instr.storeAt,Instr.sureAddr,Sem.run_pure,Result.andThen_ok,vK]; rfl
        ·have hlen:bS.size=cs.size:=by simp[bS,hvl]; omega
         refine⟨uH,.inr ⟨blk,m,bS,T,p1,setRow_heap _ _ _ _ _ _ g2,by rw[hlen]; exact g3,by simpa using g4,?_⟩⟩
         -- cells of the element that is written
         let fi:=(f idx).take off++u.cells.toList++(f idx).drop (off+n)
         have zhr:qE κ (qh r) fi:=by
          rw[CP]
          exact iM (ou k1) hfy off n
         have hrt:r.uM=false:=by
          cases r with
          | yq l =>
           have h6:=congrArg List.length CP
           rw[List.length_append,List.length_append,Bc]at h6
           have h7:(qh (D.yq l)).length=0:=rfl
           omega
          | _=>rfl
         have DT:=pB hz zhr (oz (fa _ _) (j4 hy)) hrt
         have K2:∀ p,bS[p]? = if p<idx*e'.size+off then cs[p]? else if p<idx*e'.size+off+n then u.cells.toList[p-(idx*e'.size+off)]? else cs[p]? := by
          intro p
          have:=Z1 (cs:=cs.toList) (us:=u.cells.toList) hvl (by simpa using NM) p
          simpa only[bS,List.getElem?_toArray,Array.getElem?_toList]using this
         have zfh:∀ j,fi[j]? = if j<off then(f idx)[j]? else if j<off+n then u.cells.toList[j-off]? else(f idx)[j]? := λj=>Z1 hvl (by omega) j
         refine⟨gr,λi=>if i=idx then fi else f i,λi hi => ?_⟩
         rw[List.length_set]at hi
         by_cases hii:i=idx
         ·subst hii
          simp only[if_true,List.getElem_set_self]
          refine⟨DT.mono hex.same,λj w hj => ?_⟩
          rw[zfh]at hj
          rw[K2]
          split at hj
          ·rw[if_pos (by omega)]; exact k2 j w hj
          ·split at hj
           ·rw[if_neg (by omega),if_pos (by omega)]; rw[<- hj]; congr 1; omega
           ·rw[if_neg (by omega),if_neg (by omega)]; exact k2 j w hj
         ·simp only[if_neg hii]
          obtain⟨q1,q2⟩:=g5 i hi
          refine⟨by rw[List.getElem_set_ne (λe=>hii e.symm)]; exact q1.mono hex.same,λj w hj => ?_⟩
          have Pf:j<e'.size:=by rw[<- q1.len]; exact(List.getElem?_eq_some_iff.1 hj).1
          rw[K2]
          rcases Nat.lt_or_gt_of_ne hii with KL | hgt'
          ·have:i*e'.size+e'.size<=idx*e'.size:=by rw[<- Nat.succ_mul]; exact Nat.mul_le_mul_right _ KL
           rw[if_pos (by omega)]; exact q2 j w hj
          ·have:idx*e'.size+e'.size<=i*e'.size:=by rw[<- Nat.succ_mul]; exact Nat.mul_le_mul_right _ hgt'
           rw[if_neg (by omega),if_neg (by omega)]; exact q2 j w hj
     ·exact h.elim
    ·exact h.elim
  ·exact h.elim
 ·exact absurd h zf
end
end Go.AM
namespace Go.AM
set_option linter.unusedSectionVars false
variable [vX]
section
variable {c:Ctx} {κ:KS}
theorem XJ:∀ (vs:List Value) (cells:Array Value) (off k:Nat),off+k+vs.length<=cells.size ->
  ((vs.zipIdx k).foldl (λ(cs:Array Value) (p:Value×Nat)=>cs.setIfInBounds (off+p.2) p.1) cells).toList=cells.toList.take (off+k)++vs++cells.toList.drop (off+k+vs.length)
 | [],cells,off,k,_=>by simp
 | v::vs,cells,off,k,h=>by
  simp only[List.length_cons]at h
  simp only[List.zipIdx_cons,List.foldl_cons]
  rw[XJ vs _ off (k+1) (by simp; omega)]
  have qu:off+k<cells.toList.length:=by simp; omega
  simp only[Array.toList_setIfInBounds,List.length_cons]
  have e1:(cells.toList.set (off+k) v).take (off+(k+1))=cells.toList.take (off+k)++[v]:=by
   rw[show off+(k+1)=off+k+1 by omega,List.take_succ_eq_append_getElem (by simpa using qu)]
   rw[List.take_set_of_le (Nat.le_refl _)]
   simp
  have e2:(cells.toList.set (off+k) v).drop (off+(k+1)+vs.length)=cells.toList.drop (off+k+(vs.length+1)):=by
   rw[List.drop_set_of_lt (by omega)]
   grind
  grind
theorem Cx{place:Nat->Option (Nat×Nat)}{cells:Array Value}{i off size:Nat}{v:Value}{rest:List (Nat×Value)}(hp:place i=some (off,size))(hs:v.cells.toList.length=size)(hle:off+size<=cells.size) :
  Instr.fill place cells ((i,v)::rest)=Instr.fill place (cells.toList.take off++v.cells.toList++cells.toList.drop (off+size)).toArray rest:=by
 have hs':v.cells.size=size:=by simpa using hs
 have hf:=XJ v.cells.toList cells off 0 (by grind)
 simp only[hs]at hf
 conv=>lhs; unfold Instr.fill
 simp only[hp]
 rw[if_neg (by grind)]
 congr 1
 apply Array.ext'
 rw[<- Array.foldl_toList,Array.toList_zipIdx]
 exact hf
theorem YR{e:Ty}{x:den e}{v:Value}(h:RD κ (.zI e x) v):Rc κ.w κ.ok e x v.cells.toList:=by
 obtain⟨cs,h1,rfl⟩:=RD.gL h
 rw[Qe h1.len h1.one]; exact h1
theorem Y2{e:Ty}{F:Operand->Option D}{G:Operand->Value}(hF:∀ x d,F x=some d->RD κ d (G x)):∀ (L:List (Nat×Operand)) (k:Nat) (cells:Array Value) (l:List (den e)),
  YQ e k (L.map λp=>(p.1,F p.2))=some l->(k+L.length)*e.size<=cells.size ->
  ∃ fu,Instr.fill (λi=>some (i*e.size,e.size)) cells (L.map λp=>(p.1,G p.2))=some fu/\fu.size=cells.size/\(∀ p,p<k*e.size->fu[p]? = cells[p]?)/\l.length=L.length /\
   ∃ f:Nat->List Value,∀ i (hi:i<l.length),Rc κ.w κ.ok e l[i] (f i)/\∀ j v,(f i)[j]? = some v->fu[(k+i)*e.size+j]? = some v
 | [],k,cells,l,h,_=>by
  simp only[List.map_nil,YQ,Option.some.injEq]at h
  subst h
  exact⟨cells,rfl,rfl,λ_ _=>rfl,rfl,λ_=>[],λi hi=>absurd hi (Nat.not_lt_zero i)⟩
 | (i,x)::L,k,cells,l,h,hle=>by
  simp only[List.map_cons]at h
  cases hx:F x with
  | none=>rw[hx]at h; simp[YQ]at h
  | some d =>
   rw[hx]at h
   simp only[YQ]at h
   cases hb:Nat.beq k i with
   | false=>grind
   | true =>
    have hik:k=i:=Nat.eq_of_beq_eq_true hb
    subst hik
    rw[hb,cond_true]at h
    split at h
    ·rename_i y l' hy hl'
     cases h
     have hr:=YR (bN (hF x d hx) hy)
     have hlen:=hr.len
     simp only[List.length_cons]at hle
     have hk1:(k+(L.length+1))*e.size=k*e.size+e.size+L.length*e.size:=by rw[Nat.add_mul,Nat.add_mul]; omega
     have sJ:k*e.size+e.size<=cells.size:=by omega
     let c1:=(cells.toList.take (k*e.size)++(G x).cells.toList++cells.toList.drop (k*e.size+e.size)).toArray
     have Nb:c1.size=cells.size:=by simp only[c1,List.size_toArray,List.length_append,List.length_take,List.length_drop,hlen,Array.length_toList]; omega
     have hg:∀ p,c1[p]? = if p<k*e.size then cells[p]? else if p<k*e.size+e.size then(G x).cells.toList[p-k*e.size]? else cells[p]? := by
      grind
     obtain⟨fu,h1,h2,h3,h4,f,h5⟩:=Y2 hF L (k+1) c1 l' hl' (by rw[Nb,show k+1+L.length=k+(L.length+1) by omega]; exact hle)
     refine⟨fu,?_,h2.trans Nb,?_,by simp[h4],λi=>match i with | 0=>(G x).cells.toList | i+1=>f i,?_⟩
     ·simp only[List.map_cons]
      rw[Cx rfl hlen sJ]
      exact h1
     ·grind
     ·intro i hi
      cases i with
      | zero =>
       grind
      | succ i =>
       have:=h5 i (by simpa using hi)
       rw[show k+1+i=k+(i+1) by omega]at this
       exact this
    ·cases h
theorem pV{t n:Nat}(h:ng c t=some n):∃ i,c.P.info? t=some i/\i.bytes=n:=by
 unfold ng at h
 cases hi:c.P.info? t with
 | none=>grind
 | some i=>grind
theorem ic{et:Nat}{e:Ty}{z:den e}(h:zeroOf c et e=some z):∃ i v,c.P.info? et=some i/\i.zero=some v/\Rc κ.w κ.ok e z v.cells.toList:=by
 unfold zeroOf at h
 split at h
 ·rename_i d hd
  obtain⟨i,v,h1,h2,h3⟩:=fj hd
  exact⟨i,v,h1,h2,YR (bN (h3.rd κ) h)⟩
 ·cases h
theorem WC{t n:Nat}{L:List (Nat×Operand)}{F:Operand->Option D}{G:Operand->Value}{d:Option D}{zt:St}(hI:Inv κ)(hF:∀ x d,F x=some d->RD κ d (G x))
  (h:(zH (mM c t n (L.map λp=>(p.1,F p.2))) κ.st).leads (d,zt)) :
  qx c.P (do Pure.pure (.value (<- Instr.buildSlice t n (L.map λp=>(p.1,G p.2)).toArray))) κ d zt:=by
 unfold mM at h
 split at h
 ·exact absurd h zf
 ·rename_i et het
  have hu:=uq het
  split at h
  ·rename_i e Lm
   cases hb:k9 c et e&&Nat.beq n (L.map λp=>(p.1,F p.2)).length&&Nat.ble n 1000&&Nat.ble e.size 100&&(zeroOf c et e).isSome with
   | false=>rw[hb]at h; exact absurd h zf
   | true =>
    rw[hb,cond_true]at h
    simp only[Bool.and_eq_true]at hb
    obtain⟨⟨⟨⟨wg,hn⟩,h1⟩,h2⟩,h3⟩:=hb
    have hn':n=L.length:=by have:=Nat.eq_of_beq_eq_true hn; simpa using this
    have WD:=Nat.le_of_ble_eq_true h1
    have h2':=Nat.le_of_ble_eq_true h2
    obtain⟨hs,_⟩:=vr wg
    obtain⟨z,hz⟩:=Option.isSome_iff_exists.1 h3
    obtain⟨i,zv,FW,XH,hi3⟩:=ic (κ:=κ) hz
    split at h
    ·rename_i l hl
     cases hz0:Nat.beq n 0&&Nat.blt 0 e.size with
     | true =>
     rw[hz0,cond_true]at h
     simp only[Bool.and_eq_true]at hz0
     obtain⟨hz0,uH⟩:=hz0
     have NM:0<e.size:=Nat.le_of_ble_eq_true uH
     have Pc:=Nat.eq_of_beq_eq_true hz0
     have hL:L=[]:=List.eq_nil_of_length_eq_zero (hn'.symm.trans Pc)
     subst hL
     subst Pc
     simp only[zH,T.leads,Prod.mk.injEq]at h
     obtain⟨rfl,rfl⟩:=h
     have g:=eX.alloc κ.w (.cells #[] et)
     have hex:=ry (n:=0) (x:=.arr 0 e ([]:List (den e))) hI g
     have vK:(Instr.buildSlice t 0 (([]:List (Nat×Operand)).map λp=>(p.1,G p.2)).toArray).run c.P κ.w=.ok (.slice (some ⟨κ.w.heap.size,0,none⟩) 0 0) (κ.w.alloc (.cells #[] et)):=by
      simp[Instr.buildSlice,Sem.run_bind,run_underlying hu,Result.andThen_ok,run_sizeOf hs,Instr.fill,newRow]
      grind
     refine⟨κ.add _ 0 (.arr 0 e []),_,.slice (some ⟨κ.w.heap.size,0,none⟩) 0 0,by simp only[Sem.run_bind,vK,Result.andThen_ok]; rfl,.inl rfl,rfl,WX hI g ?_,hex,?_⟩
     ·exact⟨NM,.inr ⟨κ.w.heap.size,0,#[],et,oJ hI,g.new,rfl,by simp,ZS wg,λ_=>[],λi hi=>absurd hi (Nat.not_lt_zero i)⟩⟩
     ·intro d' kN
      cases kN
      refine .ms _ 0 e 0 0 0 _ (.inr ⟨0,e,_,Z0,Nat.le_refl _⟩) (by omega) nofun (λp hp=>by cases hp; rfl) λxs V9 => ?_
      rw[Z0]at V9
      cases V9
      exact⟨by simp,.inr ⟨κ.w.heap.size,0,0,0,oJ hI,rfl,by omega,by simp,.inl rfl⟩⟩
     | false =>
     rw[hz0,cond_false,jY]at h
     obtain⟨rfl,rfl⟩:=h
     subst hn'
     have hle:L.length*e.size<=100000:=Nat.le_trans (Nat.mul_le_mul WD h2') (by decide)
     have hzs:zv.cells.size=e.size:=by have:=hi3.len; simpa using this
     let cells:Array Value:=(Array.range (L.length*e.size)).map ((if L.length*e.size=0 then #[]else zv.cells)[· % (if L.length*e.size=0 then #[]else zv.cells).size]!)
     have Xl:cells.size=L.length*e.size:=by simp[cells]
     obtain⟨fu,g1,g2,_,g4,f,g5⟩:=Y2 hF L 0 cells l hl (by rw[Xl]; simp)
     have g:=eX.alloc κ.w (.cells fu et)
     have hex:=V1 hI g
     refine⟨κ.zI _,_,.slice (some ⟨κ.w.heap.size,0,none⟩) L.length L.length,?_,.inl rfl,rfl,gL hI g,hex,?_⟩
     ·have CS:Instr.fill (λi=>some (i*e.size,e.size)) cells (L.map λp=>(p.1,G p.2))=some fu:=g1
      simp only[cells]at CS
      simp only[Instr.buildSlice,Sem.run_bind,run_underlying hu,Result.andThen_ok,run_sizeOf hs,gt_iff_lt,if_neg (show ¬ 2 ^ 24<L.length*e.size by omega)]
      by_cases h0:L.length*e.size=0
      ·simp only[if_pos h0]at CS ⊢
       simp only[Sem.run_bind,Sem.run_pure,Result.andThen_ok,CS]
       rfl
      ·simp only[if_neg h0]at CS ⊢
       simp only[Sem.run_bind,Sem.run_pure,Result.andThen_ok,zeroValue,typeInfo,run_program,FW,XH,CS]
       rfl
     ·intro d' kN
      cases kN
      have sJ:∀ i,i<l.length->∀ j v,(f i)[j]? = some v->(κ.zI (κ.w.alloc (.cells fu et))).w.cell? ⟨κ.w.heap.size,0+i*e.size+j,none⟩=some v:=by
       intro i hi j v hj
       have:=(g5 i hi).2 j v hj
       simp only[Nat.zero_add]at this ⊢
       rw[rq (κ:=κ.zI (κ.w.alloc (.cells fu et))) g.new]
       exact this
      rw[<- g4]
      refine .tight e l _ κ.w.heap.size 0 f ?_ (.inr rfl) (λi hi=>(g5 i hi).1.mono hex.same) sJ
      intro vM JV
      subst JV
      simp at g4
      simp[<- g4]at vM
    ·exact absurd h zf
  ·exact absurd h zf
end
end Go.AM
namespace Go.AM
set_option linter.unusedSectionVars false
variable [vX]
section
variable {c:Ctx} {κ:KS}
theorem NK{t:Nat}{x y:Option D}{v u:Value}{d:Option D}{zt:St}(hI:Inv κ)(hx:∀ z,x=some z->RD κ z v)(hy:∀ z,y=some z->RD κ z u)
  (h:(zH (Fy c t x y) κ.st).leads (d,zt)):qx c.P (do Pure.pure (.value (<- Instr.makeSlice t v u))) κ d zt:=by
 unfold Fy at h
 split at h
 ·rename_i et k n k' m het hn hm
  have hu:=uq het
  have:=uj hn hx
  subst this
  have:=uj hm hy
  subst this
  split at h
  ·rename_i e bytes Lm DU
   split at h
   ·rename_i z hz
    cases hb:k9 c et e&&Nat.blt 0 e.size with
    | false=>rw[hb]at h; exact absurd h zf
    | true =>
     rw[hb,cond_true]at h
     simp only[Bool.and_eq_true]at hb
     obtain⟨wg,uH⟩:=hb
     have NM:0<e.size:=Nat.le_of_ble_eq_true uH
     obtain⟨hs,_⟩:=vr wg
     simp only[zH,T.leads,Prod.mk.injEq]at h
     obtain⟨⟨h0,h1,h2,h3⟩,rfl,rfl⟩:=h
     obtain⟨i,zv,FW,XH,hi3⟩:=ic (κ:=κ) hz
     obtain⟨ib,zal,zfv⟩:=pV DU
     obtain⟨i',zag,zke⟩:=dO hs
     rw[FW]at zal zag
     cases zal
     cases zag
     have hzs:zv.cells.size=e.size:=by have:=hi3.len; simpa using this
     let N:=m.toNat*e.size
     let cells:Array Value:=(Array.range N).map (zv.cells[· % zv.cells.size]!)
     have Xl:cells.size=N:=by simp[cells]
     have vK:(Instr.makeSlice t (.int k n) (.int k' m)).run c.P κ.w=.ok (.slice (some ⟨κ.w.heap.size,0,none⟩) n.toNat m.toNat) (κ.w.alloc (.cells cells et)):=by
      have w1:IntKind.i64.wrap n=n:=IntWalk.i64_in _ (by omega)
      have w2:IntKind.i64.wrap m=m:=IntWalk.i64_in _ (by omega)
      have hmb:¬ ((2:Int) ^ 48<bytes*m):=by
       grind
      have ai:∀ k n w,(Go.asInt (.int k n)).run c.P w=.ok n w:=λk n w=>by simp[Go.asInt,asIntOf]
      have hm0:¬ (m<0):=by omega
      have Pc:¬ (n<0):=by omega
      have hnm:¬ (m<n):=by omega
      simp only[Instr.makeSlice,Sem.run_bind,run_underlying hu,Result.andThen_ok,ai,typeInfo,run_program,FW,zfv,w1,w2,Sem.run_pure,gt_iff_lt,hm0,Pc,hnm,hmb,decide_false,Bool.or_self,Bool.false_eq_true,if_false,run_askRoom,run_sizeOf hs]
      by_cases hz0:m.toNat*e.size=0
      ·have hce:cells = #[]:=Array.eq_empty_of_size_eq_zero (by rw[Xl]; exact hz0)
       have e2:∀ g:Nat->Value,(Array.range (m.toNat*e.size)).map g = #[]:=λg=>by rw[hz0]; simp
       simp only[if_pos hz0,Sem.run_bind,Sem.run_pure,Result.andThen_ok,newRow,run_newObj,e2]
       rw[hce]
       rfl
      ·simp only[if_neg hz0,Sem.run_bind,Sem.run_pure,Result.andThen_ok,newRow,run_newObj,zeroValue,typeInfo,run_program,FW,XH]
       rfl
     have g:=eX.alloc κ.w (.cells cells et)
     have hex:=ry (n:=N) (x:=.arr n.toNat e (List.replicate n.toNat z)) hI g
     refine⟨κ.add _ N (.arr n.toNat e (List.replicate n.toNat z)),_,.slice (some ⟨κ.w.heap.size,0,none⟩) n.toNat m.toNat,by simp only[Sem.run_bind,vK,Result.andThen_ok]; rfl,.inl rfl,rfl,WX hI g ?_,hex,?_⟩
     ·refine⟨NM,.inr ⟨κ.w.heap.size,N,cells,et,oJ hI,g.new,Xl,?_,ZS wg,λ_=>zv.cells.toList,λi hi => ?_⟩⟩
      ·rw[List.length_replicate]; exact Nat.mul_le_mul_right _ (by omega)
      ·rw[List.length_replicate]at hi
       refine⟨by rw[List.getElem_replicate]; exact hi3.mono hex.same,λj w hj => ?_⟩
       have Pf:j<e.size:=by rw[<- hi3.len]; exact(List.getElem?_eq_some_iff.1 hj).1
       have qu:i*e.size+j<N:=by
        have:i*e.size+e.size<=N:=by rw[<- Nat.succ_mul]; exact Nat.mul_le_mul_right _ (by omega)
        omega
       have z6J:(i*e.size+j) % e.size=j:=by rw[Nat.mul_comm,Nat.mul_add_mod,Nat.mod_eq_of_lt Pf]
       grind
     ·intro d' kN
      cases kN
      refine .ms _ n.toNat e 0 n.toNat m.toNat _ (.inr ⟨n.toNat,e,_,Z0,Nat.le_refl _⟩) (by omega) nofun (λp hp=>by cases hp; rfl) λxs V9 => ?_
      rw[Z0]at V9
      cases V9
      refine⟨by simp,.inr ⟨κ.w.heap.size,N,0,m.toNat,oJ hI,rfl,by omega,by simp[N],.inr (by simp)⟩⟩
   ·exact absurd h zf
  ·exact absurd h zf
 ·exact absurd h zf
end
end Go.AM
namespace Go.AM
set_option linter.unusedSectionVars false
variable [vX]
section
variable {c:Ctx} {κ:KS}
def kE(f:Nat->List Value):Nat->List Value
 | 0=>[]
 | n+1=>kE f n++f n
theorem uF{f:Nat->List Value}{s:Nat}:∀ {n:Nat},(∀ i,i<n->(f i).length=s)->(kE f n).length=n*s
 | 0,_=>by simp[kE]
 | n+1,h=>by rw[kE,List.length_append,uF (λi hi=>h i (by omega)),h n (by omega),Nat.add_mul]; omega
theorem ru{f:Nat->List Value}{s:Nat}:∀ {n:Nat},(∀ i,i<n->(f i).length=s)->∀ i j,i<n->j<s->(kE f n)[i*s+j]? = (f i)[j]?
 | 0,_,i,_,hi,_=>absurd hi (Nat.not_lt_zero i)
 | n+1,h,i,j,hi,hj=>by
  have hl:=uF (f:=f) (n:=n) (λi hi=>h i (by omega))
  rw[kE]
  by_cases XS:i<n
  ·have:i*s+s<=n*s:=by rw[<- Nat.succ_mul]; exact Nat.mul_le_mul_right _ XS
   rw[List.getElem?_append_left (by omega)]
   exact ru (λi hi=>h i (by omega)) i j XS hj
  ·grind
theorem G4{f:Nat->List Value}:∀ {n:Nat},(∀ i,i<n->∀ v∈f i,v.oneCell'=true)->∀ v∈kE f n,v.oneCell'=true
 | 0,_,v,hv=>by simp[kE]at hv
 | n+1,h,v,hv=>by
  rw[kE,List.mem_append]at hv
  rcases hv with hv | hv
  ·exact G4 (λi hi=>h i (by omega)) v hv
  ·grind
theorem CH{f:Nat->List Value}{s:Nat}{n p:Nat}{v:Value}(hs:0<s)(h:∀ i,i<n->(f i).length=s)(hp:(kE f n)[p]? = some v):∃ i j,i<n/\j<s/\p=i*s+j/\(f i)[j]? = some v:=by
 have qu:=(List.getElem?_eq_some_iff.1 hp).1
 rw[uF h]at qu
 have hi:p / s<n:=(Nat.div_lt_iff_lt_mul hs).2 qu
 have hj:=Nat.mod_lt p hs
 have he:p / s*s+p % s=p:=Nat.div_add_mod' p s
 refine⟨p / s,p % s,hi,hj,he.symm,?_⟩
 rw[<- ru h _ _ hi hj,he]; exact hp
def Pb(κ:KS):Nat->Prop:=λk=>κ.ok k\/∃ b n:Nat,κ.ph[b]? = some (some (k,n))
structure Src(κ:KS)(e:Ty)(ys:List (den e))(v:Value):Prop where
 ex:∃ (a:Option Addr) (cap:Nat) (f:Nat->List Value),v=.slice a ys.length cap/\ys.length<=cap/\(a=none->ys=[]/\cap=0)/\(∀ i (hi:i<ys.length),Rc κ.w κ.ok e ys[i] (f i)) /\
  ∀ p,a=some p->(ys=[]/\cap=0)\/(p.spot=none/\Pb κ p.block/\∀ i,i<ys.length->∀ j u,(f i)[j]? = some u->κ.w.cell? ⟨p.block,p.off+i*e.size+j,none⟩=some u)
theorem LS{e:Ty}{ys:List (den e)}{v:Value}(h:RD κ (.zI (.sl e) ys) v):Src κ e ys v:=by
 rcases(h.vi rfl).Xf with⟨rfl,a0,he⟩ | ⟨blk,off,cap,f,he,wg,vc,h1,h2⟩
 ·cases he; exact⟨⟨a0,0,λ_=>[],rfl,Nat.le_refl _,λ_=>⟨rfl,rfl⟩,λi hi=>absurd hi (Nat.not_lt_zero i),λ_ _=>.inl ⟨rfl,rfl⟩⟩⟩
 ·cases he; exact⟨⟨some ⟨blk,off,none⟩,cap,f,rfl,vc,nofun,h1,λp hp=>by cases hp; exact .inr ⟨rfl,.inl wg,h2⟩⟩⟩
theorem rF{e:Ty}{ys:List (den e)}{ne:Bool}{v:Value}(h:RD κ (.tight e ys ne) v):Src κ e ys v:=by
 cases h with
 | xd _ a0=>exact⟨⟨a0,0,λ_=>[],rfl,Nat.le_refl _,λ_=>⟨rfl,rfl⟩,λi hi=>absurd hi (Nat.not_lt_zero i),λ_ _=>.inl ⟨rfl,rfl⟩⟩⟩
 | tight _ _ _ blk off f vM wg h1 h2=>exact⟨⟨some ⟨blk,off,none⟩,_,f,rfl,Nat.le_refl _,nofun,h1,λp hp=>by cases hp; exact .inr ⟨rfl,.inl wg,h2⟩⟩⟩
theorem WT{e:Ty}{v:Value}(h:RD κ .xr v):Src κ e [] v:=by
 cases h; exact⟨⟨none,0,λ_=>[],rfl,Nat.le_refl _,λ_=>⟨rfl,rfl⟩,λi hi=>absurd hi (Nat.not_lt_zero i),nofun⟩⟩
theorem Ev{b qA off len:Nat}{e:Ty}{xs:List (den e)}{v:Value}(hI:Inv κ)(h:RD κ (.ms b qA e off len) v)(hb:κ.st[b]? = some (.arr qA e xs)):Src κ e ((xs.take (off+len)).drop off) v/\off+len<=xs.length:=by
 cases h with
 | ms _ _ _ _ _ cap a hold vc ha pR hm =>
  obtain⟨hle,hm⟩:=hm xs hb
  have hl:((xs.take (off+len)).drop off).length=len:=by simp; omega
  have hg:∀ i (hi:i<((xs.take (off+len)).drop off).length),∃ h:off+i<xs.length,((xs.take (off+len)).drop off)[i]=xs[off+i]:=λi hi=>⟨by omega,by simp[List.getElem_drop,List.getElem_take]⟩
  refine⟨?_,hle⟩
  rcases hm with⟨rfl,rfl,hv,hp⟩ | ⟨blk,n,o,Ew,h3,h4,h5,h6,h7⟩
  ·cases hv
   have:(xs.take (0+0)).drop 0=[]:=by simp
   rw[this]
   exact⟨⟨none,0,λ_=>[],rfl,Nat.le_refl _,λ_=>⟨rfl,rfl⟩,λi hi=>absurd hi (Nat.not_lt_zero i),nofun⟩⟩
  ·cases h4
   obtain⟨uH,⟨JV,_⟩ | ⟨lW,n',cs,T,g1,g2,g3,g4,gr,f,g5⟩⟩:=hI.blk b _ hb
   ·grind
   ·rw[h3]at g1
    cases g1
    refine⟨⟨some ⟨blk,o,none⟩,cap,λi=>f (off+i),by rw[hl],by rw[hl]; exact vc,nofun,λi hi => ?_,λp hp => ?_⟩⟩
    ·grind
    ·cases hp
     refine .inr ⟨rfl,.inr ⟨b,n,h3⟩,λi hi j u hj => ?_⟩
     obtain⟨k1,_⟩:=hg i hi
     have:=(g5 _ k1).2 j u hj
     rw[rq g2]
     rcases h7 with h7 | h7
     ·omega
     ·rw[h7,<- Nat.add_mul]; exact this
theorem Xn{e:Ty}{ys:List (den e)}{v:Value}(h:Src κ e ys v)(uH:0<e.size):∃ (news:List Value) (f:Nat->List Value),news=kE f ys.length/\(∀ i (hi:i<ys.length),Rc κ.w κ.ok e ys[i] (f i)) /\
  (∀ P,(Builtin.lenOf v).run P κ.w=.ok ys.length κ.w)/\(∀ P,(Builtin.firstCells e.size ys.length v).run P κ.w=.ok news.toArray κ.w)/\(∀ P,(Builtin.firstCells e.size ys.length v).run P κ.w.drew=.ok news.toArray κ.w.drew):=by
 obtain⟨a,cap,f,rfl,_,hn,h1,h2⟩:=h.ex
 have hf:∀ i,i<ys.length->(f i).length=e.size:=λi hi=>(h1 i hi).len
 refine⟨kE f ys.length,f,rfl,h1,λP=>rfl,λP => ?_,λP => ?_⟩
 all_goals
  cases a with
  | none=>have:=(hn rfl).1; subst this; simp[Builtin.firstCells,kE]
  | some p =>
   rcases h2 p rfl with⟨rfl,_⟩ | ⟨hp,_,hc⟩
   ·simp[Builtin.firstCells,kE,loadCells,loadCellsFrom]
   obtain⟨blk,o,sp⟩:=p
   subst hp
   refine run_firstCells_some (P:=P) _ e.size ys.length ⟨blk,o,none⟩ ys.length cap (kE f ys.length) (uF hf) λj u hj => ?_
   obtain⟨i,k,hi,hk,rfl,hu⟩:=CH uH hf hj
   rw[vx]
   try rw[World.cell?_drew]
   grind
structure Cel(κ:KS)(e:Ty)(ys:List (den e))(v:Value):Prop where
 ex:∃ (news:List Value) (f:Nat->List Value),news=kE f ys.length/\(∀ i (hi:i<ys.length),Rc κ.w κ.ok e ys[i] (f i)) /\
  (∀ P,(Builtin.lenOf v).run P κ.w=.ok ys.length κ.w)/\(∀ P,(Builtin.firstCells e.size ys.length v).run P κ.w=.ok news.toArray κ.w)/\(∀ P,(Builtin.firstCells e.size ys.length v).run P κ.w.drew=.ok news.toArray κ.w.drew)
theorem z4K{e:Ty}{ys:List (den e)}{v:Value}(h:Src κ e ys v)(uH:0<e.size):Cel κ e ys v:=⟨Xn h uH⟩
def R9(c:Ctx)(t2:TypeId):Prop:=(∃ e,c.P.underlying t2=some (.slice e))\/c.P.underlying t2=some .string
section run
variable {t t2 e:TypeId} {i:TypeInfo} {z:Value} {sLen sCap n:Nat} {base:Option Addr} {x:Value} {news olds:List Value} {ty:TypeId}
theorem run_append_fits(ht:c.P.underlying t=some (.slice e))(Y5:R9 c t2)(hi:c.P.info? e=some i)(hlen:∀ P,(Builtin.lenOf x).run P κ.w=.ok n κ.w)(hf:∀ P,(Builtin.firstCells i.size n x).run P κ.w=.ok news.toArray κ.w)
  (nK:sLen+n<=sCap) {w':World} (xK:(match base with | some a=>storeCells (a.add (sLen*i.size)) news | none=>pure ()).run c.P κ.w=.ok () w') :
  (Builtin.append_ #[t,t2] ty #[.slice base sLen sCap,x]).run c.P κ.w=.ok (.slice base (sLen+n) sCap) w':=by
 rcases Y5 with⟨e2,Y5⟩ | Y5
 all_goals cases base with
 | none=>simp at xK; subst xK; simp[Builtin.append_,run_underlying ht,run_underlying Y5,sizeOf,typeInfo,hi,hlen,nK,hf]
 | some a=>simp only at xK; simp[Builtin.append_,run_underlying ht,run_underlying Y5,sizeOf,typeInfo,hi,hlen,nK,hf,xK]
theorem rf(ht:c.P.underlying t=some (.slice e))(Y5:R9 c t2)(hi:c.P.info? e=some i)(hz:i.zero=some z)(hlen:∀ P,(Builtin.lenOf x).run P κ.w=.ok n κ.w)(hf:∀ P,(Builtin.firstCells i.size n x).run P κ.w.drew=.ok news.toArray κ.w.drew)
  (ho:∀ P,(Builtin.firstCells i.size sLen (.slice base sLen sCap)).run P κ.w.drew=.ok olds.toArray κ.w.drew)
  (hg:sCap<sLen+n) (h63:((sLen+n:Nat):Int)<=9223372036854775807) (hb:(sLen+n)*i.bytes<=140737488355328) :
  (Builtin.append_ #[t,t2] ty #[.slice base sLen sCap,x]).run c.P κ.w=.ok (.slice (some ⟨κ.w.heap.size,0,none⟩) (sLen+n) (grownCap κ.w (sLen+n) sCap e))
   (κ.w.drew.alloc (.cells (olds.toArray++news.toArray++Builtin.zeroCells z.cells (grownCap κ.w (sLen+n) sCap e-(sLen+n))) e)):=by
 have h1:¬ (sLen+n<=sCap):=by omega
 have h2:¬ (9223372036854775807<((sLen+n:Nat):Int)):=by omega
 have h3:=growslice_fits (bytes:=i.bytes) hg hb
 have h4:¬ (281474976710656<Builtin.nextslicecap (sLen+n) sCap*i.bytes):=by omega
 have h5:IntKind.i64.max=9223372036854775807:=by decide
 rcases Y5 with⟨e2,Y5⟩ | Y5
 all_goals
  simp[Builtin.append_,run_underlying ht,run_underlying Y5,sizeOf,typeInfo,zeroValue,hi,hz,hlen,hf,ho,Question.forced,newRow,grownCap]
  grind
end run
theorem pc(z:Array Value)(n:Nat):(Builtin.zeroCells z n).size=n*z.size:=by simp[Builtin.zeroCells]
theorem U4{e:Ty}{l ys:List (den e)}{f g:Nat->List Value}(hl:∀ i (hi:i<l.length),Rc κ.w κ.ok e l[i] (f i))(hy:∀ i (hi:i<ys.length),Rc κ.w κ.ok e ys[i] (g i))(zs:List Value) :
  ∀ i (hi:i<(l++ys).length),Rc κ.w κ.ok e (l++ys)[i] (if i<l.length then f i else g (i-l.length)) /\
   ∀ j v,(if i<l.length then f i else g (i-l.length))[j]? = some v->(kE f l.length++kE g ys.length++zs)[i*e.size+j]? = some v:=by
 have Bc:∀ i,i<l.length->(f i).length=e.size:=λi hi=>(hl i hi).len
 have Pm:∀ i,i<ys.length->(g i).length=e.size:=λi hi=>(hy i hi).len
 have h1:=uF Bc
 have h2:=uF Pm
 intro i hi
 by_cases OG:i<l.length
 ·simp only[if_pos OG]
  refine⟨by grind,λj v hj => ?_⟩
  have Pf:j<e.size:=by rw[<- Bc i OG]; exact(List.getElem?_eq_some_iff.1 hj).1
  have:i*e.size+e.size<=l.length*e.size:=by rw[<- Nat.succ_mul]; exact Nat.mul_le_mul_right _ OG
  rw[List.append_assoc,List.getElem?_append_left (by omega),ru Bc i j OG Pf]
  exact hj
 ·simp only[if_neg OG]
  simp only[List.length_append]at hi
  have z8f:i-l.length<ys.length:=by omega
  refine⟨by grind,λj v hj => ?_⟩
  have Pf:j<e.size:=by rw[<- Pm _ z8f]; exact(List.getElem?_eq_some_iff.1 hj).1
  have e1:i*e.size=l.length*e.size+(i-l.length)*e.size:=by rw[<- Nat.add_mul]; congr 1; omega
  have:(i-l.length)*e.size+e.size<=ys.length*e.size:=by rw[<- Nat.succ_mul]; exact Nat.mul_le_mul_right _ z8f
  rw[List.append_assoc,List.getElem?_append_right (by omega),h1,List.getElem?_append_left (by omega)]
  rw[show i*e.size+j-l.length*e.size=(i-l.length)*e.size+j by omega,ru Pm _ j z8f Pf]
  exact hj
theorem Fk{t t2 et:Nat}{e:Ty}{l ys:List (den e)}{sv v:Value}{bytes:Nat}{ty:Nat}(hI:Inv κ)(hu:c.P.underlying t=some (.slice et))(PN:R9 c t2)(wg:k9 c et e=true)(uH:0<e.size)(DU:ng c et=some bytes)(hz:∃ y,zeroOf c et e=some y)
  (hs:Src κ e l sv) (vc:∃ a,sv=.slice a l.length l.length) (hv:Cel κ e ys v) (vM:ys≠[]) (hb:(l.length+ys.length)*bytes<=140737488355328) (hn:l.length+ys.length<=9223372036854775807) :
  ∃ (κ':KS) (r:Value),(Builtin.append_ #[t,t2] ty #[sv,v]).run c.P κ.w=.ok r κ'.w/\κ'.st=κ.st++[.arr (l.length+ys.length) e (l++ys)]/\Inv κ'/\Ext κ κ'/\RD κ' (.ms κ.st.length (l.length+ys.length) e 0 (l.length+ys.length)) r:=by
 obtain⟨hs1,_⟩:=vr wg
 obtain⟨i,FW,XH⟩:=dO hs1
 obtain⟨y,hy⟩:=hz
 obtain⟨i',zv,g1,g2,g3⟩:=ic (κ:=κ) hy
 obtain⟨i'',k1,k2⟩:=pV DU
 rw[FW]at g1 k1
 cases g1
 cases k1
 obtain⟨olds,f,Po,ho2,ho3,ho4,ho5⟩:=Xn hs uH
 obtain⟨news,g,C5,JF,hn3,hn4,hn5⟩:=hv.ex
 obtain⟨a,hsv⟩:=vc
 subst hsv
 have ZV:0<ys.length:=List.length_pos_iff.2 vM
 have vK:=rf (c:=c) (κ:=κ) (t:=t) (t2:=t2) (e:=et) (ty:=ty) (base:=a) (sLen:=l.length) (sCap:=l.length) (n:=ys.length) (x:=v) (news:=news) (olds:=olds) hu PN FW g2 hn3
  (by intro P; rw[XH]; exact hn5 P) (by intro P; rw[XH]; exact ho5 P) (by omega) (by omega) (by rw[k2]; exact hb)
 let C:=grownCap κ.w (l.length+ys.length) l.length et
 have hC:l.length+ys.length<=C:=grownCap_ge _ _ _ _
 let zs:=Builtin.zeroCells zv.cells (C-(l.length+ys.length))
 let cells:=olds.toArray++news.toArray++zs
 have hzs:zs.size=(C-(l.length+ys.length))*e.size:=by have:=g3.len; simp only[Array.length_toList]at this; simp[zs,pc,this]
 have hol:olds.length=l.length*e.size:=by rw[Po]; exact uF λi hi=>(ho2 i hi).len
 have FP:news.length=ys.length*e.size:=by rw[C5]; exact uF λi hi=>(JF i hi).len
 have Xl:cells.size=C*e.size:=by
  simp only[cells,Array.size_append,List.size_toArray,hol,FP,hzs,<- Nat.add_mul]
  grind
 have gr:=eX.drew κ.w (.cells cells et)
 have hex:=ry (n:=cells.size) (x:=.arr (l.length+ys.length) e (l++ys)) hI gr
 refine⟨κ.add _ cells.size (.arr (l.length+ys.length) e (l++ys)),_,vK,rfl,WX hI gr ?_,hex,?_⟩
 ·refine⟨uH,.inr ⟨κ.w.heap.size,cells.size,cells,et,oJ hI,gr.new,rfl,?_,ZS wg,λi=>if i<l.length then f i else g (i-l.length),λi hi => ?_⟩⟩
  ·rw[Xl,List.length_append]; exact Nat.mul_le_mul_right _ hC
  ·obtain⟨q1,q2⟩:=U4 ho2 JF zs.toList i hi
   refine⟨q1.mono hex.same,λj v hj => ?_⟩
   grind
 ·refine .ms _ (l.length+ys.length) e 0 _ C _ (.inr ⟨l.length+ys.length,e,_,Z0,Nat.le_refl _⟩) hC nofun (λp hp=>by cases hp; rfl) λxs V9 => ?_
  rw[Z0]at V9
  cases V9
  exact⟨by simp,.inr ⟨κ.w.heap.size,cells.size,0,C,oJ hI,rfl,hC,by rw[Xl]; simp,.inr (by simp)⟩⟩
def KS.re(κ:KS)(w':World)(b n:Nat)(x:kA):KS:={ κ with w:=w',ph:=κ.ph.set b (some (κ.w.heap.size,n)),st:=κ.st.set b x }
theorem Ic{w':World}{o:Obj}{b n v0 v1:Nat}{e:Ty}{xs ys:List (den e)}(hI:Inv κ)(g:eX κ.w w' o)(hb:κ.st[b]? = some (.arr v0 e xs))(hv:v0<v1):Ext κ (κ.re w' b n (.arr v1 e ys)):=by
 refine⟨g.os,g.tape,g.output,by show κ.w.heap.size<=w'.heap.size; rw[g.size]; omega,λk hk=>⟨hk,g.old (hI.yF k hk)⟩,λk hk=>.inl hk,?_,?_,?_,?_,by simp[KS.re],λk hk _=>g.old hk⟩
 ·intro b' blk m h
  simp only[KS.re]at h
  grind
 ·intro b' d hd
  have vM:b≠b':=λe=>by subst e; rw[hb]at hd; cases hd
  simp only[KS.re]
  grind
 ·intro b' u0 e' zs hd
  simp only[KS.re]
  grind
 ·intro b' hd
  have vM:b≠b':=λe=>by subst e; rw[hb]at hd; cases hd
  simp only[KS.re,List.getElem?_set,if_neg vM]
  exact hd
theorem z7I{w':World}{o:Obj}{b n v0 v1:Nat}{e:Ty}{xs ys:List (den e)}(hI:Inv κ)(g:eX κ.w w' o)(hb:κ.st[b]? = some (.arr v0 e xs))(hv:v0<v1)
  (hx:eK (κ.re w' b n (.arr v1 e ys)) b (.arr v1 e ys)):Inv (κ.re w' b n (.arr v1 e ys)):=by
 have hold:∀ (b' blk m:Nat),(κ.ph.set b (some (κ.w.heap.size,n)))[b']? = some (some (blk,m))->(b≠b'/\κ.ph[b']? = some (some (blk,m)))\/(b=b'/\blk=κ.w.heap.size):=by
  grind
 refine⟨by simp[KS.re,hI.len],?_,?_,?_,?_,hI.gl.mono (Ic (n:=n) (ys:=ys) hI g hb hv).same⟩
 ·intro k hk; have:=hI.yF k hk; show k<w'.heap.size; rw[g.size]; omega
 ·intro b' blk m h
  rcases hold b' blk m h with⟨_,h⟩ | ⟨rfl,rfl⟩
  ·obtain⟨h1,h2⟩:=hI.apart b' blk m h
   exact⟨by show blk<w'.heap.size; rw[g.size]; omega,h2⟩
  ·exact⟨by show κ.w.heap.size<w'.heap.size; rw[g.size]; omega,λhk=>absurd (hI.yF _ hk) (Nat.lt_irrefl _)⟩
 ·intro b1 b2 blk m m' h h'
  rcases hold b1 blk m h with⟨_,h⟩ | ⟨rfl,rfl⟩<;>rcases hold b2 _ m' h' with⟨_,h'⟩ | ⟨rfl,h''⟩
  ·exact hI.inj b1 b2 blk m m' h h'
  ·have:=(hI.apart b1 blk m h).1; omega
  ·have:=(hI.apart b2 _ m' h').1; omega
  ·rfl
 ·intro b' y hy
  simp only[KS.re,List.getElem?_set]at hy
  split at hy
  ·grind
  ·rename_i e1
   refine(hI.blk b' y hy).mono (Ic hI g hb hv) ?_ λblk m h=>g.old (hI.apart b' blk m h).1
   simp only[KS.re,List.getElem?_set,if_neg e1]
theorem J5{α:Type}{l:List α}{i:Nat}{a:α}(h:l[i]? = some a):l.set i a=l:=by
 apply List.ext_getElem?
 grind
theorem NG{t t2 et b qA len:Nat}{e:Ty}{xs ys:List (den e)}{sv v:Value}{bytes:Nat}{ty:Nat}(hI:Inv κ)(hu:c.P.underlying t=some (.slice et))(PN:R9 c t2)(wg:k9 c et e=true)(uH:0<e.size)(DU:ng c et=some bytes)
  (hz:∃ y,zeroOf c et e=some y) (hs:RD κ (.ms b qA e 0 len) sv) (hb:κ.st[b]? = some (.arr qA e xs)) (hlen:len=xs.length) (hv:Cel κ e ys v) (hbb:(xs.length+ys.length)*bytes<=140737488355328)
  (hn:xs.length+ys.length<=9223372036854775807) :
  ∃ (κ':KS) (r:Value),(Builtin.append_ #[t,t2] ty #[sv,v]).run c.P κ.w=.ok r κ'.w/\κ'.st=κ.st.set b (.arr (qA+ys.length) e (xs++ys))/\Inv κ'/\Ext κ κ'/\RD κ' (.ms b (qA+ys.length) e 0 (len+ys.length)) r:=by
 subst hlen
 have qu:b<κ.st.length:=(List.getElem?_eq_some_iff.1 hb).1
 have KL:b<κ.ph.length:=by rw[hI.len]; exact qu
 obtain⟨hs1,_⟩:=vr wg
 obtain⟨i,FW,XH⟩:=dO hs1
 obtain⟨y,hy⟩:=hz
 obtain⟨i',zv,g1,g2,g3⟩:=ic (κ:=κ) hy
 obtain⟨i'',k1,k2⟩:=pV DU
 rw[FW]at g1 k1
 cases g1
 cases k1
 have HE:=(Ev hI hs hb).1
 simp only[Nat.zero_add,List.take_length,List.drop_zero]at HE
 obtain⟨olds,f,Po,ho2,ho3,ho4,ho5⟩:=Xn HE uH
 obtain⟨news,g,C5,JF,hn3,hn4,hn5⟩:=hv.ex
 have hol:olds.length=xs.length*e.size:=by rw[Po]; exact uF λi hi=>(ho2 i hi).len
 have FP:news.length=ys.length*e.size:=by rw[C5]; exact uF λi hi=>(JF i hi).len
 have KV:∀ u∈news,u.oneCell'=true:=by rw[C5]; exact G4 λi hi=>(JF i hi).one
 cases hs with
 | ms _ _ _ _ _ cap a hold vc ha pR hm =>
  obtain⟨hle,hm⟩:=hm xs hb
  by_cases nK:xs.length+ys.length<=cap
  ·-- there is room
   rcases hm with⟨h1,_,hv',hp⟩ | ⟨blk,n,o,Ew,h3,h4,h5,h6,h7⟩
   ·simp only[Value.slice.injEq]at hv'
    obtain⟨rfl,JY,rfl⟩:=hv'
    have Ve:xs=[]:=List.eq_nil_of_length_eq_zero h1
    have hy0:ys=[]:=List.eq_nil_of_length_eq_zero (by omega)
    subst Ve hy0
    refine⟨κ,.slice none 0 0,?_,?_,hI,Ext.refl κ,.ms b qA e 0 0 0 none hold (Nat.le_refl _) (λ_=>rfl) nofun λzs hzs => ?_⟩
    ·have Pc:news=[]:=List.eq_nil_of_length_eq_zero (by simpa using FP)
     subst Pc
     exact run_append_fits (c:=c) (κ:=κ) (t:=t) (t2:=t2) (e:=et) (ty:=ty) (base:=none) (sLen:=0) (sCap:=0) (n:=0) (x:=v) (news:=[]) hu PN FW hn3 (by intro P; rw[XH]; exact hn4 P) (by omega) rfl
    ·simp only[List.length_nil,Nat.add_zero,List.append_nil]
     rw[J5 hb]
    ·grind
   ·cases h4
    obtain⟨_,⟨JV,hpn⟩ | ⟨lW,n',cs,T,p1,p2,p3,p4,pr,F,p5⟩⟩:=hI.blk b _ hb
    ·grind
    ·rw[h3]at p1
     cases p1
     have ho:xs.length+ys.length=0\/o=0:=by
      grind
     have zbB:cap*e.size<=cs.size:=by rw[p3]; simpa using h6
     have UH:xs.length*e.size+ys.length*e.size<=cs.size:=by
      rw[<- Nat.add_mul]; exact Nat.le_trans (Nat.mul_le_mul_right _ nK) zbB
     let bS:=(cs.toList.take (xs.length*e.size)++news++cs.toList.drop (xs.length*e.size+news.length)).toArray
     have WS:cs.toList.length=cs.size:=by simp
     have K2:bS.size=cs.size:=by simp only[bS,List.size_toArray,List.length_append,List.length_take,List.length_drop,FP,WS]; omega
     have Kw:∀ m,(⟨blk,o,none⟩:Addr).add (xs.length*e.size)=⟨blk,xs.length*e.size,none⟩\/m=0\/xs.length+ys.length=0:=by
      intro m
      rcases ho with h | h
      ·grind
      ·subst h; rw[vx,Nat.zero_add]; exact .inl rfl
     have xK:(storeCells ((⟨blk,o,none⟩:Addr).add (xs.length*i.size)) news).run c.P κ.w=.ok () (κ.w.setRow blk bS):=by
      rw[XH]
      rcases Kw 1 with h | h | h
      ·rw[h]
       have:=run_storeCells_at c.P blk (xs.length*e.size) T news 0 cs κ.w p2 (by rw[FP]; omega) KV
       simpa only[Nat.add_zero]using this
      ·cases h
      ·have Pc:news=[]:=List.eq_nil_of_length_eq_zero (by rw[FP,show ys.length=0 by omega]; simp)
       have Ve:xs.length=0:=by omega
       have hce:bS=cs:=by simp[bS,Pc,Ve]
       rw[Pc,hce,setRow_self _ _ _ _ _ p2]
       rfl
     have cT:Alike (.arr qA e xs) (.arr (qA+ys.length) e (xs++ys)):=⟨rfl,by omega,λh=>by rw[List.length_append]; omega⟩
     have hex:=ny (cs:=bS) (x:=.arr (qA+ys.length) e (xs++ys)) hI h3 hb cT
     refine⟨κ.Bh b blk bS (.arr (qA+ys.length) e (xs++ys)),.slice (some ⟨blk,o,none⟩) (xs.length+ys.length) cap,?_,rfl,Zt hI h3 hb cT ?_,hex,?_⟩
     ·exact run_append_fits (c:=c) (κ:=κ) (t:=t) (t2:=t2) (e:=et) (ty:=ty) (base:=some ⟨blk,o,none⟩) (sLen:=xs.length) (sCap:=cap) (n:=ys.length) (x:=v) (news:=news) hu PN FW hn3 (by intro P; rw[XH]; exact hn4 P) nK xK
     ·refine⟨uH,.inr ⟨blk,n,bS,T,h3,setRow_heap _ _ _ _ _ _ p2,by rw[K2]; exact p3,?_,pr,λi=>if i<xs.length then F i else g (i-xs.length),λi hi => ?_⟩⟩
      ·rw[List.length_append]; exact Nat.le_trans (Nat.mul_le_mul_right _ nK) (by simpa using h6)
      ·have hF:∀ i (hi:i<xs.length),Rc κ.w κ.ok e xs[i] (F i):=λi hi=>(p5 i hi).1
       have z5B:∀ i,i<xs.length->(F i).length=e.size:=λi hi=>(hF i hi).len
       have z0Q:cs.toList.take (xs.length*e.size)=kE F xs.length:=by
        apply List.ext_getElem?
        intro p
        rw[List.getElem?_take]
        have Bc:=uF z5B
        split
        ·rename_i hp
         obtain⟨q,hq⟩:∃ q,(kE F xs.length)[p]? = some q:=⟨_,List.getElem?_eq_getElem (by rw[Bc]; exact hp)⟩
         obtain⟨i',j',a1,a2,a3,a4⟩:=CH uH z5B hq
         rw[hq]
         have:=(p5 i' a1).2 j' q a4
         rw[a3,Array.getElem?_toList]; exact this
        ·rename_i hp
         rw[List.getElem?_eq_none (by rw[Bc]; omega)]
       obtain⟨q1,q2⟩:=U4 hF JF (cs.toList.drop (xs.length*e.size+news.length)) i hi
       refine⟨q1.mono hex.same,λj w hj => ?_⟩
       have:=q2 j w hj
       rw[<- C5,<- z0Q]at this
       simpa only[bS,List.getElem?_toArray]using this
     ·refine .ms b _ e 0 _ cap _ (.inr ⟨qA+ys.length,e,xs++ys,by simp[KS.Bh,qu],Nat.le_refl _⟩) nK nofun (λp hp=>by cases hp; rfl) λzs hzs => ?_
      have:zs=xs++ys:=by simp only[KS.Bh,List.getElem?_set_self qu]at hzs; cases hzs; rfl
      subst this
      refine⟨by simp,.inr ⟨blk,n,o,cap,h3,rfl,nK,by simpa using h6,?_⟩⟩
      rcases h7 with h7 | h7
      ·exact .inl h7
      ·exact .inr (by simpa using h7)
  ·-- it grows
   have ZV:0<ys.length:=by omega
   have vK:=rf (c:=c) (κ:=κ) (t:=t) (t2:=t2) (e:=et) (ty:=ty) (base:=a) (sLen:=xs.length) (sCap:=cap) (n:=ys.length) (x:=v) (news:=news) (olds:=olds) hu PN FW g2 hn3
    (by intro P; rw[XH]; exact hn5 P) (by intro P; rw[XH]; exact ho5 P) (by omega) (by omega) (by rw[k2]; exact hbb)
   let C:=grownCap κ.w (xs.length+ys.length) cap et
   have hC:xs.length+ys.length<=C:=grownCap_ge _ _ _ _
   let zs:=Builtin.zeroCells zv.cells (C-(xs.length+ys.length))
   let cells:=olds.toArray++news.toArray++zs
   have hzs:zs.size=(C-(xs.length+ys.length))*e.size:=by have:=g3.len; simp only[Array.length_toList]at this; simp[zs,pc,this]
   have Xl:cells.size=C*e.size:=by
    simp only[cells,Array.size_append,List.size_toArray,hol,FP,hzs,<- Nat.add_mul]
    congr 1; omega
   have gr:=eX.drew κ.w (.cells cells et)
   have Rf:qA<qA+ys.length:=by omega
   have hex:=Ic (n:=cells.size) (ys:=xs++ys) hI gr hb Rf
   refine⟨κ.re _ b cells.size (.arr (qA+ys.length) e (xs++ys)),_,vK,rfl,z7I hI gr hb Rf ?_,hex,?_⟩
   ·refine⟨uH,.inr ⟨κ.w.heap.size,cells.size,cells,et,by simp[KS.re,KL],gr.new,rfl,?_,ZS wg,λi=>if i<xs.length then f i else g (i-xs.length),λi hi => ?_⟩⟩
    ·rw[Xl,List.length_append]; exact Nat.mul_le_mul_right _ hC
    ·obtain⟨q1,q2⟩:=U4 ho2 JF zs.toList i hi
     refine⟨q1.mono hex.same,λj v hj => ?_⟩
     have:=q2 j v hj
     rw[<- Po,<- C5]at this
     rw[<- Array.getElem?_toList]
     simpa[cells]using this
   ·refine .ms b _ e 0 _ C _ (.inr ⟨qA+ys.length,e,xs++ys,by simp[KS.re,qu],Nat.le_refl _⟩) hC nofun (λp hp=>by cases hp; rfl) λus hus => ?_
    have:us=xs++ys:=by simp only[KS.re,List.getElem?_set_self qu]at hus; cases hus; rfl
    subst this
    exact⟨by simp,.inr ⟨κ.w.heap.size,cells.size,0,C,by simp[KS.re,KL],rfl,hC,by rw[Xl]; simp,.inr (by simp)⟩⟩
end
end Go.AM
namespace Go.AM
set_option linter.unusedSectionVars false
variable [vX]
section
variable {c:Ctx} {κ:KS}
theorem tI{x y:D}{v:Value}(hI:Inv κ)(hx:RD κ x v)(h:(nS κ.st x).leads y):(y=x/\∀ b qA e off len,x≠.ms b qA e off len)\/∃ (e:Ty) (ys:List (den e)),y=.zI (.sl e) ys/\Src κ e ys v/\∃ b qA off len,x=.ms b qA e off len:=by
 cases x with
 | ms b qA e off len =>
  simp only[nS]at h
  split at h
  ·rename_i jQ e' xs hb
   split at h
   ·rename_i he
    subst he
    obtain⟨rfl,h⟩:=h
    refine .inr ⟨e',_,h.symm,(Ev hI hx hb).1,b,qA,off,len,rfl⟩
   ·exact h.elim
  ·exact h.elim
 | _=>exact .inl ⟨h.symm,λ_ _ _ _ _=>nofun⟩
theorem sH{t t2 et:Nat}{e:Ty}{s:D}{ys:List (den e)}{ne:Bool}{sv v:Value}{bytes ty:Nat}{d:Option D}{zt:St}(hI:Inv κ)(hu:c.P.underlying t=some (.slice et))(PN:R9 c t2)(wg:k9 c et e=true)(uH:0<e.size)
  (DU:ng c et=some bytes) (WZ:0<bytes) (hz:∃ y,zeroOf c et e=some y) (hs:RD κ s sv) (hv:Cel κ e ys v) (vM:ne=true->ys≠[])
  (h:(jD e s ys ne bytes κ.st).leads (d,zt)) :
  ∃ (κ':KS) (r:Value),(Builtin.append_ #[t,t2] ty #[sv,v]).run c.P κ.w=.ok r κ'.w/\κ'.st=zt/\Inv κ'/\Ext κ κ'/\∀ d',d=some d'->RD κ' d' r:=by
 have hlen:∀ n,n*bytes<=140737488355328->n<=9223372036854775807:=λn hn=>Nat.le_trans (Nat.le_mul_of_pos_right n WZ) (Nat.le_trans hn (by decide))
 -- nothing is appended
 have same:∀ (a:Option Addr) (n cap:Nat),sv=.slice a n cap->n<=cap->ys=[]->d=some s->zt=κ.st ->
   ∃ (κ':KS) (r:Value),(Builtin.append_ #[t,t2] ty #[sv,v]).run c.P κ.w=.ok r κ'.w/\κ'.st=zt/\Inv κ'/\Ext κ κ'/\∀ d',d=some d'->RD κ' d' r:=by
  rintro a n cap rfl vc rfl rfl rfl
  obtain⟨hs1,_⟩:=vr wg
  obtain⟨i,FW,XH⟩:=dO hs1
  obtain⟨news,g,C5,JF,hn3,hn4,hn5⟩:=hv.ex
  have Pc:news=[]:=C5
  subst Pc
  refine⟨κ,.slice a n cap,?_,rfl,hI,Ext.refl κ,λd' he=>by cases he; exact hs⟩
  have:=run_append_fits (c:=c) (κ:=κ) (t:=t) (t2:=t2) (e:=et) (ty:=ty) (base:=a) (sLen:=n) (sCap:=cap) (n:=0) (x:=v) (news:=[]) (i:=i) hu PN FW hn3 (by intro P; rw[XH]; exact hn4 P) (by omega) (w':=κ.w) (by cases a<;>rfl)
  grind
 have new:∀ l:List (den e),Src κ e l sv->(∃ a,sv=.slice a l.length l.length)->ys≠[]->(iZ e l ys bytes κ.st).leads (d,zt) ->
   ∃ (κ':KS) (r:Value),(Builtin.append_ #[t,t2] ty #[sv,v]).run c.P κ.w=.ok r κ'.w/\κ'.st=zt/\Inv κ'/\Ext κ κ'/\∀ d',d=some d'->RD κ' d' r:=by
  intro l hl vc vM h
  obtain⟨hb,h⟩:=h
  cases h
  obtain⟨κ',r,h1,h2,h3,h4,h5⟩:=Fk (ty:=ty) hI hu PN wg uH DU hz hl vc hv vM hb (hlen _ hb)
  grind
 unfold jD at h
 split at h
 ·have hsv:sv=.slice none 0 0:=by cases hs; rfl
  cases hn:ne with
  | true=>rw[hn,cond_true]at h; exact new [] (WT hs) ⟨none,hsv⟩ (vM hn) h
  | false =>
   rw[hn,cond_false]at h
   rcases h with⟨hy,h⟩ | ⟨hy,h⟩
   ·cases h; exact same none 0 0 hsv (Nat.le_refl _) (List.isEmpty_iff.1 hy) rfl rfl
   ·exact new [] (WT hs) ⟨none,hsv⟩ (λe=>by rw[e]at hy; cases hy) h
 ·rename_i e' l ne'
  split at h
  ·rename_i l' hl'
   obtain⟨he,z9B⟩:=qk hl'
   cases he
   simp only at z9B
   subst z9B
   have hsv:∃ a,sv=.slice a l'.length l'.length:=by
    cases hs with
    | xd=>simp
    | tight=>simp
   cases hn:ne with
   | true=>rw[hn,cond_true]at h; exact new l' (rF hs) hsv (vM hn) h
   | false =>
    rw[hn,cond_false]at h
    rcases h with⟨hy,h⟩ | ⟨hy,h⟩
    ·cases h
     obtain⟨a,ha⟩:=hsv
     exact same a _ _ ha (Nat.le_refl _) (List.isEmpty_iff.1 hy) rfl rfl
    ·exact new l' (rF hs) hsv (λe=>by rw[e]at hy; cases hy) h
  ·exact h.elim
 ·rename_i b qA e' off len
  split at h
  ·rename_i jQ e'' xs hb
   split at h
   ·rename_i xs' HR
    obtain⟨he,zcM⟩:=qk HR
    cases he
    simp only at zcM
    subst zcM
    cases hde:decide (e'=_)with
    | false=>rw[hde]at h; exact h.elim
    | true =>
     rw[hde,cond_true]at h
     have:=of_decide_eq_true hde
     subst this
     obtain⟨⟨rfl,rfl,hl,hbb⟩,h⟩:=h
     cases h
     obtain⟨κ',r,h1,h2,h3,h4,h5⟩:=NG (ty:=ty) hI hu PN wg uH DU hz hs hb hl hv hbb (hlen _ hbb)
     exact⟨κ',r,h1,h2,h3,h4,λd' he=>by cases he; exact h5⟩
   ·exact h.elim
  ·exact h.elim
 ·exact h.elim
theorem Cr{t ty:Nat}{s x:Option D}{sv v:Value}{d:Option D}{zt:St}(hI:Inv κ)(hs:∀ z,s=some z->RD κ z sv)(hx:∀ z,x=some z->RD κ z v)
  (h:(zH (QJ c t s x) κ.st).leads (d,zt)):qx c.P (do Pure.pure (.value (<- Builtin.append_ #[t,t] ty #[sv,v]))) κ d zt:=by
 unfold QJ at h
 split at h
 ·exact absurd h zf
 ·rename_i et het
  have hu:=uq het
  split at h
  ·rename_i e bytes Lm DU
   cases hb:k9 c et e&&Nat.blt 0 e.size&&Nat.blt 0 bytes&&(zeroOf c et e).isSome with
   | false=>rw[hb]at h; exact absurd h zf
   | true =>
    rw[hb,cond_true]at h
    simp only[Bool.and_eq_true]at hb
    obtain⟨⟨⟨wg,h1⟩,h2⟩,h3⟩:=hb
    have uH:0<e.size:=Nat.le_of_ble_eq_true h1
    have WZ:0<bytes:=Nat.le_of_ble_eq_true h2
    have hz:=Option.isSome_iff_exists.1 h3
    split at h
    ·rename_i s x
     simp only[zH,T.zD]at h
     obtain⟨y,hy,h⟩:=h
     have fin:∀ (ys:List (den e)) (ne:Bool),Src κ e ys v->(ne=true->ys≠[])->(jD e s ys ne bytes κ.st).leads (d,zt)->qx c.P (do Pure.pure (.value (<- Builtin.append_ #[t,t] ty #[sv,v]))) κ d zt:=by
      intro ys ne hv vM h
      obtain⟨κ',r,g1,g2,g3,g4,g5⟩:=sH (t2:=t) (ty:=ty) hI hu (.inl ⟨et,hu⟩) wg uH DU WZ hz (hs _ rfl) (z4K hv uH) vM h
      exact⟨κ',.value r,r,by simp only[Sem.run_bind,g1,Result.andThen_ok]; rfl,.inl rfl,g2,g3,g4,g5⟩
     have Ed:=hx _ rfl
     rcases tI hI Ed hy with⟨rfl,hnm⟩ | ⟨e',ys,rfl,HE,_⟩
     ·split at h
      ·rename_i σ z
       split at h
       ·rename_i ys hys
        obtain⟨he,hz'⟩:=qk hys
        cases he
        subst hz'
        exact fin _ false (LS Ed) nofun h
       ·exact h.elim
      ·rename_i σ z ne
       split at h
       ·rename_i ys hys
        obtain⟨he,hz'⟩:=qk hys
        cases he
        subst hz'
        refine fin _ ne (rF Ed) (λvM => ?_) h
        cases Ed with
        | xd=>cases vM
        | tight _ _ _ _ _ _ q=>exact q vM
       ·exact h.elim
      ·exact fin [] false (WT Ed) nofun h
      ·exact h.elim
     ·simp only at h
      split at h
      ·rename_i ys' hys
       obtain⟨he,hz'⟩:=qk hys
       grind
      ·exact h.elim
    ·exact absurd h zf
  ·exact absurd h zf
theorem z3x{l:ze}{v:Value}(h:RD κ (.zI .str l) v):Cel κ (.int .u8) (bytesOf l) v:=by
 have hv:=h.wC
 subst hv
 have hl:(bytesOf l).length=l.length:=by simp[bytesOf]
 have uH:(⟨l.toArray⟩:ByteArray).size=l.length:=List.size_toArray
 refine⟨Lib.strCells ⟨l.toArray⟩,λi=>[.int .u8 ((bytesOf l)[i]?.getD 0)],?_,λi hi => ?_,λP => ?_,λP => ?_,λP => ?_⟩
 ·have gen:∀ (n:Nat),n<=l.length->kE (λi=>[Value.int .u8 ((bytesOf l)[i]?.getD 0)]) n=(l.take n).map λb=>Value.int .u8 b.toNat:=by
   intro n
   induction n with
   | zero=>intro _; rfl
   | succ n ih =>
    intro hn
    have qu:n<l.length:=hn
    rw[kE,ih (by omega),List.take_succ_eq_append_getElem qu,List.map_append]
    simp[bytesOf,List.getElem?_eq_getElem qu]
  rw[hl,gen _ (Nat.le_refl _),List.take_length]
  rfl
 ·have:(bytesOf l)[i]?.getD 0=(bytesOf l)[i]:=by rw[List.getElem?_eq_getElem hi]; rfl
  show Rc κ.w κ.ok (.int .u8) (bytesOf l)[i] [Value.int .u8 ((bytesOf l)[i]?.getD 0)]
  rw[this]
  exact .int .u8 _
 ·show(pure (⟨l.toArray⟩:ByteArray).size:Sem Nat).run P κ.w=_
  rw[uH,hl]; rfl
 ·rw[hl,<- uH]; exact Lib.run_firstCells_string _ _ _
 ·rw[hl,<- uH]; exact Lib.run_firstCells_string _ _ _
theorem JO{t t2 ty:Nat}{s x:Option D}{sv v:Value}{d:Option D}{zt:St}(hI:Inv κ)(hs:∀ z,s=some z->RD κ z sv)(hx:∀ z,x=some z->RD κ z v)
  (h:(zH (rS c t t2 s x) κ.st).leads (d,zt)):qx c.P (do Pure.pure (.value (<- Builtin.append_ #[t,t2] ty #[sv,v]))) κ d zt:=by
 unfold rS at h
 split at h
 ·exact absurd h zf
 ·rename_i et het
  have hu:=uq het
  split at h
  ·rename_i bytes Lm DU PN
   cases hb:k9 c et (.int .u8)&&Nat.blt 0 bytes&&(zeroOf c et (.int .u8)).isSome with
   | false=>rw[hb]at h; exact absurd h zf
   | true =>
    rw[hb,cond_true]at h
    simp only[Bool.and_eq_true]at hb
    obtain⟨⟨wg,h2⟩,h3⟩:=hb
    have WZ:0<bytes:=Nat.le_of_ble_eq_true h2
    have hz:=Option.isSome_iff_exists.1 h3
    split at h
    ·rename_i s l
     obtain⟨κ',r,g1,g2,g3,g4,g5⟩:=sH (t2:=t2) (ty:=ty) hI hu (.inr PN) wg (by decide) DU WZ hz (hs _ rfl) (ne:=false) (z3x (hx _ rfl)) (λe=>by cases e) h
     exact⟨κ',.value r,r,by simp only[Sem.run_bind,g1]; rfl,.inl rfl,g2,g3,g4,g5⟩
    ·exact absurd h zf
  ·exact absurd h zf
end
end Go.AM
namespace Go.AM
set_option linter.unusedSectionVars false
variable [vX]
section
variable {c:Ctx} {κ:KS}
theorem tu{places:List (Nat×Nat)}{pf:Nat->Option (Nat×Nat)}(hpf:∀ (i:Nat) p,places[i]? = some p->pf i=some p){F:Operand->Option D}{G:Operand->Value}(hF:∀ x d,F x=some d->RD κ d (G x)):∀ (L:List (Nat×Operand)) (cells r:List D) (cs:Array Value),
  dT places (L.map λp=>(p.1,F p.2)) cells=some r->qE κ cells cs.toList->(∀ d∈cells,d.one=true) ->
  ∃ bS,Instr.fill pf cs (L.map λp=>(p.1,G p.2))=some bS/\qE κ r bS.toList/\∀ d∈r,d.one=true
 | [],cells,r,cs,h,hr,ho=>by
  simp only[List.map_nil,dT,Option.some.injEq]at h
  subst h
  exact⟨cs,rfl,hr,ho⟩
 | (i,x)::L,cells,r,cs,h,hr,ho=>by
  simp at h
  cases hx:F x with
  | none=>rw[hx]at h; simp[dT]at h
  | some d =>
   rw[hx]at h
   simp only[dT]at h
   split at h
   ·rename_i off n hp
    cases hb : !d.uM&&Nat.beq n (qh d).length&&Nat.ble (off+n) cells.length with
    | false=>grind
    | true =>
     rw[hb,cond_true]at h
     simp only[Bool.and_eq_true,Bool.not_eq_true']at hb
     obtain⟨⟨h1,h2⟩,h3⟩:=hb
     have h2':n=(qh d).length:=Nat.eq_of_beq_eq_true h2
     have h3':=Nat.le_of_ble_eq_true h3
     have hd:=hF x d hx
     have hfd:=j3 hd h1
     have hvl:(G x).cells.toList.length=n:=by rw[<- hfd.1]; exact h2'.symm
     have hle:off+n<=cs.size:=by have:=hr.1; simp at this; omega
     have hn:=iM hr hfd off n
     obtain⟨bS,g1,g2,g3⟩:=tu hpf hF L _ r (cs.toList.take off++(G x).cells.toList++cs.toList.drop (off+n)).toArray h (by grind) (by
      intro y hy
      simp only[List.mem_append]at hy
      rcases hy with(hy | hy) | hy
      ·grind
      ·exact j4 hd y hy
      ·exact ho y (List.mem_of_mem_drop hy))
     refine⟨bS,?_,g2,g3⟩
     simp
     rw[Cx (hpf _ _ hp) hvl hle]
     exact g1
   ·cases h
theorem I8{t:Nat}{L:List (Nat×Operand)}{F:Operand->Option D}{G:Operand->Value}{d:Option D}{zt:St}(hI:Inv κ)(hF:∀ x d,F x=some d->RD κ d (G x))
  (h:(zH (HY c t (L.map λp=>(p.1,F p.2))) κ.st).leads (d,zt)):qx c.P (do Pure.pure (.value (<- Instr.build t (L.map λp=>(p.1,G p.2)).toArray))) κ d zt:=by
 unfold HY at h
 split at h
 ·rename_i fs hu
  split at h
  ·rename_i z places hz hp
   split at h
   ·rename_i l hl
    rw[jY]at h
    obtain⟨rfl,rfl⟩:=h
    obtain⟨i,zv,h1,h2,h3⟩:=fj hz
    have hzr:=h3.rd κ
    obtain⟨bS,g1,g2,g3⟩:=tu (pf:=(places.toArray[·]?)) (λi p hp=>by simpa using hp) hF L z l zv.cells hl (j3 hzr rfl) (j4 hzr)
    have hb:c.P.built t (L.map λp=>(p.1,G p.2))=some bS:=by
     unfold Program.built
     grind
    refine qx.pure hI (run_build κ.w t _ bS (by simpa using hb)) ?_
    have:=RD.agg l bS.toList g2.1 g3 g2.2
    omega
   ·exact absurd h zf
  ·exact absurd h zf
 ·rename_i k e hu
  split at h
  ·rename_i z ie hz hp
   split at h
   ·rename_i l hl
    obtain⟨rfl,rfl⟩:=h
    obtain⟨i,zv,h1,h2,h3⟩:=fj hz
    have hzr:=h3.rd κ
    obtain⟨bS,g1,g2,g3⟩:=tu (pf:=λi=>some (i*ie.size,ie.size)) (λi p hp=>by
     rw[List.getElem?_map]at hp
     cases hr:(List.range k)[i]? with
     | none=>grind
     | some j =>
      rw[hr]at hp
      obtain⟨qu,rfl⟩:=List.getElem?_eq_some_iff.1 hr
      simpa using hp) hF L z l zv.cells hl (j3 hzr rfl) (j4 hzr)
    have hb:c.P.built t (L.map λp=>(p.1,G p.2))=some bS:=by
     unfold Program.built
     grind
    refine qx.pure hI (run_build κ.w t _ bS (by simpa using hb)) ?_
    have:=RD.agg l bS.toList g2.1 g3 g2.2
    omega
   ·exact absurd h zf
  ·exact absurd h zf
 ·exact absurd h zf
theorem Ki{a:Act}{o:Oper}{p:Operand}(ho:o.op=.nilCheck p){x:Option D}{d:Option D}{zt:St}(hI:Inv κ)(hx:∀ z,x=some z->RD κ z (a.eval p))
  (h:(zH (tR x) κ.st).leads (d,zt)):qx c.P (execOp a.eval o) κ d zt:=by
 have key:∀ z v,RD κ z v->a.eval p=v->(∀ b:Option Addr,v=.pointer b->b≠none)->((∃ b,v=.pointer b)\/∃ g q l,v=.func (.func g) q l)->qx c.P (execOp a.eval o) κ (some z) κ.st:=by
  intro z v hz hv hn hc
  have:execOp a.eval o=Pure.pure (.value v):=by
   rcases hc with⟨b,rfl⟩ | ⟨g,q,l,rfl⟩
   ·cases b with
    | none=>grind
    | some b=>simp only[execOp,ho,hv]
   ·simp only[execOp,ho,hv]
  rw[this]
  exact qx.val hI λ_ he=>by cases he; exact hz
 unfold tR at h
 split at h
 all_goals try exact absurd h zf
 all_goals
  rw[jY]at h; obtain⟨rfl,rfl⟩:=h
  have hr:=hx _ rfl
  generalize hv:a.eval p=v at hr
  refine key _ v hr hv ?_ ?_
  ·intro b hb; cases hr<;>first | (cases hb<;>nofun) | (rename_i f l vs _ _; obtain⟨g,q,l',e⟩:=Jc f vs; rw[e]at hb; cases hb)
  ·cases hr<;>first | exact .inl ⟨_,rfl⟩ | exact .inr (Jc _ _)
theorem I5{op:BinOp}{t:Nat}{px:Operand}{x:Option D}{v:Value}{d:Option D}{zt:St}(hI:Inv κ)(hx:∀ z,x=some z->RD κ z v)
  (h:(zH (H0 c op t x) κ.st).leads (d,zt)):qx c.P (do Pure.pure (.value (<- (do eqGuard op t px (.const .nilIface) v .nilIface; binOp op t v .nilIface)))) κ d zt:=by
 unfold H0 at h
 split at h
 ·rename_i ms hu
  have hm:c.P.underlying t=some (.interface (c.P.methodsAt t)):=by unfold Program.methodsAt; rw[hu]
  have g1:∀ w,(eqGuard op t px (.const .nilIface) .nilIface .nilIface).run c.P w=.ok () w:=λw=>by cases op<;>simp[eqGuard]
  have g2:∀ u y w,(eqGuard op t px (.const .nilIface) (.iface u y) .nilIface).run c.P w=.ok () w:=λu y w=>by cases op<;>simp[eqGuard]
  split at h
  ·unfold bb at h
   obtain⟨rfl,rfl⟩:=h
   cases hx _ rfl
   exact qx.pure hI (by simp only[Sem.run_bind,g1,Result.andThen_ok,run_eql_nil_nil _ _ hm]) RD.bool
  ·unfold bb at h
   obtain⟨rfl,rfl⟩:=h
   cases hx _ rfl
   exact qx.pure hI (by simp only[Sem.run_bind,g2,Result.andThen_ok,run_eql_held_nil _ _ _ _ hm]) RD.bool
  ·unfold bb at h
   obtain⟨rfl,rfl⟩:=h
   cases hx _ rfl
   exact qx.pure hI (by simp only[Sem.run_bind,g1,Result.andThen_ok,run_neq_nil_nil _ _ hm]) RD.bool
  ·unfold bb at h
   obtain⟨rfl,rfl⟩:=h
   cases hx _ rfl
   exact qx.pure hI (by simp only[Sem.run_bind,g2,Result.andThen_ok,run_neq_held_nil _ _ _ _ hm]) RD.bool
  ·exact absurd h zf
 ·exact absurd h zf
theorem WE{x:Option D}{v:Value}{xt at':Nat}{ok:Bool}{d:Option D}{zt:St}(hI:Inv κ)(hx:∀ z,x=some z->RD κ z v)
  (h:(zH (mG c x at' ok) κ.st).leads (d,zt)):qx c.P (do Pure.pure (.value (<- Instr.typeAssert v xt at' ok))) κ d zt:=by
 unfold mG at h
 split at h
 ·exact absurd h zf
 ·exact absurd h zf
 ·rename_i ty hni hu
  split at h
  ·rename_i t e
   cases hb:Nat.beq t at'&&ok with
   | false=>rw[hb]at h; exact absurd h zf
   | true =>
    rw[hb,cond_true,jY]at h
    obtain⟨rfl,rfl⟩:=h
    simp only[Bool.and_eq_true]at hb
    have:=Nat.eq_of_beq_eq_true hb.1
    subst this
    obtain rfl:=hb.2
    cases hx _ rfl with
    | iface _ _ u hu' =>
     refine qx.pure hI (v:=.tuple #[u,.bool true]) ?_ ?_
     ·cases ty<;>first | (exact(hni _ rfl).elim) | (simp[Instr.typeAssert,run_underlying hu])
     ·have:=qE.cons hu' (qE.cons (RD.bool (κ:=κ) (b:=true)) qE.nil)
      exact .yq _ [u,.bool true] this.1 this.2
  ·exact absurd h zf
theorem JT{t:Nat}{x:Option D}{v:Value}{d:Option D}{zt:St}(hI:Inv κ)(hx:∀ z,x=some z->RD κ z v)
  (h:(zH (r7 c t x) κ.st).leads (d,zt)):qx c.P (do Pure.pure (.value (<- Instr.makeInterface t v))) κ d zt:=by
 unfold r7 at h
 cases hu:c.P.underlying t with
 | none=>rw[hu]at h; exact absurd h zf
 | some u =>
  rw[hu]at h
  cases u<;>simp only at h
  all_goals try exact absurd h zf
  all_goals
   split at h
   ·rw[jY]at h; obtain⟨rfl,rfl⟩:=h
    have hc:c.P.concrete t=true:=by unfold Program.concrete; rw[hu]
    exact qx.pure hI (run_makeInterface κ.w t v hc) (.iface t _ v (hx _ rfl))
   ·exact absurd h zf
theorem Rr{e:Ty}{x y:D}{v:Value}{l:List (den e)}(hI:Inv κ)(hx:RD κ x v)(h:(nS κ.st x).leads y)(hl:C7 e y=some l):Src κ e l v:=by
 rcases tI hI hx h with⟨rfl,_⟩ | ⟨e',ys,rfl,hs,_⟩
 ·cases y with
  | zI σ z =>
   obtain⟨he,hz⟩:=qk (a:=σ) (b:=.sl e) hl
   cases he
   cases hz
   exact LS hx
  | tight e' z ne =>
   obtain⟨he,hz⟩:=qk (a:=.sl e') (b:=.sl e) hl
   cases he
   cases hz
   exact rF hx
  | xr =>
   simp only[C7,Option.some.injEq]at hl
   subst hl
   exact WT hx
  | _=>simp[C7]at hl
 ·obtain⟨he,hz⟩:=qk (a:=.sl e') (b:=.sl e) hl
  grind
theorem JS{s t e:Nat}{x:Option D}{v:Value}{d:Option D}{zt:St}(hI:Inv κ)(hx:∀ z,x=some z->RD κ z v)(hs:c.P.underlying s=some (.slice e))(ht:c.P.underlying t=some .string)
  (h:(zH (Xs c e x) κ.st).leads (d,zt)):qx c.P (do Pure.pure (.value (<- convert s t v))) κ d zt:=by
 unfold Xs at h
 split at h
 ·rename_i z he
  rw[lF]at h
  obtain⟨h,rfl⟩:=h
  obtain⟨y,h1,h2⟩:=T.zD.1 h
  split at h2
  ·rename_i l hl
   cases h2
   have HE:=Rr hI (hx _ rfl) h1 hl
   obtain⟨a,cap,f,rfl,vc,hn,g1,g2⟩:=HE.ex
   have vK:(convert s t (.slice a l.length cap)).run c.P κ.w=.ok (.string (strOfNums l)) κ.w:=by
    cases a with
    | none =>
     obtain⟨rfl,rfl⟩:=hn rfl
     exact run_convert_bytes_nil κ.w s e hs he 0 0 t ht
    | some p =>
     rcases g2 p rfl with⟨rfl,rfl⟩ | ⟨hp,_,hc⟩
     ·have h0:(loadCells p 0).run c.P κ.w=.ok (([]:List Int).map (Value.int .u8)).toArray κ.w:=by
       rfl
      simp only[List.length_nil]
      rw[run_convert_bytes_string κ.w s t e _ 0 0 hs he ht,run_bytesToString κ.w _ 0 0 [] h0]
      rfl
     ·obtain⟨blk,o,sp⟩:=p
      subst hp
      refine run_convert_bytes_arg κ.w s e hs he blk o l.length cap l rfl (λi hi => ?_) t ht
      have hf:=(g1 i hi).ym
      have:=hc i hi 0 (.int .u8 l[i]) (by grind)
      have e1:o+i*Ty.size (.int .u8)+0=o+i:=by simp[Ty.size]
      grind
   refine qx.pure hI vK ?_
   exact .str
  ·exact h2.elim
 ·exact absurd h zf
theorem Hl{s t:Nat}{x:Option D}{v:Value}{d:Option D}{zt:St}(hI:Inv κ)(hx:∀ z,x=some z->RD κ z v)
  (h:(zH (convertOp c s t x) κ.st).leads (d,zt)):qx c.P (do Pure.pure (.value (<- convert s t v))) κ d zt:=by
 unfold convertOp at h
 split at h
 ·rename_i e hs ht
  exact JS hI hx hs ht h
 ·rename_i k0 k hs ht
  split at h
  ·rename_i k1 n hk
   have:=uj hk hx
   subst this
   obtain⟨rfl,rfl⟩:=h
   exact qx.pure hI (by simp[convert,run_underlying hs,run_underlying ht,Conv.intToInt]) RD.int
  ·exact absurd h zf
 ·rename_i hs ht
  split at h
  ·rename_i s' hk
   have:=oG hk hx
   subst this
   obtain⟨rfl,rfl⟩:=h
   exact qx.pure hI (by simp[convert,run_underlying hs,run_underlying ht]) RD.str
  ·exact absurd h zf
 ·exact absurd h zf
end
end Go.AM
namespace Go.AM
set_option linter.unusedSectionVars false
variable [vX]
section
variable {c:Ctx} {κ:KS}
theorem OT{ty t t':Nat}{s x:Option D}{v u:Value}{d:Option D}{zt:St}(hI:Inv κ)(hs:∀ z,s=some z->RD κ z v)(hx:∀ z,x=some z->RD κ z u)
  (h:(zH (Fc c t s x) κ.st).leads (d,zt)):qx c.P (do Pure.pure (.value (<- Builtin.copy_ #[t,t'] ty #[v,u]))) κ d zt:=by
 unfold Fc at h
 split at h
 ·rename_i et het
  split at h
  ·rename_i k b qA k' off len z hu uH
   cases hk:decide (k'=k)with
   | false=>rw[hk]at h; exact absurd h zf
   | true =>
    rw[hk,cond_true]at h
    obtain rfl:k'=k:=of_decide_eq_true hk
    simp only[zH]at h
    obtain⟨y,h1,h2⟩:=T.zD.1 h
    split at h2
    ·rename_i l hl
     unfold z0e at h2
     split at h2
     ·rename_i jQ e' tq hb
      split at h2
      ·rename_i xs V9
       obtain⟨he,hxx⟩:=qk (a:=.sl e') (b:=.sl (.int k')) V9
       cases he
       obtain rfl:xs=tq:=hxx
       obtain⟨⟨B4,UH⟩,h2⟩:=h2
       cases h2
       subst B4
       have HE:=Rr hI (hx _ rfl) h1 hl
       obtain⟨a,cap,f,rfl,vc,hn,g1,g2⟩:=HE.ex
       have hue:=uq het
       have Tv:(c.P.info? et).map (·.size)=some 1:=uH
       have hrd:=hs _ rfl
       cases hrd with
       | ms _ _ _ _ _ cap0 a0 WZ hcap0 Ye hsp0 hh =>
       have hm:=hh xs hb
       have WS:((List.take len l).map (Value.int k')).length=Nat.min l.length len:=by rw[List.length_map,List.length_take]; exact Nat.min_comm _ _
       have z6b:min len (List.length l)=Nat.min l.length len:=Nat.min_comm _ _
       by_cases h0:min len (List.length l)=0
       ·-- nothing goes over
        have vK:=run_copy_none (P:=c.P) κ.w t t' ty et a0 a len cap0 l.length cap hue Tv (by rw[<- z6b]; exact h0)
        have nO:kG off len xs l=xs:=by
         unfold kG
         have ht:List.take len l=[]:=List.eq_nil_of_length_eq_zero (by rw[List.length_take]; exact h0)
         rw[ht,h0,List.append_nil,Nat.add_zero,List.take_append_drop]
        have b9:κ.st.set b (.arr qA (.int k') (kG off len xs l))=κ.st:=by
         rw[nO]
         obtain⟨qu,hge⟩:=List.getElem?_eq_some_iff.1 hb
         rw[<- hge,List.set_getElem_self]
        rw[b9]
        refine⟨κ,.value (goInt 0),goInt 0,by simp[vK],.inl rfl,rfl,hI,Ext.refl κ,λd' kN => ?_⟩
        cases kN
        rw[h0]
        exact RD.int
       ·obtain⟨hle,hm⟩:=hm
        rcases hm with⟨hz,_⟩ | ⟨blk,n,o,zk9,hp,hv,Nb,Sd,hc3⟩
        ·omega
        ·cases hv
         have ho:o=off:=by
          rcases hc3 with h | h
          ·omega
          ·simpa[Ty.size]using h
         subst ho
         have hl0:l≠[]:=λh=>h0 (by rw[h]; simp)
         obtain⟨p,rfl⟩:∃ p,a=some p:=by
          cases a with
          | none=>grind
          | some p=>simp
         rcases g2 p rfl with⟨h,_⟩ | ⟨pR,_,hc⟩
         ·grind
         obtain⟨pb,po,psp⟩:=p
         simp only at pR
         subst pR
         obtain⟨_,SK⟩:=hI.blk b _ hb
         rcases SK with⟨_,hpn⟩ | ⟨lW,n',cs0,T,k1,k2,k3,k4,kr,g,k5⟩
         ·grind
         rw[hp]at k1
         cases k1
         have hn':List.length xs<=cs0.size:=by rw[k3]; simpa[Ty.size]using k4
         have sJ:∀ (i:Nat) (hi:i<List.length xs),cs0[i]? = some (.int k' xs[i]):=by
          intro i hi
          obtain⟨q1,q2⟩:=k5 i hi
          have:=q2 0 (.int k' xs[i]) (by rw[q1.ym]; rfl)
          simpa[Ty.size]using this
         have zfH:((List.take len l).map (Value.int k')).length<=len:=by simp; omega
         have vK:=run_copy_row c.P κ.w t t' ty et blk o len cap0 ⟨pb,po,none⟩ l.length cap cs0 T ((List.take len l).map (Value.int k')) hue Tv k2 WS
          (λj w hj=>by
           have hj':j<(List.take len l).length:=by have:=(List.getElem?_eq_some_iff.1 hj).1; simpa using this
           have Pf:j<l.length:=by simp at hj'; omega
           have e1:w=.int k' l[j]:=by
            grind
           have:=hc j Pf 0 (.int k' l[j]) (by rw[(g1 j Pf).ym]; rfl)
           have SN:(⟨pb,po,none⟩:Addr).add j=⟨pb,po+j,none⟩:=by unfold Addr.add; split<;>simp_all
           rw[SN,e1]
           simpa[Ty.size]using this)
          (by omega) (λw hw=>by obtain⟨_,_,rfl⟩:=List.mem_map.1 hw; rfl)
         have hlen:List.length (kG o len xs l)=List.length xs:=by
          simp only[kG,List.length_append,List.length_take,List.length_drop]
          omega
         have cT:Alike (.arr qA (.int k') xs) (.arr qA (.int k') (kG o len xs l)):=⟨rfl,Nat.le_refl _,λ_=>hlen.symm⟩
         let bS:Array Value:=(cs0.toList.take o++(List.take len l).map (Value.int k')++cs0.toList.drop (o+((List.take len l).map (Value.int k')).length)).toArray
         have K2:bS.size=n:=by
          simp only[bS,List.size_toArray,List.length_append,List.length_take,List.length_drop,Array.length_toList,List.length_map]at *
          omega
         have zcy:∀ (i:Nat) (hi:i<List.length (kG o len xs l)),bS[i]? = some (.int k' (kG o len xs l)[i]):=by
          intro i hi
          have h1:=Z1 (cs:=cs0.toList) (us:=(List.take len l).map (Value.int k')) (o:=o) (n:=((List.take len l).map (Value.int k')).length) rfl (by simp; simp at zfH; omega) i
          have e1:bS[i]? = (cs0.toList.take o++(List.take len l).map (Value.int k')++cs0.toList.drop (o+((List.take len l).map (Value.int k')).length))[i]? := by simp[bS]
          have D6:(List.map (Value.int k') (List.take len l)).length=min len (List.length l):=by simp
          rw[D6]at h1 e1
          have e2:(kG o len xs l)[i]? = if i<o then xs[i]? else if i<o+min len (List.length l)then(List.take len l)[i-o]? else xs[i]? := by
           unfold kG
           have hto:(List.take o xs).length=o:=by simp; omega
           by_cases q1:i<o
           ·rw[if_pos q1,List.append_assoc,List.getElem?_append_left (by omega),List.getElem?_take,if_pos q1]
           ·rw[if_neg q1,List.append_assoc,List.getElem?_append_right (by omega),hto]
            by_cases q2:i<o+min len (List.length l)
            ·rw[if_pos q2,List.getElem?_append_left (by simp; omega)]
            ·rw[if_neg q2,List.getElem?_append_right (by simp; omega),List.getElem?_drop,List.length_take]
             congr 1; omega
          have e3:(kG o len xs l)[i]? = some (kG o len xs l)[i]:=List.getElem?_eq_getElem hi
          rw[e1,h1]
          rw[e2]at e3
          have hix:i<List.length xs:=by rw[<- hlen]; exact hi
          split
          ·rename_i q1
           rw[if_pos q1,List.getElem?_eq_getElem hix]at e3
           rw[Array.getElem?_toList,sJ i hix,Option.some.inj e3]
          ·rename_i q1
           rw[if_neg q1]at e3
           split
           ·rename_i q2
            rw[if_pos q2]at e3
            rw[List.getElem?_map,e3]
            rfl
           ·rename_i q2
            rw[if_neg q2,List.getElem?_eq_getElem hix]at e3
            rw[Array.getElem?_toList,sJ i hix,Option.some.inj e3]
         refine⟨κ.Bh b blk bS (.arr qA (.int k') (kG o len xs l)),.value (goInt (((List.take len l).map (Value.int k')).length:Nat)),goInt (((List.take len l).map (Value.int k')).length:Nat),(by rw[Sem.run_bind,vK]; rfl),.inl rfl,rfl,Zt hI hp hb cT ?_,ny hI hp hb cT,λd' kN => ?_⟩
         ·refine⟨by simp[Ty.size],.inr ⟨blk,n,bS,T,hp,setRow_heap κ.w blk cs0 bS T (0,0) k2,K2,by simp[Ty.size]; omega,kr,λi=>[.int k' ((kG o len xs l).getD i 0)],λi hi => ?_⟩⟩
          have hg:(kG o len xs l).getD i 0=(kG o len xs l)[i]:=by simp[List.getD_eq_getElem?_getD,List.getElem?_eq_getElem hi]
          show Rc _ _ (.int k') _ [Value.int k' ((kG o len xs l).getD i 0)]/\∀ (j:Nat) (v:Value),[Value.int k' ((kG o len xs l).getD i 0)][j]? = some v->_
          rw[hg]
          refine⟨.int k' _,λj w hj => ?_⟩
          cases j with
          | zero =>
           simp at hj
           subst hj
           simpa[Ty.size]using zcy i hi
          | succ j=>simp at hj
         ·cases kN
          rw[z6b,<- WS]
          exact RD.int
      ·exact h2.elim
     ·exact h2.elim
    ·exact h2.elim
  ·exact absurd h zf
 ·exact absurd h zf
end
end Go.AM
namespace Go.AM
set_option linter.unusedSectionVars false
variable [vX]
def uD(P:Program)(g:Nat)(args:Array Value)(w:World)(R:Ending->World->Prop):Prop :=
 ((callFunc g args).run P w=.ok (.enter g args) w/\Calls P g args w R)\/∃ v w',(callFunc g args).run P w=.ok (.value v) w'/\R (.returned v) w'
theorem uD.mono{P:Program}{g:Nat}{args:Array Value}{w:World}{R R':Ending->World->Prop}(h:uD P g args w R)(hr:∀ e w,R e w->R' e w):uD P g args w R':=by
 rcases h with⟨h1,h2⟩ | ⟨v,w',h1,h2⟩
 ·exact .inl ⟨h1,h2.mono hr⟩
 ·exact .inr ⟨v,w',h1,hr _ _ h2⟩
def wv(κ:KS):GC->Ending->Prop
 | .ret ds,e=>∃ v,e=.returned v/\RD κ (yh ds) v
 | .kB d,e=>∃ v,e=.panicked [{ v,recovered:=false }]/\RD κ d v
abbrev Rj:=Nat->Array Value->World->(Ending->World->Prop)->Prop
def zgy(Dr:Rj)(g:Nat)(S:List D->St->T (GC×St)):Prop :=
 ∀ (κ:KS) (args:List D) (zy:List Value) (rs:GC) (zt:St),(S args κ.st).leads (rs,zt)->Inv κ->qE κ args zy ->
  Dr g zy.toArray κ.w λe w'=>∃ κ':KS,κ'.w=w'/\κ'.st=zt/\Inv κ'/\Ext κ κ'/\wv κ' rs e
def Bb(P:Program)(g:Nat)(S:List D->St->T (GC×St)):Prop :=
 ∀ (κ:KS) (args:List D) (zy:List Value) (rs:GC) (zt:St),(S args κ.st).leads (rs,zt)->Inv κ->qE κ args zy ->
  uD P g zy.toArray κ.w λe w'=>∃ κ':KS,κ'.w=w'/\κ'.st=zt/\Inv κ'/\Ext κ κ'/\wv κ' rs e
section
variable {c:Ctx} {κ:KS}
theorem RD.weaken{Wa:Nat->Prop}(hs:∀ k,κ.ok k->Wa k){d:D}{v:Value}(h:RD κ d v):RD { κ with ok:=Wa } d v:=by
 have nO:I2 κ.w κ.w κ.ok Wa:=λk hk=>⟨hs k hk,rfl⟩
 induction h with
 | zI τ y cs h=>exact .zI τ y cs (h.mono nO)
 | xd e a=>exact .xd e a
 | tight e l ne blk off f vM wg h hc=>exact .tight e l ne blk off f vM (hs _ wg) (λi hi=>(h i hi).mono nO) hc
 | xr=>exact .xr
 | yd=>exact .yd
 | qV=>exact .qV
 | vW=>exact .vW
 | vV=>exact .vV
 | td v h=>exact .td v h
 | cA T=>exact .cA T
 | cd b T d hd=>exact .cd b T d hd
 | cB b T blk n d hd h=>exact .cB b T blk n d hd h
 | ptr b off blk n d hd h=>exact .ptr b off blk n d hd h
 | qR τ y cs blk off wg h hc=>exact .qR τ y cs blk off (hs _ wg) (h.mono nO) hc
 | uo b qA e idx off blk o hb h=>exact .uo b qA e idx off blk o hb h
 | ms b qA e off len cap a hb vc ha pR h=>exact .ms b qA e off len cap a hb vc ha pR h
 | qW f l vs hl h ih=>exact .qW f l vs hl ih
 | agg l vs hl ho h ih=>exact .agg l vs hl ho ih
 | yq l vs hl h ih=>exact .yq l vs hl ih
 | iface t d v h ih=>exact .iface t d v ih
theorem RD.free{κ':KS}(hw:κ'.w=κ.w)(wg:κ'.ok=κ.ok)(xK:κ.st=[]){d:D}{v:Value}(h:RD κ d v):RD κ' d v:=by
 obtain⟨w',Wa,ph',zt⟩:=κ'
 subst hw wg
 induction h with
 | zI τ y cs h=>exact .zI τ y cs h
 | xd e a=>exact .xd e a
 | tight e l ne blk off f vM wg h hc=>exact .tight e l ne blk off f vM wg h hc
 | xr=>exact .xr
 | yd=>exact .yd
 | qV=>exact .qV
 | vW=>exact .vW
 | vV=>exact .vV
 | td v h=>exact .td v h
 | cA T=>exact .cA T
 | cd b T d hd=>grind
 | cB b T blk n d hd h=>grind
 | ptr b off blk n d hd h=>grind
 | qR τ y cs blk off wg h hc=>exact .qR τ y cs blk off wg h hc
 | uo b qA e idx off blk o hb h=>rcases hb with hb | ⟨_,_,_,hb,_⟩ <;> · rw[xK]at hb; simp at hb
 | ms b qA e off len cap a hb vc ha pR h=>rcases hb with hb | ⟨_,_,_,hb,_⟩ <;> · rw[xK]at hb; simp at hb
 | qW f l vs hl h ih=>exact .qW f l vs hl ih
 | agg l vs hl ho h ih=>exact .agg l vs hl ho ih
 | yq l vs hl h ih=>exact .yq l vs hl ih
 | iface t d v h ih=>exact .iface t d v ih
theorem Rc.scalar{w w':World}{ok Wa:Nat->Prop}{τ:Ty}{x:den τ}{cs:List Value}(h:Rc w ok τ x cs)(ht:τ.scalar=true):Rc w' Wa τ x cs:=by
 induction h with
 | int k n=>exact .int k n
 | bool b=>exact .bool b
 | str s=>exact .str s
 | fO=>cases ht
 | sl=>cases ht
 | nil=>exact .nil
 | cons a b x y c1 c2 h1 h2 i1 i2=>simp only[Ty.scalar,Bool.and_eq_true]at ht; exact .cons a b x y c1 c2 (i1 ht.1) (i2 ht.2)
 | expr=>cases ht
theorem z6C{e:Ty}{ys:List (den e)}{v:Value}(h:Src κ e ys v):Rc κ.w (Pb κ) (.sl e) ys [v]:=by
 obtain⟨a,cap,f,rfl,vc,hn,h1,h2⟩:=h.ex
 cases a with
 | none=>obtain⟨rfl,rfl⟩:=hn rfl; exact .fO e none
 | some p =>
  rcases h2 p rfl with⟨rfl,rfl⟩ | ⟨hp,wg,hc⟩
  ·exact .fO e _
  obtain⟨blk,o,sp⟩:=p
  subst hp
  exact .sl e ys blk o cap f wg vc (λi hi=>(h1 i hi).mono λk hk=>⟨.inl hk,rfl⟩) hc
def KS.all(κ:KS):KS:={ κ with ok:=Pb κ }
theorem RD.all{d:D}{v:Value}(h:RD κ d v):RD κ.all d v:=h.weaken λ_ hk=>.inl hk
theorem qE.all{l:List D}{vs:List Value}(h:qE κ l vs):qE κ.all l vs:=⟨h.1,λi h1 h2=>(h.2 i h1 h2).all⟩
theorem Yy{x y:D}{v:Value}(hI:Inv κ)(hx:RD κ x v)(h:(nS κ.st x).leads y):RD κ.all y v/\(x.one=true->y.one=true)/\(x.uM=false->y.uM=false):=by
 rcases tI hI hx h with⟨rfl,_⟩ | ⟨e,ys,rfl,hs,_⟩
 ·exact⟨hx.all,id,id⟩
 ·exact⟨RD.nB rfl (z6C hs),λ_=>rfl,λ_=>rfl⟩
theorem G5(hI:Inv κ):∀ {l r:List D} {vs:List Value},qE κ l vs->(∀ d∈l,d.one=true)->(Yk κ.st l).leads r->qE κ.all r vs/\∀ d∈r,d.one=true
 | [],r,vs,h,_,hs=>by cases hs; rw[h.qg]; exact⟨.nil,nofun⟩
 | d::l,r,vs,h,ho,hs=>by
  simp only[Yk,T.zD]at hs
  obtain⟨x,hx,l',hl,rfl⟩:=hs
  obtain⟨v,us,rfl,h1,h2⟩:=h.cons_inv
  obtain⟨g1,g2,_⟩:=Yy hI h1 hx
  obtain⟨k1,k2⟩:=G5 hI h2 (λd hd=>ho d (List.mem_cons_of_mem _ hd)) hl
  refine⟨.cons g1 k1,λd hd => ?_⟩
  grind
theorem S1{x y:D}{v:Value}(hI:Inv κ)(hx:RD κ x v)(h:(snap κ.st x).leads y):RD κ.all y v:=by
 cases x with
 | agg l =>
  simp only[snap,T.zD]at h
  obtain⟨r,hr,rfl⟩:=h
  cases hx with
  | agg _ vs hl ho hh =>
   obtain⟨g1,g2⟩:=G5 hI (⟨hl,hh⟩:qE κ l vs) ho hr
   exact .agg r vs g1.1 g2 g1.2
 | _=>exact(Yy hI hx h).1
theorem Qz{τ:Ty}{d:D}{x:den τ}{v:Value}(hI:Inv κ)(hd:RD κ d v)(h:(QK κ.st τ d).leads x):RD κ.all (.zI τ x) v:=by
 simp only[QK,T.zD,T.uc]at h
 obtain⟨y,h1,h2⟩:=h
 exact bN (S1 hI hd h1) h2
theorem YL{x y:D}(h:(nS [] x).leads y):y=x:=by
 cases x with
 | ms=>simp[nS,T.leads]at h
 | _=>exact h.symm
theorem Yz:∀ {l r:List D},(Yk [] l).leads r->r=l
 | [],_,h=>h.symm
 | d::l,r,h=>by
  simp only[Yk,T.zD]at h
  obtain⟨x,hx,l',hl,rfl⟩:=h
  rw[YL hx,Yz hl]
theorem z0E{x y:D}(h:(snap [] x).leads y):y=x:=by
 cases x with
 | agg l =>
  simp only[snap,T.zD]at h
  obtain⟨r,hr,rfl⟩:=h
  rw[Yz hr]
 | _=>exact YL h
theorem C1{τ:Ty}{d:D}{x:den τ}{v:Value}(hd:RD κ d v)(h:(QK [] τ d).leads x):RD κ (.zI τ x) v:=by
 simp only[QK,T.zD,T.uc]at h
 obtain⟨y,h1,h2⟩:=h
 rw[z0E h1]at h2
 exact bN hd h2
def XO:D->Bool | .zI .. | .qR .. => true | _=>false
def Ii:D->Bool
 | .qW _ l=>l.all XO
 | d=>XO d
theorem z1o{d:D}(h:XO d=true):Ii d=true:=by cases d<;>first | exact h | cases h
theorem JQ{st:St}{τ:Ty}{d y:D}(h:(nV st τ d).leads y):XO y=true:=by
 unfold nV at h
 split at h
 ·split at h
  ·cases h; rfl
  ·exact h.elim
 ·split at h
  ·split at h
   ·cases h; rfl
   ·exact h.elim
  ·exact h.elim
 ·exact h.elim
theorem Gd{τ:Ty}{d y:D}{v:Value}(hI:Inv κ)(hd:RD κ d v)(h:(nV κ.st τ d).leads y):RD κ.all y v:=by
 unfold nV at h
 split at h
 ·split at h
  ·rename_i x z hz
   cases h
   obtain⟨e,rfl⟩:=qk hz
   cases e
   exact hd.all
  ·exact h.elim
 ·rename_i b off
  split at h
  ·rename_i d' hb
   split at h
   ·rename_i z hz
    cases h
    cases ho:Nat.beq off 0 with
    | false=>grind
    | true =>
     have:=Nat.eq_of_beq_eq_true ho
     subst this
     obtain⟨blk,n,cs,t,g1,g2,g3,g4,g5⟩:=hI.blk b _ hb
     cases hd with
     | ptr _ _ lW n' d1 Fb hp =>
      rw[g1]at hp
      cases hp
      have wg:Pb κ blk:=.inr ⟨b,n,g1⟩
      have ht:d'.uM=false:=by
       cases d' with
       | yq l=>simp[fp,D.uM]at hz
       | _=>rfl
      have DT:=pB hz g4 g5.1 ht
      refine .qR τ z cs.toList blk 0 wg (DT.mono λk hk=>⟨.inl hk,rfl⟩) λj v hj => ?_
      show κ.w.cell? _=_
      rw[rq g2,Nat.zero_add]
      grind
   ·exact h.elim
  ·exact h.elim
 ·exact h.elim
theorem YX{τ:Ty}{d y:D}{v:Value}(hd:RD κ d v)(h:(nV [] τ d).leads y):RD κ y v:=by
 unfold nV at h
 split at h
 ·split at h
  ·rename_i x z hz
   cases h
   obtain⟨e,rfl⟩:=qk hz
   grind
  ·exact h.elim
 ·rename_i b off
  split at h
  ·grind
  ·exact h.elim
 ·exact h.elim
theorem Ce{st:St}{p:X6}{d y:D}(h:(r8 st p d).leads y):XO y=true:=by
 cases p with
 | rp τ=>exact JQ h
 | im τ=>simp only[r8,T.zD]at h; obtain⟨x,_,rfl⟩:=h; rfl
theorem FY{p:X6}{d y:D}{v:Value}(hI:Inv κ)(hd:RD κ d v)(h:(r8 κ.st p d).leads y):RD κ.all y v:=by
 cases p with
 | rp τ=>exact Gd hI hd h
 | im τ=>simp only[r8,T.zD]at h; obtain⟨x,hx,rfl⟩:=h; exact Qz hI hd hx
theorem Ft{p:X6}{d y:D}{v:Value}(hd:RD κ d v)(h:(r8 [] p d).leads y):RD κ y v:=by
 cases p with
 | rp τ=>exact YX hd h
 | im τ=>simp only[r8,T.zD]at h; obtain⟨x,hx,rfl⟩:=h; exact C1 hd hx
theorem Qu{st:St}:∀ {ps:List X6} {ds r:List D},(bO st ps ds).leads r->∀ d∈r,XO d=true
 | [],[],r,hs=>by cases hs; nofun
 | p::ps,d::ds,r,hs=>by
  simp only[bO,T.zD]at hs
  obtain⟨x,hx,l,hl,rfl⟩:=hs
  intro d' kN
  rcases List.mem_cons.1 kN with rfl | kN
  ·exact Ce hx
  ·exact Qu hl d' kN
 | [],_::_,_,hs=>hs.elim
 | _::_,[],_,hs=>hs.elim
theorem Wq(hI:Inv κ):∀ {ps:List X6} {ds r:List D} {vs:List Value},qE κ ds vs->(bO κ.st ps ds).leads r->qE κ.all r vs
 | [],[],r,vs,h,hs=>by cases hs; rw[h.qg]; exact .nil
 | p::ps,d::ds,r,vs,h,hs=>by
  simp only[bO,T.zD]at hs
  obtain⟨x,hx,l,hl,rfl⟩:=hs
  obtain⟨v,us,rfl,h1,h2⟩:=h.cons_inv
  exact .cons (FY hI h1 hx) (Wq hI h2 hl)
 | [],_::_,_,_,_,hs=>hs.elim
 | _::_,[],_,_,_,hs=>hs.elim
theorem W2:∀ {ps:List X6} {ds r:List D} {vs:List Value},qE κ ds vs->(bO [] ps ds).leads r->qE κ r vs
 | [],[],r,vs,h,hs=>by cases hs; rw[h.qg]; exact .nil
 | p::ps,d::ds,r,vs,h,hs=>by
  simp only[bO,T.zD]at hs
  obtain⟨x,hx,l,hl,rfl⟩:=hs
  obtain⟨v,us,rfl,h1,h2⟩:=h.cons_inv
  exact .cons (Ft h1 hx) (W2 h2 hl)
 | [],_::_,_,_,_,hs=>hs.elim
 | _::_,[],_,_,_,hs=>hs.elim
theorem tU{st:St}{p:Za}{d y:D}(h:(Ch st p d).leads y):(∃ τ x,p=.ty τ/\(QK st τ d).leads x/\y=.zI τ x)\/(∃ τ,p=.rp τ/\(nV st τ d).leads y) \/
  ∃ f caps l l',p=.qW f caps/\d=.qW f l/\(bO st caps l).leads l'/\y=.qW f l':=by
 cases p with
 | ty τ =>
  have h':((QK st τ d).bind λx=>T.ret (D.zI τ x)).leads y:=by cases d<;>exact h
  simp only[T.zD]at h'
  obtain⟨x,hx,rfl⟩:=h'
  grind
 | rp τ=>exact .inr (.inl ⟨τ,rfl,by cases d<;>exact h⟩)
 | qW f caps =>
  cases d with
  | qW f' l =>
   simp only[Ch]at h
   cases hb:Nat.beq f f' with
   | false=>rw[hb]at h; exact h.elim
   | true =>
    rw[hb,cond_true,T.zD]at h
    obtain⟨l',hl,rfl⟩:=h
    have:=Nat.eq_of_beq_eq_true hb
    grind
  | _=>exact h.elim
theorem Oc{st:St}{p:Za}{d y:D}(h:(Ch st p d).leads y):Ii y=true:=by
 rcases tU h with⟨τ,x,_,_,rfl⟩ | ⟨τ,_,h⟩ | ⟨f,caps,l,l',_,_,h',rfl⟩
 ·rfl
 ·exact z1o (JQ h)
 ·exact List.all_eq_true.2 (Qu h')
theorem z0T{p:Za}{d y:D}{v:Value}(hI:Inv κ)(hd:RD κ d v)(h:(Ch κ.st p d).leads y):RD κ.all y v:=by
 rcases tU h with⟨τ,x,_,hx,rfl⟩ | ⟨τ,_,h⟩ | ⟨f,caps,l,l',_,rfl,h',rfl⟩
 ·exact Qz hI hd hx
 ·exact Gd hI hd h
 ·cases hd with
  | qW _ _ vs hl hh =>
   have:=Wq hI (⟨hl,hh⟩:qE κ l vs) h'
   exact .qW f l' vs this.1 this.2
theorem z0m{p:Za}{d y:D}{v:Value}(hd:RD κ d v)(h:(Ch [] p d).leads y):RD κ y v:=by
 rcases tU h with⟨τ,x,_,hx,rfl⟩ | ⟨τ,_,h⟩ | ⟨f,caps,l,l',_,rfl,h',rfl⟩
 ·exact C1 hd hx
 ·exact YX hd h
 ·cases hd with
  | qW _ _ vs hl hh =>
   have:=W2 (⟨hl,hh⟩:qE κ l vs) h'
   exact .qW f l' vs this.1 this.2
theorem tk{st:St}:∀ {ps:List Za} {ds r:List D},(nM st ps ds).leads r->∀ d∈r,Ii d=true
 | [],[],r,hs=>by cases hs; nofun
 | p::ps,d::ds,r,hs=>by
  simp only[nM,T.zD]at hs
  obtain⟨x,hx,l,hl,rfl⟩:=hs
  intro d' kN
  rcases List.mem_cons.1 kN with rfl | kN
  ·exact Oc hx
  ·exact tk hl d' kN
 | [],_::_,_,hs=>hs.elim
 | _::_,[],_,hs=>hs.elim
theorem Yj(hI:Inv κ):∀ {ps:List Za} {ds r:List D} {vs:List Value},qE κ ds vs->(nM κ.st ps ds).leads r->qE κ.all r vs
 | [],[],r,vs,h,hs=>by cases hs; rw[h.qg]; exact .nil
 | p::ps,d::ds,r,vs,h,hs=>by
  simp only[nM,T.zD]at hs
  obtain⟨x,hx,l,hl,rfl⟩:=hs
  obtain⟨v,us,rfl,h1,h2⟩:=h.cons_inv
  exact .cons (z0T hI h1 hx) (Yj hI h2 hl)
 | [],_::_,_,_,_,hs=>hs.elim
 | _::_,[],_,_,_,hs=>hs.elim
theorem QX:∀ {ps:List Za} {ds r:List D} {vs:List Value},qE κ ds vs->(nM [] ps ds).leads r->qE κ r vs
 | [],[],r,vs,h,hs=>by cases hs; rw[h.qg]; exact .nil
 | p::ps,d::ds,r,vs,h,hs=>by
  simp only[nM,T.zD]at hs
  obtain⟨x,hx,l,hl,rfl⟩:=hs
  obtain⟨v,us,rfl,h1,h2⟩:=h.cons_inv
  exact .cons (z0m h1 hx) (QX h2 hl)
 | [],_::_,_,_,hs,h=>h.elim
 | _::_,[],_,_,hs,h=>h.elim
def KS.bare(κ:KS)(ok:Nat->Prop):KS:=⟨κ.w,ok,[],[]⟩
theorem JK{ok:Nat->Prop}(hI:Inv κ)(hs:∀ k,κ.ok k->ok k)(h:∀ k,ok k->k<κ.w.heap.size):Inv (κ.bare ok) :=
 ⟨rfl,h,λb blk n h=>by simp[KS.bare]at h,λb b' blk n n' h=>by nofun,λb x h=>by simp[KS.bare]at h,hI.gl.mono λk hk=>⟨hs k hk,rfl⟩⟩
theorem nj{ok:Nat->Prop}{d:D}{v:Value}(hi:XO d=true)(h:RD { κ with ok:=ok } d v):RD (κ.bare ok) d v:=by
 cases d with
 | zI τ x=>obtain⟨cs,h1,rfl⟩:=RD.gL h; exact .zI τ x cs h1
 | qR τ x=>cases h with | qR _ _ cs blk off wg h hc=>exact .qR τ x cs blk off wg h hc
 | _=>cases hi
theorem KP{ok:Nat->Prop}{d:D}{v:Value}(hi:Ii d=true)(h:RD { κ with ok:=ok } d v):RD (κ.bare ok) d v:=by
 cases d with
 | qW f l =>
  cases h with
  | qW _ _ vs hl hh=>exact .qW f l vs hl λi h1 h2=>nj (List.all_eq_true.1 hi _ (List.getElem_mem h1)) (hh i h1 h2)
 | zI τ x=>exact nj hi h
 | qR τ x=>exact nj hi h
 | _=>cases hi
theorem Db{κ1:KS}{ok:Nat->Prop}(hI:Inv κ)(QT:Inv κ1)(xK:κ1.st=[])(hx:Ext (κ.bare ok) κ1)(Wa:Nat->Prop)(h1:∀ k,κ.ok k->Wa k)(h2:∀ k,Wa k->κ.ok k\/κ.w.heap.size<=k)(h3:∀ k,Wa k->k<κ1.w.heap.size) :
  Ext κ { κ with w:=κ1.w,ok:=Wa }/\Inv { κ with w:=κ1.w,ok:=Wa }:=by
 have hfr:∀ k,k<κ.w.heap.size->κ1.w.heap[k]? = κ.w.heap[k]? := λk hk=>hx.frame k hk λb n h=>by simp[KS.bare]at h
 have uH:κ.w.heap.size<=κ1.w.heap.size:=hx.size
 have he:Ext κ { κ with w:=κ1.w,ok:=Wa }:=⟨hx.os,hx.tape,hx.output,uH,λk hk=>⟨h1 k hk,hfr k (hI.yF k hk)⟩,λk hk=>(h2 k hk).elim .inl (λh=>.inr (.inl h)),λ_ _ _ h=>.inl h,λb d h=>⟨⟨d,h⟩,rfl⟩,
  λb v0 e xs h=>.inr ⟨v0,xs,h,Nat.le_refl _,λ_=>⟨rfl,rfl⟩⟩,λ_ h=>h,Nat.le_refl _,λk hk _=>hfr k hk⟩
 refine⟨he,hI.len,h3,λb blk n h => ?_,hI.inj,λb x h=>(hI.blk b x h).mono he rfl λblk n h=>hfr _ (hI.apart b blk n h).1,hI.gl.mono he.same⟩
 obtain⟨g1,g2⟩:=hI.apart b blk n h
 grind
theorem OS{g:Nat}{args:List D}{zy:List Value}{d:Option D}{zt:St}(hs:Bb c.P g (c.fn g))(hI:Inv κ)(ha:qE κ args zy)
  (h:(zH (match c.sig g args with | some s=>hH c g s args | none=>rk c g args) κ.st).leads (d,zt)) :
  uD c.P g zy.toArray κ.w λe w'=>∃ (κ':KS) (v:Value),κ'.w=w'/\κ'.st=zt/\Inv κ'/\Ext κ κ'/\e=.returned v/\∀ d',d=some d'->RD κ' d' v:=by
 split at h
 ·rename_i s Oq
  unfold hH at h
  cases hm:(!(args.any UT))with
  | true =>
   rw[hm,cond_true,wU]at h
   obtain⟨h,rfl⟩:=h
   simp only[T.zD]at h
   obtain⟨l,hl,⟨rs,gS⟩,hc,hr⟩:=h
   have bj:=QX ha hl
   have hb:qE (κ.bare κ.ok) l zy:=⟨bj.1,λi h1 h2=>KP (tk hl _ (List.getElem_mem h1)) (bj.2 i h1 h2)⟩
   refine(hs (κ.bare κ.ok) l zy rs gS hc (JK hI (λ_ h=>h) hI.yF) hb).mono ?_
   rintro e w' ⟨κ1,rfl,xK,QT,hx,he⟩
   unfold z0F at hr
   split at hr
   ·rename_i ds heq
    cases heq
    cases hr
    obtain⟨v,rfl,hv⟩:=he
    obtain⟨hE,hI'⟩:=Db hI QT xK hx κ1.ok (λk hk=>(hx.same k hk).1) (λk hk=>by
     rcases hx.fresh k hk with h | h | ⟨b,n,h⟩
     ·exact .inl h
     ·exact .inr h
     ·simp[KS.bare]at h) QT.yF
    exact⟨{ κ with w:=κ1.w,ok:=κ1.ok },v,rfl,rfl,hI',hE,rfl,λd' kN=>by cases kN; exact RD.free (κ:=κ1) (κ':={ κ with w:=κ1.w,ok:=κ1.ok }) rfl rfl xK hv⟩
   ·exact hr.elim
  | false =>
   rw[hm,cond_false,lF]at h
   obtain⟨h,rfl⟩:=h
   simp only[T.zD]at h
   obtain⟨l,hl,⟨rs,gS⟩,hc,hr⟩:=h
   have bj:=Yj hI ha hl
   have hb:qE (κ.bare (Pb κ)) l zy:=⟨bj.1,λi h1 h2=>KP (tk hl _ (List.getElem_mem h1)) (bj.2 i h1 h2)⟩
   have qu:∀ k,Pb κ k->k<κ.w.heap.size:=by
    rintro k (hk | ⟨b,n,hk⟩)
    ·exact hI.yF k hk
    ·exact(hI.apart b k n hk).1
   refine(hs (κ.bare (Pb κ)) l zy rs gS hc (JK hI (λ_ h=>.inl h) qu) hb).mono ?_
   rintro e w' ⟨κ1,rfl,xK,QT,hx,he⟩
   unfold se at hr
   split at hr
   ·rename_i ds heq
    cases heq
    cases o8:ds.all s7 with
    | false=>rw[o8]at hr; exact hr.elim
    | true =>
     rw[o8,cond_true]at hr
     cases hr
     obtain⟨v,rfl,hv⟩:=he
     obtain⟨hE,hI'⟩:=Db hI QT xK hx κ.ok (λk hk=>hk) (λk hk=>.inl hk) (λk hk=>Nat.lt_of_lt_of_le (hI.yF k hk) hx.size)
     refine⟨{ κ with w:=κ1.w,ok:=κ.ok },v,rfl,rfl,hI',hE,rfl,λd' kN => ?_⟩
     cases kN
     have one:∀ d u,s7 d=true->RD κ1 d u->RD { κ with w:=κ1.w,ok:=κ.ok } d u:=by
      intro d u hd hu
      cases d<;>simp[s7]at hd
      obtain⟨cs,h1,rfl⟩:=RD.gL hu
      exact .zI _ _ cs (h1.scalar hd)
     have Q9:=List.all_eq_true.1 o8
     unfold yh at hv ⊢
     split at hv
     ·exact one _ _ (Q9 _ (by simp)) hv
     ·rename_i vM
      cases hv with
      | yq _ vs hl hh=>exact .yq ds vs hl λi h1 h2=>one _ _ (Q9 _ (List.getElem_mem h1)) (hh i h1 h2)
   ·exact hr.elim
 ·unfold rk at h
  simp only[zH,T.zD]at h
  obtain⟨⟨rs,gS⟩,hc,hr⟩:=h
  refine(hs κ args zy rs gS hc hI ha).mono ?_
  rintro e w' ⟨κ1,rfl,xK,QT,hx,he⟩
  cases rs with
  | kB p=>exact hr.elim
  | ret ds =>
   cases hr
   obtain⟨v,rfl,hv⟩:=he
   exact⟨κ1,v,rfl,xK,QT,hx,rfl,λd' kN=>by cases kN; exact hv⟩
end
end Go.AM