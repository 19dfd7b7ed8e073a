/-
  The abstract machine, part B: texts of our own, the same for each claim.
-/
import Derived.Test.YthhgaidlooddpaaGreatDoorAmA
import Derived.Lib.AppendStr
import Derived.WideLaws
import Derived.Laws.BytesArg
import Derived.Laws.CopyRow
import Derived.Laws.IdiomCopy
set_option linter.unusedVariables false
namespace Go.AM
set_option linter.unusedSectionVars false
variable [ur]
section
variable {c:Ctx} {κ κ':KS}
theorem ff.mono(x:Ext κ κ'){b:Nat}(hp:κ'.ph[b]? = κ.ph[b]?)(hh:∀ blk n,κ.ph[b]? = some (some (blk,n))->κ'.w.heap[blk]? = κ.w.heap[blk]?){y:yj}(h:ff κ b y):ff κ' b y:=by
 cases y with
 | dead=>trivial
 | var d =>
  obtain⟨blk,n,cs,t,h1,h2,h3,h4,h5⟩:=h
  exact⟨blk,n,cs,t,hp.trans h1,(hh blk n h1).trans h2,h3,h4.mono x,h5⟩
 | arr qJ e xs =>
  obtain⟨h0,h⟩:=h
  refine⟨h0,eV h (λh=>⟨h.1,hp.trans h.2⟩) ?_⟩
  rintro⟨blk,n,cs,t,h1,h2,h3,h4,hr,f,h5⟩
  exact⟨blk,n,cs,t,hp.trans h1,(hh blk n h1).trans h2,h3,h4,hr,f,λi hi=>⟨(h5 i hi).1.mono x.same,(h5 i hi).2⟩⟩
def KS.zC(κ:KS)(w':World):KS:={ κ with w:=w',ok:=λk=>κ.ok k\/k=κ.w.heap.size }
structure fa(w w':World)(o:Obj):Prop where
 os:w'.os=w.os
 tape:w'.tape=w.tape
 output:w'.output=w.output
 heap:w'.heap=w.heap.push o
theorem fa.size{w w':World}{o:Obj}(g:fa w w' o):w'.heap.size=w.heap.size+1:=by rw[g.heap]; simp
theorem fa.old{w w':World}{o:Obj}(g:fa w w' o){k:Nat}(h:k<w.heap.size):w'.heap[k]? = w.heap[k]? := by
 rw[g.heap,Array.getElem?_push,if_neg (by omega)]
theorem fa.new{w w':World}{o:Obj}(g:fa w w' o):w'.heap[w.heap.size]? = some o:=by rw[g.heap]; simp
theorem fa.alloc(w:World)(o:Obj):fa w (w.alloc o) o:=⟨rfl,rfl,rfl,rfl⟩
theorem fa.drew(w:World)(o:Obj):fa w (w.drew.alloc o) o:=⟨rfl,rfl,rfl,rfl⟩
theorem VO{w':World}{o:Obj}(hI:Inv κ)(g:fa κ.w w' o):Ext κ (κ.zC w'):=by
 refine⟨g.os,g.tape,g.output,by show κ.w.heap.size<=w'.heap.size; rw[g.size]; omega,λk hk=>⟨.inl hk,g.old (hI.gm k hk)⟩,?_,λ_ _ _ h=>.inl h,λb d h=>⟨⟨d,h⟩,rfl⟩,
  λb v0 e xs h=>.inr ⟨v0,xs,h,Nat.le_refl _,λ_=>⟨rfl,rfl⟩⟩,λ_ h=>h,Nat.le_refl _,λk hk _=>g.old hk⟩
 rintro k (hk | hk)
 ·grind
 ·grind
theorem hM{w':World}{o:Obj}(hI:Inv κ)(g:fa κ.w w' o):Inv (κ.zC w'):=by
 refine⟨hI.len,?_,?_,hI.inj,?_,hI.gl.mono (VO hI g).same⟩
 ·rintro k (hk | hk)
  ·have:=hI.gm k hk; show k<w'.heap.size; rw[g.size]; omega
  ·show k<w'.heap.size; rw[g.size]; omega
 ·intro b blk n h
  obtain⟨h1,h2⟩:=hI.apart b blk n h
  refine⟨by show blk<w'.heap.size; rw[g.size]; omega,?_⟩
  rintro(hk | hk)
  ·exact h2 hk
  ·omega
 ·intro b x hx
  exact(hI.blk b x hx).mono (VO hI g) rfl λblk n h=>g.old (hI.apart b blk n h).1
def KS.add(κ:KS)(w':World)(n:Nat)(x:yj):KS:={ κ with w:=w',ph:=κ.ph++[some (κ.w.heap.size,n)],st:=κ.st++[x] }
theorem sR{w':World}{o:Obj}{n:Nat}{x:yj}(hI:Inv κ)(g:fa κ.w w' o):Ext κ (κ.add w' n x):=by
 have xR:∀ b y,κ.st[b]? = some y->(κ.st++[x])[b]? = some y:=λb y h=>by rw[List.getElem?_append_left (List.getElem?_eq_some_iff.1 h).1]; exact h
 have Gc:∀ b y,κ.st[b]? = some y->(κ.ph++[some (κ.w.heap.size,n)])[b]? = κ.ph[b]? := λb y h=>by
  rw[List.getElem?_append_left]; rw[hI.len]; exact(List.getElem?_eq_some_iff.1 h).1
 refine⟨g.os,g.tape,g.output,by show κ.w.heap.size<=w'.heap.size; rw[g.size]; omega,λk hk=>⟨hk,g.old (hI.gm k hk)⟩,λk hk=>.inl hk,?_,λb d h=>⟨⟨d,xR b _ h⟩,Gc b _ h⟩,
  λb v0 e xs h=>.inr ⟨v0,xs,xR b _ h,Nat.le_refl _,λ_=>⟨Gc b _ h,rfl⟩⟩,λb h=>xR b _ h,by simp[KS.add],λk hk _=>g.old hk⟩
 intro b blk m h
 simp only[KS.add]at h
 grind
theorem oO(hI:Inv κ){w':World}{n:Nat}{x:yj}:(κ.add w' n x).ph[κ.st.length]? = some (some (κ.w.heap.size,n)):=by
 simp[KS.add,<- hI.len]
theorem Zl{w':World}{n:Nat}{x:yj}:(κ.add w' n x).st[κ.st.length]? = some x:=by simp[KS.add]
theorem VJ{w':World}{o:Obj}{n:Nat}{x:yj}(hI:Inv κ)(g:fa κ.w w' o)(hx:ff (κ.add w' n x) κ.st.length x):Inv (κ.add w' n x):=by
 have hold:∀ (b blk m:Nat),(κ.ph++[some (κ.w.heap.size,n)])[b]? = some (some (blk,m))->κ.ph[b]? = some (some (blk,m))\/(b=κ.ph.length/\blk=κ.w.heap.size):=by
  grind
 refine⟨by simp[KS.add,hI.len],?_,?_,?_,?_,hI.gl.mono (sR hI g).same⟩
 ·intro k hk; have:=hI.gm k hk; show k<w'.heap.size; rw[g.size]; omega
 ·intro b blk m h
  rcases hold b blk m h with h | ⟨rfl,rfl⟩
  ·obtain⟨h1,h2⟩:=hI.apart b blk m h
   exact⟨by show blk<w'.heap.size; rw[g.size]; omega,h2⟩
  ·exact⟨by show κ.w.heap.size<w'.heap.size; rw[g.size]; omega,λhk=>absurd (hI.gm _ hk) (Nat.lt_irrefl _)⟩
 ·intro b b' blk m m' h h'
  rcases hold b blk m h with h | ⟨rfl,rfl⟩<;>rcases hold b' _ m' h' with h' | ⟨rfl,h''⟩
  ·exact hI.inj b b' blk m m' h h'
  ·have:=(hI.apart b blk m h).1; omega
  ·have:=(hI.apart b' _ m' h').1; omega
  ·rfl
 ·intro b y hy
  simp only[KS.add]at hy
  by_cases hb:b<κ.st.length
  ·rw[List.getElem?_append_left hb]at hy
   refine(hI.blk b y hy).mono (sR hI g) ?_ λblk m h=>g.old (hI.apart b blk m h).1
   simp only[KS.add]
   rw[List.getElem?_append_left (by rw[hI.len]; exact hb)]
  ·grind
theorem Mk{d:D}{v:Value}{t:TypeId}(hI:Inv κ)(hd:RD κ d v)(ht:d.jf=false)(Lo:∀ T,d.typed=some T->t=T) :
  ∃ κ':KS,κ'.w=κ.w.alloc (.cells v.cells t)/\κ'.st=κ.st++[.var d]/\Inv κ'/\Ext κ κ'/\RD κ' (.ptr κ.st.length 0) (.pointer (some ⟨κ.w.heap.size,0,none⟩)):=by
 have g:=fa.alloc κ.w (.cells v.cells t)
 have hx:=sR (n:=v.cells.size) (x:=.var d) hI g
 refine⟨κ.add _ v.cells.size (.var d),rfl,rfl,VJ hI g ?_,hx,.ptr _ 0 _ v.cells.size d Zl (oO hI)⟩
 exact⟨κ.w.heap.size,v.cells.size,v.cells,t,oO hI,g.new,rfl,(jF hd ht).mono hx,jN hd,Lo⟩
theorem PC{t:Nat}{x:Option D}{v:Value}{d:Option D}{zx:St}(hI:Inv κ)(hx:∀ z,x=some z->RD κ z v)
  (h:(zR (SP x) κ.st).leads (d,zx)) :
  qH c.P (do Pure.pure (.value (<- Instr.box t v))) κ d zx:=by
 cases x with
 | none=>exact absurd h zh
 | some y =>
  simp only[SP]at h
  cases ht:y.jf||y.typed.isSome with
  | true=>rw[ht]at h; exact absurd h zh
  | false =>
   rw[ht,cond_false]at h
   simp at ht
   obtain⟨ht,Lo⟩:=ht
   have zeQ:∀ T,y.typed=some T->t=T:=λT e=>by rw[e]at Lo; cases Lo
   obtain⟨rfl,rfl⟩:=h
   obtain⟨κ',h1,h2,h3,h4,h5⟩:=Mk (t:=t) hI (hx _ rfl) ht zeQ
   refine⟨κ',_,_,?_,.inl rfl,h2,h3,h4,λ_ he=>by cases he; exact h5⟩
   simp[Instr.box,newVar,newRow,h1]
theorem z7k{d:D}{τ:Ty}{x:den τ}{v:Value}{t:TypeId}(hI:Inv κ)(hd:RD κ d v)(hx:fk τ d=some x) :
  ∃ κ':KS,κ'.w=κ.w.alloc (.cells v.cells t)/\κ'.st=κ.st/\Inv κ'/\Ext κ κ'/\RD κ' (.xe τ x) (.pointer (some ⟨κ.w.heap.size,0,none⟩)):=by
 have g:=fa.alloc κ.w (.cells v.cells t)
 have Zt:=VO hI g
 obtain⟨cs,h1,h2⟩:=RD.hM (cQ hd hx)
 have hc:=Qh h1.len h1.one
 have hn:(κ.w.alloc (.cells v.cells t)).heap[κ.w.heap.size]? = some (.cells v.cells t (0,0)):=g.new
 have tR:∀ j u,cs[j]? = some u->(κ.w.alloc (.cells v.cells t)).cell? ⟨κ.w.heap.size,0+j,none⟩=some u:=by
  simp
  grind
 exact⟨κ.zC _,rfl,rfl,hM hI g,Zt,.xe τ x cs κ.w.heap.size 0 (.inr rfl) (h1.mono Zt.same) tR⟩
theorem Fh{t:Nat}{x:Option D}{v:Value}{d:Option D}{zx:St}(hI:Inv κ)(hx:∀ z,x=some z->RD κ z v)
  (h:(zR (Rz c t x) κ.st).leads (d,zx)):qH c.P (do Pure.pure (.value (<- Instr.box t v))) κ d zx:=by
 have key:∀ (y:D) (τ:Ty) (z:den τ),x=some y->fk τ y=some z->(zR (val (.xe τ z)) κ.st).leads (d,zx)->qH c.P (do Pure.pure (.value (<- Instr.box t v))) κ d zx:=by
  intro y τ z hy hz h
  obtain⟨rfl,rfl⟩:=h
  obtain⟨κ',h1,h2,h3,h4,h5⟩:=z7k (t:=t) hI (hx y hy) hz
  refine⟨κ',_,_,?_,.inl rfl,h2,h3,h4,λ_ he=>by cases he; exact h5⟩
  simp[Instr.box,newVar,newRow,h1]
 unfold Rz at h
 split at h
 ·rename_i τ z
  exact key _ τ z rfl (by simp[fk,vN]) h
 ·split at h
  ·split at h
   ·grind
   ·exact absurd h zh
  ·exact absurd h zh
 ·exact absurd h zh
theorem Eu{t:Nat}{dst:Option Nat}{x:Option D}{v:Value}{d:Option D}{zx:St}(hI:Inv κ)(hx:∀ z,x=some z->RD κ z v)
  (h:(zR (z0u c t dst x) κ.st).leads (d,zx)):qH c.P (do Pure.pure (.value (<- Instr.box t v))) κ d zx:=by
 unfold z0u at h
 cases hb:zdB c dst with
 | true=>rw[hb]at h; exact Fh hI hx h
 | false=>rw[hb]at h; exact PC hI hx h
theorem sw{v:Value}{d:D}(h:rE v=some d):RD κ d v/\d.one=true/\d.jf=false/\(∀ cs,v≠.agg cs):=by
 unfold rE at h
 split at h<;>cases h<;>refine⟨?_,rfl,rfl,λ_=>nofun⟩
 ·exact .int
 ·exact .bool
 ·rename_i s; have:=RD.str (κ:=κ) (s:=s.data.toList); simpa using this
 ·exact .xE
 ·exact .yL
 ·exact .uq
 ·exact .xh
 ·exact .uo
theorem Jz{v:Value}{d:D}(h:WG v=some d):RD κ d v/\d.jf=false:=by
 unfold WG at h
 split at h
 ·rename_i cs
  split at h
  ·rename_i l hl
   cases h
   have pz:∀ x∈l,x.one=true:=by
    intro x hx
    have:some x∈cs.toList.map rE:=by rw[dW hl]; exact List.mem_map.2 ⟨x,hx,rfl⟩
    obtain⟨u,_,hu⟩:=List.mem_map.1 this
    exact(sw (κ:=κ) hu).2.1
   have hr:=gM (κ:=κ) (vs:=cs.toList) hl (by simp) (λi d v hd hv=>by
    simp only[List.getElem?_map,hv,Option.map_some,Option.some.injEq]at hd
    exact(sw hd).1)
   refine⟨?_,rfl⟩
   have:=RD.agg l cs.toList hr.1 pz hr.2
   omega
  ·cases h
 ·exact⟨(sw h).1,(sw (κ:=κ) h).2.2.1⟩
theorem Xg{v:Value}{d:D}(h:rE v=some d):(∀ l,d≠.agg l)/\(∀ T,d≠.dr T)/\∀ b T,d≠.yt b T:=by
 unfold rE at h
 grind
theorem Dj{v:Value}{d:D}(h:WG v=some d):d.typed=none:=by
 unfold WG at h
 split at h
 ·rename_i cs
  split at h
  ·rename_i l hl
   cases h
   have hz:=dW hl
   cases l with
   | nil=>rfl
   | cons x r =>
    have:some x∈cs.toList.map rE:=by rw[hz]; simp
    obtain⟨u,_,hu⟩:=List.mem_map.1 this
    obtain⟨_,h1,h2⟩:=Xg hu
    cases x<;>first | rfl | exact absurd rfl (h1 _) | exact absurd rfl (h2 _ _)
  ·cases h
 ·have:=(Xg h).1
  cases d<;>first | rfl | exact absurd rfl (this _)
structure ZD(t:Nat)(d:D)(z:Value):Prop where
 rd:∀ κ:KS,RD κ d z
 gz:d.jf=false
 ty:∀ T,d.typed=some T->t=T
theorem RA{t:Nat}{d:D}{z:Value}(h:WG z=some d):ZD t (Rn c t d) z:=by
 have h0:∀ κ:KS,RD κ d z:=λκ=>(Jz h).1
 have h1:d.jf=false:=(Jz (κ:=⟨default,λ_=>False,[],[]⟩) h).2
 have h2:=Dj h
 have same:ZD t d z:=⟨h0,h1,λT e=>by grind⟩
 unfold Rn
 split
 ·rename_i r
  cases hs:z4E c t with
  | false=>exact same
  | true =>
   refine⟨λκ => ?_,rfl,λT e=>by cases e; rfl⟩
   cases h0 κ with
   | agg _ vs hl ho hh =>
    have hR:qM κ (.yL::r) vs:=⟨hl,hh⟩
    obtain⟨v,us,rfl,g1,g2⟩:=hR.cons_inv
    have hR2:qM κ (.dr t::r) (v::us):=.cons (by cases g1; exact .dr t) g2
    exact .agg _ _ hR2.1 (λx hx=>by
     rcases List.mem_cons.1 hx with rfl | hx
     ·rfl
     ·exact ho x (List.mem_cons_of_mem _ hx)) hR2.2
 ·exact same
theorem fQ{t:Nat}{d:D}(h:WS c t=some d):∃ i z,c.P.info? t=some i/\i.zero=some z/\ZD t d z:=by
 unfold WS at h
 split at h
 ·rename_i i hi
  split at h
  ·rename_i z hz
   split at h
   ·rename_i d0 NS
    cases h
    exact⟨i,z,hi,hz,RA NS⟩
   ·cases h
  ·cases h
 ·cases h
theorem EJ{t:Nat}{d:Option D}{zx:St}(hI:Inv κ)
  (h:(zR (nE c t) κ.st).leads (d,zx)) :
  qH c.P (do Pure.pure (.value (<- Instr.alloc t true (.tuple #[])))) κ d zx:=by
 unfold nE at h
 split at h
 ·rename_i y hy
  obtain⟨i,z,h1,h2,h3⟩:=fQ hy
  obtain⟨rfl,rfl⟩:=h
  obtain⟨κ',g1,g2,g3,g4,g5⟩:=Mk (t:=t) hI (h3.rd κ) h3.gz h3.ty
  refine⟨κ',_,_,?_,.inl rfl,g2,g3,g4,λ_ he=>by cases he; exact g5⟩
  simp[Instr.alloc,zeroValue,typeInfo,h1,h2,newVar,newRow,g1]
 ·exact absurd h zh
end
end Go.AM
namespace Go.AM
set_option linter.unusedSectionVars false
variable [ur]
section
variable {c:Ctx} {κ:KS}
def KS.Br(κ:KS)(b blk:Nat)(cs:Array Value)(x:yj):KS:={ κ with w:=κ.w.setRow blk cs,st:=κ.st.set b x }
def Alike:yj->yj->Prop
 | .var _,.var _=>True
 | .arr v e xs,.arr v' e' xs'=>e=e'/\v<=v'/\(v=v'->xs.length=xs'.length)
 | _,_=>False
theorem mJ{b blk n:Nat}{cs:Array Value}{x y:yj}(hI:Inv κ)(hp:κ.ph[b]? = some (some (blk,n)))(hy:κ.st[b]? = some y)(ha:Alike y x):Ext κ (κ.Br b blk cs x):=by
 have qD:b<κ.st.length:=(List.getElem?_eq_some_iff.1 hy).1
 have uh:∀ k,κ.ok k->k≠blk:=λk hk e=>(hI.apart b blk n hp).2 (e▸hk)
 refine⟨rfl,rfl,rfl,by simp[KS.Br],λk hk=>⟨hk,setRow_other _ _ _ _ (uh k hk)⟩,λk hk=>.inl hk,λ_ _ _ h=>.inl h,?_,?_,?_,by simp[KS.Br],?_⟩
 ·intro b' d hd
  refine⟨?_,rfl⟩
  simp only[KS.Br,List.getElem?_set]
  split
  ·rename_i e
   subst e
   rw[hy]at hd; cases hd
   cases x<;>simp[Alike]at ha
   simp
  ·grind
 ·intro b' v0 e Zd hd
  simp only[KS.Br,List.getElem?_set]
  split
  ·rename_i e'
   subst e'
   rw[hy]at hd; cases hd
   cases x<;>simp[Alike]at ha
   grind
  ·grind
 ·intro b' hd
  simp only[KS.Br,List.getElem?_set]
  split
  ·rename_i e
   subst e
   rw[hy]at hd; cases hd
   simp[Alike]at ha
  ·exact hd
 ·intro k hk hn
  exact setRow_other _ _ _ _ (λe=>hn b n (e▸hp))
theorem QU{b blk n:Nat}{cs:Array Value}{x y:yj}(hI:Inv κ)(hp:κ.ph[b]? = some (some (blk,n)))(hy:κ.st[b]? = some y)(ha:Alike y x)
  (hx:ff (κ.Br b blk cs x) b x):Inv (κ.Br b blk cs x):=by
 refine⟨by simp[KS.Br,hI.len],?_,?_,hI.inj,?_,hI.gl.mono (mJ hI hp hy ha).same⟩
 ·intro k hk; show k<(κ.w.setRow blk cs).heap.size; rw[setRow_size]; exact hI.gm k hk
 ·intro b' lN m h
  obtain⟨h1,h2⟩:=hI.apart b' lN m h
  exact⟨by show lN<(κ.w.setRow blk cs).heap.size; rw[setRow_size]; exact h1,h2⟩
 ·intro b' z hz
  by_cases hb:b=b'
  ·subst hb
   simp only[KS.Br]at hz
   grind
  ·simp only[KS.Br,List.getElem?_set,if_neg hb]at hz
   refine(hI.blk b' z hz).mono (mJ hI hp hy ha) rfl λlN m h => ?_
   refine setRow_other _ _ _ _ λe => ?_
   subst e
   exact hb (hI.inj b b' _ n m hp h)
theorem HF{d d':D}{t:Nat}(h:n4 d d'=true)(hd:∀ T,d.typed=some T->t=T):∀ T,d'.typed=some T->t=T:=by
 intro T hT
 unfold n4 at h
 rw[hT]at h
 cases NS:d.typed with
 | none=>grind
 | some T' =>
  rw[NS]at h
  have e:=Nat.eq_of_beq_eq_true h
  grind
theorem nT{t:Nat}{n blk o:Nat}{v:Value}{cs:Array Value}{T:TypeId}(hn:iR c t=some n)(hv:v.cells.toList.length=n)(h1:∀ u∈v.cells.toList,u.oneCell'=true)
  (hg:κ.w.heap[blk]? = some (.cells cs T (0,0))) (hle:o+n<=cs.size) :
  (storeVar t ⟨blk,o,none⟩ v).run c.P κ.w=.ok () (κ.w.setRow blk (cs.toList.take o++v.cells.toList++cs.toList.drop (o+n)).toArray):=by
 have hs:v.cells.size=n:=by simpa using hv
 have:=run_storeCells_at c.P blk o T v.cells.toList 0 cs κ.w hg (by grind) h1
 simp[storeVar,run_sizeOf hn,hs,this]
theorem lD{l:List D}{vs us:List Value}{x:List D}(h:qM κ l vs)(hx:qM κ x us)(o n:Nat) :
  qM κ (l.take o++x++l.drop (o+n)) (vs.take o++us++vs.drop (o+n)):=((h.take o).append hx).append (h.drop (o+n))
theorem Z8{cs us:List Value}{o n:Nat}(hu:us.length=n)(ho:o+n<=cs.length)(p:Nat) :
  (cs.take o++us++cs.drop (o+n))[p]? = if p<o then cs[p]? else if p<o+n then us[p-o]? else cs[p]? := by grind
theorem YC{t:Nat}{d x r:D}{off:Nat}(h:DN c t d off x=some r):∃ n,iR c t=some n/\0<n/\(qm x).length=n/\off+n<=(qm d).length /\
  qm r=(qm d).take off++qm x++(qm d).drop (off+n)/\((∀ y∈qm d,y.one=true)->(∀ y∈qm x,y.one=true)->∀ y∈qm r,y.one=true)/\x.jf=false:=by
 unfold DN at h
 split at h
 ·cases h
 ·rename_i n hn
  cases hb:Nat.blt 0 n&&Nat.beq n (qm x).length&&Nat.ble (off+n) (qm d).length with
  | false=>grind
  | true =>
   rw[hb,cond_true]at h
   simp only[Bool.and_eq_true]at hb
   obtain⟨⟨h0,h1⟩,h2⟩:=hb
   have h0':0<n:=Nat.le_of_ble_eq_true h0
   have Vd:n=(qm x).length:=Nat.eq_of_beq_eq_true h1
   have h2':=Nat.le_of_ble_eq_true h2
   have Dh:x.jf=false:=by
    cases x with
    | gz l=>simp[qm]at Vd; omega
    | _=>rfl
   cases hw:Nat.beq n (qm d).length with
   | true =>
    have h3:n=(qm d).length:=Nat.eq_of_beq_eq_true hw
    have h4:off=0:=by omega
    subst h4
    grind
   | false =>
    rw[hw,cond_false]at h
    cases h
    refine⟨n,hn,h0',Vd.symm,h2',rfl,λhd hx y hy => ?_,Dh⟩
    simp only[qm,List.mem_append]at hy
    rcases hy with(hy | hy) | hy
    ·exact hd y (List.mem_of_mem_take hy)
    ·exact hx y hy
    ·exact hd y (List.mem_of_mem_drop hy)
theorem rA{τ:Ty}{r:D}{x:den τ}{vs:List Value}(h:fk τ r=some x)(hr:qM κ (qm r) vs)(pz:∀ y∈qm r,y.one=true)(ht:r.jf=false):Rc κ.w κ.ok τ x vs:=by
 cases r with
 | zC σ y=>obtain⟨rfl,rfl⟩:=qx h; exact VB _ _ hr
 | agg l =>
  have:=cQ (RD.agg l vs hr.1 pz hr.2) h
  obtain⟨cs,h1,h2⟩:=RD.hM this
  have hc:=Qh h1.len h1.one
  simp only[Value.cells]at hc
  grind
 | gz l=>cases ht
 | _ =>
  obtain⟨v,r',rfl,h1,h2⟩:=qM.cons_inv hr
  have e2:=h2.ql
  subst e2
  have h3:=cQ h1 h
  obtain⟨cs,h4,h5⟩:=RD.hM h3
  have hag:τ.isAgg=false:=by
   cases hta:τ.isAgg with
   | false=>rfl
   | true=>simp[fk,D.isAgg,hta]at h
  obtain⟨u,rfl⟩:=h4.single hag
  rw[JV hag]at h5
  rwa [h5]
theorem Fl{t:Nat}{a x:Option D}{v u:Value}{d:Option D}{zx:St}(hI:Inv κ)(ha:∀ z,a=some z->RD κ z v)(hx:∀ z,x=some z->RD κ z u)
  (h:(zR (VS c t a x) κ.st).leads (d,zx)):qH c.P (do Instr.storeAt t v u; Pure.pure .skip) κ d zx:=by
 unfold VS at h
 split at h
 ·rename_i b off y
  simp only[zR]at h
  split at h
  ·rename_i d0 hb
   split at h
   ·rename_i r hr
    cases wI:n4 d0 r with
    | false=>rw[wI]at h; exact h.elim
    | true =>
    rw[wI,cond_true]at h
    simp only[T.leads,Prod.mk.injEq]at h
    obtain⟨rfl,rfl⟩:=h
    obtain⟨n,hn,h0,Bq,hle,Dt,pz,Dh⟩:=YC hr
    cases ha _ rfl with
    | ptr _ _ blk m d1 hd hp =>
     obtain⟨lN,m',cs,T,g1,g2,g3,g4,g5⟩:=hI.blk b _ hb
     rw[hp]at g1
     cases g1
     have hy:=hx _ rfl
     have hfy:=jF hy Dh
     have hvl:u.cells.toList.length=n:=by rw[<- hfy.1]; exact Bq
     have jv:off+n<=cs.size:=by have:=g4.1; simp at this; omega
     have h1:∀ z∈u.cells.toList,z.oneCell'=true:=by
      intro z hz
      obtain⟨i,hi,rfl⟩:=List.getElem_of_mem hz
      exact(hfy.2 i (hfy.1▸hi) hi).VE (jN hy _ (List.getElem_mem _))
     have wX:=nT (c:=c) (κ:=κ) hn hvl h1 g2 jv
     have ou:Alike (.var d0) (.var r):=trivial
     let cV:=(cs.toList.take off++u.cells.toList++cs.toList.drop (off+n)).toArray
     have hex:=mJ (cs:=cV) (x:=.var r) hI hp hb ou
     refine⟨κ.Br b blk cV (.var r),.skip,undef,?_,.inr ⟨rfl,rfl⟩,rfl,QU hI hp hb ou ?_,hex,λ_ he=>by cases he⟩
     ·simp only[Sem.run_bind,Instr.storeAt,Instr.sureAddr,Sem.run_pure,Result.andThen_ok,wX]; rfl
     ·refine⟨blk,m,cV,T,hp,setRow_heap _ _ _ _ _ _ g2,?_,?_,pz g5.1 (jN hy),HF wI g5.2⟩
      ·grind
      ·rw[Dt]; exact(lD g4 hfy off n).mono hex
   ·exact h.elim
  ·exact h.elim
 ·rename_i b qJ e idx off y
  simp only[zR]at h
  split at h
  ·rename_i kP e' xs hb
   cases he:decide (e'=e)with
   | false=>rw[he]at h; exact h.elim
   | true =>
    rw[he,cond_true]at h
    have Sg:e'=e:=of_decide_eq_true he
    subst Sg
    obtain⟨⟨rfl,qD⟩,h⟩:=h
    split at h
    ·rename_i r hr
     split at h
     ·rename_i z hz
      simp only[T.leads,Prod.mk.injEq]at h
      obtain⟨rfl,rfl⟩:=h
      obtain⟨n,hn,h0,Bq,hle,Dt,pz,Dh⟩:=YC hr
      cases ha _ rfl with
      | uQ _ _ _ _ _ blk o hold hp =>
       obtain⟨m,p1,rfl⟩:=hp xs hb qD
       obtain⟨jv,⟨Uq,_⟩ | ⟨lN,n',cs,T,g1,g2,g3,g4,gr,f,g5⟩⟩:=hI.blk b _ hb
       ·grind
       ·rw[p1]at g1
        cases g1
        rw[VN qD]at hr Dt hle pz
        have hy:=hx _ rfl
        have hfy:=jF hy Dh
        have hvl:u.cells.toList.length=n:=by rw[<- hfy.1]; exact Bq
        obtain⟨k1,k2⟩:=g5 idx qD
        have BC:=k1.len
        have KF:off+n<=e'.size:=by simpa[qm,ZU]using hle
        have zkN:idx*e'.size+e'.size<=xs.length*e'.size:=by rw[<- Nat.succ_mul]; exact Nat.mul_le_mul_right _ qD
        have N9:idx*e'.size+off+n<=cs.size:=by omega
        have h1:∀ z∈u.cells.toList,z.oneCell'=true:=by
         intro z hz
         obtain⟨i,hi,rfl⟩:=List.getElem_of_mem hz
         exact(hfy.2 i (hfy.1▸hi) hi).VE (jN hy _ (List.getElem_mem _))
        have wX:=nT (c:=c) (κ:=κ) hn hvl h1 g2 N9
        have ou:Alike (.arr qJ e' xs) (.arr qJ e' (xs.set idx z)):=⟨rfl,Nat.le_refl _,λ_=>by simp⟩
        let cV:=(cs.toList.take (idx*e'.size+off)++u.cells.toList++cs.toList.drop (idx*e'.size+off+n)).toArray
        have hex:=mJ (cs:=cV) (x:=.arr qJ e' (xs.set idx z)) hI p1 hb ou
        refine⟨κ.Br b blk cV (.arr qJ e' (xs.set idx z)),.skip,undef,?_,.inr ⟨rfl,rfl⟩,rfl,QU hI p1 hb ou ?_,hex,λ_ he=>by cases he⟩
        ·simp only[Sem.run_bind,Instr.storeAt,Instr.sureAddr,Sem.run_pure,Result.andThen_ok,wX]; rfl
        ·have hlen:cV.size=cs.size:=by simp[cV,hvl]; omega
         refine⟨jv,.inr ⟨blk,m,cV,T,p1,setRow_heap _ _ _ _ _ _ g2,by rw[hlen]; exact g3,by simpa using g4,?_⟩⟩
         -- cells of the element that is written
         let fi:=(f idx).take off++u.cells.toList++(f idx).drop (off+n)
         have zgB:qM κ (qm r) fi:=by
          rw[Dt]
          exact lD (rT k1) hfy off n
         have hrt:r.jf=false:=by
          cases r with
          | gz l =>
           have h6:=congrArg List.length Dt
           rw[List.length_append,List.length_append,Bq]at h6
           have h7:(qm (D.gz l)).length=0:=rfl
           omega
          | _=>rfl
         have E7:=rA hz zgB (pz (eP _ _) (jN hy)) hrt
         have Kz:∀ p,cV[p]? = if p<idx*e'.size+off then cs[p]? else if p<idx*e'.size+off+n then u.cells.toList[p-(idx*e'.size+off)]? else cs[p]? := by
          intro p
          have:=Z8 (cs:=cs.toList) (us:=u.cells.toList) hvl (by simpa using N9) p
          simpa only[cV,List.getElem?_toArray,Array.getElem?_toList]using this
         have zeW:∀ j,fi[j]? = if j<off then(f idx)[j]? else if j<off+n then u.cells.toList[j-off]? else(f idx)[j]? := λj=>Z8 hvl (by omega) j
         refine⟨gr,λi=>if i=idx then fi else f i,λi hi => ?_⟩
         rw[List.length_set]at hi
         by_cases hii:i=idx
         ·subst hii
          simp only[if_true,List.getElem_set_self]
          refine⟨E7.mono hex.same,λj w hj => ?_⟩
          rw[zeW]at hj
          rw[Kz]
          split at hj
          ·rw[if_pos (by omega)]; exact k2 j w hj
          ·split at hj
           ·rw[if_neg (by omega),if_pos (by omega)]; rw[<- hj]; congr 1; omega
           ·rw[if_neg (by omega),if_neg (by omega)]; exact k2 j w hj
         ·simp only[if_neg hii]
          obtain⟨q1,q2⟩:=g5 i hi
          refine⟨by rw[List.getElem_set_ne (λe=>hii e.symm)]; exact q1.mono hex.same,λj w hj => ?_⟩
          have P9:j<e'.size:=by rw[<- q1.len]; exact(List.getElem?_eq_some_iff.1 hj).1
          rw[Kz]
          rcases Nat.lt_or_gt_of_ne hii with KW | hgt'
          ·have:i*e'.size+e'.size<=idx*e'.size:=by rw[<- Nat.succ_mul]; exact Nat.mul_le_mul_right _ KW
           rw[if_pos (by omega)]; exact q2 j w hj
          ·have:idx*e'.size+e'.size<=i*e'.size:=by rw[<- Nat.succ_mul]; exact Nat.mul_le_mul_right _ hgt'
           rw[if_neg (by omega),if_neg (by omega)]; exact q2 j w hj
     ·exact h.elim
    ·exact h.elim
  ·exact h.elim
 ·exact absurd h zh
end
end Go.AM
namespace Go.AM
set_option linter.unusedSectionVars false
variable [ur]
section
variable {c:Ctx} {κ:KS}
theorem WE:∀ (vs:List Value) (cells:Array Value) (off k:Nat),off+k+vs.length<=cells.size ->
  ((vs.zipIdx k).foldl (λ(cs:Array Value) (p:Value×Nat)=>cs.setIfInBounds (off+p.2) p.1) cells).toList=cells.toList.take (off+k)++vs++cells.toList.drop (off+k+vs.length)
 | [],cells,off,k,_=>by simp
 | v::vs,cells,off,k,h=>by
  simp only[List.length_cons]at h
  simp only[List.zipIdx_cons,List.foldl_cons]
  rw[WE vs _ off (k+1) (by simp; omega)]
  have qD:off+k<cells.toList.length:=by simp; omega
  simp only[Array.toList_setIfInBounds,List.length_cons]
  have e1:(cells.toList.set (off+k) v).take (off+(k+1))=cells.toList.take (off+k)++[v]:=by
   rw[show off+(k+1)=off+k+1 by omega,List.take_succ_eq_append_getElem (by simpa using qD)]
   rw[List.take_set_of_le (Nat.le_refl _)]
   simp
  have e2:(cells.toList.set (off+k) v).drop (off+(k+1)+vs.length)=cells.toList.drop (off+k+(vs.length+1)):=by
   rw[List.drop_set_of_lt (by omega)]
   grind
  grind
theorem BM{place:Nat->Option (Nat×Nat)}{cells:Array Value}{i off size:Nat}{v:Value}{rest:List (Nat×Value)}(hp:place i=some (off,size))(hs:v.cells.toList.length=size)(hle:off+size<=cells.size) :
  Instr.fill place cells ((i,v)::rest)=Instr.fill place (cells.toList.take off++v.cells.toList++cells.toList.drop (off+size)).toArray rest:=by
 have hs':v.cells.size=size:=by simpa using hs
 have hf:=WE v.cells.toList cells off 0 (by grind)
 simp only[hs]at hf
 conv=>lhs; unfold Instr.fill
 simp only[hp]
 rw[if_neg (by grind)]
 congr 1
 apply Array.ext'
 rw[<- Array.foldl_toList,Array.toList_zipIdx]
 exact hf
theorem Gf{e:Ty}{x:den e}{v:Value}(h:RD κ (.zC e x) v):Rc κ.w κ.ok e x v.cells.toList:=by
 obtain⟨cs,h1,rfl⟩:=RD.hM h
 rw[Qh h1.len h1.one]; exact h1
theorem Gt{e:Ty}{F:Operand->Option D}{G:Operand->Value}(hF:∀ x d,F x=some d->RD κ d (G x)):∀ (L:List (Nat×Operand)) (k:Nat) (cells:Array Value) (l:List (den e)),
  Gm e k (L.map λp=>(p.1,F p.2))=some l->(k+L.length)*e.size<=cells.size ->
  ∃ eQ,Instr.fill (λi=>some (i*e.size,e.size)) cells (L.map λp=>(p.1,G p.2))=some eQ/\eQ.size=cells.size/\(∀ p,p<k*e.size->eQ[p]? = cells[p]?)/\l.length=L.length /\
   ∃ f:Nat->List Value,∀ i (hi:i<l.length),Rc κ.w κ.ok e l[i] (f i)/\∀ j v,(f i)[j]? = some v->eQ[(k+i)*e.size+j]? = some v
 | [],k,cells,l,h,_=>by
  simp only[List.map_nil,Gm,Option.some.injEq]at h
  subst h
  exact⟨cells,rfl,rfl,λ_ _=>rfl,rfl,λ_=>[],λi hi=>absurd hi (Nat.not_lt_zero i)⟩
 | (i,x)::L,k,cells,l,h,hle=>by
  simp only[List.map_cons]at h
  cases hx:F x with
  | none=>rw[hx]at h; simp[Gm]at h
  | some d =>
   rw[hx]at h
   simp only[Gm]at h
   cases hb:Nat.beq k i with
   | false=>grind
   | true =>
    have hik:k=i:=Nat.eq_of_beq_eq_true hb
    subst hik
    rw[hb,cond_true]at h
    split at h
    ·rename_i y l' hy PW
     cases h
     have hr:=Gf (cQ (hF x d hx) hy)
     have hlen:=hr.len
     simp only[List.length_cons]at hle
     have hk1:(k+(L.length+1))*e.size=k*e.size+e.size+L.length*e.size:=by rw[Nat.add_mul,Nat.add_mul]; omega
     have tR:k*e.size+e.size<=cells.size:=by omega
     let c1:=(cells.toList.take (k*e.size)++(G x).cells.toList++cells.toList.drop (k*e.size+e.size)).toArray
     have NP:c1.size=cells.size:=by simp only[c1,List.size_toArray,List.length_append,List.length_take,List.length_drop,hlen,Array.length_toList]; omega
     have hg:∀ p,c1[p]? = if p<k*e.size then cells[p]? else if p<k*e.size+e.size then(G x).cells.toList[p-k*e.size]? else cells[p]? := by
      grind
     obtain⟨eQ,h1,h2,h3,h4,f,h5⟩:=Gt hF L (k+1) c1 l' PW (by rw[NP,show k+1+L.length=k+(L.length+1) by omega]; exact hle)
     refine⟨eQ,?_,h2.trans NP,?_,by simp[h4],λi=>match i with | 0=>(G x).cells.toList | i+1=>f i,?_⟩
     ·simp only[List.map_cons]
      rw[BM rfl hlen tR]
      exact h1
     ·grind
     ·intro i hi
      cases i with
      | zero =>
       grind
      | succ i =>
       have:=h5 i (by simpa using hi)
       rw[show k+1+i=k+(i+1) by omega]at this
       exact this
    ·cases h
theorem p9{t n:Nat}(h:mS c t=some n):∃ i,c.P.info? t=some i/\i.bytes=n:=by
 unfold mS at h
 cases hi:c.P.info? t with
 | none=>grind
 | some i=>grind
theorem iV{et:Nat}{e:Ty}{z:den e}(h:zeroOf c et e=some z):∃ i v,c.P.info? et=some i/\i.zero=some v/\Rc κ.w κ.ok e z v.cells.toList:=by
 unfold zeroOf at h
 split at h
 ·rename_i d hd
  obtain⟨i,v,h1,h2,h3⟩:=fQ hd
  exact⟨i,v,h1,h2,Gf (cQ (h3.rd κ) h)⟩
 ·cases h
theorem Vl{t n:Nat}{L:List (Nat×Operand)}{F:Operand->Option D}{G:Operand->Value}{d:Option D}{zx:St}(hI:Inv κ)(hF:∀ x d,F x=some d->RD κ d (G x))
  (h:(zR (mK c t n (L.map λp=>(p.1,F p.2))) κ.st).leads (d,zx)) :
  qH c.P (do Pure.pure (.value (<- Instr.buildSlice t n (L.map λp=>(p.1,G p.2)).toArray))) κ d zx:=by
 unfold mK at h
 split at h
 ·exact absurd h zh
 ·rename_i et het
  have hu:=uN het
  split at h
  ·rename_i e Lo
   cases hb:kX c et e&&Nat.beq n (L.map λp=>(p.1,F p.2)).length&&Nat.ble n 1000&&Nat.ble e.size 100&&(zeroOf c et e).isSome with
   | false=>rw[hb]at h; exact absurd h zh
   | true =>
    rw[hb,cond_true]at h
    simp only[Bool.and_eq_true]at hb
    obtain⟨⟨⟨⟨wI,hn⟩,h1⟩,h2⟩,h3⟩:=hb
    have hn':n=L.length:=by have:=Nat.eq_of_beq_eq_true hn; simpa using this
    have Vd:=Nat.le_of_ble_eq_true h1
    have h2':=Nat.le_of_ble_eq_true h2
    obtain⟨hs,_⟩:=vT wI
    obtain⟨z,hz⟩:=Option.isSome_iff_exists.1 h3
    obtain⟨i,zv,Ez,Ww,hi3⟩:=iV (κ:=κ) hz
    split at h
    ·rename_i l hl
     cases SL:Nat.beq n 0&&Nat.blt 0 e.size with
     | true =>
     rw[SL,cond_true]at h
     simp only[Bool.and_eq_true]at SL
     obtain⟨SL,jv⟩:=SL
     have N9:0<e.size:=Nat.le_of_ble_eq_true jv
     have P5:=Nat.eq_of_beq_eq_true SL
     have hL:L=[]:=List.eq_nil_of_length_eq_zero (hn'.symm.trans P5)
     subst hL
     subst P5
     simp only[zR,T.leads,Prod.mk.injEq]at h
     obtain⟨rfl,rfl⟩:=h
     have g:=fa.alloc κ.w (.cells #[] et)
     have hex:=sR (n:=0) (x:=.arr 0 e ([]:List (den e))) hI g
     have wX:(Instr.buildSlice t 0 (([]:List (Nat×Operand)).map λp=>(p.1,G p.2)).toArray).run c.P κ.w=.ok (.slice (some ⟨κ.w.heap.size,0,none⟩) 0 0) (κ.w.alloc (.cells #[] et)):=by
      simp[Instr.buildSlice,Sem.run_bind,run_underlying hu,Result.andThen_ok,run_sizeOf hs,Instr.fill,newRow]
      grind
     refine⟨κ.add _ 0 (.arr 0 e []),_,.slice (some ⟨κ.w.heap.size,0,none⟩) 0 0,by simp only[Sem.run_bind,wX,Result.andThen_ok]; rfl,.inl rfl,rfl,VJ hI g ?_,hex,?_⟩
     ·exact⟨N9,.inr ⟨κ.w.heap.size,0,#[],et,oO hI,g.new,rfl,by simp,ZZ wI,λ_=>[],λi hi=>absurd hi (Nat.not_lt_zero i)⟩⟩
     ·intro d' yq
      cases yq
      refine .ms _ 0 e 0 0 0 _ (.inr ⟨0,e,_,Zl,Nat.le_refl _⟩) (by omega) nofun (λp hp=>by cases hp; rfl) λxs JR => ?_
      rw[Zl]at JR
      cases JR
      exact⟨by simp,.inr ⟨κ.w.heap.size,0,0,0,oO hI,rfl,by omega,by simp,.inl rfl⟩⟩
     | false =>
     rw[SL,cond_false,kh]at h
     obtain⟨rfl,rfl⟩:=h
     subst hn'
     have hle:L.length*e.size<=100000:=Nat.le_trans (Nat.mul_le_mul Vd h2') (by decide)
     have hzs:zv.cells.size=e.size:=by have:=hi3.len; simpa using this
     let cells:Array Value:=(Array.range (L.length*e.size)).map ((if L.length*e.size=0 then #[]else zv.cells)[· % (if L.length*e.size=0 then #[]else zv.cells).size]!)
     have Xk:cells.size=L.length*e.size:=by simp[cells]
     obtain⟨eQ,g1,g2,_,g4,f,g5⟩:=Gt hF L 0 cells l hl (by rw[Xk]; simp)
     have g:=fa.alloc κ.w (.cells eQ et)
     have hex:=VO hI g
     refine⟨κ.zC _,_,.slice (some ⟨κ.w.heap.size,0,none⟩) L.length L.length,?_,.inl rfl,rfl,hM hI g,hex,?_⟩
     ·have BL:Instr.fill (λi=>some (i*e.size,e.size)) cells (L.map λp=>(p.1,G p.2))=some eQ:=g1
      simp only[cells]at BL
      simp only[Instr.buildSlice,Sem.run_bind,run_underlying hu,Result.andThen_ok,run_sizeOf hs,gt_iff_lt,if_neg (show ¬ 2 ^ 24<L.length*e.size by omega)]
      by_cases h0:L.length*e.size=0
      ·simp only[if_pos h0]at BL ⊢
       simp only[Sem.run_bind,Sem.run_pure,Result.andThen_ok,BL]
       rfl
      ·simp only[if_neg h0]at BL ⊢
       simp only[Sem.run_bind,Sem.run_pure,Result.andThen_ok,zeroValue,typeInfo,run_program,Ez,Ww,BL]
       rfl
     ·intro d' yq
      cases yq
      have tR:∀ i,i<l.length->∀ j v,(f i)[j]? = some v->(κ.zC (κ.w.alloc (.cells eQ et))).w.cell? ⟨κ.w.heap.size,0+i*e.size+j,none⟩=some v:=by
       intro i hi j v hj
       have:=(g5 i hi).2 j v hj
       simp only[Nat.zero_add]at this ⊢
       rw[sL (κ:=κ.zC (κ.w.alloc (.cells eQ et))) g.new]
       exact this
      rw[<- g4]
      refine .tight e l _ κ.w.heap.size 0 f ?_ (.inr rfl) (λi hi=>(g5 i hi).1.mono hex.same) tR
      intro uh Uq
      subst Uq
      simp at g4
      simp[<- g4]at uh
    ·exact absurd h zh
  ·exact absurd h zh
end
end Go.AM
namespace Go.AM
set_option linter.unusedSectionVars false
variable [ur]
section
variable {c:Ctx} {κ:KS}
theorem NW{t:Nat}{x y:Option D}{v u:Value}{d:Option D}{zx:St}(hI:Inv κ)(hx:∀ z,x=some z->RD κ z v)(hy:∀ z,y=some z->RD κ z u)
  (h:(zR (I4 c t x y) κ.st).leads (d,zx)):qH c.P (do Pure.pure (.value (<- Instr.makeSlice t v u))) κ d zx:=by
 unfold I4 at h
 split at h
 ·rename_i et k n k' m het hn hm
  have hu:=uN het
  have:=uG hn hx
  subst this
  have:=uG hm hy
  subst this
  split at h
  ·rename_i e bytes Lo Ka
   split at h
   ·rename_i z hz
    cases hb:kX c et e&&Nat.blt 0 e.size with
    | false=>rw[hb]at h; exact absurd h zh
    | true =>
     rw[hb,cond_true]at h
     simp only[Bool.and_eq_true]at hb
     obtain⟨wI,jv⟩:=hb
     have N9:0<e.size:=Nat.le_of_ble_eq_true jv
     obtain⟨hs,_⟩:=vT wI
     simp only[zR,T.leads,Prod.mk.injEq]at h
     obtain⟨⟨h0,h1,h2,h3⟩,rfl,rfl⟩:=h
     obtain⟨i,zv,Ez,Ww,hi3⟩:=iV (κ:=κ) hz
     obtain⟨ib,zaH,zhc⟩:=p9 Ka
     obtain⟨i',z9e,zjZ⟩:=eX hs
     rw[Ez]at zaH z9e
     cases zaH
     cases z9e
     have hzs:zv.cells.size=e.size:=by have:=hi3.len; simpa using this
     let N:=m.toNat*e.size
     let cells:Array Value:=(Array.range N).map (zv.cells[· % zv.cells.size]!)
     have Xk:cells.size=N:=by simp[cells]
     have wX:(Instr.makeSlice t (.int k n) (.int k' m)).run c.P κ.w=.ok (.slice (some ⟨κ.w.heap.size,0,none⟩) n.toNat m.toNat) (κ.w.alloc (.cells cells et)):=by
      have w1:IntKind.i64.wrap n=n:=IntWalk.i64_in _ (by omega)
      have w2:IntKind.i64.wrap m=m:=IntWalk.i64_in _ (by omega)
      have hmb:¬ ((2:Int) ^ 48<bytes*m):=by
       grind
      have ai:∀ k n w,(Go.asInt (.int k n)).run c.P w=.ok n w:=λk n w=>by simp[Go.asInt,asIntOf]
      have hm0:¬ (m<0):=by omega
      have P5:¬ (n<0):=by omega
      have hnm:¬ (m<n):=by omega
      simp only[Instr.makeSlice,Sem.run_bind,run_underlying hu,Result.andThen_ok,ai,typeInfo,run_program,Ez,zhc,w1,w2,Sem.run_pure,gt_iff_lt,hm0,P5,hnm,hmb,decide_false,Bool.or_self,Bool.false_eq_true,if_false,run_askRoom,run_sizeOf hs]
      by_cases SL:m.toNat*e.size=0
      ·have hce:cells = #[]:=Array.eq_empty_of_size_eq_zero (by rw[Xk]; exact SL)
       have e2:∀ g:Nat->Value,(Array.range (m.toNat*e.size)).map g = #[]:=λg=>by rw[SL]; simp
       simp only[if_pos SL,Sem.run_bind,Sem.run_pure,Result.andThen_ok,newRow,run_newObj,e2]
       rw[hce]
       rfl
      ·simp only[if_neg SL,Sem.run_bind,Sem.run_pure,Result.andThen_ok,newRow,run_newObj,zeroValue,typeInfo,run_program,Ez,Ww]
       rfl
     have g:=fa.alloc κ.w (.cells cells et)
     have hex:=sR (n:=N) (x:=.arr n.toNat e (List.replicate n.toNat z)) hI g
     refine⟨κ.add _ N (.arr n.toNat e (List.replicate n.toNat z)),_,.slice (some ⟨κ.w.heap.size,0,none⟩) n.toNat m.toNat,by simp only[Sem.run_bind,wX,Result.andThen_ok]; rfl,.inl rfl,rfl,VJ hI g ?_,hex,?_⟩
     ·refine⟨N9,.inr ⟨κ.w.heap.size,N,cells,et,oO hI,g.new,Xk,?_,ZZ wI,λ_=>zv.cells.toList,λi hi => ?_⟩⟩
      ·rw[List.length_replicate]; exact Nat.mul_le_mul_right _ (by omega)
      ·rw[List.length_replicate]at hi
       refine⟨by rw[List.getElem_replicate]; exact hi3.mono hex.same,λj w hj => ?_⟩
       have P9:j<e.size:=by rw[<- hi3.len]; exact(List.getElem?_eq_some_iff.1 hj).1
       have qD:i*e.size+j<N:=by
        have:i*e.size+e.size<=N:=by rw[<- Nat.succ_mul]; exact Nat.mul_le_mul_right _ (by omega)
        omega
       have z6o:(i*e.size+j) % e.size=j:=by rw[Nat.mul_comm,Nat.mul_add_mod,Nat.mod_eq_of_lt P9]
       grind
     ·intro d' yq
      cases yq
      refine .ms _ n.toNat e 0 n.toNat m.toNat _ (.inr ⟨n.toNat,e,_,Zl,Nat.le_refl _⟩) (by omega) nofun (λp hp=>by cases hp; rfl) λxs JR => ?_
      rw[Zl]at JR
      cases JR
      refine⟨by simp,.inr ⟨κ.w.heap.size,N,0,m.toNat,oO hI,rfl,by omega,by simp[N],.inr (by simp)⟩⟩
   ·exact absurd h zh
  ·exact absurd h zh
 ·exact absurd h zh
end
end Go.AM
namespace Go.AM
set_option linter.unusedSectionVars false
variable [ur]
section
variable {c:Ctx} {κ:KS}
def yd(f:Nat->List Value):Nat->List Value
 | 0=>[]
 | n+1=>yd f n++f n
theorem j8{f:Nat->List Value}{s:Nat}:∀ {n:Nat},(∀ i,i<n->(f i).length=s)->(yd f n).length=n*s
 | 0,_=>by simp[yd]
 | n+1,h=>by rw[yd,List.length_append,j8 (λi hi=>h i (by omega)),h n (by omega),Nat.add_mul]; omega
theorem sB{f:Nat->List Value}{s:Nat}:∀ {n:Nat},(∀ i,i<n->(f i).length=s)->∀ i j,i<n->j<s->(yd f n)[i*s+j]? = (f i)[j]?
 | 0,_,i,_,hi,_=>absurd hi (Nat.not_lt_zero i)
 | n+1,h,i,j,hi,hj=>by
  have hl:=j8 (f:=f) (n:=n) (λi hi=>h i (by omega))
  rw[yd]
  by_cases V9:i<n
  ·have:i*s+s<=n*s:=by rw[<- Nat.succ_mul]; exact Nat.mul_le_mul_right _ V9
   rw[List.getElem?_append_left (by omega)]
   exact sB (λi hi=>h i (by omega)) i j V9 hj
  ·grind
theorem YW{f:Nat->List Value}:∀ {n:Nat},(∀ i,i<n->∀ v∈f i,v.oneCell'=true)->∀ v∈yd f n,v.oneCell'=true
 | 0,_,v,hv=>by simp[yd]at hv
 | n+1,h,v,hv=>by
  rw[yd,List.mem_append]at hv
  rcases hv with hv | hv
  ·exact YW (λi hi=>h i (by omega)) v hv
  ·grind
theorem BS{f:Nat->List Value}{s:Nat}{n p:Nat}{v:Value}(hs:0<s)(h:∀ i,i<n->(f i).length=s)(hp:(yd f n)[p]? = some v):∃ i j,i<n/\j<s/\p=i*s+j/\(f i)[j]? = some v:=by
 have qD:=(List.getElem?_eq_some_iff.1 hp).1
 rw[j8 h]at qD
 have hi:p / s<n:=(Nat.div_lt_iff_lt_mul hs).2 qD
 have hj:=Nat.mod_lt p hs
 have he:p / s*s+p % s=p:=Nat.div_add_mod' p s
 refine⟨p / s,p % s,hi,hj,he.symm,?_⟩
 rw[<- sB h _ _ hi hj,he]; exact hp
def P3(κ:KS):Nat->Prop:=λk=>κ.ok k\/∃ b n:Nat,κ.ph[b]? = some (some (k,n))
structure Src(κ:KS)(e:Ty)(ys:List (den e))(v:Value):Prop where
 ex:∃ (a:Option Addr) (cap:Nat) (f:Nat->List Value),v=.slice a ys.length cap/\ys.length<=cap/\(a=none->ys=[]/\cap=0)/\(∀ i (hi:i<ys.length),Rc κ.w κ.ok e ys[i] (f i)) /\
  ∀ p,a=some p->(ys=[]/\cap=0)\/(p.spot=none/\P3 κ p.block/\∀ i,i<ys.length->∀ j u,(f i)[j]? = some u->κ.w.cell? ⟨p.block,p.off+i*e.size+j,none⟩=some u)
theorem MD{e:Ty}{ys:List (den e)}{v:Value}(h:RD κ (.zC (.sl e) ys) v):Src κ e ys v:=by
 rcases(h.vQ rfl).XK with⟨rfl,a0,he⟩ | ⟨blk,off,cap,f,he,wI,vJ,h1,h2⟩
 ·cases he; exact⟨⟨a0,0,λ_=>[],rfl,Nat.le_refl _,λ_=>⟨rfl,rfl⟩,λi hi=>absurd hi (Nat.not_lt_zero i),λ_ _=>.inl ⟨rfl,rfl⟩⟩⟩
 ·cases he; exact⟨⟨some ⟨blk,off,none⟩,cap,f,rfl,vJ,nofun,h1,λp hp=>by cases hp; exact .inr ⟨rfl,.inl wI,h2⟩⟩⟩
theorem sN{e:Ty}{ys:List (den e)}{ne:Bool}{v:Value}(h:RD κ (.tight e ys ne) v):Src κ e ys v:=by
 cases h with
 | xw _ a0=>exact⟨⟨a0,0,λ_=>[],rfl,Nat.le_refl _,λ_=>⟨rfl,rfl⟩,λi hi=>absurd hi (Nat.not_lt_zero i),λ_ _=>.inl ⟨rfl,rfl⟩⟩⟩
 | tight _ _ _ blk off f uh wI h1 h2=>exact⟨⟨some ⟨blk,off,none⟩,_,f,rfl,Nat.le_refl _,nofun,h1,λp hp=>by cases hp; exact .inr ⟨rfl,.inl wI,h2⟩⟩⟩
theorem VR{e:Ty}{v:Value}(h:RD κ .xE v):Src κ e [] v:=by
 cases h; exact⟨⟨none,0,λ_=>[],rfl,Nat.le_refl _,λ_=>⟨rfl,rfl⟩,λi hi=>absurd hi (Nat.not_lt_zero i),nofun⟩⟩
theorem F0{b qJ off len:Nat}{e:Ty}{xs:List (den e)}{v:Value}(hI:Inv κ)(h:RD κ (.ms b qJ e off len) v)(hb:κ.st[b]? = some (.arr qJ e xs)):Src κ e ((xs.take (off+len)).drop off) v/\off+len<=xs.length:=by
 cases h with
 | ms _ _ _ _ _ cap a hold vJ ha nN hm =>
  obtain⟨hle,hm⟩:=hm xs hb
  have hl:((xs.take (off+len)).drop off).length=len:=by simp; omega
  have hg:∀ i (hi:i<((xs.take (off+len)).drop off).length),∃ h:off+i<xs.length,((xs.take (off+len)).drop off)[i]=xs[off+i]:=λi hi=>⟨by omega,by simp[List.getElem_drop,List.getElem_take]⟩
  refine⟨?_,hle⟩
  rcases hm with⟨rfl,rfl,hv,hp⟩ | ⟨blk,n,o,Fu,h3,h4,h5,h6,h7⟩
  ·cases hv
   have:(xs.take (0+0)).drop 0=[]:=by simp
   rw[this]
   exact⟨⟨none,0,λ_=>[],rfl,Nat.le_refl _,λ_=>⟨rfl,rfl⟩,λi hi=>absurd hi (Nat.not_lt_zero i),nofun⟩⟩
  ·cases h4
   obtain⟨jv,⟨Uq,_⟩ | ⟨lN,n',cs,T,g1,g2,g3,g4,gr,f,g5⟩⟩:=hI.blk b _ hb
   ·grind
   ·rw[h3]at g1
    cases g1
    refine⟨⟨some ⟨blk,o,none⟩,cap,λi=>f (off+i),by rw[hl],by rw[hl]; exact vJ,nofun,λi hi => ?_,λp hp => ?_⟩⟩
    ·grind
    ·cases hp
     refine .inr ⟨rfl,.inr ⟨b,n,h3⟩,λi hi j u hj => ?_⟩
     obtain⟨k1,_⟩:=hg i hi
     have:=(g5 _ k1).2 j u hj
     rw[sL g2]
     rcases h7 with h7 | h7
     ·omega
     ·rw[h7,<- Nat.add_mul]; exact this
theorem XD{e:Ty}{ys:List (den e)}{v:Value}(h:Src κ e ys v)(jv:0<e.size):∃ (news:List Value) (f:Nat->List Value),news=yd f ys.length/\(∀ i (hi:i<ys.length),Rc κ.w κ.ok e ys[i] (f i)) /\
  (∀ P,(Builtin.lenOf v).run P κ.w=.ok ys.length κ.w)/\(∀ P,(Builtin.firstCells e.size ys.length v).run P κ.w=.ok news.toArray κ.w)/\(∀ P,(Builtin.firstCells e.size ys.length v).run P κ.w.drew=.ok news.toArray κ.w.drew):=by
 obtain⟨a,cap,f,rfl,_,hn,h1,h2⟩:=h.ex
 have hf:∀ i,i<ys.length->(f i).length=e.size:=λi hi=>(h1 i hi).len
 refine⟨yd f ys.length,f,rfl,h1,λP=>rfl,λP => ?_,λP => ?_⟩
 all_goals
  cases a with
  | none=>have:=(hn rfl).1; subst this; simp[Builtin.firstCells,yd]
  | some p =>
   rcases h2 p rfl with⟨rfl,_⟩ | ⟨hp,_,hc⟩
   ·simp[Builtin.firstCells,yd,loadCells,loadCellsFrom]
   obtain⟨blk,o,sp⟩:=p
   subst hp
   refine run_firstCells_some (P:=P) _ e.size ys.length ⟨blk,o,none⟩ ys.length cap (yd f ys.length) (j8 hf) λj u hj => ?_
   obtain⟨i,k,hi,hk,rfl,hu⟩:=BS jv hf hj
   rw[ub]
   try rw[World.cell?_drew]
   grind
structure Cel(κ:KS)(e:Ty)(ys:List (den e))(v:Value):Prop where
 ex:∃ (news:List Value) (f:Nat->List Value),news=yd f ys.length/\(∀ i (hi:i<ys.length),Rc κ.w κ.ok e ys[i] (f i)) /\
  (∀ P,(Builtin.lenOf v).run P κ.w=.ok ys.length κ.w)/\(∀ P,(Builtin.firstCells e.size ys.length v).run P κ.w=.ok news.toArray κ.w)/\(∀ P,(Builtin.firstCells e.size ys.length v).run P κ.w.drew=.ok news.toArray κ.w.drew)
theorem z1Y{e:Ty}{ys:List (den e)}{v:Value}(h:Src κ e ys v)(jv:0<e.size):Cel κ e ys v:=⟨XD h jv⟩
def z0g(c:Ctx)(t2:TypeId):Prop:=(∃ e,c.P.underlying t2=some (.slice e))\/c.P.underlying t2=some .string
section run
variable {t t2 e:TypeId} {i:TypeInfo} {z:Value} {sLen sCap n:Nat} {base:Option Addr} {x:Value} {news olds:List Value} {ty:TypeId}
theorem run_append_fits(ht:c.P.underlying t=some (.slice e))(G6:z0g c t2)(hi:c.P.info? e=some i)(hlen:∀ P,(Builtin.lenOf x).run P κ.w=.ok n κ.w)(hf:∀ P,(Builtin.firstCells i.size n x).run P κ.w=.ok news.toArray κ.w)
  (ob:sLen+n<=sCap) {w':World} (xR:(match base with | some a=>storeCells (a.add (sLen*i.size)) news | none=>pure ()).run c.P κ.w=.ok () w') :
  (Builtin.append_ #[t,t2] ty #[.slice base sLen sCap,x]).run c.P κ.w=.ok (.slice base (sLen+n) sCap) w':=by
 rcases G6 with⟨e2,G6⟩ | G6
 all_goals cases base with
 | none=>simp at xR; subst xR; simp[Builtin.append_,run_underlying ht,run_underlying G6,sizeOf,typeInfo,hi,hlen,ob,hf]
 | some a=>simp only at xR; simp[Builtin.append_,run_underlying ht,run_underlying G6,sizeOf,typeInfo,hi,hlen,ob,hf,xR]
theorem ri(ht:c.P.underlying t=some (.slice e))(G6:z0g c t2)(hi:c.P.info? e=some i)(hz:i.zero=some z)(hlen:∀ P,(Builtin.lenOf x).run P κ.w=.ok n κ.w)(hf:∀ P,(Builtin.firstCells i.size n x).run P κ.w.drew=.ok news.toArray κ.w.drew)
  (ho:∀ P,(Builtin.firstCells i.size sLen (.slice base sLen sCap)).run P κ.w.drew=.ok olds.toArray κ.w.drew)
  (hg:sCap<sLen+n) (h63:((sLen+n:Nat):Int)<=9223372036854775807) (hb:(sLen+n)*i.bytes<=140737488355328) :
  (Builtin.append_ #[t,t2] ty #[.slice base sLen sCap,x]).run c.P κ.w=.ok (.slice (some ⟨κ.w.heap.size,0,none⟩) (sLen+n) (grownCap κ.w (sLen+n) sCap e))
   (κ.w.drew.alloc (.cells (olds.toArray++news.toArray++Builtin.zeroCells z.cells (grownCap κ.w (sLen+n) sCap e-(sLen+n))) e)):=by
 have h1:¬ (sLen+n<=sCap):=by omega
 have h2:¬ (9223372036854775807<((sLen+n:Nat):Int)):=by omega
 have h3:=growslice_fits (bytes:=i.bytes) hg hb
 have h4:¬ (281474976710656<Builtin.nextslicecap (sLen+n) sCap*i.bytes):=by omega
 have h5:IntKind.i64.max=9223372036854775807:=by decide
 rcases G6 with⟨e2,G6⟩ | G6
 all_goals
  simp[Builtin.append_,run_underlying ht,run_underlying G6,sizeOf,typeInfo,zeroValue,hi,hz,hlen,hf,ho,Question.forced,newRow,grownCap]
  grind
end run
theorem pR(z:Array Value)(n:Nat):(Builtin.zeroCells z n).size=n*z.size:=by simp[Builtin.zeroCells]
theorem UP{e:Ty}{l ys:List (den e)}{f g:Nat->List Value}(hl:∀ i (hi:i<l.length),Rc κ.w κ.ok e l[i] (f i))(hy:∀ i (hi:i<ys.length),Rc κ.w κ.ok e ys[i] (g i))(zs:List Value) :
  ∀ i (hi:i<(l++ys).length),Rc κ.w κ.ok e (l++ys)[i] (if i<l.length then f i else g (i-l.length)) /\
   ∀ j v,(if i<l.length then f i else g (i-l.length))[j]? = some v->(yd f l.length++yd g ys.length++zs)[i*e.size+j]? = some v:=by
 have Bq:∀ i,i<l.length->(f i).length=e.size:=λi hi=>(hl i hi).len
 have hgl:∀ i,i<ys.length->(g i).length=e.size:=λi hi=>(hy i hi).len
 have h1:=j8 Bq
 have h2:=j8 hgl
 intro i hi
 by_cases Ox:i<l.length
 ·simp only[if_pos Ox]
  refine⟨by grind,λj v hj => ?_⟩
  have P9:j<e.size:=by rw[<- Bq i Ox]; exact(List.getElem?_eq_some_iff.1 hj).1
  have:i*e.size+e.size<=l.length*e.size:=by rw[<- Nat.succ_mul]; exact Nat.mul_le_mul_right _ Ox
  rw[List.append_assoc,List.getElem?_append_left (by omega),sB Bq i j Ox P9]
  exact hj
 ·simp only[if_neg Ox]
  simp only[List.length_append]at hi
  have z6L:i-l.length<ys.length:=by omega
  refine⟨by grind,λj v hj => ?_⟩
  have P9:j<e.size:=by rw[<- hgl _ z6L]; exact(List.getElem?_eq_some_iff.1 hj).1
  have e1:i*e.size=l.length*e.size+(i-l.length)*e.size:=by rw[<- Nat.add_mul]; congr 1; omega
  have:(i-l.length)*e.size+e.size<=ys.length*e.size:=by rw[<- Nat.succ_mul]; exact Nat.mul_le_mul_right _ z6L
  rw[List.append_assoc,List.getElem?_append_right (by omega),h1,List.getElem?_append_left (by omega)]
  rw[show i*e.size+j-l.length*e.size=(i-l.length)*e.size+j by omega,sB hgl _ j z6L P9]
  exact hj
theorem I5{t t2 et:Nat}{e:Ty}{l ys:List (den e)}{sv v:Value}{bytes:Nat}{ty:Nat}(hI:Inv κ)(hu:c.P.underlying t=some (.slice et))(P1:z0g c t2)(wI:kX c et e=true)(jv:0<e.size)(Ka:mS c et=some bytes)(hz:∃ y,zeroOf c et e=some y)
  (hs:Src κ e l sv) (vJ:∃ a,sv=.slice a l.length l.length) (hv:Cel κ e ys v) (uh:ys≠[]) (hb:(l.length+ys.length)*bytes<=140737488355328) (hn:l.length+ys.length<=9223372036854775807) :
  ∃ (κ':KS) (r:Value),(Builtin.append_ #[t,t2] ty #[sv,v]).run c.P κ.w=.ok r κ'.w/\κ'.st=κ.st++[.arr (l.length+ys.length) e (l++ys)]/\Inv κ'/\Ext κ κ'/\RD κ' (.ms κ.st.length (l.length+ys.length) e 0 (l.length+ys.length)) r:=by
 obtain⟨hs1,_⟩:=vT wI
 obtain⟨i,Ez,Ww⟩:=eX hs1
 obtain⟨y,hy⟩:=hz
 obtain⟨i',zv,g1,g2,g3⟩:=iV (κ:=κ) hy
 obtain⟨i'',k1,k2⟩:=p9 Ka
 rw[Ez]at g1 k1
 cases g1
 cases k1
 obtain⟨olds,f,Tl,ho2,ho3,ho4,ho5⟩:=XD hs jv
 obtain⟨news,g,E9,KY,hn3,hn4,hn5⟩:=hv.ex
 obtain⟨a,hsv⟩:=vJ
 subst hsv
 have Zr:0<ys.length:=List.length_pos_iff.2 uh
 have wX:=ri (c:=c) (κ:=κ) (t:=t) (t2:=t2) (e:=et) (ty:=ty) (base:=a) (sLen:=l.length) (sCap:=l.length) (n:=ys.length) (x:=v) (news:=news) (olds:=olds) hu P1 Ez g2 hn3
  (by intro P; rw[Ww]; exact hn5 P) (by intro P; rw[Ww]; exact ho5 P) (by omega) (by omega) (by rw[k2]; exact hb)
 let C:=grownCap κ.w (l.length+ys.length) l.length et
 have hC:l.length+ys.length<=C:=grownCap_ge _ _ _ _
 let zs:=Builtin.zeroCells zv.cells (C-(l.length+ys.length))
 let cells:=olds.toArray++news.toArray++zs
 have hzs:zs.size=(C-(l.length+ys.length))*e.size:=by have:=g3.len; simp only[Array.length_toList]at this; simp[zs,pR,this]
 have hol:olds.length=l.length*e.size:=by rw[Tl]; exact j8 λi hi=>(ho2 i hi).len
 have P6:news.length=ys.length*e.size:=by rw[E9]; exact j8 λi hi=>(KY i hi).len
 have Xk:cells.size=C*e.size:=by
  simp only[cells,Array.size_append,List.size_toArray,hol,P6,hzs,<- Nat.add_mul]
  grind
 have gr:=fa.drew κ.w (.cells cells et)
 have hex:=sR (n:=cells.size) (x:=.arr (l.length+ys.length) e (l++ys)) hI gr
 refine⟨κ.add _ cells.size (.arr (l.length+ys.length) e (l++ys)),_,wX,rfl,VJ hI gr ?_,hex,?_⟩
 ·refine⟨jv,.inr ⟨κ.w.heap.size,cells.size,cells,et,oO hI,gr.new,rfl,?_,ZZ wI,λi=>if i<l.length then f i else g (i-l.length),λi hi => ?_⟩⟩
  ·rw[Xk,List.length_append]; exact Nat.mul_le_mul_right _ hC
  ·obtain⟨q1,q2⟩:=UP ho2 KY zs.toList i hi
   refine⟨q1.mono hex.same,λj v hj => ?_⟩
   grind
 ·refine .ms _ (l.length+ys.length) e 0 _ C _ (.inr ⟨l.length+ys.length,e,_,Zl,Nat.le_refl _⟩) hC nofun (λp hp=>by cases hp; rfl) λxs JR => ?_
  rw[Zl]at JR
  cases JR
  exact⟨by simp,.inr ⟨κ.w.heap.size,cells.size,0,C,oO hI,rfl,hC,by rw[Xk]; simp,.inr (by simp)⟩⟩
def KS.re(κ:KS)(w':World)(b n:Nat)(x:yj):KS:={ κ with w:=w',ph:=κ.ph.set b (some (κ.w.heap.size,n)),st:=κ.st.set b x }
theorem ER{w':World}{o:Obj}{b n v0 v1:Nat}{e:Ty}{xs ys:List (den e)}(hI:Inv κ)(g:fa κ.w w' o)(hb:κ.st[b]? = some (.arr v0 e xs))(hv:v0<v1):Ext κ (κ.re w' b n (.arr v1 e ys)):=by
 refine⟨g.os,g.tape,g.output,by show κ.w.heap.size<=w'.heap.size; rw[g.size]; omega,λk hk=>⟨hk,g.old (hI.gm k hk)⟩,λk hk=>.inl hk,?_,?_,?_,?_,by simp[KS.re],λk hk _=>g.old hk⟩
 ·intro b' blk m h
  simp only[KS.re]at h
  grind
 ·intro b' d hd
  have uh:b≠b':=λe=>by subst e; rw[hb]at hd; cases hd
  simp only[KS.re]
  grind
 ·intro b' u0 e' zs hd
  simp only[KS.re]
  grind
 ·intro b' hd
  have uh:b≠b':=λe=>by subst e; rw[hb]at hd; cases hd
  simp only[KS.re,List.getElem?_set,if_neg uh]
  exact hd
theorem z7C{w':World}{o:Obj}{b n v0 v1:Nat}{e:Ty}{xs ys:List (den e)}(hI:Inv κ)(g:fa κ.w w' o)(hb:κ.st[b]? = some (.arr v0 e xs))(hv:v0<v1)
  (hx:ff (κ.re w' b n (.arr v1 e ys)) b (.arr v1 e ys)):Inv (κ.re w' b n (.arr v1 e ys)):=by
 have hold:∀ (b' blk m:Nat),(κ.ph.set b (some (κ.w.heap.size,n)))[b']? = some (some (blk,m))->(b≠b'/\κ.ph[b']? = some (some (blk,m)))\/(b=b'/\blk=κ.w.heap.size):=by
  grind
 refine⟨by simp[KS.re,hI.len],?_,?_,?_,?_,hI.gl.mono (ER (n:=n) (ys:=ys) hI g hb hv).same⟩
 ·intro k hk; have:=hI.gm k hk; show k<w'.heap.size; rw[g.size]; omega
 ·intro b' blk m h
  rcases hold b' blk m h with⟨_,h⟩ | ⟨rfl,rfl⟩
  ·obtain⟨h1,h2⟩:=hI.apart b' blk m h
   exact⟨by show blk<w'.heap.size; rw[g.size]; omega,h2⟩
  ·exact⟨by show κ.w.heap.size<w'.heap.size; rw[g.size]; omega,λhk=>absurd (hI.gm _ hk) (Nat.lt_irrefl _)⟩
 ·intro b1 b2 blk m m' h h'
  rcases hold b1 blk m h with⟨_,h⟩ | ⟨rfl,rfl⟩<;>rcases hold b2 _ m' h' with⟨_,h'⟩ | ⟨rfl,h''⟩
  ·exact hI.inj b1 b2 blk m m' h h'
  ·have:=(hI.apart b1 blk m h).1; omega
  ·have:=(hI.apart b2 _ m' h').1; omega
  ·rfl
 ·intro b' y hy
  simp only[KS.re,List.getElem?_set]at hy
  split at hy
  ·grind
  ·rename_i e1
   refine(hI.blk b' y hy).mono (ER hI g hb hv) ?_ λblk m h=>g.old (hI.apart b' blk m h).1
   simp only[KS.re,List.getElem?_set,if_neg e1]
theorem UY{α:Type}{l:List α}{i:Nat}{a:α}(h:l[i]? = some a):l.set i a=l:=by
 apply List.ext_getElem?
 grind
theorem N7{t t2 et b qJ len:Nat}{e:Ty}{xs ys:List (den e)}{sv v:Value}{bytes:Nat}{ty:Nat}(hI:Inv κ)(hu:c.P.underlying t=some (.slice et))(P1:z0g c t2)(wI:kX c et e=true)(jv:0<e.size)(Ka:mS c et=some bytes)
  (hz:∃ y,zeroOf c et e=some y) (hs:RD κ (.ms b qJ e 0 len) sv) (hb:κ.st[b]? = some (.arr qJ e xs)) (hlen:len=xs.length) (hv:Cel κ e ys v) (hbb:(xs.length+ys.length)*bytes<=140737488355328)
  (hn:xs.length+ys.length<=9223372036854775807) :
  ∃ (κ':KS) (r:Value),(Builtin.append_ #[t,t2] ty #[sv,v]).run c.P κ.w=.ok r κ'.w/\κ'.st=κ.st.set b (.arr (qJ+ys.length) e (xs++ys))/\Inv κ'/\Ext κ κ'/\RD κ' (.ms b (qJ+ys.length) e 0 (len+ys.length)) r:=by
 subst hlen
 have qD:b<κ.st.length:=(List.getElem?_eq_some_iff.1 hb).1
 have KW:b<κ.ph.length:=by rw[hI.len]; exact qD
 obtain⟨hs1,_⟩:=vT wI
 obtain⟨i,Ez,Ww⟩:=eX hs1
 obtain⟨y,hy⟩:=hz
 obtain⟨i',zv,g1,g2,g3⟩:=iV (κ:=κ) hy
 obtain⟨i'',k1,k2⟩:=p9 Ka
 rw[Ez]at g1 k1
 cases g1
 cases k1
 have HQ:=(F0 hI hs hb).1
 simp only[Nat.zero_add,List.take_length,List.drop_zero]at HQ
 obtain⟨olds,f,Tl,ho2,ho3,ho4,ho5⟩:=XD HQ jv
 obtain⟨news,g,E9,KY,hn3,hn4,hn5⟩:=hv.ex
 have hol:olds.length=xs.length*e.size:=by rw[Tl]; exact j8 λi hi=>(ho2 i hi).len
 have P6:news.length=ys.length*e.size:=by rw[E9]; exact j8 λi hi=>(KY i hi).len
 have Gj:∀ u∈news,u.oneCell'=true:=by rw[E9]; exact YW λi hi=>(KY i hi).one
 cases hs with
 | ms _ _ _ _ _ cap a hold vJ ha nN hm =>
  obtain⟨hle,hm⟩:=hm xs hb
  by_cases ob:xs.length+ys.length<=cap
  ·-- there is room
   rcases hm with⟨h1,_,hv',hp⟩ | ⟨blk,n,o,Fu,h3,h4,h5,h6,h7⟩
   ·simp only[Value.slice.injEq]at hv'
    obtain⟨rfl,K8,rfl⟩:=hv'
    have Vq:xs=[]:=List.eq_nil_of_length_eq_zero h1
    have hy0:ys=[]:=List.eq_nil_of_length_eq_zero (by omega)
    subst Vq hy0
    refine⟨κ,.slice none 0 0,?_,?_,hI,Ext.refl κ,.ms b qJ e 0 0 0 none hold (Nat.le_refl _) (λ_=>rfl) nofun λzs hzs => ?_⟩
    ·have P5:news=[]:=List.eq_nil_of_length_eq_zero (by simpa using P6)
     subst P5
     exact run_append_fits (c:=c) (κ:=κ) (t:=t) (t2:=t2) (e:=et) (ty:=ty) (base:=none) (sLen:=0) (sCap:=0) (n:=0) (x:=v) (news:=[]) hu P1 Ez hn3 (by intro P; rw[Ww]; exact hn4 P) (by omega) rfl
    ·simp only[List.length_nil,Nat.add_zero,List.append_nil]
     rw[UY hb]
    ·grind
   ·cases h4
    obtain⟨_,⟨Uq,hpn⟩ | ⟨lN,n',cs,T,p1,p2,p3,p4,pr,F,p5⟩⟩:=hI.blk b _ hb
    ·grind
    ·rw[h3]at p1
     cases p1
     have ho:xs.length+ys.length=0\/o=0:=by
      grind
     have zaE:cap*e.size<=cs.size:=by rw[p3]; simpa using h6
     have Y0:xs.length*e.size+ys.length*e.size<=cs.size:=by
      rw[<- Nat.add_mul]; exact Nat.le_trans (Nat.mul_le_mul_right _ ob) zaE
     let cV:=(cs.toList.take (xs.length*e.size)++news++cs.toList.drop (xs.length*e.size+news.length)).toArray
     have Xi:cs.toList.length=cs.size:=by simp
     have Kz:cV.size=cs.size:=by simp only[cV,List.size_toArray,List.length_append,List.length_take,List.length_drop,P6,Xi]; omega
     have hoa:∀ m,(⟨blk,o,none⟩:Addr).add (xs.length*e.size)=⟨blk,xs.length*e.size,none⟩\/m=0\/xs.length+ys.length=0:=by
      intro m
      rcases ho with h | h
      ·grind
      ·subst h; rw[ub,Nat.zero_add]; exact .inl rfl
     have xR:(storeCells ((⟨blk,o,none⟩:Addr).add (xs.length*i.size)) news).run c.P κ.w=.ok () (κ.w.setRow blk cV):=by
      rw[Ww]
      rcases hoa 1 with h | h | h
      ·rw[h]
       have:=run_storeCells_at c.P blk (xs.length*e.size) T news 0 cs κ.w p2 (by rw[P6]; omega) Gj
       simpa only[Nat.add_zero]using this
      ·cases h
      ·have P5:news=[]:=List.eq_nil_of_length_eq_zero (by rw[P6,show ys.length=0 by omega]; simp)
       have Vq:xs.length=0:=by omega
       have hce:cV=cs:=by simp[cV,P5,Vq]
       rw[P5,hce,setRow_self _ _ _ _ _ p2]
       rfl
     have ou:Alike (.arr qJ e xs) (.arr (qJ+ys.length) e (xs++ys)):=⟨rfl,by omega,λh=>by rw[List.length_append]; omega⟩
     have hex:=mJ (cs:=cV) (x:=.arr (qJ+ys.length) e (xs++ys)) hI h3 hb ou
     refine⟨κ.Br b blk cV (.arr (qJ+ys.length) e (xs++ys)),.slice (some ⟨blk,o,none⟩) (xs.length+ys.length) cap,?_,rfl,QU hI h3 hb ou ?_,hex,?_⟩
     ·exact run_append_fits (c:=c) (κ:=κ) (t:=t) (t2:=t2) (e:=et) (ty:=ty) (base:=some ⟨blk,o,none⟩) (sLen:=xs.length) (sCap:=cap) (n:=ys.length) (x:=v) (news:=news) hu P1 Ez hn3 (by intro P; rw[Ww]; exact hn4 P) ob xR
     ·refine⟨jv,.inr ⟨blk,n,cV,T,h3,setRow_heap _ _ _ _ _ _ p2,by rw[Kz]; exact p3,?_,pr,λi=>if i<xs.length then F i else g (i-xs.length),λi hi => ?_⟩⟩
      ·rw[List.length_append]; exact Nat.le_trans (Nat.mul_le_mul_right _ ob) (by simpa using h6)
      ·have hF:∀ i (hi:i<xs.length),Rc κ.w κ.ok e xs[i] (F i):=λi hi=>(p5 i hi).1
       have z5J:∀ i,i<xs.length->(F i).length=e.size:=λi hi=>(hF i hi).len
       have TB:cs.toList.take (xs.length*e.size)=yd F xs.length:=by
        apply List.ext_getElem?
        intro p
        rw[List.getElem?_take]
        have Bq:=j8 z5J
        split
        ·rename_i hp
         obtain⟨q,hq⟩:∃ q,(yd F xs.length)[p]? = some q:=⟨_,List.getElem?_eq_getElem (by rw[Bq]; exact hp)⟩
         obtain⟨i',j',a1,a2,a3,a4⟩:=BS jv z5J hq
         rw[hq]
         have:=(p5 i' a1).2 j' q a4
         rw[a3,Array.getElem?_toList]; exact this
        ·rename_i hp
         rw[List.getElem?_eq_none (by rw[Bq]; omega)]
       obtain⟨q1,q2⟩:=UP hF KY (cs.toList.drop (xs.length*e.size+news.length)) i hi
       refine⟨q1.mono hex.same,λj w hj => ?_⟩
       have:=q2 j w hj
       rw[<- E9,<- TB]at this
       simpa only[cV,List.getElem?_toArray]using this
     ·refine .ms b _ e 0 _ cap _ (.inr ⟨qJ+ys.length,e,xs++ys,by simp[KS.Br,qD],Nat.le_refl _⟩) ob nofun (λp hp=>by cases hp; rfl) λzs hzs => ?_
      have:zs=xs++ys:=by simp only[KS.Br,List.getElem?_set_self qD]at hzs; cases hzs; rfl
      subst this
      refine⟨by simp,.inr ⟨blk,n,o,cap,h3,rfl,ob,by simpa using h6,?_⟩⟩
      rcases h7 with h7 | h7
      ·exact .inl h7
      ·exact .inr (by simpa using h7)
  ·-- it grows
   have Zr:0<ys.length:=by omega
   have wX:=ri (c:=c) (κ:=κ) (t:=t) (t2:=t2) (e:=et) (ty:=ty) (base:=a) (sLen:=xs.length) (sCap:=cap) (n:=ys.length) (x:=v) (news:=news) (olds:=olds) hu P1 Ez g2 hn3
    (by intro P; rw[Ww]; exact hn5 P) (by intro P; rw[Ww]; exact ho5 P) (by omega) (by omega) (by rw[k2]; exact hbb)
   let C:=grownCap κ.w (xs.length+ys.length) cap et
   have hC:xs.length+ys.length<=C:=grownCap_ge _ _ _ _
   let zs:=Builtin.zeroCells zv.cells (C-(xs.length+ys.length))
   let cells:=olds.toArray++news.toArray++zs
   have hzs:zs.size=(C-(xs.length+ys.length))*e.size:=by have:=g3.len; simp only[Array.length_toList]at this; simp[zs,pR,this]
   have Xk:cells.size=C*e.size:=by
    simp only[cells,Array.size_append,List.size_toArray,hol,P6,hzs,<- Nat.add_mul]
    congr 1; omega
   have gr:=fa.drew κ.w (.cells cells et)
   have TV:qJ<qJ+ys.length:=by omega
   have hex:=ER (n:=cells.size) (ys:=xs++ys) hI gr hb TV
   refine⟨κ.re _ b cells.size (.arr (qJ+ys.length) e (xs++ys)),_,wX,rfl,z7C hI gr hb TV ?_,hex,?_⟩
   ·refine⟨jv,.inr ⟨κ.w.heap.size,cells.size,cells,et,by simp[KS.re,KW],gr.new,rfl,?_,ZZ wI,λi=>if i<xs.length then f i else g (i-xs.length),λi hi => ?_⟩⟩
    ·rw[Xk,List.length_append]; exact Nat.mul_le_mul_right _ hC
    ·obtain⟨q1,q2⟩:=UP ho2 KY zs.toList i hi
     refine⟨q1.mono hex.same,λj v hj => ?_⟩
     have:=q2 j v hj
     rw[<- Tl,<- E9]at this
     rw[<- Array.getElem?_toList]
     simpa[cells]using this
   ·refine .ms b _ e 0 _ C _ (.inr ⟨qJ+ys.length,e,xs++ys,by simp[KS.re,qD],Nat.le_refl _⟩) hC nofun (λp hp=>by cases hp; rfl) λus hus => ?_
    have:us=xs++ys:=by simp only[KS.re,List.getElem?_set_self qD]at hus; cases hus; rfl
    subst this
    exact⟨by simp,.inr ⟨κ.w.heap.size,cells.size,0,C,by simp[KS.re,KW],rfl,hC,by rw[Xk]; simp,.inr (by simp)⟩⟩
end
end Go.AM
namespace Go.AM
set_option linter.unusedSectionVars false
variable [ur]
section
variable {c:Ctx} {κ:KS}
theorem Zh{x y:D}{v:Value}(hI:Inv κ)(hx:RD κ x v)(h:(nY κ.st x).leads y):(y=x/\∀ b qJ e off len,x≠.ms b qJ e off len)\/∃ (e:Ty) (ys:List (den e)),y=.zC (.sl e) ys/\Src κ e ys v/\∃ b qJ off len,x=.ms b qJ e off len:=by
 cases x with
 | ms b qJ e off len =>
  simp only[nY]at h
  split at h
  ·rename_i kP e' xs hb
   split at h
   ·rename_i he
    subst he
    obtain⟨rfl,h⟩:=h
    refine .inr ⟨e',_,h.symm,(F0 hI hx hb).1,b,qJ,off,len,rfl⟩
   ·exact h.elim
  ·exact h.elim
 | _=>exact .inl ⟨h.symm,λ_ _ _ _ _=>nofun⟩
theorem tP{t t2 et:Nat}{e:Ty}{s:D}{ys:List (den e)}{ne:Bool}{sv v:Value}{bytes ty:Nat}{d:Option D}{zx:St}(hI:Inv κ)(hu:c.P.underlying t=some (.slice et))(P1:z0g c t2)(wI:kX c et e=true)(jv:0<e.size)
  (Ka:mS c et=some bytes) (CG:0<bytes) (hz:∃ y,zeroOf c et e=some y) (hs:RD κ s sv) (hv:Cel κ e ys v) (uh:ne=true->ys≠[])
  (h:(kl e s ys ne bytes κ.st).leads (d,zx)) :
  ∃ (κ':KS) (r:Value),(Builtin.append_ #[t,t2] ty #[sv,v]).run c.P κ.w=.ok r κ'.w/\κ'.st=zx/\Inv κ'/\Ext κ κ'/\∀ d',d=some d'->RD κ' d' r:=by
 have hlen:∀ n,n*bytes<=140737488355328->n<=9223372036854775807:=λn hn=>Nat.le_trans (Nat.le_mul_of_pos_right n CG) (Nat.le_trans hn (by decide))
 -- nothing is appended
 have same:∀ (a:Option Addr) (n cap:Nat),sv=.slice a n cap->n<=cap->ys=[]->d=some s->zx=κ.st ->
   ∃ (κ':KS) (r:Value),(Builtin.append_ #[t,t2] ty #[sv,v]).run c.P κ.w=.ok r κ'.w/\κ'.st=zx/\Inv κ'/\Ext κ κ'/\∀ d',d=some d'->RD κ' d' r:=by
  rintro a n cap rfl vJ rfl rfl rfl
  obtain⟨hs1,_⟩:=vT wI
  obtain⟨i,Ez,Ww⟩:=eX hs1
  obtain⟨news,g,E9,KY,hn3,hn4,hn5⟩:=hv.ex
  have P5:news=[]:=E9
  subst P5
  refine⟨κ,.slice a n cap,?_,rfl,hI,Ext.refl κ,λd' he=>by cases he; exact hs⟩
  have:=run_append_fits (c:=c) (κ:=κ) (t:=t) (t2:=t2) (e:=et) (ty:=ty) (base:=a) (sLen:=n) (sCap:=cap) (n:=0) (x:=v) (news:=[]) (i:=i) hu P1 Ez hn3 (by intro P; rw[Ww]; exact hn4 P) (by omega) (w':=κ.w) (by cases a<;>rfl)
  grind
 have new:∀ l:List (den e),Src κ e l sv->(∃ a,sv=.slice a l.length l.length)->ys≠[]->(mD e l ys bytes κ.st).leads (d,zx) ->
   ∃ (κ':KS) (r:Value),(Builtin.append_ #[t,t2] ty #[sv,v]).run c.P κ.w=.ok r κ'.w/\κ'.st=zx/\Inv κ'/\Ext κ κ'/\∀ d',d=some d'->RD κ' d' r:=by
  intro l hl vJ uh h
  obtain⟨hb,h⟩:=h
  cases h
  obtain⟨κ',r,h1,h2,h3,h4,h5⟩:=I5 (ty:=ty) hI hu P1 wI jv Ka hz hl vJ hv uh hb (hlen _ hb)
  grind
 unfold kl at h
 split at h
 ·have hsv:sv=.slice none 0 0:=by cases hs; rfl
  cases hn:ne with
  | true=>rw[hn,cond_true]at h; exact new [] (VR hs) ⟨none,hsv⟩ (uh hn) h
  | false =>
   rw[hn,cond_false]at h
   rcases h with⟨hy,h⟩ | ⟨hy,h⟩
   ·cases h; exact same none 0 0 hsv (Nat.le_refl _) (List.isEmpty_iff.1 hy) rfl rfl
   ·exact new [] (VR hs) ⟨none,hsv⟩ (λe=>by rw[e]at hy; cases hy) h
 ·rename_i e' l ne'
  split at h
  ·rename_i l' PW
   obtain⟨he,za6⟩:=qx PW
   cases he
   simp only at za6
   subst za6
   have hsv:∃ a,sv=.slice a l'.length l'.length:=by
    cases hs with
    | xw=>simp
    | tight=>simp
   cases hn:ne with
   | true=>rw[hn,cond_true]at h; exact new l' (sN hs) hsv (uh hn) h
   | false =>
    rw[hn,cond_false]at h
    rcases h with⟨hy,h⟩ | ⟨hy,h⟩
    ·cases h
     obtain⟨a,ha⟩:=hsv
     exact same a _ _ ha (Nat.le_refl _) (List.isEmpty_iff.1 hy) rfl rfl
    ·exact new l' (sN hs) hsv (λe=>by rw[e]at hy; cases hy) h
  ·exact h.elim
 ·rename_i b qJ e' off len
  split at h
  ·rename_i kP e'' xs hb
   split at h
   ·rename_i xs' Zt
    obtain⟨he,zcU⟩:=qx Zt
    cases he
    simp only at zcU
    subst zcU
    cases hde:decide (e'=_)with
    | false=>rw[hde]at h; exact h.elim
    | true =>
     rw[hde,cond_true]at h
     have:=of_decide_eq_true hde
     subst this
     obtain⟨⟨rfl,rfl,hl,hbb⟩,h⟩:=h
     cases h
     obtain⟨κ',r,h1,h2,h3,h4,h5⟩:=N7 (ty:=ty) hI hu P1 wI jv Ka hz hs hb hl hv hbb (hlen _ hbb)
     exact⟨κ',r,h1,h2,h3,h4,λd' he=>by cases he; exact h5⟩
   ·exact h.elim
  ·exact h.elim
 ·exact h.elim
theorem BA{t ty:Nat}{s x:Option D}{sv v:Value}{d:Option D}{zx:St}(hI:Inv κ)(hs:∀ z,s=some z->RD κ z sv)(hx:∀ z,x=some z->RD κ z v)
  (h:(zR (QP c t s x) κ.st).leads (d,zx)):qH c.P (do Pure.pure (.value (<- Builtin.append_ #[t,t] ty #[sv,v]))) κ d zx:=by
 unfold QP at h
 split at h
 ·exact absurd h zh
 ·rename_i et het
  have hu:=uN het
  split at h
  ·rename_i e bytes Lo Ka
   cases hb:kX c et e&&Nat.blt 0 e.size&&Nat.blt 0 bytes&&(zeroOf c et e).isSome with
   | false=>rw[hb]at h; exact absurd h zh
   | true =>
    rw[hb,cond_true]at h
    simp only[Bool.and_eq_true]at hb
    obtain⟨⟨⟨wI,h1⟩,h2⟩,h3⟩:=hb
    have jv:0<e.size:=Nat.le_of_ble_eq_true h1
    have CG:0<bytes:=Nat.le_of_ble_eq_true h2
    have hz:=Option.isSome_iff_exists.1 h3
    split at h
    ·rename_i s x
     simp only[zR,T.zM]at h
     obtain⟨y,hy,h⟩:=h
     have fin:∀ (ys:List (den e)) (ne:Bool),Src κ e ys v->(ne=true->ys≠[])->(kl e s ys ne bytes κ.st).leads (d,zx)->qH c.P (do Pure.pure (.value (<- Builtin.append_ #[t,t] ty #[sv,v]))) κ d zx:=by
      intro ys ne hv uh h
      obtain⟨κ',r,g1,g2,g3,g4,g5⟩:=tP (t2:=t) (ty:=ty) hI hu (.inl ⟨et,hu⟩) wI jv Ka CG hz (hs _ rfl) (z1Y hv jv) uh h
      exact⟨κ',.value r,r,by simp only[Sem.run_bind,g1,Result.andThen_ok]; rfl,.inl rfl,g2,g3,g4,g5⟩
     have Ml:=hx _ rfl
     rcases Zh hI Ml hy with⟨rfl,hnm⟩ | ⟨e',ys,rfl,HQ,_⟩
     ·split at h
      ·rename_i σ z
       split at h
       ·rename_i ys hys
        obtain⟨he,hz'⟩:=qx hys
        cases he
        subst hz'
        exact fin _ false (MD Ml) nofun h
       ·exact h.elim
      ·rename_i σ z ne
       split at h
       ·rename_i ys hys
        obtain⟨he,hz'⟩:=qx hys
        cases he
        subst hz'
        refine fin _ ne (sN Ml) (λuh => ?_) h
        cases Ml with
        | xw=>cases uh
        | tight _ _ _ _ _ _ q=>exact q uh
       ·exact h.elim
      ·exact fin [] false (VR Ml) nofun h
      ·exact h.elim
     ·simp only at h
      split at h
      ·rename_i ys' hys
       obtain⟨he,hz'⟩:=qx hys
       grind
      ·exact h.elim
    ·exact absurd h zh
  ·exact absurd h zh
theorem z1B{l:zd}{v:Value}(h:RD κ (.zC .str l) v):Cel κ (.int .u8) (bytesOf l) v:=by
 have hv:=h.vc
 subst hv
 have hl:(bytesOf l).length=l.length:=by simp[bytesOf]
 have jv:(⟨l.toArray⟩:ByteArray).size=l.length:=List.size_toArray
 refine⟨Lib.strCells ⟨l.toArray⟩,λi=>[.int .u8 ((bytesOf l)[i]?.getD 0)],?_,λi hi => ?_,λP => ?_,λP => ?_,λP => ?_⟩
 ·have gen:∀ (n:Nat),n<=l.length->yd (λi=>[Value.int .u8 ((bytesOf l)[i]?.getD 0)]) n=(l.take n).map λb=>Value.int .u8 b.toNat:=by
   intro n
   induction n with
   | zero=>intro _; rfl
   | succ n ih =>
    intro hn
    have qD:n<l.length:=hn
    rw[yd,ih (by omega),List.take_succ_eq_append_getElem qD,List.map_append]
    simp[bytesOf,List.getElem?_eq_getElem qD]
  rw[hl,gen _ (Nat.le_refl _),List.take_length]
  rfl
 ·have:(bytesOf l)[i]?.getD 0=(bytesOf l)[i]:=by rw[List.getElem?_eq_getElem hi]; rfl
  show Rc κ.w κ.ok (.int .u8) (bytesOf l)[i] [Value.int .u8 ((bytesOf l)[i]?.getD 0)]
  rw[this]
  exact .int .u8 _
 ·show(pure (⟨l.toArray⟩:ByteArray).size:Sem Nat).run P κ.w=_
  rw[jv,hl]; rfl
 ·rw[hl,<- jv]; exact Lib.run_firstCells_string _ _ _
 ·rw[hl,<- jv]; exact Lib.run_firstCells_string _ _ _
theorem Uv{t t2 ty:Nat}{s x:Option D}{sv v:Value}{d:Option D}{zx:St}(hI:Inv κ)(hs:∀ z,s=some z->RD κ z sv)(hx:∀ z,x=some z->RD κ z v)
  (h:(zR (sn c t t2 s x) κ.st).leads (d,zx)):qH c.P (do Pure.pure (.value (<- Builtin.append_ #[t,t2] ty #[sv,v]))) κ d zx:=by
 unfold sn at h
 split at h
 ·exact absurd h zh
 ·rename_i et het
  have hu:=uN het
  split at h
  ·rename_i bytes Lo Ka P1
   cases hb:kX c et (.int .u8)&&Nat.blt 0 bytes&&(zeroOf c et (.int .u8)).isSome with
   | false=>rw[hb]at h; exact absurd h zh
   | true =>
    rw[hb,cond_true]at h
    simp only[Bool.and_eq_true]at hb
    obtain⟨⟨wI,h2⟩,h3⟩:=hb
    have CG:0<bytes:=Nat.le_of_ble_eq_true h2
    have hz:=Option.isSome_iff_exists.1 h3
    split at h
    ·rename_i s l
     obtain⟨κ',r,g1,g2,g3,g4,g5⟩:=tP (t2:=t2) (ty:=ty) hI hu (.inr P1) wI (by decide) Ka CG hz (hs _ rfl) (ne:=false) (z1B (hx _ rfl)) (λe=>by cases e) h
     exact⟨κ',.value r,r,by simp only[Sem.run_bind,g1]; rfl,.inl rfl,g2,g3,g4,g5⟩
    ·exact absurd h zh
  ·exact absurd h zh
end
end Go.AM
namespace Go.AM
set_option linter.unusedSectionVars false
variable [ur]
section
variable {c:Ctx} {κ:KS}
theorem Z7{places:List (Nat×Nat)}{pf:Nat->Option (Nat×Nat)}(hpf:∀ (i:Nat) p,places[i]? = some p->pf i=some p){F:Operand->Option D}{G:Operand->Value}(hF:∀ x d,F x=some d->RD κ d (G x)):∀ (L:List (Nat×Operand)) (cells r:List D) (cs:Array Value),
  eO places (L.map λp=>(p.1,F p.2)) cells=some r->qM κ cells cs.toList->(∀ d∈cells,d.one=true) ->
  ∃ cV,Instr.fill pf cs (L.map λp=>(p.1,G p.2))=some cV/\qM κ r cV.toList/\∀ d∈r,d.one=true
 | [],cells,r,cs,h,hr,ho=>by
  simp only[List.map_nil,eO,Option.some.injEq]at h
  subst h
  exact⟨cs,rfl,hr,ho⟩
 | (i,x)::L,cells,r,cs,h,hr,ho=>by
  simp at h
  cases hx:F x with
  | none=>rw[hx]at h; simp[eO]at h
  | some d =>
   rw[hx]at h
   simp only[eO]at h
   split at h
   ·rename_i off n hp
    cases hb : !d.jf&&Nat.beq n (qm d).length&&Nat.ble (off+n) cells.length with
    | false=>grind
    | true =>
     rw[hb,cond_true]at h
     simp only[Bool.and_eq_true,Bool.not_eq_true']at hb
     obtain⟨⟨h1,h2⟩,h3⟩:=hb
     have h2':n=(qm d).length:=Nat.eq_of_beq_eq_true h2
     have h3':=Nat.le_of_ble_eq_true h3
     have hd:=hF x d hx
     have P4:=jF hd h1
     have hvl:(G x).cells.toList.length=n:=by rw[<- P4.1]; exact h2'.symm
     have hle:off+n<=cs.size:=by have:=hr.1; simp at this; omega
     have hn:=lD hr P4 off n
     obtain⟨cV,g1,g2,g3⟩:=Z7 hpf hF L _ r (cs.toList.take off++(G x).cells.toList++cs.toList.drop (off+n)).toArray h (by grind) (by
      intro y hy
      simp only[List.mem_append]at hy
      rcases hy with(hy | hy) | hy
      ·grind
      ·exact jN hd y hy
      ·exact ho y (List.mem_of_mem_drop hy))
     refine⟨cV,?_,g2,g3⟩
     simp
     rw[BM (hpf _ _ hp) hvl hle]
     exact g1
   ·cases h
theorem Ib{t:Nat}{L:List (Nat×Operand)}{F:Operand->Option D}{G:Operand->Value}{d:Option D}{zx:St}(hI:Inv κ)(hF:∀ x d,F x=some d->RD κ d (G x))
  (h:(zR (He c t (L.map λp=>(p.1,F p.2))) κ.st).leads (d,zx)):qH c.P (do Pure.pure (.value (<- Instr.build t (L.map λp=>(p.1,G p.2)).toArray))) κ d zx:=by
 unfold He at h
 split at h
 ·rename_i fs hu
  split at h
  ·rename_i z places hz hp
   split at h
   ·rename_i l hl
    rw[kh]at h
    obtain⟨rfl,rfl⟩:=h
    obtain⟨i,zv,h1,h2,h3⟩:=fQ hz
    have hzr:=h3.rd κ
    obtain⟨cV,g1,g2,g3⟩:=Z7 (pf:=(places.toArray[·]?)) (λi p hp=>by simpa using hp) hF L z l zv.cells hl (jF hzr rfl) (jN hzr)
    have hb:c.P.built t (L.map λp=>(p.1,G p.2))=some cV:=by
     unfold Program.built
     grind
    refine qH.pure hI (run_build κ.w t _ cV (by simpa using hb)) ?_
    have:=RD.agg l cV.toList g2.1 g3 g2.2
    omega
   ·exact absurd h zh
  ·exact absurd h zh
 ·rename_i k e hu
  split at h
  ·rename_i z ie hz hp
   split at h
   ·rename_i l hl
    obtain⟨rfl,rfl⟩:=h
    obtain⟨i,zv,h1,h2,h3⟩:=fQ hz
    have hzr:=h3.rd κ
    obtain⟨cV,g1,g2,g3⟩:=Z7 (pf:=λi=>some (i*ie.size,ie.size)) (λi p hp=>by
     rw[List.getElem?_map]at hp
     cases hr:(List.range k)[i]? with
     | none=>grind
     | some j =>
      rw[hr]at hp
      obtain⟨qD,rfl⟩:=List.getElem?_eq_some_iff.1 hr
      simpa using hp) hF L z l zv.cells hl (jF hzr rfl) (jN hzr)
    have hb:c.P.built t (L.map λp=>(p.1,G p.2))=some cV:=by
     unfold Program.built
     grind
    refine qH.pure hI (run_build κ.w t _ cV (by simpa using hb)) ?_
    have:=RD.agg l cV.toList g2.1 g3 g2.2
    omega
   ·exact absurd h zh
  ·exact absurd h zh
 ·exact absurd h zh
theorem KC{a:Act}{o:Oper}{p:Operand}(ho:o.op=.nilCheck p){x:Option D}{d:Option D}{zx:St}(hI:Inv κ)(hx:∀ z,x=some z->RD κ z (a.eval p))
  (h:(zR (Z6 x) κ.st).leads (d,zx)):qH c.P (execOp a.eval o) κ d zx:=by
 have key:∀ z v,RD κ z v->a.eval p=v->(∀ b:Option Addr,v=.pointer b->b≠none)->((∃ b,v=.pointer b)\/∃ g q l,v=.func (.func g) q l)->qH c.P (execOp a.eval o) κ (some z) κ.st:=by
  intro z v hz hv hn hc
  have:execOp a.eval o=Pure.pure (.value v):=by
   rcases hc with⟨b,rfl⟩ | ⟨g,q,l,rfl⟩
   ·cases b with
    | none=>grind
    | some b=>simp only[execOp,ho,hv]
   ·simp only[execOp,ho,hv]
  rw[this]
  exact qH.val hI λ_ he=>by cases he; exact hz
 unfold Z6 at h
 split at h
 all_goals try exact absurd h zh
 all_goals
  rw[kh]at h; obtain⟨rfl,rfl⟩:=h
  have hr:=hx _ rfl
  generalize hv:a.eval p=v at hr
  refine key _ v hr hv ?_ ?_
  ·intro b hb; cases hr<;>first | (cases hb<;>nofun) | (rename_i f l vs _ _; obtain⟨g,q,l',e⟩:=Uc f vs; rw[e]at hb; cases hb)
  ·cases hr<;>first | exact .inl ⟨_,rfl⟩ | exact .inr (Uc _ _)
theorem Ec{op:BinOp}{t:Nat}{px:Operand}{x:Option D}{v:Value}{d:Option D}{zx:St}(hI:Inv κ)(hx:∀ z,x=some z->RD κ z v)
  (h:(zR (HR c op t x) κ.st).leads (d,zx)):qH c.P (do Pure.pure (.value (<- (do eqGuard op t px (.const .nilIface) v .nilIface; binOp op t v .nilIface)))) κ d zx:=by
 unfold HR at h
 split at h
 ·rename_i ms hu
  have hm:c.P.underlying t=some (.interface (c.P.methodsAt t)):=by unfold Program.methodsAt; rw[hu]
  have g1:∀ w,(eqGuard op t px (.const .nilIface) .nilIface .nilIface).run c.P w=.ok () w:=λw=>by cases op<;>simp[eqGuard]
  have g2:∀ u y w,(eqGuard op t px (.const .nilIface) (.iface u y) .nilIface).run c.P w=.ok () w:=λu y w=>by cases op<;>simp[eqGuard]
  split at h
  ·unfold bb at h
   obtain⟨rfl,rfl⟩:=h
   cases hx _ rfl
   exact qH.pure hI (by simp only[Sem.run_bind,g1,Result.andThen_ok,run_eql_nil_nil _ _ hm]) RD.bool
  ·unfold bb at h
   obtain⟨rfl,rfl⟩:=h
   cases hx _ rfl
   exact qH.pure hI (by simp only[Sem.run_bind,g2,Result.andThen_ok,run_eql_held_nil _ _ _ _ hm]) RD.bool
  ·unfold bb at h
   obtain⟨rfl,rfl⟩:=h
   cases hx _ rfl
   exact qH.pure hI (by simp only[Sem.run_bind,g1,Result.andThen_ok,run_neq_nil_nil _ _ hm]) RD.bool
  ·unfold bb at h
   obtain⟨rfl,rfl⟩:=h
   cases hx _ rfl
   exact qH.pure hI (by simp only[Sem.run_bind,g2,Result.andThen_ok,run_neq_held_nil _ _ _ _ hm]) RD.bool
  ·exact absurd h zh
 ·exact absurd h zh
theorem Vj{x:Option D}{v:Value}{xt at':Nat}{ok:Bool}{d:Option D}{zx:St}(hI:Inv κ)(hx:∀ z,x=some z->RD κ z v)
  (h:(zR (nQ c x at' ok) κ.st).leads (d,zx)):qH c.P (do Pure.pure (.value (<- Instr.typeAssert v xt at' ok))) κ d zx:=by
 unfold nQ at h
 split at h
 ·exact absurd h zh
 ·exact absurd h zh
 ·rename_i ty hni hu
  split at h
  ·rename_i t e
   cases hb:Nat.beq t at'&&ok with
   | false=>rw[hb]at h; exact absurd h zh
   | true =>
    rw[hb,cond_true,kh]at h
    obtain⟨rfl,rfl⟩:=h
    simp only[Bool.and_eq_true]at hb
    have:=Nat.eq_of_beq_eq_true hb.1
    subst this
    obtain rfl:=hb.2
    cases hx _ rfl with
    | iface _ _ u hu' =>
     refine qH.pure hI (v:=.tuple #[u,.bool true]) ?_ ?_
     ·cases ty<;>first | (exact(hni _ rfl).elim) | (simp[Instr.typeAssert,run_underlying hu])
     ·have:=qM.cons hu' (qM.cons (RD.bool (κ:=κ) (b:=true)) qM.nil)
      exact .gz _ [u,.bool true] this.1 this.2
  ·exact absurd h zh
theorem K6{t:Nat}{x:Option D}{v:Value}{d:Option D}{zx:St}(hI:Inv κ)(hx:∀ z,x=some z->RD κ z v)
  (h:(zR (rk c t x) κ.st).leads (d,zx)):qH c.P (do Pure.pure (.value (<- Instr.makeInterface t v))) κ d zx:=by
 unfold rk at h
 cases hu:c.P.underlying t with
 | none=>rw[hu]at h; exact absurd h zh
 | some u =>
  rw[hu]at h
  cases u<;>simp only at h
  all_goals try exact absurd h zh
  all_goals
   split at h
   ·rw[kh]at h; obtain⟨rfl,rfl⟩:=h
    have hc:c.P.concrete t=true:=by unfold Program.concrete; rw[hu]
    exact qH.pure hI (run_makeInterface κ.w t v hc) (.iface t _ v (hx _ rfl))
   ·exact absurd h zh
theorem R1{e:Ty}{x y:D}{v:Value}{l:List (den e)}(hI:Inv κ)(hx:RD κ x v)(h:(nY κ.st x).leads y)(hl:D9 e y=some l):Src κ e l v:=by
 rcases Zh hI hx h with⟨rfl,_⟩ | ⟨e',ys,rfl,hs,_⟩
 ·cases y with
  | zC σ z =>
   obtain⟨he,hz⟩:=qx (a:=σ) (b:=.sl e) hl
   cases he
   cases hz
   exact MD hx
  | tight e' z ne =>
   obtain⟨he,hz⟩:=qx (a:=.sl e') (b:=.sl e) hl
   cases he
   cases hz
   exact sN hx
  | xE =>
   simp only[D9,Option.some.injEq]at hl
   subst hl
   exact VR hx
  | _=>simp[D9]at hl
 ·obtain⟨he,hz⟩:=qx (a:=.sl e') (b:=.sl e) hl
  grind
theorem J7{s t e:Nat}{x:Option D}{v:Value}{d:Option D}{zx:St}(hI:Inv κ)(hx:∀ z,x=some z->RD κ z v)(hs:c.P.underlying s=some (.slice e))(ht:c.P.underlying t=some .string)
  (h:(zR (XA c e x) κ.st).leads (d,zx)):qH c.P (do Pure.pure (.value (<- convert s t v))) κ d zx:=by
 unfold XA at h
 split at h
 ·rename_i z he
  rw[mf]at h
  obtain⟨h,rfl⟩:=h
  obtain⟨y,h1,h2⟩:=T.zM.1 h
  split at h2
  ·rename_i l hl
   cases h2
   have HQ:=R1 hI (hx _ rfl) h1 hl
   obtain⟨a,cap,f,rfl,vJ,hn,g1,g2⟩:=HQ.ex
   have wX:(convert s t (.slice a l.length cap)).run c.P κ.w=.ok (.string (strOfNums l)) κ.w:=by
    cases a with
    | none =>
     obtain⟨rfl,rfl⟩:=hn rfl
     exact run_convert_bytes_nil κ.w s e hs he 0 0 t ht
    | some p =>
     rcases g2 p rfl with⟨rfl,rfl⟩ | ⟨hp,_,hc⟩
     ·have h0:(loadCells p 0).run c.P κ.w=.ok (([]:List Int).map (Value.int .u8)).toArray κ.w:=by
       rfl
      simp only[List.length_nil]
      rw[run_convert_bytes_string κ.w s t e _ 0 0 hs he ht,run_bytesToString κ.w _ 0 0 [] h0]
      rfl
     ·obtain⟨blk,o,sp⟩:=p
      subst hp
      refine run_convert_bytes_arg κ.w s e hs he blk o l.length cap l rfl (λi hi => ?_) t ht
      have hf:=(g1 i hi).yW
      have:=hc i hi 0 (.int .u8 l[i]) (by grind)
      have e1:o+i*Ty.size (.int .u8)+0=o+i:=by simp[Ty.size]
      grind
   refine qH.pure hI wX ?_
   exact .str
  ·exact h2.elim
 ·exact absurd h zh
theorem GF{s t:Nat}{x:Option D}{v:Value}{d:Option D}{zx:St}(hI:Inv κ)(hx:∀ z,x=some z->RD κ z v)
  (h:(zR (convertOp c s t x) κ.st).leads (d,zx)):qH c.P (do Pure.pure (.value (<- convert s t v))) κ d zx:=by
 unfold convertOp at h
 split at h
 ·rename_i e hs ht
  exact J7 hI hx hs ht h
 ·rename_i k0 k hs ht
  split at h
  ·rename_i k1 n hk
   have:=uG hk hx
   subst this
   obtain⟨rfl,rfl⟩:=h
   exact qH.pure hI (by simp[convert,run_underlying hs,run_underlying ht,Conv.intToInt]) RD.int
  ·exact absurd h zh
 ·rename_i hs ht
  split at h
  ·rename_i s' hk
   have:=pc hk hx
   subst this
   obtain⟨rfl,rfl⟩:=h
   exact qH.pure hI (by simp[convert,run_underlying hs,run_underlying ht]) RD.str
  ·exact absurd h zh
 ·exact absurd h zh
end
end Go.AM
namespace Go.AM
set_option linter.unusedSectionVars false
variable [ur]
section
variable {c:Ctx} {κ:KS}
theorem NN{ty t t':Nat}{s x:Option D}{v u:Value}{d:Option D}{zx:St}(hI:Inv κ)(hs:∀ z,s=some z->RD κ z v)(hx:∀ z,x=some z->RD κ z u)
  (h:(zR (Fm c t s x) κ.st).leads (d,zx)):qH c.P (do Pure.pure (.value (<- Builtin.copy_ #[t,t'] ty #[v,u]))) κ d zx:=by
 unfold Fm at h
 split at h
 ·rename_i et het
  split at h
  ·rename_i k b qJ k' off len z hu jv
   cases hk:decide (k'=k)with
   | false=>rw[hk]at h; exact absurd h zh
   | true =>
    rw[hk,cond_true]at h
    obtain rfl:k'=k:=of_decide_eq_true hk
    simp only[zR]at h
    obtain⟨y,h1,h2⟩:=T.zM.1 h
    split at h2
    ·rename_i l hl
     unfold PN at h2
     split at h2
     ·rename_i kP e' Zd hb
      split at h2
      ·rename_i xs JR
       obtain⟨he,hxx⟩:=qx (a:=.sl e') (b:=.sl (.int k')) JR
       cases he
       obtain rfl:xs=Zd:=hxx
       obtain⟨⟨HM,Y0⟩,h2⟩:=h2
       cases h2
       subst HM
       have HQ:=R1 hI (hx _ rfl) h1 hl
       obtain⟨a,cap,f,rfl,vJ,hn,g1,g2⟩:=HQ.ex
       have hue:=uN het
       have RP:(c.P.info? et).map (·.size)=some 1:=jv
       have hrd:=hs _ rfl
       cases hrd with
       | ms _ _ _ _ _ cap0 a0 CG hcap0 Y1 hsp0 hh =>
       have hm:=hh xs hb
       have Xi:((List.take len l).map (Value.int k')).length=Nat.min l.length len:=by rw[List.length_map,List.length_take]; exact Nat.min_comm _ _
       have z5L:min len (List.length l)=Nat.min l.length len:=Nat.min_comm _ _
       by_cases h0:min len (List.length l)=0
       ·-- nothing goes over
        have wX:=run_copy_none (P:=c.P) κ.w t t' ty et a0 a len cap0 l.length cap hue RP (by rw[<- z5L]; exact h0)
        have V5:yg off len xs l=xs:=by
         unfold yg
         have ht:List.take len l=[]:=List.eq_nil_of_length_eq_zero (by rw[List.length_take]; exact h0)
         rw[ht,h0,List.append_nil,Nat.add_zero,List.take_append_drop]
        have c9:κ.st.set b (.arr qJ (.int k') (yg off len xs l))=κ.st:=by
         rw[V5]
         obtain⟨qD,hge⟩:=List.getElem?_eq_some_iff.1 hb
         rw[<- hge,List.set_getElem_self]
        rw[c9]
        refine⟨κ,.value (goInt 0),goInt 0,by simp[wX],.inl rfl,rfl,hI,Ext.refl κ,λd' yq => ?_⟩
        cases yq
        rw[h0]
        exact RD.int
       ·obtain⟨hle,hm⟩:=hm
        rcases hm with⟨hz,_⟩ | ⟨blk,n,o,zki,hp,hv,NP,Fa,hc3⟩
        ·omega
        ·cases hv
         have ho:o=off:=by
          rcases hc3 with h | h
          ·omega
          ·simpa[Ty.size]using h
         subst ho
         have hl0:l≠[]:=λh=>h0 (by rw[h]; simp)
         obtain⟨p,rfl⟩:∃ p,a=some p:=by
          cases a with
          | none=>grind
          | some p=>simp
         rcases g2 p rfl with⟨h,_⟩ | ⟨nN,_,hc⟩
         ·grind
         obtain⟨pb,po,psp⟩:=p
         simp only at nN
         subst nN
         obtain⟨_,z0w⟩:=hI.blk b _ hb
         rcases z0w with⟨_,hpn⟩ | ⟨lN,n',cs0,T,k1,k2,k3,k4,kr,g,k5⟩
         ·grind
         rw[hp]at k1
         cases k1
         have hn':List.length xs<=cs0.size:=by rw[k3]; simpa[Ty.size]using k4
         have tR:∀ (i:Nat) (hi:i<List.length xs),cs0[i]? = some (.int k' xs[i]):=by
          intro i hi
          obtain⟨q1,q2⟩:=k5 i hi
          have:=q2 0 (.int k' xs[i]) (by rw[q1.yW]; rfl)
          simpa[Ty.size]using this
         have zfl:((List.take len l).map (Value.int k')).length<=len:=by simp; omega
         have wX:=run_copy_row c.P κ.w t t' ty et blk o len cap0 ⟨pb,po,none⟩ l.length cap cs0 T ((List.take len l).map (Value.int k')) hue RP k2 Xi
          (λj w hj=>by
           have hj':j<(List.take len l).length:=by have:=(List.getElem?_eq_some_iff.1 hj).1; simpa using this
           have P9:j<l.length:=by simp at hj'; omega
           have e1:w=.int k' l[j]:=by
            grind
           have:=hc j P9 0 (.int k' l[j]) (by rw[(g1 j P9).yW]; rfl)
           have FU:(⟨pb,po,none⟩:Addr).add j=⟨pb,po+j,none⟩:=by unfold Addr.add; split<;>simp_all
           rw[FU,e1]
           simpa[Ty.size]using this)
          (by omega) (λw hw=>by obtain⟨_,_,rfl⟩:=List.mem_map.1 hw; rfl)
         have hlen:List.length (yg o len xs l)=List.length xs:=by
          simp only[yg,List.length_append,List.length_take,List.length_drop]
          omega
         have ou:Alike (.arr qJ (.int k') xs) (.arr qJ (.int k') (yg o len xs l)):=⟨rfl,Nat.le_refl _,λ_=>hlen.symm⟩
         let cV:Array Value:=(cs0.toList.take o++(List.take len l).map (Value.int k')++cs0.toList.drop (o+((List.take len l).map (Value.int k')).length)).toArray
         have Kz:cV.size=n:=by
          simp only[cV,List.size_toArray,List.length_append,List.length_take,List.length_drop,Array.length_toList,List.length_map]at *
          omega
         have zd7:∀ (i:Nat) (hi:i<List.length (yg o len xs l)),cV[i]? = some (.int k' (yg o len xs l)[i]):=by
          intro i hi
          have h1:=Z8 (cs:=cs0.toList) (us:=(List.take len l).map (Value.int k')) (o:=o) (n:=((List.take len l).map (Value.int k')).length) rfl (by simp; simp at zfl; omega) i
          have e1:cV[i]? = (cs0.toList.take o++(List.take len l).map (Value.int k')++cs0.toList.drop (o+((List.take len l).map (Value.int k')).length))[i]? := by simp[cV]
          have KB:(List.map (Value.int k') (List.take len l)).length=min len (List.length l):=by simp
          rw[KB]at h1 e1
          have e2:(yg o len xs l)[i]? = if i<o then xs[i]? else if i<o+min len (List.length l)then(List.take len l)[i-o]? else xs[i]? := by
           unfold yg
           have hto:(List.take o xs).length=o:=by simp; omega
           by_cases q1:i<o
           ·rw[if_pos q1,List.append_assoc,List.getElem?_append_left (by omega),List.getElem?_take,if_pos q1]
           ·rw[if_neg q1,List.append_assoc,List.getElem?_append_right (by omega),hto]
            by_cases q2:i<o+min len (List.length l)
            ·rw[if_pos q2,List.getElem?_append_left (by simp; omega)]
            ·rw[if_neg q2,List.getElem?_append_right (by simp; omega),List.getElem?_drop,List.length_take]
             congr 1; omega
          have e3:(yg o len xs l)[i]? = some (yg o len xs l)[i]:=List.getElem?_eq_getElem hi
          rw[e1,h1]
          rw[e2]at e3
          have hix:i<List.length xs:=by rw[<- hlen]; exact hi
          split
          ·rename_i q1
           rw[if_pos q1,List.getElem?_eq_getElem hix]at e3
           rw[Array.getElem?_toList,tR i hix,Option.some.inj e3]
          ·rename_i q1
           rw[if_neg q1]at e3
           split
           ·rename_i q2
            rw[if_pos q2]at e3
            rw[List.getElem?_map,e3]
            rfl
           ·rename_i q2
            rw[if_neg q2,List.getElem?_eq_getElem hix]at e3
            rw[Array.getElem?_toList,tR i hix,Option.some.inj e3]
         refine⟨κ.Br b blk cV (.arr qJ (.int k') (yg o len xs l)),.value (goInt (((List.take len l).map (Value.int k')).length:Nat)),goInt (((List.take len l).map (Value.int k')).length:Nat),(by rw[Sem.run_bind,wX]; rfl),.inl rfl,rfl,QU hI hp hb ou ?_,mJ hI hp hb ou,λd' yq => ?_⟩
         ·refine⟨by simp[Ty.size],.inr ⟨blk,n,cV,T,hp,setRow_heap κ.w blk cs0 cV T (0,0) k2,Kz,by simp[Ty.size]; omega,kr,λi=>[.int k' ((yg o len xs l).getD i 0)],λi hi => ?_⟩⟩
          have hg:(yg o len xs l).getD i 0=(yg o len xs l)[i]:=by simp[List.getD_eq_getElem?_getD,List.getElem?_eq_getElem hi]
          show Rc _ _ (.int k') _ [Value.int k' ((yg o len xs l).getD i 0)]/\∀ (j:Nat) (v:Value),[Value.int k' ((yg o len xs l).getD i 0)][j]? = some v->_
          rw[hg]
          refine⟨.int k' _,λj w hj => ?_⟩
          cases j with
          | zero =>
           simp at hj
           subst hj
           simpa[Ty.size]using zd7 i hi
          | succ j=>simp at hj
         ·cases yq
          rw[z5L,<- Xi]
          exact RD.int
      ·exact h2.elim
     ·exact h2.elim
    ·exact h2.elim
  ·exact absurd h zh
 ·exact absurd h zh
end
end Go.AM
namespace Go.AM
set_option linter.unusedSectionVars false
variable [ur]
def j6(P:Program)(g:Nat)(args:Array Value)(w:World)(R:Ending->World->Prop):Prop :=
 ((callFunc g args).run P w=.ok (.enter g args) w/\Calls P g args w R)\/∃ v w',(callFunc g args).run P w=.ok (.value v) w'/\R (.returned v) w'
theorem j6.mono{P:Program}{g:Nat}{args:Array Value}{w:World}{R R':Ending->World->Prop}(h:j6 P g args w R)(hr:∀ e w,R e w->R' e w):j6 P g args w R':=by
 rcases h with⟨h1,h2⟩ | ⟨v,w',h1,h2⟩
 ·exact .inl ⟨h1,h2.mono hr⟩
 ·exact .inr ⟨v,w',h1,hr _ _ h2⟩
def wW(κ:KS):Gy->Ending->Prop
 | .ret ds,e=>∃ v,e=.returned v/\RD κ (yS ds) v
 | .ye d,e=>∃ v,e=.panicked [{ v,recovered:=false }]/\RD κ d v
abbrev z03:=Nat->Array Value->World->(Ending->World->Prop)->Prop
def zfG(Dr:z03)(g:Nat)(S:List D->St->T (Gy×St)):Prop :=
 ∀ (κ:KS) (args:List D) (zJ:List Value) (rs:Gy) (zx:St),(S args κ.st).leads (rs,zx)->Inv κ->qM κ args zJ ->
  Dr g zJ.toArray κ.w λe w'=>∃ κ':KS,κ'.w=w'/\κ'.st=zx/\Inv κ'/\Ext κ κ'/\wW κ' rs e
def Bu(P:Program)(g:Nat)(S:List D->St->T (Gy×St)):Prop :=
 ∀ (κ:KS) (args:List D) (zJ:List Value) (rs:Gy) (zx:St),(S args κ.st).leads (rs,zx)->Inv κ->qM κ args zJ ->
  j6 P g zJ.toArray κ.w λe w'=>∃ κ':KS,κ'.w=w'/\κ'.st=zx/\Inv κ'/\Ext κ κ'/\wW κ' rs e
section
variable {c:Ctx} {κ:KS}
theorem RD.weaken{W9:Nat->Prop}(hs:∀ k,κ.ok k->W9 k){d:D}{v:Value}(h:RD κ d v):RD { κ with ok:=W9 } d v:=by
 have V5:Eh κ.w κ.w κ.ok W9:=λk hk=>⟨hs k hk,rfl⟩
 induction h with
 | zC τ y cs h=>exact .zC τ y cs (h.mono V5)
 | xw e a=>exact .xw e a
 | tight e l ne blk off f uh wI h hc=>exact .tight e l ne blk off f uh (hs _ wI) (λi hi=>(h i hi).mono V5) hc
 | xE=>exact .xE
 | yL=>exact .yL
 | xh=>exact .xh
 | uq=>exact .uq
 | uo=>exact .uo
 | tA v h=>exact .tA v h
 | dr T=>exact .dr T
 | cW b T d hd=>exact .cW b T d hd
 | dn b T blk n d hd h=>exact .dn b T blk n d hd h
 | ptr b off blk n d hd h=>exact .ptr b off blk n d hd h
 | xe τ y cs blk off wI h hc=>exact .xe τ y cs blk off (hs _ wI) (h.mono V5) hc
 | uQ b qJ e idx off blk o hb h=>exact .uQ b qJ e idx off blk o hb h
 | ms b qJ e off len cap a hb vJ ha nN h=>exact .ms b qJ e off len cap a hb vJ ha nN h
 | xk f l vs hl h ih=>exact .xk f l vs hl ih
 | agg l vs hl ho h ih=>exact .agg l vs hl ho ih
 | gz l vs hl h ih=>exact .gz l vs hl ih
 | iface t d v h ih=>exact .iface t d v ih
theorem RD.free{κ':KS}(hw:κ'.w=κ.w)(wI:κ'.ok=κ.ok)(xR:κ.st=[]){d:D}{v:Value}(h:RD κ d v):RD κ' d v:=by
 obtain⟨w',W9,ph',zx⟩:=κ'
 subst hw wI
 induction h with
 | zC τ y cs h=>exact .zC τ y cs h
 | xw e a=>exact .xw e a
 | tight e l ne blk off f uh wI h hc=>exact .tight e l ne blk off f uh wI h hc
 | xE=>exact .xE
 | yL=>exact .yL
 | xh=>exact .xh
 | uq=>exact .uq
 | uo=>exact .uo
 | tA v h=>exact .tA v h
 | dr T=>exact .dr T
 | cW b T d hd=>grind
 | dn b T blk n d hd h=>grind
 | ptr b off blk n d hd h=>grind
 | xe τ y cs blk off wI h hc=>exact .xe τ y cs blk off wI h hc
 | uQ b qJ e idx off blk o hb h=>rcases hb with hb | ⟨_,_,_,hb,_⟩ <;> · rw[xR]at hb; simp at hb
 | ms b qJ e off len cap a hb vJ ha nN h=>rcases hb with hb | ⟨_,_,_,hb,_⟩ <;> · rw[xR]at hb; simp at hb
 | xk f l vs hl h ih=>exact .xk f l vs hl ih
 | agg l vs hl ho h ih=>exact .agg l vs hl ho ih
 | gz l vs hl h ih=>exact .gz l vs hl ih
 | iface t d v h ih=>exact .iface t d v ih
theorem Rc.scalar{w w':World}{ok W9:Nat->Prop}{τ:Ty}{x:den τ}{cs:List Value}(h:Rc w ok τ x cs)(ht:τ.scalar=true):Rc w' W9 τ x cs:=by
 induction h with
 | int k n=>exact .int k n
 | bool b=>exact .bool b
 | str s=>exact .str s
 | lj=>cases ht
 | sl=>cases ht
 | nil=>exact .nil
 | cons a b x y c1 c2 h1 h2 i1 i2=>simp only[Ty.scalar,Bool.and_eq_true]at ht; exact .cons a b x y c1 c2 (i1 ht.1) (i2 ht.2)
 | expr=>cases ht
theorem z6D{e:Ty}{ys:List (den e)}{v:Value}(h:Src κ e ys v):Rc κ.w (P3 κ) (.sl e) ys [v]:=by
 obtain⟨a,cap,f,rfl,vJ,hn,h1,h2⟩:=h.ex
 cases a with
 | none=>obtain⟨rfl,rfl⟩:=hn rfl; exact .lj e none
 | some p =>
  rcases h2 p rfl with⟨rfl,rfl⟩ | ⟨hp,wI,hc⟩
  ·exact .lj e _
  obtain⟨blk,o,sp⟩:=p
  subst hp
  exact .sl e ys blk o cap f wI vJ (λi hi=>(h1 i hi).mono λk hk=>⟨.inl hk,rfl⟩) hc
def KS.all(κ:KS):KS:={ κ with ok:=P3 κ }
theorem RD.all{d:D}{v:Value}(h:RD κ d v):RD κ.all d v:=h.weaken λ_ hk=>.inl hk
theorem qM.all{l:List D}{vs:List Value}(h:qM κ l vs):qM κ.all l vs:=⟨h.1,λi h1 h2=>(h.2 i h1 h2).all⟩
theorem Yz{x y:D}{v:Value}(hI:Inv κ)(hx:RD κ x v)(h:(nY κ.st x).leads y):RD κ.all y v/\(x.one=true->y.one=true)/\(x.jf=false->y.jf=false):=by
 rcases Zh hI hx h with⟨rfl,_⟩ | ⟨e,ys,rfl,hs,_⟩
 ·exact⟨hx.all,id,id⟩
 ·exact⟨RD.nw rfl (z6D hs),λ_=>rfl,λ_=>rfl⟩
theorem Yu(hI:Inv κ):∀ {l r:List D} {vs:List Value},qM κ l vs->(∀ d∈l,d.one=true)->(Yk κ.st l).leads r->qM κ.all r vs/\∀ d∈r,d.one=true
 | [],r,vs,h,_,hs=>by cases hs; rw[h.ql]; exact⟨.nil,nofun⟩
 | d::l,r,vs,h,ho,hs=>by
  simp only[Yk,T.zM]at hs
  obtain⟨x,hx,l',hl,rfl⟩:=hs
  obtain⟨v,us,rfl,h1,h2⟩:=h.cons_inv
  obtain⟨g1,g2,_⟩:=Yz hI h1 hx
  obtain⟨k1,k2⟩:=Yu hI h2 (λd hd=>ho d (List.mem_cons_of_mem _ hd)) hl
  refine⟨.cons g1 k1,λd hd => ?_⟩
  grind
theorem z0p{x y:D}{v:Value}(hI:Inv κ)(hx:RD κ x v)(h:(snap κ.st x).leads y):RD κ.all y v:=by
 cases x with
 | agg l =>
  simp only[snap,T.zM]at h
  obtain⟨r,hr,rfl⟩:=h
  cases hx with
  | agg _ vs hl ho hh =>
   obtain⟨g1,g2⟩:=Yu hI (⟨hl,hh⟩:qM κ l vs) ho hr
   exact .agg r vs g1.1 g2 g1.2
 | _=>exact(Yz hI hx h).1
theorem X4{τ:Ty}{d:D}{x:den τ}{v:Value}(hI:Inv κ)(hd:RD κ d v)(h:(Q3 κ.st τ d).leads x):RD κ.all (.zC τ x) v:=by
 simp only[Q3,T.zM,T.uA]at h
 obtain⟨y,h1,h2⟩:=h
 exact cQ (z0p hI hd h1) h2
theorem Yr{x y:D}(h:(nY [] x).leads y):y=x:=by
 cases x with
 | ms=>simp[nY,T.leads]at h
 | _=>exact h.symm
theorem G3:∀ {l r:List D},(Yk [] l).leads r->r=l
 | [],_,h=>h.symm
 | d::l,r,h=>by
  simp only[Yk,T.zM]at h
  obtain⟨x,hx,l',hl,rfl⟩:=h
  rw[Yr hx,G3 hl]
theorem SW{x y:D}(h:(snap [] x).leads y):y=x:=by
 cases x with
 | agg l =>
  simp only[snap,T.zM]at h
  obtain⟨r,hr,rfl⟩:=h
  rw[G3 hr]
 | _=>exact Yr h
theorem DD{τ:Ty}{d:D}{x:den τ}{v:Value}(hd:RD κ d v)(h:(Q3 [] τ d).leads x):RD κ (.zC τ x) v:=by
 simp only[Q3,T.zM,T.uA]at h
 obtain⟨y,h1,h2⟩:=h
 rw[SW h1]at h2
 exact cQ hd h2
def Wt:D->Bool | .zC .. | .xe .. => true | _=>false
def M9:D->Bool
 | .xk _ l=>l.all Wt
 | d=>Wt d
theorem z2K{d:D}(h:Wt d=true):M9 d=true:=by cases d<;>first | exact h | cases h
theorem VZ{st:St}{τ:Ty}{d y:D}(h:(nS st τ d).leads y):Wt y=true:=by
 unfold nS at h
 split at h
 ·split at h
  ·cases h; rfl
  ·exact h.elim
 ·split at h
  ·split at h
   ·cases h; rfl
   ·exact h.elim
  ·exact h.elim
 ·exact h.elim
theorem Yv{τ:Ty}{d y:D}{v:Value}(hI:Inv κ)(hd:RD κ d v)(h:(nS κ.st τ d).leads y):RD κ.all y v:=by
 unfold nS at h
 split at h
 ·split at h
  ·rename_i x z hz
   cases h
   obtain⟨e,rfl⟩:=qx hz
   cases e
   exact hd.all
  ·exact h.elim
 ·rename_i b off
  split at h
  ·rename_i d' hb
   split at h
   ·rename_i z hz
    cases h
    cases ho:Nat.beq off 0 with
    | false=>grind
    | true =>
     have:=Nat.eq_of_beq_eq_true ho
     subst this
     obtain⟨blk,n,cs,t,g1,g2,g3,g4,g5⟩:=hI.blk b _ hb
     cases hd with
     | ptr _ _ lN n' d1 EF hp =>
      rw[g1]at hp
      cases hp
      have wI:P3 κ blk:=.inr ⟨b,n,g1⟩
      have ht:d'.jf=false:=by
       cases d' with
       | gz l=>simp[fk,D.jf]at hz
       | _=>rfl
      have E7:=rA hz g4 g5.1 ht
      refine .xe τ z cs.toList blk 0 wI (E7.mono λk hk=>⟨.inl hk,rfl⟩) λj v hj => ?_
      show κ.w.cell? _=_
      rw[sL g2,Nat.zero_add]
      grind
   ·exact h.elim
  ·exact h.elim
 ·exact h.elim
theorem Ga{τ:Ty}{d y:D}{v:Value}(hd:RD κ d v)(h:(nS [] τ d).leads y):RD κ y v:=by
 unfold nS at h
 split at h
 ·split at h
  ·rename_i x z hz
   cases h
   obtain⟨e,rfl⟩:=qx hz
   grind
  ·exact h.elim
 ·rename_i b off
  split at h
  ·grind
  ·exact h.elim
 ·exact h.elim
theorem Ca{st:St}{p:Xw}{d y:D}(h:(ru st p d).leads y):Wt y=true:=by
 cases p with
 | rp τ=>exact VZ h
 | im τ=>simp only[ru,T.zM]at h; obtain⟨x,_,rfl⟩:=h; rfl
theorem EK{p:Xw}{d y:D}{v:Value}(hI:Inv κ)(hd:RD κ d v)(h:(ru κ.st p d).leads y):RD κ.all y v:=by
 cases p with
 | rp τ=>exact Yv hI hd h
 | im τ=>simp only[ru,T.zM]at h; obtain⟨x,hx,rfl⟩:=h; exact X4 hI hd hx
theorem Ik{p:Xw}{d y:D}{v:Value}(hd:RD κ d v)(h:(ru [] p d).leads y):RD κ y v:=by
 cases p with
 | rp τ=>exact Ga hd h
 | im τ=>simp only[ru,T.zM]at h; obtain⟨x,hx,rfl⟩:=h; exact DD hd hx
theorem X6{st:St}:∀ {ps:List Xw} {ds r:List D},(cR st ps ds).leads r->∀ d∈r,Wt d=true
 | [],[],r,hs=>by cases hs; nofun
 | p::ps,d::ds,r,hs=>by
  simp only[cR,T.zM]at hs
  obtain⟨x,hx,l,hl,rfl⟩:=hs
  intro d' yq
  rcases List.mem_cons.1 yq with rfl | yq
  ·exact Ca hx
  ·exact X6 hl d' yq
 | [],_::_,_,hs=>hs.elim
 | _::_,[],_,hs=>hs.elim
theorem Wy(hI:Inv κ):∀ {ps:List Xw} {ds r:List D} {vs:List Value},qM κ ds vs->(cR κ.st ps ds).leads r->qM κ.all r vs
 | [],[],r,vs,h,hs=>by cases hs; rw[h.ql]; exact .nil
 | p::ps,d::ds,r,vs,h,hs=>by
  simp only[cR,T.zM]at hs
  obtain⟨x,hx,l,hl,rfl⟩:=hs
  obtain⟨v,us,rfl,h1,h2⟩:=h.cons_inv
  exact .cons (EK hI h1 hx) (Wy hI h2 hl)
 | [],_::_,_,_,_,hs=>hs.elim
 | _::_,[],_,_,_,hs=>hs.elim
theorem W6:∀ {ps:List Xw} {ds r:List D} {vs:List Value},qM κ ds vs->(cR [] ps ds).leads r->qM κ r vs
 | [],[],r,vs,h,hs=>by cases hs; rw[h.ql]; exact .nil
 | p::ps,d::ds,r,vs,h,hs=>by
  simp only[cR,T.zM]at hs
  obtain⟨x,hx,l,hl,rfl⟩:=hs
  obtain⟨v,us,rfl,h1,h2⟩:=h.cons_inv
  exact .cons (Ik h1 hx) (W6 h2 hl)
 | [],_::_,_,_,_,hs=>hs.elim
 | _::_,[],_,_,_,hs=>hs.elim
theorem Zn{st:St}{p:ZH}{d y:D}(h:(Cq st p d).leads y):(∃ τ x,p=.ty τ/\(Q3 st τ d).leads x/\y=.zC τ x)\/(∃ τ,p=.rp τ/\(nS st τ d).leads y) \/
  ∃ f caps l l',p=.xk f caps/\d=.xk f l/\(cR st caps l).leads l'/\y=.xk f l':=by
 cases p with
 | ty τ =>
  have h':((Q3 st τ d).bind λx=>T.ret (D.zC τ x)).leads y:=by cases d<;>exact h
  simp only[T.zM]at h'
  obtain⟨x,hx,rfl⟩:=h'
  grind
 | rp τ=>exact .inr (.inl ⟨τ,rfl,by cases d<;>exact h⟩)
 | xk f caps =>
  cases d with
  | xk f' l =>
   simp only[Cq]at h
   cases hb:Nat.beq f f' with
   | false=>rw[hb]at h; exact h.elim
   | true =>
    rw[hb,cond_true,T.zM]at h
    obtain⟨l',hl,rfl⟩:=h
    have:=Nat.eq_of_beq_eq_true hb
    grind
  | _=>exact h.elim
theorem OI{st:St}{p:ZH}{d y:D}(h:(Cq st p d).leads y):M9 y=true:=by
 rcases Zn h with⟨τ,x,_,_,rfl⟩ | ⟨τ,_,h⟩ | ⟨f,caps,l,l',_,_,h',rfl⟩
 ·rfl
 ·exact z2K (VZ h)
 ·exact List.all_eq_true.2 (X6 h')
theorem z02{p:ZH}{d y:D}{v:Value}(hI:Inv κ)(hd:RD κ d v)(h:(Cq κ.st p d).leads y):RD κ.all y v:=by
 rcases Zn h with⟨τ,x,_,hx,rfl⟩ | ⟨τ,_,h⟩ | ⟨f,caps,l,l',_,rfl,h',rfl⟩
 ·exact X4 hI hd hx
 ·exact Yv hI hd h
 ·cases hd with
  | xk _ _ vs hl hh =>
   have:=Wy hI (⟨hl,hh⟩:qM κ l vs) h'
   exact .xk f l' vs this.1 this.2
theorem Rt{p:ZH}{d y:D}{v:Value}(hd:RD κ d v)(h:(Cq [] p d).leads y):RD κ y v:=by
 rcases Zn h with⟨τ,x,_,hx,rfl⟩ | ⟨τ,_,h⟩ | ⟨f,caps,l,l',_,rfl,h',rfl⟩
 ·exact DD hd hx
 ·exact Ga hd h
 ·cases hd with
  | xk _ _ vs hl hh =>
   have:=W6 (⟨hl,hh⟩:qM κ l vs) h'
   exact .xk f l' vs this.1 this.2
theorem Z0{st:St}:∀ {ps:List ZH} {ds r:List D},(o7 st ps ds).leads r->∀ d∈r,M9 d=true
 | [],[],r,hs=>by cases hs; nofun
 | p::ps,d::ds,r,hs=>by
  simp only[o7,T.zM]at hs
  obtain⟨x,hx,l,hl,rfl⟩:=hs
  intro d' yq
  rcases List.mem_cons.1 yq with rfl | yq
  ·exact OI hx
  ·exact Z0 hl d' yq
 | [],_::_,_,hs=>hs.elim
 | _::_,[],_,hs=>hs.elim
theorem Y7(hI:Inv κ):∀ {ps:List ZH} {ds r:List D} {vs:List Value},qM κ ds vs->(o7 κ.st ps ds).leads r->qM κ.all r vs
 | [],[],r,vs,h,hs=>by cases hs; rw[h.ql]; exact .nil
 | p::ps,d::ds,r,vs,h,hs=>by
  simp only[o7,T.zM]at hs
  obtain⟨x,hx,l,hl,rfl⟩:=hs
  obtain⟨v,us,rfl,h1,h2⟩:=h.cons_inv
  exact .cons (z02 hI h1 hx) (Y7 hI h2 hl)
 | [],_::_,_,_,_,hs=>hs.elim
 | _::_,[],_,_,_,hs=>hs.elim
theorem W4:∀ {ps:List ZH} {ds r:List D} {vs:List Value},qM κ ds vs->(o7 [] ps ds).leads r->qM κ r vs
 | [],[],r,vs,h,hs=>by cases hs; rw[h.ql]; exact .nil
 | p::ps,d::ds,r,vs,h,hs=>by
  simp only[o7,T.zM]at hs
  obtain⟨x,hx,l,hl,rfl⟩:=hs
  obtain⟨v,us,rfl,h1,h2⟩:=h.cons_inv
  exact .cons (Rt h1 hx) (W4 h2 hl)
 | [],_::_,_,_,hs,h=>h.elim
 | _::_,[],_,_,hs,h=>h.elim
def KS.bare(κ:KS)(ok:Nat->Prop):KS:=⟨κ.w,ok,[],[]⟩
theorem Ub{ok:Nat->Prop}(hI:Inv κ)(hs:∀ k,κ.ok k->ok k)(h:∀ k,ok k->k<κ.w.heap.size):Inv (κ.bare ok) :=
 ⟨rfl,h,λb blk n h=>by simp[KS.bare]at h,λb b' blk n n' h=>by nofun,λb x h=>by simp[KS.bare]at h,hI.gl.mono λk hk=>⟨hs k hk,rfl⟩⟩
theorem n7{ok:Nat->Prop}{d:D}{v:Value}(hi:Wt d=true)(h:RD { κ with ok:=ok } d v):RD (κ.bare ok) d v:=by
 cases d with
 | zC τ x=>obtain⟨cs,h1,rfl⟩:=RD.hM h; exact .zC τ x cs h1
 | xe τ x=>cases h with | xe _ _ cs blk off wI h hc=>exact .xe τ x cs blk off wI h hc
 | _=>cases hi
theorem YI{ok:Nat->Prop}{d:D}{v:Value}(hi:M9 d=true)(h:RD { κ with ok:=ok } d v):RD (κ.bare ok) d v:=by
 cases d with
 | xk f l =>
  cases h with
  | xk _ _ vs hl hh=>exact .xk f l vs hl λi h1 h2=>n7 (List.all_eq_true.1 hi _ (List.getElem_mem h1)) (hh i h1 h2)
 | zC τ x=>exact n7 hi h
 | xe τ x=>exact n7 hi h
 | _=>cases hi
theorem Dg{κ1:KS}{ok:Nat->Prop}(hI:Inv κ)(Xj:Inv κ1)(xR:κ1.st=[])(hx:Ext (κ.bare ok) κ1)(W9:Nat->Prop)(h1:∀ k,κ.ok k->W9 k)(h2:∀ k,W9 k->κ.ok k\/κ.w.heap.size<=k)(h3:∀ k,W9 k->k<κ1.w.heap.size) :
  Ext κ { κ with w:=κ1.w,ok:=W9 }/\Inv { κ with w:=κ1.w,ok:=W9 }:=by
 have hfr:∀ k,k<κ.w.heap.size->κ1.w.heap[k]? = κ.w.heap[k]? := λk hk=>hx.frame k hk λb n h=>by simp[KS.bare]at h
 have jv:κ.w.heap.size<=κ1.w.heap.size:=hx.size
 have he:Ext κ { κ with w:=κ1.w,ok:=W9 }:=⟨hx.os,hx.tape,hx.output,jv,λk hk=>⟨h1 k hk,hfr k (hI.gm k hk)⟩,λk hk=>(h2 k hk).elim .inl (λh=>.inr (.inl h)),λ_ _ _ h=>.inl h,λb d h=>⟨⟨d,h⟩,rfl⟩,
  λb v0 e xs h=>.inr ⟨v0,xs,h,Nat.le_refl _,λ_=>⟨rfl,rfl⟩⟩,λ_ h=>h,Nat.le_refl _,λk hk _=>hfr k hk⟩
 refine⟨he,hI.len,h3,λb blk n h => ?_,hI.inj,λb x h=>(hI.blk b x h).mono he rfl λblk n h=>hfr _ (hI.apart b blk n h).1,hI.gl.mono he.same⟩
 obtain⟨g1,g2⟩:=hI.apart b blk n h
 grind
theorem OX{g:Nat}{args:List D}{zJ:List Value}{d:Option D}{zx:St}(hs:Bu c.P g (c.fn g))(hI:Inv κ)(ha:qM κ args zJ)
  (h:(zR (match c.sig g args with | some s=>bz c g s args | none=>sY c g args) κ.st).leads (d,zx)) :
  j6 c.P g zJ.toArray κ.w λe w'=>∃ (κ':KS) (v:Value),κ'.w=w'/\κ'.st=zx/\Inv κ'/\Ext κ κ'/\e=.returned v/\∀ d',d=some d'->RD κ' d' v:=by
 split at h
 ·rename_i s O7
  unfold bz at h
  cases hm:(!(args.any Jr))with
  | true =>
   rw[hm,cond_true,vC]at h
   obtain⟨h,rfl⟩:=h
   simp only[T.zM]at h
   obtain⟨l,hl,⟨rs,b9⟩,hc,hr⟩:=h
   have cg:=W4 ha hl
   have hb:qM (κ.bare κ.ok) l zJ:=⟨cg.1,λi h1 h2=>YI (Z0 hl _ (List.getElem_mem h1)) (cg.2 i h1 h2)⟩
   refine(hs (κ.bare κ.ok) l zJ rs b9 hc (Ub hI (λ_ h=>h) hI.gm) hb).mono ?_
   rintro e w' ⟨κ1,rfl,xR,Xj,hx,he⟩
   unfold S0 at hr
   split at hr
   ·rename_i ds heq
    cases heq
    cases hr
    obtain⟨v,rfl,hv⟩:=he
    obtain⟨hE,hI'⟩:=Dg hI Xj xR hx κ1.ok (λk hk=>(hx.same k hk).1) (λk hk=>by
     rcases hx.fresh k hk with h | h | ⟨b,n,h⟩
     ·exact .inl h
     ·exact .inr h
     ·simp[KS.bare]at h) Xj.gm
    exact⟨{ κ with w:=κ1.w,ok:=κ1.ok },v,rfl,rfl,hI',hE,rfl,λd' yq=>by cases yq; exact RD.free (κ:=κ1) (κ':={ κ with w:=κ1.w,ok:=κ1.ok }) rfl rfl xR hv⟩
   ·exact hr.elim
  | false =>
   rw[hm,cond_false,mf]at h
   obtain⟨h,rfl⟩:=h
   simp only[T.zM]at h
   obtain⟨l,hl,⟨rs,b9⟩,hc,hr⟩:=h
   have cg:=Y7 hI ha hl
   have hb:qM (κ.bare (P3 κ)) l zJ:=⟨cg.1,λi h1 h2=>YI (Z0 hl _ (List.getElem_mem h1)) (cg.2 i h1 h2)⟩
   have qD:∀ k,P3 κ k->k<κ.w.heap.size:=by
    rintro k (hk | ⟨b,n,hk⟩)
    ·exact hI.gm k hk
    ·exact(hI.apart b k n hk).1
   refine(hs (κ.bare (P3 κ)) l zJ rs b9 hc (Ub hI (λ_ h=>.inl h) qD) hb).mono ?_
   rintro e w' ⟨κ1,rfl,xR,Xj,hx,he⟩
   unfold sM at hr
   split at hr
   ·rename_i ds heq
    cases heq
    cases oJ:ds.all s7 with
    | false=>rw[oJ]at hr; exact hr.elim
    | true =>
     rw[oJ,cond_true]at hr
     cases hr
     obtain⟨v,rfl,hv⟩:=he
     obtain⟨hE,hI'⟩:=Dg hI Xj xR hx κ.ok (λk hk=>hk) (λk hk=>.inl hk) (λk hk=>Nat.lt_of_lt_of_le (hI.gm k hk) hx.size)
     refine⟨{ κ with w:=κ1.w,ok:=κ.ok },v,rfl,rfl,hI',hE,rfl,λd' yq => ?_⟩
     cases yq
     have one:∀ d u,s7 d=true->RD κ1 d u->RD { κ with w:=κ1.w,ok:=κ.ok } d u:=by
      intro d u hd hu
      cases d<;>simp[s7]at hd
      obtain⟨cs,h1,rfl⟩:=RD.hM hu
      exact .zC _ _ cs (h1.scalar hd)
     have nO:=List.all_eq_true.1 oJ
     unfold yS at hv ⊢
     split at hv
     ·exact one _ _ (nO _ (by simp)) hv
     ·rename_i uh
      cases hv with
      | gz _ vs hl hh=>exact .gz ds vs hl λi h1 h2=>one _ _ (nO _ (List.getElem_mem h1)) (hh i h1 h2)
   ·exact hr.elim
 ·unfold sY at h
  simp only[zR,T.zM]at h
  obtain⟨⟨rs,b9⟩,hc,hr⟩:=h
  refine(hs κ args zJ rs b9 hc hI ha).mono ?_
  rintro e w' ⟨κ1,rfl,xR,Xj,hx,he⟩
  cases rs with
  | ye p=>exact hr.elim
  | ret ds =>
   cases hr
   obtain⟨v,rfl,hv⟩:=he
   exact⟨κ1,v,rfl,xR,Xj,hx,rfl,λd' yq=>by cases yq; exact hv⟩
end
end Go.AM