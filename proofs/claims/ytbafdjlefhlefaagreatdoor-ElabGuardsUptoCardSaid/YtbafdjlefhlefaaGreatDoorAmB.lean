/-
  The abstract machine, part B: texts of our own, the same for each claim.
-/
import Derived.Test.YtbafdjlefhlefaaGreatDoorAmA
import Derived.Lib.AppendStr
import Derived.WideLaws
import Derived.Laws.BytesArg
import Derived.Laws.CopyRow
import Derived.Laws.IdiomCopy
set_option linter.unusedVariables false
namespace Go.AM
set_option linter.unusedSectionVars false
variable [uz]
section
variable {c:Ctx} {κ κ':KS}
theorem iH.mono(x:Ext κ κ'){b:Nat}(hp:κ'.ph[b]? = κ.ph[b]?)(hh:∀ blk n,κ.ph[b]? = some (some (blk,n))→κ'.w.heap[blk]? = κ.w.heap[blk]?){y:yd}(h:iH κ b y):iH κ' b y:=by
 cases y with
 | dead=>trivial
 | var d =>
  obtain⟨blk,n,cs,t,h1,h2,h3,h4,h5⟩:=h
  exact⟨blk,n,cs,t,hp.trans h1,(hh blk n h1).trans h2,h3,h4.mono x,h5⟩
 | arr qR e xs =>
  obtain⟨h0,h⟩:=h
  refine⟨h0,bW h (fun h=>⟨h.1,hp.trans h.2⟩) ?_⟩
  rintro⟨blk,n,cs,t,h1,h2,h3,h4,hr,f,h5⟩
  exact⟨blk,n,cs,t,hp.trans h1,(hh blk n h1).trans h2,h3,h4,hr,f,fun i hi=>⟨(h5 i hi).1.mono x.same,(h5 i hi).2⟩⟩
def KS.zW(κ:KS)(w':World):KS:={ κ with w:=w',ok:=fun k=>κ.ok k∨k=κ.w.heap.size }
structure il(w w':World)(o:Obj):Prop where
 os:w'.os=w.os
 tape:w'.tape=w.tape
 output:w'.output=w.output
 heap:w'.heap=w.heap.push o
theorem il.size{w w':World}{o:Obj}(g:il w w' o):w'.heap.size=w.heap.size+1:=by rw[g.heap]; simp
theorem il.old{w w':World}{o:Obj}(g:il w w' o){k:Nat}(h:k<w.heap.size):w'.heap[k]? = w.heap[k]? := by
 rw[g.heap,Array.getElem?_push,if_neg (by omega)]
theorem il.new{w w':World}{o:Obj}(g:il w w' o):w'.heap[w.heap.size]? = some o:=by rw[g.heap]; simp
theorem il.alloc(w:World)(o:Obj):il w (w.alloc o) o:=⟨rfl,rfl,rfl,rfl⟩
theorem il.drew(w:World)(o:Obj):il w (w.drew.alloc o) o:=⟨rfl,rfl,rfl,rfl⟩
theorem U5{w':World}{o:Obj}(hI:Inv κ)(g:il κ.w w' o):Ext κ (κ.zW w'):=by
 refine⟨g.os,g.tape,g.output,by show κ.w.heap.size≤w'.heap.size; rw[g.size]; omega,fun k hk=>⟨.inl hk,g.old (hI.y5 k hk)⟩,?_,fun _ _ _ h=>.inl h,fun b d h=>⟨⟨d,h⟩,rfl⟩,
  fun b v0 e xs h=>.inr ⟨v0,xs,h,Nat.le_refl _,fun _=>⟨rfl,rfl⟩⟩,fun _ h=>h,Nat.le_refl _,fun k hk _=>g.old hk⟩
 rintro k (hk | hk)
 ·exact .inl hk
 ·exact .inr (.inl (by omega))
theorem b7{w':World}{o:Obj}(hI:Inv κ)(g:il κ.w w' o):Inv (κ.zW w'):=by
 refine⟨hI.len,?_,?_,hI.inj,?_,hI.gl.mono (U5 hI g).same⟩
 ·rintro k (hk | hk)
  ·have:=hI.y5 k hk; show k<w'.heap.size; rw[g.size]; omega
  ·show k<w'.heap.size; rw[g.size]; omega
 ·intro b blk n h
  obtain⟨h1,h2⟩:=hI.apart b blk n h
  refine⟨by show blk<w'.heap.size; rw[g.size]; omega,?_⟩
  rintro(hk | hk)
  ·exact h2 hk
  ·omega
 ·intro b x hx
  exact(hI.blk b x hx).mono (U5 hI g) rfl fun blk n h=>g.old (hI.apart b blk n h).1
def KS.add(κ:KS)(w':World)(n:Nat)(x:yd):KS:={ κ with w:=w',ph:=κ.ph++[some (κ.w.heap.size,n)],st:=κ.st++[x] }
theorem sN{w':World}{o:Obj}{n:Nat}{x:yd}(hI:Inv κ)(g:il κ.w w' o):Ext κ (κ.add w' n x):=by
 have xN:∀ b y,κ.st[b]? = some y→(κ.st++[x])[b]? = some y:=fun b y h=>by rw[List.getElem?_append_left (List.getElem?_eq_some_iff.1 h).1]; exact h
 have V8:∀ b y,κ.st[b]? = some y→(κ.ph++[some (κ.w.heap.size,n)])[b]? = κ.ph[b]? := fun b y h=>by
  rw[List.getElem?_append_left]; rw[hI.len]; exact(List.getElem?_eq_some_iff.1 h).1
 refine⟨g.os,g.tape,g.output,by show κ.w.heap.size≤w'.heap.size; rw[g.size]; omega,fun k hk=>⟨hk,g.old (hI.y5 k hk)⟩,fun k hk=>.inl hk,?_,fun b d h=>⟨⟨d,xN b _ h⟩,V8 b _ h⟩,
  fun b v0 e xs h=>.inr ⟨v0,xs,xN b _ h,Nat.le_refl _,fun _=>⟨V8 b _ h,rfl⟩⟩,fun b h=>xN b _ h,by simp[KS.add],fun k hk _=>g.old hk⟩
 intro b blk m h
 simp only[KS.add]at h
 by_cases hb:b<κ.ph.length
 ·rw[List.getElem?_append_left hb]at h; exact .inl h
 ·rw[List.getElem?_append_right (by omega)]at h
  have:=List.mem_of_getElem? h
  simp at this
  exact .inr (by omega)
theorem sk(hI:Inv κ){w':World}{n:Nat}{x:yd}:(κ.add w' n x).ph[κ.st.length]? = some (some (κ.w.heap.size,n)):=by
 simp[KS.add,← hI.len]
theorem ZC{w':World}{n:Nat}{x:yd}:(κ.add w' n x).st[κ.st.length]? = some x:=by simp[KS.add]
theorem Ud{w':World}{o:Obj}{n:Nat}{x:yd}(hI:Inv κ)(g:il κ.w w' o)(hx:iH (κ.add w' n x) κ.st.length x):Inv (κ.add w' n x):=by
 have hold:∀ (b blk m:Nat),(κ.ph++[some (κ.w.heap.size,n)])[b]? = some (some (blk,m))→κ.ph[b]? = some (some (blk,m))∨(b=κ.ph.length∧blk=κ.w.heap.size):=by
  intro b blk m h
  by_cases hb:b<κ.ph.length
  ·rw[List.getElem?_append_left hb]at h; exact .inl h
  ·have Zm:=(List.getElem?_eq_some_iff.1 h).1
   simp at Zm
   have:b=κ.ph.length:=by omega
   subst this
   simp at h
   exact .inr ⟨rfl,h.1.symm⟩
 refine⟨by simp[KS.add,hI.len],?_,?_,?_,?_,hI.gl.mono (sN hI g).same⟩
 ·intro k hk; have:=hI.y5 k hk; show k<w'.heap.size; rw[g.size]; omega
 ·intro b blk m h
  rcases hold b blk m h with h | ⟨rfl,rfl⟩
  ·obtain⟨h1,h2⟩:=hI.apart b blk m h
   exact⟨by show blk<w'.heap.size; rw[g.size]; omega,h2⟩
  ·exact⟨by show κ.w.heap.size<w'.heap.size; rw[g.size]; omega,fun hk=>absurd (hI.y5 _ hk) (Nat.lt_irrefl _)⟩
 ·intro b b' blk m m' h h'
  rcases hold b blk m h with h | ⟨rfl,rfl⟩<;>rcases hold b' _ m' h' with h' | ⟨rfl,h''⟩
  ·exact hI.inj b b' blk m m' h h'
  ·have:=(hI.apart b blk m h).1; omega
  ·have:=(hI.apart b' _ m' h').1; omega
  ·rfl
 ·intro b y hy
  simp only[KS.add]at hy
  by_cases hb:b<κ.st.length
  ·rw[List.getElem?_append_left hb]at hy
   refine(hI.blk b y hy).mono (sN hI g) ?_ fun blk m h=>g.old (hI.apart b blk m h).1
   simp only[KS.add]
   rw[List.getElem?_append_left (by rw[hI.len]; exact hb)]
  ·have Zm:=(List.getElem?_eq_some_iff.1 hy).1
   simp at Zm
   have:b=κ.st.length:=by omega
   subst this
   simp at hy
   subst hy
   exact hx
theorem Iw{d:D}{v:Value}{t:TypeId}(hI:Inv κ)(hd:RD κ d v)(ht:d.uy=false)(LL:∀ T,d.typed=some T→t=T) :
  ∃ κ':KS,κ'.w=κ.w.alloc (.cells v.cells t)∧κ'.st=κ.st++[.var d]∧Inv κ'∧Ext κ κ'∧RD κ' (.ptr κ.st.length 0) (.pointer (some ⟨κ.w.heap.size,0,none⟩)):=by
 have g:=il.alloc κ.w (.cells v.cells t)
 have hx:=sN (n:=v.cells.size) (x:=.var d) hI g
 refine⟨κ.add _ v.cells.size (.var d),rfl,rfl,Ud hI g ?_,hx,.ptr _ 0 _ v.cells.size d ZC (sk hI)⟩
 exact⟨κ.w.heap.size,v.cells.size,v.cells,t,sk hI,g.new,rfl,(jq hd ht).mono hx,jm hd,LL⟩
theorem SA{t:Nat}{x:Option D}{v:Value}{d:Option D}{zL:St}(hI:Inv κ)(hx:∀ z,x=some z→RD κ z v)
  (h:(zU (Sj x) κ.st).leads (d,zL)) :
  qY c.P (do Pure.pure (.value (← Instr.box t v))) κ d zL:=by
 cases x with
 | none=>exact absurd h zj
 | some y =>
  simp only[Sj]at h
  cases ht:y.uy||y.typed.isSome with
  | true=>rw[ht]at h; exact absurd h zj
  | false =>
   rw[ht,cond_false]at h
   simp only[Bool.or_eq_false_iff]at ht
   obtain⟨ht,LL⟩:=ht
   have zfS:∀ T,y.typed=some T→t=T:=fun T e=>by rw[e]at LL; cases LL
   simp only[zU,T.leads,Prod.mk.injEq]at h
   obtain⟨rfl,rfl⟩:=h
   obtain⟨κ',h1,h2,h3,h4,h5⟩:=Iw (t:=t) hI (hx _ rfl) ht zfS
   refine⟨κ',_,_,?_,.inl rfl,h2,h3,h4,fun _ he=>by cases he; exact h5⟩
   simp[Instr.box,newVar,newRow,h1]
theorem z6a{d:D}{τ:Ty}{x:den τ}{v:Value}{t:TypeId}(hI:Inv κ)(hd:RD κ d v)(hx:dM τ d=some x) :
  ∃ κ':KS,κ'.w=κ.w.alloc (.cells v.cells t)∧κ'.st=κ.st∧Inv κ'∧Ext κ κ'∧RD κ' (.xo τ x) (.pointer (some ⟨κ.w.heap.size,0,none⟩)):=by
 have g:=il.alloc κ.w (.cells v.cells t)
 have E5:=U5 hI g
 obtain⟨cs,h1,h2⟩:=RD.b7 (cE hd hx)
 have hc:=Xl h1.len h1.one
 rw[← h2]at hc
 have hn:(κ.w.alloc (.cells v.cells t)).heap[κ.w.heap.size]? = some (.cells v.cells t (0,0)):=g.new
 have bX:∀ j u,cs[j]? = some u→(κ.w.alloc (.cells v.cells t)).cell? ⟨κ.w.heap.size,0+j,none⟩=some u:=by
  intro j u hj
  simp only[World.cell?,hn,Nat.zero_add]
  rw[← hc]at hj
  simpa using hj
 exact⟨κ.zW _,rfl,rfl,b7 hI g,E5,.xo τ x cs κ.w.heap.size 0 (.inr rfl) (h1.mono E5.same) bX⟩
theorem Fe{t:Nat}{x:Option D}{v:Value}{d:Option D}{zL:St}(hI:Inv κ)(hx:∀ z,x=some z→RD κ z v)
  (h:(zU (RC c t x) κ.st).leads (d,zL)):qY c.P (do Pure.pure (.value (← Instr.box t v))) κ d zL:=by
 have key:∀ (y:D) (τ:Ty) (z:den τ),x=some y→dM τ y=some z→(zU (val (.xo τ z)) κ.st).leads (d,zL)→qY c.P (do Pure.pure (.value (← Instr.box t v))) κ d zL:=by
  intro y τ z hy hz h
  rw[w9]at h
  obtain⟨rfl,rfl⟩:=h
  obtain⟨κ',h1,h2,h3,h4,h5⟩:=z6a (t:=t) hI (hx y hy) hz
  refine⟨κ',_,_,?_,.inl rfl,h2,h3,h4,fun _ he=>by cases he; exact h5⟩
  simp[Instr.box,newVar,newRow,h1]
 unfold RC at h
 split at h
 ·rename_i τ z
  exact key _ τ z rfl (by simp[dM,vQ]) h
 ·split at h
  ·split at h
   ·rename_i hz
    exact key _ _ _ rfl hz h
   ·exact absurd h zj
  ·exact absurd h zj
 ·exact absurd h zj
theorem FQ{t:Nat}{dst:Option Nat}{x:Option D}{v:Value}{d:Option D}{zL:St}(hI:Inv κ)(hx:∀ z,x=some z→RD κ z v)
  (h:(zU (OG c t dst x) κ.st).leads (d,zL)):qY c.P (do Pure.pure (.value (← Instr.box t v))) κ d zL:=by
 unfold OG at h
 cases hb:z9P c dst with
 | true=>rw[hb]at h; exact Fe hI hx h
 | false=>rw[hb]at h; exact SA hI hx h
theorem sQ{v:Value}{d:D}(h:pP v=some d):RD κ d v∧d.one=true∧d.uy=false∧(∀ cs,v≠.agg cs):=by
 unfold pP at h
 split at h<;>cases h<;>refine⟨?_,rfl,rfl,fun _=>nofun⟩
 ·exact .int
 ·exact .bool
 ·rename_i s; have:=RD.str (κ:=κ) (s:=s.data.toList); simpa using this
 ·exact .xm
 ·exact .yA
 ·exact .vO
 ·exact .xX
 ·exact .vP
theorem Kf{v:Value}{d:D}(h:V5 v=some d):RD κ d v∧d.uy=false:=by
 unfold V5 at h
 split at h
 ·rename_i cs
  split at h
  ·rename_i l hl
   cases h
   have hlen:l.length=cs.toList.length:=by have:=congrArg List.length (bI hl); simpa using this.symm
   have oq:∀ x∈l,x.one=true:=by
    intro x hx
    have:some x∈cs.toList.map pP:=by rw[bI hl]; exact List.mem_map.2 ⟨x,hx,rfl⟩
    obtain⟨u,_,hu⟩:=List.mem_map.1 this
    exact(sQ (κ:=κ) hu).2.1
   have hr:=cW (κ:=κ) (vs:=cs.toList) hl (by simp) (fun i d v hd hv=>by
    simp only[List.getElem?_map,hv,Option.map_some,Option.some.injEq]at hd
    exact(sQ hd).1)
   refine⟨?_,rfl⟩
   have:=RD.agg l cs.toList hr.1 oq hr.2
   simpa using this
  ·cases h
 ·exact⟨(sQ h).1,(sQ (κ:=κ) h).2.2.1⟩
theorem Xs{v:Value}{d:D}(h:pP v=some d):(∀ l,d≠.agg l)∧(∀ T,d≠.dL T)∧∀ b T,d≠.yf b T:=by
 unfold pP at h
 split at h<;>cases h<;>exact⟨nofun,nofun,nofun⟩
theorem Du{v:Value}{d:D}(h:V5 v=some d):d.typed=none:=by
 unfold V5 at h
 split at h
 ·rename_i cs
  split at h
  ·rename_i l hl
   cases h
   have hz:=bI hl
   cases l with
   | nil=>rfl
   | cons x r =>
    have:some x∈cs.toList.map pP:=by rw[hz]; simp
    obtain⟨u,_,hu⟩:=List.mem_map.1 this
    obtain⟨_,h1,h2⟩:=Xs hu
    cases x<;>first | rfl | exact absurd rfl (h1 _) | exact absurd rfl (h2 _ _)
  ·cases h
 ·have:=(Xs h).1
  cases d<;>first | rfl | exact absurd rfl (this _)
structure ZD(t:Nat)(d:D)(z:Value):Prop where
 rd:∀ κ:KS,RD κ d z
 gB:d.uy=false
 ty:∀ T,d.typed=some T→t=T
theorem Pg{t:Nat}{d:D}{z:Value}(h:V5 z=some d):ZD t (PF c t d) z:=by
 have h0:∀ κ:KS,RD κ d z:=fun κ=>(Kf h).1
 have h1:d.uy=false:=(Kf (κ:=⟨default,fun _=>False,[],[]⟩) h).2
 have h2:=Du h
 have same:ZD t d z:=⟨h0,h1,fun T e=>by rw[h2]at e; cases e⟩
 unfold PF
 split
 ·rename_i r
  cases hs:z3W c t with
  | false=>exact same
  | true =>
   refine⟨fun κ => ?_,rfl,fun T e=>by cases e; rfl⟩
   cases h0 κ with
   | agg _ vs hl ho hh =>
    have hR:xv κ (.yA::r) vs:=⟨hl,hh⟩
    obtain⟨v,us,rfl,g1,g2⟩:=hR.cons_inv
    have hR2:xv κ (.dL t::r) (v::us):=.cons (by cases g1; exact .dL t) g2
    exact .agg _ _ hR2.1 (fun x hx=>by
     rcases List.mem_cons.1 hx with rfl | hx
     ·rfl
     ·exact ho x (List.mem_cons_of_mem _ hx)) hR2.2
 ·exact same
theorem fy{t:Nat}{d:D}(h:VA c t=some d):∃ i z,c.P.info? t=some i∧i.zero=some z∧ZD t d z:=by
 unfold VA at h
 split at h
 ·rename_i i hi
  split at h
  ·rename_i z hz
   split at h
   ·rename_i d0 Fg
    cases h
    exact⟨i,z,hi,hz,Pg Fg⟩
   ·cases h
  ·cases h
 ·cases h
theorem F3{t:Nat}{d:Option D}{zL:St}(hI:Inv κ)
  (h:(zU (oy c t) κ.st).leads (d,zL)) :
  qY c.P (do Pure.pure (.value (← Instr.alloc t true (.tuple #[])))) κ d zL:=by
 unfold oy at h
 split at h
 ·rename_i y hy
  obtain⟨i,z,h1,h2,h3⟩:=fy hy
  simp only[zU,T.leads,Prod.mk.injEq]at h
  obtain⟨rfl,rfl⟩:=h
  obtain⟨κ',g1,g2,g3,g4,g5⟩:=Iw (t:=t) hI (h3.rd κ) h3.gB h3.ty
  refine⟨κ',_,_,?_,.inl rfl,g2,g3,g4,fun _ he=>by cases he; exact g5⟩
  simp[Instr.alloc,zeroValue,typeInfo,h1,h2,newVar,newRow,g1]
 ·exact absurd h zj
end
end Go.AM
namespace Go.AM
set_option linter.unusedSectionVars false
variable [uz]
section
variable {c:Ctx} {κ:KS}
def KS.B3(κ:KS)(b blk:Nat)(cs:Array Value)(x:yd):KS:={ κ with w:=κ.w.setRow blk cs,st:=κ.st.set b x }
def Alike:yd→yd→Prop
 | .var _,.var _=>True
 | .arr v e xs,.arr v' e' xs'=>e=e'∧v≤v'∧(v=v'→xs.length=xs'.length)
 | _,_=>False
theorem nV{b blk n:Nat}{cs:Array Value}{x y:yd}(hI:Inv κ)(hp:κ.ph[b]? = some (some (blk,n)))(hy:κ.st[b]? = some y)(ha:Alike y x):Ext κ (κ.B3 b blk cs x):=by
 have qp:b<κ.st.length:=(List.getElem?_eq_some_iff.1 hy).1
 have uj:∀ k,κ.ok k→k≠blk:=fun k hk e=>(hI.apart b blk n hp).2 (e▸hk)
 refine⟨rfl,rfl,rfl,by simp[KS.B3],fun k hk=>⟨hk,setRow_other _ _ _ _ (uj k hk)⟩,fun k hk=>.inl hk,fun _ _ _ h=>.inl h,?_,?_,?_,by simp[KS.B3],?_⟩
 ·intro b' d hd
  refine⟨?_,rfl⟩
  simp only[KS.B3,List.getElem?_set]
  split
  ·rename_i e
   subst e
   rw[hy]at hd; cases hd
   cases x<;>simp[Alike]at ha
   rename_i d'
   exact⟨d',rfl⟩
  ·exact⟨d,hd⟩
 ·intro b' v0 e oW hd
  refine .inr ?_
  simp only[KS.B3,List.getElem?_set]
  split
  ·rename_i e'
   subst e'
   rw[hy]at hd; cases hd
   cases x<;>simp[Alike]at ha
   rename_i v1 e1 zy
   obtain⟨rfl,h1,h2⟩:=ha
   exact⟨v1,zy,rfl,h1,fun h=>⟨trivial,h2 h⟩⟩
  ·exact⟨v0,oW,hd,Nat.le_refl _,fun _=>⟨trivial,rfl⟩⟩
 ·intro b' hd
  simp only[KS.B3,List.getElem?_set]
  split
  ·rename_i e
   subst e
   rw[hy]at hd; cases hd
   simp[Alike]at ha
  ·exact hd
 ·intro k hk hn
  exact setRow_other _ _ _ _ (fun e=>hn b n (e▸hp))
theorem QF{b blk n:Nat}{cs:Array Value}{x y:yd}(hI:Inv κ)(hp:κ.ph[b]? = some (some (blk,n)))(hy:κ.st[b]? = some y)(ha:Alike y x)
  (hx:iH (κ.B3 b blk cs x) b x):Inv (κ.B3 b blk cs x):=by
 refine⟨by simp[KS.B3,hI.len],?_,?_,hI.inj,?_,hI.gl.mono (nV hI hp hy ha).same⟩
 ·intro k hk; show k<(κ.w.setRow blk cs).heap.size; rw[setRow_size]; exact hI.y5 k hk
 ·intro b' lZ m h
  obtain⟨h1,h2⟩:=hI.apart b' lZ m h
  exact⟨by show lZ<(κ.w.setRow blk cs).heap.size; rw[setRow_size]; exact h1,h2⟩
 ·intro b' z hz
  by_cases hb:b=b'
  ·subst hb
   simp only[KS.B3,List.getElem?_set,if_pos]at hz
   split at hz
   ·cases hz; exact hx
   ·cases hz
  ·simp only[KS.B3,List.getElem?_set,if_neg hb]at hz
   refine(hI.blk b' z hz).mono (nV hI hp hy ha) rfl fun lZ m h => ?_
   refine setRow_other _ _ _ _ fun e => ?_
   subst e
   exact hb (hI.inj b b' _ n m hp h)
theorem HA{d d':D}{t:Nat}(h:o9 d d'=true)(hd:∀ T,d.typed=some T→t=T):∀ T,d'.typed=some T→t=T:=by
 intro T hT
 unfold o9 at h
 rw[hT]at h
 simp only at h
 cases Fg:d.typed with
 | none=>rw[Fg]at h; cases h
 | some T' =>
  rw[Fg]at h
  have e:=Nat.eq_of_beq_eq_true h
  exact(hd T' Fg).trans e.symm
theorem pd{t:Nat}{n blk o:Nat}{v:Value}{cs:Array Value}{T:TypeId}(hn:lL c t=some n)(hv:v.cells.toList.length=n)(h1:∀ u∈v.cells.toList,u.oneCell'=true)
  (hg:κ.w.heap[blk]? = some (.cells cs T (0,0))) (hle:o+n≤cs.size) :
  (storeVar t ⟨blk,o,none⟩ v).run c.P κ.w=.ok () (κ.w.setRow blk (cs.toList.take o++v.cells.toList++cs.toList.drop (o+n)).toArray):=by
 have hs:v.cells.size=n:=by simpa using hv
 have:=run_storeCells_at c.P blk o T v.cells.toList 0 cs κ.w hg (by simp[hs]; omega) h1
 simp only[Nat.add_zero,hv]at this
 simp[storeVar,run_sizeOf hn,hs,this]
theorem lV{l:List D}{vs us:List Value}{x:List D}(h:xv κ l vs)(hx:xv κ x us)(o n:Nat) :
  xv κ (l.take o++x++l.drop (o+n)) (vs.take o++us++vs.drop (o+n)):=((h.take o).append hx).append (h.drop (o+n))
theorem oQ{cs us:List Value}{o n:Nat}(hu:us.length=n)(ho:o+n≤cs.length)(p:Nat) :
  (cs.take o++us++cs.drop (o+n))[p]? = if p<o then cs[p]? else if p<o+n then us[p-o]? else cs[p]? := by
 have hto:(cs.take o).length=o:=by simp; omega
 by_cases h1:p<o
 ·rw[if_pos h1,List.append_assoc,List.getElem?_append_left (by omega),List.getElem?_take,if_pos h1]
 ·rw[if_neg h1,List.append_assoc,List.getElem?_append_right (by omega),hto]
  by_cases h2:p<o+n
  ·rw[if_pos h2,List.getElem?_append_left (by omega)]
  ·rw[if_neg h2,List.getElem?_append_right (by omega),List.getElem?_drop,hu]
   congr 1; omega
theorem Yu{t:Nat}{d x r:D}{off:Nat}(h:D9 c t d off x=some r):∃ n,lL c t=some n∧0<n∧(qq x).length=n∧off+n≤(qq d).length ∧
  qq r=(qq d).take off++qq x++(qq d).drop (off+n)∧((∀ y∈qq d,y.one=true)→(∀ y∈qq x,y.one=true)→∀ y∈qq r,y.one=true)∧x.uy=false:=by
 unfold D9 at h
 split at h
 ·cases h
 ·rename_i n hn
  cases hb:Nat.blt 0 n&&Nat.beq n (qq x).length&&Nat.ble (off+n) (qq d).length with
  | false=>rw[hb]at h; cases h
  | true =>
   rw[hb,cond_true]at h
   simp only[Bool.and_eq_true]at hb
   obtain⟨⟨h0,h1⟩,h2⟩:=hb
   have h0':0<n:=Nat.le_of_ble_eq_true h0
   have pJ:n=(qq x).length:=Nat.eq_of_beq_eq_true h1
   have h2':=Nat.le_of_ble_eq_true h2
   have HK:x.uy=false:=by
    cases x with
    | gB l=>simp[qq]at pJ; omega
    | _=>rfl
   cases hw:Nat.beq n (qq d).length with
   | true =>
    rw[hw,cond_true]at h
    cases h
    have h3:n=(qq d).length:=Nat.eq_of_beq_eq_true hw
    have h4:off=0:=by omega
    subst h4
    refine⟨n,hn,h0',pJ.symm,h2',?_,fun _ h=>h,HK⟩
    simp[h3]
   | false =>
    rw[hw,cond_false]at h
    cases h
    refine⟨n,hn,h0',pJ.symm,h2',rfl,fun hd hx y hy => ?_,HK⟩
    simp only[qq,List.mem_append]at hy
    rcases hy with(hy | hy) | hy
    ·exact hd y (List.mem_of_mem_take hy)
    ·exact hx y hy
    ·exact hd y (List.mem_of_mem_drop hy)
theorem sn{τ:Ty}{r:D}{x:den τ}{vs:List Value}(h:dM τ r=some x)(hr:xv κ (qq r) vs)(oq:∀ y∈qq r,y.one=true)(ht:r.uy=false):Rc κ.w κ.ok τ x vs:=by
 cases r with
 | zW σ y=>obtain⟨rfl,rfl⟩:=qz h; exact Uh _ _ hr
 | agg l =>
  have:=cE (RD.agg l vs hr.1 oq hr.2) h
  obtain⟨cs,h1,h2⟩:=RD.b7 this
  have hc:=Xl h1.len h1.one
  rw[← h2]at hc
  simp only[Value.cells]at hc
  rw[← hc]at h1
  simpa using h1
 | gB l=>cases ht
 | _ =>
  obtain⟨v,r',rfl,h1,h2⟩:=xv.cons_inv hr
  have e2:=h2.qG
  subst e2
  have h3:=cE h1 h
  obtain⟨cs,h4,h5⟩:=RD.b7 h3
  have hag:τ.isAgg=false:=by
   cases hta:τ.isAgg with
   | false=>rfl
   | true=>simp[dM,D.isAgg,hta]at h
  obtain⟨u,rfl⟩:=h4.single hag
  rw[JO hag]at h5
  rwa [h5]
theorem DP{t:Nat}{a x:Option D}{v u:Value}{d:Option D}{zL:St}(hI:Inv κ)(ha:∀ z,a=some z→RD κ z v)(hx:∀ z,x=some z→RD κ z u)
  (h:(zU (Ua c t a x) κ.st).leads (d,zL)):qY c.P (do Instr.storeAt t v u; Pure.pure .skip) κ d zL:=by
 unfold Ua at h
 split at h
 ·rename_i b off y
  simp only[zU]at h
  split at h
  ·rename_i d0 hb
   split at h
   ·rename_i r hr
    cases wg:o9 d0 r with
    | false=>rw[wg]at h; exact h.elim
    | true =>
    rw[wg,cond_true]at h
    simp only[T.leads,Prod.mk.injEq]at h
    obtain⟨rfl,rfl⟩:=h
    obtain⟨n,hn,h0,XU,hle,BF,oq,HK⟩:=Yu hr
    cases ha _ rfl with
    | ptr _ _ blk m d1 hd hp =>
     obtain⟨lZ,m',cs,T,g1,g2,g3,g4,g5⟩:=hI.blk b _ hb
     rw[hp]at g1
     cases g1
     have hy:=hx _ rfl
     have hfy:=jq hy HK
     have hvl:u.cells.toList.length=n:=by rw[← hfy.1]; exact XU
     have jk:off+n≤cs.size:=by have:=g4.1; simp at this; omega
     have h1:∀ z∈u.cells.toList,z.oneCell'=true:=by
      intro z hz
      obtain⟨i,hi,rfl⟩:=List.getElem_of_mem hz
      exact(hfy.2 i (hfy.1▸hi) hi).Ur (jm hy _ (List.getElem_mem _))
     have vR:=pd (c:=c) (κ:=κ) hn hvl h1 g2 jk
     have pL:Alike (.var d0) (.var r):=trivial
     let iP:=(cs.toList.take off++u.cells.toList++cs.toList.drop (off+n)).toArray
     have hex:=nV (cs:=iP) (x:=.var r) hI hp hb pL
     refine⟨κ.B3 b blk iP (.var r),.skip,undef,?_,.inr ⟨rfl,rfl⟩,rfl,QF hI hp hb pL ?_,hex,fun _ he=>by cases he⟩
     ·simp only[Sem.run_bind,Instr.storeAt,Instr.sureAddr,Sem.run_pure,Result.andThen_ok,vR]; rfl
     ·refine⟨blk,m,iP,T,hp,setRow_heap _ _ _ _ _ _ g2,?_,?_,oq g5.1 (jm hy),HA wg g5.2⟩
      ·have hc:cs.toList.length=cs.size:=by simp
       simp[iP,hvl,← g3]; omega
      ·rw[BF]; exact(lV g4 hfy off n).mono hex
   ·exact h.elim
  ·exact h.elim
 ·rename_i b qR e idx off y
  simp only[zU]at h
  split at h
  ·rename_i jQ e' xs hb
   cases he:decide (e'=e)with
   | false=>rw[he]at h; exact h.elim
   | true =>
    rw[he,cond_true]at h
    have RP:e'=e:=of_decide_eq_true he
    subst RP
    obtain⟨⟨rfl,qp⟩,h⟩:=h
    split at h
    ·rename_i r hr
     split at h
     ·rename_i z hz
      simp only[T.leads,Prod.mk.injEq]at h
      obtain⟨rfl,rfl⟩:=h
      obtain⟨n,hn,h0,XU,hle,BF,oq,HK⟩:=Yu hr
      cases ha _ rfl with
      | uo _ _ _ _ _ blk o hold hp =>
       obtain⟨m,p1,rfl⟩:=hp xs hb qp
       obtain⟨jk,⟨Xy,_⟩ | ⟨lZ,n',cs,T,g1,g2,g3,g4,gr,f,g5⟩⟩:=hI.blk b _ hb
       ·subst Xy; cases qp
       ·rw[p1]at g1
        cases g1
        rw[Ug qp]at hr BF hle oq
        have hy:=hx _ rfl
        have hfy:=jq hy HK
        have hvl:u.cells.toList.length=n:=by rw[← hfy.1]; exact XU
        obtain⟨k1,k2⟩:=g5 idx qp
        have CQ:=k1.len
        have Yf:off+n≤e'.size:=by simpa[qq,jY]using hle
        have zik:idx*e'.size+e'.size≤xs.length*e'.size:=by rw[← Nat.succ_mul]; exact Nat.mul_le_mul_right _ qp
        have MG:idx*e'.size+off+n≤cs.size:=by omega
        have h1:∀ z∈u.cells.toList,z.oneCell'=true:=by
         intro z hz
         obtain⟨i,hi,rfl⟩:=List.getElem_of_mem hz
         exact(hfy.2 i (hfy.1▸hi) hi).Ur (jm hy _ (List.getElem_mem _))
        have vR:=pd (c:=c) (κ:=κ) hn hvl h1 g2 MG
        have pL:Alike (.arr qR e' xs) (.arr qR e' (xs.set idx z)):=⟨rfl,Nat.le_refl _,fun _=>by simp⟩
        let iP:=(cs.toList.take (idx*e'.size+off)++u.cells.toList++cs.toList.drop (idx*e'.size+off+n)).toArray
        have hex:=nV (cs:=iP) (x:=.arr qR e' (xs.set idx z)) hI p1 hb pL
        refine⟨κ.B3 b blk iP (.arr qR e' (xs.set idx z)),.skip,undef,?_,.inr ⟨rfl,rfl⟩,rfl,QF hI p1 hb pL ?_,hex,fun _ he=>by cases he⟩
        ·simp only[Sem.run_bind,Instr.storeAt,Instr.sureAddr,Sem.run_pure,Result.andThen_ok,vR]; rfl
        ·have hlen:iP.size=cs.size:=by simp[iP,hvl]; omega
         refine⟨jk,.inr ⟨blk,m,iP,T,p1,setRow_heap _ _ _ _ _ _ g2,by rw[hlen]; exact g3,by simpa using g4,?_⟩⟩
         -- cells of the element that is written
         let fi:=(f idx).take off++u.cells.toList++(f idx).drop (off+n)
         have ze3:xv κ (qq r) fi:=by
          rw[BF]
          exact lV (sK k1) hfy off n
         have hrt:r.uy=false:=by
          cases r with
          | gB l =>
           have h6:=congrArg List.length BF
           rw[List.length_append,List.length_append,XU]at h6
           have h7:(qq (D.gB l)).length=0:=rfl
           omega
          | _=>rfl
         have hrc:=sn hz ze3 (oq (dJ _ _) (jm hy)) hrt
         have KU:∀ p,iP[p]? = if p<idx*e'.size+off then cs[p]? else if p<idx*e'.size+off+n then u.cells.toList[p-(idx*e'.size+off)]? else cs[p]? := by
          intro p
          have:=oQ (cs:=cs.toList) (us:=u.cells.toList) hvl (by simpa using MG) p
          simpa only[iP,List.getElem?_toArray,Array.getElem?_toList]using this
         have zg6:∀ j,fi[j]? = if j<off then(f idx)[j]? else if j<off+n then u.cells.toList[j-off]? else(f idx)[j]? := fun j=>oQ hvl (by omega) j
         refine⟨gr,fun i=>if i=idx then fi else f i,fun i hi => ?_⟩
         rw[List.length_set]at hi
         by_cases hii:i=idx
         ·subst hii
          simp only[if_true,List.getElem_set_self]
          refine⟨hrc.mono hex.same,fun j w hj => ?_⟩
          rw[zg6]at hj
          rw[KU]
          split at hj
          ·rw[if_pos (by omega)]; exact k2 j w hj
          ·split at hj
           ·rw[if_neg (by omega),if_pos (by omega)]; rw[← hj]; congr 1; omega
           ·rw[if_neg (by omega),if_neg (by omega)]; exact k2 j w hj
         ·simp only[if_neg hii]
          obtain⟨q1,q2⟩:=g5 i hi
          refine⟨by rw[List.getElem_set_ne (fun e=>hii e.symm)]; exact q1.mono hex.same,fun j w hj => ?_⟩
          have Mw:j<e'.size:=by rw[← q1.len]; exact(List.getElem?_eq_some_iff.1 hj).1
          rw[KU]
          rcases Nat.lt_or_gt_of_ne hii with VU | hgt'
          ·have:i*e'.size+e'.size≤idx*e'.size:=by rw[← Nat.succ_mul]; exact Nat.mul_le_mul_right _ VU
           rw[if_pos (by omega)]; exact q2 j w hj
          ·have:idx*e'.size+e'.size≤i*e'.size:=by rw[← Nat.succ_mul]; exact Nat.mul_le_mul_right _ hgt'
           rw[if_neg (by omega),if_neg (by omega)]; exact q2 j w hj
     ·exact h.elim
    ·exact h.elim
  ·exact h.elim
 ·exact absurd h zj
end
end Go.AM
namespace Go.AM
set_option linter.unusedSectionVars false
variable [uz]
section
variable {c:Ctx} {κ:KS}
theorem WB:∀ (vs:List Value) (cells:Array Value) (off k:Nat),off+k+vs.length≤cells.size →
  ((vs.zipIdx k).foldl (fun(cs:Array Value) (p:Value×Nat)=>cs.setIfInBounds (off+p.2) p.1) cells).toList=cells.toList.take (off+k)++vs++cells.toList.drop (off+k+vs.length)
 | [],cells,off,k,_=>by simp
 | v::vs,cells,off,k,h=>by
  simp only[List.length_cons]at h
  simp only[List.zipIdx_cons,List.foldl_cons]
  rw[WB vs _ off (k+1) (by simp; omega)]
  have qp:off+k<cells.toList.length:=by simp; omega
  simp only[Array.toList_setIfInBounds,List.length_cons]
  have e1:(cells.toList.set (off+k) v).take (off+(k+1))=cells.toList.take (off+k)++[v]:=by
   rw[show off+(k+1)=off+k+1 by omega,List.take_succ_eq_append_getElem (by simpa using qp)]
   rw[List.take_set_of_le (Nat.le_refl _)]
   simp
  have e2:(cells.toList.set (off+k) v).drop (off+(k+1)+vs.length)=cells.toList.drop (off+k+(vs.length+1)):=by
   rw[List.drop_set_of_lt (by omega)]
   congr 1; omega
  rw[e1,e2]
  simp
theorem BI{place:Nat→Option (Nat×Nat)}{cells:Array Value}{i off size:Nat}{v:Value}{rest:List (Nat×Value)}(hp:place i=some (off,size))(hs:v.cells.toList.length=size)(hle:off+size≤cells.size) :
  Instr.fill place cells ((i,v)::rest)=Instr.fill place (cells.toList.take off++v.cells.toList++cells.toList.drop (off+size)).toArray rest:=by
 have hs':v.cells.size=size:=by simpa using hs
 have hf:=WB v.cells.toList cells off 0 (by simp[hs']; omega)
 simp only[Nat.add_zero,hs]at hf
 conv=>lhs; unfold Instr.fill
 simp only[hp]
 rw[if_neg (by simp[hs']; omega)]
 congr 1
 apply Array.ext'
 rw[← Array.foldl_toList,Array.toList_zipIdx]
 exact hf
theorem Gp{e:Ty}{x:den e}{v:Value}(h:RD κ (.zW e x) v):Rc κ.w κ.ok e x v.cells.toList:=by
 obtain⟨cs,h1,rfl⟩:=RD.b7 h
 rw[Xl h1.len h1.one]; exact h1
theorem Gv{e:Ty}{F:Operand→Option D}{G:Operand→Value}(hF:∀ x d,F x=some d→RD κ d (G x)):∀ (L:List (Nat×Operand)) (k:Nat) (cells:Array Value) (l:List (den e)),
  Gt e k (L.map fun p=>(p.1,F p.2))=some l→(k+L.length)*e.size≤cells.size →
  ∃ iL,Instr.fill (fun i=>some (i*e.size,e.size)) cells (L.map fun p=>(p.1,G p.2))=some iL∧iL.size=cells.size∧(∀ p,p<k*e.size→iL[p]? = cells[p]?)∧l.length=L.length ∧
   ∃ f:Nat→List Value,∀ i (hi:i<l.length),Rc κ.w κ.ok e l[i] (f i)∧∀ j v,(f i)[j]? = some v→iL[(k+i)*e.size+j]? = some v
 | [],k,cells,l,h,_=>by
  simp only[List.map_nil,Gt,Option.some.injEq]at h
  subst h
  exact⟨cells,rfl,rfl,fun _ _=>rfl,rfl,fun _=>[],fun i hi=>absurd hi (Nat.not_lt_zero i)⟩
 | (i,x)::L,k,cells,l,h,hle=>by
  simp only[List.map_cons]at h
  cases hx:F x with
  | none=>rw[hx]at h; simp[Gt]at h
  | some d =>
   rw[hx]at h
   simp only[Gt]at h
   cases hb:Nat.beq k i with
   | false=>rw[hb]at h; cases h
   | true =>
    have hik:k=i:=Nat.eq_of_beq_eq_true hb
    subst hik
    rw[hb,cond_true]at h
    split at h
    ·rename_i y l' hy LP
     cases h
     have hr:=Gp (cE (hF x d hx) hy)
     have hlen:=hr.len
     simp only[List.length_cons]at hle
     have X8:(k+(L.length+1))*e.size=k*e.size+e.size+L.length*e.size:=by rw[Nat.add_mul,Nat.add_mul]; omega
     have bX:k*e.size+e.size≤cells.size:=by omega
     let c1:=(cells.toList.take (k*e.size)++(G x).cells.toList++cells.toList.drop (k*e.size+e.size)).toArray
     have EC:c1.size=cells.size:=by simp only[c1,List.size_toArray,List.length_append,List.length_take,List.length_drop,hlen,Array.length_toList]; omega
     have hg:∀ p,c1[p]? = if p<k*e.size then cells[p]? else if p<k*e.size+e.size then(G x).cells.toList[p-k*e.size]? else cells[p]? := by
      intro p
      have:=oQ (cs:=cells.toList) (us:=(G x).cells.toList) hlen (by simpa using bX) p
      simpa only[c1,List.getElem?_toArray,Array.getElem?_toList]using this
     obtain⟨iL,h1,h2,h3,h4,f,h5⟩:=Gv hF L (k+1) c1 l' LP (by rw[EC,show k+1+L.length=k+(L.length+1) by omega]; exact hle)
     refine⟨iL,?_,h2.trans EC,?_,by simp[h4],fun i=>match i with | 0=>(G x).cells.toList | i+1=>f i,?_⟩
     ·simp only[List.map_cons]
      rw[BI rfl hlen bX]
      exact h1
     ·intro p hp
      rw[h3 p (by rw[Nat.add_mul]; omega),hg,if_pos hp]
     ·intro i hi
      cases i with
      | zero =>
       refine⟨hr,fun j v hj => ?_⟩
       have Mw:j<e.size:=by rw[← hlen]; exact(List.getElem?_eq_some_iff.1 hj).1
       have yh:(k+1)*e.size=k*e.size+e.size:=by rw[Nat.add_mul]; omega
       rw[Nat.add_zero,h3 _ (by omega),hg,if_neg (by omega),if_pos (by omega),Nat.add_sub_cancel_left]
       exact hj
      | succ i =>
       have:=h5 i (by simpa using hi)
       rw[show k+1+i=k+(i+1) by omega]at this
       exact this
    ·cases h
theorem sB{t n:Nat}(h:oS c t=some n):∃ i,c.P.info? t=some i∧i.bytes=n:=by
 unfold oS at h
 cases hi:c.P.info? t with
 | none=>simp[hi]at h
 | some i=>exact⟨i,rfl,by simpa[hi]using h⟩
theorem lP{et:Nat}{e:Ty}{z:den e}(h:zeroOf c et e=some z):∃ i v,c.P.info? et=some i∧i.zero=some v∧Rc κ.w κ.ok e z v.cells.toList:=by
 unfold zeroOf at h
 split at h
 ·rename_i d hd
  obtain⟨i,v,h1,h2,h3⟩:=fy hd
  exact⟨i,v,h1,h2,Gp (cE (h3.rd κ) h)⟩
 ·cases h
theorem VE{t n:Nat}{L:List (Nat×Operand)}{F:Operand→Option D}{G:Operand→Value}{d:Option D}{zL:St}(hI:Inv κ)(hF:∀ x d,F x=some d→RD κ d (G x))
  (h:(zU (nU c t n (L.map fun p=>(p.1,F p.2))) κ.st).leads (d,zL)) :
  qY c.P (do Pure.pure (.value (← Instr.buildSlice t n (L.map fun p=>(p.1,G p.2)).toArray))) κ d zL:=by
 unfold nU at h
 split at h
 ·exact absurd h zj
 ·rename_i et het
  have hu:=uu het
  split at h
  ·rename_i e LL
   cases hb:kP c et e&&Nat.beq n (L.map fun p=>(p.1,F p.2)).length&&Nat.ble n 1000&&Nat.ble e.size 100&&(zeroOf c et e).isSome with
   | false=>rw[hb]at h; exact absurd h zj
   | true =>
    rw[hb,cond_true]at h
    simp only[Bool.and_eq_true]at hb
    obtain⟨⟨⟨⟨wg,hn⟩,h1⟩,h2⟩,h3⟩:=hb
    have hn':n=L.length:=by have:=Nat.eq_of_beq_eq_true hn; simpa using this
    have pJ:=Nat.le_of_ble_eq_true h1
    have h2':=Nat.le_of_ble_eq_true h2
    obtain⟨hs,_⟩:=vp wg
    obtain⟨z,hz⟩:=Option.isSome_iff_exists.1 h3
    obtain⟨i,zv,np,Zw,hi3⟩:=lP (κ:=κ) hz
    split at h
    ·rename_i l hl
     cases DJ:Nat.beq n 0&&Nat.blt 0 e.size with
     | true =>
     rw[DJ,cond_true]at h
     simp only[Bool.and_eq_true]at DJ
     obtain⟨DJ,jk⟩:=DJ
     have MG:0<e.size:=Nat.le_of_ble_eq_true jk
     have Tu:=Nat.eq_of_beq_eq_true DJ
     have hL:L=[]:=List.eq_nil_of_length_eq_zero (hn'.symm.trans Tu)
     subst hL
     subst Tu
     simp only[zU,T.leads,Prod.mk.injEq]at h
     obtain⟨rfl,rfl⟩:=h
     have g:=il.alloc κ.w (.cells #[] et)
     have hex:=sN (n:=0) (x:=.arr 0 e ([]:List (den e))) hI g
     have vR:(Instr.buildSlice t 0 (([]:List (Nat×Operand)).map fun p=>(p.1,G p.2)).toArray).run c.P κ.w=.ok (.slice (some ⟨κ.w.heap.size,0,none⟩) 0 0) (κ.w.alloc (.cells #[] et)):=by
      simp[Instr.buildSlice,Sem.run_bind,run_underlying hu,Result.andThen_ok,run_sizeOf hs,Instr.fill,newRow]
      have e0:∀ g:Nat→Value,(Array.range 0).map g = #[]:=fun g=>by simp
      rw[e0]
     refine⟨κ.add _ 0 (.arr 0 e []),_,.slice (some ⟨κ.w.heap.size,0,none⟩) 0 0,by simp only[Sem.run_bind,vR,Result.andThen_ok]; rfl,.inl rfl,rfl,Ud hI g ?_,hex,?_⟩
     ·exact⟨MG,.inr ⟨κ.w.heap.size,0,#[],et,sk hI,g.new,rfl,by simp,QY wg,fun _=>[],fun i hi=>absurd hi (Nat.not_lt_zero i)⟩⟩
     ·intro d' yv
      cases yv
      refine .ms _ 0 e 0 0 0 _ (.inr ⟨0,e,_,ZC,Nat.le_refl _⟩) (by omega) nofun (fun p hp=>by cases hp; rfl) fun xs Vp => ?_
      rw[ZC]at Vp
      cases Vp
      exact⟨by simp,.inr ⟨κ.w.heap.size,0,0,0,sk hI,rfl,by omega,by simp,.inl rfl⟩⟩
     | false =>
     rw[DJ,cond_false,w9]at h
     obtain⟨rfl,rfl⟩:=h
     subst hn'
     have hle:L.length*e.size≤100000:=Nat.le_trans (Nat.mul_le_mul pJ h2') (by decide)
     have Oj:zv.cells.size=e.size:=by have:=hi3.len; simpa using this
     let cells:Array Value:=(Array.range (L.length*e.size)).map ((if L.length*e.size=0 then #[]else zv.cells)[· % (if L.length*e.size=0 then #[]else zv.cells).size]!)
     have Kh:cells.size=L.length*e.size:=by simp[cells]
     obtain⟨iL,g1,g2,_,g4,f,g5⟩:=Gv hF L 0 cells l hl (by rw[Kh]; simp)
     have g:=il.alloc κ.w (.cells iL et)
     have hex:=U5 hI g
     refine⟨κ.zW _,_,.slice (some ⟨κ.w.heap.size,0,none⟩) L.length L.length,?_,.inl rfl,rfl,b7 hI g,hex,?_⟩
     ·have Bu:Instr.fill (fun i=>some (i*e.size,e.size)) cells (L.map fun p=>(p.1,G p.2))=some iL:=g1
      simp only[cells]at Bu
      simp only[Instr.buildSlice,Sem.run_bind,run_underlying hu,Result.andThen_ok,run_sizeOf hs,gt_iff_lt,if_neg (show ¬ 2 ^ 24<L.length*e.size by omega)]
      by_cases h0:L.length*e.size=0
      ·simp only[if_pos h0]at Bu ⊢
       simp only[Sem.run_bind,Sem.run_pure,Result.andThen_ok,Bu]
       simp[newRow,KS.zW]
      ·simp only[if_neg h0]at Bu ⊢
       simp only[Sem.run_bind,Sem.run_pure,Result.andThen_ok,zeroValue,typeInfo,run_program,np,Zw,Bu]
       simp[newRow,KS.zW]
     ·intro d' yv
      cases yv
      have bX:∀ i,i<l.length→∀ j v,(f i)[j]? = some v→(κ.zW (κ.w.alloc (.cells iL et))).w.cell? ⟨κ.w.heap.size,0+i*e.size+j,none⟩=some v:=by
       intro i hi j v hj
       have:=(g5 i hi).2 j v hj
       simp only[Nat.zero_add]at this ⊢
       rw[tI (κ:=κ.zW (κ.w.alloc (.cells iL et))) g.new]
       exact this
      rw[← g4]
      refine .tight e l _ κ.w.heap.size 0 f ?_ (.inr rfl) (fun i hi=>(g5 i hi).1.mono hex.same) bX
      intro uj Xy
      subst Xy
      simp at g4
      simp[← g4]at uj
    ·exact absurd h zj
  ·exact absurd h zj
end
end Go.AM
namespace Go.AM
set_option linter.unusedSectionVars false
variable [uz]
section
variable {c:Ctx} {κ:KS}
theorem NQ{t:Nat}{x y:Option D}{v u:Value}{d:Option D}{zL:St}(hI:Inv κ)(hx:∀ z,x=some z→RD κ z v)(hy:∀ z,y=some z→RD κ z u)
  (h:(zU (Fm c t x y) κ.st).leads (d,zL)):qY c.P (do Pure.pure (.value (← Instr.makeSlice t v u))) κ d zL:=by
 unfold Fm at h
 split at h
 ·rename_i et k n k' m het hn hm
  have hu:=uu het
  have:=uh hn hx
  subst this
  have:=uh hm hy
  subst this
  split at h
  ·rename_i e bytes LL DF
   split at h
   ·rename_i z hz
    cases hb:kP c et e&&Nat.blt 0 e.size with
    | false=>rw[hb]at h; exact absurd h zj
    | true =>
     rw[hb,cond_true]at h
     simp only[Bool.and_eq_true]at hb
     obtain⟨wg,jk⟩:=hb
     have MG:0<e.size:=Nat.le_of_ble_eq_true jk
     obtain⟨hs,_⟩:=vp wg
     simp only[zU,T.leads,Prod.mk.injEq]at h
     obtain⟨⟨h0,h1,h2,h3⟩,rfl,rfl⟩:=h
     obtain⟨i,zv,np,Zw,hi3⟩:=lP (κ:=κ) hz
     obtain⟨ib,zcm,zdP⟩:=sB DF
     obtain⟨i',Fh,zij⟩:=fD hs
     rw[np]at zcm Fh
     cases zcm
     cases Fh
     have Oj:zv.cells.size=e.size:=by have:=hi3.len; simpa using this
     let N:=m.toNat*e.size
     let cells:Array Value:=(Array.range N).map (zv.cells[· % zv.cells.size]!)
     have Kh:cells.size=N:=by simp[cells]
     have vR:(Instr.makeSlice t (.int k n) (.int k' m)).run c.P κ.w=.ok (.slice (some ⟨κ.w.heap.size,0,none⟩) n.toNat m.toNat) (κ.w.alloc (.cells cells et)):=by
      have w1:IntKind.i64.wrap n=n:=IntWalk.i64_in _ (by omega)
      have w2:IntKind.i64.wrap m=m:=IntWalk.i64_in _ (by omega)
      have hmb:¬ ((2:Int) ^ 48<bytes*m):=by
       have e1:(m*bytes:Int)=bytes*m:=Int.mul_comm _ _
       omega
      have ai:∀ k n w,(Go.asInt (.int k n)).run c.P w=.ok n w:=fun k n w=>by simp[Go.asInt,asIntOf]
      have hm0:¬ (m<0):=by omega
      have Tu:¬ (n<0):=by omega
      have Lm:¬ (m<n):=by omega
      simp only[Instr.makeSlice,Sem.run_bind,run_underlying hu,Result.andThen_ok,ai,typeInfo,run_program,np,zdP,w1,w2,Sem.run_pure,gt_iff_lt,hm0,Tu,Lm,hmb,decide_false,Bool.or_self,Bool.false_eq_true,if_false,run_askRoom,run_sizeOf hs]
      by_cases DJ:m.toNat*e.size=0
      ·have hce:cells = #[]:=Array.eq_empty_of_size_eq_zero (by rw[Kh]; exact DJ)
       have e2:∀ g:Nat→Value,(Array.range (m.toNat*e.size)).map g = #[]:=fun g=>by rw[DJ]; simp
       simp only[if_pos DJ,Sem.run_bind,Sem.run_pure,Result.andThen_ok,newRow,run_newObj,e2]
       rw[hce]
       rfl
      ·simp only[if_neg DJ,Sem.run_bind,Sem.run_pure,Result.andThen_ok,newRow,run_newObj,zeroValue,typeInfo,run_program,np,Zw]
       rfl
     have g:=il.alloc κ.w (.cells cells et)
     have hex:=sN (n:=N) (x:=.arr n.toNat e (List.replicate n.toNat z)) hI g
     refine⟨κ.add _ N (.arr n.toNat e (List.replicate n.toNat z)),_,.slice (some ⟨κ.w.heap.size,0,none⟩) n.toNat m.toNat,by simp only[Sem.run_bind,vR,Result.andThen_ok]; rfl,.inl rfl,rfl,Ud hI g ?_,hex,?_⟩
     ·refine⟨MG,.inr ⟨κ.w.heap.size,N,cells,et,sk hI,g.new,Kh,?_,QY wg,fun _=>zv.cells.toList,fun i hi => ?_⟩⟩
      ·rw[List.length_replicate]; exact Nat.mul_le_mul_right _ (by omega)
      ·rw[List.length_replicate]at hi
       refine⟨by rw[List.getElem_replicate]; exact hi3.mono hex.same,fun j w hj => ?_⟩
       have Mw:j<e.size:=by rw[← hi3.len]; exact(List.getElem?_eq_some_iff.1 hj).1
       have qp:i*e.size+j<N:=by
        have:i*e.size+e.size≤N:=by rw[← Nat.succ_mul]; exact Nat.mul_le_mul_right _ (by omega)
        omega
       have z3n:(i*e.size+j) % e.size=j:=by rw[Nat.mul_comm,Nat.mul_add_mod,Nat.mod_eq_of_lt Mw]
       simp only[cells,Array.getElem?_map,Array.getElem?_range,if_pos qp,Option.map_some,Oj,z3n]
       have hj':zv.cells[j]? = some w:=by simpa using hj
       simp[getElem!_def,hj']
     ·intro d' yv
      cases yv
      refine .ms _ n.toNat e 0 n.toNat m.toNat _ (.inr ⟨n.toNat,e,_,ZC,Nat.le_refl _⟩) (by omega) nofun (fun p hp=>by cases hp; rfl) fun xs Vp => ?_
      rw[ZC]at Vp
      cases Vp
      refine⟨by simp,.inr ⟨κ.w.heap.size,N,0,m.toNat,sk hI,rfl,by omega,by simp[N],.inr (by simp)⟩⟩
   ·exact absurd h zj
  ·exact absurd h zj
 ·exact absurd h zj
end
end Go.AM
namespace Go.AM
set_option linter.unusedSectionVars false
variable [uz]
section
variable {c:Ctx} {κ:KS}
def y8(f:Nat→List Value):Nat→List Value
 | 0=>[]
 | n+1=>y8 f n++f n
theorem uK{f:Nat→List Value}{s:Nat}:∀ {n:Nat},(∀ i,i<n→(f i).length=s)→(y8 f n).length=n*s
 | 0,_=>by simp[y8]
 | n+1,h=>by rw[y8,List.length_append,uK (fun i hi=>h i (by omega)),h n (by omega),Nat.add_mul]; omega
theorem sL{f:Nat→List Value}{s:Nat}:∀ {n:Nat},(∀ i,i<n→(f i).length=s)→∀ i j,i<n→j<s→(y8 f n)[i*s+j]? = (f i)[j]?
 | 0,_,i,_,hi,_=>absurd hi (Nat.not_lt_zero i)
 | n+1,h,i,j,hi,hj=>by
  have hl:=uK (f:=f) (n:=n) (fun i hi=>h i (by omega))
  rw[y8]
  by_cases Xd:i<n
  ·have:i*s+s≤n*s:=by rw[← Nat.succ_mul]; exact Nat.mul_le_mul_right _ Xd
   rw[List.getElem?_append_left (by omega)]
   exact sL (fun i hi=>h i (by omega)) i j Xd hj
  ·have:i=n:=by omega
   subst this
   rw[List.getElem?_append_right (by omega)]
   congr 1; omega
theorem G4{f:Nat→List Value}:∀ {n:Nat},(∀ i,i<n→∀ v∈f i,v.oneCell'=true)→∀ v∈y8 f n,v.oneCell'=true
 | 0,_,v,hv=>by simp[y8]at hv
 | n+1,h,v,hv=>by
  rw[y8,List.mem_append]at hv
  rcases hv with hv | hv
  ·exact G4 (fun i hi=>h i (by omega)) v hv
  ·exact h n (by omega) v hv
theorem Cd{f:Nat→List Value}{s:Nat}{n p:Nat}{v:Value}(hs:0<s)(h:∀ i,i<n→(f i).length=s)(hp:(y8 f n)[p]? = some v):∃ i j,i<n∧j<s∧p=i*s+j∧(f i)[j]? = some v:=by
 have qp:=(List.getElem?_eq_some_iff.1 hp).1
 rw[uK h]at qp
 have hi:p / s<n:=(Nat.div_lt_iff_lt_mul hs).2 qp
 have hj:=Nat.mod_lt p hs
 have he:p / s*s+p % s=p:=Nat.div_add_mod' p s
 refine⟨p / s,p % s,hi,hj,he.symm,?_⟩
 rw[← sL h _ _ hi hj,he]; exact hp
def Om(κ:KS):Nat→Prop:=fun k=>κ.ok k∨∃ b n:Nat,κ.ph[b]? = some (some (k,n))
structure Src(κ:KS)(e:Ty)(ys:List (den e))(v:Value):Prop where
 ex:∃ (a:Option Addr) (cap:Nat) (f:Nat→List Value),v=.slice a ys.length cap∧ys.length≤cap∧(a=none→ys=[]∧cap=0)∧(∀ i (hi:i<ys.length),Rc κ.w κ.ok e ys[i] (f i)) ∧
  ∀ p,a=some p→(ys=[]∧cap=0)∨(p.spot=none∧Om κ p.block∧∀ i,i<ys.length→∀ j u,(f i)[j]? = some u→κ.w.cell? ⟨p.block,p.off+i*e.size+j,none⟩=some u)
theorem Mk{e:Ty}{ys:List (den e)}{v:Value}(h:RD κ (.zW (.sl e) ys) v):Src κ e ys v:=by
 rcases(h.wJ rfl).ny with⟨rfl,a0,he⟩ | ⟨blk,off,cap,f,he,wg,wD,h1,h2⟩
 ·cases he; exact⟨⟨a0,0,fun _=>[],rfl,Nat.le_refl _,fun _=>⟨rfl,rfl⟩,fun i hi=>absurd hi (Nat.not_lt_zero i),fun _ _=>.inl ⟨rfl,rfl⟩⟩⟩
 ·cases he; exact⟨⟨some ⟨blk,off,none⟩,cap,f,rfl,wD,nofun,h1,fun p hp=>by cases hp; exact .inr ⟨rfl,.inl wg,h2⟩⟩⟩
theorem sO{e:Ty}{ys:List (den e)}{ne:Bool}{v:Value}(h:RD κ (.tight e ys ne) v):Src κ e ys v:=by
 cases h with
 | xG _ a0=>exact⟨⟨a0,0,fun _=>[],rfl,Nat.le_refl _,fun _=>⟨rfl,rfl⟩,fun i hi=>absurd hi (Nat.not_lt_zero i),fun _ _=>.inl ⟨rfl,rfl⟩⟩⟩
 | tight _ _ _ blk off f uj wg h1 h2=>exact⟨⟨some ⟨blk,off,none⟩,_,f,rfl,Nat.le_refl _,nofun,h1,fun p hp=>by cases hp; exact .inr ⟨rfl,.inl wg,h2⟩⟩⟩
theorem Uk{e:Ty}{v:Value}(h:RD κ .xm v):Src κ e [] v:=by
 cases h; exact⟨⟨none,0,fun _=>[],rfl,Nat.le_refl _,fun _=>⟨rfl,rfl⟩,fun i hi=>absurd hi (Nat.not_lt_zero i),nofun⟩⟩
theorem Ft{b qR off len:Nat}{e:Ty}{xs:List (den e)}{v:Value}(hI:Inv κ)(h:RD κ (.ms b qR e off len) v)(hb:κ.st[b]? = some (.arr qR e xs)):Src κ e ((xs.take (off+len)).drop off) v∧off+len≤xs.length:=by
 cases h with
 | ms _ _ _ _ _ cap a hold wD ha tq hm =>
  obtain⟨hle,hm⟩:=hm xs hb
  have hl:((xs.take (off+len)).drop off).length=len:=by simp; omega
  have hg:∀ i (hi:i<((xs.take (off+len)).drop off).length),∃ h:off+i<xs.length,((xs.take (off+len)).drop off)[i]=xs[off+i]:=fun i hi=>⟨by omega,by simp[List.getElem_drop,List.getElem_take]⟩
  refine⟨?_,hle⟩
  rcases hm with⟨rfl,rfl,hv,hp⟩ | ⟨blk,n,o,VT,h3,h4,h5,h6,h7⟩
  ·cases hv
   have:(xs.take (0+0)).drop 0=[]:=by simp
   rw[this]
   exact⟨⟨none,0,fun _=>[],rfl,Nat.le_refl _,fun _=>⟨rfl,rfl⟩,fun i hi=>absurd hi (Nat.not_lt_zero i),nofun⟩⟩
  ·cases h4
   obtain⟨jk,⟨Xy,_⟩ | ⟨lZ,n',cs,T,g1,g2,g3,g4,gr,f,g5⟩⟩:=hI.blk b _ hb
   ·subst Xy
    have e0:off=0:=by simp at hle; omega
    have e1:len=0:=by simp at hle; omega
    subst e0 e1
    refine⟨⟨some ⟨blk,o,none⟩,cap,fun _=>[],rfl,by simp,nofun,fun i hi=>absurd hi (by simp),fun p hp=>by cases hp; exact .inr ⟨rfl,.inr ⟨b,n,h3⟩,fun i hi=>absurd hi (by simp)⟩⟩⟩
   ·rw[h3]at g1
    cases g1
    refine⟨⟨some ⟨blk,o,none⟩,cap,fun i=>f (off+i),by rw[hl],by rw[hl]; exact wD,nofun,fun i hi => ?_,fun p hp => ?_⟩⟩
    ·obtain⟨k1,k2⟩:=hg i hi
     rw[k2]; exact(g5 _ k1).1
    ·cases hp
     refine .inr ⟨rfl,.inr ⟨b,n,h3⟩,fun i hi j u hj => ?_⟩
     obtain⟨k1,_⟩:=hg i hi
     have:=(g5 _ k1).2 j u hj
     rw[tI g2]
     rcases h7 with h7 | h7
     ·omega
     ·rw[h7,← Nat.add_mul]; exact this
theorem Wq{e:Ty}{ys:List (den e)}{v:Value}(h:Src κ e ys v)(jk:0<e.size):∃ (news:List Value) (f:Nat→List Value),news=y8 f ys.length∧(∀ i (hi:i<ys.length),Rc κ.w κ.ok e ys[i] (f i)) ∧
  (∀ P,(Builtin.lenOf v).run P κ.w=.ok ys.length κ.w)∧(∀ P,(Builtin.firstCells e.size ys.length v).run P κ.w=.ok news.toArray κ.w)∧(∀ P,(Builtin.firstCells e.size ys.length v).run P κ.w.drew=.ok news.toArray κ.w.drew):=by
 obtain⟨a,cap,f,rfl,_,hn,h1,h2⟩:=h.ex
 have hf:∀ i,i<ys.length→(f i).length=e.size:=fun i hi=>(h1 i hi).len
 refine⟨y8 f ys.length,f,rfl,h1,fun P=>rfl,fun P => ?_,fun P => ?_⟩
 all_goals
  cases a with
  | none=>have:=(hn rfl).1; subst this; simp[Builtin.firstCells,y8]
  | some p =>
   rcases h2 p rfl with⟨rfl,_⟩ | ⟨hp,_,hc⟩
   ·simp[Builtin.firstCells,y8,loadCells,loadCellsFrom]
   obtain⟨blk,o,sp⟩:=p
   simp only at hp
   subst hp
   refine run_firstCells_some (P:=P) _ e.size ys.length ⟨blk,o,none⟩ ys.length cap (y8 f ys.length) (uK hf) fun j u hj => ?_
   obtain⟨i,k,hi,hk,rfl,hu⟩:=Cd jk hf hj
   rw[vB]
   try rw[World.cell?_drew]
   have:=hc i hi k u hu
   rwa [Nat.add_assoc]at this
structure Cel(κ:KS)(e:Ty)(ys:List (den e))(v:Value):Prop where
 ex:∃ (news:List Value) (f:Nat→List Value),news=y8 f ys.length∧(∀ i (hi:i<ys.length),Rc κ.w κ.ok e ys[i] (f i)) ∧
  (∀ P,(Builtin.lenOf v).run P κ.w=.ok ys.length κ.w)∧(∀ P,(Builtin.firstCells e.size ys.length v).run P κ.w=.ok news.toArray κ.w)∧(∀ P,(Builtin.firstCells e.size ys.length v).run P κ.w.drew=.ok news.toArray κ.w.drew)
theorem z1z{e:Ty}{ys:List (den e)}{v:Value}(h:Src κ e ys v)(jk:0<e.size):Cel κ e ys v:=⟨Wq h jk⟩
def Rx(c:Ctx)(t2:TypeId):Prop:=(∃ e,c.P.underlying t2=some (.slice e))∨c.P.underlying t2=some .string
section run
variable {t t2 e:TypeId} {i:TypeInfo} {z:Value} {sLen sCap n:Nat} {base:Option Addr} {x:Value} {news olds:List Value} {ty:TypeId}
theorem run_append_fits(ht:c.P.underlying t=some (.slice e))(Nd:Rx c t2)(hi:c.P.info? e=some i)(hlen:∀ P,(Builtin.lenOf x).run P κ.w=.ok n κ.w)(hf:∀ P,(Builtin.firstCells i.size n x).run P κ.w=.ok news.toArray κ.w)
  (oV:sLen+n≤sCap) {w':World} (xN:(match base with | some a=>storeCells (a.add (sLen*i.size)) news | none=>pure ()).run c.P κ.w=.ok () w') :
  (Builtin.append_ #[t,t2] ty #[.slice base sLen sCap,x]).run c.P κ.w=.ok (.slice base (sLen+n) sCap) w':=by
 rcases Nd with⟨e2,Nd⟩ | Nd
 all_goals cases base with
 | none=>simp at xN; subst xN; simp[Builtin.append_,run_underlying ht,run_underlying Nd,sizeOf,typeInfo,hi,hlen,oV,hf]
 | some a=>simp only at xN; simp[Builtin.append_,run_underlying ht,run_underlying Nd,sizeOf,typeInfo,hi,hlen,oV,hf,xN]
theorem rO(ht:c.P.underlying t=some (.slice e))(Nd:Rx c t2)(hi:c.P.info? e=some i)(hz:i.zero=some z)(hlen:∀ P,(Builtin.lenOf x).run P κ.w=.ok n κ.w)(hf:∀ P,(Builtin.firstCells i.size n x).run P κ.w.drew=.ok news.toArray κ.w.drew)
  (ho:∀ P,(Builtin.firstCells i.size sLen (.slice base sLen sCap)).run P κ.w.drew=.ok olds.toArray κ.w.drew)
  (hg:sCap<sLen+n) (h63:((sLen+n:Nat):Int)≤9223372036854775807) (hb:(sLen+n)*i.bytes≤140737488355328) :
  (Builtin.append_ #[t,t2] ty #[.slice base sLen sCap,x]).run c.P κ.w=.ok (.slice (some ⟨κ.w.heap.size,0,none⟩) (sLen+n) (grownCap κ.w (sLen+n) sCap e))
   (κ.w.drew.alloc (.cells (olds.toArray++news.toArray++Builtin.zeroCells z.cells (grownCap κ.w (sLen+n) sCap e-(sLen+n))) e)):=by
 have h1:¬ (sLen+n≤sCap):=by omega
 have h2:¬ (9223372036854775807<((sLen+n:Nat):Int)):=by omega
 have h3:=growslice_fits (bytes:=i.bytes) hg hb
 have h4:¬ (281474976710656<Builtin.nextslicecap (sLen+n) sCap*i.bytes):=by omega
 have h5:IntKind.i64.max=9223372036854775807:=by decide
 rcases Nd with⟨e2,Nd⟩ | Nd
 all_goals
  simp[Builtin.append_,run_underlying ht,run_underlying Nd,sizeOf,typeInfo,zeroValue,hi,hz,hlen,h1,h5,h2,h4,hf,ho,Question.forced,newRow,grownCap]
  rw[if_neg (by omega),← Array.append_assoc]
  simp
end run
theorem pZ(z:Array Value)(n:Nat):(Builtin.zeroCells z n).size=n*z.size:=by simp[Builtin.zeroCells]
theorem KD{e:Ty}{l ys:List (den e)}{f g:Nat→List Value}(hl:∀ i (hi:i<l.length),Rc κ.w κ.ok e l[i] (f i))(hy:∀ i (hi:i<ys.length),Rc κ.w κ.ok e ys[i] (g i))(zs:List Value) :
  ∀ i (hi:i<(l++ys).length),Rc κ.w κ.ok e (l++ys)[i] (if i<l.length then f i else g (i-l.length)) ∧
   ∀ j v,(if i<l.length then f i else g (i-l.length))[j]? = some v→(y8 f l.length++y8 g ys.length++zs)[i*e.size+j]? = some v:=by
 have XU:∀ i,i<l.length→(f i).length=e.size:=fun i hi=>(hl i hi).len
 have S9:∀ i,i<ys.length→(g i).length=e.size:=fun i hi=>(hy i hi).len
 have h1:=uK XU
 have h2:=uK S9
 intro i hi
 by_cases DY:i<l.length
 ·simp only[if_pos DY]
  refine⟨by rw[List.getElem_append_left DY]; exact hl i DY,fun j v hj => ?_⟩
  have Mw:j<e.size:=by rw[← XU i DY]; exact(List.getElem?_eq_some_iff.1 hj).1
  have:i*e.size+e.size≤l.length*e.size:=by rw[← Nat.succ_mul]; exact Nat.mul_le_mul_right _ DY
  rw[List.append_assoc,List.getElem?_append_left (by omega),sL XU i j DY Mw]
  exact hj
 ·simp only[if_neg DY]
  simp only[List.length_append]at hi
  have z0Y:i-l.length<ys.length:=by omega
  refine⟨by rw[List.getElem_append_right (by omega)]; exact hy _ z0Y,fun j v hj => ?_⟩
  have Mw:j<e.size:=by rw[← S9 _ z0Y]; exact(List.getElem?_eq_some_iff.1 hj).1
  have e1:i*e.size=l.length*e.size+(i-l.length)*e.size:=by rw[← Nat.add_mul]; congr 1; omega
  have:(i-l.length)*e.size+e.size≤ys.length*e.size:=by rw[← Nat.succ_mul]; exact Nat.mul_le_mul_right _ z0Y
  rw[List.append_assoc,List.getElem?_append_right (by omega),h1,List.getElem?_append_left (by omega)]
  rw[show i*e.size+j-l.length*e.size=(i-l.length)*e.size+j by omega,sL S9 _ j z0Y Mw]
  exact hj
theorem FT{t t2 et:Nat}{e:Ty}{l ys:List (den e)}{sv v:Value}{bytes:Nat}{ty:Nat}(hI:Inv κ)(hu:c.P.underlying t=some (.slice et))(TH:Rx c t2)(wg:kP c et e=true)(jk:0<e.size)(DF:oS c et=some bytes)(hz:∃ y,zeroOf c et e=some y)
  (hs:Src κ e l sv) (wD:∃ a,sv=.slice a l.length l.length) (hv:Cel κ e ys v) (uj:ys≠[]) (hb:(l.length+ys.length)*bytes≤140737488355328) (hn:l.length+ys.length≤9223372036854775807) :
  ∃ (κ':KS) (r:Value),(Builtin.append_ #[t,t2] ty #[sv,v]).run c.P κ.w=.ok r κ'.w∧κ'.st=κ.st++[.arr (l.length+ys.length) e (l++ys)]∧Inv κ'∧Ext κ κ'∧RD κ' (.ms κ.st.length (l.length+ys.length) e 0 (l.length+ys.length)) r:=by
 obtain⟨Ov,_⟩:=vp wg
 obtain⟨i,np,Zw⟩:=fD Ov
 obtain⟨y,hy⟩:=hz
 obtain⟨i',zv,g1,g2,g3⟩:=lP (κ:=κ) hy
 obtain⟨i'',k1,k2⟩:=sB DF
 rw[np]at g1 k1
 cases g1
 cases k1
 obtain⟨olds,f,ho1,ho2,ho3,ho4,ho5⟩:=Wq hs jk
 obtain⟨news,g,DK,KO,hn3,hn4,hn5⟩:=hv.ex
 obtain⟨a,hsv⟩:=wD
 subst hsv
 have Wa:0<ys.length:=List.length_pos_iff.2 uj
 have vR:=rO (c:=c) (κ:=κ) (t:=t) (t2:=t2) (e:=et) (ty:=ty) (base:=a) (sLen:=l.length) (sCap:=l.length) (n:=ys.length) (x:=v) (news:=news) (olds:=olds) hu TH np g2 hn3
  (by intro P; rw[Zw]; exact hn5 P) (by intro P; rw[Zw]; exact ho5 P) (by omega) (by omega) (by rw[k2]; exact hb)
 let C:=grownCap κ.w (l.length+ys.length) l.length et
 have hC:l.length+ys.length≤C:=grownCap_ge _ _ _ _
 let zs:=Builtin.zeroCells zv.cells (C-(l.length+ys.length))
 let cells:=olds.toArray++news.toArray++zs
 have Oj:zs.size=(C-(l.length+ys.length))*e.size:=by have:=g3.len; simp only[Array.length_toList]at this; simp[zs,pZ,this]
 have hol:olds.length=l.length*e.size:=by rw[ho1]; exact uK fun i hi=>(ho2 i hi).len
 have FP:news.length=ys.length*e.size:=by rw[DK]; exact uK fun i hi=>(KO i hi).len
 have Kh:cells.size=C*e.size:=by
  simp only[cells,Array.size_append,List.size_toArray,hol,FP,Oj,← Nat.add_mul]
  congr 1; omega
 have gr:=il.drew κ.w (.cells cells et)
 have hex:=sN (n:=cells.size) (x:=.arr (l.length+ys.length) e (l++ys)) hI gr
 refine⟨κ.add _ cells.size (.arr (l.length+ys.length) e (l++ys)),_,vR,rfl,Ud hI gr ?_,hex,?_⟩
 ·refine⟨jk,.inr ⟨κ.w.heap.size,cells.size,cells,et,sk hI,gr.new,rfl,?_,QY wg,fun i=>if i<l.length then f i else g (i-l.length),fun i hi => ?_⟩⟩
  ·rw[Kh,List.length_append]; exact Nat.mul_le_mul_right _ hC
  ·obtain⟨q1,q2⟩:=KD ho2 KO zs.toList i hi
   refine⟨q1.mono hex.same,fun j v hj => ?_⟩
   have:=q2 j v hj
   rw[← ho1,← DK]at this
   rw[← Array.getElem?_toList]
   simpa[cells]using this
 ·refine .ms _ (l.length+ys.length) e 0 _ C _ (.inr ⟨l.length+ys.length,e,_,ZC,Nat.le_refl _⟩) hC nofun (fun p hp=>by cases hp; rfl) fun xs Vp => ?_
  rw[ZC]at Vp
  cases Vp
  exact⟨by simp,.inr ⟨κ.w.heap.size,cells.size,0,C,sk hI,rfl,hC,by rw[Kh]; simp,.inr (by simp)⟩⟩
def KS.re(κ:KS)(w':World)(b n:Nat)(x:yd):KS:={ κ with w:=w',ph:=κ.ph.set b (some (κ.w.heap.size,n)),st:=κ.st.set b x }
theorem EU{w':World}{o:Obj}{b n v0 v1:Nat}{e:Ty}{xs ys:List (den e)}(hI:Inv κ)(g:il κ.w w' o)(hb:κ.st[b]? = some (.arr v0 e xs))(hv:v0<v1):Ext κ (κ.re w' b n (.arr v1 e ys)):=by
 have qp:b<κ.st.length:=(List.getElem?_eq_some_iff.1 hb).1
 have VU:b<κ.ph.length:=by rw[hI.len]; exact qp
 refine⟨g.os,g.tape,g.output,by show κ.w.heap.size≤w'.heap.size; rw[g.size]; omega,fun k hk=>⟨hk,g.old (hI.y5 k hk)⟩,fun k hk=>.inl hk,?_,?_,?_,?_,by simp[KS.re],fun k hk _=>g.old hk⟩
 ·intro b' blk m h
  simp only[KS.re,List.getElem?_set]at h
  split at h
  ·cases h
   exact .inr (Nat.le_refl _)
  ·exact .inl h
 ·intro b' d hd
  have uj:b≠b':=fun e=>by subst e; rw[hb]at hd; cases hd
  simp only[KS.re,List.getElem?_set,if_neg uj]
  exact⟨⟨d,hd⟩,trivial⟩
 ·intro b' u0 e' zs hd
  refine .inr ?_
  simp only[KS.re,List.getElem?_set]
  split
  ·rename_i e1
   subst e1
   rw[hb]at hd
   cases hd
   exact⟨v1,ys,rfl,by omega,fun h=>absurd h (by omega)⟩
  ·exact⟨u0,zs,hd,Nat.le_refl _,fun _=>⟨rfl,rfl⟩⟩
 ·intro b' hd
  have uj:b≠b':=fun e=>by subst e; rw[hb]at hd; cases hd
  simp only[KS.re,List.getElem?_set,if_neg uj]
  exact hd
theorem z6T{w':World}{o:Obj}{b n v0 v1:Nat}{e:Ty}{xs ys:List (den e)}(hI:Inv κ)(g:il κ.w w' o)(hb:κ.st[b]? = some (.arr v0 e xs))(hv:v0<v1)
  (hx:iH (κ.re w' b n (.arr v1 e ys)) b (.arr v1 e ys)):Inv (κ.re w' b n (.arr v1 e ys)):=by
 have qp:b<κ.st.length:=(List.getElem?_eq_some_iff.1 hb).1
 have VU:b<κ.ph.length:=by rw[hI.len]; exact qp
 have hold:∀ (b' blk m:Nat),(κ.ph.set b (some (κ.w.heap.size,n)))[b']? = some (some (blk,m))→(b≠b'∧κ.ph[b']? = some (some (blk,m)))∨(b=b'∧blk=κ.w.heap.size):=by
  intro b' blk m h
  simp only[List.getElem?_set]at h
  split at h
  ·rename_i e1
   cases h
   exact .inr ⟨e1,rfl⟩
  ·rename_i e1
   exact .inl ⟨e1,h⟩
 refine⟨by simp[KS.re,hI.len],?_,?_,?_,?_,hI.gl.mono (EU (n:=n) (ys:=ys) hI g hb hv).same⟩
 ·intro k hk; have:=hI.y5 k hk; show k<w'.heap.size; rw[g.size]; omega
 ·intro b' blk m h
  rcases hold b' blk m h with⟨_,h⟩ | ⟨rfl,rfl⟩
  ·obtain⟨h1,h2⟩:=hI.apart b' blk m h
   exact⟨by show blk<w'.heap.size; rw[g.size]; omega,h2⟩
  ·exact⟨by show κ.w.heap.size<w'.heap.size; rw[g.size]; omega,fun hk=>absurd (hI.y5 _ hk) (Nat.lt_irrefl _)⟩
 ·intro b1 b2 blk m m' h h'
  rcases hold b1 blk m h with⟨_,h⟩ | ⟨rfl,rfl⟩<;>rcases hold b2 _ m' h' with⟨_,h'⟩ | ⟨rfl,h''⟩
  ·exact hI.inj b1 b2 blk m m' h h'
  ·have:=(hI.apart b1 blk m h).1; omega
  ·have:=(hI.apart b2 _ m' h').1; omega
  ·rfl
 ·intro b' y hy
  simp only[KS.re,List.getElem?_set]at hy
  split at hy
  ·rename_i e1
   subst e1
   cases hy
   exact hx
  ·rename_i e1
   refine(hI.blk b' y hy).mono (EU hI g hb hv) ?_ fun blk m h=>g.old (hI.apart b' blk m h).1
   simp only[KS.re,List.getElem?_set,if_neg e1]
theorem JF{α:Type}{l:List α}{i:Nat}{a:α}(h:l[i]? = some a):l.set i a=l:=by
 apply List.ext_getElem?
 intro j
 rw[List.getElem?_set]
 split
 ·rename_i e
  subst e
  rw[if_pos (List.getElem?_eq_some_iff.1 h).1,h]
 ·rfl
theorem NK{t t2 et b qR len:Nat}{e:Ty}{xs ys:List (den e)}{sv v:Value}{bytes:Nat}{ty:Nat}(hI:Inv κ)(hu:c.P.underlying t=some (.slice et))(TH:Rx c t2)(wg:kP c et e=true)(jk:0<e.size)(DF:oS c et=some bytes)
  (hz:∃ y,zeroOf c et e=some y) (hs:RD κ (.ms b qR e 0 len) sv) (hb:κ.st[b]? = some (.arr qR e xs)) (hlen:len=xs.length) (hv:Cel κ e ys v) (hbb:(xs.length+ys.length)*bytes≤140737488355328)
  (hn:xs.length+ys.length≤9223372036854775807) :
  ∃ (κ':KS) (r:Value),(Builtin.append_ #[t,t2] ty #[sv,v]).run c.P κ.w=.ok r κ'.w∧κ'.st=κ.st.set b (.arr (qR+ys.length) e (xs++ys))∧Inv κ'∧Ext κ κ'∧RD κ' (.ms b (qR+ys.length) e 0 (len+ys.length)) r:=by
 subst hlen
 have qp:b<κ.st.length:=(List.getElem?_eq_some_iff.1 hb).1
 have VU:b<κ.ph.length:=by rw[hI.len]; exact qp
 obtain⟨Ov,_⟩:=vp wg
 obtain⟨i,np,Zw⟩:=fD Ov
 obtain⟨y,hy⟩:=hz
 obtain⟨i',zv,g1,g2,g3⟩:=lP (κ:=κ) hy
 obtain⟨i'',k1,k2⟩:=sB DF
 rw[np]at g1 k1
 cases g1
 cases k1
 have KZ:=(Ft hI hs hb).1
 simp only[Nat.zero_add,List.take_length,List.drop_zero]at KZ
 obtain⟨olds,f,ho1,ho2,ho3,ho4,ho5⟩:=Wq KZ jk
 obtain⟨news,g,DK,KO,hn3,hn4,hn5⟩:=hv.ex
 have hol:olds.length=xs.length*e.size:=by rw[ho1]; exact uK fun i hi=>(ho2 i hi).len
 have FP:news.length=ys.length*e.size:=by rw[DK]; exact uK fun i hi=>(KO i hi).len
 have Yz:∀ u∈news,u.oneCell'=true:=by rw[DK]; exact G4 fun i hi=>(KO i hi).one
 cases hs with
 | ms _ _ _ _ _ cap a hold wD ha tq hm =>
  obtain⟨hle,hm⟩:=hm xs hb
  by_cases oV:xs.length+ys.length≤cap
  ·-- there is room
   rcases hm with⟨h1,_,Li,hp⟩ | ⟨blk,n,o,VT,h3,h4,h5,h6,h7⟩
   ·simp only[Value.slice.injEq]at Li
    obtain⟨rfl,IV,rfl⟩:=Li
    have U6:xs=[]:=List.eq_nil_of_length_eq_zero h1
    have TY:ys=[]:=List.eq_nil_of_length_eq_zero (by omega)
    subst U6 TY
    refine⟨κ,.slice none 0 0,?_,?_,hI,Ext.refl κ,.ms b qR e 0 0 0 none hold (Nat.le_refl _) (fun _=>rfl) nofun fun zs Oj => ?_⟩
    ·have Tu:news=[]:=List.eq_nil_of_length_eq_zero (by simpa using FP)
     subst Tu
     exact run_append_fits (c:=c) (κ:=κ) (t:=t) (t2:=t2) (e:=et) (ty:=ty) (base:=none) (sLen:=0) (sCap:=0) (n:=0) (x:=v) (news:=[]) hu TH np hn3 (by intro P; rw[Zw]; exact hn4 P) (by omega) rfl
    ·simp only[List.length_nil,Nat.add_zero,List.append_nil]
     rw[JF hb]
    ·rw[hb]at Oj
     cases Oj
     exact⟨Nat.le_refl _,.inl ⟨rfl,rfl,rfl,hp⟩⟩
   ·cases h4
    obtain⟨_,⟨Xy,Ou⟩ | ⟨lZ,n',cs,T,p1,p2,p3,p4,pr,F,p5⟩⟩:=hI.blk b _ hb
    ·rw[h3]at Ou; cases Ou
    ·rw[h3]at p1
     cases p1
     have ho:xs.length+ys.length=0∨o=0:=by
      rcases h7 with h7 | h7
      ·exact .inl (by omega)
      ·exact .inr (by simpa using h7)
     have zcw:cap*e.size≤cs.size:=by rw[p3]; simpa using h6
     have Jy:xs.length*e.size+ys.length*e.size≤cs.size:=by
      rw[← Nat.add_mul]; exact Nat.le_trans (Nat.mul_le_mul_right _ oV) zcw
     let iP:=(cs.toList.take (xs.length*e.size)++news++cs.toList.drop (xs.length*e.size+news.length)).toArray
     have U0:cs.toList.length=cs.size:=by simp
     have KU:iP.size=cs.size:=by simp only[iP,List.size_toArray,List.length_append,List.length_take,List.length_drop,FP,U0]; omega
     have Ce:∀ m,(⟨blk,o,none⟩:Addr).add (xs.length*e.size)=⟨blk,xs.length*e.size,none⟩∨m=0∨xs.length+ys.length=0:=by
      intro m
      rcases ho with h | h
      ·exact .inr (.inr h)
      ·subst h; rw[vB,Nat.zero_add]; exact .inl rfl
     have xN:(storeCells ((⟨blk,o,none⟩:Addr).add (xs.length*i.size)) news).run c.P κ.w=.ok () (κ.w.setRow blk iP):=by
      rw[Zw]
      rcases Ce 1 with h | h | h
      ·rw[h]
       have:=run_storeCells_at c.P blk (xs.length*e.size) T news 0 cs κ.w p2 (by rw[FP]; omega) Yz
       simpa only[Nat.add_zero]using this
      ·cases h
      ·have Tu:news=[]:=List.eq_nil_of_length_eq_zero (by rw[FP,show ys.length=0 by omega]; simp)
       have U6:xs.length=0:=by omega
       have hce:iP=cs:=by simp[iP,Tu,U6]
       rw[Tu,hce,setRow_self _ _ _ _ _ p2]
       rfl
     have pL:Alike (.arr qR e xs) (.arr (qR+ys.length) e (xs++ys)):=⟨rfl,by omega,fun h=>by rw[List.length_append]; omega⟩
     have hex:=nV (cs:=iP) (x:=.arr (qR+ys.length) e (xs++ys)) hI h3 hb pL
     refine⟨κ.B3 b blk iP (.arr (qR+ys.length) e (xs++ys)),.slice (some ⟨blk,o,none⟩) (xs.length+ys.length) cap,?_,rfl,QF hI h3 hb pL ?_,hex,?_⟩
     ·exact run_append_fits (c:=c) (κ:=κ) (t:=t) (t2:=t2) (e:=et) (ty:=ty) (base:=some ⟨blk,o,none⟩) (sLen:=xs.length) (sCap:=cap) (n:=ys.length) (x:=v) (news:=news) hu TH np hn3 (by intro P; rw[Zw]; exact hn4 P) oV xN
     ·refine⟨jk,.inr ⟨blk,n,iP,T,h3,setRow_heap _ _ _ _ _ _ p2,by rw[KU]; exact p3,?_,pr,fun i=>if i<xs.length then F i else g (i-xs.length),fun i hi => ?_⟩⟩
      ·rw[List.length_append]; exact Nat.le_trans (Nat.mul_le_mul_right _ oV) (by simpa using h6)
      ·have hF:∀ i (hi:i<xs.length),Rc κ.w κ.ok e xs[i] (F i):=fun i hi=>(p5 i hi).1
       have z3H:∀ i,i<xs.length→(F i).length=e.size:=fun i hi=>(hF i hi).len
       have Lp:cs.toList.take (xs.length*e.size)=y8 F xs.length:=by
        apply List.ext_getElem?
        intro p
        rw[List.getElem?_take]
        have XU:=uK z3H
        split
        ·rename_i hp
         obtain⟨q,hq⟩:∃ q,(y8 F xs.length)[p]? = some q:=⟨_,List.getElem?_eq_getElem (by rw[XU]; exact hp)⟩
         obtain⟨i',j',a1,a2,a3,a4⟩:=Cd jk z3H hq
         rw[hq]
         have:=(p5 i' a1).2 j' q a4
         rw[a3,Array.getElem?_toList]; exact this
        ·rename_i hp
         rw[List.getElem?_eq_none (by rw[XU]; omega)]
       obtain⟨q1,q2⟩:=KD hF KO (cs.toList.drop (xs.length*e.size+news.length)) i hi
       refine⟨q1.mono hex.same,fun j w hj => ?_⟩
       have:=q2 j w hj
       rw[← DK,← Lp]at this
       simpa only[iP,List.getElem?_toArray]using this
     ·refine .ms b _ e 0 _ cap _ (.inr ⟨qR+ys.length,e,xs++ys,by simp[KS.B3,qp],Nat.le_refl _⟩) oV nofun (fun p hp=>by cases hp; rfl) fun zs Oj => ?_
      have:zs=xs++ys:=by simp only[KS.B3,List.getElem?_set_self qp]at Oj; cases Oj; rfl
      subst this
      refine⟨by simp,.inr ⟨blk,n,o,cap,h3,rfl,oV,by simpa using h6,?_⟩⟩
      rcases h7 with h7 | h7
      ·exact .inl h7
      ·exact .inr (by simpa using h7)
  ·-- it grows
   have Wa:0<ys.length:=by omega
   have vR:=rO (c:=c) (κ:=κ) (t:=t) (t2:=t2) (e:=et) (ty:=ty) (base:=a) (sLen:=xs.length) (sCap:=cap) (n:=ys.length) (x:=v) (news:=news) (olds:=olds) hu TH np g2 hn3
    (by intro P; rw[Zw]; exact hn5 P) (by intro P; rw[Zw]; exact ho5 P) (by omega) (by omega) (by rw[k2]; exact hbb)
   let C:=grownCap κ.w (xs.length+ys.length) cap et
   have hC:xs.length+ys.length≤C:=grownCap_ge _ _ _ _
   let zs:=Builtin.zeroCells zv.cells (C-(xs.length+ys.length))
   let cells:=olds.toArray++news.toArray++zs
   have Oj:zs.size=(C-(xs.length+ys.length))*e.size:=by have:=g3.len; simp only[Array.length_toList]at this; simp[zs,pZ,this]
   have Kh:cells.size=C*e.size:=by
    simp only[cells,Array.size_append,List.size_toArray,hol,FP,Oj,← Nat.add_mul]
    congr 1; omega
   have gr:=il.drew κ.w (.cells cells et)
   have Ps:qR<qR+ys.length:=by omega
   have hex:=EU (n:=cells.size) (ys:=xs++ys) hI gr hb Ps
   refine⟨κ.re _ b cells.size (.arr (qR+ys.length) e (xs++ys)),_,vR,rfl,z6T hI gr hb Ps ?_,hex,?_⟩
   ·refine⟨jk,.inr ⟨κ.w.heap.size,cells.size,cells,et,by simp[KS.re,VU],gr.new,rfl,?_,QY wg,fun i=>if i<xs.length then f i else g (i-xs.length),fun i hi => ?_⟩⟩
    ·rw[Kh,List.length_append]; exact Nat.mul_le_mul_right _ hC
    ·obtain⟨q1,q2⟩:=KD ho2 KO zs.toList i hi
     refine⟨q1.mono hex.same,fun j v hj => ?_⟩
     have:=q2 j v hj
     rw[← ho1,← DK]at this
     rw[← Array.getElem?_toList]
     simpa[cells]using this
   ·refine .ms b _ e 0 _ C _ (.inr ⟨qR+ys.length,e,xs++ys,by simp[KS.re,qp],Nat.le_refl _⟩) hC nofun (fun p hp=>by cases hp; rfl) fun us hus => ?_
    have:us=xs++ys:=by simp only[KS.re,List.getElem?_set_self qp]at hus; cases hus; rfl
    subst this
    exact⟨by simp,.inr ⟨κ.w.heap.size,cells.size,0,C,by simp[KS.re,VU],rfl,hC,by rw[Kh]; simp,.inr (by simp)⟩⟩
end
end Go.AM
namespace Go.AM
set_option linter.unusedSectionVars false
variable [uz]
section
variable {c:Ctx} {κ:KS}
theorem ZT{x y:D}{v:Value}(hI:Inv κ)(hx:RD κ x v)(h:(p0 κ.st x).leads y):(y=x∧∀ b qR e off len,x≠.ms b qR e off len)∨∃ (e:Ty) (ys:List (den e)),y=.zW (.sl e) ys∧Src κ e ys v∧∃ b qR off len,x=.ms b qR e off len:=by
 cases x with
 | ms b qR e off len =>
  simp only[p0]at h
  split at h
  ·rename_i jQ e' xs hb
   split at h
   ·rename_i he
    subst he
    obtain⟨rfl,h⟩:=h
    refine .inr ⟨e',_,h.symm,(Ft hI hx hb).1,b,qR,off,len,rfl⟩
   ·exact h.elim
  ·exact h.elim
 | _=>exact .inl ⟨h.symm,fun _ _ _ _ _=>nofun⟩
theorem Z3{t t2 et:Nat}{e:Ty}{s:D}{ys:List (den e)}{ne:Bool}{sv v:Value}{bytes ty:Nat}{d:Option D}{zL:St}(hI:Inv κ)(hu:c.P.underlying t=some (.slice et))(TH:Rx c t2)(wg:kP c et e=true)(jk:0<e.size)
  (DF:oS c et=some bytes) (H7:0<bytes) (hz:∃ y,zeroOf c et e=some y) (hs:RD κ s sv) (hv:Cel κ e ys v) (uj:ne=true→ys≠[])
  (h:(kf e s ys ne bytes κ.st).leads (d,zL)) :
  ∃ (κ':KS) (r:Value),(Builtin.append_ #[t,t2] ty #[sv,v]).run c.P κ.w=.ok r κ'.w∧κ'.st=zL∧Inv κ'∧Ext κ κ'∧∀ d',d=some d'→RD κ' d' r:=by
 have hlen:∀ n,n*bytes≤140737488355328→n≤9223372036854775807:=fun n hn=>Nat.le_trans (Nat.le_mul_of_pos_right n H7) (Nat.le_trans hn (by decide))
 -- nothing is appended
 have same:∀ (a:Option Addr) (n cap:Nat),sv=.slice a n cap→n≤cap→ys=[]→d=some s→zL=κ.st →
   ∃ (κ':KS) (r:Value),(Builtin.append_ #[t,t2] ty #[sv,v]).run c.P κ.w=.ok r κ'.w∧κ'.st=zL∧Inv κ'∧Ext κ κ'∧∀ d',d=some d'→RD κ' d' r:=by
  rintro a n cap rfl wD rfl rfl rfl
  obtain⟨Ov,_⟩:=vp wg
  obtain⟨i,np,Zw⟩:=fD Ov
  obtain⟨news,g,DK,KO,hn3,hn4,hn5⟩:=hv.ex
  have Tu:news=[]:=DK
  subst Tu
  refine⟨κ,.slice a n cap,?_,rfl,hI,Ext.refl κ,fun d' he=>by cases he; exact hs⟩
  have:=run_append_fits (c:=c) (κ:=κ) (t:=t) (t2:=t2) (e:=et) (ty:=ty) (base:=a) (sLen:=n) (sCap:=cap) (n:=0) (x:=v) (news:=[]) (i:=i) hu TH np hn3 (by intro P; rw[Zw]; exact hn4 P) (by omega) (w':=κ.w) (by cases a<;>rfl)
  simpa using this
 have new:∀ l:List (den e),Src κ e l sv→(∃ a,sv=.slice a l.length l.length)→ys≠[]→(mP e l ys bytes κ.st).leads (d,zL) →
   ∃ (κ':KS) (r:Value),(Builtin.append_ #[t,t2] ty #[sv,v]).run c.P κ.w=.ok r κ'.w∧κ'.st=zL∧Inv κ'∧Ext κ κ'∧∀ d',d=some d'→RD κ' d' r:=by
  intro l hl wD uj h
  obtain⟨hb,h⟩:=h
  cases h
  obtain⟨κ',r,h1,h2,h3,h4,h5⟩:=FT (ty:=ty) hI hu TH wg jk DF hz hl wD hv uj hb (hlen _ hb)
  exact⟨κ',r,h1,h2,h3,h4,fun d' he=>by cases he; exact h5⟩
 unfold kf at h
 split at h
 ·have hsv:sv=.slice none 0 0:=by cases hs; rfl
  cases hn:ne with
  | true=>rw[hn,cond_true]at h; exact new [] (Uk hs) ⟨none,hsv⟩ (uj hn) h
  | false =>
   rw[hn,cond_false]at h
   rcases h with⟨hy,h⟩ | ⟨hy,h⟩
   ·cases h; exact same none 0 0 hsv (Nat.le_refl _) (List.isEmpty_iff.1 hy) rfl rfl
   ·exact new [] (Uk hs) ⟨none,hsv⟩ (fun e=>by rw[e]at hy; cases hy) h
 ·rename_i e' l ne'
  split at h
  ·rename_i l' LP
   obtain⟨he,z9O⟩:=qz LP
   cases he
   simp only at z9O
   subst z9O
   have hsv:∃ a,sv=.slice a l'.length l'.length:=by
    cases hs with
    | xG=>exact⟨_,rfl⟩
    | tight=>exact⟨_,rfl⟩
   cases hn:ne with
   | true=>rw[hn,cond_true]at h; exact new l' (sO hs) hsv (uj hn) h
   | false =>
    rw[hn,cond_false]at h
    rcases h with⟨hy,h⟩ | ⟨hy,h⟩
    ·cases h
     obtain⟨a,ha⟩:=hsv
     exact same a _ _ ha (Nat.le_refl _) (List.isEmpty_iff.1 hy) rfl rfl
    ·exact new l' (sO hs) hsv (fun e=>by rw[e]at hy; cases hy) h
  ·exact h.elim
 ·rename_i b qR e' off len
  split at h
  ·rename_i jQ e'' xs hb
   split at h
   ·rename_i xs' E5
    obtain⟨he,zcj⟩:=qz E5
    cases he
    simp only at zcj
    subst zcj
    cases hde:decide (e'=_)with
    | false=>rw[hde]at h; exact h.elim
    | true =>
     rw[hde,cond_true]at h
     have:=of_decide_eq_true hde
     subst this
     obtain⟨⟨rfl,rfl,hl,hbb⟩,h⟩:=h
     cases h
     obtain⟨κ',r,h1,h2,h3,h4,h5⟩:=NK (ty:=ty) hI hu TH wg jk DF hz hs hb hl hv hbb (hlen _ hbb)
     exact⟨κ',r,h1,h2,h3,h4,fun d' he=>by cases he; exact h5⟩
   ·exact h.elim
  ·exact h.elim
 ·exact h.elim
theorem Dp{t ty:Nat}{s x:Option D}{sv v:Value}{d:Option D}{zL:St}(hI:Inv κ)(hs:∀ z,s=some z→RD κ z sv)(hx:∀ z,x=some z→RD κ z v)
  (h:(zU (Qr c t s x) κ.st).leads (d,zL)):qY c.P (do Pure.pure (.value (← Builtin.append_ #[t,t] ty #[sv,v]))) κ d zL:=by
 unfold Qr at h
 split at h
 ·exact absurd h zj
 ·rename_i et het
  have hu:=uu het
  split at h
  ·rename_i e bytes LL DF
   cases hb:kP c et e&&Nat.blt 0 e.size&&Nat.blt 0 bytes&&(zeroOf c et e).isSome with
   | false=>rw[hb]at h; exact absurd h zj
   | true =>
    rw[hb,cond_true]at h
    simp only[Bool.and_eq_true]at hb
    obtain⟨⟨⟨wg,h1⟩,h2⟩,h3⟩:=hb
    have jk:0<e.size:=Nat.le_of_ble_eq_true h1
    have H7:0<bytes:=Nat.le_of_ble_eq_true h2
    have hz:=Option.isSome_iff_exists.1 h3
    split at h
    ·rename_i s x
     simp only[zU,T.zS]at h
     obtain⟨y,hy,h⟩:=h
     have fin:∀ (ys:List (den e)) (ne:Bool),Src κ e ys v→(ne=true→ys≠[])→(kf e s ys ne bytes κ.st).leads (d,zL)→qY c.P (do Pure.pure (.value (← Builtin.append_ #[t,t] ty #[sv,v]))) κ d zL:=by
      intro ys ne hv uj h
      obtain⟨κ',r,g1,g2,g3,g4,g5⟩:=Z3 (t2:=t) (ty:=ty) hI hu (.inl ⟨et,hu⟩) wg jk DF H7 hz (hs _ rfl) (z1z hv jk) uj h
      exact⟨κ',.value r,r,by simp only[Sem.run_bind,g1,Result.andThen_ok]; rfl,.inl rfl,g2,g3,g4,g5⟩
     have DX:=hx _ rfl
     rcases ZT hI DX hy with⟨rfl,Lm⟩ | ⟨e',ys,rfl,KZ,_⟩
     ·split at h
      ·rename_i σ z
       split at h
       ·rename_i ys hys
        obtain⟨he,hz'⟩:=qz hys
        cases he
        simp only at hz'
        subst hz'
        exact fin _ false (Mk DX) nofun h
       ·exact h.elim
      ·rename_i σ z ne
       split at h
       ·rename_i ys hys
        obtain⟨he,hz'⟩:=qz hys
        cases he
        simp only at hz'
        subst hz'
        refine fin _ ne (sO DX) (fun uj => ?_) h
        cases DX with
        | xG=>cases uj
        | tight _ _ _ _ _ _ q=>exact q uj
       ·exact h.elim
      ·exact fin [] false (Uk DX) nofun h
      ·exact h.elim
     ·simp only at h
      split at h
      ·rename_i ys' hys
       obtain⟨he,hz'⟩:=qz hys
       cases he
       simp only at hz'
       subst hz'
       exact fin _ false KZ nofun h
      ·exact h.elim
    ·exact absurd h zj
  ·exact absurd h zj
theorem z0U{l:zf}{v:Value}(h:RD κ (.zW .str l) v):Cel κ (.int .u8) (bytesOf l) v:=by
 have hv:=h.lH
 subst hv
 have hl:(bytesOf l).length=l.length:=by simp[bytesOf]
 have jk:(⟨l.toArray⟩:ByteArray).size=l.length:=List.size_toArray
 refine⟨Lib.strCells ⟨l.toArray⟩,fun i=>[.int .u8 ((bytesOf l)[i]?.getD 0)],?_,fun i hi => ?_,fun P => ?_,fun P => ?_,fun P => ?_⟩
 ·have gen:∀ (n:Nat),n≤l.length→y8 (fun i=>[Value.int .u8 ((bytesOf l)[i]?.getD 0)]) n=(l.take n).map fun b=>Value.int .u8 b.toNat:=by
   intro n
   induction n with
   | zero=>intro _; rfl
   | succ n ih =>
    intro hn
    have qp:n<l.length:=hn
    rw[y8,ih (by omega),List.take_succ_eq_append_getElem qp,List.map_append]
    simp[bytesOf,List.getElem?_eq_getElem qp]
  rw[hl,gen _ (Nat.le_refl _),List.take_length]
  rfl
 ·have:(bytesOf l)[i]?.getD 0=(bytesOf l)[i]:=by rw[List.getElem?_eq_getElem hi]; rfl
  show Rc κ.w κ.ok (.int .u8) (bytesOf l)[i] [Value.int .u8 ((bytesOf l)[i]?.getD 0)]
  rw[this]
  exact .int .u8 _
 ·show(pure (⟨l.toArray⟩:ByteArray).size:Sem Nat).run P κ.w=_
  rw[jk,hl]; rfl
 ·rw[hl,← jk]; exact Lib.run_firstCells_string _ _ _
 ·rw[hl,← jk]; exact Lib.run_firstCells_string _ _ _
theorem K5{t t2 ty:Nat}{s x:Option D}{sv v:Value}{d:Option D}{zL:St}(hI:Inv κ)(hs:∀ z,s=some z→RD κ z sv)(hx:∀ z,x=some z→RD κ z v)
  (h:(zU (sR c t t2 s x) κ.st).leads (d,zL)):qY c.P (do Pure.pure (.value (← Builtin.append_ #[t,t2] ty #[sv,v]))) κ d zL:=by
 unfold sR at h
 split at h
 ·exact absurd h zj
 ·rename_i et het
  have hu:=uu het
  split at h
  ·rename_i bytes LL DF TH
   cases hb:kP c et (.int .u8)&&Nat.blt 0 bytes&&(zeroOf c et (.int .u8)).isSome with
   | false=>rw[hb]at h; exact absurd h zj
   | true =>
    rw[hb,cond_true]at h
    simp only[Bool.and_eq_true]at hb
    obtain⟨⟨wg,h2⟩,h3⟩:=hb
    have H7:0<bytes:=Nat.le_of_ble_eq_true h2
    have hz:=Option.isSome_iff_exists.1 h3
    split at h
    ·rename_i s l
     simp only[zU]at h
     obtain⟨κ',r,g1,g2,g3,g4,g5⟩:=Z3 (t2:=t2) (ty:=ty) hI hu (.inr TH) wg (by decide) DF H7 hz (hs _ rfl) (ne:=false) (z0U (hx _ rfl)) (fun e=>by cases e) h
     exact⟨κ',.value r,r,by simp only[Sem.run_bind,g1,Result.andThen_ok]; rfl,.inl rfl,g2,g3,g4,g5⟩
    ·exact absurd h zj
  ·exact absurd h zj
end
end Go.AM
namespace Go.AM
set_option linter.unusedSectionVars false
variable [uz]
section
variable {c:Ctx} {κ:KS}
theorem Q8{places:List (Nat×Nat)}{pf:Nat→Option (Nat×Nat)}(hpf:∀ (i:Nat) p,places[i]? = some p→pf i=some p){F:Operand→Option D}{G:Operand→Value}(hF:∀ x d,F x=some d→RD κ d (G x)):∀ (L:List (Nat×Operand)) (cells r:List D) (cs:Array Value),
  iu places (L.map fun p=>(p.1,F p.2)) cells=some r→xv κ cells cs.toList→(∀ d∈cells,d.one=true) →
  ∃ iP,Instr.fill pf cs (L.map fun p=>(p.1,G p.2))=some iP∧xv κ r iP.toList∧∀ d∈r,d.one=true
 | [],cells,r,cs,h,hr,ho=>by
  simp only[List.map_nil,iu,Option.some.injEq]at h
  subst h
  exact⟨cs,rfl,hr,ho⟩
 | (i,x)::L,cells,r,cs,h,hr,ho=>by
  simp only[List.map_cons]at h
  cases hx:F x with
  | none=>rw[hx]at h; simp[iu]at h
  | some d =>
   rw[hx]at h
   simp only[iu]at h
   split at h
   ·rename_i off n hp
    cases hb : !d.uy&&Nat.beq n (qq d).length&&Nat.ble (off+n) cells.length with
    | false=>rw[hb]at h; cases h
    | true =>
     rw[hb,cond_true]at h
     simp only[Bool.and_eq_true,Bool.not_eq_true']at hb
     obtain⟨⟨h1,h2⟩,h3⟩:=hb
     have h2':n=(qq d).length:=Nat.eq_of_beq_eq_true h2
     have h3':=Nat.le_of_ble_eq_true h3
     have hd:=hF x d hx
     have hfd:=jq hd h1
     have hvl:(G x).cells.toList.length=n:=by rw[← hfd.1]; exact h2'.symm
     have hle:off+n≤cs.size:=by have:=hr.1; simp only[Array.length_toList]at this; omega
     have hn:=lV hr hfd off n
     obtain⟨iP,g1,g2,g3⟩:=Q8 hpf hF L _ r (cs.toList.take off++(G x).cells.toList++cs.toList.drop (off+n)).toArray h (by simpa using hn) (by
      intro y hy
      simp only[List.mem_append]at hy
      rcases hy with(hy | hy) | hy
      ·exact ho y (List.mem_of_mem_take hy)
      ·exact jm hd y hy
      ·exact ho y (List.mem_of_mem_drop hy))
     refine⟨iP,?_,g2,g3⟩
     simp only[List.map_cons]
     rw[BI (hpf _ _ hp) hvl hle]
     exact g1
   ·cases h
theorem E6{t:Nat}{L:List (Nat×Operand)}{F:Operand→Option D}{G:Operand→Value}{d:Option D}{zL:St}(hI:Inv κ)(hF:∀ x d,F x=some d→RD κ d (G x))
  (h:(zU (Hm c t (L.map fun p=>(p.1,F p.2))) κ.st).leads (d,zL)):qY c.P (do Pure.pure (.value (← Instr.build t (L.map fun p=>(p.1,G p.2)).toArray))) κ d zL:=by
 unfold Hm at h
 split at h
 ·rename_i fs hu
  split at h
  ·rename_i z places hz hp
   split at h
   ·rename_i l hl
    rw[w9]at h
    obtain⟨rfl,rfl⟩:=h
    obtain⟨i,zv,h1,h2,h3⟩:=fy hz
    have hzr:=h3.rd κ
    obtain⟨iP,g1,g2,g3⟩:=Q8 (pf:=(places.toArray[·]?)) (fun i p hp=>by simpa using hp) hF L z l zv.cells hl (jq hzr rfl) (jm hzr)
    have hb:c.P.built t (L.map fun p=>(p.1,G p.2))=some iP:=by
     unfold Program.built
     simp only[h1,hu,h2,hp]
     exact g1
    refine qY.pure hI (run_build κ.w t _ iP (by simpa using hb)) ?_
    have:=RD.agg l iP.toList g2.1 g3 g2.2
    simpa using this
   ·exact absurd h zj
  ·exact absurd h zj
 ·rename_i k e hu
  split at h
  ·rename_i z ie hz hp
   split at h
   ·rename_i l hl
    rw[w9]at h
    obtain⟨rfl,rfl⟩:=h
    obtain⟨i,zv,h1,h2,h3⟩:=fy hz
    have hzr:=h3.rd κ
    obtain⟨iP,g1,g2,g3⟩:=Q8 (pf:=fun i=>some (i*ie.size,ie.size)) (fun i p hp=>by
     rw[List.getElem?_map]at hp
     cases hr:(List.range k)[i]? with
     | none=>rw[hr]at hp; cases hp
     | some j =>
      rw[hr]at hp
      obtain⟨qp,rfl⟩:=List.getElem?_eq_some_iff.1 hr
      simpa using hp) hF L z l zv.cells hl (jq hzr rfl) (jm hzr)
    have hb:c.P.built t (L.map fun p=>(p.1,G p.2))=some iP:=by
     unfold Program.built
     simp only[h1,hu,h2,hp]
     exact g1
    refine qY.pure hI (run_build κ.w t _ iP (by simpa using hb)) ?_
    have:=RD.agg l iP.toList g2.1 g3 g2.2
    simpa using this
   ·exact absurd h zj
  ·exact absurd h zj
 ·exact absurd h zj
theorem KX{a:Act}{o:Oper}{p:Operand}(ho:o.op=.nilCheck p){x:Option D}{d:Option D}{zL:St}(hI:Inv κ)(hx:∀ z,x=some z→RD κ z (a.eval p))
  (h:(zU (ZU x) κ.st).leads (d,zL)):qY c.P (execOp a.eval o) κ d zL:=by
 have key:∀ z v,RD κ z v→a.eval p=v→(∀ b:Option Addr,v=.pointer b→b≠none)→((∃ b,v=.pointer b)∨∃ g q l,v=.func (.func g) q l)→qY c.P (execOp a.eval o) κ (some z) κ.st:=by
  intro z v hz hv hn hc
  have:execOp a.eval o=Pure.pure (.value v):=by
   rcases hc with⟨b,rfl⟩ | ⟨g,q,l,rfl⟩
   ·cases b with
    | none=>exact absurd rfl (hn none rfl)
    | some b=>simp only[execOp,ho,hv]
   ·simp only[execOp,ho,hv]
  rw[this]
  exact qY.val hI fun _ he=>by cases he; exact hz
 unfold ZU at h
 split at h
 all_goals try exact absurd h zj
 all_goals
  rw[w9]at h; obtain⟨rfl,rfl⟩:=h
  have hr:=hx _ rfl
  generalize hv:a.eval p=v at hr
  refine key _ v hr hv ?_ ?_
  ·intro b hb; cases hr<;>first | (cases hb<;>nofun) | (rename_i f l vs _ _; obtain⟨g,q,l',e⟩:=JN f vs; rw[e]at hb; cases hb)
  ·cases hr<;>first | exact .inl ⟨_,rfl⟩ | exact .inr (JN _ _)
theorem F7{op:BinOp}{t:Nat}{px:Operand}{x:Option D}{v:Value}{d:Option D}{zL:St}(hI:Inv κ)(hx:∀ z,x=some z→RD κ z v)
  (h:(zU (HI c op t x) κ.st).leads (d,zL)):qY c.P (do Pure.pure (.value (← (do eqGuard op t px (.const .nilIface) v .nilIface; binOp op t v .nilIface)))) κ d zL:=by
 unfold HI at h
 split at h
 ·rename_i ms hu
  have hm:c.P.underlying t=some (.interface (c.P.methodsAt t)):=by unfold Program.methodsAt; rw[hu]
  have g1:∀ w,(eqGuard op t px (.const .nilIface) .nilIface .nilIface).run c.P w=.ok () w:=fun w=>by cases op<;>simp[eqGuard]
  have g2:∀ u y w,(eqGuard op t px (.const .nilIface) (.iface u y) .nilIface).run c.P w=.ok () w:=fun u y w=>by cases op<;>simp[eqGuard]
  split at h
  ·unfold bb at h
   rw[w9]at h
   obtain⟨rfl,rfl⟩:=h
   cases hx _ rfl
   exact qY.pure hI (by simp only[Sem.run_bind,g1,Result.andThen_ok,run_eql_nil_nil _ _ hm]) RD.bool
  ·unfold bb at h
   rw[w9]at h
   obtain⟨rfl,rfl⟩:=h
   cases hx _ rfl
   exact qY.pure hI (by simp only[Sem.run_bind,g2,Result.andThen_ok,run_eql_held_nil _ _ _ _ hm]) RD.bool
  ·unfold bb at h
   rw[w9]at h
   obtain⟨rfl,rfl⟩:=h
   cases hx _ rfl
   exact qY.pure hI (by simp only[Sem.run_bind,g1,Result.andThen_ok,run_neq_nil_nil _ _ hm]) RD.bool
  ·unfold bb at h
   rw[w9]at h
   obtain⟨rfl,rfl⟩:=h
   cases hx _ rfl
   exact qY.pure hI (by simp only[Sem.run_bind,g2,Result.andThen_ok,run_neq_held_nil _ _ _ _ hm]) RD.bool
  ·exact absurd h zj
 ·exact absurd h zj
theorem VL{x:Option D}{v:Value}{xt at':Nat}{ok:Bool}{d:Option D}{zL:St}(hI:Inv κ)(hx:∀ z,x=some z→RD κ z v)
  (h:(zU (oH c x at' ok) κ.st).leads (d,zL)):qY c.P (do Pure.pure (.value (← Instr.typeAssert v xt at' ok))) κ d zL:=by
 unfold oH at h
 split at h
 ·exact absurd h zj
 ·exact absurd h zj
 ·rename_i ty hni hu
  split at h
  ·rename_i t e
   cases hb:Nat.beq t at'&&ok with
   | false=>rw[hb]at h; exact absurd h zj
   | true =>
    rw[hb,cond_true,w9]at h
    obtain⟨rfl,rfl⟩:=h
    simp only[Bool.and_eq_true]at hb
    have:=Nat.eq_of_beq_eq_true hb.1
    subst this
    obtain rfl:=hb.2
    cases hx _ rfl with
    | iface _ _ u hu' =>
     refine qY.pure hI (v:=.tuple #[u,.bool true]) ?_ ?_
     ·cases ty<;>first | (exact(hni _ rfl).elim) | (simp[Instr.typeAssert,run_underlying hu])
     ·have:=xv.cons hu' (xv.cons (RD.bool (κ:=κ) (b:=true)) xv.nil)
      exact .gB _ [u,.bool true] this.1 this.2
  ·exact absurd h zj
theorem K6{t:Nat}{x:Option D}{v:Value}{d:Option D}{zL:St}(hI:Inv κ)(hx:∀ z,x=some z→RD κ z v)
  (h:(zU (pY c t x) κ.st).leads (d,zL)):qY c.P (do Pure.pure (.value (← Instr.makeInterface t v))) κ d zL:=by
 unfold pY at h
 cases hu:c.P.underlying t with
 | none=>rw[hu]at h; exact absurd h zj
 | some u =>
  rw[hu]at h
  cases u<;>simp only at h
  all_goals try exact absurd h zj
  all_goals
   split at h
   ·rw[w9]at h; obtain⟨rfl,rfl⟩:=h
    have hc:c.P.concrete t=true:=by unfold Program.concrete; rw[hu]
    exact qY.pure hI (run_makeInterface κ.w t v hc) (.iface t _ v (hx _ rfl))
   ·exact absurd h zj
theorem TB{e:Ty}{x y:D}{v:Value}{l:List (den e)}(hI:Inv κ)(hx:RD κ x v)(h:(p0 κ.st x).leads y)(hl:D5 e y=some l):Src κ e l v:=by
 rcases ZT hI hx h with⟨rfl,_⟩ | ⟨e',ys,rfl,hs,_⟩
 ·cases y with
  | zW σ z =>
   obtain⟨he,hz⟩:=qz (a:=σ) (b:=.sl e) hl
   cases he
   cases hz
   exact Mk hx
  | tight e' z ne =>
   obtain⟨he,hz⟩:=qz (a:=.sl e') (b:=.sl e) hl
   cases he
   cases hz
   exact sO hx
  | xm =>
   simp only[D5,Option.some.injEq]at hl
   subst hl
   exact Uk hx
  | _=>simp[D5]at hl
 ·obtain⟨he,hz⟩:=qz (a:=.sl e') (b:=.sl e) hl
  cases he
  cases hz
  exact hs
theorem CG(l:List Int):strOfNums l=⟨(qO l).toArray⟩:=rfl
theorem JD{s t e:Nat}{x:Option D}{v:Value}{d:Option D}{zL:St}(hI:Inv κ)(hx:∀ z,x=some z→RD κ z v)(hs:c.P.underlying s=some (.slice e))(ht:c.P.underlying t=some .string)
  (h:(zU (Wi c e x) κ.st).leads (d,zL)):qY c.P (do Pure.pure (.value (← convert s t v))) κ d zL:=by
 unfold Wi at h
 split at h
 ·rename_i z he
  rw[nf]at h
  obtain⟨h,rfl⟩:=h
  obtain⟨y,h1,h2⟩:=T.zS.1 h
  split at h2
  ·rename_i l hl
   cases h2
   have KZ:=TB hI (hx _ rfl) h1 hl
   obtain⟨a,cap,f,rfl,wD,hn,g1,g2⟩:=KZ.ex
   have vR:(convert s t (.slice a l.length cap)).run c.P κ.w=.ok (.string (strOfNums l)) κ.w:=by
    cases a with
    | none =>
     obtain⟨rfl,rfl⟩:=hn rfl
     exact run_convert_bytes_nil κ.w s e hs he 0 0 t ht
    | some p =>
     rcases g2 p rfl with⟨rfl,rfl⟩ | ⟨hp,_,hc⟩
     ·have h0:(loadCells p 0).run c.P κ.w=.ok (([]:List Int).map (Value.int .u8)).toArray κ.w:=by
       have:=run_loadCells_list (P:=c.P) κ.w p [] (fun j v hj=>by simp at hj)
       simpa using this
      simp only[List.length_nil]
      rw[run_convert_bytes_string κ.w s t e _ 0 0 hs he ht,run_bytesToString κ.w _ 0 0 [] h0]
      rfl
     ·obtain⟨blk,o,sp⟩:=p
      simp only at hp
      subst hp
      refine run_convert_bytes_arg κ.w s e hs he blk o l.length cap l rfl (fun i hi => ?_) t ht
      have hf:=(g1 i hi).eV
      have:=hc i hi 0 (.int .u8 l[i]) (by rw[hf]; rfl)
      have e1:o+i*Ty.size (.int .u8)+0=o+i:=by simp[Ty.size]
      rw[e1]at this
      rw[this]
      simp[List.getD,List.getElem?_eq_getElem hi]
   refine qY.pure hI vR ?_
   rw[CG]
   exact .str
  ·exact h2.elim
 ·exact absurd h zj
theorem GY{s t:Nat}{x:Option D}{v:Value}{d:Option D}{zL:St}(hI:Inv κ)(hx:∀ z,x=some z→RD κ z v)
  (h:(zU (convertOp c s t x) κ.st).leads (d,zL)):qY c.P (do Pure.pure (.value (← convert s t v))) κ d zL:=by
 unfold convertOp at h
 split at h
 ·rename_i e hs ht
  exact JD hI hx hs ht h
 ·rename_i k0 k hs ht
  split at h
  ·rename_i k1 n hk
   have:=uh hk hx
   subst this
   rw[yL]at h
   obtain⟨rfl,rfl⟩:=h
   exact qY.pure hI (by simp[convert,run_underlying hs,run_underlying ht,Conv.intToInt]) RD.int
  ·exact absurd h zj
 ·rename_i hs ht
  split at h
  ·rename_i s' hk
   have:=sb hk hx
   subst this
   rw[w9]at h
   obtain⟨rfl,rfl⟩:=h
   exact qY.pure hI (by simp[convert,run_underlying hs,run_underlying ht]) RD.str
  ·exact absurd h zj
 ·exact absurd h zj
end
end Go.AM
namespace Go.AM
set_option linter.unusedSectionVars false
variable [uz]
section
variable {c:Ctx} {κ:KS}
theorem Oe{ty t t':Nat}{s x:Option D}{v u:Value}{d:Option D}{zL:St}(hI:Inv κ)(hs:∀ z,s=some z→RD κ z v)(hx:∀ z,x=some z→RD κ z u)
  (h:(zU (FW c t s x) κ.st).leads (d,zL)):qY c.P (do Pure.pure (.value (← Builtin.copy_ #[t,t'] ty #[v,u]))) κ d zL:=by
 unfold FW at h
 split at h
 ·rename_i et het
  split at h
  ·rename_i k b qR k' off len z hu jk
   cases hk:decide (k'=k)with
   | false=>rw[hk]at h; exact absurd h zj
   | true =>
    rw[hk,cond_true]at h
    obtain rfl:k'=k:=of_decide_eq_true hk
    simp only[zU]at h
    obtain⟨y,h1,h2⟩:=T.zS.1 h
    split at h2
    ·rename_i l hl
     unfold Sd at h2
     split at h2
     ·rename_i jQ e' oW hb
      split at h2
      ·rename_i xs Vp
       obtain⟨he,hxx⟩:=qz (a:=.sl e') (b:=.sl (.int k')) Vp
       cases he
       obtain rfl:xs=oW:=hxx
       obtain⟨⟨HR,Jy⟩,h2⟩:=h2
       cases h2
       subst HR
       have KZ:=TB hI (hx _ rfl) h1 hl
       obtain⟨a,cap,f,rfl,wD,hn,g1,g2⟩:=KZ.ex
       have hue:=uu het
       have z4z:(c.P.info? et).map (·.size)=some 1:=jk
       have hrd:=hs _ rfl
       cases hrd with
       | ms _ _ _ _ _ cap0 a0 H7 hcap0 ha0 hsp0 hh =>
       have hm:=hh xs hb
       have U0:((List.take len l).map (Value.int k')).length=Nat.min l.length len:=by rw[List.length_map,List.length_take]; exact Nat.min_comm _ _
       have z4i:min len (List.length l)=Nat.min l.length len:=Nat.min_comm _ _
       by_cases h0:min len (List.length l)=0
       ·-- nothing goes over
        have vR:=run_copy_none (P:=c.P) κ.w t t' ty et a0 a len cap0 l.length cap hue z4z (by rw[← z4i]; exact h0)
        have V7:yc off len xs l=xs:=by
         unfold yc
         have ht:List.take len l=[]:=List.eq_nil_of_length_eq_zero (by rw[List.length_take]; exact h0)
         rw[ht,h0,List.append_nil,Nat.add_zero,List.take_append_drop]
        have iO:κ.st.set b (.arr qR (.int k') (yc off len xs l))=κ.st:=by
         rw[V7]
         obtain⟨qp,hge⟩:=List.getElem?_eq_some_iff.1 hb
         rw[← hge,List.set_getElem_self]
        rw[iO]
        refine⟨κ,.value (goInt 0),goInt 0,by simp[vR],.inl rfl,rfl,hI,Ext.refl κ,fun d' yv => ?_⟩
        cases yv
        rw[h0]
        exact RD.int
       ·obtain⟨hle,hm⟩:=hm
        rcases hm with⟨hz,_⟩ | ⟨blk,n,o,ziG,hp,hv,EC,RT,hc3⟩
        ·omega
        ·cases hv
         have ho:o=off:=by
          rcases hc3 with h | h
          ·omega
          ·simpa[Ty.size]using h
         subst ho
         have hl0:l≠[]:=fun h=>h0 (by rw[h]; simp)
         obtain⟨p,rfl⟩:∃ p,a=some p:=by
          cases a with
          | none=>exact absurd (hn rfl).1 hl0
          | some p=>exact⟨p,rfl⟩
         rcases g2 p rfl with⟨h,_⟩ | ⟨tq,_,hc⟩
         ·exact absurd h hl0
         obtain⟨pb,po,psp⟩:=p
         simp only at tq
         subst tq
         obtain⟨_,MB⟩:=hI.blk b _ hb
         rcases MB with⟨_,Ou⟩ | ⟨lZ,n',cs0,T,k1,k2,k3,k4,kr,g,k5⟩
         ·rw[hp]at Ou; cases Ou
         rw[hp]at k1
         cases k1
         have hn':List.length xs≤cs0.size:=by rw[k3]; simpa[Ty.size]using k4
         have bX:∀ (i:Nat) (hi:i<List.length xs),cs0[i]? = some (.int k' xs[i]):=by
          intro i hi
          obtain⟨q1,q2⟩:=k5 i hi
          have:=q2 0 (.int k' xs[i]) (by rw[q1.eV]; rfl)
          simpa[Ty.size]using this
         have zdX:((List.take len l).map (Value.int k')).length≤len:=by simp; omega
         have vR:=run_copy_row c.P κ.w t t' ty et blk o len cap0 ⟨pb,po,none⟩ l.length cap cs0 T ((List.take len l).map (Value.int k')) hue z4z k2 U0
          (fun j w hj=>by
           have hj':j<(List.take len l).length:=by have:=(List.getElem?_eq_some_iff.1 hj).1; simpa using this
           have Mw:j<l.length:=by simp at hj'; omega
           have e1:w=.int k' l[j]:=by
            rw[List.getElem?_map,List.getElem?_take,if_pos (by simp at hj'; omega),List.getElem?_eq_getElem Mw]at hj
            exact(Option.some.inj hj).symm
           have:=hc j Mw 0 (.int k' l[j]) (by rw[(g1 j Mw).eV]; rfl)
           have Jo:(⟨pb,po,none⟩:Addr).add j=⟨pb,po+j,none⟩:=by unfold Addr.add; split<;>simp_all
           rw[Jo,e1]
           simpa[Ty.size]using this)
          (by omega) (fun w hw=>by obtain⟨_,_,rfl⟩:=List.mem_map.1 hw; rfl)
         have hlen:List.length (yc o len xs l)=List.length xs:=by
          simp only[yc,List.length_append,List.length_take,List.length_drop]
          omega
         have pL:Alike (.arr qR (.int k') xs) (.arr qR (.int k') (yc o len xs l)):=⟨rfl,Nat.le_refl _,fun _=>hlen.symm⟩
         let iP:Array Value:=(cs0.toList.take o++(List.take len l).map (Value.int k')++cs0.toList.drop (o+((List.take len l).map (Value.int k')).length)).toArray
         have KU:iP.size=n:=by
          simp only[iP,List.size_toArray,List.length_append,List.length_take,List.length_drop,Array.length_toList,List.length_map]at *
          omega
         have z8G:∀ (i:Nat) (hi:i<List.length (yc o len xs l)),iP[i]? = some (.int k' (yc o len xs l)[i]):=by
          intro i hi
          have h1:=oQ (cs:=cs0.toList) (us:=(List.take len l).map (Value.int k')) (o:=o) (n:=((List.take len l).map (Value.int k')).length) rfl (by simp; simp at zdX; omega) i
          have e1:iP[i]? = (cs0.toList.take o++(List.take len l).map (Value.int k')++cs0.toList.drop (o+((List.take len l).map (Value.int k')).length))[i]? := by simp[iP]
          have NR:(List.map (Value.int k') (List.take len l)).length=min len (List.length l):=by simp
          rw[NR]at h1 e1
          have e2:(yc o len xs l)[i]? = if i<o then xs[i]? else if i<o+min len (List.length l)then(List.take len l)[i-o]? else xs[i]? := by
           unfold yc
           have hto:(List.take o xs).length=o:=by simp; omega
           by_cases q1:i<o
           ·rw[if_pos q1,List.append_assoc,List.getElem?_append_left (by omega),List.getElem?_take,if_pos q1]
           ·rw[if_neg q1,List.append_assoc,List.getElem?_append_right (by omega),hto]
            by_cases q2:i<o+min len (List.length l)
            ·rw[if_pos q2,List.getElem?_append_left (by simp; omega)]
            ·rw[if_neg q2,List.getElem?_append_right (by simp; omega),List.getElem?_drop,List.length_take]
             congr 1; omega
          have e3:(yc o len xs l)[i]? = some (yc o len xs l)[i]:=List.getElem?_eq_getElem hi
          rw[e1,h1]
          rw[e2]at e3
          have hix:i<List.length xs:=by rw[← hlen]; exact hi
          split
          ·rename_i q1
           rw[if_pos q1,List.getElem?_eq_getElem hix]at e3
           rw[Array.getElem?_toList,bX i hix,Option.some.inj e3]
          ·rename_i q1
           rw[if_neg q1]at e3
           split
           ·rename_i q2
            rw[if_pos q2]at e3
            rw[List.getElem?_map,e3]
            rfl
           ·rename_i q2
            rw[if_neg q2,List.getElem?_eq_getElem hix]at e3
            rw[Array.getElem?_toList,bX i hix,Option.some.inj e3]
         refine⟨κ.B3 b blk iP (.arr qR (.int k') (yc o len xs l)),.value (goInt (((List.take len l).map (Value.int k')).length:Nat)),goInt (((List.take len l).map (Value.int k')).length:Nat),(by rw[Sem.run_bind,vR]; rfl),.inl rfl,rfl,QF hI hp hb pL ?_,nV hI hp hb pL,fun d' yv => ?_⟩
         ·refine⟨by simp[Ty.size],.inr ⟨blk,n,iP,T,hp,setRow_heap κ.w blk cs0 iP T (0,0) k2,KU,by simp[Ty.size]; omega,kr,fun i=>[.int k' ((yc o len xs l).getD i 0)],fun i hi => ?_⟩⟩
          have hg:(yc o len xs l).getD i 0=(yc o len xs l)[i]:=by simp[List.getD_eq_getElem?_getD,List.getElem?_eq_getElem hi]
          show Rc _ _ (.int k') _ [Value.int k' ((yc o len xs l).getD i 0)]∧∀ (j:Nat) (v:Value),[Value.int k' ((yc o len xs l).getD i 0)][j]? = some v→_
          rw[hg]
          refine⟨.int k' _,fun j w hj => ?_⟩
          cases j with
          | zero =>
           simp at hj
           subst hj
           simpa[Ty.size]using z8G i hi
          | succ j=>simp at hj
         ·cases yv
          rw[z4i,← U0]
          exact RD.int
      ·exact h2.elim
     ·exact h2.elim
    ·exact h2.elim
  ·exact absurd h zj
 ·exact absurd h zj
end
end Go.AM
namespace Go.AM
set_option linter.unusedSectionVars false
variable [uz]
def uE(P:Program)(g:Nat)(args:Array Value)(w:World)(R:Ending→World→Prop):Prop :=
 ((callFunc g args).run P w=.ok (.enter g args) w∧Calls P g args w R)∨∃ v w',(callFunc g args).run P w=.ok (.value v) w'∧R (.returned v) w'
theorem uE.mono{P:Program}{g:Nat}{args:Array Value}{w:World}{R R':Ending→World→Prop}(h:uE P g args w R)(hr:∀ e w,R e w→R' e w):uE P g args w R':=by
 rcases h with⟨h1,h2⟩ | ⟨v,w',h1,h2⟩
 ·exact .inl ⟨h1,h2.mono hr⟩
 ·exact .inr ⟨v,w',h1,hr _ _ h2⟩
def vt(κ:KS):GV→Ending→Prop
 | .ret ds,e=>∃ v,e=.returned v∧RD κ (yW ds) v
 | .bU d,e=>∃ v,e=.panicked [{ v,recovered:=false }]∧RD κ d v
abbrev z6j:=Nat→Array Value→World→(Ending→World→Prop)→Prop
def zfH(Dr:z6j)(g:Nat)(S:List D→St→T (GV×St)):Prop :=
 ∀ (κ:KS) (args:List D) (qi:List Value) (rs:GV) (zL:St),(S args κ.st).leads (rs,zL)→Inv κ→xv κ args qi →
  Dr g qi.toArray κ.w fun e w'=>∃ κ':KS,κ'.w=w'∧κ'.st=zL∧Inv κ'∧Ext κ κ'∧vt κ' rs e
def By(P:Program)(g:Nat)(S:List D→St→T (GV×St)):Prop :=
 ∀ (κ:KS) (args:List D) (qi:List Value) (rs:GV) (zL:St),(S args κ.st).leads (rs,zL)→Inv κ→xv κ args qi →
  uE P g qi.toArray κ.w fun e w'=>∃ κ':KS,κ'.w=w'∧κ'.st=zL∧Inv κ'∧Ext κ κ'∧vt κ' rs e
section
variable {c:Ctx} {κ:KS}
theorem RD.weaken{Ve:Nat→Prop}(hs:∀ k,κ.ok k→Ve k){d:D}{v:Value}(h:RD κ d v):RD { κ with ok:=Ve } d v:=by
 have V7:Eb κ.w κ.w κ.ok Ve:=fun k hk=>⟨hs k hk,rfl⟩
 induction h with
 | zW τ y cs h=>exact .zW τ y cs (h.mono V7)
 | xG e a=>exact .xG e a
 | tight e l ne blk off f uj wg h hc=>exact .tight e l ne blk off f uj (hs _ wg) (fun i hi=>(h i hi).mono V7) hc
 | xm=>exact .xm
 | yA=>exact .yA
 | xX=>exact .xX
 | vO=>exact .vO
 | vP=>exact .vP
 | Zh v h=>exact .Zh v h
 | dL T=>exact .dL T
 | dv b T d hd=>exact .dv b T d hd
 | cY b T blk n d hd h=>exact .cY b T blk n d hd h
 | ptr b off blk n d hd h=>exact .ptr b off blk n d hd h
 | xo τ y cs blk off wg h hc=>exact .xo τ y cs blk off (hs _ wg) (h.mono V7) hc
 | uo b qR e idx off blk o hb h=>exact .uo b qR e idx off blk o hb h
 | ms b qR e off len cap a hb wD ha tq h=>exact .ms b qR e off len cap a hb wD ha tq h
 | xk f l vs hl h ih=>exact .xk f l vs hl ih
 | agg l vs hl ho h ih=>exact .agg l vs hl ho ih
 | gB l vs hl h ih=>exact .gB l vs hl ih
 | iface t d v h ih=>exact .iface t d v ih
theorem RD.free{κ':KS}(hw:κ'.w=κ.w)(wg:κ'.ok=κ.ok)(xN:κ.st=[]){d:D}{v:Value}(h:RD κ d v):RD κ' d v:=by
 obtain⟨w',Ve,ph',zL⟩:=κ'
 simp only at hw wg
 subst hw wg
 induction h with
 | zW τ y cs h=>exact .zW τ y cs h
 | xG e a=>exact .xG e a
 | tight e l ne blk off f uj wg h hc=>exact .tight e l ne blk off f uj wg h hc
 | xm=>exact .xm
 | yA=>exact .yA
 | xX=>exact .xX
 | vO=>exact .vO
 | vP=>exact .vP
 | Zh v h=>exact .Zh v h
 | dL T=>exact .dL T
 | dv b T d hd=>rw[xN]at hd; simp at hd
 | cY b T blk n d hd h=>rw[xN]at hd; simp at hd
 | ptr b off blk n d hd h=>rw[xN]at hd; simp at hd
 | xo τ y cs blk off wg h hc=>exact .xo τ y cs blk off wg h hc
 | uo b qR e idx off blk o hb h=>rcases hb with hb | ⟨_,_,_,hb,_⟩ <;> · rw[xN]at hb; simp at hb
 | ms b qR e off len cap a hb wD ha tq h=>rcases hb with hb | ⟨_,_,_,hb,_⟩ <;> · rw[xN]at hb; simp at hb
 | xk f l vs hl h ih=>exact .xk f l vs hl ih
 | agg l vs hl ho h ih=>exact .agg l vs hl ho ih
 | gB l vs hl h ih=>exact .gB l vs hl ih
 | iface t d v h ih=>exact .iface t d v ih
theorem Rc.scalar{w w':World}{ok Ve:Nat→Prop}{τ:Ty}{x:den τ}{cs:List Value}(h:Rc w ok τ x cs)(ht:τ.scalar=true):Rc w' Ve τ x cs:=by
 induction h with
 | int k n=>exact .int k n
 | bool b=>exact .bool b
 | str s=>exact .str s
 | iE=>cases ht
 | sl=>cases ht
 | nil=>exact .nil
 | cons a b x y c1 c2 h1 h2 i1 i2=>simp only[Ty.scalar,Bool.and_eq_true]at ht; exact .cons a b x y c1 c2 (i1 ht.1) (i2 ht.2)
 | expr=>cases ht
theorem z7o{e:Ty}{ys:List (den e)}{v:Value}(h:Src κ e ys v):Rc κ.w (Om κ) (.sl e) ys [v]:=by
 obtain⟨a,cap,f,rfl,wD,hn,h1,h2⟩:=h.ex
 cases a with
 | none=>obtain⟨rfl,rfl⟩:=hn rfl; exact .iE e none
 | some p =>
  rcases h2 p rfl with⟨rfl,rfl⟩ | ⟨hp,wg,hc⟩
  ·exact .iE e _
  obtain⟨blk,o,sp⟩:=p
  simp only at hp
  subst hp
  exact .sl e ys blk o cap f wg wD (fun i hi=>(h1 i hi).mono fun k hk=>⟨.inl hk,rfl⟩) hc
def KS.all(κ:KS):KS:={ κ with ok:=Om κ }
theorem RD.all{d:D}{v:Value}(h:RD κ d v):RD κ.all d v:=h.weaken fun _ hk=>.inl hk
theorem xv.all{l:List D}{vs:List Value}(h:xv κ l vs):xv κ.all l vs:=⟨h.1,fun i h1 h2=>(h.2 i h1 h2).all⟩
theorem Yo{x y:D}{v:Value}(hI:Inv κ)(hx:RD κ x v)(h:(p0 κ.st x).leads y):RD κ.all y v∧(x.one=true→y.one=true)∧(x.uy=false→y.uy=false):=by
 rcases ZT hI hx h with⟨rfl,_⟩ | ⟨e,ys,rfl,hs,_⟩
 ·exact⟨hx.all,id,id⟩
 ·exact⟨RD.my rfl (z7o hs),fun _=>rfl,fun _=>rfl⟩
theorem Gx(hI:Inv κ):∀ {l r:List D} {vs:List Value},xv κ l vs→(∀ d∈l,d.one=true)→(Yy κ.st l).leads r→xv κ.all r vs∧∀ d∈r,d.one=true
 | [],r,vs,h,_,hs=>by cases hs; rw[h.qG]; exact⟨.nil,nofun⟩
 | d::l,r,vs,h,ho,hs=>by
  simp only[Yy,T.zS]at hs
  obtain⟨x,hx,l',hl,rfl⟩:=hs
  obtain⟨v,us,rfl,h1,h2⟩:=h.cons_inv
  obtain⟨g1,g2,_⟩:=Yo hI h1 hx
  obtain⟨k1,k2⟩:=Gx hI h2 (fun d hd=>ho d (List.mem_cons_of_mem _ hd)) hl
  refine⟨.cons g1 k1,fun d hd => ?_⟩
  rcases List.mem_cons.1 hd with rfl | hd
  ·exact g2 (ho _ List.mem_cons_self)
  ·exact k2 d hd
theorem Ph{x y:D}{v:Value}(hI:Inv κ)(hx:RD κ x v)(h:(snap κ.st x).leads y):RD κ.all y v:=by
 cases x with
 | agg l =>
  simp only[snap,T.zS]at h
  obtain⟨r,hr,rfl⟩:=h
  cases hx with
  | agg _ vs hl ho hh =>
   obtain⟨g1,g2⟩:=Gx hI (⟨hl,hh⟩:xv κ l vs) ho hr
   exact .agg r vs g1.1 g2 g1.2
 | _=>exact(Yo hI hx h).1
theorem Xq{τ:Ty}{d:D}{x:den τ}{v:Value}(hI:Inv κ)(hd:RD κ d v)(h:(Qs κ.st τ d).leads x):RD κ.all (.zW τ x) v:=by
 simp only[Qs,T.zS,T.ue]at h
 obtain⟨y,h1,h2⟩:=h
 exact cE (Ph hI hd h1) h2
theorem YM{x y:D}(h:(p0 [] x).leads y):y=x:=by
 cases x with
 | ms=>simp[p0,T.leads]at h
 | _=>exact h.symm
theorem YV:∀ {l r:List D},(Yy [] l).leads r→r=l
 | [],_,h=>h.symm
 | d::l,r,h=>by
  simp only[Yy,T.zS]at h
  obtain⟨x,hx,l',hl,rfl⟩:=h
  rw[YM hx,YV hl]
theorem RL{x y:D}(h:(snap [] x).leads y):y=x:=by
 cases x with
 | agg l =>
  simp only[snap,T.zS]at h
  obtain⟨r,hr,rfl⟩:=h
  rw[YV hr]
 | _=>exact YM h
theorem BN{τ:Ty}{d:D}{x:den τ}{v:Value}(hd:RD κ d v)(h:(Qs [] τ d).leads x):RD κ (.zW τ x) v:=by
 simp only[Qs,T.zS,T.ue]at h
 obtain⟨y,h1,h2⟩:=h
 rw[RL h1]at h2
 exact cE hd h2
def Vz:D→Bool | .zW .. | .xo .. => true | _=>false
def M7:D→Bool
 | .xk _ l=>l.all Vz
 | d=>Vz d
theorem z0Z{d:D}(h:Vz d=true):M7 d=true:=by cases d<;>first | exact h | cases h
theorem J3{st:St}{τ:Ty}{d y:D}(h:(pA st τ d).leads y):Vz y=true:=by
 unfold pA at h
 split at h
 ·split at h
  ·cases h; rfl
  ·exact h.elim
 ·split at h
  ·split at h
   ·cases h; rfl
   ·exact h.elim
  ·exact h.elim
 ·exact h.elim
theorem Gq{τ:Ty}{d y:D}{v:Value}(hI:Inv κ)(hd:RD κ d v)(h:(pA κ.st τ d).leads y):RD κ.all y v:=by
 unfold pA at h
 split at h
 ·split at h
  ·rename_i x z hz
   cases h
   obtain⟨e,rfl⟩:=qz hz
   cases e
   exact hd.all
  ·exact h.elim
 ·rename_i b off
  split at h
  ·rename_i d' hb
   split at h
   ·rename_i z hz
    cases h
    cases ho:Nat.beq off 0 with
    | false=>rw[ho]at hz; cases hz
    | true =>
     rw[ho,cond_true]at hz
     have:=Nat.eq_of_beq_eq_true ho
     subst this
     obtain⟨blk,n,cs,t,g1,g2,g3,g4,g5⟩:=hI.blk b _ hb
     cases hd with
     | ptr _ _ lZ n' d1 Np hp =>
      rw[g1]at hp
      cases hp
      have wg:Om κ blk:=.inr ⟨b,n,g1⟩
      have ht:d'.uy=false:=by
       cases d' with
       | gB l=>simp[dM,D.uy]at hz
       | _=>rfl
      have hrc:=sn hz g4 g5.1 ht
      refine .xo τ z cs.toList blk 0 wg (hrc.mono fun k hk=>⟨.inl hk,rfl⟩) fun j v hj => ?_
      show κ.w.cell? _=_
      rw[tI g2,Nat.zero_add]
      simpa using hj
   ·exact h.elim
  ·exact h.elim
 ·exact h.elim
theorem YS{τ:Ty}{d y:D}{v:Value}(hd:RD κ d v)(h:(pA [] τ d).leads y):RD κ y v:=by
 unfold pA at h
 split at h
 ·split at h
  ·rename_i x z hz
   cases h
   obtain⟨e,rfl⟩:=qz hz
   cases e
   exact hd
  ·exact h.elim
 ·rename_i b off
  split at h
  ·rename_i d' hb; simp at hb
  ·exact h.elim
 ·exact h.elim
theorem BU{st:St}{p:W8}{d y:D}(h:(rN st p d).leads y):Vz y=true:=by
 cases p with
 | rp τ=>exact J3 h
 | im τ=>simp only[rN,T.zS]at h; obtain⟨x,_,rfl⟩:=h; rfl
theorem F2{p:W8}{d y:D}{v:Value}(hI:Inv κ)(hd:RD κ d v)(h:(rN κ.st p d).leads y):RD κ.all y v:=by
 cases p with
 | rp τ=>exact Gq hI hd h
 | im τ=>simp only[rN,T.zS]at h; obtain⟨x,hx,rfl⟩:=h; exact Xq hI hd hx
theorem FH{p:W8}{d y:D}{v:Value}(hd:RD κ d v)(h:(rN [] p d).leads y):RD κ y v:=by
 cases p with
 | rp τ=>exact YS hd h
 | im τ=>simp only[rN,T.zS]at h; obtain⟨x,hx,rfl⟩:=h; exact BN hd hx
theorem Qp{st:St}:∀ {ps:List W8} {ds r:List D},(cL st ps ds).leads r→∀ d∈r,Vz d=true
 | [],[],r,hs=>by cases hs; nofun
 | p::ps,d::ds,r,hs=>by
  simp only[cL,T.zS]at hs
  obtain⟨x,hx,l,hl,rfl⟩:=hs
  intro d' yv
  rcases List.mem_cons.1 yv with rfl | yv
  ·exact BU hx
  ·exact Qp hl d' yv
 | [],_::_,_,hs=>hs.elim
 | _::_,[],_,hs=>hs.elim
theorem WK(hI:Inv κ):∀ {ps:List W8} {ds r:List D} {vs:List Value},xv κ ds vs→(cL κ.st ps ds).leads r→xv κ.all r vs
 | [],[],r,vs,h,hs=>by cases hs; rw[h.qG]; exact .nil
 | p::ps,d::ds,r,vs,h,hs=>by
  simp only[cL,T.zS]at hs
  obtain⟨x,hx,l,hl,rfl⟩:=hs
  obtain⟨v,us,rfl,h1,h2⟩:=h.cons_inv
  exact .cons (F2 hI h1 hx) (WK hI h2 hl)
 | [],_::_,_,_,_,hs=>hs.elim
 | _::_,[],_,_,_,hs=>hs.elim
theorem WT:∀ {ps:List W8} {ds r:List D} {vs:List Value},xv κ ds vs→(cL [] ps ds).leads r→xv κ r vs
 | [],[],r,vs,h,hs=>by cases hs; rw[h.qG]; exact .nil
 | p::ps,d::ds,r,vs,h,hs=>by
  simp only[cL,T.zS]at hs
  obtain⟨x,hx,l,hl,rfl⟩:=hs
  obtain⟨v,us,rfl,h1,h2⟩:=h.cons_inv
  exact .cons (FH h1 hx) (WT h2 hl)
 | [],_::_,_,_,_,hs=>hs.elim
 | _::_,[],_,_,_,hs=>hs.elim
theorem ZL{st:St}{p:Qa}{d y:D}(h:(D4 st p d).leads y):(∃ τ x,p=.ty τ∧(Qs st τ d).leads x∧y=.zW τ x)∨(∃ τ,p=.rp τ∧(pA st τ d).leads y) ∨
  ∃ f caps l l',p=.xk f caps∧d=.xk f l∧(cL st caps l).leads l'∧y=.xk f l':=by
 cases p with
 | ty τ =>
  have h':((Qs st τ d).bind fun x=>T.ret (D.zW τ x)).leads y:=by cases d<;>exact h
  simp only[T.zS]at h'
  obtain⟨x,hx,rfl⟩:=h'
  exact .inl ⟨τ,x,rfl,hx,rfl⟩
 | rp τ=>exact .inr (.inl ⟨τ,rfl,by cases d<;>exact h⟩)
 | xk f caps =>
  cases d with
  | xk f' l =>
   simp only[D4]at h
   cases hb:Nat.beq f f' with
   | false=>rw[hb]at h; exact h.elim
   | true =>
    rw[hb,cond_true,T.zS]at h
    obtain⟨l',hl,rfl⟩:=h
    have:=Nat.eq_of_beq_eq_true hb
    subst this
    exact .inr (.inr ⟨f,caps,l,l',rfl,rfl,hl,rfl⟩)
  | _=>exact h.elim
theorem NV{st:St}{p:Qa}{d y:D}(h:(D4 st p d).leads y):M7 y=true:=by
 rcases ZL h with⟨τ,x,_,_,rfl⟩ | ⟨τ,_,h⟩ | ⟨f,caps,l,l',_,_,h',rfl⟩
 ·rfl
 ·exact z0Z (J3 h)
 ·exact List.all_eq_true.2 (Qp h')
theorem T8{p:Qa}{d y:D}{v:Value}(hI:Inv κ)(hd:RD κ d v)(h:(D4 κ.st p d).leads y):RD κ.all y v:=by
 rcases ZL h with⟨τ,x,_,hx,rfl⟩ | ⟨τ,_,h⟩ | ⟨f,caps,l,l',_,rfl,h',rfl⟩
 ·exact Xq hI hd hx
 ·exact Gq hI hd h
 ·cases hd with
  | xk _ _ vs hl hh =>
   have:=WK hI (⟨hl,hh⟩:xv κ l vs) h'
   exact .xk f l' vs this.1 this.2
theorem RE{p:Qa}{d y:D}{v:Value}(hd:RD κ d v)(h:(D4 [] p d).leads y):RD κ y v:=by
 rcases ZL h with⟨τ,x,_,hx,rfl⟩ | ⟨τ,_,h⟩ | ⟨f,caps,l,l',_,rfl,h',rfl⟩
 ·exact BN hd hx
 ·exact YS hd h
 ·cases hd with
  | xk _ _ vs hl hh =>
   have:=WT (⟨hl,hh⟩:xv κ l vs) h'
   exact .xk f l' vs this.1 this.2
theorem Q3{st:St}:∀ {ps:List Qa} {ds r:List D},(pj st ps ds).leads r→∀ d∈r,M7 d=true
 | [],[],r,hs=>by cases hs; nofun
 | p::ps,d::ds,r,hs=>by
  simp only[pj,T.zS]at hs
  obtain⟨x,hx,l,hl,rfl⟩:=hs
  intro d' yv
  rcases List.mem_cons.1 yv with rfl | yv
  ·exact NV hx
  ·exact Q3 hl d' yv
 | [],_::_,_,hs=>hs.elim
 | _::_,[],_,hs=>hs.elim
theorem Gu(hI:Inv κ):∀ {ps:List Qa} {ds r:List D} {vs:List Value},xv κ ds vs→(pj κ.st ps ds).leads r→xv κ.all r vs
 | [],[],r,vs,h,hs=>by cases hs; rw[h.qG]; exact .nil
 | p::ps,d::ds,r,vs,h,hs=>by
  simp only[pj,T.zS]at hs
  obtain⟨x,hx,l,hl,rfl⟩:=hs
  obtain⟨v,us,rfl,h1,h2⟩:=h.cons_inv
  exact .cons (T8 hI h1 hx) (Gu hI h2 hl)
 | [],_::_,_,_,_,hs=>hs.elim
 | _::_,[],_,_,_,hs=>hs.elim
theorem W0:∀ {ps:List Qa} {ds r:List D} {vs:List Value},xv κ ds vs→(pj [] ps ds).leads r→xv κ r vs
 | [],[],r,vs,h,hs=>by cases hs; rw[h.qG]; exact .nil
 | p::ps,d::ds,r,vs,h,hs=>by
  simp only[pj,T.zS]at hs
  obtain⟨x,hx,l,hl,rfl⟩:=hs
  obtain⟨v,us,rfl,h1,h2⟩:=h.cons_inv
  exact .cons (RE h1 hx) (W0 h2 hl)
 | [],_::_,_,_,hs,h=>h.elim
 | _::_,[],_,_,hs,h=>h.elim
def KS.bare(κ:KS)(ok:Nat→Prop):KS:=⟨κ.w,ok,[],[]⟩
theorem KH{ok:Nat→Prop}(hI:Inv κ)(hs:∀ k,κ.ok k→ok k)(h:∀ k,ok k→k<κ.w.heap.size):Inv (κ.bare ok) :=
 ⟨rfl,h,fun b blk n h=>by simp[KS.bare]at h,fun b b' blk n n' h=>by simp[KS.bare]at h,fun b x h=>by simp[KS.bare]at h,hI.gl.mono fun k hk=>⟨hs k hk,rfl⟩⟩
theorem o6{ok:Nat→Prop}{d:D}{v:Value}(hi:Vz d=true)(h:RD { κ with ok:=ok } d v):RD (κ.bare ok) d v:=by
 cases d with
 | zW τ x=>obtain⟨cs,h1,rfl⟩:=RD.b7 h; exact .zW τ x cs h1
 | xo τ x=>cases h with | xo _ _ cs blk off wg h hc=>exact .xo τ x cs blk off wg h hc
 | _=>cases hi
theorem G2{ok:Nat→Prop}{d:D}{v:Value}(hi:M7 d=true)(h:RD { κ with ok:=ok } d v):RD (κ.bare ok) d v:=by
 cases d with
 | xk f l =>
  cases h with
  | xk _ _ vs hl hh=>exact .xk f l vs hl fun i h1 h2=>o6 (List.all_eq_true.1 hi _ (List.getElem_mem h1)) (hh i h1 h2)
 | zW τ x=>exact o6 hi h
 | xo τ x=>exact o6 hi h
 | _=>cases hi
theorem DA{κ1:KS}{ok:Nat→Prop}(hI:Inv κ)(XV:Inv κ1)(xN:κ1.st=[])(hx:Ext (κ.bare ok) κ1)(Ve:Nat→Prop)(h1:∀ k,κ.ok k→Ve k)(h2:∀ k,Ve k→κ.ok k∨κ.w.heap.size≤k)(h3:∀ k,Ve k→k<κ1.w.heap.size) :
  Ext κ { κ with w:=κ1.w,ok:=Ve }∧Inv { κ with w:=κ1.w,ok:=Ve }:=by
 have hfr:∀ k,k<κ.w.heap.size→κ1.w.heap[k]? = κ.w.heap[k]? := fun k hk=>hx.frame k hk fun b n h=>by simp[KS.bare]at h
 have jk:κ.w.heap.size≤κ1.w.heap.size:=hx.size
 have he:Ext κ { κ with w:=κ1.w,ok:=Ve }:=⟨hx.os,hx.tape,hx.output,jk,fun k hk=>⟨h1 k hk,hfr k (hI.y5 k hk)⟩,fun k hk=>(h2 k hk).elim .inl (fun h=>.inr (.inl h)),fun _ _ _ h=>.inl h,fun b d h=>⟨⟨d,h⟩,rfl⟩,
  fun b v0 e xs h=>.inr ⟨v0,xs,h,Nat.le_refl _,fun _=>⟨rfl,rfl⟩⟩,fun _ h=>h,Nat.le_refl _,fun k hk _=>hfr k hk⟩
 refine⟨he,hI.len,h3,fun b blk n h => ?_,hI.inj,fun b x h=>(hI.blk b x h).mono he rfl fun blk n h=>hfr _ (hI.apart b blk n h).1,hI.gl.mono he.same⟩
 obtain⟨g1,g2⟩:=hI.apart b blk n h
 refine⟨Nat.lt_of_lt_of_le g1 jk,fun hk => ?_⟩
 rcases h2 blk hk with h | h
 ·exact g2 h
 ·exact absurd g1 (Nat.not_lt.2 h)
theorem NY{g:Nat}{args:List D}{qi:List Value}{d:Option D}{zL:St}(hs:By c.P g (c.fn g))(hI:Inv κ)(ha:xv κ args qi)
  (h:(zU (match c.sig g args with | some s=>bM c g s args | none=>tE c g args) κ.st).leads (d,zL)) :
  uE c.P g qi.toArray κ.w fun e w'=>∃ (κ':KS) (v:Value),κ'.w=w'∧κ'.st=zL∧Inv κ'∧Ext κ κ'∧e=.returned v∧∀ d',d=some d'→RD κ' d' v:=by
 split at h
 ·rename_i s Nr
  unfold bM at h
  cases hm:(!(args.any Kj))with
  | true =>
   rw[hm,cond_true,wE]at h
   obtain⟨h,rfl⟩:=h
   simp only[T.zS]at h
   obtain⟨l,hl,⟨rs,bG⟩,hc,hr⟩:=h
   have eA:=W0 ha hl
   have hb:xv (κ.bare κ.ok) l qi:=⟨eA.1,fun i h1 h2=>G2 (Q3 hl _ (List.getElem_mem h1)) (eA.2 i h1 h2)⟩
   refine(hs (κ.bare κ.ok) l qi rs bG hc (KH hI (fun _ h=>h) hI.y5) hb).mono ?_
   rintro e w' ⟨κ1,rfl,xN,XV,hx,he⟩
   unfold SL at hr
   split at hr
   ·rename_i ds heq
    cases heq
    cases hr
    obtain⟨v,rfl,hv⟩:=he
    obtain⟨hE,hI'⟩:=DA hI XV xN hx κ1.ok (fun k hk=>(hx.same k hk).1) (fun k hk=>by
     rcases hx.fresh k hk with h | h | ⟨b,n,h⟩
     ·exact .inl h
     ·exact .inr h
     ·simp[KS.bare]at h) XV.y5
    exact⟨{ κ with w:=κ1.w,ok:=κ1.ok },v,rfl,rfl,hI',hE,rfl,fun d' yv=>by cases yv; exact RD.free (κ:=κ1) (κ':={ κ with w:=κ1.w,ok:=κ1.ok }) rfl rfl xN hv⟩
   ·exact hr.elim
  | false =>
   rw[hm,cond_false,nf]at h
   obtain⟨h,rfl⟩:=h
   simp only[T.zS]at h
   obtain⟨l,hl,⟨rs,bG⟩,hc,hr⟩:=h
   have eA:=Gu hI ha hl
   have hb:xv (κ.bare (Om κ)) l qi:=⟨eA.1,fun i h1 h2=>G2 (Q3 hl _ (List.getElem_mem h1)) (eA.2 i h1 h2)⟩
   have qp:∀ k,Om κ k→k<κ.w.heap.size:=by
    rintro k (hk | ⟨b,n,hk⟩)
    ·exact hI.y5 k hk
    ·exact(hI.apart b k n hk).1
   refine(hs (κ.bare (Om κ)) l qi rs bG hc (KH hI (fun _ h=>.inl h) qp) hb).mono ?_
   rintro e w' ⟨κ1,rfl,xN,XV,hx,he⟩
   unfold tc at hr
   split at hr
   ·rename_i ds heq
    cases heq
    cases mY:ds.all sS with
    | false=>rw[mY]at hr; exact hr.elim
    | true =>
     rw[mY,cond_true]at hr
     cases hr
     obtain⟨v,rfl,hv⟩:=he
     obtain⟨hE,hI'⟩:=DA hI XV xN hx κ.ok (fun k hk=>hk) (fun k hk=>.inl hk) (fun k hk=>Nat.lt_of_lt_of_le (hI.y5 k hk) hx.size)
     refine⟨{ κ with w:=κ1.w,ok:=κ.ok },v,rfl,rfl,hI',hE,rfl,fun d' yv => ?_⟩
     cases yv
     have one:∀ d u,sS d=true→RD κ1 d u→RD { κ with w:=κ1.w,ok:=κ.ok } d u:=by
      intro d u hd hu
      cases d<;>simp[sS]at hd
      obtain⟨cs,h1,rfl⟩:=RD.b7 hu
      exact .zW _ _ cs (h1.scalar hd)
     have VP:=List.all_eq_true.1 mY
     unfold yW at hv ⊢
     split at hv
     ·exact one _ _ (VP _ (by simp)) hv
     ·rename_i uj
      cases hv with
      | gB _ vs hl hh=>exact .gB ds vs hl fun i h1 h2=>one _ _ (VP _ (List.getElem_mem h1)) (hh i h1 h2)
   ·exact hr.elim
 ·unfold tE at h
  simp only[zU,T.zS]at h
  obtain⟨⟨rs,bG⟩,hc,hr⟩:=h
  refine(hs κ args qi rs bG hc hI ha).mono ?_
  rintro e w' ⟨κ1,rfl,xN,XV,hx,he⟩
  cases rs with
  | bU p=>exact hr.elim
  | ret ds =>
   cases hr
   obtain⟨v,rfl,hv⟩:=he
   exact⟨κ1,v,rfl,xN,XV,hx,rfl,fun d' yv=>by cases yv; exact hv⟩
end
end Go.AM