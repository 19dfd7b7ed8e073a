/-
  The abstract machine, part B: texts of our own, the same for each claim.
-/
import Derived.Test.YtgadkkagiejlkaaGreatDoorAmA
import Derived.Lib.AppendStr
import Derived.WideLaws
import Derived.Laws.BytesArg
import Derived.Laws.CopyRow
import Derived.Laws.IdiomCopy
set_option linter.unusedVariables false
namespace Go.AM
set_option linter.unusedSectionVars false
variable [vP]
section
variable {c:Ctx} {κ κ':KS}
theorem de.mono(x:Ext κ κ'){b:Nat}(hp:κ'.ph[b]? = κ.ph[b]?)(hh:∀ blk n,κ.ph[b]? = some (some (blk,n))→κ'.w.heap[blk]? = κ.w.heap[blk]?){y:ju}(h:de κ b y):de κ' b y:=by
 cases y with
 | dead=>trivial
 | var d =>
  obtain⟨blk,n,cs,t,h1,h2,h3,h4,h5⟩:=h
  exact⟨blk,n,cs,t,hp.trans h1,(hh blk n h1).trans h2,h3,h4.mono x,h5⟩
 | arr qs e xs =>
  obtain⟨h0,h⟩:=h
  refine⟨h0,yE h (fun h=>⟨h.1,hp.trans h.2⟩) ?_⟩
  rintro⟨blk,n,cs,t,h1,h2,h3,h4,hr,f,h5⟩
  exact⟨blk,n,cs,t,hp.trans h1,(hh blk n h1).trans h2,h3,h4,hr,f,fun i hi=>⟨(h5 i hi).1.mono x.same,(h5 i hi).2⟩⟩
def KS.zi(κ:KS)(w':World):KS:={ κ with w:=w',ok:=fun k=>κ.ok k∨k=κ.w.heap.size }
structure bU(w w':World)(o:Obj):Prop where
 os:w'.os=w.os
 tape:w'.tape=w.tape
 output:w'.output=w.output
 heap:w'.heap=w.heap.push o
theorem bU.size{w w':World}{o:Obj}(g:bU w w' o):w'.heap.size=w.heap.size+1:=by rw[g.heap]; simp
theorem bU.old{w w':World}{o:Obj}(g:bU w w' o){k:Nat}(h:k<w.heap.size):w'.heap[k]? = w.heap[k]? := by
 rw[g.heap,Array.getElem?_push,if_neg (by omega)]
theorem bU.new{w w':World}{o:Obj}(g:bU w w' o):w'.heap[w.heap.size]? = some o:=by rw[g.heap]; simp
theorem bU.alloc(w:World)(o:Obj):bU w (w.alloc o) o:=⟨rfl,rfl,rfl,rfl⟩
theorem bU.drew(w:World)(o:Obj):bU w (w.drew.alloc o) o:=⟨rfl,rfl,rfl,rfl⟩
theorem Z5{w':World}{o:Obj}(hI:Inv κ)(g:bU κ.w w' o):Ext κ (κ.zi w'):=by
 refine⟨g.os,g.tape,g.output,by show κ.w.heap.size≤w'.heap.size; rw[g.size]; omega,fun k hk=>⟨.inl hk,g.old (hI.kY k hk)⟩,?_,fun _ _ _ h=>.inl h,fun b d h=>⟨⟨d,h⟩,rfl⟩,
  fun b v0 e xs h=>.inr ⟨v0,xs,h,Nat.le_refl _,fun _=>⟨rfl,rfl⟩⟩,fun _ h=>h,Nat.le_refl _,fun k hk _=>g.old hk⟩
 rintro k (hk | hk)
 ·exact .inl hk
 ·exact .inr (.inl (by omega))
theorem yh{w':World}{o:Obj}(hI:Inv κ)(g:bU κ.w w' o):Inv (κ.zi w'):=by
 refine⟨hI.len,?_,?_,hI.inj,?_,hI.gl.mono (Z5 hI g).same⟩
 ·rintro k (hk | hk)
  ·have:=hI.kY k hk; show k<w'.heap.size; rw[g.size]; omega
  ·show k<w'.heap.size; rw[g.size]; omega
 ·intro b blk n h
  obtain⟨h1,h2⟩:=hI.apart b blk n h
  refine⟨by show blk<w'.heap.size; rw[g.size]; omega,?_⟩
  rintro(hk | hk)
  ·exact h2 hk
  ·omega
 ·intro b x hx
  exact(hI.blk b x hx).mono (Z5 hI g) rfl fun blk n h=>g.old (hI.apart b blk n h).1
def KS.add(κ:KS)(w':World)(n:Nat)(x:ju):KS:={ κ with w:=w',ph:=κ.ph++[some (κ.w.heap.size,n)],st:=κ.st++[x] }
theorem mM{w':World}{o:Obj}{n:Nat}{x:ju}(hI:Inv κ)(g:bU κ.w w' o):Ext κ (κ.add w' n x):=by
 have xh:∀ b y,κ.st[b]? = some y→(κ.st++[x])[b]? = some y:=fun b y h=>by rw[List.getElem?_append_left (List.getElem?_eq_some_iff.1 h).1]; exact h
 have sP:∀ b y,κ.st[b]? = some y→(κ.ph++[some (κ.w.heap.size,n)])[b]? = κ.ph[b]? := fun b y h=>by
  rw[List.getElem?_append_left]; rw[hI.len]; exact(List.getElem?_eq_some_iff.1 h).1
 refine⟨g.os,g.tape,g.output,by show κ.w.heap.size≤w'.heap.size; rw[g.size]; omega,fun k hk=>⟨hk,g.old (hI.kY k hk)⟩,fun k hk=>.inl hk,?_,fun b d h=>⟨⟨d,xh b _ h⟩,sP b _ h⟩,
  fun b v0 e xs h=>.inr ⟨v0,xs,xh b _ h,Nat.le_refl _,fun _=>⟨sP b _ h,rfl⟩⟩,fun b h=>xh b _ h,by simp[KS.add],fun k hk _=>g.old hk⟩
 intro b blk m h
 simp only[KS.add]at h
 by_cases hb:b<κ.ph.length
 ·rw[List.getElem?_append_left hb]at h; exact .inl h
 ·rw[List.getElem?_append_right (by omega)]at h
  have:=List.mem_of_getElem? h
  simp at this
  exact .inr (by omega)
theorem lU(hI:Inv κ){w':World}{n:Nat}{x:ju}:(κ.add w' n x).ph[κ.st.length]? = some (some (κ.w.heap.size,n)):=by
 simp[KS.add,← hI.len]
theorem nD{w':World}{n:Nat}{x:ju}:(κ.add w' n x).st[κ.st.length]? = some x:=by simp[KS.add]
theorem tO{w':World}{o:Obj}{n:Nat}{x:ju}(hI:Inv κ)(g:bU κ.w w' o)(hx:de (κ.add w' n x) κ.st.length x):Inv (κ.add w' n x):=by
 have hold:∀ (b blk m:Nat),(κ.ph++[some (κ.w.heap.size,n)])[b]? = some (some (blk,m))→κ.ph[b]? = some (some (blk,m))∨(b=κ.ph.length∧blk=κ.w.heap.size):=by
  intro b blk m h
  by_cases hb:b<κ.ph.length
  ·rw[List.getElem?_append_left hb]at h; exact .inl h
  ·have X3:=(List.getElem?_eq_some_iff.1 h).1
   simp at X3
   have:b=κ.ph.length:=by omega
   subst this
   simp at h
   exact .inr ⟨rfl,h.1.symm⟩
 refine⟨by simp[KS.add,hI.len],?_,?_,?_,?_,hI.gl.mono (mM hI g).same⟩
 ·intro k hk; have:=hI.kY k hk; show k<w'.heap.size; rw[g.size]; omega
 ·intro b blk m h
  rcases hold b blk m h with h | ⟨rfl,rfl⟩
  ·obtain⟨h1,h2⟩:=hI.apart b blk m h
   exact⟨by show blk<w'.heap.size; rw[g.size]; omega,h2⟩
  ·exact⟨by show κ.w.heap.size<w'.heap.size; rw[g.size]; omega,fun hk=>absurd (hI.kY _ hk) (Nat.lt_irrefl _)⟩
 ·intro b b' blk m m' h h'
  rcases hold b blk m h with h | ⟨rfl,rfl⟩<;>rcases hold b' _ m' h' with h' | ⟨rfl,h''⟩
  ·exact hI.inj b b' blk m m' h h'
  ·have:=(hI.apart b blk m h).1; omega
  ·have:=(hI.apart b' _ m' h').1; omega
  ·rfl
 ·intro b y hy
  simp only[KS.add]at hy
  by_cases hb:b<κ.st.length
  ·rw[List.getElem?_append_left hb]at hy
   refine(hI.blk b y hy).mono (mM hI g) ?_ fun blk m h=>g.old (hI.apart b blk m h).1
   simp only[KS.add]
   rw[List.getElem?_append_left (by rw[hI.len]; exact hb)]
  ·have X3:=(List.getElem?_eq_some_iff.1 hy).1
   simp at X3
   have:b=κ.st.length:=by omega
   subst this
   simp at hy
   subst hy
   exact hx
theorem HA{d:D}{v:Value}{t:TypeId}(hI:Inv κ)(hd:RD κ d v)(ht:d.vN=false)(DN:∀ T,d.typed=some T→t=T) :
  ∃ κ':KS,κ'.w=κ.w.alloc (.cells v.cells t)∧κ'.st=κ.st++[.var d]∧Inv κ'∧Ext κ κ'∧RD κ' (.ptr κ.st.length 0) (.pointer (some ⟨κ.w.heap.size,0,none⟩)):=by
 have g:=bU.alloc κ.w (.cells v.cells t)
 have hx:=mM (n:=v.cells.size) (x:=.var d) hI g
 refine⟨κ.add _ v.cells.size (.var d),rfl,rfl,tO hI g ?_,hx,.ptr _ 0 _ v.cells.size d nD (lU hI)⟩
 exact⟨κ.w.heap.size,v.cells.size,v.cells,t,lU hI,g.new,rfl,(uD hd ht).mono hx,uz hd,DN⟩
theorem IM{t:Nat}{x:Option D}{v:Value}{d:Option D}{zu:St}(hI:Inv κ)(hx:∀ z,x=some z→RD κ z v)
  (h:(zG (Fp x) κ.st).leads (d,zu)) :
  qy c.P (do Pure.pure (.value (← Instr.box t v))) κ d zu:=by
 cases x with
 | none=>exact absurd h zg
 | some y =>
  simp only[Fp]at h
  cases ht:y.vN||y.typed.isSome with
  | true=>rw[ht]at h; exact absurd h zg
  | false =>
   rw[ht,cond_false]at h
   simp only[Bool.or_eq_false_iff]at ht
   obtain⟨ht,DN⟩:=ht
   have z5J:∀ T,y.typed=some T→t=T:=fun T e=>by rw[e]at DN; cases DN
   simp only[zG,T.leads,Prod.mk.injEq]at h
   obtain⟨rfl,rfl⟩:=h
   obtain⟨κ',h1,h2,h3,h4,h5⟩:=HA (t:=t) hI (hx _ rfl) ht z5J
   refine⟨κ',_,_,?_,.inl rfl,h2,h3,h4,fun _ he=>by cases he; exact h5⟩
   simp[Instr.box,newVar,newRow,h1]
theorem RF{d:D}{τ:Ty}{x:den τ}{v:Value}{t:TypeId}(hI:Inv κ)(hd:RD κ d v)(hx:gP τ d=some x) :
  ∃ κ':KS,κ'.w=κ.w.alloc (.cells v.cells t)∧κ'.st=κ.st∧Inv κ'∧Ext κ κ'∧RD κ' (.qK τ x) (.pointer (some ⟨κ.w.heap.size,0,none⟩)):=by
 have g:=bU.alloc κ.w (.cells v.cells t)
 have rA:=Z5 hI g
 obtain⟨cs,h1,h2⟩:=RD.yh (yZ hd hx)
 have hc:=pO h1.len h1.one
 rw[← h2]at hc
 have hn:(κ.w.alloc (.cells v.cells t)).heap[κ.w.heap.size]? = some (.cells v.cells t (0,0)):=g.new
 have oX:∀ j u,cs[j]? = some u→(κ.w.alloc (.cells v.cells t)).cell? ⟨κ.w.heap.size,0+j,none⟩=some u:=by
  intro j u hj
  simp only[World.cell?,hn,Nat.zero_add]
  rw[← hc]at hj
  simpa using hj
 exact⟨κ.zi _,rfl,rfl,yh hI g,rA,.qK τ x cs κ.w.heap.size 0 (.inr rfl) (h1.mono rA.same) oX⟩
theorem Yy{t:Nat}{x:Option D}{v:Value}{d:Option D}{zu:St}(hI:Inv κ)(hx:∀ z,x=some z→RD κ z v)
  (h:(zG (FJ c t x) κ.st).leads (d,zu)):qy c.P (do Pure.pure (.value (← Instr.box t v))) κ d zu:=by
 have key:∀ (y:D) (τ:Ty) (z:den τ),x=some y→gP τ y=some z→(zG (val (.qK τ z)) κ.st).leads (d,zu)→qy c.P (do Pure.pure (.value (← Instr.box t v))) κ d zu:=by
  intro y τ z hy hz h
  rw[xD]at h
  obtain⟨rfl,rfl⟩:=h
  obtain⟨κ',h1,h2,h3,h4,h5⟩:=RF (t:=t) hI (hx y hy) hz
  refine⟨κ',_,_,?_,.inl rfl,h2,h3,h4,fun _ he=>by cases he; exact h5⟩
  simp[Instr.box,newVar,newRow,h1]
 unfold FJ at h
 split at h
 ·rename_i τ z
  exact key _ τ z rfl (by simp[gP,wS]) h
 ·split at h
  ·split at h
   ·rename_i hz
    exact key _ _ _ rfl hz h
   ·exact absurd h zg
  ·exact absurd h zg
 ·exact absurd h zg
theorem GQ{t:Nat}{dst:Option Nat}{x:Option D}{v:Value}{d:Option D}{zu:St}(hI:Inv κ)(hx:∀ z,x=some z→RD κ z v)
  (h:(zG (Ik c t dst x) κ.st).leads (d,zu)):qy c.P (do Pure.pure (.value (← Instr.box t v))) κ d zu:=by
 unfold Ik at h
 cases hb:Tg c dst with
 | true=>rw[hb]at h; exact Yy hI hx h
 | false=>rw[hb]at h; exact IM hI hx h
theorem mV{v:Value}{d:D}(h:lh v=some d):RD κ d v∧d.one=true∧d.vN=false∧(∀ cs,v≠.agg cs):=by
 unfold lh at h
 split at h<;>cases h<;>refine⟨?_,rfl,rfl,fun _=>nofun⟩
 ·exact .int
 ·exact .bool
 ·rename_i s; have:=RD.str (κ:=κ) (s:=s.data.toList); simpa using this
 ·exact .xb
 ·exact .jE
 ·exact .vr
 ·exact .qQ
 ·exact .vq
theorem Qr{v:Value}{d:D}(h:su v=some d):RD κ d v∧d.vN=false:=by
 unfold su at h
 split at h
 ·rename_i cs
  split at h
  ·rename_i l hl
   cases h
   have hlen:l.length=cs.toList.length:=by have:=congrArg List.length (y7 hl); simpa using this.symm
   have iI:∀ x∈l,x.one=true:=by
    intro x hx
    have:some x∈cs.toList.map lh:=by rw[y7 hl]; exact List.mem_map.2 ⟨x,hx,rfl⟩
    obtain⟨u,_,hu⟩:=List.mem_map.1 this
    exact(mV (κ:=κ) hu).2.1
   have hr:=kJ (κ:=κ) (vs:=cs.toList) hl (by simp) (fun i d v hd hv=>by
    simp only[List.getElem?_map,hv,Option.map_some,Option.some.injEq]at hd
    exact(mV hd).1)
   refine⟨?_,rfl⟩
   have:=RD.agg l cs.toList hr.1 iI hr.2
   simpa using this
  ·cases h
 ·exact⟨(mV h).1,(mV (κ:=κ) h).2.2.1⟩
theorem rm{v:Value}{d:D}(h:lh v=some d):(∀ l,d≠.agg l)∧(∀ T,d≠.gz T)∧∀ b T,d≠.b6 b T:=by
 unfold lh at h
 split at h<;>cases h<;>exact⟨nofun,nofun,nofun⟩
theorem Y0{v:Value}{d:D}(h:su v=some d):d.typed=none:=by
 unfold su at h
 split at h
 ·rename_i cs
  split at h
  ·rename_i l hl
   cases h
   have hz:=y7 hl
   cases l with
   | nil=>rfl
   | cons x r =>
    have:some x∈cs.toList.map lh:=by rw[hz]; simp
    obtain⟨u,_,hu⟩:=List.mem_map.1 this
    obtain⟨_,h1,h2⟩:=rm hu
    cases x<;>first | rfl | exact absurd rfl (h1 _) | exact absurd rfl (h2 _ _)
  ·cases h
 ·have:=(rm h).1
  cases d<;>first | rfl | exact absurd rfl (this _)
structure ZD(t:Nat)(d:D)(z:Value):Prop where
 rd:∀ κ:KS,RD κ d z
 jY:d.vN=false
 ty:∀ T,d.typed=some T→t=T
theorem Ff{t:Nat}{d:D}{z:Value}(h:su z=some d):ZD t (F8 c t d) z:=by
 have h0:∀ κ:KS,RD κ d z:=fun κ=>(Qr h).1
 have h1:d.vN=false:=(Qr (κ:=⟨default,fun _=>False,[],[]⟩) h).2
 have h2:=Y0 h
 have same:ZD t d z:=⟨h0,h1,fun T e=>by rw[h2]at e; cases e⟩
 unfold F8
 split
 ·rename_i r
  cases hs:OB c t with
  | false=>exact same
  | true =>
   refine⟨fun κ => ?_,rfl,fun T e=>by cases e; rfl⟩
   cases h0 κ with
   | agg _ vs hl ho hh =>
    have hR:qG κ (.jE::r) vs:=⟨hl,hh⟩
    obtain⟨v,us,rfl,g1,g2⟩:=hR.cons_inv
    have hR2:qG κ (.gz t::r) (v::us):=.cons (by cases g1; exact .gz t) g2
    exact .agg _ _ hR2.1 (fun x hx=>by
     rcases List.mem_cons.1 hx with rfl | hx
     ·rfl
     ·exact ho x (List.mem_cons_of_mem _ hx)) hR2.2
 ·exact same
theorem bZ{t:Nat}{d:D}(h:ta c t=some d):∃ i z,c.P.info? t=some i∧i.zero=some z∧ZD t d z:=by
 unfold ta at h
 split at h
 ·rename_i i hi
  split at h
  ·rename_i z hz
   split at h
   ·rename_i d0 N3
    cases h
    exact⟨i,z,hi,hz,Ff N3⟩
   ·cases h
  ·cases h
 ·cases h
theorem Ge{t:Nat}{d:Option D}{zu:St}(hI:Inv κ)
  (h:(zG (fJ c t) κ.st).leads (d,zu)) :
  qy c.P (do Pure.pure (.value (← Instr.alloc t true (.tuple #[])))) κ d zu:=by
 unfold fJ at h
 split at h
 ·rename_i y hy
  obtain⟨i,z,h1,h2,h3⟩:=bZ hy
  simp only[zG,T.leads,Prod.mk.injEq]at h
  obtain⟨rfl,rfl⟩:=h
  obtain⟨κ',g1,g2,g3,g4,g5⟩:=HA (t:=t) hI (h3.rd κ) h3.jY h3.ty
  refine⟨κ',_,_,?_,.inl rfl,g2,g3,g4,fun _ he=>by cases he; exact g5⟩
  simp[Instr.alloc,zeroValue,typeInfo,h1,h2,newVar,newRow,g1]
 ·exact absurd h zg
end
end Go.AM
namespace Go.AM
set_option linter.unusedSectionVars false
variable [vP]
section
variable {c:Ctx} {κ:KS}
def KS.Kj(κ:KS)(b blk:Nat)(cs:Array Value)(x:ju):KS:={ κ with w:=κ.w.setRow blk cs,st:=κ.st.set b x }
def Alike:ju→ju→Prop
 | .var _,.var _=>True
 | .arr v e xs,.arr v' e' xs'=>e=e'∧v≤v'∧(v=v'→xs.length=xs'.length)
 | _,_=>False
theorem mB{b blk n:Nat}{cs:Array Value}{x y:ju}(hI:Inv κ)(hp:κ.ph[b]? = some (some (blk,n)))(hy:κ.st[b]? = some y)(ha:Alike y x):Ext κ (κ.Kj b blk cs x):=by
 have qh:b<κ.st.length:=(List.getElem?_eq_some_iff.1 hy).1
 have u7:∀ k,κ.ok k→k≠blk:=fun k hk e=>(hI.apart b blk n hp).2 (e▸hk)
 refine⟨rfl,rfl,rfl,by simp[KS.Kj],fun k hk=>⟨hk,setRow_other _ _ _ _ (u7 k hk)⟩,fun k hk=>.inl hk,fun _ _ _ h=>.inl h,?_,?_,?_,by simp[KS.Kj],?_⟩
 ·intro b' d hd
  refine⟨?_,rfl⟩
  simp only[KS.Kj,List.getElem?_set]
  split
  ·rename_i e
   subst e
   rw[hy]at hd; cases hd
   cases x<;>simp[Alike]at ha
   rename_i d'
   exact⟨d',rfl⟩
  ·exact⟨d,hd⟩
 ·intro b' v0 e iA hd
  refine .inr ?_
  simp only[KS.Kj,List.getElem?_set]
  split
  ·rename_i e'
   subst e'
   rw[hy]at hd; cases hd
   cases x<;>simp[Alike]at ha
   rename_i v1 e1 qp
   obtain⟨rfl,h1,h2⟩:=ha
   exact⟨v1,qp,rfl,h1,fun h=>⟨trivial,h2 h⟩⟩
  ·exact⟨v0,iA,hd,Nat.le_refl _,fun _=>⟨trivial,rfl⟩⟩
 ·intro b' hd
  simp only[KS.Kj,List.getElem?_set]
  split
  ·rename_i e
   subst e
   rw[hy]at hd; cases hd
   simp[Alike]at ha
  ·exact hd
 ·intro k hk hn
  exact setRow_other _ _ _ _ (fun e=>hn b n (e▸hp))
theorem Z2{b blk n:Nat}{cs:Array Value}{x y:ju}(hI:Inv κ)(hp:κ.ph[b]? = some (some (blk,n)))(hy:κ.st[b]? = some y)(ha:Alike y x)
  (hx:de (κ.Kj b blk cs x) b x):Inv (κ.Kj b blk cs x):=by
 refine⟨by simp[KS.Kj,hI.len],?_,?_,hI.inj,?_,hI.gl.mono (mB hI hp hy ha).same⟩
 ·intro k hk; show k<(κ.w.setRow blk cs).heap.size; rw[setRow_size]; exact hI.kY k hk
 ·intro b' iu m h
  obtain⟨h1,h2⟩:=hI.apart b' iu m h
  exact⟨by show iu<(κ.w.setRow blk cs).heap.size; rw[setRow_size]; exact h1,h2⟩
 ·intro b' z hz
  by_cases hb:b=b'
  ·subst hb
   simp only[KS.Kj,List.getElem?_set,if_pos]at hz
   split at hz
   ·cases hz; exact hx
   ·cases hz
  ·simp only[KS.Kj,List.getElem?_set,if_neg hb]at hz
   refine(hI.blk b' z hz).mono (mB hI hp hy ha) rfl fun iu m h => ?_
   refine setRow_other _ _ _ _ fun e => ?_
   subst e
   exact hb (hI.inj b b' _ n m hp h)
theorem Vm{d d':D}{t:Nat}(h:eI d d'=true)(hd:∀ T,d.typed=some T→t=T):∀ T,d'.typed=some T→t=T:=by
 intro T hT
 unfold eI at h
 rw[hT]at h
 simp only at h
 cases N3:d.typed with
 | none=>rw[N3]at h; cases h
 | some T' =>
  rw[N3]at h
  have e:=Nat.eq_of_beq_eq_true h
  exact(hd T' N3).trans e.symm
theorem fV{t:Nat}{n blk o:Nat}{v:Value}{cs:Array Value}{T:TypeId}(hn:cR c t=some n)(hv:v.cells.toList.length=n)(h1:∀ u∈v.cells.toList,u.oneCell'=true)
  (hg:κ.w.heap[blk]? = some (.cells cs T (0,0))) (hle:o+n≤cs.size) :
  (storeVar t ⟨blk,o,none⟩ v).run c.P κ.w=.ok () (κ.w.setRow blk (cs.toList.take o++v.cells.toList++cs.toList.drop (o+n)).toArray):=by
 have hs:v.cells.size=n:=by simpa using hv
 have:=run_storeCells_at c.P blk o T v.cells.toList 0 cs κ.w hg (by simp[hs]; omega) h1
 simp only[Nat.add_zero,hv]at this
 simp[storeVar,run_sizeOf hn,hs,this]
theorem cY{l:List D}{vs us:List Value}{x:List D}(h:qG κ l vs)(hx:qG κ x us)(o n:Nat) :
  qG κ (l.take o++x++l.drop (o+n)) (vs.take o++us++vs.drop (o+n)):=((h.take o).append hx).append (h.drop (o+n))
theorem eY{cs us:List Value}{o n:Nat}(hu:us.length=n)(ho:o+n≤cs.length)(p:Nat) :
  (cs.take o++us++cs.drop (o+n))[p]? = if p<o then cs[p]? else if p<o+n then us[p-o]? else cs[p]? := by
 have hto:(cs.take o).length=o:=by simp; omega
 by_cases h1:p<o
 ·rw[if_pos h1,List.append_assoc,List.getElem?_append_left (by omega),List.getElem?_take,if_pos h1]
 ·rw[if_neg h1,List.append_assoc,List.getElem?_append_right (by omega),hto]
  by_cases h2:p<o+n
  ·rw[if_pos h2,List.getElem?_append_left (by omega)]
  ·rw[if_neg h2,List.getElem?_append_right (by omega),List.getElem?_drop,hu]
   congr 1; omega
theorem WK{t:Nat}{d x r:D}{off:Nat}(h:JR c t d off x=some r):∃ n,cR c t=some n∧0<n∧(zW x).length=n∧off+n≤(zW d).length ∧
  zW r=(zW d).take off++zW x++(zW d).drop (off+n)∧((∀ y∈zW d,y.one=true)→(∀ y∈zW x,y.one=true)→∀ y∈zW r,y.one=true)∧x.vN=false:=by
 unfold JR at h
 split at h
 ·cases h
 ·rename_i n hn
  cases hb:Nat.blt 0 n&&Nat.beq n (zW x).length&&Nat.ble (off+n) (zW d).length with
  | false=>rw[hb]at h; cases h
  | true =>
   rw[hb,cond_true]at h
   simp only[Bool.and_eq_true]at hb
   obtain⟨⟨h0,h1⟩,h2⟩:=hb
   have h0':0<n:=Nat.le_of_ble_eq_true h0
   have sF:n=(zW x).length:=Nat.eq_of_beq_eq_true h1
   have Ni:=Nat.le_of_ble_eq_true h2
   have Va:x.vN=false:=by
    cases x with
    | jY l=>simp[zW]at sF; omega
    | _=>rfl
   cases hw:Nat.beq n (zW d).length with
   | true =>
    rw[hw,cond_true]at h
    cases h
    have h3:n=(zW d).length:=Nat.eq_of_beq_eq_true hw
    have h4:off=0:=by omega
    subst h4
    refine⟨n,hn,h0',sF.symm,Ni,?_,fun _ h=>h,Va⟩
    simp[h3]
   | false =>
    rw[hw,cond_false]at h
    cases h
    refine⟨n,hn,h0',sF.symm,Ni,rfl,fun hd hx y hy => ?_,Va⟩
    simp only[zW,List.mem_append]at hy
    rcases hy with(hy | hy) | hy
    ·exact hd y (List.mem_of_mem_take hy)
    ·exact hx y hy
    ·exact hd y (List.mem_of_mem_drop hy)
theorem iX{τ:Ty}{r:D}{x:den τ}{vs:List Value}(h:gP τ r=some x)(hr:qG κ (zW r) vs)(iI:∀ y∈zW r,y.one=true)(ht:r.vN=false):Rc κ.w κ.ok τ x vs:=by
 cases r with
 | zi σ y=>obtain⟨rfl,rfl⟩:=qe h; exact tV _ _ hr
 | agg l =>
  have:=yZ (RD.agg l vs hr.1 iI hr.2) h
  obtain⟨cs,h1,h2⟩:=RD.yh this
  have hc:=pO h1.len h1.one
  rw[← h2]at hc
  simp only[Value.cells]at hc
  rw[← hc]at h1
  simpa using h1
 | jY l=>cases ht
 | _ =>
  obtain⟨v,r',rfl,h1,h2⟩:=qG.cons_inv hr
  have e2:=h2.qo
  subst e2
  have h3:=yZ h1 h
  obtain⟨cs,h4,h5⟩:=RD.yh h3
  have N4:τ.isAgg=false:=by
   cases hta:τ.isAgg with
   | false=>rfl
   | true=>simp[gP,D.isAgg,hta]at h
  obtain⟨u,rfl⟩:=h4.single N4
  rw[Qx N4]at h5
  rwa [h5]
theorem GJ{t:Nat}{a x:Option D}{v u:Value}{d:Option D}{zu:St}(hI:Inv κ)(ha:∀ z,a=some z→RD κ z v)(hx:∀ z,x=some z→RD κ z u)
  (h:(zG (tX c t a x) κ.st).leads (d,zu)):qy c.P (do Instr.storeAt t v u; Pure.pure .skip) κ d zu:=by
 unfold tX at h
 split at h
 ·rename_i b off y
  simp only[zG]at h
  split at h
  ·rename_i d0 hb
   split at h
   ·rename_i r hr
    cases w8:eI d0 r with
    | false=>rw[w8]at h; exact h.elim
    | true =>
    rw[w8,cond_true]at h
    simp only[T.leads,Prod.mk.injEq]at h
    obtain⟨rfl,rfl⟩:=h
    obtain⟨n,hn,h0,Uw,hle,KL,iI,Va⟩:=WK hr
    cases ha _ rfl with
    | ptr _ _ blk m d1 hd hp =>
     obtain⟨iu,m',cs,T,g1,g2,g3,g4,g5⟩:=hI.blk b _ hb
     rw[hp]at g1
     cases g1
     have hy:=hx _ rfl
     have Mn:=uD hy Va
     have Ma:u.cells.toList.length=n:=by rw[← Mn.1]; exact Uw
     have uj:off+n≤cs.size:=by have:=g4.1; simp at this; omega
     have h1:∀ z∈u.cells.toList,z.oneCell'=true:=by
      intro z hz
      obtain⟨i,hi,rfl⟩:=List.getElem_of_mem hz
      exact(Mn.2 i (Mn.1▸hi) hi).Vu (uz hy _ (List.getElem_mem _))
     have xQ:=fV (c:=c) (κ:=κ) hn Ma h1 g2 uj
     have ir:Alike (.var d0) (.var r):=trivial
     let cg:=(cs.toList.take off++u.cells.toList++cs.toList.drop (off+n)).toArray
     have hex:=mB (cs:=cg) (x:=.var r) hI hp hb ir
     refine⟨κ.Kj b blk cg (.var r),.skip,undef,?_,.inr ⟨rfl,rfl⟩,rfl,Z2 hI hp hb ir ?_,hex,fun _ he=>by cases he⟩
     ·simp only[Sem.run_bind,Instr.storeAt,Instr.sureAddr,Sem.run_pure,Result.andThen_ok,xQ]; rfl
     ·refine⟨blk,m,cg,T,hp,setRow_heap _ _ _ _ _ _ g2,?_,?_,iI g5.1 (uz hy),Vm w8 g5.2⟩
      ·have hc:cs.toList.length=cs.size:=by simp
       simp[cg,Ma,← g3]; omega
      ·rw[KL]; exact(cY g4 Mn off n).mono hex
   ·exact h.elim
  ·exact h.elim
 ·rename_i b qs e idx off y
  simp only[zG]at h
  split at h
  ·rename_i uZ e' xs hb
   cases he:decide (e'=e)with
   | false=>rw[he]at h; exact h.elim
   | true =>
    rw[he,cond_true]at h
    have Ea:e'=e:=of_decide_eq_true he
    subst Ea
    obtain⟨⟨rfl,qh⟩,h⟩:=h
    split at h
    ·rename_i r hr
     split at h
     ·rename_i z hz
      simp only[T.leads,Prod.mk.injEq]at h
      obtain⟨rfl,rfl⟩:=h
      obtain⟨n,hn,h0,Uw,hle,KL,iI,Va⟩:=WK hr
      cases ha _ rfl with
      | vM _ _ _ _ _ blk o hold hp =>
       obtain⟨m,p1,rfl⟩:=hp xs hb qh
       obtain⟨uj,⟨X6,_⟩ | ⟨iu,n',cs,T,g1,g2,g3,g4,gr,f,g5⟩⟩:=hI.blk b _ hb
       ·subst X6; cases qh
       ·rw[p1]at g1
        cases g1
        rw[tR qh]at hr KL hle iI
        have hy:=hx _ rfl
        have Mn:=uD hy Va
        have Ma:u.cells.toList.length=n:=by rw[← Mn.1]; exact Uw
        obtain⟨k1,k2⟩:=g5 idx qh
        have Kb:=k1.len
        have Xz:off+n≤e'.size:=by simpa[zW,pe]using hle
        have z8X:idx*e'.size+e'.size≤xs.length*e'.size:=by rw[← Nat.succ_mul]; exact Nat.mul_le_mul_right _ qh
        have Cf:idx*e'.size+off+n≤cs.size:=by omega
        have h1:∀ z∈u.cells.toList,z.oneCell'=true:=by
         intro z hz
         obtain⟨i,hi,rfl⟩:=List.getElem_of_mem hz
         exact(Mn.2 i (Mn.1▸hi) hi).Vu (uz hy _ (List.getElem_mem _))
        have xQ:=fV (c:=c) (κ:=κ) hn Ma h1 g2 Cf
        have ir:Alike (.arr qs e' xs) (.arr qs e' (xs.set idx z)):=⟨rfl,Nat.le_refl _,fun _=>by simp⟩
        let cg:=(cs.toList.take (idx*e'.size+off)++u.cells.toList++cs.toList.drop (idx*e'.size+off+n)).toArray
        have hex:=mB (cs:=cg) (x:=.arr qs e' (xs.set idx z)) hI p1 hb ir
        refine⟨κ.Kj b blk cg (.arr qs e' (xs.set idx z)),.skip,undef,?_,.inr ⟨rfl,rfl⟩,rfl,Z2 hI p1 hb ir ?_,hex,fun _ he=>by cases he⟩
        ·simp only[Sem.run_bind,Instr.storeAt,Instr.sureAddr,Sem.run_pure,Result.andThen_ok,xQ]; rfl
        ·have hlen:cg.size=cs.size:=by simp[cg,Ma]; omega
         refine⟨uj,.inr ⟨blk,m,cg,T,p1,setRow_heap _ _ _ _ _ _ g2,by rw[hlen]; exact g3,by simpa using g4,?_⟩⟩
         -- cells of the element that is written
         let fi:=(f idx).take off++u.cells.toList++(f idx).drop (off+n)
         have z5S:qG κ (zW r) fi:=by
          rw[KL]
          exact cY (lj k1) Mn off n
         have hrt:r.vN=false:=by
          cases r with
          | jY l =>
           have h6:=congrArg List.length KL
           rw[List.length_append,List.length_append,Uw]at h6
           have h7:(zW (D.jY l)).length=0:=rfl
           omega
          | _=>rfl
         have Y9:=iX hz z5S (iI (gH _ _) (uz hy)) hrt
         have CW:∀ p,cg[p]? = if p<idx*e'.size+off then cs[p]? else if p<idx*e'.size+off+n then u.cells.toList[p-(idx*e'.size+off)]? else cs[p]? := by
          intro p
          have:=eY (cs:=cs.toList) (us:=u.cells.toList) Ma (by simpa using Cf) p
          simpa only[cg,List.getElem?_toArray,Array.getElem?_toList]using this
         have z4z:∀ j,fi[j]? = if j<off then(f idx)[j]? else if j<off+n then u.cells.toList[j-off]? else(f idx)[j]? := fun j=>eY Ma (by omega) j
         refine⟨gr,fun i=>if i=idx then fi else f i,fun i hi => ?_⟩
         rw[List.length_set]at hi
         by_cases hii:i=idx
         ·subst hii
          simp only[if_true,List.getElem_set_self]
          refine⟨Y9.mono hex.same,fun j w hj => ?_⟩
          rw[z4z]at hj
          rw[CW]
          split at hj
          ·rw[if_pos (by omega)]; exact k2 j w hj
          ·split at hj
           ·rw[if_neg (by omega),if_pos (by omega)]; rw[← hj]; congr 1; omega
           ·rw[if_neg (by omega),if_neg (by omega)]; exact k2 j w hj
         ·simp only[if_neg hii]
          obtain⟨q1,q2⟩:=g5 i hi
          refine⟨by rw[List.getElem_set_ne (fun e=>hii e.symm)]; exact q1.mono hex.same,fun j w hj => ?_⟩
          have Hg:j<e'.size:=by rw[← q1.len]; exact(List.getElem?_eq_some_iff.1 hj).1
          rw[CW]
          rcases Nat.lt_or_gt_of_ne hii with tK | hgt'
          ·have:i*e'.size+e'.size≤idx*e'.size:=by rw[← Nat.succ_mul]; exact Nat.mul_le_mul_right _ tK
           rw[if_pos (by omega)]; exact q2 j w hj
          ·have:idx*e'.size+e'.size≤i*e'.size:=by rw[← Nat.succ_mul]; exact Nat.mul_le_mul_right _ hgt'
           rw[if_neg (by omega),if_neg (by omega)]; exact q2 j w hj
     ·exact h.elim
    ·exact h.elim
  ·exact h.elim
 ·exact absurd h zg
end
end Go.AM
namespace Go.AM
set_option linter.unusedSectionVars false
variable [vP]
section
variable {c:Ctx} {κ:KS}
theorem sA:∀ (vs:List Value) (cells:Array Value) (off k:Nat),off+k+vs.length≤cells.size →
  ((vs.zipIdx k).foldl (fun(cs:Array Value) (p:Value×Nat)=>cs.setIfInBounds (off+p.2) p.1) cells).toList=cells.toList.take (off+k)++vs++cells.toList.drop (off+k+vs.length)
 | [],cells,off,k,_=>by simp
 | v::vs,cells,off,k,h=>by
  simp only[List.length_cons]at h
  simp only[List.zipIdx_cons,List.foldl_cons]
  rw[sA vs _ off (k+1) (by simp; omega)]
  have qh:off+k<cells.toList.length:=by simp; omega
  simp only[Array.toList_setIfInBounds,List.length_cons]
  have e1:(cells.toList.set (off+k) v).take (off+(k+1))=cells.toList.take (off+k)++[v]:=by
   rw[show off+(k+1)=off+k+1 by omega,List.take_succ_eq_append_getElem (by simpa using qh)]
   rw[List.take_set_of_le (Nat.le_refl _)]
   simp
  have e2:(cells.toList.set (off+k) v).drop (off+(k+1)+vs.length)=cells.toList.drop (off+k+(vs.length+1)):=by
   rw[List.drop_set_of_lt (by omega)]
   congr 1; omega
  rw[e1,e2]
  simp
theorem JF{place:Nat→Option (Nat×Nat)}{cells:Array Value}{i off size:Nat}{v:Value}{rest:List (Nat×Value)}(hp:place i=some (off,size))(hs:v.cells.toList.length=size)(hle:off+size≤cells.size) :
  Instr.fill place cells ((i,v)::rest)=Instr.fill place (cells.toList.take off++v.cells.toList++cells.toList.drop (off+size)).toArray rest:=by
 have hs':v.cells.size=size:=by simpa using hs
 have hf:=sA v.cells.toList cells off 0 (by simp[hs']; omega)
 simp only[Nat.add_zero,hs]at hf
 conv=>lhs; unfold Instr.fill
 simp only[hp]
 rw[if_neg (by simp[hs']; omega)]
 congr 1
 apply Array.ext'
 rw[← Array.foldl_toList,Array.toList_zipIdx]
 exact hf
theorem W4{e:Ty}{x:den e}{v:Value}(h:RD κ (.zi e x) v):Rc κ.w κ.ok e x v.cells.toList:=by
 obtain⟨cs,h1,rfl⟩:=RD.yh h
 rw[pO h1.len h1.one]; exact h1
theorem W8{e:Ty}{F:Operand→Option D}{G:Operand→Value}(hF:∀ x d,F x=some d→RD κ d (G x)):∀ (L:List (Nat×Operand)) (k:Nat) (cells:Array Value) (l:List (den e)),
  Wm e k (L.map fun p=>(p.1,F p.2))=some l→(k+L.length)*e.size≤cells.size →
  ∃ cf,Instr.fill (fun i=>some (i*e.size,e.size)) cells (L.map fun p=>(p.1,G p.2))=some cf∧cf.size=cells.size∧(∀ p,p<k*e.size→cf[p]? = cells[p]?)∧l.length=L.length ∧
   ∃ f:Nat→List Value,∀ i (hi:i<l.length),Rc κ.w κ.ok e l[i] (f i)∧∀ j v,(f i)[j]? = some v→cf[(k+i)*e.size+j]? = some v
 | [],k,cells,l,h,_=>by
  simp only[List.map_nil,Wm,Option.some.injEq]at h
  subst h
  exact⟨cells,rfl,rfl,fun _ _=>rfl,rfl,fun _=>[],fun i hi=>absurd hi (Nat.not_lt_zero i)⟩
 | (i,x)::L,k,cells,l,h,hle=>by
  simp only[List.map_cons]at h
  cases hx:F x with
  | none=>rw[hx]at h; simp[Wm]at h
  | some d =>
   rw[hx]at h
   simp only[Wm]at h
   cases hb:Nat.beq k i with
   | false=>rw[hb]at h; cases h
   | true =>
    have Sj:k=i:=Nat.eq_of_beq_eq_true hb
    subst Sj
    rw[hb,cond_true]at h
    split at h
    ·rename_i y l' hy Cb
     cases h
     have hr:=W4 (yZ (hF x d hx) hy)
     have hlen:=hr.len
     simp only[List.length_cons]at hle
     have hk1:(k+(L.length+1))*e.size=k*e.size+e.size+L.length*e.size:=by rw[Nat.add_mul,Nat.add_mul]; omega
     have oX:k*e.size+e.size≤cells.size:=by omega
     let c1:=(cells.toList.take (k*e.size)++(G x).cells.toList++cells.toList.drop (k*e.size+e.size)).toArray
     have Ce:c1.size=cells.size:=by simp only[c1,List.size_toArray,List.length_append,List.length_take,List.length_drop,hlen,Array.length_toList]; omega
     have hg:∀ p,c1[p]? = if p<k*e.size then cells[p]? else if p<k*e.size+e.size then(G x).cells.toList[p-k*e.size]? else cells[p]? := by
      intro p
      have:=eY (cs:=cells.toList) (us:=(G x).cells.toList) hlen (by simpa using oX) p
      simpa only[c1,List.getElem?_toArray,Array.getElem?_toList]using this
     obtain⟨cf,h1,h2,h3,h4,f,h5⟩:=W8 hF L (k+1) c1 l' Cb (by rw[Ce,show k+1+L.length=k+(L.length+1) by omega]; exact hle)
     refine⟨cf,?_,h2.trans Ce,?_,by simp[h4],fun i=>match i with | 0=>(G x).cells.toList | i+1=>f i,?_⟩
     ·simp only[List.map_cons]
      rw[JF rfl hlen oX]
      exact h1
     ·intro p hp
      rw[h3 p (by rw[Nat.add_mul]; omega),hg,if_pos hp]
     ·intro i hi
      cases i with
      | zero =>
       refine⟨hr,fun j v hj => ?_⟩
       have Hg:j<e.size:=by rw[← hlen]; exact(List.getElem?_eq_some_iff.1 hj).1
       have yF:(k+1)*e.size=k*e.size+e.size:=by rw[Nat.add_mul]; omega
       rw[Nat.add_zero,h3 _ (by omega),hg,if_neg (by omega),if_pos (by omega),Nat.add_sub_cancel_left]
       exact hj
      | succ i =>
       have:=h5 i (by simpa using hi)
       rw[show k+1+i=k+(i+1) by omega]at this
       exact this
    ·cases h
theorem iU{t n:Nat}(h:fp c t=some n):∃ i,c.P.info? t=some i∧i.bytes=n:=by
 unfold fp at h
 cases hi:c.P.info? t with
 | none=>simp[hi]at h
 | some i=>exact⟨i,rfl,by simpa[hi]using h⟩
theorem cK{et:Nat}{e:Ty}{z:den e}(h:zeroOf c et e=some z):∃ i v,c.P.info? et=some i∧i.zero=some v∧Rc κ.w κ.ok e z v.cells.toList:=by
 unfold zeroOf at h
 split at h
 ·rename_i d hd
  obtain⟨i,v,h1,h2,h3⟩:=bZ hd
  exact⟨i,v,h1,h2,W4 (yZ (h3.rd κ) h)⟩
 ·cases h
theorem tB{t n:Nat}{L:List (Nat×Operand)}{F:Operand→Option D}{G:Operand→Value}{d:Option D}{zu:St}(hI:Inv κ)(hF:∀ x d,F x=some d→RD κ d (G x))
  (h:(zG (eZ c t n (L.map fun p=>(p.1,F p.2))) κ.st).leads (d,zu)) :
  qy c.P (do Pure.pure (.value (← Instr.buildSlice t n (L.map fun p=>(p.1,G p.2)).toArray))) κ d zu:=by
 unfold eZ at h
 split at h
 ·exact absurd h zg
 ·rename_i et het
  have hu:=vI het
  split at h
  ·rename_i e DN
   cases hb:jb c et e&&Nat.beq n (L.map fun p=>(p.1,F p.2)).length&&Nat.ble n 1000&&Nat.ble e.size 100&&(zeroOf c et e).isSome with
   | false=>rw[hb]at h; exact absurd h zg
   | true =>
    rw[hb,cond_true]at h
    simp only[Bool.and_eq_true]at hb
    obtain⟨⟨⟨⟨w8,hn⟩,h1⟩,h2⟩,h3⟩:=hb
    have Rl:n=L.length:=by have:=Nat.eq_of_beq_eq_true hn; simpa using this
    have sF:=Nat.le_of_ble_eq_true h1
    have Ni:=Nat.le_of_ble_eq_true h2
    obtain⟨hs,_⟩:=wY w8
    obtain⟨z,hz⟩:=Option.isSome_iff_exists.1 h3
    obtain⟨i,zv,Gx,X1,TN⟩:=cK (κ:=κ) hz
    split at h
    ·rename_i l hl
     cases Ia:Nat.beq n 0&&Nat.blt 0 e.size with
     | true =>
     rw[Ia,cond_true]at h
     simp only[Bool.and_eq_true]at Ia
     obtain⟨Ia,uj⟩:=Ia
     have Cf:0<e.size:=Nat.le_of_ble_eq_true uj
     have DS:=Nat.eq_of_beq_eq_true Ia
     have hL:L=[]:=List.eq_nil_of_length_eq_zero (Rl.symm.trans DS)
     subst hL
     subst DS
     simp only[zG,T.leads,Prod.mk.injEq]at h
     obtain⟨rfl,rfl⟩:=h
     have g:=bU.alloc κ.w (.cells #[] et)
     have hex:=mM (n:=0) (x:=.arr 0 e ([]:List (den e))) hI g
     have xQ:(Instr.buildSlice t 0 (([]:List (Nat×Operand)).map fun p=>(p.1,G p.2)).toArray).run c.P κ.w=.ok (.slice (some ⟨κ.w.heap.size,0,none⟩) 0 0) (κ.w.alloc (.cells #[] et)):=by
      simp[Instr.buildSlice,Sem.run_bind,run_underlying hu,Result.andThen_ok,run_sizeOf hs,Instr.fill,newRow]
      have e0:∀ g:Nat→Value,(Array.range 0).map g = #[]:=fun g=>by simp
      rw[e0]
     refine⟨κ.add _ 0 (.arr 0 e []),_,.slice (some ⟨κ.w.heap.size,0,none⟩) 0 0,by simp only[Sem.run_bind,xQ,Result.andThen_ok]; rfl,.inl rfl,rfl,tO hI g ?_,hex,?_⟩
     ·exact⟨Cf,.inr ⟨κ.w.heap.size,0,#[],et,lU hI,g.new,rfl,by simp,pB w8,fun _=>[],fun i hi=>absurd hi (Nat.not_lt_zero i)⟩⟩
     ·intro d' j9
      cases j9
      refine .ms _ 0 e 0 0 0 _ (.inr ⟨0,e,_,nD,Nat.le_refl _⟩) (by omega) nofun (fun p hp=>by cases hp; rfl) fun xs tU => ?_
      rw[nD]at tU
      cases tU
      exact⟨by simp,.inr ⟨κ.w.heap.size,0,0,0,lU hI,rfl,by omega,by simp,.inl rfl⟩⟩
     | false =>
     rw[Ia,cond_false,xD]at h
     obtain⟨rfl,rfl⟩:=h
     subst Rl
     have hle:L.length*e.size≤100000:=Nat.le_trans (Nat.mul_le_mul sF Ni) (by decide)
     have DX:zv.cells.size=e.size:=by have:=TN.len; simpa using this
     let cells:Array Value:=(Array.range (L.length*e.size)).map ((if L.length*e.size=0 then #[]else zv.cells)[· % (if L.length*e.size=0 then #[]else zv.cells).size]!)
     have Y8:cells.size=L.length*e.size:=by simp[cells]
     obtain⟨cf,g1,g2,_,g4,f,g5⟩:=W8 hF L 0 cells l hl (by rw[Y8]; simp)
     have g:=bU.alloc κ.w (.cells cf et)
     have hex:=Z5 hI g
     refine⟨κ.zi _,_,.slice (some ⟨κ.w.heap.size,0,none⟩) L.length L.length,?_,.inl rfl,rfl,yh hI g,hex,?_⟩
     ·have Jw:Instr.fill (fun i=>some (i*e.size,e.size)) cells (L.map fun p=>(p.1,G p.2))=some cf:=g1
      simp only[cells]at Jw
      simp only[Instr.buildSlice,Sem.run_bind,run_underlying hu,Result.andThen_ok,run_sizeOf hs,gt_iff_lt,if_neg (show ¬ 2 ^ 24<L.length*e.size by omega)]
      by_cases h0:L.length*e.size=0
      ·simp only[if_pos h0]at Jw ⊢
       simp only[Sem.run_bind,Sem.run_pure,Result.andThen_ok,Jw]
       simp[newRow,KS.zi]
      ·simp only[if_neg h0]at Jw ⊢
       simp only[Sem.run_bind,Sem.run_pure,Result.andThen_ok,zeroValue,typeInfo,run_program,Gx,X1,Jw]
       simp[newRow,KS.zi]
     ·intro d' j9
      cases j9
      have oX:∀ i,i<l.length→∀ j v,(f i)[j]? = some v→(κ.zi (κ.w.alloc (.cells cf et))).w.cell? ⟨κ.w.heap.size,0+i*e.size+j,none⟩=some v:=by
       intro i hi j v hj
       have:=(g5 i hi).2 j v hj
       simp only[Nat.zero_add]at this ⊢
       rw[mj (κ:=κ.zi (κ.w.alloc (.cells cf et))) g.new]
       exact this
      rw[← g4]
      refine .tight e l _ κ.w.heap.size 0 f ?_ (.inr rfl) (fun i hi=>(g5 i hi).1.mono hex.same) oX
      intro u7 X6
      subst X6
      simp at g4
      simp[← g4]at u7
    ·exact absurd h zg
  ·exact absurd h zg
end
end Go.AM
namespace Go.AM
set_option linter.unusedSectionVars false
variable [vP]
section
variable {c:Ctx} {κ:KS}
theorem C8{t:Nat}{x y:Option D}{v u:Value}{d:Option D}{zu:St}(hI:Inv κ)(hx:∀ z,x=some z→RD κ z v)(hy:∀ z,y=some z→RD κ z u)
  (h:(zG (Gj c t x y) κ.st).leads (d,zu)):qy c.P (do Pure.pure (.value (← Instr.makeSlice t v u))) κ d zu:=by
 unfold Gj at h
 split at h
 ·rename_i et k n k' m het hn hm
  have hu:=vI het
  have:=vE hn hx
  subst this
  have:=vE hm hy
  subst this
  split at h
  ·rename_i e bytes DN DP
   split at h
   ·rename_i z hz
    cases hb:jb c et e&&Nat.blt 0 e.size with
    | false=>rw[hb]at h; exact absurd h zg
    | true =>
     rw[hb,cond_true]at h
     simp only[Bool.and_eq_true]at hb
     obtain⟨w8,uj⟩:=hb
     have Cf:0<e.size:=Nat.le_of_ble_eq_true uj
     obtain⟨hs,_⟩:=wY w8
     simp only[zG,T.leads,Prod.mk.injEq]at h
     obtain⟨⟨h0,h1,h2,h3⟩,rfl,rfl⟩:=h
     obtain⟨i,zv,Gx,X1,TN⟩:=cK (κ:=κ) hz
     obtain⟨ib,SM,z3s⟩:=iU DP
     obtain⟨i',z1n,z9a⟩:=bA hs
     rw[Gx]at SM z1n
     cases SM
     cases z1n
     have DX:zv.cells.size=e.size:=by have:=TN.len; simpa using this
     let N:=m.toNat*e.size
     let cells:Array Value:=(Array.range N).map (zv.cells[· % zv.cells.size]!)
     have Y8:cells.size=N:=by simp[cells]
     have xQ:(Instr.makeSlice t (.int k n) (.int k' m)).run c.P κ.w=.ok (.slice (some ⟨κ.w.heap.size,0,none⟩) n.toNat m.toNat) (κ.w.alloc (.cells cells et)):=by
      have w1:IntKind.i64.wrap n=n:=IntWalk.i64_in _ (by omega)
      have w2:IntKind.i64.wrap m=m:=IntWalk.i64_in _ (by omega)
      have hmb:¬ ((2:Int) ^ 48<bytes*m):=by
       have e1:(m*bytes:Int)=bytes*m:=Int.mul_comm _ _
       omega
      have ai:∀ k n w,(Go.asInt (.int k n)).run c.P w=.ok n w:=fun k n w=>by simp[Go.asInt,asIntOf]
      have hm0:¬ (m<0):=by omega
      have DS:¬ (n<0):=by omega
      have Sh:¬ (m<n):=by omega
      simp only[Instr.makeSlice,Sem.run_bind,run_underlying hu,Result.andThen_ok,ai,typeInfo,run_program,Gx,z3s,w1,w2,Sem.run_pure,gt_iff_lt,hm0,DS,Sh,hmb,decide_false,Bool.or_self,Bool.false_eq_true,if_false,run_askRoom,run_sizeOf hs]
      by_cases Ia:m.toNat*e.size=0
      ·have hce:cells = #[]:=Array.eq_empty_of_size_eq_zero (by rw[Y8]; exact Ia)
       have e2:∀ g:Nat→Value,(Array.range (m.toNat*e.size)).map g = #[]:=fun g=>by rw[Ia]; simp
       simp only[if_pos Ia,Sem.run_bind,Sem.run_pure,Result.andThen_ok,newRow,run_newObj,e2]
       rw[hce]
       rfl
      ·simp only[if_neg Ia,Sem.run_bind,Sem.run_pure,Result.andThen_ok,newRow,run_newObj,zeroValue,typeInfo,run_program,Gx,X1]
       rfl
     have g:=bU.alloc κ.w (.cells cells et)
     have hex:=mM (n:=N) (x:=.arr n.toNat e (List.replicate n.toNat z)) hI g
     refine⟨κ.add _ N (.arr n.toNat e (List.replicate n.toNat z)),_,.slice (some ⟨κ.w.heap.size,0,none⟩) n.toNat m.toNat,by simp only[Sem.run_bind,xQ,Result.andThen_ok]; rfl,.inl rfl,rfl,tO hI g ?_,hex,?_⟩
     ·refine⟨Cf,.inr ⟨κ.w.heap.size,N,cells,et,lU hI,g.new,Y8,?_,pB w8,fun _=>zv.cells.toList,fun i hi => ?_⟩⟩
      ·rw[List.length_replicate]; exact Nat.mul_le_mul_right _ (by omega)
      ·rw[List.length_replicate]at hi
       refine⟨by rw[List.getElem_replicate]; exact TN.mono hex.same,fun j w hj => ?_⟩
       have Hg:j<e.size:=by rw[← TN.len]; exact(List.getElem?_eq_some_iff.1 hj).1
       have qh:i*e.size+j<N:=by
        have:i*e.size+e.size≤N:=by rw[← Nat.succ_mul]; exact Nat.mul_le_mul_right _ (by omega)
        omega
       have NB:(i*e.size+j) % e.size=j:=by rw[Nat.mul_comm,Nat.mul_add_mod,Nat.mod_eq_of_lt Hg]
       simp only[cells,Array.getElem?_map,Array.getElem?_range,if_pos qh,Option.map_some,DX,NB]
       have hj':zv.cells[j]? = some w:=by simpa using hj
       simp[getElem!_def,hj']
     ·intro d' j9
      cases j9
      refine .ms _ n.toNat e 0 n.toNat m.toNat _ (.inr ⟨n.toNat,e,_,nD,Nat.le_refl _⟩) (by omega) nofun (fun p hp=>by cases hp; rfl) fun xs tU => ?_
      rw[nD]at tU
      cases tU
      refine⟨by simp,.inr ⟨κ.w.heap.size,N,0,m.toNat,lU hI,rfl,by omega,by simp[N],.inr (by simp)⟩⟩
   ·exact absurd h zg
  ·exact absurd h zg
 ·exact absurd h zg
end
end Go.AM
namespace Go.AM
set_option linter.unusedSectionVars false
variable [vP]
section
variable {c:Ctx} {κ:KS}
def jo(f:Nat→List Value):Nat→List Value
 | 0=>[]
 | n+1=>jo f n++f n
theorem u6{f:Nat→List Value}{s:Nat}:∀ {n:Nat},(∀ i,i<n→(f i).length=s)→(jo f n).length=n*s
 | 0,_=>by simp[jo]
 | n+1,h=>by rw[jo,List.length_append,u6 (fun i hi=>h i (by omega)),h n (by omega),Nat.add_mul]; omega
theorem mC{f:Nat→List Value}{s:Nat}:∀ {n:Nat},(∀ i,i<n→(f i).length=s)→∀ i j,i<n→j<s→(jo f n)[i*s+j]? = (f i)[j]?
 | 0,_,i,_,hi,_=>absurd hi (Nat.not_lt_zero i)
 | n+1,h,i,j,hi,hj=>by
  have hl:=u6 (f:=f) (n:=n) (fun i hi=>h i (by omega))
  rw[jo]
  by_cases Xr:i<n
  ·have:i*s+s≤n*s:=by rw[← Nat.succ_mul]; exact Nat.mul_le_mul_right _ Xr
   rw[List.getElem?_append_left (by omega)]
   exact mC (fun i hi=>h i (by omega)) i j Xr hj
  ·have:i=n:=by omega
   subst this
   rw[List.getElem?_append_right (by omega)]
   congr 1; omega
theorem W1{f:Nat→List Value}:∀ {n:Nat},(∀ i,i<n→∀ v∈f i,v.oneCell'=true)→∀ v∈jo f n,v.oneCell'=true
 | 0,_,v,hv=>by simp[jo]at hv
 | n+1,h,v,hv=>by
  rw[jo,List.mem_append]at hv
  rcases hv with hv | hv
  ·exact W1 (fun i hi=>h i (by omega)) v hv
  ·exact h n (by omega) v hv
theorem KN{f:Nat→List Value}{s:Nat}{n p:Nat}{v:Value}(hs:0<s)(h:∀ i,i<n→(f i).length=s)(hp:(jo f n)[p]? = some v):∃ i j,i<n∧j<s∧p=i*s+j∧(f i)[j]? = some v:=by
 have qh:=(List.getElem?_eq_some_iff.1 hp).1
 rw[u6 h]at qh
 have hi:p / s<n:=(Nat.div_lt_iff_lt_mul hs).2 qh
 have hj:=Nat.mod_lt p hs
 have he:p / s*s+p % s=p:=Nat.div_add_mod' p s
 refine⟨p / s,p % s,hi,hj,he.symm,?_⟩
 rw[← mC h _ _ hi hj,he]; exact hp
def DQ(κ:KS):Nat→Prop:=fun k=>κ.ok k∨∃ b n:Nat,κ.ph[b]? = some (some (k,n))
structure Src(κ:KS)(e:Ty)(ys:List (den e))(v:Value):Prop where
 ex:∃ (a:Option Addr) (cap:Nat) (f:Nat→List Value),v=.slice a ys.length cap∧ys.length≤cap∧(a=none→ys=[]∧cap=0)∧(∀ i (hi:i<ys.length),Rc κ.w κ.ok e ys[i] (f i)) ∧
  ∀ p,a=some p→(ys=[]∧cap=0)∨(p.spot=none∧DQ κ p.block∧∀ i,i<ys.length→∀ j u,(f i)[j]? = some u→κ.w.cell? ⟨p.block,p.off+i*e.size+j,none⟩=some u)
theorem H7{e:Ty}{ys:List (den e)}{v:Value}(h:RD κ (.zi (.sl e) ys) v):Src κ e ys v:=by
 rcases(h.wU rfl).rX with⟨rfl,a0,he⟩ | ⟨blk,off,cap,f,he,w8,vx,h1,h2⟩
 ·cases he; exact⟨⟨a0,0,fun _=>[],rfl,Nat.le_refl _,fun _=>⟨rfl,rfl⟩,fun i hi=>absurd hi (Nat.not_lt_zero i),fun _ _=>.inl ⟨rfl,rfl⟩⟩⟩
 ·cases he; exact⟨⟨some ⟨blk,off,none⟩,cap,f,rfl,vx,nofun,h1,fun p hp=>by cases hp; exact .inr ⟨rfl,.inl w8,h2⟩⟩⟩
theorem ml{e:Ty}{ys:List (den e)}{ne:Bool}{v:Value}(h:RD κ (.tight e ys ne) v):Src κ e ys v:=by
 cases h with
 | qW _ a0=>exact⟨⟨a0,0,fun _=>[],rfl,Nat.le_refl _,fun _=>⟨rfl,rfl⟩,fun i hi=>absurd hi (Nat.not_lt_zero i),fun _ _=>.inl ⟨rfl,rfl⟩⟩⟩
 | tight _ _ _ blk off f u7 w8 h1 h2=>exact⟨⟨some ⟨blk,off,none⟩,_,f,rfl,Nat.le_refl _,nofun,h1,fun p hp=>by cases hp; exact .inr ⟨rfl,.inl w8,h2⟩⟩⟩
theorem tZ{e:Ty}{v:Value}(h:RD κ .xb v):Src κ e [] v:=by
 cases h; exact⟨⟨none,0,fun _=>[],rfl,Nat.le_refl _,fun _=>⟨rfl,rfl⟩,fun i hi=>absurd hi (Nat.not_lt_zero i),nofun⟩⟩
theorem G9{b qs off len:Nat}{e:Ty}{xs:List (den e)}{v:Value}(hI:Inv κ)(h:RD κ (.ms b qs e off len) v)(hb:κ.st[b]? = some (.arr qs e xs)):Src κ e ((xs.take (off+len)).drop off) v∧off+len≤xs.length:=by
 cases h with
 | ms _ _ _ _ _ cap a hold vx ha mZ hm =>
  obtain⟨hle,hm⟩:=hm xs hb
  have hl:((xs.take (off+len)).drop off).length=len:=by simp; omega
  have hg:∀ i (hi:i<((xs.take (off+len)).drop off).length),∃ h:off+i<xs.length,((xs.take (off+len)).drop off)[i]=xs[off+i]:=fun i hi=>⟨by omega,by simp[List.getElem_drop,List.getElem_take]⟩
  refine⟨?_,hle⟩
  rcases hm with⟨rfl,rfl,hv,hp⟩ | ⟨blk,n,o,Dg,h3,h4,h5,h6,h7⟩
  ·cases hv
   have:(xs.take (0+0)).drop 0=[]:=by simp
   rw[this]
   exact⟨⟨none,0,fun _=>[],rfl,Nat.le_refl _,fun _=>⟨rfl,rfl⟩,fun i hi=>absurd hi (Nat.not_lt_zero i),nofun⟩⟩
  ·cases h4
   obtain⟨uj,⟨X6,_⟩ | ⟨iu,n',cs,T,g1,g2,g3,g4,gr,f,g5⟩⟩:=hI.blk b _ hb
   ·subst X6
    have e0:off=0:=by simp at hle; omega
    have e1:len=0:=by simp at hle; omega
    subst e0 e1
    refine⟨⟨some ⟨blk,o,none⟩,cap,fun _=>[],rfl,by simp,nofun,fun i hi=>absurd hi (by simp),fun p hp=>by cases hp; exact .inr ⟨rfl,.inr ⟨b,n,h3⟩,fun i hi=>absurd hi (by simp)⟩⟩⟩
   ·rw[h3]at g1
    cases g1
    refine⟨⟨some ⟨blk,o,none⟩,cap,fun i=>f (off+i),by rw[hl],by rw[hl]; exact vx,nofun,fun i hi => ?_,fun p hp => ?_⟩⟩
    ·obtain⟨k1,k2⟩:=hg i hi
     rw[k2]; exact(g5 _ k1).1
    ·cases hp
     refine .inr ⟨rfl,.inr ⟨b,n,h3⟩,fun i hi j u hj => ?_⟩
     obtain⟨k1,_⟩:=hg i hi
     have:=(g5 _ k1).2 j u hj
     rw[mj g2]
     rcases h7 with h7 | h7
     ·omega
     ·rw[h7,← Nat.add_mul]; exact this
theorem s9{e:Ty}{ys:List (den e)}{v:Value}(h:Src κ e ys v)(uj:0<e.size):∃ (news:List Value) (f:Nat→List Value),news=jo f ys.length∧(∀ i (hi:i<ys.length),Rc κ.w κ.ok e ys[i] (f i)) ∧
  (∀ P,(Builtin.lenOf v).run P κ.w=.ok ys.length κ.w)∧(∀ P,(Builtin.firstCells e.size ys.length v).run P κ.w=.ok news.toArray κ.w)∧(∀ P,(Builtin.firstCells e.size ys.length v).run P κ.w.drew=.ok news.toArray κ.w.drew):=by
 obtain⟨a,cap,f,rfl,_,hn,h1,h2⟩:=h.ex
 have hf:∀ i,i<ys.length→(f i).length=e.size:=fun i hi=>(h1 i hi).len
 refine⟨jo f ys.length,f,rfl,h1,fun P=>rfl,fun P => ?_,fun P => ?_⟩
 all_goals
  cases a with
  | none=>have:=(hn rfl).1; subst this; simp[Builtin.firstCells,jo]
  | some p =>
   rcases h2 p rfl with⟨rfl,_⟩ | ⟨hp,_,hc⟩
   ·simp[Builtin.firstCells,jo,loadCells,loadCellsFrom]
   obtain⟨blk,o,sp⟩:=p
   simp only at hp
   subst hp
   refine run_firstCells_some (P:=P) _ e.size ys.length ⟨blk,o,none⟩ ys.length cap (jo f ys.length) (u6 hf) fun j u hj => ?_
   obtain⟨i,k,hi,hk,rfl,hu⟩:=KN uj hf hj
   rw[ve]
   try rw[World.cell?_drew]
   have:=hc i hi k u hu
   rwa [Nat.add_assoc]at this
structure Cel(κ:KS)(e:Ty)(ys:List (den e))(v:Value):Prop where
 ex:∃ (news:List Value) (f:Nat→List Value),news=jo f ys.length∧(∀ i (hi:i<ys.length),Rc κ.w κ.ok e ys[i] (f i)) ∧
  (∀ P,(Builtin.lenOf v).run P κ.w=.ok ys.length κ.w)∧(∀ P,(Builtin.firstCells e.size ys.length v).run P κ.w=.ok news.toArray κ.w)∧(∀ P,(Builtin.firstCells e.size ys.length v).run P κ.w.drew=.ok news.toArray κ.w.drew)
theorem LY{e:Ty}{ys:List (den e)}{v:Value}(h:Src κ e ys v)(uj:0<e.size):Cel κ e ys v:=⟨s9 h uj⟩
def IU(c:Ctx)(t2:TypeId):Prop:=(∃ e,c.P.underlying t2=some (.slice e))∨c.P.underlying t2=some .string
section run
variable {t t2 e:TypeId} {i:TypeInfo} {z:Value} {sLen sCap n:Nat} {base:Option Addr} {x:Value} {news olds:List Value} {ty:TypeId}
theorem run_append_fits(ht:c.P.underlying t=some (.slice e))(WU:IU c t2)(hi:c.P.info? e=some i)(hlen:∀ P,(Builtin.lenOf x).run P κ.w=.ok n κ.w)(hf:∀ P,(Builtin.firstCells i.size n x).run P κ.w=.ok news.toArray κ.w)
  (tg:sLen+n≤sCap) {w':World} (xh:(match base with | some a=>storeCells (a.add (sLen*i.size)) news | none=>pure ()).run c.P κ.w=.ok () w') :
  (Builtin.append_ #[t,t2] ty #[.slice base sLen sCap,x]).run c.P κ.w=.ok (.slice base (sLen+n) sCap) w':=by
 rcases WU with⟨e2,WU⟩ | WU
 all_goals cases base with
 | none=>simp at xh; subst xh; simp[Builtin.append_,run_underlying ht,run_underlying WU,sizeOf,typeInfo,hi,hlen,tg,hf]
 | some a=>simp only at xh; simp[Builtin.append_,run_underlying ht,run_underlying WU,sizeOf,typeInfo,hi,hlen,tg,hf,xh]
theorem iT(ht:c.P.underlying t=some (.slice e))(WU:IU c t2)(hi:c.P.info? e=some i)(hz:i.zero=some z)(hlen:∀ P,(Builtin.lenOf x).run P κ.w=.ok n κ.w)(hf:∀ P,(Builtin.firstCells i.size n x).run P κ.w.drew=.ok news.toArray κ.w.drew)
  (ho:∀ P,(Builtin.firstCells i.size sLen (.slice base sLen sCap)).run P κ.w.drew=.ok olds.toArray κ.w.drew)
  (hg:sCap<sLen+n) (h63:((sLen+n:Nat):Int)≤9223372036854775807) (hb:(sLen+n)*i.bytes≤140737488355328) :
  (Builtin.append_ #[t,t2] ty #[.slice base sLen sCap,x]).run c.P κ.w=.ok (.slice (some ⟨κ.w.heap.size,0,none⟩) (sLen+n) (grownCap κ.w (sLen+n) sCap e))
   (κ.w.drew.alloc (.cells (olds.toArray++news.toArray++Builtin.zeroCells z.cells (grownCap κ.w (sLen+n) sCap e-(sLen+n))) e)):=by
 have h1:¬ (sLen+n≤sCap):=by omega
 have h2:¬ (9223372036854775807<((sLen+n:Nat):Int)):=by omega
 have h3:=growslice_fits (bytes:=i.bytes) hg hb
 have h4:¬ (281474976710656<Builtin.nextslicecap (sLen+n) sCap*i.bytes):=by omega
 have h5:IntKind.i64.max=9223372036854775807:=by decide
 rcases WU with⟨e2,WU⟩ | WU
 all_goals
  simp[Builtin.append_,run_underlying ht,run_underlying WU,sizeOf,typeInfo,zeroValue,hi,hz,hlen,h1,h5,h2,h4,hf,ho,Question.forced,newRow,grownCap]
  rw[if_neg (by omega),← Array.append_assoc]
  simp
end run
theorem lp(z:Array Value)(n:Nat):(Builtin.zeroCells z n).size=n*z.size:=by simp[Builtin.zeroCells]
theorem Qb{e:Ty}{l ys:List (den e)}{f g:Nat→List Value}(hl:∀ i (hi:i<l.length),Rc κ.w κ.ok e l[i] (f i))(hy:∀ i (hi:i<ys.length),Rc κ.w κ.ok e ys[i] (g i))(zs:List Value) :
  ∀ i (hi:i<(l++ys).length),Rc κ.w κ.ok e (l++ys)[i] (if i<l.length then f i else g (i-l.length)) ∧
   ∀ j v,(if i<l.length then f i else g (i-l.length))[j]? = some v→(jo f l.length++jo g ys.length++zs)[i*e.size+j]? = some v:=by
 have Uw:∀ i,i<l.length→(f i).length=e.size:=fun i hi=>(hl i hi).len
 have Fg:∀ i,i<ys.length→(g i).length=e.size:=fun i hi=>(hy i hi).len
 have h1:=u6 Uw
 have h2:=u6 Fg
 intro i hi
 by_cases YU:i<l.length
 ·simp only[if_pos YU]
  refine⟨by rw[List.getElem_append_left YU]; exact hl i YU,fun j v hj => ?_⟩
  have Hg:j<e.size:=by rw[← Uw i YU]; exact(List.getElem?_eq_some_iff.1 hj).1
  have:i*e.size+e.size≤l.length*e.size:=by rw[← Nat.succ_mul]; exact Nat.mul_le_mul_right _ YU
  rw[List.append_assoc,List.getElem?_append_left (by omega),mC Uw i j YU Hg]
  exact hj
 ·simp only[if_neg YU]
  simp only[List.length_append]at hi
  have Na:i-l.length<ys.length:=by omega
  refine⟨by rw[List.getElem_append_right (by omega)]; exact hy _ Na,fun j v hj => ?_⟩
  have Hg:j<e.size:=by rw[← Fg _ Na]; exact(List.getElem?_eq_some_iff.1 hj).1
  have e1:i*e.size=l.length*e.size+(i-l.length)*e.size:=by rw[← Nat.add_mul]; congr 1; omega
  have:(i-l.length)*e.size+e.size≤ys.length*e.size:=by rw[← Nat.succ_mul]; exact Nat.mul_le_mul_right _ Na
  rw[List.append_assoc,List.getElem?_append_right (by omega),h1,List.getElem?_append_left (by omega)]
  rw[show i*e.size+j-l.length*e.size=(i-l.length)*e.size+j by omega,mC Fg _ j Na Hg]
  exact hj
theorem YG{t t2 et:Nat}{e:Ty}{l ys:List (den e)}{sv v:Value}{bytes:Nat}{ty:Nat}(hI:Inv κ)(hu:c.P.underlying t=some (.slice et))(DM:IU c t2)(w8:jb c et e=true)(uj:0<e.size)(DP:fp c et=some bytes)(hz:∃ y,zeroOf c et e=some y)
  (hs:Src κ e l sv) (vx:∃ a,sv=.slice a l.length l.length) (hv:Cel κ e ys v) (u7:ys≠[]) (hb:(l.length+ys.length)*bytes≤140737488355328) (hn:l.length+ys.length≤9223372036854775807) :
  ∃ (κ':KS) (r:Value),(Builtin.append_ #[t,t2] ty #[sv,v]).run c.P κ.w=.ok r κ'.w∧κ'.st=κ.st++[.arr (l.length+ys.length) e (l++ys)]∧Inv κ'∧Ext κ κ'∧RD κ' (.ms κ.st.length (l.length+ys.length) e 0 (l.length+ys.length)) r:=by
 obtain⟨DO,_⟩:=wY w8
 obtain⟨i,Gx,X1⟩:=bA DO
 obtain⟨y,hy⟩:=hz
 obtain⟨i',zv,g1,g2,g3⟩:=cK (κ:=κ) hy
 obtain⟨i'',k1,k2⟩:=iU DP
 rw[Gx]at g1 k1
 cases g1
 cases k1
 obtain⟨olds,f,D7,ID,ho3,ho4,ho5⟩:=s9 hs uj
 obtain⟨news,g,Ya,Xm,Ru,hn4,hn5⟩:=hv.ex
 obtain⟨a,MR⟩:=vx
 subst MR
 have nW:0<ys.length:=List.length_pos_iff.2 u7
 have xQ:=iT (c:=c) (κ:=κ) (t:=t) (t2:=t2) (e:=et) (ty:=ty) (base:=a) (sLen:=l.length) (sCap:=l.length) (n:=ys.length) (x:=v) (news:=news) (olds:=olds) hu DM Gx g2 Ru
  (by intro P; rw[X1]; exact hn5 P) (by intro P; rw[X1]; exact ho5 P) (by omega) (by omega) (by rw[k2]; exact hb)
 let C:=grownCap κ.w (l.length+ys.length) l.length et
 have hC:l.length+ys.length≤C:=grownCap_ge _ _ _ _
 let zs:=Builtin.zeroCells zv.cells (C-(l.length+ys.length))
 let cells:=olds.toArray++news.toArray++zs
 have DX:zs.size=(C-(l.length+ys.length))*e.size:=by have:=g3.len; simp only[Array.length_toList]at this; simp[zs,lp,this]
 have hol:olds.length=l.length*e.size:=by rw[D7]; exact u6 fun i hi=>(ID i hi).len
 have B9:news.length=ys.length*e.size:=by rw[Ya]; exact u6 fun i hi=>(Xm i hi).len
 have Y8:cells.size=C*e.size:=by
  simp only[cells,Array.size_append,List.size_toArray,hol,B9,DX,← Nat.add_mul]
  congr 1; omega
 have gr:=bU.drew κ.w (.cells cells et)
 have hex:=mM (n:=cells.size) (x:=.arr (l.length+ys.length) e (l++ys)) hI gr
 refine⟨κ.add _ cells.size (.arr (l.length+ys.length) e (l++ys)),_,xQ,rfl,tO hI gr ?_,hex,?_⟩
 ·refine⟨uj,.inr ⟨κ.w.heap.size,cells.size,cells,et,lU hI,gr.new,rfl,?_,pB w8,fun i=>if i<l.length then f i else g (i-l.length),fun i hi => ?_⟩⟩
  ·rw[Y8,List.length_append]; exact Nat.mul_le_mul_right _ hC
  ·obtain⟨q1,q2⟩:=Qb ID Xm zs.toList i hi
   refine⟨q1.mono hex.same,fun j v hj => ?_⟩
   have:=q2 j v hj
   rw[← D7,← Ya]at this
   rw[← Array.getElem?_toList]
   simpa[cells]using this
 ·refine .ms _ (l.length+ys.length) e 0 _ C _ (.inr ⟨l.length+ys.length,e,_,nD,Nat.le_refl _⟩) hC nofun (fun p hp=>by cases hp; rfl) fun xs tU => ?_
  rw[nD]at tU
  cases tU
  exact⟨by simp,.inr ⟨κ.w.heap.size,cells.size,0,C,lU hI,rfl,hC,by rw[Y8]; simp,.inr (by simp)⟩⟩
def KS.re(κ:KS)(w':World)(b n:Nat)(x:ju):KS:={ κ with w:=w',ph:=κ.ph.set b (some (κ.w.heap.size,n)),st:=κ.st.set b x }
theorem YM{w':World}{o:Obj}{b n v0 v1:Nat}{e:Ty}{xs ys:List (den e)}(hI:Inv κ)(g:bU κ.w w' o)(hb:κ.st[b]? = some (.arr v0 e xs))(hv:v0<v1):Ext κ (κ.re w' b n (.arr v1 e ys)):=by
 have qh:b<κ.st.length:=(List.getElem?_eq_some_iff.1 hb).1
 have tK:b<κ.ph.length:=by rw[hI.len]; exact qh
 refine⟨g.os,g.tape,g.output,by show κ.w.heap.size≤w'.heap.size; rw[g.size]; omega,fun k hk=>⟨hk,g.old (hI.kY k hk)⟩,fun k hk=>.inl hk,?_,?_,?_,?_,by simp[KS.re],fun k hk _=>g.old hk⟩
 ·intro b' blk m h
  simp only[KS.re,List.getElem?_set]at h
  split at h
  ·cases h
   exact .inr (Nat.le_refl _)
  ·exact .inl h
 ·intro b' d hd
  have u7:b≠b':=fun e=>by subst e; rw[hb]at hd; cases hd
  simp only[KS.re,List.getElem?_set,if_neg u7]
  exact⟨⟨d,hd⟩,trivial⟩
 ·intro b' u0 e' zs hd
  refine .inr ?_
  simp only[KS.re,List.getElem?_set]
  split
  ·rename_i e1
   subst e1
   rw[hb]at hd
   cases hd
   exact⟨v1,ys,rfl,by omega,fun h=>absurd h (by omega)⟩
  ·exact⟨u0,zs,hd,Nat.le_refl _,fun _=>⟨rfl,rfl⟩⟩
 ·intro b' hd
  have u7:b≠b':=fun e=>by subst e; rw[hb]at hd; cases hd
  simp only[KS.re,List.getElem?_set,if_neg u7]
  exact hd
theorem PZ{w':World}{o:Obj}{b n v0 v1:Nat}{e:Ty}{xs ys:List (den e)}(hI:Inv κ)(g:bU κ.w w' o)(hb:κ.st[b]? = some (.arr v0 e xs))(hv:v0<v1)
  (hx:de (κ.re w' b n (.arr v1 e ys)) b (.arr v1 e ys)):Inv (κ.re w' b n (.arr v1 e ys)):=by
 have qh:b<κ.st.length:=(List.getElem?_eq_some_iff.1 hb).1
 have tK:b<κ.ph.length:=by rw[hI.len]; exact qh
 have hold:∀ (b' blk m:Nat),(κ.ph.set b (some (κ.w.heap.size,n)))[b']? = some (some (blk,m))→(b≠b'∧κ.ph[b']? = some (some (blk,m)))∨(b=b'∧blk=κ.w.heap.size):=by
  intro b' blk m h
  simp only[List.getElem?_set]at h
  split at h
  ·rename_i e1
   cases h
   exact .inr ⟨e1,rfl⟩
  ·rename_i e1
   exact .inl ⟨e1,h⟩
 refine⟨by simp[KS.re,hI.len],?_,?_,?_,?_,hI.gl.mono (YM (n:=n) (ys:=ys) hI g hb hv).same⟩
 ·intro k hk; have:=hI.kY k hk; show k<w'.heap.size; rw[g.size]; omega
 ·intro b' blk m h
  rcases hold b' blk m h with⟨_,h⟩ | ⟨rfl,rfl⟩
  ·obtain⟨h1,h2⟩:=hI.apart b' blk m h
   exact⟨by show blk<w'.heap.size; rw[g.size]; omega,h2⟩
  ·exact⟨by show κ.w.heap.size<w'.heap.size; rw[g.size]; omega,fun hk=>absurd (hI.kY _ hk) (Nat.lt_irrefl _)⟩
 ·intro b1 b2 blk m m' h h'
  rcases hold b1 blk m h with⟨_,h⟩ | ⟨rfl,rfl⟩<;>rcases hold b2 _ m' h' with⟨_,h'⟩ | ⟨rfl,h''⟩
  ·exact hI.inj b1 b2 blk m m' h h'
  ·have:=(hI.apart b1 blk m h).1; omega
  ·have:=(hI.apart b2 _ m' h').1; omega
  ·rfl
 ·intro b' y hy
  simp only[KS.re,List.getElem?_set]at hy
  split at hy
  ·rename_i e1
   subst e1
   cases hy
   exact hx
  ·rename_i e1
   refine(hI.blk b' y hy).mono (YM hI g hb hv) ?_ fun blk m h=>g.old (hI.apart b' blk m h).1
   simp only[KS.re,List.getElem?_set,if_neg e1]
theorem Fo{α:Type}{l:List α}{i:Nat}{a:α}(h:l[i]? = some a):l.set i a=l:=by
 apply List.ext_getElem?
 intro j
 rw[List.getElem?_set]
 split
 ·rename_i e
  subst e
  rw[if_pos (List.getElem?_eq_some_iff.1 h).1,h]
 ·rfl
theorem Dy{t t2 et b qs len:Nat}{e:Ty}{xs ys:List (den e)}{sv v:Value}{bytes:Nat}{ty:Nat}(hI:Inv κ)(hu:c.P.underlying t=some (.slice et))(DM:IU c t2)(w8:jb c et e=true)(uj:0<e.size)(DP:fp c et=some bytes)
  (hz:∃ y,zeroOf c et e=some y) (hs:RD κ (.ms b qs e 0 len) sv) (hb:κ.st[b]? = some (.arr qs e xs)) (hlen:len=xs.length) (hv:Cel κ e ys v) (FK:(xs.length+ys.length)*bytes≤140737488355328)
  (hn:xs.length+ys.length≤9223372036854775807) :
  ∃ (κ':KS) (r:Value),(Builtin.append_ #[t,t2] ty #[sv,v]).run c.P κ.w=.ok r κ'.w∧κ'.st=κ.st.set b (.arr (qs+ys.length) e (xs++ys))∧Inv κ'∧Ext κ κ'∧RD κ' (.ms b (qs+ys.length) e 0 (len+ys.length)) r:=by
 subst hlen
 have qh:b<κ.st.length:=(List.getElem?_eq_some_iff.1 hb).1
 have tK:b<κ.ph.length:=by rw[hI.len]; exact qh
 obtain⟨DO,_⟩:=wY w8
 obtain⟨i,Gx,X1⟩:=bA DO
 obtain⟨y,hy⟩:=hz
 obtain⟨i',zv,g1,g2,g3⟩:=cK (κ:=κ) hy
 obtain⟨i'',k1,k2⟩:=iU DP
 rw[Gx]at g1 k1
 cases g1
 cases k1
 have Xj:=(G9 hI hs hb).1
 simp only[Nat.zero_add,List.take_length,List.drop_zero]at Xj
 obtain⟨olds,f,D7,ID,ho3,ho4,ho5⟩:=s9 Xj uj
 obtain⟨news,g,Ya,Xm,Ru,hn4,hn5⟩:=hv.ex
 have hol:olds.length=xs.length*e.size:=by rw[D7]; exact u6 fun i hi=>(ID i hi).len
 have B9:news.length=ys.length*e.size:=by rw[Ya]; exact u6 fun i hi=>(Xm i hi).len
 have W3:∀ u∈news,u.oneCell'=true:=by rw[Ya]; exact W1 fun i hi=>(Xm i hi).one
 cases hs with
 | ms _ _ _ _ _ cap a hold vx ha mZ hm =>
  obtain⟨hle,hm⟩:=hm xs hb
  by_cases tg:xs.length+ys.length≤cap
  ·-- there is room
   rcases hm with⟨h1,_,hv',hp⟩ | ⟨blk,n,o,Dg,h3,h4,h5,h6,h7⟩
   ·simp only[Value.slice.injEq]at hv'
    obtain⟨rfl,Ho,rfl⟩:=hv'
    have D3:xs=[]:=List.eq_nil_of_length_eq_zero h1
    have Re:ys=[]:=List.eq_nil_of_length_eq_zero (by omega)
    subst D3 Re
    refine⟨κ,.slice none 0 0,?_,?_,hI,Ext.refl κ,.ms b qs e 0 0 0 none hold (Nat.le_refl _) (fun _=>rfl) nofun fun zs DX => ?_⟩
    ·have DS:news=[]:=List.eq_nil_of_length_eq_zero (by simpa using B9)
     subst DS
     exact run_append_fits (c:=c) (κ:=κ) (t:=t) (t2:=t2) (e:=et) (ty:=ty) (base:=none) (sLen:=0) (sCap:=0) (n:=0) (x:=v) (news:=[]) hu DM Gx Ru (by intro P; rw[X1]; exact hn4 P) (by omega) rfl
    ·simp only[List.length_nil,Nat.add_zero,List.append_nil]
     rw[Fo hb]
    ·rw[hb]at DX
     cases DX
     exact⟨Nat.le_refl _,.inl ⟨rfl,rfl,rfl,hp⟩⟩
   ·cases h4
    obtain⟨_,⟨X6,hpn⟩ | ⟨iu,n',cs,T,p1,p2,p3,p4,pr,F,p5⟩⟩:=hI.blk b _ hb
    ·rw[h3]at hpn; cases hpn
    ·rw[h3]at p1
     cases p1
     have ho:xs.length+ys.length=0∨o=0:=by
      rcases h7 with h7 | h7
      ·exact .inl (by omega)
      ·exact .inr (by simpa using h7)
     have z2J:cap*e.size≤cs.size:=by rw[p3]; simpa using h6
     have Qp:xs.length*e.size+ys.length*e.size≤cs.size:=by
      rw[← Nat.add_mul]; exact Nat.le_trans (Nat.mul_le_mul_right _ tg) z2J
     let cg:=(cs.toList.take (xs.length*e.size)++news++cs.toList.drop (xs.length*e.size+news.length)).toArray
     have Z1:cs.toList.length=cs.size:=by simp
     have CW:cg.size=cs.size:=by simp only[cg,List.size_toArray,List.length_append,List.length_take,List.length_drop,B9,Z1]; omega
     have J5:∀ m,(⟨blk,o,none⟩:Addr).add (xs.length*e.size)=⟨blk,xs.length*e.size,none⟩∨m=0∨xs.length+ys.length=0:=by
      intro m
      rcases ho with h | h
      ·exact .inr (.inr h)
      ·subst h; rw[ve,Nat.zero_add]; exact .inl rfl
     have xh:(storeCells ((⟨blk,o,none⟩:Addr).add (xs.length*i.size)) news).run c.P κ.w=.ok () (κ.w.setRow blk cg):=by
      rw[X1]
      rcases J5 1 with h | h | h
      ·rw[h]
       have:=run_storeCells_at c.P blk (xs.length*e.size) T news 0 cs κ.w p2 (by rw[B9]; omega) W3
       simpa only[Nat.add_zero]using this
      ·cases h
      ·have DS:news=[]:=List.eq_nil_of_length_eq_zero (by rw[B9,show ys.length=0 by omega]; simp)
       have D3:xs.length=0:=by omega
       have hce:cg=cs:=by simp[cg,DS,D3]
       rw[DS,hce,setRow_self _ _ _ _ _ p2]
       rfl
     have ir:Alike (.arr qs e xs) (.arr (qs+ys.length) e (xs++ys)):=⟨rfl,by omega,fun h=>by rw[List.length_append]; omega⟩
     have hex:=mB (cs:=cg) (x:=.arr (qs+ys.length) e (xs++ys)) hI h3 hb ir
     refine⟨κ.Kj b blk cg (.arr (qs+ys.length) e (xs++ys)),.slice (some ⟨blk,o,none⟩) (xs.length+ys.length) cap,?_,rfl,Z2 hI h3 hb ir ?_,hex,?_⟩
     ·exact run_append_fits (c:=c) (κ:=κ) (t:=t) (t2:=t2) (e:=et) (ty:=ty) (base:=some ⟨blk,o,none⟩) (sLen:=xs.length) (sCap:=cap) (n:=ys.length) (x:=v) (news:=news) hu DM Gx Ru (by intro P; rw[X1]; exact hn4 P) tg xh
     ·refine⟨uj,.inr ⟨blk,n,cg,T,h3,setRow_heap _ _ _ _ _ _ p2,by rw[CW]; exact p3,?_,pr,fun i=>if i<xs.length then F i else g (i-xs.length),fun i hi => ?_⟩⟩
      ·rw[List.length_append]; exact Nat.le_trans (Nat.mul_le_mul_right _ tg) (by simpa using h6)
      ·have hF:∀ i (hi:i<xs.length),Rc κ.w κ.ok e xs[i] (F i):=fun i hi=>(p5 i hi).1
       have OJ:∀ i,i<xs.length→(F i).length=e.size:=fun i hi=>(hF i hi).len
       have z2M:cs.toList.take (xs.length*e.size)=jo F xs.length:=by
        apply List.ext_getElem?
        intro p
        rw[List.getElem?_take]
        have Uw:=u6 OJ
        split
        ·rename_i hp
         obtain⟨q,hq⟩:∃ q,(jo F xs.length)[p]? = some q:=⟨_,List.getElem?_eq_getElem (by rw[Uw]; exact hp)⟩
         obtain⟨i',j',a1,a2,a3,a4⟩:=KN uj OJ hq
         rw[hq]
         have:=(p5 i' a1).2 j' q a4
         rw[a3,Array.getElem?_toList]; exact this
        ·rename_i hp
         rw[List.getElem?_eq_none (by rw[Uw]; omega)]
       obtain⟨q1,q2⟩:=Qb hF Xm (cs.toList.drop (xs.length*e.size+news.length)) i hi
       refine⟨q1.mono hex.same,fun j w hj => ?_⟩
       have:=q2 j w hj
       rw[← Ya,← z2M]at this
       simpa only[cg,List.getElem?_toArray]using this
     ·refine .ms b _ e 0 _ cap _ (.inr ⟨qs+ys.length,e,xs++ys,by simp[KS.Kj,qh],Nat.le_refl _⟩) tg nofun (fun p hp=>by cases hp; rfl) fun zs DX => ?_
      have:zs=xs++ys:=by simp only[KS.Kj,List.getElem?_set_self qh]at DX; cases DX; rfl
      subst this
      refine⟨by simp,.inr ⟨blk,n,o,cap,h3,rfl,tg,by simpa using h6,?_⟩⟩
      rcases h7 with h7 | h7
      ·exact .inl h7
      ·exact .inr (by simpa using h7)
  ·-- it grows
   have nW:0<ys.length:=by omega
   have xQ:=iT (c:=c) (κ:=κ) (t:=t) (t2:=t2) (e:=et) (ty:=ty) (base:=a) (sLen:=xs.length) (sCap:=cap) (n:=ys.length) (x:=v) (news:=news) (olds:=olds) hu DM Gx g2 Ru
    (by intro P; rw[X1]; exact hn5 P) (by intro P; rw[X1]; exact ho5 P) (by omega) (by omega) (by rw[k2]; exact FK)
   let C:=grownCap κ.w (xs.length+ys.length) cap et
   have hC:xs.length+ys.length≤C:=grownCap_ge _ _ _ _
   let zs:=Builtin.zeroCells zv.cells (C-(xs.length+ys.length))
   let cells:=olds.toArray++news.toArray++zs
   have DX:zs.size=(C-(xs.length+ys.length))*e.size:=by have:=g3.len; simp only[Array.length_toList]at this; simp[zs,lp,this]
   have Y8:cells.size=C*e.size:=by
    simp only[cells,Array.size_append,List.size_toArray,hol,B9,DX,← Nat.add_mul]
    congr 1; omega
   have gr:=bU.drew κ.w (.cells cells et)
   have FE:qs<qs+ys.length:=by omega
   have hex:=YM (n:=cells.size) (ys:=xs++ys) hI gr hb FE
   refine⟨κ.re _ b cells.size (.arr (qs+ys.length) e (xs++ys)),_,xQ,rfl,PZ hI gr hb FE ?_,hex,?_⟩
   ·refine⟨uj,.inr ⟨κ.w.heap.size,cells.size,cells,et,by simp[KS.re,tK],gr.new,rfl,?_,pB w8,fun i=>if i<xs.length then f i else g (i-xs.length),fun i hi => ?_⟩⟩
    ·rw[Y8,List.length_append]; exact Nat.mul_le_mul_right _ hC
    ·obtain⟨q1,q2⟩:=Qb ID Xm zs.toList i hi
     refine⟨q1.mono hex.same,fun j v hj => ?_⟩
     have:=q2 j v hj
     rw[← D7,← Ya]at this
     rw[← Array.getElem?_toList]
     simpa[cells]using this
   ·refine .ms b _ e 0 _ C _ (.inr ⟨qs+ys.length,e,xs++ys,by simp[KS.re,qh],Nat.le_refl _⟩) hC nofun (fun p hp=>by cases hp; rfl) fun us hus => ?_
    have:us=xs++ys:=by simp only[KS.re,List.getElem?_set_self qh]at hus; cases hus; rfl
    subst this
    exact⟨by simp,.inr ⟨κ.w.heap.size,cells.size,0,C,by simp[KS.re,tK],rfl,hC,by rw[Y8]; simp,.inr (by simp)⟩⟩
end
end Go.AM
namespace Go.AM
set_option linter.unusedSectionVars false
variable [vP]
section
variable {c:Ctx} {κ:KS}
theorem nH{x y:D}{v:Value}(hI:Inv κ)(hx:RD κ x v)(h:(fY κ.st x).leads y):(y=x∧∀ b qs e off len,x≠.ms b qs e off len)∨∃ (e:Ty) (ys:List (den e)),y=.zi (.sl e) ys∧Src κ e ys v∧∃ b qs off len,x=.ms b qs e off len:=by
 cases x with
 | ms b qs e off len =>
  simp only[fY]at h
  split at h
  ·rename_i uZ e' xs hb
   split at h
   ·rename_i he
    subst he
    obtain⟨rfl,h⟩:=h
    refine .inr ⟨e',_,h.symm,(G9 hI hx hb).1,b,qs,off,len,rfl⟩
   ·exact h.elim
  ·exact h.elim
 | _=>exact .inl ⟨h.symm,fun _ _ _ _ _=>nofun⟩
theorem ns{t t2 et:Nat}{e:Ty}{s:D}{ys:List (den e)}{ne:Bool}{sv v:Value}{bytes ty:Nat}{d:Option D}{zu:St}(hI:Inv κ)(hu:c.P.underlying t=some (.slice et))(DM:IU c t2)(w8:jb c et e=true)(uj:0<e.size)
  (DP:fp c et=some bytes) (QZ:0<bytes) (hz:∃ y,zeroOf c et e=some y) (hs:RD κ s sv) (hv:Cel κ e ys v) (u7:ne=true→ys≠[])
  (h:(uT e s ys ne bytes κ.st).leads (d,zu)) :
  ∃ (κ':KS) (r:Value),(Builtin.append_ #[t,t2] ty #[sv,v]).run c.P κ.w=.ok r κ'.w∧κ'.st=zu∧Inv κ'∧Ext κ κ'∧∀ d',d=some d'→RD κ' d' r:=by
 have hlen:∀ n,n*bytes≤140737488355328→n≤9223372036854775807:=fun n hn=>Nat.le_trans (Nat.le_mul_of_pos_right n QZ) (Nat.le_trans hn (by decide))
 -- nothing is appended
 have same:∀ (a:Option Addr) (n cap:Nat),sv=.slice a n cap→n≤cap→ys=[]→d=some s→zu=κ.st →
   ∃ (κ':KS) (r:Value),(Builtin.append_ #[t,t2] ty #[sv,v]).run c.P κ.w=.ok r κ'.w∧κ'.st=zu∧Inv κ'∧Ext κ κ'∧∀ d',d=some d'→RD κ' d' r:=by
  rintro a n cap rfl vx rfl rfl rfl
  obtain⟨DO,_⟩:=wY w8
  obtain⟨i,Gx,X1⟩:=bA DO
  obtain⟨news,g,Ya,Xm,Ru,hn4,hn5⟩:=hv.ex
  have DS:news=[]:=Ya
  subst DS
  refine⟨κ,.slice a n cap,?_,rfl,hI,Ext.refl κ,fun d' he=>by cases he; exact hs⟩
  have:=run_append_fits (c:=c) (κ:=κ) (t:=t) (t2:=t2) (e:=et) (ty:=ty) (base:=a) (sLen:=n) (sCap:=cap) (n:=0) (x:=v) (news:=[]) (i:=i) hu DM Gx Ru (by intro P; rw[X1]; exact hn4 P) (by omega) (w':=κ.w) (by cases a<;>rfl)
  simpa using this
 have new:∀ l:List (den e),Src κ e l sv→(∃ a,sv=.slice a l.length l.length)→ys≠[]→(dH e l ys bytes κ.st).leads (d,zu) →
   ∃ (κ':KS) (r:Value),(Builtin.append_ #[t,t2] ty #[sv,v]).run c.P κ.w=.ok r κ'.w∧κ'.st=zu∧Inv κ'∧Ext κ κ'∧∀ d',d=some d'→RD κ' d' r:=by
  intro l hl vx u7 h
  obtain⟨hb,h⟩:=h
  cases h
  obtain⟨κ',r,h1,h2,h3,h4,h5⟩:=YG (ty:=ty) hI hu DM w8 uj DP hz hl vx hv u7 hb (hlen _ hb)
  exact⟨κ',r,h1,h2,h3,h4,fun d' he=>by cases he; exact h5⟩
 unfold uT at h
 split at h
 ·have MR:sv=.slice none 0 0:=by cases hs; rfl
  cases hn:ne with
  | true=>rw[hn,cond_true]at h; exact new [] (tZ hs) ⟨none,MR⟩ (u7 hn) h
  | false =>
   rw[hn,cond_false]at h
   rcases h with⟨hy,h⟩ | ⟨hy,h⟩
   ·cases h; exact same none 0 0 MR (Nat.le_refl _) (List.isEmpty_iff.1 hy) rfl rfl
   ·exact new [] (tZ hs) ⟨none,MR⟩ (fun e=>by rw[e]at hy; cases hy) h
 ·rename_i e' l ne'
  split at h
  ·rename_i l' Cb
   obtain⟨he,Tq⟩:=qe Cb
   cases he
   simp only at Tq
   subst Tq
   have MR:∃ a,sv=.slice a l'.length l'.length:=by
    cases hs with
    | qW=>exact⟨_,rfl⟩
    | tight=>exact⟨_,rfl⟩
   cases hn:ne with
   | true=>rw[hn,cond_true]at h; exact new l' (ml hs) MR (u7 hn) h
   | false =>
    rw[hn,cond_false]at h
    rcases h with⟨hy,h⟩ | ⟨hy,h⟩
    ·cases h
     obtain⟨a,ha⟩:=MR
     exact same a _ _ ha (Nat.le_refl _) (List.isEmpty_iff.1 hy) rfl rfl
    ·exact new l' (ml hs) MR (fun e=>by rw[e]at hy; cases hy) h
  ·exact h.elim
 ·rename_i b qs e' off len
  split at h
  ·rename_i uZ e'' xs hb
   split at h
   ·rename_i xs' rA
    obtain⟨he,z0f⟩:=qe rA
    cases he
    simp only at z0f
    subst z0f
    cases Ln:decide (e'=_)with
    | false=>rw[Ln]at h; exact h.elim
    | true =>
     rw[Ln,cond_true]at h
     have:=of_decide_eq_true Ln
     subst this
     obtain⟨⟨rfl,rfl,hl,FK⟩,h⟩:=h
     cases h
     obtain⟨κ',r,h1,h2,h3,h4,h5⟩:=Dy (ty:=ty) hI hu DM w8 uj DP hz hs hb hl hv FK (hlen _ FK)
     exact⟨κ',r,h1,h2,h3,h4,fun d' he=>by cases he; exact h5⟩
   ·exact h.elim
  ·exact h.elim
 ·exact h.elim
theorem JB{t ty:Nat}{s x:Option D}{sv v:Value}{d:Option D}{zu:St}(hI:Inv κ)(hs:∀ z,s=some z→RD κ z sv)(hx:∀ z,x=some z→RD κ z v)
  (h:(zG (oQ c t s x) κ.st).leads (d,zu)):qy c.P (do Pure.pure (.value (← Builtin.append_ #[t,t] ty #[sv,v]))) κ d zu:=by
 unfold oQ at h
 split at h
 ·exact absurd h zg
 ·rename_i et het
  have hu:=vI het
  split at h
  ·rename_i e bytes DN DP
   cases hb:jb c et e&&Nat.blt 0 e.size&&Nat.blt 0 bytes&&(zeroOf c et e).isSome with
   | false=>rw[hb]at h; exact absurd h zg
   | true =>
    rw[hb,cond_true]at h
    simp only[Bool.and_eq_true]at hb
    obtain⟨⟨⟨w8,h1⟩,h2⟩,h3⟩:=hb
    have uj:0<e.size:=Nat.le_of_ble_eq_true h1
    have QZ:0<bytes:=Nat.le_of_ble_eq_true h2
    have hz:=Option.isSome_iff_exists.1 h3
    split at h
    ·rename_i s x
     simp only[zG,T.zH]at h
     obtain⟨y,hy,h⟩:=h
     have fin:∀ (ys:List (den e)) (ne:Bool),Src κ e ys v→(ne=true→ys≠[])→(uT e s ys ne bytes κ.st).leads (d,zu)→qy c.P (do Pure.pure (.value (← Builtin.append_ #[t,t] ty #[sv,v]))) κ d zu:=by
      intro ys ne hv u7 h
      obtain⟨κ',r,g1,g2,g3,g4,g5⟩:=ns (t2:=t) (ty:=ty) hI hu (.inl ⟨et,hu⟩) w8 uj DP QZ hz (hs _ rfl) (LY hv uj) u7 h
      exact⟨κ',.value r,r,by simp only[Sem.run_bind,g1,Result.andThen_ok]; rfl,.inl rfl,g2,g3,g4,g5⟩
     have Gw:=hx _ rfl
     rcases nH hI Gw hy with⟨rfl,Sh⟩ | ⟨e',ys,rfl,Xj,_⟩
     ·split at h
      ·rename_i σ z
       split at h
       ·rename_i ys Pe
        obtain⟨he,OR⟩:=qe Pe
        cases he
        simp only at OR
        subst OR
        exact fin _ false (H7 Gw) nofun h
       ·exact h.elim
      ·rename_i σ z ne
       split at h
       ·rename_i ys Pe
        obtain⟨he,OR⟩:=qe Pe
        cases he
        simp only at OR
        subst OR
        refine fin _ ne (ml Gw) (fun u7 => ?_) h
        cases Gw with
        | qW=>cases u7
        | tight _ _ _ _ _ _ q=>exact q u7
       ·exact h.elim
      ·exact fin [] false (tZ Gw) nofun h
      ·exact h.elim
     ·simp only at h
      split at h
      ·rename_i ys' Pe
       obtain⟨he,OR⟩:=qe Pe
       cases he
       simp only at OR
       subst OR
       exact fin _ false Xj nofun h
      ·exact h.elim
    ·exact absurd h zg
  ·exact absurd h zg
theorem NO{l:zh}{v:Value}(h:RD κ (.zi .str l) v):Cel κ (.int .u8) (bytesOf l) v:=by
 have hv:=h.jT
 subst hv
 have hl:(bytesOf l).length=l.length:=by simp[bytesOf]
 have uj:(⟨l.toArray⟩:ByteArray).size=l.length:=List.size_toArray
 refine⟨Lib.strCells ⟨l.toArray⟩,fun i=>[.int .u8 ((bytesOf l)[i]?.getD 0)],?_,fun i hi => ?_,fun P => ?_,fun P => ?_,fun P => ?_⟩
 ·have gen:∀ (n:Nat),n≤l.length→jo (fun i=>[Value.int .u8 ((bytesOf l)[i]?.getD 0)]) n=(l.take n).map fun b=>Value.int .u8 b.toNat:=by
   intro n
   induction n with
   | zero=>intro _; rfl
   | succ n ih =>
    intro hn
    have qh:n<l.length:=hn
    rw[jo,ih (by omega),List.take_succ_eq_append_getElem qh,List.map_append]
    simp[bytesOf,List.getElem?_eq_getElem qh]
  rw[hl,gen _ (Nat.le_refl _),List.take_length]
  rfl
 ·have:(bytesOf l)[i]?.getD 0=(bytesOf l)[i]:=by rw[List.getElem?_eq_getElem hi]; rfl
  show Rc κ.w κ.ok (.int .u8) (bytesOf l)[i] [Value.int .u8 ((bytesOf l)[i]?.getD 0)]
  rw[this]
  exact .int .u8 _
 ·show(pure (⟨l.toArray⟩:ByteArray).size:Sem Nat).run P κ.w=_
  rw[uj,hl]; rfl
 ·rw[hl,← uj]; exact Lib.run_firstCells_string _ _ _
 ·rw[hl,← uj]; exact Lib.run_firstCells_string _ _ _
theorem Zq{t t2 ty:Nat}{s x:Option D}{sv v:Value}{d:Option D}{zu:St}(hI:Inv κ)(hs:∀ z,s=some z→RD κ z sv)(hx:∀ z,x=some z→RD κ z v)
  (h:(zG (mP c t t2 s x) κ.st).leads (d,zu)):qy c.P (do Pure.pure (.value (← Builtin.append_ #[t,t2] ty #[sv,v]))) κ d zu:=by
 unfold mP at h
 split at h
 ·exact absurd h zg
 ·rename_i et het
  have hu:=vI het
  split at h
  ·rename_i bytes DN DP DM
   cases hb:jb c et (.int .u8)&&Nat.blt 0 bytes&&(zeroOf c et (.int .u8)).isSome with
   | false=>rw[hb]at h; exact absurd h zg
   | true =>
    rw[hb,cond_true]at h
    simp only[Bool.and_eq_true]at hb
    obtain⟨⟨w8,h2⟩,h3⟩:=hb
    have QZ:0<bytes:=Nat.le_of_ble_eq_true h2
    have hz:=Option.isSome_iff_exists.1 h3
    split at h
    ·rename_i s l
     simp only[zG]at h
     obtain⟨κ',r,g1,g2,g3,g4,g5⟩:=ns (t2:=t2) (ty:=ty) hI hu (.inr DM) w8 (by decide) DP QZ hz (hs _ rfl) (ne:=false) (NO (hx _ rfl)) (fun e=>by cases e) h
     exact⟨κ',.value r,r,by simp only[Sem.run_bind,g1,Result.andThen_ok]; rfl,.inl rfl,g2,g3,g4,g5⟩
    ·exact absurd h zg
  ·exact absurd h zg
end
end Go.AM
namespace Go.AM
set_option linter.unusedSectionVars false
variable [vP]
section
variable {c:Ctx} {κ:KS}
theorem o9{places:List (Nat×Nat)}{pf:Nat→Option (Nat×Nat)}(hpf:∀ (i:Nat) p,places[i]? = some p→pf i=some p){F:Operand→Option D}{G:Operand→Value}(hF:∀ x d,F x=some d→RD κ d (G x)):∀ (L:List (Nat×Operand)) (cells r:List D) (cs:Array Value),
  bH places (L.map fun p=>(p.1,F p.2)) cells=some r→qG κ cells cs.toList→(∀ d∈cells,d.one=true) →
  ∃ cg,Instr.fill pf cs (L.map fun p=>(p.1,G p.2))=some cg∧qG κ r cg.toList∧∀ d∈r,d.one=true
 | [],cells,r,cs,h,hr,ho=>by
  simp only[List.map_nil,bH,Option.some.injEq]at h
  subst h
  exact⟨cs,rfl,hr,ho⟩
 | (i,x)::L,cells,r,cs,h,hr,ho=>by
  simp only[List.map_cons]at h
  cases hx:F x with
  | none=>rw[hx]at h; simp[bH]at h
  | some d =>
   rw[hx]at h
   simp only[bH]at h
   split at h
   ·rename_i off n hp
    cases hb : !d.vN&&Nat.beq n (zW d).length&&Nat.ble (off+n) cells.length with
    | false=>rw[hb]at h; cases h
    | true =>
     rw[hb,cond_true]at h
     simp only[Bool.and_eq_true,Bool.not_eq_true']at hb
     obtain⟨⟨h1,h2⟩,h3⟩:=hb
     have Ni:n=(zW d).length:=Nat.eq_of_beq_eq_true h2
     have h3':=Nat.le_of_ble_eq_true h3
     have hd:=hF x d hx
     have ON:=uD hd h1
     have Ma:(G x).cells.toList.length=n:=by rw[← ON.1]; exact Ni.symm
     have hle:off+n≤cs.size:=by have:=hr.1; simp only[Array.length_toList]at this; omega
     have hn:=cY hr ON off n
     obtain⟨cg,g1,g2,g3⟩:=o9 hpf hF L _ r (cs.toList.take off++(G x).cells.toList++cs.toList.drop (off+n)).toArray h (by simpa using hn) (by
      intro y hy
      simp only[List.mem_append]at hy
      rcases hy with(hy | hy) | hy
      ·exact ho y (List.mem_of_mem_take hy)
      ·exact uz hd y hy
      ·exact ho y (List.mem_of_mem_drop hy))
     refine⟨cg,?_,g2,g3⟩
     simp only[List.map_cons]
     rw[JF (hpf _ _ hp) Ma hle]
     exact g1
   ·cases h
theorem G0{t:Nat}{L:List (Nat×Operand)}{F:Operand→Option D}{G:Operand→Value}{d:Option D}{zu:St}(hI:Inv κ)(hF:∀ x d,F x=some d→RD κ d (G x))
  (h:(zG (Uk c t (L.map fun p=>(p.1,F p.2))) κ.st).leads (d,zu)):qy c.P (do Pure.pure (.value (← Instr.build t (L.map fun p=>(p.1,G p.2)).toArray))) κ d zu:=by
 unfold Uk at h
 split at h
 ·rename_i fs hu
  split at h
  ·rename_i z places hz hp
   split at h
   ·rename_i l hl
    rw[xD]at h
    obtain⟨rfl,rfl⟩:=h
    obtain⟨i,zv,h1,h2,h3⟩:=bZ hz
    have hzr:=h3.rd κ
    obtain⟨cg,g1,g2,g3⟩:=o9 (pf:=(places.toArray[·]?)) (fun i p hp=>by simpa using hp) hF L z l zv.cells hl (uD hzr rfl) (uz hzr)
    have hb:c.P.built t (L.map fun p=>(p.1,G p.2))=some cg:=by
     unfold Program.built
     simp only[h1,hu,h2,hp]
     exact g1
    refine qy.pure hI (run_build κ.w t _ cg (by simpa using hb)) ?_
    have:=RD.agg l cg.toList g2.1 g3 g2.2
    simpa using this
   ·exact absurd h zg
  ·exact absurd h zg
 ·rename_i k e hu
  split at h
  ·rename_i z ie hz hp
   split at h
   ·rename_i l hl
    rw[xD]at h
    obtain⟨rfl,rfl⟩:=h
    obtain⟨i,zv,h1,h2,h3⟩:=bZ hz
    have hzr:=h3.rd κ
    obtain⟨cg,g1,g2,g3⟩:=o9 (pf:=fun i=>some (i*ie.size,ie.size)) (fun i p hp=>by
     rw[List.getElem?_map]at hp
     cases hr:(List.range k)[i]? with
     | none=>rw[hr]at hp; cases hp
     | some j =>
      rw[hr]at hp
      obtain⟨qh,rfl⟩:=List.getElem?_eq_some_iff.1 hr
      simpa using hp) hF L z l zv.cells hl (uD hzr rfl) (uz hzr)
    have hb:c.P.built t (L.map fun p=>(p.1,G p.2))=some cg:=by
     unfold Program.built
     simp only[h1,hu,h2,hp]
     exact g1
    refine qy.pure hI (run_build κ.w t _ cg (by simpa using hb)) ?_
    have:=RD.agg l cg.toList g2.1 g3 g2.2
    simpa using this
   ·exact absurd h zg
  ·exact absurd h zg
 ·exact absurd h zg
theorem X9{a:Act}{o:Oper}{p:Operand}(ho:o.op=.nilCheck p){x:Option D}{d:Option D}{zu:St}(hI:Inv κ)(hx:∀ z,x=some z→RD κ z (a.eval p))
  (h:(zG (nT x) κ.st).leads (d,zu)):qy c.P (execOp a.eval o) κ d zu:=by
 have key:∀ z v,RD κ z v→a.eval p=v→(∀ b:Option Addr,v=.pointer b→b≠none)→((∃ b,v=.pointer b)∨∃ g q l,v=.func (.func g) q l)→qy c.P (execOp a.eval o) κ (some z) κ.st:=by
  intro z v hz hv hn hc
  have:execOp a.eval o=Pure.pure (.value v):=by
   rcases hc with⟨b,rfl⟩ | ⟨g,q,l,rfl⟩
   ·cases b with
    | none=>exact absurd rfl (hn none rfl)
    | some b=>simp only[execOp,ho,hv]
   ·simp only[execOp,ho,hv]
  rw[this]
  exact qy.val hI fun _ he=>by cases he; exact hz
 unfold nT at h
 split at h
 all_goals try exact absurd h zg
 all_goals
  rw[xD]at h; obtain⟨rfl,rfl⟩:=h
  have hr:=hx _ rfl
  generalize hv:a.eval p=v at hr
  refine key _ v hr hv ?_ ?_
  ·intro b hb; cases hr<;>first | (cases hb<;>nofun) | (rename_i f l vs _ _; obtain⟨g,q,l',e⟩:=ZS f vs; rw[e]at hb; cases hb)
  ·cases hr<;>first | exact .inl ⟨_,rfl⟩ | exact .inr (ZS _ _)
theorem Yi{op:BinOp}{t:Nat}{px:Operand}{x:Option D}{v:Value}{d:Option D}{zu:St}(hI:Inv κ)(hx:∀ z,x=some z→RD κ z v)
  (h:(zG (V8 c op t x) κ.st).leads (d,zu)):qy c.P (do Pure.pure (.value (← (do eqGuard op t px (.const .nilIface) v .nilIface; binOp op t v .nilIface)))) κ d zu:=by
 unfold V8 at h
 split at h
 ·rename_i ms hu
  have hm:c.P.underlying t=some (.interface (c.P.methodsAt t)):=by unfold Program.methodsAt; rw[hu]
  have g1:∀ w,(eqGuard op t px (.const .nilIface) .nilIface .nilIface).run c.P w=.ok () w:=fun w=>by cases op<;>simp[eqGuard]
  have g2:∀ u y w,(eqGuard op t px (.const .nilIface) (.iface u y) .nilIface).run c.P w=.ok () w:=fun u y w=>by cases op<;>simp[eqGuard]
  split at h
  ·unfold bb at h
   rw[xD]at h
   obtain⟨rfl,rfl⟩:=h
   cases hx _ rfl
   exact qy.pure hI (by simp only[Sem.run_bind,g1,Result.andThen_ok,run_eql_nil_nil _ _ hm]) RD.bool
  ·unfold bb at h
   rw[xD]at h
   obtain⟨rfl,rfl⟩:=h
   cases hx _ rfl
   exact qy.pure hI (by simp only[Sem.run_bind,g2,Result.andThen_ok,run_eql_held_nil _ _ _ _ hm]) RD.bool
  ·unfold bb at h
   rw[xD]at h
   obtain⟨rfl,rfl⟩:=h
   cases hx _ rfl
   exact qy.pure hI (by simp only[Sem.run_bind,g1,Result.andThen_ok,run_neq_nil_nil _ _ hm]) RD.bool
  ·unfold bb at h
   rw[xD]at h
   obtain⟨rfl,rfl⟩:=h
   cases hx _ rfl
   exact qy.pure hI (by simp only[Sem.run_bind,g2,Result.andThen_ok,run_neq_held_nil _ _ _ _ hm]) RD.bool
  ·exact absurd h zg
 ·exact absurd h zg
theorem tD{x:Option D}{v:Value}{xt at':Nat}{ok:Bool}{d:Option D}{zu:St}(hI:Inv κ)(hx:∀ z,x=some z→RD κ z v)
  (h:(zG (eV c x at' ok) κ.st).leads (d,zu)):qy c.P (do Pure.pure (.value (← Instr.typeAssert v xt at' ok))) κ d zu:=by
 unfold eV at h
 split at h
 ·exact absurd h zg
 ·exact absurd h zg
 ·rename_i ty hni hu
  split at h
  ·rename_i t e
   cases hb:Nat.beq t at'&&ok with
   | false=>rw[hb]at h; exact absurd h zg
   | true =>
    rw[hb,cond_true,xD]at h
    obtain⟨rfl,rfl⟩:=h
    simp only[Bool.and_eq_true]at hb
    have:=Nat.eq_of_beq_eq_true hb.1
    subst this
    obtain rfl:=hb.2
    cases hx _ rfl with
    | iface _ _ u Nq =>
     refine qy.pure hI (v:=.tuple #[u,.bool true]) ?_ ?_
     ·cases ty<;>first | (exact(hni _ rfl).elim) | (simp[Instr.typeAssert,run_underlying hu])
     ·have:=qG.cons Nq (qG.cons (RD.bool (κ:=κ) (b:=true)) qG.nil)
      exact .jY _ [u,.bool true] this.1 this.2
  ·exact absurd h zg
theorem Zb{t:Nat}{x:Option D}{v:Value}{d:Option D}{zu:St}(hI:Inv κ)(hx:∀ z,x=some z→RD κ z v)
  (h:(zG (iR c t x) κ.st).leads (d,zu)):qy c.P (do Pure.pure (.value (← Instr.makeInterface t v))) κ d zu:=by
 unfold iR at h
 cases hu:c.P.underlying t with
 | none=>rw[hu]at h; exact absurd h zg
 | some u =>
  rw[hu]at h
  cases u<;>simp only at h
  all_goals try exact absurd h zg
  all_goals
   split at h
   ·rw[xD]at h; obtain⟨rfl,rfl⟩:=h
    have hc:c.P.concrete t=true:=by unfold Program.concrete; rw[hu]
    exact qy.pure hI (run_makeInterface κ.w t v hc) (.iface t _ v (hx _ rfl))
   ·exact absurd h zg
theorem II{e:Ty}{x y:D}{v:Value}{l:List (den e)}(hI:Inv κ)(hx:RD κ x v)(h:(fY κ.st x).leads y)(hl:JI e y=some l):Src κ e l v:=by
 rcases nH hI hx h with⟨rfl,_⟩ | ⟨e',ys,rfl,hs,_⟩
 ·cases y with
  | zi σ z =>
   obtain⟨he,hz⟩:=qe (a:=σ) (b:=.sl e) hl
   cases he
   cases hz
   exact H7 hx
  | tight e' z ne =>
   obtain⟨he,hz⟩:=qe (a:=.sl e') (b:=.sl e) hl
   cases he
   cases hz
   exact ml hx
  | xb =>
   simp only[JI,Option.some.injEq]at hl
   subst hl
   exact tZ hx
  | _=>simp[JI]at hl
 ·obtain⟨he,hz⟩:=qe (a:=.sl e') (b:=.sl e) hl
  cases he
  cases hz
  exact hs
theorem Jr(l:List Int):strOfNums l=⟨(j7 l).toArray⟩:=rfl
theorem Zc{s t e:Nat}{x:Option D}{v:Value}{d:Option D}{zu:St}(hI:Inv κ)(hx:∀ z,x=some z→RD κ z v)(hs:c.P.underlying s=some (.slice e))(ht:c.P.underlying t=some .string)
  (h:(zG (s7 c e x) κ.st).leads (d,zu)):qy c.P (do Pure.pure (.value (← convert s t v))) κ d zu:=by
 unfold s7 at h
 split at h
 ·rename_i z he
  rw[dQ]at h
  obtain⟨h,rfl⟩:=h
  obtain⟨y,h1,h2⟩:=T.zH.1 h
  split at h2
  ·rename_i l hl
   cases h2
   have Xj:=II hI (hx _ rfl) h1 hl
   obtain⟨a,cap,f,rfl,vx,hn,g1,g2⟩:=Xj.ex
   have xQ:(convert s t (.slice a l.length cap)).run c.P κ.w=.ok (.string (strOfNums l)) κ.w:=by
    cases a with
    | none =>
     obtain⟨rfl,rfl⟩:=hn rfl
     exact run_convert_bytes_nil κ.w s e hs he 0 0 t ht
    | some p =>
     rcases g2 p rfl with⟨rfl,rfl⟩ | ⟨hp,_,hc⟩
     ·have h0:(loadCells p 0).run c.P κ.w=.ok (([]:List Int).map (Value.int .u8)).toArray κ.w:=by
       have:=run_loadCells_list (P:=c.P) κ.w p [] (fun j v hj=>by simp at hj)
       simpa using this
      simp only[List.length_nil]
      rw[run_convert_bytes_string κ.w s t e _ 0 0 hs he ht,run_bytesToString κ.w _ 0 0 [] h0]
      rfl
     ·obtain⟨blk,o,sp⟩:=p
      simp only at hp
      subst hp
      refine run_convert_bytes_arg κ.w s e hs he blk o l.length cap l rfl (fun i hi => ?_) t ht
      have hf:=(g1 i hi).cD
      have:=hc i hi 0 (.int .u8 l[i]) (by rw[hf]; rfl)
      have e1:o+i*Ty.size (.int .u8)+0=o+i:=by simp[Ty.size]
      rw[e1]at this
      rw[this]
      simp[List.getD,List.getElem?_eq_getElem hi]
   refine qy.pure hI xQ ?_
   rw[Jr]
   exact .str
  ·exact h2.elim
 ·exact absurd h zg
theorem Vl{s t:Nat}{x:Option D}{v:Value}{d:Option D}{zu:St}(hI:Inv κ)(hx:∀ z,x=some z→RD κ z v)
  (h:(zG (convertOp c s t x) κ.st).leads (d,zu)):qy c.P (do Pure.pure (.value (← convert s t v))) κ d zu:=by
 unfold convertOp at h
 split at h
 ·rename_i e hs ht
  exact Zc hI hx hs ht h
 ·rename_i k0 k hs ht
  split at h
  ·rename_i k1 n hk
   have:=vE hk hx
   subst this
   rw[jx]at h
   obtain⟨rfl,rfl⟩:=h
   exact qy.pure hI (by simp[convert,run_underlying hs,run_underlying ht,Conv.intToInt]) RD.int
  ·exact absurd h zg
 ·rename_i hs ht
  split at h
  ·rename_i s' hk
   have:=lf hk hx
   subst this
   rw[xD]at h
   obtain⟨rfl,rfl⟩:=h
   exact qy.pure hI (by simp[convert,run_underlying hs,run_underlying ht]) RD.str
  ·exact absurd h zg
 ·exact absurd h zg
end
end Go.AM
namespace Go.AM
set_option linter.unusedSectionVars false
variable [vP]
section
variable {c:Ctx} {κ:KS}
theorem D4{ty t t':Nat}{s x:Option D}{v u:Value}{d:Option D}{zu:St}(hI:Inv κ)(hs:∀ z,s=some z→RD κ z v)(hx:∀ z,x=some z→RD κ z u)
  (h:(zG (Gu c t s x) κ.st).leads (d,zu)):qy c.P (do Pure.pure (.value (← Builtin.copy_ #[t,t'] ty #[v,u]))) κ d zu:=by
 unfold Gu at h
 split at h
 ·rename_i et het
  split at h
  ·rename_i k b qs k' off len z hu uj
   cases hk:decide (k'=k)with
   | false=>rw[hk]at h; exact absurd h zg
   | true =>
    rw[hk,cond_true]at h
    obtain rfl:k'=k:=of_decide_eq_true hk
    simp only[zG]at h
    obtain⟨y,h1,h2⟩:=T.zH.1 h
    split at h2
    ·rename_i l hl
     unfold FA at h2
     split at h2
     ·rename_i uZ e' iA hb
      split at h2
      ·rename_i xs tU
       obtain⟨he,hxx⟩:=qe (a:=.sl e') (b:=.sl (.int k')) tU
       cases he
       obtain rfl:xs=iA:=hxx
       obtain⟨⟨Vr,Qp⟩,h2⟩:=h2
       cases h2
       subst Vr
       have Xj:=II hI (hx _ rfl) h1 hl
       obtain⟨a,cap,f,rfl,vx,hn,g1,g2⟩:=Xj.ex
       have Sg:=vI het
       have E3:(c.P.info? et).map (·.size)=some 1:=uj
       have T8:=hs _ rfl
       cases T8 with
       | ms _ _ _ _ _ cap0 a0 QZ hcap0 La hsp0 hh =>
       have hm:=hh xs hb
       have Z1:((List.take len l).map (Value.int k')).length=Nat.min l.length len:=by rw[List.length_map,List.length_take]; exact Nat.min_comm _ _
       have OI:min len (List.length l)=Nat.min l.length len:=Nat.min_comm _ _
       by_cases h0:min len (List.length l)=0
       ·-- nothing goes over
        have xQ:=run_copy_none (P:=c.P) κ.w t t' ty et a0 a len cap0 l.length cap Sg E3 (by rw[← OI]; exact h0)
        have UC:jr off len xs l=xs:=by
         unfold jr
         have ht:List.take len l=[]:=List.eq_nil_of_length_eq_zero (by rw[List.length_take]; exact h0)
         rw[ht,h0,List.append_nil,Nat.add_zero,List.take_append_drop]
        have yy:κ.st.set b (.arr qs (.int k') (jr off len xs l))=κ.st:=by
         rw[UC]
         obtain⟨qh,hge⟩:=List.getElem?_eq_some_iff.1 hb
         rw[← hge,List.set_getElem_self]
        rw[yy]
        refine⟨κ,.value (goInt 0),goInt 0,by simp[xQ],.inl rfl,rfl,hI,Ext.refl κ,fun d' j9 => ?_⟩
        cases j9
        rw[h0]
        exact RD.int
       ·obtain⟨hle,hm⟩:=hm
        rcases hm with⟨hz,_⟩ | ⟨blk,n,o,z8b,hp,hv,Ce,Da,hc3⟩
        ·omega
        ·cases hv
         have ho:o=off:=by
          rcases hc3 with h | h
          ·omega
          ·simpa[Ty.size]using h
         subst ho
         have hl0:l≠[]:=fun h=>h0 (by rw[h]; simp)
         obtain⟨p,rfl⟩:∃ p,a=some p:=by
          cases a with
          | none=>exact absurd (hn rfl).1 hl0
          | some p=>exact⟨p,rfl⟩
         rcases g2 p rfl with⟨h,_⟩ | ⟨mZ,_,hc⟩
         ·exact absurd h hl0
         obtain⟨pb,po,psp⟩:=p
         simp only at mZ
         subst mZ
         obtain⟨_,Ca⟩:=hI.blk b _ hb
         rcases Ca with⟨_,hpn⟩ | ⟨iu,n',MX,T,k1,k2,k3,k4,kr,g,k5⟩
         ·rw[hp]at hpn; cases hpn
         rw[hp]at k1
         cases k1
         have Rl:List.length xs≤MX.size:=by rw[k3]; simpa[Ty.size]using k4
         have oX:∀ (i:Nat) (hi:i<List.length xs),MX[i]? = some (.int k' xs[i]):=by
          intro i hi
          obtain⟨q1,q2⟩:=k5 i hi
          have:=q2 0 (.int k' xs[i]) (by rw[q1.cD]; rfl)
          simpa[Ty.size]using this
         have z6a:((List.take len l).map (Value.int k')).length≤len:=by simp; omega
         have xQ:=run_copy_row c.P κ.w t t' ty et blk o len cap0 ⟨pb,po,none⟩ l.length cap MX T ((List.take len l).map (Value.int k')) Sg E3 k2 Z1
          (fun j w hj=>by
           have hj':j<(List.take len l).length:=by have:=(List.getElem?_eq_some_iff.1 hj).1; simpa using this
           have Hg:j<l.length:=by simp at hj'; omega
           have e1:w=.int k' l[j]:=by
            rw[List.getElem?_map,List.getElem?_take,if_pos (by simp at hj'; omega),List.getElem?_eq_getElem Hg]at hj
            exact(Option.some.inj hj).symm
           have:=hc j Hg 0 (.int k' l[j]) (by rw[(g1 j Hg).cD]; rfl)
           have Ep:(⟨pb,po,none⟩:Addr).add j=⟨pb,po+j,none⟩:=by unfold Addr.add; split<;>simp_all
           rw[Ep,e1]
           simpa[Ty.size]using this)
          (by omega) (fun w hw=>by obtain⟨_,_,rfl⟩:=List.mem_map.1 hw; rfl)
         have hlen:List.length (jr o len xs l)=List.length xs:=by
          simp only[jr,List.length_append,List.length_take,List.length_drop]
          omega
         have ir:Alike (.arr qs (.int k') xs) (.arr qs (.int k') (jr o len xs l)):=⟨rfl,Nat.le_refl _,fun _=>hlen.symm⟩
         let cg:Array Value:=(MX.toList.take o++(List.take len l).map (Value.int k')++MX.toList.drop (o+((List.take len l).map (Value.int k')).length)).toArray
         have CW:cg.size=n:=by
          simp only[cg,List.size_toArray,List.length_append,List.length_take,List.length_drop,Array.length_toList,List.length_map]at *
          omega
         have Tc:∀ (i:Nat) (hi:i<List.length (jr o len xs l)),cg[i]? = some (.int k' (jr o len xs l)[i]):=by
          intro i hi
          have h1:=eY (cs:=MX.toList) (us:=(List.take len l).map (Value.int k')) (o:=o) (n:=((List.take len l).map (Value.int k')).length) rfl (by simp; simp at z6a; omega) i
          have e1:cg[i]? = (MX.toList.take o++(List.take len l).map (Value.int k')++MX.toList.drop (o+((List.take len l).map (Value.int k')).length))[i]? := by simp[cg]
          have tW:(List.map (Value.int k') (List.take len l)).length=min len (List.length l):=by simp
          rw[tW]at h1 e1
          have e2:(jr o len xs l)[i]? = if i<o then xs[i]? else if i<o+min len (List.length l)then(List.take len l)[i-o]? else xs[i]? := by
           unfold jr
           have hto:(List.take o xs).length=o:=by simp; omega
           by_cases q1:i<o
           ·rw[if_pos q1,List.append_assoc,List.getElem?_append_left (by omega),List.getElem?_take,if_pos q1]
           ·rw[if_neg q1,List.append_assoc,List.getElem?_append_right (by omega),hto]
            by_cases q2:i<o+min len (List.length l)
            ·rw[if_pos q2,List.getElem?_append_left (by simp; omega)]
            ·rw[if_neg q2,List.getElem?_append_right (by simp; omega),List.getElem?_drop,List.length_take]
             congr 1; omega
          have e3:(jr o len xs l)[i]? = some (jr o len xs l)[i]:=List.getElem?_eq_getElem hi
          rw[e1,h1]
          rw[e2]at e3
          have hix:i<List.length xs:=by rw[← hlen]; exact hi
          split
          ·rename_i q1
           rw[if_pos q1,List.getElem?_eq_getElem hix]at e3
           rw[Array.getElem?_toList,oX i hix,Option.some.inj e3]
          ·rename_i q1
           rw[if_neg q1]at e3
           split
           ·rename_i q2
            rw[if_pos q2]at e3
            rw[List.getElem?_map,e3]
            rfl
           ·rename_i q2
            rw[if_neg q2,List.getElem?_eq_getElem hix]at e3
            rw[Array.getElem?_toList,oX i hix,Option.some.inj e3]
         refine⟨κ.Kj b blk cg (.arr qs (.int k') (jr o len xs l)),.value (goInt (((List.take len l).map (Value.int k')).length:Nat)),goInt (((List.take len l).map (Value.int k')).length:Nat),(by rw[Sem.run_bind,xQ]; rfl),.inl rfl,rfl,Z2 hI hp hb ir ?_,mB hI hp hb ir,fun d' j9 => ?_⟩
         ·refine⟨by simp[Ty.size],.inr ⟨blk,n,cg,T,hp,setRow_heap κ.w blk MX cg T (0,0) k2,CW,by simp[Ty.size]; omega,kr,fun i=>[.int k' ((jr o len xs l).getD i 0)],fun i hi => ?_⟩⟩
          have hg:(jr o len xs l).getD i 0=(jr o len xs l)[i]:=by simp[List.getD_eq_getElem?_getD,List.getElem?_eq_getElem hi]
          show Rc _ _ (.int k') _ [Value.int k' ((jr o len xs l).getD i 0)]∧∀ (j:Nat) (v:Value),[Value.int k' ((jr o len xs l).getD i 0)][j]? = some v→_
          rw[hg]
          refine⟨.int k' _,fun j w hj => ?_⟩
          cases j with
          | zero =>
           simp at hj
           subst hj
           simpa[Ty.size]using Tc i hi
          | succ j=>simp at hj
         ·cases j9
          rw[OI,← Z1]
          exact RD.int
      ·exact h2.elim
     ·exact h2.elim
    ·exact h2.elim
  ·exact absurd h zg
 ·exact absurd h zg
end
end Go.AM
namespace Go.AM
set_option linter.unusedSectionVars false
variable [vP]
def um(P:Program)(g:Nat)(args:Array Value)(w:World)(R:Ending→World→Prop):Prop :=
 ((callFunc g args).run P w=.ok (.enter g args) w∧Calls P g args w R)∨∃ v w',(callFunc g args).run P w=.ok (.value v) w'∧R (.returned v) w'
theorem um.mono{P:Program}{g:Nat}{args:Array Value}{w:World}{R R':Ending→World→Prop}(h:um P g args w R)(hr:∀ e w,R e w→R' e w):um P g args w R':=by
 rcases h with⟨h1,h2⟩ | ⟨v,w',h1,h2⟩
 ·exact .inl ⟨h1,h2.mono hr⟩
 ·exact .inr ⟨v,w',h1,hr _ _ h2⟩
def vd(κ:KS):V6→Ending→Prop
 | .ret ds,e=>∃ v,e=.returned v∧RD κ (jU ds) v
 | .jq d,e=>∃ v,e=.panicked [{ v,recovered:=false }]∧RD κ d v
abbrev L8:=Nat→Array Value→World→(Ending→World→Prop)→Prop
def z4O(Dr:L8)(g:Nat)(S:List D→St→T (V6×St)):Prop :=
 ∀ (κ:KS) (args:List D) (zM:List Value) (rs:V6) (zu:St),(S args κ.st).leads (rs,zu)→Inv κ→qG κ args zM →
  Dr g zM.toArray κ.w fun e w'=>∃ κ':KS,κ'.w=w'∧κ'.st=zu∧Inv κ'∧Ext κ κ'∧vd κ' rs e
def Uu(P:Program)(g:Nat)(S:List D→St→T (V6×St)):Prop :=
 ∀ (κ:KS) (args:List D) (zM:List Value) (rs:V6) (zu:St),(S args κ.st).leads (rs,zu)→Inv κ→qG κ args zM →
  um P g zM.toArray κ.w fun e w'=>∃ κ':KS,κ'.w=w'∧κ'.st=zu∧Inv κ'∧Ext κ κ'∧vd κ' rs e
section
variable {c:Ctx} {κ:KS}
theorem RD.weaken{ss:Nat→Prop}(hs:∀ k,κ.ok k→ss k){d:D}{v:Value}(h:RD κ d v):RD { κ with ok:=ss } d v:=by
 have UC:Dl κ.w κ.w κ.ok ss:=fun k hk=>⟨hs k hk,rfl⟩
 induction h with
 | zi τ y cs h=>exact .zi τ y cs (h.mono UC)
 | qW e a=>exact .qW e a
 | tight e l ne blk off f u7 w8 h hc=>exact .tight e l ne blk off f u7 (hs _ w8) (fun i hi=>(h i hi).mono UC) hc
 | xb=>exact .xb
 | jE=>exact .jE
 | qQ=>exact .qQ
 | vr=>exact .vr
 | vq=>exact .vq
 | pn v h=>exact .pn v h
 | gz T=>exact .gz T
 | h9 b T d hd=>exact .h9 b T d hd
 | bC b T blk n d hd h=>exact .bC b T blk n d hd h
 | ptr b off blk n d hd h=>exact .ptr b off blk n d hd h
 | qK τ y cs blk off w8 h hc=>exact .qK τ y cs blk off (hs _ w8) (h.mono UC) hc
 | vM b qs e idx off blk o hb h=>exact .vM b qs e idx off blk o hb h
 | ms b qs e off len cap a hb vx ha mZ h=>exact .ms b qs e off len cap a hb vx ha mZ h
 | xg f l vs hl h ih=>exact .xg f l vs hl ih
 | agg l vs hl ho h ih=>exact .agg l vs hl ho ih
 | jY l vs hl h ih=>exact .jY l vs hl ih
 | iface t d v h ih=>exact .iface t d v ih
theorem RD.free{κ':KS}(hw:κ'.w=κ.w)(w8:κ'.ok=κ.ok)(xh:κ.st=[]){d:D}{v:Value}(h:RD κ d v):RD κ' d v:=by
 obtain⟨w',ss,ph',zu⟩:=κ'
 simp only at hw w8
 subst hw w8
 induction h with
 | zi τ y cs h=>exact .zi τ y cs h
 | qW e a=>exact .qW e a
 | tight e l ne blk off f u7 w8 h hc=>exact .tight e l ne blk off f u7 w8 h hc
 | xb=>exact .xb
 | jE=>exact .jE
 | qQ=>exact .qQ
 | vr=>exact .vr
 | vq=>exact .vq
 | pn v h=>exact .pn v h
 | gz T=>exact .gz T
 | h9 b T d hd=>rw[xh]at hd; simp at hd
 | bC b T blk n d hd h=>rw[xh]at hd; simp at hd
 | ptr b off blk n d hd h=>rw[xh]at hd; simp at hd
 | qK τ y cs blk off w8 h hc=>exact .qK τ y cs blk off w8 h hc
 | vM b qs e idx off blk o hb h=>rcases hb with hb | ⟨_,_,_,hb,_⟩ <;> · rw[xh]at hb; simp at hb
 | ms b qs e off len cap a hb vx ha mZ h=>rcases hb with hb | ⟨_,_,_,hb,_⟩ <;> · rw[xh]at hb; simp at hb
 | xg f l vs hl h ih=>exact .xg f l vs hl ih
 | agg l vs hl ho h ih=>exact .agg l vs hl ho ih
 | jY l vs hl h ih=>exact .jY l vs hl ih
 | iface t d v h ih=>exact .iface t d v ih
theorem Rc.scalar{w w':World}{ok ss:Nat→Prop}{τ:Ty}{x:den τ}{cs:List Value}(h:Rc w ok τ x cs)(ht:τ.scalar=true):Rc w' ss τ x cs:=by
 induction h with
 | int k n=>exact .int k n
 | bool b=>exact .bool b
 | str s=>exact .str s
 | cI=>cases ht
 | sl=>cases ht
 | nil=>exact .nil
 | cons a b x y c1 c2 h1 h2 i1 i2=>simp only[Ty.scalar,Bool.and_eq_true]at ht; exact .cons a b x y c1 c2 (i1 ht.1) (i2 ht.2)
 | expr=>cases ht
theorem Pw{e:Ty}{ys:List (den e)}{v:Value}(h:Src κ e ys v):Rc κ.w (DQ κ) (.sl e) ys [v]:=by
 obtain⟨a,cap,f,rfl,vx,hn,h1,h2⟩:=h.ex
 cases a with
 | none=>obtain⟨rfl,rfl⟩:=hn rfl; exact .cI e none
 | some p =>
  rcases h2 p rfl with⟨rfl,rfl⟩ | ⟨hp,w8,hc⟩
  ·exact .cI e _
  obtain⟨blk,o,sp⟩:=p
  simp only at hp
  subst hp
  exact .sl e ys blk o cap f w8 vx (fun i hi=>(h1 i hi).mono fun k hk=>⟨.inl hk,rfl⟩) hc
def KS.all(κ:KS):KS:={ κ with ok:=DQ κ }
theorem RD.all{d:D}{v:Value}(h:RD κ d v):RD κ.all d v:=h.weaken fun _ hk=>.inl hk
theorem qG.all{l:List D}{vs:List Value}(h:qG κ l vs):qG κ.all l vs:=⟨h.1,fun i h1 h2=>(h.2 i h1 h2).all⟩
theorem XU{x y:D}{v:Value}(hI:Inv κ)(hx:RD κ x v)(h:(fY κ.st x).leads y):RD κ.all y v∧(x.one=true→y.one=true)∧(x.vN=false→y.vN=false):=by
 rcases nH hI hx h with⟨rfl,_⟩ | ⟨e,ys,rfl,hs,_⟩
 ·exact⟨hx.all,id,id⟩
 ·exact⟨RD.dW rfl (Pw hs),fun _=>rfl,fun _=>rfl⟩
theorem WM(hI:Inv κ):∀ {l r:List D} {vs:List Value},qG κ l vs→(∀ d∈l,d.one=true)→(WN κ.st l).leads r→qG κ.all r vs∧∀ d∈r,d.one=true
 | [],r,vs,h,_,hs=>by cases hs; rw[h.qo]; exact⟨.nil,nofun⟩
 | d::l,r,vs,h,ho,hs=>by
  simp only[WN,T.zH]at hs
  obtain⟨x,hx,l',hl,rfl⟩:=hs
  obtain⟨v,us,rfl,h1,h2⟩:=h.cons_inv
  obtain⟨g1,g2,_⟩:=XU hI h1 hx
  obtain⟨k1,k2⟩:=WM hI h2 (fun d hd=>ho d (List.mem_cons_of_mem _ hd)) hl
  refine⟨.cons g1 k1,fun d hd => ?_⟩
  rcases List.mem_cons.1 hd with rfl | hd
  ·exact g2 (ho _ List.mem_cons_self)
  ·exact k2 d hd
theorem Im{x y:D}{v:Value}(hI:Inv κ)(hx:RD κ x v)(h:(snap κ.st x).leads y):RD κ.all y v:=by
 cases x with
 | agg l =>
  simp only[snap,T.zH]at h
  obtain⟨r,hr,rfl⟩:=h
  cases hx with
  | agg _ vs hl ho hh =>
   obtain⟨g1,g2⟩:=WM hI (⟨hl,hh⟩:qG κ l vs) ho hr
   exact .agg r vs g1.1 g2 g1.2
 | _=>exact(XU hI hx h).1
theorem pN{τ:Ty}{d:D}{x:den τ}{v:Value}(hI:Inv κ)(hd:RD κ d v)(h:(pY κ.st τ d).leads x):RD κ.all (.zi τ x) v:=by
 simp only[pY,T.zH,T.vC]at h
 obtain⟨y,h1,h2⟩:=h
 exact yZ (Im hI hd h1) h2
theorem XZ{x y:D}(h:(fY [] x).leads y):y=x:=by
 cases x with
 | ms=>simp[fY,T.leads]at h
 | _=>exact h.symm
theorem XX:∀ {l r:List D},(WN [] l).leads r→r=l
 | [],_,h=>h.symm
 | d::l,r,h=>by
  simp only[WN,T.zH]at h
  obtain⟨x,hx,l',hl,rfl⟩:=h
  rw[XZ hx,XX hl]
theorem Fh{x y:D}(h:(snap [] x).leads y):y=x:=by
 cases x with
 | agg l =>
  simp only[snap,T.zH]at h
  obtain⟨r,hr,rfl⟩:=h
  rw[XX hr]
 | _=>exact XZ h
theorem K7{τ:Ty}{d:D}{x:den τ}{v:Value}(hd:RD κ d v)(h:(pY [] τ d).leads x):RD κ (.zi τ x) v:=by
 simp only[pY,T.zH,T.vC]at h
 obtain⟨y,h1,h2⟩:=h
 rw[Fh h1]at h2
 exact yZ hd h2
def tr:D→Bool | .zi .. | .qK .. => true | _=>false
def HO:D→Bool
 | .xg _ l=>l.all tr
 | d=>tr d
theorem LL{d:D}(h:tr d=true):HO d=true:=by cases d<;>first | exact h | cases h
theorem Zw{st:St}{τ:Ty}{d y:D}(h:(fU st τ d).leads y):tr y=true:=by
 unfold fU at h
 split at h
 ·split at h
  ·cases h; rfl
  ·exact h.elim
 ·split at h
  ·split at h
   ·cases h; rfl
   ·exact h.elim
  ·exact h.elim
 ·exact h.elim
theorem WW{τ:Ty}{d y:D}{v:Value}(hI:Inv κ)(hd:RD κ d v)(h:(fU κ.st τ d).leads y):RD κ.all y v:=by
 unfold fU at h
 split at h
 ·split at h
  ·rename_i x z hz
   cases h
   obtain⟨e,rfl⟩:=qe hz
   cases e
   exact hd.all
  ·exact h.elim
 ·rename_i b off
  split at h
  ·rename_i d' hb
   split at h
   ·rename_i z hz
    cases h
    cases ho:Nat.beq off 0 with
    | false=>rw[ho]at hz; cases hz
    | true =>
     rw[ho,cond_true]at hz
     have:=Nat.eq_of_beq_eq_true ho
     subst this
     obtain⟨blk,n,cs,t,g1,g2,g3,g4,g5⟩:=hI.blk b _ hb
     cases hd with
     | ptr _ _ iu n' d1 Hk hp =>
      rw[g1]at hp
      cases hp
      have w8:DQ κ blk:=.inr ⟨b,n,g1⟩
      have ht:d'.vN=false:=by
       cases d' with
       | jY l=>simp[gP,D.vN]at hz
       | _=>rfl
      have Y9:=iX hz g4 g5.1 ht
      refine .qK τ z cs.toList blk 0 w8 (Y9.mono fun k hk=>⟨.inl hk,rfl⟩) fun j v hj => ?_
      show κ.w.cell? _=_
      rw[mj g2,Nat.zero_add]
      simpa using hj
   ·exact h.elim
  ·exact h.elim
 ·exact h.elim
theorem W7{τ:Ty}{d y:D}{v:Value}(hd:RD κ d v)(h:(fU [] τ d).leads y):RD κ y v:=by
 unfold fU at h
 split at h
 ·split at h
  ·rename_i x z hz
   cases h
   obtain⟨e,rfl⟩:=qe hz
   cases e
   exact hd
  ·exact h.elim
 ·rename_i b off
  split at h
  ·rename_i d' hb; simp at hb
  ·exact h.elim
 ·exact h.elim
theorem J8{st:St}{p:rT}{d y:D}(h:(lI st p d).leads y):tr y=true:=by
 cases p with
 | rp τ=>exact Zw h
 | im τ=>simp only[lI,T.zH]at h; obtain⟨x,_,rfl⟩:=h; rfl
theorem Yq{p:rT}{d y:D}{v:Value}(hI:Inv κ)(hd:RD κ d v)(h:(lI κ.st p d).leads y):RD κ.all y v:=by
 cases p with
 | rp τ=>exact WW hI hd h
 | im τ=>simp only[lI,T.zH]at h; obtain⟨x,hx,rfl⟩:=h; exact pN hI hd hx
theorem G2{p:rT}{d y:D}{v:Value}(hd:RD κ d v)(h:(lI [] p d).leads y):RD κ y v:=by
 cases p with
 | rp τ=>exact W7 hd h
 | im τ=>simp only[lI,T.zH]at h; obtain⟨x,hx,rfl⟩:=h; exact K7 hd hx
theorem rh{st:St}:∀ {ps:List rT} {ds r:List D},(yX st ps ds).leads r→∀ d∈r,tr d=true
 | [],[],r,hs=>by cases hs; nofun
 | p::ps,d::ds,r,hs=>by
  simp only[yX,T.zH]at hs
  obtain⟨x,hx,l,hl,rfl⟩:=hs
  intro d' j9
  rcases List.mem_cons.1 j9 with rfl | j9
  ·exact J8 hx
  ·exact rh hl d' j9
 | [],_::_,_,hs=>hs.elim
 | _::_,[],_,hs=>hs.elim
theorem sL(hI:Inv κ):∀ {ps:List rT} {ds r:List D} {vs:List Value},qG κ ds vs→(yX κ.st ps ds).leads r→qG κ.all r vs
 | [],[],r,vs,h,hs=>by cases hs; rw[h.qo]; exact .nil
 | p::ps,d::ds,r,vs,h,hs=>by
  simp only[yX,T.zH]at hs
  obtain⟨x,hx,l,hl,rfl⟩:=hs
  obtain⟨v,us,rfl,h1,h2⟩:=h.cons_inv
  exact .cons (Yq hI h1 hx) (sL hI h2 hl)
 | [],_::_,_,_,_,hs=>hs.elim
 | _::_,[],_,_,_,hs=>hs.elim
theorem sN:∀ {ps:List rT} {ds r:List D} {vs:List Value},qG κ ds vs→(yX [] ps ds).leads r→qG κ r vs
 | [],[],r,vs,h,hs=>by cases hs; rw[h.qo]; exact .nil
 | p::ps,d::ds,r,vs,h,hs=>by
  simp only[yX,T.zH]at hs
  obtain⟨x,hx,l,hl,rfl⟩:=hs
  obtain⟨v,us,rfl,h1,h2⟩:=h.cons_inv
  exact .cons (G2 h1 hx) (sN h2 hl)
 | [],_::_,_,_,_,hs=>hs.elim
 | _::_,[],_,_,_,hs=>hs.elim
theorem nZ{st:St}{p:om}{d y:D}(h:(JM st p d).leads y):(∃ τ x,p=.ty τ∧(pY st τ d).leads x∧y=.zi τ x)∨(∃ τ,p=.rp τ∧(fU st τ d).leads y) ∨
  ∃ f caps l l',p=.xg f caps∧d=.xg f l∧(yX st caps l).leads l'∧y=.xg f l':=by
 cases p with
 | ty τ =>
  have h':((pY st τ d).bind fun x=>T.ret (D.zi τ x)).leads y:=by cases d<;>exact h
  simp only[T.zH]at h'
  obtain⟨x,hx,rfl⟩:=h'
  exact .inl ⟨τ,x,rfl,hx,rfl⟩
 | rp τ=>exact .inr (.inl ⟨τ,rfl,by cases d<;>exact h⟩)
 | xg f caps =>
  cases d with
  | xg f' l =>
   simp only[JM]at h
   cases hb:Nat.beq f f' with
   | false=>rw[hb]at h; exact h.elim
   | true =>
    rw[hb,cond_true,T.zH]at h
    obtain⟨l',hl,rfl⟩:=h
    have:=Nat.eq_of_beq_eq_true hb
    subst this
    exact .inr (.inr ⟨f,caps,l,l',rfl,rfl,hl,rfl⟩)
  | _=>exact h.elim
theorem Cu{st:St}{p:om}{d y:D}(h:(JM st p d).leads y):HO y=true:=by
 rcases nZ h with⟨τ,x,_,_,rfl⟩ | ⟨τ,_,h⟩ | ⟨f,caps,l,l',_,_,h',rfl⟩
 ·rfl
 ·exact LL (Zw h)
 ·exact List.all_eq_true.2 (rh h')
theorem Iu{p:om}{d y:D}{v:Value}(hI:Inv κ)(hd:RD κ d v)(h:(JM κ.st p d).leads y):RD κ.all y v:=by
 rcases nZ h with⟨τ,x,_,hx,rfl⟩ | ⟨τ,_,h⟩ | ⟨f,caps,l,l',_,rfl,h',rfl⟩
 ·exact pN hI hd hx
 ·exact WW hI hd h
 ·cases hd with
  | xg _ _ vs hl hh =>
   have:=sL hI (⟨hl,hh⟩:qG κ l vs) h'
   exact .xg f l' vs this.1 this.2
theorem Is{p:om}{d y:D}{v:Value}(hd:RD κ d v)(h:(JM [] p d).leads y):RD κ y v:=by
 rcases nZ h with⟨τ,x,_,hx,rfl⟩ | ⟨τ,_,h⟩ | ⟨f,caps,l,l',_,rfl,h',rfl⟩
 ·exact K7 hd hx
 ·exact W7 hd h
 ·cases hd with
  | xg _ _ vs hl hh =>
   have:=sN (⟨hl,hh⟩:qG κ l vs) h'
   exact .xg f l' vs this.1 this.2
theorem nK{st:St}:∀ {ps:List om} {ds r:List D},(fX st ps ds).leads r→∀ d∈r,HO d=true
 | [],[],r,hs=>by cases hs; nofun
 | p::ps,d::ds,r,hs=>by
  simp only[fX,T.zH]at hs
  obtain⟨x,hx,l,hl,rfl⟩:=hs
  intro d' j9
  rcases List.mem_cons.1 j9 with rfl | j9
  ·exact Cu hx
  ·exact nK hl d' j9
 | [],_::_,_,hs=>hs.elim
 | _::_,[],_,hs=>hs.elim
theorem WY(hI:Inv κ):∀ {ps:List om} {ds r:List D} {vs:List Value},qG κ ds vs→(fX κ.st ps ds).leads r→qG κ.all r vs
 | [],[],r,vs,h,hs=>by cases hs; rw[h.qo]; exact .nil
 | p::ps,d::ds,r,vs,h,hs=>by
  simp only[fX,T.zH]at hs
  obtain⟨x,hx,l,hl,rfl⟩:=hs
  obtain⟨v,us,rfl,h1,h2⟩:=h.cons_inv
  exact .cons (Iu hI h1 hx) (WY hI h2 hl)
 | [],_::_,_,_,_,hs=>hs.elim
 | _::_,[],_,_,_,hs=>hs.elim
theorem rZ:∀ {ps:List om} {ds r:List D} {vs:List Value},qG κ ds vs→(fX [] ps ds).leads r→qG κ r vs
 | [],[],r,vs,h,hs=>by cases hs; rw[h.qo]; exact .nil
 | p::ps,d::ds,r,vs,h,hs=>by
  simp only[fX,T.zH]at hs
  obtain⟨x,hx,l,hl,rfl⟩:=hs
  obtain⟨v,us,rfl,h1,h2⟩:=h.cons_inv
  exact .cons (Is h1 hx) (rZ h2 hl)
 | [],_::_,_,_,hs,h=>h.elim
 | _::_,[],_,_,hs,h=>h.elim
def KS.bare(κ:KS)(ok:Nat→Prop):KS:=⟨κ.w,ok,[],[]⟩
theorem Zv{ok:Nat→Prop}(hI:Inv κ)(hs:∀ k,κ.ok k→ok k)(h:∀ k,ok k→k<κ.w.heap.size):Inv (κ.bare ok) :=
 ⟨rfl,h,fun b blk n h=>by simp[KS.bare]at h,fun b b' blk n n' h=>by simp[KS.bare]at h,fun b x h=>by simp[KS.bare]at h,hI.gl.mono fun k hk=>⟨hs k hk,rfl⟩⟩
theorem eW{ok:Nat→Prop}{d:D}{v:Value}(hi:tr d=true)(h:RD { κ with ok:=ok } d v):RD (κ.bare ok) d v:=by
 cases d with
 | zi τ x=>obtain⟨cs,h1,rfl⟩:=RD.yh h; exact .zi τ x cs h1
 | qK τ x=>cases h with | qK _ _ cs blk off w8 h hc=>exact .qK τ x cs blk off w8 h hc
 | _=>cases hi
theorem XI{ok:Nat→Prop}{d:D}{v:Value}(hi:HO d=true)(h:RD { κ with ok:=ok } d v):RD (κ.bare ok) d v:=by
 cases d with
 | xg f l =>
  cases h with
  | xg _ _ vs hl hh=>exact .xg f l vs hl fun i h1 h2=>eW (List.all_eq_true.1 hi _ (List.getElem_mem h1)) (hh i h1 h2)
 | zi τ x=>exact eW hi h
 | qK τ x=>exact eW hi h
 | _=>cases hi
theorem Je{κ1:KS}{ok:Nat→Prop}(hI:Inv κ)(ry:Inv κ1)(xh:κ1.st=[])(hx:Ext (κ.bare ok) κ1)(ss:Nat→Prop)(h1:∀ k,κ.ok k→ss k)(h2:∀ k,ss k→κ.ok k∨κ.w.heap.size≤k)(h3:∀ k,ss k→k<κ1.w.heap.size) :
  Ext κ { κ with w:=κ1.w,ok:=ss }∧Inv { κ with w:=κ1.w,ok:=ss }:=by
 have SH:∀ k,k<κ.w.heap.size→κ1.w.heap[k]? = κ.w.heap[k]? := fun k hk=>hx.frame k hk fun b n h=>by simp[KS.bare]at h
 have uj:κ.w.heap.size≤κ1.w.heap.size:=hx.size
 have he:Ext κ { κ with w:=κ1.w,ok:=ss }:=⟨hx.os,hx.tape,hx.output,uj,fun k hk=>⟨h1 k hk,SH k (hI.kY k hk)⟩,fun k hk=>(h2 k hk).elim .inl (fun h=>.inr (.inl h)),fun _ _ _ h=>.inl h,fun b d h=>⟨⟨d,h⟩,rfl⟩,
  fun b v0 e xs h=>.inr ⟨v0,xs,h,Nat.le_refl _,fun _=>⟨rfl,rfl⟩⟩,fun _ h=>h,Nat.le_refl _,fun k hk _=>SH k hk⟩
 refine⟨he,hI.len,h3,fun b blk n h => ?_,hI.inj,fun b x h=>(hI.blk b x h).mono he rfl fun blk n h=>SH _ (hI.apart b blk n h).1,hI.gl.mono he.same⟩
 obtain⟨g1,g2⟩:=hI.apart b blk n h
 refine⟨Nat.lt_of_lt_of_le g1 uj,fun hk => ?_⟩
 rcases h2 blk hk with h | h
 ·exact g2 h
 ·exact absurd g1 (Nat.not_lt.2 h)
theorem D1{g:Nat}{args:List D}{zM:List Value}{d:Option D}{zu:St}(hs:Uu c.P g (c.fn g))(hI:Inv κ)(ha:qG κ args zM)
  (h:(zG (match c.sig g args with | some s=>kX c g s args | none=>mw c g args) κ.st).leads (d,zu)) :
  um c.P g zM.toArray κ.w fun e w'=>∃ (κ':KS) (v:Value),κ'.w=w'∧κ'.st=zu∧Inv κ'∧Ext κ κ'∧e=.returned v∧∀ d',d=some d'→RD κ' d' v:=by
 split at h
 ·rename_i s Dn
  unfold kX at h
  cases hm:(!(args.any ZH))with
  | true =>
   rw[hm,cond_true,we]at h
   obtain⟨h,rfl⟩:=h
   simp only[T.zH]at h
   obtain⟨l,hl,⟨rs,y9⟩,hc,hr⟩:=h
   have bL:=rZ ha hl
   have hb:qG (κ.bare κ.ok) l zM:=⟨bL.1,fun i h1 h2=>XI (nK hl _ (List.getElem_mem h1)) (bL.2 i h1 h2)⟩
   refine(hs (κ.bare κ.ok) l zM rs y9 hc (Zv hI (fun _ h=>h) hI.kY) hb).mono ?_
   rintro e w' ⟨κ1,rfl,xh,ry,hx,he⟩
   unfold L9 at hr
   split at hr
   ·rename_i ds heq
    cases heq
    cases hr
    obtain⟨v,rfl,hv⟩:=he
    obtain⟨hE,MM⟩:=Je hI ry xh hx κ1.ok (fun k hk=>(hx.same k hk).1) (fun k hk=>by
     rcases hx.fresh k hk with h | h | ⟨b,n,h⟩
     ·exact .inl h
     ·exact .inr h
     ·simp[KS.bare]at h) ry.kY
    exact⟨{ κ with w:=κ1.w,ok:=κ1.ok },v,rfl,rfl,MM,hE,rfl,fun d' j9=>by cases j9; exact RD.free (κ:=κ1) (κ':={ κ with w:=κ1.w,ok:=κ1.ok }) rfl rfl xh hv⟩
   ·exact hr.elim
  | false =>
   rw[hm,cond_false,dQ]at h
   obtain⟨h,rfl⟩:=h
   simp only[T.zH]at h
   obtain⟨l,hl,⟨rs,y9⟩,hc,hr⟩:=h
   have bL:=WY hI ha hl
   have hb:qG (κ.bare (DQ κ)) l zM:=⟨bL.1,fun i h1 h2=>XI (nK hl _ (List.getElem_mem h1)) (bL.2 i h1 h2)⟩
   have qh:∀ k,DQ κ k→k<κ.w.heap.size:=by
    rintro k (hk | ⟨b,n,hk⟩)
    ·exact hI.kY k hk
    ·exact(hI.apart b k n hk).1
   refine(hs (κ.bare (DQ κ)) l zM rs y9 hc (Zv hI (fun _ h=>.inl h) qh) hb).mono ?_
   rintro e w' ⟨κ1,rfl,xh,ry,hx,he⟩
   unfold mr at hr
   split at hr
   ·rename_i ds heq
    cases heq
    cases lz:ds.all mn with
    | false=>rw[lz]at hr; exact hr.elim
    | true =>
     rw[lz,cond_true]at hr
     cases hr
     obtain⟨v,rfl,hv⟩:=he
     obtain⟨hE,MM⟩:=Je hI ry xh hx κ.ok (fun k hk=>hk) (fun k hk=>.inl hk) (fun k hk=>Nat.lt_of_lt_of_le (hI.kY k hk) hx.size)
     refine⟨{ κ with w:=κ1.w,ok:=κ.ok },v,rfl,rfl,MM,hE,rfl,fun d' j9 => ?_⟩
     cases j9
     have one:∀ d u,mn d=true→RD κ1 d u→RD { κ with w:=κ1.w,ok:=κ.ok } d u:=by
      intro d u hd hu
      cases d<;>simp[mn]at hd
      obtain⟨cs,h1,rfl⟩:=RD.yh hu
      exact .zi _ _ cs (h1.scalar hd)
     have tF:=List.all_eq_true.1 lz
     unfold jU at hv ⊢
     split at hv
     ·exact one _ _ (tF _ (by simp)) hv
     ·rename_i u7
      cases hv with
      | jY _ vs hl hh=>exact .jY ds vs hl fun i h1 h2=>one _ _ (tF _ (List.getElem_mem h1)) (hh i h1 h2)
   ·exact hr.elim
 ·unfold mw at h
  simp only[zG,T.zH]at h
  obtain⟨⟨rs,y9⟩,hc,hr⟩:=h
  refine(hs κ args zM rs y9 hc hI ha).mono ?_
  rintro e w' ⟨κ1,rfl,xh,ry,hx,he⟩
  cases rs with
  | jq p=>exact hr.elim
  | ret ds =>
   cases hr
   obtain⟨v,rfl,hv⟩:=he
   exact⟨κ1,v,rfl,xh,ry,hx,rfl,fun d' j9=>by cases j9; exact hv⟩
end
end Go.AM