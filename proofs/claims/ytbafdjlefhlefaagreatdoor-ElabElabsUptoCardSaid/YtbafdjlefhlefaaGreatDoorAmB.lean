/-
  The abstract machine, part B: texts of our own, the same for each claim.
-/
import Derived.Test.YtbafdjlefhlefaaGreatDoorAmA
import Derived.Lib.AppendStr
import Derived.WideLaws
import Derived.Laws.BytesArg
import Derived.Laws.CopyRow
import Derived.Laws.IdiomCopy
set_option linter.unusedVariables false
namespace Go.AM
set_option linter.unusedSectionVars false
variable [uA]
section
variable {c:Ctx} {κ κ':KS}
theorem iI.mono(x:Ext κ κ'){b:Nat}(hp:κ'.ph[b]? = κ.ph[b]?)(hh:∀ blk n,κ.ph[b]? = some (some (blk,n))→κ'.w.heap[blk]? = κ.w.heap[blk]?){y:yf}(h:iI κ b y):iI κ' b y:=by
 cases y with
 | dead=>trivial
 | var d =>
  obtain⟨blk,n,cs,t,h1,h2,h3,h4,h5⟩:=h
  exact⟨blk,n,cs,t,hp.trans h1,(hh blk n h1).trans h2,h3,h4.mono x,h5⟩
 | arr qR e xs =>
  obtain⟨h0,h⟩:=h
  refine⟨h0,bX h (fun h=>⟨h.1,hp.trans h.2⟩) ?_⟩
  rintro⟨blk,n,cs,t,h1,h2,h3,h4,hr,f,h5⟩
  exact⟨blk,n,cs,t,hp.trans h1,(hh blk n h1).trans h2,h3,h4,hr,f,fun i hi=>⟨(h5 i hi).1.mono x.same,(h5 i hi).2⟩⟩
def KS.zY(κ:KS)(w':World):KS:={ κ with w:=w',ok:=fun k=>κ.ok k∨k=κ.w.heap.size }
structure fT(w w':World)(o:Obj):Prop where
 os:w'.os=w.os
 tape:w'.tape=w.tape
 output:w'.output=w.output
 heap:w'.heap=w.heap.push o
theorem fT.size{w w':World}{o:Obj}(g:fT w w' o):w'.heap.size=w.heap.size+1:=by rw[g.heap]; simp
theorem fT.old{w w':World}{o:Obj}(g:fT w w' o){k:Nat}(h:k<w.heap.size):w'.heap[k]? = w.heap[k]? := by
 rw[g.heap,Array.getElem?_push,if_neg (by omega)]
theorem fT.new{w w':World}{o:Obj}(g:fT w w' o):w'.heap[w.heap.size]? = some o:=by rw[g.heap]; simp
theorem fT.alloc(w:World)(o:Obj):fT w (w.alloc o) o:=⟨rfl,rfl,rfl,rfl⟩
theorem fT.drew(w:World)(o:Obj):fT w (w.drew.alloc o) o:=⟨rfl,rfl,rfl,rfl⟩
theorem Ul{w':World}{o:Obj}(hI:Inv κ)(g:fT κ.w w' o):Ext κ (κ.zY w'):=by
 refine⟨g.os,g.tape,g.output,by show κ.w.heap.size≤w'.heap.size; rw[g.size]; omega,fun k hk=>⟨.inl hk,g.old (hI.y6 k hk)⟩,?_,fun _ _ _ h=>.inl h,fun b d h=>⟨⟨d,h⟩,rfl⟩,
  fun b v0 e xs h=>.inr ⟨v0,xs,h,Nat.le_refl _,fun _=>⟨rfl,rfl⟩⟩,fun _ h=>h,Nat.le_refl _,fun k hk _=>g.old hk⟩
 rintro k (hk | hk)
 ·exact .inl hk
 ·exact .inr (.inl (by omega))
theorem b7{w':World}{o:Obj}(hI:Inv κ)(g:fT κ.w w' o):Inv (κ.zY w'):=by
 refine⟨hI.len,?_,?_,hI.inj,?_,hI.gl.mono (Ul hI g).same⟩
 ·rintro k (hk | hk)
  ·have:=hI.y6 k hk; show k<w'.heap.size; rw[g.size]; omega
  ·show k<w'.heap.size; rw[g.size]; omega
 ·intro b blk n h
  obtain⟨h1,h2⟩:=hI.apart b blk n h
  refine⟨by show blk<w'.heap.size; rw[g.size]; omega,?_⟩
  rintro(hk | hk)
  ·exact h2 hk
  ·omega
 ·intro b x hx
  exact(hI.blk b x hx).mono (Ul hI g) rfl fun blk n h=>g.old (hI.apart b blk n h).1
def KS.add(κ:KS)(w':World)(n:Nat)(x:yf):KS:={ κ with w:=w',ph:=κ.ph++[some (κ.w.heap.size,n)],st:=κ.st++[x] }
theorem sP{w':World}{o:Obj}{n:Nat}{x:yf}(hI:Inv κ)(g:fT κ.w w' o):Ext κ (κ.add w' n x):=by
 have xM:∀ b y,κ.st[b]? = some y→(κ.st++[x])[b]? = some y:=fun b y h=>by rw[List.getElem?_append_left (List.getElem?_eq_some_iff.1 h).1]; exact h
 have Vb:∀ b y,κ.st[b]? = some y→(κ.ph++[some (κ.w.heap.size,n)])[b]? = κ.ph[b]? := fun b y h=>by
  rw[List.getElem?_append_left]; rw[hI.len]; exact(List.getElem?_eq_some_iff.1 h).1
 refine⟨g.os,g.tape,g.output,by show κ.w.heap.size≤w'.heap.size; rw[g.size]; omega,fun k hk=>⟨hk,g.old (hI.y6 k hk)⟩,fun k hk=>.inl hk,?_,fun b d h=>⟨⟨d,xM b _ h⟩,Vb b _ h⟩,
  fun b v0 e xs h=>.inr ⟨v0,xs,xM b _ h,Nat.le_refl _,fun _=>⟨Vb b _ h,rfl⟩⟩,fun b h=>xM b _ h,by simp[KS.add],fun k hk _=>g.old hk⟩
 intro b blk m h
 simp only[KS.add]at h
 by_cases hb:b<κ.ph.length
 ·rw[List.getElem?_append_left hb]at h; exact .inl h
 ·rw[List.getElem?_append_right (by omega)]at h
  have:=List.mem_of_getElem? h
  simp at this
  exact .inr (by omega)
theorem rB(hI:Inv κ){w':World}{n:Nat}{x:yf}:(κ.add w' n x).ph[κ.st.length]? = some (some (κ.w.heap.size,n)):=by
 simp[KS.add,← hI.len]
theorem ZM{w':World}{n:Nat}{x:yf}:(κ.add w' n x).st[κ.st.length]? = some x:=by simp[KS.add]
theorem UB{w':World}{o:Obj}{n:Nat}{x:yf}(hI:Inv κ)(g:fT κ.w w' o)(hx:iI (κ.add w' n x) κ.st.length x):Inv (κ.add w' n x):=by
 have hold:∀ (b blk m:Nat),(κ.ph++[some (κ.w.heap.size,n)])[b]? = some (some (blk,m))→κ.ph[b]? = some (some (blk,m))∨(b=κ.ph.length∧blk=κ.w.heap.size):=by
  intro b blk m h
  by_cases hb:b<κ.ph.length
  ·rw[List.getElem?_append_left hb]at h; exact .inl h
  ·have Zf:=(List.getElem?_eq_some_iff.1 h).1
   simp at Zf
   have:b=κ.ph.length:=by omega
   subst this
   simp at h
   exact .inr ⟨rfl,h.1.symm⟩
 refine⟨by simp[KS.add,hI.len],?_,?_,?_,?_,hI.gl.mono (sP hI g).same⟩
 ·intro k hk; have:=hI.y6 k hk; show k<w'.heap.size; rw[g.size]; omega
 ·intro b blk m h
  rcases hold b blk m h with h | ⟨rfl,rfl⟩
  ·obtain⟨h1,h2⟩:=hI.apart b blk m h
   exact⟨by show blk<w'.heap.size; rw[g.size]; omega,h2⟩
  ·exact⟨by show κ.w.heap.size<w'.heap.size; rw[g.size]; omega,fun hk=>absurd (hI.y6 _ hk) (Nat.lt_irrefl _)⟩
 ·intro b b' blk m m' h h'
  rcases hold b blk m h with h | ⟨rfl,rfl⟩<;>rcases hold b' _ m' h' with h' | ⟨rfl,h''⟩
  ·exact hI.inj b b' blk m m' h h'
  ·have:=(hI.apart b blk m h).1; omega
  ·have:=(hI.apart b' _ m' h').1; omega
  ·rfl
 ·intro b y hy
  simp only[KS.add]at hy
  by_cases hb:b<κ.st.length
  ·rw[List.getElem?_append_left hb]at hy
   refine(hI.blk b y hy).mono (sP hI g) ?_ fun blk m h=>g.old (hI.apart b blk m h).1
   simp only[KS.add]
   rw[List.getElem?_append_left (by rw[hI.len]; exact hb)]
  ·have Zf:=(List.getElem?_eq_some_iff.1 hy).1
   simp at Zf
   have:b=κ.st.length:=by omega
   subst this
   simp at hy
   subst hy
   exact hx
theorem Mj{d:D}{v:Value}{t:TypeId}(hI:Inv κ)(hd:RD κ d v)(ht:d.uy=false)(Iv:∀ T,d.typed=some T→t=T) :
  ∃ κ':KS,κ'.w=κ.w.alloc (.cells v.cells t)∧κ'.st=κ.st++[.var d]∧Inv κ'∧Ext κ κ'∧RD κ' (.ptr κ.st.length 0) (.pointer (some ⟨κ.w.heap.size,0,none⟩)):=by
 have g:=fT.alloc κ.w (.cells v.cells t)
 have hx:=sP (n:=v.cells.size) (x:=.var d) hI g
 refine⟨κ.add _ v.cells.size (.var d),rfl,rfl,UB hI g ?_,hx,.ptr _ 0 _ v.cells.size d ZM (rB hI)⟩
 exact⟨κ.w.heap.size,v.cells.size,v.cells,t,rB hI,g.new,rfl,(jq hd ht).mono hx,jm hd,Iv⟩
theorem Re{t:Nat}{x:Option D}{v:Value}{d:Option D}{zL:St}(hI:Inv κ)(hx:∀ z,x=some z→RD κ z v)
  (h:(zS (z02 x) κ.st).leads (d,zL)) :
  qY c.P (do Pure.pure (.value (← Instr.box t v))) κ d zL:=by
 cases x with
 | none=>exact absurd h zj
 | some y =>
  simp only[z02]at h
  cases ht:y.uy||y.typed.isSome with
  | true=>rw[ht]at h; exact absurd h zj
  | false =>
   rw[ht,cond_false]at h
   simp only[Bool.or_eq_false_iff]at ht
   obtain⟨ht,Iv⟩:=ht
   have zeE:∀ T,y.typed=some T→t=T:=fun T e=>by rw[e]at Iv; cases Iv
   simp only[zS,T.leads,Prod.mk.injEq]at h
   obtain⟨rfl,rfl⟩:=h
   obtain⟨κ',h1,h2,h3,h4,h5⟩:=Mj (t:=t) hI (hx _ rfl) ht zeE
   refine⟨κ',_,_,?_,.inl rfl,h2,h3,h4,fun _ he=>by cases he; exact h5⟩
   simp[Instr.box,newVar,newRow,h1]
theorem z5g{d:D}{τ:Ty}{x:den τ}{v:Value}{t:TypeId}(hI:Inv κ)(hd:RD κ d v)(hx:dY τ d=some x) :
  ∃ κ':KS,κ'.w=κ.w.alloc (.cells v.cells t)∧κ'.st=κ.st∧Inv κ'∧Ext κ κ'∧RD κ' (.xp τ x) (.pointer (some ⟨κ.w.heap.size,0,none⟩)):=by
 have g:=fT.alloc κ.w (.cells v.cells t)
 have FR:=Ul hI g
 obtain⟨cs,h1,h2⟩:=RD.b7 (cD hd hx)
 have hc:=Xf h1.len h1.one
 rw[← h2]at hc
 have hn:(κ.w.alloc (.cells v.cells t)).heap[κ.w.heap.size]? = some (.cells v.cells t (0,0)):=g.new
 have bW:∀ j u,cs[j]? = some u→(κ.w.alloc (.cells v.cells t)).cell? ⟨κ.w.heap.size,0+j,none⟩=some u:=by
  intro j u hj
  simp only[World.cell?,hn,Nat.zero_add]
  rw[← hc]at hj
  simpa using hj
 exact⟨κ.zY _,rfl,rfl,b7 hI g,FR,.xp τ x cs κ.w.heap.size 0 (.inr rfl) (h1.mono FR.same) bW⟩
theorem El{t:Nat}{x:Option D}{v:Value}{d:Option D}{zL:St}(hI:Inv κ)(hx:∀ z,x=some z→RD κ z v)
  (h:(zS (TO c t x) κ.st).leads (d,zL)):qY c.P (do Pure.pure (.value (← Instr.box t v))) κ d zL:=by
 have key:∀ (y:D) (τ:Ty) (z:den τ),x=some y→dY τ y=some z→(zS (val (.xp τ z)) κ.st).leads (d,zL)→qY c.P (do Pure.pure (.value (← Instr.box t v))) κ d zL:=by
  intro y τ z hy hz h
  rw[w8]at h
  obtain⟨rfl,rfl⟩:=h
  obtain⟨κ',h1,h2,h3,h4,h5⟩:=z5g (t:=t) hI (hx y hy) hz
  refine⟨κ',_,_,?_,.inl rfl,h2,h3,h4,fun _ he=>by cases he; exact h5⟩
  simp[Instr.box,newVar,newRow,h1]
 unfold TO at h
 split at h
 ·rename_i τ z
  exact key _ τ z rfl (by simp[dY,vP]) h
 ·split at h
  ·split at h
   ·rename_i hz
    exact key _ _ _ rfl hz h
   ·exact absurd h zj
  ·exact absurd h zj
 ·exact absurd h zj
theorem F3{t:Nat}{dst:Option Nat}{x:Option D}{v:Value}{d:Option D}{zL:St}(hI:Inv κ)(hx:∀ z,x=some z→RD κ z v)
  (h:(zS (Pp c t dst x) κ.st).leads (d,zL)):qY c.P (do Pure.pure (.value (← Instr.box t v))) κ d zL:=by
 unfold Pp at h
 cases hb:z9l c dst with
 | true=>rw[hb]at h; exact El hI hx h
 | false=>rw[hb]at h; exact Re hI hx h
theorem ta{v:Value}{d:D}(h:rY v=some d):RD κ d v∧d.one=true∧d.uy=false∧(∀ cs,v≠.agg cs):=by
 unfold rY at h
 split at h<;>cases h<;>refine⟨?_,rfl,rfl,fun _=>nofun⟩
 ·exact .int
 ·exact .bool
 ·rename_i s; have:=RD.str (κ:=κ) (s:=s.data.toList); simpa using this
 ·exact .xo
 ·exact .yn
 ·exact .vQ
 ·exact .xZ
 ·exact .vR
theorem Ju{v:Value}{d:D}(h:WL v=some d):RD κ d v∧d.uy=false:=by
 unfold WL at h
 split at h
 ·rename_i cs
  split at h
  ·rename_i l hl
   cases h
   have hlen:l.length=cs.toList.length:=by have:=congrArg List.length (bQ hl); simpa using this.symm
   have nE:∀ x∈l,x.one=true:=by
    intro x hx
    have:some x∈cs.toList.map rY:=by rw[bQ hl]; exact List.mem_map.2 ⟨x,hx,rfl⟩
    obtain⟨u,_,hu⟩:=List.mem_map.1 this
    exact(ta (κ:=κ) hu).2.1
   have hr:=dB (κ:=κ) (vs:=cs.toList) hl (by simp) (fun i d v hd hv=>by
    simp only[List.getElem?_map,hv,Option.map_some,Option.some.injEq]at hd
    exact(ta hd).1)
   refine⟨?_,rfl⟩
   have:=RD.agg l cs.toList hr.1 nE hr.2
   simpa using this
  ·cases h
 ·exact⟨(ta h).1,(ta (κ:=κ) h).2.2.1⟩
theorem Qx{v:Value}{d:D}(h:rY v=some d):(∀ l,d≠.agg l)∧(∀ T,d≠.du T)∧∀ b T,d≠.yi b T:=by
 unfold rY at h
 split at h<;>cases h<;>exact⟨nofun,nofun,nofun⟩
theorem DC{v:Value}{d:D}(h:WL v=some d):d.typed=none:=by
 unfold WL at h
 split at h
 ·rename_i cs
  split at h
  ·rename_i l hl
   cases h
   have hz:=bQ hl
   cases l with
   | nil=>rfl
   | cons x r =>
    have:some x∈cs.toList.map rY:=by rw[hz]; simp
    obtain⟨u,_,hu⟩:=List.mem_map.1 this
    obtain⟨_,h1,h2⟩:=Qx hu
    cases x<;>first | rfl | exact absurd rfl (h1 _) | exact absurd rfl (h2 _ _)
  ·cases h
 ·have:=(Qx h).1
  cases d<;>first | rfl | exact absurd rfl (this _)
structure ZD(t:Nat)(d:D)(z:Value):Prop where
 rd:∀ κ:KS,RD κ d z
 gp:d.uy=false
 ty:∀ T,d.typed=some T→t=T
theorem SB{t:Nat}{d:D}{z:Value}(h:WL z=some d):ZD t (Rp c t d) z:=by
 have h0:∀ κ:KS,RD κ d z:=fun κ=>(Ju h).1
 have h1:d.uy=false:=(Ju (κ:=⟨default,fun _=>False,[],[]⟩) h).2
 have h2:=DC h
 have same:ZD t d z:=⟨h0,h1,fun T e=>by rw[h2]at e; cases e⟩
 unfold Rp
 split
 ·rename_i r
  cases hs:z3P c t with
  | false=>exact same
  | true =>
   refine⟨fun κ => ?_,rfl,fun T e=>by cases e; rfl⟩
   cases h0 κ with
   | agg _ vs hl ho hh =>
    have hR:xv κ (.yn::r) vs:=⟨hl,hh⟩
    obtain⟨v,us,rfl,g1,g2⟩:=hR.cons_inv
    have hR2:xv κ (.du t::r) (v::us):=.cons (by cases g1; exact .du t) g2
    exact .agg _ _ hR2.1 (fun x hx=>by
     rcases List.mem_cons.1 hx with rfl | hx
     ·rfl
     ·exact ho x (List.mem_cons_of_mem _ hx)) hR2.2
 ·exact same
theorem fq{t:Nat}{d:D}(h:VB c t=some d):∃ i z,c.P.info? t=some i∧i.zero=some z∧ZD t d z:=by
 unfold VB at h
 split at h
 ·rename_i i hi
  split at h
  ·rename_i z hz
   split at h
   ·rename_i d0 DX
    cases h
    exact⟨i,z,hi,hz,SB DX⟩
   ·cases h
  ·cases h
 ·cases h
theorem EY{t:Nat}{d:Option D}{zL:St}(hI:Inv κ)
  (h:(zS (oa c t) κ.st).leads (d,zL)) :
  qY c.P (do Pure.pure (.value (← Instr.alloc t true (.tuple #[])))) κ d zL:=by
 unfold oa at h
 split at h
 ·rename_i y hy
  obtain⟨i,z,h1,h2,h3⟩:=fq hy
  simp only[zS,T.leads,Prod.mk.injEq]at h
  obtain⟨rfl,rfl⟩:=h
  obtain⟨κ',g1,g2,g3,g4,g5⟩:=Mj (t:=t) hI (h3.rd κ) h3.gp h3.ty
  refine⟨κ',_,_,?_,.inl rfl,g2,g3,g4,fun _ he=>by cases he; exact g5⟩
  simp[Instr.alloc,zeroValue,typeInfo,h1,h2,newVar,newRow,g1]
 ·exact absurd h zj
end
end Go.AM
namespace Go.AM
set_option linter.unusedSectionVars false
variable [uA]
section
variable {c:Ctx} {κ:KS}
def KS.B8(κ:KS)(b blk:Nat)(cs:Array Value)(x:yf):KS:={ κ with w:=κ.w.setRow blk cs,st:=κ.st.set b x }
def Alike:yf→yf→Prop
 | .var _,.var _=>True
 | .arr v e xs,.arr v' e' xs'=>e=e'∧v≤v'∧(v=v'→xs.length=xs'.length)
 | _,_=>False
theorem nQ{b blk n:Nat}{cs:Array Value}{x y:yf}(hI:Inv κ)(hp:κ.ph[b]? = some (some (blk,n)))(hy:κ.st[b]? = some y)(ha:Alike y x):Ext κ (κ.B8 b blk cs x):=by
 have qp:b<κ.st.length:=(List.getElem?_eq_some_iff.1 hy).1
 have uj:∀ k,κ.ok k→k≠blk:=fun k hk e=>(hI.apart b blk n hp).2 (e▸hk)
 refine⟨rfl,rfl,rfl,by simp[KS.B8],fun k hk=>⟨hk,setRow_other _ _ _ _ (uj k hk)⟩,fun k hk=>.inl hk,fun _ _ _ h=>.inl h,?_,?_,?_,by simp[KS.B8],?_⟩
 ·intro b' d hd
  refine⟨?_,rfl⟩
  simp only[KS.B8,List.getElem?_set]
  split
  ·rename_i e
   subst e
   rw[hy]at hd; cases hd
   cases x<;>simp[Alike]at ha
   rename_i d'
   exact⟨d',rfl⟩
  ·exact⟨d,hd⟩
 ·intro b' v0 e pj hd
  refine .inr ?_
  simp only[KS.B8,List.getElem?_set]
  split
  ·rename_i e'
   subst e'
   rw[hy]at hd; cases hd
   cases x<;>simp[Alike]at ha
   rename_i v1 e1 zA
   obtain⟨rfl,h1,h2⟩:=ha
   exact⟨v1,zA,rfl,h1,fun h=>⟨trivial,h2 h⟩⟩
  ·exact⟨v0,pj,hd,Nat.le_refl _,fun _=>⟨trivial,rfl⟩⟩
 ·intro b' hd
  simp only[KS.B8,List.getElem?_set]
  split
  ·rename_i e
   subst e
   rw[hy]at hd; cases hd
   simp[Alike]at ha
  ·exact hd
 ·intro k hk hn
  exact setRow_other _ _ _ _ (fun e=>hn b n (e▸hp))
theorem Qz{b blk n:Nat}{cs:Array Value}{x y:yf}(hI:Inv κ)(hp:κ.ph[b]? = some (some (blk,n)))(hy:κ.st[b]? = some y)(ha:Alike y x)
  (hx:iI (κ.B8 b blk cs x) b x):Inv (κ.B8 b blk cs x):=by
 refine⟨by simp[KS.B8,hI.len],?_,?_,hI.inj,?_,hI.gl.mono (nQ hI hp hy ha).same⟩
 ·intro k hk; show k<(κ.w.setRow blk cs).heap.size; rw[setRow_size]; exact hI.y6 k hk
 ·intro b' ma m h
  obtain⟨h1,h2⟩:=hI.apart b' ma m h
  exact⟨by show ma<(κ.w.setRow blk cs).heap.size; rw[setRow_size]; exact h1,h2⟩
 ·intro b' z hz
  by_cases hb:b=b'
  ·subst hb
   simp only[KS.B8,List.getElem?_set,if_pos]at hz
   split at hz
   ·cases hz; exact hx
   ·cases hz
  ·simp only[KS.B8,List.getElem?_set,if_neg hb]at hz
   refine(hI.blk b' z hz).mono (nQ hI hp hy ha) rfl fun ma m h => ?_
   refine setRow_other _ _ _ _ fun e => ?_
   subst e
   exact hb (hI.inj b b' _ n m hp h)
theorem Hi{d d':D}{t:Nat}(h:o8 d d'=true)(hd:∀ T,d.typed=some T→t=T):∀ T,d'.typed=some T→t=T:=by
 intro T hT
 unfold o8 at h
 rw[hT]at h
 simp only at h
 cases DX:d.typed with
 | none=>rw[DX]at h; cases h
 | some T' =>
  rw[DX]at h
  have e:=Nat.eq_of_beq_eq_true h
  exact(hd T' DX).trans e.symm
theorem p8{t:Nat}{n blk o:Nat}{v:Value}{cs:Array Value}{T:TypeId}(hn:lE c t=some n)(hv:v.cells.toList.length=n)(h1:∀ u∈v.cells.toList,u.oneCell'=true)
  (hg:κ.w.heap[blk]? = some (.cells cs T (0,0))) (hle:o+n≤cs.size) :
  (storeVar t ⟨blk,o,none⟩ v).run c.P κ.w=.ok () (κ.w.setRow blk (cs.toList.take o++v.cells.toList++cs.toList.drop (o+n)).toArray):=by
 have hs:v.cells.size=n:=by simpa using hv
 have:=run_storeCells_at c.P blk o T v.cells.toList 0 cs κ.w hg (by simp[hs]; omega) h1
 simp only[Nat.add_zero,hv]at this
 simp[storeVar,run_sizeOf hn,hs,this]
theorem lV{l:List D}{vs us:List Value}{x:List D}(h:xv κ l vs)(hx:xv κ x us)(o n:Nat) :
  xv κ (l.take o++x++l.drop (o+n)) (vs.take o++us++vs.drop (o+n)):=((h.take o).append hx).append (h.drop (o+n))
theorem og{cs us:List Value}{o n:Nat}(hu:us.length=n)(ho:o+n≤cs.length)(p:Nat) :
  (cs.take o++us++cs.drop (o+n))[p]? = if p<o then cs[p]? else if p<o+n then us[p-o]? else cs[p]? := by
 have hto:(cs.take o).length=o:=by simp; omega
 by_cases h1:p<o
 ·rw[if_pos h1,List.append_assoc,List.getElem?_append_left (by omega),List.getElem?_take,if_pos h1]
 ·rw[if_neg h1,List.append_assoc,List.getElem?_append_right (by omega),hto]
  by_cases h2:p<o+n
  ·rw[if_pos h2,List.getElem?_append_left (by omega)]
  ·rw[if_neg h2,List.getElem?_append_right (by omega),List.getElem?_drop,hu]
   congr 1; omega
theorem YW{t:Nat}{d x r:D}{off:Nat}(h:Cz c t d off x=some r):∃ n,lE c t=some n∧0<n∧(qq x).length=n∧off+n≤(qq d).length ∧
  qq r=(qq d).take off++qq x++(qq d).drop (off+n)∧((∀ y∈qq d,y.one=true)→(∀ y∈qq x,y.one=true)→∀ y∈qq r,y.one=true)∧x.uy=false:=by
 unfold Cz at h
 split at h
 ·cases h
 ·rename_i n hn
  cases hb:Nat.blt 0 n&&Nat.beq n (qq x).length&&Nat.ble (off+n) (qq d).length with
  | false=>rw[hb]at h; cases h
  | true =>
   rw[hb,cond_true]at h
   simp only[Bool.and_eq_true]at hb
   obtain⟨⟨h0,h1⟩,h2⟩:=hb
   have h0':0<n:=Nat.le_of_ble_eq_true h0
   have mh:n=(qq x).length:=Nat.eq_of_beq_eq_true h1
   have TU:=Nat.le_of_ble_eq_true h2
   have H5:x.uy=false:=by
    cases x with
    | gp l=>simp[qq]at mh; omega
    | _=>rfl
   cases hw:Nat.beq n (qq d).length with
   | true =>
    rw[hw,cond_true]at h
    cases h
    have h3:n=(qq d).length:=Nat.eq_of_beq_eq_true hw
    have h4:off=0:=by omega
    subst h4
    refine⟨n,hn,h0',mh.symm,TU,?_,fun _ h=>h,H5⟩
    simp[h3]
   | false =>
    rw[hw,cond_false]at h
    cases h
    refine⟨n,hn,h0',mh.symm,TU,rfl,fun hd hx y hy => ?_,H5⟩
    simp only[qq,List.mem_append]at hy
    rcases hy with(hy | hy) | hy
    ·exact hd y (List.mem_of_mem_take hy)
    ·exact hx y hy
    ·exact hd y (List.mem_of_mem_drop hy)
theorem rF{τ:Ty}{r:D}{x:den τ}{vs:List Value}(h:dY τ r=some x)(hr:xv κ (qq r) vs)(nE:∀ y∈qq r,y.one=true)(ht:r.uy=false):Rc κ.w κ.ok τ x vs:=by
 cases r with
 | zY σ y=>obtain⟨rfl,rfl⟩:=qB h; exact Uz _ _ hr
 | agg l =>
  have:=cD (RD.agg l vs hr.1 nE hr.2) h
  obtain⟨cs,h1,h2⟩:=RD.b7 this
  have hc:=Xf h1.len h1.one
  rw[← h2]at hc
  simp only[Value.cells]at hc
  rw[← hc]at h1
  simpa using h1
 | gp l=>cases ht
 | _ =>
  obtain⟨v,r',rfl,h1,h2⟩:=xv.cons_inv hr
  have e2:=h2.qF
  subst e2
  have h3:=cD h1 h
  obtain⟨cs,h4,h5⟩:=RD.b7 h3
  have hag:τ.isAgg=false:=by
   cases hta:τ.isAgg with
   | false=>rfl
   | true=>simp[dY,D.isAgg,hta]at h
  obtain⟨u,rfl⟩:=h4.single hag
  rw[Jq hag]at h5
  rwa [h5]
theorem DR{t:Nat}{a x:Option D}{v u:Value}{d:Option D}{zL:St}(hI:Inv κ)(ha:∀ z,a=some z→RD κ z v)(hx:∀ z,x=some z→RD κ z u)
  (h:(zS (Uu c t a x) κ.st).leads (d,zL)):qY c.P (do Instr.storeAt t v u; Pure.pure .skip) κ d zL:=by
 unfold Uu at h
 split at h
 ·rename_i b off y
  simp only[zS]at h
  split at h
  ·rename_i d0 hb
   split at h
   ·rename_i r hr
    cases we:o8 d0 r with
    | false=>rw[we]at h; exact h.elim
    | true =>
    rw[we,cond_true]at h
    simp only[T.leads,Prod.mk.injEq]at h
    obtain⟨rfl,rfl⟩:=h
    obtain⟨n,hn,h0,XX,hle,Cy,nE,H5⟩:=YW hr
    cases ha _ rfl with
    | ptr _ _ blk m d1 hd hp =>
     obtain⟨ma,m',cs,T,g1,g2,g3,g4,g5⟩:=hI.blk b _ hb
     rw[hp]at g1
     cases g1
     have hy:=hx _ rfl
     have hfy:=jq hy H5
     have hvl:u.cells.toList.length=n:=by rw[← hfy.1]; exact XX
     have jn:off+n≤cs.size:=by have:=g4.1; simp at this; omega
     have h1:∀ z∈u.cells.toList,z.oneCell'=true:=by
      intro z hz
      obtain⟨i,hi,rfl⟩:=List.getElem_of_mem hz
      exact(hfy.2 i (hfy.1▸hi) hi).Ua (jm hy _ (List.getElem_mem _))
     have vO:=p8 (c:=c) (κ:=κ) hn hvl h1 g2 jn
     have pN:Alike (.var d0) (.var r):=trivial
     let iQ:=(cs.toList.take off++u.cells.toList++cs.toList.drop (off+n)).toArray
     have hex:=nQ (cs:=iQ) (x:=.var r) hI hp hb pN
     refine⟨κ.B8 b blk iQ (.var r),.skip,undef,?_,.inr ⟨rfl,rfl⟩,rfl,Qz hI hp hb pN ?_,hex,fun _ he=>by cases he⟩
     ·simp only[Sem.run_bind,Instr.storeAt,Instr.sureAddr,Sem.run_pure,Result.andThen_ok,vO]; rfl
     ·refine⟨blk,m,iQ,T,hp,setRow_heap _ _ _ _ _ _ g2,?_,?_,nE g5.1 (jm hy),Hi we g5.2⟩
      ·have hc:cs.toList.length=cs.size:=by simp
       simp[iQ,hvl,← g3]; omega
      ·rw[Cy]; exact(lV g4 hfy off n).mono hex
   ·exact h.elim
  ·exact h.elim
 ·rename_i b qR e idx off y
  simp only[zS]at h
  split at h
  ·rename_i kv e' xs hb
   cases he:decide (e'=e)with
   | false=>rw[he]at h; exact h.elim
   | true =>
    rw[he,cond_true]at h
    have R0:e'=e:=of_decide_eq_true he
    subst R0
    obtain⟨⟨rfl,qp⟩,h⟩:=h
    split at h
    ·rename_i r hr
     split at h
     ·rename_i z hz
      simp only[T.leads,Prod.mk.injEq]at h
      obtain⟨rfl,rfl⟩:=h
      obtain⟨n,hn,h0,XX,hle,Cy,nE,H5⟩:=YW hr
      cases ha _ rfl with
      | uk _ _ _ _ _ blk o hold hp =>
       obtain⟨m,p1,rfl⟩:=hp xs hb qp
       obtain⟨jn,⟨Xd,_⟩ | ⟨ma,n',cs,T,g1,g2,g3,g4,gr,f,g5⟩⟩:=hI.blk b _ hb
       ·subst Xd; cases qp
       ·rw[p1]at g1
        cases g1
        rw[U9 qp]at hr Cy hle nE
        have hy:=hx _ rfl
        have hfy:=jq hy H5
        have hvl:u.cells.toList.length=n:=by rw[← hfy.1]; exact XX
        obtain⟨k1,k2⟩:=g5 idx qp
        have Cd:=k1.len
        have Ym:off+n≤e'.size:=by simpa[qq,k9]using hle
        have zjQ:idx*e'.size+e'.size≤xs.length*e'.size:=by rw[← Nat.succ_mul]; exact Nat.mul_le_mul_right _ qp
        have NJ:idx*e'.size+off+n≤cs.size:=by omega
        have h1:∀ z∈u.cells.toList,z.oneCell'=true:=by
         intro z hz
         obtain⟨i,hi,rfl⟩:=List.getElem_of_mem hz
         exact(hfy.2 i (hfy.1▸hi) hi).Ua (jm hy _ (List.getElem_mem _))
        have vO:=p8 (c:=c) (κ:=κ) hn hvl h1 g2 NJ
        have pN:Alike (.arr qR e' xs) (.arr qR e' (xs.set idx z)):=⟨rfl,Nat.le_refl _,fun _=>by simp⟩
        let iQ:=(cs.toList.take (idx*e'.size+off)++u.cells.toList++cs.toList.drop (idx*e'.size+off+n)).toArray
        have hex:=nQ (cs:=iQ) (x:=.arr qR e' (xs.set idx z)) hI p1 hb pN
        refine⟨κ.B8 b blk iQ (.arr qR e' (xs.set idx z)),.skip,undef,?_,.inr ⟨rfl,rfl⟩,rfl,Qz hI p1 hb pN ?_,hex,fun _ he=>by cases he⟩
        ·simp only[Sem.run_bind,Instr.storeAt,Instr.sureAddr,Sem.run_pure,Result.andThen_ok,vO]; rfl
        ·have hlen:iQ.size=cs.size:=by simp[iQ,hvl]; omega
         refine⟨jn,.inr ⟨blk,m,iQ,T,p1,setRow_heap _ _ _ _ _ _ g2,by rw[hlen]; exact g3,by simpa using g4,?_⟩⟩
         -- cells of the element that is written
         let fi:=(f idx).take off++u.cells.toList++(f idx).drop (off+n)
         have zfG:xv κ (qq r) fi:=by
          rw[Cy]
          exact lV (pX k1) hfy off n
         have hrt:r.uy=false:=by
          cases r with
          | gp l =>
           have h6:=congrArg List.length Cy
           rw[List.length_append,List.length_append,XX]at h6
           have h7:(qq (D.gp l)).length=0:=rfl
           omega
          | _=>rfl
         have hrc:=rF hz zfG (nE (cX _ _) (jm hy)) hrt
         have Yg:∀ p,iQ[p]? = if p<idx*e'.size+off then cs[p]? else if p<idx*e'.size+off+n then u.cells.toList[p-(idx*e'.size+off)]? else cs[p]? := by
          intro p
          have:=og (cs:=cs.toList) (us:=u.cells.toList) hvl (by simpa using NJ) p
          simpa only[iQ,List.getElem?_toArray,Array.getElem?_toList]using this
         have zgI:∀ j,fi[j]? = if j<off then(f idx)[j]? else if j<off+n then u.cells.toList[j-off]? else(f idx)[j]? := fun j=>og hvl (by omega) j
         refine⟨gr,fun i=>if i=idx then fi else f i,fun i hi => ?_⟩
         rw[List.length_set]at hi
         by_cases hii:i=idx
         ·subst hii
          simp only[if_true,List.getElem_set_self]
          refine⟨hrc.mono hex.same,fun j w hj => ?_⟩
          rw[zgI]at hj
          rw[Yg]
          split at hj
          ·rw[if_pos (by omega)]; exact k2 j w hj
          ·split at hj
           ·rw[if_neg (by omega),if_pos (by omega)]; rw[← hj]; congr 1; omega
           ·rw[if_neg (by omega),if_neg (by omega)]; exact k2 j w hj
         ·simp only[if_neg hii]
          obtain⟨q1,q2⟩:=g5 i hi
          refine⟨by rw[List.getElem_set_ne (fun e=>hii e.symm)]; exact q1.mono hex.same,fun j w hj => ?_⟩
          have Li:j<e'.size:=by rw[← q1.len]; exact(List.getElem?_eq_some_iff.1 hj).1
          rw[Yg]
          rcases Nat.lt_or_gt_of_ne hii with U0 | hgt'
          ·have:i*e'.size+e'.size≤idx*e'.size:=by rw[← Nat.succ_mul]; exact Nat.mul_le_mul_right _ U0
           rw[if_pos (by omega)]; exact q2 j w hj
          ·have:idx*e'.size+e'.size≤i*e'.size:=by rw[← Nat.succ_mul]; exact Nat.mul_le_mul_right _ hgt'
           rw[if_neg (by omega),if_neg (by omega)]; exact q2 j w hj
     ·exact h.elim
    ·exact h.elim
  ·exact h.elim
 ·exact absurd h zj
end
end Go.AM
namespace Go.AM
set_option linter.unusedSectionVars false
variable [uA]
section
variable {c:Ctx} {κ:KS}
theorem V8:∀ (vs:List Value) (cells:Array Value) (off k:Nat),off+k+vs.length≤cells.size →
  ((vs.zipIdx k).foldl (fun(cs:Array Value) (p:Value×Nat)=>cs.setIfInBounds (off+p.2) p.1) cells).toList=cells.toList.take (off+k)++vs++cells.toList.drop (off+k+vs.length)
 | [],cells,off,k,_=>by simp
 | v::vs,cells,off,k,h=>by
  simp only[List.length_cons]at h
  simp only[List.zipIdx_cons,List.foldl_cons]
  rw[V8 vs _ off (k+1) (by simp; omega)]
  have qp:off+k<cells.toList.length:=by simp; omega
  simp only[Array.toList_setIfInBounds,List.length_cons]
  have e1:(cells.toList.set (off+k) v).take (off+(k+1))=cells.toList.take (off+k)++[v]:=by
   rw[show off+(k+1)=off+k+1 by omega,List.take_succ_eq_append_getElem (by simpa using qp)]
   rw[List.take_set_of_le (Nat.le_refl _)]
   simp
  have e2:(cells.toList.set (off+k) v).drop (off+(k+1)+vs.length)=cells.toList.drop (off+k+(vs.length+1)):=by
   rw[List.drop_set_of_lt (by omega)]
   congr 1; omega
  rw[e1,e2]
  simp
theorem D1{place:Nat→Option (Nat×Nat)}{cells:Array Value}{i off size:Nat}{v:Value}{rest:List (Nat×Value)}(hp:place i=some (off,size))(hs:v.cells.toList.length=size)(hle:off+size≤cells.size) :
  Instr.fill place cells ((i,v)::rest)=Instr.fill place (cells.toList.take off++v.cells.toList++cells.toList.drop (off+size)).toArray rest:=by
 have hs':v.cells.size=size:=by simpa using hs
 have hf:=V8 v.cells.toList cells off 0 (by simp[hs']; omega)
 simp only[Nat.add_zero,hs]at hf
 conv=>lhs; unfold Instr.fill
 simp only[hp]
 rw[if_neg (by simp[hs']; omega)]
 congr 1
 apply Array.ext'
 rw[← Array.foldl_toList,Array.toList_zipIdx]
 exact hf
theorem YS{e:Ty}{x:den e}{v:Value}(h:RD κ (.zY e x) v):Rc κ.w κ.ok e x v.cells.toList:=by
 obtain⟨cs,h1,rfl⟩:=RD.b7 h
 rw[Xf h1.len h1.one]; exact h1
theorem Gg{e:Ty}{F:Operand→Option D}{G:Operand→Value}(hF:∀ x d,F x=some d→RD κ d (G x)):∀ (L:List (Nat×Operand)) (k:Nat) (cells:Array Value) (l:List (den e)),
  Gm e k (L.map fun p=>(p.1,F p.2))=some l→(k+L.length)*e.size≤cells.size →
  ∃ fx,Instr.fill (fun i=>some (i*e.size,e.size)) cells (L.map fun p=>(p.1,G p.2))=some fx∧fx.size=cells.size∧(∀ p,p<k*e.size→fx[p]? = cells[p]?)∧l.length=L.length ∧
   ∃ f:Nat→List Value,∀ i (hi:i<l.length),Rc κ.w κ.ok e l[i] (f i)∧∀ j v,(f i)[j]? = some v→fx[(k+i)*e.size+j]? = some v
 | [],k,cells,l,h,_=>by
  simp only[List.map_nil,Gm,Option.some.injEq]at h
  subst h
  exact⟨cells,rfl,rfl,fun _ _=>rfl,rfl,fun _=>[],fun i hi=>absurd hi (Nat.not_lt_zero i)⟩
 | (i,x)::L,k,cells,l,h,hle=>by
  simp only[List.map_cons]at h
  cases hx:F x with
  | none=>rw[hx]at h; simp[Gm]at h
  | some d =>
   rw[hx]at h
   simp only[Gm]at h
   cases hb:Nat.beq k i with
   | false=>rw[hb]at h; cases h
   | true =>
    have hik:k=i:=Nat.eq_of_beq_eq_true hb
    subst hik
    rw[hb,cond_true]at h
    split at h
    ·rename_i y l' hy IS
     cases h
     have hr:=YS (cD (hF x d hx) hy)
     have hlen:=hr.len
     simp only[List.length_cons]at hle
     have Xz:(k+(L.length+1))*e.size=k*e.size+e.size+L.length*e.size:=by rw[Nat.add_mul,Nat.add_mul]; omega
     have bW:k*e.size+e.size≤cells.size:=by omega
     let c1:=(cells.toList.take (k*e.size)++(G x).cells.toList++cells.toList.drop (k*e.size+e.size)).toArray
     have E2:c1.size=cells.size:=by simp only[c1,List.size_toArray,List.length_append,List.length_take,List.length_drop,hlen,Array.length_toList]; omega
     have hg:∀ p,c1[p]? = if p<k*e.size then cells[p]? else if p<k*e.size+e.size then(G x).cells.toList[p-k*e.size]? else cells[p]? := by
      intro p
      have:=og (cs:=cells.toList) (us:=(G x).cells.toList) hlen (by simpa using bW) p
      simpa only[c1,List.getElem?_toArray,Array.getElem?_toList]using this
     obtain⟨fx,h1,h2,h3,h4,f,h5⟩:=Gg hF L (k+1) c1 l' IS (by rw[E2,show k+1+L.length=k+(L.length+1) by omega]; exact hle)
     refine⟨fx,?_,h2.trans E2,?_,by simp[h4],fun i=>match i with | 0=>(G x).cells.toList | i+1=>f i,?_⟩
     ·simp only[List.map_cons]
      rw[D1 rfl hlen bW]
      exact h1
     ·intro p hp
      rw[h3 p (by rw[Nat.add_mul]; omega),hg,if_pos hp]
     ·intro i hi
      cases i with
      | zero =>
       refine⟨hr,fun j v hj => ?_⟩
       have Li:j<e.size:=by rw[← hlen]; exact(List.getElem?_eq_some_iff.1 hj).1
       have ga:(k+1)*e.size=k*e.size+e.size:=by rw[Nat.add_mul]; omega
       rw[Nat.add_zero,h3 _ (by omega),hg,if_neg (by omega),if_pos (by omega),Nat.add_sub_cancel_left]
       exact hj
      | succ i =>
       have:=h5 i (by simpa using hi)
       rw[show k+1+i=k+(i+1) by omega]at this
       exact this
    ·cases h
theorem rq{t n:Nat}(h:oW c t=some n):∃ i,c.P.info? t=some i∧i.bytes=n:=by
 unfold oW at h
 cases hi:c.P.info? t with
 | none=>simp[hi]at h
 | some i=>exact⟨i,rfl,by simpa[hi]using h⟩
theorem lB{et:Nat}{e:Ty}{z:den e}(h:zeroOf c et e=some z):∃ i v,c.P.info? et=some i∧i.zero=some v∧Rc κ.w κ.ok e z v.cells.toList:=by
 unfold zeroOf at h
 split at h
 ·rename_i d hd
  obtain⟨i,v,h1,h2,h3⟩:=fq hd
  exact⟨i,v,h1,h2,YS (cD (h3.rd κ) h)⟩
 ·cases h
theorem U2{t n:Nat}{L:List (Nat×Operand)}{F:Operand→Option D}{G:Operand→Value}{d:Option D}{zL:St}(hI:Inv κ)(hF:∀ x d,F x=some d→RD κ d (G x))
  (h:(zS (oL c t n (L.map fun p=>(p.1,F p.2))) κ.st).leads (d,zL)) :
  qY c.P (do Pure.pure (.value (← Instr.buildSlice t n (L.map fun p=>(p.1,G p.2)).toArray))) κ d zL:=by
 unfold oL at h
 split at h
 ·exact absurd h zj
 ·rename_i et het
  have hu:=ur het
  split at h
  ·rename_i e Iv
   cases hb:kT c et e&&Nat.beq n (L.map fun p=>(p.1,F p.2)).length&&Nat.ble n 1000&&Nat.ble e.size 100&&(zeroOf c et e).isSome with
   | false=>rw[hb]at h; exact absurd h zj
   | true =>
    rw[hb,cond_true]at h
    simp only[Bool.and_eq_true]at hb
    obtain⟨⟨⟨⟨we,hn⟩,h1⟩,h2⟩,h3⟩:=hb
    have hn':n=L.length:=by have:=Nat.eq_of_beq_eq_true hn; simpa using this
    have mh:=Nat.le_of_ble_eq_true h1
    have TU:=Nat.le_of_ble_eq_true h2
    obtain⟨hs,_⟩:=vp we
    obtain⟨z,hz⟩:=Option.isSome_iff_exists.1 h3
    obtain⟨i,zv,o9,ZP,hi3⟩:=lB (κ:=κ) hz
    split at h
    ·rename_i l hl
     cases DD:Nat.beq n 0&&Nat.blt 0 e.size with
     | true =>
     rw[DD,cond_true]at h
     simp only[Bool.and_eq_true]at DD
     obtain⟨DD,jn⟩:=DD
     have NJ:0<e.size:=Nat.le_of_ble_eq_true jn
     have RY:=Nat.eq_of_beq_eq_true DD
     have hL:L=[]:=List.eq_nil_of_length_eq_zero (hn'.symm.trans RY)
     subst hL
     subst RY
     simp only[zS,T.leads,Prod.mk.injEq]at h
     obtain⟨rfl,rfl⟩:=h
     have g:=fT.alloc κ.w (.cells #[] et)
     have hex:=sP (n:=0) (x:=.arr 0 e ([]:List (den e))) hI g
     have vO:(Instr.buildSlice t 0 (([]:List (Nat×Operand)).map fun p=>(p.1,G p.2)).toArray).run c.P κ.w=.ok (.slice (some ⟨κ.w.heap.size,0,none⟩) 0 0) (κ.w.alloc (.cells #[] et)):=by
      simp[Instr.buildSlice,Sem.run_bind,run_underlying hu,Result.andThen_ok,run_sizeOf hs,Instr.fill,newRow]
      have e0:∀ g:Nat→Value,(Array.range 0).map g = #[]:=fun g=>by simp
      rw[e0]
     refine⟨κ.add _ 0 (.arr 0 e []),_,.slice (some ⟨κ.w.heap.size,0,none⟩) 0 0,by simp only[Sem.run_bind,vO,Result.andThen_ok]; rfl,.inl rfl,rfl,UB hI g ?_,hex,?_⟩
     ·exact⟨NJ,.inr ⟨κ.w.heap.size,0,#[],et,rB hI,g.new,rfl,by simp,XH we,fun _=>[],fun i hi=>absurd hi (Nat.not_lt_zero i)⟩⟩
     ·intro d' yM
      cases yM
      refine .ms _ 0 e 0 0 0 _ (.inr ⟨0,e,_,ZM,Nat.le_refl _⟩) (by omega) nofun (fun p hp=>by cases hp; rfl) fun xs Vt => ?_
      rw[ZM]at Vt
      cases Vt
      exact⟨by simp,.inr ⟨κ.w.heap.size,0,0,0,rB hI,rfl,by omega,by simp,.inl rfl⟩⟩
     | false =>
     rw[DD,cond_false,w8]at h
     obtain⟨rfl,rfl⟩:=h
     subst hn'
     have hle:L.length*e.size≤100000:=Nat.le_trans (Nat.mul_le_mul mh TU) (by decide)
     have Oq:zv.cells.size=e.size:=by have:=hi3.len; simpa using this
     let cells:Array Value:=(Array.range (L.length*e.size)).map ((if L.length*e.size=0 then #[]else zv.cells)[· % (if L.length*e.size=0 then #[]else zv.cells).size]!)
     have UD:cells.size=L.length*e.size:=by simp[cells]
     obtain⟨fx,g1,g2,_,g4,f,g5⟩:=Gg hF L 0 cells l hl (by rw[UD]; simp)
     have g:=fT.alloc κ.w (.cells fx et)
     have hex:=Ul hI g
     refine⟨κ.zY _,_,.slice (some ⟨κ.w.heap.size,0,none⟩) L.length L.length,?_,.inl rfl,rfl,b7 hI g,hex,?_⟩
     ·have BD:Instr.fill (fun i=>some (i*e.size,e.size)) cells (L.map fun p=>(p.1,G p.2))=some fx:=g1
      simp only[cells]at BD
      simp only[Instr.buildSlice,Sem.run_bind,run_underlying hu,Result.andThen_ok,run_sizeOf hs,gt_iff_lt,if_neg (show ¬ 2 ^ 24<L.length*e.size by omega)]
      by_cases h0:L.length*e.size=0
      ·simp only[if_pos h0]at BD ⊢
       simp only[Sem.run_bind,Sem.run_pure,Result.andThen_ok,BD]
       simp[newRow,KS.zY]
      ·simp only[if_neg h0]at BD ⊢
       simp only[Sem.run_bind,Sem.run_pure,Result.andThen_ok,zeroValue,typeInfo,run_program,o9,ZP,BD]
       simp[newRow,KS.zY]
     ·intro d' yM
      cases yM
      have bW:∀ i,i<l.length→∀ j v,(f i)[j]? = some v→(κ.zY (κ.w.alloc (.cells fx et))).w.cell? ⟨κ.w.heap.size,0+i*e.size+j,none⟩=some v:=by
       intro i hi j v hj
       have:=(g5 i hi).2 j v hj
       simp only[Nat.zero_add]at this ⊢
       rw[tn (κ:=κ.zY (κ.w.alloc (.cells fx et))) g.new]
       exact this
      rw[← g4]
      refine .tight e l _ κ.w.heap.size 0 f ?_ (.inr rfl) (fun i hi=>(g5 i hi).1.mono hex.same) bW
      intro uj Xd
      subst Xd
      simp at g4
      simp[← g4]at uj
    ·exact absurd h zj
  ·exact absurd h zj
end
end Go.AM
namespace Go.AM
set_option linter.unusedSectionVars false
variable [uA]
section
variable {c:Ctx} {κ:KS}
theorem Mx{t:Nat}{x y:Option D}{v u:Value}{d:Option D}{zL:St}(hI:Inv κ)(hx:∀ z,x=some z→RD κ z v)(hy:∀ z,y=some z→RD κ z u)
  (h:(zS (Eo c t x y) κ.st).leads (d,zL)):qY c.P (do Pure.pure (.value (← Instr.makeSlice t v u))) κ d zL:=by
 unfold Eo at h
 split at h
 ·rename_i et k n k' m het hn hm
  have hu:=ur het
  have:=vZ hn hx
  subst this
  have:=vZ hm hy
  subst this
  split at h
  ·rename_i e bytes Iv DI
   split at h
   ·rename_i z hz
    cases hb:kT c et e&&Nat.blt 0 e.size with
    | false=>rw[hb]at h; exact absurd h zj
    | true =>
     rw[hb,cond_true]at h
     simp only[Bool.and_eq_true]at hb
     obtain⟨we,jn⟩:=hb
     have NJ:0<e.size:=Nat.le_of_ble_eq_true jn
     obtain⟨hs,_⟩:=vp we
     simp only[zS,T.leads,Prod.mk.injEq]at h
     obtain⟨⟨h0,h1,h2,h3⟩,rfl,rfl⟩:=h
     obtain⟨i,zv,o9,ZP,hi3⟩:=lB (κ:=κ) hz
     obtain⟨ib,zbz,zeU⟩:=rq DI
     obtain⟨i',EC,zjH⟩:=iu hs
     rw[o9]at zbz EC
     cases zbz
     cases EC
     have Oq:zv.cells.size=e.size:=by have:=hi3.len; simpa using this
     let N:=m.toNat*e.size
     let cells:Array Value:=(Array.range N).map (zv.cells[· % zv.cells.size]!)
     have UD:cells.size=N:=by simp[cells]
     have vO:(Instr.makeSlice t (.int k n) (.int k' m)).run c.P κ.w=.ok (.slice (some ⟨κ.w.heap.size,0,none⟩) n.toNat m.toNat) (κ.w.alloc (.cells cells et)):=by
      have w1:IntKind.i64.wrap n=n:=IntWalk.i64_in _ (by omega)
      have w2:IntKind.i64.wrap m=m:=IntWalk.i64_in _ (by omega)
      have hmb:¬ ((2:Int) ^ 48<bytes*m):=by
       have e1:(m*bytes:Int)=bytes*m:=Int.mul_comm _ _
       omega
      have ai:∀ k n w,(Go.asInt (.int k n)).run c.P w=.ok n w:=fun k n w=>by simp[Go.asInt,asIntOf]
      have hm0:¬ (m<0):=by omega
      have RY:¬ (n<0):=by omega
      have LL:¬ (m<n):=by omega
      simp only[Instr.makeSlice,Sem.run_bind,run_underlying hu,Result.andThen_ok,ai,typeInfo,run_program,o9,zeU,w1,w2,Sem.run_pure,gt_iff_lt,hm0,RY,LL,hmb,decide_false,Bool.or_self,Bool.false_eq_true,if_false,run_askRoom,run_sizeOf hs]
      by_cases DD:m.toNat*e.size=0
      ·have hce:cells = #[]:=Array.eq_empty_of_size_eq_zero (by rw[UD]; exact DD)
       have e2:∀ g:Nat→Value,(Array.range (m.toNat*e.size)).map g = #[]:=fun g=>by rw[DD]; simp
       simp only[if_pos DD,Sem.run_bind,Sem.run_pure,Result.andThen_ok,newRow,run_newObj,e2]
       rw[hce]
       rfl
      ·simp only[if_neg DD,Sem.run_bind,Sem.run_pure,Result.andThen_ok,newRow,run_newObj,zeroValue,typeInfo,run_program,o9,ZP]
       rfl
     have g:=fT.alloc κ.w (.cells cells et)
     have hex:=sP (n:=N) (x:=.arr n.toNat e (List.replicate n.toNat z)) hI g
     refine⟨κ.add _ N (.arr n.toNat e (List.replicate n.toNat z)),_,.slice (some ⟨κ.w.heap.size,0,none⟩) n.toNat m.toNat,by simp only[Sem.run_bind,vO,Result.andThen_ok]; rfl,.inl rfl,rfl,UB hI g ?_,hex,?_⟩
     ·refine⟨NJ,.inr ⟨κ.w.heap.size,N,cells,et,rB hI,g.new,UD,?_,XH we,fun _=>zv.cells.toList,fun i hi => ?_⟩⟩
      ·rw[List.length_replicate]; exact Nat.mul_le_mul_right _ (by omega)
      ·rw[List.length_replicate]at hi
       refine⟨by rw[List.getElem_replicate]; exact hi3.mono hex.same,fun j w hj => ?_⟩
       have Li:j<e.size:=by rw[← hi3.len]; exact(List.getElem?_eq_some_iff.1 hj).1
       have qp:i*e.size+j<N:=by
        have:i*e.size+e.size≤N:=by rw[← Nat.succ_mul]; exact Nat.mul_le_mul_right _ (by omega)
        omega
       have z25:(i*e.size+j) % e.size=j:=by rw[Nat.mul_comm,Nat.mul_add_mod,Nat.mod_eq_of_lt Li]
       simp only[cells,Array.getElem?_map,Array.getElem?_range,if_pos qp,Option.map_some,Oq,z25]
       have hj':zv.cells[j]? = some w:=by simpa using hj
       simp[getElem!_def,hj']
     ·intro d' yM
      cases yM
      refine .ms _ n.toNat e 0 n.toNat m.toNat _ (.inr ⟨n.toNat,e,_,ZM,Nat.le_refl _⟩) (by omega) nofun (fun p hp=>by cases hp; rfl) fun xs Vt => ?_
      rw[ZM]at Vt
      cases Vt
      refine⟨by simp,.inr ⟨κ.w.heap.size,N,0,m.toNat,rB hI,rfl,by omega,by simp[N],.inr (by simp)⟩⟩
   ·exact absurd h zj
  ·exact absurd h zj
 ·exact absurd h zj
end
end Go.AM
namespace Go.AM
set_option linter.unusedSectionVars false
variable [uA]
section
variable {c:Ctx} {κ:KS}
def ye(f:Nat→List Value):Nat→List Value
 | 0=>[]
 | n+1=>ye f n++f n
theorem uU{f:Nat→List Value}{s:Nat}:∀ {n:Nat},(∀ i,i<n→(f i).length=s)→(ye f n).length=n*s
 | 0,_=>by simp[ye]
 | n+1,h=>by rw[ye,List.length_append,uU (fun i hi=>h i (by omega)),h n (by omega),Nat.add_mul]; omega
theorem tp{f:Nat→List Value}{s:Nat}:∀ {n:Nat},(∀ i,i<n→(f i).length=s)→∀ i j,i<n→j<s→(ye f n)[i*s+j]? = (f i)[j]?
 | 0,_,i,_,hi,_=>absurd hi (Nat.not_lt_zero i)
 | n+1,h,i,j,hi,hj=>by
  have hl:=uU (f:=f) (n:=n) (fun i hi=>h i (by omega))
  rw[ye]
  by_cases Qp:i<n
  ·have:i*s+s≤n*s:=by rw[← Nat.succ_mul]; exact Nat.mul_le_mul_right _ Qp
   rw[List.getElem?_append_left (by omega)]
   exact tp (fun i hi=>h i (by omega)) i j Qp hj
  ·have:i=n:=by omega
   subst this
   rw[List.getElem?_append_right (by omega)]
   congr 1; omega
theorem Gu{f:Nat→List Value}:∀ {n:Nat},(∀ i,i<n→∀ v∈f i,v.oneCell'=true)→∀ v∈ye f n,v.oneCell'=true
 | 0,_,v,hv=>by simp[ye]at hv
 | n+1,h,v,hv=>by
  rw[ye,List.mem_append]at hv
  rcases hv with hv | hv
  ·exact Gu (fun i hi=>h i (by omega)) v hv
  ·exact h n (by omega) v hv
theorem CH{f:Nat→List Value}{s:Nat}{n p:Nat}{v:Value}(hs:0<s)(h:∀ i,i<n→(f i).length=s)(hp:(ye f n)[p]? = some v):∃ i j,i<n∧j<s∧p=i*s+j∧(f i)[j]? = some v:=by
 have qp:=(List.getElem?_eq_some_iff.1 hp).1
 rw[uU h]at qp
 have hi:p / s<n:=(Nat.div_lt_iff_lt_mul hs).2 qp
 have hj:=Nat.mod_lt p hs
 have he:p / s*s+p % s=p:=Nat.div_add_mod' p s
 refine⟨p / s,p % s,hi,hj,he.symm,?_⟩
 rw[← tp h _ _ hi hj,he]; exact hp
def Oj(κ:KS):Nat→Prop:=fun k=>κ.ok k∨∃ b n:Nat,κ.ph[b]? = some (some (k,n))
structure Src(κ:KS)(e:Ty)(ys:List (den e))(v:Value):Prop where
 ex:∃ (a:Option Addr) (cap:Nat) (f:Nat→List Value),v=.slice a ys.length cap∧ys.length≤cap∧(a=none→ys=[]∧cap=0)∧(∀ i (hi:i<ys.length),Rc κ.w κ.ok e ys[i] (f i)) ∧
  ∀ p,a=some p→(ys=[]∧cap=0)∨(p.spot=none∧Oj κ p.block∧∀ i,i<ys.length→∀ j u,(f i)[j]? = some u→κ.w.cell? ⟨p.block,p.off+i*e.size+j,none⟩=some u)
theorem II{e:Ty}{ys:List (den e)}{v:Value}(h:RD κ (.zY (.sl e) ys) v):Src κ e ys v:=by
 rcases(h.wK rfl).om with⟨rfl,a0,he⟩ | ⟨blk,off,cap,f,he,we,wD,h1,h2⟩
 ·cases he; exact⟨⟨a0,0,fun _=>[],rfl,Nat.le_refl _,fun _=>⟨rfl,rfl⟩,fun i hi=>absurd hi (Nat.not_lt_zero i),fun _ _=>.inl ⟨rfl,rfl⟩⟩⟩
 ·cases he; exact⟨⟨some ⟨blk,off,none⟩,cap,f,rfl,wD,nofun,h1,fun p hp=>by cases hp; exact .inr ⟨rfl,.inl we,h2⟩⟩⟩
theorem tF{e:Ty}{ys:List (den e)}{ne:Bool}{v:Value}(h:RD κ (.tight e ys ne) v):Src κ e ys v:=by
 cases h with
 | xz _ a0=>exact⟨⟨a0,0,fun _=>[],rfl,Nat.le_refl _,fun _=>⟨rfl,rfl⟩,fun i hi=>absurd hi (Nat.not_lt_zero i),fun _ _=>.inl ⟨rfl,rfl⟩⟩⟩
 | tight _ _ _ blk off f uj we h1 h2=>exact⟨⟨some ⟨blk,off,none⟩,_,f,rfl,Nat.le_refl _,nofun,h1,fun p hp=>by cases hp; exact .inr ⟨rfl,.inl we,h2⟩⟩⟩
theorem UA{e:Ty}{v:Value}(h:RD κ .xo v):Src κ e [] v:=by
 cases h; exact⟨⟨none,0,fun _=>[],rfl,Nat.le_refl _,fun _=>⟨rfl,rfl⟩,fun i hi=>absurd hi (Nat.not_lt_zero i),nofun⟩⟩
theorem FH{b qR off len:Nat}{e:Ty}{xs:List (den e)}{v:Value}(hI:Inv κ)(h:RD κ (.ms b qR e off len) v)(hb:κ.st[b]? = some (.arr qR e xs)):Src κ e ((xs.take (off+len)).drop off) v∧off+len≤xs.length:=by
 cases h with
 | ms _ _ _ _ _ cap a hold wD ha sT hm =>
  obtain⟨hle,hm⟩:=hm xs hb
  have hl:((xs.take (off+len)).drop off).length=len:=by simp; omega
  have hg:∀ i (hi:i<((xs.take (off+len)).drop off).length),∃ h:off+i<xs.length,((xs.take (off+len)).drop off)[i]=xs[off+i]:=fun i hi=>⟨by omega,by simp[List.getElem_drop,List.getElem_take]⟩
  refine⟨?_,hle⟩
  rcases hm with⟨rfl,rfl,hv,hp⟩ | ⟨blk,n,o,VW,h3,h4,h5,h6,h7⟩
  ·cases hv
   have:(xs.take (0+0)).drop 0=[]:=by simp
   rw[this]
   exact⟨⟨none,0,fun _=>[],rfl,Nat.le_refl _,fun _=>⟨rfl,rfl⟩,fun i hi=>absurd hi (Nat.not_lt_zero i),nofun⟩⟩
  ·cases h4
   obtain⟨jn,⟨Xd,_⟩ | ⟨ma,n',cs,T,g1,g2,g3,g4,gr,f,g5⟩⟩:=hI.blk b _ hb
   ·subst Xd
    have e0:off=0:=by simp at hle; omega
    have e1:len=0:=by simp at hle; omega
    subst e0 e1
    refine⟨⟨some ⟨blk,o,none⟩,cap,fun _=>[],rfl,by simp,nofun,fun i hi=>absurd hi (by simp),fun p hp=>by cases hp; exact .inr ⟨rfl,.inr ⟨b,n,h3⟩,fun i hi=>absurd hi (by simp)⟩⟩⟩
   ·rw[h3]at g1
    cases g1
    refine⟨⟨some ⟨blk,o,none⟩,cap,fun i=>f (off+i),by rw[hl],by rw[hl]; exact wD,nofun,fun i hi => ?_,fun p hp => ?_⟩⟩
    ·obtain⟨k1,k2⟩:=hg i hi
     rw[k2]; exact(g5 _ k1).1
    ·cases hp
     refine .inr ⟨rfl,.inr ⟨b,n,h3⟩,fun i hi j u hj => ?_⟩
     obtain⟨k1,_⟩:=hg i hi
     have:=(g5 _ k1).2 j u hj
     rw[tn g2]
     rcases h7 with h7 | h7
     ·omega
     ·rw[h7,← Nat.add_mul]; exact this
theorem W8{e:Ty}{ys:List (den e)}{v:Value}(h:Src κ e ys v)(jn:0<e.size):∃ (news:List Value) (f:Nat→List Value),news=ye f ys.length∧(∀ i (hi:i<ys.length),Rc κ.w κ.ok e ys[i] (f i)) ∧
  (∀ P,(Builtin.lenOf v).run P κ.w=.ok ys.length κ.w)∧(∀ P,(Builtin.firstCells e.size ys.length v).run P κ.w=.ok news.toArray κ.w)∧(∀ P,(Builtin.firstCells e.size ys.length v).run P κ.w.drew=.ok news.toArray κ.w.drew):=by
 obtain⟨a,cap,f,rfl,_,hn,h1,h2⟩:=h.ex
 have hf:∀ i,i<ys.length→(f i).length=e.size:=fun i hi=>(h1 i hi).len
 refine⟨ye f ys.length,f,rfl,h1,fun P=>rfl,fun P => ?_,fun P => ?_⟩
 all_goals
  cases a with
  | none=>have:=(hn rfl).1; subst this; simp[Builtin.firstCells,ye]
  | some p =>
   rcases h2 p rfl with⟨rfl,_⟩ | ⟨hp,_,hc⟩
   ·simp[Builtin.firstCells,ye,loadCells,loadCellsFrom]
   obtain⟨blk,o,sp⟩:=p
   simp only at hp
   subst hp
   refine run_firstCells_some (P:=P) _ e.size ys.length ⟨blk,o,none⟩ ys.length cap (ye f ys.length) (uU hf) fun j u hj => ?_
   obtain⟨i,k,hi,hk,rfl,hu⟩:=CH jn hf hj
   rw[vw]
   try rw[World.cell?_drew]
   have:=hc i hi k u hu
   rwa [Nat.add_assoc]at this
structure Cel(κ:KS)(e:Ty)(ys:List (den e))(v:Value):Prop where
 ex:∃ (news:List Value) (f:Nat→List Value),news=ye f ys.length∧(∀ i (hi:i<ys.length),Rc κ.w κ.ok e ys[i] (f i)) ∧
  (∀ P,(Builtin.lenOf v).run P κ.w=.ok ys.length κ.w)∧(∀ P,(Builtin.firstCells e.size ys.length v).run P κ.w=.ok news.toArray κ.w)∧(∀ P,(Builtin.firstCells e.size ys.length v).run P κ.w.drew=.ok news.toArray κ.w.drew)
theorem z2Q{e:Ty}{ys:List (den e)}{v:Value}(h:Src κ e ys v)(jn:0<e.size):Cel κ e ys v:=⟨W8 h jn⟩
def PO(c:Ctx)(t2:TypeId):Prop:=(∃ e,c.P.underlying t2=some (.slice e))∨c.P.underlying t2=some .string
section run
variable {t t2 e:TypeId} {i:TypeInfo} {z:Value} {sLen sCap n:Nat} {base:Option Addr} {x:Value} {news olds:List Value} {ty:TypeId}
theorem run_append_fits(ht:c.P.underlying t=some (.slice e))(Mz:PO c t2)(hi:c.P.info? e=some i)(hlen:∀ P,(Builtin.lenOf x).run P κ.w=.ok n κ.w)(hf:∀ P,(Builtin.firstCells i.size n x).run P κ.w=.ok news.toArray κ.w)
  (pE:sLen+n≤sCap) {w':World} (xM:(match base with | some a=>storeCells (a.add (sLen*i.size)) news | none=>pure ()).run c.P κ.w=.ok () w') :
  (Builtin.append_ #[t,t2] ty #[.slice base sLen sCap,x]).run c.P κ.w=.ok (.slice base (sLen+n) sCap) w':=by
 rcases Mz with⟨e2,Mz⟩ | Mz
 all_goals cases base with
 | none=>simp at xM; subst xM; simp[Builtin.append_,run_underlying ht,run_underlying Mz,sizeOf,typeInfo,hi,hlen,pE,hf]
 | some a=>simp only at xM; simp[Builtin.append_,run_underlying ht,run_underlying Mz,sizeOf,typeInfo,hi,hlen,pE,hf,xM]
theorem sG(ht:c.P.underlying t=some (.slice e))(Mz:PO c t2)(hi:c.P.info? e=some i)(hz:i.zero=some z)(hlen:∀ P,(Builtin.lenOf x).run P κ.w=.ok n κ.w)(hf:∀ P,(Builtin.firstCells i.size n x).run P κ.w.drew=.ok news.toArray κ.w.drew)
  (ho:∀ P,(Builtin.firstCells i.size sLen (.slice base sLen sCap)).run P κ.w.drew=.ok olds.toArray κ.w.drew)
  (hg:sCap<sLen+n) (h63:((sLen+n:Nat):Int)≤9223372036854775807) (hb:(sLen+n)*i.bytes≤140737488355328) :
  (Builtin.append_ #[t,t2] ty #[.slice base sLen sCap,x]).run c.P κ.w=.ok (.slice (some ⟨κ.w.heap.size,0,none⟩) (sLen+n) (grownCap κ.w (sLen+n) sCap e))
   (κ.w.drew.alloc (.cells (olds.toArray++news.toArray++Builtin.zeroCells z.cells (grownCap κ.w (sLen+n) sCap e-(sLen+n))) e)):=by
 have h1:¬ (sLen+n≤sCap):=by omega
 have h2:¬ (9223372036854775807<((sLen+n:Nat):Int)):=by omega
 have h3:=growslice_fits (bytes:=i.bytes) hg hb
 have h4:¬ (281474976710656<Builtin.nextslicecap (sLen+n) sCap*i.bytes):=by omega
 have h5:IntKind.i64.max=9223372036854775807:=by decide
 rcases Mz with⟨e2,Mz⟩ | Mz
 all_goals
  simp[Builtin.append_,run_underlying ht,run_underlying Mz,sizeOf,typeInfo,zeroValue,hi,hz,hlen,h1,h5,h2,h4,hf,ho,Question.forced,newRow,grownCap]
  rw[if_neg (by omega),← Array.append_assoc]
  simp
end run
theorem rm(z:Array Value)(n:Nat):(Builtin.zeroCells z n).size=n*z.size:=by simp[Builtin.zeroCells]
theorem Jf{e:Ty}{l ys:List (den e)}{f g:Nat→List Value}(hl:∀ i (hi:i<l.length),Rc κ.w κ.ok e l[i] (f i))(hy:∀ i (hi:i<ys.length),Rc κ.w κ.ok e ys[i] (g i))(zs:List Value) :
  ∀ i (hi:i<(l++ys).length),Rc κ.w κ.ok e (l++ys)[i] (if i<l.length then f i else g (i-l.length)) ∧
   ∀ j v,(if i<l.length then f i else g (i-l.length))[j]? = some v→(ye f l.length++ye g ys.length++zs)[i*e.size+j]? = some v:=by
 have XX:∀ i,i<l.length→(f i).length=e.size:=fun i hi=>(hl i hi).len
 have Sa:∀ i,i<ys.length→(g i).length=e.size:=fun i hi=>(hy i hi).len
 have h1:=uU XX
 have h2:=uU Sa
 intro i hi
 by_cases E1:i<l.length
 ·simp only[if_pos E1]
  refine⟨by rw[List.getElem_append_left E1]; exact hl i E1,fun j v hj => ?_⟩
  have Li:j<e.size:=by rw[← XX i E1]; exact(List.getElem?_eq_some_iff.1 hj).1
  have:i*e.size+e.size≤l.length*e.size:=by rw[← Nat.succ_mul]; exact Nat.mul_le_mul_right _ E1
  rw[List.append_assoc,List.getElem?_append_left (by omega),tp XX i j E1 Li]
  exact hj
 ·simp only[if_neg E1]
  simp only[List.length_append]at hi
  have z1p:i-l.length<ys.length:=by omega
  refine⟨by rw[List.getElem_append_right (by omega)]; exact hy _ z1p,fun j v hj => ?_⟩
  have Li:j<e.size:=by rw[← Sa _ z1p]; exact(List.getElem?_eq_some_iff.1 hj).1
  have e1:i*e.size=l.length*e.size+(i-l.length)*e.size:=by rw[← Nat.add_mul]; congr 1; omega
  have:(i-l.length)*e.size+e.size≤ys.length*e.size:=by rw[← Nat.succ_mul]; exact Nat.mul_le_mul_right _ z1p
  rw[List.append_assoc,List.getElem?_append_right (by omega),h1,List.getElem?_append_left (by omega)]
  rw[show i*e.size+j-l.length*e.size=(i-l.length)*e.size+j by omega,tp Sa _ j z1p Li]
  exact hj
theorem Ej{t t2 et:Nat}{e:Ty}{l ys:List (den e)}{sv v:Value}{bytes:Nat}{ty:Nat}(hI:Inv κ)(hu:c.P.underlying t=some (.slice et))(TL:PO c t2)(we:kT c et e=true)(jn:0<e.size)(DI:oW c et=some bytes)(hz:∃ y,zeroOf c et e=some y)
  (hs:Src κ e l sv) (wD:∃ a,sv=.slice a l.length l.length) (hv:Cel κ e ys v) (uj:ys≠[]) (hb:(l.length+ys.length)*bytes≤140737488355328) (hn:l.length+ys.length≤9223372036854775807) :
  ∃ (κ':KS) (r:Value),(Builtin.append_ #[t,t2] ty #[sv,v]).run c.P κ.w=.ok r κ'.w∧κ'.st=κ.st++[.arr (l.length+ys.length) e (l++ys)]∧Inv κ'∧Ext κ κ'∧RD κ' (.ms κ.st.length (l.length+ys.length) e 0 (l.length+ys.length)) r:=by
 obtain⟨Oh,_⟩:=vp we
 obtain⟨i,o9,ZP⟩:=iu Oh
 obtain⟨y,hy⟩:=hz
 obtain⟨i',zv,g1,g2,g3⟩:=lB (κ:=κ) hy
 obtain⟨i'',k1,k2⟩:=rq DI
 rw[o9]at g1 k1
 cases g1
 cases k1
 obtain⟨olds,f,ho1,ho2,ho3,ho4,ho5⟩:=W8 hs jn
 obtain⟨news,g,DF,KT,hn3,hn4,hn5⟩:=hv.ex
 obtain⟨a,hsv⟩:=wD
 subst hsv
 have Wu:0<ys.length:=List.length_pos_iff.2 uj
 have vO:=sG (c:=c) (κ:=κ) (t:=t) (t2:=t2) (e:=et) (ty:=ty) (base:=a) (sLen:=l.length) (sCap:=l.length) (n:=ys.length) (x:=v) (news:=news) (olds:=olds) hu TL o9 g2 hn3
  (by intro P; rw[ZP]; exact hn5 P) (by intro P; rw[ZP]; exact ho5 P) (by omega) (by omega) (by rw[k2]; exact hb)
 let C:=grownCap κ.w (l.length+ys.length) l.length et
 have hC:l.length+ys.length≤C:=grownCap_ge _ _ _ _
 let zs:=Builtin.zeroCells zv.cells (C-(l.length+ys.length))
 let cells:=olds.toArray++news.toArray++zs
 have Oq:zs.size=(C-(l.length+ys.length))*e.size:=by have:=g3.len; simp only[Array.length_toList]at this; simp[zs,rm,this]
 have hol:olds.length=l.length*e.size:=by rw[ho1]; exact uU fun i hi=>(ho2 i hi).len
 have FY:news.length=ys.length*e.size:=by rw[DF]; exact uU fun i hi=>(KT i hi).len
 have UD:cells.size=C*e.size:=by
  simp only[cells,Array.size_append,List.size_toArray,hol,FY,Oq,← Nat.add_mul]
  congr 1; omega
 have gr:=fT.drew κ.w (.cells cells et)
 have hex:=sP (n:=cells.size) (x:=.arr (l.length+ys.length) e (l++ys)) hI gr
 refine⟨κ.add _ cells.size (.arr (l.length+ys.length) e (l++ys)),_,vO,rfl,UB hI gr ?_,hex,?_⟩
 ·refine⟨jn,.inr ⟨κ.w.heap.size,cells.size,cells,et,rB hI,gr.new,rfl,?_,XH we,fun i=>if i<l.length then f i else g (i-l.length),fun i hi => ?_⟩⟩
  ·rw[UD,List.length_append]; exact Nat.mul_le_mul_right _ hC
  ·obtain⟨q1,q2⟩:=Jf ho2 KT zs.toList i hi
   refine⟨q1.mono hex.same,fun j v hj => ?_⟩
   have:=q2 j v hj
   rw[← ho1,← DF]at this
   rw[← Array.getElem?_toList]
   simpa[cells]using this
 ·refine .ms _ (l.length+ys.length) e 0 _ C _ (.inr ⟨l.length+ys.length,e,_,ZM,Nat.le_refl _⟩) hC nofun (fun p hp=>by cases hp; rfl) fun xs Vt => ?_
  rw[ZM]at Vt
  cases Vt
  exact⟨by simp,.inr ⟨κ.w.heap.size,cells.size,0,C,rB hI,rfl,hC,by rw[UD]; simp,.inr (by simp)⟩⟩
def KS.re(κ:KS)(w':World)(b n:Nat)(x:yf):KS:={ κ with w:=w',ph:=κ.ph.set b (some (κ.w.heap.size,n)),st:=κ.st.set b x }
theorem F9{w':World}{o:Obj}{b n v0 v1:Nat}{e:Ty}{xs ys:List (den e)}(hI:Inv κ)(g:fT κ.w w' o)(hb:κ.st[b]? = some (.arr v0 e xs))(hv:v0<v1):Ext κ (κ.re w' b n (.arr v1 e ys)):=by
 have qp:b<κ.st.length:=(List.getElem?_eq_some_iff.1 hb).1
 have U0:b<κ.ph.length:=by rw[hI.len]; exact qp
 refine⟨g.os,g.tape,g.output,by show κ.w.heap.size≤w'.heap.size; rw[g.size]; omega,fun k hk=>⟨hk,g.old (hI.y6 k hk)⟩,fun k hk=>.inl hk,?_,?_,?_,?_,by simp[KS.re],fun k hk _=>g.old hk⟩
 ·intro b' blk m h
  simp only[KS.re,List.getElem?_set]at h
  split at h
  ·cases h
   exact .inr (Nat.le_refl _)
  ·exact .inl h
 ·intro b' d hd
  have uj:b≠b':=fun e=>by subst e; rw[hb]at hd; cases hd
  simp only[KS.re,List.getElem?_set,if_neg uj]
  exact⟨⟨d,hd⟩,trivial⟩
 ·intro b' u0 e' zs hd
  refine .inr ?_
  simp only[KS.re,List.getElem?_set]
  split
  ·rename_i e1
   subst e1
   rw[hb]at hd
   cases hd
   exact⟨v1,ys,rfl,by omega,fun h=>absurd h (by omega)⟩
  ·exact⟨u0,zs,hd,Nat.le_refl _,fun _=>⟨rfl,rfl⟩⟩
 ·intro b' hd
  have uj:b≠b':=fun e=>by subst e; rw[hb]at hd; cases hd
  simp only[KS.re,List.getElem?_set,if_neg uj]
  exact hd
theorem z5y{w':World}{o:Obj}{b n v0 v1:Nat}{e:Ty}{xs ys:List (den e)}(hI:Inv κ)(g:fT κ.w w' o)(hb:κ.st[b]? = some (.arr v0 e xs))(hv:v0<v1)
  (hx:iI (κ.re w' b n (.arr v1 e ys)) b (.arr v1 e ys)):Inv (κ.re w' b n (.arr v1 e ys)):=by
 have qp:b<κ.st.length:=(List.getElem?_eq_some_iff.1 hb).1
 have U0:b<κ.ph.length:=by rw[hI.len]; exact qp
 have hold:∀ (b' blk m:Nat),(κ.ph.set b (some (κ.w.heap.size,n)))[b']? = some (some (blk,m))→(b≠b'∧κ.ph[b']? = some (some (blk,m)))∨(b=b'∧blk=κ.w.heap.size):=by
  intro b' blk m h
  simp only[List.getElem?_set]at h
  split at h
  ·rename_i e1
   cases h
   exact .inr ⟨e1,rfl⟩
  ·rename_i e1
   exact .inl ⟨e1,h⟩
 refine⟨by simp[KS.re,hI.len],?_,?_,?_,?_,hI.gl.mono (F9 (n:=n) (ys:=ys) hI g hb hv).same⟩
 ·intro k hk; have:=hI.y6 k hk; show k<w'.heap.size; rw[g.size]; omega
 ·intro b' blk m h
  rcases hold b' blk m h with⟨_,h⟩ | ⟨rfl,rfl⟩
  ·obtain⟨h1,h2⟩:=hI.apart b' blk m h
   exact⟨by show blk<w'.heap.size; rw[g.size]; omega,h2⟩
  ·exact⟨by show κ.w.heap.size<w'.heap.size; rw[g.size]; omega,fun hk=>absurd (hI.y6 _ hk) (Nat.lt_irrefl _)⟩
 ·intro b1 b2 blk m m' h h'
  rcases hold b1 blk m h with⟨_,h⟩ | ⟨rfl,rfl⟩<;>rcases hold b2 _ m' h' with⟨_,h'⟩ | ⟨rfl,h''⟩
  ·exact hI.inj b1 b2 blk m m' h h'
  ·have:=(hI.apart b1 blk m h).1; omega
  ·have:=(hI.apart b2 _ m' h').1; omega
  ·rfl
 ·intro b' y hy
  simp only[KS.re,List.getElem?_set]at hy
  split at hy
  ·rename_i e1
   subst e1
   cases hy
   exact hx
  ·rename_i e1
   refine(hI.blk b' y hy).mono (F9 hI g hb hv) ?_ fun blk m h=>g.old (hI.apart b' blk m h).1
   simp only[KS.re,List.getElem?_set,if_neg e1]
theorem Kp{α:Type}{l:List α}{i:Nat}{a:α}(h:l[i]? = some a):l.set i a=l:=by
 apply List.ext_getElem?
 intro j
 rw[List.getElem?_set]
 split
 ·rename_i e
  subst e
  rw[if_pos (List.getElem?_eq_some_iff.1 h).1,h]
 ·rfl
theorem N7{t t2 et b qR len:Nat}{e:Ty}{xs ys:List (den e)}{sv v:Value}{bytes:Nat}{ty:Nat}(hI:Inv κ)(hu:c.P.underlying t=some (.slice et))(TL:PO c t2)(we:kT c et e=true)(jn:0<e.size)(DI:oW c et=some bytes)
  (hz:∃ y,zeroOf c et e=some y) (hs:RD κ (.ms b qR e 0 len) sv) (hb:κ.st[b]? = some (.arr qR e xs)) (hlen:len=xs.length) (hv:Cel κ e ys v) (hbb:(xs.length+ys.length)*bytes≤140737488355328)
  (hn:xs.length+ys.length≤9223372036854775807) :
  ∃ (κ':KS) (r:Value),(Builtin.append_ #[t,t2] ty #[sv,v]).run c.P κ.w=.ok r κ'.w∧κ'.st=κ.st.set b (.arr (qR+ys.length) e (xs++ys))∧Inv κ'∧Ext κ κ'∧RD κ' (.ms b (qR+ys.length) e 0 (len+ys.length)) r:=by
 subst hlen
 have qp:b<κ.st.length:=(List.getElem?_eq_some_iff.1 hb).1
 have U0:b<κ.ph.length:=by rw[hI.len]; exact qp
 obtain⟨Oh,_⟩:=vp we
 obtain⟨i,o9,ZP⟩:=iu Oh
 obtain⟨y,hy⟩:=hz
 obtain⟨i',zv,g1,g2,g3⟩:=lB (κ:=κ) hy
 obtain⟨i'',k1,k2⟩:=rq DI
 rw[o9]at g1 k1
 cases g1
 cases k1
 have Y4:=(FH hI hs hb).1
 simp only[Nat.zero_add,List.take_length,List.drop_zero]at Y4
 obtain⟨olds,f,ho1,ho2,ho3,ho4,ho5⟩:=W8 Y4 jn
 obtain⟨news,g,DF,KT,hn3,hn4,hn5⟩:=hv.ex
 have hol:olds.length=xs.length*e.size:=by rw[ho1]; exact uU fun i hi=>(ho2 i hi).len
 have FY:news.length=ys.length*e.size:=by rw[DF]; exact uU fun i hi=>(KT i hi).len
 have YG:∀ u∈news,u.oneCell'=true:=by rw[DF]; exact Gu fun i hi=>(KT i hi).one
 cases hs with
 | ms _ _ _ _ _ cap a hold wD ha sT hm =>
  obtain⟨hle,hm⟩:=hm xs hb
  by_cases pE:xs.length+ys.length≤cap
  ·-- there is room
   rcases hm with⟨h1,_,LS,hp⟩ | ⟨blk,n,o,VW,h3,h4,h5,h6,h7⟩
   ·simp only[Value.slice.injEq]at LS
    obtain⟨rfl,IP,rfl⟩:=LS
    have Uj:xs=[]:=List.eq_nil_of_length_eq_zero h1
    have T1:ys=[]:=List.eq_nil_of_length_eq_zero (by omega)
    subst Uj T1
    refine⟨κ,.slice none 0 0,?_,?_,hI,Ext.refl κ,.ms b qR e 0 0 0 none hold (Nat.le_refl _) (fun _=>rfl) nofun fun zs Oq => ?_⟩
    ·have RY:news=[]:=List.eq_nil_of_length_eq_zero (by simpa using FY)
     subst RY
     exact run_append_fits (c:=c) (κ:=κ) (t:=t) (t2:=t2) (e:=et) (ty:=ty) (base:=none) (sLen:=0) (sCap:=0) (n:=0) (x:=v) (news:=[]) hu TL o9 hn3 (by intro P; rw[ZP]; exact hn4 P) (by omega) rfl
    ·simp only[List.length_nil,Nat.add_zero,List.append_nil]
     rw[Kp hb]
    ·rw[hb]at Oq
     cases Oq
     exact⟨Nat.le_refl _,.inl ⟨rfl,rfl,rfl,hp⟩⟩
   ·cases h4
    obtain⟨_,⟨Xd,Ot⟩ | ⟨ma,n',cs,T,p1,p2,p3,p4,pr,F,p5⟩⟩:=hI.blk b _ hb
    ·rw[h3]at Ot; cases Ot
    ·rw[h3]at p1
     cases p1
     have ho:xs.length+ys.length=0∨o=0:=by
      rcases h7 with h7 | h7
      ·exact .inl (by omega)
      ·exact .inr (by simpa using h7)
     have zav:cap*e.size≤cs.size:=by rw[p3]; simpa using h6
     have Kq:xs.length*e.size+ys.length*e.size≤cs.size:=by
      rw[← Nat.add_mul]; exact Nat.le_trans (Nat.mul_le_mul_right _ pE) zav
     let iQ:=(cs.toList.take (xs.length*e.size)++news++cs.toList.drop (xs.length*e.size+news.length)).toArray
     have Uf:cs.toList.length=cs.size:=by simp
     have Yg:iQ.size=cs.size:=by simp only[iQ,List.size_toArray,List.length_append,List.length_take,List.length_drop,FY,Uf]; omega
     have Dn:∀ m,(⟨blk,o,none⟩:Addr).add (xs.length*e.size)=⟨blk,xs.length*e.size,none⟩∨m=0∨xs.length+ys.length=0:=by
      intro m
      rcases ho with h | h
      ·exact .inr (.inr h)
      ·subst h; rw[vw,Nat.zero_add]; exact .inl rfl
     have xM:(storeCells ((⟨blk,o,none⟩:Addr).add (xs.length*i.size)) news).run c.P κ.w=.ok () (κ.w.setRow blk iQ):=by
      rw[ZP]
      rcases Dn 1 with h | h | h
      ·rw[h]
       have:=run_storeCells_at c.P blk (xs.length*e.size) T news 0 cs κ.w p2 (by rw[FY]; omega) YG
       simpa only[Nat.add_zero]using this
      ·cases h
      ·have RY:news=[]:=List.eq_nil_of_length_eq_zero (by rw[FY,show ys.length=0 by omega]; simp)
       have Uj:xs.length=0:=by omega
       have hce:iQ=cs:=by simp[iQ,RY,Uj]
       rw[RY,hce,setRow_self _ _ _ _ _ p2]
       rfl
     have pN:Alike (.arr qR e xs) (.arr (qR+ys.length) e (xs++ys)):=⟨rfl,by omega,fun h=>by rw[List.length_append]; omega⟩
     have hex:=nQ (cs:=iQ) (x:=.arr (qR+ys.length) e (xs++ys)) hI h3 hb pN
     refine⟨κ.B8 b blk iQ (.arr (qR+ys.length) e (xs++ys)),.slice (some ⟨blk,o,none⟩) (xs.length+ys.length) cap,?_,rfl,Qz hI h3 hb pN ?_,hex,?_⟩
     ·exact run_append_fits (c:=c) (κ:=κ) (t:=t) (t2:=t2) (e:=et) (ty:=ty) (base:=some ⟨blk,o,none⟩) (sLen:=xs.length) (sCap:=cap) (n:=ys.length) (x:=v) (news:=news) hu TL o9 hn3 (by intro P; rw[ZP]; exact hn4 P) pE xM
     ·refine⟨jn,.inr ⟨blk,n,iQ,T,h3,setRow_heap _ _ _ _ _ _ p2,by rw[Yg]; exact p3,?_,pr,fun i=>if i<xs.length then F i else g (i-xs.length),fun i hi => ?_⟩⟩
      ·rw[List.length_append]; exact Nat.le_trans (Nat.mul_le_mul_right _ pE) (by simpa using h6)
      ·have hF:∀ i (hi:i<xs.length),Rc κ.w κ.ok e xs[i] (F i):=fun i hi=>(p5 i hi).1
       have z3s:∀ i,i<xs.length→(F i).length=e.size:=fun i hi=>(hF i hi).len
       have IA:cs.toList.take (xs.length*e.size)=ye F xs.length:=by
        apply List.ext_getElem?
        intro p
        rw[List.getElem?_take]
        have XX:=uU z3s
        split
        ·rename_i hp
         obtain⟨q,hq⟩:∃ q,(ye F xs.length)[p]? = some q:=⟨_,List.getElem?_eq_getElem (by rw[XX]; exact hp)⟩
         obtain⟨i',j',a1,a2,a3,a4⟩:=CH jn z3s hq
         rw[hq]
         have:=(p5 i' a1).2 j' q a4
         rw[a3,Array.getElem?_toList]; exact this
        ·rename_i hp
         rw[List.getElem?_eq_none (by rw[XX]; omega)]
       obtain⟨q1,q2⟩:=Jf hF KT (cs.toList.drop (xs.length*e.size+news.length)) i hi
       refine⟨q1.mono hex.same,fun j w hj => ?_⟩
       have:=q2 j w hj
       rw[← DF,← IA]at this
       simpa only[iQ,List.getElem?_toArray]using this
     ·refine .ms b _ e 0 _ cap _ (.inr ⟨qR+ys.length,e,xs++ys,by simp[KS.B8,qp],Nat.le_refl _⟩) pE nofun (fun p hp=>by cases hp; rfl) fun zs Oq => ?_
      have:zs=xs++ys:=by simp only[KS.B8,List.getElem?_set_self qp]at Oq; cases Oq; rfl
      subst this
      refine⟨by simp,.inr ⟨blk,n,o,cap,h3,rfl,pE,by simpa using h6,?_⟩⟩
      rcases h7 with h7 | h7
      ·exact .inl h7
      ·exact .inr (by simpa using h7)
  ·-- it grows
   have Wu:0<ys.length:=by omega
   have vO:=sG (c:=c) (κ:=κ) (t:=t) (t2:=t2) (e:=et) (ty:=ty) (base:=a) (sLen:=xs.length) (sCap:=cap) (n:=ys.length) (x:=v) (news:=news) (olds:=olds) hu TL o9 g2 hn3
    (by intro P; rw[ZP]; exact hn5 P) (by intro P; rw[ZP]; exact ho5 P) (by omega) (by omega) (by rw[k2]; exact hbb)
   let C:=grownCap κ.w (xs.length+ys.length) cap et
   have hC:xs.length+ys.length≤C:=grownCap_ge _ _ _ _
   let zs:=Builtin.zeroCells zv.cells (C-(xs.length+ys.length))
   let cells:=olds.toArray++news.toArray++zs
   have Oq:zs.size=(C-(xs.length+ys.length))*e.size:=by have:=g3.len; simp only[Array.length_toList]at this; simp[zs,rm,this]
   have UD:cells.size=C*e.size:=by
    simp only[cells,Array.size_append,List.size_toArray,hol,FY,Oq,← Nat.add_mul]
    congr 1; omega
   have gr:=fT.drew κ.w (.cells cells et)
   have Pd:qR<qR+ys.length:=by omega
   have hex:=F9 (n:=cells.size) (ys:=xs++ys) hI gr hb Pd
   refine⟨κ.re _ b cells.size (.arr (qR+ys.length) e (xs++ys)),_,vO,rfl,z5y hI gr hb Pd ?_,hex,?_⟩
   ·refine⟨jn,.inr ⟨κ.w.heap.size,cells.size,cells,et,by simp[KS.re,U0],gr.new,rfl,?_,XH we,fun i=>if i<xs.length then f i else g (i-xs.length),fun i hi => ?_⟩⟩
    ·rw[UD,List.length_append]; exact Nat.mul_le_mul_right _ hC
    ·obtain⟨q1,q2⟩:=Jf ho2 KT zs.toList i hi
     refine⟨q1.mono hex.same,fun j v hj => ?_⟩
     have:=q2 j v hj
     rw[← ho1,← DF]at this
     rw[← Array.getElem?_toList]
     simpa[cells]using this
   ·refine .ms b _ e 0 _ C _ (.inr ⟨qR+ys.length,e,xs++ys,by simp[KS.re,qp],Nat.le_refl _⟩) hC nofun (fun p hp=>by cases hp; rfl) fun us hus => ?_
    have:us=xs++ys:=by simp only[KS.re,List.getElem?_set_self qp]at hus; cases hus; rfl
    subst this
    exact⟨by simp,.inr ⟨κ.w.heap.size,cells.size,0,C,by simp[KS.re,U0],rfl,hC,by rw[UD]; simp,.inr (by simp)⟩⟩
end
end Go.AM
namespace Go.AM
set_option linter.unusedSectionVars false
variable [uA]
section
variable {c:Ctx} {κ:KS}
theorem Qb{x y:D}{v:Value}(hI:Inv κ)(hx:RD κ x v)(h:(pc κ.st x).leads y):(y=x∧∀ b qR e off len,x≠.ms b qR e off len)∨∃ (e:Ty) (ys:List (den e)),y=.zY (.sl e) ys∧Src κ e ys v∧∃ b qR off len,x=.ms b qR e off len:=by
 cases x with
 | ms b qR e off len =>
  simp only[pc]at h
  split at h
  ·rename_i kv e' xs hb
   split at h
   ·rename_i he
    subst he
    obtain⟨rfl,h⟩:=h
    refine .inr ⟨e',_,h.symm,(FH hI hx hb).1,b,qR,off,len,rfl⟩
   ·exact h.elim
  ·exact h.elim
 | _=>exact .inl ⟨h.symm,fun _ _ _ _ _=>nofun⟩
theorem Zl{t t2 et:Nat}{e:Ty}{s:D}{ys:List (den e)}{ne:Bool}{sv v:Value}{bytes ty:Nat}{d:Option D}{zL:St}(hI:Inv κ)(hu:c.P.underlying t=some (.slice et))(TL:PO c t2)(we:kT c et e=true)(jn:0<e.size)
  (DI:oW c et=some bytes) (HN:0<bytes) (hz:∃ y,zeroOf c et e=some y) (hs:RD κ s sv) (hv:Cel κ e ys v) (uj:ne=true→ys≠[])
  (h:(jX e s ys ne bytes κ.st).leads (d,zL)) :
  ∃ (κ':KS) (r:Value),(Builtin.append_ #[t,t2] ty #[sv,v]).run c.P κ.w=.ok r κ'.w∧κ'.st=zL∧Inv κ'∧Ext κ κ'∧∀ d',d=some d'→RD κ' d' r:=by
 have hlen:∀ n,n*bytes≤140737488355328→n≤9223372036854775807:=fun n hn=>Nat.le_trans (Nat.le_mul_of_pos_right n HN) (Nat.le_trans hn (by decide))
 -- nothing is appended
 have same:∀ (a:Option Addr) (n cap:Nat),sv=.slice a n cap→n≤cap→ys=[]→d=some s→zL=κ.st →
   ∃ (κ':KS) (r:Value),(Builtin.append_ #[t,t2] ty #[sv,v]).run c.P κ.w=.ok r κ'.w∧κ'.st=zL∧Inv κ'∧Ext κ κ'∧∀ d',d=some d'→RD κ' d' r:=by
  rintro a n cap rfl wD rfl rfl rfl
  obtain⟨Oh,_⟩:=vp we
  obtain⟨i,o9,ZP⟩:=iu Oh
  obtain⟨news,g,DF,KT,hn3,hn4,hn5⟩:=hv.ex
  have RY:news=[]:=DF
  subst RY
  refine⟨κ,.slice a n cap,?_,rfl,hI,Ext.refl κ,fun d' he=>by cases he; exact hs⟩
  have:=run_append_fits (c:=c) (κ:=κ) (t:=t) (t2:=t2) (e:=et) (ty:=ty) (base:=a) (sLen:=n) (sCap:=cap) (n:=0) (x:=v) (news:=[]) (i:=i) hu TL o9 hn3 (by intro P; rw[ZP]; exact hn4 P) (by omega) (w':=κ.w) (by cases a<;>rfl)
  simpa using this
 have new:∀ l:List (den e),Src κ e l sv→(∃ a,sv=.slice a l.length l.length)→ys≠[]→(mU e l ys bytes κ.st).leads (d,zL) →
   ∃ (κ':KS) (r:Value),(Builtin.append_ #[t,t2] ty #[sv,v]).run c.P κ.w=.ok r κ'.w∧κ'.st=zL∧Inv κ'∧Ext κ κ'∧∀ d',d=some d'→RD κ' d' r:=by
  intro l hl wD uj h
  obtain⟨hb,h⟩:=h
  cases h
  obtain⟨κ',r,h1,h2,h3,h4,h5⟩:=Ej (ty:=ty) hI hu TL we jn DI hz hl wD hv uj hb (hlen _ hb)
  exact⟨κ',r,h1,h2,h3,h4,fun d' he=>by cases he; exact h5⟩
 unfold jX at h
 split at h
 ·have hsv:sv=.slice none 0 0:=by cases hs; rfl
  cases hn:ne with
  | true=>rw[hn,cond_true]at h; exact new [] (UA hs) ⟨none,hsv⟩ (uj hn) h
  | false =>
   rw[hn,cond_false]at h
   rcases h with⟨hy,h⟩ | ⟨hy,h⟩
   ·cases h; exact same none 0 0 hsv (Nat.le_refl _) (List.isEmpty_iff.1 hy) rfl rfl
   ·exact new [] (UA hs) ⟨none,hsv⟩ (fun e=>by rw[e]at hy; cases hy) h
 ·rename_i e' l ne'
  split at h
  ·rename_i l' IS
   obtain⟨he,zc9⟩:=qB IS
   cases he
   simp only at zc9
   subst zc9
   have hsv:∃ a,sv=.slice a l'.length l'.length:=by
    cases hs with
    | xz=>exact⟨_,rfl⟩
    | tight=>exact⟨_,rfl⟩
   cases hn:ne with
   | true=>rw[hn,cond_true]at h; exact new l' (tF hs) hsv (uj hn) h
   | false =>
    rw[hn,cond_false]at h
    rcases h with⟨hy,h⟩ | ⟨hy,h⟩
    ·cases h
     obtain⟨a,ha⟩:=hsv
     exact same a _ _ ha (Nat.le_refl _) (List.isEmpty_iff.1 hy) rfl rfl
    ·exact new l' (tF hs) hsv (fun e=>by rw[e]at hy; cases hy) h
  ·exact h.elim
 ·rename_i b qR e' off len
  split at h
  ·rename_i kv e'' xs hb
   split at h
   ·rename_i xs' FR
    obtain⟨he,z9q⟩:=qB FR
    cases he
    simp only at z9q
    subst z9q
    cases hde:decide (e'=_)with
    | false=>rw[hde]at h; exact h.elim
    | true =>
     rw[hde,cond_true]at h
     have:=of_decide_eq_true hde
     subst this
     obtain⟨⟨rfl,rfl,hl,hbb⟩,h⟩:=h
     cases h
     obtain⟨κ',r,h1,h2,h3,h4,h5⟩:=N7 (ty:=ty) hI hu TL we jn DI hz hs hb hl hv hbb (hlen _ hbb)
     exact⟨κ',r,h1,h2,h3,h4,fun d' he=>by cases he; exact h5⟩
   ·exact h.elim
  ·exact h.elim
 ·exact h.elim
theorem BY{t ty:Nat}{s x:Option D}{sv v:Value}{d:Option D}{zL:St}(hI:Inv κ)(hs:∀ z,s=some z→RD κ z sv)(hx:∀ z,x=some z→RD κ z v)
  (h:(zS (QB c t s x) κ.st).leads (d,zL)):qY c.P (do Pure.pure (.value (← Builtin.append_ #[t,t] ty #[sv,v]))) κ d zL:=by
 unfold QB at h
 split at h
 ·exact absurd h zj
 ·rename_i et het
  have hu:=ur het
  split at h
  ·rename_i e bytes Iv DI
   cases hb:kT c et e&&Nat.blt 0 e.size&&Nat.blt 0 bytes&&(zeroOf c et e).isSome with
   | false=>rw[hb]at h; exact absurd h zj
   | true =>
    rw[hb,cond_true]at h
    simp only[Bool.and_eq_true]at hb
    obtain⟨⟨⟨we,h1⟩,h2⟩,h3⟩:=hb
    have jn:0<e.size:=Nat.le_of_ble_eq_true h1
    have HN:0<bytes:=Nat.le_of_ble_eq_true h2
    have hz:=Option.isSome_iff_exists.1 h3
    split at h
    ·rename_i s x
     simp only[zS,T.zT]at h
     obtain⟨y,hy,h⟩:=h
     have fin:∀ (ys:List (den e)) (ne:Bool),Src κ e ys v→(ne=true→ys≠[])→(jX e s ys ne bytes κ.st).leads (d,zL)→qY c.P (do Pure.pure (.value (← Builtin.append_ #[t,t] ty #[sv,v]))) κ d zL:=by
      intro ys ne hv uj h
      obtain⟨κ',r,g1,g2,g3,g4,g5⟩:=Zl (t2:=t) (ty:=ty) hI hu (.inl ⟨et,hu⟩) we jn DI HN hz (hs _ rfl) (z2Q hv jn) uj h
      exact⟨κ',.value r,r,by simp only[Sem.run_bind,g1,Result.andThen_ok]; rfl,.inl rfl,g2,g3,g4,g5⟩
     have FF:=hx _ rfl
     rcases Qb hI FF hy with⟨rfl,LL⟩ | ⟨e',ys,rfl,Y4,_⟩
     ·split at h
      ·rename_i σ z
       split at h
       ·rename_i ys hys
        obtain⟨he,hz'⟩:=qB hys
        cases he
        simp only at hz'
        subst hz'
        exact fin _ false (II FF) nofun h
       ·exact h.elim
      ·rename_i σ z ne
       split at h
       ·rename_i ys hys
        obtain⟨he,hz'⟩:=qB hys
        cases he
        simp only at hz'
        subst hz'
        refine fin _ ne (tF FF) (fun uj => ?_) h
        cases FF with
        | xz=>cases uj
        | tight _ _ _ _ _ _ q=>exact q uj
       ·exact h.elim
      ·exact fin [] false (UA FF) nofun h
      ·exact h.elim
     ·simp only at h
      split at h
      ·rename_i ys' hys
       obtain⟨he,hz'⟩:=qB hys
       cases he
       simp only at hz'
       subst hz'
       exact fin _ false Y4 nofun h
      ·exact h.elim
    ·exact absurd h zj
  ·exact absurd h zj
theorem z2Y{l:zf}{v:Value}(h:RD κ (.zY .str l) v):Cel κ (.int .u8) (bytesOf l) v:=by
 have hv:=h.iU
 subst hv
 have hl:(bytesOf l).length=l.length:=by simp[bytesOf]
 have jn:(⟨l.toArray⟩:ByteArray).size=l.length:=List.size_toArray
 refine⟨Lib.strCells ⟨l.toArray⟩,fun i=>[.int .u8 ((bytesOf l)[i]?.getD 0)],?_,fun i hi => ?_,fun P => ?_,fun P => ?_,fun P => ?_⟩
 ·have gen:∀ (n:Nat),n≤l.length→ye (fun i=>[Value.int .u8 ((bytesOf l)[i]?.getD 0)]) n=(l.take n).map fun b=>Value.int .u8 b.toNat:=by
   intro n
   induction n with
   | zero=>intro _; rfl
   | succ n ih =>
    intro hn
    have qp:n<l.length:=hn
    rw[ye,ih (by omega),List.take_succ_eq_append_getElem qp,List.map_append]
    simp[bytesOf,List.getElem?_eq_getElem qp]
  rw[hl,gen _ (Nat.le_refl _),List.take_length]
  rfl
 ·have:(bytesOf l)[i]?.getD 0=(bytesOf l)[i]:=by rw[List.getElem?_eq_getElem hi]; rfl
  show Rc κ.w κ.ok (.int .u8) (bytesOf l)[i] [Value.int .u8 ((bytesOf l)[i]?.getD 0)]
  rw[this]
  exact .int .u8 _
 ·show(pure (⟨l.toArray⟩:ByteArray).size:Sem Nat).run P κ.w=_
  rw[jn,hl]; rfl
 ·rw[hl,← jn]; exact Lib.run_firstCells_string _ _ _
 ·rw[hl,← jn]; exact Lib.run_firstCells_string _ _ _
theorem Jh{t t2 ty:Nat}{s x:Option D}{sv v:Value}{d:Option D}{zL:St}(hI:Inv κ)(hs:∀ z,s=some z→RD κ z sv)(hx:∀ z,x=some z→RD κ z v)
  (h:(zS (th c t t2 s x) κ.st).leads (d,zL)):qY c.P (do Pure.pure (.value (← Builtin.append_ #[t,t2] ty #[sv,v]))) κ d zL:=by
 unfold th at h
 split at h
 ·exact absurd h zj
 ·rename_i et het
  have hu:=ur het
  split at h
  ·rename_i bytes Iv DI TL
   cases hb:kT c et (.int .u8)&&Nat.blt 0 bytes&&(zeroOf c et (.int .u8)).isSome with
   | false=>rw[hb]at h; exact absurd h zj
   | true =>
    rw[hb,cond_true]at h
    simp only[Bool.and_eq_true]at hb
    obtain⟨⟨we,h2⟩,h3⟩:=hb
    have HN:0<bytes:=Nat.le_of_ble_eq_true h2
    have hz:=Option.isSome_iff_exists.1 h3
    split at h
    ·rename_i s l
     simp only[zS]at h
     obtain⟨κ',r,g1,g2,g3,g4,g5⟩:=Zl (t2:=t2) (ty:=ty) hI hu (.inr TL) we (by decide) DI HN hz (hs _ rfl) (ne:=false) (z2Y (hx _ rfl)) (fun e=>by cases e) h
     exact⟨κ',.value r,r,by simp only[Sem.run_bind,g1,Result.andThen_ok]; rfl,.inl rfl,g2,g3,g4,g5⟩
    ·exact absurd h zj
  ·exact absurd h zj
end
end Go.AM
namespace Go.AM
set_option linter.unusedSectionVars false
variable [uA]
section
variable {c:Ctx} {κ:KS}
theorem ZK{places:List (Nat×Nat)}{pf:Nat→Option (Nat×Nat)}(hpf:∀ (i:Nat) p,places[i]? = some p→pf i=some p){F:Operand→Option D}{G:Operand→Value}(hF:∀ x d,F x=some d→RD κ d (G x)):∀ (L:List (Nat×Operand)) (cells r:List D) (cs:Array Value),
  ir places (L.map fun p=>(p.1,F p.2)) cells=some r→xv κ cells cs.toList→(∀ d∈cells,d.one=true) →
  ∃ iQ,Instr.fill pf cs (L.map fun p=>(p.1,G p.2))=some iQ∧xv κ r iQ.toList∧∀ d∈r,d.one=true
 | [],cells,r,cs,h,hr,ho=>by
  simp only[List.map_nil,ir,Option.some.injEq]at h
  subst h
  exact⟨cs,rfl,hr,ho⟩
 | (i,x)::L,cells,r,cs,h,hr,ho=>by
  simp only[List.map_cons]at h
  cases hx:F x with
  | none=>rw[hx]at h; simp[ir]at h
  | some d =>
   rw[hx]at h
   simp only[ir]at h
   split at h
   ·rename_i off n hp
    cases hb : !d.uy&&Nat.beq n (qq d).length&&Nat.ble (off+n) cells.length with
    | false=>rw[hb]at h; cases h
    | true =>
     rw[hb,cond_true]at h
     simp only[Bool.and_eq_true,Bool.not_eq_true']at hb
     obtain⟨⟨h1,h2⟩,h3⟩:=hb
     have TU:n=(qq d).length:=Nat.eq_of_beq_eq_true h2
     have h3':=Nat.le_of_ble_eq_true h3
     have hd:=hF x d hx
     have hfd:=jq hd h1
     have hvl:(G x).cells.toList.length=n:=by rw[← hfd.1]; exact TU.symm
     have hle:off+n≤cs.size:=by have:=hr.1; simp only[Array.length_toList]at this; omega
     have hn:=lV hr hfd off n
     obtain⟨iQ,g1,g2,g3⟩:=ZK hpf hF L _ r (cs.toList.take off++(G x).cells.toList++cs.toList.drop (off+n)).toArray h (by simpa using hn) (by
      intro y hy
      simp only[List.mem_append]at hy
      rcases hy with(hy | hy) | hy
      ·exact ho y (List.mem_of_mem_take hy)
      ·exact jm hd y hy
      ·exact ho y (List.mem_of_mem_drop hy))
     refine⟨iQ,?_,g2,g3⟩
     simp only[List.map_cons]
     rw[D1 (hpf _ _ hp) hvl hle]
     exact g1
   ·cases h
theorem Ev{t:Nat}{L:List (Nat×Operand)}{F:Operand→Option D}{G:Operand→Value}{d:Option D}{zL:St}(hI:Inv κ)(hF:∀ x d,F x=some d→RD κ d (G x))
  (h:(zS (GZ c t (L.map fun p=>(p.1,F p.2))) κ.st).leads (d,zL)):qY c.P (do Pure.pure (.value (← Instr.build t (L.map fun p=>(p.1,G p.2)).toArray))) κ d zL:=by
 unfold GZ at h
 split at h
 ·rename_i fs hu
  split at h
  ·rename_i z places hz hp
   split at h
   ·rename_i l hl
    rw[w8]at h
    obtain⟨rfl,rfl⟩:=h
    obtain⟨i,zv,h1,h2,h3⟩:=fq hz
    have hzr:=h3.rd κ
    obtain⟨iQ,g1,g2,g3⟩:=ZK (pf:=(places.toArray[·]?)) (fun i p hp=>by simpa using hp) hF L z l zv.cells hl (jq hzr rfl) (jm hzr)
    have hb:c.P.built t (L.map fun p=>(p.1,G p.2))=some iQ:=by
     unfold Program.built
     simp only[h1,hu,h2,hp]
     exact g1
    refine qY.pure hI (run_build κ.w t _ iQ (by simpa using hb)) ?_
    have:=RD.agg l iQ.toList g2.1 g3 g2.2
    simpa using this
   ·exact absurd h zj
  ·exact absurd h zj
 ·rename_i k e hu
  split at h
  ·rename_i z ie hz hp
   split at h
   ·rename_i l hl
    rw[w8]at h
    obtain⟨rfl,rfl⟩:=h
    obtain⟨i,zv,h1,h2,h3⟩:=fq hz
    have hzr:=h3.rd κ
    obtain⟨iQ,g1,g2,g3⟩:=ZK (pf:=fun i=>some (i*ie.size,ie.size)) (fun i p hp=>by
     rw[List.getElem?_map]at hp
     cases hr:(List.range k)[i]? with
     | none=>rw[hr]at hp; cases hp
     | some j =>
      rw[hr]at hp
      obtain⟨qp,rfl⟩:=List.getElem?_eq_some_iff.1 hr
      simpa using hp) hF L z l zv.cells hl (jq hzr rfl) (jm hzr)
    have hb:c.P.built t (L.map fun p=>(p.1,G p.2))=some iQ:=by
     unfold Program.built
     simp only[h1,hu,h2,hp]
     exact g1
    refine qY.pure hI (run_build κ.w t _ iQ (by simpa using hb)) ?_
    have:=RD.agg l iQ.toList g2.1 g3 g2.2
    simpa using this
   ·exact absurd h zj
  ·exact absurd h zj
 ·exact absurd h zj
theorem Ye{a:Act}{o:Oper}{p:Operand}(ho:o.op=.nilCheck p){x:Option D}{d:Option D}{zL:St}(hI:Inv κ)(hx:∀ z,x=some z→RD κ z (a.eval p))
  (h:(zS (ZN x) κ.st).leads (d,zL)):qY c.P (execOp a.eval o) κ d zL:=by
 have key:∀ z v,RD κ z v→a.eval p=v→(∀ b:Option Addr,v=.pointer b→b≠none)→((∃ b,v=.pointer b)∨∃ g q l,v=.func (.func g) q l)→qY c.P (execOp a.eval o) κ (some z) κ.st:=by
  intro z v hz hv hn hc
  have:execOp a.eval o=Pure.pure (.value v):=by
   rcases hc with⟨b,rfl⟩ | ⟨g,q,l,rfl⟩
   ·cases b with
    | none=>exact absurd rfl (hn none rfl)
    | some b=>simp only[execOp,ho,hv]
   ·simp only[execOp,ho,hv]
  rw[this]
  exact qY.val hI fun _ he=>by cases he; exact hz
 unfold ZN at h
 split at h
 all_goals try exact absurd h zj
 all_goals
  rw[w8]at h; obtain⟨rfl,rfl⟩:=h
  have hr:=hx _ rfl
  generalize hv:a.eval p=v at hr
  refine key _ v hr hv ?_ ?_
  ·intro b hb; cases hr<;>first | (cases hb<;>nofun) | (rename_i f l vs _ _; obtain⟨g,q,l',e⟩:=Jg f vs; rw[e]at hb; cases hb)
  ·cases hr<;>first | exact .inl ⟨_,rfl⟩ | exact .inr (Jg _ _)
theorem F0{op:BinOp}{t:Nat}{px:Operand}{x:Option D}{v:Value}{d:Option D}{zL:St}(hI:Inv κ)(hx:∀ z,x=some z→RD κ z v)
  (h:(zS (HE c op t x) κ.st).leads (d,zL)):qY c.P (do Pure.pure (.value (← (do eqGuard op t px (.const .nilIface) v .nilIface; binOp op t v .nilIface)))) κ d zL:=by
 unfold HE at h
 split at h
 ·rename_i ms hu
  have hm:c.P.underlying t=some (.interface (c.P.methodsAt t)):=by unfold Program.methodsAt; rw[hu]
  have g1:∀ w,(eqGuard op t px (.const .nilIface) .nilIface .nilIface).run c.P w=.ok () w:=fun w=>by cases op<;>simp[eqGuard]
  have g2:∀ u y w,(eqGuard op t px (.const .nilIface) (.iface u y) .nilIface).run c.P w=.ok () w:=fun u y w=>by cases op<;>simp[eqGuard]
  split at h
  ·unfold bb at h
   rw[w8]at h
   obtain⟨rfl,rfl⟩:=h
   cases hx _ rfl
   exact qY.pure hI (by simp only[Sem.run_bind,g1,Result.andThen_ok,run_eql_nil_nil _ _ hm]) RD.bool
  ·unfold bb at h
   rw[w8]at h
   obtain⟨rfl,rfl⟩:=h
   cases hx _ rfl
   exact qY.pure hI (by simp only[Sem.run_bind,g2,Result.andThen_ok,run_eql_held_nil _ _ _ _ hm]) RD.bool
  ·unfold bb at h
   rw[w8]at h
   obtain⟨rfl,rfl⟩:=h
   cases hx _ rfl
   exact qY.pure hI (by simp only[Sem.run_bind,g1,Result.andThen_ok,run_neq_nil_nil _ _ hm]) RD.bool
  ·unfold bb at h
   rw[w8]at h
   obtain⟨rfl,rfl⟩:=h
   cases hx _ rfl
   exact qY.pure hI (by simp only[Sem.run_bind,g2,Result.andThen_ok,run_neq_held_nil _ _ _ _ hm]) RD.bool
  ·exact absurd h zj
 ·exact absurd h zj
theorem VO{x:Option D}{v:Value}{xt at':Nat}{ok:Bool}{d:Option D}{zL:St}(hI:Inv κ)(hx:∀ z,x=some z→RD κ z v)
  (h:(zS (nX c x at' ok) κ.st).leads (d,zL)):qY c.P (do Pure.pure (.value (← Instr.typeAssert v xt at' ok))) κ d zL:=by
 unfold nX at h
 split at h
 ·exact absurd h zj
 ·exact absurd h zj
 ·rename_i ty hni hu
  split at h
  ·rename_i t e
   cases hb:Nat.beq t at'&&ok with
   | false=>rw[hb]at h; exact absurd h zj
   | true =>
    rw[hb,cond_true,w8]at h
    obtain⟨rfl,rfl⟩:=h
    simp only[Bool.and_eq_true]at hb
    have:=Nat.eq_of_beq_eq_true hb.1
    subst this
    obtain rfl:=hb.2
    cases hx _ rfl with
    | iface _ _ u hu' =>
     refine qY.pure hI (v:=.tuple #[u,.bool true]) ?_ ?_
     ·cases ty<;>first | (exact(hni _ rfl).elim) | (simp[Instr.typeAssert,run_underlying hu])
     ·have:=xv.cons hu' (xv.cons (RD.bool (κ:=κ) (b:=true)) xv.nil)
      exact .gp _ [u,.bool true] this.1 this.2
  ·exact absurd h zj
theorem Jy{t:Nat}{x:Option D}{v:Value}{d:Option D}{zL:St}(hI:Inv κ)(hx:∀ z,x=some z→RD κ z v)
  (h:(zS (ss c t x) κ.st).leads (d,zL)):qY c.P (do Pure.pure (.value (← Instr.makeInterface t v))) κ d zL:=by
 unfold ss at h
 cases hu:c.P.underlying t with
 | none=>rw[hu]at h; exact absurd h zj
 | some u =>
  rw[hu]at h
  cases u<;>simp only at h
  all_goals try exact absurd h zj
  all_goals
   split at h
   ·rw[w8]at h; obtain⟨rfl,rfl⟩:=h
    have hc:c.P.concrete t=true:=by unfold Program.concrete; rw[hu]
    exact qY.pure hI (run_makeInterface κ.w t v hc) (.iface t _ v (hx _ rfl))
   ·exact absurd h zj
theorem SD{e:Ty}{x y:D}{v:Value}{l:List (den e)}(hI:Inv κ)(hx:RD κ x v)(h:(pc κ.st x).leads y)(hl:Bi e y=some l):Src κ e l v:=by
 rcases Qb hI hx h with⟨rfl,_⟩ | ⟨e',ys,rfl,hs,_⟩
 ·cases y with
  | zY σ z =>
   obtain⟨he,hz⟩:=qB (a:=σ) (b:=.sl e) hl
   cases he
   cases hz
   exact II hx
  | tight e' z ne =>
   obtain⟨he,hz⟩:=qB (a:=.sl e') (b:=.sl e) hl
   cases he
   cases hz
   exact tF hx
  | xo =>
   simp only[Bi,Option.some.injEq]at hl
   subst hl
   exact UA hx
  | _=>simp[Bi]at hl
 ·obtain⟨he,hz⟩:=qB (a:=.sl e') (b:=.sl e) hl
  cases he
  cases hz
  exact hs
theorem BU(l:List Int):strOfNums l=⟨(qP l).toArray⟩:=rfl
theorem Ki{s t e:Nat}{x:Option D}{v:Value}{d:Option D}{zL:St}(hI:Inv κ)(hx:∀ z,x=some z→RD κ z v)(hs:c.P.underlying s=some (.slice e))(ht:c.P.underlying t=some .string)
  (h:(zS (W2 c e x) κ.st).leads (d,zL)):qY c.P (do Pure.pure (.value (← convert s t v))) κ d zL:=by
 unfold W2 at h
 split at h
 ·rename_i z he
  rw[mL]at h
  obtain⟨h,rfl⟩:=h
  obtain⟨y,h1,h2⟩:=T.zT.1 h
  split at h2
  ·rename_i l hl
   cases h2
   have Y4:=SD hI (hx _ rfl) h1 hl
   obtain⟨a,cap,f,rfl,wD,hn,g1,g2⟩:=Y4.ex
   have vO:(convert s t (.slice a l.length cap)).run c.P κ.w=.ok (.string (strOfNums l)) κ.w:=by
    cases a with
    | none =>
     obtain⟨rfl,rfl⟩:=hn rfl
     exact run_convert_bytes_nil κ.w s e hs he 0 0 t ht
    | some p =>
     rcases g2 p rfl with⟨rfl,rfl⟩ | ⟨hp,_,hc⟩
     ·have h0:(loadCells p 0).run c.P κ.w=.ok (([]:List Int).map (Value.int .u8)).toArray κ.w:=by
       have:=run_loadCells_list (P:=c.P) κ.w p [] (fun j v hj=>by simp at hj)
       simpa using this
      simp only[List.length_nil]
      rw[run_convert_bytes_string κ.w s t e _ 0 0 hs he ht,run_bytesToString κ.w _ 0 0 [] h0]
      rfl
     ·obtain⟨blk,o,sp⟩:=p
      simp only at hp
      subst hp
      refine run_convert_bytes_arg κ.w s e hs he blk o l.length cap l rfl (fun i hi => ?_) t ht
      have hf:=(g1 i hi).eJ
      have:=hc i hi 0 (.int .u8 l[i]) (by rw[hf]; rfl)
      have e1:o+i*Ty.size (.int .u8)+0=o+i:=by simp[Ty.size]
      rw[e1]at this
      rw[this]
      simp[List.getD,List.getElem?_eq_getElem hi]
   refine qY.pure hI vO ?_
   rw[BU]
   exact .str
  ·exact h2.elim
 ·exact absurd h zj
theorem GS{s t:Nat}{x:Option D}{v:Value}{d:Option D}{zL:St}(hI:Inv κ)(hx:∀ z,x=some z→RD κ z v)
  (h:(zS (convertOp c s t x) κ.st).leads (d,zL)):qY c.P (do Pure.pure (.value (← convert s t v))) κ d zL:=by
 unfold convertOp at h
 split at h
 ·rename_i e hs ht
  exact Ki hI hx hs ht h
 ·rename_i k0 k hs ht
  split at h
  ·rename_i k1 n hk
   have:=vZ hk hx
   subst this
   rw[yL]at h
   obtain⟨rfl,rfl⟩:=h
   exact qY.pure hI (by simp[convert,run_underlying hs,run_underlying ht,Conv.intToInt]) RD.int
  ·exact absurd h zj
 ·rename_i hs ht
  split at h
  ·rename_i s' hk
   have:=su hk hx
   subst this
   rw[w8]at h
   obtain⟨rfl,rfl⟩:=h
   exact qY.pure hI (by simp[convert,run_underlying hs,run_underlying ht]) RD.str
  ·exact absurd h zj
 ·exact absurd h zj
end
end Go.AM
namespace Go.AM
set_option linter.unusedSectionVars false
variable [uA]
section
variable {c:Ctx} {κ:KS}
theorem NP{ty t t':Nat}{s x:Option D}{v u:Value}{d:Option D}{zL:St}(hI:Inv κ)(hs:∀ z,s=some z→RD κ z v)(hx:∀ z,x=some z→RD κ z u)
  (h:(zS (Fz c t s x) κ.st).leads (d,zL)):qY c.P (do Pure.pure (.value (← Builtin.copy_ #[t,t'] ty #[v,u]))) κ d zL:=by
 unfold Fz at h
 split at h
 ·rename_i et het
  split at h
  ·rename_i k b qR k' off len z hu jn
   cases hk:decide (k'=k)with
   | false=>rw[hk]at h; exact absurd h zj
   | true =>
    rw[hk,cond_true]at h
    obtain rfl:k'=k:=of_decide_eq_true hk
    simp only[zS]at h
    obtain⟨y,h1,h2⟩:=T.zT.1 h
    split at h2
    ·rename_i l hl
     unfold Pj at h2
     split at h2
     ·rename_i kv e' pj hb
      split at h2
      ·rename_i xs Vt
       obtain⟨he,hxx⟩:=qB (a:=.sl e') (b:=.sl (.int k')) Vt
       cases he
       obtain rfl:xs=pj:=hxx
       obtain⟨⟨HW,Kq⟩,h2⟩:=h2
       cases h2
       subst HW
       have Y4:=SD hI (hx _ rfl) h1 hl
       obtain⟨a,cap,f,rfl,wD,hn,g1,g2⟩:=Y4.ex
       have hue:=ur het
       have z3V:(c.P.info? et).map (·.size)=some 1:=jn
       have hrd:=hs _ rfl
       cases hrd with
       | ms _ _ _ _ _ cap0 a0 HN hcap0 ha0 hsp0 hh =>
       have hm:=hh xs hb
       have Uf:((List.take len l).map (Value.int k')).length=Nat.min l.length len:=by rw[List.length_map,List.length_take]; exact Nat.min_comm _ _
       have z45:min len (List.length l)=Nat.min l.length len:=Nat.min_comm _ _
       by_cases h0:min len (List.length l)=0
       ·-- nothing goes over
        have vO:=run_copy_none (P:=c.P) κ.w t t' ty et a0 a len cap0 l.length cap hue z3V (by rw[← z45]; exact h0)
        have Vg:yc off len xs l=xs:=by
         unfold yc
         have ht:List.take len l=[]:=List.eq_nil_of_length_eq_zero (by rw[List.length_take]; exact h0)
         rw[ht,h0,List.append_nil,Nat.add_zero,List.take_append_drop]
        have iP:κ.st.set b (.arr qR (.int k') (yc off len xs l))=κ.st:=by
         rw[Vg]
         obtain⟨qp,hge⟩:=List.getElem?_eq_some_iff.1 hb
         rw[← hge,List.set_getElem_self]
        rw[iP]
        refine⟨κ,.value (goInt 0),goInt 0,by simp[vO],.inl rfl,rfl,hI,Ext.refl κ,fun d' yM => ?_⟩
        cases yM
        rw[h0]
        exact RD.int
       ·obtain⟨hle,hm⟩:=hm
        rcases hm with⟨hz,_⟩ | ⟨blk,n,o,zjB,hp,hv,E2,SJ,hc3⟩
        ·omega
        ·cases hv
         have ho:o=off:=by
          rcases hc3 with h | h
          ·omega
          ·simpa[Ty.size]using h
         subst ho
         have hl0:l≠[]:=fun h=>h0 (by rw[h]; simp)
         obtain⟨p,rfl⟩:∃ p,a=some p:=by
          cases a with
          | none=>exact absurd (hn rfl).1 hl0
          | some p=>exact⟨p,rfl⟩
         rcases g2 p rfl with⟨h,_⟩ | ⟨sT,_,hc⟩
         ·exact absurd h hl0
         obtain⟨pb,po,psp⟩:=p
         simp only at sT
         subst sT
         obtain⟨_,Oc⟩:=hI.blk b _ hb
         rcases Oc with⟨_,Ot⟩ | ⟨ma,n',cs0,T,k1,k2,k3,k4,kr,g,k5⟩
         ·rw[hp]at Ot; cases Ot
         rw[hp]at k1
         cases k1
         have hn':List.length xs≤cs0.size:=by rw[k3]; simpa[Ty.size]using k4
         have bW:∀ (i:Nat) (hi:i<List.length xs),cs0[i]? = some (.int k' xs[i]):=by
          intro i hi
          obtain⟨q1,q2⟩:=k5 i hi
          have:=q2 0 (.int k' xs[i]) (by rw[q1.eJ]; rfl)
          simpa[Ty.size]using this
         have zg7:((List.take len l).map (Value.int k')).length≤len:=by simp; omega
         have vO:=run_copy_row c.P κ.w t t' ty et blk o len cap0 ⟨pb,po,none⟩ l.length cap cs0 T ((List.take len l).map (Value.int k')) hue z3V k2 Uf
          (fun j w hj=>by
           have hj':j<(List.take len l).length:=by have:=(List.getElem?_eq_some_iff.1 hj).1; simpa using this
           have Li:j<l.length:=by simp at hj'; omega
           have e1:w=.int k' l[j]:=by
            rw[List.getElem?_map,List.getElem?_take,if_pos (by simp at hj'; omega),List.getElem?_eq_getElem Li]at hj
            exact(Option.some.inj hj).symm
           have:=hc j Li 0 (.int k' l[j]) (by rw[(g1 j Li).eJ]; rfl)
           have Jb:(⟨pb,po,none⟩:Addr).add j=⟨pb,po+j,none⟩:=by unfold Addr.add; split<;>simp_all
           rw[Jb,e1]
           simpa[Ty.size]using this)
          (by omega) (fun w hw=>by obtain⟨_,_,rfl⟩:=List.mem_map.1 hw; rfl)
         have hlen:List.length (yc o len xs l)=List.length xs:=by
          simp only[yc,List.length_append,List.length_take,List.length_drop]
          omega
         have pN:Alike (.arr qR (.int k') xs) (.arr qR (.int k') (yc o len xs l)):=⟨rfl,Nat.le_refl _,fun _=>hlen.symm⟩
         let iQ:Array Value:=(cs0.toList.take o++(List.take len l).map (Value.int k')++cs0.toList.drop (o+((List.take len l).map (Value.int k')).length)).toArray
         have Yg:iQ.size=n:=by
          simp only[iQ,List.size_toArray,List.length_append,List.length_take,List.length_drop,Array.length_toList,List.length_map]at *
          omega
         have zc0:∀ (i:Nat) (hi:i<List.length (yc o len xs l)),iQ[i]? = some (.int k' (yc o len xs l)[i]):=by
          intro i hi
          have h1:=og (cs:=cs0.toList) (us:=(List.take len l).map (Value.int k')) (o:=o) (n:=((List.take len l).map (Value.int k')).length) rfl (by simp; simp at zg7; omega) i
          have e1:iQ[i]? = (cs0.toList.take o++(List.take len l).map (Value.int k')++cs0.toList.drop (o+((List.take len l).map (Value.int k')).length))[i]? := by simp[iQ]
          have NZ:(List.map (Value.int k') (List.take len l)).length=min len (List.length l):=by simp
          rw[NZ]at h1 e1
          have e2:(yc o len xs l)[i]? = if i<o then xs[i]? else if i<o+min len (List.length l)then(List.take len l)[i-o]? else xs[i]? := by
           unfold yc
           have hto:(List.take o xs).length=o:=by simp; omega
           by_cases q1:i<o
           ·rw[if_pos q1,List.append_assoc,List.getElem?_append_left (by omega),List.getElem?_take,if_pos q1]
           ·rw[if_neg q1,List.append_assoc,List.getElem?_append_right (by omega),hto]
            by_cases q2:i<o+min len (List.length l)
            ·rw[if_pos q2,List.getElem?_append_left (by simp; omega)]
            ·rw[if_neg q2,List.getElem?_append_right (by simp; omega),List.getElem?_drop,List.length_take]
             congr 1; omega
          have e3:(yc o len xs l)[i]? = some (yc o len xs l)[i]:=List.getElem?_eq_getElem hi
          rw[e1,h1]
          rw[e2]at e3
          have hix:i<List.length xs:=by rw[← hlen]; exact hi
          split
          ·rename_i q1
           rw[if_pos q1,List.getElem?_eq_getElem hix]at e3
           rw[Array.getElem?_toList,bW i hix,Option.some.inj e3]
          ·rename_i q1
           rw[if_neg q1]at e3
           split
           ·rename_i q2
            rw[if_pos q2]at e3
            rw[List.getElem?_map,e3]
            rfl
           ·rename_i q2
            rw[if_neg q2,List.getElem?_eq_getElem hix]at e3
            rw[Array.getElem?_toList,bW i hix,Option.some.inj e3]
         refine⟨κ.B8 b blk iQ (.arr qR (.int k') (yc o len xs l)),.value (goInt (((List.take len l).map (Value.int k')).length:Nat)),goInt (((List.take len l).map (Value.int k')).length:Nat),(by rw[Sem.run_bind,vO]; rfl),.inl rfl,rfl,Qz hI hp hb pN ?_,nQ hI hp hb pN,fun d' yM => ?_⟩
         ·refine⟨by simp[Ty.size],.inr ⟨blk,n,iQ,T,hp,setRow_heap κ.w blk cs0 iQ T (0,0) k2,Yg,by simp[Ty.size]; omega,kr,fun i=>[.int k' ((yc o len xs l).getD i 0)],fun i hi => ?_⟩⟩
          have hg:(yc o len xs l).getD i 0=(yc o len xs l)[i]:=by simp[List.getD_eq_getElem?_getD,List.getElem?_eq_getElem hi]
          show Rc _ _ (.int k') _ [Value.int k' ((yc o len xs l).getD i 0)]∧∀ (j:Nat) (v:Value),[Value.int k' ((yc o len xs l).getD i 0)][j]? = some v→_
          rw[hg]
          refine⟨.int k' _,fun j w hj => ?_⟩
          cases j with
          | zero =>
           simp at hj
           subst hj
           simpa[Ty.size]using zc0 i hi
          | succ j=>simp at hj
         ·cases yM
          rw[z45,← Uf]
          exact RD.int
      ·exact h2.elim
     ·exact h2.elim
    ·exact h2.elim
  ·exact absurd h zj
 ·exact absurd h zj
end
end Go.AM
namespace Go.AM
set_option linter.unusedSectionVars false
variable [uA]
def uN(P:Program)(g:Nat)(args:Array Value)(w:World)(R:Ending→World→Prop):Prop :=
 ((callFunc g args).run P w=.ok (.enter g args) w∧Calls P g args w R)∨∃ v w',(callFunc g args).run P w=.ok (.value v) w'∧R (.returned v) w'
theorem uN.mono{P:Program}{g:Nat}{args:Array Value}{w:World}{R R':Ending→World→Prop}(h:uN P g args w R)(hr:∀ e w,R e w→R' e w):uN P g args w R':=by
 rcases h with⟨h1,h2⟩ | ⟨v,w',h1,h2⟩
 ·exact .inl ⟨h1,h2.mono hr⟩
 ·exact .inr ⟨v,w',h1,hr _ _ h2⟩
def vz(κ:KS):GK→Ending→Prop
 | .ret ds,e=>∃ v,e=.returned v∧RD κ (gf ds) v
 | .bV d,e=>∃ v,e=.panicked [{ v,recovered:=false }]∧RD κ d v
abbrev z5G:=Nat→Array Value→World→(Ending→World→Prop)→Prop
def zdz(Dr:z5G)(g:Nat)(S:List D→St→T (GK×St)):Prop :=
 ∀ (κ:KS) (args:List D) (qh:List Value) (rs:GK) (zL:St),(S args κ.st).leads (rs,zL)→Inv κ→xv κ args qh →
  Dr g qh.toArray κ.w fun e w'=>∃ κ':KS,κ'.w=w'∧κ'.st=zL∧Inv κ'∧Ext κ κ'∧vz κ' rs e
def CS(P:Program)(g:Nat)(S:List D→St→T (GK×St)):Prop :=
 ∀ (κ:KS) (args:List D) (qh:List Value) (rs:GK) (zL:St),(S args κ.st).leads (rs,zL)→Inv κ→xv κ args qh →
  uN P g qh.toArray κ.w fun e w'=>∃ κ':KS,κ'.w=w'∧κ'.st=zL∧Inv κ'∧Ext κ κ'∧vz κ' rs e
section
variable {c:Ctx} {κ:KS}
theorem RD.weaken{VA:Nat→Prop}(hs:∀ k,κ.ok k→VA k){d:D}{v:Value}(h:RD κ d v):RD { κ with ok:=VA } d v:=by
 have Vg:Ed κ.w κ.w κ.ok VA:=fun k hk=>⟨hs k hk,rfl⟩
 induction h with
 | zY τ y cs h=>exact .zY τ y cs (h.mono Vg)
 | xz e a=>exact .xz e a
 | tight e l ne blk off f uj we h hc=>exact .tight e l ne blk off f uj (hs _ we) (fun i hi=>(h i hi).mono Vg) hc
 | xo=>exact .xo
 | yn=>exact .yn
 | xZ=>exact .xZ
 | vQ=>exact .vQ
 | vR=>exact .vR
 | Zq v h=>exact .Zq v h
 | du T=>exact .du T
 | dv b T d hd=>exact .dv b T d hd
 | dp b T blk n d hd h=>exact .dp b T blk n d hd h
 | ptr b off blk n d hd h=>exact .ptr b off blk n d hd h
 | xp τ y cs blk off we h hc=>exact .xp τ y cs blk off (hs _ we) (h.mono Vg) hc
 | uk b qR e idx off blk o hb h=>exact .uk b qR e idx off blk o hb h
 | ms b qR e off len cap a hb wD ha sT h=>exact .ms b qR e off len cap a hb wD ha sT h
 | xk f l vs hl h ih=>exact .xk f l vs hl ih
 | agg l vs hl ho h ih=>exact .agg l vs hl ho ih
 | gp l vs hl h ih=>exact .gp l vs hl ih
 | iface t d v h ih=>exact .iface t d v ih
theorem RD.free{κ':KS}(hw:κ'.w=κ.w)(we:κ'.ok=κ.ok)(xM:κ.st=[]){d:D}{v:Value}(h:RD κ d v):RD κ' d v:=by
 obtain⟨w',VA,ph',zL⟩:=κ'
 simp only at hw we
 subst hw we
 induction h with
 | zY τ y cs h=>exact .zY τ y cs h
 | xz e a=>exact .xz e a
 | tight e l ne blk off f uj we h hc=>exact .tight e l ne blk off f uj we h hc
 | xo=>exact .xo
 | yn=>exact .yn
 | xZ=>exact .xZ
 | vQ=>exact .vQ
 | vR=>exact .vR
 | Zq v h=>exact .Zq v h
 | du T=>exact .du T
 | dv b T d hd=>rw[xM]at hd; simp at hd
 | dp b T blk n d hd h=>rw[xM]at hd; simp at hd
 | ptr b off blk n d hd h=>rw[xM]at hd; simp at hd
 | xp τ y cs blk off we h hc=>exact .xp τ y cs blk off we h hc
 | uk b qR e idx off blk o hb h=>rcases hb with hb | ⟨_,_,_,hb,_⟩ <;> · rw[xM]at hb; simp at hb
 | ms b qR e off len cap a hb wD ha sT h=>rcases hb with hb | ⟨_,_,_,hb,_⟩ <;> · rw[xM]at hb; simp at hb
 | xk f l vs hl h ih=>exact .xk f l vs hl ih
 | agg l vs hl ho h ih=>exact .agg l vs hl ho ih
 | gp l vs hl h ih=>exact .gp l vs hl ih
 | iface t d v h ih=>exact .iface t d v ih
theorem Rc.scalar{w w':World}{ok VA:Nat→Prop}{τ:Ty}{x:den τ}{cs:List Value}(h:Rc w ok τ x cs)(ht:τ.scalar=true):Rc w' VA τ x cs:=by
 induction h with
 | int k n=>exact .int k n
 | bool b=>exact .bool b
 | str s=>exact .str s
 | iE=>cases ht
 | sl=>cases ht
 | nil=>exact .nil
 | cons a b x y c1 c2 h1 h2 i1 i2=>simp only[Ty.scalar,Bool.and_eq_true]at ht; exact .cons a b x y c1 c2 (i1 ht.1) (i2 ht.2)
 | expr=>cases ht
theorem z4R{e:Ty}{ys:List (den e)}{v:Value}(h:Src κ e ys v):Rc κ.w (Oj κ) (.sl e) ys [v]:=by
 obtain⟨a,cap,f,rfl,wD,hn,h1,h2⟩:=h.ex
 cases a with
 | none=>obtain⟨rfl,rfl⟩:=hn rfl; exact .iE e none
 | some p =>
  rcases h2 p rfl with⟨rfl,rfl⟩ | ⟨hp,we,hc⟩
  ·exact .iE e _
  obtain⟨blk,o,sp⟩:=p
  simp only at hp
  subst hp
  exact .sl e ys blk o cap f we wD (fun i hi=>(h1 i hi).mono fun k hk=>⟨.inl hk,rfl⟩) hc
def KS.all(κ:KS):KS:={ κ with ok:=Oj κ }
theorem RD.all{d:D}{v:Value}(h:RD κ d v):RD κ.all d v:=h.weaken fun _ hk=>.inl hk
theorem xv.all{l:List D}{vs:List Value}(h:xv κ l vs):xv κ.all l vs:=⟨h.1,fun i h1 h2=>(h.2 i h1 h2).all⟩
theorem YL{x y:D}{v:Value}(hI:Inv κ)(hx:RD κ x v)(h:(pc κ.st x).leads y):RD κ.all y v∧(x.one=true→y.one=true)∧(x.uy=false→y.uy=false):=by
 rcases Qb hI hx h with⟨rfl,_⟩ | ⟨e,ys,rfl,hs,_⟩
 ·exact⟨hx.all,id,id⟩
 ·exact⟨RD.mO rfl (z4R hs),fun _=>rfl,fun _=>rfl⟩
theorem Yu(hI:Inv κ):∀ {l r:List D} {vs:List Value},xv κ l vs→(∀ d∈l,d.one=true)→(G6 κ.st l).leads r→xv κ.all r vs∧∀ d∈r,d.one=true
 | [],r,vs,h,_,hs=>by cases hs; rw[h.qF]; exact⟨.nil,nofun⟩
 | d::l,r,vs,h,ho,hs=>by
  simp only[G6,T.zT]at hs
  obtain⟨x,hx,l',hl,rfl⟩:=hs
  obtain⟨v,us,rfl,h1,h2⟩:=h.cons_inv
  obtain⟨g1,g2,_⟩:=YL hI h1 hx
  obtain⟨k1,k2⟩:=Yu hI h2 (fun d hd=>ho d (List.mem_cons_of_mem _ hd)) hl
  refine⟨.cons g1 k1,fun d hd => ?_⟩
  rcases List.mem_cons.1 hd with rfl | hd
  ·exact g2 (ho _ List.mem_cons_self)
  ·exact k2 d hd
theorem RQ{x y:D}{v:Value}(hI:Inv κ)(hx:RD κ x v)(h:(snap κ.st x).leads y):RD κ.all y v:=by
 cases x with
 | agg l =>
  simp only[snap,T.zT]at h
  obtain⟨r,hr,rfl⟩:=h
  cases hx with
  | agg _ vs hl ho hh =>
   obtain⟨g1,g2⟩:=Yu hI (⟨hl,hh⟩:xv κ l vs) ho hr
   exact .agg r vs g1.1 g2 g1.2
 | _=>exact(YL hI hx h).1
theorem X4{τ:Ty}{d:D}{x:den τ}{v:Value}(hI:Inv κ)(hd:RD κ d v)(h:(QO κ.st τ d).leads x):RD κ.all (.zY τ x) v:=by
 simp only[QO,T.zT,T.ua]at h
 obtain⟨y,h1,h2⟩:=h
 exact cD (RQ hI hd h1) h2
theorem GA{x y:D}(h:(pc [] x).leads y):y=x:=by
 cases x with
 | ms=>simp[pc,T.leads]at h
 | _=>exact h.symm
theorem YI:∀ {l r:List D},(G6 [] l).leads r→r=l
 | [],_,h=>h.symm
 | d::l,r,h=>by
  simp only[G6,T.zT]at h
  obtain⟨x,hx,l',hl,rfl⟩:=h
  rw[GA hx,YI hl]
theorem Sv{x y:D}(h:(snap [] x).leads y):y=x:=by
 cases x with
 | agg l =>
  simp only[snap,T.zT]at h
  obtain⟨r,hr,rfl⟩:=h
  rw[YI hr]
 | _=>exact GA h
theorem Dl{τ:Ty}{d:D}{x:den τ}{v:Value}(hd:RD κ d v)(h:(QO [] τ d).leads x):RD κ (.zY τ x) v:=by
 simp only[QO,T.zT,T.ua]at h
 obtain⟨y,h1,h2⟩:=h
 rw[Sv h1]at h2
 exact cD hd h2
def WJ:D→Bool | .zY .. | .xp .. => true | _=>false
def Io:D→Bool
 | .xk _ l=>l.all WJ
 | d=>WJ d
theorem z1D{d:D}(h:WJ d=true):Io d=true:=by cases d<;>first | exact h | cases h
theorem Jm{st:St}{τ:Ty}{d y:D}(h:(pq st τ d).leads y):WJ y=true:=by
 unfold pq at h
 split at h
 ·split at h
  ·cases h; rfl
  ·exact h.elim
 ·split at h
  ·split at h
   ·cases h; rfl
   ·exact h.elim
  ·exact h.elim
 ·exact h.elim
theorem YK{τ:Ty}{d y:D}{v:Value}(hI:Inv κ)(hd:RD κ d v)(h:(pq κ.st τ d).leads y):RD κ.all y v:=by
 unfold pq at h
 split at h
 ·split at h
  ·rename_i x z hz
   cases h
   obtain⟨e,rfl⟩:=qB hz
   cases e
   exact hd.all
  ·exact h.elim
 ·rename_i b off
  split at h
  ·rename_i d' hb
   split at h
   ·rename_i z hz
    cases h
    cases ho:Nat.beq off 0 with
    | false=>rw[ho]at hz; cases hz
    | true =>
     rw[ho,cond_true]at hz
     have:=Nat.eq_of_beq_eq_true ho
     subst this
     obtain⟨blk,n,cs,t,g1,g2,g3,g4,g5⟩:=hI.blk b _ hb
     cases hd with
     | ptr _ _ ma n' d1 ME hp =>
      rw[g1]at hp
      cases hp
      have we:Oj κ blk:=.inr ⟨b,n,g1⟩
      have ht:d'.uy=false:=by
       cases d' with
       | gp l=>simp[dY,D.uy]at hz
       | _=>rfl
      have hrc:=rF hz g4 g5.1 ht
      refine .xp τ z cs.toList blk 0 we (hrc.mono fun k hk=>⟨.inl hk,rfl⟩) fun j v hj => ?_
      show κ.w.cell? _=_
      rw[tn g2,Nat.zero_add]
      simpa using hj
   ·exact h.elim
  ·exact h.elim
 ·exact h.elim
theorem Gq{τ:Ty}{d y:D}{v:Value}(hd:RD κ d v)(h:(pq [] τ d).leads y):RD κ y v:=by
 unfold pq at h
 split at h
 ·split at h
  ·rename_i x z hz
   cases h
   obtain⟨e,rfl⟩:=qB hz
   cases e
   exact hd
  ·exact h.elim
 ·rename_i b off
  split at h
  ·rename_i d' hb; simp at hb
  ·exact h.elim
 ·exact h.elim
theorem C8{st:St}{p:Wp}{d y:D}(h:(rW st p d).leads y):WJ y=true:=by
 cases p with
 | rp τ=>exact Jm h
 | im τ=>simp only[rW,T.zT]at h; obtain⟨x,_,rfl⟩:=h; rfl
theorem FN{p:Wp}{d y:D}{v:Value}(hI:Inv κ)(hd:RD κ d v)(h:(rW κ.st p d).leads y):RD κ.all y v:=by
 cases p with
 | rp τ=>exact YK hI hd h
 | im τ=>simp only[rW,T.zT]at h; obtain⟨x,hx,rfl⟩:=h; exact X4 hI hd hx
theorem FW{p:Wp}{d y:D}{v:Value}(hd:RD κ d v)(h:(rW [] p d).leads y):RD κ y v:=by
 cases p with
 | rp τ=>exact Gq hd h
 | im τ=>simp only[rW,T.zT]at h; obtain⟨x,hx,rfl⟩:=h; exact Dl hd hx
theorem Qy{st:St}:∀ {ps:List Wp} {ds r:List D},(cB st ps ds).leads r→∀ d∈r,WJ d=true
 | [],[],r,hs=>by cases hs; nofun
 | p::ps,d::ds,r,hs=>by
  simp only[cB,T.zT]at hs
  obtain⟨x,hx,l,hl,rfl⟩:=hs
  intro d' yM
  rcases List.mem_cons.1 yM with rfl | yM
  ·exact C8 hx
  ·exact Qy hl d' yM
 | [],_::_,_,hs=>hs.elim
 | _::_,[],_,hs=>hs.elim
theorem WY(hI:Inv κ):∀ {ps:List Wp} {ds r:List D} {vs:List Value},xv κ ds vs→(cB κ.st ps ds).leads r→xv κ.all r vs
 | [],[],r,vs,h,hs=>by cases hs; rw[h.qF]; exact .nil
 | p::ps,d::ds,r,vs,h,hs=>by
  simp only[cB,T.zT]at hs
  obtain⟨x,hx,l,hl,rfl⟩:=hs
  obtain⟨v,us,rfl,h1,h2⟩:=h.cons_inv
  exact .cons (FN hI h1 hx) (WY hI h2 hl)
 | [],_::_,_,_,_,hs=>hs.elim
 | _::_,[],_,_,_,hs=>hs.elim
theorem Vz:∀ {ps:List Wp} {ds r:List D} {vs:List Value},xv κ ds vs→(cB [] ps ds).leads r→xv κ r vs
 | [],[],r,vs,h,hs=>by cases hs; rw[h.qF]; exact .nil
 | p::ps,d::ds,r,vs,h,hs=>by
  simp only[cB,T.zT]at hs
  obtain⟨x,hx,l,hl,rfl⟩:=hs
  obtain⟨v,us,rfl,h1,h2⟩:=h.cons_inv
  exact .cons (FW h1 hx) (Vz h2 hl)
 | [],_::_,_,_,_,hs=>hs.elim
 | _::_,[],_,_,_,hs=>hs.elim
theorem ZZ{st:St}{p:Qh}{d y:D}(h:(Dw st p d).leads y):(∃ τ x,p=.ty τ∧(QO st τ d).leads x∧y=.zY τ x)∨(∃ τ,p=.rp τ∧(pq st τ d).leads y) ∨
  ∃ f caps l l',p=.xk f caps∧d=.xk f l∧(cB st caps l).leads l'∧y=.xk f l':=by
 cases p with
 | ty τ =>
  have h':((QO st τ d).bind fun x=>T.ret (D.zY τ x)).leads y:=by cases d<;>exact h
  simp only[T.zT]at h'
  obtain⟨x,hx,rfl⟩:=h'
  exact .inl ⟨τ,x,rfl,hx,rfl⟩
 | rp τ=>exact .inr (.inl ⟨τ,rfl,by cases d<;>exact h⟩)
 | xk f caps =>
  cases d with
  | xk f' l =>
   simp only[Dw]at h
   cases hb:Nat.beq f f' with
   | false=>rw[hb]at h; exact h.elim
   | true =>
    rw[hb,cond_true,T.zT]at h
    obtain⟨l',hl,rfl⟩:=h
    have:=Nat.eq_of_beq_eq_true hb
    subst this
    exact .inr (.inr ⟨f,caps,l,l',rfl,rfl,hl,rfl⟩)
  | _=>exact h.elim
theorem N6{st:St}{p:Qh}{d y:D}(h:(Dw st p d).leads y):Io y=true:=by
 rcases ZZ h with⟨τ,x,_,_,rfl⟩ | ⟨τ,_,h⟩ | ⟨f,caps,l,l',_,_,h',rfl⟩
 ·rfl
 ·exact z1D (Jm h)
 ·exact List.all_eq_true.2 (Qy h')
theorem SA{p:Qh}{d y:D}{v:Value}(hI:Inv κ)(hd:RD κ d v)(h:(Dw κ.st p d).leads y):RD κ.all y v:=by
 rcases ZZ h with⟨τ,x,_,hx,rfl⟩ | ⟨τ,_,h⟩ | ⟨f,caps,l,l',_,rfl,h',rfl⟩
 ·exact X4 hI hd hx
 ·exact YK hI hd h
 ·cases hd with
  | xk _ _ vs hl hh =>
   have:=WY hI (⟨hl,hh⟩:xv κ l vs) h'
   exact .xk f l' vs this.1 this.2
theorem PD{p:Qh}{d y:D}{v:Value}(hd:RD κ d v)(h:(Dw [] p d).leads y):RD κ y v:=by
 rcases ZZ h with⟨τ,x,_,hx,rfl⟩ | ⟨τ,_,h⟩ | ⟨f,caps,l,l',_,rfl,h',rfl⟩
 ·exact Dl hd hx
 ·exact Gq hd h
 ·cases hd with
  | xk _ _ vs hl hh =>
   have:=Vz (⟨hl,hh⟩:xv κ l vs) h'
   exact .xk f l' vs this.1 this.2
theorem ZV{st:St}:∀ {ps:List Qh} {ds r:List D},(pB st ps ds).leads r→∀ d∈r,Io d=true
 | [],[],r,hs=>by cases hs; nofun
 | p::ps,d::ds,r,hs=>by
  simp only[pB,T.zT]at hs
  obtain⟨x,hx,l,hl,rfl⟩:=hs
  intro d' yM
  rcases List.mem_cons.1 yM with rfl | yM
  ·exact N6 hx
  ·exact ZV hl d' yM
 | [],_::_,_,hs=>hs.elim
 | _::_,[],_,hs=>hs.elim
theorem YD(hI:Inv κ):∀ {ps:List Qh} {ds r:List D} {vs:List Value},xv κ ds vs→(pB κ.st ps ds).leads r→xv κ.all r vs
 | [],[],r,vs,h,hs=>by cases hs; rw[h.qF]; exact .nil
 | p::ps,d::ds,r,vs,h,hs=>by
  simp only[pB,T.zT]at hs
  obtain⟨x,hx,l,hl,rfl⟩:=hs
  obtain⟨v,us,rfl,h1,h2⟩:=h.cons_inv
  exact .cons (SA hI h1 hx) (YD hI h2 hl)
 | [],_::_,_,_,_,hs=>hs.elim
 | _::_,[],_,_,_,hs=>hs.elim
theorem WC:∀ {ps:List Qh} {ds r:List D} {vs:List Value},xv κ ds vs→(pB [] ps ds).leads r→xv κ r vs
 | [],[],r,vs,h,hs=>by cases hs; rw[h.qF]; exact .nil
 | p::ps,d::ds,r,vs,h,hs=>by
  simp only[pB,T.zT]at hs
  obtain⟨x,hx,l,hl,rfl⟩:=hs
  obtain⟨v,us,rfl,h1,h2⟩:=h.cons_inv
  exact .cons (PD h1 hx) (WC h2 hl)
 | [],_::_,_,_,hs,h=>h.elim
 | _::_,[],_,_,hs,h=>h.elim
def KS.bare(κ:KS)(ok:Nat→Prop):KS:=⟨κ.w,ok,[],[]⟩
theorem KG{ok:Nat→Prop}(hI:Inv κ)(hs:∀ k,κ.ok k→ok k)(h:∀ k,ok k→k<κ.w.heap.size):Inv (κ.bare ok) :=
 ⟨rfl,h,fun b blk n h=>by simp[KS.bare]at h,fun b b' blk n n' h=>by simp[KS.bare]at h,fun b x h=>by simp[KS.bare]at h,hI.gl.mono fun k hk=>⟨hs k hk,rfl⟩⟩
theorem nK{ok:Nat→Prop}{d:D}{v:Value}(hi:WJ d=true)(h:RD { κ with ok:=ok } d v):RD (κ.bare ok) d v:=by
 cases d with
 | zY τ x=>obtain⟨cs,h1,rfl⟩:=RD.b7 h; exact .zY τ x cs h1
 | xp τ x=>cases h with | xp _ _ cs blk off we h hc=>exact .xp τ x cs blk off we h hc
 | _=>cases hi
theorem YE{ok:Nat→Prop}{d:D}{v:Value}(hi:Io d=true)(h:RD { κ with ok:=ok } d v):RD (κ.bare ok) d v:=by
 cases d with
 | xk f l =>
  cases h with
  | xk _ _ vs hl hh=>exact .xk f l vs hl fun i h1 h2=>nK (List.all_eq_true.1 hi _ (List.getElem_mem h1)) (hh i h1 h2)
 | zY τ x=>exact nK hi h
 | xp τ x=>exact nK hi h
 | _=>cases hi
theorem BB{κ1:KS}{ok:Nat→Prop}(hI:Inv κ)(XY:Inv κ1)(xM:κ1.st=[])(hx:Ext (κ.bare ok) κ1)(VA:Nat→Prop)(h1:∀ k,κ.ok k→VA k)(h2:∀ k,VA k→κ.ok k∨κ.w.heap.size≤k)(h3:∀ k,VA k→k<κ1.w.heap.size) :
  Ext κ { κ with w:=κ1.w,ok:=VA }∧Inv { κ with w:=κ1.w,ok:=VA }:=by
 have hfr:∀ k,k<κ.w.heap.size→κ1.w.heap[k]? = κ.w.heap[k]? := fun k hk=>hx.frame k hk fun b n h=>by simp[KS.bare]at h
 have jn:κ.w.heap.size≤κ1.w.heap.size:=hx.size
 have he:Ext κ { κ with w:=κ1.w,ok:=VA }:=⟨hx.os,hx.tape,hx.output,jn,fun k hk=>⟨h1 k hk,hfr k (hI.y6 k hk)⟩,fun k hk=>(h2 k hk).elim .inl (fun h=>.inr (.inl h)),fun _ _ _ h=>.inl h,fun b d h=>⟨⟨d,h⟩,rfl⟩,
  fun b v0 e xs h=>.inr ⟨v0,xs,h,Nat.le_refl _,fun _=>⟨rfl,rfl⟩⟩,fun _ h=>h,Nat.le_refl _,fun k hk _=>hfr k hk⟩
 refine⟨he,hI.len,h3,fun b blk n h => ?_,hI.inj,fun b x h=>(hI.blk b x h).mono he rfl fun blk n h=>hfr _ (hI.apart b blk n h).1,hI.gl.mono he.same⟩
 obtain⟨g1,g2⟩:=hI.apart b blk n h
 refine⟨Nat.lt_of_lt_of_le g1 jn,fun hk => ?_⟩
 rcases h2 blk hk with h | h
 ·exact g2 h
 ·exact absurd g1 (Nat.not_lt.2 h)
theorem Ns{g:Nat}{args:List D}{qh:List Value}{d:Option D}{zL:St}(hs:CS c.P g (c.fn g))(hI:Inv κ)(ha:xv κ args qh)
  (h:(zS (match c.sig g args with | some s=>bJ c g s args | none=>tf c g args) κ.st).leads (d,zL)) :
  uN c.P g qh.toArray κ.w fun e w'=>∃ (κ':KS) (v:Value),κ'.w=w'∧κ'.st=zL∧Inv κ'∧Ext κ κ'∧e=.returned v∧∀ d',d=some d'→RD κ' d' v:=by
 split at h
 ·rename_i s MT
  unfold bJ at h
  cases hm:(!(args.any Ky))with
  | true =>
   rw[hm,cond_true,wF]at h
   obtain⟨h,rfl⟩:=h
   simp only[T.zT]at h
   obtain⟨l,hl,⟨rs,gU⟩,hc,hr⟩:=h
   have eF:=WC ha hl
   have hb:xv (κ.bare κ.ok) l qh:=⟨eF.1,fun i h1 h2=>YE (ZV hl _ (List.getElem_mem h1)) (eF.2 i h1 h2)⟩
   refine(hs (κ.bare κ.ok) l qh rs gU hc (KG hI (fun _ h=>h) hI.y6) hb).mono ?_
   rintro e w' ⟨κ1,rfl,xM,XY,hx,he⟩
   unfold T6 at hr
   split at hr
   ·rename_i ds heq
    cases heq
    cases hr
    obtain⟨v,rfl,hv⟩:=he
    obtain⟨hE,hI'⟩:=BB hI XY xM hx κ1.ok (fun k hk=>(hx.same k hk).1) (fun k hk=>by
     rcases hx.fresh k hk with h | h | ⟨b,n,h⟩
     ·exact .inl h
     ·exact .inr h
     ·simp[KS.bare]at h) XY.y6
    exact⟨{ κ with w:=κ1.w,ok:=κ1.ok },v,rfl,rfl,hI',hE,rfl,fun d' yM=>by cases yM; exact RD.free (κ:=κ1) (κ':={ κ with w:=κ1.w,ok:=κ1.ok }) rfl rfl xM hv⟩
   ·exact hr.elim
  | false =>
   rw[hm,cond_false,mL]at h
   obtain⟨h,rfl⟩:=h
   simp only[T.zT]at h
   obtain⟨l,hl,⟨rs,gU⟩,hc,hr⟩:=h
   have eF:=YD hI ha hl
   have hb:xv (κ.bare (Oj κ)) l qh:=⟨eF.1,fun i h1 h2=>YE (ZV hl _ (List.getElem_mem h1)) (eF.2 i h1 h2)⟩
   have qp:∀ k,Oj κ k→k<κ.w.heap.size:=by
    rintro k (hk | ⟨b,n,hk⟩)
    ·exact hI.y6 k hk
    ·exact(hI.apart b k n hk).1
   refine(hs (κ.bare (Oj κ)) l qh rs gU hc (KG hI (fun _ h=>.inl h) qp) hb).mono ?_
   rintro e w' ⟨κ1,rfl,xM,XY,hx,he⟩
   unfold sR at hr
   split at hr
   ·rename_i ds heq
    cases heq
    cases mX:ds.all te with
    | false=>rw[mX]at hr; exact hr.elim
    | true =>
     rw[mX,cond_true]at hr
     cases hr
     obtain⟨v,rfl,hv⟩:=he
     obtain⟨hE,hI'⟩:=BB hI XY xM hx κ.ok (fun k hk=>hk) (fun k hk=>.inl hk) (fun k hk=>Nat.lt_of_lt_of_le (hI.y6 k hk) hx.size)
     refine⟨{ κ with w:=κ1.w,ok:=κ.ok },v,rfl,rfl,hI',hE,rfl,fun d' yM => ?_⟩
     cases yM
     have one:∀ d u,te d=true→RD κ1 d u→RD { κ with w:=κ1.w,ok:=κ.ok } d u:=by
      intro d u hd hu
      cases d<;>simp[te]at hd
      obtain⟨cs,h1,rfl⟩:=RD.b7 hu
      exact .zY _ _ cs (h1.scalar hd)
     have VZ:=List.all_eq_true.1 mX
     unfold gf at hv ⊢
     split at hv
     ·exact one _ _ (VZ _ (by simp)) hv
     ·rename_i uj
      cases hv with
      | gp _ vs hl hh=>exact .gp ds vs hl fun i h1 h2=>one _ _ (VZ _ (List.getElem_mem h1)) (hh i h1 h2)
   ·exact hr.elim
 ·unfold tf at h
  simp only[zS,T.zT]at h
  obtain⟨⟨rs,gU⟩,hc,hr⟩:=h
  refine(hs κ args qh rs gU hc hI ha).mono ?_
  rintro e w' ⟨κ1,rfl,xM,XY,hx,he⟩
  cases rs with
  | bV p=>exact hr.elim
  | ret ds =>
   cases hr
   obtain⟨v,rfl,hv⟩:=he
   exact⟨κ1,v,rfl,xM,XY,hx,rfl,fun d' yM=>by cases yM; exact hv⟩
end
end Go.AM