/-
  The abstract machine, part B: texts of our own, the same for each claim.
-/
import Derived.Test.YtbafdjlefhlefaaGreatDoorAmA
import Derived.Lib.AppendStr
import Derived.WideLaws
import Derived.Laws.BytesArg
import Derived.Laws.CopyRow
import Derived.Laws.IdiomCopy
set_option linter.unusedVariables false
namespace Go.AM
set_option linter.unusedSectionVars false
variable [uH]
section
variable {c:Ctx} {κ κ':KS}
theorem fP.mono(x:Ext κ κ'){b:Nat}(hp:κ'.ph[b]? = κ.ph[b]?)(hh:∀ blk n,κ.ph[b]? = some (some (blk,n))→κ'.w.heap[blk]? = κ.w.heap[blk]?){y:yp}(h:fP κ b y):fP κ' b y:=by
 cases y with
 | dead=>trivial
 | var d =>
  obtain⟨blk,n,cs,t,h1,h2,h3,h4,h5⟩:=h
  exact⟨blk,n,cs,t,hp.trans h1,(hh blk n h1).trans h2,h3,h4.mono x,h5⟩
 | arr qY e xs =>
  obtain⟨h0,h⟩:=h
  refine⟨h0,cp h (fun h=>⟨h.1,hp.trans h.2⟩) ?_⟩
  rintro⟨blk,n,cs,t,h1,h2,h3,h4,hr,f,h5⟩
  exact⟨blk,n,cs,t,hp.trans h1,(hh blk n h1).trans h2,h3,h4,hr,f,fun i hi=>⟨(h5 i hi).1.mono x.same,(h5 i hi).2⟩⟩
def KS.zU(κ:KS)(w':World):KS:={ κ with w:=w',ok:=fun k=>κ.ok k∨k=κ.w.heap.size }
structure fV(w w':World)(o:Obj):Prop where
 os:w'.os=w.os
 tape:w'.tape=w.tape
 output:w'.output=w.output
 heap:w'.heap=w.heap.push o
theorem fV.size{w w':World}{o:Obj}(g:fV w w' o):w'.heap.size=w.heap.size+1:=by rw[g.heap]; simp
theorem fV.old{w w':World}{o:Obj}(g:fV w w' o){k:Nat}(h:k<w.heap.size):w'.heap[k]? = w.heap[k]? := by
 rw[g.heap,Array.getElem?_push,if_neg (by omega)]
theorem fV.new{w w':World}{o:Obj}(g:fV w w' o):w'.heap[w.heap.size]? = some o:=by rw[g.heap]; simp
theorem fV.alloc(w:World)(o:Obj):fV w (w.alloc o) o:=⟨rfl,rfl,rfl,rfl⟩
theorem fV.drew(w:World)(o:Obj):fV w (w.drew.alloc o) o:=⟨rfl,rfl,rfl,rfl⟩
theorem UU{w':World}{o:Obj}(hI:Inv κ)(g:fV κ.w w' o):Ext κ (κ.zU w'):=by
 refine⟨g.os,g.tape,g.output,by show κ.w.heap.size≤w'.heap.size; rw[g.size]; omega,fun k hk=>⟨.inl hk,g.old (hI.yi k hk)⟩,?_,fun _ _ _ h=>.inl h,fun b d h=>⟨⟨d,h⟩,rfl⟩,
  fun b v0 e xs h=>.inr ⟨v0,xs,h,Nat.le_refl _,fun _=>⟨rfl,rfl⟩⟩,fun _ h=>h,Nat.le_refl _,fun k hk _=>g.old hk⟩
 rintro k (hk | hk)
 ·exact .inl hk
 ·exact .inr (.inl (by omega))
theorem gX{w':World}{o:Obj}(hI:Inv κ)(g:fV κ.w w' o):Inv (κ.zU w'):=by
 refine⟨hI.len,?_,?_,hI.inj,?_,hI.gl.mono (UU hI g).same⟩
 ·rintro k (hk | hk)
  ·have:=hI.yi k hk; show k<w'.heap.size; rw[g.size]; omega
  ·show k<w'.heap.size; rw[g.size]; omega
 ·intro b blk n h
  obtain⟨h1,h2⟩:=hI.apart b blk n h
  refine⟨by show blk<w'.heap.size; rw[g.size]; omega,?_⟩
  rintro(hk | hk)
  ·exact h2 hk
  ·omega
 ·intro b x hx
  exact(hI.blk b x hx).mono (UU hI g) rfl fun blk n h=>g.old (hI.apart b blk n h).1
def KS.add(κ:KS)(w':World)(n:Nat)(x:yp):KS:={ κ with w:=w',ph:=κ.ph++[some (κ.w.heap.size,n)],st:=κ.st++[x] }
theorem Ze{w':World}{o:Obj}{n:Nat}{x:yp}(hI:Inv κ)(g:fV κ.w w' o):Ext κ (κ.add w' n x):=by
 have xR:∀ b y,κ.st[b]? = some y→(κ.st++[x])[b]? = some y:=fun b y h=>by rw[List.getElem?_append_left (List.getElem?_eq_some_iff.1 h).1]; exact h
 have VL:∀ b y,κ.st[b]? = some y→(κ.ph++[some (κ.w.heap.size,n)])[b]? = κ.ph[b]? := fun b y h=>by
  rw[List.getElem?_append_left]; rw[hI.len]; exact(List.getElem?_eq_some_iff.1 h).1
 refine⟨g.os,g.tape,g.output,by show κ.w.heap.size≤w'.heap.size; rw[g.size]; omega,fun k hk=>⟨hk,g.old (hI.yi k hk)⟩,fun k hk=>.inl hk,?_,fun b d h=>⟨⟨d,xR b _ h⟩,VL b _ h⟩,
  fun b v0 e xs h=>.inr ⟨v0,xs,xR b _ h,Nat.le_refl _,fun _=>⟨VL b _ h,rfl⟩⟩,fun b h=>xR b _ h,by simp[KS.add],fun k hk _=>g.old hk⟩
 intro b blk m h
 simp only[KS.add]at h
 by_cases hb:b<κ.ph.length
 ·rw[List.getElem?_append_left hb]at h; exact .inl h
 ·rw[List.getElem?_append_right (by omega)]at h
  have:=List.mem_of_getElem? h
  simp at this
  exact .inr (by omega)
theorem se(hI:Inv κ){w':World}{n:Nat}{x:yp}:(κ.add w' n x).ph[κ.st.length]? = some (some (κ.w.heap.size,n)):=by
 simp[KS.add,← hI.len]
theorem Qj{w':World}{n:Nat}{x:yp}:(κ.add w' n x).st[κ.st.length]? = some x:=by simp[KS.add]
theorem UZ{w':World}{o:Obj}{n:Nat}{x:yp}(hI:Inv κ)(g:fV κ.w w' o)(hx:fP (κ.add w' n x) κ.st.length x):Inv (κ.add w' n x):=by
 have hold:∀ (b blk m:Nat),(κ.ph++[some (κ.w.heap.size,n)])[b]? = some (some (blk,m))→κ.ph[b]? = some (some (blk,m))∨(b=κ.ph.length∧blk=κ.w.heap.size):=by
  intro b blk m h
  by_cases hb:b<κ.ph.length
  ·rw[List.getElem?_append_left hb]at h; exact .inl h
  ·have ZI:=(List.getElem?_eq_some_iff.1 h).1
   simp at ZI
   have:b=κ.ph.length:=by omega
   subst this
   simp at h
   exact .inr ⟨rfl,h.1.symm⟩
 refine⟨by simp[KS.add,hI.len],?_,?_,?_,?_,hI.gl.mono (Ze hI g).same⟩
 ·intro k hk; have:=hI.yi k hk; show k<w'.heap.size; rw[g.size]; omega
 ·intro b blk m h
  rcases hold b blk m h with h | ⟨rfl,rfl⟩
  ·obtain⟨h1,h2⟩:=hI.apart b blk m h
   exact⟨by show blk<w'.heap.size; rw[g.size]; omega,h2⟩
  ·exact⟨by show κ.w.heap.size<w'.heap.size; rw[g.size]; omega,fun hk=>absurd (hI.yi _ hk) (Nat.lt_irrefl _)⟩
 ·intro b b' blk m m' h h'
  rcases hold b blk m h with h | ⟨rfl,rfl⟩<;>rcases hold b' _ m' h' with h' | ⟨rfl,h''⟩
  ·exact hI.inj b b' blk m m' h h'
  ·have:=(hI.apart b blk m h).1; omega
  ·have:=(hI.apart b' _ m' h').1; omega
  ·rfl
 ·intro b y hy
  simp only[KS.add]at hy
  by_cases hb:b<κ.st.length
  ·rw[List.getElem?_append_left hb]at hy
   refine(hI.blk b y hy).mono (Ze hI g) ?_ fun blk m h=>g.old (hI.apart b blk m h).1
   simp only[KS.add]
   rw[List.getElem?_append_left (by rw[hI.len]; exact hb)]
  ·have ZI:=(List.getElem?_eq_some_iff.1 hy).1
   simp at ZI
   have:b=κ.st.length:=by omega
   subst this
   simp at hy
   subst hy
   exact hx
theorem M1{d:D}{v:Value}{t:TypeId}(hI:Inv κ)(hd:RD κ d v)(ht:d.uE=false)(MA:∀ T,d.typed=some T→t=T) :
  ∃ κ':KS,κ'.w=κ.w.alloc (.cells v.cells t)∧κ'.st=κ.st++[.var d]∧Inv κ'∧Ext κ κ'∧RD κ' (.ptr κ.st.length 0) (.pointer (some ⟨κ.w.heap.size,0,none⟩)):=by
 have g:=fV.alloc κ.w (.cells v.cells t)
 have hx:=Ze (n:=v.cells.size) (x:=.var d) hI g
 refine⟨κ.add _ v.cells.size (.var d),rfl,rfl,UZ hI g ?_,hx,.ptr _ 0 _ v.cells.size d Qj (se hI)⟩
 exact⟨κ.w.heap.size,v.cells.size,v.cells,t,se hI,g.new,rfl,(jz hd ht).mono hx,jx hd,MA⟩
theorem SC{t:Nat}{x:Option D}{v:Value}{d:Option D}{zO:St}(hI:Inv κ)(hx:∀ z,x=some z→RD κ z v)
  (h:(zX (SQ x) κ.st).leads (d,zO)) :
  xf c.P (do Pure.pure (.value (← Instr.box t v))) κ d zO:=by
 cases x with
 | none=>exact absurd h zj
 | some y =>
  simp only[SQ]at h
  cases ht:y.uE||y.typed.isSome with
  | true=>rw[ht]at h; exact absurd h zj
  | false =>
   rw[ht,cond_false]at h
   simp only[Bool.or_eq_false_iff]at ht
   obtain⟨ht,MA⟩:=ht
   have zfA:∀ T,y.typed=some T→t=T:=fun T e=>by rw[e]at MA; cases MA
   simp only[zX,T.leads,Prod.mk.injEq]at h
   obtain⟨rfl,rfl⟩:=h
   obtain⟨κ',h1,h2,h3,h4,h5⟩:=M1 (t:=t) hI (hx _ rfl) ht zfA
   refine⟨κ',_,_,?_,.inl rfl,h2,h3,h4,fun _ he=>by cases he; exact h5⟩
   simp[Instr.box,newVar,newRow,h1]
theorem z6W{d:D}{τ:Ty}{x:den τ}{v:Value}{t:TypeId}(hI:Inv κ)(hd:RD κ d v)(hx:dX τ d=some x) :
  ∃ κ':KS,κ'.w=κ.w.alloc (.cells v.cells t)∧κ'.st=κ.st∧Inv κ'∧Ext κ κ'∧RD κ' (.xx τ x) (.pointer (some ⟨κ.w.heap.size,0,none⟩)):=by
 have g:=fV.alloc κ.w (.cells v.cells t)
 have Fi:=UU hI g
 obtain⟨cs,h1,h2⟩:=RD.gX (cL hd hx)
 have hc:=QM h1.len h1.one
 rw[← h2]at hc
 have hn:(κ.w.alloc (.cells v.cells t)).heap[κ.w.heap.size]? = some (.cells v.cells t (0,0)):=g.new
 have cn:∀ j u,cs[j]? = some u→(κ.w.alloc (.cells v.cells t)).cell? ⟨κ.w.heap.size,0+j,none⟩=some u:=by
  intro j u hj
  simp only[World.cell?,hn,Nat.zero_add]
  rw[← hc]at hj
  simpa using hj
 exact⟨κ.zU _,rfl,rfl,gX hI g,Fi,.xx τ x cs κ.w.heap.size 0 (.inr rfl) (h1.mono Fi.same) cn⟩
theorem EW{t:Nat}{x:Option D}{v:Value}{d:Option D}{zO:St}(hI:Inv κ)(hx:∀ z,x=some z→RD κ z v)
  (h:(zX (z0g c t x) κ.st).leads (d,zO)):xf c.P (do Pure.pure (.value (← Instr.box t v))) κ d zO:=by
 have key:∀ (y:D) (τ:Ty) (z:den τ),x=some y→dX τ y=some z→(zX (val (.xx τ z)) κ.st).leads (d,zO)→xf c.P (do Pure.pure (.value (← Instr.box t v))) κ d zO:=by
  intro y τ z hy hz h
  rw[wh]at h
  obtain⟨rfl,rfl⟩:=h
  obtain⟨κ',h1,h2,h3,h4,h5⟩:=z6W (t:=t) hI (hx y hy) hz
  refine⟨κ',_,_,?_,.inl rfl,h2,h3,h4,fun _ he=>by cases he; exact h5⟩
  simp[Instr.box,newVar,newRow,h1]
 unfold z0g at h
 split at h
 ·rename_i τ z
  exact key _ τ z rfl (by simp[dX,vW]) h
 ·split at h
  ·split at h
   ·rename_i hz
    exact key _ _ _ rfl hz h
   ·exact absurd h zj
  ·exact absurd h zj
 ·exact absurd h zj
theorem Ii{t:Nat}{dst:Option Nat}{x:Option D}{v:Value}{d:Option D}{zO:St}(hI:Inv κ)(hx:∀ z,x=some z→RD κ z v)
  (h:(zX (Sp c t dst x) κ.st).leads (d,zO)):xf c.P (do Pure.pure (.value (← Instr.box t v))) κ d zO:=by
 unfold Sp at h
 cases hb:zcY c dst with
 | true=>rw[hb]at h; exact EW hI hx h
 | false=>rw[hb]at h; exact SC hI hx h
theorem tA{v:Value}{d:D}(h:sj v=some d):RD κ d v∧d.one=true∧d.uE=false∧(∀ cs,v≠.agg cs):=by
 unfold sj at h
 split at h<;>cases h<;>refine⟨?_,rfl,rfl,fun _=>nofun⟩
 ·exact .int
 ·exact .bool
 ·rename_i s; have:=RD.str (κ:=κ) (s:=s.data.toList); simpa using this
 ·exact .xw
 ·exact .yI
 ·exact .u9
 ·exact .wb
 ·exact .vX
theorem JX{v:Value}{d:D}(h:VH v=some d):RD κ d v∧d.uE=false:=by
 unfold VH at h
 split at h
 ·rename_i cs
  split at h
  ·rename_i l hl
   cases h
   have hlen:l.length=cs.toList.length:=by have:=congrArg List.length (bw hl); simpa using this.symm
   have nS:∀ x∈l,x.one=true:=by
    intro x hx
    have:some x∈cs.toList.map sj:=by rw[bw hl]; exact List.mem_map.2 ⟨x,hx,rfl⟩
    obtain⟨u,_,hu⟩:=List.mem_map.1 this
    exact(tA (κ:=κ) hu).2.1
   have hr:=dT (κ:=κ) (vs:=cs.toList) hl (by simp) (fun i d v hd hv=>by
    simp only[List.getElem?_map,hv,Option.map_some,Option.some.injEq]at hd
    exact(tA hd).1)
   refine⟨?_,rfl⟩
   have:=RD.agg l cs.toList hr.1 nS hr.2
   simpa using this
  ·cases h
 ·exact⟨(tA h).1,(tA (κ:=κ) h).2.2.1⟩
theorem Wi{v:Value}{d:D}(h:sj v=some d):(∀ l,d≠.agg l)∧(∀ T,d≠.dp T)∧∀ b T,d≠.yr b T:=by
 unfold sj at h
 split at h<;>cases h<;>exact⟨nofun,nofun,nofun⟩
theorem Cb{v:Value}{d:D}(h:VH v=some d):d.typed=none:=by
 unfold VH at h
 split at h
 ·rename_i cs
  split at h
  ·rename_i l hl
   cases h
   have hz:=bw hl
   cases l with
   | nil=>rfl
   | cons x r =>
    have:some x∈cs.toList.map sj:=by rw[hz]; simp
    obtain⟨u,_,hu⟩:=List.mem_map.1 this
    obtain⟨_,h1,h2⟩:=Wi hu
    cases x<;>first | rfl | exact absurd rfl (h1 _) | exact absurd rfl (h2 _ _)
  ·cases h
 ·have:=(Wi h).1
  cases d<;>first | rfl | exact absurd rfl (this _)
structure ZD(t:Nat)(d:D)(z:Value):Prop where
 rd:∀ κ:KS,RD κ d z
 gK:d.uE=false
 ty:∀ T,d.typed=some T→t=T
theorem RR{t:Nat}{d:D}{z:Value}(h:VH z=some d):ZD t (Re c t d) z:=by
 have h0:∀ κ:KS,RD κ d z:=fun κ=>(JX h).1
 have h1:d.uE=false:=(JX (κ:=⟨default,fun _=>False,[],[]⟩) h).2
 have h2:=Cb h
 have same:ZD t d z:=⟨h0,h1,fun T e=>by rw[h2]at e; cases e⟩
 unfold Re
 split
 ·rename_i r
  cases hs:z4L c t with
  | false=>exact same
  | true =>
   refine⟨fun κ => ?_,rfl,fun T e=>by cases e; rfl⟩
   cases h0 κ with
   | agg _ vs hl ho hh =>
    have hR:xz κ (.yI::r) vs:=⟨hl,hh⟩
    obtain⟨v,us,rfl,g1,g2⟩:=hR.cons_inv
    have hR2:xz κ (.dp t::r) (v::us):=.cons (by cases g1; exact .dp t) g2
    exact .agg _ _ hR2.1 (fun x hx=>by
     rcases List.mem_cons.1 hx with rfl | hx
     ·rfl
     ·exact ho x (List.mem_cons_of_mem _ hx)) hR2.2
 ·exact same
theorem ig{t:Nat}{d:D}(h:VT c t=some d):∃ i z,c.P.info? t=some i∧i.zero=some z∧ZD t d z:=by
 unfold VT at h
 split at h
 ·rename_i i hi
  split at h
  ·rename_i z hz
   split at h
   ·rename_i d0 F5
    cases h
    exact⟨i,z,hi,hz,RR F5⟩
   ·cases h
  ·cases h
 ·cases h
theorem I6{t:Nat}{d:Option D}{zO:St}(hI:Inv κ)
  (h:(zX (o5 c t) κ.st).leads (d,zO)) :
  xf c.P (do Pure.pure (.value (← Instr.alloc t true (.tuple #[])))) κ d zO:=by
 unfold o5 at h
 split at h
 ·rename_i y hy
  obtain⟨i,z,h1,h2,h3⟩:=ig hy
  simp only[zX,T.leads,Prod.mk.injEq]at h
  obtain⟨rfl,rfl⟩:=h
  obtain⟨κ',g1,g2,g3,g4,g5⟩:=M1 (t:=t) hI (h3.rd κ) h3.gK h3.ty
  refine⟨κ',_,_,?_,.inl rfl,g2,g3,g4,fun _ he=>by cases he; exact g5⟩
  simp[Instr.alloc,zeroValue,typeInfo,h1,h2,newVar,newRow,g1]
 ·exact absurd h zj
end
end Go.AM
namespace Go.AM
set_option linter.unusedSectionVars false
variable [uH]
section
variable {c:Ctx} {κ:KS}
def KS.BH(κ:KS)(b blk:Nat)(cs:Array Value)(x:yp):KS:={ κ with w:=κ.w.setRow blk cs,st:=κ.st.set b x }
def Alike:yp→yp→Prop
 | .var _,.var _=>True
 | .arr v e xs,.arr v' e' xs'=>e=e'∧v≤v'∧(v=v'→xs.length=xs'.length)
 | _,_=>False
theorem nP{b blk n:Nat}{cs:Array Value}{x y:yp}(hI:Inv κ)(hp:κ.ph[b]? = some (some (blk,n)))(hy:κ.st[b]? = some y)(ha:Alike y x):Ext κ (κ.BH b blk cs x):=by
 have qu:b<κ.st.length:=(List.getElem?_eq_some_iff.1 hy).1
 have uv:∀ k,κ.ok k→k≠blk:=fun k hk e=>(hI.apart b blk n hp).2 (e▸hk)
 refine⟨rfl,rfl,rfl,by simp[KS.BH],fun k hk=>⟨hk,setRow_other _ _ _ _ (uv k hk)⟩,fun k hk=>.inl hk,fun _ _ _ h=>.inl h,?_,?_,?_,by simp[KS.BH],?_⟩
 ·intro b' d hd
  refine⟨?_,rfl⟩
  simp only[KS.BH,List.getElem?_set]
  split
  ·rename_i e
   subst e
   rw[hy]at hd; cases hd
   cases x<;>simp[Alike]at ha
   rename_i d'
   exact⟨d',rfl⟩
  ·exact⟨d,hd⟩
 ·intro b' v0 e ri hd
  refine .inr ?_
  simp only[KS.BH,List.getElem?_set]
  split
  ·rename_i e'
   subst e'
   rw[hy]at hd; cases hd
   cases x<;>simp[Alike]at ha
   rename_i v1 e1 zE
   obtain⟨rfl,h1,h2⟩:=ha
   exact⟨v1,zE,rfl,h1,fun h=>⟨trivial,h2 h⟩⟩
  ·exact⟨v0,ri,hd,Nat.le_refl _,fun _=>⟨trivial,rfl⟩⟩
 ·intro b' hd
  simp only[KS.BH,List.getElem?_set]
  split
  ·rename_i e
   subst e
   rw[hy]at hd; cases hd
   simp[Alike]at ha
  ·exact hd
 ·intro k hk hn
  exact setRow_other _ _ _ _ (fun e=>hn b n (e▸hp))
theorem W8{b blk n:Nat}{cs:Array Value}{x y:yp}(hI:Inv κ)(hp:κ.ph[b]? = some (some (blk,n)))(hy:κ.st[b]? = some y)(ha:Alike y x)
  (hx:fP (κ.BH b blk cs x) b x):Inv (κ.BH b blk cs x):=by
 refine⟨by simp[KS.BH,hI.len],?_,?_,hI.inj,?_,hI.gl.mono (nP hI hp hy ha).same⟩
 ·intro k hk; show k<(κ.w.setRow blk cs).heap.size; rw[setRow_size]; exact hI.yi k hk
 ·intro b' mr m h
  obtain⟨h1,h2⟩:=hI.apart b' mr m h
  exact⟨by show mr<(κ.w.setRow blk cs).heap.size; rw[setRow_size]; exact h1,h2⟩
 ·intro b' z hz
  by_cases hb:b=b'
  ·subst hb
   simp only[KS.BH,List.getElem?_set,if_pos]at hz
   split at hz
   ·cases hz; exact hx
   ·cases hz
  ·simp only[KS.BH,List.getElem?_set,if_neg hb]at hz
   refine(hI.blk b' z hz).mono (nP hI hp hy ha) rfl fun mr m h => ?_
   refine setRow_other _ _ _ _ fun e => ?_
   subst e
   exact hb (hI.inj b b' _ n m hp h)
theorem Bu{d d':D}{t:Nat}(h:nV d d'=true)(hd:∀ T,d.typed=some T→t=T):∀ T,d'.typed=some T→t=T:=by
 intro T hT
 unfold nV at h
 rw[hT]at h
 simp only at h
 cases F5:d.typed with
 | none=>rw[F5]at h; cases h
 | some T' =>
  rw[F5]at h
  have e:=Nat.eq_of_beq_eq_true h
  exact(hd T' F5).trans e.symm
theorem pN{t:Nat}{n blk o:Nat}{v:Value}{cs:Array Value}{T:TypeId}(hn:me c t=some n)(hv:v.cells.toList.length=n)(h1:∀ u∈v.cells.toList,u.oneCell'=true)
  (hg:κ.w.heap[blk]? = some (.cells cs T (0,0))) (hle:o+n≤cs.size) :
  (storeVar t ⟨blk,o,none⟩ v).run c.P κ.w=.ok () (κ.w.setRow blk (cs.toList.take o++v.cells.toList++cs.toList.drop (o+n)).toArray):=by
 have hs:v.cells.size=n:=by simpa using hv
 have:=run_storeCells_at c.P blk o T v.cells.toList 0 cs κ.w hg (by simp[hs]; omega) h1
 simp only[Nat.add_zero,hv]at this
 simp[storeVar,run_sizeOf hn,hs,this]
theorem my{l:List D}{vs us:List Value}{x:List D}(h:xz κ l vs)(hx:xz κ x us)(o n:Nat) :
  xz κ (l.take o++x++l.drop (o+n)) (vs.take o++us++vs.drop (o+n)):=((h.take o).append hx).append (h.drop (o+n))
theorem om{cs us:List Value}{o n:Nat}(hu:us.length=n)(ho:o+n≤cs.length)(p:Nat) :
  (cs.take o++us++cs.drop (o+n))[p]? = if p<o then cs[p]? else if p<o+n then us[p-o]? else cs[p]? := by
 have hto:(cs.take o).length=o:=by simp; omega
 by_cases h1:p<o
 ·rw[if_pos h1,List.append_assoc,List.getElem?_append_left (by omega),List.getElem?_take,if_pos h1]
 ·rw[if_neg h1,List.append_assoc,List.getElem?_append_right (by omega),hto]
  by_cases h2:p<o+n
  ·rw[if_pos h2,List.getElem?_append_left (by omega)]
  ·rw[if_neg h2,List.getElem?_append_right (by omega),List.getElem?_drop,hu]
   congr 1; omega
theorem G2{t:Nat}{d x r:D}{off:Nat}(h:Dv c t d off x=some r):∃ n,me c t=some n∧0<n∧(qt x).length=n∧off+n≤(qt d).length ∧
  qt r=(qt d).take off++qt x++(qt d).drop (off+n)∧((∀ y∈qt d,y.one=true)→(∀ y∈qt x,y.one=true)→∀ y∈qt r,y.one=true)∧x.uE=false:=by
 unfold Dv at h
 split at h
 ·cases h
 ·rename_i n hn
  cases hb:Nat.blt 0 n&&Nat.beq n (qt x).length&&Nat.ble (off+n) (qt d).length with
  | false=>rw[hb]at h; cases h
  | true =>
   rw[hb,cond_true]at h
   simp only[Bool.and_eq_true]at hb
   obtain⟨⟨h0,h1⟩,h2⟩:=hb
   have h0':0<n:=Nat.le_of_ble_eq_true h0
   have nG:n=(qt x).length:=Nat.eq_of_beq_eq_true h1
   have h2':=Nat.le_of_ble_eq_true h2
   have Bt:x.uE=false:=by
    cases x with
    | gK l=>simp[qt]at nG; omega
    | _=>rfl
   cases hw:Nat.beq n (qt d).length with
   | true =>
    rw[hw,cond_true]at h
    cases h
    have h3:n=(qt d).length:=Nat.eq_of_beq_eq_true hw
    have h4:off=0:=by omega
    subst h4
    refine⟨n,hn,h0',nG.symm,h2',?_,fun _ h=>h,Bt⟩
    simp[h3]
   | false =>
    rw[hw,cond_false]at h
    cases h
    refine⟨n,hn,h0',nG.symm,h2',rfl,fun hd hx y hy => ?_,Bt⟩
    simp only[qt,List.mem_append]at hy
    rcases hy with(hy | hy) | hy
    ·exact hd y (List.mem_of_mem_take hy)
    ·exact hx y hy
    ·exact hd y (List.mem_of_mem_drop hy)
theorem rO{τ:Ty}{r:D}{x:den τ}{vs:List Value}(h:dX τ r=some x)(hr:xz κ (qt r) vs)(nS:∀ y∈qt r,y.one=true)(ht:r.uE=false):Rc κ.w κ.ok τ x vs:=by
 cases r with
 | zU σ y=>obtain⟨rfl,rfl⟩:=qE h; exact UH _ _ hr
 | agg l =>
  have:=cL (RD.agg l vs hr.1 nS hr.2) h
  obtain⟨cs,h1,h2⟩:=RD.gX this
  have hc:=QM h1.len h1.one
  rw[← h2]at hc
  simp only[Value.cells]at hc
  rw[← hc]at h1
  simpa using h1
 | gK l=>cases ht
 | _ =>
  obtain⟨v,r',rfl,h1,h2⟩:=xz.cons_inv hr
  have e2:=h2.qI
  subst e2
  have h3:=cL h1 h
  obtain⟨cs,h4,h5⟩:=RD.gX h3
  have hag:τ.isAgg=false:=by
   cases hta:τ.isAgg with
   | false=>rfl
   | true=>simp[dX,D.isAgg,hta]at h
  obtain⟨u,rfl⟩:=h4.single hag
  rw[Ko hag]at h5
  rwa [h5]
theorem IC{t:Nat}{a x:Option D}{v u:Value}{d:Option D}{zO:St}(hI:Inv κ)(ha:∀ z,a=some z→RD κ z v)(hx:∀ z,x=some z→RD κ z u)
  (h:(zX (UY c t a x) κ.st).leads (d,zO)):xf c.P (do Instr.storeAt t v u; Pure.pure .skip) κ d zO:=by
 unfold UY at h
 split at h
 ·rename_i b off y
  simp only[zX]at h
  split at h
  ·rename_i d0 hb
   split at h
   ·rename_i r hr
    cases wm:nV d0 r with
    | false=>rw[wm]at h; exact h.elim
    | true =>
    rw[wm,cond_true]at h
    simp only[T.leads,Prod.mk.injEq]at h
    obtain⟨rfl,rfl⟩:=h
    obtain⟨n,hn,h0,Wx,hle,CZ,nS,Bt⟩:=G2 hr
    cases ha _ rfl with
    | ptr _ _ blk m d1 hd hp =>
     obtain⟨mr,m',cs,T,g1,g2,g3,g4,g5⟩:=hI.blk b _ hb
     rw[hp]at g1
     cases g1
     have hy:=hx _ rfl
     have hfy:=jz hy Bt
     have hvl:u.cells.toList.length=n:=by rw[← hfy.1]; exact Wx
     have jm:off+n≤cs.size:=by have:=g4.1; simp at this; omega
     have h1:∀ z∈u.cells.toList,z.oneCell'=true:=by
      intro z hz
      obtain⟨i,hi,rfl⟩:=List.getElem_of_mem hz
      exact(hfy.2 i (hfy.1▸hi) hi).J4 (jx hy _ (List.getElem_mem _))
     have vZ:=pN (c:=c) (κ:=κ) hn hvl h1 g2 jm
     have rv:Alike (.var d0) (.var r):=trivial
     let lz:=(cs.toList.take off++u.cells.toList++cs.toList.drop (off+n)).toArray
     have hex:=nP (cs:=lz) (x:=.var r) hI hp hb rv
     refine⟨κ.BH b blk lz (.var r),.skip,undef,?_,.inr ⟨rfl,rfl⟩,rfl,W8 hI hp hb rv ?_,hex,fun _ he=>by cases he⟩
     ·simp only[Sem.run_bind,Instr.storeAt,Instr.sureAddr,Sem.run_pure,Result.andThen_ok,vZ]; rfl
     ·refine⟨blk,m,lz,T,hp,setRow_heap _ _ _ _ _ _ g2,?_,?_,nS g5.1 (jx hy),Bu wm g5.2⟩
      ·have hc:cs.toList.length=cs.size:=by simp
       simp[lz,hvl,← g3]; omega
      ·rw[CZ]; exact(my g4 hfy off n).mono hex
   ·exact h.elim
  ·exact h.elim
 ·rename_i b qY e idx off y
  simp only[zX]at h
  split at h
  ·rename_i kT e' xs hb
   cases he:decide (e'=e)with
   | false=>rw[he]at h; exact h.elim
   | true =>
    rw[he,cond_true]at h
    have Tc:e'=e:=of_decide_eq_true he
    subst Tc
    obtain⟨⟨rfl,qu⟩,h⟩:=h
    split at h
    ·rename_i r hr
     split at h
     ·rename_i z hz
      simp only[T.leads,Prod.mk.injEq]at h
      obtain⟨rfl,rfl⟩:=h
      obtain⟨n,hn,h0,Wx,hle,CZ,nS,Bt⟩:=G2 hr
      cases ha _ rfl with
      | uC _ _ _ _ _ blk o hold hp =>
       obtain⟨m,p1,rfl⟩:=hp xs hb qu
       obtain⟨jm,⟨XV,_⟩ | ⟨mr,n',cs,T,g1,g2,g3,g4,gr,f,g5⟩⟩:=hI.blk b _ hb
       ·subst XV; cases qu
       ·rw[p1]at g1
        cases g1
        rw[UT qu]at hr CZ hle nS
        have hy:=hx _ rfl
        have hfy:=jz hy Bt
        have hvl:u.cells.toList.length=n:=by rw[← hfy.1]; exact Wx
        obtain⟨k1,k2⟩:=g5 idx qu
        have Dx:=k1.len
        have YL:off+n≤e'.size:=by simpa[qt,kO]using hle
        have zkh:idx*e'.size+e'.size≤xs.length*e'.size:=by rw[← Nat.succ_mul]; exact Nat.mul_le_mul_right _ qu
        have O8:idx*e'.size+off+n≤cs.size:=by omega
        have h1:∀ z∈u.cells.toList,z.oneCell'=true:=by
         intro z hz
         obtain⟨i,hi,rfl⟩:=List.getElem_of_mem hz
         exact(hfy.2 i (hfy.1▸hi) hi).J4 (jx hy _ (List.getElem_mem _))
        have vZ:=pN (c:=c) (κ:=κ) hn hvl h1 g2 O8
        have rv:Alike (.arr qY e' xs) (.arr qY e' (xs.set idx z)):=⟨rfl,Nat.le_refl _,fun _=>by simp⟩
        let lz:=(cs.toList.take (idx*e'.size+off)++u.cells.toList++cs.toList.drop (idx*e'.size+off+n)).toArray
        have hex:=nP (cs:=lz) (x:=.arr qY e' (xs.set idx z)) hI p1 hb rv
        refine⟨κ.BH b blk lz (.arr qY e' (xs.set idx z)),.skip,undef,?_,.inr ⟨rfl,rfl⟩,rfl,W8 hI p1 hb rv ?_,hex,fun _ he=>by cases he⟩
        ·simp only[Sem.run_bind,Instr.storeAt,Instr.sureAddr,Sem.run_pure,Result.andThen_ok,vZ]; rfl
        ·have hlen:lz.size=cs.size:=by simp[lz,hvl]; omega
         refine⟨jm,.inr ⟨blk,m,lz,T,p1,setRow_heap _ _ _ _ _ _ g2,by rw[hlen]; exact g3,by simpa using g4,?_⟩⟩
         -- cells of the element that is written
         let fi:=(f idx).take off++u.cells.toList++(f idx).drop (off+n)
         have zfU:xz κ (qt r) fi:=by
          rw[CZ]
          exact my (sa k1) hfy off n
         have hrt:r.uE=false:=by
          cases r with
          | gK l =>
           have h6:=congrArg List.length CZ
           rw[List.length_append,List.length_append,Wx]at h6
           have h7:(qt (D.gK l)).length=0:=rfl
           omega
          | _=>rfl
         have hrc:=rO hz zfU (nS (dK _ _) (jx hy)) hrt
         have Yy:∀ p,lz[p]? = if p<idx*e'.size+off then cs[p]? else if p<idx*e'.size+off+n then u.cells.toList[p-(idx*e'.size+off)]? else cs[p]? := by
          intro p
          have:=om (cs:=cs.toList) (us:=u.cells.toList) hvl (by simpa using O8) p
          simpa only[lz,List.getElem?_toArray,Array.getElem?_toList]using this
         have zfb:∀ j,fi[j]? = if j<off then(f idx)[j]? else if j<off+n then u.cells.toList[j-off]? else(f idx)[j]? := fun j=>om hvl (by omega) j
         refine⟨gr,fun i=>if i=idx then fi else f i,fun i hi => ?_⟩
         rw[List.length_set]at hi
         by_cases hii:i=idx
         ·subst hii
          simp only[if_true,List.getElem_set_self]
          refine⟨hrc.mono hex.same,fun j w hj => ?_⟩
          rw[zfb]at hj
          rw[Yy]
          split at hj
          ·rw[if_pos (by omega)]; exact k2 j w hj
          ·split at hj
           ·rw[if_neg (by omega),if_pos (by omega)]; rw[← hj]; congr 1; omega
           ·rw[if_neg (by omega),if_neg (by omega)]; exact k2 j w hj
         ·simp only[if_neg hii]
          obtain⟨q1,q2⟩:=g5 i hi
          refine⟨by rw[List.getElem_set_ne (fun e=>hii e.symm)]; exact q1.mono hex.same,fun j w hj => ?_⟩
          have MV:j<e'.size:=by rw[← q1.len]; exact(List.getElem?_eq_some_iff.1 hj).1
          rw[Yy]
          rcases Nat.lt_or_gt_of_ne hii with Uj | hgt'
          ·have:i*e'.size+e'.size≤idx*e'.size:=by rw[← Nat.succ_mul]; exact Nat.mul_le_mul_right _ Uj
           rw[if_pos (by omega)]; exact q2 j w hj
          ·have:idx*e'.size+e'.size≤i*e'.size:=by rw[← Nat.succ_mul]; exact Nat.mul_le_mul_right _ hgt'
           rw[if_neg (by omega),if_neg (by omega)]; exact q2 j w hj
     ·exact h.elim
    ·exact h.elim
  ·exact h.elim
 ·exact absurd h zj
end
end Go.AM
namespace Go.AM
set_option linter.unusedSectionVars false
variable [uH]
section
variable {c:Ctx} {κ:KS}
theorem VM:∀ (vs:List Value) (cells:Array Value) (off k:Nat),off+k+vs.length≤cells.size →
  ((vs.zipIdx k).foldl (fun(cs:Array Value) (p:Value×Nat)=>cs.setIfInBounds (off+p.2) p.1) cells).toList=cells.toList.take (off+k)++vs++cells.toList.drop (off+k+vs.length)
 | [],cells,off,k,_=>by simp
 | v::vs,cells,off,k,h=>by
  simp only[List.length_cons]at h
  simp only[List.zipIdx_cons,List.foldl_cons]
  rw[VM vs _ off (k+1) (by simp; omega)]
  have qu:off+k<cells.toList.length:=by simp; omega
  simp only[Array.toList_setIfInBounds,List.length_cons]
  have e1:(cells.toList.set (off+k) v).take (off+(k+1))=cells.toList.take (off+k)++[v]:=by
   rw[show off+(k+1)=off+k+1 by omega,List.take_succ_eq_append_getElem (by simpa using qu)]
   rw[List.take_set_of_le (Nat.le_refl _)]
   simp
  have e2:(cells.toList.set (off+k) v).drop (off+(k+1)+vs.length)=cells.toList.drop (off+k+(vs.length+1)):=by
   rw[List.drop_set_of_lt (by omega)]
   congr 1; omega
  rw[e1,e2]
  simp
theorem Dn{place:Nat→Option (Nat×Nat)}{cells:Array Value}{i off size:Nat}{v:Value}{rest:List (Nat×Value)}(hp:place i=some (off,size))(hs:v.cells.toList.length=size)(hle:off+size≤cells.size) :
  Instr.fill place cells ((i,v)::rest)=Instr.fill place (cells.toList.take off++v.cells.toList++cells.toList.drop (off+size)).toArray rest:=by
 have hs':v.cells.size=size:=by simpa using hs
 have hf:=VM v.cells.toList cells off 0 (by simp[hs']; omega)
 simp only[Nat.add_zero,hs]at hf
 conv=>lhs; unfold Instr.fill
 simp only[hp]
 rw[if_neg (by simp[hs']; omega)]
 congr 1
 apply Array.ext'
 rw[← Array.foldl_toList,Array.toList_zipIdx]
 exact hf
theorem GI{e:Ty}{x:den e}{v:Value}(h:RD κ (.zU e x) v):Rc κ.w κ.ok e x v.cells.toList:=by
 obtain⟨cs,h1,rfl⟩:=RD.gX h
 rw[QM h1.len h1.one]; exact h1
theorem G5{e:Ty}{F:Operand→Option D}{G:Operand→Value}(hF:∀ x d,F x=some d→RD κ d (G x)):∀ (L:List (Nat×Operand)) (k:Nat) (cells:Array Value) (l:List (den e)),
  GC e k (L.map fun p=>(p.1,F p.2))=some l→(k+L.length)*e.size≤cells.size →
  ∃ fS,Instr.fill (fun i=>some (i*e.size,e.size)) cells (L.map fun p=>(p.1,G p.2))=some fS∧fS.size=cells.size∧(∀ p,p<k*e.size→fS[p]? = cells[p]?)∧l.length=L.length ∧
   ∃ f:Nat→List Value,∀ i (hi:i<l.length),Rc κ.w κ.ok e l[i] (f i)∧∀ j v,(f i)[j]? = some v→fS[(k+i)*e.size+j]? = some v
 | [],k,cells,l,h,_=>by
  simp only[List.map_nil,GC,Option.some.injEq]at h
  subst h
  exact⟨cells,rfl,rfl,fun _ _=>rfl,rfl,fun _=>[],fun i hi=>absurd hi (Nat.not_lt_zero i)⟩
 | (i,x)::L,k,cells,l,h,hle=>by
  simp only[List.map_cons]at h
  cases hx:F x with
  | none=>rw[hx]at h; simp[GC]at h
  | some d =>
   rw[hx]at h
   simp only[GC]at h
   cases hb:Nat.beq k i with
   | false=>rw[hb]at h; cases h
   | true =>
    have hik:k=i:=Nat.eq_of_beq_eq_true hb
    subst hik
    rw[hb,cond_true]at h
    split at h
    ·rename_i y l' hy M5
     cases h
     have hr:=GI (cL (hF x d hx) hy)
     have hlen:=hr.len
     simp only[List.length_cons]at hle
     have X6:(k+(L.length+1))*e.size=k*e.size+e.size+L.length*e.size:=by rw[Nat.add_mul,Nat.add_mul]; omega
     have cn:k*e.size+e.size≤cells.size:=by omega
     let c1:=(cells.toList.take (k*e.size)++(G x).cells.toList++cells.toList.drop (k*e.size+e.size)).toArray
     have FI:c1.size=cells.size:=by simp only[c1,List.size_toArray,List.length_append,List.length_take,List.length_drop,hlen,Array.length_toList]; omega
     have hg:∀ p,c1[p]? = if p<k*e.size then cells[p]? else if p<k*e.size+e.size then(G x).cells.toList[p-k*e.size]? else cells[p]? := by
      intro p
      have:=om (cs:=cells.toList) (us:=(G x).cells.toList) hlen (by simpa using cn) p
      simpa only[c1,List.getElem?_toArray,Array.getElem?_toList]using this
     obtain⟨fS,h1,h2,h3,h4,f,h5⟩:=G5 hF L (k+1) c1 l' M5 (by rw[FI,show k+1+L.length=k+(L.length+1) by omega]; exact hle)
     refine⟨fS,?_,h2.trans FI,?_,by simp[h4],fun i=>match i with | 0=>(G x).cells.toList | i+1=>f i,?_⟩
     ·simp only[List.map_cons]
      rw[Dn rfl hlen cn]
      exact h1
     ·intro p hp
      rw[h3 p (by rw[Nat.add_mul]; omega),hg,if_pos hp]
     ·intro i hi
      cases i with
      | zero =>
       refine⟨hr,fun j v hj => ?_⟩
       have MV:j<e.size:=by rw[← hlen]; exact(List.getElem?_eq_some_iff.1 hj).1
       have gk:(k+1)*e.size=k*e.size+e.size:=by rw[Nat.add_mul]; omega
       rw[Nat.add_zero,h3 _ (by omega),hg,if_neg (by omega),if_pos (by omega),Nat.add_sub_cancel_left]
       exact hj
      | succ i =>
       have:=h5 i (by simpa using hi)
       rw[show k+1+i=k+(i+1) by omega]at this
       exact this
    ·cases h
theorem rE{t n:Nat}(h:oY c t=some n):∃ i,c.P.info? t=some i∧i.bytes=n:=by
 unfold oY at h
 cases hi:c.P.info? t with
 | none=>simp[hi]at h
 | some i=>exact⟨i,rfl,by simpa[hi]using h⟩
theorem lZ{et:Nat}{e:Ty}{z:den e}(h:zeroOf c et e=some z):∃ i v,c.P.info? et=some i∧i.zero=some v∧Rc κ.w κ.ok e z v.cells.toList:=by
 unfold zeroOf at h
 split at h
 ·rename_i d hd
  obtain⟨i,v,h1,h2,h3⟩:=ig hd
  exact⟨i,v,h1,h2,GI (cL (h3.rd κ) h)⟩
 ·cases h
theorem Ux{t n:Nat}{L:List (Nat×Operand)}{F:Operand→Option D}{G:Operand→Value}{d:Option D}{zO:St}(hI:Inv κ)(hF:∀ x d,F x=some d→RD κ d (G x))
  (h:(zX (nR c t n (L.map fun p=>(p.1,F p.2))) κ.st).leads (d,zO)) :
  xf c.P (do Pure.pure (.value (← Instr.buildSlice t n (L.map fun p=>(p.1,G p.2)).toArray))) κ d zO:=by
 unfold nR at h
 split at h
 ·exact absurd h zj
 ·rename_i et het
  have hu:=ux het
  split at h
  ·rename_i e MA
   cases hb:kW c et e&&Nat.beq n (L.map fun p=>(p.1,F p.2)).length&&Nat.ble n 1000&&Nat.ble e.size 100&&(zeroOf c et e).isSome with
   | false=>rw[hb]at h; exact absurd h zj
   | true =>
    rw[hb,cond_true]at h
    simp only[Bool.and_eq_true]at hb
    obtain⟨⟨⟨⟨wm,hn⟩,h1⟩,h2⟩,h3⟩:=hb
    have hn':n=L.length:=by have:=Nat.eq_of_beq_eq_true hn; simpa using this
    have nG:=Nat.le_of_ble_eq_true h1
    have h2':=Nat.le_of_ble_eq_true h2
    obtain⟨hs,_⟩:=vz wm
    obtain⟨z,hz⟩:=Option.isSome_iff_exists.1 h3
    obtain⟨i,zv,oz,QJ,hi3⟩:=lZ (κ:=κ) hz
    split at h
    ·rename_i l hl
     cases Ee:Nat.beq n 0&&Nat.blt 0 e.size with
     | true =>
     rw[Ee,cond_true]at h
     simp only[Bool.and_eq_true]at Ee
     obtain⟨Ee,jm⟩:=Ee
     have O8:0<e.size:=Nat.le_of_ble_eq_true jm
     have Sq:=Nat.eq_of_beq_eq_true Ee
     have hL:L=[]:=List.eq_nil_of_length_eq_zero (hn'.symm.trans Sq)
     subst hL
     subst Sq
     simp only[zX,T.leads,Prod.mk.injEq]at h
     obtain⟨rfl,rfl⟩:=h
     have g:=fV.alloc κ.w (.cells #[] et)
     have hex:=Ze (n:=0) (x:=.arr 0 e ([]:List (den e))) hI g
     have vZ:(Instr.buildSlice t 0 (([]:List (Nat×Operand)).map fun p=>(p.1,G p.2)).toArray).run c.P κ.w=.ok (.slice (some ⟨κ.w.heap.size,0,none⟩) 0 0) (κ.w.alloc (.cells #[] et)):=by
      simp[Instr.buildSlice,Sem.run_bind,run_underlying hu,Result.andThen_ok,run_sizeOf hs,Instr.fill,newRow]
      have e0:∀ g:Nat→Value,(Array.range 0).map g = #[]:=fun g=>by simp
      rw[e0]
     refine⟨κ.add _ 0 (.arr 0 e []),_,.slice (some ⟨κ.w.heap.size,0,none⟩) 0 0,by simp only[Sem.run_bind,vZ,Result.andThen_ok]; rfl,.inl rfl,rfl,UZ hI g ?_,hex,?_⟩
     ·exact⟨O8,.inr ⟨κ.w.heap.size,0,#[],et,se hI,g.new,rfl,by simp,Xj wm,fun _=>[],fun i hi=>absurd hi (Nat.not_lt_zero i)⟩⟩
     ·intro d' yZ
      cases yZ
      refine .ms _ 0 e 0 0 0 _ (.inr ⟨0,e,_,Qj,Nat.le_refl _⟩) (by omega) nofun (fun p hp=>by cases hp; rfl) fun xs VN => ?_
      rw[Qj]at VN
      cases VN
      exact⟨by simp,.inr ⟨κ.w.heap.size,0,0,0,se hI,rfl,by omega,by simp,.inl rfl⟩⟩
     | false =>
     rw[Ee,cond_false,wh]at h
     obtain⟨rfl,rfl⟩:=h
     subst hn'
     have hle:L.length*e.size≤100000:=Nat.le_trans (Nat.mul_le_mul nG h2') (by decide)
     have Pc:zv.cells.size=e.size:=by have:=hi3.len; simpa using this
     let cells:Array Value:=(Array.range (L.length*e.size)).map ((if L.length*e.size=0 then #[]else zv.cells)[· % (if L.length*e.size=0 then #[]else zv.cells).size]!)
     have Kw:cells.size=L.length*e.size:=by simp[cells]
     obtain⟨fS,g1,g2,_,g4,f,g5⟩:=G5 hF L 0 cells l hl (by rw[Kw]; simp)
     have g:=fV.alloc κ.w (.cells fS et)
     have hex:=UU hI g
     refine⟨κ.zU _,_,.slice (some ⟨κ.w.heap.size,0,none⟩) L.length L.length,?_,.inl rfl,rfl,gX hI g,hex,?_⟩
     ·have BZ:Instr.fill (fun i=>some (i*e.size,e.size)) cells (L.map fun p=>(p.1,G p.2))=some fS:=g1
      simp only[cells]at BZ
      simp only[Instr.buildSlice,Sem.run_bind,run_underlying hu,Result.andThen_ok,run_sizeOf hs,gt_iff_lt,if_neg (show ¬ 2 ^ 24<L.length*e.size by omega)]
      by_cases h0:L.length*e.size=0
      ·simp only[if_pos h0]at BZ ⊢
       simp only[Sem.run_bind,Sem.run_pure,Result.andThen_ok,BZ]
       simp[newRow,KS.zU]
      ·simp only[if_neg h0]at BZ ⊢
       simp only[Sem.run_bind,Sem.run_pure,Result.andThen_ok,zeroValue,typeInfo,run_program,oz,QJ,BZ]
       simp[newRow,KS.zU]
     ·intro d' yZ
      cases yZ
      have cn:∀ i,i<l.length→∀ j v,(f i)[j]? = some v→(κ.zU (κ.w.alloc (.cells fS et))).w.cell? ⟨κ.w.heap.size,0+i*e.size+j,none⟩=some v:=by
       intro i hi j v hj
       have:=(g5 i hi).2 j v hj
       simp only[Nat.zero_add]at this ⊢
       rw[tE (κ:=κ.zU (κ.w.alloc (.cells fS et))) g.new]
       exact this
      rw[← g4]
      refine .tight e l _ κ.w.heap.size 0 f ?_ (.inr rfl) (fun i hi=>(g5 i hi).1.mono hex.same) cn
      intro uv XV
      subst XV
      simp at g4
      simp[← g4]at uv
    ·exact absurd h zj
  ·exact absurd h zj
end
end Go.AM
namespace Go.AM
set_option linter.unusedSectionVars false
variable [uH]
section
variable {c:Ctx} {κ:KS}
theorem Nc{t:Nat}{x y:Option D}{v u:Value}{d:Option D}{zO:St}(hI:Inv κ)(hx:∀ z,x=some z→RD κ z v)(hy:∀ z,y=some z→RD κ z u)
  (h:(zX (FO c t x y) κ.st).leads (d,zO)):xf c.P (do Pure.pure (.value (← Instr.makeSlice t v u))) κ d zO:=by
 unfold FO at h
 split at h
 ·rename_i et k n k' m het hn hm
  have hu:=ux het
  have:=uu hn hx
  subst this
  have:=uu hm hy
  subst this
  split at h
  ·rename_i e bytes MA Eg
   split at h
   ·rename_i z hz
    cases hb:kW c et e&&Nat.blt 0 e.size with
    | false=>rw[hb]at h; exact absurd h zj
    | true =>
     rw[hb,cond_true]at h
     simp only[Bool.and_eq_true]at hb
     obtain⟨wm,jm⟩:=hb
     have O8:0<e.size:=Nat.le_of_ble_eq_true jm
     obtain⟨hs,_⟩:=vz wm
     simp only[zX,T.leads,Prod.mk.injEq]at h
     obtain⟨⟨h0,h1,h2,h3⟩,rfl,rfl⟩:=h
     obtain⟨i,zv,oz,QJ,hi3⟩:=lZ (κ:=κ) hz
     obtain⟨ib,z9D,zeI⟩:=rE Eg
     obtain⟨i',F2,zju⟩:=iT hs
     rw[oz]at z9D F2
     cases z9D
     cases F2
     have Pc:zv.cells.size=e.size:=by have:=hi3.len; simpa using this
     let N:=m.toNat*e.size
     let cells:Array Value:=(Array.range N).map (zv.cells[· % zv.cells.size]!)
     have Kw:cells.size=N:=by simp[cells]
     have vZ:(Instr.makeSlice t (.int k n) (.int k' m)).run c.P κ.w=.ok (.slice (some ⟨κ.w.heap.size,0,none⟩) n.toNat m.toNat) (κ.w.alloc (.cells cells et)):=by
      have w1:IntKind.i64.wrap n=n:=IntWalk.i64_in _ (by omega)
      have w2:IntKind.i64.wrap m=m:=IntWalk.i64_in _ (by omega)
      have hmb:¬ ((2:Int) ^ 48<bytes*m):=by
       have e1:(m*bytes:Int)=bytes*m:=Int.mul_comm _ _
       omega
      have ai:∀ k n w,(Go.asInt (.int k n)).run c.P w=.ok n w:=fun k n w=>by simp[Go.asInt,asIntOf]
      have hm0:¬ (m<0):=by omega
      have Sq:¬ (n<0):=by omega
      have N3:¬ (m<n):=by omega
      simp only[Instr.makeSlice,Sem.run_bind,run_underlying hu,Result.andThen_ok,ai,typeInfo,run_program,oz,zeI,w1,w2,Sem.run_pure,gt_iff_lt,hm0,Sq,N3,hmb,decide_false,Bool.or_self,Bool.false_eq_true,if_false,run_askRoom,run_sizeOf hs]
      by_cases Ee:m.toNat*e.size=0
      ·have hce:cells = #[]:=Array.eq_empty_of_size_eq_zero (by rw[Kw]; exact Ee)
       have e2:∀ g:Nat→Value,(Array.range (m.toNat*e.size)).map g = #[]:=fun g=>by rw[Ee]; simp
       simp only[if_pos Ee,Sem.run_bind,Sem.run_pure,Result.andThen_ok,newRow,run_newObj,e2]
       rw[hce]
       rfl
      ·simp only[if_neg Ee,Sem.run_bind,Sem.run_pure,Result.andThen_ok,newRow,run_newObj,zeroValue,typeInfo,run_program,oz,QJ]
       rfl
     have g:=fV.alloc κ.w (.cells cells et)
     have hex:=Ze (n:=N) (x:=.arr n.toNat e (List.replicate n.toNat z)) hI g
     refine⟨κ.add _ N (.arr n.toNat e (List.replicate n.toNat z)),_,.slice (some ⟨κ.w.heap.size,0,none⟩) n.toNat m.toNat,by simp only[Sem.run_bind,vZ,Result.andThen_ok]; rfl,.inl rfl,rfl,UZ hI g ?_,hex,?_⟩
     ·refine⟨O8,.inr ⟨κ.w.heap.size,N,cells,et,se hI,g.new,Kw,?_,Xj wm,fun _=>zv.cells.toList,fun i hi => ?_⟩⟩
      ·rw[List.length_replicate]; exact Nat.mul_le_mul_right _ (by omega)
      ·rw[List.length_replicate]at hi
       refine⟨by rw[List.getElem_replicate]; exact hi3.mono hex.same,fun j w hj => ?_⟩
       have MV:j<e.size:=by rw[← hi3.len]; exact(List.getElem?_eq_some_iff.1 hj).1
       have qu:i*e.size+j<N:=by
        have:i*e.size+e.size≤N:=by rw[← Nat.succ_mul]; exact Nat.mul_le_mul_right _ (by omega)
        omega
       have z1V:(i*e.size+j) % e.size=j:=by rw[Nat.mul_comm,Nat.mul_add_mod,Nat.mod_eq_of_lt MV]
       simp only[cells,Array.getElem?_map,Array.getElem?_range,if_pos qu,Option.map_some,Pc,z1V]
       have hj':zv.cells[j]? = some w:=by simpa using hj
       simp[getElem!_def,hj']
     ·intro d' yZ
      cases yZ
      refine .ms _ n.toNat e 0 n.toNat m.toNat _ (.inr ⟨n.toNat,e,_,Qj,Nat.le_refl _⟩) (by omega) nofun (fun p hp=>by cases hp; rfl) fun xs VN => ?_
      rw[Qj]at VN
      cases VN
      refine⟨by simp,.inr ⟨κ.w.heap.size,N,0,m.toNat,se hI,rfl,by omega,by simp[N],.inr (by simp)⟩⟩
   ·exact absurd h zj
  ·exact absurd h zj
 ·exact absurd h zj
end
end Go.AM
namespace Go.AM
set_option linter.unusedSectionVars false
variable [uH]
section
variable {c:Ctx} {κ:KS}
def yl(f:Nat→List Value):Nat→List Value
 | 0=>[]
 | n+1=>yl f n++f n
theorem uN{f:Nat→List Value}{s:Nat}:∀ {n:Nat},(∀ i,i<n→(f i).length=s)→(yl f n).length=n*s
 | 0,_=>by simp[yl]
 | n+1,h=>by rw[yl,List.length_append,uN (fun i hi=>h i (by omega)),h n (by omega),Nat.add_mul]; omega
theorem tT{f:Nat→List Value}{s:Nat}:∀ {n:Nat},(∀ i,i<n→(f i).length=s)→∀ i j,i<n→j<s→(yl f n)[i*s+j]? = (f i)[j]?
 | 0,_,i,_,hi,_=>absurd hi (Nat.not_lt_zero i)
 | n+1,h,i,j,hi,hj=>by
  have hl:=uN (f:=f) (n:=n) (fun i hi=>h i (by omega))
  rw[yl]
  by_cases XR:i<n
  ·have:i*s+s≤n*s:=by rw[← Nat.succ_mul]; exact Nat.mul_le_mul_right _ XR
   rw[List.getElem?_append_left (by omega)]
   exact tT (fun i hi=>h i (by omega)) i j XR hj
  ·have:i=n:=by omega
   subst this
   rw[List.getElem?_append_right (by omega)]
   congr 1; omega
theorem GR{f:Nat→List Value}:∀ {n:Nat},(∀ i,i<n→∀ v∈f i,v.oneCell'=true)→∀ v∈yl f n,v.oneCell'=true
 | 0,_,v,hv=>by simp[yl]at hv
 | n+1,h,v,hv=>by
  rw[yl,List.mem_append]at hv
  rcases hv with hv | hv
  ·exact GR (fun i hi=>h i (by omega)) v hv
  ·exact h n (by omega) v hv
theorem Cq{f:Nat→List Value}{s:Nat}{n p:Nat}{v:Value}(hs:0<s)(h:∀ i,i<n→(f i).length=s)(hp:(yl f n)[p]? = some v):∃ i j,i<n∧j<s∧p=i*s+j∧(f i)[j]? = some v:=by
 have qu:=(List.getElem?_eq_some_iff.1 hp).1
 rw[uN h]at qu
 have hi:p / s<n:=(Nat.div_lt_iff_lt_mul hs).2 qu
 have hj:=Nat.mod_lt p hs
 have he:p / s*s+p % s=p:=Nat.div_add_mod' p s
 refine⟨p / s,p % s,hi,hj,he.symm,?_⟩
 rw[← tT h _ _ hi hj,he]; exact hp
def P9(κ:KS):Nat→Prop:=fun k=>κ.ok k∨∃ b n:Nat,κ.ph[b]? = some (some (k,n))
structure Src(κ:KS)(e:Ty)(ys:List (den e))(v:Value):Prop where
 ex:∃ (a:Option Addr) (cap:Nat) (f:Nat→List Value),v=.slice a ys.length cap∧ys.length≤cap∧(a=none→ys=[]∧cap=0)∧(∀ i (hi:i<ys.length),Rc κ.w κ.ok e ys[i] (f i)) ∧
  ∀ p,a=some p→(ys=[]∧cap=0)∨(p.spot=none∧P9 κ p.block∧∀ i,i<ys.length→∀ j u,(f i)[j]? = some u→κ.w.cell? ⟨p.block,p.off+i*e.size+j,none⟩=some u)
theorem Lw{e:Ty}{ys:List (den e)}{v:Value}(h:RD κ (.zU (.sl e) ys) v):Src κ e ys v:=by
 rcases(h.wO rfl).og with⟨rfl,a0,he⟩ | ⟨blk,off,cap,f,he,wm,wH,h1,h2⟩
 ·cases he; exact⟨⟨a0,0,fun _=>[],rfl,Nat.le_refl _,fun _=>⟨rfl,rfl⟩,fun i hi=>absurd hi (Nat.not_lt_zero i),fun _ _=>.inl ⟨rfl,rfl⟩⟩⟩
 ·cases he; exact⟨⟨some ⟨blk,off,none⟩,cap,f,rfl,wH,nofun,h1,fun p hp=>by cases hp; exact .inr ⟨rfl,.inl wm,h2⟩⟩⟩
theorem tI{e:Ty}{ys:List (den e)}{ne:Bool}{v:Value}(h:RD κ (.tight e ys ne) v):Src κ e ys v:=by
 cases h with
 | xJ _ a0=>exact⟨⟨a0,0,fun _=>[],rfl,Nat.le_refl _,fun _=>⟨rfl,rfl⟩,fun i hi=>absurd hi (Nat.not_lt_zero i),fun _ _=>.inl ⟨rfl,rfl⟩⟩⟩
 | tight _ _ _ blk off f uv wm h1 h2=>exact⟨⟨some ⟨blk,off,none⟩,_,f,rfl,Nat.le_refl _,nofun,h1,fun p hp=>by cases hp; exact .inr ⟨rfl,.inl wm,h2⟩⟩⟩
theorem UO{e:Ty}{v:Value}(h:RD κ .xw v):Src κ e [] v:=by
 cases h; exact⟨⟨none,0,fun _=>[],rfl,Nat.le_refl _,fun _=>⟨rfl,rfl⟩,fun i hi=>absurd hi (Nat.not_lt_zero i),nofun⟩⟩
theorem F6{b qY off len:Nat}{e:Ty}{xs:List (den e)}{v:Value}(hI:Inv κ)(h:RD κ (.ms b qY e off len) v)(hb:κ.st[b]? = some (.arr qY e xs)):Src κ e ((xs.take (off+len)).drop off) v∧off+len≤xs.length:=by
 cases h with
 | ms _ _ _ _ _ cap a hold wH ha Z1 hm =>
  obtain⟨hle,hm⟩:=hm xs hb
  have hl:((xs.take (off+len)).drop off).length=len:=by simp; omega
  have hg:∀ i (hi:i<((xs.take (off+len)).drop off).length),∃ h:off+i<xs.length,((xs.take (off+len)).drop off)[i]=xs[off+i]:=fun i hi=>⟨by omega,by simp[List.getElem_drop,List.getElem_take]⟩
  refine⟨?_,hle⟩
  rcases hm with⟨rfl,rfl,hv,hp⟩ | ⟨blk,n,o,Uy,h3,h4,h5,h6,h7⟩
  ·cases hv
   have:(xs.take (0+0)).drop 0=[]:=by simp
   rw[this]
   exact⟨⟨none,0,fun _=>[],rfl,Nat.le_refl _,fun _=>⟨rfl,rfl⟩,fun i hi=>absurd hi (Nat.not_lt_zero i),nofun⟩⟩
  ·cases h4
   obtain⟨jm,⟨XV,_⟩ | ⟨mr,n',cs,T,g1,g2,g3,g4,gr,f,g5⟩⟩:=hI.blk b _ hb
   ·subst XV
    have e0:off=0:=by simp at hle; omega
    have e1:len=0:=by simp at hle; omega
    subst e0 e1
    refine⟨⟨some ⟨blk,o,none⟩,cap,fun _=>[],rfl,by simp,nofun,fun i hi=>absurd hi (by simp),fun p hp=>by cases hp; exact .inr ⟨rfl,.inr ⟨b,n,h3⟩,fun i hi=>absurd hi (by simp)⟩⟩⟩
   ·rw[h3]at g1
    cases g1
    refine⟨⟨some ⟨blk,o,none⟩,cap,fun i=>f (off+i),by rw[hl],by rw[hl]; exact wH,nofun,fun i hi => ?_,fun p hp => ?_⟩⟩
    ·obtain⟨k1,k2⟩:=hg i hi
     rw[k2]; exact(g5 _ k1).1
    ·cases hp
     refine .inr ⟨rfl,.inr ⟨b,n,h3⟩,fun i hi j u hj => ?_⟩
     obtain⟨k1,_⟩:=hg i hi
     have:=(g5 _ k1).2 j u hj
     rw[tE g2]
     rcases h7 with h7 | h7
     ·omega
     ·rw[h7,← Nat.add_mul]; exact this
theorem WW{e:Ty}{ys:List (den e)}{v:Value}(h:Src κ e ys v)(jm:0<e.size):∃ (news:List Value) (f:Nat→List Value),news=yl f ys.length∧(∀ i (hi:i<ys.length),Rc κ.w κ.ok e ys[i] (f i)) ∧
  (∀ P,(Builtin.lenOf v).run P κ.w=.ok ys.length κ.w)∧(∀ P,(Builtin.firstCells e.size ys.length v).run P κ.w=.ok news.toArray κ.w)∧(∀ P,(Builtin.firstCells e.size ys.length v).run P κ.w.drew=.ok news.toArray κ.w.drew):=by
 obtain⟨a,cap,f,rfl,_,hn,h1,h2⟩:=h.ex
 have hf:∀ i,i<ys.length→(f i).length=e.size:=fun i hi=>(h1 i hi).len
 refine⟨yl f ys.length,f,rfl,h1,fun P=>rfl,fun P => ?_,fun P => ?_⟩
 all_goals
  cases a with
  | none=>have:=(hn rfl).1; subst this; simp[Builtin.firstCells,yl]
  | some p =>
   rcases h2 p rfl with⟨rfl,_⟩ | ⟨hp,_,hc⟩
   ·simp[Builtin.firstCells,yl,loadCells,loadCellsFrom]
   obtain⟨blk,o,sp⟩:=p
   simp only at hp
   subst hp
   refine run_firstCells_some (P:=P) _ e.size ys.length ⟨blk,o,none⟩ ys.length cap (yl f ys.length) (uN hf) fun j u hj => ?_
   obtain⟨i,k,hi,hk,rfl,hu⟩:=Cq jm hf hj
   rw[vB]
   try rw[World.cell?_drew]
   have:=hc i hi k u hu
   rwa [Nat.add_assoc]at this
structure Cel(κ:KS)(e:Ty)(ys:List (den e))(v:Value):Prop where
 ex:∃ (news:List Value) (f:Nat→List Value),news=yl f ys.length∧(∀ i (hi:i<ys.length),Rc κ.w κ.ok e ys[i] (f i)) ∧
  (∀ P,(Builtin.lenOf v).run P κ.w=.ok ys.length κ.w)∧(∀ P,(Builtin.firstCells e.size ys.length v).run P κ.w=.ok news.toArray κ.w)∧(∀ P,(Builtin.firstCells e.size ys.length v).run P κ.w.drew=.ok news.toArray κ.w.drew)
theorem z1n{e:Ty}{ys:List (den e)}{v:Value}(h:Src κ e ys v)(jm:0<e.size):Cel κ e ys v:=⟨WW h jm⟩
def z0m(c:Ctx)(t2:TypeId):Prop:=(∃ e,c.P.underlying t2=some (.slice e))∨c.P.underlying t2=some .string
section run
variable {t t2 e:TypeId} {i:TypeInfo} {z:Value} {sLen sCap n:Nat} {base:Option Addr} {x:Value} {news olds:List Value} {ty:TypeId}
theorem run_append_fits(ht:c.P.underlying t=some (.slice e))(Ny:z0m c t2)(hi:c.P.info? e=some i)(hlen:∀ P,(Builtin.lenOf x).run P κ.w=.ok n κ.w)(hf:∀ P,(Builtin.firstCells i.size n x).run P κ.w=.ok news.toArray κ.w)
  (pW:sLen+n≤sCap) {w':World} (xR:(match base with | some a=>storeCells (a.add (sLen*i.size)) news | none=>pure ()).run c.P κ.w=.ok () w') :
  (Builtin.append_ #[t,t2] ty #[.slice base sLen sCap,x]).run c.P κ.w=.ok (.slice base (sLen+n) sCap) w':=by
 rcases Ny with⟨e2,Ny⟩ | Ny
 all_goals cases base with
 | none=>simp at xR; subst xR; simp[Builtin.append_,run_underlying ht,run_underlying Ny,sizeOf,typeInfo,hi,hlen,pW,hf]
 | some a=>simp only at xR; simp[Builtin.append_,run_underlying ht,run_underlying Ny,sizeOf,typeInfo,hi,hlen,pW,hf,xR]
theorem sV(ht:c.P.underlying t=some (.slice e))(Ny:z0m c t2)(hi:c.P.info? e=some i)(hz:i.zero=some z)(hlen:∀ P,(Builtin.lenOf x).run P κ.w=.ok n κ.w)(hf:∀ P,(Builtin.firstCells i.size n x).run P κ.w.drew=.ok news.toArray κ.w.drew)
  (ho:∀ P,(Builtin.firstCells i.size sLen (.slice base sLen sCap)).run P κ.w.drew=.ok olds.toArray κ.w.drew)
  (hg:sCap<sLen+n) (h63:((sLen+n:Nat):Int)≤9223372036854775807) (hb:(sLen+n)*i.bytes≤140737488355328) :
  (Builtin.append_ #[t,t2] ty #[.slice base sLen sCap,x]).run c.P κ.w=.ok (.slice (some ⟨κ.w.heap.size,0,none⟩) (sLen+n) (grownCap κ.w (sLen+n) sCap e))
   (κ.w.drew.alloc (.cells (olds.toArray++news.toArray++Builtin.zeroCells z.cells (grownCap κ.w (sLen+n) sCap e-(sLen+n))) e)):=by
 have h1:¬ (sLen+n≤sCap):=by omega
 have h2:¬ (9223372036854775807<((sLen+n:Nat):Int)):=by omega
 have h3:=growslice_fits (bytes:=i.bytes) hg hb
 have h4:¬ (281474976710656<Builtin.nextslicecap (sLen+n) sCap*i.bytes):=by omega
 have h5:IntKind.i64.max=9223372036854775807:=by decide
 rcases Ny with⟨e2,Ny⟩ | Ny
 all_goals
  simp[Builtin.append_,run_underlying ht,run_underlying Ny,sizeOf,typeInfo,zeroValue,hi,hz,hlen,h1,h5,h2,h4,hf,ho,Question.forced,newRow,grownCap]
  rw[if_neg (by omega),← Array.append_assoc]
  simp
end run
theorem rK(z:Array Value)(n:Nat):(Builtin.zeroCells z n).size=n*z.size:=by simp[Builtin.zeroCells]
theorem KZ{e:Ty}{l ys:List (den e)}{f g:Nat→List Value}(hl:∀ i (hi:i<l.length),Rc κ.w κ.ok e l[i] (f i))(hy:∀ i (hi:i<ys.length),Rc κ.w κ.ok e ys[i] (g i))(zs:List Value) :
  ∀ i (hi:i<(l++ys).length),Rc κ.w κ.ok e (l++ys)[i] (if i<l.length then f i else g (i-l.length)) ∧
   ∀ j v,(if i<l.length then f i else g (i-l.length))[j]? = some v→(yl f l.length++yl g ys.length++zs)[i*e.size+j]? = some v:=by
 have Wx:∀ i,i<l.length→(f i).length=e.size:=fun i hi=>(hl i hi).len
 have Sa:∀ i,i<ys.length→(g i).length=e.size:=fun i hi=>(hy i hi).len
 have h1:=uN Wx
 have h2:=uN Sa
 intro i hi
 by_cases Iu:i<l.length
 ·simp only[if_pos Iu]
  refine⟨by rw[List.getElem_append_left Iu]; exact hl i Iu,fun j v hj => ?_⟩
  have MV:j<e.size:=by rw[← Wx i Iu]; exact(List.getElem?_eq_some_iff.1 hj).1
  have:i*e.size+e.size≤l.length*e.size:=by rw[← Nat.succ_mul]; exact Nat.mul_le_mul_right _ Iu
  rw[List.append_assoc,List.getElem?_append_left (by omega),tT Wx i j Iu MV]
  exact hj
 ·simp only[if_neg Iu]
  simp only[List.length_append]at hi
  have z3f:i-l.length<ys.length:=by omega
  refine⟨by rw[List.getElem_append_right (by omega)]; exact hy _ z3f,fun j v hj => ?_⟩
  have MV:j<e.size:=by rw[← Sa _ z3f]; exact(List.getElem?_eq_some_iff.1 hj).1
  have e1:i*e.size=l.length*e.size+(i-l.length)*e.size:=by rw[← Nat.add_mul]; congr 1; omega
  have:(i-l.length)*e.size+e.size≤ys.length*e.size:=by rw[← Nat.succ_mul]; exact Nat.mul_le_mul_right _ z3f
  rw[List.append_assoc,List.getElem?_append_right (by omega),h1,List.getElem?_append_left (by omega)]
  rw[show i*e.size+j-l.length*e.size=(i-l.length)*e.size+j by omega,tT Sa _ j z3f MV]
  exact hj
theorem ID{t t2 et:Nat}{e:Ty}{l ys:List (den e)}{sv v:Value}{bytes:Nat}{ty:Nat}(hI:Inv κ)(hu:c.P.underlying t=some (.slice et))(S4:z0m c t2)(wm:kW c et e=true)(jm:0<e.size)(Eg:oY c et=some bytes)(hz:∃ y,zeroOf c et e=some y)
  (hs:Src κ e l sv) (wH:∃ a,sv=.slice a l.length l.length) (hv:Cel κ e ys v) (uv:ys≠[]) (hb:(l.length+ys.length)*bytes≤140737488355328) (hn:l.length+ys.length≤9223372036854775807) :
  ∃ (κ':KS) (r:Value),(Builtin.append_ #[t,t2] ty #[sv,v]).run c.P κ.w=.ok r κ'.w∧κ'.st=κ.st++[.arr (l.length+ys.length) e (l++ys)]∧Inv κ'∧Ext κ κ'∧RD κ' (.ms κ.st.length (l.length+ys.length) e 0 (l.length+ys.length)) r:=by
 obtain⟨OZ,_⟩:=vz wm
 obtain⟨i,oz,QJ⟩:=iT OZ
 obtain⟨y,hy⟩:=hz
 obtain⟨i',zv,g1,g2,g3⟩:=lZ (κ:=κ) hy
 obtain⟨i'',k1,k2⟩:=rE Eg
 rw[oz]at g1 k1
 cases g1
 cases k1
 obtain⟨olds,f,ho1,ho2,ho3,ho4,ho5⟩:=WW hs jm
 obtain⟨news,g,El,Yo,hn3,hn4,hn5⟩:=hv.ex
 obtain⟨a,hsv⟩:=wH
 subst hsv
 have Va:0<ys.length:=List.length_pos_iff.2 uv
 have vZ:=sV (c:=c) (κ:=κ) (t:=t) (t2:=t2) (e:=et) (ty:=ty) (base:=a) (sLen:=l.length) (sCap:=l.length) (n:=ys.length) (x:=v) (news:=news) (olds:=olds) hu S4 oz g2 hn3
  (by intro P; rw[QJ]; exact hn5 P) (by intro P; rw[QJ]; exact ho5 P) (by omega) (by omega) (by rw[k2]; exact hb)
 let C:=grownCap κ.w (l.length+ys.length) l.length et
 have hC:l.length+ys.length≤C:=grownCap_ge _ _ _ _
 let zs:=Builtin.zeroCells zv.cells (C-(l.length+ys.length))
 let cells:=olds.toArray++news.toArray++zs
 have Pc:zs.size=(C-(l.length+ys.length))*e.size:=by have:=g3.len; simp only[Array.length_toList]at this; simp[zs,rK,this]
 have hol:olds.length=l.length*e.size:=by rw[ho1]; exact uN fun i hi=>(ho2 i hi).len
 have Ic:news.length=ys.length*e.size:=by rw[El]; exact uN fun i hi=>(Yo i hi).len
 have Kw:cells.size=C*e.size:=by
  simp only[cells,Array.size_append,List.size_toArray,hol,Ic,Pc,← Nat.add_mul]
  congr 1; omega
 have gr:=fV.drew κ.w (.cells cells et)
 have hex:=Ze (n:=cells.size) (x:=.arr (l.length+ys.length) e (l++ys)) hI gr
 refine⟨κ.add _ cells.size (.arr (l.length+ys.length) e (l++ys)),_,vZ,rfl,UZ hI gr ?_,hex,?_⟩
 ·refine⟨jm,.inr ⟨κ.w.heap.size,cells.size,cells,et,se hI,gr.new,rfl,?_,Xj wm,fun i=>if i<l.length then f i else g (i-l.length),fun i hi => ?_⟩⟩
  ·rw[Kw,List.length_append]; exact Nat.mul_le_mul_right _ hC
  ·obtain⟨q1,q2⟩:=KZ ho2 Yo zs.toList i hi
   refine⟨q1.mono hex.same,fun j v hj => ?_⟩
   have:=q2 j v hj
   rw[← ho1,← El]at this
   rw[← Array.getElem?_toList]
   simpa[cells]using this
 ·refine .ms _ (l.length+ys.length) e 0 _ C _ (.inr ⟨l.length+ys.length,e,_,Qj,Nat.le_refl _⟩) hC nofun (fun p hp=>by cases hp; rfl) fun xs VN => ?_
  rw[Qj]at VN
  cases VN
  exact⟨by simp,.inr ⟨κ.w.heap.size,cells.size,0,C,se hI,rfl,hC,by rw[Kw]; simp,.inr (by simp)⟩⟩
def KS.re(κ:KS)(w':World)(b n:Nat)(x:yp):KS:={ κ with w:=w',ph:=κ.ph.set b (some (κ.w.heap.size,n)),st:=κ.st.set b x }
theorem IG{w':World}{o:Obj}{b n v0 v1:Nat}{e:Ty}{xs ys:List (den e)}(hI:Inv κ)(g:fV κ.w w' o)(hb:κ.st[b]? = some (.arr v0 e xs))(hv:v0<v1):Ext κ (κ.re w' b n (.arr v1 e ys)):=by
 have qu:b<κ.st.length:=(List.getElem?_eq_some_iff.1 hb).1
 have Uj:b<κ.ph.length:=by rw[hI.len]; exact qu
 refine⟨g.os,g.tape,g.output,by show κ.w.heap.size≤w'.heap.size; rw[g.size]; omega,fun k hk=>⟨hk,g.old (hI.yi k hk)⟩,fun k hk=>.inl hk,?_,?_,?_,?_,by simp[KS.re],fun k hk _=>g.old hk⟩
 ·intro b' blk m h
  simp only[KS.re,List.getElem?_set]at h
  split at h
  ·cases h
   exact .inr (Nat.le_refl _)
  ·exact .inl h
 ·intro b' d hd
  have uv:b≠b':=fun e=>by subst e; rw[hb]at hd; cases hd
  simp only[KS.re,List.getElem?_set,if_neg uv]
  exact⟨⟨d,hd⟩,trivial⟩
 ·intro b' u0 e' zs hd
  refine .inr ?_
  simp only[KS.re,List.getElem?_set]
  split
  ·rename_i e1
   subst e1
   rw[hb]at hd
   cases hd
   exact⟨v1,ys,rfl,by omega,fun h=>absurd h (by omega)⟩
  ·exact⟨u0,zs,hd,Nat.le_refl _,fun _=>⟨rfl,rfl⟩⟩
 ·intro b' hd
  have uv:b≠b':=fun e=>by subst e; rw[hb]at hd; cases hd
  simp only[KS.re,List.getElem?_set,if_neg uv]
  exact hd
theorem z84{w':World}{o:Obj}{b n v0 v1:Nat}{e:Ty}{xs ys:List (den e)}(hI:Inv κ)(g:fV κ.w w' o)(hb:κ.st[b]? = some (.arr v0 e xs))(hv:v0<v1)
  (hx:fP (κ.re w' b n (.arr v1 e ys)) b (.arr v1 e ys)):Inv (κ.re w' b n (.arr v1 e ys)):=by
 have qu:b<κ.st.length:=(List.getElem?_eq_some_iff.1 hb).1
 have Uj:b<κ.ph.length:=by rw[hI.len]; exact qu
 have hold:∀ (b' blk m:Nat),(κ.ph.set b (some (κ.w.heap.size,n)))[b']? = some (some (blk,m))→(b≠b'∧κ.ph[b']? = some (some (blk,m)))∨(b=b'∧blk=κ.w.heap.size):=by
  intro b' blk m h
  simp only[List.getElem?_set]at h
  split at h
  ·rename_i e1
   cases h
   exact .inr ⟨e1,rfl⟩
  ·rename_i e1
   exact .inl ⟨e1,h⟩
 refine⟨by simp[KS.re,hI.len],?_,?_,?_,?_,hI.gl.mono (IG (n:=n) (ys:=ys) hI g hb hv).same⟩
 ·intro k hk; have:=hI.yi k hk; show k<w'.heap.size; rw[g.size]; omega
 ·intro b' blk m h
  rcases hold b' blk m h with⟨_,h⟩ | ⟨rfl,rfl⟩
  ·obtain⟨h1,h2⟩:=hI.apart b' blk m h
   exact⟨by show blk<w'.heap.size; rw[g.size]; omega,h2⟩
  ·exact⟨by show κ.w.heap.size<w'.heap.size; rw[g.size]; omega,fun hk=>absurd (hI.yi _ hk) (Nat.lt_irrefl _)⟩
 ·intro b1 b2 blk m m' h h'
  rcases hold b1 blk m h with⟨_,h⟩ | ⟨rfl,rfl⟩<;>rcases hold b2 _ m' h' with⟨_,h'⟩ | ⟨rfl,h''⟩
  ·exact hI.inj b1 b2 blk m m' h h'
  ·have:=(hI.apart b1 blk m h).1; omega
  ·have:=(hI.apart b2 _ m' h').1; omega
  ·rfl
 ·intro b' y hy
  simp only[KS.re,List.getElem?_set]at hy
  split at hy
  ·rename_i e1
   subst e1
   cases hy
   exact hx
  ·rename_i e1
   refine(hI.blk b' y hy).mono (IG hI g hb hv) ?_ fun blk m h=>g.old (hI.apart b' blk m h).1
   simp only[KS.re,List.getElem?_set,if_neg e1]
theorem JI{α:Type}{l:List α}{i:Nat}{a:α}(h:l[i]? = some a):l.set i a=l:=by
 apply List.ext_getElem?
 intro j
 rw[List.getElem?_set]
 split
 ·rename_i e
  subst e
  rw[if_pos (List.getElem?_eq_some_iff.1 h).1,h]
 ·rfl
theorem OQ{t t2 et b qY len:Nat}{e:Ty}{xs ys:List (den e)}{sv v:Value}{bytes:Nat}{ty:Nat}(hI:Inv κ)(hu:c.P.underlying t=some (.slice et))(S4:z0m c t2)(wm:kW c et e=true)(jm:0<e.size)(Eg:oY c et=some bytes)
  (hz:∃ y,zeroOf c et e=some y) (hs:RD κ (.ms b qY e 0 len) sv) (hb:κ.st[b]? = some (.arr qY e xs)) (hlen:len=xs.length) (hv:Cel κ e ys v) (hbb:(xs.length+ys.length)*bytes≤140737488355328)
  (hn:xs.length+ys.length≤9223372036854775807) :
  ∃ (κ':KS) (r:Value),(Builtin.append_ #[t,t2] ty #[sv,v]).run c.P κ.w=.ok r κ'.w∧κ'.st=κ.st.set b (.arr (qY+ys.length) e (xs++ys))∧Inv κ'∧Ext κ κ'∧RD κ' (.ms b (qY+ys.length) e 0 (len+ys.length)) r:=by
 subst hlen
 have qu:b<κ.st.length:=(List.getElem?_eq_some_iff.1 hb).1
 have Uj:b<κ.ph.length:=by rw[hI.len]; exact qu
 obtain⟨OZ,_⟩:=vz wm
 obtain⟨i,oz,QJ⟩:=iT OZ
 obtain⟨y,hy⟩:=hz
 obtain⟨i',zv,g1,g2,g3⟩:=lZ (κ:=κ) hy
 obtain⟨i'',k1,k2⟩:=rE Eg
 rw[oz]at g1 k1
 cases g1
 cases k1
 have YQ:=(F6 hI hs hb).1
 simp only[Nat.zero_add,List.take_length,List.drop_zero]at YQ
 obtain⟨olds,f,ho1,ho2,ho3,ho4,ho5⟩:=WW YQ jm
 obtain⟨news,g,El,Yo,hn3,hn4,hn5⟩:=hv.ex
 have hol:olds.length=xs.length*e.size:=by rw[ho1]; exact uN fun i hi=>(ho2 i hi).len
 have Ic:news.length=ys.length*e.size:=by rw[El]; exact uN fun i hi=>(Yo i hi).len
 have GX:∀ u∈news,u.oneCell'=true:=by rw[El]; exact GR fun i hi=>(Yo i hi).one
 cases hs with
 | ms _ _ _ _ _ cap a hold wH ha Z1 hm =>
  obtain⟨hle,hm⟩:=hm xs hb
  by_cases pW:xs.length+ys.length≤cap
  ·-- there is room
   rcases hm with⟨h1,_,E2,hp⟩ | ⟨blk,n,o,Uy,h3,h4,h5,h6,h7⟩
   ·simp only[Value.slice.injEq]at E2
    obtain⟨rfl,IE,rfl⟩:=E2
    have J5:xs=[]:=List.eq_nil_of_length_eq_zero h1
    have TI:ys=[]:=List.eq_nil_of_length_eq_zero (by omega)
    subst J5 TI
    refine⟨κ,.slice none 0 0,?_,?_,hI,Ext.refl κ,.ms b qY e 0 0 0 none hold (Nat.le_refl _) (fun _=>rfl) nofun fun zs Pc => ?_⟩
    ·have Sq:news=[]:=List.eq_nil_of_length_eq_zero (by simpa using Ic)
     subst Sq
     exact run_append_fits (c:=c) (κ:=κ) (t:=t) (t2:=t2) (e:=et) (ty:=ty) (base:=none) (sLen:=0) (sCap:=0) (n:=0) (x:=v) (news:=[]) hu S4 oz hn3 (by intro P; rw[QJ]; exact hn4 P) (by omega) rfl
    ·simp only[List.length_nil,Nat.add_zero,List.append_nil]
     rw[JI hb]
    ·rw[hb]at Pc
     cases Pc
     exact⟨Nat.le_refl _,.inl ⟨rfl,rfl,rfl,hp⟩⟩
   ·cases h4
    obtain⟨_,⟨XV,Pe⟩ | ⟨mr,n',cs,T,p1,p2,p3,p4,pr,F,p5⟩⟩:=hI.blk b _ hb
    ·rw[h3]at Pe; cases Pe
    ·rw[h3]at p1
     cases p1
     have ho:xs.length+ys.length=0∨o=0:=by
      rcases h7 with h7 | h7
      ·exact .inl (by omega)
      ·exact .inr (by simpa using h7)
     have zaB:cap*e.size≤cs.size:=by rw[p3]; simpa using h6
     have JK:xs.length*e.size+ys.length*e.size≤cs.size:=by
      rw[← Nat.add_mul]; exact Nat.le_trans (Nat.mul_le_mul_right _ pW) zaB
     let lz:=(cs.toList.take (xs.length*e.size)++news++cs.toList.drop (xs.length*e.size+news.length)).toArray
     have J8:cs.toList.length=cs.size:=by simp
     have Yy:lz.size=cs.size:=by simp only[lz,List.size_toArray,List.length_append,List.length_take,List.length_drop,Ic,J8]; omega
     have V3:∀ m,(⟨blk,o,none⟩:Addr).add (xs.length*e.size)=⟨blk,xs.length*e.size,none⟩∨m=0∨xs.length+ys.length=0:=by
      intro m
      rcases ho with h | h
      ·exact .inr (.inr h)
      ·subst h; rw[vB,Nat.zero_add]; exact .inl rfl
     have xR:(storeCells ((⟨blk,o,none⟩:Addr).add (xs.length*i.size)) news).run c.P κ.w=.ok () (κ.w.setRow blk lz):=by
      rw[QJ]
      rcases V3 1 with h | h | h
      ·rw[h]
       have:=run_storeCells_at c.P blk (xs.length*e.size) T news 0 cs κ.w p2 (by rw[Ic]; omega) GX
       simpa only[Nat.add_zero]using this
      ·cases h
      ·have Sq:news=[]:=List.eq_nil_of_length_eq_zero (by rw[Ic,show ys.length=0 by omega]; simp)
       have J5:xs.length=0:=by omega
       have hce:lz=cs:=by simp[lz,Sq,J5]
       rw[Sq,hce,setRow_self _ _ _ _ _ p2]
       rfl
     have rv:Alike (.arr qY e xs) (.arr (qY+ys.length) e (xs++ys)):=⟨rfl,by omega,fun h=>by rw[List.length_append]; omega⟩
     have hex:=nP (cs:=lz) (x:=.arr (qY+ys.length) e (xs++ys)) hI h3 hb rv
     refine⟨κ.BH b blk lz (.arr (qY+ys.length) e (xs++ys)),.slice (some ⟨blk,o,none⟩) (xs.length+ys.length) cap,?_,rfl,W8 hI h3 hb rv ?_,hex,?_⟩
     ·exact run_append_fits (c:=c) (κ:=κ) (t:=t) (t2:=t2) (e:=et) (ty:=ty) (base:=some ⟨blk,o,none⟩) (sLen:=xs.length) (sCap:=cap) (n:=ys.length) (x:=v) (news:=news) hu S4 oz hn3 (by intro P; rw[QJ]; exact hn4 P) pW xR
     ·refine⟨jm,.inr ⟨blk,n,lz,T,h3,setRow_heap _ _ _ _ _ _ p2,by rw[Yy]; exact p3,?_,pr,fun i=>if i<xs.length then F i else g (i-xs.length),fun i hi => ?_⟩⟩
      ·rw[List.length_append]; exact Nat.le_trans (Nat.mul_le_mul_right _ pW) (by simpa using h6)
      ·have hF:∀ i (hi:i<xs.length),Rc κ.w κ.ok e xs[i] (F i):=fun i hi=>(p5 i hi).1
       have z4b:∀ i,i<xs.length→(F i).length=e.size:=fun i hi=>(hF i hi).len
       have L6:cs.toList.take (xs.length*e.size)=yl F xs.length:=by
        apply List.ext_getElem?
        intro p
        rw[List.getElem?_take]
        have Wx:=uN z4b
        split
        ·rename_i hp
         obtain⟨q,hq⟩:∃ q,(yl F xs.length)[p]? = some q:=⟨_,List.getElem?_eq_getElem (by rw[Wx]; exact hp)⟩
         obtain⟨i',j',a1,a2,a3,a4⟩:=Cq jm z4b hq
         rw[hq]
         have:=(p5 i' a1).2 j' q a4
         rw[a3,Array.getElem?_toList]; exact this
        ·rename_i hp
         rw[List.getElem?_eq_none (by rw[Wx]; omega)]
       obtain⟨q1,q2⟩:=KZ hF Yo (cs.toList.drop (xs.length*e.size+news.length)) i hi
       refine⟨q1.mono hex.same,fun j w hj => ?_⟩
       have:=q2 j w hj
       rw[← El,← L6]at this
       simpa only[lz,List.getElem?_toArray]using this
     ·refine .ms b _ e 0 _ cap _ (.inr ⟨qY+ys.length,e,xs++ys,by simp[KS.BH,qu],Nat.le_refl _⟩) pW nofun (fun p hp=>by cases hp; rfl) fun zs Pc => ?_
      have:zs=xs++ys:=by simp only[KS.BH,List.getElem?_set_self qu]at Pc; cases Pc; rfl
      subst this
      refine⟨by simp,.inr ⟨blk,n,o,cap,h3,rfl,pW,by simpa using h6,?_⟩⟩
      rcases h7 with h7 | h7
      ·exact .inl h7
      ·exact .inr (by simpa using h7)
  ·-- it grows
   have Va:0<ys.length:=by omega
   have vZ:=sV (c:=c) (κ:=κ) (t:=t) (t2:=t2) (e:=et) (ty:=ty) (base:=a) (sLen:=xs.length) (sCap:=cap) (n:=ys.length) (x:=v) (news:=news) (olds:=olds) hu S4 oz g2 hn3
    (by intro P; rw[QJ]; exact hn5 P) (by intro P; rw[QJ]; exact ho5 P) (by omega) (by omega) (by rw[k2]; exact hbb)
   let C:=grownCap κ.w (xs.length+ys.length) cap et
   have hC:xs.length+ys.length≤C:=grownCap_ge _ _ _ _
   let zs:=Builtin.zeroCells zv.cells (C-(xs.length+ys.length))
   let cells:=olds.toArray++news.toArray++zs
   have Pc:zs.size=(C-(xs.length+ys.length))*e.size:=by have:=g3.len; simp only[Array.length_toList]at this; simp[zs,rK,this]
   have Kw:cells.size=C*e.size:=by
    simp only[cells,Array.size_append,List.size_toArray,hol,Ic,Pc,← Nat.add_mul]
    congr 1; omega
   have gr:=fV.drew κ.w (.cells cells et)
   have Tw:qY<qY+ys.length:=by omega
   have hex:=IG (n:=cells.size) (ys:=xs++ys) hI gr hb Tw
   refine⟨κ.re _ b cells.size (.arr (qY+ys.length) e (xs++ys)),_,vZ,rfl,z84 hI gr hb Tw ?_,hex,?_⟩
   ·refine⟨jm,.inr ⟨κ.w.heap.size,cells.size,cells,et,by simp[KS.re,Uj],gr.new,rfl,?_,Xj wm,fun i=>if i<xs.length then f i else g (i-xs.length),fun i hi => ?_⟩⟩
    ·rw[Kw,List.length_append]; exact Nat.mul_le_mul_right _ hC
    ·obtain⟨q1,q2⟩:=KZ ho2 Yo zs.toList i hi
     refine⟨q1.mono hex.same,fun j v hj => ?_⟩
     have:=q2 j v hj
     rw[← ho1,← El]at this
     rw[← Array.getElem?_toList]
     simpa[cells]using this
   ·refine .ms b _ e 0 _ C _ (.inr ⟨qY+ys.length,e,xs++ys,by simp[KS.re,qu],Nat.le_refl _⟩) hC nofun (fun p hp=>by cases hp; rfl) fun us hus => ?_
    have:us=xs++ys:=by simp only[KS.re,List.getElem?_set_self qu]at hus; cases hus; rfl
    subst this
    exact⟨by simp,.inr ⟨κ.w.heap.size,cells.size,0,C,by simp[KS.re,Uj],rfl,hC,by rw[Kw]; simp,.inr (by simp)⟩⟩
end
end Go.AM
namespace Go.AM
set_option linter.unusedSectionVars false
variable [uH]
section
variable {c:Ctx} {κ:KS}
theorem Q9{x y:D}{v:Value}(hI:Inv κ)(hx:RD κ x v)(h:(rf κ.st x).leads y):(y=x∧∀ b qY e off len,x≠.ms b qY e off len)∨∃ (e:Ty) (ys:List (den e)),y=.zU (.sl e) ys∧Src κ e ys v∧∃ b qY off len,x=.ms b qY e off len:=by
 cases x with
 | ms b qY e off len =>
  simp only[rf]at h
  split at h
  ·rename_i kT e' xs hb
   split at h
   ·rename_i he
    subst he
    obtain⟨rfl,h⟩:=h
    refine .inr ⟨e',_,h.symm,(F6 hI hx hb).1,b,qY,off,len,rfl⟩
   ·exact h.elim
  ·exact h.elim
 | _=>exact .inl ⟨h.symm,fun _ _ _ _ _=>nofun⟩
theorem ZP{t t2 et:Nat}{e:Ty}{s:D}{ys:List (den e)}{ne:Bool}{sv v:Value}{bytes ty:Nat}{d:Option D}{zO:St}(hI:Inv κ)(hu:c.P.underlying t=some (.slice et))(S4:z0m c t2)(wm:kW c et e=true)(jm:0<e.size)
  (Eg:oY c et=some bytes) (HI:0<bytes) (hz:∃ y,zeroOf c et e=some y) (hs:RD κ s sv) (hv:Cel κ e ys v) (uv:ne=true→ys≠[])
  (h:(jZ e s ys ne bytes κ.st).leads (d,zO)) :
  ∃ (κ':KS) (r:Value),(Builtin.append_ #[t,t2] ty #[sv,v]).run c.P κ.w=.ok r κ'.w∧κ'.st=zO∧Inv κ'∧Ext κ κ'∧∀ d',d=some d'→RD κ' d' r:=by
 have hlen:∀ n,n*bytes≤140737488355328→n≤9223372036854775807:=fun n hn=>Nat.le_trans (Nat.le_mul_of_pos_right n HI) (Nat.le_trans hn (by decide))
 -- nothing is appended
 have same:∀ (a:Option Addr) (n cap:Nat),sv=.slice a n cap→n≤cap→ys=[]→d=some s→zO=κ.st →
   ∃ (κ':KS) (r:Value),(Builtin.append_ #[t,t2] ty #[sv,v]).run c.P κ.w=.ok r κ'.w∧κ'.st=zO∧Inv κ'∧Ext κ κ'∧∀ d',d=some d'→RD κ' d' r:=by
  rintro a n cap rfl wH rfl rfl rfl
  obtain⟨OZ,_⟩:=vz wm
  obtain⟨i,oz,QJ⟩:=iT OZ
  obtain⟨news,g,El,Yo,hn3,hn4,hn5⟩:=hv.ex
  have Sq:news=[]:=El
  subst Sq
  refine⟨κ,.slice a n cap,?_,rfl,hI,Ext.refl κ,fun d' he=>by cases he; exact hs⟩
  have:=run_append_fits (c:=c) (κ:=κ) (t:=t) (t2:=t2) (e:=et) (ty:=ty) (base:=a) (sLen:=n) (sCap:=cap) (n:=0) (x:=v) (news:=[]) (i:=i) hu S4 oz hn3 (by intro P; rw[QJ]; exact hn4 P) (by omega) (w':=κ.w) (by cases a<;>rfl)
  simpa using this
 have new:∀ l:List (den e),Src κ e l sv→(∃ a,sv=.slice a l.length l.length)→ys≠[]→(np e l ys bytes κ.st).leads (d,zO) →
   ∃ (κ':KS) (r:Value),(Builtin.append_ #[t,t2] ty #[sv,v]).run c.P κ.w=.ok r κ'.w∧κ'.st=zO∧Inv κ'∧Ext κ κ'∧∀ d',d=some d'→RD κ' d' r:=by
  intro l hl wH uv h
  obtain⟨hb,h⟩:=h
  cases h
  obtain⟨κ',r,h1,h2,h3,h4,h5⟩:=ID (ty:=ty) hI hu S4 wm jm Eg hz hl wH hv uv hb (hlen _ hb)
  exact⟨κ',r,h1,h2,h3,h4,fun d' he=>by cases he; exact h5⟩
 unfold jZ at h
 split at h
 ·have hsv:sv=.slice none 0 0:=by cases hs; rfl
  cases hn:ne with
  | true=>rw[hn,cond_true]at h; exact new [] (UO hs) ⟨none,hsv⟩ (uv hn) h
  | false =>
   rw[hn,cond_false]at h
   rcases h with⟨hy,h⟩ | ⟨hy,h⟩
   ·cases h; exact same none 0 0 hsv (Nat.le_refl _) (List.isEmpty_iff.1 hy) rfl rfl
   ·exact new [] (UO hs) ⟨none,hsv⟩ (fun e=>by rw[e]at hy; cases hy) h
 ·rename_i e' l ne'
  split at h
  ·rename_i l' M5
   obtain⟨he,zaE⟩:=qE M5
   cases he
   simp only at zaE
   subst zaE
   have hsv:∃ a,sv=.slice a l'.length l'.length:=by
    cases hs with
    | xJ=>exact⟨_,rfl⟩
    | tight=>exact⟨_,rfl⟩
   cases hn:ne with
   | true=>rw[hn,cond_true]at h; exact new l' (tI hs) hsv (uv hn) h
   | false =>
    rw[hn,cond_false]at h
    rcases h with⟨hy,h⟩ | ⟨hy,h⟩
    ·cases h
     obtain⟨a,ha⟩:=hsv
     exact same a _ _ ha (Nat.le_refl _) (List.isEmpty_iff.1 hy) rfl rfl
    ·exact new l' (tI hs) hsv (fun e=>by rw[e]at hy; cases hy) h
  ·exact h.elim
 ·rename_i b qY e' off len
  split at h
  ·rename_i kT e'' xs hb
   split at h
   ·rename_i xs' Fi
    obtain⟨he,z97⟩:=qE Fi
    cases he
    simp only at z97
    subst z97
    cases hde:decide (e'=_)with
    | false=>rw[hde]at h; exact h.elim
    | true =>
     rw[hde,cond_true]at h
     have:=of_decide_eq_true hde
     subst this
     obtain⟨⟨rfl,rfl,hl,hbb⟩,h⟩:=h
     cases h
     obtain⟨κ',r,h1,h2,h3,h4,h5⟩:=OQ (ty:=ty) hI hu S4 wm jm Eg hz hs hb hl hv hbb (hlen _ hbb)
     exact⟨κ',r,h1,h2,h3,h4,fun d' he=>by cases he; exact h5⟩
   ·exact h.elim
  ·exact h.elim
 ·exact h.elim
theorem Du{t ty:Nat}{s x:Option D}{sv v:Value}{d:Option D}{zO:St}(hI:Inv κ)(hs:∀ z,s=some z→RD κ z sv)(hx:∀ z,x=some z→RD κ z v)
  (h:(zX (XW c t s x) κ.st).leads (d,zO)):xf c.P (do Pure.pure (.value (← Builtin.append_ #[t,t] ty #[sv,v]))) κ d zO:=by
 unfold XW at h
 split at h
 ·exact absurd h zj
 ·rename_i et het
  have hu:=ux het
  split at h
  ·rename_i e bytes MA Eg
   cases hb:kW c et e&&Nat.blt 0 e.size&&Nat.blt 0 bytes&&(zeroOf c et e).isSome with
   | false=>rw[hb]at h; exact absurd h zj
   | true =>
    rw[hb,cond_true]at h
    simp only[Bool.and_eq_true]at hb
    obtain⟨⟨⟨wm,h1⟩,h2⟩,h3⟩:=hb
    have jm:0<e.size:=Nat.le_of_ble_eq_true h1
    have HI:0<bytes:=Nat.le_of_ble_eq_true h2
    have hz:=Option.isSome_iff_exists.1 h3
    split at h
    ·rename_i s x
     simp only[zX,T.zY]at h
     obtain⟨y,hy,h⟩:=h
     have fin:∀ (ys:List (den e)) (ne:Bool),Src κ e ys v→(ne=true→ys≠[])→(jZ e s ys ne bytes κ.st).leads (d,zO)→xf c.P (do Pure.pure (.value (← Builtin.append_ #[t,t] ty #[sv,v]))) κ d zO:=by
      intro ys ne hv uv h
      obtain⟨κ',r,g1,g2,g3,g4,g5⟩:=ZP (t2:=t) (ty:=ty) hI hu (.inl ⟨et,hu⟩) wm jm Eg HI hz (hs _ rfl) (z1n hv jm) uv h
      exact⟨κ',.value r,r,by simp only[Sem.run_bind,g1,Result.andThen_ok]; rfl,.inl rfl,g2,g3,g4,g5⟩
     have I0:=hx _ rfl
     rcases Q9 hI I0 hy with⟨rfl,N3⟩ | ⟨e',ys,rfl,YQ,_⟩
     ·split at h
      ·rename_i σ z
       split at h
       ·rename_i ys hys
        obtain⟨he,hz'⟩:=qE hys
        cases he
        simp only at hz'
        subst hz'
        exact fin _ false (Lw I0) nofun h
       ·exact h.elim
      ·rename_i σ z ne
       split at h
       ·rename_i ys hys
        obtain⟨he,hz'⟩:=qE hys
        cases he
        simp only at hz'
        subst hz'
        refine fin _ ne (tI I0) (fun uv => ?_) h
        cases I0 with
        | xJ=>cases uv
        | tight _ _ _ _ _ _ q=>exact q uv
       ·exact h.elim
      ·exact fin [] false (UO I0) nofun h
      ·exact h.elim
     ·simp only at h
      split at h
      ·rename_i ys' hys
       obtain⟨he,hz'⟩:=qE hys
       cases he
       simp only at hz'
       subst hz'
       exact fin _ false YQ nofun h
      ·exact h.elim
    ·exact absurd h zj
  ·exact absurd h zj
theorem z2y{l:zf}{v:Value}(h:RD κ (.zU .str l) v):Cel κ (.int .u8) (bytesOf l) v:=by
 have hv:=h.lL
 subst hv
 have hl:(bytesOf l).length=l.length:=by simp[bytesOf]
 have jm:(⟨l.toArray⟩:ByteArray).size=l.length:=List.size_toArray
 refine⟨Lib.strCells ⟨l.toArray⟩,fun i=>[.int .u8 ((bytesOf l)[i]?.getD 0)],?_,fun i hi => ?_,fun P => ?_,fun P => ?_,fun P => ?_⟩
 ·have gen:∀ (n:Nat),n≤l.length→yl (fun i=>[Value.int .u8 ((bytesOf l)[i]?.getD 0)]) n=(l.take n).map fun b=>Value.int .u8 b.toNat:=by
   intro n
   induction n with
   | zero=>intro _; rfl
   | succ n ih =>
    intro hn
    have qu:n<l.length:=hn
    rw[yl,ih (by omega),List.take_succ_eq_append_getElem qu,List.map_append]
    simp[bytesOf,List.getElem?_eq_getElem qu]
  rw[hl,gen _ (Nat.le_refl _),List.take_length]
  rfl
 ·have:(bytesOf l)[i]?.getD 0=(bytesOf l)[i]:=by rw[List.getElem?_eq_getElem hi]; rfl
  show Rc κ.w κ.ok (.int .u8) (bytesOf l)[i] [Value.int .u8 ((bytesOf l)[i]?.getD 0)]
  rw[this]
  exact .int .u8 _
 ·show(pure (⟨l.toArray⟩:ByteArray).size:Sem Nat).run P κ.w=_
  rw[jm,hl]; rfl
 ·rw[hl,← jm]; exact Lib.run_firstCells_string _ _ _
 ·rw[hl,← jm]; exact Lib.run_firstCells_string _ _ _
theorem KG{t t2 ty:Nat}{s x:Option D}{sv v:Value}{d:Option D}{zO:St}(hI:Inv κ)(hs:∀ z,s=some z→RD κ z sv)(hx:∀ z,x=some z→RD κ z v)
  (h:(zX (Zc c t t2 s x) κ.st).leads (d,zO)):xf c.P (do Pure.pure (.value (← Builtin.append_ #[t,t2] ty #[sv,v]))) κ d zO:=by
 unfold Zc at h
 split at h
 ·exact absurd h zj
 ·rename_i et het
  have hu:=ux het
  split at h
  ·rename_i bytes MA Eg S4
   cases hb:kW c et (.int .u8)&&Nat.blt 0 bytes&&(zeroOf c et (.int .u8)).isSome with
   | false=>rw[hb]at h; exact absurd h zj
   | true =>
    rw[hb,cond_true]at h
    simp only[Bool.and_eq_true]at hb
    obtain⟨⟨wm,h2⟩,h3⟩:=hb
    have HI:0<bytes:=Nat.le_of_ble_eq_true h2
    have hz:=Option.isSome_iff_exists.1 h3
    split at h
    ·rename_i s l
     simp only[zX]at h
     obtain⟨κ',r,g1,g2,g3,g4,g5⟩:=ZP (t2:=t2) (ty:=ty) hI hu (.inr S4) wm (by decide) Eg HI hz (hs _ rfl) (ne:=false) (z2y (hx _ rfl)) (fun e=>by cases e) h
     exact⟨κ',.value r,r,by simp only[Sem.run_bind,g1,Result.andThen_ok]; rfl,.inl rfl,g2,g3,g4,g5⟩
    ·exact absurd h zj
  ·exact absurd h zj
end
end Go.AM
namespace Go.AM
set_option linter.unusedSectionVars false
variable [uH]
section
variable {c:Ctx} {κ:KS}
theorem Qg{places:List (Nat×Nat)}{pf:Nat→Option (Nat×Nat)}(hpf:∀ (i:Nat) p,places[i]? = some p→pf i=some p){F:Operand→Option D}{G:Operand→Value}(hF:∀ x d,F x=some d→RD κ d (G x)):∀ (L:List (Nat×Operand)) (cells r:List D) (cs:Array Value),
  ic places (L.map fun p=>(p.1,F p.2)) cells=some r→xz κ cells cs.toList→(∀ d∈cells,d.one=true) →
  ∃ lz,Instr.fill pf cs (L.map fun p=>(p.1,G p.2))=some lz∧xz κ r lz.toList∧∀ d∈r,d.one=true
 | [],cells,r,cs,h,hr,ho=>by
  simp only[List.map_nil,ic,Option.some.injEq]at h
  subst h
  exact⟨cs,rfl,hr,ho⟩
 | (i,x)::L,cells,r,cs,h,hr,ho=>by
  simp only[List.map_cons]at h
  cases hx:F x with
  | none=>rw[hx]at h; simp[ic]at h
  | some d =>
   rw[hx]at h
   simp only[ic]at h
   split at h
   ·rename_i off n hp
    cases hb : !d.uE&&Nat.beq n (qt d).length&&Nat.ble (off+n) cells.length with
    | false=>rw[hb]at h; cases h
    | true =>
     rw[hb,cond_true]at h
     simp only[Bool.and_eq_true,Bool.not_eq_true']at hb
     obtain⟨⟨h1,h2⟩,h3⟩:=hb
     have h2':n=(qt d).length:=Nat.eq_of_beq_eq_true h2
     have h3':=Nat.le_of_ble_eq_true h3
     have hd:=hF x d hx
     have hfd:=jz hd h1
     have hvl:(G x).cells.toList.length=n:=by rw[← hfd.1]; exact h2'.symm
     have hle:off+n≤cs.size:=by have:=hr.1; simp only[Array.length_toList]at this; omega
     have hn:=my hr hfd off n
     obtain⟨lz,g1,g2,g3⟩:=Qg hpf hF L _ r (cs.toList.take off++(G x).cells.toList++cs.toList.drop (off+n)).toArray h (by simpa using hn) (by
      intro y hy
      simp only[List.mem_append]at hy
      rcases hy with(hy | hy) | hy
      ·exact ho y (List.mem_of_mem_take hy)
      ·exact jx hd y hy
      ·exact ho y (List.mem_of_mem_drop hy))
     refine⟨lz,?_,g2,g3⟩
     simp only[List.map_cons]
     rw[Dn (hpf _ _ hp) hvl hle]
     exact g1
   ·cases h
theorem FQ{t:Nat}{L:List (Nat×Operand)}{F:Operand→Option D}{G:Operand→Value}{d:Option D}{zO:St}(hI:Inv κ)(hF:∀ x d,F x=some d→RD κ d (G x))
  (h:(zX (Bo c t (L.map fun p=>(p.1,F p.2))) κ.st).leads (d,zO)):xf c.P (do Pure.pure (.value (← Instr.build t (L.map fun p=>(p.1,G p.2)).toArray))) κ d zO:=by
 unfold Bo at h
 split at h
 ·rename_i fs hu
  split at h
  ·rename_i z places hz hp
   split at h
   ·rename_i l hl
    rw[wh]at h
    obtain⟨rfl,rfl⟩:=h
    obtain⟨i,zv,h1,h2,h3⟩:=ig hz
    have hzr:=h3.rd κ
    obtain⟨lz,g1,g2,g3⟩:=Qg (pf:=(places.toArray[·]?)) (fun i p hp=>by simpa using hp) hF L z l zv.cells hl (jz hzr rfl) (jx hzr)
    have hb:c.P.built t (L.map fun p=>(p.1,G p.2))=some lz:=by
     unfold Program.built
     simp only[h1,hu,h2,hp]
     exact g1
    refine xf.pure hI (run_build κ.w t _ lz (by simpa using hb)) ?_
    have:=RD.agg l lz.toList g2.1 g3 g2.2
    simpa using this
   ·exact absurd h zj
  ·exact absurd h zj
 ·rename_i k e hu
  split at h
  ·rename_i z ie hz hp
   split at h
   ·rename_i l hl
    rw[wh]at h
    obtain⟨rfl,rfl⟩:=h
    obtain⟨i,zv,h1,h2,h3⟩:=ig hz
    have hzr:=h3.rd κ
    obtain⟨lz,g1,g2,g3⟩:=Qg (pf:=fun i=>some (i*ie.size,ie.size)) (fun i p hp=>by
     rw[List.getElem?_map]at hp
     cases hr:(List.range k)[i]? with
     | none=>rw[hr]at hp; cases hp
     | some j =>
      rw[hr]at hp
      obtain⟨qu,rfl⟩:=List.getElem?_eq_some_iff.1 hr
      simpa using hp) hF L z l zv.cells hl (jz hzr rfl) (jx hzr)
    have hb:c.P.built t (L.map fun p=>(p.1,G p.2))=some lz:=by
     unfold Program.built
     simp only[h1,hu,h2,hp]
     exact g1
    refine xf.pure hI (run_build κ.w t _ lz (by simpa using hb)) ?_
    have:=RD.agg l lz.toList g2.1 g3 g2.2
    simpa using this
   ·exact absurd h zj
  ·exact absurd h zj
 ·exact absurd h zj
theorem YP{a:Act}{o:Oper}{p:Operand}(ho:o.op=.nilCheck p){x:Option D}{d:Option D}{zO:St}(hI:Inv κ)(hx:∀ z,x=some z→RD κ z (a.eval p))
  (h:(zX (Qq x) κ.st).leads (d,zO)):xf c.P (execOp a.eval o) κ d zO:=by
 have key:∀ z v,RD κ z v→a.eval p=v→(∀ b:Option Addr,v=.pointer b→b≠none)→((∃ b,v=.pointer b)∨∃ g q l,v=.func (.func g) q l)→xf c.P (execOp a.eval o) κ (some z) κ.st:=by
  intro z v hz hv hn hc
  have:execOp a.eval o=Pure.pure (.value v):=by
   rcases hc with⟨b,rfl⟩ | ⟨g,q,l,rfl⟩
   ·cases b with
    | none=>exact absurd rfl (hn none rfl)
    | some b=>simp only[execOp,ho,hv]
   ·simp only[execOp,ho,hv]
  rw[this]
  exact xf.val hI fun _ he=>by cases he; exact hz
 unfold Qq at h
 split at h
 all_goals try exact absurd h zj
 all_goals
  rw[wh]at h; obtain⟨rfl,rfl⟩:=h
  have hr:=hx _ rfl
  generalize hv:a.eval p=v at hr
  refine key _ v hr hv ?_ ?_
  ·intro b hb; cases hr<;>first | (cases hb<;>nofun) | (rename_i f l vs _ _; obtain⟨g,q,l',e⟩:=KV f vs; rw[e]at hb; cases hb)
  ·cases hr<;>first | exact .inl ⟨_,rfl⟩ | exact .inr (KV _ _)
theorem Fp{op:BinOp}{t:Nat}{px:Operand}{x:Option D}{v:Value}{d:Option D}{zO:St}(hI:Inv κ)(hx:∀ z,x=some z→RD κ z v)
  (h:(zX (BB c op t x) κ.st).leads (d,zO)):xf c.P (do Pure.pure (.value (← (do eqGuard op t px (.const .nilIface) v .nilIface; binOp op t v .nilIface)))) κ d zO:=by
 unfold BB at h
 split at h
 ·rename_i ms hu
  have hm:c.P.underlying t=some (.interface (c.P.methodsAt t)):=by unfold Program.methodsAt; rw[hu]
  have g1:∀ w,(eqGuard op t px (.const .nilIface) .nilIface .nilIface).run c.P w=.ok () w:=fun w=>by cases op<;>simp[eqGuard]
  have g2:∀ u y w,(eqGuard op t px (.const .nilIface) (.iface u y) .nilIface).run c.P w=.ok () w:=fun u y w=>by cases op<;>simp[eqGuard]
  split at h
  ·unfold bb at h
   rw[wh]at h
   obtain⟨rfl,rfl⟩:=h
   cases hx _ rfl
   exact xf.pure hI (by simp only[Sem.run_bind,g1,Result.andThen_ok,run_eql_nil_nil _ _ hm]) RD.bool
  ·unfold bb at h
   rw[wh]at h
   obtain⟨rfl,rfl⟩:=h
   cases hx _ rfl
   exact xf.pure hI (by simp only[Sem.run_bind,g2,Result.andThen_ok,run_eql_held_nil _ _ _ _ hm]) RD.bool
  ·unfold bb at h
   rw[wh]at h
   obtain⟨rfl,rfl⟩:=h
   cases hx _ rfl
   exact xf.pure hI (by simp only[Sem.run_bind,g1,Result.andThen_ok,run_neq_nil_nil _ _ hm]) RD.bool
  ·unfold bb at h
   rw[wh]at h
   obtain⟨rfl,rfl⟩:=h
   cases hx _ rfl
   exact xf.pure hI (by simp only[Sem.run_bind,g2,Result.andThen_ok,run_neq_held_nil _ _ _ _ hm]) RD.bool
  ·exact absurd h zj
 ·exact absurd h zj
theorem Ut{x:Option D}{v:Value}{xt at':Nat}{ok:Bool}{d:Option D}{zO:St}(hI:Inv κ)(hx:∀ z,x=some z→RD κ z v)
  (h:(zX (ox c x at' ok) κ.st).leads (d,zO)):xf c.P (do Pure.pure (.value (← Instr.typeAssert v xt at' ok))) κ d zO:=by
 unfold ox at h
 split at h
 ·exact absurd h zj
 ·exact absurd h zj
 ·rename_i ty hni hu
  split at h
  ·rename_i t e
   cases hb:Nat.beq t at'&&ok with
   | false=>rw[hb]at h; exact absurd h zj
   | true =>
    rw[hb,cond_true,wh]at h
    obtain⟨rfl,rfl⟩:=h
    simp only[Bool.and_eq_true]at hb
    have:=Nat.eq_of_beq_eq_true hb.1
    subst this
    obtain rfl:=hb.2
    cases hx _ rfl with
    | iface _ _ u hu' =>
     refine xf.pure hI (v:=.tuple #[u,.bool true]) ?_ ?_
     ·cases ty<;>first | (exact(hni _ rfl).elim) | (simp[Instr.typeAssert,run_underlying hu])
     ·have:=xz.cons hu' (xz.cons (RD.bool (κ:=κ) (b:=true)) xz.nil)
      exact .gK _ [u,.bool true] this.1 this.2
  ·exact absurd h zj
theorem Y6{t:Nat}{x:Option D}{v:Value}{d:Option D}{zO:St}(hI:Inv κ)(hx:∀ z,x=some z→RD κ z v)
  (h:(zX (sX c t x) κ.st).leads (d,zO)):xf c.P (do Pure.pure (.value (← Instr.makeInterface t v))) κ d zO:=by
 unfold sX at h
 cases hu:c.P.underlying t with
 | none=>rw[hu]at h; exact absurd h zj
 | some u =>
  rw[hu]at h
  cases u<;>simp only at h
  all_goals try exact absurd h zj
  all_goals
   split at h
   ·rw[wh]at h; obtain⟨rfl,rfl⟩:=h
    have hc:c.P.concrete t=true:=by unfold Program.concrete; rw[hu]
    exact xf.pure hI (run_makeInterface κ.w t v hc) (.iface t _ v (hx _ rfl))
   ·exact absurd h zj
theorem T5{e:Ty}{x y:D}{v:Value}{l:List (den e)}(hI:Inv κ)(hx:RD κ x v)(h:(rf κ.st x).leads y)(hl:Cn e y=some l):Src κ e l v:=by
 rcases Q9 hI hx h with⟨rfl,_⟩ | ⟨e',ys,rfl,hs,_⟩
 ·cases y with
  | zU σ z =>
   obtain⟨he,hz⟩:=qE (a:=σ) (b:=.sl e) hl
   cases he
   cases hz
   exact Lw hx
  | tight e' z ne =>
   obtain⟨he,hz⟩:=qE (a:=.sl e') (b:=.sl e) hl
   cases he
   cases hz
   exact tI hx
  | xw =>
   simp only[Cn,Option.some.injEq]at hl
   subst hl
   exact UO hx
  | _=>simp[Cn]at hl
 ·obtain⟨he,hz⟩:=qE (a:=.sl e') (b:=.sl e) hl
  cases he
  cases hz
  exact hs
theorem DX(l:List Int):strOfNums l=⟨(qV l).toArray⟩:=rfl
theorem KL{s t e:Nat}{x:Option D}{v:Value}{d:Option D}{zO:St}(hI:Inv κ)(hx:∀ z,x=some z→RD κ z v)(hs:c.P.underlying s=some (.slice e))(ht:c.P.underlying t=some .string)
  (h:(zX (V5 c e x) κ.st).leads (d,zO)):xf c.P (do Pure.pure (.value (← convert s t v))) κ d zO:=by
 unfold V5 at h
 split at h
 ·rename_i z he
  rw[mQ]at h
  obtain⟨h,rfl⟩:=h
  obtain⟨y,h1,h2⟩:=T.zY.1 h
  split at h2
  ·rename_i l hl
   cases h2
   have YQ:=T5 hI (hx _ rfl) h1 hl
   obtain⟨a,cap,f,rfl,wH,hn,g1,g2⟩:=YQ.ex
   have vZ:(convert s t (.slice a l.length cap)).run c.P κ.w=.ok (.string (strOfNums l)) κ.w:=by
    cases a with
    | none =>
     obtain⟨rfl,rfl⟩:=hn rfl
     exact run_convert_bytes_nil κ.w s e hs he 0 0 t ht
    | some p =>
     rcases g2 p rfl with⟨rfl,rfl⟩ | ⟨hp,_,hc⟩
     ·have h0:(loadCells p 0).run c.P κ.w=.ok (([]:List Int).map (Value.int .u8)).toArray κ.w:=by
       have:=run_loadCells_list (P:=c.P) κ.w p [] (fun j v hj=>by simp at hj)
       simpa using this
      simp only[List.length_nil]
      rw[run_convert_bytes_string κ.w s t e _ 0 0 hs he ht,run_bytesToString κ.w _ 0 0 [] h0]
      rfl
     ·obtain⟨blk,o,sp⟩:=p
      simp only at hp
      subst hp
      refine run_convert_bytes_arg κ.w s e hs he blk o l.length cap l rfl (fun i hi => ?_) t ht
      have hf:=(g1 i hi).fu
      have:=hc i hi 0 (.int .u8 l[i]) (by rw[hf]; rfl)
      have e1:o+i*Ty.size (.int .u8)+0=o+i:=by simp[Ty.size]
      rw[e1]at this
      rw[this]
      simp[List.getD,List.getElem?_eq_getElem hi]
   refine xf.pure hI vZ ?_
   rw[DX]
   exact .str
  ·exact h2.elim
 ·exact absurd h zj
theorem HG{s t:Nat}{x:Option D}{v:Value}{d:Option D}{zO:St}(hI:Inv κ)(hx:∀ z,x=some z→RD κ z v)
  (h:(zX (convertOp c s t x) κ.st).leads (d,zO)):xf c.P (do Pure.pure (.value (← convert s t v))) κ d zO:=by
 unfold convertOp at h
 split at h
 ·rename_i e hs ht
  exact KL hI hx hs ht h
 ·rename_i k0 k hs ht
  split at h
  ·rename_i k1 n hk
   have:=uu hk hx
   subst this
   rw[yA]at h
   obtain⟨rfl,rfl⟩:=h
   exact xf.pure hI (by simp[convert,run_underlying hs,run_underlying ht,Conv.intToInt]) RD.int
  ·exact absurd h zj
 ·rename_i hs ht
  split at h
  ·rename_i s' hk
   have:=rW hk hx
   subst this
   rw[wh]at h
   obtain⟨rfl,rfl⟩:=h
   exact xf.pure hI (by simp[convert,run_underlying hs,run_underlying ht]) RD.str
  ·exact absurd h zj
 ·exact absurd h zj
end
end Go.AM
namespace Go.AM
set_option linter.unusedSectionVars false
variable [uH]
section
variable {c:Ctx} {κ:KS}
theorem OD{ty t t':Nat}{s x:Option D}{v u:Value}{d:Option D}{zO:St}(hI:Inv κ)(hs:∀ z,s=some z→RD κ z v)(hx:∀ z,x=some z→RD κ z u)
  (h:(zX (Ij c t s x) κ.st).leads (d,zO)):xf c.P (do Pure.pure (.value (← Builtin.copy_ #[t,t'] ty #[v,u]))) κ d zO:=by
 unfold Ij at h
 split at h
 ·rename_i et het
  split at h
  ·rename_i k b qY k' off len z hu jm
   cases hk:decide (k'=k)with
   | false=>rw[hk]at h; exact absurd h zj
   | true =>
    rw[hk,cond_true]at h
    obtain rfl:k'=k:=of_decide_eq_true hk
    simp only[zX]at h
    obtain⟨y,h1,h2⟩:=T.zY.1 h
    split at h2
    ·rename_i l hl
     unfold Tn at h2
     split at h2
     ·rename_i kT e' ri hb
      split at h2
      ·rename_i xs VN
       obtain⟨he,hxx⟩:=qE (a:=.sl e') (b:=.sl (.int k')) VN
       cases he
       obtain rfl:xs=ri:=hxx
       obtain⟨⟨HJ,JK⟩,h2⟩:=h2
       cases h2
       subst HJ
       have YQ:=T5 hI (hx _ rfl) h1 hl
       obtain⟨a,cap,f,rfl,wH,hn,g1,g2⟩:=YQ.ex
       have hue:=ux het
       have z4M:(c.P.info? et).map (·.size)=some 1:=jm
       have hrd:=hs _ rfl
       cases hrd with
       | ms _ _ _ _ _ cap0 a0 HI hcap0 ha0 hsp0 hh =>
       have hm:=hh xs hb
       have J8:((List.take len l).map (Value.int k')).length=Nat.min l.length len:=by rw[List.length_map,List.length_take]; exact Nat.min_comm _ _
       have z4K:min len (List.length l)=Nat.min l.length len:=Nat.min_comm _ _
       by_cases h0:min len (List.length l)=0
       ·-- nothing goes over
        have vZ:=run_copy_none (P:=c.P) κ.w t t' ty et a0 a len cap0 l.length cap hue z4M (by rw[← z4K]; exact h0)
        have Vf:ym off len xs l=xs:=by
         unfold ym
         have ht:List.take len l=[]:=List.eq_nil_of_length_eq_zero (by rw[List.length_take]; exact h0)
         rw[ht,h0,List.append_nil,Nat.add_zero,List.take_append_drop]
        have lj:κ.st.set b (.arr qY (.int k') (ym off len xs l))=κ.st:=by
         rw[Vf]
         obtain⟨qu,hge⟩:=List.getElem?_eq_some_iff.1 hb
         rw[← hge,List.set_getElem_self]
        rw[lj]
        refine⟨κ,.value (goInt 0),goInt 0,by simp[vZ],.inl rfl,rfl,hI,Ext.refl κ,fun d' yZ => ?_⟩
        cases yZ
        rw[h0]
        exact RD.int
       ·obtain⟨hle,hm⟩:=hm
        rcases hm with⟨hz,_⟩ | ⟨blk,n,o,zk1,hp,hv,FI,RW,hc3⟩
        ·omega
        ·cases hv
         have ho:o=off:=by
          rcases hc3 with h | h
          ·omega
          ·simpa[Ty.size]using h
         subst ho
         have hl0:l≠[]:=fun h=>h0 (by rw[h]; simp)
         obtain⟨p,rfl⟩:∃ p,a=some p:=by
          cases a with
          | none=>exact absurd (hn rfl).1 hl0
          | some p=>exact⟨p,rfl⟩
         rcases g2 p rfl with⟨h,_⟩ | ⟨Z1,_,hc⟩
         ·exact absurd h hl0
         obtain⟨pb,po,psp⟩:=p
         simp only at Z1
         subst Z1
         obtain⟨_,Nt⟩:=hI.blk b _ hb
         rcases Nt with⟨_,Pe⟩ | ⟨mr,n',cs0,T,k1,k2,k3,k4,kr,g,k5⟩
         ·rw[hp]at Pe; cases Pe
         rw[hp]at k1
         cases k1
         have hn':List.length xs≤cs0.size:=by rw[k3]; simpa[Ty.size]using k4
         have cn:∀ (i:Nat) (hi:i<List.length xs),cs0[i]? = some (.int k' xs[i]):=by
          intro i hi
          obtain⟨q1,q2⟩:=k5 i hi
          have:=q2 0 (.int k' xs[i]) (by rw[q1.fu]; rfl)
          simpa[Ty.size]using this
         have zen:((List.take len l).map (Value.int k')).length≤len:=by simp; omega
         have vZ:=run_copy_row c.P κ.w t t' ty et blk o len cap0 ⟨pb,po,none⟩ l.length cap cs0 T ((List.take len l).map (Value.int k')) hue z4M k2 J8
          (fun j w hj=>by
           have hj':j<(List.take len l).length:=by have:=(List.getElem?_eq_some_iff.1 hj).1; simpa using this
           have MV:j<l.length:=by simp at hj'; omega
           have e1:w=.int k' l[j]:=by
            rw[List.getElem?_map,List.getElem?_take,if_pos (by simp at hj'; omega),List.getElem?_eq_getElem MV]at hj
            exact(Option.some.inj hj).symm
           have:=hc j MV 0 (.int k' l[j]) (by rw[(g1 j MV).fu]; rfl)
           have Jy:(⟨pb,po,none⟩:Addr).add j=⟨pb,po+j,none⟩:=by unfold Addr.add; split<;>simp_all
           rw[Jy,e1]
           simpa[Ty.size]using this)
          (by omega) (fun w hw=>by obtain⟨_,_,rfl⟩:=List.mem_map.1 hw; rfl)
         have hlen:List.length (ym o len xs l)=List.length xs:=by
          simp only[ym,List.length_append,List.length_take,List.length_drop]
          omega
         have rv:Alike (.arr qY (.int k') xs) (.arr qY (.int k') (ym o len xs l)):=⟨rfl,Nat.le_refl _,fun _=>hlen.symm⟩
         let lz:Array Value:=(cs0.toList.take o++(List.take len l).map (Value.int k')++cs0.toList.drop (o+((List.take len l).map (Value.int k')).length)).toArray
         have Yy:lz.size=n:=by
          simp only[lz,List.size_toArray,List.length_append,List.length_take,List.length_drop,Array.length_toList,List.length_map]at *
          omega
         have zdj:∀ (i:Nat) (hi:i<List.length (ym o len xs l)),lz[i]? = some (.int k' (ym o len xs l)[i]):=by
          intro i hi
          have h1:=om (cs:=cs0.toList) (us:=(List.take len l).map (Value.int k')) (o:=o) (n:=((List.take len l).map (Value.int k')).length) rfl (by simp; simp at zen; omega) i
          have e1:lz[i]? = (cs0.toList.take o++(List.take len l).map (Value.int k')++cs0.toList.drop (o+((List.take len l).map (Value.int k')).length))[i]? := by simp[lz]
          have NH:(List.map (Value.int k') (List.take len l)).length=min len (List.length l):=by simp
          rw[NH]at h1 e1
          have e2:(ym o len xs l)[i]? = if i<o then xs[i]? else if i<o+min len (List.length l)then(List.take len l)[i-o]? else xs[i]? := by
           unfold ym
           have hto:(List.take o xs).length=o:=by simp; omega
           by_cases q1:i<o
           ·rw[if_pos q1,List.append_assoc,List.getElem?_append_left (by omega),List.getElem?_take,if_pos q1]
           ·rw[if_neg q1,List.append_assoc,List.getElem?_append_right (by omega),hto]
            by_cases q2:i<o+min len (List.length l)
            ·rw[if_pos q2,List.getElem?_append_left (by simp; omega)]
            ·rw[if_neg q2,List.getElem?_append_right (by simp; omega),List.getElem?_drop,List.length_take]
             congr 1; omega
          have e3:(ym o len xs l)[i]? = some (ym o len xs l)[i]:=List.getElem?_eq_getElem hi
          rw[e1,h1]
          rw[e2]at e3
          have hix:i<List.length xs:=by rw[← hlen]; exact hi
          split
          ·rename_i q1
           rw[if_pos q1,List.getElem?_eq_getElem hix]at e3
           rw[Array.getElem?_toList,cn i hix,Option.some.inj e3]
          ·rename_i q1
           rw[if_neg q1]at e3
           split
           ·rename_i q2
            rw[if_pos q2]at e3
            rw[List.getElem?_map,e3]
            rfl
           ·rename_i q2
            rw[if_neg q2,List.getElem?_eq_getElem hix]at e3
            rw[Array.getElem?_toList,cn i hix,Option.some.inj e3]
         refine⟨κ.BH b blk lz (.arr qY (.int k') (ym o len xs l)),.value (goInt (((List.take len l).map (Value.int k')).length:Nat)),goInt (((List.take len l).map (Value.int k')).length:Nat),(by rw[Sem.run_bind,vZ]; rfl),.inl rfl,rfl,W8 hI hp hb rv ?_,nP hI hp hb rv,fun d' yZ => ?_⟩
         ·refine⟨by simp[Ty.size],.inr ⟨blk,n,lz,T,hp,setRow_heap κ.w blk cs0 lz T (0,0) k2,Yy,by simp[Ty.size]; omega,kr,fun i=>[.int k' ((ym o len xs l).getD i 0)],fun i hi => ?_⟩⟩
          have hg:(ym o len xs l).getD i 0=(ym o len xs l)[i]:=by simp[List.getD_eq_getElem?_getD,List.getElem?_eq_getElem hi]
          show Rc _ _ (.int k') _ [Value.int k' ((ym o len xs l).getD i 0)]∧∀ (j:Nat) (v:Value),[Value.int k' ((ym o len xs l).getD i 0)][j]? = some v→_
          rw[hg]
          refine⟨.int k' _,fun j w hj => ?_⟩
          cases j with
          | zero =>
           simp at hj
           subst hj
           simpa[Ty.size]using zdj i hi
          | succ j=>simp at hj
         ·cases yZ
          rw[z4K,← J8]
          exact RD.int
      ·exact h2.elim
     ·exact h2.elim
    ·exact h2.elim
  ·exact absurd h zj
 ·exact absurd h zj
end
end Go.AM
namespace Go.AM
set_option linter.unusedSectionVars false
variable [uH]
def uU(P:Program)(g:Nat)(args:Array Value)(w:World)(R:Ending→World→Prop):Prop :=
 ((callFunc g args).run P w=.ok (.enter g args) w∧Calls P g args w R)∨∃ v w',(callFunc g args).run P w=.ok (.value v) w'∧R (.returned v) w'
theorem uU.mono{P:Program}{g:Nat}{args:Array Value}{w:World}{R R':Ending→World→Prop}(h:uU P g args w R)(hr:∀ e w,R e w→R' e w):uU P g args w R':=by
 rcases h with⟨h1,h2⟩ | ⟨v,w',h1,h2⟩
 ·exact .inl ⟨h1,h2.mono hr⟩
 ·exact .inr ⟨v,w',h1,hr _ _ h2⟩
def vH(κ:KS):HV→Ending→Prop
 | .ret ds,e=>∃ v,e=.returned v∧RD κ (gq ds) v
 | .cg d,e=>∃ v,e=.panicked [{ v,recovered:=false }]∧RD κ d v
abbrev z6w:=Nat→Array Value→World→(Ending→World→Prop)→Prop
def zg4(Dr:z6w)(g:Nat)(S:List D→St→T (HV×St)):Prop :=
 ∀ (κ:KS) (args:List D) (qj:List Value) (rs:HV) (zO:St),(S args κ.st).leads (rs,zO)→Inv κ→xz κ args qj →
  Dr g qj.toArray κ.w fun e w'=>∃ κ':KS,κ'.w=w'∧κ'.st=zO∧Inv κ'∧Ext κ κ'∧vH κ' rs e
def Dl(P:Program)(g:Nat)(S:List D→St→T (HV×St)):Prop :=
 ∀ (κ:KS) (args:List D) (qj:List Value) (rs:HV) (zO:St),(S args κ.st).leads (rs,zO)→Inv κ→xz κ args qj →
  uU P g qj.toArray κ.w fun e w'=>∃ κ':KS,κ'.w=w'∧κ'.st=zO∧Inv κ'∧Ext κ κ'∧vH κ' rs e
section
variable {c:Ctx} {κ:KS}
theorem RD.weaken{Vi:Nat→Prop}(hs:∀ k,κ.ok k→Vi k){d:D}{v:Value}(h:RD κ d v):RD { κ with ok:=Vi } d v:=by
 have Vf:F1 κ.w κ.w κ.ok Vi:=fun k hk=>⟨hs k hk,rfl⟩
 induction h with
 | zU τ y cs h=>exact .zU τ y cs (h.mono Vf)
 | xJ e a=>exact .xJ e a
 | tight e l ne blk off f uv wm h hc=>exact .tight e l ne blk off f uv (hs _ wm) (fun i hi=>(h i hi).mono Vf) hc
 | xw=>exact .xw
 | yI=>exact .yI
 | wb=>exact .wb
 | u9=>exact .u9
 | vX=>exact .vX
 | ZV v h=>exact .ZV v h
 | dp T=>exact .dp T
 | dU b T d hd=>exact .dU b T d hd
 | dD b T blk n d hd h=>exact .dD b T blk n d hd h
 | ptr b off blk n d hd h=>exact .ptr b off blk n d hd h
 | xx τ y cs blk off wm h hc=>exact .xx τ y cs blk off (hs _ wm) (h.mono Vf) hc
 | uC b qY e idx off blk o hb h=>exact .uC b qY e idx off blk o hb h
 | ms b qY e off len cap a hb wH ha Z1 h=>exact .ms b qY e off len cap a hb wH ha Z1 h
 | xr f l vs hl h ih=>exact .xr f l vs hl ih
 | agg l vs hl ho h ih=>exact .agg l vs hl ho ih
 | gK l vs hl h ih=>exact .gK l vs hl ih
 | iface t d v h ih=>exact .iface t d v ih
theorem RD.free{κ':KS}(hw:κ'.w=κ.w)(wm:κ'.ok=κ.ok)(xR:κ.st=[]){d:D}{v:Value}(h:RD κ d v):RD κ' d v:=by
 obtain⟨w',Vi,ph',zO⟩:=κ'
 simp only at hw wm
 subst hw wm
 induction h with
 | zU τ y cs h=>exact .zU τ y cs h
 | xJ e a=>exact .xJ e a
 | tight e l ne blk off f uv wm h hc=>exact .tight e l ne blk off f uv wm h hc
 | xw=>exact .xw
 | yI=>exact .yI
 | wb=>exact .wb
 | u9=>exact .u9
 | vX=>exact .vX
 | ZV v h=>exact .ZV v h
 | dp T=>exact .dp T
 | dU b T d hd=>rw[xR]at hd; simp at hd
 | dD b T blk n d hd h=>rw[xR]at hd; simp at hd
 | ptr b off blk n d hd h=>rw[xR]at hd; simp at hd
 | xx τ y cs blk off wm h hc=>exact .xx τ y cs blk off wm h hc
 | uC b qY e idx off blk o hb h=>rcases hb with hb | ⟨_,_,_,hb,_⟩ <;> · rw[xR]at hb; simp at hb
 | ms b qY e off len cap a hb wH ha Z1 h=>rcases hb with hb | ⟨_,_,_,hb,_⟩ <;> · rw[xR]at hb; simp at hb
 | xr f l vs hl h ih=>exact .xr f l vs hl ih
 | agg l vs hl ho h ih=>exact .agg l vs hl ho ih
 | gK l vs hl h ih=>exact .gK l vs hl ih
 | iface t d v h ih=>exact .iface t d v ih
theorem Rc.scalar{w w':World}{ok Vi:Nat→Prop}{τ:Ty}{x:den τ}{cs:List Value}(h:Rc w ok τ x cs)(ht:τ.scalar=true):Rc w' Vi τ x cs:=by
 induction h with
 | int k n=>exact .int k n
 | bool b=>exact .bool b
 | str s=>exact .str s
 | iG=>cases ht
 | sl=>cases ht
 | nil=>exact .nil
 | cons a b x y c1 c2 h1 h2 i1 i2=>simp only[Ty.scalar,Bool.and_eq_true]at ht; exact .cons a b x y c1 c2 (i1 ht.1) (i2 ht.2)
 | expr=>cases ht
theorem z61{e:Ty}{ys:List (den e)}{v:Value}(h:Src κ e ys v):Rc κ.w (P9 κ) (.sl e) ys [v]:=by
 obtain⟨a,cap,f,rfl,wH,hn,h1,h2⟩:=h.ex
 cases a with
 | none=>obtain⟨rfl,rfl⟩:=hn rfl; exact .iG e none
 | some p =>
  rcases h2 p rfl with⟨rfl,rfl⟩ | ⟨hp,wm,hc⟩
  ·exact .iG e _
  obtain⟨blk,o,sp⟩:=p
  simp only at hp
  subst hp
  exact .sl e ys blk o cap f wm wH (fun i hi=>(h1 i hi).mono fun k hk=>⟨.inl hk,rfl⟩) hc
def KS.all(κ:KS):KS:={ κ with ok:=P9 κ }
theorem RD.all{d:D}{v:Value}(h:RD κ d v):RD κ.all d v:=h.weaken fun _ hk=>.inl hk
theorem xz.all{l:List D}{vs:List Value}(h:xz κ l vs):xz κ.all l vs:=⟨h.1,fun i h1 h2=>(h.2 i h1 h2).all⟩
theorem H9{x y:D}{v:Value}(hI:Inv κ)(hx:RD κ x v)(h:(rf κ.st x).leads y):RD κ.all y v∧(x.one=true→y.one=true)∧(x.uE=false→y.uE=false):=by
 rcases Q9 hI hx h with⟨rfl,_⟩ | ⟨e,ys,rfl,hs,_⟩
 ·exact⟨hx.all,id,id⟩
 ·exact⟨RD.nD rfl (z61 hs),fun _=>rfl,fun _=>rfl⟩
theorem G4(hI:Inv κ):∀ {l r:List D} {vs:List Value},xz κ l vs→(∀ d∈l,d.one=true)→(H4 κ.st l).leads r→xz κ.all r vs∧∀ d∈r,d.one=true
 | [],r,vs,h,_,hs=>by cases hs; rw[h.qI]; exact⟨.nil,nofun⟩
 | d::l,r,vs,h,ho,hs=>by
  simp only[H4,T.zY]at hs
  obtain⟨x,hx,l',hl,rfl⟩:=hs
  obtain⟨v,us,rfl,h1,h2⟩:=h.cons_inv
  obtain⟨g1,g2,_⟩:=H9 hI h1 hx
  obtain⟨k1,k2⟩:=G4 hI h2 (fun d hd=>ho d (List.mem_cons_of_mem _ hd)) hl
  refine⟨.cons g1 k1,fun d hd => ?_⟩
  rcases List.mem_cons.1 hd with rfl | hd
  ·exact g2 (ho _ List.mem_cons_self)
  ·exact k2 d hd
theorem SG{x y:D}{v:Value}(hI:Inv κ)(hx:RD κ x v)(h:(snap κ.st x).leads y):RD κ.all y v:=by
 cases x with
 | agg l =>
  simp only[snap,T.zY]at h
  obtain⟨r,hr,rfl⟩:=h
  cases hx with
  | agg _ vs hl ho hh =>
   obtain⟨g1,g2⟩:=G4 hI (⟨hl,hh⟩:xz κ l vs) ho hr
   exact .agg r vs g1.1 g2 g1.2
 | _=>exact(H9 hI hx h).1
theorem Xs{τ:Ty}{d:D}{x:den τ}{v:Value}(hI:Inv κ)(hd:RD κ d v)(h:(QQ κ.st τ d).leads x):RD κ.all (.zU τ x) v:=by
 simp only[QQ,T.zY,T.uh]at h
 obtain⟨y,h1,h2⟩:=h
 exact cL (SG hI hd h1) h2
theorem Gq{x y:D}(h:(rf [] x).leads y):y=x:=by
 cases x with
 | ms=>simp[rf,T.leads]at h
 | _=>exact h.symm
theorem GS:∀ {l r:List D},(H4 [] l).leads r→r=l
 | [],_,h=>h.symm
 | d::l,r,h=>by
  simp only[H4,T.zY]at h
  obtain⟨x,hx,l',hl,rfl⟩:=h
  rw[Gq hx,GS hl]
theorem RS{x y:D}(h:(snap [] x).leads y):y=x:=by
 cases x with
 | agg l =>
  simp only[snap,T.zY]at h
  obtain⟨r,hr,rfl⟩:=h
  rw[GS hr]
 | _=>exact Gq h
theorem Cs{τ:Ty}{d:D}{x:den τ}{v:Value}(hd:RD κ d v)(h:(QQ [] τ d).leads x):RD κ (.zU τ x) v:=by
 simp only[QQ,T.zY,T.uh]at h
 obtain⟨y,h1,h2⟩:=h
 rw[RS h1]at h2
 exact cL hd h2
def VO:D→Bool | .zU .. | .xx .. => true | _=>false
def MS:D→Bool
 | .xr _ l=>l.all VO
 | d=>VO d
theorem z3s{d:D}(h:VO d=true):MS d=true:=by cases d<;>first | exact h | cases h
theorem Y1{st:St}{τ:Ty}{d y:D}(h:(pS st τ d).leads y):VO y=true:=by
 unfold pS at h
 split at h
 ·split at h
  ·cases h; rfl
  ·exact h.elim
 ·split at h
  ·split at h
   ·cases h; rfl
   ·exact h.elim
  ·exact h.elim
 ·exact h.elim
theorem G3{τ:Ty}{d y:D}{v:Value}(hI:Inv κ)(hd:RD κ d v)(h:(pS κ.st τ d).leads y):RD κ.all y v:=by
 unfold pS at h
 split at h
 ·split at h
  ·rename_i x z hz
   cases h
   obtain⟨e,rfl⟩:=qE hz
   cases e
   exact hd.all
  ·exact h.elim
 ·rename_i b off
  split at h
  ·rename_i d' hb
   split at h
   ·rename_i z hz
    cases h
    cases ho:Nat.beq off 0 with
    | false=>rw[ho]at hz; cases hz
    | true =>
     rw[ho,cond_true]at hz
     have:=Nat.eq_of_beq_eq_true ho
     subst this
     obtain⟨blk,n,cs,t,g1,g2,g3,g4,g5⟩:=hI.blk b _ hb
     cases hd with
     | ptr _ _ mr n' d1 O3 hp =>
      rw[g1]at hp
      cases hp
      have wm:P9 κ blk:=.inr ⟨b,n,g1⟩
      have ht:d'.uE=false:=by
       cases d' with
       | gK l=>simp[dX,D.uE]at hz
       | _=>rfl
      have hrc:=rO hz g4 g5.1 ht
      refine .xx τ z cs.toList blk 0 wm (hrc.mono fun k hk=>⟨.inl hk,rfl⟩) fun j v hj => ?_
      show κ.w.cell? _=_
      rw[tE g2,Nat.zero_add]
      simpa using hj
   ·exact h.elim
  ·exact h.elim
 ·exact h.elim
theorem GM{τ:Ty}{d y:D}{v:Value}(hd:RD κ d v)(h:(pS [] τ d).leads y):RD κ y v:=by
 unfold pS at h
 split at h
 ·split at h
  ·rename_i x z hz
   cases h
   obtain⟨e,rfl⟩:=qE hz
   cases e
   exact hd
  ·exact h.elim
 ·rename_i b off
  split at h
  ·rename_i d' hb; simp at hb
  ·exact h.elim
 ·exact h.elim
theorem DO{st:St}{p:WB}{d y:D}(h:(tg st p d).leads y):VO y=true:=by
 cases p with
 | rp τ=>exact Y1 h
 | im τ=>simp only[tg,T.zY]at h; obtain⟨x,_,rfl⟩:=h; rfl
theorem FM{p:WB}{d y:D}{v:Value}(hI:Inv κ)(hd:RD κ d v)(h:(tg κ.st p d).leads y):RD κ.all y v:=by
 cases p with
 | rp τ=>exact G3 hI hd h
 | im τ=>simp only[tg,T.zY]at h; obtain⟨x,hx,rfl⟩:=h; exact Xs hI hd hx
theorem FX{p:WB}{d y:D}{v:Value}(hd:RD κ d v)(h:(tg [] p d).leads y):RD κ y v:=by
 cases p with
 | rp τ=>exact GM hd h
 | im τ=>simp only[tg,T.zY]at h; obtain⟨x,hx,rfl⟩:=h; exact Cs hd hx
theorem Xz{st:St}:∀ {ps:List WB} {ds r:List D},(cV st ps ds).leads r→∀ d∈r,VO d=true
 | [],[],r,hs=>by cases hs; nofun
 | p::ps,d::ds,r,hs=>by
  simp only[cV,T.zY]at hs
  obtain⟨x,hx,l,hl,rfl⟩:=hs
  intro d' yZ
  rcases List.mem_cons.1 yZ with rfl | yZ
  ·exact DO hx
  ·exact Xz hl d' yZ
 | [],_::_,_,hs=>hs.elim
 | _::_,[],_,hs=>hs.elim
theorem U9(hI:Inv κ):∀ {ps:List WB} {ds r:List D} {vs:List Value},xz κ ds vs→(cV κ.st ps ds).leads r→xz κ.all r vs
 | [],[],r,vs,h,hs=>by cases hs; rw[h.qI]; exact .nil
 | p::ps,d::ds,r,vs,h,hs=>by
  simp only[cV,T.zY]at hs
  obtain⟨x,hx,l,hl,rfl⟩:=hs
  obtain⟨v,us,rfl,h1,h2⟩:=h.cons_inv
  exact .cons (FM hI h1 hx) (U9 hI h2 hl)
 | [],_::_,_,_,_,hs=>hs.elim
 | _::_,[],_,_,_,hs=>hs.elim
theorem Ui:∀ {ps:List WB} {ds r:List D} {vs:List Value},xz κ ds vs→(cV [] ps ds).leads r→xz κ r vs
 | [],[],r,vs,h,hs=>by cases hs; rw[h.qI]; exact .nil
 | p::ps,d::ds,r,vs,h,hs=>by
  simp only[cV,T.zY]at hs
  obtain⟨x,hx,l,hl,rfl⟩:=hs
  obtain⟨v,us,rfl,h1,h2⟩:=h.cons_inv
  exact .cons (FX h1 hx) (Ui h2 hl)
 | [],_::_,_,_,_,hs=>hs.elim
 | _::_,[],_,_,_,hs=>hs.elim
theorem Qu{st:St}{p:QL}{d y:D}(h:(C4 st p d).leads y):(∃ τ x,p=.ty τ∧(QQ st τ d).leads x∧y=.zU τ x)∨(∃ τ,p=.rp τ∧(pS st τ d).leads y) ∨
  ∃ f caps l l',p=.xr f caps∧d=.xr f l∧(cV st caps l).leads l'∧y=.xr f l':=by
 cases p with
 | ty τ =>
  have h':((QQ st τ d).bind fun x=>T.ret (D.zU τ x)).leads y:=by cases d<;>exact h
  simp only[T.zY]at h'
  obtain⟨x,hx,rfl⟩:=h'
  exact .inl ⟨τ,x,rfl,hx,rfl⟩
 | rp τ=>exact .inr (.inl ⟨τ,rfl,by cases d<;>exact h⟩)
 | xr f caps =>
  cases d with
  | xr f' l =>
   simp only[C4]at h
   cases hb:Nat.beq f f' with
   | false=>rw[hb]at h; exact h.elim
   | true =>
    rw[hb,cond_true,T.zY]at h
    obtain⟨l',hl,rfl⟩:=h
    have:=Nat.eq_of_beq_eq_true hb
    subst this
    exact .inr (.inr ⟨f,caps,l,l',rfl,rfl,hl,rfl⟩)
  | _=>exact h.elim
theorem Nx{st:St}{p:QL}{d y:D}(h:(C4 st p d).leads y):MS y=true:=by
 rcases Qu h with⟨τ,x,_,_,rfl⟩ | ⟨τ,_,h⟩ | ⟨f,caps,l,l',_,_,h',rfl⟩
 ·rfl
 ·exact z3s (Y1 h)
 ·exact List.all_eq_true.2 (Xz h')
theorem Rr{p:QL}{d y:D}{v:Value}(hI:Inv κ)(hd:RD κ d v)(h:(C4 κ.st p d).leads y):RD κ.all y v:=by
 rcases Qu h with⟨τ,x,_,hx,rfl⟩ | ⟨τ,_,h⟩ | ⟨f,caps,l,l',_,rfl,h',rfl⟩
 ·exact Xs hI hd hx
 ·exact G3 hI hd h
 ·cases hd with
  | xr _ _ vs hl hh =>
   have:=U9 hI (⟨hl,hh⟩:xz κ l vs) h'
   exact .xr f l' vs this.1 this.2
theorem Pr{p:QL}{d y:D}{v:Value}(hd:RD κ d v)(h:(C4 [] p d).leads y):RD κ y v:=by
 rcases Qu h with⟨τ,x,_,hx,rfl⟩ | ⟨τ,_,h⟩ | ⟨f,caps,l,l',_,rfl,h',rfl⟩
 ·exact Cs hd hx
 ·exact GM hd h
 ·cases hd with
  | xr _ _ vs hl hh =>
   have:=Ui (⟨hl,hh⟩:xz κ l vs) h'
   exact .xr f l' vs this.1 this.2
theorem Qw{st:St}:∀ {ps:List QL} {ds r:List D},(pJ st ps ds).leads r→∀ d∈r,MS d=true
 | [],[],r,hs=>by cases hs; nofun
 | p::ps,d::ds,r,hs=>by
  simp only[pJ,T.zY]at hs
  obtain⟨x,hx,l,hl,rfl⟩:=hs
  intro d' yZ
  rcases List.mem_cons.1 yZ with rfl | yZ
  ·exact Nx hx
  ·exact Qw hl d' yZ
 | [],_::_,_,hs=>hs.elim
 | _::_,[],_,hs=>hs.elim
theorem H0(hI:Inv κ):∀ {ps:List QL} {ds r:List D} {vs:List Value},xz κ ds vs→(pJ κ.st ps ds).leads r→xz κ.all r vs
 | [],[],r,vs,h,hs=>by cases hs; rw[h.qI]; exact .nil
 | p::ps,d::ds,r,vs,h,hs=>by
  simp only[pJ,T.zY]at hs
  obtain⟨x,hx,l,hl,rfl⟩:=hs
  obtain⟨v,us,rfl,h1,h2⟩:=h.cons_inv
  exact .cons (Rr hI h1 hx) (H0 hI h2 hl)
 | [],_::_,_,_,_,hs=>hs.elim
 | _::_,[],_,_,_,hs=>hs.elim
theorem WQ:∀ {ps:List QL} {ds r:List D} {vs:List Value},xz κ ds vs→(pJ [] ps ds).leads r→xz κ r vs
 | [],[],r,vs,h,hs=>by cases hs; rw[h.qI]; exact .nil
 | p::ps,d::ds,r,vs,h,hs=>by
  simp only[pJ,T.zY]at hs
  obtain⟨x,hx,l,hl,rfl⟩:=hs
  obtain⟨v,us,rfl,h1,h2⟩:=h.cons_inv
  exact .cons (Pr h1 hx) (WQ h2 hl)
 | [],_::_,_,_,hs,h=>h.elim
 | _::_,[],_,_,hs,h=>h.elim
def KS.bare(κ:KS)(ok:Nat→Prop):KS:=⟨κ.w,ok,[],[]⟩
theorem Jv{ok:Nat→Prop}(hI:Inv κ)(hs:∀ k,κ.ok k→ok k)(h:∀ k,ok k→k<κ.w.heap.size):Inv (κ.bare ok) :=
 ⟨rfl,h,fun b blk n h=>by simp[KS.bare]at h,fun b b' blk n n' h=>by simp[KS.bare]at h,fun b x h=>by simp[KS.bare]at h,hI.gl.mono fun k hk=>⟨hs k hk,rfl⟩⟩
theorem pq{ok:Nat→Prop}{d:D}{v:Value}(hi:VO d=true)(h:RD { κ with ok:=ok } d v):RD (κ.bare ok) d v:=by
 cases d with
 | zU τ x=>obtain⟨cs,h1,rfl⟩:=RD.gX h; exact .zU τ x cs h1
 | xx τ x=>cases h with | xx _ _ cs blk off wm h hc=>exact .xx τ x cs blk off wm h hc
 | _=>cases hi
theorem Ga{ok:Nat→Prop}{d:D}{v:Value}(hi:MS d=true)(h:RD { κ with ok:=ok } d v):RD (κ.bare ok) d v:=by
 cases d with
 | xr f l =>
  cases h with
  | xr _ _ vs hl hh=>exact .xr f l vs hl fun i h1 h2=>pq (List.all_eq_true.1 hi _ (List.getElem_mem h1)) (hh i h1 h2)
 | zU τ x=>exact pq hi h
 | xx τ x=>exact pq hi h
 | _=>cases hi
theorem CM{κ1:KS}{ok:Nat→Prop}(hI:Inv κ)(Wy:Inv κ1)(xR:κ1.st=[])(hx:Ext (κ.bare ok) κ1)(Vi:Nat→Prop)(h1:∀ k,κ.ok k→Vi k)(h2:∀ k,Vi k→κ.ok k∨κ.w.heap.size≤k)(h3:∀ k,Vi k→k<κ1.w.heap.size) :
  Ext κ { κ with w:=κ1.w,ok:=Vi }∧Inv { κ with w:=κ1.w,ok:=Vi }:=by
 have hfr:∀ k,k<κ.w.heap.size→κ1.w.heap[k]? = κ.w.heap[k]? := fun k hk=>hx.frame k hk fun b n h=>by simp[KS.bare]at h
 have jm:κ.w.heap.size≤κ1.w.heap.size:=hx.size
 have he:Ext κ { κ with w:=κ1.w,ok:=Vi }:=⟨hx.os,hx.tape,hx.output,jm,fun k hk=>⟨h1 k hk,hfr k (hI.yi k hk)⟩,fun k hk=>(h2 k hk).elim .inl (fun h=>.inr (.inl h)),fun _ _ _ h=>.inl h,fun b d h=>⟨⟨d,h⟩,rfl⟩,
  fun b v0 e xs h=>.inr ⟨v0,xs,h,Nat.le_refl _,fun _=>⟨rfl,rfl⟩⟩,fun _ h=>h,Nat.le_refl _,fun k hk _=>hfr k hk⟩
 refine⟨he,hI.len,h3,fun b blk n h => ?_,hI.inj,fun b x h=>(hI.blk b x h).mono he rfl fun blk n h=>hfr _ (hI.apart b blk n h).1,hI.gl.mono he.same⟩
 obtain⟨g1,g2⟩:=hI.apart b blk n h
 refine⟨Nat.lt_of_lt_of_le g1 jm,fun hk => ?_⟩
 rcases h2 blk hk with h | h
 ·exact g2 h
 ·exact absurd g1 (Nat.not_lt.2 h)
theorem Oq{g:Nat}{args:List D}{qj:List Value}{d:Option D}{zO:St}(hs:Dl c.P g (c.fn g))(hI:Inv κ)(ha:xz κ args qj)
  (h:(zX (match c.sig g args with | some s=>bq c g s args | none=>Z8 c g args) κ.st).leads (d,zO)) :
  uU c.P g qj.toArray κ.w fun e w'=>∃ (κ':KS) (v:Value),κ'.w=w'∧κ'.st=zO∧Inv κ'∧Ext κ κ'∧e=.returned v∧∀ d',d=some d'→RD κ' d' v:=by
 split at h
 ·rename_i s OP
  unfold bq at h
  cases hm:(!(args.any Kt))with
  | true =>
   rw[hm,cond_true,wK]at h
   obtain⟨h,rfl⟩:=h
   simp only[T.zY]at h
   obtain⟨l,hl,⟨rs,bP⟩,hc,hr⟩:=h
   have eS:=WQ ha hl
   have hb:xz (κ.bare κ.ok) l qj:=⟨eS.1,fun i h1 h2=>Ga (Qw hl _ (List.getElem_mem h1)) (eS.2 i h1 h2)⟩
   refine(hs (κ.bare κ.ok) l qj rs bP hc (Jv hI (fun _ h=>h) hI.yi) hb).mono ?_
   rintro e w' ⟨κ1,rfl,xR,Wy,hx,he⟩
   unfold Rq at hr
   split at hr
   ·rename_i ds heq
    cases heq
    cases hr
    obtain⟨v,rfl,hv⟩:=he
    obtain⟨hE,hI'⟩:=CM hI Wy xR hx κ1.ok (fun k hk=>(hx.same k hk).1) (fun k hk=>by
     rcases hx.fresh k hk with h | h | ⟨b,n,h⟩
     ·exact .inl h
     ·exact .inr h
     ·simp[KS.bare]at h) Wy.yi
    exact⟨{ κ with w:=κ1.w,ok:=κ1.ok },v,rfl,rfl,hI',hE,rfl,fun d' yZ=>by cases yZ; exact RD.free (κ:=κ1) (κ':={ κ with w:=κ1.w,ok:=κ1.ok }) rfl rfl xR hv⟩
   ·exact hr.elim
  | false =>
   rw[hm,cond_false,mQ]at h
   obtain⟨h,rfl⟩:=h
   simp only[T.zY]at h
   obtain⟨l,hl,⟨rs,bP⟩,hc,hr⟩:=h
   have eS:=H0 hI ha hl
   have hb:xz (κ.bare (P9 κ)) l qj:=⟨eS.1,fun i h1 h2=>Ga (Qw hl _ (List.getElem_mem h1)) (eS.2 i h1 h2)⟩
   have qu:∀ k,P9 κ k→k<κ.w.heap.size:=by
    rintro k (hk | ⟨b,n,hk⟩)
    ·exact hI.yi k hk
    ·exact(hI.apart b k n hk).1
   refine(hs (κ.bare (P9 κ)) l qj rs bP hc (Jv hI (fun _ h=>.inl h) qu) hb).mono ?_
   rintro e w' ⟨κ1,rfl,xR,Wy,hx,he⟩
   unfold tK at hr
   split at hr
   ·rename_i ds heq
    cases heq
    cases na:ds.all tV with
    | false=>rw[na]at hr; exact hr.elim
    | true =>
     rw[na,cond_true]at hr
     cases hr
     obtain⟨v,rfl,hv⟩:=he
     obtain⟨hE,hI'⟩:=CM hI Wy xR hx κ.ok (fun k hk=>hk) (fun k hk=>.inl hk) (fun k hk=>Nat.lt_of_lt_of_le (hI.yi k hk) hx.size)
     refine⟨{ κ with w:=κ1.w,ok:=κ.ok },v,rfl,rfl,hI',hE,rfl,fun d' yZ => ?_⟩
     cases yZ
     have one:∀ d u,tV d=true→RD κ1 d u→RD { κ with w:=κ1.w,ok:=κ.ok } d u:=by
      intro d u hd hu
      cases d<;>simp[tV]at hd
      obtain⟨cs,h1,rfl⟩:=RD.gX hu
      exact .zU _ _ cs (h1.scalar hd)
     have Ul:=List.all_eq_true.1 na
     unfold gq at hv ⊢
     split at hv
     ·exact one _ _ (Ul _ (by simp)) hv
     ·rename_i uv
      cases hv with
      | gK _ vs hl hh=>exact .gK ds vs hl fun i h1 h2=>one _ _ (Ul _ (List.getElem_mem h1)) (hh i h1 h2)
   ·exact hr.elim
 ·unfold Z8 at h
  simp only[zX,T.zY]at h
  obtain⟨⟨rs,bP⟩,hc,hr⟩:=h
  refine(hs κ args qj rs bP hc hI ha).mono ?_
  rintro e w' ⟨κ1,rfl,xR,Wy,hx,he⟩
  cases rs with
  | cg p=>exact hr.elim
  | ret ds =>
   cases hr
   obtain⟨v,rfl,hv⟩:=he
   exact⟨κ1,v,rfl,xR,Wy,hx,rfl,fun d' yZ=>by cases yZ; exact hv⟩
end
end Go.AM