/-
  The abstract machine, part B: texts of our own, the same for each claim.
-/
import Derived.Test.YthhgaidlooddpaaGreatDoorAmA
import Derived.Lib.AppendStr
import Derived.WideLaws
import Derived.Laws.BytesArg
import Derived.Laws.CopyRow
import Derived.Laws.IdiomCopy
set_option linter.unusedVariables false
namespace Go.AM
set_option linter.unusedSectionVars false
variable [vQ]
section
variable {c:Ctx} {κ κ':KS}
theorem dT.mono(x:Ext κ κ'){b:Nat}(hp:κ'.ph[b]? = κ.ph[b]?)(hh:∀ blk n,κ.ph[b]? = some (some (blk,n))->κ'.w.heap[blk]? = κ.w.heap[blk]?){y:kG}(h:dT κ b y):dT κ' b y:=by
 cases y with
 | dead=>trivial
 | var d =>
  obtain⟨blk,n,cs,t,h1,h2,h3,h4,h5⟩:=h
  exact⟨blk,n,cs,t,hp.trans h1,(hh blk n h1).trans h2,h3,h4.mono x,h5⟩
 | arr qy e xs =>
  obtain⟨h0,h⟩:=h
  refine⟨h0,dE h (λh=>⟨h.1,hp.trans h.2⟩) ?_⟩
  rintro⟨blk,n,cs,t,h1,h2,h3,h4,hr,f,h5⟩
  exact⟨blk,n,cs,t,hp.trans h1,(hh blk n h1).trans h2,h3,h4,hr,f,λi hi=>⟨(h5 i hi).1.mono x.same,(h5 i hi).2⟩⟩
def KS.zI(κ:KS)(w':World):KS:={ κ with w:=w',ok:=λk=>κ.ok k\/k=κ.w.heap.size }
structure dH(w w':World)(o:Obj):Prop where
 os:w'.os=w.os
 tape:w'.tape=w.tape
 output:w'.output=w.output
 heap:w'.heap=w.heap.push o
theorem dH.size{w w':World}{o:Obj}(g:dH w w' o):w'.heap.size=w.heap.size+1:=by rw[g.heap]; simp
theorem dH.old{w w':World}{o:Obj}(g:dH w w' o){k:Nat}(h:k<w.heap.size):w'.heap[k]? = w.heap[k]? := by
 rw[g.heap,Array.getElem?_push,if_neg (by omega)]
theorem dH.new{w w':World}{o:Obj}(g:dH w w' o):w'.heap[w.heap.size]? = some o:=by rw[g.heap]; simp
theorem dH.alloc(w:World)(o:Obj):dH w (w.alloc o) o:=⟨rfl,rfl,rfl,rfl⟩
theorem dH.drew(w:World)(o:Obj):dH w (w.drew.alloc o) o:=⟨rfl,rfl,rfl,rfl⟩
theorem WM{w':World}{o:Obj}(hI:Inv κ)(g:dH κ.w w' o):Ext κ (κ.zI w'):=by
 refine⟨g.os,g.tape,g.output,by show κ.w.heap.size<=w'.heap.size; rw[g.size]; omega,λk hk=>⟨.inl hk,g.old (hI.yw k hk)⟩,?_,λ_ _ _ h=>.inl h,λb d h=>⟨⟨d,h⟩,rfl⟩,
  λb v0 e xs h=>.inr ⟨v0,xs,h,Nat.le_refl _,λ_=>⟨rfl,rfl⟩⟩,λ_ h=>h,Nat.le_refl _,λk hk _=>g.old hk⟩
 rintro k (hk | hk)
 ·grind
 ·grind
theorem hH{w':World}{o:Obj}(hI:Inv κ)(g:dH κ.w w' o):Inv (κ.zI w'):=by
 refine⟨hI.len,?_,?_,hI.inj,?_,hI.gl.mono (WM hI g).same⟩
 ·rintro k (hk | hk)
  ·have:=hI.yw k hk; show k<w'.heap.size; rw[g.size]; omega
  ·show k<w'.heap.size; rw[g.size]; omega
 ·intro b blk n h
  obtain⟨h1,h2⟩:=hI.apart b blk n h
  refine⟨by show blk<w'.heap.size; rw[g.size]; omega,?_⟩
  rintro(hk | hk)
  ·exact h2 hk
  ·omega
 ·intro b x hx
  exact(hI.blk b x hx).mono (WM hI g) rfl λblk n h=>g.old (hI.apart b blk n h).1
def KS.add(κ:KS)(w':World)(n:Nat)(x:kG):KS:={ κ with w:=w',ph:=κ.ph++[some (κ.w.heap.size,n)],st:=κ.st++[x] }
theorem rD{w':World}{o:Obj}{n:Nat}{x:kG}(hI:Inv κ)(g:dH κ.w w' o):Ext κ (κ.add w' n x):=by
 have xJ:∀ b y,κ.st[b]? = some y->(κ.st++[x])[b]? = some y:=λb y h=>by rw[List.getElem?_append_left (List.getElem?_eq_some_iff.1 h).1]; exact h
 have YJ:∀ b y,κ.st[b]? = some y->(κ.ph++[some (κ.w.heap.size,n)])[b]? = κ.ph[b]? := λb y h=>by
  rw[List.getElem?_append_left]; rw[hI.len]; exact(List.getElem?_eq_some_iff.1 h).1
 refine⟨g.os,g.tape,g.output,by show κ.w.heap.size<=w'.heap.size; rw[g.size]; omega,λk hk=>⟨hk,g.old (hI.yw k hk)⟩,λk hk=>.inl hk,?_,λb d h=>⟨⟨d,xJ b _ h⟩,YJ b _ h⟩,
  λb v0 e xs h=>.inr ⟨v0,xs,xJ b _ h,Nat.le_refl _,λ_=>⟨YJ b _ h,rfl⟩⟩,λb h=>xJ b _ h,by simp[KS.add],λk hk _=>g.old hk⟩
 intro b blk m h
 simp only[KS.add]at h
 grind
theorem ob(hI:Inv κ){w':World}{n:Nat}{x:kG}:(κ.add w' n x).ph[κ.st.length]? = some (some (κ.w.heap.size,n)):=by
 simp[KS.add,<- hI.len]
theorem sW{w':World}{n:Nat}{x:kG}:(κ.add w' n x).st[κ.st.length]? = some x:=by simp[KS.add]
theorem WS{w':World}{o:Obj}{n:Nat}{x:kG}(hI:Inv κ)(g:dH κ.w w' o)(hx:dT (κ.add w' n x) κ.st.length x):Inv (κ.add w' n x):=by
 have hold:∀ (b blk m:Nat),(κ.ph++[some (κ.w.heap.size,n)])[b]? = some (some (blk,m))->κ.ph[b]? = some (some (blk,m))\/(b=κ.ph.length/\blk=κ.w.heap.size):=by
  grind
 refine⟨by simp[KS.add,hI.len],?_,?_,?_,?_,hI.gl.mono (rD hI g).same⟩
 ·intro k hk; have:=hI.yw k hk; show k<w'.heap.size; rw[g.size]; omega
 ·intro b blk m h
  rcases hold b blk m h with h | ⟨rfl,rfl⟩
  ·obtain⟨h1,h2⟩:=hI.apart b blk m h
   exact⟨by show blk<w'.heap.size; rw[g.size]; omega,h2⟩
  ·exact⟨by show κ.w.heap.size<w'.heap.size; rw[g.size]; omega,λhk=>absurd (hI.yw _ hk) (Nat.lt_irrefl _)⟩
 ·intro b b' blk m m' h h'
  rcases hold b blk m h with h | ⟨rfl,rfl⟩<;>rcases hold b' _ m' h' with h' | ⟨rfl,h''⟩
  ·exact hI.inj b b' blk m m' h h'
  ·have:=(hI.apart b blk m h).1; omega
  ·have:=(hI.apart b' _ m' h').1; omega
  ·rfl
 ·intro b y hy
  simp only[KS.add]at hy
  by_cases hb:b<κ.st.length
  ·rw[List.getElem?_append_left hb]at hy
   refine(hI.blk b y hy).mono (rD hI g) ?_ λblk m h=>g.old (hI.apart b blk m h).1
   simp only[KS.add]
   rw[List.getElem?_append_left (by rw[hI.len]; exact hb)]
  ·grind
theorem I6{d:D}{v:Value}{t:TypeId}(hI:Inv κ)(hd:RD κ d v)(ht:d.uE=false)(Ih:∀ T,d.typed=some T->t=T) :
  ∃ κ':KS,κ'.w=κ.w.alloc (.cells v.cells t)/\κ'.st=κ.st++[.var d]/\Inv κ'/\Ext κ κ'/\RD κ' (.ptr κ.st.length 0) (.pointer (some ⟨κ.w.heap.size,0,none⟩)):=by
 have g:=dH.alloc κ.w (.cells v.cells t)
 have hx:=rD (n:=v.cells.size) (x:=.var d) hI g
 refine⟨κ.add _ v.cells.size (.var d),rfl,rfl,WS hI g ?_,hx,.ptr _ 0 _ v.cells.size d sW (ob hI)⟩
 exact⟨κ.w.heap.size,v.cells.size,v.cells,t,ob hI,g.new,rfl,(jb hd ht).mono hx,ja hd,Ih⟩
theorem RW{t:Nat}{x:Option D}{v:Value}{d:Option D}{zt:St}(hI:Inv κ)(hx:∀ z,x=some z->RD κ z v)
  (h:(zH (Pd x) κ.st).leads (d,zt)) :
  qw c.P (do Pure.pure (.value (<- Instr.box t v))) κ d zt:=by
 cases x with
 | none=>exact absurd h zf
 | some y =>
  simp only[Pd]at h
  cases ht:y.uE||y.typed.isSome with
  | true=>rw[ht]at h; exact absurd h zf
  | false =>
   rw[ht,cond_false]at h
   simp at ht
   obtain⟨ht,Ih⟩:=ht
   have zgR:∀ T,y.typed=some T->t=T:=λT e=>by rw[e]at Ih; cases Ih
   obtain⟨rfl,rfl⟩:=h
   obtain⟨κ',h1,h2,h3,h4,h5⟩:=I6 (t:=t) hI (hx _ rfl) ht zgR
   refine⟨κ',_,_,?_,.inl rfl,h2,h3,h4,λ_ he=>by cases he; exact h5⟩
   simp[Instr.box,newVar,newRow,h1]
theorem z5I{d:D}{τ:Ty}{x:den τ}{v:Value}{t:TypeId}(hI:Inv κ)(hd:RD κ d v)(hx:dC τ d=some x) :
  ∃ κ':KS,κ'.w=κ.w.alloc (.cells v.cells t)/\κ'.st=κ.st/\Inv κ'/\Ext κ κ'/\RD κ' (.qR τ x) (.pointer (some ⟨κ.w.heap.size,0,none⟩)):=by
 have g:=dH.alloc κ.w (.cells v.cells t)
 have GV:=WM hI g
 obtain⟨cs,h1,h2⟩:=RD.hH (bO hd hx)
 have hc:=Zw h1.len h1.one
 have hn:(κ.w.alloc (.cells v.cells t)).heap[κ.w.heap.size]? = some (.cells v.cells t (0,0)):=g.new
 have sN:∀ j u,cs[j]? = some u->(κ.w.alloc (.cells v.cells t)).cell? ⟨κ.w.heap.size,0+j,none⟩=some u:=by
  simp
  grind
 exact⟨κ.zI _,rfl,rfl,hH hI g,GV,.qR τ x cs κ.w.heap.size 0 (.inr rfl) (h1.mono GV.same) sN⟩
theorem Fa{t:Nat}{x:Option D}{v:Value}{d:Option D}{zt:St}(hI:Inv κ)(hx:∀ z,x=some z->RD κ z v)
  (h:(zH (z0b c t x) κ.st).leads (d,zt)):qw c.P (do Pure.pure (.value (<- Instr.box t v))) κ d zt:=by
 have key:∀ (y:D) (τ:Ty) (z:den τ),x=some y->dC τ y=some z->(zH (val (.qR τ z)) κ.st).leads (d,zt)->qw c.P (do Pure.pure (.value (<- Instr.box t v))) κ d zt:=by
  intro y τ z hy hz h
  obtain⟨rfl,rfl⟩:=h
  obtain⟨κ',h1,h2,h3,h4,h5⟩:=z5I (t:=t) hI (hx y hy) hz
  refine⟨κ',_,_,?_,.inl rfl,h2,h3,h4,λ_ he=>by cases he; exact h5⟩
  simp[Instr.box,newVar,newRow,h1]
 unfold z0b at h
 split at h
 ·rename_i τ z
  exact key _ τ z rfl (by simp[dC,wO]) h
 ·split at h
  ·split at h
   ·grind
   ·exact absurd h zf
  ·exact absurd h zf
 ·exact absurd h zf
theorem Eb{t:Nat}{dst:Option Nat}{x:Option D}{v:Value}{d:Option D}{zt:St}(hI:Inv κ)(hx:∀ z,x=some z->RD κ z v)
  (h:(zH (Pq c t dst x) κ.st).leads (d,zt)):qw c.P (do Pure.pure (.value (<- Instr.box t v))) κ d zt:=by
 unfold Pq at h
 cases hb:zde c dst with
 | true=>rw[hb]at h; exact Fa hI hx h
 | false=>rw[hb]at h; exact RW hI hx h
theorem rP{v:Value}{d:D}(h:oQ v=some d):RD κ d v/\d.one=true/\d.uE=false/\(∀ cs,v≠.agg cs):=by
 unfold oQ at h
 split at h<;>cases h<;>refine⟨?_,rfl,rfl,λ_=>nofun⟩
 ·exact .int
 ·exact .bool
 ·rename_i s; have:=RD.str (κ:=κ) (s:=s.data.toList); simpa using this
 ·exact .xp
 ·exact .kP
 ·exact .vR
 ·exact .qT
 ·exact .vP
theorem U1{v:Value}{d:D}(h:XB v=some d):RD κ d v/\d.uE=false:=by
 unfold XB at h
 split at h
 ·rename_i cs
  split at h
  ·rename_i l hl
   cases h
   have pn:∀ x∈l,x.one=true:=by
    intro x hx
    have:some x∈cs.toList.map oQ:=by rw[cU hl]; exact List.mem_map.2 ⟨x,hx,rfl⟩
    obtain⟨u,_,hu⟩:=List.mem_map.1 this
    exact(rP (κ:=κ) hu).2.1
   have hr:=yQ (κ:=κ) (vs:=cs.toList) hl (by simp) (λi d v hd hv=>by
    simp only[List.getElem?_map,hv,Option.map_some,Option.some.injEq]at hd
    exact(rP hd).1)
   refine⟨?_,rfl⟩
   have:=RD.agg l cs.toList hr.1 pn hr.2
   omega
  ·cases h
 ·exact⟨(rP h).1,(rP (κ:=κ) h).2.2.1⟩
theorem Z3{v:Value}{d:D}(h:oQ v=some d):(∀ l,d≠.agg l)/\(∀ T,d≠.c6 T)/\∀ b T,d≠.kN b T:=by
 unfold oQ at h
 grind
theorem DA{v:Value}{d:D}(h:XB v=some d):d.typed=none:=by
 unfold XB at h
 split at h
 ·rename_i cs
  split at h
  ·rename_i l hl
   cases h
   have hz:=cU hl
   cases l with
   | nil=>rfl
   | cons x r =>
    have:some x∈cs.toList.map oQ:=by rw[hz]; simp
    obtain⟨u,_,hu⟩:=List.mem_map.1 this
    obtain⟨_,h1,h2⟩:=Z3 hu
    cases x<;>first | rfl | exact absurd rfl (h1 _) | exact absurd rfl (h2 _ _)
  ·cases h
 ·have:=(Z3 h).1
  cases d<;>first | rfl | exact absurd rfl (this _)
structure ZD(t:Nat)(d:D)(z:Value):Prop where
 rd:∀ κ:KS,RD κ d z
 yC:d.uE=false
 ty:∀ T,d.typed=some T->t=T
theorem z07{t:Nat}{d:D}{z:Value}(h:XB z=some d):ZD t (SW c t d) z:=by
 have h0:∀ κ:KS,RD κ d z:=λκ=>(U1 h).1
 have h1:d.uE=false:=(U1 (κ:=⟨default,λ_=>False,[],[]⟩) h).2
 have h2:=DA h
 have same:ZD t d z:=⟨h0,h1,λT e=>by grind⟩
 unfold SW
 split
 ·rename_i r
  cases hs:z4I c t with
  | false=>exact same
  | true =>
   refine⟨λκ => ?_,rfl,λT e=>by cases e; rfl⟩
   cases h0 κ with
   | agg _ vs hl ho hh =>
    have hR:qD κ (.kP::r) vs:=⟨hl,hh⟩
    obtain⟨v,us,rfl,g1,g2⟩:=hR.cons_inv
    have hR2:qD κ (.c6 t::r) (v::us):=.cons (by cases g1; exact .c6 t) g2
    exact .agg _ _ hR2.1 (λx hx=>by
     rcases List.mem_cons.1 hx with rfl | hx
     ·rfl
     ·exact ho x (List.mem_cons_of_mem _ hx)) hR2.2
 ·exact same
theorem eW{t:Nat}{d:D}(h:Xs c t=some d):∃ i z,c.P.info? t=some i/\i.zero=some z/\ZD t d z:=by
 unfold Xs at h
 split at h
 ·rename_i i hi
  split at h
  ·rename_i z hz
   split at h
   ·rename_i d0 MG
    cases h
    exact⟨i,z,hi,hz,z07 MG⟩
   ·cases h
  ·cases h
 ·cases h
theorem EV{t:Nat}{d:Option D}{zt:St}(hI:Inv κ)
  (h:(zH (lU c t) κ.st).leads (d,zt)) :
  qw c.P (do Pure.pure (.value (<- Instr.alloc t true (.tuple #[])))) κ d zt:=by
 unfold lU at h
 split at h
 ·rename_i y hy
  obtain⟨i,z,h1,h2,h3⟩:=eW hy
  obtain⟨rfl,rfl⟩:=h
  obtain⟨κ',g1,g2,g3,g4,g5⟩:=I6 (t:=t) hI (h3.rd κ) h3.yC h3.ty
  refine⟨κ',_,_,?_,.inl rfl,g2,g3,g4,λ_ he=>by cases he; exact g5⟩
  simp[Instr.alloc,zeroValue,typeInfo,h1,h2,newVar,newRow,g1]
 ·exact absurd h zf
end
end Go.AM
namespace Go.AM
set_option linter.unusedSectionVars false
variable [vQ]
section
variable {c:Ctx} {κ:KS}
def KS.HV(κ:KS)(b blk:Nat)(cs:Array Value)(x:kG):KS:={ κ with w:=κ.w.setRow blk cs,st:=κ.st.set b x }
def Alike:kG->kG->Prop
 | .var _,.var _=>True
 | .arr v e xs,.arr v' e' xs'=>e=e'/\v<=v'/\(v=v'->xs.length=xs'.length)
 | _,_=>False
theorem mD{b blk n:Nat}{cs:Array Value}{x y:kG}(hI:Inv κ)(hp:κ.ph[b]? = some (some (blk,n)))(hy:κ.st[b]? = some y)(ha:Alike y x):Ext κ (κ.HV b blk cs x):=by
 have qs:b<κ.st.length:=(List.getElem?_eq_some_iff.1 hy).1
 have vJ:∀ k,κ.ok k->k≠blk:=λk hk e=>(hI.apart b blk n hp).2 (e▸hk)
 refine⟨rfl,rfl,rfl,by simp[KS.HV],λk hk=>⟨hk,setRow_other _ _ _ _ (vJ k hk)⟩,λk hk=>.inl hk,λ_ _ _ h=>.inl h,?_,?_,?_,by simp[KS.HV],?_⟩
 ·intro b' d hd
  refine⟨?_,rfl⟩
  simp only[KS.HV,List.getElem?_set]
  split
  ·rename_i e
   subst e
   rw[hy]at hd; cases hd
   cases x<;>simp[Alike]at ha
   simp
  ·grind
 ·intro b' v0 e tH hd
  simp only[KS.HV,List.getElem?_set]
  split
  ·rename_i e'
   subst e'
   rw[hy]at hd; cases hd
   cases x<;>simp[Alike]at ha
   grind
  ·grind
 ·intro b' hd
  simp only[KS.HV,List.getElem?_set]
  split
  ·rename_i e
   subst e
   rw[hy]at hd; cases hd
   simp[Alike]at ha
  ·exact hd
 ·intro k hk hn
  exact setRow_other _ _ _ _ (λe=>hn b n (e▸hp))
theorem Zc{b blk n:Nat}{cs:Array Value}{x y:kG}(hI:Inv κ)(hp:κ.ph[b]? = some (some (blk,n)))(hy:κ.st[b]? = some y)(ha:Alike y x)
  (hx:dT (κ.HV b blk cs x) b x):Inv (κ.HV b blk cs x):=by
 refine⟨by simp[KS.HV,hI.len],?_,?_,hI.inj,?_,hI.gl.mono (mD hI hp hy ha).same⟩
 ·intro k hk; show k<(κ.w.setRow blk cs).heap.size; rw[setRow_size]; exact hI.yw k hk
 ·intro b' iS m h
  obtain⟨h1,h2⟩:=hI.apart b' iS m h
  exact⟨by show iS<(κ.w.setRow blk cs).heap.size; rw[setRow_size]; exact h1,h2⟩
 ·intro b' z hz
  by_cases hb:b=b'
  ·subst hb
   simp only[KS.HV]at hz
   grind
  ·simp only[KS.HV,List.getElem?_set,if_neg hb]at hz
   refine(hI.blk b' z hz).mono (mD hI hp hy ha) rfl λiS m h => ?_
   refine setRow_other _ _ _ _ λe => ?_
   subst e
   exact hb (hI.inj b b' _ n m hp h)
theorem Gm{d d':D}{t:Nat}(h:me d d'=true)(hd:∀ T,d.typed=some T->t=T):∀ T,d'.typed=some T->t=T:=by
 intro T hT
 unfold me at h
 rw[hT]at h
 cases MG:d.typed with
 | none=>grind
 | some T' =>
  rw[MG]at h
  have e:=Nat.eq_of_beq_eq_true h
  grind
theorem nG{t:Nat}{n blk o:Nat}{v:Value}{cs:Array Value}{T:TypeId}(hn:fx c t=some n)(hv:v.cells.toList.length=n)(h1:∀ u∈v.cells.toList,u.oneCell'=true)
  (hg:κ.w.heap[blk]? = some (.cells cs T (0,0))) (hle:o+n<=cs.size) :
  (storeVar t ⟨blk,o,none⟩ v).run c.P κ.w=.ok () (κ.w.setRow blk (cs.toList.take o++v.cells.toList++cs.toList.drop (o+n)).toArray):=by
 have hs:v.cells.size=n:=by simpa using hv
 have:=run_storeCells_at c.P blk o T v.cells.toList 0 cs κ.w hg (by grind) h1
 simp[storeVar,run_sizeOf hn,hs,this]
theorem iA{l:List D}{vs us:List Value}{x:List D}(h:qD κ l vs)(hx:qD κ x us)(o n:Nat) :
  qD κ (l.take o++x++l.drop (o+n)) (vs.take o++us++vs.drop (o+n)):=((h.take o).append hx).append (h.drop (o+n))
theorem tF{cs us:List Value}{o n:Nat}(hu:us.length=n)(ho:o+n<=cs.length)(p:Nat) :
  (cs.take o++us++cs.drop (o+n))[p]? = if p<o then cs[p]? else if p<o+n then us[p-o]? else cs[p]? := by grind
theorem Yl{t:Nat}{d x r:D}{off:Nat}(h:Cc c t d off x=some r):∃ n,fx c t=some n/\0<n/\(qh x).length=n/\off+n<=(qh d).length /\
  qh r=(qh d).take off++qh x++(qh d).drop (off+n)/\((∀ y∈qh d,y.one=true)->(∀ y∈qh x,y.one=true)->∀ y∈qh r,y.one=true)/\x.uE=false:=by
 unfold Cc at h
 split at h
 ·cases h
 ·rename_i n hn
  cases hb:Nat.blt 0 n&&Nat.beq n (qh x).length&&Nat.ble (off+n) (qh d).length with
  | false=>grind
  | true =>
   rw[hb,cond_true]at h
   simp only[Bool.and_eq_true]at hb
   obtain⟨⟨h0,h1⟩,h2⟩:=hb
   have h0':0<n:=Nat.le_of_ble_eq_true h0
   have Wp:n=(qh x).length:=Nat.eq_of_beq_eq_true h1
   have h2':=Nat.le_of_ble_eq_true h2
   have CB:x.uE=false:=by
    cases x with
    | yC l=>simp[qh]at Wp; omega
    | _=>rfl
   cases hw:Nat.beq n (qh d).length with
   | true =>
    have h3:n=(qh d).length:=Nat.eq_of_beq_eq_true hw
    have h4:off=0:=by omega
    subst h4
    grind
   | false =>
    rw[hw,cond_false]at h
    cases h
    refine⟨n,hn,h0',Wp.symm,h2',rfl,λhd hx y hy => ?_,CB⟩
    simp only[qh,List.mem_append]at hy
    rcases hy with(hy | hy) | hy
    ·exact hd y (List.mem_of_mem_take hy)
    ·exact hx y hy
    ·exact hd y (List.mem_of_mem_drop hy)
theorem o6{τ:Ty}{r:D}{x:den τ}{vs:List Value}(h:dC τ r=some x)(hr:qD κ (qh r) vs)(pn:∀ y∈qh r,y.one=true)(ht:r.uE=false):Rc κ.w κ.ok τ x vs:=by
 cases r with
 | zI σ y=>obtain⟨rfl,rfl⟩:=qj h; exact WQ _ _ hr
 | agg l =>
  have:=bO (RD.agg l vs hr.1 pn hr.2) h
  obtain⟨cs,h1,h2⟩:=RD.hH this
  have hc:=Zw h1.len h1.one
  simp only[Value.cells]at hc
  grind
 | yC l=>cases ht
 | _ =>
  obtain⟨v,r',rfl,h1,h2⟩:=qD.cons_inv hr
  have e2:=h2.qg
  subst e2
  have h3:=bO h1 h
  obtain⟨cs,h4,h5⟩:=RD.hH h3
  have RZ:τ.isAgg=false:=by
   cases hta:τ.isAgg with
   | false=>rfl
   | true=>simp[dC,D.isAgg,hta]at h
  obtain⟨u,rfl⟩:=h4.single RZ
  rw[Ua RZ]at h5
  rwa [h5]
theorem FF{t:Nat}{a x:Option D}{v u:Value}{d:Option D}{zt:St}(hI:Inv κ)(ha:∀ z,a=some z->RD κ z v)(hx:∀ z,x=some z->RD κ z u)
  (h:(zH (WN c t a x) κ.st).leads (d,zt)):qw c.P (do Instr.storeAt t v u; Pure.pure .skip) κ d zt:=by
 unfold WN at h
 split at h
 ·rename_i b off y
  simp only[zH]at h
  split at h
  ·rename_i d0 hb
   split at h
   ·rename_i r hr
    cases wg:me d0 r with
    | false=>rw[wg]at h; exact h.elim
    | true =>
    rw[wg,cond_true]at h
    simp only[T.leads,Prod.mk.injEq]at h
    obtain⟨rfl,rfl⟩:=h
    obtain⟨n,hn,h0,HY,hle,BC,pn,CB⟩:=Yl hr
    cases ha _ rfl with
    | ptr _ _ blk m d1 hd hp =>
     obtain⟨iS,m',cs,T,g1,g2,g3,g4,g5⟩:=hI.blk b _ hb
     rw[hp]at g1
     cases g1
     have hy:=hx _ rfl
     have hfy:=jb hy CB
     have hvl:u.cells.toList.length=n:=by rw[<- hfy.1]; exact HY
     have uP:off+n<=cs.size:=by have:=g4.1; simp at this; omega
     have h1:∀ z∈u.cells.toList,z.oneCell'=true:=by
      intro z hz
      obtain⟨i,hi,rfl⟩:=List.getElem_of_mem hz
      exact(hfy.2 i (hfy.1▸hi) hi).WW (ja hy _ (List.getElem_mem _))
     have vx:=nG (c:=c) (κ:=κ) hn hvl h1 g2 uP
     have iI:Alike (.var d0) (.var r):=trivial
     let bM:=(cs.toList.take off++u.cells.toList++cs.toList.drop (off+n)).toArray
     have hex:=mD (cs:=bM) (x:=.var r) hI hp hb iI
     refine⟨κ.HV b blk bM (.var r),.skip,undef,?_,.inr ⟨rfl,rfl⟩,rfl,Zc hI hp hb iI ?_,hex,λ_ he=>by cases he⟩
     ·simp only[Sem.run_bind,Instr.storeAt,Instr.sureAddr,Sem.run_pure,Result.andThen_ok,vx]; rfl
     ·refine⟨blk,m,bM,T,hp,setRow_heap _ _ _ _ _ _ g2,?_,?_,pn g5.1 (ja hy),Gm wg g5.2⟩
      ·grind
      ·rw[BC]; exact(iA g4 hfy off n).mono hex
   ·exact h.elim
  ·exact h.elim
 ·rename_i b qy e idx off y
  simp only[zH]at h
  split at h
  ·rename_i jL e' xs hb
   cases he:decide (e'=e)with
   | false=>rw[he]at h; exact h.elim
   | true =>
    rw[he,cond_true]at h
    have Rg:e'=e:=of_decide_eq_true he
    subst Rg
    obtain⟨⟨rfl,qs⟩,h⟩:=h
    split at h
    ·rename_i r hr
     split at h
     ·rename_i z hz
      simp only[T.leads,Prod.mk.injEq]at h
      obtain⟨rfl,rfl⟩:=h
      obtain⟨n,hn,h0,HY,hle,BC,pn,CB⟩:=Yl hr
      cases ha _ rfl with
      | ui _ _ _ _ _ blk o hold hp =>
       obtain⟨m,p1,rfl⟩:=hp xs hb qs
       obtain⟨uP,⟨Uo,_⟩ | ⟨iS,n',cs,T,g1,g2,g3,g4,gr,f,g5⟩⟩:=hI.blk b _ hb
       ·grind
       ·rw[p1]at g1
        cases g1
        rw[V3 qs]at hr BC hle pn
        have hy:=hx _ rfl
        have hfy:=jb hy CB
        have hvl:u.cells.toList.length=n:=by rw[<- hfy.1]; exact HY
        obtain⟨k1,k2⟩:=g5 idx qs
        have Dw:=k1.len
        have K8:off+n<=e'.size:=by simpa[qh,ZN]using hle
        have ziV:idx*e'.size+e'.size<=xs.length*e'.size:=by rw[<- Nat.succ_mul]; exact Nat.mul_le_mul_right _ qs
        have Ol:idx*e'.size+off+n<=cs.size:=by omega
        have h1:∀ z∈u.cells.toList,z.oneCell'=true:=by
         intro z hz
         obtain⟨i,hi,rfl⟩:=List.getElem_of_mem hz
         exact(hfy.2 i (hfy.1▸hi) hi).WW (ja hy _ (List.getElem_mem _))
        have vx:=nG (c:=c) (κ:=κ) hn hvl h1 g2 Ol
        have iI:Alike (.arr qy e' xs) (.arr qy e' (xs.set idx z)):=⟨rfl,Nat.le_refl _,λ_=>by simp⟩
        let bM:=(cs.toList.take (idx*e'.size+off)++u.cells.toList++cs.toList.drop (idx*e'.size+off+n)).toArray
        have hex:=mD (cs:=bM) (x:=.arr qy e' (xs.set idx z)) hI p1 hb iI
        refine⟨κ.HV b blk bM (.arr qy e' (xs.set idx z)),.skip,undef,?_,.inr ⟨rfl,rfl⟩,rfl,Zc hI p1 hb iI ?_,hex,λ_ he=>by cases he⟩
        ·simp only[Sem.run_bind,Instr.storeAt,Instr.sureAddr,Sem.run_pure,Result.andThen_ok,vx]; rfl
        ·have hlen:bM.size=cs.size:=by simp[bM,hvl]; omega
         refine⟨uP,.inr ⟨blk,m,bM,T,p1,setRow_heap _ _ _ _ _ _ g2,by rw[hlen]; exact g3,by simpa using g4,?_⟩⟩
         -- cells of the element that is written
         let fi:=(f idx).take off++u.cells.toList++(f idx).drop (off+n)
         have zgF:qD κ (qh r) fi:=by
          rw[BC]
          exact iA (pA k1) hfy off n
         have hrt:r.uE=false:=by
          cases r with
          | yC l =>
           have h6:=congrArg List.length BC
           rw[List.length_append,List.length_append,HY]at h6
           have h7:(qh (D.yC l)).length=0:=rfl
           omega
          | _=>rfl
         have DD:=o6 hz zgF (pn (dX _ _) (ja hy)) hrt
         have Kb:∀ p,bM[p]? = if p<idx*e'.size+off then cs[p]? else if p<idx*e'.size+off+n then u.cells.toList[p-(idx*e'.size+off)]? else cs[p]? := by
          intro p
          have:=tF (cs:=cs.toList) (us:=u.cells.toList) hvl (by simpa using Ol) p
          simpa only[bM,List.getElem?_toArray,Array.getElem?_toList]using this
         have zf2:∀ j,fi[j]? = if j<off then(f idx)[j]? else if j<off+n then u.cells.toList[j-off]? else(f idx)[j]? := λj=>tF hvl (by omega) j
         refine⟨gr,λi=>if i=idx then fi else f i,λi hi => ?_⟩
         rw[List.length_set]at hi
         by_cases hii:i=idx
         ·subst hii
          simp only[if_true,List.getElem_set_self]
          refine⟨DD.mono hex.same,λj w hj => ?_⟩
          rw[zf2]at hj
          rw[Kb]
          split at hj
          ·rw[if_pos (by omega)]; exact k2 j w hj
          ·split at hj
           ·rw[if_neg (by omega),if_pos (by omega)]; rw[<- hj]; congr 1; omega
           ·rw[if_neg (by omega),if_neg (by omega)]; exact k2 j w hj
         ·simp only[if_neg hii]
          obtain⟨q1,q2⟩:=g5 i hi
          refine⟨by rw[List.getElem_set_ne (λe=>hii e.symm)]; exact q1.mono hex.same,λj w hj => ?_⟩
          have OM:j<e'.size:=by rw[<- q1.len]; exact(List.getElem?_eq_some_iff.1 hj).1
          rw[Kb]
          rcases Nat.lt_or_gt_of_ne hii with Kd | hgt'
          ·have:i*e'.size+e'.size<=idx*e'.size:=by rw[<- Nat.succ_mul]; exact Nat.mul_le_mul_right _ Kd
           rw[if_pos (by omega)]; exact q2 j w hj
          ·have:idx*e'.size+e'.size<=i*e'.size:=by rw[<- Nat.succ_mul]; exact Nat.mul_le_mul_right _ hgt'
           rw[if_neg (by omega),if_neg (by omega)]; exact q2 j w hj
     ·exact h.elim
    ·exact h.elim
  ·exact h.elim
 ·exact absurd h zf
end
end Go.AM
namespace Go.AM
set_option linter.unusedSectionVars false
variable [vQ]
section
variable {c:Ctx} {κ:KS}
theorem Xn:∀ (vs:List Value) (cells:Array Value) (off k:Nat),off+k+vs.length<=cells.size ->
  ((vs.zipIdx k).foldl (λ(cs:Array Value) (p:Value×Nat)=>cs.setIfInBounds (off+p.2) p.1) cells).toList=cells.toList.take (off+k)++vs++cells.toList.drop (off+k+vs.length)
 | [],cells,off,k,_=>by simp
 | v::vs,cells,off,k,h=>by
  simp only[List.length_cons]at h
  simp only[List.zipIdx_cons,List.foldl_cons]
  rw[Xn vs _ off (k+1) (by simp; omega)]
  have qs:off+k<cells.toList.length:=by simp; omega
  simp only[Array.toList_setIfInBounds,List.length_cons]
  have e1:(cells.toList.set (off+k) v).take (off+(k+1))=cells.toList.take (off+k)++[v]:=by
   rw[show off+(k+1)=off+k+1 by omega,List.take_succ_eq_append_getElem (by simpa using qs)]
   rw[List.take_set_of_le (Nat.le_refl _)]
   simp
  have e2:(cells.toList.set (off+k) v).drop (off+(k+1)+vs.length)=cells.toList.drop (off+k+(vs.length+1)):=by
   rw[List.drop_set_of_lt (by omega)]
   grind
  grind
theorem BD{place:Nat->Option (Nat×Nat)}{cells:Array Value}{i off size:Nat}{v:Value}{rest:List (Nat×Value)}(hp:place i=some (off,size))(hs:v.cells.toList.length=size)(hle:off+size<=cells.size) :
  Instr.fill place cells ((i,v)::rest)=Instr.fill place (cells.toList.take off++v.cells.toList++cells.toList.drop (off+size)).toArray rest:=by
 have hs':v.cells.size=size:=by simpa using hs
 have hf:=Xn v.cells.toList cells off 0 (by grind)
 simp only[hs]at hf
 conv=>lhs; unfold Instr.fill
 simp only[hp]
 rw[if_neg (by grind)]
 congr 1
 apply Array.ext'
 rw[<- Array.foldl_toList,Array.toList_zipIdx]
 exact hf
theorem KF{e:Ty}{x:den e}{v:Value}(h:RD κ (.zI e x) v):Rc κ.w κ.ok e x v.cells.toList:=by
 obtain⟨cs,h1,rfl⟩:=RD.hH h
 rw[Zw h1.len h1.one]; exact h1
theorem Yj{e:Ty}{F:Operand->Option D}{G:Operand->Value}(hF:∀ x d,F x=some d->RD κ d (G x)):∀ (L:List (Nat×Operand)) (k:Nat) (cells:Array Value) (l:List (den e)),
  YU e k (L.map λp=>(p.1,F p.2))=some l->(k+L.length)*e.size<=cells.size ->
  ∃ dL,Instr.fill (λi=>some (i*e.size,e.size)) cells (L.map λp=>(p.1,G p.2))=some dL/\dL.size=cells.size/\(∀ p,p<k*e.size->dL[p]? = cells[p]?)/\l.length=L.length /\
   ∃ f:Nat->List Value,∀ i (hi:i<l.length),Rc κ.w κ.ok e l[i] (f i)/\∀ j v,(f i)[j]? = some v->dL[(k+i)*e.size+j]? = some v
 | [],k,cells,l,h,_=>by
  simp only[List.map_nil,YU,Option.some.injEq]at h
  subst h
  exact⟨cells,rfl,rfl,λ_ _=>rfl,rfl,λ_=>[],λi hi=>absurd hi (Nat.not_lt_zero i)⟩
 | (i,x)::L,k,cells,l,h,hle=>by
  simp only[List.map_cons]at h
  cases hx:F x with
  | none=>rw[hx]at h; simp[YU]at h
  | some d =>
   rw[hx]at h
   simp only[YU]at h
   cases hb:Nat.beq k i with
   | false=>grind
   | true =>
    have hik:k=i:=Nat.eq_of_beq_eq_true hb
    subst hik
    rw[hb,cond_true]at h
    split at h
    ·rename_i y l' hy hl'
     cases h
     have hr:=KF (bO (hF x d hx) hy)
     have hlen:=hr.len
     simp only[List.length_cons]at hle
     have hk1:(k+(L.length+1))*e.size=k*e.size+e.size+L.length*e.size:=by rw[Nat.add_mul,Nat.add_mul]; omega
     have sN:k*e.size+e.size<=cells.size:=by omega
     let c1:=(cells.toList.take (k*e.size)++(G x).cells.toList++cells.toList.drop (k*e.size+e.size)).toArray
     have Nn:c1.size=cells.size:=by simp only[c1,List.size_toArray,List.length_append,List.length_take,List.length_drop,hlen,Array.length_toList]; omega
     have hg:∀ p,c1[p]? = if p<k*e.size then cells[p]? else if p<k*e.size+e.size then(G x).cells.toList[p-k*e.size]? else cells[p]? := by
      grind
     obtain⟨dL,h1,h2,h3,h4,f,h5⟩:=Yj hF L (k+1) c1 l' hl' (by rw[Nn,show k+1+L.length=k+(L.length+1) by omega]; exact hle)
     refine⟨dL,?_,h2.trans Nn,?_,by simp[h4],λi=>match i with | 0=>(G x).cells.toList | i+1=>f i,?_⟩
     ·simp only[List.map_cons]
      rw[BD rfl hlen sN]
      exact h1
     ·grind
     ·intro i hi
      cases i with
      | zero =>
       grind
      | succ i =>
       have:=h5 i (by simpa using hi)
       rw[show k+1+i=k+(i+1) by omega]at this
       exact this
    ·cases h
theorem oo{t n:Nat}(h:mw c t=some n):∃ i,c.P.info? t=some i/\i.bytes=n:=by
 unfold mw at h
 cases hi:c.P.info? t with
 | none=>grind
 | some i=>grind
theorem fR{et:Nat}{e:Ty}{z:den e}(h:zeroOf c et e=some z):∃ i v,c.P.info? et=some i/\i.zero=some v/\Rc κ.w κ.ok e z v.cells.toList:=by
 unfold zeroOf at h
 split at h
 ·rename_i d hd
  obtain⟨i,v,h1,h2,h3⟩:=eW hd
  exact⟨i,v,h1,h2,KF (bO (h3.rd κ) h)⟩
 ·cases h
theorem Wn{t n:Nat}{L:List (Nat×Operand)}{F:Operand->Option D}{G:Operand->Value}{d:Option D}{zt:St}(hI:Inv κ)(hF:∀ x d,F x=some d->RD κ d (G x))
  (h:(zH (ng c t n (L.map λp=>(p.1,F p.2))) κ.st).leads (d,zt)) :
  qw c.P (do Pure.pure (.value (<- Instr.buildSlice t n (L.map λp=>(p.1,G p.2)).toArray))) κ d zt:=by
 unfold ng at h
 split at h
 ·exact absurd h zf
 ·rename_i et het
  have hu:=uj het
  split at h
  ·rename_i e Ih
   cases hb:ke c et e&&Nat.beq n (L.map λp=>(p.1,F p.2)).length&&Nat.ble n 1000&&Nat.ble e.size 100&&(zeroOf c et e).isSome with
   | false=>rw[hb]at h; exact absurd h zf
   | true =>
    rw[hb,cond_true]at h
    simp only[Bool.and_eq_true]at hb
    obtain⟨⟨⟨⟨wg,hn⟩,h1⟩,h2⟩,h3⟩:=hb
    have hn':n=L.length:=by have:=Nat.eq_of_beq_eq_true hn; simpa using this
    have Wp:=Nat.le_of_ble_eq_true h1
    have h2':=Nat.le_of_ble_eq_true h2
    obtain⟨hs,_⟩:=vu wg
    obtain⟨z,hz⟩:=Option.isSome_iff_exists.1 h3
    obtain⟨i,zv,Ei,Xy,hi3⟩:=fR (κ:=κ) hz
    split at h
    ·rename_i l hl
     cases Rt:Nat.beq n 0&&Nat.blt 0 e.size with
     | true =>
     rw[Rt,cond_true]at h
     simp only[Bool.and_eq_true]at Rt
     obtain⟨Rt,uP⟩:=Rt
     have Ol:0<e.size:=Nat.le_of_ble_eq_true uP
     have OH:=Nat.eq_of_beq_eq_true Rt
     have hL:L=[]:=List.eq_nil_of_length_eq_zero (hn'.symm.trans OH)
     subst hL
     subst OH
     simp only[zH,T.leads,Prod.mk.injEq]at h
     obtain⟨rfl,rfl⟩:=h
     have g:=dH.alloc κ.w (.cells #[] et)
     have hex:=rD (n:=0) (x:=.arr 0 e ([]:List (den e))) hI g
     have vx:(Instr.buildSlice t 0 (([]:List (Nat×Operand)).map λp=>(p.1,G p.2)).toArray).run c.P κ.w=.ok (.slice (some ⟨κ.w.heap.size,0,none⟩) 0 0) (κ.w.alloc (.cells #[] et)):=by
      simp[Instr.buildSlice,Sem.run_bind,run_underlying hu,Result.andThen_ok,run_sizeOf hs,Instr.fill,newRow]
      grind
     refine⟨κ.add _ 0 (.arr 0 e []),_,.slice (some ⟨κ.w.heap.size,0,none⟩) 0 0,by simp only[Sem.run_bind,vx,Result.andThen_ok]; rfl,.inl rfl,rfl,WS hI g ?_,hex,?_⟩
     ·exact⟨Ol,.inr ⟨κ.w.heap.size,0,#[],et,ob hI,g.new,rfl,by simp,Zv wg,λ_=>[],λi hi=>absurd hi (Nat.not_lt_zero i)⟩⟩
     ·intro d' kL
      cases kL
      refine .ms _ 0 e 0 0 0 _ (.inr ⟨0,e,_,sW,Nat.le_refl _⟩) (by omega) nofun (λp hp=>by cases hp; rfl) λxs WC => ?_
      rw[sW]at WC
      cases WC
      exact⟨by simp,.inr ⟨κ.w.heap.size,0,0,0,ob hI,rfl,by omega,by simp,.inl rfl⟩⟩
     | false =>
     rw[Rt,cond_false,jz]at h
     obtain⟨rfl,rfl⟩:=h
     subst hn'
     have hle:L.length*e.size<=100000:=Nat.le_trans (Nat.mul_le_mul Wp h2') (by decide)
     have hzs:zv.cells.size=e.size:=by have:=hi3.len; simpa using this
     let cells:Array Value:=(Array.range (L.length*e.size)).map ((if L.length*e.size=0 then #[]else zv.cells)[· % (if L.length*e.size=0 then #[]else zv.cells).size]!)
     have QP:cells.size=L.length*e.size:=by simp[cells]
     obtain⟨dL,g1,g2,_,g4,f,g5⟩:=Yj hF L 0 cells l hl (by rw[QP]; simp)
     have g:=dH.alloc κ.w (.cells dL et)
     have hex:=WM hI g
     refine⟨κ.zI _,_,.slice (some ⟨κ.w.heap.size,0,none⟩) L.length L.length,?_,.inl rfl,rfl,hH hI g,hex,?_⟩
     ·have Bm:Instr.fill (λi=>some (i*e.size,e.size)) cells (L.map λp=>(p.1,G p.2))=some dL:=g1
      simp only[cells]at Bm
      simp only[Instr.buildSlice,Sem.run_bind,run_underlying hu,Result.andThen_ok,run_sizeOf hs,gt_iff_lt,if_neg (show ¬ 2 ^ 24<L.length*e.size by omega)]
      by_cases h0:L.length*e.size=0
      ·simp only[if_pos h0]at Bm ⊢
       simp only[Sem.run_bind,Sem.run_pure,Result.andThen_ok,Bm]
       rfl
      ·simp only[if_neg h0]at Bm ⊢
       simp only[Sem.run_bind,Sem.run_pure,Result.andThen_ok,zeroValue,typeInfo,run_program,Ei,Xy,Bm]
       rfl
     ·intro d' kL
      cases kL
      have sN:∀ i,i<l.length->∀ j v,(f i)[j]? = some v->(κ.zI (κ.w.alloc (.cells dL et))).w.cell? ⟨κ.w.heap.size,0+i*e.size+j,none⟩=some v:=by
       intro i hi j v hj
       have:=(g5 i hi).2 j v hj
       simp only[Nat.zero_add]at this ⊢
       rw[pZ (κ:=κ.zI (κ.w.alloc (.cells dL et))) g.new]
       exact this
      rw[<- g4]
      refine .tight e l _ κ.w.heap.size 0 f ?_ (.inr rfl) (λi hi=>(g5 i hi).1.mono hex.same) sN
      intro vJ Uo
      subst Uo
      simp at g4
      simp[<- g4]at vJ
    ·exact absurd h zf
  ·exact absurd h zf
end
end Go.AM
namespace Go.AM
set_option linter.unusedSectionVars false
variable [vQ]
section
variable {c:Ctx} {κ:KS}
theorem Ox{t:Nat}{x y:Option D}{v u:Value}{d:Option D}{zt:St}(hI:Inv κ)(hx:∀ z,x=some z->RD κ z v)(hy:∀ z,y=some z->RD κ z u)
  (h:(zH (F9 c t x y) κ.st).leads (d,zt)):qw c.P (do Pure.pure (.value (<- Instr.makeSlice t v u))) κ d zt:=by
 unfold F9 at h
 split at h
 ·rename_i et k n k' m het hn hm
  have hu:=uj het
  have:=ud hn hx
  subst this
  have:=ud hm hy
  subst this
  split at h
  ·rename_i e bytes Ih DG
   split at h
   ·rename_i z hz
    cases hb:ke c et e&&Nat.blt 0 e.size with
    | false=>rw[hb]at h; exact absurd h zf
    | true =>
     rw[hb,cond_true]at h
     simp only[Bool.and_eq_true]at hb
     obtain⟨wg,uP⟩:=hb
     have Ol:0<e.size:=Nat.le_of_ble_eq_true uP
     obtain⟨hs,_⟩:=vu wg
     simp only[zH,T.leads,Prod.mk.injEq]at h
     obtain⟨⟨h0,h1,h2,h3⟩,rfl,rfl⟩:=h
     obtain⟨i,zv,Ei,Xy,hi3⟩:=fR (κ:=κ) hz
     obtain⟨ib,zas,zgA⟩:=oo DG
     obtain⟨i',zbO,ziK⟩:=dJ hs
     rw[Ei]at zas zbO
     cases zas
     cases zbO
     have hzs:zv.cells.size=e.size:=by have:=hi3.len; simpa using this
     let N:=m.toNat*e.size
     let cells:Array Value:=(Array.range N).map (zv.cells[· % zv.cells.size]!)
     have QP:cells.size=N:=by simp[cells]
     have vx:(Instr.makeSlice t (.int k n) (.int k' m)).run c.P κ.w=.ok (.slice (some ⟨κ.w.heap.size,0,none⟩) n.toNat m.toNat) (κ.w.alloc (.cells cells et)):=by
      have w1:IntKind.i64.wrap n=n:=IntWalk.i64_in _ (by omega)
      have w2:IntKind.i64.wrap m=m:=IntWalk.i64_in _ (by omega)
      have hmb:¬ ((2:Int) ^ 48<bytes*m):=by
       grind
      have ai:∀ k n w,(Go.asInt (.int k n)).run c.P w=.ok n w:=λk n w=>by simp[Go.asInt,asIntOf]
      have hm0:¬ (m<0):=by omega
      have OH:¬ (n<0):=by omega
      have hnm:¬ (m<n):=by omega
      simp only[Instr.makeSlice,Sem.run_bind,run_underlying hu,Result.andThen_ok,ai,typeInfo,run_program,Ei,zgA,w1,w2,Sem.run_pure,gt_iff_lt,hm0,OH,hnm,hmb,decide_false,Bool.or_self,Bool.false_eq_true,if_false,run_askRoom,run_sizeOf hs]
      by_cases Rt:m.toNat*e.size=0
      ·have hce:cells = #[]:=Array.eq_empty_of_size_eq_zero (by rw[QP]; exact Rt)
       have e2:∀ g:Nat->Value,(Array.range (m.toNat*e.size)).map g = #[]:=λg=>by rw[Rt]; simp
       simp only[if_pos Rt,Sem.run_bind,Sem.run_pure,Result.andThen_ok,newRow,run_newObj,e2]
       rw[hce]
       rfl
      ·simp only[if_neg Rt,Sem.run_bind,Sem.run_pure,Result.andThen_ok,newRow,run_newObj,zeroValue,typeInfo,run_program,Ei,Xy]
       rfl
     have g:=dH.alloc κ.w (.cells cells et)
     have hex:=rD (n:=N) (x:=.arr n.toNat e (List.replicate n.toNat z)) hI g
     refine⟨κ.add _ N (.arr n.toNat e (List.replicate n.toNat z)),_,.slice (some ⟨κ.w.heap.size,0,none⟩) n.toNat m.toNat,by simp only[Sem.run_bind,vx,Result.andThen_ok]; rfl,.inl rfl,rfl,WS hI g ?_,hex,?_⟩
     ·refine⟨Ol,.inr ⟨κ.w.heap.size,N,cells,et,ob hI,g.new,QP,?_,Zv wg,λ_=>zv.cells.toList,λi hi => ?_⟩⟩
      ·rw[List.length_replicate]; exact Nat.mul_le_mul_right _ (by omega)
      ·rw[List.length_replicate]at hi
       refine⟨by rw[List.getElem_replicate]; exact hi3.mono hex.same,λj w hj => ?_⟩
       have OM:j<e.size:=by rw[<- hi3.len]; exact(List.getElem?_eq_some_iff.1 hj).1
       have qs:i*e.size+j<N:=by
        have:i*e.size+e.size<=N:=by rw[<- Nat.succ_mul]; exact Nat.mul_le_mul_right _ (by omega)
        omega
       have z6g:(i*e.size+j) % e.size=j:=by rw[Nat.mul_comm,Nat.mul_add_mod,Nat.mod_eq_of_lt OM]
       grind
     ·intro d' kL
      cases kL
      refine .ms _ n.toNat e 0 n.toNat m.toNat _ (.inr ⟨n.toNat,e,_,sW,Nat.le_refl _⟩) (by omega) nofun (λp hp=>by cases hp; rfl) λxs WC => ?_
      rw[sW]at WC
      cases WC
      refine⟨by simp,.inr ⟨κ.w.heap.size,N,0,m.toNat,ob hI,rfl,by omega,by simp[N],.inr (by simp)⟩⟩
   ·exact absurd h zf
  ·exact absurd h zf
 ·exact absurd h zf
end
end Go.AM
namespace Go.AM
set_option linter.unusedSectionVars false
variable [vQ]
section
variable {c:Ctx} {κ:KS}
def kB(f:Nat->List Value):Nat->List Value
 | 0=>[]
 | n+1=>kB f n++f n
theorem uA{f:Nat->List Value}{s:Nat}:∀ {n:Nat},(∀ i,i<n->(f i).length=s)->(kB f n).length=n*s
 | 0,_=>by simp[kB]
 | n+1,h=>by rw[kB,List.length_append,uA (λi hi=>h i (by omega)),h n (by omega),Nat.add_mul]; omega
theorem ru{f:Nat->List Value}{s:Nat}:∀ {n:Nat},(∀ i,i<n->(f i).length=s)->∀ i j,i<n->j<s->(kB f n)[i*s+j]? = (f i)[j]?
 | 0,_,i,_,hi,_=>absurd hi (Nat.not_lt_zero i)
 | n+1,h,i,j,hi,hj=>by
  have hl:=uA (f:=f) (n:=n) (λi hi=>h i (by omega))
  rw[kB]
  by_cases Xu:i<n
  ·have:i*s+s<=n*s:=by rw[<- Nat.succ_mul]; exact Nat.mul_le_mul_right _ Xu
   rw[List.getElem?_append_left (by omega)]
   exact ru (λi hi=>h i (by omega)) i j Xu hj
  ·grind
theorem YF{f:Nat->List Value}:∀ {n:Nat},(∀ i,i<n->∀ v∈f i,v.oneCell'=true)->∀ v∈kB f n,v.oneCell'=true
 | 0,_,v,hv=>by simp[kB]at hv
 | n+1,h,v,hv=>by
  rw[kB,List.mem_append]at hv
  rcases hv with hv | hv
  ·exact YF (λi hi=>h i (by omega)) v hv
  ·grind
theorem Dp{f:Nat->List Value}{s:Nat}{n p:Nat}{v:Value}(hs:0<s)(h:∀ i,i<n->(f i).length=s)(hp:(kB f n)[p]? = some v):∃ i j,i<n/\j<s/\p=i*s+j/\(f i)[j]? = some v:=by
 have qs:=(List.getElem?_eq_some_iff.1 hp).1
 rw[uA h]at qs
 have hi:p / s<n:=(Nat.div_lt_iff_lt_mul hs).2 qs
 have hj:=Nat.mod_lt p hs
 have he:p / s*s+p % s=p:=Nat.div_add_mod' p s
 refine⟨p / s,p % s,hi,hj,he.symm,?_⟩
 rw[<- ru h _ _ hi hj,he]; exact hp
def OE(κ:KS):Nat->Prop:=λk=>κ.ok k\/∃ b n:Nat,κ.ph[b]? = some (some (k,n))
structure Src(κ:KS)(e:Ty)(ys:List (den e))(v:Value):Prop where
 ex:∃ (a:Option Addr) (cap:Nat) (f:Nat->List Value),v=.slice a ys.length cap/\ys.length<=cap/\(a=none->ys=[]/\cap=0)/\(∀ i (hi:i<ys.length),Rc κ.w κ.ok e ys[i] (f i)) /\
  ∀ p,a=some p->(ys=[]/\cap=0)\/(p.spot=none/\OE κ p.block/\∀ i,i<ys.length->∀ j u,(f i)[j]? = some u->κ.w.cell? ⟨p.block,p.off+i*e.size+j,none⟩=some u)
theorem LK{e:Ty}{ys:List (den e)}{v:Value}(h:RD κ (.zI (.sl e) ys) v):Src κ e ys v:=by
 rcases(h.vf rfl).X2 with⟨rfl,a0,he⟩ | ⟨blk,off,cap,f,he,wg,wY,h1,h2⟩
 ·cases he; exact⟨⟨a0,0,λ_=>[],rfl,Nat.le_refl _,λ_=>⟨rfl,rfl⟩,λi hi=>absurd hi (Nat.not_lt_zero i),λ_ _=>.inl ⟨rfl,rfl⟩⟩⟩
 ·cases he; exact⟨⟨some ⟨blk,off,none⟩,cap,f,rfl,wY,nofun,h1,λp hp=>by cases hp; exact .inr ⟨rfl,.inl wg,h2⟩⟩⟩
theorem pT{e:Ty}{ys:List (den e)}{ne:Bool}{v:Value}(h:RD κ (.tight e ys ne) v):Src κ e ys v:=by
 cases h with
 | xb _ a0=>exact⟨⟨a0,0,λ_=>[],rfl,Nat.le_refl _,λ_=>⟨rfl,rfl⟩,λi hi=>absurd hi (Nat.not_lt_zero i),λ_ _=>.inl ⟨rfl,rfl⟩⟩⟩
 | tight _ _ _ blk off f vJ wg h1 h2=>exact⟨⟨some ⟨blk,off,none⟩,_,f,rfl,Nat.le_refl _,nofun,h1,λp hp=>by cases hp; exact .inr ⟨rfl,.inl wg,h2⟩⟩⟩
theorem WK{e:Ty}{v:Value}(h:RD κ .xp v):Src κ e [] v:=by
 cases h; exact⟨⟨none,0,λ_=>[],rfl,Nat.le_refl _,λ_=>⟨rfl,rfl⟩,λi hi=>absurd hi (Nat.not_lt_zero i),nofun⟩⟩
theorem Es{b qy off len:Nat}{e:Ty}{xs:List (den e)}{v:Value}(hI:Inv κ)(h:RD κ (.ms b qy e off len) v)(hb:κ.st[b]? = some (.arr qy e xs)):Src κ e ((xs.take (off+len)).drop off) v/\off+len<=xs.length:=by
 cases h with
 | ms _ _ _ _ _ cap a hold wY ha pC hm =>
  obtain⟨hle,hm⟩:=hm xs hb
  have hl:((xs.take (off+len)).drop off).length=len:=by simp; omega
  have hg:∀ i (hi:i<((xs.take (off+len)).drop off).length),∃ h:off+i<xs.length,((xs.take (off+len)).drop off)[i]=xs[off+i]:=λi hi=>⟨by omega,by simp[List.getElem_drop,List.getElem_take]⟩
  refine⟨?_,hle⟩
  rcases hm with⟨rfl,rfl,hv,hp⟩ | ⟨blk,n,o,DV,h3,h4,h5,h6,h7⟩
  ·cases hv
   have:(xs.take (0+0)).drop 0=[]:=by simp
   rw[this]
   exact⟨⟨none,0,λ_=>[],rfl,Nat.le_refl _,λ_=>⟨rfl,rfl⟩,λi hi=>absurd hi (Nat.not_lt_zero i),nofun⟩⟩
  ·cases h4
   obtain⟨uP,⟨Uo,_⟩ | ⟨iS,n',cs,T,g1,g2,g3,g4,gr,f,g5⟩⟩:=hI.blk b _ hb
   ·grind
   ·rw[h3]at g1
    cases g1
    refine⟨⟨some ⟨blk,o,none⟩,cap,λi=>f (off+i),by rw[hl],by rw[hl]; exact wY,nofun,λi hi => ?_,λp hp => ?_⟩⟩
    ·grind
    ·cases hp
     refine .inr ⟨rfl,.inr ⟨b,n,h3⟩,λi hi j u hj => ?_⟩
     obtain⟨k1,_⟩:=hg i hi
     have:=(g5 _ k1).2 j u hj
     rw[pZ g2]
     rcases h7 with h7 | h7
     ·omega
     ·rw[h7,<- Nat.add_mul]; exact this
theorem QM{e:Ty}{ys:List (den e)}{v:Value}(h:Src κ e ys v)(uP:0<e.size):∃ (news:List Value) (f:Nat->List Value),news=kB f ys.length/\(∀ i (hi:i<ys.length),Rc κ.w κ.ok e ys[i] (f i)) /\
  (∀ P,(Builtin.lenOf v).run P κ.w=.ok ys.length κ.w)/\(∀ P,(Builtin.firstCells e.size ys.length v).run P κ.w=.ok news.toArray κ.w)/\(∀ P,(Builtin.firstCells e.size ys.length v).run P κ.w.drew=.ok news.toArray κ.w.drew):=by
 obtain⟨a,cap,f,rfl,_,hn,h1,h2⟩:=h.ex
 have hf:∀ i,i<ys.length->(f i).length=e.size:=λi hi=>(h1 i hi).len
 refine⟨kB f ys.length,f,rfl,h1,λP=>rfl,λP => ?_,λP => ?_⟩
 all_goals
  cases a with
  | none=>have:=(hn rfl).1; subst this; simp[Builtin.firstCells,kB]
  | some p =>
   rcases h2 p rfl with⟨rfl,_⟩ | ⟨hp,_,hc⟩
   ·simp[Builtin.firstCells,kB,loadCells,loadCellsFrom]
   obtain⟨blk,o,sp⟩:=p
   subst hp
   refine run_firstCells_some (P:=P) _ e.size ys.length ⟨blk,o,none⟩ ys.length cap (kB f ys.length) (uA hf) λj u hj => ?_
   obtain⟨i,k,hi,hk,rfl,hu⟩:=Dp uP hf hj
   rw[vD]
   try rw[World.cell?_drew]
   grind
structure Cel(κ:KS)(e:Ty)(ys:List (den e))(v:Value):Prop where
 ex:∃ (news:List Value) (f:Nat->List Value),news=kB f ys.length/\(∀ i (hi:i<ys.length),Rc κ.w κ.ok e ys[i] (f i)) /\
  (∀ P,(Builtin.lenOf v).run P κ.w=.ok ys.length κ.w)/\(∀ P,(Builtin.firstCells e.size ys.length v).run P κ.w=.ok news.toArray κ.w)/\(∀ P,(Builtin.firstCells e.size ys.length v).run P κ.w.drew=.ok news.toArray κ.w.drew)
theorem z2d{e:Ty}{ys:List (den e)}{v:Value}(h:Src κ e ys v)(uP:0<e.size):Cel κ e ys v:=⟨QM h uP⟩
def RC(c:Ctx)(t2:TypeId):Prop:=(∃ e,c.P.underlying t2=some (.slice e))\/c.P.underlying t2=some .string
section run
variable {t t2 e:TypeId} {i:TypeInfo} {z:Value} {sLen sCap n:Nat} {base:Option Addr} {x:Value} {news olds:List Value} {ty:TypeId}
theorem run_append_fits(ht:c.P.underlying t=some (.slice e))(YE:RC c t2)(hi:c.P.info? e=some i)(hlen:∀ P,(Builtin.lenOf x).run P κ.w=.ok n κ.w)(hf:∀ P,(Builtin.firstCells i.size n x).run P κ.w=.ok news.toArray κ.w)
  (ny:sLen+n<=sCap) {w':World} (xJ:(match base with | some a=>storeCells (a.add (sLen*i.size)) news | none=>pure ()).run c.P κ.w=.ok () w') :
  (Builtin.append_ #[t,t2] ty #[.slice base sLen sCap,x]).run c.P κ.w=.ok (.slice base (sLen+n) sCap) w':=by
 rcases YE with⟨e2,YE⟩ | YE
 all_goals cases base with
 | none=>simp at xJ; subst xJ; simp[Builtin.append_,run_underlying ht,run_underlying YE,sizeOf,typeInfo,hi,hlen,ny,hf]
 | some a=>simp only at xJ; simp[Builtin.append_,run_underlying ht,run_underlying YE,sizeOf,typeInfo,hi,hlen,ny,hf,xJ]
theorem p8(ht:c.P.underlying t=some (.slice e))(YE:RC c t2)(hi:c.P.info? e=some i)(hz:i.zero=some z)(hlen:∀ P,(Builtin.lenOf x).run P κ.w=.ok n κ.w)(hf:∀ P,(Builtin.firstCells i.size n x).run P κ.w.drew=.ok news.toArray κ.w.drew)
  (ho:∀ P,(Builtin.firstCells i.size sLen (.slice base sLen sCap)).run P κ.w.drew=.ok olds.toArray κ.w.drew)
  (hg:sCap<sLen+n) (h63:((sLen+n:Nat):Int)<=9223372036854775807) (hb:(sLen+n)*i.bytes<=140737488355328) :
  (Builtin.append_ #[t,t2] ty #[.slice base sLen sCap,x]).run c.P κ.w=.ok (.slice (some ⟨κ.w.heap.size,0,none⟩) (sLen+n) (grownCap κ.w (sLen+n) sCap e))
   (κ.w.drew.alloc (.cells (olds.toArray++news.toArray++Builtin.zeroCells z.cells (grownCap κ.w (sLen+n) sCap e-(sLen+n))) e)):=by
 have h1:¬ (sLen+n<=sCap):=by omega
 have h2:¬ (9223372036854775807<((sLen+n:Nat):Int)):=by omega
 have h3:=growslice_fits (bytes:=i.bytes) hg hb
 have h4:¬ (281474976710656<Builtin.nextslicecap (sLen+n) sCap*i.bytes):=by omega
 have h5:IntKind.i64.max=9223372036854775807:=by decide
 rcases YE with⟨e2,YE⟩ | YE
 all_goals
  simp[Builtin.append_,run_underlying ht,run_underlying YE,sizeOf,typeInfo,zeroValue,hi,hz,hlen,hf,ho,Question.forced,newRow,grownCap]
  grind
end run
theorem oN(z:Array Value)(n:Nat):(Builtin.zeroCells z n).size=n*z.size:=by simp[Builtin.zeroCells]
theorem Vm{e:Ty}{l ys:List (den e)}{f g:Nat->List Value}(hl:∀ i (hi:i<l.length),Rc κ.w κ.ok e l[i] (f i))(hy:∀ i (hi:i<ys.length),Rc κ.w κ.ok e ys[i] (g i))(zs:List Value) :
  ∀ i (hi:i<(l++ys).length),Rc κ.w κ.ok e (l++ys)[i] (if i<l.length then f i else g (i-l.length)) /\
   ∀ j v,(if i<l.length then f i else g (i-l.length))[j]? = some v->(kB f l.length++kB g ys.length++zs)[i*e.size+j]? = some v:=by
 have HY:∀ i,i<l.length->(f i).length=e.size:=λi hi=>(hl i hi).len
 have TT:∀ i,i<ys.length->(g i).length=e.size:=λi hi=>(hy i hi).len
 have h1:=uA HY
 have h2:=uA TT
 intro i hi
 by_cases Oa:i<l.length
 ·simp only[if_pos Oa]
  refine⟨by grind,λj v hj => ?_⟩
  have OM:j<e.size:=by rw[<- HY i Oa]; exact(List.getElem?_eq_some_iff.1 hj).1
  have:i*e.size+e.size<=l.length*e.size:=by rw[<- Nat.succ_mul]; exact Nat.mul_le_mul_right _ Oa
  rw[List.append_assoc,List.getElem?_append_left (by omega),ru HY i j Oa OM]
  exact hj
 ·simp only[if_neg Oa]
  simp only[List.length_append]at hi
  have z5R:i-l.length<ys.length:=by omega
  refine⟨by grind,λj v hj => ?_⟩
  have OM:j<e.size:=by rw[<- TT _ z5R]; exact(List.getElem?_eq_some_iff.1 hj).1
  have e1:i*e.size=l.length*e.size+(i-l.length)*e.size:=by rw[<- Nat.add_mul]; congr 1; omega
  have:(i-l.length)*e.size+e.size<=ys.length*e.size:=by rw[<- Nat.succ_mul]; exact Nat.mul_le_mul_right _ z5R
  rw[List.append_assoc,List.getElem?_append_right (by omega),h1,List.getElem?_append_left (by omega)]
  rw[show i*e.size+j-l.length*e.size=(i-l.length)*e.size+j by omega,ru TT _ j z5R OM]
  exact hj
theorem EZ{t t2 et:Nat}{e:Ty}{l ys:List (den e)}{sv v:Value}{bytes:Nat}{ty:Nat}(hI:Inv κ)(hu:c.P.underlying t=some (.slice et))(T9:RC c t2)(wg:ke c et e=true)(uP:0<e.size)(DG:mw c et=some bytes)(hz:∃ y,zeroOf c et e=some y)
  (hs:Src κ e l sv) (wY:∃ a,sv=.slice a l.length l.length) (hv:Cel κ e ys v) (vJ:ys≠[]) (hb:(l.length+ys.length)*bytes<=140737488355328) (hn:l.length+ys.length<=9223372036854775807) :
  ∃ (κ':KS) (r:Value),(Builtin.append_ #[t,t2] ty #[sv,v]).run c.P κ.w=.ok r κ'.w/\κ'.st=κ.st++[.arr (l.length+ys.length) e (l++ys)]/\Inv κ'/\Ext κ κ'/\RD κ' (.ms κ.st.length (l.length+ys.length) e 0 (l.length+ys.length)) r:=by
 obtain⟨PM,_⟩:=vu wg
 obtain⟨i,Ei,Xy⟩:=dJ PM
 obtain⟨y,hy⟩:=hz
 obtain⟨i',zv,g1,g2,g3⟩:=fR (κ:=κ) hy
 obtain⟨i'',k1,k2⟩:=oo DG
 rw[Ei]at g1 k1
 cases g1
 cases k1
 obtain⟨olds,f,PA,ho2,ho3,ho4,ho5⟩:=QM hs uP
 obtain⟨news,g,B0,VB,hn3,hn4,hn5⟩:=hv.ex
 obtain⟨a,hsv⟩:=wY
 subst hsv
 have tX:0<ys.length:=List.length_pos_iff.2 vJ
 have vx:=p8 (c:=c) (κ:=κ) (t:=t) (t2:=t2) (e:=et) (ty:=ty) (base:=a) (sLen:=l.length) (sCap:=l.length) (n:=ys.length) (x:=v) (news:=news) (olds:=olds) hu T9 Ei g2 hn3
  (by intro P; rw[Xy]; exact hn5 P) (by intro P; rw[Xy]; exact ho5 P) (by omega) (by omega) (by rw[k2]; exact hb)
 let C:=grownCap κ.w (l.length+ys.length) l.length et
 have hC:l.length+ys.length<=C:=grownCap_ge _ _ _ _
 let zs:=Builtin.zeroCells zv.cells (C-(l.length+ys.length))
 let cells:=olds.toArray++news.toArray++zs
 have hzs:zs.size=(C-(l.length+ys.length))*e.size:=by have:=g3.len; simp only[Array.length_toList]at this; simp[zs,oN,this]
 have hol:olds.length=l.length*e.size:=by rw[PA]; exact uA λi hi=>(ho2 i hi).len
 have FR:news.length=ys.length*e.size:=by rw[B0]; exact uA λi hi=>(VB i hi).len
 have QP:cells.size=C*e.size:=by
  simp only[cells,Array.size_append,List.size_toArray,hol,FR,hzs,<- Nat.add_mul]
  grind
 have gr:=dH.drew κ.w (.cells cells et)
 have hex:=rD (n:=cells.size) (x:=.arr (l.length+ys.length) e (l++ys)) hI gr
 refine⟨κ.add _ cells.size (.arr (l.length+ys.length) e (l++ys)),_,vx,rfl,WS hI gr ?_,hex,?_⟩
 ·refine⟨uP,.inr ⟨κ.w.heap.size,cells.size,cells,et,ob hI,gr.new,rfl,?_,Zv wg,λi=>if i<l.length then f i else g (i-l.length),λi hi => ?_⟩⟩
  ·rw[QP,List.length_append]; exact Nat.mul_le_mul_right _ hC
  ·obtain⟨q1,q2⟩:=Vm ho2 VB zs.toList i hi
   refine⟨q1.mono hex.same,λj v hj => ?_⟩
   grind
 ·refine .ms _ (l.length+ys.length) e 0 _ C _ (.inr ⟨l.length+ys.length,e,_,sW,Nat.le_refl _⟩) hC nofun (λp hp=>by cases hp; rfl) λxs WC => ?_
  rw[sW]at WC
  cases WC
  exact⟨by simp,.inr ⟨κ.w.heap.size,cells.size,0,C,ob hI,rfl,hC,by rw[QP]; simp,.inr (by simp)⟩⟩
def KS.re(κ:KS)(w':World)(b n:Nat)(x:kG):KS:={ κ with w:=w',ph:=κ.ph.set b (some (κ.w.heap.size,n)),st:=κ.st.set b x }
theorem E5{w':World}{o:Obj}{b n v0 v1:Nat}{e:Ty}{xs ys:List (den e)}(hI:Inv κ)(g:dH κ.w w' o)(hb:κ.st[b]? = some (.arr v0 e xs))(hv:v0<v1):Ext κ (κ.re w' b n (.arr v1 e ys)):=by
 refine⟨g.os,g.tape,g.output,by show κ.w.heap.size<=w'.heap.size; rw[g.size]; omega,λk hk=>⟨hk,g.old (hI.yw k hk)⟩,λk hk=>.inl hk,?_,?_,?_,?_,by simp[KS.re],λk hk _=>g.old hk⟩
 ·intro b' blk m h
  simp only[KS.re]at h
  grind
 ·intro b' d hd
  have vJ:b≠b':=λe=>by subst e; rw[hb]at hd; cases hd
  simp only[KS.re]
  grind
 ·intro b' u0 e' zs hd
  simp only[KS.re]
  grind
 ·intro b' hd
  have vJ:b≠b':=λe=>by subst e; rw[hb]at hd; cases hd
  simp only[KS.re,List.getElem?_set,if_neg vJ]
  exact hd
theorem z7O{w':World}{o:Obj}{b n v0 v1:Nat}{e:Ty}{xs ys:List (den e)}(hI:Inv κ)(g:dH κ.w w' o)(hb:κ.st[b]? = some (.arr v0 e xs))(hv:v0<v1)
  (hx:dT (κ.re w' b n (.arr v1 e ys)) b (.arr v1 e ys)):Inv (κ.re w' b n (.arr v1 e ys)):=by
 have hold:∀ (b' blk m:Nat),(κ.ph.set b (some (κ.w.heap.size,n)))[b']? = some (some (blk,m))->(b≠b'/\κ.ph[b']? = some (some (blk,m)))\/(b=b'/\blk=κ.w.heap.size):=by
  grind
 refine⟨by simp[KS.re,hI.len],?_,?_,?_,?_,hI.gl.mono (E5 (n:=n) (ys:=ys) hI g hb hv).same⟩
 ·intro k hk; have:=hI.yw k hk; show k<w'.heap.size; rw[g.size]; omega
 ·intro b' blk m h
  rcases hold b' blk m h with⟨_,h⟩ | ⟨rfl,rfl⟩
  ·obtain⟨h1,h2⟩:=hI.apart b' blk m h
   exact⟨by show blk<w'.heap.size; rw[g.size]; omega,h2⟩
  ·exact⟨by show κ.w.heap.size<w'.heap.size; rw[g.size]; omega,λhk=>absurd (hI.yw _ hk) (Nat.lt_irrefl _)⟩
 ·intro b1 b2 blk m m' h h'
  rcases hold b1 blk m h with⟨_,h⟩ | ⟨rfl,rfl⟩<;>rcases hold b2 _ m' h' with⟨_,h'⟩ | ⟨rfl,h''⟩
  ·exact hI.inj b1 b2 blk m m' h h'
  ·have:=(hI.apart b1 blk m h).1; omega
  ·have:=(hI.apart b2 _ m' h').1; omega
  ·rfl
 ·intro b' y hy
  simp only[KS.re,List.getElem?_set]at hy
  split at hy
  ·grind
  ·rename_i e1
   refine(hI.blk b' y hy).mono (E5 hI g hb hv) ?_ λblk m h=>g.old (hI.apart b' blk m h).1
   simp only[KS.re,List.getElem?_set,if_neg e1]
theorem Ux{α:Type}{l:List α}{i:Nat}{a:α}(h:l[i]? = some a):l.set i a=l:=by
 apply List.ext_getElem?
 grind
theorem Ok{t t2 et b qy len:Nat}{e:Ty}{xs ys:List (den e)}{sv v:Value}{bytes:Nat}{ty:Nat}(hI:Inv κ)(hu:c.P.underlying t=some (.slice et))(T9:RC c t2)(wg:ke c et e=true)(uP:0<e.size)(DG:mw c et=some bytes)
  (hz:∃ y,zeroOf c et e=some y) (hs:RD κ (.ms b qy e 0 len) sv) (hb:κ.st[b]? = some (.arr qy e xs)) (hlen:len=xs.length) (hv:Cel κ e ys v) (hbb:(xs.length+ys.length)*bytes<=140737488355328)
  (hn:xs.length+ys.length<=9223372036854775807) :
  ∃ (κ':KS) (r:Value),(Builtin.append_ #[t,t2] ty #[sv,v]).run c.P κ.w=.ok r κ'.w/\κ'.st=κ.st.set b (.arr (qy+ys.length) e (xs++ys))/\Inv κ'/\Ext κ κ'/\RD κ' (.ms b (qy+ys.length) e 0 (len+ys.length)) r:=by
 subst hlen
 have qs:b<κ.st.length:=(List.getElem?_eq_some_iff.1 hb).1
 have Kd:b<κ.ph.length:=by rw[hI.len]; exact qs
 obtain⟨PM,_⟩:=vu wg
 obtain⟨i,Ei,Xy⟩:=dJ PM
 obtain⟨y,hy⟩:=hz
 obtain⟨i',zv,g1,g2,g3⟩:=fR (κ:=κ) hy
 obtain⟨i'',k1,k2⟩:=oo DG
 rw[Ei]at g1 k1
 cases g1
 cases k1
 have HK:=(Es hI hs hb).1
 simp only[Nat.zero_add,List.take_length,List.drop_zero]at HK
 obtain⟨olds,f,PA,ho2,ho3,ho4,ho5⟩:=QM HK uP
 obtain⟨news,g,B0,VB,hn3,hn4,hn5⟩:=hv.ex
 have hol:olds.length=xs.length*e.size:=by rw[PA]; exact uA λi hi=>(ho2 i hi).len
 have FR:news.length=ys.length*e.size:=by rw[B0]; exact uA λi hi=>(VB i hi).len
 have Yt:∀ u∈news,u.oneCell'=true:=by rw[B0]; exact YF λi hi=>(VB i hi).one
 cases hs with
 | ms _ _ _ _ _ cap a hold wY ha pC hm =>
  obtain⟨hle,hm⟩:=hm xs hb
  by_cases ny:xs.length+ys.length<=cap
  ·-- there is room
   rcases hm with⟨h1,_,hv',hp⟩ | ⟨blk,n,o,DV,h3,h4,h5,h6,h7⟩
   ·simp only[Value.slice.injEq]at hv'
    obtain⟨rfl,JI,rfl⟩:=hv'
    have Vb:xs=[]:=List.eq_nil_of_length_eq_zero h1
    have hy0:ys=[]:=List.eq_nil_of_length_eq_zero (by omega)
    subst Vb hy0
    refine⟨κ,.slice none 0 0,?_,?_,hI,Ext.refl κ,.ms b qy e 0 0 0 none hold (Nat.le_refl _) (λ_=>rfl) nofun λzs hzs => ?_⟩
    ·have OH:news=[]:=List.eq_nil_of_length_eq_zero (by simpa using FR)
     subst OH
     exact run_append_fits (c:=c) (κ:=κ) (t:=t) (t2:=t2) (e:=et) (ty:=ty) (base:=none) (sLen:=0) (sCap:=0) (n:=0) (x:=v) (news:=[]) hu T9 Ei hn3 (by intro P; rw[Xy]; exact hn4 P) (by omega) rfl
    ·simp only[List.length_nil,Nat.add_zero,List.append_nil]
     rw[Ux hb]
    ·grind
   ·cases h4
    obtain⟨_,⟨Uo,hpn⟩ | ⟨iS,n',cs,T,p1,p2,p3,p4,pr,F,p5⟩⟩:=hI.blk b _ hb
    ·grind
    ·rw[h3]at p1
     cases p1
     have ho:xs.length+ys.length=0\/o=0:=by
      grind
     have z95:cap*e.size<=cs.size:=by rw[p3]; simpa using h6
     have Vi:xs.length*e.size+ys.length*e.size<=cs.size:=by
      rw[<- Nat.add_mul]; exact Nat.le_trans (Nat.mul_le_mul_right _ ny) z95
     let bM:=(cs.toList.take (xs.length*e.size)++news++cs.toList.drop (xs.length*e.size+news.length)).toArray
     have Va:cs.toList.length=cs.size:=by simp
     have Kb:bM.size=cs.size:=by simp only[bM,List.size_toArray,List.length_append,List.length_take,List.length_drop,FR,Va]; omega
     have K4:∀ m,(⟨blk,o,none⟩:Addr).add (xs.length*e.size)=⟨blk,xs.length*e.size,none⟩\/m=0\/xs.length+ys.length=0:=by
      intro m
      rcases ho with h | h
      ·grind
      ·subst h; rw[vD,Nat.zero_add]; exact .inl rfl
     have xJ:(storeCells ((⟨blk,o,none⟩:Addr).add (xs.length*i.size)) news).run c.P κ.w=.ok () (κ.w.setRow blk bM):=by
      rw[Xy]
      rcases K4 1 with h | h | h
      ·rw[h]
       have:=run_storeCells_at c.P blk (xs.length*e.size) T news 0 cs κ.w p2 (by rw[FR]; omega) Yt
       simpa only[Nat.add_zero]using this
      ·cases h
      ·have OH:news=[]:=List.eq_nil_of_length_eq_zero (by rw[FR,show ys.length=0 by omega]; simp)
       have Vb:xs.length=0:=by omega
       have hce:bM=cs:=by simp[bM,OH,Vb]
       rw[OH,hce,setRow_self _ _ _ _ _ p2]
       rfl
     have iI:Alike (.arr qy e xs) (.arr (qy+ys.length) e (xs++ys)):=⟨rfl,by omega,λh=>by rw[List.length_append]; omega⟩
     have hex:=mD (cs:=bM) (x:=.arr (qy+ys.length) e (xs++ys)) hI h3 hb iI
     refine⟨κ.HV b blk bM (.arr (qy+ys.length) e (xs++ys)),.slice (some ⟨blk,o,none⟩) (xs.length+ys.length) cap,?_,rfl,Zc hI h3 hb iI ?_,hex,?_⟩
     ·exact run_append_fits (c:=c) (κ:=κ) (t:=t) (t2:=t2) (e:=et) (ty:=ty) (base:=some ⟨blk,o,none⟩) (sLen:=xs.length) (sCap:=cap) (n:=ys.length) (x:=v) (news:=news) hu T9 Ei hn3 (by intro P; rw[Xy]; exact hn4 P) ny xJ
     ·refine⟨uP,.inr ⟨blk,n,bM,T,h3,setRow_heap _ _ _ _ _ _ p2,by rw[Kb]; exact p3,?_,pr,λi=>if i<xs.length then F i else g (i-xs.length),λi hi => ?_⟩⟩
      ·rw[List.length_append]; exact Nat.le_trans (Nat.mul_le_mul_right _ ny) (by simpa using h6)
      ·have hF:∀ i (hi:i<xs.length),Rc κ.w κ.ok e xs[i] (F i):=λi hi=>(p5 i hi).1
       have z5f:∀ i,i<xs.length->(F i).length=e.size:=λi hi=>(hF i hi).len
       have z04:cs.toList.take (xs.length*e.size)=kB F xs.length:=by
        apply List.ext_getElem?
        intro p
        rw[List.getElem?_take]
        have HY:=uA z5f
        split
        ·rename_i hp
         obtain⟨q,hq⟩:∃ q,(kB F xs.length)[p]? = some q:=⟨_,List.getElem?_eq_getElem (by rw[HY]; exact hp)⟩
         obtain⟨i',j',a1,a2,a3,a4⟩:=Dp uP z5f hq
         rw[hq]
         have:=(p5 i' a1).2 j' q a4
         rw[a3,Array.getElem?_toList]; exact this
        ·rename_i hp
         rw[List.getElem?_eq_none (by rw[HY]; omega)]
       obtain⟨q1,q2⟩:=Vm hF VB (cs.toList.drop (xs.length*e.size+news.length)) i hi
       refine⟨q1.mono hex.same,λj w hj => ?_⟩
       have:=q2 j w hj
       rw[<- B0,<- z04]at this
       simpa only[bM,List.getElem?_toArray]using this
     ·refine .ms b _ e 0 _ cap _ (.inr ⟨qy+ys.length,e,xs++ys,by simp[KS.HV,qs],Nat.le_refl _⟩) ny nofun (λp hp=>by cases hp; rfl) λzs hzs => ?_
      have:zs=xs++ys:=by simp only[KS.HV,List.getElem?_set_self qs]at hzs; cases hzs; rfl
      subst this
      refine⟨by simp,.inr ⟨blk,n,o,cap,h3,rfl,ny,by simpa using h6,?_⟩⟩
      rcases h7 with h7 | h7
      ·exact .inl h7
      ·exact .inr (by simpa using h7)
  ·-- it grows
   have tX:0<ys.length:=by omega
   have vx:=p8 (c:=c) (κ:=κ) (t:=t) (t2:=t2) (e:=et) (ty:=ty) (base:=a) (sLen:=xs.length) (sCap:=cap) (n:=ys.length) (x:=v) (news:=news) (olds:=olds) hu T9 Ei g2 hn3
    (by intro P; rw[Xy]; exact hn5 P) (by intro P; rw[Xy]; exact ho5 P) (by omega) (by omega) (by rw[k2]; exact hbb)
   let C:=grownCap κ.w (xs.length+ys.length) cap et
   have hC:xs.length+ys.length<=C:=grownCap_ge _ _ _ _
   let zs:=Builtin.zeroCells zv.cells (C-(xs.length+ys.length))
   let cells:=olds.toArray++news.toArray++zs
   have hzs:zs.size=(C-(xs.length+ys.length))*e.size:=by have:=g3.len; simp only[Array.length_toList]at this; simp[zs,oN,this]
   have QP:cells.size=C*e.size:=by
    simp only[cells,Array.size_append,List.size_toArray,hol,FR,hzs,<- Nat.add_mul]
    congr 1; omega
   have gr:=dH.drew κ.w (.cells cells et)
   have Tc:qy<qy+ys.length:=by omega
   have hex:=E5 (n:=cells.size) (ys:=xs++ys) hI gr hb Tc
   refine⟨κ.re _ b cells.size (.arr (qy+ys.length) e (xs++ys)),_,vx,rfl,z7O hI gr hb Tc ?_,hex,?_⟩
   ·refine⟨uP,.inr ⟨κ.w.heap.size,cells.size,cells,et,by simp[KS.re,Kd],gr.new,rfl,?_,Zv wg,λi=>if i<xs.length then f i else g (i-xs.length),λi hi => ?_⟩⟩
    ·rw[QP,List.length_append]; exact Nat.mul_le_mul_right _ hC
    ·obtain⟨q1,q2⟩:=Vm ho2 VB zs.toList i hi
     refine⟨q1.mono hex.same,λj v hj => ?_⟩
     have:=q2 j v hj
     rw[<- PA,<- B0]at this
     rw[<- Array.getElem?_toList]
     simpa[cells]using this
   ·refine .ms b _ e 0 _ C _ (.inr ⟨qy+ys.length,e,xs++ys,by simp[KS.re,qs],Nat.le_refl _⟩) hC nofun (λp hp=>by cases hp; rfl) λus hus => ?_
    have:us=xs++ys:=by simp only[KS.re,List.getElem?_set_self qs]at hus; cases hus; rfl
    subst this
    exact⟨by simp,.inr ⟨κ.w.heap.size,cells.size,0,C,by simp[KS.re,Kd],rfl,hC,by rw[QP]; simp,.inr (by simp)⟩⟩
end
end Go.AM
namespace Go.AM
set_option linter.unusedSectionVars false
variable [vQ]
section
variable {c:Ctx} {κ:KS}
theorem tf{x y:D}{v:Value}(hI:Inv κ)(hx:RD κ x v)(h:(nJ κ.st x).leads y):(y=x/\∀ b qy e off len,x≠.ms b qy e off len)\/∃ (e:Ty) (ys:List (den e)),y=.zI (.sl e) ys/\Src κ e ys v/\∃ b qy off len,x=.ms b qy e off len:=by
 cases x with
 | ms b qy e off len =>
  simp only[nJ]at h
  split at h
  ·rename_i jL e' xs hb
   split at h
   ·rename_i he
    subst he
    obtain⟨rfl,h⟩:=h
    refine .inr ⟨e',_,h.symm,(Es hI hx hb).1,b,qy,off,len,rfl⟩
   ·exact h.elim
  ·exact h.elim
 | _=>exact .inl ⟨h.symm,λ_ _ _ _ _=>nofun⟩
theorem sP{t t2 et:Nat}{e:Ty}{s:D}{ys:List (den e)}{ne:Bool}{sv v:Value}{bytes ty:Nat}{d:Option D}{zt:St}(hI:Inv κ)(hu:c.P.underlying t=some (.slice et))(T9:RC c t2)(wg:ke c et e=true)(uP:0<e.size)
  (DG:mw c et=some bytes) (V4:0<bytes) (hz:∃ y,zeroOf c et e=some y) (hs:RD κ s sv) (hv:Cel κ e ys v) (vJ:ne=true->ys≠[])
  (h:(jB e s ys ne bytes κ.st).leads (d,zt)) :
  ∃ (κ':KS) (r:Value),(Builtin.append_ #[t,t2] ty #[sv,v]).run c.P κ.w=.ok r κ'.w/\κ'.st=zt/\Inv κ'/\Ext κ κ'/\∀ d',d=some d'->RD κ' d' r:=by
 have hlen:∀ n,n*bytes<=140737488355328->n<=9223372036854775807:=λn hn=>Nat.le_trans (Nat.le_mul_of_pos_right n V4) (Nat.le_trans hn (by decide))
 -- nothing is appended
 have same:∀ (a:Option Addr) (n cap:Nat),sv=.slice a n cap->n<=cap->ys=[]->d=some s->zt=κ.st ->
   ∃ (κ':KS) (r:Value),(Builtin.append_ #[t,t2] ty #[sv,v]).run c.P κ.w=.ok r κ'.w/\κ'.st=zt/\Inv κ'/\Ext κ κ'/\∀ d',d=some d'->RD κ' d' r:=by
  rintro a n cap rfl wY rfl rfl rfl
  obtain⟨PM,_⟩:=vu wg
  obtain⟨i,Ei,Xy⟩:=dJ PM
  obtain⟨news,g,B0,VB,hn3,hn4,hn5⟩:=hv.ex
  have OH:news=[]:=B0
  subst OH
  refine⟨κ,.slice a n cap,?_,rfl,hI,Ext.refl κ,λd' he=>by cases he; exact hs⟩
  have:=run_append_fits (c:=c) (κ:=κ) (t:=t) (t2:=t2) (e:=et) (ty:=ty) (base:=a) (sLen:=n) (sCap:=cap) (n:=0) (x:=v) (news:=[]) (i:=i) hu T9 Ei hn3 (by intro P; rw[Xy]; exact hn4 P) (by omega) (w':=κ.w) (by cases a<;>rfl)
  grind
 have new:∀ l:List (den e),Src κ e l sv->(∃ a,sv=.slice a l.length l.length)->ys≠[]->(lG e l ys bytes κ.st).leads (d,zt) ->
   ∃ (κ':KS) (r:Value),(Builtin.append_ #[t,t2] ty #[sv,v]).run c.P κ.w=.ok r κ'.w/\κ'.st=zt/\Inv κ'/\Ext κ κ'/\∀ d',d=some d'->RD κ' d' r:=by
  intro l hl wY vJ h
  obtain⟨hb,h⟩:=h
  cases h
  obtain⟨κ',r,h1,h2,h3,h4,h5⟩:=EZ (ty:=ty) hI hu T9 wg uP DG hz hl wY hv vJ hb (hlen _ hb)
  grind
 unfold jB at h
 split at h
 ·have hsv:sv=.slice none 0 0:=by cases hs; rfl
  cases hn:ne with
  | true=>rw[hn,cond_true]at h; exact new [] (WK hs) ⟨none,hsv⟩ (vJ hn) h
  | false =>
   rw[hn,cond_false]at h
   rcases h with⟨hy,h⟩ | ⟨hy,h⟩
   ·cases h; exact same none 0 0 hsv (Nat.le_refl _) (List.isEmpty_iff.1 hy) rfl rfl
   ·exact new [] (WK hs) ⟨none,hsv⟩ (λe=>by rw[e]at hy; cases hy) h
 ·rename_i e' l ne'
  split at h
  ·rename_i l' hl'
   obtain⟨he,zd4⟩:=qj hl'
   cases he
   simp only at zd4
   subst zd4
   have hsv:∃ a,sv=.slice a l'.length l'.length:=by
    cases hs with
    | xb=>simp
    | tight=>simp
   cases hn:ne with
   | true=>rw[hn,cond_true]at h; exact new l' (pT hs) hsv (vJ hn) h
   | false =>
    rw[hn,cond_false]at h
    rcases h with⟨hy,h⟩ | ⟨hy,h⟩
    ·cases h
     obtain⟨a,ha⟩:=hsv
     exact same a _ _ ha (Nat.le_refl _) (List.isEmpty_iff.1 hy) rfl rfl
    ·exact new l' (pT hs) hsv (λe=>by rw[e]at hy; cases hy) h
  ·exact h.elim
 ·rename_i b qy e' off len
  split at h
  ·rename_i jL e'' xs hb
   split at h
   ·rename_i xs' GV
    obtain⟨he,zdf⟩:=qj GV
    cases he
    simp only at zdf
    subst zdf
    cases hde:decide (e'=_)with
    | false=>rw[hde]at h; exact h.elim
    | true =>
     rw[hde,cond_true]at h
     have:=of_decide_eq_true hde
     subst this
     obtain⟨⟨rfl,rfl,hl,hbb⟩,h⟩:=h
     cases h
     obtain⟨κ',r,h1,h2,h3,h4,h5⟩:=Ok (ty:=ty) hI hu T9 wg uP DG hz hs hb hl hv hbb (hlen _ hbb)
     exact⟨κ',r,h1,h2,h3,h4,λd' he=>by cases he; exact h5⟩
   ·exact h.elim
  ·exact h.elim
 ·exact h.elim
theorem Bb{t ty:Nat}{s x:Option D}{sv v:Value}{d:Option D}{zt:St}(hI:Inv κ)(hs:∀ z,s=some z->RD κ z sv)(hx:∀ z,x=some z->RD κ z v)
  (h:(zH (Zd c t s x) κ.st).leads (d,zt)):qw c.P (do Pure.pure (.value (<- Builtin.append_ #[t,t] ty #[sv,v]))) κ d zt:=by
 unfold Zd at h
 split at h
 ·exact absurd h zf
 ·rename_i et het
  have hu:=uj het
  split at h
  ·rename_i e bytes Ih DG
   cases hb:ke c et e&&Nat.blt 0 e.size&&Nat.blt 0 bytes&&(zeroOf c et e).isSome with
   | false=>rw[hb]at h; exact absurd h zf
   | true =>
    rw[hb,cond_true]at h
    simp only[Bool.and_eq_true]at hb
    obtain⟨⟨⟨wg,h1⟩,h2⟩,h3⟩:=hb
    have uP:0<e.size:=Nat.le_of_ble_eq_true h1
    have V4:0<bytes:=Nat.le_of_ble_eq_true h2
    have hz:=Option.isSome_iff_exists.1 h3
    split at h
    ·rename_i s x
     simp only[zH,T.zC]at h
     obtain⟨y,hy,h⟩:=h
     have fin:∀ (ys:List (den e)) (ne:Bool),Src κ e ys v->(ne=true->ys≠[])->(jB e s ys ne bytes κ.st).leads (d,zt)->qw c.P (do Pure.pure (.value (<- Builtin.append_ #[t,t] ty #[sv,v]))) κ d zt:=by
      intro ys ne hv vJ h
      obtain⟨κ',r,g1,g2,g3,g4,g5⟩:=sP (t2:=t) (ty:=ty) hI hu (.inl ⟨et,hu⟩) wg uP DG V4 hz (hs _ rfl) (z2d hv uP) vJ h
      exact⟨κ',.value r,r,by simp only[Sem.run_bind,g1,Result.andThen_ok]; rfl,.inl rfl,g2,g3,g4,g5⟩
     have Fc:=hx _ rfl
     rcases tf hI Fc hy with⟨rfl,hnm⟩ | ⟨e',ys,rfl,HK,_⟩
     ·split at h
      ·rename_i σ z
       split at h
       ·rename_i ys hys
        obtain⟨he,hz'⟩:=qj hys
        cases he
        subst hz'
        exact fin _ false (LK Fc) nofun h
       ·exact h.elim
      ·rename_i σ z ne
       split at h
       ·rename_i ys hys
        obtain⟨he,hz'⟩:=qj hys
        cases he
        subst hz'
        refine fin _ ne (pT Fc) (λvJ => ?_) h
        cases Fc with
        | xb=>cases vJ
        | tight _ _ _ _ _ _ q=>exact q vJ
       ·exact h.elim
      ·exact fin [] false (WK Fc) nofun h
      ·exact h.elim
     ·simp only at h
      split at h
      ·rename_i ys' hys
       obtain⟨he,hz'⟩:=qj hys
       grind
      ·exact h.elim
    ·exact absurd h zf
  ·exact absurd h zf
theorem z29{l:ze}{v:Value}(h:RD κ (.zI .str l) v):Cel κ (.int .u8) (bytesOf l) v:=by
 have hv:=h.wC
 subst hv
 have hl:(bytesOf l).length=l.length:=by simp[bytesOf]
 have uP:(⟨l.toArray⟩:ByteArray).size=l.length:=List.size_toArray
 refine⟨Lib.strCells ⟨l.toArray⟩,λi=>[.int .u8 ((bytesOf l)[i]?.getD 0)],?_,λi hi => ?_,λP => ?_,λP => ?_,λP => ?_⟩
 ·have gen:∀ (n:Nat),n<=l.length->kB (λi=>[Value.int .u8 ((bytesOf l)[i]?.getD 0)]) n=(l.take n).map λb=>Value.int .u8 b.toNat:=by
   intro n
   induction n with
   | zero=>intro _; rfl
   | succ n ih =>
    intro hn
    have qs:n<l.length:=hn
    rw[kB,ih (by omega),List.take_succ_eq_append_getElem qs,List.map_append]
    simp[bytesOf,List.getElem?_eq_getElem qs]
  rw[hl,gen _ (Nat.le_refl _),List.take_length]
  rfl
 ·have:(bytesOf l)[i]?.getD 0=(bytesOf l)[i]:=by rw[List.getElem?_eq_getElem hi]; rfl
  show Rc κ.w κ.ok (.int .u8) (bytesOf l)[i] [Value.int .u8 ((bytesOf l)[i]?.getD 0)]
  rw[this]
  exact .int .u8 _
 ·show(pure (⟨l.toArray⟩:ByteArray).size:Sem Nat).run P κ.w=_
  rw[uP,hl]; rfl
 ·rw[hl,<- uP]; exact Lib.run_firstCells_string _ _ _
 ·rw[hl,<- uP]; exact Lib.run_firstCells_string _ _ _
theorem UE{t t2 ty:Nat}{s x:Option D}{sv v:Value}{d:Option D}{zt:St}(hI:Inv κ)(hs:∀ z,s=some z->RD κ z sv)(hx:∀ z,x=some z->RD κ z v)
  (h:(zH (r7 c t t2 s x) κ.st).leads (d,zt)):qw c.P (do Pure.pure (.value (<- Builtin.append_ #[t,t2] ty #[sv,v]))) κ d zt:=by
 unfold r7 at h
 split at h
 ·exact absurd h zf
 ·rename_i et het
  have hu:=uj het
  split at h
  ·rename_i bytes Ih DG T9
   cases hb:ke c et (.int .u8)&&Nat.blt 0 bytes&&(zeroOf c et (.int .u8)).isSome with
   | false=>rw[hb]at h; exact absurd h zf
   | true =>
    rw[hb,cond_true]at h
    simp only[Bool.and_eq_true]at hb
    obtain⟨⟨wg,h2⟩,h3⟩:=hb
    have V4:0<bytes:=Nat.le_of_ble_eq_true h2
    have hz:=Option.isSome_iff_exists.1 h3
    split at h
    ·rename_i s l
     obtain⟨κ',r,g1,g2,g3,g4,g5⟩:=sP (t2:=t2) (ty:=ty) hI hu (.inr T9) wg (by decide) DG V4 hz (hs _ rfl) (ne:=false) (z29 (hx _ rfl)) (λe=>by cases e) h
     exact⟨κ',.value r,r,by simp only[Sem.run_bind,g1]; rfl,.inl rfl,g2,g3,g4,g5⟩
    ·exact absurd h zf
  ·exact absurd h zf
end
end Go.AM
namespace Go.AM
set_option linter.unusedSectionVars false
variable [vQ]
section
variable {c:Ctx} {κ:KS}
theorem ta{places:List (Nat×Nat)}{pf:Nat->Option (Nat×Nat)}(hpf:∀ (i:Nat) p,places[i]? = some p->pf i=some p){F:Operand->Option D}{G:Operand->Value}(hF:∀ x d,F x=some d->RD κ d (G x)):∀ (L:List (Nat×Operand)) (cells r:List D) (cs:Array Value),
  dP places (L.map λp=>(p.1,F p.2)) cells=some r->qD κ cells cs.toList->(∀ d∈cells,d.one=true) ->
  ∃ bM,Instr.fill pf cs (L.map λp=>(p.1,G p.2))=some bM/\qD κ r bM.toList/\∀ d∈r,d.one=true
 | [],cells,r,cs,h,hr,ho=>by
  simp only[List.map_nil,dP,Option.some.injEq]at h
  subst h
  exact⟨cs,rfl,hr,ho⟩
 | (i,x)::L,cells,r,cs,h,hr,ho=>by
  simp at h
  cases hx:F x with
  | none=>rw[hx]at h; simp[dP]at h
  | some d =>
   rw[hx]at h
   simp only[dP]at h
   split at h
   ·rename_i off n hp
    cases hb : !d.uE&&Nat.beq n (qh d).length&&Nat.ble (off+n) cells.length with
    | false=>grind
    | true =>
     rw[hb,cond_true]at h
     simp only[Bool.and_eq_true,Bool.not_eq_true']at hb
     obtain⟨⟨h1,h2⟩,h3⟩:=hb
     have h2':n=(qh d).length:=Nat.eq_of_beq_eq_true h2
     have h3':=Nat.le_of_ble_eq_true h3
     have hd:=hF x d hx
     have hfd:=jb hd h1
     have hvl:(G x).cells.toList.length=n:=by rw[<- hfd.1]; exact h2'.symm
     have hle:off+n<=cs.size:=by have:=hr.1; simp at this; omega
     have hn:=iA hr hfd off n
     obtain⟨bM,g1,g2,g3⟩:=ta hpf hF L _ r (cs.toList.take off++(G x).cells.toList++cs.toList.drop (off+n)).toArray h (by grind) (by
      intro y hy
      simp only[List.mem_append]at hy
      rcases hy with(hy | hy) | hy
      ·grind
      ·exact ja hd y hy
      ·exact ho y (List.mem_of_mem_drop hy))
     refine⟨bM,?_,g2,g3⟩
     simp
     rw[BD (hpf _ _ hp) hvl hle]
     exact g1
   ·cases h
theorem EW{t:Nat}{L:List (Nat×Operand)}{F:Operand->Option D}{G:Operand->Value}{d:Option D}{zt:St}(hI:Inv κ)(hF:∀ x d,F x=some d->RD κ d (G x))
  (h:(zH (Gy c t (L.map λp=>(p.1,F p.2))) κ.st).leads (d,zt)):qw c.P (do Pure.pure (.value (<- Instr.build t (L.map λp=>(p.1,G p.2)).toArray))) κ d zt:=by
 unfold Gy at h
 split at h
 ·rename_i fs hu
  split at h
  ·rename_i z places hz hp
   split at h
   ·rename_i l hl
    rw[jz]at h
    obtain⟨rfl,rfl⟩:=h
    obtain⟨i,zv,h1,h2,h3⟩:=eW hz
    have hzr:=h3.rd κ
    obtain⟨bM,g1,g2,g3⟩:=ta (pf:=(places.toArray[·]?)) (λi p hp=>by simpa using hp) hF L z l zv.cells hl (jb hzr rfl) (ja hzr)
    have hb:c.P.built t (L.map λp=>(p.1,G p.2))=some bM:=by
     unfold Program.built
     grind
    refine qw.pure hI (run_build κ.w t _ bM (by simpa using hb)) ?_
    have:=RD.agg l bM.toList g2.1 g3 g2.2
    omega
   ·exact absurd h zf
  ·exact absurd h zf
 ·rename_i k e hu
  split at h
  ·rename_i z ie hz hp
   split at h
   ·rename_i l hl
    obtain⟨rfl,rfl⟩:=h
    obtain⟨i,zv,h1,h2,h3⟩:=eW hz
    have hzr:=h3.rd κ
    obtain⟨bM,g1,g2,g3⟩:=ta (pf:=λi=>some (i*ie.size,ie.size)) (λi p hp=>by
     rw[List.getElem?_map]at hp
     cases hr:(List.range k)[i]? with
     | none=>grind
     | some j =>
      rw[hr]at hp
      obtain⟨qs,rfl⟩:=List.getElem?_eq_some_iff.1 hr
      simpa using hp) hF L z l zv.cells hl (jb hzr rfl) (ja hzr)
    have hb:c.P.built t (L.map λp=>(p.1,G p.2))=some bM:=by
     unfold Program.built
     grind
    refine qw.pure hI (run_build κ.w t _ bM (by simpa using hb)) ?_
    have:=RD.agg l bM.toList g2.1 g3 g2.2
    omega
   ·exact absurd h zf
  ·exact absurd h zf
 ·exact absurd h zf
theorem JV{a:Act}{o:Oper}{p:Operand}(ho:o.op=.nilCheck p){x:Option D}{d:Option D}{zt:St}(hI:Inv κ)(hx:∀ z,x=some z->RD κ z (a.eval p))
  (h:(zH (tD x) κ.st).leads (d,zt)):qw c.P (execOp a.eval o) κ d zt:=by
 have key:∀ z v,RD κ z v->a.eval p=v->(∀ b:Option Addr,v=.pointer b->b≠none)->((∃ b,v=.pointer b)\/∃ g q l,v=.func (.func g) q l)->qw c.P (execOp a.eval o) κ (some z) κ.st:=by
  intro z v hz hv hn hc
  have:execOp a.eval o=Pure.pure (.value v):=by
   rcases hc with⟨b,rfl⟩ | ⟨g,q,l,rfl⟩
   ·cases b with
    | none=>grind
    | some b=>simp only[execOp,ho,hv]
   ·simp only[execOp,ho,hv]
  rw[this]
  exact qw.val hI λ_ he=>by cases he; exact hz
 unfold tD at h
 split at h
 all_goals try exact absurd h zf
 all_goals
  rw[jz]at h; obtain⟨rfl,rfl⟩:=h
  have hr:=hx _ rfl
  generalize hv:a.eval p=v at hr
  refine key _ v hr hv ?_ ?_
  ·intro b hb; cases hr<;>first | (cases hb<;>nofun) | (rename_i f l vs _ _; obtain⟨g,q,l',e⟩:=J1 f vs; rw[e]at hb; cases hb)
  ·cases hr<;>first | exact .inl ⟨_,rfl⟩ | exact .inr (J1 _ _)
theorem Fg{op:BinOp}{t:Nat}{px:Operand}{x:Option D}{v:Value}{d:Option D}{zt:St}(hI:Inv κ)(hx:∀ z,x=some z->RD κ z v)
  (h:(zH (HH c op t x) κ.st).leads (d,zt)):qw c.P (do Pure.pure (.value (<- (do eqGuard op t px (.const .nilIface) v .nilIface; binOp op t v .nilIface)))) κ d zt:=by
 unfold HH at h
 split at h
 ·rename_i ms hu
  have hm:c.P.underlying t=some (.interface (c.P.methodsAt t)):=by unfold Program.methodsAt; rw[hu]
  have g1:∀ w,(eqGuard op t px (.const .nilIface) .nilIface .nilIface).run c.P w=.ok () w:=λw=>by cases op<;>simp[eqGuard]
  have g2:∀ u y w,(eqGuard op t px (.const .nilIface) (.iface u y) .nilIface).run c.P w=.ok () w:=λu y w=>by cases op<;>simp[eqGuard]
  split at h
  ·unfold bb at h
   obtain⟨rfl,rfl⟩:=h
   cases hx _ rfl
   exact qw.pure hI (by simp only[Sem.run_bind,g1,Result.andThen_ok,run_eql_nil_nil _ _ hm]) RD.bool
  ·unfold bb at h
   obtain⟨rfl,rfl⟩:=h
   cases hx _ rfl
   exact qw.pure hI (by simp only[Sem.run_bind,g2,Result.andThen_ok,run_eql_held_nil _ _ _ _ hm]) RD.bool
  ·unfold bb at h
   obtain⟨rfl,rfl⟩:=h
   cases hx _ rfl
   exact qw.pure hI (by simp only[Sem.run_bind,g1,Result.andThen_ok,run_neq_nil_nil _ _ hm]) RD.bool
  ·unfold bb at h
   obtain⟨rfl,rfl⟩:=h
   cases hx _ rfl
   exact qw.pure hI (by simp only[Sem.run_bind,g2,Result.andThen_ok,run_neq_held_nil _ _ _ _ hm]) RD.bool
  ·exact absurd h zf
 ·exact absurd h zf
theorem Wg{x:Option D}{v:Value}{xt at':Nat}{ok:Bool}{d:Option D}{zt:St}(hI:Inv κ)(hx:∀ z,x=some z->RD κ z v)
  (h:(zH (mQ c x at' ok) κ.st).leads (d,zt)):qw c.P (do Pure.pure (.value (<- Instr.typeAssert v xt at' ok))) κ d zt:=by
 unfold mQ at h
 split at h
 ·exact absurd h zf
 ·exact absurd h zf
 ·rename_i ty hni hu
  split at h
  ·rename_i t e
   cases hb:Nat.beq t at'&&ok with
   | false=>rw[hb]at h; exact absurd h zf
   | true =>
    rw[hb,cond_true,jz]at h
    obtain⟨rfl,rfl⟩:=h
    simp only[Bool.and_eq_true]at hb
    have:=Nat.eq_of_beq_eq_true hb.1
    subst this
    obtain rfl:=hb.2
    cases hx _ rfl with
    | iface _ _ u hu' =>
     refine qw.pure hI (v:=.tuple #[u,.bool true]) ?_ ?_
     ·cases ty<;>first | (exact(hni _ rfl).elim) | (simp[Instr.typeAssert,run_underlying hu])
     ·have:=qD.cons hu' (qD.cons (RD.bool (κ:=κ) (b:=true)) qD.nil)
      exact .yC _ [u,.bool true] this.1 this.2
  ·exact absurd h zf
theorem VL{t:Nat}{x:Option D}{v:Value}{d:Option D}{zt:St}(hI:Inv κ)(hx:∀ z,x=some z->RD κ z v)
  (h:(zH (oU c t x) κ.st).leads (d,zt)):qw c.P (do Pure.pure (.value (<- Instr.makeInterface t v))) κ d zt:=by
 unfold oU at h
 cases hu:c.P.underlying t with
 | none=>rw[hu]at h; exact absurd h zf
 | some u =>
  rw[hu]at h
  cases u<;>simp only at h
  all_goals try exact absurd h zf
  all_goals
   split at h
   ·rw[jz]at h; obtain⟨rfl,rfl⟩:=h
    have hc:c.P.concrete t=true:=by unfold Program.concrete; rw[hu]
    exact qw.pure hI (run_makeInterface κ.w t v hc) (.iface t _ v (hx _ rfl))
   ·exact absurd h zf
theorem Td{e:Ty}{x y:D}{v:Value}{l:List (den e)}(hI:Inv κ)(hx:RD κ x v)(h:(nJ κ.st x).leads y)(hl:CR e y=some l):Src κ e l v:=by
 rcases tf hI hx h with⟨rfl,_⟩ | ⟨e',ys,rfl,hs,_⟩
 ·cases y with
  | zI σ z =>
   obtain⟨he,hz⟩:=qj (a:=σ) (b:=.sl e) hl
   cases he
   cases hz
   exact LK hx
  | tight e' z ne =>
   obtain⟨he,hz⟩:=qj (a:=.sl e') (b:=.sl e) hl
   cases he
   cases hz
   exact pT hx
  | xp =>
   simp only[CR,Option.some.injEq]at hl
   subst hl
   exact WK hx
  | _=>simp[CR]at hl
 ·obtain⟨he,hz⟩:=qj (a:=.sl e') (b:=.sl e) hl
  grind
theorem Ut{s t e:Nat}{x:Option D}{v:Value}{d:Option D}{zt:St}(hI:Inv κ)(hx:∀ z,x=some z->RD κ z v)(hs:c.P.underlying s=some (.slice e))(ht:c.P.underlying t=some .string)
  (h:(zH (X3 c e x) κ.st).leads (d,zt)):qw c.P (do Pure.pure (.value (<- convert s t v))) κ d zt:=by
 unfold X3 at h
 split at h
 ·rename_i z he
  rw[lB]at h
  obtain⟨h,rfl⟩:=h
  obtain⟨y,h1,h2⟩:=T.zC.1 h
  split at h2
  ·rename_i l hl
   cases h2
   have HK:=Td hI (hx _ rfl) h1 hl
   obtain⟨a,cap,f,rfl,wY,hn,g1,g2⟩:=HK.ex
   have vx:(convert s t (.slice a l.length cap)).run c.P κ.w=.ok (.string (strOfNums l)) κ.w:=by
    cases a with
    | none =>
     obtain⟨rfl,rfl⟩:=hn rfl
     exact run_convert_bytes_nil κ.w s e hs he 0 0 t ht
    | some p =>
     rcases g2 p rfl with⟨rfl,rfl⟩ | ⟨hp,_,hc⟩
     ·have h0:(loadCells p 0).run c.P κ.w=.ok (([]:List Int).map (Value.int .u8)).toArray κ.w:=by
       rfl
      simp only[List.length_nil]
      rw[run_convert_bytes_string κ.w s t e _ 0 0 hs he ht,run_bytesToString κ.w _ 0 0 [] h0]
      rfl
     ·obtain⟨blk,o,sp⟩:=p
      subst hp
      refine run_convert_bytes_arg κ.w s e hs he blk o l.length cap l rfl (λi hi => ?_) t ht
      have hf:=(g1 i hi).yk
      have:=hc i hi 0 (.int .u8 l[i]) (by grind)
      have e1:o+i*Ty.size (.int .u8)+0=o+i:=by simp[Ty.size]
      grind
   refine qw.pure hI vx ?_
   exact .str
  ·exact h2.elim
 ·exact absurd h zf
theorem Hg{s t:Nat}{x:Option D}{v:Value}{d:Option D}{zt:St}(hI:Inv κ)(hx:∀ z,x=some z->RD κ z v)
  (h:(zH (convertOp c s t x) κ.st).leads (d,zt)):qw c.P (do Pure.pure (.value (<- convert s t v))) κ d zt:=by
 unfold convertOp at h
 split at h
 ·rename_i e hs ht
  exact Ut hI hx hs ht h
 ·rename_i k0 k hs ht
  split at h
  ·rename_i k1 n hk
   have:=ud hk hx
   subst this
   obtain⟨rfl,rfl⟩:=h
   exact qw.pure hI (by simp[convert,run_underlying hs,run_underlying ht,Conv.intToInt]) RD.int
  ·exact absurd h zf
 ·rename_i hs ht
  split at h
  ·rename_i s' hk
   have:=ou hk hx
   subst this
   obtain⟨rfl,rfl⟩:=h
   exact qw.pure hI (by simp[convert,run_underlying hs,run_underlying ht]) RD.str
  ·exact absurd h zf
 ·exact absurd h zf
end
end Go.AM
namespace Go.AM
set_option linter.unusedSectionVars false
variable [vQ]
section
variable {c:Ctx} {κ:KS}
theorem Nc{ty t t':Nat}{s x:Option D}{v u:Value}{d:Option D}{zt:St}(hI:Inv κ)(hs:∀ z,s=some z->RD κ z v)(hx:∀ z,x=some z->RD κ z u)
  (h:(zH (DX c t s x) κ.st).leads (d,zt)):qw c.P (do Pure.pure (.value (<- Builtin.copy_ #[t,t'] ty #[v,u]))) κ d zt:=by
 unfold DX at h
 split at h
 ·rename_i et het
  split at h
  ·rename_i k b qy k' off len z hu uP
   cases hk:decide (k'=k)with
   | false=>rw[hk]at h; exact absurd h zf
   | true =>
    rw[hk,cond_true]at h
    obtain rfl:k'=k:=of_decide_eq_true hk
    simp only[zH]at h
    obtain⟨y,h1,h2⟩:=T.zC.1 h
    split at h2
    ·rename_i l hl
     unfold Ro at h2
     split at h2
     ·rename_i jL e' tH hb
      split at h2
      ·rename_i xs WC
       obtain⟨he,hxx⟩:=qj (a:=.sl e') (b:=.sl (.int k')) WC
       cases he
       obtain rfl:xs=tH:=hxx
       obtain⟨⟨GZ,Vi⟩,h2⟩:=h2
       cases h2
       subst GZ
       have HK:=Td hI (hx _ rfl) h1 hl
       obtain⟨a,cap,f,rfl,wY,hn,g1,g2⟩:=HK.ex
       have hue:=uj het
       have TJ:(c.P.info? et).map (·.size)=some 1:=uP
       have hrd:=hs _ rfl
       cases hrd with
       | ms _ _ _ _ _ cap0 a0 V4 hcap0 KR hsp0 hh =>
       have hm:=hh xs hb
       have Va:((List.take len l).map (Value.int k')).length=Nat.min l.length len:=by rw[List.length_map,List.length_take]; exact Nat.min_comm _ _
       have z5h:min len (List.length l)=Nat.min l.length len:=Nat.min_comm _ _
       by_cases h0:min len (List.length l)=0
       ·-- nothing goes over
        have vx:=run_copy_none (P:=c.P) κ.w t t' ty et a0 a len cap0 l.length cap hue TJ (by rw[<- z5h]; exact h0)
        have Xp:kH off len xs l=xs:=by
         unfold kH
         have ht:List.take len l=[]:=List.eq_nil_of_length_eq_zero (by rw[List.length_take]; exact h0)
         rw[ht,h0,List.append_nil,Nat.add_zero,List.take_append_drop]
        have b8:κ.st.set b (.arr qy (.int k') (kH off len xs l))=κ.st:=by
         rw[Xp]
         obtain⟨qs,hge⟩:=List.getElem?_eq_some_iff.1 hb
         rw[<- hge,List.set_getElem_self]
        rw[b8]
        refine⟨κ,.value (goInt 0),goInt 0,by simp[vx],.inl rfl,rfl,hI,Ext.refl κ,λd' kL => ?_⟩
        cases kL
        rw[h0]
        exact RD.int
       ·obtain⟨hle,hm⟩:=hm
        rcases hm with⟨hz,_⟩ | ⟨blk,n,o,zjG,hp,hv,Nn,SN,hc3⟩
        ·omega
        ·cases hv
         have ho:o=off:=by
          rcases hc3 with h | h
          ·omega
          ·simpa[Ty.size]using h
         subst ho
         have hl0:l≠[]:=λh=>h0 (by rw[h]; simp)
         obtain⟨p,rfl⟩:∃ p,a=some p:=by
          cases a with
          | none=>grind
          | some p=>simp
         rcases g2 p rfl with⟨h,_⟩ | ⟨pC,_,hc⟩
         ·grind
         obtain⟨pb,po,psp⟩:=p
         simp only at pC
         subst pC
         obtain⟨_,R8⟩:=hI.blk b _ hb
         rcases R8 with⟨_,hpn⟩ | ⟨iS,n',cs0,T,k1,k2,k3,k4,kr,g,k5⟩
         ·grind
         rw[hp]at k1
         cases k1
         have hn':List.length xs<=cs0.size:=by rw[k3]; simpa[Ty.size]using k4
         have sN:∀ (i:Nat) (hi:i<List.length xs),cs0[i]? = some (.int k' xs[i]):=by
          intro i hi
          obtain⟨q1,q2⟩:=k5 i hi
          have:=q2 0 (.int k' xs[i]) (by rw[q1.yk]; rfl)
          simpa[Ty.size]using this
         have zeB:((List.take len l).map (Value.int k')).length<=len:=by simp; omega
         have vx:=run_copy_row c.P κ.w t t' ty et blk o len cap0 ⟨pb,po,none⟩ l.length cap cs0 T ((List.take len l).map (Value.int k')) hue TJ k2 Va
          (λj w hj=>by
           have hj':j<(List.take len l).length:=by have:=(List.getElem?_eq_some_iff.1 hj).1; simpa using this
           have OM:j<l.length:=by simp at hj'; omega
           have e1:w=.int k' l[j]:=by
            grind
           have:=hc j OM 0 (.int k' l[j]) (by rw[(g1 j OM).yk]; rfl)
           have TC:(⟨pb,po,none⟩:Addr).add j=⟨pb,po+j,none⟩:=by unfold Addr.add; split<;>simp_all
           rw[TC,e1]
           simpa[Ty.size]using this)
          (by omega) (λw hw=>by obtain⟨_,_,rfl⟩:=List.mem_map.1 hw; rfl)
         have hlen:List.length (kH o len xs l)=List.length xs:=by
          simp only[kH,List.length_append,List.length_take,List.length_drop]
          omega
         have iI:Alike (.arr qy (.int k') xs) (.arr qy (.int k') (kH o len xs l)):=⟨rfl,Nat.le_refl _,λ_=>hlen.symm⟩
         let bM:Array Value:=(cs0.toList.take o++(List.take len l).map (Value.int k')++cs0.toList.drop (o+((List.take len l).map (Value.int k')).length)).toArray
         have Kb:bM.size=n:=by
          simp only[bM,List.size_toArray,List.length_append,List.length_take,List.length_drop,Array.length_toList,List.length_map]at *
          omega
         have za8:∀ (i:Nat) (hi:i<List.length (kH o len xs l)),bM[i]? = some (.int k' (kH o len xs l)[i]):=by
          intro i hi
          have h1:=tF (cs:=cs0.toList) (us:=(List.take len l).map (Value.int k')) (o:=o) (n:=((List.take len l).map (Value.int k')).length) rfl (by simp; simp at zeB; omega) i
          have e1:bM[i]? = (cs0.toList.take o++(List.take len l).map (Value.int k')++cs0.toList.drop (o+((List.take len l).map (Value.int k')).length))[i]? := by simp[bM]
          have Bt:(List.map (Value.int k') (List.take len l)).length=min len (List.length l):=by simp
          rw[Bt]at h1 e1
          have e2:(kH o len xs l)[i]? = if i<o then xs[i]? else if i<o+min len (List.length l)then(List.take len l)[i-o]? else xs[i]? := by
           unfold kH
           have hto:(List.take o xs).length=o:=by simp; omega
           by_cases q1:i<o
           ·rw[if_pos q1,List.append_assoc,List.getElem?_append_left (by omega),List.getElem?_take,if_pos q1]
           ·rw[if_neg q1,List.append_assoc,List.getElem?_append_right (by omega),hto]
            by_cases q2:i<o+min len (List.length l)
            ·rw[if_pos q2,List.getElem?_append_left (by simp; omega)]
            ·rw[if_neg q2,List.getElem?_append_right (by simp; omega),List.getElem?_drop,List.length_take]
             congr 1; omega
          have e3:(kH o len xs l)[i]? = some (kH o len xs l)[i]:=List.getElem?_eq_getElem hi
          rw[e1,h1]
          rw[e2]at e3
          have hix:i<List.length xs:=by rw[<- hlen]; exact hi
          split
          ·rename_i q1
           rw[if_pos q1,List.getElem?_eq_getElem hix]at e3
           rw[Array.getElem?_toList,sN i hix,Option.some.inj e3]
          ·rename_i q1
           rw[if_neg q1]at e3
           split
           ·rename_i q2
            rw[if_pos q2]at e3
            rw[List.getElem?_map,e3]
            rfl
           ·rename_i q2
            rw[if_neg q2,List.getElem?_eq_getElem hix]at e3
            rw[Array.getElem?_toList,sN i hix,Option.some.inj e3]
         refine⟨κ.HV b blk bM (.arr qy (.int k') (kH o len xs l)),.value (goInt (((List.take len l).map (Value.int k')).length:Nat)),goInt (((List.take len l).map (Value.int k')).length:Nat),(by rw[Sem.run_bind,vx]; rfl),.inl rfl,rfl,Zc hI hp hb iI ?_,mD hI hp hb iI,λd' kL => ?_⟩
         ·refine⟨by simp[Ty.size],.inr ⟨blk,n,bM,T,hp,setRow_heap κ.w blk cs0 bM T (0,0) k2,Kb,by simp[Ty.size]; omega,kr,λi=>[.int k' ((kH o len xs l).getD i 0)],λi hi => ?_⟩⟩
          have hg:(kH o len xs l).getD i 0=(kH o len xs l)[i]:=by simp[List.getD_eq_getElem?_getD,List.getElem?_eq_getElem hi]
          show Rc _ _ (.int k') _ [Value.int k' ((kH o len xs l).getD i 0)]/\∀ (j:Nat) (v:Value),[Value.int k' ((kH o len xs l).getD i 0)][j]? = some v->_
          rw[hg]
          refine⟨.int k' _,λj w hj => ?_⟩
          cases j with
          | zero =>
           simp at hj
           subst hj
           simpa[Ty.size]using za8 i hi
          | succ j=>simp at hj
         ·cases kL
          rw[z5h,<- Va]
          exact RD.int
      ·exact h2.elim
     ·exact h2.elim
    ·exact h2.elim
  ·exact absurd h zf
 ·exact absurd h zf
end
end Go.AM
namespace Go.AM
set_option linter.unusedSectionVars false
variable [vQ]
def ux(P:Program)(g:Nat)(args:Array Value)(w:World)(R:Ending->World->Prop):Prop :=
 ((callFunc g args).run P w=.ok (.enter g args) w/\Calls P g args w R)\/∃ v w',(callFunc g args).run P w=.ok (.value v) w'/\R (.returned v) w'
theorem ux.mono{P:Program}{g:Nat}{args:Array Value}{w:World}{R R':Ending->World->Prop}(h:ux P g args w R)(hr:∀ e w,R e w->R' e w):ux P g args w R':=by
 rcases h with⟨h1,h2⟩ | ⟨v,w',h1,h2⟩
 ·exact .inl ⟨h1,h2.mono hr⟩
 ·exact .inr ⟨v,w',h1,hr _ _ h2⟩
def wv(κ:KS):GY->Ending->Prop
 | .ret ds,e=>∃ v,e=.returned v/\RD κ (yg ds) v
 | .kz d,e=>∃ v,e=.panicked [{ v,recovered:=false }]/\RD κ d v
abbrev SY:=Nat->Array Value->World->(Ending->World->Prop)->Prop
def zgZ(Dr:SY)(g:Nat)(S:List D->St->T (GY×St)):Prop :=
 ∀ (κ:KS) (args:List D) (zx:List Value) (rs:GY) (zt:St),(S args κ.st).leads (rs,zt)->Inv κ->qD κ args zx ->
  Dr g zx.toArray κ.w λe w'=>∃ κ':KS,κ'.w=w'/\κ'.st=zt/\Inv κ'/\Ext κ κ'/\wv κ' rs e
def HT(P:Program)(g:Nat)(S:List D->St->T (GY×St)):Prop :=
 ∀ (κ:KS) (args:List D) (zx:List Value) (rs:GY) (zt:St),(S args κ.st).leads (rs,zt)->Inv κ->qD κ args zx ->
  ux P g zx.toArray κ.w λe w'=>∃ κ':KS,κ'.w=w'/\κ'.st=zt/\Inv κ'/\Ext κ κ'/\wv κ' rs e
section
variable {c:Ctx} {κ:KS}
theorem RD.weaken{Xz:Nat->Prop}(hs:∀ k,κ.ok k->Xz k){d:D}{v:Value}(h:RD κ d v):RD { κ with ok:=Xz } d v:=by
 have Xp:FX κ.w κ.w κ.ok Xz:=λk hk=>⟨hs k hk,rfl⟩
 induction h with
 | zI τ y cs h=>exact .zI τ y cs (h.mono Xp)
 | xb e a=>exact .xb e a
 | tight e l ne blk off f vJ wg h hc=>exact .tight e l ne blk off f vJ (hs _ wg) (λi hi=>(h i hi).mono Xp) hc
 | xp=>exact .xp
 | kP=>exact .kP
 | qT=>exact .qT
 | vR=>exact .vR
 | vP=>exact .vP
 | sG v h=>exact .sG v h
 | c6 T=>exact .c6 T
 | c8 b T d hd=>exact .c8 b T d hd
 | bU b T blk n d hd h=>exact .bU b T blk n d hd h
 | ptr b off blk n d hd h=>exact .ptr b off blk n d hd h
 | qR τ y cs blk off wg h hc=>exact .qR τ y cs blk off (hs _ wg) (h.mono Xp) hc
 | ui b qy e idx off blk o hb h=>exact .ui b qy e idx off blk o hb h
 | ms b qy e off len cap a hb wY ha pC h=>exact .ms b qy e off len cap a hb wY ha pC h
 | qW f l vs hl h ih=>exact .qW f l vs hl ih
 | agg l vs hl ho h ih=>exact .agg l vs hl ho ih
 | yC l vs hl h ih=>exact .yC l vs hl ih
 | iface t d v h ih=>exact .iface t d v ih
theorem RD.free{κ':KS}(hw:κ'.w=κ.w)(wg:κ'.ok=κ.ok)(xJ:κ.st=[]){d:D}{v:Value}(h:RD κ d v):RD κ' d v:=by
 obtain⟨w',Xz,ph',zt⟩:=κ'
 subst hw wg
 induction h with
 | zI τ y cs h=>exact .zI τ y cs h
 | xb e a=>exact .xb e a
 | tight e l ne blk off f vJ wg h hc=>exact .tight e l ne blk off f vJ wg h hc
 | xp=>exact .xp
 | kP=>exact .kP
 | qT=>exact .qT
 | vR=>exact .vR
 | vP=>exact .vP
 | sG v h=>exact .sG v h
 | c6 T=>exact .c6 T
 | c8 b T d hd=>grind
 | bU b T blk n d hd h=>grind
 | ptr b off blk n d hd h=>grind
 | qR τ y cs blk off wg h hc=>exact .qR τ y cs blk off wg h hc
 | ui b qy e idx off blk o hb h=>rcases hb with hb | ⟨_,_,_,hb,_⟩ <;> · rw[xJ]at hb; simp at hb
 | ms b qy e off len cap a hb wY ha pC h=>rcases hb with hb | ⟨_,_,_,hb,_⟩ <;> · rw[xJ]at hb; simp at hb
 | qW f l vs hl h ih=>exact .qW f l vs hl ih
 | agg l vs hl ho h ih=>exact .agg l vs hl ho ih
 | yC l vs hl h ih=>exact .yC l vs hl ih
 | iface t d v h ih=>exact .iface t d v ih
theorem Rc.scalar{w w':World}{ok Xz:Nat->Prop}{τ:Ty}{x:den τ}{cs:List Value}(h:Rc w ok τ x cs)(ht:τ.scalar=true):Rc w' Xz τ x cs:=by
 induction h with
 | int k n=>exact .int k n
 | bool b=>exact .bool b
 | str s=>exact .str s
 | fH=>cases ht
 | sl=>cases ht
 | nil=>exact .nil
 | cons a b x y c1 c2 h1 h2 i1 i2=>simp only[Ty.scalar,Bool.and_eq_true]at ht; exact .cons a b x y c1 c2 (i1 ht.1) (i2 ht.2)
 | expr=>cases ht
theorem z7T{e:Ty}{ys:List (den e)}{v:Value}(h:Src κ e ys v):Rc κ.w (OE κ) (.sl e) ys [v]:=by
 obtain⟨a,cap,f,rfl,wY,hn,h1,h2⟩:=h.ex
 cases a with
 | none=>obtain⟨rfl,rfl⟩:=hn rfl; exact .fH e none
 | some p =>
  rcases h2 p rfl with⟨rfl,rfl⟩ | ⟨hp,wg,hc⟩
  ·exact .fH e _
  obtain⟨blk,o,sp⟩:=p
  subst hp
  exact .sl e ys blk o cap f wg wY (λi hi=>(h1 i hi).mono λk hk=>⟨.inl hk,rfl⟩) hc
def KS.all(κ:KS):KS:={ κ with ok:=OE κ }
theorem RD.all{d:D}{v:Value}(h:RD κ d v):RD κ.all d v:=h.weaken λ_ hk=>.inl hk
theorem qD.all{l:List D}{vs:List Value}(h:qD κ l vs):qD κ.all l vs:=⟨h.1,λi h1 h2=>(h.2 i h1 h2).all⟩
theorem YT{x y:D}{v:Value}(hI:Inv κ)(hx:RD κ x v)(h:(nJ κ.st x).leads y):RD κ.all y v/\(x.one=true->y.one=true)/\(x.uE=false->y.uE=false):=by
 rcases tf hI hx h with⟨rfl,_⟩ | ⟨e,ys,rfl,hs,_⟩
 ·exact⟨hx.all,id,id⟩
 ·exact⟨RD.lW rfl (z7T hs),λ_=>rfl,λ_=>rfl⟩
theorem KY(hI:Inv κ):∀ {l r:List D} {vs:List Value},qD κ l vs->(∀ d∈l,d.one=true)->(KL κ.st l).leads r->qD κ.all r vs/\∀ d∈r,d.one=true
 | [],r,vs,h,_,hs=>by cases hs; rw[h.qg]; exact⟨.nil,nofun⟩
 | d::l,r,vs,h,ho,hs=>by
  simp only[KL,T.zC]at hs
  obtain⟨x,hx,l',hl,rfl⟩:=hs
  obtain⟨v,us,rfl,h1,h2⟩:=h.cons_inv
  obtain⟨g1,g2,_⟩:=YT hI h1 hx
  obtain⟨k1,k2⟩:=KY hI h2 (λd hd=>ho d (List.mem_cons_of_mem _ hd)) hl
  refine⟨.cons g1 k1,λd hd => ?_⟩
  grind
theorem R4{x y:D}{v:Value}(hI:Inv κ)(hx:RD κ x v)(h:(snap κ.st x).leads y):RD κ.all y v:=by
 cases x with
 | agg l =>
  simp only[snap,T.zC]at h
  obtain⟨r,hr,rfl⟩:=h
  cases hx with
  | agg _ vs hl ho hh =>
   obtain⟨g1,g2⟩:=KY hI (⟨hl,hh⟩:qD κ l vs) ho hr
   exact .agg r vs g1.1 g2 g1.2
 | _=>exact(YT hI hx h).1
theorem Q7{τ:Ty}{d:D}{x:den τ}{v:Value}(hI:Inv κ)(hd:RD κ d v)(h:(Zs κ.st τ d).leads x):RD κ.all (.zI τ x) v:=by
 simp only[Zs,T.zC,T.ua]at h
 obtain⟨y,h1,h2⟩:=h
 exact bO (R4 hI hd h1) h2
theorem KA{x y:D}(h:(nJ [] x).leads y):y=x:=by
 cases x with
 | ms=>simp[nJ,T.leads]at h
 | _=>exact h.symm
theorem YM:∀ {l r:List D},(KL [] l).leads r->r=l
 | [],_,h=>h.symm
 | d::l,r,h=>by
  simp only[KL,T.zC]at h
  obtain⟨x,hx,l',hl,rfl⟩:=h
  rw[KA hx,YM hl]
theorem OZ{x y:D}(h:(snap [] x).leads y):y=x:=by
 cases x with
 | agg l =>
  simp only[snap,T.zC]at h
  obtain⟨r,hr,rfl⟩:=h
  rw[YM hr]
 | _=>exact KA h
theorem C3{τ:Ty}{d:D}{x:den τ}{v:Value}(hd:RD κ d v)(h:(Zs [] τ d).leads x):RD κ (.zI τ x) v:=by
 simp only[Zs,T.zC,T.ua]at h
 obtain⟨y,h1,h2⟩:=h
 rw[OZ h1]at h2
 exact bO hd h2
def XS:D->Bool | .zI .. | .qR .. => true | _=>false
def LN:D->Bool
 | .qW _ l=>l.all XS
 | d=>XS d
theorem z2J{d:D}(h:XS d=true):LN d=true:=by cases d<;>first | exact h | cases h
theorem UQ{st:St}{τ:Ty}{d y:D}(h:(nA st τ d).leads y):XS y=true:=by
 unfold nA at h
 split at h
 ·split at h
  ·cases h; rfl
  ·exact h.elim
 ·split at h
  ·split at h
   ·cases h; rfl
   ·exact h.elim
  ·exact h.elim
 ·exact h.elim
theorem YI{τ:Ty}{d y:D}{v:Value}(hI:Inv κ)(hd:RD κ d v)(h:(nA κ.st τ d).leads y):RD κ.all y v:=by
 unfold nA at h
 split at h
 ·split at h
  ·rename_i x z hz
   cases h
   obtain⟨e,rfl⟩:=qj hz
   cases e
   exact hd.all
  ·exact h.elim
 ·rename_i b off
  split at h
  ·rename_i d' hb
   split at h
   ·rename_i z hz
    cases h
    cases ho:Nat.beq off 0 with
    | false=>grind
    | true =>
     have:=Nat.eq_of_beq_eq_true ho
     subst this
     obtain⟨blk,n,cs,t,g1,g2,g3,g4,g5⟩:=hI.blk b _ hb
     cases hd with
     | ptr _ _ iS n' d1 DS hp =>
      rw[g1]at hp
      cases hp
      have wg:OE κ blk:=.inr ⟨b,n,g1⟩
      have ht:d'.uE=false:=by
       cases d' with
       | yC l=>simp[dC,D.uE]at hz
       | _=>rfl
      have DD:=o6 hz g4 g5.1 ht
      refine .qR τ z cs.toList blk 0 wg (DD.mono λk hk=>⟨.inl hk,rfl⟩) λj v hj => ?_
      show κ.w.cell? _=_
      rw[pZ g2,Nat.zero_add]
      grind
   ·exact h.elim
  ·exact h.elim
 ·exact h.elim
theorem KN{τ:Ty}{d y:D}{v:Value}(hd:RD κ d v)(h:(nA [] τ d).leads y):RD κ y v:=by
 unfold nA at h
 split at h
 ·split at h
  ·rename_i x z hz
   cases h
   obtain⟨e,rfl⟩:=qj hz
   grind
  ·exact h.elim
 ·rename_i b off
  split at h
  ·grind
  ·exact h.elim
 ·exact h.elim
theorem Dh{st:St}{p:QV}{d y:D}(h:(oT st p d).leads y):XS y=true:=by
 cases p with
 | rp τ=>exact UQ h
 | im τ=>simp only[oT,T.zC]at h; obtain⟨x,_,rfl⟩:=h; rfl
theorem F5{p:QV}{d y:D}{v:Value}(hI:Inv κ)(hd:RD κ d v)(h:(oT κ.st p d).leads y):RD κ.all y v:=by
 cases p with
 | rp τ=>exact YI hI hd h
 | im τ=>simp only[oT,T.zC]at h; obtain⟨x,hx,rfl⟩:=h; exact Q7 hI hd hx
theorem Fi{p:QV}{d y:D}{v:Value}(hd:RD κ d v)(h:(oT [] p d).leads y):RD κ y v:=by
 cases p with
 | rp τ=>exact KN hd h
 | im τ=>simp only[oT,T.zC]at h; obtain⟨x,hx,rfl⟩:=h; exact C3 hd hx
theorem Zi{st:St}:∀ {ps:List QV} {ds r:List D},(bL st ps ds).leads r->∀ d∈r,XS d=true
 | [],[],r,hs=>by cases hs; nofun
 | p::ps,d::ds,r,hs=>by
  simp only[bL,T.zC]at hs
  obtain⟨x,hx,l,hl,rfl⟩:=hs
  intro d' kL
  rcases List.mem_cons.1 kL with rfl | kL
  ·exact Dh hx
  ·exact Zi hl d' kL
 | [],_::_,_,hs=>hs.elim
 | _::_,[],_,hs=>hs.elim
theorem W2(hI:Inv κ):∀ {ps:List QV} {ds r:List D} {vs:List Value},qD κ ds vs->(bL κ.st ps ds).leads r->qD κ.all r vs
 | [],[],r,vs,h,hs=>by cases hs; rw[h.qg]; exact .nil
 | p::ps,d::ds,r,vs,h,hs=>by
  simp only[bL,T.zC]at hs
  obtain⟨x,hx,l,hl,rfl⟩:=hs
  obtain⟨v,us,rfl,h1,h2⟩:=h.cons_inv
  exact .cons (F5 hI h1 hx) (W2 hI h2 hl)
 | [],_::_,_,_,_,hs=>hs.elim
 | _::_,[],_,_,_,hs=>hs.elim
theorem XE:∀ {ps:List QV} {ds r:List D} {vs:List Value},qD κ ds vs->(bL [] ps ds).leads r->qD κ r vs
 | [],[],r,vs,h,hs=>by cases hs; rw[h.qg]; exact .nil
 | p::ps,d::ds,r,vs,h,hs=>by
  simp only[bL,T.zC]at hs
  obtain⟨x,hx,l,hl,rfl⟩:=hs
  obtain⟨v,us,rfl,h1,h2⟩:=h.cons_inv
  exact .cons (Fi h1 hx) (XE h2 hl)
 | [],_::_,_,_,_,hs=>hs.elim
 | _::_,[],_,_,_,hs=>hs.elim
theorem te{st:St}{p:tP}{d y:D}(h:(C6 st p d).leads y):(∃ τ x,p=.ty τ/\(Zs st τ d).leads x/\y=.zI τ x)\/(∃ τ,p=.rp τ/\(nA st τ d).leads y) \/
  ∃ f caps l l',p=.qW f caps/\d=.qW f l/\(bL st caps l).leads l'/\y=.qW f l':=by
 cases p with
 | ty τ =>
  have h':((Zs st τ d).bind λx=>T.ret (D.zI τ x)).leads y:=by cases d<;>exact h
  simp only[T.zC]at h'
  obtain⟨x,hx,rfl⟩:=h'
  grind
 | rp τ=>exact .inr (.inl ⟨τ,rfl,by cases d<;>exact h⟩)
 | qW f caps =>
  cases d with
  | qW f' l =>
   simp only[C6]at h
   cases hb:Nat.beq f f' with
   | false=>rw[hb]at h; exact h.elim
   | true =>
    rw[hb,cond_true,T.zC]at h
    obtain⟨l',hl,rfl⟩:=h
    have:=Nat.eq_of_beq_eq_true hb
    grind
  | _=>exact h.elim
theorem MS{st:St}{p:tP}{d y:D}(h:(C6 st p d).leads y):LN y=true:=by
 rcases te h with⟨τ,x,_,_,rfl⟩ | ⟨τ,_,h⟩ | ⟨f,caps,l,l',_,_,h',rfl⟩
 ·rfl
 ·exact z2J (UQ h)
 ·exact List.all_eq_true.2 (Zi h')
theorem OQ{p:tP}{d y:D}{v:Value}(hI:Inv κ)(hd:RD κ d v)(h:(C6 κ.st p d).leads y):RD κ.all y v:=by
 rcases te h with⟨τ,x,_,hx,rfl⟩ | ⟨τ,_,h⟩ | ⟨f,caps,l,l',_,rfl,h',rfl⟩
 ·exact Q7 hI hd hx
 ·exact YI hI hd h
 ·cases hd with
  | qW _ _ vs hl hh =>
   have:=W2 hI (⟨hl,hh⟩:qD κ l vs) h'
   exact .qW f l' vs this.1 this.2
theorem SD{p:tP}{d y:D}{v:Value}(hd:RD κ d v)(h:(C6 [] p d).leads y):RD κ y v:=by
 rcases te h with⟨τ,x,_,hx,rfl⟩ | ⟨τ,_,h⟩ | ⟨f,caps,l,l',_,rfl,h',rfl⟩
 ·exact C3 hd hx
 ·exact KN hd h
 ·cases hd with
  | qW _ _ vs hl hh =>
   have:=XE (⟨hl,hh⟩:qD κ l vs) h'
   exact .qW f l' vs this.1 this.2
theorem tI{st:St}:∀ {ps:List tP} {ds r:List D},(nq st ps ds).leads r->∀ d∈r,LN d=true
 | [],[],r,hs=>by cases hs; nofun
 | p::ps,d::ds,r,hs=>by
  simp only[nq,T.zC]at hs
  obtain⟨x,hx,l,hl,rfl⟩:=hs
  intro d' kL
  rcases List.mem_cons.1 kL with rfl | kL
  ·exact MS hx
  ·exact tI hl d' kL
 | [],_::_,_,hs=>hs.elim
 | _::_,[],_,hs=>hs.elim
theorem Y6(hI:Inv κ):∀ {ps:List tP} {ds r:List D} {vs:List Value},qD κ ds vs->(nq κ.st ps ds).leads r->qD κ.all r vs
 | [],[],r,vs,h,hs=>by cases hs; rw[h.qg]; exact .nil
 | p::ps,d::ds,r,vs,h,hs=>by
  simp only[nq,T.zC]at hs
  obtain⟨x,hx,l,hl,rfl⟩:=hs
  obtain⟨v,us,rfl,h1,h2⟩:=h.cons_inv
  exact .cons (OQ hI h1 hx) (Y6 hI h2 hl)
 | [],_::_,_,_,_,hs=>hs.elim
 | _::_,[],_,_,_,hs=>hs.elim
theorem QH:∀ {ps:List tP} {ds r:List D} {vs:List Value},qD κ ds vs->(nq [] ps ds).leads r->qD κ r vs
 | [],[],r,vs,h,hs=>by cases hs; rw[h.qg]; exact .nil
 | p::ps,d::ds,r,vs,h,hs=>by
  simp only[nq,T.zC]at hs
  obtain⟨x,hx,l,hl,rfl⟩:=hs
  obtain⟨v,us,rfl,h1,h2⟩:=h.cons_inv
  exact .cons (SD h1 hx) (QH h2 hl)
 | [],_::_,_,_,hs,h=>h.elim
 | _::_,[],_,_,hs,h=>h.elim
def KS.bare(κ:KS)(ok:Nat->Prop):KS:=⟨κ.w,ok,[],[]⟩
theorem Ul{ok:Nat->Prop}(hI:Inv κ)(hs:∀ k,κ.ok k->ok k)(h:∀ k,ok k->k<κ.w.heap.size):Inv (κ.bare ok) :=
 ⟨rfl,h,λb blk n h=>by simp[KS.bare]at h,λb b' blk n n' h=>by nofun,λb x h=>by simp[KS.bare]at h,hI.gl.mono λk hk=>⟨hs k hk,rfl⟩⟩
theorem mf{ok:Nat->Prop}{d:D}{v:Value}(hi:XS d=true)(h:RD { κ with ok:=ok } d v):RD (κ.bare ok) d v:=by
 cases d with
 | zI τ x=>obtain⟨cs,h1,rfl⟩:=RD.hH h; exact .zI τ x cs h1
 | qR τ x=>cases h with | qR _ _ cs blk off wg h hc=>exact .qR τ x cs blk off wg h hc
 | _=>cases hi
theorem Yy{ok:Nat->Prop}{d:D}{v:Value}(hi:LN d=true)(h:RD { κ with ok:=ok } d v):RD (κ.bare ok) d v:=by
 cases d with
 | qW f l =>
  cases h with
  | qW _ _ vs hl hh=>exact .qW f l vs hl λi h1 h2=>mf (List.all_eq_true.1 hi _ (List.getElem_mem h1)) (hh i h1 h2)
 | zI τ x=>exact mf hi h
 | qR τ x=>exact mf hi h
 | _=>cases hi
theorem Bl{κ1:KS}{ok:Nat->Prop}(hI:Inv κ)(Qx:Inv κ1)(xJ:κ1.st=[])(hx:Ext (κ.bare ok) κ1)(Xz:Nat->Prop)(h1:∀ k,κ.ok k->Xz k)(h2:∀ k,Xz k->κ.ok k\/κ.w.heap.size<=k)(h3:∀ k,Xz k->k<κ1.w.heap.size) :
  Ext κ { κ with w:=κ1.w,ok:=Xz }/\Inv { κ with w:=κ1.w,ok:=Xz }:=by
 have hfr:∀ k,k<κ.w.heap.size->κ1.w.heap[k]? = κ.w.heap[k]? := λk hk=>hx.frame k hk λb n h=>by simp[KS.bare]at h
 have uP:κ.w.heap.size<=κ1.w.heap.size:=hx.size
 have he:Ext κ { κ with w:=κ1.w,ok:=Xz }:=⟨hx.os,hx.tape,hx.output,uP,λk hk=>⟨h1 k hk,hfr k (hI.yw k hk)⟩,λk hk=>(h2 k hk).elim .inl (λh=>.inr (.inl h)),λ_ _ _ h=>.inl h,λb d h=>⟨⟨d,h⟩,rfl⟩,
  λb v0 e xs h=>.inr ⟨v0,xs,h,Nat.le_refl _,λ_=>⟨rfl,rfl⟩⟩,λ_ h=>h,Nat.le_refl _,λk hk _=>hfr k hk⟩
 refine⟨he,hI.len,h3,λb blk n h => ?_,hI.inj,λb x h=>(hI.blk b x h).mono he rfl λblk n h=>hfr _ (hI.apart b blk n h).1,hI.gl.mono he.same⟩
 obtain⟨g1,g2⟩:=hI.apart b blk n h
 grind
theorem NB{g:Nat}{args:List D}{zx:List Value}{d:Option D}{zt:St}(hs:HT c.P g (c.fn g))(hI:Inv κ)(ha:qD κ args zx)
  (h:(zH (match c.sig g args with | some s=>gZ c g s args | none=>pX c g args) κ.st).leads (d,zt)) :
  ux c.P g zx.toArray κ.w λe w'=>∃ (κ':KS) (v:Value),κ'.w=w'/\κ'.st=zt/\Inv κ'/\Ext κ κ'/\e=.returned v/\∀ d',d=some d'->RD κ' d' v:=by
 split at h
 ·rename_i s Nw
  unfold gZ at h
  cases hm:(!(args.any Jb))with
  | true =>
   rw[hm,cond_true,wS]at h
   obtain⟨h,rfl⟩:=h
   simp only[T.zC]at h
   obtain⟨l,hl,⟨rs,gV⟩,hc,hr⟩:=h
   have bf:=QH ha hl
   have hb:qD (κ.bare κ.ok) l zx:=⟨bf.1,λi h1 h2=>Yy (tI hl _ (List.getElem_mem h1)) (bf.2 i h1 h2)⟩
   refine(hs (κ.bare κ.ok) l zx rs gV hc (Ul hI (λ_ h=>h) hI.yw) hb).mono ?_
   rintro e w' ⟨κ1,rfl,xJ,Qx,hx,he⟩
   unfold T4 at hr
   split at hr
   ·rename_i ds heq
    cases heq
    cases hr
    obtain⟨v,rfl,hv⟩:=he
    obtain⟨hE,hI'⟩:=Bl hI Qx xJ hx κ1.ok (λk hk=>(hx.same k hk).1) (λk hk=>by
     rcases hx.fresh k hk with h | h | ⟨b,n,h⟩
     ·exact .inl h
     ·exact .inr h
     ·simp[KS.bare]at h) Qx.yw
    exact⟨{ κ with w:=κ1.w,ok:=κ1.ok },v,rfl,rfl,hI',hE,rfl,λd' kL=>by cases kL; exact RD.free (κ:=κ1) (κ':={ κ with w:=κ1.w,ok:=κ1.ok }) rfl rfl xJ hv⟩
   ·exact hr.elim
  | false =>
   rw[hm,cond_false,lB]at h
   obtain⟨h,rfl⟩:=h
   simp only[T.zC]at h
   obtain⟨l,hl,⟨rs,gV⟩,hc,hr⟩:=h
   have bf:=Y6 hI ha hl
   have hb:qD (κ.bare (OE κ)) l zx:=⟨bf.1,λi h1 h2=>Yy (tI hl _ (List.getElem_mem h1)) (bf.2 i h1 h2)⟩
   have qs:∀ k,OE κ k->k<κ.w.heap.size:=by
    rintro k (hk | ⟨b,n,hk⟩)
    ·exact hI.yw k hk
    ·exact(hI.apart b k n hk).1
   refine(hs (κ.bare (OE κ)) l zx rs gV hc (Ul hI (λ_ h=>.inl h) qs) hb).mono ?_
   rintro e w' ⟨κ1,rfl,xJ,Qx,hx,he⟩
   unfold rG at hr
   split at hr
   ·rename_i ds heq
    cases heq
    cases nL:ds.all rL with
    | false=>rw[nL]at hr; exact hr.elim
    | true =>
     rw[nL,cond_true]at hr
     cases hr
     obtain⟨v,rfl,hv⟩:=he
     obtain⟨hE,hI'⟩:=Bl hI Qx xJ hx κ.ok (λk hk=>hk) (λk hk=>.inl hk) (λk hk=>Nat.lt_of_lt_of_le (hI.yw k hk) hx.size)
     refine⟨{ κ with w:=κ1.w,ok:=κ.ok },v,rfl,rfl,hI',hE,rfl,λd' kL => ?_⟩
     cases kL
     have one:∀ d u,rL d=true->RD κ1 d u->RD { κ with w:=κ1.w,ok:=κ.ok } d u:=by
      intro d u hd hu
      cases d<;>simp[rL]at hd
      obtain⟨cs,h1,rfl⟩:=RD.hH hu
      exact .zI _ _ cs (h1.scalar hd)
     have Q9:=List.all_eq_true.1 nL
     unfold yg at hv ⊢
     split at hv
     ·exact one _ _ (Q9 _ (by simp)) hv
     ·rename_i vJ
      cases hv with
      | yC _ vs hl hh=>exact .yC ds vs hl λi h1 h2=>one _ _ (Q9 _ (List.getElem_mem h1)) (hh i h1 h2)
   ·exact hr.elim
 ·unfold pX at h
  simp only[zH,T.zC]at h
  obtain⟨⟨rs,gV⟩,hc,hr⟩:=h
  refine(hs κ args zx rs gV hc hI ha).mono ?_
  rintro e w' ⟨κ1,rfl,xJ,Qx,hx,he⟩
  cases rs with
  | kz p=>exact hr.elim
  | ret ds =>
   cases hr
   obtain⟨v,rfl,hv⟩:=he
   exact⟨κ1,v,rfl,xJ,Qx,hx,rfl,λd' kL=>by cases kL; exact hv⟩
end
end Go.AM