/-
  The abstract machine, part B: texts of our own, the same for each claim.
-/
import Derived.Test.YtilkokbbfmkkbaaGreatDoorAmA
import Derived.Lib.AppendStr
import Derived.Maps.OwnSet
import Derived.Lib.LazyBuf
import Derived.Laws.Pointers
import Derived.WideLaws
import Derived.Laws.BytesArg
import Derived.Laws.CopyRow
import Derived.Laws.IdiomCopy
set_option linter.unusedVariables false
namespace Go.AM
set_option linter.unusedSectionVars false
variable [we]
section
variable {c:Ctx} {κ κ':KS}
theorem gX.mono(x:Ext κ κ'){b:Nat}(hp:κ'.ph[b]? = κ.ph[b]?)(hh:∀ blk n,κ.ph[b]? = some (some (blk,n))->κ'.w.heap[blk]? = κ.w.heap[blk]?){y:vX}(h:gX κ b y):gX κ' b y:=by
 cases y with
 | dead=>trivial
 | var d =>
  refine xF.elim h (λhm h=>.mk hm ?_) λl e h=>by
   subst e
   obtain⟨blk,o,h1,h2,h3⟩:=h
   exact⟨blk,o,hp.trans h1,(hh blk 0 h1).trans h2,h3⟩
  obtain⟨blk,n,cs,t,h1,h2,h3,h4,h5⟩:=h
  exact⟨blk,n,cs,t,hp.trans h1,(hh blk n h1).trans h2,h3,h4.mono x,h5⟩
 | arr q7 e xs =>
  obtain⟨h0,h⟩:=h
  refine⟨h0,bf h (λh=>⟨h.1,hp.trans h.2⟩) ?_⟩
  rintro⟨blk,n,cs,t,h1,h2,h3,h4,hr,f,h5⟩
  exact⟨blk,n,cs,t,hp.trans h1,(hh blk n h1).trans h2,h3,h4,hr,f,λi hi=>⟨(h5 i hi).1.mono x.same,(h5 i hi).2⟩⟩
def KS.zj(κ:KS)(w':World):KS:={ κ with w:=w',ok:=λk=>κ.ok k\/k=κ.w.heap.size }
structure ym(w w':World)(o:Obj):Prop where
 os:w'.os=w.os
 tape:w'.tape=w.tape
 output:w'.output=w.output
 heap:w'.heap=w.heap.push o
theorem ym.size{w w':World}{o:Obj}(g:ym w w' o):w'.heap.size=w.heap.size+1:=by rw[g.heap]; simp
theorem ym.old{w w':World}{o:Obj}(g:ym w w' o){k:Nat}(h:k<w.heap.size):w'.heap[k]? = w.heap[k]? := by
 rw[g.heap,Array.getElem?_push,if_neg (by omega)]
theorem ym.new{w w':World}{o:Obj}(g:ym w w' o):w'.heap[w.heap.size]? = some o:=by rw[g.heap]; simp
theorem ym.alloc(w:World)(o:Obj):ym w (w.alloc o) o:=⟨rfl,rfl,rfl,rfl⟩
theorem ym.drew(w:World)(o:Obj):ym w (w.drew.alloc o) o:=⟨rfl,rfl,rfl,rfl⟩
theorem iL{w':World}{o:Obj}(hI:Inv κ)(g:ym κ.w w' o):Ext κ (κ.zj w'):=by
 refine⟨g.os,g.tape,g.output,by show κ.w.heap.size<=w'.heap.size; rw[g.size]; omega,λk hk=>⟨.inl hk,g.old (hI.ux k hk)⟩,?_,λ_ _ _ h=>.inl h,λb d h=>⟨⟨d,h⟩,rfl⟩,
  λb v0 e xs h=>.inr ⟨v0,xs,h,Nat.le_refl _,λ_=>⟨rfl,rfl⟩⟩,λ_ h=>h,Nat.le_refl _,λk hk _=>g.old hk⟩
 rintro k (hk | hk)
 ·grind
 ·grind
theorem uR{w':World}{o:Obj}(hI:Inv κ)(g:ym κ.w w' o):Inv (κ.zj w'):=by
 refine⟨hI.len,?_,?_,hI.inj,?_,hI.gl.mono (iL hI g).same⟩
 ·rintro k (hk | hk)
  ·have:=hI.ux k hk; show k<w'.heap.size; rw[g.size]; omega
  ·show k<w'.heap.size; rw[g.size]; omega
 ·intro b blk n h
  obtain⟨h1,h2⟩:=hI.apart b blk n h
  refine⟨by show blk<w'.heap.size; rw[g.size]; omega,?_⟩
  rintro(hk | hk)
  ·exact h2 hk
  ·omega
 ·intro b x hx
  exact(hI.blk b x hx).mono (iL hI g) rfl λblk n h=>g.old (hI.apart b blk n h).1
def KS.add(κ:KS)(w':World)(n:Nat)(x:vX):KS:={ κ with w:=w',ph:=κ.ph++[some (κ.w.heap.size,n)],st:=κ.st++[x] }
theorem dN{w':World}{o:Obj}{n:Nat}{x:vX}(hI:Inv κ)(g:ym κ.w w' o):Ext κ (κ.add w' n x):=by
 have qQ:∀ b y,κ.st[b]? = some y->(κ.st++[x])[b]? = some y:=λb y h=>by rw[List.getElem?_append_left (List.getElem?_eq_some_iff.1 h).1]; exact h
 have X9:∀ b y,κ.st[b]? = some y->(κ.ph++[some (κ.w.heap.size,n)])[b]? = κ.ph[b]? := λb y h=>by
  rw[List.getElem?_append_left]; rw[hI.len]; exact(List.getElem?_eq_some_iff.1 h).1
 refine⟨g.os,g.tape,g.output,by show κ.w.heap.size<=w'.heap.size; rw[g.size]; omega,λk hk=>⟨hk,g.old (hI.ux k hk)⟩,λk hk=>.inl hk,?_,λb d h=>⟨⟨d,qQ b _ h⟩,X9 b _ h⟩,
  λb v0 e xs h=>.inr ⟨v0,xs,qQ b _ h,Nat.le_refl _,λ_=>⟨X9 b _ h,rfl⟩⟩,λb h=>qQ b _ h,by simp[KS.add],λk hk _=>g.old hk⟩
 intro b blk m h
 simp only[KS.add]at h
 grind
theorem cf(hI:Inv κ){w':World}{n:Nat}{x:vX}:(κ.add w' n x).ph[κ.st.length]? = some (some (κ.w.heap.size,n)):=by
 simp[KS.add,<- hI.len]
theorem fg{w':World}{n:Nat}{x:vX}:(κ.add w' n x).st[κ.st.length]? = some x:=by simp[KS.add]
theorem nN{w':World}{o:Obj}{n:Nat}{x:vX}(hI:Inv κ)(g:ym κ.w w' o)(hx:gX (κ.add w' n x) κ.st.length x):Inv (κ.add w' n x):=by
 have hold:∀ (b blk m:Nat),(κ.ph++[some (κ.w.heap.size,n)])[b]? = some (some (blk,m))->κ.ph[b]? = some (some (blk,m))\/(b=κ.ph.length/\blk=κ.w.heap.size):=by
  grind
 refine⟨by simp[KS.add,hI.len],?_,?_,?_,?_,hI.gl.mono (dN hI g).same⟩
 ·intro k hk; have:=hI.ux k hk; show k<w'.heap.size; rw[g.size]; omega
 ·intro b blk m h
  rcases hold b blk m h with h | ⟨rfl,rfl⟩
  ·obtain⟨h1,h2⟩:=hI.apart b blk m h
   exact⟨by show blk<w'.heap.size; rw[g.size]; omega,h2⟩
  ·exact⟨by show κ.w.heap.size<w'.heap.size; rw[g.size]; omega,λhk=>absurd (hI.ux _ hk) (Nat.lt_irrefl _)⟩
 ·intro b b' blk m m' h h'
  rcases hold b blk m h with h | ⟨rfl,rfl⟩<;>rcases hold b' _ m' h' with h' | ⟨rfl,h''⟩
  ·exact hI.inj b b' blk m m' h h'
  ·have:=(hI.apart b blk m h).1; omega
  ·have:=(hI.apart b' _ m' h').1; omega
  ·rfl
 ·intro b y hy
  simp only[KS.add]at hy
  by_cases hb:b<κ.st.length
  ·rw[List.getElem?_append_left hb]at hy
   refine(hI.blk b y hy).mono (dN hI g) ?_ λblk m h=>g.old (hI.apart b blk m h).1
   simp only[KS.add]
   rw[List.getElem?_append_left (by rw[hI.len]; exact hb)]
  ·grind
theorem RD.CN{κ:KS}{d:D}{v:Value}(h:RD κ d v):d.tk=false:=by cases h<;>rfl
theorem YG{d:D}{v:Value}{t:TypeId}(hI:Inv κ)(hd:RD κ d v)(ht:d.wR=false)(Y3:∀ T,d.typed=some T->t=T) :
  ∃ κ':KS,κ'.w=κ.w.alloc (.cells v.cells t)/\κ'.st=κ.st++[.var d]/\Inv κ'/\Ext κ κ'/\RD κ' (.ptr κ.st.length 0) (.pointer (some ⟨κ.w.heap.size,0,none⟩)):=by
 have g:=ym.alloc κ.w (.cells v.cells t)
 have hx:=dN (n:=v.cells.size) (x:=.var d) hI g
 refine⟨κ.add _ v.cells.size (.var d),rfl,rfl,nN hI g ?_,hx,.ptr _ 0 _ v.cells.size d fg (cf hI)⟩
 exact .mk hd.CN ⟨κ.w.heap.size,v.cells.size,v.cells,t,cf hI,g.new,rfl,(vH hd ht).mono hx,vI hd,Y3⟩
theorem DV{t:Nat}{x:Option D}{v:Value}{d:Option D}{zg:St}(hI:Inv κ)(hx:∀ z,x=some z->RD κ z v)
  (h:(zk (EM x) κ.st).leads (d,zg)) :
  zL c.P (do Pure.pure (.value (<- Instr.box t v))) κ d zg:=by
 cases x with
 | none=>exact absurd h z7
 | some y =>
  simp only[EM]at h
  cases ht:y.wR||y.typed.isSome with
  | true=>rw[ht]at h; exact absurd h z7
  | false =>
   rw[ht,cond_false]at h
   simp at ht
   obtain⟨ht,Y3⟩:=ht
   have z5V:∀ T,y.typed=some T->t=T:=λT e=>by rw[e]at Y3; cases Y3
   obtain⟨rfl,rfl⟩:=h
   obtain⟨κ',h1,h2,h3,h4,h5⟩:=YG (t:=t) hI (hx _ rfl) ht z5V
   refine⟨κ',_,_,?_,.inl rfl,h2,h3,h4,λ_ he=>by cases he; exact h5⟩
   simp[Instr.box,newVar,newRow,h1]
theorem Pl{d:D}{τ:Ty}{x:den τ}{v:Value}{t:TypeId}(hI:Inv κ)(hd:RD κ d v)(hx:gF τ d=some x) :
  ∃ κ':KS,κ'.w=κ.w.alloc (.cells v.cells t)/\κ'.st=κ.st/\Inv κ'/\Ext κ κ'/\RD κ' (.qf τ x) (.pointer (some ⟨κ.w.heap.size,0,none⟩)):=by
 have g:=ym.alloc κ.w (.cells v.cells t)
 have CQ:=iL hI g
 obtain⟨cs,h1,h2⟩:=RD.uR (yf hd hx)
 have hc:=nF h1.len h1.one
 have hn:(κ.w.alloc (.cells v.cells t)).heap[κ.w.heap.size]? = some (.cells v.cells t (0,0)):=g.new
 have jr:∀ j u,cs[j]? = some u->(κ.w.alloc (.cells v.cells t)).cell? ⟨κ.w.heap.size,0+j,none⟩=some u:=by
  simp
  grind
 exact⟨κ.zj _,rfl,rfl,uR hI g,CQ,.qf τ x cs κ.w.heap.size 0 (.inr rfl) (h1.mono CQ.same) jr⟩
theorem Ki{t:Nat}{x:Option D}{v:Value}{d:Option D}{zg:St}(hI:Inv κ)(hx:∀ z,x=some z->RD κ z v)
  (h:(zk (CH c t x) κ.st).leads (d,zg)):zL c.P (do Pure.pure (.value (<- Instr.box t v))) κ d zg:=by
 have key:∀ (y:D) (τ:Ty) (z:den τ),x=some y->gF τ y=some z->(zk (val (.qf τ z)) κ.st).leads (d,zg)->zL c.P (do Pure.pure (.value (<- Instr.box t v))) κ d zg:=by
  intro y τ z hy hz h
  obtain⟨rfl,rfl⟩:=h
  obtain⟨κ',h1,h2,h3,h4,h5⟩:=Pl (t:=t) hI (hx y hy) hz
  refine⟨κ',_,_,?_,.inl rfl,h2,h3,h4,λ_ he=>by cases he; exact h5⟩
  simp[Instr.box,newVar,newRow,h1]
 unfold CH at h
 split at h
 ·rename_i τ z
  exact key _ τ z rfl (by simp[gF,xu]) h
 ·split at h
  ·split at h
   ·grind
   ·exact absurd h z7
  ·exact absurd h z7
 ·exact absurd h z7
theorem Jb{t:Nat}{dst:Option Nat}{x:Option D}{v:Value}{d:Option D}{zg:St}(hI:Inv κ)(hx:∀ z,x=some z->RD κ z v)
  (h:(zk (Cu c t dst x) κ.st).leads (d,zg)):zL c.P (do Pure.pure (.value (<- Instr.box t v))) κ d zg:=by
 unfold Cu at h
 cases hb:C6 c dst with
 | true=>rw[hb]at h; exact Ki hI hx h
 | false=>rw[hb]at h; exact DV hI hx h
theorem iW{v:Value}{d:D}(h:eV v=some d):RD κ d v/\d.one=true/\d.wR=false/\(∀ cs,v≠.agg cs):=by
 unfold eV at h
 split at h<;>cases h<;>refine⟨?_,rfl,rfl,λ_=>nofun⟩
 ·exact .int
 ·exact .bool
 ·rename_i s; have:=RD.str (κ:=κ) (s:=s.data.toList); simpa using this
 ·exact .zW
 ·exact .wJ
 ·exact .wo
 ·exact .q8
 ·exact .qC
theorem tg{v:Value}{d:D}(h:pU v=some d):RD κ d v/\d.wR=false:=by
 unfold pU at h
 split at h
 ·rename_i cs
  split at h
  ·rename_i l hl
   cases h
   have dy:∀ x∈l,x.one=true:=by
    intro x hx
    have:some x∈cs.toList.map eV:=by rw[gm hl]; exact List.mem_map.2 ⟨x,hx,rfl⟩
    obtain⟨u,_,hu⟩:=List.mem_map.1 this
    exact(iW (κ:=κ) hu).2.1
   have hr:=jU (κ:=κ) (vs:=cs.toList) hl (by simp) (λi d v hd hv=>by
    simp only[List.getElem?_map,hv,Option.map_some,Option.some.injEq]at hd
    exact(iW hd).1)
   refine⟨?_,rfl⟩
   have:=RD.agg l cs.toList hr.1 dy hr.2
   omega
  ·cases h
 ·exact⟨(iW h).1,(iW (κ:=κ) h).2.2.1⟩
theorem mY{v:Value}{d:D}(h:eV v=some d):(∀ l,d≠.agg l)/\(∀ T,d≠.yA T)/\∀ b T,d≠.ja b T:=by
 unfold eV at h
 grind
theorem V1{v:Value}{d:D}(h:pU v=some d):d.typed=none:=by
 unfold pU at h
 split at h
 ·rename_i cs
  split at h
  ·rename_i l hl
   cases h
   have hz:=gm hl
   cases l with
   | nil=>rfl
   | cons x r =>
    have:some x∈cs.toList.map eV:=by rw[hz]; simp
    obtain⟨u,_,hu⟩:=List.mem_map.1 this
    obtain⟨_,h1,h2⟩:=mY hu
    cases x<;>first | rfl | exact absurd rfl (h1 _) | exact absurd rfl (h2 _ _)
  ·cases h
 ·have:=(mY h).1
  cases d<;>first | rfl | exact absurd rfl (this _)
structure ZD(t:Nat)(d:D)(z:Value):Prop where
 rd:∀ κ:KS,RD κ d z
 jC:d.wR=false
 ty:∀ T,d.typed=some T->t=T
theorem Dn{t:Nat}{d:D}{z:Value}(h:pU z=some d):ZD t (Cd c t d) z:=by
 have h0:∀ κ:KS,RD κ d z:=λκ=>(tg h).1
 have h1:d.wR=false:=(tg (κ:=⟨default,λ_=>False,[],[]⟩) h).2
 have h2:=V1 h
 have same:ZD t d z:=⟨h0,h1,λT e=>by grind⟩
 unfold Cd
 split
 ·rename_i r
  cases hs:Oo c t with
  | false=>exact same
  | true =>
   refine⟨λκ => ?_,rfl,λT e=>by cases e; rfl⟩
   cases h0 κ with
   | agg _ vs hl ho hh =>
    have hR:zU κ (.wJ::r) vs:=⟨hl,hh⟩
    obtain⟨v,us,rfl,g1,g2⟩:=hR.cons_inv
    have hR2:zU κ (.yA t::r) (v::us):=.cons (by cases g1; exact .yA t) g2
    exact .agg _ _ hR2.1 (λx hx=>by
     rcases List.mem_cons.1 hx with rfl | hx
     ·rfl
     ·exact ho x (List.mem_cons_of_mem _ hx)) hR2.2
 ·exact same
theorem br{t:Nat}{d:D}(h:oS c t=some d):∃ i z,c.P.info? t=some i/\i.zero=some z/\ZD t d z:=by
 unfold oS at h
 split at h
 ·rename_i i hi
  split at h
  ·rename_i z hz
   split at h
   ·rename_i d0 Rj
    cases h
    exact⟨i,z,hi,hz,Dn Rj⟩
   ·cases h
  ·cases h
 ·cases h
theorem Kp{t:Nat}{d:Option D}{zg:St}(hI:Inv κ)
  (h:(zk (gE c t) κ.st).leads (d,zg)) :
  zL c.P (do Pure.pure (.value (<- Instr.alloc t true (.tuple #[])))) κ d zg:=by
 unfold gE at h
 split at h
 ·rename_i y hy
  obtain⟨i,z,h1,h2,h3⟩:=br hy
  obtain⟨rfl,rfl⟩:=h
  obtain⟨κ',g1,g2,g3,g4,g5⟩:=YG (t:=t) hI (h3.rd κ) h3.jC h3.ty
  refine⟨κ',_,_,?_,.inl rfl,g2,g3,g4,λ_ he=>by cases he; exact g5⟩
  simp[Instr.alloc,zeroValue,typeInfo,h1,h2,newVar,newRow,g1]
 ·exact absurd h z7
end
end Go.AM
namespace Go.AM
set_option linter.unusedSectionVars false
variable [we]
section
variable {c:Ctx} {κ:KS}
def KS.lQ(κ:KS)(b:Nat)(w':World)(x:vX):KS:={ κ with w:=w',st:=κ.st.set b x }
def KS.I3(κ:KS)(b blk:Nat)(cs:Array Value)(x:vX):KS:=κ.lQ b (κ.w.setRow blk cs) x
def Alike:vX->vX->Prop
 | .var _,.var _=>True
 | .arr v e xs,.arr v' e' xs'=>e=e'/\v<=v'/\(v=v'->xs.length=xs'.length)
 | _,_=>False
theorem mF{b blk n:Nat}{w':World}{x y:vX}(hI:Inv κ)(hp:κ.ph[b]? = some (some (blk,n)))(hy:κ.st[b]? = some y)(ha:Alike y x)(g:κ.w.grownBy w' (some blk)):Ext κ (κ.lQ b w' x):=by
 have qc:b<κ.st.length:=(List.getElem?_eq_some_iff.1 hy).1
 have ui:∀ k,κ.ok k->k≠blk:=λk hk e=>(hI.apart b blk n hp).2 (e▸hk)
 refine⟨g.os,g.tape,g.output,g.size,λk hk=>⟨hk,g.block k (hI.ux k hk) λe=>ui k hk (Option.some.inj e)⟩,λk hk=>.inl hk,λ_ _ _ h=>.inl h,?_,?_,?_,by simp[KS.lQ],?_⟩
 ·intro b' d hd
  refine⟨?_,rfl⟩
  simp only[KS.lQ,List.getElem?_set]
  split
  ·rename_i e
   subst e
   rw[hy]at hd; cases hd
   cases x<;>simp[Alike]at ha
   simp
  ·grind
 ·intro b' v0 e mv hd
  simp only[KS.lQ,List.getElem?_set]
  split
  ·rename_i e'
   subst e'
   rw[hy]at hd; cases hd
   cases x<;>simp[Alike]at ha
   grind
  ·grind
 ·intro b' hd
  simp only[KS.lQ,List.getElem?_set]
  split
  ·rename_i e
   subst e
   rw[hy]at hd; cases hd
   simp[Alike]at ha
  ·exact hd
 ·intro k hk hn
  exact g.block k hk λe=>by cases e; exact hn b n hp
theorem Vk{b blk n:Nat}{w':World}{x y:vX}(hI:Inv κ)(hp:κ.ph[b]? = some (some (blk,n)))(hy:κ.st[b]? = some y)(ha:Alike y x)
  (g:κ.w.grownBy w' (some blk)) (hx:gX (κ.lQ b w' x) b x):Inv (κ.lQ b w' x):=by
 refine⟨by simp[KS.lQ,hI.len],λk hk=>Nat.lt_of_lt_of_le (hI.ux k hk) g.size,?_,hI.inj,?_,hI.gl.mono (mF hI hp hy ha g).same⟩
 ·intro b' b6 m h
  obtain⟨h1,h2⟩:=hI.apart b' b6 m h
  exact⟨Nat.lt_of_lt_of_le h1 g.size,h2⟩
 ·intro b' z hz
  by_cases hb:b=b'
  ·subst hb
   simp only[KS.lQ]at hz
   grind
  ·simp only[KS.lQ,List.getElem?_set,if_neg hb]at hz
   refine(hI.blk b' z hz).mono (mF hI hp hy ha g) rfl λb6 m h => ?_
   refine g.block b6 (hI.apart b' b6 m h).1 λe => ?_
   cases e
   exact hb (hI.inj b b' _ n m hp h)
theorem mK(w:World)(blk:Nat)(cs:Array Value):w.grownBy (w.setRow blk cs) (some blk) :=
 ⟨rfl,rfl,rfl,by rw[setRow_size]; exact Nat.le_refl _,λk _ hk=>setRow_other _ _ _ _ λe=>hk (by rw[e])⟩
theorem mU{b blk n:Nat}{cs:Array Value}{x y:vX}(hI:Inv κ)(hp:κ.ph[b]? = some (some (blk,n)))(hy:κ.st[b]? = some y)(ha:Alike y x):Ext κ (κ.I3 b blk cs x):=mF hI hp hy ha (mK _ _ _)
theorem nB{b blk n:Nat}{cs:Array Value}{x y:vX}(hI:Inv κ)(hp:κ.ph[b]? = some (some (blk,n)))(hy:κ.st[b]? = some y)(ha:Alike y x)
  (hx:gX (κ.I3 b blk cs x) b x):Inv (κ.I3 b blk cs x):=Vk hI hp hy ha (mK _ _ _) hx
theorem WH{d d':D}{t:Nat}(h:dE d d'=true)(hd:∀ T,d.typed=some T->t=T):∀ T,d'.typed=some T->t=T:=by
 intro T hT
 unfold dE at h
 rw[hT]at h
 cases Rj:d.typed with
 | none=>grind
 | some T' =>
  rw[Rj]at h
  have e:=Nat.eq_of_beq_eq_true h
  grind
theorem dS{t:Nat}{n blk o:Nat}{v:Value}{cs:Array Value}{T:TypeId}(hn:bR c t=some n)(hv:v.cells.toList.length=n)(h1:∀ u∈v.cells.toList,u.oneCell'=true)
  (hg:κ.w.heap[blk]? = some (.cells cs T (0,0))) (hle:o+n<=cs.size) :
  (storeVar t ⟨blk,o,none⟩ v).run c.P κ.w=.ok () (κ.w.setRow blk (cs.toList.take o++v.cells.toList++cs.toList.drop (o+n)).toArray):=by
 have hs:v.cells.size=n:=by simpa using hv
 have:=run_storeCells_at c.P blk o T v.cells.toList 0 cs κ.w hg (by grind) h1
 simp[storeVar,run_sizeOf hn,hs,this]
theorem cq{l:List D}{vs us:List Value}{x:List D}(h:zU κ l vs)(hx:zU κ x us)(o n:Nat) :
  zU κ (l.take o++x++l.drop (o+n)) (vs.take o++us++vs.drop (o+n)):=((h.take o).append hx).append (h.drop (o+n))
theorem mr{cs us:List Value}{o n:Nat}(hu:us.length=n)(ho:o+n<=cs.length)(p:Nat) :
  (cs.take o++us++cs.drop (o+n))[p]? = if p<o then cs[p]? else if p<o+n then us[p-o]? else cs[p]? := by grind
theorem Xx{t:Nat}{d x r:D}{off:Nat}(h:ZT c t d off x=some r):∃ n,bR c t=some n/\0<n/\(zC x).length=n/\off+n<=(zC d).length /\
  zC r=(zC d).take off++zC x++(zC d).drop (off+n)/\((∀ y∈zC d,y.one=true)->(∀ y∈zC x,y.one=true)->∀ y∈zC r,y.one=true)/\x.wR=false:=by
 unfold ZT at h
 split at h
 ·cases h
 ·rename_i n hn
  cases hb:Nat.blt 0 n&&Nat.beq n (zC x).length&&Nat.ble (off+n) (zC d).length with
  | false=>grind
  | true =>
   rw[hb,cond_true]at h
   simp only[Bool.and_eq_true]at hb
   obtain⟨⟨h0,h1⟩,h2⟩:=hb
   have h0':0<n:=Nat.le_of_ble_eq_true h0
   have Xq:n=(zC x).length:=Nat.eq_of_beq_eq_true h1
   have Iq:=Nat.le_of_ble_eq_true h2
   have ZP:x.wR=false:=by
    cases x with
    | jC l=>simp[zC]at Xq; omega
    | _=>rfl
   cases hw:Nat.beq n (zC d).length with
   | true =>
    have h3:n=(zC d).length:=Nat.eq_of_beq_eq_true hw
    have h4:off=0:=by omega
    subst h4
    rw[hw,cond_true]at h
    have hr:zC r=zC x/\r.wR=false:=by
     cases ha:d.vN && !x.vN with
     | true=>rw[ha,cond_true]at h; cases h; exact⟨rfl,rfl⟩
     | false=>rw[ha,cond_false]at h; cases h; exact⟨rfl,ZP⟩
    refine⟨n,hn,h0',Xq.symm,Iq,?_,λ_ hx y hy=>hx y (hr.1▸hy),ZP⟩
    rw[hr.1]
    simp[<- h3]
   | false =>
    rw[hw,cond_false]at h
    cases h
    refine⟨n,hn,h0',Xq.symm,Iq,rfl,λhd hx y hy => ?_,ZP⟩
    simp only[zC,List.mem_append]at hy
    rcases hy with(hy | hy) | hy
    ·exact hd y (List.mem_of_mem_take hy)
    ·exact hx y hy
    ·exact hd y (List.mem_of_mem_drop hy)
theorem YJ{t:Nat}{d x r:D}{off:Nat}(h:ZT c t d off x=some r):d.tk=false/\r.tk=false:=by
 unfold ZT at h
 split at h
 ·cases h
 ·rename_i n hn
  cases hb:Nat.blt 0 n&&Nat.beq n (zC x).length&&Nat.ble (off+n) (zC d).length with
  | false=>rw[hb]at h; cases h
  | true =>
   rw[hb,cond_true]at h
   simp only[Bool.and_eq_true]at hb
   have h0:0<n:=Nat.le_of_ble_eq_true hb.1.1
   have h1:=Nat.eq_of_beq_eq_true hb.1.2
   have h2:=Nat.le_of_ble_eq_true hb.2
   refine⟨by cases d<;>first | rfl | (simp[zC]at h2; omega),?_⟩
   cases hw:Nat.beq n (zC d).length with
   | true =>
    rw[hw,cond_true]at h
    cases ha:d.vN && !x.vN with
    | true=>rw[ha,cond_true]at h; cases h; rfl
    | false=>rw[ha,cond_false]at h; cases h; cases x<;>first | rfl | (simp[zC]at h1; omega)
   | false=>rw[hw]at h; cases h; rfl
theorem ic{τ:Ty}{r:D}{x:den τ}{vs:List Value}(h:gF τ r=some x)(hr:zU κ (zC r) vs)(dy:∀ y∈zC r,y.one=true)(ht:r.wR=false):Rc κ.w κ.ok τ x vs:=by
 cases r with
 | zj σ y=>obtain⟨rfl,rfl⟩:=zI h; exact si _ _ hr
 | agg l =>
  have:=yf (RD.agg l vs hr.1 dy hr.2) h
  obtain⟨cs,h1,h2⟩:=RD.uR this
  have hc:=nF h1.len h1.one
  simp only[Value.cells]at hc
  grind
 | jC l=>cases ht
 | QZ l=>cases h
 | _ =>
  obtain⟨v,r',rfl,h1,h2⟩:=zU.cons_inv hr
  have e2:=h2.zG
  subst e2
  have h3:=yf h1 h
  obtain⟨cs,h4,h5⟩:=RD.uR h3
  have DQ:τ.isAgg=false:=by
   cases hta:τ.isAgg with
   | false=>rfl
   | true=>simp[gF,D.isAgg,hta]at h
  obtain⟨u,rfl⟩:=h4.single DQ
  rw[Zp DQ]at h5
  rwa [h5]
theorem JF{t:Nat}{a x:Option D}{v u:Value}{d:Option D}{zg:St}(hI:Inv κ)(ha:∀ z,a=some z->RD κ z v)(hx:∀ z,x=some z->RD κ z u)
  (h:(zk (se c t a x) κ.st).leads (d,zg)):zL c.P (do Instr.storeAt t v u; Pure.pure .skip) κ d zg:=by
 unfold se at h
 split at h
 ·rename_i b off y
  simp only[zk]at h
  split at h
  ·rename_i d0 hb
   split at h
   ·rename_i r hr
    cases qI:dE d0 r with
    | false=>rw[qI]at h; exact h.elim
    | true =>
    rw[qI,cond_true]at h
    simp only[T.leads,Prod.mk.injEq]at h
    obtain⟨rfl,rfl⟩:=h
    obtain⟨n,hn,h0,pO,hle,VD,dy,ZP⟩:=Xx hr
    cases ha _ rfl with
    | ptr _ _ blk m d1 hd hp =>
     obtain⟨b6,m',cs,T,g1,g2,g3,g4,g5⟩:=(hI.blk b _ hb:xF κ b d0).cells (YJ hr).1
     rw[hp]at g1
     cases g1
     have hy:=hx _ rfl
     have MV:=vH hy ZP
     have NN:u.cells.toList.length=n:=by rw[<- MV.1]; exact pO
     have vb:off+n<=cs.size:=by have:=g4.1; simp at this; omega
     have h1:∀ z∈u.cells.toList,z.oneCell'=true:=by
      intro z hz
      obtain⟨i,hi,rfl⟩:=List.getElem_of_mem hz
      exact(MV.2 i (MV.1▸hi) hi).sg (vI hy _ (List.getElem_mem _))
     have xg:=dS (c:=c) (κ:=κ) hn NN h1 g2 vb
     have V0:Alike (.var d0) (.var r):=trivial
     let ye:=(cs.toList.take off++u.cells.toList++cs.toList.drop (off+n)).toArray
     have hex:=mU (cs:=ye) (x:=.var r) hI hp hb V0
     refine⟨κ.I3 b blk ye (.var r),.skip,undef,?_,.inr ⟨rfl,rfl⟩,rfl,nB hI hp hb V0 ?_,hex,λ_ he=>by cases he⟩
     ·simp only[Sem.run_bind,Instr.storeAt,Instr.sureAddr,Sem.run_pure,Result.andThen_ok,xg]; rfl
     ·refine .mk (YJ hr).2 ⟨blk,m,ye,T,hp,setRow_heap _ _ _ _ _ _ g2,?_,?_,dy g5.1 (vI hy),WH qI g5.2⟩
      ·grind
      ·rw[VD]; exact(cq g4 MV off n).mono hex
   ·exact h.elim
  ·exact h.elim
 ·rename_i b q7 e idx off y
  simp only[zk]at h
  split at h
  ·rename_i uF e' xs hb
   cases he:decide (e'=e)with
   | false=>rw[he]at h; exact h.elim
   | true =>
    rw[he,cond_true]at h
    have JJ:e'=e:=of_decide_eq_true he
    subst JJ
    obtain⟨⟨rfl,qc⟩,h⟩:=h
    split at h
    ·rename_i r hr
     split at h
     ·rename_i z hz
      simp only[T.leads,Prod.mk.injEq]at h
      obtain⟨rfl,rfl⟩:=h
      obtain⟨n,hn,h0,pO,hle,VD,dy,ZP⟩:=Xx hr
      cases ha _ rfl with
      | wB _ _ _ _ _ blk o hold hp =>
       obtain⟨m,p1,rfl⟩:=hp xs hb qc
       obtain⟨vb,⟨Zn,_⟩ | ⟨b6,n',cs,T,g1,g2,g3,g4,gr,f,g5⟩⟩:=hI.blk b _ hb
       ·grind
       ·rw[p1]at g1
        cases g1
        rw[getD_lt qc]at hr VD hle dy
        have hy:=hx _ rfl
        have MV:=vH hy ZP
        have NN:u.cells.toList.length=n:=by rw[<- MV.1]; exact pO
        obtain⟨k1,k2⟩:=g5 idx qc
        have Vq:=k1.len
        have Q3:off+n<=e'.size:=by simpa[zC,mO]using hle
        have zaq:idx*e'.size+e'.size<=xs.length*e'.size:=by rw[<- Nat.succ_mul]; exact Nat.mul_le_mul_right _ qc
        have Bp:idx*e'.size+off+n<=cs.size:=by omega
        have h1:∀ z∈u.cells.toList,z.oneCell'=true:=by
         intro z hz
         obtain⟨i,hi,rfl⟩:=List.getElem_of_mem hz
         exact(MV.2 i (MV.1▸hi) hi).sg (vI hy _ (List.getElem_mem _))
        have xg:=dS (c:=c) (κ:=κ) hn NN h1 g2 Bp
        have V0:Alike (.arr q7 e' xs) (.arr q7 e' (xs.set idx z)):=⟨rfl,Nat.le_refl _,λ_=>by simp⟩
        let ye:=(cs.toList.take (idx*e'.size+off)++u.cells.toList++cs.toList.drop (idx*e'.size+off+n)).toArray
        have hex:=mU (cs:=ye) (x:=.arr q7 e' (xs.set idx z)) hI p1 hb V0
        refine⟨κ.I3 b blk ye (.arr q7 e' (xs.set idx z)),.skip,undef,?_,.inr ⟨rfl,rfl⟩,rfl,nB hI p1 hb V0 ?_,hex,λ_ he=>by cases he⟩
        ·simp only[Sem.run_bind,Instr.storeAt,Instr.sureAddr,Sem.run_pure,Result.andThen_ok,xg]; rfl
        ·have hlen:ye.size=cs.size:=by simp[ye,NN]; omega
         refine⟨vb,.inr ⟨blk,m,ye,T,p1,setRow_heap _ _ _ _ _ _ g2,by rw[hlen]; exact g3,by simpa using g4,?_⟩⟩
         -- cells of the element that is written
         let fi:=(f idx).take off++u.cells.toList++(f idx).drop (off+n)
         have z7b:zU κ (zC r) fi:=by
          rw[VD]
          exact cq (eP k1) MV off n
         have hrt:r.wR=false:=by
          cases r with
          | jC l =>
           have h6:=congrArg List.length VD
           rw[List.length_append,List.length_append,pO]at h6
           have h7:(zC (D.jC l)).length=0:=rfl
           omega
          | _=>rfl
         have WX:=ic hz z7b (dy (hJ _ _) (vI hy)) hrt
         have Q4:∀ p,ye[p]? = if p<idx*e'.size+off then cs[p]? else if p<idx*e'.size+off+n then u.cells.toList[p-(idx*e'.size+off)]? else cs[p]? := by
          intro p
          have:=mr (cs:=cs.toList) (us:=u.cells.toList) NN (by simpa using Bp) p
          simpa only[ye,List.getElem?_toArray,Array.getElem?_toList]using this
         have z7D:∀ j,fi[j]? = if j<off then(f idx)[j]? else if j<off+n then u.cells.toList[j-off]? else(f idx)[j]? := λj=>mr NN (by omega) j
         refine⟨gr,λi=>if i=idx then fi else f i,λi hi => ?_⟩
         rw[List.length_set]at hi
         by_cases hii:i=idx
         ·subst hii
          simp only[if_true,List.getElem_set_self]
          refine⟨WX.mono hex.same,λj w hj => ?_⟩
          rw[z7D]at hj
          rw[Q4]
          split at hj
          ·rw[if_pos (by omega)]; exact k2 j w hj
          ·split at hj
           ·rw[if_neg (by omega),if_pos (by omega)]; rw[<- hj]; congr 1; omega
           ·rw[if_neg (by omega),if_neg (by omega)]; exact k2 j w hj
         ·simp only[if_neg hii]
          obtain⟨q1,q2⟩:=g5 i hi
          refine⟨by rw[List.getElem_set_ne (λe=>hii e.symm)]; exact q1.mono hex.same,λj w hj => ?_⟩
          have BW:j<e'.size:=by rw[<- q1.len]; exact(List.getElem?_eq_some_iff.1 hj).1
          rw[Q4]
          rcases Nat.lt_or_gt_of_ne hii with Qb | hgt'
          ·have:i*e'.size+e'.size<=idx*e'.size:=by rw[<- Nat.succ_mul]; exact Nat.mul_le_mul_right _ Qb
           rw[if_pos (by omega)]; exact q2 j w hj
          ·have:idx*e'.size+e'.size<=i*e'.size:=by rw[<- Nat.succ_mul]; exact Nat.mul_le_mul_right _ hgt'
           rw[if_neg (by omega),if_neg (by omega)]; exact q2 j w hj
     ·exact h.elim
    ·exact h.elim
  ·exact h.elim
 ·exact absurd h z7
end
end Go.AM
namespace Go.AM
set_option linter.unusedSectionVars false
variable [we]
section
variable {c:Ctx} {κ:KS}
theorem oR:∀ (vs:List Value) (cells:Array Value) (off k:Nat),off+k+vs.length<=cells.size ->
  ((vs.zipIdx k).foldl (λ(cs:Array Value) (p:Value×Nat)=>cs.setIfInBounds (off+p.2) p.1) cells).toList=cells.toList.take (off+k)++vs++cells.toList.drop (off+k+vs.length)
 | [],cells,off,k,_=>by simp
 | v::vs,cells,off,k,h=>by
  simp only[List.length_cons]at h
  simp only[List.zipIdx_cons,List.foldl_cons]
  rw[oR vs _ off (k+1) (by simp; omega)]
  have qc:off+k<cells.toList.length:=by simp; omega
  simp only[Array.toList_setIfInBounds,List.length_cons]
  have e1:(cells.toList.set (off+k) v).take (off+(k+1))=cells.toList.take (off+k)++[v]:=by
   rw[show off+(k+1)=off+k+1 by omega,List.take_succ_eq_append_getElem (by simpa using qc)]
   rw[List.take_set_of_le (Nat.le_refl _)]
   simp
  have e2:(cells.toList.set (off+k) v).drop (off+(k+1)+vs.length)=cells.toList.drop (off+k+(vs.length+1)):=by
   rw[List.drop_set_of_lt (by omega)]
   grind
  grind
theorem Ue{place:Nat->Option (Nat×Nat)}{cells:Array Value}{i off size:Nat}{v:Value}{rest:List (Nat×Value)}(hp:place i=some (off,size))(hs:v.cells.toList.length=size)(hle:off+size<=cells.size) :
  Instr.fill place cells ((i,v)::rest)=Instr.fill place (cells.toList.take off++v.cells.toList++cells.toList.drop (off+size)).toArray rest:=by
 have hs':v.cells.size=size:=by simpa using hs
 have hf:=oR v.cells.toList cells off 0 (by grind)
 simp only[hs]at hf
 conv=>lhs; unfold Instr.fill
 simp only[hp]
 rw[if_neg (by grind)]
 congr 1
 apply Array.ext'
 rw[<- Array.foldl_toList,Array.toList_zipIdx]
 exact hf
theorem Xg{e:Ty}{x:den e}{v:Value}(h:RD κ (.zj e x) v):Rc κ.w κ.ok e x v.cells.toList:=by
 obtain⟨cs,h1,rfl⟩:=RD.uR h
 rw[nF h1.len h1.one]; exact h1
theorem Qs{e:Ty}{F:Operand->Option D}{G:Operand->Value}(hF:∀ x d,F x=some d->RD κ d (G x)):∀ (L:List (Nat×Operand)) (k:Nat) (cells:Array Value) (l:List (den e)),
  QU e k (L.map λp=>(p.1,F p.2))=some l->(k+L.length)*e.size<=cells.size ->
  ∃ gU,Instr.fill (λi=>some (i*e.size,e.size)) cells (L.map λp=>(p.1,G p.2))=some gU/\gU.size=cells.size/\(∀ p,p<k*e.size->gU[p]? = cells[p]?)/\l.length=L.length /\
   ∃ f:Nat->List Value,∀ i (hi:i<l.length),Rc κ.w κ.ok e l[i] (f i)/\∀ j v,(f i)[j]? = some v->gU[(k+i)*e.size+j]? = some v
 | [],k,cells,l,h,_=>by
  simp only[List.map_nil,QU,Option.some.injEq]at h
  subst h
  exact⟨cells,rfl,rfl,λ_ _=>rfl,rfl,λ_=>[],λi hi=>absurd hi (Nat.not_lt_zero i)⟩
 | (i,x)::L,k,cells,l,h,hle=>by
  simp only[List.map_cons]at h
  cases hx:F x with
  | none=>rw[hx]at h; simp[QU]at h
  | some d =>
   rw[hx]at h
   simp only[QU]at h
   cases hb:Nat.beq k i with
   | false=>grind
   | true =>
    have hik:k=i:=Nat.eq_of_beq_eq_true hb
    subst hik
    rw[hb,cond_true]at h
    split at h
    ·rename_i y l' hy Kz
     cases h
     have hr:=Xg (yf (hF x d hx) hy)
     have hlen:=hr.len
     simp only[List.length_cons]at hle
     have SL:(k+(L.length+1))*e.size=k*e.size+e.size+L.length*e.size:=by rw[Nat.add_mul,Nat.add_mul]; omega
     have jr:k*e.size+e.size<=cells.size:=by omega
     let c1:=(cells.toList.take (k*e.size)++(G x).cells.toList++cells.toList.drop (k*e.size+e.size)).toArray
     have Hw:c1.size=cells.size:=by simp only[c1,List.size_toArray,List.length_append,List.length_take,List.length_drop,hlen,Array.length_toList]; omega
     have hg:∀ p,c1[p]? = if p<k*e.size then cells[p]? else if p<k*e.size+e.size then(G x).cells.toList[p-k*e.size]? else cells[p]? := by
      grind
     obtain⟨gU,h1,h2,h3,h4,f,h5⟩:=Qs hF L (k+1) c1 l' Kz (by rw[Hw,show k+1+L.length=k+(L.length+1) by omega]; exact hle)
     refine⟨gU,?_,h2.trans Hw,?_,by simp[h4],λi=>match i with | 0=>(G x).cells.toList | i+1=>f i,?_⟩
     ·simp only[List.map_cons]
      rw[Ue rfl hlen jr]
      exact h1
     ·grind
     ·intro i hi
      cases i with
      | zero =>
       grind
      | succ i =>
       have:=h5 i (by simpa using hi)
       rw[show k+1+i=k+(i+1) by omega]at this
       exact this
    ·cases h
theorem bV{t n:Nat}(h:cv c t=some n):∃ i,c.P.info? t=some i/\i.bytes=n:=by
 unfold cv at h
 cases hi:c.P.info? t with
 | none=>grind
 | some i=>grind
theorem jK{et:Nat}{e:Ty}{z:den e}(h:zeroOf c et e=some z):∃ i v,c.P.info? et=some i/\i.zero=some v/\Rc κ.w κ.ok e z v.cells.toList:=by
 unfold zeroOf at h
 split at h
 ·rename_i d hd
  obtain⟨i,v,h1,h2,h3⟩:=br hd
  exact⟨i,v,h1,h2,Xg (yf (h3.rd κ) h)⟩
 ·cases h
theorem rk{t n:Nat}{L:List (Nat×Operand)}{F:Operand->Option D}{G:Operand->Value}{d:Option D}{zg:St}(hI:Inv κ)(hF:∀ x d,F x=some d->RD κ d (G x))
  (h:(zk (vj c t n (L.map λp=>(p.1,F p.2))) κ.st).leads (d,zg)) :
  zL c.P (do Pure.pure (.value (<- Instr.buildSlice t n (L.map λp=>(p.1,G p.2)).toArray))) κ d zg:=by
 unfold vj at h
 split at h
 ·exact absurd h z7
 ·rename_i et het
  have hu:=xZ het
  split at h
  ·rename_i e Y3
   cases hb:vU c et e&&Nat.beq n (L.map λp=>(p.1,F p.2)).length&&Nat.ble n 1000&&Nat.ble e.size 100&&(zeroOf c et e).isSome with
   | false=>rw[hb]at h; exact absurd h z7
   | true =>
    rw[hb,cond_true]at h
    simp only[Bool.and_eq_true]at hb
    obtain⟨⟨⟨⟨qI,hn⟩,h1⟩,h2⟩,h3⟩:=hb
    have RU:n=L.length:=by have:=Nat.eq_of_beq_eq_true hn; simpa using this
    have Xq:=Nat.le_of_ble_eq_true h1
    have Iq:=Nat.le_of_ble_eq_true h2
    obtain⟨hs,_⟩:=xh qI
    obtain⟨z,hz⟩:=Option.isSome_iff_exists.1 h3
    obtain⟨i,zv,W8,rF,RY⟩:=jK (κ:=κ) hz
    split at h
    ·rename_i l hl
     cases UN:Nat.beq n 0&&Nat.blt 0 e.size with
     | true =>
     rw[UN,cond_true]at h
     simp only[Bool.and_eq_true]at UN
     obtain⟨UN,vb⟩:=UN
     have Bp:0<e.size:=Nat.le_of_ble_eq_true vb
     have BZ:=Nat.eq_of_beq_eq_true UN
     have hL:L=[]:=List.eq_nil_of_length_eq_zero (RU.symm.trans BZ)
     subst hL
     subst BZ
     simp only[zk,T.leads,Prod.mk.injEq]at h
     obtain⟨rfl,rfl⟩:=h
     have g:=ym.alloc κ.w (.cells #[] et)
     have hex:=dN (n:=0) (x:=.arr 0 e ([]:List (den e))) hI g
     have xg:(Instr.buildSlice t 0 (([]:List (Nat×Operand)).map λp=>(p.1,G p.2)).toArray).run c.P κ.w=.ok (.slice (some ⟨κ.w.heap.size,0,none⟩) 0 0) (κ.w.alloc (.cells #[] et)):=by
      simp[Instr.buildSlice,Sem.run_bind,run_underlying hu,Result.andThen_ok,run_sizeOf hs,Instr.fill,newRow]
      grind
     refine⟨κ.add _ 0 (.arr 0 e []),_,.slice (some ⟨κ.w.heap.size,0,none⟩) 0 0,by simp only[Sem.run_bind,xg,Result.andThen_ok]; rfl,.inl rfl,rfl,nN hI g ?_,hex,?_⟩
     ·exact⟨Bp,.inr ⟨κ.w.heap.size,0,#[],et,cf hI,g.new,rfl,by simp,nS qI,λ_=>[],λi hi=>absurd hi (Nat.not_lt_zero i)⟩⟩
     ·intro d' j9
      cases j9
      refine .ms _ 0 e 0 0 0 _ (.inr ⟨0,e,_,fg,Nat.le_refl _⟩) (by omega) nofun (λp hp=>by cases hp; rfl) λxs Zo => ?_
      rw[fg]at Zo
      cases Zo
      exact⟨by simp,.inr ⟨κ.w.heap.size,0,0,0,cf hI,rfl,by omega,by simp,.inl rfl⟩⟩
     | false =>
     rw[UN,cond_false,uB]at h
     obtain⟨rfl,rfl⟩:=h
     subst RU
     have hle:L.length*e.size<=100000:=Nat.le_trans (Nat.mul_le_mul Xq Iq) (by decide)
     have N7:zv.cells.size=e.size:=by have:=RY.len; simpa using this
     let cells:Array Value:=(Array.range (L.length*e.size)).map ((if L.length*e.size=0 then #[]else zv.cells)[· % (if L.length*e.size=0 then #[]else zv.cells).size]!)
     have lF:cells.size=L.length*e.size:=by simp[cells]
     obtain⟨gU,g1,g2,_,g4,f,g5⟩:=Qs hF L 0 cells l hl (by rw[lF]; simp)
     have g:=ym.alloc κ.w (.cells gU et)
     have hex:=iL hI g
     refine⟨κ.zj _,_,.slice (some ⟨κ.w.heap.size,0,none⟩) L.length L.length,?_,.inl rfl,rfl,uR hI g,hex,?_⟩
     ·have V3:Instr.fill (λi=>some (i*e.size,e.size)) cells (L.map λp=>(p.1,G p.2))=some gU:=g1
      simp only[cells]at V3
      simp only[Instr.buildSlice,Sem.run_bind,run_underlying hu,Result.andThen_ok,run_sizeOf hs,gt_iff_lt,if_neg (show ¬ 2 ^ 24<L.length*e.size by omega)]
      by_cases h0:L.length*e.size=0
      ·simp only[if_pos h0]at V3 ⊢
       simp only[Sem.run_bind,Sem.run_pure,Result.andThen_ok,V3]
       rfl
      ·simp only[if_neg h0]at V3 ⊢
       simp only[Sem.run_bind,Sem.run_pure,Result.andThen_ok,zeroValue,typeInfo,run_program,W8,rF,V3]
       rfl
     ·intro d' j9
      cases j9
      have jr:∀ i,i<l.length->∀ j v,(f i)[j]? = some v->(κ.zj (κ.w.alloc (.cells gU et))).w.cell? ⟨κ.w.heap.size,0+i*e.size+j,none⟩=some v:=by
       intro i hi j v hj
       have:=(g5 i hi).2 j v hj
       simp only[Nat.zero_add]at this ⊢
       rw[l6 (κ:=κ.zj (κ.w.alloc (.cells gU et))) g.new]
       exact this
      rw[<- g4]
      refine .tight e l _ κ.w.heap.size 0 f ?_ (.inr rfl) (λi hi=>(g5 i hi).1.mono hex.same) jr
      intro ui Zn
      subst Zn
      simp at g4
      simp[<- g4]at ui
    ·exact absurd h z7
  ·exact absurd h z7
end
end Go.AM
namespace Go.AM
set_option linter.unusedSectionVars false
variable [we]
section
variable {c:Ctx} {κ:KS}
theorem Bc{t:Nat}{x y:Option D}{v u:Value}{d:Option D}{zg:St}(hI:Inv κ)(hx:∀ z,x=some z->RD κ z v)(hy:∀ z,y=some z->RD κ z u)
  (h:(zk (K8 c t x y) κ.st).leads (d,zg)):zL c.P (do Pure.pure (.value (<- Instr.makeSlice t v u))) κ d zg:=by
 unfold K8 at h
 split at h
 ·rename_i et k n k' m het hn hm
  have hu:=xZ het
  have:=xz hn hx
  subst this
  have:=xz hm hy
  subst this
  split at h
  ·rename_i e bytes Y3 XY
   split at h
   ·rename_i z hz
    cases hb:vU c et e&&Nat.blt 0 e.size with
    | false=>rw[hb]at h; exact absurd h z7
    | true =>
     rw[hb,cond_true]at h
     simp only[Bool.and_eq_true]at hb
     obtain⟨qI,vb⟩:=hb
     have Bp:0<e.size:=Nat.le_of_ble_eq_true vb
     obtain⟨hs,_⟩:=xh qI
     simp only[zk,T.leads,Prod.mk.injEq]at h
     obtain⟨⟨h0,h1,h2,h3⟩,rfl,rfl⟩:=h
     obtain⟨i,zv,W8,rF,RY⟩:=jK (κ:=κ) hz
     obtain⟨ib,z1O,z6s⟩:=bV XY
     obtain⟨i',z4w,z9R⟩:=y8 hs
     rw[W8]at z1O z4w
     cases z1O
     cases z4w
     have N7:zv.cells.size=e.size:=by have:=RY.len; simpa using this
     let N:=m.toNat*e.size
     let cells:Array Value:=(Array.range N).map (zv.cells[· % zv.cells.size]!)
     have lF:cells.size=N:=by simp[cells]
     have xg:(Instr.makeSlice t (.int k n) (.int k' m)).run c.P κ.w=.ok (.slice (some ⟨κ.w.heap.size,0,none⟩) n.toNat m.toNat) (κ.w.alloc (.cells cells et)):=by
      have w1:IntKind.i64.wrap n=n:=IntWalk.i64_in _ (by omega)
      have w2:IntKind.i64.wrap m=m:=IntWalk.i64_in _ (by omega)
      have hmb:¬ ((2:Int) ^ 48<bytes*m):=by
       grind
      have ai:∀ k n w,(Go.asInt (.int k n)).run c.P w=.ok n w:=λk n w=>by simp[Go.asInt,asIntOf]
      have hm0:¬ (m<0):=by omega
      have BZ:¬ (n<0):=by omega
      have RZ:¬ (m<n):=by omega
      simp only[Instr.makeSlice,Sem.run_bind,run_underlying hu,Result.andThen_ok,ai,typeInfo,run_program,W8,z6s,w1,w2,Sem.run_pure,gt_iff_lt,hm0,BZ,RZ,hmb,decide_false,Bool.or_self,Bool.false_eq_true,if_false,run_askRoom,run_sizeOf hs]
      by_cases UN:m.toNat*e.size=0
      ·have TM:cells = #[]:=Array.eq_empty_of_size_eq_zero (by rw[lF]; exact UN)
       have e2:∀ g:Nat->Value,(Array.range (m.toNat*e.size)).map g = #[]:=λg=>by rw[UN]; simp
       simp only[if_pos UN,Sem.run_bind,Sem.run_pure,Result.andThen_ok,newRow,run_newObj,e2]
       rw[TM]
       rfl
      ·simp only[if_neg UN,Sem.run_bind,Sem.run_pure,Result.andThen_ok,newRow,run_newObj,zeroValue,typeInfo,run_program,W8,rF]
       rfl
     have g:=ym.alloc κ.w (.cells cells et)
     have hex:=dN (n:=N) (x:=.arr n.toNat e (List.replicate n.toNat z)) hI g
     refine⟨κ.add _ N (.arr n.toNat e (List.replicate n.toNat z)),_,.slice (some ⟨κ.w.heap.size,0,none⟩) n.toNat m.toNat,by simp only[Sem.run_bind,xg,Result.andThen_ok]; rfl,.inl rfl,rfl,nN hI g ?_,hex,?_⟩
     ·refine⟨Bp,.inr ⟨κ.w.heap.size,N,cells,et,cf hI,g.new,lF,?_,nS qI,λ_=>zv.cells.toList,λi hi => ?_⟩⟩
      ·rw[List.length_replicate]; exact Nat.mul_le_mul_right _ (by omega)
      ·rw[List.length_replicate]at hi
       refine⟨by rw[List.getElem_replicate]; exact RY.mono hex.same,λj w hj => ?_⟩
       have BW:j<e.size:=by rw[<- RY.len]; exact(List.getElem?_eq_some_iff.1 hj).1
       have qc:i*e.size+j<N:=by
        have:i*e.size+e.size<=N:=by rw[<- Nat.succ_mul]; exact Nat.mul_le_mul_right _ (by omega)
        omega
       have za9:(i*e.size+j) % e.size=j:=by rw[Nat.mul_comm,Nat.mul_add_mod,Nat.mod_eq_of_lt BW]
       grind
     ·intro d' j9
      cases j9
      refine .ms _ n.toNat e 0 n.toNat m.toNat _ (.inr ⟨n.toNat,e,_,fg,Nat.le_refl _⟩) (by omega) nofun (λp hp=>by cases hp; rfl) λxs Zo => ?_
      rw[fg]at Zo
      cases Zo
      refine⟨by simp,.inr ⟨κ.w.heap.size,N,0,m.toNat,cf hI,rfl,by omega,by simp[N],.inr (by simp)⟩⟩
   ·exact absurd h z7
  ·exact absurd h z7
 ·exact absurd h z7
end
end Go.AM
namespace Go.AM
set_option linter.unusedSectionVars false
variable [we]
section
variable {c:Ctx} {κ:KS}
def j2(f:Nat->List Value):Nat->List Value
 | 0=>[]
 | n+1=>j2 f n++f n
theorem wu{f:Nat->List Value}{s:Nat}:∀ {n:Nat},(∀ i,i<n->(f i).length=s)->(j2 f n).length=n*s
 | 0,_=>by simp[j2]
 | n+1,h=>by rw[j2,List.length_append,wu (λi hi=>h i (by omega)),h n (by omega),Nat.add_mul]; omega
theorem cD{f:Nat->List Value}{s:Nat}:∀ {n:Nat},(∀ i,i<n->(f i).length=s)->∀ i j,i<n->j<s->(j2 f n)[i*s+j]? = (f i)[j]?
 | 0,_,i,_,hi,_=>absurd hi (Nat.not_lt_zero i)
 | n+1,h,i,j,hi,hj=>by
  have hl:=wu (f:=f) (n:=n) (λi hi=>h i (by omega))
  rw[j2]
  by_cases XC:i<n
  ·have:i*s+s<=n*s:=by rw[<- Nat.succ_mul]; exact Nat.mul_le_mul_right _ XC
   rw[List.getElem?_append_left (by omega)]
   exact cD (λi hi=>h i (by omega)) i j XC hj
  ·grind
theorem Xc{f:Nat->List Value}:∀ {n:Nat},(∀ i,i<n->∀ v∈f i,v.oneCell'=true)->∀ v∈j2 f n,v.oneCell'=true
 | 0,_,v,hv=>by simp[j2]at hv
 | n+1,h,v,hv=>by
  rw[j2,List.mem_append]at hv
  rcases hv with hv | hv
  ·exact Xc (λi hi=>h i (by omega)) v hv
  ·grind
theorem UK{f:Nat->List Value}{s:Nat}{n p:Nat}{v:Value}(hs:0<s)(h:∀ i,i<n->(f i).length=s)(hp:(j2 f n)[p]? = some v):∃ i j,i<n/\j<s/\p=i*s+j/\(f i)[j]? = some v:=by
 have qc:=(List.getElem?_eq_some_iff.1 hp).1
 rw[wu h]at qc
 have hi:p / s<n:=(Nat.div_lt_iff_lt_mul hs).2 qc
 have hj:=Nat.mod_lt p hs
 have he:p / s*s+p % s=p:=Nat.div_add_mod' p s
 refine⟨p / s,p % s,hi,hj,he.symm,?_⟩
 rw[<- cD h _ _ hi hj,he]; exact hp
def C0(κ:KS):Nat->Prop:=λk=>κ.ok k\/∃ b n:Nat,κ.ph[b]? = some (some (k,n))
structure Src(κ:KS)(e:Ty)(ys:List (den e))(v:Value):Prop where
 ex:∃ (a:Option Addr) (cap:Nat) (f:Nat->List Value),v=.slice a ys.length cap/\ys.length<=cap/\(a=none->ys=[]/\cap=0)/\(∀ i (hi:i<ys.length),Rc κ.w κ.ok e ys[i] (f i)) /\
  ∀ p,a=some p->(ys=[]/\cap=0)\/(p.spot=none/\C0 κ p.block/\∀ i,i<ys.length->∀ j u,(f i)[j]? = some u->κ.w.cell? ⟨p.block,p.off+i*e.size+j,none⟩=some u)
theorem Wg{e:Ty}{ys:List (den e)}{v:Value}(h:RD κ (.zj (.sl e) ys) v):Src κ e ys v:=by
 rcases(h.xo rfl).dr with⟨rfl,a0,he⟩ | ⟨blk,off,cap,f,he,qI,qR,h1,h2⟩
 ·cases he; exact⟨⟨a0,0,λ_=>[],rfl,Nat.le_refl _,λ_=>⟨rfl,rfl⟩,λi hi=>absurd hi (Nat.not_lt_zero i),λ_ _=>.inl ⟨rfl,rfl⟩⟩⟩
 ·cases he; exact⟨⟨some ⟨blk,off,none⟩,cap,f,rfl,qR,nofun,h1,λp hp=>by cases hp; exact .inr ⟨rfl,.inl qI,h2⟩⟩⟩
theorem iY{e:Ty}{ys:List (den e)}{ne:Bool}{v:Value}(h:RD κ (.tight e ys ne) v):Src κ e ys v:=by
 cases h with
 | qm _ a0=>exact⟨⟨a0,0,λ_=>[],rfl,Nat.le_refl _,λ_=>⟨rfl,rfl⟩,λi hi=>absurd hi (Nat.not_lt_zero i),λ_ _=>.inl ⟨rfl,rfl⟩⟩⟩
 | tight _ _ _ blk off f ui qI h1 h2=>exact⟨⟨some ⟨blk,off,none⟩,_,f,rfl,Nat.le_refl _,nofun,h1,λp hp=>by cases hp; exact .inr ⟨rfl,.inl qI,h2⟩⟩⟩
theorem s6{e:Ty}{v:Value}(h:RD κ .zW v):Src κ e [] v:=by
 cases h; exact⟨⟨none,0,λ_=>[],rfl,Nat.le_refl _,λ_=>⟨rfl,rfl⟩,λi hi=>absurd hi (Nat.not_lt_zero i),nofun⟩⟩
theorem Jp{b q7 off len:Nat}{e:Ty}{xs:List (den e)}{v:Value}(hI:Inv κ)(h:RD κ (.ms b q7 e off len) v)(hb:κ.st[b]? = some (.arr q7 e xs)):Src κ e ((xs.take (off+len)).drop off) v/\off+len<=xs.length:=by
 cases h with
 | ms _ _ _ _ _ cap a hold qR ha mX hm =>
  obtain⟨hle,hm⟩:=hm xs hb
  have hl:((xs.take (off+len)).drop off).length=len:=by simp; omega
  have hg:∀ i (hi:i<((xs.take (off+len)).drop off).length),∃ h:off+i<xs.length,((xs.take (off+len)).drop off)[i]=xs[off+i]:=λi hi=>⟨by omega,by simp[List.getElem_drop,List.getElem_take]⟩
  refine⟨?_,hle⟩
  rcases hm with⟨rfl,rfl,hv,hp⟩ | ⟨blk,n,o,rH,h3,h4,h5,h6,h7⟩
  ·cases hv
   have:(xs.take (0+0)).drop 0=[]:=by simp
   rw[this]
   exact⟨⟨none,0,λ_=>[],rfl,Nat.le_refl _,λ_=>⟨rfl,rfl⟩,λi hi=>absurd hi (Nat.not_lt_zero i),nofun⟩⟩
  ·cases h4
   obtain⟨vb,⟨Zn,_⟩ | ⟨b6,n',cs,T,g1,g2,g3,g4,gr,f,g5⟩⟩:=hI.blk b _ hb
   ·grind
   ·rw[h3]at g1
    cases g1
    refine⟨⟨some ⟨blk,o,none⟩,cap,λi=>f (off+i),by rw[hl],by rw[hl]; exact qR,nofun,λi hi => ?_,λp hp => ?_⟩⟩
    ·grind
    ·cases hp
     refine .inr ⟨rfl,.inr ⟨b,n,h3⟩,λi hi j u hj => ?_⟩
     obtain⟨k1,_⟩:=hg i hi
     have:=(g5 _ k1).2 j u hj
     rw[l6 g2]
     rcases h7 with h7 | h7
     ·omega
     ·rw[h7,<- Nat.add_mul]; exact this
theorem iO{e:Ty}{ys:List (den e)}{v:Value}(h:Src κ e ys v)(vb:0<e.size):∃ (news:List Value) (f:Nat->List Value),news=j2 f ys.length/\(∀ i (hi:i<ys.length),Rc κ.w κ.ok e ys[i] (f i)) /\
  (∀ P,(Builtin.lenOf v).run P κ.w=.ok ys.length κ.w)/\(∀ P,(Builtin.firstCells e.size ys.length v).run P κ.w=.ok news.toArray κ.w)/\(∀ P,(Builtin.firstCells e.size ys.length v).run P κ.w.drew=.ok news.toArray κ.w.drew):=by
 obtain⟨a,cap,f,rfl,_,hn,h1,h2⟩:=h.ex
 have hf:∀ i,i<ys.length->(f i).length=e.size:=λi hi=>(h1 i hi).len
 refine⟨j2 f ys.length,f,rfl,h1,λP=>rfl,λP => ?_,λP => ?_⟩
 all_goals
  cases a with
  | none=>have:=(hn rfl).1; subst this; simp[Builtin.firstCells,j2]
  | some p =>
   rcases h2 p rfl with⟨rfl,_⟩ | ⟨hp,_,hc⟩
   ·simp[Builtin.firstCells,j2,loadCells,loadCellsFrom]
   obtain⟨blk,o,sp⟩:=p
   subst hp
   refine run_firstCells_some (P:=P) _ e.size ys.length ⟨blk,o,none⟩ ys.length cap (j2 f ys.length) (wu hf) λj u hj => ?_
   obtain⟨i,k,hi,hk,rfl,hu⟩:=UK vb hf hj
   rw[addr_add]
   try rw[World.cell?_drew]
   grind
structure RS(κ:KS)(e:Ty)(ys:List (den e))(v:Value):Prop where
 ex:∃ (news:List Value) (f:Nat->List Value),news=j2 f ys.length/\(∀ i (hi:i<ys.length),Rc κ.w κ.ok e ys[i] (f i)) /\
  (∀ P,(Builtin.lenOf v).run P κ.w=.ok ys.length κ.w)/\(∀ P,(Builtin.firstCells e.size ys.length v).run P κ.w=.ok news.toArray κ.w)/\(∀ P,(Builtin.firstCells e.size ys.length v).run P κ.w.drew=.ok news.toArray κ.w.drew)
theorem LV{e:Ty}{ys:List (den e)}{v:Value}(h:Src κ e ys v)(vb:0<e.size):RS κ e ys v:=⟨iO h vb⟩
def BI(c:Ctx)(t2:TypeId):Prop:=(∃ e,c.P.underlying t2=some (.slice e))\/c.P.underlying t2=some .string
section run
variable {t t2 e:TypeId} {i:TypeInfo} {z:Value} {sLen sCap n:Nat} {base:Option Addr} {x:Value} {news olds:List Value} {ty:TypeId}
theorem run_append_fits(ht:c.P.underlying t=some (.slice e))(I8:BI c t2)(hi:c.P.info? e=some i)(hlen:∀ P,(Builtin.lenOf x).run P κ.w=.ok n κ.w)(hf:∀ P,(Builtin.firstCells i.size n x).run P κ.w=.ok news.toArray κ.w)
  (eE:sLen+n<=sCap) {w':World} (qQ:(match base with | some a=>storeCells (a.add (sLen*i.size)) news | none=>pure ()).run c.P κ.w=.ok () w') :
  (Builtin.append_ #[t,t2] ty #[.slice base sLen sCap,x]).run c.P κ.w=.ok (.slice base (sLen+n) sCap) w':=by
 rcases I8 with⟨e2,I8⟩ | I8
 all_goals cases base with
 | none=>simp at qQ; subst qQ; simp[Builtin.append_,run_underlying ht,run_underlying I8,sizeOf,typeInfo,hi,hlen,eE,hf]
 | some a=>simp only at qQ; simp[Builtin.append_,run_underlying ht,run_underlying I8,sizeOf,typeInfo,hi,hlen,eE,hf,qQ]
theorem gV(ht:c.P.underlying t=some (.slice e))(I8:BI c t2)(hi:c.P.info? e=some i)(hz:i.zero=some z)(hlen:∀ P,(Builtin.lenOf x).run P κ.w=.ok n κ.w)(hf:∀ P,(Builtin.firstCells i.size n x).run P κ.w.drew=.ok news.toArray κ.w.drew)
  (ho:∀ P,(Builtin.firstCells i.size sLen (.slice base sLen sCap)).run P κ.w.drew=.ok olds.toArray κ.w.drew)
  (hg:sCap<sLen+n) (h63:((sLen+n:Nat):Int)<=9223372036854775807) (hb:(sLen+n)*i.bytes<=140737488355328) :
  (Builtin.append_ #[t,t2] ty #[.slice base sLen sCap,x]).run c.P κ.w=.ok (.slice (some ⟨κ.w.heap.size,0,none⟩) (sLen+n) (grownCap κ.w (sLen+n) sCap e))
   (κ.w.drew.alloc (.cells (olds.toArray++news.toArray++Builtin.zeroCells z.cells (grownCap κ.w (sLen+n) sCap e-(sLen+n))) e)):=by
 have h1:¬ (sLen+n<=sCap):=by omega
 have h2:¬ (9223372036854775807<((sLen+n:Nat):Int)):=by omega
 have h3:=growslice_fits (bytes:=i.bytes) hg hb
 have h4:¬ (281474976710656<Builtin.nextslicecap (sLen+n) sCap*i.bytes):=by omega
 have h5:IntKind.i64.max=9223372036854775807:=by decide
 rcases I8 with⟨e2,I8⟩ | I8
 all_goals
  simp[Builtin.append_,run_underlying ht,run_underlying I8,sizeOf,typeInfo,zeroValue,hi,hz,hlen,hf,ho,Question.forced,newRow,grownCap]
  grind
end run
theorem fc(z:Array Value)(n:Nat):(Builtin.zeroCells z n).size=n*z.size:=by simp[Builtin.zeroCells]
theorem tM{e:Ty}{l ys:List (den e)}{f g:Nat->List Value}(hl:∀ i (hi:i<l.length),Rc κ.w κ.ok e l[i] (f i))(hy:∀ i (hi:i<ys.length),Rc κ.w κ.ok e ys[i] (g i))(zs:List Value) :
  ∀ i (hi:i<(l++ys).length),Rc κ.w κ.ok e (l++ys)[i] (if i<l.length then f i else g (i-l.length)) /\
   ∀ j v,(if i<l.length then f i else g (i-l.length))[j]? = some v->(j2 f l.length++j2 g ys.length++zs)[i*e.size+j]? = some v:=by
 have pO:∀ i,i<l.length->(f i).length=e.size:=λi hi=>(hl i hi).len
 have R7:∀ i,i<ys.length->(g i).length=e.size:=λi hi=>(hy i hi).len
 have h1:=wu pO
 have h2:=wu R7
 intro i hi
 by_cases Bq:i<l.length
 ·simp only[if_pos Bq]
  refine⟨by grind,λj v hj => ?_⟩
  have BW:j<e.size:=by rw[<- pO i Bq]; exact(List.getElem?_eq_some_iff.1 hj).1
  have:i*e.size+e.size<=l.length*e.size:=by rw[<- Nat.succ_mul]; exact Nat.mul_le_mul_right _ Bq
  rw[List.append_assoc,List.getElem?_append_left (by omega),cD pO i j Bq BW]
  exact hj
 ·simp only[if_neg Bq]
  simp only[List.length_append]at hi
  have R8:i-l.length<ys.length:=by omega
  refine⟨by grind,λj v hj => ?_⟩
  have BW:j<e.size:=by rw[<- R7 _ R8]; exact(List.getElem?_eq_some_iff.1 hj).1
  have e1:i*e.size=l.length*e.size+(i-l.length)*e.size:=by rw[<- Nat.add_mul]; congr 1; omega
  have:(i-l.length)*e.size+e.size<=ys.length*e.size:=by rw[<- Nat.succ_mul]; exact Nat.mul_le_mul_right _ R8
  rw[List.append_assoc,List.getElem?_append_right (by omega),h1,List.getElem?_append_left (by omega)]
  rw[show i*e.size+j-l.length*e.size=(i-l.length)*e.size+j by omega,cD R7 _ j R8 BW]
  exact hj
theorem UT{t t2 et:Nat}{e:Ty}{l ys:List (den e)}{sv v:Value}{bytes:Nat}{ty:Nat}(hI:Inv κ)(hu:c.P.underlying t=some (.slice et))(G3:BI c t2)(qI:vU c et e=true)(vb:0<e.size)(XY:cv c et=some bytes)(hz:∃ y,zeroOf c et e=some y)
  (hs:Src κ e l sv) (qR:∃ a,sv=.slice a l.length l.length) (hv:RS κ e ys v) (ui:ys≠[]) (hb:(l.length+ys.length)*bytes<=140737488355328) (hn:l.length+ys.length<=9223372036854775807) :
  ∃ (κ':KS) (r:Value),(Builtin.append_ #[t,t2] ty #[sv,v]).run c.P κ.w=.ok r κ'.w/\κ'.st=κ.st++[.arr (l.length+ys.length) e (l++ys)]/\Inv κ'/\Ext κ κ'/\RD κ' (.ms κ.st.length (l.length+ys.length) e 0 (l.length+ys.length)) r:=by
 obtain⟨NS,_⟩:=xh qI
 obtain⟨i,W8,rF⟩:=y8 NS
 obtain⟨y,hy⟩:=hz
 obtain⟨i',zv,g1,g2,g3⟩:=jK (κ:=κ) hy
 obtain⟨i'',k1,k2⟩:=bV XY
 rw[W8]at g1 k1
 cases g1
 cases k1
 obtain⟨olds,f,C4,I7,ho3,ho4,ho5⟩:=iO hs vb
 obtain⟨news,g,By,ES,LR,Sc,S8⟩:=hv.ex
 obtain⟨a,Ll⟩:=qR
 subst Ll
 have nU:0<ys.length:=List.length_pos_iff.2 ui
 have xg:=gV (c:=c) (κ:=κ) (t:=t) (t2:=t2) (e:=et) (ty:=ty) (base:=a) (sLen:=l.length) (sCap:=l.length) (n:=ys.length) (x:=v) (news:=news) (olds:=olds) hu G3 W8 g2 LR
  (by intro P; rw[rF]; exact S8 P) (by intro P; rw[rF]; exact ho5 P) (by omega) (by omega) (by rw[k2]; exact hb)
 let C:=grownCap κ.w (l.length+ys.length) l.length et
 have hC:l.length+ys.length<=C:=grownCap_ge _ _ _ _
 let zs:=Builtin.zeroCells zv.cells (C-(l.length+ys.length))
 let cells:=olds.toArray++news.toArray++zs
 have N7:zs.size=(C-(l.length+ys.length))*e.size:=by have:=g3.len; simp only[Array.length_toList]at this; simp[zs,fc,this]
 have hol:olds.length=l.length*e.size:=by rw[C4]; exact wu λi hi=>(I7 i hi).len
 have M0:news.length=ys.length*e.size:=by rw[By]; exact wu λi hi=>(ES i hi).len
 have lF:cells.size=C*e.size:=by
  simp only[cells,Array.size_append,List.size_toArray,hol,M0,N7,<- Nat.add_mul]
  grind
 have gr:=ym.drew κ.w (.cells cells et)
 have hex:=dN (n:=cells.size) (x:=.arr (l.length+ys.length) e (l++ys)) hI gr
 refine⟨κ.add _ cells.size (.arr (l.length+ys.length) e (l++ys)),_,xg,rfl,nN hI gr ?_,hex,?_⟩
 ·refine⟨vb,.inr ⟨κ.w.heap.size,cells.size,cells,et,cf hI,gr.new,rfl,?_,nS qI,λi=>if i<l.length then f i else g (i-l.length),λi hi => ?_⟩⟩
  ·rw[lF,List.length_append]; exact Nat.mul_le_mul_right _ hC
  ·obtain⟨q1,q2⟩:=tM I7 ES zs.toList i hi
   refine⟨q1.mono hex.same,λj v hj => ?_⟩
   grind
 ·refine .ms _ (l.length+ys.length) e 0 _ C _ (.inr ⟨l.length+ys.length,e,_,fg,Nat.le_refl _⟩) hC nofun (λp hp=>by cases hp; rfl) λxs Zo => ?_
  rw[fg]at Zo
  cases Zo
  exact⟨by simp,.inr ⟨κ.w.heap.size,cells.size,0,C,cf hI,rfl,hC,by rw[lF]; simp,.inr (by simp)⟩⟩
theorem Jr{t t2 et:Nat}{e:Ty}{ys:List (den e)}{p:Addr}{v:Value}{bytes:Nat}{ty:Nat}(hI:Inv κ)(hu:c.P.underlying t=some (.slice et))(G3:BI c t2)(qI:vU c et e=true)(vb:0<e.size)(XY:cv c et=some bytes)(hz:∃ y,zeroOf c et e=some y)
  (hv:RS κ e ys v) (ui:ys≠[]) (hb:ys.length*bytes<=140737488355328) (hn:ys.length<=9223372036854775807) :
  ∃ (κ':KS) (r:Value),(Builtin.append_ #[t,t2] ty #[.slice (some p) 0 0,v]).run c.P κ.w=.ok r κ'.w/\κ'.st=κ.st/\Inv κ'/\Ext κ κ'/\RD κ' (.bu e ys true) r:=by
 obtain⟨NS,_⟩:=xh qI
 obtain⟨i,W8,rF⟩:=y8 NS
 obtain⟨y,hy⟩:=hz
 obtain⟨i',zv,g1,g2,g3⟩:=jK (κ:=κ) hy
 obtain⟨i'',k1,k2⟩:=bV XY
 rw[W8]at g1 k1
 cases g1
 cases k1
 obtain⟨news,g,By,ES,LR,Sc,S8⟩:=hv.ex
 have nU:0<ys.length:=List.length_pos_iff.2 ui
 have xg:=gV (c:=c) (κ:=κ) (t:=t) (t2:=t2) (e:=et) (ty:=ty) (base:=some p) (sLen:=0) (sCap:=0) (n:=ys.length) (x:=v) (news:=news) (olds:=[]) hu G3 W8 g2 LR
  (by intro P; rw[rF]; exact S8 P) (by intro P; obtain⟨_,_,e1,_,_,_,e5⟩:=iO (κ:=κ) (e:=e) (ys:=[]) (v:=.slice (some p) 0 0) (Wg (.zj (.sl e) [] _ (.kR e (some p)))) vb; rw[rF]; have:=e5 P; rw[e1]at this; exact this) (by omega) (by omega) (by rw[k2,Nat.zero_add]; exact hb)
 rw[Nat.zero_add]at xg
 let C:=grownCap κ.w ys.length 0 et
 have hC:ys.length<=C:=grownCap_ge _ _ _ _
 let zs:=Builtin.zeroCells zv.cells (C-ys.length)
 let cells:=([]:List Value).toArray++news.toArray++zs
 have gr:=ym.drew κ.w (.cells cells et)
 have hex:=iL hI gr
 have WX:Rc (κ.zj (κ.w.drew.alloc (.cells cells et))).w (κ.zj (κ.w.drew.alloc (.cells cells et))).ok (.sl e) ys [.slice (some ⟨κ.w.heap.size,0,none⟩) ys.length C]:=by
  refine .sl e ys κ.w.heap.size 0 C g (.inr rfl) hC (λi hi=>(ES i hi).mono hex.same) λi hi j u hu => ?_
  have R7:∀ i,i<ys.length->(g i).length=e.size:=λi hi=>(ES i hi).len
  have hj:j<e.size:=by rw[<- R7 i hi]; exact(List.getElem?_eq_some_iff.1 hu).1
  have M0:news.length=ys.length*e.size:=by rw[By]; exact wu R7
  have hle:i*e.size+e.size<=ys.length*e.size:=by rw[<- Nat.succ_mul]; exact Nat.mul_le_mul_right _ hi
  have BX:news[i*e.size+j]? = some u:=by rw[By,cD R7 i j hi hj]; exact hu
  have jr:cells[i*e.size+j]? = some u:=by
   show(([]:List Value).toArray++news.toArray++zs)[i*e.size+j]? = some u
   rw[Array.getElem?_append_left (by simp; omega)]
   simpa using BX
  have Q9:(κ.zj (κ.w.drew.alloc (.cells cells et))).w.heap[κ.w.heap.size]? = some (.cells cells et (0,0)):=gr.new
  simp only[World.cell?,Nat.zero_add,Q9]
  simpa using jr
 refine⟨κ.zj _,_,xg,rfl,uR hI gr,hex,.bu e ys true _ WX (λ_=>⟨_,_,_,rfl,λe=>absurd e ui⟩) nofun⟩
def KS.re(κ:KS)(w':World)(b n:Nat)(x:vX):KS:={ κ with w:=w',ph:=κ.ph.set b (some (κ.w.heap.size,n)),st:=κ.st.set b x }
theorem JS{w':World}{o:Obj}{b n v0 v1:Nat}{e:Ty}{xs ys:List (den e)}(hI:Inv κ)(g:ym κ.w w' o)(hb:κ.st[b]? = some (.arr v0 e xs))(hv:v0<v1):Ext κ (κ.re w' b n (.arr v1 e ys)):=by
 refine⟨g.os,g.tape,g.output,by show κ.w.heap.size<=w'.heap.size; rw[g.size]; omega,λk hk=>⟨hk,g.old (hI.ux k hk)⟩,λk hk=>.inl hk,?_,?_,?_,?_,by simp[KS.re],λk hk _=>g.old hk⟩
 ·intro b' blk m h
  simp only[KS.re]at h
  grind
 ·intro b' d hd
  have ui:b≠b':=λe=>by subst e; rw[hb]at hd; cases hd
  simp only[KS.re]
  grind
 ·intro b' u0 e' zs hd
  simp only[KS.re]
  grind
 ·intro b' hd
  have ui:b≠b':=λe=>by subst e; rw[hb]at hd; cases hd
  simp only[KS.re,List.getElem?_set,if_neg ui]
  exact hd
theorem Rp{w':World}{o:Obj}{b n v0 v1:Nat}{e:Ty}{xs ys:List (den e)}(hI:Inv κ)(g:ym κ.w w' o)(hb:κ.st[b]? = some (.arr v0 e xs))(hv:v0<v1)
  (hx:gX (κ.re w' b n (.arr v1 e ys)) b (.arr v1 e ys)):Inv (κ.re w' b n (.arr v1 e ys)):=by
 have hold:∀ (b' blk m:Nat),(κ.ph.set b (some (κ.w.heap.size,n)))[b']? = some (some (blk,m))->(b≠b'/\κ.ph[b']? = some (some (blk,m)))\/(b=b'/\blk=κ.w.heap.size):=by
  grind
 refine⟨by simp[KS.re,hI.len],?_,?_,?_,?_,hI.gl.mono (JS (n:=n) (ys:=ys) hI g hb hv).same⟩
 ·intro k hk; have:=hI.ux k hk; show k<w'.heap.size; rw[g.size]; omega
 ·intro b' blk m h
  rcases hold b' blk m h with⟨_,h⟩ | ⟨rfl,rfl⟩
  ·obtain⟨h1,h2⟩:=hI.apart b' blk m h
   exact⟨by show blk<w'.heap.size; rw[g.size]; omega,h2⟩
  ·exact⟨by show κ.w.heap.size<w'.heap.size; rw[g.size]; omega,λhk=>absurd (hI.ux _ hk) (Nat.lt_irrefl _)⟩
 ·intro b1 b2 blk m m' h h'
  rcases hold b1 blk m h with⟨_,h⟩ | ⟨rfl,rfl⟩<;>rcases hold b2 _ m' h' with⟨_,h'⟩ | ⟨rfl,h''⟩
  ·exact hI.inj b1 b2 blk m m' h h'
  ·have:=(hI.apart b1 blk m h).1; omega
  ·have:=(hI.apart b2 _ m' h').1; omega
  ·rfl
 ·intro b' y hy
  simp only[KS.re,List.getElem?_set]at hy
  split at hy
  ·grind
  ·rename_i e1
   refine(hI.blk b' y hy).mono (JS hI g hb hv) ?_ λblk m h=>g.old (hI.apart b' blk m h).1
   simp only[KS.re,List.getElem?_set,if_neg e1]
theorem tr{α:Type}{l:List α}{i:Nat}{a:α}(h:l[i]? = some a):l.set i a=l:=by
 apply List.ext_getElem?
 grind
theorem B0{t t2 et b q7 len:Nat}{e:Ty}{xs ys:List (den e)}{sv v:Value}{bytes:Nat}{ty:Nat}(hI:Inv κ)(hu:c.P.underlying t=some (.slice et))(G3:BI c t2)(qI:vU c et e=true)(vb:0<e.size)(XY:cv c et=some bytes)
  (hz:∃ y,zeroOf c et e=some y) (hs:RD κ (.ms b q7 e 0 len) sv) (hb:κ.st[b]? = some (.arr q7 e xs)) (hlen:len=xs.length) (hv:RS κ e ys v) (Jm:(xs.length+ys.length)*bytes<=140737488355328)
  (hn:xs.length+ys.length<=9223372036854775807) :
  ∃ (κ':KS) (r:Value),(Builtin.append_ #[t,t2] ty #[sv,v]).run c.P κ.w=.ok r κ'.w/\κ'.st=κ.st.set b (.arr (q7+ys.length) e (xs++ys))/\Inv κ'/\Ext κ κ'/\RD κ' (.ms b (q7+ys.length) e 0 (len+ys.length)) r:=by
 subst hlen
 have qc:b<κ.st.length:=(List.getElem?_eq_some_iff.1 hb).1
 have Qb:b<κ.ph.length:=by rw[hI.len]; exact qc
 obtain⟨NS,_⟩:=xh qI
 obtain⟨i,W8,rF⟩:=y8 NS
 obtain⟨y,hy⟩:=hz
 obtain⟨i',zv,g1,g2,g3⟩:=jK (κ:=κ) hy
 obtain⟨i'',k1,k2⟩:=bV XY
 rw[W8]at g1 k1
 cases g1
 cases k1
 have WB:=(Jp hI hs hb).1
 simp only[Nat.zero_add,List.take_length,List.drop_zero]at WB
 obtain⟨olds,f,C4,I7,ho3,ho4,ho5⟩:=iO WB vb
 obtain⟨news,g,By,ES,LR,Sc,S8⟩:=hv.ex
 have hol:olds.length=xs.length*e.size:=by rw[C4]; exact wu λi hi=>(I7 i hi).len
 have M0:news.length=ys.length*e.size:=by rw[By]; exact wu λi hi=>(ES i hi).len
 have XA:∀ u∈news,u.oneCell'=true:=by rw[By]; exact Xc λi hi=>(ES i hi).one
 cases hs with
 | ms _ _ _ _ _ cap a hold qR ha mX hm =>
  obtain⟨hle,hm⟩:=hm xs hb
  by_cases eE:xs.length+ys.length<=cap
  ·-- there is room
   rcases hm with⟨h1,_,Oj,hp⟩ | ⟨blk,n,o,rH,h3,h4,h5,h6,h7⟩
   ·simp only[Value.slice.injEq]at Oj
    obtain⟨rfl,Ok,rfl⟩:=Oj
    have WW:xs=[]:=List.eq_nil_of_length_eq_zero h1
    have Sq:ys=[]:=List.eq_nil_of_length_eq_zero (by omega)
    subst WW Sq
    refine⟨κ,.slice none 0 0,?_,?_,hI,Ext.refl κ,.ms b q7 e 0 0 0 none hold (Nat.le_refl _) (λ_=>rfl) nofun λzs N7 => ?_⟩
    ·have BZ:news=[]:=List.eq_nil_of_length_eq_zero (by simpa using M0)
     subst BZ
     exact run_append_fits (c:=c) (κ:=κ) (t:=t) (t2:=t2) (e:=et) (ty:=ty) (base:=none) (sLen:=0) (sCap:=0) (n:=0) (x:=v) (news:=[]) hu G3 W8 LR (by intro P; rw[rF]; exact Sc P) (by omega) rfl
    ·simp only[List.length_nil,Nat.add_zero,List.append_nil]
     rw[tr hb]
    ·grind
   ·cases h4
    obtain⟨_,⟨Zn,hpn⟩ | ⟨b6,n',cs,T,p1,p2,p3,p4,pr,F,p5⟩⟩:=hI.blk b _ hb
    ·grind
    ·rw[h3]at p1
     cases p1
     have ho:xs.length+ys.length=0\/o=0:=by
      grind
     have z4f:cap*e.size<=cs.size:=by rw[p3]; simpa using h6
     have z5Z:xs.length*e.size+ys.length*e.size<=cs.size:=by
      rw[<- Nat.add_mul]; exact Nat.le_trans (Nat.mul_le_mul_right _ eE) z4f
     let ye:=(cs.toList.take (xs.length*e.size)++news++cs.toList.drop (xs.length*e.size+news.length)).toArray
     have sd:cs.toList.length=cs.size:=by simp
     have Q4:ye.size=cs.size:=by simp only[ye,List.size_toArray,List.length_append,List.length_take,List.length_drop,M0,sd]; omega
     have hoa:∀ m,(⟨blk,o,none⟩:Addr).add (xs.length*e.size)=⟨blk,xs.length*e.size,none⟩\/m=0\/xs.length+ys.length=0:=by
      intro m
      rcases ho with h | h
      ·grind
      ·subst h; rw[addr_add,Nat.zero_add]; exact .inl rfl
     have qQ:(storeCells ((⟨blk,o,none⟩:Addr).add (xs.length*i.size)) news).run c.P κ.w=.ok () (κ.w.setRow blk ye):=by
      rw[rF]
      rcases hoa 1 with h | h | h
      ·rw[h]
       have:=run_storeCells_at c.P blk (xs.length*e.size) T news 0 cs κ.w p2 (by rw[M0]; omega) XA
       simpa only[Nat.add_zero]using this
      ·cases h
      ·have BZ:news=[]:=List.eq_nil_of_length_eq_zero (by rw[M0,show ys.length=0 by omega]; simp)
       have WW:xs.length=0:=by omega
       have TM:ye=cs:=by simp[ye,BZ,WW]
       rw[BZ,TM,setRow_self _ _ _ _ _ p2]
       rfl
     have V0:Alike (.arr q7 e xs) (.arr (q7+ys.length) e (xs++ys)):=⟨rfl,by omega,λh=>by rw[List.length_append]; omega⟩
     have hex:=mU (cs:=ye) (x:=.arr (q7+ys.length) e (xs++ys)) hI h3 hb V0
     refine⟨κ.I3 b blk ye (.arr (q7+ys.length) e (xs++ys)),.slice (some ⟨blk,o,none⟩) (xs.length+ys.length) cap,?_,rfl,nB hI h3 hb V0 ?_,hex,?_⟩
     ·exact run_append_fits (c:=c) (κ:=κ) (t:=t) (t2:=t2) (e:=et) (ty:=ty) (base:=some ⟨blk,o,none⟩) (sLen:=xs.length) (sCap:=cap) (n:=ys.length) (x:=v) (news:=news) hu G3 W8 LR (by intro P; rw[rF]; exact Sc P) eE qQ
     ·refine⟨vb,.inr ⟨blk,n,ye,T,h3,setRow_heap _ _ _ _ _ _ p2,by rw[Q4]; exact p3,?_,pr,λi=>if i<xs.length then F i else g (i-xs.length),λi hi => ?_⟩⟩
      ·rw[List.length_append]; exact Nat.le_trans (Nat.mul_le_mul_right _ eE) (by simpa using h6)
      ·have hF:∀ i (hi:i<xs.length),Rc κ.w κ.ok e xs[i] (F i):=λi hi=>(p5 i hi).1
       have Ot:∀ i,i<xs.length->(F i).length=e.size:=λi hi=>(hF i hi).len
       have QF:cs.toList.take (xs.length*e.size)=j2 F xs.length:=by
        apply List.ext_getElem?
        intro p
        rw[List.getElem?_take]
        have pO:=wu Ot
        split
        ·rename_i hp
         obtain⟨q,hq⟩:∃ q,(j2 F xs.length)[p]? = some q:=⟨_,List.getElem?_eq_getElem (by rw[pO]; exact hp)⟩
         obtain⟨i',j',a1,a2,a3,a4⟩:=UK vb Ot hq
         rw[hq]
         have:=(p5 i' a1).2 j' q a4
         rw[a3,Array.getElem?_toList]; exact this
        ·rename_i hp
         rw[List.getElem?_eq_none (by rw[pO]; omega)]
       obtain⟨q1,q2⟩:=tM hF ES (cs.toList.drop (xs.length*e.size+news.length)) i hi
       refine⟨q1.mono hex.same,λj w hj => ?_⟩
       have:=q2 j w hj
       rw[<- By,<- QF]at this
       simpa only[ye,List.getElem?_toArray]using this
     ·refine .ms b _ e 0 _ cap _ (.inr ⟨q7+ys.length,e,xs++ys,by simp[KS.I3,KS.lQ,qc],Nat.le_refl _⟩) eE nofun (λp hp=>by cases hp; rfl) λzs N7 => ?_
      have:zs=xs++ys:=by simp only[KS.I3,KS.lQ,List.getElem?_set_self qc]at N7; cases N7; rfl
      subst this
      refine⟨by simp,.inr ⟨blk,n,o,cap,h3,rfl,eE,by simpa using h6,?_⟩⟩
      rcases h7 with h7 | h7
      ·exact .inl h7
      ·exact .inr (by simpa using h7)
  ·-- it grows
   have nU:0<ys.length:=by omega
   have xg:=gV (c:=c) (κ:=κ) (t:=t) (t2:=t2) (e:=et) (ty:=ty) (base:=a) (sLen:=xs.length) (sCap:=cap) (n:=ys.length) (x:=v) (news:=news) (olds:=olds) hu G3 W8 g2 LR
    (by intro P; rw[rF]; exact S8 P) (by intro P; rw[rF]; exact ho5 P) (by omega) (by omega) (by rw[k2]; exact Jm)
   let C:=grownCap κ.w (xs.length+ys.length) cap et
   have hC:xs.length+ys.length<=C:=grownCap_ge _ _ _ _
   let zs:=Builtin.zeroCells zv.cells (C-(xs.length+ys.length))
   let cells:=olds.toArray++news.toArray++zs
   have N7:zs.size=(C-(xs.length+ys.length))*e.size:=by have:=g3.len; simp only[Array.length_toList]at this; simp[zs,fc,this]
   have lF:cells.size=C*e.size:=by
    simp only[cells,Array.size_append,List.size_toArray,hol,M0,N7,<- Nat.add_mul]
    congr 1; omega
   have gr:=ym.drew κ.w (.cells cells et)
   have Me:q7<q7+ys.length:=by omega
   have hex:=JS (n:=cells.size) (ys:=xs++ys) hI gr hb Me
   refine⟨κ.re _ b cells.size (.arr (q7+ys.length) e (xs++ys)),_,xg,rfl,Rp hI gr hb Me ?_,hex,?_⟩
   ·refine⟨vb,.inr ⟨κ.w.heap.size,cells.size,cells,et,by simp[KS.re,Qb],gr.new,rfl,?_,nS qI,λi=>if i<xs.length then f i else g (i-xs.length),λi hi => ?_⟩⟩
    ·rw[lF,List.length_append]; exact Nat.mul_le_mul_right _ hC
    ·obtain⟨q1,q2⟩:=tM I7 ES zs.toList i hi
     refine⟨q1.mono hex.same,λj v hj => ?_⟩
     have:=q2 j v hj
     rw[<- C4,<- By]at this
     rw[<- Array.getElem?_toList]
     simpa[cells]using this
   ·refine .ms b _ e 0 _ C _ (.inr ⟨q7+ys.length,e,xs++ys,by simp[KS.re,qc],Nat.le_refl _⟩) hC nofun (λp hp=>by cases hp; rfl) λus O3 => ?_
    have:us=xs++ys:=by simp only[KS.re,List.getElem?_set_self qc]at O3; cases O3; rfl
    subst this
    exact⟨by simp,.inr ⟨κ.w.heap.size,cells.size,0,C,by simp[KS.re,Qb],rfl,hC,by rw[lF]; simp,.inr (by simp)⟩⟩
end
end Go.AM
namespace Go.AM
set_option linter.unusedSectionVars false
variable [we]
section
variable {c:Ctx} {κ:KS}
theorem mg{x y:D}{v:Value}(hI:Inv κ)(hx:RD κ x v)(h:(ef κ.st x).leads y):(y=x/\∀ b q7 e off len,x≠.ms b q7 e off len)\/∃ (e:Ty) (ys:List (den e)),y=.zj (.sl e) ys/\Src κ e ys v/\∃ b q7 off len,x=.ms b q7 e off len:=by
 cases x with
 | ms b q7 e off len =>
  simp only[ef]at h
  split at h
  ·rename_i uF e' xs hb
   split at h
   ·rename_i he
    subst he
    obtain⟨rfl,h⟩:=h
    refine .inr ⟨e',_,h.symm,(Jp hI hx hb).1,b,q7,off,len,rfl⟩
   ·exact h.elim
  ·exact h.elim
 | _=>exact .inl ⟨h.symm,λ_ _ _ _ _=>nofun⟩
theorem lH{t t2 et:Nat}{e:Ty}{s:D}{ys:List (den e)}{ne:Bool}{sv v:Value}{bytes ty:Nat}{d:Option D}{zg:St}(hI:Inv κ)(hu:c.P.underlying t=some (.slice et))(G3:BI c t2)(qI:vU c et e=true)(vb:0<e.size)
  (XY:cv c et=some bytes) (BY:0<bytes) (hz:∃ y,zeroOf c et e=some y) (hs:RD κ s sv) (hv:RS κ e ys v) (ui:ne=true->ys≠[])
  (h:(uv e s ys ne bytes κ.st).leads (d,zg)) :
  ∃ (κ':KS) (r:Value),(Builtin.append_ #[t,t2] ty #[sv,v]).run c.P κ.w=.ok r κ'.w/\κ'.st=zg/\Inv κ'/\Ext κ κ'/\∀ d',d=some d'->RD κ' d' r:=by
 have hlen:∀ n,n*bytes<=140737488355328->n<=9223372036854775807:=λn hn=>Nat.le_trans (Nat.le_mul_of_pos_right n BY) (Nat.le_trans hn (by decide))
 -- nothing is appended
 have same:∀ (a:Option Addr) (n cap:Nat),sv=.slice a n cap->n<=cap->ys=[]->d=some s->zg=κ.st ->
   ∃ (κ':KS) (r:Value),(Builtin.append_ #[t,t2] ty #[sv,v]).run c.P κ.w=.ok r κ'.w/\κ'.st=zg/\Inv κ'/\Ext κ κ'/\∀ d',d=some d'->RD κ' d' r:=by
  rintro a n cap rfl qR rfl rfl rfl
  obtain⟨NS,_⟩:=xh qI
  obtain⟨i,W8,rF⟩:=y8 NS
  obtain⟨news,g,By,ES,LR,Sc,S8⟩:=hv.ex
  have BZ:news=[]:=By
  subst BZ
  refine⟨κ,.slice a n cap,?_,rfl,hI,Ext.refl κ,λd' he=>by cases he; exact hs⟩
  have:=run_append_fits (c:=c) (κ:=κ) (t:=t) (t2:=t2) (e:=et) (ty:=ty) (base:=a) (sLen:=n) (sCap:=cap) (n:=0) (x:=v) (news:=[]) (i:=i) hu G3 W8 LR (by intro P; rw[rF]; exact Sc P) (by omega) (w':=κ.w) (by cases a<;>rfl)
  grind
 have new:∀ l:List (den e),Src κ e l sv->(∃ a,sv=.slice a l.length l.length)->ys≠[]->(cS e l ys bytes κ.st).leads (d,zg) ->
   ∃ (κ':KS) (r:Value),(Builtin.append_ #[t,t2] ty #[sv,v]).run c.P κ.w=.ok r κ'.w/\κ'.st=zg/\Inv κ'/\Ext κ κ'/\∀ d',d=some d'->RD κ' d' r:=by
  intro l hl qR ui h
  obtain⟨hb,h⟩:=h
  cases h
  obtain⟨κ',r,h1,h2,h3,h4,h5⟩:=UT (ty:=ty) hI hu G3 qI vb XY hz hl qR hv ui hb (hlen _ hb)
  grind
 unfold uv at h
 split at h
 ·have Ll:sv=.slice none 0 0:=by cases hs; rfl
  cases hn:ne with
  | true=>rw[hn,cond_true]at h; exact new [] (s6 hs) ⟨none,Ll⟩ (ui hn) h
  | false =>
   rw[hn,cond_false]at h
   rcases h with⟨hy,h⟩ | ⟨hy,h⟩
   ·cases h; exact same none 0 0 Ll (Nat.le_refl _) (List.isEmpty_iff.1 hy) rfl rfl
   ·exact new [] (s6 hs) ⟨none,Ll⟩ (λe=>by rw[e]at hy; cases hy) h
 ·rename_i e' l ne'
  split at h
  ·rename_i l' Kz
   obtain⟨he,CP⟩:=zI Kz
   cases he
   simp only at CP
   subst CP
   have Ll:∃ a,sv=.slice a l'.length l'.length:=by
    cases hs with
    | qm=>simp
    | tight=>simp
   cases hn:ne with
   | true=>rw[hn,cond_true]at h; exact new l' (iY hs) Ll (ui hn) h
   | false =>
    rw[hn,cond_false]at h
    rcases h with⟨hy,h⟩ | ⟨hy,h⟩
    ·cases h
     obtain⟨a,ha⟩:=Ll
     exact same a _ _ ha (Nat.le_refl _) (List.isEmpty_iff.1 hy) rfl rfl
    ·exact new l' (iY hs) Ll (λe=>by rw[e]at hy; cases hy) h
  ·exact h.elim
 ·rename_i e' l b
  split at h
  ·rename_i Kz
   obtain⟨he,CP⟩:=zI Kz
   cases he
   simp only at CP
   subst CP
   cases hb:b with
   | false=>rw[hb]at h; exact h.elim
   | true =>
    rw[hb,cond_true]at h
    subst hb
    obtain⟨Jm,h⟩:=h
    cases h
    cases hs with
    | bu _ _ _ _ hr ht hf =>
     obtain⟨blk,off,cap,rfl,hc⟩:=ht rfl
     have:=hc rfl
     subst this
     by_cases hy:ys=[]
     ·subst hy
      exact same (some ⟨blk,off,none⟩) 0 0 rfl (Nat.le_refl _) rfl rfl rfl
     ·obtain⟨κ',r,h1,h2,h3,h4,h5⟩:=Jr (ty:=ty) (p:=⟨blk,off,none⟩) hI hu G3 qI vb XY hz hv hy Jm (hlen _ Jm)
      exact⟨κ',r,h1,h2,h3,h4,λd' he=>by cases he; exact h5⟩
  ·exact h.elim
 ·rename_i b q7 e' off len
  split at h
  ·rename_i uF e'' xs hb
   split at h
   ·rename_i xs' CQ
    obtain⟨he,z0e⟩:=zI CQ
    cases he
    simp only at z0e
    subst z0e
    cases S1:decide (e'=_)with
    | false=>rw[S1]at h; exact h.elim
    | true =>
     rw[S1,cond_true]at h
     have:=of_decide_eq_true S1
     subst this
     obtain⟨⟨rfl,rfl,hl,Jm⟩,h⟩:=h
     cases h
     obtain⟨κ',r,h1,h2,h3,h4,h5⟩:=B0 (ty:=ty) hI hu G3 qI vb XY hz hs hb hl hv Jm (hlen _ Jm)
     exact⟨κ',r,h1,h2,h3,h4,λd' he=>by cases he; exact h5⟩
   ·exact h.elim
  ·exact h.elim
 ·exact h.elim
theorem Vp{t ty:Nat}{s x:Option D}{sv v:Value}{d:Option D}{zg:St}(hI:Inv κ)(hs:∀ z,s=some z->RD κ z sv)(hx:∀ z,x=some z->RD κ z v)
  (h:(zk (mS c t s x) κ.st).leads (d,zg)):zL c.P (do Pure.pure (.value (<- Builtin.append_ #[t,t] ty #[sv,v]))) κ d zg:=by
 unfold mS at h
 split at h
 ·exact absurd h z7
 ·rename_i et het
  have hu:=xZ het
  split at h
  ·rename_i e bytes Y3 XY
   cases hb:vU c et e&&Nat.blt 0 e.size&&Nat.blt 0 bytes&&(zeroOf c et e).isSome with
   | false=>rw[hb]at h; exact absurd h z7
   | true =>
    rw[hb,cond_true]at h
    simp only[Bool.and_eq_true]at hb
    obtain⟨⟨⟨qI,h1⟩,h2⟩,h3⟩:=hb
    have vb:0<e.size:=Nat.le_of_ble_eq_true h1
    have BY:0<bytes:=Nat.le_of_ble_eq_true h2
    have hz:=Option.isSome_iff_exists.1 h3
    split at h
    ·rename_i s x
     simp only[zk,T.zq]at h
     obtain⟨y,hy,h⟩:=h
     have fin:∀ (ys:List (den e)) (ne:Bool),Src κ e ys v->(ne=true->ys≠[])->(uv e s ys ne bytes κ.st).leads (d,zg)->zL c.P (do Pure.pure (.value (<- Builtin.append_ #[t,t] ty #[sv,v]))) κ d zg:=by
      intro ys ne hv ui h
      obtain⟨κ',r,g1,g2,g3,g4,g5⟩:=lH (t2:=t) (ty:=ty) hI hu (.inl ⟨et,hu⟩) qI vb XY BY hz (hs _ rfl) (LV hv vb) ui h
      exact⟨κ',.value r,r,by simp only[Sem.run_bind,g1,Result.andThen_ok]; rfl,.inl rfl,g2,g3,g4,g5⟩
     have hxv:=hx _ rfl
     rcases mg hI hxv hy with⟨rfl,RZ⟩ | ⟨e',ys,rfl,WB,_⟩
     ·split at h
      ·rename_i σ z
       split at h
       ·rename_i ys hys
        obtain⟨he,hz'⟩:=zI hys
        cases he
        subst hz'
        exact fin _ false (Wg hxv) nofun h
       ·exact h.elim
      ·rename_i σ z ne
       split at h
       ·rename_i ys hys
        obtain⟨he,hz'⟩:=zI hys
        cases he
        subst hz'
        refine fin _ ne (iY hxv) (λui => ?_) h
        cases hxv with
        | qm=>cases ui
        | tight _ _ _ _ _ _ q=>exact q ui
       ·exact h.elim
      ·exact fin [] false (s6 hxv) nofun h
      ·exact h.elim
     ·simp only at h
      split at h
      ·rename_i ys' hys
       obtain⟨he,hz'⟩:=zI hys
       grind
      ·exact h.elim
    ·exact absurd h z7
  ·exact absurd h z7
theorem MC{l:zh}{v:Value}(h:RD κ (.zj .str l) v):RS κ (.int .u8) (bytesOf l) v:=by
 have hv:=h.qO
 subst hv
 have hl:(bytesOf l).length=l.length:=by simp[bytesOf]
 have vb:(⟨l.toArray⟩:ByteArray).size=l.length:=List.size_toArray
 refine⟨Lib.strCells ⟨l.toArray⟩,λi=>[.int .u8 ((bytesOf l)[i]?.getD 0)],?_,λi hi => ?_,λP => ?_,λP => ?_,λP => ?_⟩
 ·have gen:∀ (n:Nat),n<=l.length->j2 (λi=>[Value.int .u8 ((bytesOf l)[i]?.getD 0)]) n=(l.take n).map λb=>Value.int .u8 b.toNat:=by
   intro n
   induction n with
   | zero=>intro _; rfl
   | succ n ih =>
    intro hn
    have qc:n<l.length:=hn
    rw[j2,ih (by omega),List.take_succ_eq_append_getElem qc,List.map_append]
    simp[bytesOf,List.getElem?_eq_getElem qc]
  rw[hl,gen _ (Nat.le_refl _),List.take_length]
  rfl
 ·have:(bytesOf l)[i]?.getD 0=(bytesOf l)[i]:=by rw[List.getElem?_eq_getElem hi]; rfl
  show Rc κ.w κ.ok (.int .u8) (bytesOf l)[i] [Value.int .u8 ((bytesOf l)[i]?.getD 0)]
  rw[this]
  exact .int .u8 _
 ·show(pure (⟨l.toArray⟩:ByteArray).size:Sem Nat).run P κ.w=_
  rw[vb,hl]; rfl
 ·rw[hl,<- vb]; exact Lib.run_firstCells_string _ _ _
 ·rw[hl,<- vb]; exact Lib.run_firstCells_string _ _ _
theorem tW{t t2 ty:Nat}{s x:Option D}{sv v:Value}{d:Option D}{zg:St}(hI:Inv κ)(hs:∀ z,s=some z->RD κ z sv)(hx:∀ z,x=some z->RD κ z v)
  (h:(zk (l7 c t t2 s x) κ.st).leads (d,zg)):zL c.P (do Pure.pure (.value (<- Builtin.append_ #[t,t2] ty #[sv,v]))) κ d zg:=by
 unfold l7 at h
 split at h
 ·exact absurd h z7
 ·rename_i et het
  have hu:=xZ het
  split at h
  ·rename_i bytes Y3 XY G3
   cases hb:vU c et (.int .u8)&&Nat.blt 0 bytes&&(zeroOf c et (.int .u8)).isSome with
   | false=>rw[hb]at h; exact absurd h z7
   | true =>
    rw[hb,cond_true]at h
    simp only[Bool.and_eq_true]at hb
    obtain⟨⟨qI,h2⟩,h3⟩:=hb
    have BY:0<bytes:=Nat.le_of_ble_eq_true h2
    have hz:=Option.isSome_iff_exists.1 h3
    split at h
    ·rename_i s l
     obtain⟨κ',r,g1,g2,g3,g4,g5⟩:=lH (t2:=t2) (ty:=ty) hI hu (.inr G3) qI (by decide) XY BY hz (hs _ rfl) (ne:=false) (MC (hx _ rfl)) (λe=>by cases e) h
     exact⟨κ',.value r,r,by simp only[Sem.run_bind,g1]; rfl,.inl rfl,g2,g3,g4,g5⟩
    ·exact absurd h z7
  ·exact absurd h z7
end
end Go.AM
namespace Go.AM
set_option linter.unusedSectionVars false
variable [we]
open Go.RowKit
section
variable {c:Ctx} {κ:KS}
theorem ow{t:Nat}(h:VL c t=true):∃ k e,c.P.underlying t=some (.map k e)/\c.P.underlying k=some (.int .i64)/\c.P.underlying e=some .bool/\∀ w,(zeroValue e).run c.P w=.ok (.bool false) w:=by
 unfold VL at h
 split at h
 ·rename_i k e ht
  simp only[Bool.and_eq_true]at h
  obtain⟨⟨h1,h2⟩,h3⟩:=h
  refine⟨k,e,ht,?_,?_,λw => ?_⟩
  ·split at h1
   ·rename_i q hq; cases q<;>first | exact hq | cases h1
   ·cases h1
  ·split at h2
   ·assumption
   ·cases h2
  ·split at h3
   ·rename_i i hi
    split at h3
    ·rename_i z hz
     cases z
     ·simp[zeroValue,typeInfo,run_program,hi,hz]
     ·cases h3
    ·cases h3
   ·cases h3
 ·cases h
theorem keyOf_int{P P':Program}{k k':TypeId}(h:P.underlying k=some (.int .i64))(h':P'.underlying k'=some (.int .i64)):keyOf P k=keyOf P' k':=by
 funext v
 simp only[keyOf,h,h',mapKey]
theorem Bz{P P':Program}{e e':TypeId}(h:P.underlying e=some .bool)(h':P'.underlying e'=some .bool):(plainElem P e:Value->Option (DataW Unit×List MemPlace))=plainElem P' e':=by
 funext v
 simp only[plainElem,h,h']
theorem BB{P P':Program}{k k' e e':TypeId}(h:P.underlying k=some (.int .i64))(h':P'.underlying k'=some (.int .i64))(he:P.underlying e=some .bool)(JJ:P'.underlying e'=some .bool)
  {w w':World} {b b' n:Nat} {D:DataW Unit} (ho:w.ownsMap P k (plainElem P e) b n D) (hw:w'.heap[b']? = w.heap[b]?):w'.ownsMap P' k' (plainElem P' e') b' n D:=by
 obtain⟨es,clock,h1,h2,h3,h4⟩:=ho
 have e1:(WideElems.rd P k (plainElem P e):MapEntry->Option (Lit×DataW Unit))=WideElems.rd P' k' (plainElem P' e'):=by
  funext x; simp only[WideElems.rd,keyOf_int h h',Bz he JJ]
 have e2:(WideElems.rg P k (plainElem P e):MapEntry->Lit×DataW Unit)=WideElems.rg P' k' (plainElem P' e'):=by
  funext x; simp only[WideElems.rg,e1]
 refine⟨es,clock,hw.trans h1,⟨h2.size,h2.stamped,λx hx => ?_⟩,h3,by rw[<- e2]; exact h4⟩
 rw[<- e1]; exact h2.reads x hx
theorem QW{P:Program}{k e:TypeId}(h:P.underlying k=some (.int .i64))(he:P.underlying e=some .bool){w:World}{b:Nat}{o:Obj}{l:List Int}{D:DataW Unit}(hb:w.heap[b]? = some o)
  (ho:w.ownsMap P k (plainElem P e) b l.length D) (hD:Maps.IsMap D) (hr:∀ n,(Lit.int .i64 n).wf=true->D.atKey (.int .i64 n) (.lit (.bool false))=.lit (.bool (l.contains n))):FX o l :=
 λ_ _ _ h' JJ _ _ hw'=>⟨D,BB h h' he JJ ho (hw'.trans hb.symm),hD,hr⟩
theorem IY{P:Program}{e:TypeId}(he:P.underlying e=some .bool){v:Value}{b:Bool}{ps:List MemPlace}(h:plainElem (H:=Unit) P e v=some (.lit (.bool b),ps)):v=.bool b:=by
 unfold plainElem at h
 rw[he]at h
 cases v<;>simp at h
 exact congrArg _ h.1
theorem Wh{t:Nat}{r:Option Operand}{f:Operand->Value}{d:Option D}{zg:St}(hI:Inv κ)(h:(zk (oc c t r) κ.st).leads (d,zg)) :
  zL c.P (do Pure.pure (.value (<- Instr.makeMap t (r.map f)))) κ d zg:=by
 unfold oc at h
 cases hb:VL c t&&r.isNone with
 | false=>rw[hb]at h; exact absurd h z7
 | true =>
  rw[hb,cond_true]at h
  simp only[Bool.and_eq_true]at hb
  obtain⟨h1,h2⟩:=hb
  cases r with
  | some r=>cases h2
  | none =>
  obtain⟨rfl,rfl⟩:=h
  obtain⟨k,e,ht,hk,he,_⟩:=ow h1
  have g:=ym.alloc κ.w (.map #[] 0)
  have hx:=dN (n:=0) (x:=.var (.QZ [])) hI g
  refine⟨κ.add _ 0 (.var (.QZ [])),.value (.map (some κ.w.heap.size)),_,?_,.inl rfl,rfl,nN hI g ?_,hx,λ_ he=>by cases he; exact .w8 _ _ 0 _ fg (cf hI)⟩
  ·simp[KS.add,run_makeMap]
  ·exact⟨κ.w.heap.size,.map #[] 0,cf hI,g.new,QW hk he (w:=κ.w.alloc (.map #[] 0)) (b:=κ.w.heap.size) g.new (World.ownsMap_made κ.w c.P k (plainElem c.P e)) Go.Maps.isMap_empty λn _=>rfl⟩
theorem VY{t:Nat}{ok:Bool}{m x:Option D}{v u:Value}{d:Option D}{zg:St}(hI:Inv κ)(hm:∀ z,m=some z->RD κ z v)(hx:∀ z,x=some z->RD κ z u)
  (h:(zk (ZE c t ok m x) κ.st).leads (d,zg)):zL c.P (do Pure.pure (.value (<- Instr.lookup t v u ok))) κ d zg:=by
 unfold ZE at h
 cases hb:VL c t && !ok with
 | false=>rw[hb]at h; exact absurd h z7
 | true =>
  rw[hb,cond_true]at h
  simp only[Bool.and_eq_true]at hb
  obtain⟨h1,h2⟩:=hb
  have qI:ok=false:=by cases ok<;>first | rfl | cases h2
  subst qI
  obtain⟨k,e,ht,hk,he,hz⟩:=ow h1
  have hz:=hz κ.w
  split at h
  ·rename_i b q n hq
   cases hq64:ZA q with
   | false=>rw[hq64]at h; exact absurd h z7
   | true =>
   rw[hq64,cond_true]at h
   have Sf:q=.i64:=by cases q<;>first | rfl | cases hq64
   subst Sf
   have hu:=xz hq hx
   simp only[zk]at h
   split at h
   ·rename_i l hl
    obtain⟨hw,rfl,rfl⟩:=h
    cases hm _ rfl with
    | w8 _ blk m' d' hd hp =>
     obtain⟨b6,o,g1,g2,g3⟩:=(hI.blk b _ hl:Maps κ b l)
     rw[hp]at g1
     cases g1
     obtain⟨D,ho,hD,hr⟩:=g3 c.P k e hk he κ.w blk g2
     obtain⟨rv,ps,xg,hv⟩:=ho.lookup (Go.Maps.int_keyed hk) ht hz (plainElem_bool he false) (Go.Maps.keyOf_int_mk hk hw)
     rw[hr n hw]at hv
     have:=IY he hv
     subst this
     subst hu
     exact zL.pure hI xg .bool
   ·exact h.elim
  ·rename_i q n hq
   cases hq64:ZA q with
   | false=>rw[hq64]at h; exact absurd h z7
   | true =>
   rw[hq64,cond_true]at h
   have Sf:q=.i64:=by cases q<;>first | rfl | cases hq64
   subst Sf
   have hu:=xz hq hx
   subst hu
   obtain⟨hw,rfl,rfl⟩:=h
   cases hm _ rfl
   exact zL.pure hI (by simpa using Go.Maps.look_nil false (Go.Maps.int_keyed hk) ht hz (Go.Maps.keyOf_int_mk hk hw)) .bool
  ·exact absurd h z7
theorem JW{D:DataW Unit}{l:List Int}(hD:Go.Maps.IsMap D)(hr:∀ n,(Lit.int .i64 n).wf=true->D.atKey (.int .i64 n) (.lit (.bool false))=.lit (.bool (l.contains n)))(m:Int) :
  ∀ n,(Lit.int .i64 n).wf=true->(D.put (.int .i64 m) (.lit (.bool true))).atKey (.int .i64 n) (.lit (.bool false))=.lit (.bool ((l++[m]).contains n)):=λn hn=>by
 by_cases e:n=m
 ·subst e
  rw[Go.Maps.atKey_put_same hD (show WideAt.IsKeyLit (.int _ _)from trivial)]
  simp
 ·rw[Go.Maps.atKey_put_other (by simpa using e),hr n hn]
  simp[e]
theorem sA{t:Nat}{m x y:Option D}{v u z:Value}{d:Option D}{zg:St}(hI:Inv κ)(hm:∀ z,m=some z->RD κ z v)(hx:∀ z,x=some z->RD κ z u)(hy:∀ q,y=some q->RD κ q z)
  (h:(zk (tP c t m x y) κ.st).leads (d,zg)):zL c.P (do Instr.mapUpdate t v u z; Pure.pure .skip) κ d zg:=by
 unfold tP at h
 cases hb:VL c t with
 | false=>rw[hb]at h; exact absurd h z7
 | true =>
  rw[hb,cond_true]at h
  obtain⟨k,e,ht,hk,he,_⟩:=ow hb
  split at h
  ·rename_i b q n yb hq hyb
   cases hq64:ZA q with
   | false=>rw[hq64]at h; exact absurd h z7
   | true =>
   rw[hq64,cond_true]at h
   have Sf:q=.i64:=by cases q<;>first | rfl | cases hq64
   subst Sf
   have hu:=xz hq hx
   have hz:=cN hyb hy
   simp only[zk]at h
   split at h
   ·rename_i l hl
    obtain⟨⟨rfl,hw,hlen⟩,h⟩:=h
    simp only[T.leads,Prod.mk.injEq]at h
    obtain⟨rfl,rfl⟩:=h
    cases hm _ rfl with
    | w8 _ blk m' d' hd hp =>
     obtain⟨b6,o,g1,g2,g3⟩:=(hI.blk b _ hl:Maps κ b l)
     rw[hp]at g1
     cases g1
     obtain⟨D,ho,hD,hr⟩:=g3 c.P k e hk he κ.w blk g2
     obtain⟨w',xg,hown,hg⟩:=ho.update (Go.Maps.int_keyed hk) ht (by simp[maxLen]; omega) (Go.Maps.keyOf_int_mk hk hw) (plainElem_bool he true)
     subst hu hz
     have V0:Alike (.var (.QZ l)) (.var (.QZ (l++[n]))):=trivial
     refine⟨κ.lQ b w' (.var (.QZ (l++[n]))),.skip,undef,?_,.inr ⟨rfl,rfl⟩,rfl,Vk hI hp hl V0 hg ?_,mF hI hp hl V0 hg,λ_ he=>by cases he⟩
     ·simp[KS.lQ,xg]
     ·obtain⟨o',FE⟩:∃ o',w'.heap[blk]? = some o':=⟨_,Array.getElem?_eq_getElem hown.lt⟩
      exact⟨blk,o',hp,FE,QW hk he FE (by simpa using hown) (hD.put _ _) (JW hD hr n)⟩
   ·exact h.elim
  ·exact absurd h z7
theorem JM{op:BinOp}{t:Nat}{px:Operand}{x:Option D}{v:Value}{d:Option D}{zg:St}{z:j5}(hI:Inv κ)(hx:∀ z,x=some z->RD κ z v)
  (hz:(zk z κ.st).leads (d,zg)->zL c.P (do Pure.pure (.value (<- (do eqGuard op t px (.const (.slice none 0 0)) v (.slice none 0 0); binOp op t v (.slice none 0 0))))) κ d zg)
  (h:(zk (Wn c op t x z) κ.st).leads (d,zg)):zL c.P (do Pure.pure (.value (<- (do eqGuard op t px (.const (.slice none 0 0)) v (.slice none 0 0); binOp op t v (.slice none 0 0))))) κ d zg:=by
 unfold Wn at h
 split at h
 ·rename_i e hu
  have q1:∀ (x:Option Addr) (l k:Nat),(do eqGuard .eql t px (.const (.slice none 0 0)) (.slice x l k) (.slice none 0 0); binOp .eql t (.slice x l k) (.slice none 0 0):Sem Value).run c.P κ.w=.ok (.bool x.isNone) κ.w:=λx l k=>by
   have:=run_eql_slice_nil (P:=c.P) κ.w t e x l k hu
   simp only[eqGuard]
   simpa using this
  have q2:∀ (x:Option Addr) (l k:Nat),(do eqGuard .neq t px (.const (.slice none 0 0)) (.slice x l k) (.slice none 0 0); binOp .neq t (.slice x l k) (.slice none 0 0):Sem Value).run c.P κ.w=.ok (.bool !x.isNone) κ.w:=λx l k=>by
   have:=run_neq_slice_nil (P:=c.P) κ.w t e x l k hu
   simp only[eqGuard]
   simpa using this
  split at h
  ·unfold bb at h
   obtain⟨rfl,rfl⟩:=h
   cases hx _ rfl
   exact zL.pure hI (q1 none 0 0) RD.bool
  ·rename_i b
   unfold bb at h
   obtain⟨rfl,rfl⟩:=h
   cases hx _ rfl with
   | bu _ _ _ _ hr ht hf =>
    cases b with
    | true=>obtain⟨blk,off,cap,rfl,_⟩:=ht rfl; exact zL.pure hI (q1 _ _ _) RD.bool
    | false=>have:=hf rfl; subst this; exact zL.pure hI (q1 _ _ _) RD.bool
  ·unfold bb at h
   obtain⟨rfl,rfl⟩:=h
   cases hx _ rfl
   exact zL.pure hI (q2 none 0 0) RD.bool
  ·rename_i b
   unfold bb at h
   obtain⟨rfl,rfl⟩:=h
   cases hx _ rfl with
   | bu _ _ _ _ hr ht hf =>
    cases b with
    | true=>obtain⟨blk,off,cap,rfl,_⟩:=ht rfl; exact zL.pure hI (q2 _ _ _) RD.bool
    | false=>have:=hf rfl; subst this; exact zL.pure hI (q2 _ _ _) RD.bool
  ·exact hz h
 ·exact hz h
theorem Jw{op:BinOp}{t:Nat}{px:Operand}{x:Option D}{v:Value}{d:Option D}{zg:St}{z:j5}(hI:Inv κ)(hx:∀ z,x=some z->RD κ z v)
  (hz:(zk z κ.st).leads (d,zg)->zL c.P (do Pure.pure (.value (<- (do eqGuard op t px (.const (.pointer none)) v (.pointer none); binOp op t v (.pointer none))))) κ d zg)
  (h:(zk (Wr c op t x z) κ.st).leads (d,zg)):zL c.P (do Pure.pure (.value (<- (do eqGuard op t px (.const (.pointer none)) v (.pointer none); binOp op t v (.pointer none))))) κ d zg:=by
 unfold Wr at h
 split at h
 ·rename_i e hu
  have hp:c.P.underlying t=some (.pointer (c.P.pointee t)):=by unfold Program.pointee; rw[hu]
  have q1:∀ (x:Option Addr),(do eqGuard .eql t px (.const (.pointer none)) (.pointer x) (.pointer none); binOp .eql t (.pointer x) (.pointer none):Sem Value).run c.P κ.w=.ok (.bool x.isNone) κ.w:=λx=>by
   have:=run_eql_pointer_nil (P:=c.P) κ.w t x hp
   simp only[eqGuard]
   simpa using this
  have q2:∀ (x:Option Addr),(do eqGuard .neq t px (.const (.pointer none)) (.pointer x) (.pointer none); binOp .neq t (.pointer x) (.pointer none):Sem Value).run c.P κ.w=.ok (.bool !x.isNone) κ.w:=λx=>by
   have:=run_neq_pointer_nil (P:=c.P) κ.w t x hp
   simp only[eqGuard]
   simpa using this
  split at h
  ·unfold bb at h; obtain⟨rfl,rfl⟩:=h; cases hx _ rfl; exact zL.pure hI (q1 none) RD.bool
  ·unfold bb at h; obtain⟨rfl,rfl⟩:=h; cases hx _ rfl; exact zL.pure hI (q1 _) RD.bool
  ·unfold bb at h; obtain⟨rfl,rfl⟩:=h; cases hx _ rfl; exact zL.pure hI (q1 _) RD.bool
  ·unfold bb at h; obtain⟨rfl,rfl⟩:=h; cases hx _ rfl; exact zL.pure hI (q2 none) RD.bool
  ·unfold bb at h; obtain⟨rfl,rfl⟩:=h; cases hx _ rfl; exact zL.pure hI (q2 _) RD.bool
  ·unfold bb at h; obtain⟨rfl,rfl⟩:=h; cases hx _ rfl; exact zL.pure hI (q2 _) RD.bool
  ·exact hz h
 ·exact hz h
theorem ZM{t:Nat}{d:Option D}{zg:St}{z:j5}(hI:Inv κ)(hz:(zk z κ.st).leads (d,zg)->zL c.P (do Pure.pure (.value (<- Instr.buildSlice t 0 #[]))) κ d zg)
  (h:(zk (nq c t z) κ.st).leads (d,zg)):zL c.P (do Pure.pure (.value (<- Instr.buildSlice t 0 #[]))) κ d zg:=by
 unfold nq at h
 split at h
 ·exact hz h
 ·rename_i et het
  split at h
  ·rename_i e he
   cases hb:vU c et e&&(zeroOf c et e).isSome with
   | false=>rw[hb]at h; exact hz h
   | true =>
    rw[hb,cond_true]at h
    simp only[Bool.and_eq_true]at hb
    obtain⟨rfl,rfl⟩:=h
    have hu:=xZ het
    obtain⟨hs,_⟩:=xh hb.1
    have g:=ym.alloc κ.w (.cells #[] et)
    have xg:(Instr.buildSlice t 0 #[]).run c.P κ.w=.ok (.slice (some ⟨κ.w.heap.size,0,none⟩) 0 0) (κ.w.alloc (.cells #[] et)):=by
     obtain⟨y,hy⟩:=Option.isSome_iff_exists.1 hb.2
     obtain⟨i,zv,W8,rF,RY⟩:=jK (κ:=κ) hy
     simp[Instr.buildSlice,Sem.run_bind,run_underlying hu,Result.andThen_ok,run_sizeOf hs,Instr.fill,newRow]
     grind
    exact⟨κ.zj _,.value (.slice (some ⟨κ.w.heap.size,0,none⟩) 0 0),_,by simp only[Sem.run_bind,xg,Result.andThen_ok]; rfl,.inl rfl,rfl,uR hI g,iL hI g,λ_ he=>by
     cases he
     exact .bu e [] true _ (.kR e _) (λ_=>⟨_,_,_,rfl,λ_=>rfl⟩) nofun⟩
  ·exact hz h
end
end Go.AM
namespace Go.AM
set_option linter.unusedSectionVars false
variable [we]
section
variable {c:Ctx} {κ:KS}
theorem mo{places:List (Nat×Nat)}{pf:Nat->Option (Nat×Nat)}(hpf:∀ (i:Nat) p,places[i]? = some p->pf i=some p){F:Operand->Option D}{G:Operand->Value}(hF:∀ x d,F x=some d->RD κ d (G x)):∀ (L:List (Nat×Operand)) (cells r:List D) (cs:Array Value),
  hZ places (L.map λp=>(p.1,F p.2)) cells=some r->zU κ cells cs.toList->(∀ d∈cells,d.one=true) ->
  ∃ ye,Instr.fill pf cs (L.map λp=>(p.1,G p.2))=some ye/\zU κ r ye.toList/\∀ d∈r,d.one=true
 | [],cells,r,cs,h,hr,ho=>by
  simp only[List.map_nil,hZ,Option.some.injEq]at h
  subst h
  exact⟨cs,rfl,hr,ho⟩
 | (i,x)::L,cells,r,cs,h,hr,ho=>by
  simp at h
  cases hx:F x with
  | none=>rw[hx]at h; simp[hZ]at h
  | some d =>
   rw[hx]at h
   simp only[hZ]at h
   split at h
   ·rename_i off n hp
    cases hb : !d.wR&&Nat.beq n (zC d).length&&Nat.ble (off+n) cells.length with
    | false=>grind
    | true =>
     rw[hb,cond_true]at h
     simp only[Bool.and_eq_true,Bool.not_eq_true']at hb
     obtain⟨⟨h1,h2⟩,h3⟩:=hb
     have Iq:n=(zC d).length:=Nat.eq_of_beq_eq_true h2
     have h3':=Nat.le_of_ble_eq_true h3
     have hd:=hF x d hx
     have OE:=vH hd h1
     have NN:(G x).cells.toList.length=n:=by rw[<- OE.1]; exact Iq.symm
     have hle:off+n<=cs.size:=by have:=hr.1; simp at this; omega
     have hn:=cq hr OE off n
     obtain⟨ye,g1,g2,g3⟩:=mo hpf hF L _ r (cs.toList.take off++(G x).cells.toList++cs.toList.drop (off+n)).toArray h (by grind) (by
      intro y hy
      simp only[List.mem_append]at hy
      rcases hy with(hy | hy) | hy
      ·grind
      ·exact vI hd y hy
      ·exact ho y (List.mem_of_mem_drop hy))
     refine⟨ye,?_,g2,g3⟩
     simp
     rw[Ue (hpf _ _ hp) NN hle]
     exact g1
   ·cases h
theorem JU{t:Nat}{L:List (Nat×Operand)}{F:Operand->Option D}{G:Operand->Value}{d:Option D}{zg:St}(hI:Inv κ)(hF:∀ x d,F x=some d->RD κ d (G x))
  (h:(zk (XL c t (L.map λp=>(p.1,F p.2))) κ.st).leads (d,zg)):zL c.P (do Pure.pure (.value (<- Instr.build t (L.map λp=>(p.1,G p.2)).toArray))) κ d zg:=by
 unfold XL at h
 split at h
 ·rename_i fs hu
  split at h
  ·rename_i z places hz hp
   split at h
   ·rename_i l hl
    rw[uB]at h
    obtain⟨rfl,rfl⟩:=h
    obtain⟨i,zv,h1,h2,h3⟩:=br hz
    have hzr:=h3.rd κ
    obtain⟨ye,g1,g2,g3⟩:=mo (pf:=(places.toArray[·]?)) (λi p hp=>by simpa using hp) hF L z l zv.cells hl (vH hzr rfl) (vI hzr)
    have hb:c.P.built t (L.map λp=>(p.1,G p.2))=some ye:=by
     unfold Program.built
     grind
    refine zL.pure hI (run_build κ.w t _ ye (by simpa using hb)) ?_
    have:=RD.agg l ye.toList g2.1 g3 g2.2
    omega
   ·exact absurd h z7
  ·exact absurd h z7
 ·rename_i k e hu
  split at h
  ·rename_i z ie hz hp
   split at h
   ·rename_i l hl
    obtain⟨rfl,rfl⟩:=h
    obtain⟨i,zv,h1,h2,h3⟩:=br hz
    have hzr:=h3.rd κ
    obtain⟨ye,g1,g2,g3⟩:=mo (pf:=λi=>some (i*ie.size,ie.size)) (λi p hp=>by
     rw[List.getElem?_map]at hp
     cases hr:(List.range k)[i]? with
     | none=>grind
     | some j =>
      rw[hr]at hp
      obtain⟨qc,rfl⟩:=List.getElem?_eq_some_iff.1 hr
      simpa using hp) hF L z l zv.cells hl (vH hzr rfl) (vI hzr)
    have hb:c.P.built t (L.map λp=>(p.1,G p.2))=some ye:=by
     unfold Program.built
     grind
    refine zL.pure hI (run_build κ.w t _ ye (by simpa using hb)) ?_
    have:=RD.agg l ye.toList g2.1 g3 g2.2
    omega
   ·exact absurd h z7
  ·exact absurd h z7
 ·exact absurd h z7
theorem Q6{a:Act}{o:Oper}{p:Operand}(ho:o.op=.nilCheck p){x:Option D}{d:Option D}{zg:St}(hI:Inv κ)(hx:∀ z,x=some z->RD κ z (a.eval p))
  (h:(zk (lK x) κ.st).leads (d,zg)):zL c.P (execOp a.eval o) κ d zg:=by
 have key:∀ z v,RD κ z v->a.eval p=v->(∀ b:Option Addr,v=.pointer b->b≠none)->((∃ b,v=.pointer b)\/∃ g q l,v=.func (.func g) q l)->zL c.P (execOp a.eval o) κ (some z) κ.st:=by
  intro z v hz hv hn hc
  have:execOp a.eval o=Pure.pure (.value v):=by
   rcases hc with⟨b,rfl⟩ | ⟨g,q,l,rfl⟩
   ·cases b with
    | none=>grind
    | some b=>simp only[execOp,ho,hv]
   ·simp only[execOp,ho,hv]
  rw[this]
  exact zL.val hI λ_ he=>by cases he; exact hz
 unfold lK at h
 split at h
 all_goals try exact absurd h z7
 all_goals
  rw[uB]at h; obtain⟨rfl,rfl⟩:=h
  have hr:=hx _ rfl
  generalize hv:a.eval p=v at hr
  refine key _ v hr hv ?_ ?_
  ·intro b hb; cases hr<;>first | (cases hb<;>nofun) | (rename_i f l vs _ _; obtain⟨g,q,l',e⟩:=Z6 f vs; rw[e]at hb; cases hb)
  ·cases hr<;>first | exact .inl ⟨_,rfl⟩ | exact .inr (Z6 _ _)
theorem Kj{op:BinOp}{t:Nat}{px:Operand}{x:Option D}{v:Value}{d:Option D}{zg:St}(hI:Inv κ)(hx:∀ z,x=some z->RD κ z v)
  (h:(zk (XP c op t x) κ.st).leads (d,zg)):zL c.P (do Pure.pure (.value (<- (do eqGuard op t px (.const .nilIface) v .nilIface; binOp op t v .nilIface)))) κ d zg:=by
 unfold XP at h
 split at h
 ·rename_i ms hu
  have hm:c.P.underlying t=some (.interface (c.P.methodsAt t)):=by unfold Program.methodsAt; rw[hu]
  have g1:∀ w,(eqGuard op t px (.const .nilIface) .nilIface .nilIface).run c.P w=.ok () w:=λw=>by cases op<;>simp[eqGuard]
  have g2:∀ u y w,(eqGuard op t px (.const .nilIface) (.iface u y) .nilIface).run c.P w=.ok () w:=λu y w=>by cases op<;>simp[eqGuard]
  split at h
  ·unfold bb at h
   obtain⟨rfl,rfl⟩:=h
   cases hx _ rfl
   exact zL.pure hI (by simp only[Sem.run_bind,g1,Result.andThen_ok,run_eql_nil_nil _ _ hm]) RD.bool
  ·unfold bb at h
   obtain⟨rfl,rfl⟩:=h
   cases hx _ rfl
   exact zL.pure hI (by simp only[Sem.run_bind,g2,Result.andThen_ok,run_eql_held_nil _ _ _ _ hm]) RD.bool
  ·unfold bb at h
   obtain⟨rfl,rfl⟩:=h
   cases hx _ rfl
   exact zL.pure hI (by simp only[Sem.run_bind,g1,Result.andThen_ok,run_neq_nil_nil _ _ hm]) RD.bool
  ·unfold bb at h
   obtain⟨rfl,rfl⟩:=h
   cases hx _ rfl
   exact zL.pure hI (by simp only[Sem.run_bind,g2,Result.andThen_ok,run_neq_held_nil _ _ _ _ hm]) RD.bool
  ·exact absurd h z7
 ·exact absurd h z7
theorem rD{x:Option D}{v:Value}{xt at':Nat}{ok:Bool}{d:Option D}{zg:St}(hI:Inv κ)(hx:∀ z,x=some z->RD κ z v)
  (h:(zk (cY c x at' ok) κ.st).leads (d,zg)):zL c.P (do Pure.pure (.value (<- Instr.typeAssert v xt at' ok))) κ d zg:=by
 unfold cY at h
 split at h
 ·exact absurd h z7
 ·exact absurd h z7
 ·rename_i ty hni hu
  split at h
  ·rename_i t e
   cases hb:Nat.beq t at'&&ok with
   | false=>rw[hb]at h; exact absurd h z7
   | true =>
    rw[hb,cond_true,uB]at h
    obtain⟨rfl,rfl⟩:=h
    simp only[Bool.and_eq_true]at hb
    have:=Nat.eq_of_beq_eq_true hb.1
    subst this
    obtain rfl:=hb.2
    cases hx _ rfl with
    | iface _ _ u L5 =>
     refine zL.pure hI (v:=.tuple #[u,.bool true]) ?_ ?_
     ·cases ty<;>first | (exact(hni _ rfl).elim) | (simp[Instr.typeAssert,run_underlying hu])
     ·have:=zU.cons L5 (zU.cons (RD.bool (κ:=κ) (b:=true)) zU.nil)
      exact .jC _ [u,.bool true] this.1 this.2
  ·exact absurd h z7
theorem Z1{t:Nat}{x:Option D}{v:Value}{d:Option D}{zg:St}(hI:Inv κ)(hx:∀ z,x=some z->RD κ z v)
  (h:(zk (iA c t x) κ.st).leads (d,zg)):zL c.P (do Pure.pure (.value (<- Instr.makeInterface t v))) κ d zg:=by
 unfold iA at h
 cases hu:c.P.underlying t with
 | none=>rw[hu]at h; exact absurd h z7
 | some u =>
  rw[hu]at h
  cases u<;>simp only at h
  all_goals try exact absurd h z7
  all_goals
   split at h
   ·rw[uB]at h; obtain⟨rfl,rfl⟩:=h
    have hc:c.P.concrete t=true:=by unfold Program.concrete; rw[hu]
    exact zL.pure hI (run_makeInterface κ.w t v hc) (.iface t _ v (hx _ rfl))
   ·exact absurd h z7
theorem FD{e:Ty}{x y:D}{v:Value}{l:List (den e)}(hI:Inv κ)(hx:RD κ x v)(h:(ef κ.st x).leads y)(hl:Vj e y=some l):Src κ e l v:=by
 rcases mg hI hx h with⟨rfl,_⟩ | ⟨e',ys,rfl,hs,_⟩
 ·cases y with
  | zj σ z =>
   obtain⟨he,hz⟩:=zI (a:=σ) (b:=.sl e) hl
   cases he
   cases hz
   exact Wg hx
  | tight e' z ne =>
   obtain⟨he,hz⟩:=zI (a:=.sl e') (b:=.sl e) hl
   cases he
   cases hz
   exact iY hx
  | zW =>
   simp only[Vj,Option.some.injEq]at hl
   subst hl
   exact s6 hx
  | _=>simp[Vj]at hl
 ·obtain⟨he,hz⟩:=zI (a:=.sl e') (b:=.sl e) hl
  grind
theorem tJ{s t e:Nat}{x:Option D}{v:Value}{d:Option D}{zg:St}(hI:Inv κ)(hx:∀ z,x=some z->RD κ z v)(hs:c.P.underlying s=some (.slice e))(ht:c.P.underlying t=some .string)
  (h:(zk (oa c e x) κ.st).leads (d,zg)):zL c.P (do Pure.pure (.value (<- convert s t v))) κ d zg:=by
 unfold oa at h
 split at h
 ·rename_i z he
  rw[gQ]at h
  obtain⟨h,rfl⟩:=h
  obtain⟨y,h1,h2⟩:=T.zq.1 h
  split at h2
  ·rename_i l hl
   cases h2
   have WB:=FD hI (hx _ rfl) h1 hl
   obtain⟨a,cap,f,rfl,qR,hn,g1,g2⟩:=WB.ex
   have xg:(convert s t (.slice a l.length cap)).run c.P κ.w=.ok (.string (strOfNums l)) κ.w:=by
    cases a with
    | none =>
     obtain⟨rfl,rfl⟩:=hn rfl
     exact run_convert_bytes_nil κ.w s e hs he 0 0 t ht
    | some p =>
     rcases g2 p rfl with⟨rfl,rfl⟩ | ⟨hp,_,hc⟩
     ·have h0:(loadCells p 0).run c.P κ.w=.ok (([]:List Int).map (Value.int .u8)).toArray κ.w:=by
       rfl
      simp only[List.length_nil]
      rw[run_convert_bytes_string κ.w s t e _ 0 0 hs he ht,run_bytesToString κ.w _ 0 0 [] h0]
      rfl
     ·obtain⟨blk,o,sp⟩:=p
      subst hp
      refine run_convert_bytes_arg κ.w s e hs he blk o l.length cap l rfl (λi hi => ?_) t ht
      have hf:=(g1 i hi).jB
      have:=hc i hi 0 (.int .u8 l[i]) (by grind)
      have e1:o+i*Ty.size (.int .u8)+0=o+i:=by simp[Ty.size]
      grind
   refine zL.pure hI xg ?_
   exact .str
  ·exact h2.elim
 ·exact absurd h z7
theorem W3{s t:Nat}{x:Option D}{v:Value}{d:Option D}{zg:St}(hI:Inv κ)(hx:∀ z,x=some z->RD κ z v)
  (h:(zk (convertOp c s t x) κ.st).leads (d,zg)):zL c.P (do Pure.pure (.value (<- convert s t v))) κ d zg:=by
 unfold convertOp at h
 split at h
 ·rename_i e hs ht
  exact tJ hI hx hs ht h
 ·rename_i k0 k hs ht
  split at h
  ·rename_i k1 n hk
   have:=xz hk hx
   subst this
   obtain⟨rfl,rfl⟩:=h
   exact zL.pure hI (by simp[convert,run_underlying hs,run_underlying ht,Conv.intToInt]) RD.int
  ·exact absurd h z7
 ·rename_i hs ht
  split at h
  ·rename_i s' hk
   have:=fA hk hx
   subst this
   obtain⟨rfl,rfl⟩:=h
   exact zL.pure hI (by simp[convert,run_underlying hs,run_underlying ht]) RD.str
  ·exact absurd h z7
 ·exact absurd h z7
end
end Go.AM
namespace Go.AM
set_option linter.unusedSectionVars false
variable [we]
section
variable {c:Ctx} {κ:KS}
theorem HY{ty t t':Nat}{s x:Option D}{v u:Value}{d:Option D}{zg:St}(hI:Inv κ)(hs:∀ z,s=some z->RD κ z v)(hx:∀ z,x=some z->RD κ z u)
  (h:(zk (Ky c t s x) κ.st).leads (d,zg)):zL c.P (do Pure.pure (.value (<- Builtin.copy_ #[t,t'] ty #[v,u]))) κ d zg:=by
 unfold Ky at h
 split at h
 ·rename_i et het
  split at h
  ·rename_i k b q7 k' off len z hu vb
   cases hk:decide (k'=k)with
   | false=>rw[hk]at h; exact absurd h z7
   | true =>
    rw[hk,cond_true]at h
    obtain rfl:k'=k:=of_decide_eq_true hk
    simp only[zk]at h
    obtain⟨y,h1,h2⟩:=T.zq.1 h
    split at h2
    ·rename_i l hl
     unfold EP at h2
     split at h2
     ·rename_i uF e' mv hb
      split at h2
      ·rename_i xs Zo
       obtain⟨he,hxx⟩:=zI (a:=.sl e') (b:=.sl (.int k')) Zo
       cases he
       obtain rfl:xs=mv:=hxx
       obtain⟨⟨WU,z5Z⟩,h2⟩:=h2
       cases h2
       subst WU
       have WB:=FD hI (hx _ rfl) h1 hl
       obtain⟨a,cap,f,rfl,qR,hn,g1,g2⟩:=WB.ex
       have S5:=xZ het
       have F3:(c.P.info? et).map (·.size)=some 1:=vb
       have hrd:=hs _ rfl
       cases hrd with
       | ms _ _ _ _ _ cap0 a0 BY hcap0 rU hsp0 hh =>
       have hm:=hh xs hb
       have sd:((List.take len l).map (Value.int k')).length=Nat.min l.length len:=by rw[List.length_map,List.length_take]; exact Nat.min_comm _ _
       have Oq:min len (List.length l)=Nat.min l.length len:=Nat.min_comm _ _
       by_cases h0:min len (List.length l)=0
       ·-- nothing goes over
        have xg:=run_copy_none (P:=c.P) κ.w t t' ty et a0 a len cap0 l.length cap S5 F3 (by rw[<- Oq]; exact h0)
        have nC:vW off len xs l=xs:=by
         unfold vW
         have ht:List.take len l=[]:=List.eq_nil_of_length_eq_zero (by rw[List.length_take]; exact h0)
         rw[ht,h0,List.append_nil,Nat.add_zero,List.take_append_drop]
        have ld:κ.st.set b (.arr q7 (.int k') (vW off len xs l))=κ.st:=by
         rw[nC]
         obtain⟨qc,hge⟩:=List.getElem?_eq_some_iff.1 hb
         rw[<- hge,List.set_getElem_self]
        rw[ld]
        refine⟨κ,.value (goInt 0),goInt 0,by simp[xg],.inl rfl,rfl,hI,Ext.refl κ,λd' j9 => ?_⟩
        cases j9
        rw[h0]
        exact RD.int
       ·obtain⟨hle,hm⟩:=hm
        rcases hm with⟨hz,_⟩ | ⟨blk,n,o,z9N,hp,hv,Hw,Ey,hc3⟩
        ·omega
        ·cases hv
         have ho:o=off:=by
          rcases hc3 with h | h
          ·omega
          ·simpa[Ty.size]using h
         subst ho
         have hl0:l≠[]:=λh=>h0 (by rw[h]; simp)
         obtain⟨p,rfl⟩:∃ p,a=some p:=by
          cases a with
          | none=>grind
          | some p=>simp
         rcases g2 p rfl with⟨h,_⟩ | ⟨mX,_,hc⟩
         ·grind
         obtain⟨pb,po,psp⟩:=p
         simp only at mX
         subst mX
         obtain⟨_,CT⟩:=hI.blk b _ hb
         rcases CT with⟨_,hpn⟩ | ⟨b6,n',Nb,T,k1,k2,k3,k4,kr,g,k5⟩
         ·grind
         rw[hp]at k1
         cases k1
         have RU:List.length xs<=Nb.size:=by rw[k3]; simpa[Ty.size]using k4
         have jr:∀ (i:Nat) (hi:i<List.length xs),Nb[i]? = some (.int k' xs[i]):=by
          intro i hi
          obtain⟨q1,q2⟩:=k5 i hi
          have:=q2 0 (.int k' xs[i]) (by rw[q1.jB]; rfl)
          simpa[Ty.size]using this
         have z5R:((List.take len l).map (Value.int k')).length<=len:=by simp; omega
         have xg:=run_copy_row c.P κ.w t t' ty et blk o len cap0 ⟨pb,po,none⟩ l.length cap Nb T ((List.take len l).map (Value.int k')) S5 F3 k2 sd
          (λj w hj=>by
           have Sg:j<(List.take len l).length:=by have:=(List.getElem?_eq_some_iff.1 hj).1; simpa using this
           have BW:j<l.length:=by simp at Sg; omega
           have e1:w=.int k' l[j]:=by
            grind
           have:=hc j BW 0 (.int k' l[j]) (by rw[(g1 j BW).jB]; rfl)
           have OY:(⟨pb,po,none⟩:Addr).add j=⟨pb,po+j,none⟩:=by unfold Addr.add; split<;>simp_all
           rw[OY,e1]
           simpa[Ty.size]using this)
          (by omega) (λw hw=>by obtain⟨_,_,rfl⟩:=List.mem_map.1 hw; rfl)
         have hlen:List.length (vW o len xs l)=List.length xs:=by
          simp only[vW,List.length_append,List.length_take,List.length_drop]
          omega
         have V0:Alike (.arr q7 (.int k') xs) (.arr q7 (.int k') (vW o len xs l)):=⟨rfl,Nat.le_refl _,λ_=>hlen.symm⟩
         let ye:Array Value:=(Nb.toList.take o++(List.take len l).map (Value.int k')++Nb.toList.drop (o+((List.take len l).map (Value.int k')).length)).toArray
         have Q4:ye.size=n:=by
          simp only[ye,List.size_toArray,List.length_append,List.length_take,List.length_drop,Array.length_toList,List.length_map]at *
          omega
         have Sp:∀ (i:Nat) (hi:i<List.length (vW o len xs l)),ye[i]? = some (.int k' (vW o len xs l)[i]):=by
          intro i hi
          have h1:=mr (cs:=Nb.toList) (us:=(List.take len l).map (Value.int k')) (o:=o) (n:=((List.take len l).map (Value.int k')).length) rfl (by simp; simp at z5R; omega) i
          have e1:ye[i]? = (Nb.toList.take o++(List.take len l).map (Value.int k')++Nb.toList.drop (o+((List.take len l).map (Value.int k')).length))[i]? := by simp[ye]
          have hm2:(List.map (Value.int k') (List.take len l)).length=min len (List.length l):=by simp
          rw[hm2]at h1 e1
          have e2:(vW o len xs l)[i]? = if i<o then xs[i]? else if i<o+min len (List.length l)then(List.take len l)[i-o]? else xs[i]? := by
           unfold vW
           have hto:(List.take o xs).length=o:=by simp; omega
           by_cases q1:i<o
           ·rw[if_pos q1,List.append_assoc,List.getElem?_append_left (by omega),List.getElem?_take,if_pos q1]
           ·rw[if_neg q1,List.append_assoc,List.getElem?_append_right (by omega),hto]
            by_cases q2:i<o+min len (List.length l)
            ·rw[if_pos q2,List.getElem?_append_left (by simp; omega)]
            ·rw[if_neg q2,List.getElem?_append_right (by simp; omega),List.getElem?_drop,List.length_take]
             congr 1; omega
          have e3:(vW o len xs l)[i]? = some (vW o len xs l)[i]:=List.getElem?_eq_getElem hi
          rw[e1,h1]
          rw[e2]at e3
          have hix:i<List.length xs:=by rw[<- hlen]; exact hi
          split
          ·rename_i q1
           rw[if_pos q1,List.getElem?_eq_getElem hix]at e3
           rw[Array.getElem?_toList,jr i hix,Option.some.inj e3]
          ·rename_i q1
           rw[if_neg q1]at e3
           split
           ·rename_i q2
            rw[if_pos q2]at e3
            rw[List.getElem?_map,e3]
            rfl
           ·rename_i q2
            rw[if_neg q2,List.getElem?_eq_getElem hix]at e3
            rw[Array.getElem?_toList,jr i hix,Option.some.inj e3]
         refine⟨κ.I3 b blk ye (.arr q7 (.int k') (vW o len xs l)),.value (goInt (((List.take len l).map (Value.int k')).length:Nat)),goInt (((List.take len l).map (Value.int k')).length:Nat),(by rw[Sem.run_bind,xg]; rfl),.inl rfl,rfl,nB hI hp hb V0 ?_,mU hI hp hb V0,λd' j9 => ?_⟩
         ·refine⟨by simp[Ty.size],.inr ⟨blk,n,ye,T,hp,setRow_heap κ.w blk Nb ye T (0,0) k2,Q4,by simp[Ty.size]; omega,kr,λi=>[.int k' ((vW o len xs l).getD i 0)],λi hi => ?_⟩⟩
          have hg:(vW o len xs l).getD i 0=(vW o len xs l)[i]:=by simp[List.getD_eq_getElem?_getD,List.getElem?_eq_getElem hi]
          show Rc _ _ (.int k') _ [Value.int k' ((vW o len xs l).getD i 0)]/\∀ (j:Nat) (v:Value),[Value.int k' ((vW o len xs l).getD i 0)][j]? = some v->_
          rw[hg]
          refine⟨.int k' _,λj w hj => ?_⟩
          cases j with
          | zero =>
           simp at hj
           subst hj
           simpa[Ty.size]using Sp i hi
          | succ j=>simp at hj
         ·cases j9
          rw[Oq,<- sd]
          exact RD.int
      ·exact h2.elim
     ·exact h2.elim
    ·exact h2.elim
  ·exact absurd h z7
 ·exact absurd h z7
end
end Go.AM
namespace Go.AM
set_option linter.unusedSectionVars false
variable [we]
def wY(P:Program)(g:Nat)(args:Array Value)(w:World)(R:Ending->World->Prop):Prop :=
 ((callFunc g args).run P w=.ok (.enter g args) w/\Calls P g args w R)\/∃ v w',(callFunc g args).run P w=.ok (.value v) w'/\R (.returned v) w'
theorem wY.mono{P:Program}{g:Nat}{args:Array Value}{w:World}{R R':Ending->World->Prop}(h:wY P g args w R)(hr:∀ e w,R e w->R' e w):wY P g args w R':=by
 rcases h with⟨h1,h2⟩ | ⟨v,w',h1,h2⟩
 ·exact .inl ⟨h1,h2.mono hr⟩
 ·exact .inr ⟨v,w',h1,hr _ _ h2⟩
def qL(κ:KS):ZI->Ending->Prop
 | .ret ds,e=>∃ v,e=.returned v/\RD κ (jA ds) v
 | .wN d,e=>∃ v,e=.panicked [{ v,recovered:=false }]/\RD κ d v
abbrev El:=Nat->Array Value->World->(Ending->World->Prop)->Prop
def z6Q(Dr:El)(g:Nat)(S:List D->St->T (ZI×St)):Prop :=
 ∀ (κ:KS) (args:List D) (zp:List Value) (rs:ZI) (zg:St),(S args κ.st).leads (rs,zg)->Inv κ->zU κ args zp ->
  Dr g zp.toArray κ.w λe w'=>∃ κ':KS,κ'.w=w'/\κ'.st=zg/\Inv κ'/\Ext κ κ'/\qL κ' rs e
def WZ(P:Program)(g:Nat)(S:List D->St->T (ZI×St)):Prop :=
 ∀ (κ:KS) (args:List D) (zp:List Value) (rs:ZI) (zg:St),(S args κ.st).leads (rs,zg)->Inv κ->zU κ args zp ->
  wY P g zp.toArray κ.w λe w'=>∃ κ':KS,κ'.w=w'/\κ'.st=zg/\Inv κ'/\Ext κ κ'/\qL κ' rs e
section
variable {c:Ctx} {κ:KS}
theorem RD.weaken{r8:Nat->Prop}(hs:∀ k,κ.ok k->r8 k){d:D}{v:Value}(h:RD κ d v):RD { κ with ok:=r8 } d v:=by
 have nC:J9 κ.w κ.w κ.ok r8:=λk hk=>⟨hs k hk,rfl⟩
 induction h with
 | zj τ y cs h=>exact .zj τ y cs (h.mono nC)
 | bu e l b v h ht hf=>exact .bu e l b v (h.mono nC) ht hf
 | qm e a=>exact .qm e a
 | tight e l ne blk off f ui qI h hc=>exact .tight e l ne blk off f ui (hs _ qI) (λi hi=>(h i hi).mono nC) hc
 | zW=>exact .zW
 | wJ=>exact .wJ
 | q8=>exact .q8
 | wo=>exact .wo
 | qC=>exact .qC
 | lr v h=>exact .lr v h
 | yA T=>exact .yA T
 | yw b T d hd=>exact .yw b T d hd
 | yI b T blk n d hd h=>exact .yI b T blk n d hd h
 | w8 b blk n d hd h=>exact .w8 b blk n d hd h
 | ptr b off blk n d hd h=>exact .ptr b off blk n d hd h
 | qf τ y cs blk off qI h hc=>exact .qf τ y cs blk off (hs _ qI) (h.mono nC) hc
 | wB b q7 e idx off blk o hb h=>exact .wB b q7 e idx off blk o hb h
 | ms b q7 e off len cap a hb qR ha mX h=>exact .ms b q7 e off len cap a hb qR ha mX h
 | zK f l vs hl h ih=>exact .zK f l vs hl ih
 | agg l vs hl ho h ih=>exact .agg l vs hl ho ih
 | jC l vs hl h ih=>exact .jC l vs hl ih
 | iface t d v h ih=>exact .iface t d v ih
theorem RD.free{κ':KS}(hw:κ'.w=κ.w)(qI:κ'.ok=κ.ok)(qQ:κ.st=[]){d:D}{v:Value}(h:RD κ d v):RD κ' d v:=by
 obtain⟨w',r8,ph',zg⟩:=κ'
 subst hw qI
 induction h with
 | zj τ y cs h=>exact .zj τ y cs h
 | bu e l b v h ht hf=>exact .bu e l b v h ht hf
 | qm e a=>exact .qm e a
 | tight e l ne blk off f ui qI h hc=>exact .tight e l ne blk off f ui qI h hc
 | zW=>exact .zW
 | wJ=>exact .wJ
 | q8=>exact .q8
 | wo=>exact .wo
 | qC=>exact .qC
 | lr v h=>exact .lr v h
 | yA T=>exact .yA T
 | yw b T d hd=>grind
 | yI b T blk n d hd h=>grind
 | w8 b blk n d hd h=>grind
 | ptr b off blk n d hd h=>grind
 | qf τ y cs blk off qI h hc=>exact .qf τ y cs blk off qI h hc
 | wB b q7 e idx off blk o hb h=>rcases hb with hb | ⟨_,_,_,hb,_⟩ <;> · rw[qQ]at hb; simp at hb
 | ms b q7 e off len cap a hb qR ha mX h=>rcases hb with hb | ⟨_,_,_,hb,_⟩ <;> · rw[qQ]at hb; simp at hb
 | zK f l vs hl h ih=>exact .zK f l vs hl ih
 | agg l vs hl ho h ih=>exact .agg l vs hl ho ih
 | jC l vs hl h ih=>exact .jC l vs hl ih
 | iface t d v h ih=>exact .iface t d v ih
theorem Rc.scalar{w w':World}{ok r8:Nat->Prop}{τ:Ty}{x:den τ}{cs:List Value}(h:Rc w ok τ x cs)(ht:τ.scalar=true):Rc w' r8 τ x cs:=by
 induction h with
 | int k n=>exact .int k n
 | bool b=>exact .bool b
 | str s=>exact .str s
 | kR=>cases ht
 | sl=>cases ht
 | nil=>exact .nil
 | cons a b x y c1 c2 h1 h2 i1 i2=>simp only[Ty.scalar,Bool.and_eq_true]at ht; exact .cons a b x y c1 c2 (i1 ht.1) (i2 ht.2)
 | expr=>cases ht
theorem P5{e:Ty}{ys:List (den e)}{v:Value}(h:Src κ e ys v):Rc κ.w (C0 κ) (.sl e) ys [v]:=by
 obtain⟨a,cap,f,rfl,qR,hn,h1,h2⟩:=h.ex
 cases a with
 | none=>obtain⟨rfl,rfl⟩:=hn rfl; exact .kR e none
 | some p =>
  rcases h2 p rfl with⟨rfl,rfl⟩ | ⟨hp,qI,hc⟩
  ·exact .kR e _
  obtain⟨blk,o,sp⟩:=p
  subst hp
  exact .sl e ys blk o cap f qI qR (λi hi=>(h1 i hi).mono λk hk=>⟨.inl hk,rfl⟩) hc
def KS.all(κ:KS):KS:={ κ with ok:=C0 κ }
theorem RD.all{d:D}{v:Value}(h:RD κ d v):RD κ.all d v:=h.weaken λ_ hk=>.inl hk
theorem zU.all{l:List D}{vs:List Value}(h:zU κ l vs):zU κ.all l vs:=⟨h.1,λi h1 h2=>(h.2 i h1 h2).all⟩
theorem Qy{x y:D}{v:Value}(hI:Inv κ)(hx:RD κ x v)(h:(ef κ.st x).leads y):RD κ.all y v/\(x.one=true->y.one=true)/\(x.wR=false->y.wR=false):=by
 rcases mg hI hx h with⟨rfl,_⟩ | ⟨e,ys,rfl,hs,_⟩
 ·exact⟨hx.all,id,id⟩
 ·exact⟨RD.cV rfl (P5 hs),λ_=>rfl,λ_=>rfl⟩
theorem QO(hI:Inv κ):∀ {l r:List D} {vs:List Value},zU κ l vs->(∀ d∈l,d.one=true)->(QC κ.st l).leads r->zU κ.all r vs/\∀ d∈r,d.one=true
 | [],r,vs,h,_,hs=>by cases hs; rw[h.zG]; exact⟨.nil,nofun⟩
 | d::l,r,vs,h,ho,hs=>by
  simp only[QC,T.zq]at hs
  obtain⟨x,hx,l',hl,rfl⟩:=hs
  obtain⟨v,us,rfl,h1,h2⟩:=h.cons_inv
  obtain⟨g1,g2,_⟩:=Qy hI h1 hx
  obtain⟨k1,k2⟩:=QO hI h2 (λd hd=>ho d (List.mem_cons_of_mem _ hd)) hl
  refine⟨.cons g1 k1,λd hd => ?_⟩
  grind
theorem Fa{x y:D}{v:Value}(hI:Inv κ)(hx:RD κ x v)(h:(snap κ.st x).leads y):RD κ.all y v:=by
 cases x with
 | agg l =>
  simp only[snap,T.zq]at h
  obtain⟨r,hr,rfl⟩:=h
  cases hx with
  | agg _ vs hl ho hh =>
   obtain⟨g1,g2⟩:=QO hI (⟨hl,hh⟩:zU κ l vs) ho hr
   exact .agg r vs g1.1 g2 g1.2
 | _=>exact(Qy hI hx h).1
theorem nv{τ:Ty}{d:D}{x:den τ}{v:Value}(hI:Inv κ)(hd:RD κ d v)(h:(n4 κ.st τ d).leads x):RD κ.all (.zj τ x) v:=by
 simp only[n4,T.zq,T.wy]at h
 obtain⟨y,h1,h2⟩:=h
 exact yf (Fa hI hd h1) h2
theorem Xj{x y:D}(h:(ef [] x).leads y):y=x:=by
 cases x with
 | ms=>simp[ef,T.leads]at h
 | _=>exact h.symm
theorem Qw:∀ {l r:List D},(QC [] l).leads r->r=l
 | [],_,h=>h.symm
 | d::l,r,h=>by
  simp only[QC,T.zq]at h
  obtain⟨x,hx,l',hl,rfl⟩:=h
  rw[Xj hx,Qw hl]
theorem CS{x y:D}(h:(snap [] x).leads y):y=x:=by
 cases x with
 | agg l =>
  simp only[snap,T.zq]at h
  obtain⟨r,hr,rfl⟩:=h
  rw[Qw hr]
 | _=>exact Xj h
theorem VV{τ:Ty}{d:D}{x:den τ}{v:Value}(hd:RD κ d v)(h:(n4 [] τ d).leads x):RD κ (.zj τ x) v:=by
 simp only[n4,T.zq,T.wy]at h
 obtain⟨y,h1,h2⟩:=h
 rw[CS h1]at h2
 exact yf hd h2
def oO:D->Bool | .zj .. | .qf .. => true | _=>false
def Gx:D->Bool
 | .zK _ l=>l.all oO
 | d=>oO d
theorem Lx{d:D}(h:oO d=true):Gx d=true:=by cases d<;>first | exact h | cases h
theorem Zx{st:St}{τ:Ty}{d y:D}(h:(eB st τ d).leads y):oO y=true:=by
 unfold eB at h
 split at h
 ·split at h
  ·cases h; rfl
  ·exact h.elim
 ·split at h
  ·split at h
   ·cases h; rfl
   ·exact h.elim
  ·exact h.elim
 ·exact h.elim
theorem Qx{τ:Ty}{d y:D}{v:Value}(hI:Inv κ)(hd:RD κ d v)(h:(eB κ.st τ d).leads y):RD κ.all y v:=by
 unfold eB at h
 split at h
 ·split at h
  ·rename_i x z hz
   cases h
   obtain⟨e,rfl⟩:=zI hz
   cases e
   exact hd.all
  ·exact h.elim
 ·rename_i b off
  split at h
  ·rename_i d' hb
   split at h
   ·rename_i z hz
    cases h
    cases ho:Nat.beq off 0 with
    | false=>grind
    | true =>
     have:=Nat.eq_of_beq_eq_true ho
     subst this
     obtain⟨blk,n,cs,t,g1,g2,g3,g4,g5⟩:=(hI.blk b _ hb:xF κ b d').cells (by cases d'<;>first | rfl | cases hz)
     cases hd with
     | ptr _ _ b6 n' d1 hd1 hp =>
      rw[g1]at hp
      cases hp
      have qI:C0 κ blk:=.inr ⟨b,n,g1⟩
      have ht:d'.wR=false:=by
       cases d' with
       | jC l=>simp[gF,D.wR]at hz
       | _=>rfl
      have WX:=ic hz g4 g5.1 ht
      refine .qf τ z cs.toList blk 0 qI (WX.mono λk hk=>⟨.inl hk,rfl⟩) λj v hj => ?_
      show κ.w.cell? _=_
      rw[l6 g2,Nat.zero_add]
      grind
   ·exact h.elim
  ·exact h.elim
 ·exact h.elim
theorem Qk{τ:Ty}{d y:D}{v:Value}(hd:RD κ d v)(h:(eB [] τ d).leads y):RD κ y v:=by
 unfold eB at h
 split at h
 ·split at h
  ·rename_i x z hz
   cases h
   obtain⟨e,rfl⟩:=zI hz
   grind
  ·exact h.elim
 ·rename_i b off
  split at h
  ·grind
  ·exact h.elim
 ·exact h.elim
theorem Vs{st:St}{p:o9}{d y:D}(h:(eN st p d).leads y):oO y=true:=by
 cases p with
 | rp τ=>exact Zx h
 | im τ=>simp only[eN,T.zq]at h; obtain⟨x,_,rfl⟩:=h; rfl
theorem J2{p:o9}{d y:D}{v:Value}(hI:Inv κ)(hd:RD κ d v)(h:(eN κ.st p d).leads y):RD κ.all y v:=by
 cases p with
 | rp τ=>exact Qx hI hd h
 | im τ=>simp only[eN,T.zq]at h; obtain⟨x,hx,rfl⟩:=h; exact nv hI hd hx
theorem Ji{p:o9}{d y:D}{v:Value}(hd:RD κ d v)(h:(eN [] p d).leads y):RD κ y v:=by
 cases p with
 | rp τ=>exact Qk hd h
 | im τ=>simp only[eN,T.zq]at h; obtain⟨x,hx,rfl⟩:=h; exact VV hd hx
theorem mJ{st:St}:∀ {ps:List o9} {ds r:List D},(yj st ps ds).leads r->∀ d∈r,oO d=true
 | [],[],r,hs=>by cases hs; nofun
 | p::ps,d::ds,r,hs=>by
  simp only[yj,T.zq]at hs
  obtain⟨x,hx,l,hl,rfl⟩:=hs
  intro d' j9
  rcases List.mem_cons.1 j9 with rfl | j9
  ·exact Vs hx
  ·exact mJ hl d' j9
 | [],_::_,_,hs=>hs.elim
 | _::_,[],_,hs=>hs.elim
theorem pg(hI:Inv κ):∀ {ps:List o9} {ds r:List D} {vs:List Value},zU κ ds vs->(yj κ.st ps ds).leads r->zU κ.all r vs
 | [],[],r,vs,h,hs=>by cases hs; rw[h.zG]; exact .nil
 | p::ps,d::ds,r,vs,h,hs=>by
  simp only[yj,T.zq]at hs
  obtain⟨x,hx,l,hl,rfl⟩:=hs
  obtain⟨v,us,rfl,h1,h2⟩:=h.cons_inv
  exact .cons (J2 hI h1 hx) (pg hI h2 hl)
 | [],_::_,_,_,_,hs=>hs.elim
 | _::_,[],_,_,_,hs=>hs.elim
theorem oQ:∀ {ps:List o9} {ds r:List D} {vs:List Value},zU κ ds vs->(yj [] ps ds).leads r->zU κ r vs
 | [],[],r,vs,h,hs=>by cases hs; rw[h.zG]; exact .nil
 | p::ps,d::ds,r,vs,h,hs=>by
  simp only[yj,T.zq]at hs
  obtain⟨x,hx,l,hl,rfl⟩:=hs
  obtain⟨v,us,rfl,h1,h2⟩:=h.cons_inv
  exact .cons (Ji h1 hx) (oQ h2 hl)
 | [],_::_,_,_,_,hs=>hs.elim
 | _::_,[],_,_,_,hs=>hs.elim
theorem lS{st:St}{p:mC}{d y:D}(h:(UC st p d).leads y):(∃ τ x,p=.ty τ/\(n4 st τ d).leads x/\y=.zj τ x)\/(∃ τ,p=.rp τ/\(eB st τ d).leads y) \/
  ∃ f caps l l',p=.zK f caps/\d=.zK f l/\(yj st caps l).leads l'/\y=.zK f l':=by
 cases p with
 | ty τ =>
  have h':((n4 st τ d).bind λx=>T.ret (D.zj τ x)).leads y:=by cases d<;>exact h
  simp only[T.zq]at h'
  obtain⟨x,hx,rfl⟩:=h'
  grind
 | rp τ=>exact .inr (.inl ⟨τ,rfl,by cases d<;>exact h⟩)
 | zK f caps =>
  cases d with
  | zK f' l =>
   simp only[UC]at h
   cases hb:Nat.beq f f' with
   | false=>rw[hb]at h; exact h.elim
   | true =>
    rw[hb,cond_true,T.zq]at h
    obtain⟨l',hl,rfl⟩:=h
    have:=Nat.eq_of_beq_eq_true hb
    grind
  | _=>exact h.elim
theorem BH{st:St}{p:mC}{d y:D}(h:(UC st p d).leads y):Gx y=true:=by
 rcases lS h with⟨τ,x,_,_,rfl⟩ | ⟨τ,_,h⟩ | ⟨f,caps,l,l',_,_,h',rfl⟩
 ·rfl
 ·exact Lx (Zx h)
 ·exact List.all_eq_true.2 (mJ h')
theorem Cj{p:mC}{d y:D}{v:Value}(hI:Inv κ)(hd:RD κ d v)(h:(UC κ.st p d).leads y):RD κ.all y v:=by
 rcases lS h with⟨τ,x,_,hx,rfl⟩ | ⟨τ,_,h⟩ | ⟨f,caps,l,l',_,rfl,h',rfl⟩
 ·exact nv hI hd hx
 ·exact Qx hI hd h
 ·cases hd with
  | zK _ _ vs hl hh =>
   have:=pg hI (⟨hl,hh⟩:zU κ l vs) h'
   exact .zK f l' vs this.1 this.2
theorem D7{p:mC}{d y:D}{v:Value}(hd:RD κ d v)(h:(UC [] p d).leads y):RD κ y v:=by
 rcases lS h with⟨τ,x,_,hx,rfl⟩ | ⟨τ,_,h⟩ | ⟨f,caps,l,l',_,rfl,h',rfl⟩
 ·exact VV hd hx
 ·exact Qk hd h
 ·cases hd with
  | zK _ _ vs hl hh =>
   have:=oQ (⟨hl,hh⟩:zU κ l vs) h'
   exact .zK f l' vs this.1 this.2
theorem ma{st:St}:∀ {ps:List mC} {ds r:List D},(ei st ps ds).leads r->∀ d∈r,Gx d=true
 | [],[],r,hs=>by cases hs; nofun
 | p::ps,d::ds,r,hs=>by
  simp only[ei,T.zq]at hs
  obtain⟨x,hx,l,hl,rfl⟩:=hs
  intro d' j9
  rcases List.mem_cons.1 j9 with rfl | j9
  ·exact BH hx
  ·exact ma hl d' j9
 | [],_::_,_,hs=>hs.elim
 | _::_,[],_,hs=>hs.elim
theorem Xl(hI:Inv κ):∀ {ps:List mC} {ds r:List D} {vs:List Value},zU κ ds vs->(ei κ.st ps ds).leads r->zU κ.all r vs
 | [],[],r,vs,h,hs=>by cases hs; rw[h.zG]; exact .nil
 | p::ps,d::ds,r,vs,h,hs=>by
  simp only[ei,T.zq]at hs
  obtain⟨x,hx,l,hl,rfl⟩:=hs
  obtain⟨v,us,rfl,h1,h2⟩:=h.cons_inv
  exact .cons (Cj hI h1 hx) (Xl hI h2 hl)
 | [],_::_,_,_,_,hs=>hs.elim
 | _::_,[],_,_,_,hs=>hs.elim
theorem oG:∀ {ps:List mC} {ds r:List D} {vs:List Value},zU κ ds vs->(ei [] ps ds).leads r->zU κ r vs
 | [],[],r,vs,h,hs=>by cases hs; rw[h.zG]; exact .nil
 | p::ps,d::ds,r,vs,h,hs=>by
  simp only[ei,T.zq]at hs
  obtain⟨x,hx,l,hl,rfl⟩:=hs
  obtain⟨v,us,rfl,h1,h2⟩:=h.cons_inv
  exact .cons (D7 h1 hx) (oG h2 hl)
 | [],_::_,_,_,hs,h=>h.elim
 | _::_,[],_,_,hs,h=>h.elim
def KS.bare(κ:KS)(ok:Nat->Prop):KS:=⟨κ.w,ok,[],[]⟩
theorem Z5{ok:Nat->Prop}(hI:Inv κ)(hs:∀ k,κ.ok k->ok k)(h:∀ k,ok k->k<κ.w.heap.size):Inv (κ.bare ok) :=
 ⟨rfl,h,λb blk n h=>by simp[KS.bare]at h,λb b' blk n n' h=>by nofun,λb x h=>by simp[KS.bare]at h,hI.gl.mono λk hk=>⟨hs k hk,rfl⟩⟩
theorem dx{ok:Nat->Prop}{d:D}{v:Value}(hi:oO d=true)(h:RD { κ with ok:=ok } d v):RD (κ.bare ok) d v:=by
 cases d with
 | zj τ x=>obtain⟨cs,h1,rfl⟩:=RD.uR h; exact .zj τ x cs h1
 | qf τ x=>cases h with | qf _ _ cs blk off qI h hc=>exact .qf τ x cs blk off qI h hc
 | _=>cases hi
theorem Qt{ok:Nat->Prop}{d:D}{v:Value}(hi:Gx d=true)(h:RD { κ with ok:=ok } d v):RD (κ.bare ok) d v:=by
 cases d with
 | zK f l =>
  cases h with
  | zK _ _ vs hl hh=>exact .zK f l vs hl λi h1 h2=>dx (List.all_eq_true.1 hi _ (List.getElem_mem h1)) (hh i h1 h2)
 | zj τ x=>exact dx hi h
 | qf τ x=>exact dx hi h
 | _=>cases hi
theorem U3{κ1:KS}{ok:Nat->Prop}(hI:Inv κ)(nT:Inv κ1)(qQ:κ1.st=[])(hx:Ext (κ.bare ok) κ1)(r8:Nat->Prop)(h1:∀ k,κ.ok k->r8 k)(h2:∀ k,r8 k->κ.ok k\/κ.w.heap.size<=k)(h3:∀ k,r8 k->k<κ1.w.heap.size) :
  Ext κ { κ with w:=κ1.w,ok:=r8 }/\Inv { κ with w:=κ1.w,ok:=r8 }:=by
 have OO:∀ k,k<κ.w.heap.size->κ1.w.heap[k]? = κ.w.heap[k]? := λk hk=>hx.frame k hk λb n h=>by simp[KS.bare]at h
 have vb:κ.w.heap.size<=κ1.w.heap.size:=hx.size
 have he:Ext κ { κ with w:=κ1.w,ok:=r8 }:=⟨hx.os,hx.tape,hx.output,vb,λk hk=>⟨h1 k hk,OO k (hI.ux k hk)⟩,λk hk=>(h2 k hk).elim .inl (λh=>.inr (.inl h)),λ_ _ _ h=>.inl h,λb d h=>⟨⟨d,h⟩,rfl⟩,
  λb v0 e xs h=>.inr ⟨v0,xs,h,Nat.le_refl _,λ_=>⟨rfl,rfl⟩⟩,λ_ h=>h,Nat.le_refl _,λk hk _=>OO k hk⟩
 refine⟨he,hI.len,h3,λb blk n h => ?_,hI.inj,λb x h=>(hI.blk b x h).mono he rfl λblk n h=>OO _ (hI.apart b blk n h).1,hI.gl.mono he.same⟩
 obtain⟨g1,g2⟩:=hI.apart b blk n h
 grind
theorem BF{g:Nat}{args:List D}{zp:List Value}{d:Option D}{zg:St}(hs:WZ c.P g (c.fn g))(hI:Inv κ)(ha:zU κ args zp)
  (h:(zk (match c.sig g args with | some s=>jt c g s args | none=>c7 c g args) κ.st).leads (d,zg)) :
  wY c.P g zp.toArray κ.w λe w'=>∃ (κ':KS) (v:Value),κ'.w=w'/\κ'.st=zg/\Inv κ'/\Ext κ κ'/\e=.returned v/\∀ d',d=some d'->RD κ' d' v:=by
 split at h
 ·rename_i s Bn
  unfold jt at h
  cases hm:(!(args.any oj))with
  | true =>
   rw[hm,cond_true,xD]at h
   obtain⟨h,rfl⟩:=h
   simp only[T.zq]at h
   obtain⟨l,hl,⟨rs,uJ⟩,hc,hr⟩:=h
   have kS:=oG ha hl
   have hb:zU (κ.bare κ.ok) l zp:=⟨kS.1,λi h1 h2=>Qt (ma hl _ (List.getElem_mem h1)) (kS.2 i h1 h2)⟩
   refine(hs (κ.bare κ.ok) l zp rs uJ hc (Z5 hI (λ_ h=>h) hI.ux) hb).mono ?_
   rintro e w' ⟨κ1,rfl,qQ,nT,hx,he⟩
   unfold CM at hr
   split at hr
   ·rename_i ds heq
    cases heq
    cases hr
    obtain⟨v,rfl,hv⟩:=he
    obtain⟨hE,MM⟩:=U3 hI nT qQ hx κ1.ok (λk hk=>(hx.same k hk).1) (λk hk=>by
     rcases hx.fresh k hk with h | h | ⟨b,n,h⟩
     ·exact .inl h
     ·exact .inr h
     ·simp[KS.bare]at h) nT.ux
    exact⟨{ κ with w:=κ1.w,ok:=κ1.ok },v,rfl,rfl,MM,hE,rfl,λd' j9=>by cases j9; exact RD.free (κ:=κ1) (κ':={ κ with w:=κ1.w,ok:=κ1.ok }) rfl rfl qQ hv⟩
   ·exact hr.elim
  | false =>
   rw[hm,cond_false,gQ]at h
   obtain⟨h,rfl⟩:=h
   simp only[T.zq]at h
   obtain⟨l,hl,⟨rs,uJ⟩,hc,hr⟩:=h
   have kS:=Xl hI ha hl
   have hb:zU (κ.bare (C0 κ)) l zp:=⟨kS.1,λi h1 h2=>Qt (ma hl _ (List.getElem_mem h1)) (kS.2 i h1 h2)⟩
   have qc:∀ k,C0 κ k->k<κ.w.heap.size:=by
    rintro k (hk | ⟨b,n,hk⟩)
    ·exact hI.ux k hk
    ·exact(hI.apart b k n hk).1
   refine(hs (κ.bare (C0 κ)) l zp rs uJ hc (Z5 hI (λ_ h=>.inl h) qc) hb).mono ?_
   rintro e w' ⟨κ1,rfl,qQ,nT,hx,he⟩
   unfold iI at hr
   split at hr
   ·rename_i ds heq
    cases heq
    cases dH:ds.all iK with
    | false=>rw[dH]at hr; exact hr.elim
    | true =>
     rw[dH,cond_true]at hr
     cases hr
     obtain⟨v,rfl,hv⟩:=he
     obtain⟨hE,MM⟩:=U3 hI nT qQ hx κ.ok (λk hk=>hk) (λk hk=>.inl hk) (λk hk=>Nat.lt_of_lt_of_le (hI.ux k hk) hx.size)
     refine⟨{ κ with w:=κ1.w,ok:=κ.ok },v,rfl,rfl,MM,hE,rfl,λd' j9 => ?_⟩
     cases j9
     have one:∀ d u,iK d=true->RD κ1 d u->RD { κ with w:=κ1.w,ok:=κ.ok } d u:=by
      intro d u hd hu
      cases d<;>simp[iK]at hd
      obtain⟨cs,h1,rfl⟩:=RD.uR hu
      exact .zj _ _ cs (h1.scalar hd)
     have ZJ:=List.all_eq_true.1 dH
     unfold jA at hv ⊢
     split at hv
     ·exact one _ _ (ZJ _ (by simp)) hv
     ·rename_i ui
      cases hv with
      | jC _ vs hl hh=>exact .jC ds vs hl λi h1 h2=>one _ _ (ZJ _ (List.getElem_mem h1)) (hh i h1 h2)
   ·exact hr.elim
 ·unfold c7 at h
  simp only[zk,T.zq]at h
  obtain⟨⟨rs,uJ⟩,hc,hr⟩:=h
  refine(hs κ args zp rs uJ hc hI ha).mono ?_
  rintro e w' ⟨κ1,rfl,qQ,nT,hx,he⟩
  cases rs with
  | wN p=>exact hr.elim
  | ret ds =>
   cases hr
   obtain⟨v,rfl,hv⟩:=he
   exact⟨κ1,v,rfl,qQ,nT,hx,rfl,λd' j9=>by cases j9; exact hv⟩
end
end Go.AM