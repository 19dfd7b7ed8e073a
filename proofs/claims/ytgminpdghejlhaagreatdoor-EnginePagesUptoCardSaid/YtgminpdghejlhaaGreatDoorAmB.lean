/-
  The abstract machine, part B: texts of our own, the same for each claim.
-/
import Derived.Test.YtgminpdghejlhaaGreatDoorAmA
import Derived.Lib.AppendStr
import Derived.Maps.OwnSet
import Derived.Lib.LazyBuf
import Derived.Laws.Pointers
import Derived.WideLaws
import Derived.Laws.BytesArg
import Derived.Laws.CopyRow
import Derived.Laws.IdiomCopy
set_option linter.unusedVariables false
open List renaming getElem?_eq_some_iff -> zA, getElem?_append_left -> zG, length_append -> zK, eq_nil_of_length_eq_zero -> zM, getElem?_eq_getElem -> zN, take -> zR, length -> zS, getElem?_set -> zT, length_take -> zU, size_toArray -> zY, getElem_mem -> qA, getElem?_append_right -> qC, append_assoc -> qI, take_succ_eq_append_getElem -> qJ, length_drop -> qK, getElem?_map -> qR, all_eq_true -> qU, length_cons -> qV, getElem?_set_self -> qW, mem_map -> qX, mem_append -> qZ, getElem?_toArray -> xA, length_replicate -> xB, mem_cons_of_mem -> xC, mem_of_mem_drop -> xD, mem_cons -> xG
open Go.Result renaming andThen_ok -> Y
open Nat renaming mul_le_mul_right -> I, le_of_ble_eq_true -> W, le_refl -> zE, eq_of_beq_eq_true -> zF, not_lt_zero -> zW, succ_mul -> qB, add_mul -> qD, zero_add -> qE, beq -> qL, le_trans -> qN, lt_of_lt_of_le -> qO, blt -> xE, add_zero -> xH
open Go.Sem renaming run_bind -> zH, run_pure -> qF
open Bool renaming and_eq_true -> zI
open Pure renaming pure -> zJ
open Go.Builtin renaming append_ -> zL, firstCells -> zO, zeroCells -> zX, lenOf -> qS
open Go.Value renaming int -> zP
open Go.Instr renaming buildSlice -> zQ, fill -> qH, box -> qT, makeSlice -> qY, storeAt -> xF
open Array renaming getElem?_toList -> zV, length_toList -> qG, range -> xK
open Option renaming isSome_iff_exists -> zZ
open Go.Maps renaming keyOf_int_mk -> qM, int_keyed -> qQ
open Go.Lib renaming run_firstCells_string -> qP
open Go.WideElems renaming rd -> xI, rg -> xJ
namespace Go.AM
set_option linter.unusedSectionVars false
variable [gB]
section
variable {c:Ctx} {O E:KS}
theorem pX.mono(x:Ext O E){b:Nat}(hp:E.ph[b]? = O.ph[b]?)(hh:∀ blk n,O.ph[b]? = some (some (blk,n))->E.w.heap[blk]? = O.w.heap[blk]?){y:de}(h:pX O b y):pX E b y:=by
 cases y with
 | dead=>trivial
 | var d =>
  refine yf.elim h (λhm h=>.mk hm ?_) λl e h=>by
   subst e
   obtain⟨blk,o,h1,X,h3⟩:=h
   exact⟨blk,o,hp.trans h1,(hh blk 0 h1).trans X,h3⟩
  obtain⟨blk,n,cs,t,h1,X,h3,h4,h5⟩:=h
  exact⟨blk,n,cs,t,hp.trans h1,(hh blk n h1).trans X,h3,h4.mono x,h5⟩
 | arr vk e xs =>
  obtain⟨h0,h⟩:=h
  refine⟨h0,so h (λh=>⟨h.1,hp.trans h.2⟩) ?_⟩
  rintro⟨blk,n,cs,t,h1,X,h3,h4,hr,f,h5⟩
  exact⟨blk,n,cs,t,hp.trans h1,(hh blk n h1).trans X,h3,h4,hr,f,λi hi=>⟨(h5 i hi).1.mono x.same,(h5 i hi).2⟩⟩
def KS.qi(O:KS)(w':World):KS:={ O with w:=w',ok:=λk=>O.ok k\/k=O.w.heap.size }
structure nq(w w':World)(o:Obj):Prop where
 os:w'.os=w.os
 tape:w'.tape=w.tape
 output:w'.output=w.output
 heap:w'.heap=w.heap.push o
theorem nq.size{w w':World}{o:Obj}(g:nq w w' o):w'.heap.size=w.heap.size+1:=by rw[g.heap]; simp
theorem nq.old{w w':World}{o:Obj}(g:nq w w' o){k:Nat}(h:k<w.heap.size):w'.heap[k]? = w.heap[k]? := by
 rw[g.heap,Array.getElem?_push,if_neg (Z)]
theorem nq.new{w w':World}{o:Obj}(g:nq w w' o):w'.heap[w.heap.size]? = some o:=by rw[g.heap]; simp
theorem nq.alloc(w:World)(o:Obj):nq w (w.alloc o) o:=⟨rfl,rfl,rfl,rfl⟩
theorem nq.drew(w:World)(o:Obj):nq w (w.drew.alloc o) o:=⟨rfl,rfl,rfl,rfl⟩
theorem Wh{w':World}{o:Obj}(hI:Inv O)(g:nq O.w w' o):Ext O (O.qi w'):=by
 refine⟨g.os,g.tape,g.output,by show O.w.heap.size<=w'.heap.size; rw[g.size]; omega,λk hk=>⟨.inl hk,g.old (hI.cq k hk)⟩,?_,λ_ _ _ h=>.inl h,λb d h=>⟨⟨d,h⟩,rfl⟩,
  λb v0 e xs h=>.inr ⟨v0,xs,h,zE _,λ_=>⟨rfl,rfl⟩⟩,λ_ h=>h,zE _,λk hk _=>g.old hk⟩
 rintro k (hk | hk)
 ·grind
 ·grind
theorem dq{w':World}{o:Obj}(hI:Inv O)(g:nq O.w w' o):Inv (O.qi w'):=by
 refine⟨hI.len,?_,?_,hI.inj,?_,hI.gl.mono (Wh hI g).same⟩
 ·rintro k (hk | hk)
  ·have:=hI.cq k hk; show k<w'.heap.size; rw[g.size]; omega
  ·show k<w'.heap.size; rw[g.size]; omega
 ·intro b blk n h
  obtain⟨h1,X⟩:=hI.apart b blk n h
  refine⟨by show blk<w'.heap.size; rw[g.size]; omega,?_⟩
  rintro(hk | hk)
  ·exact X hk
  ·omega
 ·intro b x U
  exact(hI.blk b x U).mono (Wh hI g) rfl λblk n h=>g.old (hI.apart b blk n h).1
def KS.add(O:KS)(w':World)(n:Nat)(x:de):KS:={ O with w:=w',ph:=O.ph++[some (O.w.heap.size,n)],st:=O.st++[x] }
theorem ZE{w':World}{o:Obj}{n:Nat}{x:de}(hI:Inv O)(g:nq O.w w' o):Ext O (O.add w' n x):=by
 have ud:∀ b y,O.st[b]? = some y->(O.st++[x])[b]? = some y:=λb y h=>by rw[zG (zA.1 h).1]; exact h
 have Hm:∀ b y,O.st[b]? = some y->(O.ph++[some (O.w.heap.size,n)])[b]? = O.ph[b]? := λb y h=>by
  rw[zG]; rw[hI.len]; exact(zA.1 h).1
 refine⟨g.os,g.tape,g.output,by show O.w.heap.size<=w'.heap.size; rw[g.size]; omega,λk hk=>⟨hk,g.old (hI.cq k hk)⟩,λk hk=>.inl hk,?_,λb d h=>⟨⟨d,ud b _ h⟩,Hm b _ h⟩,
  λb v0 e xs h=>.inr ⟨v0,xs,ud b _ h,zE _,λ_=>⟨Hm b _ h,rfl⟩⟩,λb h=>ud b _ h,by simp[KS.add],λk hk _=>g.old hk⟩
 intro b blk m h
 simp only[KS.add]at h
 grind
theorem tQ(hI:Inv O){w':World}{n:Nat}{x:de}:(O.add w' n x).ph[O.st.length]? = some (some (O.w.heap.size,n)):=by
 simp[KS.add,<- hI.len]
theorem X1{w':World}{n:Nat}{x:de}:(O.add w' n x).st[O.st.length]? = some x:=by simp[KS.add]
theorem U4{w':World}{o:Obj}{n:Nat}{x:de}(hI:Inv O)(g:nq O.w w' o)(U:pX (O.add w' n x) O.st.length x):Inv (O.add w' n x):=by
 have hold:∀ (b blk m:Nat),(O.ph++[some (O.w.heap.size,n)])[b]? = some (some (blk,m))->O.ph[b]? = some (some (blk,m))\/(b=O.ph.length/\blk=O.w.heap.size):=by
  grind
 refine⟨by simp[KS.add,hI.len],?_,?_,?_,?_,hI.gl.mono (ZE hI g).same⟩
 ·intro k hk; have:=hI.cq k hk; show k<w'.heap.size; rw[g.size]; omega
 ·intro b blk m h
  rcases hold b blk m h with h | ⟨rfl,rfl⟩
  ·obtain⟨h1,X⟩:=hI.apart b blk m h
   exact⟨by show blk<w'.heap.size; rw[g.size]; omega,X⟩
  ·exact⟨by show O.w.heap.size<w'.heap.size; rw[g.size]; omega,λhk=>absurd (hI.cq _ hk) (Nat.lt_irrefl _)⟩
 ·intro b b' blk m m' h h'
  rcases hold b blk m h with h | ⟨rfl,rfl⟩<;>rcases hold b' _ m' h' with h' | ⟨rfl,h''⟩
  ·exact hI.inj b b' blk m m' h h'
  ·have:=(hI.apart b blk m h).1; omega
  ·have:=(hI.apart b' _ m' h').1; omega
  ·rfl
 ·intro b y hy
  simp only[KS.add]at hy
  by_cases J:b<O.st.length
  ·rw[zG J]at hy
   refine(hI.blk b y hy).mono (ZE hI g) ?_ λblk m h=>g.old (hI.apart b blk m h).1
   simp only[KS.add]
   rw[zG (by rw[hI.len]; exact J)]
  ·grind
theorem RD.z3p{O:KS}{d:D}{v:Value}(h:RD O d v):d.G2=false:=by cases h<;>rfl
theorem PN{d:D}{v:Value}{t:TypeId}(hI:Inv O)(V:RD O d v)(ht:d.bT=false)(NS:∀ T,d.typed=some T->t=T) :
  ∃ E:KS,E.w=O.w.alloc (.cells v.cells t)/\E.st=O.st++[.var d]/\Inv E/\Ext O E/\RD E (.ptr O.st.length 0) (.pointer (some ⟨O.w.heap.size,0,none⟩)):=by
 have g:=nq.alloc O.w (.cells v.cells t)
 have U:=ZE (n:=v.cells.size) (x:=.var d) hI g
 refine⟨O.add _ v.cells.size (.var d),rfl,rfl,U4 hI g ?_,U,.ptr _ 0 _ v.cells.size d X1 (tQ hI)⟩
 exact .mk V.z3p ⟨O.w.heap.size,v.cells.size,v.cells,t,tQ hI,g.new,rfl,(cQ V ht).mono U,cP V,NS⟩
theorem z0w{t:Nat}{x:Option D}{v:Value}{d:Option D}{qm:St}(hI:Inv O)(U:∀ z,x=some z->RD O z v)
  (h:(qt (z0u x) O.st).leads (d,qm)) :
  wC c.P (do zJ (.value (<- qT t v))) O d qm:=by
 cases x with
 | none=>exact absurd h zi
 | some y =>
  simp only[z0u]at h
  cases ht:y.bT||y.typed.isSome with
  | true=>rw[ht]at h; exact absurd h zi
  | false =>
   rw[ht,cond_false]at h
   simp at ht
   obtain⟨ht,NS⟩:=ht
   have zp6:∀ T,y.typed=some T->t=T:=λT e=>by rw[e]at NS; cases NS
   obtain⟨rfl,rfl⟩:=h
   obtain⟨E,h1,X,h3,h4,h5⟩:=PN (t:=t) hI (U _ rfl) ht zp6
   refine⟨E,_,_,?_,.inl rfl,X,h3,h4,λ_ he=>by cases he; exact h5⟩
   simp[qT,newVar,newRow,h1]
theorem ze3{d:D}{τ:Ty}{x:den τ}{v:Value}{t:TypeId}(hI:Inv O)(V:RD O d v)(U:p9 τ d=some x) :
  ∃ E:KS,E.w=O.w.alloc (.cells v.cells t)/\E.st=O.st/\Inv E/\Ext O E/\RD E (.vE τ x) (.pointer (some ⟨O.w.heap.size,0,none⟩)):=by
 have g:=nq.alloc O.w (.cells v.cells t)
 have Ho:=Wh hI g
 obtain⟨cs,h1,X⟩:=RD.dq (mV V U)
 have hc:=J0 h1.len h1.one
 have hn:(O.w.alloc (.cells v.cells t)).heap[O.w.heap.size]? = some (.cells v.cells t (0,0)):=g.new
 have eW:∀ j u,cs[j]? = some u->(O.w.alloc (.cells v.cells t)).cell? ⟨O.w.heap.size,0+j,none⟩=some u:=by
  simp
  grind
 exact⟨O.qi _,rfl,rfl,dq hI g,Ho,.vE τ x cs O.w.heap.size 0 (.inr rfl) (h1.mono Ho.same) eW⟩
theorem Lq{t:Nat}{x:Option D}{v:Value}{d:Option D}{qm:St}(hI:Inv O)(U:∀ z,x=some z->RD O z v)
  (h:(qt (z0v c t x) O.st).leads (d,qm)):wC c.P (do zJ (.value (<- qT t v))) O d qm:=by
 have key:∀ (y:D) (τ:Ty) (z:den τ),x=some y->p9 τ y=some z->(qt (val (.vE τ z)) O.st).leads (d,qm)->wC c.P (do zJ (.value (<- qT t v))) O d qm:=by
  intro y τ z hy hz h
  obtain⟨rfl,rfl⟩:=h
  obtain⟨E,h1,X,h3,h4,h5⟩:=ze3 (t:=t) hI (U y hy) hz
  refine⟨E,_,_,?_,.inl rfl,X,h3,h4,λ_ he=>by cases he; exact h5⟩
  simp[qT,newVar,newRow,h1]
 unfold z0v at h
 split at h
 ·rename_i τ z
  exact key _ τ z rfl (by simp[p9,jY]) h
 ·split at h
  ·split at h
   ·grind
   ·exact absurd h zi
  ·exact absurd h zi
 ·exact absurd h zi
theorem Lp{t:Nat}{dst:Option Nat}{x:Option D}{v:Value}{d:Option D}{qm:St}(hI:Inv O)(U:∀ z,x=some z->RD O z v)
  (h:(qt (z0t c t dst x) O.st).leads (d,qm)):wC c.P (do zJ (.value (<- qT t v))) O d qm:=by
 unfold z0t at h
 cases J:z47 c dst with
 | true=>rw[J]at h; exact Lq hI U h
 | false=>rw[J]at h; exact z0w hI U h
theorem Wp{v:Value}{d:D}(h:XG v=some d):RD O d v/\d.one=true/\d.bT=false/\(∀ cs,v≠.agg cs):=by
 unfold XG at h
 split at h<;>cases h<;>refine⟨?_,rfl,rfl,λ_=>nofun⟩
 ·exact .int
 ·exact .bool
 ·rename_i s; have:=RD.str (O:=O) (s:=s.data.toList); simpa using this
 ·exact .wH
 ·exact .br
 ·exact .gF
 ·exact .vb
 ·exact .uX
theorem GC{v:Value}{d:D}(h:Kr v=some d):RD O d v/\d.bT=false:=by
 unfold Kr at h
 split at h
 ·rename_i cs
  split at h
  ·rename_i l B
   cases h
   have Q8:∀ x∈l,x.one=true:=by
    intro x U
    have:some x∈cs.toList.map XG:=by rw[p7 B]; exact qX.2 ⟨x,U,rfl⟩
    obtain⟨u,_,hu⟩:=qX.1 this
    exact(Wp (O:=O) hu).2.1
   have hr:=ig (O:=O) (vs:=cs.toList) B (qu) (λi d v V hv=>by
    simp only[qR,hv,Option.map_some,Option.some.injEq]at V
    exact(Wp V).1)
   refine⟨?_,rfl⟩
   have:=RD.agg l cs.toList hr.1 Q8 hr.2
   omega
  ·cases h
 ·exact⟨(Wp h).1,(Wp (O:=O) h).2.2.1⟩
theorem UU{v:Value}{d:D}(h:XG v=some d):(∀ l,d≠.agg l)/\(∀ T,d≠.nw T)/\∀ b T,d≠.eN b T:=by
 unfold XG at h
 grind
theorem I5{v:Value}{d:D}(h:Kr v=some d):d.typed=none:=by
 unfold Kr at h
 split at h
 ·rename_i cs
  split at h
  ·rename_i l B
   cases h
   have hz:=p7 B
   cases l with
   | nil=>rfl
   | cons x r =>
    have:some x∈cs.toList.map XG:=by rw[hz]; simp
    obtain⟨u,_,hu⟩:=qX.1 this
    obtain⟨_,h1,X⟩:=UU hu
    cases x<;>first | rfl | exact absurd rfl (h1 _) | exact absurd rfl (X _ _)
  ·cases h
 ·have:=(UU h).1
  cases d<;>first | rfl | exact absurd rfl (this _)
structure ZD(t:Nat)(d:D)(z:Value):Prop where
 rd:∀ O:KS,RD O d z
 eZ:d.bT=false
 ty:∀ T,d.typed=some T->t=T
theorem z3e{t:Nat}{d:D}{z:Value}(h:Kr z=some d):ZD t (z3d c t d) z:=by
 have h0:∀ O:KS,RD O d z:=λO=>(GC h).1
 have h1:d.bT=false:=(GC (O:=⟨default,λ_=>False,[],[]⟩) h).2
 have X:=I5 h
 have same:ZD t d z:=⟨h0,h1,λT e=>wa⟩
 unfold z3d
 split
 ·rename_i r
  cases hs:zbo c t with
  | false=>exact same
  | true =>
   refine⟨λO => ?_,rfl,λT e=>by cases e; rfl⟩
   cases h0 O with
   | agg _ vs B ho hh =>
    have hR:wQ O (.br::r) vs:=⟨B,hh⟩
    obtain⟨v,us,rfl,g1,g2⟩:=hR.cons_inv
    have hR2:wQ O (.nw t::r) (v::us):=.cons (by cases g1; exact .nw t) g2
    exact .agg _ _ hR2.1 (λx U=>by
     rcases xG.1 U with rfl | U
     ·rfl
     ·exact ho x (xC _ U)) hR2.2
 ·exact same
theorem sS{t:Nat}{d:D}(h:KH c t=some d):∃ i z,c.P.info? t=some i/\i.zero=some z/\ZD t d z:=by
 unfold KH at h
 split at h
 ·rename_i i hi
  split at h
  ·rename_i z hz
   split at h
   ·rename_i d0 hd0
    cases h
    exact⟨i,z,hi,hz,z3e hd0⟩
   ·cases h
  ·cases h
 ·cases h
theorem L8{t:Nat}{d:Option D}{qm:St}(hI:Inv O)
  (h:(qt (p8 c t) O.st).leads (d,qm)) :
  wC c.P (do zJ (.value (<- Instr.alloc t true (.tuple #[])))) O d qm:=by
 unfold p8 at h
 split at h
 ·rename_i y hy
  obtain⟨i,z,h1,X,h3⟩:=sS hy
  obtain⟨rfl,rfl⟩:=h
  obtain⟨E,g1,g2,g3,g4,g5⟩:=PN (t:=t) hI (h3.rd O) h3.eZ h3.ty
  refine⟨E,_,_,?_,.inl rfl,g2,g3,g4,λ_ he=>by cases he; exact g5⟩
  simp[Instr.alloc,zeroValue,typeInfo,h1,X,newVar,newRow,g1]
 ·exact absurd h zi
end
end Go.AM
namespace Go.AM
set_option linter.unusedSectionVars false
variable [gB]
section
variable {c:Ctx} {O:KS}
def KS.VS(O:KS)(b:Nat)(w':World)(x:de):KS:={ O with w:=w',st:=O.st.set b x }
def KS.upd(O:KS)(b blk:Nat)(cs:Array Value)(x:de):KS:=O.VS b (O.w.setRow blk cs) x
def Alike:de->de->Prop
 | .var _,.var _=>True
 | .arr v e xs,.arr v' e' xs'=>e=e'/\v<=v'/\(v=v'->xs.length=xs'.length)
 | _,_=>False
theorem Jf{b blk n:Nat}{w':World}{x y:de}(hI:Inv O)(hp:O.ph[b]? = some (some (blk,n)))(hy:O.st[b]? = some y)(ha:Alike y x)(g:O.w.grownBy w' (some blk)):Ext O (O.VS b w' x):=by
 have wO:b<O.st.length:=(zA.1 hy).1
 have kB:∀ k,O.ok k->k≠blk:=λk hk e=>(hI.apart b blk n hp).2 (e▸hk)
 refine⟨g.os,g.tape,g.output,g.size,λk hk=>⟨hk,g.block k (hI.cq k hk) λe=>kB k hk (Option.some.inj e)⟩,λk hk=>.inl hk,λ_ _ _ h=>.inl h,?_,?_,?_,by simp[KS.VS],?_⟩
 ·intro b' d V
  refine⟨?_,rfl⟩
  simp only[KS.VS,zT]
  split
  ·rename_i e
   subst e
   rw[hy]at V; cases V
   cases x<;>simp[Alike]at ha
   simp
  ·grind
 ·intro b' v0 e VU V
  simp only[KS.VS,zT]
  split
  ·rename_i e'
   subst e'
   rw[hy]at V; cases V
   cases x<;>simp[Alike]at ha
   grind
  ·grind
 ·intro b' V
  simp only[KS.VS,zT]
  split
  ·rename_i e
   subst e
   rw[hy]at V; cases V
   simp[Alike]at ha
  ·exact V
 ·intro k hk hn
  exact g.block k hk λe=>by cases e; exact hn b n hp
theorem ID{b blk n:Nat}{w':World}{x y:de}(hI:Inv O)(hp:O.ph[b]? = some (some (blk,n)))(hy:O.st[b]? = some y)(ha:Alike y x)
  (g:O.w.grownBy w' (some blk)) (U:pX (O.VS b w' x) b x):Inv (O.VS b w' x):=by
 refine⟨by simp[KS.VS,hI.len],λk hk=>qO (hI.cq k hk) g.size,?_,hI.inj,?_,hI.gl.mono (Jf hI hp hy ha g).same⟩
 ·intro b' r7 m h
  obtain⟨h1,X⟩:=hI.apart b' r7 m h
  exact⟨qO h1 g.size,X⟩
 ·intro b' z hz
  by_cases J:b=b'
  ·subst J
   simp only[KS.VS]at hz
   grind
  ·simp only[KS.VS,zT,if_neg J]at hz
   refine(hI.blk b' z hz).mono (Jf hI hp hy ha g) rfl λr7 m h => ?_
   refine g.block r7 (hI.apart b' r7 m h).1 λe => ?_
   cases e
   exact J (hI.inj b b' _ n m hp h)
theorem Ja(w:World)(blk:Nat)(cs:Array Value):w.grownBy (w.setRow blk cs) (some blk) :=
 ⟨rfl,rfl,rfl,by rw[setRow_size]; exact zE _,λk _ hk=>setRow_other _ _ _ _ λe=>hk (by rw[e])⟩
theorem Jg{b blk n:Nat}{cs:Array Value}{x y:de}(hI:Inv O)(hp:O.ph[b]? = some (some (blk,n)))(hy:O.st[b]? = some y)(ha:Alike y x):Ext O (O.upd b blk cs x):=Jf hI hp hy ha (Ja _ _ _)
theorem Jh{b blk n:Nat}{cs:Array Value}{x y:de}(hI:Inv O)(hp:O.ph[b]? = some (some (blk,n)))(hy:O.st[b]? = some y)(ha:Alike y x)
  (U:pX (O.upd b blk cs x) b x):Inv (O.upd b blk cs x):=ID hI hp hy ha (Ja _ _ _) U
theorem DD{d d':D}{t:Nat}(h:Qi d d'=true)(V:∀ T,d.typed=some T->t=T):∀ T,d'.typed=some T->t=T:=by
 intro T hT
 unfold Qi at h
 rw[hT]at h
 cases hd0:d.typed with
 | none=>grind
 | some T' =>
  rw[hd0]at h
  have e:=zF h
  grind
theorem QM{t:Nat}{n blk o:Nat}{v:Value}{cs:Array Value}{T:TypeId}(hn:tL c t=some n)(hv:v.cells.toList.length=n)(h1:∀ u∈v.cells.toList,u.oneCell'=true)
  (hg:O.w.heap[blk]? = some (.cells cs T (0,0))) (hle:o+n<=cs.size) :
  (storeVar t ⟨blk,o,none⟩ v).run c.P O.w=.ok () (O.w.setRow blk (cs.toList.take o++v.cells.toList++cs.toList.drop (o+n)).toArray):=by
 have hs:v.cells.size=n:=by simpa using hv
 have:=run_storeCells_at c.P blk o T v.cells.toList 0 cs O.w hg (wa) h1
 simp[storeVar,run_sizeOf hn,hs,this]
theorem tZ{l:List D}{vs us:List Value}{x:List D}(h:wQ O l vs)(U:wQ O x us)(o n:Nat) :
  wQ O (l.take o++x++l.drop (o+n)) (vs.take o++us++vs.drop (o+n)):=((h.take o).append U).append (h.drop (o+n))
theorem VR{cs us:List Value}{o n:Nat}(hu:us.length=n)(ho:o+n<=cs.length)(p:Nat) :
  (cs.take o++us++cs.drop (o+n))[p]? = if p<o then cs[p]? else if p<o+n then us[p-o]? else cs[p]? := wa
theorem BZ{t:Nat}{d x r:D}{off:Nat}(h:HV c t d off x=some r):∃ n,tL c t=some n/\0<n/\(wb x).length=n/\off+n<=(wb d).length /\
  wb r=(wb d).take off++wb x++(wb d).drop (off+n)/\((∀ y∈wb d,y.one=true)->(∀ y∈wb x,y.one=true)->∀ y∈wb r,y.one=true)/\x.bT=false:=by
 unfold HV at h
 split at h
 ·cases h
 ·rename_i n hn
  cases J:xE 0 n&&qL n (wb x).length&&Nat.ble (off+n) (wb d).length with
  | false=>grind
  | true =>
   rw[J,cond_true]at h
   simp only[zI]at J
   obtain⟨⟨h0,h1⟩,X⟩:=J
   have h0':0<n:=W h0
   have Hk:n=(wb x).length:=zF h1
   have h2':=W X
   have HM:x.bT=false:=by
    cases x with
    | eZ l=>simp[wb]at Hk; omega
    | _=>rfl
   cases hw:qL n (wb d).length with
   | true =>
    have h3:n=(wb d).length:=zF hw
    have h4:off=0:=Z
    subst h4
    rw[hw,cond_true]at h
    have hr:wb r=wb x/\r.bT=false:=by
     cases ha:d.cY && !x.cY with
     | true=>rw[ha,cond_true]at h; cases h; exact⟨rfl,rfl⟩
     | false=>rw[ha,cond_false]at h; cases h; exact⟨rfl,HM⟩
    refine⟨n,hn,h0',Hk.symm,h2',?_,λ_ U y hy=>U y (hr.1▸hy),HM⟩
    rw[hr.1]
    simp[<- h3]
   | false =>
    rw[hw,cond_false]at h
    cases h
    refine⟨n,hn,h0',Hk.symm,h2',rfl,λV U y hy => ?_,HM⟩
    simp only[wb,qZ]at hy
    rcases hy with(hy | hy) | hy
    ·exact V y (List.mem_of_mem_take hy)
    ·exact U y hy
    ·exact V y (xD hy)
theorem Rg{t:Nat}{d x r:D}{off:Nat}(h:HV c t d off x=some r):d.G2=false/\r.G2=false:=by
 unfold HV at h
 split at h
 ·cases h
 ·rename_i n hn
  cases J:xE 0 n&&qL n (wb x).length&&Nat.ble (off+n) (wb d).length with
  | false=>rw[J]at h; cases h
  | true =>
   rw[J,cond_true]at h
   simp only[zI]at J
   have h0:0<n:=W J.1.1
   have h1:=zF J.1.2
   have X:=W J.2
   refine⟨by cases d<;>first | rfl | (simp[wb]at X; omega),?_⟩
   cases hw:qL n (wb d).length with
   | true =>
    rw[hw,cond_true]at h
    cases ha:d.cY && !x.cY with
    | true=>rw[ha,cond_true]at h; cases h; rfl
    | false=>rw[ha,cond_false]at h; cases h; cases x<;>first | rfl | (simp[wb]at h1; omega)
   | false=>rw[hw]at h; cases h; rfl
theorem XJ{τ:Ty}{r:D}{x:den τ}{vs:List Value}(h:p9 τ r=some x)(hr:wQ O (wb r) vs)(Q8:∀ y∈wb r,y.one=true)(ht:r.bT=false):Rc O.w O.ok τ x vs:=by
 cases r with
 | qi σ y=>obtain⟨rfl,rfl⟩:=wi h; exact Y6 _ _ hr
 | agg l =>
  have:=mV (RD.agg l vs hr.1 Q8 hr.2) h
  obtain⟨cs,h1,X⟩:=RD.dq this
  have hc:=J0 h1.len h1.one
  simp only[Value.cells]at hc
  grind
 | eZ l=>cases ht
 | BU l=>cases h
 | _ =>
  obtain⟨v,r',rfl,h1,X⟩:=wQ.cons_inv hr
  have e2:=X.wh
  subst e2
  have h3:=mV h1 h
  obtain⟨cs,h4,h5⟩:=RD.dq h3
  have hag:τ.isAgg=false:=by
   cases hta:τ.isAgg with
   | false=>rfl
   | true=>simp[p9,D.isAgg,hta]at h
  obtain⟨u,rfl⟩:=h4.single hag
  rw[GL hag]at h5
  rwa [h5]
theorem MX{t:Nat}{a x:Option D}{v u:Value}{d:Option D}{qm:St}(hI:Inv O)(ha:∀ z,a=some z->RD O z v)(U:∀ z,x=some z->RD O z u)
  (h:(qt (Yo c t a x) O.st).leads (d,qm)):wC c.P (do xF t v u; zJ .skip) O d qm:=by
 unfold Yo at h
 split at h
 ·rename_i b off y
  simp only[qt]at h
  split at h
  ·rename_i d0 J
   split at h
   ·rename_i r hr
    cases j9:Qi d0 r with
    | false=>rw[j9]at h; exact h.elim
    | true =>
    rw[j9,cond_true]at h
    simp only[T.leads,Prod.mk.injEq]at h
    obtain⟨rfl,rfl⟩:=h
    obtain⟨n,hn,h0,Ke,hle,Fs,Q8,HM⟩:=BZ hr
    cases ha _ rfl with
    | ptr _ _ blk m d1 V hp =>
     obtain⟨r7,m',cs,T,g1,g2,g3,g4,g5⟩:=(hI.blk b _ J:yf O b d0).cells (Rg hr).1
     rw[hp]at g1
     cases g1
     have hy:=U _ rfl
     have hfy:=cQ hy HM
     have M4:u.cells.toList.length=n:=by rw[<- hfy.1]; exact Ke
     have cp:off+n<=cs.size:=by have:=g4.1; simp at this; omega
     have h1:∀ z∈u.cells.toList,z.oneCell'=true:=by
      intro z hz
      obtain⟨i,hi,rfl⟩:=List.getElem_of_mem hz
      exact(hfy.2 i (hfy.1▸hi) hi).Yh (cP hy _ (qA _))
     have jV:=QM (c:=c) (O:=O) hn M4 h1 g2 cp
     have KM:Alike (.var d0) (.var r):=trivial
     let mX:=(cs.toList.take off++u.cells.toList++cs.toList.drop (off+n)).toArray
     have hex:=Jg (cs:=mX) (x:=.var r) hI hp J KM
     refine⟨O.upd b blk mX (.var r),.skip,undef,?_,.inr ⟨rfl,rfl⟩,rfl,Jh hI hp J KM ?_,hex,λ_ he=>by cases he⟩
     ·simp only[zH,xF,Instr.sureAddr,qF,Y,jV]; rfl
     ·refine .mk (Rg hr).2 ⟨blk,m,mX,T,hp,setRow_heap _ _ _ _ _ _ g2,?_,?_,Q8 g5.1 (cP hy),DD j9 g5.2⟩
      ·grind
      ·rw[Fs]; exact(tZ g4 hfy off n).mono hex
   ·exact h.elim
  ·exact h.elim
 ·rename_i b vk e idx off y
  simp only[qt]at h
  split at h
  ·rename_i dZ e' xs J
   cases he:decide (e'=e)with
   | false=>rw[he]at h; exact h.elim
   | true =>
    rw[he,cond_true]at h
    have LU:e'=e:=uY he
    subst LU
    obtain⟨⟨rfl,wO⟩,h⟩:=h
    split at h
    ·rename_i r hr
     split at h
     ·rename_i z hz
      simp only[T.leads,Prod.mk.injEq]at h
      obtain⟨rfl,rfl⟩:=h
      obtain⟨n,hn,h0,Ke,hle,Fs,Q8,HM⟩:=BZ hr
      cases ha _ rfl with
      | gW _ _ _ _ _ blk o hold hp =>
       obtain⟨m,p1,rfl⟩:=hp xs J wO
       obtain⟨cp,⟨YW,_⟩ | ⟨r7,n',cs,T,g1,g2,g3,g4,gr,f,g5⟩⟩:=hI.blk b _ J
       ·grind
       ·rw[p1]at g1
        cases g1
        rw[getD_lt wO]at hr Fs hle Q8
        have hy:=U _ rfl
        have hfy:=cQ hy HM
        have M4:u.cells.toList.length=n:=by rw[<- hfy.1]; exact Ke
        obtain⟨k1,k2⟩:=g5 idx wO
        have Fp:=k1.len
        have HH:off+n<=e'.size:=by simpa[wb,Ur]using hle
        have ztP:idx*e'.size+e'.size<=xs.length*e'.size:=by rw[<- qB]; exact I _ wO
        have SJ:idx*e'.size+off+n<=cs.size:=Z
        have h1:∀ z∈u.cells.toList,z.oneCell'=true:=by
         intro z hz
         obtain⟨i,hi,rfl⟩:=List.getElem_of_mem hz
         exact(hfy.2 i (hfy.1▸hi) hi).Yh (cP hy _ (qA _))
        have jV:=QM (c:=c) (O:=O) hn M4 h1 g2 SJ
        have KM:Alike (.arr vk e' xs) (.arr vk e' (xs.set idx z)):=⟨rfl,zE _,λ_=>qu⟩
        let mX:=(cs.toList.take (idx*e'.size+off)++u.cells.toList++cs.toList.drop (idx*e'.size+off+n)).toArray
        have hex:=Jg (cs:=mX) (x:=.arr vk e' (xs.set idx z)) hI p1 J KM
        refine⟨O.upd b blk mX (.arr vk e' (xs.set idx z)),.skip,undef,?_,.inr ⟨rfl,rfl⟩,rfl,Jh hI p1 J KM ?_,hex,λ_ he=>by cases he⟩
        ·simp only[zH,xF,Instr.sureAddr,qF,Y,jV]; rfl
        ·have hlen:mX.size=cs.size:=by simp[mX,M4]; omega
         refine⟨cp,.inr ⟨blk,m,mX,T,p1,setRow_heap _ _ _ _ _ _ g2,by rw[hlen]; exact g3,by simpa using g4,?_⟩⟩
         -- cells of the element that is written
         let fi:=(f idx).take off++u.cells.toList++(f idx).drop (off+n)
         have zoF:wQ O (wb r) fi:=by
          rw[Fs]
          exact tZ (Xo k1) hfy off n
         have hrt:r.bT=false:=by
          cases r with
          | eZ l =>
           have h6:=congrArg zS Fs
           rw[zK,zK,Ke]at h6
           have h7:(wb (D.eZ l)).length=0:=rfl
           omega
          | _=>rfl
         have Ee:=XJ hz zoF (Q8 (rR _ _) (cP hy)) hrt
         have HE:∀ p,mX[p]? = if p<idx*e'.size+off then cs[p]? else if p<idx*e'.size+off+n then u.cells.toList[p-(idx*e'.size+off)]? else cs[p]? := by
          intro p
          have:=VR (cs:=cs.toList) (us:=u.cells.toList) M4 (by simpa using SJ) p
          simpa only[mX,xA,zV]using this
         have zoE:∀ j,fi[j]? = if j<off then(f idx)[j]? else if j<off+n then u.cells.toList[j-off]? else(f idx)[j]? := λj=>VR M4 (Z) j
         refine⟨gr,λi=>if i=idx then fi else f i,λi hi => ?_⟩
         rw[List.length_set]at hi
         by_cases hii:i=idx
         ·subst hii
          simp only[if_true,List.getElem_set_self]
          refine⟨Ee.mono hex.same,λj w hj => ?_⟩
          rw[zoE]at hj
          rw[HE]
          split at hj
          ·rw[if_pos (Z)]; exact k2 j w hj
          ·split at hj
           ·rw[if_neg (Z),if_pos (Z)]; rw[<- hj]; congr 1; omega
           ·rw[if_neg (Z),if_neg (Z)]; exact k2 j w hj
         ·simp only[if_neg hii]
          obtain⟨q1,q2⟩:=g5 i hi
          refine⟨by rw[List.getElem_set_ne (λe=>hii e.symm)]; exact q1.mono hex.same,λj w hj => ?_⟩
          have TX:j<e'.size:=by rw[<- q1.len]; exact(zA.1 hj).1
          rw[HE]
          rcases Nat.lt_or_gt_of_ne hii with HJ | hgt'
          ·have:i*e'.size+e'.size<=idx*e'.size:=by rw[<- qB]; exact I _ HJ
           rw[if_pos (Z)]; exact q2 j w hj
          ·have:idx*e'.size+e'.size<=i*e'.size:=by rw[<- qB]; exact I _ hgt'
           rw[if_neg (Z),if_neg (Z)]; exact q2 j w hj
     ·exact h.elim
    ·exact h.elim
  ·exact h.elim
 ·exact absurd h zi
end
end Go.AM
namespace Go.AM
set_option linter.unusedSectionVars false
variable [gB]
section
variable {c:Ctx} {O:KS}
theorem Ka:∀ (vs:List Value) (cells:Array Value) (off k:Nat),off+k+vs.length<=cells.size ->
  ((vs.zipIdx k).foldl (λ(cs:Array Value) (p:Value×Nat)=>cs.setIfInBounds (off+p.2) p.1) cells).toList=cells.toList.take (off+k)++vs++cells.toList.drop (off+k+vs.length)
 | [],cells,off,k,_=>qu
 | v::vs,cells,off,k,h=>by
  simp only[qV]at h
  simp only[List.zipIdx_cons,List.foldl_cons]
  rw[Ka vs _ off (k+1) (by simp; omega)]
  have wO:off+k<cells.toList.length:=by simp; omega
  simp only[Array.toList_setIfInBounds,qV]
  have e1:(cells.toList.set (off+k) v).take (off+(k+1))=cells.toList.take (off+k)++[v]:=by
   rw[show off+(k+1)=off+k+1 by omega,qJ (by simpa using wO)]
   rw[List.take_set_of_le (zE _)]
   simp
  have e2:(cells.toList.set (off+k) v).drop (off+(k+1)+vs.length)=cells.toList.drop (off+k+(vs.length+1)):=by
   rw[List.drop_set_of_lt (Z)]
   grind
  grind
theorem F6{place:Nat->Option (Nat×Nat)}{cells:Array Value}{i off size:Nat}{v:Value}{rest:List (Nat×Value)}(hp:place i=some (off,size))(hs:v.cells.toList.length=size)(hle:off+size<=cells.size) :
  qH place cells ((i,v)::rest)=qH place (cells.toList.take off++v.cells.toList++cells.toList.drop (off+size)).toArray rest:=by
 have hs':v.cells.size=size:=by simpa using hs
 have hf:=Ka v.cells.toList cells off 0 (wa)
 simp only[hs]at hf
 conv=>lhs; unfold qH
 simp only[hp]
 rw[if_neg (wa)]
 congr 1
 apply Array.ext'
 rw[<- Array.foldl_toList,Array.toList_zipIdx]
 exact hf
theorem BA{e:Ty}{x:den e}{v:Value}(h:RD O (.qi e x) v):Rc O.w O.ok e x v.cells.toList:=by
 obtain⟨cs,h1,rfl⟩:=RD.dq h
 rw[J0 h1.len h1.one]; exact h1
theorem Br{e:Ty}{F:Operand->Option D}{G:Operand->Value}(hF:∀ x d,F x=some d->RD O d (G x)):∀ (L:List (Nat×Operand)) (k:Nat) (cells:Array Value) (l:List (den e)),
  Bq e k (L.map λp=>(p.1,F p.2))=some l->(k+L.length)*e.size<=cells.size ->
  ∃ rf,qH (λi=>some (i*e.size,e.size)) cells (L.map λp=>(p.1,G p.2))=some rf/\rf.size=cells.size/\(∀ p,p<k*e.size->rf[p]? = cells[p]?)/\l.length=L.length /\
   ∃ f:Nat->List Value,∀ i (hi:i<l.length),Rc O.w O.ok e l[i] (f i)/\∀ j v,(f i)[j]? = some v->rf[(k+i)*e.size+j]? = some v
 | [],k,cells,l,h,_=>by
  simp only[List.map_nil,Bq,Option.some.injEq]at h
  subst h
  exact⟨cells,rfl,rfl,λ_ _=>rfl,rfl,λ_=>[],λi hi=>absurd hi (zW i)⟩
 | (i,x)::L,k,cells,l,h,hle=>by
  simp only[List.map_cons]at h
  cases U:F x with
  | none=>rw[U]at h; simp[Bq]at h
  | some d =>
   rw[U]at h
   simp only[Bq]at h
   cases J:qL k i with
   | false=>grind
   | true =>
    have hik:k=i:=zF J
    subst hik
    rw[J,cond_true]at h
    split at h
    ·rename_i y l' hy M0
     cases h
     have hr:=BA (mV (hF x d U) hy)
     have hlen:=hr.len
     simp only[qV]at hle
     have hk1:(k+(L.length+1))*e.size=k*e.size+e.size+L.length*e.size:=by rw[qD,qD]; omega
     have eW:k*e.size+e.size<=cells.size:=Z
     let c1:=(cells.toList.take (k*e.size)++(G x).cells.toList++cells.toList.drop (k*e.size+e.size)).toArray
     have SC:c1.size=cells.size:=by simp only[c1,zY,zK,zU,qK,hlen,qG]; omega
     have hg:∀ p,c1[p]? = if p<k*e.size then cells[p]? else if p<k*e.size+e.size then(G x).cells.toList[p-k*e.size]? else cells[p]? := by
      grind
     obtain⟨rf,h1,X,h3,h4,f,h5⟩:=Br hF L (k+1) c1 l' M0 (by rw[SC,show k+1+L.length=k+(L.length+1) by omega]; exact hle)
     refine⟨rf,?_,X.trans SC,?_,by simp[h4],λi=>match i with | 0=>(G x).cells.toList | i+1=>f i,?_⟩
     ·simp only[List.map_cons]
      rw[F6 rfl hlen eW]
      exact h1
     ·grind
     ·intro i hi
      cases i with
      | zero =>
       grind
      | succ i =>
       have:=h5 i (by simpa using hi)
       rw[show k+1+i=k+(i+1) by omega]at this
       exact this
    ·cases h
theorem sX{t n:Nat}(h:r9 c t=some n):∃ i,c.P.info? t=some i/\i.bytes=n:=by
 unfold r9 at h
 cases hi:c.P.info? t with
 | none=>grind
 | some i=>grind
theorem iu{et:Nat}{e:Ty}{z:den e}(h:zeroOf c et e=some z):∃ i v,c.P.info? et=some i/\i.zero=some v/\Rc O.w O.ok e z v.cells.toList:=by
 unfold zeroOf at h
 split at h
 ·rename_i d V
  obtain⟨i,v,h1,X,h3⟩:=sS V
  exact⟨i,v,h1,X,BA (mV (h3.rd O) h)⟩
 ·cases h
theorem KJ{t n:Nat}{L:List (Nat×Operand)}{F:Operand->Option D}{G:Operand->Value}{d:Option D}{qm:St}(hI:Inv O)(hF:∀ x d,F x=some d->RD O d (G x))
  (h:(qt (cy c t n (L.map λp=>(p.1,F p.2))) O.st).leads (d,qm)) :
  wC c.P (do zJ (.value (<- zQ t n (L.map λp=>(p.1,G p.2)).toArray))) O d qm:=by
 unfold cy at h
 split at h
 ·exact absurd h zi
 ·rename_i et het
  have hu:=ga het
  split at h
  ·rename_i e NS
   cases J:cH c et e&&qL n (L.map λp=>(p.1,F p.2)).length&&Nat.ble n 1000&&Nat.ble e.size 100&&(zeroOf c et e).isSome with
   | false=>rw[J]at h; exact absurd h zi
   | true =>
    rw[J,cond_true]at h
    simp only[zI]at J
    obtain⟨⟨⟨⟨j9,hn⟩,h1⟩,X⟩,h3⟩:=J
    have hn':n=L.length:=by have:=zF hn; simpa using this
    have Hk:=W h1
    have h2':=W X
    obtain⟨hs,_⟩:=ko j9
    obtain⟨z,hz⟩:=zZ.1 h3
    obtain⟨i,zv,D3,Jm,hi3⟩:=iu (O:=O) hz
    split at h
    ·rename_i l B
     cases IW:qL n 0&&xE 0 e.size with
     | true =>
     rw[IW,cond_true]at h
     simp only[zI]at IW
     obtain⟨IW,cp⟩:=IW
     have SJ:0<e.size:=W cp
     have TY:=zF IW
     have hL:L=[]:=zM (hn'.symm.trans TY)
     subst hL
     subst TY
     simp only[qt,T.leads,Prod.mk.injEq]at h
     obtain⟨rfl,rfl⟩:=h
     have g:=nq.alloc O.w (.cells #[] et)
     have hex:=ZE (n:=0) (x:=.arr 0 e ([]:List (den e))) hI g
     have jV:(zQ t 0 (([]:List (Nat×Operand)).map λp=>(p.1,G p.2)).toArray).run c.P O.w=.ok (.slice (some ⟨O.w.heap.size,0,none⟩) 0 0) (O.w.alloc (.cells #[] et)):=by
      simp[zQ,zH,run_underlying hu,Y,run_sizeOf hs,qH,newRow]
      grind
     refine⟨O.add _ 0 (.arr 0 e []),_,.slice (some ⟨O.w.heap.size,0,none⟩) 0 0,by simp only[zH,jV,Y]; rfl,.inl rfl,rfl,U4 hI g ?_,hex,?_⟩
     ·exact⟨SJ,.inr ⟨O.w.heap.size,0,#[],et,tQ hI,g.new,rfl,qu,UW j9,λ_=>[],λi hi=>absurd hi (zW i)⟩⟩
     ·intro d' dM
      cases dM
      refine .ms _ 0 e 0 0 0 _ (.inr ⟨0,e,_,X1,zE _⟩) (Z) nofun (λp hp=>by cases hp; rfl) λxs YY => ?_
      rw[X1]at YY
      cases YY
      exact⟨qu,.inr ⟨O.w.heap.size,0,0,0,tQ hI,rfl,Z,qu,.inl rfl⟩⟩
     | false =>
     rw[IW,cond_false,dP]at h
     obtain⟨rfl,rfl⟩:=h
     subst hn'
     have hle:L.length*e.size<=100000:=qN (Nat.mul_le_mul Hk h2') (qj)
     have hzs:zv.cells.size=e.size:=by have:=hi3.len; simpa using this
     let cells:Array Value:=(xK (L.length*e.size)).map ((if L.length*e.size=0 then #[]else zv.cells)[· % (if L.length*e.size=0 then #[]else zv.cells).size]!)
     have QY:cells.size=L.length*e.size:=by simp[cells]
     obtain⟨rf,g1,g2,_,g4,f,g5⟩:=Br hF L 0 cells l B (by rw[QY]; simp)
     have g:=nq.alloc O.w (.cells rf et)
     have hex:=Wh hI g
     refine⟨O.qi _,_,.slice (some ⟨O.w.heap.size,0,none⟩) L.length L.length,?_,.inl rfl,rfl,dq hI g,hex,?_⟩
     ·have Fq:qH (λi=>some (i*e.size,e.size)) cells (L.map λp=>(p.1,G p.2))=some rf:=g1
      simp only[cells]at Fq
      simp only[zQ,zH,run_underlying hu,Y,run_sizeOf hs,gt_iff_lt,if_neg (show ¬ 2 ^ 24<L.length*e.size by omega)]
      by_cases h0:L.length*e.size=0
      ·simp only[if_pos h0]at Fq ⊢
       simp only[zH,qF,Y,Fq]
       rfl
      ·simp only[if_neg h0]at Fq ⊢
       simp only[zH,qF,Y,zeroValue,typeInfo,run_program,D3,Jm,Fq]
       rfl
     ·intro d' dM
      cases dM
      have eW:∀ i,i<l.length->∀ j v,(f i)[j]? = some v->(O.qi (O.w.alloc (.cells rf et))).w.cell? ⟨O.w.heap.size,0+i*e.size+j,none⟩=some v:=by
       intro i hi j v hj
       have:=(g5 i hi).2 j v hj
       simp only[qE]at this ⊢
       rw[Wn (O:=O.qi (O.w.alloc (.cells rf et))) g.new]
       exact this
      rw[<- g4]
      refine .tight e l _ O.w.heap.size 0 f ?_ (.inr rfl) (λi hi=>(g5 i hi).1.mono hex.same) eW
      intro kB YW
      subst YW
      simp at g4
      simp[<- g4]at kB
    ·exact absurd h zi
  ·exact absurd h zi
end
end Go.AM
namespace Go.AM
set_option linter.unusedSectionVars false
variable [gB]
section
variable {c:Ctx} {O:KS}
theorem Td{t:Nat}{x y:Option D}{v u:Value}{d:Option D}{qm:St}(hI:Inv O)(U:∀ z,x=some z->RD O z v)(hy:∀ z,y=some z->RD O z u)
  (h:(qt (Mf c t x y) O.st).leads (d,qm)):wC c.P (do zJ (.value (<- qY t v u))) O d qm:=by
 unfold Mf at h
 split at h
 ·rename_i et k n k' m het hn hm
  have hu:=ga het
  have:=kI hn U
  subst this
  have:=kI hm hy
  subst this
  split at h
  ·rename_i e bytes NS D1
   split at h
   ·rename_i z hz
    cases J:cH c et e&&xE 0 e.size with
    | false=>rw[J]at h; exact absurd h zi
    | true =>
     rw[J,cond_true]at h
     simp only[zI]at J
     obtain⟨j9,cp⟩:=J
     have SJ:0<e.size:=W cp
     obtain⟨hs,_⟩:=ko j9
     simp only[qt,T.leads,Prod.mk.injEq]at h
     obtain⟨⟨h0,h1,X,h3⟩,rfl,rfl⟩:=h
     obtain⟨i,zv,D3,Jm,hi3⟩:=iu (O:=O) hz
     obtain⟨ib,zhf,zoH⟩:=sX D1
     obtain⟨i',zhd,ztO⟩:=mO hs
     rw[D3]at zhf zhd
     cases zhf
     cases zhd
     have hzs:zv.cells.size=e.size:=by have:=hi3.len; simpa using this
     let N:=m.toNat*e.size
     let cells:Array Value:=(xK N).map (zv.cells[· % zv.cells.size]!)
     have QY:cells.size=N:=by simp[cells]
     have jV:(qY t (.int k n) (.int k' m)).run c.P O.w=.ok (.slice (some ⟨O.w.heap.size,0,none⟩) n.toNat m.toNat) (O.w.alloc (.cells cells et)):=by
      have w1:IntKind.i64.wrap n=n:=IntWalk.i64_in _ (Z)
      have w2:IntKind.i64.wrap m=m:=IntWalk.i64_in _ (Z)
      have hmb:¬ ((2:Int) ^ 48<bytes*m):=by
       grind
      have ai:∀ k n w,(Go.asInt (.int k n)).run c.P w=.ok n w:=λk n w=>by simp[Go.asInt,asIntOf]
      have hm0:¬ (m<0):=Z
      have TY:¬ (n<0):=Z
      have hnm:¬ (m<n):=Z
      simp only[qY,zH,run_underlying hu,Y,ai,typeInfo,run_program,D3,zoH,w1,w2,qF,gt_iff_lt,hm0,TY,hnm,hmb,decide_false,Bool.or_self,Bool.false_eq_true,if_false,run_askRoom,run_sizeOf hs]
      by_cases IW:m.toNat*e.size=0
      ·have hce:cells = #[]:=Array.eq_empty_of_size_eq_zero (by rw[QY]; exact IW)
       have e2:∀ g:Nat->Value,(xK (m.toNat*e.size)).map g = #[]:=λg=>by rw[IW]; simp
       simp only[if_pos IW,zH,qF,Y,newRow,run_newObj,e2]
       rw[hce]
       rfl
      ·simp only[if_neg IW,zH,qF,Y,newRow,run_newObj,zeroValue,typeInfo,run_program,D3,Jm]
       rfl
     have g:=nq.alloc O.w (.cells cells et)
     have hex:=ZE (n:=N) (x:=.arr n.toNat e (List.replicate n.toNat z)) hI g
     refine⟨O.add _ N (.arr n.toNat e (List.replicate n.toNat z)),_,.slice (some ⟨O.w.heap.size,0,none⟩) n.toNat m.toNat,by simp only[zH,jV,Y]; rfl,.inl rfl,rfl,U4 hI g ?_,hex,?_⟩
     ·refine⟨SJ,.inr ⟨O.w.heap.size,N,cells,et,tQ hI,g.new,QY,?_,UW j9,λ_=>zv.cells.toList,λi hi => ?_⟩⟩
      ·rw[xB]; exact I _ (Z)
      ·rw[xB]at hi
       refine⟨by rw[List.getElem_replicate]; exact hi3.mono hex.same,λj w hj => ?_⟩
       have TX:j<e.size:=by rw[<- hi3.len]; exact(zA.1 hj).1
       have wO:i*e.size+j<N:=by
        have:i*e.size+e.size<=N:=by rw[<- qB]; exact I _ (Z)
        omega
       have zcV:(i*e.size+j) % e.size=j:=by rw[Nat.mul_comm,Nat.mul_add_mod,Nat.mod_eq_of_lt TX]
       grind
     ·intro d' dM
      cases dM
      refine .ms _ n.toNat e 0 n.toNat m.toNat _ (.inr ⟨n.toNat,e,_,X1,zE _⟩) (Z) nofun (λp hp=>by cases hp; rfl) λxs YY => ?_
      rw[X1]at YY
      cases YY
      refine⟨qu,.inr ⟨O.w.heap.size,N,0,m.toNat,tQ hI,rfl,Z,by simp[N],.inr (qu)⟩⟩
   ·exact absurd h zi
  ·exact absurd h zi
 ·exact absurd h zi
end
end Go.AM
namespace Go.AM
set_option linter.unusedSectionVars false
variable [gB]
section
variable {c:Ctx} {O:KS}
def eH(f:Nat->List Value):Nat->List Value
 | 0=>[]
 | n+1=>eH f n++f n
theorem gN{f:Nat->List Value}{s:Nat}:∀ {n:Nat},(∀ i,i<n->(f i).length=s)->(eH f n).length=n*s
 | 0,_=>by simp[eH]
 | n+1,h=>by rw[eH,zK,gN (λi hi=>h i (Z)),h n (Z),qD]; omega
theorem Zg{f:Nat->List Value}{s:Nat}:∀ {n:Nat},(∀ i,i<n->(f i).length=s)->∀ i j,i<n->j<s->(eH f n)[i*s+j]? = (f i)[j]?
 | 0,_,i,_,hi,_=>absurd hi (zW i)
 | n+1,h,i,j,hi,hj=>by
  have B:=gN (f:=f) (n:=n) (λi hi=>h i (Z))
  rw[eH]
  by_cases JE:i<n
  ·have:i*s+s<=n*s:=by rw[<- qB]; exact I _ JE
   rw[zG (Z)]
   exact Zg (λi hi=>h i (Z)) i j JE hj
  ·grind
theorem Bu{f:Nat->List Value}:∀ {n:Nat},(∀ i,i<n->∀ v∈f i,v.oneCell'=true)->∀ v∈eH f n,v.oneCell'=true
 | 0,_,v,hv=>by simp[eH]at hv
 | n+1,h,v,hv=>by
  rw[eH,qZ]at hv
  rcases hv with hv | hv
  ·exact Bu (λi hi=>h i (Z)) v hv
  ·grind
theorem F7{f:Nat->List Value}{s:Nat}{n p:Nat}{v:Value}(hs:0<s)(h:∀ i,i<n->(f i).length=s)(hp:(eH f n)[p]? = some v):∃ i j,i<n/\j<s/\p=i*s+j/\(f i)[j]? = some v:=by
 have wO:=(zA.1 hp).1
 rw[gN h]at wO
 have hi:p / s<n:=(Nat.div_lt_iff_lt_mul hs).2 wO
 have hj:=Nat.mod_lt p hs
 have he:p / s*s+p % s=p:=Nat.div_add_mod' p s
 refine⟨p / s,p % s,hi,hj,he.symm,?_⟩
 rw[<- Zg h _ _ hi hj,he]; exact hp
def okS(O:KS):Nat->Prop:=λk=>O.ok k\/∃ b n:Nat,O.ph[b]? = some (some (k,n))
structure Src(O:KS)(e:Ty)(ys:List (den e))(v:Value):Prop where
 ex:∃ (a:Option Addr) (cap:Nat) (f:Nat->List Value),v=.slice a ys.length cap/\ys.length<=cap/\(a=none->ys=[]/\cap=0)/\(∀ i (hi:i<ys.length),Rc O.w O.ok e ys[i] (f i)) /\
  ∀ p,a=some p->(ys=[]/\cap=0)\/(p.spot=none/\okS O p.block/\∀ i,i<ys.length->∀ j u,(f i)[j]? = some u->O.w.cell? ⟨p.block,p.off+i*e.size+j,none⟩=some u)
theorem DO{e:Ty}{ys:List (den e)}{v:Value}(h:RD O (.qi (.sl e) ys) v):Src O e ys v:=by
 rcases(h.jQ rfl).tY with⟨rfl,a0,he⟩ | ⟨blk,off,cap,f,he,j9,jq,h1,X⟩
 ·cases he; exact⟨⟨a0,0,λ_=>[],rfl,zE _,λ_=>⟨rfl,rfl⟩,λi hi=>absurd hi (zW i),λ_ _=>.inl ⟨rfl,rfl⟩⟩⟩
 ·cases he; exact⟨⟨some ⟨blk,off,none⟩,cap,f,rfl,jq,nofun,h1,λp hp=>by cases hp; exact .inr ⟨rfl,.inl j9,X⟩⟩⟩
theorem WD{e:Ty}{ys:List (den e)}{ne:Bool}{v:Value}(h:RD O (.tight e ys ne) v):Src O e ys v:=by
 cases h with
 | vD _ a0=>exact⟨⟨a0,0,λ_=>[],rfl,zE _,λ_=>⟨rfl,rfl⟩,λi hi=>absurd hi (zW i),λ_ _=>.inl ⟨rfl,rfl⟩⟩⟩
 | tight _ _ _ blk off f kB j9 h1 X=>exact⟨⟨some ⟨blk,off,none⟩,_,f,rfl,zE _,nofun,h1,λp hp=>by cases hp; exact .inr ⟨rfl,.inl j9,X⟩⟩⟩
theorem Yn{e:Ty}{v:Value}(h:RD O .wH v):Src O e [] v:=by
 cases h; exact⟨⟨none,0,λ_=>[],rfl,zE _,λ_=>⟨rfl,rfl⟩,λi hi=>absurd hi (zW i),nofun⟩⟩
theorem MS{b vk off len:Nat}{e:Ty}{xs:List (den e)}{v:Value}(hI:Inv O)(h:RD O (.ms b vk e off len) v)(J:O.st[b]? = some (.arr vk e xs)):Src O e ((xs.take (off+len)).drop off) v/\off+len<=xs.length:=by
 cases h with
 | ms _ _ _ _ _ cap a hold jq ha WO hm =>
  obtain⟨hle,hm⟩:=hm xs J
  have B:((xs.take (off+len)).drop off).length=len:=by simp; omega
  have hg:∀ i (hi:i<((xs.take (off+len)).drop off).length),∃ h:off+i<xs.length,((xs.take (off+len)).drop off)[i]=xs[off+i]:=λi hi=>⟨Z,by simp[List.getElem_drop,List.getElem_take]⟩
  refine⟨?_,hle⟩
  rcases hm with⟨rfl,rfl,hv,hp⟩ | ⟨blk,n,o,U8,h3,h4,h5,h6,h7⟩
  ·cases hv
   have:(xs.take (0+0)).drop 0=[]:=qu
   rw[this]
   exact⟨⟨none,0,λ_=>[],rfl,zE _,λ_=>⟨rfl,rfl⟩,λi hi=>absurd hi (zW i),nofun⟩⟩
  ·cases h4
   obtain⟨cp,⟨YW,_⟩ | ⟨r7,n',cs,T,g1,g2,g3,g4,gr,f,g5⟩⟩:=hI.blk b _ J
   ·grind
   ·rw[h3]at g1
    cases g1
    refine⟨⟨some ⟨blk,o,none⟩,cap,λi=>f (off+i),by rw[B],by rw[B]; exact jq,nofun,λi hi => ?_,λp hp => ?_⟩⟩
    ·grind
    ·cases hp
     refine .inr ⟨rfl,.inr ⟨b,n,h3⟩,λi hi j u hj => ?_⟩
     obtain⟨k1,_⟩:=hg i hi
     have:=(g5 _ k1).2 j u hj
     rw[Wn g2]
     rcases h7 with h7 | h7
     ·omega
     ·rw[h7,<- qD]; exact this
theorem WC{e:Ty}{ys:List (den e)}{v:Value}(h:Src O e ys v)(cp:0<e.size):∃ (news:List Value) (f:Nat->List Value),news=eH f ys.length/\(∀ i (hi:i<ys.length),Rc O.w O.ok e ys[i] (f i)) /\
  (∀ P,(qS v).run P O.w=.ok ys.length O.w)/\(∀ P,(zO e.size ys.length v).run P O.w=.ok news.toArray O.w)/\(∀ P,(zO e.size ys.length v).run P O.w.drew=.ok news.toArray O.w.drew):=by
 obtain⟨a,cap,f,rfl,_,hn,h1,X⟩:=h.ex
 have hf:∀ i,i<ys.length->(f i).length=e.size:=λi hi=>(h1 i hi).len
 refine⟨eH f ys.length,f,rfl,h1,λP=>rfl,λP => ?_,λP => ?_⟩
 all_goals
  cases a with
  | none=>have:=(hn rfl).1; subst this; simp[zO,eH]
  | some p =>
   rcases X p rfl with⟨rfl,_⟩ | ⟨hp,_,hc⟩
   ·simp[zO,eH,loadCells,loadCellsFrom]
   obtain⟨blk,o,sp⟩:=p
   subst hp
   refine run_firstCells_some (P:=P) _ e.size ys.length ⟨blk,o,none⟩ ys.length cap (eH f ys.length) (gN hf) λj u hj => ?_
   obtain⟨i,k,hi,hk,rfl,hu⟩:=F7 cp hf hj
   rw[addr_add]
   try rw[World.cell?_drew]
   grind
structure Cel(O:KS)(e:Ty)(ys:List (den e))(v:Value):Prop where
 ex:∃ (news:List Value) (f:Nat->List Value),news=eH f ys.length/\(∀ i (hi:i<ys.length),Rc O.w O.ok e ys[i] (f i)) /\
  (∀ P,(qS v).run P O.w=.ok ys.length O.w)/\(∀ P,(zO e.size ys.length v).run P O.w=.ok news.toArray O.w)/\(∀ P,(zO e.size ys.length v).run P O.w.drew=.ok news.toArray O.w.drew)
theorem z9Z{e:Ty}{ys:List (den e)}{v:Value}(h:Src O e ys v)(cp:0<e.size):Cel O e ys v:=⟨WC h cp⟩
def S0(c:Ctx)(t2:TypeId):Prop:=(∃ e,c.P.underlying t2=some (.slice e))\/c.P.underlying t2=some .string
section run
variable {t t2 e:TypeId} {i:TypeInfo} {z:Value} {sLen sCap n:Nat} {base:Option Addr} {x:Value} {news olds:List Value} {ty:TypeId}
theorem run_append_fits(ht:c.P.underlying t=some (.slice e))(SK:S0 c t2)(hi:c.P.info? e=some i)(hlen:∀ P,(qS x).run P O.w=.ok n O.w)(hf:∀ P,(zO i.size n x).run P O.w=.ok news.toArray O.w)
  (QL:sLen+n<=sCap) {w':World} (ud:(match base with | some a=>storeCells (a.add (sLen*i.size)) news | none=>pure ()).run c.P O.w=.ok () w') :
  (zL #[t,t2] ty #[.slice base sLen sCap,x]).run c.P O.w=.ok (.slice base (sLen+n) sCap) w':=by
 rcases SK with⟨e2,SK⟩ | SK
 all_goals cases base with
 | none=>simp at ud; subst ud; simp[zL,run_underlying ht,run_underlying SK,sizeOf,typeInfo,hi,hlen,QL,hf]
 | some a=>simp only at ud; simp[zL,run_underlying ht,run_underlying SK,sizeOf,typeInfo,hi,hlen,QL,hf,ud]
theorem sy(ht:c.P.underlying t=some (.slice e))(SK:S0 c t2)(hi:c.P.info? e=some i)(hz:i.zero=some z)(hlen:∀ P,(qS x).run P O.w=.ok n O.w)(hf:∀ P,(zO i.size n x).run P O.w.drew=.ok news.toArray O.w.drew)
  (ho:∀ P,(zO i.size sLen (.slice base sLen sCap)).run P O.w.drew=.ok olds.toArray O.w.drew)
  (hg:sCap<sLen+n) (h63:((sLen+n:Nat):Int)<=9223372036854775807) (J:(sLen+n)*i.bytes<=140737488355328) :
  (zL #[t,t2] ty #[.slice base sLen sCap,x]).run c.P O.w=.ok (.slice (some ⟨O.w.heap.size,0,none⟩) (sLen+n) (grownCap O.w (sLen+n) sCap e))
   (O.w.drew.alloc (.cells (olds.toArray++news.toArray++zX z.cells (grownCap O.w (sLen+n) sCap e-(sLen+n))) e)):=by
 have h1:¬ (sLen+n<=sCap):=Z
 have X:¬ (9223372036854775807<((sLen+n:Nat):Int)):=Z
 have h3:=growslice_fits (bytes:=i.bytes) hg J
 have h4:¬ (281474976710656<Builtin.nextslicecap (sLen+n) sCap*i.bytes):=Z
 have h5:IntKind.i64.max=9223372036854775807:=qj
 rcases SK with⟨e2,SK⟩ | SK
 all_goals
  simp[zL,run_underlying ht,run_underlying SK,sizeOf,typeInfo,zeroValue,hi,hz,hlen,hf,ho,Question.forced,newRow,grownCap]
  grind
end run
theorem XZ(z:Array Value)(n:Nat):(zX z n).size=n*z.size:=by simp[zX]
theorem G4{e:Ty}{l ys:List (den e)}{f g:Nat->List Value}(B:∀ i (hi:i<l.length),Rc O.w O.ok e l[i] (f i))(hy:∀ i (hi:i<ys.length),Rc O.w O.ok e ys[i] (g i))(zs:List Value) :
  ∀ i (hi:i<(l++ys).length),Rc O.w O.ok e (l++ys)[i] (if i<l.length then f i else g (i-l.length)) /\
   ∀ j v,(if i<l.length then f i else g (i-l.length))[j]? = some v->(eH f l.length++eH g ys.length++zs)[i*e.size+j]? = some v:=by
 have Ke:∀ i,i<l.length->(f i).length=e.size:=λi hi=>(B i hi).len
 have TV:∀ i,i<ys.length->(g i).length=e.size:=λi hi=>(hy i hi).len
 have h1:=gN Ke
 have X:=gN TV
 intro i hi
 by_cases SF:i<l.length
 ·simp only[if_pos SF]
  refine⟨wa,λj v hj => ?_⟩
  have TX:j<e.size:=by rw[<- Ke i SF]; exact(zA.1 hj).1
  have:i*e.size+e.size<=l.length*e.size:=by rw[<- qB]; exact I _ SF
  rw[qI,zG (Z),Zg Ke i j SF TX]
  exact hj
 ·simp only[if_neg SF]
  simp only[zK]at hi
  have zcP:i-l.length<ys.length:=Z
  refine⟨wa,λj v hj => ?_⟩
  have TX:j<e.size:=by rw[<- TV _ zcP]; exact(zA.1 hj).1
  have e1:i*e.size=l.length*e.size+(i-l.length)*e.size:=by rw[<- qD]; congr 1; omega
  have:(i-l.length)*e.size+e.size<=ys.length*e.size:=by rw[<- qB]; exact I _ zcP
  rw[qI,qC (Z),h1,zG (Z)]
  rw[show i*e.size+j-l.length*e.size=(i-l.length)*e.size+j by omega,Zg TV _ j zcP TX]
  exact hj
theorem La{t t2 et:Nat}{e:Ty}{l ys:List (den e)}{sv v:Value}{bytes:Nat}{ty:Nat}(hI:Inv O)(hu:c.P.underlying t=some (.slice et))(Ef:S0 c t2)(j9:cH c et e=true)(cp:0<e.size)(D1:r9 c et=some bytes)(hz:∃ y,zeroOf c et e=some y)
  (hs:Src O e l sv) (jq:∃ a,sv=.slice a l.length l.length) (hv:Cel O e ys v) (kB:ys≠[]) (J:(l.length+ys.length)*bytes<=140737488355328) (hn:l.length+ys.length<=9223372036854775807) :
  ∃ (E:KS) (r:Value),(zL #[t,t2] ty #[sv,v]).run c.P O.w=.ok r E.w/\E.st=O.st++[.arr (l.length+ys.length) e (l++ys)]/\Inv E/\Ext O E/\RD E (.ms O.st.length (l.length+ys.length) e 0 (l.length+ys.length)) r:=by
 obtain⟨hs1,_⟩:=ko j9
 obtain⟨i,D3,Jm⟩:=mO hs1
 obtain⟨y,hy⟩:=hz
 obtain⟨i',zv,g1,g2,g3⟩:=iu (O:=O) hy
 obtain⟨i'',k1,k2⟩:=sX D1
 rw[D3]at g1 k1
 cases g1
 cases k1
 obtain⟨olds,f,ho1,ho2,ho3,ho4,ho5⟩:=WC hs cp
 obtain⟨news,g,KP,D4,hn3,hn4,hn5⟩:=hv.ex
 obtain⟨a,hsv⟩:=jq
 subst hsv
 have WN:0<ys.length:=List.length_pos_iff.2 kB
 have jV:=sy (c:=c) (O:=O) (t:=t) (t2:=t2) (e:=et) (ty:=ty) (base:=a) (sLen:=l.length) (sCap:=l.length) (n:=ys.length) (x:=v) (news:=news) (olds:=olds) hu Ef D3 g2 hn3
  (by intro P; rw[Jm]; exact hn5 P) (by intro P; rw[Jm]; exact ho5 P) (Z) (Z) (by rw[k2]; exact J)
 let C:=grownCap O.w (l.length+ys.length) l.length et
 have hC:l.length+ys.length<=C:=grownCap_ge _ _ _ _
 let zs:=zX zv.cells (C-(l.length+ys.length))
 let cells:=olds.toArray++news.toArray++zs
 have hzs:zs.size=(C-(l.length+ys.length))*e.size:=by have:=g3.len; simp only[qG]at this; simp[zs,XZ,this]
 have hol:olds.length=l.length*e.size:=by rw[ho1]; exact gN λi hi=>(ho2 i hi).len
 have hnl:news.length=ys.length*e.size:=by rw[KP]; exact gN λi hi=>(D4 i hi).len
 have QY:cells.size=C*e.size:=by
  simp only[cells,Array.size_append,zY,hol,hnl,hzs,<- qD]
  grind
 have gr:=nq.drew O.w (.cells cells et)
 have hex:=ZE (n:=cells.size) (x:=.arr (l.length+ys.length) e (l++ys)) hI gr
 refine⟨O.add _ cells.size (.arr (l.length+ys.length) e (l++ys)),_,jV,rfl,U4 hI gr ?_,hex,?_⟩
 ·refine⟨cp,.inr ⟨O.w.heap.size,cells.size,cells,et,tQ hI,gr.new,rfl,?_,UW j9,λi=>if i<l.length then f i else g (i-l.length),λi hi => ?_⟩⟩
  ·rw[QY,zK]; exact I _ hC
  ·obtain⟨q1,q2⟩:=G4 ho2 D4 zs.toList i hi
   refine⟨q1.mono hex.same,λj v hj => ?_⟩
   grind
 ·refine .ms _ (l.length+ys.length) e 0 _ C _ (.inr ⟨l.length+ys.length,e,_,X1,zE _⟩) hC nofun (λp hp=>by cases hp; rfl) λxs YY => ?_
  rw[X1]at YY
  cases YY
  exact⟨qu,.inr ⟨O.w.heap.size,cells.size,0,C,tQ hI,rfl,hC,by rw[QY]; simp,.inr (qu)⟩⟩
theorem Lb{t t2 et:Nat}{e:Ty}{ys:List (den e)}{p:Addr}{v:Value}{bytes:Nat}{ty:Nat}(hI:Inv O)(hu:c.P.underlying t=some (.slice et))(Ef:S0 c t2)(j9:cH c et e=true)(cp:0<e.size)(D1:r9 c et=some bytes)(hz:∃ y,zeroOf c et e=some y)
  (hv:Cel O e ys v) (kB:ys≠[]) (J:ys.length*bytes<=140737488355328) (hn:ys.length<=9223372036854775807) :
  ∃ (E:KS) (r:Value),(zL #[t,t2] ty #[.slice (some p) 0 0,v]).run c.P O.w=.ok r E.w/\E.st=O.st/\Inv E/\Ext O E/\RD E (.sT e ys true) r:=by
 obtain⟨hs1,_⟩:=ko j9
 obtain⟨i,D3,Jm⟩:=mO hs1
 obtain⟨y,hy⟩:=hz
 obtain⟨i',zv,g1,g2,g3⟩:=iu (O:=O) hy
 obtain⟨i'',k1,k2⟩:=sX D1
 rw[D3]at g1 k1
 cases g1
 cases k1
 obtain⟨news,g,KP,D4,hn3,hn4,hn5⟩:=hv.ex
 have WN:0<ys.length:=List.length_pos_iff.2 kB
 have jV:=sy (c:=c) (O:=O) (t:=t) (t2:=t2) (e:=et) (ty:=ty) (base:=some p) (sLen:=0) (sCap:=0) (n:=ys.length) (x:=v) (news:=news) (olds:=[]) hu Ef D3 g2 hn3
  (by intro P; rw[Jm]; exact hn5 P) (by intro P; obtain⟨_,_,e1,_,_,_,e5⟩:=WC (O:=O) (e:=e) (ys:=[]) (v:=.slice (some p) 0 0) (DO (.qi (.sl e) [] _ (.ma e (some p)))) cp; rw[Jm]; have:=e5 P; rw[e1]at this; exact this) (Z) (Z) (by rw[k2,qE]; exact J)
 rw[qE]at jV
 let C:=grownCap O.w ys.length 0 et
 have hC:ys.length<=C:=grownCap_ge _ _ _ _
 let zs:=zX zv.cells (C-ys.length)
 let cells:=([]:List Value).toArray++news.toArray++zs
 have gr:=nq.drew O.w (.cells cells et)
 have hex:=Wh hI gr
 have Ee:Rc (O.qi (O.w.drew.alloc (.cells cells et))).w (O.qi (O.w.drew.alloc (.cells cells et))).ok (.sl e) ys [.slice (some ⟨O.w.heap.size,0,none⟩) ys.length C]:=by
  refine .sl e ys O.w.heap.size 0 C g (.inr rfl) hC (λi hi=>(D4 i hi).mono hex.same) λi hi j u hu => ?_
  have TV:∀ i,i<ys.length->(g i).length=e.size:=λi hi=>(D4 i hi).len
  have hj:j<e.size:=by rw[<- TV i hi]; exact(zA.1 hu).1
  have hnl:news.length=ys.length*e.size:=by rw[KP]; exact gN TV
  have hle:i*e.size+e.size<=ys.length*e.size:=by rw[<- qB]; exact I _ hi
  have LQ:news[i*e.size+j]? = some u:=by rw[KP,Zg TV i j hi hj]; exact hu
  have eW:cells[i*e.size+j]? = some u:=by
   show(([]:List Value).toArray++news.toArray++zs)[i*e.size+j]? = some u
   rw[Array.getElem?_append_left (by simp; omega)]
   simpa using LQ
  have HL:(O.qi (O.w.drew.alloc (.cells cells et))).w.heap[O.w.heap.size]? = some (.cells cells et (0,0)):=gr.new
  simp only[World.cell?,qE,HL]
  simpa using eW
 refine⟨O.qi _,_,jV,rfl,dq hI gr,hex,.sT e ys true _ Ee (λ_=>⟨_,_,_,rfl,λe=>absurd e kB⟩) nofun⟩
def KS.re(O:KS)(w':World)(b n:Nat)(x:de):KS:={ O with w:=w',ph:=O.ph.set b (some (O.w.heap.size,n)),st:=O.st.set b x }
theorem MJ{w':World}{o:Obj}{b n v0 v1:Nat}{e:Ty}{xs ys:List (den e)}(hI:Inv O)(g:nq O.w w' o)(J:O.st[b]? = some (.arr v0 e xs))(hv:v0<v1):Ext O (O.re w' b n (.arr v1 e ys)):=by
 refine⟨g.os,g.tape,g.output,by show O.w.heap.size<=w'.heap.size; rw[g.size]; omega,λk hk=>⟨hk,g.old (hI.cq k hk)⟩,λk hk=>.inl hk,?_,?_,?_,?_,by simp[KS.re],λk hk _=>g.old hk⟩
 ·intro b' blk m h
  simp only[KS.re]at h
  grind
 ·intro b' d V
  have kB:b≠b':=λe=>by subst e; rw[J]at V; cases V
  simp only[KS.re]
  grind
 ·intro b' u0 e' zs V
  simp only[KS.re]
  grind
 ·intro b' V
  have kB:b≠b':=λe=>by subst e; rw[J]at V; cases V
  simp only[KS.re,zT,if_neg kB]
  exact V
theorem zej{w':World}{o:Obj}{b n v0 v1:Nat}{e:Ty}{xs ys:List (den e)}(hI:Inv O)(g:nq O.w w' o)(J:O.st[b]? = some (.arr v0 e xs))(hv:v0<v1)
  (U:pX (O.re w' b n (.arr v1 e ys)) b (.arr v1 e ys)):Inv (O.re w' b n (.arr v1 e ys)):=by
 have hold:∀ (b' blk m:Nat),(O.ph.set b (some (O.w.heap.size,n)))[b']? = some (some (blk,m))->(b≠b'/\O.ph[b']? = some (some (blk,m)))\/(b=b'/\blk=O.w.heap.size):=by
  grind
 refine⟨by simp[KS.re,hI.len],?_,?_,?_,?_,hI.gl.mono (MJ (n:=n) (ys:=ys) hI g J hv).same⟩
 ·intro k hk; have:=hI.cq k hk; show k<w'.heap.size; rw[g.size]; omega
 ·intro b' blk m h
  rcases hold b' blk m h with⟨_,h⟩ | ⟨rfl,rfl⟩
  ·obtain⟨h1,X⟩:=hI.apart b' blk m h
   exact⟨by show blk<w'.heap.size; rw[g.size]; omega,X⟩
  ·exact⟨by show O.w.heap.size<w'.heap.size; rw[g.size]; omega,λhk=>absurd (hI.cq _ hk) (Nat.lt_irrefl _)⟩
 ·intro b1 b2 blk m m' h h'
  rcases hold b1 blk m h with⟨_,h⟩ | ⟨rfl,rfl⟩<;>rcases hold b2 _ m' h' with⟨_,h'⟩ | ⟨rfl,h''⟩
  ·exact hI.inj b1 b2 blk m m' h h'
  ·have:=(hI.apart b1 blk m h).1; omega
  ·have:=(hI.apart b2 _ m' h').1; omega
  ·rfl
 ·intro b' y hy
  simp only[KS.re,zT]at hy
  split at hy
  ·grind
  ·rename_i e1
   refine(hI.blk b' y hy).mono (MJ hI g J hv) ?_ λblk m h=>g.old (hI.apart b' blk m h).1
   simp only[KS.re,zT,if_neg e1]
theorem GZ{α:Type}{l:List α}{i:Nat}{a:α}(h:l[i]? = some a):l.set i a=l:=by
 apply List.ext_getElem?
 grind
theorem S5{t t2 et b vk len:Nat}{e:Ty}{xs ys:List (den e)}{sv v:Value}{bytes:Nat}{ty:Nat}(hI:Inv O)(hu:c.P.underlying t=some (.slice et))(Ef:S0 c t2)(j9:cH c et e=true)(cp:0<e.size)(D1:r9 c et=some bytes)
  (hz:∃ y,zeroOf c et e=some y) (hs:RD O (.ms b vk e 0 len) sv) (J:O.st[b]? = some (.arr vk e xs)) (hlen:len=xs.length) (hv:Cel O e ys v) (LR:(xs.length+ys.length)*bytes<=140737488355328)
  (hn:xs.length+ys.length<=9223372036854775807) :
  ∃ (E:KS) (r:Value),(zL #[t,t2] ty #[sv,v]).run c.P O.w=.ok r E.w/\E.st=O.st.set b (.arr (vk+ys.length) e (xs++ys))/\Inv E/\Ext O E/\RD E (.ms b (vk+ys.length) e 0 (len+ys.length)) r:=by
 subst hlen
 have wO:b<O.st.length:=(zA.1 J).1
 have HJ:b<O.ph.length:=by rw[hI.len]; exact wO
 obtain⟨hs1,_⟩:=ko j9
 obtain⟨i,D3,Jm⟩:=mO hs1
 obtain⟨y,hy⟩:=hz
 obtain⟨i',zv,g1,g2,g3⟩:=iu (O:=O) hy
 obtain⟨i'',k1,k2⟩:=sX D1
 rw[D3]at g1 k1
 cases g1
 cases k1
 have D7:=(MS hI hs J).1
 simp only[qE,List.take_length,List.drop_zero]at D7
 obtain⟨olds,f,ho1,ho2,ho3,ho4,ho5⟩:=WC D7 cp
 obtain⟨news,g,KP,D4,hn3,hn4,hn5⟩:=hv.ex
 have hol:olds.length=xs.length*e.size:=by rw[ho1]; exact gN λi hi=>(ho2 i hi).len
 have hnl:news.length=ys.length*e.size:=by rw[KP]; exact gN λi hi=>(D4 i hi).len
 have Bw:∀ u∈news,u.oneCell'=true:=by rw[KP]; exact Bu λi hi=>(D4 i hi).one
 cases hs with
 | ms _ _ _ _ _ cap a hold jq ha WO hm =>
  obtain⟨hle,hm⟩:=hm xs J
  by_cases QL:xs.length+ys.length<=cap
  ·-- there is room
   rcases hm with⟨h1,_,hv',hp⟩ | ⟨blk,n,o,U8,h3,h4,h5,h6,h7⟩
   ·simp only[Value.slice.injEq]at hv'
    obtain⟨rfl,IV,rfl⟩:=hv'
    have Yc:xs=[]:=zM h1
    have hy0:ys=[]:=zM (Z)
    subst Yc hy0
    refine⟨O,.slice none 0 0,?_,?_,hI,Ext.refl O,.ms b vk e 0 0 0 none hold (zE _) (λ_=>rfl) nofun λzs hzs => ?_⟩
    ·have TY:news=[]:=zM (by simpa using hnl)
     subst TY
     exact run_append_fits (c:=c) (O:=O) (t:=t) (t2:=t2) (e:=et) (ty:=ty) (base:=none) (sLen:=0) (sCap:=0) (n:=0) (x:=v) (news:=[]) hu Ef D3 hn3 (by intro P; rw[Jm]; exact hn4 P) (Z) rfl
    ·simp only[List.length_nil,xH,List.append_nil]
     rw[GZ J]
    ·grind
   ·cases h4
    obtain⟨_,⟨YW,hpn⟩ | ⟨r7,n',cs,T,p1,p2,p3,p4,pr,F,p5⟩⟩:=hI.blk b _ J
    ·grind
    ·rw[h3]at p1
     cases p1
     have ho:xs.length+ys.length=0\/o=0:=by
      grind
     have zh1:cap*e.size<=cs.size:=by rw[p3]; simpa using h6
     have HF:xs.length*e.size+ys.length*e.size<=cs.size:=by
      rw[<- qD]; exact qN (I _ QL) zh1
     let mX:=(cs.toList.take (xs.length*e.size)++news++cs.toList.drop (xs.length*e.size+news.length)).toArray
     have Y9:cs.toList.length=cs.size:=qu
     have HE:mX.size=cs.size:=by simp only[mX,zY,zK,zU,qK,hnl,Y9]; omega
     have hoa:∀ m,(⟨blk,o,none⟩:Addr).add (xs.length*e.size)=⟨blk,xs.length*e.size,none⟩\/m=0\/xs.length+ys.length=0:=by
      intro m
      rcases ho with h | h
      ·grind
      ·subst h; rw[addr_add,qE]; exact .inl rfl
     have ud:(storeCells ((⟨blk,o,none⟩:Addr).add (xs.length*i.size)) news).run c.P O.w=.ok () (O.w.setRow blk mX):=by
      rw[Jm]
      rcases hoa 1 with h | h | h
      ·rw[h]
       have:=run_storeCells_at c.P blk (xs.length*e.size) T news 0 cs O.w p2 (by rw[hnl]; omega) Bw
       simpa only[xH]using this
      ·cases h
      ·have TY:news=[]:=zM (by rw[hnl,show ys.length=0 by omega]; simp)
       have Yc:xs.length=0:=Z
       have hce:mX=cs:=by simp[mX,TY,Yc]
       rw[TY,hce,setRow_self _ _ _ _ _ p2]
       rfl
     have KM:Alike (.arr vk e xs) (.arr (vk+ys.length) e (xs++ys)):=⟨rfl,Z,λh=>by rw[zK]; omega⟩
     have hex:=Jg (cs:=mX) (x:=.arr (vk+ys.length) e (xs++ys)) hI h3 J KM
     refine⟨O.upd b blk mX (.arr (vk+ys.length) e (xs++ys)),.slice (some ⟨blk,o,none⟩) (xs.length+ys.length) cap,?_,rfl,Jh hI h3 J KM ?_,hex,?_⟩
     ·exact run_append_fits (c:=c) (O:=O) (t:=t) (t2:=t2) (e:=et) (ty:=ty) (base:=some ⟨blk,o,none⟩) (sLen:=xs.length) (sCap:=cap) (n:=ys.length) (x:=v) (news:=news) hu Ef D3 hn3 (by intro P; rw[Jm]; exact hn4 P) QL ud
     ·refine⟨cp,.inr ⟨blk,n,mX,T,h3,setRow_heap _ _ _ _ _ _ p2,by rw[HE]; exact p3,?_,pr,λi=>if i<xs.length then F i else g (i-xs.length),λi hi => ?_⟩⟩
      ·rw[zK]; exact qN (I _ QL) (by simpa using h6)
      ·have hF:∀ i (hi:i<xs.length),Rc O.w O.ok e xs[i] (F i):=λi hi=>(p5 i hi).1
       have zaR:∀ i,i<xs.length->(F i).length=e.size:=λi hi=>(hF i hi).len
       have Bx:cs.toList.take (xs.length*e.size)=eH F xs.length:=by
        apply List.ext_getElem?
        intro p
        rw[List.getElem?_take]
        have Ke:=gN zaR
        split
        ·rename_i hp
         obtain⟨q,hq⟩:∃ q,(eH F xs.length)[p]? = some q:=⟨_,zN (by rw[Ke]; exact hp)⟩
         obtain⟨i',j',a1,a2,a3,a4⟩:=F7 cp zaR hq
         rw[hq]
         have:=(p5 i' a1).2 j' q a4
         rw[a3,zV]; exact this
        ·rename_i hp
         rw[List.getElem?_eq_none (by rw[Ke]; omega)]
       obtain⟨q1,q2⟩:=G4 hF D4 (cs.toList.drop (xs.length*e.size+news.length)) i hi
       refine⟨q1.mono hex.same,λj w hj => ?_⟩
       have:=q2 j w hj
       rw[<- KP,<- Bx]at this
       simpa only[mX,xA]using this
     ·refine .ms b _ e 0 _ cap _ (.inr ⟨vk+ys.length,e,xs++ys,by simp[KS.upd,KS.VS,wO],zE _⟩) QL nofun (λp hp=>by cases hp; rfl) λzs hzs => ?_
      have:zs=xs++ys:=by simp only[KS.upd,KS.VS,qW wO]at hzs; cases hzs; rfl
      subst this
      refine⟨qu,.inr ⟨blk,n,o,cap,h3,rfl,QL,by simpa using h6,?_⟩⟩
      rcases h7 with h7 | h7
      ·exact .inl h7
      ·exact .inr (by simpa using h7)
  ·-- it grows
   have WN:0<ys.length:=Z
   have jV:=sy (c:=c) (O:=O) (t:=t) (t2:=t2) (e:=et) (ty:=ty) (base:=a) (sLen:=xs.length) (sCap:=cap) (n:=ys.length) (x:=v) (news:=news) (olds:=olds) hu Ef D3 g2 hn3
    (by intro P; rw[Jm]; exact hn5 P) (by intro P; rw[Jm]; exact ho5 P) (Z) (Z) (by rw[k2]; exact LR)
   let C:=grownCap O.w (xs.length+ys.length) cap et
   have hC:xs.length+ys.length<=C:=grownCap_ge _ _ _ _
   let zs:=zX zv.cells (C-(xs.length+ys.length))
   let cells:=olds.toArray++news.toArray++zs
   have hzs:zs.size=(C-(xs.length+ys.length))*e.size:=by have:=g3.len; simp only[qG]at this; simp[zs,XZ,this]
   have QY:cells.size=C*e.size:=by
    simp only[cells,Array.size_append,zY,hol,hnl,hzs,<- qD]
    congr 1; omega
   have gr:=nq.drew O.w (.cells cells et)
   have z1E:vk<vk+ys.length:=Z
   have hex:=MJ (n:=cells.size) (ys:=xs++ys) hI gr J z1E
   refine⟨O.re _ b cells.size (.arr (vk+ys.length) e (xs++ys)),_,jV,rfl,zej hI gr J z1E ?_,hex,?_⟩
   ·refine⟨cp,.inr ⟨O.w.heap.size,cells.size,cells,et,by simp[KS.re,HJ],gr.new,rfl,?_,UW j9,λi=>if i<xs.length then f i else g (i-xs.length),λi hi => ?_⟩⟩
    ·rw[QY,zK]; exact I _ hC
    ·obtain⟨q1,q2⟩:=G4 ho2 D4 zs.toList i hi
     refine⟨q1.mono hex.same,λj v hj => ?_⟩
     have:=q2 j v hj
     rw[<- ho1,<- KP]at this
     rw[<- zV]
     simpa[cells]using this
   ·refine .ms b _ e 0 _ C _ (.inr ⟨vk+ys.length,e,xs++ys,by simp[KS.re,wO],zE _⟩) hC nofun (λp hp=>by cases hp; rfl) λus hus => ?_
    have:us=xs++ys:=by simp only[KS.re,qW wO]at hus; cases hus; rfl
    subst this
    exact⟨qu,.inr ⟨O.w.heap.size,cells.size,0,C,by simp[KS.re,HJ],rfl,hC,by rw[QY]; simp,.inr (qu)⟩⟩
end
end Go.AM
namespace Go.AM
set_option linter.unusedSectionVars false
variable [gB]
section
variable {c:Ctx} {O:KS}
theorem VQ{x y:D}{v:Value}(hI:Inv O)(U:RD O x v)(h:(Zy O.st x).leads y):(y=x/\∀ b vk e off len,x≠.ms b vk e off len)\/∃ (e:Ty) (ys:List (den e)),y=.qi (.sl e) ys/\Src O e ys v/\∃ b vk off len,x=.ms b vk e off len:=by
 cases x with
 | ms b vk e off len =>
  simp only[Zy]at h
  split at h
  ·rename_i dZ e' xs J
   split at h
   ·rename_i he
    subst he
    obtain⟨rfl,h⟩:=h
    refine .inr ⟨e',_,h.symm,(MS hI U J).1,b,vk,off,len,rfl⟩
   ·exact h.elim
  ·exact h.elim
 | _=>exact .inl ⟨h.symm,λ_ _ _ _ _=>nofun⟩
theorem WT{t t2 et:Nat}{e:Ty}{s:D}{ys:List (den e)}{ne:Bool}{sv v:Value}{bytes ty:Nat}{d:Option D}{qm:St}(hI:Inv O)(hu:c.P.underlying t=some (.slice et))(Ef:S0 c t2)(j9:cH c et e=true)(cp:0<e.size)
  (D1:r9 c et=some bytes) (TS:0<bytes) (hz:∃ y,zeroOf c et e=some y) (hs:RD O s sv) (hv:Cel O e ys v) (kB:ne=true->ys≠[])
  (h:(bK e s ys ne bytes O.st).leads (d,qm)) :
  ∃ (E:KS) (r:Value),(zL #[t,t2] ty #[sv,v]).run c.P O.w=.ok r E.w/\E.st=qm/\Inv E/\Ext O E/\∀ d',d=some d'->RD E d' r:=by
 have hlen:∀ n,n*bytes<=140737488355328->n<=9223372036854775807:=λn hn=>qN (Nat.le_mul_of_pos_right n TS) (qN hn (qj))
 -- nothing is appended
 have same:∀ (a:Option Addr) (n cap:Nat),sv=.slice a n cap->n<=cap->ys=[]->d=some s->qm=O.st ->
   ∃ (E:KS) (r:Value),(zL #[t,t2] ty #[sv,v]).run c.P O.w=.ok r E.w/\E.st=qm/\Inv E/\Ext O E/\∀ d',d=some d'->RD E d' r:=by
  rintro a n cap rfl jq rfl rfl rfl
  obtain⟨hs1,_⟩:=ko j9
  obtain⟨i,D3,Jm⟩:=mO hs1
  obtain⟨news,g,KP,D4,hn3,hn4,hn5⟩:=hv.ex
  have TY:news=[]:=KP
  subst TY
  refine⟨O,.slice a n cap,?_,rfl,hI,Ext.refl O,λd' he=>by cases he; exact hs⟩
  have:=run_append_fits (c:=c) (O:=O) (t:=t) (t2:=t2) (e:=et) (ty:=ty) (base:=a) (sLen:=n) (sCap:=cap) (n:=0) (x:=v) (news:=[]) (i:=i) hu Ef D3 hn3 (by intro P; rw[Jm]; exact hn4 P) (Z) (w':=O.w) (by cases a<;>rfl)
  grind
 have new:∀ l:List (den e),Src O e l sv->(∃ a,sv=.slice a l.length l.length)->ys≠[]->(pP e l ys bytes O.st).leads (d,qm) ->
   ∃ (E:KS) (r:Value),(zL #[t,t2] ty #[sv,v]).run c.P O.w=.ok r E.w/\E.st=qm/\Inv E/\Ext O E/\∀ d',d=some d'->RD E d' r:=by
  intro l B jq kB h
  obtain⟨J,h⟩:=h
  cases h
  obtain⟨E,r,h1,X,h3,h4,h5⟩:=La (ty:=ty) hI hu Ef j9 cp D1 hz B jq hv kB J (hlen _ J)
  grind
 unfold bK at h
 split at h
 ·have hsv:sv=.slice none 0 0:=by cases hs; rfl
  cases hn:ne with
  | true=>rw[hn,cond_true]at h; exact new [] (Yn hs) ⟨none,hsv⟩ (kB hn) h
  | false =>
   rw[hn,cond_false]at h
   rcases h with⟨hy,h⟩ | ⟨hy,h⟩
   ·cases h; exact same none 0 0 hsv (zE _) (List.isEmpty_iff.1 hy) rfl rfl
   ·exact new [] (Yn hs) ⟨none,hsv⟩ (λe=>by rw[e]at hy; cases hy) h
 ·rename_i e' l ne'
  split at h
  ·rename_i l' M0
   obtain⟨he,z1C⟩:=wi M0
   cases he
   simp only at z1C
   subst z1C
   have hsv:∃ a,sv=.slice a l'.length l'.length:=by
    cases hs with
    | vD=>simp
    | tight=>simp
   cases hn:ne with
   | true=>rw[hn,cond_true]at h; exact new l' (WD hs) hsv (kB hn) h
   | false =>
    rw[hn,cond_false]at h
    rcases h with⟨hy,h⟩ | ⟨hy,h⟩
    ·cases h
     obtain⟨a,ha⟩:=hsv
     exact same a _ _ ha (zE _) (List.isEmpty_iff.1 hy) rfl rfl
    ·exact new l' (WD hs) hsv (λe=>by rw[e]at hy; cases hy) h
  ·exact h.elim
 ·rename_i e' l b
  split at h
  ·rename_i M0
   obtain⟨he,z1C⟩:=wi M0
   cases he
   simp only at z1C
   subst z1C
   cases J:b with
   | false=>rw[J]at h; exact h.elim
   | true =>
    rw[J,cond_true]at h
    subst J
    obtain⟨LR,h⟩:=h
    cases h
    cases hs with
    | sT _ _ _ _ hr ht hf =>
     obtain⟨blk,off,cap,rfl,hc⟩:=ht rfl
     have:=hc rfl
     subst this
     by_cases hy:ys=[]
     ·subst hy
      exact same (some ⟨blk,off,none⟩) 0 0 rfl (zE _) rfl rfl rfl
     ·obtain⟨E,r,h1,X,h3,h4,h5⟩:=Lb (ty:=ty) (p:=⟨blk,off,none⟩) hI hu Ef j9 cp D1 hz hv hy LR (hlen _ LR)
      exact⟨E,r,h1,X,h3,h4,λd' he=>by cases he; exact h5⟩
  ·exact h.elim
 ·rename_i b vk e' off len
  split at h
  ·rename_i dZ e'' xs J
   split at h
   ·rename_i xs' Ho
    obtain⟨he,zhT⟩:=wi Ho
    cases he
    simp only at zhT
    subst zhT
    cases hde:decide (e'=_)with
    | false=>rw[hde]at h; exact h.elim
    | true =>
     rw[hde,cond_true]at h
     have:=uY hde
     subst this
     obtain⟨⟨rfl,rfl,B,LR⟩,h⟩:=h
     cases h
     obtain⟨E,r,h1,X,h3,h4,h5⟩:=S5 (ty:=ty) hI hu Ef j9 cp D1 hz hs J B hv LR (hlen _ LR)
     exact⟨E,r,h1,X,h3,h4,λd' he=>by cases he; exact h5⟩
   ·exact h.elim
  ·exact h.elim
 ·exact h.elim
theorem Eu{t ty:Nat}{s x:Option D}{sv v:Value}{d:Option D}{qm:St}(hI:Inv O)(hs:∀ z,s=some z->RD O z sv)(U:∀ z,x=some z->RD O z v)
  (h:(qt (X2 c t s x) O.st).leads (d,qm)):wC c.P (do zJ (.value (<- zL #[t,t] ty #[sv,v]))) O d qm:=by
 unfold X2 at h
 split at h
 ·exact absurd h zi
 ·rename_i et het
  have hu:=ga het
  split at h
  ·rename_i e bytes NS D1
   cases J:cH c et e&&xE 0 e.size&&xE 0 bytes&&(zeroOf c et e).isSome with
   | false=>rw[J]at h; exact absurd h zi
   | true =>
    rw[J,cond_true]at h
    simp only[zI]at J
    obtain⟨⟨⟨j9,h1⟩,X⟩,h3⟩:=J
    have cp:0<e.size:=W h1
    have TS:0<bytes:=W X
    have hz:=zZ.1 h3
    split at h
    ·rename_i s x
     simp only[qt,T.xg]at h
     obtain⟨y,hy,h⟩:=h
     have fin:∀ (ys:List (den e)) (ne:Bool),Src O e ys v->(ne=true->ys≠[])->(bK e s ys ne bytes O.st).leads (d,qm)->wC c.P (do zJ (.value (<- zL #[t,t] ty #[sv,v]))) O d qm:=by
      intro ys ne hv kB h
      obtain⟨E,r,g1,g2,g3,g4,g5⟩:=WT (t2:=t) (ty:=ty) hI hu (.inl ⟨et,hu⟩) j9 cp D1 TS hz (hs _ rfl) (z9Z hv cp) kB h
      exact⟨E,.value r,r,by simp only[zH,g1,Y]; rfl,.inl rfl,g2,g3,g4,g5⟩
     have NT:=U _ rfl
     rcases VQ hI NT hy with⟨rfl,hnm⟩ | ⟨e',ys,rfl,D7,_⟩
     ·split at h
      ·rename_i σ z
       split at h
       ·rename_i ys hys
        obtain⟨he,hz'⟩:=wi hys
        cases he
        subst hz'
        exact fin _ false (DO NT) nofun h
       ·exact h.elim
      ·rename_i σ z ne
       split at h
       ·rename_i ys hys
        obtain⟨he,hz'⟩:=wi hys
        cases he
        subst hz'
        refine fin _ ne (WD NT) (λkB => ?_) h
        cases NT with
        | vD=>cases kB
        | tight _ _ _ _ _ _ q=>exact q kB
       ·exact h.elim
      ·exact fin [] false (Yn NT) nofun h
      ·exact h.elim
     ·simp only at h
      split at h
      ·rename_i ys' hys
       obtain⟨he,hz'⟩:=wi hys
       grind
      ·exact h.elim
    ·exact absurd h zi
  ·exact absurd h zi
theorem za0{l:zo}{v:Value}(h:RD O (.qi .str l) v):Cel O (.int .u8) (bytesOf l) v:=by
 have hv:=h.jk
 subst hv
 have B:(bytesOf l).length=l.length:=by simp[bytesOf]
 have cp:(⟨l.toArray⟩:ByteArray).size=l.length:=zY
 refine⟨Lib.strCells ⟨l.toArray⟩,λi=>[.int .u8 ((bytesOf l)[i]?.getD 0)],?_,λi hi => ?_,λP => ?_,λP => ?_,λP => ?_⟩
 ·have gen:∀ (n:Nat),n<=l.length->eH (λi=>[zP .u8 ((bytesOf l)[i]?.getD 0)]) n=(l.take n).map λb=>zP .u8 b.toNat:=by
   intro n
   induction n with
   | zero=>intro _; rfl
   | succ n ih =>
    intro hn
    have wO:n<l.length:=hn
    rw[eH,ih (Z),qJ wO,List.map_append]
    simp[bytesOf,zN wO]
  rw[B,gen _ (zE _),List.take_length]
  rfl
 ·have:(bytesOf l)[i]?.getD 0=(bytesOf l)[i]:=by rw[zN hi]; rfl
  show Rc O.w O.ok (.int .u8) (bytesOf l)[i] [zP .u8 ((bytesOf l)[i]?.getD 0)]
  rw[this]
  exact .int .u8 _
 ·show(pure (⟨l.toArray⟩:ByteArray).size:Sem Nat).run P O.w=_
  rw[cp,B]; rfl
 ·rw[B,<- cp]; exact qP _ _ _
 ·rw[B,<- cp]; exact qP _ _ _
theorem Yx{t t2 ty:Nat}{s x:Option D}{sv v:Value}{d:Option D}{qm:St}(hI:Inv O)(hs:∀ z,s=some z->RD O z sv)(U:∀ z,x=some z->RD O z v)
  (h:(qt (Z5 c t t2 s x) O.st).leads (d,qm)):wC c.P (do zJ (.value (<- zL #[t,t2] ty #[sv,v]))) O d qm:=by
 unfold Z5 at h
 split at h
 ·exact absurd h zi
 ·rename_i et het
  have hu:=ga het
  split at h
  ·rename_i bytes NS D1 Ef
   cases J:cH c et (.int .u8)&&xE 0 bytes&&(zeroOf c et (.int .u8)).isSome with
   | false=>rw[J]at h; exact absurd h zi
   | true =>
    rw[J,cond_true]at h
    simp only[zI]at J
    obtain⟨⟨j9,X⟩,h3⟩:=J
    have TS:0<bytes:=W X
    have hz:=zZ.1 h3
    split at h
    ·rename_i s l
     obtain⟨E,r,g1,g2,g3,g4,g5⟩:=WT (t2:=t2) (ty:=ty) hI hu (.inr Ef) j9 (qj) D1 TS hz (hs _ rfl) (ne:=false) (za0 (U _ rfl)) (λe=>by cases e) h
     exact⟨E,.value r,r,by simp only[zH,g1]; rfl,.inl rfl,g2,g3,g4,g5⟩
    ·exact absurd h zi
  ·exact absurd h zi
end
end Go.AM
namespace Go.AM
set_option linter.unusedSectionVars false
variable [gB]
open Go.RowKit
section
variable {c:Ctx} {O:KS}
theorem JH{t:Nat}(h:Fz c t=true):∃ k e,c.P.underlying t=some (.map k e)/\c.P.underlying k=some (.int .i64)/\c.P.underlying e=some .bool/\∀ w,(zeroValue e).run c.P w=.ok (.bool false) w:=by
 unfold Fz at h
 split at h
 ·rename_i k e ht
  simp only[zI]at h
  obtain⟨⟨h1,X⟩,h3⟩:=h
  refine⟨k,e,ht,?_,?_,λw => ?_⟩
  ·split at h1
   ·rename_i q hq; cases q<;>first | exact hq | cases h1
   ·cases h1
  ·split at X
   ·assumption
   ·cases X
  ·split at h3
   ·rename_i i hi
    split at h3
    ·rename_i z hz
     cases z
     ·simp[zeroValue,typeInfo,run_program,hi,hz]
     ·cases h3
    ·cases h3
   ·cases h3
 ·cases h
theorem keyOf_int{P P':Program}{k k':TypeId}(h:P.underlying k=some (.int .i64))(h':P'.underlying k'=some (.int .i64)):keyOf P k=keyOf P' k':=by
 funext v
 simp only[keyOf,h,h',mapKey]
theorem Sl{P P':Program}{e e':TypeId}(h:P.underlying e=some .bool)(h':P'.underlying e'=some .bool):(plainElem P e:Value->Option (DataW Unit×List MemPlace))=plainElem P' e':=by
 funext v
 simp only[plainElem,h,h']
theorem Tn{P P':Program}{k k' e e':TypeId}(h:P.underlying k=some (.int .i64))(h':P'.underlying k'=some (.int .i64))(he:P.underlying e=some .bool)(LU:P'.underlying e'=some .bool)
  {w w':World} {b b' n:Nat} {D:DataW Unit} (ho:w.ownsMap P k (plainElem P e) b n D) (hw:w'.heap[b']? = w.heap[b]?):w'.ownsMap P' k' (plainElem P' e') b' n D:=by
 obtain⟨es,clock,h1,X,h3,h4⟩:=ho
 have e1:(xI P k (plainElem P e):MapEntry->Option (Lit×DataW Unit))=xI P' k' (plainElem P' e'):=by
  funext x; simp only[xI,keyOf_int h h',Sl he LU]
 have e2:(xJ P k (plainElem P e):MapEntry->Lit×DataW Unit)=xJ P' k' (plainElem P' e'):=by
  funext x; simp only[xJ,e1]
 refine⟨es,clock,hw.trans h1,⟨X.size,X.stamped,λx U => ?_⟩,h3,by rw[<- e2]; exact h4⟩
 rw[<- e1]; exact X.reads x U
theorem BP{P:Program}{k e:TypeId}(h:P.underlying k=some (.int .i64))(he:P.underlying e=some .bool){w:World}{b:Nat}{o:Obj}{l:List Int}{D:DataW Unit}(J:w.heap[b]? = some o)
  (ho:w.ownsMap P k (plainElem P e) b l.length D) (hD:Maps.IsMap D) (hr:∀ n,(Lit.int .i64 n).wf=true->D.atKey (.int .i64 n) (.lit (.bool false))=.lit (.bool (l.contains n))):z0c o l :=
 λ_ _ _ h' LU _ _ hw'=>⟨D,Tn h h' he LU ho (hw'.trans J.symm),hD,hr⟩
theorem z6o{P:Program}{e:TypeId}(he:P.underlying e=some .bool){v:Value}{b:Bool}{ps:List MemPlace}(h:plainElem (H:=Unit) P e v=some (.lit (.bool b),ps)):v=.bool b:=by
 unfold plainElem at h
 rw[he]at h
 cases v<;>simp at h
 exact congrArg _ h.1
theorem Dj{t:Nat}{r:Option Operand}{f:Operand->Value}{d:Option D}{qm:St}(hI:Inv O)(h:(qt (JM c t r) O.st).leads (d,qm)) :
  wC c.P (do zJ (.value (<- Instr.makeMap t (r.map f)))) O d qm:=by
 unfold JM at h
 cases J:Fz c t&&r.isNone with
 | false=>rw[J]at h; exact absurd h zi
 | true =>
  rw[J,cond_true]at h
  simp only[zI]at J
  obtain⟨h1,X⟩:=J
  cases r with
  | some r=>cases X
  | none =>
  obtain⟨rfl,rfl⟩:=h
  obtain⟨k,e,ht,hk,he,_⟩:=JH h1
  have g:=nq.alloc O.w (.map #[] 0)
  have U:=ZE (n:=0) (x:=.var (.BU [])) hI g
  refine⟨O.add _ 0 (.var (.BU [])),.value (.map (some O.w.heap.size)),_,?_,.inl rfl,rfl,U4 hI g ?_,U,λ_ he=>by cases he; exact .gj _ _ 0 _ X1 (tQ hI)⟩
  ·simp[KS.add,run_makeMap]
  ·exact⟨O.w.heap.size,.map #[] 0,tQ hI,g.new,BP hk he (w:=O.w.alloc (.map #[] 0)) (b:=O.w.heap.size) g.new (World.ownsMap_made O.w c.P k (plainElem c.P e)) Go.Maps.isMap_empty λn _=>rfl⟩
theorem FD{t:Nat}{ok:Bool}{m x:Option D}{v u:Value}{d:Option D}{qm:St}(hI:Inv O)(hm:∀ z,m=some z->RD O z v)(U:∀ z,x=some z->RD O z u)
  (h:(qt (Gl c t ok m x) O.st).leads (d,qm)):wC c.P (do zJ (.value (<- Instr.lookup t v u ok))) O d qm:=by
 unfold Gl at h
 cases J:Fz c t && !ok with
 | false=>rw[J]at h; exact absurd h zi
 | true =>
  rw[J,cond_true]at h
  simp only[zI]at J
  obtain⟨h1,X⟩:=J
  have j9:ok=false:=by cases ok<;>first | rfl | cases X
  subst j9
  obtain⟨k,e,ht,hk,he,hz⟩:=JH h1
  have hz:=hz O.w
  split at h
  ·rename_i b q n hq
   cases hq64:G1 q with
   | false=>rw[hq64]at h; exact absurd h zi
   | true =>
   rw[hq64,cond_true]at h
   have hq6:q=.i64:=by cases q<;>first | rfl | cases hq64
   subst hq6
   have hu:=kI hq U
   simp only[qt]at h
   split at h
   ·rename_i l B
    obtain⟨hw,rfl,rfl⟩:=h
    cases hm _ rfl with
    | gj _ blk m' d' V hp =>
     obtain⟨r7,o,g1,g2,g3⟩:=(hI.blk b _ B:Maps O b l)
     rw[hp]at g1
     cases g1
     obtain⟨D,ho,hD,hr⟩:=g3 c.P k e hk he O.w blk g2
     obtain⟨rv,ps,jV,hv⟩:=ho.lookup (qQ hk) ht hz (plainElem_bool he false) (qM hk hw)
     rw[hr n hw]at hv
     have:=z6o he hv
     subst this
     subst hu
     exact wC.pure hI jV .bool
   ·exact h.elim
  ·rename_i q n hq
   cases hq64:G1 q with
   | false=>rw[hq64]at h; exact absurd h zi
   | true =>
   rw[hq64,cond_true]at h
   have hq6:q=.i64:=by cases q<;>first | rfl | cases hq64
   subst hq6
   have hu:=kI hq U
   subst hu
   obtain⟨hw,rfl,rfl⟩:=h
   cases hm _ rfl
   exact wC.pure hI (by simpa using Go.Maps.look_nil false (qQ hk) ht hz (qM hk hw)) .bool
  ·exact absurd h zi
theorem Lc{D:DataW Unit}{l:List Int}(hD:Go.Maps.IsMap D)(hr:∀ n,(Lit.int .i64 n).wf=true->D.atKey (.int .i64 n) (.lit (.bool false))=.lit (.bool (l.contains n)))(m:Int) :
  ∀ n,(Lit.int .i64 n).wf=true->(D.put (.int .i64 m) (.lit (.bool true))).atKey (.int .i64 n) (.lit (.bool false))=.lit (.bool ((l++[m]).contains n)):=λn hn=>by
 by_cases e:n=m
 ·subst e
  rw[Go.Maps.atKey_put_same hD (show WideAt.IsKeyLit (.int _ _)from trivial)]
  simp
 ·rw[Go.Maps.atKey_put_other (by simpa using e),hr n hn]
  simp[e]
theorem Gq{t:Nat}{m x y:Option D}{v u z:Value}{d:Option D}{qm:St}(hI:Inv O)(hm:∀ z,m=some z->RD O z v)(U:∀ z,x=some z->RD O z u)(hy:∀ q,y=some q->RD O q z)
  (h:(qt (Gp c t m x y) O.st).leads (d,qm)):wC c.P (do Instr.mapUpdate t v u z; zJ .skip) O d qm:=by
 unfold Gp at h
 cases J:Fz c t with
 | false=>rw[J]at h; exact absurd h zi
 | true =>
  rw[J,cond_true]at h
  obtain⟨k,e,ht,hk,he,_⟩:=JH J
  split at h
  ·rename_i b q n yb hq hyb
   cases hq64:G1 q with
   | false=>rw[hq64]at h; exact absurd h zi
   | true =>
   rw[hq64,cond_true]at h
   have hq6:q=.i64:=by cases q<;>first | rfl | cases hq64
   subst hq6
   have hu:=kI hq U
   have hz:=Z6 hyb hy
   simp only[qt]at h
   split at h
   ·rename_i l B
    obtain⟨⟨rfl,hw,hlen⟩,h⟩:=h
    simp only[T.leads,Prod.mk.injEq]at h
    obtain⟨rfl,rfl⟩:=h
    cases hm _ rfl with
    | gj _ blk m' d' V hp =>
     obtain⟨r7,o,g1,g2,g3⟩:=(hI.blk b _ B:Maps O b l)
     rw[hp]at g1
     cases g1
     obtain⟨D,ho,hD,hr⟩:=g3 c.P k e hk he O.w blk g2
     obtain⟨w',jV,hown,hg⟩:=ho.update (qQ hk) ht (by simp[maxLen]; omega) (qM hk hw) (plainElem_bool he true)
     subst hu hz
     have KM:Alike (.var (.BU l)) (.var (.BU (l++[n]))):=trivial
     refine⟨O.VS b w' (.var (.BU (l++[n]))),.skip,undef,?_,.inr ⟨rfl,rfl⟩,rfl,ID hI hp B KM hg ?_,Jf hI hp B KM hg,λ_ he=>by cases he⟩
     ·simp[KS.VS,jV]
     ·obtain⟨o',ho'⟩:∃ o',w'.heap[blk]? = some o':=⟨_,Array.getElem?_eq_getElem hown.lt⟩
      exact⟨blk,o',hp,ho',BP hk he ho' (by simpa using hown) (hD.put _ _) (Lc hD hr n)⟩
   ·exact h.elim
  ·exact absurd h zi
theorem Ml{op:BinOp}{t:Nat}{px:Operand}{x:Option D}{v:Value}{d:Option D}{qm:St}{z:eE}(hI:Inv O)(U:∀ z,x=some z->RD O z v)
  (hz:(qt z O.st).leads (d,qm)->wC c.P (do zJ (.value (<- (do eqGuard op t px (.const (.slice none 0 0)) v (.slice none 0 0); binOp op t v (.slice none 0 0))))) O d qm)
  (h:(qt (Du c op t x z) O.st).leads (d,qm)):wC c.P (do zJ (.value (<- (do eqGuard op t px (.const (.slice none 0 0)) v (.slice none 0 0); binOp op t v (.slice none 0 0))))) O d qm:=by
 unfold Du at h
 split at h
 ·rename_i e hu
  have q1:∀ (x:Option Addr) (l k:Nat),(do eqGuard .eql t px (.const (.slice none 0 0)) (.slice x l k) (.slice none 0 0); binOp .eql t (.slice x l k) (.slice none 0 0):Sem Value).run c.P O.w=.ok (.bool x.isNone) O.w:=λx l k=>by
   have:=run_eql_slice_nil (P:=c.P) O.w t e x l k hu
   simp only[eqGuard]
   simpa using this
  have q2:∀ (x:Option Addr) (l k:Nat),(do eqGuard .neq t px (.const (.slice none 0 0)) (.slice x l k) (.slice none 0 0); binOp .neq t (.slice x l k) (.slice none 0 0):Sem Value).run c.P O.w=.ok (.bool !x.isNone) O.w:=λx l k=>by
   have:=run_neq_slice_nil (P:=c.P) O.w t e x l k hu
   simp only[eqGuard]
   simpa using this
  split at h
  ·unfold bb at h
   obtain⟨rfl,rfl⟩:=h
   cases U _ rfl
   exact wC.pure hI (q1 none 0 0) RD.bool
  ·rename_i b
   unfold bb at h
   obtain⟨rfl,rfl⟩:=h
   cases U _ rfl with
   | sT _ _ _ _ hr ht hf =>
    cases b with
    | true=>obtain⟨blk,off,cap,rfl,_⟩:=ht rfl; exact wC.pure hI (q1 _ _ _) RD.bool
    | false=>have:=hf rfl; subst this; exact wC.pure hI (q1 _ _ _) RD.bool
  ·unfold bb at h
   obtain⟨rfl,rfl⟩:=h
   cases U _ rfl
   exact wC.pure hI (q2 none 0 0) RD.bool
  ·rename_i b
   unfold bb at h
   obtain⟨rfl,rfl⟩:=h
   cases U _ rfl with
   | sT _ _ _ _ hr ht hf =>
    cases b with
    | true=>obtain⟨blk,off,cap,rfl,_⟩:=ht rfl; exact wC.pure hI (q2 _ _ _) RD.bool
    | false=>have:=hf rfl; subst this; exact wC.pure hI (q2 _ _ _) RD.bool
  ·exact hz h
 ·exact hz h
theorem Mk{op:BinOp}{t:Nat}{px:Operand}{x:Option D}{v:Value}{d:Option D}{qm:St}{z:eE}(hI:Inv O)(U:∀ z,x=some z->RD O z v)
  (hz:(qt z O.st).leads (d,qm)->wC c.P (do zJ (.value (<- (do eqGuard op t px (.const (.pointer none)) v (.pointer none); binOp op t v (.pointer none))))) O d qm)
  (h:(qt (Dt c op t x z) O.st).leads (d,qm)):wC c.P (do zJ (.value (<- (do eqGuard op t px (.const (.pointer none)) v (.pointer none); binOp op t v (.pointer none))))) O d qm:=by
 unfold Dt at h
 split at h
 ·rename_i e hu
  have hp:c.P.underlying t=some (.pointer (c.P.pointee t)):=by unfold Program.pointee; rw[hu]
  have q1:∀ (x:Option Addr),(do eqGuard .eql t px (.const (.pointer none)) (.pointer x) (.pointer none); binOp .eql t (.pointer x) (.pointer none):Sem Value).run c.P O.w=.ok (.bool x.isNone) O.w:=λx=>by
   have:=run_eql_pointer_nil (P:=c.P) O.w t x hp
   simp only[eqGuard]
   simpa using this
  have q2:∀ (x:Option Addr),(do eqGuard .neq t px (.const (.pointer none)) (.pointer x) (.pointer none); binOp .neq t (.pointer x) (.pointer none):Sem Value).run c.P O.w=.ok (.bool !x.isNone) O.w:=λx=>by
   have:=run_neq_pointer_nil (P:=c.P) O.w t x hp
   simp only[eqGuard]
   simpa using this
  split at h
  ·unfold bb at h; obtain⟨rfl,rfl⟩:=h; cases U _ rfl; exact wC.pure hI (q1 none) RD.bool
  ·unfold bb at h; obtain⟨rfl,rfl⟩:=h; cases U _ rfl; exact wC.pure hI (q1 _) RD.bool
  ·unfold bb at h; obtain⟨rfl,rfl⟩:=h; cases U _ rfl; exact wC.pure hI (q1 _) RD.bool
  ·unfold bb at h; obtain⟨rfl,rfl⟩:=h; cases U _ rfl; exact wC.pure hI (q2 none) RD.bool
  ·unfold bb at h; obtain⟨rfl,rfl⟩:=h; cases U _ rfl; exact wC.pure hI (q2 _) RD.bool
  ·unfold bb at h; obtain⟨rfl,rfl⟩:=h; cases U _ rfl; exact wC.pure hI (q2 _) RD.bool
  ·exact hz h
 ·exact hz h
theorem Hv{t:Nat}{d:Option D}{qm:St}{z:eE}(hI:Inv O)(hz:(qt z O.st).leads (d,qm)->wC c.P (do zJ (.value (<- zQ t 0 #[]))) O d qm)
  (h:(qt (U7 c t z) O.st).leads (d,qm)):wC c.P (do zJ (.value (<- zQ t 0 #[]))) O d qm:=by
 unfold U7 at h
 split at h
 ·exact hz h
 ·rename_i et het
  split at h
  ·rename_i e he
   cases J:cH c et e&&(zeroOf c et e).isSome with
   | false=>rw[J]at h; exact hz h
   | true =>
    rw[J,cond_true]at h
    simp only[zI]at J
    obtain⟨rfl,rfl⟩:=h
    have hu:=ga het
    obtain⟨hs,_⟩:=ko J.1
    have g:=nq.alloc O.w (.cells #[] et)
    have jV:(zQ t 0 #[]).run c.P O.w=.ok (.slice (some ⟨O.w.heap.size,0,none⟩) 0 0) (O.w.alloc (.cells #[] et)):=by
     obtain⟨y,hy⟩:=zZ.1 J.2
     obtain⟨i,zv,D3,Jm,hi3⟩:=iu (O:=O) hy
     simp[zQ,zH,run_underlying hu,Y,run_sizeOf hs,qH,newRow]
     grind
    exact⟨O.qi _,.value (.slice (some ⟨O.w.heap.size,0,none⟩) 0 0),_,by simp only[zH,jV,Y]; rfl,.inl rfl,rfl,dq hI g,Wh hI g,λ_ he=>by
     cases he
     exact .sT e [] true _ (.ma e _) (λ_=>⟨_,_,_,rfl,λ_=>rfl⟩) nofun⟩
  ·exact hz h
end
end Go.AM
namespace Go.AM
set_option linter.unusedSectionVars false
variable [gB]
section
variable {c:Ctx} {O:KS}
theorem VJ{places:List (Nat×Nat)}{pf:Nat->Option (Nat×Nat)}(hpf:∀ (i:Nat) p,places[i]? = some p->pf i=some p){F:Operand->Option D}{G:Operand->Value}(hF:∀ x d,F x=some d->RD O d (G x)):∀ (L:List (Nat×Operand)) (cells r:List D) (cs:Array Value),
  sq places (L.map λp=>(p.1,F p.2)) cells=some r->wQ O cells cs.toList->(∀ d∈cells,d.one=true) ->
  ∃ mX,qH pf cs (L.map λp=>(p.1,G p.2))=some mX/\wQ O r mX.toList/\∀ d∈r,d.one=true
 | [],cells,r,cs,h,hr,ho=>by
  simp only[List.map_nil,sq,Option.some.injEq]at h
  subst h
  exact⟨cs,rfl,hr,ho⟩
 | (i,x)::L,cells,r,cs,h,hr,ho=>by
  simp at h
  cases U:F x with
  | none=>rw[U]at h; simp[sq]at h
  | some d =>
   rw[U]at h
   simp only[sq]at h
   split at h
   ·rename_i off n hp
    cases J : !d.bT&&qL n (wb d).length&&Nat.ble (off+n) cells.length with
    | false=>grind
    | true =>
     rw[J,cond_true]at h
     simp only[zI,Bool.not_eq_true']at J
     obtain⟨⟨h1,X⟩,h3⟩:=J
     have h2':n=(wb d).length:=zF X
     have h3':=W h3
     have V:=hF x d U
     have hfd:=cQ V h1
     have M4:(G x).cells.toList.length=n:=by rw[<- hfd.1]; exact h2'.symm
     have hle:off+n<=cs.size:=by have:=hr.1; simp at this; omega
     have hn:=tZ hr hfd off n
     obtain⟨mX,g1,g2,g3⟩:=VJ hpf hF L _ r (cs.toList.take off++(G x).cells.toList++cs.toList.drop (off+n)).toArray h (wa) (by
      intro y hy
      simp only[qZ]at hy
      rcases hy with(hy | hy) | hy
      ·grind
      ·exact cP V y hy
      ·exact ho y (xD hy))
     refine⟨mX,?_,g2,g3⟩
     simp
     rw[F6 (hpf _ _ hp) M4 hle]
     exact g1
   ·cases h
theorem Lr{t:Nat}{L:List (Nat×Operand)}{F:Operand->Option D}{G:Operand->Value}{d:Option D}{qm:St}(hI:Inv O)(hF:∀ x d,F x=some d->RD O d (G x))
  (h:(qt (CE c t (L.map λp=>(p.1,F p.2))) O.st).leads (d,qm)):wC c.P (do zJ (.value (<- Instr.build t (L.map λp=>(p.1,G p.2)).toArray))) O d qm:=by
 unfold CE at h
 split at h
 ·rename_i fs hu
  split at h
  ·rename_i z places hz hp
   split at h
   ·rename_i l B
    rw[dP]at h
    obtain⟨rfl,rfl⟩:=h
    obtain⟨i,zv,h1,X,h3⟩:=sS hz
    have hzr:=h3.rd O
    obtain⟨mX,g1,g2,g3⟩:=VJ (pf:=(places.toArray[·]?)) (λi p hp=>by simpa using hp) hF L z l zv.cells B (cQ hzr rfl) (cP hzr)
    have J:c.P.built t (L.map λp=>(p.1,G p.2))=some mX:=by
     unfold Program.built
     grind
    refine wC.pure hI (run_build O.w t _ mX (by simpa using J)) ?_
    have:=RD.agg l mX.toList g2.1 g3 g2.2
    omega
   ·exact absurd h zi
  ·exact absurd h zi
 ·rename_i k e hu
  split at h
  ·rename_i z ie hz hp
   split at h
   ·rename_i l B
    obtain⟨rfl,rfl⟩:=h
    obtain⟨i,zv,h1,X,h3⟩:=sS hz
    have hzr:=h3.rd O
    obtain⟨mX,g1,g2,g3⟩:=VJ (pf:=λi=>some (i*ie.size,ie.size)) (λi p hp=>by
     rw[qR]at hp
     cases hr:(List.range k)[i]? with
     | none=>grind
     | some j =>
      rw[hr]at hp
      obtain⟨wO,rfl⟩:=zA.1 hr
      simpa using hp) hF L z l zv.cells B (cQ hzr rfl) (cP hzr)
    have J:c.P.built t (L.map λp=>(p.1,G p.2))=some mX:=by
     unfold Program.built
     grind
    refine wC.pure hI (run_build O.w t _ mX (by simpa using J)) ?_
    have:=RD.agg l mX.toList g2.1 g3 g2.2
    omega
   ·exact absurd h zi
  ·exact absurd h zi
 ·exact absurd h zi
theorem HR{a:Act}{o:Oper}{p:Operand}(ho:o.op=.nilCheck p){x:Option D}{d:Option D}{qm:St}(hI:Inv O)(U:∀ z,x=some z->RD O z (a.eval p))
  (h:(qt (VD x) O.st).leads (d,qm)):wC c.P (execOp a.eval o) O d qm:=by
 have key:∀ z v,RD O z v->a.eval p=v->(∀ b:Option Addr,v=.pointer b->b≠none)->((∃ b,v=.pointer b)\/∃ g q l,v=.func (.func g) q l)->wC c.P (execOp a.eval o) O (some z) O.st:=by
  intro z v hz hv hn hc
  have:execOp a.eval o=zJ (.value v):=by
   rcases hc with⟨b,rfl⟩ | ⟨g,q,l,rfl⟩
   ·cases b with
    | none=>grind
    | some b=>simp only[execOp,ho,hv]
   ·simp only[execOp,ho,hv]
  rw[this]
  exact wC.val hI λ_ he=>by cases he; exact hz
 unfold VD at h
 split at h
 all_goals try exact absurd h zi
 all_goals
  rw[dP]at h; obtain⟨rfl,rfl⟩:=h
  have hr:=U _ rfl
  generalize hv:a.eval p=v at hr
  refine key _ v hr hv ?_ ?_
  ·intro b J; cases hr<;>first | (cases J<;>nofun) | (rename_i f l vs _ _; obtain⟨g,q,l',e⟩:=YI f vs; rw[e]at J; cases J)
  ·cases hr<;>first | exact .inl ⟨_,rfl⟩ | exact .inr (YI _ _)
theorem Mj{op:BinOp}{t:Nat}{px:Operand}{x:Option D}{v:Value}{d:Option D}{qm:St}(hI:Inv O)(U:∀ z,x=some z->RD O z v)
  (h:(qt (Dq c op t x) O.st).leads (d,qm)):wC c.P (do zJ (.value (<- (do eqGuard op t px (.const .nilIface) v .nilIface; binOp op t v .nilIface)))) O d qm:=by
 unfold Dq at h
 split at h
 ·rename_i ms hu
  have hm:c.P.underlying t=some (.interface (c.P.methodsAt t)):=by unfold Program.methodsAt; rw[hu]
  have g1:∀ w,(eqGuard op t px (.const .nilIface) .nilIface .nilIface).run c.P w=.ok () w:=λw=>by cases op<;>simp[eqGuard]
  have g2:∀ u y w,(eqGuard op t px (.const .nilIface) (.iface u y) .nilIface).run c.P w=.ok () w:=λu y w=>by cases op<;>simp[eqGuard]
  split at h
  ·unfold bb at h
   obtain⟨rfl,rfl⟩:=h
   cases U _ rfl
   exact wC.pure hI (by simp only[zH,g1,Y,run_eql_nil_nil _ _ hm]) RD.bool
  ·unfold bb at h
   obtain⟨rfl,rfl⟩:=h
   cases U _ rfl
   exact wC.pure hI (by simp only[zH,g2,Y,run_eql_held_nil _ _ _ _ hm]) RD.bool
  ·unfold bb at h
   obtain⟨rfl,rfl⟩:=h
   cases U _ rfl
   exact wC.pure hI (by simp only[zH,g1,Y,run_neq_nil_nil _ _ hm]) RD.bool
  ·unfold bb at h
   obtain⟨rfl,rfl⟩:=h
   cases U _ rfl
   exact wC.pure hI (by simp only[zH,g2,Y,run_neq_held_nil _ _ _ _ hm]) RD.bool
  ·exact absurd h zi
 ·exact absurd h zi
theorem KX{x:Option D}{v:Value}{xt at':Nat}{ok:Bool}{d:Option D}{qm:St}(hI:Inv O)(U:∀ z,x=some z->RD O z v)
  (h:(qt (Qx c x at' ok) O.st).leads (d,qm)):wC c.P (do zJ (.value (<- Instr.typeAssert v xt at' ok))) O d qm:=by
 unfold Qx at h
 split at h
 ·exact absurd h zi
 ·exact absurd h zi
 ·rename_i ty hni hu
  split at h
  ·rename_i t e
   cases J:qL t at'&&ok with
   | false=>rw[J]at h; exact absurd h zi
   | true =>
    rw[J,cond_true,dP]at h
    obtain⟨rfl,rfl⟩:=h
    simp only[zI]at J
    have:=zF J.1
    subst this
    obtain rfl:=J.2
    cases U _ rfl with
    | iface _ _ u SL =>
     refine wC.pure hI (v:=.tuple #[u,.bool true]) ?_ ?_
     ·cases ty<;>first | (exact(hni _ rfl).elim) | (simp[Instr.typeAssert,run_underlying hu])
     ·have:=wQ.cons SL (wQ.cons (RD.bool (O:=O) (b:=true)) wQ.nil)
      exact .eZ _ [u,.bool true] this.1 this.2
  ·exact absurd h zi
theorem Gm{t:Nat}{x:Option D}{v:Value}{d:Option D}{qm:St}(hI:Inv O)(U:∀ z,x=some z->RD O z v)
  (h:(qt (Xx c t x) O.st).leads (d,qm)):wC c.P (do zJ (.value (<- Instr.makeInterface t v))) O d qm:=by
 unfold Xx at h
 cases hu:c.P.underlying t with
 | none=>rw[hu]at h; exact absurd h zi
 | some u =>
  rw[hu]at h
  cases u<;>simp only at h
  all_goals try exact absurd h zi
  all_goals
   split at h
   ·rw[dP]at h; obtain⟨rfl,rfl⟩:=h
    have hc:c.P.concrete t=true:=by unfold Program.concrete; rw[hu]
    exact wC.pure hI (run_makeInterface O.w t v hc) (.iface t _ v (U _ rfl))
   ·exact absurd h zi
theorem z4j{e:Ty}{x y:D}{v:Value}{l:List (den e)}(hI:Inv O)(U:RD O x v)(h:(Zy O.st x).leads y)(B:Io e y=some l):Src O e l v:=by
 rcases VQ hI U h with⟨rfl,_⟩ | ⟨e',ys,rfl,hs,_⟩
 ·cases y with
  | qi σ z =>
   obtain⟨he,hz⟩:=wi (a:=σ) (b:=.sl e) B
   cases he
   cases hz
   exact DO U
  | tight e' z ne =>
   obtain⟨he,hz⟩:=wi (a:=.sl e') (b:=.sl e) B
   cases he
   cases hz
   exact WD U
  | wH =>
   simp only[Io,Option.some.injEq]at B
   subst B
   exact Yn U
  | _=>simp[Io]at B
 ·obtain⟨he,hz⟩:=wi (a:=.sl e') (b:=.sl e) B
  grind
theorem YL{s t e:Nat}{x:Option D}{v:Value}{d:Option D}{qm:St}(hI:Inv O)(U:∀ z,x=some z->RD O z v)(hs:c.P.underlying s=some (.slice e))(ht:c.P.underlying t=some .string)
  (h:(qt (Jt c e x) O.st).leads (d,qm)):wC c.P (do zJ (.value (<- convert s t v))) O d qm:=by
 unfold Jt at h
 split at h
 ·rename_i z he
  rw[sa]at h
  obtain⟨h,rfl⟩:=h
  obtain⟨y,h1,X⟩:=T.xg.1 h
  split at X
  ·rename_i l B
   cases X
   have D7:=z4j hI (U _ rfl) h1 B
   obtain⟨a,cap,f,rfl,jq,hn,g1,g2⟩:=D7.ex
   have jV:(convert s t (.slice a l.length cap)).run c.P O.w=.ok (.string (strOfNums l)) O.w:=by
    cases a with
    | none =>
     obtain⟨rfl,rfl⟩:=hn rfl
     exact run_convert_bytes_nil O.w s e hs he 0 0 t ht
    | some p =>
     rcases g2 p rfl with⟨rfl,rfl⟩ | ⟨hp,_,hc⟩
     ·have h0:(loadCells p 0).run c.P O.w=.ok (([]:List Int).map (zP .u8)).toArray O.w:=by
       rfl
      simp only[List.length_nil]
      rw[run_convert_bytes_string O.w s t e _ 0 0 hs he ht,run_bytesToString O.w _ 0 0 [] h0]
      rfl
     ·obtain⟨blk,o,sp⟩:=p
      subst hp
      refine run_convert_bytes_arg O.w s e hs he blk o l.length cap l rfl (λi hi => ?_) t ht
      have hf:=(g1 i hi).ev
      have:=hc i hi 0 (.int .u8 l[i]) (wa)
      have e1:o+i*Ty.size (.int .u8)+0=o+i:=by simp[Ty.size]
      grind
   refine wC.pure hI jV ?_
   exact .str
  ·exact X.elim
 ·exact absurd h zi
theorem CL{s t:Nat}{x:Option D}{v:Value}{d:Option D}{qm:St}(hI:Inv O)(U:∀ z,x=some z->RD O z v)
  (h:(qt (convertOp c s t x) O.st).leads (d,qm)):wC c.P (do zJ (.value (<- convert s t v))) O d qm:=by
 unfold convertOp at h
 split at h
 ·rename_i e hs ht
  exact YL hI U hs ht h
 ·rename_i k0 k hs ht
  split at h
  ·rename_i k1 n hk
   have:=kI hk U
   subst this
   obtain⟨rfl,rfl⟩:=h
   exact wC.pure hI (by simp[convert,run_underlying hs,run_underlying ht,Conv.intToInt]) RD.int
  ·exact absurd h zi
 ·rename_i hs ht
  split at h
  ·rename_i s' hk
   have:=X3 hk U
   subst this
   obtain⟨rfl,rfl⟩:=h
   exact wC.pure hI (by simp[convert,run_underlying hs,run_underlying ht]) RD.str
  ·exact absurd h zi
 ·exact absurd h zi
end
end Go.AM
namespace Go.AM
set_option linter.unusedSectionVars false
variable [gB]
section
variable {c:Ctx} {O:KS}
theorem Sh{ty t t':Nat}{s x:Option D}{v u:Value}{d:Option D}{qm:St}(hI:Inv O)(hs:∀ z,s=some z->RD O z v)(U:∀ z,x=some z->RD O z u)
  (h:(qt (Ly c t s x) O.st).leads (d,qm)):wC c.P (do zJ (.value (<- Builtin.copy_ #[t,t'] ty #[v,u]))) O d qm:=by
 unfold Ly at h
 split at h
 ·rename_i et het
  split at h
  ·rename_i k b vk k' off len z hu cp
   cases hk:decide (k'=k)with
   | false=>rw[hk]at h; exact absurd h zi
   | true =>
    rw[hk,cond_true]at h
    obtain rfl:k'=k:=uY hk
    simp only[qt]at h
    obtain⟨y,h1,X⟩:=T.xg.1 h
    split at X
    ·rename_i l B
     unfold z0H at X
     split at X
     ·rename_i dZ e' VU J
      split at X
      ·rename_i xs YY
       obtain⟨he,hxx⟩:=wi (a:=.sl e') (b:=.sl (.int k')) YY
       cases he
       obtain rfl:xs=VU:=hxx
       obtain⟨⟨D9,HF⟩,X⟩:=X
       cases X
       subst D9
       have D7:=z4j hI (U _ rfl) h1 B
       obtain⟨a,cap,f,rfl,jq,hn,g1,g2⟩:=D7.ex
       have hue:=ga het
       have z1L:(c.P.info? et).map (·.size)=some 1:=cp
       have hrd:=hs _ rfl
       cases hrd with
       | ms _ _ _ _ _ cap0 a0 TS hcap0 Y8 hsp0 hh =>
       have hm:=hh xs J
       have Y9:((zR len l).map (zP k')).length=Nat.min l.length len:=by rw[List.length_map,zU]; exact Nat.min_comm _ _
       have zaS:min len (zS l)=Nat.min l.length len:=Nat.min_comm _ _
       by_cases h0:min len (zS l)=0
       ·-- nothing goes over
        have jV:=run_copy_none (P:=c.P) O.w t t' ty et a0 a len cap0 l.length cap hue z1L (by rw[<- zaS]; exact h0)
        have Uw:yL off len xs l=xs:=by
         unfold yL
         have ht:zR len l=[]:=zM (by rw[zU]; exact h0)
         rw[ht,h0,List.append_nil,xH,List.take_append_drop]
        have ov:O.st.set b (.arr vk (.int k') (yL off len xs l))=O.st:=by
         rw[Uw]
         obtain⟨wO,hge⟩:=zA.1 J
         rw[<- hge,List.set_getElem_self]
        rw[ov]
        refine⟨O,.value (goInt 0),goInt 0,by simp[jV],.inl rfl,rfl,hI,Ext.refl O,λd' dM => ?_⟩
        cases dM
        rw[h0]
        exact RD.int
       ·obtain⟨hle,hm⟩:=hm
        rcases hm with⟨hz,_⟩ | ⟨blk,n,o,zsu,hp,hv,SC,hc2,hc3⟩
        ·omega
        ·cases hv
         have ho:o=off:=by
          rcases hc3 with h | h
          ·omega
          ·simpa[Ty.size]using h
         subst ho
         have hl0:l≠[]:=λh=>h0 (by rw[h]; simp)
         obtain⟨p,rfl⟩:∃ p,a=some p:=by
          cases a with
          | none=>grind
          | some p=>simp
         rcases g2 p rfl with⟨h,_⟩ | ⟨WO,_,hc⟩
         ·grind
         obtain⟨pb,po,psp⟩:=p
         simp only at WO
         subst WO
         obtain⟨_,z1r⟩:=hI.blk b _ J
         rcases z1r with⟨_,hpn⟩ | ⟨r7,n',WK,T,k1,k2,k3,k4,kr,g,k5⟩
         ·grind
         rw[hp]at k1
         cases k1
         have hn':zS xs<=WK.size:=by rw[k3]; simpa[Ty.size]using k4
         have eW:∀ (i:Nat) (hi:i<zS xs),WK[i]? = some (.int k' xs[i]):=by
          intro i hi
          obtain⟨q1,q2⟩:=k5 i hi
          have:=q2 0 (.int k' xs[i]) (by rw[q1.ev]; rfl)
          simpa[Ty.size]using this
         have zoP:((zR len l).map (zP k')).length<=len:=by simp; omega
         have jV:=run_copy_row c.P O.w t t' ty et blk o len cap0 ⟨pb,po,none⟩ l.length cap WK T ((zR len l).map (zP k')) hue z1L k2 Y9
          (λj w hj=>by
           have NQ:j<(zR len l).length:=by have:=(zA.1 hj).1; simpa using this
           have TX:j<l.length:=by simp at NQ; omega
           have e1:w=.int k' l[j]:=by
            grind
           have:=hc j TX 0 (.int k' l[j]) (by rw[(g1 j TX).ev]; rfl)
           have zcF:(⟨pb,po,none⟩:Addr).add j=⟨pb,po+j,none⟩:=by unfold Addr.add; split<;>simp_all
           rw[zcF,e1]
           simpa[Ty.size]using this)
          (Z) (λw hw=>by obtain⟨_,_,rfl⟩:=qX.1 hw; rfl)
         have hlen:zS (yL o len xs l)=zS xs:=by
          simp only[yL,zK,zU,qK]
          omega
         have KM:Alike (.arr vk (.int k') xs) (.arr vk (.int k') (yL o len xs l)):=⟨rfl,zE _,λ_=>hlen.symm⟩
         let mX:Array Value:=(WK.toList.take o++(zR len l).map (zP k')++WK.toList.drop (o+((zR len l).map (zP k')).length)).toArray
         have HE:mX.size=n:=by
          simp only[mX,zY,zK,zU,qK,qG,List.length_map]at *
          omega
         have zh4:∀ (i:Nat) (hi:i<zS (yL o len xs l)),mX[i]? = some (.int k' (yL o len xs l)[i]):=by
          intro i hi
          have h1:=VR (cs:=WK.toList) (us:=(zR len l).map (zP k')) (o:=o) (n:=((zR len l).map (zP k')).length) rfl (by simp; simp at zoP; omega) i
          have e1:mX[i]? = (WK.toList.take o++(zR len l).map (zP k')++WK.toList.drop (o+((zR len l).map (zP k')).length))[i]? := by simp[mX]
          have hm2:(List.map (zP k') (zR len l)).length=min len (zS l):=qu
          rw[hm2]at h1 e1
          have e2:(yL o len xs l)[i]? = if i<o then xs[i]? else if i<o+min len (zS l)then(zR len l)[i-o]? else xs[i]? := by
           unfold yL
           have hto:(zR o xs).length=o:=by simp; omega
           by_cases q1:i<o
           ·rw[if_pos q1,qI,zG (Z),List.getElem?_take,if_pos q1]
           ·rw[if_neg q1,qI,qC (Z),hto]
            by_cases q2:i<o+min len (zS l)
            ·rw[if_pos q2,zG (by simp; omega)]
            ·rw[if_neg q2,qC (by simp; omega),List.getElem?_drop,zU]
             congr 1; omega
          have e3:(yL o len xs l)[i]? = some (yL o len xs l)[i]:=zN hi
          rw[e1,h1]
          rw[e2]at e3
          have hix:i<zS xs:=by rw[<- hlen]; exact hi
          split
          ·rename_i q1
           rw[if_pos q1,zN hix]at e3
           rw[zV,eW i hix,Option.some.inj e3]
          ·rename_i q1
           rw[if_neg q1]at e3
           split
           ·rename_i q2
            rw[if_pos q2]at e3
            rw[qR,e3]
            rfl
           ·rename_i q2
            rw[if_neg q2,zN hix]at e3
            rw[zV,eW i hix,Option.some.inj e3]
         refine⟨O.upd b blk mX (.arr vk (.int k') (yL o len xs l)),.value (goInt (((zR len l).map (zP k')).length:Nat)),goInt (((zR len l).map (zP k')).length:Nat),(by rw[zH,jV]; rfl),.inl rfl,rfl,Jh hI hp J KM ?_,Jg hI hp J KM,λd' dM => ?_⟩
         ·refine⟨by simp[Ty.size],.inr ⟨blk,n,mX,T,hp,setRow_heap O.w blk WK mX T (0,0) k2,HE,by simp[Ty.size]; omega,kr,λi=>[.int k' ((yL o len xs l).getD i 0)],λi hi => ?_⟩⟩
          have hg:(yL o len xs l).getD i 0=(yL o len xs l)[i]:=by simp[List.getD_eq_getElem?_getD,zN hi]
          show Rc _ _ (.int k') _ [zP k' ((yL o len xs l).getD i 0)]/\∀ (j:Nat) (v:Value),[zP k' ((yL o len xs l).getD i 0)][j]? = some v->_
          rw[hg]
          refine⟨.int k' _,λj w hj => ?_⟩
          cases j with
          | zero =>
           simp at hj
           subst hj
           simpa[Ty.size]using zh4 i hi
          | succ j=>simp at hj
         ·cases dM
          rw[zaS,<- Y9]
          exact RD.int
      ·exact X.elim
     ·exact X.elim
    ·exact X.elim
  ·exact absurd h zi
 ·exact absurd h zi
end
end Go.AM
namespace Go.AM
set_option linter.unusedSectionVars false
variable [gB]
def gO(P:Program)(g:Nat)(args:Array Value)(w:World)(oE:Ending->World->Prop):Prop :=
 ((callFunc g args).run P w=.ok (.enter g args) w/\Calls P g args w oE)\/∃ v w',(callFunc g args).run P w=.ok (.value v) w'/\oE (.returned v) w'
theorem gO.mono{P:Program}{g:Nat}{args:Array Value}{w:World}{oE R':Ending->World->Prop}(h:gO P g args w oE)(hr:∀ e w,oE e w->R' e w):gO P g args w R':=by
 rcases h with⟨h1,X⟩ | ⟨v,w',h1,X⟩
 ·exact .inl ⟨h1,X.mono hr⟩
 ·exact .inr ⟨v,w',h1,hr _ _ X⟩
def jl(O:KS):Hj->Ending->Prop
 | .ret ds,e=>∃ v,e=.returned v/\RD O (ft ds) v
 | .bE d,e=>∃ v,e=.panicked [{ v,recovered:=false }]/\RD O d v
abbrev z08:=Nat->Array Value->World->(Ending->World->Prop)->Prop
def znh(Dr:z08)(g:Nat)(S:List D->St->T (Hj×St)):Prop :=
 ∀ (O:KS) (args:List D) (xa:List Value) (rs:Hj) (qm:St),(S args O.st).leads (rs,qm)->Inv O->wQ O args xa ->
  Dr g xa.toArray O.w λe w'=>∃ E:KS,E.w=w'/\E.st=qm/\Inv E/\Ext O E/\jl E rs e
def E8(P:Program)(g:Nat)(S:List D->St->T (Hj×St)):Prop :=
 ∀ (O:KS) (args:List D) (xa:List Value) (rs:Hj) (qm:St),(S args O.st).leads (rs,qm)->Inv O->wQ O args xa ->
  gO P g xa.toArray O.w λe w'=>∃ E:KS,E.w=w'/\E.st=qm/\Inv E/\Ext O E/\jl E rs e
section
variable {c:Ctx} {O:KS}
theorem RD.weaken{Kt:Nat->Prop}(hs:∀ k,O.ok k->Kt k){d:D}{v:Value}(h:RD O d v):RD { O with ok:=Kt } d v:=by
 have Uw:L6 O.w O.w O.ok Kt:=λk hk=>⟨hs k hk,rfl⟩
 induction h with
 | qi τ y cs h=>exact .qi τ y cs (h.mono Uw)
 | sT e l b v h ht hf=>exact .sT e l b v (h.mono Uw) ht hf
 | vD e a=>exact .vD e a
 | tight e l ne blk off f kB j9 h hc=>exact .tight e l ne blk off f kB (hs _ j9) (λi hi=>(h i hi).mono Uw) hc
 | wH=>exact .wH
 | br=>exact .br
 | vb=>exact .vb
 | gF=>exact .gF
 | uX=>exact .uX
 | V6 v h=>exact .V6 v h
 | nw T=>exact .nw T
 | nS b T d V=>exact .nS b T d V
 | nT b T blk n d V h=>exact .nT b T blk n d V h
 | gj b blk n d V h=>exact .gj b blk n d V h
 | ptr b off blk n d V h=>exact .ptr b off blk n d V h
 | vE τ y cs blk off j9 h hc=>exact .vE τ y cs blk off (hs _ j9) (h.mono Uw) hc
 | gW b vk e idx off blk o J h=>exact .gW b vk e idx off blk o J h
 | ms b vk e off len cap a J jq ha WO h=>exact .ms b vk e off len cap a J jq ha WO h
 | wj f l vs B h ih=>exact .wj f l vs B ih
 | agg l vs B ho h ih=>exact .agg l vs B ho ih
 | eZ l vs B h ih=>exact .eZ l vs B ih
 | iface t d v h ih=>exact .iface t d v ih
theorem RD.free{E:KS}(hw:E.w=O.w)(j9:E.ok=O.ok)(ud:O.st=[]){d:D}{v:Value}(h:RD O d v):RD E d v:=by
 obtain⟨w',Kt,ph',qm⟩:=E
 subst hw j9
 induction h with
 | qi τ y cs h=>exact .qi τ y cs h
 | sT e l b v h ht hf=>exact .sT e l b v h ht hf
 | vD e a=>exact .vD e a
 | tight e l ne blk off f kB j9 h hc=>exact .tight e l ne blk off f kB j9 h hc
 | wH=>exact .wH
 | br=>exact .br
 | vb=>exact .vb
 | gF=>exact .gF
 | uX=>exact .uX
 | V6 v h=>exact .V6 v h
 | nw T=>exact .nw T
 | nS b T d V=>grind
 | nT b T blk n d V h=>grind
 | gj b blk n d V h=>grind
 | ptr b off blk n d V h=>grind
 | vE τ y cs blk off j9 h hc=>exact .vE τ y cs blk off j9 h hc
 | gW b vk e idx off blk o J h=>rcases J with J | ⟨_,_,_,J,_⟩ <;> · rw[ud]at J; simp at J
 | ms b vk e off len cap a J jq ha WO h=>rcases J with J | ⟨_,_,_,J,_⟩ <;> · rw[ud]at J; simp at J
 | wj f l vs B h ih=>exact .wj f l vs B ih
 | agg l vs B ho h ih=>exact .agg l vs B ho ih
 | eZ l vs B h ih=>exact .eZ l vs B ih
 | iface t d v h ih=>exact .iface t d v ih
theorem Rc.scalar{w w':World}{ok Kt:Nat->Prop}{τ:Ty}{x:den τ}{cs:List Value}(h:Rc w ok τ x cs)(ht:τ.scalar=true):Rc w' Kt τ x cs:=by
 induction h with
 | int k n=>exact .int k n
 | bool b=>exact .bool b
 | str s=>exact .str s
 | ma=>cases ht
 | sl=>cases ht
 | nil=>exact .nil
 | cons a b x y c1 c2 h1 X i1 i2=>simp only[Ty.scalar,zI]at ht; exact .cons a b x y c1 c2 (i1 ht.1) (i2 ht.2)
 | expr=>cases ht
theorem zev{e:Ty}{ys:List (den e)}{v:Value}(h:Src O e ys v):Rc O.w (okS O) (.sl e) ys [v]:=by
 obtain⟨a,cap,f,rfl,jq,hn,h1,X⟩:=h.ex
 cases a with
 | none=>obtain⟨rfl,rfl⟩:=hn rfl; exact .ma e none
 | some p =>
  rcases X p rfl with⟨rfl,rfl⟩ | ⟨hp,j9,hc⟩
  ·exact .ma e _
  obtain⟨blk,o,sp⟩:=p
  subst hp
  exact .sl e ys blk o cap f j9 jq (λi hi=>(h1 i hi).mono λk hk=>⟨.inl hk,rfl⟩) hc
def KS.all(O:KS):KS:={ O with ok:=okS O }
theorem RD.all{d:D}{v:Value}(h:RD O d v):RD O.all d v:=h.weaken λ_ hk=>.inl hk
theorem wQ.all{l:List D}{vs:List Value}(h:wQ O l vs):wQ O.all l vs:=⟨h.1,λi h1 X=>(h.2 i h1 X).all⟩
theorem C4{x y:D}{v:Value}(hI:Inv O)(U:RD O x v)(h:(Zy O.st x).leads y):RD O.all y v/\(x.one=true->y.one=true)/\(x.bT=false->y.bT=false):=by
 rcases VQ hI U h with⟨rfl,_⟩ | ⟨e,ys,rfl,hs,_⟩
 ·exact⟨U.all,id,id⟩
 ·exact⟨RD.Zk rfl (zev hs),λ_=>rfl,λ_=>rfl⟩
theorem C7(hI:Inv O):∀ {l r:List D} {vs:List Value},wQ O l vs->(∀ d∈l,d.one=true)->(C6 O.st l).leads r->wQ O.all r vs/\∀ d∈r,d.one=true
 | [],r,vs,h,_,hs=>by cases hs; rw[h.wh]; exact⟨.nil,nofun⟩
 | d::l,r,vs,h,ho,hs=>by
  simp only[C6,T.xg]at hs
  obtain⟨x,U,l',B,rfl⟩:=hs
  obtain⟨v,us,rfl,h1,X⟩:=h.cons_inv
  obtain⟨g1,g2,_⟩:=C4 hI h1 U
  obtain⟨k1,k2⟩:=C7 hI X (λd V=>ho d (xC _ V)) B
  refine⟨.cons g1 k1,λd V => ?_⟩
  grind
theorem z4f{x y:D}{v:Value}(hI:Inv O)(U:RD O x v)(h:(snap O.st x).leads y):RD O.all y v:=by
 cases x with
 | agg l =>
  simp only[snap,T.xg]at h
  obtain⟨r,hr,rfl⟩:=h
  cases U with
  | agg _ vs B ho hh =>
   obtain⟨g1,g2⟩:=C7 hI (⟨B,hh⟩:wQ O l vs) ho hr
   exact .agg r vs g1.1 g2 g1.2
 | _=>exact(C4 hI U h).1
theorem Ub{τ:Ty}{d:D}{x:den τ}{v:Value}(hI:Inv O)(V:RD O d v)(h:(Ua O.st τ d).leads x):RD O.all (.qi τ x) v:=by
 simp only[Ua,T.xg,T.yO]at h
 obtain⟨y,h1,X⟩:=h
 exact mV (z4f hI V h1) X
theorem C5{x y:D}(h:(Zy [] x).leads y):y=x:=by
 cases x with
 | ms=>simp[Zy,T.leads]at h
 | _=>exact h.symm
theorem C8:∀ {l r:List D},(C6 [] l).leads r->r=l
 | [],_,h=>h.symm
 | d::l,r,h=>by
  simp only[C6,T.xg]at h
  obtain⟨x,U,l',B,rfl⟩:=h
  rw[C5 U,C8 B]
theorem z4g{x y:D}(h:(snap [] x).leads y):y=x:=by
 cases x with
 | agg l =>
  simp only[snap,T.xg]at h
  obtain⟨r,hr,rfl⟩:=h
  rw[C8 hr]
 | _=>exact C5 h
theorem ER{τ:Ty}{d:D}{x:den τ}{v:Value}(V:RD O d v)(h:(Ua [] τ d).leads x):RD O (.qi τ x) v:=by
 simp only[Ua,T.xg,T.yO]at h
 obtain⟨y,h1,X⟩:=h
 rw[z4g h1]at X
 exact mV V X
def K7:D->Bool | .qi .. | .vE .. => true | _=>false
def NC:D->Bool
 | .wj _ l=>l.all K7
 | d=>K7 d
theorem z6u{d:D}(h:K7 d=true):NC d=true:=by cases d<;>first | exact h | cases h
theorem YK{st:St}{τ:Ty}{d y:D}(h:(QD st τ d).leads y):K7 y=true:=by
 unfold QD at h
 split at h
 ·split at h
  ·cases h; rfl
  ·exact h.elim
 ·split at h
  ·split at h
   ·cases h; rfl
   ·exact h.elim
  ·exact h.elim
 ·exact h.elim
theorem Bh{τ:Ty}{d y:D}{v:Value}(hI:Inv O)(V:RD O d v)(h:(QD O.st τ d).leads y):RD O.all y v:=by
 unfold QD at h
 split at h
 ·split at h
  ·rename_i x z hz
   cases h
   obtain⟨e,rfl⟩:=wi hz
   cases e
   exact V.all
  ·exact h.elim
 ·rename_i b off
  split at h
  ·rename_i d' J
   split at h
   ·rename_i z hz
    cases h
    cases ho:qL off 0 with
    | false=>grind
    | true =>
     have:=zF ho
     subst this
     obtain⟨blk,n,cs,t,g1,g2,g3,g4,g5⟩:=(hI.blk b _ J:yf O b d').cells (by cases d'<;>first | rfl | cases hz)
     cases V with
     | ptr _ _ r7 n' d1 hd1 hp =>
      rw[g1]at hp
      cases hp
      have j9:okS O blk:=.inr ⟨b,n,g1⟩
      have ht:d'.bT=false:=by
       cases d' with
       | eZ l=>simp[p9,D.bT]at hz
       | _=>rfl
      have Ee:=XJ hz g4 g5.1 ht
      refine .vE τ z cs.toList blk 0 j9 (Ee.mono λk hk=>⟨.inl hk,rfl⟩) λj v hj => ?_
      show O.w.cell? _=_
      rw[Wn g2,qE]
      grind
   ·exact h.elim
  ·exact h.elim
 ·exact h.elim
theorem Bi{τ:Ty}{d y:D}{v:Value}(V:RD O d v)(h:(QD [] τ d).leads y):RD O y v:=by
 unfold QD at h
 split at h
 ·split at h
  ·rename_i x z hz
   cases h
   obtain⟨e,rfl⟩:=wi hz
   grind
  ·exact h.elim
 ·rename_i b off
  split at h
  ·grind
  ·exact h.elim
 ·exact h.elim
theorem EM{st:St}{p:Jn}{d y:D}(h:(Xa st p d).leads y):K7 y=true:=by
 cases p with
 | rp τ=>exact YK h
 | im τ=>simp only[Xa,T.xg]at h; obtain⟨x,_,rfl⟩:=h; rfl
theorem Lw{p:Jn}{d y:D}{v:Value}(hI:Inv O)(V:RD O d v)(h:(Xa O.st p d).leads y):RD O.all y v:=by
 cases p with
 | rp τ=>exact Bh hI V h
 | im τ=>simp only[Xa,T.xg]at h; obtain⟨x,U,rfl⟩:=h; exact Ub hI V U
theorem Lx{p:Jn}{d y:D}{v:Value}(V:RD O d v)(h:(Xa [] p d).leads y):RD O y v:=by
 cases p with
 | rp τ=>exact Bi V h
 | im τ=>simp only[Xa,T.xg]at h; obtain⟨x,U,rfl⟩:=h; exact ER V U
theorem U9{st:St}:∀ {ps:List Jn} {ds r:List D},(mW st ps ds).leads r->∀ d∈r,K7 d=true
 | [],[],r,hs=>by cases hs; nofun
 | p::ps,d::ds,r,hs=>by
  simp only[mW,T.xg]at hs
  obtain⟨x,U,l,B,rfl⟩:=hs
  intro d' dM
  rcases xG.1 dM with rfl | dM
  ·exact EM U
  ·exact U9 B d' dM
 | [],_::_,_,hs=>hs.elim
 | _::_,[],_,hs=>hs.elim
theorem K5(hI:Inv O):∀ {ps:List Jn} {ds r:List D} {vs:List Value},wQ O ds vs->(mW O.st ps ds).leads r->wQ O.all r vs
 | [],[],r,vs,h,hs=>by cases hs; rw[h.wh]; exact .nil
 | p::ps,d::ds,r,vs,h,hs=>by
  simp only[mW,T.xg]at hs
  obtain⟨x,U,l,B,rfl⟩:=hs
  obtain⟨v,us,rfl,h1,X⟩:=h.cons_inv
  exact .cons (Lw hI h1 U) (K5 hI X B)
 | [],_::_,_,_,_,hs=>hs.elim
 | _::_,[],_,_,_,hs=>hs.elim
theorem K6:∀ {ps:List Jn} {ds r:List D} {vs:List Value},wQ O ds vs->(mW [] ps ds).leads r->wQ O r vs
 | [],[],r,vs,h,hs=>by cases hs; rw[h.wh]; exact .nil
 | p::ps,d::ds,r,vs,h,hs=>by
  simp only[mW,T.xg]at hs
  obtain⟨x,U,l,B,rfl⟩:=hs
  obtain⟨v,us,rfl,h1,X⟩:=h.cons_inv
  exact .cons (Lx h1 U) (K6 X B)
 | [],_::_,_,_,_,hs=>hs.elim
 | _::_,[],_,_,_,hs=>hs.elim
theorem Ve{st:St}{p:VX}{d y:D}(h:(EN st p d).leads y):(∃ τ x,p=.ty τ/\(Ua st τ d).leads x/\y=.qi τ x)\/(∃ τ,p=.rp τ/\(QD st τ d).leads y) \/
  ∃ f caps l l',p=.wj f caps/\d=.wj f l/\(mW st caps l).leads l'/\y=.wj f l':=by
 cases p with
 | ty τ =>
  have h':((Ua st τ d).bind λx=>T.ret (D.qi τ x)).leads y:=by cases d<;>exact h
  simp only[T.xg]at h'
  obtain⟨x,U,rfl⟩:=h'
  grind
 | rp τ=>exact .inr (.inl ⟨τ,rfl,by cases d<;>exact h⟩)
 | wj f caps =>
  cases d with
  | wj f' l =>
   simp only[EN]at h
   cases J:qL f f' with
   | false=>rw[J]at h; exact h.elim
   | true =>
    rw[J,cond_true,T.xg]at h
    obtain⟨l',B,rfl⟩:=h
    have:=zF J
    grind
  | _=>exact h.elim
theorem Sf{st:St}{p:VX}{d y:D}(h:(EN st p d).leads y):NC y=true:=by
 rcases Ve h with⟨τ,x,_,_,rfl⟩ | ⟨τ,_,h⟩ | ⟨f,caps,l,l',_,_,h',rfl⟩
 ·rfl
 ·exact z6u (YK h)
 ·exact qU.2 (U9 h')
theorem z0D{p:VX}{d y:D}{v:Value}(hI:Inv O)(V:RD O d v)(h:(EN O.st p d).leads y):RD O.all y v:=by
 rcases Ve h with⟨τ,x,_,U,rfl⟩ | ⟨τ,_,h⟩ | ⟨f,caps,l,l',_,rfl,h',rfl⟩
 ·exact Ub hI V U
 ·exact Bh hI V h
 ·cases V with
  | wj _ _ vs B hh =>
   have:=K5 hI (⟨B,hh⟩:wQ O l vs) h'
   exact .wj f l' vs this.1 this.2
theorem z0E{p:VX}{d y:D}{v:Value}(V:RD O d v)(h:(EN [] p d).leads y):RD O y v:=by
 rcases Ve h with⟨τ,x,_,U,rfl⟩ | ⟨τ,_,h⟩ | ⟨f,caps,l,l',_,rfl,h',rfl⟩
 ·exact ER V U
 ·exact Bi V h
 ·cases V with
  | wj _ _ vs B hh =>
   have:=K6 (⟨B,hh⟩:wQ O l vs) h'
   exact .wj f l' vs this.1 this.2
theorem Vf{st:St}:∀ {ps:List VX} {ds r:List D},(QC st ps ds).leads r->∀ d∈r,NC d=true
 | [],[],r,hs=>by cases hs; nofun
 | p::ps,d::ds,r,hs=>by
  simp only[QC,T.xg]at hs
  obtain⟨x,U,l,B,rfl⟩:=hs
  intro d' dM
  rcases xG.1 dM with rfl | dM
  ·exact Sf U
  ·exact Vf B d' dM
 | [],_::_,_,hs=>hs.elim
 | _::_,[],_,hs=>hs.elim
theorem Bg(hI:Inv O):∀ {ps:List VX} {ds r:List D} {vs:List Value},wQ O ds vs->(QC O.st ps ds).leads r->wQ O.all r vs
 | [],[],r,vs,h,hs=>by cases hs; rw[h.wh]; exact .nil
 | p::ps,d::ds,r,vs,h,hs=>by
  simp only[QC,T.xg]at hs
  obtain⟨x,U,l,B,rfl⟩:=hs
  obtain⟨v,us,rfl,h1,X⟩:=h.cons_inv
  exact .cons (z0D hI h1 U) (Bg hI X B)
 | [],_::_,_,_,_,hs=>hs.elim
 | _::_,[],_,_,_,hs=>hs.elim
theorem Js:∀ {ps:List VX} {ds r:List D} {vs:List Value},wQ O ds vs->(QC [] ps ds).leads r->wQ O r vs
 | [],[],r,vs,h,hs=>by cases hs; rw[h.wh]; exact .nil
 | p::ps,d::ds,r,vs,h,hs=>by
  simp only[QC,T.xg]at hs
  obtain⟨x,U,l,B,rfl⟩:=hs
  obtain⟨v,us,rfl,h1,X⟩:=h.cons_inv
  exact .cons (z0E h1 U) (Js X B)
 | [],_::_,_,_,hs,h=>h.elim
 | _::_,[],_,_,hs,h=>h.elim
def KS.bare(O:KS)(ok:Nat->Prop):KS:=⟨O.w,ok,[],[]⟩
theorem YA{ok:Nat->Prop}(hI:Inv O)(hs:∀ k,O.ok k->ok k)(h:∀ k,ok k->k<O.w.heap.size):Inv (O.bare ok) :=
 ⟨rfl,h,λb blk n h=>by simp[KS.bare]at h,λb b' blk n n' h=>by nofun,λb x h=>by simp[KS.bare]at h,hI.gl.mono λk hk=>⟨hs k hk,rfl⟩⟩
theorem ZM{ok:Nat->Prop}{d:D}{v:Value}(hi:K7 d=true)(h:RD { O with ok:=ok } d v):RD (O.bare ok) d v:=by
 cases d with
 | qi τ x=>obtain⟨cs,h1,rfl⟩:=RD.dq h; exact .qi τ x cs h1
 | vE τ x=>cases h with | vE _ _ cs blk off j9 h hc=>exact .vE τ x cs blk off j9 h hc
 | _=>cases hi
theorem Bj{ok:Nat->Prop}{d:D}{v:Value}(hi:NC d=true)(h:RD { O with ok:=ok } d v):RD (O.bare ok) d v:=by
 cases d with
 | wj f l =>
  cases h with
  | wj _ _ vs B hh=>exact .wj f l vs B λi h1 X=>ZM (qU.1 hi _ (qA h1)) (hh i h1 X)
 | qi τ x=>exact ZM hi h
 | vE τ x=>exact ZM hi h
 | _=>cases hi
theorem EA{κ1:KS}{ok:Nat->Prop}(hI:Inv O)(VZ:Inv κ1)(ud:κ1.st=[])(U:Ext (O.bare ok) κ1)(Kt:Nat->Prop)(h1:∀ k,O.ok k->Kt k)(X:∀ k,Kt k->O.ok k\/O.w.heap.size<=k)(h3:∀ k,Kt k->k<κ1.w.heap.size) :
  Ext O { O with w:=κ1.w,ok:=Kt }/\Inv { O with w:=κ1.w,ok:=Kt }:=by
 have hfr:∀ k,k<O.w.heap.size->κ1.w.heap[k]? = O.w.heap[k]? := λk hk=>U.frame k hk λb n h=>by simp[KS.bare]at h
 have cp:O.w.heap.size<=κ1.w.heap.size:=U.size
 have he:Ext O { O with w:=κ1.w,ok:=Kt }:=⟨U.os,U.tape,U.output,cp,λk hk=>⟨h1 k hk,hfr k (hI.cq k hk)⟩,λk hk=>(X k hk).elim .inl (λh=>.inr (.inl h)),λ_ _ _ h=>.inl h,λb d h=>⟨⟨d,h⟩,rfl⟩,
  λb v0 e xs h=>.inr ⟨v0,xs,h,zE _,λ_=>⟨rfl,rfl⟩⟩,λ_ h=>h,zE _,λk hk _=>hfr k hk⟩
 refine⟨he,hI.len,h3,λb blk n h => ?_,hI.inj,λb x h=>(hI.blk b x h).mono he rfl λblk n h=>hfr _ (hI.apart b blk n h).1,hI.gl.mono he.same⟩
 obtain⟨g1,g2⟩:=hI.apart b blk n h
 grind
theorem Sc{g:Nat}{args:List D}{xa:List Value}{d:Option D}{qm:St}(hs:E8 c.P g (c.fn g))(hI:Inv O)(ha:wQ O args xa)
  (h:(qt (match c.sig g args with | some s=>eR c g s args | none=>sY c g args) O.st).leads (d,qm)) :
  gO c.P g xa.toArray O.w λe w'=>∃ (E:KS) (v:Value),E.w=w'/\E.st=qm/\Inv E/\Ext O E/\e=.returned v/\∀ d',d=some d'->RD E d' v:=by
 split at h
 ·rename_i s SI
  unfold eR at h
  cases hm:(!(args.any JQ))with
  | true =>
   rw[hm,cond_true,ya]at h
   obtain⟨h,rfl⟩:=h
   simp only[T.xg]at h
   obtain⟨l,B,⟨rs,dY⟩,hc,hr⟩:=h
   have fT:=Js ha B
   have J:wQ (O.bare O.ok) l xa:=⟨fT.1,λi h1 X=>Bj (Vf B _ (qA h1)) (fT.2 i h1 X)⟩
   refine(hs (O.bare O.ok) l xa rs dY hc (YA hI (λ_ h=>h) hI.cq) J).mono ?_
   rintro e w' ⟨κ1,rfl,ud,VZ,U,he⟩
   unfold z45 at hr
   split at hr
   ·rename_i ds heq
    cases heq
    cases hr
    obtain⟨v,rfl,hv⟩:=he
    obtain⟨hE,hI'⟩:=EA hI VZ ud U κ1.ok (λk hk=>(U.same k hk).1) (λk hk=>by
     rcases U.fresh k hk with h | h | ⟨b,n,h⟩
     ·exact .inl h
     ·exact .inr h
     ·simp[KS.bare]at h) VZ.cq
    exact⟨{ O with w:=κ1.w,ok:=κ1.ok },v,rfl,rfl,hI',hE,rfl,λd' dM=>by cases dM; exact RD.free (O:=κ1) (E:={ O with w:=κ1.w,ok:=κ1.ok }) rfl rfl ud hv⟩
   ·exact hr.elim
  | false =>
   rw[hm,cond_false,sa]at h
   obtain⟨h,rfl⟩:=h
   simp only[T.xg]at h
   obtain⟨l,B,⟨rs,dY⟩,hc,hr⟩:=h
   have fT:=Bg hI ha B
   have J:wQ (O.bare (okS O)) l xa:=⟨fT.1,λi h1 X=>Bj (Vf B _ (qA h1)) (fT.2 i h1 X)⟩
   have wO:∀ k,okS O k->k<O.w.heap.size:=by
    rintro k (hk | ⟨b,n,hk⟩)
    ·exact hI.cq k hk
    ·exact(hI.apart b k n hk).1
   refine(hs (O.bare (okS O)) l xa rs dY hc (YA hI (λ_ h=>.inl h) wO) J).mono ?_
   rintro e w' ⟨κ1,rfl,ud,VZ,U,he⟩
   unfold Wy at hr
   split at hr
   ·rename_i ds heq
    cases heq
    cases Q6:ds.all WB with
    | false=>rw[Q6]at hr; exact hr.elim
    | true =>
     rw[Q6,cond_true]at hr
     cases hr
     obtain⟨v,rfl,hv⟩:=he
     obtain⟨hE,hI'⟩:=EA hI VZ ud U O.ok (λk hk=>hk) (λk hk=>.inl hk) (λk hk=>qO (hI.cq k hk) U.size)
     refine⟨{ O with w:=κ1.w,ok:=O.ok },v,rfl,rfl,hI',hE,rfl,λd' dM => ?_⟩
     cases dM
     have one:∀ d u,WB d=true->RD κ1 d u->RD { O with w:=κ1.w,ok:=O.ok } d u:=by
      intro d u V hu
      cases d<;>simp[WB]at V
      obtain⟨cs,h1,rfl⟩:=RD.dq hu
      exact .qi _ _ cs (h1.scalar V)
     have HK:=qU.1 Q6
     unfold ft at hv ⊢
     split at hv
     ·exact one _ _ (HK _ (qu)) hv
     ·rename_i kB
      cases hv with
      | eZ _ vs B hh=>exact .eZ ds vs B λi h1 X=>one _ _ (HK _ (qA h1)) (hh i h1 X)
   ·exact hr.elim
 ·unfold sY at h
  simp only[qt,T.xg]at h
  obtain⟨⟨rs,dY⟩,hc,hr⟩:=h
  refine(hs O args xa rs dY hc hI ha).mono ?_
  rintro e w' ⟨κ1,rfl,ud,VZ,U,he⟩
  cases rs with
  | bE p=>exact hr.elim
  | ret ds =>
   cases hr
   obtain⟨v,rfl,hv⟩:=he
   exact⟨κ1,v,rfl,ud,VZ,U,rfl,λd' dM=>by cases dM; exact hv⟩
end
end Go.AM