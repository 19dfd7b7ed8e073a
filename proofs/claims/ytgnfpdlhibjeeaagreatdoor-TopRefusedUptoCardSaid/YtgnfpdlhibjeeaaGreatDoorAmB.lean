/-
  The abstract machine, part B: texts of our own, the same for each claim.
-/
import Derived.Test.YtgnfpdlhibjeeaaGreatDoorAmA
import Derived.Lib.AppendStr
import Derived.Maps.OwnSet
import Derived.Lib.LazyBuf
import Derived.Laws.Pointers
import Derived.WideLaws
import Derived.Laws.BytesArg
import Derived.Laws.CopyRow
import Derived.Laws.IdiomCopy
set_option linter.unusedVariables false
set_option linter.unusedSectionVars false
open List renaming getElem?_eq_some_iff -> zA, getElem?_append_left -> zG, length_append -> zK, eq_nil_of_length_eq_zero -> zM, getElem?_eq_getElem -> zN, take -> zR, length -> zS, getElem?_set -> zT, length_take -> zU, size_toArray -> zY, getElem_mem -> qA, getElem?_append_right -> qC, append_assoc -> qI, take_succ_eq_append_getElem -> qJ, length_drop -> qK, getElem?_map -> qR, all_eq_true -> qU, length_cons -> qV, getElem?_set_self -> qW, mem_map -> qX, mem_append -> qZ, getElem?_toArray -> xA, length_replicate -> xB, mem_cons_of_mem -> xC, mem_of_mem_drop -> xD, mem_cons -> xG
open Go.Result renaming andThen_ok -> Y
open Nat renaming mul_le_mul_right -> I, le_of_ble_eq_true -> R, le_refl -> zE, eq_of_beq_eq_true -> zF, not_lt_zero -> zW, succ_mul -> qB, add_mul -> qD, zero_add -> qE, beq -> qL, le_trans -> qN, lt_of_lt_of_le -> qO, blt -> xE, add_zero -> xH
open Go.Sem renaming run_bind -> zH, run_pure -> qF
open Bool renaming and_eq_true -> zI
open Pure renaming pure -> zJ
open Go.Builtin renaming append_ -> zL, firstCells -> zO, zeroCells -> zX, lenOf -> qS
open Go.Value renaming int -> zP
open Go.Instr renaming buildSlice -> zQ, fill -> qH, box -> qT, makeSlice -> qY, storeAt -> xF
open Array renaming getElem?_toList -> zV, length_toList -> qG, range -> xK
open Option renaming isSome_iff_exists -> zZ
open Go.Maps renaming keyOf_int_mk -> qM, int_keyed -> qQ
open Go.Lib renaming run_firstCells_string -> qP
open Go.WideElems renaming rd -> xI, rg -> xJ
namespace Go.AM
variable [gy]
section
variable {c:Ctx} {O E:KS}
theorem rC.mono(x:Ext O E){b:Nat}(hp:E.ph[b]? = O.ph[b]?)(hh:∀ blk n,O.ph[b]? = some (some (blk,n))->E.w.heap[blk]? = O.w.heap[blk]?){y:dn}(h:rC O b y):rC E b y:=by
 cases y with
 | dead=>trivial
 | var d =>
  refine y7.elim h (λhm h=>.mk hm ?_) λl e h=>by
   subst e
   obtain⟨blk,o,h1,X,h3⟩:=h
   exact⟨blk,o,hp.trans h1,(hh blk 0 h1).trans X,h3⟩
  obtain⟨blk,n,cs,t,h1,X,h3,h4,h5⟩:=h
  exact⟨blk,n,cs,t,hp.trans h1,(hh blk n h1).trans X,h3,h4.mono x,h5⟩
 | arr vn e xs =>
  obtain⟨h0,h⟩:=h
  refine⟨h0,sC h (λh=>⟨h.1,hp.trans h.2⟩) ?_⟩
  rintro⟨blk,n,cs,t,h1,X,h3,h4,hr,f,h5⟩
  exact⟨blk,n,cs,t,hp.trans h1,(hh blk n h1).trans X,h3,h4,hr,f,λi hi=>⟨(h5 i hi).1.mono x.same,(h5 i hi).2⟩⟩
def KS.qj(O:KS)(w':World):KS:={ O with w:=w',ok:=λk=>O.ok k\/k=O.w.heap.size }
structure nA(w w':World)(o:Obj):Prop where
 os:w'.os=w.os
 tape:w'.tape=w.tape
 output:w'.output=w.output
 heap:w'.heap=w.heap.push o
theorem nA.size{w w':World}{o:Obj}(g:nA w w' o):w'.heap.size=w.heap.size+1:=by rw[g.heap]; simp
theorem nA.old{w w':World}{o:Obj}(g:nA w w' o){k:Nat}(h:k<w.heap.size):w'.heap[k]? = w.heap[k]? := by
 rw[g.heap,Array.getElem?_push,if_neg (Z)]
theorem nA.new{w w':World}{o:Obj}(g:nA w w' o):w'.heap[w.heap.size]? = some o:=by rw[g.heap]; simp
theorem nA.alloc(w:World)(o:Obj):nA w (w.alloc o) o:=⟨rfl,rfl,rfl,rfl⟩
theorem nA.drew(w:World)(o:Obj):nA w (w.drew.alloc o) o:=⟨rfl,rfl,rfl,rfl⟩
theorem Wx{w':World}{o:Obj}(hI:Inv O)(g:nA O.w w' o):Ext O (O.qj w'):=by
 refine⟨g.os,g.tape,g.output,by show O.w.heap.size<=w'.heap.size; rw[g.size]; omega,λk hk=>⟨.inl hk,g.old (hI.cp k hk)⟩,?_,λ_ _ _ h=>.inl h,λb d h=>⟨⟨d,h⟩,rfl⟩,
  λb v0 e xs h=>.inr ⟨v0,xs,h,zE _,λ_=>⟨rfl,rfl⟩⟩,λ_ h=>h,zE _,λk hk _=>g.old hk⟩
 rintro k (hk | hk)
 ·grind
 ·grind
theorem du{w':World}{o:Obj}(hI:Inv O)(g:nA O.w w' o):Inv (O.qj w'):=by
 refine⟨hI.len,?_,?_,hI.inj,?_,hI.gl.mono (Wx hI g).same⟩
 ·rintro k (hk | hk)
  ·have:=hI.cp k hk; show k<w'.heap.size; rw[g.size]; omega
  ·show k<w'.heap.size; rw[g.size]; omega
 ·intro b blk n h
  obtain⟨h1,X⟩:=hI.apart b blk n h
  refine⟨by show blk<w'.heap.size; rw[g.size]; omega,?_⟩
  rintro(hk | hk)
  ·exact X hk
  ·omega
 ·intro b x U
  exact(hI.blk b x U).mono (Wx hI g) rfl λblk n h=>g.old (hI.apart b blk n h).1
def KS.add(O:KS)(w':World)(n:Nat)(x:dn):KS:={ O with w:=w',ph:=O.ph++[some (O.w.heap.size,n)],st:=O.st++[x] }
theorem ZM{w':World}{o:Obj}{n:Nat}{x:dn}(hI:Inv O)(g:nA O.w w' o):Ext O (O.add w' n x):=by
 have ud:∀ b y,O.st[b]? = some y->(O.st++[x])[b]? = some y:=λb y h=>by rw[zG (zA.1 h).1]; exact h
 have HO:∀ b y,O.st[b]? = some y->(O.ph++[some (O.w.heap.size,n)])[b]? = O.ph[b]? := λb y h=>by
  rw[zG]; rw[hI.len]; exact(zA.1 h).1
 refine⟨g.os,g.tape,g.output,by show O.w.heap.size<=w'.heap.size; rw[g.size]; omega,λk hk=>⟨hk,g.old (hI.cp k hk)⟩,λk hk=>.inl hk,?_,λb d h=>⟨⟨d,ud b _ h⟩,HO b _ h⟩,
  λb v0 e xs h=>.inr ⟨v0,xs,ud b _ h,zE _,λ_=>⟨HO b _ h,rfl⟩⟩,λb h=>ud b _ h,by simp[KS.add],λk hk _=>g.old hk⟩
 intro b blk m h
 simp only[KS.add]at h
 grind
theorem tZ(hI:Inv O){w':World}{n:Nat}{x:dn}:(O.add w' n x).ph[O.st.length]? = some (some (O.w.heap.size,n)):=by
 simp[KS.add,<- hI.len]
theorem Xf{w':World}{n:Nat}{x:dn}:(O.add w' n x).st[O.st.length]? = some x:=by simp[KS.add]
theorem Uo{w':World}{o:Obj}{n:Nat}{x:dn}(hI:Inv O)(g:nA O.w w' o)(U:rC (O.add w' n x) O.st.length x):Inv (O.add w' n x):=by
 have hold:∀ (b blk m:Nat),(O.ph++[some (O.w.heap.size,n)])[b]? = some (some (blk,m))->O.ph[b]? = some (some (blk,m))\/(b=O.ph.length/\blk=O.w.heap.size):=by
  grind
 refine⟨by simp[KS.add,hI.len],?_,?_,?_,?_,hI.gl.mono (ZM hI g).same⟩
 ·intro k hk; have:=hI.cp k hk; show k<w'.heap.size; rw[g.size]; omega
 ·intro b blk m h
  rcases hold b blk m h with h | ⟨rfl,rfl⟩
  ·obtain⟨h1,X⟩:=hI.apart b blk m h
   exact⟨by show blk<w'.heap.size; rw[g.size]; omega,X⟩
  ·exact⟨by show O.w.heap.size<w'.heap.size; rw[g.size]; omega,λhk=>absurd (hI.cp _ hk) (Nat.lt_irrefl _)⟩
 ·intro b b' blk m m' h h'
  rcases hold b blk m h with h | ⟨rfl,rfl⟩<;>rcases hold b' _ m' h' with h' | ⟨rfl,h''⟩
  ·exact hI.inj b b' blk m m' h h'
  ·have:=(hI.apart b blk m h).1; omega
  ·have:=(hI.apart b' _ m' h').1; omega
  ·rfl
 ·intro b y hy
  simp only[KS.add]at hy
  by_cases J:b<O.st.length
  ·rw[zG J]at hy
   refine(hI.blk b y hy).mono (ZM hI g) ?_ λblk m h=>g.old (hI.apart b blk m h).1
   simp only[KS.add]
   rw[zG (by rw[hI.len]; exact J)]
  ·grind
theorem RD.z4f{O:KS}{d:D}{v:Value}(h:RD O d v):d.Gv=false:=by cases h<;>rfl
theorem RA{d:D}{v:Value}{t:TypeId}(hI:Inv O)(V:RD O d v)(ht:d.bQ=false)(Ou:∀ T,d.typed=some T->t=T) :
  ∃ E:KS,E.w=O.w.alloc (.cells v.cells t)/\E.st=O.st++[.var d]/\Inv E/\Ext O E/\RD E (.ptr O.st.length 0) (.pointer (some ⟨O.w.heap.size,0,none⟩)):=by
 have g:=nA.alloc O.w (.cells v.cells t)
 have U:=ZM (n:=v.cells.size) (x:=.var d) hI g
 refine⟨O.add _ v.cells.size (.var d),rfl,rfl,Uo hI g ?_,U,.ptr _ 0 _ v.cells.size d Xf (tZ hI)⟩
 exact .mk V.z4f ⟨O.w.heap.size,v.cells.size,v.cells,t,tZ hI,g.new,rfl,(cR V ht).mono U,cQ V,Ou⟩
theorem z1g{t:Nat}{x:Option D}{v:Value}{d:Option D}{qm:St}(hI:Inv O)(U:∀ z,x=some z->RD O z v)
  (h:(qu (z1e x) O.st).leads (d,qm)) :
  wy c.P (do zJ (.value (<- qT t v))) O d qm:=by
 cases x with
 | none=>exact absurd h zj
 | some y =>
  simp only[z1e]at h
  cases ht:y.bQ||y.typed.isSome with
  | true=>rw[ht]at h; exact absurd h zj
  | false =>
   rw[ht,cond_false]at h
   simp at ht
   obtain⟨ht,Ou⟩:=ht
   have zqo:∀ T,y.typed=some T->t=T:=λT e=>by rw[e]at Ou; cases Ou
   obtain⟨rfl,rfl⟩:=h
   obtain⟨E,h1,X,h3,h4,h5⟩:=RA (t:=t) hI (U _ rfl) ht zqo
   refine⟨E,_,_,?_,.inl rfl,X,h3,h4,λ_ he=>by cases he; exact h5⟩
   simp[qT,newVar,newRow,h1]
theorem zeY{d:D}{τ:Ty}{x:den τ}{v:Value}{t:TypeId}(hI:Inv O)(V:RD O d v)(U:pA τ d=some x) :
  ∃ E:KS,E.w=O.w.alloc (.cells v.cells t)/\E.st=O.st/\Inv E/\Ext O E/\RD E (.vC τ x) (.pointer (some ⟨O.w.heap.size,0,none⟩)):=by
 have g:=nA.alloc O.w (.cells v.cells t)
 have HQ:=Wx hI g
 obtain⟨cs,h1,X⟩:=RD.du (mZ V U)
 have hc:=Jj h1.len h1.one
 have hn:(O.w.alloc (.cells v.cells t)).heap[O.w.heap.size]? = some (.cells v.cells t (0,0)):=g.new
 have fc:∀ j u,cs[j]? = some u->(O.w.alloc (.cells v.cells t)).cell? ⟨O.w.heap.size,0+j,none⟩=some u:=by
  simp
  grind
 exact⟨O.qj _,rfl,rfl,du hI g,HQ,.vC τ x cs O.w.heap.size 0 (.inr rfl) (h1.mono HQ.same) fc⟩
theorem LX{t:Nat}{x:Option D}{v:Value}{d:Option D}{qm:St}(hI:Inv O)(U:∀ z,x=some z->RD O z v)
  (h:(qu (z1f c t x) O.st).leads (d,qm)):wy c.P (do zJ (.value (<- qT t v))) O d qm:=by
 have key:∀ (y:D) (τ:Ty) (z:den τ),x=some y->pA τ y=some z->(qu (val (.vC τ z)) O.st).leads (d,qm)->wy c.P (do zJ (.value (<- qT t v))) O d qm:=by
  intro y τ z hy hz h
  obtain⟨rfl,rfl⟩:=h
  obtain⟨E,h1,X,h3,h4,h5⟩:=zeY (t:=t) hI (U y hy) hz
  refine⟨E,_,_,?_,.inl rfl,X,h3,h4,λ_ he=>by cases he; exact h5⟩
  simp[qT,newVar,newRow,h1]
 unfold z1f at h
 split at h
 ·rename_i τ z
  exact key _ τ z rfl (by simp[pA,jX]) h
 ·split at h
  ·split at h
   ·grind
   ·exact absurd h zj
  ·exact absurd h zj
 ·exact absurd h zj
theorem LW{t:Nat}{dst:Option Nat}{x:Option D}{v:Value}{d:Option D}{qm:St}(hI:Inv O)(U:∀ z,x=some z->RD O z v)
  (h:(qu (z1d c t dst x) O.st).leads (d,qm)):wy c.P (do zJ (.value (<- qT t v))) O d qm:=by
 unfold z1d at h
 cases J:z4Q c dst with
 | true=>rw[J]at h; exact LX hI U h
 | false=>rw[J]at h; exact z1g hI U h
theorem WG{v:Value}{d:D}(h:XV v=some d):RD O d v/\d.one=true/\d.bQ=false/\(∀ cs,v≠.agg cs):=by
 unfold XV at h
 split at h<;>cases h<;>refine⟨?_,rfl,rfl,λ_=>nofun⟩
 ·exact .int
 ·exact .bool
 ·rename_i s; have:=RD.str (O:=O) (s:=s.data.toList); simpa using this
 ·exact .wF
 ·exact .bq
 ·exact .gC
 ·exact .vb
 ·exact .uX
theorem GY{v:Value}{d:D}(h:KR v=some d):RD O d v/\d.bQ=false:=by
 unfold KR at h
 split at h
 ·rename_i cs
  split at h
  ·rename_i l B
   cases h
   have Qe:∀ x∈l,x.one=true:=by
    intro x U
    have:some x∈cs.toList.map XV:=by rw[pw B]; exact qX.2 ⟨x,U,rfl⟩
    obtain⟨u,_,hu⟩:=qX.1 this
    exact(WG (O:=O) hu).2.1
   have hr:=ij (O:=O) (vs:=cs.toList) B (qw) (λi d v V hv=>by
    simp only[qR,hv,Option.map_some,Option.some.injEq]at V
    exact(WG V).1)
   refine⟨?_,rfl⟩
   have:=RD.agg l cs.toList hr.1 Qe hr.2
   omega
  ·cases h
 ·exact⟨(WG h).1,(WG (O:=O) h).2.2.1⟩
theorem Je{v:Value}{d:D}(h:XV v=some d):(∀ l,d≠.agg l)/\(∀ T,d≠.nD T)/\∀ b T,d≠.eS b T:=by
 unfold XV at h
 grind
theorem Iu{v:Value}{d:D}(h:KR v=some d):d.typed=none:=by
 unfold KR at h
 split at h
 ·rename_i cs
  split at h
  ·rename_i l B
   cases h
   have hz:=pw B
   cases l with
   | nil=>rfl
   | cons x r =>
    have:some x∈cs.toList.map XV:=by rw[hz]; simp
    obtain⟨u,_,hu⟩:=qX.1 this
    obtain⟨_,h1,X⟩:=Je hu
    cases x<;>first | rfl | exact absurd rfl (h1 _) | exact absurd rfl (X _ _)
  ·cases h
 ·have:=(Je h).1
  cases d<;>first | rfl | exact absurd rfl (this _)
structure ZD(t:Nat)(d:D)(z:Value):Prop where
 rd:∀ O:KS,RD O d z
 fj:d.bQ=false
 ty:∀ T,d.typed=some T->t=T
theorem z42{t:Nat}{d:D}{z:Value}(h:KR z=some d):ZD t (z3Z c t d) z:=by
 have h0:∀ O:KS,RD O d z:=λO=>(GY h).1
 have h1:d.bQ=false:=(GY (O:=⟨default,λ_=>False,[],[]⟩) h).2
 have X:=Iu h
 have same:ZD t d z:=⟨h0,h1,λT e=>wa⟩
 unfold z3Z
 split
 ·rename_i r
  cases hs:zcb c t with
  | false=>exact same
  | true =>
   refine⟨λO => ?_,rfl,λT e=>by cases e; rfl⟩
   cases h0 O with
   | agg _ vs B ho hh =>
    have hR:wP O (.bq::r) vs:=⟨B,hh⟩
    obtain⟨v,us,rfl,g1,g2⟩:=hR.cons_inv
    have hR2:wP O (.nD t::r) (v::us):=.cons (by cases g1; exact .nD t) g2
    exact .agg _ _ hR2.1 (λx U=>by
     rcases xG.1 U with rfl | U
     ·rfl
     ·exact ho x (xC _ U)) hR2.2
 ·exact same
theorem ta{t:Nat}{d:D}(h:Yc c t=some d):∃ i z,c.P.info? t=some i/\i.zero=some z/\ZD t d z:=by
 unfold Yc at h
 split at h
 ·rename_i i hi
  split at h
  ·rename_i z hz
   split at h
   ·rename_i d0 hd0
    cases h
    exact⟨i,z,hi,hz,z42 hd0⟩
   ·cases h
  ·cases h
 ·cases h
theorem LF{t:Nat}{d:Option D}{qm:St}(hI:Inv O)
  (h:(qu (pz c t) O.st).leads (d,qm)) :
  wy c.P (do zJ (.value (<- Instr.alloc t true (.tuple #[])))) O d qm:=by
 unfold pz at h
 split at h
 ·rename_i y hy
  obtain⟨i,z,h1,X,h3⟩:=ta hy
  obtain⟨rfl,rfl⟩:=h
  obtain⟨E,g1,g2,g3,g4,g5⟩:=RA (t:=t) hI (h3.rd O) h3.fj h3.ty
  refine⟨E,_,_,?_,.inl rfl,g2,g3,g4,λ_ he=>by cases he; exact g5⟩
  simp[Instr.alloc,zeroValue,typeInfo,h1,X,newVar,newRow,g1]
 ·exact absurd h zj
end
section
variable {c:Ctx} {O:KS}
def KS.Ud(O:KS)(b:Nat)(w':World)(x:dn):KS:={ O with w:=w',st:=O.st.set b x }
def KS.upd(O:KS)(b blk:Nat)(cs:Array Value)(x:dn):KS:=O.Ud b (O.w.setRow blk cs) x
def Alike:dn->dn->Prop
 | .var _,.var _=>True
 | .arr v e xs,.arr v' e' xs'=>e=e'/\v<=v'/\(v=v'->xs.length=xs'.length)
 | _,_=>False
theorem Jz{b blk n:Nat}{w':World}{x y:dn}(hI:Inv O)(hp:O.ph[b]? = some (some (blk,n)))(hy:O.st[b]? = some y)(ha:Alike y x)(g:O.w.grownBy w' (some blk)):Ext O (O.Ud b w' x):=by
 have wO:b<O.st.length:=(zA.1 hy).1
 have ku:∀ k,O.ok k->k≠blk:=λk hk e=>(hI.apart b blk n hp).2 (e▸hk)
 refine⟨g.os,g.tape,g.output,g.size,λk hk=>⟨hk,g.block k (hI.cp k hk) λe=>ku k hk (Option.some.inj e)⟩,λk hk=>.inl hk,λ_ _ _ h=>.inl h,?_,?_,?_,by simp[KS.Ud],?_⟩
 ·intro b' d V
  refine⟨?_,rfl⟩
  simp only[KS.Ud,zT]
  split
  ·rename_i e
   subst e
   rw[hy]at V; cases V
   cases x<;>simp[Alike]at ha
   simp
  ·grind
 ·intro b' v0 e Uf V
  simp only[KS.Ud,zT]
  split
  ·rename_i e'
   subst e'
   rw[hy]at V; cases V
   cases x<;>simp[Alike]at ha
   grind
  ·grind
 ·intro b' V
  simp only[KS.Ud,zT]
  split
  ·rename_i e
   subst e
   rw[hy]at V; cases V
   simp[Alike]at ha
  ·exact V
 ·intro k hk hn
  exact g.block k hk λe=>by cases e; exact hn b n hp
theorem Lb{b blk n:Nat}{w':World}{x y:dn}(hI:Inv O)(hp:O.ph[b]? = some (some (blk,n)))(hy:O.st[b]? = some y)(ha:Alike y x)
  (g:O.w.grownBy w' (some blk)) (U:rC (O.Ud b w' x) b x):Inv (O.Ud b w' x):=by
 refine⟨by simp[KS.Ud,hI.len],λk hk=>qO (hI.cp k hk) g.size,?_,hI.inj,?_,hI.gl.mono (Jz hI hp hy ha g).same⟩
 ·intro b' rF m h
  obtain⟨h1,X⟩:=hI.apart b' rF m h
  exact⟨qO h1 g.size,X⟩
 ·intro b' z hz
  by_cases J:b=b'
  ·subst J
   simp only[KS.Ud]at hz
   grind
  ·simp only[KS.Ud,zT,if_neg J]at hz
   refine(hI.blk b' z hz).mono (Jz hI hp hy ha g) rfl λrF m h => ?_
   refine g.block rF (hI.apart b' rF m h).1 λe => ?_
   cases e
   exact J (hI.inj b b' _ n m hp h)
theorem Jt(w:World)(blk:Nat)(cs:Array Value):w.grownBy (w.setRow blk cs) (some blk) :=
 ⟨rfl,rfl,rfl,by rw[setRow_size]; exact zE _,λk _ hk=>setRow_other _ _ _ _ λe=>hk (by rw[e])⟩
theorem JA{b blk n:Nat}{cs:Array Value}{x y:dn}(hI:Inv O)(hp:O.ph[b]? = some (some (blk,n)))(hy:O.st[b]? = some y)(ha:Alike y x):Ext O (O.upd b blk cs x):=Jz hI hp hy ha (Jt _ _ _)
theorem JB{b blk n:Nat}{cs:Array Value}{x y:dn}(hI:Inv O)(hp:O.ph[b]? = some (some (blk,n)))(hy:O.st[b]? = some y)(ha:Alike y x)
  (U:rC (O.upd b blk cs x) b x):Inv (O.upd b blk cs x):=Lb hI hp hy ha (Jt _ _ _) U
theorem E2{d d':D}{t:Nat}(h:Qo d d'=true)(V:∀ T,d.typed=some T->t=T):∀ T,d'.typed=some T->t=T:=by
 intro T hT
 unfold Qo at h
 rw[hT]at h
 cases hd0:d.typed with
 | none=>grind
 | some T' =>
  rw[hd0]at h
  have e:=zF h
  grind
theorem X2{t:Nat}{n blk o:Nat}{v:Value}{cs:Array Value}{T:TypeId}(hn:tU c t=some n)(hv:v.cells.toList.length=n)(h1:∀ u∈v.cells.toList,u.oneCell'=true)
  (hg:O.w.heap[blk]? = some (.cells cs T (0,0))) (hle:o+n<=cs.size) :
  (storeVar t ⟨blk,o,none⟩ v).run c.P O.w=.ok () (O.w.setRow blk (cs.toList.take o++v.cells.toList++cs.toList.drop (o+n)).toArray):=by
 have hs:v.cells.size=n:=by simpa using hv
 have:=run_storeCells_at c.P blk o T v.cells.toList 0 cs O.w hg (wa) h1
 simp[storeVar,run_sizeOf hn,hs,this]
theorem Z6{l:List D}{vs us:List Value}{x:List D}(h:wP O l vs)(U:wP O x us)(o n:Nat) :
  wP O (l.take o++x++l.drop (o+n)) (vs.take o++us++vs.drop (o+n)):=((h.take o).append U).append (h.drop (o+n))
theorem Ub{cs us:List Value}{o n:Nat}(hu:us.length=n)(ho:o+n<=cs.length)(p:Nat) :
  (cs.take o++us++cs.drop (o+n))[p]? = if p<o then cs[p]? else if p<o+n then us[p-o]? else cs[p]? := wa
theorem Cr{t:Nat}{d x r:D}{off:Nat}(h:Bi c t d off x=some r):∃ n,tU c t=some n/\0<n/\(xz x).length=n/\off+n<=(xz d).length /\
  xz r=(xz d).take off++xz x++(xz d).drop (off+n)/\((∀ y∈xz d,y.one=true)->(∀ y∈xz x,y.one=true)->∀ y∈xz r,y.one=true)/\x.bQ=false:=by
 unfold Bi at h
 split at h
 ·cases h
 ·rename_i n hn
  cases J:xE 0 n&&qL n (xz x).length&&Nat.ble (off+n) (xz d).length with
  | false=>grind
  | true =>
   rw[J,cond_true]at h
   simp only[zI]at J
   obtain⟨⟨h0,h1⟩,X⟩:=J
   have h0':0<n:=R h0
   have HL:n=(xz x).length:=zF h1
   have h2':=R X
   have Bb:x.bQ=false:=by
    cases x with
    | fj l=>simp[xz]at HL; omega
    | _=>rfl
   cases hw:qL n (xz d).length with
   | true =>
    have h3:n=(xz d).length:=zF hw
    have h4:off=0:=Z
    subst h4
    rw[hw,cond_true]at h
    have hr:xz r=xz x/\r.bQ=false:=by
     cases ha:d.db && !x.db with
     | true=>rw[ha,cond_true]at h; cases h; exact⟨rfl,rfl⟩
     | false=>rw[ha,cond_false]at h; cases h; exact⟨rfl,Bb⟩
    refine⟨n,hn,h0',HL.symm,h2',?_,λ_ U y hy=>U y (hr.1▸hy),Bb⟩
    rw[hr.1]
    simp[<- h3]
   | false =>
    rw[hw,cond_false]at h
    cases h
    refine⟨n,hn,h0',HL.symm,h2',rfl,λV U y hy => ?_,Bb⟩
    simp only[xz,qZ]at hy
    rcases hy with(hy | hy) | hy
    ·exact V y (List.mem_of_mem_take hy)
    ·exact U y hy
    ·exact V y (xD hy)
theorem S3{t:Nat}{d x r:D}{off:Nat}(h:Bi c t d off x=some r):d.Gv=false/\r.Gv=false:=by
 unfold Bi at h
 split at h
 ·cases h
 ·rename_i n hn
  cases J:xE 0 n&&qL n (xz x).length&&Nat.ble (off+n) (xz d).length with
  | false=>rw[J]at h; cases h
  | true =>
   rw[J,cond_true]at h
   simp only[zI]at J
   have h0:0<n:=R J.1.1
   have h1:=zF J.1.2
   have X:=R J.2
   refine⟨by cases d<;>first | rfl | (simp[xz]at X; omega),?_⟩
   cases hw:qL n (xz d).length with
   | true =>
    rw[hw,cond_true]at h
    cases ha:d.db && !x.db with
    | true=>rw[ha,cond_true]at h; cases h; rfl
    | false=>rw[ha,cond_false]at h; cases h; cases x<;>first | rfl | (simp[xz]at h1; omega)
   | false=>rw[hw]at h; cases h; rfl
theorem XY{τ:Ty}{r:D}{x:den τ}{vs:List Value}(h:pA τ r=some x)(hr:wP O (xz r) vs)(Qe:∀ y∈xz r,y.one=true)(ht:r.bQ=false):Rc O.w O.ok τ x vs:=by
 cases r with
 | qj σ y=>obtain⟨rfl,rfl⟩:=wh h; exact Yw _ _ hr
 | agg l =>
  have:=mZ (RD.agg l vs hr.1 Qe hr.2) h
  obtain⟨cs,h1,X⟩:=RD.du this
  have hc:=Jj h1.len h1.one
  simp only[Value.cells]at hc
  grind
 | fj l=>cases ht
 | Cm l=>cases h
 | _ =>
  obtain⟨v,r',rfl,h1,X⟩:=wP.cons_inv hr
  have e2:=X.wg
  subst e2
  have h3:=mZ h1 h
  obtain⟨cs,h4,h5⟩:=RD.du h3
  have hag:τ.isAgg=false:=by
   cases hta:τ.isAgg with
   | false=>rfl
   | true=>simp[pA,D.isAgg,hta]at h
  obtain⟨u,rfl⟩:=h4.single hag
  rw[H7 hag]at h5
  rwa [h5]
theorem Nt{t:Nat}{a x:Option D}{v u:Value}{d:Option D}{qm:St}(hI:Inv O)(ha:∀ z,a=some z->RD O z v)(U:∀ z,x=some z->RD O z u)
  (h:(qu (YP c t a x) O.st).leads (d,qm)):wy c.P (do xF t v u; zJ .skip) O d qm:=by
 unfold YP at h
 split at h
 ·rename_i b off y
  simp only[qu]at h
  split at h
  ·rename_i d0 J
   split at h
   ·rename_i r hr
    cases ja:Qo d0 r with
    | false=>rw[ja]at h; exact h.elim
    | true =>
    rw[ja,cond_true]at h
    simp only[T.leads,Prod.mk.injEq]at h
    obtain⟨rfl,rfl⟩:=h
    obtain⟨n,hn,h0,KE,hle,FR,Qe,Bb⟩:=Cr hr
    cases ha _ rfl with
    | ptr _ _ blk m d1 V hp =>
     obtain⟨rF,m',cs,T,g1,g2,g3,g4,g5⟩:=(hI.blk b _ J:y7 O b d0).cells (S3 hr).1
     rw[hp]at g1
     cases g1
     have hy:=U _ rfl
     have hfy:=cR hy Bb
     have MD:u.cells.toList.length=n:=by rw[<- hfy.1]; exact KE
     have cm:off+n<=cs.size:=by have:=g4.1; simp at this; omega
     have h1:∀ z∈u.cells.toList,z.oneCell'=true:=by
      intro z hz
      obtain⟨i,hi,rfl⟩:=List.getElem_of_mem hz
      exact(hfy.2 i (hfy.1▸hi) hi).YH (cQ hy _ (qA _))
     have jT:=X2 (c:=c) (O:=O) hn MD h1 g2 cm
     have Yh:Alike (.var d0) (.var r):=trivial
     let nd:=(cs.toList.take off++u.cells.toList++cs.toList.drop (off+n)).toArray
     have hex:=JA (cs:=nd) (x:=.var r) hI hp J Yh
     refine⟨O.upd b blk nd (.var r),.skip,undef,?_,.inr ⟨rfl,rfl⟩,rfl,JB hI hp J Yh ?_,hex,λ_ he=>by cases he⟩
     ·simp only[zH,xF,Instr.sureAddr,qF,Y,jT]; rfl
     ·refine .mk (S3 hr).2 ⟨blk,m,nd,T,hp,setRow_heap _ _ _ _ _ _ g2,?_,?_,Qe g5.1 (cQ hy),E2 ja g5.2⟩
      ·grind
      ·rw[FR]; exact(Z6 g4 hfy off n).mono hex
   ·exact h.elim
  ·exact h.elim
 ·rename_i b vn e idx off y
  simp only[qu]at h
  split at h
  ·rename_i ef e' xs J
   cases he:decide (e'=e)with
   | false=>rw[he]at h; exact h.elim
   | true =>
    rw[he,cond_true]at h
    have Mv:e'=e:=uC he
    subst Mv
    obtain⟨⟨rfl,wO⟩,h⟩:=h
    split at h
    ·rename_i r hr
     split at h
     ·rename_i z hz
      simp only[T.leads,Prod.mk.injEq]at h
      obtain⟨rfl,rfl⟩:=h
      obtain⟨n,hn,h0,KE,hle,FR,Qe,Bb⟩:=Cr hr
      cases ha _ rfl with
      | gU _ _ _ _ _ blk o hold hp =>
       obtain⟨m,p1,rfl⟩:=hp xs J wO
       obtain⟨cm,⟨Gp,_⟩ | ⟨rF,n',cs,T,g1,g2,g3,g4,gr,f,g5⟩⟩:=hI.blk b _ J
       ·grind
       ·rw[p1]at g1
        cases g1
        rw[getD_lt wO]at hr FR hle Qe
        have hy:=U _ rfl
        have hfy:=cR hy Bb
        have MD:u.cells.toList.length=n:=by rw[<- hfy.1]; exact KE
        obtain⟨k1,k2⟩:=g5 idx wO
        have FP:=k1.len
        have B6:off+n<=e'.size:=by simpa[xz,UK]using hle
        have zva:idx*e'.size+e'.size<=xs.length*e'.size:=by rw[<- qB]; exact I _ wO
        have Tw:idx*e'.size+off+n<=cs.size:=Z
        have h1:∀ z∈u.cells.toList,z.oneCell'=true:=by
         intro z hz
         obtain⟨i,hi,rfl⟩:=List.getElem_of_mem hz
         exact(hfy.2 i (hfy.1▸hi) hi).YH (cQ hy _ (qA _))
        have jT:=X2 (c:=c) (O:=O) hn MD h1 g2 Tw
        have Yh:Alike (.arr vn e' xs) (.arr vn e' (xs.set idx z)):=⟨rfl,zE _,λ_=>qw⟩
        let nd:=(cs.toList.take (idx*e'.size+off)++u.cells.toList++cs.toList.drop (idx*e'.size+off+n)).toArray
        have hex:=JA (cs:=nd) (x:=.arr vn e' (xs.set idx z)) hI p1 J Yh
        refine⟨O.upd b blk nd (.arr vn e' (xs.set idx z)),.skip,undef,?_,.inr ⟨rfl,rfl⟩,rfl,JB hI p1 J Yh ?_,hex,λ_ he=>by cases he⟩
        ·simp only[zH,xF,Instr.sureAddr,qF,Y,jT]; rfl
        ·have hlen:nd.size=cs.size:=by simp[nd,MD]; omega
         refine⟨cm,.inr ⟨blk,m,nd,T,p1,setRow_heap _ _ _ _ _ _ g2,by rw[hlen]; exact g3,by simpa using g4,?_⟩⟩
         -- cells of the element that is written
         let fi:=(f idx).take off++u.cells.toList++(f idx).drop (off+n)
         have zpW:wP O (xz r) fi:=by
          rw[FR]
          exact Z6 (XC k1) hfy off n
         have hrt:r.bQ=false:=by
          cases r with
          | fj l =>
           have h6:=congrArg zS FR
           rw[zK,zK,KE]at h6
           have h7:(xz (D.fj l)).length=0:=rfl
           omega
          | _=>rfl
         have EI:=XY hz zpW (Qe (se _ _) (cQ hy)) hrt
         have B3:∀ p,nd[p]? = if p<idx*e'.size+off then cs[p]? else if p<idx*e'.size+off+n then u.cells.toList[p-(idx*e'.size+off)]? else cs[p]? := by
          intro p
          have:=Ub (cs:=cs.toList) (us:=u.cells.toList) MD (by simpa using Tw) p
          simpa only[nd,xA,zV]using this
         have zpV:∀ j,fi[j]? = if j<off then(f idx)[j]? else if j<off+n then u.cells.toList[j-off]? else(f idx)[j]? := λj=>Ub MD (Z) j
         refine⟨gr,λi=>if i=idx then fi else f i,λi hi => ?_⟩
         rw[List.length_set]at hi
         by_cases hii:i=idx
         ·subst hii
          simp only[if_true,List.getElem_set_self]
          refine⟨EI.mono hex.same,λj w hj => ?_⟩
          rw[zpV]at hj
          rw[B3]
          split at hj
          ·rw[if_pos (Z)]; exact k2 j w hj
          ·split at hj
           ·rw[if_neg (Z),if_pos (Z)]; rw[<- hj]; congr 1; omega
           ·rw[if_neg (Z),if_neg (Z)]; exact k2 j w hj
         ·simp only[if_neg hii]
          obtain⟨q1,q2⟩:=g5 i hi
          refine⟨by rw[List.getElem_set_ne (λe=>hii e.symm)]; exact q1.mono hex.same,λj w hj => ?_⟩
          have hjl:j<e'.size:=by rw[<- q1.len]; exact(zA.1 hj).1
          rw[B3]
          rcases Nat.lt_or_gt_of_ne hii with B8 | hgt'
          ·have:i*e'.size+e'.size<=idx*e'.size:=by rw[<- qB]; exact I _ B8
           rw[if_pos (Z)]; exact q2 j w hj
          ·have:idx*e'.size+e'.size<=i*e'.size:=by rw[<- qB]; exact I _ hgt'
           rw[if_neg (Z),if_neg (Z)]; exact q2 j w hj
     ·exact h.elim
    ·exact h.elim
  ·exact h.elim
 ·exact absurd h zj
end
section
variable {c:Ctx} {O:KS}
theorem KA:∀ (vs:List Value) (cells:Array Value) (off k:Nat),off+k+vs.length<=cells.size ->
  ((vs.zipIdx k).foldl (λ(cs:Array Value) (p:Value×Nat)=>cs.setIfInBounds (off+p.2) p.1) cells).toList=cells.toList.take (off+k)++vs++cells.toList.drop (off+k+vs.length)
 | [],cells,off,k,_=>qw
 | v::vs,cells,off,k,h=>by
  simp only[qV]at h
  simp only[List.zipIdx_cons,List.foldl_cons]
  rw[KA vs _ off (k+1) (by simp; omega)]
  have wO:off+k<cells.toList.length:=by simp; omega
  simp only[Array.toList_setIfInBounds,qV]
  have e1:(cells.toList.set (off+k) v).take (off+(k+1))=cells.toList.take (off+k)++[v]:=by
   rw[show off+(k+1)=off+k+1 by omega,qJ (by simpa using wO)]
   rw[List.take_set_of_le (zE _)]
   simp
  have e2:(cells.toList.set (off+k) v).drop (off+(k+1)+vs.length)=cells.toList.drop (off+k+(vs.length+1)):=by
   rw[List.drop_set_of_lt (Z)]
   grind
  grind
theorem Fz{place:Nat->Option (Nat×Nat)}{cells:Array Value}{i off size:Nat}{v:Value}{rest:List (Nat×Value)}(hp:place i=some (off,size))(hs:v.cells.toList.length=size)(hle:off+size<=cells.size) :
  qH place cells ((i,v)::rest)=qH place (cells.toList.take off++v.cells.toList++cells.toList.drop (off+size)).toArray rest:=by
 have hs':v.cells.size=size:=by simpa using hs
 have hf:=KA v.cells.toList cells off 0 (wa)
 simp only[hs]at hf
 conv=>lhs; unfold qH
 simp only[hp]
 rw[if_neg (wa)]
 congr 1
 apply Array.ext'
 rw[<- Array.foldl_toList,Array.toList_zipIdx]
 exact hf
theorem BZ{e:Ty}{x:den e}{v:Value}(h:RD O (.qj e x) v):Rc O.w O.ok e x v.cells.toList:=by
 obtain⟨cs,h1,rfl⟩:=RD.du h
 rw[Jj h1.len h1.one]; exact h1
theorem BS{e:Ty}{F:Operand->Option D}{G:Operand->Value}(hF:∀ x d,F x=some d->RD O d (G x)):∀ (L:List (Nat×Operand)) (k:Nat) (cells:Array Value) (l:List (den e)),
  BR e k (L.map λp=>(p.1,F p.2))=some l->(k+L.length)*e.size<=cells.size ->
  ∃ rI,qH (λi=>some (i*e.size,e.size)) cells (L.map λp=>(p.1,G p.2))=some rI/\rI.size=cells.size/\(∀ p,p<k*e.size->rI[p]? = cells[p]?)/\l.length=L.length /\
   ∃ f:Nat->List Value,∀ i (hi:i<l.length),Rc O.w O.ok e l[i] (f i)/\∀ j v,(f i)[j]? = some v->rI[(k+i)*e.size+j]? = some v
 | [],k,cells,l,h,_=>by
  simp only[List.map_nil,BR,Option.some.injEq]at h
  subst h
  exact⟨cells,rfl,rfl,λ_ _=>rfl,rfl,λ_=>[],λi hi=>absurd hi (zW i)⟩
 | (i,x)::L,k,cells,l,h,hle=>by
  simp only[List.map_cons]at h
  cases U:F x with
  | none=>rw[U]at h; simp[BR]at h
  | some d =>
   rw[U]at h
   simp only[BR]at h
   cases J:qL k i with
   | false=>grind
   | true =>
    have hik:k=i:=zF J
    subst hik
    rw[J,cond_true]at h
    split at h
    ·rename_i y l' hy MB
     cases h
     have hr:=BZ (mZ (hF x d U) hy)
     have hlen:=hr.len
     simp only[qV]at hle
     have hk1:(k+(L.length+1))*e.size=k*e.size+e.size+L.length*e.size:=by rw[qD,qD]; omega
     have fc:k*e.size+e.size<=cells.size:=Z
     let c1:=(cells.toList.take (k*e.size)++(G x).cells.toList++cells.toList.drop (k*e.size+e.size)).toArray
     have To:c1.size=cells.size:=by simp only[c1,zY,zK,zU,qK,hlen,qG]; omega
     have hg:∀ p,c1[p]? = if p<k*e.size then cells[p]? else if p<k*e.size+e.size then(G x).cells.toList[p-k*e.size]? else cells[p]? := by
      grind
     obtain⟨rI,h1,X,h3,h4,f,h5⟩:=BS hF L (k+1) c1 l' MB (by rw[To,show k+1+L.length=k+(L.length+1) by omega]; exact hle)
     refine⟨rI,?_,X.trans To,?_,by simp[h4],λi=>match i with | 0=>(G x).cells.toList | i+1=>f i,?_⟩
     ·simp only[List.map_cons]
      rw[Fz rfl hlen fc]
      exact h1
     ·grind
     ·intro i hi
      cases i with
      | zero =>
       grind
      | succ i =>
       have:=h5 i (by simpa using hi)
       rw[show k+1+i=k+(i+1) by omega]at this
       exact this
    ·cases h
theorem th{t n:Nat}(h:rG c t=some n):∃ i,c.P.info? t=some i/\i.bytes=n:=by
 unfold rG at h
 cases hi:c.P.info? t with
 | none=>grind
 | some i=>grind
theorem iu{et:Nat}{e:Ty}{z:den e}(h:zeroOf c et e=some z):∃ i v,c.P.info? et=some i/\i.zero=some v/\Rc O.w O.ok e z v.cells.toList:=by
 unfold zeroOf at h
 split at h
 ·rename_i d V
  obtain⟨i,v,h1,X,h3⟩:=ta V
  exact⟨i,v,h1,X,BZ (mZ (h3.rd O) h)⟩
 ·cases h
theorem Ye{t n:Nat}{L:List (Nat×Operand)}{F:Operand->Option D}{G:Operand->Value}{d:Option D}{qm:St}(hI:Inv O)(hF:∀ x d,F x=some d->RD O d (G x))
  (h:(qu (cu c t n (L.map λp=>(p.1,F p.2))) O.st).leads (d,qm)) :
  wy c.P (do zJ (.value (<- zQ t n (L.map λp=>(p.1,G p.2)).toArray))) O d qm:=by
 unfold cu at h
 split at h
 ·exact absurd h zj
 ·rename_i et het
  have hu:=yW het
  split at h
  ·rename_i e Ou
   cases J:cF c et e&&qL n (L.map λp=>(p.1,F p.2)).length&&Nat.ble n 1000&&Nat.ble e.size 100&&(zeroOf c et e).isSome with
   | false=>rw[J]at h; exact absurd h zj
   | true =>
    rw[J,cond_true]at h
    simp only[zI]at J
    obtain⟨⟨⟨⟨ja,hn⟩,h1⟩,X⟩,h3⟩:=J
    have hn':n=L.length:=by have:=zF hn; simpa using this
    have HL:=R h1
    have h2':=R X
    obtain⟨hs,_⟩:=ki ja
    obtain⟨z,hz⟩:=zZ.1 h3
    obtain⟨i,zv,Dy,JI,hi3⟩:=iu (O:=O) hz
    split at h
    ·rename_i l B
     cases Lu:qL n 0&&xE 0 e.size with
     | true =>
     rw[Lu,cond_true]at h
     simp only[zI]at Lu
     obtain⟨Lu,cm⟩:=Lu
     have Tw:0<e.size:=R cm
     have hn0:=zF Lu
     have hL:L=[]:=zM (hn'.symm.trans hn0)
     subst hL
     subst hn0
     simp only[qu,T.leads,Prod.mk.injEq]at h
     obtain⟨rfl,rfl⟩:=h
     have g:=nA.alloc O.w (.cells #[] et)
     have hex:=ZM (n:=0) (x:=.arr 0 e ([]:List (den e))) hI g
     have jT:(zQ t 0 (([]:List (Nat×Operand)).map λp=>(p.1,G p.2)).toArray).run c.P O.w=.ok (.slice (some ⟨O.w.heap.size,0,none⟩) 0 0) (O.w.alloc (.cells #[] et)):=by
      simp[zQ,zH,run_underlying hu,Y,run_sizeOf hs,qH,newRow]
      grind
     refine⟨O.add _ 0 (.arr 0 e []),_,.slice (some ⟨O.w.heap.size,0,none⟩) 0 0,by simp only[zH,jT,Y]; rfl,.inl rfl,rfl,Uo hI g ?_,hex,?_⟩
     ·exact⟨Tw,.inr ⟨O.w.heap.size,0,#[],et,tZ hI,g.new,rfl,qw,Jf ja,λ_=>[],λi hi=>absurd hi (zW i)⟩⟩
     ·intro d' eR
      cases eR
      refine .ms _ 0 e 0 0 0 _ (.inr ⟨0,e,_,Xf,zE _⟩) (Z) nofun (λp hp=>by cases hp; rfl) λxs Gr => ?_
      rw[Xf]at Gr
      cases Gr
      exact⟨qw,.inr ⟨O.w.heap.size,0,0,0,tZ hI,rfl,Z,qw,.inl rfl⟩⟩
     | false =>
     rw[Lu,cond_false,dR]at h
     obtain⟨rfl,rfl⟩:=h
     subst hn'
     have hle:L.length*e.size<=100000:=qN (Nat.mul_le_mul HL h2') (qh)
     have hzs:zv.cells.size=e.size:=by have:=hi3.len; simpa using this
     let cells:Array Value:=(xK (L.length*e.size)).map ((if L.length*e.size=0 then #[]else zv.cells)[· % (if L.length*e.size=0 then #[]else zv.cells).size]!)
     have Xc:cells.size=L.length*e.size:=by simp[cells]
     obtain⟨rI,g1,g2,_,g4,f,g5⟩:=BS hF L 0 cells l B (by rw[Xc]; simp)
     have g:=nA.alloc O.w (.cells rI et)
     have hex:=Wx hI g
     refine⟨O.qj _,_,.slice (some ⟨O.w.heap.size,0,none⟩) L.length L.length,?_,.inl rfl,rfl,du hI g,hex,?_⟩
     ·have FQ:qH (λi=>some (i*e.size,e.size)) cells (L.map λp=>(p.1,G p.2))=some rI:=g1
      simp only[cells]at FQ
      simp only[zQ,zH,run_underlying hu,Y,run_sizeOf hs,gt_iff_lt,if_neg (show ¬ 2 ^ 24<L.length*e.size by omega)]
      by_cases h0:L.length*e.size=0
      ·simp only[if_pos h0]at FQ ⊢
       simp only[zH,qF,Y,FQ]
       rfl
      ·simp only[if_neg h0]at FQ ⊢
       simp only[zH,qF,Y,zeroValue,typeInfo,run_program,Dy,JI,FQ]
       rfl
     ·intro d' eR
      cases eR
      have fc:∀ i,i<l.length->∀ j v,(f i)[j]? = some v->(O.qj (O.w.alloc (.cells rI et))).w.cell? ⟨O.w.heap.size,0+i*e.size+j,none⟩=some v:=by
       intro i hi j v hj
       have:=(g5 i hi).2 j v hj
       simp only[qE]at this ⊢
       rw[WD (O:=O.qj (O.w.alloc (.cells rI et))) g.new]
       exact this
      rw[<- g4]
      refine .tight e l _ O.w.heap.size 0 f ?_ (.inr rfl) (λi hi=>(g5 i hi).1.mono hex.same) fc
      intro ku Gp
      subst Gp
      simp at g4
      simp[<- g4]at ku
    ·exact absurd h zj
  ·exact absurd h zj
end
section
variable {c:Ctx} {O:KS}
theorem z02{t:Nat}{x y:Option D}{v u:Value}{d:Option D}{qm:St}(hI:Inv O)(U:∀ z,x=some z->RD O z v)(hy:∀ z,y=some z->RD O z u)
  (h:(qu (MM c t x y) O.st).leads (d,qm)):wy c.P (do zJ (.value (<- qY t v u))) O d qm:=by
 unfold MM at h
 split at h
 ·rename_i et k n k' m het hn hm
  have hu:=yW het
  have:=kF hn U
  subst this
  have:=kF hm hy
  subst this
  split at h
  ·rename_i e bytes Ou Du
   split at h
   ·rename_i z hz
    cases J:cF c et e&&xE 0 e.size with
    | false=>rw[J]at h; exact absurd h zj
    | true =>
     rw[J,cond_true]at h
     simp only[zI]at J
     obtain⟨ja,cm⟩:=J
     have Tw:0<e.size:=R cm
     obtain⟨hs,_⟩:=ki ja
     simp only[qu,T.leads,Prod.mk.injEq]at h
     obtain⟨⟨h0,h1,X,h3⟩,rfl,rfl⟩:=h
     obtain⟨i,zv,Dy,JI,hi3⟩:=iu (O:=O) hz
     obtain⟨ib,zig,zpY⟩:=th Du
     obtain⟨i',zie,zv9⟩:=mS hs
     rw[Dy]at zig zie
     cases zig
     cases zie
     have hzs:zv.cells.size=e.size:=by have:=hi3.len; simpa using this
     let N:=m.toNat*e.size
     let cells:Array Value:=(xK N).map (zv.cells[· % zv.cells.size]!)
     have Xc:cells.size=N:=by simp[cells]
     have jT:(qY t (.int k n) (.int k' m)).run c.P O.w=.ok (.slice (some ⟨O.w.heap.size,0,none⟩) n.toNat m.toNat) (O.w.alloc (.cells cells et)):=by
      have w1:IntKind.i64.wrap n=n:=IntWalk.i64_in _ (Z)
      have w2:IntKind.i64.wrap m=m:=IntWalk.i64_in _ (Z)
      have hmb:¬ ((2:Int) ^ 48<bytes*m):=by
       grind
      have ai:∀ k n w,(Go.asInt (.int k n)).run c.P w=.ok n w:=λk n w=>by simp[Go.asInt,asIntOf]
      have hm0:¬ (m<0):=Z
      have hn0:¬ (n<0):=Z
      have hnm:¬ (m<n):=Z
      simp only[qY,zH,run_underlying hu,Y,ai,typeInfo,run_program,Dy,zpY,w1,w2,qF,gt_iff_lt,hm0,hn0,hnm,hmb,decide_false,Bool.or_self,Bool.false_eq_true,if_false,run_askRoom,run_sizeOf hs]
      by_cases Lu:m.toNat*e.size=0
      ·have hce:cells = #[]:=Array.eq_empty_of_size_eq_zero (by rw[Xc]; exact Lu)
       have e2:∀ g:Nat->Value,(xK (m.toNat*e.size)).map g = #[]:=λg=>by rw[Lu]; simp
       simp only[if_pos Lu,zH,qF,Y,newRow,run_newObj,e2]
       rw[hce]
       rfl
      ·simp only[if_neg Lu,zH,qF,Y,newRow,run_newObj,zeroValue,typeInfo,run_program,Dy,JI]
       rfl
     have g:=nA.alloc O.w (.cells cells et)
     have hex:=ZM (n:=N) (x:=.arr n.toNat e (List.replicate n.toNat z)) hI g
     refine⟨O.add _ N (.arr n.toNat e (List.replicate n.toNat z)),_,.slice (some ⟨O.w.heap.size,0,none⟩) n.toNat m.toNat,by simp only[zH,jT,Y]; rfl,.inl rfl,rfl,Uo hI g ?_,hex,?_⟩
     ·refine⟨Tw,.inr ⟨O.w.heap.size,N,cells,et,tZ hI,g.new,Xc,?_,Jf ja,λ_=>zv.cells.toList,λi hi => ?_⟩⟩
      ·rw[xB]; exact I _ (Z)
      ·rw[xB]at hi
       refine⟨by rw[List.getElem_replicate]; exact hi3.mono hex.same,λj w hj => ?_⟩
       have hjl:j<e.size:=by rw[<- hi3.len]; exact(zA.1 hj).1
       have wO:i*e.size+j<N:=by
        have:i*e.size+e.size<=N:=by rw[<- qB]; exact I _ (Z)
        omega
       have zdK:(i*e.size+j) % e.size=j:=by rw[Nat.mul_comm,Nat.mul_add_mod,Nat.mod_eq_of_lt hjl]
       grind
     ·intro d' eR
      cases eR
      refine .ms _ n.toNat e 0 n.toNat m.toNat _ (.inr ⟨n.toNat,e,_,Xf,zE _⟩) (Z) nofun (λp hp=>by cases hp; rfl) λxs Gr => ?_
      rw[Xf]at Gr
      cases Gr
      refine⟨qw,.inr ⟨O.w.heap.size,N,0,m.toNat,tZ hI,rfl,Z,by simp[N],.inr (qw)⟩⟩
   ·exact absurd h zj
  ·exact absurd h zj
 ·exact absurd h zj
end
section
variable {c:Ctx} {O:KS}
def eK(f:Nat->List Value):Nat->List Value
 | 0=>[]
 | n+1=>eK f n++f n
theorem gL{f:Nat->List Value}{s:Nat}:∀ {n:Nat},(∀ i,i<n->(f i).length=s)->(eK f n).length=n*s
 | 0,_=>by simp[eK]
 | n+1,h=>by rw[eK,zK,gL (λi hi=>h i (Z)),h n (Z),qD]; omega
theorem Zn{f:Nat->List Value}{s:Nat}:∀ {n:Nat},(∀ i,i<n->(f i).length=s)->∀ i j,i<n->j<s->(eK f n)[i*s+j]? = (f i)[j]?
 | 0,_,i,_,hi,_=>absurd hi (zW i)
 | n+1,h,i,j,hi,hj=>by
  have B:=gL (f:=f) (n:=n) (λi hi=>h i (Z))
  rw[eK]
  by_cases K3:i<n
  ·have:i*s+s<=n*s:=by rw[<- qB]; exact I _ K3
   rw[zG (Z)]
   exact Zn (λi hi=>h i (Z)) i j K3 hj
  ·grind
theorem BT{f:Nat->List Value}:∀ {n:Nat},(∀ i,i<n->∀ v∈f i,v.oneCell'=true)->∀ v∈eK f n,v.oneCell'=true
 | 0,_,v,hv=>by simp[eK]at hv
 | n+1,h,v,hv=>by
  rw[eK,qZ]at hv
  rcases hv with hv | hv
  ·exact BT (λi hi=>h i (Z)) v hv
  ·grind
theorem FA{f:Nat->List Value}{s:Nat}{n p:Nat}{v:Value}(hs:0<s)(h:∀ i,i<n->(f i).length=s)(hp:(eK f n)[p]? = some v):∃ i j,i<n/\j<s/\p=i*s+j/\(f i)[j]? = some v:=by
 have wO:=(zA.1 hp).1
 rw[gL h]at wO
 have hi:p / s<n:=(Nat.div_lt_iff_lt_mul hs).2 wO
 have hj:=Nat.mod_lt p hs
 have he:p / s*s+p % s=p:=Nat.div_add_mod' p s
 refine⟨p / s,p % s,hi,hj,he.symm,?_⟩
 rw[<- Zn h _ _ hi hj,he]; exact hp
def okS(O:KS):Nat->Prop:=λk=>O.ok k\/∃ b n:Nat,O.ph[b]? = some (some (k,n))
structure Src(O:KS)(e:Ty)(ys:List (den e))(v:Value):Prop where
 ex:∃ (a:Option Addr) (cap:Nat) (f:Nat->List Value),v=.slice a ys.length cap/\ys.length<=cap/\(a=none->ys=[]/\cap=0)/\(∀ i (hi:i<ys.length),Rc O.w O.ok e ys[i] (f i)) /\
  ∀ p,a=some p->(ys=[]/\cap=0)\/(p.spot=none/\okS O p.block/\∀ i,i<ys.length->∀ j u,(f i)[j]? = some u->O.w.cell? ⟨p.block,p.off+i*e.size+j,none⟩=some u)
theorem Ef{e:Ty}{ys:List (den e)}{v:Value}(h:RD O (.qj (.sl e) ys) v):Src O e ys v:=by
 rcases(h.jP rfl).Z5 with⟨rfl,a0,he⟩ | ⟨blk,off,cap,f,he,ja,ju,h1,X⟩
 ·cases he; exact⟨⟨a0,0,λ_=>[],rfl,zE _,λ_=>⟨rfl,rfl⟩,λi hi=>absurd hi (zW i),λ_ _=>.inl ⟨rfl,rfl⟩⟩⟩
 ·cases he; exact⟨⟨some ⟨blk,off,none⟩,cap,f,rfl,ju,nofun,h1,λp hp=>by cases hp; exact .inr ⟨rfl,.inl ja,X⟩⟩⟩
theorem WW{e:Ty}{ys:List (den e)}{ne:Bool}{v:Value}(h:RD O (.tight e ys ne) v):Src O e ys v:=by
 cases h with
 | vB _ a0=>exact⟨⟨a0,0,λ_=>[],rfl,zE _,λ_=>⟨rfl,rfl⟩,λi hi=>absurd hi (zW i),λ_ _=>.inl ⟨rfl,rfl⟩⟩⟩
 | tight _ _ _ blk off f ku ja h1 X=>exact⟨⟨some ⟨blk,off,none⟩,_,f,rfl,zE _,nofun,h1,λp hp=>by cases hp; exact .inr ⟨rfl,.inl ja,X⟩⟩⟩
theorem YO{e:Ty}{v:Value}(h:RD O .wF v):Src O e [] v:=by
 cases h; exact⟨⟨none,0,λ_=>[],rfl,zE _,λ_=>⟨rfl,rfl⟩,λi hi=>absurd hi (zW i),nofun⟩⟩
theorem No{b vn off len:Nat}{e:Ty}{xs:List (den e)}{v:Value}(hI:Inv O)(h:RD O (.ms b vn e off len) v)(J:O.st[b]? = some (.arr vn e xs)):Src O e ((xs.take (off+len)).drop off) v/\off+len<=xs.length:=by
 cases h with
 | ms _ _ _ _ _ cap a hold ju ha V7 hm =>
  obtain⟨hle,hm⟩:=hm xs J
  have B:((xs.take (off+len)).drop off).length=len:=by simp; omega
  have hg:∀ i (hi:i<((xs.take (off+len)).drop off).length),∃ h:off+i<xs.length,((xs.take (off+len)).drop off)[i]=xs[off+i]:=λi hi=>⟨Z,by simp[List.getElem_drop,List.getElem_take]⟩
  refine⟨?_,hle⟩
  rcases hm with⟨rfl,rfl,hv,hp⟩ | ⟨blk,n,o,Ut,h3,h4,h5,h6,h7⟩
  ·cases hv
   have:(xs.take (0+0)).drop 0=[]:=qw
   rw[this]
   exact⟨⟨none,0,λ_=>[],rfl,zE _,λ_=>⟨rfl,rfl⟩,λi hi=>absurd hi (zW i),nofun⟩⟩
  ·cases h4
   obtain⟨cm,⟨Gp,_⟩ | ⟨rF,n',cs,T,g1,g2,g3,g4,gr,f,g5⟩⟩:=hI.blk b _ J
   ·grind
   ·rw[h3]at g1
    cases g1
    refine⟨⟨some ⟨blk,o,none⟩,cap,λi=>f (off+i),by rw[B],by rw[B]; exact ju,nofun,λi hi => ?_,λp hp => ?_⟩⟩
    ·grind
    ·cases hp
     refine .inr ⟨rfl,.inr ⟨b,n,h3⟩,λi hi j u hj => ?_⟩
     obtain⟨k1,_⟩:=hg i hi
     have:=(g5 _ k1).2 j u hj
     rw[WD g2]
     rcases h7 with h7 | h7
     ·omega
     ·rw[h7,<- qD]; exact this
theorem WV{e:Ty}{ys:List (den e)}{v:Value}(h:Src O e ys v)(cm:0<e.size):∃ (news:List Value) (f:Nat->List Value),news=eK f ys.length/\(∀ i (hi:i<ys.length),Rc O.w O.ok e ys[i] (f i)) /\
  (∀ P,(qS v).run P O.w=.ok ys.length O.w)/\(∀ P,(zO e.size ys.length v).run P O.w=.ok news.toArray O.w)/\(∀ P,(zO e.size ys.length v).run P O.w.drew=.ok news.toArray O.w.drew):=by
 obtain⟨a,cap,f,rfl,_,hn,h1,X⟩:=h.ex
 have hf:∀ i,i<ys.length->(f i).length=e.size:=λi hi=>(h1 i hi).len
 refine⟨eK f ys.length,f,rfl,h1,λP=>rfl,λP => ?_,λP => ?_⟩
 all_goals
  cases a with
  | none=>have:=(hn rfl).1; subst this; simp[zO,eK]
  | some p =>
   rcases X p rfl with⟨rfl,_⟩ | ⟨hp,_,hc⟩
   ·simp[zO,eK,loadCells,loadCellsFrom]
   obtain⟨blk,o,sp⟩:=p
   subst hp
   refine run_firstCells_some (P:=P) _ e.size ys.length ⟨blk,o,none⟩ ys.length cap (eK f ys.length) (gL hf) λj u hj => ?_
   obtain⟨i,k,hi,hk,rfl,hu⟩:=FA cm hf hj
   rw[addr_add]
   try rw[World.cell?_drew]
   grind
structure Cel(O:KS)(e:Ty)(ys:List (den e))(v:Value):Prop where
 ex:∃ (news:List Value) (f:Nat->List Value),news=eK f ys.length/\(∀ i (hi:i<ys.length),Rc O.w O.ok e ys[i] (f i)) /\
  (∀ P,(qS v).run P O.w=.ok ys.length O.w)/\(∀ P,(zO e.size ys.length v).run P O.w=.ok news.toArray O.w)/\(∀ P,(zO e.size ys.length v).run P O.w.drew=.ok news.toArray O.w.drew)
theorem zaP{e:Ty}{ys:List (den e)}{v:Value}(h:Src O e ys v)(cm:0<e.size):Cel O e ys v:=⟨WV h cm⟩
def SQ(c:Ctx)(t2:TypeId):Prop:=(∃ e,c.P.underlying t2=some (.slice e))\/c.P.underlying t2=some .string
section run
variable {t t2 e:TypeId} {i:TypeInfo} {z:Value} {sLen sCap n:Nat} {base:Option Addr} {x:Value} {news olds:List Value} {ty:TypeId}
theorem run_append_fits(ht:c.P.underlying t=some (.slice e))(Tz:SQ c t2)(hi:c.P.info? e=some i)(hlen:∀ P,(qS x).run P O.w=.ok n O.w)(hf:∀ P,(zO i.size n x).run P O.w=.ok news.toArray O.w)
  (X1:sLen+n<=sCap) {w':World} (ud:(match base with | some a=>storeCells (a.add (sLen*i.size)) news | none=>pure ()).run c.P O.w=.ok () w') :
  (zL #[t,t2] ty #[.slice base sLen sCap,x]).run c.P O.w=.ok (.slice base (sLen+n) sCap) w':=by
 rcases Tz with⟨e2,Tz⟩ | Tz
 all_goals cases base with
 | none=>simp at ud; subst ud; simp[zL,run_underlying ht,run_underlying Tz,sizeOf,typeInfo,hi,hlen,X1,hf]
 | some a=>simp only at ud; simp[zL,run_underlying ht,run_underlying Tz,sizeOf,typeInfo,hi,hlen,X1,hf,ud]
theorem sH(ht:c.P.underlying t=some (.slice e))(Tz:SQ c t2)(hi:c.P.info? e=some i)(hz:i.zero=some z)(hlen:∀ P,(qS x).run P O.w=.ok n O.w)(hf:∀ P,(zO i.size n x).run P O.w.drew=.ok news.toArray O.w.drew)
  (ho:∀ P,(zO i.size sLen (.slice base sLen sCap)).run P O.w.drew=.ok olds.toArray O.w.drew)
  (hg:sCap<sLen+n) (h63:((sLen+n:Nat):Int)<=9223372036854775807) (J:(sLen+n)*i.bytes<=140737488355328) :
  (zL #[t,t2] ty #[.slice base sLen sCap,x]).run c.P O.w=.ok (.slice (some ⟨O.w.heap.size,0,none⟩) (sLen+n) (grownCap O.w (sLen+n) sCap e))
   (O.w.drew.alloc (.cells (olds.toArray++news.toArray++zX z.cells (grownCap O.w (sLen+n) sCap e-(sLen+n))) e)):=by
 have h1:¬ (sLen+n<=sCap):=Z
 have X:¬ (9223372036854775807<((sLen+n:Nat):Int)):=Z
 have h3:=growslice_fits (bytes:=i.bytes) hg J
 have h4:¬ (281474976710656<Builtin.nextslicecap (sLen+n) sCap*i.bytes):=Z
 have h5:IntKind.i64.max=9223372036854775807:=qh
 rcases Tz with⟨e2,Tz⟩ | Tz
 all_goals
  simp[zL,run_underlying ht,run_underlying Tz,sizeOf,typeInfo,zeroValue,hi,hz,hlen,hf,ho,Question.forced,newRow,grownCap]
  grind
end run
theorem Wi(z:Array Value)(n:Nat):(zX z n).size=n*z.size:=by simp[zX]
theorem Gx{e:Ty}{l ys:List (den e)}{f g:Nat->List Value}(B:∀ i (hi:i<l.length),Rc O.w O.ok e l[i] (f i))(hy:∀ i (hi:i<ys.length),Rc O.w O.ok e ys[i] (g i))(zs:List Value) :
  ∀ i (hi:i<(l++ys).length),Rc O.w O.ok e (l++ys)[i] (if i<l.length then f i else g (i-l.length)) /\
   ∀ j v,(if i<l.length then f i else g (i-l.length))[j]? = some v->(eK f l.length++eK g ys.length++zs)[i*e.size+j]? = some v:=by
 have KE:∀ i,i<l.length->(f i).length=e.size:=λi hi=>(B i hi).len
 have hgl:∀ i,i<ys.length->(g i).length=e.size:=λi hi=>(hy i hi).len
 have h1:=gL KE
 have X:=gL hgl
 intro i hi
 by_cases Ts:i<l.length
 ·simp only[if_pos Ts]
  refine⟨wa,λj v hj => ?_⟩
  have hjl:j<e.size:=by rw[<- KE i Ts]; exact(zA.1 hj).1
  have:i*e.size+e.size<=l.length*e.size:=by rw[<- qB]; exact I _ Ts
  rw[qI,zG (Z),Zn KE i j Ts hjl]
  exact hj
 ·simp only[if_neg Ts]
  simp only[zK]at hi
  have zdE:i-l.length<ys.length:=Z
  refine⟨wa,λj v hj => ?_⟩
  have hjl:j<e.size:=by rw[<- hgl _ zdE]; exact(zA.1 hj).1
  have e1:i*e.size=l.length*e.size+(i-l.length)*e.size:=by rw[<- qD]; congr 1; omega
  have:(i-l.length)*e.size+e.size<=ys.length*e.size:=by rw[<- qB]; exact I _ zdE
  rw[qI,qC (Z),h1,zG (Z)]
  rw[show i*e.size+j-l.length*e.size=(i-l.length)*e.size+j by omega,Zn hgl _ j zdE hjl]
  exact hj
theorem LH{t t2 et:Nat}{e:Ty}{l ys:List (den e)}{sv v:Value}{bytes:Nat}{ty:Nat}(hI:Inv O)(hu:c.P.underlying t=some (.slice et))(EL:SQ c t2)(ja:cF c et e=true)(cm:0<e.size)(Du:rG c et=some bytes)(hz:∃ y,zeroOf c et e=some y)
  (hs:Src O e l sv) (ju:∃ a,sv=.slice a l.length l.length) (hv:Cel O e ys v) (ku:ys≠[]) (J:(l.length+ys.length)*bytes<=140737488355328) (hn:l.length+ys.length<=9223372036854775807) :
  ∃ (E:KS) (r:Value),(zL #[t,t2] ty #[sv,v]).run c.P O.w=.ok r E.w/\E.st=O.st++[.arr (l.length+ys.length) e (l++ys)]/\Inv E/\Ext O E/\RD E (.ms O.st.length (l.length+ys.length) e 0 (l.length+ys.length)) r:=by
 obtain⟨hs1,_⟩:=ki ja
 obtain⟨i,Dy,JI⟩:=mS hs1
 obtain⟨y,hy⟩:=hz
 obtain⟨i',zv,g1,g2,g3⟩:=iu (O:=O) hy
 obtain⟨i'',k1,k2⟩:=th Du
 rw[Dy]at g1 k1
 cases g1
 cases k1
 obtain⟨olds,f,ho1,ho2,ho3,ho4,ho5⟩:=WV hs cm
 obtain⟨news,g,Yk,Dz,hn3,hn4,hn5⟩:=hv.ex
 obtain⟨a,hsv⟩:=ju
 subst hsv
 have V6:0<ys.length:=List.length_pos_iff.2 ku
 have jT:=sH (c:=c) (O:=O) (t:=t) (t2:=t2) (e:=et) (ty:=ty) (base:=a) (sLen:=l.length) (sCap:=l.length) (n:=ys.length) (x:=v) (news:=news) (olds:=olds) hu EL Dy g2 hn3
  (by intro P; rw[JI]; exact hn5 P) (by intro P; rw[JI]; exact ho5 P) (Z) (Z) (by rw[k2]; exact J)
 let C:=grownCap O.w (l.length+ys.length) l.length et
 have hC:l.length+ys.length<=C:=grownCap_ge _ _ _ _
 let zs:=zX zv.cells (C-(l.length+ys.length))
 let cells:=olds.toArray++news.toArray++zs
 have hzs:zs.size=(C-(l.length+ys.length))*e.size:=by have:=g3.len; simp only[qG]at this; simp[zs,Wi,this]
 have hol:olds.length=l.length*e.size:=by rw[ho1]; exact gL λi hi=>(ho2 i hi).len
 have hnl:news.length=ys.length*e.size:=by rw[Yk]; exact gL λi hi=>(Dz i hi).len
 have Xc:cells.size=C*e.size:=by
  simp only[cells,Array.size_append,zY,hol,hnl,hzs,<- qD]
  grind
 have gr:=nA.drew O.w (.cells cells et)
 have hex:=ZM (n:=cells.size) (x:=.arr (l.length+ys.length) e (l++ys)) hI gr
 refine⟨O.add _ cells.size (.arr (l.length+ys.length) e (l++ys)),_,jT,rfl,Uo hI gr ?_,hex,?_⟩
 ·refine⟨cm,.inr ⟨O.w.heap.size,cells.size,cells,et,tZ hI,gr.new,rfl,?_,Jf ja,λi=>if i<l.length then f i else g (i-l.length),λi hi => ?_⟩⟩
  ·rw[Xc,zK]; exact I _ hC
  ·obtain⟨q1,q2⟩:=Gx ho2 Dz zs.toList i hi
   refine⟨q1.mono hex.same,λj v hj => ?_⟩
   grind
 ·refine .ms _ (l.length+ys.length) e 0 _ C _ (.inr ⟨l.length+ys.length,e,_,Xf,zE _⟩) hC nofun (λp hp=>by cases hp; rfl) λxs Gr => ?_
  rw[Xf]at Gr
  cases Gr
  exact⟨qw,.inr ⟨O.w.heap.size,cells.size,0,C,tZ hI,rfl,hC,by rw[Xc]; simp,.inr (qw)⟩⟩
theorem LI{t t2 et:Nat}{e:Ty}{ys:List (den e)}{p:Addr}{v:Value}{bytes:Nat}{ty:Nat}(hI:Inv O)(hu:c.P.underlying t=some (.slice et))(EL:SQ c t2)(ja:cF c et e=true)(cm:0<e.size)(Du:rG c et=some bytes)(hz:∃ y,zeroOf c et e=some y)
  (hv:Cel O e ys v) (ku:ys≠[]) (J:ys.length*bytes<=140737488355328) (hn:ys.length<=9223372036854775807) :
  ∃ (E:KS) (r:Value),(zL #[t,t2] ty #[.slice (some p) 0 0,v]).run c.P O.w=.ok r E.w/\E.st=O.st/\Inv E/\Ext O E/\RD E (.tc e ys true) r:=by
 obtain⟨hs1,_⟩:=ki ja
 obtain⟨i,Dy,JI⟩:=mS hs1
 obtain⟨y,hy⟩:=hz
 obtain⟨i',zv,g1,g2,g3⟩:=iu (O:=O) hy
 obtain⟨i'',k1,k2⟩:=th Du
 rw[Dy]at g1 k1
 cases g1
 cases k1
 obtain⟨news,g,Yk,Dz,hn3,hn4,hn5⟩:=hv.ex
 have V6:0<ys.length:=List.length_pos_iff.2 ku
 have jT:=sH (c:=c) (O:=O) (t:=t) (t2:=t2) (e:=et) (ty:=ty) (base:=some p) (sLen:=0) (sCap:=0) (n:=ys.length) (x:=v) (news:=news) (olds:=[]) hu EL Dy g2 hn3
  (by intro P; rw[JI]; exact hn5 P) (by intro P; obtain⟨_,_,e1,_,_,_,e5⟩:=WV (O:=O) (e:=e) (ys:=[]) (v:=.slice (some p) 0 0) (Ef (.qj (.sl e) [] _ (.mf e (some p)))) cm; rw[JI]; have:=e5 P; rw[e1]at this; exact this) (Z) (Z) (by rw[k2,qE]; exact J)
 rw[qE]at jT
 let C:=grownCap O.w ys.length 0 et
 have hC:ys.length<=C:=grownCap_ge _ _ _ _
 let zs:=zX zv.cells (C-ys.length)
 let cells:=([]:List Value).toArray++news.toArray++zs
 have gr:=nA.drew O.w (.cells cells et)
 have hex:=Wx hI gr
 have EI:Rc (O.qj (O.w.drew.alloc (.cells cells et))).w (O.qj (O.w.drew.alloc (.cells cells et))).ok (.sl e) ys [.slice (some ⟨O.w.heap.size,0,none⟩) ys.length C]:=by
  refine .sl e ys O.w.heap.size 0 C g (.inr rfl) hC (λi hi=>(Dz i hi).mono hex.same) λi hi j u hu => ?_
  have hgl:∀ i,i<ys.length->(g i).length=e.size:=λi hi=>(Dz i hi).len
  have hj:j<e.size:=by rw[<- hgl i hi]; exact(zA.1 hu).1
  have hnl:news.length=ys.length*e.size:=by rw[Yk]; exact gL hgl
  have hle:i*e.size+e.size<=ys.length*e.size:=by rw[<- qB]; exact I _ hi
  have Mq:news[i*e.size+j]? = some u:=by rw[Yk,Zn hgl i j hi hj]; exact hu
  have fc:cells[i*e.size+j]? = some u:=by
   show(([]:List Value).toArray++news.toArray++zs)[i*e.size+j]? = some u
   rw[Array.getElem?_append_left (by simp; omega)]
   simpa using Mq
  have Ba:(O.qj (O.w.drew.alloc (.cells cells et))).w.heap[O.w.heap.size]? = some (.cells cells et (0,0)):=gr.new
  simp only[World.cell?,qE,Ba]
  simpa using fc
 refine⟨O.qj _,_,jT,rfl,du hI gr,hex,.tc e ys true _ EI (λ_=>⟨_,_,_,rfl,λe=>absurd e ku⟩) nofun⟩
def KS.re(O:KS)(w':World)(b n:Nat)(x:dn):KS:={ O with w:=w',ph:=O.ph.set b (some (O.w.heap.size,n)),st:=O.st.set b x }
theorem Nc{w':World}{o:Obj}{b n v0 v1:Nat}{e:Ty}{xs ys:List (den e)}(hI:Inv O)(g:nA O.w w' o)(J:O.st[b]? = some (.arr v0 e xs))(hv:v0<v1):Ext O (O.re w' b n (.arr v1 e ys)):=by
 refine⟨g.os,g.tape,g.output,by show O.w.heap.size<=w'.heap.size; rw[g.size]; omega,λk hk=>⟨hk,g.old (hI.cp k hk)⟩,λk hk=>.inl hk,?_,?_,?_,?_,by simp[KS.re],λk hk _=>g.old hk⟩
 ·intro b' blk m h
  simp only[KS.re]at h
  grind
 ·intro b' d V
  have ku:b≠b':=λe=>by subst e; rw[J]at V; cases V
  simp only[KS.re]
  grind
 ·intro b' u0 e' zs V
  simp only[KS.re]
  grind
 ·intro b' V
  have ku:b≠b':=λe=>by subst e; rw[J]at V; cases V
  simp only[KS.re,zT,if_neg ku]
  exact V
theorem zfd{w':World}{o:Obj}{b n v0 v1:Nat}{e:Ty}{xs ys:List (den e)}(hI:Inv O)(g:nA O.w w' o)(J:O.st[b]? = some (.arr v0 e xs))(hv:v0<v1)
  (U:rC (O.re w' b n (.arr v1 e ys)) b (.arr v1 e ys)):Inv (O.re w' b n (.arr v1 e ys)):=by
 have hold:∀ (b' blk m:Nat),(O.ph.set b (some (O.w.heap.size,n)))[b']? = some (some (blk,m))->(b≠b'/\O.ph[b']? = some (some (blk,m)))\/(b=b'/\blk=O.w.heap.size):=by
  grind
 refine⟨by simp[KS.re,hI.len],?_,?_,?_,?_,hI.gl.mono (Nc (n:=n) (ys:=ys) hI g J hv).same⟩
 ·intro k hk; have:=hI.cp k hk; show k<w'.heap.size; rw[g.size]; omega
 ·intro b' blk m h
  rcases hold b' blk m h with⟨_,h⟩ | ⟨rfl,rfl⟩
  ·obtain⟨h1,X⟩:=hI.apart b' blk m h
   exact⟨by show blk<w'.heap.size; rw[g.size]; omega,X⟩
  ·exact⟨by show O.w.heap.size<w'.heap.size; rw[g.size]; omega,λhk=>absurd (hI.cp _ hk) (Nat.lt_irrefl _)⟩
 ·intro b1 b2 blk m m' h h'
  rcases hold b1 blk m h with⟨_,h⟩ | ⟨rfl,rfl⟩<;>rcases hold b2 _ m' h' with⟨_,h'⟩ | ⟨rfl,h''⟩
  ·exact hI.inj b1 b2 blk m m' h h'
  ·have:=(hI.apart b1 blk m h).1; omega
  ·have:=(hI.apart b2 _ m' h').1; omega
  ·rfl
 ·intro b' y hy
  simp only[KS.re,zT]at hy
  split at hy
  ·grind
  ·rename_i e1
   refine(hI.blk b' y hy).mono (Nc hI g J hv) ?_ λblk m h=>g.old (hI.apart b' blk m h).1
   simp only[KS.re,zT,if_neg e1]
theorem Hp{α:Type}{l:List α}{i:Nat}{a:α}(h:l[i]? = some a):l.set i a=l:=by
 apply List.ext_getElem?
 grind
theorem SW{t t2 et b vn len:Nat}{e:Ty}{xs ys:List (den e)}{sv v:Value}{bytes:Nat}{ty:Nat}(hI:Inv O)(hu:c.P.underlying t=some (.slice et))(EL:SQ c t2)(ja:cF c et e=true)(cm:0<e.size)(Du:rG c et=some bytes)
  (hz:∃ y,zeroOf c et e=some y) (hs:RD O (.ms b vn e 0 len) sv) (J:O.st[b]? = some (.arr vn e xs)) (hlen:len=xs.length) (hv:Cel O e ys v) (Mt:(xs.length+ys.length)*bytes<=140737488355328)
  (hn:xs.length+ys.length<=9223372036854775807) :
  ∃ (E:KS) (r:Value),(zL #[t,t2] ty #[sv,v]).run c.P O.w=.ok r E.w/\E.st=O.st.set b (.arr (vn+ys.length) e (xs++ys))/\Inv E/\Ext O E/\RD E (.ms b (vn+ys.length) e 0 (len+ys.length)) r:=by
 subst hlen
 have wO:b<O.st.length:=(zA.1 J).1
 have B8:b<O.ph.length:=by rw[hI.len]; exact wO
 obtain⟨hs1,_⟩:=ki ja
 obtain⟨i,Dy,JI⟩:=mS hs1
 obtain⟨y,hy⟩:=hz
 obtain⟨i',zv,g1,g2,g3⟩:=iu (O:=O) hy
 obtain⟨i'',k1,k2⟩:=th Du
 rw[Dy]at g1 k1
 cases g1
 cases k1
 have DC:=(No hI hs J).1
 simp only[qE,List.take_length,List.drop_zero]at DC
 obtain⟨olds,f,ho1,ho2,ho3,ho4,ho5⟩:=WV DC cm
 obtain⟨news,g,Yk,Dz,hn3,hn4,hn5⟩:=hv.ex
 have hol:olds.length=xs.length*e.size:=by rw[ho1]; exact gL λi hi=>(ho2 i hi).len
 have hnl:news.length=ys.length*e.size:=by rw[Yk]; exact gL λi hi=>(Dz i hi).len
 have BV:∀ u∈news,u.oneCell'=true:=by rw[Yk]; exact BT λi hi=>(Dz i hi).one
 cases hs with
 | ms _ _ _ _ _ cap a hold ju ha V7 hm =>
  obtain⟨hle,hm⟩:=hm xs J
  by_cases X1:xs.length+ys.length<=cap
  ·-- there is room
   rcases hm with⟨h1,_,hv',hp⟩ | ⟨blk,n,o,Ut,h3,h4,h5,h6,h7⟩
   ·simp only[Value.slice.injEq]at hv'
    obtain⟨rfl,Lt,rfl⟩:=hv'
    have YC:xs=[]:=zM h1
    have hy0:ys=[]:=zM (Z)
    subst YC hy0
    refine⟨O,.slice none 0 0,?_,?_,hI,Ext.refl O,.ms b vn e 0 0 0 none hold (zE _) (λ_=>rfl) nofun λzs hzs => ?_⟩
    ·have hn0:news=[]:=zM (by simpa using hnl)
     subst hn0
     exact run_append_fits (c:=c) (O:=O) (t:=t) (t2:=t2) (e:=et) (ty:=ty) (base:=none) (sLen:=0) (sCap:=0) (n:=0) (x:=v) (news:=[]) hu EL Dy hn3 (by intro P; rw[JI]; exact hn4 P) (Z) rfl
    ·simp only[List.length_nil,xH,List.append_nil]
     rw[Hp J]
    ·grind
   ·cases h4
    obtain⟨_,⟨Gp,hpn⟩ | ⟨rF,n',cs,T,p1,p2,p3,p4,pr,F,p5⟩⟩:=hI.blk b _ J
    ·grind
    ·rw[h3]at p1
     cases p1
     have ho:xs.length+ys.length=0\/o=0:=by
      grind
     have zi2:cap*e.size<=cs.size:=by rw[p3]; simpa using h6
     have B4:xs.length*e.size+ys.length*e.size<=cs.size:=by
      rw[<- qD]; exact qN (I _ X1) zi2
     let nd:=(cs.toList.take (xs.length*e.size)++news++cs.toList.drop (xs.length*e.size+news.length)).toArray
     have Yz:cs.toList.length=cs.size:=qw
     have B3:nd.size=cs.size:=by simp only[nd,zY,zK,zU,qK,hnl,Yz]; omega
     have hoa:∀ m,(⟨blk,o,none⟩:Addr).add (xs.length*e.size)=⟨blk,xs.length*e.size,none⟩\/m=0\/xs.length+ys.length=0:=by
      intro m
      rcases ho with h | h
      ·grind
      ·subst h; rw[addr_add,qE]; exact .inl rfl
     have ud:(storeCells ((⟨blk,o,none⟩:Addr).add (xs.length*i.size)) news).run c.P O.w=.ok () (O.w.setRow blk nd):=by
      rw[JI]
      rcases hoa 1 with h | h | h
      ·rw[h]
       have:=run_storeCells_at c.P blk (xs.length*e.size) T news 0 cs O.w p2 (by rw[hnl]; omega) BV
       simpa only[xH]using this
      ·cases h
      ·have hn0:news=[]:=zM (by rw[hnl,show ys.length=0 by omega]; simp)
       have YC:xs.length=0:=Z
       have hce:nd=cs:=by simp[nd,hn0,YC]
       rw[hn0,hce,setRow_self _ _ _ _ _ p2]
       rfl
     have Yh:Alike (.arr vn e xs) (.arr (vn+ys.length) e (xs++ys)):=⟨rfl,Z,λh=>by rw[zK]; omega⟩
     have hex:=JA (cs:=nd) (x:=.arr (vn+ys.length) e (xs++ys)) hI h3 J Yh
     refine⟨O.upd b blk nd (.arr (vn+ys.length) e (xs++ys)),.slice (some ⟨blk,o,none⟩) (xs.length+ys.length) cap,?_,rfl,JB hI h3 J Yh ?_,hex,?_⟩
     ·exact run_append_fits (c:=c) (O:=O) (t:=t) (t2:=t2) (e:=et) (ty:=ty) (base:=some ⟨blk,o,none⟩) (sLen:=xs.length) (sCap:=cap) (n:=ys.length) (x:=v) (news:=news) hu EL Dy hn3 (by intro P; rw[JI]; exact hn4 P) X1 ud
     ·refine⟨cm,.inr ⟨blk,n,nd,T,h3,setRow_heap _ _ _ _ _ _ p2,by rw[B3]; exact p3,?_,pr,λi=>if i<xs.length then F i else g (i-xs.length),λi hi => ?_⟩⟩
      ·rw[zK]; exact qN (I _ X1) (by simpa using h6)
      ·have hF:∀ i (hi:i<xs.length),Rc O.w O.ok e xs[i] (F i):=λi hi=>(p5 i hi).1
       have zbC:∀ i,i<xs.length->(F i).length=e.size:=λi hi=>(hF i hi).len
       have BW:cs.toList.take (xs.length*e.size)=eK F xs.length:=by
        apply List.ext_getElem?
        intro p
        rw[List.getElem?_take]
        have KE:=gL zbC
        split
        ·rename_i hp
         obtain⟨q,hq⟩:∃ q,(eK F xs.length)[p]? = some q:=⟨_,zN (by rw[KE]; exact hp)⟩
         obtain⟨i',j',a1,a2,a3,a4⟩:=FA cm zbC hq
         rw[hq]
         have:=(p5 i' a1).2 j' q a4
         rw[a3,zV]; exact this
        ·rename_i hp
         rw[List.getElem?_eq_none (by rw[KE]; omega)]
       obtain⟨q1,q2⟩:=Gx hF Dz (cs.toList.drop (xs.length*e.size+news.length)) i hi
       refine⟨q1.mono hex.same,λj w hj => ?_⟩
       have:=q2 j w hj
       rw[<- Yk,<- BW]at this
       simpa only[nd,xA]using this
     ·refine .ms b _ e 0 _ cap _ (.inr ⟨vn+ys.length,e,xs++ys,by simp[KS.upd,KS.Ud,wO],zE _⟩) X1 nofun (λp hp=>by cases hp; rfl) λzs hzs => ?_
      have:zs=xs++ys:=by simp only[KS.upd,KS.Ud,qW wO]at hzs; cases hzs; rfl
      subst this
      refine⟨qw,.inr ⟨blk,n,o,cap,h3,rfl,X1,by simpa using h6,?_⟩⟩
      rcases h7 with h7 | h7
      ·exact .inl h7
      ·exact .inr (by simpa using h7)
  ·-- it grows
   have V6:0<ys.length:=Z
   have jT:=sH (c:=c) (O:=O) (t:=t) (t2:=t2) (e:=et) (ty:=ty) (base:=a) (sLen:=xs.length) (sCap:=cap) (n:=ys.length) (x:=v) (news:=news) (olds:=olds) hu EL Dy g2 hn3
    (by intro P; rw[JI]; exact hn5 P) (by intro P; rw[JI]; exact ho5 P) (Z) (Z) (by rw[k2]; exact Mt)
   let C:=grownCap O.w (xs.length+ys.length) cap et
   have hC:xs.length+ys.length<=C:=grownCap_ge _ _ _ _
   let zs:=zX zv.cells (C-(xs.length+ys.length))
   let cells:=olds.toArray++news.toArray++zs
   have hzs:zs.size=(C-(xs.length+ys.length))*e.size:=by have:=g3.len; simp only[qG]at this; simp[zs,Wi,this]
   have Xc:cells.size=C*e.size:=by
    simp only[cells,Array.size_append,zY,hol,hnl,hzs,<- qD]
    congr 1; omega
   have gr:=nA.drew O.w (.cells cells et)
   have z2w:vn<vn+ys.length:=Z
   have hex:=Nc (n:=cells.size) (ys:=xs++ys) hI gr J z2w
   refine⟨O.re _ b cells.size (.arr (vn+ys.length) e (xs++ys)),_,jT,rfl,zfd hI gr J z2w ?_,hex,?_⟩
   ·refine⟨cm,.inr ⟨O.w.heap.size,cells.size,cells,et,by simp[KS.re,B8],gr.new,rfl,?_,Jf ja,λi=>if i<xs.length then f i else g (i-xs.length),λi hi => ?_⟩⟩
    ·rw[Xc,zK]; exact I _ hC
    ·obtain⟨q1,q2⟩:=Gx ho2 Dz zs.toList i hi
     refine⟨q1.mono hex.same,λj v hj => ?_⟩
     have:=q2 j v hj
     rw[<- ho1,<- Yk]at this
     rw[<- zV]
     simpa[cells]using this
   ·refine .ms b _ e 0 _ C _ (.inr ⟨vn+ys.length,e,xs++ys,by simp[KS.re,wO],zE _⟩) hC nofun (λp hp=>by cases hp; rfl) λus hus => ?_
    have:us=xs++ys:=by simp only[KS.re,qW wO]at hus; cases hus; rfl
    subst this
    exact⟨qw,.inr ⟨O.w.heap.size,cells.size,0,C,by simp[KS.re,B8],rfl,hC,by rw[Xc]; simp,.inr (qw)⟩⟩
end
section
variable {c:Ctx} {O:KS}
theorem Ua{x y:D}{v:Value}(hI:Inv O)(U:RD O x v)(h:(ZF O.st x).leads y):(y=x/\∀ b vn e off len,x≠.ms b vn e off len)\/∃ (e:Ty) (ys:List (den e)),y=.qj (.sl e) ys/\Src O e ys v/\∃ b vn off len,x=.ms b vn e off len:=by
 cases x with
 | ms b vn e off len =>
  simp only[ZF]at h
  split at h
  ·rename_i ef e' xs J
   split at h
   ·rename_i he
    subst he
    obtain⟨rfl,h⟩:=h
    refine .inr ⟨e',_,h.symm,(No hI U J).1,b,vn,off,len,rfl⟩
   ·exact h.elim
  ·exact h.elim
 | _=>exact .inl ⟨h.symm,λ_ _ _ _ _=>nofun⟩
theorem Vb{t t2 et:Nat}{e:Ty}{s:D}{ys:List (den e)}{ne:Bool}{sv v:Value}{bytes ty:Nat}{d:Option D}{qm:St}(hI:Inv O)(hu:c.P.underlying t=some (.slice et))(EL:SQ c t2)(ja:cF c et e=true)(cm:0<e.size)
  (Du:rG c et=some bytes) (hb0:0<bytes) (hz:∃ y,zeroOf c et e=some y) (hs:RD O s sv) (hv:Cel O e ys v) (ku:ne=true->ys≠[])
  (h:(bI e s ys ne bytes O.st).leads (d,qm)) :
  ∃ (E:KS) (r:Value),(zL #[t,t2] ty #[sv,v]).run c.P O.w=.ok r E.w/\E.st=qm/\Inv E/\Ext O E/\∀ d',d=some d'->RD E d' r:=by
 have hlen:∀ n,n*bytes<=140737488355328->n<=9223372036854775807:=λn hn=>qN (Nat.le_mul_of_pos_right n hb0) (qN hn (qh))
 -- nothing is appended
 have same:∀ (a:Option Addr) (n cap:Nat),sv=.slice a n cap->n<=cap->ys=[]->d=some s->qm=O.st ->
   ∃ (E:KS) (r:Value),(zL #[t,t2] ty #[sv,v]).run c.P O.w=.ok r E.w/\E.st=qm/\Inv E/\Ext O E/\∀ d',d=some d'->RD E d' r:=by
  rintro a n cap rfl ju rfl rfl rfl
  obtain⟨hs1,_⟩:=ki ja
  obtain⟨i,Dy,JI⟩:=mS hs1
  obtain⟨news,g,Yk,Dz,hn3,hn4,hn5⟩:=hv.ex
  have hn0:news=[]:=Yk
  subst hn0
  refine⟨O,.slice a n cap,?_,rfl,hI,Ext.refl O,λd' he=>by cases he; exact hs⟩
  have:=run_append_fits (c:=c) (O:=O) (t:=t) (t2:=t2) (e:=et) (ty:=ty) (base:=a) (sLen:=n) (sCap:=cap) (n:=0) (x:=v) (news:=[]) (i:=i) hu EL Dy hn3 (by intro P; rw[JI]; exact hn4 P) (Z) (w':=O.w) (by cases a<;>rfl)
  grind
 have new:∀ l:List (den e),Src O e l sv->(∃ a,sv=.slice a l.length l.length)->ys≠[]->(r9 e l ys bytes O.st).leads (d,qm) ->
   ∃ (E:KS) (r:Value),(zL #[t,t2] ty #[sv,v]).run c.P O.w=.ok r E.w/\E.st=qm/\Inv E/\Ext O E/\∀ d',d=some d'->RD E d' r:=by
  intro l B ju ku h
  obtain⟨J,h⟩:=h
  cases h
  obtain⟨E,r,h1,X,h3,h4,h5⟩:=LH (ty:=ty) hI hu EL ja cm Du hz B ju hv ku J (hlen _ J)
  grind
 unfold bI at h
 split at h
 ·have hsv:sv=.slice none 0 0:=by cases hs; rfl
  cases hn:ne with
  | true=>rw[hn,cond_true]at h; exact new [] (YO hs) ⟨none,hsv⟩ (ku hn) h
  | false =>
   rw[hn,cond_false]at h
   rcases h with⟨hy,h⟩ | ⟨hy,h⟩
   ·cases h; exact same none 0 0 hsv (zE _) (List.isEmpty_iff.1 hy) rfl rfl
   ·exact new [] (YO hs) ⟨none,hsv⟩ (λe=>by rw[e]at hy; cases hy) h
 ·rename_i e' l ne'
  split at h
  ·rename_i l' MB
   obtain⟨he,z2u⟩:=wh MB
   cases he
   simp only at z2u
   subst z2u
   have hsv:∃ a,sv=.slice a l'.length l'.length:=by
    cases hs with
    | vB=>simp
    | tight=>simp
   cases hn:ne with
   | true=>rw[hn,cond_true]at h; exact new l' (WW hs) hsv (ku hn) h
   | false =>
    rw[hn,cond_false]at h
    rcases h with⟨hy,h⟩ | ⟨hy,h⟩
    ·cases h
     obtain⟨a,ha⟩:=hsv
     exact same a _ _ ha (zE _) (List.isEmpty_iff.1 hy) rfl rfl
    ·exact new l' (WW hs) hsv (λe=>by rw[e]at hy; cases hy) h
  ·exact h.elim
 ·rename_i e' l b
  split at h
  ·rename_i MB
   obtain⟨he,z2u⟩:=wh MB
   cases he
   simp only at z2u
   subst z2u
   cases J:b with
   | false=>rw[J]at h; exact h.elim
   | true =>
    rw[J,cond_true]at h
    subst J
    obtain⟨Mt,h⟩:=h
    cases h
    cases hs with
    | tc _ _ _ _ hr ht hf =>
     obtain⟨blk,off,cap,rfl,hc⟩:=ht rfl
     have:=hc rfl
     subst this
     by_cases hy:ys=[]
     ·subst hy
      exact same (some ⟨blk,off,none⟩) 0 0 rfl (zE _) rfl rfl rfl
     ·obtain⟨E,r,h1,X,h3,h4,h5⟩:=LI (ty:=ty) (p:=⟨blk,off,none⟩) hI hu EL ja cm Du hz hv hy Mt (hlen _ Mt)
      exact⟨E,r,h1,X,h3,h4,λd' he=>by cases he; exact h5⟩
  ·exact h.elim
 ·rename_i b vn e' off len
  split at h
  ·rename_i ef e'' xs J
   split at h
   ·rename_i xs' HQ
    obtain⟨he,ziU⟩:=wh HQ
    cases he
    simp only at ziU
    subst ziU
    cases hde:decide (e'=_)with
    | false=>rw[hde]at h; exact h.elim
    | true =>
     rw[hde,cond_true]at h
     have:=uC hde
     subst this
     obtain⟨⟨rfl,rfl,B,Mt⟩,h⟩:=h
     cases h
     obtain⟨E,r,h1,X,h3,h4,h5⟩:=SW (ty:=ty) hI hu EL ja cm Du hz hs J B hv Mt (hlen _ Mt)
     exact⟨E,r,h1,X,h3,h4,λd' he=>by cases he; exact h5⟩
   ·exact h.elim
  ·exact h.elim
 ·exact h.elim
theorem F1{t ty:Nat}{s x:Option D}{sv v:Value}{d:Option D}{qm:St}(hI:Inv O)(hs:∀ z,s=some z->RD O z sv)(U:∀ z,x=some z->RD O z v)
  (h:(qu (Xg c t s x) O.st).leads (d,qm)):wy c.P (do zJ (.value (<- zL #[t,t] ty #[sv,v]))) O d qm:=by
 unfold Xg at h
 split at h
 ·exact absurd h zj
 ·rename_i et het
  have hu:=yW het
  split at h
  ·rename_i e bytes Ou Du
   cases J:cF c et e&&xE 0 e.size&&xE 0 bytes&&(zeroOf c et e).isSome with
   | false=>rw[J]at h; exact absurd h zj
   | true =>
    rw[J,cond_true]at h
    simp only[zI]at J
    obtain⟨⟨⟨ja,h1⟩,X⟩,h3⟩:=J
    have cm:0<e.size:=R h1
    have hb0:0<bytes:=R X
    have hz:=zZ.1 h3
    split at h
    ·rename_i s x
     simp only[qu,T.xf]at h
     obtain⟨y,hy,h⟩:=h
     have fin:∀ (ys:List (den e)) (ne:Bool),Src O e ys v->(ne=true->ys≠[])->(bI e s ys ne bytes O.st).leads (d,qm)->wy c.P (do zJ (.value (<- zL #[t,t] ty #[sv,v]))) O d qm:=by
      intro ys ne hv ku h
      obtain⟨E,r,g1,g2,g3,g4,g5⟩:=Vb (t2:=t) (ty:=ty) hI hu (.inl ⟨et,hu⟩) ja cm Du hb0 hz (hs _ rfl) (zaP hv cm) ku h
      exact⟨E,.value r,r,by simp only[zH,g1,Y]; rfl,.inl rfl,g2,g3,g4,g5⟩
     have Ox:=U _ rfl
     rcases Ua hI Ox hy with⟨rfl,hnm⟩ | ⟨e',ys,rfl,DC,_⟩
     ·split at h
      ·rename_i σ z
       split at h
       ·rename_i ys hys
        obtain⟨he,hz'⟩:=wh hys
        cases he
        subst hz'
        exact fin _ false (Ef Ox) nofun h
       ·exact h.elim
      ·rename_i σ z ne
       split at h
       ·rename_i ys hys
        obtain⟨he,hz'⟩:=wh hys
        cases he
        subst hz'
        refine fin _ ne (WW Ox) (λku => ?_) h
        cases Ox with
        | vB=>cases ku
        | tight _ _ _ _ _ _ q=>exact q ku
       ·exact h.elim
      ·exact fin [] false (YO Ox) nofun h
      ·exact h.elim
     ·simp only at h
      split at h
      ·rename_i ys' hys
       obtain⟨he,hz'⟩:=wh hys
       grind
      ·exact h.elim
    ·exact absurd h zj
  ·exact absurd h zj
theorem zaQ{l:zn}{v:Value}(h:RD O (.qj .str l) v):Cel O (.int .u8) (bytesOf l) v:=by
 have hv:=h.jq
 subst hv
 have B:(bytesOf l).length=l.length:=by simp[bytesOf]
 have cm:(⟨l.toArray⟩:ByteArray).size=l.length:=zY
 refine⟨Lib.strCells ⟨l.toArray⟩,λi=>[.int .u8 ((bytesOf l)[i]?.getD 0)],?_,λi hi => ?_,λP => ?_,λP => ?_,λP => ?_⟩
 ·have gen:∀ (n:Nat),n<=l.length->eK (λi=>[zP .u8 ((bytesOf l)[i]?.getD 0)]) n=(l.take n).map λb=>zP .u8 b.toNat:=by
   intro n
   induction n with
   | zero=>intro _; rfl
   | succ n ih =>
    intro hn
    have wO:n<l.length:=hn
    rw[eK,ih (Z),qJ wO,List.map_append]
    simp[bytesOf,zN wO]
  rw[B,gen _ (zE _),List.take_length]
  rfl
 ·have:(bytesOf l)[i]?.getD 0=(bytesOf l)[i]:=by rw[zN hi]; rfl
  show Rc O.w O.ok (.int .u8) (bytesOf l)[i] [zP .u8 ((bytesOf l)[i]?.getD 0)]
  rw[this]
  exact .int .u8 _
 ·show(pure (⟨l.toArray⟩:ByteArray).size:Sem Nat).run P O.w=_
  rw[cm,B]; rfl
 ·rw[B,<- cm]; exact qP _ _ _
 ·rw[B,<- cm]; exact qP _ _ _
theorem YZ{t t2 ty:Nat}{s x:Option D}{sv v:Value}{d:Option D}{qm:St}(hI:Inv O)(hs:∀ z,s=some z->RD O z sv)(U:∀ z,x=some z->RD O z v)
  (h:(qu (Zc c t t2 s x) O.st).leads (d,qm)):wy c.P (do zJ (.value (<- zL #[t,t2] ty #[sv,v]))) O d qm:=by
 unfold Zc at h
 split at h
 ·exact absurd h zj
 ·rename_i et het
  have hu:=yW het
  split at h
  ·rename_i bytes Ou Du EL
   cases J:cF c et (.int .u8)&&xE 0 bytes&&(zeroOf c et (.int .u8)).isSome with
   | false=>rw[J]at h; exact absurd h zj
   | true =>
    rw[J,cond_true]at h
    simp only[zI]at J
    obtain⟨⟨ja,X⟩,h3⟩:=J
    have hb0:0<bytes:=R X
    have hz:=zZ.1 h3
    split at h
    ·rename_i s l
     obtain⟨E,r,g1,g2,g3,g4,g5⟩:=Vb (t2:=t2) (ty:=ty) hI hu (.inr EL) ja (qh) Du hb0 hz (hs _ rfl) (ne:=false) (zaQ (U _ rfl)) (λe=>by cases e) h
     exact⟨E,.value r,r,by simp only[zH,g1]; rfl,.inl rfl,g2,g3,g4,g5⟩
    ·exact absurd h zj
  ·exact absurd h zj
end
open Go.RowKit
section
variable {c:Ctx} {O:KS}
theorem K6{t:Nat}(h:I1 c t=true):∃ k e,c.P.underlying t=some (.map k e)/\c.P.underlying k=some (.int .i64)/\c.P.underlying e=some .bool/\∀ w,(zeroValue e).run c.P w=.ok (.bool false) w:=by
 unfold I1 at h
 split at h
 ·rename_i k e ht
  simp only[zI]at h
  obtain⟨⟨h1,X⟩,h3⟩:=h
  refine⟨k,e,ht,?_,?_,λw => ?_⟩
  ·split at h1
   ·rename_i q hq; cases q<;>first | exact hq | cases h1
   ·cases h1
  ·split at X
   ·assumption
   ·cases X
  ·split at h3
   ·rename_i i hi
    split at h3
    ·rename_i z hz
     cases z
     ·simp[zeroValue,typeInfo,run_program,hi,hz]
     ·cases h3
    ·cases h3
   ·cases h3
 ·cases h
theorem keyOf_int{P P':Program}{k k':TypeId}(h:P.underlying k=some (.int .i64))(h':P'.underlying k'=some (.int .i64)):keyOf P k=keyOf P' k':=by
 funext v
 simp only[keyOf,h,h',mapKey]
theorem Ta{P P':Program}{e e':TypeId}(h:P.underlying e=some .bool)(h':P'.underlying e'=some .bool):(plainElem P e:Value->Option (DataW Unit×List MemPlace))=plainElem P' e':=by
 funext v
 simp only[plainElem,h,h']
theorem z0c{P P':Program}{k k' e e':TypeId}(h:P.underlying k=some (.int .i64))(h':P'.underlying k'=some (.int .i64))(he:P.underlying e=some .bool)(Mv:P'.underlying e'=some .bool)
  {w w':World} {b b' n:Nat} {D:DataW Unit} (ho:w.ownsMap P k (plainElem P e) b n D) (hw:w'.heap[b']? = w.heap[b]?):w'.ownsMap P' k' (plainElem P' e') b' n D:=by
 obtain⟨es,clock,h1,X,h3,h4⟩:=ho
 have e1:(xI P k (plainElem P e):MapEntry->Option (Lit×DataW Unit))=xI P' k' (plainElem P' e'):=by
  funext x; simp only[xI,keyOf_int h h',Ta he Mv]
 have e2:(xJ P k (plainElem P e):MapEntry->Lit×DataW Unit)=xJ P' k' (plainElem P' e'):=by
  funext x; simp only[xJ,e1]
 refine⟨es,clock,hw.trans h1,⟨X.size,X.stamped,λx U => ?_⟩,h3,by rw[<- e2]; exact h4⟩
 rw[<- e1]; exact X.reads x U
theorem Cf{P:Program}{k e:TypeId}(h:P.underlying k=some (.int .i64))(he:P.underlying e=some .bool){w:World}{b:Nat}{o:Obj}{l:List Int}{D:DataW Unit}(J:w.heap[b]? = some o)
  (ho:w.ownsMap P k (plainElem P e) b l.length D) (hD:Maps.IsMap D) (hr:∀ n,(Lit.int .i64 n).wf=true->D.atKey (.int .i64 n) (.lit (.bool false))=.lit (.bool (l.contains n))):z0V o l :=
 λ_ _ _ h' Mv _ _ hw'=>⟨D,z0c h h' he Mv ho (hw'.trans J.symm),hD,hr⟩
theorem z7g{P:Program}{e:TypeId}(he:P.underlying e=some .bool){v:Value}{b:Bool}{ps:List MemPlace}(h:plainElem (H:=Unit) P e v=some (.lit (.bool b),ps)):v=.bool b:=by
 unfold plainElem at h
 rw[he]at h
 cases v<;>simp at h
 exact congrArg _ h.1
theorem DN{t:Nat}{r:Option Operand}{f:Operand->Value}{d:Option D}{qm:St}(hI:Inv O)(h:(qu (Kc c t r) O.st).leads (d,qm)) :
  wy c.P (do zJ (.value (<- Instr.makeMap t (r.map f)))) O d qm:=by
 unfold Kc at h
 cases J:I1 c t&&r.isNone with
 | false=>rw[J]at h; exact absurd h zj
 | true =>
  rw[J,cond_true]at h
  simp only[zI]at J
  obtain⟨h1,X⟩:=J
  cases r with
  | some r=>cases X
  | none =>
  obtain⟨rfl,rfl⟩:=h
  obtain⟨k,e,ht,hk,he,_⟩:=K6 h1
  have g:=nA.alloc O.w (.map #[] 0)
  have U:=ZM (n:=0) (x:=.var (.Cm [])) hI g
  refine⟨O.add _ 0 (.var (.Cm [])),.value (.map (some O.w.heap.size)),_,?_,.inl rfl,rfl,Uo hI g ?_,U,λ_ he=>by cases he; exact .yY _ _ 0 _ Xf (tZ hI)⟩
  ·simp[KS.add,run_makeMap]
  ·exact⟨O.w.heap.size,.map #[] 0,tZ hI,g.new,Cf hk he (w:=O.w.alloc (.map #[] 0)) (b:=O.w.heap.size) g.new (World.ownsMap_made O.w c.P k (plainElem c.P e)) Go.Maps.isMap_empty λn _=>rfl⟩
theorem I5{t:Nat}{ok:Bool}{m x:Option D}{v u:Value}{d:Option D}{qm:St}(hI:Inv O)(hm:∀ z,m=some z->RD O z v)(U:∀ z,x=some z->RD O z u)
  (h:(qu (GH c t ok m x) O.st).leads (d,qm)):wy c.P (do zJ (.value (<- Instr.lookup t v u ok))) O d qm:=by
 unfold GH at h
 cases J:I1 c t && !ok with
 | false=>rw[J]at h; exact absurd h zj
 | true =>
  rw[J,cond_true]at h
  simp only[zI]at J
  obtain⟨h1,X⟩:=J
  have ja:ok=false:=by cases ok<;>first | rfl | cases X
  subst ja
  obtain⟨k,e,ht,hk,he,hz⟩:=K6 h1
  have hz:=hz O.w
  split at h
  ·rename_i b q n hq
   cases hq64:Gu q with
   | false=>rw[hq64]at h; exact absurd h zj
   | true =>
   rw[hq64,cond_true]at h
   have hq6:q=.i64:=by cases q<;>first | rfl | cases hq64
   subst hq6
   have hu:=kF hq U
   simp only[qu]at h
   split at h
   ·rename_i l B
    obtain⟨hw,rfl,rfl⟩:=h
    cases hm _ rfl with
    | yY _ blk m' d' V hp =>
     obtain⟨rF,o,g1,g2,g3⟩:=(hI.blk b _ B:Maps O b l)
     rw[hp]at g1
     cases g1
     obtain⟨D,ho,hD,hr⟩:=g3 c.P k e hk he O.w blk g2
     obtain⟨rv,ps,jT,hv⟩:=ho.lookup (qQ hk) ht hz (plainElem_bool he false) (qM hk hw)
     rw[hr n hw]at hv
     have:=z7g he hv
     subst this
     subst hu
     exact wy.pure hI jT .bool
   ·exact h.elim
  ·rename_i q n hq
   cases hq64:Gu q with
   | false=>rw[hq64]at h; exact absurd h zj
   | true =>
   rw[hq64,cond_true]at h
   have hq6:q=.i64:=by cases q<;>first | rfl | cases hq64
   subst hq6
   have hu:=kF hq U
   subst hu
   obtain⟨hw,rfl,rfl⟩:=h
   cases hm _ rfl
   exact wy.pure hI (by simpa using Go.Maps.look_nil false (qQ hk) ht hz (qM hk hw)) .bool
  ·exact absurd h zj
theorem LJ{D:DataW Unit}{l:List Int}(hD:Go.Maps.IsMap D)(hr:∀ n,(Lit.int .i64 n).wf=true->D.atKey (.int .i64 n) (.lit (.bool false))=.lit (.bool (l.contains n)))(m:Int) :
  ∀ n,(Lit.int .i64 n).wf=true->(D.put (.int .i64 m) (.lit (.bool true))).atKey (.int .i64 n) (.lit (.bool false))=.lit (.bool ((l++[m]).contains n)):=λn hn=>by
 by_cases e:n=m
 ·subst e
  rw[Go.Maps.atKey_put_same hD (show WideAt.IsKeyLit (.int _ _)from trivial)]
  simp
 ·rw[Go.Maps.atKey_put_other (by simpa using e),hr n hn]
  simp[e]
theorem GL{t:Nat}{m x y:Option D}{v u z:Value}{d:Option D}{qm:St}(hI:Inv O)(hm:∀ z,m=some z->RD O z v)(U:∀ z,x=some z->RD O z u)(hy:∀ q,y=some q->RD O q z)
  (h:(qu (GK c t m x y) O.st).leads (d,qm)):wy c.P (do Instr.mapUpdate t v u z; zJ .skip) O d qm:=by
 unfold GK at h
 cases J:I1 c t with
 | false=>rw[J]at h; exact absurd h zj
 | true =>
  rw[J,cond_true]at h
  obtain⟨k,e,ht,hk,he,_⟩:=K6 J
  split at h
  ·rename_i b q n yb hq hyb
   cases hq64:Gu q with
   | false=>rw[hq64]at h; exact absurd h zj
   | true =>
   rw[hq64,cond_true]at h
   have hq6:q=.i64:=by cases q<;>first | rfl | cases hq64
   subst hq6
   have hu:=kF hq U
   have hz:=Zd hyb hy
   simp only[qu]at h
   split at h
   ·rename_i l B
    obtain⟨⟨rfl,hw,hlen⟩,h⟩:=h
    simp only[T.leads,Prod.mk.injEq]at h
    obtain⟨rfl,rfl⟩:=h
    cases hm _ rfl with
    | yY _ blk m' d' V hp =>
     obtain⟨rF,o,g1,g2,g3⟩:=(hI.blk b _ B:Maps O b l)
     rw[hp]at g1
     cases g1
     obtain⟨D,ho,hD,hr⟩:=g3 c.P k e hk he O.w blk g2
     obtain⟨w',jT,hown,hg⟩:=ho.update (qQ hk) ht (by simp[maxLen]; omega) (qM hk hw) (plainElem_bool he true)
     subst hu hz
     have Yh:Alike (.var (.Cm l)) (.var (.Cm (l++[n]))):=trivial
     refine⟨O.Ud b w' (.var (.Cm (l++[n]))),.skip,undef,?_,.inr ⟨rfl,rfl⟩,rfl,Lb hI hp B Yh hg ?_,Jz hI hp B Yh hg,λ_ he=>by cases he⟩
     ·simp[KS.Ud,jT]
     ·obtain⟨o',ho'⟩:∃ o',w'.heap[blk]? = some o':=⟨_,Array.getElem?_eq_getElem hown.lt⟩
      exact⟨blk,o',hp,ho',Cf hk he ho' (by simpa using hown) (hD.put _ _) (LJ hD hr n)⟩
   ·exact h.elim
  ·exact absurd h zj
theorem MR{op:BinOp}{t:Nat}{px:Operand}{x:Option D}{v:Value}{d:Option D}{qm:St}{z:eH}(hI:Inv O)(U:∀ z,x=some z->RD O z v)
  (hz:(qu z O.st).leads (d,qm)->wy c.P (do zJ (.value (<- (do eqGuard op t px (.const (.slice none 0 0)) v (.slice none 0 0); binOp op t v (.slice none 0 0))))) O d qm)
  (h:(qu (DV c op t x z) O.st).leads (d,qm)):wy c.P (do zJ (.value (<- (do eqGuard op t px (.const (.slice none 0 0)) v (.slice none 0 0); binOp op t v (.slice none 0 0))))) O d qm:=by
 unfold DV at h
 split at h
 ·rename_i e hu
  have q1:∀ (x:Option Addr) (l k:Nat),(do eqGuard .eql t px (.const (.slice none 0 0)) (.slice x l k) (.slice none 0 0); binOp .eql t (.slice x l k) (.slice none 0 0):Sem Value).run c.P O.w=.ok (.bool x.isNone) O.w:=λx l k=>by
   have:=run_eql_slice_nil (P:=c.P) O.w t e x l k hu
   simp only[eqGuard]
   simpa using this
  have q2:∀ (x:Option Addr) (l k:Nat),(do eqGuard .neq t px (.const (.slice none 0 0)) (.slice x l k) (.slice none 0 0); binOp .neq t (.slice x l k) (.slice none 0 0):Sem Value).run c.P O.w=.ok (.bool !x.isNone) O.w:=λx l k=>by
   have:=run_neq_slice_nil (P:=c.P) O.w t e x l k hu
   simp only[eqGuard]
   simpa using this
  split at h
  ·unfold bb at h
   obtain⟨rfl,rfl⟩:=h
   cases U _ rfl
   exact wy.pure hI (q1 none 0 0) RD.bool
  ·rename_i b
   unfold bb at h
   obtain⟨rfl,rfl⟩:=h
   cases U _ rfl with
   | tc _ _ _ _ hr ht hf =>
    cases b with
    | true=>obtain⟨blk,off,cap,rfl,_⟩:=ht rfl; exact wy.pure hI (q1 _ _ _) RD.bool
    | false=>have:=hf rfl; subst this; exact wy.pure hI (q1 _ _ _) RD.bool
  ·unfold bb at h
   obtain⟨rfl,rfl⟩:=h
   cases U _ rfl
   exact wy.pure hI (q2 none 0 0) RD.bool
  ·rename_i b
   unfold bb at h
   obtain⟨rfl,rfl⟩:=h
   cases U _ rfl with
   | tc _ _ _ _ hr ht hf =>
    cases b with
    | true=>obtain⟨blk,off,cap,rfl,_⟩:=ht rfl; exact wy.pure hI (q2 _ _ _) RD.bool
    | false=>have:=hf rfl; subst this; exact wy.pure hI (q2 _ _ _) RD.bool
  ·exact hz h
 ·exact hz h
theorem MQ{op:BinOp}{t:Nat}{px:Operand}{x:Option D}{v:Value}{d:Option D}{qm:St}{z:eH}(hI:Inv O)(U:∀ z,x=some z->RD O z v)
  (hz:(qu z O.st).leads (d,qm)->wy c.P (do zJ (.value (<- (do eqGuard op t px (.const (.pointer none)) v (.pointer none); binOp op t v (.pointer none))))) O d qm)
  (h:(qu (DU c op t x z) O.st).leads (d,qm)):wy c.P (do zJ (.value (<- (do eqGuard op t px (.const (.pointer none)) v (.pointer none); binOp op t v (.pointer none))))) O d qm:=by
 unfold DU at h
 split at h
 ·rename_i e hu
  have hp:c.P.underlying t=some (.pointer (c.P.pointee t)):=by unfold Program.pointee; rw[hu]
  have q1:∀ (x:Option Addr),(do eqGuard .eql t px (.const (.pointer none)) (.pointer x) (.pointer none); binOp .eql t (.pointer x) (.pointer none):Sem Value).run c.P O.w=.ok (.bool x.isNone) O.w:=λx=>by
   have:=run_eql_pointer_nil (P:=c.P) O.w t x hp
   simp only[eqGuard]
   simpa using this
  have q2:∀ (x:Option Addr),(do eqGuard .neq t px (.const (.pointer none)) (.pointer x) (.pointer none); binOp .neq t (.pointer x) (.pointer none):Sem Value).run c.P O.w=.ok (.bool !x.isNone) O.w:=λx=>by
   have:=run_neq_pointer_nil (P:=c.P) O.w t x hp
   simp only[eqGuard]
   simpa using this
  split at h
  ·unfold bb at h; obtain⟨rfl,rfl⟩:=h; cases U _ rfl; exact wy.pure hI (q1 none) RD.bool
  ·unfold bb at h; obtain⟨rfl,rfl⟩:=h; cases U _ rfl; exact wy.pure hI (q1 _) RD.bool
  ·unfold bb at h; obtain⟨rfl,rfl⟩:=h; cases U _ rfl; exact wy.pure hI (q1 _) RD.bool
  ·unfold bb at h; obtain⟨rfl,rfl⟩:=h; cases U _ rfl; exact wy.pure hI (q2 none) RD.bool
  ·unfold bb at h; obtain⟨rfl,rfl⟩:=h; cases U _ rfl; exact wy.pure hI (q2 _) RD.bool
  ·unfold bb at h; obtain⟨rfl,rfl⟩:=h; cases U _ rfl; exact wy.pure hI (q2 _) RD.bool
  ·exact hz h
 ·exact hz h
theorem HX{t:Nat}{d:Option D}{qm:St}{z:eH}(hI:Inv O)(hz:(qu z O.st).leads (d,qm)->wy c.P (do zJ (.value (<- zQ t 0 #[]))) O d qm)
  (h:(qu (Us c t z) O.st).leads (d,qm)):wy c.P (do zJ (.value (<- zQ t 0 #[]))) O d qm:=by
 unfold Us at h
 split at h
 ·exact hz h
 ·rename_i et het
  split at h
  ·rename_i e he
   cases J:cF c et e&&(zeroOf c et e).isSome with
   | false=>rw[J]at h; exact hz h
   | true =>
    rw[J,cond_true]at h
    simp only[zI]at J
    obtain⟨rfl,rfl⟩:=h
    have hu:=yW het
    obtain⟨hs,_⟩:=ki J.1
    have g:=nA.alloc O.w (.cells #[] et)
    have jT:(zQ t 0 #[]).run c.P O.w=.ok (.slice (some ⟨O.w.heap.size,0,none⟩) 0 0) (O.w.alloc (.cells #[] et)):=by
     obtain⟨y,hy⟩:=zZ.1 J.2
     obtain⟨i,zv,Dy,JI,hi3⟩:=iu (O:=O) hy
     simp[zQ,zH,run_underlying hu,Y,run_sizeOf hs,qH,newRow]
     grind
    exact⟨O.qj _,.value (.slice (some ⟨O.w.heap.size,0,none⟩) 0 0),_,by simp only[zH,jT,Y]; rfl,.inl rfl,rfl,du hI g,Wx hI g,λ_ he=>by
     cases he
     exact .tc e [] true _ (.mf e _) (λ_=>⟨_,_,_,rfl,λ_=>rfl⟩) nofun⟩
  ·exact hz h
end
end Go.AM
namespace Go.AM
variable [gy]
section
variable {c:Ctx} {O:KS}
theorem U1{places:List (Nat×Nat)}{pf:Nat->Option (Nat×Nat)}(hpf:∀ (i:Nat) p,places[i]? = some p->pf i=some p){F:Operand->Option D}{G:Operand->Value}(hF:∀ x d,F x=some d->RD O d (G x)):∀ (L:List (Nat×Operand)) (cells r:List D) (cs:Array Value),
  sD places (L.map λp=>(p.1,F p.2)) cells=some r->wP O cells cs.toList->(∀ d∈cells,d.one=true) ->
  ∃ nd,qH pf cs (L.map λp=>(p.1,G p.2))=some nd/\wP O r nd.toList/\∀ d∈r,d.one=true
 | [],cells,r,cs,h,hr,ho=>by
  simp only[List.map_nil,sD,Option.some.injEq]at h
  subst h
  exact⟨cs,rfl,hr,ho⟩
 | (i,x)::L,cells,r,cs,h,hr,ho=>by
  simp at h
  cases U:F x with
  | none=>rw[U]at h; simp[sD]at h
  | some d =>
   rw[U]at h
   simp only[sD]at h
   split at h
   ·rename_i off n hp
    cases J : !d.bQ&&qL n (xz d).length&&Nat.ble (off+n) cells.length with
    | false=>grind
    | true =>
     rw[J,cond_true]at h
     simp only[zI,Bool.not_eq_true']at J
     obtain⟨⟨h1,X⟩,h3⟩:=J
     have h2':n=(xz d).length:=zF X
     have h3':=R h3
     have V:=hF x d U
     have hfd:=cR V h1
     have MD:(G x).cells.toList.length=n:=by rw[<- hfd.1]; exact h2'.symm
     have hle:off+n<=cs.size:=by have:=hr.1; simp at this; omega
     have hn:=Z6 hr hfd off n
     obtain⟨nd,g1,g2,g3⟩:=U1 hpf hF L _ r (cs.toList.take off++(G x).cells.toList++cs.toList.drop (off+n)).toArray h (wa) (by
      intro y hy
      simp only[qZ]at hy
      rcases hy with(hy | hy) | hy
      ·grind
      ·exact cQ V y hy
      ·exact ho y (xD hy))
     refine⟨nd,?_,g2,g3⟩
     simp
     rw[Fz (hpf _ _ hp) MD hle]
     exact g1
   ·cases h
theorem LY{t:Nat}{L:List (Nat×Operand)}{F:Operand->Option D}{G:Operand->Value}{d:Option D}{qm:St}(hI:Inv O)(hF:∀ x d,F x=some d->RD O d (G x))
  (h:(qu (D4 c t (L.map λp=>(p.1,F p.2))) O.st).leads (d,qm)):wy c.P (do zJ (.value (<- Instr.build t (L.map λp=>(p.1,G p.2)).toArray))) O d qm:=by
 unfold D4 at h
 split at h
 ·rename_i fs hu
  split at h
  ·rename_i z places hz hp
   split at h
   ·rename_i l B
    rw[dR]at h
    obtain⟨rfl,rfl⟩:=h
    obtain⟨i,zv,h1,X,h3⟩:=ta hz
    have hzr:=h3.rd O
    obtain⟨nd,g1,g2,g3⟩:=U1 (pf:=(places.toArray[·]?)) (λi p hp=>by simpa using hp) hF L z l zv.cells B (cR hzr rfl) (cQ hzr)
    have J:c.P.built t (L.map λp=>(p.1,G p.2))=some nd:=by
     unfold Program.built
     grind
    refine wy.pure hI (run_build O.w t _ nd (by simpa using J)) ?_
    have:=RD.agg l nd.toList g2.1 g3 g2.2
    omega
   ·exact absurd h zj
  ·exact absurd h zj
 ·rename_i k e hu
  split at h
  ·rename_i z ie hz hp
   split at h
   ·rename_i l B
    obtain⟨rfl,rfl⟩:=h
    obtain⟨i,zv,h1,X,h3⟩:=ta hz
    have hzr:=h3.rd O
    obtain⟨nd,g1,g2,g3⟩:=U1 (pf:=λi=>some (i*ie.size,ie.size)) (λi p hp=>by
     rw[qR]at hp
     cases hr:(List.range k)[i]? with
     | none=>grind
     | some j =>
      rw[hr]at hp
      obtain⟨wO,rfl⟩:=zA.1 hr
      simpa using hp) hF L z l zv.cells B (cR hzr rfl) (cQ hzr)
    have J:c.P.built t (L.map λp=>(p.1,G p.2))=some nd:=by
     unfold Program.built
     grind
    refine wy.pure hI (run_build O.w t _ nd (by simpa using J)) ?_
    have:=RD.agg l nd.toList g2.1 g3 g2.2
    omega
   ·exact absurd h zj
  ·exact absurd h zj
 ·exact absurd h zj
theorem Bg{a:Act}{o:Oper}{p:Operand}(ho:o.op=.nilCheck p){x:Option D}{d:Option D}{qm:St}(hI:Inv O)(U:∀ z,x=some z->RD O z (a.eval p))
  (h:(qu (VV x) O.st).leads (d,qm)):wy c.P (execOp a.eval o) O d qm:=by
 have key:∀ z v,RD O z v->a.eval p=v->(∀ b:Option Addr,v=.pointer b->b≠none)->((∃ b,v=.pointer b)\/∃ g q l,v=.func (.func g) q l)->wy c.P (execOp a.eval o) O (some z) O.st:=by
  intro z v hz hv hn hc
  have:execOp a.eval o=zJ (.value v):=by
   rcases hc with⟨b,rfl⟩ | ⟨g,q,l,rfl⟩
   ·cases b with
    | none=>grind
    | some b=>simp only[execOp,ho,hv]
   ·simp only[execOp,ho,hv]
  rw[this]
  exact wy.val hI λ_ he=>by cases he; exact hz
 unfold VV at h
 split at h
 all_goals try exact absurd h zj
 all_goals
  rw[dR]at h; obtain⟨rfl,rfl⟩:=h
  have hr:=U _ rfl
  generalize hv:a.eval p=v at hr
  refine key _ v hr hv ?_ ?_
  ·intro b J; cases hr<;>first | (cases J<;>nofun) | (rename_i f l vs _ _; obtain⟨g,q,l',e⟩:=Ga f vs; rw[e]at J; cases J)
  ·cases hr<;>first | exact .inl ⟨_,rfl⟩ | exact .inr (Ga _ _)
theorem MP{op:BinOp}{t:Nat}{px:Operand}{x:Option D}{v:Value}{d:Option D}{qm:St}(hI:Inv O)(U:∀ z,x=some z->RD O z v)
  (h:(qu (DS c op t x) O.st).leads (d,qm)):wy c.P (do zJ (.value (<- (do eqGuard op t px (.const .nilIface) v .nilIface; binOp op t v .nilIface)))) O d qm:=by
 unfold DS at h
 split at h
 ·rename_i ms hu
  have hm:c.P.underlying t=some (.interface (c.P.methodsAt t)):=by unfold Program.methodsAt; rw[hu]
  have g1:∀ w,(eqGuard op t px (.const .nilIface) .nilIface .nilIface).run c.P w=.ok () w:=λw=>by cases op<;>simp[eqGuard]
  have g2:∀ u y w,(eqGuard op t px (.const .nilIface) (.iface u y) .nilIface).run c.P w=.ok () w:=λu y w=>by cases op<;>simp[eqGuard]
  split at h
  ·unfold bb at h
   obtain⟨rfl,rfl⟩:=h
   cases U _ rfl
   exact wy.pure hI (by simp only[zH,g1,Y,run_eql_nil_nil _ _ hm]) RD.bool
  ·unfold bb at h
   obtain⟨rfl,rfl⟩:=h
   cases U _ rfl
   exact wy.pure hI (by simp only[zH,g2,Y,run_eql_held_nil _ _ _ _ hm]) RD.bool
  ·unfold bb at h
   obtain⟨rfl,rfl⟩:=h
   cases U _ rfl
   exact wy.pure hI (by simp only[zH,g1,Y,run_neq_nil_nil _ _ hm]) RD.bool
  ·unfold bb at h
   obtain⟨rfl,rfl⟩:=h
   cases U _ rfl
   exact wy.pure hI (by simp only[zH,g2,Y,run_neq_held_nil _ _ _ _ hm]) RD.bool
  ·exact absurd h zj
 ·exact absurd h zj
theorem Yo{x:Option D}{v:Value}{xt at':Nat}{ok:Bool}{d:Option D}{qm:St}(hI:Inv O)(U:∀ z,x=some z->RD O z v)
  (h:(qu (QN c x at' ok) O.st).leads (d,qm)):wy c.P (do zJ (.value (<- Instr.typeAssert v xt at' ok))) O d qm:=by
 unfold QN at h
 split at h
 ·exact absurd h zj
 ·exact absurd h zj
 ·rename_i ty hni hu
  split at h
  ·rename_i t e
   cases J:qL t at'&&ok with
   | false=>rw[J]at h; exact absurd h zj
   | true =>
    rw[J,cond_true,dR]at h
    obtain⟨rfl,rfl⟩:=h
    simp only[zI]at J
    have:=zF J.1
    subst this
    obtain rfl:=J.2
    cases U _ rfl with
    | iface _ _ u TA =>
     refine wy.pure hI (v:=.tuple #[u,.bool true]) ?_ ?_
     ·cases ty<;>first | (exact(hni _ rfl).elim) | (simp[Instr.typeAssert,run_underlying hu])
     ·have:=wP.cons TA (wP.cons (RD.bool (O:=O) (b:=true)) wP.nil)
      exact .fj _ [u,.bool true] this.1 this.2
  ·exact absurd h zj
theorem GI{t:Nat}{x:Option D}{v:Value}{d:Option D}{qm:St}(hI:Inv O)(U:∀ z,x=some z->RD O z v)
  (h:(qu (XM c t x) O.st).leads (d,qm)):wy c.P (do zJ (.value (<- Instr.makeInterface t v))) O d qm:=by
 unfold XM at h
 cases hu:c.P.underlying t with
 | none=>rw[hu]at h; exact absurd h zj
 | some u =>
  rw[hu]at h
  cases u<;>simp only at h
  all_goals try exact absurd h zj
  all_goals
   split at h
   ·rw[dR]at h; obtain⟨rfl,rfl⟩:=h
    have hc:c.P.concrete t=true:=by unfold Program.concrete; rw[hu]
    exact wy.pure hI (run_makeInterface O.w t v hc) (.iface t _ v (U _ rfl))
   ·exact absurd h zj
theorem z52{e:Ty}{x y:D}{v:Value}{l:List (den e)}(hI:Inv O)(U:RD O x v)(h:(ZF O.st x).leads y)(B:IU e y=some l):Src O e l v:=by
 rcases Ua hI U h with⟨rfl,_⟩ | ⟨e',ys,rfl,hs,_⟩
 ·cases y with
  | qj σ z =>
   obtain⟨he,hz⟩:=wh (a:=σ) (b:=.sl e) B
   cases he
   cases hz
   exact Ef U
  | tight e' z ne =>
   obtain⟨he,hz⟩:=wh (a:=.sl e') (b:=.sl e) B
   cases he
   cases hz
   exact WW U
  | wF =>
   simp only[IU,Option.some.injEq]at B
   subst B
   exact YO U
  | _=>simp[IU]at B
 ·obtain⟨he,hz⟩:=wh (a:=.sl e') (b:=.sl e) B
  grind
theorem Gd{s t e:Nat}{x:Option D}{v:Value}{d:Option D}{qm:St}(hI:Inv O)(U:∀ z,x=some z->RD O z v)(hs:c.P.underlying s=some (.slice e))(ht:c.P.underlying t=some .string)
  (h:(qu (JQ c e x) O.st).leads (d,qm)):wy c.P (do zJ (.value (<- convert s t v))) O d qm:=by
 unfold JQ at h
 split at h
 ·rename_i z he
  rw[so]at h
  obtain⟨h,rfl⟩:=h
  obtain⟨y,h1,X⟩:=T.xf.1 h
  split at X
  ·rename_i l B
   cases X
   have DC:=z52 hI (U _ rfl) h1 B
   obtain⟨a,cap,f,rfl,ju,hn,g1,g2⟩:=DC.ex
   have jT:(convert s t (.slice a l.length cap)).run c.P O.w=.ok (.string (strOfNums l)) O.w:=by
    cases a with
    | none =>
     obtain⟨rfl,rfl⟩:=hn rfl
     exact run_convert_bytes_nil O.w s e hs he 0 0 t ht
    | some p =>
     rcases g2 p rfl with⟨rfl,rfl⟩ | ⟨hp,_,hc⟩
     ·have h0:(loadCells p 0).run c.P O.w=.ok (([]:List Int).map (zP .u8)).toArray O.w:=by
       rfl
      simp only[List.length_nil]
      rw[run_convert_bytes_string O.w s t e _ 0 0 hs he ht,run_bytesToString O.w _ 0 0 [] h0]
      rfl
     ·obtain⟨blk,o,sp⟩:=p
      subst hp
      refine run_convert_bytes_arg O.w s e hs he blk o l.length cap l rfl (λi hi => ?_) t ht
      have hf:=(g1 i hi).eB
      have:=hc i hi 0 (.int .u8 l[i]) (wa)
      have e1:o+i*Ty.size (.int .u8)+0=o+i:=by simp[Ty.size]
      grind
   refine wy.pure hI jT ?_
   exact .str
  ·exact X.elim
 ·exact absurd h zj
theorem Dc{s t:Nat}{x:Option D}{v:Value}{d:Option D}{qm:St}(hI:Inv O)(U:∀ z,x=some z->RD O z v)
  (h:(qu (convertOp c s t x) O.st).leads (d,qm)):wy c.P (do zJ (.value (<- convert s t v))) O d qm:=by
 unfold convertOp at h
 split at h
 ·rename_i e hs ht
  exact Gd hI U hs ht h
 ·rename_i k0 k hs ht
  split at h
  ·rename_i k1 n hk
   have:=kF hk U
   subst this
   obtain⟨rfl,rfl⟩:=h
   exact wy.pure hI (by simp[convert,run_underlying hs,run_underlying ht,Conv.intToInt]) RD.int
  ·exact absurd h zj
 ·rename_i hs ht
  split at h
  ·rename_i s' hk
   have:=Xh hk U
   subst this
   obtain⟨rfl,rfl⟩:=h
   exact wy.pure hI (by simp[convert,run_underlying hs,run_underlying ht]) RD.str
  ·exact absurd h zj
 ·exact absurd h zj
end
section
variable {c:Ctx} {O:KS}
theorem T7{ty t t':Nat}{s x:Option D}{v u:Value}{d:Option D}{qm:St}(hI:Inv O)(hs:∀ z,s=some z->RD O z v)(U:∀ z,x=some z->RD O z u)
  (h:(qu (M7 c t s x) O.st).leads (d,qm)):wy c.P (do zJ (.value (<- Builtin.copy_ #[t,t'] ty #[v,u]))) O d qm:=by
 unfold M7 at h
 split at h
 ·rename_i et het
  split at h
  ·rename_i k b vn k' off len z hu cm
   cases hk:decide (k'=k)with
   | false=>rw[hk]at h; exact absurd h zj
   | true =>
    rw[hk,cond_true]at h
    obtain rfl:k'=k:=uC hk
    simp only[qu]at h
    obtain⟨y,h1,X⟩:=T.xf.1 h
    split at X
    ·rename_i l B
     unfold z1r at X
     split at X
     ·rename_i ef e' Uf J
      split at X
      ·rename_i xs Gr
       obtain⟨he,hxx⟩:=wh (a:=.sl e') (b:=.sl (.int k')) Gr
       cases he
       obtain rfl:xs=Uf:=hxx
       obtain⟨⟨DD,B4⟩,X⟩:=X
       cases X
       subst DD
       have DC:=z52 hI (U _ rfl) h1 B
       obtain⟨a,cap,f,rfl,ju,hn,g1,g2⟩:=DC.ex
       have hue:=yW het
       have z2D:(c.P.info? et).map (·.size)=some 1:=cm
       have hrd:=hs _ rfl
       cases hrd with
       | ms _ _ _ _ _ cap0 a0 hb0 hcap0 Yy hsp0 hh =>
       have hm:=hh xs J
       have Yz:((zR len l).map (zP k')).length=Nat.min l.length len:=by rw[List.length_map,zU]; exact Nat.min_comm _ _
       have zbD:min len (zS l)=Nat.min l.length len:=Nat.min_comm _ _
       by_cases h0:min len (zS l)=0
       ·-- nothing goes over
        have jT:=run_copy_none (P:=c.P) O.w t t' ty et a0 a len cap0 l.length cap hue z2D (by rw[<- zbD]; exact h0)
        have UP:yE off len xs l=xs:=by
         unfold yE
         have ht:zR len l=[]:=zM (by rw[zU]; exact h0)
         rw[ht,h0,List.append_nil,xH,List.take_append_drop]
        have oH:O.st.set b (.arr vn (.int k') (yE off len xs l))=O.st:=by
         rw[UP]
         obtain⟨wO,hge⟩:=zA.1 J
         rw[<- hge,List.set_getElem_self]
        rw[oH]
        refine⟨O,.value (goInt 0),goInt 0,by simp[jT],.inl rfl,rfl,hI,Ext.refl O,λd' eR => ?_⟩
        cases eR
        rw[h0]
        exact RD.int
       ·obtain⟨hle,hm⟩:=hm
        rcases hm with⟨hz,_⟩ | ⟨blk,n,o,ztQ,hp,hv,To,hc2,hc3⟩
        ·omega
        ·cases hv
         have ho:o=off:=by
          rcases hc3 with h | h
          ·omega
          ·simpa[Ty.size]using h
         subst ho
         have hl0:l≠[]:=λh=>h0 (by rw[h]; simp)
         obtain⟨p,rfl⟩:∃ p,a=some p:=by
          cases a with
          | none=>grind
          | some p=>simp
         rcases g2 p rfl with⟨h,_⟩ | ⟨V7,_,hc⟩
         ·grind
         obtain⟨pb,po,psp⟩:=p
         simp only at V7
         subst V7
         obtain⟨_,z2j⟩:=hI.blk b _ J
         rcases z2j with⟨_,hpn⟩ | ⟨rF,n',V3,T,k1,k2,k3,k4,kr,g,k5⟩
         ·grind
         rw[hp]at k1
         cases k1
         have hn':zS xs<=V3.size:=by rw[k3]; simpa[Ty.size]using k4
         have fc:∀ (i:Nat) (hi:i<zS xs),V3[i]? = some (.int k' xs[i]):=by
          intro i hi
          obtain⟨q1,q2⟩:=k5 i hi
          have:=q2 0 (.int k' xs[i]) (by rw[q1.eB]; rfl)
          simpa[Ty.size]using this
         have zq6:((zR len l).map (zP k')).length<=len:=by simp; omega
         have jT:=run_copy_row c.P O.w t t' ty et blk o len cap0 ⟨pb,po,none⟩ l.length cap V3 T ((zR len l).map (zP k')) hue z2D k2 Yz
          (λj w hj=>by
           have Oq:j<(zR len l).length:=by have:=(zA.1 hj).1; simpa using this
           have hjl:j<l.length:=by simp at Oq; omega
           have e1:w=.int k' l[j]:=by
            grind
           have:=hc j hjl 0 (.int k' l[j]) (by rw[(g1 j hjl).eB]; rfl)
           have zdv:(⟨pb,po,none⟩:Addr).add j=⟨pb,po+j,none⟩:=by unfold Addr.add; split<;>simp_all
           rw[zdv,e1]
           simpa[Ty.size]using this)
          (Z) (λw hw=>by obtain⟨_,_,rfl⟩:=qX.1 hw; rfl)
         have hlen:zS (yE o len xs l)=zS xs:=by
          simp only[yE,zK,zU,qK]
          omega
         have Yh:Alike (.arr vn (.int k') xs) (.arr vn (.int k') (yE o len xs l)):=⟨rfl,zE _,λ_=>hlen.symm⟩
         let nd:Array Value:=(V3.toList.take o++(zR len l).map (zP k')++V3.toList.drop (o+((zR len l).map (zP k')).length)).toArray
         have B3:nd.size=n:=by
          simp only[nd,zY,zK,zU,qK,qG,List.length_map]at *
          omega
         have zi5:∀ (i:Nat) (hi:i<zS (yE o len xs l)),nd[i]? = some (.int k' (yE o len xs l)[i]):=by
          intro i hi
          have h1:=Ub (cs:=V3.toList) (us:=(zR len l).map (zP k')) (o:=o) (n:=((zR len l).map (zP k')).length) rfl (by simp; simp at zq6; omega) i
          have e1:nd[i]? = (V3.toList.take o++(zR len l).map (zP k')++V3.toList.drop (o+((zR len l).map (zP k')).length))[i]? := by simp[nd]
          have hm2:(List.map (zP k') (zR len l)).length=min len (zS l):=qw
          rw[hm2]at h1 e1
          have e2:(yE o len xs l)[i]? = if i<o then xs[i]? else if i<o+min len (zS l)then(zR len l)[i-o]? else xs[i]? := by
           unfold yE
           have hto:(zR o xs).length=o:=by simp; omega
           by_cases q1:i<o
           ·rw[if_pos q1,qI,zG (Z),List.getElem?_take,if_pos q1]
           ·rw[if_neg q1,qI,qC (Z),hto]
            by_cases q2:i<o+min len (zS l)
            ·rw[if_pos q2,zG (by simp; omega)]
            ·rw[if_neg q2,qC (by simp; omega),List.getElem?_drop,zU]
             congr 1; omega
          have e3:(yE o len xs l)[i]? = some (yE o len xs l)[i]:=zN hi
          rw[e1,h1]
          rw[e2]at e3
          have hix:i<zS xs:=by rw[<- hlen]; exact hi
          split
          ·rename_i q1
           rw[if_pos q1,zN hix]at e3
           rw[zV,fc i hix,Option.some.inj e3]
          ·rename_i q1
           rw[if_neg q1]at e3
           split
           ·rename_i q2
            rw[if_pos q2]at e3
            rw[qR,e3]
            rfl
           ·rename_i q2
            rw[if_neg q2,zN hix]at e3
            rw[zV,fc i hix,Option.some.inj e3]
         refine⟨O.upd b blk nd (.arr vn (.int k') (yE o len xs l)),.value (goInt (((zR len l).map (zP k')).length:Nat)),goInt (((zR len l).map (zP k')).length:Nat),(by rw[zH,jT]; rfl),.inl rfl,rfl,JB hI hp J Yh ?_,JA hI hp J Yh,λd' eR => ?_⟩
         ·refine⟨by simp[Ty.size],.inr ⟨blk,n,nd,T,hp,setRow_heap O.w blk V3 nd T (0,0) k2,B3,by simp[Ty.size]; omega,kr,λi=>[.int k' ((yE o len xs l).getD i 0)],λi hi => ?_⟩⟩
          have hg:(yE o len xs l).getD i 0=(yE o len xs l)[i]:=by simp[List.getD_eq_getElem?_getD,zN hi]
          show Rc _ _ (.int k') _ [zP k' ((yE o len xs l).getD i 0)]/\∀ (j:Nat) (v:Value),[zP k' ((yE o len xs l).getD i 0)][j]? = some v->_
          rw[hg]
          refine⟨.int k' _,λj w hj => ?_⟩
          cases j with
          | zero =>
           simp at hj
           subst hj
           simpa[Ty.size]using zi5 i hi
          | succ j=>simp at hj
         ·cases eR
          rw[zbD,<- Yz]
          exact RD.int
      ·exact X.elim
     ·exact X.elim
    ·exact X.elim
  ·exact absurd h zj
 ·exact absurd h zj
end
def gM(P:Program)(g:Nat)(args:Array Value)(w:World)(zD:Ending->World->Prop):Prop :=
 ((callFunc g args).run P w=.ok (.enter g args) w/\Calls P g args w zD)\/∃ v w',(callFunc g args).run P w=.ok (.value v) w'/\zD (.returned v) w'
theorem gM.mono{P:Program}{g:Nat}{args:Array Value}{w:World}{zD R':Ending->World->Prop}(h:gM P g args w zD)(hr:∀ e w,zD e w->R' e w):gM P g args w R':=by
 rcases h with⟨h1,X⟩ | ⟨v,w',h1,X⟩
 ·exact .inl ⟨h1,X.mono hr⟩
 ·exact .inr ⟨v,w',h1,hr _ _ X⟩
def jr(O:KS):HK->Ending->Prop
 | .ret ds,e=>∃ v,e=.returned v/\RD O (fy ds) v
 | .bC d,e=>∃ v,e=.panicked [{ v,recovered:=false }]/\RD O d v
abbrev z0R:=Nat->Array Value->World->(Ending->World->Prop)->Prop
def zoz(Dr:z0R)(g:Nat)(S:List D->St->T (HK×St)):Prop :=
 ∀ (O:KS) (args:List D) (xa:List Value) (rs:HK) (qm:St),(S args O.st).leads (rs,qm)->Inv O->wP O args xa ->
  Dr g xa.toArray O.w λe w'=>∃ E:KS,E.w=w'/\E.st=qm/\Inv E/\Ext O E/\jr E rs e
def EC(P:Program)(g:Nat)(S:List D->St->T (HK×St)):Prop :=
 ∀ (O:KS) (args:List D) (xa:List Value) (rs:HK) (qm:St),(S args O.st).leads (rs,qm)->Inv O->wP O args xa ->
  gM P g xa.toArray O.w λe w'=>∃ E:KS,E.w=w'/\E.st=qm/\Inv E/\Ext O E/\jr E rs e
section
variable {c:Ctx} {O:KS}
theorem RD.weaken{KU:Nat->Prop}(hs:∀ k,O.ok k->KU k){d:D}{v:Value}(h:RD O d v):RD { O with ok:=KU } d v:=by
 have UP:LC O.w O.w O.ok KU:=λk hk=>⟨hs k hk,rfl⟩
 induction h with
 | qj τ y cs h=>exact .qj τ y cs (h.mono UP)
 | tc e l b v h ht hf=>exact .tc e l b v (h.mono UP) ht hf
 | vB e a=>exact .vB e a
 | tight e l ne blk off f ku ja h hc=>exact .tight e l ne blk off f ku (hs _ ja) (λi hi=>(h i hi).mono UP) hc
 | wF=>exact .wF
 | bq=>exact .bq
 | vb=>exact .vb
 | gC=>exact .gC
 | uX=>exact .uX
 | Vq v h=>exact .Vq v h
 | nD T=>exact .nD T
 | nV b T d V=>exact .nV b T d V
 | nW b T blk n d V h=>exact .nW b T blk n d V h
 | yY b blk n d V h=>exact .yY b blk n d V h
 | ptr b off blk n d V h=>exact .ptr b off blk n d V h
 | vC τ y cs blk off ja h hc=>exact .vC τ y cs blk off (hs _ ja) (h.mono UP) hc
 | gU b vn e idx off blk o J h=>exact .gU b vn e idx off blk o J h
 | ms b vn e off len cap a J ju ha V7 h=>exact .ms b vn e off len cap a J ju ha V7 h
 | wi f l vs B h ih=>exact .wi f l vs B ih
 | agg l vs B ho h ih=>exact .agg l vs B ho ih
 | fj l vs B h ih=>exact .fj l vs B ih
 | iface t d v h ih=>exact .iface t d v ih
theorem RD.free{E:KS}(hw:E.w=O.w)(ja:E.ok=O.ok)(ud:O.st=[]){d:D}{v:Value}(h:RD O d v):RD E d v:=by
 obtain⟨w',KU,ph',qm⟩:=E
 subst hw ja
 induction h with
 | qj τ y cs h=>exact .qj τ y cs h
 | tc e l b v h ht hf=>exact .tc e l b v h ht hf
 | vB e a=>exact .vB e a
 | tight e l ne blk off f ku ja h hc=>exact .tight e l ne blk off f ku ja h hc
 | wF=>exact .wF
 | bq=>exact .bq
 | vb=>exact .vb
 | gC=>exact .gC
 | uX=>exact .uX
 | Vq v h=>exact .Vq v h
 | nD T=>exact .nD T
 | nV b T d V=>grind
 | nW b T blk n d V h=>grind
 | yY b blk n d V h=>grind
 | ptr b off blk n d V h=>grind
 | vC τ y cs blk off ja h hc=>exact .vC τ y cs blk off ja h hc
 | gU b vn e idx off blk o J h=>rcases J with J | ⟨_,_,_,J,_⟩ <;> · rw[ud]at J; simp at J
 | ms b vn e off len cap a J ju ha V7 h=>rcases J with J | ⟨_,_,_,J,_⟩ <;> · rw[ud]at J; simp at J
 | wi f l vs B h ih=>exact .wi f l vs B ih
 | agg l vs B ho h ih=>exact .agg l vs B ho ih
 | fj l vs B h ih=>exact .fj l vs B ih
 | iface t d v h ih=>exact .iface t d v ih
theorem Rc.scalar{w w':World}{ok KU:Nat->Prop}{τ:Ty}{x:den τ}{cs:List Value}(h:Rc w ok τ x cs)(ht:τ.scalar=true):Rc w' KU τ x cs:=by
 induction h with
 | int k n=>exact .int k n
 | bool b=>exact .bool b
 | str s=>exact .str s
 | mf=>cases ht
 | sl=>cases ht
 | nil=>exact .nil
 | cons a b x y c1 c2 h1 X i1 i2=>simp only[Ty.scalar,zI]at ht; exact .cons a b x y c1 c2 (i1 ht.1) (i2 ht.2)
 | expr=>cases ht
theorem zfp{e:Ty}{ys:List (den e)}{v:Value}(h:Src O e ys v):Rc O.w (okS O) (.sl e) ys [v]:=by
 obtain⟨a,cap,f,rfl,ju,hn,h1,X⟩:=h.ex
 cases a with
 | none=>obtain⟨rfl,rfl⟩:=hn rfl; exact .mf e none
 | some p =>
  rcases X p rfl with⟨rfl,rfl⟩ | ⟨hp,ja,hc⟩
  ·exact .mf e _
  obtain⟨blk,o,sp⟩:=p
  subst hp
  exact .sl e ys blk o cap f ja ju (λi hi=>(h1 i hi).mono λk hk=>⟨.inl hk,rfl⟩) hc
def KS.all(O:KS):KS:={ O with ok:=okS O }
theorem RD.all{d:D}{v:Value}(h:RD O d v):RD O.all d v:=h.weaken λ_ hk=>.inl hk
theorem wP.all{l:List D}{vs:List Value}(h:wP O l vs):wP O.all l vs:=⟨h.1,λi h1 X=>(h.2 i h1 X).all⟩
theorem Cx{x y:D}{v:Value}(hI:Inv O)(U:RD O x v)(h:(ZF O.st x).leads y):RD O.all y v/\(x.one=true->y.one=true)/\(x.bQ=false->y.bQ=false):=by
 rcases Ua hI U h with⟨rfl,_⟩ | ⟨e,ys,rfl,hs,_⟩
 ·exact⟨U.all,id,id⟩
 ·exact⟨RD.Zr rfl (zfp hs),λ_=>rfl,λ_=>rfl⟩
theorem CA(hI:Inv O):∀ {l r:List D} {vs:List Value},wP O l vs->(∀ d∈l,d.one=true)->(Cz O.st l).leads r->wP O.all r vs/\∀ d∈r,d.one=true
 | [],r,vs,h,_,hs=>by cases hs; rw[h.wg]; exact⟨.nil,nofun⟩
 | d::l,r,vs,h,ho,hs=>by
  simp only[Cz,T.xf]at hs
  obtain⟨x,U,l',B,rfl⟩:=hs
  obtain⟨v,us,rfl,h1,X⟩:=h.cons_inv
  obtain⟨g1,g2,_⟩:=Cx hI h1 U
  obtain⟨k1,k2⟩:=CA hI X (λd V=>ho d (xC _ V)) B
  refine⟨.cons g1 k1,λd V => ?_⟩
  grind
theorem z4X{x y:D}{v:Value}(hI:Inv O)(U:RD O x v)(h:(snap O.st x).leads y):RD O.all y v:=by
 cases x with
 | agg l =>
  simp only[snap,T.xf]at h
  obtain⟨r,hr,rfl⟩:=h
  cases U with
  | agg _ vs B ho hh =>
   obtain⟨g1,g2⟩:=CA hI (⟨B,hh⟩:wP O l vs) ho hr
   exact .agg r vs g1.1 g2 g1.2
 | _=>exact(Cx hI U h).1
theorem Uw{τ:Ty}{d:D}{x:den τ}{v:Value}(hI:Inv O)(V:RD O d v)(h:(Uv O.st τ d).leads x):RD O.all (.qj τ x) v:=by
 simp only[Uv,T.xf,T.yH]at h
 obtain⟨y,h1,X⟩:=h
 exact mZ (z4X hI V h1) X
theorem Cy{x y:D}(h:(ZF [] x).leads y):y=x:=by
 cases x with
 | ms=>simp[ZF,T.leads]at h
 | _=>exact h.symm
theorem CB:∀ {l r:List D},(Cz [] l).leads r->r=l
 | [],_,h=>h.symm
 | d::l,r,h=>by
  simp only[Cz,T.xf]at h
  obtain⟨x,U,l',B,rfl⟩:=h
  rw[Cy U,CB B]
theorem z4Y{x y:D}(h:(snap [] x).leads y):y=x:=by
 cases x with
 | agg l =>
  simp only[snap,T.xf]at h
  obtain⟨r,hr,rfl⟩:=h
  rw[CB hr]
 | _=>exact Cy h
theorem Fl{τ:Ty}{d:D}{x:den τ}{v:Value}(V:RD O d v)(h:(Uv [] τ d).leads x):RD O (.qj τ x) v:=by
 simp only[Uv,T.xf,T.yH]at h
 obtain⟨y,h1,X⟩:=h
 rw[z4Y h1]at X
 exact mZ V X
def Kx:D->Bool | .qj .. | .vC .. => true | _=>false
def Oa:D->Bool
 | .wi _ l=>l.all Kx
 | d=>Kx d
theorem z7m{d:D}(h:Kx d=true):Oa d=true:=by cases d<;>first | exact h | cases h
theorem Gc{st:St}{τ:Ty}{d y:D}(h:(QT st τ d).leads y):Kx y=true:=by
 unfold QT at h
 split at h
 ·split at h
  ·cases h; rfl
  ·exact h.elim
 ·split at h
  ·split at h
   ·cases h; rfl
   ·exact h.elim
  ·exact h.elim
 ·exact h.elim
theorem BJ{τ:Ty}{d y:D}{v:Value}(hI:Inv O)(V:RD O d v)(h:(QT O.st τ d).leads y):RD O.all y v:=by
 unfold QT at h
 split at h
 ·split at h
  ·rename_i x z hz
   cases h
   obtain⟨e,rfl⟩:=wh hz
   cases e
   exact V.all
  ·exact h.elim
 ·rename_i b off
  split at h
  ·rename_i d' J
   split at h
   ·rename_i z hz
    cases h
    cases ho:qL off 0 with
    | false=>grind
    | true =>
     have:=zF ho
     subst this
     obtain⟨blk,n,cs,t,g1,g2,g3,g4,g5⟩:=(hI.blk b _ J:y7 O b d').cells (by cases d'<;>first | rfl | cases hz)
     cases V with
     | ptr _ _ rF n' d1 hd1 hp =>
      rw[g1]at hp
      cases hp
      have ja:okS O blk:=.inr ⟨b,n,g1⟩
      have ht:d'.bQ=false:=by
       cases d' with
       | fj l=>simp[pA,D.bQ]at hz
       | _=>rfl
      have EI:=XY hz g4 g5.1 ht
      refine .vC τ z cs.toList blk 0 ja (EI.mono λk hk=>⟨.inl hk,rfl⟩) λj v hj => ?_
      show O.w.cell? _=_
      rw[WD g2,qE]
      grind
   ·exact h.elim
  ·exact h.elim
 ·exact h.elim
theorem BK{τ:Ty}{d y:D}{v:Value}(V:RD O d v)(h:(QT [] τ d).leads y):RD O y v:=by
 unfold QT at h
 split at h
 ·split at h
  ·rename_i x z hz
   cases h
   obtain⟨e,rfl⟩:=wh hz
   grind
  ·exact h.elim
 ·rename_i b off
  split at h
  ·grind
  ·exact h.elim
 ·exact h.elim
theorem Fi{st:St}{p:JK}{d y:D}(h:(Xn st p d).leads y):Kx y=true:=by
 cases p with
 | rp τ=>exact Gc h
 | im τ=>simp only[Xn,T.xf]at h; obtain⟨x,_,rfl⟩:=h; rfl
theorem M5{p:JK}{d y:D}{v:Value}(hI:Inv O)(V:RD O d v)(h:(Xn O.st p d).leads y):RD O.all y v:=by
 cases p with
 | rp τ=>exact BJ hI V h
 | im τ=>simp only[Xn,T.xf]at h; obtain⟨x,U,rfl⟩:=h; exact Uw hI V U
theorem M6{p:JK}{d y:D}{v:Value}(V:RD O d v)(h:(Xn [] p d).leads y):RD O y v:=by
 cases p with
 | rp τ=>exact BK V h
 | im τ=>simp only[Xn,T.xf]at h; obtain⟨x,U,rfl⟩:=h; exact Fl V U
theorem Uu{st:St}:∀ {ps:List JK} {ds r:List D},(nc st ps ds).leads r->∀ d∈r,Kx d=true
 | [],[],r,hs=>by cases hs; nofun
 | p::ps,d::ds,r,hs=>by
  simp only[nc,T.xf]at hs
  obtain⟨x,U,l,B,rfl⟩:=hs
  intro d' eR
  rcases xG.1 eR with rfl | eR
  ·exact Fi U
  ·exact Uu B d' eR
 | [],_::_,_,hs=>hs.elim
 | _::_,[],_,hs=>hs.elim
theorem Kv(hI:Inv O):∀ {ps:List JK} {ds r:List D} {vs:List Value},wP O ds vs->(nc O.st ps ds).leads r->wP O.all r vs
 | [],[],r,vs,h,hs=>by cases hs; rw[h.wg]; exact .nil
 | p::ps,d::ds,r,vs,h,hs=>by
  simp only[nc,T.xf]at hs
  obtain⟨x,U,l,B,rfl⟩:=hs
  obtain⟨v,us,rfl,h1,X⟩:=h.cons_inv
  exact .cons (M5 hI h1 U) (Kv hI X B)
 | [],_::_,_,_,_,hs=>hs.elim
 | _::_,[],_,_,_,hs=>hs.elim
theorem Kw:∀ {ps:List JK} {ds r:List D} {vs:List Value},wP O ds vs->(nc [] ps ds).leads r->wP O r vs
 | [],[],r,vs,h,hs=>by cases hs; rw[h.wg]; exact .nil
 | p::ps,d::ds,r,vs,h,hs=>by
  simp only[nc,T.xf]at hs
  obtain⟨x,U,l,B,rfl⟩:=hs
  obtain⟨v,us,rfl,h1,X⟩:=h.cons_inv
  exact .cons (M6 h1 U) (Kw X B)
 | [],_::_,_,_,_,hs=>hs.elim
 | _::_,[],_,_,_,hs=>hs.elim
theorem Vy{st:St}{p:Ui}{d y:D}(h:(Fj st p d).leads y):(∃ τ x,p=.ty τ/\(Uv st τ d).leads x/\y=.qj τ x)\/(∃ τ,p=.rp τ/\(QT st τ d).leads y) \/
  ∃ f caps l l',p=.wi f caps/\d=.wi f l/\(nc st caps l).leads l'/\y=.wi f l':=by
 cases p with
 | ty τ =>
  have h':((Uv st τ d).bind λx=>T.ret (D.qj τ x)).leads y:=by cases d<;>exact h
  simp only[T.xf]at h'
  obtain⟨x,U,rfl⟩:=h'
  grind
 | rp τ=>exact .inr (.inl ⟨τ,rfl,by cases d<;>exact h⟩)
 | wi f caps =>
  cases d with
  | wi f' l =>
   simp only[Fj]at h
   cases J:qL f f' with
   | false=>rw[J]at h; exact h.elim
   | true =>
    rw[J,cond_true,T.xf]at h
    obtain⟨l',B,rfl⟩:=h
    have:=zF J
    grind
  | _=>exact h.elim
theorem T6{st:St}{p:Ui}{d y:D}(h:(Fj st p d).leads y):Oa y=true:=by
 rcases Vy h with⟨τ,x,_,_,rfl⟩ | ⟨τ,_,h⟩ | ⟨f,caps,l,l',_,_,h',rfl⟩
 ·rfl
 ·exact z7m (Gc h)
 ·exact qU.2 (Uu h')
theorem z1n{p:Ui}{d y:D}{v:Value}(hI:Inv O)(V:RD O d v)(h:(Fj O.st p d).leads y):RD O.all y v:=by
 rcases Vy h with⟨τ,x,_,U,rfl⟩ | ⟨τ,_,h⟩ | ⟨f,caps,l,l',_,rfl,h',rfl⟩
 ·exact Uw hI V U
 ·exact BJ hI V h
 ·cases V with
  | wi _ _ vs B hh =>
   have:=Kv hI (⟨B,hh⟩:wP O l vs) h'
   exact .wi f l' vs this.1 this.2
theorem z1o{p:Ui}{d y:D}{v:Value}(V:RD O d v)(h:(Fj [] p d).leads y):RD O y v:=by
 rcases Vy h with⟨τ,x,_,U,rfl⟩ | ⟨τ,_,h⟩ | ⟨f,caps,l,l',_,rfl,h',rfl⟩
 ·exact Fl V U
 ·exact BK V h
 ·cases V with
  | wi _ _ vs B hh =>
   have:=Kw (⟨B,hh⟩:wP O l vs) h'
   exact .wi f l' vs this.1 this.2
theorem Vz{st:St}:∀ {ps:List Ui} {ds r:List D},(QS st ps ds).leads r->∀ d∈r,Oa d=true
 | [],[],r,hs=>by cases hs; nofun
 | p::ps,d::ds,r,hs=>by
  simp only[QS,T.xf]at hs
  obtain⟨x,U,l,B,rfl⟩:=hs
  intro d' eR
  rcases xG.1 eR with rfl | eR
  ·exact T6 U
  ·exact Vz B d' eR
 | [],_::_,_,hs=>hs.elim
 | _::_,[],_,hs=>hs.elim
theorem BI(hI:Inv O):∀ {ps:List Ui} {ds r:List D} {vs:List Value},wP O ds vs->(QS O.st ps ds).leads r->wP O.all r vs
 | [],[],r,vs,h,hs=>by cases hs; rw[h.wg]; exact .nil
 | p::ps,d::ds,r,vs,h,hs=>by
  simp only[QS,T.xf]at hs
  obtain⟨x,U,l,B,rfl⟩:=hs
  obtain⟨v,us,rfl,h1,X⟩:=h.cons_inv
  exact .cons (z1n hI h1 U) (BI hI X B)
 | [],_::_,_,_,_,hs=>hs.elim
 | _::_,[],_,_,_,hs=>hs.elim
theorem JP:∀ {ps:List Ui} {ds r:List D} {vs:List Value},wP O ds vs->(QS [] ps ds).leads r->wP O r vs
 | [],[],r,vs,h,hs=>by cases hs; rw[h.wg]; exact .nil
 | p::ps,d::ds,r,vs,h,hs=>by
  simp only[QS,T.xf]at hs
  obtain⟨x,U,l,B,rfl⟩:=hs
  obtain⟨v,us,rfl,h1,X⟩:=h.cons_inv
  exact .cons (z1o h1 U) (JP X B)
 | [],_::_,_,_,hs,h=>h.elim
 | _::_,[],_,_,hs,h=>h.elim
def KS.bare(O:KS)(ok:Nat->Prop):KS:=⟨O.w,ok,[],[]⟩
theorem G2{ok:Nat->Prop}(hI:Inv O)(hs:∀ k,O.ok k->ok k)(h:∀ k,ok k->k<O.w.heap.size):Inv (O.bare ok) :=
 ⟨rfl,h,λb blk n h=>by simp[KS.bare]at h,λb b' blk n n' h=>by nofun,λb x h=>by simp[KS.bare]at h,hI.gl.mono λk hk=>⟨hs k hk,rfl⟩⟩
theorem ZT{ok:Nat->Prop}{d:D}{v:Value}(hi:Kx d=true)(h:RD { O with ok:=ok } d v):RD (O.bare ok) d v:=by
 cases d with
 | qj τ x=>obtain⟨cs,h1,rfl⟩:=RD.du h; exact .qj τ x cs h1
 | vC τ x=>cases h with | vC _ _ cs blk off ja h hc=>exact .vC τ x cs blk off ja h hc
 | _=>cases hi
theorem BL{ok:Nat->Prop}{d:D}{v:Value}(hi:Oa d=true)(h:RD { O with ok:=ok } d v):RD (O.bare ok) d v:=by
 cases d with
 | wi f l =>
  cases h with
  | wi _ _ vs B hh=>exact .wi f l vs B λi h1 X=>ZT (qU.1 hi _ (qA h1)) (hh i h1 X)
 | qj τ x=>exact ZT hi h
 | vC τ x=>exact ZT hi h
 | _=>cases hi
theorem F6{κ1:KS}{ok:Nat->Prop}(hI:Inv O)(Uk:Inv κ1)(ud:κ1.st=[])(U:Ext (O.bare ok) κ1)(KU:Nat->Prop)(h1:∀ k,O.ok k->KU k)(X:∀ k,KU k->O.ok k\/O.w.heap.size<=k)(h3:∀ k,KU k->k<κ1.w.heap.size) :
  Ext O { O with w:=κ1.w,ok:=KU }/\Inv { O with w:=κ1.w,ok:=KU }:=by
 have hfr:∀ k,k<O.w.heap.size->κ1.w.heap[k]? = O.w.heap[k]? := λk hk=>U.frame k hk λb n h=>by simp[KS.bare]at h
 have cm:O.w.heap.size<=κ1.w.heap.size:=U.size
 have he:Ext O { O with w:=κ1.w,ok:=KU }:=⟨U.os,U.tape,U.output,cm,λk hk=>⟨h1 k hk,hfr k (hI.cp k hk)⟩,λk hk=>(X k hk).elim .inl (λh=>.inr (.inl h)),λ_ _ _ h=>.inl h,λb d h=>⟨⟨d,h⟩,rfl⟩,
  λb v0 e xs h=>.inr ⟨v0,xs,h,zE _,λ_=>⟨rfl,rfl⟩⟩,λ_ h=>h,zE _,λk hk _=>hfr k hk⟩
 refine⟨he,hI.len,h3,λb blk n h => ?_,hI.inj,λb x h=>(hI.blk b x h).mono he rfl λblk n h=>hfr _ (hI.apart b blk n h).1,hI.gl.mono he.same⟩
 obtain⟨g1,g2⟩:=hI.apart b blk n h
 grind
theorem T4{g:Nat}{args:List D}{xa:List Value}{d:Option D}{qm:St}(hs:EC c.P g (c.fn g))(hI:Inv O)(ha:wP O args xa)
  (h:(qu (match c.sig g args with | some s=>eV c g s args | none=>tk c g args) O.st).leads (d,qm)) :
  gM c.P g xa.toArray O.w λe w'=>∃ (E:KS) (v:Value),E.w=w'/\E.st=qm/\Inv E/\Ext O E/\e=.returned v/\∀ d',d=some d'->RD E d' v:=by
 split at h
 ·rename_i s Tv
  unfold eV at h
  cases hm:(!(args.any Kg))with
  | true =>
   rw[hm,cond_true,kX]at h
   obtain⟨h,rfl⟩:=h
   simp only[T.xf]at h
   obtain⟨l,B,⟨rs,eb⟩,hc,hr⟩:=h
   have fV:=JP ha B
   have J:wP (O.bare O.ok) l xa:=⟨fV.1,λi h1 X=>BL (Vz B _ (qA h1)) (fV.2 i h1 X)⟩
   refine(hs (O.bare O.ok) l xa rs eb hc (G2 hI (λ_ h=>h) hI.cp) J).mono ?_
   rintro e w' ⟨κ1,rfl,ud,Uk,U,he⟩
   unfold z4P at hr
   split at hr
   ·rename_i ds heq
    cases heq
    cases hr
    obtain⟨v,rfl,hv⟩:=he
    obtain⟨hE,hI'⟩:=F6 hI Uk ud U κ1.ok (λk hk=>(U.same k hk).1) (λk hk=>by
     rcases U.fresh k hk with h | h | ⟨b,n,h⟩
     ·exact .inl h
     ·exact .inr h
     ·simp[KS.bare]at h) Uk.cp
    exact⟨{ O with w:=κ1.w,ok:=κ1.ok },v,rfl,rfl,hI',hE,rfl,λd' eR=>by cases eR; exact RD.free (O:=κ1) (E:={ O with w:=κ1.w,ok:=κ1.ok }) rfl rfl ud hv⟩
   ·exact hr.elim
  | false =>
   rw[hm,cond_false,so]at h
   obtain⟨h,rfl⟩:=h
   simp only[T.xf]at h
   obtain⟨l,B,⟨rs,eb⟩,hc,hr⟩:=h
   have fV:=BI hI ha B
   have J:wP (O.bare (okS O)) l xa:=⟨fV.1,λi h1 X=>BL (Vz B _ (qA h1)) (fV.2 i h1 X)⟩
   have wO:∀ k,okS O k->k<O.w.heap.size:=by
    rintro k (hk | ⟨b,n,hk⟩)
    ·exact hI.cp k hk
    ·exact(hI.apart b k n hk).1
   refine(hs (O.bare (okS O)) l xa rs eb hc (G2 hI (λ_ h=>.inl h) wO) J).mono ?_
   rintro e w' ⟨κ1,rfl,ud,Uk,U,he⟩
   unfold WR at hr
   split at hr
   ·rename_i ds heq
    cases heq
    cases Qc:ds.all WU with
    | false=>rw[Qc]at hr; exact hr.elim
    | true =>
     rw[Qc,cond_true]at hr
     cases hr
     obtain⟨v,rfl,hv⟩:=he
     obtain⟨hE,hI'⟩:=F6 hI Uk ud U O.ok (λk hk=>hk) (λk hk=>.inl hk) (λk hk=>qO (hI.cp k hk) U.size)
     refine⟨{ O with w:=κ1.w,ok:=O.ok },v,rfl,rfl,hI',hE,rfl,λd' eR => ?_⟩
     cases eR
     have one:∀ d u,WU d=true->RD κ1 d u->RD { O with w:=κ1.w,ok:=O.ok } d u:=by
      intro d u V hu
      cases d<;>simp[WU]at V
      obtain⟨cs,h1,rfl⟩:=RD.du hu
      exact .qj _ _ cs (h1.scalar V)
     have B9:=qU.1 Qc
     unfold fy at hv ⊢
     split at hv
     ·exact one _ _ (B9 _ (qw)) hv
     ·rename_i ku
      cases hv with
      | fj _ vs B hh=>exact .fj ds vs B λi h1 X=>one _ _ (B9 _ (qA h1)) (hh i h1 X)
   ·exact hr.elim
 ·unfold tk at h
  simp only[qu,T.xf]at h
  obtain⟨⟨rs,eb⟩,hc,hr⟩:=h
  refine(hs O args xa rs eb hc hI ha).mono ?_
  rintro e w' ⟨κ1,rfl,ud,Uk,U,he⟩
  cases rs with
  | bC p=>exact hr.elim
  | ret ds =>
   cases hr
   obtain⟨v,rfl,hv⟩:=he
   exact⟨κ1,v,rfl,ud,Uk,U,rfl,λd' eR=>by cases eR; exact hv⟩
end
end Go.AM