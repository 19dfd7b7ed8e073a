/-
  The abstract machine, part B: texts of our own, the same for each claim.
-/
import Derived.Test.YtjklmealdnfhfaaGreatDoorAmA
import Derived.Lib.AppendStr
import Derived.Maps.OwnSet
import Derived.Lib.LazyBuf
import Derived.Laws.Pointers
import Derived.WideLaws
import Derived.Laws.BytesArg
import Derived.Laws.CopyRow
import Derived.Laws.IdiomCopy
set_option linter.unusedVariables false
open List renaming getElem?_eq_some_iff -> zA, getElem?_append_left -> zG, length_append -> zK, eq_nil_of_length_eq_zero -> zM, getElem?_eq_getElem -> zN, take -> zR, length -> zS, getElem?_set -> zT, length_take -> zU, size_toArray -> zY, getElem_mem -> qA, getElem?_append_right -> qC, append_assoc -> qI, take_succ_eq_append_getElem -> qJ, length_drop -> qK, getElem?_map -> qR, all_eq_true -> qU, length_cons -> qV, getElem?_set_self -> qW, mem_map -> qX, mem_append -> qZ, getElem?_toArray -> xA, length_replicate -> xB, mem_cons_of_mem -> xC, mem_of_mem_drop -> xD, mem_cons -> xG
open Go.Result renaming andThen_ok -> Y
open Nat renaming mul_le_mul_right -> X, le_of_ble_eq_true -> V, le_refl -> zE, eq_of_beq_eq_true -> zF, not_lt_zero -> zW, succ_mul -> qB, add_mul -> qD, zero_add -> qE, beq -> qL, le_trans -> qN, lt_of_lt_of_le -> qO, blt -> xE, add_zero -> xH
open Go.Sem renaming run_bind -> zH, run_pure -> qF
open Bool renaming and_eq_true -> zI
open Pure renaming pure -> zJ
open Go.Builtin renaming append_ -> zL, firstCells -> zO, zeroCells -> zX, lenOf -> qS
open Go.Value renaming int -> zP
open Go.Instr renaming buildSlice -> zQ, fill -> qH, box -> qT, makeSlice -> qY, storeAt -> xF
open Array renaming getElem?_toList -> zV, length_toList -> qG, range -> xK
open Option renaming isSome_iff_exists -> zZ
open Go.Maps renaming keyOf_int_mk -> qM, int_keyed -> qQ
open Go.Lib renaming run_firstCells_string -> qP
open Go.WideElems renaming rd -> xI, rg -> xJ
namespace Go.AM
set_option linter.unusedSectionVars false
variable [yY]
section
variable {c:Ctx} {O E:KS}
theorem pD.mono(x:Ext O E){b:Nat}(hp:E.ph[b]? = O.ph[b]?)(hh:∀ blk n,O.ph[b]? = some (some (blk,n))->E.w.heap[blk]? = O.w.heap[blk]?){y:cJ}(h:pD O b y):pD E b y:=by
 cases y with
 | dead=>trivial
 | var d =>
  refine kT.elim h (λhm h=>.mk hm ?_) λl e h=>by
   subst e
   obtain⟨blk,o,h1,M,h3⟩:=h
   exact⟨blk,o,hp.trans h1,(hh blk 0 h1).trans M,h3⟩
  obtain⟨blk,n,cs,t,h1,M,h3,h4,h5⟩:=h
  exact⟨blk,n,cs,t,hp.trans h1,(hh blk n h1).trans M,h3,h4.mono x,h5⟩
 | arr vi e xs =>
  obtain⟨h0,h⟩:=h
  refine⟨h0,rP h (λh=>⟨h.1,hp.trans h.2⟩) ?_⟩
  rintro⟨blk,n,cs,t,h1,M,h3,h4,hr,f,h5⟩
  exact⟨blk,n,cs,t,hp.trans h1,(hh blk n h1).trans M,h3,h4,hr,f,λi hi=>⟨(h5 i hi).1.mono x.same,(h5 i hi).2⟩⟩
def KS.qj(O:KS)(w':World):KS:={ O with w:=w',ok:=λk=>O.ok k\/k=O.w.heap.size }
structure mM(w w':World)(o:Obj):Prop where
 os:w'.os=w.os
 tape:w'.tape=w.tape
 output:w'.output=w.output
 heap:w'.heap=w.heap.push o
theorem mM.size{w w':World}{o:Obj}(g:mM w w' o):w'.heap.size=w.heap.size+1:=by rw[g.heap]; simp
theorem mM.old{w w':World}{o:Obj}(g:mM w w' o){k:Nat}(h:k<w.heap.size):w'.heap[k]? = w.heap[k]? := by
 rw[g.heap,Array.getElem?_push,if_neg (Z)]
theorem mM.new{w w':World}{o:Obj}(g:mM w w' o):w'.heap[w.heap.size]? = some o:=by rw[g.heap]; simp
theorem mM.alloc(w:World)(o:Obj):mM w (w.alloc o) o:=⟨rfl,rfl,rfl,rfl⟩
theorem mM.drew(w:World)(o:Obj):mM w (w.drew.alloc o) o:=⟨rfl,rfl,rfl,rfl⟩
theorem XR{w':World}{o:Obj}(B:Inv O)(g:mM O.w w' o):Ext O (O.qj w'):=by
 refine⟨g.os,g.tape,g.output,by show O.w.heap.size<=w'.heap.size; rw[g.size]; omega,λk hk=>⟨.inl hk,g.old (B.bJ k hk)⟩,?_,λ_ _ _ h=>.inl h,λb d h=>⟨⟨d,h⟩,rfl⟩,
  λb v0 e xs h=>.inr ⟨v0,xs,h,zE _,λ_=>⟨rfl,rfl⟩⟩,λ_ h=>h,zE _,λk hk _=>g.old hk⟩
 rintro k (hk | hk)
 ·grind
 ·grind
theorem cN{w':World}{o:Obj}(B:Inv O)(g:mM O.w w' o):Inv (O.qj w'):=by
 refine⟨B.len,?_,?_,B.inj,?_,B.gl.mono (XR B g).same⟩
 ·rintro k (hk | hk)
  ·have:=B.bJ k hk; show k<w'.heap.size; rw[g.size]; omega
  ·show k<w'.heap.size; rw[g.size]; omega
 ·intro b blk n h
  obtain⟨h1,M⟩:=B.apart b blk n h
  refine⟨by show blk<w'.heap.size; rw[g.size]; omega,?_⟩
  rintro(hk | hk)
  ·exact M hk
  ·omega
 ·intro b x N
  exact(B.blk b x N).mono (XR B g) rfl λblk n h=>g.old (B.apart b blk n h).1
def KS.add(O:KS)(w':World)(n:Nat)(x:cJ):KS:={ O with w:=w',ph:=O.ph++[some (O.w.heap.size,n)],st:=O.st++[x] }
theorem Zh{w':World}{o:Obj}{n:Nat}{x:cJ}(B:Inv O)(g:mM O.w w' o):Ext O (O.add w' n x):=by
 have vX:∀ b y,O.st[b]? = some y->(O.st++[x])[b]? = some y:=λb y h=>by rw[zG (zA.1 h).1]; exact h
 have GG:∀ b y,O.st[b]? = some y->(O.ph++[some (O.w.heap.size,n)])[b]? = O.ph[b]? := λb y h=>by
  rw[zG]; rw[B.len]; exact(zA.1 h).1
 refine⟨g.os,g.tape,g.output,by show O.w.heap.size<=w'.heap.size; rw[g.size]; omega,λk hk=>⟨hk,g.old (B.bJ k hk)⟩,λk hk=>.inl hk,?_,λb d h=>⟨⟨d,vX b _ h⟩,GG b _ h⟩,
  λb v0 e xs h=>.inr ⟨v0,xs,vX b _ h,zE _,λ_=>⟨GG b _ h,rfl⟩⟩,λb h=>vX b _ h,by simp[KS.add],λk hk _=>g.old hk⟩
 intro b blk m h
 simp only[KS.add]at h
 grind
theorem tn(B:Inv O){w':World}{n:Nat}{x:cJ}:(O.add w' n x).ph[O.st.length]? = some (some (O.w.heap.size,n)):=by
 simp[KS.add,<- B.len]
theorem QE{w':World}{n:Nat}{x:cJ}:(O.add w' n x).st[O.st.length]? = some x:=by simp[KS.add]
theorem Vy{w':World}{o:Obj}{n:Nat}{x:cJ}(B:Inv O)(g:mM O.w w' o)(N:pD (O.add w' n x) O.st.length x):Inv (O.add w' n x):=by
 have hold:∀ (b blk m:Nat),(O.ph++[some (O.w.heap.size,n)])[b]? = some (some (blk,m))->O.ph[b]? = some (some (blk,m))\/(b=O.ph.length/\blk=O.w.heap.size):=by
  grind
 refine⟨by simp[KS.add,B.len],?_,?_,?_,?_,B.gl.mono (Zh B g).same⟩
 ·intro k hk; have:=B.bJ k hk; show k<w'.heap.size; rw[g.size]; omega
 ·intro b blk m h
  rcases hold b blk m h with h | ⟨rfl,rfl⟩
  ·obtain⟨h1,M⟩:=B.apart b blk m h
   exact⟨by show blk<w'.heap.size; rw[g.size]; omega,M⟩
  ·exact⟨by show O.w.heap.size<w'.heap.size; rw[g.size]; omega,λhk=>absurd (B.bJ _ hk) (Nat.lt_irrefl _)⟩
 ·intro b b' blk m m' h h'
  rcases hold b blk m h with h | ⟨rfl,rfl⟩<;>rcases hold b' _ m' h' with h' | ⟨rfl,h''⟩
  ·exact B.inj b b' blk m m' h h'
  ·have:=(B.apart b blk m h).1; omega
  ·have:=(B.apart b' _ m' h').1; omega
  ·rfl
 ·intro b y hy
  simp only[KS.add]at hy
  by_cases I:b<O.st.length
  ·rw[zG I]at hy
   refine(B.blk b y hy).mono (Zh B g) ?_ λblk m h=>g.old (B.apart b blk m h).1
   simp only[KS.add]
   rw[zG (by rw[B.len]; exact I)]
  ·grind
theorem RD.z2i{O:KS}{d:D}{v:Value}(h:RD O d v):d.Yo=false:=by cases h<;>rfl
theorem OH{d:D}{v:Value}{t:TypeId}(B:Inv O)(J:RD O d v)(ht:d.bz=false)(ML:∀ T,d.typed=some T->t=T) :
  ∃ E:KS,E.w=O.w.alloc (.cells v.cells t)/\E.st=O.st++[.var d]/\Inv E/\Ext O E/\RD E (.ptr O.st.length 0) (.pointer (some ⟨O.w.heap.size,0,none⟩)):=by
 have g:=mM.alloc O.w (.cells v.cells t)
 have N:=Zh (n:=v.cells.size) (x:=.var d) B g
 refine⟨O.add _ v.cells.size (.var d),rfl,rfl,Vy B g ?_,N,.ptr _ 0 _ v.cells.size d QE (tn B)⟩
 exact .mk J.z2i ⟨O.w.heap.size,v.cells.size,v.cells,t,tn B,g.new,rfl,(cx J ht).mono N,cv J,ML⟩
theorem TB{t:Nat}{x:Option D}{v:Value}{d:Option D}{qm:St}(B:Inv O)(N:∀ z,x=some z->RD O z v)
  (h:(qu (Tz x) O.st).leads (d,qm)) :
  wy c.P (do zJ (.value (<- qT t v))) O d qm:=by
 cases x with
 | none=>exact absurd h zh
 | some y =>
  simp only[Tz]at h
  cases ht:y.bz||y.typed.isSome with
  | true=>rw[ht]at h; exact absurd h zh
  | false =>
   rw[ht,cond_false]at h
   simp at ht
   obtain⟨ht,ML⟩:=ht
   have znz:∀ T,y.typed=some T->t=T:=λT e=>by rw[e]at ML; cases ML
   obtain⟨rfl,rfl⟩:=h
   obtain⟨E,h1,M,h3,h4,h5⟩:=OH (t:=t) B (N _ rfl) ht znz
   refine⟨E,_,_,?_,.inl rfl,M,h3,h4,λ_ he=>by cases he; exact h5⟩
   simp[qT,newVar,newRow,h1]
theorem zcD{d:D}{τ:Ty}{x:den τ}{v:Value}{t:TypeId}(B:Inv O)(J:RD O d v)(N:ox τ d=some x) :
  ∃ E:KS,E.w=O.w.alloc (.cells v.cells t)/\E.st=O.st/\Inv E/\Ext O E/\RD E (.vA τ x) (.pointer (some ⟨O.w.heap.size,0,none⟩)):=by
 have g:=mM.alloc O.w (.cells v.cells t)
 have GH:=XR B g
 obtain⟨cs,h1,M⟩:=RD.cN (mw J N)
 have hc:=Us h1.len h1.one
 have hn:(O.w.alloc (.cells v.cells t)).heap[O.w.heap.size]? = some (.cells v.cells t (0,0)):=g.new
 have eA:∀ j u,cs[j]? = some u->(O.w.alloc (.cells v.cells t)).cell? ⟨O.w.heap.size,0+j,none⟩=some u:=by
  simp
  grind
 exact⟨O.qj _,rfl,rfl,cN B g,GH,.vA τ x cs O.w.heap.size 0 (.inr rfl) (h1.mono GH.same) eA⟩
theorem Io{t:Nat}{x:Option D}{v:Value}{d:Option D}{qm:St}(B:Inv O)(N:∀ z,x=some z->RD O z v)
  (h:(qu (TA c t x) O.st).leads (d,qm)):wy c.P (do zJ (.value (<- qT t v))) O d qm:=by
 have key:∀ (y:D) (τ:Ty) (z:den τ),x=some y->ox τ y=some z->(qu (val (.vA τ z)) O.st).leads (d,qm)->wy c.P (do zJ (.value (<- qT t v))) O d qm:=by
  intro y τ z hy hz h
  obtain⟨rfl,rfl⟩:=h
  obtain⟨E,h1,M,h3,h4,h5⟩:=zcD (t:=t) B (N y hy) hz
  refine⟨E,_,_,?_,.inl rfl,M,h3,h4,λ_ he=>by cases he; exact h5⟩
  simp[qT,newVar,newRow,h1]
 unfold TA at h
 split at h
 ·rename_i τ z
  exact key _ τ z rfl (by simp[ox,jR]) h
 ·split at h
  ·split at h
   ·grind
   ·exact absurd h zh
  ·exact absurd h zh
 ·exact absurd h zh
theorem Im{t:Nat}{dst:Option Nat}{x:Option D}{v:Value}{d:Option D}{qm:St}(B:Inv O)(N:∀ z,x=some z->RD O z v)
  (h:(qu (Tx c t dst x) O.st).leads (d,qm)):wy c.P (do zJ (.value (<- qT t v))) O d qm:=by
 unfold Tx at h
 cases I:z2Q c dst with
 | true=>rw[I]at h; exact Io B N h
 | false=>rw[I]at h; exact TB B N h
theorem XZ{v:Value}{d:D}(h:Xl v=some d):RD O d v/\d.one=true/\d.bz=false/\(∀ cs,v≠.agg cs):=by
 unfold Xl at h
 split at h<;>cases h<;>refine⟨?_,rfl,rfl,λ_=>nofun⟩
 ·exact .int
 ·exact .bool
 ·rename_i s; have:=RD.str (O:=O) (s:=s.data.toList); simpa using this
 ·exact .wE
 ·exact .gU
 ·exact .gj
 ·exact .v8
 ·exact .uT
theorem YW{v:Value}{d:D}(h:JO v=some d):RD O d v/\d.bz=false:=by
 unfold JO at h
 split at h
 ·rename_i cs
  split at h
  ·rename_i l R
   cases h
   have ZM:∀ x∈l,x.one=true:=by
    intro x N
    have:some x∈cs.toList.map Xl:=by rw[ov R]; exact qX.2 ⟨x,N,rfl⟩
    obtain⟨u,_,hu⟩:=qX.1 this
    exact(XZ (O:=O) hu).2.1
   have hr:=fA (O:=O) (vs:=cs.toList) R (qz) (λi d v J hv=>by
    simp only[qR,hv,Option.map_some,Option.some.injEq]at J
    exact(XZ J).1)
   refine⟨?_,rfl⟩
   have:=RD.agg l cs.toList hr.1 ZM hr.2
   omega
  ·cases h
 ·exact⟨(XZ h).1,(XZ (O:=O) h).2.2.1⟩
theorem Ul{v:Value}{d:D}(h:Xl v=some d):(∀ l,d≠.agg l)/\(∀ T,d≠.mP T)/\∀ b T,d≠.ed b T:=by
 unfold Xl at h
 grind
theorem F6{v:Value}{d:D}(h:JO v=some d):d.typed=none:=by
 unfold JO at h
 split at h
 ·rename_i cs
  split at h
  ·rename_i l R
   cases h
   have hz:=ov R
   cases l with
   | nil=>rfl
   | cons x r =>
    have:some x∈cs.toList.map Xl:=by rw[hz]; simp
    obtain⟨u,_,hu⟩:=qX.1 this
    obtain⟨_,h1,M⟩:=Ul hu
    cases x<;>first | rfl | exact absurd rfl (h1 _) | exact absurd rfl (M _ _)
  ·cases h
 ·have:=(Ul h).1
  cases d<;>first | rfl | exact absurd rfl (this _)
structure ZD(t:Nat)(d:D)(z:Value):Prop where
 rd:∀ O:KS,RD O d z
 eD:d.bz=false
 ty:∀ T,d.typed=some T->t=T
theorem z27{t:Nat}{d:D}{z:Value}(h:JO z=some d):ZD t (z1Z c t d) z:=by
 have h0:∀ O:KS,RD O d z:=λO=>(YW h).1
 have h1:d.bz=false:=(YW (O:=⟨default,λ_=>False,[],[]⟩) h).2
 have M:=F6 h
 have same:ZD t d z:=⟨h0,h1,λT e=>xy⟩
 unfold z1Z
 split
 ·rename_i r
  cases hs:za8 c t with
  | false=>exact same
  | true =>
   refine⟨λO => ?_,rfl,λT e=>by cases e; rfl⟩
   cases h0 O with
   | agg _ vs R ho hh =>
    have hR:wN O (.gU::r) vs:=⟨R,hh⟩
    obtain⟨v,us,rfl,g1,g2⟩:=hR.cons_inv
    have hR2:wN O (.mP t::r) (v::us):=.cons (by cases g1; exact .mP t) g2
    exact .agg _ _ hR2.1 (λx N=>by
     rcases xG.1 N with rfl | N
     ·rfl
     ·exact ho x (xC _ N)) hR2.2
 ·exact same
theorem sq{t:Nat}{d:D}(h:K4 c t=some d):∃ i z,c.P.info? t=some i/\i.zero=some z/\ZD t d z:=by
 unfold K4 at h
 split at h
 ·rename_i i hi
  split at h
  ·rename_i z hz
   split at h
   ·rename_i d0 hd0
    cases h
    exact⟨i,z,hi,hz,z27 hd0⟩
   ·cases h
  ·cases h
 ·cases h
theorem I5{t:Nat}{d:Option D}{qm:St}(B:Inv O)
  (h:(qu (ow c t) O.st).leads (d,qm)) :
  wy c.P (do zJ (.value (<- Instr.alloc t true (.tuple #[])))) O d qm:=by
 unfold ow at h
 split at h
 ·rename_i y hy
  obtain⟨i,z,h1,M,h3⟩:=sq hy
  obtain⟨rfl,rfl⟩:=h
  obtain⟨E,g1,g2,g3,g4,g5⟩:=OH (t:=t) B (h3.rd O) h3.eD h3.ty
  refine⟨E,_,_,?_,.inl rfl,g2,g3,g4,λ_ he=>by cases he; exact g5⟩
  simp[Instr.alloc,zeroValue,typeInfo,h1,M,newVar,newRow,g1]
 ·exact absurd h zh
end
end Go.AM
namespace Go.AM
set_option linter.unusedSectionVars false
variable [yY]
section
variable {c:Ctx} {O:KS}
def KS.Vp(O:KS)(b:Nat)(w':World)(x:cJ):KS:={ O with w:=w',st:=O.st.set b x }
def KS.upd(O:KS)(b blk:Nat)(cs:Array Value)(x:cJ):KS:=O.Vp b (O.w.setRow blk cs) x
def Alike:cJ->cJ->Prop
 | .var _,.var _=>True
 | .arr v e xs,.arr v' e' xs'=>e=e'/\v<=v'/\(v=v'->xs.length=xs'.length)
 | _,_=>False
theorem UG{b blk n:Nat}{w':World}{x y:cJ}(B:Inv O)(hp:O.ph[b]? = some (some (blk,n)))(hy:O.st[b]? = some y)(ha:Alike y x)(g:O.w.grownBy w' (some blk)):Ext O (O.Vp b w' x):=by
 have wM:b<O.st.length:=(zA.1 hy).1
 have kf:∀ k,O.ok k->k≠blk:=λk hk e=>(B.apart b blk n hp).2 (e▸hk)
 refine⟨g.os,g.tape,g.output,g.size,λk hk=>⟨hk,g.block k (B.bJ k hk) λe=>kf k hk (Option.some.inj e)⟩,λk hk=>.inl hk,λ_ _ _ h=>.inl h,?_,?_,?_,by simp[KS.Vp],?_⟩
 ·intro b' d J
  refine⟨?_,rfl⟩
  simp only[KS.Vp,zT]
  split
  ·rename_i e
   subst e
   rw[hy]at J; cases J
   cases x<;>simp[Alike]at ha
   simp
  ·grind
 ·intro b' v0 e Vq J
  simp only[KS.Vp,zT]
  split
  ·rename_i e'
   subst e'
   rw[hy]at J; cases J
   cases x<;>simp[Alike]at ha
   grind
  ·grind
 ·intro b' J
  simp only[KS.Vp,zT]
  split
  ·rename_i e
   subst e
   rw[hy]at J; cases J
   simp[Alike]at ha
  ·exact J
 ·intro k hk hn
  exact g.block k hk λe=>by cases e; exact hn b n hp
theorem FC{b blk n:Nat}{w':World}{x y:cJ}(B:Inv O)(hp:O.ph[b]? = some (some (blk,n)))(hy:O.st[b]? = some y)(ha:Alike y x)
  (g:O.w.grownBy w' (some blk)) (N:pD (O.Vp b w' x) b x):Inv (O.Vp b w' x):=by
 refine⟨by simp[KS.Vp,B.len],λk hk=>qO (B.bJ k hk) g.size,?_,B.inj,?_,B.gl.mono (UG B hp hy ha g).same⟩
 ·intro b' pG m h
  obtain⟨h1,M⟩:=B.apart b' pG m h
  exact⟨qO h1 g.size,M⟩
 ·intro b' z hz
  by_cases I:b=b'
  ·subst I
   simp only[KS.Vp]at hz
   grind
  ·simp only[KS.Vp,zT,if_neg I]at hz
   refine(B.blk b' z hz).mono (UG B hp hy ha g) rfl λpG m h => ?_
   refine g.block pG (B.apart b' pG m h).1 λe => ?_
   cases e
   exact I (B.inj b b' _ n m hp h)
theorem UB(w:World)(blk:Nat)(cs:Array Value):w.grownBy (w.setRow blk cs) (some blk) :=
 ⟨rfl,rfl,rfl,by rw[setRow_size]; exact zE _,λk _ hk=>setRow_other _ _ _ _ λe=>hk (by rw[e])⟩
theorem UH{b blk n:Nat}{cs:Array Value}{x y:cJ}(B:Inv O)(hp:O.ph[b]? = some (some (blk,n)))(hy:O.st[b]? = some y)(ha:Alike y x):Ext O (O.upd b blk cs x):=UG B hp hy ha (UB _ _ _)
theorem UI{b blk n:Nat}{cs:Array Value}{x y:cJ}(B:Inv O)(hp:O.ph[b]? = some (some (blk,n)))(hy:O.st[b]? = some y)(ha:Alike y x)
  (N:pD (O.upd b blk cs x) b x):Inv (O.upd b blk cs x):=FC B hp hy ha (UB _ _ _) N
theorem CS{d d':D}{t:Nat}(h:ZY d d'=true)(J:∀ T,d.typed=some T->t=T):∀ T,d'.typed=some T->t=T:=by
 intro T hT
 unfold ZY at h
 rw[hT]at h
 cases hd0:d.typed with
 | none=>grind
 | some T' =>
  rw[hd0]at h
  have e:=zF h
  grind
theorem Qs{t:Nat}{n blk o:Nat}{v:Value}{cs:Array Value}{T:TypeId}(hn:te c t=some n)(hv:v.cells.toList.length=n)(h1:∀ u∈v.cells.toList,u.oneCell'=true)
  (hg:O.w.heap[blk]? = some (.cells cs T (0,0))) (hle:o+n<=cs.size) :
  (storeVar t ⟨blk,o,none⟩ v).run c.P O.w=.ok () (O.w.setRow blk (cs.toList.take o++v.cells.toList++cs.toList.drop (o+n)).toArray):=by
 have hs:v.cells.size=n:=by simpa using hv
 have:=run_storeCells_at c.P blk o T v.cells.toList 0 cs O.w hg (xy) h1
 simp[storeVar,run_sizeOf hn,hs,this]
theorem tD{l:List D}{vs us:List Value}{x:List D}(h:wN O l vs)(N:wN O x us)(o n:Nat) :
  wN O (l.take o++x++l.drop (o+n)) (vs.take o++us++vs.drop (o+n)):=((h.take o).append N).append (h.drop (o+n))
theorem Vo{cs us:List Value}{o n:Nat}(hu:us.length=n)(ho:o+n<=cs.length)(p:Nat) :
  (cs.take o++us++cs.drop (o+n))[p]? = if p<o then cs[p]? else if p<o+n then us[p-o]? else cs[p]? := xy
theorem Bm{t:Nat}{d x r:D}{off:Nat}(h:H8 c t d off x=some r):∃ n,te c t=some n/\0<n/\(xx x).length=n/\off+n<=(xx d).length /\
  xx r=(xx d).take off++xx x++(xx d).drop (off+n)/\((∀ y∈xx d,y.one=true)->(∀ y∈xx x,y.one=true)->∀ y∈xx r,y.one=true)/\x.bz=false:=by
 unfold H8 at h
 split at h
 ·cases h
 ·rename_i n hn
  cases I:xE 0 n&&qL n (xx x).length&&Nat.ble (off+n) (xx d).length with
  | false=>grind
  | true =>
   rw[I,cond_true]at h
   simp only[zI]at I
   obtain⟨⟨h0,h1⟩,M⟩:=I
   have h0':0<n:=V h0
   have GD:n=(xx x).length:=zF h1
   have h2':=V M
   have H0:x.bz=false:=by
    cases x with
    | eD l=>simp[xx]at GD; omega
    | _=>rfl
   cases hw:qL n (xx d).length with
   | true =>
    have h3:n=(xx d).length:=zF hw
    have h4:off=0:=Z
    subst h4
    rw[hw,cond_true]at h
    have hr:xx r=xx x/\r.bz=false:=by
     cases ha:d.cE && !x.cE with
     | true=>rw[ha,cond_true]at h; cases h; exact⟨rfl,rfl⟩
     | false=>rw[ha,cond_false]at h; cases h; exact⟨rfl,H0⟩
    refine⟨n,hn,h0',GD.symm,h2',?_,λ_ N y hy=>N y (hr.1▸hy),H0⟩
    rw[hr.1]
    simp[<- h3]
   | false =>
    rw[hw,cond_false]at h
    cases h
    refine⟨n,hn,h0',GD.symm,h2',rfl,λJ N y hy => ?_,H0⟩
    simp only[xx,qZ]at hy
    rcases hy with(hy | hy) | hy
    ·exact J y (List.mem_of_mem_take hy)
    ·exact N y hy
    ·exact J y (xD hy)
theorem Pb{t:Nat}{d x r:D}{off:Nat}(h:H8 c t d off x=some r):d.Yo=false/\r.Yo=false:=by
 unfold H8 at h
 split at h
 ·cases h
 ·rename_i n hn
  cases I:xE 0 n&&qL n (xx x).length&&Nat.ble (off+n) (xx d).length with
  | false=>rw[I]at h; cases h
  | true =>
   rw[I,cond_true]at h
   simp only[zI]at I
   have h0:0<n:=V I.1.1
   have h1:=zF I.1.2
   have M:=V I.2
   refine⟨by cases d<;>first | rfl | (simp[xx]at M; omega),?_⟩
   cases hw:qL n (xx d).length with
   | true =>
    rw[hw,cond_true]at h
    cases ha:d.cE && !x.cE with
    | true=>rw[ha,cond_true]at h; cases h; rfl
    | false=>rw[ha,cond_false]at h; cases h; cases x<;>first | rfl | (simp[xx]at h1; omega)
   | false=>rw[hw]at h; cases h; rfl
theorem Xo{τ:Ty}{r:D}{x:den τ}{vs:List Value}(h:ox τ r=some x)(hr:wN O (xx r) vs)(ZM:∀ y∈xx r,y.one=true)(ht:r.bz=false):Rc O.w O.ok τ x vs:=by
 cases r with
 | qj σ y=>obtain⟨rfl,rfl⟩:=wg h; exact Kp _ _ hr
 | agg l =>
  have:=mw (RD.agg l vs hr.1 ZM hr.2) h
  obtain⟨cs,h1,M⟩:=RD.cN this
  have hc:=Us h1.len h1.one
  simp only[Value.cells]at hc
  grind
 | eD l=>cases ht
 | Bg l=>cases h
 | _ =>
  obtain⟨v,r',rfl,h1,M⟩:=wN.cons_inv hr
  have e2:=M.wb
  subst e2
  have h3:=mw h1 h
  obtain⟨cs,h4,h5⟩:=RD.cN h3
  have hag:τ.isAgg=false:=by
   cases hta:τ.isAgg with
   | false=>rfl
   | true=>simp[ox,D.isAgg,hta]at h
  obtain⟨u,rfl⟩:=h4.single hag
  rw[G3 hag]at h5
  rwa [h5]
theorem LM{t:Nat}{a x:Option D}{v u:Value}{d:Option D}{qm:St}(B:Inv O)(ha:∀ z,a=some z->RD O z v)(N:∀ z,x=some z->RD O z u)
  (h:(qu (KI c t a x) O.st).leads (d,qm)):wy c.P (do xF t v u; zJ .skip) O d qm:=by
 unfold KI at h
 split at h
 ·rename_i b off y
  simp only[qu]at h
  split at h
  ·rename_i d0 I
   split at h
   ·rename_i r hr
    cases j3:ZY d0 r with
    | false=>rw[j3]at h; exact h.elim
    | true =>
    rw[j3,cond_true]at h
    simp only[T.leads,Prod.mk.injEq]at h
    obtain⟨rfl,rfl⟩:=h
    obtain⟨n,hn,h0,JD,hle,Ew,ZM,H0⟩:=Bm hr
    cases ha _ rfl with
    | ptr _ _ blk m d1 J hp =>
     obtain⟨pG,m',cs,T,g1,g2,g3,g4,g5⟩:=(B.blk b _ I:kT O b d0).cells (Pb hr).1
     rw[hp]at g1
     cases g1
     have hy:=N _ rfl
     have hfy:=cx hy H0
     have IX:u.cells.toList.length=n:=by rw[<- hfy.1]; exact JD
     have bI:off+n<=cs.size:=by have:=g4.1; simp at this; omega
     have h1:∀ z∈u.cells.toList,z.oneCell'=true:=by
      intro z hz
      obtain⟨i,hi,rfl⟩:=List.getElem_of_mem hz
      exact(hfy.2 i (hfy.1▸hi) hi).KB (cv hy _ (qA _))
     have jM:=Qs (c:=c) (O:=O) hn IX h1 g2 bI
     have K8:Alike (.var d0) (.var r):=trivial
     let mz:=(cs.toList.take off++u.cells.toList++cs.toList.drop (off+n)).toArray
     have hex:=UH (cs:=mz) (x:=.var r) B hp I K8
     refine⟨O.upd b blk mz (.var r),.skip,undef,?_,.inr ⟨rfl,rfl⟩,rfl,UI B hp I K8 ?_,hex,λ_ he=>by cases he⟩
     ·simp only[zH,xF,Instr.sureAddr,qF,Y,jM]; rfl
     ·refine .mk (Pb hr).2 ⟨blk,m,mz,T,hp,setRow_heap _ _ _ _ _ _ g2,?_,?_,ZM g5.1 (cv hy),CS j3 g5.2⟩
      ·grind
      ·rw[Ew]; exact(tD g4 hfy off n).mono hex
   ·exact h.elim
  ·exact h.elim
 ·rename_i b vi e idx off y
  simp only[qu]at h
  split at h
  ·rename_i dD e' xs I
   cases he:decide (e'=e)with
   | false=>rw[he]at h; exact h.elim
   | true =>
    rw[he,cond_true]at h
    have IN:e'=e:=uB he
    subst IN
    obtain⟨⟨rfl,wM⟩,h⟩:=h
    split at h
    ·rename_i r hr
     split at h
     ·rename_i z hz
      simp only[T.leads,Prod.mk.injEq]at h
      obtain⟨rfl,rfl⟩:=h
      obtain⟨n,hn,h0,JD,hle,Ew,ZM,H0⟩:=Bm hr
      cases ha _ rfl with
      | gG _ _ _ _ _ blk o hold hp =>
       obtain⟨m,p1,rfl⟩:=hp xs I wM
       obtain⟨bI,⟨Yh,_⟩ | ⟨pG,n',cs,T,g1,g2,g3,g4,gr,f,g5⟩⟩:=B.blk b _ I
       ·grind
       ·rw[p1]at g1
        cases g1
        rw[getD_lt wM]at hr Ew hle ZM
        have hy:=N _ rfl
        have hfy:=cx hy H0
        have IX:u.cells.toList.length=n:=by rw[<- hfy.1]; exact JD
        obtain⟨k1,k2⟩:=g5 idx wM
        have Eu:=k1.len
        have GV:off+n<=e'.size:=by simpa[xx,VT]using hle
        have zrX:idx*e'.size+e'.size<=xs.length*e'.size:=by rw[<- qB]; exact X _ wM
        have RN:idx*e'.size+off+n<=cs.size:=Z
        have h1:∀ z∈u.cells.toList,z.oneCell'=true:=by
         intro z hz
         obtain⟨i,hi,rfl⟩:=List.getElem_of_mem hz
         exact(hfy.2 i (hfy.1▸hi) hi).KB (cv hy _ (qA _))
        have jM:=Qs (c:=c) (O:=O) hn IX h1 g2 RN
        have K8:Alike (.arr vi e' xs) (.arr vi e' (xs.set idx z)):=⟨rfl,zE _,λ_=>qz⟩
        let mz:=(cs.toList.take (idx*e'.size+off)++u.cells.toList++cs.toList.drop (idx*e'.size+off+n)).toArray
        have hex:=UH (cs:=mz) (x:=.arr vi e' (xs.set idx z)) B p1 I K8
        refine⟨O.upd b blk mz (.arr vi e' (xs.set idx z)),.skip,undef,?_,.inr ⟨rfl,rfl⟩,rfl,UI B p1 I K8 ?_,hex,λ_ he=>by cases he⟩
        ·simp only[zH,xF,Instr.sureAddr,qF,Y,jM]; rfl
        ·have hlen:mz.size=cs.size:=by simp[mz,IX]; omega
         refine⟨bI,.inr ⟨blk,m,mz,T,p1,setRow_heap _ _ _ _ _ _ g2,by rw[hlen]; exact g3,by simpa using g4,?_⟩⟩
         -- cells of the element that is written
         let fi:=(f idx).take off++u.cells.toList++(f idx).drop (off+n)
         have zn7:wN O (xx r) fi:=by
          rw[Ew]
          exact tD (X0 k1) hfy off n
         have hrt:r.bz=false:=by
          cases r with
          | eD l =>
           have h6:=congrArg zS Ew
           rw[zK,zK,JD]at h6
           have h7:(xx (D.eD l)).length=0:=rfl
           omega
          | _=>rfl
         have Ds:=Xo hz zn7 (ZM (rj _ _) (cv hy)) hrt
         have GR:∀ p,mz[p]? = if p<idx*e'.size+off then cs[p]? else if p<idx*e'.size+off+n then u.cells.toList[p-(idx*e'.size+off)]? else cs[p]? := by
          intro p
          have:=Vo (cs:=cs.toList) (us:=u.cells.toList) IX (by simpa using RN) p
          simpa only[mz,xA,zV]using this
         have zn6:∀ j,fi[j]? = if j<off then(f idx)[j]? else if j<off+n then u.cells.toList[j-off]? else(f idx)[j]? := λj=>Vo IX (Z) j
         refine⟨gr,λi=>if i=idx then fi else f i,λi hi => ?_⟩
         rw[List.length_set]at hi
         by_cases hii:i=idx
         ·subst hii
          simp only[if_true,List.getElem_set_self]
          refine⟨Ds.mono hex.same,λj w hj => ?_⟩
          rw[zn6]at hj
          rw[GR]
          split at hj
          ·rw[if_pos (Z)]; exact k2 j w hj
          ·split at hj
           ·rw[if_neg (Z),if_pos (Z)]; rw[<- hj]; congr 1; omega
           ·rw[if_neg (Z),if_neg (Z)]; exact k2 j w hj
         ·simp only[if_neg hii]
          obtain⟨q1,q2⟩:=g5 i hi
          refine⟨by rw[List.getElem_set_ne (λe=>hii e.symm)]; exact q1.mono hex.same,λj w hj => ?_⟩
          have T4:j<e'.size:=by rw[<- q1.len]; exact(zA.1 hj).1
          rw[GR]
          rcases Nat.lt_or_gt_of_ne hii with GX | hgt'
          ·have:i*e'.size+e'.size<=idx*e'.size:=by rw[<- qB]; exact X _ GX
           rw[if_pos (Z)]; exact q2 j w hj
          ·have:idx*e'.size+e'.size<=i*e'.size:=by rw[<- qB]; exact X _ hgt'
           rw[if_neg (Z),if_neg (Z)]; exact q2 j w hj
     ·exact h.elim
    ·exact h.elim
  ·exact h.elim
 ·exact absurd h zh
end
end Go.AM
namespace Go.AM
set_option linter.unusedSectionVars false
variable [yY]
section
variable {c:Ctx} {O:KS}
theorem Jz:∀ (vs:List Value) (cells:Array Value) (off k:Nat),off+k+vs.length<=cells.size ->
  ((vs.zipIdx k).foldl (λ(cs:Array Value) (p:Value×Nat)=>cs.setIfInBounds (off+p.2) p.1) cells).toList=cells.toList.take (off+k)++vs++cells.toList.drop (off+k+vs.length)
 | [],cells,off,k,_=>qz
 | v::vs,cells,off,k,h=>by
  simp only[qV]at h
  simp only[List.zipIdx_cons,List.foldl_cons]
  rw[Jz vs _ off (k+1) (by simp; omega)]
  have wM:off+k<cells.toList.length:=by simp; omega
  simp only[Array.toList_setIfInBounds,qV]
  have e1:(cells.toList.set (off+k) v).take (off+(k+1))=cells.toList.take (off+k)++[v]:=by
   rw[show off+(k+1)=off+k+1 by omega,qJ (by simpa using wM)]
   rw[List.take_set_of_le (zE _)]
   simp
  have e2:(cells.toList.set (off+k) v).drop (off+(k+1)+vs.length)=cells.toList.drop (off+k+(vs.length+1)):=by
   rw[List.drop_set_of_lt (Z)]
   grind
  grind
theorem Ec{place:Nat->Option (Nat×Nat)}{cells:Array Value}{i off size:Nat}{v:Value}{rest:List (Nat×Value)}(hp:place i=some (off,size))(hs:v.cells.toList.length=size)(hle:off+size<=cells.size) :
  qH place cells ((i,v)::rest)=qH place (cells.toList.take off++v.cells.toList++cells.toList.drop (off+size)).toArray rest:=by
 have hs':v.cells.size=size:=by simpa using hs
 have hf:=Jz v.cells.toList cells off 0 (xy)
 simp only[hs]at hf
 conv=>lhs; unfold qH
 simp only[hp]
 rw[if_neg (xy)]
 congr 1
 apply Array.ext'
 rw[<- Array.foldl_toList,Array.toList_zipIdx]
 exact hf
theorem HM{e:Ty}{x:den e}{v:Value}(h:RD O (.qj e x) v):Rc O.w O.ok e x v.cells.toList:=by
 obtain⟨cs,h1,rfl⟩:=RD.cN h
 rw[Us h1.len h1.one]; exact h1
theorem HG{e:Ty}{F:Operand->Option D}{G:Operand->Value}(hF:∀ x d,F x=some d->RD O d (G x)):∀ (L:List (Nat×Operand)) (k:Nat) (cells:Array Value) (l:List (den e)),
  HF e k (L.map λp=>(p.1,F p.2))=some l->(k+L.length)*e.size<=cells.size ->
  ∃ pJ,qH (λi=>some (i*e.size,e.size)) cells (L.map λp=>(p.1,G p.2))=some pJ/\pJ.size=cells.size/\(∀ p,p<k*e.size->pJ[p]? = cells[p]?)/\l.length=L.length /\
   ∃ f:Nat->List Value,∀ i (hi:i<l.length),Rc O.w O.ok e l[i] (f i)/\∀ j v,(f i)[j]? = some v->pJ[(k+i)*e.size+j]? = some v
 | [],k,cells,l,h,_=>by
  simp only[List.map_nil,HF,Option.some.injEq]at h
  subst h
  exact⟨cells,rfl,rfl,λ_ _=>rfl,rfl,λ_=>[],λi hi=>absurd hi (zW i)⟩
 | (i,x)::L,k,cells,l,h,hle=>by
  simp only[List.map_cons]at h
  cases N:F x with
  | none=>rw[N]at h; simp[HF]at h
  | some d =>
   rw[N]at h
   simp only[HF]at h
   cases I:qL k i with
   | false=>grind
   | true =>
    have hik:k=i:=zF I
    subst hik
    rw[I,cond_true]at h
    split at h
    ·rename_i y l' hy IV
     cases h
     have hr:=HM (mw (hF x d N) hy)
     have hlen:=hr.len
     simp only[qV]at hle
     have hk1:(k+(L.length+1))*e.size=k*e.size+e.size+L.length*e.size:=by rw[qD,qD]; omega
     have eA:k*e.size+e.size<=cells.size:=Z
     let c1:=(cells.toList.take (k*e.size)++(G x).cells.toList++cells.toList.drop (k*e.size+e.size)).toArray
     have RE:c1.size=cells.size:=by simp only[c1,zY,zK,zU,qK,hlen,qG]; omega
     have hg:∀ p,c1[p]? = if p<k*e.size then cells[p]? else if p<k*e.size+e.size then(G x).cells.toList[p-k*e.size]? else cells[p]? := by
      grind
     obtain⟨pJ,h1,M,h3,h4,f,h5⟩:=HG hF L (k+1) c1 l' IV (by rw[RE,show k+1+L.length=k+(L.length+1) by omega]; exact hle)
     refine⟨pJ,?_,M.trans RE,?_,by simp[h4],λi=>match i with | 0=>(G x).cells.toList | i+1=>f i,?_⟩
     ·simp only[List.map_cons]
      rw[Ec rfl hlen eA]
      exact h1
     ·grind
     ·intro i hi
      cases i with
      | zero =>
       grind
      | succ i =>
       have:=h5 i (by simpa using hi)
       rw[show k+1+i=k+(i+1) by omega]at this
       exact this
    ·cases h
theorem sy{t n:Nat}(h:pH c t=some n):∃ i,c.P.info? t=some i/\i.bytes=n:=by
 unfold pH at h
 cases hi:c.P.info? t with
 | none=>grind
 | some i=>grind
theorem fE{et:Nat}{e:Ty}{z:den e}(h:zeroOf c et e=some z):∃ i v,c.P.info? et=some i/\i.zero=some v/\Rc O.w O.ok e z v.cells.toList:=by
 unfold zeroOf at h
 split at h
 ·rename_i d J
  obtain⟨i,v,h1,M,h3⟩:=sq J
  exact⟨i,v,h1,M,HM (mw (h3.rd O) h)⟩
 ·cases h
theorem K6{t n:Nat}{L:List (Nat×Operand)}{F:Operand->Option D}{G:Operand->Value}{d:Option D}{qm:St}(B:Inv O)(hF:∀ x d,F x=some d->RD O d (G x))
  (h:(qu (bO c t n (L.map λp=>(p.1,F p.2))) O.st).leads (d,qm)) :
  wy c.P (do zJ (.value (<- zQ t n (L.map λp=>(p.1,G p.2)).toArray))) O d qm:=by
 unfold bO at h
 split at h
 ·exact absurd h zh
 ·rename_i et het
  have hu:=yJ het
  split at h
  ·rename_i e ML
   cases I:bZ c et e&&qL n (L.map λp=>(p.1,F p.2)).length&&Nat.ble n 1000&&Nat.ble e.size 100&&(zeroOf c et e).isSome with
   | false=>rw[I]at h; exact absurd h zh
   | true =>
    rw[I,cond_true]at h
    simp only[zI]at I
    obtain⟨⟨⟨⟨j3,hn⟩,h1⟩,M⟩,h3⟩:=I
    have hn':n=L.length:=by have:=zF hn; simpa using this
    have GD:=V h1
    have h2':=V M
    obtain⟨hs,_⟩:=ke j3
    obtain⟨z,hz⟩:=zZ.1 h3
    obtain⟨i,zv,Cn,UN,hi3⟩:=fE (O:=O) hz
    split at h
    ·rename_i l R
     cases FU:qL n 0&&xE 0 e.size with
     | true =>
     rw[FU,cond_true]at h
     simp only[zI]at FU
     obtain⟨FU,bI⟩:=FU
     have RN:0<e.size:=V bI
     have T5:=zF FU
     have hL:L=[]:=zM (hn'.symm.trans T5)
     subst hL
     subst T5
     simp only[qu,T.leads,Prod.mk.injEq]at h
     obtain⟨rfl,rfl⟩:=h
     have g:=mM.alloc O.w (.cells #[] et)
     have hex:=Zh (n:=0) (x:=.arr 0 e ([]:List (den e))) B g
     have jM:(zQ t 0 (([]:List (Nat×Operand)).map λp=>(p.1,G p.2)).toArray).run c.P O.w=.ok (.slice (some ⟨O.w.heap.size,0,none⟩) 0 0) (O.w.alloc (.cells #[] et)):=by
      simp[zQ,zH,run_underlying hu,Y,run_sizeOf hs,qH,newRow]
      grind
     refine⟨O.add _ 0 (.arr 0 e []),_,.slice (some ⟨O.w.heap.size,0,none⟩) 0 0,by simp only[zH,jM,Y]; rfl,.inl rfl,rfl,Vy B g ?_,hex,?_⟩
     ·exact⟨RN,.inr ⟨O.w.heap.size,0,#[],et,tn B,g.new,rfl,qz,Um j3,λ_=>[],λi hi=>absurd hi (zW i)⟩⟩
     ·intro d' eb
      cases eb
      refine .ms _ 0 e 0 0 0 _ (.inr ⟨0,e,_,QE,zE _⟩) (Z) nofun (λp hp=>by cases hp; rfl) λxs Yj => ?_
      rw[QE]at Yj
      cases Yj
      exact⟨qz,.inr ⟨O.w.heap.size,0,0,0,tn B,rfl,Z,qz,.inl rfl⟩⟩
     | false =>
     rw[FU,cond_false,du]at h
     obtain⟨rfl,rfl⟩:=h
     subst hn'
     have hle:L.length*e.size<=100000:=qN (Nat.mul_le_mul GD h2') (xn)
     have hzs:zv.cells.size=e.size:=by have:=hi3.len; simpa using this
     let cells:Array Value:=(xK (L.length*e.size)).map ((if L.length*e.size=0 then #[]else zv.cells)[· % (if L.length*e.size=0 then #[]else zv.cells).size]!)
     have QB:cells.size=L.length*e.size:=by simp[cells]
     obtain⟨pJ,g1,g2,_,g4,f,g5⟩:=HG hF L 0 cells l R (by rw[QB]; simp)
     have g:=mM.alloc O.w (.cells pJ et)
     have hex:=XR B g
     refine⟨O.qj _,_,.slice (some ⟨O.w.heap.size,0,none⟩) L.length L.length,?_,.inl rfl,rfl,cN B g,hex,?_⟩
     ·have Ev:qH (λi=>some (i*e.size,e.size)) cells (L.map λp=>(p.1,G p.2))=some pJ:=g1
      simp only[cells]at Ev
      simp only[zQ,zH,run_underlying hu,Y,run_sizeOf hs,gt_iff_lt,if_neg (show ¬ 2 ^ 24<L.length*e.size by omega)]
      by_cases h0:L.length*e.size=0
      ·simp only[if_pos h0]at Ev ⊢
       simp only[zH,qF,Y,Ev]
       rfl
      ·simp only[if_neg h0]at Ev ⊢
       simp only[zH,qF,Y,zeroValue,typeInfo,run_program,Cn,UN,Ev]
       rfl
     ·intro d' eb
      cases eb
      have eA:∀ i,i<l.length->∀ j v,(f i)[j]? = some v->(O.qj (O.w.alloc (.cells pJ et))).w.cell? ⟨O.w.heap.size,0+i*e.size+j,none⟩=some v:=by
       intro i hi j v hj
       have:=(g5 i hi).2 j v hj
       simp only[qE]at this ⊢
       rw[XX (O:=O.qj (O.w.alloc (.cells pJ et))) g.new]
       exact this
      rw[<- g4]
      refine .tight e l _ O.w.heap.size 0 f ?_ (.inr rfl) (λi hi=>(g5 i hi).1.mono hex.same) eA
      intro kf Yh
      subst Yh
      simp at g4
      simp[<- g4]at kf
    ·exact absurd h zh
  ·exact absurd h zh
end
end Go.AM
namespace Go.AM
set_option linter.unusedSectionVars false
variable [yY]
section
variable {c:Ctx} {O:KS}
theorem Sn{t:Nat}{x y:Option D}{v u:Value}{d:Option D}{qm:St}(B:Inv O)(N:∀ z,x=some z->RD O z v)(hy:∀ z,y=some z->RD O z u)
  (h:(qu (L8 c t x y) O.st).leads (d,qm)):wy c.P (do zJ (.value (<- qY t v u))) O d qm:=by
 unfold L8 at h
 split at h
 ·rename_i et k n k' m het hn hm
  have hu:=yJ het
  have:=kz hn N
  subst this
  have:=kz hm hy
  subst this
  split at h
  ·rename_i e bytes ML Cl
   split at h
   ·rename_i z hz
    cases I:bZ c et e&&xE 0 e.size with
    | false=>rw[I]at h; exact absurd h zh
    | true =>
     rw[I,cond_true]at h
     simp only[zI]at I
     obtain⟨j3,bI⟩:=I
     have RN:0<e.size:=V bI
     obtain⟨hs,_⟩:=ke j3
     simp only[qu,T.leads,Prod.mk.injEq]at h
     obtain⟨⟨h0,h1,M,h3⟩,rfl,rfl⟩:=h
     obtain⟨i,zv,Cn,UN,hi3⟩:=fE (O:=O) hz
     obtain⟨ib,zfQ,zn9⟩:=sy Cl
     obtain⟨i',zfO,zrW⟩:=mm hs
     rw[Cn]at zfQ zfO
     cases zfQ
     cases zfO
     have hzs:zv.cells.size=e.size:=by have:=hi3.len; simpa using this
     let hx:=m.toNat*e.size
     let cells:Array Value:=(xK hx).map (zv.cells[· % zv.cells.size]!)
     have QB:cells.size=hx:=by simp[cells]
     have jM:(qY t (.int k n) (.int k' m)).run c.P O.w=.ok (.slice (some ⟨O.w.heap.size,0,none⟩) n.toNat m.toNat) (O.w.alloc (.cells cells et)):=by
      have w1:IntKind.i64.wrap n=n:=IntWalk.i64_in _ (Z)
      have w2:IntKind.i64.wrap m=m:=IntWalk.i64_in _ (Z)
      have hmb:¬ ((2:Int) ^ 48<bytes*m):=by
       grind
      have ai:∀ k n w,(Go.asInt (.int k n)).run c.P w=.ok n w:=λk n w=>by simp[Go.asInt,asIntOf]
      have hm0:¬ (m<0):=Z
      have T5:¬ (n<0):=Z
      have hnm:¬ (m<n):=Z
      simp only[qY,zH,run_underlying hu,Y,ai,typeInfo,run_program,Cn,zn9,w1,w2,qF,gt_iff_lt,hm0,T5,hnm,hmb,decide_false,Bool.or_self,Bool.false_eq_true,if_false,run_askRoom,run_sizeOf hs]
      by_cases FU:m.toNat*e.size=0
      ·have hce:cells = #[]:=Array.eq_empty_of_size_eq_zero (by rw[QB]; exact FU)
       have e2:∀ g:Nat->Value,(xK (m.toNat*e.size)).map g = #[]:=λg=>by rw[FU]; simp
       simp only[if_pos FU,zH,qF,Y,newRow,run_newObj,e2]
       rw[hce]
       rfl
      ·simp only[if_neg FU,zH,qF,Y,newRow,run_newObj,zeroValue,typeInfo,run_program,Cn,UN]
       rfl
     have g:=mM.alloc O.w (.cells cells et)
     have hex:=Zh (n:=hx) (x:=.arr n.toNat e (List.replicate n.toNat z)) B g
     refine⟨O.add _ hx (.arr n.toNat e (List.replicate n.toNat z)),_,.slice (some ⟨O.w.heap.size,0,none⟩) n.toNat m.toNat,by simp only[zH,jM,Y]; rfl,.inl rfl,rfl,Vy B g ?_,hex,?_⟩
     ·refine⟨RN,.inr ⟨O.w.heap.size,hx,cells,et,tn B,g.new,QB,?_,Um j3,λ_=>zv.cells.toList,λi hi => ?_⟩⟩
      ·rw[xB]; exact X _ (Z)
      ·rw[xB]at hi
       refine⟨by rw[List.getElem_replicate]; exact hi3.mono hex.same,λj w hj => ?_⟩
       have T4:j<e.size:=by rw[<- hi3.len]; exact(zA.1 hj).1
       have wM:i*e.size+j<hx:=by
        have:i*e.size+e.size<=hx:=by rw[<- qB]; exact X _ (Z)
        omega
       have zbG:(i*e.size+j) % e.size=j:=by rw[Nat.mul_comm,Nat.mul_add_mod,Nat.mod_eq_of_lt T4]
       grind
     ·intro d' eb
      cases eb
      refine .ms _ n.toNat e 0 n.toNat m.toNat _ (.inr ⟨n.toNat,e,_,QE,zE _⟩) (Z) nofun (λp hp=>by cases hp; rfl) λxs Yj => ?_
      rw[QE]at Yj
      cases Yj
      refine⟨qz,.inr ⟨O.w.heap.size,hx,0,m.toNat,tn B,rfl,Z,by simp[hx],.inr (qz)⟩⟩
   ·exact absurd h zh
  ·exact absurd h zh
 ·exact absurd h zh
end
end Go.AM
namespace Go.AM
set_option linter.unusedSectionVars false
variable [yY]
section
variable {c:Ctx} {O:KS}
def dU(f:Nat->List Value):Nat->List Value
 | 0=>[]
 | n+1=>dU f n++f n
theorem gx{f:Nat->List Value}{s:Nat}:∀ {n:Nat},(∀ i,i<n->(f i).length=s)->(dU f n).length=n*s
 | 0,_=>by simp[dU]
 | n+1,h=>by rw[dU,zK,gx (λi hi=>h i (Z)),h n (Z),qD]; omega
theorem tU{f:Nat->List Value}{s:Nat}:∀ {n:Nat},(∀ i,i<n->(f i).length=s)->∀ i j,i<n->j<s->(dU f n)[i*s+j]? = (f i)[j]?
 | 0,_,i,_,hi,_=>absurd hi (zW i)
 | n+1,h,i,j,hi,hj=>by
  have R:=gx (f:=f) (n:=n) (λi hi=>h i (Z))
  rw[dU]
  by_cases J4:i<n
  ·have:i*s+s<=n*s:=by rw[<- qB]; exact X _ J4
   rw[zG (Z)]
   exact tU (λi hi=>h i (Z)) i j J4 hj
  ·grind
theorem HH{f:Nat->List Value}:∀ {n:Nat},(∀ i,i<n->∀ v∈f i,v.oneCell'=true)->∀ v∈dU f n,v.oneCell'=true
 | 0,_,v,hv=>by simp[dU]at hv
 | n+1,h,v,hv=>by
  rw[dU,qZ]at hv
  rcases hv with hv | hv
  ·exact HH (λi hi=>h i (Z)) v hv
  ·grind
theorem Ed{f:Nat->List Value}{s:Nat}{n p:Nat}{v:Value}(hs:0<s)(h:∀ i,i<n->(f i).length=s)(hp:(dU f n)[p]? = some v):∃ i j,i<n/\j<s/\p=i*s+j/\(f i)[j]? = some v:=by
 have wM:=(zA.1 hp).1
 rw[gx h]at wM
 have hi:p / s<n:=(Nat.div_lt_iff_lt_mul hs).2 wM
 have hj:=Nat.mod_lt p hs
 have he:p / s*s+p % s=p:=Nat.div_add_mod' p s
 refine⟨p / s,p % s,hi,hj,he.symm,?_⟩
 rw[<- tU h _ _ hi hj,he]; exact hp
def T9(O:KS):Nat->Prop:=λk=>O.ok k\/∃ b n:Nat,O.ph[b]? = some (some (k,n))
structure Src(O:KS)(e:Ty)(ys:List (den e))(v:Value):Prop where
 ex:∃ (a:Option Addr) (cap:Nat) (f:Nat->List Value),v=.slice a ys.length cap/\ys.length<=cap/\(a=none->ys=[]/\cap=0)/\(∀ i (hi:i<ys.length),Rc O.w O.ok e ys[i] (f i)) /\
  ∀ p,a=some p->(ys=[]/\cap=0)\/(p.spot=none/\T9 O p.block/\∀ i,i<ys.length->∀ j u,(f i)[j]? = some u->O.w.cell? ⟨p.block,p.off+i*e.size+j,none⟩=some u)
theorem D3{e:Ty}{ys:List (den e)}{v:Value}(h:RD O (.qj (.sl e) ys) v):Src O e ys v:=by
 rcases(h.jG rfl).tB with⟨rfl,a0,he⟩ | ⟨blk,off,cap,f,he,j3,jg,h1,M⟩
 ·cases he; exact⟨⟨a0,0,λ_=>[],rfl,zE _,λ_=>⟨rfl,rfl⟩,λi hi=>absurd hi (zW i),λ_ _=>.inl ⟨rfl,rfl⟩⟩⟩
 ·cases he; exact⟨⟨some ⟨blk,off,none⟩,cap,f,rfl,jg,nofun,h1,λp hp=>by cases hp; exact .inr ⟨rfl,.inl j3,M⟩⟩⟩
theorem Wh{e:Ty}{ys:List (den e)}{ne:Bool}{v:Value}(h:RD O (.tight e ys ne) v):Src O e ys v:=by
 cases h with
 | vz _ a0=>exact⟨⟨a0,0,λ_=>[],rfl,zE _,λ_=>⟨rfl,rfl⟩,λi hi=>absurd hi (zW i),λ_ _=>.inl ⟨rfl,rfl⟩⟩⟩
 | tight _ _ _ blk off f kf j3 h1 M=>exact⟨⟨some ⟨blk,off,none⟩,_,f,rfl,zE _,nofun,h1,λp hp=>by cases hp; exact .inr ⟨rfl,.inl j3,M⟩⟩⟩
theorem KH{e:Ty}{v:Value}(h:RD O .wE v):Src O e [] v:=by
 cases h; exact⟨⟨none,0,λ_=>[],rfl,zE _,λ_=>⟨rfl,rfl⟩,λi hi=>absurd hi (zW i),nofun⟩⟩
theorem LH{b vi off len:Nat}{e:Ty}{xs:List (den e)}{v:Value}(B:Inv O)(h:RD O (.ms b vi e off len) v)(I:O.st[b]? = some (.arr vi e xs)):Src O e ((xs.take (off+len)).drop off) v/\off+len<=xs.length:=by
 cases h with
 | ms _ _ _ _ _ cap a hold jg ha Ws hm =>
  obtain⟨hle,hm⟩:=hm xs I
  have R:((xs.take (off+len)).drop off).length=len:=by simp; omega
  have hg:∀ i (hi:i<((xs.take (off+len)).drop off).length),∃ h:off+i<xs.length,((xs.take (off+len)).drop off)[i]=xs[off+i]:=λi hi=>⟨Z,by simp[List.getElem_drop,List.getElem_take]⟩
  refine⟨?_,hle⟩
  rcases hm with⟨rfl,rfl,hv,hp⟩ | ⟨blk,n,o,VD,h3,h4,h5,h6,h7⟩
  ·cases hv
   have:(xs.take (0+0)).drop 0=[]:=qz
   rw[this]
   exact⟨⟨none,0,λ_=>[],rfl,zE _,λ_=>⟨rfl,rfl⟩,λi hi=>absurd hi (zW i),nofun⟩⟩
  ·cases h4
   obtain⟨bI,⟨Yh,_⟩ | ⟨pG,n',cs,T,g1,g2,g3,g4,gr,f,g5⟩⟩:=B.blk b _ I
   ·grind
   ·rw[h3]at g1
    cases g1
    refine⟨⟨some ⟨blk,o,none⟩,cap,λi=>f (off+i),by rw[R],by rw[R]; exact jg,nofun,λi hi => ?_,λp hp => ?_⟩⟩
    ·grind
    ·cases hp
     refine .inr ⟨rfl,.inr ⟨b,n,h3⟩,λi hi j u hj => ?_⟩
     obtain⟨k1,_⟩:=hg i hi
     have:=(g5 _ k1).2 j u hj
     rw[XX g2]
     rcases h7 with h7 | h7
     ·omega
     ·rw[h7,<- qD]; exact this
theorem Wg{e:Ty}{ys:List (den e)}{v:Value}(h:Src O e ys v)(bI:0<e.size):∃ (news:List Value) (f:Nat->List Value),news=dU f ys.length/\(∀ i (hi:i<ys.length),Rc O.w O.ok e ys[i] (f i)) /\
  (∀ P,(qS v).run P O.w=.ok ys.length O.w)/\(∀ P,(zO e.size ys.length v).run P O.w=.ok news.toArray O.w)/\(∀ P,(zO e.size ys.length v).run P O.w.drew=.ok news.toArray O.w.drew):=by
 obtain⟨a,cap,f,rfl,_,hn,h1,M⟩:=h.ex
 have hf:∀ i,i<ys.length->(f i).length=e.size:=λi hi=>(h1 i hi).len
 refine⟨dU f ys.length,f,rfl,h1,λP=>rfl,λP => ?_,λP => ?_⟩
 all_goals
  cases a with
  | none=>have:=(hn rfl).1; subst this; simp[zO,dU]
  | some p =>
   rcases M p rfl with⟨rfl,_⟩ | ⟨hp,_,hc⟩
   ·simp[zO,dU,loadCells,loadCellsFrom]
   obtain⟨blk,o,sp⟩:=p
   subst hp
   refine run_firstCells_some (P:=P) _ e.size ys.length ⟨blk,o,none⟩ ys.length cap (dU f ys.length) (gx hf) λj u hj => ?_
   obtain⟨i,k,hi,hk,rfl,hu⟩:=Ed bI hf hj
   rw[addr_add]
   try rw[World.cell?_drew]
   grind
structure Cel(O:KS)(e:Ty)(ys:List (den e))(v:Value):Prop where
 ex:∃ (news:List Value) (f:Nat->List Value),news=dU f ys.length/\(∀ i (hi:i<ys.length),Rc O.w O.ok e ys[i] (f i)) /\
  (∀ P,(qS v).run P O.w=.ok ys.length O.w)/\(∀ P,(zO e.size ys.length v).run P O.w=.ok news.toArray O.w)/\(∀ P,(zO e.size ys.length v).run P O.w.drew=.ok news.toArray O.w.drew)
theorem z8N{e:Ty}{ys:List (den e)}{v:Value}(h:Src O e ys v)(bI:0<e.size):Cel O e ys v:=⟨Wg h bI⟩
def R4(c:Ctx)(t2:TypeId):Prop:=(∃ e,c.P.underlying t2=some (.slice e))\/c.P.underlying t2=some .string
section run
variable {t t2 e:TypeId} {i:TypeInfo} {z:Value} {sLen sCap n:Nat} {base:Option Addr} {x:Value} {news olds:List Value} {ty:TypeId}
theorem run_append_fits(ht:c.P.underlying t=some (.slice e))(RO:R4 c t2)(hi:c.P.info? e=some i)(hlen:∀ P,(qS x).run P O.w=.ok n O.w)(hf:∀ P,(zO i.size n x).run P O.w=.ok news.toArray O.w)
  (Qr:sLen+n<=sCap) {w':World} (vX:(match base with | some a=>storeCells (a.add (sLen*i.size)) news | none=>pure ()).run c.P O.w=.ok () w') :
  (zL #[t,t2] ty #[.slice base sLen sCap,x]).run c.P O.w=.ok (.slice base (sLen+n) sCap) w':=by
 rcases RO with⟨e2,RO⟩ | RO
 all_goals cases base with
 | none=>simp at vX; subst vX; simp[zL,run_underlying ht,run_underlying RO,sizeOf,typeInfo,hi,hlen,Qr,hf]
 | some a=>simp only at vX; simp[zL,run_underlying ht,run_underlying RO,sizeOf,typeInfo,hi,hlen,Qr,hf,vX]
theorem rU(ht:c.P.underlying t=some (.slice e))(RO:R4 c t2)(hi:c.P.info? e=some i)(hz:i.zero=some z)(hlen:∀ P,(qS x).run P O.w=.ok n O.w)(hf:∀ P,(zO i.size n x).run P O.w.drew=.ok news.toArray O.w.drew)
  (ho:∀ P,(zO i.size sLen (.slice base sLen sCap)).run P O.w.drew=.ok olds.toArray O.w.drew)
  (hg:sCap<sLen+n) (h63:((sLen+n:Nat):Int)<=9223372036854775807) (I:(sLen+n)*i.bytes<=140737488355328) :
  (zL #[t,t2] ty #[.slice base sLen sCap,x]).run c.P O.w=.ok (.slice (some ⟨O.w.heap.size,0,none⟩) (sLen+n) (grownCap O.w (sLen+n) sCap e))
   (O.w.drew.alloc (.cells (olds.toArray++news.toArray++zX z.cells (grownCap O.w (sLen+n) sCap e-(sLen+n))) e)):=by
 have h1:¬ (sLen+n<=sCap):=Z
 have M:¬ (9223372036854775807<((sLen+n:Nat):Int)):=Z
 have h3:=growslice_fits (bytes:=i.bytes) hg I
 have h4:¬ (281474976710656<Builtin.nextslicecap (sLen+n) sCap*i.bytes):=Z
 have h5:IntKind.i64.max=9223372036854775807:=xn
 rcases RO with⟨e2,RO⟩ | RO
 all_goals
  simp[zL,run_underlying ht,run_underlying RO,sizeOf,typeInfo,zeroValue,hi,hz,hlen,hf,ho,Question.forced,newRow,grownCap]
  grind
end run
theorem XD(z:Array Value)(n:Nat):(zX z n).size=n*z.size:=by simp[zX]
theorem Yr{e:Ty}{l ys:List (den e)}{f g:Nat->List Value}(R:∀ i (hi:i<l.length),Rc O.w O.ok e l[i] (f i))(hy:∀ i (hi:i<ys.length),Rc O.w O.ok e ys[i] (g i))(zs:List Value) :
  ∀ i (hi:i<(l++ys).length),Rc O.w O.ok e (l++ys)[i] (if i<l.length then f i else g (i-l.length)) /\
   ∀ j v,(if i<l.length then f i else g (i-l.length))[j]? = some v->(dU f l.length++dU g ys.length++zs)[i*e.size+j]? = some v:=by
 have JD:∀ i,i<l.length->(f i).length=e.size:=λi hi=>(R i hi).len
 have T1:∀ i,i<ys.length->(g i).length=e.size:=λi hi=>(hy i hi).len
 have h1:=gx JD
 have M:=gx T1
 intro i hi
 by_cases RH:i<l.length
 ·simp only[if_pos RH]
  refine⟨xy,λj v hj => ?_⟩
  have T4:j<e.size:=by rw[<- JD i RH]; exact(zA.1 hj).1
  have:i*e.size+e.size<=l.length*e.size:=by rw[<- qB]; exact X _ RH
  rw[qI,zG (Z),tU JD i j RH T4]
  exact hj
 ·simp only[if_neg RH]
  simp only[zK]at hi
  have zbA:i-l.length<ys.length:=Z
  refine⟨xy,λj v hj => ?_⟩
  have T4:j<e.size:=by rw[<- T1 _ zbA]; exact(zA.1 hj).1
  have e1:i*e.size=l.length*e.size+(i-l.length)*e.size:=by rw[<- qD]; congr 1; omega
  have:(i-l.length)*e.size+e.size<=ys.length*e.size:=by rw[<- qB]; exact X _ zbA
  rw[qI,qC (Z),h1,zG (Z)]
  rw[show i*e.size+j-l.length*e.size=(i-l.length)*e.size+j by omega,tU T1 _ j zbA T4]
  exact hj
theorem I7{t t2 et:Nat}{e:Ty}{l ys:List (den e)}{sv v:Value}{bytes:Nat}{ty:Nat}(B:Inv O)(hu:c.P.underlying t=some (.slice et))(MM:R4 c t2)(j3:bZ c et e=true)(bI:0<e.size)(Cl:pH c et=some bytes)(hz:∃ y,zeroOf c et e=some y)
  (hs:Src O e l sv) (jg:∃ a,sv=.slice a l.length l.length) (hv:Cel O e ys v) (kf:ys≠[]) (I:(l.length+ys.length)*bytes<=140737488355328) (hn:l.length+ys.length<=9223372036854775807) :
  ∃ (E:KS) (r:Value),(zL #[t,t2] ty #[sv,v]).run c.P O.w=.ok r E.w/\E.st=O.st++[.arr (l.length+ys.length) e (l++ys)]/\Inv E/\Ext O E/\RD E (.ms O.st.length (l.length+ys.length) e 0 (l.length+ys.length)) r:=by
 obtain⟨T8,_⟩:=ke j3
 obtain⟨i,Cn,UN⟩:=mm T8
 obtain⟨y,hy⟩:=hz
 obtain⟨i',zv,g1,g2,g3⟩:=fE (O:=O) hy
 obtain⟨i'',k1,k2⟩:=sy Cl
 rw[Cn]at g1 k1
 cases g1
 cases k1
 obtain⟨olds,f,ho1,ho2,ho3,ho4,ho5⟩:=Wg hs bI
 obtain⟨news,g,Yg,Co,hn3,hn4,hn5⟩:=hv.ex
 obtain⟨a,hsv⟩:=jg
 subst hsv
 have Wr:0<ys.length:=List.length_pos_iff.2 kf
 have jM:=rU (c:=c) (O:=O) (t:=t) (t2:=t2) (e:=et) (ty:=ty) (base:=a) (sLen:=l.length) (sCap:=l.length) (n:=ys.length) (x:=v) (news:=news) (olds:=olds) hu MM Cn g2 hn3
  (by intro P; rw[UN]; exact hn5 P) (by intro P; rw[UN]; exact ho5 P) (Z) (Z) (by rw[k2]; exact I)
 let C:=grownCap O.w (l.length+ys.length) l.length et
 have hC:l.length+ys.length<=C:=grownCap_ge _ _ _ _
 let zs:=zX zv.cells (C-(l.length+ys.length))
 let cells:=olds.toArray++news.toArray++zs
 have hzs:zs.size=(C-(l.length+ys.length))*e.size:=by have:=g3.len; simp only[qG]at this; simp[zs,XD,this]
 have T7:olds.length=l.length*e.size:=by rw[ho1]; exact gx λi hi=>(ho2 i hi).len
 have hnl:news.length=ys.length*e.size:=by rw[Yg]; exact gx λi hi=>(Co i hi).len
 have QB:cells.size=C*e.size:=by
  simp only[cells,Array.size_append,zY,T7,hnl,hzs,<- qD]
  grind
 have gr:=mM.drew O.w (.cells cells et)
 have hex:=Zh (n:=cells.size) (x:=.arr (l.length+ys.length) e (l++ys)) B gr
 refine⟨O.add _ cells.size (.arr (l.length+ys.length) e (l++ys)),_,jM,rfl,Vy B gr ?_,hex,?_⟩
 ·refine⟨bI,.inr ⟨O.w.heap.size,cells.size,cells,et,tn B,gr.new,rfl,?_,Um j3,λi=>if i<l.length then f i else g (i-l.length),λi hi => ?_⟩⟩
  ·rw[QB,zK]; exact X _ hC
  ·obtain⟨q1,q2⟩:=Yr ho2 Co zs.toList i hi
   refine⟨q1.mono hex.same,λj v hj => ?_⟩
   grind
 ·refine .ms _ (l.length+ys.length) e 0 _ C _ (.inr ⟨l.length+ys.length,e,_,QE,zE _⟩) hC nofun (λp hp=>by cases hp; rfl) λxs Yj => ?_
  rw[QE]at Yj
  cases Yj
  exact⟨qz,.inr ⟨O.w.heap.size,cells.size,0,C,tn B,rfl,hC,by rw[QB]; simp,.inr (qz)⟩⟩
theorem I8{t t2 et:Nat}{e:Ty}{ys:List (den e)}{p:Addr}{v:Value}{bytes:Nat}{ty:Nat}(B:Inv O)(hu:c.P.underlying t=some (.slice et))(MM:R4 c t2)(j3:bZ c et e=true)(bI:0<e.size)(Cl:pH c et=some bytes)(hz:∃ y,zeroOf c et e=some y)
  (hv:Cel O e ys v) (kf:ys≠[]) (I:ys.length*bytes<=140737488355328) (hn:ys.length<=9223372036854775807) :
  ∃ (E:KS) (r:Value),(zL #[t,t2] ty #[.slice (some p) 0 0,v]).run c.P O.w=.ok r E.w/\E.st=O.st/\Inv E/\Ext O E/\RD E (.sr e ys true) r:=by
 obtain⟨T8,_⟩:=ke j3
 obtain⟨i,Cn,UN⟩:=mm T8
 obtain⟨y,hy⟩:=hz
 obtain⟨i',zv,g1,g2,g3⟩:=fE (O:=O) hy
 obtain⟨i'',k1,k2⟩:=sy Cl
 rw[Cn]at g1 k1
 cases g1
 cases k1
 obtain⟨news,g,Yg,Co,hn3,hn4,hn5⟩:=hv.ex
 have Wr:0<ys.length:=List.length_pos_iff.2 kf
 have jM:=rU (c:=c) (O:=O) (t:=t) (t2:=t2) (e:=et) (ty:=ty) (base:=some p) (sLen:=0) (sCap:=0) (n:=ys.length) (x:=v) (news:=news) (olds:=[]) hu MM Cn g2 hn3
  (by intro P; rw[UN]; exact hn5 P) (by intro P; obtain⟨_,_,e1,_,_,_,e5⟩:=Wg (O:=O) (e:=e) (ys:=[]) (v:=.slice (some p) 0 0) (D3 (.qj (.sl e) [] _ (.lB e (some p)))) bI; rw[UN]; have:=e5 P; rw[e1]at this; exact this) (Z) (Z) (by rw[k2,qE]; exact I)
 rw[qE]at jM
 let C:=grownCap O.w ys.length 0 et
 have hC:ys.length<=C:=grownCap_ge _ _ _ _
 let zs:=zX zv.cells (C-ys.length)
 let cells:=([]:List Value).toArray++news.toArray++zs
 have gr:=mM.drew O.w (.cells cells et)
 have hex:=XR B gr
 have Ds:Rc (O.qj (O.w.drew.alloc (.cells cells et))).w (O.qj (O.w.drew.alloc (.cells cells et))).ok (.sl e) ys [.slice (some ⟨O.w.heap.size,0,none⟩) ys.length C]:=by
  refine .sl e ys O.w.heap.size 0 C g (.inr rfl) hC (λi hi=>(Co i hi).mono hex.same) λi hi j u hu => ?_
  have T1:∀ i,i<ys.length->(g i).length=e.size:=λi hi=>(Co i hi).len
  have hj:j<e.size:=by rw[<- T1 i hi]; exact(zA.1 hu).1
  have hnl:news.length=ys.length*e.size:=by rw[Yg]; exact gx T1
  have hle:i*e.size+e.size<=ys.length*e.size:=by rw[<- qB]; exact X _ hi
  have IK:news[i*e.size+j]? = some u:=by rw[Yg,tU T1 i j hi hj]; exact hu
  have eA:cells[i*e.size+j]? = some u:=by
   show(([]:List Value).toArray++news.toArray++zs)[i*e.size+j]? = some u
   rw[Array.getElem?_append_left (by simp; omega)]
   simpa using IK
  have GZ:(O.qj (O.w.drew.alloc (.cells cells et))).w.heap[O.w.heap.size]? = some (.cells cells et (0,0)):=gr.new
  simp only[World.cell?,qE,GZ]
  simpa using eA
 refine⟨O.qj _,_,jM,rfl,cN B gr,hex,.sr e ys true _ Ds (λ_=>⟨_,_,_,rfl,λe=>absurd e kf⟩) nofun⟩
def KS.re(O:KS)(w':World)(b n:Nat)(x:cJ):KS:={ O with w:=w',ph:=O.ph.set b (some (O.w.heap.size,n)),st:=O.st.set b x }
theorem Lw{w':World}{o:Obj}{b n v0 v1:Nat}{e:Ty}{xs ys:List (den e)}(B:Inv O)(g:mM O.w w' o)(I:O.st[b]? = some (.arr v0 e xs))(hv:v0<v1):Ext O (O.re w' b n (.arr v1 e ys)):=by
 refine⟨g.os,g.tape,g.output,by show O.w.heap.size<=w'.heap.size; rw[g.size]; omega,λk hk=>⟨hk,g.old (B.bJ k hk)⟩,λk hk=>.inl hk,?_,?_,?_,?_,by simp[KS.re],λk hk _=>g.old hk⟩
 ·intro b' blk m h
  simp only[KS.re]at h
  grind
 ·intro b' d J
  have kf:b≠b':=λe=>by subst e; rw[I]at J; cases J
  simp only[KS.re]
  grind
 ·intro b' u0 e' zs J
  simp only[KS.re]
  grind
 ·intro b' J
  have kf:b≠b':=λe=>by subst e; rw[I]at J; cases J
  simp only[KS.re,zT,if_neg kf]
  exact J
theorem zcT{w':World}{o:Obj}{b n v0 v1:Nat}{e:Ty}{xs ys:List (den e)}(B:Inv O)(g:mM O.w w' o)(I:O.st[b]? = some (.arr v0 e xs))(hv:v0<v1)
  (N:pD (O.re w' b n (.arr v1 e ys)) b (.arr v1 e ys)):Inv (O.re w' b n (.arr v1 e ys)):=by
 have hold:∀ (b' blk m:Nat),(O.ph.set b (some (O.w.heap.size,n)))[b']? = some (some (blk,m))->(b≠b'/\O.ph[b']? = some (some (blk,m)))\/(b=b'/\blk=O.w.heap.size):=by
  grind
 refine⟨by simp[KS.re,B.len],?_,?_,?_,?_,B.gl.mono (Lw (n:=n) (ys:=ys) B g I hv).same⟩
 ·intro k hk; have:=B.bJ k hk; show k<w'.heap.size; rw[g.size]; omega
 ·intro b' blk m h
  rcases hold b' blk m h with⟨_,h⟩ | ⟨rfl,rfl⟩
  ·obtain⟨h1,M⟩:=B.apart b' blk m h
   exact⟨by show blk<w'.heap.size; rw[g.size]; omega,M⟩
  ·exact⟨by show O.w.heap.size<w'.heap.size; rw[g.size]; omega,λhk=>absurd (B.bJ _ hk) (Nat.lt_irrefl _)⟩
 ·intro b1 b2 blk m m' h h'
  rcases hold b1 blk m h with⟨_,h⟩ | ⟨rfl,rfl⟩<;>rcases hold b2 _ m' h' with⟨_,h'⟩ | ⟨rfl,h''⟩
  ·exact B.inj b1 b2 blk m m' h h'
  ·have:=(B.apart b1 blk m h).1; omega
  ·have:=(B.apart b2 _ m' h').1; omega
  ·rfl
 ·intro b' y hy
  simp only[KS.re,zT]at hy
  split at hy
  ·grind
  ·rename_i e1
   refine(B.blk b' y hy).mono (Lw B g I hv) ?_ λblk m h=>g.old (B.apart b' blk m h).1
   simp only[KS.re,zT,if_neg e1]
theorem Gg{α:Type}{l:List α}{i:Nat}{a:α}(h:l[i]? = some a):l.set i a=l:=by
 apply List.ext_getElem?
 grind
theorem Ra{t t2 et b vi len:Nat}{e:Ty}{xs ys:List (den e)}{sv v:Value}{bytes:Nat}{ty:Nat}(B:Inv O)(hu:c.P.underlying t=some (.slice et))(MM:R4 c t2)(j3:bZ c et e=true)(bI:0<e.size)(Cl:pH c et=some bytes)
  (hz:∃ y,zeroOf c et e=some y) (hs:RD O (.ms b vi e 0 len) sv) (I:O.st[b]? = some (.arr vi e xs)) (hlen:len=xs.length) (hv:Cel O e ys v) (IL:(xs.length+ys.length)*bytes<=140737488355328)
  (hn:xs.length+ys.length<=9223372036854775807) :
  ∃ (E:KS) (r:Value),(zL #[t,t2] ty #[sv,v]).run c.P O.w=.ok r E.w/\E.st=O.st.set b (.arr (vi+ys.length) e (xs++ys))/\Inv E/\Ext O E/\RD E (.ms b (vi+ys.length) e 0 (len+ys.length)) r:=by
 subst hlen
 have wM:b<O.st.length:=(zA.1 I).1
 have GX:b<O.ph.length:=by rw[B.len]; exact wM
 obtain⟨T8,_⟩:=ke j3
 obtain⟨i,Cn,UN⟩:=mm T8
 obtain⟨y,hy⟩:=hz
 obtain⟨i',zv,g1,g2,g3⟩:=fE (O:=O) hy
 obtain⟨i'',k1,k2⟩:=sy Cl
 rw[Cn]at g1 k1
 cases g1
 cases k1
 have Cq:=(LH B hs I).1
 simp only[qE,List.take_length,List.drop_zero]at Cq
 obtain⟨olds,f,ho1,ho2,ho3,ho4,ho5⟩:=Wg Cq bI
 obtain⟨news,g,Yg,Co,hn3,hn4,hn5⟩:=hv.ex
 have T7:olds.length=xs.length*e.size:=by rw[ho1]; exact gx λi hi=>(ho2 i hi).len
 have hnl:news.length=ys.length*e.size:=by rw[Yg]; exact gx λi hi=>(Co i hi).len
 have HJ:∀ u∈news,u.oneCell'=true:=by rw[Yg]; exact HH λi hi=>(Co i hi).one
 cases hs with
 | ms _ _ _ _ _ cap a hold jg ha Ws hm =>
  obtain⟨hle,hm⟩:=hm xs I
  by_cases Qr:xs.length+ys.length<=cap
  ·-- there is room
   rcases hm with⟨h1,_,hv',hp⟩ | ⟨blk,n,o,VD,h3,h4,h5,h6,h7⟩
   ·simp only[Value.slice.injEq]at hv'
    obtain⟨rfl,FT,rfl⟩:=hv'
    have Kv:xs=[]:=zM h1
    have hy0:ys=[]:=zM (Z)
    subst Kv hy0
    refine⟨O,.slice none 0 0,?_,?_,B,Ext.refl O,.ms b vi e 0 0 0 none hold (zE _) (λ_=>rfl) nofun λzs hzs => ?_⟩
    ·have T5:news=[]:=zM (by simpa using hnl)
     subst T5
     exact run_append_fits (c:=c) (O:=O) (t:=t) (t2:=t2) (e:=et) (ty:=ty) (base:=none) (sLen:=0) (sCap:=0) (n:=0) (x:=v) (news:=[]) hu MM Cn hn3 (by intro P; rw[UN]; exact hn4 P) (Z) rfl
    ·simp only[List.length_nil,xH,List.append_nil]
     rw[Gg I]
    ·grind
   ·cases h4
    obtain⟨_,⟨Yh,hpn⟩ | ⟨pG,n',cs,T,p1,p2,p3,p4,pr,F,p5⟩⟩:=B.blk b _ I
    ·grind
    ·rw[h3]at p1
     cases p1
     have ho:xs.length+ys.length=0\/o=0:=by
      grind
     have zfC:cap*e.size<=cs.size:=by rw[p3]; simpa using h6
     have GS:xs.length*e.size+ys.length*e.size<=cs.size:=by
      rw[<- qD]; exact qN (X _ Qr) zfC
     let mz:=(cs.toList.take (xs.length*e.size)++news++cs.toList.drop (xs.length*e.size+news.length)).toArray
     have Ks:cs.toList.length=cs.size:=qz
     have GR:mz.size=cs.size:=by simp only[mz,zY,zK,zU,qK,hnl,Ks]; omega
     have hoa:∀ m,(⟨blk,o,none⟩:Addr).add (xs.length*e.size)=⟨blk,xs.length*e.size,none⟩\/m=0\/xs.length+ys.length=0:=by
      intro m
      rcases ho with h | h
      ·grind
      ·subst h; rw[addr_add,qE]; exact .inl rfl
     have vX:(storeCells ((⟨blk,o,none⟩:Addr).add (xs.length*i.size)) news).run c.P O.w=.ok () (O.w.setRow blk mz):=by
      rw[UN]
      rcases hoa 1 with h | h | h
      ·rw[h]
       have:=run_storeCells_at c.P blk (xs.length*e.size) T news 0 cs O.w p2 (by rw[hnl]; omega) HJ
       simpa only[xH]using this
      ·cases h
      ·have T5:news=[]:=zM (by rw[hnl,show ys.length=0 by omega]; simp)
       have Kv:xs.length=0:=Z
       have hce:mz=cs:=by simp[mz,T5,Kv]
       rw[T5,hce,setRow_self _ _ _ _ _ p2]
       rfl
     have K8:Alike (.arr vi e xs) (.arr (vi+ys.length) e (xs++ys)):=⟨rfl,Z,λh=>by rw[zK]; omega⟩
     have hex:=UH (cs:=mz) (x:=.arr (vi+ys.length) e (xs++ys)) B h3 I K8
     refine⟨O.upd b blk mz (.arr (vi+ys.length) e (xs++ys)),.slice (some ⟨blk,o,none⟩) (xs.length+ys.length) cap,?_,rfl,UI B h3 I K8 ?_,hex,?_⟩
     ·exact run_append_fits (c:=c) (O:=O) (t:=t) (t2:=t2) (e:=et) (ty:=ty) (base:=some ⟨blk,o,none⟩) (sLen:=xs.length) (sCap:=cap) (n:=ys.length) (x:=v) (news:=news) hu MM Cn hn3 (by intro P; rw[UN]; exact hn4 P) Qr vX
     ·refine⟨bI,.inr ⟨blk,n,mz,T,h3,setRow_heap _ _ _ _ _ _ p2,by rw[GR]; exact p3,?_,pr,λi=>if i<xs.length then F i else g (i-xs.length),λi hi => ?_⟩⟩
      ·rw[zK]; exact qN (X _ Qr) (by simpa using h6)
      ·have hF:∀ i (hi:i<xs.length),Rc O.w O.ok e xs[i] (F i):=λi hi=>(p5 i hi).1
       have z9C:∀ i,i<xs.length->(F i).length=e.size:=λi hi=>(hF i hi).len
       have HK:cs.toList.take (xs.length*e.size)=dU F xs.length:=by
        apply List.ext_getElem?
        intro p
        rw[List.getElem?_take]
        have JD:=gx z9C
        split
        ·rename_i hp
         obtain⟨q,hq⟩:∃ q,(dU F xs.length)[p]? = some q:=⟨_,zN (by rw[JD]; exact hp)⟩
         obtain⟨i',j',a1,a2,a3,a4⟩:=Ed bI z9C hq
         rw[hq]
         have:=(p5 i' a1).2 j' q a4
         rw[a3,zV]; exact this
        ·rename_i hp
         rw[List.getElem?_eq_none (by rw[JD]; omega)]
       obtain⟨q1,q2⟩:=Yr hF Co (cs.toList.drop (xs.length*e.size+news.length)) i hi
       refine⟨q1.mono hex.same,λj w hj => ?_⟩
       have:=q2 j w hj
       rw[<- Yg,<- HK]at this
       simpa only[mz,xA]using this
     ·refine .ms b _ e 0 _ cap _ (.inr ⟨vi+ys.length,e,xs++ys,by simp[KS.upd,KS.Vp,wM],zE _⟩) Qr nofun (λp hp=>by cases hp; rfl) λzs hzs => ?_
      have:zs=xs++ys:=by simp only[KS.upd,KS.Vp,qW wM]at hzs; cases hzs; rfl
      subst this
      refine⟨qz,.inr ⟨blk,n,o,cap,h3,rfl,Qr,by simpa using h6,?_⟩⟩
      rcases h7 with h7 | h7
      ·exact .inl h7
      ·exact .inr (by simpa using h7)
  ·-- it grows
   have Wr:0<ys.length:=Z
   have jM:=rU (c:=c) (O:=O) (t:=t) (t2:=t2) (e:=et) (ty:=ty) (base:=a) (sLen:=xs.length) (sCap:=cap) (n:=ys.length) (x:=v) (news:=news) (olds:=olds) hu MM Cn g2 hn3
    (by intro P; rw[UN]; exact hn5 P) (by intro P; rw[UN]; exact ho5 P) (Z) (Z) (by rw[k2]; exact IL)
   let C:=grownCap O.w (xs.length+ys.length) cap et
   have hC:xs.length+ys.length<=C:=grownCap_ge _ _ _ _
   let zs:=zX zv.cells (C-(xs.length+ys.length))
   let cells:=olds.toArray++news.toArray++zs
   have hzs:zs.size=(C-(xs.length+ys.length))*e.size:=by have:=g3.len; simp only[qG]at this; simp[zs,XD,this]
   have QB:cells.size=C*e.size:=by
    simp only[cells,Array.size_append,zY,T7,hnl,hzs,<- qD]
    congr 1; omega
   have gr:=mM.drew O.w (.cells cells et)
   have z0R:vi<vi+ys.length:=Z
   have hex:=Lw (n:=cells.size) (ys:=xs++ys) B gr I z0R
   refine⟨O.re _ b cells.size (.arr (vi+ys.length) e (xs++ys)),_,jM,rfl,zcT B gr I z0R ?_,hex,?_⟩
   ·refine⟨bI,.inr ⟨O.w.heap.size,cells.size,cells,et,by simp[KS.re,GX],gr.new,rfl,?_,Um j3,λi=>if i<xs.length then f i else g (i-xs.length),λi hi => ?_⟩⟩
    ·rw[QB,zK]; exact X _ hC
    ·obtain⟨q1,q2⟩:=Yr ho2 Co zs.toList i hi
     refine⟨q1.mono hex.same,λj v hj => ?_⟩
     have:=q2 j v hj
     rw[<- ho1,<- Yg]at this
     rw[<- zV]
     simpa[cells]using this
   ·refine .ms b _ e 0 _ C _ (.inr ⟨vi+ys.length,e,xs++ys,by simp[KS.re,wM],zE _⟩) hC nofun (λp hp=>by cases hp; rfl) λus hus => ?_
    have:us=xs++ys:=by simp only[KS.re,qW wM]at hus; cases hus; rfl
    subst this
    exact⟨qz,.inr ⟨O.w.heap.size,cells.size,0,C,by simp[KS.re,GX],rfl,hC,by rw[QB]; simp,.inr (qz)⟩⟩
end
end Go.AM
namespace Go.AM
set_option linter.unusedSectionVars false
variable [yY]
section
variable {c:Ctx} {O:KS}
theorem Vn{x y:D}{v:Value}(B:Inv O)(N:RD O x v)(h:(Zb O.st x).leads y):(y=x/\∀ b vi e off len,x≠.ms b vi e off len)\/∃ (e:Ty) (ys:List (den e)),y=.qj (.sl e) ys/\Src O e ys v/\∃ b vi off len,x=.ms b vi e off len:=by
 cases x with
 | ms b vi e off len =>
  simp only[Zb]at h
  split at h
  ·rename_i dD e' xs I
   split at h
   ·rename_i he
    subst he
    obtain⟨rfl,h⟩:=h
    refine .inr ⟨e',_,h.symm,(LH B N I).1,b,vi,off,len,rfl⟩
   ·exact h.elim
  ·exact h.elim
 | _=>exact .inl ⟨h.symm,λ_ _ _ _ _=>nofun⟩
theorem Wu{t t2 et:Nat}{e:Ty}{s:D}{ys:List (den e)}{ne:Bool}{sv v:Value}{bytes ty:Nat}{d:Option D}{qm:St}(B:Inv O)(hu:c.P.underlying t=some (.slice et))(MM:R4 c t2)(j3:bZ c et e=true)(bI:0<e.size)
  (Cl:pH c et=some bytes) (SY:0<bytes) (hz:∃ y,zeroOf c et e=some y) (hs:RD O s sv) (hv:Cel O e ys v) (kf:ne=true->ys≠[])
  (h:(bj e s ys ne bytes O.st).leads (d,qm)) :
  ∃ (E:KS) (r:Value),(zL #[t,t2] ty #[sv,v]).run c.P O.w=.ok r E.w/\E.st=qm/\Inv E/\Ext O E/\∀ d',d=some d'->RD E d' r:=by
 have hlen:∀ n,n*bytes<=140737488355328->n<=9223372036854775807:=λn hn=>qN (Nat.le_mul_of_pos_right n SY) (qN hn (xn))
 -- nothing is appended
 have same:∀ (a:Option Addr) (n cap:Nat),sv=.slice a n cap->n<=cap->ys=[]->d=some s->qm=O.st ->
   ∃ (E:KS) (r:Value),(zL #[t,t2] ty #[sv,v]).run c.P O.w=.ok r E.w/\E.st=qm/\Inv E/\Ext O E/\∀ d',d=some d'->RD E d' r:=by
  rintro a n cap rfl jg rfl rfl rfl
  obtain⟨T8,_⟩:=ke j3
  obtain⟨i,Cn,UN⟩:=mm T8
  obtain⟨news,g,Yg,Co,hn3,hn4,hn5⟩:=hv.ex
  have T5:news=[]:=Yg
  subst T5
  refine⟨O,.slice a n cap,?_,rfl,B,Ext.refl O,λd' he=>by cases he; exact hs⟩
  have:=run_append_fits (c:=c) (O:=O) (t:=t) (t2:=t2) (e:=et) (ty:=ty) (base:=a) (sLen:=n) (sCap:=cap) (n:=0) (x:=v) (news:=[]) (i:=i) hu MM Cn hn3 (by intro P; rw[UN]; exact hn4 P) (Z) (w':=O.w) (by cases a<;>rfl)
  grind
 have new:∀ l:List (den e),Src O e l sv->(∃ a,sv=.slice a l.length l.length)->ys≠[]->(pg e l ys bytes O.st).leads (d,qm) ->
   ∃ (E:KS) (r:Value),(zL #[t,t2] ty #[sv,v]).run c.P O.w=.ok r E.w/\E.st=qm/\Inv E/\Ext O E/\∀ d',d=some d'->RD E d' r:=by
  intro l R jg kf h
  obtain⟨I,h⟩:=h
  cases h
  obtain⟨E,r,h1,M,h3,h4,h5⟩:=I7 (ty:=ty) B hu MM j3 bI Cl hz R jg hv kf I (hlen _ I)
  grind
 unfold bj at h
 split at h
 ·have hsv:sv=.slice none 0 0:=by cases hs; rfl
  cases hn:ne with
  | true=>rw[hn,cond_true]at h; exact new [] (KH hs) ⟨none,hsv⟩ (kf hn) h
  | false =>
   rw[hn,cond_false]at h
   rcases h with⟨hy,h⟩ | ⟨hy,h⟩
   ·cases h; exact same none 0 0 hsv (zE _) (List.isEmpty_iff.1 hy) rfl rfl
   ·exact new [] (KH hs) ⟨none,hsv⟩ (λe=>by rw[e]at hy; cases hy) h
 ·rename_i e' l ne'
  split at h
  ·rename_i l' IV
   obtain⟨he,z0P⟩:=wg IV
   cases he
   simp only at z0P
   subst z0P
   have hsv:∃ a,sv=.slice a l'.length l'.length:=by
    cases hs with
    | vz=>simp
    | tight=>simp
   cases hn:ne with
   | true=>rw[hn,cond_true]at h; exact new l' (Wh hs) hsv (kf hn) h
   | false =>
    rw[hn,cond_false]at h
    rcases h with⟨hy,h⟩ | ⟨hy,h⟩
    ·cases h
     obtain⟨a,ha⟩:=hsv
     exact same a _ _ ha (zE _) (List.isEmpty_iff.1 hy) rfl rfl
    ·exact new l' (Wh hs) hsv (λe=>by rw[e]at hy; cases hy) h
  ·exact h.elim
 ·rename_i e' l b
  split at h
  ·rename_i IV
   obtain⟨he,z0P⟩:=wg IV
   cases he
   simp only at z0P
   subst z0P
   cases I:b with
   | false=>rw[I]at h; exact h.elim
   | true =>
    rw[I,cond_true]at h
    subst I
    obtain⟨IL,h⟩:=h
    cases h
    cases hs with
    | sr _ _ _ _ hr ht hf =>
     obtain⟨blk,off,cap,rfl,hc⟩:=ht rfl
     have:=hc rfl
     subst this
     by_cases hy:ys=[]
     ·subst hy
      exact same (some ⟨blk,off,none⟩) 0 0 rfl (zE _) rfl rfl rfl
     ·obtain⟨E,r,h1,M,h3,h4,h5⟩:=I8 (ty:=ty) (p:=⟨blk,off,none⟩) B hu MM j3 bI Cl hz hv hy IL (hlen _ IL)
      exact⟨E,r,h1,M,h3,h4,λd' he=>by cases he; exact h5⟩
  ·exact h.elim
 ·rename_i b vi e' off len
  split at h
  ·rename_i dD e'' xs I
   split at h
   ·rename_i xs' GH
    obtain⟨he,zgt⟩:=wg GH
    cases he
    simp only at zgt
    subst zgt
    cases hde:decide (e'=_)with
    | false=>rw[hde]at h; exact h.elim
    | true =>
     rw[hde,cond_true]at h
     have:=uB hde
     subst this
     obtain⟨⟨rfl,rfl,R,IL⟩,h⟩:=h
     cases h
     obtain⟨E,r,h1,M,h3,h4,h5⟩:=Ra (ty:=ty) B hu MM j3 bI Cl hz hs I R hv IL (hlen _ IL)
     exact⟨E,r,h1,M,h3,h4,λd' he=>by cases he; exact h5⟩
   ·exact h.elim
  ·exact h.elim
 ·exact h.elim
theorem DF{t ty:Nat}{s x:Option D}{sv v:Value}{d:Option D}{qm:St}(B:Inv O)(hs:∀ z,s=some z->RD O z sv)(N:∀ z,x=some z->RD O z v)
  (h:(qu (QF c t s x) O.st).leads (d,qm)):wy c.P (do zJ (.value (<- zL #[t,t] ty #[sv,v]))) O d qm:=by
 unfold QF at h
 split at h
 ·exact absurd h zh
 ·rename_i et het
  have hu:=yJ het
  split at h
  ·rename_i e bytes ML Cl
   cases I:bZ c et e&&xE 0 e.size&&xE 0 bytes&&(zeroOf c et e).isSome with
   | false=>rw[I]at h; exact absurd h zh
   | true =>
    rw[I,cond_true]at h
    simp only[zI]at I
    obtain⟨⟨⟨j3,h1⟩,M⟩,h3⟩:=I
    have bI:0<e.size:=V h1
    have SY:0<bytes:=V M
    have hz:=zZ.1 h3
    split at h
    ·rename_i s x
     simp only[qu,T.xg]at h
     obtain⟨y,hy,h⟩:=h
     have fin:∀ (ys:List (den e)) (ne:Bool),Src O e ys v->(ne=true->ys≠[])->(bj e s ys ne bytes O.st).leads (d,qm)->wy c.P (do zJ (.value (<- zL #[t,t] ty #[sv,v]))) O d qm:=by
      intro ys ne hv kf h
      obtain⟨E,r,g1,g2,g3,g4,g5⟩:=Wu (t2:=t) (ty:=ty) B hu (.inl ⟨et,hu⟩) j3 bI Cl SY hz (hs _ rfl) (z8N hv bI) kf h
      exact⟨E,.value r,r,by simp only[zH,g1,Y]; rfl,.inl rfl,g2,g3,g4,g5⟩
     have MO:=N _ rfl
     rcases Vn B MO hy with⟨rfl,hnm⟩ | ⟨e',ys,rfl,Cq,_⟩
     ·split at h
      ·rename_i σ z
       split at h
       ·rename_i ys hys
        obtain⟨he,hz'⟩:=wg hys
        cases he
        subst hz'
        exact fin _ false (D3 MO) nofun h
       ·exact h.elim
      ·rename_i σ z ne
       split at h
       ·rename_i ys hys
        obtain⟨he,hz'⟩:=wg hys
        cases he
        subst hz'
        refine fin _ ne (Wh MO) (λkf => ?_) h
        cases MO with
        | vz=>cases kf
        | tight _ _ _ _ _ _ q=>exact q kf
       ·exact h.elim
      ·exact fin [] false (KH MO) nofun h
      ·exact h.elim
     ·simp only at h
      split at h
      ·rename_i ys' hys
       obtain⟨he,hz'⟩:=wg hys
       grind
      ·exact h.elim
    ·exact absurd h zh
  ·exact absurd h zh
theorem z8O{l:zx}{v:Value}(h:RD O (.qj .str l) v):Cel O (.int .u8) (bytesOf l) v:=by
 have hv:=h.jc
 subst hv
 have R:(bytesOf l).length=l.length:=by simp[bytesOf]
 have bI:(⟨l.toArray⟩:ByteArray).size=l.length:=zY
 refine⟨Lib.strCells ⟨l.toArray⟩,λi=>[.int .u8 ((bytesOf l)[i]?.getD 0)],?_,λi hi => ?_,λP => ?_,λP => ?_,λP => ?_⟩
 ·have gen:∀ (n:Nat),n<=l.length->dU (λi=>[zP .u8 ((bytesOf l)[i]?.getD 0)]) n=(l.take n).map λb=>zP .u8 b.toNat:=by
   intro n
   induction n with
   | zero=>intro _; rfl
   | succ n ih =>
    intro hn
    have wM:n<l.length:=hn
    rw[dU,ih (Z),qJ wM,List.map_append]
    simp[bytesOf,zN wM]
  rw[R,gen _ (zE _),List.take_length]
  rfl
 ·have:(bytesOf l)[i]?.getD 0=(bytesOf l)[i]:=by rw[zN hi]; rfl
  show Rc O.w O.ok (.int .u8) (bytesOf l)[i] [zP .u8 ((bytesOf l)[i]?.getD 0)]
  rw[this]
  exact .int .u8 _
 ·show(pure (⟨l.toArray⟩:ByteArray).size:Sem Nat).run P O.w=_
  rw[bI,R]; rfl
 ·rw[R,<- bI]; exact qP _ _ _
 ·rw[R,<- bI]; exact qP _ _ _
theorem KR{t t2 ty:Nat}{s x:Option D}{sv v:Value}{d:Option D}{qm:St}(B:Inv O)(hs:∀ z,s=some z->RD O z sv)(N:∀ z,x=some z->RD O z v)
  (h:(qu (tJ c t t2 s x) O.st).leads (d,qm)):wy c.P (do zJ (.value (<- zL #[t,t2] ty #[sv,v]))) O d qm:=by
 unfold tJ at h
 split at h
 ·exact absurd h zh
 ·rename_i et het
  have hu:=yJ het
  split at h
  ·rename_i bytes ML Cl MM
   cases I:bZ c et (.int .u8)&&xE 0 bytes&&(zeroOf c et (.int .u8)).isSome with
   | false=>rw[I]at h; exact absurd h zh
   | true =>
    rw[I,cond_true]at h
    simp only[zI]at I
    obtain⟨⟨j3,M⟩,h3⟩:=I
    have SY:0<bytes:=V M
    have hz:=zZ.1 h3
    split at h
    ·rename_i s l
     obtain⟨E,r,g1,g2,g3,g4,g5⟩:=Wu (t2:=t2) (ty:=ty) B hu (.inr MM) j3 (xn) Cl SY hz (hs _ rfl) (ne:=false) (z8O (N _ rfl)) (λe=>by cases e) h
     exact⟨E,.value r,r,by simp only[zH,g1]; rfl,.inl rfl,g2,g3,g4,g5⟩
    ·exact absurd h zh
  ·exact absurd h zh
end
end Go.AM
namespace Go.AM
set_option linter.unusedSectionVars false
variable [yY]
open Go.RowKit
section
variable {c:Ctx} {O:KS}
theorem J7{t:Nat}(h:EF c t=true):∃ k e,c.P.underlying t=some (.map k e)/\c.P.underlying k=some (.int .i64)/\c.P.underlying e=some .bool/\∀ w,(zeroValue e).run c.P w=.ok (.bool false) w:=by
 unfold EF at h
 split at h
 ·rename_i k e ht
  simp only[zI]at h
  obtain⟨⟨h1,M⟩,h3⟩:=h
  refine⟨k,e,ht,?_,?_,λw => ?_⟩
  ·split at h1
   ·rename_i q hq; cases q<;>first | exact hq | cases h1
   ·cases h1
  ·split at M
   ·assumption
   ·cases M
  ·split at h3
   ·rename_i i hi
    split at h3
    ·rename_i z hz
     cases z
     ·simp[zeroValue,typeInfo,run_program,hi,hz]
     ·cases h3
    ·cases h3
   ·cases h3
 ·cases h
theorem keyOf_int{P P':Program}{k k':TypeId}(h:P.underlying k=some (.int .i64))(h':P'.underlying k'=some (.int .i64)):keyOf P k=keyOf P' k':=by
 funext v
 simp only[keyOf,h,h',mapKey]
theorem Rp{P P':Program}{e e':TypeId}(h:P.underlying e=some .bool)(h':P'.underlying e'=some .bool):(plainElem P e:Value->Option (DataW Unit×List MemPlace))=plainElem P' e':=by
 funext v
 simp only[plainElem,h,h']
theorem Sz{P P':Program}{k k' e e':TypeId}(h:P.underlying k=some (.int .i64))(h':P'.underlying k'=some (.int .i64))(he:P.underlying e=some .bool)(IN:P'.underlying e'=some .bool)
  {w w':World} {b b' n:Nat} {D:DataW Unit} (ho:w.ownsMap P k (plainElem P e) b n D) (hw:w'.heap[b']? = w.heap[b]?):w'.ownsMap P' k' (plainElem P' e') b' n D:=by
 obtain⟨es,clock,h1,M,h3,h4⟩:=ho
 have e1:(xI P k (plainElem P e):MapEntry->Option (Lit×DataW Unit))=xI P' k' (plainElem P' e'):=by
  funext x; simp only[xI,keyOf_int h h',Rp he IN]
 have e2:(xJ P k (plainElem P e):MapEntry->Lit×DataW Unit)=xJ P' k' (plainElem P' e'):=by
  funext x; simp only[xJ,e1]
 refine⟨es,clock,hw.trans h1,⟨M.size,M.stamped,λx N => ?_⟩,h3,by rw[<- e2]; exact h4⟩
 rw[<- e1]; exact M.reads x N
theorem Ba{P:Program}{k e:TypeId}(h:P.underlying k=some (.int .i64))(he:P.underlying e=some .bool){w:World}{b:Nat}{o:Obj}{l:List Int}{D:DataW Unit}(I:w.heap[b]? = some o)
  (ho:w.ownsMap P k (plainElem P e) b l.length D) (hD:Maps.IsMap D) (hr:∀ n,(Lit.int .i64 n).wf=true->D.atKey (.int .i64 n) (.lit (.bool false))=.lit (.bool (l.contains n))):Tg o l :=
 λ_ _ _ h' IN _ _ hw'=>⟨D,Sz h h' he IN ho (hw'.trans I.symm),hD,hr⟩
theorem z55{P:Program}{e:TypeId}(he:P.underlying e=some .bool){v:Value}{b:Bool}{ps:List MemPlace}(h:plainElem (H:=Unit) P e v=some (.lit (.bool b),ps)):v=.bool b:=by
 unfold plainElem at h
 rw[he]at h
 cases v<;>simp at h
 exact congrArg _ h.1
theorem CB{t:Nat}{r:Option Operand}{f:Operand->Value}{d:Option D}{qm:St}(B:Inv O)(h:(qu (Jd c t r) O.st).leads (d,qm)) :
  wy c.P (do zJ (.value (<- Instr.makeMap t (r.map f)))) O d qm:=by
 unfold Jd at h
 cases I:EF c t&&r.isNone with
 | false=>rw[I]at h; exact absurd h zh
 | true =>
  rw[I,cond_true]at h
  simp only[zI]at I
  obtain⟨h1,M⟩:=I
  cases r with
  | some r=>cases M
  | none =>
  obtain⟨rfl,rfl⟩:=h
  obtain⟨k,e,ht,hk,he,_⟩:=J7 h1
  have g:=mM.alloc O.w (.map #[] 0)
  have N:=Zh (n:=0) (x:=.var (.Bg [])) B g
  refine⟨O.add _ 0 (.var (.Bg [])),.value (.map (some O.w.heap.size)),_,?_,.inl rfl,rfl,Vy B g ?_,N,λ_ he=>by cases he; exact .yL _ _ 0 _ QE (tn B)⟩
  ·simp[KS.add,run_makeMap]
  ·exact⟨O.w.heap.size,.map #[] 0,tn B,g.new,Ba hk he (w:=O.w.alloc (.map #[] 0)) (b:=O.w.heap.size) g.new (World.ownsMap_made O.w c.P k (plainElem c.P e)) Go.Maps.isMap_empty λn _=>rfl⟩
theorem EL{t:Nat}{ok:Bool}{m x:Option D}{v u:Value}{d:Option D}{qm:St}(B:Inv O)(hm:∀ z,m=some z->RD O z v)(N:∀ z,x=some z->RD O z u)
  (h:(qu (YG c t ok m x) O.st).leads (d,qm)):wy c.P (do zJ (.value (<- Instr.lookup t v u ok))) O d qm:=by
 unfold YG at h
 cases I:EF c t && !ok with
 | false=>rw[I]at h; exact absurd h zh
 | true =>
  rw[I,cond_true]at h
  simp only[zI]at I
  obtain⟨h1,M⟩:=I
  have j3:ok=false:=by cases ok<;>first | rfl | cases M
  subst j3
  obtain⟨k,e,ht,hk,he,hz⟩:=J7 h1
  have hz:=hz O.w
  split at h
  ·rename_i b q n hq
   cases hq64:Yn q with
   | false=>rw[hq64]at h; exact absurd h zh
   | true =>
   rw[hq64,cond_true]at h
   have hq6:q=.i64:=by cases q<;>first | rfl | cases hq64
   subst hq6
   have hu:=kz hq N
   simp only[qu]at h
   split at h
   ·rename_i l R
    obtain⟨hw,rfl,rfl⟩:=h
    cases hm _ rfl with
    | yL _ blk m' d' J hp =>
     obtain⟨pG,o,g1,g2,g3⟩:=(B.blk b _ R:Maps O b l)
     rw[hp]at g1
     cases g1
     obtain⟨D,ho,hD,hr⟩:=g3 c.P k e hk he O.w blk g2
     obtain⟨rv,ps,jM,hv⟩:=ho.lookup (qQ hk) ht hz (plainElem_bool he false) (qM hk hw)
     rw[hr n hw]at hv
     have:=z55 he hv
     subst this
     subst hu
     exact wy.pure B jM .bool
   ·exact h.elim
  ·rename_i q n hq
   cases hq64:Yn q with
   | false=>rw[hq64]at h; exact absurd h zh
   | true =>
   rw[hq64,cond_true]at h
   have hq6:q=.i64:=by cases q<;>first | rfl | cases hq64
   subst hq6
   have hu:=kz hq N
   subst hu
   obtain⟨hw,rfl,rfl⟩:=h
   cases hm _ rfl
   exact wy.pure B (by simpa using Go.Maps.look_nil false (qQ hk) ht hz (qM hk hw)) .bool
  ·exact absurd h zh
theorem I9{D:DataW Unit}{l:List Int}(hD:Go.Maps.IsMap D)(hr:∀ n,(Lit.int .i64 n).wf=true->D.atKey (.int .i64 n) (.lit (.bool false))=.lit (.bool (l.contains n)))(m:Int) :
  ∀ n,(Lit.int .i64 n).wf=true->(D.put (.int .i64 m) (.lit (.bool true))).atKey (.int .i64 n) (.lit (.bool false))=.lit (.bool ((l++[m]).contains n)):=λn hn=>by
 by_cases e:n=m
 ·subst e
  rw[Go.Maps.atKey_put_same hD (show WideAt.IsKeyLit (.int _ _)from trivial)]
  simp
 ·rw[Go.Maps.atKey_put_other (by simpa using e),hr n hn]
  simp[e]
theorem YK{t:Nat}{m x y:Option D}{v u z:Value}{d:Option D}{qm:St}(B:Inv O)(hm:∀ z,m=some z->RD O z v)(N:∀ z,x=some z->RD O z u)(hy:∀ q,y=some q->RD O q z)
  (h:(qu (YJ c t m x y) O.st).leads (d,qm)):wy c.P (do Instr.mapUpdate t v u z; zJ .skip) O d qm:=by
 unfold YJ at h
 cases I:EF c t with
 | false=>rw[I]at h; exact absurd h zh
 | true =>
  rw[I,cond_true]at h
  obtain⟨k,e,ht,hk,he,_⟩:=J7 I
  split at h
  ·rename_i b q n yb hq hyb
   cases hq64:Yn q with
   | false=>rw[hq64]at h; exact absurd h zh
   | true =>
   rw[hq64,cond_true]at h
   have hq6:q=.i64:=by cases q<;>first | rfl | cases hq64
   subst hq6
   have hu:=kz hq N
   have hz:=tK hyb hy
   simp only[qu]at h
   split at h
   ·rename_i l R
    obtain⟨⟨rfl,hw,hlen⟩,h⟩:=h
    simp only[T.leads,Prod.mk.injEq]at h
    obtain⟨rfl,rfl⟩:=h
    cases hm _ rfl with
    | yL _ blk m' d' J hp =>
     obtain⟨pG,o,g1,g2,g3⟩:=(B.blk b _ R:Maps O b l)
     rw[hp]at g1
     cases g1
     obtain⟨D,ho,hD,hr⟩:=g3 c.P k e hk he O.w blk g2
     obtain⟨w',jM,hown,hg⟩:=ho.update (qQ hk) ht (by simp[maxLen]; omega) (qM hk hw) (plainElem_bool he true)
     subst hu hz
     have K8:Alike (.var (.Bg l)) (.var (.Bg (l++[n]))):=trivial
     refine⟨O.Vp b w' (.var (.Bg (l++[n]))),.skip,undef,?_,.inr ⟨rfl,rfl⟩,rfl,FC B hp R K8 hg ?_,UG B hp R K8 hg,λ_ he=>by cases he⟩
     ·simp[KS.Vp,jM]
     ·obtain⟨o',ho'⟩:∃ o',w'.heap[blk]? = some o':=⟨_,Array.getElem?_eq_getElem hown.lt⟩
      exact⟨blk,o',hp,ho',Ba hk he ho' (by simpa using hown) (hD.put _ _) (I9 hD hr n)⟩
   ·exact h.elim
  ·exact absurd h zh
theorem Ld{op:BinOp}{t:Nat}{px:Operand}{x:Option D}{v:Value}{d:Option D}{qm:St}{z:dR}(B:Inv O)(N:∀ z,x=some z->RD O z v)
  (hz:(qu z O.st).leads (d,qm)->wy c.P (do zJ (.value (<- (do eqGuard op t px (.const (.slice none 0 0)) v (.slice none 0 0); binOp op t v (.slice none 0 0))))) O d qm)
  (h:(qu (CK c op t x z) O.st).leads (d,qm)):wy c.P (do zJ (.value (<- (do eqGuard op t px (.const (.slice none 0 0)) v (.slice none 0 0); binOp op t v (.slice none 0 0))))) O d qm:=by
 unfold CK at h
 split at h
 ·rename_i e hu
  have q1:∀ (x:Option Addr) (l k:Nat),(do eqGuard .eql t px (.const (.slice none 0 0)) (.slice x l k) (.slice none 0 0); binOp .eql t (.slice x l k) (.slice none 0 0):Sem Value).run c.P O.w=.ok (.bool x.isNone) O.w:=λx l k=>by
   have:=run_eql_slice_nil (P:=c.P) O.w t e x l k hu
   simp only[eqGuard]
   simpa using this
  have q2:∀ (x:Option Addr) (l k:Nat),(do eqGuard .neq t px (.const (.slice none 0 0)) (.slice x l k) (.slice none 0 0); binOp .neq t (.slice x l k) (.slice none 0 0):Sem Value).run c.P O.w=.ok (.bool !x.isNone) O.w:=λx l k=>by
   have:=run_neq_slice_nil (P:=c.P) O.w t e x l k hu
   simp only[eqGuard]
   simpa using this
  split at h
  ·unfold bb at h
   obtain⟨rfl,rfl⟩:=h
   cases N _ rfl
   exact wy.pure B (q1 none 0 0) RD.bool
  ·rename_i b
   unfold bb at h
   obtain⟨rfl,rfl⟩:=h
   cases N _ rfl with
   | sr _ _ _ _ hr ht hf =>
    cases b with
    | true=>obtain⟨blk,off,cap,rfl,_⟩:=ht rfl; exact wy.pure B (q1 _ _ _) RD.bool
    | false=>have:=hf rfl; subst this; exact wy.pure B (q1 _ _ _) RD.bool
  ·unfold bb at h
   obtain⟨rfl,rfl⟩:=h
   cases N _ rfl
   exact wy.pure B (q2 none 0 0) RD.bool
  ·rename_i b
   unfold bb at h
   obtain⟨rfl,rfl⟩:=h
   cases N _ rfl with
   | sr _ _ _ _ hr ht hf =>
    cases b with
    | true=>obtain⟨blk,off,cap,rfl,_⟩:=ht rfl; exact wy.pure B (q2 _ _ _) RD.bool
    | false=>have:=hf rfl; subst this; exact wy.pure B (q2 _ _ _) RD.bool
  ·exact hz h
 ·exact hz h
theorem Lc{op:BinOp}{t:Nat}{px:Operand}{x:Option D}{v:Value}{d:Option D}{qm:St}{z:dR}(B:Inv O)(N:∀ z,x=some z->RD O z v)
  (hz:(qu z O.st).leads (d,qm)->wy c.P (do zJ (.value (<- (do eqGuard op t px (.const (.pointer none)) v (.pointer none); binOp op t v (.pointer none))))) O d qm)
  (h:(qu (CJ c op t x z) O.st).leads (d,qm)):wy c.P (do zJ (.value (<- (do eqGuard op t px (.const (.pointer none)) v (.pointer none); binOp op t v (.pointer none))))) O d qm:=by
 unfold CJ at h
 split at h
 ·rename_i e hu
  have hp:c.P.underlying t=some (.pointer (c.P.pointee t)):=by unfold Program.pointee; rw[hu]
  have q1:∀ (x:Option Addr),(do eqGuard .eql t px (.const (.pointer none)) (.pointer x) (.pointer none); binOp .eql t (.pointer x) (.pointer none):Sem Value).run c.P O.w=.ok (.bool x.isNone) O.w:=λx=>by
   have:=run_eql_pointer_nil (P:=c.P) O.w t x hp
   simp only[eqGuard]
   simpa using this
  have q2:∀ (x:Option Addr),(do eqGuard .neq t px (.const (.pointer none)) (.pointer x) (.pointer none); binOp .neq t (.pointer x) (.pointer none):Sem Value).run c.P O.w=.ok (.bool !x.isNone) O.w:=λx=>by
   have:=run_neq_pointer_nil (P:=c.P) O.w t x hp
   simp only[eqGuard]
   simpa using this
  split at h
  ·unfold bb at h; obtain⟨rfl,rfl⟩:=h; cases N _ rfl; exact wy.pure B (q1 none) RD.bool
  ·unfold bb at h; obtain⟨rfl,rfl⟩:=h; cases N _ rfl; exact wy.pure B (q1 _) RD.bool
  ·unfold bb at h; obtain⟨rfl,rfl⟩:=h; cases N _ rfl; exact wy.pure B (q1 _) RD.bool
  ·unfold bb at h; obtain⟨rfl,rfl⟩:=h; cases N _ rfl; exact wy.pure B (q2 none) RD.bool
  ·unfold bb at h; obtain⟨rfl,rfl⟩:=h; cases N _ rfl; exact wy.pure B (q2 _) RD.bool
  ·unfold bb at h; obtain⟨rfl,rfl⟩:=h; cases N _ rfl; exact wy.pure B (q2 _) RD.bool
  ·exact hz h
 ·exact hz h
theorem GN{t:Nat}{d:Option D}{qm:St}{z:dR}(B:Inv O)(hz:(qu z O.st).leads (d,qm)->wy c.P (do zJ (.value (<- zQ t 0 #[]))) O d qm)
  (h:(qu (VB c t z) O.st).leads (d,qm)):wy c.P (do zJ (.value (<- zQ t 0 #[]))) O d qm:=by
 unfold VB at h
 split at h
 ·exact hz h
 ·rename_i et het
  split at h
  ·rename_i e he
   cases I:bZ c et e&&(zeroOf c et e).isSome with
   | false=>rw[I]at h; exact hz h
   | true =>
    rw[I,cond_true]at h
    simp only[zI]at I
    obtain⟨rfl,rfl⟩:=h
    have hu:=yJ het
    obtain⟨hs,_⟩:=ke I.1
    have g:=mM.alloc O.w (.cells #[] et)
    have jM:(zQ t 0 #[]).run c.P O.w=.ok (.slice (some ⟨O.w.heap.size,0,none⟩) 0 0) (O.w.alloc (.cells #[] et)):=by
     obtain⟨y,hy⟩:=zZ.1 I.2
     obtain⟨i,zv,Cn,UN,hi3⟩:=fE (O:=O) hy
     simp[zQ,zH,run_underlying hu,Y,run_sizeOf hs,qH,newRow]
     grind
    exact⟨O.qj _,.value (.slice (some ⟨O.w.heap.size,0,none⟩) 0 0),_,by simp only[zH,jM,Y]; rfl,.inl rfl,rfl,cN B g,XR B g,λ_ he=>by
     cases he
     exact .sr e [] true _ (.lB e _) (λ_=>⟨_,_,_,rfl,λ_=>rfl⟩) nofun⟩
  ·exact hz h
end
end Go.AM
namespace Go.AM
set_option linter.unusedSectionVars false
variable [yY]
section
variable {c:Ctx} {O:KS}
theorem Vg{places:List (Nat×Nat)}{pf:Nat->Option (Nat×Nat)}(hpf:∀ (i:Nat) p,places[i]? = some p->pf i=some p){F:Operand->Option D}{G:Operand->Value}(hF:∀ x d,F x=some d->RD O d (G x)):∀ (L:List (Nat×Operand)) (cells r:List D) (cs:Array Value),
  rQ places (L.map λp=>(p.1,F p.2)) cells=some r->wN O cells cs.toList->(∀ d∈cells,d.one=true) ->
  ∃ mz,qH pf cs (L.map λp=>(p.1,G p.2))=some mz/\wN O r mz.toList/\∀ d∈r,d.one=true
 | [],cells,r,cs,h,hr,ho=>by
  simp only[List.map_nil,rQ,Option.some.injEq]at h
  subst h
  exact⟨cs,rfl,hr,ho⟩
 | (i,x)::L,cells,r,cs,h,hr,ho=>by
  simp at h
  cases N:F x with
  | none=>rw[N]at h; simp[rQ]at h
  | some d =>
   rw[N]at h
   simp only[rQ]at h
   split at h
   ·rename_i off n hp
    cases I : !d.bz&&qL n (xx d).length&&Nat.ble (off+n) cells.length with
    | false=>grind
    | true =>
     rw[I,cond_true]at h
     simp only[zI,Bool.not_eq_true']at I
     obtain⟨⟨h1,M⟩,h3⟩:=I
     have h2':n=(xx d).length:=zF M
     have h3':=V h3
     have J:=hF x d N
     have hfd:=cx J h1
     have IX:(G x).cells.toList.length=n:=by rw[<- hfd.1]; exact h2'.symm
     have hle:off+n<=cs.size:=by have:=hr.1; simp at this; omega
     have hn:=tD hr hfd off n
     obtain⟨mz,g1,g2,g3⟩:=Vg hpf hF L _ r (cs.toList.take off++(G x).cells.toList++cs.toList.drop (off+n)).toArray h (xy) (by
      intro y hy
      simp only[qZ]at hy
      rcases hy with(hy | hy) | hy
      ·grind
      ·exact cv J y hy
      ·exact ho y (xD hy))
     refine⟨mz,?_,g2,g3⟩
     simp
     rw[Ec (hpf _ _ hp) IX hle]
     exact g1
   ·cases h
theorem Ip{t:Nat}{L:List (Nat×Operand)}{F:Operand->Option D}{G:Operand->Value}{d:Option D}{qm:St}(B:Inv O)(hF:∀ x d,F x=some d->RD O d (G x))
  (h:(qu (BY c t (L.map λp=>(p.1,F p.2))) O.st).leads (d,qm)):wy c.P (do zJ (.value (<- Instr.build t (L.map λp=>(p.1,G p.2)).toArray))) O d qm:=by
 unfold BY at h
 split at h
 ·rename_i fs hu
  split at h
  ·rename_i z places hz hp
   split at h
   ·rename_i l R
    rw[du]at h
    obtain⟨rfl,rfl⟩:=h
    obtain⟨i,zv,h1,M,h3⟩:=sq hz
    have hzr:=h3.rd O
    obtain⟨mz,g1,g2,g3⟩:=Vg (pf:=(places.toArray[·]?)) (λi p hp=>by simpa using hp) hF L z l zv.cells R (cx hzr rfl) (cv hzr)
    have I:c.P.built t (L.map λp=>(p.1,G p.2))=some mz:=by
     unfold Program.built
     grind
    refine wy.pure B (run_build O.w t _ mz (by simpa using I)) ?_
    have:=RD.agg l mz.toList g2.1 g3 g2.2
    omega
   ·exact absurd h zh
  ·exact absurd h zh
 ·rename_i k e hu
  split at h
  ·rename_i z ie hz hp
   split at h
   ·rename_i l R
    obtain⟨rfl,rfl⟩:=h
    obtain⟨i,zv,h1,M,h3⟩:=sq hz
    have hzr:=h3.rd O
    obtain⟨mz,g1,g2,g3⟩:=Vg (pf:=λi=>some (i*ie.size,ie.size)) (λi p hp=>by
     rw[qR]at hp
     cases hr:(List.range k)[i]? with
     | none=>grind
     | some j =>
      rw[hr]at hp
      obtain⟨wM,rfl⟩:=zA.1 hr
      simpa using hp) hF L z l zv.cells R (cx hzr rfl) (cv hzr)
    have I:c.P.built t (L.map λp=>(p.1,G p.2))=some mz:=by
     unfold Program.built
     grind
    refine wy.pure B (run_build O.w t _ mz (by simpa using I)) ?_
    have:=RD.agg l mz.toList g2.1 g3 g2.2
    omega
   ·exact absurd h zh
  ·exact absurd h zh
 ·exact absurd h zh
theorem H5{a:Act}{o:Oper}{p:Operand}(ho:o.op=.nilCheck p){x:Option D}{d:Option D}{qm:St}(B:Inv O)(N:∀ z,x=some z->RD O z (a.eval p))
  (h:(qu (Vb x) O.st).leads (d,qm)):wy c.P (execOp a.eval o) O d qm:=by
 have key:∀ z v,RD O z v->a.eval p=v->(∀ b:Option Addr,v=.pointer b->b≠none)->((∃ b,v=.pointer b)\/∃ g q l,v=.func (.func g) q l)->wy c.P (execOp a.eval o) O (some z) O.st:=by
  intro z v hz hv hn hc
  have:execOp a.eval o=zJ (.value v):=by
   rcases hc with⟨b,rfl⟩ | ⟨g,q,l,rfl⟩
   ·cases b with
    | none=>grind
    | some b=>simp only[execOp,ho,hv]
   ·simp only[execOp,ho,hv]
  rw[this]
  exact wy.val B λ_ he=>by cases he; exact hz
 unfold Vb at h
 split at h
 all_goals try exact absurd h zh
 all_goals
  rw[du]at h; obtain⟨rfl,rfl⟩:=h
  have hr:=N _ rfl
  generalize hv:a.eval p=v at hr
  refine key _ v hr hv ?_ ?_
  ·intro b I; cases hr<;>first | (cases I<;>nofun) | (rename_i f l vs _ _; obtain⟨g,q,l',e⟩:=Y2 f vs; rw[e]at I; cases I)
  ·cases hr<;>first | exact .inl ⟨_,rfl⟩ | exact .inr (Y2 _ _)
theorem Lb{op:BinOp}{t:Nat}{px:Operand}{x:Option D}{v:Value}{d:Option D}{qm:St}(B:Inv O)(N:∀ z,x=some z->RD O z v)
  (h:(qu (CH c op t x) O.st).leads (d,qm)):wy c.P (do zJ (.value (<- (do eqGuard op t px (.const .nilIface) v .nilIface; binOp op t v .nilIface)))) O d qm:=by
 unfold CH at h
 split at h
 ·rename_i ms hu
  have hm:c.P.underlying t=some (.interface (c.P.methodsAt t)):=by unfold Program.methodsAt; rw[hu]
  have g1:∀ w,(eqGuard op t px (.const .nilIface) .nilIface .nilIface).run c.P w=.ok () w:=λw=>by cases op<;>simp[eqGuard]
  have g2:∀ u y w,(eqGuard op t px (.const .nilIface) (.iface u y) .nilIface).run c.P w=.ok () w:=λu y w=>by cases op<;>simp[eqGuard]
  split at h
  ·unfold bb at h
   obtain⟨rfl,rfl⟩:=h
   cases N _ rfl
   exact wy.pure B (by simp only[zH,g1,Y,run_eql_nil_nil _ _ hm]) RD.bool
  ·unfold bb at h
   obtain⟨rfl,rfl⟩:=h
   cases N _ rfl
   exact wy.pure B (by simp only[zH,g2,Y,run_eql_held_nil _ _ _ _ hm]) RD.bool
  ·unfold bb at h
   obtain⟨rfl,rfl⟩:=h
   cases N _ rfl
   exact wy.pure B (by simp only[zH,g1,Y,run_neq_nil_nil _ _ hm]) RD.bool
  ·unfold bb at h
   obtain⟨rfl,rfl⟩:=h
   cases N _ rfl
   exact wy.pure B (by simp only[zH,g2,Y,run_neq_held_nil _ _ _ _ hm]) RD.bool
  ·exact absurd h zh
 ·exact absurd h zh
theorem Kf{x:Option D}{v:Value}{xt at':Nat}{ok:Bool}{d:Option D}{qm:St}(B:Inv O)(N:∀ z,x=some z->RD O z v)
  (h:(qu (Qd c x at' ok) O.st).leads (d,qm)):wy c.P (do zJ (.value (<- Instr.typeAssert v xt at' ok))) O d qm:=by
 unfold Qd at h
 split at h
 ·exact absurd h zh
 ·exact absurd h zh
 ·rename_i ty hni hu
  split at h
  ·rename_i t e
   cases I:qL t at'&&ok with
   | false=>rw[I]at h; exact absurd h zh
   | true =>
    rw[I,cond_true,du]at h
    obtain⟨rfl,rfl⟩:=h
    simp only[zI]at I
    have:=zF I.1
    subst this
    obtain rfl:=I.2
    cases N _ rfl with
    | iface _ _ u RP =>
     refine wy.pure B (v:=.tuple #[u,.bool true]) ?_ ?_
     ·cases ty<;>first | (exact(hni _ rfl).elim) | (simp[Instr.typeAssert,run_underlying hu])
     ·have:=wN.cons RP (wN.cons (RD.bool (O:=O) (b:=true)) wN.nil)
      exact .eD _ [u,.bool true] this.1 this.2
  ·exact absurd h zh
theorem YH{t:Nat}{x:Option D}{v:Value}{d:Option D}{qm:St}(B:Inv O)(N:∀ z,x=some z->RD O z v)
  (h:(qu (Xc c t x) O.st).leads (d,qm)):wy c.P (do zJ (.value (<- Instr.makeInterface t v))) O d qm:=by
 unfold Xc at h
 cases hu:c.P.underlying t with
 | none=>rw[hu]at h; exact absurd h zh
 | some u =>
  rw[hu]at h
  cases u<;>simp only at h
  all_goals try exact absurd h zh
  all_goals
   split at h
   ·rw[du]at h; obtain⟨rfl,rfl⟩:=h
    have hc:c.P.concrete t=true:=by unfold Program.concrete; rw[hu]
    exact wy.pure B (run_makeInterface O.w t v hc) (.iface t _ v (N _ rfl))
   ·exact absurd h zh
theorem z34{e:Ty}{x y:D}{v:Value}{l:List (den e)}(B:Inv O)(N:RD O x v)(h:(Zb O.st x).leads y)(R:Fq e y=some l):Src O e l v:=by
 rcases Vn B N h with⟨rfl,_⟩ | ⟨e',ys,rfl,hs,_⟩
 ·cases y with
  | qj σ z =>
   obtain⟨he,hz⟩:=wg (a:=σ) (b:=.sl e) R
   cases he
   cases hz
   exact D3 N
  | tight e' z ne =>
   obtain⟨he,hz⟩:=wg (a:=.sl e') (b:=.sl e) R
   cases he
   cases hz
   exact Wh N
  | wE =>
   simp only[Fq,Option.some.injEq]at R
   subst R
   exact KH N
  | _=>simp[Fq]at R
 ·obtain⟨he,hz⟩:=wg (a:=.sl e') (b:=.sl e) R
  grind
theorem Y5{s t e:Nat}{x:Option D}{v:Value}{d:Option D}{qm:St}(B:Inv O)(N:∀ z,x=some z->RD O z v)(hs:c.P.underlying s=some (.slice e))(ht:c.P.underlying t=some .string)
  (h:(qu (UT c e x) O.st).leads (d,qm)):wy c.P (do zJ (.value (<- convert s t v))) O d qm:=by
 unfold UT at h
 split at h
 ·rename_i z he
  rw[rH]at h
  obtain⟨h,rfl⟩:=h
  obtain⟨y,h1,M⟩:=T.xg.1 h
  split at M
  ·rename_i l R
   cases M
   have Cq:=z34 B (N _ rfl) h1 R
   obtain⟨a,cap,f,rfl,jg,hn,g1,g2⟩:=Cq.ex
   have jM:(convert s t (.slice a l.length cap)).run c.P O.w=.ok (.string (strOfNums l)) O.w:=by
    cases a with
    | none =>
     obtain⟨rfl,rfl⟩:=hn rfl
     exact run_convert_bytes_nil O.w s e hs he 0 0 t ht
    | some p =>
     rcases g2 p rfl with⟨rfl,rfl⟩ | ⟨hp,_,hc⟩
     ·have h0:(loadCells p 0).run c.P O.w=.ok (([]:List Int).map (zP .u8)).toArray O.w:=by
       rfl
      simp only[List.length_nil]
      rw[run_convert_bytes_string O.w s t e _ 0 0 hs he ht,run_bytesToString O.w _ 0 0 [] h0]
      rfl
     ·obtain⟨blk,o,sp⟩:=p
      subst hp
      refine run_convert_bytes_arg O.w s e hs he blk o l.length cap l rfl (λi hi => ?_) t ht
      have hf:=(g1 i hi).dM
      have:=hc i hi 0 (.int .u8 l[i]) (xy)
      have e1:o+i*Ty.size (.int .u8)+0=o+i:=by simp[Ty.size]
      grind
   refine wy.pure B jM ?_
   exact .str
  ·exact M.elim
 ·exact absurd h zh
theorem C4{s t:Nat}{x:Option D}{v:Value}{d:Option D}{qm:St}(B:Inv O)(N:∀ z,x=some z->RD O z v)
  (h:(qu (convertOp c s t x) O.st).leads (d,qm)):wy c.P (do zJ (.value (<- convert s t v))) O d qm:=by
 unfold convertOp at h
 split at h
 ·rename_i e hs ht
  exact Y5 B N hs ht h
 ·rename_i k0 k hs ht
  split at h
  ·rename_i k1 n hk
   have:=kz hk N
   subst this
   obtain⟨rfl,rfl⟩:=h
   exact wy.pure B (by simp[convert,run_underlying hs,run_underlying ht,Conv.intToInt]) RD.int
  ·exact absurd h zh
 ·rename_i hs ht
  split at h
  ·rename_i s' hk
   have:=QG hk N
   subst this
   obtain⟨rfl,rfl⟩:=h
   exact wy.pure B (by simp[convert,run_underlying hs,run_underlying ht]) RD.str
  ·exact absurd h zh
 ·exact absurd h zh
end
end Go.AM
namespace Go.AM
set_option linter.unusedSectionVars false
variable [yY]
section
variable {c:Ctx} {O:KS}
theorem Rm{ty t t':Nat}{s x:Option D}{v u:Value}{d:Option D}{qm:St}(B:Inv O)(hs:∀ z,s=some z->RD O z v)(N:∀ z,x=some z->RD O z u)
  (h:(qu (Ix c t s x) O.st).leads (d,qm)):wy c.P (do zJ (.value (<- Builtin.copy_ #[t,t'] ty #[v,u]))) O d qm:=by
 unfold Ix at h
 split at h
 ·rename_i et het
  split at h
  ·rename_i k b vi k' off len z hu bI
   cases hk:decide (k'=k)with
   | false=>rw[hk]at h; exact absurd h zh
   | true =>
    rw[hk,cond_true]at h
    obtain rfl:k'=k:=uB hk
    simp only[qu]at h
    obtain⟨y,h1,M⟩:=T.xg.1 h
    split at M
    ·rename_i l R
     unfold TN at M
     split at M
     ·rename_i dD e' Vq I
      split at M
      ·rename_i xs Yj
       obtain⟨he,hxx⟩:=wg (a:=.sl e') (b:=.sl (.int k')) Yj
       cases he
       obtain rfl:xs=Vq:=hxx
       obtain⟨⟨Cr,GS⟩,M⟩:=M
       cases M
       subst Cr
       have Cq:=z34 B (N _ rfl) h1 R
       obtain⟨a,cap,f,rfl,jg,hn,g1,g2⟩:=Cq.ex
       have hue:=yJ het
       have z0Y:(c.P.info? et).map (·.size)=some 1:=bI
       have hrd:=hs _ rfl
       cases hrd with
       | ms _ _ _ _ _ cap0 a0 SY hcap0 Kr hsp0 hh =>
       have hm:=hh xs I
       have Ks:((zR len l).map (zP k')).length=Nat.min l.length len:=by rw[List.length_map,zU]; exact Nat.min_comm _ _
       have z9D:min len (zS l)=Nat.min l.length len:=Nat.min_comm _ _
       by_cases h0:min len (zS l)=0
       ·-- nothing goes over
        have jM:=run_copy_none (P:=c.P) O.w t t' ty et a0 a len cap0 l.length cap hue z0Y (by rw[<- z9D]; exact h0)
        have VY:yr off len xs l=xs:=by
         unfold yr
         have ht:zR len l=[]:=zM (by rw[zU]; exact h0)
         rw[ht,h0,List.append_nil,xH,List.take_append_drop]
        have nU:O.st.set b (.arr vi (.int k') (yr off len xs l))=O.st:=by
         rw[VY]
         obtain⟨wM,hge⟩:=zA.1 I
         rw[<- hge,List.set_getElem_self]
        rw[nU]
        refine⟨O,.value (goInt 0),goInt 0,by simp[jM],.inl rfl,rfl,B,Ext.refl O,λd' eb => ?_⟩
        cases eb
        rw[h0]
        exact RD.int
       ·obtain⟨hle,hm⟩:=hm
        rcases hm with⟨hz,_⟩ | ⟨blk,n,o,zqD,hp,hv,RE,hc2,hc3⟩
        ·omega
        ·cases hv
         have ho:o=off:=by
          rcases hc3 with h | h
          ·omega
          ·simpa[Ty.size]using h
         subst ho
         have hl0:l≠[]:=λh=>h0 (by rw[h]; simp)
         obtain⟨p,rfl⟩:∃ p,a=some p:=by
          cases a with
          | none=>grind
          | some p=>simp
         rcases g2 p rfl with⟨h,_⟩ | ⟨Ws,_,hc⟩
         ·grind
         obtain⟨pb,po,psp⟩:=p
         simp only at Ws
         subst Ws
         obtain⟨_,z0D⟩:=B.blk b _ I
         rcases z0D with⟨_,hpn⟩ | ⟨pG,n',Wo,T,k1,k2,k3,k4,kr,g,k5⟩
         ·grind
         rw[hp]at k1
         cases k1
         have hn':zS xs<=Wo.size:=by rw[k3]; simpa[Ty.size]using k4
         have eA:∀ (i:Nat) (hi:i<zS xs),Wo[i]? = some (.int k' xs[i]):=by
          intro i hi
          obtain⟨q1,q2⟩:=k5 i hi
          have:=q2 0 (.int k' xs[i]) (by rw[q1.dM]; rfl)
          simpa[Ty.size]using this
         have znh:((zR len l).map (zP k')).length<=len:=by simp; omega
         have jM:=run_copy_row c.P O.w t t' ty et blk o len cap0 ⟨pb,po,none⟩ l.length cap Wo T ((zR len l).map (zP k')) hue z0Y k2 Ks
          (λj w hj=>by
           have MJ:j<(zR len l).length:=by have:=(zA.1 hj).1; simpa using this
           have T4:j<l.length:=by simp at MJ; omega
           have e1:w=.int k' l[j]:=by
            grind
           have:=hc j T4 0 (.int k' l[j]) (by rw[(g1 j T4).dM]; rfl)
           have zbq:(⟨pb,po,none⟩:Addr).add j=⟨pb,po+j,none⟩:=by unfold Addr.add; split<;>simp_all
           rw[zbq,e1]
           simpa[Ty.size]using this)
          (Z) (λw hw=>by obtain⟨_,_,rfl⟩:=qX.1 hw; rfl)
         have hlen:zS (yr o len xs l)=zS xs:=by
          simp only[yr,zK,zU,qK]
          omega
         have K8:Alike (.arr vi (.int k') xs) (.arr vi (.int k') (yr o len xs l)):=⟨rfl,zE _,λ_=>hlen.symm⟩
         let mz:Array Value:=(Wo.toList.take o++(zR len l).map (zP k')++Wo.toList.drop (o+((zR len l).map (zP k')).length)).toArray
         have GR:mz.size=n:=by
          simp only[mz,zY,zK,zU,qK,qG,List.length_map]at *
          omega
         have zfF:∀ (i:Nat) (hi:i<zS (yr o len xs l)),mz[i]? = some (.int k' (yr o len xs l)[i]):=by
          intro i hi
          have h1:=Vo (cs:=Wo.toList) (us:=(zR len l).map (zP k')) (o:=o) (n:=((zR len l).map (zP k')).length) rfl (by simp; simp at znh; omega) i
          have e1:mz[i]? = (Wo.toList.take o++(zR len l).map (zP k')++Wo.toList.drop (o+((zR len l).map (zP k')).length))[i]? := by simp[mz]
          have hm2:(List.map (zP k') (zR len l)).length=min len (zS l):=qz
          rw[hm2]at h1 e1
          have e2:(yr o len xs l)[i]? = if i<o then xs[i]? else if i<o+min len (zS l)then(zR len l)[i-o]? else xs[i]? := by
           unfold yr
           have hto:(zR o xs).length=o:=by simp; omega
           by_cases q1:i<o
           ·rw[if_pos q1,qI,zG (Z),List.getElem?_take,if_pos q1]
           ·rw[if_neg q1,qI,qC (Z),hto]
            by_cases q2:i<o+min len (zS l)
            ·rw[if_pos q2,zG (by simp; omega)]
            ·rw[if_neg q2,qC (by simp; omega),List.getElem?_drop,zU]
             congr 1; omega
          have e3:(yr o len xs l)[i]? = some (yr o len xs l)[i]:=zN hi
          rw[e1,h1]
          rw[e2]at e3
          have hix:i<zS xs:=by rw[<- hlen]; exact hi
          split
          ·rename_i q1
           rw[if_pos q1,zN hix]at e3
           rw[zV,eA i hix,Option.some.inj e3]
          ·rename_i q1
           rw[if_neg q1]at e3
           split
           ·rename_i q2
            rw[if_pos q2]at e3
            rw[qR,e3]
            rfl
           ·rename_i q2
            rw[if_neg q2,zN hix]at e3
            rw[zV,eA i hix,Option.some.inj e3]
         refine⟨O.upd b blk mz (.arr vi (.int k') (yr o len xs l)),.value (goInt (((zR len l).map (zP k')).length:Nat)),goInt (((zR len l).map (zP k')).length:Nat),(by rw[zH,jM]; rfl),.inl rfl,rfl,UI B hp I K8 ?_,UH B hp I K8,λd' eb => ?_⟩
         ·refine⟨by simp[Ty.size],.inr ⟨blk,n,mz,T,hp,setRow_heap O.w blk Wo mz T (0,0) k2,GR,by simp[Ty.size]; omega,kr,λi=>[.int k' ((yr o len xs l).getD i 0)],λi hi => ?_⟩⟩
          have hg:(yr o len xs l).getD i 0=(yr o len xs l)[i]:=by simp[List.getD_eq_getElem?_getD,zN hi]
          show Rc _ _ (.int k') _ [zP k' ((yr o len xs l).getD i 0)]/\∀ (j:Nat) (v:Value),[zP k' ((yr o len xs l).getD i 0)][j]? = some v->_
          rw[hg]
          refine⟨.int k' _,λj w hj => ?_⟩
          cases j with
          | zero =>
           simp at hj
           subst hj
           simpa[Ty.size]using zfF i hi
          | succ j=>simp at hj
         ·cases eb
          rw[z9D,<- Ks]
          exact RD.int
      ·exact M.elim
     ·exact M.elim
    ·exact M.elim
  ·exact absurd h zh
 ·exact absurd h zh
end
end Go.AM
namespace Go.AM
set_option linter.unusedSectionVars false
variable [yY]
def gy(P:Program)(g:Nat)(args:Array Value)(w:World)(hl:Ending->World->Prop):Prop :=
 ((callFunc g args).run P w=.ok (.enter g args) w/\Calls P g args w hl)\/∃ v w',(callFunc g args).run P w=.ok (.value v) w'/\hl (.returned v) w'
theorem gy.mono{P:Program}{g:Nat}{args:Array Value}{w:World}{hl R':Ending->World->Prop}(h:gy P g args w hl)(hr:∀ e w,hl e w->R' e w):gy P g args w R':=by
 rcases h with⟨h1,M⟩ | ⟨v,w',h1,M⟩
 ·exact .inl ⟨h1,M.mono hr⟩
 ·exact .inr ⟨v,w',h1,hr _ _ M⟩
def jd(O:KS):GC->Ending->Prop
 | .ret ds,e=>∃ v,e=.returned v/\RD O (eL ds) v
 | .hZ d,e=>∃ v,e=.panicked [{ v,recovered:=false }]/\RD O d v
abbrev Td:=Nat->Array Value->World->(Ending->World->Prop)->Prop
def zlM(Dr:Td)(g:Nat)(S:List D->St->T (GC×St)):Prop :=
 ∀ (O:KS) (args:List D) (xb:List Value) (rs:GC) (qm:St),(S args O.st).leads (rs,qm)->Inv O->wN O args xb ->
  Dr g xb.toArray O.w λe w'=>∃ E:KS,E.w=w'/\E.st=qm/\Inv E/\Ext O E/\jd E rs e
def Di(P:Program)(g:Nat)(S:List D->St->T (GC×St)):Prop :=
 ∀ (O:KS) (args:List D) (xb:List Value) (rs:GC) (qm:St),(S args O.st).leads (rs,qm)->Inv O->wN O args xb ->
  gy P g xb.toArray O.w λe w'=>∃ E:KS,E.w=w'/\E.st=qm/\Inv E/\Ext O E/\jd E rs e
section
variable {c:Ctx} {O:KS}
theorem RD.weaken{JQ:Nat->Prop}(hs:∀ k,O.ok k->JQ k){d:D}{v:Value}(h:RD O d v):RD { O with ok:=JQ } d v:=by
 have VY:I3 O.w O.w O.ok JQ:=λk hk=>⟨hs k hk,rfl⟩
 induction h with
 | qj τ y cs h=>exact .qj τ y cs (h.mono VY)
 | sr e l b v h ht hf=>exact .sr e l b v (h.mono VY) ht hf
 | vz e a=>exact .vz e a
 | tight e l ne blk off f kf j3 h hc=>exact .tight e l ne blk off f kf (hs _ j3) (λi hi=>(h i hi).mono VY) hc
 | wE=>exact .wE
 | gU=>exact .gU
 | v8=>exact .v8
 | gj=>exact .gj
 | uT=>exact .uT
 | WH v h=>exact .WH v h
 | mP T=>exact .mP T
 | nn b T d J=>exact .nn b T d J
 | np b T blk n d J h=>exact .np b T blk n d J h
 | yL b blk n d J h=>exact .yL b blk n d J h
 | ptr b off blk n d J h=>exact .ptr b off blk n d J h
 | vA τ y cs blk off j3 h hc=>exact .vA τ y cs blk off (hs _ j3) (h.mono VY) hc
 | gG b vi e idx off blk o I h=>exact .gG b vi e idx off blk o I h
 | ms b vi e off len cap a I jg ha Ws h=>exact .ms b vi e off len cap a I jg ha Ws h
 | wh f l vs R h ih=>exact .wh f l vs R ih
 | agg l vs R ho h ih=>exact .agg l vs R ho ih
 | eD l vs R h ih=>exact .eD l vs R ih
 | iface t d v h ih=>exact .iface t d v ih
theorem RD.free{E:KS}(hw:E.w=O.w)(j3:E.ok=O.ok)(vX:O.st=[]){d:D}{v:Value}(h:RD O d v):RD E d v:=by
 obtain⟨w',JQ,ph',qm⟩:=E
 subst hw j3
 induction h with
 | qj τ y cs h=>exact .qj τ y cs h
 | sr e l b v h ht hf=>exact .sr e l b v h ht hf
 | vz e a=>exact .vz e a
 | tight e l ne blk off f kf j3 h hc=>exact .tight e l ne blk off f kf j3 h hc
 | wE=>exact .wE
 | gU=>exact .gU
 | v8=>exact .v8
 | gj=>exact .gj
 | uT=>exact .uT
 | WH v h=>exact .WH v h
 | mP T=>exact .mP T
 | nn b T d J=>grind
 | np b T blk n d J h=>grind
 | yL b blk n d J h=>grind
 | ptr b off blk n d J h=>grind
 | vA τ y cs blk off j3 h hc=>exact .vA τ y cs blk off j3 h hc
 | gG b vi e idx off blk o I h=>rcases I with I | ⟨_,_,_,I,_⟩ <;> · rw[vX]at I; simp at I
 | ms b vi e off len cap a I jg ha Ws h=>rcases I with I | ⟨_,_,_,I,_⟩ <;> · rw[vX]at I; simp at I
 | wh f l vs R h ih=>exact .wh f l vs R ih
 | agg l vs R ho h ih=>exact .agg l vs R ho ih
 | eD l vs R h ih=>exact .eD l vs R ih
 | iface t d v h ih=>exact .iface t d v ih
theorem Rc.scalar{w w':World}{ok JQ:Nat->Prop}{τ:Ty}{x:den τ}{cs:List Value}(h:Rc w ok τ x cs)(ht:τ.scalar=true):Rc w' JQ τ x cs:=by
 induction h with
 | int k n=>exact .int k n
 | bool b=>exact .bool b
 | str s=>exact .str s
 | lB=>cases ht
 | sl=>cases ht
 | nil=>exact .nil
 | cons a b x y c1 c2 h1 M i1 i2=>simp only[Ty.scalar,zI]at ht; exact .cons a b x y c1 c2 (i1 ht.1) (i2 ht.2)
 | expr=>cases ht
theorem zd4{e:Ty}{ys:List (den e)}{v:Value}(h:Src O e ys v):Rc O.w (T9 O) (.sl e) ys [v]:=by
 obtain⟨a,cap,f,rfl,jg,hn,h1,M⟩:=h.ex
 cases a with
 | none=>obtain⟨rfl,rfl⟩:=hn rfl; exact .lB e none
 | some p =>
  rcases M p rfl with⟨rfl,rfl⟩ | ⟨hp,j3,hc⟩
  ·exact .lB e _
  obtain⟨blk,o,sp⟩:=p
  subst hp
  exact .sl e ys blk o cap f j3 jg (λi hi=>(h1 i hi).mono λk hk=>⟨.inl hk,rfl⟩) hc
def KS.all(O:KS):KS:={ O with ok:=T9 O }
theorem RD.all{d:D}{v:Value}(h:RD O d v):RD O.all d v:=h.weaken λ_ hk=>.inl hk
theorem wN.all{l:List D}{vs:List Value}(h:wN O l vs):wN O.all l vs:=⟨h.1,λi h1 M=>(h.2 i h1 M).all⟩
theorem Br{x y:D}{v:Value}(B:Inv O)(N:RD O x v)(h:(Zb O.st x).leads y):RD O.all y v/\(x.one=true->y.one=true)/\(x.bz=false->y.bz=false):=by
 rcases Vn B N h with⟨rfl,_⟩ | ⟨e,ys,rfl,hs,_⟩
 ·exact⟨N.all,id,id⟩
 ·exact⟨RD.tY rfl (zd4 hs),λ_=>rfl,λ_=>rfl⟩
theorem Bw(B:Inv O):∀ {l r:List D} {vs:List Value},wN O l vs->(∀ d∈l,d.one=true)->(Bv O.st l).leads r->wN O.all r vs/\∀ d∈r,d.one=true
 | [],r,vs,h,_,hs=>by cases hs; rw[h.wb]; exact⟨.nil,nofun⟩
 | d::l,r,vs,h,ho,hs=>by
  simp only[Bv,T.xg]at hs
  obtain⟨x,N,l',R,rfl⟩:=hs
  obtain⟨v,us,rfl,h1,M⟩:=h.cons_inv
  obtain⟨g1,g2,_⟩:=Br B h1 N
  obtain⟨k1,k2⟩:=Bw B M (λd J=>ho d (xC _ J)) R
  refine⟨.cons g1 k1,λd J => ?_⟩
  grind
theorem z2X{x y:D}{v:Value}(B:Inv O)(N:RD O x v)(h:(snap O.st x).leads y):RD O.all y v:=by
 cases x with
 | agg l =>
  simp only[snap,T.xg]at h
  obtain⟨r,hr,rfl⟩:=h
  cases N with
  | agg _ vs R ho hh =>
   obtain⟨g1,g2⟩:=Bw B (⟨R,hh⟩:wN O l vs) ho hr
   exact .agg r vs g1.1 g2 g1.2
 | _=>exact(Br B N h).1
theorem VG{τ:Ty}{d:D}{x:den τ}{v:Value}(B:Inv O)(J:RD O d v)(h:(VF O.st τ d).leads x):RD O.all (.qj τ x) v:=by
 simp only[VF,T.xg,T.yu]at h
 obtain⟨y,h1,M⟩:=h
 exact mw (z2X B J h1) M
theorem Bu{x y:D}(h:(Zb [] x).leads y):y=x:=by
 cases x with
 | ms=>simp[Zb,T.leads]at h
 | _=>exact h.symm
theorem Bx:∀ {l r:List D},(Bv [] l).leads r->r=l
 | [],_,h=>h.symm
 | d::l,r,h=>by
  simp only[Bv,T.xg]at h
  obtain⟨x,N,l',R,rfl⟩:=h
  rw[Bu N,Bx R]
theorem z2Y{x y:D}(h:(snap [] x).leads y):y=x:=by
 cases x with
 | agg l =>
  simp only[snap,T.xg]at h
  obtain⟨r,hr,rfl⟩:=h
  rw[Bx hr]
 | _=>exact Bu h
theorem DX{τ:Ty}{d:D}{x:den τ}{v:Value}(J:RD O d v)(h:(VF [] τ d).leads x):RD O (.qj τ x) v:=by
 simp only[VF,T.xg,T.yu]at h
 obtain⟨y,h1,M⟩:=h
 rw[z2Y h1]at M
 exact mw J M
def Jv:D->Bool | .qj .. | .vA .. => true | _=>false
def Mx:D->Bool
 | .wh _ l=>l.all Jv
 | d=>Jv d
theorem z5d{d:D}(h:Jv d=true):Mx d=true:=by cases d<;>first | exact h | cases h
theorem Y4{st:St}{τ:Ty}{d y:D}(h:(Qj st τ d).leads y):Jv y=true:=by
 unfold Qj at h
 split at h
 ·split at h
  ·cases h; rfl
  ·exact h.elim
 ·split at h
  ·split at h
   ·cases h; rfl
   ·exact h.elim
  ·exact h.elim
 ·exact h.elim
theorem Hs{τ:Ty}{d y:D}{v:Value}(B:Inv O)(J:RD O d v)(h:(Qj O.st τ d).leads y):RD O.all y v:=by
 unfold Qj at h
 split at h
 ·split at h
  ·rename_i x z hz
   cases h
   obtain⟨e,rfl⟩:=wg hz
   cases e
   exact J.all
  ·exact h.elim
 ·rename_i b off
  split at h
  ·rename_i d' I
   split at h
   ·rename_i z hz
    cases h
    cases ho:qL off 0 with
    | false=>grind
    | true =>
     have:=zF ho
     subst this
     obtain⟨blk,n,cs,t,g1,g2,g3,g4,g5⟩:=(B.blk b _ I:kT O b d').cells (by cases d'<;>first | rfl | cases hz)
     cases J with
     | ptr _ _ pG n' d1 hd1 hp =>
      rw[g1]at hp
      cases hp
      have j3:T9 O blk:=.inr ⟨b,n,g1⟩
      have ht:d'.bz=false:=by
       cases d' with
       | eD l=>simp[ox,D.bz]at hz
       | _=>rfl
      have Ds:=Xo hz g4 g5.1 ht
      refine .vA τ z cs.toList blk 0 j3 (Ds.mono λk hk=>⟨.inl hk,rfl⟩) λj v hj => ?_
      show O.w.cell? _=_
      rw[XX g2,qE]
      grind
   ·exact h.elim
  ·exact h.elim
 ·exact h.elim
theorem Ht{τ:Ty}{d y:D}{v:Value}(J:RD O d v)(h:(Qj [] τ d).leads y):RD O y v:=by
 unfold Qj at h
 split at h
 ·split at h
  ·rename_i x z hz
   cases h
   obtain⟨e,rfl⟩:=wg hz
   grind
  ·exact h.elim
 ·rename_i b off
  split at h
  ·grind
  ·exact h.elim
 ·exact h.elim
theorem DU{st:St}{p:UO}{d y:D}(h:(QM st p d).leads y):Jv y=true:=by
 cases p with
 | rp τ=>exact Y4 h
 | im τ=>simp only[QM,T.xg]at h; obtain⟨x,_,rfl⟩:=h; rfl
theorem Iv{p:UO}{d y:D}{v:Value}(B:Inv O)(J:RD O d v)(h:(QM O.st p d).leads y):RD O.all y v:=by
 cases p with
 | rp τ=>exact Hs B J h
 | im τ=>simp only[QM,T.xg]at h; obtain⟨x,N,rfl⟩:=h; exact VG B J N
theorem Iw{p:UO}{d y:D}{v:Value}(J:RD O d v)(h:(QM [] p d).leads y):RD O y v:=by
 cases p with
 | rp τ=>exact Ht J h
 | im τ=>simp only[QM,T.xg]at h; obtain⟨x,N,rfl⟩:=h; exact DX J N
theorem VE{st:St}:∀ {ps:List UO} {ds r:List D},(my st ps ds).leads r->∀ d∈r,Jv d=true
 | [],[],r,hs=>by cases hs; nofun
 | p::ps,d::ds,r,hs=>by
  simp only[my,T.xg]at hs
  obtain⟨x,N,l,R,rfl⟩:=hs
  intro d' eb
  rcases xG.1 eb with rfl | eb
  ·exact DU N
  ·exact VE R d' eb
 | [],_::_,_,hs=>hs.elim
 | _::_,[],_,hs=>hs.elim
theorem Jt(B:Inv O):∀ {ps:List UO} {ds r:List D} {vs:List Value},wN O ds vs->(my O.st ps ds).leads r->wN O.all r vs
 | [],[],r,vs,h,hs=>by cases hs; rw[h.wb]; exact .nil
 | p::ps,d::ds,r,vs,h,hs=>by
  simp only[my,T.xg]at hs
  obtain⟨x,N,l,R,rfl⟩:=hs
  obtain⟨v,us,rfl,h1,M⟩:=h.cons_inv
  exact .cons (Iv B h1 N) (Jt B M R)
 | [],_::_,_,_,_,hs=>hs.elim
 | _::_,[],_,_,_,hs=>hs.elim
theorem Ju:∀ {ps:List UO} {ds r:List D} {vs:List Value},wN O ds vs->(my [] ps ds).leads r->wN O r vs
 | [],[],r,vs,h,hs=>by cases hs; rw[h.wb]; exact .nil
 | p::ps,d::ds,r,vs,h,hs=>by
  simp only[my,T.xg]at hs
  obtain⟨x,N,l,R,rfl⟩:=hs
  obtain⟨v,us,rfl,h1,M⟩:=h.cons_inv
  exact .cons (Iw h1 N) (Ju M R)
 | [],_::_,_,_,_,hs=>hs.elim
 | _::_,[],_,_,_,hs=>hs.elim
theorem WO{st:St}{p:Vt}{d y:D}(h:(DV st p d).leads y):(∃ τ x,p=.ty τ/\(VF st τ d).leads x/\y=.qj τ x)\/(∃ τ,p=.rp τ/\(Qj st τ d).leads y) \/
  ∃ f caps l l',p=.wh f caps/\d=.wh f l/\(my st caps l).leads l'/\y=.wh f l':=by
 cases p with
 | ty τ =>
  have h':((VF st τ d).bind λx=>T.ret (D.qj τ x)).leads y:=by cases d<;>exact h
  simp only[T.xg]at h'
  obtain⟨x,N,rfl⟩:=h'
  grind
 | rp τ=>exact .inr (.inl ⟨τ,rfl,by cases d<;>exact h⟩)
 | wh f caps =>
  cases d with
  | wh f' l =>
   simp only[DV]at h
   cases I:qL f f' with
   | false=>rw[I]at h; exact h.elim
   | true =>
    rw[I,cond_true,T.xg]at h
    obtain⟨l',R,rfl⟩:=h
    have:=zF I
    grind
  | _=>exact h.elim
theorem Rl{st:St}{p:Vt}{d y:D}(h:(DV st p d).leads y):Mx y=true:=by
 rcases WO h with⟨τ,x,_,_,rfl⟩ | ⟨τ,_,h⟩ | ⟨f,caps,l,l',_,_,h',rfl⟩
 ·rfl
 ·exact z5d (Y4 h)
 ·exact qU.2 (VE h')
theorem TI{p:Vt}{d y:D}{v:Value}(B:Inv O)(J:RD O d v)(h:(DV O.st p d).leads y):RD O.all y v:=by
 rcases WO h with⟨τ,x,_,N,rfl⟩ | ⟨τ,_,h⟩ | ⟨f,caps,l,l',_,rfl,h',rfl⟩
 ·exact VG B J N
 ·exact Hs B J h
 ·cases J with
  | wh _ _ vs R hh =>
   have:=Jt B (⟨R,hh⟩:wN O l vs) h'
   exact .wh f l' vs this.1 this.2
theorem TJ{p:Vt}{d y:D}{v:Value}(J:RD O d v)(h:(DV [] p d).leads y):RD O y v:=by
 rcases WO h with⟨τ,x,_,N,rfl⟩ | ⟨τ,_,h⟩ | ⟨f,caps,l,l',_,rfl,h',rfl⟩
 ·exact DX J N
 ·exact Ht J h
 ·cases J with
  | wh _ _ vs R hh =>
   have:=Ju (⟨R,hh⟩:wN O l vs) h'
   exact .wh f l' vs this.1 this.2
theorem WQ{st:St}:∀ {ps:List Vt} {ds r:List D},(Qi st ps ds).leads r->∀ d∈r,Mx d=true
 | [],[],r,hs=>by cases hs; nofun
 | p::ps,d::ds,r,hs=>by
  simp only[Qi,T.xg]at hs
  obtain⟨x,N,l,R,rfl⟩:=hs
  intro d' eb
  rcases xG.1 eb with rfl | eb
  ·exact Rl N
  ·exact WQ R d' eb
 | [],_::_,_,hs=>hs.elim
 | _::_,[],_,hs=>hs.elim
theorem Hr(B:Inv O):∀ {ps:List Vt} {ds r:List D} {vs:List Value},wN O ds vs->(Qi O.st ps ds).leads r->wN O.all r vs
 | [],[],r,vs,h,hs=>by cases hs; rw[h.wb]; exact .nil
 | p::ps,d::ds,r,vs,h,hs=>by
  simp only[Qi,T.xg]at hs
  obtain⟨x,N,l,R,rfl⟩:=hs
  obtain⟨v,us,rfl,h1,M⟩:=h.cons_inv
  exact .cons (TI B h1 N) (Hr B M R)
 | [],_::_,_,_,_,hs=>hs.elim
 | _::_,[],_,_,_,hs=>hs.elim
theorem US:∀ {ps:List Vt} {ds r:List D} {vs:List Value},wN O ds vs->(Qi [] ps ds).leads r->wN O r vs
 | [],[],r,vs,h,hs=>by cases hs; rw[h.wb]; exact .nil
 | p::ps,d::ds,r,vs,h,hs=>by
  simp only[Qi,T.xg]at hs
  obtain⟨x,N,l,R,rfl⟩:=hs
  obtain⟨v,us,rfl,h1,M⟩:=h.cons_inv
  exact .cons (TJ h1 N) (US M R)
 | [],_::_,_,_,hs,h=>h.elim
 | _::_,[],_,_,hs,h=>h.elim
def KS.bare(O:KS)(ok:Nat->Prop):KS:=⟨O.w,ok,[],[]⟩
theorem KV{ok:Nat->Prop}(B:Inv O)(hs:∀ k,O.ok k->ok k)(h:∀ k,ok k->k<O.w.heap.size):Inv (O.bare ok) :=
 ⟨rfl,h,λb blk n h=>by simp[KS.bare]at h,λb b' blk n n' h=>by nofun,λb x h=>by simp[KS.bare]at h,B.gl.mono λk hk=>⟨hs k hk,rfl⟩⟩
theorem Zo{ok:Nat->Prop}{d:D}{v:Value}(hi:Jv d=true)(h:RD { O with ok:=ok } d v):RD (O.bare ok) d v:=by
 cases d with
 | qj τ x=>obtain⟨cs,h1,rfl⟩:=RD.cN h; exact .qj τ x cs h1
 | vA τ x=>cases h with | vA _ _ cs blk off j3 h hc=>exact .vA τ x cs blk off j3 h hc
 | _=>cases hi
theorem Hu{ok:Nat->Prop}{d:D}{v:Value}(hi:Mx d=true)(h:RD { O with ok:=ok } d v):RD (O.bare ok) d v:=by
 cases d with
 | wh f l =>
  cases h with
  | wh _ _ vs R hh=>exact .wh f l vs R λi h1 M=>Zo (qU.1 hi _ (qA h1)) (hh i h1 M)
 | qj τ x=>exact Zo hi h
 | vA τ x=>exact Zo hi h
 | _=>cases hi
theorem DK{κ1:KS}{ok:Nat->Prop}(B:Inv O)(Vv:Inv κ1)(vX:κ1.st=[])(N:Ext (O.bare ok) κ1)(JQ:Nat->Prop)(h1:∀ k,O.ok k->JQ k)(M:∀ k,JQ k->O.ok k\/O.w.heap.size<=k)(h3:∀ k,JQ k->k<κ1.w.heap.size) :
  Ext O { O with w:=κ1.w,ok:=JQ }/\Inv { O with w:=κ1.w,ok:=JQ }:=by
 have hfr:∀ k,k<O.w.heap.size->κ1.w.heap[k]? = O.w.heap[k]? := λk hk=>N.frame k hk λb n h=>by simp[KS.bare]at h
 have bI:O.w.heap.size<=κ1.w.heap.size:=N.size
 have he:Ext O { O with w:=κ1.w,ok:=JQ }:=⟨N.os,N.tape,N.output,bI,λk hk=>⟨h1 k hk,hfr k (B.bJ k hk)⟩,λk hk=>(M k hk).elim .inl (λh=>.inr (.inl h)),λ_ _ _ h=>.inl h,λb d h=>⟨⟨d,h⟩,rfl⟩,
  λb v0 e xs h=>.inr ⟨v0,xs,h,zE _,λ_=>⟨rfl,rfl⟩⟩,λ_ h=>h,zE _,λk hk _=>hfr k hk⟩
 refine⟨he,B.len,h3,λb blk n h => ?_,B.inj,λb x h=>(B.blk b x h).mono he rfl λblk n h=>hfr _ (B.apart b blk n h).1,B.gl.mono he.same⟩
 obtain⟨g1,g2⟩:=B.apart b blk n h
 grind
theorem Ri{g:Nat}{args:List D}{xb:List Value}{d:Option D}{qm:St}(hs:Di c.P g (c.fn g))(B:Inv O)(ha:wN O args xb)
  (h:(qu (match c.sig g args with | some s=>en c g s args | none=>sA c g args) O.st).leads (d,qm)) :
  gy c.P g xb.toArray O.w λe w'=>∃ (E:KS) (v:Value),E.w=w'/\E.st=qm/\Inv E/\Ext O E/\e=.returned v/\∀ d',d=some d'->RD E d' v:=by
 split at h
 ·rename_i s RM
  unfold en at h
  cases hm:(!(args.any Jh))with
  | true =>
   rw[hm,cond_true,kR]at h
   obtain⟨h,rfl⟩:=h
   simp only[T.xg]at h
   obtain⟨l,R,⟨rs,dC⟩,hc,hr⟩:=h
   have fk:=US ha R
   have I:wN (O.bare O.ok) l xb:=⟨fk.1,λi h1 M=>Hu (WQ R _ (qA h1)) (fk.2 i h1 M)⟩
   refine(hs (O.bare O.ok) l xb rs dC hc (KV B (λ_ h=>h) B.bJ) I).mono ?_
   rintro e w' ⟨κ1,rfl,vX,Vv,N,he⟩
   unfold z2P at hr
   split at hr
   ·rename_i ds heq
    cases heq
    cases hr
    obtain⟨v,rfl,hv⟩:=he
    obtain⟨hE,hI'⟩:=DK B Vv vX N κ1.ok (λk hk=>(N.same k hk).1) (λk hk=>by
     rcases N.fresh k hk with h | h | ⟨b,n,h⟩
     ·exact .inl h
     ·exact .inr h
     ·simp[KS.bare]at h) Vv.bJ
    exact⟨{ O with w:=κ1.w,ok:=κ1.ok },v,rfl,rfl,hI',hE,rfl,λd' eb=>by cases eb; exact RD.free (O:=κ1) (E:={ O with w:=κ1.w,ok:=κ1.ok }) rfl rfl vX hv⟩
   ·exact hr.elim
  | false =>
   rw[hm,cond_false,rH]at h
   obtain⟨h,rfl⟩:=h
   simp only[T.xg]at h
   obtain⟨l,R,⟨rs,dC⟩,hc,hr⟩:=h
   have fk:=Hr B ha R
   have I:wN (O.bare (T9 O)) l xb:=⟨fk.1,λi h1 M=>Hu (WQ R _ (qA h1)) (fk.2 i h1 M)⟩
   have wM:∀ k,T9 O k->k<O.w.heap.size:=by
    rintro k (hk | ⟨b,n,hk⟩)
    ·exact B.bJ k hk
    ·exact(B.apart b k n hk).1
   refine(hs (O.bare (T9 O)) l xb rs dC hc (KV B (λ_ h=>.inl h) wM) I).mono ?_
   rintro e w' ⟨κ1,rfl,vX,Vv,N,he⟩
   unfold Wc at hr
   split at hr
   ·rename_i ds heq
    cases heq
    cases ZK:ds.all Wf with
    | false=>rw[ZK]at hr; exact hr.elim
    | true =>
     rw[ZK,cond_true]at hr
     cases hr
     obtain⟨v,rfl,hv⟩:=he
     obtain⟨hE,hI'⟩:=DK B Vv vX N O.ok (λk hk=>hk) (λk hk=>.inl hk) (λk hk=>qO (B.bJ k hk) N.size)
     refine⟨{ O with w:=κ1.w,ok:=O.ok },v,rfl,rfl,hI',hE,rfl,λd' eb => ?_⟩
     cases eb
     have one:∀ d u,Wf d=true->RD κ1 d u->RD { O with w:=κ1.w,ok:=O.ok } d u:=by
      intro d u J hu
      cases d<;>simp[Wf]at J
      obtain⟨cs,h1,rfl⟩:=RD.cN hu
      exact .qj _ _ cs (h1.scalar J)
     have GY:=qU.1 ZK
     unfold eL at hv ⊢
     split at hv
     ·exact one _ _ (GY _ (qz)) hv
     ·rename_i kf
      cases hv with
      | eD _ vs R hh=>exact .eD ds vs R λi h1 M=>one _ _ (GY _ (qA h1)) (hh i h1 M)
   ·exact hr.elim
 ·unfold sA at h
  simp only[qu,T.xg]at h
  obtain⟨⟨rs,dC⟩,hc,hr⟩:=h
  refine(hs O args xb rs dC hc B ha).mono ?_
  rintro e w' ⟨κ1,rfl,vX,Vv,N,he⟩
  cases rs with
  | hZ p=>exact hr.elim
  | ret ds =>
   cases hr
   obtain⟨v,rfl,hv⟩:=he
   exact⟨κ1,v,rfl,vX,Vv,N,rfl,λd' eb=>by cases eb; exact hv⟩
end
end Go.AM