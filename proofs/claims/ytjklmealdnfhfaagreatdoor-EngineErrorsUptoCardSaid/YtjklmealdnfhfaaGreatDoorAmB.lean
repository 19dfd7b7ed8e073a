/-
  The abstract machine, part B: texts of our own, the same for each claim.
-/
import Derived.Test.YtjklmealdnfhfaaGreatDoorAmA
import Derived.Lib.AppendStr
import Derived.Maps.OwnSet
import Derived.Lib.LazyBuf
import Derived.Laws.Pointers
import Derived.WideLaws
import Derived.Laws.BytesArg
import Derived.Laws.CopyRow
import Derived.Laws.IdiomCopy
set_option linter.unusedVariables false
open List renaming getElem?_eq_some_iff -> zA, getElem?_append_left -> zG, length_append -> zK, eq_nil_of_length_eq_zero -> zM, getElem?_eq_getElem -> zN, take -> zR, length -> zS, getElem?_set -> zT, length_take -> zU, size_toArray -> zY, getElem_mem -> qA, getElem?_append_right -> qC, append_assoc -> qI, take_succ_eq_append_getElem -> qJ, length_drop -> qK, getElem?_map -> qR, all_eq_true -> qU, length_cons -> qV, getElem?_set_self -> qW, mem_map -> qX, mem_append -> qZ, getElem?_toArray -> xA, length_replicate -> xB, mem_cons_of_mem -> xC, mem_of_mem_drop -> xD, mem_cons -> xG
open Go.Result renaming andThen_ok -> Y
open Nat renaming mul_le_mul_right -> X, le_of_ble_eq_true -> V, le_refl -> zE, eq_of_beq_eq_true -> zF, not_lt_zero -> zW, succ_mul -> qB, add_mul -> qD, zero_add -> qE, beq -> qL, le_trans -> qN, lt_of_lt_of_le -> qO, blt -> xE, add_zero -> xH
open Go.Sem renaming run_bind -> zH, run_pure -> qF
open Bool renaming and_eq_true -> zI
open Pure renaming pure -> zJ
open Go.Builtin renaming append_ -> zL, firstCells -> zO, zeroCells -> zX, lenOf -> qS
open Go.Value renaming int -> zP
open Go.Instr renaming buildSlice -> zQ, fill -> qH, box -> qT, makeSlice -> qY, storeAt -> xF
open Array renaming getElem?_toList -> zV, length_toList -> qG, range -> xK
open Option renaming isSome_iff_exists -> zZ
open Go.Maps renaming keyOf_int_mk -> qM, int_keyed -> qQ
open Go.Lib renaming run_firstCells_string -> qP
open Go.WideElems renaming rd -> xI, rg -> xJ
namespace Go.AM
set_option linter.unusedSectionVars false
variable [yV]
section
variable {c:Ctx} {O E:KS}
theorem pw.mono(x:Ext O E){b:Nat}(hp:E.ph[b]? = O.ph[b]?)(hh:∀ blk n,O.ph[b]? = some (some (blk,n))->E.w.heap[blk]? = O.w.heap[blk]?){y:cG}(h:pw O b y):pw E b y:=by
 cases y with
 | dead=>trivial
 | var d =>
  refine kO.elim h (λhm h=>.mk hm ?_) λl e h=>by
   subst e
   obtain⟨blk,o,h1,M,h3⟩:=h
   exact⟨blk,o,hp.trans h1,(hh blk 0 h1).trans M,h3⟩
  obtain⟨blk,n,cs,t,h1,M,h3,h4,h5⟩:=h
  exact⟨blk,n,cs,t,hp.trans h1,(hh blk n h1).trans M,h3,h4.mono x,h5⟩
 | arr vi e xs =>
  obtain⟨h0,h⟩:=h
  refine⟨h0,rK h (λh=>⟨h.1,hp.trans h.2⟩) ?_⟩
  rintro⟨blk,n,cs,t,h1,M,h3,h4,hr,f,h5⟩
  exact⟨blk,n,cs,t,hp.trans h1,(hh blk n h1).trans M,h3,h4,hr,f,λi hi=>⟨(h5 i hi).1.mono x.same,(h5 i hi).2⟩⟩
def KS.qi(O:KS)(w':World):KS:={ O with w:=w',ok:=λk=>O.ok k\/k=O.w.heap.size }
structure mJ(w w':World)(o:Obj):Prop where
 os:w'.os=w.os
 tape:w'.tape=w.tape
 output:w'.output=w.output
 heap:w'.heap=w.heap.push o
theorem mJ.size{w w':World}{o:Obj}(g:mJ w w' o):w'.heap.size=w.heap.size+1:=by rw[g.heap]; simp
theorem mJ.old{w w':World}{o:Obj}(g:mJ w w' o){k:Nat}(h:k<w.heap.size):w'.heap[k]? = w.heap[k]? := by
 rw[g.heap,Array.getElem?_push,if_neg (Z)]
theorem mJ.new{w w':World}{o:Obj}(g:mJ w w' o):w'.heap[w.heap.size]? = some o:=by rw[g.heap]; simp
theorem mJ.alloc(w:World)(o:Obj):mJ w (w.alloc o) o:=⟨rfl,rfl,rfl,rfl⟩
theorem mJ.drew(w:World)(o:Obj):mJ w (w.drew.alloc o) o:=⟨rfl,rfl,rfl,rfl⟩
theorem XP{w':World}{o:Obj}(B:Inv O)(g:mJ O.w w' o):Ext O (O.qi w'):=by
 refine⟨g.os,g.tape,g.output,by show O.w.heap.size<=w'.heap.size; rw[g.size]; omega,λk hk=>⟨.inl hk,g.old (B.bI k hk)⟩,?_,λ_ _ _ h=>.inl h,λb d h=>⟨⟨d,h⟩,rfl⟩,
  λb v0 e xs h=>.inr ⟨v0,xs,h,zE _,λ_=>⟨rfl,rfl⟩⟩,λ_ h=>h,zE _,λk hk _=>g.old hk⟩
 rintro k (hk | hk)
 ·grind
 ·grind
theorem cK{w':World}{o:Obj}(B:Inv O)(g:mJ O.w w' o):Inv (O.qi w'):=by
 refine⟨B.len,?_,?_,B.inj,?_,B.gl.mono (XP B g).same⟩
 ·rintro k (hk | hk)
  ·have:=B.bI k hk; show k<w'.heap.size; rw[g.size]; omega
  ·show k<w'.heap.size; rw[g.size]; omega
 ·intro b blk n h
  obtain⟨h1,M⟩:=B.apart b blk n h
  refine⟨by show blk<w'.heap.size; rw[g.size]; omega,?_⟩
  rintro(hk | hk)
  ·exact M hk
  ·omega
 ·intro b x N
  exact(B.blk b x N).mono (XP B g) rfl λblk n h=>g.old (B.apart b blk n h).1
def KS.add(O:KS)(w':World)(n:Nat)(x:cG):KS:={ O with w:=w',ph:=O.ph++[some (O.w.heap.size,n)],st:=O.st++[x] }
theorem Ze{w':World}{o:Obj}{n:Nat}{x:cG}(B:Inv O)(g:mJ O.w w' o):Ext O (O.add w' n x):=by
 have vU:∀ b y,O.st[b]? = some y->(O.st++[x])[b]? = some y:=λb y h=>by rw[zG (zA.1 h).1]; exact h
 have GI:∀ b y,O.st[b]? = some y->(O.ph++[some (O.w.heap.size,n)])[b]? = O.ph[b]? := λb y h=>by
  rw[zG]; rw[B.len]; exact(zA.1 h).1
 refine⟨g.os,g.tape,g.output,by show O.w.heap.size<=w'.heap.size; rw[g.size]; omega,λk hk=>⟨hk,g.old (B.bI k hk)⟩,λk hk=>.inl hk,?_,λb d h=>⟨⟨d,vU b _ h⟩,GI b _ h⟩,
  λb v0 e xs h=>.inr ⟨v0,xs,vU b _ h,zE _,λ_=>⟨GI b _ h,rfl⟩⟩,λb h=>vU b _ h,by simp[KS.add],λk hk _=>g.old hk⟩
 intro b blk m h
 simp only[KS.add]at h
 grind
theorem te(B:Inv O){w':World}{n:Nat}{x:cG}:(O.add w' n x).ph[O.st.length]? = some (some (O.w.heap.size,n)):=by
 simp[KS.add,<- B.len]
theorem QC{w':World}{n:Nat}{x:cG}:(O.add w' n x).st[O.st.length]? = some x:=by simp[KS.add]
theorem Vz{w':World}{o:Obj}{n:Nat}{x:cG}(B:Inv O)(g:mJ O.w w' o)(N:pw (O.add w' n x) O.st.length x):Inv (O.add w' n x):=by
 have hold:∀ (b blk m:Nat),(O.ph++[some (O.w.heap.size,n)])[b]? = some (some (blk,m))->O.ph[b]? = some (some (blk,m))\/(b=O.ph.length/\blk=O.w.heap.size):=by
  grind
 refine⟨by simp[KS.add,B.len],?_,?_,?_,?_,B.gl.mono (Ze B g).same⟩
 ·intro k hk; have:=B.bI k hk; show k<w'.heap.size; rw[g.size]; omega
 ·intro b blk m h
  rcases hold b blk m h with h | ⟨rfl,rfl⟩
  ·obtain⟨h1,M⟩:=B.apart b blk m h
   exact⟨by show blk<w'.heap.size; rw[g.size]; omega,M⟩
  ·exact⟨by show O.w.heap.size<w'.heap.size; rw[g.size]; omega,λhk=>absurd (B.bI _ hk) (Nat.lt_irrefl _)⟩
 ·intro b b' blk m m' h h'
  rcases hold b blk m h with h | ⟨rfl,rfl⟩<;>rcases hold b' _ m' h' with h' | ⟨rfl,h''⟩
  ·exact B.inj b b' blk m m' h h'
  ·have:=(B.apart b blk m h).1; omega
  ·have:=(B.apart b' _ m' h').1; omega
  ·rfl
 ·intro b y hy
  simp only[KS.add]at hy
  by_cases I:b<O.st.length
  ·rw[zG I]at hy
   refine(B.blk b y hy).mono (Ze B g) ?_ λblk m h=>g.old (B.apart b blk m h).1
   simp only[KS.add]
   rw[zG (by rw[B.len]; exact I)]
  ·grind
theorem RD.z2j{O:KS}{d:D}{v:Value}(h:RD O d v):d.Yq=false:=by cases h<;>rfl
theorem OI{d:D}{v:Value}{t:TypeId}(B:Inv O)(J:RD O d v)(ht:d.bu=false)(MM:∀ T,d.typed=some T->t=T) :
  ∃ E:KS,E.w=O.w.alloc (.cells v.cells t)/\E.st=O.st++[.var d]/\Inv E/\Ext O E/\RD E (.ptr O.st.length 0) (.pointer (some ⟨O.w.heap.size,0,none⟩)):=by
 have g:=mJ.alloc O.w (.cells v.cells t)
 have N:=Ze (n:=v.cells.size) (x:=.var d) B g
 refine⟨O.add _ v.cells.size (.var d),rfl,rfl,Vz B g ?_,N,.ptr _ 0 _ v.cells.size d QC (te B)⟩
 exact .mk J.z2j ⟨O.w.heap.size,v.cells.size,v.cells,t,te B,g.new,rfl,(cr J ht).mono N,cq J,MM⟩
theorem TC{t:Nat}{x:Option D}{v:Value}{d:Option D}{ql:St}(B:Inv O)(N:∀ z,x=some z->RD O z v)
  (h:(qt (TA x) O.st).leads (d,ql)) :
  wy c.P (do zJ (.value (<- qT t v))) O d ql:=by
 cases x with
 | none=>exact absurd h zg
 | some y =>
  simp only[TA]at h
  cases ht:y.bu||y.typed.isSome with
  | true=>rw[ht]at h; exact absurd h zg
  | false =>
   rw[ht,cond_false]at h
   simp at ht
   obtain⟨ht,MM⟩:=ht
   have znw:∀ T,y.typed=some T->t=T:=λT e=>by rw[e]at MM; cases MM
   obtain⟨rfl,rfl⟩:=h
   obtain⟨E,h1,M,h3,h4,h5⟩:=OI (t:=t) B (N _ rfl) ht znw
   refine⟨E,_,_,?_,.inl rfl,M,h3,h4,λ_ he=>by cases he; exact h5⟩
   simp[qT,newVar,newRow,h1]
theorem zcA{d:D}{τ:Ty}{x:den τ}{v:Value}{t:TypeId}(B:Inv O)(J:RD O d v)(N:oo τ d=some x) :
  ∃ E:KS,E.w=O.w.alloc (.cells v.cells t)/\E.st=O.st/\Inv E/\Ext O E/\RD E (.vz τ x) (.pointer (some ⟨O.w.heap.size,0,none⟩)):=by
 have g:=mJ.alloc O.w (.cells v.cells t)
 have GJ:=XP B g
 obtain⟨cs,h1,M⟩:=RD.cK (mr J N)
 have hc:=Uu h1.len h1.one
 have hn:(O.w.alloc (.cells v.cells t)).heap[O.w.heap.size]? = some (.cells v.cells t (0,0)):=g.new
 have ep:∀ j u,cs[j]? = some u->(O.w.alloc (.cells v.cells t)).cell? ⟨O.w.heap.size,0+j,none⟩=some u:=by
  simp
  grind
 exact⟨O.qi _,rfl,rfl,cK B g,GJ,.vz τ x cs O.w.heap.size 0 (.inr rfl) (h1.mono GJ.same) ep⟩
theorem Ip{t:Nat}{x:Option D}{v:Value}{d:Option D}{ql:St}(B:Inv O)(N:∀ z,x=some z->RD O z v)
  (h:(qt (TB c t x) O.st).leads (d,ql)):wy c.P (do zJ (.value (<- qT t v))) O d ql:=by
 have key:∀ (y:D) (τ:Ty) (z:den τ),x=some y->oo τ y=some z->(qt (val (.vz τ z)) O.st).leads (d,ql)->wy c.P (do zJ (.value (<- qT t v))) O d ql:=by
  intro y τ z hy hz h
  obtain⟨rfl,rfl⟩:=h
  obtain⟨E,h1,M,h3,h4,h5⟩:=zcA (t:=t) B (N y hy) hz
  refine⟨E,_,_,?_,.inl rfl,M,h3,h4,λ_ he=>by cases he; exact h5⟩
  simp[qT,newVar,newRow,h1]
 unfold TB at h
 split at h
 ·rename_i τ z
  exact key _ τ z rfl (by simp[oo,jN]) h
 ·split at h
  ·split at h
   ·grind
   ·exact absurd h zg
  ·exact absurd h zg
 ·exact absurd h zg
theorem Io{t:Nat}{dst:Option Nat}{x:Option D}{v:Value}{d:Option D}{ql:St}(B:Inv O)(N:∀ z,x=some z->RD O z v)
  (h:(qt (Tz c t dst x) O.st).leads (d,ql)):wy c.P (do zJ (.value (<- qT t v))) O d ql:=by
 unfold Tz at h
 cases I:z2Q c dst with
 | true=>rw[I]at h; exact Ip B N h
 | false=>rw[I]at h; exact TC B N h
theorem XX{v:Value}{d:D}(h:Xj v=some d):RD O d v/\d.one=true/\d.bu=false/\(∀ cs,v≠.agg cs):=by
 unfold Xj at h
 split at h<;>cases h<;>refine⟨?_,rfl,rfl,λ_=>nofun⟩
 ·exact .int
 ·exact .bool
 ·rename_i s; have:=RD.str (O:=O) (s:=s.data.toList); simpa using this
 ·exact .wE
 ·exact .gS
 ·exact .yZ
 ·exact .v8
 ·exact .uS
theorem YY{v:Value}{d:D}(h:JQ v=some d):RD O d v/\d.bu=false:=by
 unfold JQ at h
 split at h
 ·rename_i cs
  split at h
  ·rename_i l R
   cases h
   have ZK:∀ x∈l,x.one=true:=by
    intro x N
    have:some x∈cs.toList.map Xj:=by rw[oj R]; exact qX.2 ⟨x,N,rfl⟩
    obtain⟨u,_,hu⟩:=qX.1 this
    exact(XX (O:=O) hu).2.1
   have hr:=fq (O:=O) (vs:=cs.toList) R (qz) (λi d v J hv=>by
    simp only[qR,hv,Option.map_some,Option.some.injEq]at J
    exact(XX J).1)
   refine⟨?_,rfl⟩
   have:=RD.agg l cs.toList hr.1 ZK hr.2
   omega
  ·cases h
 ·exact⟨(XX h).1,(XX (O:=O) h).2.2.1⟩
theorem Uo{v:Value}{d:D}(h:Xj v=some d):(∀ l,d≠.agg l)/\(∀ T,d≠.mM T)/\∀ b T,d≠.dZ b T:=by
 unfold Xj at h
 grind
theorem F8{v:Value}{d:D}(h:JQ v=some d):d.typed=none:=by
 unfold JQ at h
 split at h
 ·rename_i cs
  split at h
  ·rename_i l R
   cases h
   have hz:=oj R
   cases l with
   | nil=>rfl
   | cons x r =>
    have:some x∈cs.toList.map Xj:=by rw[hz]; simp
    obtain⟨u,_,hu⟩:=qX.1 this
    obtain⟨_,h1,M⟩:=Uo hu
    cases x<;>first | rfl | exact absurd rfl (h1 _) | exact absurd rfl (M _ _)
  ·cases h
 ·have:=(Uo h).1
  cases d<;>first | rfl | exact absurd rfl (this _)
structure ZD(t:Nat)(d:D)(z:Value):Prop where
 rd:∀ O:KS,RD O d z
 eA:d.bu=false
 ty:∀ T,d.typed=some T->t=T
theorem z29{t:Nat}{d:D}{z:Value}(h:JQ z=some d):ZD t (z27 c t d) z:=by
 have h0:∀ O:KS,RD O d z:=λO=>(YY h).1
 have h1:d.bu=false:=(YY (O:=⟨default,λ_=>False,[],[]⟩) h).2
 have M:=F8 h
 have same:ZD t d z:=⟨h0,h1,λT e=>xy⟩
 unfold z27
 split
 ·rename_i r
  cases hs:za5 c t with
  | false=>exact same
  | true =>
   refine⟨λO => ?_,rfl,λT e=>by cases e; rfl⟩
   cases h0 O with
   | agg _ vs R ho hh =>
    have hR:wN O (.gS::r) vs:=⟨R,hh⟩
    obtain⟨v,us,rfl,g1,g2⟩:=hR.cons_inv
    have hR2:wN O (.mM t::r) (v::us):=.cons (by cases g1; exact .mM t) g2
    exact .agg _ _ hR2.1 (λx N=>by
     rcases xG.1 N with rfl | N
     ·rfl
     ·exact ho x (xC _ N)) hR2.2
 ·exact same
theorem si{t:Nat}{d:D}(h:K6 c t=some d):∃ i z,c.P.info? t=some i/\i.zero=some z/\ZD t d z:=by
 unfold K6 at h
 split at h
 ·rename_i i hi
  split at h
  ·rename_i z hz
   split at h
   ·rename_i d0 hd0
    cases h
    exact⟨i,z,hi,hz,z29 hd0⟩
   ·cases h
  ·cases h
 ·cases h
theorem I6{t:Nat}{d:Option D}{ql:St}(B:Inv O)
  (h:(qt (om c t) O.st).leads (d,ql)) :
  wy c.P (do zJ (.value (<- Instr.alloc t true (.tuple #[])))) O d ql:=by
 unfold om at h
 split at h
 ·rename_i y hy
  obtain⟨i,z,h1,M,h3⟩:=si hy
  obtain⟨rfl,rfl⟩:=h
  obtain⟨E,g1,g2,g3,g4,g5⟩:=OI (t:=t) B (h3.rd O) h3.eA h3.ty
  refine⟨E,_,_,?_,.inl rfl,g2,g3,g4,λ_ he=>by cases he; exact g5⟩
  simp[Instr.alloc,zeroValue,typeInfo,h1,M,newVar,newRow,g1]
 ·exact absurd h zg
end
end Go.AM
namespace Go.AM
set_option linter.unusedSectionVars false
variable [yV]
section
variable {c:Ctx} {O:KS}
def KS.Vq(O:KS)(b:Nat)(w':World)(x:cG):KS:={ O with w:=w',st:=O.st.set b x }
def KS.upd(O:KS)(b blk:Nat)(cs:Array Value)(x:cG):KS:=O.Vq b (O.w.setRow blk cs) x
def Alike:cG->cG->Prop
 | .var _,.var _=>True
 | .arr v e xs,.arr v' e' xs'=>e=e'/\v<=v'/\(v=v'->xs.length=xs'.length)
 | _,_=>False
theorem UI{b blk n:Nat}{w':World}{x y:cG}(B:Inv O)(hp:O.ph[b]? = some (some (blk,n)))(hy:O.st[b]? = some y)(ha:Alike y x)(g:O.w.grownBy w' (some blk)):Ext O (O.Vq b w' x):=by
 have wL:b<O.st.length:=(zA.1 hy).1
 have jX:∀ k,O.ok k->k≠blk:=λk hk e=>(B.apart b blk n hp).2 (e▸hk)
 refine⟨g.os,g.tape,g.output,g.size,λk hk=>⟨hk,g.block k (B.bI k hk) λe=>jX k hk (Option.some.inj e)⟩,λk hk=>.inl hk,λ_ _ _ h=>.inl h,?_,?_,?_,by simp[KS.Vq],?_⟩
 ·intro b' d J
  refine⟨?_,rfl⟩
  simp only[KS.Vq,zT]
  split
  ·rename_i e
   subst e
   rw[hy]at J; cases J
   cases x<;>simp[Alike]at ha
   simp
  ·grind
 ·intro b' v0 e Vr J
  simp only[KS.Vq,zT]
  split
  ·rename_i e'
   subst e'
   rw[hy]at J; cases J
   cases x<;>simp[Alike]at ha
   grind
  ·grind
 ·intro b' J
  simp only[KS.Vq,zT]
  split
  ·rename_i e
   subst e
   rw[hy]at J; cases J
   simp[Alike]at ha
  ·exact J
 ·intro k hk hn
  exact g.block k hk λe=>by cases e; exact hn b n hp
theorem FE{b blk n:Nat}{w':World}{x y:cG}(B:Inv O)(hp:O.ph[b]? = some (some (blk,n)))(hy:O.st[b]? = some y)(ha:Alike y x)
  (g:O.w.grownBy w' (some blk)) (N:pw (O.Vq b w' x) b x):Inv (O.Vq b w' x):=by
 refine⟨by simp[KS.Vq,B.len],λk hk=>qO (B.bI k hk) g.size,?_,B.inj,?_,B.gl.mono (UI B hp hy ha g).same⟩
 ·intro b' pB m h
  obtain⟨h1,M⟩:=B.apart b' pB m h
  exact⟨qO h1 g.size,M⟩
 ·intro b' z hz
  by_cases I:b=b'
  ·subst I
   simp only[KS.Vq]at hz
   grind
  ·simp only[KS.Vq,zT,if_neg I]at hz
   refine(B.blk b' z hz).mono (UI B hp hy ha g) rfl λpB m h => ?_
   refine g.block pB (B.apart b' pB m h).1 λe => ?_
   cases e
   exact I (B.inj b b' _ n m hp h)
theorem UD(w:World)(blk:Nat)(cs:Array Value):w.grownBy (w.setRow blk cs) (some blk) :=
 ⟨rfl,rfl,rfl,by rw[setRow_size]; exact zE _,λk _ hk=>setRow_other _ _ _ _ λe=>hk (by rw[e])⟩
theorem UJ{b blk n:Nat}{cs:Array Value}{x y:cG}(B:Inv O)(hp:O.ph[b]? = some (some (blk,n)))(hy:O.st[b]? = some y)(ha:Alike y x):Ext O (O.upd b blk cs x):=UI B hp hy ha (UD _ _ _)
theorem UK{b blk n:Nat}{cs:Array Value}{x y:cG}(B:Inv O)(hp:O.ph[b]? = some (some (blk,n)))(hy:O.st[b]? = some y)(ha:Alike y x)
  (N:pw (O.upd b blk cs x) b x):Inv (O.upd b blk cs x):=FE B hp hy ha (UD _ _ _) N
theorem CT{d d':D}{t:Nat}(h:ZW d d'=true)(J:∀ T,d.typed=some T->t=T):∀ T,d'.typed=some T->t=T:=by
 intro T hT
 unfold ZW at h
 rw[hT]at h
 cases hd0:d.typed with
 | none=>grind
 | some T' =>
  rw[hd0]at h
  have e:=zF h
  grind
theorem Qq{t:Nat}{n blk o:Nat}{v:Value}{cs:Array Value}{T:TypeId}(hn:sZ c t=some n)(hv:v.cells.toList.length=n)(h1:∀ u∈v.cells.toList,u.oneCell'=true)
  (hg:O.w.heap[blk]? = some (.cells cs T (0,0))) (hle:o+n<=cs.size) :
  (storeVar t ⟨blk,o,none⟩ v).run c.P O.w=.ok () (O.w.setRow blk (cs.toList.take o++v.cells.toList++cs.toList.drop (o+n)).toArray):=by
 have hs:v.cells.size=n:=by simpa using hv
 have:=run_storeCells_at c.P blk o T v.cells.toList 0 cs O.w hg (xy) h1
 simp[storeVar,run_sizeOf hn,hs,this]
theorem tz{l:List D}{vs us:List Value}{x:List D}(h:wN O l vs)(N:wN O x us)(o n:Nat) :
  wN O (l.take o++x++l.drop (o+n)) (vs.take o++us++vs.drop (o+n)):=((h.take o).append N).append (h.drop (o+n))
theorem Vp{cs us:List Value}{o n:Nat}(hu:us.length=n)(ho:o+n<=cs.length)(p:Nat) :
  (cs.take o++us++cs.drop (o+n))[p]? = if p<o then cs[p]? else if p<o+n then us[p-o]? else cs[p]? := xy
theorem Bn{t:Nat}{d x r:D}{off:Nat}(h:Ha c t d off x=some r):∃ n,sZ c t=some n/\0<n/\(xx x).length=n/\off+n<=(xx d).length /\
  xx r=(xx d).take off++xx x++(xx d).drop (off+n)/\((∀ y∈xx d,y.one=true)->(∀ y∈xx x,y.one=true)->∀ y∈xx r,y.one=true)/\x.bu=false:=by
 unfold Ha at h
 split at h
 ·cases h
 ·rename_i n hn
  cases I:xE 0 n&&qL n (xx x).length&&Nat.ble (off+n) (xx d).length with
  | false=>grind
  | true =>
   rw[I,cond_true]at h
   simp only[zI]at I
   obtain⟨⟨h0,h1⟩,M⟩:=I
   have h0':0<n:=V h0
   have GG:n=(xx x).length:=zF h1
   have h2':=V M
   have H3:x.bu=false:=by
    cases x with
    | eA l=>simp[xx]at GG; omega
    | _=>rfl
   cases hw:qL n (xx d).length with
   | true =>
    have h3:n=(xx d).length:=zF hw
    have h4:off=0:=Z
    subst h4
    rw[hw,cond_true]at h
    have hr:xx r=xx x/\r.bu=false:=by
     cases ha:d.cA && !x.cA with
     | true=>rw[ha,cond_true]at h; cases h; exact⟨rfl,rfl⟩
     | false=>rw[ha,cond_false]at h; cases h; exact⟨rfl,H3⟩
    refine⟨n,hn,h0',GG.symm,h2',?_,λ_ N y hy=>N y (hr.1▸hy),H3⟩
    rw[hr.1]
    simp[<- h3]
   | false =>
    rw[hw,cond_false]at h
    cases h
    refine⟨n,hn,h0',GG.symm,h2',rfl,λJ N y hy => ?_,H3⟩
    simp only[xx,qZ]at hy
    rcases hy with(hy | hy) | hy
    ·exact J y (List.mem_of_mem_take hy)
    ·exact N y hy
    ·exact J y (xD hy)
theorem Pc{t:Nat}{d x r:D}{off:Nat}(h:Ha c t d off x=some r):d.Yq=false/\r.Yq=false:=by
 unfold Ha at h
 split at h
 ·cases h
 ·rename_i n hn
  cases I:xE 0 n&&qL n (xx x).length&&Nat.ble (off+n) (xx d).length with
  | false=>rw[I]at h; cases h
  | true =>
   rw[I,cond_true]at h
   simp only[zI]at I
   have h0:0<n:=V I.1.1
   have h1:=zF I.1.2
   have M:=V I.2
   refine⟨by cases d<;>first | rfl | (simp[xx]at M; omega),?_⟩
   cases hw:qL n (xx d).length with
   | true =>
    rw[hw,cond_true]at h
    cases ha:d.cA && !x.cA with
    | true=>rw[ha,cond_true]at h; cases h; rfl
    | false=>rw[ha,cond_false]at h; cases h; cases x<;>first | rfl | (simp[xx]at h1; omega)
   | false=>rw[hw]at h; cases h; rfl
theorem Xm{τ:Ty}{r:D}{x:den τ}{vs:List Value}(h:oo τ r=some x)(hr:wN O (xx r) vs)(ZK:∀ y∈xx r,y.one=true)(ht:r.bu=false):Rc O.w O.ok τ x vs:=by
 cases r with
 | qi σ y=>obtain⟨rfl,rfl⟩:=we h; exact Kr _ _ hr
 | agg l =>
  have:=mr (RD.agg l vs hr.1 ZK hr.2) h
  obtain⟨cs,h1,M⟩:=RD.cK this
  have hc:=Uu h1.len h1.one
  simp only[Value.cells]at hc
  grind
 | eA l=>cases ht
 | Bh l=>cases h
 | _ =>
  obtain⟨v,r',rfl,h1,M⟩:=wN.cons_inv hr
  have e2:=M.wb
  subst e2
  have h3:=mr h1 h
  obtain⟨cs,h4,h5⟩:=RD.cK h3
  have hag:τ.isAgg=false:=by
   cases hta:τ.isAgg with
   | false=>rfl
   | true=>simp[oo,D.isAgg,hta]at h
  obtain⟨u,rfl⟩:=h4.single hag
  rw[G5 hag]at h5
  rwa [h5]
theorem LN{t:Nat}{a x:Option D}{v u:Value}{d:Option D}{ql:St}(B:Inv O)(ha:∀ z,a=some z->RD O z v)(N:∀ z,x=some z->RD O z u)
  (h:(qt (KL c t a x) O.st).leads (d,ql)):wy c.P (do xF t v u; zJ .skip) O d ql:=by
 unfold KL at h
 split at h
 ·rename_i b off y
  simp only[qt]at h
  split at h
  ·rename_i d0 I
   split at h
   ·rename_i r hr
    cases uZ:ZW d0 r with
    | false=>rw[uZ]at h; exact h.elim
    | true =>
    rw[uZ,cond_true]at h
    simp only[T.leads,Prod.mk.injEq]at h
    obtain⟨rfl,rfl⟩:=h
    obtain⟨n,hn,h0,JF,hle,Ez,ZK,H3⟩:=Bn hr
    cases ha _ rfl with
    | ptr _ _ blk m d1 J hp =>
     obtain⟨pB,m',cs,T,g1,g2,g3,g4,g5⟩:=(B.blk b _ I:kO O b d0).cells (Pc hr).1
     rw[hp]at g1
     cases g1
     have hy:=N _ rfl
     have hfy:=cr hy H3
     have IY:u.cells.toList.length=n:=by rw[<- hfy.1]; exact JF
     have bH:off+n<=cs.size:=by have:=g4.1; simp at this; omega
     have h1:∀ z∈u.cells.toList,z.oneCell'=true:=by
      intro z hz
      obtain⟨i,hi,rfl⟩:=List.getElem_of_mem hz
      exact(hfy.2 i (hfy.1▸hi) hi).KD (cq hy _ (qA _))
     have jJ:=Qq (c:=c) (O:=O) hn IY h1 g2 bH
     have Ka:Alike (.var d0) (.var r):=trivial
     let mv:=(cs.toList.take off++u.cells.toList++cs.toList.drop (off+n)).toArray
     have hex:=UJ (cs:=mv) (x:=.var r) B hp I Ka
     refine⟨O.upd b blk mv (.var r),.skip,undef,?_,.inr ⟨rfl,rfl⟩,rfl,UK B hp I Ka ?_,hex,λ_ he=>by cases he⟩
     ·simp only[zH,xF,Instr.sureAddr,qF,Y,jJ]; rfl
     ·refine .mk (Pc hr).2 ⟨blk,m,mv,T,hp,setRow_heap _ _ _ _ _ _ g2,?_,?_,ZK g5.1 (cq hy),CT uZ g5.2⟩
      ·grind
      ·rw[Ez]; exact(tz g4 hfy off n).mono hex
   ·exact h.elim
  ·exact h.elim
 ·rename_i b vi e idx off y
  simp only[qt]at h
  split at h
  ·rename_i dA e' xs I
   cases he:decide (e'=e)with
   | false=>rw[he]at h; exact h.elim
   | true =>
    rw[he,cond_true]at h
    have IP:e'=e:=uE he
    subst IP
    obtain⟨⟨rfl,wL⟩,h⟩:=h
    split at h
    ·rename_i r hr
     split at h
     ·rename_i z hz
      simp only[T.leads,Prod.mk.injEq]at h
      obtain⟨rfl,rfl⟩:=h
      obtain⟨n,hn,h0,JF,hle,Ez,ZK,H3⟩:=Bn hr
      cases ha _ rfl with
      | gD _ _ _ _ _ blk o hold hp =>
       obtain⟨m,p1,rfl⟩:=hp xs I wL
       obtain⟨bH,⟨Yj,_⟩ | ⟨pB,n',cs,T,g1,g2,g3,g4,gr,f,g5⟩⟩:=B.blk b _ I
       ·grind
       ·rw[p1]at g1
        cases g1
        rw[getD_lt wL]at hr Ez hle ZK
        have hy:=N _ rfl
        have hfy:=cr hy H3
        have IY:u.cells.toList.length=n:=by rw[<- hfy.1]; exact JF
        obtain⟨k1,k2⟩:=g5 idx wL
        have Ew:=k1.len
        have GX:off+n<=e'.size:=by simpa[xx,VV]using hle
        have zrV:idx*e'.size+e'.size<=xs.length*e'.size:=by rw[<- qB]; exact X _ wL
        have RO:idx*e'.size+off+n<=cs.size:=Z
        have h1:∀ z∈u.cells.toList,z.oneCell'=true:=by
         intro z hz
         obtain⟨i,hi,rfl⟩:=List.getElem_of_mem hz
         exact(hfy.2 i (hfy.1▸hi) hi).KD (cq hy _ (qA _))
        have jJ:=Qq (c:=c) (O:=O) hn IY h1 g2 RO
        have Ka:Alike (.arr vi e' xs) (.arr vi e' (xs.set idx z)):=⟨rfl,zE _,λ_=>qz⟩
        let mv:=(cs.toList.take (idx*e'.size+off)++u.cells.toList++cs.toList.drop (idx*e'.size+off+n)).toArray
        have hex:=UJ (cs:=mv) (x:=.arr vi e' (xs.set idx z)) B p1 I Ka
        refine⟨O.upd b blk mv (.arr vi e' (xs.set idx z)),.skip,undef,?_,.inr ⟨rfl,rfl⟩,rfl,UK B p1 I Ka ?_,hex,λ_ he=>by cases he⟩
        ·simp only[zH,xF,Instr.sureAddr,qF,Y,jJ]; rfl
        ·have hlen:mv.size=cs.size:=by simp[mv,IY]; omega
         refine⟨bH,.inr ⟨blk,m,mv,T,p1,setRow_heap _ _ _ _ _ _ g2,by rw[hlen]; exact g3,by simpa using g4,?_⟩⟩
         -- cells of the element that is written
         let fi:=(f idx).take off++u.cells.toList++(f idx).drop (off+n)
         have zn4:wN O (xx r) fi:=by
          rw[Ez]
          exact tz (QY k1) hfy off n
         have hrt:r.bu=false:=by
          cases r with
          | eA l =>
           have h6:=congrArg zS Ez
           rw[zK,zK,JF]at h6
           have h7:(xx (D.eA l)).length=0:=rfl
           omega
          | _=>rfl
         have Dt:=Xm hz zn4 (ZK (rb _ _) (cq hy)) hrt
         have GU:∀ p,mv[p]? = if p<idx*e'.size+off then cs[p]? else if p<idx*e'.size+off+n then u.cells.toList[p-(idx*e'.size+off)]? else cs[p]? := by
          intro p
          have:=Vp (cs:=cs.toList) (us:=u.cells.toList) IY (by simpa using RO) p
          simpa only[mv,xA,zV]using this
         have zn3:∀ j,fi[j]? = if j<off then(f idx)[j]? else if j<off+n then u.cells.toList[j-off]? else(f idx)[j]? := λj=>Vp IY (Z) j
         refine⟨gr,λi=>if i=idx then fi else f i,λi hi => ?_⟩
         rw[List.length_set]at hi
         by_cases hii:i=idx
         ·subst hii
          simp only[if_true,List.getElem_set_self]
          refine⟨Dt.mono hex.same,λj w hj => ?_⟩
          rw[zn3]at hj
          rw[GU]
          split at hj
          ·rw[if_pos (Z)]; exact k2 j w hj
          ·split at hj
           ·rw[if_neg (Z),if_pos (Z)]; rw[<- hj]; congr 1; omega
           ·rw[if_neg (Z),if_neg (Z)]; exact k2 j w hj
         ·simp only[if_neg hii]
          obtain⟨q1,q2⟩:=g5 i hi
          refine⟨by rw[List.getElem_set_ne (λe=>hii e.symm)]; exact q1.mono hex.same,λj w hj => ?_⟩
          have T4:j<e'.size:=by rw[<- q1.len]; exact(zA.1 hj).1
          rw[GU]
          rcases Nat.lt_or_gt_of_ne hii with GZ | hgt'
          ·have:i*e'.size+e'.size<=idx*e'.size:=by rw[<- qB]; exact X _ GZ
           rw[if_pos (Z)]; exact q2 j w hj
          ·have:idx*e'.size+e'.size<=i*e'.size:=by rw[<- qB]; exact X _ hgt'
           rw[if_neg (Z),if_neg (Z)]; exact q2 j w hj
     ·exact h.elim
    ·exact h.elim
  ·exact h.elim
 ·exact absurd h zg
end
end Go.AM
namespace Go.AM
set_option linter.unusedSectionVars false
variable [yV]
section
variable {c:Ctx} {O:KS}
theorem JB:∀ (vs:List Value) (cells:Array Value) (off k:Nat),off+k+vs.length<=cells.size ->
  ((vs.zipIdx k).foldl (λ(cs:Array Value) (p:Value×Nat)=>cs.setIfInBounds (off+p.2) p.1) cells).toList=cells.toList.take (off+k)++vs++cells.toList.drop (off+k+vs.length)
 | [],cells,off,k,_=>qz
 | v::vs,cells,off,k,h=>by
  simp only[qV]at h
  simp only[List.zipIdx_cons,List.foldl_cons]
  rw[JB vs _ off (k+1) (by simp; omega)]
  have wL:off+k<cells.toList.length:=by simp; omega
  simp only[Array.toList_setIfInBounds,qV]
  have e1:(cells.toList.set (off+k) v).take (off+(k+1))=cells.toList.take (off+k)++[v]:=by
   rw[show off+(k+1)=off+k+1 by omega,qJ (by simpa using wL)]
   rw[List.take_set_of_le (zE _)]
   simp
  have e2:(cells.toList.set (off+k) v).drop (off+(k+1)+vs.length)=cells.toList.drop (off+k+(vs.length+1)):=by
   rw[List.drop_set_of_lt (Z)]
   grind
  grind
theorem Ee{place:Nat->Option (Nat×Nat)}{cells:Array Value}{i off size:Nat}{v:Value}{rest:List (Nat×Value)}(hp:place i=some (off,size))(hs:v.cells.toList.length=size)(hle:off+size<=cells.size) :
  qH place cells ((i,v)::rest)=qH place (cells.toList.take off++v.cells.toList++cells.toList.drop (off+size)).toArray rest:=by
 have hs':v.cells.size=size:=by simpa using hs
 have hf:=JB v.cells.toList cells off 0 (xy)
 simp only[hs]at hf
 conv=>lhs; unfold qH
 simp only[hp]
 rw[if_neg (xy)]
 congr 1
 apply Array.ext'
 rw[<- Array.foldl_toList,Array.toList_zipIdx]
 exact hf
theorem HO{e:Ty}{x:den e}{v:Value}(h:RD O (.qi e x) v):Rc O.w O.ok e x v.cells.toList:=by
 obtain⟨cs,h1,rfl⟩:=RD.cK h
 rw[Uu h1.len h1.one]; exact h1
theorem HH{e:Ty}{F:Operand->Option D}{G:Operand->Value}(hF:∀ x d,F x=some d->RD O d (G x)):∀ (L:List (Nat×Operand)) (k:Nat) (cells:Array Value) (l:List (den e)),
  HG e k (L.map λp=>(p.1,F p.2))=some l->(k+L.length)*e.size<=cells.size ->
  ∃ pE,qH (λi=>some (i*e.size,e.size)) cells (L.map λp=>(p.1,G p.2))=some pE/\pE.size=cells.size/\(∀ p,p<k*e.size->pE[p]? = cells[p]?)/\l.length=L.length /\
   ∃ f:Nat->List Value,∀ i (hi:i<l.length),Rc O.w O.ok e l[i] (f i)/\∀ j v,(f i)[j]? = some v->pE[(k+i)*e.size+j]? = some v
 | [],k,cells,l,h,_=>by
  simp only[List.map_nil,HG,Option.some.injEq]at h
  subst h
  exact⟨cells,rfl,rfl,λ_ _=>rfl,rfl,λ_=>[],λi hi=>absurd hi (zW i)⟩
 | (i,x)::L,k,cells,l,h,hle=>by
  simp only[List.map_cons]at h
  cases N:F x with
  | none=>rw[N]at h; simp[HG]at h
  | some d =>
   rw[N]at h
   simp only[HG]at h
   cases I:qL k i with
   | false=>grind
   | true =>
    have hik:k=i:=zF I
    subst hik
    rw[I,cond_true]at h
    split at h
    ·rename_i y l' hy IW
     cases h
     have hr:=HO (mr (hF x d N) hy)
     have hlen:=hr.len
     simp only[qV]at hle
     have hk1:(k+(L.length+1))*e.size=k*e.size+e.size+L.length*e.size:=by rw[qD,qD]; omega
     have ep:k*e.size+e.size<=cells.size:=Z
     let c1:=(cells.toList.take (k*e.size)++(G x).cells.toList++cells.toList.drop (k*e.size+e.size)).toArray
     have RF:c1.size=cells.size:=by simp only[c1,zY,zK,zU,qK,hlen,qG]; omega
     have hg:∀ p,c1[p]? = if p<k*e.size then cells[p]? else if p<k*e.size+e.size then(G x).cells.toList[p-k*e.size]? else cells[p]? := by
      grind
     obtain⟨pE,h1,M,h3,h4,f,h5⟩:=HH hF L (k+1) c1 l' IW (by rw[RF,show k+1+L.length=k+(L.length+1) by omega]; exact hle)
     refine⟨pE,?_,M.trans RF,?_,by simp[h4],λi=>match i with | 0=>(G x).cells.toList | i+1=>f i,?_⟩
     ·simp only[List.map_cons]
      rw[Ee rfl hlen ep]
      exact h1
     ·grind
     ·intro i hi
      cases i with
      | zero =>
       grind
      | succ i =>
       have:=h5 i (by simpa using hi)
       rw[show k+1+i=k+(i+1) by omega]at this
       exact this
    ·cases h
theorem sq{t n:Nat}(h:pC c t=some n):∃ i,c.P.info? t=some i/\i.bytes=n:=by
 unfold pC at h
 cases hi:c.P.info? t with
 | none=>grind
 | some i=>grind
theorem fx{et:Nat}{e:Ty}{z:den e}(h:zeroOf c et e=some z):∃ i v,c.P.info? et=some i/\i.zero=some v/\Rc O.w O.ok e z v.cells.toList:=by
 unfold zeroOf at h
 split at h
 ·rename_i d J
  obtain⟨i,v,h1,M,h3⟩:=si J
  exact⟨i,v,h1,M,HO (mr (h3.rd O) h)⟩
 ·cases h
theorem K8{t n:Nat}{L:List (Nat×Operand)}{F:Operand->Option D}{G:Operand->Value}{d:Option D}{ql:St}(B:Inv O)(hF:∀ x d,F x=some d->RD O d (G x))
  (h:(qt (bK c t n (L.map λp=>(p.1,F p.2))) O.st).leads (d,ql)) :
  wy c.P (do zJ (.value (<- zQ t n (L.map λp=>(p.1,G p.2)).toArray))) O d ql:=by
 unfold bK at h
 split at h
 ·exact absurd h zg
 ·rename_i et het
  have hu:=yF het
  split at h
  ·rename_i e MM
   cases I:bW c et e&&qL n (L.map λp=>(p.1,F p.2)).length&&Nat.ble n 1000&&Nat.ble e.size 100&&(zeroOf c et e).isSome with
   | false=>rw[I]at h; exact absurd h zg
   | true =>
    rw[I,cond_true]at h
    simp only[zI]at I
    obtain⟨⟨⟨⟨uZ,hn⟩,h1⟩,M⟩,h3⟩:=I
    have hn':n=L.length:=by have:=zF hn; simpa using this
    have GG:=V h1
    have h2':=V M
    obtain⟨hs,_⟩:=jW uZ
    obtain⟨z,hz⟩:=zZ.1 h3
    obtain⟨i,zv,Co,UP,hi3⟩:=fx (O:=O) hz
    split at h
    ·rename_i l R
     cases FX:qL n 0&&xE 0 e.size with
     | true =>
     rw[FX,cond_true]at h
     simp only[zI]at FX
     obtain⟨FX,bH⟩:=FX
     have RO:0<e.size:=V bH
     have T6:=zF FX
     have hL:L=[]:=zM (hn'.symm.trans T6)
     subst hL
     subst T6
     simp only[qt,T.leads,Prod.mk.injEq]at h
     obtain⟨rfl,rfl⟩:=h
     have g:=mJ.alloc O.w (.cells #[] et)
     have hex:=Ze (n:=0) (x:=.arr 0 e ([]:List (den e))) B g
     have jJ:(zQ t 0 (([]:List (Nat×Operand)).map λp=>(p.1,G p.2)).toArray).run c.P O.w=.ok (.slice (some ⟨O.w.heap.size,0,none⟩) 0 0) (O.w.alloc (.cells #[] et)):=by
      simp[zQ,zH,run_underlying hu,Y,run_sizeOf hs,qH,newRow]
      grind
     refine⟨O.add _ 0 (.arr 0 e []),_,.slice (some ⟨O.w.heap.size,0,none⟩) 0 0,by simp only[zH,jJ,Y]; rfl,.inl rfl,rfl,Vz B g ?_,hex,?_⟩
     ·exact⟨RO,.inr ⟨O.w.heap.size,0,#[],et,te B,g.new,rfl,qz,Uq uZ,λ_=>[],λi hi=>absurd hi (zW i)⟩⟩
     ·intro d' dY
      cases dY
      refine .ms _ 0 e 0 0 0 _ (.inr ⟨0,e,_,QC,zE _⟩) (Z) nofun (λp hp=>by cases hp; rfl) λxs Yl => ?_
      rw[QC]at Yl
      cases Yl
      exact⟨qz,.inr ⟨O.w.heap.size,0,0,0,te B,rfl,Z,qz,.inl rfl⟩⟩
     | false =>
     rw[FX,cond_false,dr]at h
     obtain⟨rfl,rfl⟩:=h
     subst hn'
     have hle:L.length*e.size<=100000:=qN (Nat.mul_le_mul GG h2') (xm)
     have hzs:zv.cells.size=e.size:=by have:=hi3.len; simpa using this
     let cells:Array Value:=(xK (L.length*e.size)).map ((if L.length*e.size=0 then #[]else zv.cells)[· % (if L.length*e.size=0 then #[]else zv.cells).size]!)
     have Qz:cells.size=L.length*e.size:=by simp[cells]
     obtain⟨pE,g1,g2,_,g4,f,g5⟩:=HH hF L 0 cells l R (by rw[Qz]; simp)
     have g:=mJ.alloc O.w (.cells pE et)
     have hex:=XP B g
     refine⟨O.qi _,_,.slice (some ⟨O.w.heap.size,0,none⟩) L.length L.length,?_,.inl rfl,rfl,cK B g,hex,?_⟩
     ·have Ey:qH (λi=>some (i*e.size,e.size)) cells (L.map λp=>(p.1,G p.2))=some pE:=g1
      simp only[cells]at Ey
      simp only[zQ,zH,run_underlying hu,Y,run_sizeOf hs,gt_iff_lt,if_neg (show ¬ 2 ^ 24<L.length*e.size by omega)]
      by_cases h0:L.length*e.size=0
      ·simp only[if_pos h0]at Ey ⊢
       simp only[zH,qF,Y,Ey]
       rfl
      ·simp only[if_neg h0]at Ey ⊢
       simp only[zH,qF,Y,zeroValue,typeInfo,run_program,Co,UP,Ey]
       rfl
     ·intro d' dY
      cases dY
      have ep:∀ i,i<l.length->∀ j v,(f i)[j]? = some v->(O.qi (O.w.alloc (.cells pE et))).w.cell? ⟨O.w.heap.size,0+i*e.size+j,none⟩=some v:=by
       intro i hi j v hj
       have:=(g5 i hi).2 j v hj
       simp only[qE]at this ⊢
       rw[XV (O:=O.qi (O.w.alloc (.cells pE et))) g.new]
       exact this
      rw[<- g4]
      refine .tight e l _ O.w.heap.size 0 f ?_ (.inr rfl) (λi hi=>(g5 i hi).1.mono hex.same) ep
      intro jX Yj
      subst Yj
      simp at g4
      simp[<- g4]at jX
    ·exact absurd h zg
  ·exact absurd h zg
end
end Go.AM
namespace Go.AM
set_option linter.unusedSectionVars false
variable [yV]
section
variable {c:Ctx} {O:KS}
theorem Sq{t:Nat}{x y:Option D}{v u:Value}{d:Option D}{ql:St}(B:Inv O)(N:∀ z,x=some z->RD O z v)(hy:∀ z,y=some z->RD O z u)
  (h:(qt (L9 c t x y) O.st).leads (d,ql)):wy c.P (do zJ (.value (<- qY t v u))) O d ql:=by
 unfold L9 at h
 split at h
 ·rename_i et k n k' m het hn hm
  have hu:=yF het
  have:=kl hn N
  subst this
  have:=kl hm hy
  subst this
  split at h
  ·rename_i e bytes MM Cm
   split at h
   ·rename_i z hz
    cases I:bW c et e&&xE 0 e.size with
    | false=>rw[I]at h; exact absurd h zg
    | true =>
     rw[I,cond_true]at h
     simp only[zI]at I
     obtain⟨uZ,bH⟩:=I
     have RO:0<e.size:=V bH
     obtain⟨hs,_⟩:=jW uZ
     simp only[qt,T.leads,Prod.mk.injEq]at h
     obtain⟨⟨h0,h1,M,h3⟩,rfl,rfl⟩:=h
     obtain⟨i,zv,Co,UP,hi3⟩:=fx (O:=O) hz
     obtain⟨ib,zfN,zn6⟩:=sq Cm
     obtain⟨i',zfL,zrU⟩:=mg hs
     rw[Co]at zfN zfL
     cases zfN
     cases zfL
     have hzs:zv.cells.size=e.size:=by have:=hi3.len; simpa using this
     let hx:=m.toNat*e.size
     let cells:Array Value:=(xK hx).map (zv.cells[· % zv.cells.size]!)
     have Qz:cells.size=hx:=by simp[cells]
     have jJ:(qY t (.int k n) (.int k' m)).run c.P O.w=.ok (.slice (some ⟨O.w.heap.size,0,none⟩) n.toNat m.toNat) (O.w.alloc (.cells cells et)):=by
      have w1:IntKind.i64.wrap n=n:=IntWalk.i64_in _ (Z)
      have w2:IntKind.i64.wrap m=m:=IntWalk.i64_in _ (Z)
      have hmb:¬ ((2:Int) ^ 48<bytes*m):=by
       grind
      have ai:∀ k n w,(Go.asInt (.int k n)).run c.P w=.ok n w:=λk n w=>by simp[Go.asInt,asIntOf]
      have hm0:¬ (m<0):=Z
      have T6:¬ (n<0):=Z
      have hnm:¬ (m<n):=Z
      simp only[qY,zH,run_underlying hu,Y,ai,typeInfo,run_program,Co,zn6,w1,w2,qF,gt_iff_lt,hm0,T6,hnm,hmb,decide_false,Bool.or_self,Bool.false_eq_true,if_false,run_askRoom,run_sizeOf hs]
      by_cases FX:m.toNat*e.size=0
      ·have hce:cells = #[]:=Array.eq_empty_of_size_eq_zero (by rw[Qz]; exact FX)
       have e2:∀ g:Nat->Value,(xK (m.toNat*e.size)).map g = #[]:=λg=>by rw[FX]; simp
       simp only[if_pos FX,zH,qF,Y,newRow,run_newObj,e2]
       rw[hce]
       rfl
      ·simp only[if_neg FX,zH,qF,Y,newRow,run_newObj,zeroValue,typeInfo,run_program,Co,UP]
       rfl
     have g:=mJ.alloc O.w (.cells cells et)
     have hex:=Ze (n:=hx) (x:=.arr n.toNat e (List.replicate n.toNat z)) B g
     refine⟨O.add _ hx (.arr n.toNat e (List.replicate n.toNat z)),_,.slice (some ⟨O.w.heap.size,0,none⟩) n.toNat m.toNat,by simp only[zH,jJ,Y]; rfl,.inl rfl,rfl,Vz B g ?_,hex,?_⟩
     ·refine⟨RO,.inr ⟨O.w.heap.size,hx,cells,et,te B,g.new,Qz,?_,Uq uZ,λ_=>zv.cells.toList,λi hi => ?_⟩⟩
      ·rw[xB]; exact X _ (Z)
      ·rw[xB]at hi
       refine⟨by rw[List.getElem_replicate]; exact hi3.mono hex.same,λj w hj => ?_⟩
       have T4:j<e.size:=by rw[<- hi3.len]; exact(zA.1 hj).1
       have wL:i*e.size+j<hx:=by
        have:i*e.size+e.size<=hx:=by rw[<- qB]; exact X _ (Z)
        omega
       have zbD:(i*e.size+j) % e.size=j:=by rw[Nat.mul_comm,Nat.mul_add_mod,Nat.mod_eq_of_lt T4]
       grind
     ·intro d' dY
      cases dY
      refine .ms _ n.toNat e 0 n.toNat m.toNat _ (.inr ⟨n.toNat,e,_,QC,zE _⟩) (Z) nofun (λp hp=>by cases hp; rfl) λxs Yl => ?_
      rw[QC]at Yl
      cases Yl
      refine⟨qz,.inr ⟨O.w.heap.size,hx,0,m.toNat,te B,rfl,Z,by simp[hx],.inr (qz)⟩⟩
   ·exact absurd h zg
  ·exact absurd h zg
 ·exact absurd h zg
end
end Go.AM
namespace Go.AM
set_option linter.unusedSectionVars false
variable [yV]
section
variable {c:Ctx} {O:KS}
def dR(f:Nat->List Value):Nat->List Value
 | 0=>[]
 | n+1=>dR f n++f n
theorem gu{f:Nat->List Value}{s:Nat}:∀ {n:Nat},(∀ i,i<n->(f i).length=s)->(dR f n).length=n*s
 | 0,_=>by simp[dR]
 | n+1,h=>by rw[dR,zK,gu (λi hi=>h i (Z)),h n (Z),qD]; omega
theorem tR{f:Nat->List Value}{s:Nat}:∀ {n:Nat},(∀ i,i<n->(f i).length=s)->∀ i j,i<n->j<s->(dR f n)[i*s+j]? = (f i)[j]?
 | 0,_,i,_,hi,_=>absurd hi (zW i)
 | n+1,h,i,j,hi,hj=>by
  have R:=gu (f:=f) (n:=n) (λi hi=>h i (Z))
  rw[dR]
  by_cases J6:i<n
  ·have:i*s+s<=n*s:=by rw[<- qB]; exact X _ J6
   rw[zG (Z)]
   exact tR (λi hi=>h i (Z)) i j J6 hj
  ·grind
theorem HI{f:Nat->List Value}:∀ {n:Nat},(∀ i,i<n->∀ v∈f i,v.oneCell'=true)->∀ v∈dR f n,v.oneCell'=true
 | 0,_,v,hv=>by simp[dR]at hv
 | n+1,h,v,hv=>by
  rw[dR,qZ]at hv
  rcases hv with hv | hv
  ·exact HI (λi hi=>h i (Z)) v hv
  ·grind
theorem Ef{f:Nat->List Value}{s:Nat}{n p:Nat}{v:Value}(hs:0<s)(h:∀ i,i<n->(f i).length=s)(hp:(dR f n)[p]? = some v):∃ i j,i<n/\j<s/\p=i*s+j/\(f i)[j]? = some v:=by
 have wL:=(zA.1 hp).1
 rw[gu h]at wL
 have hi:p / s<n:=(Nat.div_lt_iff_lt_mul hs).2 wL
 have hj:=Nat.mod_lt p hs
 have he:p / s*s+p % s=p:=Nat.div_add_mod' p s
 refine⟨p / s,p % s,hi,hj,he.symm,?_⟩
 rw[<- tR h _ _ hi hj,he]; exact hp
def Ta(O:KS):Nat->Prop:=λk=>O.ok k\/∃ b n:Nat,O.ph[b]? = some (some (k,n))
structure Src(O:KS)(e:Ty)(ys:List (den e))(v:Value):Prop where
 ex:∃ (a:Option Addr) (cap:Nat) (f:Nat->List Value),v=.slice a ys.length cap/\ys.length<=cap/\(a=none->ys=[]/\cap=0)/\(∀ i (hi:i<ys.length),Rc O.w O.ok e ys[i] (f i)) /\
  ∀ p,a=some p->(ys=[]/\cap=0)\/(p.spot=none/\Ta O p.block/\∀ i,i<ys.length->∀ j u,(f i)[j]? = some u->O.w.cell? ⟨p.block,p.off+i*e.size+j,none⟩=some u)
theorem D4{e:Ty}{ys:List (den e)}{v:Value}(h:RD O (.qi (.sl e) ys) v):Src O e ys v:=by
 rcases(h.jD rfl).tw with⟨rfl,a0,he⟩ | ⟨blk,off,cap,f,he,uZ,jf,h1,M⟩
 ·cases he; exact⟨⟨a0,0,λ_=>[],rfl,zE _,λ_=>⟨rfl,rfl⟩,λi hi=>absurd hi (zW i),λ_ _=>.inl ⟨rfl,rfl⟩⟩⟩
 ·cases he; exact⟨⟨some ⟨blk,off,none⟩,cap,f,rfl,jf,nofun,h1,λp hp=>by cases hp; exact .inr ⟨rfl,.inl uZ,M⟩⟩⟩
theorem Wf{e:Ty}{ys:List (den e)}{ne:Bool}{v:Value}(h:RD O (.tight e ys ne) v):Src O e ys v:=by
 cases h with
 | vy _ a0=>exact⟨⟨a0,0,λ_=>[],rfl,zE _,λ_=>⟨rfl,rfl⟩,λi hi=>absurd hi (zW i),λ_ _=>.inl ⟨rfl,rfl⟩⟩⟩
 | tight _ _ _ blk off f jX uZ h1 M=>exact⟨⟨some ⟨blk,off,none⟩,_,f,rfl,zE _,nofun,h1,λp hp=>by cases hp; exact .inr ⟨rfl,.inl uZ,M⟩⟩⟩
theorem KJ{e:Ty}{v:Value}(h:RD O .wE v):Src O e [] v:=by
 cases h; exact⟨⟨none,0,λ_=>[],rfl,zE _,λ_=>⟨rfl,rfl⟩,λi hi=>absurd hi (zW i),nofun⟩⟩
theorem LI{b vi off len:Nat}{e:Ty}{xs:List (den e)}{v:Value}(B:Inv O)(h:RD O (.ms b vi e off len) v)(I:O.st[b]? = some (.arr vi e xs)):Src O e ((xs.take (off+len)).drop off) v/\off+len<=xs.length:=by
 cases h with
 | ms _ _ _ _ _ cap a hold jf ha Wq hm =>
  obtain⟨hle,hm⟩:=hm xs I
  have R:((xs.take (off+len)).drop off).length=len:=by simp; omega
  have hg:∀ i (hi:i<((xs.take (off+len)).drop off).length),∃ h:off+i<xs.length,((xs.take (off+len)).drop off)[i]=xs[off+i]:=λi hi=>⟨Z,by simp[List.getElem_drop,List.getElem_take]⟩
  refine⟨?_,hle⟩
  rcases hm with⟨rfl,rfl,hv,hp⟩ | ⟨blk,n,o,VE,h3,h4,h5,h6,h7⟩
  ·cases hv
   have:(xs.take (0+0)).drop 0=[]:=qz
   rw[this]
   exact⟨⟨none,0,λ_=>[],rfl,zE _,λ_=>⟨rfl,rfl⟩,λi hi=>absurd hi (zW i),nofun⟩⟩
  ·cases h4
   obtain⟨bH,⟨Yj,_⟩ | ⟨pB,n',cs,T,g1,g2,g3,g4,gr,f,g5⟩⟩:=B.blk b _ I
   ·grind
   ·rw[h3]at g1
    cases g1
    refine⟨⟨some ⟨blk,o,none⟩,cap,λi=>f (off+i),by rw[R],by rw[R]; exact jf,nofun,λi hi => ?_,λp hp => ?_⟩⟩
    ·grind
    ·cases hp
     refine .inr ⟨rfl,.inr ⟨b,n,h3⟩,λi hi j u hj => ?_⟩
     obtain⟨k1,_⟩:=hg i hi
     have:=(g5 _ k1).2 j u hj
     rw[XV g2]
     rcases h7 with h7 | h7
     ·omega
     ·rw[h7,<- qD]; exact this
theorem We{e:Ty}{ys:List (den e)}{v:Value}(h:Src O e ys v)(bH:0<e.size):∃ (news:List Value) (f:Nat->List Value),news=dR f ys.length/\(∀ i (hi:i<ys.length),Rc O.w O.ok e ys[i] (f i)) /\
  (∀ P,(qS v).run P O.w=.ok ys.length O.w)/\(∀ P,(zO e.size ys.length v).run P O.w=.ok news.toArray O.w)/\(∀ P,(zO e.size ys.length v).run P O.w.drew=.ok news.toArray O.w.drew):=by
 obtain⟨a,cap,f,rfl,_,hn,h1,M⟩:=h.ex
 have hf:∀ i,i<ys.length->(f i).length=e.size:=λi hi=>(h1 i hi).len
 refine⟨dR f ys.length,f,rfl,h1,λP=>rfl,λP => ?_,λP => ?_⟩
 all_goals
  cases a with
  | none=>have:=(hn rfl).1; subst this; simp[zO,dR]
  | some p =>
   rcases M p rfl with⟨rfl,_⟩ | ⟨hp,_,hc⟩
   ·simp[zO,dR,loadCells,loadCellsFrom]
   obtain⟨blk,o,sp⟩:=p
   subst hp
   refine run_firstCells_some (P:=P) _ e.size ys.length ⟨blk,o,none⟩ ys.length cap (dR f ys.length) (gu hf) λj u hj => ?_
   obtain⟨i,k,hi,hk,rfl,hu⟩:=Ef bH hf hj
   rw[addr_add]
   try rw[World.cell?_drew]
   grind
structure Cel(O:KS)(e:Ty)(ys:List (den e))(v:Value):Prop where
 ex:∃ (news:List Value) (f:Nat->List Value),news=dR f ys.length/\(∀ i (hi:i<ys.length),Rc O.w O.ok e ys[i] (f i)) /\
  (∀ P,(qS v).run P O.w=.ok ys.length O.w)/\(∀ P,(zO e.size ys.length v).run P O.w=.ok news.toArray O.w)/\(∀ P,(zO e.size ys.length v).run P O.w.drew=.ok news.toArray O.w.drew)
theorem z8M{e:Ty}{ys:List (den e)}{v:Value}(h:Src O e ys v)(bH:0<e.size):Cel O e ys v:=⟨We h bH⟩
def R5(c:Ctx)(t2:TypeId):Prop:=(∃ e,c.P.underlying t2=some (.slice e))\/c.P.underlying t2=some .string
section run
variable {t t2 e:TypeId} {i:TypeInfo} {z:Value} {sLen sCap n:Nat} {base:Option Addr} {x:Value} {news olds:List Value} {ty:TypeId}
theorem run_append_fits(ht:c.P.underlying t=some (.slice e))(RP:R5 c t2)(hi:c.P.info? e=some i)(hlen:∀ P,(qS x).run P O.w=.ok n O.w)(hf:∀ P,(zO i.size n x).run P O.w=.ok news.toArray O.w)
  (Qp:sLen+n<=sCap) {w':World} (vU:(match base with | some a=>storeCells (a.add (sLen*i.size)) news | none=>pure ()).run c.P O.w=.ok () w') :
  (zL #[t,t2] ty #[.slice base sLen sCap,x]).run c.P O.w=.ok (.slice base (sLen+n) sCap) w':=by
 rcases RP with⟨e2,RP⟩ | RP
 all_goals cases base with
 | none=>simp at vU; subst vU; simp[zL,run_underlying ht,run_underlying RP,sizeOf,typeInfo,hi,hlen,Qp,hf]
 | some a=>simp only at vU; simp[zL,run_underlying ht,run_underlying RP,sizeOf,typeInfo,hi,hlen,Qp,hf,vU]
theorem rP(ht:c.P.underlying t=some (.slice e))(RP:R5 c t2)(hi:c.P.info? e=some i)(hz:i.zero=some z)(hlen:∀ P,(qS x).run P O.w=.ok n O.w)(hf:∀ P,(zO i.size n x).run P O.w.drew=.ok news.toArray O.w.drew)
  (ho:∀ P,(zO i.size sLen (.slice base sLen sCap)).run P O.w.drew=.ok olds.toArray O.w.drew)
  (hg:sCap<sLen+n) (h63:((sLen+n:Nat):Int)<=9223372036854775807) (I:(sLen+n)*i.bytes<=140737488355328) :
  (zL #[t,t2] ty #[.slice base sLen sCap,x]).run c.P O.w=.ok (.slice (some ⟨O.w.heap.size,0,none⟩) (sLen+n) (grownCap O.w (sLen+n) sCap e))
   (O.w.drew.alloc (.cells (olds.toArray++news.toArray++zX z.cells (grownCap O.w (sLen+n) sCap e-(sLen+n))) e)):=by
 have h1:¬ (sLen+n<=sCap):=Z
 have M:¬ (9223372036854775807<((sLen+n:Nat):Int)):=Z
 have h3:=growslice_fits (bytes:=i.bytes) hg I
 have h4:¬ (281474976710656<Builtin.nextslicecap (sLen+n) sCap*i.bytes):=Z
 have h5:IntKind.i64.max=9223372036854775807:=xm
 rcases RP with⟨e2,RP⟩ | RP
 all_goals
  simp[zL,run_underlying ht,run_underlying RP,sizeOf,typeInfo,zeroValue,hi,hz,hlen,hf,ho,Question.forced,newRow,grownCap]
  grind
end run
theorem XB(z:Array Value)(n:Nat):(zX z n).size=n*z.size:=by simp[zX]
theorem Yt{e:Ty}{l ys:List (den e)}{f g:Nat->List Value}(R:∀ i (hi:i<l.length),Rc O.w O.ok e l[i] (f i))(hy:∀ i (hi:i<ys.length),Rc O.w O.ok e ys[i] (g i))(zs:List Value) :
  ∀ i (hi:i<(l++ys).length),Rc O.w O.ok e (l++ys)[i] (if i<l.length then f i else g (i-l.length)) /\
   ∀ j v,(if i<l.length then f i else g (i-l.length))[j]? = some v->(dR f l.length++dR g ys.length++zs)[i*e.size+j]? = some v:=by
 have JF:∀ i,i<l.length->(f i).length=e.size:=λi hi=>(R i hi).len
 have T3:∀ i,i<ys.length->(g i).length=e.size:=λi hi=>(hy i hi).len
 have h1:=gu JF
 have M:=gu T3
 intro i hi
 by_cases RI:i<l.length
 ·simp only[if_pos RI]
  refine⟨xy,λj v hj => ?_⟩
  have T4:j<e.size:=by rw[<- JF i RI]; exact(zA.1 hj).1
  have:i*e.size+e.size<=l.length*e.size:=by rw[<- qB]; exact X _ RI
  rw[qI,zG (Z),tR JF i j RI T4]
  exact hj
 ·simp only[if_neg RI]
  simp only[zK]at hi
  have zbx:i-l.length<ys.length:=Z
  refine⟨xy,λj v hj => ?_⟩
  have T4:j<e.size:=by rw[<- T3 _ zbx]; exact(zA.1 hj).1
  have e1:i*e.size=l.length*e.size+(i-l.length)*e.size:=by rw[<- qD]; congr 1; omega
  have:(i-l.length)*e.size+e.size<=ys.length*e.size:=by rw[<- qB]; exact X _ zbx
  rw[qI,qC (Z),h1,zG (Z)]
  rw[show i*e.size+j-l.length*e.size=(i-l.length)*e.size+j by omega,tR T3 _ j zbx T4]
  exact hj
theorem I8{t t2 et:Nat}{e:Ty}{l ys:List (den e)}{sv v:Value}{bytes:Nat}{ty:Nat}(B:Inv O)(hu:c.P.underlying t=some (.slice et))(MN:R5 c t2)(uZ:bW c et e=true)(bH:0<e.size)(Cm:pC c et=some bytes)(hz:∃ y,zeroOf c et e=some y)
  (hs:Src O e l sv) (jf:∃ a,sv=.slice a l.length l.length) (hv:Cel O e ys v) (jX:ys≠[]) (I:(l.length+ys.length)*bytes<=140737488355328) (hn:l.length+ys.length<=9223372036854775807) :
  ∃ (E:KS) (r:Value),(zL #[t,t2] ty #[sv,v]).run c.P O.w=.ok r E.w/\E.st=O.st++[.arr (l.length+ys.length) e (l++ys)]/\Inv E/\Ext O E/\RD E (.ms O.st.length (l.length+ys.length) e 0 (l.length+ys.length)) r:=by
 obtain⟨T9,_⟩:=jW uZ
 obtain⟨i,Co,UP⟩:=mg T9
 obtain⟨y,hy⟩:=hz
 obtain⟨i',zv,g1,g2,g3⟩:=fx (O:=O) hy
 obtain⟨i'',k1,k2⟩:=sq Cm
 rw[Co]at g1 k1
 cases g1
 cases k1
 obtain⟨olds,f,ho1,ho2,ho3,ho4,ho5⟩:=We hs bH
 obtain⟨news,g,Yi,Cp,hn3,hn4,hn5⟩:=hv.ex
 obtain⟨a,hsv⟩:=jf
 subst hsv
 have Wp:0<ys.length:=List.length_pos_iff.2 jX
 have jJ:=rP (c:=c) (O:=O) (t:=t) (t2:=t2) (e:=et) (ty:=ty) (base:=a) (sLen:=l.length) (sCap:=l.length) (n:=ys.length) (x:=v) (news:=news) (olds:=olds) hu MN Co g2 hn3
  (by intro P; rw[UP]; exact hn5 P) (by intro P; rw[UP]; exact ho5 P) (Z) (Z) (by rw[k2]; exact I)
 let C:=grownCap O.w (l.length+ys.length) l.length et
 have hC:l.length+ys.length<=C:=grownCap_ge _ _ _ _
 let zs:=zX zv.cells (C-(l.length+ys.length))
 let cells:=olds.toArray++news.toArray++zs
 have hzs:zs.size=(C-(l.length+ys.length))*e.size:=by have:=g3.len; simp only[qG]at this; simp[zs,XB,this]
 have T8:olds.length=l.length*e.size:=by rw[ho1]; exact gu λi hi=>(ho2 i hi).len
 have hnl:news.length=ys.length*e.size:=by rw[Yi]; exact gu λi hi=>(Cp i hi).len
 have Qz:cells.size=C*e.size:=by
  simp only[cells,Array.size_append,zY,T8,hnl,hzs,<- qD]
  grind
 have gr:=mJ.drew O.w (.cells cells et)
 have hex:=Ze (n:=cells.size) (x:=.arr (l.length+ys.length) e (l++ys)) B gr
 refine⟨O.add _ cells.size (.arr (l.length+ys.length) e (l++ys)),_,jJ,rfl,Vz B gr ?_,hex,?_⟩
 ·refine⟨bH,.inr ⟨O.w.heap.size,cells.size,cells,et,te B,gr.new,rfl,?_,Uq uZ,λi=>if i<l.length then f i else g (i-l.length),λi hi => ?_⟩⟩
  ·rw[Qz,zK]; exact X _ hC
  ·obtain⟨q1,q2⟩:=Yt ho2 Cp zs.toList i hi
   refine⟨q1.mono hex.same,λj v hj => ?_⟩
   grind
 ·refine .ms _ (l.length+ys.length) e 0 _ C _ (.inr ⟨l.length+ys.length,e,_,QC,zE _⟩) hC nofun (λp hp=>by cases hp; rfl) λxs Yl => ?_
  rw[QC]at Yl
  cases Yl
  exact⟨qz,.inr ⟨O.w.heap.size,cells.size,0,C,te B,rfl,hC,by rw[Qz]; simp,.inr (qz)⟩⟩
theorem I9{t t2 et:Nat}{e:Ty}{ys:List (den e)}{p:Addr}{v:Value}{bytes:Nat}{ty:Nat}(B:Inv O)(hu:c.P.underlying t=some (.slice et))(MN:R5 c t2)(uZ:bW c et e=true)(bH:0<e.size)(Cm:pC c et=some bytes)(hz:∃ y,zeroOf c et e=some y)
  (hv:Cel O e ys v) (jX:ys≠[]) (I:ys.length*bytes<=140737488355328) (hn:ys.length<=9223372036854775807) :
  ∃ (E:KS) (r:Value),(zL #[t,t2] ty #[.slice (some p) 0 0,v]).run c.P O.w=.ok r E.w/\E.st=O.st/\Inv E/\Ext O E/\RD E (.sj e ys true) r:=by
 obtain⟨T9,_⟩:=jW uZ
 obtain⟨i,Co,UP⟩:=mg T9
 obtain⟨y,hy⟩:=hz
 obtain⟨i',zv,g1,g2,g3⟩:=fx (O:=O) hy
 obtain⟨i'',k1,k2⟩:=sq Cm
 rw[Co]at g1 k1
 cases g1
 cases k1
 obtain⟨news,g,Yi,Cp,hn3,hn4,hn5⟩:=hv.ex
 have Wp:0<ys.length:=List.length_pos_iff.2 jX
 have jJ:=rP (c:=c) (O:=O) (t:=t) (t2:=t2) (e:=et) (ty:=ty) (base:=some p) (sLen:=0) (sCap:=0) (n:=ys.length) (x:=v) (news:=news) (olds:=[]) hu MN Co g2 hn3
  (by intro P; rw[UP]; exact hn5 P) (by intro P; obtain⟨_,_,e1,_,_,_,e5⟩:=We (O:=O) (e:=e) (ys:=[]) (v:=.slice (some p) 0 0) (D4 (.qi (.sl e) [] _ (.lv e (some p)))) bH; rw[UP]; have:=e5 P; rw[e1]at this; exact this) (Z) (Z) (by rw[k2,qE]; exact I)
 rw[qE]at jJ
 let C:=grownCap O.w ys.length 0 et
 have hC:ys.length<=C:=grownCap_ge _ _ _ _
 let zs:=zX zv.cells (C-ys.length)
 let cells:=([]:List Value).toArray++news.toArray++zs
 have gr:=mJ.drew O.w (.cells cells et)
 have hex:=XP B gr
 have Dt:Rc (O.qi (O.w.drew.alloc (.cells cells et))).w (O.qi (O.w.drew.alloc (.cells cells et))).ok (.sl e) ys [.slice (some ⟨O.w.heap.size,0,none⟩) ys.length C]:=by
  refine .sl e ys O.w.heap.size 0 C g (.inr rfl) hC (λi hi=>(Cp i hi).mono hex.same) λi hi j u hu => ?_
  have T3:∀ i,i<ys.length->(g i).length=e.size:=λi hi=>(Cp i hi).len
  have hj:j<e.size:=by rw[<- T3 i hi]; exact(zA.1 hu).1
  have hnl:news.length=ys.length*e.size:=by rw[Yi]; exact gu T3
  have hle:i*e.size+e.size<=ys.length*e.size:=by rw[<- qB]; exact X _ hi
  have IL:news[i*e.size+j]? = some u:=by rw[Yi,tR T3 i j hi hj]; exact hu
  have ep:cells[i*e.size+j]? = some u:=by
   show(([]:List Value).toArray++news.toArray++zs)[i*e.size+j]? = some u
   rw[Array.getElem?_append_left (by simp; omega)]
   simpa using IL
  have H2:(O.qi (O.w.drew.alloc (.cells cells et))).w.heap[O.w.heap.size]? = some (.cells cells et (0,0)):=gr.new
  simp only[World.cell?,qE,H2]
  simpa using ep
 refine⟨O.qi _,_,jJ,rfl,cK B gr,hex,.sj e ys true _ Dt (λ_=>⟨_,_,_,rfl,λe=>absurd e jX⟩) nofun⟩
def KS.re(O:KS)(w':World)(b n:Nat)(x:cG):KS:={ O with w:=w',ph:=O.ph.set b (some (O.w.heap.size,n)),st:=O.st.set b x }
theorem Lx{w':World}{o:Obj}{b n v0 v1:Nat}{e:Ty}{xs ys:List (den e)}(B:Inv O)(g:mJ O.w w' o)(I:O.st[b]? = some (.arr v0 e xs))(hv:v0<v1):Ext O (O.re w' b n (.arr v1 e ys)):=by
 refine⟨g.os,g.tape,g.output,by show O.w.heap.size<=w'.heap.size; rw[g.size]; omega,λk hk=>⟨hk,g.old (B.bI k hk)⟩,λk hk=>.inl hk,?_,?_,?_,?_,by simp[KS.re],λk hk _=>g.old hk⟩
 ·intro b' blk m h
  simp only[KS.re]at h
  grind
 ·intro b' d J
  have jX:b≠b':=λe=>by subst e; rw[I]at J; cases J
  simp only[KS.re]
  grind
 ·intro b' u0 e' zs J
  simp only[KS.re]
  grind
 ·intro b' J
  have jX:b≠b':=λe=>by subst e; rw[I]at J; cases J
  simp only[KS.re,zT,if_neg jX]
  exact J
theorem zcQ{w':World}{o:Obj}{b n v0 v1:Nat}{e:Ty}{xs ys:List (den e)}(B:Inv O)(g:mJ O.w w' o)(I:O.st[b]? = some (.arr v0 e xs))(hv:v0<v1)
  (N:pw (O.re w' b n (.arr v1 e ys)) b (.arr v1 e ys)):Inv (O.re w' b n (.arr v1 e ys)):=by
 have hold:∀ (b' blk m:Nat),(O.ph.set b (some (O.w.heap.size,n)))[b']? = some (some (blk,m))->(b≠b'/\O.ph[b']? = some (some (blk,m)))\/(b=b'/\blk=O.w.heap.size):=by
  grind
 refine⟨by simp[KS.re,B.len],?_,?_,?_,?_,B.gl.mono (Lx (n:=n) (ys:=ys) B g I hv).same⟩
 ·intro k hk; have:=B.bI k hk; show k<w'.heap.size; rw[g.size]; omega
 ·intro b' blk m h
  rcases hold b' blk m h with⟨_,h⟩ | ⟨rfl,rfl⟩
  ·obtain⟨h1,M⟩:=B.apart b' blk m h
   exact⟨by show blk<w'.heap.size; rw[g.size]; omega,M⟩
  ·exact⟨by show O.w.heap.size<w'.heap.size; rw[g.size]; omega,λhk=>absurd (B.bI _ hk) (Nat.lt_irrefl _)⟩
 ·intro b1 b2 blk m m' h h'
  rcases hold b1 blk m h with⟨_,h⟩ | ⟨rfl,rfl⟩<;>rcases hold b2 _ m' h' with⟨_,h'⟩ | ⟨rfl,h''⟩
  ·exact B.inj b1 b2 blk m m' h h'
  ·have:=(B.apart b1 blk m h).1; omega
  ·have:=(B.apart b2 _ m' h').1; omega
  ·rfl
 ·intro b' y hy
  simp only[KS.re,zT]at hy
  split at hy
  ·grind
  ·rename_i e1
   refine(B.blk b' y hy).mono (Lx B g I hv) ?_ λblk m h=>g.old (B.apart b' blk m h).1
   simp only[KS.re,zT,if_neg e1]
theorem Gj{α:Type}{l:List α}{i:Nat}{a:α}(h:l[i]? = some a):l.set i a=l:=by
 apply List.ext_getElem?
 grind
theorem Rb{t t2 et b vi len:Nat}{e:Ty}{xs ys:List (den e)}{sv v:Value}{bytes:Nat}{ty:Nat}(B:Inv O)(hu:c.P.underlying t=some (.slice et))(MN:R5 c t2)(uZ:bW c et e=true)(bH:0<e.size)(Cm:pC c et=some bytes)
  (hz:∃ y,zeroOf c et e=some y) (hs:RD O (.ms b vi e 0 len) sv) (I:O.st[b]? = some (.arr vi e xs)) (hlen:len=xs.length) (hv:Cel O e ys v) (IM:(xs.length+ys.length)*bytes<=140737488355328)
  (hn:xs.length+ys.length<=9223372036854775807) :
  ∃ (E:KS) (r:Value),(zL #[t,t2] ty #[sv,v]).run c.P O.w=.ok r E.w/\E.st=O.st.set b (.arr (vi+ys.length) e (xs++ys))/\Inv E/\Ext O E/\RD E (.ms b (vi+ys.length) e 0 (len+ys.length)) r:=by
 subst hlen
 have wL:b<O.st.length:=(zA.1 I).1
 have GZ:b<O.ph.length:=by rw[B.len]; exact wL
 obtain⟨T9,_⟩:=jW uZ
 obtain⟨i,Co,UP⟩:=mg T9
 obtain⟨y,hy⟩:=hz
 obtain⟨i',zv,g1,g2,g3⟩:=fx (O:=O) hy
 obtain⟨i'',k1,k2⟩:=sq Cm
 rw[Co]at g1 k1
 cases g1
 cases k1
 have Cr:=(LI B hs I).1
 simp only[qE,List.take_length,List.drop_zero]at Cr
 obtain⟨olds,f,ho1,ho2,ho3,ho4,ho5⟩:=We Cr bH
 obtain⟨news,g,Yi,Cp,hn3,hn4,hn5⟩:=hv.ex
 have T8:olds.length=xs.length*e.size:=by rw[ho1]; exact gu λi hi=>(ho2 i hi).len
 have hnl:news.length=ys.length*e.size:=by rw[Yi]; exact gu λi hi=>(Cp i hi).len
 have HK:∀ u∈news,u.oneCell'=true:=by rw[Yi]; exact HI λi hi=>(Cp i hi).one
 cases hs with
 | ms _ _ _ _ _ cap a hold jf ha Wq hm =>
  obtain⟨hle,hm⟩:=hm xs I
  by_cases Qp:xs.length+ys.length<=cap
  ·-- there is room
   rcases hm with⟨h1,_,hv',hp⟩ | ⟨blk,n,o,VE,h3,h4,h5,h6,h7⟩
   ·simp only[Value.slice.injEq]at hv'
    obtain⟨rfl,FU,rfl⟩:=hv'
    have Kx:xs=[]:=zM h1
    have hy0:ys=[]:=zM (Z)
    subst Kx hy0
    refine⟨O,.slice none 0 0,?_,?_,B,Ext.refl O,.ms b vi e 0 0 0 none hold (zE _) (λ_=>rfl) nofun λzs hzs => ?_⟩
    ·have T6:news=[]:=zM (by simpa using hnl)
     subst T6
     exact run_append_fits (c:=c) (O:=O) (t:=t) (t2:=t2) (e:=et) (ty:=ty) (base:=none) (sLen:=0) (sCap:=0) (n:=0) (x:=v) (news:=[]) hu MN Co hn3 (by intro P; rw[UP]; exact hn4 P) (Z) rfl
    ·simp only[List.length_nil,xH,List.append_nil]
     rw[Gj I]
    ·grind
   ·cases h4
    obtain⟨_,⟨Yj,hpn⟩ | ⟨pB,n',cs,T,p1,p2,p3,p4,pr,F,p5⟩⟩:=B.blk b _ I
    ·grind
    ·rw[h3]at p1
     cases p1
     have ho:xs.length+ys.length=0\/o=0:=by
      grind
     have zfz:cap*e.size<=cs.size:=by rw[p3]; simpa using h6
     have GV:xs.length*e.size+ys.length*e.size<=cs.size:=by
      rw[<- qD]; exact qN (X _ Qp) zfz
     let mv:=(cs.toList.take (xs.length*e.size)++news++cs.toList.drop (xs.length*e.size+news.length)).toArray
     have Ku:cs.toList.length=cs.size:=qz
     have GU:mv.size=cs.size:=by simp only[mv,zY,zK,zU,qK,hnl,Ku]; omega
     have hoa:∀ m,(⟨blk,o,none⟩:Addr).add (xs.length*e.size)=⟨blk,xs.length*e.size,none⟩\/m=0\/xs.length+ys.length=0:=by
      intro m
      rcases ho with h | h
      ·grind
      ·subst h; rw[addr_add,qE]; exact .inl rfl
     have vU:(storeCells ((⟨blk,o,none⟩:Addr).add (xs.length*i.size)) news).run c.P O.w=.ok () (O.w.setRow blk mv):=by
      rw[UP]
      rcases hoa 1 with h | h | h
      ·rw[h]
       have:=run_storeCells_at c.P blk (xs.length*e.size) T news 0 cs O.w p2 (by rw[hnl]; omega) HK
       simpa only[xH]using this
      ·cases h
      ·have T6:news=[]:=zM (by rw[hnl,show ys.length=0 by omega]; simp)
       have Kx:xs.length=0:=Z
       have hce:mv=cs:=by simp[mv,T6,Kx]
       rw[T6,hce,setRow_self _ _ _ _ _ p2]
       rfl
     have Ka:Alike (.arr vi e xs) (.arr (vi+ys.length) e (xs++ys)):=⟨rfl,Z,λh=>by rw[zK]; omega⟩
     have hex:=UJ (cs:=mv) (x:=.arr (vi+ys.length) e (xs++ys)) B h3 I Ka
     refine⟨O.upd b blk mv (.arr (vi+ys.length) e (xs++ys)),.slice (some ⟨blk,o,none⟩) (xs.length+ys.length) cap,?_,rfl,UK B h3 I Ka ?_,hex,?_⟩
     ·exact run_append_fits (c:=c) (O:=O) (t:=t) (t2:=t2) (e:=et) (ty:=ty) (base:=some ⟨blk,o,none⟩) (sLen:=xs.length) (sCap:=cap) (n:=ys.length) (x:=v) (news:=news) hu MN Co hn3 (by intro P; rw[UP]; exact hn4 P) Qp vU
     ·refine⟨bH,.inr ⟨blk,n,mv,T,h3,setRow_heap _ _ _ _ _ _ p2,by rw[GU]; exact p3,?_,pr,λi=>if i<xs.length then F i else g (i-xs.length),λi hi => ?_⟩⟩
      ·rw[zK]; exact qN (X _ Qp) (by simpa using h6)
      ·have hF:∀ i (hi:i<xs.length),Rc O.w O.ok e xs[i] (F i):=λi hi=>(p5 i hi).1
       have z9z:∀ i,i<xs.length->(F i).length=e.size:=λi hi=>(hF i hi).len
       have HL:cs.toList.take (xs.length*e.size)=dR F xs.length:=by
        apply List.ext_getElem?
        intro p
        rw[List.getElem?_take]
        have JF:=gu z9z
        split
        ·rename_i hp
         obtain⟨q,hq⟩:∃ q,(dR F xs.length)[p]? = some q:=⟨_,zN (by rw[JF]; exact hp)⟩
         obtain⟨i',j',a1,a2,a3,a4⟩:=Ef bH z9z hq
         rw[hq]
         have:=(p5 i' a1).2 j' q a4
         rw[a3,zV]; exact this
        ·rename_i hp
         rw[List.getElem?_eq_none (by rw[JF]; omega)]
       obtain⟨q1,q2⟩:=Yt hF Cp (cs.toList.drop (xs.length*e.size+news.length)) i hi
       refine⟨q1.mono hex.same,λj w hj => ?_⟩
       have:=q2 j w hj
       rw[<- Yi,<- HL]at this
       simpa only[mv,xA]using this
     ·refine .ms b _ e 0 _ cap _ (.inr ⟨vi+ys.length,e,xs++ys,by simp[KS.upd,KS.Vq,wL],zE _⟩) Qp nofun (λp hp=>by cases hp; rfl) λzs hzs => ?_
      have:zs=xs++ys:=by simp only[KS.upd,KS.Vq,qW wL]at hzs; cases hzs; rfl
      subst this
      refine⟨qz,.inr ⟨blk,n,o,cap,h3,rfl,Qp,by simpa using h6,?_⟩⟩
      rcases h7 with h7 | h7
      ·exact .inl h7
      ·exact .inr (by simpa using h7)
  ·-- it grows
   have Wp:0<ys.length:=Z
   have jJ:=rP (c:=c) (O:=O) (t:=t) (t2:=t2) (e:=et) (ty:=ty) (base:=a) (sLen:=xs.length) (sCap:=cap) (n:=ys.length) (x:=v) (news:=news) (olds:=olds) hu MN Co g2 hn3
    (by intro P; rw[UP]; exact hn5 P) (by intro P; rw[UP]; exact ho5 P) (Z) (Z) (by rw[k2]; exact IM)
   let C:=grownCap O.w (xs.length+ys.length) cap et
   have hC:xs.length+ys.length<=C:=grownCap_ge _ _ _ _
   let zs:=zX zv.cells (C-(xs.length+ys.length))
   let cells:=olds.toArray++news.toArray++zs
   have hzs:zs.size=(C-(xs.length+ys.length))*e.size:=by have:=g3.len; simp only[qG]at this; simp[zs,XB,this]
   have Qz:cells.size=C*e.size:=by
    simp only[cells,Array.size_append,zY,T8,hnl,hzs,<- qD]
    congr 1; omega
   have gr:=mJ.drew O.w (.cells cells et)
   have z0S:vi<vi+ys.length:=Z
   have hex:=Lx (n:=cells.size) (ys:=xs++ys) B gr I z0S
   refine⟨O.re _ b cells.size (.arr (vi+ys.length) e (xs++ys)),_,jJ,rfl,zcQ B gr I z0S ?_,hex,?_⟩
   ·refine⟨bH,.inr ⟨O.w.heap.size,cells.size,cells,et,by simp[KS.re,GZ],gr.new,rfl,?_,Uq uZ,λi=>if i<xs.length then f i else g (i-xs.length),λi hi => ?_⟩⟩
    ·rw[Qz,zK]; exact X _ hC
    ·obtain⟨q1,q2⟩:=Yt ho2 Cp zs.toList i hi
     refine⟨q1.mono hex.same,λj v hj => ?_⟩
     have:=q2 j v hj
     rw[<- ho1,<- Yi]at this
     rw[<- zV]
     simpa[cells]using this
   ·refine .ms b _ e 0 _ C _ (.inr ⟨vi+ys.length,e,xs++ys,by simp[KS.re,wL],zE _⟩) hC nofun (λp hp=>by cases hp; rfl) λus hus => ?_
    have:us=xs++ys:=by simp only[KS.re,qW wL]at hus; cases hus; rfl
    subst this
    exact⟨qz,.inr ⟨O.w.heap.size,cells.size,0,C,by simp[KS.re,GZ],rfl,hC,by rw[Qz]; simp,.inr (qz)⟩⟩
end
end Go.AM
namespace Go.AM
set_option linter.unusedSectionVars false
variable [yV]
section
variable {c:Ctx} {O:KS}
theorem Vo{x y:D}{v:Value}(B:Inv O)(N:RD O x v)(h:(Z8 O.st x).leads y):(y=x/\∀ b vi e off len,x≠.ms b vi e off len)\/∃ (e:Ty) (ys:List (den e)),y=.qi (.sl e) ys/\Src O e ys v/\∃ b vi off len,x=.ms b vi e off len:=by
 cases x with
 | ms b vi e off len =>
  simp only[Z8]at h
  split at h
  ·rename_i dA e' xs I
   split at h
   ·rename_i he
    subst he
    obtain⟨rfl,h⟩:=h
    refine .inr ⟨e',_,h.symm,(LI B N I).1,b,vi,off,len,rfl⟩
   ·exact h.elim
  ·exact h.elim
 | _=>exact .inl ⟨h.symm,λ_ _ _ _ _=>nofun⟩
theorem Ws{t t2 et:Nat}{e:Ty}{s:D}{ys:List (den e)}{ne:Bool}{sv v:Value}{bytes ty:Nat}{d:Option D}{ql:St}(B:Inv O)(hu:c.P.underlying t=some (.slice et))(MN:R5 c t2)(uZ:bW c et e=true)(bH:0<e.size)
  (Cm:pC c et=some bytes) (SZ:0<bytes) (hz:∃ y,zeroOf c et e=some y) (hs:RD O s sv) (hv:Cel O e ys v) (jX:ne=true->ys≠[])
  (h:(bg e s ys ne bytes O.st).leads (d,ql)) :
  ∃ (E:KS) (r:Value),(zL #[t,t2] ty #[sv,v]).run c.P O.w=.ok r E.w/\E.st=ql/\Inv E/\Ext O E/\∀ d',d=some d'->RD E d' r:=by
 have hlen:∀ n,n*bytes<=140737488355328->n<=9223372036854775807:=λn hn=>qN (Nat.le_mul_of_pos_right n SZ) (qN hn (xm))
 -- nothing is appended
 have same:∀ (a:Option Addr) (n cap:Nat),sv=.slice a n cap->n<=cap->ys=[]->d=some s->ql=O.st ->
   ∃ (E:KS) (r:Value),(zL #[t,t2] ty #[sv,v]).run c.P O.w=.ok r E.w/\E.st=ql/\Inv E/\Ext O E/\∀ d',d=some d'->RD E d' r:=by
  rintro a n cap rfl jf rfl rfl rfl
  obtain⟨T9,_⟩:=jW uZ
  obtain⟨i,Co,UP⟩:=mg T9
  obtain⟨news,g,Yi,Cp,hn3,hn4,hn5⟩:=hv.ex
  have T6:news=[]:=Yi
  subst T6
  refine⟨O,.slice a n cap,?_,rfl,B,Ext.refl O,λd' he=>by cases he; exact hs⟩
  have:=run_append_fits (c:=c) (O:=O) (t:=t) (t2:=t2) (e:=et) (ty:=ty) (base:=a) (sLen:=n) (sCap:=cap) (n:=0) (x:=v) (news:=[]) (i:=i) hu MN Co hn3 (by intro P; rw[UP]; exact hn4 P) (Z) (w':=O.w) (by cases a<;>rfl)
  grind
 have new:∀ l:List (den e),Src O e l sv->(∃ a,sv=.slice a l.length l.length)->ys≠[]->(p7 e l ys bytes O.st).leads (d,ql) ->
   ∃ (E:KS) (r:Value),(zL #[t,t2] ty #[sv,v]).run c.P O.w=.ok r E.w/\E.st=ql/\Inv E/\Ext O E/\∀ d',d=some d'->RD E d' r:=by
  intro l R jf jX h
  obtain⟨I,h⟩:=h
  cases h
  obtain⟨E,r,h1,M,h3,h4,h5⟩:=I8 (ty:=ty) B hu MN uZ bH Cm hz R jf hv jX I (hlen _ I)
  grind
 unfold bg at h
 split at h
 ·have hsv:sv=.slice none 0 0:=by cases hs; rfl
  cases hn:ne with
  | true=>rw[hn,cond_true]at h; exact new [] (KJ hs) ⟨none,hsv⟩ (jX hn) h
  | false =>
   rw[hn,cond_false]at h
   rcases h with⟨hy,h⟩ | ⟨hy,h⟩
   ·cases h; exact same none 0 0 hsv (zE _) (List.isEmpty_iff.1 hy) rfl rfl
   ·exact new [] (KJ hs) ⟨none,hsv⟩ (λe=>by rw[e]at hy; cases hy) h
 ·rename_i e' l ne'
  split at h
  ·rename_i l' IW
   obtain⟨he,z0Q⟩:=we IW
   cases he
   simp only at z0Q
   subst z0Q
   have hsv:∃ a,sv=.slice a l'.length l'.length:=by
    cases hs with
    | vy=>simp
    | tight=>simp
   cases hn:ne with
   | true=>rw[hn,cond_true]at h; exact new l' (Wf hs) hsv (jX hn) h
   | false =>
    rw[hn,cond_false]at h
    rcases h with⟨hy,h⟩ | ⟨hy,h⟩
    ·cases h
     obtain⟨a,ha⟩:=hsv
     exact same a _ _ ha (zE _) (List.isEmpty_iff.1 hy) rfl rfl
    ·exact new l' (Wf hs) hsv (λe=>by rw[e]at hy; cases hy) h
  ·exact h.elim
 ·rename_i e' l b
  split at h
  ·rename_i IW
   obtain⟨he,z0Q⟩:=we IW
   cases he
   simp only at z0Q
   subst z0Q
   cases I:b with
   | false=>rw[I]at h; exact h.elim
   | true =>
    rw[I,cond_true]at h
    subst I
    obtain⟨IM,h⟩:=h
    cases h
    cases hs with
    | sj _ _ _ _ hr ht hf =>
     obtain⟨blk,off,cap,rfl,hc⟩:=ht rfl
     have:=hc rfl
     subst this
     by_cases hy:ys=[]
     ·subst hy
      exact same (some ⟨blk,off,none⟩) 0 0 rfl (zE _) rfl rfl rfl
     ·obtain⟨E,r,h1,M,h3,h4,h5⟩:=I9 (ty:=ty) (p:=⟨blk,off,none⟩) B hu MN uZ bH Cm hz hv hy IM (hlen _ IM)
      exact⟨E,r,h1,M,h3,h4,λd' he=>by cases he; exact h5⟩
  ·exact h.elim
 ·rename_i b vi e' off len
  split at h
  ·rename_i dA e'' xs I
   split at h
   ·rename_i xs' GJ
    obtain⟨he,zgq⟩:=we GJ
    cases he
    simp only at zgq
    subst zgq
    cases hde:decide (e'=_)with
    | false=>rw[hde]at h; exact h.elim
    | true =>
     rw[hde,cond_true]at h
     have:=uE hde
     subst this
     obtain⟨⟨rfl,rfl,R,IM⟩,h⟩:=h
     cases h
     obtain⟨E,r,h1,M,h3,h4,h5⟩:=Rb (ty:=ty) B hu MN uZ bH Cm hz hs I R hv IM (hlen _ IM)
     exact⟨E,r,h1,M,h3,h4,λd' he=>by cases he; exact h5⟩
   ·exact h.elim
  ·exact h.elim
 ·exact h.elim
theorem DG{t ty:Nat}{s x:Option D}{sv v:Value}{d:Option D}{ql:St}(B:Inv O)(hs:∀ z,s=some z->RD O z sv)(N:∀ z,x=some z->RD O z v)
  (h:(qt (QD c t s x) O.st).leads (d,ql)):wy c.P (do zJ (.value (<- zL #[t,t] ty #[sv,v]))) O d ql:=by
 unfold QD at h
 split at h
 ·exact absurd h zg
 ·rename_i et het
  have hu:=yF het
  split at h
  ·rename_i e bytes MM Cm
   cases I:bW c et e&&xE 0 e.size&&xE 0 bytes&&(zeroOf c et e).isSome with
   | false=>rw[I]at h; exact absurd h zg
   | true =>
    rw[I,cond_true]at h
    simp only[zI]at I
    obtain⟨⟨⟨uZ,h1⟩,M⟩,h3⟩:=I
    have bH:0<e.size:=V h1
    have SZ:0<bytes:=V M
    have hz:=zZ.1 h3
    split at h
    ·rename_i s x
     simp only[qt,T.xg]at h
     obtain⟨y,hy,h⟩:=h
     have fin:∀ (ys:List (den e)) (ne:Bool),Src O e ys v->(ne=true->ys≠[])->(bg e s ys ne bytes O.st).leads (d,ql)->wy c.P (do zJ (.value (<- zL #[t,t] ty #[sv,v]))) O d ql:=by
      intro ys ne hv jX h
      obtain⟨E,r,g1,g2,g3,g4,g5⟩:=Ws (t2:=t) (ty:=ty) B hu (.inl ⟨et,hu⟩) uZ bH Cm SZ hz (hs _ rfl) (z8M hv bH) jX h
      exact⟨E,.value r,r,by simp only[zH,g1,Y]; rfl,.inl rfl,g2,g3,g4,g5⟩
     have MP:=N _ rfl
     rcases Vo B MP hy with⟨rfl,hnm⟩ | ⟨e',ys,rfl,Cr,_⟩
     ·split at h
      ·rename_i σ z
       split at h
       ·rename_i ys hys
        obtain⟨he,hz'⟩:=we hys
        cases he
        subst hz'
        exact fin _ false (D4 MP) nofun h
       ·exact h.elim
      ·rename_i σ z ne
       split at h
       ·rename_i ys hys
        obtain⟨he,hz'⟩:=we hys
        cases he
        subst hz'
        refine fin _ ne (Wf MP) (λjX => ?_) h
        cases MP with
        | vy=>cases jX
        | tight _ _ _ _ _ _ q=>exact q jX
       ·exact h.elim
      ·exact fin [] false (KJ MP) nofun h
      ·exact h.elim
     ·simp only at h
      split at h
      ·rename_i ys' hys
       obtain⟨he,hz'⟩:=we hys
       grind
      ·exact h.elim
    ·exact absurd h zg
  ·exact absurd h zg
theorem z8N{l:zx}{v:Value}(h:RD O (.qi .str l) v):Cel O (.int .u8) (bytesOf l) v:=by
 have hv:=h.jb
 subst hv
 have R:(bytesOf l).length=l.length:=by simp[bytesOf]
 have bH:(⟨l.toArray⟩:ByteArray).size=l.length:=zY
 refine⟨Lib.strCells ⟨l.toArray⟩,λi=>[.int .u8 ((bytesOf l)[i]?.getD 0)],?_,λi hi => ?_,λP => ?_,λP => ?_,λP => ?_⟩
 ·have gen:∀ (n:Nat),n<=l.length->dR (λi=>[zP .u8 ((bytesOf l)[i]?.getD 0)]) n=(l.take n).map λb=>zP .u8 b.toNat:=by
   intro n
   induction n with
   | zero=>intro _; rfl
   | succ n ih =>
    intro hn
    have wL:n<l.length:=hn
    rw[dR,ih (Z),qJ wL,List.map_append]
    simp[bytesOf,zN wL]
  rw[R,gen _ (zE _),List.take_length]
  rfl
 ·have:(bytesOf l)[i]?.getD 0=(bytesOf l)[i]:=by rw[zN hi]; rfl
  show Rc O.w O.ok (.int .u8) (bytesOf l)[i] [zP .u8 ((bytesOf l)[i]?.getD 0)]
  rw[this]
  exact .int .u8 _
 ·show(pure (⟨l.toArray⟩:ByteArray).size:Sem Nat).run P O.w=_
  rw[bH,R]; rfl
 ·rw[R,<- bH]; exact qP _ _ _
 ·rw[R,<- bH]; exact qP _ _ _
theorem KU{t t2 ty:Nat}{s x:Option D}{sv v:Value}{d:Option D}{ql:St}(B:Inv O)(hs:∀ z,s=some z->RD O z sv)(N:∀ z,x=some z->RD O z v)
  (h:(qt (tF c t t2 s x) O.st).leads (d,ql)):wy c.P (do zJ (.value (<- zL #[t,t2] ty #[sv,v]))) O d ql:=by
 unfold tF at h
 split at h
 ·exact absurd h zg
 ·rename_i et het
  have hu:=yF het
  split at h
  ·rename_i bytes MM Cm MN
   cases I:bW c et (.int .u8)&&xE 0 bytes&&(zeroOf c et (.int .u8)).isSome with
   | false=>rw[I]at h; exact absurd h zg
   | true =>
    rw[I,cond_true]at h
    simp only[zI]at I
    obtain⟨⟨uZ,M⟩,h3⟩:=I
    have SZ:0<bytes:=V M
    have hz:=zZ.1 h3
    split at h
    ·rename_i s l
     obtain⟨E,r,g1,g2,g3,g4,g5⟩:=Ws (t2:=t2) (ty:=ty) B hu (.inr MN) uZ (xm) Cm SZ hz (hs _ rfl) (ne:=false) (z8N (N _ rfl)) (λe=>by cases e) h
     exact⟨E,.value r,r,by simp only[zH,g1]; rfl,.inl rfl,g2,g3,g4,g5⟩
    ·exact absurd h zg
  ·exact absurd h zg
end
end Go.AM
namespace Go.AM
set_option linter.unusedSectionVars false
variable [yV]
open Go.RowKit
section
variable {c:Ctx} {O:KS}
theorem J9{t:Nat}(h:EH c t=true):∃ k e,c.P.underlying t=some (.map k e)/\c.P.underlying k=some (.int .i64)/\c.P.underlying e=some .bool/\∀ w,(zeroValue e).run c.P w=.ok (.bool false) w:=by
 unfold EH at h
 split at h
 ·rename_i k e ht
  simp only[zI]at h
  obtain⟨⟨h1,M⟩,h3⟩:=h
  refine⟨k,e,ht,?_,?_,λw => ?_⟩
  ·split at h1
   ·rename_i q hq; cases q<;>first | exact hq | cases h1
   ·cases h1
  ·split at M
   ·assumption
   ·cases M
  ·split at h3
   ·rename_i i hi
    split at h3
    ·rename_i z hz
     cases z
     ·simp[zeroValue,typeInfo,run_program,hi,hz]
     ·cases h3
    ·cases h3
   ·cases h3
 ·cases h
theorem keyOf_int{P P':Program}{k k':TypeId}(h:P.underlying k=some (.int .i64))(h':P'.underlying k'=some (.int .i64)):keyOf P k=keyOf P' k':=by
 funext v
 simp only[keyOf,h,h',mapKey]
theorem Rq{P P':Program}{e e':TypeId}(h:P.underlying e=some .bool)(h':P'.underlying e'=some .bool):(plainElem P e:Value->Option (DataW Unit×List MemPlace))=plainElem P' e':=by
 funext v
 simp only[plainElem,h,h']
theorem SA{P P':Program}{k k' e e':TypeId}(h:P.underlying k=some (.int .i64))(h':P'.underlying k'=some (.int .i64))(he:P.underlying e=some .bool)(IP:P'.underlying e'=some .bool)
  {w w':World} {b b' n:Nat} {D:DataW Unit} (ho:w.ownsMap P k (plainElem P e) b n D) (hw:w'.heap[b']? = w.heap[b]?):w'.ownsMap P' k' (plainElem P' e') b' n D:=by
 obtain⟨es,clock,h1,M,h3,h4⟩:=ho
 have e1:(xI P k (plainElem P e):MapEntry->Option (Lit×DataW Unit))=xI P' k' (plainElem P' e'):=by
  funext x; simp only[xI,keyOf_int h h',Rq he IP]
 have e2:(xJ P k (plainElem P e):MapEntry->Lit×DataW Unit)=xJ P' k' (plainElem P' e'):=by
  funext x; simp only[xJ,e1]
 refine⟨es,clock,hw.trans h1,⟨M.size,M.stamped,λx N => ?_⟩,h3,by rw[<- e2]; exact h4⟩
 rw[<- e1]; exact M.reads x N
theorem Bb{P:Program}{k e:TypeId}(h:P.underlying k=some (.int .i64))(he:P.underlying e=some .bool){w:World}{b:Nat}{o:Obj}{l:List Int}{D:DataW Unit}(I:w.heap[b]? = some o)
  (ho:w.ownsMap P k (plainElem P e) b l.length D) (hD:Maps.IsMap D) (hr:∀ n,(Lit.int .i64 n).wf=true->D.atKey (.int .i64 n) (.lit (.bool false))=.lit (.bool (l.contains n))):Th o l :=
 λ_ _ _ h' IP _ _ hw'=>⟨D,SA h h' he IP ho (hw'.trans I.symm),hD,hr⟩
theorem z52{P:Program}{e:TypeId}(he:P.underlying e=some .bool){v:Value}{b:Bool}{ps:List MemPlace}(h:plainElem (H:=Unit) P e v=some (.lit (.bool b),ps)):v=.bool b:=by
 unfold plainElem at h
 rw[he]at h
 cases v<;>simp at h
 exact congrArg _ h.1
theorem CD{t:Nat}{r:Option Operand}{f:Operand->Value}{d:Option D}{ql:St}(B:Inv O)(h:(qt (Jf c t r) O.st).leads (d,ql)) :
  wy c.P (do zJ (.value (<- Instr.makeMap t (r.map f)))) O d ql:=by
 unfold Jf at h
 cases I:EH c t&&r.isNone with
 | false=>rw[I]at h; exact absurd h zg
 | true =>
  rw[I,cond_true]at h
  simp only[zI]at I
  obtain⟨h1,M⟩:=I
  cases r with
  | some r=>cases M
  | none =>
  obtain⟨rfl,rfl⟩:=h
  obtain⟨k,e,ht,hk,he,_⟩:=J9 h1
  have g:=mJ.alloc O.w (.map #[] 0)
  have N:=Ze (n:=0) (x:=.var (.Bh [])) B g
  refine⟨O.add _ 0 (.var (.Bh [])),.value (.map (some O.w.heap.size)),_,?_,.inl rfl,rfl,Vz B g ?_,N,λ_ he=>by cases he; exact .yJ _ _ 0 _ QC (te B)⟩
  ·simp[KS.add,run_makeMap]
  ·exact⟨O.w.heap.size,.map #[] 0,te B,g.new,Bb hk he (w:=O.w.alloc (.map #[] 0)) (b:=O.w.heap.size) g.new (World.ownsMap_made O.w c.P k (plainElem c.P e)) Go.Maps.isMap_empty λn _=>rfl⟩
theorem EN{t:Nat}{ok:Bool}{m x:Option D}{v u:Value}{d:Option D}{ql:St}(B:Inv O)(hm:∀ z,m=some z->RD O z v)(N:∀ z,x=some z->RD O z u)
  (h:(qt (YI c t ok m x) O.st).leads (d,ql)):wy c.P (do zJ (.value (<- Instr.lookup t v u ok))) O d ql:=by
 unfold YI at h
 cases I:EH c t && !ok with
 | false=>rw[I]at h; exact absurd h zg
 | true =>
  rw[I,cond_true]at h
  simp only[zI]at I
  obtain⟨h1,M⟩:=I
  have uZ:ok=false:=by cases ok<;>first | rfl | cases M
  subst uZ
  obtain⟨k,e,ht,hk,he,hz⟩:=J9 h1
  have hz:=hz O.w
  split at h
  ·rename_i b q n hq
   cases hq64:Yp q with
   | false=>rw[hq64]at h; exact absurd h zg
   | true =>
   rw[hq64,cond_true]at h
   have hq6:q=.i64:=by cases q<;>first | rfl | cases hq64
   subst hq6
   have hu:=kl hq N
   simp only[qt]at h
   split at h
   ·rename_i l R
    obtain⟨hw,rfl,rfl⟩:=h
    cases hm _ rfl with
    | yJ _ blk m' d' J hp =>
     obtain⟨pB,o,g1,g2,g3⟩:=(B.blk b _ R:Maps O b l)
     rw[hp]at g1
     cases g1
     obtain⟨D,ho,hD,hr⟩:=g3 c.P k e hk he O.w blk g2
     obtain⟨rv,ps,jJ,hv⟩:=ho.lookup (qQ hk) ht hz (plainElem_bool he false) (qM hk hw)
     rw[hr n hw]at hv
     have:=z52 he hv
     subst this
     subst hu
     exact wy.pure B jJ .bool
   ·exact h.elim
  ·rename_i q n hq
   cases hq64:Yp q with
   | false=>rw[hq64]at h; exact absurd h zg
   | true =>
   rw[hq64,cond_true]at h
   have hq6:q=.i64:=by cases q<;>first | rfl | cases hq64
   subst hq6
   have hu:=kl hq N
   subst hu
   obtain⟨hw,rfl,rfl⟩:=h
   cases hm _ rfl
   exact wy.pure B (by simpa using Go.Maps.look_nil false (qQ hk) ht hz (qM hk hw)) .bool
  ·exact absurd h zg
theorem Ia{D:DataW Unit}{l:List Int}(hD:Go.Maps.IsMap D)(hr:∀ n,(Lit.int .i64 n).wf=true->D.atKey (.int .i64 n) (.lit (.bool false))=.lit (.bool (l.contains n)))(m:Int) :
  ∀ n,(Lit.int .i64 n).wf=true->(D.put (.int .i64 m) (.lit (.bool true))).atKey (.int .i64 n) (.lit (.bool false))=.lit (.bool ((l++[m]).contains n)):=λn hn=>by
 by_cases e:n=m
 ·subst e
  rw[Go.Maps.atKey_put_same hD (show WideAt.IsKeyLit (.int _ _)from trivial)]
  simp
 ·rw[Go.Maps.atKey_put_other (by simpa using e),hr n hn]
  simp[e]
theorem YM{t:Nat}{m x y:Option D}{v u z:Value}{d:Option D}{ql:St}(B:Inv O)(hm:∀ z,m=some z->RD O z v)(N:∀ z,x=some z->RD O z u)(hy:∀ q,y=some q->RD O q z)
  (h:(qt (YL c t m x y) O.st).leads (d,ql)):wy c.P (do Instr.mapUpdate t v u z; zJ .skip) O d ql:=by
 unfold YL at h
 cases I:EH c t with
 | false=>rw[I]at h; exact absurd h zg
 | true =>
  rw[I,cond_true]at h
  obtain⟨k,e,ht,hk,he,_⟩:=J9 I
  split at h
  ·rename_i b q n yb hq hyb
   cases hq64:Yp q with
   | false=>rw[hq64]at h; exact absurd h zg
   | true =>
   rw[hq64,cond_true]at h
   have hq6:q=.i64:=by cases q<;>first | rfl | cases hq64
   subst hq6
   have hu:=kl hq N
   have hz:=tG hyb hy
   simp only[qt]at h
   split at h
   ·rename_i l R
    obtain⟨⟨rfl,hw,hlen⟩,h⟩:=h
    simp only[T.leads,Prod.mk.injEq]at h
    obtain⟨rfl,rfl⟩:=h
    cases hm _ rfl with
    | yJ _ blk m' d' J hp =>
     obtain⟨pB,o,g1,g2,g3⟩:=(B.blk b _ R:Maps O b l)
     rw[hp]at g1
     cases g1
     obtain⟨D,ho,hD,hr⟩:=g3 c.P k e hk he O.w blk g2
     obtain⟨w',jJ,hown,hg⟩:=ho.update (qQ hk) ht (by simp[maxLen]; omega) (qM hk hw) (plainElem_bool he true)
     subst hu hz
     have Ka:Alike (.var (.Bh l)) (.var (.Bh (l++[n]))):=trivial
     refine⟨O.Vq b w' (.var (.Bh (l++[n]))),.skip,undef,?_,.inr ⟨rfl,rfl⟩,rfl,FE B hp R Ka hg ?_,UI B hp R Ka hg,λ_ he=>by cases he⟩
     ·simp[KS.Vq,jJ]
     ·obtain⟨o',ho'⟩:∃ o',w'.heap[blk]? = some o':=⟨_,Array.getElem?_eq_getElem hown.lt⟩
      exact⟨blk,o',hp,ho',Bb hk he ho' (by simpa using hown) (hD.put _ _) (Ia hD hr n)⟩
   ·exact h.elim
  ·exact absurd h zg
theorem Le{op:BinOp}{t:Nat}{px:Operand}{x:Option D}{v:Value}{d:Option D}{ql:St}{z:dO}(B:Inv O)(N:∀ z,x=some z->RD O z v)
  (hz:(qt z O.st).leads (d,ql)->wy c.P (do zJ (.value (<- (do eqGuard op t px (.const (.slice none 0 0)) v (.slice none 0 0); binOp op t v (.slice none 0 0))))) O d ql)
  (h:(qt (CL c op t x z) O.st).leads (d,ql)):wy c.P (do zJ (.value (<- (do eqGuard op t px (.const (.slice none 0 0)) v (.slice none 0 0); binOp op t v (.slice none 0 0))))) O d ql:=by
 unfold CL at h
 split at h
 ·rename_i e hu
  have q1:∀ (x:Option Addr) (l k:Nat),(do eqGuard .eql t px (.const (.slice none 0 0)) (.slice x l k) (.slice none 0 0); binOp .eql t (.slice x l k) (.slice none 0 0):Sem Value).run c.P O.w=.ok (.bool x.isNone) O.w:=λx l k=>by
   have:=run_eql_slice_nil (P:=c.P) O.w t e x l k hu
   simp only[eqGuard]
   simpa using this
  have q2:∀ (x:Option Addr) (l k:Nat),(do eqGuard .neq t px (.const (.slice none 0 0)) (.slice x l k) (.slice none 0 0); binOp .neq t (.slice x l k) (.slice none 0 0):Sem Value).run c.P O.w=.ok (.bool !x.isNone) O.w:=λx l k=>by
   have:=run_neq_slice_nil (P:=c.P) O.w t e x l k hu
   simp only[eqGuard]
   simpa using this
  split at h
  ·unfold bb at h
   obtain⟨rfl,rfl⟩:=h
   cases N _ rfl
   exact wy.pure B (q1 none 0 0) RD.bool
  ·rename_i b
   unfold bb at h
   obtain⟨rfl,rfl⟩:=h
   cases N _ rfl with
   | sj _ _ _ _ hr ht hf =>
    cases b with
    | true=>obtain⟨blk,off,cap,rfl,_⟩:=ht rfl; exact wy.pure B (q1 _ _ _) RD.bool
    | false=>have:=hf rfl; subst this; exact wy.pure B (q1 _ _ _) RD.bool
  ·unfold bb at h
   obtain⟨rfl,rfl⟩:=h
   cases N _ rfl
   exact wy.pure B (q2 none 0 0) RD.bool
  ·rename_i b
   unfold bb at h
   obtain⟨rfl,rfl⟩:=h
   cases N _ rfl with
   | sj _ _ _ _ hr ht hf =>
    cases b with
    | true=>obtain⟨blk,off,cap,rfl,_⟩:=ht rfl; exact wy.pure B (q2 _ _ _) RD.bool
    | false=>have:=hf rfl; subst this; exact wy.pure B (q2 _ _ _) RD.bool
  ·exact hz h
 ·exact hz h
theorem Ld{op:BinOp}{t:Nat}{px:Operand}{x:Option D}{v:Value}{d:Option D}{ql:St}{z:dO}(B:Inv O)(N:∀ z,x=some z->RD O z v)
  (hz:(qt z O.st).leads (d,ql)->wy c.P (do zJ (.value (<- (do eqGuard op t px (.const (.pointer none)) v (.pointer none); binOp op t v (.pointer none))))) O d ql)
  (h:(qt (CK c op t x z) O.st).leads (d,ql)):wy c.P (do zJ (.value (<- (do eqGuard op t px (.const (.pointer none)) v (.pointer none); binOp op t v (.pointer none))))) O d ql:=by
 unfold CK at h
 split at h
 ·rename_i e hu
  have hp:c.P.underlying t=some (.pointer (c.P.pointee t)):=by unfold Program.pointee; rw[hu]
  have q1:∀ (x:Option Addr),(do eqGuard .eql t px (.const (.pointer none)) (.pointer x) (.pointer none); binOp .eql t (.pointer x) (.pointer none):Sem Value).run c.P O.w=.ok (.bool x.isNone) O.w:=λx=>by
   have:=run_eql_pointer_nil (P:=c.P) O.w t x hp
   simp only[eqGuard]
   simpa using this
  have q2:∀ (x:Option Addr),(do eqGuard .neq t px (.const (.pointer none)) (.pointer x) (.pointer none); binOp .neq t (.pointer x) (.pointer none):Sem Value).run c.P O.w=.ok (.bool !x.isNone) O.w:=λx=>by
   have:=run_neq_pointer_nil (P:=c.P) O.w t x hp
   simp only[eqGuard]
   simpa using this
  split at h
  ·unfold bb at h; obtain⟨rfl,rfl⟩:=h; cases N _ rfl; exact wy.pure B (q1 none) RD.bool
  ·unfold bb at h; obtain⟨rfl,rfl⟩:=h; cases N _ rfl; exact wy.pure B (q1 _) RD.bool
  ·unfold bb at h; obtain⟨rfl,rfl⟩:=h; cases N _ rfl; exact wy.pure B (q1 _) RD.bool
  ·unfold bb at h; obtain⟨rfl,rfl⟩:=h; cases N _ rfl; exact wy.pure B (q2 none) RD.bool
  ·unfold bb at h; obtain⟨rfl,rfl⟩:=h; cases N _ rfl; exact wy.pure B (q2 _) RD.bool
  ·unfold bb at h; obtain⟨rfl,rfl⟩:=h; cases N _ rfl; exact wy.pure B (q2 _) RD.bool
  ·exact hz h
 ·exact hz h
theorem GP{t:Nat}{d:Option D}{ql:St}{z:dO}(B:Inv O)(hz:(qt z O.st).leads (d,ql)->wy c.P (do zJ (.value (<- zQ t 0 #[]))) O d ql)
  (h:(qt (VD c t z) O.st).leads (d,ql)):wy c.P (do zJ (.value (<- zQ t 0 #[]))) O d ql:=by
 unfold VD at h
 split at h
 ·exact hz h
 ·rename_i et het
  split at h
  ·rename_i e he
   cases I:bW c et e&&(zeroOf c et e).isSome with
   | false=>rw[I]at h; exact hz h
   | true =>
    rw[I,cond_true]at h
    simp only[zI]at I
    obtain⟨rfl,rfl⟩:=h
    have hu:=yF het
    obtain⟨hs,_⟩:=jW I.1
    have g:=mJ.alloc O.w (.cells #[] et)
    have jJ:(zQ t 0 #[]).run c.P O.w=.ok (.slice (some ⟨O.w.heap.size,0,none⟩) 0 0) (O.w.alloc (.cells #[] et)):=by
     obtain⟨y,hy⟩:=zZ.1 I.2
     obtain⟨i,zv,Co,UP,hi3⟩:=fx (O:=O) hy
     simp[zQ,zH,run_underlying hu,Y,run_sizeOf hs,qH,newRow]
     grind
    exact⟨O.qi _,.value (.slice (some ⟨O.w.heap.size,0,none⟩) 0 0),_,by simp only[zH,jJ,Y]; rfl,.inl rfl,rfl,cK B g,XP B g,λ_ he=>by
     cases he
     exact .sj e [] true _ (.lv e _) (λ_=>⟨_,_,_,rfl,λ_=>rfl⟩) nofun⟩
  ·exact hz h
end
end Go.AM
namespace Go.AM
set_option linter.unusedSectionVars false
variable [yV]
section
variable {c:Ctx} {O:KS}
theorem Vh{places:List (Nat×Nat)}{pf:Nat->Option (Nat×Nat)}(hpf:∀ (i:Nat) p,places[i]? = some p->pf i=some p){F:Operand->Option D}{G:Operand->Value}(hF:∀ x d,F x=some d->RD O d (G x)):∀ (L:List (Nat×Operand)) (cells r:List D) (cs:Array Value),
  rL places (L.map λp=>(p.1,F p.2)) cells=some r->wN O cells cs.toList->(∀ d∈cells,d.one=true) ->
  ∃ mv,qH pf cs (L.map λp=>(p.1,G p.2))=some mv/\wN O r mv.toList/\∀ d∈r,d.one=true
 | [],cells,r,cs,h,hr,ho=>by
  simp only[List.map_nil,rL,Option.some.injEq]at h
  subst h
  exact⟨cs,rfl,hr,ho⟩
 | (i,x)::L,cells,r,cs,h,hr,ho=>by
  simp at h
  cases N:F x with
  | none=>rw[N]at h; simp[rL]at h
  | some d =>
   rw[N]at h
   simp only[rL]at h
   split at h
   ·rename_i off n hp
    cases I : !d.bu&&qL n (xx d).length&&Nat.ble (off+n) cells.length with
    | false=>grind
    | true =>
     rw[I,cond_true]at h
     simp only[zI,Bool.not_eq_true']at I
     obtain⟨⟨h1,M⟩,h3⟩:=I
     have h2':n=(xx d).length:=zF M
     have h3':=V h3
     have J:=hF x d N
     have hfd:=cr J h1
     have IY:(G x).cells.toList.length=n:=by rw[<- hfd.1]; exact h2'.symm
     have hle:off+n<=cs.size:=by have:=hr.1; simp at this; omega
     have hn:=tz hr hfd off n
     obtain⟨mv,g1,g2,g3⟩:=Vh hpf hF L _ r (cs.toList.take off++(G x).cells.toList++cs.toList.drop (off+n)).toArray h (xy) (by
      intro y hy
      simp only[qZ]at hy
      rcases hy with(hy | hy) | hy
      ·grind
      ·exact cq J y hy
      ·exact ho y (xD hy))
     refine⟨mv,?_,g2,g3⟩
     simp
     rw[Ee (hpf _ _ hp) IY hle]
     exact g1
   ·cases h
theorem Iq{t:Nat}{L:List (Nat×Operand)}{F:Operand->Option D}{G:Operand->Value}{d:Option D}{ql:St}(B:Inv O)(hF:∀ x d,F x=some d->RD O d (G x))
  (h:(qt (BZ c t (L.map λp=>(p.1,F p.2))) O.st).leads (d,ql)):wy c.P (do zJ (.value (<- Instr.build t (L.map λp=>(p.1,G p.2)).toArray))) O d ql:=by
 unfold BZ at h
 split at h
 ·rename_i fs hu
  split at h
  ·rename_i z places hz hp
   split at h
   ·rename_i l R
    rw[dr]at h
    obtain⟨rfl,rfl⟩:=h
    obtain⟨i,zv,h1,M,h3⟩:=si hz
    have hzr:=h3.rd O
    obtain⟨mv,g1,g2,g3⟩:=Vh (pf:=(places.toArray[·]?)) (λi p hp=>by simpa using hp) hF L z l zv.cells R (cr hzr rfl) (cq hzr)
    have I:c.P.built t (L.map λp=>(p.1,G p.2))=some mv:=by
     unfold Program.built
     grind
    refine wy.pure B (run_build O.w t _ mv (by simpa using I)) ?_
    have:=RD.agg l mv.toList g2.1 g3 g2.2
    omega
   ·exact absurd h zg
  ·exact absurd h zg
 ·rename_i k e hu
  split at h
  ·rename_i z ie hz hp
   split at h
   ·rename_i l R
    obtain⟨rfl,rfl⟩:=h
    obtain⟨i,zv,h1,M,h3⟩:=si hz
    have hzr:=h3.rd O
    obtain⟨mv,g1,g2,g3⟩:=Vh (pf:=λi=>some (i*ie.size,ie.size)) (λi p hp=>by
     rw[qR]at hp
     cases hr:(List.range k)[i]? with
     | none=>grind
     | some j =>
      rw[hr]at hp
      obtain⟨wL,rfl⟩:=zA.1 hr
      simpa using hp) hF L z l zv.cells R (cr hzr rfl) (cq hzr)
    have I:c.P.built t (L.map λp=>(p.1,G p.2))=some mv:=by
     unfold Program.built
     grind
    refine wy.pure B (run_build O.w t _ mv (by simpa using I)) ?_
    have:=RD.agg l mv.toList g2.1 g3 g2.2
    omega
   ·exact absurd h zg
  ·exact absurd h zg
 ·exact absurd h zg
theorem H7{a:Act}{o:Oper}{p:Operand}(ho:o.op=.nilCheck p){x:Option D}{d:Option D}{ql:St}(B:Inv O)(N:∀ z,x=some z->RD O z (a.eval p))
  (h:(qt (Vc x) O.st).leads (d,ql)):wy c.P (execOp a.eval o) O d ql:=by
 have key:∀ z v,RD O z v->a.eval p=v->(∀ b:Option Addr,v=.pointer b->b≠none)->((∃ b,v=.pointer b)\/∃ g q l,v=.func (.func g) q l)->wy c.P (execOp a.eval o) O (some z) O.st:=by
  intro z v hz hv hn hc
  have:execOp a.eval o=zJ (.value v):=by
   rcases hc with⟨b,rfl⟩ | ⟨g,q,l,rfl⟩
   ·cases b with
    | none=>grind
    | some b=>simp only[execOp,ho,hv]
   ·simp only[execOp,ho,hv]
  rw[this]
  exact wy.val B λ_ he=>by cases he; exact hz
 unfold Vc at h
 split at h
 all_goals try exact absurd h zg
 all_goals
  rw[dr]at h; obtain⟨rfl,rfl⟩:=h
  have hr:=N _ rfl
  generalize hv:a.eval p=v at hr
  refine key _ v hr hv ?_ ?_
  ·intro b I; cases hr<;>first | (cases I<;>nofun) | (rename_i f l vs _ _; obtain⟨g,q,l',e⟩:=Y4 f vs; rw[e]at I; cases I)
  ·cases hr<;>first | exact .inl ⟨_,rfl⟩ | exact .inr (Y4 _ _)
theorem Lc{op:BinOp}{t:Nat}{px:Operand}{x:Option D}{v:Value}{d:Option D}{ql:St}(B:Inv O)(N:∀ z,x=some z->RD O z v)
  (h:(qt (CI c op t x) O.st).leads (d,ql)):wy c.P (do zJ (.value (<- (do eqGuard op t px (.const .nilIface) v .nilIface; binOp op t v .nilIface)))) O d ql:=by
 unfold CI at h
 split at h
 ·rename_i ms hu
  have hm:c.P.underlying t=some (.interface (c.P.methodsAt t)):=by unfold Program.methodsAt; rw[hu]
  have g1:∀ w,(eqGuard op t px (.const .nilIface) .nilIface .nilIface).run c.P w=.ok () w:=λw=>by cases op<;>simp[eqGuard]
  have g2:∀ u y w,(eqGuard op t px (.const .nilIface) (.iface u y) .nilIface).run c.P w=.ok () w:=λu y w=>by cases op<;>simp[eqGuard]
  split at h
  ·unfold bb at h
   obtain⟨rfl,rfl⟩:=h
   cases N _ rfl
   exact wy.pure B (by simp only[zH,g1,Y,run_eql_nil_nil _ _ hm]) RD.bool
  ·unfold bb at h
   obtain⟨rfl,rfl⟩:=h
   cases N _ rfl
   exact wy.pure B (by simp only[zH,g2,Y,run_eql_held_nil _ _ _ _ hm]) RD.bool
  ·unfold bb at h
   obtain⟨rfl,rfl⟩:=h
   cases N _ rfl
   exact wy.pure B (by simp only[zH,g1,Y,run_neq_nil_nil _ _ hm]) RD.bool
  ·unfold bb at h
   obtain⟨rfl,rfl⟩:=h
   cases N _ rfl
   exact wy.pure B (by simp only[zH,g2,Y,run_neq_held_nil _ _ _ _ hm]) RD.bool
  ·exact absurd h zg
 ·exact absurd h zg
theorem Kh{x:Option D}{v:Value}{xt at':Nat}{ok:Bool}{d:Option D}{ql:St}(B:Inv O)(N:∀ z,x=some z->RD O z v)
  (h:(qt (Qb c x at' ok) O.st).leads (d,ql)):wy c.P (do zJ (.value (<- Instr.typeAssert v xt at' ok))) O d ql:=by
 unfold Qb at h
 split at h
 ·exact absurd h zg
 ·exact absurd h zg
 ·rename_i ty hni hu
  split at h
  ·rename_i t e
   cases I:qL t at'&&ok with
   | false=>rw[I]at h; exact absurd h zg
   | true =>
    rw[I,cond_true,dr]at h
    obtain⟨rfl,rfl⟩:=h
    simp only[zI]at I
    have:=zF I.1
    subst this
    obtain rfl:=I.2
    cases N _ rfl with
    | iface _ _ u RQ =>
     refine wy.pure B (v:=.tuple #[u,.bool true]) ?_ ?_
     ·cases ty<;>first | (exact(hni _ rfl).elim) | (simp[Instr.typeAssert,run_underlying hu])
     ·have:=wN.cons RQ (wN.cons (RD.bool (O:=O) (b:=true)) wN.nil)
      exact .eA _ [u,.bool true] this.1 this.2
  ·exact absurd h zg
theorem YJ{t:Nat}{x:Option D}{v:Value}{d:Option D}{ql:St}(B:Inv O)(N:∀ z,x=some z->RD O z v)
  (h:(qt (Xa c t x) O.st).leads (d,ql)):wy c.P (do zJ (.value (<- Instr.makeInterface t v))) O d ql:=by
 unfold Xa at h
 cases hu:c.P.underlying t with
 | none=>rw[hu]at h; exact absurd h zg
 | some u =>
  rw[hu]at h
  cases u<;>simp only at h
  all_goals try exact absurd h zg
  all_goals
   split at h
   ·rw[dr]at h; obtain⟨rfl,rfl⟩:=h
    have hc:c.P.concrete t=true:=by unfold Program.concrete; rw[hu]
    exact wy.pure B (run_makeInterface O.w t v hc) (.iface t _ v (N _ rfl))
   ·exact absurd h zg
theorem z34{e:Ty}{x y:D}{v:Value}{l:List (den e)}(B:Inv O)(N:RD O x v)(h:(Z8 O.st x).leads y)(R:Ft e y=some l):Src O e l v:=by
 rcases Vo B N h with⟨rfl,_⟩ | ⟨e',ys,rfl,hs,_⟩
 ·cases y with
  | qi σ z =>
   obtain⟨he,hz⟩:=we (a:=σ) (b:=.sl e) R
   cases he
   cases hz
   exact D4 N
  | tight e' z ne =>
   obtain⟨he,hz⟩:=we (a:=.sl e') (b:=.sl e) R
   cases he
   cases hz
   exact Wf N
  | wE =>
   simp only[Ft,Option.some.injEq]at R
   subst R
   exact KJ N
  | _=>simp[Ft]at R
 ·obtain⟨he,hz⟩:=we (a:=.sl e') (b:=.sl e) R
  grind
theorem Y7{s t e:Nat}{x:Option D}{v:Value}{d:Option D}{ql:St}(B:Inv O)(N:∀ z,x=some z->RD O z v)(hs:c.P.underlying s=some (.slice e))(ht:c.P.underlying t=some .string)
  (h:(qt (UW c e x) O.st).leads (d,ql)):wy c.P (do zJ (.value (<- convert s t v))) O d ql:=by
 unfold UW at h
 split at h
 ·rename_i z he
  rw[rC]at h
  obtain⟨h,rfl⟩:=h
  obtain⟨y,h1,M⟩:=T.xg.1 h
  split at M
  ·rename_i l R
   cases M
   have Cr:=z34 B (N _ rfl) h1 R
   obtain⟨a,cap,f,rfl,jf,hn,g1,g2⟩:=Cr.ex
   have jJ:(convert s t (.slice a l.length cap)).run c.P O.w=.ok (.string (strOfNums l)) O.w:=by
    cases a with
    | none =>
     obtain⟨rfl,rfl⟩:=hn rfl
     exact run_convert_bytes_nil O.w s e hs he 0 0 t ht
    | some p =>
     rcases g2 p rfl with⟨rfl,rfl⟩ | ⟨hp,_,hc⟩
     ·have h0:(loadCells p 0).run c.P O.w=.ok (([]:List Int).map (zP .u8)).toArray O.w:=by
       rfl
      simp only[List.length_nil]
      rw[run_convert_bytes_string O.w s t e _ 0 0 hs he ht,run_bytesToString O.w _ 0 0 [] h0]
      rfl
     ·obtain⟨blk,o,sp⟩:=p
      subst hp
      refine run_convert_bytes_arg O.w s e hs he blk o l.length cap l rfl (λi hi => ?_) t ht
      have hf:=(g1 i hi).dJ
      have:=hc i hi 0 (.int .u8 l[i]) (xy)
      have e1:o+i*Ty.size (.int .u8)+0=o+i:=by simp[Ty.size]
      grind
   refine wy.pure B jJ ?_
   exact .str
  ·exact M.elim
 ·exact absurd h zg
theorem C5{s t:Nat}{x:Option D}{v:Value}{d:Option D}{ql:St}(B:Inv O)(N:∀ z,x=some z->RD O z v)
  (h:(qt (convertOp c s t x) O.st).leads (d,ql)):wy c.P (do zJ (.value (<- convert s t v))) O d ql:=by
 unfold convertOp at h
 split at h
 ·rename_i e hs ht
  exact Y7 B N hs ht h
 ·rename_i k0 k hs ht
  split at h
  ·rename_i k1 n hk
   have:=kl hk N
   subst this
   obtain⟨rfl,rfl⟩:=h
   exact wy.pure B (by simp[convert,run_underlying hs,run_underlying ht,Conv.intToInt]) RD.int
  ·exact absurd h zg
 ·rename_i hs ht
  split at h
  ·rename_i s' hk
   have:=QE hk N
   subst this
   obtain⟨rfl,rfl⟩:=h
   exact wy.pure B (by simp[convert,run_underlying hs,run_underlying ht]) RD.str
  ·exact absurd h zg
 ·exact absurd h zg
end
end Go.AM
namespace Go.AM
set_option linter.unusedSectionVars false
variable [yV]
section
variable {c:Ctx} {O:KS}
theorem Rn{ty t t':Nat}{s x:Option D}{v u:Value}{d:Option D}{ql:St}(B:Inv O)(hs:∀ z,s=some z->RD O z v)(N:∀ z,x=some z->RD O z u)
  (h:(qt (Iy c t s x) O.st).leads (d,ql)):wy c.P (do zJ (.value (<- Builtin.copy_ #[t,t'] ty #[v,u]))) O d ql:=by
 unfold Iy at h
 split at h
 ·rename_i et het
  split at h
  ·rename_i k b vi k' off len z hu bH
   cases hk:decide (k'=k)with
   | false=>rw[hk]at h; exact absurd h zg
   | true =>
    rw[hk,cond_true]at h
    obtain rfl:k'=k:=uE hk
    simp only[qt]at h
    obtain⟨y,h1,M⟩:=T.xg.1 h
    split at M
    ·rename_i l R
     unfold TO at M
     split at M
     ·rename_i dA e' Vr I
      split at M
      ·rename_i xs Yl
       obtain⟨he,hxx⟩:=we (a:=.sl e') (b:=.sl (.int k')) Yl
       cases he
       obtain rfl:xs=Vr:=hxx
       obtain⟨⟨Cs,GV⟩,M⟩:=M
       cases M
       subst Cs
       have Cr:=z34 B (N _ rfl) h1 R
       obtain⟨a,cap,f,rfl,jf,hn,g1,g2⟩:=Cr.ex
       have hue:=yF het
       have z0Z:(c.P.info? et).map (·.size)=some 1:=bH
       have hrd:=hs _ rfl
       cases hrd with
       | ms _ _ _ _ _ cap0 a0 SZ hcap0 Kt hsp0 hh =>
       have hm:=hh xs I
       have Ku:((zR len l).map (zP k')).length=Nat.min l.length len:=by rw[List.length_map,zU]; exact Nat.min_comm _ _
       have z9A:min len (zS l)=Nat.min l.length len:=Nat.min_comm _ _
       by_cases h0:min len (zS l)=0
       ·-- nothing goes over
        have jJ:=run_copy_none (P:=c.P) O.w t t' ty et a0 a len cap0 l.length cap hue z0Z (by rw[<- z9A]; exact h0)
        have U0:yn off len xs l=xs:=by
         unfold yn
         have ht:zR len l=[]:=zM (by rw[zU]; exact h0)
         rw[ht,h0,List.append_nil,xH,List.take_append_drop]
        have nQ:O.st.set b (.arr vi (.int k') (yn off len xs l))=O.st:=by
         rw[U0]
         obtain⟨wL,hge⟩:=zA.1 I
         rw[<- hge,List.set_getElem_self]
        rw[nQ]
        refine⟨O,.value (goInt 0),goInt 0,by simp[jJ],.inl rfl,rfl,B,Ext.refl O,λd' dY => ?_⟩
        cases dY
        rw[h0]
        exact RD.int
       ·obtain⟨hle,hm⟩:=hm
        rcases hm with⟨hz,_⟩ | ⟨blk,n,o,zqB,hp,hv,RF,hc2,hc3⟩
        ·omega
        ·cases hv
         have ho:o=off:=by
          rcases hc3 with h | h
          ·omega
          ·simpa[Ty.size]using h
         subst ho
         have hl0:l≠[]:=λh=>h0 (by rw[h]; simp)
         obtain⟨p,rfl⟩:∃ p,a=some p:=by
          cases a with
          | none=>grind
          | some p=>simp
         rcases g2 p rfl with⟨h,_⟩ | ⟨Wq,_,hc⟩
         ·grind
         obtain⟨pb,po,psp⟩:=p
         simp only at Wq
         subst Wq
         obtain⟨_,z0F⟩:=B.blk b _ I
         rcases z0F with⟨_,hpn⟩ | ⟨pB,n',Wm,T,k1,k2,k3,k4,kr,g,k5⟩
         ·grind
         rw[hp]at k1
         cases k1
         have hn':zS xs<=Wm.size:=by rw[k3]; simpa[Ty.size]using k4
         have ep:∀ (i:Nat) (hi:i<zS xs),Wm[i]? = some (.int k' xs[i]):=by
          intro i hi
          obtain⟨q1,q2⟩:=k5 i hi
          have:=q2 0 (.int k' xs[i]) (by rw[q1.dJ]; rfl)
          simpa[Ty.size]using this
         have zne:((zR len l).map (zP k')).length<=len:=by simp; omega
         have jJ:=run_copy_row c.P O.w t t' ty et blk o len cap0 ⟨pb,po,none⟩ l.length cap Wm T ((zR len l).map (zP k')) hue z0Z k2 Ku
          (λj w hj=>by
           have MK:j<(zR len l).length:=by have:=(zA.1 hj).1; simpa using this
           have T4:j<l.length:=by simp at MK; omega
           have e1:w=.int k' l[j]:=by
            grind
           have:=hc j T4 0 (.int k' l[j]) (by rw[(g1 j T4).dJ]; rfl)
           have zbn:(⟨pb,po,none⟩:Addr).add j=⟨pb,po+j,none⟩:=by unfold Addr.add; split<;>simp_all
           rw[zbn,e1]
           simpa[Ty.size]using this)
          (Z) (λw hw=>by obtain⟨_,_,rfl⟩:=qX.1 hw; rfl)
         have hlen:zS (yn o len xs l)=zS xs:=by
          simp only[yn,zK,zU,qK]
          omega
         have Ka:Alike (.arr vi (.int k') xs) (.arr vi (.int k') (yn o len xs l)):=⟨rfl,zE _,λ_=>hlen.symm⟩
         let mv:Array Value:=(Wm.toList.take o++(zR len l).map (zP k')++Wm.toList.drop (o+((zR len l).map (zP k')).length)).toArray
         have GU:mv.size=n:=by
          simp only[mv,zY,zK,zU,qK,qG,List.length_map]at *
          omega
         have zfC:∀ (i:Nat) (hi:i<zS (yn o len xs l)),mv[i]? = some (.int k' (yn o len xs l)[i]):=by
          intro i hi
          have h1:=Vp (cs:=Wm.toList) (us:=(zR len l).map (zP k')) (o:=o) (n:=((zR len l).map (zP k')).length) rfl (by simp; simp at zne; omega) i
          have e1:mv[i]? = (Wm.toList.take o++(zR len l).map (zP k')++Wm.toList.drop (o+((zR len l).map (zP k')).length))[i]? := by simp[mv]
          have hm2:(List.map (zP k') (zR len l)).length=min len (zS l):=qz
          rw[hm2]at h1 e1
          have e2:(yn o len xs l)[i]? = if i<o then xs[i]? else if i<o+min len (zS l)then(zR len l)[i-o]? else xs[i]? := by
           unfold yn
           have hto:(zR o xs).length=o:=by simp; omega
           by_cases q1:i<o
           ·rw[if_pos q1,qI,zG (Z),List.getElem?_take,if_pos q1]
           ·rw[if_neg q1,qI,qC (Z),hto]
            by_cases q2:i<o+min len (zS l)
            ·rw[if_pos q2,zG (by simp; omega)]
            ·rw[if_neg q2,qC (by simp; omega),List.getElem?_drop,zU]
             congr 1; omega
          have e3:(yn o len xs l)[i]? = some (yn o len xs l)[i]:=zN hi
          rw[e1,h1]
          rw[e2]at e3
          have hix:i<zS xs:=by rw[<- hlen]; exact hi
          split
          ·rename_i q1
           rw[if_pos q1,zN hix]at e3
           rw[zV,ep i hix,Option.some.inj e3]
          ·rename_i q1
           rw[if_neg q1]at e3
           split
           ·rename_i q2
            rw[if_pos q2]at e3
            rw[qR,e3]
            rfl
           ·rename_i q2
            rw[if_neg q2,zN hix]at e3
            rw[zV,ep i hix,Option.some.inj e3]
         refine⟨O.upd b blk mv (.arr vi (.int k') (yn o len xs l)),.value (goInt (((zR len l).map (zP k')).length:Nat)),goInt (((zR len l).map (zP k')).length:Nat),(by rw[zH,jJ]; rfl),.inl rfl,rfl,UK B hp I Ka ?_,UJ B hp I Ka,λd' dY => ?_⟩
         ·refine⟨by simp[Ty.size],.inr ⟨blk,n,mv,T,hp,setRow_heap O.w blk Wm mv T (0,0) k2,GU,by simp[Ty.size]; omega,kr,λi=>[.int k' ((yn o len xs l).getD i 0)],λi hi => ?_⟩⟩
          have hg:(yn o len xs l).getD i 0=(yn o len xs l)[i]:=by simp[List.getD_eq_getElem?_getD,zN hi]
          show Rc _ _ (.int k') _ [zP k' ((yn o len xs l).getD i 0)]/\∀ (j:Nat) (v:Value),[zP k' ((yn o len xs l).getD i 0)][j]? = some v->_
          rw[hg]
          refine⟨.int k' _,λj w hj => ?_⟩
          cases j with
          | zero =>
           simp at hj
           subst hj
           simpa[Ty.size]using zfC i hi
          | succ j=>simp at hj
         ·cases dY
          rw[z9A,<- Ku]
          exact RD.int
      ·exact M.elim
     ·exact M.elim
    ·exact M.elim
  ·exact absurd h zg
 ·exact absurd h zg
end
end Go.AM
namespace Go.AM
set_option linter.unusedSectionVars false
variable [yV]
def gv(P:Program)(g:Nat)(args:Array Value)(w:World)(hl:Ending->World->Prop):Prop :=
 ((callFunc g args).run P w=.ok (.enter g args) w/\Calls P g args w hl)\/∃ v w',(callFunc g args).run P w=.ok (.value v) w'/\hl (.returned v) w'
theorem gv.mono{P:Program}{g:Nat}{args:Array Value}{w:World}{hl R':Ending->World->Prop}(h:gv P g args w hl)(hr:∀ e w,hl e w->R' e w):gv P g args w R':=by
 rcases h with⟨h1,M⟩ | ⟨v,w',h1,M⟩
 ·exact .inl ⟨h1,M.mono hr⟩
 ·exact .inr ⟨v,w',h1,hr _ _ M⟩
def jc(O:KS):GF->Ending->Prop
 | .ret ds,e=>∃ v,e=.returned v/\RD O (eI ds) v
 | .hH d,e=>∃ v,e=.panicked [{ v,recovered:=false }]/\RD O d v
abbrev Te:=Nat->Array Value->World->(Ending->World->Prop)->Prop
def zlJ(Dr:Te)(g:Nat)(S:List D->St->T (GF×St)):Prop :=
 ∀ (O:KS) (args:List D) (xb:List Value) (rs:GF) (ql:St),(S args O.st).leads (rs,ql)->Inv O->wN O args xb ->
  Dr g xb.toArray O.w λe w'=>∃ E:KS,E.w=w'/\E.st=ql/\Inv E/\Ext O E/\jc E rs e
def Dj(P:Program)(g:Nat)(S:List D->St->T (GF×St)):Prop :=
 ∀ (O:KS) (args:List D) (xb:List Value) (rs:GF) (ql:St),(S args O.st).leads (rs,ql)->Inv O->wN O args xb ->
  gv P g xb.toArray O.w λe w'=>∃ E:KS,E.w=w'/\E.st=ql/\Inv E/\Ext O E/\jc E rs e
section
variable {c:Ctx} {O:KS}
theorem RD.weaken{JS:Nat->Prop}(hs:∀ k,O.ok k->JS k){d:D}{v:Value}(h:RD O d v):RD { O with ok:=JS } d v:=by
 have U0:I4 O.w O.w O.ok JS:=λk hk=>⟨hs k hk,rfl⟩
 induction h with
 | qi τ y cs h=>exact .qi τ y cs (h.mono U0)
 | sj e l b v h ht hf=>exact .sj e l b v (h.mono U0) ht hf
 | vy e a=>exact .vy e a
 | tight e l ne blk off f jX uZ h hc=>exact .tight e l ne blk off f jX (hs _ uZ) (λi hi=>(h i hi).mono U0) hc
 | wE=>exact .wE
 | gS=>exact .gS
 | v8=>exact .v8
 | yZ=>exact .yZ
 | uS=>exact .uS
 | WG v h=>exact .WG v h
 | mM T=>exact .mM T
 | nh b T d J=>exact .nh b T d J
 | ni b T blk n d J h=>exact .ni b T blk n d J h
 | yJ b blk n d J h=>exact .yJ b blk n d J h
 | ptr b off blk n d J h=>exact .ptr b off blk n d J h
 | vz τ y cs blk off uZ h hc=>exact .vz τ y cs blk off (hs _ uZ) (h.mono U0) hc
 | gD b vi e idx off blk o I h=>exact .gD b vi e idx off blk o I h
 | ms b vi e off len cap a I jf ha Wq h=>exact .ms b vi e off len cap a I jf ha Wq h
 | wg f l vs R h ih=>exact .wg f l vs R ih
 | agg l vs R ho h ih=>exact .agg l vs R ho ih
 | eA l vs R h ih=>exact .eA l vs R ih
 | iface t d v h ih=>exact .iface t d v ih
theorem RD.free{E:KS}(hw:E.w=O.w)(uZ:E.ok=O.ok)(vU:O.st=[]){d:D}{v:Value}(h:RD O d v):RD E d v:=by
 obtain⟨w',JS,ph',ql⟩:=E
 subst hw uZ
 induction h with
 | qi τ y cs h=>exact .qi τ y cs h
 | sj e l b v h ht hf=>exact .sj e l b v h ht hf
 | vy e a=>exact .vy e a
 | tight e l ne blk off f jX uZ h hc=>exact .tight e l ne blk off f jX uZ h hc
 | wE=>exact .wE
 | gS=>exact .gS
 | v8=>exact .v8
 | yZ=>exact .yZ
 | uS=>exact .uS
 | WG v h=>exact .WG v h
 | mM T=>exact .mM T
 | nh b T d J=>grind
 | ni b T blk n d J h=>grind
 | yJ b blk n d J h=>grind
 | ptr b off blk n d J h=>grind
 | vz τ y cs blk off uZ h hc=>exact .vz τ y cs blk off uZ h hc
 | gD b vi e idx off blk o I h=>rcases I with I | ⟨_,_,_,I,_⟩ <;> · rw[vU]at I; simp at I
 | ms b vi e off len cap a I jf ha Wq h=>rcases I with I | ⟨_,_,_,I,_⟩ <;> · rw[vU]at I; simp at I
 | wg f l vs R h ih=>exact .wg f l vs R ih
 | agg l vs R ho h ih=>exact .agg l vs R ho ih
 | eA l vs R h ih=>exact .eA l vs R ih
 | iface t d v h ih=>exact .iface t d v ih
theorem Rc.scalar{w w':World}{ok JS:Nat->Prop}{τ:Ty}{x:den τ}{cs:List Value}(h:Rc w ok τ x cs)(ht:τ.scalar=true):Rc w' JS τ x cs:=by
 induction h with
 | int k n=>exact .int k n
 | bool b=>exact .bool b
 | str s=>exact .str s
 | lv=>cases ht
 | sl=>cases ht
 | nil=>exact .nil
 | cons a b x y c1 c2 h1 M i1 i2=>simp only[Ty.scalar,zI]at ht; exact .cons a b x y c1 c2 (i1 ht.1) (i2 ht.2)
 | expr=>cases ht
theorem zd1{e:Ty}{ys:List (den e)}{v:Value}(h:Src O e ys v):Rc O.w (Ta O) (.sl e) ys [v]:=by
 obtain⟨a,cap,f,rfl,jf,hn,h1,M⟩:=h.ex
 cases a with
 | none=>obtain⟨rfl,rfl⟩:=hn rfl; exact .lv e none
 | some p =>
  rcases M p rfl with⟨rfl,rfl⟩ | ⟨hp,uZ,hc⟩
  ·exact .lv e _
  obtain⟨blk,o,sp⟩:=p
  subst hp
  exact .sl e ys blk o cap f uZ jf (λi hi=>(h1 i hi).mono λk hk=>⟨.inl hk,rfl⟩) hc
def KS.all(O:KS):KS:={ O with ok:=Ta O }
theorem RD.all{d:D}{v:Value}(h:RD O d v):RD O.all d v:=h.weaken λ_ hk=>.inl hk
theorem wN.all{l:List D}{vs:List Value}(h:wN O l vs):wN O.all l vs:=⟨h.1,λi h1 M=>(h.2 i h1 M).all⟩
theorem Bu{x y:D}{v:Value}(B:Inv O)(N:RD O x v)(h:(Z8 O.st x).leads y):RD O.all y v/\(x.one=true->y.one=true)/\(x.bu=false->y.bu=false):=by
 rcases Vo B N h with⟨rfl,_⟩ | ⟨e,ys,rfl,hs,_⟩
 ·exact⟨N.all,id,id⟩
 ·exact⟨RD.tV rfl (zd1 hs),λ_=>rfl,λ_=>rfl⟩
theorem Bx(B:Inv O):∀ {l r:List D} {vs:List Value},wN O l vs->(∀ d∈l,d.one=true)->(Bw O.st l).leads r->wN O.all r vs/\∀ d∈r,d.one=true
 | [],r,vs,h,_,hs=>by cases hs; rw[h.wb]; exact⟨.nil,nofun⟩
 | d::l,r,vs,h,ho,hs=>by
  simp only[Bw,T.xg]at hs
  obtain⟨x,N,l',R,rfl⟩:=hs
  obtain⟨v,us,rfl,h1,M⟩:=h.cons_inv
  obtain⟨g1,g2,_⟩:=Bu B h1 N
  obtain⟨k1,k2⟩:=Bx B M (λd J=>ho d (xC _ J)) R
  refine⟨.cons g1 k1,λd J => ?_⟩
  grind
theorem z2X{x y:D}{v:Value}(B:Inv O)(N:RD O x v)(h:(snap O.st x).leads y):RD O.all y v:=by
 cases x with
 | agg l =>
  simp only[snap,T.xg]at h
  obtain⟨r,hr,rfl⟩:=h
  cases N with
  | agg _ vs R ho hh =>
   obtain⟨g1,g2⟩:=Bx B (⟨R,hh⟩:wN O l vs) ho hr
   exact .agg r vs g1.1 g2 g1.2
 | _=>exact(Bu B N h).1
theorem VH{τ:Ty}{d:D}{x:den τ}{v:Value}(B:Inv O)(J:RD O d v)(h:(VG O.st τ d).leads x):RD O.all (.qi τ x) v:=by
 simp only[VG,T.xg,T.yp]at h
 obtain⟨y,h1,M⟩:=h
 exact mr (z2X B J h1) M
theorem Bv{x y:D}(h:(Z8 [] x).leads y):y=x:=by
 cases x with
 | ms=>simp[Z8,T.leads]at h
 | _=>exact h.symm
theorem By:∀ {l r:List D},(Bw [] l).leads r->r=l
 | [],_,h=>h.symm
 | d::l,r,h=>by
  simp only[Bw,T.xg]at h
  obtain⟨x,N,l',R,rfl⟩:=h
  rw[Bv N,By R]
theorem z2Y{x y:D}(h:(snap [] x).leads y):y=x:=by
 cases x with
 | agg l =>
  simp only[snap,T.xg]at h
  obtain⟨r,hr,rfl⟩:=h
  rw[By hr]
 | _=>exact Bv h
theorem DY{τ:Ty}{d:D}{x:den τ}{v:Value}(J:RD O d v)(h:(VG [] τ d).leads x):RD O (.qi τ x) v:=by
 simp only[VG,T.xg,T.yp]at h
 obtain⟨y,h1,M⟩:=h
 rw[z2Y h1]at M
 exact mr J M
def Jy:D->Bool | .qi .. | .vz .. => true | _=>false
def My:D->Bool
 | .wg _ l=>l.all Jy
 | d=>Jy d
theorem z5c{d:D}(h:Jy d=true):My d=true:=by cases d<;>first | exact h | cases h
theorem Y6{st:St}{τ:Ty}{d y:D}(h:(Qh st τ d).leads y):Jy y=true:=by
 unfold Qh at h
 split at h
 ·split at h
  ·cases h; rfl
  ·exact h.elim
 ·split at h
  ·split at h
   ·cases h; rfl
   ·exact h.elim
  ·exact h.elim
 ·exact h.elim
theorem Ht{τ:Ty}{d y:D}{v:Value}(B:Inv O)(J:RD O d v)(h:(Qh O.st τ d).leads y):RD O.all y v:=by
 unfold Qh at h
 split at h
 ·split at h
  ·rename_i x z hz
   cases h
   obtain⟨e,rfl⟩:=we hz
   cases e
   exact J.all
  ·exact h.elim
 ·rename_i b off
  split at h
  ·rename_i d' I
   split at h
   ·rename_i z hz
    cases h
    cases ho:qL off 0 with
    | false=>grind
    | true =>
     have:=zF ho
     subst this
     obtain⟨blk,n,cs,t,g1,g2,g3,g4,g5⟩:=(B.blk b _ I:kO O b d').cells (by cases d'<;>first | rfl | cases hz)
     cases J with
     | ptr _ _ pB n' d1 hd1 hp =>
      rw[g1]at hp
      cases hp
      have uZ:Ta O blk:=.inr ⟨b,n,g1⟩
      have ht:d'.bu=false:=by
       cases d' with
       | eA l=>simp[oo,D.bu]at hz
       | _=>rfl
      have Dt:=Xm hz g4 g5.1 ht
      refine .vz τ z cs.toList blk 0 uZ (Dt.mono λk hk=>⟨.inl hk,rfl⟩) λj v hj => ?_
      show O.w.cell? _=_
      rw[XV g2,qE]
      grind
   ·exact h.elim
  ·exact h.elim
 ·exact h.elim
theorem Hu{τ:Ty}{d y:D}{v:Value}(J:RD O d v)(h:(Qh [] τ d).leads y):RD O y v:=by
 unfold Qh at h
 split at h
 ·split at h
  ·rename_i x z hz
   cases h
   obtain⟨e,rfl⟩:=we hz
   grind
  ·exact h.elim
 ·rename_i b off
  split at h
  ·grind
  ·exact h.elim
 ·exact h.elim
theorem DV{st:St}{p:UQ}{d y:D}(h:(QK st p d).leads y):Jy y=true:=by
 cases p with
 | rp τ=>exact Y6 h
 | im τ=>simp only[QK,T.xg]at h; obtain⟨x,_,rfl⟩:=h; rfl
theorem Iw{p:UQ}{d y:D}{v:Value}(B:Inv O)(J:RD O d v)(h:(QK O.st p d).leads y):RD O.all y v:=by
 cases p with
 | rp τ=>exact Ht B J h
 | im τ=>simp only[QK,T.xg]at h; obtain⟨x,N,rfl⟩:=h; exact VH B J N
theorem Ix{p:UQ}{d y:D}{v:Value}(J:RD O d v)(h:(QK [] p d).leads y):RD O y v:=by
 cases p with
 | rp τ=>exact Hu J h
 | im τ=>simp only[QK,T.xg]at h; obtain⟨x,N,rfl⟩:=h; exact DY J N
theorem VF{st:St}:∀ {ps:List UQ} {ds r:List D},(mu st ps ds).leads r->∀ d∈r,Jy d=true
 | [],[],r,hs=>by cases hs; nofun
 | p::ps,d::ds,r,hs=>by
  simp only[mu,T.xg]at hs
  obtain⟨x,N,l,R,rfl⟩:=hs
  intro d' dY
  rcases xG.1 dY with rfl | dY
  ·exact DV N
  ·exact VF R d' dY
 | [],_::_,_,hs=>hs.elim
 | _::_,[],_,hs=>hs.elim
theorem Jv(B:Inv O):∀ {ps:List UQ} {ds r:List D} {vs:List Value},wN O ds vs->(mu O.st ps ds).leads r->wN O.all r vs
 | [],[],r,vs,h,hs=>by cases hs; rw[h.wb]; exact .nil
 | p::ps,d::ds,r,vs,h,hs=>by
  simp only[mu,T.xg]at hs
  obtain⟨x,N,l,R,rfl⟩:=hs
  obtain⟨v,us,rfl,h1,M⟩:=h.cons_inv
  exact .cons (Iw B h1 N) (Jv B M R)
 | [],_::_,_,_,_,hs=>hs.elim
 | _::_,[],_,_,_,hs=>hs.elim
theorem Jw:∀ {ps:List UQ} {ds r:List D} {vs:List Value},wN O ds vs->(mu [] ps ds).leads r->wN O r vs
 | [],[],r,vs,h,hs=>by cases hs; rw[h.wb]; exact .nil
 | p::ps,d::ds,r,vs,h,hs=>by
  simp only[mu,T.xg]at hs
  obtain⟨x,N,l,R,rfl⟩:=hs
  obtain⟨v,us,rfl,h1,M⟩:=h.cons_inv
  exact .cons (Ix h1 N) (Jw M R)
 | [],_::_,_,_,_,hs=>hs.elim
 | _::_,[],_,_,_,hs=>hs.elim
theorem WN{st:St}{p:Vu}{d y:D}(h:(DW st p d).leads y):(∃ τ x,p=.ty τ/\(VG st τ d).leads x/\y=.qi τ x)\/(∃ τ,p=.rp τ/\(Qh st τ d).leads y) \/
  ∃ f caps l l',p=.wg f caps/\d=.wg f l/\(mu st caps l).leads l'/\y=.wg f l':=by
 cases p with
 | ty τ =>
  have h':((VG st τ d).bind λx=>T.ret (D.qi τ x)).leads y:=by cases d<;>exact h
  simp only[T.xg]at h'
  obtain⟨x,N,rfl⟩:=h'
  grind
 | rp τ=>exact .inr (.inl ⟨τ,rfl,by cases d<;>exact h⟩)
 | wg f caps =>
  cases d with
  | wg f' l =>
   simp only[DW]at h
   cases I:qL f f' with
   | false=>rw[I]at h; exact h.elim
   | true =>
    rw[I,cond_true,T.xg]at h
    obtain⟨l',R,rfl⟩:=h
    have:=zF I
    grind
  | _=>exact h.elim
theorem Rm{st:St}{p:Vu}{d y:D}(h:(DW st p d).leads y):My y=true:=by
 rcases WN h with⟨τ,x,_,_,rfl⟩ | ⟨τ,_,h⟩ | ⟨f,caps,l,l',_,_,h',rfl⟩
 ·rfl
 ·exact z5c (Y6 h)
 ·exact qU.2 (VF h')
theorem TJ{p:Vu}{d y:D}{v:Value}(B:Inv O)(J:RD O d v)(h:(DW O.st p d).leads y):RD O.all y v:=by
 rcases WN h with⟨τ,x,_,N,rfl⟩ | ⟨τ,_,h⟩ | ⟨f,caps,l,l',_,rfl,h',rfl⟩
 ·exact VH B J N
 ·exact Ht B J h
 ·cases J with
  | wg _ _ vs R hh =>
   have:=Jv B (⟨R,hh⟩:wN O l vs) h'
   exact .wg f l' vs this.1 this.2
theorem TL{p:Vu}{d y:D}{v:Value}(J:RD O d v)(h:(DW [] p d).leads y):RD O y v:=by
 rcases WN h with⟨τ,x,_,N,rfl⟩ | ⟨τ,_,h⟩ | ⟨f,caps,l,l',_,rfl,h',rfl⟩
 ·exact DY J N
 ·exact Hu J h
 ·cases J with
  | wg _ _ vs R hh =>
   have:=Jw (⟨R,hh⟩:wN O l vs) h'
   exact .wg f l' vs this.1 this.2
theorem WO{st:St}:∀ {ps:List Vu} {ds r:List D},(Qg st ps ds).leads r->∀ d∈r,My d=true
 | [],[],r,hs=>by cases hs; nofun
 | p::ps,d::ds,r,hs=>by
  simp only[Qg,T.xg]at hs
  obtain⟨x,N,l,R,rfl⟩:=hs
  intro d' dY
  rcases xG.1 dY with rfl | dY
  ·exact Rm N
  ·exact WO R d' dY
 | [],_::_,_,hs=>hs.elim
 | _::_,[],_,hs=>hs.elim
theorem Hs(B:Inv O):∀ {ps:List Vu} {ds r:List D} {vs:List Value},wN O ds vs->(Qg O.st ps ds).leads r->wN O.all r vs
 | [],[],r,vs,h,hs=>by cases hs; rw[h.wb]; exact .nil
 | p::ps,d::ds,r,vs,h,hs=>by
  simp only[Qg,T.xg]at hs
  obtain⟨x,N,l,R,rfl⟩:=hs
  obtain⟨v,us,rfl,h1,M⟩:=h.cons_inv
  exact .cons (TJ B h1 N) (Hs B M R)
 | [],_::_,_,_,_,hs=>hs.elim
 | _::_,[],_,_,_,hs=>hs.elim
theorem UU:∀ {ps:List Vu} {ds r:List D} {vs:List Value},wN O ds vs->(Qg [] ps ds).leads r->wN O r vs
 | [],[],r,vs,h,hs=>by cases hs; rw[h.wb]; exact .nil
 | p::ps,d::ds,r,vs,h,hs=>by
  simp only[Qg,T.xg]at hs
  obtain⟨x,N,l,R,rfl⟩:=hs
  obtain⟨v,us,rfl,h1,M⟩:=h.cons_inv
  exact .cons (TL h1 N) (UU M R)
 | [],_::_,_,_,hs,h=>h.elim
 | _::_,[],_,_,hs,h=>h.elim
def KS.bare(O:KS)(ok:Nat->Prop):KS:=⟨O.w,ok,[],[]⟩
theorem KX{ok:Nat->Prop}(B:Inv O)(hs:∀ k,O.ok k->ok k)(h:∀ k,ok k->k<O.w.heap.size):Inv (O.bare ok) :=
 ⟨rfl,h,λb blk n h=>by simp[KS.bare]at h,λb b' blk n n' h=>by nofun,λb x h=>by simp[KS.bare]at h,B.gl.mono λk hk=>⟨hs k hk,rfl⟩⟩
theorem Zl{ok:Nat->Prop}{d:D}{v:Value}(hi:Jy d=true)(h:RD { O with ok:=ok } d v):RD (O.bare ok) d v:=by
 cases d with
 | qi τ x=>obtain⟨cs,h1,rfl⟩:=RD.cK h; exact .qi τ x cs h1
 | vz τ x=>cases h with | vz _ _ cs blk off uZ h hc=>exact .vz τ x cs blk off uZ h hc
 | _=>cases hi
theorem Hv{ok:Nat->Prop}{d:D}{v:Value}(hi:My d=true)(h:RD { O with ok:=ok } d v):RD (O.bare ok) d v:=by
 cases d with
 | wg f l =>
  cases h with
  | wg _ _ vs R hh=>exact .wg f l vs R λi h1 M=>Zl (qU.1 hi _ (qA h1)) (hh i h1 M)
 | qi τ x=>exact Zl hi h
 | vz τ x=>exact Zl hi h
 | _=>cases hi
theorem DL{κ1:KS}{ok:Nat->Prop}(B:Inv O)(Vw:Inv κ1)(vU:κ1.st=[])(N:Ext (O.bare ok) κ1)(JS:Nat->Prop)(h1:∀ k,O.ok k->JS k)(M:∀ k,JS k->O.ok k\/O.w.heap.size<=k)(h3:∀ k,JS k->k<κ1.w.heap.size) :
  Ext O { O with w:=κ1.w,ok:=JS }/\Inv { O with w:=κ1.w,ok:=JS }:=by
 have hfr:∀ k,k<O.w.heap.size->κ1.w.heap[k]? = O.w.heap[k]? := λk hk=>N.frame k hk λb n h=>by simp[KS.bare]at h
 have bH:O.w.heap.size<=κ1.w.heap.size:=N.size
 have he:Ext O { O with w:=κ1.w,ok:=JS }:=⟨N.os,N.tape,N.output,bH,λk hk=>⟨h1 k hk,hfr k (B.bI k hk)⟩,λk hk=>(M k hk).elim .inl (λh=>.inr (.inl h)),λ_ _ _ h=>.inl h,λb d h=>⟨⟨d,h⟩,rfl⟩,
  λb v0 e xs h=>.inr ⟨v0,xs,h,zE _,λ_=>⟨rfl,rfl⟩⟩,λ_ h=>h,zE _,λk hk _=>hfr k hk⟩
 refine⟨he,B.len,h3,λb blk n h => ?_,B.inj,λb x h=>(B.blk b x h).mono he rfl λblk n h=>hfr _ (B.apart b blk n h).1,B.gl.mono he.same⟩
 obtain⟨g1,g2⟩:=B.apart b blk n h
 grind
theorem Rj{g:Nat}{args:List D}{xb:List Value}{d:Option D}{ql:St}(hs:Dj c.P g (c.fn g))(B:Inv O)(ha:wN O args xb)
  (h:(qt (match c.sig g args with | some s=>eb c g s args | none=>sr c g args) O.st).leads (d,ql)) :
  gv c.P g xb.toArray O.w λe w'=>∃ (E:KS) (v:Value),E.w=w'/\E.st=ql/\Inv E/\Ext O E/\e=.returned v/\∀ d',d=some d'->RD E d' v:=by
 split at h
 ·rename_i s RN
  unfold eb at h
  cases hm:(!(args.any Jj))with
  | true =>
   rw[hm,cond_true,kL]at h
   obtain⟨h,rfl⟩:=h
   simp only[T.xg]at h
   obtain⟨l,R,⟨rs,dz⟩,hc,hr⟩:=h
   have fc:=UU ha R
   have I:wN (O.bare O.ok) l xb:=⟨fc.1,λi h1 M=>Hv (WO R _ (qA h1)) (fc.2 i h1 M)⟩
   refine(hs (O.bare O.ok) l xb rs dz hc (KX B (λ_ h=>h) B.bI) I).mono ?_
   rintro e w' ⟨κ1,rfl,vU,Vw,N,he⟩
   unfold z2P at hr
   split at hr
   ·rename_i ds heq
    cases heq
    cases hr
    obtain⟨v,rfl,hv⟩:=he
    obtain⟨hE,hI'⟩:=DL B Vw vU N κ1.ok (λk hk=>(N.same k hk).1) (λk hk=>by
     rcases N.fresh k hk with h | h | ⟨b,n,h⟩
     ·exact .inl h
     ·exact .inr h
     ·simp[KS.bare]at h) Vw.bI
    exact⟨{ O with w:=κ1.w,ok:=κ1.ok },v,rfl,rfl,hI',hE,rfl,λd' dY=>by cases dY; exact RD.free (O:=κ1) (E:={ O with w:=κ1.w,ok:=κ1.ok }) rfl rfl vU hv⟩
   ·exact hr.elim
  | false =>
   rw[hm,cond_false,rC]at h
   obtain⟨h,rfl⟩:=h
   simp only[T.xg]at h
   obtain⟨l,R,⟨rs,dz⟩,hc,hr⟩:=h
   have fc:=Hs B ha R
   have I:wN (O.bare (Ta O)) l xb:=⟨fc.1,λi h1 M=>Hv (WO R _ (qA h1)) (fc.2 i h1 M)⟩
   have wL:∀ k,Ta O k->k<O.w.heap.size:=by
    rintro k (hk | ⟨b,n,hk⟩)
    ·exact B.bI k hk
    ·exact(B.apart b k n hk).1
   refine(hs (O.bare (Ta O)) l xb rs dz hc (KX B (λ_ h=>.inl h) wL) I).mono ?_
   rintro e w' ⟨κ1,rfl,vU,Vw,N,he⟩
   unfold Wa at hr
   split at hr
   ·rename_i ds heq
    cases heq
    cases ZI:ds.all Wd with
    | false=>rw[ZI]at hr; exact hr.elim
    | true =>
     rw[ZI,cond_true]at hr
     cases hr
     obtain⟨v,rfl,hv⟩:=he
     obtain⟨hE,hI'⟩:=DL B Vw vU N O.ok (λk hk=>hk) (λk hk=>.inl hk) (λk hk=>qO (B.bI k hk) N.size)
     refine⟨{ O with w:=κ1.w,ok:=O.ok },v,rfl,rfl,hI',hE,rfl,λd' dY => ?_⟩
     cases dY
     have one:∀ d u,Wd d=true->RD κ1 d u->RD { O with w:=κ1.w,ok:=O.ok } d u:=by
      intro d u J hu
      cases d<;>simp[Wd]at J
      obtain⟨cs,h1,rfl⟩:=RD.cK hu
      exact .qi _ _ cs (h1.scalar J)
     have H0:=qU.1 ZI
     unfold eI at hv ⊢
     split at hv
     ·exact one _ _ (H0 _ (qz)) hv
     ·rename_i jX
      cases hv with
      | eA _ vs R hh=>exact .eA ds vs R λi h1 M=>one _ _ (H0 _ (qA h1)) (hh i h1 M)
   ·exact hr.elim
 ·unfold sr at h
  simp only[qt,T.xg]at h
  obtain⟨⟨rs,dz⟩,hc,hr⟩:=h
  refine(hs O args xb rs dz hc B ha).mono ?_
  rintro e w' ⟨κ1,rfl,vU,Vw,N,he⟩
  cases rs with
  | hH p=>exact hr.elim
  | ret ds =>
   cases hr
   obtain⟨v,rfl,hv⟩:=he
   exact⟨κ1,v,rfl,vU,Vw,N,rfl,λd' dY=>by cases dY; exact hv⟩
end
end Go.AM