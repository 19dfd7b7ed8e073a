/-
  The abstract machine, part B: texts of our own, the same for each claim.
-/
import Derived.Test.YtjklmealdnfhfaaGreatDoorAmA
import Derived.Lib.AppendStr
import Derived.Maps.OwnSet
import Derived.Lib.LazyBuf
import Derived.Laws.Pointers
import Derived.WideLaws
import Derived.Laws.BytesArg
import Derived.Laws.CopyRow
import Derived.Laws.IdiomCopy
set_option linter.unusedVariables false
open List renaming getElem?_eq_some_iff -> B, getElem?_append_left -> zG, length_append -> zK, eq_nil_of_length_eq_zero -> zM, getElem?_eq_getElem -> zN, take -> zR, length -> zS, getElem?_set -> zT, length_take -> zU, size_toArray -> zY, getElem_mem -> qA, getElem?_append_right -> qC, append_assoc -> qI, take_succ_eq_append_getElem -> qJ, length_drop -> qK, getElem?_map -> qR, all_eq_true -> qU, length_cons -> qV, getElem?_set_self -> qW, mem_map -> qX, mem_append -> qZ, getElem?_toArray -> xA, length_replicate -> xB, mem_cons_of_mem -> xC, mem_of_mem_drop -> xD, mem_cons -> xG
open Go.Result renaming andThen_ok -> E
open Nat renaming mul_le_mul_right -> X, le_of_ble_eq_true -> V, le_refl -> zE, eq_of_beq_eq_true -> zF, not_lt_zero -> zW, succ_mul -> qB, add_mul -> qD, zero_add -> qE, beq -> qL, le_trans -> qN, lt_of_lt_of_le -> qO, blt -> xE, add_zero -> xH
open Go.Sem renaming run_bind -> zH, run_pure -> qF
open Bool renaming and_eq_true -> zI
open Pure renaming pure -> zJ
open Go.Builtin renaming append_ -> zL, firstCells -> zO, zeroCells -> zX, lenOf -> qS
open Go.Value renaming int -> zP
open Go.Instr renaming buildSlice -> zQ, fill -> qH, box -> qT, makeSlice -> qY, storeAt -> xF
open Array renaming getElem?_toList -> zV, length_toList -> qG, range -> xK
open Option renaming isSome_iff_exists -> zZ
open Go.Maps renaming keyOf_int_mk -> qM, int_keyed -> qQ
open Go.Lib renaming run_firstCells_string -> qP
open Go.WideElems renaming rd -> xI, rg -> xJ
namespace Go.AM
set_option linter.unusedSectionVars false
variable [yY]
section
variable {c:Ctx} {Z Y:KS}
theorem pB.mono(x:Ext Z Y){b:Nat}(hp:Y.ph[b]? = Z.ph[b]?)(hh:∀ blk n,Z.ph[b]? = some (some (blk,n))->Y.w.heap[blk]? = Z.w.heap[blk]?){y:cL}(h:pB Z b y):pB Y b y:=by
 cases y with
 | dead=>trivial
 | var d =>
  refine kR.elim h (λhm h=>.mk hm ?_) λl e h=>by
   subst e
   obtain⟨blk,o,h1,M,h3⟩:=h
   exact⟨blk,o,hp.trans h1,(hh blk 0 h1).trans M,h3⟩
  obtain⟨blk,n,cs,t,h1,M,h3,h4,h5⟩:=h
  exact⟨blk,n,cs,t,hp.trans h1,(hh blk n h1).trans M,h3,h4.mono x,h5⟩
 | arr vi e xs =>
  obtain⟨h0,h⟩:=h
  refine⟨h0,rN h (λh=>⟨h.1,hp.trans h.2⟩) ?_⟩
  rintro⟨blk,n,cs,t,h1,M,h3,h4,hr,f,h5⟩
  exact⟨blk,n,cs,t,hp.trans h1,(hh blk n h1).trans M,h3,h4,hr,f,λi hi=>⟨(h5 i hi).1.mono x.same,(h5 i hi).2⟩⟩
def KS.qi(Z:KS)(w':World):KS:={ Z with w:=w',ok:=λk=>Z.ok k\/k=Z.w.heap.size }
structure mM(w w':World)(o:Obj):Prop where
 os:w'.os=w.os
 tape:w'.tape=w.tape
 output:w'.output=w.output
 heap:w'.heap=w.heap.push o
theorem mM.size{w w':World}{o:Obj}(g:mM w w' o):w'.heap.size=w.heap.size+1:=by rw[g.heap]; simp
theorem mM.old{w w':World}{o:Obj}(g:mM w w' o){k:Nat}(h:k<w.heap.size):w'.heap[k]? = w.heap[k]? := by
 rw[g.heap,Array.getElem?_push,if_neg (O)]
theorem mM.new{w w':World}{o:Obj}(g:mM w w' o):w'.heap[w.heap.size]? = some o:=by rw[g.heap]; simp
theorem mM.alloc(w:World)(o:Obj):mM w (w.alloc o) o:=⟨rfl,rfl,rfl,rfl⟩
theorem mM.drew(w:World)(o:Obj):mM w (w.drew.alloc o) o:=⟨rfl,rfl,rfl,rfl⟩
theorem XR{w':World}{o:Obj}(hI:Inv Z)(g:mM Z.w w' o):Ext Z (Z.qi w'):=by
 refine⟨g.os,g.tape,g.output,by show Z.w.heap.size<=w'.heap.size; rw[g.size]; omega,λk hk=>⟨.inl hk,g.old (hI.bN k hk)⟩,?_,λ_ _ _ h=>.inl h,λb d h=>⟨⟨d,h⟩,rfl⟩,
  λb v0 e xs h=>.inr ⟨v0,xs,h,zE _,λ_=>⟨rfl,rfl⟩⟩,λ_ h=>h,zE _,λk hk _=>g.old hk⟩
 rintro k (hk | hk)
 ·grind
 ·grind
theorem cP{w':World}{o:Obj}(hI:Inv Z)(g:mM Z.w w' o):Inv (Z.qi w'):=by
 refine⟨hI.len,?_,?_,hI.inj,?_,hI.gl.mono (XR hI g).same⟩
 ·rintro k (hk | hk)
  ·have:=hI.bN k hk; show k<w'.heap.size; rw[g.size]; omega
  ·show k<w'.heap.size; rw[g.size]; omega
 ·intro b blk n h
  obtain⟨h1,M⟩:=hI.apart b blk n h
  refine⟨by show blk<w'.heap.size; rw[g.size]; omega,?_⟩
  rintro(hk | hk)
  ·exact M hk
  ·omega
 ·intro b x N
  exact(hI.blk b x N).mono (XR hI g) rfl λblk n h=>g.old (hI.apart b blk n h).1
def KS.add(Z:KS)(w':World)(n:Nat)(x:cL):KS:={ Z with w:=w',ph:=Z.ph++[some (Z.w.heap.size,n)],st:=Z.st++[x] }
theorem Zh{w':World}{o:Obj}{n:Nat}{x:cL}(hI:Inv Z)(g:mM Z.w w' o):Ext Z (Z.add w' n x):=by
 have vX:∀ b y,Z.st[b]? = some y->(Z.st++[x])[b]? = some y:=λb y h=>by rw[zG (B.1 h).1]; exact h
 have GL:∀ b y,Z.st[b]? = some y->(Z.ph++[some (Z.w.heap.size,n)])[b]? = Z.ph[b]? := λb y h=>by
  rw[zG]; rw[hI.len]; exact(B.1 h).1
 refine⟨g.os,g.tape,g.output,by show Z.w.heap.size<=w'.heap.size; rw[g.size]; omega,λk hk=>⟨hk,g.old (hI.bN k hk)⟩,λk hk=>.inl hk,?_,λb d h=>⟨⟨d,vX b _ h⟩,GL b _ h⟩,
  λb v0 e xs h=>.inr ⟨v0,xs,vX b _ h,zE _,λ_=>⟨GL b _ h,rfl⟩⟩,λb h=>vX b _ h,by simp[KS.add],λk hk _=>g.old hk⟩
 intro b blk m h
 simp only[KS.add]at h
 grind
theorem tk(hI:Inv Z){w':World}{n:Nat}{x:cL}:(Z.add w' n x).ph[Z.st.length]? = some (some (Z.w.heap.size,n)):=by
 simp[KS.add,<- hI.len]
theorem QD{w':World}{n:Nat}{x:cL}:(Z.add w' n x).st[Z.st.length]? = some x:=by simp[KS.add]
theorem VD{w':World}{o:Obj}{n:Nat}{x:cL}(hI:Inv Z)(g:mM Z.w w' o)(N:pB (Z.add w' n x) Z.st.length x):Inv (Z.add w' n x):=by
 have hold:∀ (b blk m:Nat),(Z.ph++[some (Z.w.heap.size,n)])[b]? = some (some (blk,m))->Z.ph[b]? = some (some (blk,m))\/(b=Z.ph.length/\blk=Z.w.heap.size):=by
  grind
 refine⟨by simp[KS.add,hI.len],?_,?_,?_,?_,hI.gl.mono (Zh hI g).same⟩
 ·intro k hk; have:=hI.bN k hk; show k<w'.heap.size; rw[g.size]; omega
 ·intro b blk m h
  rcases hold b blk m h with h | ⟨rfl,rfl⟩
  ·obtain⟨h1,M⟩:=hI.apart b blk m h
   exact⟨by show blk<w'.heap.size; rw[g.size]; omega,M⟩
  ·exact⟨by show Z.w.heap.size<w'.heap.size; rw[g.size]; omega,λhk=>absurd (hI.bN _ hk) (Nat.lt_irrefl _)⟩
 ·intro b b' blk m m' h h'
  rcases hold b blk m h with h | ⟨rfl,rfl⟩<;>rcases hold b' _ m' h' with h' | ⟨rfl,h''⟩
  ·exact hI.inj b b' blk m m' h h'
  ·have:=(hI.apart b blk m h).1; omega
  ·have:=(hI.apart b' _ m' h').1; omega
  ·rfl
 ·intro b y hy
  simp only[KS.add]at hy
  by_cases I:b<Z.st.length
  ·rw[zG I]at hy
   refine(hI.blk b y hy).mono (Zh hI g) ?_ λblk m h=>g.old (hI.apart b blk m h).1
   simp only[KS.add]
   rw[zG (by rw[hI.len]; exact I)]
  ·grind
theorem RD.z2q{Z:KS}{d:D}{v:Value}(h:RD Z d v):d.Yt=false:=by cases h<;>rfl
theorem OP{d:D}{v:Value}{t:TypeId}(hI:Inv Z)(J:RD Z d v)(ht:d.bB=false)(MT:∀ T,d.typed=some T->t=T) :
  ∃ Y:KS,Y.w=Z.w.alloc (.cells v.cells t)/\Y.st=Z.st++[.var d]/\Inv Y/\Ext Z Y/\RD Y (.ptr Z.st.length 0) (.pointer (some ⟨Z.w.heap.size,0,none⟩)):=by
 have g:=mM.alloc Z.w (.cells v.cells t)
 have N:=Zh (n:=v.cells.size) (x:=.var d) hI g
 refine⟨Z.add _ v.cells.size (.var d),rfl,rfl,VD hI g ?_,N,.ptr _ 0 _ v.cells.size d QD (tk hI)⟩
 exact .mk J.z2q ⟨Z.w.heap.size,v.cells.size,v.cells,t,tk hI,g.new,rfl,(cz J ht).mono N,cy J,MT⟩
theorem TI{t:Nat}{x:Option D}{v:Value}{d:Option D}{ql:St}(hI:Inv Z)(N:∀ z,x=some z->RD Z z v)
  (h:(qu (TG x) Z.st).leads (d,ql)) :
  wz c.P (do zJ (.value (<- qT t v))) Z d ql:=by
 cases x with
 | none=>exact absurd h zh
 | some y =>
  simp only[TG]at h
  cases ht:y.bB||y.typed.isSome with
  | true=>rw[ht]at h; exact absurd h zh
  | false =>
   rw[ht,cond_false]at h
   simp at ht
   obtain⟨ht,MT⟩:=ht
   have znI:∀ T,y.typed=some T->t=T:=λT e=>by rw[e]at MT; cases MT
   obtain⟨rfl,rfl⟩:=h
   obtain⟨Y,h1,M,h3,h4,h5⟩:=OP (t:=t) hI (N _ rfl) ht znI
   refine⟨Y,_,_,?_,.inl rfl,M,h3,h4,λ_ he=>by cases he; exact h5⟩
   simp[qT,newVar,newRow,h1]
theorem zcK{d:D}{τ:Ty}{x:den τ}{v:Value}{t:TypeId}(hI:Inv Z)(J:RD Z d v)(N:ov τ d=some x) :
  ∃ Y:KS,Y.w=Z.w.alloc (.cells v.cells t)/\Y.st=Z.st/\Inv Y/\Ext Z Y/\RD Y (.vz τ x) (.pointer (some ⟨Z.w.heap.size,0,none⟩)):=by
 have g:=mM.alloc Z.w (.cells v.cells t)
 have GM:=XR hI g
 obtain⟨cs,h1,M⟩:=RD.cP (mv J N)
 have hc:=Ux h1.len h1.one
 have hn:(Z.w.alloc (.cells v.cells t)).heap[Z.w.heap.size]? = some (.cells v.cells t (0,0)):=g.new
 have eD:∀ j u,cs[j]? = some u->(Z.w.alloc (.cells v.cells t)).cell? ⟨Z.w.heap.size,0+j,none⟩=some u:=by
  simp
  grind
 exact⟨Z.qi _,rfl,rfl,cP hI g,GM,.vz τ x cs Z.w.heap.size 0 (.inr rfl) (h1.mono GM.same) eD⟩
theorem Iv{t:Nat}{x:Option D}{v:Value}{d:Option D}{ql:St}(hI:Inv Z)(N:∀ z,x=some z->RD Z z v)
  (h:(qu (TH c t x) Z.st).leads (d,ql)):wz c.P (do zJ (.value (<- qT t v))) Z d ql:=by
 have key:∀ (y:D) (τ:Ty) (z:den τ),x=some y->ov τ y=some z->(qu (val (.vz τ z)) Z.st).leads (d,ql)->wz c.P (do zJ (.value (<- qT t v))) Z d ql:=by
  intro y τ z hy hz h
  obtain⟨rfl,rfl⟩:=h
  obtain⟨Y,h1,M,h3,h4,h5⟩:=zcK (t:=t) hI (N y hy) hz
  refine⟨Y,_,_,?_,.inl rfl,M,h3,h4,λ_ he=>by cases he; exact h5⟩
  simp[qT,newVar,newRow,h1]
 unfold TH at h
 split at h
 ·rename_i τ z
  exact key _ τ z rfl (by simp[ov,jP]) h
 ·split at h
  ·split at h
   ·grind
   ·exact absurd h zh
  ·exact absurd h zh
 ·exact absurd h zh
theorem Iu{t:Nat}{dst:Option Nat}{x:Option D}{v:Value}{d:Option D}{ql:St}(hI:Inv Z)(N:∀ z,x=some z->RD Z z v)
  (h:(qu (TF c t dst x) Z.st).leads (d,ql)):wz c.P (do zJ (.value (<- qT t v))) Z d ql:=by
 unfold TF at h
 cases I:z2W c dst with
 | true=>rw[I]at h; exact Iv hI N h
 | false=>rw[I]at h; exact TI hI N h
theorem XZ{v:Value}{d:D}(h:Xl v=some d):RD Z d v/\d.one=true/\d.bB=false/\(∀ cs,v≠.agg cs):=by
 unfold Xl at h
 split at h<;>cases h<;>refine⟨?_,rfl,rfl,λ_=>nofun⟩
 ·exact .int
 ·exact .bool
 ·rename_i s; have:=RD.str (Z:=Z) (s:=s.data.toList); simpa using this
 ·exact .wF
 ·exact .gX
 ·exact .gj
 ·exact .v8
 ·exact .uT
theorem G1{v:Value}{d:D}(h:JT v=some d):RD Z d v/\d.bB=false:=by
 unfold JT at h
 split at h
 ·rename_i cs
  split at h
  ·rename_i l R
   cases h
   have ZM:∀ x∈l,x.one=true:=by
    intro x N
    have:some x∈cs.toList.map Xl:=by rw[oq R]; exact qX.2 ⟨x,N,rfl⟩
    obtain⟨u,_,hu⟩:=qX.1 this
    exact(XZ (Z:=Z) hu).2.1
   have hr:=fB (Z:=Z) (vs:=cs.toList) R (qz) (λi d v J hv=>by
    simp only[qR,hv,Option.map_some,Option.some.injEq]at J
    exact(XZ J).1)
   refine⟨?_,rfl⟩
   have:=RD.agg l cs.toList hr.1 ZM hr.2
   omega
  ·cases h
 ·exact⟨(XZ h).1,(XZ (Z:=Z) h).2.2.1⟩
theorem Us{v:Value}{d:D}(h:Xl v=some d):(∀ l,d≠.agg l)/\(∀ T,d≠.mP T)/\∀ b T,d≠.en b T:=by
 unfold Xl at h
 grind
theorem Fe{v:Value}{d:D}(h:JT v=some d):d.typed=none:=by
 unfold JT at h
 split at h
 ·rename_i cs
  split at h
  ·rename_i l R
   cases h
   have hz:=oq R
   cases l with
   | nil=>rfl
   | cons x r =>
    have:some x∈cs.toList.map Xl:=by rw[hz]; simp
    obtain⟨u,_,hu⟩:=qX.1 this
    obtain⟨_,h1,M⟩:=Us hu
    cases x<;>first | rfl | exact absurd rfl (h1 _) | exact absurd rfl (M _ _)
  ·cases h
 ·have:=(Us h).1
  cases d<;>first | rfl | exact absurd rfl (this _)
structure ZD(t:Nat)(d:D)(z:Value):Prop where
 rd:∀ Z:KS,RD Z d z
 eG:d.bB=false
 ty:∀ T,d.typed=some T->t=T
theorem z2g{t:Nat}{d:D}{z:Value}(h:JT z=some d):ZD t (z2f c t d) z:=by
 have h0:∀ Z:KS,RD Z d z:=λZ=>(G1 h).1
 have h1:d.bB=false:=(G1 (Z:=⟨default,λ_=>False,[],[]⟩) h).2
 have M:=Fe h
 have same:ZD t d z:=⟨h0,h1,λT e=>xz⟩
 unfold z2f
 split
 ·rename_i r
  cases hs:zae c t with
  | false=>exact same
  | true =>
   refine⟨λZ => ?_,rfl,λT e=>by cases e; rfl⟩
   cases h0 Z with
   | agg _ vs R ho hh =>
    have hR:wN Z (.gX::r) vs:=⟨R,hh⟩
    obtain⟨v,us,rfl,g1,g2⟩:=hR.cons_inv
    have hR2:wN Z (.mP t::r) (v::us):=.cons (by cases g1; exact .mP t) g2
    exact .agg _ _ hR2.1 (λx N=>by
     rcases xG.1 N with rfl | N
     ·rfl
     ·exact ho x (xC _ N)) hR2.2
 ·exact same
theorem sn{t:Nat}{d:D}(h:K9 c t=some d):∃ i z,c.P.info? t=some i/\i.zero=some z/\ZD t d z:=by
 unfold K9 at h
 split at h
 ·rename_i i hi
  split at h
  ·rename_i z hz
   split at h
   ·rename_i d0 hd0
    cases h
    exact⟨i,z,hi,hz,z2g hd0⟩
   ·cases h
  ·cases h
 ·cases h
theorem Ib{t:Nat}{d:Option D}{ql:St}(hI:Inv Z)
  (h:(qu (ot c t) Z.st).leads (d,ql)) :
  wz c.P (do zJ (.value (<- Instr.alloc t true (.tuple #[])))) Z d ql:=by
 unfold ot at h
 split at h
 ·rename_i y hy
  obtain⟨i,z,h1,M,h3⟩:=sn hy
  obtain⟨rfl,rfl⟩:=h
  obtain⟨Y,g1,g2,g3,g4,g5⟩:=OP (t:=t) hI (h3.rd Z) h3.eG h3.ty
  refine⟨Y,_,_,?_,.inl rfl,g2,g3,g4,λ_ he=>by cases he; exact g5⟩
  simp[Instr.alloc,zeroValue,typeInfo,h1,M,newVar,newRow,g1]
 ·exact absurd h zh
end
end Go.AM
namespace Go.AM
set_option linter.unusedSectionVars false
variable [yY]
section
variable {c:Ctx} {Z:KS}
def KS.Vt(Z:KS)(b:Nat)(w':World)(x:cL):KS:={ Z with w:=w',st:=Z.st.set b x }
def KS.upd(Z:KS)(b blk:Nat)(cs:Array Value)(x:cL):KS:=Z.Vt b (Z.w.setRow blk cs) x
def Alike:cL->cL->Prop
 | .var _,.var _=>True
 | .arr v e xs,.arr v' e' xs'=>e=e'/\v<=v'/\(v=v'->xs.length=xs'.length)
 | _,_=>False
theorem UL{b blk n:Nat}{w':World}{x y:cL}(hI:Inv Z)(hp:Z.ph[b]? = some (some (blk,n)))(hy:Z.st[b]? = some y)(ha:Alike y x)(g:Z.w.grownBy w' (some blk)):Ext Z (Z.Vt b w' x):=by
 have wM:b<Z.st.length:=(B.1 hy).1
 have jZ:∀ k,Z.ok k->k≠blk:=λk hk e=>(hI.apart b blk n hp).2 (e▸hk)
 refine⟨g.os,g.tape,g.output,g.size,λk hk=>⟨hk,g.block k (hI.bN k hk) λe=>jZ k hk (Option.some.inj e)⟩,λk hk=>.inl hk,λ_ _ _ h=>.inl h,?_,?_,?_,by simp[KS.Vt],?_⟩
 ·intro b' d J
  refine⟨?_,rfl⟩
  simp only[KS.Vt,zT]
  split
  ·rename_i e
   subst e
   rw[hy]at J; cases J
   cases x<;>simp[Alike]at ha
   simp
  ·grind
 ·intro b' v0 e Vu J
  simp only[KS.Vt,zT]
  split
  ·rename_i e'
   subst e'
   rw[hy]at J; cases J
   cases x<;>simp[Alike]at ha
   grind
  ·grind
 ·intro b' J
  simp only[KS.Vt,zT]
  split
  ·rename_i e
   subst e
   rw[hy]at J; cases J
   simp[Alike]at ha
  ·exact J
 ·intro k hk hn
  exact g.block k hk λe=>by cases e; exact hn b n hp
theorem FI{b blk n:Nat}{w':World}{x y:cL}(hI:Inv Z)(hp:Z.ph[b]? = some (some (blk,n)))(hy:Z.st[b]? = some y)(ha:Alike y x)
  (g:Z.w.grownBy w' (some blk)) (N:pB (Z.Vt b w' x) b x):Inv (Z.Vt b w' x):=by
 refine⟨by simp[KS.Vt,hI.len],λk hk=>qO (hI.bN k hk) g.size,?_,hI.inj,?_,hI.gl.mono (UL hI hp hy ha g).same⟩
 ·intro b' pE m h
  obtain⟨h1,M⟩:=hI.apart b' pE m h
  exact⟨qO h1 g.size,M⟩
 ·intro b' z hz
  by_cases I:b=b'
  ·subst I
   simp only[KS.Vt]at hz
   grind
  ·simp only[KS.Vt,zT,if_neg I]at hz
   refine(hI.blk b' z hz).mono (UL hI hp hy ha g) rfl λpE m h => ?_
   refine g.block pE (hI.apart b' pE m h).1 λe => ?_
   cases e
   exact I (hI.inj b b' _ n m hp h)
theorem UG(w:World)(blk:Nat)(cs:Array Value):w.grownBy (w.setRow blk cs) (some blk) :=
 ⟨rfl,rfl,rfl,by rw[setRow_size]; exact zE _,λk _ hk=>setRow_other _ _ _ _ λe=>hk (by rw[e])⟩
theorem UM{b blk n:Nat}{cs:Array Value}{x y:cL}(hI:Inv Z)(hp:Z.ph[b]? = some (some (blk,n)))(hy:Z.st[b]? = some y)(ha:Alike y x):Ext Z (Z.upd b blk cs x):=UL hI hp hy ha (UG _ _ _)
theorem UN{b blk n:Nat}{cs:Array Value}{x y:cL}(hI:Inv Z)(hp:Z.ph[b]? = some (some (blk,n)))(hy:Z.st[b]? = some y)(ha:Alike y x)
  (N:pB (Z.upd b blk cs x) b x):Inv (Z.upd b blk cs x):=FI hI hp hy ha (UG _ _ _) N
theorem CX{d d':D}{t:Nat}(h:ZX d d'=true)(J:∀ T,d.typed=some T->t=T):∀ T,d'.typed=some T->t=T:=by
 intro T hT
 unfold ZX at h
 rw[hT]at h
 cases hd0:d.typed with
 | none=>grind
 | some T' =>
  rw[hd0]at h
  have e:=zF h
  grind
theorem Qr{t:Nat}{n blk o:Nat}{v:Value}{cs:Array Value}{T:TypeId}(hn:td c t=some n)(hv:v.cells.toList.length=n)(h1:∀ u∈v.cells.toList,u.oneCell'=true)
  (hg:Z.w.heap[blk]? = some (.cells cs T (0,0))) (hle:o+n<=cs.size) :
  (storeVar t ⟨blk,o,none⟩ v).run c.P Z.w=.ok () (Z.w.setRow blk (cs.toList.take o++v.cells.toList++cs.toList.drop (o+n)).toArray):=by
 have hs:v.cells.size=n:=by simpa using hv
 have:=run_storeCells_at c.P blk o T v.cells.toList 0 cs Z.w hg (xz) h1
 simp[storeVar,run_sizeOf hn,hs,this]
theorem tC{l:List D}{vs us:List Value}{x:List D}(h:wN Z l vs)(N:wN Z x us)(o n:Nat) :
  wN Z (l.take o++x++l.drop (o+n)) (vs.take o++us++vs.drop (o+n)):=((h.take o).append N).append (h.drop (o+n))
theorem Vs{cs us:List Value}{o n:Nat}(hu:us.length=n)(ho:o+n<=cs.length)(p:Nat) :
  (cs.take o++us++cs.drop (o+n))[p]? = if p<o then cs[p]? else if p<o+n then us[p-o]? else cs[p]? := xz
theorem Br{t:Nat}{d x r:D}{off:Nat}(h:Hd c t d off x=some r):∃ n,td c t=some n/\0<n/\(xy x).length=n/\off+n<=(xy d).length /\
  xy r=(xy d).take off++xy x++(xy d).drop (off+n)/\((∀ y∈xy d,y.one=true)->(∀ y∈xy x,y.one=true)->∀ y∈xy r,y.one=true)/\x.bB=false:=by
 unfold Hd at h
 split at h
 ·cases h
 ·rename_i n hn
  cases I:xE 0 n&&qL n (xy x).length&&Nat.ble (off+n) (xy d).length with
  | false=>grind
  | true =>
   rw[I,cond_true]at h
   simp only[zI]at I
   obtain⟨⟨h0,h1⟩,M⟩:=I
   have h0':0<n:=V h0
   have GJ:n=(xy x).length:=zF h1
   have h2':=V M
   have H6:x.bB=false:=by
    cases x with
    | eG l=>simp[xy]at GJ; omega
    | _=>rfl
   cases hw:qL n (xy d).length with
   | true =>
    have h3:n=(xy d).length:=zF hw
    have h4:off=0:=O
    subst h4
    rw[hw,cond_true]at h
    have hr:xy r=xy x/\r.bB=false:=by
     cases ha:d.cG && !x.cG with
     | true=>rw[ha,cond_true]at h; cases h; exact⟨rfl,rfl⟩
     | false=>rw[ha,cond_false]at h; cases h; exact⟨rfl,H6⟩
    refine⟨n,hn,h0',GJ.symm,h2',?_,λ_ N y hy=>N y (hr.1▸hy),H6⟩
    rw[hr.1]
    simp[<- h3]
   | false =>
    rw[hw,cond_false]at h
    cases h
    refine⟨n,hn,h0',GJ.symm,h2',rfl,λJ N y hy => ?_,H6⟩
    simp only[xy,qZ]at hy
    rcases hy with(hy | hy) | hy
    ·exact J y (List.mem_of_mem_take hy)
    ·exact N y hy
    ·exact J y (xD hy)
theorem Pk{t:Nat}{d x r:D}{off:Nat}(h:Hd c t d off x=some r):d.Yt=false/\r.Yt=false:=by
 unfold Hd at h
 split at h
 ·cases h
 ·rename_i n hn
  cases I:xE 0 n&&qL n (xy x).length&&Nat.ble (off+n) (xy d).length with
  | false=>rw[I]at h; cases h
  | true =>
   rw[I,cond_true]at h
   simp only[zI]at I
   have h0:0<n:=V I.1.1
   have h1:=zF I.1.2
   have M:=V I.2
   refine⟨by cases d<;>first | rfl | (simp[xy]at M; omega),?_⟩
   cases hw:qL n (xy d).length with
   | true =>
    rw[hw,cond_true]at h
    cases ha:d.cG && !x.cG with
    | true=>rw[ha,cond_true]at h; cases h; rfl
    | false=>rw[ha,cond_false]at h; cases h; cases x<;>first | rfl | (simp[xy]at h1; omega)
   | false=>rw[hw]at h; cases h; rfl
theorem Xo{τ:Ty}{r:D}{x:den τ}{vs:List Value}(h:ov τ r=some x)(hr:wN Z (xy r) vs)(ZM:∀ y∈xy r,y.one=true)(ht:r.bB=false):Rc Z.w Z.ok τ x vs:=by
 cases r with
 | qi σ y=>obtain⟨rfl,rfl⟩:=wg h; exact Ku _ _ hr
 | agg l =>
  have:=mv (RD.agg l vs hr.1 ZM hr.2) h
  obtain⟨cs,h1,M⟩:=RD.cP this
  have hc:=Ux h1.len h1.one
  simp only[Value.cells]at hc
  grind
 | eG l=>cases ht
 | Bm l=>cases h
 | _ =>
  obtain⟨v,r',rfl,h1,M⟩:=wN.cons_inv hr
  have e2:=M.we
  subst e2
  have h3:=mv h1 h
  obtain⟨cs,h4,h5⟩:=RD.cP h3
  have hag:τ.isAgg=false:=by
   cases hta:τ.isAgg with
   | false=>rfl
   | true=>simp[ov,D.isAgg,hta]at h
  obtain⟨u,rfl⟩:=h4.single hag
  rw[G8 hag]at h5
  rwa [h5]
theorem LV{t:Nat}{a x:Option D}{v u:Value}{d:Option D}{ql:St}(hI:Inv Z)(ha:∀ z,a=some z->RD Z z v)(N:∀ z,x=some z->RD Z z u)
  (h:(qu (KO c t a x) Z.st).leads (d,ql)):wz c.P (do xF t v u; zJ .skip) Z d ql:=by
 unfold KO at h
 split at h
 ·rename_i b off y
  simp only[qu]at h
  split at h
  ·rename_i d0 I
   split at h
   ·rename_i r hr
    cases j3:ZX d0 r with
    | false=>rw[j3]at h; exact h.elim
    | true =>
    rw[j3,cond_true]at h
    simp only[T.leads,Prod.mk.injEq]at h
    obtain⟨rfl,rfl⟩:=h
    obtain⟨n,hn,h0,JI,hle,ED,ZM,H6⟩:=Br hr
    cases ha _ rfl with
    | ptr _ _ blk m d1 J hp =>
     obtain⟨pE,m',cs,T,g1,g2,g3,g4,g5⟩:=(hI.blk b _ I:kR Z b d0).cells (Pk hr).1
     rw[hp]at g1
     cases g1
     have hy:=N _ rfl
     have hfy:=cz hy H6
     have L6:u.cells.toList.length=n:=by rw[<- hfy.1]; exact JI
     have bM:off+n<=cs.size:=by have:=g4.1; simp at this; omega
     have h1:∀ z∈u.cells.toList,z.oneCell'=true:=by
      intro z hz
      obtain⟨i,hi,rfl⟩:=List.getElem_of_mem hz
      exact(hfy.2 i (hfy.1▸hi) hi).KG (cy hy _ (qA _))
     have jL:=Qr (c:=c) (Z:=Z) hn L6 h1 g2 bM
     have Kd:Alike (.var d0) (.var r):=trivial
     let my:=(cs.toList.take off++u.cells.toList++cs.toList.drop (off+n)).toArray
     have hex:=UM (cs:=my) (x:=.var r) hI hp I Kd
     refine⟨Z.upd b blk my (.var r),.skip,undef,?_,.inr ⟨rfl,rfl⟩,rfl,UN hI hp I Kd ?_,hex,λ_ he=>by cases he⟩
     ·simp only[zH,xF,Instr.sureAddr,qF,E,jL]; rfl
     ·refine .mk (Pk hr).2 ⟨blk,m,my,T,hp,setRow_heap _ _ _ _ _ _ g2,?_,?_,ZM g5.1 (cy hy),CX j3 g5.2⟩
      ·grind
      ·rw[ED]; exact(tC g4 hfy off n).mono hex
   ·exact h.elim
  ·exact h.elim
 ·rename_i b vi e idx off y
  simp only[qu]at h
  split at h
  ·rename_i dF e' xs I
   cases he:decide (e'=e)with
   | false=>rw[he]at h; exact h.elim
   | true =>
    rw[he,cond_true]at h
    have IV:e'=e:=uA he
    subst IV
    obtain⟨⟨rfl,wM⟩,h⟩:=h
    split at h
    ·rename_i r hr
     split at h
     ·rename_i z hz
      simp only[T.leads,Prod.mk.injEq]at h
      obtain⟨rfl,rfl⟩:=h
      obtain⟨n,hn,h0,JI,hle,ED,ZM,H6⟩:=Br hr
      cases ha _ rfl with
      | gJ _ _ _ _ _ blk o hold hp =>
       obtain⟨m,p1,rfl⟩:=hp xs I wM
       obtain⟨bM,⟨Ym,_⟩ | ⟨pE,n',cs,T,g1,g2,g3,g4,gr,f,g5⟩⟩:=hI.blk b _ I
       ·grind
       ·rw[p1]at g1
        cases g1
        rw[getD_lt wM]at hr ED hle ZM
        have hy:=N _ rfl
        have hfy:=cz hy H6
        have L6:u.cells.toList.length=n:=by rw[<- hfy.1]; exact JI
        obtain⟨k1,k2⟩:=g5 idx wM
        have EB:=k1.len
        have H0:off+n<=e'.size:=by simpa[xy,VY]using hle
        have zs9:idx*e'.size+e'.size<=xs.length*e'.size:=by rw[<- qB]; exact X _ wM
        have RU:idx*e'.size+off+n<=cs.size:=O
        have h1:∀ z∈u.cells.toList,z.oneCell'=true:=by
         intro z hz
         obtain⟨i,hi,rfl⟩:=List.getElem_of_mem hz
         exact(hfy.2 i (hfy.1▸hi) hi).KG (cy hy _ (qA _))
        have jL:=Qr (c:=c) (Z:=Z) hn L6 h1 g2 RU
        have Kd:Alike (.arr vi e' xs) (.arr vi e' (xs.set idx z)):=⟨rfl,zE _,λ_=>qz⟩
        let my:=(cs.toList.take (idx*e'.size+off)++u.cells.toList++cs.toList.drop (idx*e'.size+off+n)).toArray
        have hex:=UM (cs:=my) (x:=.arr vi e' (xs.set idx z)) hI p1 I Kd
        refine⟨Z.upd b blk my (.arr vi e' (xs.set idx z)),.skip,undef,?_,.inr ⟨rfl,rfl⟩,rfl,UN hI p1 I Kd ?_,hex,λ_ he=>by cases he⟩
        ·simp only[zH,xF,Instr.sureAddr,qF,E,jL]; rfl
        ·have hlen:my.size=cs.size:=by simp[my,L6]; omega
         refine⟨bM,.inr ⟨blk,m,my,T,p1,setRow_heap _ _ _ _ _ _ g2,by rw[hlen]; exact g3,by simpa using g4,?_⟩⟩
         -- cells of the element that is written
         let fi:=(f idx).take off++u.cells.toList++(f idx).drop (off+n)
         have zng:wN Z (xy r) fi:=by
          rw[ED]
          exact tC (QZ k1) hfy off n
         have hrt:r.bB=false:=by
          cases r with
          | eG l =>
           have h6:=congrArg zS ED
           rw[zK,zK,JI]at h6
           have h7:(xy (D.eG l)).length=0:=rfl
           omega
          | _=>rfl
         have Dz:=Xo hz zng (ZM (ri _ _) (cy hy)) hrt
         have GX:∀ p,my[p]? = if p<idx*e'.size+off then cs[p]? else if p<idx*e'.size+off+n then u.cells.toList[p-(idx*e'.size+off)]? else cs[p]? := by
          intro p
          have:=Vs (cs:=cs.toList) (us:=u.cells.toList) L6 (by simpa using RU) p
          simpa only[my,xA,zV]using this
         have znf:∀ j,fi[j]? = if j<off then(f idx)[j]? else if j<off+n then u.cells.toList[j-off]? else(f idx)[j]? := λj=>Vs L6 (O) j
         refine⟨gr,λi=>if i=idx then fi else f i,λi hi => ?_⟩
         rw[List.length_set]at hi
         by_cases hii:i=idx
         ·subst hii
          simp only[if_true,List.getElem_set_self]
          refine⟨Dz.mono hex.same,λj w hj => ?_⟩
          rw[znf]at hj
          rw[GX]
          split at hj
          ·rw[if_pos (O)]; exact k2 j w hj
          ·split at hj
           ·rw[if_neg (O),if_pos (O)]; rw[<- hj]; congr 1; omega
           ·rw[if_neg (O),if_neg (O)]; exact k2 j w hj
         ·simp only[if_neg hii]
          obtain⟨q1,q2⟩:=g5 i hi
          refine⟨by rw[List.getElem_set_ne (λe=>hii e.symm)]; exact q1.mono hex.same,λj w hj => ?_⟩
          have Tc:j<e'.size:=by rw[<- q1.len]; exact(B.1 hj).1
          rw[GX]
          rcases Nat.lt_or_gt_of_ne hii with H3 | hgt'
          ·have:i*e'.size+e'.size<=idx*e'.size:=by rw[<- qB]; exact X _ H3
           rw[if_pos (O)]; exact q2 j w hj
          ·have:idx*e'.size+e'.size<=i*e'.size:=by rw[<- qB]; exact X _ hgt'
           rw[if_neg (O),if_neg (O)]; exact q2 j w hj
     ·exact h.elim
    ·exact h.elim
  ·exact h.elim
 ·exact absurd h zh
end
end Go.AM
namespace Go.AM
set_option linter.unusedSectionVars false
variable [yY]
section
variable {c:Ctx} {Z:KS}
theorem JE:∀ (vs:List Value) (cells:Array Value) (off k:Nat),off+k+vs.length<=cells.size ->
  ((vs.zipIdx k).foldl (λ(cs:Array Value) (p:Value×Nat)=>cs.setIfInBounds (off+p.2) p.1) cells).toList=cells.toList.take (off+k)++vs++cells.toList.drop (off+k+vs.length)
 | [],cells,off,k,_=>qz
 | v::vs,cells,off,k,h=>by
  simp only[qV]at h
  simp only[List.zipIdx_cons,List.foldl_cons]
  rw[JE vs _ off (k+1) (by simp; omega)]
  have wM:off+k<cells.toList.length:=by simp; omega
  simp only[Array.toList_setIfInBounds,qV]
  have e1:(cells.toList.set (off+k) v).take (off+(k+1))=cells.toList.take (off+k)++[v]:=by
   rw[show off+(k+1)=off+k+1 by omega,qJ (by simpa using wM)]
   rw[List.take_set_of_le (zE _)]
   simp
  have e2:(cells.toList.set (off+k) v).drop (off+(k+1)+vs.length)=cells.toList.drop (off+k+(vs.length+1)):=by
   rw[List.drop_set_of_lt (O)]
   grind
  grind
theorem Ej{place:Nat->Option (Nat×Nat)}{cells:Array Value}{i off size:Nat}{v:Value}{rest:List (Nat×Value)}(hp:place i=some (off,size))(hs:v.cells.toList.length=size)(hle:off+size<=cells.size) :
  qH place cells ((i,v)::rest)=qH place (cells.toList.take off++v.cells.toList++cells.toList.drop (off+size)).toArray rest:=by
 have hs':v.cells.size=size:=by simpa using hs
 have hf:=JE v.cells.toList cells off 0 (xz)
 simp only[hs]at hf
 conv=>lhs; unfold qH
 simp only[hp]
 rw[if_neg (xz)]
 congr 1
 apply Array.ext'
 rw[<- Array.foldl_toList,Array.toList_zipIdx]
 exact hf
theorem HT{e:Ty}{x:den e}{v:Value}(h:RD Z (.qi e x) v):Rc Z.w Z.ok e x v.cells.toList:=by
 obtain⟨cs,h1,rfl⟩:=RD.cP h
 rw[Ux h1.len h1.one]; exact h1
theorem HL{e:Ty}{F:Operand->Option D}{G:Operand->Value}(hF:∀ x d,F x=some d->RD Z d (G x)):∀ (L:List (Nat×Operand)) (k:Nat) (cells:Array Value) (l:List (den e)),
  HK e k (L.map λp=>(p.1,F p.2))=some l->(k+L.length)*e.size<=cells.size ->
  ∃ pH,qH (λi=>some (i*e.size,e.size)) cells (L.map λp=>(p.1,G p.2))=some pH/\pH.size=cells.size/\(∀ p,p<k*e.size->pH[p]? = cells[p]?)/\l.length=L.length /\
   ∃ f:Nat->List Value,∀ i (hi:i<l.length),Rc Z.w Z.ok e l[i] (f i)/\∀ j v,(f i)[j]? = some v->pH[(k+i)*e.size+j]? = some v
 | [],k,cells,l,h,_=>by
  simp only[List.map_nil,HK,Option.some.injEq]at h
  subst h
  exact⟨cells,rfl,rfl,λ_ _=>rfl,rfl,λ_=>[],λi hi=>absurd hi (zW i)⟩
 | (i,x)::L,k,cells,l,h,hle=>by
  simp only[List.map_cons]at h
  cases N:F x with
  | none=>rw[N]at h; simp[HK]at h
  | some d =>
   rw[N]at h
   simp only[HK]at h
   cases I:qL k i with
   | false=>grind
   | true =>
    have hik:k=i:=zF I
    subst hik
    rw[I,cond_true]at h
    split at h
    ·rename_i y l' hy L4
     cases h
     have hr:=HT (mv (hF x d N) hy)
     have hlen:=hr.len
     simp only[qV]at hle
     have hk1:(k+(L.length+1))*e.size=k*e.size+e.size+L.length*e.size:=by rw[qD,qD]; omega
     have eD:k*e.size+e.size<=cells.size:=O
     let c1:=(cells.toList.take (k*e.size)++(G x).cells.toList++cells.toList.drop (k*e.size+e.size)).toArray
     have RN:c1.size=cells.size:=by simp only[c1,zY,zK,zU,qK,hlen,qG]; omega
     have hg:∀ p,c1[p]? = if p<k*e.size then cells[p]? else if p<k*e.size+e.size then(G x).cells.toList[p-k*e.size]? else cells[p]? := by
      grind
     obtain⟨pH,h1,M,h3,h4,f,h5⟩:=HL hF L (k+1) c1 l' L4 (by rw[RN,show k+1+L.length=k+(L.length+1) by omega]; exact hle)
     refine⟨pH,?_,M.trans RN,?_,by simp[h4],λi=>match i with | 0=>(G x).cells.toList | i+1=>f i,?_⟩
     ·simp only[List.map_cons]
      rw[Ej rfl hlen eD]
      exact h1
     ·grind
     ·intro i hi
      cases i with
      | zero =>
       grind
      | succ i =>
       have:=h5 i (by simpa using hi)
       rw[show k+1+i=k+(i+1) by omega]at this
       exact this
    ·cases h
theorem sw{t n:Nat}(h:pF c t=some n):∃ i,c.P.info? t=some i/\i.bytes=n:=by
 unfold pF at h
 cases hi:c.P.info? t with
 | none=>grind
 | some i=>grind
theorem fG{et:Nat}{e:Ty}{z:den e}(h:zeroOf c et e=some z):∃ i v,c.P.info? et=some i/\i.zero=some v/\Rc Z.w Z.ok e z v.cells.toList:=by
 unfold zeroOf at h
 split at h
 ·rename_i d J
  obtain⟨i,v,h1,M,h3⟩:=sn J
  exact⟨i,v,h1,M,HT (mv (h3.rd Z) h)⟩
 ·cases h
theorem Kb{t n:Nat}{L:List (Nat×Operand)}{F:Operand->Option D}{G:Operand->Value}{d:Option D}{ql:St}(hI:Inv Z)(hF:∀ x d,F x=some d->RD Z d (G x))
  (h:(qu (bP c t n (L.map λp=>(p.1,F p.2))) Z.st).leads (d,ql)) :
  wz c.P (do zJ (.value (<- zQ t n (L.map λp=>(p.1,G p.2)).toArray))) Z d ql:=by
 unfold bP at h
 split at h
 ·exact absurd h zh
 ·rename_i et het
  have hu:=yJ het
  split at h
  ·rename_i e MT
   cases I:ca c et e&&qL n (L.map λp=>(p.1,F p.2)).length&&Nat.ble n 1000&&Nat.ble e.size 100&&(zeroOf c et e).isSome with
   | false=>rw[I]at h; exact absurd h zh
   | true =>
    rw[I,cond_true]at h
    simp only[zI]at I
    obtain⟨⟨⟨⟨j3,hn⟩,h1⟩,M⟩,h3⟩:=I
    have hn':n=L.length:=by have:=zF hn; simpa using this
    have GJ:=V h1
    have h2':=V M
    obtain⟨hs,_⟩:=jY j3
    obtain⟨z,hz⟩:=zZ.1 h3
    obtain⟨i,zv,Cs,US,hi3⟩:=fG (Z:=Z) hz
    split at h
    ·rename_i l R
     cases I2:qL n 0&&xE 0 e.size with
     | true =>
     rw[I2,cond_true]at h
     simp only[zI]at I2
     obtain⟨I2,bM⟩:=I2
     have RU:0<e.size:=V bM
     have Td:=zF I2
     have hL:L=[]:=zM (hn'.symm.trans Td)
     subst hL
     subst Td
     simp only[qu,T.leads,Prod.mk.injEq]at h
     obtain⟨rfl,rfl⟩:=h
     have g:=mM.alloc Z.w (.cells #[] et)
     have hex:=Zh (n:=0) (x:=.arr 0 e ([]:List (den e))) hI g
     have jL:(zQ t 0 (([]:List (Nat×Operand)).map λp=>(p.1,G p.2)).toArray).run c.P Z.w=.ok (.slice (some ⟨Z.w.heap.size,0,none⟩) 0 0) (Z.w.alloc (.cells #[] et)):=by
      simp[zQ,zH,run_underlying hu,E,run_sizeOf hs,qH,newRow]
      grind
     refine⟨Z.add _ 0 (.arr 0 e []),_,.slice (some ⟨Z.w.heap.size,0,none⟩) 0 0,by simp only[zH,jL,E]; rfl,.inl rfl,rfl,VD hI g ?_,hex,?_⟩
     ·exact⟨RU,.inr ⟨Z.w.heap.size,0,#[],et,tk hI,g.new,rfl,qz,Ut j3,λ_=>[],λi hi=>absurd hi (zW i)⟩⟩
     ·intro d' ef
      cases ef
      refine .ms _ 0 e 0 0 0 _ (.inr ⟨0,e,_,QD,zE _⟩) (O) nofun (λp hp=>by cases hp; rfl) λxs Yo => ?_
      rw[QD]at Yo
      cases Yo
      exact⟨qz,.inr ⟨Z.w.heap.size,0,0,0,tk hI,rfl,O,qz,.inl rfl⟩⟩
     | false =>
     rw[I2,cond_false,dx]at h
     obtain⟨rfl,rfl⟩:=h
     subst hn'
     have hle:L.length*e.size<=100000:=qN (Nat.mul_le_mul GJ h2') (xn)
     have hzs:zv.cells.size=e.size:=by have:=hi3.len; simpa using this
     let cells:Array Value:=(xK (L.length*e.size)).map ((if L.length*e.size=0 then #[]else zv.cells)[· % (if L.length*e.size=0 then #[]else zv.cells).size]!)
     have QA:cells.size=L.length*e.size:=by simp[cells]
     obtain⟨pH,g1,g2,_,g4,f,g5⟩:=HL hF L 0 cells l R (by rw[QA]; simp)
     have g:=mM.alloc Z.w (.cells pH et)
     have hex:=XR hI g
     refine⟨Z.qi _,_,.slice (some ⟨Z.w.heap.size,0,none⟩) L.length L.length,?_,.inl rfl,rfl,cP hI g,hex,?_⟩
     ·have EC:qH (λi=>some (i*e.size,e.size)) cells (L.map λp=>(p.1,G p.2))=some pH:=g1
      simp only[cells]at EC
      simp only[zQ,zH,run_underlying hu,E,run_sizeOf hs,gt_iff_lt,if_neg (show ¬ 2 ^ 24<L.length*e.size by omega)]
      by_cases h0:L.length*e.size=0
      ·simp only[if_pos h0]at EC ⊢
       simp only[zH,qF,E,EC]
       rfl
      ·simp only[if_neg h0]at EC ⊢
       simp only[zH,qF,E,zeroValue,typeInfo,run_program,Cs,US,EC]
       rfl
     ·intro d' ef
      cases ef
      have eD:∀ i,i<l.length->∀ j v,(f i)[j]? = some v->(Z.qi (Z.w.alloc (.cells pH et))).w.cell? ⟨Z.w.heap.size,0+i*e.size+j,none⟩=some v:=by
       intro i hi j v hj
       have:=(g5 i hi).2 j v hj
       simp only[qE]at this ⊢
       rw[XX (Z:=Z.qi (Z.w.alloc (.cells pH et))) g.new]
       exact this
      rw[<- g4]
      refine .tight e l _ Z.w.heap.size 0 f ?_ (.inr rfl) (λi hi=>(g5 i hi).1.mono hex.same) eD
      intro jZ Ym
      subst Ym
      simp at g4
      simp[<- g4]at jZ
    ·exact absurd h zh
  ·exact absurd h zh
end
end Go.AM
namespace Go.AM
set_option linter.unusedSectionVars false
variable [yY]
section
variable {c:Ctx} {Z:KS}
theorem Sx{t:Nat}{x y:Option D}{v u:Value}{d:Option D}{ql:St}(hI:Inv Z)(N:∀ z,x=some z->RD Z z v)(hy:∀ z,y=some z->RD Z z u)
  (h:(qu (Le c t x y) Z.st).leads (d,ql)):wz c.P (do zJ (.value (<- qY t v u))) Z d ql:=by
 unfold Le at h
 split at h
 ·rename_i et k n k' m het hn hm
  have hu:=yJ het
  have:=kt hn N
  subst this
  have:=kt hm hy
  subst this
  split at h
  ·rename_i e bytes MT Cq
   split at h
   ·rename_i z hz
    cases I:ca c et e&&xE 0 e.size with
    | false=>rw[I]at h; exact absurd h zh
    | true =>
     rw[I,cond_true]at h
     simp only[zI]at I
     obtain⟨j3,bM⟩:=I
     have RU:0<e.size:=V bM
     obtain⟨hs,_⟩:=jY j3
     simp only[qu,T.leads,Prod.mk.injEq]at h
     obtain⟨⟨h0,h1,M,h3⟩,rfl,rfl⟩:=h
     obtain⟨i,zv,Cs,US,hi3⟩:=fG (Z:=Z) hz
     obtain⟨ib,zg1,zni⟩:=sw Cq
     obtain⟨i',zfZ,zs8⟩:=ml hs
     rw[Cs]at zg1 zfZ
     cases zg1
     cases zfZ
     have hzs:zv.cells.size=e.size:=by have:=hi3.len; simpa using this
     let hx:=m.toNat*e.size
     let cells:Array Value:=(xK hx).map (zv.cells[· % zv.cells.size]!)
     have QA:cells.size=hx:=by simp[cells]
     have jL:(qY t (.int k n) (.int k' m)).run c.P Z.w=.ok (.slice (some ⟨Z.w.heap.size,0,none⟩) n.toNat m.toNat) (Z.w.alloc (.cells cells et)):=by
      have w1:IntKind.i64.wrap n=n:=IntWalk.i64_in _ (O)
      have w2:IntKind.i64.wrap m=m:=IntWalk.i64_in _ (O)
      have hmb:¬ ((2:Int) ^ 48<bytes*m):=by
       grind
      have ai:∀ k n w,(Go.asInt (.int k n)).run c.P w=.ok n w:=λk n w=>by simp[Go.asInt,asIntOf]
      have hm0:¬ (m<0):=O
      have Td:¬ (n<0):=O
      have hnm:¬ (m<n):=O
      simp only[qY,zH,run_underlying hu,E,ai,typeInfo,run_program,Cs,zni,w1,w2,qF,gt_iff_lt,hm0,Td,hnm,hmb,decide_false,Bool.or_self,Bool.false_eq_true,if_false,run_askRoom,run_sizeOf hs]
      by_cases I2:m.toNat*e.size=0
      ·have hce:cells = #[]:=Array.eq_empty_of_size_eq_zero (by rw[QA]; exact I2)
       have e2:∀ g:Nat->Value,(xK (m.toNat*e.size)).map g = #[]:=λg=>by rw[I2]; simp
       simp only[if_pos I2,zH,qF,E,newRow,run_newObj,e2]
       rw[hce]
       rfl
      ·simp only[if_neg I2,zH,qF,E,newRow,run_newObj,zeroValue,typeInfo,run_program,Cs,US]
       rfl
     have g:=mM.alloc Z.w (.cells cells et)
     have hex:=Zh (n:=hx) (x:=.arr n.toNat e (List.replicate n.toNat z)) hI g
     refine⟨Z.add _ hx (.arr n.toNat e (List.replicate n.toNat z)),_,.slice (some ⟨Z.w.heap.size,0,none⟩) n.toNat m.toNat,by simp only[zH,jL,E]; rfl,.inl rfl,rfl,VD hI g ?_,hex,?_⟩
     ·refine⟨RU,.inr ⟨Z.w.heap.size,hx,cells,et,tk hI,g.new,QA,?_,Ut j3,λ_=>zv.cells.toList,λi hi => ?_⟩⟩
      ·rw[xB]; exact X _ (O)
      ·rw[xB]at hi
       refine⟨by rw[List.getElem_replicate]; exact hi3.mono hex.same,λj w hj => ?_⟩
       have Tc:j<e.size:=by rw[<- hi3.len]; exact(B.1 hj).1
       have wM:i*e.size+j<hx:=by
        have:i*e.size+e.size<=hx:=by rw[<- qB]; exact X _ (O)
        omega
       have zbM:(i*e.size+j) % e.size=j:=by rw[Nat.mul_comm,Nat.mul_add_mod,Nat.mod_eq_of_lt Tc]
       grind
     ·intro d' ef
      cases ef
      refine .ms _ n.toNat e 0 n.toNat m.toNat _ (.inr ⟨n.toNat,e,_,QD,zE _⟩) (O) nofun (λp hp=>by cases hp; rfl) λxs Yo => ?_
      rw[QD]at Yo
      cases Yo
      refine⟨qz,.inr ⟨Z.w.heap.size,hx,0,m.toNat,tk hI,rfl,O,by simp[hx],.inr (qz)⟩⟩
   ·exact absurd h zh
  ·exact absurd h zh
 ·exact absurd h zh
end
end Go.AM
namespace Go.AM
set_option linter.unusedSectionVars false
variable [yY]
section
variable {c:Ctx} {Z:KS}
def dW(f:Nat->List Value):Nat->List Value
 | 0=>[]
 | n+1=>dW f n++f n
theorem gz{f:Nat->List Value}{s:Nat}:∀ {n:Nat},(∀ i,i<n->(f i).length=s)->(dW f n).length=n*s
 | 0,_=>by simp[dW]
 | n+1,h=>by rw[dW,zK,gz (λi hi=>h i (O)),h n (O),qD]; omega
theorem tU{f:Nat->List Value}{s:Nat}:∀ {n:Nat},(∀ i,i<n->(f i).length=s)->∀ i j,i<n->j<s->(dW f n)[i*s+j]? = (f i)[j]?
 | 0,_,i,_,hi,_=>absurd hi (zW i)
 | n+1,h,i,j,hi,hj=>by
  have R:=gz (f:=f) (n:=n) (λi hi=>h i (O))
  rw[dW]
  by_cases Ja:i<n
  ·have:i*s+s<=n*s:=by rw[<- qB]; exact X _ Ja
   rw[zG (O)]
   exact tU (λi hi=>h i (O)) i j Ja hj
  ·grind
theorem HM{f:Nat->List Value}:∀ {n:Nat},(∀ i,i<n->∀ v∈f i,v.oneCell'=true)->∀ v∈dW f n,v.oneCell'=true
 | 0,_,v,hv=>by simp[dW]at hv
 | n+1,h,v,hv=>by
  rw[dW,qZ]at hv
  rcases hv with hv | hv
  ·exact HM (λi hi=>h i (O)) v hv
  ·grind
theorem Ek{f:Nat->List Value}{s:Nat}{n p:Nat}{v:Value}(hs:0<s)(h:∀ i,i<n->(f i).length=s)(hp:(dW f n)[p]? = some v):∃ i j,i<n/\j<s/\p=i*s+j/\(f i)[j]? = some v:=by
 have wM:=(B.1 hp).1
 rw[gz h]at wM
 have hi:p / s<n:=(Nat.div_lt_iff_lt_mul hs).2 wM
 have hj:=Nat.mod_lt p hs
 have he:p / s*s+p % s=p:=Nat.div_add_mod' p s
 refine⟨p / s,p % s,hi,hj,he.symm,?_⟩
 rw[<- tU h _ _ hi hj,he]; exact hp
def Th(Z:KS):Nat->Prop:=λk=>Z.ok k\/∃ b n:Nat,Z.ph[b]? = some (some (k,n))
structure Src(Z:KS)(e:Ty)(ys:List (den e))(v:Value):Prop where
 ex:∃ (a:Option Addr) (cap:Nat) (f:Nat->List Value),v=.slice a ys.length cap/\ys.length<=cap/\(a=none->ys=[]/\cap=0)/\(∀ i (hi:i<ys.length),Rc Z.w Z.ok e ys[i] (f i)) /\
  ∀ p,a=some p->(ys=[]/\cap=0)\/(p.spot=none/\Th Z p.block/\∀ i,i<ys.length->∀ j u,(f i)[j]? = some u->Z.w.cell? ⟨p.block,p.off+i*e.size+j,none⟩=some u)
theorem D9{e:Ty}{ys:List (den e)}{v:Value}(h:RD Z (.qi (.sl e) ys) v):Src Z e ys v:=by
 rcases(h.jF rfl).tA with⟨rfl,a0,he⟩ | ⟨blk,off,cap,f,he,j3,jg,h1,M⟩
 ·cases he; exact⟨⟨a0,0,λ_=>[],rfl,zE _,λ_=>⟨rfl,rfl⟩,λi hi=>absurd hi (zW i),λ_ _=>.inl ⟨rfl,rfl⟩⟩⟩
 ·cases he; exact⟨⟨some ⟨blk,off,none⟩,cap,f,rfl,jg,nofun,h1,λp hp=>by cases hp; exact .inr ⟨rfl,.inl j3,M⟩⟩⟩
theorem Wh{e:Ty}{ys:List (den e)}{ne:Bool}{v:Value}(h:RD Z (.tight e ys ne) v):Src Z e ys v:=by
 cases h with
 | vy _ a0=>exact⟨⟨a0,0,λ_=>[],rfl,zE _,λ_=>⟨rfl,rfl⟩,λi hi=>absurd hi (zW i),λ_ _=>.inl ⟨rfl,rfl⟩⟩⟩
 | tight _ _ _ blk off f jZ j3 h1 M=>exact⟨⟨some ⟨blk,off,none⟩,_,f,rfl,zE _,nofun,h1,λp hp=>by cases hp; exact .inr ⟨rfl,.inl j3,M⟩⟩⟩
theorem KN{e:Ty}{v:Value}(h:RD Z .wF v):Src Z e [] v:=by
 cases h; exact⟨⟨none,0,λ_=>[],rfl,zE _,λ_=>⟨rfl,rfl⟩,λi hi=>absurd hi (zW i),nofun⟩⟩
theorem LP{b vi off len:Nat}{e:Ty}{xs:List (den e)}{v:Value}(hI:Inv Z)(h:RD Z (.ms b vi e off len) v)(I:Z.st[b]? = some (.arr vi e xs)):Src Z e ((xs.take (off+len)).drop off) v/\off+len<=xs.length:=by
 cases h with
 | ms _ _ _ _ _ cap a hold jg ha Ws hm =>
  obtain⟨hle,hm⟩:=hm xs I
  have R:((xs.take (off+len)).drop off).length=len:=by simp; omega
  have hg:∀ i (hi:i<((xs.take (off+len)).drop off).length),∃ h:off+i<xs.length,((xs.take (off+len)).drop off)[i]=xs[off+i]:=λi hi=>⟨O,by simp[List.getElem_drop,List.getElem_take]⟩
  refine⟨?_,hle⟩
  rcases hm with⟨rfl,rfl,hv,hp⟩ | ⟨blk,n,o,VH,h3,h4,h5,h6,h7⟩
  ·cases hv
   have:(xs.take (0+0)).drop 0=[]:=qz
   rw[this]
   exact⟨⟨none,0,λ_=>[],rfl,zE _,λ_=>⟨rfl,rfl⟩,λi hi=>absurd hi (zW i),nofun⟩⟩
  ·cases h4
   obtain⟨bM,⟨Ym,_⟩ | ⟨pE,n',cs,T,g1,g2,g3,g4,gr,f,g5⟩⟩:=hI.blk b _ I
   ·grind
   ·rw[h3]at g1
    cases g1
    refine⟨⟨some ⟨blk,o,none⟩,cap,λi=>f (off+i),by rw[R],by rw[R]; exact jg,nofun,λi hi => ?_,λp hp => ?_⟩⟩
    ·grind
    ·cases hp
     refine .inr ⟨rfl,.inr ⟨b,n,h3⟩,λi hi j u hj => ?_⟩
     obtain⟨k1,_⟩:=hg i hi
     have:=(g5 _ k1).2 j u hj
     rw[XX g2]
     rcases h7 with h7 | h7
     ·omega
     ·rw[h7,<- qD]; exact this
theorem Wg{e:Ty}{ys:List (den e)}{v:Value}(h:Src Z e ys v)(bM:0<e.size):∃ (news:List Value) (f:Nat->List Value),news=dW f ys.length/\(∀ i (hi:i<ys.length),Rc Z.w Z.ok e ys[i] (f i)) /\
  (∀ P,(qS v).run P Z.w=.ok ys.length Z.w)/\(∀ P,(zO e.size ys.length v).run P Z.w=.ok news.toArray Z.w)/\(∀ P,(zO e.size ys.length v).run P Z.w.drew=.ok news.toArray Z.w.drew):=by
 obtain⟨a,cap,f,rfl,_,hn,h1,M⟩:=h.ex
 have hf:∀ i,i<ys.length->(f i).length=e.size:=λi hi=>(h1 i hi).len
 refine⟨dW f ys.length,f,rfl,h1,λP=>rfl,λP => ?_,λP => ?_⟩
 all_goals
  cases a with
  | none=>have:=(hn rfl).1; subst this; simp[zO,dW]
  | some p =>
   rcases M p rfl with⟨rfl,_⟩ | ⟨hp,_,hc⟩
   ·simp[zO,dW,loadCells,loadCellsFrom]
   obtain⟨blk,o,sp⟩:=p
   subst hp
   refine run_firstCells_some (P:=P) _ e.size ys.length ⟨blk,o,none⟩ ys.length cap (dW f ys.length) (gz hf) λj u hj => ?_
   obtain⟨i,k,hi,hk,rfl,hu⟩:=Ek bM hf hj
   rw[addr_add]
   try rw[World.cell?_drew]
   grind
structure Cel(Z:KS)(e:Ty)(ys:List (den e))(v:Value):Prop where
 ex:∃ (news:List Value) (f:Nat->List Value),news=dW f ys.length/\(∀ i (hi:i<ys.length),Rc Z.w Z.ok e ys[i] (f i)) /\
  (∀ P,(qS v).run P Z.w=.ok ys.length Z.w)/\(∀ P,(zO e.size ys.length v).run P Z.w=.ok news.toArray Z.w)/\(∀ P,(zO e.size ys.length v).run P Z.w.drew=.ok news.toArray Z.w.drew)
theorem z8V{e:Ty}{ys:List (den e)}{v:Value}(h:Src Z e ys v)(bM:0<e.size):Cel Z e ys v:=⟨Wg h bM⟩
def Rd(c:Ctx)(t2:TypeId):Prop:=(∃ e,c.P.underlying t2=some (.slice e))\/c.P.underlying t2=some .string
section run
variable {t t2 e:TypeId} {i:TypeInfo} {z:Value} {sLen sCap n:Nat} {base:Option Addr} {x:Value} {news olds:List Value} {ty:TypeId}
theorem run_append_fits(ht:c.P.underlying t=some (.slice e))(RV:Rd c t2)(hi:c.P.info? e=some i)(hlen:∀ P,(qS x).run P Z.w=.ok n Z.w)(hf:∀ P,(zO i.size n x).run P Z.w=.ok news.toArray Z.w)
  (Qq:sLen+n<=sCap) {w':World} (vX:(match base with | some a=>storeCells (a.add (sLen*i.size)) news | none=>pure ()).run c.P Z.w=.ok () w') :
  (zL #[t,t2] ty #[.slice base sLen sCap,x]).run c.P Z.w=.ok (.slice base (sLen+n) sCap) w':=by
 rcases RV with⟨e2,RV⟩ | RV
 all_goals cases base with
 | none=>simp at vX; subst vX; simp[zL,run_underlying ht,run_underlying RV,sizeOf,typeInfo,hi,hlen,Qq,hf]
 | some a=>simp only at vX; simp[zL,run_underlying ht,run_underlying RV,sizeOf,typeInfo,hi,hlen,Qq,hf,vX]
theorem rS(ht:c.P.underlying t=some (.slice e))(RV:Rd c t2)(hi:c.P.info? e=some i)(hz:i.zero=some z)(hlen:∀ P,(qS x).run P Z.w=.ok n Z.w)(hf:∀ P,(zO i.size n x).run P Z.w.drew=.ok news.toArray Z.w.drew)
  (ho:∀ P,(zO i.size sLen (.slice base sLen sCap)).run P Z.w.drew=.ok olds.toArray Z.w.drew)
  (hg:sCap<sLen+n) (h63:((sLen+n:Nat):Int)<=9223372036854775807) (I:(sLen+n)*i.bytes<=140737488355328) :
  (zL #[t,t2] ty #[.slice base sLen sCap,x]).run c.P Z.w=.ok (.slice (some ⟨Z.w.heap.size,0,none⟩) (sLen+n) (grownCap Z.w (sLen+n) sCap e))
   (Z.w.drew.alloc (.cells (olds.toArray++news.toArray++zX z.cells (grownCap Z.w (sLen+n) sCap e-(sLen+n))) e)):=by
 have h1:¬ (sLen+n<=sCap):=O
 have M:¬ (9223372036854775807<((sLen+n:Nat):Int)):=O
 have h3:=growslice_fits (bytes:=i.bytes) hg I
 have h4:¬ (281474976710656<Builtin.nextslicecap (sLen+n) sCap*i.bytes):=O
 have h5:IntKind.i64.max=9223372036854775807:=xn
 rcases RV with⟨e2,RV⟩ | RV
 all_goals
  simp[zL,run_underlying ht,run_underlying RV,sizeOf,typeInfo,zeroValue,hi,hz,hlen,hf,ho,Question.forced,newRow,grownCap]
  grind
end run
theorem XD(z:Array Value)(n:Nat):(zX z n).size=n*z.size:=by simp[zX]
theorem Yw{e:Ty}{l ys:List (den e)}{f g:Nat->List Value}(R:∀ i (hi:i<l.length),Rc Z.w Z.ok e l[i] (f i))(hy:∀ i (hi:i<ys.length),Rc Z.w Z.ok e ys[i] (g i))(zs:List Value) :
  ∀ i (hi:i<(l++ys).length),Rc Z.w Z.ok e (l++ys)[i] (if i<l.length then f i else g (i-l.length)) /\
   ∀ j v,(if i<l.length then f i else g (i-l.length))[j]? = some v->(dW f l.length++dW g ys.length++zs)[i*e.size+j]? = some v:=by
 have JI:∀ i,i<l.length->(f i).length=e.size:=λi hi=>(R i hi).len
 have Ta:∀ i,i<ys.length->(g i).length=e.size:=λi hi=>(hy i hi).len
 have h1:=gz JI
 have M:=gz Ta
 intro i hi
 by_cases RQ:i<l.length
 ·simp only[if_pos RQ]
  refine⟨xz,λj v hj => ?_⟩
  have Tc:j<e.size:=by rw[<- JI i RQ]; exact(B.1 hj).1
  have:i*e.size+e.size<=l.length*e.size:=by rw[<- qB]; exact X _ RQ
  rw[qI,zG (O),tU JI i j RQ Tc]
  exact hj
 ·simp only[if_neg RQ]
  simp only[zK]at hi
  have zbG:i-l.length<ys.length:=O
  refine⟨xz,λj v hj => ?_⟩
  have Tc:j<e.size:=by rw[<- Ta _ zbG]; exact(B.1 hj).1
  have e1:i*e.size=l.length*e.size+(i-l.length)*e.size:=by rw[<- qD]; congr 1; omega
  have:(i-l.length)*e.size+e.size<=ys.length*e.size:=by rw[<- qB]; exact X _ zbG
  rw[qI,qC (O),h1,zG (O)]
  rw[show i*e.size+j-l.length*e.size=(i-l.length)*e.size+j by omega,tU Ta _ j zbG Tc]
  exact hj
theorem Ie{t t2 et:Nat}{e:Ty}{l ys:List (den e)}{sv v:Value}{bytes:Nat}{ty:Nat}(hI:Inv Z)(hu:c.P.underlying t=some (.slice et))(MU:Rd c t2)(j3:ca c et e=true)(bM:0<e.size)(Cq:pF c et=some bytes)(hz:∃ y,zeroOf c et e=some y)
  (hs:Src Z e l sv) (jg:∃ a,sv=.slice a l.length l.length) (hv:Cel Z e ys v) (jZ:ys≠[]) (I:(l.length+ys.length)*bytes<=140737488355328) (hn:l.length+ys.length<=9223372036854775807) :
  ∃ (Y:KS) (r:Value),(zL #[t,t2] ty #[sv,v]).run c.P Z.w=.ok r Y.w/\Y.st=Z.st++[.arr (l.length+ys.length) e (l++ys)]/\Inv Y/\Ext Z Y/\RD Y (.ms Z.st.length (l.length+ys.length) e 0 (l.length+ys.length)) r:=by
 obtain⟨Tg,_⟩:=jY j3
 obtain⟨i,Cs,US⟩:=ml Tg
 obtain⟨y,hy⟩:=hz
 obtain⟨i',zv,g1,g2,g3⟩:=fG (Z:=Z) hy
 obtain⟨i'',k1,k2⟩:=sw Cq
 rw[Cs]at g1 k1
 cases g1
 cases k1
 obtain⟨olds,f,ho1,ho2,ho3,ho4,ho5⟩:=Wg hs bM
 obtain⟨news,g,Yl,Ct,hn3,hn4,hn5⟩:=hv.ex
 obtain⟨a,hsv⟩:=jg
 subst hsv
 have Wr:0<ys.length:=List.length_pos_iff.2 jZ
 have jL:=rS (c:=c) (Z:=Z) (t:=t) (t2:=t2) (e:=et) (ty:=ty) (base:=a) (sLen:=l.length) (sCap:=l.length) (n:=ys.length) (x:=v) (news:=news) (olds:=olds) hu MU Cs g2 hn3
  (by intro P; rw[US]; exact hn5 P) (by intro P; rw[US]; exact ho5 P) (O) (O) (by rw[k2]; exact I)
 let C:=grownCap Z.w (l.length+ys.length) l.length et
 have hC:l.length+ys.length<=C:=grownCap_ge _ _ _ _
 let zs:=zX zv.cells (C-(l.length+ys.length))
 let cells:=olds.toArray++news.toArray++zs
 have hzs:zs.size=(C-(l.length+ys.length))*e.size:=by have:=g3.len; simp only[qG]at this; simp[zs,XD,this]
 have Tf:olds.length=l.length*e.size:=by rw[ho1]; exact gz λi hi=>(ho2 i hi).len
 have hnl:news.length=ys.length*e.size:=by rw[Yl]; exact gz λi hi=>(Ct i hi).len
 have QA:cells.size=C*e.size:=by
  simp only[cells,Array.size_append,zY,Tf,hnl,hzs,<- qD]
  grind
 have gr:=mM.drew Z.w (.cells cells et)
 have hex:=Zh (n:=cells.size) (x:=.arr (l.length+ys.length) e (l++ys)) hI gr
 refine⟨Z.add _ cells.size (.arr (l.length+ys.length) e (l++ys)),_,jL,rfl,VD hI gr ?_,hex,?_⟩
 ·refine⟨bM,.inr ⟨Z.w.heap.size,cells.size,cells,et,tk hI,gr.new,rfl,?_,Ut j3,λi=>if i<l.length then f i else g (i-l.length),λi hi => ?_⟩⟩
  ·rw[QA,zK]; exact X _ hC
  ·obtain⟨q1,q2⟩:=Yw ho2 Ct zs.toList i hi
   refine⟨q1.mono hex.same,λj v hj => ?_⟩
   grind
 ·refine .ms _ (l.length+ys.length) e 0 _ C _ (.inr ⟨l.length+ys.length,e,_,QD,zE _⟩) hC nofun (λp hp=>by cases hp; rfl) λxs Yo => ?_
  rw[QD]at Yo
  cases Yo
  exact⟨qz,.inr ⟨Z.w.heap.size,cells.size,0,C,tk hI,rfl,hC,by rw[QA]; simp,.inr (qz)⟩⟩
theorem Ig{t t2 et:Nat}{e:Ty}{ys:List (den e)}{p:Addr}{v:Value}{bytes:Nat}{ty:Nat}(hI:Inv Z)(hu:c.P.underlying t=some (.slice et))(MU:Rd c t2)(j3:ca c et e=true)(bM:0<e.size)(Cq:pF c et=some bytes)(hz:∃ y,zeroOf c et e=some y)
  (hv:Cel Z e ys v) (jZ:ys≠[]) (I:ys.length*bytes<=140737488355328) (hn:ys.length<=9223372036854775807) :
  ∃ (Y:KS) (r:Value),(zL #[t,t2] ty #[.slice (some p) 0 0,v]).run c.P Z.w=.ok r Y.w/\Y.st=Z.st/\Inv Y/\Ext Z Y/\RD Y (.so e ys true) r:=by
 obtain⟨Tg,_⟩:=jY j3
 obtain⟨i,Cs,US⟩:=ml Tg
 obtain⟨y,hy⟩:=hz
 obtain⟨i',zv,g1,g2,g3⟩:=fG (Z:=Z) hy
 obtain⟨i'',k1,k2⟩:=sw Cq
 rw[Cs]at g1 k1
 cases g1
 cases k1
 obtain⟨news,g,Yl,Ct,hn3,hn4,hn5⟩:=hv.ex
 have Wr:0<ys.length:=List.length_pos_iff.2 jZ
 have jL:=rS (c:=c) (Z:=Z) (t:=t) (t2:=t2) (e:=et) (ty:=ty) (base:=some p) (sLen:=0) (sCap:=0) (n:=ys.length) (x:=v) (news:=news) (olds:=[]) hu MU Cs g2 hn3
  (by intro P; rw[US]; exact hn5 P) (by intro P; obtain⟨_,_,e1,_,_,_,e5⟩:=Wg (Z:=Z) (e:=e) (ys:=[]) (v:=.slice (some p) 0 0) (D9 (.qi (.sl e) [] _ (.lA e (some p)))) bM; rw[US]; have:=e5 P; rw[e1]at this; exact this) (O) (O) (by rw[k2,qE]; exact I)
 rw[qE]at jL
 let C:=grownCap Z.w ys.length 0 et
 have hC:ys.length<=C:=grownCap_ge _ _ _ _
 let zs:=zX zv.cells (C-ys.length)
 let cells:=([]:List Value).toArray++news.toArray++zs
 have gr:=mM.drew Z.w (.cells cells et)
 have hex:=XR hI gr
 have Dz:Rc (Z.qi (Z.w.drew.alloc (.cells cells et))).w (Z.qi (Z.w.drew.alloc (.cells cells et))).ok (.sl e) ys [.slice (some ⟨Z.w.heap.size,0,none⟩) ys.length C]:=by
  refine .sl e ys Z.w.heap.size 0 C g (.inr rfl) hC (λi hi=>(Ct i hi).mono hex.same) λi hi j u hu => ?_
  have Ta:∀ i,i<ys.length->(g i).length=e.size:=λi hi=>(Ct i hi).len
  have hj:j<e.size:=by rw[<- Ta i hi]; exact(B.1 hu).1
  have hnl:news.length=ys.length*e.size:=by rw[Yl]; exact gz Ta
  have hle:i*e.size+e.size<=ys.length*e.size:=by rw[<- qB]; exact X _ hi
  have IS:news[i*e.size+j]? = some u:=by rw[Yl,tU Ta i j hi hj]; exact hu
  have eD:cells[i*e.size+j]? = some u:=by
   show(([]:List Value).toArray++news.toArray++zs)[i*e.size+j]? = some u
   rw[Array.getElem?_append_left (by simp; omega)]
   simpa using IS
  have H5:(Z.qi (Z.w.drew.alloc (.cells cells et))).w.heap[Z.w.heap.size]? = some (.cells cells et (0,0)):=gr.new
  simp only[World.cell?,qE,H5]
  simpa using eD
 refine⟨Z.qi _,_,jL,rfl,cP hI gr,hex,.so e ys true _ Dz (λ_=>⟨_,_,_,rfl,λe=>absurd e jZ⟩) nofun⟩
def KS.re(Z:KS)(w':World)(b n:Nat)(x:cL):KS:={ Z with w:=w',ph:=Z.ph.set b (some (Z.w.heap.size,n)),st:=Z.st.set b x }
theorem LF{w':World}{o:Obj}{b n v0 v1:Nat}{e:Ty}{xs ys:List (den e)}(hI:Inv Z)(g:mM Z.w w' o)(I:Z.st[b]? = some (.arr v0 e xs))(hv:v0<v1):Ext Z (Z.re w' b n (.arr v1 e ys)):=by
 refine⟨g.os,g.tape,g.output,by show Z.w.heap.size<=w'.heap.size; rw[g.size]; omega,λk hk=>⟨hk,g.old (hI.bN k hk)⟩,λk hk=>.inl hk,?_,?_,?_,?_,by simp[KS.re],λk hk _=>g.old hk⟩
 ·intro b' blk m h
  simp only[KS.re]at h
  grind
 ·intro b' d J
  have jZ:b≠b':=λe=>by subst e; rw[I]at J; cases J
  simp only[KS.re]
  grind
 ·intro b' u0 e' zs J
  simp only[KS.re]
  grind
 ·intro b' J
  have jZ:b≠b':=λe=>by subst e; rw[I]at J; cases J
  simp only[KS.re,zT,if_neg jZ]
  exact J
theorem zd1{w':World}{o:Obj}{b n v0 v1:Nat}{e:Ty}{xs ys:List (den e)}(hI:Inv Z)(g:mM Z.w w' o)(I:Z.st[b]? = some (.arr v0 e xs))(hv:v0<v1)
  (N:pB (Z.re w' b n (.arr v1 e ys)) b (.arr v1 e ys)):Inv (Z.re w' b n (.arr v1 e ys)):=by
 have hold:∀ (b' blk m:Nat),(Z.ph.set b (some (Z.w.heap.size,n)))[b']? = some (some (blk,m))->(b≠b'/\Z.ph[b']? = some (some (blk,m)))\/(b=b'/\blk=Z.w.heap.size):=by
  grind
 refine⟨by simp[KS.re,hI.len],?_,?_,?_,?_,hI.gl.mono (LF (n:=n) (ys:=ys) hI g I hv).same⟩
 ·intro k hk; have:=hI.bN k hk; show k<w'.heap.size; rw[g.size]; omega
 ·intro b' blk m h
  rcases hold b' blk m h with⟨_,h⟩ | ⟨rfl,rfl⟩
  ·obtain⟨h1,M⟩:=hI.apart b' blk m h
   exact⟨by show blk<w'.heap.size; rw[g.size]; omega,M⟩
  ·exact⟨by show Z.w.heap.size<w'.heap.size; rw[g.size]; omega,λhk=>absurd (hI.bN _ hk) (Nat.lt_irrefl _)⟩
 ·intro b1 b2 blk m m' h h'
  rcases hold b1 blk m h with⟨_,h⟩ | ⟨rfl,rfl⟩<;>rcases hold b2 _ m' h' with⟨_,h'⟩ | ⟨rfl,h''⟩
  ·exact hI.inj b1 b2 blk m m' h h'
  ·have:=(hI.apart b1 blk m h).1; omega
  ·have:=(hI.apart b2 _ m' h').1; omega
  ·rfl
 ·intro b' y hy
  simp only[KS.re,zT]at hy
  split at hy
  ·grind
  ·rename_i e1
   refine(hI.blk b' y hy).mono (LF hI g I hv) ?_ λblk m h=>g.old (hI.apart b' blk m h).1
   simp only[KS.re,zT,if_neg e1]
theorem Gm{α:Type}{l:List α}{i:Nat}{a:α}(h:l[i]? = some a):l.set i a=l:=by
 apply List.ext_getElem?
 grind
theorem Rj{t t2 et b vi len:Nat}{e:Ty}{xs ys:List (den e)}{sv v:Value}{bytes:Nat}{ty:Nat}(hI:Inv Z)(hu:c.P.underlying t=some (.slice et))(MU:Rd c t2)(j3:ca c et e=true)(bM:0<e.size)(Cq:pF c et=some bytes)
  (hz:∃ y,zeroOf c et e=some y) (hs:RD Z (.ms b vi e 0 len) sv) (I:Z.st[b]? = some (.arr vi e xs)) (hlen:len=xs.length) (hv:Cel Z e ys v) (IT:(xs.length+ys.length)*bytes<=140737488355328)
  (hn:xs.length+ys.length<=9223372036854775807) :
  ∃ (Y:KS) (r:Value),(zL #[t,t2] ty #[sv,v]).run c.P Z.w=.ok r Y.w/\Y.st=Z.st.set b (.arr (vi+ys.length) e (xs++ys))/\Inv Y/\Ext Z Y/\RD Y (.ms b (vi+ys.length) e 0 (len+ys.length)) r:=by
 subst hlen
 have wM:b<Z.st.length:=(B.1 I).1
 have H3:b<Z.ph.length:=by rw[hI.len]; exact wM
 obtain⟨Tg,_⟩:=jY j3
 obtain⟨i,Cs,US⟩:=ml Tg
 obtain⟨y,hy⟩:=hz
 obtain⟨i',zv,g1,g2,g3⟩:=fG (Z:=Z) hy
 obtain⟨i'',k1,k2⟩:=sw Cq
 rw[Cs]at g1 k1
 cases g1
 cases k1
 have Cv:=(LP hI hs I).1
 simp only[qE,List.take_length,List.drop_zero]at Cv
 obtain⟨olds,f,ho1,ho2,ho3,ho4,ho5⟩:=Wg Cv bM
 obtain⟨news,g,Yl,Ct,hn3,hn4,hn5⟩:=hv.ex
 have Tf:olds.length=xs.length*e.size:=by rw[ho1]; exact gz λi hi=>(ho2 i hi).len
 have hnl:news.length=ys.length*e.size:=by rw[Yl]; exact gz λi hi=>(Ct i hi).len
 have HP:∀ u∈news,u.oneCell'=true:=by rw[Yl]; exact HM λi hi=>(Ct i hi).one
 cases hs with
 | ms _ _ _ _ _ cap a hold jg ha Ws hm =>
  obtain⟨hle,hm⟩:=hm xs I
  by_cases Qq:xs.length+ys.length<=cap
  ·-- there is room
   rcases hm with⟨h1,_,hv',hp⟩ | ⟨blk,n,o,VH,h3,h4,h5,h6,h7⟩
   ·simp only[Value.slice.injEq]at hv'
    obtain⟨rfl,I1,rfl⟩:=hv'
    have KA:xs=[]:=zM h1
    have hy0:ys=[]:=zM (O)
    subst KA hy0
    refine⟨Z,.slice none 0 0,?_,?_,hI,Ext.refl Z,.ms b vi e 0 0 0 none hold (zE _) (λ_=>rfl) nofun λzs hzs => ?_⟩
    ·have Td:news=[]:=zM (by simpa using hnl)
     subst Td
     exact run_append_fits (c:=c) (Z:=Z) (t:=t) (t2:=t2) (e:=et) (ty:=ty) (base:=none) (sLen:=0) (sCap:=0) (n:=0) (x:=v) (news:=[]) hu MU Cs hn3 (by intro P; rw[US]; exact hn4 P) (O) rfl
    ·simp only[List.length_nil,xH,List.append_nil]
     rw[Gm I]
    ·grind
   ·cases h4
    obtain⟨_,⟨Ym,hpn⟩ | ⟨pE,n',cs,T,p1,p2,p3,p4,pr,F,p5⟩⟩:=hI.blk b _ I
    ·grind
    ·rw[h3]at p1
     cases p1
     have ho:xs.length+ys.length=0\/o=0:=by
      grind
     have zfN:cap*e.size<=cs.size:=by rw[p3]; simpa using h6
     have GY:xs.length*e.size+ys.length*e.size<=cs.size:=by
      rw[<- qD]; exact qN (X _ Qq) zfN
     let my:=(cs.toList.take (xs.length*e.size)++news++cs.toList.drop (xs.length*e.size+news.length)).toArray
     have Kx:cs.toList.length=cs.size:=qz
     have GX:my.size=cs.size:=by simp only[my,zY,zK,zU,qK,hnl,Kx]; omega
     have hoa:∀ m,(⟨blk,o,none⟩:Addr).add (xs.length*e.size)=⟨blk,xs.length*e.size,none⟩\/m=0\/xs.length+ys.length=0:=by
      intro m
      rcases ho with h | h
      ·grind
      ·subst h; rw[addr_add,qE]; exact .inl rfl
     have vX:(storeCells ((⟨blk,o,none⟩:Addr).add (xs.length*i.size)) news).run c.P Z.w=.ok () (Z.w.setRow blk my):=by
      rw[US]
      rcases hoa 1 with h | h | h
      ·rw[h]
       have:=run_storeCells_at c.P blk (xs.length*e.size) T news 0 cs Z.w p2 (by rw[hnl]; omega) HP
       simpa only[xH]using this
      ·cases h
      ·have Td:news=[]:=zM (by rw[hnl,show ys.length=0 by omega]; simp)
       have KA:xs.length=0:=O
       have hce:my=cs:=by simp[my,Td,KA]
       rw[Td,hce,setRow_self _ _ _ _ _ p2]
       rfl
     have Kd:Alike (.arr vi e xs) (.arr (vi+ys.length) e (xs++ys)):=⟨rfl,O,λh=>by rw[zK]; omega⟩
     have hex:=UM (cs:=my) (x:=.arr (vi+ys.length) e (xs++ys)) hI h3 I Kd
     refine⟨Z.upd b blk my (.arr (vi+ys.length) e (xs++ys)),.slice (some ⟨blk,o,none⟩) (xs.length+ys.length) cap,?_,rfl,UN hI h3 I Kd ?_,hex,?_⟩
     ·exact run_append_fits (c:=c) (Z:=Z) (t:=t) (t2:=t2) (e:=et) (ty:=ty) (base:=some ⟨blk,o,none⟩) (sLen:=xs.length) (sCap:=cap) (n:=ys.length) (x:=v) (news:=news) hu MU Cs hn3 (by intro P; rw[US]; exact hn4 P) Qq vX
     ·refine⟨bM,.inr ⟨blk,n,my,T,h3,setRow_heap _ _ _ _ _ _ p2,by rw[GX]; exact p3,?_,pr,λi=>if i<xs.length then F i else g (i-xs.length),λi hi => ?_⟩⟩
      ·rw[zK]; exact qN (X _ Qq) (by simpa using h6)
      ·have hF:∀ i (hi:i<xs.length),Rc Z.w Z.ok e xs[i] (F i):=λi hi=>(p5 i hi).1
       have z9I:∀ i,i<xs.length->(F i).length=e.size:=λi hi=>(hF i hi).len
       have HQ:cs.toList.take (xs.length*e.size)=dW F xs.length:=by
        apply List.ext_getElem?
        intro p
        rw[List.getElem?_take]
        have JI:=gz z9I
        split
        ·rename_i hp
         obtain⟨q,hq⟩:∃ q,(dW F xs.length)[p]? = some q:=⟨_,zN (by rw[JI]; exact hp)⟩
         obtain⟨i',j',a1,a2,a3,a4⟩:=Ek bM z9I hq
         rw[hq]
         have:=(p5 i' a1).2 j' q a4
         rw[a3,zV]; exact this
        ·rename_i hp
         rw[List.getElem?_eq_none (by rw[JI]; omega)]
       obtain⟨q1,q2⟩:=Yw hF Ct (cs.toList.drop (xs.length*e.size+news.length)) i hi
       refine⟨q1.mono hex.same,λj w hj => ?_⟩
       have:=q2 j w hj
       rw[<- Yl,<- HQ]at this
       simpa only[my,xA]using this
     ·refine .ms b _ e 0 _ cap _ (.inr ⟨vi+ys.length,e,xs++ys,by simp[KS.upd,KS.Vt,wM],zE _⟩) Qq nofun (λp hp=>by cases hp; rfl) λzs hzs => ?_
      have:zs=xs++ys:=by simp only[KS.upd,KS.Vt,qW wM]at hzs; cases hzs; rfl
      subst this
      refine⟨qz,.inr ⟨blk,n,o,cap,h3,rfl,Qq,by simpa using h6,?_⟩⟩
      rcases h7 with h7 | h7
      ·exact .inl h7
      ·exact .inr (by simpa using h7)
  ·-- it grows
   have Wr:0<ys.length:=O
   have jL:=rS (c:=c) (Z:=Z) (t:=t) (t2:=t2) (e:=et) (ty:=ty) (base:=a) (sLen:=xs.length) (sCap:=cap) (n:=ys.length) (x:=v) (news:=news) (olds:=olds) hu MU Cs g2 hn3
    (by intro P; rw[US]; exact hn5 P) (by intro P; rw[US]; exact ho5 P) (O) (O) (by rw[k2]; exact IT)
   let C:=grownCap Z.w (xs.length+ys.length) cap et
   have hC:xs.length+ys.length<=C:=grownCap_ge _ _ _ _
   let zs:=zX zv.cells (C-(xs.length+ys.length))
   let cells:=olds.toArray++news.toArray++zs
   have hzs:zs.size=(C-(xs.length+ys.length))*e.size:=by have:=g3.len; simp only[qG]at this; simp[zs,XD,this]
   have QA:cells.size=C*e.size:=by
    simp only[cells,Array.size_append,zY,Tf,hnl,hzs,<- qD]
    congr 1; omega
   have gr:=mM.drew Z.w (.cells cells et)
   have z0X:vi<vi+ys.length:=O
   have hex:=LF (n:=cells.size) (ys:=xs++ys) hI gr I z0X
   refine⟨Z.re _ b cells.size (.arr (vi+ys.length) e (xs++ys)),_,jL,rfl,zd1 hI gr I z0X ?_,hex,?_⟩
   ·refine⟨bM,.inr ⟨Z.w.heap.size,cells.size,cells,et,by simp[KS.re,H3],gr.new,rfl,?_,Ut j3,λi=>if i<xs.length then f i else g (i-xs.length),λi hi => ?_⟩⟩
    ·rw[QA,zK]; exact X _ hC
    ·obtain⟨q1,q2⟩:=Yw ho2 Ct zs.toList i hi
     refine⟨q1.mono hex.same,λj v hj => ?_⟩
     have:=q2 j v hj
     rw[<- ho1,<- Yl]at this
     rw[<- zV]
     simpa[cells]using this
   ·refine .ms b _ e 0 _ C _ (.inr ⟨vi+ys.length,e,xs++ys,by simp[KS.re,wM],zE _⟩) hC nofun (λp hp=>by cases hp; rfl) λus hus => ?_
    have:us=xs++ys:=by simp only[KS.re,qW wM]at hus; cases hus; rfl
    subst this
    exact⟨qz,.inr ⟨Z.w.heap.size,cells.size,0,C,by simp[KS.re,H3],rfl,hC,by rw[QA]; simp,.inr (qz)⟩⟩
end
end Go.AM
namespace Go.AM
set_option linter.unusedSectionVars false
variable [yY]
section
variable {c:Ctx} {Z:KS}
theorem Vr{x y:D}{v:Value}(hI:Inv Z)(N:RD Z x v)(h:(Zc Z.st x).leads y):(y=x/\∀ b vi e off len,x≠.ms b vi e off len)\/∃ (e:Ty) (ys:List (den e)),y=.qi (.sl e) ys/\Src Z e ys v/\∃ b vi off len,x=.ms b vi e off len:=by
 cases x with
 | ms b vi e off len =>
  simp only[Zc]at h
  split at h
  ·rename_i dF e' xs I
   split at h
   ·rename_i he
    subst he
    obtain⟨rfl,h⟩:=h
    refine .inr ⟨e',_,h.symm,(LP hI N I).1,b,vi,off,len,rfl⟩
   ·exact h.elim
  ·exact h.elim
 | _=>exact .inl ⟨h.symm,λ_ _ _ _ _=>nofun⟩
theorem Wu{t t2 et:Nat}{e:Ty}{s:D}{ys:List (den e)}{ne:Bool}{sv v:Value}{bytes ty:Nat}{d:Option D}{ql:St}(hI:Inv Z)(hu:c.P.underlying t=some (.slice et))(MU:Rd c t2)(j3:ca c et e=true)(bM:0<e.size)
  (Cq:pF c et=some bytes) (T7:0<bytes) (hz:∃ y,zeroOf c et e=some y) (hs:RD Z s sv) (hv:Cel Z e ys v) (jZ:ne=true->ys≠[])
  (h:(bp e s ys ne bytes Z.st).leads (d,ql)) :
  ∃ (Y:KS) (r:Value),(zL #[t,t2] ty #[sv,v]).run c.P Z.w=.ok r Y.w/\Y.st=ql/\Inv Y/\Ext Z Y/\∀ d',d=some d'->RD Y d' r:=by
 have hlen:∀ n,n*bytes<=140737488355328->n<=9223372036854775807:=λn hn=>qN (Nat.le_mul_of_pos_right n T7) (qN hn (xn))
 -- nothing is appended
 have same:∀ (a:Option Addr) (n cap:Nat),sv=.slice a n cap->n<=cap->ys=[]->d=some s->ql=Z.st ->
   ∃ (Y:KS) (r:Value),(zL #[t,t2] ty #[sv,v]).run c.P Z.w=.ok r Y.w/\Y.st=ql/\Inv Y/\Ext Z Y/\∀ d',d=some d'->RD Y d' r:=by
  rintro a n cap rfl jg rfl rfl rfl
  obtain⟨Tg,_⟩:=jY j3
  obtain⟨i,Cs,US⟩:=ml Tg
  obtain⟨news,g,Yl,Ct,hn3,hn4,hn5⟩:=hv.ex
  have Td:news=[]:=Yl
  subst Td
  refine⟨Z,.slice a n cap,?_,rfl,hI,Ext.refl Z,λd' he=>by cases he; exact hs⟩
  have:=run_append_fits (c:=c) (Z:=Z) (t:=t) (t2:=t2) (e:=et) (ty:=ty) (base:=a) (sLen:=n) (sCap:=cap) (n:=0) (x:=v) (news:=[]) (i:=i) hu MU Cs hn3 (by intro P; rw[US]; exact hn4 P) (O) (w':=Z.w) (by cases a<;>rfl)
  grind
 have new:∀ l:List (den e),Src Z e l sv->(∃ a,sv=.slice a l.length l.length)->ys≠[]->(pc e l ys bytes Z.st).leads (d,ql) ->
   ∃ (Y:KS) (r:Value),(zL #[t,t2] ty #[sv,v]).run c.P Z.w=.ok r Y.w/\Y.st=ql/\Inv Y/\Ext Z Y/\∀ d',d=some d'->RD Y d' r:=by
  intro l R jg jZ h
  obtain⟨I,h⟩:=h
  cases h
  obtain⟨Y,r,h1,M,h3,h4,h5⟩:=Ie (ty:=ty) hI hu MU j3 bM Cq hz R jg hv jZ I (hlen _ I)
  grind
 unfold bp at h
 split at h
 ·have hsv:sv=.slice none 0 0:=by cases hs; rfl
  cases hn:ne with
  | true=>rw[hn,cond_true]at h; exact new [] (KN hs) ⟨none,hsv⟩ (jZ hn) h
  | false =>
   rw[hn,cond_false]at h
   rcases h with⟨hy,h⟩ | ⟨hy,h⟩
   ·cases h; exact same none 0 0 hsv (zE _) (List.isEmpty_iff.1 hy) rfl rfl
   ·exact new [] (KN hs) ⟨none,hsv⟩ (λe=>by rw[e]at hy; cases hy) h
 ·rename_i e' l ne'
  split at h
  ·rename_i l' L4
   obtain⟨he,z0V⟩:=wg L4
   cases he
   simp only at z0V
   subst z0V
   have hsv:∃ a,sv=.slice a l'.length l'.length:=by
    cases hs with
    | vy=>simp
    | tight=>simp
   cases hn:ne with
   | true=>rw[hn,cond_true]at h; exact new l' (Wh hs) hsv (jZ hn) h
   | false =>
    rw[hn,cond_false]at h
    rcases h with⟨hy,h⟩ | ⟨hy,h⟩
    ·cases h
     obtain⟨a,ha⟩:=hsv
     exact same a _ _ ha (zE _) (List.isEmpty_iff.1 hy) rfl rfl
    ·exact new l' (Wh hs) hsv (λe=>by rw[e]at hy; cases hy) h
  ·exact h.elim
 ·rename_i e' l b
  split at h
  ·rename_i L4
   obtain⟨he,z0V⟩:=wg L4
   cases he
   simp only at z0V
   subst z0V
   cases I:b with
   | false=>rw[I]at h; exact h.elim
   | true =>
    rw[I,cond_true]at h
    subst I
    obtain⟨IT,h⟩:=h
    cases h
    cases hs with
    | so _ _ _ _ hr ht hf =>
     obtain⟨blk,off,cap,rfl,hc⟩:=ht rfl
     have:=hc rfl
     subst this
     by_cases hy:ys=[]
     ·subst hy
      exact same (some ⟨blk,off,none⟩) 0 0 rfl (zE _) rfl rfl rfl
     ·obtain⟨Y,r,h1,M,h3,h4,h5⟩:=Ig (ty:=ty) (p:=⟨blk,off,none⟩) hI hu MU j3 bM Cq hz hv hy IT (hlen _ IT)
      exact⟨Y,r,h1,M,h3,h4,λd' he=>by cases he; exact h5⟩
  ·exact h.elim
 ·rename_i b vi e' off len
  split at h
  ·rename_i dF e'' xs I
   split at h
   ·rename_i xs' GM
    obtain⟨he,zgE⟩:=wg GM
    cases he
    simp only at zgE
    subst zgE
    cases hde:decide (e'=_)with
    | false=>rw[hde]at h; exact h.elim
    | true =>
     rw[hde,cond_true]at h
     have:=uA hde
     subst this
     obtain⟨⟨rfl,rfl,R,IT⟩,h⟩:=h
     cases h
     obtain⟨Y,r,h1,M,h3,h4,h5⟩:=Rj (ty:=ty) hI hu MU j3 bM Cq hz hs I R hv IT (hlen _ IT)
     exact⟨Y,r,h1,M,h3,h4,λd' he=>by cases he; exact h5⟩
   ·exact h.elim
  ·exact h.elim
 ·exact h.elim
theorem DK{t ty:Nat}{s x:Option D}{sv v:Value}{d:Option D}{ql:St}(hI:Inv Z)(hs:∀ z,s=some z->RD Z z sv)(N:∀ z,x=some z->RD Z z v)
  (h:(qu (QE c t s x) Z.st).leads (d,ql)):wz c.P (do zJ (.value (<- zL #[t,t] ty #[sv,v]))) Z d ql:=by
 unfold QE at h
 split at h
 ·exact absurd h zh
 ·rename_i et het
  have hu:=yJ het
  split at h
  ·rename_i e bytes MT Cq
   cases I:ca c et e&&xE 0 e.size&&xE 0 bytes&&(zeroOf c et e).isSome with
   | false=>rw[I]at h; exact absurd h zh
   | true =>
    rw[I,cond_true]at h
    simp only[zI]at I
    obtain⟨⟨⟨j3,h1⟩,M⟩,h3⟩:=I
    have bM:0<e.size:=V h1
    have T7:0<bytes:=V M
    have hz:=zZ.1 h3
    split at h
    ·rename_i s x
     simp only[qu,T.xg]at h
     obtain⟨y,hy,h⟩:=h
     have fin:∀ (ys:List (den e)) (ne:Bool),Src Z e ys v->(ne=true->ys≠[])->(bp e s ys ne bytes Z.st).leads (d,ql)->wz c.P (do zJ (.value (<- zL #[t,t] ty #[sv,v]))) Z d ql:=by
      intro ys ne hv jZ h
      obtain⟨Y,r,g1,g2,g3,g4,g5⟩:=Wu (t2:=t) (ty:=ty) hI hu (.inl ⟨et,hu⟩) j3 bM Cq T7 hz (hs _ rfl) (z8V hv bM) jZ h
      exact⟨Y,.value r,r,by simp only[zH,g1,E]; rfl,.inl rfl,g2,g3,g4,g5⟩
     have MW:=N _ rfl
     rcases Vr hI MW hy with⟨rfl,hnm⟩ | ⟨e',ys,rfl,Cv,_⟩
     ·split at h
      ·rename_i σ z
       split at h
       ·rename_i ys hys
        obtain⟨he,hz'⟩:=wg hys
        cases he
        subst hz'
        exact fin _ false (D9 MW) nofun h
       ·exact h.elim
      ·rename_i σ z ne
       split at h
       ·rename_i ys hys
        obtain⟨he,hz'⟩:=wg hys
        cases he
        subst hz'
        refine fin _ ne (Wh MW) (λjZ => ?_) h
        cases MW with
        | vy=>cases jZ
        | tight _ _ _ _ _ _ q=>exact q jZ
       ·exact h.elim
      ·exact fin [] false (KN MW) nofun h
      ·exact h.elim
     ·simp only at h
      split at h
      ·rename_i ys' hys
       obtain⟨he,hz'⟩:=wg hys
       grind
      ·exact h.elim
    ·exact absurd h zh
  ·exact absurd h zh
theorem z8W{l:zx}{v:Value}(h:RD Z (.qi .str l) v):Cel Z (.int .u8) (bytesOf l) v:=by
 have hv:=h.jc
 subst hv
 have R:(bytesOf l).length=l.length:=by simp[bytesOf]
 have bM:(⟨l.toArray⟩:ByteArray).size=l.length:=zY
 refine⟨Lib.strCells ⟨l.toArray⟩,λi=>[.int .u8 ((bytesOf l)[i]?.getD 0)],?_,λi hi => ?_,λP => ?_,λP => ?_,λP => ?_⟩
 ·have gen:∀ (n:Nat),n<=l.length->dW (λi=>[zP .u8 ((bytesOf l)[i]?.getD 0)]) n=(l.take n).map λb=>zP .u8 b.toNat:=by
   intro n
   induction n with
   | zero=>intro _; rfl
   | succ n ih =>
    intro hn
    have wM:n<l.length:=hn
    rw[dW,ih (O),qJ wM,List.map_append]
    simp[bytesOf,zN wM]
  rw[R,gen _ (zE _),List.take_length]
  rfl
 ·have:(bytesOf l)[i]?.getD 0=(bytesOf l)[i]:=by rw[zN hi]; rfl
  show Rc Z.w Z.ok (.int .u8) (bytesOf l)[i] [zP .u8 ((bytesOf l)[i]?.getD 0)]
  rw[this]
  exact .int .u8 _
 ·show(pure (⟨l.toArray⟩:ByteArray).size:Sem Nat).run P Z.w=_
  rw[bM,R]; rfl
 ·rw[R,<- bM]; exact qP _ _ _
 ·rw[R,<- bM]; exact qP _ _ _
theorem KX{t t2 ty:Nat}{s x:Option D}{sv v:Value}{d:Option D}{ql:St}(hI:Inv Z)(hs:∀ z,s=some z->RD Z z sv)(N:∀ z,x=some z->RD Z z v)
  (h:(qu (tI c t t2 s x) Z.st).leads (d,ql)):wz c.P (do zJ (.value (<- zL #[t,t2] ty #[sv,v]))) Z d ql:=by
 unfold tI at h
 split at h
 ·exact absurd h zh
 ·rename_i et het
  have hu:=yJ het
  split at h
  ·rename_i bytes MT Cq MU
   cases I:ca c et (.int .u8)&&xE 0 bytes&&(zeroOf c et (.int .u8)).isSome with
   | false=>rw[I]at h; exact absurd h zh
   | true =>
    rw[I,cond_true]at h
    simp only[zI]at I
    obtain⟨⟨j3,M⟩,h3⟩:=I
    have T7:0<bytes:=V M
    have hz:=zZ.1 h3
    split at h
    ·rename_i s l
     obtain⟨Y,r,g1,g2,g3,g4,g5⟩:=Wu (t2:=t2) (ty:=ty) hI hu (.inr MU) j3 (xn) Cq T7 hz (hs _ rfl) (ne:=false) (z8W (N _ rfl)) (λe=>by cases e) h
     exact⟨Y,.value r,r,by simp only[zH,g1]; rfl,.inl rfl,g2,g3,g4,g5⟩
    ·exact absurd h zh
  ·exact absurd h zh
end
end Go.AM
namespace Go.AM
set_option linter.unusedSectionVars false
variable [yY]
open Go.RowKit
section
variable {c:Ctx} {Z:KS}
theorem Jd{t:Nat}(h:EN c t=true):∃ k e,c.P.underlying t=some (.map k e)/\c.P.underlying k=some (.int .i64)/\c.P.underlying e=some .bool/\∀ w,(zeroValue e).run c.P w=.ok (.bool false) w:=by
 unfold EN at h
 split at h
 ·rename_i k e ht
  simp only[zI]at h
  obtain⟨⟨h1,M⟩,h3⟩:=h
  refine⟨k,e,ht,?_,?_,λw => ?_⟩
  ·split at h1
   ·rename_i q hq; cases q<;>first | exact hq | cases h1
   ·cases h1
  ·split at M
   ·assumption
   ·cases M
  ·split at h3
   ·rename_i i hi
    split at h3
    ·rename_i z hz
     cases z
     ·simp[zeroValue,typeInfo,run_program,hi,hz]
     ·cases h3
    ·cases h3
   ·cases h3
 ·cases h
theorem keyOf_int{P P':Program}{k k':TypeId}(h:P.underlying k=some (.int .i64))(h':P'.underlying k'=some (.int .i64)):keyOf P k=keyOf P' k':=by
 funext v
 simp only[keyOf,h,h',mapKey]
theorem Rw{P P':Program}{e e':TypeId}(h:P.underlying e=some .bool)(h':P'.underlying e'=some .bool):(plainElem P e:Value->Option (DataW Unit×List MemPlace))=plainElem P' e':=by
 funext v
 simp only[plainElem,h,h']
theorem SG{P P':Program}{k k' e e':TypeId}(h:P.underlying k=some (.int .i64))(h':P'.underlying k'=some (.int .i64))(he:P.underlying e=some .bool)(IV:P'.underlying e'=some .bool)
  {w w':World} {b b' n:Nat} {D:DataW Unit} (ho:w.ownsMap P k (plainElem P e) b n D) (hw:w'.heap[b']? = w.heap[b]?):w'.ownsMap P' k' (plainElem P' e') b' n D:=by
 obtain⟨es,clock,h1,M,h3,h4⟩:=ho
 have e1:(xI P k (plainElem P e):MapEntry->Option (Lit×DataW Unit))=xI P' k' (plainElem P' e'):=by
  funext x; simp only[xI,keyOf_int h h',Rw he IV]
 have e2:(xJ P k (plainElem P e):MapEntry->Lit×DataW Unit)=xJ P' k' (plainElem P' e'):=by
  funext x; simp only[xJ,e1]
 refine⟨es,clock,hw.trans h1,⟨M.size,M.stamped,λx N => ?_⟩,h3,by rw[<- e2]; exact h4⟩
 rw[<- e1]; exact M.reads x N
theorem Bg{P:Program}{k e:TypeId}(h:P.underlying k=some (.int .i64))(he:P.underlying e=some .bool){w:World}{b:Nat}{o:Obj}{l:List Int}{D:DataW Unit}(I:w.heap[b]? = some o)
  (ho:w.ownsMap P k (plainElem P e) b l.length D) (hD:Maps.IsMap D) (hr:∀ n,(Lit.int .i64 n).wf=true->D.atKey (.int .i64 n) (.lit (.bool false))=.lit (.bool (l.contains n))):Tn o l :=
 λ_ _ _ h' IV _ _ hw'=>⟨D,SG h h' he IV ho (hw'.trans I.symm),hD,hr⟩
theorem z5f{P:Program}{e:TypeId}(he:P.underlying e=some .bool){v:Value}{b:Bool}{ps:List MemPlace}(h:plainElem (H:=Unit) P e v=some (.lit (.bool b),ps)):v=.bool b:=by
 unfold plainElem at h
 rw[he]at h
 cases v<;>simp at h
 exact congrArg _ h.1
theorem CH{t:Nat}{r:Option Operand}{f:Operand->Value}{d:Option D}{ql:St}(hI:Inv Z)(h:(qu (Ji c t r) Z.st).leads (d,ql)) :
  wz c.P (do zJ (.value (<- Instr.makeMap t (r.map f)))) Z d ql:=by
 unfold Ji at h
 cases I:EN c t&&r.isNone with
 | false=>rw[I]at h; exact absurd h zh
 | true =>
  rw[I,cond_true]at h
  simp only[zI]at I
  obtain⟨h1,M⟩:=I
  cases r with
  | some r=>cases M
  | none =>
  obtain⟨rfl,rfl⟩:=h
  obtain⟨k,e,ht,hk,he,_⟩:=Jd h1
  have g:=mM.alloc Z.w (.map #[] 0)
  have N:=Zh (n:=0) (x:=.var (.Bm [])) hI g
  refine⟨Z.add _ 0 (.var (.Bm [])),.value (.map (some Z.w.heap.size)),_,?_,.inl rfl,rfl,VD hI g ?_,N,λ_ he=>by cases he; exact .yL _ _ 0 _ QD (tk hI)⟩
  ·simp[KS.add,run_makeMap]
  ·exact⟨Z.w.heap.size,.map #[] 0,tk hI,g.new,Bg hk he (w:=Z.w.alloc (.map #[] 0)) (b:=Z.w.heap.size) g.new (World.ownsMap_made Z.w c.P k (plainElem c.P e)) Go.Maps.isMap_empty λn _=>rfl⟩
theorem ET{t:Nat}{ok:Bool}{m x:Option D}{v u:Value}{d:Option D}{ql:St}(hI:Inv Z)(hm:∀ z,m=some z->RD Z z v)(N:∀ z,x=some z->RD Z z u)
  (h:(qu (YL c t ok m x) Z.st).leads (d,ql)):wz c.P (do zJ (.value (<- Instr.lookup t v u ok))) Z d ql:=by
 unfold YL at h
 cases I:EN c t && !ok with
 | false=>rw[I]at h; exact absurd h zh
 | true =>
  rw[I,cond_true]at h
  simp only[zI]at I
  obtain⟨h1,M⟩:=I
  have j3:ok=false:=by cases ok<;>first | rfl | cases M
  subst j3
  obtain⟨k,e,ht,hk,he,hz⟩:=Jd h1
  have hz:=hz Z.w
  split at h
  ·rename_i b q n hq
   cases hq64:Ys q with
   | false=>rw[hq64]at h; exact absurd h zh
   | true =>
   rw[hq64,cond_true]at h
   have hq6:q=.i64:=by cases q<;>first | rfl | cases hq64
   subst hq6
   have hu:=kt hq N
   simp only[qu]at h
   split at h
   ·rename_i l R
    obtain⟨hw,rfl,rfl⟩:=h
    cases hm _ rfl with
    | yL _ blk m' d' J hp =>
     obtain⟨pE,o,g1,g2,g3⟩:=(hI.blk b _ R:Maps Z b l)
     rw[hp]at g1
     cases g1
     obtain⟨D,ho,hD,hr⟩:=g3 c.P k e hk he Z.w blk g2
     obtain⟨rv,ps,jL,hv⟩:=ho.lookup (qQ hk) ht hz (plainElem_bool he false) (qM hk hw)
     rw[hr n hw]at hv
     have:=z5f he hv
     subst this
     subst hu
     exact wz.pure hI jL .bool
   ·exact h.elim
  ·rename_i q n hq
   cases hq64:Ys q with
   | false=>rw[hq64]at h; exact absurd h zh
   | true =>
   rw[hq64,cond_true]at h
   have hq6:q=.i64:=by cases q<;>first | rfl | cases hq64
   subst hq6
   have hu:=kt hq N
   subst hu
   obtain⟨hw,rfl,rfl⟩:=h
   cases hm _ rfl
   exact wz.pure hI (by simpa using Go.Maps.look_nil false (qQ hk) ht hz (qM hk hw)) .bool
  ·exact absurd h zh
theorem Ih{D:DataW Unit}{l:List Int}(hD:Go.Maps.IsMap D)(hr:∀ n,(Lit.int .i64 n).wf=true->D.atKey (.int .i64 n) (.lit (.bool false))=.lit (.bool (l.contains n)))(m:Int) :
  ∀ n,(Lit.int .i64 n).wf=true->(D.put (.int .i64 m) (.lit (.bool true))).atKey (.int .i64 n) (.lit (.bool false))=.lit (.bool ((l++[m]).contains n)):=λn hn=>by
 by_cases e:n=m
 ·subst e
  rw[Go.Maps.atKey_put_same hD (show WideAt.IsKeyLit (.int _ _)from trivial)]
  simp
 ·rw[Go.Maps.atKey_put_other (by simpa using e),hr n hn]
  simp[e]
theorem YP{t:Nat}{m x y:Option D}{v u z:Value}{d:Option D}{ql:St}(hI:Inv Z)(hm:∀ z,m=some z->RD Z z v)(N:∀ z,x=some z->RD Z z u)(hy:∀ q,y=some q->RD Z q z)
  (h:(qu (YO c t m x y) Z.st).leads (d,ql)):wz c.P (do Instr.mapUpdate t v u z; zJ .skip) Z d ql:=by
 unfold YO at h
 cases I:EN c t with
 | false=>rw[I]at h; exact absurd h zh
 | true =>
  rw[I,cond_true]at h
  obtain⟨k,e,ht,hk,he,_⟩:=Jd I
  split at h
  ·rename_i b q n yb hq hyb
   cases hq64:Ys q with
   | false=>rw[hq64]at h; exact absurd h zh
   | true =>
   rw[hq64,cond_true]at h
   have hq6:q=.i64:=by cases q<;>first | rfl | cases hq64
   subst hq6
   have hu:=kt hq N
   have hz:=tJ hyb hy
   simp only[qu]at h
   split at h
   ·rename_i l R
    obtain⟨⟨rfl,hw,hlen⟩,h⟩:=h
    simp only[T.leads,Prod.mk.injEq]at h
    obtain⟨rfl,rfl⟩:=h
    cases hm _ rfl with
    | yL _ blk m' d' J hp =>
     obtain⟨pE,o,g1,g2,g3⟩:=(hI.blk b _ R:Maps Z b l)
     rw[hp]at g1
     cases g1
     obtain⟨D,ho,hD,hr⟩:=g3 c.P k e hk he Z.w blk g2
     obtain⟨w',jL,hown,hg⟩:=ho.update (qQ hk) ht (by simp[maxLen]; omega) (qM hk hw) (plainElem_bool he true)
     subst hu hz
     have Kd:Alike (.var (.Bm l)) (.var (.Bm (l++[n]))):=trivial
     refine⟨Z.Vt b w' (.var (.Bm (l++[n]))),.skip,undef,?_,.inr ⟨rfl,rfl⟩,rfl,FI hI hp R Kd hg ?_,UL hI hp R Kd hg,λ_ he=>by cases he⟩
     ·simp[KS.Vt,jL]
     ·obtain⟨o',ho'⟩:∃ o',w'.heap[blk]? = some o':=⟨_,Array.getElem?_eq_getElem hown.lt⟩
      exact⟨blk,o',hp,ho',Bg hk he ho' (by simpa using hown) (hD.put _ _) (Ih hD hr n)⟩
   ·exact h.elim
  ·exact absurd h zh
theorem Lk{op:BinOp}{t:Nat}{px:Operand}{x:Option D}{v:Value}{d:Option D}{ql:St}{z:dT}(hI:Inv Z)(N:∀ z,x=some z->RD Z z v)
  (hz:(qu z Z.st).leads (d,ql)->wz c.P (do zJ (.value (<- (do eqGuard op t px (.const (.slice none 0 0)) v (.slice none 0 0); binOp op t v (.slice none 0 0))))) Z d ql)
  (h:(qu (CP c op t x z) Z.st).leads (d,ql)):wz c.P (do zJ (.value (<- (do eqGuard op t px (.const (.slice none 0 0)) v (.slice none 0 0); binOp op t v (.slice none 0 0))))) Z d ql:=by
 unfold CP at h
 split at h
 ·rename_i e hu
  have q1:∀ (x:Option Addr) (l k:Nat),(do eqGuard .eql t px (.const (.slice none 0 0)) (.slice x l k) (.slice none 0 0); binOp .eql t (.slice x l k) (.slice none 0 0):Sem Value).run c.P Z.w=.ok (.bool x.isNone) Z.w:=λx l k=>by
   have:=run_eql_slice_nil (P:=c.P) Z.w t e x l k hu
   simp only[eqGuard]
   simpa using this
  have q2:∀ (x:Option Addr) (l k:Nat),(do eqGuard .neq t px (.const (.slice none 0 0)) (.slice x l k) (.slice none 0 0); binOp .neq t (.slice x l k) (.slice none 0 0):Sem Value).run c.P Z.w=.ok (.bool !x.isNone) Z.w:=λx l k=>by
   have:=run_neq_slice_nil (P:=c.P) Z.w t e x l k hu
   simp only[eqGuard]
   simpa using this
  split at h
  ·unfold bb at h
   obtain⟨rfl,rfl⟩:=h
   cases N _ rfl
   exact wz.pure hI (q1 none 0 0) RD.bool
  ·rename_i b
   unfold bb at h
   obtain⟨rfl,rfl⟩:=h
   cases N _ rfl with
   | so _ _ _ _ hr ht hf =>
    cases b with
    | true=>obtain⟨blk,off,cap,rfl,_⟩:=ht rfl; exact wz.pure hI (q1 _ _ _) RD.bool
    | false=>have:=hf rfl; subst this; exact wz.pure hI (q1 _ _ _) RD.bool
  ·unfold bb at h
   obtain⟨rfl,rfl⟩:=h
   cases N _ rfl
   exact wz.pure hI (q2 none 0 0) RD.bool
  ·rename_i b
   unfold bb at h
   obtain⟨rfl,rfl⟩:=h
   cases N _ rfl with
   | so _ _ _ _ hr ht hf =>
    cases b with
    | true=>obtain⟨blk,off,cap,rfl,_⟩:=ht rfl; exact wz.pure hI (q2 _ _ _) RD.bool
    | false=>have:=hf rfl; subst this; exact wz.pure hI (q2 _ _ _) RD.bool
  ·exact hz h
 ·exact hz h
theorem Lj{op:BinOp}{t:Nat}{px:Operand}{x:Option D}{v:Value}{d:Option D}{ql:St}{z:dT}(hI:Inv Z)(N:∀ z,x=some z->RD Z z v)
  (hz:(qu z Z.st).leads (d,ql)->wz c.P (do zJ (.value (<- (do eqGuard op t px (.const (.pointer none)) v (.pointer none); binOp op t v (.pointer none))))) Z d ql)
  (h:(qu (CO c op t x z) Z.st).leads (d,ql)):wz c.P (do zJ (.value (<- (do eqGuard op t px (.const (.pointer none)) v (.pointer none); binOp op t v (.pointer none))))) Z d ql:=by
 unfold CO at h
 split at h
 ·rename_i e hu
  have hp:c.P.underlying t=some (.pointer (c.P.pointee t)):=by unfold Program.pointee; rw[hu]
  have q1:∀ (x:Option Addr),(do eqGuard .eql t px (.const (.pointer none)) (.pointer x) (.pointer none); binOp .eql t (.pointer x) (.pointer none):Sem Value).run c.P Z.w=.ok (.bool x.isNone) Z.w:=λx=>by
   have:=run_eql_pointer_nil (P:=c.P) Z.w t x hp
   simp only[eqGuard]
   simpa using this
  have q2:∀ (x:Option Addr),(do eqGuard .neq t px (.const (.pointer none)) (.pointer x) (.pointer none); binOp .neq t (.pointer x) (.pointer none):Sem Value).run c.P Z.w=.ok (.bool !x.isNone) Z.w:=λx=>by
   have:=run_neq_pointer_nil (P:=c.P) Z.w t x hp
   simp only[eqGuard]
   simpa using this
  split at h
  ·unfold bb at h; obtain⟨rfl,rfl⟩:=h; cases N _ rfl; exact wz.pure hI (q1 none) RD.bool
  ·unfold bb at h; obtain⟨rfl,rfl⟩:=h; cases N _ rfl; exact wz.pure hI (q1 _) RD.bool
  ·unfold bb at h; obtain⟨rfl,rfl⟩:=h; cases N _ rfl; exact wz.pure hI (q1 _) RD.bool
  ·unfold bb at h; obtain⟨rfl,rfl⟩:=h; cases N _ rfl; exact wz.pure hI (q2 none) RD.bool
  ·unfold bb at h; obtain⟨rfl,rfl⟩:=h; cases N _ rfl; exact wz.pure hI (q2 _) RD.bool
  ·unfold bb at h; obtain⟨rfl,rfl⟩:=h; cases N _ rfl; exact wz.pure hI (q2 _) RD.bool
  ·exact hz h
 ·exact hz h
theorem GS{t:Nat}{d:Option D}{ql:St}{z:dT}(hI:Inv Z)(hz:(qu z Z.st).leads (d,ql)->wz c.P (do zJ (.value (<- zQ t 0 #[]))) Z d ql)
  (h:(qu (VG c t z) Z.st).leads (d,ql)):wz c.P (do zJ (.value (<- zQ t 0 #[]))) Z d ql:=by
 unfold VG at h
 split at h
 ·exact hz h
 ·rename_i et het
  split at h
  ·rename_i e he
   cases I:ca c et e&&(zeroOf c et e).isSome with
   | false=>rw[I]at h; exact hz h
   | true =>
    rw[I,cond_true]at h
    simp only[zI]at I
    obtain⟨rfl,rfl⟩:=h
    have hu:=yJ het
    obtain⟨hs,_⟩:=jY I.1
    have g:=mM.alloc Z.w (.cells #[] et)
    have jL:(zQ t 0 #[]).run c.P Z.w=.ok (.slice (some ⟨Z.w.heap.size,0,none⟩) 0 0) (Z.w.alloc (.cells #[] et)):=by
     obtain⟨y,hy⟩:=zZ.1 I.2
     obtain⟨i,zv,Cs,US,hi3⟩:=fG (Z:=Z) hy
     simp[zQ,zH,run_underlying hu,E,run_sizeOf hs,qH,newRow]
     grind
    exact⟨Z.qi _,.value (.slice (some ⟨Z.w.heap.size,0,none⟩) 0 0),_,by simp only[zH,jL,E]; rfl,.inl rfl,rfl,cP hI g,XR hI g,λ_ he=>by
     cases he
     exact .so e [] true _ (.lA e _) (λ_=>⟨_,_,_,rfl,λ_=>rfl⟩) nofun⟩
  ·exact hz h
end
end Go.AM
namespace Go.AM
set_option linter.unusedSectionVars false
variable [yY]
section
variable {c:Ctx} {Z:KS}
theorem Vk{places:List (Nat×Nat)}{pf:Nat->Option (Nat×Nat)}(hpf:∀ (i:Nat) p,places[i]? = some p->pf i=some p){F:Operand->Option D}{G:Operand->Value}(hF:∀ x d,F x=some d->RD Z d (G x)):∀ (L:List (Nat×Operand)) (cells r:List D) (cs:Array Value),
  rO places (L.map λp=>(p.1,F p.2)) cells=some r->wN Z cells cs.toList->(∀ d∈cells,d.one=true) ->
  ∃ my,qH pf cs (L.map λp=>(p.1,G p.2))=some my/\wN Z r my.toList/\∀ d∈r,d.one=true
 | [],cells,r,cs,h,hr,ho=>by
  simp only[List.map_nil,rO,Option.some.injEq]at h
  subst h
  exact⟨cs,rfl,hr,ho⟩
 | (i,x)::L,cells,r,cs,h,hr,ho=>by
  simp at h
  cases N:F x with
  | none=>rw[N]at h; simp[rO]at h
  | some d =>
   rw[N]at h
   simp only[rO]at h
   split at h
   ·rename_i off n hp
    cases I : !d.bB&&qL n (xy d).length&&Nat.ble (off+n) cells.length with
    | false=>grind
    | true =>
     rw[I,cond_true]at h
     simp only[zI,Bool.not_eq_true']at I
     obtain⟨⟨h1,M⟩,h3⟩:=I
     have h2':n=(xy d).length:=zF M
     have h3':=V h3
     have J:=hF x d N
     have hfd:=cz J h1
     have L6:(G x).cells.toList.length=n:=by rw[<- hfd.1]; exact h2'.symm
     have hle:off+n<=cs.size:=by have:=hr.1; simp at this; omega
     have hn:=tC hr hfd off n
     obtain⟨my,g1,g2,g3⟩:=Vk hpf hF L _ r (cs.toList.take off++(G x).cells.toList++cs.toList.drop (off+n)).toArray h (xz) (by
      intro y hy
      simp only[qZ]at hy
      rcases hy with(hy | hy) | hy
      ·grind
      ·exact cy J y hy
      ·exact ho y (xD hy))
     refine⟨my,?_,g2,g3⟩
     simp
     rw[Ej (hpf _ _ hp) L6 hle]
     exact g1
   ·cases h
theorem Iw{t:Nat}{L:List (Nat×Operand)}{F:Operand->Option D}{G:Operand->Value}{d:Option D}{ql:St}(hI:Inv Z)(hF:∀ x d,F x=some d->RD Z d (G x))
  (h:(qu (C3 c t (L.map λp=>(p.1,F p.2))) Z.st).leads (d,ql)):wz c.P (do zJ (.value (<- Instr.build t (L.map λp=>(p.1,G p.2)).toArray))) Z d ql:=by
 unfold C3 at h
 split at h
 ·rename_i fs hu
  split at h
  ·rename_i z places hz hp
   split at h
   ·rename_i l R
    rw[dx]at h
    obtain⟨rfl,rfl⟩:=h
    obtain⟨i,zv,h1,M,h3⟩:=sn hz
    have hzr:=h3.rd Z
    obtain⟨my,g1,g2,g3⟩:=Vk (pf:=(places.toArray[·]?)) (λi p hp=>by simpa using hp) hF L z l zv.cells R (cz hzr rfl) (cy hzr)
    have I:c.P.built t (L.map λp=>(p.1,G p.2))=some my:=by
     unfold Program.built
     grind
    refine wz.pure hI (run_build Z.w t _ my (by simpa using I)) ?_
    have:=RD.agg l my.toList g2.1 g3 g2.2
    omega
   ·exact absurd h zh
  ·exact absurd h zh
 ·rename_i k e hu
  split at h
  ·rename_i z ie hz hp
   split at h
   ·rename_i l R
    obtain⟨rfl,rfl⟩:=h
    obtain⟨i,zv,h1,M,h3⟩:=sn hz
    have hzr:=h3.rd Z
    obtain⟨my,g1,g2,g3⟩:=Vk (pf:=λi=>some (i*ie.size,ie.size)) (λi p hp=>by
     rw[qR]at hp
     cases hr:(List.range k)[i]? with
     | none=>grind
     | some j =>
      rw[hr]at hp
      obtain⟨wM,rfl⟩:=B.1 hr
      simpa using hp) hF L z l zv.cells R (cz hzr rfl) (cy hzr)
    have I:c.P.built t (L.map λp=>(p.1,G p.2))=some my:=by
     unfold Program.built
     grind
    refine wz.pure hI (run_build Z.w t _ my (by simpa using I)) ?_
    have:=RD.agg l my.toList g2.1 g3 g2.2
    omega
   ·exact absurd h zh
  ·exact absurd h zh
 ·exact absurd h zh
theorem Ha{a:Act}{o:Oper}{p:Operand}(ho:o.op=.nilCheck p){x:Option D}{d:Option D}{ql:St}(hI:Inv Z)(N:∀ z,x=some z->RD Z z (a.eval p))
  (h:(qu (Vf x) Z.st).leads (d,ql)):wz c.P (execOp a.eval o) Z d ql:=by
 have key:∀ z v,RD Z z v->a.eval p=v->(∀ b:Option Addr,v=.pointer b->b≠none)->((∃ b,v=.pointer b)\/∃ g q l,v=.func (.func g) q l)->wz c.P (execOp a.eval o) Z (some z) Z.st:=by
  intro z v hz hv hn hc
  have:execOp a.eval o=zJ (.value v):=by
   rcases hc with⟨b,rfl⟩ | ⟨g,q,l,rfl⟩
   ·cases b with
    | none=>grind
    | some b=>simp only[execOp,ho,hv]
   ·simp only[execOp,ho,hv]
  rw[this]
  exact wz.val hI λ_ he=>by cases he; exact hz
 unfold Vf at h
 split at h
 all_goals try exact absurd h zh
 all_goals
  rw[dx]at h; obtain⟨rfl,rfl⟩:=h
  have hr:=N _ rfl
  generalize hv:a.eval p=v at hr
  refine key _ v hr hv ?_ ?_
  ·intro b I; cases hr<;>first | (cases I<;>nofun) | (rename_i f l vs _ _; obtain⟨g,q,l',e⟩:=Y7 f vs; rw[e]at I; cases I)
  ·cases hr<;>first | exact .inl ⟨_,rfl⟩ | exact .inr (Y7 _ _)
theorem Li{op:BinOp}{t:Nat}{px:Operand}{x:Option D}{v:Value}{d:Option D}{ql:St}(hI:Inv Z)(N:∀ z,x=some z->RD Z z v)
  (h:(qu (CM c op t x) Z.st).leads (d,ql)):wz c.P (do zJ (.value (<- (do eqGuard op t px (.const .nilIface) v .nilIface; binOp op t v .nilIface)))) Z d ql:=by
 unfold CM at h
 split at h
 ·rename_i ms hu
  have hm:c.P.underlying t=some (.interface (c.P.methodsAt t)):=by unfold Program.methodsAt; rw[hu]
  have g1:∀ w,(eqGuard op t px (.const .nilIface) .nilIface .nilIface).run c.P w=.ok () w:=λw=>by cases op<;>simp[eqGuard]
  have g2:∀ u y w,(eqGuard op t px (.const .nilIface) (.iface u y) .nilIface).run c.P w=.ok () w:=λu y w=>by cases op<;>simp[eqGuard]
  split at h
  ·unfold bb at h
   obtain⟨rfl,rfl⟩:=h
   cases N _ rfl
   exact wz.pure hI (by simp only[zH,g1,E,run_eql_nil_nil _ _ hm]) RD.bool
  ·unfold bb at h
   obtain⟨rfl,rfl⟩:=h
   cases N _ rfl
   exact wz.pure hI (by simp only[zH,g2,E,run_eql_held_nil _ _ _ _ hm]) RD.bool
  ·unfold bb at h
   obtain⟨rfl,rfl⟩:=h
   cases N _ rfl
   exact wz.pure hI (by simp only[zH,g1,E,run_neq_nil_nil _ _ hm]) RD.bool
  ·unfold bb at h
   obtain⟨rfl,rfl⟩:=h
   cases N _ rfl
   exact wz.pure hI (by simp only[zH,g2,E,run_neq_held_nil _ _ _ _ hm]) RD.bool
  ·exact absurd h zh
 ·exact absurd h zh
theorem Kk{x:Option D}{v:Value}{xt at':Nat}{ok:Bool}{d:Option D}{ql:St}(hI:Inv Z)(N:∀ z,x=some z->RD Z z v)
  (h:(qu (Qc c x at' ok) Z.st).leads (d,ql)):wz c.P (do zJ (.value (<- Instr.typeAssert v xt at' ok))) Z d ql:=by
 unfold Qc at h
 split at h
 ·exact absurd h zh
 ·exact absurd h zh
 ·rename_i ty hni hu
  split at h
  ·rename_i t e
   cases I:qL t at'&&ok with
   | false=>rw[I]at h; exact absurd h zh
   | true =>
    rw[I,cond_true,dx]at h
    obtain⟨rfl,rfl⟩:=h
    simp only[zI]at I
    have:=zF I.1
    subst this
    obtain rfl:=I.2
    cases N _ rfl with
    | iface _ _ u RW =>
     refine wz.pure hI (v:=.tuple #[u,.bool true]) ?_ ?_
     ·cases ty<;>first | (exact(hni _ rfl).elim) | (simp[Instr.typeAssert,run_underlying hu])
     ·have:=wN.cons RW (wN.cons (RD.bool (Z:=Z) (b:=true)) wN.nil)
      exact .eG _ [u,.bool true] this.1 this.2
  ·exact absurd h zh
theorem YM{t:Nat}{x:Option D}{v:Value}{d:Option D}{ql:St}(hI:Inv Z)(N:∀ z,x=some z->RD Z z v)
  (h:(qu (Xc c t x) Z.st).leads (d,ql)):wz c.P (do zJ (.value (<- Instr.makeInterface t v))) Z d ql:=by
 unfold Xc at h
 cases hu:c.P.underlying t with
 | none=>rw[hu]at h; exact absurd h zh
 | some u =>
  rw[hu]at h
  cases u<;>simp only at h
  all_goals try exact absurd h zh
  all_goals
   split at h
   ·rw[dx]at h; obtain⟨rfl,rfl⟩:=h
    have hc:c.P.concrete t=true:=by unfold Program.concrete; rw[hu]
    exact wz.pure hI (run_makeInterface Z.w t v hc) (.iface t _ v (N _ rfl))
   ·exact absurd h zh
theorem z3c{e:Ty}{x y:D}{v:Value}{l:List (den e)}(hI:Inv Z)(N:RD Z x v)(h:(Zc Z.st x).leads y)(R:Fx e y=some l):Src Z e l v:=by
 rcases Vr hI N h with⟨rfl,_⟩ | ⟨e',ys,rfl,hs,_⟩
 ·cases y with
  | qi σ z =>
   obtain⟨he,hz⟩:=wg (a:=σ) (b:=.sl e) R
   cases he
   cases hz
   exact D9 N
  | tight e' z ne =>
   obtain⟨he,hz⟩:=wg (a:=.sl e') (b:=.sl e) R
   cases he
   cases hz
   exact Wh N
  | wF =>
   simp only[Fx,Option.some.injEq]at R
   subst R
   exact KN N
  | _=>simp[Fx]at R
 ·obtain⟨he,hz⟩:=wg (a:=.sl e') (b:=.sl e) R
  grind
theorem Ya{s t e:Nat}{x:Option D}{v:Value}{d:Option D}{ql:St}(hI:Inv Z)(N:∀ z,x=some z->RD Z z v)(hs:c.P.underlying s=some (.slice e))(ht:c.P.underlying t=some .string)
  (h:(qu (J0 c e x) Z.st).leads (d,ql)):wz c.P (do zJ (.value (<- convert s t v))) Z d ql:=by
 unfold J0 at h
 split at h
 ·rename_i z he
  rw[rF]at h
  obtain⟨h,rfl⟩:=h
  obtain⟨y,h1,M⟩:=T.xg.1 h
  split at M
  ·rename_i l R
   cases M
   have Cv:=z3c hI (N _ rfl) h1 R
   obtain⟨a,cap,f,rfl,jg,hn,g1,g2⟩:=Cv.ex
   have jL:(convert s t (.slice a l.length cap)).run c.P Z.w=.ok (.string (strOfNums l)) Z.w:=by
    cases a with
    | none =>
     obtain⟨rfl,rfl⟩:=hn rfl
     exact run_convert_bytes_nil Z.w s e hs he 0 0 t ht
    | some p =>
     rcases g2 p rfl with⟨rfl,rfl⟩ | ⟨hp,_,hc⟩
     ·have h0:(loadCells p 0).run c.P Z.w=.ok (([]:List Int).map (zP .u8)).toArray Z.w:=by
       rfl
      simp only[List.length_nil]
      rw[run_convert_bytes_string Z.w s t e _ 0 0 hs he ht,run_bytesToString Z.w _ 0 0 [] h0]
      rfl
     ·obtain⟨blk,o,sp⟩:=p
      subst hp
      refine run_convert_bytes_arg Z.w s e hs he blk o l.length cap l rfl (λi hi => ?_) t ht
      have hf:=(g1 i hi).dO
      have:=hc i hi 0 (.int .u8 l[i]) (xz)
      have e1:o+i*Ty.size (.int .u8)+0=o+i:=by simp[Ty.size]
      grind
   refine wz.pure hI jL ?_
   exact .str
  ·exact M.elim
 ·exact absurd h zh
theorem C9{s t:Nat}{x:Option D}{v:Value}{d:Option D}{ql:St}(hI:Inv Z)(N:∀ z,x=some z->RD Z z v)
  (h:(qu (convertOp c s t x) Z.st).leads (d,ql)):wz c.P (do zJ (.value (<- convert s t v))) Z d ql:=by
 unfold convertOp at h
 split at h
 ·rename_i e hs ht
  exact Ya hI N hs ht h
 ·rename_i k0 k hs ht
  split at h
  ·rename_i k1 n hk
   have:=kt hk N
   subst this
   obtain⟨rfl,rfl⟩:=h
   exact wz.pure hI (by simp[convert,run_underlying hs,run_underlying ht,Conv.intToInt]) RD.int
  ·exact absurd h zh
 ·rename_i hs ht
  split at h
  ·rename_i s' hk
   have:=QF hk N
   subst this
   obtain⟨rfl,rfl⟩:=h
   exact wz.pure hI (by simp[convert,run_underlying hs,run_underlying ht]) RD.str
  ·exact absurd h zh
 ·exact absurd h zh
end
end Go.AM
namespace Go.AM
set_option linter.unusedSectionVars false
variable [yY]
section
variable {c:Ctx} {Z:KS}
theorem Rt{ty t t':Nat}{s x:Option D}{v u:Value}{d:Option D}{ql:St}(hI:Inv Z)(hs:∀ z,s=some z->RD Z z v)(N:∀ z,x=some z->RD Z z u)
  (h:(qu (ID c t s x) Z.st).leads (d,ql)):wz c.P (do zJ (.value (<- Builtin.copy_ #[t,t'] ty #[v,u]))) Z d ql:=by
 unfold ID at h
 split at h
 ·rename_i et het
  split at h
  ·rename_i k b vi k' off len z hu bM
   cases hk:decide (k'=k)with
   | false=>rw[hk]at h; exact absurd h zh
   | true =>
    rw[hk,cond_true]at h
    obtain rfl:k'=k:=uA hk
    simp only[qu]at h
    obtain⟨y,h1,M⟩:=T.xg.1 h
    split at M
    ·rename_i l R
     unfold TU at M
     split at M
     ·rename_i dF e' Vu I
      split at M
      ·rename_i xs Yo
       obtain⟨he,hxx⟩:=wg (a:=.sl e') (b:=.sl (.int k')) Yo
       cases he
       obtain rfl:xs=Vu:=hxx
       obtain⟨⟨Cx,GY⟩,M⟩:=M
       cases M
       subst Cx
       have Cv:=z3c hI (N _ rfl) h1 R
       obtain⟨a,cap,f,rfl,jg,hn,g1,g2⟩:=Cv.ex
       have hue:=yJ het
       have z15:(c.P.info? et).map (·.size)=some 1:=bM
       have hrd:=hs _ rfl
       cases hrd with
       | ms _ _ _ _ _ cap0 a0 T7 hcap0 Kw hsp0 hh =>
       have hm:=hh xs I
       have Kx:((zR len l).map (zP k')).length=Nat.min l.length len:=by rw[List.length_map,zU]; exact Nat.min_comm _ _
       have z9J:min len (zS l)=Nat.min l.length len:=Nat.min_comm _ _
       by_cases h0:min len (zS l)=0
       ·-- nothing goes over
        have jL:=run_copy_none (P:=c.P) Z.w t t' ty et a0 a len cap0 l.length cap hue z15 (by rw[<- z9J]; exact h0)
        have U4:yr off len xs l=xs:=by
         unfold yr
         have ht:zR len l=[]:=zM (by rw[zU]; exact h0)
         rw[ht,h0,List.append_nil,xH,List.take_append_drop]
        have nT:Z.st.set b (.arr vi (.int k') (yr off len xs l))=Z.st:=by
         rw[U4]
         obtain⟨wM,hge⟩:=B.1 I
         rw[<- hge,List.set_getElem_self]
        rw[nT]
        refine⟨Z,.value (goInt 0),goInt 0,by simp[jL],.inl rfl,rfl,hI,Ext.refl Z,λd' ef => ?_⟩
        cases ef
        rw[h0]
        exact RD.int
       ·obtain⟨hle,hm⟩:=hm
        rcases hm with⟨hz,_⟩ | ⟨blk,n,o,zqP,hp,hv,RN,hc2,hc3⟩
        ·omega
        ·cases hv
         have ho:o=off:=by
          rcases hc3 with h | h
          ·omega
          ·simpa[Ty.size]using h
         subst ho
         have hl0:l≠[]:=λh=>h0 (by rw[h]; simp)
         obtain⟨p,rfl⟩:∃ p,a=some p:=by
          cases a with
          | none=>grind
          | some p=>simp
         rcases g2 p rfl with⟨h,_⟩ | ⟨Ws,_,hc⟩
         ·grind
         obtain⟨pb,po,psp⟩:=p
         simp only at Ws
         subst Ws
         obtain⟨_,z0K⟩:=hI.blk b _ I
         rcases z0K with⟨_,hpn⟩ | ⟨pE,n',Wo,T,k1,k2,k3,k4,kr,g,k5⟩
         ·grind
         rw[hp]at k1
         cases k1
         have hn':zS xs<=Wo.size:=by rw[k3]; simpa[Ty.size]using k4
         have eD:∀ (i:Nat) (hi:i<zS xs),Wo[i]? = some (.int k' xs[i]):=by
          intro i hi
          obtain⟨q1,q2⟩:=k5 i hi
          have:=q2 0 (.int k' xs[i]) (by rw[q1.dO]; rfl)
          simpa[Ty.size]using this
         have znq:((zR len l).map (zP k')).length<=len:=by simp; omega
         have jL:=run_copy_row c.P Z.w t t' ty et blk o len cap0 ⟨pb,po,none⟩ l.length cap Wo T ((zR len l).map (zP k')) hue z15 k2 Kx
          (λj w hj=>by
           have MR:j<(zR len l).length:=by have:=(B.1 hj).1; simpa using this
           have Tc:j<l.length:=by simp at MR; omega
           have e1:w=.int k' l[j]:=by
            grind
           have:=hc j Tc 0 (.int k' l[j]) (by rw[(g1 j Tc).dO]; rfl)
           have zbw:(⟨pb,po,none⟩:Addr).add j=⟨pb,po+j,none⟩:=by unfold Addr.add; split<;>simp_all
           rw[zbw,e1]
           simpa[Ty.size]using this)
          (O) (λw hw=>by obtain⟨_,_,rfl⟩:=qX.1 hw; rfl)
         have hlen:zS (yr o len xs l)=zS xs:=by
          simp only[yr,zK,zU,qK]
          omega
         have Kd:Alike (.arr vi (.int k') xs) (.arr vi (.int k') (yr o len xs l)):=⟨rfl,zE _,λ_=>hlen.symm⟩
         let my:Array Value:=(Wo.toList.take o++(zR len l).map (zP k')++Wo.toList.drop (o+((zR len l).map (zP k')).length)).toArray
         have GX:my.size=n:=by
          simp only[my,zY,zK,zU,qK,qG,List.length_map]at *
          omega
         have zfQ:∀ (i:Nat) (hi:i<zS (yr o len xs l)),my[i]? = some (.int k' (yr o len xs l)[i]):=by
          intro i hi
          have h1:=Vs (cs:=Wo.toList) (us:=(zR len l).map (zP k')) (o:=o) (n:=((zR len l).map (zP k')).length) rfl (by simp; simp at znq; omega) i
          have e1:my[i]? = (Wo.toList.take o++(zR len l).map (zP k')++Wo.toList.drop (o+((zR len l).map (zP k')).length))[i]? := by simp[my]
          have hm2:(List.map (zP k') (zR len l)).length=min len (zS l):=qz
          rw[hm2]at h1 e1
          have e2:(yr o len xs l)[i]? = if i<o then xs[i]? else if i<o+min len (zS l)then(zR len l)[i-o]? else xs[i]? := by
           unfold yr
           have hto:(zR o xs).length=o:=by simp; omega
           by_cases q1:i<o
           ·rw[if_pos q1,qI,zG (O),List.getElem?_take,if_pos q1]
           ·rw[if_neg q1,qI,qC (O),hto]
            by_cases q2:i<o+min len (zS l)
            ·rw[if_pos q2,zG (by simp; omega)]
            ·rw[if_neg q2,qC (by simp; omega),List.getElem?_drop,zU]
             congr 1; omega
          have e3:(yr o len xs l)[i]? = some (yr o len xs l)[i]:=zN hi
          rw[e1,h1]
          rw[e2]at e3
          have hix:i<zS xs:=by rw[<- hlen]; exact hi
          split
          ·rename_i q1
           rw[if_pos q1,zN hix]at e3
           rw[zV,eD i hix,Option.some.inj e3]
          ·rename_i q1
           rw[if_neg q1]at e3
           split
           ·rename_i q2
            rw[if_pos q2]at e3
            rw[qR,e3]
            rfl
           ·rename_i q2
            rw[if_neg q2,zN hix]at e3
            rw[zV,eD i hix,Option.some.inj e3]
         refine⟨Z.upd b blk my (.arr vi (.int k') (yr o len xs l)),.value (goInt (((zR len l).map (zP k')).length:Nat)),goInt (((zR len l).map (zP k')).length:Nat),(by rw[zH,jL]; rfl),.inl rfl,rfl,UN hI hp I Kd ?_,UM hI hp I Kd,λd' ef => ?_⟩
         ·refine⟨by simp[Ty.size],.inr ⟨blk,n,my,T,hp,setRow_heap Z.w blk Wo my T (0,0) k2,GX,by simp[Ty.size]; omega,kr,λi=>[.int k' ((yr o len xs l).getD i 0)],λi hi => ?_⟩⟩
          have hg:(yr o len xs l).getD i 0=(yr o len xs l)[i]:=by simp[List.getD_eq_getElem?_getD,zN hi]
          show Rc _ _ (.int k') _ [zP k' ((yr o len xs l).getD i 0)]/\∀ (j:Nat) (v:Value),[zP k' ((yr o len xs l).getD i 0)][j]? = some v->_
          rw[hg]
          refine⟨.int k' _,λj w hj => ?_⟩
          cases j with
          | zero =>
           simp at hj
           subst hj
           simpa[Ty.size]using zfQ i hi
          | succ j=>simp at hj
         ·cases ef
          rw[z9J,<- Kx]
          exact RD.int
      ·exact M.elim
     ·exact M.elim
    ·exact M.elim
  ·exact absurd h zh
 ·exact absurd h zh
end
end Go.AM
namespace Go.AM
set_option linter.unusedSectionVars false
variable [yY]
def gA(P:Program)(g:Nat)(args:Array Value)(w:World)(hl:Ending->World->Prop):Prop :=
 ((callFunc g args).run P w=.ok (.enter g args) w/\Calls P g args w hl)\/∃ v w',(callFunc g args).run P w=.ok (.value v) w'/\hl (.returned v) w'
theorem gA.mono{P:Program}{g:Nat}{args:Array Value}{w:World}{hl R':Ending->World->Prop}(h:gA P g args w hl)(hr:∀ e w,hl e w->R' e w):gA P g args w R':=by
 rcases h with⟨h1,M⟩ | ⟨v,w',h1,M⟩
 ·exact .inl ⟨h1,M.mono hr⟩
 ·exact .inr ⟨v,w',h1,hr _ _ M⟩
def jd(Z:KS):GI->Ending->Prop
 | .ret ds,e=>∃ v,e=.returned v/\RD Z (eO ds) v
 | .b9 d,e=>∃ v,e=.panicked [{ v,recovered:=false }]/\RD Z d v
abbrev Tk:=Nat->Array Value->World->(Ending->World->Prop)->Prop
def zlV(Dr:Tk)(g:Nat)(S:List D->St->T (GI×St)):Prop :=
 ∀ (Z:KS) (args:List D) (xb:List Value) (rs:GI) (ql:St),(S args Z.st).leads (rs,ql)->Inv Z->wN Z args xb ->
  Dr g xb.toArray Z.w λe w'=>∃ Y:KS,Y.w=w'/\Y.st=ql/\Inv Y/\Ext Z Y/\jd Y rs e
def Dp(P:Program)(g:Nat)(S:List D->St->T (GI×St)):Prop :=
 ∀ (Z:KS) (args:List D) (xb:List Value) (rs:GI) (ql:St),(S args Z.st).leads (rs,ql)->Inv Z->wN Z args xb ->
  gA P g xb.toArray Z.w λe w'=>∃ Y:KS,Y.w=w'/\Y.st=ql/\Inv Y/\Ext Z Y/\jd Y rs e
section
variable {c:Ctx} {Z:KS}
theorem RD.weaken{JV:Nat->Prop}(hs:∀ k,Z.ok k->JV k){d:D}{v:Value}(h:RD Z d v):RD { Z with ok:=JV } d v:=by
 have U4:I9 Z.w Z.w Z.ok JV:=λk hk=>⟨hs k hk,rfl⟩
 induction h with
 | qi τ y cs h=>exact .qi τ y cs (h.mono U4)
 | so e l b v h ht hf=>exact .so e l b v (h.mono U4) ht hf
 | vy e a=>exact .vy e a
 | tight e l ne blk off f jZ j3 h hc=>exact .tight e l ne blk off f jZ (hs _ j3) (λi hi=>(h i hi).mono U4) hc
 | wF=>exact .wF
 | gX=>exact .gX
 | v8=>exact .v8
 | gj=>exact .gj
 | uT=>exact .uT
 | WI v h=>exact .WI v h
 | mP T=>exact .mP T
 | nk b T d J=>exact .nk b T d J
 | nn b T blk n d J h=>exact .nn b T blk n d J h
 | yL b blk n d J h=>exact .yL b blk n d J h
 | ptr b off blk n d J h=>exact .ptr b off blk n d J h
 | vz τ y cs blk off j3 h hc=>exact .vz τ y cs blk off (hs _ j3) (h.mono U4) hc
 | gJ b vi e idx off blk o I h=>exact .gJ b vi e idx off blk o I h
 | ms b vi e off len cap a I jg ha Ws h=>exact .ms b vi e off len cap a I jg ha Ws h
 | wi f l vs R h ih=>exact .wi f l vs R ih
 | agg l vs R ho h ih=>exact .agg l vs R ho ih
 | eG l vs R h ih=>exact .eG l vs R ih
 | iface t d v h ih=>exact .iface t d v ih
theorem RD.free{Y:KS}(hw:Y.w=Z.w)(j3:Y.ok=Z.ok)(vX:Z.st=[]){d:D}{v:Value}(h:RD Z d v):RD Y d v:=by
 obtain⟨w',JV,ph',ql⟩:=Y
 subst hw j3
 induction h with
 | qi τ y cs h=>exact .qi τ y cs h
 | so e l b v h ht hf=>exact .so e l b v h ht hf
 | vy e a=>exact .vy e a
 | tight e l ne blk off f jZ j3 h hc=>exact .tight e l ne blk off f jZ j3 h hc
 | wF=>exact .wF
 | gX=>exact .gX
 | v8=>exact .v8
 | gj=>exact .gj
 | uT=>exact .uT
 | WI v h=>exact .WI v h
 | mP T=>exact .mP T
 | nk b T d J=>grind
 | nn b T blk n d J h=>grind
 | yL b blk n d J h=>grind
 | ptr b off blk n d J h=>grind
 | vz τ y cs blk off j3 h hc=>exact .vz τ y cs blk off j3 h hc
 | gJ b vi e idx off blk o I h=>rcases I with I | ⟨_,_,_,I,_⟩ <;> · rw[vX]at I; simp at I
 | ms b vi e off len cap a I jg ha Ws h=>rcases I with I | ⟨_,_,_,I,_⟩ <;> · rw[vX]at I; simp at I
 | wi f l vs R h ih=>exact .wi f l vs R ih
 | agg l vs R ho h ih=>exact .agg l vs R ho ih
 | eG l vs R h ih=>exact .eG l vs R ih
 | iface t d v h ih=>exact .iface t d v ih
theorem Rc.scalar{w w':World}{ok JV:Nat->Prop}{τ:Ty}{x:den τ}{cs:List Value}(h:Rc w ok τ x cs)(ht:τ.scalar=true):Rc w' JV τ x cs:=by
 induction h with
 | int k n=>exact .int k n
 | bool b=>exact .bool b
 | str s=>exact .str s
 | lA=>cases ht
 | sl=>cases ht
 | nil=>exact .nil
 | cons a b x y c1 c2 h1 M i1 i2=>simp only[Ty.scalar,zI]at ht; exact .cons a b x y c1 c2 (i1 ht.1) (i2 ht.2)
 | expr=>cases ht
theorem zdf{e:Ty}{ys:List (den e)}{v:Value}(h:Src Z e ys v):Rc Z.w (Th Z) (.sl e) ys [v]:=by
 obtain⟨a,cap,f,rfl,jg,hn,h1,M⟩:=h.ex
 cases a with
 | none=>obtain⟨rfl,rfl⟩:=hn rfl; exact .lA e none
 | some p =>
  rcases M p rfl with⟨rfl,rfl⟩ | ⟨hp,j3,hc⟩
  ·exact .lA e _
  obtain⟨blk,o,sp⟩:=p
  subst hp
  exact .sl e ys blk o cap f j3 jg (λi hi=>(h1 i hi).mono λk hk=>⟨.inl hk,rfl⟩) hc
def KS.all(Z:KS):KS:={ Z with ok:=Th Z }
theorem RD.all{d:D}{v:Value}(h:RD Z d v):RD Z.all d v:=h.weaken λ_ hk=>.inl hk
theorem wN.all{l:List D}{vs:List Value}(h:wN Z l vs):wN Z.all l vs:=⟨h.1,λi h1 M=>(h.2 i h1 M).all⟩
theorem By{x y:D}{v:Value}(hI:Inv Z)(N:RD Z x v)(h:(Zc Z.st x).leads y):RD Z.all y v/\(x.one=true->y.one=true)/\(x.bB=false->y.bB=false):=by
 rcases Vr hI N h with⟨rfl,_⟩ | ⟨e,ys,rfl,hs,_⟩
 ·exact⟨N.all,id,id⟩
 ·exact⟨RD.tY rfl (zdf hs),λ_=>rfl,λ_=>rfl⟩
theorem BB(hI:Inv Z):∀ {l r:List D} {vs:List Value},wN Z l vs->(∀ d∈l,d.one=true)->(BA Z.st l).leads r->wN Z.all r vs/\∀ d∈r,d.one=true
 | [],r,vs,h,_,hs=>by cases hs; rw[h.we]; exact⟨.nil,nofun⟩
 | d::l,r,vs,h,ho,hs=>by
  simp only[BA,T.xg]at hs
  obtain⟨x,N,l',R,rfl⟩:=hs
  obtain⟨v,us,rfl,h1,M⟩:=h.cons_inv
  obtain⟨g1,g2,_⟩:=By hI h1 N
  obtain⟨k1,k2⟩:=BB hI M (λd J=>ho d (xC _ J)) R
  refine⟨.cons g1 k1,λd J => ?_⟩
  grind
theorem z38{x y:D}{v:Value}(hI:Inv Z)(N:RD Z x v)(h:(snap Z.st x).leads y):RD Z.all y v:=by
 cases x with
 | agg l =>
  simp only[snap,T.xg]at h
  obtain⟨r,hr,rfl⟩:=h
  cases N with
  | agg _ vs R ho hh =>
   obtain⟨g1,g2⟩:=BB hI (⟨R,hh⟩:wN Z l vs) ho hr
   exact .agg r vs g1.1 g2 g1.2
 | _=>exact(By hI N h).1
theorem VK{τ:Ty}{d:D}{x:den τ}{v:Value}(hI:Inv Z)(J:RD Z d v)(h:(VJ Z.st τ d).leads x):RD Z.all (.qi τ x) v:=by
 simp only[VJ,T.xg,T.yu]at h
 obtain⟨y,h1,M⟩:=h
 exact mv (z38 hI J h1) M
theorem Bz{x y:D}(h:(Zc [] x).leads y):y=x:=by
 cases x with
 | ms=>simp[Zc,T.leads]at h
 | _=>exact h.symm
theorem BC:∀ {l r:List D},(BA [] l).leads r->r=l
 | [],_,h=>h.symm
 | d::l,r,h=>by
  simp only[BA,T.xg]at h
  obtain⟨x,N,l',R,rfl⟩:=h
  rw[Bz N,BC R]
theorem z39{x y:D}(h:(snap [] x).leads y):y=x:=by
 cases x with
 | agg l =>
  simp only[snap,T.xg]at h
  obtain⟨r,hr,rfl⟩:=h
  rw[BC hr]
 | _=>exact Bz h
theorem E2{τ:Ty}{d:D}{x:den τ}{v:Value}(J:RD Z d v)(h:(VJ [] τ d).leads x):RD Z (.qi τ x) v:=by
 simp only[VJ,T.xg,T.yu]at h
 obtain⟨y,h1,M⟩:=h
 rw[z39 h1]at M
 exact mv J M
def JB:D->Bool | .qi .. | .vz .. => true | _=>false
def MF:D->Bool
 | .wi _ l=>l.all JB
 | d=>JB d
theorem z5l{d:D}(h:JB d=true):MF d=true:=by cases d<;>first | exact h | cases h
theorem Y9{st:St}{τ:Ty}{d y:D}(h:(Qi st τ d).leads y):JB y=true:=by
 unfold Qi at h
 split at h
 ·split at h
  ·cases h; rfl
  ·exact h.elim
 ·split at h
  ·split at h
   ·cases h; rfl
   ·exact h.elim
  ·exact h.elim
 ·exact h.elim
theorem HA{τ:Ty}{d y:D}{v:Value}(hI:Inv Z)(J:RD Z d v)(h:(Qi Z.st τ d).leads y):RD Z.all y v:=by
 unfold Qi at h
 split at h
 ·split at h
  ·rename_i x z hz
   cases h
   obtain⟨e,rfl⟩:=wg hz
   cases e
   exact J.all
  ·exact h.elim
 ·rename_i b off
  split at h
  ·rename_i d' I
   split at h
   ·rename_i z hz
    cases h
    cases ho:qL off 0 with
    | false=>grind
    | true =>
     have:=zF ho
     subst this
     obtain⟨blk,n,cs,t,g1,g2,g3,g4,g5⟩:=(hI.blk b _ I:kR Z b d').cells (by cases d'<;>first | rfl | cases hz)
     cases J with
     | ptr _ _ pE n' d1 hd1 hp =>
      rw[g1]at hp
      cases hp
      have j3:Th Z blk:=.inr ⟨b,n,g1⟩
      have ht:d'.bB=false:=by
       cases d' with
       | eG l=>simp[ov,D.bB]at hz
       | _=>rfl
      have Dz:=Xo hz g4 g5.1 ht
      refine .vz τ z cs.toList blk 0 j3 (Dz.mono λk hk=>⟨.inl hk,rfl⟩) λj v hj => ?_
      show Z.w.cell? _=_
      rw[XX g2,qE]
      grind
   ·exact h.elim
  ·exact h.elim
 ·exact h.elim
theorem HB{τ:Ty}{d y:D}{v:Value}(J:RD Z d v)(h:(Qi [] τ d).leads y):RD Z y v:=by
 unfold Qi at h
 split at h
 ·split at h
  ·rename_i x z hz
   cases h
   obtain⟨e,rfl⟩:=wg hz
   grind
  ·exact h.elim
 ·rename_i b off
  split at h
  ·grind
  ·exact h.elim
 ·exact h.elim
theorem DZ{st:St}{p:UU}{d y:D}(h:(QL st p d).leads y):JB y=true:=by
 cases p with
 | rp τ=>exact Y9 h
 | im τ=>simp only[QL,T.xg]at h; obtain⟨x,_,rfl⟩:=h; rfl
theorem IB{p:UU}{d y:D}{v:Value}(hI:Inv Z)(J:RD Z d v)(h:(QL Z.st p d).leads y):RD Z.all y v:=by
 cases p with
 | rp τ=>exact HA hI J h
 | im τ=>simp only[QL,T.xg]at h; obtain⟨x,N,rfl⟩:=h; exact VK hI J N
theorem IC{p:UU}{d y:D}{v:Value}(J:RD Z d v)(h:(QL [] p d).leads y):RD Z y v:=by
 cases p with
 | rp τ=>exact HB J h
 | im τ=>simp only[QL,T.xg]at h; obtain⟨x,N,rfl⟩:=h; exact E2 J N
theorem VI{st:St}:∀ {ps:List UU} {ds r:List D},(mw st ps ds).leads r->∀ d∈r,JB d=true
 | [],[],r,hs=>by cases hs; nofun
 | p::ps,d::ds,r,hs=>by
  simp only[mw,T.xg]at hs
  obtain⟨x,N,l,R,rfl⟩:=hs
  intro d' ef
  rcases xG.1 ef with rfl | ef
  ·exact DZ N
  ·exact VI R d' ef
 | [],_::_,_,hs=>hs.elim
 | _::_,[],_,hs=>hs.elim
theorem Jz(hI:Inv Z):∀ {ps:List UU} {ds r:List D} {vs:List Value},wN Z ds vs->(mw Z.st ps ds).leads r->wN Z.all r vs
 | [],[],r,vs,h,hs=>by cases hs; rw[h.we]; exact .nil
 | p::ps,d::ds,r,vs,h,hs=>by
  simp only[mw,T.xg]at hs
  obtain⟨x,N,l,R,rfl⟩:=hs
  obtain⟨v,us,rfl,h1,M⟩:=h.cons_inv
  exact .cons (IB hI h1 N) (Jz hI M R)
 | [],_::_,_,_,_,hs=>hs.elim
 | _::_,[],_,_,_,hs=>hs.elim
theorem JA:∀ {ps:List UU} {ds r:List D} {vs:List Value},wN Z ds vs->(mw [] ps ds).leads r->wN Z r vs
 | [],[],r,vs,h,hs=>by cases hs; rw[h.we]; exact .nil
 | p::ps,d::ds,r,vs,h,hs=>by
  simp only[mw,T.xg]at hs
  obtain⟨x,N,l,R,rfl⟩:=hs
  obtain⟨v,us,rfl,h1,M⟩:=h.cons_inv
  exact .cons (IC h1 N) (JA M R)
 | [],_::_,_,_,_,hs=>hs.elim
 | _::_,[],_,_,_,hs=>hs.elim
theorem WR{st:St}{p:Vx}{d y:D}(h:(E0 st p d).leads y):(∃ τ x,p=.ty τ/\(VJ st τ d).leads x/\y=.qi τ x)\/(∃ τ,p=.rp τ/\(Qi st τ d).leads y) \/
  ∃ f caps l l',p=.wi f caps/\d=.wi f l/\(mw st caps l).leads l'/\y=.wi f l':=by
 cases p with
 | ty τ =>
  have h':((VJ st τ d).bind λx=>T.ret (D.qi τ x)).leads y:=by cases d<;>exact h
  simp only[T.xg]at h'
  obtain⟨x,N,rfl⟩:=h'
  grind
 | rp τ=>exact .inr (.inl ⟨τ,rfl,by cases d<;>exact h⟩)
 | wi f caps =>
  cases d with
  | wi f' l =>
   simp only[E0]at h
   cases I:qL f f' with
   | false=>rw[I]at h; exact h.elim
   | true =>
    rw[I,cond_true,T.xg]at h
    obtain⟨l',R,rfl⟩:=h
    have:=zF I
    grind
  | _=>exact h.elim
theorem Rs{st:St}{p:Vx}{d y:D}(h:(E0 st p d).leads y):MF y=true:=by
 rcases WR h with⟨τ,x,_,_,rfl⟩ | ⟨τ,_,h⟩ | ⟨f,caps,l,l',_,_,h',rfl⟩
 ·rfl
 ·exact z5l (Y9 h)
 ·exact qU.2 (VI h')
theorem TQ{p:Vx}{d y:D}{v:Value}(hI:Inv Z)(J:RD Z d v)(h:(E0 Z.st p d).leads y):RD Z.all y v:=by
 rcases WR h with⟨τ,x,_,N,rfl⟩ | ⟨τ,_,h⟩ | ⟨f,caps,l,l',_,rfl,h',rfl⟩
 ·exact VK hI J N
 ·exact HA hI J h
 ·cases J with
  | wi _ _ vs R hh =>
   have:=Jz hI (⟨R,hh⟩:wN Z l vs) h'
   exact .wi f l' vs this.1 this.2
theorem TR{p:Vx}{d y:D}{v:Value}(J:RD Z d v)(h:(E0 [] p d).leads y):RD Z y v:=by
 rcases WR h with⟨τ,x,_,N,rfl⟩ | ⟨τ,_,h⟩ | ⟨f,caps,l,l',_,rfl,h',rfl⟩
 ·exact E2 J N
 ·exact HB J h
 ·cases J with
  | wi _ _ vs R hh =>
   have:=JA (⟨R,hh⟩:wN Z l vs) h'
   exact .wi f l' vs this.1 this.2
theorem WS{st:St}:∀ {ps:List Vx} {ds r:List D},(Qh st ps ds).leads r->∀ d∈r,MF d=true
 | [],[],r,hs=>by cases hs; nofun
 | p::ps,d::ds,r,hs=>by
  simp only[Qh,T.xg]at hs
  obtain⟨x,N,l,R,rfl⟩:=hs
  intro d' ef
  rcases xG.1 ef with rfl | ef
  ·exact Rs N
  ·exact WS R d' ef
 | [],_::_,_,hs=>hs.elim
 | _::_,[],_,hs=>hs.elim
theorem Hy(hI:Inv Z):∀ {ps:List Vx} {ds r:List D} {vs:List Value},wN Z ds vs->(Qh Z.st ps ds).leads r->wN Z.all r vs
 | [],[],r,vs,h,hs=>by cases hs; rw[h.we]; exact .nil
 | p::ps,d::ds,r,vs,h,hs=>by
  simp only[Qh,T.xg]at hs
  obtain⟨x,N,l,R,rfl⟩:=hs
  obtain⟨v,us,rfl,h1,M⟩:=h.cons_inv
  exact .cons (TQ hI h1 N) (Hy hI M R)
 | [],_::_,_,_,_,hs=>hs.elim
 | _::_,[],_,_,_,hs=>hs.elim
theorem UZ:∀ {ps:List Vx} {ds r:List D} {vs:List Value},wN Z ds vs->(Qh [] ps ds).leads r->wN Z r vs
 | [],[],r,vs,h,hs=>by cases hs; rw[h.we]; exact .nil
 | p::ps,d::ds,r,vs,h,hs=>by
  simp only[Qh,T.xg]at hs
  obtain⟨x,N,l,R,rfl⟩:=hs
  obtain⟨v,us,rfl,h1,M⟩:=h.cons_inv
  exact .cons (TR h1 N) (UZ M R)
 | [],_::_,_,_,hs,h=>h.elim
 | _::_,[],_,_,hs,h=>h.elim
def KS.bare(Z:KS)(ok:Nat->Prop):KS:=⟨Z.w,ok,[],[]⟩
theorem Y0{ok:Nat->Prop}(hI:Inv Z)(hs:∀ k,Z.ok k->ok k)(h:∀ k,ok k->k<Z.w.heap.size):Inv (Z.bare ok) :=
 ⟨rfl,h,λb blk n h=>by simp[KS.bare]at h,λb b' blk n n' h=>by nofun,λb x h=>by simp[KS.bare]at h,hI.gl.mono λk hk=>⟨hs k hk,rfl⟩⟩
theorem Zo{ok:Nat->Prop}{d:D}{v:Value}(hi:JB d=true)(h:RD { Z with ok:=ok } d v):RD (Z.bare ok) d v:=by
 cases d with
 | qi τ x=>obtain⟨cs,h1,rfl⟩:=RD.cP h; exact .qi τ x cs h1
 | vz τ x=>cases h with | vz _ _ cs blk off j3 h hc=>exact .vz τ x cs blk off j3 h hc
 | _=>cases hi
theorem HD{ok:Nat->Prop}{d:D}{v:Value}(hi:MF d=true)(h:RD { Z with ok:=ok } d v):RD (Z.bare ok) d v:=by
 cases d with
 | wi f l =>
  cases h with
  | wi _ _ vs R hh=>exact .wi f l vs R λi h1 M=>Zo (qU.1 hi _ (qA h1)) (hh i h1 M)
 | qi τ x=>exact Zo hi h
 | vz τ x=>exact Zo hi h
 | _=>cases hi
theorem DP{κ1:KS}{ok:Nat->Prop}(hI:Inv Z)(Vz:Inv κ1)(vX:κ1.st=[])(N:Ext (Z.bare ok) κ1)(JV:Nat->Prop)(h1:∀ k,Z.ok k->JV k)(M:∀ k,JV k->Z.ok k\/Z.w.heap.size<=k)(h3:∀ k,JV k->k<κ1.w.heap.size) :
  Ext Z { Z with w:=κ1.w,ok:=JV }/\Inv { Z with w:=κ1.w,ok:=JV }:=by
 have hfr:∀ k,k<Z.w.heap.size->κ1.w.heap[k]? = Z.w.heap[k]? := λk hk=>N.frame k hk λb n h=>by simp[KS.bare]at h
 have bM:Z.w.heap.size<=κ1.w.heap.size:=N.size
 have he:Ext Z { Z with w:=κ1.w,ok:=JV }:=⟨N.os,N.tape,N.output,bM,λk hk=>⟨h1 k hk,hfr k (hI.bN k hk)⟩,λk hk=>(M k hk).elim .inl (λh=>.inr (.inl h)),λ_ _ _ h=>.inl h,λb d h=>⟨⟨d,h⟩,rfl⟩,
  λb v0 e xs h=>.inr ⟨v0,xs,h,zE _,λ_=>⟨rfl,rfl⟩⟩,λ_ h=>h,zE _,λk hk _=>hfr k hk⟩
 refine⟨he,hI.len,h3,λb blk n h => ?_,hI.inj,λb x h=>(hI.blk b x h).mono he rfl λblk n h=>hfr _ (hI.apart b blk n h).1,hI.gl.mono he.same⟩
 obtain⟨g1,g2⟩:=hI.apart b blk n h
 grind
theorem Rq{g:Nat}{args:List D}{xb:List Value}{d:Option D}{ql:St}(hs:Dp c.P g (c.fn g))(hI:Inv Z)(ha:wN Z args xb)
  (h:(qu (match c.sig g args with | some s=>ep c g s args | none=>sx c g args) Z.st).leads (d,ql)) :
  gA c.P g xb.toArray Z.w λe w'=>∃ (Y:KS) (v:Value),Y.w=w'/\Y.st=ql/\Inv Y/\Ext Z Y/\e=.returned v/\∀ d',d=some d'->RD Y d' v:=by
 split at h
 ·rename_i s RT
  unfold ep at h
  cases hm:(!(args.any Jm))with
  | true =>
   rw[hm,cond_true,kP]at h
   obtain⟨h,rfl⟩:=h
   simp only[T.xg]at h
   obtain⟨l,R,⟨rs,dE⟩,hc,hr⟩:=h
   have fp:=UZ ha R
   have I:wN (Z.bare Z.ok) l xb:=⟨fp.1,λi h1 M=>HD (WS R _ (qA h1)) (fp.2 i h1 M)⟩
   refine(hs (Z.bare Z.ok) l xb rs dE hc (Y0 hI (λ_ h=>h) hI.bN) I).mono ?_
   rintro e w' ⟨κ1,rfl,vX,Vz,N,he⟩
   unfold z2V at hr
   split at hr
   ·rename_i ds heq
    cases heq
    cases hr
    obtain⟨v,rfl,hv⟩:=he
    obtain⟨hE,hI'⟩:=DP hI Vz vX N κ1.ok (λk hk=>(N.same k hk).1) (λk hk=>by
     rcases N.fresh k hk with h | h | ⟨b,n,h⟩
     ·exact .inl h
     ·exact .inr h
     ·simp[KS.bare]at h) Vz.bN
    exact⟨{ Z with w:=κ1.w,ok:=κ1.ok },v,rfl,rfl,hI',hE,rfl,λd' ef=>by cases ef; exact RD.free (Z:=κ1) (Y:={ Z with w:=κ1.w,ok:=κ1.ok }) rfl rfl vX hv⟩
   ·exact hr.elim
  | false =>
   rw[hm,cond_false,rF]at h
   obtain⟨h,rfl⟩:=h
   simp only[T.xg]at h
   obtain⟨l,R,⟨rs,dE⟩,hc,hr⟩:=h
   have fp:=Hy hI ha R
   have I:wN (Z.bare (Th Z)) l xb:=⟨fp.1,λi h1 M=>HD (WS R _ (qA h1)) (fp.2 i h1 M)⟩
   have wM:∀ k,Th Z k->k<Z.w.heap.size:=by
    rintro k (hk | ⟨b,n,hk⟩)
    ·exact hI.bN k hk
    ·exact(hI.apart b k n hk).1
   refine(hs (Z.bare (Th Z)) l xb rs dE hc (Y0 hI (λ_ h=>.inl h) wM) I).mono ?_
   rintro e w' ⟨κ1,rfl,vX,Vz,N,he⟩
   unfold Wc at hr
   split at hr
   ·rename_i ds heq
    cases heq
    cases ZK:ds.all Wf with
    | false=>rw[ZK]at hr; exact hr.elim
    | true =>
     rw[ZK,cond_true]at hr
     cases hr
     obtain⟨v,rfl,hv⟩:=he
     obtain⟨hE,hI'⟩:=DP hI Vz vX N Z.ok (λk hk=>hk) (λk hk=>.inl hk) (λk hk=>qO (hI.bN k hk) N.size)
     refine⟨{ Z with w:=κ1.w,ok:=Z.ok },v,rfl,rfl,hI',hE,rfl,λd' ef => ?_⟩
     cases ef
     have one:∀ d u,Wf d=true->RD κ1 d u->RD { Z with w:=κ1.w,ok:=Z.ok } d u:=by
      intro d u J hu
      cases d<;>simp[Wf]at J
      obtain⟨cs,h1,rfl⟩:=RD.cP hu
      exact .qi _ _ cs (h1.scalar J)
     have H4:=qU.1 ZK
     unfold eO at hv ⊢
     split at hv
     ·exact one _ _ (H4 _ (qz)) hv
     ·rename_i jZ
      cases hv with
      | eG _ vs R hh=>exact .eG ds vs R λi h1 M=>one _ _ (H4 _ (qA h1)) (hh i h1 M)
   ·exact hr.elim
 ·unfold sx at h
  simp only[qu,T.xg]at h
  obtain⟨⟨rs,dE⟩,hc,hr⟩:=h
  refine(hs Z args xb rs dE hc hI ha).mono ?_
  rintro e w' ⟨κ1,rfl,vX,Vz,N,he⟩
  cases rs with
  | b9 p=>exact hr.elim
  | ret ds =>
   cases hr
   obtain⟨v,rfl,hv⟩:=he
   exact⟨κ1,v,rfl,vX,Vz,N,rfl,λd' ef=>by cases ef; exact hv⟩
end
end Go.AM