/-
  The abstract machine, part B: texts of our own, the same for each claim.
-/
import Derived.Test.YtbccccfmfeihfaaGreatDoorAmA
import Derived.Lib.AppendStr
import Derived.Maps.OwnSet
import Derived.Lib.LazyBuf
import Derived.Laws.Pointers
import Derived.WideLaws
import Derived.Laws.BytesArg
import Derived.Laws.CopyRow
import Derived.Laws.IdiomCopy
set_option linter.unusedVariables false
open List renaming getElem?_eq_some_iff -> zA, getElem?_append_left -> zG, length_append -> zK, eq_nil_of_length_eq_zero -> zM, getElem?_eq_getElem -> zN, take -> zR, length -> zS, getElem?_set -> zT, length_take -> zU, size_toArray -> zY, getElem_mem -> qA, getElem?_append_right -> qC, append_assoc -> qI, take_succ_eq_append_getElem -> qJ, length_drop -> qK, getElem?_map -> qR, all_eq_true -> qU, length_cons -> qV, getElem?_set_self -> qW, mem_map -> qX, mem_append -> qZ, getElem?_toArray -> xA, length_replicate -> xB, mem_cons_of_mem -> xC, mem_of_mem_drop -> xD, mem_cons -> xG
open Go.Result renaming andThen_ok -> Y
open Nat renaming mul_le_mul_right -> M, le_of_ble_eq_true -> U, le_refl -> zE, eq_of_beq_eq_true -> zF, not_lt_zero -> zW, succ_mul -> qB, add_mul -> qD, zero_add -> qE, beq -> qL, le_trans -> qN, lt_of_lt_of_le -> qO, blt -> xE, add_zero -> xH
open Go.Sem renaming run_bind -> zH, run_pure -> qF
open Bool renaming and_eq_true -> zI
open Pure renaming pure -> zJ
open Go.Builtin renaming append_ -> zL, firstCells -> zO, zeroCells -> zX, lenOf -> qS
open Go.Value renaming int -> zP
open Go.Instr renaming buildSlice -> zQ, fill -> qH, box -> qT, makeSlice -> qY, storeAt -> xF
open Array renaming getElem?_toList -> zV, length_toList -> qG, range -> xK
open Option renaming isSome_iff_exists -> zZ
open Go.Maps renaming keyOf_int_mk -> qM, int_keyed -> qQ
open Go.Lib renaming run_firstCells_string -> qP
open Go.WideElems renaming rd -> xI, rg -> xJ
namespace Go.AM
set_option linter.unusedSectionVars false
variable [gp]
section
variable {c:Ctx} {O E:KS}
theorem pP.mono(x:Ext O E){b:Nat}(hp:E.ph[b]? = O.ph[b]?)(hh:∀ blk n,O.ph[b]? = some (some (blk,n))->E.w.heap[blk]? = O.w.heap[blk]?){y:cU}(h:pP O b y):pP E b y:=by
 cases y with
 | dead=>trivial
 | var d =>
  refine kX.elim h (λhm h=>.mk hm ?_) λl e h=>by
   subst e
   obtain⟨blk,o,h1,X,h3⟩:=h
   exact⟨blk,o,hp.trans h1,(hh blk 0 h1).trans X,h3⟩
  obtain⟨blk,n,cs,t,h1,X,h3,h4,h5⟩:=h
  exact⟨blk,n,cs,t,hp.trans h1,(hh blk n h1).trans X,h3,h4.mono x,h5⟩
 | arr vp e xs =>
  obtain⟨h0,h⟩:=h
  refine⟨h0,s7 h (λh=>⟨h.1,hp.trans h.2⟩) ?_⟩
  rintro⟨blk,n,cs,t,h1,X,h3,h4,hr,f,h5⟩
  exact⟨blk,n,cs,t,hp.trans h1,(hh blk n h1).trans X,h3,h4,hr,f,λi hi=>⟨(h5 i hi).1.mono x.same,(h5 i hi).2⟩⟩
def KS.qs(O:KS)(w':World):KS:={ O with w:=w',ok:=λk=>O.ok k\/k=O.w.heap.size }
structure nd(w w':World)(o:Obj):Prop where
 os:w'.os=w.os
 tape:w'.tape=w.tape
 output:w'.output=w.output
 heap:w'.heap=w.heap.push o
theorem nd.size{w w':World}{o:Obj}(g:nd w w' o):w'.heap.size=w.heap.size+1:=by rw[g.heap]; simp
theorem nd.old{w w':World}{o:Obj}(g:nd w w' o){k:Nat}(h:k<w.heap.size):w'.heap[k]? = w.heap[k]? := by
 rw[g.heap,Array.getElem?_push,if_neg (Z)]
theorem nd.new{w w':World}{o:Obj}(g:nd w w' o):w'.heap[w.heap.size]? = some o:=by rw[g.heap]; simp
theorem nd.alloc(w:World)(o:Obj):nd w (w.alloc o) o:=⟨rfl,rfl,rfl,rfl⟩
theorem nd.drew(w:World)(o:Obj):nd w (w.drew.alloc o) o:=⟨rfl,rfl,rfl,rfl⟩
theorem WB{w':World}{o:Obj}(hI:Inv O)(g:nd O.w w' o):Ext O (O.qs w'):=by
 refine⟨g.os,g.tape,g.output,by show O.w.heap.size<=w'.heap.size; rw[g.size]; omega,λk hk=>⟨.inl hk,g.old (hI.bT k hk)⟩,?_,λ_ _ _ h=>.inl h,λb d h=>⟨⟨d,h⟩,rfl⟩,
  λb v0 e xs h=>.inr ⟨v0,xs,h,zE _,λ_=>⟨rfl,rfl⟩⟩,λ_ h=>h,zE _,λk hk _=>g.old hk⟩
 rintro k (hk | hk)
 ·grind
 ·grind
theorem cY{w':World}{o:Obj}(hI:Inv O)(g:nd O.w w' o):Inv (O.qs w'):=by
 refine⟨hI.len,?_,?_,hI.inj,?_,hI.gl.mono (WB hI g).same⟩
 ·rintro k (hk | hk)
  ·have:=hI.bT k hk; show k<w'.heap.size; rw[g.size]; omega
  ·show k<w'.heap.size; rw[g.size]; omega
 ·intro b blk n h
  obtain⟨h1,X⟩:=hI.apart b blk n h
  refine⟨by show blk<w'.heap.size; rw[g.size]; omega,?_⟩
  rintro(hk | hk)
  ·exact X hk
  ·omega
 ·intro b x N
  exact(hI.blk b x N).mono (WB hI g) rfl λblk n h=>g.old (hI.apart b blk n h).1
def KS.add(O:KS)(w':World)(n:Nat)(x:cU):KS:={ O with w:=w',ph:=O.ph++[some (O.w.heap.size,n)],st:=O.st++[x] }
theorem ZI{w':World}{o:Obj}{n:Nat}{x:cU}(hI:Inv O)(g:nd O.w w' o):Ext O (O.add w' n x):=by
 have ud:∀ b y,O.st[b]? = some y->(O.st++[x])[b]? = some y:=λb y h=>by rw[zG (zA.1 h).1]; exact h
 have HQ:∀ b y,O.st[b]? = some y->(O.ph++[some (O.w.heap.size,n)])[b]? = O.ph[b]? := λb y h=>by
  rw[zG]; rw[hI.len]; exact(zA.1 h).1
 refine⟨g.os,g.tape,g.output,by show O.w.heap.size<=w'.heap.size; rw[g.size]; omega,λk hk=>⟨hk,g.old (hI.bT k hk)⟩,λk hk=>.inl hk,?_,λb d h=>⟨⟨d,ud b _ h⟩,HQ b _ h⟩,
  λb v0 e xs h=>.inr ⟨v0,xs,ud b _ h,zE _,λ_=>⟨HQ b _ h,rfl⟩⟩,λb h=>ud b _ h,by simp[KS.add],λk hk _=>g.old hk⟩
 intro b blk m h
 simp only[KS.add]at h
 grind
theorem tO(hI:Inv O){w':World}{n:Nat}{x:cU}:(O.add w' n x).ph[O.st.length]? = some (some (O.w.heap.size,n)):=by
 simp[KS.add,<- hI.len]
theorem Xa{w':World}{n:Nat}{x:cU}:(O.add w' n x).st[O.st.length]? = some x:=by simp[KS.add]
theorem Ur{w':World}{o:Obj}{n:Nat}{x:cU}(hI:Inv O)(g:nd O.w w' o)(N:pP (O.add w' n x) O.st.length x):Inv (O.add w' n x):=by
 have hold:∀ (b blk m:Nat),(O.ph++[some (O.w.heap.size,n)])[b]? = some (some (blk,m))->O.ph[b]? = some (some (blk,m))\/(b=O.ph.length/\blk=O.w.heap.size):=by
  grind
 refine⟨by simp[KS.add,hI.len],?_,?_,?_,?_,hI.gl.mono (ZI hI g).same⟩
 ·intro k hk; have:=hI.bT k hk; show k<w'.heap.size; rw[g.size]; omega
 ·intro b blk m h
  rcases hold b blk m h with h | ⟨rfl,rfl⟩
  ·obtain⟨h1,X⟩:=hI.apart b blk m h
   exact⟨by show blk<w'.heap.size; rw[g.size]; omega,X⟩
  ·exact⟨by show O.w.heap.size<w'.heap.size; rw[g.size]; omega,λhk=>absurd (hI.bT _ hk) (Nat.lt_irrefl _)⟩
 ·intro b b' blk m m' h h'
  rcases hold b blk m h with h | ⟨rfl,rfl⟩<;>rcases hold b' _ m' h' with h' | ⟨rfl,h''⟩
  ·exact hI.inj b b' blk m m' h h'
  ·have:=(hI.apart b blk m h).1; omega
  ·have:=(hI.apart b' _ m' h').1; omega
  ·rfl
 ·intro b y hy
  simp only[KS.add]at hy
  by_cases I:b<O.st.length
  ·rw[zG I]at hy
   refine(hI.blk b y hy).mono (ZI hI g) ?_ λblk m h=>g.old (hI.apart b blk m h).1
   simp only[KS.add]
   rw[zG (by rw[hI.len]; exact I)]
  ·grind
theorem RD.z3G{O:KS}{d:D}{v:Value}(h:RD O d v):d.Gq=false:=by cases h<;>rfl
theorem Rh{d:D}{v:Value}{t:TypeId}(hI:Inv O)(J:RD O d v)(ht:d.bF=false)(NY:∀ T,d.typed=some T->t=T) :
  ∃ E:KS,E.w=O.w.alloc (.cells v.cells t)/\E.st=O.st++[.var d]/\Inv E/\Ext O E/\RD E (.ptr O.st.length 0) (.pointer (some ⟨O.w.heap.size,0,none⟩)):=by
 have g:=nd.alloc O.w (.cells v.cells t)
 have N:=ZI (n:=v.cells.size) (x:=.var d) hI g
 refine⟨O.add _ v.cells.size (.var d),rfl,rfl,Ur hI g ?_,N,.ptr _ 0 _ v.cells.size d Xa (tO hI)⟩
 exact .mk J.z3G ⟨O.w.heap.size,v.cells.size,v.cells,t,tO hI,g.new,rfl,(cI J ht).mono N,cH J,NY⟩
theorem z0Q{t:Nat}{x:Option D}{v:Value}{d:Option D}{qt:St}(hI:Inv O)(N:∀ z,x=some z->RD O z v)
  (h:(qx (z0O x) O.st).leads (d,qt)) :
  wB c.P (do zJ (.value (<- qT t v))) O d qt:=by
 cases x with
 | none=>exact absurd h zj
 | some y =>
  simp only[z0O]at h
  cases ht:y.bF||y.typed.isSome with
  | true=>rw[ht]at h; exact absurd h zj
  | false =>
   rw[ht,cond_false]at h
   simp at ht
   obtain⟨ht,NY⟩:=ht
   have zpF:∀ T,y.typed=some T->t=T:=λT e=>by rw[e]at NY; cases NY
   obtain⟨rfl,rfl⟩:=h
   obtain⟨E,h1,X,h3,h4,h5⟩:=Rh (t:=t) hI (N _ rfl) ht zpF
   refine⟨E,_,_,?_,.inl rfl,X,h3,h4,λ_ he=>by cases he; exact h5⟩
   simp[qT,newVar,newRow,h1]
theorem zeA{d:D}{τ:Ty}{x:den τ}{v:Value}{t:TypeId}(hI:Inv O)(J:RD O d v)(N:oQ τ d=some x) :
  ∃ E:KS,E.w=O.w.alloc (.cells v.cells t)/\E.st=O.st/\Inv E/\Ext O E/\RD E (.vH τ x) (.pointer (some ⟨O.w.heap.size,0,none⟩)):=by
 have g:=nd.alloc O.w (.cells v.cells t)
 have HR:=WB hI g
 obtain⟨cs,h1,X⟩:=RD.cY (mG J N)
 have hc:=Jk h1.len h1.one
 have hn:(O.w.alloc (.cells v.cells t)).heap[O.w.heap.size]? = some (.cells v.cells t (0,0)):=g.new
 have eM:∀ j u,cs[j]? = some u->(O.w.alloc (.cells v.cells t)).cell? ⟨O.w.heap.size,0+j,none⟩=some u:=by
  simp
  grind
 exact⟨O.qs _,rfl,rfl,cY hI g,HR,.vH τ x cs O.w.heap.size 0 (.inr rfl) (h1.mono HR.same) eM⟩
theorem LC{t:Nat}{x:Option D}{v:Value}{d:Option D}{qt:St}(hI:Inv O)(N:∀ z,x=some z->RD O z v)
  (h:(qx (z0P c t x) O.st).leads (d,qt)):wB c.P (do zJ (.value (<- qT t v))) O d qt:=by
 have key:∀ (y:D) (τ:Ty) (z:den τ),x=some y->oQ τ y=some z->(qx (val (.vH τ z)) O.st).leads (d,qt)->wB c.P (do zJ (.value (<- qT t v))) O d qt:=by
  intro y τ z hy hz h
  obtain⟨rfl,rfl⟩:=h
  obtain⟨E,h1,X,h3,h4,h5⟩:=zeA (t:=t) hI (N y hy) hz
  refine⟨E,_,_,?_,.inl rfl,X,h3,h4,λ_ he=>by cases he; exact h5⟩
  simp[qT,newVar,newRow,h1]
 unfold z0P at h
 split at h
 ·rename_i τ z
  exact key _ τ z rfl (by simp[oQ,jV]) h
 ·split at h
  ·split at h
   ·grind
   ·exact absurd h zj
  ·exact absurd h zj
 ·exact absurd h zj
theorem LB{t:Nat}{dst:Option Nat}{x:Option D}{v:Value}{d:Option D}{qt:St}(hI:Inv O)(N:∀ z,x=some z->RD O z v)
  (h:(qx (z0N c t dst x) O.st).leads (d,qt)):wB c.P (do zJ (.value (<- qT t v))) O d qt:=by
 unfold z0N at h
 cases I:z4o c dst with
 | true=>rw[I]at h; exact LC hI N h
 | false=>rw[I]at h; exact z0Q hI N h
theorem WJ{v:Value}{d:D}(h:XS v=some d):RD O d v/\d.one=true/\d.bF=false/\(∀ cs,v≠.agg cs):=by
 unfold XS at h
 split at h<;>cases h<;>refine⟨?_,rfl,rfl,λ_=>nofun⟩
 ·exact .int
 ·exact .bool
 ·rename_i s; have:=RD.str (O:=O) (s:=s.data.toList); simpa using this
 ·exact .wJ
 ·exact .gx
 ·exact .gw
 ·exact .ve
 ·exact .uZ
theorem H3{v:Value}{d:D}(h:KP v=some d):RD O d v/\d.bF=false:=by
 unfold KP at h
 split at h
 ·rename_i cs
  split at h
  ·rename_i l R
   cases h
   have Qa:∀ x∈l,x.one=true:=by
    intro x N
    have:some x∈cs.toList.map XS:=by rw[oO R]; exact qX.2 ⟨x,N,rfl⟩
    obtain⟨u,_,hu⟩:=qX.1 this
    exact(WJ (O:=O) hu).2.1
   have hr:=fN (O:=O) (vs:=cs.toList) R (qp) (λi d v J hv=>by
    simp only[qR,hv,Option.map_some,Option.some.injEq]at J
    exact(WJ J).1)
   refine⟨?_,rfl⟩
   have:=RD.agg l cs.toList hr.1 Qa hr.2
   omega
  ·cases h
 ·exact⟨(WJ h).1,(WJ (O:=O) h).2.2.1⟩
theorem Je{v:Value}{d:D}(h:XS v=some d):(∀ l,d≠.agg l)/\(∀ T,d≠.nh T)/\∀ b T,d≠.eF b T:=by
 unfold XS at h
 grind
theorem Il{v:Value}{d:D}(h:KP v=some d):d.typed=none:=by
 unfold KP at h
 split at h
 ·rename_i cs
  split at h
  ·rename_i l R
   cases h
   have hz:=oO R
   cases l with
   | nil=>rfl
   | cons x r =>
    have:some x∈cs.toList.map XS:=by rw[hz]; simp
    obtain⟨u,_,hu⟩:=qX.1 this
    obtain⟨_,h1,X⟩:=Je hu
    cases x<;>first | rfl | exact absurd rfl (h1 _) | exact absurd rfl (X _ _)
  ·cases h
 ·have:=(Je h).1
  cases d<;>first | rfl | exact absurd rfl (this _)
structure ZD(t:Nat)(d:D)(z:Value):Prop where
 rd:∀ O:KS,RD O d z
 eO:d.bF=false
 ty:∀ T,d.typed=some T->t=T
theorem z3w{t:Nat}{d:D}{z:Value}(h:KP z=some d):ZD t (z3v c t d) z:=by
 have h0:∀ O:KS,RD O d z:=λO=>(H3 h).1
 have h1:d.bF=false:=(H3 (O:=⟨default,λ_=>False,[],[]⟩) h).2
 have X:=Il h
 have same:ZD t d z:=⟨h0,h1,λT e=>wb⟩
 unfold z3v
 split
 ·rename_i r
  cases hs:zbX c t with
  | false=>exact same
  | true =>
   refine⟨λO => ?_,rfl,λT e=>by cases e; rfl⟩
   cases h0 O with
   | agg _ vs R ho hh =>
    have hR:wQ O (.gx::r) vs:=⟨R,hh⟩
    obtain⟨v,us,rfl,g1,g2⟩:=hR.cons_inv
    have hR2:wQ O (.nh t::r) (v::us):=.cons (by cases g1; exact .nh t) g2
    exact .agg _ _ hR2.1 (λx N=>by
     rcases xG.1 N with rfl | N
     ·rfl
     ·exact ho x (xC _ N)) hR2.2
 ·exact same
theorem sP{t:Nat}{d:D}(h:Y7 c t=some d):∃ i z,c.P.info? t=some i/\i.zero=some z/\ZD t d z:=by
 unfold Y7 at h
 split at h
 ·rename_i i hi
  split at h
  ·rename_i z hz
   split at h
   ·rename_i d0 hd0
    cases h
    exact⟨i,z,hi,hz,z3w hd0⟩
   ·cases h
  ·cases h
 ·cases h
theorem Ll{t:Nat}{d:Option D}{qt:St}(hI:Inv O)
  (h:(qx (oP c t) O.st).leads (d,qt)) :
  wB c.P (do zJ (.value (<- Instr.alloc t true (.tuple #[])))) O d qt:=by
 unfold oP at h
 split at h
 ·rename_i y hy
  obtain⟨i,z,h1,X,h3⟩:=sP hy
  obtain⟨rfl,rfl⟩:=h
  obtain⟨E,g1,g2,g3,g4,g5⟩:=Rh (t:=t) hI (h3.rd O) h3.eO h3.ty
  refine⟨E,_,_,?_,.inl rfl,g2,g3,g4,λ_ he=>by cases he; exact g5⟩
  simp[Instr.alloc,zeroValue,typeInfo,h1,X,newVar,newRow,g1]
 ·exact absurd h zj
end
end Go.AM
namespace Go.AM
set_option linter.unusedSectionVars false
variable [gp]
section
variable {c:Ctx} {O:KS}
def KS.Ue(O:KS)(b:Nat)(w':World)(x:cU):KS:={ O with w:=w',st:=O.st.set b x }
def KS.upd(O:KS)(b blk:Nat)(cs:Array Value)(x:cU):KS:=O.Ue b (O.w.setRow blk cs) x
def Alike:cU->cU->Prop
 | .var _,.var _=>True
 | .arr v e xs,.arr v' e' xs'=>e=e'/\v<=v'/\(v=v'->xs.length=xs'.length)
 | _,_=>False
theorem JE{b blk n:Nat}{w':World}{x y:cU}(hI:Inv O)(hp:O.ph[b]? = some (some (blk,n)))(hy:O.st[b]? = some y)(ha:Alike y x)(g:O.w.grownBy w' (some blk)):Ext O (O.Ue b w' x):=by
 have wO:b<O.st.length:=(zA.1 hy).1
 have ki:∀ k,O.ok k->k≠blk:=λk hk e=>(hI.apart b blk n hp).2 (e▸hk)
 refine⟨g.os,g.tape,g.output,g.size,λk hk=>⟨hk,g.block k (hI.bT k hk) λe=>ki k hk (Option.some.inj e)⟩,λk hk=>.inl hk,λ_ _ _ h=>.inl h,?_,?_,?_,by simp[KS.Ue],?_⟩
 ·intro b' d J
  refine⟨?_,rfl⟩
  simp only[KS.Ue,zT]
  split
  ·rename_i e
   subst e
   rw[hy]at J; cases J
   cases x<;>simp[Alike]at ha
   simp
  ·grind
 ·intro b' v0 e Uf J
  simp only[KS.Ue,zT]
  split
  ·rename_i e'
   subst e'
   rw[hy]at J; cases J
   cases x<;>simp[Alike]at ha
   grind
  ·grind
 ·intro b' J
  simp only[KS.Ue,zT]
  split
  ·rename_i e
   subst e
   rw[hy]at J; cases J
   simp[Alike]at ha
  ·exact J
 ·intro k hk hn
  exact g.block k hk λe=>by cases e; exact hn b n hp
theorem IT{b blk n:Nat}{w':World}{x y:cU}(hI:Inv O)(hp:O.ph[b]? = some (some (blk,n)))(hy:O.st[b]? = some y)(ha:Alike y x)
  (g:O.w.grownBy w' (some blk)) (N:pP (O.Ue b w' x) b x):Inv (O.Ue b w' x):=by
 refine⟨by simp[KS.Ue,hI.len],λk hk=>qO (hI.bT k hk) g.size,?_,hI.inj,?_,hI.gl.mono (JE hI hp hy ha g).same⟩
 ·intro b' pS m h
  obtain⟨h1,X⟩:=hI.apart b' pS m h
  exact⟨qO h1 g.size,X⟩
 ·intro b' z hz
  by_cases I:b=b'
  ·subst I
   simp only[KS.Ue]at hz
   grind
  ·simp only[KS.Ue,zT,if_neg I]at hz
   refine(hI.blk b' z hz).mono (JE hI hp hy ha g) rfl λpS m h => ?_
   refine g.block pS (hI.apart b' pS m h).1 λe => ?_
   cases e
   exact I (hI.inj b b' _ n m hp h)
theorem JA(w:World)(blk:Nat)(cs:Array Value):w.grownBy (w.setRow blk cs) (some blk) :=
 ⟨rfl,rfl,rfl,by rw[setRow_size]; exact zE _,λk _ hk=>setRow_other _ _ _ _ λe=>hk (by rw[e])⟩
theorem JF{b blk n:Nat}{cs:Array Value}{x y:cU}(hI:Inv O)(hp:O.ph[b]? = some (some (blk,n)))(hy:O.st[b]? = some y)(ha:Alike y x):Ext O (O.upd b blk cs x):=JE hI hp hy ha (JA _ _ _)
theorem JG{b blk n:Nat}{cs:Array Value}{x y:cU}(hI:Inv O)(hp:O.ph[b]? = some (some (blk,n)))(hy:O.st[b]? = some y)(ha:Alike y x)
  (N:pP (O.upd b blk cs x) b x):Inv (O.upd b blk cs x):=IT hI hp hy ha (JA _ _ _) N
theorem DX{d d':D}{t:Nat}(h:Qo d d'=true)(J:∀ T,d.typed=some T->t=T):∀ T,d'.typed=some T->t=T:=by
 intro T hT
 unfold Qo at h
 rw[hT]at h
 cases hd0:d.typed with
 | none=>grind
 | some T' =>
  rw[hd0]at h
  have e:=zF h
  grind
theorem QX{t:Nat}{n blk o:Nat}{v:Value}{cs:Array Value}{T:TypeId}(hn:tJ c t=some n)(hv:v.cells.toList.length=n)(h1:∀ u∈v.cells.toList,u.oneCell'=true)
  (hg:O.w.heap[blk]? = some (.cells cs T (0,0))) (hle:o+n<=cs.size) :
  (storeVar t ⟨blk,o,none⟩ v).run c.P O.w=.ok () (O.w.setRow blk (cs.toList.take o++v.cells.toList++cs.toList.drop (o+n)).toArray):=by
 have hs:v.cells.size=n:=by simpa using hv
 have:=run_storeCells_at c.P blk o T v.cells.toList 0 cs O.w hg (wb) h1
 simp[storeVar,run_sizeOf hn,hs,this]
theorem Z1{l:List D}{vs us:List Value}{x:List D}(h:wQ O l vs)(N:wQ O x us)(o n:Nat) :
  wQ O (l.take o++x++l.drop (o+n)) (vs.take o++us++vs.drop (o+n)):=((h.take o).append N).append (h.drop (o+n))
theorem Ud{cs us:List Value}{o n:Nat}(hu:us.length=n)(ho:o+n<=cs.length)(p:Nat) :
  (cs.take o++us++cs.drop (o+n))[p]? = if p<o then cs[p]? else if p<o+n then us[p-o]? else cs[p]? := wb
theorem Cn{t:Nat}{d x r:D}{off:Nat}(h:Bh c t d off x=some r):∃ n,tJ c t=some n/\0<n/\(we x).length=n/\off+n<=(we d).length /\
  we r=(we d).take off++we x++(we d).drop (off+n)/\((∀ y∈we d,y.one=true)->(∀ y∈we x,y.one=true)->∀ y∈we r,y.one=true)/\x.bF=false:=by
 unfold Bh at h
 split at h
 ·cases h
 ·rename_i n hn
  cases I:xE 0 n&&qL n (we x).length&&Nat.ble (off+n) (we d).length with
  | false=>grind
  | true =>
   rw[I,cond_true]at h
   simp only[zI]at I
   obtain⟨⟨h0,h1⟩,X⟩:=I
   have h0':0<n:=U h0
   have HO:n=(we x).length:=zF h1
   have h2':=U X
   have Ba:x.bF=false:=by
    cases x with
    | eO l=>simp[we]at HO; omega
    | _=>rfl
   cases hw:qL n (we d).length with
   | true =>
    have h3:n=(we d).length:=zF hw
    have h4:off=0:=Z
    subst h4
    rw[hw,cond_true]at h
    have hr:we r=we x/\r.bF=false:=by
     cases ha:d.cQ && !x.cQ with
     | true=>rw[ha,cond_true]at h; cases h; exact⟨rfl,rfl⟩
     | false=>rw[ha,cond_false]at h; cases h; exact⟨rfl,Ba⟩
    refine⟨n,hn,h0',HO.symm,h2',?_,λ_ N y hy=>N y (hr.1▸hy),Ba⟩
    rw[hr.1]
    simp[<- h3]
   | false =>
    rw[hw,cond_false]at h
    cases h
    refine⟨n,hn,h0',HO.symm,h2',rfl,λJ N y hy => ?_,Ba⟩
    simp only[we,qZ]at hy
    rcases hy with(hy | hy) | hy
    ·exact J y (List.mem_of_mem_take hy)
    ·exact N y hy
    ·exact J y (xD hy)
theorem RM{t:Nat}{d x r:D}{off:Nat}(h:Bh c t d off x=some r):d.Gq=false/\r.Gq=false:=by
 unfold Bh at h
 split at h
 ·cases h
 ·rename_i n hn
  cases I:xE 0 n&&qL n (we x).length&&Nat.ble (off+n) (we d).length with
  | false=>rw[I]at h; cases h
  | true =>
   rw[I,cond_true]at h
   simp only[zI]at I
   have h0:0<n:=U I.1.1
   have h1:=zF I.1.2
   have X:=U I.2
   refine⟨by cases d<;>first | rfl | (simp[we]at X; omega),?_⟩
   cases hw:qL n (we d).length with
   | true =>
    rw[hw,cond_true]at h
    cases ha:d.cQ && !x.cQ with
    | true=>rw[ha,cond_true]at h; cases h; rfl
    | false=>rw[ha,cond_false]at h; cases h; cases x<;>first | rfl | (simp[we]at h1; omega)
   | false=>rw[hw]at h; cases h; rfl
theorem XV{τ:Ty}{r:D}{x:den τ}{vs:List Value}(h:oQ τ r=some x)(hr:wQ O (we r) vs)(Qa:∀ y∈we r,y.one=true)(ht:r.bF=false):Rc O.w O.ok τ x vs:=by
 cases r with
 | qs σ y=>obtain⟨rfl,rfl⟩:=wk h; exact Yr _ _ hr
 | agg l =>
  have:=mG (RD.agg l vs hr.1 Qa hr.2) h
  obtain⟨cs,h1,X⟩:=RD.cY this
  have hc:=Jk h1.len h1.one
  simp only[Value.cells]at hc
  grind
 | eO l=>cases ht
 | Cg l=>cases h
 | _ =>
  obtain⟨v,r',rfl,h1,X⟩:=wQ.cons_inv hr
  have e2:=X.wj
  subst e2
  have h3:=mG h1 h
  obtain⟨cs,h4,h5⟩:=RD.cY h3
  have hag:τ.isAgg=false:=by
   cases hta:τ.isAgg with
   | false=>rfl
   | true=>simp[oQ,D.isAgg,hta]at h
  obtain⟨u,rfl⟩:=h4.single hag
  rw[Hb hag]at h5
  rwa [h5]
theorem N3{t:Nat}{a x:Option D}{v u:Value}{d:Option D}{qt:St}(hI:Inv O)(ha:∀ z,a=some z->RD O z v)(N:∀ z,x=some z->RD O z u)
  (h:(qx (YI c t a x) O.st).leads (d,qt)):wB c.P (do xF t v u; zJ .skip) O d qt:=by
 unfold YI at h
 split at h
 ·rename_i b off y
  simp only[qx]at h
  split at h
  ·rename_i d0 I
   split at h
   ·rename_i r hr
    cases ja:Qo d0 r with
    | false=>rw[ja]at h; exact h.elim
    | true =>
    rw[ja,cond_true]at h
    simp only[T.leads,Prod.mk.injEq]at h
    obtain⟨rfl,rfl⟩:=h
    obtain⟨n,hn,h0,KD,hle,FJ,Qa,Ba⟩:=Cn hr
    cases ha _ rfl with
    | ptr _ _ blk m d1 J hp =>
     obtain⟨pS,m',cs,T,g1,g2,g3,g4,g5⟩:=(hI.blk b _ I:kX O b d0).cells (RM hr).1
     rw[hp]at g1
     cases g1
     have hy:=N _ rfl
     have hfy:=cI hy Ba
     have Mf:u.cells.toList.length=n:=by rw[<- hfy.1]; exact KD
     have bR:off+n<=cs.size:=by have:=g4.1; simp at this; omega
     have h1:∀ z∈u.cells.toList,z.oneCell'=true:=by
      intro z hz
      obtain⟨i,hi,rfl⟩:=List.getElem_of_mem hz
      exact(hfy.2 i (hfy.1▸hi) hi).YC (cH hy _ (qA _))
     have jR:=QX (c:=c) (O:=O) hn Mf h1 g2 bR
     have Yb:Alike (.var d0) (.var r):=trivial
     let mI:=(cs.toList.take off++u.cells.toList++cs.toList.drop (off+n)).toArray
     have hex:=JF (cs:=mI) (x:=.var r) hI hp I Yb
     refine⟨O.upd b blk mI (.var r),.skip,undef,?_,.inr ⟨rfl,rfl⟩,rfl,JG hI hp I Yb ?_,hex,λ_ he=>by cases he⟩
     ·simp only[zH,xF,Instr.sureAddr,qF,Y,jR]; rfl
     ·refine .mk (RM hr).2 ⟨blk,m,mI,T,hp,setRow_heap _ _ _ _ _ _ g2,?_,?_,Qa g5.1 (cH hy),DX ja g5.2⟩
      ·grind
      ·rw[FJ]; exact(Z1 g4 hfy off n).mono hex
   ·exact h.elim
  ·exact h.elim
 ·rename_i b vp e idx off y
  simp only[qx]at h
  split at h
  ·rename_i dO e' xs I
   cases he:decide (e'=e)with
   | false=>rw[he]at h; exact h.elim
   | true =>
    rw[he,cond_true]at h
    have M6:e'=e:=uf he
    subst M6
    obtain⟨⟨rfl,wO⟩,h⟩:=h
    split at h
    ·rename_i r hr
     split at h
     ·rename_i z hz
      simp only[T.leads,Prod.mk.injEq]at h
      obtain⟨rfl,rfl⟩:=h
      obtain⟨n,hn,h0,KD,hle,FJ,Qa,Ba⟩:=Cn hr
      cases ha _ rfl with
      | gP _ _ _ _ _ blk o hold hp =>
       obtain⟨m,p1,rfl⟩:=hp xs I wO
       obtain⟨bR,⟨Gj,_⟩ | ⟨pS,n',cs,T,g1,g2,g3,g4,gr,f,g5⟩⟩:=hI.blk b _ I
       ·grind
       ·rw[p1]at g1
        cases g1
        rw[getD_lt wO]at hr FJ hle Qa
        have hy:=N _ rfl
        have hfy:=cI hy Ba
        have Mf:u.cells.toList.length=n:=by rw[<- hfy.1]; exact KD
        obtain⟨k1,k2⟩:=g5 idx wO
        have FH:=k1.len
        have B5:off+n<=e'.size:=by simpa[we,UL]using hle
        have zun:idx*e'.size+e'.size<=xs.length*e'.size:=by rw[<- qB]; exact M _ wO
        have Th:idx*e'.size+off+n<=cs.size:=Z
        have h1:∀ z∈u.cells.toList,z.oneCell'=true:=by
         intro z hz
         obtain⟨i,hi,rfl⟩:=List.getElem_of_mem hz
         exact(hfy.2 i (hfy.1▸hi) hi).YC (cH hy _ (qA _))
        have jR:=QX (c:=c) (O:=O) hn Mf h1 g2 Th
        have Yb:Alike (.arr vp e' xs) (.arr vp e' (xs.set idx z)):=⟨rfl,zE _,λ_=>qp⟩
        let mI:=(cs.toList.take (idx*e'.size+off)++u.cells.toList++cs.toList.drop (idx*e'.size+off+n)).toArray
        have hex:=JF (cs:=mI) (x:=.arr vp e' (xs.set idx z)) hI p1 I Yb
        refine⟨O.upd b blk mI (.arr vp e' (xs.set idx z)),.skip,undef,?_,.inr ⟨rfl,rfl⟩,rfl,JG hI p1 I Yb ?_,hex,λ_ he=>by cases he⟩
        ·simp only[zH,xF,Instr.sureAddr,qF,Y,jR]; rfl
        ·have hlen:mI.size=cs.size:=by simp[mI,Mf]; omega
         refine⟨bR,.inr ⟨blk,m,mI,T,p1,setRow_heap _ _ _ _ _ _ g2,by rw[hlen]; exact g3,by simpa using g4,?_⟩⟩
         -- cells of the element that is written
         let fi:=(f idx).take off++u.cells.toList++(f idx).drop (off+n)
         have zpe:wQ O (we r) fi:=by
          rw[FJ]
          exact Z1 (Xw k1) hfy off n
         have hrt:r.bF=false:=by
          cases r with
          | eO l =>
           have h6:=congrArg zS FJ
           rw[zK,zK,KD]at h6
           have h7:(we (D.eO l)).length=0:=rfl
           omega
          | _=>rfl
         have EA:=XV hz zpe (Qa (rH _ _) (cH hy)) hrt
         have B1:∀ p,mI[p]? = if p<idx*e'.size+off then cs[p]? else if p<idx*e'.size+off+n then u.cells.toList[p-(idx*e'.size+off)]? else cs[p]? := by
          intro p
          have:=Ud (cs:=cs.toList) (us:=u.cells.toList) Mf (by simpa using Th) p
          simpa only[mI,xA,zV]using this
         have zpd:∀ j,fi[j]? = if j<off then(f idx)[j]? else if j<off+n then u.cells.toList[j-off]? else(f idx)[j]? := λj=>Ud Mf (Z) j
         refine⟨gr,λi=>if i=idx then fi else f i,λi hi => ?_⟩
         rw[List.length_set]at hi
         by_cases hii:i=idx
         ·subst hii
          simp only[if_true,List.getElem_set_self]
          refine⟨EA.mono hex.same,λj w hj => ?_⟩
          rw[zpd]at hj
          rw[B1]
          split at hj
          ·rw[if_pos (Z)]; exact k2 j w hj
          ·split at hj
           ·rw[if_neg (Z),if_pos (Z)]; rw[<- hj]; congr 1; omega
           ·rw[if_neg (Z),if_neg (Z)]; exact k2 j w hj
         ·simp only[if_neg hii]
          obtain⟨q1,q2⟩:=g5 i hi
          refine⟨by rw[List.getElem_set_ne (λe=>hii e.symm)]; exact q1.mono hex.same,λj w hj => ?_⟩
          have hjl:j<e'.size:=by rw[<- q1.len]; exact(zA.1 hj).1
          rw[B1]
          rcases Nat.lt_or_gt_of_ne hii with B7 | hgt'
          ·have:i*e'.size+e'.size<=idx*e'.size:=by rw[<- qB]; exact M _ B7
           rw[if_pos (Z)]; exact q2 j w hj
          ·have:idx*e'.size+e'.size<=i*e'.size:=by rw[<- qB]; exact M _ hgt'
           rw[if_neg (Z),if_neg (Z)]; exact q2 j w hj
     ·exact h.elim
    ·exact h.elim
  ·exact h.elim
 ·exact absurd h zj
end
end Go.AM
namespace Go.AM
set_option linter.unusedSectionVars false
variable [gp]
section
variable {c:Ctx} {O:KS}
theorem Ky:∀ (vs:List Value) (cells:Array Value) (off k:Nat),off+k+vs.length<=cells.size ->
  ((vs.zipIdx k).foldl (λ(cs:Array Value) (p:Value×Nat)=>cs.setIfInBounds (off+p.2) p.1) cells).toList=cells.toList.take (off+k)++vs++cells.toList.drop (off+k+vs.length)
 | [],cells,off,k,_=>qp
 | v::vs,cells,off,k,h=>by
  simp only[qV]at h
  simp only[List.zipIdx_cons,List.foldl_cons]
  rw[Ky vs _ off (k+1) (by simp; omega)]
  have wO:off+k<cells.toList.length:=by simp; omega
  simp only[Array.toList_setIfInBounds,qV]
  have e1:(cells.toList.set (off+k) v).take (off+(k+1))=cells.toList.take (off+k)++[v]:=by
   rw[show off+(k+1)=off+k+1 by omega,qJ (by simpa using wO)]
   rw[List.take_set_of_le (zE _)]
   simp
  have e2:(cells.toList.set (off+k) v).drop (off+(k+1)+vs.length)=cells.toList.drop (off+k+(vs.length+1)):=by
   rw[List.drop_set_of_lt (Z)]
   grind
  grind
theorem Fs{place:Nat->Option (Nat×Nat)}{cells:Array Value}{i off size:Nat}{v:Value}{rest:List (Nat×Value)}(hp:place i=some (off,size))(hs:v.cells.toList.length=size)(hle:off+size<=cells.size) :
  qH place cells ((i,v)::rest)=qH place (cells.toList.take off++v.cells.toList++cells.toList.drop (off+size)).toArray rest:=by
 have hs':v.cells.size=size:=by simpa using hs
 have hf:=Ky v.cells.toList cells off 0 (wb)
 simp only[hs]at hf
 conv=>lhs; unfold qH
 simp only[hp]
 rw[if_neg (wb)]
 congr 1
 apply Array.ext'
 rw[<- Array.foldl_toList,Array.toList_zipIdx]
 exact hf
theorem BU{e:Ty}{x:den e}{v:Value}(h:RD O (.qs e x) v):Rc O.w O.ok e x v.cells.toList:=by
 obtain⟨cs,h1,rfl⟩:=RD.cY h
 rw[Jk h1.len h1.one]; exact h1
theorem BO{e:Ty}{F:Operand->Option D}{G:Operand->Value}(hF:∀ x d,F x=some d->RD O d (G x)):∀ (L:List (Nat×Operand)) (k:Nat) (cells:Array Value) (l:List (den e)),
  BN e k (L.map λp=>(p.1,F p.2))=some l->(k+L.length)*e.size<=cells.size ->
  ∃ pV,qH (λi=>some (i*e.size,e.size)) cells (L.map λp=>(p.1,G p.2))=some pV/\pV.size=cells.size/\(∀ p,p<k*e.size->pV[p]? = cells[p]?)/\l.length=L.length /\
   ∃ f:Nat->List Value,∀ i (hi:i<l.length),Rc O.w O.ok e l[i] (f i)/\∀ j v,(f i)[j]? = some v->pV[(k+i)*e.size+j]? = some v
 | [],k,cells,l,h,_=>by
  simp only[List.map_nil,BN,Option.some.injEq]at h
  subst h
  exact⟨cells,rfl,rfl,λ_ _=>rfl,rfl,λ_=>[],λi hi=>absurd hi (zW i)⟩
 | (i,x)::L,k,cells,l,h,hle=>by
  simp only[List.map_cons]at h
  cases N:F x with
  | none=>rw[N]at h; simp[BN]at h
  | some d =>
   rw[N]at h
   simp only[BN]at h
   cases I:qL k i with
   | false=>grind
   | true =>
    have hik:k=i:=zF I
    subst hik
    rw[I,cond_true]at h
    split at h
    ·rename_i y l' hy Me
     cases h
     have hr:=BU (mG (hF x d N) hy)
     have hlen:=hr.len
     simp only[qV]at hle
     have hk1:(k+(L.length+1))*e.size=k*e.size+e.size+L.length*e.size:=by rw[qD,qD]; omega
     have eM:k*e.size+e.size<=cells.size:=Z
     let c1:=(cells.toList.take (k*e.size)++(G x).cells.toList++cells.toList.drop (k*e.size+e.size)).toArray
     have T9:c1.size=cells.size:=by simp only[c1,zY,zK,zU,qK,hlen,qG]; omega
     have hg:∀ p,c1[p]? = if p<k*e.size then cells[p]? else if p<k*e.size+e.size then(G x).cells.toList[p-k*e.size]? else cells[p]? := by
      grind
     obtain⟨pV,h1,X,h3,h4,f,h5⟩:=BO hF L (k+1) c1 l' Me (by rw[T9,show k+1+L.length=k+(L.length+1) by omega]; exact hle)
     refine⟨pV,?_,X.trans T9,?_,by simp[h4],λi=>match i with | 0=>(G x).cells.toList | i+1=>f i,?_⟩
     ·simp only[List.map_cons]
      rw[Fs rfl hlen eM]
      exact h1
     ·grind
     ·intro i hi
      cases i with
      | zero =>
       grind
      | succ i =>
       have:=h5 i (by simpa using hi)
       rw[show k+1+i=k+(i+1) by omega]at this
       exact this
    ·cases h
theorem sU{t n:Nat}(h:pT c t=some n):∃ i,c.P.info? t=some i/\i.bytes=n:=by
 unfold pT at h
 cases hi:c.P.info? t with
 | none=>grind
 | some i=>grind
theorem fQ{et:Nat}{e:Ty}{z:den e}(h:zeroOf c et e=some z):∃ i v,c.P.info? et=some i/\i.zero=some v/\Rc O.w O.ok e z v.cells.toList:=by
 unfold zeroOf at h
 split at h
 ·rename_i d J
  obtain⟨i,v,h1,X,h3⟩:=sP J
  exact⟨i,v,h1,X,BU (mG (h3.rd O) h)⟩
 ·cases h
theorem Y9{t n:Nat}{L:List (Nat×Operand)}{F:Operand->Option D}{G:Operand->Value}{d:Option D}{qt:St}(hI:Inv O)(hF:∀ x d,F x=some d->RD O d (G x))
  (h:(qx (bW c t n (L.map λp=>(p.1,F p.2))) O.st).leads (d,qt)) :
  wB c.P (do zJ (.value (<- zQ t n (L.map λp=>(p.1,G p.2)).toArray))) O d qt:=by
 unfold bW at h
 split at h
 ·exact absurd h zj
 ·rename_i et het
  have hu:=yP het
  split at h
  ·rename_i e NY
   cases I:ct c et e&&qL n (L.map λp=>(p.1,F p.2)).length&&Nat.ble n 1000&&Nat.ble e.size 100&&(zeroOf c et e).isSome with
   | false=>rw[I]at h; exact absurd h zj
   | true =>
    rw[I,cond_true]at h
    simp only[zI]at I
    obtain⟨⟨⟨⟨ja,hn⟩,h1⟩,X⟩,h3⟩:=I
    have hn':n=L.length:=by have:=zF hn; simpa using this
    have HO:=U h1
    have h2':=U X
    obtain⟨hs,_⟩:=kh ja
    obtain⟨z,hz⟩:=zZ.1 h3
    obtain⟨i,zv,Ds,Ul,hi3⟩:=fQ (O:=O) hz
    split at h
    ·rename_i l R
     cases Lb:qL n 0&&xE 0 e.size with
     | true =>
     rw[Lb,cond_true]at h
     simp only[zI]at Lb
     obtain⟨Lb,bR⟩:=Lb
     have Th:0<e.size:=U bR
     have hn0:=zF Lb
     have hL:L=[]:=zM (hn'.symm.trans hn0)
     subst hL
     subst hn0
     simp only[qx,T.leads,Prod.mk.injEq]at h
     obtain⟨rfl,rfl⟩:=h
     have g:=nd.alloc O.w (.cells #[] et)
     have hex:=ZI (n:=0) (x:=.arr 0 e ([]:List (den e))) hI g
     have jR:(zQ t 0 (([]:List (Nat×Operand)).map λp=>(p.1,G p.2)).toArray).run c.P O.w=.ok (.slice (some ⟨O.w.heap.size,0,none⟩) 0 0) (O.w.alloc (.cells #[] et)):=by
      simp[zQ,zH,run_underlying hu,Y,run_sizeOf hs,qH,newRow]
      grind
     refine⟨O.add _ 0 (.arr 0 e []),_,.slice (some ⟨O.w.heap.size,0,none⟩) 0 0,by simp only[zH,jR,Y]; rfl,.inl rfl,rfl,Ur hI g ?_,hex,?_⟩
     ·exact⟨Th,.inr ⟨O.w.heap.size,0,#[],et,tO hI,g.new,rfl,qp,Jf ja,λ_=>[],λi hi=>absurd hi (zW i)⟩⟩
     ·intro d' eE
      cases eE
      refine .ms _ 0 e 0 0 0 _ (.inr ⟨0,e,_,Xa,zE _⟩) (Z) nofun (λp hp=>by cases hp; rfl) λxs Yx => ?_
      rw[Xa]at Yx
      cases Yx
      exact⟨qp,.inr ⟨O.w.heap.size,0,0,0,tO hI,rfl,Z,qp,.inl rfl⟩⟩
     | false =>
     rw[Lb,cond_false,dF]at h
     obtain⟨rfl,rfl⟩:=h
     subst hn'
     have hle:L.length*e.size<=100000:=qN (Nat.mul_le_mul HO h2') (xo)
     have hzs:zv.cells.size=e.size:=by have:=hi3.len; simpa using this
     let cells:Array Value:=(xK (L.length*e.size)).map ((if L.length*e.size=0 then #[]else zv.cells)[· % (if L.length*e.size=0 then #[]else zv.cells).size]!)
     have X7:cells.size=L.length*e.size:=by simp[cells]
     obtain⟨pV,g1,g2,_,g4,f,g5⟩:=BO hF L 0 cells l R (by rw[X7]; simp)
     have g:=nd.alloc O.w (.cells pV et)
     have hex:=WB hI g
     refine⟨O.qs _,_,.slice (some ⟨O.w.heap.size,0,none⟩) L.length L.length,?_,.inl rfl,rfl,cY hI g,hex,?_⟩
     ·have FI:qH (λi=>some (i*e.size,e.size)) cells (L.map λp=>(p.1,G p.2))=some pV:=g1
      simp only[cells]at FI
      simp only[zQ,zH,run_underlying hu,Y,run_sizeOf hs,gt_iff_lt,if_neg (show ¬ 2 ^ 24<L.length*e.size by omega)]
      by_cases h0:L.length*e.size=0
      ·simp only[if_pos h0]at FI ⊢
       simp only[zH,qF,Y,FI]
       rfl
      ·simp only[if_neg h0]at FI ⊢
       simp only[zH,qF,Y,zeroValue,typeInfo,run_program,Ds,Ul,FI]
       rfl
     ·intro d' eE
      cases eE
      have eM:∀ i,i<l.length->∀ j v,(f i)[j]? = some v->(O.qs (O.w.alloc (.cells pV et))).w.cell? ⟨O.w.heap.size,0+i*e.size+j,none⟩=some v:=by
       intro i hi j v hj
       have:=(g5 i hi).2 j v hj
       simp only[qE]at this ⊢
       rw[WH (O:=O.qs (O.w.alloc (.cells pV et))) g.new]
       exact this
      rw[<- g4]
      refine .tight e l _ O.w.heap.size 0 f ?_ (.inr rfl) (λi hi=>(g5 i hi).1.mono hex.same) eM
      intro ki Gj
      subst Gj
      simp at g4
      simp[<- g4]at ki
    ·exact absurd h zj
  ·exact absurd h zj
end
end Go.AM
namespace Go.AM
set_option linter.unusedSectionVars false
variable [gp]
section
variable {c:Ctx} {O:KS}
theorem TL{t:Nat}{x y:Option D}{v u:Value}{d:Option D}{qt:St}(hI:Inv O)(N:∀ z,x=some z->RD O z v)(hy:∀ z,y=some z->RD O z u)
  (h:(qx (Mq c t x y) O.st).leads (d,qt)):wB c.P (do zJ (.value (<- qY t v u))) O d qt:=by
 unfold Mq at h
 split at h
 ·rename_i et k n k' m het hn hm
  have hu:=yP het
  have:=kC hn N
  subst this
  have:=kC hm hy
  subst this
  split at h
  ·rename_i e bytes NY Dp
   split at h
   ·rename_i z hz
    cases I:ct c et e&&xE 0 e.size with
    | false=>rw[I]at h; exact absurd h zj
    | true =>
     rw[I,cond_true]at h
     simp only[zI]at I
     obtain⟨ja,bR⟩:=I
     have Th:0<e.size:=U bR
     obtain⟨hs,_⟩:=kh ja
     simp only[qx,T.leads,Prod.mk.injEq]at h
     obtain⟨⟨h0,h1,X,h3⟩,rfl,rfl⟩:=h
     obtain⟨i,zv,Ds,Ul,hi3⟩:=fQ (O:=O) hz
     obtain⟨ib,zhX,zpg⟩:=sU Dp
     obtain⟨i',zhV,zum⟩:=mA hs
     rw[Ds]at zhX zhV
     cases zhX
     cases zhV
     have hzs:zv.cells.size=e.size:=by have:=hi3.len; simpa using this
     let hx:=m.toNat*e.size
     let cells:Array Value:=(xK hx).map (zv.cells[· % zv.cells.size]!)
     have X7:cells.size=hx:=by simp[cells]
     have jR:(qY t (.int k n) (.int k' m)).run c.P O.w=.ok (.slice (some ⟨O.w.heap.size,0,none⟩) n.toNat m.toNat) (O.w.alloc (.cells cells et)):=by
      have w1:IntKind.i64.wrap n=n:=IntWalk.i64_in _ (Z)
      have w2:IntKind.i64.wrap m=m:=IntWalk.i64_in _ (Z)
      have hmb:¬ ((2:Int) ^ 48<bytes*m):=by
       grind
      have ai:∀ k n w,(Go.asInt (.int k n)).run c.P w=.ok n w:=λk n w=>by simp[Go.asInt,asIntOf]
      have hm0:¬ (m<0):=Z
      have hn0:¬ (n<0):=Z
      have hnm:¬ (m<n):=Z
      simp only[qY,zH,run_underlying hu,Y,ai,typeInfo,run_program,Ds,zpg,w1,w2,qF,gt_iff_lt,hm0,hn0,hnm,hmb,decide_false,Bool.or_self,Bool.false_eq_true,if_false,run_askRoom,run_sizeOf hs]
      by_cases Lb:m.toNat*e.size=0
      ·have hce:cells = #[]:=Array.eq_empty_of_size_eq_zero (by rw[X7]; exact Lb)
       have e2:∀ g:Nat->Value,(xK (m.toNat*e.size)).map g = #[]:=λg=>by rw[Lb]; simp
       simp only[if_pos Lb,zH,qF,Y,newRow,run_newObj,e2]
       rw[hce]
       rfl
      ·simp only[if_neg Lb,zH,qF,Y,newRow,run_newObj,zeroValue,typeInfo,run_program,Ds,Ul]
       rfl
     have g:=nd.alloc O.w (.cells cells et)
     have hex:=ZI (n:=hx) (x:=.arr n.toNat e (List.replicate n.toNat z)) hI g
     refine⟨O.add _ hx (.arr n.toNat e (List.replicate n.toNat z)),_,.slice (some ⟨O.w.heap.size,0,none⟩) n.toNat m.toNat,by simp only[zH,jR,Y]; rfl,.inl rfl,rfl,Ur hI g ?_,hex,?_⟩
     ·refine⟨Th,.inr ⟨O.w.heap.size,hx,cells,et,tO hI,g.new,X7,?_,Jf ja,λ_=>zv.cells.toList,λi hi => ?_⟩⟩
      ·rw[xB]; exact M _ (Z)
      ·rw[xB]at hi
       refine⟨by rw[List.getElem_replicate]; exact hi3.mono hex.same,λj w hj => ?_⟩
       have hjl:j<e.size:=by rw[<- hi3.len]; exact(zA.1 hj).1
       have wO:i*e.size+j<hx:=by
        have:i*e.size+e.size<=hx:=by rw[<- qB]; exact M _ (Z)
        omega
       have zdx:(i*e.size+j) % e.size=j:=by rw[Nat.mul_comm,Nat.mul_add_mod,Nat.mod_eq_of_lt hjl]
       grind
     ·intro d' eE
      cases eE
      refine .ms _ n.toNat e 0 n.toNat m.toNat _ (.inr ⟨n.toNat,e,_,Xa,zE _⟩) (Z) nofun (λp hp=>by cases hp; rfl) λxs Yx => ?_
      rw[Xa]at Yx
      cases Yx
      refine⟨qp,.inr ⟨O.w.heap.size,hx,0,m.toNat,tO hI,rfl,Z,by simp[hx],.inr (qp)⟩⟩
   ·exact absurd h zj
  ·exact absurd h zj
 ·exact absurd h zj
end
end Go.AM
namespace Go.AM
set_option linter.unusedSectionVars false
variable [gp]
section
variable {c:Ctx} {O:KS}
def ep(f:Nat->List Value):Nat->List Value
 | 0=>[]
 | n+1=>ep f n++f n
theorem gG{f:Nat->List Value}{s:Nat}:∀ {n:Nat},(∀ i,i<n->(f i).length=s)->(ep f n).length=n*s
 | 0,_=>by simp[ep]
 | n+1,h=>by rw[ep,zK,gG (λi hi=>h i (Z)),h n (Z),qD]; omega
theorem Zi{f:Nat->List Value}{s:Nat}:∀ {n:Nat},(∀ i,i<n->(f i).length=s)->∀ i j,i<n->j<s->(ep f n)[i*s+j]? = (f i)[j]?
 | 0,_,i,_,hi,_=>absurd hi (zW i)
 | n+1,h,i,j,hi,hj=>by
  have R:=gG (f:=f) (n:=n) (λi hi=>h i (Z))
  rw[ep]
  by_cases K4:i<n
  ·have:i*s+s<=n*s:=by rw[<- qB]; exact M _ K4
   rw[zG (Z)]
   exact Zi (λi hi=>h i (Z)) i j K4 hj
  ·grind
theorem BP{f:Nat->List Value}:∀ {n:Nat},(∀ i,i<n->∀ v∈f i,v.oneCell'=true)->∀ v∈ep f n,v.oneCell'=true
 | 0,_,v,hv=>by simp[ep]at hv
 | n+1,h,v,hv=>by
  rw[ep,qZ]at hv
  rcases hv with hv | hv
  ·exact BP (λi hi=>h i (Z)) v hv
  ·grind
theorem Ft{f:Nat->List Value}{s:Nat}{n p:Nat}{v:Value}(hs:0<s)(h:∀ i,i<n->(f i).length=s)(hp:(ep f n)[p]? = some v):∃ i j,i<n/\j<s/\p=i*s+j/\(f i)[j]? = some v:=by
 have wO:=(zA.1 hp).1
 rw[gG h]at wO
 have hi:p / s<n:=(Nat.div_lt_iff_lt_mul hs).2 wO
 have hj:=Nat.mod_lt p hs
 have he:p / s*s+p % s=p:=Nat.div_add_mod' p s
 refine⟨p / s,p % s,hi,hj,he.symm,?_⟩
 rw[<- Zi h _ _ hi hj,he]; exact hp
def okS(O:KS):Nat->Prop:=λk=>O.ok k\/∃ b n:Nat,O.ph[b]? = some (some (k,n))
structure Src(O:KS)(e:Ty)(ys:List (den e))(v:Value):Prop where
 ex:∃ (a:Option Addr) (cap:Nat) (f:Nat->List Value),v=.slice a ys.length cap/\ys.length<=cap/\(a=none->ys=[]/\cap=0)/\(∀ i (hi:i<ys.length),Rc O.w O.ok e ys[i] (f i)) /\
  ∀ p,a=some p->(ys=[]/\cap=0)\/(p.spot=none/\okS O p.block/\∀ i,i<ys.length->∀ j u,(f i)[j]? = some u->O.w.cell? ⟨p.block,p.off+i*e.size+j,none⟩=some u)
theorem Eb{e:Ty}{ys:List (den e)}{v:Value}(h:RD O (.qs (.sl e) ys) v):Src O e ys v:=by
 rcases(h.jN rfl).tZ with⟨rfl,a0,he⟩ | ⟨blk,off,cap,f,he,ja,js,h1,X⟩
 ·cases he; exact⟨⟨a0,0,λ_=>[],rfl,zE _,λ_=>⟨rfl,rfl⟩,λi hi=>absurd hi (zW i),λ_ _=>.inl ⟨rfl,rfl⟩⟩⟩
 ·cases he; exact⟨⟨some ⟨blk,off,none⟩,cap,f,rfl,js,nofun,h1,λp hp=>by cases hp; exact .inr ⟨rfl,.inl ja,X⟩⟩⟩
theorem WZ{e:Ty}{ys:List (den e)}{ne:Bool}{v:Value}(h:RD O (.tight e ys ne) v):Src O e ys v:=by
 cases h with
 | vF _ a0=>exact⟨⟨a0,0,λ_=>[],rfl,zE _,λ_=>⟨rfl,rfl⟩,λi hi=>absurd hi (zW i),λ_ _=>.inl ⟨rfl,rfl⟩⟩⟩
 | tight _ _ _ blk off f ki ja h1 X=>exact⟨⟨some ⟨blk,off,none⟩,_,f,rfl,zE _,nofun,h1,λp hp=>by cases hp; exact .inr ⟨rfl,.inl ja,X⟩⟩⟩
theorem YH{e:Ty}{v:Value}(h:RD O .wJ v):Src O e [] v:=by
 cases h; exact⟨⟨none,0,λ_=>[],rfl,zE _,λ_=>⟨rfl,rfl⟩,λi hi=>absurd hi (zW i),nofun⟩⟩
theorem MY{b vp off len:Nat}{e:Ty}{xs:List (den e)}{v:Value}(hI:Inv O)(h:RD O (.ms b vp e off len) v)(I:O.st[b]? = some (.arr vp e xs)):Src O e ((xs.take (off+len)).drop off) v/\off+len<=xs.length:=by
 cases h with
 | ms _ _ _ _ _ cap a hold js ha Va hm =>
  obtain⟨hle,hm⟩:=hm xs I
  have R:((xs.take (off+len)).drop off).length=len:=by simp; omega
  have hg:∀ i (hi:i<((xs.take (off+len)).drop off).length),∃ h:off+i<xs.length,((xs.take (off+len)).drop off)[i]=xs[off+i]:=λi hi=>⟨Z,by simp[List.getElem_drop,List.getElem_take]⟩
  refine⟨?_,hle⟩
  rcases hm with⟨rfl,rfl,hv,hp⟩ | ⟨blk,n,o,Uv,h3,h4,h5,h6,h7⟩
  ·cases hv
   have:(xs.take (0+0)).drop 0=[]:=qp
   rw[this]
   exact⟨⟨none,0,λ_=>[],rfl,zE _,λ_=>⟨rfl,rfl⟩,λi hi=>absurd hi (zW i),nofun⟩⟩
  ·cases h4
   obtain⟨bR,⟨Gj,_⟩ | ⟨pS,n',cs,T,g1,g2,g3,g4,gr,f,g5⟩⟩:=hI.blk b _ I
   ·grind
   ·rw[h3]at g1
    cases g1
    refine⟨⟨some ⟨blk,o,none⟩,cap,λi=>f (off+i),by rw[R],by rw[R]; exact js,nofun,λi hi => ?_,λp hp => ?_⟩⟩
    ·grind
    ·cases hp
     refine .inr ⟨rfl,.inr ⟨b,n,h3⟩,λi hi j u hj => ?_⟩
     obtain⟨k1,_⟩:=hg i hi
     have:=(g5 _ k1).2 j u hj
     rw[WH g2]
     rcases h7 with h7 | h7
     ·omega
     ·rw[h7,<- qD]; exact this
theorem WY{e:Ty}{ys:List (den e)}{v:Value}(h:Src O e ys v)(bR:0<e.size):∃ (news:List Value) (f:Nat->List Value),news=ep f ys.length/\(∀ i (hi:i<ys.length),Rc O.w O.ok e ys[i] (f i)) /\
  (∀ P,(qS v).run P O.w=.ok ys.length O.w)/\(∀ P,(zO e.size ys.length v).run P O.w=.ok news.toArray O.w)/\(∀ P,(zO e.size ys.length v).run P O.w.drew=.ok news.toArray O.w.drew):=by
 obtain⟨a,cap,f,rfl,_,hn,h1,X⟩:=h.ex
 have hf:∀ i,i<ys.length->(f i).length=e.size:=λi hi=>(h1 i hi).len
 refine⟨ep f ys.length,f,rfl,h1,λP=>rfl,λP => ?_,λP => ?_⟩
 all_goals
  cases a with
  | none=>have:=(hn rfl).1; subst this; simp[zO,ep]
  | some p =>
   rcases X p rfl with⟨rfl,_⟩ | ⟨hp,_,hc⟩
   ·simp[zO,ep,loadCells,loadCellsFrom]
   obtain⟨blk,o,sp⟩:=p
   subst hp
   refine run_firstCells_some (P:=P) _ e.size ys.length ⟨blk,o,none⟩ ys.length cap (ep f ys.length) (gG hf) λj u hj => ?_
   obtain⟨i,k,hi,hk,rfl,hu⟩:=Ft bR hf hj
   rw[addr_add]
   try rw[World.cell?_drew]
   grind
structure Cel(O:KS)(e:Ty)(ys:List (den e))(v:Value):Prop where
 ex:∃ (news:List Value) (f:Nat->List Value),news=ep f ys.length/\(∀ i (hi:i<ys.length),Rc O.w O.ok e ys[i] (f i)) /\
  (∀ P,(qS v).run P O.w=.ok ys.length O.w)/\(∀ P,(zO e.size ys.length v).run P O.w=.ok news.toArray O.w)/\(∀ P,(zO e.size ys.length v).run P O.w.drew=.ok news.toArray O.w.drew)
theorem zaC{e:Ty}{ys:List (den e)}{v:Value}(h:Src O e ys v)(bR:0<e.size):Cel O e ys v:=⟨WY h bR⟩
def Sz(c:Ctx)(t2:TypeId):Prop:=(∃ e,c.P.underlying t2=some (.slice e))\/c.P.underlying t2=some .string
section run
variable {t t2 e:TypeId} {i:TypeInfo} {z:Value} {sLen sCap n:Nat} {base:Option Addr} {x:Value} {news olds:List Value} {ty:TypeId}
theorem run_append_fits(ht:c.P.underlying t=some (.slice e))(Ti:Sz c t2)(hi:c.P.info? e=some i)(hlen:∀ P,(qS x).run P O.w=.ok n O.w)(hf:∀ P,(zO i.size n x).run P O.w=.ok news.toArray O.w)
  (QV:sLen+n<=sCap) {w':World} (ud:(match base with | some a=>storeCells (a.add (sLen*i.size)) news | none=>pure ()).run c.P O.w=.ok () w') :
  (zL #[t,t2] ty #[.slice base sLen sCap,x]).run c.P O.w=.ok (.slice base (sLen+n) sCap) w':=by
 rcases Ti with⟨e2,Ti⟩ | Ti
 all_goals cases base with
 | none=>simp at ud; subst ud; simp[zL,run_underlying ht,run_underlying Ti,sizeOf,typeInfo,hi,hlen,QV,hf]
 | some a=>simp only at ud; simp[zL,run_underlying ht,run_underlying Ti,sizeOf,typeInfo,hi,hlen,QV,hf,ud]
theorem sn(ht:c.P.underlying t=some (.slice e))(Ti:Sz c t2)(hi:c.P.info? e=some i)(hz:i.zero=some z)(hlen:∀ P,(qS x).run P O.w=.ok n O.w)(hf:∀ P,(zO i.size n x).run P O.w.drew=.ok news.toArray O.w.drew)
  (ho:∀ P,(zO i.size sLen (.slice base sLen sCap)).run P O.w.drew=.ok olds.toArray O.w.drew)
  (hg:sCap<sLen+n) (h63:((sLen+n:Nat):Int)<=9223372036854775807) (I:(sLen+n)*i.bytes<=140737488355328) :
  (zL #[t,t2] ty #[.slice base sLen sCap,x]).run c.P O.w=.ok (.slice (some ⟨O.w.heap.size,0,none⟩) (sLen+n) (grownCap O.w (sLen+n) sCap e))
   (O.w.drew.alloc (.cells (olds.toArray++news.toArray++zX z.cells (grownCap O.w (sLen+n) sCap e-(sLen+n))) e)):=by
 have h1:¬ (sLen+n<=sCap):=Z
 have X:¬ (9223372036854775807<((sLen+n:Nat):Int)):=Z
 have h3:=growslice_fits (bytes:=i.bytes) hg I
 have h4:¬ (281474976710656<Builtin.nextslicecap (sLen+n) sCap*i.bytes):=Z
 have h5:IntKind.i64.max=9223372036854775807:=xo
 rcases Ti with⟨e2,Ti⟩ | Ti
 all_goals
  simp[zL,run_underlying ht,run_underlying Ti,sizeOf,typeInfo,zeroValue,hi,hz,hlen,hf,ho,Question.forced,newRow,grownCap]
  grind
end run
theorem Wn(z:Array Value)(n:Nat):(zX z n).size=n*z.size:=by simp[zX]
theorem Gu{e:Ty}{l ys:List (den e)}{f g:Nat->List Value}(R:∀ i (hi:i<l.length),Rc O.w O.ok e l[i] (f i))(hy:∀ i (hi:i<ys.length),Rc O.w O.ok e ys[i] (g i))(zs:List Value) :
  ∀ i (hi:i<(l++ys).length),Rc O.w O.ok e (l++ys)[i] (if i<l.length then f i else g (i-l.length)) /\
   ∀ j v,(if i<l.length then f i else g (i-l.length))[j]? = some v->(ep f l.length++ep g ys.length++zs)[i*e.size+j]? = some v:=by
 have KD:∀ i,i<l.length->(f i).length=e.size:=λi hi=>(R i hi).len
 have hgl:∀ i,i<ys.length->(g i).length=e.size:=λi hi=>(hy i hi).len
 have h1:=gG KD
 have X:=gG hgl
 intro i hi
 by_cases Td:i<l.length
 ·simp only[if_pos Td]
  refine⟨wb,λj v hj => ?_⟩
  have hjl:j<e.size:=by rw[<- KD i Td]; exact(zA.1 hj).1
  have:i*e.size+e.size<=l.length*e.size:=by rw[<- qB]; exact M _ Td
  rw[qI,zG (Z),Zi KD i j Td hjl]
  exact hj
 ·simp only[if_neg Td]
  simp only[zK]at hi
  have zdq:i-l.length<ys.length:=Z
  refine⟨wb,λj v hj => ?_⟩
  have hjl:j<e.size:=by rw[<- hgl _ zdq]; exact(zA.1 hj).1
  have e1:i*e.size=l.length*e.size+(i-l.length)*e.size:=by rw[<- qD]; congr 1; omega
  have:(i-l.length)*e.size+e.size<=ys.length*e.size:=by rw[<- qB]; exact M _ zdq
  rw[qI,qC (Z),h1,zG (Z)]
  rw[show i*e.size+j-l.length*e.size=(i-l.length)*e.size+j by omega,Zi hgl _ j zdq hjl]
  exact hj
theorem Ln{t t2 et:Nat}{e:Ty}{l ys:List (den e)}{sv v:Value}{bytes:Nat}{ty:Nat}(hI:Inv O)(hu:c.P.underlying t=some (.slice et))(NZ:Sz c t2)(ja:ct c et e=true)(bR:0<e.size)(Dp:pT c et=some bytes)(hz:∃ y,zeroOf c et e=some y)
  (hs:Src O e l sv) (js:∃ a,sv=.slice a l.length l.length) (hv:Cel O e ys v) (ki:ys≠[]) (I:(l.length+ys.length)*bytes<=140737488355328) (hn:l.length+ys.length<=9223372036854775807) :
  ∃ (E:KS) (r:Value),(zL #[t,t2] ty #[sv,v]).run c.P O.w=.ok r E.w/\E.st=O.st++[.arr (l.length+ys.length) e (l++ys)]/\Inv E/\Ext O E/\RD E (.ms O.st.length (l.length+ys.length) e 0 (l.length+ys.length)) r:=by
 obtain⟨hs1,_⟩:=kh ja
 obtain⟨i,Ds,Ul⟩:=mA hs1
 obtain⟨y,hy⟩:=hz
 obtain⟨i',zv,g1,g2,g3⟩:=fQ (O:=O) hy
 obtain⟨i'',k1,k2⟩:=sU Dp
 rw[Ds]at g1 k1
 cases g1
 cases k1
 obtain⟨olds,f,ho1,ho2,ho3,ho4,ho5⟩:=WY hs bR
 obtain⟨news,g,Gi,Dt,hn3,hn4,hn5⟩:=hv.ex
 obtain⟨a,hsv⟩:=js
 subst hsv
 have V9:0<ys.length:=List.length_pos_iff.2 ki
 have jR:=sn (c:=c) (O:=O) (t:=t) (t2:=t2) (e:=et) (ty:=ty) (base:=a) (sLen:=l.length) (sCap:=l.length) (n:=ys.length) (x:=v) (news:=news) (olds:=olds) hu NZ Ds g2 hn3
  (by intro P; rw[Ul]; exact hn5 P) (by intro P; rw[Ul]; exact ho5 P) (Z) (Z) (by rw[k2]; exact I)
 let C:=grownCap O.w (l.length+ys.length) l.length et
 have hC:l.length+ys.length<=C:=grownCap_ge _ _ _ _
 let zs:=zX zv.cells (C-(l.length+ys.length))
 let cells:=olds.toArray++news.toArray++zs
 have hzs:zs.size=(C-(l.length+ys.length))*e.size:=by have:=g3.len; simp only[qG]at this; simp[zs,Wn,this]
 have hol:olds.length=l.length*e.size:=by rw[ho1]; exact gG λi hi=>(ho2 i hi).len
 have hnl:news.length=ys.length*e.size:=by rw[Gi]; exact gG λi hi=>(Dt i hi).len
 have X7:cells.size=C*e.size:=by
  simp only[cells,Array.size_append,zY,hol,hnl,hzs,<- qD]
  grind
 have gr:=nd.drew O.w (.cells cells et)
 have hex:=ZI (n:=cells.size) (x:=.arr (l.length+ys.length) e (l++ys)) hI gr
 refine⟨O.add _ cells.size (.arr (l.length+ys.length) e (l++ys)),_,jR,rfl,Ur hI gr ?_,hex,?_⟩
 ·refine⟨bR,.inr ⟨O.w.heap.size,cells.size,cells,et,tO hI,gr.new,rfl,?_,Jf ja,λi=>if i<l.length then f i else g (i-l.length),λi hi => ?_⟩⟩
  ·rw[X7,zK]; exact M _ hC
  ·obtain⟨q1,q2⟩:=Gu ho2 Dt zs.toList i hi
   refine⟨q1.mono hex.same,λj v hj => ?_⟩
   grind
 ·refine .ms _ (l.length+ys.length) e 0 _ C _ (.inr ⟨l.length+ys.length,e,_,Xa,zE _⟩) hC nofun (λp hp=>by cases hp; rfl) λxs Yx => ?_
  rw[Xa]at Yx
  cases Yx
  exact⟨qp,.inr ⟨O.w.heap.size,cells.size,0,C,tO hI,rfl,hC,by rw[X7]; simp,.inr (qp)⟩⟩
theorem Lo{t t2 et:Nat}{e:Ty}{ys:List (den e)}{p:Addr}{v:Value}{bytes:Nat}{ty:Nat}(hI:Inv O)(hu:c.P.underlying t=some (.slice et))(NZ:Sz c t2)(ja:ct c et e=true)(bR:0<e.size)(Dp:pT c et=some bytes)(hz:∃ y,zeroOf c et e=some y)
  (hv:Cel O e ys v) (ki:ys≠[]) (I:ys.length*bytes<=140737488355328) (hn:ys.length<=9223372036854775807) :
  ∃ (E:KS) (r:Value),(zL #[t,t2] ty #[.slice (some p) 0 0,v]).run c.P O.w=.ok r E.w/\E.st=O.st/\Inv E/\Ext O E/\RD E (.sQ e ys true) r:=by
 obtain⟨hs1,_⟩:=kh ja
 obtain⟨i,Ds,Ul⟩:=mA hs1
 obtain⟨y,hy⟩:=hz
 obtain⟨i',zv,g1,g2,g3⟩:=fQ (O:=O) hy
 obtain⟨i'',k1,k2⟩:=sU Dp
 rw[Ds]at g1 k1
 cases g1
 cases k1
 obtain⟨news,g,Gi,Dt,hn3,hn4,hn5⟩:=hv.ex
 have V9:0<ys.length:=List.length_pos_iff.2 ki
 have jR:=sn (c:=c) (O:=O) (t:=t) (t2:=t2) (e:=et) (ty:=ty) (base:=some p) (sLen:=0) (sCap:=0) (n:=ys.length) (x:=v) (news:=news) (olds:=[]) hu NZ Ds g2 hn3
  (by intro P; rw[Ul]; exact hn5 P) (by intro P; obtain⟨_,_,e1,_,_,_,e5⟩:=WY (O:=O) (e:=e) (ys:=[]) (v:=.slice (some p) 0 0) (Eb (.qs (.sl e) [] _ (.lK e (some p)))) bR; rw[Ul]; have:=e5 P; rw[e1]at this; exact this) (Z) (Z) (by rw[k2,qE]; exact I)
 rw[qE]at jR
 let C:=grownCap O.w ys.length 0 et
 have hC:ys.length<=C:=grownCap_ge _ _ _ _
 let zs:=zX zv.cells (C-ys.length)
 let cells:=([]:List Value).toArray++news.toArray++zs
 have gr:=nd.drew O.w (.cells cells et)
 have hex:=WB hI gr
 have EA:Rc (O.qs (O.w.drew.alloc (.cells cells et))).w (O.qs (O.w.drew.alloc (.cells cells et))).ok (.sl e) ys [.slice (some ⟨O.w.heap.size,0,none⟩) ys.length C]:=by
  refine .sl e ys O.w.heap.size 0 C g (.inr rfl) hC (λi hi=>(Dt i hi).mono hex.same) λi hi j u hu => ?_
  have hgl:∀ i,i<ys.length->(g i).length=e.size:=λi hi=>(Dt i hi).len
  have hj:j<e.size:=by rw[<- hgl i hi]; exact(zA.1 hu).1
  have hnl:news.length=ys.length*e.size:=by rw[Gi]; exact gG hgl
  have hle:i*e.size+e.size<=ys.length*e.size:=by rw[<- qB]; exact M _ hi
  have M1:news[i*e.size+j]? = some u:=by rw[Gi,Zi hgl i j hi hj]; exact hu
  have eM:cells[i*e.size+j]? = some u:=by
   show(([]:List Value).toArray++news.toArray++zs)[i*e.size+j]? = some u
   rw[Array.getElem?_append_left (by simp; omega)]
   simpa using M1
  have B9:(O.qs (O.w.drew.alloc (.cells cells et))).w.heap[O.w.heap.size]? = some (.cells cells et (0,0)):=gr.new
  simp only[World.cell?,qE,B9]
  simpa using eM
 refine⟨O.qs _,_,jR,rfl,cY hI gr,hex,.sQ e ys true _ EA (λ_=>⟨_,_,_,rfl,λe=>absurd e ki⟩) nofun⟩
def KS.re(O:KS)(w':World)(b n:Nat)(x:cU):KS:={ O with w:=w',ph:=O.ph.set b (some (O.w.heap.size,n)),st:=O.st.set b x }
theorem MQ{w':World}{o:Obj}{b n v0 v1:Nat}{e:Ty}{xs ys:List (den e)}(hI:Inv O)(g:nd O.w w' o)(I:O.st[b]? = some (.arr v0 e xs))(hv:v0<v1):Ext O (O.re w' b n (.arr v1 e ys)):=by
 refine⟨g.os,g.tape,g.output,by show O.w.heap.size<=w'.heap.size; rw[g.size]; omega,λk hk=>⟨hk,g.old (hI.bT k hk)⟩,λk hk=>.inl hk,?_,?_,?_,?_,by simp[KS.re],λk hk _=>g.old hk⟩
 ·intro b' blk m h
  simp only[KS.re]at h
  grind
 ·intro b' d J
  have ki:b≠b':=λe=>by subst e; rw[I]at J; cases J
  simp only[KS.re]
  grind
 ·intro b' u0 e' zs J
  simp only[KS.re]
  grind
 ·intro b' J
  have ki:b≠b':=λe=>by subst e; rw[I]at J; cases J
  simp only[KS.re,zT,if_neg ki]
  exact J
theorem zeP{w':World}{o:Obj}{b n v0 v1:Nat}{e:Ty}{xs ys:List (den e)}(hI:Inv O)(g:nd O.w w' o)(I:O.st[b]? = some (.arr v0 e xs))(hv:v0<v1)
  (N:pP (O.re w' b n (.arr v1 e ys)) b (.arr v1 e ys)):Inv (O.re w' b n (.arr v1 e ys)):=by
 have hold:∀ (b' blk m:Nat),(O.ph.set b (some (O.w.heap.size,n)))[b']? = some (some (blk,m))->(b≠b'/\O.ph[b']? = some (some (blk,m)))\/(b=b'/\blk=O.w.heap.size):=by
  grind
 refine⟨by simp[KS.re,hI.len],?_,?_,?_,?_,hI.gl.mono (MQ (n:=n) (ys:=ys) hI g I hv).same⟩
 ·intro k hk; have:=hI.bT k hk; show k<w'.heap.size; rw[g.size]; omega
 ·intro b' blk m h
  rcases hold b' blk m h with⟨_,h⟩ | ⟨rfl,rfl⟩
  ·obtain⟨h1,X⟩:=hI.apart b' blk m h
   exact⟨by show blk<w'.heap.size; rw[g.size]; omega,X⟩
  ·exact⟨by show O.w.heap.size<w'.heap.size; rw[g.size]; omega,λhk=>absurd (hI.bT _ hk) (Nat.lt_irrefl _)⟩
 ·intro b1 b2 blk m m' h h'
  rcases hold b1 blk m h with⟨_,h⟩ | ⟨rfl,rfl⟩<;>rcases hold b2 _ m' h' with⟨_,h'⟩ | ⟨rfl,h''⟩
  ·exact hI.inj b1 b2 blk m m' h h'
  ·have:=(hI.apart b1 blk m h).1; omega
  ·have:=(hI.apart b2 _ m' h').1; omega
  ·rfl
 ·intro b' y hy
  simp only[KS.re,zT]at hy
  split at hy
  ·grind
  ·rename_i e1
   refine(hI.blk b' y hy).mono (MQ hI g I hv) ?_ λblk m h=>g.old (hI.apart b' blk m h).1
   simp only[KS.re,zT,if_neg e1]
theorem Hp{α:Type}{l:List α}{i:Nat}{a:α}(h:l[i]? = some a):l.set i a=l:=by
 apply List.ext_getElem?
 grind
theorem SF{t t2 et b vp len:Nat}{e:Ty}{xs ys:List (den e)}{sv v:Value}{bytes:Nat}{ty:Nat}(hI:Inv O)(hu:c.P.underlying t=some (.slice et))(NZ:Sz c t2)(ja:ct c et e=true)(bR:0<e.size)(Dp:pT c et=some bytes)
  (hz:∃ y,zeroOf c et e=some y) (hs:RD O (.ms b vp e 0 len) sv) (I:O.st[b]? = some (.arr vp e xs)) (hlen:len=xs.length) (hv:Cel O e ys v) (M4:(xs.length+ys.length)*bytes<=140737488355328)
  (hn:xs.length+ys.length<=9223372036854775807) :
  ∃ (E:KS) (r:Value),(zL #[t,t2] ty #[sv,v]).run c.P O.w=.ok r E.w/\E.st=O.st.set b (.arr (vp+ys.length) e (xs++ys))/\Inv E/\Ext O E/\RD E (.ms b (vp+ys.length) e 0 (len+ys.length)) r:=by
 subst hlen
 have wO:b<O.st.length:=(zA.1 I).1
 have B7:b<O.ph.length:=by rw[hI.len]; exact wO
 obtain⟨hs1,_⟩:=kh ja
 obtain⟨i,Ds,Ul⟩:=mA hs1
 obtain⟨y,hy⟩:=hz
 obtain⟨i',zv,g1,g2,g3⟩:=fQ (O:=O) hy
 obtain⟨i'',k1,k2⟩:=sU Dp
 rw[Ds]at g1 k1
 cases g1
 cases k1
 have Dv:=(MY hI hs I).1
 simp only[qE,List.take_length,List.drop_zero]at Dv
 obtain⟨olds,f,ho1,ho2,ho3,ho4,ho5⟩:=WY Dv bR
 obtain⟨news,g,Gi,Dt,hn3,hn4,hn5⟩:=hv.ex
 have hol:olds.length=xs.length*e.size:=by rw[ho1]; exact gG λi hi=>(ho2 i hi).len
 have hnl:news.length=ys.length*e.size:=by rw[Gi]; exact gG λi hi=>(Dt i hi).len
 have BR:∀ u∈news,u.oneCell'=true:=by rw[Gi]; exact BP λi hi=>(Dt i hi).one
 cases hs with
 | ms _ _ _ _ _ cap a hold js ha Va hm =>
  obtain⟨hle,hm⟩:=hm xs I
  by_cases QV:xs.length+ys.length<=cap
  ·-- there is room
   rcases hm with⟨h1,_,hv',hp⟩ | ⟨blk,n,o,Uv,h3,h4,h5,h6,h7⟩
   ·simp only[Value.slice.injEq]at hv'
    obtain⟨rfl,Dz,rfl⟩:=hv'
    have Yw:xs=[]:=zM h1
    have hy0:ys=[]:=zM (Z)
    subst Yw hy0
    refine⟨O,.slice none 0 0,?_,?_,hI,Ext.refl O,.ms b vp e 0 0 0 none hold (zE _) (λ_=>rfl) nofun λzs hzs => ?_⟩
    ·have hn0:news=[]:=zM (by simpa using hnl)
     subst hn0
     exact run_append_fits (c:=c) (O:=O) (t:=t) (t2:=t2) (e:=et) (ty:=ty) (base:=none) (sLen:=0) (sCap:=0) (n:=0) (x:=v) (news:=[]) hu NZ Ds hn3 (by intro P; rw[Ul]; exact hn4 P) (Z) rfl
    ·simp only[List.length_nil,xH,List.append_nil]
     rw[Hp I]
    ·grind
   ·cases h4
    obtain⟨_,⟨Gj,hpn⟩ | ⟨pS,n',cs,T,p1,p2,p3,p4,pr,F,p5⟩⟩:=hI.blk b _ I
    ·grind
    ·rw[h3]at p1
     cases p1
     have ho:xs.length+ys.length=0\/o=0:=by
      grind
     have zhJ:cap*e.size<=cs.size:=by rw[p3]; simpa using h6
     have B3:xs.length*e.size+ys.length*e.size<=cs.size:=by
      rw[<- qD]; exact qN (M _ QV) zhJ
     let mI:=(cs.toList.take (xs.length*e.size)++news++cs.toList.drop (xs.length*e.size+news.length)).toArray
     have KC:cs.toList.length=cs.size:=qp
     have B1:mI.size=cs.size:=by simp only[mI,zY,zK,zU,qK,hnl,KC]; omega
     have hoa:∀ m,(⟨blk,o,none⟩:Addr).add (xs.length*e.size)=⟨blk,xs.length*e.size,none⟩\/m=0\/xs.length+ys.length=0:=by
      intro m
      rcases ho with h | h
      ·grind
      ·subst h; rw[addr_add,qE]; exact .inl rfl
     have ud:(storeCells ((⟨blk,o,none⟩:Addr).add (xs.length*i.size)) news).run c.P O.w=.ok () (O.w.setRow blk mI):=by
      rw[Ul]
      rcases hoa 1 with h | h | h
      ·rw[h]
       have:=run_storeCells_at c.P blk (xs.length*e.size) T news 0 cs O.w p2 (by rw[hnl]; omega) BR
       simpa only[xH]using this
      ·cases h
      ·have hn0:news=[]:=zM (by rw[hnl,show ys.length=0 by omega]; simp)
       have Yw:xs.length=0:=Z
       have hce:mI=cs:=by simp[mI,hn0,Yw]
       rw[hn0,hce,setRow_self _ _ _ _ _ p2]
       rfl
     have Yb:Alike (.arr vp e xs) (.arr (vp+ys.length) e (xs++ys)):=⟨rfl,Z,λh=>by rw[zK]; omega⟩
     have hex:=JF (cs:=mI) (x:=.arr (vp+ys.length) e (xs++ys)) hI h3 I Yb
     refine⟨O.upd b blk mI (.arr (vp+ys.length) e (xs++ys)),.slice (some ⟨blk,o,none⟩) (xs.length+ys.length) cap,?_,rfl,JG hI h3 I Yb ?_,hex,?_⟩
     ·exact run_append_fits (c:=c) (O:=O) (t:=t) (t2:=t2) (e:=et) (ty:=ty) (base:=some ⟨blk,o,none⟩) (sLen:=xs.length) (sCap:=cap) (n:=ys.length) (x:=v) (news:=news) hu NZ Ds hn3 (by intro P; rw[Ul]; exact hn4 P) QV ud
     ·refine⟨bR,.inr ⟨blk,n,mI,T,h3,setRow_heap _ _ _ _ _ _ p2,by rw[B1]; exact p3,?_,pr,λi=>if i<xs.length then F i else g (i-xs.length),λi hi => ?_⟩⟩
      ·rw[zK]; exact qN (M _ QV) (by simpa using h6)
      ·have hF:∀ i (hi:i<xs.length),Rc O.w O.ok e xs[i] (F i):=λi hi=>(p5 i hi).1
       have zbo:∀ i,i<xs.length->(F i).length=e.size:=λi hi=>(hF i hi).len
       have BS:cs.toList.take (xs.length*e.size)=ep F xs.length:=by
        apply List.ext_getElem?
        intro p
        rw[List.getElem?_take]
        have KD:=gG zbo
        split
        ·rename_i hp
         obtain⟨q,hq⟩:∃ q,(ep F xs.length)[p]? = some q:=⟨_,zN (by rw[KD]; exact hp)⟩
         obtain⟨i',j',a1,a2,a3,a4⟩:=Ft bR zbo hq
         rw[hq]
         have:=(p5 i' a1).2 j' q a4
         rw[a3,zV]; exact this
        ·rename_i hp
         rw[List.getElem?_eq_none (by rw[KD]; omega)]
       obtain⟨q1,q2⟩:=Gu hF Dt (cs.toList.drop (xs.length*e.size+news.length)) i hi
       refine⟨q1.mono hex.same,λj w hj => ?_⟩
       have:=q2 j w hj
       rw[<- Gi,<- BS]at this
       simpa only[mI,xA]using this
     ·refine .ms b _ e 0 _ cap _ (.inr ⟨vp+ys.length,e,xs++ys,by simp[KS.upd,KS.Ue,wO],zE _⟩) QV nofun (λp hp=>by cases hp; rfl) λzs hzs => ?_
      have:zs=xs++ys:=by simp only[KS.upd,KS.Ue,qW wO]at hzs; cases hzs; rfl
      subst this
      refine⟨qp,.inr ⟨blk,n,o,cap,h3,rfl,QV,by simpa using h6,?_⟩⟩
      rcases h7 with h7 | h7
      ·exact .inl h7
      ·exact .inr (by simpa using h7)
  ·-- it grows
   have V9:0<ys.length:=Z
   have jR:=sn (c:=c) (O:=O) (t:=t) (t2:=t2) (e:=et) (ty:=ty) (base:=a) (sLen:=xs.length) (sCap:=cap) (n:=ys.length) (x:=v) (news:=news) (olds:=olds) hu NZ Ds g2 hn3
    (by intro P; rw[Ul]; exact hn5 P) (by intro P; rw[Ul]; exact ho5 P) (Z) (Z) (by rw[k2]; exact M4)
   let C:=grownCap O.w (xs.length+ys.length) cap et
   have hC:xs.length+ys.length<=C:=grownCap_ge _ _ _ _
   let zs:=zX zv.cells (C-(xs.length+ys.length))
   let cells:=olds.toArray++news.toArray++zs
   have hzs:zs.size=(C-(xs.length+ys.length))*e.size:=by have:=g3.len; simp only[qG]at this; simp[zs,Wn,this]
   have X7:cells.size=C*e.size:=by
    simp only[cells,Array.size_append,zY,hol,hnl,hzs,<- qD]
    congr 1; omega
   have gr:=nd.drew O.w (.cells cells et)
   have z2a:vp<vp+ys.length:=Z
   have hex:=MQ (n:=cells.size) (ys:=xs++ys) hI gr I z2a
   refine⟨O.re _ b cells.size (.arr (vp+ys.length) e (xs++ys)),_,jR,rfl,zeP hI gr I z2a ?_,hex,?_⟩
   ·refine⟨bR,.inr ⟨O.w.heap.size,cells.size,cells,et,by simp[KS.re,B7],gr.new,rfl,?_,Jf ja,λi=>if i<xs.length then f i else g (i-xs.length),λi hi => ?_⟩⟩
    ·rw[X7,zK]; exact M _ hC
    ·obtain⟨q1,q2⟩:=Gu ho2 Dt zs.toList i hi
     refine⟨q1.mono hex.same,λj v hj => ?_⟩
     have:=q2 j v hj
     rw[<- ho1,<- Gi]at this
     rw[<- zV]
     simpa[cells]using this
   ·refine .ms b _ e 0 _ C _ (.inr ⟨vp+ys.length,e,xs++ys,by simp[KS.re,wO],zE _⟩) hC nofun (λp hp=>by cases hp; rfl) λus hus => ?_
    have:us=xs++ys:=by simp only[KS.re,qW wO]at hus; cases hus; rfl
    subst this
    exact⟨qp,.inr ⟨O.w.heap.size,cells.size,0,C,by simp[KS.re,B7],rfl,hC,by rw[X7]; simp,.inr (qp)⟩⟩
end
end Go.AM
namespace Go.AM
set_option linter.unusedSectionVars false
variable [gp]
section
variable {c:Ctx} {O:KS}
theorem Uc{x y:D}{v:Value}(hI:Inv O)(N:RD O x v)(h:(ZC O.st x).leads y):(y=x/\∀ b vp e off len,x≠.ms b vp e off len)\/∃ (e:Ty) (ys:List (den e)),y=.qs (.sl e) ys/\Src O e ys v/\∃ b vp off len,x=.ms b vp e off len:=by
 cases x with
 | ms b vp e off len =>
  simp only[ZC]at h
  split at h
  ·rename_i dO e' xs I
   split at h
   ·rename_i he
    subst he
    obtain⟨rfl,h⟩:=h
    refine .inr ⟨e',_,h.symm,(MY hI N I).1,b,vp,off,len,rfl⟩
   ·exact h.elim
  ·exact h.elim
 | _=>exact .inl ⟨h.symm,λ_ _ _ _ _=>nofun⟩
theorem Vc{t t2 et:Nat}{e:Ty}{s:D}{ys:List (den e)}{ne:Bool}{sv v:Value}{bytes ty:Nat}{d:Option D}{qt:St}(hI:Inv O)(hu:c.P.underlying t=some (.slice et))(NZ:Sz c t2)(ja:ct c et e=true)(bR:0<e.size)
  (Dp:pT c et=some bytes) (T7:0<bytes) (hz:∃ y,zeroOf c et e=some y) (hs:RD O s sv) (hv:Cel O e ys v) (ki:ne=true->ys≠[])
  (h:(bw e s ys ne bytes O.st).leads (d,qt)) :
  ∃ (E:KS) (r:Value),(zL #[t,t2] ty #[sv,v]).run c.P O.w=.ok r E.w/\E.st=qt/\Inv E/\Ext O E/\∀ d',d=some d'->RD E d' r:=by
 have hlen:∀ n,n*bytes<=140737488355328->n<=9223372036854775807:=λn hn=>qN (Nat.le_mul_of_pos_right n T7) (qN hn (xo))
 -- nothing is appended
 have same:∀ (a:Option Addr) (n cap:Nat),sv=.slice a n cap->n<=cap->ys=[]->d=some s->qt=O.st ->
   ∃ (E:KS) (r:Value),(zL #[t,t2] ty #[sv,v]).run c.P O.w=.ok r E.w/\E.st=qt/\Inv E/\Ext O E/\∀ d',d=some d'->RD E d' r:=by
  rintro a n cap rfl js rfl rfl rfl
  obtain⟨hs1,_⟩:=kh ja
  obtain⟨i,Ds,Ul⟩:=mA hs1
  obtain⟨news,g,Gi,Dt,hn3,hn4,hn5⟩:=hv.ex
  have hn0:news=[]:=Gi
  subst hn0
  refine⟨O,.slice a n cap,?_,rfl,hI,Ext.refl O,λd' he=>by cases he; exact hs⟩
  have:=run_append_fits (c:=c) (O:=O) (t:=t) (t2:=t2) (e:=et) (ty:=ty) (base:=a) (sLen:=n) (sCap:=cap) (n:=0) (x:=v) (news:=[]) (i:=i) hu NZ Ds hn3 (by intro P; rw[Ul]; exact hn4 P) (Z) (w':=O.w) (by cases a<;>rfl)
  grind
 have new:∀ l:List (den e),Src O e l sv->(∃ a,sv=.slice a l.length l.length)->ys≠[]->(pG e l ys bytes O.st).leads (d,qt) ->
   ∃ (E:KS) (r:Value),(zL #[t,t2] ty #[sv,v]).run c.P O.w=.ok r E.w/\E.st=qt/\Inv E/\Ext O E/\∀ d',d=some d'->RD E d' r:=by
  intro l R js ki h
  obtain⟨I,h⟩:=h
  cases h
  obtain⟨E,r,h1,X,h3,h4,h5⟩:=Ln (ty:=ty) hI hu NZ ja bR Dp hz R js hv ki I (hlen _ I)
  grind
 unfold bw at h
 split at h
 ·have hsv:sv=.slice none 0 0:=by cases hs; rfl
  cases hn:ne with
  | true=>rw[hn,cond_true]at h; exact new [] (YH hs) ⟨none,hsv⟩ (ki hn) h
  | false =>
   rw[hn,cond_false]at h
   rcases h with⟨hy,h⟩ | ⟨hy,h⟩
   ·cases h; exact same none 0 0 hsv (zE _) (List.isEmpty_iff.1 hy) rfl rfl
   ·exact new [] (YH hs) ⟨none,hsv⟩ (λe=>by rw[e]at hy; cases hy) h
 ·rename_i e' l ne'
  split at h
  ·rename_i l' Me
   obtain⟨he,z27⟩:=wk Me
   cases he
   simp only at z27
   subst z27
   have hsv:∃ a,sv=.slice a l'.length l'.length:=by
    cases hs with
    | vF=>simp
    | tight=>simp
   cases hn:ne with
   | true=>rw[hn,cond_true]at h; exact new l' (WZ hs) hsv (ki hn) h
   | false =>
    rw[hn,cond_false]at h
    rcases h with⟨hy,h⟩ | ⟨hy,h⟩
    ·cases h
     obtain⟨a,ha⟩:=hsv
     exact same a _ _ ha (zE _) (List.isEmpty_iff.1 hy) rfl rfl
    ·exact new l' (WZ hs) hsv (λe=>by rw[e]at hy; cases hy) h
  ·exact h.elim
 ·rename_i e' l b
  split at h
  ·rename_i Me
   obtain⟨he,z27⟩:=wk Me
   cases he
   simp only at z27
   subst z27
   cases I:b with
   | false=>rw[I]at h; exact h.elim
   | true =>
    rw[I,cond_true]at h
    subst I
    obtain⟨M4,h⟩:=h
    cases h
    cases hs with
    | sQ _ _ _ _ hr ht hf =>
     obtain⟨blk,off,cap,rfl,hc⟩:=ht rfl
     have:=hc rfl
     subst this
     by_cases hy:ys=[]
     ·subst hy
      exact same (some ⟨blk,off,none⟩) 0 0 rfl (zE _) rfl rfl rfl
     ·obtain⟨E,r,h1,X,h3,h4,h5⟩:=Lo (ty:=ty) (p:=⟨blk,off,none⟩) hI hu NZ ja bR Dp hz hv hy M4 (hlen _ M4)
      exact⟨E,r,h1,X,h3,h4,λd' he=>by cases he; exact h5⟩
  ·exact h.elim
 ·rename_i b vp e' off len
  split at h
  ·rename_i dO e'' xs I
   split at h
   ·rename_i xs' HR
    obtain⟨he,ziB⟩:=wk HR
    cases he
    simp only at ziB
    subst ziB
    cases hde:decide (e'=_)with
    | false=>rw[hde]at h; exact h.elim
    | true =>
     rw[hde,cond_true]at h
     have:=uf hde
     subst this
     obtain⟨⟨rfl,rfl,R,M4⟩,h⟩:=h
     cases h
     obtain⟨E,r,h1,X,h3,h4,h5⟩:=SF (ty:=ty) hI hu NZ ja bR Dp hz hs I R hv M4 (hlen _ M4)
     exact⟨E,r,h1,X,h3,h4,λd' he=>by cases he; exact h5⟩
   ·exact h.elim
  ·exact h.elim
 ·exact h.elim
theorem EN{t ty:Nat}{s x:Option D}{sv v:Value}{d:Option D}{qt:St}(hI:Inv O)(hs:∀ z,s=some z->RD O z sv)(N:∀ z,x=some z->RD O z v)
  (h:(qx (Xb c t s x) O.st).leads (d,qt)):wB c.P (do zJ (.value (<- zL #[t,t] ty #[sv,v]))) O d qt:=by
 unfold Xb at h
 split at h
 ·exact absurd h zj
 ·rename_i et het
  have hu:=yP het
  split at h
  ·rename_i e bytes NY Dp
   cases I:ct c et e&&xE 0 e.size&&xE 0 bytes&&(zeroOf c et e).isSome with
   | false=>rw[I]at h; exact absurd h zj
   | true =>
    rw[I,cond_true]at h
    simp only[zI]at I
    obtain⟨⟨⟨ja,h1⟩,X⟩,h3⟩:=I
    have bR:0<e.size:=U h1
    have T7:0<bytes:=U X
    have hz:=zZ.1 h3
    split at h
    ·rename_i s x
     simp only[qx,T.xh]at h
     obtain⟨y,hy,h⟩:=h
     have fin:∀ (ys:List (den e)) (ne:Bool),Src O e ys v->(ne=true->ys≠[])->(bw e s ys ne bytes O.st).leads (d,qt)->wB c.P (do zJ (.value (<- zL #[t,t] ty #[sv,v]))) O d qt:=by
      intro ys ne hv ki h
      obtain⟨E,r,g1,g2,g3,g4,g5⟩:=Vc (t2:=t) (ty:=ty) hI hu (.inl ⟨et,hu⟩) ja bR Dp T7 hz (hs _ rfl) (zaC hv bR) ki h
      exact⟨E,.value r,r,by simp only[zH,g1,Y]; rfl,.inl rfl,g2,g3,g4,g5⟩
     have O1:=N _ rfl
     rcases Uc hI O1 hy with⟨rfl,hnm⟩ | ⟨e',ys,rfl,Dv,_⟩
     ·split at h
      ·rename_i σ z
       split at h
       ·rename_i ys hys
        obtain⟨he,hz'⟩:=wk hys
        cases he
        subst hz'
        exact fin _ false (Eb O1) nofun h
       ·exact h.elim
      ·rename_i σ z ne
       split at h
       ·rename_i ys hys
        obtain⟨he,hz'⟩:=wk hys
        cases he
        subst hz'
        refine fin _ ne (WZ O1) (λki => ?_) h
        cases O1 with
        | vF=>cases ki
        | tight _ _ _ _ _ _ q=>exact q ki
       ·exact h.elim
      ·exact fin [] false (YH O1) nofun h
      ·exact h.elim
     ·simp only at h
      split at h
      ·rename_i ys' hys
       obtain⟨he,hz'⟩:=wk hys
       grind
      ·exact h.elim
    ·exact absurd h zj
  ·exact absurd h zj
theorem zaD{l:q9}{v:Value}(h:RD O (.qs .str l) v):Cel O (.int .u8) (bytesOf l) v:=by
 have hv:=h.jl
 subst hv
 have R:(bytesOf l).length=l.length:=by simp[bytesOf]
 have bR:(⟨l.toArray⟩:ByteArray).size=l.length:=zY
 refine⟨Lib.strCells ⟨l.toArray⟩,λi=>[.int .u8 ((bytesOf l)[i]?.getD 0)],?_,λi hi => ?_,λP => ?_,λP => ?_,λP => ?_⟩
 ·have gen:∀ (n:Nat),n<=l.length->ep (λi=>[zP .u8 ((bytesOf l)[i]?.getD 0)]) n=(l.take n).map λb=>zP .u8 b.toNat:=by
   intro n
   induction n with
   | zero=>intro _; rfl
   | succ n ih =>
    intro hn
    have wO:n<l.length:=hn
    rw[ep,ih (Z),qJ wO,List.map_append]
    simp[bytesOf,zN wO]
  rw[R,gen _ (zE _),List.take_length]
  rfl
 ·have:(bytesOf l)[i]?.getD 0=(bytesOf l)[i]:=by rw[zN hi]; rfl
  show Rc O.w O.ok (.int .u8) (bytesOf l)[i] [zP .u8 ((bytesOf l)[i]?.getD 0)]
  rw[this]
  exact .int .u8 _
 ·show(pure (⟨l.toArray⟩:ByteArray).size:Sem Nat).run P O.w=_
  rw[bR,R]; rfl
 ·rw[R,<- bR]; exact qP _ _ _
 ·rw[R,<- bR]; exact qP _ _ _
theorem YS{t t2 ty:Nat}{s x:Option D}{sv v:Value}{d:Option D}{qt:St}(hI:Inv O)(hs:∀ z,s=some z->RD O z sv)(N:∀ z,x=some z->RD O z v)
  (h:(qx (Z8 c t t2 s x) O.st).leads (d,qt)):wB c.P (do zJ (.value (<- zL #[t,t2] ty #[sv,v]))) O d qt:=by
 unfold Z8 at h
 split at h
 ·exact absurd h zj
 ·rename_i et het
  have hu:=yP het
  split at h
  ·rename_i bytes NY Dp NZ
   cases I:ct c et (.int .u8)&&xE 0 bytes&&(zeroOf c et (.int .u8)).isSome with
   | false=>rw[I]at h; exact absurd h zj
   | true =>
    rw[I,cond_true]at h
    simp only[zI]at I
    obtain⟨⟨ja,X⟩,h3⟩:=I
    have T7:0<bytes:=U X
    have hz:=zZ.1 h3
    split at h
    ·rename_i s l
     obtain⟨E,r,g1,g2,g3,g4,g5⟩:=Vc (t2:=t2) (ty:=ty) hI hu (.inr NZ) ja (xo) Dp T7 hz (hs _ rfl) (ne:=false) (zaD (N _ rfl)) (λe=>by cases e) h
     exact⟨E,.value r,r,by simp only[zH,g1]; rfl,.inl rfl,g2,g3,g4,g5⟩
    ·exact absurd h zj
  ·exact absurd h zj
end
end Go.AM
namespace Go.AM
set_option linter.unusedSectionVars false
variable [gp]
open Go.RowKit
section
variable {c:Ctx} {O:KS}
theorem K7{t:Nat}(h:FT c t=true):∃ k e,c.P.underlying t=some (.map k e)/\c.P.underlying k=some (.int .i64)/\c.P.underlying e=some .bool/\∀ w,(zeroValue e).run c.P w=.ok (.bool false) w:=by
 unfold FT at h
 split at h
 ·rename_i k e ht
  simp only[zI]at h
  obtain⟨⟨h1,X⟩,h3⟩:=h
  refine⟨k,e,ht,?_,?_,λw => ?_⟩
  ·split at h1
   ·rename_i q hq; cases q<;>first | exact hq | cases h1
   ·cases h1
  ·split at X
   ·assumption
   ·cases X
  ·split at h3
   ·rename_i i hi
    split at h3
    ·rename_i z hz
     cases z
     ·simp[zeroValue,typeInfo,run_program,hi,hz]
     ·cases h3
    ·cases h3
   ·cases h3
 ·cases h
theorem keyOf_int{P P':Program}{k k':TypeId}(h:P.underlying k=some (.int .i64))(h':P'.underlying k'=some (.int .i64)):keyOf P k=keyOf P' k':=by
 funext v
 simp only[keyOf,h,h',mapKey]
theorem SS{P P':Program}{e e':TypeId}(h:P.underlying e=some .bool)(h':P'.underlying e'=some .bool):(plainElem P e:Value->Option (DataW Unit×List MemPlace))=plainElem P' e':=by
 funext v
 simp only[plainElem,h,h']
theorem TU{P P':Program}{k k' e e':TypeId}(h:P.underlying k=some (.int .i64))(h':P'.underlying k'=some (.int .i64))(he:P.underlying e=some .bool)(M6:P'.underlying e'=some .bool)
  {w w':World} {b b' n:Nat} {D:DataW Unit} (ho:w.ownsMap P k (plainElem P e) b n D) (hw:w'.heap[b']? = w.heap[b]?):w'.ownsMap P' k' (plainElem P' e') b' n D:=by
 obtain⟨es,clock,h1,X,h3,h4⟩:=ho
 have e1:(xI P k (plainElem P e):MapEntry->Option (Lit×DataW Unit))=xI P' k' (plainElem P' e'):=by
  funext x; simp only[xI,keyOf_int h h',SS he M6]
 have e2:(xJ P k (plainElem P e):MapEntry->Lit×DataW Unit)=xJ P' k' (plainElem P' e'):=by
  funext x; simp only[xJ,e1]
 refine⟨es,clock,hw.trans h1,⟨X.size,X.stamped,λx N => ?_⟩,h3,by rw[<- e2]; exact h4⟩
 rw[<- e1]; exact X.reads x N
theorem Cb{P:Program}{k e:TypeId}(h:P.underlying k=some (.int .i64))(he:P.underlying e=some .bool){w:World}{b:Nat}{o:Obj}{l:List Int}{D:DataW Unit}(I:w.heap[b]? = some o)
  (ho:w.ownsMap P k (plainElem P e) b l.length D) (hD:Maps.IsMap D) (hr:∀ n,(Lit.int .i64 n).wf=true->D.atKey (.int .i64 n) (.lit (.bool false))=.lit (.bool (l.contains n))):z0x o l :=
 λ_ _ _ h' M6 _ _ hw'=>⟨D,TU h h' he M6 ho (hw'.trans I.symm),hD,hr⟩
theorem z6L{P:Program}{e:TypeId}(he:P.underlying e=some .bool){v:Value}{b:Bool}{ps:List MemPlace}(h:plainElem (H:=Unit) P e v=some (.lit (.bool b),ps)):v=.bool b:=by
 unfold plainElem at h
 rw[he]at h
 cases v<;>simp at h
 exact congrArg _ h.1
theorem DI{t:Nat}{r:Option Operand}{f:Operand->Value}{d:Option D}{qt:St}(hI:Inv O)(h:(qx (Kc c t r) O.st).leads (d,qt)) :
  wB c.P (do zJ (.value (<- Instr.makeMap t (r.map f)))) O d qt:=by
 unfold Kc at h
 cases I:FT c t&&r.isNone with
 | false=>rw[I]at h; exact absurd h zj
 | true =>
  rw[I,cond_true]at h
  simp only[zI]at I
  obtain⟨h1,X⟩:=I
  cases r with
  | some r=>cases X
  | none =>
  obtain⟨rfl,rfl⟩:=h
  obtain⟨k,e,ht,hk,he,_⟩:=K7 h1
  have g:=nd.alloc O.w (.map #[] 0)
  have N:=ZI (n:=0) (x:=.var (.Cg [])) hI g
  refine⟨O.add _ 0 (.var (.Cg [])),.value (.map (some O.w.heap.size)),_,?_,.inl rfl,rfl,Ur hI g ?_,N,λ_ he=>by cases he; exact .yR _ _ 0 _ Xa (tO hI)⟩
  ·simp[KS.add,run_makeMap]
  ·exact⟨O.w.heap.size,.map #[] 0,tO hI,g.new,Cb hk he (w:=O.w.alloc (.map #[] 0)) (b:=O.w.heap.size) g.new (World.ownsMap_made O.w c.P k (plainElem c.P e)) Go.Maps.isMap_empty λn _=>rfl⟩
theorem FZ{t:Nat}{ok:Bool}{m x:Option D}{v u:Value}{d:Option D}{qt:St}(hI:Inv O)(hm:∀ z,m=some z->RD O z v)(N:∀ z,x=some z->RD O z u)
  (h:(qx (GL c t ok m x) O.st).leads (d,qt)):wB c.P (do zJ (.value (<- Instr.lookup t v u ok))) O d qt:=by
 unfold GL at h
 cases I:FT c t && !ok with
 | false=>rw[I]at h; exact absurd h zj
 | true =>
  rw[I,cond_true]at h
  simp only[zI]at I
  obtain⟨h1,X⟩:=I
  have ja:ok=false:=by cases ok<;>first | rfl | cases X
  subst ja
  obtain⟨k,e,ht,hk,he,hz⟩:=K7 h1
  have hz:=hz O.w
  split at h
  ·rename_i b q n hq
   cases hq64:Gp q with
   | false=>rw[hq64]at h; exact absurd h zj
   | true =>
   rw[hq64,cond_true]at h
   have hq6:q=.i64:=by cases q<;>first | rfl | cases hq64
   subst hq6
   have hu:=kC hq N
   simp only[qx]at h
   split at h
   ·rename_i l R
    obtain⟨hw,rfl,rfl⟩:=h
    cases hm _ rfl with
    | yR _ blk m' d' J hp =>
     obtain⟨pS,o,g1,g2,g3⟩:=(hI.blk b _ R:Maps O b l)
     rw[hp]at g1
     cases g1
     obtain⟨D,ho,hD,hr⟩:=g3 c.P k e hk he O.w blk g2
     obtain⟨rv,ps,jR,hv⟩:=ho.lookup (qQ hk) ht hz (plainElem_bool he false) (qM hk hw)
     rw[hr n hw]at hv
     have:=z6L he hv
     subst this
     subst hu
     exact wB.pure hI jR .bool
   ·exact h.elim
  ·rename_i q n hq
   cases hq64:Gp q with
   | false=>rw[hq64]at h; exact absurd h zj
   | true =>
   rw[hq64,cond_true]at h
   have hq6:q=.i64:=by cases q<;>first | rfl | cases hq64
   subst hq6
   have hu:=kC hq N
   subst hu
   obtain⟨hw,rfl,rfl⟩:=h
   cases hm _ rfl
   exact wB.pure hI (by simpa using Go.Maps.look_nil false (qQ hk) ht hz (qM hk hw)) .bool
  ·exact absurd h zj
theorem Lp{D:DataW Unit}{l:List Int}(hD:Go.Maps.IsMap D)(hr:∀ n,(Lit.int .i64 n).wf=true->D.atKey (.int .i64 n) (.lit (.bool false))=.lit (.bool (l.contains n)))(m:Int) :
  ∀ n,(Lit.int .i64 n).wf=true->(D.put (.int .i64 m) (.lit (.bool true))).atKey (.int .i64 n) (.lit (.bool false))=.lit (.bool ((l++[m]).contains n)):=λn hn=>by
 by_cases e:n=m
 ·subst e
  rw[Go.Maps.atKey_put_same hD (show WideAt.IsKeyLit (.int _ _)from trivial)]
  simp
 ·rw[Go.Maps.atKey_put_other (by simpa using e),hr n hn]
  simp[e]
theorem GP{t:Nat}{m x y:Option D}{v u z:Value}{d:Option D}{qt:St}(hI:Inv O)(hm:∀ z,m=some z->RD O z v)(N:∀ z,x=some z->RD O z u)(hy:∀ q,y=some q->RD O q z)
  (h:(qx (GO c t m x y) O.st).leads (d,qt)):wB c.P (do Instr.mapUpdate t v u z; zJ .skip) O d qt:=by
 unfold GO at h
 cases I:FT c t with
 | false=>rw[I]at h; exact absurd h zj
 | true =>
  rw[I,cond_true]at h
  obtain⟨k,e,ht,hk,he,_⟩:=K7 I
  split at h
  ·rename_i b q n yb hq hyb
   cases hq64:Gp q with
   | false=>rw[hq64]at h; exact absurd h zj
   | true =>
   rw[hq64,cond_true]at h
   have hq6:q=.i64:=by cases q<;>first | rfl | cases hq64
   subst hq6
   have hu:=kC hq N
   have hz:=Z9 hyb hy
   simp only[qx]at h
   split at h
   ·rename_i l R
    obtain⟨⟨rfl,hw,hlen⟩,h⟩:=h
    simp only[T.leads,Prod.mk.injEq]at h
    obtain⟨rfl,rfl⟩:=h
    cases hm _ rfl with
    | yR _ blk m' d' J hp =>
     obtain⟨pS,o,g1,g2,g3⟩:=(hI.blk b _ R:Maps O b l)
     rw[hp]at g1
     cases g1
     obtain⟨D,ho,hD,hr⟩:=g3 c.P k e hk he O.w blk g2
     obtain⟨w',jR,hown,hg⟩:=ho.update (qQ hk) ht (by simp[maxLen]; omega) (qM hk hw) (plainElem_bool he true)
     subst hu hz
     have Yb:Alike (.var (.Cg l)) (.var (.Cg (l++[n]))):=trivial
     refine⟨O.Ue b w' (.var (.Cg (l++[n]))),.skip,undef,?_,.inr ⟨rfl,rfl⟩,rfl,IT hI hp R Yb hg ?_,JE hI hp R Yb hg,λ_ he=>by cases he⟩
     ·simp[KS.Ue,jR]
     ·obtain⟨o',ho'⟩:∃ o',w'.heap[blk]? = some o':=⟨_,Array.getElem?_eq_getElem hown.lt⟩
      exact⟨blk,o',hp,ho',Cb hk he ho' (by simpa using hown) (hD.put _ _) (Lp hD hr n)⟩
   ·exact h.elim
  ·exact absurd h zj
theorem Mx{op:BinOp}{t:Nat}{px:Operand}{x:Option D}{v:Value}{d:Option D}{qt:St}{z:ek}(hI:Inv O)(N:∀ z,x=some z->RD O z v)
  (hz:(qx z O.st).leads (d,qt)->wB c.P (do zJ (.value (<- (do eqGuard op t px (.const (.slice none 0 0)) v (.slice none 0 0); binOp op t v (.slice none 0 0))))) O d qt)
  (h:(qx (DQ c op t x z) O.st).leads (d,qt)):wB c.P (do zJ (.value (<- (do eqGuard op t px (.const (.slice none 0 0)) v (.slice none 0 0); binOp op t v (.slice none 0 0))))) O d qt:=by
 unfold DQ at h
 split at h
 ·rename_i e hu
  have q1:∀ (x:Option Addr) (l k:Nat),(do eqGuard .eql t px (.const (.slice none 0 0)) (.slice x l k) (.slice none 0 0); binOp .eql t (.slice x l k) (.slice none 0 0):Sem Value).run c.P O.w=.ok (.bool x.isNone) O.w:=λx l k=>by
   have:=run_eql_slice_nil (P:=c.P) O.w t e x l k hu
   simp only[eqGuard]
   simpa using this
  have q2:∀ (x:Option Addr) (l k:Nat),(do eqGuard .neq t px (.const (.slice none 0 0)) (.slice x l k) (.slice none 0 0); binOp .neq t (.slice x l k) (.slice none 0 0):Sem Value).run c.P O.w=.ok (.bool !x.isNone) O.w:=λx l k=>by
   have:=run_neq_slice_nil (P:=c.P) O.w t e x l k hu
   simp only[eqGuard]
   simpa using this
  split at h
  ·unfold bb at h
   obtain⟨rfl,rfl⟩:=h
   cases N _ rfl
   exact wB.pure hI (q1 none 0 0) RD.bool
  ·rename_i b
   unfold bb at h
   obtain⟨rfl,rfl⟩:=h
   cases N _ rfl with
   | sQ _ _ _ _ hr ht hf =>
    cases b with
    | true=>obtain⟨blk,off,cap,rfl,_⟩:=ht rfl; exact wB.pure hI (q1 _ _ _) RD.bool
    | false=>have:=hf rfl; subst this; exact wB.pure hI (q1 _ _ _) RD.bool
  ·unfold bb at h
   obtain⟨rfl,rfl⟩:=h
   cases N _ rfl
   exact wB.pure hI (q2 none 0 0) RD.bool
  ·rename_i b
   unfold bb at h
   obtain⟨rfl,rfl⟩:=h
   cases N _ rfl with
   | sQ _ _ _ _ hr ht hf =>
    cases b with
    | true=>obtain⟨blk,off,cap,rfl,_⟩:=ht rfl; exact wB.pure hI (q2 _ _ _) RD.bool
    | false=>have:=hf rfl; subst this; exact wB.pure hI (q2 _ _ _) RD.bool
  ·exact hz h
 ·exact hz h
theorem Mw{op:BinOp}{t:Nat}{px:Operand}{x:Option D}{v:Value}{d:Option D}{qt:St}{z:ek}(hI:Inv O)(N:∀ z,x=some z->RD O z v)
  (hz:(qx z O.st).leads (d,qt)->wB c.P (do zJ (.value (<- (do eqGuard op t px (.const (.pointer none)) v (.pointer none); binOp op t v (.pointer none))))) O d qt)
  (h:(qx (DP c op t x z) O.st).leads (d,qt)):wB c.P (do zJ (.value (<- (do eqGuard op t px (.const (.pointer none)) v (.pointer none); binOp op t v (.pointer none))))) O d qt:=by
 unfold DP at h
 split at h
 ·rename_i e hu
  have hp:c.P.underlying t=some (.pointer (c.P.pointee t)):=by unfold Program.pointee; rw[hu]
  have q1:∀ (x:Option Addr),(do eqGuard .eql t px (.const (.pointer none)) (.pointer x) (.pointer none); binOp .eql t (.pointer x) (.pointer none):Sem Value).run c.P O.w=.ok (.bool x.isNone) O.w:=λx=>by
   have:=run_eql_pointer_nil (P:=c.P) O.w t x hp
   simp only[eqGuard]
   simpa using this
  have q2:∀ (x:Option Addr),(do eqGuard .neq t px (.const (.pointer none)) (.pointer x) (.pointer none); binOp .neq t (.pointer x) (.pointer none):Sem Value).run c.P O.w=.ok (.bool !x.isNone) O.w:=λx=>by
   have:=run_neq_pointer_nil (P:=c.P) O.w t x hp
   simp only[eqGuard]
   simpa using this
  split at h
  ·unfold bb at h; obtain⟨rfl,rfl⟩:=h; cases N _ rfl; exact wB.pure hI (q1 none) RD.bool
  ·unfold bb at h; obtain⟨rfl,rfl⟩:=h; cases N _ rfl; exact wB.pure hI (q1 _) RD.bool
  ·unfold bb at h; obtain⟨rfl,rfl⟩:=h; cases N _ rfl; exact wB.pure hI (q1 _) RD.bool
  ·unfold bb at h; obtain⟨rfl,rfl⟩:=h; cases N _ rfl; exact wB.pure hI (q2 none) RD.bool
  ·unfold bb at h; obtain⟨rfl,rfl⟩:=h; cases N _ rfl; exact wB.pure hI (q2 _) RD.bool
  ·unfold bb at h; obtain⟨rfl,rfl⟩:=h; cases N _ rfl; exact wB.pure hI (q2 _) RD.bool
  ·exact hz h
 ·exact hz h
theorem HX{t:Nat}{d:Option D}{qt:St}{z:ek}(hI:Inv O)(hz:(qx z O.st).leads (d,qt)->wB c.P (do zJ (.value (<- zQ t 0 #[]))) O d qt)
  (h:(qx (Uu c t z) O.st).leads (d,qt)):wB c.P (do zJ (.value (<- zQ t 0 #[]))) O d qt:=by
 unfold Uu at h
 split at h
 ·exact hz h
 ·rename_i et het
  split at h
  ·rename_i e he
   cases I:ct c et e&&(zeroOf c et e).isSome with
   | false=>rw[I]at h; exact hz h
   | true =>
    rw[I,cond_true]at h
    simp only[zI]at I
    obtain⟨rfl,rfl⟩:=h
    have hu:=yP het
    obtain⟨hs,_⟩:=kh I.1
    have g:=nd.alloc O.w (.cells #[] et)
    have jR:(zQ t 0 #[]).run c.P O.w=.ok (.slice (some ⟨O.w.heap.size,0,none⟩) 0 0) (O.w.alloc (.cells #[] et)):=by
     obtain⟨y,hy⟩:=zZ.1 I.2
     obtain⟨i,zv,Ds,Ul,hi3⟩:=fQ (O:=O) hy
     simp[zQ,zH,run_underlying hu,Y,run_sizeOf hs,qH,newRow]
     grind
    exact⟨O.qs _,.value (.slice (some ⟨O.w.heap.size,0,none⟩) 0 0),_,by simp only[zH,jR,Y]; rfl,.inl rfl,rfl,cY hI g,WB hI g,λ_ he=>by
     cases he
     exact .sQ e [] true _ (.lK e _) (λ_=>⟨_,_,_,rfl,λ_=>rfl⟩) nofun⟩
  ·exact hz h
end
end Go.AM
namespace Go.AM
set_option linter.unusedSectionVars false
variable [gp]
section
variable {c:Ctx} {O:KS}
theorem U4{places:List (Nat×Nat)}{pf:Nat->Option (Nat×Nat)}(hpf:∀ (i:Nat) p,places[i]? = some p->pf i=some p){F:Operand->Option D}{G:Operand->Value}(hF:∀ x d,F x=some d->RD O d (G x)):∀ (L:List (Nat×Operand)) (cells r:List D) (cs:Array Value),
  s9 places (L.map λp=>(p.1,F p.2)) cells=some r->wQ O cells cs.toList->(∀ d∈cells,d.one=true) ->
  ∃ mI,qH pf cs (L.map λp=>(p.1,G p.2))=some mI/\wQ O r mI.toList/\∀ d∈r,d.one=true
 | [],cells,r,cs,h,hr,ho=>by
  simp only[List.map_nil,s9,Option.some.injEq]at h
  subst h
  exact⟨cs,rfl,hr,ho⟩
 | (i,x)::L,cells,r,cs,h,hr,ho=>by
  simp at h
  cases N:F x with
  | none=>rw[N]at h; simp[s9]at h
  | some d =>
   rw[N]at h
   simp only[s9]at h
   split at h
   ·rename_i off n hp
    cases I : !d.bF&&qL n (we d).length&&Nat.ble (off+n) cells.length with
    | false=>grind
    | true =>
     rw[I,cond_true]at h
     simp only[zI,Bool.not_eq_true']at I
     obtain⟨⟨h1,X⟩,h3⟩:=I
     have h2':n=(we d).length:=zF X
     have h3':=U h3
     have J:=hF x d N
     have hfd:=cI J h1
     have Mf:(G x).cells.toList.length=n:=by rw[<- hfd.1]; exact h2'.symm
     have hle:off+n<=cs.size:=by have:=hr.1; simp at this; omega
     have hn:=Z1 hr hfd off n
     obtain⟨mI,g1,g2,g3⟩:=U4 hpf hF L _ r (cs.toList.take off++(G x).cells.toList++cs.toList.drop (off+n)).toArray h (wb) (by
      intro y hy
      simp only[qZ]at hy
      rcases hy with(hy | hy) | hy
      ·grind
      ·exact cH J y hy
      ·exact ho y (xD hy))
     refine⟨mI,?_,g2,g3⟩
     simp
     rw[Fs (hpf _ _ hp) Mf hle]
     exact g1
   ·cases h
theorem LD{t:Nat}{L:List (Nat×Operand)}{F:Operand->Option D}{G:Operand->Value}{d:Option D}{qt:St}(hI:Inv O)(hF:∀ x d,F x=some d->RD O d (G x))
  (h:(qx (D0 c t (L.map λp=>(p.1,F p.2))) O.st).leads (d,qt)):wB c.P (do zJ (.value (<- Instr.build t (L.map λp=>(p.1,G p.2)).toArray))) O d qt:=by
 unfold D0 at h
 split at h
 ·rename_i fs hu
  split at h
  ·rename_i z places hz hp
   split at h
   ·rename_i l R
    rw[dF]at h
    obtain⟨rfl,rfl⟩:=h
    obtain⟨i,zv,h1,X,h3⟩:=sP hz
    have hzr:=h3.rd O
    obtain⟨mI,g1,g2,g3⟩:=U4 (pf:=(places.toArray[·]?)) (λi p hp=>by simpa using hp) hF L z l zv.cells R (cI hzr rfl) (cH hzr)
    have I:c.P.built t (L.map λp=>(p.1,G p.2))=some mI:=by
     unfold Program.built
     grind
    refine wB.pure hI (run_build O.w t _ mI (by simpa using I)) ?_
    have:=RD.agg l mI.toList g2.1 g3 g2.2
    omega
   ·exact absurd h zj
  ·exact absurd h zj
 ·rename_i k e hu
  split at h
  ·rename_i z ie hz hp
   split at h
   ·rename_i l R
    obtain⟨rfl,rfl⟩:=h
    obtain⟨i,zv,h1,X,h3⟩:=sP hz
    have hzr:=h3.rd O
    obtain⟨mI,g1,g2,g3⟩:=U4 (pf:=λi=>some (i*ie.size,ie.size)) (λi p hp=>by
     rw[qR]at hp
     cases hr:(List.range k)[i]? with
     | none=>grind
     | some j =>
      rw[hr]at hp
      obtain⟨wO,rfl⟩:=zA.1 hr
      simpa using hp) hF L z l zv.cells R (cI hzr rfl) (cH hzr)
    have I:c.P.built t (L.map λp=>(p.1,G p.2))=some mI:=by
     unfold Program.built
     grind
    refine wB.pure hI (run_build O.w t _ mI (by simpa using I)) ?_
    have:=RD.agg l mI.toList g2.1 g3 g2.2
    omega
   ·exact absurd h zj
  ·exact absurd h zj
 ·exact absurd h zj
theorem Bf{a:Act}{o:Oper}{p:Operand}(ho:o.op=.nilCheck p){x:Option D}{d:Option D}{qt:St}(hI:Inv O)(N:∀ z,x=some z->RD O z (a.eval p))
  (h:(qx (VY x) O.st).leads (d,qt)):wB c.P (execOp a.eval o) O d qt:=by
 have key:∀ z v,RD O z v->a.eval p=v->(∀ b:Option Addr,v=.pointer b->b≠none)->((∃ b,v=.pointer b)\/∃ g q l,v=.func (.func g) q l)->wB c.P (execOp a.eval o) O (some z) O.st:=by
  intro z v hz hv hn hc
  have:execOp a.eval o=zJ (.value v):=by
   rcases hc with⟨b,rfl⟩ | ⟨g,q,l,rfl⟩
   ·cases b with
    | none=>grind
    | some b=>simp only[execOp,ho,hv]
   ·simp only[execOp,ho,hv]
  rw[this]
  exact wB.val hI λ_ he=>by cases he; exact hz
 unfold VY at h
 split at h
 all_goals try exact absurd h zj
 all_goals
  rw[dF]at h; obtain⟨rfl,rfl⟩:=h
  have hr:=N _ rfl
  generalize hv:a.eval p=v at hr
  refine key _ v hr hv ?_ ?_
  ·intro b I; cases hr<;>first | (cases I<;>nofun) | (rename_i f l vs _ _; obtain⟨g,q,l',e⟩:=G2 f vs; rw[e]at I; cases I)
  ·cases hr<;>first | exact .inl ⟨_,rfl⟩ | exact .inr (G2 _ _)
theorem Mv{op:BinOp}{t:Nat}{px:Operand}{x:Option D}{v:Value}{d:Option D}{qt:St}(hI:Inv O)(N:∀ z,x=some z->RD O z v)
  (h:(qx (DN c op t x) O.st).leads (d,qt)):wB c.P (do zJ (.value (<- (do eqGuard op t px (.const .nilIface) v .nilIface; binOp op t v .nilIface)))) O d qt:=by
 unfold DN at h
 split at h
 ·rename_i ms hu
  have hm:c.P.underlying t=some (.interface (c.P.methodsAt t)):=by unfold Program.methodsAt; rw[hu]
  have g1:∀ w,(eqGuard op t px (.const .nilIface) .nilIface .nilIface).run c.P w=.ok () w:=λw=>by cases op<;>simp[eqGuard]
  have g2:∀ u y w,(eqGuard op t px (.const .nilIface) (.iface u y) .nilIface).run c.P w=.ok () w:=λu y w=>by cases op<;>simp[eqGuard]
  split at h
  ·unfold bb at h
   obtain⟨rfl,rfl⟩:=h
   cases N _ rfl
   exact wB.pure hI (by simp only[zH,g1,Y,run_eql_nil_nil _ _ hm]) RD.bool
  ·unfold bb at h
   obtain⟨rfl,rfl⟩:=h
   cases N _ rfl
   exact wB.pure hI (by simp only[zH,g2,Y,run_eql_held_nil _ _ _ _ hm]) RD.bool
  ·unfold bb at h
   obtain⟨rfl,rfl⟩:=h
   cases N _ rfl
   exact wB.pure hI (by simp only[zH,g1,Y,run_neq_nil_nil _ _ hm]) RD.bool
  ·unfold bb at h
   obtain⟨rfl,rfl⟩:=h
   cases N _ rfl
   exact wB.pure hI (by simp only[zH,g2,Y,run_neq_held_nil _ _ _ _ hm]) RD.bool
  ·exact absurd h zj
 ·exact absurd h zj
theorem Yi{x:Option D}{v:Value}{xt at':Nat}{ok:Bool}{d:Option D}{qt:St}(hI:Inv O)(N:∀ z,x=some z->RD O z v)
  (h:(qx (QH c x at' ok) O.st).leads (d,qt)):wB c.P (do zJ (.value (<- Instr.typeAssert v xt at' ok))) O d qt:=by
 unfold QH at h
 split at h
 ·exact absurd h zj
 ·exact absurd h zj
 ·rename_i ty hni hu
  split at h
  ·rename_i t e
   cases I:qL t at'&&ok with
   | false=>rw[I]at h; exact absurd h zj
   | true =>
    rw[I,cond_true,dF]at h
    obtain⟨rfl,rfl⟩:=h
    simp only[zI]at I
    have:=zF I.1
    subst this
    obtain rfl:=I.2
    cases N _ rfl with
    | iface _ _ u Tj =>
     refine wB.pure hI (v:=.tuple #[u,.bool true]) ?_ ?_
     ·cases ty<;>first | (exact(hni _ rfl).elim) | (simp[Instr.typeAssert,run_underlying hu])
     ·have:=wQ.cons Tj (wQ.cons (RD.bool (O:=O) (b:=true)) wQ.nil)
      exact .eO _ [u,.bool true] this.1 this.2
  ·exact absurd h zj
theorem GM{t:Nat}{x:Option D}{v:Value}{d:Option D}{qt:St}(hI:Inv O)(N:∀ z,x=some z->RD O z v)
  (h:(qx (XJ c t x) O.st).leads (d,qt)):wB c.P (do zJ (.value (<- Instr.makeInterface t v))) O d qt:=by
 unfold XJ at h
 cases hu:c.P.underlying t with
 | none=>rw[hu]at h; exact absurd h zj
 | some u =>
  rw[hu]at h
  cases u<;>simp only at h
  all_goals try exact absurd h zj
  all_goals
   split at h
   ·rw[dF]at h; obtain⟨rfl,rfl⟩:=h
    have hc:c.P.concrete t=true:=by unfold Program.concrete; rw[hu]
    exact wB.pure hI (run_makeInterface O.w t v hc) (.iface t _ v (N _ rfl))
   ·exact absurd h zj
theorem z4A{e:Ty}{x y:D}{v:Value}{l:List (den e)}(hI:Inv O)(N:RD O x v)(h:(ZC O.st x).leads y)(R:IG e y=some l):Src O e l v:=by
 rcases Uc hI N h with⟨rfl,_⟩ | ⟨e',ys,rfl,hs,_⟩
 ·cases y with
  | qs σ z =>
   obtain⟨he,hz⟩:=wk (a:=σ) (b:=.sl e) R
   cases he
   cases hz
   exact Eb N
  | tight e' z ne =>
   obtain⟨he,hz⟩:=wk (a:=.sl e') (b:=.sl e) R
   cases he
   cases hz
   exact WZ N
  | wJ =>
   simp only[IG,Option.some.injEq]at R
   subst R
   exact YH N
  | _=>simp[IG]at R
 ·obtain⟨he,hz⟩:=wk (a:=.sl e') (b:=.sl e) R
  grind
theorem G5{s t e:Nat}{x:Option D}{v:Value}{d:Option D}{qt:St}(hI:Inv O)(N:∀ z,x=some z->RD O z v)(hs:c.P.underlying s=some (.slice e))(ht:c.P.underlying t=some .string)
  (h:(qx (JU c e x) O.st).leads (d,qt)):wB c.P (do zJ (.value (<- convert s t v))) O d qt:=by
 unfold JU at h
 split at h
 ·rename_i z he
  rw[rT]at h
  obtain⟨h,rfl⟩:=h
  obtain⟨y,h1,X⟩:=T.xh.1 h
  split at X
  ·rename_i l R
   cases X
   have Dv:=z4A hI (N _ rfl) h1 R
   obtain⟨a,cap,f,rfl,js,hn,g1,g2⟩:=Dv.ex
   have jR:(convert s t (.slice a l.length cap)).run c.P O.w=.ok (.string (strOfNums l)) O.w:=by
    cases a with
    | none =>
     obtain⟨rfl,rfl⟩:=hn rfl
     exact run_convert_bytes_nil O.w s e hs he 0 0 t ht
    | some p =>
     rcases g2 p rfl with⟨rfl,rfl⟩ | ⟨hp,_,hc⟩
     ·have h0:(loadCells p 0).run c.P O.w=.ok (([]:List Int).map (zP .u8)).toArray O.w:=by
       rfl
      simp only[List.length_nil]
      rw[run_convert_bytes_string O.w s t e _ 0 0 hs he ht,run_bytesToString O.w _ 0 0 [] h0]
      rfl
     ·obtain⟨blk,o,sp⟩:=p
      subst hp
      refine run_convert_bytes_arg O.w s e hs he blk o l.length cap l rfl (λi hi => ?_) t ht
      have hf:=(g1 i hi).dX
      have:=hc i hi 0 (.int .u8 l[i]) (wb)
      have e1:o+i*Ty.size (.int .u8)+0=o+i:=by simp[Ty.size]
      grind
   refine wB.pure hI jR ?_
   exact .str
  ·exact X.elim
 ·exact absurd h zj
theorem D6{s t:Nat}{x:Option D}{v:Value}{d:Option D}{qt:St}(hI:Inv O)(N:∀ z,x=some z->RD O z v)
  (h:(qx (convertOp c s t x) O.st).leads (d,qt)):wB c.P (do zJ (.value (<- convert s t v))) O d qt:=by
 unfold convertOp at h
 split at h
 ·rename_i e hs ht
  exact G5 hI N hs ht h
 ·rename_i k0 k hs ht
  split at h
  ·rename_i k1 n hk
   have:=kC hk N
   subst this
   obtain⟨rfl,rfl⟩:=h
   exact wB.pure hI (by simp[convert,run_underlying hs,run_underlying ht,Conv.intToInt]) RD.int
  ·exact absurd h zj
 ·rename_i hs ht
  split at h
  ·rename_i s' hk
   have:=Xc hk N
   subst this
   obtain⟨rfl,rfl⟩:=h
   exact wB.pure hI (by simp[convert,run_underlying hs,run_underlying ht]) RD.str
  ·exact absurd h zj
 ·exact absurd h zj
end
end Go.AM
namespace Go.AM
set_option linter.unusedSectionVars false
variable [gp]
section
variable {c:Ctx} {O:KS}
theorem SO{ty t t':Nat}{s x:Option D}{v u:Value}{d:Option D}{qt:St}(hI:Inv O)(hs:∀ z,s=some z->RD O z v)(N:∀ z,x=some z->RD O z u)
  (h:(qx (LM c t s x) O.st).leads (d,qt)):wB c.P (do zJ (.value (<- Builtin.copy_ #[t,t'] ty #[v,u]))) O d qt:=by
 unfold LM at h
 split at h
 ·rename_i et het
  split at h
  ·rename_i k b vp k' off len z hu bR
   cases hk:decide (k'=k)with
   | false=>rw[hk]at h; exact absurd h zj
   | true =>
    rw[hk,cond_true]at h
    obtain rfl:k'=k:=uf hk
    simp only[qx]at h
    obtain⟨y,h1,X⟩:=T.xh.1 h
    split at X
    ·rename_i l R
     unfold z10 at X
     split at X
     ·rename_i dO e' Uf I
      split at X
      ·rename_i xs Yx
       obtain⟨he,hxx⟩:=wk (a:=.sl e') (b:=.sl (.int k')) Yx
       cases he
       obtain rfl:xs=Uf:=hxx
       obtain⟨⟨Dy,B3⟩,X⟩:=X
       cases X
       subst Dy
       have Dv:=z4A hI (N _ rfl) h1 R
       obtain⟨a,cap,f,rfl,js,hn,g1,g2⟩:=Dv.ex
       have hue:=yP het
       have z2h:(c.P.info? et).map (·.size)=some 1:=bR
       have hrd:=hs _ rfl
       cases hrd with
       | ms _ _ _ _ _ cap0 a0 T7 hcap0 Yt hsp0 hh =>
       have hm:=hh xs I
       have KC:((zR len l).map (zP k')).length=Nat.min l.length len:=by rw[List.length_map,zU]; exact Nat.min_comm _ _
       have zbp:min len (zS l)=Nat.min l.length len:=Nat.min_comm _ _
       by_cases h0:min len (zS l)=0
       ·-- nothing goes over
        have jR:=run_copy_none (P:=c.P) O.w t t' ty et a0 a len cap0 l.length cap hue z2h (by rw[<- zbp]; exact h0)
        have UQ:yx off len xs l=xs:=by
         unfold yx
         have ht:zR len l=[]:=zM (by rw[zU]; exact h0)
         rw[ht,h0,List.append_nil,xH,List.take_append_drop]
        have og:O.st.set b (.arr vp (.int k') (yx off len xs l))=O.st:=by
         rw[UQ]
         obtain⟨wO,hge⟩:=zA.1 I
         rw[<- hge,List.set_getElem_self]
        rw[og]
        refine⟨O,.value (goInt 0),goInt 0,by simp[jR],.inl rfl,rfl,hI,Ext.refl O,λd' eE => ?_⟩
        cases eE
        rw[h0]
        exact RD.int
       ·obtain⟨hle,hm⟩:=hm
        rcases hm with⟨hz,_⟩ | ⟨blk,n,o,zsZ,hp,hv,T9,hc2,hc3⟩
        ·omega
        ·cases hv
         have ho:o=off:=by
          rcases hc3 with h | h
          ·omega
          ·simpa[Ty.size]using h
         subst ho
         have hl0:l≠[]:=λh=>h0 (by rw[h]; simp)
         obtain⟨p,rfl⟩:∃ p,a=some p:=by
          cases a with
          | none=>grind
          | some p=>simp
         rcases g2 p rfl with⟨h,_⟩ | ⟨Va,_,hc⟩
         ·grind
         obtain⟨pb,po,psp⟩:=p
         simp only at Va
         subst Va
         obtain⟨_,z1O⟩:=hI.blk b _ I
         rcases z1O with⟨_,hpn⟩ | ⟨pS,n',V6,T,k1,k2,k3,k4,kr,g,k5⟩
         ·grind
         rw[hp]at k1
         cases k1
         have hn':zS xs<=V6.size:=by rw[k3]; simpa[Ty.size]using k4
         have eM:∀ (i:Nat) (hi:i<zS xs),V6[i]? = some (.int k' xs[i]):=by
          intro i hi
          obtain⟨q1,q2⟩:=k5 i hi
          have:=q2 0 (.int k' xs[i]) (by rw[q1.dX]; rfl)
          simpa[Ty.size]using this
         have zpn:((zR len l).map (zP k')).length<=len:=by simp; omega
         have jR:=run_copy_row c.P O.w t t' ty et blk o len cap0 ⟨pb,po,none⟩ l.length cap V6 T ((zR len l).map (zP k')) hue z2h k2 KC
          (λj w hj=>by
           have NW:j<(zR len l).length:=by have:=(zA.1 hj).1; simpa using this
           have hjl:j<l.length:=by simp at NW; omega
           have e1:w=.int k' l[j]:=by
            grind
           have:=hc j hjl 0 (.int k' l[j]) (by rw[(g1 j hjl).dX]; rfl)
           have zdg:(⟨pb,po,none⟩:Addr).add j=⟨pb,po+j,none⟩:=by unfold Addr.add; split<;>simp_all
           rw[zdg,e1]
           simpa[Ty.size]using this)
          (Z) (λw hw=>by obtain⟨_,_,rfl⟩:=qX.1 hw; rfl)
         have hlen:zS (yx o len xs l)=zS xs:=by
          simp only[yx,zK,zU,qK]
          omega
         have Yb:Alike (.arr vp (.int k') xs) (.arr vp (.int k') (yx o len xs l)):=⟨rfl,zE _,λ_=>hlen.symm⟩
         let mI:Array Value:=(V6.toList.take o++(zR len l).map (zP k')++V6.toList.drop (o+((zR len l).map (zP k')).length)).toArray
         have B1:mI.size=n:=by
          simp only[mI,zY,zK,zU,qK,qG,List.length_map]at *
          omega
         have zhM:∀ (i:Nat) (hi:i<zS (yx o len xs l)),mI[i]? = some (.int k' (yx o len xs l)[i]):=by
          intro i hi
          have h1:=Ud (cs:=V6.toList) (us:=(zR len l).map (zP k')) (o:=o) (n:=((zR len l).map (zP k')).length) rfl (by simp; simp at zpn; omega) i
          have e1:mI[i]? = (V6.toList.take o++(zR len l).map (zP k')++V6.toList.drop (o+((zR len l).map (zP k')).length))[i]? := by simp[mI]
          have hm2:(List.map (zP k') (zR len l)).length=min len (zS l):=qp
          rw[hm2]at h1 e1
          have e2:(yx o len xs l)[i]? = if i<o then xs[i]? else if i<o+min len (zS l)then(zR len l)[i-o]? else xs[i]? := by
           unfold yx
           have hto:(zR o xs).length=o:=by simp; omega
           by_cases q1:i<o
           ·rw[if_pos q1,qI,zG (Z),List.getElem?_take,if_pos q1]
           ·rw[if_neg q1,qI,qC (Z),hto]
            by_cases q2:i<o+min len (zS l)
            ·rw[if_pos q2,zG (by simp; omega)]
            ·rw[if_neg q2,qC (by simp; omega),List.getElem?_drop,zU]
             congr 1; omega
          have e3:(yx o len xs l)[i]? = some (yx o len xs l)[i]:=zN hi
          rw[e1,h1]
          rw[e2]at e3
          have hix:i<zS xs:=by rw[<- hlen]; exact hi
          split
          ·rename_i q1
           rw[if_pos q1,zN hix]at e3
           rw[zV,eM i hix,Option.some.inj e3]
          ·rename_i q1
           rw[if_neg q1]at e3
           split
           ·rename_i q2
            rw[if_pos q2]at e3
            rw[qR,e3]
            rfl
           ·rename_i q2
            rw[if_neg q2,zN hix]at e3
            rw[zV,eM i hix,Option.some.inj e3]
         refine⟨O.upd b blk mI (.arr vp (.int k') (yx o len xs l)),.value (goInt (((zR len l).map (zP k')).length:Nat)),goInt (((zR len l).map (zP k')).length:Nat),(by rw[zH,jR]; rfl),.inl rfl,rfl,JG hI hp I Yb ?_,JF hI hp I Yb,λd' eE => ?_⟩
         ·refine⟨by simp[Ty.size],.inr ⟨blk,n,mI,T,hp,setRow_heap O.w blk V6 mI T (0,0) k2,B1,by simp[Ty.size]; omega,kr,λi=>[.int k' ((yx o len xs l).getD i 0)],λi hi => ?_⟩⟩
          have hg:(yx o len xs l).getD i 0=(yx o len xs l)[i]:=by simp[List.getD_eq_getElem?_getD,zN hi]
          show Rc _ _ (.int k') _ [zP k' ((yx o len xs l).getD i 0)]/\∀ (j:Nat) (v:Value),[zP k' ((yx o len xs l).getD i 0)][j]? = some v->_
          rw[hg]
          refine⟨.int k' _,λj w hj => ?_⟩
          cases j with
          | zero =>
           simp at hj
           subst hj
           simpa[Ty.size]using zhM i hi
          | succ j=>simp at hj
         ·cases eE
          rw[zbp,<- KC]
          exact RD.int
      ·exact X.elim
     ·exact X.elim
    ·exact X.elim
  ·exact absurd h zj
 ·exact absurd h zj
end
end Go.AM
namespace Go.AM
set_option linter.unusedSectionVars false
variable [gp]
def gH(P:Program)(g:Nat)(args:Array Value)(w:World)(hl:Ending->World->Prop):Prop :=
 ((callFunc g args).run P w=.ok (.enter g args) w/\Calls P g args w hl)\/∃ v w',(callFunc g args).run P w=.ok (.value v) w'/\hl (.returned v) w'
theorem gH.mono{P:Program}{g:Nat}{args:Array Value}{w:World}{hl R':Ending->World->Prop}(h:gH P g args w hl)(hr:∀ e w,hl e w->R' e w):gH P g args w R':=by
 rcases h with⟨h1,X⟩ | ⟨v,w',h1,X⟩
 ·exact .inl ⟨h1,X.mono hr⟩
 ·exact .inr ⟨v,w',h1,hr _ _ X⟩
def jo(O:KS):HM->Ending->Prop
 | .ret ds,e=>∃ v,e=.returned v/\RD O (eW ds) v
 | .bh d,e=>∃ v,e=.panicked [{ v,recovered:=false }]/\RD O d v
abbrev z0t:=Nat->Array Value->World->(Ending->World->Prop)->Prop
def znY(Dr:z0t)(g:Nat)(S:List D->St->T (HM×St)):Prop :=
 ∀ (O:KS) (args:List D) (xc:List Value) (rs:HM) (qt:St),(S args O.st).leads (rs,qt)->Inv O->wQ O args xc ->
  Dr g xc.toArray O.w λe w'=>∃ E:KS,E.w=w'/\E.st=qt/\Inv E/\Ext O E/\jo E rs e
def Es(P:Program)(g:Nat)(S:List D->St->T (HM×St)):Prop :=
 ∀ (O:KS) (args:List D) (xc:List Value) (rs:HM) (qt:St),(S args O.st).leads (rs,qt)->Inv O->wQ O args xc ->
  gH P g xc.toArray O.w λe w'=>∃ E:KS,E.w=w'/\E.st=qt/\Inv E/\Ext O E/\jo E rs e
section
variable {c:Ctx} {O:KS}
theorem RD.weaken{KR:Nat->Prop}(hs:∀ k,O.ok k->KR k){d:D}{v:Value}(h:RD O d v):RD { O with ok:=KR } d v:=by
 have UQ:Lj O.w O.w O.ok KR:=λk hk=>⟨hs k hk,rfl⟩
 induction h with
 | qs τ y cs h=>exact .qs τ y cs (h.mono UQ)
 | sQ e l b v h ht hf=>exact .sQ e l b v (h.mono UQ) ht hf
 | vF e a=>exact .vF e a
 | tight e l ne blk off f ki ja h hc=>exact .tight e l ne blk off f ki (hs _ ja) (λi hi=>(h i hi).mono UQ) hc
 | wJ=>exact .wJ
 | gx=>exact .gx
 | ve=>exact .ve
 | gw=>exact .gw
 | uZ=>exact .uZ
 | Vv v h=>exact .Vv v h
 | nh T=>exact .nh T
 | nG b T d J=>exact .nG b T d J
 | nH b T blk n d J h=>exact .nH b T blk n d J h
 | yR b blk n d J h=>exact .yR b blk n d J h
 | ptr b off blk n d J h=>exact .ptr b off blk n d J h
 | vH τ y cs blk off ja h hc=>exact .vH τ y cs blk off (hs _ ja) (h.mono UQ) hc
 | gP b vp e idx off blk o I h=>exact .gP b vp e idx off blk o I h
 | ms b vp e off len cap a I js ha Va h=>exact .ms b vp e off len cap a I js ha Va h
 | wo f l vs R h ih=>exact .wo f l vs R ih
 | agg l vs R ho h ih=>exact .agg l vs R ho ih
 | eO l vs R h ih=>exact .eO l vs R ih
 | iface t d v h ih=>exact .iface t d v ih
theorem RD.free{E:KS}(hw:E.w=O.w)(ja:E.ok=O.ok)(ud:O.st=[]){d:D}{v:Value}(h:RD O d v):RD E d v:=by
 obtain⟨w',KR,ph',qt⟩:=E
 subst hw ja
 induction h with
 | qs τ y cs h=>exact .qs τ y cs h
 | sQ e l b v h ht hf=>exact .sQ e l b v h ht hf
 | vF e a=>exact .vF e a
 | tight e l ne blk off f ki ja h hc=>exact .tight e l ne blk off f ki ja h hc
 | wJ=>exact .wJ
 | gx=>exact .gx
 | ve=>exact .ve
 | gw=>exact .gw
 | uZ=>exact .uZ
 | Vv v h=>exact .Vv v h
 | nh T=>exact .nh T
 | nG b T d J=>grind
 | nH b T blk n d J h=>grind
 | yR b blk n d J h=>grind
 | ptr b off blk n d J h=>grind
 | vH τ y cs blk off ja h hc=>exact .vH τ y cs blk off ja h hc
 | gP b vp e idx off blk o I h=>rcases I with I | ⟨_,_,_,I,_⟩ <;> · rw[ud]at I; simp at I
 | ms b vp e off len cap a I js ha Va h=>rcases I with I | ⟨_,_,_,I,_⟩ <;> · rw[ud]at I; simp at I
 | wo f l vs R h ih=>exact .wo f l vs R ih
 | agg l vs R ho h ih=>exact .agg l vs R ho ih
 | eO l vs R h ih=>exact .eO l vs R ih
 | iface t d v h ih=>exact .iface t d v ih
theorem Rc.scalar{w w':World}{ok KR:Nat->Prop}{τ:Ty}{x:den τ}{cs:List Value}(h:Rc w ok τ x cs)(ht:τ.scalar=true):Rc w' KR τ x cs:=by
 induction h with
 | int k n=>exact .int k n
 | bool b=>exact .bool b
 | str s=>exact .str s
 | lK=>cases ht
 | sl=>cases ht
 | nil=>exact .nil
 | cons a b x y c1 c2 h1 X i1 i2=>simp only[Ty.scalar,zI]at ht; exact .cons a b x y c1 c2 (i1 ht.1) (i2 ht.2)
 | expr=>cases ht
theorem zf0{e:Ty}{ys:List (den e)}{v:Value}(h:Src O e ys v):Rc O.w (okS O) (.sl e) ys [v]:=by
 obtain⟨a,cap,f,rfl,js,hn,h1,X⟩:=h.ex
 cases a with
 | none=>obtain⟨rfl,rfl⟩:=hn rfl; exact .lK e none
 | some p =>
  rcases X p rfl with⟨rfl,rfl⟩ | ⟨hp,ja,hc⟩
  ·exact .lK e _
  obtain⟨blk,o,sp⟩:=p
  subst hp
  exact .sl e ys blk o cap f ja js (λi hi=>(h1 i hi).mono λk hk=>⟨.inl hk,rfl⟩) hc
def KS.all(O:KS):KS:={ O with ok:=okS O }
theorem RD.all{d:D}{v:Value}(h:RD O d v):RD O.all d v:=h.weaken λ_ hk=>.inl hk
theorem wQ.all{l:List D}{vs:List Value}(h:wQ O l vs):wQ O.all l vs:=⟨h.1,λi h1 X=>(h.2 i h1 X).all⟩
theorem Cs{x y:D}{v:Value}(hI:Inv O)(N:RD O x v)(h:(ZC O.st x).leads y):RD O.all y v/\(x.one=true->y.one=true)/\(x.bF=false->y.bF=false):=by
 rcases Uc hI N h with⟨rfl,_⟩ | ⟨e,ys,rfl,hs,_⟩
 ·exact⟨N.all,id,id⟩
 ·exact⟨RD.Zn rfl (zf0 hs),λ_=>rfl,λ_=>rfl⟩
theorem Cv(hI:Inv O):∀ {l r:List D} {vs:List Value},wQ O l vs->(∀ d∈l,d.one=true)->(Cu O.st l).leads r->wQ O.all r vs/\∀ d∈r,d.one=true
 | [],r,vs,h,_,hs=>by cases hs; rw[h.wj]; exact⟨.nil,nofun⟩
 | d::l,r,vs,h,ho,hs=>by
  simp only[Cu,T.xh]at hs
  obtain⟨x,N,l',R,rfl⟩:=hs
  obtain⟨v,us,rfl,h1,X⟩:=h.cons_inv
  obtain⟨g1,g2,_⟩:=Cs hI h1 N
  obtain⟨k1,k2⟩:=Cv hI X (λd J=>ho d (xC _ J)) R
  refine⟨.cons g1 k1,λd J => ?_⟩
  grind
theorem z4w{x y:D}{v:Value}(hI:Inv O)(N:RD O x v)(h:(snap O.st x).leads y):RD O.all y v:=by
 cases x with
 | agg l =>
  simp only[snap,T.xh]at h
  obtain⟨r,hr,rfl⟩:=h
  cases N with
  | agg _ vs R ho hh =>
   obtain⟨g1,g2⟩:=Cv hI (⟨R,hh⟩:wQ O l vs) ho hr
   exact .agg r vs g1.1 g2 g1.2
 | _=>exact(Cs hI N h).1
theorem Uy{τ:Ty}{d:D}{x:den τ}{v:Value}(hI:Inv O)(J:RD O d v)(h:(Ux O.st τ d).leads x):RD O.all (.qs τ x) v:=by
 simp only[Ux,T.xh,T.yA]at h
 obtain⟨y,h1,X⟩:=h
 exact mG (z4w hI J h1) X
theorem Ct{x y:D}(h:(ZC [] x).leads y):y=x:=by
 cases x with
 | ms=>simp[ZC,T.leads]at h
 | _=>exact h.symm
theorem Cx:∀ {l r:List D},(Cu [] l).leads r->r=l
 | [],_,h=>h.symm
 | d::l,r,h=>by
  simp only[Cu,T.xh]at h
  obtain⟨x,N,l',R,rfl⟩:=h
  rw[Ct N,Cx R]
theorem z4x{x y:D}(h:(snap [] x).leads y):y=x:=by
 cases x with
 | agg l =>
  simp only[snap,T.xh]at h
  obtain⟨r,hr,rfl⟩:=h
  rw[Cx hr]
 | _=>exact Ct h
theorem Fb{τ:Ty}{d:D}{x:den τ}{v:Value}(J:RD O d v)(h:(Ux [] τ d).leads x):RD O (.qs τ x) v:=by
 simp only[Ux,T.xh,T.yA]at h
 obtain⟨y,h1,X⟩:=h
 rw[z4x h1]at X
 exact mG J X
def Kv:D->Bool | .qs .. | .vH .. => true | _=>false
def NK:D->Bool
 | .wo _ l=>l.all Kv
 | d=>Kv d
theorem z6R{d:D}(h:Kv d=true):NK d=true:=by cases d<;>first | exact h | cases h
theorem G4{st:St}{τ:Ty}{d y:D}(h:(QN st τ d).leads y):Kv y=true:=by
 unfold QN at h
 split at h
 ·split at h
  ·cases h; rfl
  ·exact h.elim
 ·split at h
  ·split at h
   ·cases h; rfl
   ·exact h.elim
  ·exact h.elim
 ·exact h.elim
theorem BE{τ:Ty}{d y:D}{v:Value}(hI:Inv O)(J:RD O d v)(h:(QN O.st τ d).leads y):RD O.all y v:=by
 unfold QN at h
 split at h
 ·split at h
  ·rename_i x z hz
   cases h
   obtain⟨e,rfl⟩:=wk hz
   cases e
   exact J.all
  ·exact h.elim
 ·rename_i b off
  split at h
  ·rename_i d' I
   split at h
   ·rename_i z hz
    cases h
    cases ho:qL off 0 with
    | false=>grind
    | true =>
     have:=zF ho
     subst this
     obtain⟨blk,n,cs,t,g1,g2,g3,g4,g5⟩:=(hI.blk b _ I:kX O b d').cells (by cases d'<;>first | rfl | cases hz)
     cases J with
     | ptr _ _ pS n' d1 hd1 hp =>
      rw[g1]at hp
      cases hp
      have ja:okS O blk:=.inr ⟨b,n,g1⟩
      have ht:d'.bF=false:=by
       cases d' with
       | eO l=>simp[oQ,D.bF]at hz
       | _=>rfl
      have EA:=XV hz g4 g5.1 ht
      refine .vH τ z cs.toList blk 0 ja (EA.mono λk hk=>⟨.inl hk,rfl⟩) λj v hj => ?_
      show O.w.cell? _=_
      rw[WH g2,qE]
      grind
   ·exact h.elim
  ·exact h.elim
 ·exact h.elim
theorem BF{τ:Ty}{d y:D}{v:Value}(J:RD O d v)(h:(QN [] τ d).leads y):RD O y v:=by
 unfold QN at h
 split at h
 ·split at h
  ·rename_i x z hz
   cases h
   obtain⟨e,rfl⟩:=wk hz
   grind
  ·exact h.elim
 ·rename_i b off
  split at h
  ·grind
  ·exact h.elim
 ·exact h.elim
theorem F7{st:St}{p:JO}{d y:D}(h:(Xi st p d).leads y):Kv y=true:=by
 cases p with
 | rp τ=>exact G4 h
 | im τ=>simp only[Xi,T.xh]at h; obtain⟨x,_,rfl⟩:=h; rfl
theorem LK{p:JO}{d y:D}{v:Value}(hI:Inv O)(J:RD O d v)(h:(Xi O.st p d).leads y):RD O.all y v:=by
 cases p with
 | rp τ=>exact BE hI J h
 | im τ=>simp only[Xi,T.xh]at h; obtain⟨x,N,rfl⟩:=h; exact Uy hI J N
theorem LL{p:JO}{d y:D}{v:Value}(J:RD O d v)(h:(Xi [] p d).leads y):RD O y v:=by
 cases p with
 | rp τ=>exact BF J h
 | im τ=>simp only[Xi,T.xh]at h; obtain⟨x,N,rfl⟩:=h; exact Fb J N
theorem Uw{st:St}:∀ {ps:List JO} {ds r:List D},(mH st ps ds).leads r->∀ d∈r,Kv d=true
 | [],[],r,hs=>by cases hs; nofun
 | p::ps,d::ds,r,hs=>by
  simp only[mH,T.xh]at hs
  obtain⟨x,N,l,R,rfl⟩:=hs
  intro d' eE
  rcases xG.1 eE with rfl | eE
  ·exact F7 N
  ·exact Uw R d' eE
 | [],_::_,_,hs=>hs.elim
 | _::_,[],_,hs=>hs.elim
theorem Kt(hI:Inv O):∀ {ps:List JO} {ds r:List D} {vs:List Value},wQ O ds vs->(mH O.st ps ds).leads r->wQ O.all r vs
 | [],[],r,vs,h,hs=>by cases hs; rw[h.wj]; exact .nil
 | p::ps,d::ds,r,vs,h,hs=>by
  simp only[mH,T.xh]at hs
  obtain⟨x,N,l,R,rfl⟩:=hs
  obtain⟨v,us,rfl,h1,X⟩:=h.cons_inv
  exact .cons (LK hI h1 N) (Kt hI X R)
 | [],_::_,_,_,_,hs=>hs.elim
 | _::_,[],_,_,_,hs=>hs.elim
theorem Ku:∀ {ps:List JO} {ds r:List D} {vs:List Value},wQ O ds vs->(mH [] ps ds).leads r->wQ O r vs
 | [],[],r,vs,h,hs=>by cases hs; rw[h.wj]; exact .nil
 | p::ps,d::ds,r,vs,h,hs=>by
  simp only[mH,T.xh]at hs
  obtain⟨x,N,l,R,rfl⟩:=hs
  obtain⟨v,us,rfl,h1,X⟩:=h.cons_inv
  exact .cons (LL h1 N) (Ku X R)
 | [],_::_,_,_,_,hs=>hs.elim
 | _::_,[],_,_,_,hs=>hs.elim
theorem VD{st:St}{p:Ui}{d y:D}(h:(F8 st p d).leads y):(∃ τ x,p=.ty τ/\(Ux st τ d).leads x/\y=.qs τ x)\/(∃ τ,p=.rp τ/\(QN st τ d).leads y) \/
  ∃ f caps l l',p=.wo f caps/\d=.wo f l/\(mH st caps l).leads l'/\y=.wo f l':=by
 cases p with
 | ty τ =>
  have h':((Ux st τ d).bind λx=>T.ret (D.qs τ x)).leads y:=by cases d<;>exact h
  simp only[T.xh]at h'
  obtain⟨x,N,rfl⟩:=h'
  grind
 | rp τ=>exact .inr (.inl ⟨τ,rfl,by cases d<;>exact h⟩)
 | wo f caps =>
  cases d with
  | wo f' l =>
   simp only[F8]at h
   cases I:qL f f' with
   | false=>rw[I]at h; exact h.elim
   | true =>
    rw[I,cond_true,T.xh]at h
    obtain⟨l',R,rfl⟩:=h
    have:=zF I
    grind
  | _=>exact h.elim
theorem SN{st:St}{p:Ui}{d y:D}(h:(F8 st p d).leads y):NK y=true:=by
 rcases VD h with⟨τ,x,_,_,rfl⟩ | ⟨τ,_,h⟩ | ⟨f,caps,l,l',_,_,h',rfl⟩
 ·rfl
 ·exact z6R (G4 h)
 ·exact qU.2 (Uw h')
theorem z0W{p:Ui}{d y:D}{v:Value}(hI:Inv O)(J:RD O d v)(h:(F8 O.st p d).leads y):RD O.all y v:=by
 rcases VD h with⟨τ,x,_,N,rfl⟩ | ⟨τ,_,h⟩ | ⟨f,caps,l,l',_,rfl,h',rfl⟩
 ·exact Uy hI J N
 ·exact BE hI J h
 ·cases J with
  | wo _ _ vs R hh =>
   have:=Kt hI (⟨R,hh⟩:wQ O l vs) h'
   exact .wo f l' vs this.1 this.2
theorem z0X{p:Ui}{d y:D}{v:Value}(J:RD O d v)(h:(F8 [] p d).leads y):RD O y v:=by
 rcases VD h with⟨τ,x,_,N,rfl⟩ | ⟨τ,_,h⟩ | ⟨f,caps,l,l',_,rfl,h',rfl⟩
 ·exact Fb J N
 ·exact BF J h
 ·cases J with
  | wo _ _ vs R hh =>
   have:=Ku (⟨R,hh⟩:wQ O l vs) h'
   exact .wo f l' vs this.1 this.2
theorem VE{st:St}:∀ {ps:List Ui} {ds r:List D},(QM st ps ds).leads r->∀ d∈r,NK d=true
 | [],[],r,hs=>by cases hs; nofun
 | p::ps,d::ds,r,hs=>by
  simp only[QM,T.xh]at hs
  obtain⟨x,N,l,R,rfl⟩:=hs
  intro d' eE
  rcases xG.1 eE with rfl | eE
  ·exact SN N
  ·exact VE R d' eE
 | [],_::_,_,hs=>hs.elim
 | _::_,[],_,hs=>hs.elim
theorem BD(hI:Inv O):∀ {ps:List Ui} {ds r:List D} {vs:List Value},wQ O ds vs->(QM O.st ps ds).leads r->wQ O.all r vs
 | [],[],r,vs,h,hs=>by cases hs; rw[h.wj]; exact .nil
 | p::ps,d::ds,r,vs,h,hs=>by
  simp only[QM,T.xh]at hs
  obtain⟨x,N,l,R,rfl⟩:=hs
  obtain⟨v,us,rfl,h1,X⟩:=h.cons_inv
  exact .cons (z0W hI h1 N) (BD hI X R)
 | [],_::_,_,_,_,hs=>hs.elim
 | _::_,[],_,_,_,hs=>hs.elim
theorem JT:∀ {ps:List Ui} {ds r:List D} {vs:List Value},wQ O ds vs->(QM [] ps ds).leads r->wQ O r vs
 | [],[],r,vs,h,hs=>by cases hs; rw[h.wj]; exact .nil
 | p::ps,d::ds,r,vs,h,hs=>by
  simp only[QM,T.xh]at hs
  obtain⟨x,N,l,R,rfl⟩:=hs
  obtain⟨v,us,rfl,h1,X⟩:=h.cons_inv
  exact .cons (z0X h1 N) (JT X R)
 | [],_::_,_,_,hs,h=>h.elim
 | _::_,[],_,_,hs,h=>h.elim
def KS.bare(O:KS)(ok:Nat->Prop):KS:=⟨O.w,ok,[],[]⟩
theorem YV{ok:Nat->Prop}(hI:Inv O)(hs:∀ k,O.ok k->ok k)(h:∀ k,ok k->k<O.w.heap.size):Inv (O.bare ok) :=
 ⟨rfl,h,λb blk n h=>by simp[KS.bare]at h,λb b' blk n n' h=>by nofun,λb x h=>by simp[KS.bare]at h,hI.gl.mono λk hk=>⟨hs k hk,rfl⟩⟩
theorem ZP{ok:Nat->Prop}{d:D}{v:Value}(hi:Kv d=true)(h:RD { O with ok:=ok } d v):RD (O.bare ok) d v:=by
 cases d with
 | qs τ x=>obtain⟨cs,h1,rfl⟩:=RD.cY h; exact .qs τ x cs h1
 | vH τ x=>cases h with | vH _ _ cs blk off ja h hc=>exact .vH τ x cs blk off ja h hc
 | _=>cases hi
theorem BG{ok:Nat->Prop}{d:D}{v:Value}(hi:NK d=true)(h:RD { O with ok:=ok } d v):RD (O.bare ok) d v:=by
 cases d with
 | wo f l =>
  cases h with
  | wo _ _ vs R hh=>exact .wo f l vs R λi h1 X=>ZP (qU.1 hi _ (qA h1)) (hh i h1 X)
 | qs τ x=>exact ZP hi h
 | vH τ x=>exact ZP hi h
 | _=>cases hi
theorem EU{κ1:KS}{ok:Nat->Prop}(hI:Inv O)(Uk:Inv κ1)(ud:κ1.st=[])(N:Ext (O.bare ok) κ1)(KR:Nat->Prop)(h1:∀ k,O.ok k->KR k)(X:∀ k,KR k->O.ok k\/O.w.heap.size<=k)(h3:∀ k,KR k->k<κ1.w.heap.size) :
  Ext O { O with w:=κ1.w,ok:=KR }/\Inv { O with w:=κ1.w,ok:=KR }:=by
 have hfr:∀ k,k<O.w.heap.size->κ1.w.heap[k]? = O.w.heap[k]? := λk hk=>N.frame k hk λb n h=>by simp[KS.bare]at h
 have bR:O.w.heap.size<=κ1.w.heap.size:=N.size
 have he:Ext O { O with w:=κ1.w,ok:=KR }:=⟨N.os,N.tape,N.output,bR,λk hk=>⟨h1 k hk,hfr k (hI.bT k hk)⟩,λk hk=>(X k hk).elim .inl (λh=>.inr (.inl h)),λ_ _ _ h=>.inl h,λb d h=>⟨⟨d,h⟩,rfl⟩,
  λb v0 e xs h=>.inr ⟨v0,xs,h,zE _,λ_=>⟨rfl,rfl⟩⟩,λ_ h=>h,zE _,λk hk _=>hfr k hk⟩
 refine⟨he,hI.len,h3,λb blk n h => ?_,hI.inj,λb x h=>(hI.blk b x h).mono he rfl λblk n h=>hfr _ (hI.apart b blk n h).1,hI.gl.mono he.same⟩
 obtain⟨g1,g2⟩:=hI.apart b blk n h
 grind
theorem SL{g:Nat}{args:List D}{xc:List Value}{d:Option D}{qt:St}(hs:Es c.P g (c.fn g))(hI:Inv O)(ha:wQ O args xc)
  (h:(qx (match c.sig g args with | some s=>eH c g s args | none=>sV c g args) O.st).leads (d,qt)) :
  gH c.P g xc.toArray O.w λe w'=>∃ (E:KS) (v:Value),E.w=w'/\E.st=qt/\Inv E/\Ext O E/\e=.returned v/\∀ d',d=some d'->RD E d' v:=by
 split at h
 ·rename_i s Tg
  unfold eH at h
  cases hm:(!(args.any Kg))with
  | true =>
   rw[hm,cond_true,kV]at h
   obtain⟨h,rfl⟩:=h
   simp only[T.xh]at h
   obtain⟨l,R,⟨rs,dN⟩,hc,hr⟩:=h
   have fG:=JT ha R
   have I:wQ (O.bare O.ok) l xc:=⟨fG.1,λi h1 X=>BG (VE R _ (qA h1)) (fG.2 i h1 X)⟩
   refine(hs (O.bare O.ok) l xc rs dN hc (YV hI (λ_ h=>h) hI.bT) I).mono ?_
   rintro e w' ⟨κ1,rfl,ud,Uk,N,he⟩
   unfold z4n at hr
   split at hr
   ·rename_i ds heq
    cases heq
    cases hr
    obtain⟨v,rfl,hv⟩:=he
    obtain⟨hE,hI'⟩:=EU hI Uk ud N κ1.ok (λk hk=>(N.same k hk).1) (λk hk=>by
     rcases N.fresh k hk with h | h | ⟨b,n,h⟩
     ·exact .inl h
     ·exact .inr h
     ·simp[KS.bare]at h) Uk.bT
    exact⟨{ O with w:=κ1.w,ok:=κ1.ok },v,rfl,rfl,hI',hE,rfl,λd' eE=>by cases eE; exact RD.free (O:=κ1) (E:={ O with w:=κ1.w,ok:=κ1.ok }) rfl rfl ud hv⟩
   ·exact hr.elim
  | false =>
   rw[hm,cond_false,rT]at h
   obtain⟨h,rfl⟩:=h
   simp only[T.xh]at h
   obtain⟨l,R,⟨rs,dN⟩,hc,hr⟩:=h
   have fG:=BD hI ha R
   have I:wQ (O.bare (okS O)) l xc:=⟨fG.1,λi h1 X=>BG (VE R _ (qA h1)) (fG.2 i h1 X)⟩
   have wO:∀ k,okS O k->k<O.w.heap.size:=by
    rintro k (hk | ⟨b,n,hk⟩)
    ·exact hI.bT k hk
    ·exact(hI.apart b k n hk).1
   refine(hs (O.bare (okS O)) l xc rs dN hc (YV hI (λ_ h=>.inl h) wO) I).mono ?_
   rintro e w' ⟨κ1,rfl,ud,Uk,N,he⟩
   unfold WU at hr
   split at hr
   ·rename_i ds heq
    cases heq
    cases Q9:ds.all WX with
    | false=>rw[Q9]at hr; exact hr.elim
    | true =>
     rw[Q9,cond_true]at hr
     cases hr
     obtain⟨v,rfl,hv⟩:=he
     obtain⟨hE,hI'⟩:=EU hI Uk ud N O.ok (λk hk=>hk) (λk hk=>.inl hk) (λk hk=>qO (hI.bT k hk) N.size)
     refine⟨{ O with w:=κ1.w,ok:=O.ok },v,rfl,rfl,hI',hE,rfl,λd' eE => ?_⟩
     cases eE
     have one:∀ d u,WX d=true->RD κ1 d u->RD { O with w:=κ1.w,ok:=O.ok } d u:=by
      intro d u J hu
      cases d<;>simp[WX]at J
      obtain⟨cs,h1,rfl⟩:=RD.cY hu
      exact .qs _ _ cs (h1.scalar J)
     have B8:=qU.1 Q9
     unfold eW at hv ⊢
     split at hv
     ·exact one _ _ (B8 _ (qp)) hv
     ·rename_i ki
      cases hv with
      | eO _ vs R hh=>exact .eO ds vs R λi h1 X=>one _ _ (B8 _ (qA h1)) (hh i h1 X)
   ·exact hr.elim
 ·unfold sV at h
  simp only[qx,T.xh]at h
  obtain⟨⟨rs,dN⟩,hc,hr⟩:=h
  refine(hs O args xc rs dN hc hI ha).mono ?_
  rintro e w' ⟨κ1,rfl,ud,Uk,N,he⟩
  cases rs with
  | bh p=>exact hr.elim
  | ret ds =>
   cases hr
   obtain⟨v,rfl,hv⟩:=he
   exact⟨κ1,v,rfl,ud,Uk,N,rfl,λd' eE=>by cases eE; exact hv⟩
end
end Go.AM