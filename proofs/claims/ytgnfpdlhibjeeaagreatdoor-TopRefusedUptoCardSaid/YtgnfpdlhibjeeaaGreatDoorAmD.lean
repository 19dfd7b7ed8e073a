/-
  The abstract machine, part D: texts of our own, the same for each claim.
-/
import Derived.Test.YtgnfpdlhibjeeaaGreatDoorAmA
import Derived.Lib.LaidTab
import Derived.Shelf.Vars
import Derived.Test.YtgnfpdlhibjeeaaGreatDoorAmC
import Derived.OpenShut
import Derived.Test.YtgnfpdlhibjeeaaGreatDoorAmB
import Derived.Lib.LazyBuf
set_option linter.unusedVariables false
set_option linter.unusedSectionVars false
open Nat renaming eq_of_beq_eq_true -> zA, beq -> R, le_of_ble_eq_true -> zE, le_refl -> zJ, ble -> zM, blt -> zO, ble_eq -> zU, le_trans -> zV, zero_add -> qD, not_lt_zero -> qN, beq_refl -> qS
open List renaming getElem?_eq_some_iff -> Y, all_cons -> zF, getElem?_eq_getElem -> zG, mem_cons -> zH, mem_cons_of_mem -> zI, getElem?_append_left -> zK, mem_singleton -> zL, mem_append -> zN, all_eq_true -> zP, mem_cons_self -> zQ, append_nil -> zT, isEmpty_iff -> zW, range -> zX, eq_nil_of_length_eq_zero -> zY, length -> zZ, map_cons -> qI, cons_append -> qJ, length_cons -> qK
open Bool renaming and_eq_true -> I, not_eq_true' -> qF
open Go.Value renaming okWide -> zR, cells -> qH
open Go.DataW renaming TrodAll -> zS, LaidVars -> qP
open Array renaming getElem?_setIfInBounds -> qA, length_toList -> qB, getD_eq_getD_getElem? -> qC, getElem?_eq_some_iff -> qE, getElem?_toList -> qO
open Go.Cell renaming okWide -> qG
open Option renaming bind_eq_some_iff -> qL
open Sum renaming inr -> qM, inl -> qR
open Go.Lib renaming TabIs -> qQ
open Go.World renaming cell? -> qT
namespace Go.AM
def I2(k:IntKind)(zs:List Int)(o:Obj):Prop:=∃ t fr,o=.cells (zs.map λz=>Value.int k z).toArray t fr
def DM(k:IntKind)(o:Obj):Prop:=∃ m t fr,o=.cells #[.int k m] t fr
theorem z5c{P:Program}{w:World}{name:String}{k:IntKind}{zs:List Int}{g:Nat}(hg:P.globalNamed name=some g)(h:qQ P w name k zs) :
  g<w.heap.size/\∃ o,w.heap[g]? = some o/\I2 k zs o:=by
 unfold qQ World.var? at h
 rw[hg]at h
 simp at h
 split at h
 ·rename_i cs t fr ho
  cases h
  exact⟨(qE.1 ho).1,_,ho,t,fr,rfl⟩
 ·cases h
theorem zfr{P:Program}{w:World}{name:String}{k:IntKind}{zs:List Int}{g:Nat}(hg:P.globalNamed name=some g)(h:∃ o,w.heap[g]? = some o/\I2 k zs o):qQ P w name k zs:=by
 obtain⟨o,ho,t,fr,rfl⟩:=h
 unfold qQ World.var?
 grind
theorem TC{w:World}{k:IntKind}{g:Nat}(h:∃ o,w.heap[g]? = some o/\DM k o):∃ m,w.cell? ⟨g,0,none⟩=some (.int k m):=by
 obtain⟨o,ho,m,t,fr,rfl⟩:=h
 exact⟨m,by simp[qT,ho]⟩
theorem TD{P:Program}{w:World}{g:Nat}{t:TypeId}{zero:Array Value}{k:IntKind}
  (h:w.ShapedOpen P) (hg:g<P.globals.size)
  (h0:((begin P (λ_ _=>0) default).world.heap[g]?).bind Obj.row? = some (zero,t)) (hz:zero.size=1)
  (J:P.buildable t=true) (hc:P.cellTypes P.depth t=some [t]) (hu:P.underlying t=some (.int k)):g<w.heap.size/\∃ o,w.heap[g]? = some o/\DM k o:=by
 obtain⟨m,hm⟩:=Go.Proofs.cell_of_shapedOpen_int h hg h0 hz J hc hu
 obtain⟨cs,hh,hs,_⟩:=h.1 g zero t hg h0
 have B:cs.size=1:=hs.trans hz
 refine⟨(qE.1 hh).1,_,hh,m,t,(0,0),?_⟩
 have h1:w.cell? ⟨g,0,none⟩=some cs[0]:=by simp[qT,hh]
 have:cs = #[.int k m]:=by
  grind
 rw[this]
theorem TH{P:Program}{oE:World}{name:String}{k:IntKind}{zs:List Int}{rest:List (String×DataW Unit)}{ps:List MemPlace}{g:Nat}{t e:TypeId}{n:Nat}
  (hg:P.globalNamed name=some g) (Ou:(P.globals[g]?).map (·.type)=some t) (ht:P.underlying t=some (.array n e)) (he:P.underlying e=some (.int k)) (hce:P.cellsOf e=1) (hct:P.cellsOf t=n)
  (h:qP P oE ((name,Lib.tabData k zs)::rest) ps):g<oE.heap.size/\∃ o,oE.heap[g]? = some o/\I2 k zs o:=by
 obtain⟨g',t',cs,fuel,p,q,hg',ht',ziR,V,_,_⟩:=h
 refine z5c hg ?_
 obtain rfl:=Option.some.inj (hg.symm.trans hg')
 obtain rfl:=Option.some.inj (Ou.symm.trans ht')
 unfold qQ
 rw[ziR,<- Lib.cells_of_tab ht he hce hct V]
theorem C1{P:Program}{oE:World}{x:String×DataW Unit}{rest:List (String×DataW Unit)}{ps:List MemPlace}(h:qP P oE (x::rest) ps):∃ q,qP P oE rest q:=by
 obtain⟨g',t',cs,fuel,p,q,hg',ht',ziR,V,h1,_⟩:=h
 grind
open Go.RowKit
mutual
def bkE:Expr->Nat
 | .mk _ n s l=>1+((1+((zZ n.2.1+1)+((zZ n.2.2.1+1)+1)))+((zZ s+1)+((bkEs l+1)+1)))
def bkEs:List Expr->Nat
 | []=>0
 | e::r=>bkE e+bkEs r
end
def Wc{α:Type}(f:α->Nat):List α->Nat
 | []=>0
 | x::r=>f x+Wc f r
def bk:(τ:Ty)->den τ->Nat
 | .int _,_=>1
 | .bool,_=>1
 | .str,s=>zZ s+1
 | .sl e,l=>Wc (bk e) l+1
 | .nil,_=>1
 | .cons a b,x=>bk a x.1+bk b x.2
 | .expr,x=>bkE x
theorem Hu{α:Type}(l:List α):Wc (λ_=>1) l=l.length:=by induction l with | nil=>rfl | cons x r ih=>simp[Wc]; omega
theorem O5(l:List Expr):bkEs l=Wc (bk .expr) l:=by induction l with | nil=>rfl | cons x r ih=>simp[bkEs,Wc,ih,bk]
theorem z7e(x:Expr):bk Kz x.z1F=bk .expr x:=by
 cases x with | mk k n s l =>
 simp only[bk,Expr.z1F,bkE,O5,Expr.num,Expr.name,Expr.kids,Hu]
mutual
def wfE:Expr->Prop
 | .mk k n s l=>(IntKind.i64.min<=k/\k<=IntKind.i64.max)/\((True/\((∀ x∈n.2.1,IntKind.u32.min<=x/\x<=IntKind.u32.max)/\((∀ x∈n.2.2.1,IntKind.u32.min<=x/\x<=IntKind.u32.max)/\True)))/\(zZ s<=maxLen/\(wfEs l/\True)))
def wfEs:List Expr->Prop
 | []=>True
 | e::r=>wfE e/\wfEs r
end
def wf:(τ:Ty)->den τ->Prop
 | .int k,n=>k.min<=n/\n<=k.max
 | .bool,_=>True
 | .str,s=>zZ s<=maxLen
 | .sl e,l=>∀ x∈l,wf e x
 | .nil,_=>True
 | .cons a b,x=>wf a x.1/\wf b x.2
 | .expr,x=>wfE x
theorem Sq(l:List Expr):wfEs l↔∀ x∈l,wf .expr x:=by induction l with | nil=>simp[wfEs] | cons x r ih=>simp[wfEs,ih,wf]
theorem zaZ(x:Expr):wf Kz x.z1F↔wf .expr x:=by
 cases x with | mk k n s l=>simp only[wf,Expr.z1F,wfE,Sq,Expr.kind,Expr.num,Expr.name,Expr.kids]
structure SM(H:Type) where
 b:DataW H->Nat
 bs:List (DataW H)->Nat
 str:∀ s,b (.lit (.string s))=s.length+1
 bool:∀ x,b (.lit (.bool x))=1
 int:∀ k n,b (.lit (.int k n))=1
 nil:b .nil=1
 slice:∀ x y,b (.slice x y)=bs x+bs y+1
 agg:∀ x,b (.agg x)=bs x+1
 zero:bs []=0
 cons:∀ x r,bs (x::r)=b x+bs r
section
variable (P:Program) (xid:Nat)
def KT:Nat->List Field->Bool
 | _,[]=>true
 | o,f::r=>R f.offset o&&KT (o+P.cellsOf f.type) r
def Ky:Nat->List Field->Nat
 | o,[]=>o
 | o,f::r=>Ky (o+P.cellsOf f.type) r
def CK:Nat->Nat->Option Ty
 | 0,_=>none
 | n+1,t=>bif R t xid then some .expr else
  match P.underlying t with
  | some (.int k)=>some (.int k)
  | some .bool=>some .bool
  | some .string=>some .str
  | some (.slice e)=>match CK n e with | some a=>bif R (P.cellsOf e) a.size&&zO 0 a.size then some (.sl a)else none | none=>none
  | some (.struct fs)=>bif KT P 0 fs.toList&&R (Ky P 0 fs.toList) (P.cellsOf t)then p7 (fs.toList.map λf=>CK n f.type)else none
  | _=>none
def NG(m:Nat):Bool:=match P.underlying xid with
 | some (.struct fs)=>KT P 0 fs.toList&&R (Ky P 0 fs.toList) (P.cellsOf xid)&&decide (p7 (fs.toList.map λf=>CK P xid m f.type)=some Kz)
 | some _=>false
 | none=>true
end
section
variable {H:Type} {enc:TypeId×Value->H} {P:Program} {w:World} {xid m:Nat} (hl:SM H)
def YU(w:World)(hl:SM H)(τ:Ty)(cs:List Value)(k:Nat):Prop:=∃ x:den τ,Rc w (λk=>k<w.heap.size) τ x cs/\wf τ x/\bk τ x<=k
theorem KW{fuel:Nat}{cs:List Value}(ih:∀ n t τ cs d ps,CK P xid n t=some τ->DataW.trod enc P w 0 (λ_=>true) true fuel t cs=some (d,ps)->YU w hl τ cs (hl.b d)){n:Nat} :
  ∀ (fs:List Field) (o:Nat) (τ:Ty) (xs:List (DataW H×List MemPlace)),p7 (fs.map λf=>CK P xid n f.type)=some τ->KT P o fs=true->Ky P o fs=cs.length->xs.length=fs.length ->
   (∀ (i:Nat) (f:Field),fs[i]? = some f->DataW.trod enc P w 0 (λ_=>true) true fuel f.type ((cs.drop f.offset).take (P.cellsOf f.type))=xs[i]?)->YU w hl τ (cs.drop o) (hl.bs (xs.map (·.1))+1)
 | [],o,τ,xs,ht,_,he,B,_=>by
  cases ht
  simp only[Ky]at he
  obtain rfl:xs=[]:=zY B
  refine⟨(),?_,trivial,by simp[bk]⟩
  rw[he,List.drop_length]; exact .nil
 | f::r,o,τ,xs,ht,ho,he,B,U=>by
  cases xs with
  | nil=>simp at B
  | cons x xs =>
  simp only[KT,I]at ho
  have ho1:f.offset=o:=zA ho.1
  simp only[qI]at ht
  cases h1:CK P xid n f.type with
  | none=>rw[h1]at ht; cases ht
  | some a =>
   rw[h1]at ht
   simp only[p7]at ht
   cases X:p7 (r.map λf=>CK P xid n f.type)with
   | none=>grind
   | some b =>
    rw[X]at ht
    cases ht
    obtain⟨x1,p1,p2,p3⟩:=ih n f.type a _ x.1 x.2 h1 (by have:=U 0 f rfl; simpa using this)
    obtain⟨x2,q1,q2,q3⟩:=KW ih r (o+P.cellsOf f.type) b xs X ho.2 he (by simpa using B) (λi g hg=>by have:=U (i+1) g (by simpa using hg); simpa using this)
    refine⟨(x1,x2),?_,⟨p2,q2⟩,?_⟩
    ·have e:cs.drop o=(cs.drop o).take (P.cellsOf f.type)++cs.drop (o+P.cellsOf f.type):=by
      conv=>lhs; rw[<- List.take_append_drop (P.cellsOf f.type) (cs.drop o)]
      simp
     rw[e]
     rw[ho1]at p1
     exact .cons _ _ _ _ _ _ p1 q1
    ·simp only[bk,qI,hl.cons]; omega
theorem Cn{e:Ty}(k:Nat):∀ (n:Nat) (elems:List (DataW H×List MemPlace)) (g:Nat->List Value),elems.length=n->(∀ i,i<n->∃ d,elems[i]? = some d/\YU w hl e (g i) (hl.b d.1)) ->
  ∃ l:List (den e),l.length=n/\(∀ i (hi:i<l.length),Rc w (λk=>k<w.heap.size) e l[i] (g i))/\(∀ x∈l,wf e x)/\Wc (bk e) l<=hl.bs (elems.map (·.1))
 | 0,elems,g,B,_=>by
  exact⟨[],rfl,λi hi=>absurd hi (qN i),qw,by simp[Wc]⟩
 | n+1,elems,g,B,h=>by
  cases elems with
  | nil=>simp at B
  | cons y ys =>
   obtain⟨d,h1,x,X,h3,h4⟩:=h 0 (Z)
   simp at h1
   subst h1
   obtain⟨l,l1,l2,l3,l4⟩:=Cn k n ys (λi=>g (i+1)) (wa) λi hi=>by
    obtain⟨d,h1,X⟩:=h (i+1) (Z)
    exact⟨d,wa,X⟩
   refine⟨x::l,wa,λi hi => ?_,λz hz => ?_,?_⟩
   ·grind
   ·grind
   ·simp only[Wc,qI,hl.cons]; omega
theorem z0a(U:NG P xid m=true):∀ (fuel n t:Nat) (τ:Ty) (cs:List Value) (d:DataW H) (ps:List MemPlace),CK P xid n t=some τ->DataW.trod enc P w 0 (λ_=>true) true fuel t cs=some (d,ps)->YU w hl τ cs (hl.b d):=by
 intro fuel
 induction fuel with
 | zero=>nofun
 | succ fuel ih =>
  intro n t τ cs d ps ht h
  have struct:∀ (fs:Array Field) (k:Nat) (σ:Ty),P.underlying t=some (.struct fs)->(KT P 0 fs.toList&&R (Ky P 0 fs.toList) (P.cellsOf t))=true->p7 (fs.toList.map λf=>CK P xid k f.type)=some σ->YU w hl σ cs (hl.b d):=by
   intro fs k σ hu ho hc
   simp only[I]at ho
   obtain⟨xs,n',hn,V,B,hlx,Gr⟩:=DataW.trod_struct hu h
   cases hn
   cases V
   have:=KW hl (cs:=cs) (ih:=ih) fs.toList 0 σ xs hc ho.1 (by rw[zA ho.2,B]) (by simpa using hlx) (λi f hf=>Gr i f (by simpa using hf))
   rw[hl.agg]
   grind
  cases n with
  | zero=>cases ht
  | succ n =>
   unfold CK at ht
   cases J:R t xid with
   | true =>
    rw[J,cond_true]at ht
    cases ht
    have:=zA J
    subst this
    unfold NG at U
    split at U
    ·rename_i fs hu
     simp only[I,decide_eq_true_eq]at U
     obtain⟨x,h1,X,h3⟩:=struct fs m Kz hu (by simp[U.1.1,U.1.2]) U.2
     refine⟨Expr.MV x,.expr _ _ _ _ _ h1,?_,?_⟩
     ·exact(zaZ (Expr.MV x)).1 X
     ·rw[<- z7e (Expr.MV x)]; exact h3
    ·cases U
    ·rename_i hu
     rw[DataW.trod_step]at h
     simp[DataW.trodStep,hu]at h
   | false =>
    rw[J,cond_false]at ht
    split at ht
    ·rename_i k hu
     cases ht
     obtain⟨n',rfl,X,h3⟩:=DataW.trod_int hu h
     cases X
     simp only[Lit.wf,I,decide_eq_true_eq]at h3
     exact⟨n',.int k n',h3,by simp[bk,hl.int]⟩
    ·rename_i hu
     cases ht
     obtain⟨b,rfl,X⟩:=DataW.trod_bool hu h
     cases X
     exact⟨b,.bool b,trivial,by simp[bk,hl.bool]⟩
    ·rename_i hu
     cases ht
     obtain⟨s,rfl,X,h3⟩:=DataW.trod_string hu h
     cases X
     refine⟨s.data.toList,?_,?_,?_⟩
     ·have:s=⟨s.data.toList.toArray⟩:=by cases s; simp
      exact .str _
     ·simp only[wf,qB]; exact h3
     ·simp[bk,hl.str]
    ·rename_i e hu
     split at ht
     ·rename_i a ha
      cases hc:R (P.cellsOf e) a.size&&zO 0 a.size with
      | false=>grind
      | true =>
       rw[hc,cond_true]at ht
       cases ht
       simp only[I]at hc
       have cm:P.cellsOf e=a.size:=zA hc.1
       have V6:0<a.size:=zE hc.2
       rcases DataW.trod_slice hu h with⟨rfl,X⟩ | ⟨p,len,cap,elems,rest,n',hn,rfl,V,_,ju,_,hlen,hel,hre,_⟩
       ·cases X
        exact⟨[],.mf a none,by simp[wf],by simp[bk,Wc,hl.nil]⟩
       ·cases hn
        cases V
        by_cases h0:cap=0
        ·subst h0
         have:len=0:=Z
         subst this
         exact⟨[],.mf a (some p),by simp[wf],by simp[bk,Wc,hl.slice]⟩
        ·rw[cm]at hel hre
         have zdL:p.block<w.heap.size/\p.spot=none:=by
          have first:∃ x,(w.cells? 0 p a.size)=some x:=by
           by_cases B:len=0
           ·have:=(hre rfl).2 0 (Z)
            cases hcc:w.cells? 0 p a.size with
            | some x=>simp
            | none =>
             have e0:p.add ((0+0)*a.size)=p:=by simp[Addr.add]
             grind
           ·have:=hel 0 (Z)
            cases hcc:w.cells? 0 p a.size with
            | some x=>simp
            | none =>
             have e0:p.add (0*a.size)=p:=by simp[Addr.add]
             grind
          obtain⟨x,U⟩:=first
          refine⟨World.cells?_block U V6,?_⟩
          have X:=(World.cells?_some U).2
          have h3:=X.2 0 V6
          have e0:p.add 0=p:=rfl
          cases hs:p.spot with
          | none=>rfl
          | some q =>
           unfold qT at h3
           grind
         obtain⟨blk,off,sp⟩:=p
         obtain⟨z2j,V7⟩:=zdL
         subst V7
         have hg:∀ i,∃ c:List Value,i<len->∃ d,elems[i]? = some d/\YU w hl a c (hl.b d.1)/\w.cells? 0 ⟨blk,off+i*a.size,none⟩ a.size=some c:=by
          intro i
          by_cases hi:i<len
          ·have:=hel i hi
           rw[addr_add]at this
           cases hcc:w.cells? 0 ⟨blk,off+i*a.size,none⟩ a.size with
           | none =>
            grind
           | some c =>
            refine⟨c,λ_=>⟨elems[i]'(Z),qw,?_,rfl⟩⟩
            grind
          ·exact⟨[],λh=>absurd h hi⟩
         let g:Nat->List Value:=λi=>Classical.choose (hg i)
         have hg':∀ i,i<len->∃ d,elems[i]? = some d/\YU w hl a (g i) (hl.b d.1)/\w.cells? 0 ⟨blk,off+i*a.size,none⟩ a.size=some (g i):=λi hi=>Classical.choose_spec (hg i) hi
         obtain⟨l,l1,l2,l3,l4⟩:=Cn hl (w:=w) (e:=a) 0 len elems g hlen λi hi=>by
          grind
         refine⟨l,?_,l3,?_⟩
         ·have:=Rc.sl (w:=w) (ok:=λk=>k<w.heap.size) a l blk off cap g z2j (Z) l2 λi hi j v hj=>by
           obtain⟨d,_,_,h3⟩:=hg' i (Z)
           obtain⟨_,k2,k3⟩:=World.cells?_some h3
           have hjl:j<(g i).length:=(Y.1 hj).1
           have:=k3 j (Z)
           rw[addr_add,hj]at this
           exact this
          grind
         ·simp only[bk,hl.slice]; omega
     ·cases ht
    ·rename_i fs hu
     cases hc:KT P 0 fs.toList&&R (Ky P 0 fs.toList) (P.cellsOf t)with
     | false=>grind
     | true =>
      rw[hc,cond_true]at ht
      exact struct fs n τ hu hc ht
    ·cases ht
end
end Go.AM
namespace Go.AM
variable [gy]
open Go.RowKit Go.ChangeShapes
def Ge:List Ty->Type
 | []=>Unit
 | τ::r=>den τ×Ge r
def mkD:(τs:List Ty)->Ge τs->List D
 | [],_=>[]
 | τ::r,x=>.qj τ x.1::mkD r x.2
def wfL:(τs:List Ty)->Ge τs->Prop
 | [],_=>True
 | τ::r,x=>wf τ x.1/\wfL r x.2
def bkL:(τs:List Ty)->Ge τs->Nat
 | [],_=>0
 | τ::r,x=>bk τ x.1+bkL r x.2
def Jg(P:Program)(ts:List Nat):Bool:=ts.all λt=>P.readableRec t&&decide (t<P.types.size)
section
variable {H:Type} {enc:TypeId×Value->H} {P:Program} {xid m n:Nat} {w:World}
theorem zcT{t:Nat}{τ:Ty}{v:Value}{base:Nat}(ht:CK P xid n t=some τ)(U:NG P xid m=true)(h:zR P w .any base t v):pk τ v.cells.toList=v:=by
 cases n with
 | zero=>cases ht
 | succ n =>
  have agg:∀ fs:Array Field,P.underlying t=some (.struct fs)->τ.isAgg=true->pk τ v.cells.toList=v:=by
   intro fs hu ha
   unfold zR at h
   rw[hu]at h
   obtain⟨cs,rfl,_⟩:=h
   simp[pk,ha,qH]
  unfold CK at ht
  cases J:R t xid with
  | true =>
   rw[J,cond_true]at ht
   cases ht
   have:=zA J
   subst this
   unfold NG at U
   split at U
   ·rename_i fs hu; exact agg fs hu rfl
   ·cases U
   ·rename_i hu
    unfold zR at h
    rw[hu]at h
    simp[qG,Cell.ok,hu]at h
  | false =>
   rw[J,cond_false]at ht
   split at ht
   ·rename_i k hu
    cases ht
    unfold zR at h
    rw[hu]at h
    simp only[qG,hu,Cell.ok]at h
    split at h<;>simp_all [pk,Ty.isAgg,qH]
   ·rename_i hu
    cases ht
    unfold zR at h
    rw[hu]at h
    simp only[qG,hu,Cell.ok]at h
    split at h<;>simp_all [pk,Ty.isAgg,qH]
   ·rename_i hu
    cases ht
    unfold zR at h
    rw[hu]at h
    simp only[qG,hu,Cell.ok]at h
    split at h<;>simp_all [pk,Ty.isAgg,qH]
   ·rename_i e hu
    have h1:τ.isAgg=false:=by
     split at ht
     ·rename_i a ha
      cases hc:R (P.cellsOf e) a.size&&zO 0 a.size with
      | false=>grind
      | true=>rw[hc,cond_true]at ht; cases ht; rfl
     ·cases ht
    unfold zR at h
    rw[hu]at h
    simp only[qG,hu,Cell.ok]at h
    split at h<;>simp_all [pk,qH]
   ·rename_i fs hu
    refine agg fs hu ?_
    cases hc:KT P 0 fs.toList&&R (Ky P 0 fs.toList) (P.cellsOf t)with
    | false=>grind
    | true =>
     rw[hc,cond_true]at ht
     have key:∀ (l:List (Option Ty)),p7 l=some τ->τ.isAgg=true:=by
      intro l B
      cases l with
      | nil=>cases B; rfl
      | cons a r =>
       cases a with
       | none=>cases B
       | some a =>
        simp only[p7]at B
        cases X:p7 r with
        | none=>grind
        | some b=>rw[X]at B; cases B; rfl
     grind
   ·cases ht
theorem Iy(hl:SM H)(U:NG P xid m=true){base:Nat}:∀ (ts:List TypeId) (τs:List Ty) (vs:List Value) (ds:List (DataW H)) (ps:List MemPlace),ts.map (CK P xid n)=τs.map some ->
  zS enc P w 0 (λ_=>true) true ts vs ds ps->(∀ (j:Nat) t v,ts[j]? = some t->vs[j]? = some v->zR P w .any base t v) ->
  ∃ x:Ge τs,wP ⟨w,λk=>k<w.heap.size,[],[]⟩ (mkD τs x) vs/\wfL τs x/\bkL τs x<=hl.bs ds/\ds.length=τs.length
 | [],τs,vs,ds,ps,ht,h,_=>by
  cases τs with
  | cons=>cases ht
  | nil =>
   cases vs<;>cases ds<;>simp only[zS]at h
   exact⟨(),⟨rfl,λi h1=>absurd h1 (qN i)⟩,trivial,Nat.zero_le _,rfl⟩
 | t::ts,τs,vs,ds,ps,ht,h,hv=>by
  cases τs with
  | nil=>cases ht
  | cons τ τs =>
   simp at ht
   cases vs with
   | nil=>simp[zS]at h
   | cons v vs =>
    cases ds with
    | nil=>simp[zS]at h
    | cons d ds =>
     obtain⟨p,q,⟨fuel,h1⟩,X,_⟩:=h
     obtain⟨x,k1,k2,k3⟩:=z0a hl U fuel n t τ _ d p ht.1 h1
     obtain⟨y,g1,g2,g3,g4⟩:=Iy hl U ts τs vs ds q ht.2 X λj t v a b=>hv (j+1) t v (wa) (wa)
     refine⟨(x,y),⟨by simp only[mkD,qK]; rw[g1.1],λi h1 X => ?_⟩,⟨k2,g2⟩,?_,wa⟩
     ·cases i with
      | zero =>
       have:=RD.qj (O:=⟨w,λk=>k<w.heap.size,[],[]⟩) τ x _ k1
       rw[zcT ht.1 U (hv 0 t v rfl rfl)]at this
       exact this
      | succ i=>exact g1.2 i (by simpa[mkD]using h1) (wa)
     ·simp only[bkL,hl.cons]; omega
theorem BH(B:laidOutB P=true){oE W':World}(J:Below oE.heap.size oE W'):∀ (ts:List TypeId) (vs:List Value) (ds:List (DataW H)) (ps:List MemPlace),Jg P ts=true ->
  zS enc P oE 0 (λ_=>true) true ts vs ds ps->(∀ x∈ps,x.block<oE.heap.size)->zS enc P W' 0 (λb=>decide (b<oE.heap.size)) true ts vs ds ps
 | [],vs,ds,ps,_,h,_=>by cases vs<;>cases ds<;>simp_all [zS]
 | t::ts,vs,ds,ps,ht,h,wO=>by
  cases vs with
  | nil=>simp[zS]at h
  | cons v vs =>
   cases ds with
   | nil=>simp[zS]at h
   | cons d ds =>
    obtain⟨p,q,h1,X,rfl⟩:=h
    simp only[Jg,zF,I,decide_eq_true_eq]at ht
    exact⟨p,q,Below.trod B ht.1.1 ht.1.2 h1 J λx U=>wO x (wa),BH B J ts vs ds q (by simpa[Jg]using ht.2) X λx U=>wO x (wa),rfl⟩
end
theorem TI{H:Type}{enc:TypeId×Value->H}{P:Program}{f:Nat}{fn:Func}{S:List D->St->T (HK×St)}(hS:EC P f S)(hf:P.funcs[f]? = some fn)(hbd:fn.body.isNone=false) (hnm:(fn.name == "runtime.NumGoroutine")=false)
  (B:laidOutB P=true) (xid m n:Nat) (τs:List Ty) (hts:Jg P fn.params.toList=true) (hτ:fn.params.toList.map (CK P xid n)=τs.map some) (U:NG P xid m=true)
  {bt:TypeId} (hr:fn.resultTypes = #[bt]) (hbt:P.underlying bt=some .bool) {s:ChangeSpec} (hv:s.vars=[]) (hs:∀ ds:List (DataW H),ds.length=τs.length->s.fn H ds={ results:=[.lit (.bool true)],args:=ds })
  (hl:SM H) {lim:Nat} (law:∀ x:Ge τs,wfL τs x->bkL τs x<=lim->(S (mkD τs x) []).leads (.ret [.qj .bool true],[]))
  {fresh handsOn:Bool} {oE:World} {base:Nat} {args:Array Value} {ds gs:List (DataW H)} {before:List MemPlace}
  (hval:∀ (j:Nat) t v,fn.params[j]? = some t->args[j]? = some v->zR P oE .any base t v)
  (hW:DataW.Whole enc P fn.params.toList s.vars false oE args.toList ds gs before) (hk:hl.bs (ds++gs)<=lim) (hG:Vt oE λk=>k<oE.heap.size) :
  Calls P f args oE λe W'=>∃ v,e=.returned v/\s.post enc P fn false fresh handsOn false oE args v W':=by
 have hW':=hW
 obtain⟨p,q,hA,hV,rfl,hfz,hnd⟩:=hW
 rw[hv]at hV
 obtain⟨rfl,rfl⟩:=trodVars_none hV
 simp only[zT]at hk hW'
 obtain⟨x,h1,X,h3,h4⟩:=Iy (n:=n) hl U fn.params.toList τs args.toList ds p hτ hA λj t v a b=>hval j t v (wa) (wa)
 have hI:Inv ⟨oE,λk=>k<oE.heap.size,[],[]⟩ :=
  ⟨rfl,λk hk=>hk,λb blk n h=>wa,λb b' blk n n' h=>by simp at h,λb x h=>by simp at h,hG⟩
 have zbs:=hS ⟨oE,λk=>k<oE.heap.size,[],[]⟩ (mkD τs x) args.toList _ _ (law x X (zV h3 hk)) hI h1
 rw[Array.toArray_toList]at zbs
 have key:Calls P f args oE λe w'=>∃ E:KS,E.w=w'/\E.st=[]/\Inv E/\Ext ⟨oE,λk=>k<oE.heap.size,[],[]⟩ E/\jr E (.ret [.qj .bool true]) e:=by
  rcases zbs with⟨_,h⟩ | ⟨v,w',h,_⟩
  ·exact h
  ·have:=uW (args:=args) hf hnm hbd oE
   grind
 refine key.mono λe W' ⟨E,e1,_,_,e4,v,e5,e6⟩ => ?_
 subst e1
 have J:Below oE.heap.size oE E.w:=⟨e4.os,e4.tape,e4.output,e4.size,λk hk=>e4.frame k hk λb n h=>by simp at h⟩
 have hv':v=.bool true:=by
  obtain⟨cs,g1,g2⟩:=RD.du (show RD E (.qj .bool true) v from e6)
  rw[g1.cK]at g2
  exact g2
 subst hv'
 have wO:∀ x∈p,x.block<oE.heap.size:=λx U=>by simpa using hW'.lt x U
 refine⟨_,e5,ds,[],p,[],p,[],hW',?_,?_,?_,J.frame _,λh=>by cases h⟩
 ·rw[zT,hs ds h4,hr]
  exact trodAll_cons_mk (shut_bool hbt _) trodAll_mk0
 ·rw[zT,hs ds h4]
  exact BH B J _ _ _ _ hts hA wO
 ·rw[zT,hs ds h4,hv]
  rfl
end Go.AM
namespace Go.AM
def ED:List Ty->Type
 | []=>Unit
 | [τ]=>den τ
 | τ::σ::r=>den τ×ED (σ::r)
def JK.ty:JK->Ty | .rp τ=>τ | .im τ=>τ
def iE:List JK->Type
 | []=>Unit
 | [p]=>den p.ty
 | p::q::r=>den p.ty×iE (q::r)
def Ci:(p:JK)->den p.ty->D
 | .rp τ,x=>.vC τ x
 | .im τ,x=>.qj τ x
def Qh:(l:List JK)->iE l->List D
 | [],_=>[]
 | [p],x=>[Ci p x]
 | p::q::r,x=>Ci p x.1::Qh (q::r) x.2
def Fo:(l:List JK)->iE l
 | []=>()
 | [p]=>zb p.ty
 | p::q::r=>(zb p.ty,Fo (q::r))
inductive Sk where
 | im (τ:Ty) | row (b:Nat) (e:Ty) | op (b T:Nat) | un | nl
def my:List Sk->Type
 | []=>Unit
 | .im τ::r=>den τ×my r
 | .row _ _::r=>my r
 | .op _ _::r=>my r
 | .un::r=>my r
 | .nl::r=>my r
def Wq:(l:List Sk)->my l
 | []=>()
 | .im τ::r=>(zb τ,Wq r)
 | .row _ _::r=>Wq r
 | .op _ _::r=>Wq r
 | .un::r=>Wq r
 | .nl::r=>Wq r
inductive Mc where
 | im (τ:Ty) | rp (τ:Ty) | pt (b:Nat)
def ZW:List Mc->Type
 | []=>Unit
 | .im τ::r=>den τ×ZW r
 | .rp τ::r=>den τ×ZW r
 | .pt _::r=>ZW r
def Yu:(l:List Mc)->ZW l
 | []=>()
 | .im τ::r=>(zb τ,Yu r)
 | .rp τ::r=>(zb τ,Yu r)
 | .pt _::r=>Yu r
def Vd:(l:List Mc)->ZW l->List D
 | [],_=>[]
 | .im τ::r,x=>.qj τ x.1::Vd r x.2
 | .rp τ::r,x=>.vC τ x.1::Vd r x.2
 | .pt b::r,x=>.ptr b 0::Vd r x
inductive Dk where
 | qj (τ:Ty) | vC (τ:Ty) | sub (b:Nat) (e:Ty) | wi (f:Nat) (caps:List JK) | st (ks:List Sk) | mclo (f:Nat) (ms:List Mc) | mp | tc (e:Ty) | tight (e:Ty)
inductive Ck where
 | ptr (b off:Nat) | cur (b:Nat) (e:Ty) | wF | bq | vb | wi (f:Nat) (l:List (Nat×Nat)) | yY (b:Nat) | uX
inductive Bk where
 | var (k:Dk) | cvar (k:Ck) | arr (e:Ty) | dead
def Dk.den:Dk->Type
 | .qj τ=>AM.den τ
 | .vC τ=>AM.den τ
 | .sub _ _=>Nat×Nat
 | .wi _ caps=>iE caps
 | .st ks=>my ks
 | .mclo _ ms=>ZW ms
 | .mp=>List Int
 | .tc e=>List (AM.den e)×Bool
 | .tight e=>List (AM.den e)
def Dk.zb:(k:Dk)->k.den
 | .qj τ=>AM.zb τ
 | .vC τ=>AM.zb τ
 | .sub _ _=>(0,0)
 | .wi _ caps=>Fo caps
 | .st ks=>Wq ks
 | .mclo _ ms=>Yu ms
 | .mp=>[]
 | .tc _=>([],false)
 | .tight _=>[]
inductive It where
 | s (t:Nat) (k:Dk) | v (k:Dk) | a (e:Ty)
def It.den:It->Type
 | .s _ k=>k.den
 | .v k=>k.den
 | .a e=>List (AM.den e)
def It.zb:(i:It)->i.den
 | .s _ k=>k.zb
 | .v k=>k.zb
 | .a _=>[]
def jZ:List It->Type
 | []=>Unit
 | [i]=>i.den
 | i::j::r=>i.den×jZ (j::r)
def znE:dn->Nat
 | .arr v _ _=>v
 | _=>0
def jJ(st:St)(b:Nat):Nat:=match st[b]? with | some x=>znE x | none=>0
def jt(st:St):(l:List Sk)->my l->List D
 | [],_=>[]
 | .im τ::r,x=>AM.flat τ x.1++jt st r x.2
 | .row b e::r,x=>.ms b (jJ st b) e 0 (jJ st b)::jt st r x
 | .op b T::r,x=>.eS b T::jt st r x
 | .un::r,x=>.Vq::jt st r x
 | .nl::r,x=>.wF::jt st r x
def X9(st:St):(k:Dk)->k.den->D
 | .qj τ,x=>.qj τ x
 | .vC τ,x=>.vC τ x
 | .sub b e,x=>.ms b (jJ st b) e x.1 x.2
 | .wi f caps,x=>.wi f (Qh caps x)
 | .st ks,x=>.agg (jt st ks x)
 | .mclo f ms,x=>.wi f (Vd ms x)
 | .mp,x=>.Cm x
 | .tc e,x=>.tc e x.1 x.2
 | .tight e,x=>.tight e x false
def Im(st:St):Ck->D
 | .ptr b off=>.ptr b off
 | .cur b e=>.ms b (jJ st b) e 0 (jJ st b)
 | .wF=>.wF
 | .bq=>.bq
 | .vb=>.vb
 | .wi f l=>.wi f (l.map λp=>.ptr p.1 p.2)
 | .yY b=>.yY b
 | .uX=>.uX
def nR(st:St):(l:List It)->jZ l->Fr
 | [],_=>[]
 | [.s t k],x=>[(t,some (X9 st k x))]
 | [.v _],_=>[]
 | [.a _],_=>[]
 | .s t k::j::r,x=>(t,some (X9 st k x.1))::nR st (j::r) x.2
 | .v _::j::r,x=>nR st (j::r) x.2
 | .a _::j::r,x=>nR st (j::r) x.2
def za6(st:St)(l:List (Nat×Ck)):Fr:=l.map λp=>(p.1,some (Im st p.2))
inductive Bd where
 | v (k:Dk) (x:k.den) | a (e:Ty) (x:List (AM.den e))
def Zt:(l:List It)->jZ l->List Bd
 | [],_=>[]
 | [.s _ _],_=>[]
 | [.v k],x=>[.v k x]
 | [.a e],x=>[.a e x]
 | .s _ _::j::r,x=>Zt (j::r) x.2
 | .v k::j::r,x=>.v k x.1::Zt (j::r) x.2
 | .a e::j::r,x=>.a e x.1::Zt (j::r) x.2
def fZ:List Bk->List Bd->St
 | [],_=>[]
 | .arr _::r,.a e x::d=>.arr x.length e x::fZ r d
 | .var _::r,_::d=>.dead::fZ r d
 | .cvar _::r,d=>.dead::fZ r d
 | .dead::r,d=>.dead::fZ r d
 | _::_,_=>[]
def jN(st:St):List Bk->List Bd->St
 | [],_=>[]
 | .arr _::r,.a e x::d=>.arr x.length e x::jN st r d
 | .var _::r,.v k x::d=>.var (X9 st k x)::jN st r d
 | .cvar c::r,d=>.var (Im st c)::jN st r d
 | .dead::r,d=>.dead::jN st r d
 | _::_,_=>[]
def zqA(bs:List Bk)(d:List Bd):St:=jN (fZ bs d) bs d
structure ug where
 gv:List It
 cs:List (Nat×Ck)
 bs:List Bk
def ug.den(s:ug):Type:=jZ s.gv
def ug.st(s:ug)(x:s.den):St:=zqA s.bs (Zt s.gv x)
def ug.fr(s:ug)(x:s.den):Fr:=nR (s.st x) s.gv x++za6 (s.st x) s.cs
def Si:(p:JK)->D->Option (den p.ty)
 | .rp τ,d=>match d with | .vC _ x=>jX x | _=>none
 | .im τ,d=>pA τ d
def NB:(l:List JK)->List D->Option (iE l)
 | [],[]=>some ()
 | [p],[d]=>Si p d
 | p::q::r,d::ds=>(Si p d).bind λx=>(NB (q::r) ds).bind λy=>some (x,y)
 | _,_=>none
def mc(st:St)(b:Nat):Nat:=match st[b]? with | some (.arr _ _ xs)=>xs.length | _=>0
def z4z(st:St)(b T:Nat)(ds:List D):Option (List D):=match st[b]? with
 | some (.var _)=>match ds with
  | .nD T'::ds=>bif R T T' then some ds else none
  | .eS b' T'::ds=>bif R b b'&&R T T' then some ds else none
  | _=>none
 | _=>none
def zfz(ds:List D):Option (List D):=match ds with
 | d::ds=>bif d.one then some ds else none
 | _=>none
def zf0(ds:List D):Option (List D):=match ds with
 | .wF::ds=>some ds
 | _=>none
def pe(st:St):(l:List Sk)->List D->T (my l)
 | [],ds=>match ds with | []=>.ret () | _=>.fail
 | .im τ::r,ds=>match dm τ ds with | some p=>(pe st r p.2).bind λy=>.ret (p.1,y) | none=>.fail
 | .row b e::r,ds=>match ds with
  | .ms b' vn e' off len::ds=>bif R b b'&&decide (e=e')then .zl (zu vn off len (mc st b)) (pe st r ds)else .fail
  | _=>.fail
 | .op b T::r,ds=>match z4z st b T ds with | some q=>pe st r q | none=>.fail
 | .un::r,ds=>match zfz ds with | some q=>pe st r q | none=>.fail
 | .nl::r,ds=>match zf0 ds with | some q=>pe st r q | none=>.fail
def Y7:(l:List Mc)->List D->T (ZW l)
 | [],ds=>match ds with | []=>.ret () | _=>.fail
 | .im τ::r,ds=>match ds with
  | d::ds=>match pA τ d with | some y=>(Y7 r ds).bind λz=>.ret (y,z) | none=>.fail
  | _=>.fail
 | .rp τ::r,ds=>match ds with
  | .vC _ x::ds=>match(jX x:Option (AM.den τ))with | some y=>(Y7 r ds).bind λz=>.ret (y,z) | none=>.fail
  | _=>.fail
 | .pt b::r,ds=>match ds with
  | .ptr b' off::ds=>bif R b b'&&R off 0 then Y7 r ds else .fail
  | _=>.fail
def Xb(st:St):(k:Dk)->D->T k.den
 | .qj τ,d=>.GX (pA τ d)
 | .vC τ,d=>match d with | .vC _ x=>.GX (jX x) | _=>.fail
 | .sub b e,d=>match d with
  | .ms b' vn e' off len=>bif R b b'&&decide (e=e')then .zl (vn=jJ st b) (.ret (off,len))else .fail
  | _=>.fail
 | .wi f caps,d=>match d with
  | .wi f' l=>bif R f f' then .GX (NB caps l)else .fail
  | _=>.fail
 | .st ks,d=>bif d.db then pe st ks (xz d)else .fail
 | .mclo f ms,d=>match d with
  | .wi f' l=>bif R f f' then Y7 ms l else .fail
  | _=>.fail
 | .mp,d=>match d with | .Cm l=>.ret l | _=>.fail
 | .tc e,d=>match d with
  | .wF=>.ret ([],false)
  | .tc e' l b=>match(jX (a:=.sl e') (b:=.sl e) l:Option (List (AM.den e)))with | some l=>.ret (l,b) | none=>.fail
  | _=>.fail
 | .tight e,d=>match d with
  | .wF=>.ret []
  | .tight e' l _=>.GX (jX (a:=.sl e') (b:=.sl e) l)
  | _=>.fail
def U9:List (Nat×Nat)->List D->Bool
 | [],[]=>true
 | p::r,.ptr b off::ds=>R p.1 b&&R p.2 off&&U9 r ds
 | _,_=>false
def Jw(st:St):Ck->D->T Unit
 | .ptr b off,d=>match d with | .ptr b' off'=>bif R b b'&&R off off' then .ret ()else .fail | _=>.fail
 | .cur b e,d=>match d with
  | .ms b' vn e' off len=>bif R b b'&&decide (e=e')then .zl (zu vn off len (mc st b)) (.ret ())else .fail
  | _=>.fail
 | .wF,d=>match d with | .wF=>.ret () | _=>.fail
 | .bq,d=>match d with | .bq=>.ret () | _=>.fail
 | .vb,d=>match d with | .vb=>.ret () | _=>.fail
 | .wi f l,d=>match d with | .wi f' l'=>bif R f f'&&U9 l l' then .ret ()else .fail | _=>.fail
 | .yY b,d=>match d with | .yY b'=>bif R b b' then .ret ()else .fail | _=>.fail
 | .uX,d=>match d with | .uX=>.ret () | _=>.fail
def zaW(fr:Fr)(st:St):List (Nat×Ck)->T Unit
 | []=>.ret ()
 | p::r=>match fr.get p.1 with
  | some d=>(Jw st p.2 d).bind λ_=>zaW fr st r
  | none=>.fail
def z48(e:Ty)(b:dn):T (List (den e)):=match b with
 | .arr vn _ xs=>match(jX (a:=.sl _) (b:=.sl e) xs:Option (List (den e)))with
  | some ys=>.zl (vn=ys.length) (.ret ys)
  | none=>.fail
 | _=>.fail
def Dk.plain:Dk->Bool
 | .qj _=>true
 | .vC _=>true
 | .st _=>true
 | .mp=>true
 | _=>false
def z4b(st:St)(k:Dk)(b:dn):T k.den:=match b with
 | .var d=>bif k.plain then Xb st k d else .fail
 | _=>.fail
def MH:dn->Bool | .var _=>true | _=>false
def Bx(st:St):List Bk->List dn->T (List dn)
 | [],_=>.ret []
 | .arr _::r,b::bl=>(Bx st r bl).bind λl=>.ret (b::l)
 | .var _::r,b::bl=>(Bx st r bl).bind λl=>.ret (b::l)
 | .cvar c::r,.var d::bl=>(Jw st c d).bind λ_=>Bx st r bl
 | .dead::r,b::bl=>bif MH b then .fail else Bx st r bl
 | _,_=>.fail
def L9(fr:Fr)(st:St)(bl:List dn):(i:It)->T (i.den×List dn)
 | .s t k=>match fr.get t with | some d=>(Xb st k d).bind λx=>.ret (x,bl) | none=>.fail
 | .v k=>match bl with | b::r=>(z4b st k b).bind λx=>.ret (x,r) | []=>.fail
 | .a e=>match bl with | b::r=>(z48 e b).bind λx=>.ret (x,r) | []=>.fail
def Fs{α:Type}(x:α×List dn):T α:=match x.2 with | []=>.ret x.1 | _=>.fail
def CL(fr:Fr)(st:St):(l:List It)->List dn->T (jZ l)
 | [],bl=>Fs ((),bl)
 | [i],bl=>(L9 fr st bl i).bind Fs
 | i::j::r,bl=>(L9 fr st bl i).bind λx=>(CL fr st (j::r) x.2).bind λy=>.ret (x.1,y)
def rowAt(bs:List Bk)(b:Nat):Bool:=match bs[b]? with | some (.arr _)=>true | _=>false
def JC(bs:List Bk)(b:Nat):Bool:=match bs[b]? with | some (.var _)=>true | some (.cvar _)=>true | _=>false
def zat(bs:List Bk):Sk->Bool
 | .row b _=>rowAt bs b
 | .op b _=>JC bs b
 | _=>true
def znl(bs:List Bk):Mc->Bool
 | .pt b=>JC bs b
 | _=>true
def Iw(bs:List Bk):Dk->Bool
 | .mclo _ ms=>ms.all (znl bs)
 | .sub b _=>rowAt bs b
 | .st ks=>ks.all (zat bs)
 | _=>true
def z08(bs:List Bk):Ck->Bool
 | .ptr b _=>JC bs b
 | .cur b _=>rowAt bs b
 | .wi _ l=>l.all λp=>JC bs p.1
 | .yY b=>JC bs b
 | _=>true
def zrY(bs:List Bk):It->Bool
 | .s _ k=>Iw bs k
 | .v k=>Iw bs k
 | .a _=>true
def zrX(bs:List Bk):Bk->Bool
 | .cvar c=>z08 bs c
 | _=>true
def kinds:List It->List Bool
 | []=>[]
 | .s _ _::r=>kinds r
 | .v _::r=>false::kinds r
 | .a _::r=>true::kinds r
def fJ:List Bk->List Bool->Bool
 | [],[]=>true
 | .arr _::bs,b::r=>b&&fJ bs r
 | .var _::bs,b::r => !b&&fJ bs r
 | .cvar _::bs,l=>fJ bs l
 | .dead::bs,l=>fJ bs l
 | _,_=>false
def ug.ok(s:ug):Bool:=fJ s.bs (kinds s.gv)&&s.gv.all (zrY s.bs)&&s.cs.all (λp=>z08 s.bs p.2)&&s.bs.all (zrX s.bs)
def ug.un(s:ug)(fr:Fr)(st:St):T s.den :=
 bif s.ok&&(st.take s.bs.length).all (Da s.bs.length)then(zaW fr st s.cs).bind λ_=>(Bx st s.bs st).bind λbl=>CL fr st s.gv bl
 else .fail
structure Way where
 ex:Ex
 sh:ug
def iF:List Way->Type
 | []=>Empty
 | [w]=>w.sh.den
 | w::v::r=>w.sh.den⊕iF (v::r)
def Oi{α:Type}:(l:List Way)->iF l->(Ex->Fr->St->T α)->T α
 | [],x,_=>nomatch x
 | [w],x,k=>k w.ex (w.sh.fr x) (w.sh.st x)
 | w::v::r,x,k=>Sum.elim (λa=>k w.ex (w.sh.fr a) (w.sh.st a)) (λb=>Oi (v::r) b k) x
def W8:Ex->Ex->Bool
 | .normal,.normal=>true
 | .ret,.ret=>true
 | .exit a,.exit b=>R a b
 | .bC (.iface t _),.bC (.iface t' _)=>R t t'
 | _,_=>false
def B0:Ex->Fr->Fr
 | .bC (.iface _ d),_=>[(0,some d)]
 | _,fr=>fr
def Fw:Ex->Fr->Option (Ex×Fr)
 | .bC (.iface t _),fr=>match fr.get 0 with | some d=>some (.bC (.iface t d),[]) | none=>none
 | .bC _,_=>none
 | e,fr=>some (e,fr)
def DH:(l:List Way)->Ex->Fr->St->T (iF l)
 | [],_,_,_=>.fail
 | [w],ex,fr,st=>bif W8 w.ex ex then w.sh.un fr st else .fail
 | w::v::r,ex,fr,st=>bif W8 w.ex ex then(w.sh.un fr st).bind λx=>.ret (.inl x)else(DH (v::r) ex fr st).bind λy=>.ret (.inr y)
variable [gy] [BB]
section
variable {c:Ctx} {n:Nat}
theorem get_mem:∀ {l:Fr} {s:Nat} {d:D},l.get s=some d->(s,some d)∈l
 | [],s,d,h=>by cases h
 | (t,d')::r,s,d,h=>by
  simp only[Fr.get]at h
  cases ht:R t s with
  | true =>
   rw[ht,cond_true]at h
   rw[zA ht,h]
   simp
  | false=>rw[ht,cond_false]at h; exact zI _ (get_mem h)
theorem get_append{l m:Fr}{s:Nat}{d:D}(h:(l++m).get s=some d):(s,some d)∈l\/m.get s=some d:=by
 induction l with
 | nil=>grind
 | cons p r ih =>
  obtain⟨t,d'⟩:=p
  simp only[qJ,Fr.get]at h
  cases ht:R t s with
  | true=>rw[ht,cond_true]at h; rw[zA ht,h]; exact .inl zQ
  | false=>grind
structure Wk(O E:KS):Prop where
 w:E.w=O.w
 ok:E.ok=O.ok
 ph:E.ph=O.ph
 len:E.st.length=O.st.length
 var:∀ (b:Nat) (d:D),O.st[b]? = some (dn.var d)->∃ d',E.st[b]? = some (dn.var d')
 arr:∀ (b v:Nat) (e:Ty) (xs:List (den e)),O.st[b]? = some (dn.arr v e xs)->E.st[b]? = some (dn.arr v e xs)\/E.st[b]? = some dn.dead
 arr':∀ (b v:Nat) (e:Ty) (xs:List (den e)),E.st[b]? = some (dn.arr v e xs)->O.st[b]? = some (dn.arr v e xs)
 dead:∀ (b:Nat),O.st[b]? = some dn.dead->E.st[b]? = some dn.dead
theorem Wk.ext{O E:KS}(h:Wk O E):Ext O E:=by
 refine⟨by rw[h.w],by rw[h.w],by rw[h.w],by rw[h.w]; exact zJ _,λk hk=>⟨by rw[h.ok]; exact hk,by rw[h.w]⟩,λk hk=>.inl (by rw[<- h.ok]; exact hk),
  λb blk m J=>.inl (by rw[<- h.ph]; exact J),λb d V=>⟨h.var b d V,by rw[h.ph]⟩,λb v0 e xs J => ?_,h.dead,by rw[h.len]; exact zJ _,λk _ _=>by rw[h.w]⟩
 rcases h.arr b v0 e xs J with g | g
 ·exact .inr ⟨v0,xs,g,zJ _,λ_=>⟨by rw[h.ph],rfl⟩⟩
 ·grind
theorem Wk.rd{O E:KS}(h:Wk O E){d:D}{v:Value}(V:RD O d v):RD E d v:=V.mono h.ext
theorem Wk.inv{O E:KS}(h:Wk O E)(hI:Inv O)(hv:∀ (b:Nat) (d:D),E.st[b]? = some (dn.var d)->rC E b (.var d)):Inv E:=by
 refine⟨by rw[h.ph,h.len]; exact hI.len,λk hk=>by rw[h.w]; exact hI.cp k (by rw[<- h.ok]; exact hk),λb blk m J => ?_,λb b' blk m m' J Yi=>hI.inj b b' blk m m' (by rw[<- h.ph]; exact J) (by rw[<- h.ph]; exact Yi),λb x U => ?_,hI.gl.mono h.ext.same⟩
 ·obtain⟨g1,g2⟩:=hI.apart b blk m (by rw[<- h.ph]; exact J)
  exact⟨by rw[h.w]; exact g1,λhk=>g2 (by rw[<- h.ok]; exact hk)⟩
 ·cases x with
  | dead=>trivial
  | var d=>grind
  | arr v e xs=>exact(hI.blk b _ (h.arr' b v e xs U)).mono h.ext (by rw[h.ph]) λblk m _=>by rw[h.w]
theorem HD{p:JK}{d:D}{x:den p.ty}(h:Si p d=some x){O:KS}{v:Value}(V:RD O d v):RD O (Ci p x) v:=by
 cases p with
 | rp τ =>
  cases d<;>simp only[Si]at h<;>try (cases h; done)
  obtain⟨e,U⟩:=wh h
  cases e
  cases U
  exact V
 | im τ=>exact mZ V h
theorem Y6{O:KS}:∀ (l:List JK) (ds:List D) (x:iE l) (vs:List Value),NB l ds=some x->wP O ds vs->wP O (Qh l x) vs
 | [],[],x,vs,_,V=>by rw[V.wg]; exact .nil
 | [],_::_,_,_,h,_=>nomatch h
 | [p],[],_,_,h,_=>nomatch h
 | [p],[d],x,vs,h,V=>by
  obtain⟨v,us,rfl,h1,X⟩:=V.cons_inv
  rw[X.wg]
  exact .cons (HD h h1) .nil
 | [p],_::_::_,_,_,h,_=>nomatch h
 | p::q::r,[],_,_,h,_=>nomatch h
 | p::q::r,d::ds,x,vs,h,V=>by
  obtain⟨y,hy,h⟩:=qL.1 h
  obtain⟨z,hz,h⟩:=qL.1 h
  cases h
  obtain⟨v,us,rfl,h1,X⟩:=V.cons_inv
  exact .cons (HD hy h1) (Y6 (q::r) ds z us hz X)
theorem z11{O:KS}{d:D}{v:Value}(V:RD O d v)(ha:d.db=true):∃ c,v=.agg c:=by
 cases V with
 | qj τ x cs h=>exact⟨cs.toArray,by unfold pk; rw[show τ.isAgg=true from ha]; rfl⟩
 | agg l vs B ho h=>simp
 | _=>cases ha
theorem zau{O:KS}{b T:Nat}{ds q:List D}{vs:List Value}(V:wP O ds vs)(h:z4z O.st b T ds=some q):∃ v us,vs=v::us/\RD O (.eS b T) v/\wP O q us:=by
 unfold z4z at h
 split at h
 ·rename_i d0 hb0
  split at h
  ·rename_i T' ds
   cases J:R T T' with
   | false=>grind
   | true =>
    rw[J]at h
    cases h
    obtain⟨v,us,rfl,g1,g2⟩:=V.cons_inv
    exact⟨v,us,rfl,by cases g1; exact .nV b T d0 hb0,g2⟩
  ·rename_i b' T' ds
   cases J:R b b'&&R T T' with
   | false=>grind
   | true =>
    simp only[I]at J
    have e1:=zA J.1
    have e2:=zA J.2
    obtain⟨v,us,rfl,g1,g2⟩:=V.cons_inv
    grind
  ·cases h
 ·cases h
theorem MZ{st:St}{b T:Nat}{ds q:List D}(h:z4z st b T ds=some q):lV ds=some T:=by
 unfold z4z at h
 split at h
 ·split at h
  ·rename_i T' ds
   cases J:R T T' with
   | false=>grind
   | true=>rw[zA J]; rfl
  ·rename_i b' T' ds
   cases J:R b b'&&R T T' with
   | false=>grind
   | true =>
    simp only[I]at J
    rw[zA J.2]; rfl
  ·cases h
 ·cases h
theorem za9{O:KS}{ds q:List D}{vs:List Value}(V:wP O ds vs)(h:zf0 ds=some q):∃ v us,vs=v::us/\RD O .wF v/\wP O q us:=by
 unfold zf0 at h
 split at h
 ·cases h; exact V.cons_inv
 ·cases h
theorem zaX{O:KS}{ds q:List D}{vs:List Value}(V:wP O ds vs)(h:zfz ds=some q):∃ v us,vs=v::us/\RD O .Vq v/\wP O q us:=by
 unfold zfz at h
 split at h
 ·rename_i d ds
  cases J:d.one with
  | false=>grind
  | true =>
   rw[J]at h
   cases h
   obtain⟨v,us,rfl,g1,g2⟩:=V.cons_inv
   exact⟨v,us,rfl,.Vq v (g1.YH J),g2⟩
 ·cases h
theorem mV{O:KS}{qm:St}{bs:List Bk}(pI:∀ b,rowAt bs b=true->jJ qm b=mc O.st b):∀ (ks:List Sk) (ds:List D) (x:my ks) (vs:List Value),ks.all (zat bs)=true->(pe O.st ks ds).leads x->wP O ds vs ->
  wP O (jt qm ks x) vs/\∀ d∈jt qm ks x,d.one=true
 | [],ds,x,vs,_,h,V=>by
  cases ds with
  | nil=>exact⟨V,λd hm=>by cases hm⟩
  | cons d r=>exact h.elim
 | .im τ::r,ds,x,vs,ho,h,V=>by
  simp only[pe]at h
  split at h
  ·rename_i p hp
   obtain⟨y,h1,X⟩:=T.zh.1 h
   cases X
   obtain⟨c1,c2,rfl,g1,g2⟩:=WZ τ V hp
   simp only[zF,I]at ho
   obtain⟨k1,k2⟩:=mV pI r p.2 y c2 ho.2 h1 g2
   refine⟨(XC g1).append k1,λd hm => ?_⟩
   rcases zN.1 (show d∈flat τ p.1++jt qm r y from hm)with hm | hm
   ·exact se τ _ d hm
   ·grind
  ·exact h.elim
 | .row b e::r,ds,x,vs,ho,h,V=>by
  cases ds with
  | nil=>exact h.elim
  | cons d ds =>
   cases d<;>simp only[pe]at h<;>try (exact h.elim)
   rename_i b' vn e' off len
   cases J:R b b'&&decide (e=e')with
   | false=>rw[J]at h; exact h.elim
   | true =>
    rw[J,cond_true]at h
    simp only[I,decide_eq_true_eq]at J
    obtain⟨⟨h1,X,h3⟩,h⟩:=h
    have:=zA J.1
    obtain⟨-,rfl⟩:=J
    subst this
    obtain⟨v,us,rfl,g1,g2⟩:=V.cons_inv
    simp only[zF,I]at ho
    obtain⟨k1,k2⟩:=mV pI r ds x us ho.2 h g2
    have e1:jt qm (.row b e::r) x=.ms b vn e off len::jt qm r x:=by
     show D.ms b (jJ qm b) e 0 (jJ qm b)::_=_
     rw[pI b ho.1,h1,X,h3]
    rw[e1]
    refine⟨.cons g1 k1,λd hm => ?_⟩
    rcases zH.1 hm with rfl | hm
    ·rfl
    ·grind
 | .op b T::r,ds,x,vs,ho,h,V=>by
  simp only[zF,I]at ho
  simp only[pe]at h
  split at h
  ·rename_i q hq
   obtain⟨v,us,rfl,g0,g2⟩:=zau V hq
   obtain⟨k1,k2⟩:=mV pI r q x us ho.2 h g2
   refine⟨show wP O (D.eS b T::jt qm r x) (v::us)from .cons g0 k1,λd hm => ?_⟩
   rcases zH.1 (show d∈D.eS b T::jt qm r x from hm)with rfl | hm
   ·rfl
   ·grind
  ·exact h.elim
 | .un::r,ds,x,vs,ho,h,V=>by
  simp only[zF,I]at ho
  simp only[pe]at h
  split at h
  ·rename_i q hq
   obtain⟨v,us,rfl,g0,g2⟩:=zaX V hq
   obtain⟨k1,k2⟩:=mV pI r q x us ho.2 h g2
   refine⟨show wP O (D.Vq::jt qm r x) (v::us)from .cons g0 k1,λd hm => ?_⟩
   rcases zH.1 (show d∈D.Vq::jt qm r x from hm)with rfl | hm
   ·rfl
   ·grind
  ·exact h.elim
 | .nl::r,ds,x,vs,ho,h,V=>by
  simp only[zF,I]at ho
  simp only[pe]at h
  split at h
  ·rename_i q hq
   obtain⟨v,us,rfl,g0,g2⟩:=za9 V hq
   obtain⟨k1,k2⟩:=mV pI r q x us ho.2 h g2
   refine⟨show wP O (D.wF::jt qm r x) (v::us)from .cons g0 k1,λd hm => ?_⟩
   rcases zH.1 (show d∈D.wF::jt qm r x from hm)with rfl | hm
   ·rfl
   ·grind
  ·exact h.elim
theorem Zu{st qm:St}{bs:List Bk}(h:∀ b,rowAt bs b=true->jJ st b=jJ qm b):∀ (ks:List Sk) (x:my ks),ks.all (zat bs)=true->jt st ks x=jt qm ks x
 | [],_,_=>rfl
 | .im τ::r,x,ho=>by
  simp only[zF,I]at ho
  show flat τ x.1++jt st r x.2=flat τ x.1++jt qm r x.2
  rw[Zu h r x.2 ho.2]
 | .row b e::r,x,ho=>by
  simp only[zF,I]at ho
  show D.ms b (jJ st b) e 0 (jJ st b)::jt st r x=D.ms b (jJ qm b) e 0 (jJ qm b)::jt qm r x
  rw[Zu h r x ho.2,h b ho.1]
 | .op b T::r,x,ho=>by
  simp only[zF,I]at ho
  show D.eS b T::jt st r x=D.eS b T::jt qm r x
  rw[Zu h r x ho.2]
 | .un::r,x,ho=>by
  simp only[zF,I]at ho
  show D.Vq::jt st r x=D.Vq::jt qm r x
  rw[Zu h r x ho.2]
 | .nl::r,x,ho=>by
  simp only[zF,I]at ho
  show D.wF::jt st r x=D.wF::jt qm r x
  rw[Zu h r x ho.2]
theorem Gj:∀ (τ:Ty) (x:den τ),∀ y∈flat τ x,∃ σ z,y=.qj σ z:=by
 intro τ x y hy
 induction τ with
 | cons a b ia ib =>
  simp only[flat]at hy
  grind
 | nil=>simp[flat]at hy
 | expr=>simp[flat]at hy; rcases hy with rfl | rfl | rfl | rfl | rfl | rfl<;>exact⟨_,_,rfl⟩
 | _=>simp[flat]at hy; subst hy; exact⟨_,_,rfl⟩
theorem Eu:∀ (τ:Ty) {ds:List D} {p:den τ×List D},dm τ ds=some p->τ.size=0->p.2=ds:=by
 intro τ
 induction τ with
 | nil=>intro ds p h _; simp only[dm,Option.some.injEq]at h; subst h; rfl
 | cons a b ia ib =>
  intro ds p h hz
  simp only[Ty.size]at hz
  simp only[dm]at h
  grind
 | _=>nofun
theorem KL{st qm:St}{tt:Nat}:∀ (ks:List Sk) (ds:List D) (x:my ks),(pe st ks ds).leads x->lV (jt qm ks x)=some tt->lV ds=some tt
 | [],ds,x,h,ht=>by cases ht
 | .im τ::r,ds,x,h,ht=>by
  simp only[pe]at h
  split at h
  ·rename_i p hp
   obtain⟨y,h1,X⟩:=T.zh.1 h
   cases X
   have ht':lV (flat τ p.1++jt qm r y)=some tt:=ht
   cases hf:flat τ p.1 with
   | nil =>
    rw[hf]at ht'
    have hz:τ.size=0:=by rw[<- UK τ p.1,hf]; rfl
    have:=Eu τ hp hz
    rw[<- this]
    exact KL r p.2 y h1 ht'
   | cons z zs =>
    rw[hf]at ht'
    obtain⟨σ,w,e⟩:=Gj τ p.1 z (wa)
    rw[e]at ht'
    cases ht'
  ·exact h.elim
 | .row b e::r,ds,x,h,ht=>by cases ht
 | .op b T'::r,ds,x,h,ht=>by
  simp only[pe]at h
  split at h
  ·rename_i q hq
   cases ht
   exact MZ hq
  ·exact h.elim
 | .un::r,ds,x,h,ht=>by cases ht
 | .nl::r,ds,x,h,ht=>by cases ht
theorem Y5{d:D}{T:Nat}(ha:d.db=true)(h:lV (xz d)=some T):d.typed=some T:=by
 cases d with
 | qj τ x =>
  simp only[xz]at h
  cases hf:flat τ x with
  | nil=>rw[hf]at h; cases h
  | cons z zs =>
   obtain⟨σ,w,e⟩:=Gj τ x z (wa)
   rw[hf,e]at h
   cases h
 | agg l=>exact h
 | _=>cases ha
theorem Dq{m:Nat}(τ:Ty)(x:den τ):∀ d∈flat τ x,yn m d=true:=λd V=>by
 obtain⟨σ,z,rfl⟩:=Gj τ x d V
 rfl
theorem cD{m:Nat}{st:St}{bs:List Bk}(J:∀ b,rowAt bs b=true->b<m)(Tn:∀ b,JC bs b=true->b<m):∀ (ks:List Sk) (x:my ks),ks.all (zat bs)=true->∀ d∈jt st ks x,yn m d=true
 | [],_,_,d,V=>by cases V
 | .im τ::r,x,ho,d,V=>by
  simp only[zF,I]at ho
  rcases zN.1 (show d∈flat τ x.1++jt st r x.2 from V)with V | V
  ·exact Dq τ _ d V
  ·exact cD J Tn r x.2 ho.2 d V
 | .row b e::r,x,ho,d,V=>by
  simp only[zF,I]at ho
  rcases zH.1 (show d∈D.ms b (jJ st b) e 0 (jJ st b)::jt st r x from V)with rfl | V
  ·have:=J b ho.1
   simp only[yn,zO,zU]; exact this
  ·exact cD J Tn r x ho.2 d V
 | .op b T::r,x,ho,d,V=>by
  simp only[zF,I]at ho
  rcases zH.1 (show d∈D.eS b T::jt st r x from V)with rfl | V
  ·have:=Tn b ho.1
   simp only[yn,zO,zU]; exact this
  ·exact cD J Tn r x ho.2 d V
 | .un::r,x,ho,d,V=>by
  simp only[zF,I]at ho
  rcases zH.1 (show d∈D.Vq::jt st r x from V)with rfl | V
  ·rfl
  ·exact cD J Tn r x ho.2 d V
 | .nl::r,x,ho,d,V=>by
  simp only[zF,I]at ho
  rcases zH.1 (show d∈D.wF::jt st r x from V)with rfl | V
  ·rfl
  ·exact cD J Tn r x ho.2 d V
theorem WY{O:KS}:∀ (ms:List Mc) (ds:List D) (x:ZW ms) (vs:List Value),(Y7 ms ds).leads x->wP O ds vs->wP O (Vd ms x) vs
 | [],ds,x,vs,h,V=>by
  cases ds with
  | nil=>exact V
  | cons d r=>exact h.elim
 | .im τ::r,ds,x,vs,h,V=>by
  cases ds with
  | nil=>exact h.elim
  | cons d ds =>
   simp only[Y7]at h
   split at h
   ·rename_i y hy
    obtain⟨z,h1,X⟩:=T.zh.1 h
    cases X
    obtain⟨v,us,rfl,g1,g2⟩:=V.cons_inv
    exact .cons (mZ g1 hy) (WY r ds z us h1 g2)
   ·exact h.elim
 | .rp τ::r,ds,x,vs,h,V=>by
  cases ds with
  | nil=>exact h.elim
  | cons d ds =>
   cases d<;>simp only[Y7]at h<;>try (exact h.elim)
   split at h
   ·rename_i y hy
    obtain⟨e,U⟩:=wh hy
    cases e
    cases U
    obtain⟨z,h1,X⟩:=T.zh.1 h
    cases X
    obtain⟨v,us,rfl,g1,g2⟩:=V.cons_inv
    exact .cons g1 (WY r ds z us h1 g2)
   ·exact h.elim
 | .pt b::r,ds,x,vs,h,V=>by
  cases ds with
  | nil=>exact h.elim
  | cons d ds =>
   cases d<;>simp only[Y7]at h<;>try (exact h.elim)
   rename_i b' off
   cases J:R b b'&&R off 0 with
   | false=>rw[J]at h; exact h.elim
   | true =>
    rw[J]at h
    simp only[I]at J
    have e1:=zA J.1
    have e2:=zA J.2
    subst e1 e2
    obtain⟨v,us,rfl,g1,g2⟩:=V.cons_inv
    exact .cons g1 (WY r ds x us h g2)
theorem pJ{m:Nat}{bs:List Bk}(J:∀ b,JC bs b=true->b<m):∀ (ms:List Mc) (x:ZW ms),ms.all (znl bs)=true->∀ d∈Vd ms x,yn m d=true
 | [],_,_,d,V=>by cases V
 | .im τ::r,x,ho,d,V=>by
  simp only[zF,I]at ho
  rcases zH.1 (show d∈D.qj τ x.1::Vd r x.2 from V)with rfl | V
  ·rfl
  ·exact pJ J r x.2 ho.2 d V
 | .rp τ::r,x,ho,d,V=>by
  simp only[zF,I]at ho
  rcases zH.1 (show d∈D.vC τ x.1::Vd r x.2 from V)with rfl | V
  ·rfl
  ·exact pJ J r x.2 ho.2 d V
 | .pt b::r,x,ho,d,V=>by
  simp only[zF,I]at ho
  rcases zH.1 (show d∈D.ptr b 0::Vd r x from V)with rfl | V
  ·have:=J b ho.1
   simp only[yn,zO,zU]; exact this
  ·exact pJ J r x ho.2 d V
theorem Es{O E:KS}(hw:Wk O E){k:Dk}{d:D}{x:k.den}{v:Value}{bs:List Bk}(ja:Iw bs k=true)(pI:∀ b,rowAt bs b=true->jJ E.st b=jJ O.st b)
  {qm:St} (ud:∀ b,rowAt bs b=true->jJ qm b=jJ E.st b) (hlen:∀ b,rowAt bs b=true->jJ O.st b=mc O.st b) (h:(Xb O.st k d).leads x) (V:RD O d v):RD E (X9 qm k x) v:=by
 cases k with
 | mp=>cases d<;>first | exact h.elim | exact absurd V.z4f nofun
 | tc e =>
  cases d<;>simp only[Xb]at h<;>try (exact h.elim)
  ·split at h
   ·rename_i e' l b l' B
    cases h
    obtain⟨he,U⟩:=wh B
    cases he
    cases U
    exact hw.rd V
   ·exact h.elim
  ·cases h
   cases V
   exact .tc e [] false _ (.mf e none) nofun λ_=>rfl
 | tight e =>
  cases d<;>simp only[Xb]at h<;>try (exact h.elim)
  ·rename_i e' l ne
   obtain⟨he,U⟩:=wh (T.yH.1 h)
   cases he
   cases U
   cases hw.rd V with
   | vB e a=>exact .vB e a
   | tight e l ne blk off f ku ja h1 hc=>exact .tight e l false blk off f nofun ja h1 hc
  ·cases h
   cases V
   exact .vB e none
 | qj τ=>exact hw.rd (mZ V (T.yH.1 h))
 | vC τ =>
  cases d<;>simp only[Xb]at h<;>try (exact h.elim)
  obtain⟨e,U⟩:=wh (T.yH.1 h)
  cases e
  cases U
  exact hw.rd V
 | sub b e =>
  cases d<;>simp only[Xb]at h<;>try (exact h.elim)
  rename_i b' vn e' off len
  cases J:R b b'&&decide (e=e')with
  | false=>rw[J]at h; exact h.elim
  | true =>
   rw[J,cond_true]at h
   simp only[I,decide_eq_true_eq]at J
   obtain⟨hv,h⟩:=h
   cases h
   have:=zA J.1
   obtain⟨-,rfl⟩:=J
   subst this
   simp only[X9]
   rw[ud b ja,pI b ja,<- hv]
   exact hw.rd V
 | wi f caps =>
  cases d<;>simp only[Xb]at h<;>try (exact h.elim)
  rename_i f' l
  cases J:R f f' with
  | false=>rw[J]at h; exact h.elim
  | true =>
   rw[J,cond_true]at h
   have:=zA J
   subst this
   have U:=T.yH.1 h
   cases V with
   | wi _ _ vs B hh =>
    have:=Y6 caps l x vs U (⟨B,hh⟩:wP O l vs)
    exact hw.rd (.wi f _ vs this.1 this.2)
 | st ks =>
  simp only[Xb]at h
  cases ha:d.db with
  | false=>rw[ha]at h; exact h.elim
  | true =>
   rw[ha]at h
   have ht:d.bQ=false:=by cases d<;>first | rfl | (simp[D.db]at ha)
   obtain⟨g1,g2⟩:=mV (qm:=qm) (λb J=>(ud b J).trans ((pI b J).trans (hlen b J))) ks (xz d) x _ ja h (cR V ht)
   obtain⟨c,hc⟩:=z11 V ha
   subst hc
   have g1':wP O (jt qm ks x) c.toList:=g1
   have:=RD.agg (O:=O) _ c.toList g1'.1 g2 g1'.2
   exact hw.rd (show RD O (.agg (jt qm ks x)) (.agg c) by simpa using this)
 | mclo f ms =>
  cases d<;>simp only[Xb]at h<;>try (exact h.elim)
  rename_i f' l
  cases J:R f f' with
  | false=>rw[J]at h; exact h.elim
  | true =>
   rw[J]at h
   have:=zA J
   subst this
   cases V with
   | wi _ _ vs B hh =>
    have:=WY ms l x vs h (⟨B,hh⟩:wP O l vs)
    exact hw.rd (show RD O (.wi f (Vd ms x)) _ from .wi f _ vs this.1 this.2)
theorem Cu:∀ {l:List (Nat×Nat)} {ds:List D},U9 l ds=true->ds=l.map λp=>.ptr p.1 p.2
 | [],[],_=>rfl
 | [],_::_,h=>by simp[U9]at h
 | p::r,[],h=>by simp[U9]at h
 | p::r,d::ds,h=>by
  cases d<;>simp only[U9]at h<;>try (cases h; done)
  simp only[I]at h
  rw[Cu h.2,<- zA h.1.1,<- zA h.1.2]
  rfl
theorem zaV{st qm:St}{ck:Ck}{d:D}{bs:List Bk}(ja:z08 bs ck=true)(pI:∀ b,rowAt bs b=true->jJ qm b=mc st b)(h:(Jw st ck d).leads ()):Im qm ck=d:=by
 cases ck with
 | ptr b off =>
  cases d<;>simp only[Jw]at h<;>try (exact h.elim)
  rename_i b' off'
  cases J:R b b'&&R off off' with
  | false=>rw[J]at h; exact h.elim
  | true =>
   simp only[I]at J
   rw[<- zA J.1,<- zA J.2]
   rfl
 | cur b e =>
  cases d<;>simp only[Jw]at h<;>try (exact h.elim)
  rename_i b' vn e' off len
  cases J:R b b'&&decide (e=e')with
  | false=>rw[J]at h; exact h.elim
  | true =>
   rw[J,cond_true]at h
   simp only[I,decide_eq_true_eq]at J
   obtain⟨⟨h1,X,h3⟩,_⟩:=h
   have:=zA J.1
   obtain⟨-,rfl⟩:=J
   subst this
   simp only[Im]
   rw[pI b ja,h1,X,h3]
 | wF=>cases d<;>simp only[Jw]at h<;>first | rfl | exact h.elim
 | bq=>cases d<;>simp only[Jw]at h<;>first | rfl | exact h.elim
 | vb=>cases d<;>simp only[Jw]at h<;>first | rfl | exact h.elim
 | uX=>cases d<;>simp only[Jw]at h<;>first | rfl | exact h.elim
 | yY b =>
  cases d<;>simp only[Jw]at h<;>try (exact h.elim)
  rename_i b'
  cases J:R b b' with
  | false=>rw[J]at h; exact h.elim
  | true=>rw[<- zA J]; rfl
 | wi f l =>
  cases d<;>simp only[Jw]at h<;>try (exact h.elim)
  rename_i f' l'
  cases J:R f f'&&U9 l l' with
  | false=>rw[J]at h; exact h.elim
  | true =>
   simp only[I]at J
   rw[<- zA J.1,Cu J.2]
   rfl
theorem L8{fr:Fr}{st:St}:∀ {cs:List (Nat×Ck)},(zaW fr st cs).leads ()->∀ p∈cs,∃ d,fr.get p.1=some d/\(Jw st p.2 d).leads ()
 | [],_,p,hp=>by cases hp
 | q::r,h,p,hp=>by
  simp only[zaW]at h
  split at h
  ·rename_i d V
   simp only[T.xf]at h
   obtain⟨⟨⟩,h1,X⟩:=h
   rcases zH.1 hp with rfl | hp
   ·grind
   ·exact L8 X p hp
  ·exact h.elim
def SL(p:Dk->Bool)(st:St):List dn->List Bd->Prop
 | [],[]=>True
 | b::bl,.a e xs::r=>b=.arr xs.length e xs/\SL p st bl r
 | b::bl,.v k x::r=>(∃ d,b=.var d/\(k.plain=true/\p k=true)/\(Xb st k d).leads x)/\SL p st bl r
 | _,_=>False
theorem z4a{e:Ty}{b:dn}{x:List (den e)}(h:(z48 e b).leads x):b=.arr x.length e x:=by
 unfold z48 at h
 split at h
 ·split at h
  ·rename_i ys hy
   obtain⟨h1,X⟩:=h
   cases X
   obtain⟨he,U⟩:=wh hy
   grind
  ·exact h.elim
 ·exact h.elim
theorem z4c{st:St}{k:Dk}{b:dn}{x:k.den}(h:(z4b st k b).leads x):∃ d,b=.var d/\k.plain=true/\(Xb st k d).leads x:=by
 cases b with
 | var d =>
  simp only[z4b]at h
  cases hp:k.plain with
  | false=>rw[hp]at h; exact h.elim
  | true=>grind
 | _=>exact h.elim
def B1(st:St):(i:It)->i.den->Fr
 | .s t k,x=>[(t,some (X9 st k x))]
 | .v _,_=>[]
 | .a _,_=>[]
def z18:(i:It)->i.den->List Bd
 | .s _ _,_=>[]
 | .v k,x=>[.v k x]
 | .a e,x=>[.a e x]
theorem GQ(st:St)(i:It)(x:i.den):nR st [i] x=B1 st i x:=by cases i<;>rfl
theorem Kd(st:St)(i j:It)(r:List It)(x:i.den×jZ (j::r)):nR st (i::j::r) x=B1 st i x.1++nR st (j::r) x.2:=by cases i<;>rfl
theorem z43(i:It)(x:i.den):Zt [i] x=z18 i x:=by cases i<;>rfl
theorem z05(i j:It)(r:List It)(x:i.den×jZ (j::r)):Zt (i::j::r) x=z18 i x.1++Zt (j::r) x.2:=by cases i<;>rfl
def zge(fr:Fr)(st qm:St)(l:List It)(p:Nat×Option D):Prop:=∃ (k:Dk) (y:k.den) (d:D),(It.s p.1 k)∈l/\fr.get p.1=some d/\(Xb st k d).leads y/\p.2=some (X9 qm k y)
theorem Sj{p:Dk->Bool}{fr:Fr}{st qm:St}{bl:List dn}{i:It}{x:i.den×List dn}(hp:∀ k,i=.v k->p k=true)(h:(L9 fr st bl i).leads x) :
  (∀ bd,SL p st x.2 bd->SL p st bl (z18 i x.1++bd))/\∀ p∈B1 qm i x.1,zge fr st qm [i] p:=by
 cases i with
 | s t k =>
  simp only[L9]at h
  split at h
  ·rename_i d V
   rw[T.xf]at h
   obtain⟨y,h1,rfl⟩:=h
   refine⟨λbd J=>J,λp hp => ?_⟩
   simp only[B1,zL]at hp
   subst hp
   exact⟨k,y,d,qw,V,h1,rfl⟩
  ·exact h.elim
 | v k =>
  cases bl with
  | nil=>exact h.elim
  | cons b r =>
   simp only[L9]at h
   rw[T.xf]at h
   obtain⟨y,h1,rfl⟩:=h
   obtain⟨d,q1,q2,q3⟩:=z4c h1
   exact⟨λbd J=>⟨⟨d,q1,⟨q2,hp k rfl⟩,q3⟩,J⟩,λp hp=>by cases hp⟩
 | a e =>
  cases bl with
  | nil=>exact h.elim
  | cons b r =>
   simp only[L9]at h
   rw[T.xf]at h
   obtain⟨y,h1,rfl⟩:=h
   exact⟨λbd J=>⟨z4a h1,J⟩,λp hp=>by cases hp⟩
theorem Ft{α:Type}{x:α×List dn}{y:α}(h:(Fs x).leads y):x=(y,[]):=by
 obtain⟨a,bl⟩:=x
 cases bl with
 | nil=>cases h; rfl
 | cons=>exact h.elim
theorem Jy{p:Dk->Bool}{fr:Fr}{st qm:St}:∀ (l:List It) (bl:List dn) (x:jZ l),(∀ k,It.v k∈l->p k=true)->(CL fr st l bl).leads x ->
  SL p st bl (Zt l x)/\∀ p∈nR qm l x,zge fr st qm l p
 | [],bl,x,_,h=>by
  have h':(Fs ((),bl)).leads x:=h
  have:=Ft h'
  cases this
  exact⟨trivial,λp hp=>by cases hp⟩
 | [i],bl,x,hp,h=>by
  have h':((L9 fr st bl i).bind Fs).leads x:=h
  obtain⟨y,h1,X⟩:=T.zh.1 h'
  have:=Ft X
  subst this
  obtain⟨g1,g2⟩:=Sj (p:=p) (qm:=qm) (λk hk=>hp k (wa)) h1
  have e1:Zt [i] x=z18 i x:=z43 i x
  have e2:nR qm [i] x=B1 qm i x:=GQ qm i x
  have:=g1 [] trivial
  grind
 | i::j::r,bl,x,hp,h=>by
  have h':((L9 fr st bl i).bind λx=>(CL fr st (j::r) x.2).bind λy=>T.ret (x.1,y)).leads x:=h
  obtain⟨y,h1,X⟩:=T.zh.1 h'
  obtain⟨z,h3,h4⟩:=T.zh.1 X
  cases h4
  obtain⟨g1,g2⟩:=Sj (p:=p) (qm:=qm) (λk hk=>hp k (wa)) h1
  obtain⟨k1,k2⟩:=Jy (p:=p) (qm:=qm) (j::r) y.2 z (λk hk=>hp k (zI _ hk)) h3
  have e1:Zt (i::j::r) (y.1,z)=z18 i y.1++Zt (j::r) z:=z05 i j r (y.1,z)
  have e2:nR qm (i::j::r) (y.1,z)=B1 qm i y.1++nR qm (j::r) z:=Kd qm i j r (y.1,z)
  rw[e1,e2]
  refine⟨g1 _ k1,λp hp => ?_⟩
  rcases zN.1 hp with hp | hp
  ·obtain⟨k,w,d,q1,q2⟩:=g2 p hp
   exact⟨k,w,d,wa,q2⟩
  ·obtain⟨k,w,d,q1,q2⟩:=k2 p hp
   exact⟨k,w,d,zI _ q1,q2⟩
inductive BA(p:Dk->Bool)(st qm:St):Bk->dn->dn->Prop
 | arr (e e':Ty) (xs:List (den e)):BA p st qm (.arr e') (.arr xs.length e xs) (.arr xs.length e xs)
 | var (k k':Dk) (d:D) (x:k.den) (hp:k.plain=true/\p k=true) (h:(Xb st k d).leads x):BA p st qm (.var k') (.var d) (.var (X9 qm k x))
 | cvar (ck:Ck) (d:D) (h:(Jw st ck d).leads ()):BA p st qm (.cvar ck) (.var d) (.var (Im qm ck))
 | dead (b:dn) (h:MH b=false):BA p st qm .dead b .dead
def mX:List Bd->List Bool
 | []=>[]
 | .v _ _::r=>false::mX r
 | .a _ _::r=>true::mX r
theorem Qg:∀ (l:List It) (x:jZ l),mX (Zt l x)=kinds l
 | [],_=>rfl
 | [.s _ _],_=>rfl
 | [.v _],_=>rfl
 | [.a _],_=>rfl
 | .s _ _::j::r,x=>Qg (j::r) x.2
 | .v _::j::r,x=>congrArg (false :: ·) (Qg (j::r) x.2)
 | .a _::j::r,x=>congrArg (true :: ·) (Qg (j::r) x.2)
theorem Jv{p:Dk->Bool}{st st0:St}:∀ {bs:List Bk} {blocks bl:List dn} {bd:List Bd},(Bx st bs blocks).leads bl->SL p st bl bd->fJ bs (mX bd)=true ->
  (jN st0 bs bd).length=bs.length/\(∀ b,rowAt bs b=true->jJ (fZ bs bd) b=mc blocks b/\jJ (jN st0 bs bd) b=mc blocks b/\jJ blocks b=mc blocks b) /\
  ∀ (i:Nat) (k:Bk),bs[i]? = some k->∃ hl B',blocks[i]? = some hl/\(jN st0 bs bd)[i]? = some B'/\BA p st st0 k hl B'
 | [],blocks,bl,bd,h,J,ho=>by
  refine⟨by simp[jN],λb J=>by simp[rowAt]at J,λi k hk=>by simp at hk⟩
 | k::r,[],bl,bd,h,J,ho=>by cases k<;>exact h.elim
 | .arr e::r,b::blocks,bl,bd,h,J,ho=>by
  simp only[Bx,T.xf]at h
  obtain⟨l,h1,rfl⟩:=h
  cases bd with
  | nil=>exact J.elim
  | cons q bd =>
   cases q with
   | v k x=>simp[mX,fJ]at ho
   | a e' xs =>
    obtain⟨rfl,FK⟩:=J
    simp only[mX,fJ,Bool.true_and]at ho
    obtain⟨g1,g2,g3⟩:=Jv (st0:=st0) h1 FK ho
    refine⟨by simp[jN,g1],λb J => ?_,λi k hk => ?_⟩
    ·cases b with
     | zero=>simp[fZ,jN,jJ,znE,mc]
     | succ b=>have:=g2 b (by simpa[rowAt]using J); simpa[fZ,jN,jJ,mc]using this
    ·cases i with
     | zero=>simp at hk; subst hk; exact⟨_,_,rfl,rfl,.arr e' e xs⟩
     | succ i=>simpa[jN]using g3 i k (by simpa using hk)
 | .var k0::r,b::blocks,bl,bd,h,J,ho=>by
  simp only[Bx,T.xf]at h
  obtain⟨l,h1,rfl⟩:=h
  cases bd with
  | nil=>exact J.elim
  | cons q bd =>
   cases q with
   | a e' xs=>simp[mX,fJ]at ho
   | v k x =>
    obtain⟨⟨d,rfl,hp,V⟩,FK⟩:=J
    simp only[mX,fJ,Bool.not_false,Bool.true_and]at ho
    obtain⟨g1,g2,g3⟩:=Jv (st0:=st0) h1 FK ho
    refine⟨by simp[jN,g1],λb J => ?_,λi k hk => ?_⟩
    ·cases b with
     | zero=>simp[rowAt]at J
     | succ b=>have:=g2 b (by simpa[rowAt]using J); simpa[fZ,jN,jJ,mc]using this
    ·cases i with
     | zero=>simp at hk; subst hk; exact⟨_,_,rfl,rfl,.var k k0 d x hp V⟩
     | succ i=>simpa[jN]using g3 i k (by simpa using hk)
 | .cvar ck::r,b::blocks,bl,bd,h,J,ho=>by
  cases b with
  | var d =>
   simp only[Bx,T.xf]at h
   obtain⟨⟨⟩,h0,h1⟩:=h
   have ho':fJ r (mX bd)=true:=by cases bd<;>simpa[fJ]using ho
   obtain⟨g1,g2,g3⟩:=Jv (st0:=st0) h1 J ho'
   have e1:jN st0 (.cvar ck::r) bd=.var (Im st0 ck)::jN st0 r bd:=by cases bd<;>rfl
   have e0:fZ (.cvar ck::r) bd=.dead::fZ r bd:=by cases bd<;>rfl
   rw[e0,e1]
   refine⟨by simp[g1],λb J => ?_,λi k hk => ?_⟩
   ·cases b with
    | zero=>simp[rowAt]at J
    | succ b=>have:=g2 b (by simpa[rowAt]using J); simpa[jJ,mc]using this
   ·cases i with
    | zero=>simp at hk; subst hk; exact⟨_,_,rfl,rfl,.cvar ck d h0⟩
    | succ i=>grind
  | _=>exact h.elim
 | .dead::r,b::blocks,bl,bd,h,J,ho=>by
  simp only[Bx]at h
  cases hv:MH b with
  | true=>rw[hv]at h; exact h.elim
  | false =>
   rw[hv,cond_false]at h
   have ho':fJ r (mX bd)=true:=by cases bd<;>simpa[fJ]using ho
   obtain⟨g1,g2,g3⟩:=Jv (st0:=st0) h J ho'
   have e1:jN st0 (.dead::r) bd=.dead::jN st0 r bd:=by cases bd<;>rfl
   have e0:fZ (.dead::r) bd=.dead::fZ r bd:=by cases bd<;>rfl
   rw[e0,e1]
   refine⟨by simp[g1],λb J => ?_,λi k hk => ?_⟩
   ·cases b with
    | zero=>simp[rowAt]at J
    | succ b=>have:=g2 b (by simpa[rowAt]using J); simpa[jJ,mc]using this
   ·cases i with
    | zero=>simp at hk; subst hk; exact⟨_,_,rfl,rfl,.dead b hv⟩
    | succ i=>grind
inductive Refs(m:Nat):D->Prop
 | qj (τ:Ty) (x:AM.den τ):Refs m (.qj τ x)
 | tight (e:Ty) (l:List (AM.den e)) (ne:Bool):Refs m (.tight e l ne)
 | tc (e:Ty) (l:List (AM.den e)) (b:Bool):Refs m (.tc e l b)
 | wF:Refs m .wF
 | bq:Refs m .bq
 | vb:Refs m .vb
 | gC:Refs m .gC
 | uX:Refs m .uX
 | Vq:Refs m .Vq
 | nD (T:Nat):Refs m (.nD T)
 | eS (b T:Nat) (h:b<m):Refs m (.eS b T)
 | yY (b:Nat) (h:b<m):Refs m (.yY b)
 | ptr (b off:Nat) (h:b<m):Refs m (.ptr b off)
 | vC (τ:Ty) (x:AM.den τ):Refs m (.vC τ x)
 | gU (b vn:Nat) (e:Ty) (idx off:Nat) (h:b<m):Refs m (.gU b vn e idx off)
 | ms (b vn:Nat) (e:Ty) (off len:Nat) (h:b<m):Refs m (.ms b vn e off len)
 | wi (f:Nat) (l:List D) (h:∀ i (hi:i<l.length),Refs m l[i]):Refs m (.wi f l)
 | agg (l:List D) (h:∀ i (hi:i<l.length),Refs m l[i]):Refs m (.agg l)
 | fj (l:List D) (h:∀ i (hi:i<l.length),Refs m l[i]):Refs m (.fj l)
 | iface (t:Nat) (d:D) (h:Refs m d):Refs m (.iface t d)
theorem Refs.mono{m m':Nat}(hm:m<=m'){d:D}(h:Refs m d):Refs m' d:=by
 induction h with
 | ptr b off h=>exact .ptr b off (Z)
 | eS b T h=>exact .eS b T (Z)
 | yY b h=>exact .yY b (Z)
 | gU b vn e idx off h=>exact .gU b vn e idx off (Z)
 | ms b vn e off len h=>exact .ms b vn e off len (Z)
 | wi f l h ih=>exact .wi f l ih
 | agg l h ih=>exact .agg l ih
 | fj l h ih=>exact .fj l ih
 | iface t d h ih=>exact .iface t d ih
 | _=>constructor
theorem zaE{O:KS}{m:Nat}{d:D}{v:Value}(h:RD O d v)(hr:Refs m d):RD (O.cut m) d v:=by
 induction h with
 | qj τ y cs h=>exact .qj τ y cs h
 | tc e l b v h ht hf=>exact .tc e l b v h ht hf
 | vB e a=>exact .vB e a
 | tight e l ne blk off f ku ja h hc=>exact .tight e l ne blk off f ku ja h hc
 | wF=>exact .wF
 | bq=>exact .bq
 | vb=>exact .vb
 | gC=>exact .gC
 | uX=>exact .uX
 | Vq v h=>exact .Vq v h
 | nD T=>exact .nD T
 | nV b T d J=>cases hr with | eS _ _ wO=>exact nu (.nV b T d J) (by simp only[yn,zO,zU]; exact wO)
 | yY b blk n d J h=>cases hr with | yY _ wO=>exact nu (.yY b blk n d J h) (by simp only[yn,zO,zU]; exact wO)
 | nW b T blk n d J h=>cases hr with | eS _ _ wO=>exact nu (.nW b T blk n d J h) (by simp only[yn,zO,zU]; exact wO)
 | ptr b off blk n d J h=>cases hr with | ptr _ _ wO=>exact nu (.ptr b off blk n d J h) (by simp only[yn,zO,zU]; exact wO)
 | vC τ y cs blk off ja h hc=>exact .vC τ y cs blk off ja h hc
 | gU b vn e idx off blk o J h=>cases hr with | gU _ _ _ _ _ wO=>exact nu (.gU b vn e idx off blk o J h) (by simp only[yn,zO,zU]; exact wO)
 | ms b vn e off len cap a J ju ha V7 h=>cases hr with | ms _ _ _ _ _ wO=>exact nu (.ms b vn e off len cap a J ju ha V7 h) (by simp only[yn,zO,zU]; exact wO)
 | wi f l vs B h ih=>cases hr with | wi _ _ hh=>exact .wi f l vs B λi h1 X=>ih i h1 X (hh i h1)
 | agg l vs B ho h ih=>cases hr with | agg _ hh=>exact .agg l vs B ho λi h1 X=>ih i h1 X (hh i h1)
 | fj l vs B h ih=>cases hr with | fj _ hh=>exact .fj l vs B λi h1 X=>ih i h1 X (hh i h1)
 | iface t d v h ih=>cases hr with | iface _ _ hh=>exact .iface t d v (ih hh)
theorem G5{a b:Nat}(h:a<b):zO a b=true:=by
 simp; exact h
theorem z1t{O κe:KS}{m:Nat}(U:Ext O κe)(hm:O.st.length<=m):Ext O (κe.cut m):=by
 have wO:∀ b x,O.st[b]? = some x->b<m:=λb x h=>Nat.lt_of_lt_of_le (Y.1 h).1 hm
 have HO:∀ b,b<m->(κe.cut m).ph[b]? = κe.ph[b]? := λb J=>by simp only[KS.cut]; rw[List.getElem?_take,if_pos J]
 refine⟨U.os,U.tape,U.output,U.size,U.same,U.fresh,λb blk n h=>U.phs b blk n (lO h).1,λb d h => ?_,λb v0 e xs h => ?_,λb h=>xv (U.dead b h) (wO b _ h),?_,U.frame⟩
 ·obtain⟨⟨d',h1⟩,X⟩:=U.var b d h
  exact⟨⟨d',xv h1 (wO b _ h)⟩,(HO b (wO b _ h)).trans X⟩
 ·rcases U.arr b v0 e xs h with h1 | ⟨v1,x1,h1,X,h3⟩
  ·exact .inl (xv h1 (wO b _ h))
  ·exact .inr ⟨v1,x1,xv h1 (wO b _ h),X,λhe=>⟨(HO b (wO b _ h)).trans (h3 he).1,(h3 he).2⟩⟩
 ·have:=U.IW
  simp[KS.cut]; omega
theorem ug.Y8{κ0 O:KS}{fr:Fr}{a:Act}{sh:ug}{x:sh.den}(U:Ext κ0 O)(hI:Inv O)(hR:Rel O n fr.get a)(B:κ0.st.length<=sh.bs.length)(h:(sh.un fr O.st).leads x) :
  ∃ E:KS,E.w=O.w/\E.st=sh.st x/\Inv E/\Ext κ0 E/\Rel E n (sh.fr x).get a/\∀ (d:D) (v:Value),Refs sh.bs.length d->RD O d v->RD E d v:=by
 unfold ug.un at h
 cases hc:sh.ok&&(O.st.take sh.bs.length).all (Da sh.bs.length)with
 | false=>rw[hc]at h; exact h.elim
 | true =>
  rw[hc,cond_true]at h
  simp only[I,ug.ok,zP]at hc
  obtain⟨⟨⟨⟨zqk,zii⟩,Xc⟩,hbs⟩,Yz⟩:=hc
  obtain⟨⟨⟩,h1,h⟩:=T.zh.1 h
  obtain⟨bl,X,h3⟩:=T.zh.1 h
  have hIc:=z7l hI Yz
  -- the store cut
  let m:=sh.bs.length
  obtain⟨g1,g2⟩:=Jy (p:=Iw sh.bs) (qm:=sh.st x) sh.gv bl x (λk hk=>zii _ hk) h3
  obtain⟨k1,k2,k3⟩:=Jv (st0:=fZ sh.bs (Zt sh.gv x)) X g1 ((congrArg (fJ sh.bs) (Qg sh.gv x)).trans zqk)
  have ud:sh.st x=jN (fZ sh.bs (Zt sh.gv x)) sh.bs (Zt sh.gv x):=rfl
  rw[<- ud]at k1 k2 k3
  let E:KS:={ O.cut m with st:=sh.st x }
  have hm:m<=O.st.length:=by
   rcases Nat.eq_zero_or_pos m with h0 | h0
   ·omega
   ·obtain⟨hl,B',q1,_⟩:=k3 (m-1) (sh.bs[m-1]'(by show m-1<m; omega)) (qw)
    grind
  have zpM:∀ i hl,O.st[i]? = some hl->i<m->(O.cut m).st[i]? = some hl:=λi hl hB hi=>xv hB hi
  have Tp:(O.cut m).st.length=m:=by simp[KS.cut]; omega
  have pair:∀ i,i<m->∃ k hl B',sh.bs[i]? = some k/\(O.cut m).st[i]? = some hl/\E.st[i]? = some B'/\BA (Iw sh.bs) O.st (fZ sh.bs (Zt sh.gv x)) k hl B':=by
   intro i hi
   obtain⟨hl,B',q1,q2,q3⟩:=k3 i (sh.bs[i]'hi) (qw)
   grind
  have lt:∀ {i:Nat} {hl:dn},(O.cut m).st[i]? = some hl->i<m:=λhB=>by have:=(Y.1 hB).1; omega
  have lt':∀ {i:Nat} {hl:dn},E.st[i]? = some hl->i<m:=λhB=>by have:=(Y.1 hB).1; have e:E.st.length=m:=k1; omega
  have hw:Wk (O.cut m) E:=by
   refine⟨rfl,rfl,rfl,by show(sh.st x).length=_; rw[k1,Tp],λb d J => ?_,λb v e xs J => ?_,λb v e xs J => ?_,λb J => ?_⟩
   ·obtain⟨k,hl,B',q0,q1,q2,q3⟩:=pair b (lt J)
    rw[J]at q1; cases q1
    cases q3 with
    | var k' _ _ y _ hy=>grind
    | cvar ck _ hy=>grind
    | dead _ hv=>cases hv
   ·obtain⟨k,hl,B',q0,q1,q2,q3⟩:=pair b (lt J)
    rw[J]at q1; cases q1
    cases q3 with
    | arr=>grind
    | dead=>grind
   ·obtain⟨k,hl,B',q0,q1,q2,q3⟩:=pair b (lt' J)
    rw[J]at q2; cases q2
    cases q3 with
    | arr=>exact q1
   ·obtain⟨k,hl,B',q0,q1,q2,q3⟩:=pair b (lt J)
    rw[J]at q1; cases q1
    cases q3 with
    | dead=>exact q2
  have DD:∀ b,rowAt sh.bs b=true->jJ E.st b=mc O.st b/\jJ (fZ sh.bs (Zt sh.gv x)) b=mc O.st b/\jJ O.st b=mc O.st b :=
   λb J=>⟨(k2 b J).2.1,(k2 b J).1,(k2 b J).2.2⟩
  have znY:∀ b,rowAt sh.bs b=true->jJ (O.cut m).st b=jJ O.st b:=by
   intro b J
   have hbm:b<m:=by
    unfold rowAt at J
    split at J
    ·rename_i hh; exact(Y.1 hh).1
    ·cases J
   unfold jJ
   simp only[KS.cut]
   rw[List.getElem?_take,if_pos hbm]
  have hbm:∀ b,rowAt sh.bs b=true->b<m:=by
   intro b J
   unfold rowAt at J
   split at J
   ·rename_i hh; exact(Y.1 hh).1
   ·cases J
  have Tn:∀ b,JC sh.bs b=true->b<m:=by
   intro b J
   unfold JC at J
   split at J
   ·rename_i hh; exact(Y.1 hh).1
   ·rename_i hh; exact(Y.1 hh).1
   ·cases J
  have dk:∀ (k:Dk) (y:k.den) (d:D) (v:Value) (qm:St),Iw sh.bs k=true->(∀ b,rowAt sh.bs b=true->jJ qm b=mc O.st b)->(Xb O.st k d).leads y->RD O d v->RD E (X9 qm k y) v:=by
   intro k y d v qm ho hv hy V
   have hwk:Wk O O:=⟨rfl,rfl,rfl,rfl,λb d h=>⟨d,h⟩,λb v e xs h=>.inl h,λb v e xs h=>h,λb h=>h⟩
   have h0:=Es hwk ho (λ_ _=>rfl) (qm:=O.st) (λ_ _=>rfl) (λb J=>(DD b J).2.2) hy V
   have zpK:iC m (X9 O.st k y)=true:=by
    cases k with
    | sub b e=>exact G5 (hbm b ho)
    | wi f caps =>
     have:∀ (l:List JK) (z:iE l),(Qh l z).all (yn m)=true:=by
      intro l
      induction l with
      | nil=>intro z; rfl
      | cons p r ih =>
       intro z
       have hp:∀ w:AM.den p.ty,yn m (Ci p w)=true:=λw=>by cases p<;>rfl
       cases r with
       | nil=>simp only[Qh,zF,List.all_nil,Bool.and_true]; exact hp z
       | cons q r=>simp only[Qh,zF,I]; exact⟨hp z.1,by simpa using ih z.2⟩
     exact this caps y
    | st ks=>exact zP.2 (cD hbm Tn ks y ho)
    | mclo f ms=>exact zP.2 (pJ Tn ms y ho)
    | _=>rfl
   have h1:=hw.rd (Na h0 zpK)
   have he:X9 O.st k y=X9 qm k y:=by
    cases k with
    | sub b e=>simp only[X9]; rw[hv b ho,(DD b ho).2.2]
    | st ks=>simp only[X9]; rw[Zu (λb J=>(DD b J).2.2.trans (hv b J).symm) ks y ho]
    | _=>rfl
   rwa [he]at h1
  have ck:∀ (q:Ck) (d:D) (v:Value) (qm:St),z08 sh.bs q=true->(∀ b,rowAt sh.bs b=true->jJ qm b=mc O.st b)->(Jw O.st q d).leads ()->Im qm q=d/\(RD O d v->RD E d v):=by
   intro q d v qm ho hv hy
   have he:=zaV ho hv hy
   refine⟨he,λV=>hw.rd (Na V ?_)⟩
   rw[<- he]
   cases q with
   | ptr b off=>exact G5 (Tn b ho)
   | cur b e=>exact G5 (hbm b ho)
   | wF=>rfl
   | bq=>rfl
   | vb=>rfl
   | uX=>rfl
   | yY b=>exact G5 (Tn b ho)
   | wi f l =>
    simp only[z08,zP]at ho
    simp only[Im,iC,zP,List.mem_map]
    rintro _ ⟨p,hp,rfl⟩
    exact G5 (Tn p.1 (ho p hp))
  have hI':Inv E:=by
   refine hw.inv hIc λb d' J => ?_
   obtain⟨k,hl,B',q0,q1,q2,q3⟩:=pair b (lt' J)
   rw[J]at q2
   cases q2
   cases q3 with
   | var kk k' d y hp hy =>
    refine y7.elim (hIc.blk b _ q1:y7 _ _ _) (λYj fc => ?_) λl e zis => ?_
    rotate_left
    ·subst e
     cases kk with
     | mp=>cases hy; obtain⟨blk,o,e1,e2⟩:=zis; exact⟨blk,o,e1,e2⟩
     | qj τ=>simp[Xb,pA]at hy; exact hy.elim
     | vC τ=>exact hy.elim
     | sub b e=>exact hy.elim
     | wi f caps=>exact hy.elim
     | st ks=>exact hy.elim
     | mclo f ms=>exact hy.elim
     | tc e=>exact hy.elim
     | tight e=>exact hy.elim
    obtain⟨blk,n',cs,t,e1,e2,e3,e4,e5⟩:=fc
    cases kk with
    | qj τ =>
     have hco:pA τ d=some y:=T.yH.1 hy
     have ht:d.bQ=false:=by
      cases d with
      | fj l=>simp[pA,D.bQ]at hco
      | _=>rfl
     have EI:=XY hco e4 e5.1 ht
     exact y7.mk (O:=E) (b:=b) (d:=.qj τ y) rfl ⟨blk,n',cs,t,e1,e2,e3,(XC EI).mono hw.ext,se τ y,nofun⟩
    | vC τ =>
     cases d<;>simp only[Xb]at hy<;>try (exact hy.elim)
     obtain⟨e,hyy⟩:=wh (T.yH.1 hy)
     cases e
     cases hyy
     exact y7.mk (O:=E) (b:=b) (d:=.vC τ _) rfl ⟨blk,n',cs,t,e1,e2,e3,e4.mono hw.ext,e5.1,nofun⟩
    | st ks =>
     simp only[Xb]at hy
     cases ha:d.db with
     | false=>rw[ha]at hy; exact hy.elim
     | true =>
      rw[ha]at hy
      replace hy:(pe O.st ks (xz d)).leads y:=hy
      have zuK:b<m:=lt' J
      have hb0:O.st[b]? = some (.var d):=(lO q1).1
      obtain⟨zoC,n2,cs2,t2,f1,f2,f3,f4,f5⟩:=(hI.blk b _ hb0:y7 O b d).cells Yj
      have hp1:=(lO e1).1
      rw[f1]at hp1
      cases hp1
      have e2':=e2
      rw[show(O.cut m).w=O.w from rfl,f2]at e2
      cases e2
      obtain⟨g1,g2⟩:=mV (O:=O) (qm:=fZ sh.bs (Zt sh.gv x)) (bs:=sh.bs) (λb J=>(DD b J).2.1) ks (xz d) y _ hp.2 hy f4
      refine y7.mk (O:=E) (b:=b) (d:=.agg (jt (fZ sh.bs (Zt sh.gv x)) ks y)) rfl ⟨blk,n',cs,t,e1,e2',e3,(S6 g1 λz hz => ?_).mono hw.ext,g2,λT hT => ?_⟩
      rotate_left
      ·exact f5.2 T (Y5 ha (KL ks (xz d) y hy hT))
      have:=cD (m:=m) hbm Tn ks y hp.2 z hz
      cases z<;>first | exact this | cases this
    | mp=>cases d<;>first | exact hy.elim | cases Yj
    | _=>cases hp.1
   | cvar q d hy =>
    have hoq:z08 sh.bs q=true:=hbs _ (List.mem_of_getElem? q0)
    obtain⟨g,_⟩:=ck q d undef (fZ sh.bs (Zt sh.gv x)) hoq (λb J=>(DD b J).2.1) hy
    rw[g]
    refine y7.elim (hIc.blk b _ q1:y7 _ _ _) (λYj ⟨blk,n',cs,t,e1,e2,e3,e4,e5⟩=>.mk Yj ⟨blk,n',cs,t,e1,e2,e3,e4.mono hw.ext,e5⟩) λl e ⟨blk,o,e1,e2⟩ => ?_
    subst e
    exact⟨blk,o,e1,e2⟩
  refine⟨E,rfl,rfl,hI',?_,⟨hR.size,hR.defers,λs d V => ?_⟩,λd v hr V=>hw.rd (zaE V hr)⟩
  ·have wO:κ0.st.length<=m:=B
   have c1:=z1t U wO
   exact c1.trans hw.ext
  ·rcases get_append (l:=nR (sh.st x) sh.gv x) (m:=za6 (sh.st x) sh.cs) V with hp | hp0
   ·obtain⟨k,y,d0,q0,q1,q2,q3⟩:=g2 _ hp
    cases q3
    obtain⟨v,r1,r2⟩:=hR.get _ _ q1
    exact⟨v,r1,dk k y d0 v (sh.st x) (zii _ q0) (λb J=>(DD b J).1) q2 r2⟩
   ·have B9:=get_mem hp0
    unfold za6 at B9
    obtain⟨p,hp,he⟩:=List.mem_map.1 B9
    cases he
    obtain⟨d0,q1,q2⟩:=L8 h1 p hp
    obtain⟨v,r1,r2⟩:=hR.get _ _ q1
    obtain⟨g,gg⟩:=ck p.2 d0 v (sh.st x) (Xc p hp) (λb J=>(DD b J).1) q2
    rw[g]
    exact⟨v,r1,gg r2⟩
end
open Go.RowKit
inductive Gh where
 | slot (s:Nat) (e:Ty) | cell (b i:Nat) (e:Ty) | pcell (s i:Nat) (e:Ty)
def YF(st:St)(b i:Nat):Option (List D):=match st[b]? with
 | some (.var d)=>bif d.db then match(xz d)[i]? with | some .wF=>some (xz d) | _=>none else none
 | _=>none
def gh:List Gh->Fr->St->Fr×St
 | [],fr,st=>(fr,st)
 | .slot s e::r,fr,st=>match fr.get s with
  | some .wF=>bif zO 0 e.size then gh r ((s,some (.ms st.length 0 e 0 0))::fr) (st++[.arr 0 e []])else gh r fr st
  | _=>gh r fr st
 | .cell b i e::r,fr,st=>match YF st b i with
  | some l=>bif zO 0 e.size then gh r fr ((st++[dn.arr 0 e []]).set b (.var (.agg (l.set i (.ms st.length 0 e 0 0)))))else gh r fr st
  | none=>gh r fr st
 | .pcell t i e::r,fr,st=>match fr.get t with
  | some (.ptr b _)=>match YF st b i with
   | some l=>bif zO 0 e.size then gh r fr ((st++[dn.arr 0 e []]).set b (.var (.agg (l.set i (.ms st.length 0 e 0 0)))))else gh r fr st
   | none=>gh r fr st
  | _=>gh r fr st
section
variable {c:Ctx} {O:KS}
def KS.yZ(O:KS)(e:Ty):KS:={ O with ph:=O.ph++[none],st:=O.st++[.arr 0 e []] }
theorem sA(hI:Inv O)(e:Ty):Ext O (O.yZ e):=by
 have ud:∀ b y,O.st[b]? = some y->(O.st++[.arr 0 e []])[b]? = some y:=λb y h=>by rw[zK (Y.1 h).1]; exact h
 have HO:∀ b y,O.st[b]? = some y->(O.ph++[none])[b]? = O.ph[b]? := λb y h=>by
  rw[zK]; rw[hI.len]; exact(Y.1 h).1
 refine⟨rfl,rfl,rfl,zJ _,λk hk=>⟨hk,rfl⟩,λk hk=>.inl hk,?_,λb d h=>⟨⟨d,ud b _ h⟩,HO b _ h⟩,
  λb v0 e xs h=>.inr ⟨v0,xs,ud b _ h,zJ _,λ_=>⟨HO b _ h,rfl⟩⟩,λb h=>ud b _ h,by simp[KS.yZ],λk hk _=>rfl⟩
 intro b blk m h
 simp only[KS.yZ]at h
 grind
theorem VW(hI:Inv O){e:Ty}(he:0<e.size):Inv (O.yZ e):=by
 have hold:∀ (b blk m:Nat),(O.ph++[none])[b]? = some (some (blk,m))->O.ph[b]? = some (some (blk,m)):=by
  grind
 refine⟨by simp[KS.yZ,hI.len],hI.cp,λb blk m h=>hI.apart b blk m (hold b blk m h),λb b' blk m m' h h'=>hI.inj b b' blk m m' (hold _ _ _ h) (hold _ _ _ h'),?_,hI.gl⟩
 intro b y hy
 simp only[KS.yZ]at hy
 by_cases J:b<O.st.length
 ·rw[zK J]at hy
  exact(hI.blk b y hy).mono (sA hI e) (by show(O.ph++[none])[b]? = O.ph[b]?; rw[zK (by rw[hI.len]; exact J)]) λblk n h=>rfl
 ·have Yi:=(Y.1 hy).1
  simp at Yi
  have:b=O.st.length:=Z
  subst this
  simp at hy
  subst hy
  exact⟨he,.inl ⟨rfl,by simp[KS.yZ,<- hI.len]⟩⟩
theorem NA{l:List D}{i b v len off:Nat}{e:Ty}{tt:Nat}(h:(D.agg (l.set i (.ms b v e off len))).typed=some tt):lV l=some tt:=by
 cases l with
 | nil=>exact h
 | cons x r=>cases i with
  | zero=>cases h
  | succ i=>cases x<;>exact h
theorem zaG{O κ2:KS}{l:List D}{vs:List Value}{i:Nat}{d':D}(h:wP O l vs)(hw:∀ d v,RD O d v->RD κ2 d v)(hi:∀ v,vs[i]? = some v->RD κ2 d' v):wP κ2 (l.set i d') vs:=by
 refine⟨by rw[List.length_set]; exact h.1,λk h1 X => ?_⟩
 rw[List.getElem_set]
 split
 ·grind
 ·exact hw _ _ (h.2 k (wa) X)
theorem O9(hI:Inv O){e:Ty}(he:0<e.size){b i:Nat}{l:List D}(h:YF O.st b i=some l) :
  ∃ E:KS,E.w=O.w/\E.st=(O.st++[dn.arr 0 e []]).set b (.var (.agg (l.set i (.ms O.st.length 0 e 0 0))))/\Inv E/\Ext O E:=by
 unfold YF at h
 split at h
 ·rename_i d V
  cases ha:d.db with
  | false=>grind
  | true =>
   rw[ha,cond_true]at h
   split at h
   ·rename_i hi
    cases h
    have U:=sA hI e
    have Uk:=VW hI he
    have zuJ:b<O.st.length:=(Y.1 V).1
    let κ2:KS:={ O.yZ e with st:=(O.yZ e).st.set b (.var (.agg ((xz d).set i (.ms O.st.length 0 e 0 0)))) }
    have Ls:(O.yZ e).st[b]? = some (.var d):=by
     show(O.st++[_])[b]? = _
     grind
    have ku:∀ j,j≠b->κ2.st[j]? = (O.yZ e).st[j]? := λj hj=>by
     grind
    have ziL:κ2.st[b]? = some (.var (.agg ((xz d).set i (.ms O.st.length 0 e 0 0)))):=by
     grind
    have hw:Wk (O.yZ e) κ2:=by
     refine⟨rfl,rfl,rfl,by simp[κ2],λj d' hj => ?_,λj v e' xs hj => ?_,λj v e' xs hj => ?_,λj hj => ?_⟩
     ·grind
     ·grind
     ·grind
     ·by_cases c:j=b
      ·subst c; rw[Ls]at hj; cases hj
      ·rw[ku j c]; exact hj
    have Ba:κ2.st[O.st.length]? = some (.arr 0 e []):=by
     rw[ku _ (Z)]
     simp[KS.yZ]
    have hI2:Inv κ2:=by
     refine hw.inv Uk λj d' hj => ?_
     by_cases c:j=b
     ·subst c
      rw[ziL]at hj
      cases hj
      obtain⟨blk,m,cs,t,q1,q2,q3,q4,q5⟩:=(Uk.blk j _ Ls:y7 _ _ _).cells (by cases d<;>first | rfl | cases ha)
      refine y7.mk (O:=κ2) (b:=j) (d:=.agg ((xz d).set i (.ms O.st.length 0 e 0 0))) rfl ⟨blk,m,cs,t,q1,q2,q3,zaG q4 (λ_ _ h=>hw.rd h) λv hv => ?_,λx hxm => ?_,λT hT => ?_⟩
      ·obtain⟨v',h1,X⟩:=q4.get hi
       rw[hv]at h1
       cases h1
       cases X
       refine .ms O.st.length 0 e 0 0 0 none (.inr ⟨0,e,[],Ba,zJ _⟩) (zJ _) (λ_=>rfl) nofun λxs Gr => ?_
       rw[Ba]at Gr
       cases Gr
       exact⟨zJ _,.inl ⟨rfl,rfl,rfl,by show(O.ph++[none])[O.st.length]? = _; simp[<- hI.len]⟩⟩
      ·rcases List.mem_or_eq_of_mem_set (show x∈(xz d).set i (.ms O.st.length 0 e 0 0)from hxm)with h' | h'
       ·exact q5.1 x h'
       ·subst h'; rfl
      ·exact q5.2 T (Y5 ha (NA hT))
     ·rw[ku j c]at hj
      exact(Uk.blk j _ hj).mono hw.ext rfl λ_ _ _=>rfl
    exact⟨κ2,rfl,rfl,hI2,U.trans hw.ext⟩
   ·cases h
 ·cases h
theorem tD{n:Nat}{a:Act}:∀ (l:List Gh) (fr:Fr) (O:KS),Inv O->Rel O n fr.get a->∃ E:KS,E.w=O.w/\E.st=(gh l fr O.st).2/\Inv E/\Ext O E/\Rel E n (gh l fr O.st).1.get a
 | [],fr,O,hI,hR=>⟨O,rfl,rfl,hI,Ext.refl O,hR⟩
 | .slot s e::r,fr,O,hI,hR=>by
  unfold gh
  split
  ·rename_i hs
   cases he:zO 0 e.size with
   | false=>rw[cond_false]; exact tD r fr O hI hR
   | true =>
    rw[cond_true]
    have Mv:0<e.size:=zE he
    have U:=sA hI e
    have hR':Rel (O.yZ e) n (Fr.get ((s,some (.ms O.st.length 0 e 0 0))::fr)) a:=by
     refine⟨hR.size,hR.defers,λt d V => ?_⟩
     simp only[Fr.get]at V
     cases ht:R s t with
     | true =>
      rw[ht,cond_true]at V
      cases V
      have:=zA ht
      subst this
      obtain⟨v,h1,X⟩:=hR.get s _ hs
      cases X
      have Ba:(O.yZ e).st[O.st.length]? = some (.arr 0 e []):=by simp[KS.yZ]
      refine⟨_,h1,.ms O.st.length 0 e 0 0 0 none (.inr ⟨0,e,[],Ba,zJ _⟩) (zJ _) (λ_=>rfl) nofun λxs Gr => ?_⟩
      rw[Ba]at Gr
      cases Gr
      exact⟨zJ _,.inl ⟨rfl,rfl,rfl,by simp[KS.yZ,<- hI.len]⟩⟩
     | false =>
      rw[ht,cond_false]at V
      obtain⟨v,h1,X⟩:=hR.get t d V
      exact⟨v,h1,X.mono U⟩
    obtain⟨E,h1,X,h3,h4,h5⟩:=tD r _ (O.yZ e) (VW hI Mv) hR'
    exact⟨E,h1,X,h3,U.trans h4,h5⟩
  ·exact tD r fr O hI hR
 | .cell b i e::r,fr,O,hI,hR=>by
  unfold gh
  split
  ·rename_i l B
   cases he:zO 0 e.size with
   | false=>rw[cond_false]; exact tD r fr O hI hR
   | true =>
    rw[cond_true]
    have Mv:0<e.size:=zE he
    obtain⟨κ1,g1,g2,g3,g4⟩:=O9 hI Mv B
    obtain⟨E,h1,X,h3,h4,h5⟩:=tD r fr κ1 g3 ⟨hR.size,hR.defers,λt d V=>by
     obtain⟨v,q1,q2⟩:=hR.get t d V
     exact⟨v,q1,q2.mono g4⟩⟩
    rw[g2]at X h5
    exact⟨E,h1.trans g1,X,h3,g4.trans h4,h5⟩
  ·exact tD r fr O hI hR
 | .pcell t i e::r,fr,O,hI,hR=>by
  unfold gh
  split
  ·rename_i b off J
   split
   ·rename_i l B
    cases he:zO 0 e.size with
    | false=>rw[cond_false]; exact tD r fr O hI hR
    | true =>
     have Mv:0<e.size:=zE he
     obtain⟨κ1,g1,g2,g3,g4⟩:=O9 hI Mv B
     obtain⟨E,h1,X,h3,h4,h5⟩:=tD r fr κ1 g3 ⟨hR.size,hR.defers,λt d V=>by
      obtain⟨v,q1,q2⟩:=hR.get t d V
      exact⟨v,q1,q2.mono g4⟩⟩
     rw[g2]at X h5
     exact⟨E,h1.trans g1,X,h3,g4.trans h4,h5⟩
   ·exact tD r fr O hI hR
  ·exact tD r fr O hI hR
end
end Go.AM
namespace Go.AM
def Qx(f:Nat->Option Nat)(d:D):Option D:=match d with
 | .ptr b off=>match f b with | some b'=>some (.ptr b' off) | none=>none
 | .eS b T=>match f b with | some b'=>some (.eS b' T) | none=>none
 | .yY b=>match f b with | some b'=>some (.yY b') | none=>none
 | .gU b v e i off=>match f b with | some b'=>some (.gU b' v e i off) | none=>none
 | .ms b v e off len=>match f b with | some b'=>some (.ms b' v e off len) | none=>none
 | .wi _ _=>none
 | .agg _=>none
 | .fj _=>none
 | .iface _ _=>none
 | d=>some d
def IN(f:Nat->Option Nat):List D->Option (List D)
 | []=>some []
 | d::r=>match Qx f d with
  | some d'=>match IN f r with | some r'=>some (d'::r') | none=>none
  | none=>none
def sF(f:Nat->Option Nat)(d:D):Option D:=match d with
 | .wi g l=>match IN f l with | some l'=>some (.wi g l') | none=>none
 | .agg l=>match IN f l with | some l'=>some (.agg l') | none=>none
 | d=>Qx f d
def W4(f:Nat->Option Nat):List D->Option (List D)
 | []=>some []
 | d::r=>match sF f d with
  | some d'=>match W4 f r with | some r'=>some (d'::r') | none=>none
  | none=>none
def U5(f:Nat->Option Nat):dn->Option dn
 | .var d=>match sF f d with | some d'=>some (.var d') | none=>none
 | .arr v e xs=>some (.arr v e xs)
 | .dead=>some .dead
def pc(f:Nat->Option Nat):List dn->Option (List dn)
 | []=>some []
 | b::r=>match U5 f b with
  | some b'=>match pc f r with | some r'=>some (b'::r') | none=>none
  | none=>none
def Vl(f:Nat->Option Nat):Fr->Fr
 | []=>[]
 | (s,some d)::r=>(s,sF f d)::Vl f r
 | (s,none)::r=>(s,none)::Vl f r
structure Tr(O E:KS)(f:Nat->Option Nat):Prop where
 w:E.w=O.w
 ok:E.ok=O.ok
 var:∀ (b b':Nat) (d:D),f b=some b'->O.st[b]? = some (.var d)->(∃ d',E.st[b']? = some (.var d'))/\E.ph[b']? = O.ph[b]?
 old:∀ (b b' vn:Nat),f b=some b'->Old O.st b vn->Old E.st b' vn
 row:∀ (b b' v:Nat) (e:Ty) (xs:List (den e)),f b=some b'->E.st[b']? = some (.arr v e xs)->O.st[b]? = some (.arr v e xs)/\E.ph[b']? = O.ph[b]?
section
variable {O E:KS} {f:Nat->Option Nat}
theorem Tr.same(h:Tr O E f):LC O.w E.w O.ok E.ok:=λk hk=>⟨by rw[h.ok]; exact hk,by rw[h.w]⟩
theorem Tr.rd1(h:Tr O E f){d d':D}{v:Value}(V:RD O d v)(hr:Qx f d=some d'):RD E d' v:=by
 cases V with
 | qj τ y cs hc=>cases hr; exact .qj τ y cs (hc.mono h.same)
 | tc e l b v hc ht hf=>cases hr; exact .tc e l b v (hc.mono h.same) ht hf
 | vB e a=>cases hr; exact .vB e a
 | tight e l ne blk off g ku ja hh hc=>cases hr; exact .tight e l ne blk off g ku (h.same _ ja).1 (λi hi=>(hh i hi).mono h.same) λi hi j v hv=>by rw[mq (h.same _ ja).2]; exact hc i hi j v hv
 | wF=>cases hr; exact .wF
 | bq=>cases hr; exact .bq
 | vb=>cases hr; exact .vb
 | gC=>cases hr; exact .gC
 | uX=>cases hr; exact .uX
 | Vq v h=>cases hr; exact .Vq v h
 | nD T=>cases hr; exact .nD T
 | nV b T d J =>
  simp only[Qx]at hr
  split at hr
  ·rename_i b' hf
   cases hr
   obtain⟨⟨d',h1⟩,X⟩:=h.var b b' d hf J
   exact .nV b' T d' h1
  ·cases hr
 | yY b blk n d J hp =>
  simp only[Qx]at hr
  split at hr
  ·rename_i b' hf
   cases hr
   obtain⟨⟨d',h1⟩,X⟩:=h.var b b' d hf J
   exact .yY b' blk n d' h1 (X.trans hp)
  ·cases hr
 | nW b T blk n d J hp =>
  simp only[Qx]at hr
  split at hr
  ·rename_i b' hf
   cases hr
   obtain⟨⟨d',h1⟩,X⟩:=h.var b b' d hf J
   exact .nW b' T blk n d' h1 (X.trans hp)
  ·cases hr
 | ptr b off blk n d J hp =>
  simp only[Qx]at hr
  split at hr
  ·rename_i b' hf
   cases hr
   obtain⟨⟨d',h1⟩,X⟩:=h.var b b' d hf J
   exact .ptr b' off blk n d' h1 (X.trans hp)
  ·cases hr
 | vC τ y cs blk off ja hh hc=>cases hr; exact .vC τ y cs blk off (h.same _ ja).1 (hh.mono h.same) λj v hv=>by rw[mq (h.same _ ja).2]; exact hc j v hv
 | gU b vn e idx off blk o J hh =>
  simp only[Qx]at hr
  split at hr
  ·rename_i b' hf
   cases hr
   refine .gU b' vn e idx off blk o (h.old b b' vn hf J) λxs U hi => ?_
   obtain⟨h1,X⟩:=h.row b b' vn e xs hf U
   grind
  ·cases hr
 | ms b vn e off len cap a J ju ha V7 hh =>
  simp only[Qx]at hr
  split at hr
  ·rename_i b' hf
   cases hr
   refine .ms b' vn e off len cap a (h.old b b' vn hf J) ju ha V7 λxs U => ?_
   obtain⟨h1,X⟩:=h.row b b' vn e xs hf U
   have:=hh xs h1
   unfold NW at this ⊢
   grind
  ·cases hr
 | wi g l vs B hh=>cases hr
 | agg l vs B ho hh=>cases hr
 | fj l vs B hh=>cases hr
 | iface t d v hh=>cases hr
theorem z4N{d d':D}(h:Qx f d=some d'):d'.one=d.one:=by
 cases d<;>simp only[Qx]at h<;>first | (cases h; rfl) | (split at h<;>cases h; rfl) | cases h
theorem Tr.rdL(h:Tr O E f):∀ {l l':List D} {vs:List Value},wP O l vs->IN f l=some l'->wP E l' vs
 | [],l',vs,V,hr=>by cases hr; rw[V.wg]; exact .nil
 | d::r,l',vs,V,hr=>by
  simp only[IN]at hr
  split at hr
  ·rename_i d' h1
   split at hr
   ·rename_i r' X
    cases hr
    obtain⟨v,us,rfl,g1,g2⟩:=V.cons_inv
    exact .cons (h.rd1 g1 h1) (h.rdL g2 X)
   ·cases hr
  ·cases hr
theorem Hj:∀ {l l':List D},IN f l=some l'->(∀ d∈l,d.one=true)->∀ d∈l',d.one=true
 | [],l',hr,_=>by cases hr; nofun
 | d::r,l',hr,ho=>by
  simp only[IN]at hr
  split at hr
  ·rename_i d' h1
   split at hr
   ·rename_i r' X
    cases hr
    intro x U
    rcases zH.1 U with rfl | U
    ·rw[z4N h1]; exact ho d zQ
    ·exact Hj X (λy hy=>ho y (zI _ hy)) x U
   ·cases hr
  ·cases hr
theorem Tr.rd(h:Tr O E f){d d':D}{v:Value}(V:RD O d v)(hr:sF f d=some d'):RD E d' v:=by
 cases d with
 | wi g l =>
  simp only[sF]at hr
  split at hr
  ·rename_i l' B
   cases hr
   cases V with
   | wi _ _ vs h1 X=>have:=h.rdL (⟨h1,X⟩:wP O l vs) B; exact .wi g l' vs this.1 this.2
  ·cases hr
 | agg l =>
  simp only[sF]at hr
  split at hr
  ·rename_i l' B
   cases hr
   cases V with
   | agg _ vs h1 ho X=>have:=h.rdL (⟨h1,X⟩:wP O l vs) B; exact .agg l' vs this.1 (Hj B ho) this.2
  ·cases hr
 | _=>exact h.rd1 V hr
theorem Tr.rds(h:Tr O E f):∀ {l l':List D} {vs:List Value},wP O l vs->W4 f l=some l'->wP E l' vs
 | [],l',vs,V,hr=>by cases hr; rw[V.wg]; exact .nil
 | d::r,l',vs,V,hr=>by
  simp only[W4]at hr
  split at hr
  ·rename_i d' h1
   split at hr
   ·rename_i r' X
    cases hr
    obtain⟨v,us,rfl,g1,g2⟩:=V.cons_inv
    exact .cons (h.rd g1 h1) (h.rds g2 X)
   ·cases hr
  ·cases hr
theorem Tr.flat(h:Tr O E f){d d':D}{vs:List Value}(V:wP O (xz d) vs)(ho:∀ x∈xz d,x.one=true)(hr:sF f d=some d'):wP E (xz d') vs/\∀ x∈xz d',x.one=true:=by
 have qj:∀ (τ:Ty) (x:den τ) (vs:List Value),wP O (Go.AM.flat τ x) vs->wP E (Go.AM.flat τ x) vs:=by
  intro τ x vs hh
  refine⟨hh.1,λi h1 X => ?_⟩
  have hm:=List.getElem_mem h1
  have:∃ σ z,(Go.AM.flat τ x)[i]=.qj σ z:=by
   generalize (Go.AM.flat τ x)[i]=y at hm
   clear hh h1 X
   induction τ with
   | cons a b ia ib =>
    simp only[Go.AM.flat,zN]at hm
    grind
   | nil=>simp[Go.AM.flat]at hm
   | expr=>simp[Go.AM.flat]at hm; rcases hm with rfl | rfl | rfl | rfl | rfl | rfl<;>exact⟨_,_,rfl⟩
   | _=>simp[Go.AM.flat]at hm; subst hm; exact⟨_,_,rfl⟩
  obtain⟨σ,z,e⟩:=this
  have h3:=hh.2 i h1 X
  rw[e]at h3 ⊢
  exact h.rd1 h3 rfl
 cases d with
 | qj τ x=>cases hr; exact⟨qj τ x vs V,ho⟩
 | agg l =>
  simp only[sF]at hr
  split at hr
  ·rename_i l' B
   cases hr
   exact⟨h.rdL V B,Hj B ho⟩
  ·cases hr
 | fj l=>cases hr
 | wi g l =>
  obtain⟨v,r,rfl,h1,X⟩:=wP.cons_inv (show wP O [.wi g l] vs from V)
  rw[X.wg]
  have DB:=hr
  simp only[sF]at hr
  split at hr
  ·cases hr; exact⟨.cons (h.rd h1 DB) .nil,λx U=>by simp only[xz,zL]at U; subst U; rfl⟩
  ·cases hr
 | iface t x=>cases hr
 | ptr b off =>
  obtain⟨v,r,rfl,h1,X⟩:=wP.cons_inv (show wP O [.ptr b off] vs from V)
  rw[X.wg]
  have DB:=hr
  simp only[sF,Qx]at hr
  split at hr
  ·cases hr; exact⟨.cons (h.rd1 h1 DB) .nil,λx U=>by simp only[xz,zL]at U; subst U; rfl⟩
  ·cases hr
 | yY b =>
  obtain⟨v,r,rfl,h1,X⟩:=wP.cons_inv (show wP O [.yY b] vs from V)
  rw[X.wg]
  have DB:=hr
  simp only[sF,Qx]at hr
  split at hr
  ·cases hr; exact⟨.cons (h.rd1 h1 DB) .nil,λx U=>by simp only[xz,zL]at U; subst U; rfl⟩
  ·cases hr
 | eS b T =>
  obtain⟨v,r,rfl,h1,X⟩:=wP.cons_inv (show wP O [.eS b T] vs from V)
  rw[X.wg]
  have DB:=hr
  simp only[sF,Qx]at hr
  split at hr
  ·cases hr; exact⟨.cons (h.rd1 h1 DB) .nil,λx U=>by simp only[xz,zL]at U; subst U; rfl⟩
  ·cases hr
 | gU b vn e idx off =>
  obtain⟨v,r,rfl,h1,X⟩:=wP.cons_inv (show wP O [.gU b vn e idx off] vs from V)
  rw[X.wg]
  have DB:=hr
  simp only[sF,Qx]at hr
  split at hr
  ·cases hr; exact⟨.cons (h.rd1 h1 DB) .nil,λx U=>by simp only[xz,zL]at U; subst U; rfl⟩
  ·cases hr
 | ms b vn e off len =>
  obtain⟨v,r,rfl,h1,X⟩:=wP.cons_inv (show wP O [.ms b vn e off len] vs from V)
  rw[X.wg]
  have DB:=hr
  simp only[sF,Qx]at hr
  split at hr
  ·cases hr; exact⟨.cons (h.rd1 h1 DB) .nil,λx U=>by simp only[xz,zL]at U; subst U; rfl⟩
  ·cases hr
 | Cm l=>cases hr; exact⟨⟨V.1,λi h1=>by cases h1⟩,ho⟩
 | _ =>
  cases hr
  obtain⟨v,r,rfl,h1,X⟩:=wP.cons_inv V
  rw[X.wg]
  exact⟨.cons (h.rd1 h1 rfl) .nil,ho⟩
theorem Ng{f:Nat->Option Nat}{d d':D}{tt:Nat}(h:sF f d=some d')(ht:d'.typed=some tt):d.typed=some tt:=by
 cases d with
 | agg l =>
  simp only[sF]at h
  split at h
  ·rename_i l' B
   cases h
   cases l with
   | nil=>cases B; cases ht
   | cons x r =>
    simp only[IN]at B
    split at B
    ·rename_i x' U
     split at B
     ·cases B
      cases x<;>simp only[Qx]at U<;>first
       | (cases U; exact ht)
       | (split at U<;>first | (cases U; exact ht) | cases U)
       | cases U
     ·cases B
    ·cases B
  ·cases h
 | wi g l =>
  simp only[sF]at h
  split at h
  ·cases h; cases ht
  ·cases h
 | _ =>
  simp only[sF,Qx]at h
  first
   | (cases h; cases ht)
   | (split at h<;>first | (cases h; cases ht) | cases h)
   | cases h
theorem Tr.blk[V0](h:Tr O E f){b b':Nat}(hp:E.ph[b']? = O.ph[b]?){y y':dn}(hy:rC O b y)(hr:U5 f y=some y'):rC E b' y':=by
 cases y with
 | dead=>cases hr; trivial
 | var d =>
  simp only[U5]at hr
  split at hr
  ·rename_i d' V
   cases hr
   refine y7.elim hy (λhm ⟨blk,n,cs,t,h1,X,h3,h4,h5⟩ => ?_) λl e ⟨blk,o,h1,X⟩ => ?_
   rotate_left
   ·subst e
    cases V
    exact⟨blk,o,hp.trans h1,by rw[h.w]; exact X⟩
   have hm':d'.Gv=false:=by
    cases d<;>simp only[sF,Qx]at V<;>first | (cases hm; done) | (cases V; rfl) | (split at V<;>first | (cases V; rfl) | cases V) | cases V | cases hm
   obtain⟨g1,g2⟩:=h.flat h4 h5.1 V
   exact .mk hm' ⟨blk,n,cs,t,hp.trans h1,by rw[h.w]; exact X,h3,g1,g2,λT hT=>h5.2 T (Ng V hT)⟩
  ·cases hr
 | arr vn e xs =>
  cases hr
  obtain⟨h0,hh⟩:=hy
  refine⟨h0,sC hh (λh=>⟨h.1,hp.trans h.2⟩) ?_⟩
  rintro⟨blk,n,cs,t,h1,X,h3,h4,hr,g,h5⟩
  exact⟨blk,n,cs,t,hp.trans h1,by rw[h.w]; exact X,h3,h4,hr,g,λi hi=>⟨(h5 i hi).1.mono h.same,(h5 i hi).2⟩⟩
theorem WQ{f:Nat->Option Nat}:∀ {fr:Fr} {s:Nat} {d':D},(Vl f fr).get s=some d'->∃ d,fr.get s=some d/\sF f d=some d'
 | [],s,d',h=>by cases h
 | (t,some d)::r,s,d',h=>by
  simp only[Vl,Fr.get]at h ⊢
  cases ht:R t s with
  | true=>grind
  | false=>rw[ht,cond_false]at h; simp; exact WQ h
 | (t,none)::r,s,d',h=>by
  simp only[Vl,Fr.get]at h ⊢
  cases ht:R t s with
  | true=>grind
  | false=>rw[ht,cond_false]at h; simp; exact WQ h
end
def pos:List Nat->Nat->Option Nat
 | [],_=>none
 | b::r,i=>bif R b i then some 0 else match pos r i with | some j=>some (j+1) | none=>none
def dc:List Nat->Bool
 | []=>true
 | b::r=>(match pos r b with | none=>true | some _=>false)&&dc r
theorem tK:∀ {mp:List Nat} {i j:Nat},pos mp i=some j->mp[j]? = some i
 | [],i,j,h=>by cases h
 | b::r,i,j,h=>by
  simp only[pos]at h
  cases J:R b i with
  | true=>rw[J,cond_true]at h; cases h; rw[zA J]; rfl
  | false =>
   rw[J,cond_false]at h
   split at h
   ·rename_i k hk; cases h; simpa using tK hk
   ·cases h
theorem pG:∀ {mp:List Nat} {i j:Nat},dc mp=true->mp[j]? = some i->pos mp i=some j
 | [],i,j,_,h=>by simp at h
 | b::r,i,j,hn,h=>by
  simp only[dc,I]at hn
  cases j with
  | zero=>simp at h; subst h; simp only[pos]; rw[qS]; rfl
  | succ j =>
   have h':r[j]? = some i:=by simpa using h
   have hp:=pG hn.2 h'
   have ku:R b i=false:=by
    cases J:R b i with
    | false=>rfl
    | true =>
     have:=zA J
     grind
   simp only[pos,ku,cond_false,hp]
def lv{α:Type}(l:List α):List Nat->Option (List α)
 | []=>some []
 | b::r=>match l[b]? with
  | some x=>match lv l r with | some y=>some (x::y) | none=>none
  | none=>none
theorem Kl{α:Type}{l:List α}:∀ {mp:List Nat} {r:List α},lv l mp=some r->r.length=mp.length/\∀ (j b:Nat),mp[j]? = some b->r[j]? = l[b]? /\ b<l.length
 | [],r,h=>by cases h; exact⟨rfl,λj b hj=>wa⟩
 | b::mp,r,h=>by
  simp only[lv]at h
  split at h
  ·rename_i x U
   split at h
   ·rename_i y hy
    obtain⟨h1,X⟩:=Kl hy
    grind
   ·cases h
  ·cases h
theorem Km{f:Nat->Option Nat}:∀ {l r:List dn},pc f l=some r->r.length=l.length/\∀ (j:Nat) (x:dn),l[j]? = some x->∃ y,r[j]? = some y/\U5 f x=some y
 | [],r,h=>by cases h; exact⟨rfl,λj x hj=>wa⟩
 | b::l,r,h=>by
  simp only[pc]at h
  split at h
  ·rename_i b' J
   split at h
   ·rename_i r' hr
    obtain⟨h1,X⟩:=Km hr
    grind
   ·cases h
  ·cases h
def oh{α:Type}(mp:List Nat)(new:List α):Nat->List α->List α
 | _,[]=>[]
 | i,x::r=>(match pos mp i with | some j=>(match new[j]? with | some y=>y | none=>x) | none=>x)::oh mp new (i+1) r
def js{α:Type}(mp:List Nat)(old new:List α):List α:=oh mp new 0 old++new.drop mp.length
theorem bg{α:Type}(mp:List Nat)(new:List α):∀ (l:List α) (i:Nat),(oh mp new i l).length=l.length
 | [],_=>rfl
 | x::r,i=>by simp[oh,bg mp new r (i+1)]
theorem Vw{α:Type}(mp:List Nat)(new:List α):∀ (l:List α) (i k:Nat),(oh mp new i l)[k]? = (l[k]?).map λx=>match pos mp (i+k)with | some j=>(match new[j]? with | some y=>y | none=>x) | none=>x
 | [],i,k=>by simp[oh]
 | x::r,i,0=>by simp[oh]
 | x::r,i,k+1=>by
  have:=Vw mp new r (i+1) k
  simp only[oh]
  grind
def fwd(mp:List Nat)(n:Nat)(j:Nat):Nat:=match mp[j]? with | some b=>b | none=>n+(j-mp.length)
theorem mn{α:Type}{mp:List Nat}{old new:List α}{i:Nat}(hi:i<old.length)(hp:pos mp i=none):(js mp old new)[i]? = old[i]? := by
 unfold js
 rw[zK (by rw[bg]; exact hi),Vw,qD,hp]
 simp
theorem F7{α:Type}{mp:List Nat}{old new:List α}(hn:dc mp=true)(wO:∀ (j b:Nat),mp[j]? = some b->b<old.length)(hlen:mp.length<=new.length){j:Nat}(hj:j<new.length):(js mp old new)[fwd mp old.length j]? = new[j]? := by
 unfold js fwd
 cases hm:mp[j]? with
 | some b =>
  have J:=wO j b hm
  rw[zK (by rw[bg]; exact J),Vw,qD,pG hn hm]
  grind
 | none =>
  simp only
  rw[List.getElem?_append_right (by rw[bg]; omega),bg,List.getElem?_drop]
  grind
theorem LK{α:Type}{mp:List Nat}{old new:List α}(wO:∀ (j b:Nat),mp[j]? = some b->b<old.length)(hlen:mp.length<=new.length){i:Nat}(hi:i<(js mp old new).length) :
  (i<old.length/\pos mp i=none)\/∃ j,j<new.length/\i=fwd mp old.length j:=by
 by_cases h:i<old.length
 ·cases hp:pos mp i with
  | none=>grind
  | some j =>
   have:=tK hp
   have hj:=(Y.1 this).1
   exact .inr ⟨j,Z,by unfold fwd; rw[this]⟩
 ·have B:i<old.length+(new.length-mp.length):=by simpa[js,bg]using hi
  refine .inr ⟨mp.length+(i-old.length),Z,?_⟩
  unfold fwd
  grind
variable [gy]
open Go.RowKit
section
variable {O:KS} {mp:List Nat}
theorem Eg{eb l:List dn}{p1:List (Option (Nat×Nat))}(hI:Inv O)(hn:dc mp=true)(hp:lv O.ph mp=some p1)(B:lv O.st mp=some l)(hr:pc (pos mp) l=some eb) :
  Inv ⟨O.w,O.ok,p1,eb⟩/\Tr O ⟨O.w,O.ok,p1,eb⟩ (pos mp)/\eb.length=mp.length/\p1.length=mp.length/\∀ (j b:Nat),mp[j]? = some b->p1[j]? = O.ph[b]? /\ ∃ x y:dn,O.st[b]? = some x/\U5 (pos mp) x=some y/\eb[j]? = some y:=by
 obtain⟨a1,a2⟩:=Kl hp
 obtain⟨b1,b2⟩:=Kl B
 obtain⟨c1,c2⟩:=Km hr
 have key:∀ (j b:Nat),mp[j]? = some b->p1[j]? = O.ph[b]? /\ ∃ x y:dn,O.st[b]? = some x/\U5 (pos mp) x=some y/\eb[j]? = some y:=by
  grind
 have at':∀ {j:Nat} {y:dn},eb[j]? = some y->∃ b,mp[j]? = some b:=λh=>by
  have:=(Y.1 h).1
  exact⟨_,zG (Z)⟩
 have hT:Tr O ⟨O.w,O.ok,p1,eb⟩ (pos mp):=by
  refine⟨rfl,rfl,λb j d hf J => ?_,λb j vn hf ho => ?_,λb j v e xs hf J => ?_⟩
  ·obtain⟨h1,x,y,X,h3,h4⟩:=key j b (tK hf)
   rw[J]at X
   cases X
   simp only[U5]at h3
   grind
  ·obtain⟨h1,x,y,X,h3,h4⟩:=key j b (tK hf)
   rcases ho with ho | ⟨v0,e0,Uf,ho,hv⟩
   ·rw[ho]at X; cases X; cases h3; exact .inl h4
   ·rw[ho]at X; cases X; cases h3; exact .inr ⟨v0,e0,Uf,h4,hv⟩
  ·obtain⟨h1,x,y,X,h3,h4⟩:=key j b (tK hf)
   rw[show eb[j]? = some (.arr v e xs)from J]at h4
   cases h4
   cases x with
   | dead=>cases h3
   | var d=>simp only[U5]at h3; split at h3<;>cases h3
   | arr v0 e0 Uf=>cases h3; exact⟨X,h1⟩
 refine⟨⟨by show p1.length=eb.length; omega,hI.cp,λj blk n h => ?_,λj j' blk n n' h h' => ?_,λj y h => ?_,hI.gl⟩,hT,Z,a1,key⟩
 ·obtain⟨b,J⟩:∃ b,mp[j]? = some b:=⟨_,zG (by have:j<p1.length:=(Y.1 h).1; omega)⟩
  exact hI.apart b blk n ((a2 j b J).1.symm.trans h)
 ·obtain⟨b,J⟩:∃ b,mp[j]? = some b:=⟨_,zG (by have:j<p1.length:=(Y.1 h).1; omega)⟩
  obtain⟨b',Yi⟩:∃ b,mp[j']? = some b:=⟨_,zG (by have:j'<p1.length:=(Y.1 h').1; omega)⟩
  have:=hI.inj b b' blk n n' ((a2 j b J).1.symm.trans h) ((a2 j' b' Yi).1.symm.trans h')
  subst this
  exact Option.some.inj ((pG hn J).symm.trans (pG hn Yi))
 ·obtain⟨b,J⟩:=at' h
  obtain⟨h1,x,y',X,h3,h4⟩:=key j b J
  rw[show eb[j]? = some y from h]at h4
  cases h4
  exact hT.blk h1 (hI.blk b x X) h3
theorem Ys{κ1:KS}{eb gz l:List dn}{p1:List (Option (Nat×Nat))}(hI:Inv O)(hn:dc mp=true)(hp:lv O.ph mp=some p1)(B:lv O.st mp=some l)(hr:pc (pos mp) l=some eb)
  (Uk:Inv κ1) (U:Ext ⟨O.w,O.ok,p1,eb⟩ κ1) (hr2:pc (λj=>some (fwd mp O.st.length j)) κ1.st=some gz) :
  ∃ E:KS,E.w=κ1.w/\E.st=js mp O.st gz/\Inv E/\Ext O E/\Tr κ1 E (λj=>some (fwd mp O.st.length j)):=by
 obtain⟨hIs,hTs,s1,s2,key⟩:=Eg hI hn hp B hr
 obtain⟨r1,r2⟩:=Km hr2
 have wO:∀ (j b:Nat),mp[j]? = some b->b<O.st.length:=λj b hj=>by obtain⟨_,x,_,h,_⟩:=key j b hj; exact(Y.1 h).1
 have zq3:∀ (j b:Nat),mp[j]? = some b->b<O.ph.length:=λj b hj=>by rw[hI.len]; exact wO j b hj
 have hm1:mp.length<=κ1.st.length:=by have:=U.IW; simp only at this; omega
 have hm2:mp.length<=gz.length:=Z
 have Yj:mp.length<=κ1.ph.length:=by rw[Uk.len]; exact hm1
 let fw:=fwd mp O.st.length
 have hlen:(js mp O.ph κ1.ph).length=(js mp O.st gz).length:=by simp[js,bg,hI.len,Uk.len,r1]
 -- what lies where
 have cst:∀ {j:Nat} {x:dn},κ1.st[j]? = some x->∃ y,(js mp O.st gz)[fw j]? = some y/\U5 (λj=>some (fw j)) x=some y:=by
  intro j x hj
  obtain⟨y,h1,X⟩:=r2 j x hj
  exact⟨y,by rw[F7 hn wO hm2 (by rw[r1]; exact(Y.1 hj).1)]; exact h1,X⟩
 have cph:∀ {j:Nat},j<κ1.st.length->(js mp O.ph κ1.ph)[fw j]? = κ1.ph[j]? := by
  intro j hj
  have:=F7 (old:=O.ph) (new:=κ1.ph) hn zq3 Yj (j:=j) (by rw[Uk.len]; exact hj)
  rw[hI.len]at this
  exact this
 have ust:∀ {i:Nat},i<O.st.length->pos mp i=none->(js mp O.st gz)[i]? = O.st[i]? := λhi h=>mn hi h
 have uph:∀ {i:Nat},i<O.st.length->pos mp i=none->(js mp O.ph κ1.ph)[i]? = O.ph[i]? := λhi h=>mn (by rw[hI.len]; exact hi) h
 have JN:∀ {i:Nat},i<(js mp O.st gz).length->(i<O.st.length/\pos mp i=none)\/∃ j,j<κ1.st.length/\i=fw j:=by
  intro i hi
  rcases LK wO hm2 hi with h | ⟨j,h1,X⟩
  ·grind
  ·grind
 have Th:∀ {j b:Nat},mp[j]? = some b->fw j=b:=λh=>by simp only[fw,fwd,h]
 have zu3:∀ {j:Nat},mp[j]? = none->O.st.length<=fw j:=λh=>by simp only[fw,fwd,h]; omega
 -- the part's own blocks
 have sph:∀ {j:Nat} {q:Nat×Nat},p1[j]? = some (some q)->∃ b,mp[j]? = some b/\O.ph[b]? = some (some q):=by
  intro j q h
  have hj:=(Y.1 h).1
  obtain⟨b,J⟩:∃ b,mp[j]? = some b:=⟨_,zG (Z)⟩
  grind
 have hT:Tr κ1 ⟨κ1.w,κ1.ok,js mp O.ph κ1.ph,js mp O.st gz⟩ (λj=>some (fw j)):=by
  refine⟨rfl,rfl,λj b d hf hj => ?_,λj b vn hf ho => ?_,λj b v e xs hf J => ?_⟩
  ·cases hf
   obtain⟨y,h1,X⟩:=cst hj
   simp only[U5]at X
   grind
  ·cases hf
   rcases ho with ho | ⟨v0,e0,Uf,ho,hv⟩
   ·obtain⟨y,h1,X⟩:=cst ho; cases X; exact .inl h1
   ·obtain⟨y,h1,X⟩:=cst ho; cases X; exact .inr ⟨v0,e0,Uf,h1,hv⟩
  ·cases hf
   have J:(js mp O.st gz)[fw j]? = some (.arr v e xs):=J
   have KE:=(Y.1 J).1
   have hj:j<κ1.st.length:=by
    by_cases hj:j<κ1.st.length
    ·exact hj
    ·exfalso
     cases hm:mp[j]? with
     | some c=>have:=(Y.1 hm).1; omega
     | none =>
      have h3:fw j=O.st.length+(j-mp.length):=by simp only[fw,fwd,hm]
      have h4:(js mp O.st gz).length=O.st.length+(gz.length-mp.length):=by simp[js,bg]
      omega
   obtain⟨y,h1,X⟩:=cst (zG hj)
   rw[J]at h1
   cases h1
   refine⟨?_,cph hj⟩
   rw[zG hj]
   generalize κ1.st[j]=x at X
   cases x with
   | dead=>cases X
   | var d=>simp only[U5]at X; split at X<;>cases X
   | arr v0 e0 Uf=>cases X; rfl
 -- CN blocks lie as they lay
 have CN:∀ {i blk n:Nat},pos mp i=none->O.ph[i]? = some (some (blk,n))->κ1.w.heap[blk]? = O.w.heap[blk]? := by
  intro i blk n hi h
  obtain⟨g1,g2⟩:=hI.apart i blk n h
  refine U.frame blk g1 λj m hj => ?_
  obtain⟨b,Ls,FK⟩:=sph hj
  have:=hI.inj i b blk n m h FK
  subst this
  rw[pG hn Ls]at hi
  cases hi
 have hE:Ext O ⟨κ1.w,κ1.ok,js mp O.ph κ1.ph,js mp O.st gz⟩:=by
  refine⟨U.os,U.tape,U.output,U.size,U.same,λk hk => ?_,λi blk n h => ?_,λi d hi => ?_,λi v0 e Uf hi => ?_,λi hi => ?_,?_,λk hk hno => ?_⟩
  ·rcases U.fresh k hk with h | h | ⟨j,n,h⟩
   ·exact .inl h
   ·exact .inr (.inl h)
   ·obtain⟨b,_,J⟩:=sph h; exact .inr (.inr ⟨b,n,J⟩)
  ·have h:(js mp O.ph κ1.ph)[i]? = some (some (blk,n)):=h
   have B8:i<(js mp O.st gz).length:=by rw[<- hlen]; exact(Y.1 h).1
   rcases JN B8 with⟨h1,X⟩ | ⟨j,h1,rfl⟩
   ·rw[uph h1 X]at h; exact .inl h
   ·rw[cph h1]at h
    rcases U.phs j blk n h with h3 | h3
    ·obtain⟨b,Ls,FK⟩:=sph h3
     rw[Th Ls]; exact .inl FK
    ·exact .inr h3
  ·have Ts:=(Y.1 hi).1
   cases EH:pos mp i with
   | none=>exact⟨⟨d,(ust Ts EH).trans hi⟩,uph Ts EH⟩
   | some j =>
    have hmj:=tK EH
    obtain⟨k1,x,y,k2,k3,k4⟩:=key j i hmj
    rw[hi]at k2
    cases k2
    simp only[U5]at k3
    split at k3
    ·cases k3
     obtain⟨⟨d',g1⟩,g2⟩:=U.var j _ k4
     obtain⟨⟨d'',q1⟩,q2⟩:=hT.var j (fw j) d' rfl g1
     rw[Th hmj]at q1 q2
     exact⟨⟨d'',q1⟩,q2.trans (g2.trans k1)⟩
    ·cases k3
  ·have Ts:=(Y.1 hi).1
   cases EH:pos mp i with
   | none=>exact .inr ⟨v0,Uf,(ust Ts EH).trans hi,zJ _,λ_=>⟨uph Ts EH,rfl⟩⟩
   | some j =>
    have hmj:=tK EH
    obtain⟨k1,x,y,k2,k3,k4⟩:=key j i hmj
    rw[hi]at k2
    cases k2
    cases k3
    rcases U.arr j v0 e Uf k4 with g | ⟨v1,xs1,g1,g2,g3⟩
    ·obtain⟨y,q1,q2⟩:=cst g
     cases q2
     rw[Th hmj]at q1
     exact .inl q1
    ·obtain⟨y,q1,q2⟩:=cst g1
     cases q2
     rw[Th hmj]at q1
     refine .inr ⟨v1,xs1,q1,g2,λhe=>⟨?_,(g3 he).2⟩⟩
     have h4:=cph (Y.1 g1).1
     rw[Th hmj]at h4
     exact h4.trans ((g3 he).1.trans k1)
  ·have Ts:=(Y.1 hi).1
   cases EH:pos mp i with
   | none=>exact(ust Ts EH).trans hi
   | some j =>
    have hmj:=tK EH
    obtain⟨k1,x,y,k2,k3,k4⟩:=key j i hmj
    rw[hi]at k2
    cases k2
    cases k3
    obtain⟨y,q1,q2⟩:=cst (U.dead j k4)
    cases q2
    rw[Th hmj]at q1
    exact q1
  ·show O.st.length<=(js mp O.st gz).length
   simp[js,bg]
  ·exact U.frame k hk λj n hj=>by obtain⟨b,_,J⟩:=sph hj; exact hno b n J
 refine⟨⟨κ1.w,κ1.ok,js mp O.ph κ1.ph,js mp O.st gz⟩,rfl,rfl,⟨hlen,Uk.cp,λi blk n h => ?_,λi i' blk n n' h h' => ?_,λi y h => ?_,Uk.gl⟩,hE,hT⟩
 ·have h:(js mp O.ph κ1.ph)[i]? = some (some (blk,n)):=h
  have B8:i<(js mp O.st gz).length:=by rw[<- hlen]; exact(Y.1 h).1
  rcases JN B8 with⟨h1,X⟩ | ⟨j,h1,rfl⟩
  ·rw[uph h1 X]at h
   obtain⟨g1,g2⟩:=hI.apart i blk n h
   refine⟨Nat.lt_of_lt_of_le g1 U.size,λhk => ?_⟩
   rcases U.fresh blk hk with hk | hk | ⟨j,m,hj⟩
   ·exact g2 hk
   ·simp only at hk; omega
   ·obtain⟨b,Ls,FK⟩:=sph hj
    have:=hI.inj i b blk n m h FK
    subst this
    rw[pG hn Ls]at X
    cases X
  ·rw[cph h1]at h
   exact Uk.apart j blk n h
 ·have h:(js mp O.ph κ1.ph)[i]? = some (some (blk,n)):=h
  have h':(js mp O.ph κ1.ph)[i']? = some (some (blk,n')):=h'
  have z2w:i<(js mp O.st gz).length:=by rw[<- hlen]; exact(Y.1 h).1
  have MC:i'<(js mp O.st gz).length:=by rw[<- hlen]; exact(Y.1 h').1
  have mixed:∀ {i j n n':Nat},i<O.st.length->pos mp i=none->j<κ1.st.length->O.ph[i]? = some (some (blk,n))->κ1.ph[j]? = some (some (blk,n'))->False:=by
   intro i j n n' h1 X h3 h4 h5
   rcases U.phs j blk n' h5 with h6 | h6
   ·obtain⟨b,Ls,FK⟩:=sph h6
    have:=hI.inj i b blk n n' h4 FK
    subst this
    rw[pG hn Ls]at X
    cases X
   ·have:=(hI.apart i blk n h4).1
    simp only at h6
    omega
  rcases JN z2w with⟨h1,X⟩ | ⟨j,h1,rfl⟩
  ·rw[uph h1 X]at h
   rcases JN MC with⟨h3,h4⟩ | ⟨j',h3,rfl⟩
   ·rw[uph h3 h4]at h'; exact hI.inj i i' blk n n' h h'
   ·rw[cph h3]at h'; exact(mixed h1 X h3 h h').elim
  ·rw[cph h1]at h
   rcases JN MC with⟨h3,h4⟩ | ⟨j',h3,rfl⟩
   ·rw[uph h3 h4]at h'; exact(mixed h3 h4 h1 h' h).elim
   ·rw[cph h3]at h'
    rw[Uk.inj j j' blk n n' h h']
 ·have h:(js mp O.st gz)[i]? = some y:=h
  rcases JN (Y.1 h).1 with⟨h1,X⟩ | ⟨j,h1,rfl⟩
  ·rw[ust h1 X]at h
   exact(hI.blk i y h).mono hE (uph h1 X) λblk n J=>CN X J
  ·obtain⟨z,q1,q2⟩:=cst (zG h1)
   rw[h]at q1
   cases q1
   exact hT.blk (cph h1) (Uk.blk j _ (zG h1)) q2
end
inductive AK where
 | any | cur | sub | ptr | wi (f:Nat) | agg
structure bA where
 ks:List AK
 sh:ug
 dU:List Gh
 out:ug
 nr:Nat
 F:sh.den->T out.den
def Cp(fr:Fr):Nat->Nat->Option (List D)
 | 0,_=>some []
 | n+1,i=>match fr.get i with
  | some d=>match Cp fr n (i+1)with | some r=>some (d::r) | none=>none
  | none=>none
def pM(nr:Nat)(fr:Fr):Option (List D):=Cp fr nr 0
def z4h:List (Nat×Nat)->List D->Nat->Option Nat
 | p::r,.ptr b' _::ds,b=>bif R p.1 b then some b' else z4h r ds b
 | _,_,_=>none
def zjq(b:Nat):Ck->D->Option Nat
 | .ptr c _,.ptr b' _=>bif R c b then some b' else none
 | .cur c _,.ms b' _ _ _ _=>bif R c b then some b' else none
 | .wi _ l,.wi _ ds=>z4h l ds b
 | .yY c,.yY b'=>bif R c b then some b' else none
 | _,_=>none
def zf3(fr:Fr)(b:Nat):List (Nat×Ck)->Option Nat
 | []=>none
 | (s,k)::r=>match fr.get s with
  | some d=>match zjq b k d with | some b'=>some b' | none=>zf3 fr b r
  | none=>zf3 fr b r
def Is(b:Nat):List Mc->List D->Option Nat
 | .pt c::r,.ptr b' _::ds=>bif R c b then some b' else Is b r ds
 | .pt _::r,_::ds=>Is b r ds
 | .im _::r,_::ds=>Is b r ds
 | .rp _::r,_::ds=>Is b r ds
 | _,_=>none
def Jd(b:Nat):List Sk->List D->Option Nat
 | .im τ::r,ds=>Jd b r (ds.drop τ.size)
 | .row c _::r,.ms b' _ _ _ _::ds=>bif R c b then some b' else Jd b r ds
 | .row _ _::r,_::ds=>Jd b r ds
 | .op c _::r,.eS b' _::ds=>bif R c b then some b' else Jd b r ds
 | .op _ _::r,_::ds=>Jd b r ds
 | .un::r,_::ds=>Jd b r ds
 | .nl::r,_::ds=>Jd b r ds
 | _,_=>none
def KQ(fr:Fr)(b:Nat):List It->Option Nat
 | []=>none
 | .s s (.mclo _ ms)::r=>match fr.get s with
  | some (.wi _ l)=>match Is b ms l with | some b'=>some b' | none=>KQ fr b r
  | _=>KQ fr b r
 | .s s (.sub c _)::r=>match fr.get s with
  | some (.ms b' _ _ _ _)=>bif R c b then some b' else KQ fr b r
  | _=>KQ fr b r
 | .s s (.st ks)::r=>match fr.get s with
  | some d=>match Jd b ks (xz d)with | some b'=>some b' | none=>KQ fr b r
  | none=>KQ fr b r
 | _::r=>KQ fr b r
def z07(st:St)(b:Nat):List Bk->List (Option Nat)->Option Nat
 | .cvar k::r,some p::ps=>match st[p]? with
  | some (.var d)=>match zjq b k d with | some b'=>some b' | none=>z07 st b r ps
  | _=>z07 st b r ps
 | .var (.st ks)::r,some p::ps=>match st[p]? with
  | some (.var d)=>match Jd b ks (xz d)with | some b'=>some b' | none=>z07 st b r ps
  | _=>z07 st b r ps
 | _::r,_::ps=>z07 st b r ps
 | _,_=>none
def z03(sh:ug)(fr:Fr):Nat->List Bk->List (Option Nat)
 | _,[]=>[]
 | b,_::r=>(match zf3 fr b sh.cs with | some b'=>some b' | none=>KQ fr b sh.gv)::z03 sh fr (b+1) r
def z04(sh:ug)(st:St)(m:List (Option Nat)):Nat->List (Option Nat)->List (Option Nat)
 | _,[]=>[]
 | b,some b'::r=>some b'::z04 sh st m (b+1) r
 | b,none::r=>z07 st b sh.bs m::z04 sh st m (b+1) r
def EV:List (Option Nat)->Option (List Nat)
 | []=>some []
 | some b::r=>match EV r with | some l=>some (b::l) | none=>none
 | none::_=>none
def mapOf(sh:ug)(fr:Fr)(st:St):Option (List Nat):=let m:=z03 sh fr 0 sh.bs
 let m:=z04 sh st m 0 m
 EV (z04 sh st m 0 m)
def bA.back(d:bA)(mp:List Nat)(st:St)(y:d.out.den):T (HK×St):=match pM d.nr (d.out.fr y),pc (λj=>some (fwd mp st.length j)) (d.out.st y)with
 | some ds,some gz=>match W4 (λj=>some (fwd mp st.length j)) ds with
  | some Dh=>.ret (.ret Dh,js mp st gz)
  | none=>.fail
 | _,_=>.fail
def bA.inner(d:bA)(mp:List Nat)(fr:Fr)(st:St):T (HK×St):=match lv st mp with
 | none=>.fail
 | some l=>match pc (pos mp) l with
  | none=>.fail
  | some eb=>(d.sh.un (Vl (pos mp) fr) eb).bind λx=>(d.F x).bind λy=>d.back mp st y
def bA.S(d:bA)(args:List D)(st:St):T (HK×St) :=
 match mapOf d.sh (gh d.dU (yD args 0) st).1 (gh d.dU (yD args 0) st).2 with
 | none=>.fail
 | some mp=>bif dc mp&&zM mp.length d.sh.bs.length&&R args.length d.ks.length then d.inner mp (gh d.dU (yD args 0) st).1 (gh d.dU (yD args 0) st).2 else .fail
def bA.QR{α:Type}(d:bA)(mp:List Nat)(st:St)(y:d.out.den)(k:List D->St->T α):T α:=match pM d.nr (d.out.fr y),pc (λj=>some (fwd mp st.length j)) (d.out.st y)with
 | some ds,some gz=>match W4 (λj=>some (fwd mp st.length j)) ds with
  | some Dh=>k Dh (js mp st gz)
  | none=>.fail
 | _,_=>.fail
def bA.XG{α:Type}(d:bA)(mp:List Nat)(fr:Fr)(st:St)(k:List D->St->T α):T α:=match lv st mp with
 | none=>.fail
 | some l=>match pc (pos mp) l with
  | none=>.fail
  | some eb=>(d.sh.un (Vl (pos mp) fr) eb).bind λx=>(d.F x).bind λy=>d.QR mp st y k
def bA.K{α:Type}(d:bA)(args:List D)(st:St)(k:List D->St->T α):T α :=
 match mapOf d.sh (gh d.dU (yD args 0) st).1 (gh d.dU (yD args 0) st).2 with
 | none=>.fail
 | some mp=>bif dc mp&&zM mp.length d.sh.bs.length&&R args.length d.ks.length then d.XG mp (gh d.dU (yD args 0) st).1 (gh d.dU (yD args 0) st).2 k else .fail
theorem bA.z0T{α:Type}{d:bA}{args:List D}{st:St}{k:List D->St->T α}{r:α}(h:(d.K args st k).leads r):∃ ds qm,(d.S args st).leads (.ret ds,qm)/\(k ds qm).leads r:=by
 unfold bA.K at h
 unfold bA.S
 split at h
 ·exact h.elim
 ·rename_i mp Yj
  cases hc:dc mp&&zM mp.length d.sh.bs.length&&R args.length d.ks.length with
  | false=>rw[hc]at h; exact h.elim
  | true =>
   rw[hc,cond_true]at h
   unfold bA.XG at h
   unfold bA.inner
   split at h
   ·exact h.elim
   ·rename_i l B
    split at h
    ·exact h.elim
    ·rename_i eb hst1
     obtain⟨x,h1,h⟩:=T.zh.1 h
     obtain⟨y,X,h⟩:=T.zh.1 h
     unfold bA.QR at h
     split at h
     ·rename_i ds gz e1 e2
      split at h
      ·rename_i Dh e3
       refine⟨Dh,_,T.zh.2 ⟨x,h1,T.zh.2 ⟨y,X,?_⟩⟩,h⟩
       unfold bA.back
       simp only[e1,e2,e3]
       rfl
      ·exact h.elim
     ·exact h.elim
def cX(Dr:z0R)(g:Nat)(d:bA):Prop:=∀ (O:KS) (x:d.sh.den) (xa:List Value) (y:d.out.den),O.st=d.sh.st x->(d.F x).leads y->Inv O->xa.length=d.ks.length ->
 Rel O xa.length (d.sh.fr x).get { tmps:=xa.toArray,defers:=[] } ->
 Dr g xa.toArray O.w λe w'=>∃ (E:KS) (ds:List D),E.w=w'/\E.st=d.out.st y/\Inv E/\Ext O E/\pM d.nr (d.out.fr y)=some ds/\jr E (.ret ds) e
def xw(P:Program)(g:Nat)(d:bA):Prop:=∀ (O:KS) (x:d.sh.den) (xa:List Value) (y:d.out.den),O.st=d.sh.st x->(d.F x).leads y->Inv O->xa.length=d.ks.length ->
 Rel O xa.length (d.sh.fr x).get { tmps:=xa.toArray,defers:=[] } ->
 gM P g xa.toArray O.w λe w'=>∃ (E:KS) (ds:List D),E.w=w'/\E.st=d.out.st y/\Inv E/\Ext O E/\pM d.nr (d.out.fr y)=some ds/\jr E (.ret ds) e
theorem El{O E:KS}{f:Nat->Option Nat}(h:Tr O E f){ds Dh:List D}{v:Value}(V:RD O (fy ds) v)(hr:W4 f ds=some Dh):RD E (fy Dh) v:=by
 match ds,hr with
 | [],hr =>
  cases hr
  cases V with
  | fj _ vs B hh =>
   obtain rfl:vs=[]:=zY B.symm
   exact .fj [] [] rfl (λi h=>absurd h (qN i))
 | [d],hr =>
  simp only[W4]at hr
  split at hr
  ·rename_i d' h1
   cases hr
   exact h.rd V h1
  ·cases hr
 | d::e::r,hr =>
  cases V with
  | fj _ vs B hh =>
   have hR:=h.rds (⟨B,hh⟩:wP O (d::e::r) vs) hr
   simp only[W4]at hr
   split at hr
   ·split at hr
    ·rename_i r' X
     cases hr
     split at X
     ·split at X
      ·cases X; exact .fj _ vs hR.1 hR.2
      ·cases X
     ·cases X
    ·cases hr
   ·cases hr
theorem Qs{α β:Type}{l:List α}{m:List β}(h:l.length=m.length):∀ {mp:List Nat} {r:List α},lv l mp=some r->∃ q,lv m mp=some q
 | [],_,_=>⟨[],rfl⟩
 | b::mp,r,hr=>by
  simp only[lv]at hr
  split at hr
  ·rename_i x U
   split at hr
   ·rename_i y hy
    obtain⟨q,hq⟩:=Qs h hy
    have J:b<m.length:=by have:=(Y.1 U).1; omega
    exact⟨m[b]::q,by simp only[lv,zG J,hq]⟩
   ·cases hr
  ·cases hr
theorem bA.zfn{Dr:z0R}(zit:∀ {g a w} {zD R':Ending->World->Prop},Dr g a w zD->(∀ e w',zD e w'->R' e w')->Dr g a w R'){g:Nat}{d:bA}(h:cX Dr g d):zoz Dr g d.S:=by
 intro O args xa rs qm B hI ha
 have hR0:Rel O xa.length (yD args 0).get { tmps:=xa.toArray,defers:=[] }:=by
  have:=Yr (n:=xa.length) ha (by rw[ha.1]; exact zJ _)
  simpa[show(BB.df:List Deferred)=[]from rfl]using this
 obtain⟨κ0,w1,w2,w3,w4,w5⟩:=tD d.dU (yD args 0) O hI hR0
 unfold bA.S at B
 rw[<- w2]at B
 split at B
 ·exact B.elim
 ·rename_i mp Yj
  cases hc:dc mp&&zM mp.length d.sh.bs.length&&R args.length d.ks.length with
  | false=>rw[hc]at B; exact B.elim
  | true =>
   rw[hc,cond_true]at B
   simp only[I]at hc
   obtain⟨⟨hn,hle⟩,hlen⟩:=hc
   unfold bA.inner at B
   split at B
   ·exact B.elim
   ·rename_i l Gq
    split at B
    ·exact B.elim
    ·rename_i eb hst1
     obtain⟨x,h1,B⟩:=T.zh.1 B
     obtain⟨y,X,B⟩:=T.zh.1 B
     obtain⟨p1,hpp⟩:=Qs (m:=κ0.ph) w3.len.symm Gq
     obtain⟨s1,s2,s3,s4,s5⟩:=Eg w3 hn hpp Gq hst1
     have BU:Rel ⟨κ0.w,κ0.ok,p1,eb⟩ xa.length (Vl (pos mp) (gh d.dU (yD args 0) O.st).1).get { tmps:=xa.toArray,defers:=[] } :=
      ⟨w5.size,w5.defers,λs d' V=>by
       obtain⟨d0,q1,q2⟩:=WQ V
       obtain⟨v,q3,q4⟩:=w5.get s d0 q1
       exact⟨v,q3,s2.rd q4 q2⟩⟩
     obtain⟨κ2,u1,u2,u3,u4,u5,_⟩:=d.sh.Y8 (κ0:=⟨κ0.w,κ0.ok,p1,eb⟩) (O:=⟨κ0.w,κ0.ok,p1,eb⟩) (Ext.refl _) s1 BU (by show eb.length<=_; rw[s3]; exact zE hle) h1
     have hw:κ2.w=O.w:=u1.trans w1
     have hdo:=h κ2 x xa y u2 X u3 (by rw[<- ha.1]; exact zA hlen) u5
     rw[hw]at hdo
     refine zit hdo ?_
     rintro e w' ⟨κ3,ds,rfl,g1,g2,g3,g4,v,rfl,g5⟩
     unfold bA.back at B
     rw[g4,<- g1]at B
     split at B
     ·rename_i ds0 gz e1 e2
      cases e1
      split at B
      ·rename_i Dh hds'
       cases B
       obtain⟨E,k1,k2,k3,k4,k5⟩:=Ys w3 hn hpp Gq hst1 g2 (u4.trans g3) e2
       exact⟨E,k1,k2,k3,w4.trans k4,v,rfl,El k5 g5 hds'⟩
      ·exact B.elim
     ·exact B.elim
theorem bA.snd{P:Program}{g:Nat}{d:bA}(h:xw P g d):EC P g d.S:=bA.zfn (Dr:=gM P) gM.mono h
structure mh where
 ks:List AK
 sh:ug
 dU:List Gh
 out:ug
 nr:Nat
 pt:Nat
 bC:ug
 two:Option Nat
 F:sh.den->T (out.den⊕bC.den)
abbrev mh.s(d:mh):bA:=⟨d.ks,d.sh,d.dU,d.out,d.nr,λ_=>.fail⟩
abbrev mh.s2(d:mh)(n:Nat):bA:=⟨d.ks,d.sh,d.dU,d.bC,n,λ_=>.fail⟩
def mh.z4C{α:Type}(d:mh)(mp:List Nat)(st:St)(z:d.bC.den)(kp:D->St->T α):T α:=match(d.bC.fr z).get 0,pc (λj=>some (fwd mp st.length j)) (d.bC.st z)with
 | some (.qj τ x),some gz=>kp (.iface d.pt (.qj τ x)) (js mp st gz)
 | _,_=>.fail
def mh.NC{α:Type}(d:mh)(mp:List Nat)(st:St)(z:d.bC.den)(k:List D->St->T α)(kp:D->St->T α):T α:=match d.two with
 | none=>d.z4C mp st z kp
 | some n=>(d.s2 n).QR mp st z k
def mh.XG{α:Type}(d:mh)(mp:List Nat)(fr:Fr)(st:St)(k:List D->St->T α)(kp:D->St->T α):T α:=match lv st mp with
 | none=>.fail
 | some l=>match pc (pos mp) l with
  | none=>.fail
  | some eb=>(d.sh.un (Vl (pos mp) fr) eb).bind λx=>(d.F x).bind (Sum.elim (λy=>d.s.QR mp st y k) (λz=>d.NC mp st z k kp))
def mh.K{α:Type}(d:mh)(args:List D)(st:St)(k:List D->St->T α)(kp:D->St->T α):T α :=
 match mapOf d.sh (gh d.dU (yD args 0) st).1 (gh d.dU (yD args 0) st).2 with
 | none=>.fail
 | some mp=>bif dc mp&&zM mp.length d.sh.bs.length&&R args.length d.ks.length then d.XG mp (gh d.dU (yD args 0) st).1 (gh d.dU (yD args 0) st).2 k kp else .fail
def mh.S(d:mh)(args:List D)(st:St):T (HK×St):=d.K args st (λds qm=>.ret (.ret ds,qm)) (λp qm=>.ret (.bC p,qm))
theorem mh.z0T{α:Type}{d:mh}{args:List D}{st:St}{k:List D->St->T α}{kp:D->St->T α}{r:α}(h:(d.K args st k kp).leads r) :
  (∃ ds qm,(d.S args st).leads (.ret ds,qm)/\(k ds qm).leads r)\/∃ p qm,(d.S args st).leads (.bC p,qm)/\(kp p qm).leads r:=by
 unfold mh.K at h
 unfold mh.S mh.K
 split at h
 ·exact h.elim
 ·rename_i mp Yj
  cases hc:dc mp&&zM mp.length d.sh.bs.length&&R args.length d.ks.length with
  | false=>rw[hc]at h; exact h.elim
  | true =>
   rw[hc,cond_true]at h
   unfold mh.XG at h
   unfold mh.XG
   split at h
   ·exact h.elim
   ·rename_i l B
    split at h
    ·exact h.elim
    ·rename_i eb hst1
     obtain⟨x,h1,h⟩:=T.zh.1 h
     obtain⟨y,X,h⟩:=T.zh.1 h
     cases y with
     | inl y =>
      simp at h
      unfold bA.QR at h
      split at h
      ·rename_i ds gz e1 e2
       split at h
       ·rename_i Dh e3
        refine .inl ⟨Dh,_,T.zh.2 ⟨x,h1,T.zh.2 ⟨.inl y,X,?_⟩⟩,h⟩
        simp
        unfold bA.QR
        simp only[e1,e2,e3]
        rfl
       ·exact h.elim
      ·exact h.elim
     | inr z =>
      simp at h
      unfold mh.NC at h
      split at h
      ·rename_i h0
       unfold mh.z4C at h
       split at h
       ·rename_i τ p gz e1 e2
        refine .inr ⟨_,_,T.zh.2 ⟨x,h1,T.zh.2 ⟨.inr z,X,?_⟩⟩,h⟩
        simp
        unfold mh.NC mh.z4C
        simp only[h0,e1,e2]
        rfl
       ·exact h.elim
      ·rename_i n h0
       unfold bA.QR at h
       split at h
       ·rename_i ds gz e1 e2
        split at h
        ·rename_i Dh e3
         refine .inl ⟨Dh,_,T.zh.2 ⟨x,h1,T.zh.2 ⟨.inr z,X,?_⟩⟩,h⟩
         simp
         unfold mh.NC bA.QR
         simp only[h0,e1,e2,e3]
         rfl
        ·exact h.elim
       ·exact h.elim
def jx(P:Program)(g:Nat)(d:mh):Prop:=∀ (O:KS) (x:d.sh.den) (xa:List Value) (r:d.out.den⊕d.bC.den),O.st=d.sh.st x->(d.F x).leads r->Inv O->xa.length=d.ks.length ->
 Rel O xa.length (d.sh.fr x).get { tmps:=xa.toArray,defers:=[] } ->
 gM P g xa.toArray O.w λe w'=>∃ E:KS,E.w=w'/\Inv E/\Ext O E /\
  ((∃ (y:d.out.den) (ds:List D),r=.inl y/\E.st=d.out.st y/\pM d.nr (d.out.fr y)=some ds/\jr E (.ret ds) e) \/
   (d.two=none/\∃ (z:d.bC.den) (p:D),r=.inr z/\E.st=d.bC.st z/\(d.bC.fr z).get 0=some p/\jr E (.bC (.iface d.pt p)) e) \/
   ∃ (n:Nat) (z:d.bC.den) (ds:List D),d.two=some n/\r=.inr z/\E.st=d.bC.st z/\pM n (d.bC.fr z)=some ds/\jr E (.ret ds) e)
theorem mh.snd{P:Program}{g:Nat}{d:mh}(h:jx P g d):EC P g d.S:=by
 intro O args xa rs qm B hI ha
 have hR0:Rel O xa.length (yD args 0).get { tmps:=xa.toArray,defers:=[] }:=by
  have:=Yr (n:=xa.length) ha (by rw[ha.1]; exact zJ _)
  simpa[show(BB.df:List Deferred)=[]from rfl]using this
 obtain⟨κ0,w1,w2,w3,w4,w5⟩:=tD d.dU (yD args 0) O hI hR0
 unfold mh.S mh.K at B
 rw[<- w2]at B
 split at B
 ·exact B.elim
 ·rename_i mp Yj
  cases hc:dc mp&&zM mp.length d.sh.bs.length&&R args.length d.ks.length with
  | false=>rw[hc]at B; exact B.elim
  | true =>
   rw[hc,cond_true]at B
   simp only[I]at hc
   obtain⟨⟨hn,hle⟩,hlen⟩:=hc
   unfold mh.XG at B
   split at B
   ·exact B.elim
   ·rename_i l Gq
    split at B
    ·exact B.elim
    ·rename_i eb hst1
     obtain⟨x,h1,B⟩:=T.zh.1 B
     obtain⟨y,X,B⟩:=T.zh.1 B
     obtain⟨p1,hpp⟩:=Qs (m:=κ0.ph) w3.len.symm Gq
     obtain⟨s1,s2,s3,s4,s5⟩:=Eg w3 hn hpp Gq hst1
     have BU:Rel ⟨κ0.w,κ0.ok,p1,eb⟩ xa.length (Vl (pos mp) (gh d.dU (yD args 0) O.st).1).get { tmps:=xa.toArray,defers:=[] } :=
      ⟨w5.size,w5.defers,λs d' V=>by
       obtain⟨d0,q1,q2⟩:=WQ V
       obtain⟨v,q3,q4⟩:=w5.get s d0 q1
       exact⟨v,q3,s2.rd q4 q2⟩⟩
     obtain⟨κ2,u1,u2,u3,u4,u5,_⟩:=d.sh.Y8 (κ0:=⟨κ0.w,κ0.ok,p1,eb⟩) (O:=⟨κ0.w,κ0.ok,p1,eb⟩) (Ext.refl _) s1 BU (by show eb.length<=_; rw[s3]; exact zE hle) h1
     have hw:κ2.w=O.w:=u1.trans w1
     have hdo:=h κ2 x xa y u2 X u3 (by rw[<- ha.1]; exact zA hlen) u5
     rw[hw]at hdo
     refine hdo.mono ?_
     rintro e w' ⟨κ3,rfl,g2,g3,⟨y,ds,rfl,g1,g4,v,rfl,g5⟩ | ⟨g0,z,p,rfl,g1,g4,v,rfl,g5⟩ | ⟨n2,z,ds,g0,rfl,g1,g4,v,rfl,g5⟩⟩
     ·simp only[Sum.elim_inl]at B
      unfold bA.QR at B
      rw[show pM d.s.nr (d.s.out.fr y)=some ds from g4,show d.s.out.st y=κ3.st from g1.symm]at B
      split at B
      ·rename_i ds0 gz e1 e2
       cases e1
       split at B
       ·rename_i Dh hds'
        cases B
        obtain⟨E,k1,k2,k3,k4,k5⟩:=Ys w3 hn hpp Gq hst1 g2 (u4.trans g3) e2
        exact⟨E,k1,k2,k3,w4.trans k4,v,rfl,El k5 g5 hds'⟩
       ·exact B.elim
      ·exact B.elim
     ·simp only[Sum.elim_inr]at B
      unfold mh.NC at B
      rw[g0]at B
      simp only at B
      unfold mh.z4C at B
      rw[g4,<- g1]at B
      split at B
      ·rename_i τ q gz e1 e2
       cases e1
       cases B
       obtain⟨E,k1,k2,k3,k4,k5⟩:=Ys w3 hn hpp Gq hst1 g2 (u4.trans g3) e2
       refine⟨E,k1,k2,k3,w4.trans k4,v,rfl,?_⟩
       cases g5 with
       | iface _ _ u hu=>exact .iface _ _ u (k5.rd hu rfl)
      ·exact B.elim
     ·simp only[Sum.elim_inr]at B
      unfold mh.NC at B
      rw[g0]at B
      simp only at B
      unfold bA.QR at B
      rw[show pM (d.s2 n2).nr ((d.s2 n2).out.fr z)=some ds from g4,show(d.s2 n2).out.st z=κ3.st from g1.symm]at B
      split at B
      ·rename_i ds0 gz e1 e2
       cases e1
       split at B
       ·rename_i Dh hds'
        cases B
        obtain⟨E,k1,k2,k3,k4,k5⟩:=Ys w3 hn hpp Gq hst1 g2 (u4.trans g3) e2
        exact⟨E,k1,k2,k3,w4.trans k4,v,rfl,El k5 g5 hds'⟩
       ·exact B.elim
      ·exact B.elim
end Go.AM
namespace Go.AM
def Ds(sh:ug)(dU:List Gh)(args:List D)(st:St):List Nat:=bif dU.isEmpty then match mapOf sh (yD args 0) st with | some mp=>others st.length mp | none=>[]else[]
def bA.free(d:bA)(args:List D)(st:St):List Nat:=Ds d.sh d.dU args st
def mh.free(d:mh)(args:List D)(st:St):List Nat:=Ds d.sh d.dU args st
theorem Il{m b:Nat}{l:List Nat}(h:b∈others m l):b<m/\∀ x∈l,b≠x:=by
 simp only[others,List.mem_filter,List.mem_range,qF,List.any_eq_false]at h
 exact⟨h.1,λx U e=>by subst e; exact h.2 b U (qS _)⟩
theorem Jk:∀ {mp:List Nat} {b:Nat},(∀ x∈mp,b≠x)->pos mp b=none
 | [],_,_=>rfl
 | x::r,b,h=>by
  simp only[pos]
  rw[show R x b=false from by cases J:R x b with | false=>rfl | true=>exact absurd (zA J).symm (h x zQ),cond_false,Jk λy hy=>h y (zI _ hy)]
theorem Gm{sh:ug}{dU:List Gh}{args:List D}{st:St}{b:Nat}(J:b∈Ds sh dU args st):dU=[]/\∃ mp,mapOf sh (yD args 0) st=some mp/\b<st.length/\pos mp b=none:=by
 unfold Ds at J
 cases hn:dU.isEmpty with
 | false=>grind
 | true =>
  rw[hn,cond_true]at J
  refine⟨zW.1 hn,?_⟩
  split at J
  ·rename_i mp Yj
   obtain⟨h1,X⟩:=Il J
   exact⟨mp,Yj,h1,Jk X⟩
  ·cases J
theorem bA.UM{d:bA}{args:List D}{st qm:St}{rs:HK}{b:Nat}(h:(d.S args st).leads (rs,qm))(J:b∈d.free args st):qm[b]? = st[b]? := by
 obtain⟨hn,mp,Yj,wO,V6⟩:=Gm J
 unfold bA.S at h
 rw[hn]at h
 simp only[gh,Yj]at h
 cases hc:dc mp&&zM mp.length d.sh.bs.length&&R args.length d.ks.length with
 | false=>rw[hc]at h; exact h.elim
 | true =>
  rw[hc,cond_true]at h
  unfold bA.inner at h
  split at h
  ·exact h.elim
  ·split at h
   ·exact h.elim
   ·obtain⟨x,_,h⟩:=T.zh.1 h
    obtain⟨y,_,h⟩:=T.zh.1 h
    unfold bA.back at h
    split at h
    ·split at h
     ·cases h; exact mn wO V6
     ·exact h.elim
    ·exact h.elim
theorem mh.UM{d:mh}{args:List D}{st qm:St}{rs:HK}{b:Nat}(h:(d.S args st).leads (rs,qm))(J:b∈d.free args st):qm[b]? = st[b]? := by
 obtain⟨hn,mp,Yj,wO,V6⟩:=Gm J
 unfold mh.S mh.K at h
 rw[hn]at h
 simp only[gh,Yj]at h
 cases hc:dc mp&&zM mp.length d.sh.bs.length&&R args.length d.ks.length with
 | false=>rw[hc]at h; exact h.elim
 | true =>
  rw[hc,cond_true]at h
  unfold mh.XG at h
  split at h
  ·exact h.elim
  ·split at h
   ·exact h.elim
   ·obtain⟨x,_,h⟩:=T.zh.1 h
    obtain⟨y,_,h⟩:=T.zh.1 h
    cases y with
    | inl y =>
     simp at h
     unfold bA.QR at h
     split at h
     ·split at h
      ·cases h; exact mn wO V6
      ·exact h.elim
     ·exact h.elim
    | inr z =>
     simp at h
     unfold mh.NC at h
     split at h
     ·unfold mh.z4C at h
      split at h
      ·cases h; exact mn wO V6
      ·exact h.elim
     ·unfold bA.QR at h
      split at h
      ·split at h
       ·cases h; exact mn wO V6
       ·exact h.elim
      ·exact h.elim
def pN:It->Bool
 | .s _ (.qj _)=>true
 | .a _=>true
 | _=>false
def WJ:Bk->Bool
 | .arr _=>true
 | _=>false
def H8(o:ug):Bool:=o.cs.isEmpty&&o.gv.all pN&&o.bs.all WJ
def bA.X3(d:bA)(args:List D):Option (List Nat):=bif d.dU.isEmpty&&H8 d.out&&zM d.out.bs.length d.sh.bs.length then EV (z03 d.sh (yD args 0) 0 d.sh.bs)else none
theorem Ij(sh:ug)(st:St)(m':List (Option Nat)):∀ (m:List (Option Nat)) (b:Nat) (l:List Nat),EV m=some l->z04 sh st m' b m=m
 | [],_,_,_=>rfl
 | some x::r,b,l,h=>by
  simp only[EV]at h
  split at h
  ·rename_i l' B; simp only[z04,Ij sh st m' r (b+1) l' B]
  ·cases h
 | none::_,_,_,h=>by cases h
theorem z3Y{sh:ug}{fr:Fr}{st:St}{l:List Nat}(h:EV (z03 sh fr 0 sh.bs)=some l):mapOf sh fr st=some l:=by
 simp only[mapOf,Ij sh st _ _ 0 l h]
 exact h
theorem EX:∀ {m:List (Option Nat)} {l:List Nat},EV m=some l->l.length=m.length
 | [],_,h=>by cases h; rfl
 | some x::r,_,h=>by
  simp only[EV]at h
  split at h
  ·rename_i l' B; cases h; simp[EX B]
  ·cases h
 | none::_,_,h=>by cases h
theorem Ii(sh:ug)(fr:Fr):∀ (bs:List Bk) (b:Nat),(z03 sh fr b bs).length=bs.length
 | [],_=>rfl
 | _::r,b=>by simp only[z03,qK,Ii sh fr r (b+1)]
theorem U0{α:Type}{l:List α}(x:α):∀ {mp:List Nat} {r:List α},lv l mp=some r->lv (l++[x]) mp=some r/\∀ b∈mp,b<l.length
 | [],_,h=>⟨h,λb J=>by cases J⟩
 | b::mp,r,h=>by
  simp only[lv]at h
  split at h
  ·rename_i y hy
   split at h
   ·rename_i z hz
    cases h
    obtain⟨h1,X⟩:=U0 x hz
    have J:=(Y.1 hy).1
    refine⟨?_,λc hc=>(zH.1 hc).elim (λe=>e▸J) (X c)⟩
    simp only[lv,zK J,hy,h1]
   ·cases h
  ·cases h
theorem Kt{α:Type}(mp:List Nat)(new:List α)(x:α):∀ (l:List α) (i:Nat),pos mp (i+l.length)=none->oh mp new i (l++[x])=oh mp new i l++[x]
 | [],i,h=>by simp only[List.length_nil,Nat.add_zero]at h; simp[oh,h]
 | y::r,i,h=>by
  have:=Kt mp new x r (i+1) (by rw[<- h]; congr 1; simp; omega)
  simp[oh,this]
theorem Cl(st0:St):∀ (bs:List Bk) (l:List Bd),bs.all WJ=true->∀ b∈jN st0 bs l,∀ f,U5 f b=some b
 | [],_,_,b,J,_=>by cases J
 | .arr e::r,l,ha,b,J,f=>by
  simp only[zF,I]at ha
  cases l with
  | nil=>simp[jN]at J
  | cons z l =>
   cases z with
   | a e' xs =>
    rcases zH.1 (show b∈dn.arr xs.length e' xs::jN st0 r l from J)with rfl | J
    ·rfl
    ·exact Cl st0 r l ha.2 b J f
   | v k y=>simp[jN]at J
 | .var _::r,_,ha,_,_,_=>by simp[WJ]at ha
 | .cvar _::r,_,ha,_,_,_=>by simp[WJ]at ha
 | .dead::r,_,ha,_,_,_=>by simp[WJ]at ha
theorem IM:∀ (l:List dn) (f:Nat->Option Nat),(∀ b∈l,U5 f b=some b)->pc f l=some l
 | [],_,_=>rfl
 | b::r,f,h=>by simp only[pc,h b zQ,IM r f λx U=>h x (zI _ U)]
theorem GP(st:St):∀ (gv:List It) (x:jZ gv),gv.all pN=true->∀ s d,(nR st gv x).get s=some d->∀ f,sF f d=some d
 | [],_,_,s,d,h,_=>by cases h
 | [i],x,ha,s,d,h,f=>by
  cases i with
  | s t k =>
   cases k with
   | qj τ =>
    simp only[nR,X9,Fr.get]at h
    cases J:R t s with
    | true=>rw[J]at h; cases h; rfl
    | false=>rw[J]at h; cases h
   | _=>simp[pN]at ha
  | v k=>simp[pN]at ha
  | a e=>cases h
 | i::j::r,x,ha,s,d,h,f=>by
  have ha':pN i=true/\(j::r).all pN=true:=by simpa using ha
  cases i with
  | s t k =>
   cases k with
   | qj τ =>
    simp only[nR,X9,Fr.get]at h
    cases J:R t s with
    | true=>rw[J]at h; cases h; rfl
    | false=>rw[J]at h; exact GP st (j::r) x.2 ha'.2 s d h f
   | _=>simp[pN]at ha'
  | v k=>simp[pN]at ha'
  | a e=>exact GP st (j::r) x.2 ha'.2 s d h f
theorem H4{fr:Fr}(hf:∀ s d,fr.get s=some d->∀ f,sF f d=some d):∀ (n i:Nat) (ds:List D),Cp fr n i=some ds->∀ f,W4 f ds=some ds
 | 0,_,ds,h,f=>by cases h; rfl
 | n+1,i,ds,h,f=>by
  simp only[Cp]at h
  split at h
  ·rename_i d V
   split at h
   ·rename_i r hr
    cases h
    simp only[W4,hf i d V f,H4 hf n (i+1) r hr f]
   ·cases h
  ·cases h
theorem GR(st0:St):∀ (bs:List Bk) (l:List Bd),(jN st0 bs l).length<=bs.length
 | [],l=>by simp[jN]
 | b::r,l=>by
  cases b<;>cases l<;>(try (rename_i z _; cases z))<;>simp only[jN,qK,List.length_nil]<;>first | omega | (have:=GR st0 r; grind)
theorem bA.Hy{d:bA}{args:List D}{hx:List Nat}(ht:d.X3 args=some hx){st qm:St}{rs:HK}(h:(d.S args st).leads (rs,qm)) :
  qm.length=st.length/\(∀ b,b<st.length->b ∉ hx->qm[b]? = st[b]?)/\∀ x,(d.S args (st++[x])).leads (rs,qm++[x]):=by
 unfold bA.X3 at ht
 cases J:d.dU.isEmpty&&H8 d.out&&zM d.out.bs.length d.sh.bs.length with
 | false=>rw[J]at ht; cases ht
 | true =>
  rw[J,cond_true]at ht
  simp only[I]at J
  obtain⟨⟨hn,hp⟩,hle⟩:=J
  have hn:=zW.1 hn
  have hle:=zE hle
  have hm:∀ s:St,mapOf d.sh (yD args 0) s=some hx:=λs=>z3Y ht
  have hTl:hx.length=d.sh.bs.length:=(EX ht).trans (Ii ..)
  unfold bA.S at h ⊢
  rw[hn]at h
  simp only[gh,hm]at h
  cases hc:dc hx&&zM hx.length d.sh.bs.length&&R args.length d.ks.length with
  | false=>rw[hc]at h; exact h.elim
  | true =>
   rw[hc,cond_true]at h
   unfold bA.inner at h
   split at h
   ·exact h.elim
   ·rename_i l B
    split at h
    ·exact h.elim
    ·rename_i eb hst1
     obtain⟨x,h1,h⟩:=T.zh.1 h
     obtain⟨y,X,h⟩:=T.zh.1 h
     have hpo:d.out.cs.isEmpty=true/\d.out.gv.all pN=true/\d.out.bs.all WJ=true:=by
      unfold H8 at hp; simp only[I]at hp; exact⟨hp.1.1,hp.1.2,hp.2⟩
     have ud:∀ f,pc f (d.out.st y)=some (d.out.st y):=λf=>IM _ f λb J=>Cl _ _ _ hpo.2.2 b J f
     have hfr:∀ s e,(d.out.fr y).get s=some e->∀ f,sF f e=some e:=λs e he f=>by
      unfold ug.fr at he
      rw[zW.1 hpo.1,show za6 (d.out.st y) []=[]from rfl,zT]at he
      exact GP _ _ y hpo.2.1 s e he f
     have hlen:(d.out.st y).length<=hx.length:=by rw[hTl]; exact zV (GR _ _ _) hle
     unfold bA.back at h
     split at h
     ·rename_i ds gz hds hst2
      rw[ud]at hst2
      cases hst2
      rw[H4 hfr _ _ _ hds]at h
      cases h
      obtain⟨hl0,wO⟩:=U0 (.dead:dn) B
      have V6:pos hx st.length=none:=Jk λb J e=>by have:=wO b J; omega
      have FN:(d.out.st y).drop hx.length=[]:=List.drop_eq_nil_of_le hlen
      refine⟨?_,λb J hbt=>mn J (Jk λc hc e=>hbt (e▸hc)),λz => ?_⟩
      ·simp[js,bg,FN]
      ·rw[hn]
       simp only[gh,hm]
       rw[hc,cond_true]
       unfold bA.inner
       rw[(U0 z B).1]
       simp only[hst1]
       refine T.zh.2 ⟨x,h1,T.zh.2 ⟨y,X,?_⟩⟩
       unfold bA.back
       rw[hds,ud]
       simp only[H4 hfr _ _ _ hds]
       show _=_
       simp only[js,FN,zT]
       rw[Kt hx _ z st 0 (by rw[qD]; exact V6)]
     ·exact h.elim
def Ui.den:Ui->Type
 | .ty τ=>AM.den τ
 | .rp τ=>AM.den τ
 | .wi _ caps=>iE caps
def eJ:List Ui->Type
 | []=>Unit
 | [p]=>p.den
 | p::q::r=>p.den×eJ (q::r)
def mkP:(p:Ui)->p.den->D
 | .ty τ,x=>.qj τ x
 | .rp τ,x=>.vC τ x
 | .wi f caps,x=>.wi f (Qh caps x)
def Ke:(l:List Ui)->eJ l->List D
 | [],_=>[]
 | [p],x=>[mkP p x]
 | p::q::r,x=>mkP p x.1::Ke (q::r) x.2
def J1:(l:List Ty)->ED l->List D
 | [],_=>[]
 | [τ],x=>[.qj τ x]
 | τ::σ::r,x=>.qj τ x.1::J1 (σ::r) x.2
def rpX(st:St)(τ:Ty):D->T (den τ)
 | .vC _ x=>match(jX x:Option (den τ))with | some y=>.ret y | none=>.fail
 | .ptr b off=>match st[b]? with
  | some (.var d)=>match bif R off 0 then pA τ d else none with | some y=>.ret y | none=>.fail
  | _=>.fail
 | _=>.fail
def z7i(st:St):(p:JK)->D->T (den p.ty)
 | .im τ,d=>Uv st τ d
 | .rp τ,d=>rpX st τ d
def O8(st:St):(l:List JK)->List D->T (iE l)
 | [],[]=>.ret ()
 | [p],[d]=>z7i st p d
 | p::q::r,d::ds=>(z7i st p d).bind λx=>(O8 st (q::r) ds).bind λy=>.ret (x,y)
 | _,_=>.fail
def unP(st:St):(p:Ui)->D->T p.den
 | .ty τ,d=>Uv st τ d
 | .rp τ,d=>rpX st τ d
 | .wi f caps,d=>match d with
  | .wi f' l=>bif R f f' then O8 st caps l else .fail
  | _=>.fail
def La(st:St):(l:List Ui)->List D->T (eJ l)
 | [],[]=>.ret ()
 | [p],[d]=>unP st p d
 | p::q::r,d::ds=>(unP st p d).bind λx=>(La st (q::r) ds).bind λy=>.ret (x,y)
 | _,_=>.fail
def z5k(st:St):(l:List Ty)->List D->T (ED l)
 | [],[]=>.ret ()
 | [τ],[d]=>Uv st τ d
 | τ::σ::r,d::ds=>(Uv st τ d).bind λx=>(z5k st (σ::r) ds).bind λy=>.ret (x,y)
 | _,_=>.fail
structure ER where
 ps:List Ui
 rs:List Ty
 F:eJ ps->T (ED rs)
def zd7:Ui->D->Bool
 | .wi f _,d=>match d with | .wi f' _=>R f f' | _=>false
 | _,d=>match d with | .wi _ _=>false | _=>true
def fits:List Ui->List D->Bool
 | [],[]=>true
 | p::ps,d::ds=>zd7 p d&&fits ps ds
 | _,_=>false
def zd8:AK->D->Bool
 | .any,d=>match d with | .wi _ _=>false | _=>true
 | .cur,d=>match d with | .ms .. => true | .wF=>true | _=>false
 | .sub,d=>match d with | .ms .. => true | _=>false
 | .ptr,d=>match d with | .ptr .. => true | _=>false
 | .wi f,d=>match d with | .wi f' _=>R f f' | _=>false
 | .agg,d=>match d with | .agg _=>true | _=>false
def QZ:List AK->List D->Bool
 | [],[]=>true
 | p::ps,d::ds=>zd8 p d&&QZ ps ds
 | _,_=>false
inductive FnE where
 | d (x:ER)
 | s (x:bA)
 | p (x:mh)
def FnE.fits:FnE->List D->Bool
 | .d x,l=>AM.fits x.ps l
 | .s x,l=>QZ x.ks l
 | .p x,l=>QZ x.ks l
abbrev mj:=List (Nat×FnE)
def mj.find:mj->Nat->List D->Option FnE
 | [],_,_=>none
 | (g',d)::r,g,args=>bif R g' g&&d.fits args then some d else mj.find r g args
abbrev Sm:=List D->St->T (HK×St)
def ER.S(d:ER):Sm:=λargs st=>match st with
 | []=>(La [] d.ps args).bind λx=>(d.F x).bind λy=>.ret (.ret (J1 d.rs y),[])
 | _=>.fail
def mj.call(tab:mj)(g:Nat)(args:List D)(st:St):T (HK×St):=match tab.find g args with | some (.d d)=>d.S args st | some (.s d)=>d.S args st | some (.p d)=>d.S args st | none=>.fail
def mj.free(tab:mj)(g:Nat)(args:List D)(st:St):List Nat:=match tab.find g args with | some (.s d)=>d.free args st | some (.p d)=>d.free args st | _=>[]
theorem mj.UM(tab:mj)(g:Nat)(args:List D)(st:St)(rs:HK)(qm:St)(b:Nat)(h:(tab.call g args st).leads (rs,qm))(J:b∈tab.free g args st):qm[b]? = st[b]? := by
 unfold mj.call at h
 unfold mj.free at J
 split at J
 ·rename_i d V; rw[V]at h; exact bA.UM h J
 ·rename_i d V; rw[V]at h; exact mh.UM h J
 ·cases J
def mj.X3(tab:mj)(g:Nat)(args:List D):Option (List Nat):=match tab.find g args with | some (.s d)=>d.X3 args | _=>none
theorem mj.Hy(tab:mj)(g:Nat)(args:List D)(hx:List Nat)(st:St)(rs:HK)(qm:St)(ht:tab.X3 g args=some hx)(h:(tab.call g args st).leads (rs,qm)) :
  qm.length=st.length/\(∀ b,b<st.length->b ∉ hx->qm[b]? = st[b]?)/\∀ x,(tab.call g args (st++[x])).leads (rs,qm++[x]):=by
 unfold mj.X3 at ht
 unfold mj.call at h ⊢
 split at ht
 ·rename_i d V
  rw[V]at h ⊢
  exact bA.Hy ht h
 ·cases ht
def bf(P:Program)(xid:Nat)(tab:mj)(ro:Nat->Bool):Ctx :=
 { P,xid,ro,sig:=λg args=>match tab.find g args with | some (.d d)=>some ⟨d.ps,d.rs⟩ | _=>none,fn:=tab.call,free:=tab.free,z1G:=tab.UM,X3:=tab.X3,Sh:=tab.Hy }
def zbb{α:Type}(tab:mj)(g:Nat)(args:List D)(st:St)(k:Nat->Option D->St->T α)(kp:D->St->T α):T α:=match tab.find g args with
 | none=>.fail
 | some (.d d)=>bif !(args.any Kg)then(La [] d.ps args).bind λx=>(d.F x).bind λy=>k 0 (some (fy (J1 d.rs y))) st
  else(La st d.ps args).bind λx=>(d.F x).bind λy=>bif (J1 d.rs y).all WU then k 1 (some (fy (J1 d.rs y))) st else .fail
 | some (.s d)=>d.K args st λds qm=>k 2 (some (fy ds)) qm
 | some (.p d)=>d.K args st (λds qm=>k 2 (some (fy ds)) qm) kp
def D7{α:Type}(tab:mj)(f:Option D)(args:List (Option D))(st:St)(k:Nat->Option D->St->T α)(kp:D->St->T α):T α:=match f,gO args with
 | some (.wi g caps),some l=>zbb tab (eP g) (cj g l caps) st k kp
 | _,_=>.fail
def p9(l:List Nat):Fr:=l.map λs=>(s,none)
def dstsOf:List Oper->List Nat
 | []=>[]
 | o::r=>match o.dst with | some t=>t::dstsOf r | none=>dstsOf r
def wG:Code->List Nat
 | .region _ ops _=>dstsOf ops.toList
 | .seq a b=>wG a++wG b
 | .cond _ a b=>wG a++wG b
 | .block _ a=>wG a
 | .loop a=>wG a
 | _=>[]
structure zy where
 gh:List Gh
 ps:List It
 sh:ug
 ws:List Way
 F:jZ ps->sh.den->T (iF ws)
inductive z71 where
 | flat (gv:List It)
 | ways (ws:List Way)
 | Bh
structure Hints where
 loop:Nat->Option zy
 cut:Nat->Nat->Option z71
 frz:Nat->List Nat
def sd:Code->Option Nat
 | .region id _ _=>some id
 | .seq a b=>match sd a with | some n=>some n | none=>sd b
 | .cond _ a b=>match sd a with | some n=>some n | none=>sd b
 | .block _ a=>sd a
 | .loop a=>sd a
 | _=>none
def keyOf(x:Code):Nat×Nat:=(match x with | .region .. => 0 | .cond .. => 1 | .block .. => 2 | _=>3,match sd x with | some n=>n | none=>0)
def zc2(l:List Nat)(s:Nat):Bool := !(l.any (R s))
def YJ:Dk->Bool
 | .sub _ _=>false
 | .st _=>false
 | .mclo _ _=>false
 | _=>true
def N8(ps:List It)(ws:List Nat):Bool:=ps.all λi=>match i with
 | .s t k=>YJ k&&zc2 ws t
 | _=>false
def Dp{α:Type}:T α->Option α
 | .ret a=>some a
 | .ite _ t e=>match Dp t with | some a=>some a | none=>Dp e
 | .zl _ t=>Dp t
 | .fail=>none
def Ik{α β:Type}(f:α->β):T α->T β
 | .ret a=>.ret (f a)
 | .ite b t e=>.ite b (Ik f t) (Ik f e)
 | .zl p t=>.zl p (Ik f t)
 | .fail=>.fail
def z0x:(l:List It)->jZ l->T (jZ l)->jZ l
 | [],_,_=>()
 | [_],d,t=>T.val d t
 | _::j::r,d,t=>(T.val d.1 (Ik Prod.fst t),z0x (j::r) d.2 (Ik Prod.snd t))
def z1E(l:List It)(t:T (jZ l)):T (jZ l):=match Dp t with
 | some d=>match t.Jl with
  | none=>.ret (z0x l d t)
  | some p=>.zl p (.ret (z0x l d t))
 | none=>.fail
def Cv(l:List It):Bool:=l.all λi=>match i with
 | .s _ k=>YJ k
 | _=>false
structure Ly where
 ex:Ex
 fr:Fr
 kn:Kn
 st:St
 q:Bool      -- the store has not been written
def quiet(ks:List Nat):Bool:=ks.all λk => !(R k 2)
structure zgf where
 e:Ty
 l:List (den e)
 m:Nat
 s:Nat
 c:Nat
 eq:Bool
def z4d:BinOp->Option Bool
 | .eql=>some true
 | .neq=>some false
 | _=>none
def MF:Operand->Bool
 | .const (.slice none 0 0)=>true
 | _=>false
def DT(c:Ctx)(n:Nat)(ops:Array Oper)(fr:Fr):Option zgf:=match ops.toList with
 | [o1,o2]=>match o1.dst,o1.op,o1.guard with
  | some m,.move (.tmp s),none=>match o2.dst,o2.op,o2.guard with
   | some cc,.binOp op t (.tmp m') y _,none=>match z4d op,fr.get s,nI c t with
    | some b,some (.qj (.sl e) l),some _=>bif R m m'&&MF y&&zO m n&&zO cc n then some ⟨e,l,m,s,cc,b⟩else none
    | _,_,_=>none
   | _,_,_=>none
  | _,_,_=>none
 | _=>none
def opsOf:Code->Option (Array Oper)
 | .region _ ops false=>some ops
 | _=>none
section
variable (c:Ctx) (tab:mj)
variable [V0]
def WX{α:Type}(n:Nat)(o:Oper)(s:pn)(k:pn->T α)(kp:D->St->T α):T α :=
 bif gA n o.dst then match o.op with
  | .call cl=>match cl.callee with
   | .value f=>D7 tab (bM s.fr f) (cl.args.toList.map (bM s.fr)) s.st (λkd d qm=>k ⟨s.fr.put o.dst d,Bj s.kn o.dst none,qm,kd::s.ks,vw c (bM s.fr) s.st o::s.bk⟩) kp
   | _=>let cl:=QY c s.kn s.fr o
    (qu cl s.st).bind λr=>k ⟨s.fr.put o.dst r.1,Bj s.kn o.dst (Be s.kn o.op),r.2,cl.kind::s.ks,vw c (bM s.fr) s.st o::s.bk⟩
  | .panic x=>match bM s.fr x with
   | some (.iface t d)=>kp (.iface t d) s.st
   | _=>.fail
  | _=>let cl:=QY c s.kn s.fr o
   (qu cl s.st).bind λr=>k ⟨s.fr.put o.dst r.1,Bj s.kn o.dst (Be s.kn o.op),r.2,cl.kind::s.ks,vw c (bM s.fr) s.st o::s.bk⟩
 else .fail
def Nq{α:Type}(n:Nat)(ops:Array Oper)(o:Oper)(s:pn)(k:pn->T α)(kp:D->St->T α):T α:=match o.guard with
 | none=>WX c tab n o s k kp
 | some (j,want)=>match bP ops j with
  | none=>.fail
  | some t=>match s.kn.get t with
   | some b=>bif b==want then WX c tab n o s k kp else bif gA n o.dst then k (de o s)else .fail
   | none=>match s.fr.get t with
    | some (.qj .bool x)=>bif gA n o.dst then
      .ite x (bif want then WX c tab n o (s.lY t true) k kp else k (de o (s.lY t true)))
          (bif want then k (de o (s.lY t false))else WX c tab n o (s.lY t false) k kp)
     else .fail
    | some (.fj [])=>bif gA n o.dst then k (de o s)else .fail
    | _=>.fail
def YM{α:Type}(n:Nat)(ops:Array Oper):List Oper->pn->(pn->T α)->(D->St->T α)->T α
 | [],s,k,_=>k s
 | o::l,s,k,kp=>Nq c tab n ops o s (λs'=>YM n ops l s' k kp) kp
def Hk{α:Type}(n:Nat)(ops:Array Oper)(draw:Bool)(fr:Fr)(kn:Kn)(st:St)(k:pn->T α)(kp:D->St->T α):T α :=
 YM c tab n ops ops.toList ⟨fr,kn,st,[],[]⟩ (λs=>bif !draw||VD ops s.ks.reverse s.bk.reverse then k s else .fail) (λd qm=>bif draw then .fail else kp d qm)
def Uj(n:Nat)(H:Hints):Code->Fr->Kn->St->{α:Type}->(Ly->T α)->T α
 | .skip,fr,kn,st,_,k=>k ⟨.normal,fr,kn,st,true⟩
 | .region id ops draw,fr,kn,st,_,k=>(frz (H.frz id) fr st).bind λz=>Hk c tab n ops draw z.1 kn z.2 (λs=>k ⟨.normal,s.fr,s.kn,s.st,quiet s.ks&&(H.frz id).isEmpty⟩) (λd qm=>k ⟨.bC d,[],[],qm,false⟩)
 | .seq a b,fr,kn,st,_,k=>match H.cut (keyOf a).1 (keyOf a).2 with
  | none=>Uj n H a fr kn st λr=>match r.ex with
   | .normal=>Uj n H b r.fr r.kn r.st λo=>k { o with q:=r.q&&o.q }
   | _=>k r
  | some (.flat gv)=>bif Cv gv then
    (z1E gv (Uj n H a fr kn st λo=>match o.ex with
     | .normal=>bif o.q then CL o.fr o.st gv []else .fail
     | _=>.fail)).bind λx=>Uj n H b (nR st gv x++(p9 (wG a)++fr)) [] st k
   else .fail
  | some .Bh=>match opsOf a with
   | none=>.fail
   | some ops=>match DT c n ops fr with
    | none=>.fail
    | some p =>
     let non:=Uj n H b ((p.c,some (.qj .bool (!p.eq)))::(p.m,some (.qj (.sl p.e) p.l))::fr) [(p.c,some (!p.eq))] st k
     .zl (p.l=[]->∀ r,non.leads r->(Uj n H b ((p.c,some (.qj .bool p.eq))::(p.m,some .wF)::(p.s,some .wF)::fr) [(p.c,some p.eq)] st k).leads r) non
  | some (.ways ws)=>bif ws.all λw=>zM st.length w.sh.bs.length then
    (Uj n H a fr kn st λo=>DH ws o.ex (B0 o.ex o.fr) o.st).bind λr=>Oi ws r λex out qm=>match Fw ex out with
     | none=>.fail
     | some z=>match z.1 with
      | .normal=>Uj n H b (z.2++(p9 (wG a)++fr)) [] qm λo=>k { o with q:=false }
      | e=>k ⟨e,z.2++(p9 (wG a)++fr),[],qm,false⟩
   else .fail
 | .cond x a b,fr,kn,st,_,k=>match sn kn x with
  | some true=>Uj n H a fr kn st k
  | some false=>Uj n H b fr kn st k
  | none=>match x with
   | .tmp t=>match fr.get t with
    | some (.qj .bool v)=>.ite v (Uj n H a fr ((t,some true)::kn) st k) (Uj n H b fr ((t,some false)::kn) st k)
    | _=>.fail
   | _=>.fail
 | .block id (.loop b),fr,_,st,_,k=>match H.loop id with
  | none=>.fail
  | some l=>let g:=gh l.gh fr st
   bif zM g.2.length l.sh.bs.length&&N8 l.ps (wG b)&&l.ws.all λw=>zM l.sh.bs.length w.sh.bs.length then
    (CL g.1 g.2 l.ps []).bind λp=>(l.sh.un g.1 g.2).bind λs=>(l.F p s).bind λr=>Oi l.ws r λex out qm=>match Fw ex out with
     | none=>.fail
     | some z=>match z.1 with
      | .exit id'=>bif R id' id then k ⟨.normal,z.2++(p9 (wG b)++g.1),[],qm,false⟩else k ⟨.exit id',z.2++(p9 (wG b)++g.1),[],qm,false⟩
      | .normal=>.fail
      | e=>k ⟨e,z.2++(p9 (wG b)++g.1),[],qm,false⟩
   else .fail
 | .block id a,fr,kn,st,_,k=>Uj n H a fr kn st λr=>match r.ex with
  | .exit id'=>bif R id' id then k { r with ex:=.normal } else k r
  | _=>k r
 | .exit id,fr,kn,st,_,k=>k ⟨.exit id,fr,kn,st,true⟩
 | .ret,fr,kn,st,_,k=>k ⟨.ret,fr,kn,st,true⟩
 | _,_,_,_,_,_=>.fail
def z4R(n:Nat)(H:Hints)(l:zy)(b:Code)(p:jZ l.ps)(s:l.sh.den):T (l.sh.den⊕iF l.ws) :=
 Uj c tab n H b (l.sh.fr s++nR (l.sh.st s) l.ps p) [] (l.sh.st s) λo=>match o.ex with
  | .normal=>(l.sh.un o.fr o.st).bind λs'=>.ret (.inl s')
  | e=>(DH l.ws e (B0 e o.fr) o.st).bind λr=>.ret (.inr r)
def z1C(H:Hints)(fn:Func)(code:Code)(d:ER)(x:eJ d.ps):T (ED d.rs) :=
 bif zM (Ke d.ps x).length fn.ntmps then
  Uj c tab fn.ntmps H code (yD (Ke d.ps x) 0) [] [] λo=>match o.ex with
   | .normal=>(nX c o.fr o.st fn.results.toList).bind λds=>z5k o.st d.rs ds
   | .ret=>(nX c o.fr o.st fn.results.toList).bind λds=>z5k o.st d.rs ds
   | _=>.fail
 else .fail
def z4x:List (Nat×Ck)->List Gh
 | []=>[]
 | (s,.cur _ e)::r=>.slot s e::z4x r
 | _::r=>z4x r
def msB:D->Option Nat
 | .ms b _ _ _ _=>some b
 | _=>none
def zsb:Option dn->List D
 | some (.var d)=>xz d
 | _=>[]
def z0j(st:St):List D->List Nat
 | []=>[]
 | .ms b _ _ _ _::r=>b::z0j st r
 | .ptr b _::r=>b::((zsb st[b]?).filterMap msB++z0j st r)
 | .agg l::r=>l.filterMap msB++z0j st r
 | _::r=>z0j st r
def za8(m:Nat):List Nat->List Nat->List Nat
 | seen,[]=>seen
 | seen,b::r=>bif zM m b&&(match pos seen b with | none=>true | some _=>false)then za8 m (seen++[b]) r else za8 m seen r
def canon(m:Nat)(ds:List D)(st:St):List D×St :=
 let mp:=zX m++za8 m [] (z0j st ds)
 match lv st mp with
 | some l=>match pc (pos mp) l,W4 (pos mp) ds with
  | some eb,some ds1=>bif dc mp then(ds1,eb)else(ds,st)
  | _,_=>(ds,st)
 | none=>(ds,st)
def kz:List Sk->List D->St->List D×St
 | .row _ e::ks,.wF::l,st=>bif zO 0 e.size then((.ms st.length 0 e 0 0)::(kz ks l (st++[.arr 0 e []])).1,(kz ks l (st++[.arr 0 e []])).2)
  else(.wF::(kz ks l st).1,(kz ks l st).2)
 | _::ks,d::l,st=>(d::(kz ks l st).1,(kz ks l st).2)
 | _,l,st=>(l,st)
def z0o:List It->Nat->List Sk
 | [],_=>[]
 | .s t (.st ks)::r,i=>bif R t i then ks else z0o r i
 | _::r,i=>z0o r i
def Z2(gv:List It):Nat->List D->St->List D×St
 | _,[],st=>([],st)
 | i,.agg l::ds,st=>(.agg (kz (z0o gv i) l st).1::(Z2 gv (i+1) ds (kz (z0o gv i) l st).2).1,(Z2 gv (i+1) ds (kz (z0o gv i) l st).2).2)
 | i,d::ds,st=>(d::(Z2 gv (i+1) ds st).1,(Z2 gv (i+1) ds st).2)
def Ea(out:ug)(m:Nat)(ds:List D)(st:St):List D×St :=
 bif (out.gv.all λ| .s _ (.st _)=>false | _=>true)&&(out.cs.all λ| (_,.ptr _ _)=>false | (_,.cur _ _)=>false | _=>true)then(ds,st)
 else canon m (Z2 out.gv 0 (canon m ds st).1 (canon m ds st).2).1 (Z2 out.gv 0 (canon m ds st).1 (canon m ds st).2).2
def Vp(out:ug)(m nr:Nat)(ds:List D)(st:St):T out.den :=
 bif R ds.length nr then(out.un (gh (z4x out.cs) (yD (Ea out m ds st).1 0) (Ea out m ds st).2).1 (gh (z4x out.cs) (yD (Ea out m ds st).1 0) (Ea out m ds st).2).2).bind λy =>
  bif (pM nr (out.fr y)).isSome then .ret y else .fail else .fail
def Mf(H:Hints)(fn:Func)(code:Code)(d:bA)(x:d.sh.den):T d.out.den :=
 bif zM d.ks.length fn.ntmps&&zM d.sh.bs.length d.out.bs.length then
  Uj c tab fn.ntmps H code (d.sh.fr x) [] (d.sh.st x) λo=>match o.ex with
   | .normal=>(nX c o.fr o.st fn.results.toList).bind λds=>Vp d.out (d.sh.st x).length d.nr ds o.st
   | .ret=>(nX c o.fr o.st fn.results.toList).bind λds=>Vp d.out (d.sh.st x).length d.nr ds o.st
   | _=>.fail
 else .fail
def zbw:List D->Bool
 | .bq::_=>true
 | .wF::_=>true
 | .agg (.wF::_)::_=>true
 | _=>false
def zaw(d:mh)(m:Nat)(ds:List D)(st:St):T (d.out.den⊕d.bC.den):=match d.two with
 | some n=>bif zbw ds then(Vp d.bC m n ds st).bind λz=>.ret (.inr z)else(Vp d.out m d.nr ds st).bind λy=>.ret (.inl y)
 | none=>(Vp d.out m d.nr ds st).bind λy=>.ret (.inl y)
def Me(H:Hints)(fn:Func)(code:Code)(d:mh)(x:d.sh.den):T (d.out.den⊕d.bC.den) :=
 bif zM d.ks.length fn.ntmps&&zM d.sh.bs.length d.out.bs.length&&zM d.sh.bs.length d.bC.bs.length then
  Uj c tab fn.ntmps H code (d.sh.fr x) [] (d.sh.st x) λo=>match o.ex with
   | .normal=>(nX c o.fr o.st fn.results.toList).bind λds=>zaw d (d.sh.st x).length ds o.st
   | .ret=>(nX c o.fr o.st fn.results.toList).bind λds=>zaw d (d.sh.st x).length ds o.st
   | .bC p=>match p with
    | .iface t v=>bif R t d.pt&&d.two.isNone then(d.bC.un [(0,some v)] o.st).bind λz=>match(d.bC.fr z).get 0 with | some _=>.ret (.inr z) | none=>.fail else .fail
    | _=>.fail
   | _=>.fail
 else .fail
end
variable [gy]
open Go.RowKit
section
variable {n:Nat}
theorem z4T{st:St}{τ:Ty}{d:D}{x:den τ}(h:(rpX st τ d).leads x):(QT st τ d).leads (.vC τ x):=by
 cases d with
 | vC σ y =>
  simp only[rpX]at h
  simp only[QT]
  cases hy:(jX y:Option (den τ))with
  | none=>rw[hy]at h; exact h.elim
  | some z=>rw[hy]at h; cases h; rfl
 | ptr b off =>
  simp only[rpX]at h
  simp only[QT]
  cases J:st[b]? with
  | none=>rw[J]at h; exact h.elim
  | some hl =>
   rw[J]at h
   cases hl with
   | var d =>
    simp only at h ⊢
    cases hy:(bif R off 0 then pA τ d else none)with
    | none=>rw[hy]at h; exact h.elim
    | some z=>rw[hy]at h; cases h; rfl
   | _=>exact h.elim
 | _=>exact h.elim
theorem O7{st:St}{p:JK}{d:D}{x:den p.ty}(h:(z7i st p d).leads x):(Xn st p d).leads (Ci p x):=by
 cases p with
 | rp τ=>exact z4T h
 | im τ=>exact T.zh.2 ⟨x,h,rfl⟩
theorem Ff{st:St}:∀ (l:List JK) (ds:List D) (x:iE l),(O8 st l ds).leads x->(nc st l ds).leads (Qh l x)
 | [],[],x,h=>rfl
 | [],_::_,x,h=>h.elim
 | [p],[],x,h=>h.elim
 | [p],[d],x,h=>T.zh.2 ⟨_,O7 h,T.zh.2 ⟨[],rfl,rfl⟩⟩
 | [p],_::_::_,x,h=>h.elim
 | p::q::r,[],x,h=>h.elim
 | p::q::r,d::ds,x,h=>by
  obtain⟨y,h1,X⟩:=T.zh.1 h
  obtain⟨z,h3,h4⟩:=T.zh.1 X
  cases h4
  exact T.zh.2 ⟨_,O7 h1,T.zh.2 ⟨_,Ff (q::r) ds z h3,rfl⟩⟩
theorem z5j{st:St}{p:Ui}{d:D}{x:p.den}(h:(unP st p d).leads x):(Fj st p d).leads (mkP p x):=by
 cases p with
 | ty τ=>cases d<;>exact T.zh.2 ⟨x,h,rfl⟩
 | rp τ =>
  have:=z4T h
  cases d<;>exact this
 | wi f caps =>
  cases d with
  | wi f' l =>
   simp only[unP]at h
   simp only[Fj]
   cases J:R f f' with
   | false=>rw[J]at h; exact h.elim
   | true=>rw[J]at h; exact T.zh.2 ⟨_,Ff caps l x h,rfl⟩
  | _=>exact h.elim
theorem YQ{st:St}:∀ (l:List Ui) (ds:List D) (x:eJ l),(La st l ds).leads x->(QS st l ds).leads (Ke l x)
 | [],[],x,h=>rfl
 | [],_::_,x,h=>h.elim
 | [p],[],x,h=>h.elim
 | [p],[d],x,h=>T.zh.2 ⟨_,z5j h,T.zh.2 ⟨[],rfl,rfl⟩⟩
 | [p],_::_::_,x,h=>h.elim
 | p::q::r,[],x,h=>h.elim
 | p::q::r,d::ds,x,h=>by
  obtain⟨y,h1,X⟩:=T.zh.1 h
  obtain⟨z,h3,h4⟩:=T.zh.1 X
  cases h4
  exact T.zh.2 ⟨_,z5j h1,T.zh.2 ⟨_,YQ (q::r) ds z h3,rfl⟩⟩
theorem Fk(st:St)(τ:Ty)(x:den τ):(Uv st τ (.qj τ x)).leads x:=by
 refine T.zh.2 ⟨.qj τ x,rfl,?_⟩
 rw[T.yH]
 exact Xk x
theorem z4S(st:St)(τ:Ty)(x:den τ):(rpX st τ (.vC τ x)).leads x:=by
 simp only[rpX]; rw[Xk]; rfl
theorem O6(st:St)(p:JK)(x:den p.ty):(z7i st p (Ci p x)).leads x:=by
 cases p with
 | rp τ=>exact z4S st τ x
 | im τ=>exact Fk st τ x
theorem Fe(st:St):∀ (l:List JK) (x:iE l),(O8 st l (Qh l x)).leads x
 | [],_=>rfl
 | [p],x=>O6 st p x
 | p::q::r,x=>T.zh.2 ⟨x.1,O6 st p x.1,T.zh.2 ⟨x.2,Fe st (q::r) x.2,rfl⟩⟩
theorem z5i(st:St)(p:Ui)(x:p.den):(unP st p (mkP p x)).leads x:=by
 cases p with
 | ty τ=>exact Fk st τ x
 | rp τ=>exact z4S st τ x
 | wi f caps=>simp only[unP,mkP]; rw[qS]; exact Fe st caps x
theorem Et(st:St):∀ (l:List Ui) (x:eJ l),(La st l (Ke l x)).leads x
 | [],_=>rfl
 | [p],x=>z5i st p x
 | p::q::r,x=>T.zh.2 ⟨x.1,z5i st p x.1,T.zh.2 ⟨x.2,Et st (q::r) x.2,rfl⟩⟩
def ff:D->Option Nat | .wi f _=>some f | _=>none
theorem z7t(p:Ui){d e:D}(h:ff d=ff e):zd7 p d=zd7 p e:=by
 cases d<;>cases e<;>simp only[ff]at h<;>first | (cases h; done) | (cases p<;>first | rfl | (cases h; rfl))
theorem Oj:∀ (ps:List Ui) {l m:List D},l.map ff=m.map ff->fits ps l=fits ps m
 | [],[],[],_=>rfl
 | [],_::_,_::_,_=>rfl
 | _,[],_::_,h=>by cases h
 | _,_::_,[],h=>by cases h
 | _::_,[],[],_=>rfl
 | p::ps,d::l,e::m,h=>by
  simp at h
  simp only[fits,z7t p h.1,Oj ps h.2]
theorem z1p{st:St}{τ:Ty}{f:Nat}{l:List D}{x:den τ}(h:(Uv st τ (.wi f l)).leads x):False:=by
 obtain⟨y,h1,X⟩:=T.zh.1 h
 cases h1
 rw[T.yH]at X
 cases τ<;>simp[pA,D.isAgg,Ty.isAgg,xz,dm,rH]at X
theorem CM{st:St}{p:Ui}{d:D}{x:p.den}(h:(unP st p d).leads x):ff d=ff (mkP p x):=by
 cases p with
 | ty τ=>cases d<;>first | rfl | exact(z1p h).elim
 | rp τ=>cases d<;>first | rfl | exact h.elim
 | wi f caps =>
  cases d with
  | wi f' l =>
   simp only[unP]at h
   cases J:R f f' with
   | false=>rw[J]at h; exact h.elim
   | true=>rw[zA J]; rfl
  | _=>exact h.elim
theorem HE{st:St}:∀ (l:List Ui) (ds:List D) (x:eJ l),(La st l ds).leads x->ds.map ff=(Ke l x).map ff
 | [],[],x,h=>rfl
 | [],_::_,x,h=>h.elim
 | [p],[],x,h=>h.elim
 | [p],[d],x,h=>by show[ff d]=[ff (mkP p x)]; rw[CM h]
 | [p],_::_::_,x,h=>h.elim
 | p::q::r,[],x,h=>h.elim
 | p::q::r,d::ds,x,h=>by
  obtain⟨y,h1,X⟩:=T.zh.1 h
  obtain⟨z,h3,h4⟩:=T.zh.1 X
  cases h4
  show ff d::ds.map ff=ff (mkP p y)::(Ke (q::r) z).map ff
  rw[CM h1,HE (q::r) ds z h3]
def dat(d:D):Bool:=match d with | .qj _ _=>true | .vC _ _=>true | .wi _ _=>true | _=>false
theorem Ry(p:Ui)(x:p.den):dat (mkP p x)=true:=by cases p<;>rfl
theorem Io:∀ (l:List Ui) (x:eJ l),∀ d∈Ke l x,dat d=true
 | [],x,d,h=>by cases h
 | [p],x,d,h=>by have h:d∈[mkP p x]:=h; rw[zL]at h; subst h; exact Ry p x
 | p::q::r,x,d,h=>by
  rcases zH.1 h with rfl | h
  ·exact Ry p x.1
  ·exact Io (q::r) x.2 d h
theorem z1D{a:AK}{d e:D}(h:ff d=ff e)(V:dat e=true)(hf:zd8 a e=true):zd8 a d=true:=by
 cases e with
 | qj τ x=>cases a<;>first | (cases hf; done) | (cases d<;>first | rfl | (cases h; done))
 | vC τ x=>cases a<;>first | (cases hf; done) | (cases d<;>first | rfl | (cases h; done))
 | wi f l=>cases a<;>first | (cases hf; done) | (cases d<;>first | (cases h; exact hf) | cases h)
 | _=>cases V
theorem JZ:∀ {ks:List AK} {l m:List D},l.map ff=m.map ff->(∀ d∈m,dat d=true)->QZ ks m=true->QZ ks l=true
 | [],[],[],_,_,_=>rfl
 | [],_::_,[],h,_,_=>by cases h
 | [],_,_::_,_,_,hf=>by cases hf
 | _::_,_,[],_,_,hf=>by cases hf
 | k::ks,[],_::_,h,_,_=>by cases h
 | k::ks,d::l,e::m,h,V,hf=>by
  simp at h
  simp only[QZ,I]at hf ⊢
  exact⟨z1D h.1 (V e zQ) hf.1,JZ h.2 (λx U=>V x (zI _ U)) hf.2⟩
theorem mj.find_eq:∀ (t:mj) (g:Nat) {l m:List D} {d:ER},l.map ff=m.map ff->(∀ d∈m,dat d=true)->t.find g l=some (.d d)->t.find g m=some (.d d)
 | [],_,_,_,_,_,_,h=>h
 | (g',.d d')::r,g,l,m,d,h,hm,hf=>by
  simp only[mj.find,FnE.fits]at hf ⊢
  rw[<- Oj d'.ps h]
  cases J:R g' g&&fits d'.ps l with
  | true=>grind
  | false=>rw[J,cond_false]at hf; rw[cond_false]; exact mj.find_eq r g h hm hf
 | (g',.s d')::r,g,l,m,d,h,hm,hf=>by
  simp only[mj.find,FnE.fits]at hf ⊢
  cases J:R g' g&&QZ d'.ks l with
  | true=>grind
  | false =>
   rw[J,cond_false]at hf
   have:(R g' g&&QZ d'.ks m)=false:=by
    cases hg:R g' g with
    | false=>rfl
    | true =>
     rw[hg]at J
     cases hk:QZ d'.ks m with
     | false=>rfl
     | true=>rw[JZ h hm hk]at J; cases J
   rw[this,cond_false]
   exact mj.find_eq r g h hm hf
 | (g',.p d')::r,g,l,m,d,h,hm,hf=>by
  simp only[mj.find,FnE.fits]at hf ⊢
  cases J:R g' g&&QZ d'.ks l with
  | true=>grind
  | false =>
   rw[J,cond_false]at hf
   have:(R g' g&&QZ d'.ks m)=false:=by
    cases hg:R g' g with
    | false=>rfl
    | true =>
     rw[hg]at J
     cases hk:QZ d'.ks m with
     | false=>rfl
     | true=>rw[JZ h hm hk]at J; cases J
   rw[this,cond_false]
   exact mj.find_eq r g h hm hf
theorem mj.UJ:∀ {t:mj} {g:Nat} {l:List D} {d:FnE},t.find g l=some d->(g,d)∈t
 | [],_,_,_,h=>by cases h
 | (g',d')::r,g,l,d,h=>by
  simp only[mj.find]at h
  cases J:R g' g&&d'.fits l with
  | true =>
   rw[J,cond_true]at h
   cases h
   simp only[I]at J
   rw[zA J.1]
   simp
  | false=>rw[J,cond_false]at h; exact zI _ (mj.UJ h)
def zw(P:Program)(g:Nat)(d:ER):Prop:=∀ (O:KS) (x:eJ d.ps) (xa:List Value) (y:ED d.rs),O.st=[]->(d.F x).leads y->Inv O->wP O (Ke d.ps x) xa ->
 gM P g xa.toArray O.w λe w'=>∃ E:KS,E.w=w'/\E.st=[]/\Inv E/\Ext O E/\jr E (.ret (J1 d.rs y)) e
def ES(P:Program)(g:Nat):FnE->Prop
 | .d d=>zw P g d
 | .s d=>xw P g d
 | .p d=>jx P g d
def eU(P:Program)(t:mj):Prop:=∀ p∈t,ES P p.1 p.2
theorem z0t(P:Program):eU P []:=by nofun
theorem Ej{P:Program}{g:Nat}{d:FnE}{t:mj}(h:ES P g d)(ht:eU P t):eU P ((g,d)::t):=by
 intro p hp
 rcases zH.1 hp with rfl | hp
 ·exact h
 ·exact ht p hp
theorem Nx{P:Program}{g:Nat}{d:ER}{t:mj}(h:zw P g d)(ht:eU P t):eU P ((g,.d d)::t):=Ej (d:=.d d) h ht
theorem L4{P:Program}{g:Nat}{d:bA}{t:mj}(h:xw P g d)(ht:eU P t):eU P ((g,.s d)::t):=Ej (d:=.s d) h ht
theorem L3{P:Program}{g:Nat}{d:mh}{t:mj}(h:jx P g d)(ht:eU P t):eU P ((g,.p d)::t):=Ej (d:=.p d) h ht
theorem ER.snd{P:Program}{g:Nat}{d:ER}(h:zw P g d):EC P g d.S:=by
 intro O args xa rs qm B hI ha
 unfold ER.S at B
 split at B
 ·rename_i ud
  obtain⟨x,h1,X⟩:=T.zh.1 B
  obtain⟨y,h3,h4⟩:=T.zh.1 X
  cases h4
  exact h O x xa y ud h3 hI (JP ha (YQ _ _ _ h1))
 ·exact B.elim
theorem DP{P:Program}{xid:Nat}{tab:mj}{ro:Nat->Bool}(h:eU P tab):∀ g,EC (bf P xid tab ro).P g ((bf P xid tab ro).fn g):=by
 intro g O args xa rs qm B hI ha
 simp only[bf,mj.call]at B
 split at B
 ·rename_i d V
  exact ER.snd (h _ (mj.UJ V):ES P g (.d d)) O args xa rs qm B hI ha
 ·rename_i d V
  exact bA.snd (h _ (mj.UJ V):ES P g (.s d)) O args xa rs qm B hI ha
 ·rename_i d V
  exact mh.snd (h _ (mj.UJ V):ES P g (.p d)) O args xa rs qm B hI ha
 ·exact B.elim
section
variable {P:Program} {xid:Nat} {tab:mj} {ro:Nat->Bool} {α:Type}
def NY(c:Ctx)(f:Option D)(args:List (Option D))(st:St)(d:D)(qm:St):Prop :=
 ∃ g caps l,f=some (.wi g caps)/\gO args=some l/\(c.fn (eP g) (cj g l caps) st).leads (.bC d,qm)
def NZ(c:Ctx)(o:Oper)(s:pn)(d:D)(qm:St):Prop :=
 (∃ x t e,o.op=.panic x/\bM s.fr x=some d/\d=.iface t e/\qm=s.st) \/
 ∃ f args te,o.op=.call ⟨.value f,args,te⟩/\NY c (bM s.fr f) (args.toList.map (bM s.fr)) s.st d qm
theorem M0{f:Option D}{args:List (Option D)}{st:St}{k:Nat->Option D->St->T α}{kp:D->St->T α}{r:α}(h:(D7 tab f args st k kp).leads r) :
  (∃ d qm,(qu (fB (bf P xid tab ro) f args) st).leads (d,qm)/\(k (fB (bf P xid tab ro) f args).kind d qm).leads r) \/
  ∃ d qm,NY (bf P xid tab ro) f args st d qm/\(kp d qm).leads r:=by
 unfold D7 at h
 split at h
 ·rename_i g caps l B
  unfold zbb at h
  split at h
  ·exact h.elim
  ·rename_i d V
   have Tv:(bf P xid tab ro).sig (eP g) (cj g l caps)=some ⟨d.ps,d.rs⟩:=by simp only[bf]; rw[V]
   have z2m:fB (bf P xid tab ro) (some (.wi g caps)) args=eV (bf P xid tab ro) (eP g) ⟨d.ps,d.rs⟩ (cj g l caps):=by simp only[fB,B,Tv]
   rw[z2m]
   have hfn:∀ {st0:St} (x:eJ d.ps) (y:ED d.rs),(La st0 d.ps (cj g l caps)).leads x->(d.F x).leads y->((bf P xid tab ro).fn (eP g) (Ke d.ps x) []).leads (.ret (J1 d.rs y),[]):=by
    intro st0 x y U hy
    simp only[bf,mj.call]
    rw[mj.find_eq tab (eP g) (HE _ _ _ U) (Io d.ps x) V]
    exact T.zh.2 ⟨x,Et [] d.ps x,T.zh.2 ⟨y,hy,rfl⟩⟩
   cases hn : !((cj g l caps).any Kg)with
   | true =>
    rw[hn,cond_true]at h
    obtain⟨x,h1,X⟩:=T.zh.1 h
    obtain⟨y,h3,h4⟩:=T.zh.1 X
    have hc:eV (bf P xid tab ro) (eP g) ⟨d.ps,d.rs⟩ (cj g l caps)=.val ((QS [] d.ps (cj g l caps)).bind λl=>((bf P xid tab ro).fn (eP g) l []).bind z4P):=by
     unfold eV; rw[hn]; rfl
    rw[hc]
    refine .inl ⟨_,_,T.zh.2 ⟨_,T.zh.2 ⟨_,YQ _ _ _ h1,T.zh.2 ⟨_,hfn x y h1 h3,rfl⟩⟩,rfl⟩,h4⟩
   | false =>
    rw[hn,cond_false]at h
    obtain⟨x,h1,X⟩:=T.zh.1 h
    obtain⟨y,h3,h4⟩:=T.zh.1 X
    have hc:eV (bf P xid tab ro) (eP g) ⟨d.ps,d.rs⟩ (cj g l caps)=.rd λst=>(QS st d.ps (cj g l caps)).bind λl=>((bf P xid tab ro).fn (eP g) l []).bind WR:=by
     unfold eV; rw[hn]; rfl
    rw[hc]
    cases hs:(J1 d.rs y).all WU with
    | false=>rw[hs]at h4; exact h4.elim
    | true =>
     rw[hs]at h4
     refine .inl ⟨_,_,T.zh.2 ⟨_,T.zh.2 ⟨_,YQ _ _ _ h1,T.zh.2 ⟨_,hfn x y h1 h3,?_⟩⟩,rfl⟩,h4⟩
     simp only[WR,hs,cond_true]
     rfl
  ·rename_i d V
   have Tv:(bf P xid tab ro).sig (eP g) (cj g l caps)=none:=by simp only[bf]; rw[V]
   have z2m:fB (bf P xid tab ro) (some (.wi g caps)) args=tk (bf P xid tab ro) (eP g) (cj g l caps):=by simp only[fB,B,Tv]
   rw[z2m]
   obtain⟨ds,qm,h1,X⟩:=bA.z0T h
   refine .inl ⟨_,qm,T.zh.2 ⟨(.ret ds,qm),?_,rfl⟩,X⟩
   simp only[bf,mj.call]
   grind
  ·rename_i d V
   have Tv:(bf P xid tab ro).sig (eP g) (cj g l caps)=none:=by simp only[bf]; rw[V]
   have z2m:fB (bf P xid tab ro) (some (.wi g caps)) args=tk (bf P xid tab ro) (eP g) (cj g l caps):=by simp only[fB,B,Tv]
   rw[z2m]
   rcases mh.z0T h with⟨ds,qm,h1,X⟩ | ⟨p,qm,h1,X⟩
   ·refine .inl ⟨_,qm,T.zh.2 ⟨(.ret ds,qm),?_,rfl⟩,X⟩
    simp only[bf,mj.call]
    grind
   ·refine .inr ⟨p,qm,⟨g,caps,l,rfl,B,?_⟩,X⟩
    simp only[bf,mj.call]
    grind
 ·exact h.elim
theorem QB{o:Oper}{s:pn}{k:pn->T α}{kp:D->St->T α}{r:α}(h:(WX (bf P xid tab ro) tab n o s k kp).leads r) :
  (∃ s',(lN (bf P xid tab ro) n o s).leads s'/\(k s').leads r)\/∃ d qm,NZ (bf P xid tab ro) o s d qm/\(kp d qm).leads r:=by
 unfold WX at h
 unfold lN
 cases V:gA n o.dst with
 | false=>rw[V]at h; exact h.elim
 | true =>
  rw[V,cond_true]at h
  rw[cond_true]
  obtain⟨dst,op,ty,pos,after,guard⟩:=o
  have gen:((qu (QY (bf P xid tab ro) s.kn s.fr ⟨dst,op,ty,pos,after,guard⟩) s.st).bind λr=>k ⟨s.fr.put dst r.1,Bj s.kn dst (Be s.kn op),r.2,(QY (bf P xid tab ro) s.kn s.fr ⟨dst,op,ty,pos,after,guard⟩).kind::s.ks,vw (bf P xid tab ro) (bM s.fr) s.st ⟨dst,op,ty,pos,after,guard⟩::s.bk⟩).leads r ->
    ∃ s',(let cl:=QY (bf P xid tab ro) s.kn s.fr ⟨dst,op,ty,pos,after,guard⟩; (qu cl s.st).bind λr=>T.ret (⟨s.fr.put dst r.1,Bj s.kn dst (Be s.kn op),r.2,cl.kind::s.ks,vw (bf P xid tab ro) (bM s.fr) s.st ⟨dst,op,ty,pos,after,guard⟩::s.bk⟩:pn)).leads s'/\(k s').leads r:=by
   intro h
   obtain⟨x,h1,X⟩:=T.zh.1 h
   exact⟨_,T.zh.2 ⟨x,h1,rfl⟩,X⟩
  cases op with
  | call cl =>
   obtain⟨callee,args,te⟩:=cl
   cases callee with
   | value f =>
    rcases M0 (P:=P) (xid:=xid) (ro:=ro) h with⟨d,qm,h1,X⟩ | ⟨d,qm,h1,X⟩
    ·exact .inl ⟨_,T.zh.2 ⟨(d,qm),h1,rfl⟩,X⟩
    ·exact .inr ⟨d,qm,.inr ⟨f,args,te,rfl,h1⟩,X⟩
   | _=>grind
  | panic x =>
   simp only at h
   split at h
   ·rename_i t e U
    exact .inr ⟨_,_,.inl ⟨x,t,e,rfl,U,rfl,rfl⟩,h⟩
   ·exact h.elim
  | _=>grind
theorem z0p{ops:Array Oper}{o:Oper}{s:pn}{k:pn->T α}{kp:D->St->T α}{r:α}(hkn:yQ s.kn s.fr.get)(h:(Nq (bf P xid tab ro) tab n ops o s k kp).leads r) :
  (∃ s',(stepG (bf P xid tab ro) n ops o s).leads s'/\(k s').leads r)\/∃ d qm,jO ops s.fr.get o=some true/\NZ (bf P xid tab ro) o s d qm/\(kp d qm).leads r:=by
 obtain⟨dst,op,ty,pos,after,guard⟩:=o
 cases guard with
 | none =>
  rcases QB h with h | ⟨d,qm,h1,X⟩
  ·exact .inl h
  ·exact .inr ⟨d,qm,rfl,h1,X⟩
 | some jw =>
  obtain⟨j,want⟩:=jw
  simp only[Nq]at h
  simp only[stepG]
  cases hg:bP ops j with
  | none=>rw[hg]at h; exact h.elim
  | some t =>
   rw[hg]at h
   simp only at h ⊢
   cases hk:s.kn.get t with
   | some b =>
    rw[hk]at h
    simp only at h ⊢
    have hw:jO ops s.fr.get ⟨dst,op,ty,pos,after,some (j,want)⟩=some (b==want):=by simp[jO,hg,hkn t b hk]
    cases J:b==want with
    | true =>
     rw[J,cond_true]at h; rw[cond_true]
     rcases QB h with h | ⟨d,qm,h1,X⟩
     ·grind
     ·grind
    | false =>
     rw[J,cond_false]at h; rw[cond_false]
     cases V:gA n dst with
     | true=>rw[V,cond_true]at h; exact .inl ⟨_,rfl,h⟩
     | false=>rw[V,cond_false]at h; exact h.elim
   | none =>
    rw[hk]at h
    simp only at h ⊢
    split at h
    ·rename_i x hf
     rw[hf]
     simp only
     have hw:jO ops s.fr.get ⟨dst,op,ty,pos,after,some (j,want)⟩=some (x==want):=by simp[jO,hg,hf]
     cases V:gA n dst with
     | false=>rw[V]at h; exact h.elim
     | true =>
      rw[V,cond_true]at h; rw[cond_true]
      rcases h with⟨U,h⟩ | ⟨U,h⟩
      ·subst U
       cases want with
       | true =>
        rw[cond_true]at h
        rcases QB h with⟨s',h1,X⟩ | ⟨d,qm,h1,X⟩
        ·exact .inl ⟨s',.inl ⟨rfl,h1⟩,X⟩
        ·exact .inr ⟨d,qm,hw,h1,X⟩
       | false=>rw[cond_false]at h; exact .inl ⟨_,.inl ⟨rfl,rfl⟩,h⟩
      ·subst U
       cases want with
       | true=>rw[cond_true]at h; exact .inl ⟨_,.inr ⟨rfl,rfl⟩,h⟩
       | false =>
        rw[cond_false]at h
        rcases QB h with⟨s',h1,X⟩ | ⟨d,qm,h1,X⟩
        ·exact .inl ⟨s',.inr ⟨rfl,h1⟩,X⟩
        ·exact .inr ⟨d,qm,hw,h1,X⟩
    ·rename_i hf
     rw[hf]
     simp only
     cases V:gA n dst with
     | true=>rw[V,cond_true]at h; exact .inl ⟨_,rfl,h⟩
     | false=>rw[V,cond_false]at h; exact h.elim
    ·exact h.elim
def LA(c:Ctx)(n:Nat)(ops:Array Oper)(l:List Oper)(s:pn)(d:D)(qm:St):Prop :=
 ∃ pre o post s1,l=pre++o::post/\(Z4 c n ops pre s).leads s1/\jO ops s1.fr.get o=some true/\NZ c o s1 d qm
theorem U7{ops:Array Oper}:∀ (l:List Oper) {s:pn} {k:pn->T α} {kp:D->St->T α} {r:α},yQ s.kn s.fr.get->(∀ o∈l,∃ i:Nat,ops[i]? = some o)->(YM (bf P xid tab ro) tab n ops l s k kp).leads r ->
  (∃ s',(Z4 (bf P xid tab ro) n ops l s).leads s'/\(k s').leads r)\/∃ d qm,LA (bf P xid tab ro) n ops l s d qm/\(kp d qm).leads r
 | [],s,k,kp,r,_,_,h=>.inl ⟨s,rfl,h⟩
 | o::l,s,k,kp,r,hk,B,h=>by
  rcases z0p hk h with⟨s1,h1,X⟩ | ⟨d,qm,h1,X,h3⟩
  ·obtain⟨i,hi⟩:=B o zQ
   obtain⟨_,_,hk1,_⟩:=CD hi hk h1
   rcases U7 l hk1 (λo' ho=>B o' (zI _ ho)) X with⟨s2,h3,h4⟩ | ⟨d,qm,⟨pre,o',post,s2,e,g1,g2,g3⟩,h4⟩
   ·exact .inl ⟨s2,T.zh.2 ⟨s1,h1,h3⟩,h4⟩
   ·exact .inr ⟨d,qm,⟨o::pre,o',post,s2,wa,T.zh.2 ⟨s1,h1,g1⟩,g2,g3⟩,h4⟩
  ·exact .inr ⟨d,qm,⟨[],o,l,s,rfl,rfl,h1,X⟩,h3⟩
theorem Bq{ops:Array Oper}{draw:Bool}{fr:Fr}{kn:Kn}{st:St}{k:pn->T α}{kp:D->St->T α}{r:α}(hk:yQ kn fr.get)(h:(Hk (bf P xid tab ro) tab n ops draw fr kn st k kp).leads r) :
  (∃ s',(ry (bf P xid tab ro) n ops draw fr kn st).leads s'/\(k s').leads r)\/∃ d qm,draw=false/\LA (bf P xid tab ro) n ops ops.toList ⟨fr,kn,st,[],[]⟩ d qm/\(kp d qm).leads r:=by
 rcases U7 _ hk (λo ho=>by obtain⟨i,hi,he⟩:=List.getElem_of_mem ho; exact⟨i,wa⟩) h with⟨s',h1,X⟩ | ⟨d,qm,h1,X⟩
 ·cases V : !draw||VD ops s'.ks.reverse s'.bk.reverse with
  | false=>rw[V]at X; exact X.elim
  | true =>
   rw[V,cond_true]at X
   refine .inl ⟨s',T.zh.2 ⟨s',h1,?_⟩,X⟩
   rw[V]; rfl
 ·cases draw with
  | true=>exact X.elim
  | false=>grind
end
end
end Go.AM
namespace Go.AM
variable [gy] [BB]
open Go.RowKit
theorem GJ{α β:Type}{f:α->β}{t:T α}{x:α}(h:t.leads x):(Ik f t).leads (f x):=by
 induction t with
 | ret a=>exact congrArg f h
 | ite b p q ip iq=>exact sC h (λh=>⟨h.1,ip h.2⟩) (λh=>⟨h.1,iq h.2⟩)
 | zl p t ih=>exact⟨h.1,ih h.2⟩
 | fail=>exact h.elim
theorem Sl:∀ (l:List It) (d:jZ l) (t:T (jZ l)) (x:jZ l),t.leads x->z0x l d t=x
 | [],_,_,_,_=>rfl
 | [_],d,t,x,h=>((T.Ha d t x).1 h).2
 | i::j::r,d,t,x,h=>by
  have h1:=((T.Ha d.1 _ _).1 (GJ (f:=Prod.fst) h)).2
  have X:=Sl (j::r) d.2 _ _ (GJ (f:=Prod.snd) h)
  show(T.val d.1 (Ik Prod.fst t),z0x (j::r) d.2 (Ik Prod.snd t))=x
  rw[h1,X]
  exact rfl
theorem z0g{α:Type}(t:T α)(h:t.Yn):∃ x,t.leads x:=by
 induction t with
 | ret a=>exact⟨a,rfl⟩
 | ite b p q ip iq =>
  unfold T.Yn at h ip iq
  simp only[T.Jl]at h
  cases b with
  | true =>
   obtain⟨x,U⟩:=ip (wa)
   exact⟨x,.inl ⟨rfl,U⟩⟩
  | false =>
   obtain⟨x,U⟩:=iq (wa)
   exact⟨x,.inr ⟨rfl,U⟩⟩
 | zl p t ih =>
  unfold T.Yn at h ih
  simp only[T.Jl]at h
  cases ht:t.Jl with
  | none=>rw[ht]at h ih; obtain⟨x,U⟩:=ih trivial; exact⟨x,h,U⟩
  | some q=>rw[ht]at h ih; obtain⟨x,U⟩:=ih h.2; exact⟨x,h.1,U⟩
 | fail=>exact h.elim
theorem FB{l:List It}{t:T (jZ l)}{x:jZ l}(h:(z1E l t).leads x):t.leads x:=by
 unfold z1E at h
 split at h
 ·rename_i d V
  have key:t.Yn->z0x l d t=x->t.leads x:=by
   intro hp hv
   obtain⟨y,hy⟩:=z0g t hp
   rw[<- hv,Sl l d t y hy]; exact hy
  split at h
  ·rename_i hn; exact key (by unfold T.Yn; rw[hn]; trivial) h
  ·rename_i p hn; exact key (by unfold T.Yn; rw[hn]; exact h.1) h.2
 ·exact h.elim
def RIs(ws:List Way)(r:iF ws)(w:Way)(x:w.sh.den):Prop:=∀ {α:Type} (k:Ex->Fr->St->T α),Oi ws r k=k w.ex (w.sh.fr x) (w.sh.st x)
theorem DI:∀ (ws:List Way) (ex:Ex) (fr:Fr) (st:St) (r:iF ws),(DH ws ex fr st).leads r->∃ w,w∈ws/\∃ x:w.sh.den,RIs ws r w x/\W8 w.ex ex=true/\(w.sh.un fr st).leads x
 | [],_,_,_,_,h=>h.elim
 | [w],ex,fr,st,r,h=>by
  have h:(bif W8 w.ex ex then w.sh.un fr st else .fail:T w.sh.den).leads r:=h
  cases hs:W8 w.ex ex with
  | false=>rw[hs]at h; exact h.elim
  | true=>rw[hs]at h; exact⟨w,qw,r,λk=>rfl,hs,h⟩
 | w::v::ws,ex,fr,st,r,h=>by
  have h:(bif W8 w.ex ex then(w.sh.un fr st).bind λx=>T.ret (qR x:w.sh.den⊕iF (v::ws))else(DH (v::ws) ex fr st).bind λy=>T.ret (qM y)).leads r:=h
  cases hs:W8 w.ex ex with
  | true =>
   rw[hs]at h
   obtain⟨x,h1,X⟩:=T.zh.1 h
   subst X
   exact⟨w,qw,x,λk=>rfl,hs,h1⟩
  | false =>
   rw[hs]at h
   obtain⟨y,h1,X⟩:=T.zh.1 h
   subst X
   obtain⟨w',k1,x,k2,k3,k4⟩:=DI (v::ws) ex fr st y h1
   exact⟨w',zI _ k1,x,λk=>k2 k,k3,k4⟩
def zcO(O:KS)(n:Nat)(w:Way)(z:w.sh.den)(a:Act)(tB:Exit):Prop:=∀ q,Fw w.ex (w.sh.fr z)=some q->Rel O n q.2.get a/\EP O q.1 tB
theorem z5m{κ0 O:KS}{n:Nat}{a:Act}{w:Way}{z:w.sh.den}{oex:Ex}{ofr:Fr}{tB:Exit}(U:Ext κ0 O)(hI:Inv O)(hR:Rel O n ofr.get a)(he:EP O oex tB)(hs:W8 w.ex oex=true)(B:κ0.st.length<=w.sh.bs.length)
  (h:(w.sh.un (B0 oex ofr) O.st).leads z):∃ κ1:KS,κ1.w=O.w/\κ1.st=w.sh.st z/\Inv κ1/\Ext κ0 κ1/\zcO κ1 n w z a tB:=by
 have plain:B0 oex ofr=ofr->(∀ q,Fw w.ex (w.sh.fr z)=some q->q.2=w.sh.fr z/\∀ κ1:KS,EP κ1 q.1 tB)->∃ κ1:KS,κ1.w=O.w/\κ1.st=w.sh.st z/\Inv κ1/\Ext κ0 κ1/\zcO κ1 n w z a tB:=by
  intro e1 e2
  rw[e1]at h
  obtain⟨κ1,q1,q2,q3,q4,q5,_⟩:=w.sh.Y8 (n:=n) U hI hR B h
  exact⟨κ1,q1,q2,q3,q4,λq hq=>by obtain⟨g1,g2⟩:=e2 q hq; rw[g1]; exact⟨q5,g2 κ1⟩⟩
 cases hw:w.ex with
 | normal =>
  rw[hw]at hs
  cases oex<;>first | (cases hs; done) | skip
  exact plain rfl λq hq=>by rw[hw]at hq; cases hq; exact⟨rfl,λ_=>he⟩
 | ret =>
  rw[hw]at hs
  cases oex<;>first | (cases hs; done) | skip
  exact plain rfl λq hq=>by rw[hw]at hq; cases hq; exact⟨rfl,λ_=>he⟩
 | exit id =>
  rw[hw]at hs
  cases oex<;>first | (cases hs; done) | skip
  rename_i id'
  have:id=id':=zA hs
  subst this
  exact plain rfl λq hq=>by rw[hw]at hq; cases hq; exact⟨rfl,λ_=>he⟩
 | bC p =>
  rw[hw]at hs
  cases p<;>first | (cases hs; done) | skip
  rename_i t p
  cases oex<;>first | (cases hs; done) | skip
  rename_i p'
  cases p'<;>first | (cases hs; done) | skip
  rename_i t' d
  have:t=t':=zA hs
  subst this
  obtain⟨v,rfl,hv⟩:=he
  cases hv with
  | iface _ _ u hu =>
   have BU:Rel O 1 (B0 (.bC (.iface t d)) ofr).get { tmps := #[u],defers:=BB.df }:=by
    refine⟨rfl,rfl,λs d' V => ?_⟩
    simp only[B0,Fr.get]at V
    cases J:R 0 s with
    | true =>
     have:=zA J
     grind
    | false=>grind
   obtain⟨κ1,q1,q2,q3,q4,q5,_⟩:=w.sh.Y8 (n:=1) U hI BU B h
   refine⟨κ1,q1,q2,q3,q4,λq hq => ?_⟩
   rw[hw]at hq
   simp only[Fw]at hq
   split at hq
   ·rename_i d' eR
    cases hq
    obtain⟨v',g1,g2⟩:=q5.get 0 d' eR
    cases g1
    exact⟨⟨hR.size,hR.defers,λs d V=>by cases V⟩,_,rfl,.iface t d' _ g2⟩
   ·cases hq
theorem Zv(st:St):∀ (bs:List Bk) (bd:List Bd),(jN st bs bd).length<=bs.length
 | [],_=>by simp[jN]
 | .arr _::r,[]=>by simp[jN]
 | .arr _::r,.v _ _::_=>by simp[jN]
 | .arr _::r,.a _ _::d=>by have:=Zv st r d; simp[jN]; exact this
 | .var _::r,[]=>by simp[jN]
 | .var _::r,.a _ _::_=>by simp[jN]
 | .var _::r,.v _ _::d=>by have:=Zv st r d; simp[jN]; exact this
 | .cvar _::r,d=>by have:=Zv st r d; cases d<;>(simp[jN]; exact this)
 | .dead::r,d=>by have:=Zv st r d; cases d<;>(simp[jN]; exact this)
theorem ug.Wa(s:ug)(x:s.den):(s.st x).length<=s.bs.length:=Zv _ _ _
theorem KB{l m:Fr}{s:Nat}{d:D}(h:(l++m).get s=some d):l.get s=some d\/m.get s=some d:=by
 induction l with
 | nil=>grind
 | cons p r ih =>
  simp only[qJ,Fr.get]at h ⊢
  grind
theorem z06{l:List Nat}{fr:Fr}{s:Nat}{d:D}(h:(p9 l++fr).get s=some d):s ∉ l/\fr.get s=some d:=by
 induction l with
 | nil=>exact⟨qw,h⟩
 | cons t r ih =>
  simp only[p9,qI,qJ,Fr.get]at h
  cases ht:R t s with
  | true=>grind
  | false =>
   rw[ht,cond_false]at h
   obtain⟨h1,X⟩:=ih h
   refine⟨?_,X⟩
   simp
   exact⟨λe=>by subst e; simp at ht,h1⟩
theorem UH{o:Oper}{s:Nat}:∀ {l:List Oper},o∈l->o.dst=some s->s∈dstsOf l
 | p::r,h,hs=>by
  simp only[dstsOf]
  rcases zH.1 h with rfl | h
  ·grind
  ·split
   ·exact zI _ (UH h hs)
   ·exact UH h hs
def Kept(code:Code)(a a':Act):Prop:=∀ s:Nat,s ∉ wG code->a'.tmps[s]? = a.tmps[s]?
section
variable {P:Program} {xid:Nat} {tab:mj} {ro:Nat->Bool} {n:Nat} {H:Hints}
theorem WO{O E:KS}{fr out:Fr}{a a':Act}{ws:List Nat}(hR:Rel O n fr.get a)(U:Ext O E)(ho:Rel E n out.get a')(hk:∀ s:Nat,s ∉ ws->a'.tmps[s]? = a.tmps[s]?):Rel E n (out++(p9 ws++fr)).get a':=by
 refine⟨ho.size,ho.defers,λs d V => ?_⟩
 rcases KB V with h | h
 ·exact ho.get s d h
 ·obtain⟨h1,X⟩:=z06 h
  obtain⟨v,g1,g2⟩:=hR.get s d X
  exact⟨v,(hk s h1).trans g1,g2.mono U⟩
theorem Ed{c:Ctx}{ops:Array Oper}:∀ (l:List Oper) (s s':pn),(Z4 c n ops l s).leads s'->quiet s'.ks=true->s'.st=s.st/\quiet s.ks=true:=by
 have hq:∀ {k:Nat} {ks:List Nat},quiet (k::ks)=true->R k 2=false/\quiet ks=true:=by
  intro k ks h
  simp only[quiet,zF,I,qF]at h
  exact⟨h.1,by unfold quiet; exact h.2⟩
 have one:∀ (o:Oper) (s s1:pn),(lN c n o s).leads s1->quiet s1.ks=true->s1.st=s.st/\quiet s.ks=true:=by
  intro o s s1 h hk
  unfold lN at h
  cases V:gA n o.dst with
  | false=>rw[V]at h; exact h.elim
  | true =>
   rw[V,cond_true]at h
   obtain⟨r,h1,X⟩:=T.zh.1 h
   cases X
   obtain⟨g1,g2⟩:=hq hk
   refine⟨?_,g2⟩
   show r.2=s.st
   generalize QY c s.kn s.fr o=cl at h1 g1
   cases cl with
   | val t=>obtain⟨d,_,h3⟩:=T.zh.1 h1; cases h3; rfl
   | rd k=>obtain⟨d,_,h3⟩:=T.zh.1 h1; cases h3; rfl
   | wr k=>cases g1
 have skp:∀ (o:Oper) (s:pn),quiet (de o s).ks=true->(de o s).st=s.st/\quiet s.ks=true:=λo s h=>⟨rfl,(hq h).2⟩
 have gd:∀ (o:Oper) (s s1:pn),(stepG c n ops o s).leads s1->quiet s1.ks=true->s1.st=s.st/\quiet s.ks=true:=by
  intro o s s1 h hk
  obtain⟨dst,op,ty,pos,after,guard⟩:=o
  cases guard with
  | none=>exact one _ s s1 h hk
  | some jw =>
   obtain⟨j,want⟩:=jw
   simp only[stepG]at h
   cases hg:bP ops j with
   | none=>rw[hg]at h; exact h.elim
   | some t =>
    rw[hg]at h
    simp only at h
    cases hkn:s.kn.get t with
    | some b =>
     rw[hkn]at h
     simp only at h
     cases J:b==want with
     | true=>grind
     | false =>
      rw[J,cond_false]at h
      cases V:gA n dst with
      | false=>rw[V]at h; exact h.elim
      | true=>rw[V,cond_true]at h; cases h; exact skp _ s hk
    | none =>
     rw[hkn]at h
     simp only at h
     split at h
     ·cases V:gA n dst with
      | false=>rw[V]at h; exact h.elim
      | true =>
       rw[V,cond_true]at h
       rcases h with⟨_,h⟩ | ⟨_,h⟩
       ·cases want with
        | true=>rw[cond_true]at h; exact one _ (s.lY t true) s1 h hk
        | false=>rw[cond_false]at h; cases h; exact skp _ (s.lY t true) hk
       ·cases want with
        | true=>rw[cond_true]at h; cases h; exact skp _ (s.lY t false) hk
        | false=>rw[cond_false]at h; exact one _ (s.lY t false) s1 h hk
     ·cases V:gA n dst with
      | false=>rw[V]at h; exact h.elim
      | true=>rw[V,cond_true]at h; cases h; exact skp _ s hk
     ·exact h.elim
 intro l
 induction l with
 | nil=>intro s s' h hk; cases h; exact⟨rfl,hk⟩
 | cons o l ih =>
  intro s s' h hk
  obtain⟨s1,h1,X⟩:=T.zh.1 h
  obtain⟨g1,g2⟩:=ih s1 s' X hk
  obtain⟨k1,k2⟩:=gd o s s1 h1 g2
  exact⟨g1.trans k1,k2⟩
theorem E8{c:Ctx}{ops:Array Oper}{draw:Bool}{fr:Fr}{kn:Kn}{st:St}{s':pn}(h:(ry c n ops draw fr kn st).leads s')(hq:quiet s'.ks=true):s'.st=st:=by
 obtain⟨s1,h1,X⟩:=T.zh.1 h
 cases V:(!draw||VD ops s1.ks.reverse s1.bk.reverse)with
 | false=>rw[V]at X; exact X.elim
 | true=>rw[V,cond_true]at X; cases X; exact(Ed _ _ _ h1 hq).1
theorem z1h{c:Ctx}{O:KS}{a:Act}{o:Oper}{g:Nat}{args:Array Value}{zD:Ending->World->Prop}(jT:(execOp a.eval o).run c.P O.w=(callFunc g args).run c.P O.w)
  (h:gM c.P g args O.w zD) {K:Act->World->Prop} {Q:Exit->Act->World->Prop} (hR:∀ e w',zD e w'->∃ ch,e=.panicked ch/\Q (.panic ch) a w'):o.wp c.P a O.w K Q:=by
 unfold Oper.wp
 rw[jT]
 rcases h with⟨h1,X⟩ | ⟨v,w',h1,X⟩
 ·rw[h1]
  refine X.mono λe w' he => ?_
  grind
 ·grind
theorem z4D{c:Ctx}{O:KS}{n:Nat}{a:Act}{o:Oper}{s:pn}{d:D}{qm:St}(hC:∀ g,EC c.P g (c.fn g))(hI:Inv O)(hR:Rel O n s.fr.get a)(ud:O.st=s.st)(h:NZ c o s d qm){K:Act->World->Prop}{Q:Exit->Act->World->Prop}
  (hQ:∀ (v:Value) (E:KS),E.st=qm->Inv E->Ext O E->RD E d v->Q (.panic [{ v,recovered:=false }]) a E.w):o.wp c.P a O.w K Q:=by
 have mb:∀ (x:Operand) (z:D),bM s.fr x=some z->RD O z (a.eval x):=λx z hz=>hR.eval (by rw[<- iR]; exact hz)
 obtain⟨dst,op,ty,pos,after,guard⟩:=o
 rcases h with⟨x,t,e,rfl,U,rfl,rfl⟩ | ⟨f,args,te,rfl,g,caps,l,hp,B,hc⟩
 ·have hv:=mb x _ U
  generalize FX:a.eval x=pv at hv
  cases hv with
  | iface _ _ u hu =>
   have jT:(execOp a.eval ⟨dst,.panic x,ty,pos,after,guard⟩).run c.P O.w=.halt (.panic (.iface t u)) O.w:=by
    simp[execOp,FX,Instr.panic]
   unfold Oper.wp
   rw[jT]
   exact hQ _ O ud hI (Ext.refl O) (.iface t e u hu)
 ·have hpv:=mb f _ hp
  have hr:=ij (O:=O) (vs:=args.toList.map a.eval) B (qw) (λi d v V hv=>by
      simp only[List.getElem?_map]at V hv
      cases hi:args.toList[i]? with
      | none=>grind
      | some x=>rw[hi]at V hv; simp at V hv; subst hv; exact mb x d V)
  generalize FX:a.eval f=pv at hpv
  cases hpv with
  | wi _ _ us Qd hh2 =>
   have Qc:=G9 g hr (⟨Qd,hh2⟩:wP O caps us)
   rw[<- ud]at hc
   refine z1h (c:=c) (O:=O) (g:=eP g) (args:=(cj g (args.toList.map a.eval) us).toArray) ?_ (hC (eP g) O _ _ _ _ hc hI Qc) ?_
   ·exact Fb FX
   ·rintro e w' ⟨E,rfl,h1,X,h3,v,rfl,h4⟩
    grind
theorem z0d{c:Ctx}{O:KS}{n:Nat}{a:Act}{id:Nat}{ops:Array Oper}{fr:Fr}{kn:Kn}{d:D}{qm:St}(hC:∀ g,EC c.P g (c.fn g))(hI:Inv O)(hR:Rel O n fr.get a)(hk:yQ kn fr.get)
  (h:LA c n ops ops.toList ⟨fr,kn,O.st,[],[]⟩ d qm) {Q:Exit->Act->World->Prop}
  (hQ:∀ (v:Value) (a':Act) (E:KS),E.st=qm->Inv E->Ext O E->Rel E n (Fr.get []) a'->rD ops a a'->RD E d v->Q (.panic [{ v,recovered:=false }]) a' E.w):(Code.region id ops false).wp c.P Q a O.w:=by
 obtain⟨pre,o,post,s1,e,h1,X,h3⟩:=h
 have Tq:∀ j:Nat,ops[j]? = (pre++o::post)[j]? := λj=>by rw[<- e]; simp
 obtain⟨ks,g1,g2,_⟩:=sG pre 0 ⟨fr,kn,O.st,[],[]⟩ s1 (λj=>by
  by_cases hj:j<pre.length
  ·grind
  ·right; omega) hk h1
 have cm:zX ops.size=List.range' 0 pre.length++pre.length::List.range' (pre.length+1) post.length:=by
  have:ops.size=pre.length+(post.length+1):=by rw[<- qB,e]; simp
  rw[this,List.range_eq_range',<- List.range'_append_1,qD,List.range'_succ]
 refine wp_region ?_
 rw[cm]
 refine Kj hC _ _ hI hR rfl g1 λa' E e1 e2 e3 e4 e5 => ?_
 rw[wpOps_cons]
 unfold wpOp
 have ho:ops[pre.length]? = some o:=by rw[Tq]; simp
 rw[ho]
 simp only
 rw[if_pos (ZJ e4 X)]
 exact .inl (z4D hC e2 e4 e1 h3 λv κ'' f1 f2 f3 f4=>hQ v a' κ'' f1 f2 (e3.trans f3) ⟨e4.size,e4.defers,λs d V=>by cases V⟩ e5 f4)
def Ul(P:Program)(n:Nat)(l:zy)(b:Code):Prop:=∀ (O:KS) (a:Act) (p:jZ l.ps) (s:l.sh.den) (r:iF l.ws),(l.F p s).leads r->O.st=l.sh.st s->Inv O ->
 Rel O n (l.sh.fr s).get a->Rel O n (nR (l.sh.st s) l.ps p).get a->N8 l.ps (wG b)=true->(∀ w∈l.ws,l.sh.bs.length<=w.sh.bs.length) ->
 ∀ Q:Exit->Act->World->Prop,(∀ (w:Way) (x:w.sh.den) (tB:Exit) (a':Act) (E:KS),w∈l.ws->RIs l.ws r w x->E.st=w.sh.st x->Inv E->Ext O E->zcO E n w x a' tB->Kept b a a'->Q tB a' E.w) ->
  (Code.loop b).wp P Q a O.w
def gN(P:Program)(n:Nat)(H:Hints)(code:Code):Prop:=∀ p∈uh code,∀ l,H.loop p.1=some l->Ul P n l p.2
theorem z1I{kn:Kn}:∀ (l:List Nat) {fr:Fr} {st:St} {r:Fr×St},(frz l fr st).leads r->yQ kn fr.get->yQ kn r.1.get
 | [],fr,st,r,h,hk=>by cases h; exact hk
 | s::l,fr,st,r,h,hk=>by
  obtain⟨x,h1,X⟩:=T.zh.1 h
  refine z1I l X λt b J => ?_
  have hf:=hk t b J
  unfold z7B at h1
  cases hW:zM 1000000 s with
  | true =>
   rw[hW,cond_true]at h1
   have hfr:x.1=fr:=by
    unfold z7z at h1
    split at h1
    ·split at h1
     ·split at h1
      ·split at h1
       ·obtain⟨_,h1⟩:=h1; cases h1; rfl
       ·exact h1.elim
      ·exact h1.elim
     ·cases h1; rfl
    ·cases h1; rfl
   grind
  | false =>
  rw[hW,cond_false]at h1
  unfold z7x at h1
  split at h1
  ·rename_i b' vn e off len hs
   split at h1
   ·split at h1
    ·obtain⟨_,h1⟩:=h1
     cases h1
     simp only[Fr.get]
     cases ht:R s t with
     | true=>rw[<- zA ht,hs]at hf; cases hf
     | false=>grind
    ·exact h1.elim
   ·exact h1.elim
  ·cases h1; exact hf
theorem z4V{c:Ctx}{t e:Nat}(hu:c.P.underlying t=some (.slice e)){op:BinOp}{b:Bool}(hop:z4d op=some b)(px py:Operand)(w:World)(x:Option Addr)(l k:Nat) :
  (do eqGuard op t px py (.slice x l k) (.slice none 0 0); binOp op t (.slice x l k) (.slice none 0 0):Sem Value).run c.P w=.ok (.bool (if b=true then x.isNone else !x.isNone)) w:=by
 cases op<;>simp only[z4d]at hop<;>cases hop
 ·have:=run_eql_slice_nil (P:=c.P) w t e x l k hu
  simp only[eqGuard]
  simpa using this
 ·have:=run_neq_slice_nil (P:=c.P) w t e x l k hu
  simp only[eqGuard]
  simpa using this
theorem MS{ops:Array Oper}{fr:Fr}{p:zgf}(hp:DT (bf P xid tab ro) n ops fr=some p){O:KS}{a:Act}{kn:Kn}(hI:Inv O)(hR:Rel O n fr.get a)(hk:yQ kn fr.get){id:Nat}(Q:Exit->Act->World->Prop)
  (hQ:∀ a':Act,Kept (.region id ops false) a a' ->
   ((p.l=[]/\Rel O n (Fr.get ((p.c,some (.qj .bool p.eq))::(p.m,some .wF)::(p.s,some .wF)::fr)) a')\/Rel O n (Fr.get ((p.c,some (.qj .bool (!p.eq)))::(p.m,some (.qj (.sl p.e) p.l))::fr)) a')->Q .normal a' O.w) :
  (Code.region id ops false).wp P Q a O.w:=by
 unfold DT at hp
 split at hp
 ·rename_i o1 o2 hops
  split at hp
  ·rename_i m s hd1 ho1 hg1
   split at hp
   ·rename_i cc op t m' y ty' hd2 ho2 hg2
    split at hp
    ·rename_i b e l et hop hs hel
     cases hc:R m m'&&MF y&&zO m n&&zO cc n with
     | false=>grind
     | true =>
      rw[hc,cond_true]at hp
      cases hp
      simp only[I]at hc
      obtain⟨⟨⟨hmm,hy⟩,hmn⟩,hcn⟩:=hc
      have:=zA hmm
      subst this
      have hy':y=.const (.slice none 0 0):=by
       unfold MF at hy
       grind
      subst hy'
      obtain⟨v,hv,eR⟩:=hR.get s _ hs
      obtain⟨x,k,hvs⟩:∃ (x:Option Addr) (k:Nat),v=.slice x l.length k/\(x=none->l=[]/\k=0):=by
       rcases(eR.jP rfl).Z5 with⟨rfl,a0,he⟩ | ⟨blk,off,cap,f,he,ja,ju,h1,X⟩
       ·grind
       ·grind
      obtain⟨rfl,hvn⟩:=hvs
      have cm:ops.size=2:=by rw[<- qB,hops]; rfl
      have e0:ops[0]? = some o1:=by rw[<- qO,hops]; rfl
      have e1:ops[1]? = some o2:=by rw[<- qO,hops]; rfl
      have zq8:m<n:=zE hmn
      have zuO:cc<n:=zE hcn
      have hsl:a.tmps.getD s undef=.slice x l.length k:=by simp[qC,hv]
      have wan:∀ (o:Oper) (ys:Nat->Option Value),o.guard=none->True:=λ_ _ _=>trivial
      refine wp_region ?_
      rw[cm,show zX 2=[0,1]from rfl,wpOps_cons]
      unfold wpOp
      rw[e0]
      simp only
      rw[if_pos (by unfold Region.wanted; rw[hg1])]
      refine .inl ?_
      obtain⟨d1,op1,ty1,zfa,af1,gu1⟩:=o1
      obtain⟨d2,op2,CK,zaz,af2,gu2⟩:=o2
      simp only at hd1 ho1 hg1 hd2 ho2 hg2
      subst hd1 ho1 hg1 hd2 ho2 hg2
      have hx1:(execOp a.eval ⟨some m,.move (.tmp s),ty1,zfa,af1,none⟩).run P O.w=.ok (.value (.slice x l.length k)) O.w:=by
       simp[execOp,Act.eval,hsl]
      unfold Oper.wp
      rw[hx1,Oper.upon_value,wpOps_cons]
      unfold wpOp
      rw[e1]
      simp only
      rw[if_pos (by unfold Region.wanted; rfl)]
      refine .inl ?_
      have mb:(a.put (some m) (.slice x l.length k)).eval (.tmp m)=.slice x l.length k:=by
       have:=hR.size
       simp[Act.eval,Act.put,qC,qA,this,zq8]
      have hu:=yW hel
      have jT:=z4V (c:=bf P xid tab ro) hu hop (.tmp m) (.const (.slice none 0 0)) O.w x l.length k
      have DE:(execOp (a.put (some m) (.slice x l.length k)).eval ⟨some cc,.binOp op t (.tmp m) (.const (.slice none 0 0)) ty',CK,zaz,af2,none⟩).run P O.w=.ok (.value (.bool (if b=true then x.isNone else !x.isNone))) O.w:=by
       have hex:execOp (a.put (some m) (.slice x l.length k)).eval ⟨some cc,.binOp op t (.tmp m) (.const (.slice none 0 0)) ty',CK,zaz,af2,none⟩ =
        (do Pure.pure (.value (<- (do eqGuard op t (.tmp m) (.const (.slice none 0 0)) ((a.put (some m) (.slice x l.length k)).eval (.tmp m)) (.slice none 0 0); binOp op t ((a.put (some m) (.slice x l.length k)).eval (.tmp m)) (.slice none 0 0))))):=rfl
       rw[hex,mb,Sem.run_bind]
       rw[show(do eqGuard op t (.tmp m) (.const (.slice none 0 0)) (.slice x l.length k) (.slice none 0 0); binOp op t (.slice x l.length k) (.slice none 0 0):Sem Value).run P O.w=_ from jT]
       rfl
      unfold Oper.wp
      rw[DE,Oper.upon_value]
      have ziE:∀ (q:Nat) (u:Value) (a1:Act) (t:Nat),(a1.put (some q) u).tmps[t]? = if q=t then(if q<a1.tmps.size then some u else none)else a1.tmps[t]? := by
       intro q u a1 t
       simp only[Act.put,qA]
      have hs1:(a.put (some m) (.slice x l.length k)).tmps.size=n:=by simp[Act.put,hR.size]
      have hs2:((a.put (some m) (.slice x l.length k)).put (some cc) (.bool (if b=true then x.isNone else !x.isNone))).tmps.size=n:=by simp[Act.put,hR.size]
      refine hQ _ (λt ht => ?_) ?_
      ·have hw:wG (.region id ops false)=[m,cc]:=by simp only[wG,hops,dstsOf]
       grind
      ·have get:∀ (t:Nat),((a.put (some m) (.slice x l.length k)).put (some cc) (.bool (if b=true then x.isNone else !x.isNone))).tmps[t]? = if cc=t then some (.bool (if b=true then x.isNone else !x.isNone))else if m=t then some (.slice x l.length k)else a.tmps[t]? := by
        grind
       have za7:∀ {i j:Nat},R i j=false->i≠j:=λh e=>by subst e; simp at h
       cases x with
       | none =>
        obtain⟨B,EF⟩:=hvn rfl
        subst B EF
        refine .inl ⟨rfl,hs2,hR.defers,λt d V => ?_⟩
        rw[get]
        simp only[Fr.get]at V
        cases h1:R cc t with
        | true =>
         rw[h1,cond_true]at V; cases V
         rw[if_pos (zA h1)]
         refine⟨_,rfl,?_⟩
         cases b<;>exact .bool
        | false =>
         rw[h1,cond_false]at V
         rw[if_neg (za7 h1)]
         cases X:R m t with
         | true=>rw[X,cond_true]at V; cases V; rw[if_pos (zA X)]; exact⟨_,rfl,.wF⟩
         | false =>
          rw[X,cond_false]at V
          rw[if_neg (za7 X)]
          cases h3:R s t with
          | true=>rw[h3,cond_true]at V; cases V; rw[<- zA h3]; exact⟨_,hv,.wF⟩
          | false=>rw[h3,cond_false]at V; exact hR.get t d V
       | some x =>
        refine .inr ⟨hs2,hR.defers,λt d V => ?_⟩
        rw[get]
        simp only[Fr.get]at V
        cases h1:R cc t with
        | true =>
         rw[h1,cond_true]at V; cases V
         rw[if_pos (zA h1)]
         refine⟨_,rfl,?_⟩
         cases b<;>exact .bool
        | false =>
         rw[h1,cond_false]at V
         rw[if_neg (za7 h1)]
         cases X:R m t with
         | true=>rw[X,cond_true]at V; cases V; rw[if_pos (zA X)]; exact⟨_,rfl,eR⟩
         | false=>rw[X,cond_false]at V; rw[if_neg (za7 X)]; exact hR.get t d V
    ·cases hp
   ·cases hp
  ·cases hp
 ·cases hp
theorem Tc{id:Nat}{b:Code}(J:∀ b',b≠.loop b')(fr:Fr)(kn:Kn)(st:St){α:Type}(k:Ly->T α):Uj (bf P xid tab ro) tab n H (.block id b) fr kn st k=Uj (bf P xid tab ro) tab n H b fr kn st λr=>match r.ex with
  | .exit id'=>bif R id' id then k { r with ex:=.normal } else k r
  | _=>k r:=by
 cases b<;>first | rfl | exact absurd rfl (J _)
theorem XA(hm:(bf P xid tab ro).P.follows .mixedOrders=true)(hT:eU P tab):∀ (code:Code),gN P n H code->∀ {fr:Fr} {kn:Kn} {O:KS} {a:Act} {α:Type} {k:Ly->T α} {r:α},
  (Uj (bf P xid tab ro) tab n H code fr kn O.st k).leads r->Inv O->Rel O n fr.get a->yQ kn fr.get ->
  ∀ Q:Exit->Act->World->Prop,(∀ (o:Ly) (tB:Exit) (a':Act) (E:KS),(k o).leads r->E.st=o.st->Inv E->Ext O E->Rel E n o.fr.get a'->yQ o.kn o.fr.get->Kept code a a'->(o.q=true->o.st=O.st)->EP E o.ex tB->Q tB a' E.w) ->
   code.wp P Q a O.w:=by
 intro code
 induction code with
 | skip=>intro _ fr kn O a α k r h hI hR hk Q hQ; exact wp_skip (hQ _ _ a O h rfl hI (Ext.refl O) hR hk (λ_ _=>rfl) (λ_=>rfl) rfl)
 | exit id=>intro _ fr kn O a α k r h hI hR hk Q hQ; exact wp_exit (hQ _ _ a O h rfl hI (Ext.refl O) hR hk (λ_ _=>rfl) (λ_=>rfl) rfl)
 | ret=>intro _ fr kn O a α k r h hI hR hk Q hQ; exact wp_ret (hQ _ _ a O h rfl hI (Ext.refl O) hR hk (λ_ _=>rfl) (λ_=>rfl) rfl)
 | region id ops draw =>
  intro _ fr kn O a α k r h hI hR hk Q hQ
  simp only[Uj]at h
  obtain⟨z,h0,h⟩:=T.zh.1 h
  obtain⟨κ0,w1,w2,w3,w4,w5⟩:=z1J _ h0 hI hR
  have EF:=z1I _ h0 hk
  rcases Bq EF h with⟨s,h1,X⟩ | ⟨d,qm,rfl,h1,X⟩
  rotate_left
  ·rw[<- w2]at h1
   rw[<- w1]
   exact z0d (DP hT) w3 w5 EF h1 λv a' E e1 e2 e3 e4 e5 e6=>hQ ⟨.bC d,[],[],qm,false⟩ _ a' E X e1 e2 (w4.trans e3) e4 (nP _) (λt ht=>e5 t λo ho he=>ht (UH ho he)) (λhq=>by cases hq) ⟨v,rfl,e6⟩
  rw[<- w2]at h1
  have YB:=z0k EF h1
  rw[<- w1]
  refine(z0l hm (DP hT) w3 w5 EF h1 λa' E e1 e2 e3 e4 e5=>hQ ⟨.normal,s.fr,s.kn,s.st,quiet s.ks&&(H.frz id).isEmpty⟩ _ a' E X e1 e2 (w4.trans e3) e4 YB (λt ht=>e5 t λo ho he=>ht (UH ho he)) (λhq => ?_) rfl).1
  simp only[I]at hq
  have he:H.frz id=[]:=zW.1 hq.2
  rw[he]at h0
  cases h0
  exact(E8 h1 hq.1).trans w2
 | seq x y ix iy =>
  intro B fr kn O a α k r h hI hR hk Q hQ
  have hlx:gN P n H x:=λp hp=>B p (by simp only[uh,zN]; exact .inl hp)
  have hly:gN P n H y:=λp hp=>B p (by simp only[uh,zN]; exact .inr hp)
  have kx:∀ {a a':Act},Kept x a a'->Kept (.seq x y) a a':=λh s hs=>h s λe=>hs (by simp only[wG,zN]; exact .inl e)
  have ky:∀ {a a':Act},Kept y a a'->Kept (.seq x y) a a':=λh s hs=>h s λe=>hs (by simp only[wG,zN]; exact .inr e)
  simp only[Uj]at h
  split at h
  ·refine wp_seq (ix hlx h hI hR hk _ λo tB a' E e0 e1 e2 e3 e4 e4' e5 e5q e6 => ?_)
   cases hex:o.ex<;>rw[hex]at e0 e6<;>simp only at e0
   ·cases e6
    refine iy hly (O:=E) (e1▸e0) e2 e4 e4' Q λo' Dj a'' κ'' f0 f1 f2 f3 f4 BQ f5 Lr f6=>hQ { o' with q:=o.q&&o'.q } Dj a'' κ'' f0 f1 f2 (e3.trans f3) f4 BQ (λs hs=>(ky f5 s hs).trans (kx e5 s hs)) ?_ f6
    grind
   ·cases e6; exact hQ o _ a' E e0 e1 e2 e3 e4 e4' (kx e5) e5q (by rw[hex]; rfl)
   ·cases e6; exact hQ o _ a' E e0 e1 e2 e3 e4 e4' (kx e5) e5q (by rw[hex]; rfl)
   ·obtain⟨v,rfl,hv⟩:=e6
    exact hQ o _ a' E e0 e1 e2 e3 e4 e4' (kx e5) e5q (by rw[hex]; exact⟨v,rfl,hv⟩)
  ·rename_i gv hcu
   cases hw:Cv gv with
   | false=>rw[hw]at h; exact h.elim
   | true =>
    rw[hw,cond_true]at h
    obtain⟨z,h1,X⟩:=T.zh.1 h
    have h1:=FB h1
    refine wp_seq (ix hlx h1 hI hR hk _ λo tB a' E e0 e1 e2 e3 e4 e4' e5 e5q e6 => ?_)
    cases hex:o.ex<;>rw[hex]at e0 e6<;>simp only at e0
    ·cases e6
     cases hq:o.q with
     | false=>rw[hq]at e0; exact e0.elim
     | true =>
      rw[hq,cond_true]at e0
      have ud:o.st=O.st:=e5q hq
      have hRz:Rel E n (nR O.st gv z).get a':=by
       refine⟨e4.size,e4.defers,λt d V => ?_⟩
       obtain⟨k',y',d0,g0,g1,g2,g3⟩:=(Jy (p:=λ_=>true) (qm:=O.st) gv [] z (λ_ _=>rfl) e0).2 _ (get_mem V)
       cases g3
       obtain⟨v,q1,q2⟩:=e4.get _ _ g1
       have Gq:=zP.1 hw _ g0
       have Gq:YJ k'=true:=Gq
       have hwk:Wk E E:=⟨rfl,rfl,rfl,rfl,λb d h=>⟨d,h⟩,λb v e xs h=>.inl h,λb v e xs h=>h,λb h=>h⟩
       have ja:Iw [] k'=true:=by cases k'<;>first | rfl | cases Gq
       rw[<- e1]at g2
       have:=Es hwk (bs:=[]) ja (λ_ _=>rfl) (qm:=E.st) (λ_ _=>rfl) (λ_ h=>by simp[rowAt]at h) g2 q2
       grind
      have BU:=WO hR e3 hRz e5
      refine iy hly (O:=E) (by rw[e1,ud]; exact X) e2 BU (nP _) Q λo' Dj a'' κ'' f0 f1 f2 f3 f4 BQ f5 Lr f6=>hQ o' Dj a'' κ'' f0 f1 f2 (e3.trans f3) f4 BQ (λs hs=>(ky f5 s hs).trans (kx e5 s hs)) (λhq=>(Lr hq).trans (e1.trans ud)) f6
    ·exact e0.elim
    ·exact e0.elim
    ·exact e0.elim
  ·rename_i hcu
   cases hop:opsOf x with
   | none=>rw[hop]at h; exact h.elim
   | some ops =>
    rw[hop]at h
    simp only at h
    cases hp:DT (bf P xid tab ro) n ops fr with
    | none=>rw[hp]at h; exact h.elim
    | some p =>
     rw[hp]at h
     obtain⟨Gp,ziw⟩:=h
     obtain⟨id,rfl⟩:∃ id,x=.region id ops false:=by
      cases x with
      | region id ops' draw =>
       cases draw with
       | true=>cases hop
       | false=>cases hop; exact⟨id,rfl⟩
      | _=>cases hop
     refine wp_seq (MS hp hI hR hk _ ?_)
     intro a' hk1 zi3
     rcases zi3 with⟨B,BU⟩ | BU
     ·refine iy hly (O:=O) (Gp B _ ziw) hI BU (λt b J => ?_) Q λo' Dj a'' κ'' f0 f1 f2 f3 f4 BQ f5 Lr f6=>hQ o' Dj a'' κ'' f0 f1 f2 f3 f4 BQ (λs hs=>(ky f5 s hs).trans (kx hk1 s hs)) Lr f6
      simp only[Kn.get]at J
      simp only[Fr.get]
      grind
     ·refine iy hly (O:=O) ziw hI BU (λt b J => ?_) Q λo' Dj a'' κ'' f0 f1 f2 f3 f4 BQ f5 Lr f6=>hQ o' Dj a'' κ'' f0 f1 f2 f3 f4 BQ (λs hs=>(ky f5 s hs).trans (kx hk1 s hs)) Lr f6
      simp only[Kn.get]at J
      simp only[Fr.get]
      cases ht:R p.c t with
      | true=>rw[ht,cond_true]at J; rw[cond_true]; cases J; rfl
      | false=>rw[ht,cond_false]at J; cases J
  ·rename_i ws hcu
   cases hw:ws.all λw=>zM O.st.length w.sh.bs.length with
   | false=>rw[hw]at h; exact h.elim
   | true =>
    rw[hw,cond_true]at h
    obtain⟨rr,HL,X⟩:=T.zh.1 h
    refine wp_seq (ix hlx HL hI hR hk _ λo tB a' E e0 e1 e2 e3 e4 e4' e5 _ e6 => ?_)
    obtain⟨w,g1,z,g2,g3,g4⟩:=DI _ _ _ _ _ e0
    have hwl:=zP.1 hw w g1
    obtain⟨κ1,q1,q2,q3,q4,q5⟩:=z5m (n:=n) e3 e2 e4 e6 g3 (zE hwl) (by rw[e1]; exact g4)
    rw[g2]at X
    split at X
    ·exact X.elim
    rename_i zz hzz
    obtain⟨q5,z2p⟩:=q5 zz hzz
    have BU:=WO hR q4 q5 e5
    rw[<- q1]
    cases hex:zz.1<;>rw[hex]at X z2p<;>simp only at X
    ·cases z2p
     exact iy hly (O:=κ1) (by rw[q2]; exact X) q3 BU (nP _) Q λo' Dj a'' κ'' f0 f1 f2 f3 f4 BQ f5 _ f6=>hQ { o' with q:=false } Dj a'' κ'' f0 f1 f2 (q4.trans f3) f4 BQ (λs hs=>(ky f5 s hs).trans (kx e5 s hs)) (λhq=>by cases hq) f6
    ·cases z2p; exact hQ _ _ a' κ1 X q2 q3 q4 BU (nP _) (kx e5) (λhq=>by cases hq) rfl
    ·cases z2p; exact hQ _ _ a' κ1 X q2 q3 q4 BU (nP _) (kx e5) (λhq=>by cases hq) rfl
    ·obtain⟨v,rfl,hv⟩:=z2p
     exact hQ _ _ a' κ1 X q2 q3 q4 BU (nP _) (kx e5) (λhq=>by cases hq) ⟨v,rfl,hv⟩
 | cond x p q ip iq =>
  intro B fr kn O a α k r h hI hR hk Q hQ
  have hlp:gN P n H p:=λz hz=>B z (by simp only[uh,zN]; exact .inl hz)
  have Tt:gN P n H q:=λz hz=>B z (by simp only[uh,zN]; exact .inr hz)
  have kp:∀ {a a':Act},Kept p a a'->Kept (.cond x p q) a a':=λh s hs=>h s λe=>hs (by simp only[wG,zN]; exact .inl e)
  have kq:∀ {a a':Act},Kept q a a'->Kept (.cond x p q) a a':=λh s hs=>h s λe=>hs (by simp only[wG,zN]; exact .inr e)
  have hQp:=λ(o:Ly) (tB:Exit) (a':Act) (E:KS) f0 f1 f2 f3 f4 BQ (f5:Kept p a a') Lr f6=>hQ o tB a' E f0 f1 f2 f3 f4 BQ (kp f5) Lr f6
  have hQq:=λ(o:Ly) (tB:Exit) (a':Act) (E:KS) f0 f1 f2 f3 f4 BQ (f5:Kept q a a') Lr f6=>hQ o tB a' E f0 f1 f2 f3 f4 BQ (kq f5) Lr f6
  simp only[Uj]at h
  split at h
  ·rename_i U
   have hv:wA fr.get x=some (.qj .bool true):=mJ hk U
   exact wp_cond_true (hR.eval hv).cK (ip hlp h hI hR hk Q hQp)
  ·rename_i U
   have hv:wA fr.get x=some (.qj .bool false):=mJ hk U
   exact wp_cond_false (hR.eval hv).cK (iq Tt h hI hR hk Q hQq)
  ·split at h
   ·split at h
    ·rename_i v hv
     have he:=hv
     rw[show ∀ t,fr.get t=wA fr.get (.tmp t)from λ_=>rfl]at he
     rcases h with⟨rfl,h⟩ | ⟨rfl,h⟩
     ·exact wp_cond_true (hR.eval he).cK (ip hlp h hI hR (Wz hk hv) Q hQp)
     ·exact wp_cond_false (hR.eval he).cK (iq Tt h hI hR (Wz hk hv) Q hQq)
    ·exact h.elim
   ·exact h.elim
 | block id b ib =>
  intro B fr kn O a α k r h hI hR hk Q hQ
  by_cases J:∃ b',b=.loop b'
  ·obtain⟨b,rfl⟩:=J
   simp only[Uj]at h
   split at h
   ·exact h.elim
   ·rename_i l hll
    cases hc:zM (gh l.gh fr O.st).2.length l.sh.bs.length&&N8 l.ps (wG b)&&l.ws.all λw=>zM l.sh.bs.length w.sh.bs.length with
    | false=>rw[hc]at h; exact h.elim
    | true =>
     rw[hc,cond_true]at h
     simp only[I,zP]at hc
     obtain⟨⟨To,hc2⟩,hc3⟩:=hc
     obtain⟨p,h1,h⟩:=T.zh.1 h
     obtain⟨s,X,h⟩:=T.zh.1 h
     obtain⟨rr,h3,h4⟩:=T.zh.1 h
     obtain⟨κ1,w1,w2,w3,w4,w5⟩:=tD l.gh fr O hI hR
     rw[<- w2]at h1 X To
     obtain⟨κ2,q1,q2,q3,q4,q5,_⟩:=l.sh.Y8 (n:=n) (Ext.refl κ1) w3 w5 (zE To) X
     -- the loop's parameters
     have hps:Rel κ2 n (nR (l.sh.st s) l.ps p).get a:=by
      refine⟨w5.size,w5.defers,λt d V => ?_⟩
      obtain⟨k',y,d0,g0,g1,g2,g3⟩:=(Jy (p:=λ_=>true) (qm:=l.sh.st s) l.ps [] p (λ_ _=>rfl) h1).2 _ (get_mem V)
      cases g3
      obtain⟨v,e1,e2⟩:=w5.get _ _ g1
      have Gq:=zP.1 hc2 _ g0
      simp only[I]at Gq
      have hwk:Wk κ1 κ1:=⟨rfl,rfl,rfl,rfl,λb d h=>⟨d,h⟩,λb v e xs h=>.inl h,λb v e xs h=>h,λb h=>h⟩
      have ja:Iw [] k'=true:=by cases k'<;>first | rfl | cases Gq.1
      have:=Es hwk (bs:=[]) ja (λ_ _=>rfl) (qm:=κ1.st) (λ_ _=>rfl) (λ_ h=>by simp[rowAt]at h) g2 e2
      have he:X9 κ1.st k' y=X9 (l.sh.st s) k' y:=by cases k'<;>first | rfl | cases Gq.1
      rw[he]at this
      exact⟨v,e1,this.mono q4⟩
     have z7Y:Ext O κ2:=w4.trans q4
     have UQ:κ2.w=O.w:=q1.trans w1
     rw[<- UQ]
     refine wp_block (B (id,b) (by simp[uh]) l hll κ2 a p s rr h3 q2 q3 q5 hps hc2 (λw hw=>zE (hc3 w hw)) _ λw x tB a' E f1 f2 f3 f4 f5 f6 f7 => ?_)
     rw[f2]at h4
     split at h4
     ·exact h4.elim
     rename_i zz hzz
     obtain⟨f6,f8⟩:=f6 zz hzz
     have hR':Rel E n (zz.2++(p9 (wG b)++(gh l.gh fr O.st).1)).get a':=WO w5 (q4.trans f5) f6 f7
     have hkk:Kept (.block id (.loop b)) a a':=f7
     cases hwx:zz.1<;>rw[hwx]at h4 f8<;>simp only at h4
     ·exact h4.elim
     ·rename_i id'
      cases f8
      simp only[Exit.inBlock]
      cases Yi:R id' id with
      | true =>
       rw[Yi,cond_true]at h4
       have:=zA Yi
       subst this
       rw[if_pos rfl]
       exact hQ _ _ a' E h4 f3 f4 (z7Y.trans f5) hR' (nP _) hkk (λhq=>by cases hq) rfl
      | false =>
       rw[Yi,cond_false]at h4
       rw[if_neg (λe=>by subst e; simp at Yi)]
       exact hQ _ _ a' E h4 f3 f4 (z7Y.trans f5) hR' (nP _) hkk (λhq=>by cases hq) rfl
     ·cases f8
      exact hQ _ _ a' E h4 f3 f4 (z7Y.trans f5) hR' (nP _) hkk (λhq=>by cases hq) rfl
     ·obtain⟨v,rfl,hv⟩:=f8
      exact hQ _ _ a' E h4 f3 f4 (z7Y.trans f5) hR' (nP _) hkk (λhq=>by cases hq) ⟨v,rfl,hv⟩
  ·have Yi:∀ b',b≠.loop b':=λb' e=>J ⟨b',e⟩
   rw[Tc Yi]at h
   refine wp_block (ib (λz hz=>B z (by rw[I6 Yi]; exact hz)) h hI hR hk _ λo tB a' E f0 f1 f2 f3 f4 BQ f5 Lr f6 => ?_)
   have hkk:Kept (.block id b) a a':=f5
   cases HM:o.ex<;>rw[HM]at f0 f6<;>simp only at f0
   ·cases f6; exact hQ o _ a' E f0 f1 f2 f3 f4 BQ hkk Lr (by rw[HM]; rfl)
   ·rename_i id'
    cases f6
    simp only[Exit.inBlock]
    cases hbq:R id' id with
    | true =>
     rw[hbq,cond_true]at f0
     have:=zA hbq
     subst this
     rw[if_pos rfl]
     exact hQ _ _ a' E f0 f1 f2 f3 f4 BQ hkk Lr rfl
    | false =>
     rw[hbq,cond_false]at f0
     rw[if_neg (λe=>by subst e; simp at hbq)]
     exact hQ o _ a' E f0 f1 f2 f3 f4 BQ hkk Lr (by rw[HM]; rfl)
   ·cases f6; exact hQ o _ a' E f0 f1 f2 f3 f4 BQ hkk Lr (by rw[HM]; rfl)
   ·obtain⟨v,rfl,hv⟩:=f6
    exact hQ o _ a' E f0 f1 f2 f3 f4 BQ hkk Lr (by rw[HM]; exact⟨v,rfl,hv⟩)
 | _=>intro _ fr kn O a α k r h; simp only[Uj]at h; exact h.elim
end
end Go.AM
namespace Go.AM
variable [gy]
open Go.RowKit
section
variable [BB]
variable {P:Program} {xid:Nat} {tab:mj} {ro:Nat->Bool} {n:Nat} {H:Hints}
theorem S1{b:Code}{st qm:St}:∀ (gv:List It) (z:jZ gv),N8 gv (wG b)=true->nR st gv z=nR qm gv z/\∀ q∈nR st gv z,q.1 ∉ wG b:=by
 intro gv
 induction gv with
 | nil=>intro z _; exact⟨rfl,λq hq=>by cases hq⟩
 | cons i r ih =>
  intro z h
  have hi:∀ y:i.den,B1 st i y=B1 qm i y/\∀ q∈B1 st i y,q.1 ∉ wG b:=by
   intro y
   simp only[N8,zF,I]at h
   cases i with
   | s t k =>
    obtain⟨h1,_⟩:=h
    simp at h1
    refine⟨by cases k<;>first | rfl | (simp[YJ]at h1),λq hq => ?_⟩
    simp only[B1,zL]at hq
    subst hq
    intro hm
    have:=h1.2
    simp only[zc2,qF,List.any_eq_false]at this
    exact this t hm (qw)
   | _=>grind
  cases r with
  | nil =>
   have e1:=GQ st i z
   have e2:=GQ qm i z
   grind
  | cons j r =>
   have e1:=Kd st i j r z
   have e2:=Kd qm i j r z
   have hr:N8 (j::r) (wG b)=true:=by
    unfold N8 at h ⊢
    grind
   grind
theorem za4(hm:(bf P xid tab ro).P.follows .mixedOrders=true)(hT:eU P tab){l:zy}{b:Code}(hL:gN P n H b)(zD:jZ l.ps->l.sh.den->T (l.sh.den⊕iF l.ws))
  (round:∀ p s,z4R (bf P xid tab ro) tab n H l b p s=zD p s) (hF:∀ p s,l.F p s=T.loop (zD p) s):Ul P n l b:=by
 intro O a p s r hr ud hI hR hRp hps hws Q hQ
 rw[hF,T.fI]at hr
 obtain⟨m,hm'⟩:=hr
 have zqg:=λ(st qm:St)=>(S1 (b:=b) (st:=st) (qm:=qm) l.ps p hps).1
 have zdQ:∀ (st:St) (t:Nat) (d:D),(nR st l.ps p).get t=some d->t ∉ wG b:=λst t d V=>(S1 (b:=b) (st:=st) (qm:=st) l.ps p hps).2 _ (get_mem V)
 refine wp_loop_ghost (λm a' w'=>∃ s',T.Iter (zD p) m s' r/\∃ E:KS,E.w=w'/\E.st=l.sh.st s'/\Inv E/\Ext O E/\Rel E n (l.sh.fr s').get a'/\Rel E n (nR (l.sh.st s) l.ps p).get a'/\Kept b a a') m
  ⟨s,hm',O,rfl,ud,hI,Ext.refl O,hR,hRp,λ_ _=>rfl⟩ ?_
 rintro m a1 w1 ⟨s1,hit,κ1,rfl,g4,g5,g6,g7a,g7b,g8⟩
 have g7:Rel κ1 n (l.sh.fr s1++nR (l.sh.st s1) l.ps p).get a1:=⟨g7a.size,g7a.defers,λt d V=>by
  rcases KB V with V | V
  ·exact g7a.get t d V
  ·rw[zqg _ (l.sh.st s)]at V; exact g7b.get t d V⟩
 cases hit with
 | done h1 =>
  rw[<- round]at h1
  refine XA hm hT b hL (O:=κ1) (by rw[g4]; exact h1) g5 g7 (nP _) _ λo tB a' E e0 e1 e2 e3 e4 e4' e5 _ e6 => ?_
  have fin:∀ exo,EP E exo tB->(DH l.ws exo (B0 exo o.fr) o.st).leads r->Q tB a' E.w:=λexo e6 e0=>by
   obtain⟨w,k1,x,k2,k3,k4⟩:=DI _ _ _ _ _ e0
   have hlen:κ1.st.length<=w.sh.bs.length:=by rw[g4]; exact zV (ug.Wa _ _) (hws w k1)
   obtain⟨κ2,q1,q2,q3,q4,q5⟩:=z5m (n:=n) e3 e2 e4 e6 k3 hlen (by rw[e1]; exact k4)
   have:=hQ w x tB a' κ2 k1 k2 q2 q3 (g6.trans q4) q5 (λt ht=>(e5 t ht).trans (g8 t ht))
   grind
  have RB:∀ {z:l.sh.den⊕iF l.ws},((DH l.ws o.ex (B0 o.ex o.fr) o.st).bind λr=>T.ret (qM r:l.sh.den⊕iF l.ws)).leads z->z=qM r->(DH l.ws o.ex (B0 o.ex o.fr) o.st).leads r:=by
   intro z h hz
   obtain⟨y,h1,X⟩:=T.zh.1 h
   have X:(qM y:l.sh.den⊕iF l.ws)=z:=X
   grind
  cases HM:o.ex<;>rw[HM]at e0 e6 RB<;>simp only at e0
  ·obtain⟨y,_,X⟩:=T.zh.1 e0
   have X:(qR y:l.sh.den⊕iF l.ws)=qM r:=X
   cases X
  ·have q:=fin _ e6 (RB e0 rfl); cases e6; exact q
  ·have q:=fin _ e6 (RB e0 rfl); cases e6; exact q
  ·have q:=fin _ e6 (RB e0 rfl); obtain⟨v,rfl,hv⟩:=e6; exact q
 | step h1 hit =>
  rename_i m s2
  rw[<- round]at h1
  refine XA hm hT b hL (O:=κ1) (by rw[g4]; exact h1) g5 g7 (nP _) _ λo tB a' E e0 e1 e2 e3 e4 e4' e5 _ e6 => ?_
  have RC:((DH l.ws o.ex (B0 o.ex o.fr) o.st).bind λr=>T.ret (qM r:l.sh.den⊕iF l.ws)).leads (qR s2)->False:=by
   intro h
   obtain⟨y,h1,X⟩:=T.zh.1 h
   have X:(qM y:l.sh.den⊕iF l.ws)=qR s2:=X
   cases X
  cases HM:o.ex<;>rw[HM]at e0 e6 RC<;>simp only at e0
  ·cases e6
   obtain⟨y,h1,X⟩:=T.zh.1 e0
   have X:(qR y:l.sh.den⊕iF l.ws)=qR s2:=X
   cases X
   have hlen:κ1.st.length<=l.sh.bs.length:=by rw[g4]; exact ug.Wa _ _
   obtain⟨κ2,q1,q2,q3,q4,q5,_⟩:=l.sh.Y8 (n:=n) e3 e2 e4 hlen (by rw[e1]; exact h1)
   refine⟨m,Nat.lt_succ_self _,s2,hit,κ2,q1,q2,q3,g6.trans q4,q5,⟨q5.size,q5.defers,λt d V => ?_⟩,λt ht=>(e5 t ht).trans (g8 t ht)⟩
   obtain⟨v,r1,r2⟩:=g7b.get t d V
   exact⟨v,(e5 t (zdQ _ t d V)).trans r1,r2.mono q4⟩
  ·exact(RC e0).elim
  ·exact(RC e0).elim
  ·exact(RC e0).elim
end
section
variable {P:Program} {xid:Nat} {tab:mj} {ro:Nat->Bool} {n:Nat} {H:Hints}
theorem KJ{O:KS}(hI:Inv O):∀ (rs:List Ty) (ds:List D) (x:ED rs) (vs:List Value),(z5k O.st rs ds).leads x->wP O ds vs->wP O.all (J1 rs x) vs/\∀ d∈J1 rs x,Kx d=true
 | [],[],x,vs,h,V=>by rw[V.wg]; exact⟨.nil,λd V=>by cases V⟩
 | [],_::_,x,vs,h,V=>h.elim
 | [τ],[],x,vs,h,V=>h.elim
 | [τ],[d],x,vs,h,V=>by
  obtain⟨v,us,rfl,h1,X⟩:=V.cons_inv
  rw[X.wg]
  refine⟨.cons (Uw hI h1 h) .nil,λd V => ?_⟩
  have V:d∈[D.qj τ x]:=V
  rw[zL]at V
  subst V; rfl
 | [τ],_::_::_,x,vs,h,V=>h.elim
 | τ::σ::r,[],x,vs,h,V=>h.elim
 | τ::σ::r,d::ds,x,vs,h,V=>by
  obtain⟨y,h1,X⟩:=T.zh.1 h
  obtain⟨z,h3,h4⟩:=T.zh.1 X
  cases h4
  obtain⟨v,us,rfl,k1,k2⟩:=V.cons_inv
  obtain⟨g1,g2⟩:=KJ hI (σ::r) ds z us h3 k2
  refine⟨.cons (Uw hI k1 h1) g1,λd V => ?_⟩
  rcases zH.1 V with rfl | V
  ·rfl
  ·grind
theorem zgE(hm:(bf P xid tab ro).P.follows .mixedOrders=true)(hT:eU P tab){f:Nat}{fn:Func}{code:Code}(hf:P.funcs[f]? = some fn)(J:fn.body=some code)
  (hn:(fn.name == "runtime.NumGoroutine")=false) (hL:gN P fn.ntmps H code) {d:ER} (h:∀ x,z1C (bf P xid tab ro) tab H fn code d x=d.F x):zw P f d:=by
 intro O x xa y ud hy hI ha
 rw[<- h]at hy
 unfold z1C at hy
 cases hle:zM (Ke d.ps x).length fn.ntmps with
 | false=>rw[hle]at hy; exact hy.elim
 | true =>
  rw[hle,cond_true]at hy
  have B6:=zE hle
  refine .inl ⟨uW hf hn (wa) O.w,calls_of_wp hf J ?_⟩
  have hR:=Yr ha B6
  refine XA hm hT code hL (O:=O) (by rw[ud]; exact hy) hI hR (nP _) _ λo tB a' κe e0 e1 e2 e3 e4 _ _ _ e6 => ?_
  have fin:(tB=.normal\/tB=.ret)->((nX (bf P xid tab ro) o.fr o.st fn.results.toList).bind λds=>z5k o.st d.rs ds).leads y ->
    bodyPost P fn (λe w'=>∃ E:KS,E.w=w'/\E.st=[]/\Inv E/\Ext O E/\jr E (.ret (J1 d.rs y)) e) tB a' κe.w:=by
   intro hex X
   obtain⟨ds,g1,g2⟩:=T.zh.1 X
   rw[<- e1]at g1 g2
   obtain⟨vs,k1,k2⟩:=Jq e2 e4 g1
   obtain⟨q1,q2⟩:=z0h hI ud e2 e3
   obtain⟨B,hdat⟩:=KJ e2 d.rs ds y vs g2 k2
   have MB:wP (κe.bare (okS κe)) (J1 d.rs y) vs:=⟨B.1,λi h1 X=>ZT (hdat _ (List.getElem_mem h1)) (B.2 i h1 X)⟩
   have KG:a'.defers=[]/\∃ v,(results fn a'.tmps).run P κe.w=.ok v κe.w/\∃ E:KS,E.w=κe.w/\E.st=[]/\Inv E/\Ext O E/\jr E (.ret (J1 d.rs y)) (.returned v) :=
    ⟨e4.defers,_,k1,κe.bare (okS κe),rfl,rfl,q1,q2,_,rfl,H6 MB⟩
   rcases hex with rfl | rfl
   ·exact KG
   ·exact KG
  cases HM:o.ex<;>rw[HM]at e0 e6<;>simp only at e0
  ·exact fin (.inl e6) e0
  ·exact e0.elim
  ·exact fin (.inr e6) e0
  ·exact e0.elim
theorem Gl{d:ER}{f:Nat}(b:(eJ d.ps->T (ED d.rs))->eJ d.ps->T (ED d.rs))(hF:∀ x,d.F x=T.fix b x)(h:∀ F:eJ d.ps->T (ED d.rs),zw P f ⟨d.ps,d.rs,F⟩->zw P f ⟨d.ps,d.rs,b F⟩):zw P f d:=by
 have hN:∀ m,zw P f ⟨d.ps,d.rs,T.V5 b m⟩:=by
  intro m
  induction m with
  | zero=>nofun
  | succ m ih=>exact h _ ih
 intro O x xa y ud hy hI ha
 rw[hF,T.mI]at hy
 obtain⟨m,hm⟩:=hy
 exact hN m O x xa y ud (hm m (zJ _)) hI ha
theorem Cq{fr:Fr}:∀ {n i:Nat} {ds:List D},Cp fr n i=some ds->ds.length=n/\∀ j d,ds[j]? = some d->fr.get (i+j)=some d
 | 0,i,ds,h=>by cases h; exact⟨rfl,λj d hj=>wa⟩
 | n+1,i,ds,h=>by
  simp only[Cp]at h
  split at h
  ·rename_i d V
   split at h
   ·rename_i r hr
    obtain⟨h1,X⟩:=Cq hr
    grind
   ·cases h
  ·cases h
theorem Fc{O κe:KS}{ds:List D}{vs:List Value}(hO:Inv O)(hI:Inv κe)(U:Ext O κe)(h:wP κe ds vs) :
  ∃ κ1:KS,κ1.w=κe.w/\κ1.st=(canon O.st.length ds κe.st).2/\Inv κ1/\Ext O κ1/\wP κ1 (canon O.st.length ds κe.st).1 vs:=by
 have zdZ:∃ κ1:KS,κ1.w=κe.w/\κ1.st=κe.st/\Inv κ1/\Ext O κ1/\wP κ1 ds vs:=⟨κe,rfl,rfl,hI,U,h⟩
 unfold canon
 generalize Yj:za8 O.st.length [] (z0j κe.st ds)=nb
 simp only
 split
 ·rename_i l B
  split
  ·rename_i eb ds1 hr V
   cases hn:dc (zX O.st.length++nb)with
   | false=>exact zdZ
   | true =>
    obtain⟨p1,hp⟩:=Qs hI.len.symm B
    obtain⟨g1,g2,g3,g4,g5⟩:=Eg hI hn hp B hr
    have z81:∀ b,b<O.st.length->(zX O.st.length++nb)[b]? = some b:=λb J=>by
     rw[zK (by simpa using J)]; simp[J]
    have Mq:∀ b x,O.st[b]? = some x->b<O.st.length:=λb x h=>(Y.1 h).1
    refine⟨⟨κe.w,κe.ok,p1,eb⟩,rfl,rfl,g1,⟨U.os,U.tape,U.output,U.size,U.same,U.fresh,λj blk n h => ?_,λb d h => ?_,λb v0 e xs h => ?_,λb h => ?_,?_,U.frame⟩,g2.rds h V⟩
    ·have hj:j<(zX O.st.length++nb).length:=by have:=(Y.1 h).1; simp only at this; omega
     have J:=zG hj
     generalize (zX O.st.length++nb)[j]=b at J
     have h':=(g5 j b J).1.symm.trans h
     rcases U.phs b blk n h' with h1 | h1
     ·have wO:b<O.st.length:=Nat.lt_of_not_le λhle=>by
       have:=(Y.1 h1).1
       have:=hO.len
       omega
      have:=Option.some.inj ((pG hn J).symm.trans (pG hn (z81 b wO)))
      subst this
      exact .inl h1
     ·exact .inr h1
    ·obtain⟨⟨d',h1⟩,X⟩:=U.var b d h
     obtain⟨k1,x,y,k2,k3,k4⟩:=g5 b b (z81 b (Mq b _ h))
     rw[h1]at k2; cases k2
     simp only[U5]at k3
     split at k3
     ·cases k3; exact⟨⟨_,k4⟩,k1.trans X⟩
     ·cases k3
    ·obtain⟨k1,x,y,k2,k3,k4⟩:=g5 b b (z81 b (Mq b _ h))
     rcases U.arr b v0 e xs h with h1 | ⟨v1,x1,h1,X,h3⟩
     ·rw[h1]at k2; cases k2; cases k3; exact .inl k4
     ·rw[h1]at k2; cases k2; cases k3; exact .inr ⟨v1,x1,k4,X,λhe=>⟨k1.trans (h3 he).1,(h3 he).2⟩⟩
    ·obtain⟨k1,x,y,k2,k3,k4⟩:=g5 b b (z81 b (Mq b _ h))
     rw[U.dead b h]at k2; cases k2; cases k3; exact k4
    ·show O.st.length<=eb.length
     rw[g3]; simp
  ·exact zdZ
 ·exact zdZ
theorem zeZ{O:KS}(hI:Inv O)(e:Ty):RD (O.yZ e) (.ms O.st.length 0 e 0 0) (.slice none 0 0):=by
 have Ba:(O.yZ e).st[O.st.length]? = some (.arr 0 e []):=by simp[KS.yZ]
 refine .ms O.st.length 0 e 0 0 0 none (.inr ⟨0,e,[],Ba,zJ _⟩) (zJ _) (λ_=>rfl) nofun λxs Gr => ?_
 rw[Ba]at Gr
 cases Gr
 exact⟨zJ _,.inl ⟨rfl,rfl,rfl,by simp[KS.yZ,<- hI.len]⟩⟩
theorem Jn{O:KS}{d:D}{l:List D}{v:Value}{vs:List Value}(h:RD O d v)(hr:wP O l vs):wP O (d::l) (v::vs) :=
 ⟨by simp[hr.1],λi h1 X=>by cases i with | zero=>exact h | succ i=>exact hr.2 i (by simpa using h1) (by simpa using X)⟩
theorem Mh:∀ (ks:List Sk) (l:List D) (O:KS) (vs:List Value),Inv O->wP O l vs->∃ κ1:KS,κ1.w=O.w/\κ1.st=(kz ks l O.st).2/\Inv κ1/\Ext O κ1/\wP κ1 (kz ks l O.st).1 vs:=by
 intro ks
 induction ks with
 | nil=>intro l O vs hI h; exact⟨O,rfl,by unfold kz; rfl,hI,Ext.refl O,by unfold kz; exact h⟩
 | cons k ks ih =>
  intro l O vs hI h
  cases l with
  | nil=>exact⟨O,rfl,by cases k<;>rfl,hI,Ext.refl O,by cases k<;>exact h⟩
  | cons d l =>
   obtain⟨v,r,rfl,h0,h1⟩:=h.cons_inv
   have go:∃ κ1:KS,κ1.w=O.w/\κ1.st=(kz ks l O.st).2/\Inv κ1/\Ext O κ1/\wP κ1 (d::(kz ks l O.st).1) (v::r):=by
    obtain⟨κ1,q1,q2,q3,q4,q5⟩:=ih l O r hI h1
    exact⟨κ1,q1,q2,q3,q4,Jn (h0.mono q4) q5⟩
   cases k with
   | row b e =>
    cases d with
    | wF =>
     unfold kz
     cases he:zO 0 e.size with
     | false=>exact go
     | true =>
      cases h0
      obtain⟨κ1,q1,q2,q3,q4,q5⟩:=ih l (O.yZ e) r (VW hI (zE he)) (h1.mono (sA hI e))
      exact⟨κ1,q1,q2,q3,(sA hI e).trans q4,Jn ((zeZ hI e).mono q4) q5⟩
    | _=>exact go
   | _=>exact go
theorem FD:∀ (ks:List Sk) (l:List D) (st:St),(∀ d∈l,d.one=true)->∀ d∈(kz ks l st).1,d.one=true:=by
 intro ks
 induction ks with
 | nil=>intro l st h; unfold kz; exact h
 | cons k ks ih =>
  intro l st h
  cases l with
  | nil=>cases k<;>exact h
  | cons d l =>
   have go:∀ qm,∀ x∈d::(kz ks l qm).1,x.one=true:=λqm x U=>by
    rcases zH.1 U with rfl | U
    ·exact h _ zQ
    ·exact ih l qm (λy hy=>h y (zI _ hy)) x U
   cases k with
   | row b e =>
    cases d with
    | wF =>
     unfold kz
     cases zO 0 e.size with
     | false=>exact go st
     | true =>
      intro x U
      rcases zH.1 (show x∈D.ms st.length 0 e 0 0::(kz ks l (st++[.arr 0 e []])).1 from U)with rfl | U
      ·rfl
      ·exact ih l _ (λy hy=>h y (zI _ hy)) x U
    | _=>exact go st
   | _=>exact go st
theorem Ti(gv:List It):∀ (ds:List D) (i:Nat) (O:KS) (vs:List Value),Inv O->wP O ds vs->∃ κ1:KS,κ1.w=O.w/\κ1.st=(Z2 gv i ds O.st).2/\Inv κ1/\Ext O κ1/\wP κ1 (Z2 gv i ds O.st).1 vs:=by
 intro ds
 induction ds with
 | nil=>intro i O vs hI h; exact⟨O,rfl,rfl,hI,Ext.refl O,h⟩
 | cons d ds ih =>
  intro i O vs hI h
  obtain⟨v,r,rfl,h0,h1⟩:=h.cons_inv
  have go:∃ κ1:KS,κ1.w=O.w/\κ1.st=(Z2 gv (i+1) ds O.st).2/\Inv κ1/\Ext O κ1/\wP κ1 (d::(Z2 gv (i+1) ds O.st).1) (v::r):=by
   obtain⟨κ1,q1,q2,q3,q4,q5⟩:=ih (i+1) O r hI h1
   exact⟨κ1,q1,q2,q3,q4,Jn (h0.mono q4) q5⟩
  cases d with
  | agg l =>
   cases h0 with
   | agg _ vs0 B ho hr =>
    obtain⟨κ1,q1,q2,q3,q4,q5⟩:=Mh (z0o gv i) l O vs0 hI ⟨B,hr⟩
    obtain⟨κ2,p1,p2,p3,p4,p5⟩:=ih (i+1) κ1 r q3 (h1.mono q4)
    rw[q2]at p2 p5
    exact⟨κ2,p1.trans q1,p2,p3,q4.trans p4,Jn ((RD.agg _ vs0 q5.1 (FD _ _ _ ho) q5.2).mono p4) p5⟩
  | _=>exact go
theorem zaH{O κe:KS}{ds:List D}{vs:List Value}(out:ug)(hO:Inv O)(hI:Inv κe)(U:Ext O κe)(h:wP κe ds vs) :
  ∃ κ1:KS,κ1.w=κe.w/\κ1.st=(Ea out O.st.length ds κe.st).2/\Inv κ1/\Ext O κ1/\wP κ1 (Ea out O.st.length ds κe.st).1 vs:=by
 unfold Ea
 cases(out.gv.all λ| .s _ (.st _)=>false | _=>true)&&(out.cs.all λ| (_,.ptr _ _)=>false | (_,.cur _ _)=>false | _=>true)with
 | true=>exact⟨κe,rfl,rfl,hI,U,h⟩
 | false =>
  obtain⟨κ1,q1,q2,q3,q4,q5⟩:=Fc hO hI U h
  obtain⟨κ2,p1,p2,p3,p4,p5⟩:=Ti out.gv _ 0 κ1 vs q3 q5
  rw[q2]at p2 p5
  obtain⟨κ3,r1,r2,r3,r4,r5⟩:=Fc hO p3 (q4.trans p4) p5
  rw[p2]at r2 r5
  exact⟨κ3,r1.trans (p1.trans q1),r2,r3,r4,r5⟩
theorem H5{O κe:KS}{a':Act}{fn:Func}{o:Ly}{nr:Nat}{out:ug}{y:out.den}(hO:Inv O)(e1:κe.st=o.st)(e2:Inv κe)(e3:Ext O κe)(e4:Rel κe fn.ntmps o.fr.get a')(hlen:O.st.length<=out.bs.length)
  (h:((nX (bf P xid tab ro) o.fr o.st fn.results.toList).bind λds=>Vp out O.st.length nr ds o.st).leads y) :
  ∃ v,(results fn a'.tmps).run P κe.w=.ok v κe.w/\∃ (E:KS) (ds:List D),E.w=κe.w/\E.st=out.st y/\Inv E/\Ext O E/\pM nr (out.fr y)=some ds/\jr E (.ret ds) (.returned v):=by
 obtain⟨ds,g1,g2⟩:=T.zh.1 h
 unfold Vp at g2
 cases hnr:R ds.length nr with
 | false=>rw[hnr]at g2; exact g2.elim
 | true =>
  rw[hnr,cond_true]at g2
  obtain⟨y',g5,g3⟩:=T.zh.1 g2
  cases hsome:pM nr (out.fr y')with
  | none=>rw[hsome]at g3; exact g3.elim
  | some Dh =>
   rw[hsome]at g3
   have hyy:y'=y:=g3
   subst hyy
   rw[<- e1]at g1 g5
   obtain⟨vs,k1,k2⟩:=Jq e2 e4 g1
   obtain⟨κr,z1,z2,z3,z4,z5⟩:=zaH out hO e2 e3 k2
   have hRr:Rel κr vs.length (yD (Ea out O.st.length ds κe.st).1 0).get { tmps:=vs.toArray,defers:=[] }:=by
    have:=Yr (n:=vs.length) z5 (by rw[z5.1]; exact zJ _)
    simpa[show(BB.df:List Deferred)=[]from rfl]using this
   obtain⟨κ0,w1,w2,w3,w4,w5⟩:=tD (z4x out.cs) (yD (Ea out O.st.length ds κe.st).1 0) κr z3 hRr
   rw[z2]at w2 w5
   rw[<- w2]at g5
   obtain⟨κ2,q1,q2,q3,q4,q5,_⟩:=out.Y8 (κ0:=O) (z4.trans w4) w3 w5 hlen g5
   obtain⟨l1,l2⟩:=Cq hsome
   have hds:wP κ2 Dh vs:=by
    refine⟨by rw[l1,<- k2.1]; exact(zA hnr).symm,λi h1 X => ?_⟩
    have:=l2 i Dh[i] (zG h1)
    rw[qD]at this
    obtain⟨v,r1,r2⟩:=q5.get i _ this
    grind
   exact⟨_,k1,κ2,Dh,q1.trans (w1.trans z1),q2,q3,q4,hsome,_,rfl,H6 hds⟩
theorem zdb(hm:(bf P xid tab ro).P.follows .mixedOrders=true)(hT:eU P tab){f:Nat}{fn:Func}{code:Code}(hf:P.funcs[f]? = some fn)(J:fn.body=some code)
  (hn:(fn.name == "runtime.NumGoroutine")=false) (hL:gN P fn.ntmps H code) {d:bA} (h:∀ x,Mf (bf P xid tab ro) tab H fn code d x=d.F x):xw P f d:=by
 intro O x xa y ud hy hI hlen hR0
 rw[<- h]at hy
 unfold Mf at hy
 cases hle:zM d.ks.length fn.ntmps&&zM d.sh.bs.length d.out.bs.length with
 | false=>rw[hle]at hy; exact hy.elim
 | true =>
  rw[hle,cond_true]at hy
  simp only[I]at hle
  have zil:=zE hle.1
  have z2v:=zE hle.2
  refine .inl ⟨uW hf hn (by rw[J]; rfl) O.w,calls_of_wp hf J ?_⟩
  rw[<- ud]at hy
  have hR:Rel O fn.ntmps (d.sh.fr x).get { tmps:=xa.toArray++Array.replicate (fn.ntmps-xa.toArray.size) undef,defers:=[] }:=by
   refine⟨by simp; omega,rfl,λs e hs => ?_⟩
   obtain⟨v,h1,X⟩:=hR0.get s e hs
   grind
  refine XA hm hT code hL (O:=O) hy hI hR (nP _) _ λo tB a' κe e0 e1 e2 e3 e4 _ _ _ e6 => ?_
  have fin:(tB=.normal\/tB=.ret)->((nX (bf P xid tab ro) o.fr o.st fn.results.toList).bind λds=>Vp d.out O.st.length d.nr ds o.st).leads y ->
    bodyPost P fn (λe w'=>∃ (E:KS) (ds:List D),E.w=w'/\E.st=d.out.st y/\Inv E/\Ext O E/\pM d.nr (d.out.fr y)=some ds/\jr E (.ret ds) e) tB a' κe.w:=by
   intro hex X
   obtain⟨v,k1,k2⟩:=H5 hI e1 e2 e3 e4 (by rw[ud]; exact zV (ug.Wa _ _) z2v) X
   rcases hex with rfl | rfl
   ·exact⟨e4.defers,v,k1,k2⟩
   ·exact⟨e4.defers,v,k1,k2⟩
  cases HM:o.ex<;>rw[HM]at e0 e6<;>simp only at e0
  ·exact fin (.inl e6) e0
  ·exact e0.elim
  ·exact fin (.inr e6) e0
  ·exact e0.elim
theorem Yx{d:bA}{f:Nat}(b:(d.sh.den->T d.out.den)->d.sh.den->T d.out.den)(hF:∀ x,d.F x=T.fix b x)(h:∀ F:d.sh.den->T d.out.den,xw P f ⟨d.ks,d.sh,d.dU,d.out,d.nr,F⟩->xw P f ⟨d.ks,d.sh,d.dU,d.out,d.nr,b F⟩):xw P f d:=by
 have hN:∀ m,xw P f ⟨d.ks,d.sh,d.dU,d.out,d.nr,T.V5 b m⟩:=by
  intro m
  induction m with
  | zero=>nofun
  | succ m ih=>exact h _ ih
 intro O x xa y ud hy hI B ha
 rw[hF,T.mI]at hy
 obtain⟨m,hm⟩:=hy
 exact hN m O x xa y ud (hm m (zJ _)) hI B ha
theorem zf8{O κe:KS}{bC:ug}{z:bC.den}{st:St}{t:Nat}{d:D}{u:Value}(e1:κe.st=st)(e2:Inv κe)(e3:Ext O κe)(hlen:O.st.length<=bC.bs.length)(hu:RD κe d u)
  (h:((bC.un [(0,some d)] st).bind λz=>match(bC.fr z).get 0 with | some _=>T.ret z | none=>.fail).leads z) :
  ∃ (E:KS) (p:D),E.w=κe.w/\E.st=bC.st z/\Inv E/\Ext O E/\(bC.fr z).get 0=some p/\jr E (.bC (.iface t p)) (.panicked [{ v:=.iface t u,recovered:=false }]):=by
 obtain⟨z',g1,g2⟩:=T.zh.1 h
 split at g2
 ·rename_i p hp
  have hzz:z'=z:=g2
  subst hzz
  have BU:Rel κe 1 (Fr.get [(0,some d)]) { tmps := #[u],defers:=[] }:=by
   refine⟨rfl,rfl,λs d' V => ?_⟩
   simp only[Fr.get]at V
   cases J:R 0 s with
   | true =>
    have:=zA J
    grind
   | false=>grind
  rw[<- e1]at g1
  obtain⟨κ2,q1,q2,q3,q4,q5,_⟩:=bC.Y8 (κ0:=O) e3 e2 BU hlen g1
  obtain⟨v',r1,r2⟩:=q5.get 0 p hp
  cases r1
  exact⟨κ2,p,q1,q2,q3,q4,hp,_,rfl,.iface t p _ r2⟩
 ·exact g2.elim
theorem zda(hm:(bf P xid tab ro).P.follows .mixedOrders=true)(hT:eU P tab){f:Nat}{fn:Func}{code:Code}(hf:P.funcs[f]? = some fn)(J:fn.body=some code)
  (hn:(fn.name == "runtime.NumGoroutine")=false) (hL:gN P fn.ntmps H code) {d:mh} (h:∀ x,Me (bf P xid tab ro) tab H fn code d x=d.F x):jx P f d:=by
 intro O x xa y ud hy hI hlen hR0
 rw[<- h]at hy
 unfold Me at hy
 cases hle:zM d.ks.length fn.ntmps&&zM d.sh.bs.length d.out.bs.length&&zM d.sh.bs.length d.bC.bs.length with
 | false=>rw[hle]at hy; exact hy.elim
 | true =>
  rw[hle,cond_true]at hy
  simp only[I]at hle
  have zil:=zE hle.1.1
  have z2v:=zE hle.1.2
  have zim:=zE hle.2
  refine .inl ⟨uW hf hn (by rw[J]; rfl) O.w,calls_of_wp hf J ?_⟩
  rw[<- ud]at hy
  have hR:Rel O fn.ntmps (d.sh.fr x).get { tmps:=xa.toArray++Array.replicate (fn.ntmps-xa.toArray.size) undef,defers:=[] }:=by
   refine⟨by simp; omega,rfl,λs e hs => ?_⟩
   obtain⟨v,h1,X⟩:=hR0.get s e hs
   grind
  refine XA hm hT code hL (O:=O) hy hI hR (nP _) _ λo tB a' κe e0 e1 e2 e3 e4 _ _ _ e6 => ?_
  have fin:(tB=.normal\/tB=.ret)->((nX (bf P xid tab ro) o.fr o.st fn.results.toList).bind λds=>zaw d O.st.length ds o.st).leads y ->
    bodyPost P fn (λe w'=>∃ E:KS,E.w=w'/\Inv E/\Ext O E/\((∃ (y':d.out.den) (ds:List D),y=.inl y'/\E.st=d.out.st y'/\pM d.nr (d.out.fr y')=some ds/\jr E (.ret ds) e) \/
     (d.two=none/\∃ (z:d.bC.den) (p:D),y=.inr z/\E.st=d.bC.st z/\(d.bC.fr z).get 0=some p/\jr E (.bC (.iface d.pt p)) e) \/
     ∃ (n:Nat) (z:d.bC.den) (ds:List D),d.two=some n/\y=.inr z/\E.st=d.bC.st z/\pM n (d.bC.fr z)=some ds/\jr E (.ret ds) e)) tB a' κe.w:=by
   intro hex X
   obtain⟨ds,g1,g2⟩:=T.zh.1 X
   have one:((Vp d.out O.st.length d.nr ds o.st).bind λy=>T.ret (qR y:d.out.den⊕d.bC.den)).leads y ->
     ∃ v,(results fn a'.tmps).run P κe.w=.ok v κe.w/\∃ E:KS,E.w=κe.w/\Inv E/\Ext O E/\∃ (y':d.out.den) (ds:List D),y=.inl y'/\E.st=d.out.st y'/\pM d.nr (d.out.fr y')=some ds/\jr E (.ret ds) (.returned v):=λg=>by
    obtain⟨y',hy2,rfl⟩:=T.zh.1 g
    obtain⟨v,k1,E,ds,q1,q2,q3,q4,q5,q6⟩:=H5 hI e1 e2 e3 e4 (by rw[ud]; exact zV (ug.Wa _ _) z2v) (T.zh.2 ⟨ds,g1,hy2⟩)
    exact⟨v,k1,E,q1,q3,q4,y',ds,rfl,q2,q5,q6⟩
   have KG:a'.defers=[]/\∃ v,(results fn a'.tmps).run P κe.w=.ok v κe.w/\∃ E:KS,E.w=κe.w/\Inv E/\Ext O E/\((∃ (y':d.out.den) (ds:List D),y=.inl y'/\E.st=d.out.st y'/\pM d.nr (d.out.fr y')=some ds/\jr E (.ret ds) (.returned v)) \/
     (d.two=none/\∃ (z:d.bC.den) (p:D),y=.inr z/\E.st=d.bC.st z/\(d.bC.fr z).get 0=some p/\jr E (.bC (.iface d.pt p)) (.returned v)) \/
     ∃ (n:Nat) (z:d.bC.den) (ds:List D),d.two=some n/\y=.inr z/\E.st=d.bC.st z/\pM n (d.bC.fr z)=some ds/\jr E (.ret ds) (.returned v)):=by
    unfold zaw at g2
    split at g2
    ·rename_i n h0
     cases hh:zbw ds with
     | true =>
      rw[hh,cond_true]at g2
      obtain⟨z,hz,rfl⟩:=T.zh.1 g2
      obtain⟨v,k1,E,ds,q1,q2,q3,q4,q5,q6⟩:=H5 hI e1 e2 e3 e4 (by rw[ud]; exact zV (ug.Wa _ _) zim) (T.zh.2 ⟨ds,g1,hz⟩)
      exact⟨e4.defers,v,k1,E,q1,q3,q4,.inr (.inr ⟨n,z,ds,h0,rfl,q2,q5,q6⟩)⟩
     | false =>
      rw[hh,cond_false]at g2
      obtain⟨v,k1,E,q1,q2,q3,q4⟩:=one g2
      exact⟨e4.defers,v,k1,E,q1,q2,q3,.inl q4⟩
    ·obtain⟨v,k1,E,q1,q2,q3,q4⟩:=one g2
     exact⟨e4.defers,v,k1,E,q1,q2,q3,.inl q4⟩
   rcases hex with rfl | rfl
   ·exact KG
   ·exact KG
  cases HM:o.ex<;>rw[HM]at e0 e6<;>simp only at e0
  ·exact fin (.inl e6) e0
  ·exact e0.elim
  ·exact fin (.inr e6) e0
  ·rename_i p
   cases p<;>simp only at e0<;>first | exact e0.elim | skip
   rename_i t v
   cases ht:R t d.pt&&d.two.isNone with
   | false=>rw[ht]at e0; exact e0.elim
   | true =>
    rw[ht,cond_true]at e0
    rw[I,Option.isNone_iff_eq_none]at ht
    have:=zA ht.1
    subst this
    obtain⟨u,rfl,hv⟩:=e6
    cases hv with
    | iface _ _ u hu =>
     have:∃ z,y=.inr z/\((d.bC.un [(0,some v)] o.st).bind λz=>match(d.bC.fr z).get 0 with | some _=>T.ret z | none=>.fail).leads z:=by
      obtain⟨z,g1,g2⟩:=T.zh.1 e0
      split at g2
      ·rename_i p hp
       have g2:qM z=y:=g2
       refine⟨z,g2.symm,T.zh.2 ⟨z,g1,?_⟩⟩
       rw[hp]; rfl
      ·exact g2.elim
     obtain⟨z,rfl,hz2⟩:=this
     obtain⟨E,p,q1,q2,q3,q4,q5,q6⟩:=zf8 (t:=d.pt) e1 e2 e3 (by rw[ud]; exact zV (ug.Wa _ _) zim) hu hz2
     exact⟨e4.defers,E,q1,q3,q4,.inr (.inl ⟨ht.2,z,p,rfl,q2,q5,q6⟩)⟩
theorem Ok{d:mh}{f:Nat}(b:(d.sh.den->T (d.out.den⊕d.bC.den))->d.sh.den->T (d.out.den⊕d.bC.den))(hF:∀ x,d.F x=T.fix b x)(h:∀ F:d.sh.den->T (d.out.den⊕d.bC.den),jx P f ⟨d.ks,d.sh,d.dU,d.out,d.nr,d.pt,d.bC,d.two,F⟩->jx P f ⟨d.ks,d.sh,d.dU,d.out,d.nr,d.pt,d.bC,d.two,b F⟩):jx P f d:=by
 have hN:∀ m,jx P f ⟨d.ks,d.sh,d.dU,d.out,d.nr,d.pt,d.bC,d.two,T.V5 b m⟩:=by
  intro m
  induction m with
  | zero=>nofun
  | succ m ih=>exact h _ ih
 intro O x xa y ud hy hI B ha
 rw[hF,T.mI]at hy
 obtain⟨m,hm⟩:=hy
 exact hN m O x xa y ud (hm m (zJ _)) hI B ha
end
noncomputable def VL:Nat->Code->Option Code
 | k,.block id (.loop b)=>if k=id then some b else VL k b
 | k,.seq a b=>match VL k a with | some x=>some x | none=>VL k b
 | k,.cond _ a b=>match VL k a with | some x=>some x | none=>VL k b
 | k,.block _ a=>VL k a
 | _,_=>none
def CX(P:Program)(n:Nat)(H:Hints):List (Nat×Code)->Prop
 | []=>True
 | p::r=>(∀ l,H.loop p.1=some l->Ul P n l p.2)/\CX P n H r
theorem zg{P:Program}{n:Nat}{H:Hints}:CX P n H []:=trivial
theorem qc{P:Program}{n:Nat}{H:Hints}{id:Nat}{b:Code}{r:List (Nat×Code)}{l:zy}(B:H.loop id=some l)(h:Ul P n l b)(t:CX P n H r):CX P n H ((id,b)::r) :=
 ⟨λl' MB=>(Option.some.inj (B.symm.trans MB))▸h,t⟩
theorem UY{P:Program}{n:Nat}{H:Hints}{code:Code}{L:List (Nat×Code)}(h:uh code=L)(ha:CX P n H L):gN P n H code:=by
 intro p hp
 rw[h]at hp
 clear h
 induction L with
 | nil=>cases hp
 | cons q r ih =>
  rcases zH.1 hp with rfl | hp
  ·exact ha.1
  ·exact ih ha.2 hp
end Go.AM
namespace Go.AM
variable [gy]
open Go.RowKit Go.ChangeShapes
def z0v:(τs:List Ty)->Ge τs->eJ (τs.map .ty)
 | [],_=>()
 | [_],x=>x.1
 | _::σ::r,x=>(x.1,z0v (σ::r) x.2)
theorem Cj:∀ (τs:List Ty) (x:Ge τs),Ke (τs.map .ty) (z0v τs x)=mkD τs x
 | [],_=>rfl
 | [_],_=>rfl
 | τ::σ::r,x=>congrArg (D.qj τ x.1 :: ·) (Cj (σ::r) x.2)
section
variable {H:Type} {enc:TypeId×Value->H} {P:Program} {xid m n:Nat}
theorem ze1{f:Nat}{fn:Func}(τs:List Ty){F:eJ (τs.map .ty)->T (ED [.bool])}(hS:zw P f ⟨τs.map .ty,[.bool],F⟩)(hf:P.funcs[f]? = some fn)(hbd:fn.body.isNone=false) (hnm:(fn.name == "runtime.NumGoroutine")=false)
  (B:laidOutB P=true) (xid m n:Nat) (hts:Jg P fn.params.toList=true) (hτ:fn.params.toList.map (CK P xid n)=τs.map some) (U:NG P xid m=true)
  {bt:TypeId} (hr:fn.resultTypes = #[bt]) (hbt:P.underlying bt=some .bool) {s:ChangeSpec} (hv:s.vars=[]) (hs:∀ ds:List (DataW H),ds.length=τs.length->s.fn H ds={ results:=[.lit (.bool true)],args:=ds })
  (hl:SM H) {lim:Nat} (law:∀ x:Ge τs,wfL τs x->bkL τs x<=lim->(F (z0v τs x)).run=some true)
  {fresh handsOn:Bool} {oE:World} {base:Nat} {args:Array Value} {ds gs:List (DataW H)} {before:List MemPlace}
  (hval:∀ (j:Nat) t v,fn.params[j]? = some t->args[j]? = some v->zR P oE .any base t v)
  (hW:DataW.Whole enc P fn.params.toList s.vars false oE args.toList ds gs before) (hk:hl.bs (ds++gs)<=lim) (hG:Vt oE λk=>k<oE.heap.size) :
  Calls P f args oE λe W'=>∃ v,e=.returned v/\s.post enc P fn false fresh handsOn false oE args v W':=by
 refine TI (ER.snd hS) hf hbd hnm B xid m n τs hts hτ U hr hbt hv hs hl (λx hw J => ?_) hval hW hk hG
 have h:=T.yN.1 (law x hw J)
 rw[<- Cj τs x]
 exact T.zh.2 ⟨z0v τs x,Et [] _ _,T.zh.2 ⟨true,h,rfl⟩⟩
end
end Go.AM