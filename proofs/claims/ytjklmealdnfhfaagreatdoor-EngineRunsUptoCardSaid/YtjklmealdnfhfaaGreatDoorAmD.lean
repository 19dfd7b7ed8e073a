/-
  The abstract machine, part D: texts of our own, the same for each claim.
-/
import Derived.Test.YtjklmealdnfhfaaGreatDoorAmA
import Derived.Lib.LaidTab
import Derived.Shelf.Vars
import Derived.Test.YtjklmealdnfhfaaGreatDoorAmC
import Derived.OpenShut
import Derived.Test.YtjklmealdnfhfaaGreatDoorAmB
import Derived.Lib.LazyBuf
set_option linter.unusedVariables false
open Nat renaming eq_of_beq_eq_true -> B, beq -> V, le_of_ble_eq_true -> zE, le_refl -> zJ, ble -> zM, blt -> zO, ble_eq -> zU, le_trans -> zV, zero_add -> qD, not_lt_zero -> qN, beq_refl -> qS
open List renaming getElem?_eq_some_iff -> E, all_cons -> zF, getElem?_eq_getElem -> zG, mem_cons -> zH, mem_cons_of_mem -> zI, getElem?_append_left -> zK, mem_singleton -> zL, mem_append -> zN, all_eq_true -> zP, mem_cons_self -> zQ, append_nil -> zT, isEmpty_iff -> zW, range -> zX, eq_nil_of_length_eq_zero -> zY, length -> zZ, map_cons -> qI, cons_append -> qJ, length_cons -> qK
open Bool renaming and_eq_true -> X, not_eq_true' -> qF
open Go.Value renaming okWide -> zR, cells -> qH
open Go.DataW renaming TrodAll -> zS, LaidVars -> qP
open Array renaming getElem?_setIfInBounds -> qA, length_toList -> qB, getD_eq_getD_getElem? -> qC, getElem?_eq_some_iff -> qE, getElem?_toList -> qO
open Go.Cell renaming okWide -> qG
open Option renaming bind_eq_some_iff -> qL
open Sum renaming inr -> qM, inl -> qR
open Go.Lib renaming TabIs -> qQ
open Go.World renaming cell? -> qT
namespace Go.AM
def EP(k:IntKind)(zs:List Int)(o:Obj):Prop:=∃ t fr,o=.cells (zs.map λz=>Value.int k z).toArray t fr
def CG(k:IntKind)(o:Obj):Prop:=∃ m t fr,o=.cells #[.int k m] t fr
theorem z3i{P:Program}{w:World}{name:String}{k:IntKind}{zs:List Int}{g:Nat}(hg:P.globalNamed name=some g)(h:qQ P w name k zs) :
  g<w.heap.size/\∃ o,w.heap[g]? = some o/\EP k zs o:=by
 unfold qQ World.var? at h
 rw[hg]at h
 simp at h
 split at h
 ·rename_i cs t fr ho
  cases h
  exact⟨(qE.1 ho).1,_,ho,t,fr,rfl⟩
 ·cases h
theorem zdg{P:Program}{w:World}{name:String}{k:IntKind}{zs:List Int}{g:Nat}(hg:P.globalNamed name=some g)(h:∃ o,w.heap[g]? = some o/\EP k zs o):qQ P w name k zs:=by
 obtain⟨o,ho,t,fr,rfl⟩:=h
 unfold qQ World.var?
 grind
theorem RY{w:World}{k:IntKind}{g:Nat}(h:∃ o,w.heap[g]? = some o/\CG k o):∃ m,w.cell? ⟨g,0,none⟩=some (.int k m):=by
 obtain⟨o,ho,m,t,fr,rfl⟩:=h
 exact⟨m,by simp[qT,ho]⟩
theorem RZ{P:Program}{w:World}{g:Nat}{t:TypeId}{zero:Array Value}{k:IntKind}
  (h:w.ShapedOpen P) (hg:g<P.globals.size)
  (h0:((begin P (λ_ _=>0) default).world.heap[g]?).bind Obj.row? = some (zero,t)) (hz:zero.size=1)
  (I:P.buildable t=true) (hc:P.cellTypes P.depth t=some [t]) (hu:P.underlying t=some (.int k)):g<w.heap.size/\∃ o,w.heap[g]? = some o/\CG k o:=by
 obtain⟨m,hm⟩:=Go.Proofs.cell_of_shapedOpen_int h hg h0 hz I hc hu
 obtain⟨cs,hh,hs,_⟩:=h.1 g zero t hg h0
 have R:cs.size=1:=hs.trans hz
 refine⟨(qE.1 hh).1,_,hh,m,t,(0,0),?_⟩
 have h1:w.cell? ⟨g,0,none⟩=some cs[0]:=by simp[qT,hh]
 have:cs = #[.int k m]:=by
  grind
 rw[this]
theorem S2{P:Program}{zk:World}{name:String}{k:IntKind}{zs:List Int}{rest:List (String×DataW Unit)}{ps:List MemPlace}{g:Nat}{t e:TypeId}{n:Nat}
  (hg:P.globalNamed name=some g) (MT:(P.globals[g]?).map (·.type)=some t) (ht:P.underlying t=some (.array n e)) (he:P.underlying e=some (.int k)) (hce:P.cellsOf e=1) (hct:P.cellsOf t=n)
  (h:qP P zk ((name,Lib.tabData k zs)::rest) ps):g<zk.heap.size/\∃ o,zk.heap[g]? = some o/\EP k zs o:=by
 obtain⟨g',t',cs,fuel,p,q,hg',ht',zgB,J,_,_⟩:=h
 refine z3i hg ?_
 obtain rfl:=Option.some.inj (hg.symm.trans hg')
 obtain rfl:=Option.some.inj (MT.symm.trans ht')
 unfold qQ
 rw[zgB,<- Lib.cells_of_tab ht he hce hct J]
theorem HV{P:Program}{zk:World}{x:String×DataW Unit}{rest:List (String×DataW Unit)}{ps:List MemPlace}(h:qP P zk (x::rest) ps):∃ q,qP P zk rest q:=by
 obtain⟨g',t',cs,fuel,p,q,hg',ht',zgB,J,h1,_⟩:=h
 grind
end Go.AM
namespace Go.AM
open Go.RowKit
mutual
def bkE:Expr->Nat
 | .mk _ n s l=>1+((1+((zZ n.2.1+1)+((zZ n.2.2.1+1)+1)))+((zZ s+1)+((bkEs l+1)+1)))
def bkEs:List Expr->Nat
 | []=>0
 | e::r=>bkE e+bkEs r
end
def Xx{α:Type}(f:α->Nat):List α->Nat
 | []=>0
 | x::r=>f x+Xx f r
def bk:(τ:Ty)->den τ->Nat
 | .int _,_=>1
 | .bool,_=>1
 | .str,s=>zZ s+1
 | .sl e,l=>Xx (bk e) l+1
 | .nil,_=>1
 | .cons a b,x=>bk a x.1+bk b x.2
 | .expr,x=>bkE x
theorem Gs{α:Type}(l:List α):Xx (λ_=>1) l=l.length:=by induction l with | nil=>rfl | cons x r ih=>simp[Xx]; omega
theorem MA(l:List Expr):bkEs l=Xx (bk .expr) l:=by induction l with | nil=>rfl | cons x r ih=>simp[bkEs,Xx,ih,bk]
theorem z5d(x:Expr):bk JD x.z09=bk .expr x:=by
 cases x with | mk k n s l =>
 simp only[bk,Expr.z09,bkE,MA,Expr.num,Expr.name,Expr.kids,Gs]
mutual
def wfE:Expr->Prop
 | .mk k n s l=>(IntKind.i64.min<=k/\k<=IntKind.i64.max)/\((True/\((∀ x∈n.2.1,IntKind.u32.min<=x/\x<=IntKind.u32.max)/\((∀ x∈n.2.2.1,IntKind.u32.min<=x/\x<=IntKind.u32.max)/\True)))/\(zZ s<=maxLen/\(wfEs l/\True)))
def wfEs:List Expr->Prop
 | []=>True
 | e::r=>wfE e/\wfEs r
end
def wf:(τ:Ty)->den τ->Prop
 | .int k,n=>k.min<=n/\n<=k.max
 | .bool,_=>True
 | .str,s=>zZ s<=maxLen
 | .sl e,l=>∀ x∈l,wf e x
 | .nil,_=>True
 | .cons a b,x=>wf a x.1/\wf b x.2
 | .expr,x=>wfE x
theorem PH(l:List Expr):wfEs l↔∀ x∈l,wf .expr x:=by induction l with | nil=>simp[wfEs] | cons x r ih=>simp[wfEs,ih,wf]
theorem z95(x:Expr):wf JD x.z09↔wf .expr x:=by
 cases x with | mk k n s l=>simp only[wf,Expr.z09,wfE,PH,Expr.kind,Expr.num,Expr.name,Expr.kids]
structure R7(H:Type) where
 b:DataW H->Nat
 bs:List (DataW H)->Nat
 str:∀ s,b (.lit (.string s))=s.length+1
 bool:∀ x,b (.lit (.bool x))=1
 int:∀ k n,b (.lit (.int k n))=1
 nil:b .nil=1
 slice:∀ x y,b (.slice x y)=bs x+bs y+1
 agg:∀ x,b (.agg x)=bs x+1
 zero:bs []=0
 cons:∀ x r,bs (x::r)=b x+bs r
section
variable (P:Program) (xid:Nat)
def JU:Nat->List Field->Bool
 | _,[]=>true
 | o,f::r=>V f.offset o&&JU (o+P.cellsOf f.type) r
def JC:Nat->List Field->Nat
 | o,[]=>o
 | o,f::r=>JC (o+P.cellsOf f.type) r
def BJ:Nat->Nat->Option Ty
 | 0,_=>none
 | n+1,t=>bif V t xid then some .expr else
  match P.underlying t with
  | some (.int k)=>some (.int k)
  | some .bool=>some .bool
  | some .string=>some .str
  | some (.slice e)=>match BJ n e with | some a=>bif V (P.cellsOf e) a.size&&zO 0 a.size then some (.sl a)else none | none=>none
  | some (.struct fs)=>bif JU P 0 fs.toList&&V (JC P 0 fs.toList) (P.cellsOf t)then oa (fs.toList.map λf=>BJ n f.type)else none
  | _=>none
def M6(m:Nat):Bool:=match P.underlying xid with
 | some (.struct fs)=>JU P 0 fs.toList&&V (JC P 0 fs.toList) (P.cellsOf xid)&&decide (oa (fs.toList.map λf=>BJ P xid m f.type)=some JD)
 | some _=>false
 | none=>true
end
section
variable {H:Type} {enc:TypeId×Value->H} {P:Program} {w:World} {xid m:Nat} (zA:R7 H)
def KT(w:World)(zA:R7 H)(τ:Ty)(cs:List Value)(k:Nat):Prop:=∃ x:den τ,Rc w (λk=>k<w.heap.size) τ x cs/\wf τ x/\bk τ x<=k
theorem JX{fuel:Nat}{cs:List Value}(ih:∀ n t τ cs d ps,BJ P xid n t=some τ->DataW.trod enc P w 0 (λ_=>true) true fuel t cs=some (d,ps)->KT w zA τ cs (zA.b d)){n:Nat} :
  ∀ (fs:List Field) (o:Nat) (τ:Ty) (xs:List (DataW H×List MemPlace)),oa (fs.map λf=>BJ P xid n f.type)=some τ->JU P o fs=true->JC P o fs=cs.length->xs.length=fs.length ->
   (∀ (i:Nat) (f:Field),fs[i]? = some f->DataW.trod enc P w 0 (λ_=>true) true fuel f.type ((cs.drop f.offset).take (P.cellsOf f.type))=xs[i]?)->KT w zA τ (cs.drop o) (zA.bs (xs.map (·.1))+1)
 | [],o,τ,xs,ht,_,he,R,_=>by
  cases ht
  simp only[JC]at he
  obtain rfl:xs=[]:=zY R
  refine⟨(),?_,trivial,by simp[bk]⟩
  rw[he,List.drop_length]; exact .nil
 | f::r,o,τ,xs,ht,ho,he,R,N=>by
  cases xs with
  | nil=>simp at R
  | cons x xs =>
  simp only[JU,X]at ho
  have ho1:f.offset=o:=B ho.1
  simp only[qI]at ht
  cases h1:BJ P xid n f.type with
  | none=>rw[h1]at ht; cases ht
  | some a =>
   rw[h1]at ht
   simp only[oa]at ht
   cases M:oa (r.map λf=>BJ P xid n f.type)with
   | none=>grind
   | some b =>
    rw[M]at ht
    cases ht
    obtain⟨x1,p1,p2,p3⟩:=ih n f.type a _ x.1 x.2 h1 (by have:=N 0 f rfl; simpa using this)
    obtain⟨x2,q1,q2,q3⟩:=JX ih r (o+P.cellsOf f.type) b xs M ho.2 he (by simpa using R) (λi g hg=>by have:=N (i+1) g (by simpa using hg); simpa using this)
    refine⟨(x1,x2),?_,⟨p2,q2⟩,?_⟩
    ·have e:cs.drop o=(cs.drop o).take (P.cellsOf f.type)++cs.drop (o+P.cellsOf f.type):=by
      conv=>lhs; rw[<- List.take_append_drop (P.cellsOf f.type) (cs.drop o)]
      simp
     rw[e]
     rw[ho1]at p1
     exact .cons _ _ _ _ _ _ p1 q1
    ·simp only[bk,qI,zA.cons]; omega
theorem Bn{e:Ty}(k:Nat):∀ (n:Nat) (elems:List (DataW H×List MemPlace)) (g:Nat->List Value),elems.length=n->(∀ i,i<n->∃ d,elems[i]? = some d/\KT w zA e (g i) (zA.b d.1)) ->
  ∃ l:List (den e),l.length=n/\(∀ i (hi:i<l.length),Rc w (λk=>k<w.heap.size) e l[i] (g i))/\(∀ x∈l,wf e x)/\Xx (bk e) l<=zA.bs (elems.map (·.1))
 | 0,elems,g,R,_=>by
  exact⟨[],rfl,λi hi=>absurd hi (qN i),qz,by simp[Xx]⟩
 | n+1,elems,g,R,h=>by
  cases elems with
  | nil=>simp at R
  | cons y ys =>
   obtain⟨d,h1,x,M,h3,h4⟩:=h 0 (O)
   simp at h1
   subst h1
   obtain⟨l,l1,l2,l3,l4⟩:=Bn k n ys (λi=>g (i+1)) (xz) λi hi=>by
    obtain⟨d,h1,M⟩:=h (i+1) (O)
    exact⟨d,xz,M⟩
   refine⟨x::l,xz,λi hi => ?_,λz hz => ?_,?_⟩
   ·grind
   ·grind
   ·simp only[Xx,qI,zA.cons]; omega
theorem SE(N:M6 P xid m=true):∀ (fuel n t:Nat) (τ:Ty) (cs:List Value) (d:DataW H) (ps:List MemPlace),BJ P xid n t=some τ->DataW.trod enc P w 0 (λ_=>true) true fuel t cs=some (d,ps)->KT w zA τ cs (zA.b d):=by
 intro fuel
 induction fuel with
 | zero=>nofun
 | succ fuel ih =>
  intro n t τ cs d ps ht h
  have struct:∀ (fs:Array Field) (k:Nat) (σ:Ty),P.underlying t=some (.struct fs)->(JU P 0 fs.toList&&V (JC P 0 fs.toList) (P.cellsOf t))=true->oa (fs.toList.map λf=>BJ P xid k f.type)=some σ->KT w zA σ cs (zA.b d):=by
   intro fs k σ hu ho hc
   simp only[X]at ho
   obtain⟨xs,n',hn,J,R,hlx,Yo⟩:=DataW.trod_struct hu h
   cases hn
   cases J
   have:=JX zA (cs:=cs) (ih:=ih) fs.toList 0 σ xs hc ho.1 (by rw[B ho.2,R]) (by simpa using hlx) (λi f hf=>Yo i f (by simpa using hf))
   rw[zA.agg]
   grind
  cases n with
  | zero=>cases ht
  | succ n =>
   unfold BJ at ht
   cases I:V t xid with
   | true =>
    rw[I,cond_true]at ht
    cases ht
    have:=B I
    subst this
    unfold M6 at N
    split at N
    ·rename_i fs hu
     simp only[X,decide_eq_true_eq]at N
     obtain⟨x,h1,M,h3⟩:=struct fs m JD hu (by simp[N.1.1,N.1.2]) N.2
     refine⟨Expr.Lo x,.expr _ _ _ _ _ h1,?_,?_⟩
     ·exact(z95 (Expr.Lo x)).1 M
     ·rw[<- z5d (Expr.Lo x)]; exact h3
    ·cases N
    ·rename_i hu
     rw[DataW.trod_step]at h
     simp[DataW.trodStep,hu]at h
   | false =>
    rw[I,cond_false]at ht
    split at ht
    ·rename_i k hu
     cases ht
     obtain⟨n',rfl,M,h3⟩:=DataW.trod_int hu h
     cases M
     simp only[Lit.wf,X,decide_eq_true_eq]at h3
     exact⟨n',.int k n',h3,by simp[bk,zA.int]⟩
    ·rename_i hu
     cases ht
     obtain⟨b,rfl,M⟩:=DataW.trod_bool hu h
     cases M
     exact⟨b,.bool b,trivial,by simp[bk,zA.bool]⟩
    ·rename_i hu
     cases ht
     obtain⟨s,rfl,M,h3⟩:=DataW.trod_string hu h
     cases M
     refine⟨s.data.toList,?_,?_,?_⟩
     ·have:s=⟨s.data.toList.toArray⟩:=by cases s; simp
      exact .str _
     ·simp only[wf,qB]; exact h3
     ·simp[bk,zA.str]
    ·rename_i e hu
     split at ht
     ·rename_i a ha
      cases hc:V (P.cellsOf e) a.size&&zO 0 a.size with
      | false=>grind
      | true =>
       rw[hc,cond_true]at ht
       cases ht
       simp only[X]at hc
       have bM:P.cellsOf e=a.size:=B hc.1
       have Wr:0<a.size:=zE hc.2
       rcases DataW.trod_slice hu h with⟨rfl,M⟩ | ⟨p,len,cap,elems,rest,n',hn,rfl,J,_,jg,_,hlen,hel,hre,_⟩
       ·cases M
        exact⟨[],.lA a none,by simp[wf],by simp[bk,Xx,zA.nil]⟩
       ·cases hn
        cases J
        by_cases h0:cap=0
        ·subst h0
         have:len=0:=O
         subst this
         exact⟨[],.lA a (some p),by simp[wf],by simp[bk,Xx,zA.slice]⟩
        ·rw[bM]at hel hre
         have zbN:p.block<w.heap.size/\p.spot=none:=by
          have first:∃ x,(w.cells? 0 p a.size)=some x:=by
           by_cases R:len=0
           ·have:=(hre rfl).2 0 (O)
            cases hcc:w.cells? 0 p a.size with
            | some x=>simp
            | none =>
             have e0:p.add ((0+0)*a.size)=p:=by simp[Addr.add]
             grind
           ·have:=hel 0 (O)
            cases hcc:w.cells? 0 p a.size with
            | some x=>simp
            | none =>
             have e0:p.add (0*a.size)=p:=by simp[Addr.add]
             grind
          obtain⟨x,N⟩:=first
          refine⟨World.cells?_block N Wr,?_⟩
          have M:=(World.cells?_some N).2
          have h3:=M.2 0 Wr
          have e0:p.add 0=p:=rfl
          cases hs:p.spot with
          | none=>rfl
          | some q =>
           unfold qT at h3
           grind
         obtain⟨blk,off,sp⟩:=p
         obtain⟨z0K,Ws⟩:=zbN
         subst Ws
         have hg:∀ i,∃ c:List Value,i<len->∃ d,elems[i]? = some d/\KT w zA a c (zA.b d.1)/\w.cells? 0 ⟨blk,off+i*a.size,none⟩ a.size=some c:=by
          intro i
          by_cases hi:i<len
          ·have:=hel i hi
           rw[addr_add]at this
           cases hcc:w.cells? 0 ⟨blk,off+i*a.size,none⟩ a.size with
           | none =>
            grind
           | some c =>
            refine⟨c,λ_=>⟨elems[i]'(O),qz,?_,rfl⟩⟩
            grind
          ·exact⟨[],λh=>absurd h hi⟩
         let g:Nat->List Value:=λi=>Classical.choose (hg i)
         have hg':∀ i,i<len->∃ d,elems[i]? = some d/\KT w zA a (g i) (zA.b d.1)/\w.cells? 0 ⟨blk,off+i*a.size,none⟩ a.size=some (g i):=λi hi=>Classical.choose_spec (hg i) hi
         obtain⟨l,l1,l2,l3,l4⟩:=Bn zA (w:=w) (e:=a) 0 len elems g hlen λi hi=>by
          grind
         refine⟨l,?_,l3,?_⟩
         ·have:=Rc.sl (w:=w) (ok:=λk=>k<w.heap.size) a l blk off cap g z0K (O) l2 λi hi j v hj=>by
           obtain⟨d,_,_,h3⟩:=hg' i (O)
           obtain⟨_,k2,k3⟩:=World.cells?_some h3
           have Tc:j<(g i).length:=(E.1 hj).1
           have:=k3 j (O)
           rw[addr_add,hj]at this
           exact this
          grind
         ·simp only[bk,zA.slice]; omega
     ·cases ht
    ·rename_i fs hu
     cases hc:JU P 0 fs.toList&&V (JC P 0 fs.toList) (P.cellsOf t)with
     | false=>grind
     | true =>
      rw[hc,cond_true]at ht
      exact struct fs n τ hu hc ht
    ·cases ht
end
end Go.AM
namespace Go.AM
set_option linter.unusedSectionVars false
variable [yY]
open Go.RowKit Go.ChangeShapes
def Yb:List Ty->Type
 | []=>Unit
 | τ::r=>den τ×Yb r
def mkD:(τs:List Ty)->Yb τs->List D
 | [],_=>[]
 | τ::r,x=>.qi τ x.1::mkD r x.2
def wfL:(τs:List Ty)->Yb τs->Prop
 | [],_=>True
 | τ::r,x=>wf τ x.1/\wfL r x.2
def bkL:(τs:List Ty)->Yb τs->Nat
 | [],_=>0
 | τ::r,x=>bk τ x.1+bkL r x.2
def Uu(P:Program)(ts:List Nat):Bool:=ts.all λt=>P.readableRec t&&decide (t<P.types.size)
section
variable {H:Type} {enc:TypeId×Value->H} {P:Program} {xid m n:Nat} {w:World}
theorem zaV{t:Nat}{τ:Ty}{v:Value}{base:Nat}(ht:BJ P xid n t=some τ)(N:M6 P xid m=true)(h:zR P w .any base t v):pk τ v.cells.toList=v:=by
 cases n with
 | zero=>cases ht
 | succ n =>
  have agg:∀ fs:Array Field,P.underlying t=some (.struct fs)->τ.isAgg=true->pk τ v.cells.toList=v:=by
   intro fs hu ha
   unfold zR at h
   rw[hu]at h
   obtain⟨cs,rfl,_⟩:=h
   simp[pk,ha,qH]
  unfold BJ at ht
  cases I:V t xid with
  | true =>
   rw[I,cond_true]at ht
   cases ht
   have:=B I
   subst this
   unfold M6 at N
   split at N
   ·rename_i fs hu; exact agg fs hu rfl
   ·cases N
   ·rename_i hu
    unfold zR at h
    rw[hu]at h
    simp[qG,Cell.ok,hu]at h
  | false =>
   rw[I,cond_false]at ht
   split at ht
   ·rename_i k hu
    cases ht
    unfold zR at h
    rw[hu]at h
    simp only[qG,hu,Cell.ok]at h
    split at h<;>simp_all [pk,Ty.isAgg,qH]
   ·rename_i hu
    cases ht
    unfold zR at h
    rw[hu]at h
    simp only[qG,hu,Cell.ok]at h
    split at h<;>simp_all [pk,Ty.isAgg,qH]
   ·rename_i hu
    cases ht
    unfold zR at h
    rw[hu]at h
    simp only[qG,hu,Cell.ok]at h
    split at h<;>simp_all [pk,Ty.isAgg,qH]
   ·rename_i e hu
    have h1:τ.isAgg=false:=by
     split at ht
     ·rename_i a ha
      cases hc:V (P.cellsOf e) a.size&&zO 0 a.size with
      | false=>grind
      | true=>rw[hc,cond_true]at ht; cases ht; rfl
     ·cases ht
    unfold zR at h
    rw[hu]at h
    simp only[qG,hu,Cell.ok]at h
    split at h<;>simp_all [pk,qH]
   ·rename_i fs hu
    refine agg fs hu ?_
    cases hc:JU P 0 fs.toList&&V (JC P 0 fs.toList) (P.cellsOf t)with
    | false=>grind
    | true =>
     rw[hc,cond_true]at ht
     have key:∀ (l:List (Option Ty)),oa l=some τ->τ.isAgg=true:=by
      intro l R
      cases l with
      | nil=>cases R; rfl
      | cons a r =>
       cases a with
       | none=>cases R
       | some a =>
        simp only[oa]at R
        cases M:oa r with
        | none=>grind
        | some b=>rw[M]at R; cases R; rfl
     grind
   ·cases ht
theorem Fi(zA:R7 H)(N:M6 P xid m=true){base:Nat}:∀ (ts:List TypeId) (τs:List Ty) (vs:List Value) (ds:List (DataW H)) (ps:List MemPlace),ts.map (BJ P xid n)=τs.map some ->
  zS enc P w 0 (λ_=>true) true ts vs ds ps->(∀ (j:Nat) t v,ts[j]? = some t->vs[j]? = some v->zR P w .any base t v) ->
  ∃ x:Yb τs,wN ⟨w,λk=>k<w.heap.size,[],[]⟩ (mkD τs x) vs/\wfL τs x/\bkL τs x<=zA.bs ds/\ds.length=τs.length
 | [],τs,vs,ds,ps,ht,h,_=>by
  cases τs with
  | cons=>cases ht
  | nil =>
   cases vs<;>cases ds<;>simp only[zS]at h
   exact⟨(),⟨rfl,λi h1=>absurd h1 (qN i)⟩,trivial,Nat.zero_le _,rfl⟩
 | t::ts,τs,vs,ds,ps,ht,h,hv=>by
  cases τs with
  | nil=>cases ht
  | cons τ τs =>
   simp at ht
   cases vs with
   | nil=>simp[zS]at h
   | cons v vs =>
    cases ds with
    | nil=>simp[zS]at h
    | cons d ds =>
     obtain⟨p,q,⟨fuel,h1⟩,M,_⟩:=h
     obtain⟨x,k1,k2,k3⟩:=SE zA N fuel n t τ _ d p ht.1 h1
     obtain⟨y,g1,g2,g3,g4⟩:=Fi zA N ts τs vs ds q ht.2 M λj t v a b=>hv (j+1) t v (xz) (xz)
     refine⟨(x,y),⟨by simp only[mkD,qK]; rw[g1.1],λi h1 M => ?_⟩,⟨k2,g2⟩,?_,xz⟩
     ·cases i with
      | zero =>
       have:=RD.qi (Z:=⟨w,λk=>k<w.heap.size,[],[]⟩) τ x _ k1
       rw[zaV ht.1 N (hv 0 t v rfl rfl)]at this
       exact this
      | succ i=>exact g1.2 i (by simpa[mkD]using h1) (xz)
     ·simp only[bkL,zA.cons]; omega
theorem Hv(R:laidOutB P=true){zk W':World}(I:Below zk.heap.size zk W'):∀ (ts:List TypeId) (vs:List Value) (ds:List (DataW H)) (ps:List MemPlace),Uu P ts=true ->
  zS enc P zk 0 (λ_=>true) true ts vs ds ps->(∀ x∈ps,x.block<zk.heap.size)->zS enc P W' 0 (λb=>decide (b<zk.heap.size)) true ts vs ds ps
 | [],vs,ds,ps,_,h,_=>by cases vs<;>cases ds<;>simp_all [zS]
 | t::ts,vs,ds,ps,ht,h,wM=>by
  cases vs with
  | nil=>simp[zS]at h
  | cons v vs =>
   cases ds with
   | nil=>simp[zS]at h
   | cons d ds =>
    obtain⟨p,q,h1,M,rfl⟩:=h
    simp only[Uu,zF,X,decide_eq_true_eq]at ht
    exact⟨p,q,Below.trod R ht.1.1 ht.1.2 h1 I λx N=>wM x (xz),Hv R I ts vs ds q (by simpa[Uu]using ht.2) M λx N=>wM x (xz),rfl⟩
end
theorem S3{H:Type}{enc:TypeId×Value->H}{P:Program}{f:Nat}{fn:Func}{S:List D->St->T (GI×St)}(hS:Dp P f S)(hf:P.funcs[f]? = some fn)(hbd:fn.body.isNone=false) (hnm:(fn.name == "runtime.NumGoroutine")=false)
  (R:laidOutB P=true) (xid m n:Nat) (τs:List Ty) (hts:Uu P fn.params.toList=true) (hτ:fn.params.toList.map (BJ P xid n)=τs.map some) (N:M6 P xid m=true)
  {bt:TypeId} (hr:fn.resultTypes = #[bt]) (hbt:P.underlying bt=some .bool) {s:ChangeSpec} (hv:s.vars=[]) (hs:∀ ds:List (DataW H),ds.length=τs.length->s.fn H ds={ results:=[.lit (.bool true)],args:=ds })
  (zA:R7 H) {lim:Nat} (law:∀ x:Yb τs,wfL τs x->bkL τs x<=lim->(S (mkD τs x) []).leads (.ret [.qi .bool true],[]))
  {fresh handsOn:Bool} {zk:World} {base:Nat} {args:Array Value} {ds gs:List (DataW H)} {before:List MemPlace}
  (hval:∀ (j:Nat) t v,fn.params[j]? = some t->args[j]? = some v->zR P zk .any base t v)
  (hW:DataW.Whole enc P fn.params.toList s.vars false zk args.toList ds gs before) (hk:zA.bs (ds++gs)<=lim) (hG:WM zk λk=>k<zk.heap.size) :
  Calls P f args zk λe W'=>∃ v,e=.returned v/\s.post enc P fn false fresh handsOn false zk args v W':=by
 have hW':=hW
 obtain⟨p,q,hA,hV,rfl,hfz,hnd⟩:=hW
 rw[hv]at hV
 obtain⟨rfl,rfl⟩:=trodVars_none hV
 simp only[zT]at hk hW'
 obtain⟨x,h1,M,h3,h4⟩:=Fi (n:=n) zA N fn.params.toList τs args.toList ds p hτ hA λj t v a b=>hval j t v (xz) (xz)
 have hI:Inv ⟨zk,λk=>k<zk.heap.size,[],[]⟩ :=
  ⟨rfl,λk hk=>hk,λb blk n h=>xz,λb b' blk n n' h=>by simp at h,λb x h=>by simp at h,hG⟩
 have z9y:=hS ⟨zk,λk=>k<zk.heap.size,[],[]⟩ (mkD τs x) args.toList _ _ (law x M (zV h3 hk)) hI h1
 rw[Array.toArray_toList]at z9y
 have key:Calls P f args zk λe w'=>∃ Y:KS,Y.w=w'/\Y.st=[]/\Inv Y/\Ext ⟨zk,λk=>k<zk.heap.size,[],[]⟩ Y/\jd Y (.ret [.qi .bool true]) e:=by
  rcases z9y with⟨_,h⟩ | ⟨v,w',h,_⟩
  ·exact h
  ·have:=uS (args:=args) hf hnm hbd zk
   grind
 refine key.mono λe W' ⟨Y,e1,_,_,e4,v,e5,e6⟩ => ?_
 subst e1
 have I:Below zk.heap.size zk Y.w:=⟨e4.os,e4.tape,e4.output,e4.size,λk hk=>e4.frame k hk λb n h=>by simp at h⟩
 have hv':v=.bool true:=by
  obtain⟨cs,g1,g2⟩:=RD.cP (show RD Y (.qi .bool true) v from e6)
  rw[g1.cr]at g2
  exact g2
 subst hv'
 have wM:∀ x∈p,x.block<zk.heap.size:=λx N=>by simpa using hW'.lt x N
 refine⟨_,e5,ds,[],p,[],p,[],hW',?_,?_,?_,I.frame _,λh=>by cases h⟩
 ·rw[zT,hs ds h4,hr]
  exact trodAll_cons_mk (shut_bool hbt _) trodAll_mk0
 ·rw[zT,hs ds h4]
  exact Hv R I _ _ _ _ hts hA wM
 ·rw[zT,hs ds h4,hv]
  rfl
end Go.AM
namespace Go.AM
def Dq:List Ty->Type
 | []=>Unit
 | [τ]=>den τ
 | τ::σ::r=>den τ×Dq (σ::r)
def UU.ty:UU->Ty | .rp τ=>τ | .im τ=>τ
def fP:List UU->Type
 | []=>Unit
 | [p]=>den p.ty
 | p::q::r=>den p.ty×fP (q::r)
def Bi:(p:UU)->den p.ty->D
 | .rp τ,x=>.vz τ x
 | .im τ,x=>.qi τ x
def ZQ:(l:List UU)->fP l->List D
 | [],_=>[]
 | [p],x=>[Bi p x]
 | p::q::r,x=>Bi p x.1::ZQ (q::r) x.2
def E7:(l:List UU)->fP l
 | []=>()
 | [p]=>zb p.ty
 | p::q::r=>(zb p.ty,E7 (q::r))
inductive Sk where
 | im (τ:Ty) | row (b:Nat) (e:Ty) | op (b T:Nat) | un | nl
def lO:List Sk->Type
 | []=>Unit
 | .im τ::r=>den τ×lO r
 | .row _ _::r=>lO r
 | .op _ _::r=>lO r
 | .un::r=>lO r
 | .nl::r=>lO r
def XK:(l:List Sk)->lO l
 | []=>()
 | .im τ::r=>(zb τ,XK r)
 | .row _ _::r=>XK r
 | .op _ _::r=>XK r
 | .un::r=>XK r
 | .nl::r=>XK r
inductive Mc where
 | im (τ:Ty) | rp (τ:Ty) | pt (b:Nat)
def Zr:List Mc->Type
 | []=>Unit
 | .im τ::r=>den τ×Zr r
 | .rp τ::r=>den τ×Zr r
 | .pt _::r=>Zr r
def Kr:(l:List Mc)->Zr l
 | []=>()
 | .im τ::r=>(zb τ,Kr r)
 | .rp τ::r=>(zb τ,Kr r)
 | .pt _::r=>Kr r
def Wx:(l:List Mc)->Zr l->List D
 | [],_=>[]
 | .im τ::r,x=>.qi τ x.1::Wx r x.2
 | .rp τ::r,x=>.vz τ x.1::Wx r x.2
 | .pt b::r,x=>.ptr b 0::Wx r x
inductive Dk where
 | qi (τ:Ty) | vz (τ:Ty) | sub (b:Nat) (e:Ty) | wi (f:Nat) (caps:List UU) | st (ks:List Sk) | mclo (f:Nat) (ms:List Mc) | mp | so (e:Ty) | tight (e:Ty)
inductive Ck where
 | ptr (b off:Nat) | cur (b:Nat) (e:Ty) | wF | gX | v8 | wi (f:Nat) (l:List (Nat×Nat)) | yL (b:Nat) | uT
inductive Bk where
 | var (k:Dk) | cvar (k:Ck) | arr (e:Ty) | dead
def Dk.den:Dk->Type
 | .qi τ=>AM.den τ
 | .vz τ=>AM.den τ
 | .sub _ _=>Nat×Nat
 | .wi _ caps=>fP caps
 | .st ks=>lO ks
 | .mclo _ ms=>Zr ms
 | .mp=>List Int
 | .so e=>List (AM.den e)×Bool
 | .tight e=>List (AM.den e)
def Dk.zb:(k:Dk)->k.den
 | .qi τ=>AM.zb τ
 | .vz τ=>AM.zb τ
 | .sub _ _=>(0,0)
 | .wi _ caps=>E7 caps
 | .st ks=>XK ks
 | .mclo _ ms=>Kr ms
 | .mp=>[]
 | .so _=>([],false)
 | .tight _=>[]
inductive It where
 | s (t:Nat) (k:Dk) | v (k:Dk) | a (e:Ty)
def It.den:It->Type
 | .s _ k=>k.den
 | .v k=>k.den
 | .a e=>List (AM.den e)
def It.zb:(i:It)->i.den
 | .s _ k=>k.zb
 | .v k=>k.zb
 | .a _=>[]
def jR:List It->Type
 | []=>Unit
 | [i]=>i.den
 | i::j::r=>i.den×jR (j::r)
def zl8:cL->Nat
 | .arr v _ _=>v
 | _=>0
def jx(st:St)(b:Nat):Nat:=match st[b]? with | some x=>zl8 x | none=>0
def jf(st:St):(l:List Sk)->lO l->List D
 | [],_=>[]
 | .im τ::r,x=>AM.flat τ x.1++jf st r x.2
 | .row b e::r,x=>.ms b (jx st b) e 0 (jx st b)::jf st r x
 | .op b T::r,x=>.en b T::jf st r x
 | .un::r,x=>.WI::jf st r x
 | .nl::r,x=>.wF::jf st r x
def Qx(st:St):(k:Dk)->k.den->D
 | .qi τ,x=>.qi τ x
 | .vz τ,x=>.vz τ x
 | .sub b e,x=>.ms b (jx st b) e x.1 x.2
 | .wi f caps,x=>.wi f (ZQ caps x)
 | .st ks,x=>.agg (jf st ks x)
 | .mclo f ms,x=>.wi f (Wx ms x)
 | .mp,x=>.Bm x
 | .so e,x=>.so e x.1 x.2
 | .tight e,x=>.tight e x false
def F6(st:St):Ck->D
 | .ptr b off=>.ptr b off
 | .cur b e=>.ms b (jx st b) e 0 (jx st b)
 | .wF=>.wF
 | .gX=>.gX
 | .v8=>.v8
 | .wi f l=>.wi f (l.map λp=>.ptr p.1 p.2)
 | .yL b=>.yL b
 | .uT=>.uT
def ng(st:St):(l:List It)->jR l->Fr
 | [],_=>[]
 | [.s t k],x=>[(t,some (Qx st k x))]
 | [.v _],_=>[]
 | [.a _],_=>[]
 | .s t k::j::r,x=>(t,some (Qx st k x.1))::ng st (j::r) x.2
 | .v _::j::r,x=>ng st (j::r) x.2
 | .a _::j::r,x=>ng st (j::r) x.2
def z8e(st:St)(l:List (Nat×Ck)):Fr:=l.map λp=>(p.1,some (F6 st p.2))
inductive Bd where
 | v (k:Dk) (x:k.den) | a (e:Ty) (x:List (AM.den e))
def Z2:(l:List It)->jR l->List Bd
 | [],_=>[]
 | [.s _ _],_=>[]
 | [.v k],x=>[.v k x]
 | [.a e],x=>[.a e x]
 | .s _ _::j::r,x=>Z2 (j::r) x.2
 | .v k::j::r,x=>.v k x.1::Z2 (j::r) x.2
 | .a e::j::r,x=>.a e x.1::Z2 (j::r) x.2
def fx:List Bk->List Bd->St
 | [],_=>[]
 | .arr _::r,.a e x::d=>.arr x.length e x::fx r d
 | .var _::r,_::d=>.dead::fx r d
 | .cvar _::r,d=>.dead::fx r d
 | .dead::r,d=>.dead::fx r d
 | _::_,_=>[]
def jD(st:St):List Bk->List Bd->St
 | [],_=>[]
 | .arr _::r,.a e x::d=>.arr x.length e x::jD st r d
 | .var _::r,.v k x::d=>.var (Qx st k x)::jD st r d
 | .cvar c::r,d=>.var (F6 st c)::jD st r d
 | .dead::r,d=>.dead::jD st r d
 | _::_,_=>[]
def znT(bs:List Bk)(d:List Bd):St:=jD (fx bs d) bs d
structure uq where
 fq:List It
 cs:List (Nat×Ck)
 bs:List Bk
def uq.den(s:uq):Type:=jR s.fq
def uq.st(s:uq)(x:s.den):St:=znT s.bs (Z2 s.fq x)
def uq.fr(s:uq)(x:s.den):Fr:=ng (s.st x) s.fq x++z8e (s.st x) s.cs
def PC:(p:UU)->D->Option (den p.ty)
 | .rp τ,d=>match d with | .vz _ x=>jP x | _=>none
 | .im τ,d=>ov τ d
def M0:(l:List UU)->List D->Option (fP l)
 | [],[]=>some ()
 | [p],[d]=>PC p d
 | p::q::r,d::ds=>(PC p d).bind λx=>(M0 (q::r) ds).bind λy=>some (x,y)
 | _,_=>none
def lv(st:St)(b:Nat):Nat:=match st[b]? with | some (.arr _ _ xs)=>xs.length | _=>0
def z2H(st:St)(b T:Nat)(ds:List D):Option (List D):=match st[b]? with
 | some (.var _)=>match ds with
  | .mP T'::ds=>bif V T T' then some ds else none
  | .en b' T'::ds=>bif V b b'&&V T T' then some ds else none
  | _=>none
 | _=>none
def zdm(ds:List D):Option (List D):=match ds with
 | d::ds=>bif d.one then some ds else none
 | _=>none
def zcM(ds:List D):Option (List D):=match ds with
 | .wF::ds=>some ds
 | _=>none
def oi(st:St):(l:List Sk)->List D->T (lO l)
 | [],ds=>match ds with | []=>.ret () | _=>.fail
 | .im τ::r,ds=>match cK τ ds with | some p=>(oi st r p.2).bind λy=>.ret (p.1,y) | none=>.fail
 | .row b e::r,ds=>match ds with
  | .ms b' vi e' off len::ds=>bif V b b'&&decide (e=e')then .W (zw vi off len (lv st b)) (oi st r ds)else .fail
  | _=>.fail
 | .op b T::r,ds=>match z2H st b T ds with | some q=>oi st r q | none=>.fail
 | .un::r,ds=>match zdm ds with | some q=>oi st r q | none=>.fail
 | .nl::r,ds=>match zcM ds with | some q=>oi st r q | none=>.fail
def K4:(l:List Mc)->List D->T (Zr l)
 | [],ds=>match ds with | []=>.ret () | _=>.fail
 | .im τ::r,ds=>match ds with
  | d::ds=>match ov τ d with | some y=>(K4 r ds).bind λz=>.ret (y,z) | none=>.fail
  | _=>.fail
 | .rp τ::r,ds=>match ds with
  | .vz _ x::ds=>match(jP x:Option (AM.den τ))with | some y=>(K4 r ds).bind λz=>.ret (y,z) | none=>.fail
  | _=>.fail
 | .pt b::r,ds=>match ds with
  | .ptr b' off::ds=>bif V b b'&&V off 0 then K4 r ds else .fail
  | _=>.fail
def Qz(st:St):(k:Dk)->D->T k.den
 | .qi τ,d=>.G0 (ov τ d)
 | .vz τ,d=>match d with | .vz _ x=>.G0 (jP x) | _=>.fail
 | .sub b e,d=>match d with
  | .ms b' vi e' off len=>bif V b b'&&decide (e=e')then .W (vi=jx st b) (.ret (off,len))else .fail
  | _=>.fail
 | .wi f caps,d=>match d with
  | .wi f' l=>bif V f f' then .G0 (M0 caps l)else .fail
  | _=>.fail
 | .st ks,d=>bif d.cG then oi st ks (xy d)else .fail
 | .mclo f ms,d=>match d with
  | .wi f' l=>bif V f f' then K4 ms l else .fail
  | _=>.fail
 | .mp,d=>match d with | .Bm l=>.ret l | _=>.fail
 | .so e,d=>match d with
  | .wF=>.ret ([],false)
  | .so e' l b=>match(jP (a:=.sl e') (b:=.sl e) l:Option (List (AM.den e)))with | some l=>.ret (l,b) | none=>.fail
  | _=>.fail
 | .tight e,d=>match d with
  | .wF=>.ret []
  | .tight e' l _=>.G0 (jP (a:=.sl e') (b:=.sl e) l)
  | _=>.fail
def Vq:List (Nat×Nat)->List D->Bool
 | [],[]=>true
 | p::r,.ptr b off::ds=>V p.1 b&&V p.2 off&&Vq r ds
 | _,_=>false
def UJ(st:St):Ck->D->T Unit
 | .ptr b off,d=>match d with | .ptr b' off'=>bif V b b'&&V off off' then .ret ()else .fail | _=>.fail
 | .cur b e,d=>match d with
  | .ms b' vi e' off len=>bif V b b'&&decide (e=e')then .W (zw vi off len (lv st b)) (.ret ())else .fail
  | _=>.fail
 | .wF,d=>match d with | .wF=>.ret () | _=>.fail
 | .gX,d=>match d with | .gX=>.ret () | _=>.fail
 | .v8,d=>match d with | .v8=>.ret () | _=>.fail
 | .wi f l,d=>match d with | .wi f' l'=>bif V f f'&&Vq l l' then .ret ()else .fail | _=>.fail
 | .yL b,d=>match d with | .yL b'=>bif V b b' then .ret ()else .fail | _=>.fail
 | .uT,d=>match d with | .uT=>.ret () | _=>.fail
def z90(fr:Fr)(st:St):List (Nat×Ck)->T Unit
 | []=>.ret ()
 | p::r=>match fr.get p.1 with
  | some d=>(UJ st p.2 d).bind λ_=>z90 fr st r
  | none=>.fail
def z2k(e:Ty)(b:cL):T (List (den e)):=match b with
 | .arr vi _ xs=>match(jP (a:=.sl _) (b:=.sl e) xs:Option (List (den e)))with
  | some ys=>.W (vi=ys.length) (.ret ys)
  | none=>.fail
 | _=>.fail
def Dk.plain:Dk->Bool
 | .qi _=>true
 | .vz _=>true
 | .st _=>true
 | .mp=>true
 | _=>false
def z2m(st:St)(k:Dk)(b:cL):T k.den:=match b with
 | .var d=>bif k.plain then Qz st k d else .fail
 | _=>.fail
def L9:cL->Bool | .var _=>true | _=>false
def Hl(st:St):List Bk->List cL->T (List cL)
 | [],_=>.ret []
 | .arr _::r,b::bl=>(Hl st r bl).bind λl=>.ret (b::l)
 | .var _::r,b::bl=>(Hl st r bl).bind λl=>.ret (b::l)
 | .cvar c::r,.var d::bl=>(UJ st c d).bind λ_=>Hl st r bl
 | .dead::r,b::bl=>bif L9 b then .fail else Hl st r bl
 | _,_=>.fail
def FG(fr:Fr)(st:St)(bl:List cL):(i:It)->T (i.den×List cL)
 | .s t k=>match fr.get t with | some d=>(Qz st k d).bind λx=>.ret (x,bl) | none=>.fail
 | .v k=>match bl with | b::r=>(z2m st k b).bind λx=>.ret (x,r) | []=>.fail
 | .a e=>match bl with | b::r=>(z2k e b).bind λx=>.ret (x,r) | []=>.fail
def Eb{α:Type}(x:α×List cL):T α:=match x.2 with | []=>.ret x.1 | _=>.fail
def BK(fr:Fr)(st:St):(l:List It)->List cL->T (jR l)
 | [],bl=>Eb ((),bl)
 | [i],bl=>(FG fr st bl i).bind Eb
 | i::j::r,bl=>(FG fr st bl i).bind λx=>(BK fr st (j::r) x.2).bind λy=>.ret (x.1,y)
def rowAt(bs:List Bk)(b:Nat):Bool:=match bs[b]? with | some (.arr _)=>true | _=>false
def UO(bs:List Bk)(b:Nat):Bool:=match bs[b]? with | some (.var _)=>true | some (.cvar _)=>true | _=>false
def z8z(bs:List Bk):Sk->Bool
 | .row b _=>rowAt bs b
 | .op b _=>UO bs b
 | _=>true
def zkS(bs:List Bk):Mc->Bool
 | .pt b=>UO bs b
 | _=>true
def Fg(bs:List Bk):Dk->Bool
 | .mclo _ ms=>ms.all (zkS bs)
 | .sub b _=>rowAt bs b
 | .st ks=>ks.all (z8z bs)
 | _=>true
def SD(bs:List Bk):Ck->Bool
 | .ptr b _=>UO bs b
 | .cur b _=>rowAt bs b
 | .wi _ l=>l.all λp=>UO bs p.1
 | .yL b=>UO bs b
 | _=>true
def zp6(bs:List Bk):It->Bool
 | .s _ k=>Fg bs k
 | .v k=>Fg bs k
 | .a _=>true
def zp5(bs:List Bk):Bk->Bool
 | .cvar c=>SD bs c
 | _=>true
def kinds:List It->List Bool
 | []=>[]
 | .s _ _::r=>kinds r
 | .v _::r=>false::kinds r
 | .a _::r=>true::kinds r
def eX:List Bk->List Bool->Bool
 | [],[]=>true
 | .arr _::bs,b::r=>b&&eX bs r
 | .var _::bs,b::r => !b&&eX bs r
 | .cvar _::bs,l=>eX bs l
 | .dead::bs,l=>eX bs l
 | _,_=>false
def uq.ok(s:uq):Bool:=eX s.bs (kinds s.fq)&&s.fq.all (zp6 s.bs)&&s.cs.all (λp=>SD s.bs p.2)&&s.bs.all (zp5 s.bs)
def uq.un(s:uq)(fr:Fr)(st:St):T s.den :=
 bif s.ok&&(st.take s.bs.length).all (C7 s.bs.length)then(z90 fr st s.cs).bind λ_=>(Hl st s.bs st).bind λbl=>BK fr st s.fq bl
 else .fail
structure Way where
 ex:Ex
 sh:uq
def fQ:List Way->Type
 | []=>Empty
 | [w]=>w.sh.den
 | w::v::r=>w.sh.den⊕fQ (v::r)
def ML{α:Type}:(l:List Way)->fQ l->(Ex->Fr->St->T α)->T α
 | [],x,_=>nomatch x
 | [w],x,k=>k w.ex (w.sh.fr x) (w.sh.st x)
 | w::v::r,x,k=>Sum.elim (λa=>k w.ex (w.sh.fr a) (w.sh.st a)) (λb=>ML (v::r) b k) x
def Xt:Ex->Ex->Bool
 | .normal,.normal=>true
 | .ret,.ret=>true
 | .exit a,.exit b=>V a b
 | .b9 (.iface t _),.b9 (.iface t' _)=>V t t'
 | _,_=>false
def GV:Ex->Fr->Fr
 | .b9 (.iface _ d),_=>[(0,some d)]
 | _,fr=>fr
def Ef:Ex->Fr->Option (Ex×Fr)
 | .b9 (.iface t _),fr=>match fr.get 0 with | some d=>some (.b9 (.iface t d),[]) | none=>none
 | .b9 _,_=>none
 | e,fr=>some (e,fr)
def CA:(l:List Way)->Ex->Fr->St->T (fQ l)
 | [],_,_,_=>.fail
 | [w],ex,fr,st=>bif Xt w.ex ex then w.sh.un fr st else .fail
 | w::v::r,ex,fr,st=>bif Xt w.ex ex then(w.sh.un fr st).bind λx=>.ret (.inl x)else(CA (v::r) ex fr st).bind λy=>.ret (.inr y)
end Go.AM
namespace Go.AM
set_option linter.unusedSectionVars false
variable [yY] [Hp]
section
variable {c:Ctx} {n:Nat}
theorem get_mem:∀ {l:Fr} {s:Nat} {d:D},l.get s=some d->(s,some d)∈l
 | [],s,d,h=>by cases h
 | (t,d')::r,s,d,h=>by
  simp only[Fr.get]at h
  cases ht:V t s with
  | true =>
   rw[ht,cond_true]at h
   rw[B ht,h]
   simp
  | false=>rw[ht,cond_false]at h; exact zI _ (get_mem h)
theorem get_append{l m:Fr}{s:Nat}{d:D}(h:(l++m).get s=some d):(s,some d)∈l\/m.get s=some d:=by
 induction l with
 | nil=>grind
 | cons p r ih =>
  obtain⟨t,d'⟩:=p
  simp only[qJ,Fr.get]at h
  cases ht:V t s with
  | true=>rw[ht,cond_true]at h; rw[B ht,h]; exact .inl zQ
  | false=>grind
structure Wk(Z Y:KS):Prop where
 w:Y.w=Z.w
 ok:Y.ok=Z.ok
 ph:Y.ph=Z.ph
 len:Y.st.length=Z.st.length
 var:∀ (b:Nat) (d:D),Z.st[b]? = some (cL.var d)->∃ d',Y.st[b]? = some (cL.var d')
 arr:∀ (b v:Nat) (e:Ty) (xs:List (den e)),Z.st[b]? = some (cL.arr v e xs)->Y.st[b]? = some (cL.arr v e xs)\/Y.st[b]? = some cL.dead
 arr':∀ (b v:Nat) (e:Ty) (xs:List (den e)),Y.st[b]? = some (cL.arr v e xs)->Z.st[b]? = some (cL.arr v e xs)
 dead:∀ (b:Nat),Z.st[b]? = some cL.dead->Y.st[b]? = some cL.dead
theorem Wk.ext{Z Y:KS}(h:Wk Z Y):Ext Z Y:=by
 refine⟨by rw[h.w],by rw[h.w],by rw[h.w],by rw[h.w]; exact zJ _,λk hk=>⟨by rw[h.ok]; exact hk,by rw[h.w]⟩,λk hk=>.inl (by rw[<- h.ok]; exact hk),
  λb blk m I=>.inl (by rw[<- h.ph]; exact I),λb d J=>⟨h.var b d J,by rw[h.ph]⟩,λb v0 e xs I => ?_,h.dead,by rw[h.len]; exact zJ _,λk _ _=>by rw[h.w]⟩
 rcases h.arr b v0 e xs I with g | g
 ·exact .inr ⟨v0,xs,g,zJ _,λ_=>⟨by rw[h.ph],rfl⟩⟩
 ·grind
theorem Wk.rd{Z Y:KS}(h:Wk Z Y){d:D}{v:Value}(J:RD Z d v):RD Y d v:=J.mono h.ext
theorem Wk.inv{Z Y:KS}(h:Wk Z Y)(hI:Inv Z)(hv:∀ (b:Nat) (d:D),Y.st[b]? = some (cL.var d)->pB Y b (.var d)):Inv Y:=by
 refine⟨by rw[h.ph,h.len]; exact hI.len,λk hk=>by rw[h.w]; exact hI.bN k (by rw[<- h.ok]; exact hk),λb blk m I => ?_,λb b' blk m m' I Ke=>hI.inj b b' blk m m' (by rw[<- h.ph]; exact I) (by rw[<- h.ph]; exact Ke),λb x N => ?_,hI.gl.mono h.ext.same⟩
 ·obtain⟨g1,g2⟩:=hI.apart b blk m (by rw[<- h.ph]; exact I)
  exact⟨by rw[h.w]; exact g1,λhk=>g2 (by rw[<- h.ok]; exact hk)⟩
 ·cases x with
  | dead=>trivial
  | var d=>grind
  | arr v e xs=>exact(hI.blk b _ (h.arr' b v e xs N)).mono h.ext (by rw[h.ph]) λblk m _=>by rw[h.w]
theorem Gx{p:UU}{d:D}{x:den p.ty}(h:PC p d=some x){Z:KS}{v:Value}(J:RD Z d v):RD Z (Bi p x) v:=by
 cases p with
 | rp τ =>
  cases d<;>simp only[PC]at h<;>try (cases h; done)
  obtain⟨e,N⟩:=wg h
  cases e
  cases N
  exact J
 | im τ=>exact mv J h
theorem K3{Z:KS}:∀ (l:List UU) (ds:List D) (x:fP l) (vs:List Value),M0 l ds=some x->wN Z ds vs->wN Z (ZQ l x) vs
 | [],[],x,vs,_,J=>by rw[J.we]; exact .nil
 | [],_::_,_,_,h,_=>nomatch h
 | [p],[],_,_,h,_=>nomatch h
 | [p],[d],x,vs,h,J=>by
  obtain⟨v,us,rfl,h1,M⟩:=J.cons_inv
  rw[M.we]
  exact .cons (Gx h h1) .nil
 | [p],_::_::_,_,_,h,_=>nomatch h
 | p::q::r,[],_,_,h,_=>nomatch h
 | p::q::r,d::ds,x,vs,h,J=>by
  obtain⟨y,hy,h⟩:=qL.1 h
  obtain⟨z,hz,h⟩:=qL.1 h
  cases h
  obtain⟨v,us,rfl,h1,M⟩:=J.cons_inv
  exact .cons (Gx hy h1) (K3 (q::r) ds z us hz M)
theorem Tu{Z:KS}{d:D}{v:Value}(J:RD Z d v)(ha:d.cG=true):∃ c,v=.agg c:=by
 cases J with
 | qi τ x cs h=>exact⟨cs.toArray,by unfold pk; rw[show τ.isAgg=true from ha]; rfl⟩
 | agg l vs R ho h=>simp
 | _=>cases ha
theorem z8A{Z:KS}{b T:Nat}{ds q:List D}{vs:List Value}(J:wN Z ds vs)(h:z2H Z.st b T ds=some q):∃ v us,vs=v::us/\RD Z (.en b T) v/\wN Z q us:=by
 unfold z2H at h
 split at h
 ·rename_i d0 T7
  split at h
  ·rename_i T' ds
   cases I:V T T' with
   | false=>grind
   | true =>
    rw[I]at h
    cases h
    obtain⟨v,us,rfl,g1,g2⟩:=J.cons_inv
    exact⟨v,us,rfl,by cases g1; exact .nk b T d0 T7,g2⟩
  ·rename_i b' T' ds
   cases I:V b b'&&V T T' with
   | false=>grind
   | true =>
    simp only[X]at I
    have e1:=B I.1
    have e2:=B I.2
    obtain⟨v,us,rfl,g1,g2⟩:=J.cons_inv
    grind
  ·cases h
 ·cases h
theorem Lr{st:St}{b T:Nat}{ds q:List D}(h:z2H st b T ds=some q):l9 ds=some T:=by
 unfold z2H at h
 split at h
 ·split at h
  ·rename_i T' ds
   cases I:V T T' with
   | false=>grind
   | true=>rw[B I]; rfl
  ·rename_i b' T' ds
   cases I:V b b'&&V T T' with
   | false=>grind
   | true =>
    simp only[X]at I
    rw[B I.2]; rfl
  ·cases h
 ·cases h
theorem z8h{Z:KS}{ds q:List D}{vs:List Value}(J:wN Z ds vs)(h:zcM ds=some q):∃ v us,vs=v::us/\RD Z .wF v/\wN Z q us:=by
 unfold zcM at h
 split at h
 ·cases h; exact J.cons_inv
 ·cases h
theorem z92{Z:KS}{ds q:List D}{vs:List Value}(J:wN Z ds vs)(h:zdm ds=some q):∃ v us,vs=v::us/\RD Z .WI v/\wN Z q us:=by
 unfold zdm at h
 split at h
 ·rename_i d ds
  cases I:d.one with
  | false=>grind
  | true =>
   rw[I]at h
   cases h
   obtain⟨v,us,rfl,g1,g2⟩:=J.cons_inv
   exact⟨v,us,rfl,.WI v (g1.KG I),g2⟩
 ·cases h
theorem mo{Z:KS}{ql:St}{bs:List Bk}(oF:∀ b,rowAt bs b=true->jx ql b=lv Z.st b):∀ (ks:List Sk) (ds:List D) (x:lO ks) (vs:List Value),ks.all (z8z bs)=true->(oi Z.st ks ds).leads x->wN Z ds vs ->
  wN Z (jf ql ks x) vs/\∀ d∈jf ql ks x,d.one=true
 | [],ds,x,vs,_,h,J=>by
  cases ds with
  | nil=>exact⟨J,λd hm=>by cases hm⟩
  | cons d r=>exact h.elim
 | .im τ::r,ds,x,vs,ho,h,J=>by
  simp only[oi]at h
  split at h
  ·rename_i p hp
   obtain⟨y,h1,M⟩:=T.zd.1 h
   cases M
   obtain⟨c1,c2,rfl,g1,g2⟩:=Wl τ J hp
   simp only[zF,X]at ho
   obtain⟨k1,k2⟩:=mo oF r p.2 y c2 ho.2 h1 g2
   refine⟨(QZ g1).append k1,λd hm => ?_⟩
   rcases zN.1 (show d∈flat τ p.1++jf ql r y from hm)with hm | hm
   ·exact ri τ _ d hm
   ·grind
  ·exact h.elim
 | .row b e::r,ds,x,vs,ho,h,J=>by
  cases ds with
  | nil=>exact h.elim
  | cons d ds =>
   cases d<;>simp only[oi]at h<;>try (exact h.elim)
   rename_i b' vi e' off len
   cases I:V b b'&&decide (e=e')with
   | false=>rw[I]at h; exact h.elim
   | true =>
    rw[I,cond_true]at h
    simp only[X,decide_eq_true_eq]at I
    obtain⟨⟨h1,M,h3⟩,h⟩:=h
    have:=B I.1
    obtain⟨-,rfl⟩:=I
    subst this
    obtain⟨v,us,rfl,g1,g2⟩:=J.cons_inv
    simp only[zF,X]at ho
    obtain⟨k1,k2⟩:=mo oF r ds x us ho.2 h g2
    have e1:jf ql (.row b e::r) x=.ms b vi e off len::jf ql r x:=by
     show D.ms b (jx ql b) e 0 (jx ql b)::_=_
     rw[oF b ho.1,h1,M,h3]
    rw[e1]
    refine⟨.cons g1 k1,λd hm => ?_⟩
    rcases zH.1 hm with rfl | hm
    ·rfl
    ·grind
 | .op b T::r,ds,x,vs,ho,h,J=>by
  simp only[zF,X]at ho
  simp only[oi]at h
  split at h
  ·rename_i q hq
   obtain⟨v,us,rfl,g0,g2⟩:=z8A J hq
   obtain⟨k1,k2⟩:=mo oF r q x us ho.2 h g2
   refine⟨show wN Z (D.en b T::jf ql r x) (v::us)from .cons g0 k1,λd hm => ?_⟩
   rcases zH.1 (show d∈D.en b T::jf ql r x from hm)with rfl | hm
   ·rfl
   ·grind
  ·exact h.elim
 | .un::r,ds,x,vs,ho,h,J=>by
  simp only[zF,X]at ho
  simp only[oi]at h
  split at h
  ·rename_i q hq
   obtain⟨v,us,rfl,g0,g2⟩:=z92 J hq
   obtain⟨k1,k2⟩:=mo oF r q x us ho.2 h g2
   refine⟨show wN Z (D.WI::jf ql r x) (v::us)from .cons g0 k1,λd hm => ?_⟩
   rcases zH.1 (show d∈D.WI::jf ql r x from hm)with rfl | hm
   ·rfl
   ·grind
  ·exact h.elim
 | .nl::r,ds,x,vs,ho,h,J=>by
  simp only[zF,X]at ho
  simp only[oi]at h
  split at h
  ·rename_i q hq
   obtain⟨v,us,rfl,g0,g2⟩:=z8h J hq
   obtain⟨k1,k2⟩:=mo oF r q x us ho.2 h g2
   refine⟨show wN Z (D.wF::jf ql r x) (v::us)from .cons g0 k1,λd hm => ?_⟩
   rcases zH.1 (show d∈D.wF::jf ql r x from hm)with rfl | hm
   ·rfl
   ·grind
  ·exact h.elim
theorem Z3{st ql:St}{bs:List Bk}(h:∀ b,rowAt bs b=true->jx st b=jx ql b):∀ (ks:List Sk) (x:lO ks),ks.all (z8z bs)=true->jf st ks x=jf ql ks x
 | [],_,_=>rfl
 | .im τ::r,x,ho=>by
  simp only[zF,X]at ho
  show flat τ x.1++jf st r x.2=flat τ x.1++jf ql r x.2
  rw[Z3 h r x.2 ho.2]
 | .row b e::r,x,ho=>by
  simp only[zF,X]at ho
  show D.ms b (jx st b) e 0 (jx st b)::jf st r x=D.ms b (jx ql b) e 0 (jx ql b)::jf ql r x
  rw[Z3 h r x ho.2,h b ho.1]
 | .op b T::r,x,ho=>by
  simp only[zF,X]at ho
  show D.en b T::jf st r x=D.en b T::jf ql r x
  rw[Z3 h r x ho.2]
 | .un::r,x,ho=>by
  simp only[zF,X]at ho
  show D.WI::jf st r x=D.WI::jf ql r x
  rw[Z3 h r x ho.2]
 | .nl::r,x,ho=>by
  simp only[zF,X]at ho
  show D.wF::jf st r x=D.wF::jf ql r x
  rw[Z3 h r x ho.2]
theorem Yg:∀ (τ:Ty) (x:den τ),∀ y∈flat τ x,∃ σ z,y=.qi σ z:=by
 intro τ x y hy
 induction τ with
 | cons a b ia ib =>
  simp only[flat]at hy
  grind
 | nil=>simp[flat]at hy
 | expr=>simp[flat]at hy; rcases hy with rfl | rfl | rfl | rfl | rfl | rfl<;>exact⟨_,_,rfl⟩
 | _=>simp[flat]at hy; subst hy; exact⟨_,_,rfl⟩
theorem Dh:∀ (τ:Ty) {ds:List D} {p:den τ×List D},cK τ ds=some p->τ.size=0->p.2=ds:=by
 intro τ
 induction τ with
 | nil=>intro ds p h _; simp only[cK,Option.some.injEq]at h; subst h; rfl
 | cons a b ia ib =>
  intro ds p h hz
  simp only[Ty.size]at hz
  simp only[cK]at h
  grind
 | _=>nofun
theorem JN{st ql:St}{tt:Nat}:∀ (ks:List Sk) (ds:List D) (x:lO ks),(oi st ks ds).leads x->l9 (jf ql ks x)=some tt->l9 ds=some tt
 | [],ds,x,h,ht=>by cases ht
 | .im τ::r,ds,x,h,ht=>by
  simp only[oi]at h
  split at h
  ·rename_i p hp
   obtain⟨y,h1,M⟩:=T.zd.1 h
   cases M
   have ht':l9 (flat τ p.1++jf ql r y)=some tt:=ht
   cases hf:flat τ p.1 with
   | nil =>
    rw[hf]at ht'
    have hz:τ.size=0:=by rw[<- VY τ p.1,hf]; rfl
    have:=Dh τ hp hz
    rw[<- this]
    exact JN r p.2 y h1 ht'
   | cons z zs =>
    rw[hf]at ht'
    obtain⟨σ,w,e⟩:=Yg τ p.1 z (xz)
    rw[e]at ht'
    cases ht'
  ·exact h.elim
 | .row b e::r,ds,x,h,ht=>by cases ht
 | .op b T'::r,ds,x,h,ht=>by
  simp only[oi]at h
  split at h
  ·rename_i q hq
   cases ht
   exact Lr hq
  ·exact h.elim
 | .un::r,ds,x,h,ht=>by cases ht
 | .nl::r,ds,x,h,ht=>by cases ht
theorem K2{d:D}{T:Nat}(ha:d.cG=true)(h:l9 (xy d)=some T):d.typed=some T:=by
 cases d with
 | qi τ x =>
  simp only[xy]at h
  cases hf:flat τ x with
  | nil=>rw[hf]at h; cases h
  | cons z zs =>
   obtain⟨σ,w,e⟩:=Yg τ x z (xz)
   rw[hf,e]at h
   cases h
 | agg l=>exact h
 | _=>cases ha
theorem Cn{m:Nat}(τ:Ty)(x:den τ):∀ d∈flat τ x,ya m d=true:=λd J=>by
 obtain⟨σ,z,rfl⟩:=Yg τ x d J
 rfl
theorem bZ{m:Nat}{st:St}{bs:List Bk}(I:∀ b,rowAt bs b=true->b<m)(RM:∀ b,UO bs b=true->b<m):∀ (ks:List Sk) (x:lO ks),ks.all (z8z bs)=true->∀ d∈jf st ks x,ya m d=true
 | [],_,_,d,J=>by cases J
 | .im τ::r,x,ho,d,J=>by
  simp only[zF,X]at ho
  rcases zN.1 (show d∈flat τ x.1++jf st r x.2 from J)with J | J
  ·exact Cn τ _ d J
  ·exact bZ I RM r x.2 ho.2 d J
 | .row b e::r,x,ho,d,J=>by
  simp only[zF,X]at ho
  rcases zH.1 (show d∈D.ms b (jx st b) e 0 (jx st b)::jf st r x from J)with rfl | J
  ·have:=I b ho.1
   simp only[ya,zO,zU]; exact this
  ·exact bZ I RM r x ho.2 d J
 | .op b T::r,x,ho,d,J=>by
  simp only[zF,X]at ho
  rcases zH.1 (show d∈D.en b T::jf st r x from J)with rfl | J
  ·have:=RM b ho.1
   simp only[ya,zO,zU]; exact this
  ·exact bZ I RM r x ho.2 d J
 | .un::r,x,ho,d,J=>by
  simp only[zF,X]at ho
  rcases zH.1 (show d∈D.WI::jf st r x from J)with rfl | J
  ·rfl
  ·exact bZ I RM r x ho.2 d J
 | .nl::r,x,ho,d,J=>by
  simp only[zF,X]at ho
  rcases zH.1 (show d∈D.wF::jf st r x from J)with rfl | J
  ·rfl
  ·exact bZ I RM r x ho.2 d J
theorem Wj{Z:KS}:∀ (ms:List Mc) (ds:List D) (x:Zr ms) (vs:List Value),(K4 ms ds).leads x->wN Z ds vs->wN Z (Wx ms x) vs
 | [],ds,x,vs,h,J=>by
  cases ds with
  | nil=>exact J
  | cons d r=>exact h.elim
 | .im τ::r,ds,x,vs,h,J=>by
  cases ds with
  | nil=>exact h.elim
  | cons d ds =>
   simp only[K4]at h
   split at h
   ·rename_i y hy
    obtain⟨z,h1,M⟩:=T.zd.1 h
    cases M
    obtain⟨v,us,rfl,g1,g2⟩:=J.cons_inv
    exact .cons (mv g1 hy) (Wj r ds z us h1 g2)
   ·exact h.elim
 | .rp τ::r,ds,x,vs,h,J=>by
  cases ds with
  | nil=>exact h.elim
  | cons d ds =>
   cases d<;>simp only[K4]at h<;>try (exact h.elim)
   split at h
   ·rename_i y hy
    obtain⟨e,N⟩:=wg hy
    cases e
    cases N
    obtain⟨z,h1,M⟩:=T.zd.1 h
    cases M
    obtain⟨v,us,rfl,g1,g2⟩:=J.cons_inv
    exact .cons g1 (Wj r ds z us h1 g2)
   ·exact h.elim
 | .pt b::r,ds,x,vs,h,J=>by
  cases ds with
  | nil=>exact h.elim
  | cons d ds =>
   cases d<;>simp only[K4]at h<;>try (exact h.elim)
   rename_i b' off
   cases I:V b b'&&V off 0 with
   | false=>rw[I]at h; exact h.elim
   | true =>
    rw[I]at h
    simp only[X]at I
    have e1:=B I.1
    have e2:=B I.2
    subst e1 e2
    obtain⟨v,us,rfl,g1,g2⟩:=J.cons_inv
    exact .cons g1 (Wj r ds x us h g2)
theorem oG{m:Nat}{bs:List Bk}(I:∀ b,UO bs b=true->b<m):∀ (ms:List Mc) (x:Zr ms),ms.all (zkS bs)=true->∀ d∈Wx ms x,ya m d=true
 | [],_,_,d,J=>by cases J
 | .im τ::r,x,ho,d,J=>by
  simp only[zF,X]at ho
  rcases zH.1 (show d∈D.qi τ x.1::Wx r x.2 from J)with rfl | J
  ·rfl
  ·exact oG I r x.2 ho.2 d J
 | .rp τ::r,x,ho,d,J=>by
  simp only[zF,X]at ho
  rcases zH.1 (show d∈D.vz τ x.1::Wx r x.2 from J)with rfl | J
  ·rfl
  ·exact oG I r x.2 ho.2 d J
 | .pt b::r,x,ho,d,J=>by
  simp only[zF,X]at ho
  rcases zH.1 (show d∈D.ptr b 0::Wx r x from J)with rfl | J
  ·have:=I b ho.1
   simp only[ya,zO,zU]; exact this
  ·exact oG I r x ho.2 d J
theorem Df{Z Y:KS}(hw:Wk Z Y){k:Dk}{d:D}{x:k.den}{v:Value}{bs:List Bk}(j3:Fg bs k=true)(oF:∀ b,rowAt bs b=true->jx Y.st b=jx Z.st b)
  {ql:St} (vX:∀ b,rowAt bs b=true->jx ql b=jx Y.st b) (hlen:∀ b,rowAt bs b=true->jx Z.st b=lv Z.st b) (h:(Qz Z.st k d).leads x) (J:RD Z d v):RD Y (Qx ql k x) v:=by
 cases k with
 | mp=>cases d<;>first | exact h.elim | exact absurd J.z2q nofun
 | so e =>
  cases d<;>simp only[Qz]at h<;>try (exact h.elim)
  ·split at h
   ·rename_i e' l b l' R
    cases h
    obtain⟨he,N⟩:=wg R
    cases he
    cases N
    exact hw.rd J
   ·exact h.elim
  ·cases h
   cases J
   exact .so e [] false _ (.lA e none) nofun λ_=>rfl
 | tight e =>
  cases d<;>simp only[Qz]at h<;>try (exact h.elim)
  ·rename_i e' l ne
   obtain⟨he,N⟩:=wg (T.yu.1 h)
   cases he
   cases N
   cases hw.rd J with
   | vy e a=>exact .vy e a
   | tight e l ne blk off f jZ j3 h1 hc=>exact .tight e l false blk off f nofun j3 h1 hc
  ·cases h
   cases J
   exact .vy e none
 | qi τ=>exact hw.rd (mv J (T.yu.1 h))
 | vz τ =>
  cases d<;>simp only[Qz]at h<;>try (exact h.elim)
  obtain⟨e,N⟩:=wg (T.yu.1 h)
  cases e
  cases N
  exact hw.rd J
 | sub b e =>
  cases d<;>simp only[Qz]at h<;>try (exact h.elim)
  rename_i b' vi e' off len
  cases I:V b b'&&decide (e=e')with
  | false=>rw[I]at h; exact h.elim
  | true =>
   rw[I,cond_true]at h
   simp only[X,decide_eq_true_eq]at I
   obtain⟨hv,h⟩:=h
   cases h
   have:=B I.1
   obtain⟨-,rfl⟩:=I
   subst this
   simp only[Qx]
   rw[vX b j3,oF b j3,<- hv]
   exact hw.rd J
 | wi f caps =>
  cases d<;>simp only[Qz]at h<;>try (exact h.elim)
  rename_i f' l
  cases I:V f f' with
  | false=>rw[I]at h; exact h.elim
  | true =>
   rw[I,cond_true]at h
   have:=B I
   subst this
   have N:=T.yu.1 h
   cases J with
   | wi _ _ vs R hh =>
    have:=K3 caps l x vs N (⟨R,hh⟩:wN Z l vs)
    exact hw.rd (.wi f _ vs this.1 this.2)
 | st ks =>
  simp only[Qz]at h
  cases ha:d.cG with
  | false=>rw[ha]at h; exact h.elim
  | true =>
   rw[ha]at h
   have ht:d.bB=false:=by cases d<;>first | rfl | (simp[D.cG]at ha)
   obtain⟨g1,g2⟩:=mo (ql:=ql) (λb I=>(vX b I).trans ((oF b I).trans (hlen b I))) ks (xy d) x _ j3 h (cz J ht)
   obtain⟨c,hc⟩:=Tu J ha
   subst hc
   have g1':wN Z (jf ql ks x) c.toList:=g1
   have:=RD.agg (Z:=Z) _ c.toList g1'.1 g2 g1'.2
   exact hw.rd (show RD Z (.agg (jf ql ks x)) (.agg c) by simpa using this)
 | mclo f ms =>
  cases d<;>simp only[Qz]at h<;>try (exact h.elim)
  rename_i f' l
  cases I:V f f' with
  | false=>rw[I]at h; exact h.elim
  | true =>
   rw[I]at h
   have:=B I
   subst this
   cases J with
   | wi _ _ vs R hh =>
    have:=Wj ms l x vs h (⟨R,hh⟩:wN Z l vs)
    exact hw.rd (show RD Z (.wi f (Wx ms x)) _ from .wi f _ vs this.1 this.2)
theorem Bw:∀ {l:List (Nat×Nat)} {ds:List D},Vq l ds=true->ds=l.map λp=>.ptr p.1 p.2
 | [],[],_=>rfl
 | [],_::_,h=>by simp[Vq]at h
 | p::r,[],h=>by simp[Vq]at h
 | p::r,d::ds,h=>by
  cases d<;>simp only[Vq]at h<;>try (cases h; done)
  simp only[X]at h
  rw[Bw h.2,<- B h.1.1,<- B h.1.2]
  rfl
theorem z8Z{st ql:St}{ck:Ck}{d:D}{bs:List Bk}(j3:SD bs ck=true)(oF:∀ b,rowAt bs b=true->jx ql b=lv st b)(h:(UJ st ck d).leads ()):F6 ql ck=d:=by
 cases ck with
 | ptr b off =>
  cases d<;>simp only[UJ]at h<;>try (exact h.elim)
  rename_i b' off'
  cases I:V b b'&&V off off' with
  | false=>rw[I]at h; exact h.elim
  | true =>
   simp only[X]at I
   rw[<- B I.1,<- B I.2]
   rfl
 | cur b e =>
  cases d<;>simp only[UJ]at h<;>try (exact h.elim)
  rename_i b' vi e' off len
  cases I:V b b'&&decide (e=e')with
  | false=>rw[I]at h; exact h.elim
  | true =>
   rw[I,cond_true]at h
   simp only[X,decide_eq_true_eq]at I
   obtain⟨⟨h1,M,h3⟩,_⟩:=h
   have:=B I.1
   obtain⟨-,rfl⟩:=I
   subst this
   simp only[F6]
   rw[oF b j3,h1,M,h3]
 | wF=>cases d<;>simp only[UJ]at h<;>first | rfl | exact h.elim
 | gX=>cases d<;>simp only[UJ]at h<;>first | rfl | exact h.elim
 | v8=>cases d<;>simp only[UJ]at h<;>first | rfl | exact h.elim
 | uT=>cases d<;>simp only[UJ]at h<;>first | rfl | exact h.elim
 | yL b =>
  cases d<;>simp only[UJ]at h<;>try (exact h.elim)
  rename_i b'
  cases I:V b b' with
  | false=>rw[I]at h; exact h.elim
  | true=>rw[<- B I]; rfl
 | wi f l =>
  cases d<;>simp only[UJ]at h<;>try (exact h.elim)
  rename_i f' l'
  cases I:V f f'&&Vq l l' with
  | false=>rw[I]at h; exact h.elim
  | true =>
   simp only[X]at I
   rw[<- B I.1,Bw I.2]
   rfl
theorem FF{fr:Fr}{st:St}:∀ {cs:List (Nat×Ck)},(z90 fr st cs).leads ()->∀ p∈cs,∃ d,fr.get p.1=some d/\(UJ st p.2 d).leads ()
 | [],_,p,hp=>by cases hp
 | q::r,h,p,hp=>by
  simp only[z90]at h
  split at h
  ·rename_i d J
   simp only[T.xg]at h
   obtain⟨⟨⟩,h1,M⟩:=h
   rcases zH.1 hp with rfl | hp
   ·grind
   ·exact FF M p hp
  ·exact h.elim
def R6(p:Dk->Bool)(st:St):List cL->List Bd->Prop
 | [],[]=>True
 | b::bl,.a e xs::r=>b=.arr xs.length e xs/\R6 p st bl r
 | b::bl,.v k x::r=>(∃ d,b=.var d/\(k.plain=true/\p k=true)/\(Qz st k d).leads x)/\R6 p st bl r
 | _,_=>False
theorem z2l{e:Ty}{b:cL}{x:List (den e)}(h:(z2k e b).leads x):b=.arr x.length e x:=by
 unfold z2k at h
 split at h
 ·split at h
  ·rename_i ys hy
   obtain⟨h1,M⟩:=h
   cases M
   obtain⟨he,N⟩:=wg hy
   grind
  ·exact h.elim
 ·exact h.elim
theorem z2n{st:St}{k:Dk}{b:cL}{x:k.den}(h:(z2m st k b).leads x):∃ d,b=.var d/\k.plain=true/\(Qz st k d).leads x:=by
 cases b with
 | var d =>
  simp only[z2m]at h
  cases hp:k.plain with
  | false=>rw[hp]at h; exact h.elim
  | true=>grind
 | _=>exact h.elim
def GW(st:St):(i:It)->i.den->Fr
 | .s t k,x=>[(t,some (Qx st k x))]
 | .v _,_=>[]
 | .a _,_=>[]
def TA:(i:It)->i.den->List Bd
 | .s _ _,_=>[]
 | .v k,x=>[.v k x]
 | .a e,x=>[.a e x]
theorem YU(st:St)(i:It)(x:i.den):ng st [i] x=GW st i x:=by cases i<;>rfl
theorem Jj(st:St)(i j:It)(r:List It)(x:i.den×jR (j::r)):ng st (i::j::r) x=GW st i x.1++ng st (j::r) x.2:=by cases i<;>rfl
theorem z2h(i:It)(x:i.den):Z2 [i] x=TA i x:=by cases i<;>rfl
theorem SA(i j:It)(r:List It)(x:i.den×jR (j::r)):Z2 (i::j::r) x=TA i x.1++Z2 (j::r) x.2:=by cases i<;>rfl
def ze0(fr:Fr)(st ql:St)(l:List It)(p:Nat×Option D):Prop:=∃ (k:Dk) (y:k.den) (d:D),(It.s p.1 k)∈l/\fr.get p.1=some d/\(Qz st k d).leads y/\p.2=some (Qx ql k y)
theorem PD{p:Dk->Bool}{fr:Fr}{st ql:St}{bl:List cL}{i:It}{x:i.den×List cL}(hp:∀ k,i=.v k->p k=true)(h:(FG fr st bl i).leads x) :
  (∀ bd,R6 p st x.2 bd->R6 p st bl (TA i x.1++bd))/\∀ p∈GW ql i x.1,ze0 fr st ql [i] p:=by
 cases i with
 | s t k =>
  simp only[FG]at h
  split at h
  ·rename_i d J
   rw[T.xg]at h
   obtain⟨y,h1,rfl⟩:=h
   refine⟨λbd I=>I,λp hp => ?_⟩
   simp only[GW,zL]at hp
   subst hp
   exact⟨k,y,d,qz,J,h1,rfl⟩
  ·exact h.elim
 | v k =>
  cases bl with
  | nil=>exact h.elim
  | cons b r =>
   simp only[FG]at h
   rw[T.xg]at h
   obtain⟨y,h1,rfl⟩:=h
   obtain⟨d,q1,q2,q3⟩:=z2n h1
   exact⟨λbd I=>⟨⟨d,q1,⟨q2,hp k rfl⟩,q3⟩,I⟩,λp hp=>by cases hp⟩
 | a e =>
  cases bl with
  | nil=>exact h.elim
  | cons b r =>
   simp only[FG]at h
   rw[T.xg]at h
   obtain⟨y,h1,rfl⟩:=h
   exact⟨λbd I=>⟨z2l h1,I⟩,λp hp=>by cases hp⟩
theorem Ec{α:Type}{x:α×List cL}{y:α}(h:(Eb x).leads y):x=(y,[]):=by
 obtain⟨a,bl⟩:=x
 cases bl with
 | nil=>cases h; rfl
 | cons=>exact h.elim
theorem UK{p:Dk->Bool}{fr:Fr}{st ql:St}:∀ (l:List It) (bl:List cL) (x:jR l),(∀ k,It.v k∈l->p k=true)->(BK fr st l bl).leads x ->
  R6 p st bl (Z2 l x)/\∀ p∈ng ql l x,ze0 fr st ql l p
 | [],bl,x,_,h=>by
  have h':(Eb ((),bl)).leads x:=h
  have:=Ec h'
  cases this
  exact⟨trivial,λp hp=>by cases hp⟩
 | [i],bl,x,hp,h=>by
  have h':((FG fr st bl i).bind Eb).leads x:=h
  obtain⟨y,h1,M⟩:=T.zd.1 h'
  have:=Ec M
  subst this
  obtain⟨g1,g2⟩:=PD (p:=p) (ql:=ql) (λk hk=>hp k (xz)) h1
  have e1:Z2 [i] x=TA i x:=z2h i x
  have e2:ng ql [i] x=GW ql i x:=YU ql i x
  have:=g1 [] trivial
  grind
 | i::j::r,bl,x,hp,h=>by
  have h':((FG fr st bl i).bind λx=>(BK fr st (j::r) x.2).bind λy=>T.ret (x.1,y)).leads x:=h
  obtain⟨y,h1,M⟩:=T.zd.1 h'
  obtain⟨z,h3,h4⟩:=T.zd.1 M
  cases h4
  obtain⟨g1,g2⟩:=PD (p:=p) (ql:=ql) (λk hk=>hp k (xz)) h1
  obtain⟨k1,k2⟩:=UK (p:=p) (ql:=ql) (j::r) y.2 z (λk hk=>hp k (zI _ hk)) h3
  have e1:Z2 (i::j::r) (y.1,z)=TA i y.1++Z2 (j::r) z:=SA i j r (y.1,z)
  have e2:ng ql (i::j::r) (y.1,z)=GW ql i y.1++ng ql (j::r) z:=Jj ql i j r (y.1,z)
  rw[e1,e2]
  refine⟨g1 _ k1,λp hp => ?_⟩
  rcases zN.1 hp with hp | hp
  ·obtain⟨k,w,d,q1,q2⟩:=g2 p hp
   exact⟨k,w,d,xz,q2⟩
  ·obtain⟨k,w,d,q1,q2⟩:=k2 p hp
   exact⟨k,w,d,zI _ q1,q2⟩
inductive Ho(p:Dk->Bool)(st ql:St):Bk->cL->cL->Prop
 | arr (e e':Ty) (xs:List (den e)):Ho p st ql (.arr e') (.arr xs.length e xs) (.arr xs.length e xs)
 | var (k k':Dk) (d:D) (x:k.den) (hp:k.plain=true/\p k=true) (h:(Qz st k d).leads x):Ho p st ql (.var k') (.var d) (.var (Qx ql k x))
 | cvar (ck:Ck) (d:D) (h:(UJ st ck d).leads ()):Ho p st ql (.cvar ck) (.var d) (.var (F6 ql ck))
 | dead (b:cL) (h:L9 b=false):Ho p st ql .dead b .dead
def mr:List Bd->List Bool
 | []=>[]
 | .v _ _::r=>false::mr r
 | .a _ _::r=>true::mr r
theorem ZP:∀ (l:List It) (x:jR l),mr (Z2 l x)=kinds l
 | [],_=>rfl
 | [.s _ _],_=>rfl
 | [.v _],_=>rfl
 | [.a _],_=>rfl
 | .s _ _::j::r,x=>ZP (j::r) x.2
 | .v _::j::r,x=>congrArg (false :: ·) (ZP (j::r) x.2)
 | .a _::j::r,x=>congrArg (true :: ·) (ZP (j::r) x.2)
theorem UI{p:Dk->Bool}{st st0:St}:∀ {bs:List Bk} {blocks bl:List cL} {bd:List Bd},(Hl st bs blocks).leads bl->R6 p st bl bd->eX bs (mr bd)=true ->
  (jD st0 bs bd).length=bs.length/\(∀ b,rowAt bs b=true->jx (fx bs bd) b=lv blocks b/\jx (jD st0 bs bd) b=lv blocks b/\jx blocks b=lv blocks b) /\
  ∀ (i:Nat) (k:Bk),bs[i]? = some k->∃ zA B',blocks[i]? = some zA/\(jD st0 bs bd)[i]? = some B'/\Ho p st st0 k zA B'
 | [],blocks,bl,bd,h,I,ho=>by
  refine⟨by simp[jD],λb I=>by simp[rowAt]at I,λi k hk=>by simp at hk⟩
 | k::r,[],bl,bd,h,I,ho=>by cases k<;>exact h.elim
 | .arr e::r,b::blocks,bl,bd,h,I,ho=>by
  simp only[Hl,T.xg]at h
  obtain⟨l,h1,rfl⟩:=h
  cases bd with
  | nil=>exact I.elim
  | cons q bd =>
   cases q with
   | v k x=>simp[mr,eX]at ho
   | a e' xs =>
    obtain⟨rfl,Ew⟩:=I
    simp only[mr,eX,Bool.true_and]at ho
    obtain⟨g1,g2,g3⟩:=UI (st0:=st0) h1 Ew ho
    refine⟨by simp[jD,g1],λb I => ?_,λi k hk => ?_⟩
    ·cases b with
     | zero=>simp[fx,jD,jx,zl8,lv]
     | succ b=>have:=g2 b (by simpa[rowAt]using I); simpa[fx,jD,jx,lv]using this
    ·cases i with
     | zero=>simp at hk; subst hk; exact⟨_,_,rfl,rfl,.arr e' e xs⟩
     | succ i=>simpa[jD]using g3 i k (by simpa using hk)
 | .var k0::r,b::blocks,bl,bd,h,I,ho=>by
  simp only[Hl,T.xg]at h
  obtain⟨l,h1,rfl⟩:=h
  cases bd with
  | nil=>exact I.elim
  | cons q bd =>
   cases q with
   | a e' xs=>simp[mr,eX]at ho
   | v k x =>
    obtain⟨⟨d,rfl,hp,J⟩,Ew⟩:=I
    simp only[mr,eX,Bool.not_false,Bool.true_and]at ho
    obtain⟨g1,g2,g3⟩:=UI (st0:=st0) h1 Ew ho
    refine⟨by simp[jD,g1],λb I => ?_,λi k hk => ?_⟩
    ·cases b with
     | zero=>simp[rowAt]at I
     | succ b=>have:=g2 b (by simpa[rowAt]using I); simpa[fx,jD,jx,lv]using this
    ·cases i with
     | zero=>simp at hk; subst hk; exact⟨_,_,rfl,rfl,.var k k0 d x hp J⟩
     | succ i=>simpa[jD]using g3 i k (by simpa using hk)
 | .cvar ck::r,b::blocks,bl,bd,h,I,ho=>by
  cases b with
  | var d =>
   simp only[Hl,T.xg]at h
   obtain⟨⟨⟩,h0,h1⟩:=h
   have ho':eX r (mr bd)=true:=by cases bd<;>simpa[eX]using ho
   obtain⟨g1,g2,g3⟩:=UI (st0:=st0) h1 I ho'
   have e1:jD st0 (.cvar ck::r) bd=.var (F6 st0 ck)::jD st0 r bd:=by cases bd<;>rfl
   have e0:fx (.cvar ck::r) bd=.dead::fx r bd:=by cases bd<;>rfl
   rw[e0,e1]
   refine⟨by simp[g1],λb I => ?_,λi k hk => ?_⟩
   ·cases b with
    | zero=>simp[rowAt]at I
    | succ b=>have:=g2 b (by simpa[rowAt]using I); simpa[jx,lv]using this
   ·cases i with
    | zero=>simp at hk; subst hk; exact⟨_,_,rfl,rfl,.cvar ck d h0⟩
    | succ i=>grind
  | _=>exact h.elim
 | .dead::r,b::blocks,bl,bd,h,I,ho=>by
  simp only[Hl]at h
  cases hv:L9 b with
  | true=>rw[hv]at h; exact h.elim
  | false =>
   rw[hv,cond_false]at h
   have ho':eX r (mr bd)=true:=by cases bd<;>simpa[eX]using ho
   obtain⟨g1,g2,g3⟩:=UI (st0:=st0) h I ho'
   have e1:jD st0 (.dead::r) bd=.dead::jD st0 r bd:=by cases bd<;>rfl
   have e0:fx (.dead::r) bd=.dead::fx r bd:=by cases bd<;>rfl
   rw[e0,e1]
   refine⟨by simp[g1],λb I => ?_,λi k hk => ?_⟩
   ·cases b with
    | zero=>simp[rowAt]at I
    | succ b=>have:=g2 b (by simpa[rowAt]using I); simpa[jx,lv]using this
   ·cases i with
    | zero=>simp at hk; subst hk; exact⟨_,_,rfl,rfl,.dead b hv⟩
    | succ i=>grind
inductive Refs(m:Nat):D->Prop
 | qi (τ:Ty) (x:AM.den τ):Refs m (.qi τ x)
 | tight (e:Ty) (l:List (AM.den e)) (ne:Bool):Refs m (.tight e l ne)
 | so (e:Ty) (l:List (AM.den e)) (b:Bool):Refs m (.so e l b)
 | wF:Refs m .wF
 | gX:Refs m .gX
 | v8:Refs m .v8
 | gj:Refs m .gj
 | uT:Refs m .uT
 | WI:Refs m .WI
 | mP (T:Nat):Refs m (.mP T)
 | en (b T:Nat) (h:b<m):Refs m (.en b T)
 | yL (b:Nat) (h:b<m):Refs m (.yL b)
 | ptr (b off:Nat) (h:b<m):Refs m (.ptr b off)
 | vz (τ:Ty) (x:AM.den τ):Refs m (.vz τ x)
 | gJ (b vi:Nat) (e:Ty) (idx off:Nat) (h:b<m):Refs m (.gJ b vi e idx off)
 | ms (b vi:Nat) (e:Ty) (off len:Nat) (h:b<m):Refs m (.ms b vi e off len)
 | wi (f:Nat) (l:List D) (h:∀ i (hi:i<l.length),Refs m l[i]):Refs m (.wi f l)
 | agg (l:List D) (h:∀ i (hi:i<l.length),Refs m l[i]):Refs m (.agg l)
 | eG (l:List D) (h:∀ i (hi:i<l.length),Refs m l[i]):Refs m (.eG l)
 | iface (t:Nat) (d:D) (h:Refs m d):Refs m (.iface t d)
theorem Refs.mono{m m':Nat}(hm:m<=m'){d:D}(h:Refs m d):Refs m' d:=by
 induction h with
 | ptr b off h=>exact .ptr b off (O)
 | en b T h=>exact .en b T (O)
 | yL b h=>exact .yL b (O)
 | gJ b vi e idx off h=>exact .gJ b vi e idx off (O)
 | ms b vi e off len h=>exact .ms b vi e off len (O)
 | wi f l h ih=>exact .wi f l ih
 | agg l h ih=>exact .agg l ih
 | eG l h ih=>exact .eG l ih
 | iface t d h ih=>exact .iface t d ih
 | _=>constructor
theorem z8K{Z:KS}{m:Nat}{d:D}{v:Value}(h:RD Z d v)(hr:Refs m d):RD (Z.cut m) d v:=by
 induction h with
 | qi τ y cs h=>exact .qi τ y cs h
 | so e l b v h ht hf=>exact .so e l b v h ht hf
 | vy e a=>exact .vy e a
 | tight e l ne blk off f jZ j3 h hc=>exact .tight e l ne blk off f jZ j3 h hc
 | wF=>exact .wF
 | gX=>exact .gX
 | v8=>exact .v8
 | gj=>exact .gj
 | uT=>exact .uT
 | WI v h=>exact .WI v h
 | mP T=>exact .mP T
 | nk b T d I=>cases hr with | en _ _ wM=>exact mK (.nk b T d I) (by simp only[ya,zO,zU]; exact wM)
 | yL b blk n d I h=>cases hr with | yL _ wM=>exact mK (.yL b blk n d I h) (by simp only[ya,zO,zU]; exact wM)
 | nn b T blk n d I h=>cases hr with | en _ _ wM=>exact mK (.nn b T blk n d I h) (by simp only[ya,zO,zU]; exact wM)
 | ptr b off blk n d I h=>cases hr with | ptr _ _ wM=>exact mK (.ptr b off blk n d I h) (by simp only[ya,zO,zU]; exact wM)
 | vz τ y cs blk off j3 h hc=>exact .vz τ y cs blk off j3 h hc
 | gJ b vi e idx off blk o I h=>cases hr with | gJ _ _ _ _ _ wM=>exact mK (.gJ b vi e idx off blk o I h) (by simp only[ya,zO,zU]; exact wM)
 | ms b vi e off len cap a I jg ha Ws h=>cases hr with | ms _ _ _ _ _ wM=>exact mK (.ms b vi e off len cap a I jg ha Ws h) (by simp only[ya,zO,zU]; exact wM)
 | wi f l vs R h ih=>cases hr with | wi _ _ hh=>exact .wi f l vs R λi h1 M=>ih i h1 M (hh i h1)
 | agg l vs R ho h ih=>cases hr with | agg _ hh=>exact .agg l vs R ho λi h1 M=>ih i h1 M (hh i h1)
 | eG l vs R h ih=>cases hr with | eG _ hh=>exact .eG l vs R λi h1 M=>ih i h1 M (hh i h1)
 | iface t d v h ih=>cases hr with | iface _ _ hh=>exact .iface t d v (ih hh)
theorem Y3{a b:Nat}(h:a<b):zO a b=true:=by
 simp; exact h
theorem TX{Z κe:KS}{m:Nat}(N:Ext Z κe)(hm:Z.st.length<=m):Ext Z (κe.cut m):=by
 have wM:∀ b x,Z.st[b]? = some x->b<m:=λb x h=>Nat.lt_of_lt_of_le (E.1 h).1 hm
 have GL:∀ b,b<m->(κe.cut m).ph[b]? = κe.ph[b]? := λb I=>by simp only[KS.cut]; rw[List.getElem?_take,if_pos I]
 refine⟨N.os,N.tape,N.output,N.size,N.same,N.fresh,λb blk n h=>N.phs b blk n (l8 h).1,λb d h => ?_,λb v0 e xs h => ?_,λb h=>xr (N.dead b h) (wM b _ h),?_,N.frame⟩
 ·obtain⟨⟨d',h1⟩,M⟩:=N.var b d h
  exact⟨⟨d',xr h1 (wM b _ h)⟩,(GL b (wM b _ h)).trans M⟩
 ·rcases N.arr b v0 e xs h with h1 | ⟨v1,x1,h1,M,h3⟩
  ·exact .inl (xr h1 (wM b _ h))
  ·exact .inr ⟨v1,x1,xr h1 (wM b _ h),M,λhe=>⟨(GL b (wM b _ h)).trans (h3 he).1,(h3 he).2⟩⟩
 ·have:=N.Fz
  simp[KS.cut]; omega
theorem uq.K5{κ0 Z:KS}{fr:Fr}{a:Act}{sh:uq}{x:sh.den}(N:Ext κ0 Z)(hI:Inv Z)(hR:Rel Z n fr.get a)(R:κ0.st.length<=sh.bs.length)(h:(sh.un fr Z.st).leads x) :
  ∃ Y:KS,Y.w=Z.w/\Y.st=sh.st x/\Inv Y/\Ext κ0 Y/\Rel Y n (sh.fr x).get a/\∀ (d:D) (v:Value),Refs sh.bs.length d->RD Z d v->RD Y d v:=by
 unfold uq.un at h
 cases hc:sh.ok&&(Z.st.take sh.bs.length).all (C7 sh.bs.length)with
 | false=>rw[hc]at h; exact h.elim
 | true =>
  rw[hc,cond_true]at h
  simp only[X,uq.ok,zP]at hc
  obtain⟨⟨⟨⟨znE,zg3⟩,QA⟩,hbs⟩,Kx⟩:=hc
  obtain⟨⟨⟩,h1,h⟩:=T.zd.1 h
  obtain⟨bl,M,h3⟩:=T.zd.1 h
  have hIc:=z5k hI Kx
  -- the store cut
  let m:=sh.bs.length
  obtain⟨g1,g2⟩:=UK (p:=Fg sh.bs) (ql:=sh.st x) sh.fq bl x (λk hk=>zg3 _ hk) h3
  obtain⟨k1,k2,k3⟩:=UI (st0:=fx sh.bs (Z2 sh.fq x)) M g1 ((congrArg (eX sh.bs) (ZP sh.fq x)).trans znE)
  have vX:sh.st x=jD (fx sh.bs (Z2 sh.fq x)) sh.bs (Z2 sh.fq x):=rfl
  rw[<- vX]at k1 k2 k3
  let Y:KS:={ Z.cut m with st:=sh.st x }
  have hm:m<=Z.st.length:=by
   rcases Nat.eq_zero_or_pos m with h0 | h0
   ·omega
   ·obtain⟨zA,B',q1,_⟩:=k3 (m-1) (sh.bs[m-1]'(by show m-1<m; omega)) (qz)
    grind
  have zn6:∀ i zA,Z.st[i]? = some zA->i<m->(Z.cut m).st[i]? = some zA:=λi zA hB hi=>xr hB hi
  have RO:(Z.cut m).st.length=m:=by simp[KS.cut]; omega
  have pair:∀ i,i<m->∃ k zA B',sh.bs[i]? = some k/\(Z.cut m).st[i]? = some zA/\Y.st[i]? = some B'/\Ho (Fg sh.bs) Z.st (fx sh.bs (Z2 sh.fq x)) k zA B':=by
   intro i hi
   obtain⟨zA,B',q1,q2,q3⟩:=k3 i (sh.bs[i]'hi) (qz)
   grind
  have lt:∀ {i:Nat} {zA:cL},(Z.cut m).st[i]? = some zA->i<m:=λhB=>by have:=(E.1 hB).1; omega
  have lt':∀ {i:Nat} {zA:cL},Y.st[i]? = some zA->i<m:=λhB=>by have:=(E.1 hB).1; have e:Y.st.length=m:=k1; omega
  have hw:Wk (Z.cut m) Y:=by
   refine⟨rfl,rfl,rfl,by show(sh.st x).length=_; rw[k1,RO],λb d I => ?_,λb v e xs I => ?_,λb v e xs I => ?_,λb I => ?_⟩
   ·obtain⟨k,zA,B',q0,q1,q2,q3⟩:=pair b (lt I)
    rw[I]at q1; cases q1
    cases q3 with
    | var k' _ _ y _ hy=>grind
    | cvar ck _ hy=>grind
    | dead _ hv=>cases hv
   ·obtain⟨k,zA,B',q0,q1,q2,q3⟩:=pair b (lt I)
    rw[I]at q1; cases q1
    cases q3 with
    | arr=>grind
    | dead=>grind
   ·obtain⟨k,zA,B',q0,q1,q2,q3⟩:=pair b (lt' I)
    rw[I]at q2; cases q2
    cases q3 with
    | arr=>exact q1
   ·obtain⟨k,zA,B',q0,q1,q2,q3⟩:=pair b (lt I)
    rw[I]at q1; cases q1
    cases q3 with
    | dead=>exact q2
  have Cx:∀ b,rowAt sh.bs b=true->jx Y.st b=lv Z.st b/\jx (fx sh.bs (Z2 sh.fq x)) b=lv Z.st b/\jx Z.st b=lv Z.st b :=
   λb I=>⟨(k2 b I).2.1,(k2 b I).1,(k2 b I).2.2⟩
  have zln:∀ b,rowAt sh.bs b=true->jx (Z.cut m).st b=jx Z.st b:=by
   intro b I
   have hbm:b<m:=by
    unfold rowAt at I
    split at I
    ·rename_i hh; exact(E.1 hh).1
    ·cases I
   unfold jx
   simp only[KS.cut]
   rw[List.getElem?_take,if_pos hbm]
  have hbm:∀ b,rowAt sh.bs b=true->b<m:=by
   intro b I
   unfold rowAt at I
   split at I
   ·rename_i hh; exact(E.1 hh).1
   ·cases I
  have RM:∀ b,UO sh.bs b=true->b<m:=by
   intro b I
   unfold UO at I
   split at I
   ·rename_i hh; exact(E.1 hh).1
   ·rename_i hh; exact(E.1 hh).1
   ·cases I
  have dk:∀ (k:Dk) (y:k.den) (d:D) (v:Value) (ql:St),Fg sh.bs k=true->(∀ b,rowAt sh.bs b=true->jx ql b=lv Z.st b)->(Qz Z.st k d).leads y->RD Z d v->RD Y (Qx ql k y) v:=by
   intro k y d v ql ho hv hy J
   have hwk:Wk Z Z:=⟨rfl,rfl,rfl,rfl,λb d h=>⟨d,h⟩,λb v e xs h=>.inl h,λb v e xs h=>h,λb h=>h⟩
   have h0:=Df hwk ho (λ_ _=>rfl) (ql:=Z.st) (λ_ _=>rfl) (λb I=>(Cx b I).2.2) hy J
   have zn4:fK m (Qx Z.st k y)=true:=by
    cases k with
    | sub b e=>exact Y3 (hbm b ho)
    | wi f caps =>
     have:∀ (l:List UU) (z:fP l),(ZQ l z).all (ya m)=true:=by
      intro l
      induction l with
      | nil=>intro z; rfl
      | cons p r ih =>
       intro z
       have hp:∀ w:AM.den p.ty,ya m (Bi p w)=true:=λw=>by cases p<;>rfl
       cases r with
       | nil=>simp only[ZQ,zF,List.all_nil,Bool.and_true]; exact hp z
       | cons q r=>simp only[ZQ,zF,X]; exact⟨hp z.1,by simpa using ih z.2⟩
     exact this caps y
    | st ks=>exact zP.2 (bZ hbm RM ks y ho)
    | mclo f ms=>exact zP.2 (oG RM ms y ho)
    | _=>rfl
   have h1:=hw.rd (LC h0 zn4)
   have he:Qx Z.st k y=Qx ql k y:=by
    cases k with
    | sub b e=>simp only[Qx]; rw[hv b ho,(Cx b ho).2.2]
    | st ks=>simp only[Qx]; rw[Z3 (λb I=>(Cx b I).2.2.trans (hv b I).symm) ks y ho]
    | _=>rfl
   rwa [he]at h1
  have ck:∀ (q:Ck) (d:D) (v:Value) (ql:St),SD sh.bs q=true->(∀ b,rowAt sh.bs b=true->jx ql b=lv Z.st b)->(UJ Z.st q d).leads ()->F6 ql q=d/\(RD Z d v->RD Y d v):=by
   intro q d v ql ho hv hy
   have he:=z8Z ho hv hy
   refine⟨he,λJ=>hw.rd (LC J ?_)⟩
   rw[<- he]
   cases q with
   | ptr b off=>exact Y3 (RM b ho)
   | cur b e=>exact Y3 (hbm b ho)
   | wF=>rfl
   | gX=>rfl
   | v8=>rfl
   | uT=>rfl
   | yL b=>exact Y3 (RM b ho)
   | wi f l =>
    simp only[SD,zP]at ho
    simp only[F6,fK,zP,List.mem_map]
    rintro _ ⟨p,hp,rfl⟩
    exact Y3 (RM p.1 (ho p hp))
  have hI':Inv Y:=by
   refine hw.inv hIc λb d' I => ?_
   obtain⟨k,zA,B',q0,q1,q2,q3⟩:=pair b (lt' I)
   rw[I]at q2
   cases q2
   cases q3 with
   | var kk k' d y hp hy =>
    refine kR.elim (hIc.blk b _ q1:kR _ _ _) (λKf eD => ?_) λl e zgc => ?_
    rotate_left
    ·subst e
     cases kk with
     | mp=>cases hy; obtain⟨blk,o,e1,e2⟩:=zgc; exact⟨blk,o,e1,e2⟩
     | qi τ=>simp[Qz,ov]at hy; exact hy.elim
     | vz τ=>exact hy.elim
     | sub b e=>exact hy.elim
     | wi f caps=>exact hy.elim
     | st ks=>exact hy.elim
     | mclo f ms=>exact hy.elim
     | so e=>exact hy.elim
     | tight e=>exact hy.elim
    obtain⟨blk,n',cs,t,e1,e2,e3,e4,e5⟩:=eD
    cases kk with
    | qi τ =>
     have hco:ov τ d=some y:=T.yu.1 hy
     have ht:d.bB=false:=by
      cases d with
      | eG l=>simp[ov,D.bB]at hco
      | _=>rfl
     have Dz:=Xo hco e4 e5.1 ht
     exact kR.mk (Z:=Y) (b:=b) (d:=.qi τ y) rfl ⟨blk,n',cs,t,e1,e2,e3,(QZ Dz).mono hw.ext,ri τ y,nofun⟩
    | vz τ =>
     cases d<;>simp only[Qz]at hy<;>try (exact hy.elim)
     obtain⟨e,hyy⟩:=wg (T.yu.1 hy)
     cases e
     cases hyy
     exact kR.mk (Z:=Y) (b:=b) (d:=.vz τ _) rfl ⟨blk,n',cs,t,e1,e2,e3,e4.mono hw.ext,e5.1,nofun⟩
    | st ks =>
     simp only[Qz]at hy
     cases ha:d.cG with
     | false=>rw[ha]at hy; exact hy.elim
     | true =>
      rw[ha]at hy
      replace hy:(oi Z.st ks (xy d)).leads y:=hy
      have zrJ:b<m:=lt' I
      have T7:Z.st[b]? = some (.var d):=(l8 q1).1
      obtain⟨zlX,n2,cs2,t2,f1,f2,f3,f4,f5⟩:=(hI.blk b _ T7:kR Z b d).cells Kf
      have hp1:=(l8 e1).1
      rw[f1]at hp1
      cases hp1
      have e2':=e2
      rw[show(Z.cut m).w=Z.w from rfl,f2]at e2
      cases e2
      obtain⟨g1,g2⟩:=mo (Z:=Z) (ql:=fx sh.bs (Z2 sh.fq x)) (bs:=sh.bs) (λb I=>(Cx b I).2.1) ks (xy d) y _ hp.2 hy f4
      refine kR.mk (Z:=Y) (b:=b) (d:=.agg (jf (fx sh.bs (Z2 sh.fq x)) ks y)) rfl ⟨blk,n',cs,t,e1,e2',e3,(Po g1 λz hz => ?_).mono hw.ext,g2,λT hT => ?_⟩
      rotate_left
      ·exact f5.2 T (K2 ha (JN ks (xy d) y hy hT))
      have:=bZ (m:=m) hbm RM ks y hp.2 z hz
      cases z<;>first | exact this | cases this
    | mp=>cases d<;>first | exact hy.elim | cases Kf
    | _=>cases hp.1
   | cvar q d hy =>
    have hoq:SD sh.bs q=true:=hbs _ (List.mem_of_getElem? q0)
    obtain⟨g,_⟩:=ck q d undef (fx sh.bs (Z2 sh.fq x)) hoq (λb I=>(Cx b I).2.1) hy
    rw[g]
    refine kR.elim (hIc.blk b _ q1:kR _ _ _) (λKf ⟨blk,n',cs,t,e1,e2,e3,e4,e5⟩=>.mk Kf ⟨blk,n',cs,t,e1,e2,e3,e4.mono hw.ext,e5⟩) λl e ⟨blk,o,e1,e2⟩ => ?_
    subst e
    exact⟨blk,o,e1,e2⟩
  refine⟨Y,rfl,rfl,hI',?_,⟨hR.size,hR.defers,λs d J => ?_⟩,λd v hr J=>hw.rd (z8K J hr)⟩
  ·have wM:κ0.st.length<=m:=R
   have c1:=TX N wM
   exact c1.trans hw.ext
  ·rcases get_append (l:=ng (sh.st x) sh.fq x) (m:=z8e (sh.st x) sh.cs) J with hp | hp0
   ·obtain⟨k,y,d0,q0,q1,q2,q3⟩:=g2 _ hp
    cases q3
    obtain⟨v,r1,r2⟩:=hR.get _ _ q1
    exact⟨v,r1,dk k y d0 v (sh.st x) (zg3 _ q0) (λb I=>(Cx b I).1) q2 r2⟩
   ·have H4:=get_mem hp0
    unfold z8e at H4
    obtain⟨p,hp,he⟩:=List.mem_map.1 H4
    cases he
    obtain⟨d0,q1,q2⟩:=FF h1 p hp
    obtain⟨v,r1,r2⟩:=hR.get _ _ q1
    obtain⟨g,gg⟩:=ck p.2 d0 v (sh.st x) (QA p hp) (λb I=>(Cx b I).1) q2
    rw[g]
    exact⟨v,r1,gg r2⟩
end
end Go.AM
namespace Go.AM
set_option linter.unusedSectionVars false
variable [yY] [Hp]
open Go.RowKit
inductive Gh where
 | slot (s:Nat) (e:Ty) | cell (b i:Nat) (e:Ty) | pcell (s i:Nat) (e:Ty)
def KE(st:St)(b i:Nat):Option (List D):=match st[b]? with
 | some (.var d)=>bif d.cG then match(xy d)[i]? with | some .wF=>some (xy d) | _=>none else none
 | _=>none
def gh:List Gh->Fr->St->Fr×St
 | [],fr,st=>(fr,st)
 | .slot s e::r,fr,st=>match fr.get s with
  | some .wF=>bif zO 0 e.size then gh r ((s,some (.ms st.length 0 e 0 0))::fr) (st++[.arr 0 e []])else gh r fr st
  | _=>gh r fr st
 | .cell b i e::r,fr,st=>match KE st b i with
  | some l=>bif zO 0 e.size then gh r fr ((st++[cL.arr 0 e []]).set b (.var (.agg (l.set i (.ms st.length 0 e 0 0)))))else gh r fr st
  | none=>gh r fr st
 | .pcell t i e::r,fr,st=>match fr.get t with
  | some (.ptr b _)=>match KE st b i with
   | some l=>bif zO 0 e.size then gh r fr ((st++[cL.arr 0 e []]).set b (.var (.agg (l.set i (.ms st.length 0 e 0 0)))))else gh r fr st
   | none=>gh r fr st
  | _=>gh r fr st
section
variable {c:Ctx} {Z:KS}
def KS.yM(Z:KS)(e:Ty):KS:={ Z with ph:=Z.ph++[none],st:=Z.st++[.arr 0 e []] }
theorem rL(hI:Inv Z)(e:Ty):Ext Z (Z.yM e):=by
 have vX:∀ b y,Z.st[b]? = some y->(Z.st++[.arr 0 e []])[b]? = some y:=λb y h=>by rw[zK (E.1 h).1]; exact h
 have GL:∀ b y,Z.st[b]? = some y->(Z.ph++[none])[b]? = Z.ph[b]? := λb y h=>by
  rw[zK]; rw[hI.len]; exact(E.1 h).1
 refine⟨rfl,rfl,rfl,zJ _,λk hk=>⟨hk,rfl⟩,λk hk=>.inl hk,?_,λb d h=>⟨⟨d,vX b _ h⟩,GL b _ h⟩,
  λb v0 e xs h=>.inr ⟨v0,xs,vX b _ h,zJ _,λ_=>⟨GL b _ h,rfl⟩⟩,λb h=>vX b _ h,by simp[KS.yM],λk hk _=>rfl⟩
 intro b blk m h
 simp only[KS.yM]at h
 grind
theorem Vg(hI:Inv Z){e:Ty}(he:0<e.size):Inv (Z.yM e):=by
 have hold:∀ (b blk m:Nat),(Z.ph++[none])[b]? = some (some (blk,m))->Z.ph[b]? = some (some (blk,m)):=by
  grind
 refine⟨by simp[KS.yM,hI.len],hI.bN,λb blk m h=>hI.apart b blk m (hold b blk m h),λb b' blk m m' h h'=>hI.inj b b' blk m m' (hold _ _ _ h) (hold _ _ _ h'),?_,hI.gl⟩
 intro b y hy
 simp only[KS.yM]at hy
 by_cases I:b<Z.st.length
 ·rw[zK I]at hy
  exact(hI.blk b y hy).mono (rL hI e) (by show(Z.ph++[none])[b]? = Z.ph[b]?; rw[zK (by rw[hI.len]; exact I)]) λblk n h=>rfl
 ·have Ke:=(E.1 hy).1
  simp at Ke
  have:b=Z.st.length:=O
  subst this
  simp at hy
  subst hy
  exact⟨he,.inl ⟨rfl,by simp[KS.yM,<- hI.len]⟩⟩
theorem LZ{l:List D}{i b v len off:Nat}{e:Ty}{tt:Nat}(h:(D.agg (l.set i (.ms b v e off len))).typed=some tt):l9 l=some tt:=by
 cases l with
 | nil=>exact h
 | cons x r=>cases i with
  | zero=>cases h
  | succ i=>cases x<;>exact h
theorem z8M{Z κ2:KS}{l:List D}{vs:List Value}{i:Nat}{d':D}(h:wN Z l vs)(hw:∀ d v,RD Z d v->RD κ2 d v)(hi:∀ v,vs[i]? = some v->RD κ2 d' v):wN κ2 (l.set i d') vs:=by
 refine⟨by rw[List.length_set]; exact h.1,λk h1 M => ?_⟩
 rw[List.getElem_set]
 split
 ·grind
 ·exact hw _ _ (h.2 k (xz) M)
theorem ME(hI:Inv Z){e:Ty}(he:0<e.size){b i:Nat}{l:List D}(h:KE Z.st b i=some l) :
  ∃ Y:KS,Y.w=Z.w/\Y.st=(Z.st++[cL.arr 0 e []]).set b (.var (.agg (l.set i (.ms Z.st.length 0 e 0 0))))/\Inv Y/\Ext Z Y:=by
 unfold KE at h
 split at h
 ·rename_i d J
  cases ha:d.cG with
  | false=>grind
  | true =>
   rw[ha,cond_true]at h
   split at h
   ·rename_i hi
    cases h
    have N:=rL hI e
    have Vz:=Vg hI he
    have zrI:b<Z.st.length:=(E.1 J).1
    let κ2:KS:={ Z.yM e with st:=(Z.yM e).st.set b (.var (.agg ((xy d).set i (.ms Z.st.length 0 e 0 0)))) }
    have I0:(Z.yM e).st[b]? = some (.var d):=by
     show(Z.st++[_])[b]? = _
     grind
    have jZ:∀ j,j≠b->κ2.st[j]? = (Z.yM e).st[j]? := λj hj=>by
     grind
    have zgv:κ2.st[b]? = some (.var (.agg ((xy d).set i (.ms Z.st.length 0 e 0 0)))):=by
     grind
    have hw:Wk (Z.yM e) κ2:=by
     refine⟨rfl,rfl,rfl,by simp[κ2],λj d' hj => ?_,λj v e' xs hj => ?_,λj v e' xs hj => ?_,λj hj => ?_⟩
     ·grind
     ·grind
     ·grind
     ·by_cases c:j=b
      ·subst c; rw[I0]at hj; cases hj
      ·rw[jZ j c]; exact hj
    have H5:κ2.st[Z.st.length]? = some (.arr 0 e []):=by
     rw[jZ _ (O)]
     simp[KS.yM]
    have hI2:Inv κ2:=by
     refine hw.inv Vz λj d' hj => ?_
     by_cases c:j=b
     ·subst c
      rw[zgv]at hj
      cases hj
      obtain⟨blk,m,cs,t,q1,q2,q3,q4,q5⟩:=(Vz.blk j _ I0:kR _ _ _).cells (by cases d<;>first | rfl | cases ha)
      refine kR.mk (Z:=κ2) (b:=j) (d:=.agg ((xy d).set i (.ms Z.st.length 0 e 0 0))) rfl ⟨blk,m,cs,t,q1,q2,q3,z8M q4 (λ_ _ h=>hw.rd h) λv hv => ?_,λx hxm => ?_,λT hT => ?_⟩
      ·obtain⟨v',h1,M⟩:=q4.get hi
       rw[hv]at h1
       cases h1
       cases M
       refine .ms Z.st.length 0 e 0 0 0 none (.inr ⟨0,e,[],H5,zJ _⟩) (zJ _) (λ_=>rfl) nofun λxs Yo => ?_
       rw[H5]at Yo
       cases Yo
       exact⟨zJ _,.inl ⟨rfl,rfl,rfl,by show(Z.ph++[none])[Z.st.length]? = _; simp[<- hI.len]⟩⟩
      ·rcases List.mem_or_eq_of_mem_set (show x∈(xy d).set i (.ms Z.st.length 0 e 0 0)from hxm)with h' | h'
       ·exact q5.1 x h'
       ·subst h'; rfl
      ·exact q5.2 T (K2 ha (LZ hT))
     ·rw[jZ j c]at hj
      exact(Vz.blk j _ hj).mono hw.ext rfl λ_ _ _=>rfl
    exact⟨κ2,rfl,rfl,hI2,N.trans hw.ext⟩
   ·cases h
 ·cases h
theorem sI{n:Nat}{a:Act}:∀ (l:List Gh) (fr:Fr) (Z:KS),Inv Z->Rel Z n fr.get a->∃ Y:KS,Y.w=Z.w/\Y.st=(gh l fr Z.st).2/\Inv Y/\Ext Z Y/\Rel Y n (gh l fr Z.st).1.get a
 | [],fr,Z,hI,hR=>⟨Z,rfl,rfl,hI,Ext.refl Z,hR⟩
 | .slot s e::r,fr,Z,hI,hR=>by
  unfold gh
  split
  ·rename_i hs
   cases he:zO 0 e.size with
   | false=>rw[cond_false]; exact sI r fr Z hI hR
   | true =>
    rw[cond_true]
    have IV:0<e.size:=zE he
    have N:=rL hI e
    have hR':Rel (Z.yM e) n (Fr.get ((s,some (.ms Z.st.length 0 e 0 0))::fr)) a:=by
     refine⟨hR.size,hR.defers,λt d J => ?_⟩
     simp only[Fr.get]at J
     cases ht:V s t with
     | true =>
      rw[ht,cond_true]at J
      cases J
      have:=B ht
      subst this
      obtain⟨v,h1,M⟩:=hR.get s _ hs
      cases M
      have H5:(Z.yM e).st[Z.st.length]? = some (.arr 0 e []):=by simp[KS.yM]
      refine⟨_,h1,.ms Z.st.length 0 e 0 0 0 none (.inr ⟨0,e,[],H5,zJ _⟩) (zJ _) (λ_=>rfl) nofun λxs Yo => ?_⟩
      rw[H5]at Yo
      cases Yo
      exact⟨zJ _,.inl ⟨rfl,rfl,rfl,by simp[KS.yM,<- hI.len]⟩⟩
     | false =>
      rw[ht,cond_false]at J
      obtain⟨v,h1,M⟩:=hR.get t d J
      exact⟨v,h1,M.mono N⟩
    obtain⟨Y,h1,M,h3,h4,h5⟩:=sI r _ (Z.yM e) (Vg hI IV) hR'
    exact⟨Y,h1,M,h3,N.trans h4,h5⟩
  ·exact sI r fr Z hI hR
 | .cell b i e::r,fr,Z,hI,hR=>by
  unfold gh
  split
  ·rename_i l R
   cases he:zO 0 e.size with
   | false=>rw[cond_false]; exact sI r fr Z hI hR
   | true =>
    rw[cond_true]
    have IV:0<e.size:=zE he
    obtain⟨κ1,g1,g2,g3,g4⟩:=ME hI IV R
    obtain⟨Y,h1,M,h3,h4,h5⟩:=sI r fr κ1 g3 ⟨hR.size,hR.defers,λt d J=>by
     obtain⟨v,q1,q2⟩:=hR.get t d J
     exact⟨v,q1,q2.mono g4⟩⟩
    rw[g2]at M h5
    exact⟨Y,h1.trans g1,M,h3,g4.trans h4,h5⟩
  ·exact sI r fr Z hI hR
 | .pcell t i e::r,fr,Z,hI,hR=>by
  unfold gh
  split
  ·rename_i b off I
   split
   ·rename_i l R
    cases he:zO 0 e.size with
    | false=>rw[cond_false]; exact sI r fr Z hI hR
    | true =>
     have IV:0<e.size:=zE he
     obtain⟨κ1,g1,g2,g3,g4⟩:=ME hI IV R
     obtain⟨Y,h1,M,h3,h4,h5⟩:=sI r fr κ1 g3 ⟨hR.size,hR.defers,λt d J=>by
      obtain⟨v,q1,q2⟩:=hR.get t d J
      exact⟨v,q1,q2.mono g4⟩⟩
     rw[g2]at M h5
     exact⟨Y,h1.trans g1,M,h3,g4.trans h4,h5⟩
   ·exact sI r fr Z hI hR
  ·exact sI r fr Z hI hR
end
end Go.AM
namespace Go.AM
def Q6(f:Nat->Option Nat)(d:D):Option D:=match d with
 | .ptr b off=>match f b with | some b'=>some (.ptr b' off) | none=>none
 | .en b T=>match f b with | some b'=>some (.en b' T) | none=>none
 | .yL b=>match f b with | some b'=>some (.yL b') | none=>none
 | .gJ b v e i off=>match f b with | some b'=>some (.gJ b' v e i off) | none=>none
 | .ms b v e off len=>match f b with | some b'=>some (.ms b' v e off len) | none=>none
 | .wi _ _=>none
 | .agg _=>none
 | .eG _=>none
 | .iface _ _=>none
 | d=>some d
def Fs(f:Nat->Option Nat):List D->Option (List D)
 | []=>some []
 | d::r=>match Q6 f d with
  | some d'=>match Fs f r with | some r'=>some (d'::r') | none=>none
  | none=>none
def rQ(f:Nat->Option Nat)(d:D):Option D:=match d with
 | .wi g l=>match Fs f l with | some l'=>some (.wi g l') | none=>none
 | .agg l=>match Fs f l with | some l'=>some (.agg l') | none=>none
 | d=>Q6 f d
def Xp(f:Nat->Option Nat):List D->Option (List D)
 | []=>some []
 | d::r=>match rQ f d with
  | some d'=>match Xp f r with | some r'=>some (d'::r') | none=>none
  | none=>none
def Vm(f:Nat->Option Nat):cL->Option cL
 | .var d=>match rQ f d with | some d'=>some (.var d') | none=>none
 | .arr v e xs=>some (.arr v e xs)
 | .dead=>some .dead
def oh(f:Nat->Option Nat):List cL->Option (List cL)
 | []=>some []
 | b::r=>match Vm f b with
  | some b'=>match oh f r with | some r'=>some (b'::r') | none=>none
  | none=>none
def WB(f:Nat->Option Nat):Fr->Fr
 | []=>[]
 | (s,some d)::r=>(s,rQ f d)::WB f r
 | (s,none)::r=>(s,none)::WB f r
structure Tr(Z Y:KS)(f:Nat->Option Nat):Prop where
 w:Y.w=Z.w
 ok:Y.ok=Z.ok
 var:∀ (b b':Nat) (d:D),f b=some b'->Z.st[b]? = some (.var d)->(∃ d',Y.st[b']? = some (.var d'))/\Y.ph[b']? = Z.ph[b]?
 old:∀ (b b' vi:Nat),f b=some b'->Old Z.st b vi->Old Y.st b' vi
 row:∀ (b b' v:Nat) (e:Ty) (xs:List (den e)),f b=some b'->Y.st[b']? = some (.arr v e xs)->Z.st[b]? = some (.arr v e xs)/\Y.ph[b']? = Z.ph[b]?
section
variable {Z Y:KS} {f:Nat->Option Nat}
theorem Tr.same(h:Tr Z Y f):I9 Z.w Y.w Z.ok Y.ok:=λk hk=>⟨by rw[h.ok]; exact hk,by rw[h.w]⟩
theorem Tr.rd1(h:Tr Z Y f){d d':D}{v:Value}(J:RD Z d v)(hr:Q6 f d=some d'):RD Y d' v:=by
 cases J with
 | qi τ y cs hc=>cases hr; exact .qi τ y cs (hc.mono h.same)
 | so e l b v hc ht hf=>cases hr; exact .so e l b v (hc.mono h.same) ht hf
 | vy e a=>cases hr; exact .vy e a
 | tight e l ne blk off g jZ j3 hh hc=>cases hr; exact .tight e l ne blk off g jZ (h.same _ j3).1 (λi hi=>(hh i hi).mono h.same) λi hi j v hv=>by rw[lJ (h.same _ j3).2]; exact hc i hi j v hv
 | wF=>cases hr; exact .wF
 | gX=>cases hr; exact .gX
 | v8=>cases hr; exact .v8
 | gj=>cases hr; exact .gj
 | uT=>cases hr; exact .uT
 | WI v h=>cases hr; exact .WI v h
 | mP T=>cases hr; exact .mP T
 | nk b T d I =>
  simp only[Q6]at hr
  split at hr
  ·rename_i b' hf
   cases hr
   obtain⟨⟨d',h1⟩,M⟩:=h.var b b' d hf I
   exact .nk b' T d' h1
  ·cases hr
 | yL b blk n d I hp =>
  simp only[Q6]at hr
  split at hr
  ·rename_i b' hf
   cases hr
   obtain⟨⟨d',h1⟩,M⟩:=h.var b b' d hf I
   exact .yL b' blk n d' h1 (M.trans hp)
  ·cases hr
 | nn b T blk n d I hp =>
  simp only[Q6]at hr
  split at hr
  ·rename_i b' hf
   cases hr
   obtain⟨⟨d',h1⟩,M⟩:=h.var b b' d hf I
   exact .nn b' T blk n d' h1 (M.trans hp)
  ·cases hr
 | ptr b off blk n d I hp =>
  simp only[Q6]at hr
  split at hr
  ·rename_i b' hf
   cases hr
   obtain⟨⟨d',h1⟩,M⟩:=h.var b b' d hf I
   exact .ptr b' off blk n d' h1 (M.trans hp)
  ·cases hr
 | vz τ y cs blk off j3 hh hc=>cases hr; exact .vz τ y cs blk off (h.same _ j3).1 (hh.mono h.same) λj v hv=>by rw[lJ (h.same _ j3).2]; exact hc j v hv
 | gJ b vi e idx off blk o I hh =>
  simp only[Q6]at hr
  split at hr
  ·rename_i b' hf
   cases hr
   refine .gJ b' vi e idx off blk o (h.old b b' vi hf I) λxs N hi => ?_
   obtain⟨h1,M⟩:=h.row b b' vi e xs hf N
   grind
  ·cases hr
 | ms b vi e off len cap a I jg ha Ws hh =>
  simp only[Q6]at hr
  split at hr
  ·rename_i b' hf
   cases hr
   refine .ms b' vi e off len cap a (h.old b b' vi hf I) jg ha Ws λxs N => ?_
   obtain⟨h1,M⟩:=h.row b b' vi e xs hf N
   have:=hh xs h1
   unfold Mo at this ⊢
   grind
  ·cases hr
 | wi g l vs R hh=>cases hr
 | agg l vs R ho hh=>cases hr
 | eG l vs R hh=>cases hr
 | iface t d v hh=>cases hr
theorem z2T{d d':D}(h:Q6 f d=some d'):d'.one=d.one:=by
 cases d<;>simp only[Q6]at h<;>first | (cases h; rfl) | (split at h<;>cases h; rfl) | cases h
theorem Tr.rdL(h:Tr Z Y f):∀ {l l':List D} {vs:List Value},wN Z l vs->Fs f l=some l'->wN Y l' vs
 | [],l',vs,J,hr=>by cases hr; rw[J.we]; exact .nil
 | d::r,l',vs,J,hr=>by
  simp only[Fs]at hr
  split at hr
  ·rename_i d' h1
   split at hr
   ·rename_i r' M
    cases hr
    obtain⟨v,us,rfl,g1,g2⟩:=J.cons_inv
    exact .cons (h.rd1 g1 h1) (h.rdL g2 M)
   ·cases hr
  ·cases hr
theorem Gf:∀ {l l':List D},Fs f l=some l'->(∀ d∈l,d.one=true)->∀ d∈l',d.one=true
 | [],l',hr,_=>by cases hr; nofun
 | d::r,l',hr,ho=>by
  simp only[Fs]at hr
  split at hr
  ·rename_i d' h1
   split at hr
   ·rename_i r' M
    cases hr
    intro x N
    rcases zH.1 N with rfl | N
    ·rw[z2T h1]; exact ho d zQ
    ·exact Gf M (λy hy=>ho y (zI _ hy)) x N
   ·cases hr
  ·cases hr
theorem Tr.rd(h:Tr Z Y f){d d':D}{v:Value}(J:RD Z d v)(hr:rQ f d=some d'):RD Y d' v:=by
 cases d with
 | wi g l =>
  simp only[rQ]at hr
  split at hr
  ·rename_i l' R
   cases hr
   cases J with
   | wi _ _ vs h1 M=>have:=h.rdL (⟨h1,M⟩:wN Z l vs) R; exact .wi g l' vs this.1 this.2
  ·cases hr
 | agg l =>
  simp only[rQ]at hr
  split at hr
  ·rename_i l' R
   cases hr
   cases J with
   | agg _ vs h1 ho M=>have:=h.rdL (⟨h1,M⟩:wN Z l vs) R; exact .agg l' vs this.1 (Gf R ho) this.2
  ·cases hr
 | _=>exact h.rd1 J hr
theorem Tr.rds(h:Tr Z Y f):∀ {l l':List D} {vs:List Value},wN Z l vs->Xp f l=some l'->wN Y l' vs
 | [],l',vs,J,hr=>by cases hr; rw[J.we]; exact .nil
 | d::r,l',vs,J,hr=>by
  simp only[Xp]at hr
  split at hr
  ·rename_i d' h1
   split at hr
   ·rename_i r' M
    cases hr
    obtain⟨v,us,rfl,g1,g2⟩:=J.cons_inv
    exact .cons (h.rd g1 h1) (h.rds g2 M)
   ·cases hr
  ·cases hr
theorem Tr.flat(h:Tr Z Y f){d d':D}{vs:List Value}(J:wN Z (xy d) vs)(ho:∀ x∈xy d,x.one=true)(hr:rQ f d=some d'):wN Y (xy d') vs/\∀ x∈xy d',x.one=true:=by
 have qi:∀ (τ:Ty) (x:den τ) (vs:List Value),wN Z (Go.AM.flat τ x) vs->wN Y (Go.AM.flat τ x) vs:=by
  intro τ x vs hh
  refine⟨hh.1,λi h1 M => ?_⟩
  have hm:=List.getElem_mem h1
  have:∃ σ z,(Go.AM.flat τ x)[i]=.qi σ z:=by
   generalize (Go.AM.flat τ x)[i]=y at hm
   clear hh h1 M
   induction τ with
   | cons a b ia ib =>
    simp only[Go.AM.flat,zN]at hm
    grind
   | nil=>simp[Go.AM.flat]at hm
   | expr=>simp[Go.AM.flat]at hm; rcases hm with rfl | rfl | rfl | rfl | rfl | rfl<;>exact⟨_,_,rfl⟩
   | _=>simp[Go.AM.flat]at hm; subst hm; exact⟨_,_,rfl⟩
  obtain⟨σ,z,e⟩:=this
  have h3:=hh.2 i h1 M
  rw[e]at h3 ⊢
  exact h.rd1 h3 rfl
 cases d with
 | qi τ x=>cases hr; exact⟨qi τ x vs J,ho⟩
 | agg l =>
  simp only[rQ]at hr
  split at hr
  ·rename_i l' R
   cases hr
   exact⟨h.rdL J R,Gf R ho⟩
  ·cases hr
 | eG l=>cases hr
 | wi g l =>
  obtain⟨v,r,rfl,h1,M⟩:=wN.cons_inv (show wN Z [.wi g l] vs from J)
  rw[M.we]
  have Dy:=hr
  simp only[rQ]at hr
  split at hr
  ·cases hr; exact⟨.cons (h.rd h1 Dy) .nil,λx N=>by simp only[xy,zL]at N; subst N; rfl⟩
  ·cases hr
 | iface t x=>cases hr
 | ptr b off =>
  obtain⟨v,r,rfl,h1,M⟩:=wN.cons_inv (show wN Z [.ptr b off] vs from J)
  rw[M.we]
  have Dy:=hr
  simp only[rQ,Q6]at hr
  split at hr
  ·cases hr; exact⟨.cons (h.rd1 h1 Dy) .nil,λx N=>by simp only[xy,zL]at N; subst N; rfl⟩
  ·cases hr
 | yL b =>
  obtain⟨v,r,rfl,h1,M⟩:=wN.cons_inv (show wN Z [.yL b] vs from J)
  rw[M.we]
  have Dy:=hr
  simp only[rQ,Q6]at hr
  split at hr
  ·cases hr; exact⟨.cons (h.rd1 h1 Dy) .nil,λx N=>by simp only[xy,zL]at N; subst N; rfl⟩
  ·cases hr
 | en b T =>
  obtain⟨v,r,rfl,h1,M⟩:=wN.cons_inv (show wN Z [.en b T] vs from J)
  rw[M.we]
  have Dy:=hr
  simp only[rQ,Q6]at hr
  split at hr
  ·cases hr; exact⟨.cons (h.rd1 h1 Dy) .nil,λx N=>by simp only[xy,zL]at N; subst N; rfl⟩
  ·cases hr
 | gJ b vi e idx off =>
  obtain⟨v,r,rfl,h1,M⟩:=wN.cons_inv (show wN Z [.gJ b vi e idx off] vs from J)
  rw[M.we]
  have Dy:=hr
  simp only[rQ,Q6]at hr
  split at hr
  ·cases hr; exact⟨.cons (h.rd1 h1 Dy) .nil,λx N=>by simp only[xy,zL]at N; subst N; rfl⟩
  ·cases hr
 | ms b vi e off len =>
  obtain⟨v,r,rfl,h1,M⟩:=wN.cons_inv (show wN Z [.ms b vi e off len] vs from J)
  rw[M.we]
  have Dy:=hr
  simp only[rQ,Q6]at hr
  split at hr
  ·cases hr; exact⟨.cons (h.rd1 h1 Dy) .nil,λx N=>by simp only[xy,zL]at N; subst N; rfl⟩
  ·cases hr
 | Bm l=>cases hr; exact⟨⟨J.1,λi h1=>by cases h1⟩,ho⟩
 | _ =>
  cases hr
  obtain⟨v,r,rfl,h1,M⟩:=wN.cons_inv J
  rw[M.we]
  exact⟨.cons (h.rd1 h1 rfl) .nil,ho⟩
theorem LH{f:Nat->Option Nat}{d d':D}{tt:Nat}(h:rQ f d=some d')(ht:d'.typed=some tt):d.typed=some tt:=by
 cases d with
 | agg l =>
  simp only[rQ]at h
  split at h
  ·rename_i l' R
   cases h
   cases l with
   | nil=>cases R; cases ht
   | cons x r =>
    simp only[Fs]at R
    split at R
    ·rename_i x' N
     split at R
     ·cases R
      cases x<;>simp only[Q6]at N<;>first
       | (cases N; exact ht)
       | (split at N<;>first | (cases N; exact ht) | cases N)
       | cases N
     ·cases R
    ·cases R
  ·cases h
 | wi g l =>
  simp only[rQ]at h
  split at h
  ·cases h; cases ht
  ·cases h
 | _ =>
  simp only[rQ,Q6]at h
  first
   | (cases h; cases ht)
   | (split at h<;>first | (cases h; cases ht) | cases h)
   | cases h
theorem Tr.blk[Wm](h:Tr Z Y f){b b':Nat}(hp:Y.ph[b']? = Z.ph[b]?){y y':cL}(hy:pB Z b y)(hr:Vm f y=some y'):pB Y b' y':=by
 cases y with
 | dead=>cases hr; trivial
 | var d =>
  simp only[Vm]at hr
  split at hr
  ·rename_i d' J
   cases hr
   refine kR.elim hy (λhm ⟨blk,n,cs,t,h1,M,h3,h4,h5⟩ => ?_) λl e ⟨blk,o,h1,M⟩ => ?_
   rotate_left
   ·subst e
    cases J
    exact⟨blk,o,hp.trans h1,by rw[h.w]; exact M⟩
   have hm':d'.Yt=false:=by
    cases d<;>simp only[rQ,Q6]at J<;>first | (cases hm; done) | (cases J; rfl) | (split at J<;>first | (cases J; rfl) | cases J) | cases J | cases hm
   obtain⟨g1,g2⟩:=h.flat h4 h5.1 J
   exact .mk hm' ⟨blk,n,cs,t,hp.trans h1,by rw[h.w]; exact M,h3,g1,g2,λT hT=>h5.2 T (LH J hT)⟩
  ·cases hr
 | arr vi e xs =>
  cases hr
  obtain⟨h0,hh⟩:=hy
  refine⟨h0,rN hh (λh=>⟨h.1,hp.trans h.2⟩) ?_⟩
  rintro⟨blk,n,cs,t,h1,M,h3,h4,hr,g,h5⟩
  exact⟨blk,n,cs,t,hp.trans h1,by rw[h.w]; exact M,h3,h4,hr,g,λi hi=>⟨(h5 i hi).1.mono h.same,(h5 i hi).2⟩⟩
theorem Wb{f:Nat->Option Nat}:∀ {fr:Fr} {s:Nat} {d':D},(WB f fr).get s=some d'->∃ d,fr.get s=some d/\rQ f d=some d'
 | [],s,d',h=>by cases h
 | (t,some d)::r,s,d',h=>by
  simp only[WB,Fr.get]at h ⊢
  cases ht:V t s with
  | true=>grind
  | false=>rw[ht,cond_false]at h; simp; exact Wb h
 | (t,none)::r,s,d',h=>by
  simp only[WB,Fr.get]at h ⊢
  cases ht:V t s with
  | true=>grind
  | false=>rw[ht,cond_false]at h; simp; exact Wb h
end
def pos:List Nat->Nat->Option Nat
 | [],_=>none
 | b::r,i=>bif V b i then some 0 else match pos r i with | some j=>some (j+1) | none=>none
def cH:List Nat->Bool
 | []=>true
 | b::r=>(match pos r b with | none=>true | some _=>false)&&cH r
theorem sS:∀ {mp:List Nat} {i j:Nat},pos mp i=some j->mp[j]? = some i
 | [],i,j,h=>by cases h
 | b::r,i,j,h=>by
  simp only[pos]at h
  cases I:V b i with
  | true=>rw[I,cond_true]at h; cases h; rw[B I]; rfl
  | false =>
   rw[I,cond_false]at h
   split at h
   ·rename_i k hk; cases h; simpa using sS hk
   ·cases h
theorem oB:∀ {mp:List Nat} {i j:Nat},cH mp=true->mp[j]? = some i->pos mp i=some j
 | [],i,j,_,h=>by simp at h
 | b::r,i,j,hn,h=>by
  simp only[cH,X]at hn
  cases j with
  | zero=>simp at h; subst h; simp only[pos]; rw[qS]; rfl
  | succ j =>
   have h':r[j]? = some i:=by simpa using h
   have hp:=oB hn.2 h'
   have jZ:V b i=false:=by
    cases I:V b i with
    | false=>rfl
    | true =>
     have:=B I
     grind
   simp only[pos,jZ,cond_false,hp]
def iL{α:Type}(l:List α):List Nat->Option (List α)
 | []=>some []
 | b::r=>match l[b]? with
  | some x=>match iL l r with | some y=>some (x::y) | none=>none
  | none=>none
theorem Jp{α:Type}{l:List α}:∀ {mp:List Nat} {r:List α},iL l mp=some r->r.length=mp.length/\∀ (j b:Nat),mp[j]? = some b->r[j]? = l[b]? /\ b<l.length
 | [],r,h=>by cases h; exact⟨rfl,λj b hj=>xz⟩
 | b::mp,r,h=>by
  simp only[iL]at h
  split at h
  ·rename_i x N
   split at h
   ·rename_i y hy
    obtain⟨h1,M⟩:=Jp hy
    grind
   ·cases h
  ·cases h
theorem Jq{f:Nat->Option Nat}:∀ {l r:List cL},oh f l=some r->r.length=l.length/\∀ (j:Nat) (x:cL),l[j]? = some x->∃ y,r[j]? = some y/\Vm f x=some y
 | [],r,h=>by cases h; exact⟨rfl,λj x hj=>xz⟩
 | b::l,r,h=>by
  simp only[oh]at h
  split at h
  ·rename_i b' I
   split at h
   ·rename_i r' hr
    obtain⟨h1,M⟩:=Jq hr
    grind
   ·cases h
  ·cases h
def nE{α:Type}(mp:List Nat)(new:List α):Nat->List α->List α
 | _,[]=>[]
 | i,x::r=>(match pos mp i with | some j=>(match new[j]? with | some y=>y | none=>x) | none=>x)::nE mp new (i+1) r
def je{α:Type}(mp:List Nat)(old new:List α):List α:=nE mp new 0 old++new.drop mp.length
theorem gS{α:Type}(mp:List Nat)(new:List α):∀ (l:List α) (i:Nat),(nE mp new i l).length=l.length
 | [],_=>rfl
 | x::r,i=>by simp[nE,gS mp new r (i+1)]
theorem WQ{α:Type}(mp:List Nat)(new:List α):∀ (l:List α) (i k:Nat),(nE mp new i l)[k]? = (l[k]?).map λx=>match pos mp (i+k)with | some j=>(match new[j]? with | some y=>y | none=>x) | none=>x
 | [],i,k=>by simp[nE]
 | x::r,i,0=>by simp[nE]
 | x::r,i,k+1=>by
  have:=WQ mp new r (i+1) k
  simp only[nE]
  grind
def fwd(mp:List Nat)(n:Nat)(j:Nat):Nat:=match mp[j]? with | some b=>b | none=>n+(j-mp.length)
theorem lH{α:Type}{mp:List Nat}{old new:List α}{i:Nat}(hi:i<old.length)(hp:pos mp i=none):(je mp old new)[i]? = old[i]? := by
 unfold je
 rw[zK (by rw[gS]; exact hi),WQ,qD,hp]
 simp
theorem DQ{α:Type}{mp:List Nat}{old new:List α}(hn:cH mp=true)(wM:∀ (j b:Nat),mp[j]? = some b->b<old.length)(hlen:mp.length<=new.length){j:Nat}(hj:j<new.length):(je mp old new)[fwd mp old.length j]? = new[j]? := by
 unfold je fwd
 cases hm:mp[j]? with
 | some b =>
  have I:=wM j b hm
  rw[zK (by rw[gS]; exact I),WQ,qD,oB hn hm]
  grind
 | none =>
  simp only
  rw[List.getElem?_append_right (by rw[gS]; omega),gS,List.getElem?_drop]
  grind
theorem Ii{α:Type}{mp:List Nat}{old new:List α}(wM:∀ (j b:Nat),mp[j]? = some b->b<old.length)(hlen:mp.length<=new.length){i:Nat}(hi:i<(je mp old new).length) :
  (i<old.length/\pos mp i=none)\/∃ j,j<new.length/\i=fwd mp old.length j:=by
 by_cases h:i<old.length
 ·cases hp:pos mp i with
  | none=>grind
  | some j =>
   have:=sS hp
   have hj:=(E.1 this).1
   exact .inr ⟨j,O,by unfold fwd; rw[this]⟩
 ·have R:i<old.length+(new.length-mp.length):=by simpa[je,gS]using hi
  refine .inr ⟨mp.length+(i-old.length),O,?_⟩
  unfold fwd
  grind
end Go.AM
namespace Go.AM
set_option linter.unusedSectionVars false
variable [yY]
open Go.RowKit
section
variable {Z:KS} {mp:List Nat}
theorem Da{dE l:List cL}{p1:List (Option (Nat×Nat))}(hI:Inv Z)(hn:cH mp=true)(hp:iL Z.ph mp=some p1)(R:iL Z.st mp=some l)(hr:oh (pos mp) l=some dE) :
  Inv ⟨Z.w,Z.ok,p1,dE⟩/\Tr Z ⟨Z.w,Z.ok,p1,dE⟩ (pos mp)/\dE.length=mp.length/\p1.length=mp.length/\∀ (j b:Nat),mp[j]? = some b->p1[j]? = Z.ph[b]? /\ ∃ x y:cL,Z.st[b]? = some x/\Vm (pos mp) x=some y/\dE[j]? = some y:=by
 obtain⟨a1,a2⟩:=Jp hp
 obtain⟨b1,b2⟩:=Jp R
 obtain⟨c1,c2⟩:=Jq hr
 have key:∀ (j b:Nat),mp[j]? = some b->p1[j]? = Z.ph[b]? /\ ∃ x y:cL,Z.st[b]? = some x/\Vm (pos mp) x=some y/\dE[j]? = some y:=by
  grind
 have at':∀ {j:Nat} {y:cL},dE[j]? = some y->∃ b,mp[j]? = some b:=λh=>by
  have:=(E.1 h).1
  exact⟨_,zG (O)⟩
 have hT:Tr Z ⟨Z.w,Z.ok,p1,dE⟩ (pos mp):=by
  refine⟨rfl,rfl,λb j d hf I => ?_,λb j vi hf ho => ?_,λb j v e xs hf I => ?_⟩
  ·obtain⟨h1,x,y,M,h3,h4⟩:=key j b (sS hf)
   rw[I]at M
   cases M
   simp only[Vm]at h3
   grind
  ·obtain⟨h1,x,y,M,h3,h4⟩:=key j b (sS hf)
   rcases ho with ho | ⟨v0,e0,Vu,ho,hv⟩
   ·rw[ho]at M; cases M; cases h3; exact .inl h4
   ·rw[ho]at M; cases M; cases h3; exact .inr ⟨v0,e0,Vu,h4,hv⟩
  ·obtain⟨h1,x,y,M,h3,h4⟩:=key j b (sS hf)
   rw[show dE[j]? = some (.arr v e xs)from I]at h4
   cases h4
   cases x with
   | dead=>cases h3
   | var d=>simp only[Vm]at h3; split at h3<;>cases h3
   | arr v0 e0 Vu=>cases h3; exact⟨M,h1⟩
 refine⟨⟨by show p1.length=dE.length; omega,hI.bN,λj blk n h => ?_,λj j' blk n n' h h' => ?_,λj y h => ?_,hI.gl⟩,hT,O,a1,key⟩
 ·obtain⟨b,I⟩:∃ b,mp[j]? = some b:=⟨_,zG (by have:j<p1.length:=(E.1 h).1; omega)⟩
  exact hI.apart b blk n ((a2 j b I).1.symm.trans h)
 ·obtain⟨b,I⟩:∃ b,mp[j]? = some b:=⟨_,zG (by have:j<p1.length:=(E.1 h).1; omega)⟩
  obtain⟨b',Ke⟩:∃ b,mp[j']? = some b:=⟨_,zG (by have:j'<p1.length:=(E.1 h').1; omega)⟩
  have:=hI.inj b b' blk n n' ((a2 j b I).1.symm.trans h) ((a2 j' b' Ke).1.symm.trans h')
  subst this
  exact Option.some.inj ((oB hn I).symm.trans (oB hn Ke))
 ·obtain⟨b,I⟩:=at' h
  obtain⟨h1,x,y',M,h3,h4⟩:=key j b I
  rw[show dE[j]? = some y from h]at h4
  cases h4
  exact hT.blk h1 (hI.blk b x M) h3
theorem Kp{κ1:KS}{dE yZ l:List cL}{p1:List (Option (Nat×Nat))}(hI:Inv Z)(hn:cH mp=true)(hp:iL Z.ph mp=some p1)(R:iL Z.st mp=some l)(hr:oh (pos mp) l=some dE)
  (Vz:Inv κ1) (N:Ext ⟨Z.w,Z.ok,p1,dE⟩ κ1) (hr2:oh (λj=>some (fwd mp Z.st.length j)) κ1.st=some yZ) :
  ∃ Y:KS,Y.w=κ1.w/\Y.st=je mp Z.st yZ/\Inv Y/\Ext Z Y/\Tr κ1 Y (λj=>some (fwd mp Z.st.length j)):=by
 obtain⟨hIs,hTs,s1,s2,key⟩:=Da hI hn hp R hr
 obtain⟨r1,r2⟩:=Jq hr2
 have wM:∀ (j b:Nat),mp[j]? = some b->b<Z.st.length:=λj b hj=>by obtain⟨_,x,_,h,_⟩:=key j b hj; exact(E.1 h).1
 have znn:∀ (j b:Nat),mp[j]? = some b->b<Z.ph.length:=λj b hj=>by rw[hI.len]; exact wM j b hj
 have hm1:mp.length<=κ1.st.length:=by have:=N.Fz; simp only at this; omega
 have hm2:mp.length<=yZ.length:=O
 have Kf:mp.length<=κ1.ph.length:=by rw[Vz.len]; exact hm1
 let fw:=fwd mp Z.st.length
 have hlen:(je mp Z.ph κ1.ph).length=(je mp Z.st yZ).length:=by simp[je,gS,hI.len,Vz.len,r1]
 -- what lies where
 have cst:∀ {j:Nat} {x:cL},κ1.st[j]? = some x->∃ y,(je mp Z.st yZ)[fw j]? = some y/\Vm (λj=>some (fw j)) x=some y:=by
  intro j x hj
  obtain⟨y,h1,M⟩:=r2 j x hj
  exact⟨y,by rw[DQ hn wM hm2 (by rw[r1]; exact(E.1 hj).1)]; exact h1,M⟩
 have cph:∀ {j:Nat},j<κ1.st.length->(je mp Z.ph κ1.ph)[fw j]? = κ1.ph[j]? := by
  intro j hj
  have:=DQ (old:=Z.ph) (new:=κ1.ph) hn znn Kf (j:=j) (by rw[Vz.len]; exact hj)
  rw[hI.len]at this
  exact this
 have ust:∀ {i:Nat},i<Z.st.length->pos mp i=none->(je mp Z.st yZ)[i]? = Z.st[i]? := λhi h=>lH hi h
 have uph:∀ {i:Nat},i<Z.st.length->pos mp i=none->(je mp Z.ph κ1.ph)[i]? = Z.ph[i]? := λhi h=>lH (by rw[hI.len]; exact hi) h
 have UY:∀ {i:Nat},i<(je mp Z.st yZ).length->(i<Z.st.length/\pos mp i=none)\/∃ j,j<κ1.st.length/\i=fw j:=by
  intro i hi
  rcases Ii wM hm2 hi with h | ⟨j,h1,M⟩
  ·grind
  ·grind
 have RC:∀ {j b:Nat},mp[j]? = some b->fw j=b:=λh=>by simp only[fw,fwd,h]
 have zr2:∀ {j:Nat},mp[j]? = none->Z.st.length<=fw j:=λh=>by simp only[fw,fwd,h]; omega
 -- the part's own blocks
 have sph:∀ {j:Nat} {q:Nat×Nat},p1[j]? = some (some q)->∃ b,mp[j]? = some b/\Z.ph[b]? = some (some q):=by
  intro j q h
  have hj:=(E.1 h).1
  obtain⟨b,I⟩:∃ b,mp[j]? = some b:=⟨_,zG (O)⟩
  grind
 have hT:Tr κ1 ⟨κ1.w,κ1.ok,je mp Z.ph κ1.ph,je mp Z.st yZ⟩ (λj=>some (fw j)):=by
  refine⟨rfl,rfl,λj b d hf hj => ?_,λj b vi hf ho => ?_,λj b v e xs hf I => ?_⟩
  ·cases hf
   obtain⟨y,h1,M⟩:=cst hj
   simp only[Vm]at M
   grind
  ·cases hf
   rcases ho with ho | ⟨v0,e0,Vu,ho,hv⟩
   ·obtain⟨y,h1,M⟩:=cst ho; cases M; exact .inl h1
   ·obtain⟨y,h1,M⟩:=cst ho; cases M; exact .inr ⟨v0,e0,Vu,h1,hv⟩
  ·cases hf
   have I:(je mp Z.st yZ)[fw j]? = some (.arr v e xs):=I
   have JI:=(E.1 I).1
   have hj:j<κ1.st.length:=by
    by_cases hj:j<κ1.st.length
    ·exact hj
    ·exfalso
     cases hm:mp[j]? with
     | some c=>have:=(E.1 hm).1; omega
     | none =>
      have h3:fw j=Z.st.length+(j-mp.length):=by simp only[fw,fwd,hm]
      have h4:(je mp Z.st yZ).length=Z.st.length+(yZ.length-mp.length):=by simp[je,gS]
      omega
   obtain⟨y,h1,M⟩:=cst (zG hj)
   rw[I]at h1
   cases h1
   refine⟨?_,cph hj⟩
   rw[zG hj]
   generalize κ1.st[j]=x at M
   cases x with
   | dead=>cases M
   | var d=>simp only[Vm]at M; split at M<;>cases M
   | arr v0 e0 Vu=>cases M; rfl
 -- BM blocks lie as they lay
 have BM:∀ {i blk n:Nat},pos mp i=none->Z.ph[i]? = some (some (blk,n))->κ1.w.heap[blk]? = Z.w.heap[blk]? := by
  intro i blk n hi h
  obtain⟨g1,g2⟩:=hI.apart i blk n h
  refine N.frame blk g1 λj m hj => ?_
  obtain⟨b,I0,Ew⟩:=sph hj
  have:=hI.inj i b blk n m h Ew
  subst this
  rw[oB hn I0]at hi
  cases hi
 have hE:Ext Z ⟨κ1.w,κ1.ok,je mp Z.ph κ1.ph,je mp Z.st yZ⟩:=by
  refine⟨N.os,N.tape,N.output,N.size,N.same,λk hk => ?_,λi blk n h => ?_,λi d hi => ?_,λi v0 e Vu hi => ?_,λi hi => ?_,?_,λk hk Te => ?_⟩
  ·rcases N.fresh k hk with h | h | ⟨j,n,h⟩
   ·exact .inl h
   ·exact .inr (.inl h)
   ·obtain⟨b,_,I⟩:=sph h; exact .inr (.inr ⟨b,n,I⟩)
  ·have h:(je mp Z.ph κ1.ph)[i]? = some (some (blk,n)):=h
   have H3:i<(je mp Z.st yZ).length:=by rw[<- hlen]; exact(E.1 h).1
   rcases UY H3 with⟨h1,M⟩ | ⟨j,h1,rfl⟩
   ·rw[uph h1 M]at h; exact .inl h
   ·rw[cph h1]at h
    rcases N.phs j blk n h with h3 | h3
    ·obtain⟨b,I0,Ew⟩:=sph h3
     rw[RC I0]; exact .inl Ew
    ·exact .inr h3
  ·have RQ:=(E.1 hi).1
   cases Dv:pos mp i with
   | none=>exact⟨⟨d,(ust RQ Dv).trans hi⟩,uph RQ Dv⟩
   | some j =>
    have hmj:=sS Dv
    obtain⟨k1,x,y,k2,k3,k4⟩:=key j i hmj
    rw[hi]at k2
    cases k2
    simp only[Vm]at k3
    split at k3
    ·cases k3
     obtain⟨⟨d',g1⟩,g2⟩:=N.var j _ k4
     obtain⟨⟨d'',q1⟩,q2⟩:=hT.var j (fw j) d' rfl g1
     rw[RC hmj]at q1 q2
     exact⟨⟨d'',q1⟩,q2.trans (g2.trans k1)⟩
    ·cases k3
  ·have RQ:=(E.1 hi).1
   cases Dv:pos mp i with
   | none=>exact .inr ⟨v0,Vu,(ust RQ Dv).trans hi,zJ _,λ_=>⟨uph RQ Dv,rfl⟩⟩
   | some j =>
    have hmj:=sS Dv
    obtain⟨k1,x,y,k2,k3,k4⟩:=key j i hmj
    rw[hi]at k2
    cases k2
    cases k3
    rcases N.arr j v0 e Vu k4 with g | ⟨v1,xs1,g1,g2,g3⟩
    ·obtain⟨y,q1,q2⟩:=cst g
     cases q2
     rw[RC hmj]at q1
     exact .inl q1
    ·obtain⟨y,q1,q2⟩:=cst g1
     cases q2
     rw[RC hmj]at q1
     refine .inr ⟨v1,xs1,q1,g2,λhe=>⟨?_,(g3 he).2⟩⟩
     have h4:=cph (E.1 g1).1
     rw[RC hmj]at h4
     exact h4.trans ((g3 he).1.trans k1)
  ·have RQ:=(E.1 hi).1
   cases Dv:pos mp i with
   | none=>exact(ust RQ Dv).trans hi
   | some j =>
    have hmj:=sS Dv
    obtain⟨k1,x,y,k2,k3,k4⟩:=key j i hmj
    rw[hi]at k2
    cases k2
    cases k3
    obtain⟨y,q1,q2⟩:=cst (N.dead j k4)
    cases q2
    rw[RC hmj]at q1
    exact q1
  ·show Z.st.length<=(je mp Z.st yZ).length
   simp[je,gS]
  ·exact N.frame k hk λj n hj=>by obtain⟨b,_,I⟩:=sph hj; exact Te b n I
 refine⟨⟨κ1.w,κ1.ok,je mp Z.ph κ1.ph,je mp Z.st yZ⟩,rfl,rfl,⟨hlen,Vz.bN,λi blk n h => ?_,λi i' blk n n' h h' => ?_,λi y h => ?_,Vz.gl⟩,hE,hT⟩
 ·have h:(je mp Z.ph κ1.ph)[i]? = some (some (blk,n)):=h
  have H3:i<(je mp Z.st yZ).length:=by rw[<- hlen]; exact(E.1 h).1
  rcases UY H3 with⟨h1,M⟩ | ⟨j,h1,rfl⟩
  ·rw[uph h1 M]at h
   obtain⟨g1,g2⟩:=hI.apart i blk n h
   refine⟨Nat.lt_of_lt_of_le g1 N.size,λhk => ?_⟩
   rcases N.fresh blk hk with hk | hk | ⟨j,m,hj⟩
   ·exact g2 hk
   ·simp only at hk; omega
   ·obtain⟨b,I0,Ew⟩:=sph hj
    have:=hI.inj i b blk n m h Ew
    subst this
    rw[oB hn I0]at M
    cases M
  ·rw[cph h1]at h
   exact Vz.apart j blk n h
 ·have h:(je mp Z.ph κ1.ph)[i]? = some (some (blk,n)):=h
  have h':(je mp Z.ph κ1.ph)[i']? = some (some (blk,n')):=h'
  have z0X:i<(je mp Z.st yZ).length:=by rw[<- hlen]; exact(E.1 h).1
  have L5:i'<(je mp Z.st yZ).length:=by rw[<- hlen]; exact(E.1 h').1
  have mixed:∀ {i j n n':Nat},i<Z.st.length->pos mp i=none->j<κ1.st.length->Z.ph[i]? = some (some (blk,n))->κ1.ph[j]? = some (some (blk,n'))->False:=by
   intro i j n n' h1 M h3 h4 h5
   rcases N.phs j blk n' h5 with h6 | h6
   ·obtain⟨b,I0,Ew⟩:=sph h6
    have:=hI.inj i b blk n n' h4 Ew
    subst this
    rw[oB hn I0]at M
    cases M
   ·have:=(hI.apart i blk n h4).1
    simp only at h6
    omega
  rcases UY z0X with⟨h1,M⟩ | ⟨j,h1,rfl⟩
  ·rw[uph h1 M]at h
   rcases UY L5 with⟨h3,h4⟩ | ⟨j',h3,rfl⟩
   ·rw[uph h3 h4]at h'; exact hI.inj i i' blk n n' h h'
   ·rw[cph h3]at h'; exact(mixed h1 M h3 h h').elim
  ·rw[cph h1]at h
   rcases UY L5 with⟨h3,h4⟩ | ⟨j',h3,rfl⟩
   ·rw[uph h3 h4]at h'; exact(mixed h3 h4 h1 h' h).elim
   ·rw[cph h3]at h'
    rw[Vz.inj j j' blk n n' h h']
 ·have h:(je mp Z.st yZ)[i]? = some y:=h
  rcases UY (E.1 h).1 with⟨h1,M⟩ | ⟨j,h1,rfl⟩
  ·rw[ust h1 M]at h
   exact(hI.blk i y h).mono hE (uph h1 M) λblk n I=>BM M I
  ·obtain⟨z,q1,q2⟩:=cst (zG h1)
   rw[h]at q1
   cases q1
   exact hT.blk (cph h1) (Vz.blk j _ (zG h1)) q2
end
end Go.AM
namespace Go.AM
set_option linter.unusedSectionVars false
variable [yY]
open Go.RowKit
inductive AK where
 | any | cur | sub | ptr | wi (f:Nat) | agg
structure hZ where
 ks:List AK
 sh:uq
 dz:List Gh
 out:uq
 nr:Nat
 F:sh.den->T out.den
def Bp(fr:Fr):Nat->Nat->Option (List D)
 | 0,_=>some []
 | n+1,i=>match fr.get i with
  | some d=>match Bp fr n (i+1)with | some r=>some (d::r) | none=>none
  | none=>none
def oL(nr:Nat)(fr:Fr):Option (List D):=Bp fr nr 0
def z2s:List (Nat×Nat)->List D->Nat->Option Nat
 | p::r,.ptr b' _::ds,b=>bif V p.1 b then some b' else z2s r ds b
 | _,_,_=>none
def zh2(b:Nat):Ck->D->Option Nat
 | .ptr c _,.ptr b' _=>bif V c b then some b' else none
 | .cur c _,.ms b' _ _ _ _=>bif V c b then some b' else none
 | .wi _ l,.wi _ ds=>z2s l ds b
 | .yL c,.yL b'=>bif V c b then some b' else none
 | _,_=>none
def zcP(fr:Fr)(b:Nat):List (Nat×Ck)->Option Nat
 | []=>none
 | (s,k)::r=>match fr.get s with
  | some d=>match zh2 b k d with | some b'=>some b' | none=>zcP fr b r
  | none=>zcP fr b r
def Fc(b:Nat):List Mc->List D->Option Nat
 | .pt c::r,.ptr b' _::ds=>bif V c b then some b' else Fc b r ds
 | .pt _::r,_::ds=>Fc b r ds
 | .im _::r,_::ds=>Fc b r ds
 | .rp _::r,_::ds=>Fc b r ds
 | _,_=>none
def Ur(b:Nat):List Sk->List D->Option Nat
 | .im τ::r,ds=>Ur b r (ds.drop τ.size)
 | .row c _::r,.ms b' _ _ _ _::ds=>bif V c b then some b' else Ur b r ds
 | .row _ _::r,_::ds=>Ur b r ds
 | .op c _::r,.en b' _::ds=>bif V c b then some b' else Ur b r ds
 | .op _ _::r,_::ds=>Ur b r ds
 | .un::r,_::ds=>Ur b r ds
 | .nl::r,_::ds=>Ur b r ds
 | _,_=>none
def JS(fr:Fr)(b:Nat):List It->Option Nat
 | []=>none
 | .s s (.mclo _ ms)::r=>match fr.get s with
  | some (.wi _ l)=>match Fc b ms l with | some b'=>some b' | none=>JS fr b r
  | _=>JS fr b r
 | .s s (.sub c _)::r=>match fr.get s with
  | some (.ms b' _ _ _ _)=>bif V c b then some b' else JS fr b r
  | _=>JS fr b r
 | .s s (.st ks)::r=>match fr.get s with
  | some d=>match Ur b ks (xy d)with | some b'=>some b' | none=>JS fr b r
  | none=>JS fr b r
 | _::r=>JS fr b r
def SC(st:St)(b:Nat):List Bk->List (Option Nat)->Option Nat
 | .cvar k::r,some p::ps=>match st[p]? with
  | some (.var d)=>match zh2 b k d with | some b'=>some b' | none=>SC st b r ps
  | _=>SC st b r ps
 | .var (.st ks)::r,some p::ps=>match st[p]? with
  | some (.var d)=>match Ur b ks (xy d)with | some b'=>some b' | none=>SC st b r ps
  | _=>SC st b r ps
 | _::r,_::ps=>SC st b r ps
 | _,_=>none
def Sy(sh:uq)(fr:Fr):Nat->List Bk->List (Option Nat)
 | _,[]=>[]
 | b,_::r=>(match zcP fr b sh.cs with | some b'=>some b' | none=>JS fr b sh.fq)::Sy sh fr (b+1) r
def Sz(sh:uq)(st:St)(m:List (Option Nat)):Nat->List (Option Nat)->List (Option Nat)
 | _,[]=>[]
 | b,some b'::r=>some b'::Sz sh st m (b+1) r
 | b,none::r=>SC st b sh.bs m::Sz sh st m (b+1) r
def DG:List (Option Nat)->Option (List Nat)
 | []=>some []
 | some b::r=>match DG r with | some l=>some (b::l) | none=>none
 | none::_=>none
def mapOf(sh:uq)(fr:Fr)(st:St):Option (List Nat):=let m:=Sy sh fr 0 sh.bs
 let m:=Sz sh st m 0 m
 DG (Sz sh st m 0 m)
def hZ.back(d:hZ)(mp:List Nat)(st:St)(y:d.out.den):T (GI×St):=match oL d.nr (d.out.fr y),oh (λj=>some (fwd mp st.length j)) (d.out.st y)with
 | some ds,some yZ=>match Xp (λj=>some (fwd mp st.length j)) ds with
  | some Ce=>.ret (.ret Ce,je mp st yZ)
  | none=>.fail
 | _,_=>.fail
def hZ.inner(d:hZ)(mp:List Nat)(fr:Fr)(st:St):T (GI×St):=match iL st mp with
 | none=>.fail
 | some l=>match oh (pos mp) l with
  | none=>.fail
  | some dE=>(d.sh.un (WB (pos mp) fr) dE).bind λx=>(d.F x).bind λy=>d.back mp st y
def hZ.S(d:hZ)(args:List D)(st:St):T (GI×St) :=
 match mapOf d.sh (gh d.dz (yq args 0) st).1 (gh d.dz (yq args 0) st).2 with
 | none=>.fail
 | some mp=>bif cH mp&&zM mp.length d.sh.bs.length&&V args.length d.ks.length then d.inner mp (gh d.dz (yq args 0) st).1 (gh d.dz (yq args 0) st).2 else .fail
def hZ.Qg{α:Type}(d:hZ)(mp:List Nat)(st:St)(y:d.out.den)(k:List D->St->T α):T α:=match oL d.nr (d.out.fr y),oh (λj=>some (fwd mp st.length j)) (d.out.st y)with
 | some ds,some yZ=>match Xp (λj=>some (fwd mp st.length j)) ds with
  | some Ce=>k Ce (je mp st yZ)
  | none=>.fail
 | _,_=>.fail
def hZ.X3{α:Type}(d:hZ)(mp:List Nat)(fr:Fr)(st:St)(k:List D->St->T α):T α:=match iL st mp with
 | none=>.fail
 | some l=>match oh (pos mp) l with
  | none=>.fail
  | some dE=>(d.sh.un (WB (pos mp) fr) dE).bind λx=>(d.F x).bind λy=>d.Qg mp st y k
def hZ.K{α:Type}(d:hZ)(args:List D)(st:St)(k:List D->St->T α):T α :=
 match mapOf d.sh (gh d.dz (yq args 0) st).1 (gh d.dz (yq args 0) st).2 with
 | none=>.fail
 | some mp=>bif cH mp&&zM mp.length d.sh.bs.length&&V args.length d.ks.length then d.X3 mp (gh d.dz (yq args 0) st).1 (gh d.dz (yq args 0) st).2 k else .fail
theorem hZ.Tl{α:Type}{d:hZ}{args:List D}{st:St}{k:List D->St->T α}{r:α}(h:(d.K args st k).leads r):∃ ds ql,(d.S args st).leads (.ret ds,ql)/\(k ds ql).leads r:=by
 unfold hZ.K at h
 unfold hZ.S
 split at h
 ·exact h.elim
 ·rename_i mp Kf
  cases hc:cH mp&&zM mp.length d.sh.bs.length&&V args.length d.ks.length with
  | false=>rw[hc]at h; exact h.elim
  | true =>
   rw[hc,cond_true]at h
   unfold hZ.X3 at h
   unfold hZ.inner
   split at h
   ·exact h.elim
   ·rename_i l R
    split at h
    ·exact h.elim
    ·rename_i dE hst1
     obtain⟨x,h1,h⟩:=T.zd.1 h
     obtain⟨y,M,h⟩:=T.zd.1 h
     unfold hZ.Qg at h
     split at h
     ·rename_i ds yZ e1 e2
      split at h
      ·rename_i Ce e3
       refine⟨Ce,_,T.zd.2 ⟨x,h1,T.zd.2 ⟨y,M,?_⟩⟩,h⟩
       unfold hZ.back
       simp only[e1,e2,e3]
       rfl
      ·exact h.elim
     ·exact h.elim
def cD(Dr:Tk)(g:Nat)(d:hZ):Prop:=∀ (Z:KS) (x:d.sh.den) (xb:List Value) (y:d.out.den),Z.st=d.sh.st x->(d.F x).leads y->Inv Z->xb.length=d.ks.length ->
 Rel Z xb.length (d.sh.fr x).get { tmps:=xb.toArray,defers:=[] } ->
 Dr g xb.toArray Z.w λe w'=>∃ (Y:KS) (ds:List D),Y.w=w'/\Y.st=d.out.st y/\Inv Y/\Ext Z Y/\oL d.nr (d.out.fr y)=some ds/\jd Y (.ret ds) e
def xw(P:Program)(g:Nat)(d:hZ):Prop:=∀ (Z:KS) (x:d.sh.den) (xb:List Value) (y:d.out.den),Z.st=d.sh.st x->(d.F x).leads y->Inv Z->xb.length=d.ks.length ->
 Rel Z xb.length (d.sh.fr x).get { tmps:=xb.toArray,defers:=[] } ->
 gA P g xb.toArray Z.w λe w'=>∃ (Y:KS) (ds:List D),Y.w=w'/\Y.st=d.out.st y/\Inv Y/\Ext Z Y/\oL d.nr (d.out.fr y)=some ds/\jd Y (.ret ds) e
theorem Dc{Z Y:KS}{f:Nat->Option Nat}(h:Tr Z Y f){ds Ce:List D}{v:Value}(J:RD Z (eO ds) v)(hr:Xp f ds=some Ce):RD Y (eO Ce) v:=by
 match ds,hr with
 | [],hr =>
  cases hr
  cases J with
  | eG _ vs R hh =>
   obtain rfl:vs=[]:=zY R.symm
   exact .eG [] [] rfl (λi h=>absurd h (qN i))
 | [d],hr =>
  simp only[Xp]at hr
  split at hr
  ·rename_i d' h1
   cases hr
   exact h.rd J h1
  ·cases hr
 | d::e::r,hr =>
  cases J with
  | eG _ vs R hh =>
   have hR:=h.rds (⟨R,hh⟩:wN Z (d::e::r) vs) hr
   simp only[Xp]at hr
   split at hr
   ·split at hr
    ·rename_i r' M
     cases hr
     split at M
     ·split at M
      ·cases M; exact .eG _ vs hR.1 hR.2
      ·cases M
     ·cases M
    ·cases hr
   ·cases hr
theorem Q1{α β:Type}{l:List α}{m:List β}(h:l.length=m.length):∀ {mp:List Nat} {r:List α},iL l mp=some r->∃ q,iL m mp=some q
 | [],_,_=>⟨[],rfl⟩
 | b::mp,r,hr=>by
  simp only[iL]at hr
  split at hr
  ·rename_i x N
   split at hr
   ·rename_i y hy
    obtain⟨q,hq⟩:=Q1 h hy
    have I:b<m.length:=by have:=(E.1 N).1; omega
    exact⟨m[b]::q,by simp only[iL,zG I,hq]⟩
   ·cases hr
  ·cases hr
theorem hZ.zde{Dr:Tk}(zgd:∀ {g a w} {hl R':Ending->World->Prop},Dr g a w hl->(∀ e w',hl e w'->R' e w')->Dr g a w R'){g:Nat}{d:hZ}(h:cD Dr g d):zlV Dr g d.S:=by
 intro Z args xb rs ql R hI ha
 have hR0:Rel Z xb.length (yq args 0).get { tmps:=xb.toArray,defers:=[] }:=by
  have:=Ko (n:=xb.length) ha (by rw[ha.1]; exact zJ _)
  simpa[show(Hp.df:List Deferred)=[]from rfl]using this
 obtain⟨κ0,w1,w2,w3,w4,w5⟩:=sI d.dz (yq args 0) Z hI hR0
 unfold hZ.S at R
 rw[<- w2]at R
 split at R
 ·exact R.elim
 ·rename_i mp Kf
  cases hc:cH mp&&zM mp.length d.sh.bs.length&&V args.length d.ks.length with
  | false=>rw[hc]at R; exact R.elim
  | true =>
   rw[hc,cond_true]at R
   simp only[X]at hc
   obtain⟨⟨hn,hle⟩,hlen⟩:=hc
   unfold hZ.inner at R
   split at R
   ·exact R.elim
   ·rename_i l Yn
    split at R
    ·exact R.elim
    ·rename_i dE hst1
     obtain⟨x,h1,R⟩:=T.zd.1 R
     obtain⟨y,M,R⟩:=T.zd.1 R
     obtain⟨p1,hpp⟩:=Q1 (m:=κ0.ph) w3.len.symm Yn
     obtain⟨s1,s2,s3,s4,s5⟩:=Da w3 hn hpp Yn hst1
     have HO:Rel ⟨κ0.w,κ0.ok,p1,dE⟩ xb.length (WB (pos mp) (gh d.dz (yq args 0) Z.st).1).get { tmps:=xb.toArray,defers:=[] } :=
      ⟨w5.size,w5.defers,λs d' J=>by
       obtain⟨d0,q1,q2⟩:=Wb J
       obtain⟨v,q3,q4⟩:=w5.get s d0 q1
       exact⟨v,q3,s2.rd q4 q2⟩⟩
     obtain⟨κ2,u1,u2,u3,u4,u5,_⟩:=d.sh.K5 (κ0:=⟨κ0.w,κ0.ok,p1,dE⟩) (Z:=⟨κ0.w,κ0.ok,p1,dE⟩) (Ext.refl _) s1 HO (by show dE.length<=_; rw[s3]; exact zE hle) h1
     have hw:κ2.w=Z.w:=u1.trans w1
     have hdo:=h κ2 x xb y u2 M u3 (by rw[<- ha.1]; exact B hlen) u5
     rw[hw]at hdo
     refine zgd hdo ?_
     rintro e w' ⟨κ3,ds,rfl,g1,g2,g3,g4,v,rfl,g5⟩
     unfold hZ.back at R
     rw[g4,<- g1]at R
     split at R
     ·rename_i ds0 yZ e1 e2
      cases e1
      split at R
      ·rename_i Ce hds'
       cases R
       obtain⟨Y,k1,k2,k3,k4,k5⟩:=Kp w3 hn hpp Yn hst1 g2 (u4.trans g3) e2
       exact⟨Y,k1,k2,k3,w4.trans k4,v,rfl,Dc k5 g5 hds'⟩
      ·exact R.elim
     ·exact R.elim
theorem hZ.snd{P:Program}{g:Nat}{d:hZ}(h:xw P g d):Dp P g d.S:=hZ.zde (Dr:=gA P) gA.mono h
structure lD where
 ks:List AK
 sh:uq
 dz:List Gh
 out:uq
 nr:Nat
 pt:Nat
 b9:uq
 two:Option Nat
 F:sh.den->T (out.den⊕b9.den)
abbrev lD.s(d:lD):hZ:=⟨d.ks,d.sh,d.dz,d.out,d.nr,λ_=>.fail⟩
abbrev lD.s2(d:lD)(n:Nat):hZ:=⟨d.ks,d.sh,d.dz,d.b9,n,λ_=>.fail⟩
def lD.z2K{α:Type}(d:lD)(mp:List Nat)(st:St)(z:d.b9.den)(kp:D->St->T α):T α:=match(d.b9.fr z).get 0,oh (λj=>some (fwd mp st.length j)) (d.b9.st z)with
 | some (.qi τ x),some yZ=>kp (.iface d.pt (.qi τ x)) (je mp st yZ)
 | _,_=>.fail
def lD.M1{α:Type}(d:lD)(mp:List Nat)(st:St)(z:d.b9.den)(k:List D->St->T α)(kp:D->St->T α):T α:=match d.two with
 | none=>d.z2K mp st z kp
 | some n=>(d.s2 n).Qg mp st z k
def lD.X3{α:Type}(d:lD)(mp:List Nat)(fr:Fr)(st:St)(k:List D->St->T α)(kp:D->St->T α):T α:=match iL st mp with
 | none=>.fail
 | some l=>match oh (pos mp) l with
  | none=>.fail
  | some dE=>(d.sh.un (WB (pos mp) fr) dE).bind λx=>(d.F x).bind (Sum.elim (λy=>d.s.Qg mp st y k) (λz=>d.M1 mp st z k kp))
def lD.K{α:Type}(d:lD)(args:List D)(st:St)(k:List D->St->T α)(kp:D->St->T α):T α :=
 match mapOf d.sh (gh d.dz (yq args 0) st).1 (gh d.dz (yq args 0) st).2 with
 | none=>.fail
 | some mp=>bif cH mp&&zM mp.length d.sh.bs.length&&V args.length d.ks.length then d.X3 mp (gh d.dz (yq args 0) st).1 (gh d.dz (yq args 0) st).2 k kp else .fail
def lD.S(d:lD)(args:List D)(st:St):T (GI×St):=d.K args st (λds ql=>.ret (.ret ds,ql)) (λp ql=>.ret (.b9 p,ql))
theorem lD.Tl{α:Type}{d:lD}{args:List D}{st:St}{k:List D->St->T α}{kp:D->St->T α}{r:α}(h:(d.K args st k kp).leads r) :
  (∃ ds ql,(d.S args st).leads (.ret ds,ql)/\(k ds ql).leads r)\/∃ p ql,(d.S args st).leads (.b9 p,ql)/\(kp p ql).leads r:=by
 unfold lD.K at h
 unfold lD.S lD.K
 split at h
 ·exact h.elim
 ·rename_i mp Kf
  cases hc:cH mp&&zM mp.length d.sh.bs.length&&V args.length d.ks.length with
  | false=>rw[hc]at h; exact h.elim
  | true =>
   rw[hc,cond_true]at h
   unfold lD.X3 at h
   unfold lD.X3
   split at h
   ·exact h.elim
   ·rename_i l R
    split at h
    ·exact h.elim
    ·rename_i dE hst1
     obtain⟨x,h1,h⟩:=T.zd.1 h
     obtain⟨y,M,h⟩:=T.zd.1 h
     cases y with
     | inl y =>
      simp at h
      unfold hZ.Qg at h
      split at h
      ·rename_i ds yZ e1 e2
       split at h
       ·rename_i Ce e3
        refine .inl ⟨Ce,_,T.zd.2 ⟨x,h1,T.zd.2 ⟨.inl y,M,?_⟩⟩,h⟩
        simp
        unfold hZ.Qg
        simp only[e1,e2,e3]
        rfl
       ·exact h.elim
      ·exact h.elim
     | inr z =>
      simp at h
      unfold lD.M1 at h
      split at h
      ·rename_i h0
       unfold lD.z2K at h
       split at h
       ·rename_i τ p yZ e1 e2
        refine .inr ⟨_,_,T.zd.2 ⟨x,h1,T.zd.2 ⟨.inr z,M,?_⟩⟩,h⟩
        simp
        unfold lD.M1 lD.z2K
        simp only[h0,e1,e2]
        rfl
       ·exact h.elim
      ·rename_i n h0
       unfold hZ.Qg at h
       split at h
       ·rename_i ds yZ e1 e2
        split at h
        ·rename_i Ce e3
         refine .inl ⟨Ce,_,T.zd.2 ⟨x,h1,T.zd.2 ⟨.inr z,M,?_⟩⟩,h⟩
         simp
         unfold lD.M1 hZ.Qg
         simp only[h0,e1,e2,e3]
         rfl
        ·exact h.elim
       ·exact h.elim
def jB(P:Program)(g:Nat)(d:lD):Prop:=∀ (Z:KS) (x:d.sh.den) (xb:List Value) (r:d.out.den⊕d.b9.den),Z.st=d.sh.st x->(d.F x).leads r->Inv Z->xb.length=d.ks.length ->
 Rel Z xb.length (d.sh.fr x).get { tmps:=xb.toArray,defers:=[] } ->
 gA P g xb.toArray Z.w λe w'=>∃ Y:KS,Y.w=w'/\Inv Y/\Ext Z Y /\
  ((∃ (y:d.out.den) (ds:List D),r=.inl y/\Y.st=d.out.st y/\oL d.nr (d.out.fr y)=some ds/\jd Y (.ret ds) e) \/
   (d.two=none/\∃ (z:d.b9.den) (p:D),r=.inr z/\Y.st=d.b9.st z/\(d.b9.fr z).get 0=some p/\jd Y (.b9 (.iface d.pt p)) e) \/
   ∃ (n:Nat) (z:d.b9.den) (ds:List D),d.two=some n/\r=.inr z/\Y.st=d.b9.st z/\oL n (d.b9.fr z)=some ds/\jd Y (.ret ds) e)
theorem lD.snd{P:Program}{g:Nat}{d:lD}(h:jB P g d):Dp P g d.S:=by
 intro Z args xb rs ql R hI ha
 have hR0:Rel Z xb.length (yq args 0).get { tmps:=xb.toArray,defers:=[] }:=by
  have:=Ko (n:=xb.length) ha (by rw[ha.1]; exact zJ _)
  simpa[show(Hp.df:List Deferred)=[]from rfl]using this
 obtain⟨κ0,w1,w2,w3,w4,w5⟩:=sI d.dz (yq args 0) Z hI hR0
 unfold lD.S lD.K at R
 rw[<- w2]at R
 split at R
 ·exact R.elim
 ·rename_i mp Kf
  cases hc:cH mp&&zM mp.length d.sh.bs.length&&V args.length d.ks.length with
  | false=>rw[hc]at R; exact R.elim
  | true =>
   rw[hc,cond_true]at R
   simp only[X]at hc
   obtain⟨⟨hn,hle⟩,hlen⟩:=hc
   unfold lD.X3 at R
   split at R
   ·exact R.elim
   ·rename_i l Yn
    split at R
    ·exact R.elim
    ·rename_i dE hst1
     obtain⟨x,h1,R⟩:=T.zd.1 R
     obtain⟨y,M,R⟩:=T.zd.1 R
     obtain⟨p1,hpp⟩:=Q1 (m:=κ0.ph) w3.len.symm Yn
     obtain⟨s1,s2,s3,s4,s5⟩:=Da w3 hn hpp Yn hst1
     have HO:Rel ⟨κ0.w,κ0.ok,p1,dE⟩ xb.length (WB (pos mp) (gh d.dz (yq args 0) Z.st).1).get { tmps:=xb.toArray,defers:=[] } :=
      ⟨w5.size,w5.defers,λs d' J=>by
       obtain⟨d0,q1,q2⟩:=Wb J
       obtain⟨v,q3,q4⟩:=w5.get s d0 q1
       exact⟨v,q3,s2.rd q4 q2⟩⟩
     obtain⟨κ2,u1,u2,u3,u4,u5,_⟩:=d.sh.K5 (κ0:=⟨κ0.w,κ0.ok,p1,dE⟩) (Z:=⟨κ0.w,κ0.ok,p1,dE⟩) (Ext.refl _) s1 HO (by show dE.length<=_; rw[s3]; exact zE hle) h1
     have hw:κ2.w=Z.w:=u1.trans w1
     have hdo:=h κ2 x xb y u2 M u3 (by rw[<- ha.1]; exact B hlen) u5
     rw[hw]at hdo
     refine hdo.mono ?_
     rintro e w' ⟨κ3,rfl,g2,g3,⟨y,ds,rfl,g1,g4,v,rfl,g5⟩ | ⟨g0,z,p,rfl,g1,g4,v,rfl,g5⟩ | ⟨n2,z,ds,g0,rfl,g1,g4,v,rfl,g5⟩⟩
     ·simp only[Sum.elim_inl]at R
      unfold hZ.Qg at R
      rw[show oL d.s.nr (d.s.out.fr y)=some ds from g4,show d.s.out.st y=κ3.st from g1.symm]at R
      split at R
      ·rename_i ds0 yZ e1 e2
       cases e1
       split at R
       ·rename_i Ce hds'
        cases R
        obtain⟨Y,k1,k2,k3,k4,k5⟩:=Kp w3 hn hpp Yn hst1 g2 (u4.trans g3) e2
        exact⟨Y,k1,k2,k3,w4.trans k4,v,rfl,Dc k5 g5 hds'⟩
       ·exact R.elim
      ·exact R.elim
     ·simp only[Sum.elim_inr]at R
      unfold lD.M1 at R
      rw[g0]at R
      simp only at R
      unfold lD.z2K at R
      rw[g4,<- g1]at R
      split at R
      ·rename_i τ q yZ e1 e2
       cases e1
       cases R
       obtain⟨Y,k1,k2,k3,k4,k5⟩:=Kp w3 hn hpp Yn hst1 g2 (u4.trans g3) e2
       refine⟨Y,k1,k2,k3,w4.trans k4,v,rfl,?_⟩
       cases g5 with
       | iface _ _ u hu=>exact .iface _ _ u (k5.rd hu rfl)
      ·exact R.elim
     ·simp only[Sum.elim_inr]at R
      unfold lD.M1 at R
      rw[g0]at R
      simp only at R
      unfold hZ.Qg at R
      rw[show oL (d.s2 n2).nr ((d.s2 n2).out.fr z)=some ds from g4,show(d.s2 n2).out.st z=κ3.st from g1.symm]at R
      split at R
      ·rename_i ds0 yZ e1 e2
       cases e1
       split at R
       ·rename_i Ce hds'
        cases R
        obtain⟨Y,k1,k2,k3,k4,k5⟩:=Kp w3 hn hpp Yn hst1 g2 (u4.trans g3) e2
        exact⟨Y,k1,k2,k3,w4.trans k4,v,rfl,Dc k5 g5 hds'⟩
       ·exact R.elim
      ·exact R.elim
end Go.AM
namespace Go.AM
def Co(sh:uq)(dz:List Gh)(args:List D)(st:St):List Nat:=bif dz.isEmpty then match mapOf sh (yq args 0) st with | some mp=>others st.length mp | none=>[]else[]
def hZ.free(d:hZ)(args:List D)(st:St):List Nat:=Co d.sh d.dz args st
def lD.free(d:lD)(args:List D)(st:St):List Nat:=Co d.sh d.dz args st
theorem F5{m b:Nat}{l:List Nat}(h:b∈others m l):b<m/\∀ x∈l,b≠x:=by
 simp only[others,List.mem_filter,List.mem_range,qF,List.any_eq_false]at h
 exact⟨h.1,λx N e=>by subst e; exact h.2 b N (qS _)⟩
theorem Uy:∀ {mp:List Nat} {b:Nat},(∀ x∈mp,b≠x)->pos mp b=none
 | [],_,_=>rfl
 | x::r,b,h=>by
  simp only[pos]
  rw[show V x b=false from by cases I:V x b with | false=>rfl | true=>exact absurd (B I).symm (h x zQ),cond_false,Uy λy hy=>h y (zI _ hy)]
theorem Yj{sh:uq}{dz:List Gh}{args:List D}{st:St}{b:Nat}(I:b∈Co sh dz args st):dz=[]/\∃ mp,mapOf sh (yq args 0) st=some mp/\b<st.length/\pos mp b=none:=by
 unfold Co at I
 cases hn:dz.isEmpty with
 | false=>grind
 | true =>
  rw[hn,cond_true]at I
  refine⟨zW.1 hn,?_⟩
  split at I
  ·rename_i mp Kf
   obtain⟨h1,M⟩:=F5 I
   exact⟨mp,Kf,h1,Uy M⟩
  ·cases I
theorem hZ.U0{d:hZ}{args:List D}{st ql:St}{rs:GI}{b:Nat}(h:(d.S args st).leads (rs,ql))(I:b∈d.free args st):ql[b]? = st[b]? := by
 obtain⟨hn,mp,Kf,wM,Wr⟩:=Yj I
 unfold hZ.S at h
 rw[hn]at h
 simp only[gh,Kf]at h
 cases hc:cH mp&&zM mp.length d.sh.bs.length&&V args.length d.ks.length with
 | false=>rw[hc]at h; exact h.elim
 | true =>
  rw[hc,cond_true]at h
  unfold hZ.inner at h
  split at h
  ·exact h.elim
  ·split at h
   ·exact h.elim
   ·obtain⟨x,_,h⟩:=T.zd.1 h
    obtain⟨y,_,h⟩:=T.zd.1 h
    unfold hZ.back at h
    split at h
    ·split at h
     ·cases h; exact lH wM Wr
     ·exact h.elim
    ·exact h.elim
theorem lD.U0{d:lD}{args:List D}{st ql:St}{rs:GI}{b:Nat}(h:(d.S args st).leads (rs,ql))(I:b∈d.free args st):ql[b]? = st[b]? := by
 obtain⟨hn,mp,Kf,wM,Wr⟩:=Yj I
 unfold lD.S lD.K at h
 rw[hn]at h
 simp only[gh,Kf]at h
 cases hc:cH mp&&zM mp.length d.sh.bs.length&&V args.length d.ks.length with
 | false=>rw[hc]at h; exact h.elim
 | true =>
  rw[hc,cond_true]at h
  unfold lD.X3 at h
  split at h
  ·exact h.elim
  ·split at h
   ·exact h.elim
   ·obtain⟨x,_,h⟩:=T.zd.1 h
    obtain⟨y,_,h⟩:=T.zd.1 h
    cases y with
    | inl y =>
     simp at h
     unfold hZ.Qg at h
     split at h
     ·split at h
      ·cases h; exact lH wM Wr
      ·exact h.elim
     ·exact h.elim
    | inr z =>
     simp at h
     unfold lD.M1 at h
     split at h
     ·unfold lD.z2K at h
      split at h
      ·cases h; exact lH wM Wr
      ·exact h.elim
     ·unfold hZ.Qg at h
      split at h
      ·split at h
       ·cases h; exact lH wM Wr
       ·exact h.elim
      ·exact h.elim
def oN:It->Bool
 | .s _ (.qi _)=>true
 | .a _=>true
 | _=>false
def W6:Bk->Bool
 | .arr _=>true
 | _=>false
def G9(o:uq):Bool:=o.cs.isEmpty&&o.fq.all oN&&o.bs.all W6
def hZ.Qs(d:hZ)(args:List D):Option (List Nat):=bif d.dz.isEmpty&&G9 d.out&&zM d.out.bs.length d.sh.bs.length then DG (Sy d.sh (yq args 0) 0 d.sh.bs)else none
theorem F3(sh:uq)(st:St)(m':List (Option Nat)):∀ (m:List (Option Nat)) (b:Nat) (l:List Nat),DG m=some l->Sz sh st m' b m=m
 | [],_,_,_=>rfl
 | some x::r,b,l,h=>by
  simp only[DG]at h
  split at h
  ·rename_i l' R; simp only[Sz,F3 sh st m' r (b+1) l' R]
  ·cases h
 | none::_,_,_,h=>by cases h
theorem z2e{sh:uq}{fr:Fr}{st:St}{l:List Nat}(h:DG (Sy sh fr 0 sh.bs)=some l):mapOf sh fr st=some l:=by
 simp only[mapOf,F3 sh st _ _ 0 l h]
 exact h
theorem DH:∀ {m:List (Option Nat)} {l:List Nat},DG m=some l->l.length=m.length
 | [],_,h=>by cases h; rfl
 | some x::r,_,h=>by
  simp only[DG]at h
  split at h
  ·rename_i l' R; cases h; simp[DH R]
  ·cases h
 | none::_,_,h=>by cases h
theorem F2(sh:uq)(fr:Fr):∀ (bs:List Bk) (b:Nat),(Sy sh fr b bs).length=bs.length
 | [],_=>rfl
 | _::r,b=>by simp only[Sy,qK,F2 sh fr r (b+1)]
theorem Vj{α:Type}{l:List α}(x:α):∀ {mp:List Nat} {r:List α},iL l mp=some r->iL (l++[x]) mp=some r/\∀ b∈mp,b<l.length
 | [],_,h=>⟨h,λb I=>by cases I⟩
 | b::mp,r,h=>by
  simp only[iL]at h
  split at h
  ·rename_i y hy
   split at h
   ·rename_i z hz
    cases h
    obtain⟨h1,M⟩:=Vj x hz
    have I:=(E.1 hy).1
    refine⟨?_,λc hc=>(zH.1 hc).elim (λe=>e▸I) (M c)⟩
    simp only[iL,zK I,hy,h1]
   ·cases h
  ·cases h
theorem Jw{α:Type}(mp:List Nat)(new:List α)(x:α):∀ (l:List α) (i:Nat),pos mp (i+l.length)=none->nE mp new i (l++[x])=nE mp new i l++[x]
 | [],i,h=>by simp only[List.length_nil,Nat.add_zero]at h; simp[nE,h]
 | y::r,i,h=>by
  have:=Jw mp new x r (i+1) (by rw[<- h]; congr 1; simp; omega)
  simp[nE,this]
theorem Bl(st0:St):∀ (bs:List Bk) (l:List Bd),bs.all W6=true->∀ b∈jD st0 bs l,∀ f,Vm f b=some b
 | [],_,_,b,I,_=>by cases I
 | .arr e::r,l,ha,b,I,f=>by
  simp only[zF,X]at ha
  cases l with
  | nil=>simp[jD]at I
  | cons z l =>
   cases z with
   | a e' xs =>
    rcases zH.1 (show b∈cL.arr xs.length e' xs::jD st0 r l from I)with rfl | I
    ·rfl
    ·exact Bl st0 r l ha.2 b I f
   | v k y=>simp[jD]at I
 | .var _::r,_,ha,_,_,_=>by simp[W6]at ha
 | .cvar _::r,_,ha,_,_,_=>by simp[W6]at ha
 | .dead::r,_,ha,_,_,_=>by simp[W6]at ha
theorem Fq:∀ (l:List cL) (f:Nat->Option Nat),(∀ b∈l,Vm f b=some b)->oh f l=some l
 | [],_,_=>rfl
 | b::r,f,h=>by simp only[oh,h b zQ,Fq r f λx N=>h x (zI _ N)]
theorem YT(st:St):∀ (fq:List It) (x:jR fq),fq.all oN=true->∀ s d,(ng st fq x).get s=some d->∀ f,rQ f d=some d
 | [],_,_,s,d,h,_=>by cases h
 | [i],x,ha,s,d,h,f=>by
  cases i with
  | s t k =>
   cases k with
   | qi τ =>
    simp only[ng,Qx,Fr.get]at h
    cases I:V t s with
    | true=>rw[I]at h; cases h; rfl
    | false=>rw[I]at h; cases h
   | _=>simp[oN]at ha
  | v k=>simp[oN]at ha
  | a e=>cases h
 | i::j::r,x,ha,s,d,h,f=>by
  have ha':oN i=true/\(j::r).all oN=true:=by simpa using ha
  cases i with
  | s t k =>
   cases k with
   | qi τ =>
    simp only[ng,Qx,Fr.get]at h
    cases I:V t s with
    | true=>rw[I]at h; cases h; rfl
    | false=>rw[I]at h; exact YT st (j::r) x.2 ha'.2 s d h f
   | _=>simp[oN]at ha'
  | v k=>simp[oN]at ha'
  | a e=>exact YT st (j::r) x.2 ha'.2 s d h f
theorem G5{fr:Fr}(hf:∀ s d,fr.get s=some d->∀ f,rQ f d=some d):∀ (n i:Nat) (ds:List D),Bp fr n i=some ds->∀ f,Xp f ds=some ds
 | 0,_,ds,h,f=>by cases h; rfl
 | n+1,i,ds,h,f=>by
  simp only[Bp]at h
  split at h
  ·rename_i d J
   split at h
   ·rename_i r hr
    cases h
    simp only[Xp,hf i d J f,G5 hf n (i+1) r hr f]
   ·cases h
  ·cases h
theorem YV(st0:St):∀ (bs:List Bk) (l:List Bd),(jD st0 bs l).length<=bs.length
 | [],l=>by simp[jD]
 | b::r,l=>by
  cases b<;>cases l<;>(try (rename_i z _; cases z))<;>simp only[jD,qK,List.length_nil]<;>first | omega | (have:=YV st0 r; grind)
theorem hZ.Gu{d:hZ}{args:List D}{oE:List Nat}(ht:d.Qs args=some oE){st ql:St}{rs:GI}(h:(d.S args st).leads (rs,ql)) :
  ql.length=st.length/\(∀ b,b<st.length->b ∉ oE->ql[b]? = st[b]?)/\∀ x,(d.S args (st++[x])).leads (rs,ql++[x]):=by
 unfold hZ.Qs at ht
 cases I:d.dz.isEmpty&&G9 d.out&&zM d.out.bs.length d.sh.bs.length with
 | false=>rw[I]at ht; cases ht
 | true =>
  rw[I,cond_true]at ht
  simp only[X]at I
  obtain⟨⟨hn,hp⟩,hle⟩:=I
  have hn:=zW.1 hn
  have hle:=zE hle
  have hm:∀ s:St,mapOf d.sh (yq args 0) s=some oE:=λs=>z2e ht
  have hTl:oE.length=d.sh.bs.length:=(DH ht).trans (F2 ..)
  unfold hZ.S at h ⊢
  rw[hn]at h
  simp only[gh,hm]at h
  cases hc:cH oE&&zM oE.length d.sh.bs.length&&V args.length d.ks.length with
  | false=>rw[hc]at h; exact h.elim
  | true =>
   rw[hc,cond_true]at h
   unfold hZ.inner at h
   split at h
   ·exact h.elim
   ·rename_i l R
    split at h
    ·exact h.elim
    ·rename_i dE hst1
     obtain⟨x,h1,h⟩:=T.zd.1 h
     obtain⟨y,M,h⟩:=T.zd.1 h
     have hpo:d.out.cs.isEmpty=true/\d.out.fq.all oN=true/\d.out.bs.all W6=true:=by
      unfold G9 at hp; simp only[X]at hp; exact⟨hp.1.1,hp.1.2,hp.2⟩
     have vX:∀ f,oh f (d.out.st y)=some (d.out.st y):=λf=>Fq _ f λb I=>Bl _ _ _ hpo.2.2 b I f
     have hfr:∀ s e,(d.out.fr y).get s=some e->∀ f,rQ f e=some e:=λs e he f=>by
      unfold uq.fr at he
      rw[zW.1 hpo.1,show z8e (d.out.st y) []=[]from rfl,zT]at he
      exact YT _ _ y hpo.2.1 s e he f
     have hlen:(d.out.st y).length<=oE.length:=by rw[hTl]; exact zV (YV _ _ _) hle
     unfold hZ.back at h
     split at h
     ·rename_i ds yZ hds hst2
      rw[vX]at hst2
      cases hst2
      rw[G5 hfr _ _ _ hds]at h
      cases h
      obtain⟨hl0,wM⟩:=Vj (.dead:cL) R
      have Wr:pos oE st.length=none:=Uy λb I e=>by have:=wM b I; omega
      have EA:(d.out.st y).drop oE.length=[]:=List.drop_eq_nil_of_le hlen
      refine⟨?_,λb I hbt=>lH I (Uy λc hc e=>hbt (e▸hc)),λz => ?_⟩
      ·simp[je,gS,EA]
      ·rw[hn]
       simp only[gh,hm]
       rw[hc,cond_true]
       unfold hZ.inner
       rw[(Vj z R).1]
       simp only[hst1]
       refine T.zd.2 ⟨x,h1,T.zd.2 ⟨y,M,?_⟩⟩
       unfold hZ.back
       rw[hds,vX]
       simp only[G5 hfr _ _ _ hds]
       show _=_
       simp only[je,EA,zT]
       rw[Jw oE _ z st 0 (by rw[qD]; exact Wr)]
     ·exact h.elim
end Go.AM
namespace Go.AM
def Vx.den:Vx->Type
 | .ty τ=>AM.den τ
 | .rp τ=>AM.den τ
 | .wi _ caps=>fP caps
def dV:List Vx->Type
 | []=>Unit
 | [p]=>p.den
 | p::q::r=>p.den×dV (q::r)
def mkP:(p:Vx)->p.den->D
 | .ty τ,x=>.qi τ x
 | .rp τ,x=>.vz τ x
 | .wi f caps,x=>.wi f (ZQ caps x)
def Jk:(l:List Vx)->dV l->List D
 | [],_=>[]
 | [p],x=>[mkP p x]
 | p::q::r,x=>mkP p x.1::Jk (q::r) x.2
def Ud:(l:List Ty)->Dq l->List D
 | [],_=>[]
 | [τ],x=>[.qi τ x]
 | τ::σ::r,x=>.qi τ x.1::Ud (σ::r) x.2
def rpX(st:St)(τ:Ty):D->T (den τ)
 | .vz _ x=>match(jP x:Option (den τ))with | some y=>.ret y | none=>.fail
 | .ptr b off=>match st[b]? with
  | some (.var d)=>match bif V off 0 then ov τ d else none with | some y=>.ret y | none=>.fail
  | _=>.fail
 | _=>.fail
def z5h(st:St):(p:UU)->D->T (den p.ty)
 | .im τ,d=>VJ st τ d
 | .rp τ,d=>rpX st τ d
def MD(st:St):(l:List UU)->List D->T (fP l)
 | [],[]=>.ret ()
 | [p],[d]=>z5h st p d
 | p::q::r,d::ds=>(z5h st p d).bind λx=>(MD st (q::r) ds).bind λy=>.ret (x,y)
 | _,_=>.fail
def unP(st:St):(p:Vx)->D->T p.den
 | .ty τ,d=>VJ st τ d
 | .rp τ,d=>rpX st τ d
 | .wi f caps,d=>match d with
  | .wi f' l=>bif V f f' then MD st caps l else .fail
  | _=>.fail
def FH(st:St):(l:List Vx)->List D->T (dV l)
 | [],[]=>.ret ()
 | [p],[d]=>unP st p d
 | p::q::r,d::ds=>(unP st p d).bind λx=>(FH st (q::r) ds).bind λy=>.ret (x,y)
 | _,_=>.fail
def z3q(st:St):(l:List Ty)->List D->T (Dq l)
 | [],[]=>.ret ()
 | [τ],[d]=>VJ st τ d
 | τ::σ::r,d::ds=>(VJ st τ d).bind λx=>(z3q st (σ::r) ds).bind λy=>.ret (x,y)
 | _,_=>.fail
structure DD where
 ps:List Vx
 rs:List Ty
 F:dV ps->T (Dq rs)
def zb8:Vx->D->Bool
 | .wi f _,d=>match d with | .wi f' _=>V f f' | _=>false
 | _,d=>match d with | .wi _ _=>false | _=>true
def fits:List Vx->List D->Bool
 | [],[]=>true
 | p::ps,d::ds=>zb8 p d&&fits ps ds
 | _,_=>false
def zb9:AK->D->Bool
 | .any,d=>match d with | .wi _ _=>false | _=>true
 | .cur,d=>match d with | .ms .. => true | .wF=>true | _=>false
 | .sub,d=>match d with | .ms .. => true | _=>false
 | .ptr,d=>match d with | .ptr .. => true | _=>false
 | .wi f,d=>match d with | .wi f' _=>V f f' | _=>false
 | .agg,d=>match d with | .agg _=>true | _=>false
def Qo:List AK->List D->Bool
 | [],[]=>true
 | p::ps,d::ds=>zb9 p d&&Qo ps ds
 | _,_=>false
inductive FnE where
 | d (x:DD)
 | s (x:hZ)
 | p (x:lD)
def FnE.fits:FnE->List D->Bool
 | .d x,l=>AM.fits x.ps l
 | .s x,l=>Qo x.ks l
 | .p x,l=>Qo x.ks l
abbrev lE:=List (Nat×FnE)
def lE.find:lE->Nat->List D->Option FnE
 | [],_,_=>none
 | (g',d)::r,g,args=>bif V g' g&&d.fits args then some d else lE.find r g args
abbrev Sm:=List D->St->T (GI×St)
def DD.S(d:DD):Sm:=λargs st=>match st with
 | []=>(FH [] d.ps args).bind λx=>(d.F x).bind λy=>.ret (.ret (Ud d.rs y),[])
 | _=>.fail
def lE.call(tab:lE)(g:Nat)(args:List D)(st:St):T (GI×St):=match tab.find g args with | some (.d d)=>d.S args st | some (.s d)=>d.S args st | some (.p d)=>d.S args st | none=>.fail
def lE.free(tab:lE)(g:Nat)(args:List D)(st:St):List Nat:=match tab.find g args with | some (.s d)=>d.free args st | some (.p d)=>d.free args st | _=>[]
theorem lE.U0(tab:lE)(g:Nat)(args:List D)(st:St)(rs:GI)(ql:St)(b:Nat)(h:(tab.call g args st).leads (rs,ql))(I:b∈tab.free g args st):ql[b]? = st[b]? := by
 unfold lE.call at h
 unfold lE.free at I
 split at I
 ·rename_i d J; rw[J]at h; exact hZ.U0 h I
 ·rename_i d J; rw[J]at h; exact lD.U0 h I
 ·cases I
def lE.Qs(tab:lE)(g:Nat)(args:List D):Option (List Nat):=match tab.find g args with | some (.s d)=>d.Qs args | _=>none
theorem lE.Gu(tab:lE)(g:Nat)(args:List D)(oE:List Nat)(st:St)(rs:GI)(ql:St)(ht:tab.Qs g args=some oE)(h:(tab.call g args st).leads (rs,ql)) :
  ql.length=st.length/\(∀ b,b<st.length->b ∉ oE->ql[b]? = st[b]?)/\∀ x,(tab.call g args (st++[x])).leads (rs,ql++[x]):=by
 unfold lE.Qs at ht
 unfold lE.call at h ⊢
 split at ht
 ·rename_i d J
  rw[J]at h ⊢
  exact hZ.Gu ht h
 ·cases ht
def gR(P:Program)(xid:Nat)(tab:lE)(ro:Nat->Bool):Ctx :=
 { P,xid,ro,sig:=λg args=>match tab.find g args with | some (.d d)=>some ⟨d.ps,d.rs⟩ | _=>none,fn:=tab.call,free:=tab.free,z0a:=tab.U0,Qs:=tab.Qs,PA:=tab.Gu }
def z9j{α:Type}(tab:lE)(g:Nat)(args:List D)(st:St)(k:Nat->Option D->St->T α)(kp:D->St->T α):T α:=match tab.find g args with
 | none=>.fail
 | some (.d d)=>bif !(args.any Jm)then(FH [] d.ps args).bind λx=>(d.F x).bind λy=>k 0 (some (eO (Ud d.rs y))) st
  else(FH st d.ps args).bind λx=>(d.F x).bind λy=>bif (Ud d.rs y).all Wf then k 1 (some (eO (Ud d.rs y))) st else .fail
 | some (.s d)=>d.K args st λds ql=>k 2 (some (eO ds)) ql
 | some (.p d)=>d.K args st (λds ql=>k 2 (some (eO ds)) ql) kp
def C5{α:Type}(tab:lE)(f:Option D)(args:List (Option D))(st:St)(k:Nat->Option D->St->T α)(kp:D->St->T α):T α:=match f,gC args with
 | some (.wi g caps),some l=>z9j tab (ed g) (bK g l caps) st k kp
 | _,_=>.fail
def og(l:List Nat):Fr:=l.map λs=>(s,none)
def dstsOf:List Oper->List Nat
 | []=>[]
 | o::r=>match o.dst with | some t=>t::dstsOf r | none=>dstsOf r
def wH:Code->List Nat
 | .region _ ops _=>dstsOf ops.toList
 | .seq a b=>wH a++wH b
 | .cond _ a b=>wH a++wH b
 | .block _ a=>wH a
 | .loop a=>wH a
 | _=>[]
structure q9 where
 gh:List Gh
 ps:List It
 sh:uq
 ws:List Way
 F:jR ps->sh.den->T (fQ ws)
inductive z50 where
 | flat (fq:List It)
 | ways (ws:List Way)
 | Hb
structure Hints where
 loop:Nat->Option q9
 cut:Nat->Nat->Option z50
 frz:Nat->List Nat
def rh:Code->Option Nat
 | .region id _ _=>some id
 | .seq a b=>match rh a with | some n=>some n | none=>rh b
 | .cond _ a b=>match rh a with | some n=>some n | none=>rh b
 | .block _ a=>rh a
 | .loop a=>rh a
 | _=>none
def keyOf(x:Code):Nat×Nat:=(match x with | .region .. => 0 | .cond .. => 1 | .block .. => 2 | _=>3,match rh x with | some n=>n | none=>0)
def za7(l:List Nat)(s:Nat):Bool := !(l.any (V s))
def KI:Dk->Bool
 | .sub _ _=>false
 | .st _=>false
 | .mclo _ _=>false
 | _=>true
def LA(ps:List It)(ws:List Nat):Bool:=ps.all λi=>match i with
 | .s t k=>KI k&&za7 ws t
 | _=>false
def Cm{α:Type}:T α->Option α
 | .ret a=>some a
 | .ite _ t e=>match Cm t with | some a=>some a | none=>Cm e
 | .W _ t=>Cm t
 | .fail=>none
def F4{α β:Type}(f:α->β):T α->T β
 | .ret a=>.ret (f a)
 | .ite b t e=>.ite b (F4 f t) (F4 f e)
 | .W p t=>.W p (F4 f t)
 | .fail=>.fail
def T1:(l:List It)->jR l->T (jR l)->jR l
 | [],_,_=>()
 | [_],d,t=>T.val d t
 | _::j::r,d,t=>(T.val d.1 (F4 Prod.fst t),T1 (j::r) d.2 (F4 Prod.snd t))
def z08(l:List It)(t:T (jR l)):T (jR l):=match Cm t with
 | some d=>match t.Uz with
  | none=>.ret (T1 l d t)
  | some p=>.W p (.ret (T1 l d t))
 | none=>.fail
def Bx(l:List It):Bool:=l.all λi=>match i with
 | .s _ k=>KI k
 | _=>false
structure I6 where
 ex:Ex
 fr:Fr
 kn:Kn
 st:St
 q:Bool      -- the store has not been written
def quiet(ks:List Nat):Bool:=ks.all λk => !(V k 2)
structure ze1 where
 e:Ty
 l:List (den e)
 m:Nat
 s:Nat
 c:Nat
 eq:Bool
def z2o:BinOp->Option Bool
 | .eql=>some true
 | .neq=>some false
 | _=>none
def L8:Operand->Bool
 | .const (.slice none 0 0)=>true
 | _=>false
def CN(c:Ctx)(n:Nat)(ops:Array Oper)(fr:Fr):Option ze1:=match ops.toList with
 | [o1,o2]=>match o1.dst,o1.op,o1.guard with
  | some m,.move (.tmp s),none=>match o2.dst,o2.op,o2.guard with
   | some cc,.binOp op t (.tmp m') y _,none=>match z2o op,fr.get s,mU c t with
    | some b,some (.qi (.sl e) l),some _=>bif V m m'&&L8 y&&zO m n&&zO cc n then some ⟨e,l,m,s,cc,b⟩else none
    | _,_,_=>none
   | _,_,_=>none
  | _,_,_=>none
 | _=>none
def opsOf:Code->Option (Array Oper)
 | .region _ ops false=>some ops
 | _=>none
section
variable (c:Ctx) (tab:lE)
variable [Wm]
def Wi{α:Type}(n:Nat)(o:Oper)(s:om)(k:om->T α)(kp:D->St->T α):T α :=
 bif ga n o.dst then match o.op with
  | .call cl=>match cl.callee with
   | .value f=>C5 tab (bu s.fr f) (cl.args.toList.map (bu s.fr)) s.st (λkd d ql=>k ⟨s.fr.put o.dst d,He s.kn o.dst none,ql,kd::s.ks,vu c (bu s.fr) s.st o::s.bk⟩) kp
   | _=>let cl:=Qn c s.kn s.fr o
    (qu cl s.st).bind λr=>k ⟨s.fr.put o.dst r.1,He s.kn o.dst (H8 s.kn o.op),r.2,cl.kind::s.ks,vu c (bu s.fr) s.st o::s.bk⟩
  | .panic x=>match bu s.fr x with
   | some (.iface t d)=>kp (.iface t d) s.st
   | _=>.fail
  | _=>let cl:=Qn c s.kn s.fr o
   (qu cl s.st).bind λr=>k ⟨s.fr.put o.dst r.1,He s.kn o.dst (H8 s.kn o.op),r.2,cl.kind::s.ks,vu c (bu s.fr) s.st o::s.bk⟩
 else .fail
def LR{α:Type}(n:Nat)(ops:Array Oper)(o:Oper)(s:om)(k:om->T α)(kp:D->St->T α):T α:=match o.guard with
 | none=>Wi c tab n o s k kp
 | some (j,want)=>match bA ops j with
  | none=>.fail
  | some t=>match s.kn.get t with
   | some b=>bif b==want then Wi c tab n o s k kp else bif ga n o.dst then k (cI o s)else .fail
   | none=>match s.fr.get t with
    | some (.qi .bool x)=>bif ga n o.dst then
      .ite x (bif want then Wi c tab n o (s.lg t true) k kp else k (cI o (s.lg t true)))
          (bif want then k (cI o (s.lg t false))else Wi c tab n o (s.lg t false) k kp)
     else .fail
    | some (.eG [])=>bif ga n o.dst then k (cI o s)else .fail
    | _=>.fail
def KL{α:Type}(n:Nat)(ops:Array Oper):List Oper->om->(om->T α)->(D->St->T α)->T α
 | [],s,k,_=>k s
 | o::l,s,k,kp=>LR c tab n ops o s (λs'=>KL n ops l s' k kp) kp
def Gg{α:Type}(n:Nat)(ops:Array Oper)(draw:Bool)(fr:Fr)(kn:Kn)(st:St)(k:om->T α)(kp:D->St->T α):T α :=
 KL c tab n ops ops.toList ⟨fr,kn,st,[],[]⟩ (λs=>bif !draw||WW ops s.ks.reverse s.bk.reverse then k s else .fail) (λd ql=>bif draw then .fail else kp d ql)
def Vy(n:Nat)(H:Hints):Code->Fr->Kn->St->{α:Type}->(I6->T α)->T α
 | .skip,fr,kn,st,_,k=>k ⟨.normal,fr,kn,st,true⟩
 | .region id ops draw,fr,kn,st,_,k=>(frz (H.frz id) fr st).bind λz=>Gg c tab n ops draw z.1 kn z.2 (λs=>k ⟨.normal,s.fr,s.kn,s.st,quiet s.ks&&(H.frz id).isEmpty⟩) (λd ql=>k ⟨.b9 d,[],[],ql,false⟩)
 | .seq a b,fr,kn,st,_,k=>match H.cut (keyOf a).1 (keyOf a).2 with
  | none=>Vy n H a fr kn st λr=>match r.ex with
   | .normal=>Vy n H b r.fr r.kn r.st λo=>k { o with q:=r.q&&o.q }
   | _=>k r
  | some (.flat fq)=>bif Bx fq then
    (z08 fq (Vy n H a fr kn st λo=>match o.ex with
     | .normal=>bif o.q then BK o.fr o.st fq []else .fail
     | _=>.fail)).bind λx=>Vy n H b (ng st fq x++(og (wH a)++fr)) [] st k
   else .fail
  | some .Hb=>match opsOf a with
   | none=>.fail
   | some ops=>match CN c n ops fr with
    | none=>.fail
    | some p =>
     let non:=Vy n H b ((p.c,some (.qi .bool (!p.eq)))::(p.m,some (.qi (.sl p.e) p.l))::fr) [(p.c,some (!p.eq))] st k
     .W (p.l=[]->∀ r,non.leads r->(Vy n H b ((p.c,some (.qi .bool p.eq))::(p.m,some .wF)::(p.s,some .wF)::fr) [(p.c,some p.eq)] st k).leads r) non
  | some (.ways ws)=>bif ws.all λw=>zM st.length w.sh.bs.length then
    (Vy n H a fr kn st λo=>CA ws o.ex (GV o.ex o.fr) o.st).bind λr=>ML ws r λex out ql=>match Ef ex out with
     | none=>.fail
     | some z=>match z.1 with
      | .normal=>Vy n H b (z.2++(og (wH a)++fr)) [] ql λo=>k { o with q:=false }
      | e=>k ⟨e,z.2++(og (wH a)++fr),[],ql,false⟩
   else .fail
 | .cond x a b,fr,kn,st,_,k=>match ru kn x with
  | some true=>Vy n H a fr kn st k
  | some false=>Vy n H b fr kn st k
  | none=>match x with
   | .tmp t=>match fr.get t with
    | some (.qi .bool v)=>.ite v (Vy n H a fr ((t,some true)::kn) st k) (Vy n H b fr ((t,some false)::kn) st k)
    | _=>.fail
   | _=>.fail
 | .block id (.loop b),fr,_,st,_,k=>match H.loop id with
  | none=>.fail
  | some l=>let g:=gh l.gh fr st
   bif zM g.2.length l.sh.bs.length&&LA l.ps (wH b)&&l.ws.all λw=>zM l.sh.bs.length w.sh.bs.length then
    (BK g.1 g.2 l.ps []).bind λp=>(l.sh.un g.1 g.2).bind λs=>(l.F p s).bind λr=>ML l.ws r λex out ql=>match Ef ex out with
     | none=>.fail
     | some z=>match z.1 with
      | .exit id'=>bif V id' id then k ⟨.normal,z.2++(og (wH b)++g.1),[],ql,false⟩else k ⟨.exit id',z.2++(og (wH b)++g.1),[],ql,false⟩
      | .normal=>.fail
      | e=>k ⟨e,z.2++(og (wH b)++g.1),[],ql,false⟩
   else .fail
 | .block id a,fr,kn,st,_,k=>Vy n H a fr kn st λr=>match r.ex with
  | .exit id'=>bif V id' id then k { r with ex:=.normal } else k r
  | _=>k r
 | .exit id,fr,kn,st,_,k=>k ⟨.exit id,fr,kn,st,true⟩
 | .ret,fr,kn,st,_,k=>k ⟨.ret,fr,kn,st,true⟩
 | _,_,_,_,_,_=>.fail
def z2X(n:Nat)(H:Hints)(l:q9)(b:Code)(p:jR l.ps)(s:l.sh.den):T (l.sh.den⊕fQ l.ws) :=
 Vy c tab n H b (l.sh.fr s++ng (l.sh.st s) l.ps p) [] (l.sh.st s) λo=>match o.ex with
  | .normal=>(l.sh.un o.fr o.st).bind λs'=>.ret (.inl s')
  | e=>(CA l.ws e (GV e o.fr) o.st).bind λr=>.ret (.inr r)
def z06(H:Hints)(fn:Func)(code:Code)(d:DD)(x:dV d.ps):T (Dq d.rs) :=
 bif zM (Jk d.ps x).length fn.ntmps then
  Vy c tab fn.ntmps H code (yq (Jk d.ps x) 0) [] [] λo=>match o.ex with
   | .normal=>(np c o.fr o.st fn.results.toList).bind λds=>z3q o.st d.rs ds
   | .ret=>(np c o.fr o.st fn.results.toList).bind λds=>z3q o.st d.rs ds
   | _=>.fail
 else .fail
def z2F:List (Nat×Ck)->List Gh
 | []=>[]
 | (s,.cur _ e)::r=>.slot s e::z2F r
 | _::r=>z2F r
def msB:D->Option Nat
 | .ms b _ _ _ _=>some b
 | _=>none
def zpj:Option cL->List D
 | some (.var d)=>xy d
 | _=>[]
def SM(st:St):List D->List Nat
 | []=>[]
 | .ms b _ _ _ _::r=>b::SM st r
 | .ptr b _::r=>b::((zpj st[b]?).filterMap msB++SM st r)
 | .agg l::r=>l.filterMap msB++SM st r
 | _::r=>SM st r
def z8g(m:Nat):List Nat->List Nat->List Nat
 | seen,[]=>seen
 | seen,b::r=>bif zM m b&&(match pos seen b with | none=>true | some _=>false)then z8g m (seen++[b]) r else z8g m seen r
def canon(m:Nat)(ds:List D)(st:St):List D×St :=
 let mp:=zX m++z8g m [] (SM st ds)
 match iL st mp with
 | some l=>match oh (pos mp) l,Xp (pos mp) ds with
  | some dE,some ds1=>bif cH mp then(ds1,dE)else(ds,st)
  | _,_=>(ds,st)
 | none=>(ds,st)
def kf:List Sk->List D->St->List D×St
 | .row _ e::ks,.wF::l,st=>bif zO 0 e.size then((.ms st.length 0 e 0 0)::(kf ks l (st++[.arr 0 e []])).1,(kf ks l (st++[.arr 0 e []])).2)
  else(.wF::(kf ks l st).1,(kf ks l st).2)
 | _::ks,d::l,st=>(d::(kf ks l st).1,(kf ks l st).2)
 | _,l,st=>(l,st)
def SR:List It->Nat->List Sk
 | [],_=>[]
 | .s t (.st ks)::r,i=>bif V t i then ks else SR r i
 | _::r,i=>SR r i
def tv(fq:List It):Nat->List D->St->List D×St
 | _,[],st=>([],st)
 | i,.agg l::ds,st=>(.agg (kf (SR fq i) l st).1::(tv fq (i+1) ds (kf (SR fq i) l st).2).1,(tv fq (i+1) ds (kf (SR fq i) l st).2).2)
 | i,d::ds,st=>(d::(tv fq (i+1) ds st).1,(tv fq (i+1) ds st).2)
def D3(out:uq)(m:Nat)(ds:List D)(st:St):List D×St :=
 bif (out.fq.all λ| .s _ (.st _)=>false | _=>true)&&(out.cs.all λ| (_,.ptr _ _)=>false | (_,.cur _ _)=>false | _=>true)then(ds,st)
 else canon m (tv out.fq 0 (canon m ds st).1 (canon m ds st).2).1 (tv out.fq 0 (canon m ds st).1 (canon m ds st).2).2
def WH(out:uq)(m nr:Nat)(ds:List D)(st:St):T out.den :=
 bif V ds.length nr then(out.un (gh (z2F out.cs) (yq (D3 out m ds st).1 0) (D3 out m ds st).2).1 (gh (z2F out.cs) (yq (D3 out m ds st).1 0) (D3 out m ds st).2).2).bind λy =>
  bif (oL nr (out.fr y)).isSome then .ret y else .fail else .fail
def II(H:Hints)(fn:Func)(code:Code)(d:hZ)(x:d.sh.den):T d.out.den :=
 bif zM d.ks.length fn.ntmps&&zM d.sh.bs.length d.out.bs.length then
  Vy c tab fn.ntmps H code (d.sh.fr x) [] (d.sh.st x) λo=>match o.ex with
   | .normal=>(np c o.fr o.st fn.results.toList).bind λds=>WH d.out (d.sh.st x).length d.nr ds o.st
   | .ret=>(np c o.fr o.st fn.results.toList).bind λds=>WH d.out (d.sh.st x).length d.nr ds o.st
   | _=>.fail
 else .fail
def z9C:List D->Bool
 | .gX::_=>true
 | .wF::_=>true
 | .agg (.wF::_)::_=>true
 | _=>false
def z8C(d:lD)(m:Nat)(ds:List D)(st:St):T (d.out.den⊕d.b9.den):=match d.two with
 | some n=>bif z9C ds then(WH d.b9 m n ds st).bind λz=>.ret (.inr z)else(WH d.out m d.nr ds st).bind λy=>.ret (.inl y)
 | none=>(WH d.out m d.nr ds st).bind λy=>.ret (.inl y)
def IH(H:Hints)(fn:Func)(code:Code)(d:lD)(x:d.sh.den):T (d.out.den⊕d.b9.den) :=
 bif zM d.ks.length fn.ntmps&&zM d.sh.bs.length d.out.bs.length&&zM d.sh.bs.length d.b9.bs.length then
  Vy c tab fn.ntmps H code (d.sh.fr x) [] (d.sh.st x) λo=>match o.ex with
   | .normal=>(np c o.fr o.st fn.results.toList).bind λds=>z8C d (d.sh.st x).length ds o.st
   | .ret=>(np c o.fr o.st fn.results.toList).bind λds=>z8C d (d.sh.st x).length ds o.st
   | .b9 p=>match p with
    | .iface t v=>bif V t d.pt&&d.two.isNone then(d.b9.un [(0,some v)] o.st).bind λz=>match(d.b9.fr z).get 0 with | some _=>.ret (.inr z) | none=>.fail else .fail
    | _=>.fail
   | _=>.fail
 else .fail
end
end Go.AM
namespace Go.AM
set_option linter.unusedSectionVars false
variable [yY]
open Go.RowKit
section
variable {n:Nat}
theorem z2Z{st:St}{τ:Ty}{d:D}{x:den τ}(h:(rpX st τ d).leads x):(Qi st τ d).leads (.vz τ x):=by
 cases d with
 | vz σ y =>
  simp only[rpX]at h
  simp only[Qi]
  cases hy:(jP y:Option (den τ))with
  | none=>rw[hy]at h; exact h.elim
  | some z=>rw[hy]at h; cases h; rfl
 | ptr b off =>
  simp only[rpX]at h
  simp only[Qi]
  cases I:st[b]? with
  | none=>rw[I]at h; exact h.elim
  | some zA =>
   rw[I]at h
   cases zA with
   | var d =>
    simp only at h ⊢
    cases hy:(bif V off 0 then ov τ d else none)with
    | none=>rw[hy]at h; exact h.elim
    | some z=>rw[hy]at h; cases h; rfl
   | _=>exact h.elim
 | _=>exact h.elim
theorem MC{st:St}{p:UU}{d:D}{x:den p.ty}(h:(z5h st p d).leads x):(QL st p d).leads (Bi p x):=by
 cases p with
 | rp τ=>exact z2Z h
 | im τ=>exact T.zd.2 ⟨x,h,rfl⟩
theorem DW{st:St}:∀ (l:List UU) (ds:List D) (x:fP l),(MD st l ds).leads x->(mw st l ds).leads (ZQ l x)
 | [],[],x,h=>rfl
 | [],_::_,x,h=>h.elim
 | [p],[],x,h=>h.elim
 | [p],[d],x,h=>T.zd.2 ⟨_,MC h,T.zd.2 ⟨[],rfl,rfl⟩⟩
 | [p],_::_::_,x,h=>h.elim
 | p::q::r,[],x,h=>h.elim
 | p::q::r,d::ds,x,h=>by
  obtain⟨y,h1,M⟩:=T.zd.1 h
  obtain⟨z,h3,h4⟩:=T.zd.1 M
  cases h4
  exact T.zd.2 ⟨_,MC h1,T.zd.2 ⟨_,DW (q::r) ds z h3,rfl⟩⟩
theorem z3p{st:St}{p:Vx}{d:D}{x:p.den}(h:(unP st p d).leads x):(E0 st p d).leads (mkP p x):=by
 cases p with
 | ty τ=>cases d<;>exact T.zd.2 ⟨x,h,rfl⟩
 | rp τ =>
  have:=z2Z h
  cases d<;>exact this
 | wi f caps =>
  cases d with
  | wi f' l =>
   simp only[unP]at h
   simp only[E0]
   cases I:V f f' with
   | false=>rw[I]at h; exact h.elim
   | true=>rw[I]at h; exact T.zd.2 ⟨_,DW caps l x h,rfl⟩
  | _=>exact h.elim
theorem KP{st:St}:∀ (l:List Vx) (ds:List D) (x:dV l),(FH st l ds).leads x->(Qh st l ds).leads (Jk l x)
 | [],[],x,h=>rfl
 | [],_::_,x,h=>h.elim
 | [p],[],x,h=>h.elim
 | [p],[d],x,h=>T.zd.2 ⟨_,z3p h,T.zd.2 ⟨[],rfl,rfl⟩⟩
 | [p],_::_::_,x,h=>h.elim
 | p::q::r,[],x,h=>h.elim
 | p::q::r,d::ds,x,h=>by
  obtain⟨y,h1,M⟩:=T.zd.1 h
  obtain⟨z,h3,h4⟩:=T.zd.1 M
  cases h4
  exact T.zd.2 ⟨_,z3p h1,T.zd.2 ⟨_,KP (q::r) ds z h3,rfl⟩⟩
theorem E1(st:St)(τ:Ty)(x:den τ):(VJ st τ (.qi τ x)).leads x:=by
 refine T.zd.2 ⟨.qi τ x,rfl,?_⟩
 rw[T.yu]
 exact QI x
theorem z2Y(st:St)(τ:Ty)(x:den τ):(rpX st τ (.vz τ x)).leads x:=by
 simp only[rpX]; rw[QI]; rfl
theorem MB(st:St)(p:UU)(x:den p.ty):(z5h st p (Bi p x)).leads x:=by
 cases p with
 | rp τ=>exact z2Y st τ x
 | im τ=>exact E1 st τ x
theorem DV(st:St):∀ (l:List UU) (x:fP l),(MD st l (ZQ l x)).leads x
 | [],_=>rfl
 | [p],x=>MB st p x
 | p::q::r,x=>T.zd.2 ⟨x.1,MB st p x.1,T.zd.2 ⟨x.2,DV st (q::r) x.2,rfl⟩⟩
theorem z3o(st:St)(p:Vx)(x:p.den):(unP st p (mkP p x)).leads x:=by
 cases p with
 | ty τ=>exact E1 st τ x
 | rp τ=>exact z2Y st τ x
 | wi f caps=>simp only[unP,mkP]; rw[qS]; exact DV st caps x
theorem Dg(st:St):∀ (l:List Vx) (x:dV l),(FH st l (Jk l x)).leads x
 | [],_=>rfl
 | [p],x=>z3o st p x
 | p::q::r,x=>T.zd.2 ⟨x.1,z3o st p x.1,T.zd.2 ⟨x.2,Dg st (q::r) x.2,rfl⟩⟩
def eE:D->Option Nat | .wi f _=>some f | _=>none
theorem z5r(p:Vx){d e:D}(h:eE d=eE e):zb8 p d=zb8 p e:=by
 cases d<;>cases e<;>simp only[eE]at h<;>first | (cases h; done) | (cases p<;>first | rfl | (cases h; rfl))
theorem MM:∀ (ps:List Vx) {l m:List D},l.map eE=m.map eE->fits ps l=fits ps m
 | [],[],[],_=>rfl
 | [],_::_,_::_,_=>rfl
 | _,[],_::_,h=>by cases h
 | _,_::_,[],h=>by cases h
 | _::_,[],[],_=>rfl
 | p::ps,d::l,e::m,h=>by
  simp at h
  simp only[fits,z5r p h.1,MM ps h.2]
theorem TS{st:St}{τ:Ty}{f:Nat}{l:List D}{x:den τ}(h:(VJ st τ (.wi f l)).leads x):False:=by
 obtain⟨y,h1,M⟩:=T.zd.1 h
 cases h1
 rw[T.yu]at M
 cases τ<;>simp[ov,D.isAgg,Ty.isAgg,xy,cK,pG]at M
theorem BL{st:St}{p:Vx}{d:D}{x:p.den}(h:(unP st p d).leads x):eE d=eE (mkP p x):=by
 cases p with
 | ty τ=>cases d<;>first | rfl | exact(TS h).elim
 | rp τ=>cases d<;>first | rfl | exact h.elim
 | wi f caps =>
  cases d with
  | wi f' l =>
   simp only[unP]at h
   cases I:V f f' with
   | false=>rw[I]at h; exact h.elim
   | true=>rw[B I]; rfl
  | _=>exact h.elim
theorem Gy{st:St}:∀ (l:List Vx) (ds:List D) (x:dV l),(FH st l ds).leads x->ds.map eE=(Jk l x).map eE
 | [],[],x,h=>rfl
 | [],_::_,x,h=>h.elim
 | [p],[],x,h=>h.elim
 | [p],[d],x,h=>by show[eE d]=[eE (mkP p x)]; rw[BL h]
 | [p],_::_::_,x,h=>h.elim
 | p::q::r,[],x,h=>h.elim
 | p::q::r,d::ds,x,h=>by
  obtain⟨y,h1,M⟩:=T.zd.1 h
  obtain⟨z,h3,h4⟩:=T.zd.1 M
  cases h4
  show eE d::ds.map eE=eE (mkP p y)::(Jk (q::r) z).map eE
  rw[BL h1,Gy (q::r) ds z h3]
def dat(d:D):Bool:=match d with | .qi _ _=>true | .vz _ _=>true | .wi _ _=>true | _=>false
theorem ON(p:Vx)(x:p.den):dat (mkP p x)=true:=by cases p<;>rfl
theorem F7:∀ (l:List Vx) (x:dV l),∀ d∈Jk l x,dat d=true
 | [],x,d,h=>by cases h
 | [p],x,d,h=>by have h:d∈[mkP p x]:=h; rw[zL]at h; subst h; exact ON p x
 | p::q::r,x,d,h=>by
  rcases zH.1 h with rfl | h
  ·exact ON p x.1
  ·exact F7 (q::r) x.2 d h
theorem z07{a:AK}{d e:D}(h:eE d=eE e)(J:dat e=true)(hf:zb9 a e=true):zb9 a d=true:=by
 cases e with
 | qi τ x=>cases a<;>first | (cases hf; done) | (cases d<;>first | rfl | (cases h; done))
 | vz τ x=>cases a<;>first | (cases hf; done) | (cases d<;>first | rfl | (cases h; done))
 | wi f l=>cases a<;>first | (cases hf; done) | (cases d<;>first | (cases h; exact hf) | cases h)
 | _=>cases J
theorem J9:∀ {ks:List AK} {l m:List D},l.map eE=m.map eE->(∀ d∈m,dat d=true)->Qo ks m=true->Qo ks l=true
 | [],[],[],_,_,_=>rfl
 | [],_::_,[],h,_,_=>by cases h
 | [],_,_::_,_,_,hf=>by cases hf
 | _::_,_,[],_,_,hf=>by cases hf
 | k::ks,[],_::_,h,_,_=>by cases h
 | k::ks,d::l,e::m,h,J,hf=>by
  simp at h
  simp only[Qo,X]at hf ⊢
  exact⟨z07 h.1 (J e zQ) hf.1,J9 h.2 (λx N=>J x (zI _ N)) hf.2⟩
theorem lE.find_eq:∀ (t:lE) (g:Nat) {l m:List D} {d:DD},l.map eE=m.map eE->(∀ d∈m,dat d=true)->t.find g l=some (.d d)->t.find g m=some (.d d)
 | [],_,_,_,_,_,_,h=>h
 | (g',.d d')::r,g,l,m,d,h,hm,hf=>by
  simp only[lE.find,FnE.fits]at hf ⊢
  rw[<- MM d'.ps h]
  cases I:V g' g&&fits d'.ps l with
  | true=>grind
  | false=>rw[I,cond_false]at hf; rw[cond_false]; exact lE.find_eq r g h hm hf
 | (g',.s d')::r,g,l,m,d,h,hm,hf=>by
  simp only[lE.find,FnE.fits]at hf ⊢
  cases I:V g' g&&Qo d'.ks l with
  | true=>grind
  | false =>
   rw[I,cond_false]at hf
   have:(V g' g&&Qo d'.ks m)=false:=by
    cases hg:V g' g with
    | false=>rfl
    | true =>
     rw[hg]at I
     cases hk:Qo d'.ks m with
     | false=>rfl
     | true=>rw[J9 h hm hk]at I; cases I
   rw[this,cond_false]
   exact lE.find_eq r g h hm hf
 | (g',.p d')::r,g,l,m,d,h,hm,hf=>by
  simp only[lE.find,FnE.fits]at hf ⊢
  cases I:V g' g&&Qo d'.ks l with
  | true=>grind
  | false =>
   rw[I,cond_false]at hf
   have:(V g' g&&Qo d'.ks m)=false:=by
    cases hg:V g' g with
    | false=>rfl
    | true =>
     rw[hg]at I
     cases hk:Qo d'.ks m with
     | false=>rfl
     | true=>rw[J9 h hm hk]at I; cases I
   rw[this,cond_false]
   exact lE.find_eq r g h hm hf
theorem lE.VX:∀ {t:lE} {g:Nat} {l:List D} {d:FnE},t.find g l=some d->(g,d)∈t
 | [],_,_,_,h=>by cases h
 | (g',d')::r,g,l,d,h=>by
  simp only[lE.find]at h
  cases I:V g' g&&d'.fits l with
  | true =>
   rw[I,cond_true]at h
   cases h
   simp only[X]at I
   rw[B I.1]
   simp
  | false=>rw[I,cond_false]at h; exact zI _ (lE.VX h)
def q8(P:Program)(g:Nat)(d:DD):Prop:=∀ (Z:KS) (x:dV d.ps) (xb:List Value) (y:Dq d.rs),Z.st=[]->(d.F x).leads y->Inv Z->wN Z (Jk d.ps x) xb ->
 gA P g xb.toArray Z.w λe w'=>∃ Y:KS,Y.w=w'/\Y.st=[]/\Inv Y/\Ext Z Y/\jd Y (.ret (Ud d.rs y)) e
def DE(P:Program)(g:Nat):FnE->Prop
 | .d d=>q8 P g d
 | .s d=>xw P g d
 | .p d=>jB P g d
def eo(P:Program)(t:lE):Prop:=∀ p∈t,DE P p.1 p.2
theorem SX(P:Program):eo P []:=by nofun
theorem Db{P:Program}{g:Nat}{d:FnE}{t:lE}(h:DE P g d)(ht:eo P t):eo P ((g,d)::t):=by
 intro p hp
 rcases zH.1 hp with rfl | hp
 ·exact h
 ·exact ht p hp
theorem LY{P:Program}{g:Nat}{d:DD}{t:lE}(h:q8 P g d)(ht:eo P t):eo P ((g,.d d)::t):=Db (d:=.d d) h ht
theorem FE{P:Program}{g:Nat}{d:hZ}{t:lE}(h:xw P g d)(ht:eo P t):eo P ((g,.s d)::t):=Db (d:=.s d) h ht
theorem FD{P:Program}{g:Nat}{d:lD}{t:lE}(h:jB P g d)(ht:eo P t):eo P ((g,.p d)::t):=Db (d:=.p d) h ht
theorem DD.snd{P:Program}{g:Nat}{d:DD}(h:q8 P g d):Dp P g d.S:=by
 intro Z args xb rs ql R hI ha
 unfold DD.S at R
 split at R
 ·rename_i vX
  obtain⟨x,h1,M⟩:=T.zd.1 R
  obtain⟨y,h3,h4⟩:=T.zd.1 M
  cases h4
  exact h Z x xb y vX h3 hI (UZ ha (KP _ _ _ h1))
 ·exact R.elim
theorem CJ{P:Program}{xid:Nat}{tab:lE}{ro:Nat->Bool}(h:eo P tab):∀ g,Dp (gR P xid tab ro).P g ((gR P xid tab ro).fn g):=by
 intro g Z args xb rs ql R hI ha
 simp only[gR,lE.call]at R
 split at R
 ·rename_i d J
  exact DD.snd (h _ (lE.VX J):DE P g (.d d)) Z args xb rs ql R hI ha
 ·rename_i d J
  exact hZ.snd (h _ (lE.VX J):DE P g (.s d)) Z args xb rs ql R hI ha
 ·rename_i d J
  exact lD.snd (h _ (lE.VX J):DE P g (.p d)) Z args xb rs ql R hI ha
 ·exact R.elim
section
variable {P:Program} {xid:Nat} {tab:lE} {ro:Nat->Bool} {α:Type}
def Mq(c:Ctx)(f:Option D)(args:List (Option D))(st:St)(d:D)(ql:St):Prop :=
 ∃ g caps l,f=some (.wi g caps)/\gC args=some l/\(c.fn (ed g) (bK g l caps) st).leads (.b9 d,ql)
def Mt(c:Ctx)(o:Oper)(s:om)(d:D)(ql:St):Prop :=
 (∃ x t e,o.op=.panic x/\bu s.fr x=some d/\d=.iface t e/\ql=s.st) \/
 ∃ f args sr,o.op=.call ⟨.value f,args,sr⟩/\Mq c (bu s.fr f) (args.toList.map (bu s.fr)) s.st d ql
theorem Iy{f:Option D}{args:List (Option D)}{st:St}{k:Nat->Option D->St->T α}{kp:D->St->T α}{r:α}(h:(C5 tab f args st k kp).leads r) :
  (∃ d ql,(qu (eR (gR P xid tab ro) f args) st).leads (d,ql)/\(k (eR (gR P xid tab ro) f args).kind d ql).leads r) \/
  ∃ d ql,Mq (gR P xid tab ro) f args st d ql/\(kp d ql).leads r:=by
 unfold C5 at h
 split at h
 ·rename_i g caps l R
  unfold z9j at h
  split at h
  ·exact h.elim
  ·rename_i d J
   have RT:(gR P xid tab ro).sig (ed g) (bK g l caps)=some ⟨d.ps,d.rs⟩:=by simp only[gR]; rw[J]
   have z0N:eR (gR P xid tab ro) (some (.wi g caps)) args=ep (gR P xid tab ro) (ed g) ⟨d.ps,d.rs⟩ (bK g l caps):=by simp only[eR,R,RT]
   rw[z0N]
   have hfn:∀ {st0:St} (x:dV d.ps) (y:Dq d.rs),(FH st0 d.ps (bK g l caps)).leads x->(d.F x).leads y->((gR P xid tab ro).fn (ed g) (Jk d.ps x) []).leads (.ret (Ud d.rs y),[]):=by
    intro st0 x y N hy
    simp only[gR,lE.call]
    rw[lE.find_eq tab (ed g) (Gy _ _ _ N) (F7 d.ps x) J]
    exact T.zd.2 ⟨x,Dg [] d.ps x,T.zd.2 ⟨y,hy,rfl⟩⟩
   cases hn : !((bK g l caps).any Jm)with
   | true =>
    rw[hn,cond_true]at h
    obtain⟨x,h1,M⟩:=T.zd.1 h
    obtain⟨y,h3,h4⟩:=T.zd.1 M
    have hc:ep (gR P xid tab ro) (ed g) ⟨d.ps,d.rs⟩ (bK g l caps)=.val ((Qh [] d.ps (bK g l caps)).bind λl=>((gR P xid tab ro).fn (ed g) l []).bind z2V):=by
     unfold ep; rw[hn]; rfl
    rw[hc]
    refine .inl ⟨_,_,T.zd.2 ⟨_,T.zd.2 ⟨_,KP _ _ _ h1,T.zd.2 ⟨_,hfn x y h1 h3,rfl⟩⟩,rfl⟩,h4⟩
   | false =>
    rw[hn,cond_false]at h
    obtain⟨x,h1,M⟩:=T.zd.1 h
    obtain⟨y,h3,h4⟩:=T.zd.1 M
    have hc:ep (gR P xid tab ro) (ed g) ⟨d.ps,d.rs⟩ (bK g l caps)=.rd λst=>(Qh st d.ps (bK g l caps)).bind λl=>((gR P xid tab ro).fn (ed g) l []).bind Wc:=by
     unfold ep; rw[hn]; rfl
    rw[hc]
    cases hs:(Ud d.rs y).all Wf with
    | false=>rw[hs]at h4; exact h4.elim
    | true =>
     rw[hs]at h4
     refine .inl ⟨_,_,T.zd.2 ⟨_,T.zd.2 ⟨_,KP _ _ _ h1,T.zd.2 ⟨_,hfn x y h1 h3,?_⟩⟩,rfl⟩,h4⟩
     simp only[Wc,hs,cond_true]
     rfl
  ·rename_i d J
   have RT:(gR P xid tab ro).sig (ed g) (bK g l caps)=none:=by simp only[gR]; rw[J]
   have z0N:eR (gR P xid tab ro) (some (.wi g caps)) args=sx (gR P xid tab ro) (ed g) (bK g l caps):=by simp only[eR,R,RT]
   rw[z0N]
   obtain⟨ds,ql,h1,M⟩:=hZ.Tl h
   refine .inl ⟨_,ql,T.zd.2 ⟨(.ret ds,ql),?_,rfl⟩,M⟩
   simp only[gR,lE.call]
   grind
  ·rename_i d J
   have RT:(gR P xid tab ro).sig (ed g) (bK g l caps)=none:=by simp only[gR]; rw[J]
   have z0N:eR (gR P xid tab ro) (some (.wi g caps)) args=sx (gR P xid tab ro) (ed g) (bK g l caps):=by simp only[eR,R,RT]
   rw[z0N]
   rcases lD.Tl h with⟨ds,ql,h1,M⟩ | ⟨p,ql,h1,M⟩
   ·refine .inl ⟨_,ql,T.zd.2 ⟨(.ret ds,ql),?_,rfl⟩,M⟩
    simp only[gR,lE.call]
    grind
   ·refine .inr ⟨p,ql,⟨g,caps,l,rfl,R,?_⟩,M⟩
    simp only[gR,lE.call]
    grind
 ·exact h.elim
theorem Qa{o:Oper}{s:om}{k:om->T α}{kp:D->St->T α}{r:α}(h:(Wi (gR P xid tab ro) tab n o s k kp).leads r) :
  (∃ s',(l0 (gR P xid tab ro) n o s).leads s'/\(k s').leads r)\/∃ d ql,Mt (gR P xid tab ro) o s d ql/\(kp d ql).leads r:=by
 unfold Wi at h
 unfold l0
 cases J:ga n o.dst with
 | false=>rw[J]at h; exact h.elim
 | true =>
  rw[J,cond_true]at h
  rw[cond_true]
  obtain⟨dst,op,ty,pos,after,guard⟩:=o
  have gen:((qu (Qn (gR P xid tab ro) s.kn s.fr ⟨dst,op,ty,pos,after,guard⟩) s.st).bind λr=>k ⟨s.fr.put dst r.1,He s.kn dst (H8 s.kn op),r.2,(Qn (gR P xid tab ro) s.kn s.fr ⟨dst,op,ty,pos,after,guard⟩).kind::s.ks,vu (gR P xid tab ro) (bu s.fr) s.st ⟨dst,op,ty,pos,after,guard⟩::s.bk⟩).leads r ->
    ∃ s',(let cl:=Qn (gR P xid tab ro) s.kn s.fr ⟨dst,op,ty,pos,after,guard⟩; (qu cl s.st).bind λr=>T.ret (⟨s.fr.put dst r.1,He s.kn dst (H8 s.kn op),r.2,cl.kind::s.ks,vu (gR P xid tab ro) (bu s.fr) s.st ⟨dst,op,ty,pos,after,guard⟩::s.bk⟩:om)).leads s'/\(k s').leads r:=by
   intro h
   obtain⟨x,h1,M⟩:=T.zd.1 h
   exact⟨_,T.zd.2 ⟨x,h1,rfl⟩,M⟩
  cases op with
  | call cl =>
   obtain⟨callee,args,sr⟩:=cl
   cases callee with
   | value f =>
    rcases Iy (P:=P) (xid:=xid) (ro:=ro) h with⟨d,ql,h1,M⟩ | ⟨d,ql,h1,M⟩
    ·exact .inl ⟨_,T.zd.2 ⟨(d,ql),h1,rfl⟩,M⟩
    ·exact .inr ⟨d,ql,.inr ⟨f,args,sr,rfl,h1⟩,M⟩
   | _=>grind
  | panic x =>
   simp only at h
   split at h
   ·rename_i t e N
    exact .inr ⟨_,_,.inl ⟨x,t,e,rfl,N,rfl,rfl⟩,h⟩
   ·exact h.elim
  | _=>grind
theorem SS{ops:Array Oper}{o:Oper}{s:om}{k:om->T α}{kp:D->St->T α}{r:α}(hkn:yC s.kn s.fr.get)(h:(LR (gR P xid tab ro) tab n ops o s k kp).leads r) :
  (∃ s',(stepG (gR P xid tab ro) n ops o s).leads s'/\(k s').leads r)\/∃ d ql,jE ops s.fr.get o=some true/\Mt (gR P xid tab ro) o s d ql/\(kp d ql).leads r:=by
 obtain⟨dst,op,ty,pos,after,guard⟩:=o
 cases guard with
 | none =>
  rcases Qa h with h | ⟨d,ql,h1,M⟩
  ·exact .inl h
  ·exact .inr ⟨d,ql,rfl,h1,M⟩
 | some jw =>
  obtain⟨j,want⟩:=jw
  simp only[LR]at h
  simp only[stepG]
  cases hg:bA ops j with
  | none=>rw[hg]at h; exact h.elim
  | some t =>
   rw[hg]at h
   simp only at h ⊢
   cases hk:s.kn.get t with
   | some b =>
    rw[hk]at h
    simp only at h ⊢
    have hw:jE ops s.fr.get ⟨dst,op,ty,pos,after,some (j,want)⟩=some (b==want):=by simp[jE,hg,hkn t b hk]
    cases I:b==want with
    | true =>
     rw[I,cond_true]at h; rw[cond_true]
     rcases Qa h with h | ⟨d,ql,h1,M⟩
     ·grind
     ·grind
    | false =>
     rw[I,cond_false]at h; rw[cond_false]
     cases J:ga n dst with
     | true=>rw[J,cond_true]at h; exact .inl ⟨_,rfl,h⟩
     | false=>rw[J,cond_false]at h; exact h.elim
   | none =>
    rw[hk]at h
    simp only at h ⊢
    split at h
    ·rename_i x hf
     rw[hf]
     simp only
     have hw:jE ops s.fr.get ⟨dst,op,ty,pos,after,some (j,want)⟩=some (x==want):=by simp[jE,hg,hf]
     cases J:ga n dst with
     | false=>rw[J]at h; exact h.elim
     | true =>
      rw[J,cond_true]at h; rw[cond_true]
      rcases h with⟨N,h⟩ | ⟨N,h⟩
      ·subst N
       cases want with
       | true =>
        rw[cond_true]at h
        rcases Qa h with⟨s',h1,M⟩ | ⟨d,ql,h1,M⟩
        ·exact .inl ⟨s',.inl ⟨rfl,h1⟩,M⟩
        ·exact .inr ⟨d,ql,hw,h1,M⟩
       | false=>rw[cond_false]at h; exact .inl ⟨_,.inl ⟨rfl,rfl⟩,h⟩
      ·subst N
       cases want with
       | true=>rw[cond_true]at h; exact .inl ⟨_,.inr ⟨rfl,rfl⟩,h⟩
       | false =>
        rw[cond_false]at h
        rcases Qa h with⟨s',h1,M⟩ | ⟨d,ql,h1,M⟩
        ·exact .inl ⟨s',.inr ⟨rfl,h1⟩,M⟩
        ·exact .inr ⟨d,ql,hw,h1,M⟩
    ·rename_i hf
     rw[hf]
     simp only
     cases J:ga n dst with
     | true=>rw[J,cond_true]at h; exact .inl ⟨_,rfl,h⟩
     | false=>rw[J,cond_false]at h; exact h.elim
    ·exact h.elim
def I7(c:Ctx)(n:Nat)(ops:Array Oper)(l:List Oper)(s:om)(d:D)(ql:St):Prop :=
 ∃ pre o post s1,l=pre++o::post/\(tz c n ops pre s).leads s1/\jE ops s1.fr.get o=some true/\Mt c o s1 d ql
theorem Vo{ops:Array Oper}:∀ (l:List Oper) {s:om} {k:om->T α} {kp:D->St->T α} {r:α},yC s.kn s.fr.get->(∀ o∈l,∃ i:Nat,ops[i]? = some o)->(KL (gR P xid tab ro) tab n ops l s k kp).leads r ->
  (∃ s',(tz (gR P xid tab ro) n ops l s).leads s'/\(k s').leads r)\/∃ d ql,I7 (gR P xid tab ro) n ops l s d ql/\(kp d ql).leads r
 | [],s,k,kp,r,_,_,h=>.inl ⟨s,rfl,h⟩
 | o::l,s,k,kp,r,hk,R,h=>by
  rcases SS hk h with⟨s1,h1,M⟩ | ⟨d,ql,h1,M,h3⟩
  ·obtain⟨i,hi⟩:=R o zQ
   obtain⟨_,_,hk1,_⟩:=BD hi hk h1
   rcases Vo l hk1 (λo' ho=>R o' (zI _ ho)) M with⟨s2,h3,h4⟩ | ⟨d,ql,⟨pre,o',post,s2,e,g1,g2,g3⟩,h4⟩
   ·exact .inl ⟨s2,T.zd.2 ⟨s1,h1,h3⟩,h4⟩
   ·exact .inr ⟨d,ql,⟨o::pre,o',post,s2,xz,T.zd.2 ⟨s1,h1,g1⟩,g2,g3⟩,h4⟩
  ·exact .inr ⟨d,ql,⟨[],o,l,s,rfl,rfl,h1,M⟩,h3⟩
theorem Hf{ops:Array Oper}{draw:Bool}{fr:Fr}{kn:Kn}{st:St}{k:om->T α}{kp:D->St->T α}{r:α}(hk:yC kn fr.get)(h:(Gg (gR P xid tab ro) tab n ops draw fr kn st k kp).leads r) :
  (∃ s',(pA (gR P xid tab ro) n ops draw fr kn st).leads s'/\(k s').leads r)\/∃ d ql,draw=false/\I7 (gR P xid tab ro) n ops ops.toList ⟨fr,kn,st,[],[]⟩ d ql/\(kp d ql).leads r:=by
 rcases Vo _ hk (λo ho=>by obtain⟨i,hi,he⟩:=List.getElem_of_mem ho; exact⟨i,xz⟩) h with⟨s',h1,M⟩ | ⟨d,ql,h1,M⟩
 ·cases J : !draw||WW ops s'.ks.reverse s'.bk.reverse with
  | false=>rw[J]at M; exact M.elim
  | true =>
   rw[J,cond_true]at M
   refine .inl ⟨s',T.zd.2 ⟨s',h1,?_⟩,M⟩
   rw[J]; rfl
 ·cases draw with
  | true=>exact M.elim
  | false=>grind
end
end
end Go.AM
namespace Go.AM
set_option linter.unusedSectionVars false
variable [yY] [Hp]
open Go.RowKit
theorem YN{α β:Type}{f:α->β}{t:T α}{x:α}(h:t.leads x):(F4 f t).leads (f x):=by
 induction t with
 | ret a=>exact congrArg f h
 | ite b p q ip iq=>exact rN h (λh=>⟨h.1,ip h.2⟩) (λh=>⟨h.1,iq h.2⟩)
 | W p t ih=>exact⟨h.1,ih h.2⟩
 | fail=>exact h.elim
theorem PE:∀ (l:List It) (d:jR l) (t:T (jR l)) (x:jR l),t.leads x->T1 l d t=x
 | [],_,_,_,_=>rfl
 | [_],d,t,x,h=>((T.Gb d t x).1 h).2
 | i::j::r,d,t,x,h=>by
  have h1:=((T.Gb d.1 _ _).1 (YN (f:=Prod.fst) h)).2
  have M:=PE (j::r) d.2 _ _ (YN (f:=Prod.snd) h)
  show(T.val d.1 (F4 Prod.fst t),T1 (j::r) d.2 (F4 Prod.snd t))=x
  rw[h1,M]
  exact rfl
theorem SJ{α:Type}(t:T α)(h:t.Kj):∃ x,t.leads x:=by
 induction t with
 | ret a=>exact⟨a,rfl⟩
 | ite b p q ip iq =>
  unfold T.Kj at h ip iq
  simp only[T.Uz]at h
  cases b with
  | true =>
   obtain⟨x,N⟩:=ip (xz)
   exact⟨x,.inl ⟨rfl,N⟩⟩
  | false =>
   obtain⟨x,N⟩:=iq (xz)
   exact⟨x,.inr ⟨rfl,N⟩⟩
 | W p t ih =>
  unfold T.Kj at h ih
  simp only[T.Uz]at h
  cases ht:t.Uz with
  | none=>rw[ht]at h ih; obtain⟨x,N⟩:=ih trivial; exact⟨x,h,N⟩
  | some q=>rw[ht]at h ih; obtain⟨x,N⟩:=ih h.2; exact⟨x,h.1,N⟩
 | fail=>exact h.elim
theorem El{l:List It}{t:T (jR l)}{x:jR l}(h:(z08 l t).leads x):t.leads x:=by
 unfold z08 at h
 split at h
 ·rename_i d J
  have key:t.Kj->T1 l d t=x->t.leads x:=by
   intro hp hv
   obtain⟨y,hy⟩:=SJ t hp
   rw[<- hv,PE l d t y hy]; exact hy
  split at h
  ·rename_i hn; exact key (by unfold T.Kj; rw[hn]; trivial) h
  ·rename_i p hn; exact key (by unfold T.Kj; rw[hn]; exact h.1) h.2
 ·exact h.elim
def RIs(ws:List Way)(r:fQ ws)(w:Way)(x:w.sh.den):Prop:=∀ {α:Type} (k:Ex->Fr->St->T α),ML ws r k=k w.ex (w.sh.fr x) (w.sh.st x)
theorem CB:∀ (ws:List Way) (ex:Ex) (fr:Fr) (st:St) (r:fQ ws),(CA ws ex fr st).leads r->∃ w,w∈ws/\∃ x:w.sh.den,RIs ws r w x/\Xt w.ex ex=true/\(w.sh.un fr st).leads x
 | [],_,_,_,_,h=>h.elim
 | [w],ex,fr,st,r,h=>by
  have h:(bif Xt w.ex ex then w.sh.un fr st else .fail:T w.sh.den).leads r:=h
  cases hs:Xt w.ex ex with
  | false=>rw[hs]at h; exact h.elim
  | true=>rw[hs]at h; exact⟨w,qz,r,λk=>rfl,hs,h⟩
 | w::v::ws,ex,fr,st,r,h=>by
  have h:(bif Xt w.ex ex then(w.sh.un fr st).bind λx=>T.ret (qR x:w.sh.den⊕fQ (v::ws))else(CA (v::ws) ex fr st).bind λy=>T.ret (qM y)).leads r:=h
  cases hs:Xt w.ex ex with
  | true =>
   rw[hs]at h
   obtain⟨x,h1,M⟩:=T.zd.1 h
   subst M
   exact⟨w,qz,x,λk=>rfl,hs,h1⟩
  | false =>
   rw[hs]at h
   obtain⟨y,h1,M⟩:=T.zd.1 h
   subst M
   obtain⟨w',k1,x,k2,k3,k4⟩:=CB (v::ws) ex fr st y h1
   exact⟨w',zI _ k1,x,λk=>k2 k,k3,k4⟩
def zaQ(Z:KS)(n:Nat)(w:Way)(z:w.sh.den)(a:Act)(sG:Exit):Prop:=∀ q,Ef w.ex (w.sh.fr z)=some q->Rel Z n q.2.get a/\DC Z q.1 sG
theorem z3s{κ0 Z:KS}{n:Nat}{a:Act}{w:Way}{z:w.sh.den}{oex:Ex}{ofr:Fr}{sG:Exit}(N:Ext κ0 Z)(hI:Inv Z)(hR:Rel Z n ofr.get a)(he:DC Z oex sG)(hs:Xt w.ex oex=true)(R:κ0.st.length<=w.sh.bs.length)
  (h:(w.sh.un (GV oex ofr) Z.st).leads z):∃ κ1:KS,κ1.w=Z.w/\κ1.st=w.sh.st z/\Inv κ1/\Ext κ0 κ1/\zaQ κ1 n w z a sG:=by
 have plain:GV oex ofr=ofr->(∀ q,Ef w.ex (w.sh.fr z)=some q->q.2=w.sh.fr z/\∀ κ1:KS,DC κ1 q.1 sG)->∃ κ1:KS,κ1.w=Z.w/\κ1.st=w.sh.st z/\Inv κ1/\Ext κ0 κ1/\zaQ κ1 n w z a sG:=by
  intro e1 e2
  rw[e1]at h
  obtain⟨κ1,q1,q2,q3,q4,q5,_⟩:=w.sh.K5 (n:=n) N hI hR R h
  exact⟨κ1,q1,q2,q3,q4,λq hq=>by obtain⟨g1,g2⟩:=e2 q hq; rw[g1]; exact⟨q5,g2 κ1⟩⟩
 cases hw:w.ex with
 | normal =>
  rw[hw]at hs
  cases oex<;>first | (cases hs; done) | skip
  exact plain rfl λq hq=>by rw[hw]at hq; cases hq; exact⟨rfl,λ_=>he⟩
 | ret =>
  rw[hw]at hs
  cases oex<;>first | (cases hs; done) | skip
  exact plain rfl λq hq=>by rw[hw]at hq; cases hq; exact⟨rfl,λ_=>he⟩
 | exit id =>
  rw[hw]at hs
  cases oex<;>first | (cases hs; done) | skip
  rename_i id'
  have:id=id':=B hs
  subst this
  exact plain rfl λq hq=>by rw[hw]at hq; cases hq; exact⟨rfl,λ_=>he⟩
 | b9 p =>
  rw[hw]at hs
  cases p<;>first | (cases hs; done) | skip
  rename_i t p
  cases oex<;>first | (cases hs; done) | skip
  rename_i p'
  cases p'<;>first | (cases hs; done) | skip
  rename_i t' d
  have:t=t':=B hs
  subst this
  obtain⟨v,rfl,hv⟩:=he
  cases hv with
  | iface _ _ u hu =>
   have HO:Rel Z 1 (GV (.b9 (.iface t d)) ofr).get { tmps := #[u],defers:=Hp.df }:=by
    refine⟨rfl,rfl,λs d' J => ?_⟩
    simp only[GV,Fr.get]at J
    cases I:V 0 s with
    | true =>
     have:=B I
     grind
    | false=>grind
   obtain⟨κ1,q1,q2,q3,q4,q5,_⟩:=w.sh.K5 (n:=1) N hI HO R h
   refine⟨κ1,q1,q2,q3,q4,λq hq => ?_⟩
   rw[hw]at hq
   simp only[Ef]at hq
   split at hq
   ·rename_i d' ef
    cases hq
    obtain⟨v',g1,g2⟩:=q5.get 0 d' ef
    cases g1
    exact⟨⟨hR.size,hR.defers,λs d J=>by cases J⟩,_,rfl,.iface t d' _ g2⟩
   ·cases hq
theorem Z4(st:St):∀ (bs:List Bk) (bd:List Bd),(jD st bs bd).length<=bs.length
 | [],_=>by simp[jD]
 | .arr _::r,[]=>by simp[jD]
 | .arr _::r,.v _ _::_=>by simp[jD]
 | .arr _::r,.a _ _::d=>by have:=Z4 st r d; simp[jD]; exact this
 | .var _::r,[]=>by simp[jD]
 | .var _::r,.a _ _::_=>by simp[jD]
 | .var _::r,.v _ _::d=>by have:=Z4 st r d; simp[jD]; exact this
 | .cvar _::r,d=>by have:=Z4 st r d; cases d<;>(simp[jD]; exact this)
 | .dead::r,d=>by have:=Z4 st r d; cases d<;>(simp[jD]; exact this)
theorem uq.Xv(s:uq)(x:s.den):(s.st x).length<=s.bs.length:=Z4 _ _ _
theorem JF{l m:Fr}{s:Nat}{d:D}(h:(l++m).get s=some d):l.get s=some d\/m.get s=some d:=by
 induction l with
 | nil=>grind
 | cons p r ih =>
  simp only[qJ,Fr.get]at h ⊢
  grind
theorem SB{l:List Nat}{fr:Fr}{s:Nat}{d:D}(h:(og l++fr).get s=some d):s ∉ l/\fr.get s=some d:=by
 induction l with
 | nil=>exact⟨qz,h⟩
 | cons t r ih =>
  simp only[og,qI,qJ,Fr.get]at h
  cases ht:V t s with
  | true=>grind
  | false =>
   rw[ht,cond_false]at h
   obtain⟨h1,M⟩:=ih h
   refine⟨?_,M⟩
   simp
   exact⟨λe=>by subst e; simp at ht,h1⟩
theorem VV{o:Oper}{s:Nat}:∀ {l:List Oper},o∈l->o.dst=some s->s∈dstsOf l
 | p::r,h,hs=>by
  simp only[dstsOf]
  rcases zH.1 h with rfl | h
  ·grind
  ·split
   ·exact zI _ (VV h hs)
   ·exact VV h hs
def Kept(code:Code)(a a':Act):Prop:=∀ s:Nat,s ∉ wH code->a'.tmps[s]? = a.tmps[s]?
section
variable {P:Program} {xid:Nat} {tab:lE} {ro:Nat->Bool} {n:Nat} {H:Hints}
theorem Wa{Z Y:KS}{fr out:Fr}{a a':Act}{ws:List Nat}(hR:Rel Z n fr.get a)(N:Ext Z Y)(ho:Rel Y n out.get a')(hk:∀ s:Nat,s ∉ ws->a'.tmps[s]? = a.tmps[s]?):Rel Y n (out++(og ws++fr)).get a':=by
 refine⟨ho.size,ho.defers,λs d J => ?_⟩
 rcases JF J with h | h
 ·exact ho.get s d h
 ·obtain⟨h1,M⟩:=SB h
  obtain⟨v,g1,g2⟩:=hR.get s d M
  exact⟨v,(hk s h1).trans g1,g2.mono N⟩
theorem D6{c:Ctx}{ops:Array Oper}:∀ (l:List Oper) (s s':om),(tz c n ops l s).leads s'->quiet s'.ks=true->s'.st=s.st/\quiet s.ks=true:=by
 have hq:∀ {k:Nat} {ks:List Nat},quiet (k::ks)=true->V k 2=false/\quiet ks=true:=by
  intro k ks h
  simp only[quiet,zF,X,qF]at h
  exact⟨h.1,by unfold quiet; exact h.2⟩
 have one:∀ (o:Oper) (s s1:om),(l0 c n o s).leads s1->quiet s1.ks=true->s1.st=s.st/\quiet s.ks=true:=by
  intro o s s1 h hk
  unfold l0 at h
  cases J:ga n o.dst with
  | false=>rw[J]at h; exact h.elim
  | true =>
   rw[J,cond_true]at h
   obtain⟨r,h1,M⟩:=T.zd.1 h
   cases M
   obtain⟨g1,g2⟩:=hq hk
   refine⟨?_,g2⟩
   show r.2=s.st
   generalize Qn c s.kn s.fr o=cl at h1 g1
   cases cl with
   | val t=>obtain⟨d,_,h3⟩:=T.zd.1 h1; cases h3; rfl
   | rd k=>obtain⟨d,_,h3⟩:=T.zd.1 h1; cases h3; rfl
   | wr k=>cases g1
 have skp:∀ (o:Oper) (s:om),quiet (cI o s).ks=true->(cI o s).st=s.st/\quiet s.ks=true:=λo s h=>⟨rfl,(hq h).2⟩
 have gd:∀ (o:Oper) (s s1:om),(stepG c n ops o s).leads s1->quiet s1.ks=true->s1.st=s.st/\quiet s.ks=true:=by
  intro o s s1 h hk
  obtain⟨dst,op,ty,pos,after,guard⟩:=o
  cases guard with
  | none=>exact one _ s s1 h hk
  | some jw =>
   obtain⟨j,want⟩:=jw
   simp only[stepG]at h
   cases hg:bA ops j with
   | none=>rw[hg]at h; exact h.elim
   | some t =>
    rw[hg]at h
    simp only at h
    cases hkn:s.kn.get t with
    | some b =>
     rw[hkn]at h
     simp only at h
     cases I:b==want with
     | true=>grind
     | false =>
      rw[I,cond_false]at h
      cases J:ga n dst with
      | false=>rw[J]at h; exact h.elim
      | true=>rw[J,cond_true]at h; cases h; exact skp _ s hk
    | none =>
     rw[hkn]at h
     simp only at h
     split at h
     ·cases J:ga n dst with
      | false=>rw[J]at h; exact h.elim
      | true =>
       rw[J,cond_true]at h
       rcases h with⟨_,h⟩ | ⟨_,h⟩
       ·cases want with
        | true=>rw[cond_true]at h; exact one _ (s.lg t true) s1 h hk
        | false=>rw[cond_false]at h; cases h; exact skp _ (s.lg t true) hk
       ·cases want with
        | true=>rw[cond_true]at h; cases h; exact skp _ (s.lg t false) hk
        | false=>rw[cond_false]at h; exact one _ (s.lg t false) s1 h hk
     ·cases J:ga n dst with
      | false=>rw[J]at h; exact h.elim
      | true=>rw[J,cond_true]at h; cases h; exact skp _ s hk
     ·exact h.elim
 intro l
 induction l with
 | nil=>intro s s' h hk; cases h; exact⟨rfl,hk⟩
 | cons o l ih =>
  intro s s' h hk
  obtain⟨s1,h1,M⟩:=T.zd.1 h
  obtain⟨g1,g2⟩:=ih s1 s' M hk
  obtain⟨k1,k2⟩:=gd o s s1 h1 g2
  exact⟨g1.trans k1,k2⟩
theorem D0{c:Ctx}{ops:Array Oper}{draw:Bool}{fr:Fr}{kn:Kn}{st:St}{s':om}(h:(pA c n ops draw fr kn st).leads s')(hq:quiet s'.ks=true):s'.st=st:=by
 obtain⟨s1,h1,M⟩:=T.zd.1 h
 cases J:(!draw||WW ops s1.ks.reverse s1.bk.reverse)with
 | false=>rw[J]at M; exact M.elim
 | true=>rw[J,cond_true]at M; cases M; exact(D6 _ _ _ h1 hq).1
theorem TJ{c:Ctx}{Z:KS}{a:Act}{o:Oper}{g:Nat}{args:Array Value}{hl:Ending->World->Prop}(jL:(execOp a.eval o).run c.P Z.w=(callFunc g args).run c.P Z.w)
  (h:gA c.P g args Z.w hl) {K:Act->World->Prop} {Q:Exit->Act->World->Prop} (hR:∀ e w',hl e w'->∃ ch,e=.panicked ch/\Q (.panic ch) a w'):o.wp c.P a Z.w K Q:=by
 unfold Oper.wp
 rw[jL]
 rcases h with⟨h1,M⟩ | ⟨v,w',h1,M⟩
 ·rw[h1]
  refine M.mono λe w' he => ?_
  grind
 ·grind
theorem z2L{c:Ctx}{Z:KS}{n:Nat}{a:Act}{o:Oper}{s:om}{d:D}{ql:St}(hC:∀ g,Dp c.P g (c.fn g))(hI:Inv Z)(hR:Rel Z n s.fr.get a)(vX:Z.st=s.st)(h:Mt c o s d ql){K:Act->World->Prop}{Q:Exit->Act->World->Prop}
  (hQ:∀ (v:Value) (Y:KS),Y.st=ql->Inv Y->Ext Z Y->RD Y d v->Q (.panic [{ v,recovered:=false }]) a Y.w):o.wp c.P a Z.w K Q:=by
 have lr:∀ (x:Operand) (z:D),bu s.fr x=some z->RD Z z (a.eval x):=λx z hz=>hR.eval (by rw[<- ij]; exact hz)
 obtain⟨dst,op,ty,pos,after,guard⟩:=o
 rcases h with⟨x,t,e,rfl,N,rfl,rfl⟩ | ⟨f,args,sr,rfl,g,caps,l,hp,R,hc⟩
 ·have hv:=lr x _ N
  generalize EG:a.eval x=pv at hv
  cases hv with
  | iface _ _ u hu =>
   have jL:(execOp a.eval ⟨dst,.panic x,ty,pos,after,guard⟩).run c.P Z.w=.halt (.panic (.iface t u)) Z.w:=by
    simp[execOp,EG,Instr.panic]
   unfold Oper.wp
   rw[jL]
   exact hQ _ Z vX hI (Ext.refl Z) (.iface t e u hu)
 ·have hpv:=lr f _ hp
  have hr:=fB (Z:=Z) (vs:=args.toList.map a.eval) R (qz) (λi d v J hv=>by
      simp only[List.getElem?_map]at J hv
      cases hi:args.toList[i]? with
      | none=>grind
      | some x=>rw[hi]at J hv; simp at J hv; subst hv; exact lr x d J)
  generalize EG:a.eval f=pv at hpv
  cases hpv with
  | wi _ _ us ZL hh2 =>
   have ZK:=Y6 g hr (⟨ZL,hh2⟩:wN Z caps us)
   rw[<- vX]at hc
   refine TJ (c:=c) (Z:=Z) (g:=ed g) (args:=(bK g (args.toList.map a.eval) us).toArray) ?_ (hC (ed g) Z _ _ _ _ hc hI ZK) ?_
   ·exact DT EG
   ·rintro e w' ⟨Y,rfl,h1,M,h3,v,rfl,h4⟩
    grind
theorem SH{c:Ctx}{Z:KS}{n:Nat}{a:Act}{id:Nat}{ops:Array Oper}{fr:Fr}{kn:Kn}{d:D}{ql:St}(hC:∀ g,Dp c.P g (c.fn g))(hI:Inv Z)(hR:Rel Z n fr.get a)(hk:yC kn fr.get)
  (h:I7 c n ops ops.toList ⟨fr,kn,Z.st,[],[]⟩ d ql) {Q:Exit->Act->World->Prop}
  (hQ:∀ (v:Value) (a':Act) (Y:KS),Y.st=ql->Inv Y->Ext Z Y->Rel Y n (Fr.get []) a'->pC ops a a'->RD Y d v->Q (.panic [{ v,recovered:=false }]) a' Y.w):(Code.region id ops false).wp c.P Q a Z.w:=by
 obtain⟨pre,o,post,s1,e,h1,M,h3⟩:=h
 have RP:∀ j:Nat,ops[j]? = (pre++o::post)[j]? := λj=>by rw[<- e]; simp
 obtain⟨ks,g1,g2,_⟩:=rR pre 0 ⟨fr,kn,Z.st,[],[]⟩ s1 (λj=>by
  by_cases hj:j<pre.length
  ·grind
  ·right; omega) hk h1
 have bM:zX ops.size=List.range' 0 pre.length++pre.length::List.range' (pre.length+1) post.length:=by
  have:ops.size=pre.length+(post.length+1):=by rw[<- qB,e]; simp
  rw[this,List.range_eq_range',<- List.range'_append_1,qD,List.range'_succ]
 refine wp_region ?_
 rw[bM]
 refine Jo hC _ _ hI hR rfl g1 λa' Y e1 e2 e3 e4 e5 => ?_
 rw[wpOps_cons]
 unfold wpOp
 have ho:ops[pre.length]? = some o:=by rw[RP]; simp
 rw[ho]
 simp only
 rw[if_pos (Zf e4 M)]
 exact .inl (z2L hC e2 e4 e1 h3 λv T4 f1 f2 f3 f4=>hQ v a' T4 f1 f2 (e3.trans f3) ⟨e4.size,e4.defers,λs d J=>by cases J⟩ e5 f4)
def VA(P:Program)(n:Nat)(l:q9)(b:Code):Prop:=∀ (Z:KS) (a:Act) (p:jR l.ps) (s:l.sh.den) (r:fQ l.ws),(l.F p s).leads r->Z.st=l.sh.st s->Inv Z ->
 Rel Z n (l.sh.fr s).get a->Rel Z n (ng (l.sh.st s) l.ps p).get a->LA l.ps (wH b)=true->(∀ w∈l.ws,l.sh.bs.length<=w.sh.bs.length) ->
 ∀ Q:Exit->Act->World->Prop,(∀ (w:Way) (x:w.sh.den) (sG:Exit) (a':Act) (Y:KS),w∈l.ws->RIs l.ws r w x->Y.st=w.sh.st x->Inv Y->Ext Z Y->zaQ Y n w x a' sG->Kept b a a'->Q sG a' Y.w) ->
  (Code.loop b).wp P Q a Z.w
def gB(P:Program)(n:Nat)(H:Hints)(code:Code):Prop:=∀ p∈u7 code,∀ l,H.loop p.1=some l->VA P n l p.2
theorem z0c{kn:Kn}:∀ (l:List Nat) {fr:Fr} {st:St} {r:Fr×St},(frz l fr st).leads r->yC kn fr.get->yC kn r.1.get
 | [],fr,st,r,h,hk=>by cases h; exact hk
 | s::l,fr,st,r,h,hk=>by
  obtain⟨x,h1,M⟩:=T.zd.1 h
  refine z0c l M λt b I => ?_
  have hf:=hk t b I
  unfold z5z at h1
  cases hW:zM 1000000 s with
  | true =>
   rw[hW,cond_true]at h1
   have hfr:x.1=fr:=by
    unfold z5x at h1
    split at h1
    ·split at h1
     ·split at h1
      ·split at h1
       ·obtain⟨_,h1⟩:=h1; cases h1; rfl
       ·exact h1.elim
      ·exact h1.elim
     ·cases h1; rfl
    ·cases h1; rfl
   grind
  | false =>
  rw[hW,cond_false]at h1
  unfold z5v at h1
  split at h1
  ·rename_i b' vi e off len hs
   split at h1
   ·split at h1
    ·obtain⟨_,h1⟩:=h1
     cases h1
     simp only[Fr.get]
     cases ht:V s t with
     | true=>rw[<- B ht,hs]at hf; cases hf
     | false=>grind
    ·exact h1.elim
   ·exact h1.elim
  ·cases h1; exact hf
theorem z34{c:Ctx}{t e:Nat}(hu:c.P.underlying t=some (.slice e)){op:BinOp}{b:Bool}(hop:z2o op=some b)(px py:Operand)(w:World)(x:Option Addr)(l k:Nat) :
  (do eqGuard op t px py (.slice x l k) (.slice none 0 0); binOp op t (.slice x l k) (.slice none 0 0):Sem Value).run c.P w=.ok (.bool (if b=true then x.isNone else !x.isNone)) w:=by
 cases op<;>simp only[z2o]at hop<;>cases hop
 ·have:=run_eql_slice_nil (P:=c.P) w t e x l k hu
  simp only[eqGuard]
  simpa using this
 ·have:=run_neq_slice_nil (P:=c.P) w t e x l k hu
  simp only[eqGuard]
  simpa using this
theorem Ll{ops:Array Oper}{fr:Fr}{p:ze1}(hp:CN (gR P xid tab ro) n ops fr=some p){Z:KS}{a:Act}{kn:Kn}(hI:Inv Z)(hR:Rel Z n fr.get a)(hk:yC kn fr.get){id:Nat}(Q:Exit->Act->World->Prop)
  (hQ:∀ a':Act,Kept (.region id ops false) a a' ->
   ((p.l=[]/\Rel Z n (Fr.get ((p.c,some (.qi .bool p.eq))::(p.m,some .wF)::(p.s,some .wF)::fr)) a')\/Rel Z n (Fr.get ((p.c,some (.qi .bool (!p.eq)))::(p.m,some (.qi (.sl p.e) p.l))::fr)) a')->Q .normal a' Z.w) :
  (Code.region id ops false).wp P Q a Z.w:=by
 unfold CN at hp
 split at hp
 ·rename_i o1 o2 hops
  split at hp
  ·rename_i m s hd1 ho1 T9
   split at hp
   ·rename_i cc op t m' y ty' hd2 ho2 hg2
    split at hp
    ·rename_i b e l et hop hs hel
     cases hc:V m m'&&L8 y&&zO m n&&zO cc n with
     | false=>grind
     | true =>
      rw[hc,cond_true]at hp
      cases hp
      simp only[X]at hc
      obtain⟨⟨⟨hmm,hy⟩,hmn⟩,hcn⟩:=hc
      have:=B hmm
      subst this
      have hy':y=.const (.slice none 0 0):=by
       unfold L8 at hy
       grind
      subst hy'
      obtain⟨v,hv,ef⟩:=hR.get s _ hs
      obtain⟨x,k,hvs⟩:∃ (x:Option Addr) (k:Nat),v=.slice x l.length k/\(x=none->l=[]/\k=0):=by
       rcases(ef.jF rfl).tA with⟨rfl,a0,he⟩ | ⟨blk,off,cap,f,he,j3,jg,h1,M⟩
       ·grind
       ·grind
      obtain⟨rfl,hvn⟩:=hvs
      have bM:ops.size=2:=by rw[<- qB,hops]; rfl
      have e0:ops[0]? = some o1:=by rw[<- qO,hops]; rfl
      have e1:ops[1]? = some o2:=by rw[<- qO,hops]; rfl
      have zns:m<n:=zE hmn
      have zrN:cc<n:=zE hcn
      have hsl:a.tmps.getD s undef=.slice x l.length k:=by simp[qC,hv]
      have wan:∀ (o:Oper) (ys:Nat->Option Value),o.guard=none->True:=λ_ _ _=>trivial
      refine wp_region ?_
      rw[bM,show zX 2=[0,1]from rfl,wpOps_cons]
      unfold wpOp
      rw[e0]
      simp only
      rw[if_pos (by unfold Region.wanted; rw[T9])]
      refine .inl ?_
      obtain⟨d1,op1,ty1,zcY,af1,gu1⟩:=o1
      obtain⟨d2,op2,BJ,z8E,af2,gu2⟩:=o2
      simp only at hd1 ho1 T9 hd2 ho2 hg2
      subst hd1 ho1 T9 hd2 ho2 hg2
      have hx1:(execOp a.eval ⟨some m,.move (.tmp s),ty1,zcY,af1,none⟩).run P Z.w=.ok (.value (.slice x l.length k)) Z.w:=by
       simp[execOp,Act.eval,hsl]
      unfold Oper.wp
      rw[hx1,Oper.upon_value,wpOps_cons]
      unfold wpOp
      rw[e1]
      simp only
      rw[if_pos (by unfold Region.wanted; rfl)]
      refine .inl ?_
      have lr:(a.put (some m) (.slice x l.length k)).eval (.tmp m)=.slice x l.length k:=by
       have:=hR.size
       simp[Act.eval,Act.put,qC,qA,this,zns]
      have hu:=yJ hel
      have jL:=z34 (c:=gR P xid tab ro) hu hop (.tmp m) (.const (.slice none 0 0)) Z.w x l.length k
      have MV:(execOp (a.put (some m) (.slice x l.length k)).eval ⟨some cc,.binOp op t (.tmp m) (.const (.slice none 0 0)) ty',BJ,z8E,af2,none⟩).run P Z.w=.ok (.value (.bool (if b=true then x.isNone else !x.isNone))) Z.w:=by
       have hex:execOp (a.put (some m) (.slice x l.length k)).eval ⟨some cc,.binOp op t (.tmp m) (.const (.slice none 0 0)) ty',BJ,z8E,af2,none⟩ =
        (do Pure.pure (.value (<- (do eqGuard op t (.tmp m) (.const (.slice none 0 0)) ((a.put (some m) (.slice x l.length k)).eval (.tmp m)) (.slice none 0 0); binOp op t ((a.put (some m) (.slice x l.length k)).eval (.tmp m)) (.slice none 0 0))))):=rfl
       rw[hex,lr,Sem.run_bind]
       rw[show(do eqGuard op t (.tmp m) (.const (.slice none 0 0)) (.slice x l.length k) (.slice none 0 0); binOp op t (.slice x l.length k) (.slice none 0 0):Sem Value).run P Z.w=_ from jL]
       rfl
      unfold Oper.wp
      rw[MV,Oper.upon_value]
      have zgo:∀ (q:Nat) (u:Value) (a1:Act) (t:Nat),(a1.put (some q) u).tmps[t]? = if q=t then(if q<a1.tmps.size then some u else none)else a1.tmps[t]? := by
       intro q u a1 t
       simp only[Act.put,qA]
      have Tg:(a.put (some m) (.slice x l.length k)).tmps.size=n:=by simp[Act.put,hR.size]
      have hs2:((a.put (some m) (.slice x l.length k)).put (some cc) (.bool (if b=true then x.isNone else !x.isNone))).tmps.size=n:=by simp[Act.put,hR.size]
      refine hQ _ (λt ht => ?_) ?_
      ·have hw:wH (.region id ops false)=[m,cc]:=by simp only[wH,hops,dstsOf]
       grind
      ·have get:∀ (t:Nat),((a.put (some m) (.slice x l.length k)).put (some cc) (.bool (if b=true then x.isNone else !x.isNone))).tmps[t]? = if cc=t then some (.bool (if b=true then x.isNone else !x.isNone))else if m=t then some (.slice x l.length k)else a.tmps[t]? := by
        grind
       have z8f:∀ {i j:Nat},V i j=false->i≠j:=λh e=>by subst e; simp at h
       cases x with
       | none =>
        obtain⟨R,Dt⟩:=hvn rfl
        subst R Dt
        refine .inl ⟨rfl,hs2,hR.defers,λt d J => ?_⟩
        rw[get]
        simp only[Fr.get]at J
        cases h1:V cc t with
        | true =>
         rw[h1,cond_true]at J; cases J
         rw[if_pos (B h1)]
         refine⟨_,rfl,?_⟩
         cases b<;>exact .bool
        | false =>
         rw[h1,cond_false]at J
         rw[if_neg (z8f h1)]
         cases M:V m t with
         | true=>rw[M,cond_true]at J; cases J; rw[if_pos (B M)]; exact⟨_,rfl,.wF⟩
         | false =>
          rw[M,cond_false]at J
          rw[if_neg (z8f M)]
          cases h3:V s t with
          | true=>rw[h3,cond_true]at J; cases J; rw[<- B h3]; exact⟨_,hv,.wF⟩
          | false=>rw[h3,cond_false]at J; exact hR.get t d J
       | some x =>
        refine .inr ⟨hs2,hR.defers,λt d J => ?_⟩
        rw[get]
        simp only[Fr.get]at J
        cases h1:V cc t with
        | true =>
         rw[h1,cond_true]at J; cases J
         rw[if_pos (B h1)]
         refine⟨_,rfl,?_⟩
         cases b<;>exact .bool
        | false =>
         rw[h1,cond_false]at J
         rw[if_neg (z8f h1)]
         cases M:V m t with
         | true=>rw[M,cond_true]at J; cases J; rw[if_pos (B M)]; exact⟨_,rfl,ef⟩
         | false=>rw[M,cond_false]at J; rw[if_neg (z8f M)]; exact hR.get t d J
    ·cases hp
   ·cases hp
  ·cases hp
 ·cases hp
theorem Rx{id:Nat}{b:Code}(I:∀ b',b≠.loop b')(fr:Fr)(kn:Kn)(st:St){α:Type}(k:I6->T α):Vy (gR P xid tab ro) tab n H (.block id b) fr kn st k=Vy (gR P xid tab ro) tab n H b fr kn st λr=>match r.ex with
  | .exit id'=>bif V id' id then k { r with ex:=.normal } else k r
  | _=>k r:=by
 cases b<;>first | rfl | exact absurd rfl (I _)
theorem QX(hm:(gR P xid tab ro).P.follows .mixedOrders=true)(hT:eo P tab):∀ (code:Code),gB P n H code->∀ {fr:Fr} {kn:Kn} {Z:KS} {a:Act} {α:Type} {k:I6->T α} {r:α},
  (Vy (gR P xid tab ro) tab n H code fr kn Z.st k).leads r->Inv Z->Rel Z n fr.get a->yC kn fr.get ->
  ∀ Q:Exit->Act->World->Prop,(∀ (o:I6) (sG:Exit) (a':Act) (Y:KS),(k o).leads r->Y.st=o.st->Inv Y->Ext Z Y->Rel Y n o.fr.get a'->yC o.kn o.fr.get->Kept code a a'->(o.q=true->o.st=Z.st)->DC Y o.ex sG->Q sG a' Y.w) ->
   code.wp P Q a Z.w:=by
 intro code
 induction code with
 | skip=>intro _ fr kn Z a α k r h hI hR hk Q hQ; exact wp_skip (hQ _ _ a Z h rfl hI (Ext.refl Z) hR hk (λ_ _=>rfl) (λ_=>rfl) rfl)
 | exit id=>intro _ fr kn Z a α k r h hI hR hk Q hQ; exact wp_exit (hQ _ _ a Z h rfl hI (Ext.refl Z) hR hk (λ_ _=>rfl) (λ_=>rfl) rfl)
 | ret=>intro _ fr kn Z a α k r h hI hR hk Q hQ; exact wp_ret (hQ _ _ a Z h rfl hI (Ext.refl Z) hR hk (λ_ _=>rfl) (λ_=>rfl) rfl)
 | region id ops draw =>
  intro _ fr kn Z a α k r h hI hR hk Q hQ
  simp only[Vy]at h
  obtain⟨z,h0,h⟩:=T.zd.1 h
  obtain⟨κ0,w1,w2,w3,w4,w5⟩:=z0d _ h0 hI hR
  have Dt:=z0c _ h0 hk
  rcases Hf Dt h with⟨s,h1,M⟩ | ⟨d,ql,rfl,h1,M⟩
  rotate_left
  ·rw[<- w2]at h1
   rw[<- w1]
   exact SH (CJ hT) w3 w5 Dt h1 λv a' Y e1 e2 e3 e4 e5 e6=>hQ ⟨.b9 d,[],[],ql,false⟩ _ a' Y M e1 e2 (w4.trans e3) e4 (nd _) (λt ht=>e5 t λo ho he=>ht (VV ho he)) (λhq=>by cases hq) ⟨v,rfl,e6⟩
  rw[<- w2]at h1
  have Kz:=SN Dt h1
  rw[<- w1]
  refine(SO hm (CJ hT) w3 w5 Dt h1 λa' Y e1 e2 e3 e4 e5=>hQ ⟨.normal,s.fr,s.kn,s.st,quiet s.ks&&(H.frz id).isEmpty⟩ _ a' Y M e1 e2 (w4.trans e3) e4 Kz (λt ht=>e5 t λo ho he=>ht (VV ho he)) (λhq => ?_) rfl).1
  simp only[X]at hq
  have he:H.frz id=[]:=zW.1 hq.2
  rw[he]at h0
  cases h0
  exact(D0 h1 hq.1).trans w2
 | seq x y ix iy =>
  intro R fr kn Z a α k r h hI hR hk Q hQ
  have hlx:gB P n H x:=λp hp=>R p (by simp only[u7,zN]; exact .inl hp)
  have hly:gB P n H y:=λp hp=>R p (by simp only[u7,zN]; exact .inr hp)
  have kx:∀ {a a':Act},Kept x a a'->Kept (.seq x y) a a':=λh s hs=>h s λe=>hs (by simp only[wH,zN]; exact .inl e)
  have ky:∀ {a a':Act},Kept y a a'->Kept (.seq x y) a a':=λh s hs=>h s λe=>hs (by simp only[wH,zN]; exact .inr e)
  simp only[Vy]at h
  split at h
  ·refine wp_seq (ix hlx h hI hR hk _ λo sG a' Y e0 e1 e2 e3 e4 T5 e5 e5q e6 => ?_)
   cases hex:o.ex<;>rw[hex]at e0 e6<;>simp only at e0
   ·cases e6
    refine iy hly (Z:=Y) (e1▸e0) e2 e4 T5 Q λo' Cg a'' T4 f0 f1 f2 f3 f4 HJ f5 FZ f6=>hQ { o' with q:=o.q&&o'.q } Cg a'' T4 f0 f1 f2 (e3.trans f3) f4 HJ (λs hs=>(ky f5 s hs).trans (kx e5 s hs)) ?_ f6
    grind
   ·cases e6; exact hQ o _ a' Y e0 e1 e2 e3 e4 T5 (kx e5) e5q (by rw[hex]; rfl)
   ·cases e6; exact hQ o _ a' Y e0 e1 e2 e3 e4 T5 (kx e5) e5q (by rw[hex]; rfl)
   ·obtain⟨v,rfl,hv⟩:=e6
    exact hQ o _ a' Y e0 e1 e2 e3 e4 T5 (kx e5) e5q (by rw[hex]; exact⟨v,rfl,hv⟩)
  ·rename_i fq hcu
   cases hw:Bx fq with
   | false=>rw[hw]at h; exact h.elim
   | true =>
    rw[hw,cond_true]at h
    obtain⟨z,h1,M⟩:=T.zd.1 h
    have h1:=El h1
    refine wp_seq (ix hlx h1 hI hR hk _ λo sG a' Y e0 e1 e2 e3 e4 T5 e5 e5q e6 => ?_)
    cases hex:o.ex<;>rw[hex]at e0 e6<;>simp only at e0
    ·cases e6
     cases hq:o.q with
     | false=>rw[hq]at e0; exact e0.elim
     | true =>
      rw[hq,cond_true]at e0
      have vX:o.st=Z.st:=e5q hq
      have hRz:Rel Y n (ng Z.st fq z).get a':=by
       refine⟨e4.size,e4.defers,λt d J => ?_⟩
       obtain⟨k',y',d0,g0,g1,g2,g3⟩:=(UK (p:=λ_=>true) (ql:=Z.st) fq [] z (λ_ _=>rfl) e0).2 _ (get_mem J)
       cases g3
       obtain⟨v,q1,q2⟩:=e4.get _ _ g1
       have Yn:=zP.1 hw _ g0
       have Yn:KI k'=true:=Yn
       have hwk:Wk Y Y:=⟨rfl,rfl,rfl,rfl,λb d h=>⟨d,h⟩,λb v e xs h=>.inl h,λb v e xs h=>h,λb h=>h⟩
       have j3:Fg [] k'=true:=by cases k'<;>first | rfl | cases Yn
       rw[<- e1]at g2
       have:=Df hwk (bs:=[]) j3 (λ_ _=>rfl) (ql:=Y.st) (λ_ _=>rfl) (λ_ h=>by simp[rowAt]at h) g2 q2
       grind
      have HO:=Wa hR e3 hRz e5
      refine iy hly (Z:=Y) (by rw[e1,vX]; exact M) e2 HO (nd _) Q λo' Cg a'' T4 f0 f1 f2 f3 f4 HJ f5 FZ f6=>hQ o' Cg a'' T4 f0 f1 f2 (e3.trans f3) f4 HJ (λs hs=>(ky f5 s hs).trans (kx e5 s hs)) (λhq=>(FZ hq).trans (e1.trans vX)) f6
    ·exact e0.elim
    ·exact e0.elim
    ·exact e0.elim
  ·rename_i hcu
   cases hop:opsOf x with
   | none=>rw[hop]at h; exact h.elim
   | some ops =>
    rw[hop]at h
    simp only at h
    cases hp:CN (gR P xid tab ro) n ops fr with
    | none=>rw[hp]at h; exact h.elim
    | some p =>
     rw[hp]at h
     obtain⟨Ym,zgg⟩:=h
     obtain⟨id,rfl⟩:∃ id,x=.region id ops false:=by
      cases x with
      | region id ops' draw =>
       cases draw with
       | true=>cases hop
       | false=>cases hop; exact⟨id,rfl⟩
      | _=>cases hop
     refine wp_seq (Ll hp hI hR hk _ ?_)
     intro a' hk1 zfO
     rcases zfO with⟨R,HO⟩ | HO
     ·refine iy hly (Z:=Z) (Ym R _ zgg) hI HO (λt b I => ?_) Q λo' Cg a'' T4 f0 f1 f2 f3 f4 HJ f5 FZ f6=>hQ o' Cg a'' T4 f0 f1 f2 f3 f4 HJ (λs hs=>(ky f5 s hs).trans (kx hk1 s hs)) FZ f6
      simp only[Kn.get]at I
      simp only[Fr.get]
      grind
     ·refine iy hly (Z:=Z) zgg hI HO (λt b I => ?_) Q λo' Cg a'' T4 f0 f1 f2 f3 f4 HJ f5 FZ f6=>hQ o' Cg a'' T4 f0 f1 f2 f3 f4 HJ (λs hs=>(ky f5 s hs).trans (kx hk1 s hs)) FZ f6
      simp only[Kn.get]at I
      simp only[Fr.get]
      cases ht:V p.c t with
      | true=>rw[ht,cond_true]at I; rw[cond_true]; cases I; rfl
      | false=>rw[ht,cond_false]at I; cases I
  ·rename_i ws hcu
   cases hw:ws.all λw=>zM Z.st.length w.sh.bs.length with
   | false=>rw[hw]at h; exact h.elim
   | true =>
    rw[hw,cond_true]at h
    obtain⟨rr,GJ,M⟩:=T.zd.1 h
    refine wp_seq (ix hlx GJ hI hR hk _ λo sG a' Y e0 e1 e2 e3 e4 T5 e5 _ e6 => ?_)
    obtain⟨w,g1,z,g2,g3,g4⟩:=CB _ _ _ _ _ e0
    have hwl:=zP.1 hw w g1
    obtain⟨κ1,q1,q2,q3,q4,q5⟩:=z3s (n:=n) e3 e2 e4 e6 g3 (zE hwl) (by rw[e1]; exact g4)
    rw[g2]at M
    split at M
    ·exact M.elim
    rename_i zz hzz
    obtain⟨q5,z0Q⟩:=q5 zz hzz
    have HO:=Wa hR q4 q5 e5
    rw[<- q1]
    cases hex:zz.1<;>rw[hex]at M z0Q<;>simp only at M
    ·cases z0Q
     exact iy hly (Z:=κ1) (by rw[q2]; exact M) q3 HO (nd _) Q λo' Cg a'' T4 f0 f1 f2 f3 f4 HJ f5 _ f6=>hQ { o' with q:=false } Cg a'' T4 f0 f1 f2 (q4.trans f3) f4 HJ (λs hs=>(ky f5 s hs).trans (kx e5 s hs)) (λhq=>by cases hq) f6
    ·cases z0Q; exact hQ _ _ a' κ1 M q2 q3 q4 HO (nd _) (kx e5) (λhq=>by cases hq) rfl
    ·cases z0Q; exact hQ _ _ a' κ1 M q2 q3 q4 HO (nd _) (kx e5) (λhq=>by cases hq) rfl
    ·obtain⟨v,rfl,hv⟩:=z0Q
     exact hQ _ _ a' κ1 M q2 q3 q4 HO (nd _) (kx e5) (λhq=>by cases hq) ⟨v,rfl,hv⟩
 | cond x p q ip iq =>
  intro R fr kn Z a α k r h hI hR hk Q hQ
  have hlp:gB P n H p:=λz hz=>R z (by simp only[u7,zN]; exact .inl hz)
  have RR:gB P n H q:=λz hz=>R z (by simp only[u7,zN]; exact .inr hz)
  have kp:∀ {a a':Act},Kept p a a'->Kept (.cond x p q) a a':=λh s hs=>h s λe=>hs (by simp only[wH,zN]; exact .inl e)
  have kq:∀ {a a':Act},Kept q a a'->Kept (.cond x p q) a a':=λh s hs=>h s λe=>hs (by simp only[wH,zN]; exact .inr e)
  have hQp:=λ(o:I6) (sG:Exit) (a':Act) (Y:KS) f0 f1 f2 f3 f4 HJ (f5:Kept p a a') FZ f6=>hQ o sG a' Y f0 f1 f2 f3 f4 HJ (kp f5) FZ f6
  have hQq:=λ(o:I6) (sG:Exit) (a':Act) (Y:KS) f0 f1 f2 f3 f4 HJ (f5:Kept q a a') FZ f6=>hQ o sG a' Y f0 f1 f2 f3 f4 HJ (kq f5) FZ f6
  simp only[Vy]at h
  split at h
  ·rename_i N
   have hv:wA fr.get x=some (.qi .bool true):=lY hk N
   exact wp_cond_true (hR.eval hv).cr (ip hlp h hI hR hk Q hQp)
  ·rename_i N
   have hv:wA fr.get x=some (.qi .bool false):=lY hk N
   exact wp_cond_false (hR.eval hv).cr (iq RR h hI hR hk Q hQq)
  ·split at h
   ·split at h
    ·rename_i v hv
     have he:=hv
     rw[show ∀ t,fr.get t=wA fr.get (.tmp t)from λ_=>rfl]at he
     rcases h with⟨rfl,h⟩ | ⟨rfl,h⟩
     ·exact wp_cond_true (hR.eval he).cr (ip hlp h hI hR (XT hk hv) Q hQp)
     ·exact wp_cond_false (hR.eval he).cr (iq RR h hI hR (XT hk hv) Q hQq)
    ·exact h.elim
   ·exact h.elim
 | block id b ib =>
  intro R fr kn Z a α k r h hI hR hk Q hQ
  by_cases I:∃ b',b=.loop b'
  ·obtain⟨b,rfl⟩:=I
   simp only[Vy]at h
   split at h
   ·exact h.elim
   ·rename_i l hll
    cases hc:zM (gh l.gh fr Z.st).2.length l.sh.bs.length&&LA l.ps (wH b)&&l.ws.all λw=>zM l.sh.bs.length w.sh.bs.length with
    | false=>rw[hc]at h; exact h.elim
    | true =>
     rw[hc,cond_true]at h
     simp only[X,zP]at hc
     obtain⟨⟨RN,hc2⟩,hc3⟩:=hc
     obtain⟨p,h1,h⟩:=T.zd.1 h
     obtain⟨s,M,h⟩:=T.zd.1 h
     obtain⟨rr,h3,h4⟩:=T.zd.1 h
     obtain⟨κ1,w1,w2,w3,w4,w5⟩:=sI l.gh fr Z hI hR
     rw[<- w2]at h1 M RN
     obtain⟨κ2,q1,q2,q3,q4,q5,_⟩:=l.sh.K5 (n:=n) (Ext.refl κ1) w3 w5 (zE RN) M
     -- the loop's parameters
     have hps:Rel κ2 n (ng (l.sh.st s) l.ps p).get a:=by
      refine⟨w5.size,w5.defers,λt d J => ?_⟩
      obtain⟨k',y,d0,g0,g1,g2,g3⟩:=(UK (p:=λ_=>true) (ql:=l.sh.st s) l.ps [] p (λ_ _=>rfl) h1).2 _ (get_mem J)
      cases g3
      obtain⟨v,e1,e2⟩:=w5.get _ _ g1
      have Yn:=zP.1 hc2 _ g0
      simp only[X]at Yn
      have hwk:Wk κ1 κ1:=⟨rfl,rfl,rfl,rfl,λb d h=>⟨d,h⟩,λb v e xs h=>.inl h,λb v e xs h=>h,λb h=>h⟩
      have j3:Fg [] k'=true:=by cases k'<;>first | rfl | cases Yn.1
      have:=Df hwk (bs:=[]) j3 (λ_ _=>rfl) (ql:=κ1.st) (λ_ _=>rfl) (λ_ h=>by simp[rowAt]at h) g2 e2
      have he:Qx κ1.st k' y=Qx (l.sh.st s) k' y:=by cases k'<;>first | rfl | cases Yn.1
      rw[he]at this
      exact⟨v,e1,this.mono q4⟩
     have z5W:Ext Z κ2:=w4.trans q4
     have Kg:κ2.w=Z.w:=q1.trans w1
     rw[<- Kg]
     refine wp_block (R (id,b) (by simp[u7]) l hll κ2 a p s rr h3 q2 q3 q5 hps hc2 (λw hw=>zE (hc3 w hw)) _ λw x sG a' Y f1 f2 f3 f4 f5 f6 f7 => ?_)
     rw[f2]at h4
     split at h4
     ·exact h4.elim
     rename_i zz hzz
     obtain⟨f6,f8⟩:=f6 zz hzz
     have hR':Rel Y n (zz.2++(og (wH b)++(gh l.gh fr Z.st).1)).get a':=Wa w5 (q4.trans f5) f6 f7
     have hkk:Kept (.block id (.loop b)) a a':=f7
     cases hwx:zz.1<;>rw[hwx]at h4 f8<;>simp only at h4
     ·exact h4.elim
     ·rename_i id'
      cases f8
      simp only[Exit.inBlock]
      cases Ke:V id' id with
      | true =>
       rw[Ke,cond_true]at h4
       have:=B Ke
       subst this
       rw[if_pos rfl]
       exact hQ _ _ a' Y h4 f3 f4 (z5W.trans f5) hR' (nd _) hkk (λhq=>by cases hq) rfl
      | false =>
       rw[Ke,cond_false]at h4
       rw[if_neg (λe=>by subst e; simp at Ke)]
       exact hQ _ _ a' Y h4 f3 f4 (z5W.trans f5) hR' (nd _) hkk (λhq=>by cases hq) rfl
     ·cases f8
      exact hQ _ _ a' Y h4 f3 f4 (z5W.trans f5) hR' (nd _) hkk (λhq=>by cases hq) rfl
     ·obtain⟨v,rfl,hv⟩:=f8
      exact hQ _ _ a' Y h4 f3 f4 (z5W.trans f5) hR' (nd _) hkk (λhq=>by cases hq) ⟨v,rfl,hv⟩
  ·have Ke:∀ b',b≠.loop b':=λb' e=>I ⟨b',e⟩
   rw[Rx Ke]at h
   refine wp_block (ib (λz hz=>R z (by rw[EU Ke]; exact hz)) h hI hR hk _ λo sG a' Y f0 f1 f2 f3 f4 HJ f5 FZ f6 => ?_)
   have hkk:Kept (.block id b) a a':=f5
   cases GK:o.ex<;>rw[GK]at f0 f6<;>simp only at f0
   ·cases f6; exact hQ o _ a' Y f0 f1 f2 f3 f4 HJ hkk FZ (by rw[GK]; rfl)
   ·rename_i id'
    cases f6
    simp only[Exit.inBlock]
    cases hbq:V id' id with
    | true =>
     rw[hbq,cond_true]at f0
     have:=B hbq
     subst this
     rw[if_pos rfl]
     exact hQ _ _ a' Y f0 f1 f2 f3 f4 HJ hkk FZ rfl
    | false =>
     rw[hbq,cond_false]at f0
     rw[if_neg (λe=>by subst e; simp at hbq)]
     exact hQ o _ a' Y f0 f1 f2 f3 f4 HJ hkk FZ (by rw[GK]; rfl)
   ·cases f6; exact hQ o _ a' Y f0 f1 f2 f3 f4 HJ hkk FZ (by rw[GK]; rfl)
   ·obtain⟨v,rfl,hv⟩:=f6
    exact hQ o _ a' Y f0 f1 f2 f3 f4 HJ hkk FZ (by rw[GK]; exact⟨v,rfl,hv⟩)
 | _=>intro _ fr kn Z a α k r h; simp only[Vy]at h; exact h.elim
end
end Go.AM
namespace Go.AM
set_option linter.unusedSectionVars false
variable [yY]
open Go.RowKit
section
variable [Hp]
variable {P:Program} {xid:Nat} {tab:lE} {ro:Nat->Bool} {n:Nat} {H:Hints}
theorem Ph{b:Code}{st ql:St}:∀ (fq:List It) (z:jR fq),LA fq (wH b)=true->ng st fq z=ng ql fq z/\∀ q∈ng st fq z,q.1 ∉ wH b:=by
 intro fq
 induction fq with
 | nil=>intro z _; exact⟨rfl,λq hq=>by cases hq⟩
 | cons i r ih =>
  intro z h
  have hi:∀ y:i.den,GW st i y=GW ql i y/\∀ q∈GW st i y,q.1 ∉ wH b:=by
   intro y
   simp only[LA,zF,X]at h
   cases i with
   | s t k =>
    obtain⟨h1,_⟩:=h
    simp at h1
    refine⟨by cases k<;>first | rfl | (simp[KI]at h1),λq hq => ?_⟩
    simp only[GW,zL]at hq
    subst hq
    intro hm
    have:=h1.2
    simp only[za7,qF,List.any_eq_false]at this
    exact this t hm (qz)
   | _=>grind
  cases r with
  | nil =>
   have e1:=YU st i z
   have e2:=YU ql i z
   grind
  | cons j r =>
   have e1:=Jj st i j r z
   have e2:=Jj ql i j r z
   have hr:LA (j::r) (wH b)=true:=by
    unfold LA at h ⊢
    grind
   grind
theorem z8c(hm:(gR P xid tab ro).P.follows .mixedOrders=true)(hT:eo P tab){l:q9}{b:Code}(hL:gB P n H b)(hl:jR l.ps->l.sh.den->T (l.sh.den⊕fQ l.ws))
  (round:∀ p s,z2X (gR P xid tab ro) tab n H l b p s=hl p s) (hF:∀ p s,l.F p s=T.loop (hl p) s):VA P n l b:=by
 intro Z a p s r hr vX hI hR hRp hps hws Q hQ
 rw[hF,T.eW]at hr
 obtain⟨m,hm'⟩:=hr
 have znA:=λ(st ql:St)=>(Ph (b:=b) (st:=st) (ql:=ql) l.ps p hps).1
 have zbS:∀ (st:St) (t:Nat) (d:D),(ng st l.ps p).get t=some d->t ∉ wH b:=λst t d J=>(Ph (b:=b) (st:=st) (ql:=st) l.ps p hps).2 _ (get_mem J)
 refine wp_loop_ghost (λm a' w'=>∃ s',T.Iter (hl p) m s' r/\∃ Y:KS,Y.w=w'/\Y.st=l.sh.st s'/\Inv Y/\Ext Z Y/\Rel Y n (l.sh.fr s').get a'/\Rel Y n (ng (l.sh.st s) l.ps p).get a'/\Kept b a a') m
  ⟨s,hm',Z,rfl,vX,hI,Ext.refl Z,hR,hRp,λ_ _=>rfl⟩ ?_
 rintro m a1 w1 ⟨s1,hit,κ1,rfl,g4,g5,g6,g7a,g7b,g8⟩
 have g7:Rel κ1 n (l.sh.fr s1++ng (l.sh.st s1) l.ps p).get a1:=⟨g7a.size,g7a.defers,λt d J=>by
  rcases JF J with J | J
  ·exact g7a.get t d J
  ·rw[znA _ (l.sh.st s)]at J; exact g7b.get t d J⟩
 cases hit with
 | done h1 =>
  rw[<- round]at h1
  refine QX hm hT b hL (Z:=κ1) (by rw[g4]; exact h1) g5 g7 (nd _) _ λo sG a' Y e0 e1 e2 e3 e4 T5 e5 _ e6 => ?_
  have fin:∀ exo,DC Y exo sG->(CA l.ws exo (GV exo o.fr) o.st).leads r->Q sG a' Y.w:=λexo e6 e0=>by
   obtain⟨w,k1,x,k2,k3,k4⟩:=CB _ _ _ _ _ e0
   have hlen:κ1.st.length<=w.sh.bs.length:=by rw[g4]; exact zV (uq.Xv _ _) (hws w k1)
   obtain⟨κ2,q1,q2,q3,q4,q5⟩:=z3s (n:=n) e3 e2 e4 e6 k3 hlen (by rw[e1]; exact k4)
   have:=hQ w x sG a' κ2 k1 k2 q2 q3 (g6.trans q4) q5 (λt ht=>(e5 t ht).trans (g8 t ht))
   grind
  have OQ:∀ {z:l.sh.den⊕fQ l.ws},((CA l.ws o.ex (GV o.ex o.fr) o.st).bind λr=>T.ret (qM r:l.sh.den⊕fQ l.ws)).leads z->z=qM r->(CA l.ws o.ex (GV o.ex o.fr) o.st).leads r:=by
   intro z h hz
   obtain⟨y,h1,M⟩:=T.zd.1 h
   have M:(qM y:l.sh.den⊕fQ l.ws)=z:=M
   grind
  cases GK:o.ex<;>rw[GK]at e0 e6 OQ<;>simp only at e0
  ·obtain⟨y,_,M⟩:=T.zd.1 e0
   have M:(qR y:l.sh.den⊕fQ l.ws)=qM r:=M
   cases M
  ·have q:=fin _ e6 (OQ e0 rfl); cases e6; exact q
  ·have q:=fin _ e6 (OQ e0 rfl); cases e6; exact q
  ·have q:=fin _ e6 (OQ e0 rfl); obtain⟨v,rfl,hv⟩:=e6; exact q
 | step h1 hit =>
  rename_i m s2
  rw[<- round]at h1
  refine QX hm hT b hL (Z:=κ1) (by rw[g4]; exact h1) g5 g7 (nd _) _ λo sG a' Y e0 e1 e2 e3 e4 T5 e5 _ e6 => ?_
  have OR:((CA l.ws o.ex (GV o.ex o.fr) o.st).bind λr=>T.ret (qM r:l.sh.den⊕fQ l.ws)).leads (qR s2)->False:=by
   intro h
   obtain⟨y,h1,M⟩:=T.zd.1 h
   have M:(qM y:l.sh.den⊕fQ l.ws)=qR s2:=M
   cases M
  cases GK:o.ex<;>rw[GK]at e0 e6 OR<;>simp only at e0
  ·cases e6
   obtain⟨y,h1,M⟩:=T.zd.1 e0
   have M:(qR y:l.sh.den⊕fQ l.ws)=qR s2:=M
   cases M
   have hlen:κ1.st.length<=l.sh.bs.length:=by rw[g4]; exact uq.Xv _ _
   obtain⟨κ2,q1,q2,q3,q4,q5,_⟩:=l.sh.K5 (n:=n) e3 e2 e4 hlen (by rw[e1]; exact h1)
   refine⟨m,Nat.lt_succ_self _,s2,hit,κ2,q1,q2,q3,g6.trans q4,q5,⟨q5.size,q5.defers,λt d J => ?_⟩,λt ht=>(e5 t ht).trans (g8 t ht)⟩
   obtain⟨v,r1,r2⟩:=g7b.get t d J
   exact⟨v,(e5 t (zbS _ t d J)).trans r1,r2.mono q4⟩
  ·exact(OR e0).elim
  ·exact(OR e0).elim
  ·exact(OR e0).elim
end
section
variable {P:Program} {xid:Nat} {tab:lE} {ro:Nat->Bool} {n:Nat} {H:Hints}
theorem JM{Z:KS}(hI:Inv Z):∀ (rs:List Ty) (ds:List D) (x:Dq rs) (vs:List Value),(z3q Z.st rs ds).leads x->wN Z ds vs->wN Z.all (Ud rs x) vs/\∀ d∈Ud rs x,JB d=true
 | [],[],x,vs,h,J=>by rw[J.we]; exact⟨.nil,λd J=>by cases J⟩
 | [],_::_,x,vs,h,J=>h.elim
 | [τ],[],x,vs,h,J=>h.elim
 | [τ],[d],x,vs,h,J=>by
  obtain⟨v,us,rfl,h1,M⟩:=J.cons_inv
  rw[M.we]
  refine⟨.cons (VK hI h1 h) .nil,λd J => ?_⟩
  have J:d∈[D.qi τ x]:=J
  rw[zL]at J
  subst J; rfl
 | [τ],_::_::_,x,vs,h,J=>h.elim
 | τ::σ::r,[],x,vs,h,J=>h.elim
 | τ::σ::r,d::ds,x,vs,h,J=>by
  obtain⟨y,h1,M⟩:=T.zd.1 h
  obtain⟨z,h3,h4⟩:=T.zd.1 M
  cases h4
  obtain⟨v,us,rfl,k1,k2⟩:=J.cons_inv
  obtain⟨g1,g2⟩:=JM hI (σ::r) ds z us h3 k2
  refine⟨.cons (VK hI k1 h1) g1,λd J => ?_⟩
  rcases zH.1 J with rfl | J
  ·rfl
  ·grind
theorem zer(hm:(gR P xid tab ro).P.follows .mixedOrders=true)(hT:eo P tab){f:Nat}{fn:Func}{code:Code}(hf:P.funcs[f]? = some fn)(I:fn.body=some code)
  (hn:(fn.name == "runtime.NumGoroutine")=false) (hL:gB P fn.ntmps H code) {d:DD} (h:∀ x,z06 (gR P xid tab ro) tab H fn code d x=d.F x):q8 P f d:=by
 intro Z x xb y vX hy hI ha
 rw[<- h]at hy
 unfold z06 at hy
 cases hle:zM (Jk d.ps x).length fn.ntmps with
 | false=>rw[hle]at hy; exact hy.elim
 | true =>
  rw[hle,cond_true]at hy
  have H0:=zE hle
  refine .inl ⟨uS hf hn (xz) Z.w,calls_of_wp hf I ?_⟩
  have hR:=Ko ha H0
  refine QX hm hT code hL (Z:=Z) (by rw[vX]; exact hy) hI hR (nd _) _ λo sG a' κe e0 e1 e2 e3 e4 _ _ _ e6 => ?_
  have fin:(sG=.normal\/sG=.ret)->((np (gR P xid tab ro) o.fr o.st fn.results.toList).bind λds=>z3q o.st d.rs ds).leads y ->
    bodyPost P fn (λe w'=>∃ Y:KS,Y.w=w'/\Y.st=[]/\Inv Y/\Ext Z Y/\jd Y (.ret (Ud d.rs y)) e) sG a' κe.w:=by
   intro hex M
   obtain⟨ds,g1,g2⟩:=T.zd.1 M
   rw[<- e1]at g1 g2
   obtain⟨vs,k1,k2⟩:=UD e2 e4 g1
   obtain⟨q1,q2⟩:=SK hI vX e2 e3
   obtain⟨R,hdat⟩:=JM e2 d.rs ds y vs g2 k2
   have L4:wN (κe.bare (Th κe)) (Ud d.rs y) vs:=⟨R.1,λi h1 M=>Zo (hdat _ (List.getElem_mem h1)) (R.2 i h1 M)⟩
   have JK:a'.defers=[]/\∃ v,(results fn a'.tmps).run P κe.w=.ok v κe.w/\∃ Y:KS,Y.w=κe.w/\Y.st=[]/\Inv Y/\Ext Z Y/\jd Y (.ret (Ud d.rs y)) (.returned v) :=
    ⟨e4.defers,_,k1,κe.bare (Th κe),rfl,rfl,q1,q2,_,rfl,G7 L4⟩
   rcases hex with rfl | rfl
   ·exact JK
   ·exact JK
  cases GK:o.ex<;>rw[GK]at e0 e6<;>simp only at e0
  ·exact fin (.inl e6) e0
  ·exact e0.elim
  ·exact fin (.inr e6) e0
  ·exact e0.elim
theorem Yi{d:DD}{f:Nat}(b:(dV d.ps->T (Dq d.rs))->dV d.ps->T (Dq d.rs))(hF:∀ x,d.F x=T.fix b x)(h:∀ F:dV d.ps->T (Dq d.rs),q8 P f ⟨d.ps,d.rs,F⟩->q8 P f ⟨d.ps,d.rs,b F⟩):q8 P f d:=by
 have hN:∀ m,q8 P f ⟨d.ps,d.rs,T.Wq b m⟩:=by
  intro m
  induction m with
  | zero=>nofun
  | succ m ih=>exact h _ ih
 intro Z x xb y vX hy hI ha
 rw[hF,T.lX]at hy
 obtain⟨m,hm⟩:=hy
 exact hN m Z x xb y vX (hm m (zJ _)) hI ha
theorem Bq{fr:Fr}:∀ {n i:Nat} {ds:List D},Bp fr n i=some ds->ds.length=n/\∀ j d,ds[j]? = some d->fr.get (i+j)=some d
 | 0,i,ds,h=>by cases h; exact⟨rfl,λj d hj=>xz⟩
 | n+1,i,ds,h=>by
  simp only[Bp]at h
  split at h
  ·rename_i d J
   split at h
   ·rename_i r hr
    obtain⟨h1,M⟩:=Bq hr
    grind
   ·cases h
  ·cases h
theorem DU{Z κe:KS}{ds:List D}{vs:List Value}(hZ:Inv Z)(hI:Inv κe)(N:Ext Z κe)(h:wN κe ds vs) :
  ∃ κ1:KS,κ1.w=κe.w/\κ1.st=(canon Z.st.length ds κe.st).2/\Inv κ1/\Ext Z κ1/\wN κ1 (canon Z.st.length ds κe.st).1 vs:=by
 have zc1:∃ κ1:KS,κ1.w=κe.w/\κ1.st=κe.st/\Inv κ1/\Ext Z κ1/\wN κ1 ds vs:=⟨κe,rfl,rfl,hI,N,h⟩
 unfold canon
 generalize Kf:z8g Z.st.length [] (SM κe.st ds)=nb
 simp only
 split
 ·rename_i l R
  split
  ·rename_i dE ds1 hr J
   cases hn:cH (zX Z.st.length++nb)with
   | false=>exact zc1
   | true =>
    obtain⟨p1,hp⟩:=Q1 hI.len.symm R
    obtain⟨g1,g2,g3,g4,g5⟩:=Da hI hn hp R hr
    have z5Y:∀ b,b<Z.st.length->(zX Z.st.length++nb)[b]? = some b:=λb I=>by
     rw[zK (by simpa using I)]; simp[I]
    have IS:∀ b x,Z.st[b]? = some x->b<Z.st.length:=λb x h=>(E.1 h).1
    refine⟨⟨κe.w,κe.ok,p1,dE⟩,rfl,rfl,g1,⟨N.os,N.tape,N.output,N.size,N.same,N.fresh,λj blk n h => ?_,λb d h => ?_,λb v0 e xs h => ?_,λb h => ?_,?_,N.frame⟩,g2.rds h J⟩
    ·have hj:j<(zX Z.st.length++nb).length:=by have:=(E.1 h).1; simp only at this; omega
     have I:=zG hj
     generalize (zX Z.st.length++nb)[j]=b at I
     have h':=(g5 j b I).1.symm.trans h
     rcases N.phs b blk n h' with h1 | h1
     ·have wM:b<Z.st.length:=Nat.lt_of_not_le λhle=>by
       have:=(E.1 h1).1
       have:=hZ.len
       omega
      have:=Option.some.inj ((oB hn I).symm.trans (oB hn (z5Y b wM)))
      subst this
      exact .inl h1
     ·exact .inr h1
    ·obtain⟨⟨d',h1⟩,M⟩:=N.var b d h
     obtain⟨k1,x,y,k2,k3,k4⟩:=g5 b b (z5Y b (IS b _ h))
     rw[h1]at k2; cases k2
     simp only[Vm]at k3
     split at k3
     ·cases k3; exact⟨⟨_,k4⟩,k1.trans M⟩
     ·cases k3
    ·obtain⟨k1,x,y,k2,k3,k4⟩:=g5 b b (z5Y b (IS b _ h))
     rcases N.arr b v0 e xs h with h1 | ⟨v1,x1,h1,M,h3⟩
     ·rw[h1]at k2; cases k2; cases k3; exact .inl k4
     ·rw[h1]at k2; cases k2; cases k3; exact .inr ⟨v1,x1,k4,M,λhe=>⟨k1.trans (h3 he).1,(h3 he).2⟩⟩
    ·obtain⟨k1,x,y,k2,k3,k4⟩:=g5 b b (z5Y b (IS b _ h))
     rw[N.dead b h]at k2; cases k2; cases k3; exact k4
    ·show Z.st.length<=dE.length
     rw[g3]; simp
  ·exact zc1
 ·exact zc1
theorem zcL{Z:KS}(hI:Inv Z)(e:Ty):RD (Z.yM e) (.ms Z.st.length 0 e 0 0) (.slice none 0 0):=by
 have H5:(Z.yM e).st[Z.st.length]? = some (.arr 0 e []):=by simp[KS.yM]
 refine .ms Z.st.length 0 e 0 0 0 none (.inr ⟨0,e,[],H5,zJ _⟩) (zJ _) (λ_=>rfl) nofun λxs Yo => ?_
 rw[H5]at Yo
 cases Yo
 exact⟨zJ _,.inl ⟨rfl,rfl,rfl,by simp[KS.yM,<- hI.len]⟩⟩
theorem UB{Z:KS}{d:D}{l:List D}{v:Value}{vs:List Value}(h:RD Z d v)(hr:wN Z l vs):wN Z (d::l) (v::vs) :=
 ⟨by simp[hr.1],λi h1 M=>by cases i with | zero=>exact h | succ i=>exact hr.2 i (by simpa using h1) (by simpa using M)⟩
theorem IK:∀ (ks:List Sk) (l:List D) (Z:KS) (vs:List Value),Inv Z->wN Z l vs->∃ κ1:KS,κ1.w=Z.w/\κ1.st=(kf ks l Z.st).2/\Inv κ1/\Ext Z κ1/\wN κ1 (kf ks l Z.st).1 vs:=by
 intro ks
 induction ks with
 | nil=>intro l Z vs hI h; exact⟨Z,rfl,by unfold kf; rfl,hI,Ext.refl Z,by unfold kf; exact h⟩
 | cons k ks ih =>
  intro l Z vs hI h
  cases l with
  | nil=>exact⟨Z,rfl,by cases k<;>rfl,hI,Ext.refl Z,by cases k<;>exact h⟩
  | cons d l =>
   obtain⟨v,r,rfl,h0,h1⟩:=h.cons_inv
   have go:∃ κ1:KS,κ1.w=Z.w/\κ1.st=(kf ks l Z.st).2/\Inv κ1/\Ext Z κ1/\wN κ1 (d::(kf ks l Z.st).1) (v::r):=by
    obtain⟨κ1,q1,q2,q3,q4,q5⟩:=ih l Z r hI h1
    exact⟨κ1,q1,q2,q3,q4,UB (h0.mono q4) q5⟩
   cases k with
   | row b e =>
    cases d with
    | wF =>
     unfold kf
     cases he:zO 0 e.size with
     | false=>exact go
     | true =>
      cases h0
      obtain⟨κ1,q1,q2,q3,q4,q5⟩:=ih l (Z.yM e) r (Vg hI (zE he)) (h1.mono (rL hI e))
      exact⟨κ1,q1,q2,q3,(rL hI e).trans q4,UB ((zcL hI e).mono q4) q5⟩
    | _=>exact go
   | _=>exact go
theorem Eo:∀ (ks:List Sk) (l:List D) (st:St),(∀ d∈l,d.one=true)->∀ d∈(kf ks l st).1,d.one=true:=by
 intro ks
 induction ks with
 | nil=>intro l st h; unfold kf; exact h
 | cons k ks ih =>
  intro l st h
  cases l with
  | nil=>cases k<;>exact h
  | cons d l =>
   have go:∀ ql,∀ x∈d::(kf ks l ql).1,x.one=true:=λql x N=>by
    rcases zH.1 N with rfl | N
    ·exact h _ zQ
    ·exact ih l ql (λy hy=>h y (zI _ hy)) x N
   cases k with
   | row b e =>
    cases d with
    | wF =>
     unfold kf
     cases zO 0 e.size with
     | false=>exact go st
     | true =>
      intro x N
      rcases zH.1 (show x∈D.ms st.length 0 e 0 0::(kf ks l (st++[.arr 0 e []])).1 from N)with rfl | N
      ·rfl
      ·exact ih l _ (λy hy=>h y (zI _ hy)) x N
    | _=>exact go st
   | _=>exact go st
theorem RE(fq:List It):∀ (ds:List D) (i:Nat) (Z:KS) (vs:List Value),Inv Z->wN Z ds vs->∃ κ1:KS,κ1.w=Z.w/\κ1.st=(tv fq i ds Z.st).2/\Inv κ1/\Ext Z κ1/\wN κ1 (tv fq i ds Z.st).1 vs:=by
 intro ds
 induction ds with
 | nil=>intro i Z vs hI h; exact⟨Z,rfl,rfl,hI,Ext.refl Z,h⟩
 | cons d ds ih =>
  intro i Z vs hI h
  obtain⟨v,r,rfl,h0,h1⟩:=h.cons_inv
  have go:∃ κ1:KS,κ1.w=Z.w/\κ1.st=(tv fq (i+1) ds Z.st).2/\Inv κ1/\Ext Z κ1/\wN κ1 (d::(tv fq (i+1) ds Z.st).1) (v::r):=by
   obtain⟨κ1,q1,q2,q3,q4,q5⟩:=ih (i+1) Z r hI h1
   exact⟨κ1,q1,q2,q3,q4,UB (h0.mono q4) q5⟩
  cases d with
  | agg l =>
   cases h0 with
   | agg _ vs0 R ho hr =>
    obtain⟨κ1,q1,q2,q3,q4,q5⟩:=IK (SR fq i) l Z vs0 hI ⟨R,hr⟩
    obtain⟨κ2,p1,p2,p3,p4,p5⟩:=ih (i+1) κ1 r q3 (h1.mono q4)
    rw[q2]at p2 p5
    exact⟨κ2,p1.trans q1,p2,p3,q4.trans p4,UB ((RD.agg _ vs0 q5.1 (Eo _ _ _ ho) q5.2).mono p4) p5⟩
  | _=>exact go
theorem z8N{Z κe:KS}{ds:List D}{vs:List Value}(out:uq)(hZ:Inv Z)(hI:Inv κe)(N:Ext Z κe)(h:wN κe ds vs) :
  ∃ κ1:KS,κ1.w=κe.w/\κ1.st=(D3 out Z.st.length ds κe.st).2/\Inv κ1/\Ext Z κ1/\wN κ1 (D3 out Z.st.length ds κe.st).1 vs:=by
 unfold D3
 cases(out.fq.all λ| .s _ (.st _)=>false | _=>true)&&(out.cs.all λ| (_,.ptr _ _)=>false | (_,.cur _ _)=>false | _=>true)with
 | true=>exact⟨κe,rfl,rfl,hI,N,h⟩
 | false =>
  obtain⟨κ1,q1,q2,q3,q4,q5⟩:=DU hZ hI N h
  obtain⟨κ2,p1,p2,p3,p4,p5⟩:=RE out.fq _ 0 κ1 vs q3 q5
  rw[q2]at p2 p5
  obtain⟨κ3,r1,r2,r3,r4,r5⟩:=DU hZ p3 (q4.trans p4) p5
  rw[p2]at r2 r5
  exact⟨κ3,r1.trans (p1.trans q1),r2,r3,r4,r5⟩
theorem G6{Z κe:KS}{a':Act}{fn:Func}{o:I6}{nr:Nat}{out:uq}{y:out.den}(hZ:Inv Z)(e1:κe.st=o.st)(e2:Inv κe)(e3:Ext Z κe)(e4:Rel κe fn.ntmps o.fr.get a')(hlen:Z.st.length<=out.bs.length)
  (h:((np (gR P xid tab ro) o.fr o.st fn.results.toList).bind λds=>WH out Z.st.length nr ds o.st).leads y) :
  ∃ v,(results fn a'.tmps).run P κe.w=.ok v κe.w/\∃ (Y:KS) (ds:List D),Y.w=κe.w/\Y.st=out.st y/\Inv Y/\Ext Z Y/\oL nr (out.fr y)=some ds/\jd Y (.ret ds) (.returned v):=by
 obtain⟨ds,g1,g2⟩:=T.zd.1 h
 unfold WH at g2
 cases hnr:V ds.length nr with
 | false=>rw[hnr]at g2; exact g2.elim
 | true =>
  rw[hnr,cond_true]at g2
  obtain⟨y',g5,g3⟩:=T.zd.1 g2
  cases hsome:oL nr (out.fr y')with
  | none=>rw[hsome]at g3; exact g3.elim
  | some Ce =>
   rw[hsome]at g3
   have hyy:y'=y:=g3
   subst hyy
   rw[<- e1]at g1 g5
   obtain⟨vs,k1,k2⟩:=UD e2 e4 g1
   obtain⟨κr,z1,z2,z3,z4,z5⟩:=z8N out hZ e2 e3 k2
   have hRr:Rel κr vs.length (yq (D3 out Z.st.length ds κe.st).1 0).get { tmps:=vs.toArray,defers:=[] }:=by
    have:=Ko (n:=vs.length) z5 (by rw[z5.1]; exact zJ _)
    simpa[show(Hp.df:List Deferred)=[]from rfl]using this
   obtain⟨κ0,w1,w2,w3,w4,w5⟩:=sI (z2F out.cs) (yq (D3 out Z.st.length ds κe.st).1 0) κr z3 hRr
   rw[z2]at w2 w5
   rw[<- w2]at g5
   obtain⟨κ2,q1,q2,q3,q4,q5,_⟩:=out.K5 (κ0:=Z) (z4.trans w4) w3 w5 hlen g5
   obtain⟨l1,l2⟩:=Bq hsome
   have hds:wN κ2 Ce vs:=by
    refine⟨by rw[l1,<- k2.1]; exact(B hnr).symm,λi h1 M => ?_⟩
    have:=l2 i Ce[i] (zG h1)
    rw[qD]at this
    obtain⟨v,r1,r2⟩:=q5.get i _ this
    grind
   exact⟨_,k1,κ2,Ce,q1.trans (w1.trans z1),q2,q3,q4,hsome,_,rfl,G7 hds⟩
theorem zbc(hm:(gR P xid tab ro).P.follows .mixedOrders=true)(hT:eo P tab){f:Nat}{fn:Func}{code:Code}(hf:P.funcs[f]? = some fn)(I:fn.body=some code)
  (hn:(fn.name == "runtime.NumGoroutine")=false) (hL:gB P fn.ntmps H code) {d:hZ} (h:∀ x,II (gR P xid tab ro) tab H fn code d x=d.F x):xw P f d:=by
 intro Z x xb y vX hy hI hlen hR0
 rw[<- h]at hy
 unfold II at hy
 cases hle:zM d.ks.length fn.ntmps&&zM d.sh.bs.length d.out.bs.length with
 | false=>rw[hle]at hy; exact hy.elim
 | true =>
  rw[hle,cond_true]at hy
  simp only[X]at hle
  have zg6:=zE hle.1
  have z0W:=zE hle.2
  refine .inl ⟨uS hf hn (by rw[I]; rfl) Z.w,calls_of_wp hf I ?_⟩
  rw[<- vX]at hy
  have hR:Rel Z fn.ntmps (d.sh.fr x).get { tmps:=xb.toArray++Array.replicate (fn.ntmps-xb.toArray.size) undef,defers:=[] }:=by
   refine⟨by simp; omega,rfl,λs e hs => ?_⟩
   obtain⟨v,h1,M⟩:=hR0.get s e hs
   grind
  refine QX hm hT code hL (Z:=Z) hy hI hR (nd _) _ λo sG a' κe e0 e1 e2 e3 e4 _ _ _ e6 => ?_
  have fin:(sG=.normal\/sG=.ret)->((np (gR P xid tab ro) o.fr o.st fn.results.toList).bind λds=>WH d.out Z.st.length d.nr ds o.st).leads y ->
    bodyPost P fn (λe w'=>∃ (Y:KS) (ds:List D),Y.w=w'/\Y.st=d.out.st y/\Inv Y/\Ext Z Y/\oL d.nr (d.out.fr y)=some ds/\jd Y (.ret ds) e) sG a' κe.w:=by
   intro hex M
   obtain⟨v,k1,k2⟩:=G6 hI e1 e2 e3 e4 (by rw[vX]; exact zV (uq.Xv _ _) z0W) M
   rcases hex with rfl | rfl
   ·exact⟨e4.defers,v,k1,k2⟩
   ·exact⟨e4.defers,v,k1,k2⟩
  cases GK:o.ex<;>rw[GK]at e0 e6<;>simp only at e0
  ·exact fin (.inl e6) e0
  ·exact e0.elim
  ·exact fin (.inr e6) e0
  ·exact e0.elim
theorem Kv{d:hZ}{f:Nat}(b:(d.sh.den->T d.out.den)->d.sh.den->T d.out.den)(hF:∀ x,d.F x=T.fix b x)(h:∀ F:d.sh.den->T d.out.den,xw P f ⟨d.ks,d.sh,d.dz,d.out,d.nr,F⟩->xw P f ⟨d.ks,d.sh,d.dz,d.out,d.nr,b F⟩):xw P f d:=by
 have hN:∀ m,xw P f ⟨d.ks,d.sh,d.dz,d.out,d.nr,T.Wq b m⟩:=by
  intro m
  induction m with
  | zero=>nofun
  | succ m ih=>exact h _ ih
 intro Z x xb y vX hy hI R ha
 rw[hF,T.lX]at hy
 obtain⟨m,hm⟩:=hy
 exact hN m Z x xb y vX (hm m (zJ _)) hI R ha
theorem zcW{Z κe:KS}{b9:uq}{z:b9.den}{st:St}{t:Nat}{d:D}{u:Value}(e1:κe.st=st)(e2:Inv κe)(e3:Ext Z κe)(hlen:Z.st.length<=b9.bs.length)(hu:RD κe d u)
  (h:((b9.un [(0,some d)] st).bind λz=>match(b9.fr z).get 0 with | some _=>T.ret z | none=>.fail).leads z) :
  ∃ (Y:KS) (p:D),Y.w=κe.w/\Y.st=b9.st z/\Inv Y/\Ext Z Y/\(b9.fr z).get 0=some p/\jd Y (.b9 (.iface t p)) (.panicked [{ v:=.iface t u,recovered:=false }]):=by
 obtain⟨z',g1,g2⟩:=T.zd.1 h
 split at g2
 ·rename_i p hp
  have hzz:z'=z:=g2
  subst hzz
  have HO:Rel κe 1 (Fr.get [(0,some d)]) { tmps := #[u],defers:=[] }:=by
   refine⟨rfl,rfl,λs d' J => ?_⟩
   simp only[Fr.get]at J
   cases I:V 0 s with
   | true =>
    have:=B I
    grind
   | false=>grind
  rw[<- e1]at g1
  obtain⟨κ2,q1,q2,q3,q4,q5,_⟩:=b9.K5 (κ0:=Z) e3 e2 HO hlen g1
  obtain⟨v',r1,r2⟩:=q5.get 0 p hp
  cases r1
  exact⟨κ2,p,q1,q2,q3,q4,hp,_,rfl,.iface t p _ r2⟩
 ·exact g2.elim
theorem zbb(hm:(gR P xid tab ro).P.follows .mixedOrders=true)(hT:eo P tab){f:Nat}{fn:Func}{code:Code}(hf:P.funcs[f]? = some fn)(I:fn.body=some code)
  (hn:(fn.name == "runtime.NumGoroutine")=false) (hL:gB P fn.ntmps H code) {d:lD} (h:∀ x,IH (gR P xid tab ro) tab H fn code d x=d.F x):jB P f d:=by
 intro Z x xb y vX hy hI hlen hR0
 rw[<- h]at hy
 unfold IH at hy
 cases hle:zM d.ks.length fn.ntmps&&zM d.sh.bs.length d.out.bs.length&&zM d.sh.bs.length d.b9.bs.length with
 | false=>rw[hle]at hy; exact hy.elim
 | true =>
  rw[hle,cond_true]at hy
  simp only[X]at hle
  have zg6:=zE hle.1.1
  have z0W:=zE hle.1.2
  have zg7:=zE hle.2
  refine .inl ⟨uS hf hn (by rw[I]; rfl) Z.w,calls_of_wp hf I ?_⟩
  rw[<- vX]at hy
  have hR:Rel Z fn.ntmps (d.sh.fr x).get { tmps:=xb.toArray++Array.replicate (fn.ntmps-xb.toArray.size) undef,defers:=[] }:=by
   refine⟨by simp; omega,rfl,λs e hs => ?_⟩
   obtain⟨v,h1,M⟩:=hR0.get s e hs
   grind
  refine QX hm hT code hL (Z:=Z) hy hI hR (nd _) _ λo sG a' κe e0 e1 e2 e3 e4 _ _ _ e6 => ?_
  have fin:(sG=.normal\/sG=.ret)->((np (gR P xid tab ro) o.fr o.st fn.results.toList).bind λds=>z8C d Z.st.length ds o.st).leads y ->
    bodyPost P fn (λe w'=>∃ Y:KS,Y.w=w'/\Inv Y/\Ext Z Y/\((∃ (y':d.out.den) (ds:List D),y=.inl y'/\Y.st=d.out.st y'/\oL d.nr (d.out.fr y')=some ds/\jd Y (.ret ds) e) \/
     (d.two=none/\∃ (z:d.b9.den) (p:D),y=.inr z/\Y.st=d.b9.st z/\(d.b9.fr z).get 0=some p/\jd Y (.b9 (.iface d.pt p)) e) \/
     ∃ (n:Nat) (z:d.b9.den) (ds:List D),d.two=some n/\y=.inr z/\Y.st=d.b9.st z/\oL n (d.b9.fr z)=some ds/\jd Y (.ret ds) e)) sG a' κe.w:=by
   intro hex M
   obtain⟨ds,g1,g2⟩:=T.zd.1 M
   have one:((WH d.out Z.st.length d.nr ds o.st).bind λy=>T.ret (qR y:d.out.den⊕d.b9.den)).leads y ->
     ∃ v,(results fn a'.tmps).run P κe.w=.ok v κe.w/\∃ Y:KS,Y.w=κe.w/\Inv Y/\Ext Z Y/\∃ (y':d.out.den) (ds:List D),y=.inl y'/\Y.st=d.out.st y'/\oL d.nr (d.out.fr y')=some ds/\jd Y (.ret ds) (.returned v):=λg=>by
    obtain⟨y',hy2,rfl⟩:=T.zd.1 g
    obtain⟨v,k1,Y,ds,q1,q2,q3,q4,q5,q6⟩:=G6 hI e1 e2 e3 e4 (by rw[vX]; exact zV (uq.Xv _ _) z0W) (T.zd.2 ⟨ds,g1,hy2⟩)
    exact⟨v,k1,Y,q1,q3,q4,y',ds,rfl,q2,q5,q6⟩
   have JK:a'.defers=[]/\∃ v,(results fn a'.tmps).run P κe.w=.ok v κe.w/\∃ Y:KS,Y.w=κe.w/\Inv Y/\Ext Z Y/\((∃ (y':d.out.den) (ds:List D),y=.inl y'/\Y.st=d.out.st y'/\oL d.nr (d.out.fr y')=some ds/\jd Y (.ret ds) (.returned v)) \/
     (d.two=none/\∃ (z:d.b9.den) (p:D),y=.inr z/\Y.st=d.b9.st z/\(d.b9.fr z).get 0=some p/\jd Y (.b9 (.iface d.pt p)) (.returned v)) \/
     ∃ (n:Nat) (z:d.b9.den) (ds:List D),d.two=some n/\y=.inr z/\Y.st=d.b9.st z/\oL n (d.b9.fr z)=some ds/\jd Y (.ret ds) (.returned v)):=by
    unfold z8C at g2
    split at g2
    ·rename_i n h0
     cases hh:z9C ds with
     | true =>
      rw[hh,cond_true]at g2
      obtain⟨z,hz,rfl⟩:=T.zd.1 g2
      obtain⟨v,k1,Y,ds,q1,q2,q3,q4,q5,q6⟩:=G6 hI e1 e2 e3 e4 (by rw[vX]; exact zV (uq.Xv _ _) zg7) (T.zd.2 ⟨ds,g1,hz⟩)
      exact⟨e4.defers,v,k1,Y,q1,q3,q4,.inr (.inr ⟨n,z,ds,h0,rfl,q2,q5,q6⟩)⟩
     | false =>
      rw[hh,cond_false]at g2
      obtain⟨v,k1,Y,q1,q2,q3,q4⟩:=one g2
      exact⟨e4.defers,v,k1,Y,q1,q2,q3,.inl q4⟩
    ·obtain⟨v,k1,Y,q1,q2,q3,q4⟩:=one g2
     exact⟨e4.defers,v,k1,Y,q1,q2,q3,.inl q4⟩
   rcases hex with rfl | rfl
   ·exact JK
   ·exact JK
  cases GK:o.ex<;>rw[GK]at e0 e6<;>simp only at e0
  ·exact fin (.inl e6) e0
  ·exact e0.elim
  ·exact fin (.inr e6) e0
  ·rename_i p
   cases p<;>simp only at e0<;>first | exact e0.elim | skip
   rename_i t v
   cases ht:V t d.pt&&d.two.isNone with
   | false=>rw[ht]at e0; exact e0.elim
   | true =>
    rw[ht,cond_true]at e0
    rw[X,Option.isNone_iff_eq_none]at ht
    have:=B ht.1
    subst this
    obtain⟨u,rfl,hv⟩:=e6
    cases hv with
    | iface _ _ u hu =>
     have:∃ z,y=.inr z/\((d.b9.un [(0,some v)] o.st).bind λz=>match(d.b9.fr z).get 0 with | some _=>T.ret z | none=>.fail).leads z:=by
      obtain⟨z,g1,g2⟩:=T.zd.1 e0
      split at g2
      ·rename_i p hp
       have g2:qM z=y:=g2
       refine⟨z,g2.symm,T.zd.2 ⟨z,g1,?_⟩⟩
       rw[hp]; rfl
      ·exact g2.elim
     obtain⟨z,rfl,hz2⟩:=this
     obtain⟨Y,p,q1,q2,q3,q4,q5,q6⟩:=zcW (t:=d.pt) e1 e2 e3 (by rw[vX]; exact zV (uq.Xv _ _) zg7) hu hz2
     exact⟨e4.defers,Y,q1,q3,q4,.inr (.inl ⟨ht.2,z,p,rfl,q2,q5,q6⟩)⟩
theorem MN{d:lD}{f:Nat}(b:(d.sh.den->T (d.out.den⊕d.b9.den))->d.sh.den->T (d.out.den⊕d.b9.den))(hF:∀ x,d.F x=T.fix b x)(h:∀ F:d.sh.den->T (d.out.den⊕d.b9.den),jB P f ⟨d.ks,d.sh,d.dz,d.out,d.nr,d.pt,d.b9,d.two,F⟩->jB P f ⟨d.ks,d.sh,d.dz,d.out,d.nr,d.pt,d.b9,d.two,b F⟩):jB P f d:=by
 have hN:∀ m,jB P f ⟨d.ks,d.sh,d.dz,d.out,d.nr,d.pt,d.b9,d.two,T.Wq b m⟩:=by
  intro m
  induction m with
  | zero=>nofun
  | succ m ih=>exact h _ ih
 intro Z x xb y vX hy hI R ha
 rw[hF,T.lX]at hy
 obtain⟨m,hm⟩:=hy
 exact hN m Z x xb y vX (hm m (zJ _)) hI R ha
end
noncomputable def V4:Nat->Code->Option Code
 | k,.block id (.loop b)=>if k=id then some b else V4 k b
 | k,.seq a b=>match V4 k a with | some x=>some x | none=>V4 k b
 | k,.cond _ a b=>match V4 k a with | some x=>some x | none=>V4 k b
 | k,.block _ a=>V4 k a
 | _,_=>none
def BV(P:Program)(n:Nat)(H:Hints):List (Nat×Code)->Prop
 | []=>True
 | p::r=>(∀ l,H.loop p.1=some l->VA P n l p.2)/\BV P n H r
theorem zf{P:Program}{n:Nat}{H:Hints}:BV P n H []:=trivial
theorem qf{P:Program}{n:Nat}{H:Hints}{id:Nat}{b:Code}{r:List (Nat×Code)}{l:q9}(R:H.loop id=some l)(h:VA P n l b)(t:BV P n H r):BV P n H ((id,b)::r) :=
 ⟨λl' L4=>(Option.some.inj (R.symm.trans L4))▸h,t⟩
theorem Ub{P:Program}{n:Nat}{H:Hints}{code:Code}{L:List (Nat×Code)}(h:u7 code=L)(ha:BV P n H L):gB P n H code:=by
 intro p hp
 rw[h]at hp
 clear h
 induction L with
 | nil=>cases hp
 | cons q r ih =>
  rcases zH.1 hp with rfl | hp
  ·exact ha.1
  ·exact ih ha.2 hp
end Go.AM
namespace Go.AM
set_option linter.unusedSectionVars false
variable [yY]
open Go.RowKit Go.ChangeShapes
def SZ:(τs:List Ty)->Yb τs->dV (τs.map .ty)
 | [],_=>()
 | [_],x=>x.1
 | _::σ::r,x=>(x.1,SZ (σ::r) x.2)
theorem Bj:∀ (τs:List Ty) (x:Yb τs),Jk (τs.map .ty) (SZ τs x)=mkD τs x
 | [],_=>rfl
 | [_],_=>rfl
 | τ::σ::r,x=>congrArg (D.qi τ x.1 :: ·) (Bj (σ::r) x.2)
section
variable {H:Type} {enc:TypeId×Value->H} {P:Program} {xid m n:Nat}
theorem zc2{f:Nat}{fn:Func}(τs:List Ty){F:dV (τs.map .ty)->T (Dq [.bool])}(hS:q8 P f ⟨τs.map .ty,[.bool],F⟩)(hf:P.funcs[f]? = some fn)(hbd:fn.body.isNone=false) (hnm:(fn.name == "runtime.NumGoroutine")=false)
  (R:laidOutB P=true) (xid m n:Nat) (hts:Uu P fn.params.toList=true) (hτ:fn.params.toList.map (BJ P xid n)=τs.map some) (N:M6 P xid m=true)
  {bt:TypeId} (hr:fn.resultTypes = #[bt]) (hbt:P.underlying bt=some .bool) {s:ChangeSpec} (hv:s.vars=[]) (hs:∀ ds:List (DataW H),ds.length=τs.length->s.fn H ds={ results:=[.lit (.bool true)],args:=ds })
  (zA:R7 H) {lim:Nat} (law:∀ x:Yb τs,wfL τs x->bkL τs x<=lim->(F (SZ τs x)).run=some true)
  {fresh handsOn:Bool} {zk:World} {base:Nat} {args:Array Value} {ds gs:List (DataW H)} {before:List MemPlace}
  (hval:∀ (j:Nat) t v,fn.params[j]? = some t->args[j]? = some v->zR P zk .any base t v)
  (hW:DataW.Whole enc P fn.params.toList s.vars false zk args.toList ds gs before) (hk:zA.bs (ds++gs)<=lim) (hG:WM zk λk=>k<zk.heap.size) :
  Calls P f args zk λe W'=>∃ v,e=.returned v/\s.post enc P fn false fresh handsOn false zk args v W':=by
 refine S3 (DD.snd hS) hf hbd hnm R xid m n τs hts hτ N hr hbt hv hs zA (λx hw I => ?_) hval hW hk hG
 have h:=T.yA.1 (law x hw I)
 rw[<- Bj τs x]
 exact T.zd.2 ⟨SZ τs x,Dg [] _ _,T.zd.2 ⟨true,h,rfl⟩⟩
end
end Go.AM