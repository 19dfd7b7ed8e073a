/-
  The abstract machine, part D: texts of our own, the same for each claim.
-/
import Derived.Test.YtjklmealdnfhfaaGreatDoorAmA
import Derived.Lib.LaidTab
import Derived.Shelf.Vars
import Derived.Test.YtjklmealdnfhfaaGreatDoorAmC
import Derived.OpenShut
import Derived.Test.YtjklmealdnfhfaaGreatDoorAmB
import Derived.Lib.LazyBuf
set_option linter.unusedVariables false
open Nat renaming eq_of_beq_eq_true -> zA, beq -> V, le_of_ble_eq_true -> zE, le_refl -> zJ, ble -> zM, blt -> zO, ble_eq -> zU, le_trans -> zV, zero_add -> qD, not_lt_zero -> qN, beq_refl -> qS
open List renaming getElem?_eq_some_iff -> Y, all_cons -> zF, getElem?_eq_getElem -> zG, mem_cons -> zH, mem_cons_of_mem -> zI, getElem?_append_left -> zK, mem_singleton -> zL, mem_append -> zN, all_eq_true -> zP, mem_cons_self -> zQ, append_nil -> zT, isEmpty_iff -> zW, range -> zX, eq_nil_of_length_eq_zero -> zY, length -> zZ, map_cons -> qI, cons_append -> qJ, length_cons -> qK
open Bool renaming and_eq_true -> X, not_eq_true' -> qF
open Go.Value renaming okWide -> zR, cells -> qH
open Go.DataW renaming TrodAll -> zS, LaidVars -> qP
open Array renaming getElem?_setIfInBounds -> qA, length_toList -> qB, getD_eq_getD_getElem? -> qC, getElem?_eq_some_iff -> qE, getElem?_toList -> qO
open Go.Cell renaming okWide -> qG
open Option renaming bind_eq_some_iff -> qL
open Sum renaming inr -> qM, inl -> qR
open Go.Lib renaming TabIs -> qQ
open Go.World renaming cell? -> qT
namespace Go.AM
def EI(k:IntKind)(zs:List Int)(o:Obj):Prop:=∃ t fr,o=.cells (zs.map λz=>Value.int k z).toArray t fr
def CB(k:IntKind)(o:Obj):Prop:=∃ m t fr,o=.cells #[.int k m] t fr
theorem z3c{P:Program}{w:World}{name:String}{k:IntKind}{zs:List Int}{g:Nat}(hg:P.globalNamed name=some g)(h:qQ P w name k zs) :
  g<w.heap.size/\∃ o,w.heap[g]? = some o/\EI k zs o:=by
 unfold qQ World.var? at h
 rw[hg]at h
 simp at h
 split at h
 ·rename_i cs t fr ho
  cases h
  exact⟨(qE.1 ho).1,_,ho,t,fr,rfl⟩
 ·cases h
theorem zd2{P:Program}{w:World}{name:String}{k:IntKind}{zs:List Int}{g:Nat}(hg:P.globalNamed name=some g)(h:∃ o,w.heap[g]? = some o/\EI k zs o):qQ P w name k zs:=by
 obtain⟨o,ho,t,fr,rfl⟩:=h
 unfold qQ World.var?
 grind
theorem RS{w:World}{k:IntKind}{g:Nat}(h:∃ o,w.heap[g]? = some o/\CB k o):∃ m,w.cell? ⟨g,0,none⟩=some (.int k m):=by
 obtain⟨o,ho,m,t,fr,rfl⟩:=h
 exact⟨m,by simp[qT,ho]⟩
theorem RT{P:Program}{w:World}{g:Nat}{t:TypeId}{zero:Array Value}{k:IntKind}
  (h:w.ShapedOpen P) (hg:g<P.globals.size)
  (h0:((begin P (λ_ _=>0) default).world.heap[g]?).bind Obj.row? = some (zero,t)) (hz:zero.size=1)
  (I:P.buildable t=true) (hc:P.cellTypes P.depth t=some [t]) (hu:P.underlying t=some (.int k)):g<w.heap.size/\∃ o,w.heap[g]? = some o/\CB k o:=by
 obtain⟨m,hm⟩:=Go.Proofs.cell_of_shapedOpen_int h hg h0 hz I hc hu
 obtain⟨cs,hh,hs,_⟩:=h.1 g zero t hg h0
 have R:cs.size=1:=hs.trans hz
 refine⟨(qE.1 hh).1,_,hh,m,t,(0,0),?_⟩
 have h1:w.cell? ⟨g,0,none⟩=some cs[0]:=by simp[qT,hh]
 have:cs = #[.int k m]:=by
  grind
 rw[this]
theorem RW{P:Program}{zk:World}{name:String}{k:IntKind}{zs:List Int}{rest:List (String×DataW Unit)}{ps:List MemPlace}{g:Nat}{t e:TypeId}{n:Nat}
  (hg:P.globalNamed name=some g) (MM:(P.globals[g]?).map (·.type)=some t) (ht:P.underlying t=some (.array n e)) (he:P.underlying e=some (.int k)) (hce:P.cellsOf e=1) (hct:P.cellsOf t=n)
  (h:qP P zk ((name,Lib.tabData k zs)::rest) ps):g<zk.heap.size/\∃ o,zk.heap[g]? = some o/\EI k zs o:=by
 obtain⟨g',t',cs,fuel,p,q,hg',ht',zgn,J,_,_⟩:=h
 refine z3c hg ?_
 obtain rfl:=Option.some.inj (hg.symm.trans hg')
 obtain rfl:=Option.some.inj (MM.symm.trans ht')
 unfold qQ
 rw[zgn,<- Lib.cells_of_tab ht he hce hct J]
theorem HQ{P:Program}{zk:World}{x:String×DataW Unit}{rest:List (String×DataW Unit)}{ps:List MemPlace}(h:qP P zk (x::rest) ps):∃ q,qP P zk rest q:=by
 obtain⟨g',t',cs,fuel,p,q,hg',ht',zgn,J,h1,_⟩:=h
 grind
end Go.AM
namespace Go.AM
open Go.RowKit
mutual
def bkE:Expr->Nat
 | .mk _ n s l=>1+((1+((zZ n.2.1+1)+((zZ n.2.2.1+1)+1)))+((zZ s+1)+((bkEs l+1)+1)))
def bkEs:List Expr->Nat
 | []=>0
 | e::r=>bkE e+bkEs r
end
def Xv{α:Type}(f:α->Nat):List α->Nat
 | []=>0
 | x::r=>f x+Xv f r
def bk:(τ:Ty)->den τ->Nat
 | .int _,_=>1
 | .bool,_=>1
 | .str,s=>zZ s+1
 | .sl e,l=>Xv (bk e) l+1
 | .nil,_=>1
 | .cons a b,x=>bk a x.1+bk b x.2
 | .expr,x=>bkE x
theorem Gp{α:Type}(l:List α):Xv (λ_=>1) l=l.length:=by induction l with | nil=>rfl | cons x r ih=>simp[Xv]; omega
theorem Mt(l:List Expr):bkEs l=Xv (bk .expr) l:=by induction l with | nil=>rfl | cons x r ih=>simp[bkEs,Xv,ih,bk]
theorem z4Z(x:Expr):bk JA x.z04=bk .expr x:=by
 cases x with | mk k n s l =>
 simp only[bk,Expr.z04,bkE,Mt,Expr.num,Expr.name,Expr.kids,Gp]
mutual
def wfE:Expr->Prop
 | .mk k n s l=>(IntKind.i64.min<=k/\k<=IntKind.i64.max)/\((True/\((∀ x∈n.2.1,IntKind.u32.min<=x/\x<=IntKind.u32.max)/\((∀ x∈n.2.2.1,IntKind.u32.min<=x/\x<=IntKind.u32.max)/\True)))/\(zZ s<=maxLen/\(wfEs l/\True)))
def wfEs:List Expr->Prop
 | []=>True
 | e::r=>wfE e/\wfEs r
end
def wf:(τ:Ty)->den τ->Prop
 | .int k,n=>k.min<=n/\n<=k.max
 | .bool,_=>True
 | .str,s=>zZ s<=maxLen
 | .sl e,l=>∀ x∈l,wf e x
 | .nil,_=>True
 | .cons a b,x=>wf a x.1/\wf b x.2
 | .expr,x=>wfE x
theorem Px(l:List Expr):wfEs l↔∀ x∈l,wf .expr x:=by induction l with | nil=>simp[wfEs] | cons x r ih=>simp[wfEs,ih,wf]
theorem z8U(x:Expr):wf JA x.z04↔wf .expr x:=by
 cases x with | mk k n s l=>simp only[wf,Expr.z04,wfE,Px,Expr.kind,Expr.num,Expr.name,Expr.kids]
structure R1(H:Type) where
 b:DataW H->Nat
 bs:List (DataW H)->Nat
 str:∀ s,b (.lit (.string s))=s.length+1
 bool:∀ x,b (.lit (.bool x))=1
 int:∀ k n,b (.lit (.int k n))=1
 nil:b .nil=1
 slice:∀ x y,b (.slice x y)=bs x+bs y+1
 agg:∀ x,b (.agg x)=bs x+1
 zero:bs []=0
 cons:∀ x r,bs (x::r)=b x+bs r
section
variable (P:Program) (xid:Nat)
def JR:Nat->List Field->Bool
 | _,[]=>true
 | o,f::r=>V f.offset o&&JR (o+P.cellsOf f.type) r
def Jz:Nat->List Field->Nat
 | o,[]=>o
 | o,f::r=>Jz (o+P.cellsOf f.type) r
def BF:Nat->Nat->Option Ty
 | 0,_=>none
 | n+1,t=>bif V t xid then some .expr else
  match P.underlying t with
  | some (.int k)=>some (.int k)
  | some .bool=>some .bool
  | some .string=>some .str
  | some (.slice e)=>match BF n e with | some a=>bif V (P.cellsOf e) a.size&&zO 0 a.size then some (.sl a)else none | none=>none
  | some (.struct fs)=>bif JR P 0 fs.toList&&V (Jz P 0 fs.toList) (P.cellsOf t)then o7 (fs.toList.map λf=>BF n f.type)else none
  | _=>none
def LY(m:Nat):Bool:=match P.underlying xid with
 | some (.struct fs)=>JR P 0 fs.toList&&V (Jz P 0 fs.toList) (P.cellsOf xid)&&decide (o7 (fs.toList.map λf=>BF P xid m f.type)=some JA)
 | some _=>false
 | none=>true
end
section
variable {H:Type} {enc:TypeId×Value->H} {P:Program} {w:World} {xid m:Nat} (hI:R1 H)
def KP(w:World)(hI:R1 H)(τ:Ty)(cs:List Value)(k:Nat):Prop:=∃ x:den τ,Rc w (λk=>k<w.heap.size) τ x cs/\wf τ x/\bk τ x<=k
theorem JU{fuel:Nat}{cs:List Value}(ih:∀ n t τ cs d ps,BF P xid n t=some τ->DataW.trod enc P w 0 (λ_=>true) true fuel t cs=some (d,ps)->KP w hI τ cs (hI.b d)){n:Nat} :
  ∀ (fs:List Field) (o:Nat) (τ:Ty) (xs:List (DataW H×List MemPlace)),o7 (fs.map λf=>BF P xid n f.type)=some τ->JR P o fs=true->Jz P o fs=cs.length->xs.length=fs.length ->
   (∀ (i:Nat) (f:Field),fs[i]? = some f->DataW.trod enc P w 0 (λ_=>true) true fuel f.type ((cs.drop f.offset).take (P.cellsOf f.type))=xs[i]?)->KP w hI τ (cs.drop o) (hI.bs (xs.map (·.1))+1)
 | [],o,τ,xs,ht,_,he,R,_=>by
  cases ht
  simp only[Jz]at he
  obtain rfl:xs=[]:=zY R
  refine⟨(),?_,trivial,by simp[bk]⟩
  rw[he,List.drop_length]; exact .nil
 | f::r,o,τ,xs,ht,ho,he,R,N=>by
  cases xs with
  | nil=>simp at R
  | cons x xs =>
  simp only[JR,X]at ho
  have ho1:f.offset=o:=zA ho.1
  simp only[qI]at ht
  cases h1:BF P xid n f.type with
  | none=>rw[h1]at ht; cases ht
  | some a =>
   rw[h1]at ht
   simp only[o7]at ht
   cases M:o7 (r.map λf=>BF P xid n f.type)with
   | none=>grind
   | some b =>
    rw[M]at ht
    cases ht
    obtain⟨x1,p1,p2,p3⟩:=ih n f.type a _ x.1 x.2 h1 (by have:=N 0 f rfl; simpa using this)
    obtain⟨x2,q1,q2,q3⟩:=JU ih r (o+P.cellsOf f.type) b xs M ho.2 he (by simpa using R) (λi g hg=>by have:=N (i+1) g (by simpa using hg); simpa using this)
    refine⟨(x1,x2),?_,⟨p2,q2⟩,?_⟩
    ·have e:cs.drop o=(cs.drop o).take (P.cellsOf f.type)++cs.drop (o+P.cellsOf f.type):=by
      conv=>lhs; rw[<- List.take_append_drop (P.cellsOf f.type) (cs.drop o)]
      simp
     rw[e]
     rw[ho1]at p1
     exact .cons _ _ _ _ _ _ p1 q1
    ·simp only[bk,qI,hI.cons]; omega
theorem Bi{e:Ty}(k:Nat):∀ (n:Nat) (elems:List (DataW H×List MemPlace)) (g:Nat->List Value),elems.length=n->(∀ i,i<n->∃ d,elems[i]? = some d/\KP w hI e (g i) (hI.b d.1)) ->
  ∃ l:List (den e),l.length=n/\(∀ i (hi:i<l.length),Rc w (λk=>k<w.heap.size) e l[i] (g i))/\(∀ x∈l,wf e x)/\Xv (bk e) l<=hI.bs (elems.map (·.1))
 | 0,elems,g,R,_=>by
  exact⟨[],rfl,λi hi=>absurd hi (qN i),qz,by simp[Xv]⟩
 | n+1,elems,g,R,h=>by
  cases elems with
  | nil=>simp at R
  | cons y ys =>
   obtain⟨d,h1,x,M,h3,h4⟩:=h 0 (Z)
   simp at h1
   subst h1
   obtain⟨l,l1,l2,l3,l4⟩:=Bi k n ys (λi=>g (i+1)) (xy) λi hi=>by
    obtain⟨d,h1,M⟩:=h (i+1) (Z)
    exact⟨d,xy,M⟩
   refine⟨x::l,xy,λi hi => ?_,λz hz => ?_,?_⟩
   ·grind
   ·grind
   ·simp only[Xv,qI,hI.cons]; omega
theorem Sy(N:LY P xid m=true):∀ (fuel n t:Nat) (τ:Ty) (cs:List Value) (d:DataW H) (ps:List MemPlace),BF P xid n t=some τ->DataW.trod enc P w 0 (λ_=>true) true fuel t cs=some (d,ps)->KP w hI τ cs (hI.b d):=by
 intro fuel
 induction fuel with
 | zero=>nofun
 | succ fuel ih =>
  intro n t τ cs d ps ht h
  have struct:∀ (fs:Array Field) (k:Nat) (σ:Ty),P.underlying t=some (.struct fs)->(JR P 0 fs.toList&&V (Jz P 0 fs.toList) (P.cellsOf t))=true->o7 (fs.toList.map λf=>BF P xid k f.type)=some σ->KP w hI σ cs (hI.b d):=by
   intro fs k σ hu ho hc
   simp only[X]at ho
   obtain⟨xs,n',hn,J,R,hlx,Yl⟩:=DataW.trod_struct hu h
   cases hn
   cases J
   have:=JU hI (cs:=cs) (ih:=ih) fs.toList 0 σ xs hc ho.1 (by rw[zA ho.2,R]) (by simpa using hlx) (λi f hf=>Yl i f (by simpa using hf))
   rw[hI.agg]
   grind
  cases n with
  | zero=>cases ht
  | succ n =>
   unfold BF at ht
   cases I:V t xid with
   | true =>
    rw[I,cond_true]at ht
    cases ht
    have:=zA I
    subst this
    unfold LY at N
    split at N
    ·rename_i fs hu
     simp only[X,decide_eq_true_eq]at N
     obtain⟨x,h1,M,h3⟩:=struct fs m JA hu (by simp[N.1.1,N.1.2]) N.2
     refine⟨Expr.Lj x,.expr _ _ _ _ _ h1,?_,?_⟩
     ·exact(z8U (Expr.Lj x)).1 M
     ·rw[<- z4Z (Expr.Lj x)]; exact h3
    ·cases N
    ·rename_i hu
     rw[DataW.trod_step]at h
     simp[DataW.trodStep,hu]at h
   | false =>
    rw[I,cond_false]at ht
    split at ht
    ·rename_i k hu
     cases ht
     obtain⟨n',rfl,M,h3⟩:=DataW.trod_int hu h
     cases M
     simp only[Lit.wf,X,decide_eq_true_eq]at h3
     exact⟨n',.int k n',h3,by simp[bk,hI.int]⟩
    ·rename_i hu
     cases ht
     obtain⟨b,rfl,M⟩:=DataW.trod_bool hu h
     cases M
     exact⟨b,.bool b,trivial,by simp[bk,hI.bool]⟩
    ·rename_i hu
     cases ht
     obtain⟨s,rfl,M,h3⟩:=DataW.trod_string hu h
     cases M
     refine⟨s.data.toList,?_,?_,?_⟩
     ·have:s=⟨s.data.toList.toArray⟩:=by cases s; simp
      exact .str _
     ·simp only[wf,qB]; exact h3
     ·simp[bk,hI.str]
    ·rename_i e hu
     split at ht
     ·rename_i a ha
      cases hc:V (P.cellsOf e) a.size&&zO 0 a.size with
      | false=>grind
      | true =>
       rw[hc,cond_true]at ht
       cases ht
       simp only[X]at hc
       have bH:P.cellsOf e=a.size:=zA hc.1
       have Wp:0<a.size:=zE hc.2
       rcases DataW.trod_slice hu h with⟨rfl,M⟩ | ⟨p,len,cap,elems,rest,n',hn,rfl,J,_,jf,_,hlen,hel,hre,_⟩
       ·cases M
        exact⟨[],.lv a none,by simp[wf],by simp[bk,Xv,hI.nil]⟩
       ·cases hn
        cases J
        by_cases h0:cap=0
        ·subst h0
         have:len=0:=Z
         subst this
         exact⟨[],.lv a (some p),by simp[wf],by simp[bk,Xv,hI.slice]⟩
        ·rw[bH]at hel hre
         have zbE:p.block<w.heap.size/\p.spot=none:=by
          have first:∃ x,(w.cells? 0 p a.size)=some x:=by
           by_cases R:len=0
           ·have:=(hre rfl).2 0 (Z)
            cases hcc:w.cells? 0 p a.size with
            | some x=>simp
            | none =>
             have e0:p.add ((0+0)*a.size)=p:=by simp[Addr.add]
             grind
           ·have:=hel 0 (Z)
            cases hcc:w.cells? 0 p a.size with
            | some x=>simp
            | none =>
             have e0:p.add (0*a.size)=p:=by simp[Addr.add]
             grind
          obtain⟨x,N⟩:=first
          refine⟨World.cells?_block N Wp,?_⟩
          have M:=(World.cells?_some N).2
          have h3:=M.2 0 Wp
          have e0:p.add 0=p:=rfl
          cases hs:p.spot with
          | none=>rfl
          | some q =>
           unfold qT at h3
           grind
         obtain⟨blk,off,sp⟩:=p
         obtain⟨z0F,Wq⟩:=zbE
         subst Wq
         have hg:∀ i,∃ c:List Value,i<len->∃ d,elems[i]? = some d/\KP w hI a c (hI.b d.1)/\w.cells? 0 ⟨blk,off+i*a.size,none⟩ a.size=some c:=by
          intro i
          by_cases hi:i<len
          ·have:=hel i hi
           rw[addr_add]at this
           cases hcc:w.cells? 0 ⟨blk,off+i*a.size,none⟩ a.size with
           | none =>
            grind
           | some c =>
            refine⟨c,λ_=>⟨elems[i]'(Z),qz,?_,rfl⟩⟩
            grind
          ·exact⟨[],λh=>absurd h hi⟩
         let g:Nat->List Value:=λi=>Classical.choose (hg i)
         have hg':∀ i,i<len->∃ d,elems[i]? = some d/\KP w hI a (g i) (hI.b d.1)/\w.cells? 0 ⟨blk,off+i*a.size,none⟩ a.size=some (g i):=λi hi=>Classical.choose_spec (hg i) hi
         obtain⟨l,l1,l2,l3,l4⟩:=Bi hI (w:=w) (e:=a) 0 len elems g hlen λi hi=>by
          grind
         refine⟨l,?_,l3,?_⟩
         ·have:=Rc.sl (w:=w) (ok:=λk=>k<w.heap.size) a l blk off cap g z0F (Z) l2 λi hi j v hj=>by
           obtain⟨d,_,_,h3⟩:=hg' i (Z)
           obtain⟨_,k2,k3⟩:=World.cells?_some h3
           have T4:j<(g i).length:=(Y.1 hj).1
           have:=k3 j (Z)
           rw[addr_add,hj]at this
           exact this
          grind
         ·simp only[bk,hI.slice]; omega
     ·cases ht
    ·rename_i fs hu
     cases hc:JR P 0 fs.toList&&V (Jz P 0 fs.toList) (P.cellsOf t)with
     | false=>grind
     | true =>
      rw[hc,cond_true]at ht
      exact struct fs n τ hu hc ht
    ·cases ht
end
end Go.AM
namespace Go.AM
set_option linter.unusedSectionVars false
variable [yV]
open Go.RowKit Go.ChangeShapes
def Y8:List Ty->Type
 | []=>Unit
 | τ::r=>den τ×Y8 r
def mkD:(τs:List Ty)->Y8 τs->List D
 | [],_=>[]
 | τ::r,x=>.qi τ x.1::mkD r x.2
def wfL:(τs:List Ty)->Y8 τs->Prop
 | [],_=>True
 | τ::r,x=>wf τ x.1/\wfL r x.2
def bkL:(τs:List Ty)->Y8 τs->Nat
 | [],_=>0
 | τ::r,x=>bk τ x.1+bkL r x.2
def Ur(P:Program)(ts:List Nat):Bool:=ts.all λt=>P.readableRec t&&decide (t<P.types.size)
section
variable {H:Type} {enc:TypeId×Value->H} {P:Program} {xid m n:Nat} {w:World}
theorem zaN{t:Nat}{τ:Ty}{v:Value}{base:Nat}(ht:BF P xid n t=some τ)(N:LY P xid m=true)(h:zR P w .any base t v):pk τ v.cells.toList=v:=by
 cases n with
 | zero=>cases ht
 | succ n =>
  have agg:∀ fs:Array Field,P.underlying t=some (.struct fs)->τ.isAgg=true->pk τ v.cells.toList=v:=by
   intro fs hu ha
   unfold zR at h
   rw[hu]at h
   obtain⟨cs,rfl,_⟩:=h
   simp[pk,ha,qH]
  unfold BF at ht
  cases I:V t xid with
  | true =>
   rw[I,cond_true]at ht
   cases ht
   have:=zA I
   subst this
   unfold LY at N
   split at N
   ·rename_i fs hu; exact agg fs hu rfl
   ·cases N
   ·rename_i hu
    unfold zR at h
    rw[hu]at h
    simp[qG,Cell.ok,hu]at h
  | false =>
   rw[I,cond_false]at ht
   split at ht
   ·rename_i k hu
    cases ht
    unfold zR at h
    rw[hu]at h
    simp only[qG,hu,Cell.ok]at h
    split at h<;>simp_all [pk,Ty.isAgg,qH]
   ·rename_i hu
    cases ht
    unfold zR at h
    rw[hu]at h
    simp only[qG,hu,Cell.ok]at h
    split at h<;>simp_all [pk,Ty.isAgg,qH]
   ·rename_i hu
    cases ht
    unfold zR at h
    rw[hu]at h
    simp only[qG,hu,Cell.ok]at h
    split at h<;>simp_all [pk,Ty.isAgg,qH]
   ·rename_i e hu
    have h1:τ.isAgg=false:=by
     split at ht
     ·rename_i a ha
      cases hc:V (P.cellsOf e) a.size&&zO 0 a.size with
      | false=>grind
      | true=>rw[hc,cond_true]at ht; cases ht; rfl
     ·cases ht
    unfold zR at h
    rw[hu]at h
    simp only[qG,hu,Cell.ok]at h
    split at h<;>simp_all [pk,qH]
   ·rename_i fs hu
    refine agg fs hu ?_
    cases hc:JR P 0 fs.toList&&V (Jz P 0 fs.toList) (P.cellsOf t)with
    | false=>grind
    | true =>
     rw[hc,cond_true]at ht
     have key:∀ (l:List (Option Ty)),o7 l=some τ->τ.isAgg=true:=by
      intro l R
      cases l with
      | nil=>cases R; rfl
      | cons a r =>
       cases a with
       | none=>cases R
       | some a =>
        simp only[o7]at R
        cases M:o7 r with
        | none=>grind
        | some b=>rw[M]at R; cases R; rfl
     grind
   ·cases ht
theorem Fe(hI:R1 H)(N:LY P xid m=true){base:Nat}:∀ (ts:List TypeId) (τs:List Ty) (vs:List Value) (ds:List (DataW H)) (ps:List MemPlace),ts.map (BF P xid n)=τs.map some ->
  zS enc P w 0 (λ_=>true) true ts vs ds ps->(∀ (j:Nat) t v,ts[j]? = some t->vs[j]? = some v->zR P w .any base t v) ->
  ∃ x:Y8 τs,wN ⟨w,λk=>k<w.heap.size,[],[]⟩ (mkD τs x) vs/\wfL τs x/\bkL τs x<=hI.bs ds/\ds.length=τs.length
 | [],τs,vs,ds,ps,ht,h,_=>by
  cases τs with
  | cons=>cases ht
  | nil =>
   cases vs<;>cases ds<;>simp only[zS]at h
   exact⟨(),⟨rfl,λi h1=>absurd h1 (qN i)⟩,trivial,Nat.zero_le _,rfl⟩
 | t::ts,τs,vs,ds,ps,ht,h,hv=>by
  cases τs with
  | nil=>cases ht
  | cons τ τs =>
   simp at ht
   cases vs with
   | nil=>simp[zS]at h
   | cons v vs =>
    cases ds with
    | nil=>simp[zS]at h
    | cons d ds =>
     obtain⟨p,q,⟨fuel,h1⟩,M,_⟩:=h
     obtain⟨x,k1,k2,k3⟩:=Sy hI N fuel n t τ _ d p ht.1 h1
     obtain⟨y,g1,g2,g3,g4⟩:=Fe hI N ts τs vs ds q ht.2 M λj t v a b=>hv (j+1) t v (xy) (xy)
     refine⟨(x,y),⟨by simp only[mkD,qK]; rw[g1.1],λi h1 M => ?_⟩,⟨k2,g2⟩,?_,xy⟩
     ·cases i with
      | zero =>
       have:=RD.qi (O:=⟨w,λk=>k<w.heap.size,[],[]⟩) τ x _ k1
       rw[zaN ht.1 N (hv 0 t v rfl rfl)]at this
       exact this
      | succ i=>exact g1.2 i (by simpa[mkD]using h1) (xy)
     ·simp only[bkL,hI.cons]; omega
theorem Hr(R:laidOutB P=true){zk W':World}(I:Below zk.heap.size zk W'):∀ (ts:List TypeId) (vs:List Value) (ds:List (DataW H)) (ps:List MemPlace),Ur P ts=true ->
  zS enc P zk 0 (λ_=>true) true ts vs ds ps->(∀ x∈ps,x.block<zk.heap.size)->zS enc P W' 0 (λb=>decide (b<zk.heap.size)) true ts vs ds ps
 | [],vs,ds,ps,_,h,_=>by cases vs<;>cases ds<;>simp_all [zS]
 | t::ts,vs,ds,ps,ht,h,wL=>by
  cases vs with
  | nil=>simp[zS]at h
  | cons v vs =>
   cases ds with
   | nil=>simp[zS]at h
   | cons d ds =>
    obtain⟨p,q,h1,M,rfl⟩:=h
    simp only[Ur,zF,X,decide_eq_true_eq]at ht
    exact⟨p,q,Below.trod R ht.1.1 ht.1.2 h1 I λx N=>wL x (xy),Hr R I ts vs ds q (by simpa[Ur]using ht.2) M λx N=>wL x (xy),rfl⟩
end
theorem RX{H:Type}{enc:TypeId×Value->H}{P:Program}{f:Nat}{fn:Func}{S:List D->St->T (GF×St)}(hS:Dj P f S)(hf:P.funcs[f]? = some fn)(hbd:fn.body.isNone=false) (hnm:(fn.name == "runtime.NumGoroutine")=false)
  (R:laidOutB P=true) (xid m n:Nat) (τs:List Ty) (hts:Ur P fn.params.toList=true) (hτ:fn.params.toList.map (BF P xid n)=τs.map some) (N:LY P xid m=true)
  {bt:TypeId} (hr:fn.resultTypes = #[bt]) (hbt:P.underlying bt=some .bool) {s:ChangeSpec} (hv:s.vars=[]) (hs:∀ ds:List (DataW H),ds.length=τs.length->s.fn H ds={ results:=[.lit (.bool true)],args:=ds })
  (hI:R1 H) {lim:Nat} (law:∀ x:Y8 τs,wfL τs x->bkL τs x<=lim->(S (mkD τs x) []).leads (.ret [.qi .bool true],[]))
  {fresh handsOn:Bool} {zk:World} {base:Nat} {args:Array Value} {ds gs:List (DataW H)} {before:List MemPlace}
  (hval:∀ (j:Nat) t v,fn.params[j]? = some t->args[j]? = some v->zR P zk .any base t v)
  (hW:DataW.Whole enc P fn.params.toList s.vars false zk args.toList ds gs before) (hk:hI.bs (ds++gs)<=lim) (hG:WJ zk λk=>k<zk.heap.size) :
  Calls P f args zk λe W'=>∃ v,e=.returned v/\s.post enc P fn false fresh handsOn false zk args v W':=by
 have hW':=hW
 obtain⟨p,q,hA,hV,rfl,hfz,hnd⟩:=hW
 rw[hv]at hV
 obtain⟨rfl,rfl⟩:=trodVars_none hV
 simp only[zT]at hk hW'
 obtain⟨x,h1,M,h3,h4⟩:=Fe (n:=n) hI N fn.params.toList τs args.toList ds p hτ hA λj t v a b=>hval j t v (xy) (xy)
 have B:Inv ⟨zk,λk=>k<zk.heap.size,[],[]⟩ :=
  ⟨rfl,λk hk=>hk,λb blk n h=>xy,λb b' blk n n' h=>by simp at h,λb x h=>by simp at h,hG⟩
 have z9p:=hS ⟨zk,λk=>k<zk.heap.size,[],[]⟩ (mkD τs x) args.toList _ _ (law x M (zV h3 hk)) B h1
 rw[Array.toArray_toList]at z9p
 have key:Calls P f args zk λe w'=>∃ E:KS,E.w=w'/\E.st=[]/\Inv E/\Ext ⟨zk,λk=>k<zk.heap.size,[],[]⟩ E/\jc E (.ret [.qi .bool true]) e:=by
  rcases z9p with⟨_,h⟩ | ⟨v,w',h,_⟩
  ·exact h
  ·have:=uR (args:=args) hf hnm hbd zk
   grind
 refine key.mono λe W' ⟨E,e1,_,_,e4,v,e5,e6⟩ => ?_
 subst e1
 have I:Below zk.heap.size zk E.w:=⟨e4.os,e4.tape,e4.output,e4.size,λk hk=>e4.frame k hk λb n h=>by simp at h⟩
 have hv':v=.bool true:=by
  obtain⟨cs,g1,g2⟩:=RD.cK (show RD E (.qi .bool true) v from e6)
  rw[g1.cd]at g2
  exact g2
 subst hv'
 have wL:∀ x∈p,x.block<zk.heap.size:=λx N=>by simpa using hW'.lt x N
 refine⟨_,e5,ds,[],p,[],p,[],hW',?_,?_,?_,I.frame _,λh=>by cases h⟩
 ·rw[zT,hs ds h4,hr]
  exact trodAll_cons_mk (shut_bool hbt _) trodAll_mk0
 ·rw[zT,hs ds h4]
  exact Hr R I _ _ _ _ hts hA wL
 ·rw[zT,hs ds h4,hv]
  rfl
end Go.AM
namespace Go.AM
def Dl:List Ty->Type
 | []=>Unit
 | [τ]=>den τ
 | τ::σ::r=>den τ×Dl (σ::r)
def UQ.ty:UQ->Ty | .rp τ=>τ | .im τ=>τ
def fI:List UQ->Type
 | []=>Unit
 | [p]=>den p.ty
 | p::q::r=>den p.ty×fI (q::r)
def Be:(p:UQ)->den p.ty->D
 | .rp τ,x=>.vz τ x
 | .im τ,x=>.qi τ x
def ZP:(l:List UQ)->fI l->List D
 | [],_=>[]
 | [p],x=>[Be p x]
 | p::q::r,x=>Be p x.1::ZP (q::r) x.2
def E2:(l:List UQ)->fI l
 | []=>()
 | [p]=>zb p.ty
 | p::q::r=>(zb p.ty,E2 (q::r))
inductive Sk where
 | im (τ:Ty) | row (b:Nat) (e:Ty) | op (b T:Nat) | un | nl
def lM:List Sk->Type
 | []=>Unit
 | .im τ::r=>den τ×lM r
 | .row _ _::r=>lM r
 | .op _ _::r=>lM r
 | .un::r=>lM r
 | .nl::r=>lM r
def XI:(l:List Sk)->lM l
 | []=>()
 | .im τ::r=>(zb τ,XI r)
 | .row _ _::r=>XI r
 | .op _ _::r=>XI r
 | .un::r=>XI r
 | .nl::r=>XI r
inductive Mc where
 | im (τ:Ty) | rp (τ:Ty) | pt (b:Nat)
def Zo:List Mc->Type
 | []=>Unit
 | .im τ::r=>den τ×Zo r
 | .rp τ::r=>den τ×Zo r
 | .pt _::r=>Zo r
def Ko:(l:List Mc)->Zo l
 | []=>()
 | .im τ::r=>(zb τ,Ko r)
 | .rp τ::r=>(zb τ,Ko r)
 | .pt _::r=>Ko r
def Wv:(l:List Mc)->Zo l->List D
 | [],_=>[]
 | .im τ::r,x=>.qi τ x.1::Wv r x.2
 | .rp τ::r,x=>.vz τ x.1::Wv r x.2
 | .pt b::r,x=>.ptr b 0::Wv r x
inductive Dk where
 | qi (τ:Ty) | vz (τ:Ty) | sub (b:Nat) (e:Ty) | wg (f:Nat) (caps:List UQ) | st (ks:List Sk) | mclo (f:Nat) (ms:List Mc) | mp | sj (e:Ty) | tight (e:Ty)
inductive Ck where
 | ptr (b off:Nat) | cur (b:Nat) (e:Ty) | wE | gS | v8 | wg (f:Nat) (l:List (Nat×Nat)) | yJ (b:Nat) | uS
inductive Bk where
 | var (k:Dk) | cvar (k:Ck) | arr (e:Ty) | dead
def Dk.den:Dk->Type
 | .qi τ=>AM.den τ
 | .vz τ=>AM.den τ
 | .sub _ _=>Nat×Nat
 | .wg _ caps=>fI caps
 | .st ks=>lM ks
 | .mclo _ ms=>Zo ms
 | .mp=>List Int
 | .sj e=>List (AM.den e)×Bool
 | .tight e=>List (AM.den e)
def Dk.zb:(k:Dk)->k.den
 | .qi τ=>AM.zb τ
 | .vz τ=>AM.zb τ
 | .sub _ _=>(0,0)
 | .wg _ caps=>E2 caps
 | .st ks=>XI ks
 | .mclo _ ms=>Ko ms
 | .mp=>[]
 | .sj _=>([],false)
 | .tight _=>[]
inductive It where
 | s (t:Nat) (k:Dk) | v (k:Dk) | a (e:Ty)
def It.den:It->Type
 | .s _ k=>k.den
 | .v k=>k.den
 | .a e=>List (AM.den e)
def It.zb:(i:It)->i.den
 | .s _ k=>k.zb
 | .v k=>k.zb
 | .a _=>[]
def jP:List It->Type
 | []=>Unit
 | [i]=>i.den
 | i::j::r=>i.den×jP (j::r)
def zkV:cG->Nat
 | .arr v _ _=>v
 | _=>0
def jv(st:St)(b:Nat):Nat:=match st[b]? with | some x=>zkV x | none=>0
def je(st:St):(l:List Sk)->lM l->List D
 | [],_=>[]
 | .im τ::r,x=>AM.flat τ x.1++je st r x.2
 | .row b e::r,x=>.ms b (jv st b) e 0 (jv st b)::je st r x
 | .op b T::r,x=>.dZ b T::je st r x
 | .un::r,x=>.WG::je st r x
 | .nl::r,x=>.wE::je st r x
def Qw(st:St):(k:Dk)->k.den->D
 | .qi τ,x=>.qi τ x
 | .vz τ,x=>.vz τ x
 | .sub b e,x=>.ms b (jv st b) e x.1 x.2
 | .wg f caps,x=>.wg f (ZP caps x)
 | .st ks,x=>.agg (je st ks x)
 | .mclo f ms,x=>.wg f (Wv ms x)
 | .mp,x=>.Bh x
 | .sj e,x=>.sj e x.1 x.2
 | .tight e,x=>.tight e x false
def F2(st:St):Ck->D
 | .ptr b off=>.ptr b off
 | .cur b e=>.ms b (jv st b) e 0 (jv st b)
 | .wE=>.wE
 | .gS=>.gS
 | .v8=>.v8
 | .wg f l=>.wg f (l.map λp=>.ptr p.1 p.2)
 | .yJ b=>.yJ b
 | .uS=>.uS
def nc(st:St):(l:List It)->jP l->Fr
 | [],_=>[]
 | [.s t k],x=>[(t,some (Qw st k x))]
 | [.v _],_=>[]
 | [.a _],_=>[]
 | .s t k::j::r,x=>(t,some (Qw st k x.1))::nc st (j::r) x.2
 | .v _::j::r,x=>nc st (j::r) x.2
 | .a _::j::r,x=>nc st (j::r) x.2
def z83(st:St)(l:List (Nat×Ck)):Fr:=l.map λp=>(p.1,some (F2 st p.2))
inductive Bd where
 | v (k:Dk) (x:k.den) | a (e:Ty) (x:List (AM.den e))
def tY:(l:List It)->jP l->List Bd
 | [],_=>[]
 | [.s _ _],_=>[]
 | [.v k],x=>[.v k x]
 | [.a e],x=>[.a e x]
 | .s _ _::j::r,x=>tY (j::r) x.2
 | .v k::j::r,x=>.v k x.1::tY (j::r) x.2
 | .a e::j::r,x=>.a e x.1::tY (j::r) x.2
def fj:List Bk->List Bd->St
 | [],_=>[]
 | .arr _::r,.a e x::d=>.arr x.length e x::fj r d
 | .var _::r,_::d=>.dead::fj r d
 | .cvar _::r,d=>.dead::fj r d
 | .dead::r,d=>.dead::fj r d
 | _::_,_=>[]
def jB(st:St):List Bk->List Bd->St
 | [],_=>[]
 | .arr _::r,.a e x::d=>.arr x.length e x::jB st r d
 | .var _::r,.v k x::d=>.var (Qw st k x)::jB st r d
 | .cvar c::r,d=>.var (F2 st c)::jB st r d
 | .dead::r,d=>.dead::jB st r d
 | _::_,_=>[]
def znH(bs:List Bk)(d:List Bd):St:=jB (fj bs d) bs d
structure um where
 ff:List It
 cs:List (Nat×Ck)
 bs:List Bk
def um.den(s:um):Type:=jP s.ff
def um.st(s:um)(x:s.den):St:=znH s.bs (tY s.ff x)
def um.fr(s:um)(x:s.den):Fr:=nc (s.st x) s.ff x++z83 (s.st x) s.cs
def Pr:(p:UQ)->D->Option (den p.ty)
 | .rp τ,d=>match d with | .vz _ x=>jN x | _=>none
 | .im τ,d=>oo τ d
def LU:(l:List UQ)->List D->Option (fI l)
 | [],[]=>some ()
 | [p],[d]=>Pr p d
 | p::q::r,d::ds=>(Pr p d).bind λx=>(LU (q::r) ds).bind λy=>some (x,y)
 | _,_=>none
def lq(st:St)(b:Nat):Nat:=match st[b]? with | some (.arr _ _ xs)=>xs.length | _=>0
def z2B(st:St)(b T:Nat)(ds:List D):Option (List D):=match st[b]? with
 | some (.var _)=>match ds with
  | .mM T'::ds=>bif V T T' then some ds else none
  | .dZ b' T'::ds=>bif V b b'&&V T T' then some ds else none
  | _=>none
 | _=>none
def zd8(ds:List D):Option (List D):=match ds with
 | d::ds=>bif d.one then some ds else none
 | _=>none
def zcC(ds:List D):Option (List D):=match ds with
 | .wE::ds=>some ds
 | _=>none
def oe(st:St):(l:List Sk)->List D->T (lM l)
 | [],ds=>match ds with | []=>.ret () | _=>.fail
 | .im τ::r,ds=>match cF τ ds with | some p=>(oe st r p.2).bind λy=>.ret (p.1,y) | none=>.fail
 | .row b e::r,ds=>match ds with
  | .ms b' vi e' off len::ds=>bif V b b'&&decide (e=e')then .W (zu vi off len (lq st b)) (oe st r ds)else .fail
  | _=>.fail
 | .op b T::r,ds=>match z2B st b T ds with | some q=>oe st r q | none=>.fail
 | .un::r,ds=>match zd8 ds with | some q=>oe st r q | none=>.fail
 | .nl::r,ds=>match zcC ds with | some q=>oe st r q | none=>.fail
def K1:(l:List Mc)->List D->T (Zo l)
 | [],ds=>match ds with | []=>.ret () | _=>.fail
 | .im τ::r,ds=>match ds with
  | d::ds=>match oo τ d with | some y=>(K1 r ds).bind λz=>.ret (y,z) | none=>.fail
  | _=>.fail
 | .rp τ::r,ds=>match ds with
  | .vz _ x::ds=>match(jN x:Option (AM.den τ))with | some y=>(K1 r ds).bind λz=>.ret (y,z) | none=>.fail
  | _=>.fail
 | .pt b::r,ds=>match ds with
  | .ptr b' off::ds=>bif V b b'&&V off 0 then K1 r ds else .fail
  | _=>.fail
def Qy(st:St):(k:Dk)->D->T k.den
 | .qi τ,d=>.YX (oo τ d)
 | .vz τ,d=>match d with | .vz _ x=>.YX (jN x) | _=>.fail
 | .sub b e,d=>match d with
  | .ms b' vi e' off len=>bif V b b'&&decide (e=e')then .W (vi=jv st b) (.ret (off,len))else .fail
  | _=>.fail
 | .wg f caps,d=>match d with
  | .wg f' l=>bif V f f' then .YX (LU caps l)else .fail
  | _=>.fail
 | .st ks,d=>bif d.cA then oe st ks (xx d)else .fail
 | .mclo f ms,d=>match d with
  | .wg f' l=>bif V f f' then K1 ms l else .fail
  | _=>.fail
 | .mp,d=>match d with | .Bh l=>.ret l | _=>.fail
 | .sj e,d=>match d with
  | .wE=>.ret ([],false)
  | .sj e' l b=>match(jN (a:=.sl e') (b:=.sl e) l:Option (List (AM.den e)))with | some l=>.ret (l,b) | none=>.fail
  | _=>.fail
 | .tight e,d=>match d with
  | .wE=>.ret []
  | .tight e' l _=>.YX (jN (a:=.sl e') (b:=.sl e) l)
  | _=>.fail
def Vn:List (Nat×Nat)->List D->Bool
 | [],[]=>true
 | p::r,.ptr b off::ds=>V p.1 b&&V p.2 off&&Vn r ds
 | _,_=>false
def UG(st:St):Ck->D->T Unit
 | .ptr b off,d=>match d with | .ptr b' off'=>bif V b b'&&V off off' then .ret ()else .fail | _=>.fail
 | .cur b e,d=>match d with
  | .ms b' vi e' off len=>bif V b b'&&decide (e=e')then .W (zu vi off len (lq st b)) (.ret ())else .fail
  | _=>.fail
 | .wE,d=>match d with | .wE=>.ret () | _=>.fail
 | .gS,d=>match d with | .gS=>.ret () | _=>.fail
 | .v8,d=>match d with | .v8=>.ret () | _=>.fail
 | .wg f l,d=>match d with | .wg f' l'=>bif V f f'&&Vn l l' then .ret ()else .fail | _=>.fail
 | .yJ b,d=>match d with | .yJ b'=>bif V b b' then .ret ()else .fail | _=>.fail
 | .uS,d=>match d with | .uS=>.ret () | _=>.fail
def z8R(fr:Fr)(st:St):List (Nat×Ck)->T Unit
 | []=>.ret ()
 | p::r=>match fr.get p.1 with
  | some d=>(UG st p.2 d).bind λ_=>z8R fr st r
  | none=>.fail
def z2d(e:Ty)(b:cG):T (List (den e)):=match b with
 | .arr vi _ xs=>match(jN (a:=.sl _) (b:=.sl e) xs:Option (List (den e)))with
  | some ys=>.W (vi=ys.length) (.ret ys)
  | none=>.fail
 | _=>.fail
def Dk.plain:Dk->Bool
 | .qi _=>true
 | .vz _=>true
 | .st _=>true
 | .mp=>true
 | _=>false
def z2f(st:St)(k:Dk)(b:cG):T k.den:=match b with
 | .var d=>bif k.plain then Qy st k d else .fail
 | _=>.fail
def L4:cG->Bool | .var _=>true | _=>false
def Hh(st:St):List Bk->List cG->T (List cG)
 | [],_=>.ret []
 | .arr _::r,b::bl=>(Hh st r bl).bind λl=>.ret (b::l)
 | .var _::r,b::bl=>(Hh st r bl).bind λl=>.ret (b::l)
 | .cvar c::r,.var d::bl=>(UG st c d).bind λ_=>Hh st r bl
 | .dead::r,b::bl=>bif L4 b then .fail else Hh st r bl
 | _,_=>.fail
def FC(fr:Fr)(st:St)(bl:List cG):(i:It)->T (i.den×List cG)
 | .s t k=>match fr.get t with | some d=>(Qy st k d).bind λx=>.ret (x,bl) | none=>.fail
 | .v k=>match bl with | b::r=>(z2f st k b).bind λx=>.ret (x,r) | []=>.fail
 | .a e=>match bl with | b::r=>(z2d e b).bind λx=>.ret (x,r) | []=>.fail
def E7{α:Type}(x:α×List cG):T α:=match x.2 with | []=>.ret x.1 | _=>.fail
def BG(fr:Fr)(st:St):(l:List It)->List cG->T (jP l)
 | [],bl=>E7 ((),bl)
 | [i],bl=>(FC fr st bl i).bind E7
 | i::j::r,bl=>(FC fr st bl i).bind λx=>(BG fr st (j::r) x.2).bind λy=>.ret (x.1,y)
def rowAt(bs:List Bk)(b:Nat):Bool:=match bs[b]? with | some (.arr _)=>true | _=>false
def UL(bs:List Bk)(b:Nat):Bool:=match bs[b]? with | some (.var _)=>true | some (.cvar _)=>true | _=>false
def z8q(bs:List Bk):Sk->Bool
 | .row b _=>rowAt bs b
 | .op b _=>UL bs b
 | _=>true
def zkF(bs:List Bk):Mc->Bool
 | .pt b=>UL bs b
 | _=>true
def Fb(bs:List Bk):Dk->Bool
 | .mclo _ ms=>ms.all (zkF bs)
 | .sub b _=>rowAt bs b
 | .st ks=>ks.all (z8q bs)
 | _=>true
def Sx(bs:List Bk):Ck->Bool
 | .ptr b _=>UL bs b
 | .cur b _=>rowAt bs b
 | .wg _ l=>l.all λp=>UL bs p.1
 | .yJ b=>UL bs b
 | _=>true
def zoT(bs:List Bk):It->Bool
 | .s _ k=>Fb bs k
 | .v k=>Fb bs k
 | .a _=>true
def zoS(bs:List Bk):Bk->Bool
 | .cvar c=>Sx bs c
 | _=>true
def kinds:List It->List Bool
 | []=>[]
 | .s _ _::r=>kinds r
 | .v _::r=>false::kinds r
 | .a _::r=>true::kinds r
def eR:List Bk->List Bool->Bool
 | [],[]=>true
 | .arr _::bs,b::r=>b&&eR bs r
 | .var _::bs,b::r => !b&&eR bs r
 | .cvar _::bs,l=>eR bs l
 | .dead::bs,l=>eR bs l
 | _,_=>false
def um.ok(s:um):Bool:=eR s.bs (kinds s.ff)&&s.ff.all (zoT s.bs)&&s.cs.all (λp=>Sx s.bs p.2)&&s.bs.all (zoS s.bs)
def um.un(s:um)(fr:Fr)(st:St):T s.den :=
 bif s.ok&&(st.take s.bs.length).all (C3 s.bs.length)then(z8R fr st s.cs).bind λ_=>(Hh st s.bs st).bind λbl=>BG fr st s.ff bl
 else .fail
structure Way where
 ex:Ex
 sh:um
def fJ:List Way->Type
 | []=>Empty
 | [w]=>w.sh.den
 | w::v::r=>w.sh.den⊕fJ (v::r)
def ME{α:Type}:(l:List Way)->fJ l->(Ex->Fr->St->T α)->T α
 | [],x,_=>nomatch x
 | [w],x,k=>k w.ex (w.sh.fr x) (w.sh.st x)
 | w::v::r,x,k=>Sum.elim (λa=>k w.ex (w.sh.fr a) (w.sh.st a)) (λb=>ME (v::r) b k) x
def Xr:Ex->Ex->Bool
 | .normal,.normal=>true
 | .ret,.ret=>true
 | .exit a,.exit b=>V a b
 | .hH (.iface t _),.hH (.iface t' _)=>V t t'
 | _,_=>false
def GR:Ex->Fr->Fr
 | .hH (.iface _ d),_=>[(0,some d)]
 | _,fr=>fr
def Eb:Ex->Fr->Option (Ex×Fr)
 | .hH (.iface t _),fr=>match fr.get 0 with | some d=>some (.hH (.iface t d),[]) | none=>none
 | .hH _,_=>none
 | e,fr=>some (e,fr)
def Cv:(l:List Way)->Ex->Fr->St->T (fJ l)
 | [],_,_,_=>.fail
 | [w],ex,fr,st=>bif Xr w.ex ex then w.sh.un fr st else .fail
 | w::v::r,ex,fr,st=>bif Xr w.ex ex then(w.sh.un fr st).bind λx=>.ret (.inl x)else(Cv (v::r) ex fr st).bind λy=>.ret (.inr y)
end Go.AM
namespace Go.AM
set_option linter.unusedSectionVars false
variable [yV] [Hl]
section
variable {c:Ctx} {n:Nat}
theorem get_mem:∀ {l:Fr} {s:Nat} {d:D},l.get s=some d->(s,some d)∈l
 | [],s,d,h=>by cases h
 | (t,d')::r,s,d,h=>by
  simp only[Fr.get]at h
  cases ht:V t s with
  | true =>
   rw[ht,cond_true]at h
   rw[zA ht,h]
   simp
  | false=>rw[ht,cond_false]at h; exact zI _ (get_mem h)
theorem get_append{l m:Fr}{s:Nat}{d:D}(h:(l++m).get s=some d):(s,some d)∈l\/m.get s=some d:=by
 induction l with
 | nil=>grind
 | cons p r ih =>
  obtain⟨t,d'⟩:=p
  simp only[qJ,Fr.get]at h
  cases ht:V t s with
  | true=>rw[ht,cond_true]at h; rw[zA ht,h]; exact .inl zQ
  | false=>grind
structure Wk(O E:KS):Prop where
 w:E.w=O.w
 ok:E.ok=O.ok
 ph:E.ph=O.ph
 len:E.st.length=O.st.length
 var:∀ (b:Nat) (d:D),O.st[b]? = some (cG.var d)->∃ d',E.st[b]? = some (cG.var d')
 arr:∀ (b v:Nat) (e:Ty) (xs:List (den e)),O.st[b]? = some (cG.arr v e xs)->E.st[b]? = some (cG.arr v e xs)\/E.st[b]? = some cG.dead
 arr':∀ (b v:Nat) (e:Ty) (xs:List (den e)),E.st[b]? = some (cG.arr v e xs)->O.st[b]? = some (cG.arr v e xs)
 dead:∀ (b:Nat),O.st[b]? = some cG.dead->E.st[b]? = some cG.dead
theorem Wk.ext{O E:KS}(h:Wk O E):Ext O E:=by
 refine⟨by rw[h.w],by rw[h.w],by rw[h.w],by rw[h.w]; exact zJ _,λk hk=>⟨by rw[h.ok]; exact hk,by rw[h.w]⟩,λk hk=>.inl (by rw[<- h.ok]; exact hk),
  λb blk m I=>.inl (by rw[<- h.ph]; exact I),λb d J=>⟨h.var b d J,by rw[h.ph]⟩,λb v0 e xs I => ?_,h.dead,by rw[h.len]; exact zJ _,λk _ _=>by rw[h.w]⟩
 rcases h.arr b v0 e xs I with g | g
 ·exact .inr ⟨v0,xs,g,zJ _,λ_=>⟨by rw[h.ph],rfl⟩⟩
 ·grind
theorem Wk.rd{O E:KS}(h:Wk O E){d:D}{v:Value}(J:RD O d v):RD E d v:=J.mono h.ext
theorem Wk.inv{O E:KS}(h:Wk O E)(B:Inv O)(hv:∀ (b:Nat) (d:D),E.st[b]? = some (cG.var d)->pw E b (.var d)):Inv E:=by
 refine⟨by rw[h.ph,h.len]; exact B.len,λk hk=>by rw[h.w]; exact B.bI k (by rw[<- h.ok]; exact hk),λb blk m I => ?_,λb b' blk m m' I Kb=>B.inj b b' blk m m' (by rw[<- h.ph]; exact I) (by rw[<- h.ph]; exact Kb),λb x N => ?_,B.gl.mono h.ext.same⟩
 ·obtain⟨g1,g2⟩:=B.apart b blk m (by rw[<- h.ph]; exact I)
  exact⟨by rw[h.w]; exact g1,λhk=>g2 (by rw[<- h.ok]; exact hk)⟩
 ·cases x with
  | dead=>trivial
  | var d=>grind
  | arr v e xs=>exact(B.blk b _ (h.arr' b v e xs N)).mono h.ext (by rw[h.ph]) λblk m _=>by rw[h.w]
theorem Gu{p:UQ}{d:D}{x:den p.ty}(h:Pr p d=some x){O:KS}{v:Value}(J:RD O d v):RD O (Be p x) v:=by
 cases p with
 | rp τ =>
  cases d<;>simp only[Pr]at h<;>try (cases h; done)
  obtain⟨e,N⟩:=we h
  cases e
  cases N
  exact J
 | im τ=>exact mr J h
theorem K0{O:KS}:∀ (l:List UQ) (ds:List D) (x:fI l) (vs:List Value),LU l ds=some x->wN O ds vs->wN O (ZP l x) vs
 | [],[],x,vs,_,J=>by rw[J.wb]; exact .nil
 | [],_::_,_,_,h,_=>nomatch h
 | [p],[],_,_,h,_=>nomatch h
 | [p],[d],x,vs,h,J=>by
  obtain⟨v,us,rfl,h1,M⟩:=J.cons_inv
  rw[M.wb]
  exact .cons (Gu h h1) .nil
 | [p],_::_::_,_,_,h,_=>nomatch h
 | p::q::r,[],_,_,h,_=>nomatch h
 | p::q::r,d::ds,x,vs,h,J=>by
  obtain⟨y,hy,h⟩:=qL.1 h
  obtain⟨z,hz,h⟩:=qL.1 h
  cases h
  obtain⟨v,us,rfl,h1,M⟩:=J.cons_inv
  exact .cons (Gu hy h1) (K0 (q::r) ds z us hz M)
theorem Tn{O:KS}{d:D}{v:Value}(J:RD O d v)(ha:d.cA=true):∃ c,v=.agg c:=by
 cases J with
 | qi τ x cs h=>exact⟨cs.toArray,by unfold pk; rw[show τ.isAgg=true from ha]; rfl⟩
 | agg l vs R ho h=>simp
 | _=>cases ha
theorem z8r{O:KS}{b T:Nat}{ds q:List D}{vs:List Value}(J:wN O ds vs)(h:z2B O.st b T ds=some q):∃ v us,vs=v::us/\RD O (.dZ b T) v/\wN O q us:=by
 unfold z2B at h
 split at h
 ·rename_i d0 SZ
  split at h
  ·rename_i T' ds
   cases I:V T T' with
   | false=>grind
   | true =>
    rw[I]at h
    cases h
    obtain⟨v,us,rfl,g1,g2⟩:=J.cons_inv
    exact⟨v,us,rfl,by cases g1; exact .nh b T d0 SZ,g2⟩
  ·rename_i b' T' ds
   cases I:V b b'&&V T T' with
   | false=>grind
   | true =>
    simp only[X]at I
    have e1:=zA I.1
    have e2:=zA I.2
    obtain⟨v,us,rfl,g1,g2⟩:=J.cons_inv
    grind
  ·cases h
 ·cases h
theorem Ll{st:St}{b T:Nat}{ds q:List D}(h:z2B st b T ds=some q):iY ds=some T:=by
 unfold z2B at h
 split at h
 ·split at h
  ·rename_i T' ds
   cases I:V T T' with
   | false=>grind
   | true=>rw[zA I]; rfl
  ·rename_i b' T' ds
   cases I:V b b'&&V T T' with
   | false=>grind
   | true =>
    simp only[X]at I
    rw[zA I.2]; rfl
  ·cases h
 ·cases h
theorem z88{O:KS}{ds q:List D}{vs:List Value}(J:wN O ds vs)(h:zcC ds=some q):∃ v us,vs=v::us/\RD O .wE v/\wN O q us:=by
 unfold zcC at h
 split at h
 ·cases h; exact J.cons_inv
 ·cases h
theorem z8S{O:KS}{ds q:List D}{vs:List Value}(J:wN O ds vs)(h:zd8 ds=some q):∃ v us,vs=v::us/\RD O .WG v/\wN O q us:=by
 unfold zd8 at h
 split at h
 ·rename_i d ds
  cases I:d.one with
  | false=>grind
  | true =>
   rw[I]at h
   cases h
   obtain⟨v,us,rfl,g1,g2⟩:=J.cons_inv
   exact⟨v,us,rfl,.WG v (g1.KD I),g2⟩
 ·cases h
theorem ml{O:KS}{ql:St}{bs:List Bk}(oz:∀ b,rowAt bs b=true->jv ql b=lq O.st b):∀ (ks:List Sk) (ds:List D) (x:lM ks) (vs:List Value),ks.all (z8q bs)=true->(oe O.st ks ds).leads x->wN O ds vs ->
  wN O (je ql ks x) vs/\∀ d∈je ql ks x,d.one=true
 | [],ds,x,vs,_,h,J=>by
  cases ds with
  | nil=>exact⟨J,λd hm=>by cases hm⟩
  | cons d r=>exact h.elim
 | .im τ::r,ds,x,vs,ho,h,J=>by
  simp only[oe]at h
  split at h
  ·rename_i p hp
   obtain⟨y,h1,M⟩:=T.zd.1 h
   cases M
   obtain⟨c1,c2,rfl,g1,g2⟩:=Wi τ J hp
   simp only[zF,X]at ho
   obtain⟨k1,k2⟩:=ml oz r p.2 y c2 ho.2 h1 g2
   refine⟨(QY g1).append k1,λd hm => ?_⟩
   rcases zN.1 (show d∈flat τ p.1++je ql r y from hm)with hm | hm
   ·exact rb τ _ d hm
   ·grind
  ·exact h.elim
 | .row b e::r,ds,x,vs,ho,h,J=>by
  cases ds with
  | nil=>exact h.elim
  | cons d ds =>
   cases d<;>simp only[oe]at h<;>try (exact h.elim)
   rename_i b' vi e' off len
   cases I:V b b'&&decide (e=e')with
   | false=>rw[I]at h; exact h.elim
   | true =>
    rw[I,cond_true]at h
    simp only[X,decide_eq_true_eq]at I
    obtain⟨⟨h1,M,h3⟩,h⟩:=h
    have:=zA I.1
    obtain⟨-,rfl⟩:=I
    subst this
    obtain⟨v,us,rfl,g1,g2⟩:=J.cons_inv
    simp only[zF,X]at ho
    obtain⟨k1,k2⟩:=ml oz r ds x us ho.2 h g2
    have e1:je ql (.row b e::r) x=.ms b vi e off len::je ql r x:=by
     show D.ms b (jv ql b) e 0 (jv ql b)::_=_
     rw[oz b ho.1,h1,M,h3]
    rw[e1]
    refine⟨.cons g1 k1,λd hm => ?_⟩
    rcases zH.1 hm with rfl | hm
    ·rfl
    ·grind
 | .op b T::r,ds,x,vs,ho,h,J=>by
  simp only[zF,X]at ho
  simp only[oe]at h
  split at h
  ·rename_i q hq
   obtain⟨v,us,rfl,g0,g2⟩:=z8r J hq
   obtain⟨k1,k2⟩:=ml oz r q x us ho.2 h g2
   refine⟨show wN O (D.dZ b T::je ql r x) (v::us)from .cons g0 k1,λd hm => ?_⟩
   rcases zH.1 (show d∈D.dZ b T::je ql r x from hm)with rfl | hm
   ·rfl
   ·grind
  ·exact h.elim
 | .un::r,ds,x,vs,ho,h,J=>by
  simp only[zF,X]at ho
  simp only[oe]at h
  split at h
  ·rename_i q hq
   obtain⟨v,us,rfl,g0,g2⟩:=z8S J hq
   obtain⟨k1,k2⟩:=ml oz r q x us ho.2 h g2
   refine⟨show wN O (D.WG::je ql r x) (v::us)from .cons g0 k1,λd hm => ?_⟩
   rcases zH.1 (show d∈D.WG::je ql r x from hm)with rfl | hm
   ·rfl
   ·grind
  ·exact h.elim
 | .nl::r,ds,x,vs,ho,h,J=>by
  simp only[zF,X]at ho
  simp only[oe]at h
  split at h
  ·rename_i q hq
   obtain⟨v,us,rfl,g0,g2⟩:=z88 J hq
   obtain⟨k1,k2⟩:=ml oz r q x us ho.2 h g2
   refine⟨show wN O (D.wE::je ql r x) (v::us)from .cons g0 k1,λd hm => ?_⟩
   rcases zH.1 (show d∈D.wE::je ql r x from hm)with rfl | hm
   ·rfl
   ·grind
  ·exact h.elim
theorem tZ{st ql:St}{bs:List Bk}(h:∀ b,rowAt bs b=true->jv st b=jv ql b):∀ (ks:List Sk) (x:lM ks),ks.all (z8q bs)=true->je st ks x=je ql ks x
 | [],_,_=>rfl
 | .im τ::r,x,ho=>by
  simp only[zF,X]at ho
  show flat τ x.1++je st r x.2=flat τ x.1++je ql r x.2
  rw[tZ h r x.2 ho.2]
 | .row b e::r,x,ho=>by
  simp only[zF,X]at ho
  show D.ms b (jv st b) e 0 (jv st b)::je st r x=D.ms b (jv ql b) e 0 (jv ql b)::je ql r x
  rw[tZ h r x ho.2,h b ho.1]
 | .op b T::r,x,ho=>by
  simp only[zF,X]at ho
  show D.dZ b T::je st r x=D.dZ b T::je ql r x
  rw[tZ h r x ho.2]
 | .un::r,x,ho=>by
  simp only[zF,X]at ho
  show D.WG::je st r x=D.WG::je ql r x
  rw[tZ h r x ho.2]
 | .nl::r,x,ho=>by
  simp only[zF,X]at ho
  show D.wE::je st r x=D.wE::je ql r x
  rw[tZ h r x ho.2]
theorem Yd:∀ (τ:Ty) (x:den τ),∀ y∈flat τ x,∃ σ z,y=.qi σ z:=by
 intro τ x y hy
 induction τ with
 | cons a b ia ib =>
  simp only[flat]at hy
  grind
 | nil=>simp[flat]at hy
 | expr=>simp[flat]at hy; rcases hy with rfl | rfl | rfl | rfl | rfl | rfl<;>exact⟨_,_,rfl⟩
 | _=>simp[flat]at hy; subst hy; exact⟨_,_,rfl⟩
theorem Dd:∀ (τ:Ty) {ds:List D} {p:den τ×List D},cF τ ds=some p->τ.size=0->p.2=ds:=by
 intro τ
 induction τ with
 | nil=>intro ds p h _; simp only[cF,Option.some.injEq]at h; subst h; rfl
 | cons a b ia ib =>
  intro ds p h hz
  simp only[Ty.size]at hz
  simp only[cF]at h
  grind
 | _=>nofun
theorem JK{st ql:St}{tt:Nat}:∀ (ks:List Sk) (ds:List D) (x:lM ks),(oe st ks ds).leads x->iY (je ql ks x)=some tt->iY ds=some tt
 | [],ds,x,h,ht=>by cases ht
 | .im τ::r,ds,x,h,ht=>by
  simp only[oe]at h
  split at h
  ·rename_i p hp
   obtain⟨y,h1,M⟩:=T.zd.1 h
   cases M
   have ht':iY (flat τ p.1++je ql r y)=some tt:=ht
   cases hf:flat τ p.1 with
   | nil =>
    rw[hf]at ht'
    have hz:τ.size=0:=by rw[<- VV τ p.1,hf]; rfl
    have:=Dd τ hp hz
    rw[<- this]
    exact JK r p.2 y h1 ht'
   | cons z zs =>
    rw[hf]at ht'
    obtain⟨σ,w,e⟩:=Yd τ p.1 z (xy)
    rw[e]at ht'
    cases ht'
  ·exact h.elim
 | .row b e::r,ds,x,h,ht=>by cases ht
 | .op b T'::r,ds,x,h,ht=>by
  simp only[oe]at h
  split at h
  ·rename_i q hq
   cases ht
   exact Ll hq
  ·exact h.elim
 | .un::r,ds,x,h,ht=>by cases ht
 | .nl::r,ds,x,h,ht=>by cases ht
theorem JZ{d:D}{T:Nat}(ha:d.cA=true)(h:iY (xx d)=some T):d.typed=some T:=by
 cases d with
 | qi τ x =>
  simp only[xx]at h
  cases hf:flat τ x with
  | nil=>rw[hf]at h; cases h
  | cons z zs =>
   obtain⟨σ,w,e⟩:=Yd τ x z (xy)
   rw[hf,e]at h
   cases h
 | agg l=>exact h
 | _=>cases ha
theorem Ci{m:Nat}(τ:Ty)(x:den τ):∀ d∈flat τ x,y6 m d=true:=λd J=>by
 obtain⟨σ,z,rfl⟩:=Yd τ x d J
 rfl
theorem bU{m:Nat}{st:St}{bs:List Bk}(I:∀ b,rowAt bs b=true->b<m)(RE:∀ b,UL bs b=true->b<m):∀ (ks:List Sk) (x:lM ks),ks.all (z8q bs)=true->∀ d∈je st ks x,y6 m d=true
 | [],_,_,d,J=>by cases J
 | .im τ::r,x,ho,d,J=>by
  simp only[zF,X]at ho
  rcases zN.1 (show d∈flat τ x.1++je st r x.2 from J)with J | J
  ·exact Ci τ _ d J
  ·exact bU I RE r x.2 ho.2 d J
 | .row b e::r,x,ho,d,J=>by
  simp only[zF,X]at ho
  rcases zH.1 (show d∈D.ms b (jv st b) e 0 (jv st b)::je st r x from J)with rfl | J
  ·have:=I b ho.1
   simp only[y6,zO,zU]; exact this
  ·exact bU I RE r x ho.2 d J
 | .op b T::r,x,ho,d,J=>by
  simp only[zF,X]at ho
  rcases zH.1 (show d∈D.dZ b T::je st r x from J)with rfl | J
  ·have:=RE b ho.1
   simp only[y6,zO,zU]; exact this
  ·exact bU I RE r x ho.2 d J
 | .un::r,x,ho,d,J=>by
  simp only[zF,X]at ho
  rcases zH.1 (show d∈D.WG::je st r x from J)with rfl | J
  ·rfl
  ·exact bU I RE r x ho.2 d J
 | .nl::r,x,ho,d,J=>by
  simp only[zF,X]at ho
  rcases zH.1 (show d∈D.wE::je st r x from J)with rfl | J
  ·rfl
  ·exact bU I RE r x ho.2 d J
theorem Wh{O:KS}:∀ (ms:List Mc) (ds:List D) (x:Zo ms) (vs:List Value),(K1 ms ds).leads x->wN O ds vs->wN O (Wv ms x) vs
 | [],ds,x,vs,h,J=>by
  cases ds with
  | nil=>exact J
  | cons d r=>exact h.elim
 | .im τ::r,ds,x,vs,h,J=>by
  cases ds with
  | nil=>exact h.elim
  | cons d ds =>
   simp only[K1]at h
   split at h
   ·rename_i y hy
    obtain⟨z,h1,M⟩:=T.zd.1 h
    cases M
    obtain⟨v,us,rfl,g1,g2⟩:=J.cons_inv
    exact .cons (mr g1 hy) (Wh r ds z us h1 g2)
   ·exact h.elim
 | .rp τ::r,ds,x,vs,h,J=>by
  cases ds with
  | nil=>exact h.elim
  | cons d ds =>
   cases d<;>simp only[K1]at h<;>try (exact h.elim)
   split at h
   ·rename_i y hy
    obtain⟨e,N⟩:=we hy
    cases e
    cases N
    obtain⟨z,h1,M⟩:=T.zd.1 h
    cases M
    obtain⟨v,us,rfl,g1,g2⟩:=J.cons_inv
    exact .cons g1 (Wh r ds z us h1 g2)
   ·exact h.elim
 | .pt b::r,ds,x,vs,h,J=>by
  cases ds with
  | nil=>exact h.elim
  | cons d ds =>
   cases d<;>simp only[K1]at h<;>try (exact h.elim)
   rename_i b' off
   cases I:V b b'&&V off 0 with
   | false=>rw[I]at h; exact h.elim
   | true =>
    rw[I]at h
    simp only[X]at I
    have e1:=zA I.1
    have e2:=zA I.2
    subst e1 e2
    obtain⟨v,us,rfl,g1,g2⟩:=J.cons_inv
    exact .cons g1 (Wh r ds x us h g2)
theorem oB{m:Nat}{bs:List Bk}(I:∀ b,UL bs b=true->b<m):∀ (ms:List Mc) (x:Zo ms),ms.all (zkF bs)=true->∀ d∈Wv ms x,y6 m d=true
 | [],_,_,d,J=>by cases J
 | .im τ::r,x,ho,d,J=>by
  simp only[zF,X]at ho
  rcases zH.1 (show d∈D.qi τ x.1::Wv r x.2 from J)with rfl | J
  ·rfl
  ·exact oB I r x.2 ho.2 d J
 | .rp τ::r,x,ho,d,J=>by
  simp only[zF,X]at ho
  rcases zH.1 (show d∈D.vz τ x.1::Wv r x.2 from J)with rfl | J
  ·rfl
  ·exact oB I r x.2 ho.2 d J
 | .pt b::r,x,ho,d,J=>by
  simp only[zF,X]at ho
  rcases zH.1 (show d∈D.ptr b 0::Wv r x from J)with rfl | J
  ·have:=I b ho.1
   simp only[y6,zO,zU]; exact this
  ·exact oB I r x ho.2 d J
theorem Db{O E:KS}(hw:Wk O E){k:Dk}{d:D}{x:k.den}{v:Value}{bs:List Bk}(uZ:Fb bs k=true)(oz:∀ b,rowAt bs b=true->jv E.st b=jv O.st b)
  {ql:St} (vU:∀ b,rowAt bs b=true->jv ql b=jv E.st b) (hlen:∀ b,rowAt bs b=true->jv O.st b=lq O.st b) (h:(Qy O.st k d).leads x) (J:RD O d v):RD E (Qw ql k x) v:=by
 cases k with
 | mp=>cases d<;>first | exact h.elim | exact absurd J.z2j nofun
 | sj e =>
  cases d<;>simp only[Qy]at h<;>try (exact h.elim)
  ·split at h
   ·rename_i e' l b l' R
    cases h
    obtain⟨he,N⟩:=we R
    cases he
    cases N
    exact hw.rd J
   ·exact h.elim
  ·cases h
   cases J
   exact .sj e [] false _ (.lv e none) nofun λ_=>rfl
 | tight e =>
  cases d<;>simp only[Qy]at h<;>try (exact h.elim)
  ·rename_i e' l ne
   obtain⟨he,N⟩:=we (T.yp.1 h)
   cases he
   cases N
   cases hw.rd J with
   | vy e a=>exact .vy e a
   | tight e l ne blk off f jX uZ h1 hc=>exact .tight e l false blk off f nofun uZ h1 hc
  ·cases h
   cases J
   exact .vy e none
 | qi τ=>exact hw.rd (mr J (T.yp.1 h))
 | vz τ =>
  cases d<;>simp only[Qy]at h<;>try (exact h.elim)
  obtain⟨e,N⟩:=we (T.yp.1 h)
  cases e
  cases N
  exact hw.rd J
 | sub b e =>
  cases d<;>simp only[Qy]at h<;>try (exact h.elim)
  rename_i b' vi e' off len
  cases I:V b b'&&decide (e=e')with
  | false=>rw[I]at h; exact h.elim
  | true =>
   rw[I,cond_true]at h
   simp only[X,decide_eq_true_eq]at I
   obtain⟨hv,h⟩:=h
   cases h
   have:=zA I.1
   obtain⟨-,rfl⟩:=I
   subst this
   simp only[Qw]
   rw[vU b uZ,oz b uZ,<- hv]
   exact hw.rd J
 | wg f caps =>
  cases d<;>simp only[Qy]at h<;>try (exact h.elim)
  rename_i f' l
  cases I:V f f' with
  | false=>rw[I]at h; exact h.elim
  | true =>
   rw[I,cond_true]at h
   have:=zA I
   subst this
   have N:=T.yp.1 h
   cases J with
   | wg _ _ vs R hh =>
    have:=K0 caps l x vs N (⟨R,hh⟩:wN O l vs)
    exact hw.rd (.wg f _ vs this.1 this.2)
 | st ks =>
  simp only[Qy]at h
  cases ha:d.cA with
  | false=>rw[ha]at h; exact h.elim
  | true =>
   rw[ha]at h
   have ht:d.bu=false:=by cases d<;>first | rfl | (simp[D.cA]at ha)
   obtain⟨g1,g2⟩:=ml (ql:=ql) (λb I=>(vU b I).trans ((oz b I).trans (hlen b I))) ks (xx d) x _ uZ h (cr J ht)
   obtain⟨c,hc⟩:=Tn J ha
   subst hc
   have g1':wN O (je ql ks x) c.toList:=g1
   have:=RD.agg (O:=O) _ c.toList g1'.1 g2 g1'.2
   exact hw.rd (show RD O (.agg (je ql ks x)) (.agg c) by simpa using this)
 | mclo f ms =>
  cases d<;>simp only[Qy]at h<;>try (exact h.elim)
  rename_i f' l
  cases I:V f f' with
  | false=>rw[I]at h; exact h.elim
  | true =>
   rw[I]at h
   have:=zA I
   subst this
   cases J with
   | wg _ _ vs R hh =>
    have:=Wh ms l x vs h (⟨R,hh⟩:wN O l vs)
    exact hw.rd (show RD O (.wg f (Wv ms x)) _ from .wg f _ vs this.1 this.2)
theorem Bq:∀ {l:List (Nat×Nat)} {ds:List D},Vn l ds=true->ds=l.map λp=>.ptr p.1 p.2
 | [],[],_=>rfl
 | [],_::_,h=>by simp[Vn]at h
 | p::r,[],h=>by simp[Vn]at h
 | p::r,d::ds,h=>by
  cases d<;>simp only[Vn]at h<;>try (cases h; done)
  simp only[X]at h
  rw[Bq h.2,<- zA h.1.1,<- zA h.1.2]
  rfl
theorem z8Q{st ql:St}{ck:Ck}{d:D}{bs:List Bk}(uZ:Sx bs ck=true)(oz:∀ b,rowAt bs b=true->jv ql b=lq st b)(h:(UG st ck d).leads ()):F2 ql ck=d:=by
 cases ck with
 | ptr b off =>
  cases d<;>simp only[UG]at h<;>try (exact h.elim)
  rename_i b' off'
  cases I:V b b'&&V off off' with
  | false=>rw[I]at h; exact h.elim
  | true =>
   simp only[X]at I
   rw[<- zA I.1,<- zA I.2]
   rfl
 | cur b e =>
  cases d<;>simp only[UG]at h<;>try (exact h.elim)
  rename_i b' vi e' off len
  cases I:V b b'&&decide (e=e')with
  | false=>rw[I]at h; exact h.elim
  | true =>
   rw[I,cond_true]at h
   simp only[X,decide_eq_true_eq]at I
   obtain⟨⟨h1,M,h3⟩,_⟩:=h
   have:=zA I.1
   obtain⟨-,rfl⟩:=I
   subst this
   simp only[F2]
   rw[oz b uZ,h1,M,h3]
 | wE=>cases d<;>simp only[UG]at h<;>first | rfl | exact h.elim
 | gS=>cases d<;>simp only[UG]at h<;>first | rfl | exact h.elim
 | v8=>cases d<;>simp only[UG]at h<;>first | rfl | exact h.elim
 | uS=>cases d<;>simp only[UG]at h<;>first | rfl | exact h.elim
 | yJ b =>
  cases d<;>simp only[UG]at h<;>try (exact h.elim)
  rename_i b'
  cases I:V b b' with
  | false=>rw[I]at h; exact h.elim
  | true=>rw[<- zA I]; rfl
 | wg f l =>
  cases d<;>simp only[UG]at h<;>try (exact h.elim)
  rename_i f' l'
  cases I:V f f'&&Vn l l' with
  | false=>rw[I]at h; exact h.elim
  | true =>
   simp only[X]at I
   rw[<- zA I.1,Bq I.2]
   rfl
theorem FB{fr:Fr}{st:St}:∀ {cs:List (Nat×Ck)},(z8R fr st cs).leads ()->∀ p∈cs,∃ d,fr.get p.1=some d/\(UG st p.2 d).leads ()
 | [],_,p,hp=>by cases hp
 | q::r,h,p,hp=>by
  simp only[z8R]at h
  split at h
  ·rename_i d J
   simp only[T.xg]at h
   obtain⟨⟨⟩,h1,M⟩:=h
   rcases zH.1 hp with rfl | hp
   ·grind
   ·exact FB M p hp
  ·exact h.elim
def R0(p:Dk->Bool)(st:St):List cG->List Bd->Prop
 | [],[]=>True
 | b::bl,.a e xs::r=>b=.arr xs.length e xs/\R0 p st bl r
 | b::bl,.v k x::r=>(∃ d,b=.var d/\(k.plain=true/\p k=true)/\(Qy st k d).leads x)/\R0 p st bl r
 | _,_=>False
theorem z2e{e:Ty}{b:cG}{x:List (den e)}(h:(z2d e b).leads x):b=.arr x.length e x:=by
 unfold z2d at h
 split at h
 ·split at h
  ·rename_i ys hy
   obtain⟨h1,M⟩:=h
   cases M
   obtain⟨he,N⟩:=we hy
   grind
  ·exact h.elim
 ·exact h.elim
theorem z2g{st:St}{k:Dk}{b:cG}{x:k.den}(h:(z2f st k b).leads x):∃ d,b=.var d/\k.plain=true/\(Qy st k d).leads x:=by
 cases b with
 | var d =>
  simp only[z2f]at h
  cases hp:k.plain with
  | false=>rw[hp]at h; exact h.elim
  | true=>grind
 | _=>exact h.elim
def GS(st:St):(i:It)->i.den->Fr
 | .s t k,x=>[(t,some (Qw st k x))]
 | .v _,_=>[]
 | .a _,_=>[]
def Tt:(i:It)->i.den->List Bd
 | .s _ _,_=>[]
 | .v k,x=>[.v k x]
 | .a e,x=>[.a e x]
theorem YR(st:St)(i:It)(x:i.den):nc st [i] x=GS st i x:=by cases i<;>rfl
theorem Jg(st:St)(i j:It)(r:List It)(x:i.den×jP (j::r)):nc st (i::j::r) x=GS st i x.1++nc st (j::r) x.2:=by cases i<;>rfl
theorem z2a(i:It)(x:i.den):tY [i] x=Tt i x:=by cases i<;>rfl
theorem Su(i j:It)(r:List It)(x:i.den×jP (j::r)):tY (i::j::r) x=Tt i x.1++tY (j::r) x.2:=by cases i<;>rfl
def zdN(fr:Fr)(st ql:St)(l:List It)(p:Nat×Option D):Prop:=∃ (k:Dk) (y:k.den) (d:D),(It.s p.1 k)∈l/\fr.get p.1=some d/\(Qy st k d).leads y/\p.2=some (Qw ql k y)
theorem Pt{p:Dk->Bool}{fr:Fr}{st ql:St}{bl:List cG}{i:It}{x:i.den×List cG}(hp:∀ k,i=.v k->p k=true)(h:(FC fr st bl i).leads x) :
  (∀ bd,R0 p st x.2 bd->R0 p st bl (Tt i x.1++bd))/\∀ p∈GS ql i x.1,zdN fr st ql [i] p:=by
 cases i with
 | s t k =>
  simp only[FC]at h
  split at h
  ·rename_i d J
   rw[T.xg]at h
   obtain⟨y,h1,rfl⟩:=h
   refine⟨λbd I=>I,λp hp => ?_⟩
   simp only[GS,zL]at hp
   subst hp
   exact⟨k,y,d,qz,J,h1,rfl⟩
  ·exact h.elim
 | v k =>
  cases bl with
  | nil=>exact h.elim
  | cons b r =>
   simp only[FC]at h
   rw[T.xg]at h
   obtain⟨y,h1,rfl⟩:=h
   obtain⟨d,q1,q2,q3⟩:=z2g h1
   exact⟨λbd I=>⟨⟨d,q1,⟨q2,hp k rfl⟩,q3⟩,I⟩,λp hp=>by cases hp⟩
 | a e =>
  cases bl with
  | nil=>exact h.elim
  | cons b r =>
   simp only[FC]at h
   rw[T.xg]at h
   obtain⟨y,h1,rfl⟩:=h
   exact⟨λbd I=>⟨z2e h1,I⟩,λp hp=>by cases hp⟩
theorem E8{α:Type}{x:α×List cG}{y:α}(h:(E7 x).leads y):x=(y,[]):=by
 obtain⟨a,bl⟩:=x
 cases bl with
 | nil=>cases h; rfl
 | cons=>exact h.elim
theorem UH{p:Dk->Bool}{fr:Fr}{st ql:St}:∀ (l:List It) (bl:List cG) (x:jP l),(∀ k,It.v k∈l->p k=true)->(BG fr st l bl).leads x ->
  R0 p st bl (tY l x)/\∀ p∈nc ql l x,zdN fr st ql l p
 | [],bl,x,_,h=>by
  have h':(E7 ((),bl)).leads x:=h
  have:=E8 h'
  cases this
  exact⟨trivial,λp hp=>by cases hp⟩
 | [i],bl,x,hp,h=>by
  have h':((FC fr st bl i).bind E7).leads x:=h
  obtain⟨y,h1,M⟩:=T.zd.1 h'
  have:=E8 M
  subst this
  obtain⟨g1,g2⟩:=Pt (p:=p) (ql:=ql) (λk hk=>hp k (xy)) h1
  have e1:tY [i] x=Tt i x:=z2a i x
  have e2:nc ql [i] x=GS ql i x:=YR ql i x
  have:=g1 [] trivial
  grind
 | i::j::r,bl,x,hp,h=>by
  have h':((FC fr st bl i).bind λx=>(BG fr st (j::r) x.2).bind λy=>T.ret (x.1,y)).leads x:=h
  obtain⟨y,h1,M⟩:=T.zd.1 h'
  obtain⟨z,h3,h4⟩:=T.zd.1 M
  cases h4
  obtain⟨g1,g2⟩:=Pt (p:=p) (ql:=ql) (λk hk=>hp k (xy)) h1
  obtain⟨k1,k2⟩:=UH (p:=p) (ql:=ql) (j::r) y.2 z (λk hk=>hp k (zI _ hk)) h3
  have e1:tY (i::j::r) (y.1,z)=Tt i y.1++tY (j::r) z:=Su i j r (y.1,z)
  have e2:nc ql (i::j::r) (y.1,z)=GS ql i y.1++nc ql (j::r) z:=Jg ql i j r (y.1,z)
  rw[e1,e2]
  refine⟨g1 _ k1,λp hp => ?_⟩
  rcases zN.1 hp with hp | hp
  ·obtain⟨k,w,d,q1,q2⟩:=g2 p hp
   exact⟨k,w,d,xy,q2⟩
  ·obtain⟨k,w,d,q1,q2⟩:=k2 p hp
   exact⟨k,w,d,zI _ q1,q2⟩
inductive Hk(p:Dk->Bool)(st ql:St):Bk->cG->cG->Prop
 | arr (e e':Ty) (xs:List (den e)):Hk p st ql (.arr e') (.arr xs.length e xs) (.arr xs.length e xs)
 | var (k k':Dk) (d:D) (x:k.den) (hp:k.plain=true/\p k=true) (h:(Qy st k d).leads x):Hk p st ql (.var k') (.var d) (.var (Qw ql k x))
 | cvar (ck:Ck) (d:D) (h:(UG st ck d).leads ()):Hk p st ql (.cvar ck) (.var d) (.var (F2 ql ck))
 | dead (b:cG) (h:L4 b=false):Hk p st ql .dead b .dead
def mo:List Bd->List Bool
 | []=>[]
 | .v _ _::r=>false::mo r
 | .a _ _::r=>true::mo r
theorem ZO:∀ (l:List It) (x:jP l),mo (tY l x)=kinds l
 | [],_=>rfl
 | [.s _ _],_=>rfl
 | [.v _],_=>rfl
 | [.a _],_=>rfl
 | .s _ _::j::r,x=>ZO (j::r) x.2
 | .v _::j::r,x=>congrArg (false :: ·) (ZO (j::r) x.2)
 | .a _::j::r,x=>congrArg (true :: ·) (ZO (j::r) x.2)
theorem UF{p:Dk->Bool}{st st0:St}:∀ {bs:List Bk} {blocks bl:List cG} {bd:List Bd},(Hh st bs blocks).leads bl->R0 p st bl bd->eR bs (mo bd)=true ->
  (jB st0 bs bd).length=bs.length/\(∀ b,rowAt bs b=true->jv (fj bs bd) b=lq blocks b/\jv (jB st0 bs bd) b=lq blocks b/\jv blocks b=lq blocks b) /\
  ∀ (i:Nat) (k:Bk),bs[i]? = some k->∃ hI B',blocks[i]? = some hI/\(jB st0 bs bd)[i]? = some B'/\Hk p st st0 k hI B'
 | [],blocks,bl,bd,h,I,ho=>by
  refine⟨by simp[jB],λb I=>by simp[rowAt]at I,λi k hk=>by simp at hk⟩
 | k::r,[],bl,bd,h,I,ho=>by cases k<;>exact h.elim
 | .arr e::r,b::blocks,bl,bd,h,I,ho=>by
  simp only[Hh,T.xg]at h
  obtain⟨l,h1,rfl⟩:=h
  cases bd with
  | nil=>exact I.elim
  | cons q bd =>
   cases q with
   | v k x=>simp[mo,eR]at ho
   | a e' xs =>
    obtain⟨rfl,Es⟩:=I
    simp only[mo,eR,Bool.true_and]at ho
    obtain⟨g1,g2,g3⟩:=UF (st0:=st0) h1 Es ho
    refine⟨by simp[jB,g1],λb I => ?_,λi k hk => ?_⟩
    ·cases b with
     | zero=>simp[fj,jB,jv,zkV,lq]
     | succ b=>have:=g2 b (by simpa[rowAt]using I); simpa[fj,jB,jv,lq]using this
    ·cases i with
     | zero=>simp at hk; subst hk; exact⟨_,_,rfl,rfl,.arr e' e xs⟩
     | succ i=>simpa[jB]using g3 i k (by simpa using hk)
 | .var k0::r,b::blocks,bl,bd,h,I,ho=>by
  simp only[Hh,T.xg]at h
  obtain⟨l,h1,rfl⟩:=h
  cases bd with
  | nil=>exact I.elim
  | cons q bd =>
   cases q with
   | a e' xs=>simp[mo,eR]at ho
   | v k x =>
    obtain⟨⟨d,rfl,hp,J⟩,Es⟩:=I
    simp only[mo,eR,Bool.not_false,Bool.true_and]at ho
    obtain⟨g1,g2,g3⟩:=UF (st0:=st0) h1 Es ho
    refine⟨by simp[jB,g1],λb I => ?_,λi k hk => ?_⟩
    ·cases b with
     | zero=>simp[rowAt]at I
     | succ b=>have:=g2 b (by simpa[rowAt]using I); simpa[fj,jB,jv,lq]using this
    ·cases i with
     | zero=>simp at hk; subst hk; exact⟨_,_,rfl,rfl,.var k k0 d x hp J⟩
     | succ i=>simpa[jB]using g3 i k (by simpa using hk)
 | .cvar ck::r,b::blocks,bl,bd,h,I,ho=>by
  cases b with
  | var d =>
   simp only[Hh,T.xg]at h
   obtain⟨⟨⟩,h0,h1⟩:=h
   have ho':eR r (mo bd)=true:=by cases bd<;>simpa[eR]using ho
   obtain⟨g1,g2,g3⟩:=UF (st0:=st0) h1 I ho'
   have e1:jB st0 (.cvar ck::r) bd=.var (F2 st0 ck)::jB st0 r bd:=by cases bd<;>rfl
   have e0:fj (.cvar ck::r) bd=.dead::fj r bd:=by cases bd<;>rfl
   rw[e0,e1]
   refine⟨by simp[g1],λb I => ?_,λi k hk => ?_⟩
   ·cases b with
    | zero=>simp[rowAt]at I
    | succ b=>have:=g2 b (by simpa[rowAt]using I); simpa[jv,lq]using this
   ·cases i with
    | zero=>simp at hk; subst hk; exact⟨_,_,rfl,rfl,.cvar ck d h0⟩
    | succ i=>grind
  | _=>exact h.elim
 | .dead::r,b::blocks,bl,bd,h,I,ho=>by
  simp only[Hh]at h
  cases hv:L4 b with
  | true=>rw[hv]at h; exact h.elim
  | false =>
   rw[hv,cond_false]at h
   have ho':eR r (mo bd)=true:=by cases bd<;>simpa[eR]using ho
   obtain⟨g1,g2,g3⟩:=UF (st0:=st0) h I ho'
   have e1:jB st0 (.dead::r) bd=.dead::jB st0 r bd:=by cases bd<;>rfl
   have e0:fj (.dead::r) bd=.dead::fj r bd:=by cases bd<;>rfl
   rw[e0,e1]
   refine⟨by simp[g1],λb I => ?_,λi k hk => ?_⟩
   ·cases b with
    | zero=>simp[rowAt]at I
    | succ b=>have:=g2 b (by simpa[rowAt]using I); simpa[jv,lq]using this
   ·cases i with
    | zero=>simp at hk; subst hk; exact⟨_,_,rfl,rfl,.dead b hv⟩
    | succ i=>grind
inductive Refs(m:Nat):D->Prop
 | qi (τ:Ty) (x:AM.den τ):Refs m (.qi τ x)
 | tight (e:Ty) (l:List (AM.den e)) (ne:Bool):Refs m (.tight e l ne)
 | sj (e:Ty) (l:List (AM.den e)) (b:Bool):Refs m (.sj e l b)
 | wE:Refs m .wE
 | gS:Refs m .gS
 | v8:Refs m .v8
 | yZ:Refs m .yZ
 | uS:Refs m .uS
 | WG:Refs m .WG
 | mM (T:Nat):Refs m (.mM T)
 | dZ (b T:Nat) (h:b<m):Refs m (.dZ b T)
 | yJ (b:Nat) (h:b<m):Refs m (.yJ b)
 | ptr (b off:Nat) (h:b<m):Refs m (.ptr b off)
 | vz (τ:Ty) (x:AM.den τ):Refs m (.vz τ x)
 | gD (b vi:Nat) (e:Ty) (idx off:Nat) (h:b<m):Refs m (.gD b vi e idx off)
 | ms (b vi:Nat) (e:Ty) (off len:Nat) (h:b<m):Refs m (.ms b vi e off len)
 | wg (f:Nat) (l:List D) (h:∀ i (hi:i<l.length),Refs m l[i]):Refs m (.wg f l)
 | agg (l:List D) (h:∀ i (hi:i<l.length),Refs m l[i]):Refs m (.agg l)
 | eA (l:List D) (h:∀ i (hi:i<l.length),Refs m l[i]):Refs m (.eA l)
 | iface (t:Nat) (d:D) (h:Refs m d):Refs m (.iface t d)
theorem Refs.mono{m m':Nat}(hm:m<=m'){d:D}(h:Refs m d):Refs m' d:=by
 induction h with
 | ptr b off h=>exact .ptr b off (Z)
 | dZ b T h=>exact .dZ b T (Z)
 | yJ b h=>exact .yJ b (Z)
 | gD b vi e idx off h=>exact .gD b vi e idx off (Z)
 | ms b vi e off len h=>exact .ms b vi e off len (Z)
 | wg f l h ih=>exact .wg f l ih
 | agg l h ih=>exact .agg l ih
 | eA l h ih=>exact .eA l ih
 | iface t d h ih=>exact .iface t d ih
 | _=>constructor
theorem z8B{O:KS}{m:Nat}{d:D}{v:Value}(h:RD O d v)(hr:Refs m d):RD (O.cut m) d v:=by
 induction h with
 | qi τ y cs h=>exact .qi τ y cs h
 | sj e l b v h ht hf=>exact .sj e l b v h ht hf
 | vy e a=>exact .vy e a
 | tight e l ne blk off f jX uZ h hc=>exact .tight e l ne blk off f jX uZ h hc
 | wE=>exact .wE
 | gS=>exact .gS
 | v8=>exact .v8
 | yZ=>exact .yZ
 | uS=>exact .uS
 | WG v h=>exact .WG v h
 | mM T=>exact .mM T
 | nh b T d I=>cases hr with | dZ _ _ wL=>exact mH (.nh b T d I) (by simp only[y6,zO,zU]; exact wL)
 | yJ b blk n d I h=>cases hr with | yJ _ wL=>exact mH (.yJ b blk n d I h) (by simp only[y6,zO,zU]; exact wL)
 | ni b T blk n d I h=>cases hr with | dZ _ _ wL=>exact mH (.ni b T blk n d I h) (by simp only[y6,zO,zU]; exact wL)
 | ptr b off blk n d I h=>cases hr with | ptr _ _ wL=>exact mH (.ptr b off blk n d I h) (by simp only[y6,zO,zU]; exact wL)
 | vz τ y cs blk off uZ h hc=>exact .vz τ y cs blk off uZ h hc
 | gD b vi e idx off blk o I h=>cases hr with | gD _ _ _ _ _ wL=>exact mH (.gD b vi e idx off blk o I h) (by simp only[y6,zO,zU]; exact wL)
 | ms b vi e off len cap a I jf ha Wq h=>cases hr with | ms _ _ _ _ _ wL=>exact mH (.ms b vi e off len cap a I jf ha Wq h) (by simp only[y6,zO,zU]; exact wL)
 | wg f l vs R h ih=>cases hr with | wg _ _ hh=>exact .wg f l vs R λi h1 M=>ih i h1 M (hh i h1)
 | agg l vs R ho h ih=>cases hr with | agg _ hh=>exact .agg l vs R ho λi h1 M=>ih i h1 M (hh i h1)
 | eA l vs R h ih=>cases hr with | eA _ hh=>exact .eA l vs R λi h1 M=>ih i h1 M (hh i h1)
 | iface t d v h ih=>cases hr with | iface _ _ hh=>exact .iface t d v (ih hh)
theorem Y0{a b:Nat}(h:a<b):zO a b=true:=by
 simp; exact h
theorem TQ{O κe:KS}{m:Nat}(N:Ext O κe)(hm:O.st.length<=m):Ext O (κe.cut m):=by
 have wL:∀ b x,O.st[b]? = some x->b<m:=λb x h=>Nat.lt_of_lt_of_le (Y.1 h).1 hm
 have GI:∀ b,b<m->(κe.cut m).ph[b]? = κe.ph[b]? := λb I=>by simp only[KS.cut]; rw[List.getElem?_take,if_pos I]
 refine⟨N.os,N.tape,N.output,N.size,N.same,N.fresh,λb blk n h=>N.phs b blk n (iX h).1,λb d h => ?_,λb v0 e xs h => ?_,λb h=>xr (N.dead b h) (wL b _ h),?_,N.frame⟩
 ·obtain⟨⟨d',h1⟩,M⟩:=N.var b d h
  exact⟨⟨d',xr h1 (wL b _ h)⟩,(GI b (wL b _ h)).trans M⟩
 ·rcases N.arr b v0 e xs h with h1 | ⟨v1,x1,h1,M,h3⟩
  ·exact .inl (xr h1 (wL b _ h))
  ·exact .inr ⟨v1,x1,xr h1 (wL b _ h),M,λhe=>⟨(GI b (wL b _ h)).trans (h3 he).1,(h3 he).2⟩⟩
 ·have:=N.Fv
  simp[KS.cut]; omega
theorem um.K2{κ0 O:KS}{fr:Fr}{a:Act}{sh:um}{x:sh.den}(N:Ext κ0 O)(B:Inv O)(hR:Rel O n fr.get a)(R:κ0.st.length<=sh.bs.length)(h:(sh.un fr O.st).leads x) :
  ∃ E:KS,E.w=O.w/\E.st=sh.st x/\Inv E/\Ext κ0 E/\Rel E n (sh.fr x).get a/\∀ (d:D) (v:Value),Refs sh.bs.length d->RD O d v->RD E d v:=by
 unfold um.un at h
 cases hc:sh.ok&&(O.st.take sh.bs.length).all (C3 sh.bs.length)with
 | false=>rw[hc]at h; exact h.elim
 | true =>
  rw[hc,cond_true]at h
  simp only[X,um.ok,zP]at hc
  obtain⟨⟨⟨⟨zns,zfP⟩,Qz⟩,hbs⟩,Ku⟩:=hc
  obtain⟨⟨⟩,h1,h⟩:=T.zd.1 h
  obtain⟨bl,M,h3⟩:=T.zd.1 h
  have hIc:=z5b B Ku
  -- the store cut
  let m:=sh.bs.length
  obtain⟨g1,g2⟩:=UH (p:=Fb sh.bs) (ql:=sh.st x) sh.ff bl x (λk hk=>zfP _ hk) h3
  obtain⟨k1,k2,k3⟩:=UF (st0:=fj sh.bs (tY sh.ff x)) M g1 ((congrArg (eR sh.bs) (ZO sh.ff x)).trans zns)
  have vU:sh.st x=jB (fj sh.bs (tY sh.ff x)) sh.bs (tY sh.ff x):=rfl
  rw[<- vU]at k1 k2 k3
  let E:KS:={ O.cut m with st:=sh.st x }
  have hm:m<=O.st.length:=by
   rcases Nat.eq_zero_or_pos m with h0 | h0
   ·omega
   ·obtain⟨hI,B',q1,_⟩:=k3 (m-1) (sh.bs[m-1]'(by show m-1<m; omega)) (qz)
    grind
  have zmU:∀ i hI,O.st[i]? = some hI->i<m->(O.cut m).st[i]? = some hI:=λi hI hB hi=>xr hB hi
  have RG:(O.cut m).st.length=m:=by simp[KS.cut]; omega
  have pair:∀ i,i<m->∃ k hI B',sh.bs[i]? = some k/\(O.cut m).st[i]? = some hI/\E.st[i]? = some B'/\Hk (Fb sh.bs) O.st (fj sh.bs (tY sh.ff x)) k hI B':=by
   intro i hi
   obtain⟨hI,B',q1,q2,q3⟩:=k3 i (sh.bs[i]'hi) (qz)
   grind
  have lt:∀ {i:Nat} {hI:cG},(O.cut m).st[i]? = some hI->i<m:=λhB=>by have:=(Y.1 hB).1; omega
  have lt':∀ {i:Nat} {hI:cG},E.st[i]? = some hI->i<m:=λhB=>by have:=(Y.1 hB).1; have e:E.st.length=m:=k1; omega
  have hw:Wk (O.cut m) E:=by
   refine⟨rfl,rfl,rfl,by show(sh.st x).length=_; rw[k1,RG],λb d I => ?_,λb v e xs I => ?_,λb v e xs I => ?_,λb I => ?_⟩
   ·obtain⟨k,hI,B',q0,q1,q2,q3⟩:=pair b (lt I)
    rw[I]at q1; cases q1
    cases q3 with
    | var k' _ _ y _ hy=>grind
    | cvar ck _ hy=>grind
    | dead _ hv=>cases hv
   ·obtain⟨k,hI,B',q0,q1,q2,q3⟩:=pair b (lt I)
    rw[I]at q1; cases q1
    cases q3 with
    | arr=>grind
    | dead=>grind
   ·obtain⟨k,hI,B',q0,q1,q2,q3⟩:=pair b (lt' I)
    rw[I]at q2; cases q2
    cases q3 with
    | arr=>exact q1
   ·obtain⟨k,hI,B',q0,q1,q2,q3⟩:=pair b (lt I)
    rw[I]at q1; cases q1
    cases q3 with
    | dead=>exact q2
  have Cs:∀ b,rowAt sh.bs b=true->jv E.st b=lq O.st b/\jv (fj sh.bs (tY sh.ff x)) b=lq O.st b/\jv O.st b=lq O.st b :=
   λb I=>⟨(k2 b I).2.1,(k2 b I).1,(k2 b I).2.2⟩
  have zlb:∀ b,rowAt sh.bs b=true->jv (O.cut m).st b=jv O.st b:=by
   intro b I
   have hbm:b<m:=by
    unfold rowAt at I
    split at I
    ·rename_i hh; exact(Y.1 hh).1
    ·cases I
   unfold jv
   simp only[KS.cut]
   rw[List.getElem?_take,if_pos hbm]
  have hbm:∀ b,rowAt sh.bs b=true->b<m:=by
   intro b I
   unfold rowAt at I
   split at I
   ·rename_i hh; exact(Y.1 hh).1
   ·cases I
  have RE:∀ b,UL sh.bs b=true->b<m:=by
   intro b I
   unfold UL at I
   split at I
   ·rename_i hh; exact(Y.1 hh).1
   ·rename_i hh; exact(Y.1 hh).1
   ·cases I
  have dk:∀ (k:Dk) (y:k.den) (d:D) (v:Value) (ql:St),Fb sh.bs k=true->(∀ b,rowAt sh.bs b=true->jv ql b=lq O.st b)->(Qy O.st k d).leads y->RD O d v->RD E (Qw ql k y) v:=by
   intro k y d v ql ho hv hy J
   have hwk:Wk O O:=⟨rfl,rfl,rfl,rfl,λb d h=>⟨d,h⟩,λb v e xs h=>.inl h,λb v e xs h=>h,λb h=>h⟩
   have h0:=Db hwk ho (λ_ _=>rfl) (ql:=O.st) (λ_ _=>rfl) (λb I=>(Cs b I).2.2) hy J
   have zmS:fE m (Qw O.st k y)=true:=by
    cases k with
    | sub b e=>exact Y0 (hbm b ho)
    | wg f caps =>
     have:∀ (l:List UQ) (z:fI l),(ZP l z).all (y6 m)=true:=by
      intro l
      induction l with
      | nil=>intro z; rfl
      | cons p r ih =>
       intro z
       have hp:∀ w:AM.den p.ty,y6 m (Be p w)=true:=λw=>by cases p<;>rfl
       cases r with
       | nil=>simp only[ZP,zF,List.all_nil,Bool.and_true]; exact hp z
       | cons q r=>simp only[ZP,zF,X]; exact⟨hp z.1,by simpa using ih z.2⟩
     exact this caps y
    | st ks=>exact zP.2 (bU hbm RE ks y ho)
    | mclo f ms=>exact zP.2 (oB RE ms y ho)
    | _=>rfl
   have h1:=hw.rd (Lv h0 zmS)
   have he:Qw O.st k y=Qw ql k y:=by
    cases k with
    | sub b e=>simp only[Qw]; rw[hv b ho,(Cs b ho).2.2]
    | st ks=>simp only[Qw]; rw[tZ (λb I=>(Cs b I).2.2.trans (hv b I).symm) ks y ho]
    | _=>rfl
   rwa [he]at h1
  have ck:∀ (q:Ck) (d:D) (v:Value) (ql:St),Sx sh.bs q=true->(∀ b,rowAt sh.bs b=true->jv ql b=lq O.st b)->(UG O.st q d).leads ()->F2 ql q=d/\(RD O d v->RD E d v):=by
   intro q d v ql ho hv hy
   have he:=z8Q ho hv hy
   refine⟨he,λJ=>hw.rd (Lv J ?_)⟩
   rw[<- he]
   cases q with
   | ptr b off=>exact Y0 (RE b ho)
   | cur b e=>exact Y0 (hbm b ho)
   | wE=>rfl
   | gS=>rfl
   | v8=>rfl
   | uS=>rfl
   | yJ b=>exact Y0 (RE b ho)
   | wg f l =>
    simp only[Sx,zP]at ho
    simp only[F2,fE,zP,List.mem_map]
    rintro _ ⟨p,hp,rfl⟩
    exact Y0 (RE p.1 (ho p hp))
  have hI':Inv E:=by
   refine hw.inv hIc λb d' I => ?_
   obtain⟨k,hI,B',q0,q1,q2,q3⟩:=pair b (lt' I)
   rw[I]at q2
   cases q2
   cases q3 with
   | var kk k' d y hp hy =>
    refine kO.elim (hIc.blk b _ q1:kO _ _ _) (λKc ep => ?_) λl e zfY => ?_
    rotate_left
    ·subst e
     cases kk with
     | mp=>cases hy; obtain⟨blk,o,e1,e2⟩:=zfY; exact⟨blk,o,e1,e2⟩
     | qi τ=>simp[Qy,oo]at hy; exact hy.elim
     | vz τ=>exact hy.elim
     | sub b e=>exact hy.elim
     | wg f caps=>exact hy.elim
     | st ks=>exact hy.elim
     | mclo f ms=>exact hy.elim
     | sj e=>exact hy.elim
     | tight e=>exact hy.elim
    obtain⟨blk,n',cs,t,e1,e2,e3,e4,e5⟩:=ep
    cases kk with
    | qi τ =>
     have hco:oo τ d=some y:=T.yp.1 hy
     have ht:d.bu=false:=by
      cases d with
      | eA l=>simp[oo,D.bu]at hco
      | _=>rfl
     have Dt:=Xm hco e4 e5.1 ht
     exact kO.mk (O:=E) (b:=b) (d:=.qi τ y) rfl ⟨blk,n',cs,t,e1,e2,e3,(QY Dt).mono hw.ext,rb τ y,nofun⟩
    | vz τ =>
     cases d<;>simp only[Qy]at hy<;>try (exact hy.elim)
     obtain⟨e,hyy⟩:=we (T.yp.1 hy)
     cases e
     cases hyy
     exact kO.mk (O:=E) (b:=b) (d:=.vz τ _) rfl ⟨blk,n',cs,t,e1,e2,e3,e4.mono hw.ext,e5.1,nofun⟩
    | st ks =>
     simp only[Qy]at hy
     cases ha:d.cA with
     | false=>rw[ha]at hy; exact hy.elim
     | true =>
      rw[ha]at hy
      replace hy:(oe O.st ks (xx d)).leads y:=hy
      have zrv:b<m:=lt' I
      have SZ:O.st[b]? = some (.var d):=(iX q1).1
      obtain⟨zlL,n2,cs2,t2,f1,f2,f3,f4,f5⟩:=(B.blk b _ SZ:kO O b d).cells Kc
      have hp1:=(iX e1).1
      rw[f1]at hp1
      cases hp1
      have e2':=e2
      rw[show(O.cut m).w=O.w from rfl,f2]at e2
      cases e2
      obtain⟨g1,g2⟩:=ml (O:=O) (ql:=fj sh.bs (tY sh.ff x)) (bs:=sh.bs) (λb I=>(Cs b I).2.1) ks (xx d) y _ hp.2 hy f4
      refine kO.mk (O:=E) (b:=b) (d:=.agg (je (fj sh.bs (tY sh.ff x)) ks y)) rfl ⟨blk,n',cs,t,e1,e2',e3,(Pf g1 λz hz => ?_).mono hw.ext,g2,λT hT => ?_⟩
      rotate_left
      ·exact f5.2 T (JZ ha (JK ks (xx d) y hy hT))
      have:=bU (m:=m) hbm RE ks y hp.2 z hz
      cases z<;>first | exact this | cases this
    | mp=>cases d<;>first | exact hy.elim | cases Kc
    | _=>cases hp.1
   | cvar q d hy =>
    have hoq:Sx sh.bs q=true:=hbs _ (List.mem_of_getElem? q0)
    obtain⟨g,_⟩:=ck q d undef (fj sh.bs (tY sh.ff x)) hoq (λb I=>(Cs b I).2.1) hy
    rw[g]
    refine kO.elim (hIc.blk b _ q1:kO _ _ _) (λKc ⟨blk,n',cs,t,e1,e2,e3,e4,e5⟩=>.mk Kc ⟨blk,n',cs,t,e1,e2,e3,e4.mono hw.ext,e5⟩) λl e ⟨blk,o,e1,e2⟩ => ?_
    subst e
    exact⟨blk,o,e1,e2⟩
  refine⟨E,rfl,rfl,hI',?_,⟨hR.size,hR.defers,λs d J => ?_⟩,λd v hr J=>hw.rd (z8B J hr)⟩
  ·have wL:κ0.st.length<=m:=R
   have c1:=TQ N wL
   exact c1.trans hw.ext
  ·rcases get_append (l:=nc (sh.st x) sh.ff x) (m:=z83 (sh.st x) sh.cs) J with hp | hp0
   ·obtain⟨k,y,d0,q0,q1,q2,q3⟩:=g2 _ hp
    cases q3
    obtain⟨v,r1,r2⟩:=hR.get _ _ q1
    exact⟨v,r1,dk k y d0 v (sh.st x) (zfP _ q0) (λb I=>(Cs b I).1) q2 r2⟩
   ·have H0:=get_mem hp0
    unfold z83 at H0
    obtain⟨p,hp,he⟩:=List.mem_map.1 H0
    cases he
    obtain⟨d0,q1,q2⟩:=FB h1 p hp
    obtain⟨v,r1,r2⟩:=hR.get _ _ q1
    obtain⟨g,gg⟩:=ck p.2 d0 v (sh.st x) (Qz p hp) (λb I=>(Cs b I).1) q2
    rw[g]
    exact⟨v,r1,gg r2⟩
end
end Go.AM
namespace Go.AM
set_option linter.unusedSectionVars false
variable [yV] [Hl]
open Go.RowKit
inductive Gh where
 | slot (s:Nat) (e:Ty) | cell (b i:Nat) (e:Ty) | pcell (s i:Nat) (e:Ty)
def KB(st:St)(b i:Nat):Option (List D):=match st[b]? with
 | some (.var d)=>bif d.cA then match(xx d)[i]? with | some .wE=>some (xx d) | _=>none else none
 | _=>none
def gh:List Gh->Fr->St->Fr×St
 | [],fr,st=>(fr,st)
 | .slot s e::r,fr,st=>match fr.get s with
  | some .wE=>bif zO 0 e.size then gh r ((s,some (.ms st.length 0 e 0 0))::fr) (st++[.arr 0 e []])else gh r fr st
  | _=>gh r fr st
 | .cell b i e::r,fr,st=>match KB st b i with
  | some l=>bif zO 0 e.size then gh r fr ((st++[cG.arr 0 e []]).set b (.var (.agg (l.set i (.ms st.length 0 e 0 0)))))else gh r fr st
  | none=>gh r fr st
 | .pcell t i e::r,fr,st=>match fr.get t with
  | some (.ptr b _)=>match KB st b i with
   | some l=>bif zO 0 e.size then gh r fr ((st++[cG.arr 0 e []]).set b (.var (.agg (l.set i (.ms st.length 0 e 0 0)))))else gh r fr st
   | none=>gh r fr st
  | _=>gh r fr st
section
variable {c:Ctx} {O:KS}
def KS.yK(O:KS)(e:Ty):KS:={ O with ph:=O.ph++[none],st:=O.st++[.arr 0 e []] }
theorem rI(B:Inv O)(e:Ty):Ext O (O.yK e):=by
 have vU:∀ b y,O.st[b]? = some y->(O.st++[.arr 0 e []])[b]? = some y:=λb y h=>by rw[zK (Y.1 h).1]; exact h
 have GI:∀ b y,O.st[b]? = some y->(O.ph++[none])[b]? = O.ph[b]? := λb y h=>by
  rw[zK]; rw[B.len]; exact(Y.1 h).1
 refine⟨rfl,rfl,rfl,zJ _,λk hk=>⟨hk,rfl⟩,λk hk=>.inl hk,?_,λb d h=>⟨⟨d,vU b _ h⟩,GI b _ h⟩,
  λb v0 e xs h=>.inr ⟨v0,xs,vU b _ h,zJ _,λ_=>⟨GI b _ h,rfl⟩⟩,λb h=>vU b _ h,by simp[KS.yK],λk hk _=>rfl⟩
 intro b blk m h
 simp only[KS.yK]at h
 grind
theorem Vd(B:Inv O){e:Ty}(he:0<e.size):Inv (O.yK e):=by
 have hold:∀ (b blk m:Nat),(O.ph++[none])[b]? = some (some (blk,m))->O.ph[b]? = some (some (blk,m)):=by
  grind
 refine⟨by simp[KS.yK,B.len],B.bI,λb blk m h=>B.apart b blk m (hold b blk m h),λb b' blk m m' h h'=>B.inj b b' blk m m' (hold _ _ _ h) (hold _ _ _ h'),?_,B.gl⟩
 intro b y hy
 simp only[KS.yK]at hy
 by_cases I:b<O.st.length
 ·rw[zK I]at hy
  exact(B.blk b y hy).mono (rI B e) (by show(O.ph++[none])[b]? = O.ph[b]?; rw[zK (by rw[B.len]; exact I)]) λblk n h=>rfl
 ·have Kb:=(Y.1 hy).1
  simp at Kb
  have:b=O.st.length:=Z
  subst this
  simp at hy
  subst hy
  exact⟨he,.inl ⟨rfl,by simp[KS.yK,<- B.len]⟩⟩
theorem LS{l:List D}{i b v len off:Nat}{e:Ty}{tt:Nat}(h:(D.agg (l.set i (.ms b v e off len))).typed=some tt):iY l=some tt:=by
 cases l with
 | nil=>exact h
 | cons x r=>cases i with
  | zero=>cases h
  | succ i=>cases x<;>exact h
theorem z8D{O κ2:KS}{l:List D}{vs:List Value}{i:Nat}{d':D}(h:wN O l vs)(hw:∀ d v,RD O d v->RD κ2 d v)(hi:∀ v,vs[i]? = some v->RD κ2 d' v):wN κ2 (l.set i d') vs:=by
 refine⟨by rw[List.length_set]; exact h.1,λk h1 M => ?_⟩
 rw[List.getElem_set]
 split
 ·grind
 ·exact hw _ _ (h.2 k (xy) M)
theorem Mx(B:Inv O){e:Ty}(he:0<e.size){b i:Nat}{l:List D}(h:KB O.st b i=some l) :
  ∃ E:KS,E.w=O.w/\E.st=(O.st++[cG.arr 0 e []]).set b (.var (.agg (l.set i (.ms O.st.length 0 e 0 0))))/\Inv E/\Ext O E:=by
 unfold KB at h
 split at h
 ·rename_i d J
  cases ha:d.cA with
  | false=>grind
  | true =>
   rw[ha,cond_true]at h
   split at h
   ·rename_i hi
    cases h
    have N:=rI B e
    have Vw:=Vd B he
    have zru:b<O.st.length:=(Y.1 J).1
    let κ2:KS:={ O.yK e with st:=(O.yK e).st.set b (.var (.agg ((xx d).set i (.ms O.st.length 0 e 0 0)))) }
    have FT:(O.yK e).st[b]? = some (.var d):=by
     show(O.st++[_])[b]? = _
     grind
    have jX:∀ j,j≠b->κ2.st[j]? = (O.yK e).st[j]? := λj hj=>by
     grind
    have zgh:κ2.st[b]? = some (.var (.agg ((xx d).set i (.ms O.st.length 0 e 0 0)))):=by
     grind
    have hw:Wk (O.yK e) κ2:=by
     refine⟨rfl,rfl,rfl,by simp[κ2],λj d' hj => ?_,λj v e' xs hj => ?_,λj v e' xs hj => ?_,λj hj => ?_⟩
     ·grind
     ·grind
     ·grind
     ·by_cases c:j=b
      ·subst c; rw[FT]at hj; cases hj
      ·rw[jX j c]; exact hj
    have H2:κ2.st[O.st.length]? = some (.arr 0 e []):=by
     rw[jX _ (Z)]
     simp[KS.yK]
    have hI2:Inv κ2:=by
     refine hw.inv Vw λj d' hj => ?_
     by_cases c:j=b
     ·subst c
      rw[zgh]at hj
      cases hj
      obtain⟨blk,m,cs,t,q1,q2,q3,q4,q5⟩:=(Vw.blk j _ FT:kO _ _ _).cells (by cases d<;>first | rfl | cases ha)
      refine kO.mk (O:=κ2) (b:=j) (d:=.agg ((xx d).set i (.ms O.st.length 0 e 0 0))) rfl ⟨blk,m,cs,t,q1,q2,q3,z8D q4 (λ_ _ h=>hw.rd h) λv hv => ?_,λx hxm => ?_,λT hT => ?_⟩
      ·obtain⟨v',h1,M⟩:=q4.get hi
       rw[hv]at h1
       cases h1
       cases M
       refine .ms O.st.length 0 e 0 0 0 none (.inr ⟨0,e,[],H2,zJ _⟩) (zJ _) (λ_=>rfl) nofun λxs Yl => ?_
       rw[H2]at Yl
       cases Yl
       exact⟨zJ _,.inl ⟨rfl,rfl,rfl,by show(O.ph++[none])[O.st.length]? = _; simp[<- B.len]⟩⟩
      ·rcases List.mem_or_eq_of_mem_set (show x∈(xx d).set i (.ms O.st.length 0 e 0 0)from hxm)with h' | h'
       ·exact q5.1 x h'
       ·subst h'; rfl
      ·exact q5.2 T (JZ ha (LS hT))
     ·rw[jX j c]at hj
      exact(Vw.blk j _ hj).mono hw.ext rfl λ_ _ _=>rfl
    exact⟨κ2,rfl,rfl,hI2,N.trans hw.ext⟩
   ·cases h
 ·cases h
theorem sF{n:Nat}{a:Act}:∀ (l:List Gh) (fr:Fr) (O:KS),Inv O->Rel O n fr.get a->∃ E:KS,E.w=O.w/\E.st=(gh l fr O.st).2/\Inv E/\Ext O E/\Rel E n (gh l fr O.st).1.get a
 | [],fr,O,B,hR=>⟨O,rfl,rfl,B,Ext.refl O,hR⟩
 | .slot s e::r,fr,O,B,hR=>by
  unfold gh
  split
  ·rename_i hs
   cases he:zO 0 e.size with
   | false=>rw[cond_false]; exact sF r fr O B hR
   | true =>
    rw[cond_true]
    have IP:0<e.size:=zE he
    have N:=rI B e
    have hR':Rel (O.yK e) n (Fr.get ((s,some (.ms O.st.length 0 e 0 0))::fr)) a:=by
     refine⟨hR.size,hR.defers,λt d J => ?_⟩
     simp only[Fr.get]at J
     cases ht:V s t with
     | true =>
      rw[ht,cond_true]at J
      cases J
      have:=zA ht
      subst this
      obtain⟨v,h1,M⟩:=hR.get s _ hs
      cases M
      have H2:(O.yK e).st[O.st.length]? = some (.arr 0 e []):=by simp[KS.yK]
      refine⟨_,h1,.ms O.st.length 0 e 0 0 0 none (.inr ⟨0,e,[],H2,zJ _⟩) (zJ _) (λ_=>rfl) nofun λxs Yl => ?_⟩
      rw[H2]at Yl
      cases Yl
      exact⟨zJ _,.inl ⟨rfl,rfl,rfl,by simp[KS.yK,<- B.len]⟩⟩
     | false =>
      rw[ht,cond_false]at J
      obtain⟨v,h1,M⟩:=hR.get t d J
      exact⟨v,h1,M.mono N⟩
    obtain⟨E,h1,M,h3,h4,h5⟩:=sF r _ (O.yK e) (Vd B IP) hR'
    exact⟨E,h1,M,h3,N.trans h4,h5⟩
  ·exact sF r fr O B hR
 | .cell b i e::r,fr,O,B,hR=>by
  unfold gh
  split
  ·rename_i l R
   cases he:zO 0 e.size with
   | false=>rw[cond_false]; exact sF r fr O B hR
   | true =>
    rw[cond_true]
    have IP:0<e.size:=zE he
    obtain⟨κ1,g1,g2,g3,g4⟩:=Mx B IP R
    obtain⟨E,h1,M,h3,h4,h5⟩:=sF r fr κ1 g3 ⟨hR.size,hR.defers,λt d J=>by
     obtain⟨v,q1,q2⟩:=hR.get t d J
     exact⟨v,q1,q2.mono g4⟩⟩
    rw[g2]at M h5
    exact⟨E,h1.trans g1,M,h3,g4.trans h4,h5⟩
  ·exact sF r fr O B hR
 | .pcell t i e::r,fr,O,B,hR=>by
  unfold gh
  split
  ·rename_i b off I
   split
   ·rename_i l R
    cases he:zO 0 e.size with
    | false=>rw[cond_false]; exact sF r fr O B hR
    | true =>
     have IP:0<e.size:=zE he
     obtain⟨κ1,g1,g2,g3,g4⟩:=Mx B IP R
     obtain⟨E,h1,M,h3,h4,h5⟩:=sF r fr κ1 g3 ⟨hR.size,hR.defers,λt d J=>by
      obtain⟨v,q1,q2⟩:=hR.get t d J
      exact⟨v,q1,q2.mono g4⟩⟩
     rw[g2]at M h5
     exact⟨E,h1.trans g1,M,h3,g4.trans h4,h5⟩
   ·exact sF r fr O B hR
  ·exact sF r fr O B hR
end
end Go.AM
namespace Go.AM
def Q5(f:Nat->Option Nat)(d:D):Option D:=match d with
 | .ptr b off=>match f b with | some b'=>some (.ptr b' off) | none=>none
 | .dZ b T=>match f b with | some b'=>some (.dZ b' T) | none=>none
 | .yJ b=>match f b with | some b'=>some (.yJ b') | none=>none
 | .gD b v e i off=>match f b with | some b'=>some (.gD b' v e i off) | none=>none
 | .ms b v e off len=>match f b with | some b'=>some (.ms b' v e off len) | none=>none
 | .wg _ _=>none
 | .agg _=>none
 | .eA _=>none
 | .iface _ _=>none
 | d=>some d
def Fm(f:Nat->Option Nat):List D->Option (List D)
 | []=>some []
 | d::r=>match Q5 f d with
  | some d'=>match Fm f r with | some r'=>some (d'::r') | none=>none
  | none=>none
def rN(f:Nat->Option Nat)(d:D):Option D:=match d with
 | .wg g l=>match Fm f l with | some l'=>some (.wg g l') | none=>none
 | .agg l=>match Fm f l with | some l'=>some (.agg l') | none=>none
 | d=>Q5 f d
def Xn(f:Nat->Option Nat):List D->Option (List D)
 | []=>some []
 | d::r=>match rN f d with
  | some d'=>match Xn f r with | some r'=>some (d'::r') | none=>none
  | none=>none
def Vj(f:Nat->Option Nat):cG->Option cG
 | .var d=>match rN f d with | some d'=>some (.var d') | none=>none
 | .arr v e xs=>some (.arr v e xs)
 | .dead=>some .dead
def od(f:Nat->Option Nat):List cG->Option (List cG)
 | []=>some []
 | b::r=>match Vj f b with
  | some b'=>match od f r with | some r'=>some (b'::r') | none=>none
  | none=>none
def Wz(f:Nat->Option Nat):Fr->Fr
 | []=>[]
 | (s,some d)::r=>(s,rN f d)::Wz f r
 | (s,none)::r=>(s,none)::Wz f r
structure Tr(O E:KS)(f:Nat->Option Nat):Prop where
 w:E.w=O.w
 ok:E.ok=O.ok
 var:∀ (b b':Nat) (d:D),f b=some b'->O.st[b]? = some (.var d)->(∃ d',E.st[b']? = some (.var d'))/\E.ph[b']? = O.ph[b]?
 old:∀ (b b' vi:Nat),f b=some b'->Old O.st b vi->Old E.st b' vi
 row:∀ (b b' v:Nat) (e:Ty) (xs:List (den e)),f b=some b'->E.st[b']? = some (.arr v e xs)->O.st[b]? = some (.arr v e xs)/\E.ph[b']? = O.ph[b]?
section
variable {O E:KS} {f:Nat->Option Nat}
theorem Tr.same(h:Tr O E f):I4 O.w E.w O.ok E.ok:=λk hk=>⟨by rw[h.ok]; exact hk,by rw[h.w]⟩
theorem Tr.rd1(h:Tr O E f){d d':D}{v:Value}(J:RD O d v)(hr:Q5 f d=some d'):RD E d' v:=by
 cases J with
 | qi τ y cs hc=>cases hr; exact .qi τ y cs (hc.mono h.same)
 | sj e l b v hc ht hf=>cases hr; exact .sj e l b v (hc.mono h.same) ht hf
 | vy e a=>cases hr; exact .vy e a
 | tight e l ne blk off g jX uZ hh hc=>cases hr; exact .tight e l ne blk off g jX (h.same _ uZ).1 (λi hi=>(hh i hi).mono h.same) λi hi j v hv=>by rw[lH (h.same _ uZ).2]; exact hc i hi j v hv
 | wE=>cases hr; exact .wE
 | gS=>cases hr; exact .gS
 | v8=>cases hr; exact .v8
 | yZ=>cases hr; exact .yZ
 | uS=>cases hr; exact .uS
 | WG v h=>cases hr; exact .WG v h
 | mM T=>cases hr; exact .mM T
 | nh b T d I =>
  simp only[Q5]at hr
  split at hr
  ·rename_i b' hf
   cases hr
   obtain⟨⟨d',h1⟩,M⟩:=h.var b b' d hf I
   exact .nh b' T d' h1
  ·cases hr
 | yJ b blk n d I hp =>
  simp only[Q5]at hr
  split at hr
  ·rename_i b' hf
   cases hr
   obtain⟨⟨d',h1⟩,M⟩:=h.var b b' d hf I
   exact .yJ b' blk n d' h1 (M.trans hp)
  ·cases hr
 | ni b T blk n d I hp =>
  simp only[Q5]at hr
  split at hr
  ·rename_i b' hf
   cases hr
   obtain⟨⟨d',h1⟩,M⟩:=h.var b b' d hf I
   exact .ni b' T blk n d' h1 (M.trans hp)
  ·cases hr
 | ptr b off blk n d I hp =>
  simp only[Q5]at hr
  split at hr
  ·rename_i b' hf
   cases hr
   obtain⟨⟨d',h1⟩,M⟩:=h.var b b' d hf I
   exact .ptr b' off blk n d' h1 (M.trans hp)
  ·cases hr
 | vz τ y cs blk off uZ hh hc=>cases hr; exact .vz τ y cs blk off (h.same _ uZ).1 (hh.mono h.same) λj v hv=>by rw[lH (h.same _ uZ).2]; exact hc j v hv
 | gD b vi e idx off blk o I hh =>
  simp only[Q5]at hr
  split at hr
  ·rename_i b' hf
   cases hr
   refine .gD b' vi e idx off blk o (h.old b b' vi hf I) λxs N hi => ?_
   obtain⟨h1,M⟩:=h.row b b' vi e xs hf N
   grind
  ·cases hr
 | ms b vi e off len cap a I jf ha Wq hh =>
  simp only[Q5]at hr
  split at hr
  ·rename_i b' hf
   cases hr
   refine .ms b' vi e off len cap a (h.old b b' vi hf I) jf ha Wq λxs N => ?_
   obtain⟨h1,M⟩:=h.row b b' vi e xs hf N
   have:=hh xs h1
   unfold Mg at this ⊢
   grind
  ·cases hr
 | wg g l vs R hh=>cases hr
 | agg l vs R ho hh=>cases hr
 | eA l vs R hh=>cases hr
 | iface t d v hh=>cases hr
theorem z2N{d d':D}(h:Q5 f d=some d'):d'.one=d.one:=by
 cases d<;>simp only[Q5]at h<;>first | (cases h; rfl) | (split at h<;>cases h; rfl) | cases h
theorem Tr.rdL(h:Tr O E f):∀ {l l':List D} {vs:List Value},wN O l vs->Fm f l=some l'->wN E l' vs
 | [],l',vs,J,hr=>by cases hr; rw[J.wb]; exact .nil
 | d::r,l',vs,J,hr=>by
  simp only[Fm]at hr
  split at hr
  ·rename_i d' h1
   split at hr
   ·rename_i r' M
    cases hr
    obtain⟨v,us,rfl,g1,g2⟩:=J.cons_inv
    exact .cons (h.rd1 g1 h1) (h.rdL g2 M)
   ·cases hr
  ·cases hr
theorem Gc:∀ {l l':List D},Fm f l=some l'->(∀ d∈l,d.one=true)->∀ d∈l',d.one=true
 | [],l',hr,_=>by cases hr; nofun
 | d::r,l',hr,ho=>by
  simp only[Fm]at hr
  split at hr
  ·rename_i d' h1
   split at hr
   ·rename_i r' M
    cases hr
    intro x N
    rcases zH.1 N with rfl | N
    ·rw[z2N h1]; exact ho d zQ
    ·exact Gc M (λy hy=>ho y (zI _ hy)) x N
   ·cases hr
  ·cases hr
theorem Tr.rd(h:Tr O E f){d d':D}{v:Value}(J:RD O d v)(hr:rN f d=some d'):RD E d' v:=by
 cases d with
 | wg g l =>
  simp only[rN]at hr
  split at hr
  ·rename_i l' R
   cases hr
   cases J with
   | wg _ _ vs h1 M=>have:=h.rdL (⟨h1,M⟩:wN O l vs) R; exact .wg g l' vs this.1 this.2
  ·cases hr
 | agg l =>
  simp only[rN]at hr
  split at hr
  ·rename_i l' R
   cases hr
   cases J with
   | agg _ vs h1 ho M=>have:=h.rdL (⟨h1,M⟩:wN O l vs) R; exact .agg l' vs this.1 (Gc R ho) this.2
  ·cases hr
 | _=>exact h.rd1 J hr
theorem Tr.rds(h:Tr O E f):∀ {l l':List D} {vs:List Value},wN O l vs->Xn f l=some l'->wN E l' vs
 | [],l',vs,J,hr=>by cases hr; rw[J.wb]; exact .nil
 | d::r,l',vs,J,hr=>by
  simp only[Xn]at hr
  split at hr
  ·rename_i d' h1
   split at hr
   ·rename_i r' M
    cases hr
    obtain⟨v,us,rfl,g1,g2⟩:=J.cons_inv
    exact .cons (h.rd g1 h1) (h.rds g2 M)
   ·cases hr
  ·cases hr
theorem Tr.flat(h:Tr O E f){d d':D}{vs:List Value}(J:wN O (xx d) vs)(ho:∀ x∈xx d,x.one=true)(hr:rN f d=some d'):wN E (xx d') vs/\∀ x∈xx d',x.one=true:=by
 have qi:∀ (τ:Ty) (x:den τ) (vs:List Value),wN O (Go.AM.flat τ x) vs->wN E (Go.AM.flat τ x) vs:=by
  intro τ x vs hh
  refine⟨hh.1,λi h1 M => ?_⟩
  have hm:=List.getElem_mem h1
  have:∃ σ z,(Go.AM.flat τ x)[i]=.qi σ z:=by
   generalize (Go.AM.flat τ x)[i]=y at hm
   clear hh h1 M
   induction τ with
   | cons a b ia ib =>
    simp only[Go.AM.flat,zN]at hm
    grind
   | nil=>simp[Go.AM.flat]at hm
   | expr=>simp[Go.AM.flat]at hm; rcases hm with rfl | rfl | rfl | rfl | rfl | rfl<;>exact⟨_,_,rfl⟩
   | _=>simp[Go.AM.flat]at hm; subst hm; exact⟨_,_,rfl⟩
  obtain⟨σ,z,e⟩:=this
  have h3:=hh.2 i h1 M
  rw[e]at h3 ⊢
  exact h.rd1 h3 rfl
 cases d with
 | qi τ x=>cases hr; exact⟨qi τ x vs J,ho⟩
 | agg l =>
  simp only[rN]at hr
  split at hr
  ·rename_i l' R
   cases hr
   exact⟨h.rdL J R,Gc R ho⟩
  ·cases hr
 | eA l=>cases hr
 | wg g l =>
  obtain⟨v,r,rfl,h1,M⟩:=wN.cons_inv (show wN O [.wg g l] vs from J)
  rw[M.wb]
  have Ds:=hr
  simp only[rN]at hr
  split at hr
  ·cases hr; exact⟨.cons (h.rd h1 Ds) .nil,λx N=>by simp only[xx,zL]at N; subst N; rfl⟩
  ·cases hr
 | iface t x=>cases hr
 | ptr b off =>
  obtain⟨v,r,rfl,h1,M⟩:=wN.cons_inv (show wN O [.ptr b off] vs from J)
  rw[M.wb]
  have Ds:=hr
  simp only[rN,Q5]at hr
  split at hr
  ·cases hr; exact⟨.cons (h.rd1 h1 Ds) .nil,λx N=>by simp only[xx,zL]at N; subst N; rfl⟩
  ·cases hr
 | yJ b =>
  obtain⟨v,r,rfl,h1,M⟩:=wN.cons_inv (show wN O [.yJ b] vs from J)
  rw[M.wb]
  have Ds:=hr
  simp only[rN,Q5]at hr
  split at hr
  ·cases hr; exact⟨.cons (h.rd1 h1 Ds) .nil,λx N=>by simp only[xx,zL]at N; subst N; rfl⟩
  ·cases hr
 | dZ b T =>
  obtain⟨v,r,rfl,h1,M⟩:=wN.cons_inv (show wN O [.dZ b T] vs from J)
  rw[M.wb]
  have Ds:=hr
  simp only[rN,Q5]at hr
  split at hr
  ·cases hr; exact⟨.cons (h.rd1 h1 Ds) .nil,λx N=>by simp only[xx,zL]at N; subst N; rfl⟩
  ·cases hr
 | gD b vi e idx off =>
  obtain⟨v,r,rfl,h1,M⟩:=wN.cons_inv (show wN O [.gD b vi e idx off] vs from J)
  rw[M.wb]
  have Ds:=hr
  simp only[rN,Q5]at hr
  split at hr
  ·cases hr; exact⟨.cons (h.rd1 h1 Ds) .nil,λx N=>by simp only[xx,zL]at N; subst N; rfl⟩
  ·cases hr
 | ms b vi e off len =>
  obtain⟨v,r,rfl,h1,M⟩:=wN.cons_inv (show wN O [.ms b vi e off len] vs from J)
  rw[M.wb]
  have Ds:=hr
  simp only[rN,Q5]at hr
  split at hr
  ·cases hr; exact⟨.cons (h.rd1 h1 Ds) .nil,λx N=>by simp only[xx,zL]at N; subst N; rfl⟩
  ·cases hr
 | Bh l=>cases hr; exact⟨⟨J.1,λi h1=>by cases h1⟩,ho⟩
 | _ =>
  cases hr
  obtain⟨v,r,rfl,h1,M⟩:=wN.cons_inv J
  rw[M.wb]
  exact⟨.cons (h.rd1 h1 rfl) .nil,ho⟩
theorem LA{f:Nat->Option Nat}{d d':D}{tt:Nat}(h:rN f d=some d')(ht:d'.typed=some tt):d.typed=some tt:=by
 cases d with
 | agg l =>
  simp only[rN]at h
  split at h
  ·rename_i l' R
   cases h
   cases l with
   | nil=>cases R; cases ht
   | cons x r =>
    simp only[Fm]at R
    split at R
    ·rename_i x' N
     split at R
     ·cases R
      cases x<;>simp only[Q5]at N<;>first
       | (cases N; exact ht)
       | (split at N<;>first | (cases N; exact ht) | cases N)
       | cases N
     ·cases R
    ·cases R
  ·cases h
 | wg g l =>
  simp only[rN]at h
  split at h
  ·cases h; cases ht
  ·cases h
 | _ =>
  simp only[rN,Q5]at h
  first
   | (cases h; cases ht)
   | (split at h<;>first | (cases h; cases ht) | cases h)
   | cases h
theorem Tr.blk[Wj](h:Tr O E f){b b':Nat}(hp:E.ph[b']? = O.ph[b]?){y y':cG}(hy:pw O b y)(hr:Vj f y=some y'):pw E b' y':=by
 cases y with
 | dead=>cases hr; trivial
 | var d =>
  simp only[Vj]at hr
  split at hr
  ·rename_i d' J
   cases hr
   refine kO.elim hy (λhm ⟨blk,n,cs,t,h1,M,h3,h4,h5⟩ => ?_) λl e ⟨blk,o,h1,M⟩ => ?_
   rotate_left
   ·subst e
    cases J
    exact⟨blk,o,hp.trans h1,by rw[h.w]; exact M⟩
   have hm':d'.Yq=false:=by
    cases d<;>simp only[rN,Q5]at J<;>first | (cases hm; done) | (cases J; rfl) | (split at J<;>first | (cases J; rfl) | cases J) | cases J | cases hm
   obtain⟨g1,g2⟩:=h.flat h4 h5.1 J
   exact .mk hm' ⟨blk,n,cs,t,hp.trans h1,by rw[h.w]; exact M,h3,g1,g2,λT hT=>h5.2 T (LA J hT)⟩
  ·cases hr
 | arr vi e xs =>
  cases hr
  obtain⟨h0,hh⟩:=hy
  refine⟨h0,rK hh (λh=>⟨h.1,hp.trans h.2⟩) ?_⟩
  rintro⟨blk,n,cs,t,h1,M,h3,h4,hr,g,h5⟩
  exact⟨blk,n,cs,t,hp.trans h1,by rw[h.w]; exact M,h3,h4,hr,g,λi hi=>⟨(h5 i hi).1.mono h.same,(h5 i hi).2⟩⟩
theorem W9{f:Nat->Option Nat}:∀ {fr:Fr} {s:Nat} {d':D},(Wz f fr).get s=some d'->∃ d,fr.get s=some d/\rN f d=some d'
 | [],s,d',h=>by cases h
 | (t,some d)::r,s,d',h=>by
  simp only[Wz,Fr.get]at h ⊢
  cases ht:V t s with
  | true=>grind
  | false=>rw[ht,cond_false]at h; simp; exact W9 h
 | (t,none)::r,s,d',h=>by
  simp only[Wz,Fr.get]at h ⊢
  cases ht:V t s with
  | true=>grind
  | false=>rw[ht,cond_false]at h; simp; exact W9 h
end
def pos:List Nat->Nat->Option Nat
 | [],_=>none
 | b::r,i=>bif V b i then some 0 else match pos r i with | some j=>some (j+1) | none=>none
def cC:List Nat->Bool
 | []=>true
 | b::r=>(match pos r b with | none=>true | some _=>false)&&cC r
theorem sP:∀ {mp:List Nat} {i j:Nat},pos mp i=some j->mp[j]? = some i
 | [],i,j,h=>by cases h
 | b::r,i,j,h=>by
  simp only[pos]at h
  cases I:V b i with
  | true=>rw[I,cond_true]at h; cases h; rw[zA I]; rfl
  | false =>
   rw[I,cond_false]at h
   split at h
   ·rename_i k hk; cases h; simpa using sP hk
   ·cases h
theorem ox:∀ {mp:List Nat} {i j:Nat},cC mp=true->mp[j]? = some i->pos mp i=some j
 | [],i,j,_,h=>by simp at h
 | b::r,i,j,hn,h=>by
  simp only[cC,X]at hn
  cases j with
  | zero=>simp at h; subst h; simp only[pos]; rw[qS]; rfl
  | succ j =>
   have h':r[j]? = some i:=by simpa using h
   have hp:=ox hn.2 h'
   have jX:V b i=false:=by
    cases I:V b i with
    | false=>rfl
    | true =>
     have:=zA I
     grind
   simp only[pos,jX,cond_false,hp]
def iH{α:Type}(l:List α):List Nat->Option (List α)
 | []=>some []
 | b::r=>match l[b]? with
  | some x=>match iH l r with | some y=>some (x::y) | none=>none
  | none=>none
theorem Jm{α:Type}{l:List α}:∀ {mp:List Nat} {r:List α},iH l mp=some r->r.length=mp.length/\∀ (j b:Nat),mp[j]? = some b->r[j]? = l[b]? /\ b<l.length
 | [],r,h=>by cases h; exact⟨rfl,λj b hj=>xy⟩
 | b::mp,r,h=>by
  simp only[iH]at h
  split at h
  ·rename_i x N
   split at h
   ·rename_i y hy
    obtain⟨h1,M⟩:=Jm hy
    grind
   ·cases h
  ·cases h
theorem Jn{f:Nat->Option Nat}:∀ {l r:List cG},od f l=some r->r.length=l.length/\∀ (j:Nat) (x:cG),l[j]? = some x->∃ y,r[j]? = some y/\Vj f x=some y
 | [],r,h=>by cases h; exact⟨rfl,λj x hj=>xy⟩
 | b::l,r,h=>by
  simp only[od]at h
  split at h
  ·rename_i b' I
   split at h
   ·rename_i r' hr
    obtain⟨h1,M⟩:=Jn hr
    grind
   ·cases h
  ·cases h
def nB{α:Type}(mp:List Nat)(new:List α):Nat->List α->List α
 | _,[]=>[]
 | i,x::r=>(match pos mp i with | some j=>(match new[j]? with | some y=>y | none=>x) | none=>x)::nB mp new (i+1) r
def jd{α:Type}(mp:List Nat)(old new:List α):List α:=nB mp new 0 old++new.drop mp.length
theorem gN{α:Type}(mp:List Nat)(new:List α):∀ (l:List α) (i:Nat),(nB mp new i l).length=l.length
 | [],_=>rfl
 | x::r,i=>by simp[nB,gN mp new r (i+1)]
theorem WM{α:Type}(mp:List Nat)(new:List α):∀ (l:List α) (i k:Nat),(nB mp new i l)[k]? = (l[k]?).map λx=>match pos mp (i+k)with | some j=>(match new[j]? with | some y=>y | none=>x) | none=>x
 | [],i,k=>by simp[nB]
 | x::r,i,0=>by simp[nB]
 | x::r,i,k+1=>by
  have:=WM mp new r (i+1) k
  simp only[nB]
  grind
def fwd(mp:List Nat)(n:Nat)(j:Nat):Nat:=match mp[j]? with | some b=>b | none=>n+(j-mp.length)
theorem lF{α:Type}{mp:List Nat}{old new:List α}{i:Nat}(hi:i<old.length)(hp:pos mp i=none):(jd mp old new)[i]? = old[i]? := by
 unfold jd
 rw[zK (by rw[gN]; exact hi),WM,qD,hp]
 simp
theorem DM{α:Type}{mp:List Nat}{old new:List α}(hn:cC mp=true)(wL:∀ (j b:Nat),mp[j]? = some b->b<old.length)(hlen:mp.length<=new.length){j:Nat}(hj:j<new.length):(jd mp old new)[fwd mp old.length j]? = new[j]? := by
 unfold jd fwd
 cases hm:mp[j]? with
 | some b =>
  have I:=wL j b hm
  rw[zK (by rw[gN]; exact I),WM,qD,ox hn hm]
  grind
 | none =>
  simp only
  rw[List.getElem?_append_right (by rw[gN]; omega),gN,List.getElem?_drop]
  grind
theorem Ib{α:Type}{mp:List Nat}{old new:List α}(wL:∀ (j b:Nat),mp[j]? = some b->b<old.length)(hlen:mp.length<=new.length){i:Nat}(hi:i<(jd mp old new).length) :
  (i<old.length/\pos mp i=none)\/∃ j,j<new.length/\i=fwd mp old.length j:=by
 by_cases h:i<old.length
 ·cases hp:pos mp i with
  | none=>grind
  | some j =>
   have:=sP hp
   have hj:=(Y.1 this).1
   exact .inr ⟨j,Z,by unfold fwd; rw[this]⟩
 ·have R:i<old.length+(new.length-mp.length):=by simpa[jd,gN]using hi
  refine .inr ⟨mp.length+(i-old.length),Z,?_⟩
  unfold fwd
  grind
end Go.AM
namespace Go.AM
set_option linter.unusedSectionVars false
variable [yV]
open Go.RowKit
section
variable {O:KS} {mp:List Nat}
theorem D5{dz l:List cG}{p1:List (Option (Nat×Nat))}(B:Inv O)(hn:cC mp=true)(hp:iH O.ph mp=some p1)(R:iH O.st mp=some l)(hr:od (pos mp) l=some dz) :
  Inv ⟨O.w,O.ok,p1,dz⟩/\Tr O ⟨O.w,O.ok,p1,dz⟩ (pos mp)/\dz.length=mp.length/\p1.length=mp.length/\∀ (j b:Nat),mp[j]? = some b->p1[j]? = O.ph[b]? /\ ∃ x y:cG,O.st[b]? = some x/\Vj (pos mp) x=some y/\dz[j]? = some y:=by
 obtain⟨a1,a2⟩:=Jm hp
 obtain⟨b1,b2⟩:=Jm R
 obtain⟨c1,c2⟩:=Jn hr
 have key:∀ (j b:Nat),mp[j]? = some b->p1[j]? = O.ph[b]? /\ ∃ x y:cG,O.st[b]? = some x/\Vj (pos mp) x=some y/\dz[j]? = some y:=by
  grind
 have at':∀ {j:Nat} {y:cG},dz[j]? = some y->∃ b,mp[j]? = some b:=λh=>by
  have:=(Y.1 h).1
  exact⟨_,zG (Z)⟩
 have hT:Tr O ⟨O.w,O.ok,p1,dz⟩ (pos mp):=by
  refine⟨rfl,rfl,λb j d hf I => ?_,λb j vi hf ho => ?_,λb j v e xs hf I => ?_⟩
  ·obtain⟨h1,x,y,M,h3,h4⟩:=key j b (sP hf)
   rw[I]at M
   cases M
   simp only[Vj]at h3
   grind
  ·obtain⟨h1,x,y,M,h3,h4⟩:=key j b (sP hf)
   rcases ho with ho | ⟨v0,e0,Vr,ho,hv⟩
   ·rw[ho]at M; cases M; cases h3; exact .inl h4
   ·rw[ho]at M; cases M; cases h3; exact .inr ⟨v0,e0,Vr,h4,hv⟩
  ·obtain⟨h1,x,y,M,h3,h4⟩:=key j b (sP hf)
   rw[show dz[j]? = some (.arr v e xs)from I]at h4
   cases h4
   cases x with
   | dead=>cases h3
   | var d=>simp only[Vj]at h3; split at h3<;>cases h3
   | arr v0 e0 Vr=>cases h3; exact⟨M,h1⟩
 refine⟨⟨by show p1.length=dz.length; omega,B.bI,λj blk n h => ?_,λj j' blk n n' h h' => ?_,λj y h => ?_,B.gl⟩,hT,Z,a1,key⟩
 ·obtain⟨b,I⟩:∃ b,mp[j]? = some b:=⟨_,zG (by have:j<p1.length:=(Y.1 h).1; omega)⟩
  exact B.apart b blk n ((a2 j b I).1.symm.trans h)
 ·obtain⟨b,I⟩:∃ b,mp[j]? = some b:=⟨_,zG (by have:j<p1.length:=(Y.1 h).1; omega)⟩
  obtain⟨b',Kb⟩:∃ b,mp[j']? = some b:=⟨_,zG (by have:j'<p1.length:=(Y.1 h').1; omega)⟩
  have:=B.inj b b' blk n n' ((a2 j b I).1.symm.trans h) ((a2 j' b' Kb).1.symm.trans h')
  subst this
  exact Option.some.inj ((ox hn I).symm.trans (ox hn Kb))
 ·obtain⟨b,I⟩:=at' h
  obtain⟨h1,x,y',M,h3,h4⟩:=key j b I
  rw[show dz[j]? = some y from h]at h4
  cases h4
  exact hT.blk h1 (B.blk b x M) h3
theorem Kl{κ1:KS}{dz yW l:List cG}{p1:List (Option (Nat×Nat))}(B:Inv O)(hn:cC mp=true)(hp:iH O.ph mp=some p1)(R:iH O.st mp=some l)(hr:od (pos mp) l=some dz)
  (Vw:Inv κ1) (N:Ext ⟨O.w,O.ok,p1,dz⟩ κ1) (hr2:od (λj=>some (fwd mp O.st.length j)) κ1.st=some yW) :
  ∃ E:KS,E.w=κ1.w/\E.st=jd mp O.st yW/\Inv E/\Ext O E/\Tr κ1 E (λj=>some (fwd mp O.st.length j)):=by
 obtain⟨hIs,hTs,s1,s2,key⟩:=D5 B hn hp R hr
 obtain⟨r1,r2⟩:=Jn hr2
 have wL:∀ (j b:Nat),mp[j]? = some b->b<O.st.length:=λj b hj=>by obtain⟨_,x,_,h,_⟩:=key j b hj; exact(Y.1 h).1
 have znb:∀ (j b:Nat),mp[j]? = some b->b<O.ph.length:=λj b hj=>by rw[B.len]; exact wL j b hj
 have hm1:mp.length<=κ1.st.length:=by have:=N.Fv; simp only at this; omega
 have hm2:mp.length<=yW.length:=Z
 have Kc:mp.length<=κ1.ph.length:=by rw[Vw.len]; exact hm1
 let fw:=fwd mp O.st.length
 have hlen:(jd mp O.ph κ1.ph).length=(jd mp O.st yW).length:=by simp[jd,gN,B.len,Vw.len,r1]
 -- what lies where
 have cst:∀ {j:Nat} {x:cG},κ1.st[j]? = some x->∃ y,(jd mp O.st yW)[fw j]? = some y/\Vj (λj=>some (fw j)) x=some y:=by
  intro j x hj
  obtain⟨y,h1,M⟩:=r2 j x hj
  exact⟨y,by rw[DM hn wL hm2 (by rw[r1]; exact(Y.1 hj).1)]; exact h1,M⟩
 have cph:∀ {j:Nat},j<κ1.st.length->(jd mp O.ph κ1.ph)[fw j]? = κ1.ph[j]? := by
  intro j hj
  have:=DM (old:=O.ph) (new:=κ1.ph) hn znb Kc (j:=j) (by rw[Vw.len]; exact hj)
  rw[B.len]at this
  exact this
 have ust:∀ {i:Nat},i<O.st.length->pos mp i=none->(jd mp O.st yW)[i]? = O.st[i]? := λhi h=>lF hi h
 have uph:∀ {i:Nat},i<O.st.length->pos mp i=none->(jd mp O.ph κ1.ph)[i]? = O.ph[i]? := λhi h=>lF (by rw[B.len]; exact hi) h
 have UT:∀ {i:Nat},i<(jd mp O.st yW).length->(i<O.st.length/\pos mp i=none)\/∃ j,j<κ1.st.length/\i=fw j:=by
  intro i hi
  rcases Ib wL hm2 hi with h | ⟨j,h1,M⟩
  ·grind
  ·grind
 have Rw:∀ {j b:Nat},mp[j]? = some b->fw j=b:=λh=>by simp only[fw,fwd,h]
 have zqO:∀ {j:Nat},mp[j]? = none->O.st.length<=fw j:=λh=>by simp only[fw,fwd,h]; omega
 -- the part's own blocks
 have sph:∀ {j:Nat} {q:Nat×Nat},p1[j]? = some (some q)->∃ b,mp[j]? = some b/\O.ph[b]? = some (some q):=by
  intro j q h
  have hj:=(Y.1 h).1
  obtain⟨b,I⟩:∃ b,mp[j]? = some b:=⟨_,zG (Z)⟩
  grind
 have hT:Tr κ1 ⟨κ1.w,κ1.ok,jd mp O.ph κ1.ph,jd mp O.st yW⟩ (λj=>some (fw j)):=by
  refine⟨rfl,rfl,λj b d hf hj => ?_,λj b vi hf ho => ?_,λj b v e xs hf I => ?_⟩
  ·cases hf
   obtain⟨y,h1,M⟩:=cst hj
   simp only[Vj]at M
   grind
  ·cases hf
   rcases ho with ho | ⟨v0,e0,Vr,ho,hv⟩
   ·obtain⟨y,h1,M⟩:=cst ho; cases M; exact .inl h1
   ·obtain⟨y,h1,M⟩:=cst ho; cases M; exact .inr ⟨v0,e0,Vr,h1,hv⟩
  ·cases hf
   have I:(jd mp O.st yW)[fw j]? = some (.arr v e xs):=I
   have JF:=(Y.1 I).1
   have hj:j<κ1.st.length:=by
    by_cases hj:j<κ1.st.length
    ·exact hj
    ·exfalso
     cases hm:mp[j]? with
     | some c=>have:=(Y.1 hm).1; omega
     | none =>
      have h3:fw j=O.st.length+(j-mp.length):=by simp only[fw,fwd,hm]
      have h4:(jd mp O.st yW).length=O.st.length+(yW.length-mp.length):=by simp[jd,gN]
      omega
   obtain⟨y,h1,M⟩:=cst (zG hj)
   rw[I]at h1
   cases h1
   refine⟨?_,cph hj⟩
   rw[zG hj]
   generalize κ1.st[j]=x at M
   cases x with
   | dead=>cases M
   | var d=>simp only[Vj]at M; split at M<;>cases M
   | arr v0 e0 Vr=>cases M; rfl
 -- BI blocks lie as they lay
 have BI:∀ {i blk n:Nat},pos mp i=none->O.ph[i]? = some (some (blk,n))->κ1.w.heap[blk]? = O.w.heap[blk]? := by
  intro i blk n hi h
  obtain⟨g1,g2⟩:=B.apart i blk n h
  refine N.frame blk g1 λj m hj => ?_
  obtain⟨b,FT,Es⟩:=sph hj
  have:=B.inj i b blk n m h Es
  subst this
  rw[ox hn FT]at hi
  cases hi
 have hE:Ext O ⟨κ1.w,κ1.ok,jd mp O.ph κ1.ph,jd mp O.st yW⟩:=by
  refine⟨N.os,N.tape,N.output,N.size,N.same,λk hk => ?_,λi blk n h => ?_,λi d hi => ?_,λi v0 e Vr hi => ?_,λi hi => ?_,?_,λk hk T7 => ?_⟩
  ·rcases N.fresh k hk with h | h | ⟨j,n,h⟩
   ·exact .inl h
   ·exact .inr (.inl h)
   ·obtain⟨b,_,I⟩:=sph h; exact .inr (.inr ⟨b,n,I⟩)
  ·have h:(jd mp O.ph κ1.ph)[i]? = some (some (blk,n)):=h
   have GZ:i<(jd mp O.st yW).length:=by rw[<- hlen]; exact(Y.1 h).1
   rcases UT GZ with⟨h1,M⟩ | ⟨j,h1,rfl⟩
   ·rw[uph h1 M]at h; exact .inl h
   ·rw[cph h1]at h
    rcases N.phs j blk n h with h3 | h3
    ·obtain⟨b,FT,Es⟩:=sph h3
     rw[Rw FT]; exact .inl Es
    ·exact .inr h3
  ·have RI:=(Y.1 hi).1
   cases Dq:pos mp i with
   | none=>exact⟨⟨d,(ust RI Dq).trans hi⟩,uph RI Dq⟩
   | some j =>
    have hmj:=sP Dq
    obtain⟨k1,x,y,k2,k3,k4⟩:=key j i hmj
    rw[hi]at k2
    cases k2
    simp only[Vj]at k3
    split at k3
    ·cases k3
     obtain⟨⟨d',g1⟩,g2⟩:=N.var j _ k4
     obtain⟨⟨d'',q1⟩,q2⟩:=hT.var j (fw j) d' rfl g1
     rw[Rw hmj]at q1 q2
     exact⟨⟨d'',q1⟩,q2.trans (g2.trans k1)⟩
    ·cases k3
  ·have RI:=(Y.1 hi).1
   cases Dq:pos mp i with
   | none=>exact .inr ⟨v0,Vr,(ust RI Dq).trans hi,zJ _,λ_=>⟨uph RI Dq,rfl⟩⟩
   | some j =>
    have hmj:=sP Dq
    obtain⟨k1,x,y,k2,k3,k4⟩:=key j i hmj
    rw[hi]at k2
    cases k2
    cases k3
    rcases N.arr j v0 e Vr k4 with g | ⟨v1,xs1,g1,g2,g3⟩
    ·obtain⟨y,q1,q2⟩:=cst g
     cases q2
     rw[Rw hmj]at q1
     exact .inl q1
    ·obtain⟨y,q1,q2⟩:=cst g1
     cases q2
     rw[Rw hmj]at q1
     refine .inr ⟨v1,xs1,q1,g2,λhe=>⟨?_,(g3 he).2⟩⟩
     have h4:=cph (Y.1 g1).1
     rw[Rw hmj]at h4
     exact h4.trans ((g3 he).1.trans k1)
  ·have RI:=(Y.1 hi).1
   cases Dq:pos mp i with
   | none=>exact(ust RI Dq).trans hi
   | some j =>
    have hmj:=sP Dq
    obtain⟨k1,x,y,k2,k3,k4⟩:=key j i hmj
    rw[hi]at k2
    cases k2
    cases k3
    obtain⟨y,q1,q2⟩:=cst (N.dead j k4)
    cases q2
    rw[Rw hmj]at q1
    exact q1
  ·show O.st.length<=(jd mp O.st yW).length
   simp[jd,gN]
  ·exact N.frame k hk λj n hj=>by obtain⟨b,_,I⟩:=sph hj; exact T7 b n I
 refine⟨⟨κ1.w,κ1.ok,jd mp O.ph κ1.ph,jd mp O.st yW⟩,rfl,rfl,⟨hlen,Vw.bI,λi blk n h => ?_,λi i' blk n n' h h' => ?_,λi y h => ?_,Vw.gl⟩,hE,hT⟩
 ·have h:(jd mp O.ph κ1.ph)[i]? = some (some (blk,n)):=h
  have GZ:i<(jd mp O.st yW).length:=by rw[<- hlen]; exact(Y.1 h).1
  rcases UT GZ with⟨h1,M⟩ | ⟨j,h1,rfl⟩
  ·rw[uph h1 M]at h
   obtain⟨g1,g2⟩:=B.apart i blk n h
   refine⟨Nat.lt_of_lt_of_le g1 N.size,λhk => ?_⟩
   rcases N.fresh blk hk with hk | hk | ⟨j,m,hj⟩
   ·exact g2 hk
   ·simp only at hk; omega
   ·obtain⟨b,FT,Es⟩:=sph hj
    have:=B.inj i b blk n m h Es
    subst this
    rw[ox hn FT]at M
    cases M
  ·rw[cph h1]at h
   exact Vw.apart j blk n h
 ·have h:(jd mp O.ph κ1.ph)[i]? = some (some (blk,n)):=h
  have h':(jd mp O.ph κ1.ph)[i']? = some (some (blk,n')):=h'
  have z0S:i<(jd mp O.st yW).length:=by rw[<- hlen]; exact(Y.1 h).1
  have IX:i'<(jd mp O.st yW).length:=by rw[<- hlen]; exact(Y.1 h').1
  have mixed:∀ {i j n n':Nat},i<O.st.length->pos mp i=none->j<κ1.st.length->O.ph[i]? = some (some (blk,n))->κ1.ph[j]? = some (some (blk,n'))->False:=by
   intro i j n n' h1 M h3 h4 h5
   rcases N.phs j blk n' h5 with h6 | h6
   ·obtain⟨b,FT,Es⟩:=sph h6
    have:=B.inj i b blk n n' h4 Es
    subst this
    rw[ox hn FT]at M
    cases M
   ·have:=(B.apart i blk n h4).1
    simp only at h6
    omega
  rcases UT z0S with⟨h1,M⟩ | ⟨j,h1,rfl⟩
  ·rw[uph h1 M]at h
   rcases UT IX with⟨h3,h4⟩ | ⟨j',h3,rfl⟩
   ·rw[uph h3 h4]at h'; exact B.inj i i' blk n n' h h'
   ·rw[cph h3]at h'; exact(mixed h1 M h3 h h').elim
  ·rw[cph h1]at h
   rcases UT IX with⟨h3,h4⟩ | ⟨j',h3,rfl⟩
   ·rw[uph h3 h4]at h'; exact(mixed h3 h4 h1 h' h).elim
   ·rw[cph h3]at h'
    rw[Vw.inj j j' blk n n' h h']
 ·have h:(jd mp O.st yW)[i]? = some y:=h
  rcases UT (Y.1 h).1 with⟨h1,M⟩ | ⟨j,h1,rfl⟩
  ·rw[ust h1 M]at h
   exact(B.blk i y h).mono hE (uph h1 M) λblk n I=>BI M I
  ·obtain⟨z,q1,q2⟩:=cst (zG h1)
   rw[h]at q1
   cases q1
   exact hT.blk (cph h1) (Vw.blk j _ (zG h1)) q2
end
end Go.AM
namespace Go.AM
set_option linter.unusedSectionVars false
variable [yV]
open Go.RowKit
inductive AK where
 | any | cur | sub | ptr | wg (f:Nat) | agg
structure gX where
 ks:List AK
 sh:um
 du:List Gh
 out:um
 nr:Nat
 F:sh.den->T out.den
def Bl(fr:Fr):Nat->Nat->Option (List D)
 | 0,_=>some []
 | n+1,i=>match fr.get i with
  | some d=>match Bl fr n (i+1)with | some r=>some (d::r) | none=>none
  | none=>none
def oG(nr:Nat)(fr:Fr):Option (List D):=Bl fr nr 0
def z2l:List (Nat×Nat)->List D->Nat->Option Nat
 | p::r,.ptr b' _::ds,b=>bif V p.1 b then some b' else z2l r ds b
 | _,_,_=>none
def zgO(b:Nat):Ck->D->Option Nat
 | .ptr c _,.ptr b' _=>bif V c b then some b' else none
 | .cur c _,.ms b' _ _ _ _=>bif V c b then some b' else none
 | .wg _ l,.wg _ ds=>z2l l ds b
 | .yJ c,.yJ b'=>bif V c b then some b' else none
 | _,_=>none
def zcF(fr:Fr)(b:Nat):List (Nat×Ck)->Option Nat
 | []=>none
 | (s,k)::r=>match fr.get s with
  | some d=>match zgO b k d with | some b'=>some b' | none=>zcF fr b r
  | none=>zcF fr b r
def F7(b:Nat):List Mc->List D->Option Nat
 | .pt c::r,.ptr b' _::ds=>bif V c b then some b' else F7 b r ds
 | .pt _::r,_::ds=>F7 b r ds
 | .im _::r,_::ds=>F7 b r ds
 | .rp _::r,_::ds=>F7 b r ds
 | _,_=>none
def Um(b:Nat):List Sk->List D->Option Nat
 | .im τ::r,ds=>Um b r (ds.drop τ.size)
 | .row c _::r,.ms b' _ _ _ _::ds=>bif V c b then some b' else Um b r ds
 | .row _ _::r,_::ds=>Um b r ds
 | .op c _::r,.dZ b' _::ds=>bif V c b then some b' else Um b r ds
 | .op _ _::r,_::ds=>Um b r ds
 | .un::r,_::ds=>Um b r ds
 | .nl::r,_::ds=>Um b r ds
 | _,_=>none
def JP(fr:Fr)(b:Nat):List It->Option Nat
 | []=>none
 | .s s (.mclo _ ms)::r=>match fr.get s with
  | some (.wg _ l)=>match F7 b ms l with | some b'=>some b' | none=>JP fr b r
  | _=>JP fr b r
 | .s s (.sub c _)::r=>match fr.get s with
  | some (.ms b' _ _ _ _)=>bif V c b then some b' else JP fr b r
  | _=>JP fr b r
 | .s s (.st ks)::r=>match fr.get s with
  | some d=>match Um b ks (xx d)with | some b'=>some b' | none=>JP fr b r
  | none=>JP fr b r
 | _::r=>JP fr b r
def Sw(st:St)(b:Nat):List Bk->List (Option Nat)->Option Nat
 | .cvar k::r,some p::ps=>match st[p]? with
  | some (.var d)=>match zgO b k d with | some b'=>some b' | none=>Sw st b r ps
  | _=>Sw st b r ps
 | .var (.st ks)::r,some p::ps=>match st[p]? with
  | some (.var d)=>match Um b ks (xx d)with | some b'=>some b' | none=>Sw st b r ps
  | _=>Sw st b r ps
 | _::r,_::ps=>Sw st b r ps
 | _,_=>none
def Sr(sh:um)(fr:Fr):Nat->List Bk->List (Option Nat)
 | _,[]=>[]
 | b,_::r=>(match zcF fr b sh.cs with | some b'=>some b' | none=>JP fr b sh.ff)::Sr sh fr (b+1) r
def Ss(sh:um)(st:St)(m:List (Option Nat)):Nat->List (Option Nat)->List (Option Nat)
 | _,[]=>[]
 | b,some b'::r=>some b'::Ss sh st m (b+1) r
 | b,none::r=>Sw st b sh.bs m::Ss sh st m (b+1) r
def DC:List (Option Nat)->Option (List Nat)
 | []=>some []
 | some b::r=>match DC r with | some l=>some (b::l) | none=>none
 | none::_=>none
def mapOf(sh:um)(fr:Fr)(st:St):Option (List Nat):=let m:=Sr sh fr 0 sh.bs
 let m:=Ss sh st m 0 m
 DC (Ss sh st m 0 m)
def gX.back(d:gX)(mp:List Nat)(st:St)(y:d.out.den):T (GF×St):=match oG d.nr (d.out.fr y),od (λj=>some (fwd mp st.length j)) (d.out.st y)with
 | some ds,some yW=>match Xn (λj=>some (fwd mp st.length j)) ds with
  | some Ca=>.ret (.ret Ca,jd mp st yW)
  | none=>.fail
 | _,_=>.fail
def gX.inner(d:gX)(mp:List Nat)(fr:Fr)(st:St):T (GF×St):=match iH st mp with
 | none=>.fail
 | some l=>match od (pos mp) l with
  | none=>.fail
  | some dz=>(d.sh.un (Wz (pos mp) fr) dz).bind λx=>(d.F x).bind λy=>d.back mp st y
def gX.S(d:gX)(args:List D)(st:St):T (GF×St) :=
 match mapOf d.sh (gh d.du (ym args 0) st).1 (gh d.du (ym args 0) st).2 with
 | none=>.fail
 | some mp=>bif cC mp&&zM mp.length d.sh.bs.length&&V args.length d.ks.length then d.inner mp (gh d.du (ym args 0) st).1 (gh d.du (ym args 0) st).2 else .fail
def gX.Qf{α:Type}(d:gX)(mp:List Nat)(st:St)(y:d.out.den)(k:List D->St->T α):T α:=match oG d.nr (d.out.fr y),od (λj=>some (fwd mp st.length j)) (d.out.st y)with
 | some ds,some yW=>match Xn (λj=>some (fwd mp st.length j)) ds with
  | some Ca=>k Ca (jd mp st yW)
  | none=>.fail
 | _,_=>.fail
def gX.X2{α:Type}(d:gX)(mp:List Nat)(fr:Fr)(st:St)(k:List D->St->T α):T α:=match iH st mp with
 | none=>.fail
 | some l=>match od (pos mp) l with
  | none=>.fail
  | some dz=>(d.sh.un (Wz (pos mp) fr) dz).bind λx=>(d.F x).bind λy=>d.Qf mp st y k
def gX.K{α:Type}(d:gX)(args:List D)(st:St)(k:List D->St->T α):T α :=
 match mapOf d.sh (gh d.du (ym args 0) st).1 (gh d.du (ym args 0) st).2 with
 | none=>.fail
 | some mp=>bif cC mp&&zM mp.length d.sh.bs.length&&V args.length d.ks.length then d.X2 mp (gh d.du (ym args 0) st).1 (gh d.du (ym args 0) st).2 k else .fail
theorem gX.Tf{α:Type}{d:gX}{args:List D}{st:St}{k:List D->St->T α}{r:α}(h:(d.K args st k).leads r):∃ ds ql,(d.S args st).leads (.ret ds,ql)/\(k ds ql).leads r:=by
 unfold gX.K at h
 unfold gX.S
 split at h
 ·exact h.elim
 ·rename_i mp Kc
  cases hc:cC mp&&zM mp.length d.sh.bs.length&&V args.length d.ks.length with
  | false=>rw[hc]at h; exact h.elim
  | true =>
   rw[hc,cond_true]at h
   unfold gX.X2 at h
   unfold gX.inner
   split at h
   ·exact h.elim
   ·rename_i l R
    split at h
    ·exact h.elim
    ·rename_i dz hst1
     obtain⟨x,h1,h⟩:=T.zd.1 h
     obtain⟨y,M,h⟩:=T.zd.1 h
     unfold gX.Qf at h
     split at h
     ·rename_i ds yW e1 e2
      split at h
      ·rename_i Ca e3
       refine⟨Ca,_,T.zd.2 ⟨x,h1,T.zd.2 ⟨y,M,?_⟩⟩,h⟩
       unfold gX.back
       simp only[e1,e2,e3]
       rfl
      ·exact h.elim
     ·exact h.elim
def cx(Dr:Te)(g:Nat)(d:gX):Prop:=∀ (O:KS) (x:d.sh.den) (xb:List Value) (y:d.out.den),O.st=d.sh.st x->(d.F x).leads y->Inv O->xb.length=d.ks.length ->
 Rel O xb.length (d.sh.fr x).get { tmps:=xb.toArray,defers:=[] } ->
 Dr g xb.toArray O.w λe w'=>∃ (E:KS) (ds:List D),E.w=w'/\E.st=d.out.st y/\Inv E/\Ext O E/\oG d.nr (d.out.fr y)=some ds/\jc E (.ret ds) e
def xv(P:Program)(g:Nat)(d:gX):Prop:=∀ (O:KS) (x:d.sh.den) (xb:List Value) (y:d.out.den),O.st=d.sh.st x->(d.F x).leads y->Inv O->xb.length=d.ks.length ->
 Rel O xb.length (d.sh.fr x).get { tmps:=xb.toArray,defers:=[] } ->
 gv P g xb.toArray O.w λe w'=>∃ (E:KS) (ds:List D),E.w=w'/\E.st=d.out.st y/\Inv E/\Ext O E/\oG d.nr (d.out.fr y)=some ds/\jc E (.ret ds) e
theorem D7{O E:KS}{f:Nat->Option Nat}(h:Tr O E f){ds Ca:List D}{v:Value}(J:RD O (eI ds) v)(hr:Xn f ds=some Ca):RD E (eI Ca) v:=by
 match ds,hr with
 | [],hr =>
  cases hr
  cases J with
  | eA _ vs R hh =>
   obtain rfl:vs=[]:=zY R.symm
   exact .eA [] [] rfl (λi h=>absurd h (qN i))
 | [d],hr =>
  simp only[Xn]at hr
  split at hr
  ·rename_i d' h1
   cases hr
   exact h.rd J h1
  ·cases hr
 | d::e::r,hr =>
  cases J with
  | eA _ vs R hh =>
   have hR:=h.rds (⟨R,hh⟩:wN O (d::e::r) vs) hr
   simp only[Xn]at hr
   split at hr
   ·split at hr
    ·rename_i r' M
     cases hr
     split at M
     ·split at M
      ·cases M; exact .eA _ vs hR.1 hR.2
      ·cases M
     ·cases M
    ·cases hr
   ·cases hr
theorem Q0{α β:Type}{l:List α}{m:List β}(h:l.length=m.length):∀ {mp:List Nat} {r:List α},iH l mp=some r->∃ q,iH m mp=some q
 | [],_,_=>⟨[],rfl⟩
 | b::mp,r,hr=>by
  simp only[iH]at hr
  split at hr
  ·rename_i x N
   split at hr
   ·rename_i y hy
    obtain⟨q,hq⟩:=Q0 h hy
    have I:b<m.length:=by have:=(Y.1 N).1; omega
    exact⟨m[b]::q,by simp only[iH,zG I,hq]⟩
   ·cases hr
  ·cases hr
theorem gX.zd0{Dr:Te}(zfZ:∀ {g a w} {hl R':Ending->World->Prop},Dr g a w hl->(∀ e w',hl e w'->R' e w')->Dr g a w R'){g:Nat}{d:gX}(h:cx Dr g d):zlJ Dr g d.S:=by
 intro O args xb rs ql R B ha
 have hR0:Rel O xb.length (ym args 0).get { tmps:=xb.toArray,defers:=[] }:=by
  have:=Kk (n:=xb.length) ha (by rw[ha.1]; exact zJ _)
  simpa[show(Hl.df:List Deferred)=[]from rfl]using this
 obtain⟨κ0,w1,w2,w3,w4,w5⟩:=sF d.du (ym args 0) O B hR0
 unfold gX.S at R
 rw[<- w2]at R
 split at R
 ·exact R.elim
 ·rename_i mp Kc
  cases hc:cC mp&&zM mp.length d.sh.bs.length&&V args.length d.ks.length with
  | false=>rw[hc]at R; exact R.elim
  | true =>
   rw[hc,cond_true]at R
   simp only[X]at hc
   obtain⟨⟨hn,hle⟩,hlen⟩:=hc
   unfold gX.inner at R
   split at R
   ·exact R.elim
   ·rename_i l Yk
    split at R
    ·exact R.elim
    ·rename_i dz hst1
     obtain⟨x,h1,R⟩:=T.zd.1 R
     obtain⟨y,M,R⟩:=T.zd.1 R
     obtain⟨p1,hpp⟩:=Q0 (m:=κ0.ph) w3.len.symm Yk
     obtain⟨s1,s2,s3,s4,s5⟩:=D5 w3 hn hpp Yk hst1
     have HJ:Rel ⟨κ0.w,κ0.ok,p1,dz⟩ xb.length (Wz (pos mp) (gh d.du (ym args 0) O.st).1).get { tmps:=xb.toArray,defers:=[] } :=
      ⟨w5.size,w5.defers,λs d' J=>by
       obtain⟨d0,q1,q2⟩:=W9 J
       obtain⟨v,q3,q4⟩:=w5.get s d0 q1
       exact⟨v,q3,s2.rd q4 q2⟩⟩
     obtain⟨κ2,u1,u2,u3,u4,u5,_⟩:=d.sh.K2 (κ0:=⟨κ0.w,κ0.ok,p1,dz⟩) (O:=⟨κ0.w,κ0.ok,p1,dz⟩) (Ext.refl _) s1 HJ (by show dz.length<=_; rw[s3]; exact zE hle) h1
     have hw:κ2.w=O.w:=u1.trans w1
     have hdo:=h κ2 x xb y u2 M u3 (by rw[<- ha.1]; exact zA hlen) u5
     rw[hw]at hdo
     refine zfZ hdo ?_
     rintro e w' ⟨κ3,ds,rfl,g1,g2,g3,g4,v,rfl,g5⟩
     unfold gX.back at R
     rw[g4,<- g1]at R
     split at R
     ·rename_i ds0 yW e1 e2
      cases e1
      split at R
      ·rename_i Ca hds'
       cases R
       obtain⟨E,k1,k2,k3,k4,k5⟩:=Kl w3 hn hpp Yk hst1 g2 (u4.trans g3) e2
       exact⟨E,k1,k2,k3,w4.trans k4,v,rfl,D7 k5 g5 hds'⟩
      ·exact R.elim
     ·exact R.elim
theorem gX.snd{P:Program}{g:Nat}{d:gX}(h:xv P g d):Dj P g d.S:=gX.zd0 (Dr:=gv P) gv.mono h
structure lB where
 ks:List AK
 sh:um
 du:List Gh
 out:um
 nr:Nat
 pt:Nat
 hH:um
 two:Option Nat
 F:sh.den->T (out.den⊕hH.den)
abbrev lB.s(d:lB):gX:=⟨d.ks,d.sh,d.du,d.out,d.nr,λ_=>.fail⟩
abbrev lB.s2(d:lB)(n:Nat):gX:=⟨d.ks,d.sh,d.du,d.hH,n,λ_=>.fail⟩
def lB.z2E{α:Type}(d:lB)(mp:List Nat)(st:St)(z:d.hH.den)(kp:D->St->T α):T α:=match(d.hH.fr z).get 0,od (λj=>some (fwd mp st.length j)) (d.hH.st z)with
 | some (.qi τ x),some yW=>kp (.iface d.pt (.qi τ x)) (jd mp st yW)
 | _,_=>.fail
def lB.LV{α:Type}(d:lB)(mp:List Nat)(st:St)(z:d.hH.den)(k:List D->St->T α)(kp:D->St->T α):T α:=match d.two with
 | none=>d.z2E mp st z kp
 | some n=>(d.s2 n).Qf mp st z k
def lB.X2{α:Type}(d:lB)(mp:List Nat)(fr:Fr)(st:St)(k:List D->St->T α)(kp:D->St->T α):T α:=match iH st mp with
 | none=>.fail
 | some l=>match od (pos mp) l with
  | none=>.fail
  | some dz=>(d.sh.un (Wz (pos mp) fr) dz).bind λx=>(d.F x).bind (Sum.elim (λy=>d.s.Qf mp st y k) (λz=>d.LV mp st z k kp))
def lB.K{α:Type}(d:lB)(args:List D)(st:St)(k:List D->St->T α)(kp:D->St->T α):T α :=
 match mapOf d.sh (gh d.du (ym args 0) st).1 (gh d.du (ym args 0) st).2 with
 | none=>.fail
 | some mp=>bif cC mp&&zM mp.length d.sh.bs.length&&V args.length d.ks.length then d.X2 mp (gh d.du (ym args 0) st).1 (gh d.du (ym args 0) st).2 k kp else .fail
def lB.S(d:lB)(args:List D)(st:St):T (GF×St):=d.K args st (λds ql=>.ret (.ret ds,ql)) (λp ql=>.ret (.hH p,ql))
theorem lB.Tf{α:Type}{d:lB}{args:List D}{st:St}{k:List D->St->T α}{kp:D->St->T α}{r:α}(h:(d.K args st k kp).leads r) :
  (∃ ds ql,(d.S args st).leads (.ret ds,ql)/\(k ds ql).leads r)\/∃ p ql,(d.S args st).leads (.hH p,ql)/\(kp p ql).leads r:=by
 unfold lB.K at h
 unfold lB.S lB.K
 split at h
 ·exact h.elim
 ·rename_i mp Kc
  cases hc:cC mp&&zM mp.length d.sh.bs.length&&V args.length d.ks.length with
  | false=>rw[hc]at h; exact h.elim
  | true =>
   rw[hc,cond_true]at h
   unfold lB.X2 at h
   unfold lB.X2
   split at h
   ·exact h.elim
   ·rename_i l R
    split at h
    ·exact h.elim
    ·rename_i dz hst1
     obtain⟨x,h1,h⟩:=T.zd.1 h
     obtain⟨y,M,h⟩:=T.zd.1 h
     cases y with
     | inl y =>
      simp at h
      unfold gX.Qf at h
      split at h
      ·rename_i ds yW e1 e2
       split at h
       ·rename_i Ca e3
        refine .inl ⟨Ca,_,T.zd.2 ⟨x,h1,T.zd.2 ⟨.inl y,M,?_⟩⟩,h⟩
        simp
        unfold gX.Qf
        simp only[e1,e2,e3]
        rfl
       ·exact h.elim
      ·exact h.elim
     | inr z =>
      simp at h
      unfold lB.LV at h
      split at h
      ·rename_i h0
       unfold lB.z2E at h
       split at h
       ·rename_i τ p yW e1 e2
        refine .inr ⟨_,_,T.zd.2 ⟨x,h1,T.zd.2 ⟨.inr z,M,?_⟩⟩,h⟩
        simp
        unfold lB.LV lB.z2E
        simp only[h0,e1,e2]
        rfl
       ·exact h.elim
      ·rename_i n h0
       unfold gX.Qf at h
       split at h
       ·rename_i ds yW e1 e2
        split at h
        ·rename_i Ca e3
         refine .inl ⟨Ca,_,T.zd.2 ⟨x,h1,T.zd.2 ⟨.inr z,M,?_⟩⟩,h⟩
         simp
         unfold lB.LV gX.Qf
         simp only[h0,e1,e2,e3]
         rfl
        ·exact h.elim
       ·exact h.elim
def jz(P:Program)(g:Nat)(d:lB):Prop:=∀ (O:KS) (x:d.sh.den) (xb:List Value) (r:d.out.den⊕d.hH.den),O.st=d.sh.st x->(d.F x).leads r->Inv O->xb.length=d.ks.length ->
 Rel O xb.length (d.sh.fr x).get { tmps:=xb.toArray,defers:=[] } ->
 gv P g xb.toArray O.w λe w'=>∃ E:KS,E.w=w'/\Inv E/\Ext O E /\
  ((∃ (y:d.out.den) (ds:List D),r=.inl y/\E.st=d.out.st y/\oG d.nr (d.out.fr y)=some ds/\jc E (.ret ds) e) \/
   (d.two=none/\∃ (z:d.hH.den) (p:D),r=.inr z/\E.st=d.hH.st z/\(d.hH.fr z).get 0=some p/\jc E (.hH (.iface d.pt p)) e) \/
   ∃ (n:Nat) (z:d.hH.den) (ds:List D),d.two=some n/\r=.inr z/\E.st=d.hH.st z/\oG n (d.hH.fr z)=some ds/\jc E (.ret ds) e)
theorem lB.snd{P:Program}{g:Nat}{d:lB}(h:jz P g d):Dj P g d.S:=by
 intro O args xb rs ql R B ha
 have hR0:Rel O xb.length (ym args 0).get { tmps:=xb.toArray,defers:=[] }:=by
  have:=Kk (n:=xb.length) ha (by rw[ha.1]; exact zJ _)
  simpa[show(Hl.df:List Deferred)=[]from rfl]using this
 obtain⟨κ0,w1,w2,w3,w4,w5⟩:=sF d.du (ym args 0) O B hR0
 unfold lB.S lB.K at R
 rw[<- w2]at R
 split at R
 ·exact R.elim
 ·rename_i mp Kc
  cases hc:cC mp&&zM mp.length d.sh.bs.length&&V args.length d.ks.length with
  | false=>rw[hc]at R; exact R.elim
  | true =>
   rw[hc,cond_true]at R
   simp only[X]at hc
   obtain⟨⟨hn,hle⟩,hlen⟩:=hc
   unfold lB.X2 at R
   split at R
   ·exact R.elim
   ·rename_i l Yk
    split at R
    ·exact R.elim
    ·rename_i dz hst1
     obtain⟨x,h1,R⟩:=T.zd.1 R
     obtain⟨y,M,R⟩:=T.zd.1 R
     obtain⟨p1,hpp⟩:=Q0 (m:=κ0.ph) w3.len.symm Yk
     obtain⟨s1,s2,s3,s4,s5⟩:=D5 w3 hn hpp Yk hst1
     have HJ:Rel ⟨κ0.w,κ0.ok,p1,dz⟩ xb.length (Wz (pos mp) (gh d.du (ym args 0) O.st).1).get { tmps:=xb.toArray,defers:=[] } :=
      ⟨w5.size,w5.defers,λs d' J=>by
       obtain⟨d0,q1,q2⟩:=W9 J
       obtain⟨v,q3,q4⟩:=w5.get s d0 q1
       exact⟨v,q3,s2.rd q4 q2⟩⟩
     obtain⟨κ2,u1,u2,u3,u4,u5,_⟩:=d.sh.K2 (κ0:=⟨κ0.w,κ0.ok,p1,dz⟩) (O:=⟨κ0.w,κ0.ok,p1,dz⟩) (Ext.refl _) s1 HJ (by show dz.length<=_; rw[s3]; exact zE hle) h1
     have hw:κ2.w=O.w:=u1.trans w1
     have hdo:=h κ2 x xb y u2 M u3 (by rw[<- ha.1]; exact zA hlen) u5
     rw[hw]at hdo
     refine hdo.mono ?_
     rintro e w' ⟨κ3,rfl,g2,g3,⟨y,ds,rfl,g1,g4,v,rfl,g5⟩ | ⟨g0,z,p,rfl,g1,g4,v,rfl,g5⟩ | ⟨n2,z,ds,g0,rfl,g1,g4,v,rfl,g5⟩⟩
     ·simp only[Sum.elim_inl]at R
      unfold gX.Qf at R
      rw[show oG d.s.nr (d.s.out.fr y)=some ds from g4,show d.s.out.st y=κ3.st from g1.symm]at R
      split at R
      ·rename_i ds0 yW e1 e2
       cases e1
       split at R
       ·rename_i Ca hds'
        cases R
        obtain⟨E,k1,k2,k3,k4,k5⟩:=Kl w3 hn hpp Yk hst1 g2 (u4.trans g3) e2
        exact⟨E,k1,k2,k3,w4.trans k4,v,rfl,D7 k5 g5 hds'⟩
       ·exact R.elim
      ·exact R.elim
     ·simp only[Sum.elim_inr]at R
      unfold lB.LV at R
      rw[g0]at R
      simp only at R
      unfold lB.z2E at R
      rw[g4,<- g1]at R
      split at R
      ·rename_i τ q yW e1 e2
       cases e1
       cases R
       obtain⟨E,k1,k2,k3,k4,k5⟩:=Kl w3 hn hpp Yk hst1 g2 (u4.trans g3) e2
       refine⟨E,k1,k2,k3,w4.trans k4,v,rfl,?_⟩
       cases g5 with
       | iface _ _ u hu=>exact .iface _ _ u (k5.rd hu rfl)
      ·exact R.elim
     ·simp only[Sum.elim_inr]at R
      unfold lB.LV at R
      rw[g0]at R
      simp only at R
      unfold gX.Qf at R
      rw[show oG (d.s2 n2).nr ((d.s2 n2).out.fr z)=some ds from g4,show(d.s2 n2).out.st z=κ3.st from g1.symm]at R
      split at R
      ·rename_i ds0 yW e1 e2
       cases e1
       split at R
       ·rename_i Ca hds'
        cases R
        obtain⟨E,k1,k2,k3,k4,k5⟩:=Kl w3 hn hpp Yk hst1 g2 (u4.trans g3) e2
        exact⟨E,k1,k2,k3,w4.trans k4,v,rfl,D7 k5 g5 hds'⟩
       ·exact R.elim
      ·exact R.elim
end Go.AM
namespace Go.AM
def Cj(sh:um)(du:List Gh)(args:List D)(st:St):List Nat:=bif du.isEmpty then match mapOf sh (ym args 0) st with | some mp=>others st.length mp | none=>[]else[]
def gX.free(d:gX)(args:List D)(st:St):List Nat:=Cj d.sh d.du args st
def lB.free(d:lB)(args:List D)(st:St):List Nat:=Cj d.sh d.du args st
theorem F1{m b:Nat}{l:List Nat}(h:b∈others m l):b<m/\∀ x∈l,b≠x:=by
 simp only[others,List.mem_filter,List.mem_range,qF,List.any_eq_false]at h
 exact⟨h.1,λx N e=>by subst e; exact h.2 b N (qS _)⟩
theorem Uv:∀ {mp:List Nat} {b:Nat},(∀ x∈mp,b≠x)->pos mp b=none
 | [],_,_=>rfl
 | x::r,b,h=>by
  simp only[pos]
  rw[show V x b=false from by cases I:V x b with | false=>rfl | true=>exact absurd (zA I).symm (h x zQ),cond_false,Uv λy hy=>h y (zI _ hy)]
theorem Yg{sh:um}{du:List Gh}{args:List D}{st:St}{b:Nat}(I:b∈Cj sh du args st):du=[]/\∃ mp,mapOf sh (ym args 0) st=some mp/\b<st.length/\pos mp b=none:=by
 unfold Cj at I
 cases hn:du.isEmpty with
 | false=>grind
 | true =>
  rw[hn,cond_true]at I
  refine⟨zW.1 hn,?_⟩
  split at I
  ·rename_i mp Kc
   obtain⟨h1,M⟩:=F1 I
   exact⟨mp,Kc,h1,Uv M⟩
  ·cases I
theorem gX.VX{d:gX}{args:List D}{st ql:St}{rs:GF}{b:Nat}(h:(d.S args st).leads (rs,ql))(I:b∈d.free args st):ql[b]? = st[b]? := by
 obtain⟨hn,mp,Kc,wL,Wp⟩:=Yg I
 unfold gX.S at h
 rw[hn]at h
 simp only[gh,Kc]at h
 cases hc:cC mp&&zM mp.length d.sh.bs.length&&V args.length d.ks.length with
 | false=>rw[hc]at h; exact h.elim
 | true =>
  rw[hc,cond_true]at h
  unfold gX.inner at h
  split at h
  ·exact h.elim
  ·split at h
   ·exact h.elim
   ·obtain⟨x,_,h⟩:=T.zd.1 h
    obtain⟨y,_,h⟩:=T.zd.1 h
    unfold gX.back at h
    split at h
    ·split at h
     ·cases h; exact lF wL Wp
     ·exact h.elim
    ·exact h.elim
theorem lB.VX{d:lB}{args:List D}{st ql:St}{rs:GF}{b:Nat}(h:(d.S args st).leads (rs,ql))(I:b∈d.free args st):ql[b]? = st[b]? := by
 obtain⟨hn,mp,Kc,wL,Wp⟩:=Yg I
 unfold lB.S lB.K at h
 rw[hn]at h
 simp only[gh,Kc]at h
 cases hc:cC mp&&zM mp.length d.sh.bs.length&&V args.length d.ks.length with
 | false=>rw[hc]at h; exact h.elim
 | true =>
  rw[hc,cond_true]at h
  unfold lB.X2 at h
  split at h
  ·exact h.elim
  ·split at h
   ·exact h.elim
   ·obtain⟨x,_,h⟩:=T.zd.1 h
    obtain⟨y,_,h⟩:=T.zd.1 h
    cases y with
    | inl y =>
     simp at h
     unfold gX.Qf at h
     split at h
     ·split at h
      ·cases h; exact lF wL Wp
      ·exact h.elim
     ·exact h.elim
    | inr z =>
     simp at h
     unfold lB.LV at h
     split at h
     ·unfold lB.z2E at h
      split at h
      ·cases h; exact lF wL Wp
      ·exact h.elim
     ·unfold gX.Qf at h
      split at h
      ·split at h
       ·cases h; exact lF wL Wp
       ·exact h.elim
      ·exact h.elim
def oH:It->Bool
 | .s _ (.qi _)=>true
 | .a _=>true
 | _=>false
def W4:Bk->Bool
 | .arr _=>true
 | _=>false
def G6(o:um):Bool:=o.cs.isEmpty&&o.ff.all oH&&o.bs.all W4
def gX.Qr(d:gX)(args:List D):Option (List Nat):=bif d.du.isEmpty&&G6 d.out&&zM d.out.bs.length d.sh.bs.length then DC (Sr d.sh (ym args 0) 0 d.sh.bs)else none
theorem EY(sh:um)(st:St)(m':List (Option Nat)):∀ (m:List (Option Nat)) (b:Nat) (l:List Nat),DC m=some l->Ss sh st m' b m=m
 | [],_,_,_=>rfl
 | some x::r,b,l,h=>by
  simp only[DC]at h
  split at h
  ·rename_i l' R; simp only[Ss,EY sh st m' r (b+1) l' R]
  ·cases h
 | none::_,_,_,h=>by cases h
theorem z1Z{sh:um}{fr:Fr}{st:St}{l:List Nat}(h:DC (Sr sh fr 0 sh.bs)=some l):mapOf sh fr st=some l:=by
 simp only[mapOf,EY sh st _ _ 0 l h]
 exact h
theorem DD:∀ {m:List (Option Nat)} {l:List Nat},DC m=some l->l.length=m.length
 | [],_,h=>by cases h; rfl
 | some x::r,_,h=>by
  simp only[DC]at h
  split at h
  ·rename_i l' R; cases h; simp[DD R]
  ·cases h
 | none::_,_,h=>by cases h
theorem EX(sh:um)(fr:Fr):∀ (bs:List Bk) (b:Nat),(Sr sh fr b bs).length=bs.length
 | [],_=>rfl
 | _::r,b=>by simp only[Sr,qK,EX sh fr r (b+1)]
theorem Vg{α:Type}{l:List α}(x:α):∀ {mp:List Nat} {r:List α},iH l mp=some r->iH (l++[x]) mp=some r/\∀ b∈mp,b<l.length
 | [],_,h=>⟨h,λb I=>by cases I⟩
 | b::mp,r,h=>by
  simp only[iH]at h
  split at h
  ·rename_i y hy
   split at h
   ·rename_i z hz
    cases h
    obtain⟨h1,M⟩:=Vg x hz
    have I:=(Y.1 hy).1
    refine⟨?_,λc hc=>(zH.1 hc).elim (λe=>e▸I) (M c)⟩
    simp only[iH,zK I,hy,h1]
   ·cases h
  ·cases h
theorem Jt{α:Type}(mp:List Nat)(new:List α)(x:α):∀ (l:List α) (i:Nat),pos mp (i+l.length)=none->nB mp new i (l++[x])=nB mp new i l++[x]
 | [],i,h=>by simp only[List.length_nil,Nat.add_zero]at h; simp[nB,h]
 | y::r,i,h=>by
  have:=Jt mp new x r (i+1) (by rw[<- h]; congr 1; simp; omega)
  simp[nB,this]
theorem Bg(st0:St):∀ (bs:List Bk) (l:List Bd),bs.all W4=true->∀ b∈jB st0 bs l,∀ f,Vj f b=some b
 | [],_,_,b,I,_=>by cases I
 | .arr e::r,l,ha,b,I,f=>by
  simp only[zF,X]at ha
  cases l with
  | nil=>simp[jB]at I
  | cons z l =>
   cases z with
   | a e' xs =>
    rcases zH.1 (show b∈cG.arr xs.length e' xs::jB st0 r l from I)with rfl | I
    ·rfl
    ·exact Bg st0 r l ha.2 b I f
   | v k y=>simp[jB]at I
 | .var _::r,_,ha,_,_,_=>by simp[W4]at ha
 | .cvar _::r,_,ha,_,_,_=>by simp[W4]at ha
 | .dead::r,_,ha,_,_,_=>by simp[W4]at ha
theorem Fl:∀ (l:List cG) (f:Nat->Option Nat),(∀ b∈l,Vj f b=some b)->od f l=some l
 | [],_,_=>rfl
 | b::r,f,h=>by simp only[od,h b zQ,Fl r f λx N=>h x (zI _ N)]
theorem YQ(st:St):∀ (ff:List It) (x:jP ff),ff.all oH=true->∀ s d,(nc st ff x).get s=some d->∀ f,rN f d=some d
 | [],_,_,s,d,h,_=>by cases h
 | [i],x,ha,s,d,h,f=>by
  cases i with
  | s t k =>
   cases k with
   | qi τ =>
    simp only[nc,Qw,Fr.get]at h
    cases I:V t s with
    | true=>rw[I]at h; cases h; rfl
    | false=>rw[I]at h; cases h
   | _=>simp[oH]at ha
  | v k=>simp[oH]at ha
  | a e=>cases h
 | i::j::r,x,ha,s,d,h,f=>by
  have ha':oH i=true/\(j::r).all oH=true:=by simpa using ha
  cases i with
  | s t k =>
   cases k with
   | qi τ =>
    simp only[nc,Qw,Fr.get]at h
    cases I:V t s with
    | true=>rw[I]at h; cases h; rfl
    | false=>rw[I]at h; exact YQ st (j::r) x.2 ha'.2 s d h f
   | _=>simp[oH]at ha'
  | v k=>simp[oH]at ha'
  | a e=>exact YQ st (j::r) x.2 ha'.2 s d h f
theorem G2{fr:Fr}(hf:∀ s d,fr.get s=some d->∀ f,rN f d=some d):∀ (n i:Nat) (ds:List D),Bl fr n i=some ds->∀ f,Xn f ds=some ds
 | 0,_,ds,h,f=>by cases h; rfl
 | n+1,i,ds,h,f=>by
  simp only[Bl]at h
  split at h
  ·rename_i d J
   split at h
   ·rename_i r hr
    cases h
    simp only[Xn,hf i d J f,G2 hf n (i+1) r hr f]
   ·cases h
  ·cases h
theorem YS(st0:St):∀ (bs:List Bk) (l:List Bd),(jB st0 bs l).length<=bs.length
 | [],l=>by simp[jB]
 | b::r,l=>by
  cases b<;>cases l<;>(try (rename_i z _; cases z))<;>simp only[jB,qK,List.length_nil]<;>first | omega | (have:=YS st0 r; grind)
theorem gX.Gr{d:gX}{args:List D}{oE:List Nat}(ht:d.Qr args=some oE){st ql:St}{rs:GF}(h:(d.S args st).leads (rs,ql)) :
  ql.length=st.length/\(∀ b,b<st.length->b ∉ oE->ql[b]? = st[b]?)/\∀ x,(d.S args (st++[x])).leads (rs,ql++[x]):=by
 unfold gX.Qr at ht
 cases I:d.du.isEmpty&&G6 d.out&&zM d.out.bs.length d.sh.bs.length with
 | false=>rw[I]at ht; cases ht
 | true =>
  rw[I,cond_true]at ht
  simp only[X]at I
  obtain⟨⟨hn,hp⟩,hle⟩:=I
  have hn:=zW.1 hn
  have hle:=zE hle
  have hm:∀ s:St,mapOf d.sh (ym args 0) s=some oE:=λs=>z1Z ht
  have hTl:oE.length=d.sh.bs.length:=(DD ht).trans (EX ..)
  unfold gX.S at h ⊢
  rw[hn]at h
  simp only[gh,hm]at h
  cases hc:cC oE&&zM oE.length d.sh.bs.length&&V args.length d.ks.length with
  | false=>rw[hc]at h; exact h.elim
  | true =>
   rw[hc,cond_true]at h
   unfold gX.inner at h
   split at h
   ·exact h.elim
   ·rename_i l R
    split at h
    ·exact h.elim
    ·rename_i dz hst1
     obtain⟨x,h1,h⟩:=T.zd.1 h
     obtain⟨y,M,h⟩:=T.zd.1 h
     have hpo:d.out.cs.isEmpty=true/\d.out.ff.all oH=true/\d.out.bs.all W4=true:=by
      unfold G6 at hp; simp only[X]at hp; exact⟨hp.1.1,hp.1.2,hp.2⟩
     have vU:∀ f,od f (d.out.st y)=some (d.out.st y):=λf=>Fl _ f λb I=>Bg _ _ _ hpo.2.2 b I f
     have hfr:∀ s e,(d.out.fr y).get s=some e->∀ f,rN f e=some e:=λs e he f=>by
      unfold um.fr at he
      rw[zW.1 hpo.1,show z83 (d.out.st y) []=[]from rfl,zT]at he
      exact YQ _ _ y hpo.2.1 s e he f
     have hlen:(d.out.st y).length<=oE.length:=by rw[hTl]; exact zV (YS _ _ _) hle
     unfold gX.back at h
     split at h
     ·rename_i ds yW hds hst2
      rw[vU]at hst2
      cases hst2
      rw[G2 hfr _ _ _ hds]at h
      cases h
      obtain⟨hl0,wL⟩:=Vg (.dead:cG) R
      have Wp:pos oE st.length=none:=Uv λb I e=>by have:=wL b I; omega
      have Ev:(d.out.st y).drop oE.length=[]:=List.drop_eq_nil_of_le hlen
      refine⟨?_,λb I hbt=>lF I (Uv λc hc e=>hbt (e▸hc)),λz => ?_⟩
      ·simp[jd,gN,Ev]
      ·rw[hn]
       simp only[gh,hm]
       rw[hc,cond_true]
       unfold gX.inner
       rw[(Vg z R).1]
       simp only[hst1]
       refine T.zd.2 ⟨x,h1,T.zd.2 ⟨y,M,?_⟩⟩
       unfold gX.back
       rw[hds,vU]
       simp only[G2 hfr _ _ _ hds]
       show _=_
       simp only[jd,Ev,zT]
       rw[Jt oE _ z st 0 (by rw[qD]; exact Wp)]
     ·exact h.elim
end Go.AM
namespace Go.AM
def Vu.den:Vu->Type
 | .ty τ=>AM.den τ
 | .rp τ=>AM.den τ
 | .wg _ caps=>fI caps
def dQ:List Vu->Type
 | []=>Unit
 | [p]=>p.den
 | p::q::r=>p.den×dQ (q::r)
def mkP:(p:Vu)->p.den->D
 | .ty τ,x=>.qi τ x
 | .rp τ,x=>.vz τ x
 | .wg f caps,x=>.wg f (ZP caps x)
def Jh:(l:List Vu)->dQ l->List D
 | [],_=>[]
 | [p],x=>[mkP p x]
 | p::q::r,x=>mkP p x.1::Jh (q::r) x.2
def Ua:(l:List Ty)->Dl l->List D
 | [],_=>[]
 | [τ],x=>[.qi τ x]
 | τ::σ::r,x=>.qi τ x.1::Ua (σ::r) x.2
def rpX(st:St)(τ:Ty):D->T (den τ)
 | .vz _ x=>match(jN x:Option (den τ))with | some y=>.ret y | none=>.fail
 | .ptr b off=>match st[b]? with
  | some (.var d)=>match bif V off 0 then oo τ d else none with | some y=>.ret y | none=>.fail
  | _=>.fail
 | _=>.fail
def z56(st:St):(p:UQ)->D->T (den p.ty)
 | .im τ,d=>VG st τ d
 | .rp τ,d=>rpX st τ d
def Mw(st:St):(l:List UQ)->List D->T (fI l)
 | [],[]=>.ret ()
 | [p],[d]=>z56 st p d
 | p::q::r,d::ds=>(z56 st p d).bind λx=>(Mw st (q::r) ds).bind λy=>.ret (x,y)
 | _,_=>.fail
def unP(st:St):(p:Vu)->D->T p.den
 | .ty τ,d=>VG st τ d
 | .rp τ,d=>rpX st τ d
 | .wg f caps,d=>match d with
  | .wg f' l=>bif V f f' then Mw st caps l else .fail
  | _=>.fail
def FD(st:St):(l:List Vu)->List D->T (dQ l)
 | [],[]=>.ret ()
 | [p],[d]=>unP st p d
 | p::q::r,d::ds=>(unP st p d).bind λx=>(FD st (q::r) ds).bind λy=>.ret (x,y)
 | _,_=>.fail
def z3k(st:St):(l:List Ty)->List D->T (Dl l)
 | [],[]=>.ret ()
 | [τ],[d]=>VG st τ d
 | τ::σ::r,d::ds=>(VG st τ d).bind λx=>(z3k st (σ::r) ds).bind λy=>.ret (x,y)
 | _,_=>.fail
structure Dz where
 ps:List Vu
 rs:List Ty
 F:dQ ps->T (Dl rs)
def zaZ:Vu->D->Bool
 | .wg f _,d=>match d with | .wg f' _=>V f f' | _=>false
 | _,d=>match d with | .wg _ _=>false | _=>true
def fits:List Vu->List D->Bool
 | [],[]=>true
 | p::ps,d::ds=>zaZ p d&&fits ps ds
 | _,_=>false
def zb0:AK->D->Bool
 | .any,d=>match d with | .wg _ _=>false | _=>true
 | .cur,d=>match d with | .ms .. => true | .wE=>true | _=>false
 | .sub,d=>match d with | .ms .. => true | _=>false
 | .ptr,d=>match d with | .ptr .. => true | _=>false
 | .wg f,d=>match d with | .wg f' _=>V f f' | _=>false
 | .agg,d=>match d with | .agg _=>true | _=>false
def Qn:List AK->List D->Bool
 | [],[]=>true
 | p::ps,d::ds=>zb0 p d&&Qn ps ds
 | _,_=>false
inductive FnE where
 | d (x:Dz)
 | s (x:gX)
 | p (x:lB)
def FnE.fits:FnE->List D->Bool
 | .d x,l=>AM.fits x.ps l
 | .s x,l=>Qn x.ks l
 | .p x,l=>Qn x.ks l
abbrev lC:=List (Nat×FnE)
def lC.find:lC->Nat->List D->Option FnE
 | [],_,_=>none
 | (g',d)::r,g,args=>bif V g' g&&d.fits args then some d else lC.find r g args
abbrev Sm:=List D->St->T (GF×St)
def Dz.S(d:Dz):Sm:=λargs st=>match st with
 | []=>(FD [] d.ps args).bind λx=>(d.F x).bind λy=>.ret (.ret (Ua d.rs y),[])
 | _=>.fail
def lC.call(tab:lC)(g:Nat)(args:List D)(st:St):T (GF×St):=match tab.find g args with | some (.d d)=>d.S args st | some (.s d)=>d.S args st | some (.p d)=>d.S args st | none=>.fail
def lC.free(tab:lC)(g:Nat)(args:List D)(st:St):List Nat:=match tab.find g args with | some (.s d)=>d.free args st | some (.p d)=>d.free args st | _=>[]
theorem lC.VX(tab:lC)(g:Nat)(args:List D)(st:St)(rs:GF)(ql:St)(b:Nat)(h:(tab.call g args st).leads (rs,ql))(I:b∈tab.free g args st):ql[b]? = st[b]? := by
 unfold lC.call at h
 unfold lC.free at I
 split at I
 ·rename_i d J; rw[J]at h; exact gX.VX h I
 ·rename_i d J; rw[J]at h; exact lB.VX h I
 ·cases I
def lC.Qr(tab:lC)(g:Nat)(args:List D):Option (List Nat):=match tab.find g args with | some (.s d)=>d.Qr args | _=>none
theorem lC.Gr(tab:lC)(g:Nat)(args:List D)(oE:List Nat)(st:St)(rs:GF)(ql:St)(ht:tab.Qr g args=some oE)(h:(tab.call g args st).leads (rs,ql)) :
  ql.length=st.length/\(∀ b,b<st.length->b ∉ oE->ql[b]? = st[b]?)/\∀ x,(tab.call g args (st++[x])).leads (rs,ql++[x]):=by
 unfold lC.Qr at ht
 unfold lC.call at h ⊢
 split at ht
 ·rename_i d J
  rw[J]at h ⊢
  exact gX.Gr ht h
 ·cases ht
def gM(P:Program)(xid:Nat)(tab:lC)(ro:Nat->Bool):Ctx :=
 { P,xid,ro,sig:=λg args=>match tab.find g args with | some (.d d)=>some ⟨d.ps,d.rs⟩ | _=>none,fn:=tab.call,free:=tab.free,z05:=tab.VX,Qr:=tab.Qr,Pq:=tab.Gr }
def z9a{α:Type}(tab:lC)(g:Nat)(args:List D)(st:St)(k:Nat->Option D->St->T α)(kp:D->St->T α):T α:=match tab.find g args with
 | none=>.fail
 | some (.d d)=>bif !(args.any Jj)then(FD [] d.ps args).bind λx=>(d.F x).bind λy=>k 0 (some (eI (Ua d.rs y))) st
  else(FD st d.ps args).bind λx=>(d.F x).bind λy=>bif (Ua d.rs y).all Wd then k 1 (some (eI (Ua d.rs y))) st else .fail
 | some (.s d)=>d.K args st λds ql=>k 2 (some (eI ds)) ql
 | some (.p d)=>d.K args st (λds ql=>k 2 (some (eI ds)) ql) kp
def C1{α:Type}(tab:lC)(f:Option D)(args:List (Option D))(st:St)(k:Nat->Option D->St->T α)(kp:D->St->T α):T α:=match f,gx args with
 | some (.wg g caps),some l=>z9a tab (dX g) (bG g l caps) st k kp
 | _,_=>.fail
def ob(l:List Nat):Fr:=l.map λs=>(s,none)
def dstsOf:List Oper->List Nat
 | []=>[]
 | o::r=>match o.dst with | some t=>t::dstsOf r | none=>dstsOf r
def wF:Code->List Nat
 | .region _ ops _=>dstsOf ops.toList
 | .seq a b=>wF a++wF b
 | .cond _ a b=>wF a++wF b
 | .block _ a=>wF a
 | .loop a=>wF a
 | _=>[]
structure q9 where
 gh:List Gh
 ps:List It
 sh:um
 ws:List Way
 F:jP ps->sh.den->T (fJ ws)
inductive z4S where
 | flat (ff:List It)
 | ways (ws:List Way)
 | H8
structure Hints where
 loop:Nat->Option q9
 cut:Nat->Nat->Option z4S
 frz:Nat->List Nat
def r9:Code->Option Nat
 | .region id _ _=>some id
 | .seq a b=>match r9 a with | some n=>some n | none=>r9 b
 | .cond _ a b=>match r9 a with | some n=>some n | none=>r9 b
 | .block _ a=>r9 a
 | .loop a=>r9 a
 | _=>none
def keyOf(x:Code):Nat×Nat:=(match x with | .region .. => 0 | .cond .. => 1 | .block .. => 2 | _=>3,match r9 x with | some n=>n | none=>0)
def z9Y(l:List Nat)(s:Nat):Bool := !(l.any (V s))
def KF:Dk->Bool
 | .sub _ _=>false
 | .st _=>false
 | .mclo _ _=>false
 | _=>true
def Lt(ps:List It)(ws:List Nat):Bool:=ps.all λi=>match i with
 | .s t k=>KF k&&z9Y ws t
 | _=>false
def Cg{α:Type}:T α->Option α
 | .ret a=>some a
 | .ite _ t e=>match Cg t with | some a=>some a | none=>Cg e
 | .W _ t=>Cg t
 | .fail=>none
def EZ{α β:Type}(f:α->β):T α->T β
 | .ret a=>.ret (f a)
 | .ite b t e=>.ite b (EZ f t) (EZ f e)
 | .W p t=>.W p (EZ f t)
 | .fail=>.fail
def SV:(l:List It)->jP l->T (jP l)->jP l
 | [],_,_=>()
 | [_],d,t=>T.val d t
 | _::j::r,d,t=>(T.val d.1 (EZ Prod.fst t),SV (j::r) d.2 (EZ Prod.snd t))
def z03(l:List It)(t:T (jP l)):T (jP l):=match Cg t with
 | some d=>match t.Uw with
  | none=>.ret (SV l d t)
  | some p=>.W p (.ret (SV l d t))
 | none=>.fail
def Br(l:List It):Bool:=l.all λi=>match i with
 | .s _ k=>KF k
 | _=>false
structure I1 where
 ex:Ex
 fr:Fr
 kn:Kn
 st:St
 q:Bool      -- the store has not been written
def quiet(ks:List Nat):Bool:=ks.all λk => !(V k 2)
structure zdO where
 e:Ty
 l:List (den e)
 m:Nat
 s:Nat
 c:Nat
 eq:Bool
def z2h:BinOp->Option Bool
 | .eql=>some true
 | .neq=>some false
 | _=>none
def L3:Operand->Bool
 | .const (.slice none 0 0)=>true
 | _=>false
def CJ(c:Ctx)(n:Nat)(ops:Array Oper)(fr:Fr):Option zdO:=match ops.toList with
 | [o1,o2]=>match o1.dst,o1.op,o1.guard with
  | some m,.move (.tmp s),none=>match o2.dst,o2.op,o2.guard with
   | some cc,.binOp op t (.tmp m') y _,none=>match z2h op,fr.get s,mR c t with
    | some b,some (.qi (.sl e) l),some _=>bif V m m'&&L3 y&&zO m n&&zO cc n then some ⟨e,l,m,s,cc,b⟩else none
    | _,_,_=>none
   | _,_,_=>none
  | _,_,_=>none
 | _=>none
def opsOf:Code->Option (Array Oper)
 | .region _ ops false=>some ops
 | _=>none
section
variable (c:Ctx) (tab:lC)
variable [Wj]
def Wg{α:Type}(n:Nat)(o:Oper)(s:oh)(k:oh->T α)(kp:D->St->T α):T α :=
 bif yX n o.dst then match o.op with
  | .call cl=>match cl.callee with
   | .value f=>C1 tab (bn s.fr f) (cl.args.toList.map (bn s.fr)) s.st (λkd d ql=>k ⟨s.fr.put o.dst d,Hb s.kn o.dst none,ql,kd::s.ks,vu c (bn s.fr) s.st o::s.bk⟩) kp
   | _=>let cl:=Qm c s.kn s.fr o
    (qt cl s.st).bind λr=>k ⟨s.fr.put o.dst r.1,Hb s.kn o.dst (H5 s.kn o.op),r.2,cl.kind::s.ks,vu c (bn s.fr) s.st o::s.bk⟩
  | .panic x=>match bn s.fr x with
   | some (.iface t d)=>kp (.iface t d) s.st
   | _=>.fail
  | _=>let cl:=Qm c s.kn s.fr o
   (qt cl s.st).bind λr=>k ⟨s.fr.put o.dst r.1,Hb s.kn o.dst (H5 s.kn o.op),r.2,cl.kind::s.ks,vu c (bn s.fr) s.st o::s.bk⟩
 else .fail
def LK{α:Type}(n:Nat)(ops:Array Oper)(o:Oper)(s:oh)(k:oh->T α)(kp:D->St->T α):T α:=match o.guard with
 | none=>Wg c tab n o s k kp
 | some (j,want)=>match br ops j with
  | none=>.fail
  | some t=>match s.kn.get t with
   | some b=>bif b==want then Wg c tab n o s k kp else bif yX n o.dst then k (cD o s)else .fail
   | none=>match s.fr.get t with
    | some (.qi .bool x)=>bif yX n o.dst then
      .ite x (bif want then Wg c tab n o (s.l0 t true) k kp else k (cD o (s.l0 t true)))
          (bif want then k (cD o (s.l0 t false))else Wg c tab n o (s.l0 t false) k kp)
     else .fail
    | some (.eA [])=>bif yX n o.dst then k (cD o s)else .fail
    | _=>.fail
def KH{α:Type}(n:Nat)(ops:Array Oper):List Oper->oh->(oh->T α)->(D->St->T α)->T α
 | [],s,k,_=>k s
 | o::l,s,k,kp=>LK c tab n ops o s (λs'=>KH n ops l s' k kp) kp
def Gd{α:Type}(n:Nat)(ops:Array Oper)(draw:Bool)(fr:Fr)(kn:Kn)(st:St)(k:oh->T α)(kp:D->St->T α):T α :=
 KH c tab n ops ops.toList ⟨fr,kn,st,[],[]⟩ (λs=>bif !draw||WT ops s.ks.reverse s.bk.reverse then k s else .fail) (λd ql=>bif draw then .fail else kp d ql)
def Vv(n:Nat)(H:Hints):Code->Fr->Kn->St->{α:Type}->(I1->T α)->T α
 | .skip,fr,kn,st,_,k=>k ⟨.normal,fr,kn,st,true⟩
 | .region id ops draw,fr,kn,st,_,k=>(frz (H.frz id) fr st).bind λz=>Gd c tab n ops draw z.1 kn z.2 (λs=>k ⟨.normal,s.fr,s.kn,s.st,quiet s.ks&&(H.frz id).isEmpty⟩) (λd ql=>k ⟨.hH d,[],[],ql,false⟩)
 | .seq a b,fr,kn,st,_,k=>match H.cut (keyOf a).1 (keyOf a).2 with
  | none=>Vv n H a fr kn st λr=>match r.ex with
   | .normal=>Vv n H b r.fr r.kn r.st λo=>k { o with q:=r.q&&o.q }
   | _=>k r
  | some (.flat ff)=>bif Br ff then
    (z03 ff (Vv n H a fr kn st λo=>match o.ex with
     | .normal=>bif o.q then BG o.fr o.st ff []else .fail
     | _=>.fail)).bind λx=>Vv n H b (nc st ff x++(ob (wF a)++fr)) [] st k
   else .fail
  | some .H8=>match opsOf a with
   | none=>.fail
   | some ops=>match CJ c n ops fr with
    | none=>.fail
    | some p =>
     let non:=Vv n H b ((p.c,some (.qi .bool (!p.eq)))::(p.m,some (.qi (.sl p.e) p.l))::fr) [(p.c,some (!p.eq))] st k
     .W (p.l=[]->∀ r,non.leads r->(Vv n H b ((p.c,some (.qi .bool p.eq))::(p.m,some .wE)::(p.s,some .wE)::fr) [(p.c,some p.eq)] st k).leads r) non
  | some (.ways ws)=>bif ws.all λw=>zM st.length w.sh.bs.length then
    (Vv n H a fr kn st λo=>Cv ws o.ex (GR o.ex o.fr) o.st).bind λr=>ME ws r λex out ql=>match Eb ex out with
     | none=>.fail
     | some z=>match z.1 with
      | .normal=>Vv n H b (z.2++(ob (wF a)++fr)) [] ql λo=>k { o with q:=false }
      | e=>k ⟨e,z.2++(ob (wF a)++fr),[],ql,false⟩
   else .fail
 | .cond x a b,fr,kn,st,_,k=>match rj kn x with
  | some true=>Vv n H a fr kn st k
  | some false=>Vv n H b fr kn st k
  | none=>match x with
   | .tmp t=>match fr.get t with
    | some (.qi .bool v)=>.ite v (Vv n H a fr ((t,some true)::kn) st k) (Vv n H b fr ((t,some false)::kn) st k)
    | _=>.fail
   | _=>.fail
 | .block id (.loop b),fr,_,st,_,k=>match H.loop id with
  | none=>.fail
  | some l=>let g:=gh l.gh fr st
   bif zM g.2.length l.sh.bs.length&&Lt l.ps (wF b)&&l.ws.all λw=>zM l.sh.bs.length w.sh.bs.length then
    (BG g.1 g.2 l.ps []).bind λp=>(l.sh.un g.1 g.2).bind λs=>(l.F p s).bind λr=>ME l.ws r λex out ql=>match Eb ex out with
     | none=>.fail
     | some z=>match z.1 with
      | .exit id'=>bif V id' id then k ⟨.normal,z.2++(ob (wF b)++g.1),[],ql,false⟩else k ⟨.exit id',z.2++(ob (wF b)++g.1),[],ql,false⟩
      | .normal=>.fail
      | e=>k ⟨e,z.2++(ob (wF b)++g.1),[],ql,false⟩
   else .fail
 | .block id a,fr,kn,st,_,k=>Vv n H a fr kn st λr=>match r.ex with
  | .exit id'=>bif V id' id then k { r with ex:=.normal } else k r
  | _=>k r
 | .exit id,fr,kn,st,_,k=>k ⟨.exit id,fr,kn,st,true⟩
 | .ret,fr,kn,st,_,k=>k ⟨.ret,fr,kn,st,true⟩
 | _,_,_,_,_,_=>.fail
def z2R(n:Nat)(H:Hints)(l:q9)(b:Code)(p:jP l.ps)(s:l.sh.den):T (l.sh.den⊕fJ l.ws) :=
 Vv c tab n H b (l.sh.fr s++nc (l.sh.st s) l.ps p) [] (l.sh.st s) λo=>match o.ex with
  | .normal=>(l.sh.un o.fr o.st).bind λs'=>.ret (.inl s')
  | e=>(Cv l.ws e (GR e o.fr) o.st).bind λr=>.ret (.inr r)
def z01(H:Hints)(fn:Func)(code:Code)(d:Dz)(x:dQ d.ps):T (Dl d.rs) :=
 bif zM (Jh d.ps x).length fn.ntmps then
  Vv c tab fn.ntmps H code (ym (Jh d.ps x) 0) [] [] λo=>match o.ex with
   | .normal=>(nj c o.fr o.st fn.results.toList).bind λds=>z3k o.st d.rs ds
   | .ret=>(nj c o.fr o.st fn.results.toList).bind λds=>z3k o.st d.rs ds
   | _=>.fail
 else .fail
def z2z:List (Nat×Ck)->List Gh
 | []=>[]
 | (s,.cur _ e)::r=>.slot s e::z2z r
 | _::r=>z2z r
def msB:D->Option Nat
 | .ms b _ _ _ _=>some b
 | _=>none
def zp6:Option cG->List D
 | some (.var d)=>xx d
 | _=>[]
def SG(st:St):List D->List Nat
 | []=>[]
 | .ms b _ _ _ _::r=>b::SG st r
 | .ptr b _::r=>b::((zp6 st[b]?).filterMap msB++SG st r)
 | .agg l::r=>l.filterMap msB++SG st r
 | _::r=>SG st r
def z86(m:Nat):List Nat->List Nat->List Nat
 | seen,[]=>seen
 | seen,b::r=>bif zM m b&&(match pos seen b with | none=>true | some _=>false)then z86 m (seen++[b]) r else z86 m seen r
def canon(m:Nat)(ds:List D)(st:St):List D×St :=
 let mp:=zX m++z86 m [] (SG st ds)
 match iH st mp with
 | some l=>match od (pos mp) l,Xn (pos mp) ds with
  | some dz,some ds1=>bif cC mp then(ds1,dz)else(ds,st)
  | _,_=>(ds,st)
 | none=>(ds,st)
def kc:List Sk->List D->St->List D×St
 | .row _ e::ks,.wE::l,st=>bif zO 0 e.size then((.ms st.length 0 e 0 0)::(kc ks l (st++[.arr 0 e []])).1,(kc ks l (st++[.arr 0 e []])).2)
  else(.wE::(kc ks l st).1,(kc ks l st).2)
 | _::ks,d::l,st=>(d::(kc ks l st).1,(kc ks l st).2)
 | _,l,st=>(l,st)
def SL:List It->Nat->List Sk
 | [],_=>[]
 | .s t (.st ks)::r,i=>bif V t i then ks else SL r i
 | _::r,i=>SL r i
def tn(ff:List It):Nat->List D->St->List D×St
 | _,[],st=>([],st)
 | i,.agg l::ds,st=>(.agg (kc (SL ff i) l st).1::(tn ff (i+1) ds (kc (SL ff i) l st).2).1,(tn ff (i+1) ds (kc (SL ff i) l st).2).2)
 | i,d::ds,st=>(d::(tn ff (i+1) ds st).1,(tn ff (i+1) ds st).2)
def CZ(out:um)(m:Nat)(ds:List D)(st:St):List D×St :=
 bif (out.ff.all λ| .s _ (.st _)=>false | _=>true)&&(out.cs.all λ| (_,.ptr _ _)=>false | (_,.cur _ _)=>false | _=>true)then(ds,st)
 else canon m (tn out.ff 0 (canon m ds st).1 (canon m ds st).2).1 (tn out.ff 0 (canon m ds st).1 (canon m ds st).2).2
def WE(out:um)(m nr:Nat)(ds:List D)(st:St):T out.den :=
 bif V ds.length nr then(out.un (gh (z2z out.cs) (ym (CZ out m ds st).1 0) (CZ out m ds st).2).1 (gh (z2z out.cs) (ym (CZ out m ds st).1 0) (CZ out m ds st).2).2).bind λy =>
  bif (oG nr (out.fr y)).isSome then .ret y else .fail else .fail
def ID(H:Hints)(fn:Func)(code:Code)(d:gX)(x:d.sh.den):T d.out.den :=
 bif zM d.ks.length fn.ntmps&&zM d.sh.bs.length d.out.bs.length then
  Vv c tab fn.ntmps H code (d.sh.fr x) [] (d.sh.st x) λo=>match o.ex with
   | .normal=>(nj c o.fr o.st fn.results.toList).bind λds=>WE d.out (d.sh.st x).length d.nr ds o.st
   | .ret=>(nj c o.fr o.st fn.results.toList).bind λds=>WE d.out (d.sh.st x).length d.nr ds o.st
   | _=>.fail
 else .fail
def z9t:List D->Bool
 | .gS::_=>true
 | .wE::_=>true
 | .agg (.wE::_)::_=>true
 | _=>false
def z8t(d:lB)(m:Nat)(ds:List D)(st:St):T (d.out.den⊕d.hH.den):=match d.two with
 | some n=>bif z9t ds then(WE d.hH m n ds st).bind λz=>.ret (.inr z)else(WE d.out m d.nr ds st).bind λy=>.ret (.inl y)
 | none=>(WE d.out m d.nr ds st).bind λy=>.ret (.inl y)
def IC(H:Hints)(fn:Func)(code:Code)(d:lB)(x:d.sh.den):T (d.out.den⊕d.hH.den) :=
 bif zM d.ks.length fn.ntmps&&zM d.sh.bs.length d.out.bs.length&&zM d.sh.bs.length d.hH.bs.length then
  Vv c tab fn.ntmps H code (d.sh.fr x) [] (d.sh.st x) λo=>match o.ex with
   | .normal=>(nj c o.fr o.st fn.results.toList).bind λds=>z8t d (d.sh.st x).length ds o.st
   | .ret=>(nj c o.fr o.st fn.results.toList).bind λds=>z8t d (d.sh.st x).length ds o.st
   | .hH p=>match p with
    | .iface t v=>bif V t d.pt&&d.two.isNone then(d.hH.un [(0,some v)] o.st).bind λz=>match(d.hH.fr z).get 0 with | some _=>.ret (.inr z) | none=>.fail else .fail
    | _=>.fail
   | _=>.fail
 else .fail
end
end Go.AM
namespace Go.AM
set_option linter.unusedSectionVars false
variable [yV]
open Go.RowKit
section
variable {n:Nat}
theorem z2T{st:St}{τ:Ty}{d:D}{x:den τ}(h:(rpX st τ d).leads x):(Qh st τ d).leads (.vz τ x):=by
 cases d with
 | vz σ y =>
  simp only[rpX]at h
  simp only[Qh]
  cases hy:(jN y:Option (den τ))with
  | none=>rw[hy]at h; exact h.elim
  | some z=>rw[hy]at h; cases h; rfl
 | ptr b off =>
  simp only[rpX]at h
  simp only[Qh]
  cases I:st[b]? with
  | none=>rw[I]at h; exact h.elim
  | some hI =>
   rw[I]at h
   cases hI with
   | var d =>
    simp only at h ⊢
    cases hy:(bif V off 0 then oo τ d else none)with
    | none=>rw[hy]at h; exact h.elim
    | some z=>rw[hy]at h; cases h; rfl
   | _=>exact h.elim
 | _=>exact h.elim
theorem Mv{st:St}{p:UQ}{d:D}{x:den p.ty}(h:(z56 st p d).leads x):(QK st p d).leads (Be p x):=by
 cases p with
 | rp τ=>exact z2T h
 | im τ=>exact T.zd.2 ⟨x,h,rfl⟩
theorem DS{st:St}:∀ (l:List UQ) (ds:List D) (x:fI l),(Mw st l ds).leads x->(mu st l ds).leads (ZP l x)
 | [],[],x,h=>rfl
 | [],_::_,x,h=>h.elim
 | [p],[],x,h=>h.elim
 | [p],[d],x,h=>T.zd.2 ⟨_,Mv h,T.zd.2 ⟨[],rfl,rfl⟩⟩
 | [p],_::_::_,x,h=>h.elim
 | p::q::r,[],x,h=>h.elim
 | p::q::r,d::ds,x,h=>by
  obtain⟨y,h1,M⟩:=T.zd.1 h
  obtain⟨z,h3,h4⟩:=T.zd.1 M
  cases h4
  exact T.zd.2 ⟨_,Mv h1,T.zd.2 ⟨_,DS (q::r) ds z h3,rfl⟩⟩
theorem z3j{st:St}{p:Vu}{d:D}{x:p.den}(h:(unP st p d).leads x):(DW st p d).leads (mkP p x):=by
 cases p with
 | ty τ=>cases d<;>exact T.zd.2 ⟨x,h,rfl⟩
 | rp τ =>
  have:=z2T h
  cases d<;>exact this
 | wg f caps =>
  cases d with
  | wg f' l =>
   simp only[unP]at h
   simp only[DW]
   cases I:V f f' with
   | false=>rw[I]at h; exact h.elim
   | true=>rw[I]at h; exact T.zd.2 ⟨_,DS caps l x h,rfl⟩
  | _=>exact h.elim
theorem KM{st:St}:∀ (l:List Vu) (ds:List D) (x:dQ l),(FD st l ds).leads x->(Qg st l ds).leads (Jh l x)
 | [],[],x,h=>rfl
 | [],_::_,x,h=>h.elim
 | [p],[],x,h=>h.elim
 | [p],[d],x,h=>T.zd.2 ⟨_,z3j h,T.zd.2 ⟨[],rfl,rfl⟩⟩
 | [p],_::_::_,x,h=>h.elim
 | p::q::r,[],x,h=>h.elim
 | p::q::r,d::ds,x,h=>by
  obtain⟨y,h1,M⟩:=T.zd.1 h
  obtain⟨z,h3,h4⟩:=T.zd.1 M
  cases h4
  exact T.zd.2 ⟨_,z3j h1,T.zd.2 ⟨_,KM (q::r) ds z h3,rfl⟩⟩
theorem DX(st:St)(τ:Ty)(x:den τ):(VG st τ (.qi τ x)).leads x:=by
 refine T.zd.2 ⟨.qi τ x,rfl,?_⟩
 rw[T.yp]
 exact QH x
theorem z2S(st:St)(τ:Ty)(x:den τ):(rpX st τ (.vz τ x)).leads x:=by
 simp only[rpX]; rw[QH]; rfl
theorem Mu(st:St)(p:UQ)(x:den p.ty):(z56 st p (Be p x)).leads x:=by
 cases p with
 | rp τ=>exact z2S st τ x
 | im τ=>exact DX st τ x
theorem DR(st:St):∀ (l:List UQ) (x:fI l),(Mw st l (ZP l x)).leads x
 | [],_=>rfl
 | [p],x=>Mu st p x
 | p::q::r,x=>T.zd.2 ⟨x.1,Mu st p x.1,T.zd.2 ⟨x.2,DR st (q::r) x.2,rfl⟩⟩
theorem z3i(st:St)(p:Vu)(x:p.den):(unP st p (mkP p x)).leads x:=by
 cases p with
 | ty τ=>exact DX st τ x
 | rp τ=>exact z2S st τ x
 | wg f caps=>simp only[unP,mkP]; rw[qS]; exact DR st caps x
theorem Dc(st:St):∀ (l:List Vu) (x:dQ l),(FD st l (Jh l x)).leads x
 | [],_=>rfl
 | [p],x=>z3i st p x
 | p::q::r,x=>T.zd.2 ⟨x.1,z3i st p x.1,T.zd.2 ⟨x.2,Dc st (q::r) x.2,rfl⟩⟩
def ev:D->Option Nat | .wg f _=>some f | _=>none
theorem z5i(p:Vu){d e:D}(h:ev d=ev e):zaZ p d=zaZ p e:=by
 cases d<;>cases e<;>simp only[ev]at h<;>first | (cases h; done) | (cases p<;>first | rfl | (cases h; rfl))
theorem MF:∀ (ps:List Vu) {l m:List D},l.map ev=m.map ev->fits ps l=fits ps m
 | [],[],[],_=>rfl
 | [],_::_,_::_,_=>rfl
 | _,[],_::_,h=>by cases h
 | _,_::_,[],h=>by cases h
 | _::_,[],[],_=>rfl
 | p::ps,d::l,e::m,h=>by
  simp at h
  simp only[fits,z5i p h.1,MF ps h.2]
theorem TM{st:St}{τ:Ty}{f:Nat}{l:List D}{x:den τ}(h:(VG st τ (.wg f l)).leads x):False:=by
 obtain⟨y,h1,M⟩:=T.zd.1 h
 cases h1
 rw[T.yp]at M
 cases τ<;>simp[oo,D.isAgg,Ty.isAgg,xx,cF,pD]at M
theorem BH{st:St}{p:Vu}{d:D}{x:p.den}(h:(unP st p d).leads x):ev d=ev (mkP p x):=by
 cases p with
 | ty τ=>cases d<;>first | rfl | exact(TM h).elim
 | rp τ=>cases d<;>first | rfl | exact h.elim
 | wg f caps =>
  cases d with
  | wg f' l =>
   simp only[unP]at h
   cases I:V f f' with
   | false=>rw[I]at h; exact h.elim
   | true=>rw[zA I]; rfl
  | _=>exact h.elim
theorem Gv{st:St}:∀ (l:List Vu) (ds:List D) (x:dQ l),(FD st l ds).leads x->ds.map ev=(Jh l x).map ev
 | [],[],x,h=>rfl
 | [],_::_,x,h=>h.elim
 | [p],[],x,h=>h.elim
 | [p],[d],x,h=>by show[ev d]=[ev (mkP p x)]; rw[BH h]
 | [p],_::_::_,x,h=>h.elim
 | p::q::r,[],x,h=>h.elim
 | p::q::r,d::ds,x,h=>by
  obtain⟨y,h1,M⟩:=T.zd.1 h
  obtain⟨z,h3,h4⟩:=T.zd.1 M
  cases h4
  show ev d::ds.map ev=ev (mkP p y)::(Jh (q::r) z).map ev
  rw[BH h1,Gv (q::r) ds z h3]
def dat(d:D):Bool:=match d with | .qi _ _=>true | .vz _ _=>true | .wg _ _=>true | _=>false
theorem OG(p:Vu)(x:p.den):dat (mkP p x)=true:=by cases p<;>rfl
theorem F3:∀ (l:List Vu) (x:dQ l),∀ d∈Jh l x,dat d=true
 | [],x,d,h=>by cases h
 | [p],x,d,h=>by have h:d∈[mkP p x]:=h; rw[zL]at h; subst h; exact OG p x
 | p::q::r,x,d,h=>by
  rcases zH.1 h with rfl | h
  ·exact OG p x.1
  ·exact F3 (q::r) x.2 d h
theorem z02{a:AK}{d e:D}(h:ev d=ev e)(J:dat e=true)(hf:zb0 a e=true):zb0 a d=true:=by
 cases e with
 | qi τ x=>cases a<;>first | (cases hf; done) | (cases d<;>first | rfl | (cases h; done))
 | vz τ x=>cases a<;>first | (cases hf; done) | (cases d<;>first | rfl | (cases h; done))
 | wg f l=>cases a<;>first | (cases hf; done) | (cases d<;>first | (cases h; exact hf) | cases h)
 | _=>cases J
theorem J5:∀ {ks:List AK} {l m:List D},l.map ev=m.map ev->(∀ d∈m,dat d=true)->Qn ks m=true->Qn ks l=true
 | [],[],[],_,_,_=>rfl
 | [],_::_,[],h,_,_=>by cases h
 | [],_,_::_,_,_,hf=>by cases hf
 | _::_,_,[],_,_,hf=>by cases hf
 | k::ks,[],_::_,h,_,_=>by cases h
 | k::ks,d::l,e::m,h,J,hf=>by
  simp at h
  simp only[Qn,X]at hf ⊢
  exact⟨z02 h.1 (J e zQ) hf.1,J5 h.2 (λx N=>J x (zI _ N)) hf.2⟩
theorem lC.find_eq:∀ (t:lC) (g:Nat) {l m:List D} {d:Dz},l.map ev=m.map ev->(∀ d∈m,dat d=true)->t.find g l=some (.d d)->t.find g m=some (.d d)
 | [],_,_,_,_,_,_,h=>h
 | (g',.d d')::r,g,l,m,d,h,hm,hf=>by
  simp only[lC.find,FnE.fits]at hf ⊢
  rw[<- MF d'.ps h]
  cases I:V g' g&&fits d'.ps l with
  | true=>grind
  | false=>rw[I,cond_false]at hf; rw[cond_false]; exact lC.find_eq r g h hm hf
 | (g',.s d')::r,g,l,m,d,h,hm,hf=>by
  simp only[lC.find,FnE.fits]at hf ⊢
  cases I:V g' g&&Qn d'.ks l with
  | true=>grind
  | false =>
   rw[I,cond_false]at hf
   have:(V g' g&&Qn d'.ks m)=false:=by
    cases hg:V g' g with
    | false=>rfl
    | true =>
     rw[hg]at I
     cases hk:Qn d'.ks m with
     | false=>rfl
     | true=>rw[J5 h hm hk]at I; cases I
   rw[this,cond_false]
   exact lC.find_eq r g h hm hf
 | (g',.p d')::r,g,l,m,d,h,hm,hf=>by
  simp only[lC.find,FnE.fits]at hf ⊢
  cases I:V g' g&&Qn d'.ks l with
  | true=>grind
  | false =>
   rw[I,cond_false]at hf
   have:(V g' g&&Qn d'.ks m)=false:=by
    cases hg:V g' g with
    | false=>rfl
    | true =>
     rw[hg]at I
     cases hk:Qn d'.ks m with
     | false=>rfl
     | true=>rw[J5 h hm hk]at I; cases I
   rw[this,cond_false]
   exact lC.find_eq r g h hm hf
theorem lC.VU:∀ {t:lC} {g:Nat} {l:List D} {d:FnE},t.find g l=some d->(g,d)∈t
 | [],_,_,_,h=>by cases h
 | (g',d')::r,g,l,d,h=>by
  simp only[lC.find]at h
  cases I:V g' g&&d'.fits l with
  | true =>
   rw[I,cond_true]at h
   cases h
   simp only[X]at I
   rw[zA I.1]
   simp
  | false=>rw[I,cond_false]at h; exact zI _ (lC.VU h)
def q8(P:Program)(g:Nat)(d:Dz):Prop:=∀ (O:KS) (x:dQ d.ps) (xb:List Value) (y:Dl d.rs),O.st=[]->(d.F x).leads y->Inv O->wN O (Jh d.ps x) xb ->
 gv P g xb.toArray O.w λe w'=>∃ E:KS,E.w=w'/\E.st=[]/\Inv E/\Ext O E/\jc E (.ret (Ua d.rs y)) e
def DA(P:Program)(g:Nat):FnE->Prop
 | .d d=>q8 P g d
 | .s d=>xv P g d
 | .p d=>jz P g d
def ea(P:Program)(t:lC):Prop:=∀ p∈t,DA P p.1 p.2
theorem SQ(P:Program):ea P []:=by nofun
theorem D6{P:Program}{g:Nat}{d:FnE}{t:lC}(h:DA P g d)(ht:ea P t):ea P ((g,d)::t):=by
 intro p hp
 rcases zH.1 hp with rfl | hp
 ·exact h
 ·exact ht p hp
theorem LR{P:Program}{g:Nat}{d:Dz}{t:lC}(h:q8 P g d)(ht:ea P t):ea P ((g,.d d)::t):=D6 (d:=.d d) h ht
theorem FA{P:Program}{g:Nat}{d:gX}{t:lC}(h:xv P g d)(ht:ea P t):ea P ((g,.s d)::t):=D6 (d:=.s d) h ht
theorem Fz{P:Program}{g:Nat}{d:lB}{t:lC}(h:jz P g d)(ht:ea P t):ea P ((g,.p d)::t):=D6 (d:=.p d) h ht
theorem Dz.snd{P:Program}{g:Nat}{d:Dz}(h:q8 P g d):Dj P g d.S:=by
 intro O args xb rs ql R B ha
 unfold Dz.S at R
 split at R
 ·rename_i vU
  obtain⟨x,h1,M⟩:=T.zd.1 R
  obtain⟨y,h3,h4⟩:=T.zd.1 M
  cases h4
  exact h O x xb y vU h3 B (UU ha (KM _ _ _ h1))
 ·exact R.elim
theorem CF{P:Program}{xid:Nat}{tab:lC}{ro:Nat->Bool}(h:ea P tab):∀ g,Dj (gM P xid tab ro).P g ((gM P xid tab ro).fn g):=by
 intro g O args xb rs ql R B ha
 simp only[gM,lC.call]at R
 split at R
 ·rename_i d J
  exact Dz.snd (h _ (lC.VU J):DA P g (.d d)) O args xb rs ql R B ha
 ·rename_i d J
  exact gX.snd (h _ (lC.VU J):DA P g (.s d)) O args xb rs ql R B ha
 ·rename_i d J
  exact lB.snd (h _ (lC.VU J):DA P g (.p d)) O args xb rs ql R B ha
 ·exact R.elim
section
variable {P:Program} {xid:Nat} {tab:lC} {ro:Nat->Bool} {α:Type}
def Mj(c:Ctx)(f:Option D)(args:List (Option D))(st:St)(d:D)(ql:St):Prop :=
 ∃ g caps l,f=some (.wg g caps)/\gx args=some l/\(c.fn (dX g) (bG g l caps) st).leads (.hH d,ql)
def Mk(c:Ctx)(o:Oper)(s:oh)(d:D)(ql:St):Prop :=
 (∃ x t e,o.op=.panic x/\bn s.fr x=some d/\d=.iface t e/\ql=s.st) \/
 ∃ f args sn,o.op=.call ⟨.value f,args,sn⟩/\Mj c (bn s.fr f) (args.toList.map (bn s.fr)) s.st d ql
theorem Is{f:Option D}{args:List (Option D)}{st:St}{k:Nat->Option D->St->T α}{kp:D->St->T α}{r:α}(h:(C1 tab f args st k kp).leads r) :
  (∃ d ql,(qt (eL (gM P xid tab ro) f args) st).leads (d,ql)/\(k (eL (gM P xid tab ro) f args).kind d ql).leads r) \/
  ∃ d ql,Mj (gM P xid tab ro) f args st d ql/\(kp d ql).leads r:=by
 unfold C1 at h
 split at h
 ·rename_i g caps l R
  unfold z9a at h
  split at h
  ·exact h.elim
  ·rename_i d J
   have RN:(gM P xid tab ro).sig (dX g) (bG g l caps)=some ⟨d.ps,d.rs⟩:=by simp only[gM]; rw[J]
   have z0I:eL (gM P xid tab ro) (some (.wg g caps)) args=eb (gM P xid tab ro) (dX g) ⟨d.ps,d.rs⟩ (bG g l caps):=by simp only[eL,R,RN]
   rw[z0I]
   have hfn:∀ {st0:St} (x:dQ d.ps) (y:Dl d.rs),(FD st0 d.ps (bG g l caps)).leads x->(d.F x).leads y->((gM P xid tab ro).fn (dX g) (Jh d.ps x) []).leads (.ret (Ua d.rs y),[]):=by
    intro st0 x y N hy
    simp only[gM,lC.call]
    rw[lC.find_eq tab (dX g) (Gv _ _ _ N) (F3 d.ps x) J]
    exact T.zd.2 ⟨x,Dc [] d.ps x,T.zd.2 ⟨y,hy,rfl⟩⟩
   cases hn : !((bG g l caps).any Jj)with
   | true =>
    rw[hn,cond_true]at h
    obtain⟨x,h1,M⟩:=T.zd.1 h
    obtain⟨y,h3,h4⟩:=T.zd.1 M
    have hc:eb (gM P xid tab ro) (dX g) ⟨d.ps,d.rs⟩ (bG g l caps)=.val ((Qg [] d.ps (bG g l caps)).bind λl=>((gM P xid tab ro).fn (dX g) l []).bind z2P):=by
     unfold eb; rw[hn]; rfl
    rw[hc]
    refine .inl ⟨_,_,T.zd.2 ⟨_,T.zd.2 ⟨_,KM _ _ _ h1,T.zd.2 ⟨_,hfn x y h1 h3,rfl⟩⟩,rfl⟩,h4⟩
   | false =>
    rw[hn,cond_false]at h
    obtain⟨x,h1,M⟩:=T.zd.1 h
    obtain⟨y,h3,h4⟩:=T.zd.1 M
    have hc:eb (gM P xid tab ro) (dX g) ⟨d.ps,d.rs⟩ (bG g l caps)=.rd λst=>(Qg st d.ps (bG g l caps)).bind λl=>((gM P xid tab ro).fn (dX g) l []).bind Wa:=by
     unfold eb; rw[hn]; rfl
    rw[hc]
    cases hs:(Ua d.rs y).all Wd with
    | false=>rw[hs]at h4; exact h4.elim
    | true =>
     rw[hs]at h4
     refine .inl ⟨_,_,T.zd.2 ⟨_,T.zd.2 ⟨_,KM _ _ _ h1,T.zd.2 ⟨_,hfn x y h1 h3,?_⟩⟩,rfl⟩,h4⟩
     simp only[Wa,hs,cond_true]
     rfl
  ·rename_i d J
   have RN:(gM P xid tab ro).sig (dX g) (bG g l caps)=none:=by simp only[gM]; rw[J]
   have z0I:eL (gM P xid tab ro) (some (.wg g caps)) args=sr (gM P xid tab ro) (dX g) (bG g l caps):=by simp only[eL,R,RN]
   rw[z0I]
   obtain⟨ds,ql,h1,M⟩:=gX.Tf h
   refine .inl ⟨_,ql,T.zd.2 ⟨(.ret ds,ql),?_,rfl⟩,M⟩
   simp only[gM,lC.call]
   grind
  ·rename_i d J
   have RN:(gM P xid tab ro).sig (dX g) (bG g l caps)=none:=by simp only[gM]; rw[J]
   have z0I:eL (gM P xid tab ro) (some (.wg g caps)) args=sr (gM P xid tab ro) (dX g) (bG g l caps):=by simp only[eL,R,RN]
   rw[z0I]
   rcases lB.Tf h with⟨ds,ql,h1,M⟩ | ⟨p,ql,h1,M⟩
   ·refine .inl ⟨_,ql,T.zd.2 ⟨(.ret ds,ql),?_,rfl⟩,M⟩
    simp only[gM,lC.call]
    grind
   ·refine .inr ⟨p,ql,⟨g,caps,l,rfl,R,?_⟩,M⟩
    simp only[gM,lC.call]
    grind
 ·exact h.elim
theorem Q9{o:Oper}{s:oh}{k:oh->T α}{kp:D->St->T α}{r:α}(h:(Wg (gM P xid tab ro) tab n o s k kp).leads r) :
  (∃ s',(iW (gM P xid tab ro) n o s).leads s'/\(k s').leads r)\/∃ d ql,Mk (gM P xid tab ro) o s d ql/\(kp d ql).leads r:=by
 unfold Wg at h
 unfold iW
 cases J:yX n o.dst with
 | false=>rw[J]at h; exact h.elim
 | true =>
  rw[J,cond_true]at h
  rw[cond_true]
  obtain⟨dst,op,ty,pos,after,guard⟩:=o
  have gen:((qt (Qm (gM P xid tab ro) s.kn s.fr ⟨dst,op,ty,pos,after,guard⟩) s.st).bind λr=>k ⟨s.fr.put dst r.1,Hb s.kn dst (H5 s.kn op),r.2,(Qm (gM P xid tab ro) s.kn s.fr ⟨dst,op,ty,pos,after,guard⟩).kind::s.ks,vu (gM P xid tab ro) (bn s.fr) s.st ⟨dst,op,ty,pos,after,guard⟩::s.bk⟩).leads r ->
    ∃ s',(let cl:=Qm (gM P xid tab ro) s.kn s.fr ⟨dst,op,ty,pos,after,guard⟩; (qt cl s.st).bind λr=>T.ret (⟨s.fr.put dst r.1,Hb s.kn dst (H5 s.kn op),r.2,cl.kind::s.ks,vu (gM P xid tab ro) (bn s.fr) s.st ⟨dst,op,ty,pos,after,guard⟩::s.bk⟩:oh)).leads s'/\(k s').leads r:=by
   intro h
   obtain⟨x,h1,M⟩:=T.zd.1 h
   exact⟨_,T.zd.2 ⟨x,h1,rfl⟩,M⟩
  cases op with
  | call cl =>
   obtain⟨callee,args,sn⟩:=cl
   cases callee with
   | value f =>
    rcases Is (P:=P) (xid:=xid) (ro:=ro) h with⟨d,ql,h1,M⟩ | ⟨d,ql,h1,M⟩
    ·exact .inl ⟨_,T.zd.2 ⟨(d,ql),h1,rfl⟩,M⟩
    ·exact .inr ⟨d,ql,.inr ⟨f,args,sn,rfl,h1⟩,M⟩
   | _=>grind
  | panic x =>
   simp only at h
   split at h
   ·rename_i t e N
    exact .inr ⟨_,_,.inl ⟨x,t,e,rfl,N,rfl,rfl⟩,h⟩
   ·exact h.elim
  | _=>grind
theorem SM{ops:Array Oper}{o:Oper}{s:oh}{k:oh->T α}{kp:D->St->T α}{r:α}(hkn:yy s.kn s.fr.get)(h:(LK (gM P xid tab ro) tab n ops o s k kp).leads r) :
  (∃ s',(stepG (gM P xid tab ro) n ops o s).leads s'/\(k s').leads r)\/∃ d ql,jC ops s.fr.get o=some true/\Mk (gM P xid tab ro) o s d ql/\(kp d ql).leads r:=by
 obtain⟨dst,op,ty,pos,after,guard⟩:=o
 cases guard with
 | none =>
  rcases Q9 h with h | ⟨d,ql,h1,M⟩
  ·exact .inl h
  ·exact .inr ⟨d,ql,rfl,h1,M⟩
 | some jw =>
  obtain⟨j,want⟩:=jw
  simp only[LK]at h
  simp only[stepG]
  cases hg:br ops j with
  | none=>rw[hg]at h; exact h.elim
  | some t =>
   rw[hg]at h
   simp only at h ⊢
   cases hk:s.kn.get t with
   | some b =>
    rw[hk]at h
    simp only at h ⊢
    have hw:jC ops s.fr.get ⟨dst,op,ty,pos,after,some (j,want)⟩=some (b==want):=by simp[jC,hg,hkn t b hk]
    cases I:b==want with
    | true =>
     rw[I,cond_true]at h; rw[cond_true]
     rcases Q9 h with h | ⟨d,ql,h1,M⟩
     ·grind
     ·grind
    | false =>
     rw[I,cond_false]at h; rw[cond_false]
     cases J:yX n dst with
     | true=>rw[J,cond_true]at h; exact .inl ⟨_,rfl,h⟩
     | false=>rw[J,cond_false]at h; exact h.elim
   | none =>
    rw[hk]at h
    simp only at h ⊢
    split at h
    ·rename_i x hf
     rw[hf]
     simp only
     have hw:jC ops s.fr.get ⟨dst,op,ty,pos,after,some (j,want)⟩=some (x==want):=by simp[jC,hg,hf]
     cases J:yX n dst with
     | false=>rw[J]at h; exact h.elim
     | true =>
      rw[J,cond_true]at h; rw[cond_true]
      rcases h with⟨N,h⟩ | ⟨N,h⟩
      ·subst N
       cases want with
       | true =>
        rw[cond_true]at h
        rcases Q9 h with⟨s',h1,M⟩ | ⟨d,ql,h1,M⟩
        ·exact .inl ⟨s',.inl ⟨rfl,h1⟩,M⟩
        ·exact .inr ⟨d,ql,hw,h1,M⟩
       | false=>rw[cond_false]at h; exact .inl ⟨_,.inl ⟨rfl,rfl⟩,h⟩
      ·subst N
       cases want with
       | true=>rw[cond_true]at h; exact .inl ⟨_,.inr ⟨rfl,rfl⟩,h⟩
       | false =>
        rw[cond_false]at h
        rcases Q9 h with⟨s',h1,M⟩ | ⟨d,ql,h1,M⟩
        ·exact .inl ⟨s',.inr ⟨rfl,h1⟩,M⟩
        ·exact .inr ⟨d,ql,hw,h1,M⟩
    ·rename_i hf
     rw[hf]
     simp only
     cases J:yX n dst with
     | true=>rw[J,cond_true]at h; exact .inl ⟨_,rfl,h⟩
     | false=>rw[J,cond_false]at h; exact h.elim
    ·exact h.elim
def I2(c:Ctx)(n:Nat)(ops:Array Oper)(l:List Oper)(s:oh)(d:D)(ql:St):Prop :=
 ∃ pre o post s1,l=pre++o::post/\(tv c n ops pre s).leads s1/\jC ops s1.fr.get o=some true/\Mk c o s1 d ql
theorem Vl{ops:Array Oper}:∀ (l:List Oper) {s:oh} {k:oh->T α} {kp:D->St->T α} {r:α},yy s.kn s.fr.get->(∀ o∈l,∃ i:Nat,ops[i]? = some o)->(KH (gM P xid tab ro) tab n ops l s k kp).leads r ->
  (∃ s',(tv (gM P xid tab ro) n ops l s).leads s'/\(k s').leads r)\/∃ d ql,I2 (gM P xid tab ro) n ops l s d ql/\(kp d ql).leads r
 | [],s,k,kp,r,_,_,h=>.inl ⟨s,rfl,h⟩
 | o::l,s,k,kp,r,hk,R,h=>by
  rcases SM hk h with⟨s1,h1,M⟩ | ⟨d,ql,h1,M,h3⟩
  ·obtain⟨i,hi⟩:=R o zQ
   obtain⟨_,_,hk1,_⟩:=Bz hi hk h1
   rcases Vl l hk1 (λo' ho=>R o' (zI _ ho)) M with⟨s2,h3,h4⟩ | ⟨d,ql,⟨pre,o',post,s2,e,g1,g2,g3⟩,h4⟩
   ·exact .inl ⟨s2,T.zd.2 ⟨s1,h1,h3⟩,h4⟩
   ·exact .inr ⟨d,ql,⟨o::pre,o',post,s2,xy,T.zd.2 ⟨s1,h1,g1⟩,g2,g3⟩,h4⟩
  ·exact .inr ⟨d,ql,⟨[],o,l,s,rfl,rfl,h1,M⟩,h3⟩
theorem Hc{ops:Array Oper}{draw:Bool}{fr:Fr}{kn:Kn}{st:St}{k:oh->T α}{kp:D->St->T α}{r:α}(hk:yy kn fr.get)(h:(Gd (gM P xid tab ro) tab n ops draw fr kn st k kp).leads r) :
  (∃ s',(pq (gM P xid tab ro) n ops draw fr kn st).leads s'/\(k s').leads r)\/∃ d ql,draw=false/\I2 (gM P xid tab ro) n ops ops.toList ⟨fr,kn,st,[],[]⟩ d ql/\(kp d ql).leads r:=by
 rcases Vl _ hk (λo ho=>by obtain⟨i,hi,he⟩:=List.getElem_of_mem ho; exact⟨i,xy⟩) h with⟨s',h1,M⟩ | ⟨d,ql,h1,M⟩
 ·cases J : !draw||WT ops s'.ks.reverse s'.bk.reverse with
  | false=>rw[J]at M; exact M.elim
  | true =>
   rw[J,cond_true]at M
   refine .inl ⟨s',T.zd.2 ⟨s',h1,?_⟩,M⟩
   rw[J]; rfl
 ·cases draw with
  | true=>exact M.elim
  | false=>grind
end
end
end Go.AM
namespace Go.AM
set_option linter.unusedSectionVars false
variable [yV] [Hl]
open Go.RowKit
theorem YK{α β:Type}{f:α->β}{t:T α}{x:α}(h:t.leads x):(EZ f t).leads (f x):=by
 induction t with
 | ret a=>exact congrArg f h
 | ite b p q ip iq=>exact rK h (λh=>⟨h.1,ip h.2⟩) (λh=>⟨h.1,iq h.2⟩)
 | W p t ih=>exact⟨h.1,ih h.2⟩
 | fail=>exact h.elim
theorem Pv:∀ (l:List It) (d:jP l) (t:T (jP l)) (x:jP l),t.leads x->SV l d t=x
 | [],_,_,_,_=>rfl
 | [_],d,t,x,h=>((T.G8 d t x).1 h).2
 | i::j::r,d,t,x,h=>by
  have h1:=((T.G8 d.1 _ _).1 (YK (f:=Prod.fst) h)).2
  have M:=Pv (j::r) d.2 _ _ (YK (f:=Prod.snd) h)
  show(T.val d.1 (EZ Prod.fst t),SV (j::r) d.2 (EZ Prod.snd t))=x
  rw[h1,M]
  exact rfl
theorem SD{α:Type}(t:T α)(h:t.Kg):∃ x,t.leads x:=by
 induction t with
 | ret a=>exact⟨a,rfl⟩
 | ite b p q ip iq =>
  unfold T.Kg at h ip iq
  simp only[T.Uw]at h
  cases b with
  | true =>
   obtain⟨x,N⟩:=ip (xy)
   exact⟨x,.inl ⟨rfl,N⟩⟩
  | false =>
   obtain⟨x,N⟩:=iq (xy)
   exact⟨x,.inr ⟨rfl,N⟩⟩
 | W p t ih =>
  unfold T.Kg at h ih
  simp only[T.Uw]at h
  cases ht:t.Uw with
  | none=>rw[ht]at h ih; obtain⟨x,N⟩:=ih trivial; exact⟨x,h,N⟩
  | some q=>rw[ht]at h ih; obtain⟨x,N⟩:=ih h.2; exact⟨x,h.1,N⟩
 | fail=>exact h.elim
theorem Eg{l:List It}{t:T (jP l)}{x:jP l}(h:(z03 l t).leads x):t.leads x:=by
 unfold z03 at h
 split at h
 ·rename_i d J
  have key:t.Kg->SV l d t=x->t.leads x:=by
   intro hp hv
   obtain⟨y,hy⟩:=SD t hp
   rw[<- hv,Pv l d t y hy]; exact hy
  split at h
  ·rename_i hn; exact key (by unfold T.Kg; rw[hn]; trivial) h
  ·rename_i p hn; exact key (by unfold T.Kg; rw[hn]; exact h.1) h.2
 ·exact h.elim
def RIs(ws:List Way)(r:fJ ws)(w:Way)(x:w.sh.den):Prop:=∀ {α:Type} (k:Ex->Fr->St->T α),ME ws r k=k w.ex (w.sh.fr x) (w.sh.st x)
theorem Cx:∀ (ws:List Way) (ex:Ex) (fr:Fr) (st:St) (r:fJ ws),(Cv ws ex fr st).leads r->∃ w,w∈ws/\∃ x:w.sh.den,RIs ws r w x/\Xr w.ex ex=true/\(w.sh.un fr st).leads x
 | [],_,_,_,_,h=>h.elim
 | [w],ex,fr,st,r,h=>by
  have h:(bif Xr w.ex ex then w.sh.un fr st else .fail:T w.sh.den).leads r:=h
  cases hs:Xr w.ex ex with
  | false=>rw[hs]at h; exact h.elim
  | true=>rw[hs]at h; exact⟨w,qz,r,λk=>rfl,hs,h⟩
 | w::v::ws,ex,fr,st,r,h=>by
  have h:(bif Xr w.ex ex then(w.sh.un fr st).bind λx=>T.ret (qR x:w.sh.den⊕fJ (v::ws))else(Cv (v::ws) ex fr st).bind λy=>T.ret (qM y)).leads r:=h
  cases hs:Xr w.ex ex with
  | true =>
   rw[hs]at h
   obtain⟨x,h1,M⟩:=T.zd.1 h
   subst M
   exact⟨w,qz,x,λk=>rfl,hs,h1⟩
  | false =>
   rw[hs]at h
   obtain⟨y,h1,M⟩:=T.zd.1 h
   subst M
   obtain⟨w',k1,x,k2,k3,k4⟩:=Cx (v::ws) ex fr st y h1
   exact⟨w',zI _ k1,x,λk=>k2 k,k3,k4⟩
def zaI(O:KS)(n:Nat)(w:Way)(z:w.sh.den)(a:Act)(sD:Exit):Prop:=∀ q,Eb w.ex (w.sh.fr z)=some q->Rel O n q.2.get a/\Dy O q.1 sD
theorem z3m{κ0 O:KS}{n:Nat}{a:Act}{w:Way}{z:w.sh.den}{oex:Ex}{ofr:Fr}{sD:Exit}(N:Ext κ0 O)(B:Inv O)(hR:Rel O n ofr.get a)(he:Dy O oex sD)(hs:Xr w.ex oex=true)(R:κ0.st.length<=w.sh.bs.length)
  (h:(w.sh.un (GR oex ofr) O.st).leads z):∃ κ1:KS,κ1.w=O.w/\κ1.st=w.sh.st z/\Inv κ1/\Ext κ0 κ1/\zaI κ1 n w z a sD:=by
 have plain:GR oex ofr=ofr->(∀ q,Eb w.ex (w.sh.fr z)=some q->q.2=w.sh.fr z/\∀ κ1:KS,Dy κ1 q.1 sD)->∃ κ1:KS,κ1.w=O.w/\κ1.st=w.sh.st z/\Inv κ1/\Ext κ0 κ1/\zaI κ1 n w z a sD:=by
  intro e1 e2
  rw[e1]at h
  obtain⟨κ1,q1,q2,q3,q4,q5,_⟩:=w.sh.K2 (n:=n) N B hR R h
  exact⟨κ1,q1,q2,q3,q4,λq hq=>by obtain⟨g1,g2⟩:=e2 q hq; rw[g1]; exact⟨q5,g2 κ1⟩⟩
 cases hw:w.ex with
 | normal =>
  rw[hw]at hs
  cases oex<;>first | (cases hs; done) | skip
  exact plain rfl λq hq=>by rw[hw]at hq; cases hq; exact⟨rfl,λ_=>he⟩
 | ret =>
  rw[hw]at hs
  cases oex<;>first | (cases hs; done) | skip
  exact plain rfl λq hq=>by rw[hw]at hq; cases hq; exact⟨rfl,λ_=>he⟩
 | exit id =>
  rw[hw]at hs
  cases oex<;>first | (cases hs; done) | skip
  rename_i id'
  have:id=id':=zA hs
  subst this
  exact plain rfl λq hq=>by rw[hw]at hq; cases hq; exact⟨rfl,λ_=>he⟩
 | hH p =>
  rw[hw]at hs
  cases p<;>first | (cases hs; done) | skip
  rename_i t p
  cases oex<;>first | (cases hs; done) | skip
  rename_i p'
  cases p'<;>first | (cases hs; done) | skip
  rename_i t' d
  have:t=t':=zA hs
  subst this
  obtain⟨v,rfl,hv⟩:=he
  cases hv with
  | iface _ _ u hu =>
   have HJ:Rel O 1 (GR (.hH (.iface t d)) ofr).get { tmps := #[u],defers:=Hl.df }:=by
    refine⟨rfl,rfl,λs d' J => ?_⟩
    simp only[GR,Fr.get]at J
    cases I:V 0 s with
    | true =>
     have:=zA I
     grind
    | false=>grind
   obtain⟨κ1,q1,q2,q3,q4,q5,_⟩:=w.sh.K2 (n:=1) N B HJ R h
   refine⟨κ1,q1,q2,q3,q4,λq hq => ?_⟩
   rw[hw]at hq
   simp only[Eb]at hq
   split at hq
   ·rename_i d' dY
    cases hq
    obtain⟨v',g1,g2⟩:=q5.get 0 d' dY
    cases g1
    exact⟨⟨hR.size,hR.defers,λs d J=>by cases J⟩,_,rfl,.iface t d' _ g2⟩
   ·cases hq
theorem Z0(st:St):∀ (bs:List Bk) (bd:List Bd),(jB st bs bd).length<=bs.length
 | [],_=>by simp[jB]
 | .arr _::r,[]=>by simp[jB]
 | .arr _::r,.v _ _::_=>by simp[jB]
 | .arr _::r,.a _ _::d=>by have:=Z0 st r d; simp[jB]; exact this
 | .var _::r,[]=>by simp[jB]
 | .var _::r,.a _ _::_=>by simp[jB]
 | .var _::r,.v _ _::d=>by have:=Z0 st r d; simp[jB]; exact this
 | .cvar _::r,d=>by have:=Z0 st r d; cases d<;>(simp[jB]; exact this)
 | .dead::r,d=>by have:=Z0 st r d; cases d<;>(simp[jB]; exact this)
theorem um.Xt(s:um)(x:s.den):(s.st x).length<=s.bs.length:=Z0 _ _ _
theorem JC{l m:Fr}{s:Nat}{d:D}(h:(l++m).get s=some d):l.get s=some d\/m.get s=some d:=by
 induction l with
 | nil=>grind
 | cons p r ih =>
  simp only[qJ,Fr.get]at h ⊢
  grind
theorem Sv{l:List Nat}{fr:Fr}{s:Nat}{d:D}(h:(ob l++fr).get s=some d):s ∉ l/\fr.get s=some d:=by
 induction l with
 | nil=>exact⟨qz,h⟩
 | cons t r ih =>
  simp only[ob,qI,qJ,Fr.get]at h
  cases ht:V t s with
  | true=>grind
  | false =>
   rw[ht,cond_false]at h
   obtain⟨h1,M⟩:=ih h
   refine⟨?_,M⟩
   simp
   exact⟨λe=>by subst e; simp at ht,h1⟩
theorem VS{o:Oper}{s:Nat}:∀ {l:List Oper},o∈l->o.dst=some s->s∈dstsOf l
 | p::r,h,hs=>by
  simp only[dstsOf]
  rcases zH.1 h with rfl | h
  ·grind
  ·split
   ·exact zI _ (VS h hs)
   ·exact VS h hs
def Kept(code:Code)(a a':Act):Prop:=∀ s:Nat,s ∉ wF code->a'.tmps[s]? = a.tmps[s]?
section
variable {P:Program} {xid:Nat} {tab:lC} {ro:Nat->Bool} {n:Nat} {H:Hints}
theorem W8{O E:KS}{fr out:Fr}{a a':Act}{ws:List Nat}(hR:Rel O n fr.get a)(N:Ext O E)(ho:Rel E n out.get a')(hk:∀ s:Nat,s ∉ ws->a'.tmps[s]? = a.tmps[s]?):Rel E n (out++(ob ws++fr)).get a':=by
 refine⟨ho.size,ho.defers,λs d J => ?_⟩
 rcases JC J with h | h
 ·exact ho.get s d h
 ·obtain⟨h1,M⟩:=Sv h
  obtain⟨v,g1,g2⟩:=hR.get s d M
  exact⟨v,(hk s h1).trans g1,g2.mono N⟩
theorem D2{c:Ctx}{ops:Array Oper}:∀ (l:List Oper) (s s':oh),(tv c n ops l s).leads s'->quiet s'.ks=true->s'.st=s.st/\quiet s.ks=true:=by
 have hq:∀ {k:Nat} {ks:List Nat},quiet (k::ks)=true->V k 2=false/\quiet ks=true:=by
  intro k ks h
  simp only[quiet,zF,X,qF]at h
  exact⟨h.1,by unfold quiet; exact h.2⟩
 have one:∀ (o:Oper) (s s1:oh),(iW c n o s).leads s1->quiet s1.ks=true->s1.st=s.st/\quiet s.ks=true:=by
  intro o s s1 h hk
  unfold iW at h
  cases J:yX n o.dst with
  | false=>rw[J]at h; exact h.elim
  | true =>
   rw[J,cond_true]at h
   obtain⟨r,h1,M⟩:=T.zd.1 h
   cases M
   obtain⟨g1,g2⟩:=hq hk
   refine⟨?_,g2⟩
   show r.2=s.st
   generalize Qm c s.kn s.fr o=cl at h1 g1
   cases cl with
   | val t=>obtain⟨d,_,h3⟩:=T.zd.1 h1; cases h3; rfl
   | rd k=>obtain⟨d,_,h3⟩:=T.zd.1 h1; cases h3; rfl
   | wr k=>cases g1
 have skp:∀ (o:Oper) (s:oh),quiet (cD o s).ks=true->(cD o s).st=s.st/\quiet s.ks=true:=λo s h=>⟨rfl,(hq h).2⟩
 have gd:∀ (o:Oper) (s s1:oh),(stepG c n ops o s).leads s1->quiet s1.ks=true->s1.st=s.st/\quiet s.ks=true:=by
  intro o s s1 h hk
  obtain⟨dst,op,ty,pos,after,guard⟩:=o
  cases guard with
  | none=>exact one _ s s1 h hk
  | some jw =>
   obtain⟨j,want⟩:=jw
   simp only[stepG]at h
   cases hg:br ops j with
   | none=>rw[hg]at h; exact h.elim
   | some t =>
    rw[hg]at h
    simp only at h
    cases hkn:s.kn.get t with
    | some b =>
     rw[hkn]at h
     simp only at h
     cases I:b==want with
     | true=>grind
     | false =>
      rw[I,cond_false]at h
      cases J:yX n dst with
      | false=>rw[J]at h; exact h.elim
      | true=>rw[J,cond_true]at h; cases h; exact skp _ s hk
    | none =>
     rw[hkn]at h
     simp only at h
     split at h
     ·cases J:yX n dst with
      | false=>rw[J]at h; exact h.elim
      | true =>
       rw[J,cond_true]at h
       rcases h with⟨_,h⟩ | ⟨_,h⟩
       ·cases want with
        | true=>rw[cond_true]at h; exact one _ (s.l0 t true) s1 h hk
        | false=>rw[cond_false]at h; cases h; exact skp _ (s.l0 t true) hk
       ·cases want with
        | true=>rw[cond_true]at h; cases h; exact skp _ (s.l0 t false) hk
        | false=>rw[cond_false]at h; exact one _ (s.l0 t false) s1 h hk
     ·cases J:yX n dst with
      | false=>rw[J]at h; exact h.elim
      | true=>rw[J,cond_true]at h; cases h; exact skp _ s hk
     ·exact h.elim
 intro l
 induction l with
 | nil=>intro s s' h hk; cases h; exact⟨rfl,hk⟩
 | cons o l ih =>
  intro s s' h hk
  obtain⟨s1,h1,M⟩:=T.zd.1 h
  obtain⟨g1,g2⟩:=ih s1 s' M hk
  obtain⟨k1,k2⟩:=gd o s s1 h1 g2
  exact⟨g1.trans k1,k2⟩
theorem CW{c:Ctx}{ops:Array Oper}{draw:Bool}{fr:Fr}{kn:Kn}{st:St}{s':oh}(h:(pq c n ops draw fr kn st).leads s')(hq:quiet s'.ks=true):s'.st=st:=by
 obtain⟨s1,h1,M⟩:=T.zd.1 h
 cases J:(!draw||WT ops s1.ks.reverse s1.bk.reverse)with
 | false=>rw[J]at M; exact M.elim
 | true=>rw[J,cond_true]at M; cases M; exact(D2 _ _ _ h1 hq).1
theorem TD{c:Ctx}{O:KS}{a:Act}{o:Oper}{g:Nat}{args:Array Value}{hl:Ending->World->Prop}(jJ:(execOp a.eval o).run c.P O.w=(callFunc g args).run c.P O.w)
  (h:gv c.P g args O.w hl) {K:Act->World->Prop} {Q:Exit->Act->World->Prop} (hR:∀ e w',hl e w'->∃ ch,e=.panicked ch/\Q (.panic ch) a w'):o.wp c.P a O.w K Q:=by
 unfold Oper.wp
 rw[jJ]
 rcases h with⟨h1,M⟩ | ⟨v,w',h1,M⟩
 ·rw[h1]
  refine M.mono λe w' he => ?_
  grind
 ·grind
theorem z2F{c:Ctx}{O:KS}{n:Nat}{a:Act}{o:Oper}{s:oh}{d:D}{ql:St}(hC:∀ g,Dj c.P g (c.fn g))(B:Inv O)(hR:Rel O n s.fr.get a)(vU:O.st=s.st)(h:Mk c o s d ql){K:Act->World->Prop}{Q:Exit->Act->World->Prop}
  (hQ:∀ (v:Value) (E:KS),E.st=ql->Inv E->Ext O E->RD E d v->Q (.panic [{ v,recovered:=false }]) a E.w):o.wp c.P a O.w K Q:=by
 have lj:∀ (x:Operand) (z:D),bn s.fr x=some z->RD O z (a.eval x):=λx z hz=>hR.eval (by rw[<- fY]; exact hz)
 obtain⟨dst,op,ty,pos,after,guard⟩:=o
 rcases h with⟨x,t,e,rfl,N,rfl,rfl⟩ | ⟨f,args,sn,rfl,g,caps,l,hp,R,hc⟩
 ·have hv:=lj x _ N
  generalize EC:a.eval x=pv at hv
  cases hv with
  | iface _ _ u hu =>
   have jJ:(execOp a.eval ⟨dst,.panic x,ty,pos,after,guard⟩).run c.P O.w=.halt (.panic (.iface t u)) O.w:=by
    simp[execOp,EC,Instr.panic]
   unfold Oper.wp
   rw[jJ]
   exact hQ _ O vU B (Ext.refl O) (.iface t e u hu)
 ·have hpv:=lj f _ hp
  have hr:=fq (O:=O) (vs:=args.toList.map a.eval) R (qz) (λi d v J hv=>by
      simp only[List.getElem?_map]at J hv
      cases hi:args.toList[i]? with
      | none=>grind
      | some x=>rw[hi]at J hv; simp at J hv; subst hv; exact lj x d J)
  generalize EC:a.eval f=pv at hpv
  cases hpv with
  | wg _ _ us ZJ hh2 =>
   have ZI:=Y3 g hr (⟨ZJ,hh2⟩:wN O caps us)
   rw[<- vU]at hc
   refine TD (c:=c) (O:=O) (g:=dX g) (args:=(bG g (args.toList.map a.eval) us).toArray) ?_ (hC (dX g) O _ _ _ _ hc B ZI) ?_
   ·exact DP EC
   ·rintro e w' ⟨E,rfl,h1,M,h3,v,rfl,h4⟩
    grind
theorem SB{c:Ctx}{O:KS}{n:Nat}{a:Act}{id:Nat}{ops:Array Oper}{fr:Fr}{kn:Kn}{d:D}{ql:St}(hC:∀ g,Dj c.P g (c.fn g))(B:Inv O)(hR:Rel O n fr.get a)(hk:yy kn fr.get)
  (h:I2 c n ops ops.toList ⟨fr,kn,O.st,[],[]⟩ d ql) {Q:Exit->Act->World->Prop}
  (hQ:∀ (v:Value) (a':Act) (E:KS),E.st=ql->Inv E->Ext O E->Rel E n (Fr.get []) a'->pz ops a a'->RD E d v->Q (.panic [{ v,recovered:=false }]) a' E.w):(Code.region id ops false).wp c.P Q a O.w:=by
 obtain⟨pre,o,post,s1,e,h1,M,h3⟩:=h
 have RH:∀ j:Nat,ops[j]? = (pre++o::post)[j]? := λj=>by rw[<- e]; simp
 obtain⟨ks,g1,g2,_⟩:=rO pre 0 ⟨fr,kn,O.st,[],[]⟩ s1 (λj=>by
  by_cases hj:j<pre.length
  ·grind
  ·right; omega) hk h1
 have bH:zX ops.size=List.range' 0 pre.length++pre.length::List.range' (pre.length+1) post.length:=by
  have:ops.size=pre.length+(post.length+1):=by rw[<- qB,e]; simp
  rw[this,List.range_eq_range',<- List.range'_append_1,qD,List.range'_succ]
 refine wp_region ?_
 rw[bH]
 refine Jl hC _ _ B hR rfl g1 λa' E e1 e2 e3 e4 e5 => ?_
 rw[wpOps_cons]
 unfold wpOp
 have ho:ops[pre.length]? = some o:=by rw[RH]; simp
 rw[ho]
 simp only
 rw[if_pos (Zb e4 M)]
 exact .inl (z2F hC e2 e4 e1 h3 λv SX f1 f2 f3 f4=>hQ v a' SX f1 f2 (e3.trans f3) ⟨e4.size,e4.defers,λs d J=>by cases J⟩ e5 f4)
def Vx(P:Program)(n:Nat)(l:q9)(b:Code):Prop:=∀ (O:KS) (a:Act) (p:jP l.ps) (s:l.sh.den) (r:fJ l.ws),(l.F p s).leads r->O.st=l.sh.st s->Inv O ->
 Rel O n (l.sh.fr s).get a->Rel O n (nc (l.sh.st s) l.ps p).get a->Lt l.ps (wF b)=true->(∀ w∈l.ws,l.sh.bs.length<=w.sh.bs.length) ->
 ∀ Q:Exit->Act->World->Prop,(∀ (w:Way) (x:w.sh.den) (sD:Exit) (a':Act) (E:KS),w∈l.ws->RIs l.ws r w x->E.st=w.sh.st x->Inv E->Ext O E->zaI E n w x a' sD->Kept b a a'->Q sD a' E.w) ->
  (Code.loop b).wp P Q a O.w
def gw(P:Program)(n:Nat)(H:Hints)(code:Code):Prop:=∀ p∈vZ code,∀ l,H.loop p.1=some l->Vx P n l p.2
theorem z07{kn:Kn}:∀ (l:List Nat) {fr:Fr} {st:St} {r:Fr×St},(frz l fr st).leads r->yy kn fr.get->yy kn r.1.get
 | [],fr,st,r,h,hk=>by cases h; exact hk
 | s::l,fr,st,r,h,hk=>by
  obtain⟨x,h1,M⟩:=T.zd.1 h
  refine z07 l M λt b I => ?_
  have hf:=hk t b I
  unfold z5q at h1
  cases hW:zM 1000000 s with
  | true =>
   rw[hW,cond_true]at h1
   have hfr:x.1=fr:=by
    unfold z5o at h1
    split at h1
    ·split at h1
     ·split at h1
      ·split at h1
       ·obtain⟨_,h1⟩:=h1; cases h1; rfl
       ·exact h1.elim
      ·exact h1.elim
     ·cases h1; rfl
    ·cases h1; rfl
   grind
  | false =>
  rw[hW,cond_false]at h1
  unfold z5m at h1
  split at h1
  ·rename_i b' vi e off len hs
   split at h1
   ·split at h1
    ·obtain⟨_,h1⟩:=h1
     cases h1
     simp only[Fr.get]
     cases ht:V s t with
     | true=>rw[<- zA ht,hs]at hf; cases hf
     | false=>grind
    ·exact h1.elim
   ·exact h1.elim
  ·cases h1; exact hf
theorem z2V{c:Ctx}{t e:Nat}(hu:c.P.underlying t=some (.slice e)){op:BinOp}{b:Bool}(hop:z2h op=some b)(px py:Operand)(w:World)(x:Option Addr)(l k:Nat) :
  (do eqGuard op t px py (.slice x l k) (.slice none 0 0); binOp op t (.slice x l k) (.slice none 0 0):Sem Value).run c.P w=.ok (.bool (if b=true then x.isNone else !x.isNone)) w:=by
 cases op<;>simp only[z2h]at hop<;>cases hop
 ·have:=run_eql_slice_nil (P:=c.P) w t e x l k hu
  simp only[eqGuard]
  simpa using this
 ·have:=run_neq_slice_nil (P:=c.P) w t e x l k hu
  simp only[eqGuard]
  simpa using this
theorem Lg{ops:Array Oper}{fr:Fr}{p:zdO}(hp:CJ (gM P xid tab ro) n ops fr=some p){O:KS}{a:Act}{kn:Kn}(B:Inv O)(hR:Rel O n fr.get a)(hk:yy kn fr.get){id:Nat}(Q:Exit->Act->World->Prop)
  (hQ:∀ a':Act,Kept (.region id ops false) a a' ->
   ((p.l=[]/\Rel O n (Fr.get ((p.c,some (.qi .bool p.eq))::(p.m,some .wE)::(p.s,some .wE)::fr)) a')\/Rel O n (Fr.get ((p.c,some (.qi .bool (!p.eq)))::(p.m,some (.qi (.sl p.e) p.l))::fr)) a')->Q .normal a' O.w) :
  (Code.region id ops false).wp P Q a O.w:=by
 unfold CJ at hp
 split at hp
 ·rename_i o1 o2 hops
  split at hp
  ·rename_i m s hd1 ho1 T1
   split at hp
   ·rename_i cc op t m' y ty' hd2 ho2 hg2
    split at hp
    ·rename_i b e l et hop hs hel
     cases hc:V m m'&&L3 y&&zO m n&&zO cc n with
     | false=>grind
     | true =>
      rw[hc,cond_true]at hp
      cases hp
      simp only[X]at hc
      obtain⟨⟨⟨hmm,hy⟩,hmn⟩,hcn⟩:=hc
      have:=zA hmm
      subst this
      have hy':y=.const (.slice none 0 0):=by
       unfold L3 at hy
       grind
      subst hy'
      obtain⟨v,hv,dY⟩:=hR.get s _ hs
      obtain⟨x,k,hvs⟩:∃ (x:Option Addr) (k:Nat),v=.slice x l.length k/\(x=none->l=[]/\k=0):=by
       rcases(dY.jD rfl).tw with⟨rfl,a0,he⟩ | ⟨blk,off,cap,f,he,uZ,jf,h1,M⟩
       ·grind
       ·grind
      obtain⟨rfl,hvn⟩:=hvs
      have bH:ops.size=2:=by rw[<- qB,hops]; rfl
      have e0:ops[0]? = some o1:=by rw[<- qO,hops]; rfl
      have e1:ops[1]? = some o2:=by rw[<- qO,hops]; rfl
      have zng:m<n:=zE hmn
      have zrz:cc<n:=zE hcn
      have hsl:a.tmps.getD s undef=.slice x l.length k:=by simp[qC,hv]
      have wan:∀ (o:Oper) (ys:Nat->Option Value),o.guard=none->True:=λ_ _ _=>trivial
      refine wp_region ?_
      rw[bH,show zX 2=[0,1]from rfl,wpOps_cons]
      unfold wpOp
      rw[e0]
      simp only
      rw[if_pos (by unfold Region.wanted; rw[T1])]
      refine .inl ?_
      obtain⟨d1,op1,ty1,zcN,af1,gu1⟩:=o1
      obtain⟨d2,op2,BF,z8v,af2,gu2⟩:=o2
      simp only at hd1 ho1 T1 hd2 ho2 hg2
      subst hd1 ho1 T1 hd2 ho2 hg2
      have hx1:(execOp a.eval ⟨some m,.move (.tmp s),ty1,zcN,af1,none⟩).run P O.w=.ok (.value (.slice x l.length k)) O.w:=by
       simp[execOp,Act.eval,hsl]
      unfold Oper.wp
      rw[hx1,Oper.upon_value,wpOps_cons]
      unfold wpOp
      rw[e1]
      simp only
      rw[if_pos (by unfold Region.wanted; rfl)]
      refine .inl ?_
      have lj:(a.put (some m) (.slice x l.length k)).eval (.tmp m)=.slice x l.length k:=by
       have:=hR.size
       simp[Act.eval,Act.put,qC,qA,this,zng]
      have hu:=yF hel
      have jJ:=z2V (c:=gM P xid tab ro) hu hop (.tmp m) (.const (.slice none 0 0)) O.w x l.length k
      have MO:(execOp (a.put (some m) (.slice x l.length k)).eval ⟨some cc,.binOp op t (.tmp m) (.const (.slice none 0 0)) ty',BF,z8v,af2,none⟩).run P O.w=.ok (.value (.bool (if b=true then x.isNone else !x.isNone))) O.w:=by
       have hex:execOp (a.put (some m) (.slice x l.length k)).eval ⟨some cc,.binOp op t (.tmp m) (.const (.slice none 0 0)) ty',BF,z8v,af2,none⟩ =
        (do Pure.pure (.value (<- (do eqGuard op t (.tmp m) (.const (.slice none 0 0)) ((a.put (some m) (.slice x l.length k)).eval (.tmp m)) (.slice none 0 0); binOp op t ((a.put (some m) (.slice x l.length k)).eval (.tmp m)) (.slice none 0 0))))):=rfl
       rw[hex,lj,Sem.run_bind]
       rw[show(do eqGuard op t (.tmp m) (.const (.slice none 0 0)) (.slice x l.length k) (.slice none 0 0); binOp op t (.slice x l.length k) (.slice none 0 0):Sem Value).run P O.w=_ from jJ]
       rfl
      unfold Oper.wp
      rw[MO,Oper.upon_value]
      have zga:∀ (q:Nat) (u:Value) (a1:Act) (t:Nat),(a1.put (some q) u).tmps[t]? = if q=t then(if q<a1.tmps.size then some u else none)else a1.tmps[t]? := by
       intro q u a1 t
       simp only[Act.put,qA]
      have T9:(a.put (some m) (.slice x l.length k)).tmps.size=n:=by simp[Act.put,hR.size]
      have hs2:((a.put (some m) (.slice x l.length k)).put (some cc) (.bool (if b=true then x.isNone else !x.isNone))).tmps.size=n:=by simp[Act.put,hR.size]
      refine hQ _ (λt ht => ?_) ?_
      ·have hw:wF (.region id ops false)=[m,cc]:=by simp only[wF,hops,dstsOf]
       grind
      ·have get:∀ (t:Nat),((a.put (some m) (.slice x l.length k)).put (some cc) (.bool (if b=true then x.isNone else !x.isNone))).tmps[t]? = if cc=t then some (.bool (if b=true then x.isNone else !x.isNone))else if m=t then some (.slice x l.length k)else a.tmps[t]? := by
        grind
       have z84:∀ {i j:Nat},V i j=false->i≠j:=λh e=>by subst e; simp at h
       cases x with
       | none =>
        obtain⟨R,Dn⟩:=hvn rfl
        subst R Dn
        refine .inl ⟨rfl,hs2,hR.defers,λt d J => ?_⟩
        rw[get]
        simp only[Fr.get]at J
        cases h1:V cc t with
        | true =>
         rw[h1,cond_true]at J; cases J
         rw[if_pos (zA h1)]
         refine⟨_,rfl,?_⟩
         cases b<;>exact .bool
        | false =>
         rw[h1,cond_false]at J
         rw[if_neg (z84 h1)]
         cases M:V m t with
         | true=>rw[M,cond_true]at J; cases J; rw[if_pos (zA M)]; exact⟨_,rfl,.wE⟩
         | false =>
          rw[M,cond_false]at J
          rw[if_neg (z84 M)]
          cases h3:V s t with
          | true=>rw[h3,cond_true]at J; cases J; rw[<- zA h3]; exact⟨_,hv,.wE⟩
          | false=>rw[h3,cond_false]at J; exact hR.get t d J
       | some x =>
        refine .inr ⟨hs2,hR.defers,λt d J => ?_⟩
        rw[get]
        simp only[Fr.get]at J
        cases h1:V cc t with
        | true =>
         rw[h1,cond_true]at J; cases J
         rw[if_pos (zA h1)]
         refine⟨_,rfl,?_⟩
         cases b<;>exact .bool
        | false =>
         rw[h1,cond_false]at J
         rw[if_neg (z84 h1)]
         cases M:V m t with
         | true=>rw[M,cond_true]at J; cases J; rw[if_pos (zA M)]; exact⟨_,rfl,dY⟩
         | false=>rw[M,cond_false]at J; rw[if_neg (z84 M)]; exact hR.get t d J
    ·cases hp
   ·cases hp
  ·cases hp
 ·cases hp
theorem Rr{id:Nat}{b:Code}(I:∀ b',b≠.loop b')(fr:Fr)(kn:Kn)(st:St){α:Type}(k:I1->T α):Vv (gM P xid tab ro) tab n H (.block id b) fr kn st k=Vv (gM P xid tab ro) tab n H b fr kn st λr=>match r.ex with
  | .exit id'=>bif V id' id then k { r with ex:=.normal } else k r
  | _=>k r:=by
 cases b<;>first | rfl | exact absurd rfl (I _)
theorem QW(hm:(gM P xid tab ro).P.follows .mixedOrders=true)(hT:ea P tab):∀ (code:Code),gw P n H code->∀ {fr:Fr} {kn:Kn} {O:KS} {a:Act} {α:Type} {k:I1->T α} {r:α},
  (Vv (gM P xid tab ro) tab n H code fr kn O.st k).leads r->Inv O->Rel O n fr.get a->yy kn fr.get ->
  ∀ Q:Exit->Act->World->Prop,(∀ (o:I1) (sD:Exit) (a':Act) (E:KS),(k o).leads r->E.st=o.st->Inv E->Ext O E->Rel E n o.fr.get a'->yy o.kn o.fr.get->Kept code a a'->(o.q=true->o.st=O.st)->Dy E o.ex sD->Q sD a' E.w) ->
   code.wp P Q a O.w:=by
 intro code
 induction code with
 | skip=>intro _ fr kn O a α k r h B hR hk Q hQ; exact wp_skip (hQ _ _ a O h rfl B (Ext.refl O) hR hk (λ_ _=>rfl) (λ_=>rfl) rfl)
 | exit id=>intro _ fr kn O a α k r h B hR hk Q hQ; exact wp_exit (hQ _ _ a O h rfl B (Ext.refl O) hR hk (λ_ _=>rfl) (λ_=>rfl) rfl)
 | ret=>intro _ fr kn O a α k r h B hR hk Q hQ; exact wp_ret (hQ _ _ a O h rfl B (Ext.refl O) hR hk (λ_ _=>rfl) (λ_=>rfl) rfl)
 | region id ops draw =>
  intro _ fr kn O a α k r h B hR hk Q hQ
  simp only[Vv]at h
  obtain⟨z,h0,h⟩:=T.zd.1 h
  obtain⟨κ0,w1,w2,w3,w4,w5⟩:=z08 _ h0 B hR
  have Dn:=z07 _ h0 hk
  rcases Hc Dn h with⟨s,h1,M⟩ | ⟨d,ql,rfl,h1,M⟩
  rotate_left
  ·rw[<- w2]at h1
   rw[<- w1]
   exact SB (CF hT) w3 w5 Dn h1 λv a' E e1 e2 e3 e4 e5 e6=>hQ ⟨.hH d,[],[],ql,false⟩ _ a' E M e1 e2 (w4.trans e3) e4 (mY _) (λt ht=>e5 t λo ho he=>ht (VS ho he)) (λhq=>by cases hq) ⟨v,rfl,e6⟩
  rw[<- w2]at h1
  have Kw:=SH Dn h1
  rw[<- w1]
  refine(SI hm (CF hT) w3 w5 Dn h1 λa' E e1 e2 e3 e4 e5=>hQ ⟨.normal,s.fr,s.kn,s.st,quiet s.ks&&(H.frz id).isEmpty⟩ _ a' E M e1 e2 (w4.trans e3) e4 Kw (λt ht=>e5 t λo ho he=>ht (VS ho he)) (λhq => ?_) rfl).1
  simp only[X]at hq
  have he:H.frz id=[]:=zW.1 hq.2
  rw[he]at h0
  cases h0
  exact(CW h1 hq.1).trans w2
 | seq x y ix iy =>
  intro R fr kn O a α k r h B hR hk Q hQ
  have hlx:gw P n H x:=λp hp=>R p (by simp only[vZ,zN]; exact .inl hp)
  have hly:gw P n H y:=λp hp=>R p (by simp only[vZ,zN]; exact .inr hp)
  have kx:∀ {a a':Act},Kept x a a'->Kept (.seq x y) a a':=λh s hs=>h s λe=>hs (by simp only[wF,zN]; exact .inl e)
  have ky:∀ {a a':Act},Kept y a a'->Kept (.seq x y) a a':=λh s hs=>h s λe=>hs (by simp only[wF,zN]; exact .inr e)
  simp only[Vv]at h
  split at h
  ·refine wp_seq (ix hlx h B hR hk _ λo sD a' E e0 e1 e2 e3 e4 SY e5 e5q e6 => ?_)
   cases hex:o.ex<;>rw[hex]at e0 e6<;>simp only at e0
   ·cases e6
    refine iy hly (O:=E) (e1▸e0) e2 e4 SY Q λo' Cc a'' SX f0 f1 f2 f3 f4 HF f5 FR f6=>hQ { o' with q:=o.q&&o'.q } Cc a'' SX f0 f1 f2 (e3.trans f3) f4 HF (λs hs=>(ky f5 s hs).trans (kx e5 s hs)) ?_ f6
    grind
   ·cases e6; exact hQ o _ a' E e0 e1 e2 e3 e4 SY (kx e5) e5q (by rw[hex]; rfl)
   ·cases e6; exact hQ o _ a' E e0 e1 e2 e3 e4 SY (kx e5) e5q (by rw[hex]; rfl)
   ·obtain⟨v,rfl,hv⟩:=e6
    exact hQ o _ a' E e0 e1 e2 e3 e4 SY (kx e5) e5q (by rw[hex]; exact⟨v,rfl,hv⟩)
  ·rename_i ff hcu
   cases hw:Br ff with
   | false=>rw[hw]at h; exact h.elim
   | true =>
    rw[hw,cond_true]at h
    obtain⟨z,h1,M⟩:=T.zd.1 h
    have h1:=Eg h1
    refine wp_seq (ix hlx h1 B hR hk _ λo sD a' E e0 e1 e2 e3 e4 SY e5 e5q e6 => ?_)
    cases hex:o.ex<;>rw[hex]at e0 e6<;>simp only at e0
    ·cases e6
     cases hq:o.q with
     | false=>rw[hq]at e0; exact e0.elim
     | true =>
      rw[hq,cond_true]at e0
      have vU:o.st=O.st:=e5q hq
      have hRz:Rel E n (nc O.st ff z).get a':=by
       refine⟨e4.size,e4.defers,λt d J => ?_⟩
       obtain⟨k',y',d0,g0,g1,g2,g3⟩:=(UH (p:=λ_=>true) (ql:=O.st) ff [] z (λ_ _=>rfl) e0).2 _ (get_mem J)
       cases g3
       obtain⟨v,q1,q2⟩:=e4.get _ _ g1
       have Yk:=zP.1 hw _ g0
       have Yk:KF k'=true:=Yk
       have hwk:Wk E E:=⟨rfl,rfl,rfl,rfl,λb d h=>⟨d,h⟩,λb v e xs h=>.inl h,λb v e xs h=>h,λb h=>h⟩
       have uZ:Fb [] k'=true:=by cases k'<;>first | rfl | cases Yk
       rw[<- e1]at g2
       have:=Db hwk (bs:=[]) uZ (λ_ _=>rfl) (ql:=E.st) (λ_ _=>rfl) (λ_ h=>by simp[rowAt]at h) g2 q2
       grind
      have HJ:=W8 hR e3 hRz e5
      refine iy hly (O:=E) (by rw[e1,vU]; exact M) e2 HJ (mY _) Q λo' Cc a'' SX f0 f1 f2 f3 f4 HF f5 FR f6=>hQ o' Cc a'' SX f0 f1 f2 (e3.trans f3) f4 HF (λs hs=>(ky f5 s hs).trans (kx e5 s hs)) (λhq=>(FR hq).trans (e1.trans vU)) f6
    ·exact e0.elim
    ·exact e0.elim
    ·exact e0.elim
  ·rename_i hcu
   cases hop:opsOf x with
   | none=>rw[hop]at h; exact h.elim
   | some ops =>
    rw[hop]at h
    simp only at h
    cases hp:CJ (gM P xid tab ro) n ops fr with
    | none=>rw[hp]at h; exact h.elim
    | some p =>
     rw[hp]at h
     obtain⟨Yj,zg2⟩:=h
     obtain⟨id,rfl⟩:∃ id,x=.region id ops false:=by
      cases x with
      | region id ops' draw =>
       cases draw with
       | true=>cases hop
       | false=>cases hop; exact⟨id,rfl⟩
      | _=>cases hop
     refine wp_seq (Lg hp B hR hk _ ?_)
     intro a' hk1 zfA
     rcases zfA with⟨R,HJ⟩ | HJ
     ·refine iy hly (O:=O) (Yj R _ zg2) B HJ (λt b I => ?_) Q λo' Cc a'' SX f0 f1 f2 f3 f4 HF f5 FR f6=>hQ o' Cc a'' SX f0 f1 f2 f3 f4 HF (λs hs=>(ky f5 s hs).trans (kx hk1 s hs)) FR f6
      simp only[Kn.get]at I
      simp only[Fr.get]
      grind
     ·refine iy hly (O:=O) zg2 B HJ (λt b I => ?_) Q λo' Cc a'' SX f0 f1 f2 f3 f4 HF f5 FR f6=>hQ o' Cc a'' SX f0 f1 f2 f3 f4 HF (λs hs=>(ky f5 s hs).trans (kx hk1 s hs)) FR f6
      simp only[Kn.get]at I
      simp only[Fr.get]
      cases ht:V p.c t with
      | true=>rw[ht,cond_true]at I; rw[cond_true]; cases I; rfl
      | false=>rw[ht,cond_false]at I; cases I
  ·rename_i ws hcu
   cases hw:ws.all λw=>zM O.st.length w.sh.bs.length with
   | false=>rw[hw]at h; exact h.elim
   | true =>
    rw[hw,cond_true]at h
    obtain⟨rr,GG,M⟩:=T.zd.1 h
    refine wp_seq (ix hlx GG B hR hk _ λo sD a' E e0 e1 e2 e3 e4 SY e5 _ e6 => ?_)
    obtain⟨w,g1,z,g2,g3,g4⟩:=Cx _ _ _ _ _ e0
    have hwl:=zP.1 hw w g1
    obtain⟨κ1,q1,q2,q3,q4,q5⟩:=z3m (n:=n) e3 e2 e4 e6 g3 (zE hwl) (by rw[e1]; exact g4)
    rw[g2]at M
    split at M
    ·exact M.elim
    rename_i zz hzz
    obtain⟨q5,z0L⟩:=q5 zz hzz
    have HJ:=W8 hR q4 q5 e5
    rw[<- q1]
    cases hex:zz.1<;>rw[hex]at M z0L<;>simp only at M
    ·cases z0L
     exact iy hly (O:=κ1) (by rw[q2]; exact M) q3 HJ (mY _) Q λo' Cc a'' SX f0 f1 f2 f3 f4 HF f5 _ f6=>hQ { o' with q:=false } Cc a'' SX f0 f1 f2 (q4.trans f3) f4 HF (λs hs=>(ky f5 s hs).trans (kx e5 s hs)) (λhq=>by cases hq) f6
    ·cases z0L; exact hQ _ _ a' κ1 M q2 q3 q4 HJ (mY _) (kx e5) (λhq=>by cases hq) rfl
    ·cases z0L; exact hQ _ _ a' κ1 M q2 q3 q4 HJ (mY _) (kx e5) (λhq=>by cases hq) rfl
    ·obtain⟨v,rfl,hv⟩:=z0L
     exact hQ _ _ a' κ1 M q2 q3 q4 HJ (mY _) (kx e5) (λhq=>by cases hq) ⟨v,rfl,hv⟩
 | cond x p q ip iq =>
  intro R fr kn O a α k r h B hR hk Q hQ
  have hlp:gw P n H p:=λz hz=>R z (by simp only[vZ,zN]; exact .inl hz)
  have RJ:gw P n H q:=λz hz=>R z (by simp only[vZ,zN]; exact .inr hz)
  have kp:∀ {a a':Act},Kept p a a'->Kept (.cond x p q) a a':=λh s hs=>h s λe=>hs (by simp only[wF,zN]; exact .inl e)
  have kq:∀ {a a':Act},Kept q a a'->Kept (.cond x p q) a a':=λh s hs=>h s λe=>hs (by simp only[wF,zN]; exact .inr e)
  have hQp:=λ(o:I1) (sD:Exit) (a':Act) (E:KS) f0 f1 f2 f3 f4 HF (f5:Kept p a a') FR f6=>hQ o sD a' E f0 f1 f2 f3 f4 HF (kp f5) FR f6
  have hQq:=λ(o:I1) (sD:Exit) (a':Act) (E:KS) f0 f1 f2 f3 f4 HF (f5:Kept q a a') FR f6=>hQ o sD a' E f0 f1 f2 f3 f4 HF (kq f5) FR f6
  simp only[Vv]at h
  split at h
  ·rename_i N
   have hv:wz fr.get x=some (.qi .bool true):=lW hk N
   exact wp_cond_true (hR.eval hv).cd (ip hlp h B hR hk Q hQp)
  ·rename_i N
   have hv:wz fr.get x=some (.qi .bool false):=lW hk N
   exact wp_cond_false (hR.eval hv).cd (iq RJ h B hR hk Q hQq)
  ·split at h
   ·split at h
    ·rename_i v hv
     have he:=hv
     rw[show ∀ t,fr.get t=wz fr.get (.tmp t)from λ_=>rfl]at he
     rcases h with⟨rfl,h⟩ | ⟨rfl,h⟩
     ·exact wp_cond_true (hR.eval he).cd (ip hlp h B hR (XR hk hv) Q hQp)
     ·exact wp_cond_false (hR.eval he).cd (iq RJ h B hR (XR hk hv) Q hQq)
    ·exact h.elim
   ·exact h.elim
 | block id b ib =>
  intro R fr kn O a α k r h B hR hk Q hQ
  by_cases I:∃ b',b=.loop b'
  ·obtain⟨b,rfl⟩:=I
   simp only[Vv]at h
   split at h
   ·exact h.elim
   ·rename_i l hll
    cases hc:zM (gh l.gh fr O.st).2.length l.sh.bs.length&&Lt l.ps (wF b)&&l.ws.all λw=>zM l.sh.bs.length w.sh.bs.length with
    | false=>rw[hc]at h; exact h.elim
    | true =>
     rw[hc,cond_true]at h
     simp only[X,zP]at hc
     obtain⟨⟨RF,hc2⟩,hc3⟩:=hc
     obtain⟨p,h1,h⟩:=T.zd.1 h
     obtain⟨s,M,h⟩:=T.zd.1 h
     obtain⟨rr,h3,h4⟩:=T.zd.1 h
     obtain⟨κ1,w1,w2,w3,w4,w5⟩:=sF l.gh fr O B hR
     rw[<- w2]at h1 M RF
     obtain⟨κ2,q1,q2,q3,q4,q5,_⟩:=l.sh.K2 (n:=n) (Ext.refl κ1) w3 w5 (zE RF) M
     -- the loop's parameters
     have hps:Rel κ2 n (nc (l.sh.st s) l.ps p).get a:=by
      refine⟨w5.size,w5.defers,λt d J => ?_⟩
      obtain⟨k',y,d0,g0,g1,g2,g3⟩:=(UH (p:=λ_=>true) (ql:=l.sh.st s) l.ps [] p (λ_ _=>rfl) h1).2 _ (get_mem J)
      cases g3
      obtain⟨v,e1,e2⟩:=w5.get _ _ g1
      have Yk:=zP.1 hc2 _ g0
      simp only[X]at Yk
      have hwk:Wk κ1 κ1:=⟨rfl,rfl,rfl,rfl,λb d h=>⟨d,h⟩,λb v e xs h=>.inl h,λb v e xs h=>h,λb h=>h⟩
      have uZ:Fb [] k'=true:=by cases k'<;>first | rfl | cases Yk.1
      have:=Db hwk (bs:=[]) uZ (λ_ _=>rfl) (ql:=κ1.st) (λ_ _=>rfl) (λ_ h=>by simp[rowAt]at h) g2 e2
      have he:Qw κ1.st k' y=Qw (l.sh.st s) k' y:=by cases k'<;>first | rfl | cases Yk.1
      rw[he]at this
      exact⟨v,e1,this.mono q4⟩
     have z5N:Ext O κ2:=w4.trans q4
     have Kd:κ2.w=O.w:=q1.trans w1
     rw[<- Kd]
     refine wp_block (R (id,b) (by simp[vZ]) l hll κ2 a p s rr h3 q2 q3 q5 hps hc2 (λw hw=>zE (hc3 w hw)) _ λw x sD a' E f1 f2 f3 f4 f5 f6 f7 => ?_)
     rw[f2]at h4
     split at h4
     ·exact h4.elim
     rename_i zz hzz
     obtain⟨f6,f8⟩:=f6 zz hzz
     have hR':Rel E n (zz.2++(ob (wF b)++(gh l.gh fr O.st).1)).get a':=W8 w5 (q4.trans f5) f6 f7
     have hkk:Kept (.block id (.loop b)) a a':=f7
     cases hwx:zz.1<;>rw[hwx]at h4 f8<;>simp only at h4
     ·exact h4.elim
     ·rename_i id'
      cases f8
      simp only[Exit.inBlock]
      cases Kb:V id' id with
      | true =>
       rw[Kb,cond_true]at h4
       have:=zA Kb
       subst this
       rw[if_pos rfl]
       exact hQ _ _ a' E h4 f3 f4 (z5N.trans f5) hR' (mY _) hkk (λhq=>by cases hq) rfl
      | false =>
       rw[Kb,cond_false]at h4
       rw[if_neg (λe=>by subst e; simp at Kb)]
       exact hQ _ _ a' E h4 f3 f4 (z5N.trans f5) hR' (mY _) hkk (λhq=>by cases hq) rfl
     ·cases f8
      exact hQ _ _ a' E h4 f3 f4 (z5N.trans f5) hR' (mY _) hkk (λhq=>by cases hq) rfl
     ·obtain⟨v,rfl,hv⟩:=f8
      exact hQ _ _ a' E h4 f3 f4 (z5N.trans f5) hR' (mY _) hkk (λhq=>by cases hq) ⟨v,rfl,hv⟩
  ·have Kb:∀ b',b≠.loop b':=λb' e=>I ⟨b',e⟩
   rw[Rr Kb]at h
   refine wp_block (ib (λz hz=>R z (by rw[EP Kb]; exact hz)) h B hR hk _ λo sD a' E f0 f1 f2 f3 f4 HF f5 FR f6 => ?_)
   have hkk:Kept (.block id b) a a':=f5
   cases GH:o.ex<;>rw[GH]at f0 f6<;>simp only at f0
   ·cases f6; exact hQ o _ a' E f0 f1 f2 f3 f4 HF hkk FR (by rw[GH]; rfl)
   ·rename_i id'
    cases f6
    simp only[Exit.inBlock]
    cases hbq:V id' id with
    | true =>
     rw[hbq,cond_true]at f0
     have:=zA hbq
     subst this
     rw[if_pos rfl]
     exact hQ _ _ a' E f0 f1 f2 f3 f4 HF hkk FR rfl
    | false =>
     rw[hbq,cond_false]at f0
     rw[if_neg (λe=>by subst e; simp at hbq)]
     exact hQ o _ a' E f0 f1 f2 f3 f4 HF hkk FR (by rw[GH]; rfl)
   ·cases f6; exact hQ o _ a' E f0 f1 f2 f3 f4 HF hkk FR (by rw[GH]; rfl)
   ·obtain⟨v,rfl,hv⟩:=f6
    exact hQ o _ a' E f0 f1 f2 f3 f4 HF hkk FR (by rw[GH]; exact⟨v,rfl,hv⟩)
 | _=>intro _ fr kn O a α k r h; simp only[Vv]at h; exact h.elim
end
end Go.AM
namespace Go.AM
set_option linter.unusedSectionVars false
variable [yV]
open Go.RowKit
section
variable [Hl]
variable {P:Program} {xid:Nat} {tab:lC} {ro:Nat->Bool} {n:Nat} {H:Hints}
theorem P9{b:Code}{st ql:St}:∀ (ff:List It) (z:jP ff),Lt ff (wF b)=true->nc st ff z=nc ql ff z/\∀ q∈nc st ff z,q.1 ∉ wF b:=by
 intro ff
 induction ff with
 | nil=>intro z _; exact⟨rfl,λq hq=>by cases hq⟩
 | cons i r ih =>
  intro z h
  have hi:∀ y:i.den,GS st i y=GS ql i y/\∀ q∈GS st i y,q.1 ∉ wF b:=by
   intro y
   simp only[Lt,zF,X]at h
   cases i with
   | s t k =>
    obtain⟨h1,_⟩:=h
    simp at h1
    refine⟨by cases k<;>first | rfl | (simp[KF]at h1),λq hq => ?_⟩
    simp only[GS,zL]at hq
    subst hq
    intro hm
    have:=h1.2
    simp only[z9Y,qF,List.any_eq_false]at this
    exact this t hm (qz)
   | _=>grind
  cases r with
  | nil =>
   have e1:=YR st i z
   have e2:=YR ql i z
   grind
  | cons j r =>
   have e1:=Jg st i j r z
   have e2:=Jg ql i j r z
   have hr:Lt (j::r) (wF b)=true:=by
    unfold Lt at h ⊢
    grind
   grind
theorem z7Z(hm:(gM P xid tab ro).P.follows .mixedOrders=true)(hT:ea P tab){l:q9}{b:Code}(hL:gw P n H b)(hl:jP l.ps->l.sh.den->T (l.sh.den⊕fJ l.ws))
  (round:∀ p s,z2R (gM P xid tab ro) tab n H l b p s=hl p s) (hF:∀ p s,l.F p s=T.loop (hl p) s):Vx P n l b:=by
 intro O a p s r hr vU B hR hRp hps hws Q hQ
 rw[hF,T.eQ]at hr
 obtain⟨m,hm'⟩:=hr
 have zno:=λ(st ql:St)=>(P9 (b:=b) (st:=st) (ql:=ql) l.ps p hps).1
 have zbJ:∀ (st:St) (t:Nat) (d:D),(nc st l.ps p).get t=some d->t ∉ wF b:=λst t d J=>(P9 (b:=b) (st:=st) (ql:=st) l.ps p hps).2 _ (get_mem J)
 refine wp_loop_ghost (λm a' w'=>∃ s',T.Iter (hl p) m s' r/\∃ E:KS,E.w=w'/\E.st=l.sh.st s'/\Inv E/\Ext O E/\Rel E n (l.sh.fr s').get a'/\Rel E n (nc (l.sh.st s) l.ps p).get a'/\Kept b a a') m
  ⟨s,hm',O,rfl,vU,B,Ext.refl O,hR,hRp,λ_ _=>rfl⟩ ?_
 rintro m a1 w1 ⟨s1,hit,κ1,rfl,g4,g5,g6,g7a,g7b,g8⟩
 have g7:Rel κ1 n (l.sh.fr s1++nc (l.sh.st s1) l.ps p).get a1:=⟨g7a.size,g7a.defers,λt d J=>by
  rcases JC J with J | J
  ·exact g7a.get t d J
  ·rw[zno _ (l.sh.st s)]at J; exact g7b.get t d J⟩
 cases hit with
 | done h1 =>
  rw[<- round]at h1
  refine QW hm hT b hL (O:=κ1) (by rw[g4]; exact h1) g5 g7 (mY _) _ λo sD a' E e0 e1 e2 e3 e4 SY e5 _ e6 => ?_
  have fin:∀ exo,Dy E exo sD->(Cv l.ws exo (GR exo o.fr) o.st).leads r->Q sD a' E.w:=λexo e6 e0=>by
   obtain⟨w,k1,x,k2,k3,k4⟩:=Cx _ _ _ _ _ e0
   have hlen:κ1.st.length<=w.sh.bs.length:=by rw[g4]; exact zV (um.Xt _ _) (hws w k1)
   obtain⟨κ2,q1,q2,q3,q4,q5⟩:=z3m (n:=n) e3 e2 e4 e6 k3 hlen (by rw[e1]; exact k4)
   have:=hQ w x sD a' κ2 k1 k2 q2 q3 (g6.trans q4) q5 (λt ht=>(e5 t ht).trans (g8 t ht))
   grind
  have OJ:∀ {z:l.sh.den⊕fJ l.ws},((Cv l.ws o.ex (GR o.ex o.fr) o.st).bind λr=>T.ret (qM r:l.sh.den⊕fJ l.ws)).leads z->z=qM r->(Cv l.ws o.ex (GR o.ex o.fr) o.st).leads r:=by
   intro z h hz
   obtain⟨y,h1,M⟩:=T.zd.1 h
   have M:(qM y:l.sh.den⊕fJ l.ws)=z:=M
   grind
  cases GH:o.ex<;>rw[GH]at e0 e6 OJ<;>simp only at e0
  ·obtain⟨y,_,M⟩:=T.zd.1 e0
   have M:(qR y:l.sh.den⊕fJ l.ws)=qM r:=M
   cases M
  ·have q:=fin _ e6 (OJ e0 rfl); cases e6; exact q
  ·have q:=fin _ e6 (OJ e0 rfl); cases e6; exact q
  ·have q:=fin _ e6 (OJ e0 rfl); obtain⟨v,rfl,hv⟩:=e6; exact q
 | step h1 hit =>
  rename_i m s2
  rw[<- round]at h1
  refine QW hm hT b hL (O:=κ1) (by rw[g4]; exact h1) g5 g7 (mY _) _ λo sD a' E e0 e1 e2 e3 e4 SY e5 _ e6 => ?_
  have OK:((Cv l.ws o.ex (GR o.ex o.fr) o.st).bind λr=>T.ret (qM r:l.sh.den⊕fJ l.ws)).leads (qR s2)->False:=by
   intro h
   obtain⟨y,h1,M⟩:=T.zd.1 h
   have M:(qM y:l.sh.den⊕fJ l.ws)=qR s2:=M
   cases M
  cases GH:o.ex<;>rw[GH]at e0 e6 OK<;>simp only at e0
  ·cases e6
   obtain⟨y,h1,M⟩:=T.zd.1 e0
   have M:(qR y:l.sh.den⊕fJ l.ws)=qR s2:=M
   cases M
   have hlen:κ1.st.length<=l.sh.bs.length:=by rw[g4]; exact um.Xt _ _
   obtain⟨κ2,q1,q2,q3,q4,q5,_⟩:=l.sh.K2 (n:=n) e3 e2 e4 hlen (by rw[e1]; exact h1)
   refine⟨m,Nat.lt_succ_self _,s2,hit,κ2,q1,q2,q3,g6.trans q4,q5,⟨q5.size,q5.defers,λt d J => ?_⟩,λt ht=>(e5 t ht).trans (g8 t ht)⟩
   obtain⟨v,r1,r2⟩:=g7b.get t d J
   exact⟨v,(e5 t (zbJ _ t d J)).trans r1,r2.mono q4⟩
  ·exact(OK e0).elim
  ·exact(OK e0).elim
  ·exact(OK e0).elim
end
section
variable {P:Program} {xid:Nat} {tab:lC} {ro:Nat->Bool} {n:Nat} {H:Hints}
theorem JJ{O:KS}(B:Inv O):∀ (rs:List Ty) (ds:List D) (x:Dl rs) (vs:List Value),(z3k O.st rs ds).leads x->wN O ds vs->wN O.all (Ua rs x) vs/\∀ d∈Ua rs x,Jy d=true
 | [],[],x,vs,h,J=>by rw[J.wb]; exact⟨.nil,λd J=>by cases J⟩
 | [],_::_,x,vs,h,J=>h.elim
 | [τ],[],x,vs,h,J=>h.elim
 | [τ],[d],x,vs,h,J=>by
  obtain⟨v,us,rfl,h1,M⟩:=J.cons_inv
  rw[M.wb]
  refine⟨.cons (VH B h1 h) .nil,λd J => ?_⟩
  have J:d∈[D.qi τ x]:=J
  rw[zL]at J
  subst J; rfl
 | [τ],_::_::_,x,vs,h,J=>h.elim
 | τ::σ::r,[],x,vs,h,J=>h.elim
 | τ::σ::r,d::ds,x,vs,h,J=>by
  obtain⟨y,h1,M⟩:=T.zd.1 h
  obtain⟨z,h3,h4⟩:=T.zd.1 M
  cases h4
  obtain⟨v,us,rfl,k1,k2⟩:=J.cons_inv
  obtain⟨g1,g2⟩:=JJ B (σ::r) ds z us h3 k2
  refine⟨.cons (VH B k1 h1) g1,λd J => ?_⟩
  rcases zH.1 J with rfl | J
  ·rfl
  ·grind
theorem zed(hm:(gM P xid tab ro).P.follows .mixedOrders=true)(hT:ea P tab){f:Nat}{fn:Func}{code:Code}(hf:P.funcs[f]? = some fn)(I:fn.body=some code)
  (hn:(fn.name == "runtime.NumGoroutine")=false) (hL:gw P fn.ntmps H code) {d:Dz} (h:∀ x,z01 (gM P xid tab ro) tab H fn code d x=d.F x):q8 P f d:=by
 intro O x xb y vU hy B ha
 rw[<- h]at hy
 unfold z01 at hy
 cases hle:zM (Jh d.ps x).length fn.ntmps with
 | false=>rw[hle]at hy; exact hy.elim
 | true =>
  rw[hle,cond_true]at hy
  have GX:=zE hle
  refine .inl ⟨uR hf hn (xy) O.w,calls_of_wp hf I ?_⟩
  have hR:=Kk ha GX
  refine QW hm hT code hL (O:=O) (by rw[vU]; exact hy) B hR (mY _) _ λo sD a' κe e0 e1 e2 e3 e4 _ _ _ e6 => ?_
  have fin:(sD=.normal\/sD=.ret)->((nj (gM P xid tab ro) o.fr o.st fn.results.toList).bind λds=>z3k o.st d.rs ds).leads y ->
    bodyPost P fn (λe w'=>∃ E:KS,E.w=w'/\E.st=[]/\Inv E/\Ext O E/\jc E (.ret (Ua d.rs y)) e) sD a' κe.w:=by
   intro hex M
   obtain⟨ds,g1,g2⟩:=T.zd.1 M
   rw[<- e1]at g1 g2
   obtain⟨vs,k1,k2⟩:=UA e2 e4 g1
   obtain⟨q1,q2⟩:=SE B vU e2 e3
   obtain⟨R,hdat⟩:=JJ e2 d.rs ds y vs g2 k2
   have IW:wN (κe.bare (Ta κe)) (Ua d.rs y) vs:=⟨R.1,λi h1 M=>Zl (hdat _ (List.getElem_mem h1)) (R.2 i h1 M)⟩
   have JH:a'.defers=[]/\∃ v,(results fn a'.tmps).run P κe.w=.ok v κe.w/\∃ E:KS,E.w=κe.w/\E.st=[]/\Inv E/\Ext O E/\jc E (.ret (Ua d.rs y)) (.returned v) :=
    ⟨e4.defers,_,k1,κe.bare (Ta κe),rfl,rfl,q1,q2,_,rfl,G4 IW⟩
   rcases hex with rfl | rfl
   ·exact JH
   ·exact JH
  cases GH:o.ex<;>rw[GH]at e0 e6<;>simp only at e0
  ·exact fin (.inl e6) e0
  ·exact e0.elim
  ·exact fin (.inr e6) e0
  ·exact e0.elim
theorem Yf{d:Dz}{f:Nat}(b:(dQ d.ps->T (Dl d.rs))->dQ d.ps->T (Dl d.rs))(hF:∀ x,d.F x=T.fix b x)(h:∀ F:dQ d.ps->T (Dl d.rs),q8 P f ⟨d.ps,d.rs,F⟩->q8 P f ⟨d.ps,d.rs,b F⟩):q8 P f d:=by
 have hN:∀ m,q8 P f ⟨d.ps,d.rs,T.Wo b m⟩:=by
  intro m
  induction m with
  | zero=>nofun
  | succ m ih=>exact h _ ih
 intro O x xb y vU hy B ha
 rw[hF,T.lV]at hy
 obtain⟨m,hm⟩:=hy
 exact hN m O x xb y vU (hm m (zJ _)) B ha
theorem Bm{fr:Fr}:∀ {n i:Nat} {ds:List D},Bl fr n i=some ds->ds.length=n/\∀ j d,ds[j]? = some d->fr.get (i+j)=some d
 | 0,i,ds,h=>by cases h; exact⟨rfl,λj d hj=>xy⟩
 | n+1,i,ds,h=>by
  simp only[Bl]at h
  split at h
  ·rename_i d J
   split at h
   ·rename_i r hr
    obtain⟨h1,M⟩:=Bm hr
    grind
   ·cases h
  ·cases h
theorem DQ{O κe:KS}{ds:List D}{vs:List Value}(hO:Inv O)(B:Inv κe)(N:Ext O κe)(h:wN κe ds vs) :
  ∃ κ1:KS,κ1.w=κe.w/\κ1.st=(canon O.st.length ds κe.st).2/\Inv κ1/\Ext O κ1/\wN κ1 (canon O.st.length ds κe.st).1 vs:=by
 have zbS:∃ κ1:KS,κ1.w=κe.w/\κ1.st=κe.st/\Inv κ1/\Ext O κ1/\wN κ1 ds vs:=⟨κe,rfl,rfl,B,N,h⟩
 unfold canon
 generalize Kc:z86 O.st.length [] (SG κe.st ds)=nb
 simp only
 split
 ·rename_i l R
  split
  ·rename_i dz ds1 hr J
   cases hn:cC (zX O.st.length++nb)with
   | false=>exact zbS
   | true =>
    obtain⟨p1,hp⟩:=Q0 B.len.symm R
    obtain⟨g1,g2,g3,g4,g5⟩:=D5 B hn hp R hr
    have z5P:∀ b,b<O.st.length->(zX O.st.length++nb)[b]? = some b:=λb I=>by
     rw[zK (by simpa using I)]; simp[I]
    have IL:∀ b x,O.st[b]? = some x->b<O.st.length:=λb x h=>(Y.1 h).1
    refine⟨⟨κe.w,κe.ok,p1,dz⟩,rfl,rfl,g1,⟨N.os,N.tape,N.output,N.size,N.same,N.fresh,λj blk n h => ?_,λb d h => ?_,λb v0 e xs h => ?_,λb h => ?_,?_,N.frame⟩,g2.rds h J⟩
    ·have hj:j<(zX O.st.length++nb).length:=by have:=(Y.1 h).1; simp only at this; omega
     have I:=zG hj
     generalize (zX O.st.length++nb)[j]=b at I
     have h':=(g5 j b I).1.symm.trans h
     rcases N.phs b blk n h' with h1 | h1
     ·have wL:b<O.st.length:=Nat.lt_of_not_le λhle=>by
       have:=(Y.1 h1).1
       have:=hO.len
       omega
      have:=Option.some.inj ((ox hn I).symm.trans (ox hn (z5P b wL)))
      subst this
      exact .inl h1
     ·exact .inr h1
    ·obtain⟨⟨d',h1⟩,M⟩:=N.var b d h
     obtain⟨k1,x,y,k2,k3,k4⟩:=g5 b b (z5P b (IL b _ h))
     rw[h1]at k2; cases k2
     simp only[Vj]at k3
     split at k3
     ·cases k3; exact⟨⟨_,k4⟩,k1.trans M⟩
     ·cases k3
    ·obtain⟨k1,x,y,k2,k3,k4⟩:=g5 b b (z5P b (IL b _ h))
     rcases N.arr b v0 e xs h with h1 | ⟨v1,x1,h1,M,h3⟩
     ·rw[h1]at k2; cases k2; cases k3; exact .inl k4
     ·rw[h1]at k2; cases k2; cases k3; exact .inr ⟨v1,x1,k4,M,λhe=>⟨k1.trans (h3 he).1,(h3 he).2⟩⟩
    ·obtain⟨k1,x,y,k2,k3,k4⟩:=g5 b b (z5P b (IL b _ h))
     rw[N.dead b h]at k2; cases k2; cases k3; exact k4
    ·show O.st.length<=dz.length
     rw[g3]; simp
  ·exact zbS
 ·exact zbS
theorem zcB{O:KS}(B:Inv O)(e:Ty):RD (O.yK e) (.ms O.st.length 0 e 0 0) (.slice none 0 0):=by
 have H2:(O.yK e).st[O.st.length]? = some (.arr 0 e []):=by simp[KS.yK]
 refine .ms O.st.length 0 e 0 0 0 none (.inr ⟨0,e,[],H2,zJ _⟩) (zJ _) (λ_=>rfl) nofun λxs Yl => ?_
 rw[H2]at Yl
 cases Yl
 exact⟨zJ _,.inl ⟨rfl,rfl,rfl,by simp[KS.yK,<- B.len]⟩⟩
theorem Uy{O:KS}{d:D}{l:List D}{v:Value}{vs:List Value}(h:RD O d v)(hr:wN O l vs):wN O (d::l) (v::vs) :=
 ⟨by simp[hr.1],λi h1 M=>by cases i with | zero=>exact h | succ i=>exact hr.2 i (by simpa using h1) (by simpa using M)⟩
theorem IF:∀ (ks:List Sk) (l:List D) (O:KS) (vs:List Value),Inv O->wN O l vs->∃ κ1:KS,κ1.w=O.w/\κ1.st=(kc ks l O.st).2/\Inv κ1/\Ext O κ1/\wN κ1 (kc ks l O.st).1 vs:=by
 intro ks
 induction ks with
 | nil=>intro l O vs B h; exact⟨O,rfl,by unfold kc; rfl,B,Ext.refl O,by unfold kc; exact h⟩
 | cons k ks ih =>
  intro l O vs B h
  cases l with
  | nil=>exact⟨O,rfl,by cases k<;>rfl,B,Ext.refl O,by cases k<;>exact h⟩
  | cons d l =>
   obtain⟨v,r,rfl,h0,h1⟩:=h.cons_inv
   have go:∃ κ1:KS,κ1.w=O.w/\κ1.st=(kc ks l O.st).2/\Inv κ1/\Ext O κ1/\wN κ1 (d::(kc ks l O.st).1) (v::r):=by
    obtain⟨κ1,q1,q2,q3,q4,q5⟩:=ih l O r B h1
    exact⟨κ1,q1,q2,q3,q4,Uy (h0.mono q4) q5⟩
   cases k with
   | row b e =>
    cases d with
    | wE =>
     unfold kc
     cases he:zO 0 e.size with
     | false=>exact go
     | true =>
      cases h0
      obtain⟨κ1,q1,q2,q3,q4,q5⟩:=ih l (O.yK e) r (Vd B (zE he)) (h1.mono (rI B e))
      exact⟨κ1,q1,q2,q3,(rI B e).trans q4,Uy ((zcB B e).mono q4) q5⟩
    | _=>exact go
   | _=>exact go
theorem Ej:∀ (ks:List Sk) (l:List D) (st:St),(∀ d∈l,d.one=true)->∀ d∈(kc ks l st).1,d.one=true:=by
 intro ks
 induction ks with
 | nil=>intro l st h; unfold kc; exact h
 | cons k ks ih =>
  intro l st h
  cases l with
  | nil=>cases k<;>exact h
  | cons d l =>
   have go:∀ ql,∀ x∈d::(kc ks l ql).1,x.one=true:=λql x N=>by
    rcases zH.1 N with rfl | N
    ·exact h _ zQ
    ·exact ih l ql (λy hy=>h y (zI _ hy)) x N
   cases k with
   | row b e =>
    cases d with
    | wE =>
     unfold kc
     cases zO 0 e.size with
     | false=>exact go st
     | true =>
      intro x N
      rcases zH.1 (show x∈D.ms st.length 0 e 0 0::(kc ks l (st++[.arr 0 e []])).1 from N)with rfl | N
      ·rfl
      ·exact ih l _ (λy hy=>h y (zI _ hy)) x N
    | _=>exact go st
   | _=>exact go st
theorem Rx(ff:List It):∀ (ds:List D) (i:Nat) (O:KS) (vs:List Value),Inv O->wN O ds vs->∃ κ1:KS,κ1.w=O.w/\κ1.st=(tn ff i ds O.st).2/\Inv κ1/\Ext O κ1/\wN κ1 (tn ff i ds O.st).1 vs:=by
 intro ds
 induction ds with
 | nil=>intro i O vs B h; exact⟨O,rfl,rfl,B,Ext.refl O,h⟩
 | cons d ds ih =>
  intro i O vs B h
  obtain⟨v,r,rfl,h0,h1⟩:=h.cons_inv
  have go:∃ κ1:KS,κ1.w=O.w/\κ1.st=(tn ff (i+1) ds O.st).2/\Inv κ1/\Ext O κ1/\wN κ1 (d::(tn ff (i+1) ds O.st).1) (v::r):=by
   obtain⟨κ1,q1,q2,q3,q4,q5⟩:=ih (i+1) O r B h1
   exact⟨κ1,q1,q2,q3,q4,Uy (h0.mono q4) q5⟩
  cases d with
  | agg l =>
   cases h0 with
   | agg _ vs0 R ho hr =>
    obtain⟨κ1,q1,q2,q3,q4,q5⟩:=IF (SL ff i) l O vs0 B ⟨R,hr⟩
    obtain⟨κ2,p1,p2,p3,p4,p5⟩:=ih (i+1) κ1 r q3 (h1.mono q4)
    rw[q2]at p2 p5
    exact⟨κ2,p1.trans q1,p2,p3,q4.trans p4,Uy ((RD.agg _ vs0 q5.1 (Ej _ _ _ ho) q5.2).mono p4) p5⟩
  | _=>exact go
theorem z8E{O κe:KS}{ds:List D}{vs:List Value}(out:um)(hO:Inv O)(B:Inv κe)(N:Ext O κe)(h:wN κe ds vs) :
  ∃ κ1:KS,κ1.w=κe.w/\κ1.st=(CZ out O.st.length ds κe.st).2/\Inv κ1/\Ext O κ1/\wN κ1 (CZ out O.st.length ds κe.st).1 vs:=by
 unfold CZ
 cases(out.ff.all λ| .s _ (.st _)=>false | _=>true)&&(out.cs.all λ| (_,.ptr _ _)=>false | (_,.cur _ _)=>false | _=>true)with
 | true=>exact⟨κe,rfl,rfl,B,N,h⟩
 | false =>
  obtain⟨κ1,q1,q2,q3,q4,q5⟩:=DQ hO B N h
  obtain⟨κ2,p1,p2,p3,p4,p5⟩:=Rx out.ff _ 0 κ1 vs q3 q5
  rw[q2]at p2 p5
  obtain⟨κ3,r1,r2,r3,r4,r5⟩:=DQ hO p3 (q4.trans p4) p5
  rw[p2]at r2 r5
  exact⟨κ3,r1.trans (p1.trans q1),r2,r3,r4,r5⟩
theorem G3{O κe:KS}{a':Act}{fn:Func}{o:I1}{nr:Nat}{out:um}{y:out.den}(hO:Inv O)(e1:κe.st=o.st)(e2:Inv κe)(e3:Ext O κe)(e4:Rel κe fn.ntmps o.fr.get a')(hlen:O.st.length<=out.bs.length)
  (h:((nj (gM P xid tab ro) o.fr o.st fn.results.toList).bind λds=>WE out O.st.length nr ds o.st).leads y) :
  ∃ v,(results fn a'.tmps).run P κe.w=.ok v κe.w/\∃ (E:KS) (ds:List D),E.w=κe.w/\E.st=out.st y/\Inv E/\Ext O E/\oG nr (out.fr y)=some ds/\jc E (.ret ds) (.returned v):=by
 obtain⟨ds,g1,g2⟩:=T.zd.1 h
 unfold WE at g2
 cases hnr:V ds.length nr with
 | false=>rw[hnr]at g2; exact g2.elim
 | true =>
  rw[hnr,cond_true]at g2
  obtain⟨y',g5,g3⟩:=T.zd.1 g2
  cases hsome:oG nr (out.fr y')with
  | none=>rw[hsome]at g3; exact g3.elim
  | some Ca =>
   rw[hsome]at g3
   have hyy:y'=y:=g3
   subst hyy
   rw[<- e1]at g1 g5
   obtain⟨vs,k1,k2⟩:=UA e2 e4 g1
   obtain⟨κr,z1,z2,z3,z4,z5⟩:=z8E out hO e2 e3 k2
   have hRr:Rel κr vs.length (ym (CZ out O.st.length ds κe.st).1 0).get { tmps:=vs.toArray,defers:=[] }:=by
    have:=Kk (n:=vs.length) z5 (by rw[z5.1]; exact zJ _)
    simpa[show(Hl.df:List Deferred)=[]from rfl]using this
   obtain⟨κ0,w1,w2,w3,w4,w5⟩:=sF (z2z out.cs) (ym (CZ out O.st.length ds κe.st).1 0) κr z3 hRr
   rw[z2]at w2 w5
   rw[<- w2]at g5
   obtain⟨κ2,q1,q2,q3,q4,q5,_⟩:=out.K2 (κ0:=O) (z4.trans w4) w3 w5 hlen g5
   obtain⟨l1,l2⟩:=Bm hsome
   have hds:wN κ2 Ca vs:=by
    refine⟨by rw[l1,<- k2.1]; exact(zA hnr).symm,λi h1 M => ?_⟩
    have:=l2 i Ca[i] (zG h1)
    rw[qD]at this
    obtain⟨v,r1,r2⟩:=q5.get i _ this
    grind
   exact⟨_,k1,κ2,Ca,q1.trans (w1.trans z1),q2,q3,q4,hsome,_,rfl,G4 hds⟩
theorem zb3(hm:(gM P xid tab ro).P.follows .mixedOrders=true)(hT:ea P tab){f:Nat}{fn:Func}{code:Code}(hf:P.funcs[f]? = some fn)(I:fn.body=some code)
  (hn:(fn.name == "runtime.NumGoroutine")=false) (hL:gw P fn.ntmps H code) {d:gX} (h:∀ x,ID (gM P xid tab ro) tab H fn code d x=d.F x):xv P f d:=by
 intro O x xb y vU hy B hlen hR0
 rw[<- h]at hy
 unfold ID at hy
 cases hle:zM d.ks.length fn.ntmps&&zM d.sh.bs.length d.out.bs.length with
 | false=>rw[hle]at hy; exact hy.elim
 | true =>
  rw[hle,cond_true]at hy
  simp only[X]at hle
  have zfS:=zE hle.1
  have z0R:=zE hle.2
  refine .inl ⟨uR hf hn (by rw[I]; rfl) O.w,calls_of_wp hf I ?_⟩
  rw[<- vU]at hy
  have hR:Rel O fn.ntmps (d.sh.fr x).get { tmps:=xb.toArray++Array.replicate (fn.ntmps-xb.toArray.size) undef,defers:=[] }:=by
   refine⟨by simp; omega,rfl,λs e hs => ?_⟩
   obtain⟨v,h1,M⟩:=hR0.get s e hs
   grind
  refine QW hm hT code hL (O:=O) hy B hR (mY _) _ λo sD a' κe e0 e1 e2 e3 e4 _ _ _ e6 => ?_
  have fin:(sD=.normal\/sD=.ret)->((nj (gM P xid tab ro) o.fr o.st fn.results.toList).bind λds=>WE d.out O.st.length d.nr ds o.st).leads y ->
    bodyPost P fn (λe w'=>∃ (E:KS) (ds:List D),E.w=w'/\E.st=d.out.st y/\Inv E/\Ext O E/\oG d.nr (d.out.fr y)=some ds/\jc E (.ret ds) e) sD a' κe.w:=by
   intro hex M
   obtain⟨v,k1,k2⟩:=G3 B e1 e2 e3 e4 (by rw[vU]; exact zV (um.Xt _ _) z0R) M
   rcases hex with rfl | rfl
   ·exact⟨e4.defers,v,k1,k2⟩
   ·exact⟨e4.defers,v,k1,k2⟩
  cases GH:o.ex<;>rw[GH]at e0 e6<;>simp only at e0
  ·exact fin (.inl e6) e0
  ·exact e0.elim
  ·exact fin (.inr e6) e0
  ·exact e0.elim
theorem Ks{d:gX}{f:Nat}(b:(d.sh.den->T d.out.den)->d.sh.den->T d.out.den)(hF:∀ x,d.F x=T.fix b x)(h:∀ F:d.sh.den->T d.out.den,xv P f ⟨d.ks,d.sh,d.du,d.out,d.nr,F⟩->xv P f ⟨d.ks,d.sh,d.du,d.out,d.nr,b F⟩):xv P f d:=by
 have hN:∀ m,xv P f ⟨d.ks,d.sh,d.du,d.out,d.nr,T.Wo b m⟩:=by
  intro m
  induction m with
  | zero=>nofun
  | succ m ih=>exact h _ ih
 intro O x xb y vU hy B R ha
 rw[hF,T.lV]at hy
 obtain⟨m,hm⟩:=hy
 exact hN m O x xb y vU (hm m (zJ _)) B R ha
theorem zcL{O κe:KS}{hH:um}{z:hH.den}{st:St}{t:Nat}{d:D}{u:Value}(e1:κe.st=st)(e2:Inv κe)(e3:Ext O κe)(hlen:O.st.length<=hH.bs.length)(hu:RD κe d u)
  (h:((hH.un [(0,some d)] st).bind λz=>match(hH.fr z).get 0 with | some _=>T.ret z | none=>.fail).leads z) :
  ∃ (E:KS) (p:D),E.w=κe.w/\E.st=hH.st z/\Inv E/\Ext O E/\(hH.fr z).get 0=some p/\jc E (.hH (.iface t p)) (.panicked [{ v:=.iface t u,recovered:=false }]):=by
 obtain⟨z',g1,g2⟩:=T.zd.1 h
 split at g2
 ·rename_i p hp
  have hzz:z'=z:=g2
  subst hzz
  have HJ:Rel κe 1 (Fr.get [(0,some d)]) { tmps := #[u],defers:=[] }:=by
   refine⟨rfl,rfl,λs d' J => ?_⟩
   simp only[Fr.get]at J
   cases I:V 0 s with
   | true =>
    have:=zA I
    grind
   | false=>grind
  rw[<- e1]at g1
  obtain⟨κ2,q1,q2,q3,q4,q5,_⟩:=hH.K2 (κ0:=O) e3 e2 HJ hlen g1
  obtain⟨v',r1,r2⟩:=q5.get 0 p hp
  cases r1
  exact⟨κ2,p,q1,q2,q3,q4,hp,_,rfl,.iface t p _ r2⟩
 ·exact g2.elim
theorem zb2(hm:(gM P xid tab ro).P.follows .mixedOrders=true)(hT:ea P tab){f:Nat}{fn:Func}{code:Code}(hf:P.funcs[f]? = some fn)(I:fn.body=some code)
  (hn:(fn.name == "runtime.NumGoroutine")=false) (hL:gw P fn.ntmps H code) {d:lB} (h:∀ x,IC (gM P xid tab ro) tab H fn code d x=d.F x):jz P f d:=by
 intro O x xb y vU hy B hlen hR0
 rw[<- h]at hy
 unfold IC at hy
 cases hle:zM d.ks.length fn.ntmps&&zM d.sh.bs.length d.out.bs.length&&zM d.sh.bs.length d.hH.bs.length with
 | false=>rw[hle]at hy; exact hy.elim
 | true =>
  rw[hle,cond_true]at hy
  simp only[X]at hle
  have zfS:=zE hle.1.1
  have z0R:=zE hle.1.2
  have zfT:=zE hle.2
  refine .inl ⟨uR hf hn (by rw[I]; rfl) O.w,calls_of_wp hf I ?_⟩
  rw[<- vU]at hy
  have hR:Rel O fn.ntmps (d.sh.fr x).get { tmps:=xb.toArray++Array.replicate (fn.ntmps-xb.toArray.size) undef,defers:=[] }:=by
   refine⟨by simp; omega,rfl,λs e hs => ?_⟩
   obtain⟨v,h1,M⟩:=hR0.get s e hs
   grind
  refine QW hm hT code hL (O:=O) hy B hR (mY _) _ λo sD a' κe e0 e1 e2 e3 e4 _ _ _ e6 => ?_
  have fin:(sD=.normal\/sD=.ret)->((nj (gM P xid tab ro) o.fr o.st fn.results.toList).bind λds=>z8t d O.st.length ds o.st).leads y ->
    bodyPost P fn (λe w'=>∃ E:KS,E.w=w'/\Inv E/\Ext O E/\((∃ (y':d.out.den) (ds:List D),y=.inl y'/\E.st=d.out.st y'/\oG d.nr (d.out.fr y')=some ds/\jc E (.ret ds) e) \/
     (d.two=none/\∃ (z:d.hH.den) (p:D),y=.inr z/\E.st=d.hH.st z/\(d.hH.fr z).get 0=some p/\jc E (.hH (.iface d.pt p)) e) \/
     ∃ (n:Nat) (z:d.hH.den) (ds:List D),d.two=some n/\y=.inr z/\E.st=d.hH.st z/\oG n (d.hH.fr z)=some ds/\jc E (.ret ds) e)) sD a' κe.w:=by
   intro hex M
   obtain⟨ds,g1,g2⟩:=T.zd.1 M
   have one:((WE d.out O.st.length d.nr ds o.st).bind λy=>T.ret (qR y:d.out.den⊕d.hH.den)).leads y ->
     ∃ v,(results fn a'.tmps).run P κe.w=.ok v κe.w/\∃ E:KS,E.w=κe.w/\Inv E/\Ext O E/\∃ (y':d.out.den) (ds:List D),y=.inl y'/\E.st=d.out.st y'/\oG d.nr (d.out.fr y')=some ds/\jc E (.ret ds) (.returned v):=λg=>by
    obtain⟨y',hy2,rfl⟩:=T.zd.1 g
    obtain⟨v,k1,E,ds,q1,q2,q3,q4,q5,q6⟩:=G3 B e1 e2 e3 e4 (by rw[vU]; exact zV (um.Xt _ _) z0R) (T.zd.2 ⟨ds,g1,hy2⟩)
    exact⟨v,k1,E,q1,q3,q4,y',ds,rfl,q2,q5,q6⟩
   have JH:a'.defers=[]/\∃ v,(results fn a'.tmps).run P κe.w=.ok v κe.w/\∃ E:KS,E.w=κe.w/\Inv E/\Ext O E/\((∃ (y':d.out.den) (ds:List D),y=.inl y'/\E.st=d.out.st y'/\oG d.nr (d.out.fr y')=some ds/\jc E (.ret ds) (.returned v)) \/
     (d.two=none/\∃ (z:d.hH.den) (p:D),y=.inr z/\E.st=d.hH.st z/\(d.hH.fr z).get 0=some p/\jc E (.hH (.iface d.pt p)) (.returned v)) \/
     ∃ (n:Nat) (z:d.hH.den) (ds:List D),d.two=some n/\y=.inr z/\E.st=d.hH.st z/\oG n (d.hH.fr z)=some ds/\jc E (.ret ds) (.returned v)):=by
    unfold z8t at g2
    split at g2
    ·rename_i n h0
     cases hh:z9t ds with
     | true =>
      rw[hh,cond_true]at g2
      obtain⟨z,hz,rfl⟩:=T.zd.1 g2
      obtain⟨v,k1,E,ds,q1,q2,q3,q4,q5,q6⟩:=G3 B e1 e2 e3 e4 (by rw[vU]; exact zV (um.Xt _ _) zfT) (T.zd.2 ⟨ds,g1,hz⟩)
      exact⟨e4.defers,v,k1,E,q1,q3,q4,.inr (.inr ⟨n,z,ds,h0,rfl,q2,q5,q6⟩)⟩
     | false =>
      rw[hh,cond_false]at g2
      obtain⟨v,k1,E,q1,q2,q3,q4⟩:=one g2
      exact⟨e4.defers,v,k1,E,q1,q2,q3,.inl q4⟩
    ·obtain⟨v,k1,E,q1,q2,q3,q4⟩:=one g2
     exact⟨e4.defers,v,k1,E,q1,q2,q3,.inl q4⟩
   rcases hex with rfl | rfl
   ·exact JH
   ·exact JH
  cases GH:o.ex<;>rw[GH]at e0 e6<;>simp only at e0
  ·exact fin (.inl e6) e0
  ·exact e0.elim
  ·exact fin (.inr e6) e0
  ·rename_i p
   cases p<;>simp only at e0<;>first | exact e0.elim | skip
   rename_i t v
   cases ht:V t d.pt&&d.two.isNone with
   | false=>rw[ht]at e0; exact e0.elim
   | true =>
    rw[ht,cond_true]at e0
    rw[X,Option.isNone_iff_eq_none]at ht
    have:=zA ht.1
    subst this
    obtain⟨u,rfl,hv⟩:=e6
    cases hv with
    | iface _ _ u hu =>
     have:∃ z,y=.inr z/\((d.hH.un [(0,some v)] o.st).bind λz=>match(d.hH.fr z).get 0 with | some _=>T.ret z | none=>.fail).leads z:=by
      obtain⟨z,g1,g2⟩:=T.zd.1 e0
      split at g2
      ·rename_i p hp
       have g2:qM z=y:=g2
       refine⟨z,g2.symm,T.zd.2 ⟨z,g1,?_⟩⟩
       rw[hp]; rfl
      ·exact g2.elim
     obtain⟨z,rfl,hz2⟩:=this
     obtain⟨E,p,q1,q2,q3,q4,q5,q6⟩:=zcL (t:=d.pt) e1 e2 e3 (by rw[vU]; exact zV (um.Xt _ _) zfT) hu hz2
     exact⟨e4.defers,E,q1,q3,q4,.inr (.inl ⟨ht.2,z,p,rfl,q2,q5,q6⟩)⟩
theorem MG{d:lB}{f:Nat}(b:(d.sh.den->T (d.out.den⊕d.hH.den))->d.sh.den->T (d.out.den⊕d.hH.den))(hF:∀ x,d.F x=T.fix b x)(h:∀ F:d.sh.den->T (d.out.den⊕d.hH.den),jz P f ⟨d.ks,d.sh,d.du,d.out,d.nr,d.pt,d.hH,d.two,F⟩->jz P f ⟨d.ks,d.sh,d.du,d.out,d.nr,d.pt,d.hH,d.two,b F⟩):jz P f d:=by
 have hN:∀ m,jz P f ⟨d.ks,d.sh,d.du,d.out,d.nr,d.pt,d.hH,d.two,T.Wo b m⟩:=by
  intro m
  induction m with
  | zero=>nofun
  | succ m ih=>exact h _ ih
 intro O x xb y vU hy B R ha
 rw[hF,T.lV]at hy
 obtain⟨m,hm⟩:=hy
 exact hN m O x xb y vU (hm m (zJ _)) B R ha
end
noncomputable def V0:Nat->Code->Option Code
 | k,.block id (.loop b)=>if k=id then some b else V0 k b
 | k,.seq a b=>match V0 k a with | some x=>some x | none=>V0 k b
 | k,.cond _ a b=>match V0 k a with | some x=>some x | none=>V0 k b
 | k,.block _ a=>V0 k a
 | _,_=>none
def BR(P:Program)(n:Nat)(H:Hints):List (Nat×Code)->Prop
 | []=>True
 | p::r=>(∀ l,H.loop p.1=some l->Vx P n l p.2)/\BR P n H r
theorem zf{P:Program}{n:Nat}{H:Hints}:BR P n H []:=trivial
theorem qh{P:Program}{n:Nat}{H:Hints}{id:Nat}{b:Code}{r:List (Nat×Code)}{l:q9}(R:H.loop id=some l)(h:Vx P n l b)(t:BR P n H r):BR P n H ((id,b)::r) :=
 ⟨λl' IW=>(Option.some.inj (R.symm.trans IW))▸h,t⟩
theorem U8{P:Program}{n:Nat}{H:Hints}{code:Code}{L:List (Nat×Code)}(h:vZ code=L)(ha:BR P n H L):gw P n H code:=by
 intro p hp
 rw[h]at hp
 clear h
 induction L with
 | nil=>cases hp
 | cons q r ih =>
  rcases zH.1 hp with rfl | hp
  ·exact ha.1
  ·exact ih ha.2 hp
end Go.AM
namespace Go.AM
set_option linter.unusedSectionVars false
variable [yV]
open Go.RowKit Go.ChangeShapes
def SS:(τs:List Ty)->Y8 τs->dQ (τs.map .ty)
 | [],_=>()
 | [_],x=>x.1
 | _::σ::r,x=>(x.1,SS (σ::r) x.2)
theorem Bf:∀ (τs:List Ty) (x:Y8 τs),Jh (τs.map .ty) (SS τs x)=mkD τs x
 | [],_=>rfl
 | [_],_=>rfl
 | τ::σ::r,x=>congrArg (D.qi τ x.1 :: ·) (Bf (σ::r) x.2)
section
variable {H:Type} {enc:TypeId×Value->H} {P:Program} {xid m n:Nat}
theorem zbT{f:Nat}{fn:Func}(τs:List Ty){F:dQ (τs.map .ty)->T (Dl [.bool])}(hS:q8 P f ⟨τs.map .ty,[.bool],F⟩)(hf:P.funcs[f]? = some fn)(hbd:fn.body.isNone=false) (hnm:(fn.name == "runtime.NumGoroutine")=false)
  (R:laidOutB P=true) (xid m n:Nat) (hts:Ur P fn.params.toList=true) (hτ:fn.params.toList.map (BF P xid n)=τs.map some) (N:LY P xid m=true)
  {bt:TypeId} (hr:fn.resultTypes = #[bt]) (hbt:P.underlying bt=some .bool) {s:ChangeSpec} (hv:s.vars=[]) (hs:∀ ds:List (DataW H),ds.length=τs.length->s.fn H ds={ results:=[.lit (.bool true)],args:=ds })
  (hI:R1 H) {lim:Nat} (law:∀ x:Y8 τs,wfL τs x->bkL τs x<=lim->(F (SS τs x)).run=some true)
  {fresh handsOn:Bool} {zk:World} {base:Nat} {args:Array Value} {ds gs:List (DataW H)} {before:List MemPlace}
  (hval:∀ (j:Nat) t v,fn.params[j]? = some t->args[j]? = some v->zR P zk .any base t v)
  (hW:DataW.Whole enc P fn.params.toList s.vars false zk args.toList ds gs before) (hk:hI.bs (ds++gs)<=lim) (hG:WJ zk λk=>k<zk.heap.size) :
  Calls P f args zk λe W'=>∃ v,e=.returned v/\s.post enc P fn false fresh handsOn false zk args v W':=by
 refine RX (Dz.snd hS) hf hbd hnm R xid m n τs hts hτ N hr hbt hv hs hI (λx hw I => ?_) hval hW hk hG
 have h:=T.yw.1 (law x hw I)
 rw[<- Bf τs x]
 exact T.zd.2 ⟨SS τs x,Dc [] _ _,T.zd.2 ⟨true,h,rfl⟩⟩
end
end Go.AM