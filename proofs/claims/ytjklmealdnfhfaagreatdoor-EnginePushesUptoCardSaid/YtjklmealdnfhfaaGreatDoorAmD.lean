/-
  The abstract machine, part D: texts of our own, the same for each claim.
-/
import Derived.Test.YtjklmealdnfhfaaGreatDoorAmA
import Derived.Lib.LaidTab
import Derived.Shelf.Vars
import Derived.Test.YtjklmealdnfhfaaGreatDoorAmC
import Derived.OpenShut
import Derived.Test.YtjklmealdnfhfaaGreatDoorAmB
import Derived.Lib.LazyBuf
set_option linter.unusedVariables false
open Nat renaming eq_of_beq_eq_true -> zA, beq -> V, le_of_ble_eq_true -> zE, le_refl -> zJ, ble -> zM, blt -> zO, ble_eq -> zU, le_trans -> zV, zero_add -> qD, not_lt_zero -> qN, beq_refl -> qS
open List renaming getElem?_eq_some_iff -> Y, all_cons -> zF, getElem?_eq_getElem -> zG, mem_cons -> zH, mem_cons_of_mem -> zI, getElem?_append_left -> zK, mem_singleton -> zL, mem_append -> zN, all_eq_true -> zP, mem_cons_self -> zQ, append_nil -> zT, isEmpty_iff -> zW, range -> zX, eq_nil_of_length_eq_zero -> zY, length -> zZ, map_cons -> qI, cons_append -> qJ, length_cons -> qK
open Bool renaming and_eq_true -> X, not_eq_true' -> qF
open Go.Value renaming okWide -> zR, cells -> qH
open Go.DataW renaming TrodAll -> zS, LaidVars -> qP
open Array renaming getElem?_setIfInBounds -> qA, length_toList -> qB, getD_eq_getD_getElem? -> qC, getElem?_eq_some_iff -> qE, getElem?_toList -> qO
open Go.Cell renaming okWide -> qG
open Option renaming bind_eq_some_iff -> qL
open Sum renaming inr -> qM, inl -> qR
open Go.Lib renaming TabIs -> qQ
open Go.World renaming cell? -> qT
namespace Go.AM
def EG(k:IntKind)(zs:List Int)(o:Obj):Prop:=∃ t fr,o=.cells (zs.map λz=>Value.int k z).toArray t fr
def CA(k:IntKind)(o:Obj):Prop:=∃ m t fr,o=.cells #[.int k m] t fr
theorem z3c{P:Program}{w:World}{name:String}{k:IntKind}{zs:List Int}{g:Nat}(hg:P.globalNamed name=some g)(h:qQ P w name k zs) :
  g<w.heap.size/\∃ o,w.heap[g]? = some o/\EG k zs o:=by
 unfold qQ World.var? at h
 rw[hg]at h
 simp at h
 split at h
 ·rename_i cs t fr ho
  cases h
  exact⟨(qE.1 ho).1,_,ho,t,fr,rfl⟩
 ·cases h
theorem zd5{P:Program}{w:World}{name:String}{k:IntKind}{zs:List Int}{g:Nat}(hg:P.globalNamed name=some g)(h:∃ o,w.heap[g]? = some o/\EG k zs o):qQ P w name k zs:=by
 obtain⟨o,ho,t,fr,rfl⟩:=h
 unfold qQ World.var?
 grind
theorem RR{w:World}{k:IntKind}{g:Nat}(h:∃ o,w.heap[g]? = some o/\CA k o):∃ m,w.cell? ⟨g,0,none⟩=some (.int k m):=by
 obtain⟨o,ho,m,t,fr,rfl⟩:=h
 exact⟨m,by simp[qT,ho]⟩
theorem RS{P:Program}{w:World}{g:Nat}{t:TypeId}{zero:Array Value}{k:IntKind}
  (h:w.ShapedOpen P) (hg:g<P.globals.size)
  (h0:((begin P (λ_ _=>0) default).world.heap[g]?).bind Obj.row? = some (zero,t)) (hz:zero.size=1)
  (I:P.buildable t=true) (hc:P.cellTypes P.depth t=some [t]) (hu:P.underlying t=some (.int k)):g<w.heap.size/\∃ o,w.heap[g]? = some o/\CA k o:=by
 obtain⟨m,hm⟩:=Go.Proofs.cell_of_shapedOpen_int h hg h0 hz I hc hu
 obtain⟨cs,hh,hs,_⟩:=h.1 g zero t hg h0
 have R:cs.size=1:=hs.trans hz
 refine⟨(qE.1 hh).1,_,hh,m,t,(0,0),?_⟩
 have h1:w.cell? ⟨g,0,none⟩=some cs[0]:=by simp[qT,hh]
 have:cs = #[.int k m]:=by
  grind
 rw[this]
theorem RV{P:Program}{zk:World}{name:String}{k:IntKind}{zs:List Int}{rest:List (String×DataW Unit)}{ps:List MemPlace}{g:Nat}{t e:TypeId}{n:Nat}
  (hg:P.globalNamed name=some g) (ML:(P.globals[g]?).map (·.type)=some t) (ht:P.underlying t=some (.array n e)) (he:P.underlying e=some (.int k)) (hce:P.cellsOf e=1) (hct:P.cellsOf t=n)
  (h:qP P zk ((name,Lib.tabData k zs)::rest) ps):g<zk.heap.size/\∃ o,zk.heap[g]? = some o/\EG k zs o:=by
 obtain⟨g',t',cs,fuel,p,q,hg',ht',zgq,J,_,_⟩:=h
 refine z3c hg ?_
 obtain rfl:=Option.some.inj (hg.symm.trans hg')
 obtain rfl:=Option.some.inj (ML.symm.trans ht')
 unfold qQ
 rw[zgq,<- Lib.cells_of_tab ht he hce hct J]
theorem HP{P:Program}{zk:World}{x:String×DataW Unit}{rest:List (String×DataW Unit)}{ps:List MemPlace}(h:qP P zk (x::rest) ps):∃ q,qP P zk rest q:=by
 obtain⟨g',t',cs,fuel,p,q,hg',ht',zgq,J,h1,_⟩:=h
 grind
end Go.AM
namespace Go.AM
open Go.RowKit
mutual
def bkE:Expr->Nat
 | .mk _ n s l=>1+((1+((zZ n.2.1+1)+((zZ n.2.2.1+1)+1)))+((zZ s+1)+((bkEs l+1)+1)))
def bkEs:List Expr->Nat
 | []=>0
 | e::r=>bkE e+bkEs r
end
def Xx{α:Type}(f:α->Nat):List α->Nat
 | []=>0
 | x::r=>f x+Xx f r
def bk:(τ:Ty)->den τ->Nat
 | .int _,_=>1
 | .bool,_=>1
 | .str,s=>zZ s+1
 | .sl e,l=>Xx (bk e) l+1
 | .nil,_=>1
 | .cons a b,x=>bk a x.1+bk b x.2
 | .expr,x=>bkE x
theorem Gm{α:Type}(l:List α):Xx (λ_=>1) l=l.length:=by induction l with | nil=>rfl | cons x r ih=>simp[Xx]; omega
theorem Mq(l:List Expr):bkEs l=Xx (bk .expr) l:=by induction l with | nil=>rfl | cons x r ih=>simp[bkEs,Xx,ih,bk]
theorem z50(x:Expr):bk Jy x.z02=bk .expr x:=by
 cases x with | mk k n s l =>
 simp only[bk,Expr.z02,bkE,Mq,Expr.num,Expr.name,Expr.kids,Gm]
mutual
def wfE:Expr->Prop
 | .mk k n s l=>(IntKind.i64.min<=k/\k<=IntKind.i64.max)/\((True/\((∀ x∈n.2.1,IntKind.u32.min<=x/\x<=IntKind.u32.max)/\((∀ x∈n.2.2.1,IntKind.u32.min<=x/\x<=IntKind.u32.max)/\True)))/\(zZ s<=maxLen/\(wfEs l/\True)))
def wfEs:List Expr->Prop
 | []=>True
 | e::r=>wfE e/\wfEs r
end
def wf:(τ:Ty)->den τ->Prop
 | .int k,n=>k.min<=n/\n<=k.max
 | .bool,_=>True
 | .str,s=>zZ s<=maxLen
 | .sl e,l=>∀ x∈l,wf e x
 | .nil,_=>True
 | .cons a b,x=>wf a x.1/\wf b x.2
 | .expr,x=>wfE x
theorem Px(l:List Expr):wfEs l↔∀ x∈l,wf .expr x:=by induction l with | nil=>simp[wfEs] | cons x r ih=>simp[wfEs,ih,wf]
theorem z8V(x:Expr):wf Jy x.z02↔wf .expr x:=by
 cases x with | mk k n s l=>simp only[wf,Expr.z02,wfE,Px,Expr.kind,Expr.num,Expr.name,Expr.kids]
structure R0(H:Type) where
 b:DataW H->Nat
 bs:List (DataW H)->Nat
 str:∀ s,b (.lit (.string s))=s.length+1
 bool:∀ x,b (.lit (.bool x))=1
 int:∀ k n,b (.lit (.int k n))=1
 nil:b .nil=1
 slice:∀ x y,b (.slice x y)=bs x+bs y+1
 agg:∀ x,b (.agg x)=bs x+1
 zero:bs []=0
 cons:∀ x r,bs (x::r)=b x+bs r
section
variable (P:Program) (xid:Nat)
def JP:Nat->List Field->Bool
 | _,[]=>true
 | o,f::r=>V f.offset o&&JP (o+P.cellsOf f.type) r
def Jw:Nat->List Field->Nat
 | o,[]=>o
 | o,f::r=>Jw (o+P.cellsOf f.type) r
def BE:Nat->Nat->Option Ty
 | 0,_=>none
 | n+1,t=>bif V t xid then some .expr else
  match P.underlying t with
  | some (.int k)=>some (.int k)
  | some .bool=>some .bool
  | some .string=>some .str
  | some (.slice e)=>match BE n e with | some a=>bif V (P.cellsOf e) a.size&&zO 0 a.size then some (.sl a)else none | none=>none
  | some (.struct fs)=>bif JP P 0 fs.toList&&V (Jw P 0 fs.toList) (P.cellsOf t)then ob (fs.toList.map λf=>BE n f.type)else none
  | _=>none
def LX(m:Nat):Bool:=match P.underlying xid with
 | some (.struct fs)=>JP P 0 fs.toList&&V (Jw P 0 fs.toList) (P.cellsOf xid)&&decide (ob (fs.toList.map λf=>BE P xid m f.type)=some Jy)
 | some _=>false
 | none=>true
end
section
variable {H:Type} {enc:TypeId×Value->H} {P:Program} {w:World} {xid m:Nat} (hI:R0 H)
def KN(w:World)(hI:R0 H)(τ:Ty)(cs:List Value)(k:Nat):Prop:=∃ x:den τ,Rc w (λk=>k<w.heap.size) τ x cs/\wf τ x/\bk τ x<=k
theorem JS{fuel:Nat}{cs:List Value}(ih:∀ n t τ cs d ps,BE P xid n t=some τ->DataW.trod enc P w 0 (λ_=>true) true fuel t cs=some (d,ps)->KN w hI τ cs (hI.b d)){n:Nat} :
  ∀ (fs:List Field) (o:Nat) (τ:Ty) (xs:List (DataW H×List MemPlace)),ob (fs.map λf=>BE P xid n f.type)=some τ->JP P o fs=true->Jw P o fs=cs.length->xs.length=fs.length ->
   (∀ (i:Nat) (f:Field),fs[i]? = some f->DataW.trod enc P w 0 (λ_=>true) true fuel f.type ((cs.drop f.offset).take (P.cellsOf f.type))=xs[i]?)->KN w hI τ (cs.drop o) (hI.bs (xs.map (·.1))+1)
 | [],o,τ,xs,ht,_,he,R,_=>by
  cases ht
  simp only[Jw]at he
  obtain rfl:xs=[]:=zY R
  refine⟨(),?_,trivial,by simp[bk]⟩
  rw[he,List.drop_length]; exact .nil
 | f::r,o,τ,xs,ht,ho,he,R,N=>by
  cases xs with
  | nil=>simp at R
  | cons x xs =>
  simp only[JP,X]at ho
  have ho1:f.offset=o:=zA ho.1
  simp only[qI]at ht
  cases h1:BE P xid n f.type with
  | none=>rw[h1]at ht; cases ht
  | some a =>
   rw[h1]at ht
   simp only[ob]at ht
   cases M:ob (r.map λf=>BE P xid n f.type)with
   | none=>grind
   | some b =>
    rw[M]at ht
    cases ht
    obtain⟨x1,p1,p2,p3⟩:=ih n f.type a _ x.1 x.2 h1 (by have:=N 0 f rfl; simpa using this)
    obtain⟨x2,q1,q2,q3⟩:=JS ih r (o+P.cellsOf f.type) b xs M ho.2 he (by simpa using R) (λi g hg=>by have:=N (i+1) g (by simpa using hg); simpa using this)
    refine⟨(x1,x2),?_,⟨p2,q2⟩,?_⟩
    ·have e:cs.drop o=(cs.drop o).take (P.cellsOf f.type)++cs.drop (o+P.cellsOf f.type):=by
      conv=>lhs; rw[<- List.take_append_drop (P.cellsOf f.type) (cs.drop o)]
      simp
     rw[e]
     rw[ho1]at p1
     exact .cons _ _ _ _ _ _ p1 q1
    ·simp only[bk,qI,hI.cons]; omega
theorem Bh{e:Ty}(k:Nat):∀ (n:Nat) (elems:List (DataW H×List MemPlace)) (g:Nat->List Value),elems.length=n->(∀ i,i<n->∃ d,elems[i]? = some d/\KN w hI e (g i) (hI.b d.1)) ->
  ∃ l:List (den e),l.length=n/\(∀ i (hi:i<l.length),Rc w (λk=>k<w.heap.size) e l[i] (g i))/\(∀ x∈l,wf e x)/\Xx (bk e) l<=hI.bs (elems.map (·.1))
 | 0,elems,g,R,_=>by
  exact⟨[],rfl,λi hi=>absurd hi (qN i),qz,by simp[Xx]⟩
 | n+1,elems,g,R,h=>by
  cases elems with
  | nil=>simp at R
  | cons y ys =>
   obtain⟨d,h1,x,M,h3,h4⟩:=h 0 (Z)
   simp at h1
   subst h1
   obtain⟨l,l1,l2,l3,l4⟩:=Bh k n ys (λi=>g (i+1)) (xy) λi hi=>by
    obtain⟨d,h1,M⟩:=h (i+1) (Z)
    exact⟨d,xy,M⟩
   refine⟨x::l,xy,λi hi => ?_,λz hz => ?_,?_⟩
   ·grind
   ·grind
   ·simp only[Xx,qI,hI.cons]; omega
theorem Sx(N:LX P xid m=true):∀ (fuel n t:Nat) (τ:Ty) (cs:List Value) (d:DataW H) (ps:List MemPlace),BE P xid n t=some τ->DataW.trod enc P w 0 (λ_=>true) true fuel t cs=some (d,ps)->KN w hI τ cs (hI.b d):=by
 intro fuel
 induction fuel with
 | zero=>nofun
 | succ fuel ih =>
  intro n t τ cs d ps ht h
  have struct:∀ (fs:Array Field) (k:Nat) (σ:Ty),P.underlying t=some (.struct fs)->(JP P 0 fs.toList&&V (Jw P 0 fs.toList) (P.cellsOf t))=true->ob (fs.toList.map λf=>BE P xid k f.type)=some σ->KN w hI σ cs (hI.b d):=by
   intro fs k σ hu ho hc
   simp only[X]at ho
   obtain⟨xs,n',hn,J,R,hlx,Yj⟩:=DataW.trod_struct hu h
   cases hn
   cases J
   have:=JS hI (cs:=cs) (ih:=ih) fs.toList 0 σ xs hc ho.1 (by rw[zA ho.2,R]) (by simpa using hlx) (λi f hf=>Yj i f (by simpa using hf))
   rw[hI.agg]
   grind
  cases n with
  | zero=>cases ht
  | succ n =>
   unfold BE at ht
   cases I:V t xid with
   | true =>
    rw[I,cond_true]at ht
    cases ht
    have:=zA I
    subst this
    unfold LX at N
    split at N
    ·rename_i fs hu
     simp only[X,decide_eq_true_eq]at N
     obtain⟨x,h1,M,h3⟩:=struct fs m Jy hu (by simp[N.1.1,N.1.2]) N.2
     refine⟨Expr.Li x,.expr _ _ _ _ _ h1,?_,?_⟩
     ·exact(z8V (Expr.Li x)).1 M
     ·rw[<- z50 (Expr.Li x)]; exact h3
    ·cases N
    ·rename_i hu
     rw[DataW.trod_step]at h
     simp[DataW.trodStep,hu]at h
   | false =>
    rw[I,cond_false]at ht
    split at ht
    ·rename_i k hu
     cases ht
     obtain⟨n',rfl,M,h3⟩:=DataW.trod_int hu h
     cases M
     simp only[Lit.wf,X,decide_eq_true_eq]at h3
     exact⟨n',.int k n',h3,by simp[bk,hI.int]⟩
    ·rename_i hu
     cases ht
     obtain⟨b,rfl,M⟩:=DataW.trod_bool hu h
     cases M
     exact⟨b,.bool b,trivial,by simp[bk,hI.bool]⟩
    ·rename_i hu
     cases ht
     obtain⟨s,rfl,M,h3⟩:=DataW.trod_string hu h
     cases M
     refine⟨s.data.toList,?_,?_,?_⟩
     ·have:s=⟨s.data.toList.toArray⟩:=by cases s; simp
      exact .str _
     ·simp only[wf,qB]; exact h3
     ·simp[bk,hI.str]
    ·rename_i e hu
     split at ht
     ·rename_i a ha
      cases hc:V (P.cellsOf e) a.size&&zO 0 a.size with
      | false=>grind
      | true =>
       rw[hc,cond_true]at ht
       cases ht
       simp only[X]at hc
       have bI:P.cellsOf e=a.size:=zA hc.1
       have Wr:0<a.size:=zE hc.2
       rcases DataW.trod_slice hu h with⟨rfl,M⟩ | ⟨p,len,cap,elems,rest,n',hn,rfl,J,_,jg,_,hlen,hel,hre,_⟩
       ·cases M
        exact⟨[],.lB a none,by simp[wf],by simp[bk,Xx,hI.nil]⟩
       ·cases hn
        cases J
        by_cases h0:cap=0
        ·subst h0
         have:len=0:=Z
         subst this
         exact⟨[],.lB a (some p),by simp[wf],by simp[bk,Xx,hI.slice]⟩
        ·rw[bI]at hel hre
         have zbH:p.block<w.heap.size/\p.spot=none:=by
          have first:∃ x,(w.cells? 0 p a.size)=some x:=by
           by_cases R:len=0
           ·have:=(hre rfl).2 0 (Z)
            cases hcc:w.cells? 0 p a.size with
            | some x=>simp
            | none =>
             have e0:p.add ((0+0)*a.size)=p:=by simp[Addr.add]
             grind
           ·have:=hel 0 (Z)
            cases hcc:w.cells? 0 p a.size with
            | some x=>simp
            | none =>
             have e0:p.add (0*a.size)=p:=by simp[Addr.add]
             grind
          obtain⟨x,N⟩:=first
          refine⟨World.cells?_block N Wr,?_⟩
          have M:=(World.cells?_some N).2
          have h3:=M.2 0 Wr
          have e0:p.add 0=p:=rfl
          cases hs:p.spot with
          | none=>rfl
          | some q =>
           unfold qT at h3
           grind
         obtain⟨blk,off,sp⟩:=p
         obtain⟨z0D,Ws⟩:=zbH
         subst Ws
         have hg:∀ i,∃ c:List Value,i<len->∃ d,elems[i]? = some d/\KN w hI a c (hI.b d.1)/\w.cells? 0 ⟨blk,off+i*a.size,none⟩ a.size=some c:=by
          intro i
          by_cases hi:i<len
          ·have:=hel i hi
           rw[addr_add]at this
           cases hcc:w.cells? 0 ⟨blk,off+i*a.size,none⟩ a.size with
           | none =>
            grind
           | some c =>
            refine⟨c,λ_=>⟨elems[i]'(Z),qz,?_,rfl⟩⟩
            grind
          ·exact⟨[],λh=>absurd h hi⟩
         let g:Nat->List Value:=λi=>Classical.choose (hg i)
         have hg':∀ i,i<len->∃ d,elems[i]? = some d/\KN w hI a (g i) (hI.b d.1)/\w.cells? 0 ⟨blk,off+i*a.size,none⟩ a.size=some (g i):=λi hi=>Classical.choose_spec (hg i) hi
         obtain⟨l,l1,l2,l3,l4⟩:=Bh hI (w:=w) (e:=a) 0 len elems g hlen λi hi=>by
          grind
         refine⟨l,?_,l3,?_⟩
         ·have:=Rc.sl (w:=w) (ok:=λk=>k<w.heap.size) a l blk off cap g z0D (Z) l2 λi hi j v hj=>by
           obtain⟨d,_,_,h3⟩:=hg' i (Z)
           obtain⟨_,k2,k3⟩:=World.cells?_some h3
           have T4:j<(g i).length:=(Y.1 hj).1
           have:=k3 j (Z)
           rw[addr_add,hj]at this
           exact this
          grind
         ·simp only[bk,hI.slice]; omega
     ·cases ht
    ·rename_i fs hu
     cases hc:JP P 0 fs.toList&&V (Jw P 0 fs.toList) (P.cellsOf t)with
     | false=>grind
     | true =>
      rw[hc,cond_true]at ht
      exact struct fs n τ hu hc ht
    ·cases ht
end
end Go.AM
namespace Go.AM
set_option linter.unusedSectionVars false
variable [yY]
open Go.RowKit Go.ChangeShapes
def Y6:List Ty->Type
 | []=>Unit
 | τ::r=>den τ×Y6 r
def mkD:(τs:List Ty)->Y6 τs->List D
 | [],_=>[]
 | τ::r,x=>.qj τ x.1::mkD r x.2
def wfL:(τs:List Ty)->Y6 τs->Prop
 | [],_=>True
 | τ::r,x=>wf τ x.1/\wfL r x.2
def bkL:(τs:List Ty)->Y6 τs->Nat
 | [],_=>0
 | τ::r,x=>bk τ x.1+bkL r x.2
def Uo(P:Program)(ts:List Nat):Bool:=ts.all λt=>P.readableRec t&&decide (t<P.types.size)
section
variable {H:Type} {enc:TypeId×Value->H} {P:Program} {xid m n:Nat} {w:World}
theorem zaQ{t:Nat}{τ:Ty}{v:Value}{base:Nat}(ht:BE P xid n t=some τ)(N:LX P xid m=true)(h:zR P w .any base t v):pk τ v.cells.toList=v:=by
 cases n with
 | zero=>cases ht
 | succ n =>
  have agg:∀ fs:Array Field,P.underlying t=some (.struct fs)->τ.isAgg=true->pk τ v.cells.toList=v:=by
   intro fs hu ha
   unfold zR at h
   rw[hu]at h
   obtain⟨cs,rfl,_⟩:=h
   simp[pk,ha,qH]
  unfold BE at ht
  cases I:V t xid with
  | true =>
   rw[I,cond_true]at ht
   cases ht
   have:=zA I
   subst this
   unfold LX at N
   split at N
   ·rename_i fs hu; exact agg fs hu rfl
   ·cases N
   ·rename_i hu
    unfold zR at h
    rw[hu]at h
    simp[qG,Cell.ok,hu]at h
  | false =>
   rw[I,cond_false]at ht
   split at ht
   ·rename_i k hu
    cases ht
    unfold zR at h
    rw[hu]at h
    simp only[qG,hu,Cell.ok]at h
    split at h<;>simp_all [pk,Ty.isAgg,qH]
   ·rename_i hu
    cases ht
    unfold zR at h
    rw[hu]at h
    simp only[qG,hu,Cell.ok]at h
    split at h<;>simp_all [pk,Ty.isAgg,qH]
   ·rename_i hu
    cases ht
    unfold zR at h
    rw[hu]at h
    simp only[qG,hu,Cell.ok]at h
    split at h<;>simp_all [pk,Ty.isAgg,qH]
   ·rename_i e hu
    have h1:τ.isAgg=false:=by
     split at ht
     ·rename_i a ha
      cases hc:V (P.cellsOf e) a.size&&zO 0 a.size with
      | false=>grind
      | true=>rw[hc,cond_true]at ht; cases ht; rfl
     ·cases ht
    unfold zR at h
    rw[hu]at h
    simp only[qG,hu,Cell.ok]at h
    split at h<;>simp_all [pk,qH]
   ·rename_i fs hu
    refine agg fs hu ?_
    cases hc:JP P 0 fs.toList&&V (Jw P 0 fs.toList) (P.cellsOf t)with
    | false=>grind
    | true =>
     rw[hc,cond_true]at ht
     have key:∀ (l:List (Option Ty)),ob l=some τ->τ.isAgg=true:=by
      intro l R
      cases l with
      | nil=>cases R; rfl
      | cons a r =>
       cases a with
       | none=>cases R
       | some a =>
        simp only[ob]at R
        cases M:ob r with
        | none=>grind
        | some b=>rw[M]at R; cases R; rfl
     grind
   ·cases ht
theorem Fb(hI:R0 H)(N:LX P xid m=true){base:Nat}:∀ (ts:List TypeId) (τs:List Ty) (vs:List Value) (ds:List (DataW H)) (ps:List MemPlace),ts.map (BE P xid n)=τs.map some ->
  zS enc P w 0 (λ_=>true) true ts vs ds ps->(∀ (j:Nat) t v,ts[j]? = some t->vs[j]? = some v->zR P w .any base t v) ->
  ∃ x:Y6 τs,wN ⟨w,λk=>k<w.heap.size,[],[]⟩ (mkD τs x) vs/\wfL τs x/\bkL τs x<=hI.bs ds/\ds.length=τs.length
 | [],τs,vs,ds,ps,ht,h,_=>by
  cases τs with
  | cons=>cases ht
  | nil =>
   cases vs<;>cases ds<;>simp only[zS]at h
   exact⟨(),⟨rfl,λi h1=>absurd h1 (qN i)⟩,trivial,Nat.zero_le _,rfl⟩
 | t::ts,τs,vs,ds,ps,ht,h,hv=>by
  cases τs with
  | nil=>cases ht
  | cons τ τs =>
   simp at ht
   cases vs with
   | nil=>simp[zS]at h
   | cons v vs =>
    cases ds with
    | nil=>simp[zS]at h
    | cons d ds =>
     obtain⟨p,q,⟨fuel,h1⟩,M,_⟩:=h
     obtain⟨x,k1,k2,k3⟩:=Sx hI N fuel n t τ _ d p ht.1 h1
     obtain⟨y,g1,g2,g3,g4⟩:=Fb hI N ts τs vs ds q ht.2 M λj t v a b=>hv (j+1) t v (xy) (xy)
     refine⟨(x,y),⟨by simp only[mkD,qK]; rw[g1.1],λi h1 M => ?_⟩,⟨k2,g2⟩,?_,xy⟩
     ·cases i with
      | zero =>
       have:=RD.qj (O:=⟨w,λk=>k<w.heap.size,[],[]⟩) τ x _ k1
       rw[zaQ ht.1 N (hv 0 t v rfl rfl)]at this
       exact this
      | succ i=>exact g1.2 i (by simpa[mkD]using h1) (xy)
     ·simp only[bkL,hI.cons]; omega
theorem Hq(R:laidOutB P=true){zk W':World}(I:Below zk.heap.size zk W'):∀ (ts:List TypeId) (vs:List Value) (ds:List (DataW H)) (ps:List MemPlace),Uo P ts=true ->
  zS enc P zk 0 (λ_=>true) true ts vs ds ps->(∀ x∈ps,x.block<zk.heap.size)->zS enc P W' 0 (λb=>decide (b<zk.heap.size)) true ts vs ds ps
 | [],vs,ds,ps,_,h,_=>by cases vs<;>cases ds<;>simp_all [zS]
 | t::ts,vs,ds,ps,ht,h,wM=>by
  cases vs with
  | nil=>simp[zS]at h
  | cons v vs =>
   cases ds with
   | nil=>simp[zS]at h
   | cons d ds =>
    obtain⟨p,q,h1,M,rfl⟩:=h
    simp only[Uo,zF,X,decide_eq_true_eq]at ht
    exact⟨p,q,Below.trod R ht.1.1 ht.1.2 h1 I λx N=>wM x (xy),Hq R I ts vs ds q (by simpa[Uo]using ht.2) M λx N=>wM x (xy),rfl⟩
end
theorem RW{H:Type}{enc:TypeId×Value->H}{P:Program}{f:Nat}{fn:Func}{S:List D->St->T (GC×St)}(hS:Di P f S)(hf:P.funcs[f]? = some fn)(hbd:fn.body.isNone=false) (hnm:(fn.name == "runtime.NumGoroutine")=false)
  (R:laidOutB P=true) (xid m n:Nat) (τs:List Ty) (hts:Uo P fn.params.toList=true) (hτ:fn.params.toList.map (BE P xid n)=τs.map some) (N:LX P xid m=true)
  {bt:TypeId} (hr:fn.resultTypes = #[bt]) (hbt:P.underlying bt=some .bool) {s:ChangeSpec} (hv:s.vars=[]) (hs:∀ ds:List (DataW H),ds.length=τs.length->s.fn H ds={ results:=[.lit (.bool true)],args:=ds })
  (hI:R0 H) {lim:Nat} (law:∀ x:Y6 τs,wfL τs x->bkL τs x<=lim->(S (mkD τs x) []).leads (.ret [.qj .bool true],[]))
  {fresh handsOn:Bool} {zk:World} {base:Nat} {args:Array Value} {ds gs:List (DataW H)} {before:List MemPlace}
  (hval:∀ (j:Nat) t v,fn.params[j]? = some t->args[j]? = some v->zR P zk .any base t v)
  (hW:DataW.Whole enc P fn.params.toList s.vars false zk args.toList ds gs before) (hk:hI.bs (ds++gs)<=lim) (hG:WK zk λk=>k<zk.heap.size) :
  Calls P f args zk λe W'=>∃ v,e=.returned v/\s.post enc P fn false fresh handsOn false zk args v W':=by
 have hW':=hW
 obtain⟨p,q,hA,hV,rfl,hfz,hnd⟩:=hW
 rw[hv]at hV
 obtain⟨rfl,rfl⟩:=trodVars_none hV
 simp only[zT]at hk hW'
 obtain⟨x,h1,M,h3,h4⟩:=Fb (n:=n) hI N fn.params.toList τs args.toList ds p hτ hA λj t v a b=>hval j t v (xy) (xy)
 have B:Inv ⟨zk,λk=>k<zk.heap.size,[],[]⟩ :=
  ⟨rfl,λk hk=>hk,λb blk n h=>xy,λb b' blk n n' h=>by simp at h,λb x h=>by simp at h,hG⟩
 have z9s:=hS ⟨zk,λk=>k<zk.heap.size,[],[]⟩ (mkD τs x) args.toList _ _ (law x M (zV h3 hk)) B h1
 rw[Array.toArray_toList]at z9s
 have key:Calls P f args zk λe w'=>∃ E:KS,E.w=w'/\E.st=[]/\Inv E/\Ext ⟨zk,λk=>k<zk.heap.size,[],[]⟩ E/\jd E (.ret [.qj .bool true]) e:=by
  rcases z9s with⟨_,h⟩ | ⟨v,w',h,_⟩
  ·exact h
  ·have:=uS (args:=args) hf hnm hbd zk
   grind
 refine key.mono λe W' ⟨E,e1,_,_,e4,v,e5,e6⟩ => ?_
 subst e1
 have I:Below zk.heap.size zk E.w:=⟨e4.os,e4.tape,e4.output,e4.size,λk hk=>e4.frame k hk λb n h=>by simp at h⟩
 have hv':v=.bool true:=by
  obtain⟨cs,g1,g2⟩:=RD.cN (show RD E (.qj .bool true) v from e6)
  rw[g1.cp]at g2
  exact g2
 subst hv'
 have wM:∀ x∈p,x.block<zk.heap.size:=λx N=>by simpa using hW'.lt x N
 refine⟨_,e5,ds,[],p,[],p,[],hW',?_,?_,?_,I.frame _,λh=>by cases h⟩
 ·rw[zT,hs ds h4,hr]
  exact trodAll_cons_mk (shut_bool hbt _) trodAll_mk0
 ·rw[zT,hs ds h4]
  exact Hq R I _ _ _ _ hts hA wM
 ·rw[zT,hs ds h4,hv]
  rfl
end Go.AM
namespace Go.AM
def Dj:List Ty->Type
 | []=>Unit
 | [τ]=>den τ
 | τ::σ::r=>den τ×Dj (σ::r)
def UO.ty:UO->Ty | .rp τ=>τ | .im τ=>τ
def fO:List UO->Type
 | []=>Unit
 | [p]=>den p.ty
 | p::q::r=>den p.ty×fO (q::r)
def Bc:(p:UO)->den p.ty->D
 | .rp τ,x=>.vA τ x
 | .im τ,x=>.qj τ x
def ZR:(l:List UO)->fO l->List D
 | [],_=>[]
 | [p],x=>[Bc p x]
 | p::q::r,x=>Bc p x.1::ZR (q::r) x.2
def E1:(l:List UO)->fO l
 | []=>()
 | [p]=>zb p.ty
 | p::q::r=>(zb p.ty,E1 (q::r))
inductive Sk where
 | im (τ:Ty) | row (b:Nat) (e:Ty) | op (b T:Nat) | un | nl
def lP:List Sk->Type
 | []=>Unit
 | .im τ::r=>den τ×lP r
 | .row _ _::r=>lP r
 | .op _ _::r=>lP r
 | .un::r=>lP r
 | .nl::r=>lP r
def XK:(l:List Sk)->lP l
 | []=>()
 | .im τ::r=>(zb τ,XK r)
 | .row _ _::r=>XK r
 | .op _ _::r=>XK r
 | .un::r=>XK r
 | .nl::r=>XK r
inductive Mc where
 | im (τ:Ty) | rp (τ:Ty) | pt (b:Nat)
def Zr:List Mc->Type
 | []=>Unit
 | .im τ::r=>den τ×Zr r
 | .rp τ::r=>den τ×Zr r
 | .pt _::r=>Zr r
def Kl:(l:List Mc)->Zr l
 | []=>()
 | .im τ::r=>(zb τ,Kl r)
 | .rp τ::r=>(zb τ,Kl r)
 | .pt _::r=>Kl r
def Wx:(l:List Mc)->Zr l->List D
 | [],_=>[]
 | .im τ::r,x=>.qj τ x.1::Wx r x.2
 | .rp τ::r,x=>.vA τ x.1::Wx r x.2
 | .pt b::r,x=>.ptr b 0::Wx r x
inductive Dk where
 | qj (τ:Ty) | vA (τ:Ty) | sub (b:Nat) (e:Ty) | wh (f:Nat) (caps:List UO) | st (ks:List Sk) | mclo (f:Nat) (ms:List Mc) | mp | sr (e:Ty) | tight (e:Ty)
inductive Ck where
 | ptr (b off:Nat) | cur (b:Nat) (e:Ty) | wE | gU | v8 | wh (f:Nat) (l:List (Nat×Nat)) | yL (b:Nat) | uT
inductive Bk where
 | var (k:Dk) | cvar (k:Ck) | arr (e:Ty) | dead
def Dk.den:Dk->Type
 | .qj τ=>AM.den τ
 | .vA τ=>AM.den τ
 | .sub _ _=>Nat×Nat
 | .wh _ caps=>fO caps
 | .st ks=>lP ks
 | .mclo _ ms=>Zr ms
 | .mp=>List Int
 | .sr e=>List (AM.den e)×Bool
 | .tight e=>List (AM.den e)
def Dk.zb:(k:Dk)->k.den
 | .qj τ=>AM.zb τ
 | .vA τ=>AM.zb τ
 | .sub _ _=>(0,0)
 | .wh _ caps=>E1 caps
 | .st ks=>XK ks
 | .mclo _ ms=>Kl ms
 | .mp=>[]
 | .sr _=>([],false)
 | .tight _=>[]
inductive It where
 | s (t:Nat) (k:Dk) | v (k:Dk) | a (e:Ty)
def It.den:It->Type
 | .s _ k=>k.den
 | .v k=>k.den
 | .a e=>List (AM.den e)
def It.zb:(i:It)->i.den
 | .s _ k=>k.zb
 | .v k=>k.zb
 | .a _=>[]
def jT:List It->Type
 | []=>Unit
 | [i]=>i.den
 | i::j::r=>i.den×jT (j::r)
def zkZ:cJ->Nat
 | .arr v _ _=>v
 | _=>0
def jy(st:St)(b:Nat):Nat:=match st[b]? with | some x=>zkZ x | none=>0
def jf(st:St):(l:List Sk)->lP l->List D
 | [],_=>[]
 | .im τ::r,x=>AM.flat τ x.1++jf st r x.2
 | .row b e::r,x=>.ms b (jy st b) e 0 (jy st b)::jf st r x
 | .op b T::r,x=>.ed b T::jf st r x
 | .un::r,x=>.WH::jf st r x
 | .nl::r,x=>.wE::jf st r x
def Qy(st:St):(k:Dk)->k.den->D
 | .qj τ,x=>.qj τ x
 | .vA τ,x=>.vA τ x
 | .sub b e,x=>.ms b (jy st b) e x.1 x.2
 | .wh f caps,x=>.wh f (ZR caps x)
 | .st ks,x=>.agg (jf st ks x)
 | .mclo f ms,x=>.wh f (Wx ms x)
 | .mp,x=>.Bg x
 | .sr e,x=>.sr e x.1 x.2
 | .tight e,x=>.tight e x false
def EZ(st:St):Ck->D
 | .ptr b off=>.ptr b off
 | .cur b e=>.ms b (jy st b) e 0 (jy st b)
 | .wE=>.wE
 | .gU=>.gU
 | .v8=>.v8
 | .wh f l=>.wh f (l.map λp=>.ptr p.1 p.2)
 | .yL b=>.yL b
 | .uT=>.uT
def nh(st:St):(l:List It)->jT l->Fr
 | [],_=>[]
 | [.s t k],x=>[(t,some (Qy st k x))]
 | [.v _],_=>[]
 | [.a _],_=>[]
 | .s t k::j::r,x=>(t,some (Qy st k x.1))::nh st (j::r) x.2
 | .v _::j::r,x=>nh st (j::r) x.2
 | .a _::j::r,x=>nh st (j::r) x.2
def z84(st:St)(l:List (Nat×Ck)):Fr:=l.map λp=>(p.1,some (EZ st p.2))
inductive Bd where
 | v (k:Dk) (x:k.den) | a (e:Ty) (x:List (AM.den e))
def Z1:(l:List It)->jT l->List Bd
 | [],_=>[]
 | [.s _ _],_=>[]
 | [.v k],x=>[.v k x]
 | [.a e],x=>[.a e x]
 | .s _ _::j::r,x=>Z1 (j::r) x.2
 | .v k::j::r,x=>.v k x.1::Z1 (j::r) x.2
 | .a e::j::r,x=>.a e x.1::Z1 (j::r) x.2
def fu:List Bk->List Bd->St
 | [],_=>[]
 | .arr _::r,.a e x::d=>.arr x.length e x::fu r d
 | .var _::r,_::d=>.dead::fu r d
 | .cvar _::r,d=>.dead::fu r d
 | .dead::r,d=>.dead::fu r d
 | _::_,_=>[]
def jE(st:St):List Bk->List Bd->St
 | [],_=>[]
 | .arr _::r,.a e x::d=>.arr x.length e x::jE st r d
 | .var _::r,.v k x::d=>.var (Qy st k x)::jE st r d
 | .cvar c::r,d=>.var (EZ st c)::jE st r d
 | .dead::r,d=>.dead::jE st r d
 | _::_,_=>[]
def znK(bs:List Bk)(d:List Bd):St:=jE (fu bs d) bs d
structure ur where
 fp:List It
 cs:List (Nat×Ck)
 bs:List Bk
def ur.den(s:ur):Type:=jT s.fp
def ur.st(s:ur)(x:s.den):St:=znK s.bs (Z1 s.fp x)
def ur.fr(s:ur)(x:s.den):Fr:=nh (s.st x) s.fp x++z84 (s.st x) s.cs
def Pr:(p:UO)->D->Option (den p.ty)
 | .rp τ,d=>match d with | .vA _ x=>jR x | _=>none
 | .im τ,d=>ox τ d
def LS:(l:List UO)->List D->Option (fO l)
 | [],[]=>some ()
 | [p],[d]=>Pr p d
 | p::q::r,d::ds=>(Pr p d).bind λx=>(LS (q::r) ds).bind λy=>some (x,y)
 | _,_=>none
def ly(st:St)(b:Nat):Nat:=match st[b]? with | some (.arr _ _ xs)=>xs.length | _=>0
def z2A(st:St)(b T:Nat)(ds:List D):Option (List D):=match st[b]? with
 | some (.var _)=>match ds with
  | .mP T'::ds=>bif V T T' then some ds else none
  | .ed b' T'::ds=>bif V b b'&&V T T' then some ds else none
  | _=>none
 | _=>none
def zdb(ds:List D):Option (List D):=match ds with
 | d::ds=>bif d.one then some ds else none
 | _=>none
def zcF(ds:List D):Option (List D):=match ds with
 | .wE::ds=>some ds
 | _=>none
def om(st:St):(l:List Sk)->List D->T (lP l)
 | [],ds=>match ds with | []=>.ret () | _=>.fail
 | .im τ::r,ds=>match cH τ ds with | some p=>(om st r p.2).bind λy=>.ret (p.1,y) | none=>.fail
 | .row b e::r,ds=>match ds with
  | .ms b' vi e' off len::ds=>bif V b b'&&decide (e=e')then .W (zp vi off len (ly st b)) (om st r ds)else .fail
  | _=>.fail
 | .op b T::r,ds=>match z2A st b T ds with | some q=>om st r q | none=>.fail
 | .un::r,ds=>match zdb ds with | some q=>om st r q | none=>.fail
 | .nl::r,ds=>match zcF ds with | some q=>om st r q | none=>.fail
def JZ:(l:List Mc)->List D->T (Zr l)
 | [],ds=>match ds with | []=>.ret () | _=>.fail
 | .im τ::r,ds=>match ds with
  | d::ds=>match ox τ d with | some y=>(JZ r ds).bind λz=>.ret (y,z) | none=>.fail
  | _=>.fail
 | .rp τ::r,ds=>match ds with
  | .vA _ x::ds=>match(jR x:Option (AM.den τ))with | some y=>(JZ r ds).bind λz=>.ret (y,z) | none=>.fail
  | _=>.fail
 | .pt b::r,ds=>match ds with
  | .ptr b' off::ds=>bif V b b'&&V off 0 then JZ r ds else .fail
  | _=>.fail
def QA(st:St):(k:Dk)->D->T k.den
 | .qj τ,d=>.YV (ox τ d)
 | .vA τ,d=>match d with | .vA _ x=>.YV (jR x) | _=>.fail
 | .sub b e,d=>match d with
  | .ms b' vi e' off len=>bif V b b'&&decide (e=e')then .W (vi=jy st b) (.ret (off,len))else .fail
  | _=>.fail
 | .wh f caps,d=>match d with
  | .wh f' l=>bif V f f' then .YV (LS caps l)else .fail
  | _=>.fail
 | .st ks,d=>bif d.cE then om st ks (xx d)else .fail
 | .mclo f ms,d=>match d with
  | .wh f' l=>bif V f f' then JZ ms l else .fail
  | _=>.fail
 | .mp,d=>match d with | .Bg l=>.ret l | _=>.fail
 | .sr e,d=>match d with
  | .wE=>.ret ([],false)
  | .sr e' l b=>match(jR (a:=.sl e') (b:=.sl e) l:Option (List (AM.den e)))with | some l=>.ret (l,b) | none=>.fail
  | _=>.fail
 | .tight e,d=>match d with
  | .wE=>.ret []
  | .tight e' l _=>.YV (jR (a:=.sl e') (b:=.sl e) l)
  | _=>.fail
def Vm:List (Nat×Nat)->List D->Bool
 | [],[]=>true
 | p::r,.ptr b off::ds=>V p.1 b&&V p.2 off&&Vm r ds
 | _,_=>false
def UE(st:St):Ck->D->T Unit
 | .ptr b off,d=>match d with | .ptr b' off'=>bif V b b'&&V off off' then .ret ()else .fail | _=>.fail
 | .cur b e,d=>match d with
  | .ms b' vi e' off len=>bif V b b'&&decide (e=e')then .W (zp vi off len (ly st b)) (.ret ())else .fail
  | _=>.fail
 | .wE,d=>match d with | .wE=>.ret () | _=>.fail
 | .gU,d=>match d with | .gU=>.ret () | _=>.fail
 | .v8,d=>match d with | .v8=>.ret () | _=>.fail
 | .wh f l,d=>match d with | .wh f' l'=>bif V f f'&&Vm l l' then .ret ()else .fail | _=>.fail
 | .yL b,d=>match d with | .yL b'=>bif V b b' then .ret ()else .fail | _=>.fail
 | .uT,d=>match d with | .uT=>.ret () | _=>.fail
def z8S(fr:Fr)(st:St):List (Nat×Ck)->T Unit
 | []=>.ret ()
 | p::r=>match fr.get p.1 with
  | some d=>(UE st p.2 d).bind λ_=>z8S fr st r
  | none=>.fail
def z2c(e:Ty)(b:cJ):T (List (den e)):=match b with
 | .arr vi _ xs=>match(jR (a:=.sl _) (b:=.sl e) xs:Option (List (den e)))with
  | some ys=>.W (vi=ys.length) (.ret ys)
  | none=>.fail
 | _=>.fail
def Dk.plain:Dk->Bool
 | .qj _=>true
 | .vA _=>true
 | .st _=>true
 | .mp=>true
 | _=>false
def z2e(st:St)(k:Dk)(b:cJ):T k.den:=match b with
 | .var d=>bif k.plain then QA st k d else .fail
 | _=>.fail
def L3:cJ->Bool | .var _=>true | _=>false
def Hg(st:St):List Bk->List cJ->T (List cJ)
 | [],_=>.ret []
 | .arr _::r,b::bl=>(Hg st r bl).bind λl=>.ret (b::l)
 | .var _::r,b::bl=>(Hg st r bl).bind λl=>.ret (b::l)
 | .cvar c::r,.var d::bl=>(UE st c d).bind λ_=>Hg st r bl
 | .dead::r,b::bl=>bif L3 b then .fail else Hg st r bl
 | _,_=>.fail
def FA(fr:Fr)(st:St)(bl:List cJ):(i:It)->T (i.den×List cJ)
 | .s t k=>match fr.get t with | some d=>(QA st k d).bind λx=>.ret (x,bl) | none=>.fail
 | .v k=>match bl with | b::r=>(z2e st k b).bind λx=>.ret (x,r) | []=>.fail
 | .a e=>match bl with | b::r=>(z2c e b).bind λx=>.ret (x,r) | []=>.fail
def E4{α:Type}(x:α×List cJ):T α:=match x.2 with | []=>.ret x.1 | _=>.fail
def BF(fr:Fr)(st:St):(l:List It)->List cJ->T (jT l)
 | [],bl=>E4 ((),bl)
 | [i],bl=>(FA fr st bl i).bind E4
 | i::j::r,bl=>(FA fr st bl i).bind λx=>(BF fr st (j::r) x.2).bind λy=>.ret (x.1,y)
def rowAt(bs:List Bk)(b:Nat):Bool:=match bs[b]? with | some (.arr _)=>true | _=>false
def UJ(bs:List Bk)(b:Nat):Bool:=match bs[b]? with | some (.var _)=>true | some (.cvar _)=>true | _=>false
def z8r(bs:List Bk):Sk->Bool
 | .row b _=>rowAt bs b
 | .op b _=>UJ bs b
 | _=>true
def zkI(bs:List Bk):Mc->Bool
 | .pt b=>UJ bs b
 | _=>true
def F8(bs:List Bk):Dk->Bool
 | .mclo _ ms=>ms.all (zkI bs)
 | .sub b _=>rowAt bs b
 | .st ks=>ks.all (z8r bs)
 | _=>true
def Sw(bs:List Bk):Ck->Bool
 | .ptr b _=>UJ bs b
 | .cur b _=>rowAt bs b
 | .wh _ l=>l.all λp=>UJ bs p.1
 | .yL b=>UJ bs b
 | _=>true
def zoV(bs:List Bk):It->Bool
 | .s _ k=>F8 bs k
 | .v k=>F8 bs k
 | .a _=>true
def zoU(bs:List Bk):Bk->Bool
 | .cvar c=>Sw bs c
 | _=>true
def kinds:List It->List Bool
 | []=>[]
 | .s _ _::r=>kinds r
 | .v _::r=>false::kinds r
 | .a _::r=>true::kinds r
def eU:List Bk->List Bool->Bool
 | [],[]=>true
 | .arr _::bs,b::r=>b&&eU bs r
 | .var _::bs,b::r => !b&&eU bs r
 | .cvar _::bs,l=>eU bs l
 | .dead::bs,l=>eU bs l
 | _,_=>false
def ur.ok(s:ur):Bool:=eU s.bs (kinds s.fp)&&s.fp.all (zoV s.bs)&&s.cs.all (λp=>Sw s.bs p.2)&&s.bs.all (zoU s.bs)
def ur.un(s:ur)(fr:Fr)(st:St):T s.den :=
 bif s.ok&&(st.take s.bs.length).all (C2 s.bs.length)then(z8S fr st s.cs).bind λ_=>(Hg st s.bs st).bind λbl=>BF fr st s.fp bl
 else .fail
structure Way where
 ex:Ex
 sh:ur
def fP:List Way->Type
 | []=>Empty
 | [w]=>w.sh.den
 | w::v::r=>w.sh.den⊕fP (v::r)
def MD{α:Type}:(l:List Way)->fP l->(Ex->Fr->St->T α)->T α
 | [],x,_=>nomatch x
 | [w],x,k=>k w.ex (w.sh.fr x) (w.sh.st x)
 | w::v::r,x,k=>Sum.elim (λa=>k w.ex (w.sh.fr a) (w.sh.st a)) (λb=>MD (v::r) b k) x
def Xt:Ex->Ex->Bool
 | .normal,.normal=>true
 | .ret,.ret=>true
 | .exit a,.exit b=>V a b
 | .hZ (.iface t _),.hZ (.iface t' _)=>V t t'
 | _,_=>false
def GP:Ex->Fr->Fr
 | .hZ (.iface _ d),_=>[(0,some d)]
 | _,fr=>fr
def E9:Ex->Fr->Option (Ex×Fr)
 | .hZ (.iface t _),fr=>match fr.get 0 with | some d=>some (.hZ (.iface t d),[]) | none=>none
 | .hZ _,_=>none
 | e,fr=>some (e,fr)
def Cu:(l:List Way)->Ex->Fr->St->T (fP l)
 | [],_,_,_=>.fail
 | [w],ex,fr,st=>bif Xt w.ex ex then w.sh.un fr st else .fail
 | w::v::r,ex,fr,st=>bif Xt w.ex ex then(w.sh.un fr st).bind λx=>.ret (.inl x)else(Cu (v::r) ex fr st).bind λy=>.ret (.inr y)
end Go.AM
namespace Go.AM
set_option linter.unusedSectionVars false
variable [yY] [Hk]
section
variable {c:Ctx} {n:Nat}
theorem get_mem:∀ {l:Fr} {s:Nat} {d:D},l.get s=some d->(s,some d)∈l
 | [],s,d,h=>by cases h
 | (t,d')::r,s,d,h=>by
  simp only[Fr.get]at h
  cases ht:V t s with
  | true =>
   rw[ht,cond_true]at h
   rw[zA ht,h]
   simp
  | false=>rw[ht,cond_false]at h; exact zI _ (get_mem h)
theorem get_append{l m:Fr}{s:Nat}{d:D}(h:(l++m).get s=some d):(s,some d)∈l\/m.get s=some d:=by
 induction l with
 | nil=>grind
 | cons p r ih =>
  obtain⟨t,d'⟩:=p
  simp only[qJ,Fr.get]at h
  cases ht:V t s with
  | true=>rw[ht,cond_true]at h; rw[zA ht,h]; exact .inl zQ
  | false=>grind
structure Wk(O E:KS):Prop where
 w:E.w=O.w
 ok:E.ok=O.ok
 ph:E.ph=O.ph
 len:E.st.length=O.st.length
 var:∀ (b:Nat) (d:D),O.st[b]? = some (cJ.var d)->∃ d',E.st[b]? = some (cJ.var d')
 arr:∀ (b v:Nat) (e:Ty) (xs:List (den e)),O.st[b]? = some (cJ.arr v e xs)->E.st[b]? = some (cJ.arr v e xs)\/E.st[b]? = some cJ.dead
 arr':∀ (b v:Nat) (e:Ty) (xs:List (den e)),E.st[b]? = some (cJ.arr v e xs)->O.st[b]? = some (cJ.arr v e xs)
 dead:∀ (b:Nat),O.st[b]? = some cJ.dead->E.st[b]? = some cJ.dead
theorem Wk.ext{O E:KS}(h:Wk O E):Ext O E:=by
 refine⟨by rw[h.w],by rw[h.w],by rw[h.w],by rw[h.w]; exact zJ _,λk hk=>⟨by rw[h.ok]; exact hk,by rw[h.w]⟩,λk hk=>.inl (by rw[<- h.ok]; exact hk),
  λb blk m I=>.inl (by rw[<- h.ph]; exact I),λb d J=>⟨h.var b d J,by rw[h.ph]⟩,λb v0 e xs I => ?_,h.dead,by rw[h.len]; exact zJ _,λk _ _=>by rw[h.w]⟩
 rcases h.arr b v0 e xs I with g | g
 ·exact .inr ⟨v0,xs,g,zJ _,λ_=>⟨by rw[h.ph],rfl⟩⟩
 ·grind
theorem Wk.rd{O E:KS}(h:Wk O E){d:D}{v:Value}(J:RD O d v):RD E d v:=J.mono h.ext
theorem Wk.inv{O E:KS}(h:Wk O E)(B:Inv O)(hv:∀ (b:Nat) (d:D),E.st[b]? = some (cJ.var d)->pD E b (.var d)):Inv E:=by
 refine⟨by rw[h.ph,h.len]; exact B.len,λk hk=>by rw[h.w]; exact B.bJ k (by rw[<- h.ok]; exact hk),λb blk m I => ?_,λb b' blk m m' I K9=>B.inj b b' blk m m' (by rw[<- h.ph]; exact I) (by rw[<- h.ph]; exact K9),λb x N => ?_,B.gl.mono h.ext.same⟩
 ·obtain⟨g1,g2⟩:=B.apart b blk m (by rw[<- h.ph]; exact I)
  exact⟨by rw[h.w]; exact g1,λhk=>g2 (by rw[<- h.ok]; exact hk)⟩
 ·cases x with
  | dead=>trivial
  | var d=>grind
  | arr v e xs=>exact(B.blk b _ (h.arr' b v e xs N)).mono h.ext (by rw[h.ph]) λblk m _=>by rw[h.w]
theorem Gs{p:UO}{d:D}{x:den p.ty}(h:Pr p d=some x){O:KS}{v:Value}(J:RD O d v):RD O (Bc p x) v:=by
 cases p with
 | rp τ =>
  cases d<;>simp only[Pr]at h<;>try (cases h; done)
  obtain⟨e,N⟩:=wg h
  cases e
  cases N
  exact J
 | im τ=>exact mw J h
theorem JY{O:KS}:∀ (l:List UO) (ds:List D) (x:fO l) (vs:List Value),LS l ds=some x->wN O ds vs->wN O (ZR l x) vs
 | [],[],x,vs,_,J=>by rw[J.wb]; exact .nil
 | [],_::_,_,_,h,_=>nomatch h
 | [p],[],_,_,h,_=>nomatch h
 | [p],[d],x,vs,h,J=>by
  obtain⟨v,us,rfl,h1,M⟩:=J.cons_inv
  rw[M.wb]
  exact .cons (Gs h h1) .nil
 | [p],_::_::_,_,_,h,_=>nomatch h
 | p::q::r,[],_,_,h,_=>nomatch h
 | p::q::r,d::ds,x,vs,h,J=>by
  obtain⟨y,hy,h⟩:=qL.1 h
  obtain⟨z,hz,h⟩:=qL.1 h
  cases h
  obtain⟨v,us,rfl,h1,M⟩:=J.cons_inv
  exact .cons (Gs hy h1) (JY (q::r) ds z us hz M)
theorem Tm{O:KS}{d:D}{v:Value}(J:RD O d v)(ha:d.cE=true):∃ c,v=.agg c:=by
 cases J with
 | qj τ x cs h=>exact⟨cs.toArray,by unfold pk; rw[show τ.isAgg=true from ha]; rfl⟩
 | agg l vs R ho h=>simp
 | _=>cases ha
theorem z8s{O:KS}{b T:Nat}{ds q:List D}{vs:List Value}(J:wN O ds vs)(h:z2A O.st b T ds=some q):∃ v us,vs=v::us/\RD O (.ed b T) v/\wN O q us:=by
 unfold z2A at h
 split at h
 ·rename_i d0 SY
  split at h
  ·rename_i T' ds
   cases I:V T T' with
   | false=>grind
   | true =>
    rw[I]at h
    cases h
    obtain⟨v,us,rfl,g1,g2⟩:=J.cons_inv
    exact⟨v,us,rfl,by cases g1; exact .nn b T d0 SY,g2⟩
  ·rename_i b' T' ds
   cases I:V b b'&&V T T' with
   | false=>grind
   | true =>
    simp only[X]at I
    have e1:=zA I.1
    have e2:=zA I.2
    obtain⟨v,us,rfl,g1,g2⟩:=J.cons_inv
    grind
  ·cases h
 ·cases h
theorem Lk{st:St}{b T:Nat}{ds q:List D}(h:z2A st b T ds=some q):l9 ds=some T:=by
 unfold z2A at h
 split at h
 ·split at h
  ·rename_i T' ds
   cases I:V T T' with
   | false=>grind
   | true=>rw[zA I]; rfl
  ·rename_i b' T' ds
   cases I:V b b'&&V T T' with
   | false=>grind
   | true =>
    simp only[X]at I
    rw[zA I.2]; rfl
  ·cases h
 ·cases h
theorem z89{O:KS}{ds q:List D}{vs:List Value}(J:wN O ds vs)(h:zcF ds=some q):∃ v us,vs=v::us/\RD O .wE v/\wN O q us:=by
 unfold zcF at h
 split at h
 ·cases h; exact J.cons_inv
 ·cases h
theorem z8T{O:KS}{ds q:List D}{vs:List Value}(J:wN O ds vs)(h:zdb ds=some q):∃ v us,vs=v::us/\RD O .WH v/\wN O q us:=by
 unfold zdb at h
 split at h
 ·rename_i d ds
  cases I:d.one with
  | false=>grind
  | true =>
   rw[I]at h
   cases h
   obtain⟨v,us,rfl,g1,g2⟩:=J.cons_inv
   exact⟨v,us,rfl,.WH v (g1.KB I),g2⟩
 ·cases h
theorem mq{O:KS}{qm:St}{bs:List Bk}(oH:∀ b,rowAt bs b=true->jy qm b=ly O.st b):∀ (ks:List Sk) (ds:List D) (x:lP ks) (vs:List Value),ks.all (z8r bs)=true->(om O.st ks ds).leads x->wN O ds vs ->
  wN O (jf qm ks x) vs/\∀ d∈jf qm ks x,d.one=true
 | [],ds,x,vs,_,h,J=>by
  cases ds with
  | nil=>exact⟨J,λd hm=>by cases hm⟩
  | cons d r=>exact h.elim
 | .im τ::r,ds,x,vs,ho,h,J=>by
  simp only[om]at h
  split at h
  ·rename_i p hp
   obtain⟨y,h1,M⟩:=T.zd.1 h
   cases M
   obtain⟨c1,c2,rfl,g1,g2⟩:=Wl τ J hp
   simp only[zF,X]at ho
   obtain⟨k1,k2⟩:=mq oH r p.2 y c2 ho.2 h1 g2
   refine⟨(X0 g1).append k1,λd hm => ?_⟩
   rcases zN.1 (show d∈flat τ p.1++jf qm r y from hm)with hm | hm
   ·exact rj τ _ d hm
   ·grind
  ·exact h.elim
 | .row b e::r,ds,x,vs,ho,h,J=>by
  cases ds with
  | nil=>exact h.elim
  | cons d ds =>
   cases d<;>simp only[om]at h<;>try (exact h.elim)
   rename_i b' vi e' off len
   cases I:V b b'&&decide (e=e')with
   | false=>rw[I]at h; exact h.elim
   | true =>
    rw[I,cond_true]at h
    simp only[X,decide_eq_true_eq]at I
    obtain⟨⟨h1,M,h3⟩,h⟩:=h
    have:=zA I.1
    obtain⟨-,rfl⟩:=I
    subst this
    obtain⟨v,us,rfl,g1,g2⟩:=J.cons_inv
    simp only[zF,X]at ho
    obtain⟨k1,k2⟩:=mq oH r ds x us ho.2 h g2
    have e1:jf qm (.row b e::r) x=.ms b vi e off len::jf qm r x:=by
     show D.ms b (jy qm b) e 0 (jy qm b)::_=_
     rw[oH b ho.1,h1,M,h3]
    rw[e1]
    refine⟨.cons g1 k1,λd hm => ?_⟩
    rcases zH.1 hm with rfl | hm
    ·rfl
    ·grind
 | .op b T::r,ds,x,vs,ho,h,J=>by
  simp only[zF,X]at ho
  simp only[om]at h
  split at h
  ·rename_i q hq
   obtain⟨v,us,rfl,g0,g2⟩:=z8s J hq
   obtain⟨k1,k2⟩:=mq oH r q x us ho.2 h g2
   refine⟨show wN O (D.ed b T::jf qm r x) (v::us)from .cons g0 k1,λd hm => ?_⟩
   rcases zH.1 (show d∈D.ed b T::jf qm r x from hm)with rfl | hm
   ·rfl
   ·grind
  ·exact h.elim
 | .un::r,ds,x,vs,ho,h,J=>by
  simp only[zF,X]at ho
  simp only[om]at h
  split at h
  ·rename_i q hq
   obtain⟨v,us,rfl,g0,g2⟩:=z8T J hq
   obtain⟨k1,k2⟩:=mq oH r q x us ho.2 h g2
   refine⟨show wN O (D.WH::jf qm r x) (v::us)from .cons g0 k1,λd hm => ?_⟩
   rcases zH.1 (show d∈D.WH::jf qm r x from hm)with rfl | hm
   ·rfl
   ·grind
  ·exact h.elim
 | .nl::r,ds,x,vs,ho,h,J=>by
  simp only[zF,X]at ho
  simp only[om]at h
  split at h
  ·rename_i q hq
   obtain⟨v,us,rfl,g0,g2⟩:=z89 J hq
   obtain⟨k1,k2⟩:=mq oH r q x us ho.2 h g2
   refine⟨show wN O (D.wE::jf qm r x) (v::us)from .cons g0 k1,λd hm => ?_⟩
   rcases zH.1 (show d∈D.wE::jf qm r x from hm)with rfl | hm
   ·rfl
   ·grind
  ·exact h.elim
theorem Z2{st qm:St}{bs:List Bk}(h:∀ b,rowAt bs b=true->jy st b=jy qm b):∀ (ks:List Sk) (x:lP ks),ks.all (z8r bs)=true->jf st ks x=jf qm ks x
 | [],_,_=>rfl
 | .im τ::r,x,ho=>by
  simp only[zF,X]at ho
  show flat τ x.1++jf st r x.2=flat τ x.1++jf qm r x.2
  rw[Z2 h r x.2 ho.2]
 | .row b e::r,x,ho=>by
  simp only[zF,X]at ho
  show D.ms b (jy st b) e 0 (jy st b)::jf st r x=D.ms b (jy qm b) e 0 (jy qm b)::jf qm r x
  rw[Z2 h r x ho.2,h b ho.1]
 | .op b T::r,x,ho=>by
  simp only[zF,X]at ho
  show D.ed b T::jf st r x=D.ed b T::jf qm r x
  rw[Z2 h r x ho.2]
 | .un::r,x,ho=>by
  simp only[zF,X]at ho
  show D.WH::jf st r x=D.WH::jf qm r x
  rw[Z2 h r x ho.2]
 | .nl::r,x,ho=>by
  simp only[zF,X]at ho
  show D.wE::jf st r x=D.wE::jf qm r x
  rw[Z2 h r x ho.2]
theorem Yb:∀ (τ:Ty) (x:den τ),∀ y∈flat τ x,∃ σ z,y=.qj σ z:=by
 intro τ x y hy
 induction τ with
 | cons a b ia ib =>
  simp only[flat]at hy
  grind
 | nil=>simp[flat]at hy
 | expr=>simp[flat]at hy; rcases hy with rfl | rfl | rfl | rfl | rfl | rfl<;>exact⟨_,_,rfl⟩
 | _=>simp[flat]at hy; subst hy; exact⟨_,_,rfl⟩
theorem Dc:∀ (τ:Ty) {ds:List D} {p:den τ×List D},cH τ ds=some p->τ.size=0->p.2=ds:=by
 intro τ
 induction τ with
 | nil=>intro ds p h _; simp only[cH,Option.some.injEq]at h; subst h; rfl
 | cons a b ia ib =>
  intro ds p h hz
  simp only[Ty.size]at hz
  simp only[cH]at h
  grind
 | _=>nofun
theorem JI{st qm:St}{tt:Nat}:∀ (ks:List Sk) (ds:List D) (x:lP ks),(om st ks ds).leads x->l9 (jf qm ks x)=some tt->l9 ds=some tt
 | [],ds,x,h,ht=>by cases ht
 | .im τ::r,ds,x,h,ht=>by
  simp only[om]at h
  split at h
  ·rename_i p hp
   obtain⟨y,h1,M⟩:=T.zd.1 h
   cases M
   have ht':l9 (flat τ p.1++jf qm r y)=some tt:=ht
   cases hf:flat τ p.1 with
   | nil =>
    rw[hf]at ht'
    have hz:τ.size=0:=by rw[<- VT τ p.1,hf]; rfl
    have:=Dc τ hp hz
    rw[<- this]
    exact JI r p.2 y h1 ht'
   | cons z zs =>
    rw[hf]at ht'
    obtain⟨σ,w,e⟩:=Yb τ p.1 z (xy)
    rw[e]at ht'
    cases ht'
  ·exact h.elim
 | .row b e::r,ds,x,h,ht=>by cases ht
 | .op b T'::r,ds,x,h,ht=>by
  simp only[om]at h
  split at h
  ·rename_i q hq
   cases ht
   exact Lk hq
  ·exact h.elim
 | .un::r,ds,x,h,ht=>by cases ht
 | .nl::r,ds,x,h,ht=>by cases ht
theorem JX{d:D}{T:Nat}(ha:d.cE=true)(h:l9 (xx d)=some T):d.typed=some T:=by
 cases d with
 | qj τ x =>
  simp only[xx]at h
  cases hf:flat τ x with
  | nil=>rw[hf]at h; cases h
  | cons z zs =>
   obtain⟨σ,w,e⟩:=Yb τ x z (xy)
   rw[hf,e]at h
   cases h
 | agg l=>exact h
 | _=>cases ha
theorem Cg{m:Nat}(τ:Ty)(x:den τ):∀ d∈flat τ x,yc m d=true:=λd J=>by
 obtain⟨σ,z,rfl⟩:=Yb τ x d J
 rfl
theorem bX{m:Nat}{st:St}{bs:List Bk}(I:∀ b,rowAt bs b=true->b<m)(RC:∀ b,UJ bs b=true->b<m):∀ (ks:List Sk) (x:lP ks),ks.all (z8r bs)=true->∀ d∈jf st ks x,yc m d=true
 | [],_,_,d,J=>by cases J
 | .im τ::r,x,ho,d,J=>by
  simp only[zF,X]at ho
  rcases zN.1 (show d∈flat τ x.1++jf st r x.2 from J)with J | J
  ·exact Cg τ _ d J
  ·exact bX I RC r x.2 ho.2 d J
 | .row b e::r,x,ho,d,J=>by
  simp only[zF,X]at ho
  rcases zH.1 (show d∈D.ms b (jy st b) e 0 (jy st b)::jf st r x from J)with rfl | J
  ·have:=I b ho.1
   simp only[yc,zO,zU]; exact this
  ·exact bX I RC r x ho.2 d J
 | .op b T::r,x,ho,d,J=>by
  simp only[zF,X]at ho
  rcases zH.1 (show d∈D.ed b T::jf st r x from J)with rfl | J
  ·have:=RC b ho.1
   simp only[yc,zO,zU]; exact this
  ·exact bX I RC r x ho.2 d J
 | .un::r,x,ho,d,J=>by
  simp only[zF,X]at ho
  rcases zH.1 (show d∈D.WH::jf st r x from J)with rfl | J
  ·rfl
  ·exact bX I RC r x ho.2 d J
 | .nl::r,x,ho,d,J=>by
  simp only[zF,X]at ho
  rcases zH.1 (show d∈D.wE::jf st r x from J)with rfl | J
  ·rfl
  ·exact bX I RC r x ho.2 d J
theorem Wj{O:KS}:∀ (ms:List Mc) (ds:List D) (x:Zr ms) (vs:List Value),(JZ ms ds).leads x->wN O ds vs->wN O (Wx ms x) vs
 | [],ds,x,vs,h,J=>by
  cases ds with
  | nil=>exact J
  | cons d r=>exact h.elim
 | .im τ::r,ds,x,vs,h,J=>by
  cases ds with
  | nil=>exact h.elim
  | cons d ds =>
   simp only[JZ]at h
   split at h
   ·rename_i y hy
    obtain⟨z,h1,M⟩:=T.zd.1 h
    cases M
    obtain⟨v,us,rfl,g1,g2⟩:=J.cons_inv
    exact .cons (mw g1 hy) (Wj r ds z us h1 g2)
   ·exact h.elim
 | .rp τ::r,ds,x,vs,h,J=>by
  cases ds with
  | nil=>exact h.elim
  | cons d ds =>
   cases d<;>simp only[JZ]at h<;>try (exact h.elim)
   split at h
   ·rename_i y hy
    obtain⟨e,N⟩:=wg hy
    cases e
    cases N
    obtain⟨z,h1,M⟩:=T.zd.1 h
    cases M
    obtain⟨v,us,rfl,g1,g2⟩:=J.cons_inv
    exact .cons g1 (Wj r ds z us h1 g2)
   ·exact h.elim
 | .pt b::r,ds,x,vs,h,J=>by
  cases ds with
  | nil=>exact h.elim
  | cons d ds =>
   cases d<;>simp only[JZ]at h<;>try (exact h.elim)
   rename_i b' off
   cases I:V b b'&&V off 0 with
   | false=>rw[I]at h; exact h.elim
   | true =>
    rw[I]at h
    simp only[X]at I
    have e1:=zA I.1
    have e2:=zA I.2
    subst e1 e2
    obtain⟨v,us,rfl,g1,g2⟩:=J.cons_inv
    exact .cons g1 (Wj r ds x us h g2)
theorem oJ{m:Nat}{bs:List Bk}(I:∀ b,UJ bs b=true->b<m):∀ (ms:List Mc) (x:Zr ms),ms.all (zkI bs)=true->∀ d∈Wx ms x,yc m d=true
 | [],_,_,d,J=>by cases J
 | .im τ::r,x,ho,d,J=>by
  simp only[zF,X]at ho
  rcases zH.1 (show d∈D.qj τ x.1::Wx r x.2 from J)with rfl | J
  ·rfl
  ·exact oJ I r x.2 ho.2 d J
 | .rp τ::r,x,ho,d,J=>by
  simp only[zF,X]at ho
  rcases zH.1 (show d∈D.vA τ x.1::Wx r x.2 from J)with rfl | J
  ·rfl
  ·exact oJ I r x.2 ho.2 d J
 | .pt b::r,x,ho,d,J=>by
  simp only[zF,X]at ho
  rcases zH.1 (show d∈D.ptr b 0::Wx r x from J)with rfl | J
  ·have:=I b ho.1
   simp only[yc,zO,zU]; exact this
  ·exact oJ I r x ho.2 d J
theorem Da{O E:KS}(hw:Wk O E){k:Dk}{d:D}{x:k.den}{v:Value}{bs:List Bk}(j3:F8 bs k=true)(oH:∀ b,rowAt bs b=true->jy E.st b=jy O.st b)
  {qm:St} (vX:∀ b,rowAt bs b=true->jy qm b=jy E.st b) (hlen:∀ b,rowAt bs b=true->jy O.st b=ly O.st b) (h:(QA O.st k d).leads x) (J:RD O d v):RD E (Qy qm k x) v:=by
 cases k with
 | mp=>cases d<;>first | exact h.elim | exact absurd J.z2i nofun
 | sr e =>
  cases d<;>simp only[QA]at h<;>try (exact h.elim)
  ·split at h
   ·rename_i e' l b l' R
    cases h
    obtain⟨he,N⟩:=wg R
    cases he
    cases N
    exact hw.rd J
   ·exact h.elim
  ·cases h
   cases J
   exact .sr e [] false _ (.lB e none) nofun λ_=>rfl
 | tight e =>
  cases d<;>simp only[QA]at h<;>try (exact h.elim)
  ·rename_i e' l ne
   obtain⟨he,N⟩:=wg (T.yu.1 h)
   cases he
   cases N
   cases hw.rd J with
   | vz e a=>exact .vz e a
   | tight e l ne blk off f kf j3 h1 hc=>exact .tight e l false blk off f nofun j3 h1 hc
  ·cases h
   cases J
   exact .vz e none
 | qj τ=>exact hw.rd (mw J (T.yu.1 h))
 | vA τ =>
  cases d<;>simp only[QA]at h<;>try (exact h.elim)
  obtain⟨e,N⟩:=wg (T.yu.1 h)
  cases e
  cases N
  exact hw.rd J
 | sub b e =>
  cases d<;>simp only[QA]at h<;>try (exact h.elim)
  rename_i b' vi e' off len
  cases I:V b b'&&decide (e=e')with
  | false=>rw[I]at h; exact h.elim
  | true =>
   rw[I,cond_true]at h
   simp only[X,decide_eq_true_eq]at I
   obtain⟨hv,h⟩:=h
   cases h
   have:=zA I.1
   obtain⟨-,rfl⟩:=I
   subst this
   simp only[Qy]
   rw[vX b j3,oH b j3,<- hv]
   exact hw.rd J
 | wh f caps =>
  cases d<;>simp only[QA]at h<;>try (exact h.elim)
  rename_i f' l
  cases I:V f f' with
  | false=>rw[I]at h; exact h.elim
  | true =>
   rw[I,cond_true]at h
   have:=zA I
   subst this
   have N:=T.yu.1 h
   cases J with
   | wh _ _ vs R hh =>
    have:=JY caps l x vs N (⟨R,hh⟩:wN O l vs)
    exact hw.rd (.wh f _ vs this.1 this.2)
 | st ks =>
  simp only[QA]at h
  cases ha:d.cE with
  | false=>rw[ha]at h; exact h.elim
  | true =>
   rw[ha]at h
   have ht:d.bz=false:=by cases d<;>first | rfl | (simp[D.cE]at ha)
   obtain⟨g1,g2⟩:=mq (qm:=qm) (λb I=>(vX b I).trans ((oH b I).trans (hlen b I))) ks (xx d) x _ j3 h (cx J ht)
   obtain⟨c,hc⟩:=Tm J ha
   subst hc
   have g1':wN O (jf qm ks x) c.toList:=g1
   have:=RD.agg (O:=O) _ c.toList g1'.1 g2 g1'.2
   exact hw.rd (show RD O (.agg (jf qm ks x)) (.agg c) by simpa using this)
 | mclo f ms =>
  cases d<;>simp only[QA]at h<;>try (exact h.elim)
  rename_i f' l
  cases I:V f f' with
  | false=>rw[I]at h; exact h.elim
  | true =>
   rw[I]at h
   have:=zA I
   subst this
   cases J with
   | wh _ _ vs R hh =>
    have:=Wj ms l x vs h (⟨R,hh⟩:wN O l vs)
    exact hw.rd (show RD O (.wh f (Wx ms x)) _ from .wh f _ vs this.1 this.2)
theorem Bp:∀ {l:List (Nat×Nat)} {ds:List D},Vm l ds=true->ds=l.map λp=>.ptr p.1 p.2
 | [],[],_=>rfl
 | [],_::_,h=>by simp[Vm]at h
 | p::r,[],h=>by simp[Vm]at h
 | p::r,d::ds,h=>by
  cases d<;>simp only[Vm]at h<;>try (cases h; done)
  simp only[X]at h
  rw[Bp h.2,<- zA h.1.1,<- zA h.1.2]
  rfl
theorem z8R{st qm:St}{ck:Ck}{d:D}{bs:List Bk}(j3:Sw bs ck=true)(oH:∀ b,rowAt bs b=true->jy qm b=ly st b)(h:(UE st ck d).leads ()):EZ qm ck=d:=by
 cases ck with
 | ptr b off =>
  cases d<;>simp only[UE]at h<;>try (exact h.elim)
  rename_i b' off'
  cases I:V b b'&&V off off' with
  | false=>rw[I]at h; exact h.elim
  | true =>
   simp only[X]at I
   rw[<- zA I.1,<- zA I.2]
   rfl
 | cur b e =>
  cases d<;>simp only[UE]at h<;>try (exact h.elim)
  rename_i b' vi e' off len
  cases I:V b b'&&decide (e=e')with
  | false=>rw[I]at h; exact h.elim
  | true =>
   rw[I,cond_true]at h
   simp only[X,decide_eq_true_eq]at I
   obtain⟨⟨h1,M,h3⟩,_⟩:=h
   have:=zA I.1
   obtain⟨-,rfl⟩:=I
   subst this
   simp only[EZ]
   rw[oH b j3,h1,M,h3]
 | wE=>cases d<;>simp only[UE]at h<;>first | rfl | exact h.elim
 | gU=>cases d<;>simp only[UE]at h<;>first | rfl | exact h.elim
 | v8=>cases d<;>simp only[UE]at h<;>first | rfl | exact h.elim
 | uT=>cases d<;>simp only[UE]at h<;>first | rfl | exact h.elim
 | yL b =>
  cases d<;>simp only[UE]at h<;>try (exact h.elim)
  rename_i b'
  cases I:V b b' with
  | false=>rw[I]at h; exact h.elim
  | true=>rw[<- zA I]; rfl
 | wh f l =>
  cases d<;>simp only[UE]at h<;>try (exact h.elim)
  rename_i f' l'
  cases I:V f f'&&Vm l l' with
  | false=>rw[I]at h; exact h.elim
  | true =>
   simp only[X]at I
   rw[<- zA I.1,Bp I.2]
   rfl
theorem Fz{fr:Fr}{st:St}:∀ {cs:List (Nat×Ck)},(z8S fr st cs).leads ()->∀ p∈cs,∃ d,fr.get p.1=some d/\(UE st p.2 d).leads ()
 | [],_,p,hp=>by cases hp
 | q::r,h,p,hp=>by
  simp only[z8S]at h
  split at h
  ·rename_i d J
   simp only[T.xg]at h
   obtain⟨⟨⟩,h1,M⟩:=h
   rcases zH.1 hp with rfl | hp
   ·grind
   ·exact Fz M p hp
  ·exact h.elim
def PZ(p:Dk->Bool)(st:St):List cJ->List Bd->Prop
 | [],[]=>True
 | b::bl,.a e xs::r=>b=.arr xs.length e xs/\PZ p st bl r
 | b::bl,.v k x::r=>(∃ d,b=.var d/\(k.plain=true/\p k=true)/\(QA st k d).leads x)/\PZ p st bl r
 | _,_=>False
theorem z2d{e:Ty}{b:cJ}{x:List (den e)}(h:(z2c e b).leads x):b=.arr x.length e x:=by
 unfold z2c at h
 split at h
 ·split at h
  ·rename_i ys hy
   obtain⟨h1,M⟩:=h
   cases M
   obtain⟨he,N⟩:=wg hy
   grind
  ·exact h.elim
 ·exact h.elim
theorem z2f{st:St}{k:Dk}{b:cJ}{x:k.den}(h:(z2e st k b).leads x):∃ d,b=.var d/\k.plain=true/\(QA st k d).leads x:=by
 cases b with
 | var d =>
  simp only[z2e]at h
  cases hp:k.plain with
  | false=>rw[hp]at h; exact h.elim
  | true=>grind
 | _=>exact h.elim
def GQ(st:St):(i:It)->i.den->Fr
 | .s t k,x=>[(t,some (Qy st k x))]
 | .v _,_=>[]
 | .a _,_=>[]
def Ts:(i:It)->i.den->List Bd
 | .s _ _,_=>[]
 | .v k,x=>[.v k x]
 | .a e,x=>[.a e x]
theorem YP(st:St)(i:It)(x:i.den):nh st [i] x=GQ st i x:=by cases i<;>rfl
theorem Je(st:St)(i j:It)(r:List It)(x:i.den×jT (j::r)):nh st (i::j::r) x=GQ st i x.1++nh st (j::r) x.2:=by cases i<;>rfl
theorem z29(i:It)(x:i.den):Z1 [i] x=Ts i x:=by cases i<;>rfl
theorem Ss(i j:It)(r:List It)(x:i.den×jT (j::r)):Z1 (i::j::r) x=Ts i x.1++Z1 (j::r) x.2:=by cases i<;>rfl
def zdQ(fr:Fr)(st qm:St)(l:List It)(p:Nat×Option D):Prop:=∃ (k:Dk) (y:k.den) (d:D),(It.s p.1 k)∈l/\fr.get p.1=some d/\(QA st k d).leads y/\p.2=some (Qy qm k y)
theorem Pt{p:Dk->Bool}{fr:Fr}{st qm:St}{bl:List cJ}{i:It}{x:i.den×List cJ}(hp:∀ k,i=.v k->p k=true)(h:(FA fr st bl i).leads x) :
  (∀ bd,PZ p st x.2 bd->PZ p st bl (Ts i x.1++bd))/\∀ p∈GQ qm i x.1,zdQ fr st qm [i] p:=by
 cases i with
 | s t k =>
  simp only[FA]at h
  split at h
  ·rename_i d J
   rw[T.xg]at h
   obtain⟨y,h1,rfl⟩:=h
   refine⟨λbd I=>I,λp hp => ?_⟩
   simp only[GQ,zL]at hp
   subst hp
   exact⟨k,y,d,qz,J,h1,rfl⟩
  ·exact h.elim
 | v k =>
  cases bl with
  | nil=>exact h.elim
  | cons b r =>
   simp only[FA]at h
   rw[T.xg]at h
   obtain⟨y,h1,rfl⟩:=h
   obtain⟨d,q1,q2,q3⟩:=z2f h1
   exact⟨λbd I=>⟨⟨d,q1,⟨q2,hp k rfl⟩,q3⟩,I⟩,λp hp=>by cases hp⟩
 | a e =>
  cases bl with
  | nil=>exact h.elim
  | cons b r =>
   simp only[FA]at h
   rw[T.xg]at h
   obtain⟨y,h1,rfl⟩:=h
   exact⟨λbd I=>⟨z2d h1,I⟩,λp hp=>by cases hp⟩
theorem E5{α:Type}{x:α×List cJ}{y:α}(h:(E4 x).leads y):x=(y,[]):=by
 obtain⟨a,bl⟩:=x
 cases bl with
 | nil=>cases h; rfl
 | cons=>exact h.elim
theorem UF{p:Dk->Bool}{fr:Fr}{st qm:St}:∀ (l:List It) (bl:List cJ) (x:jT l),(∀ k,It.v k∈l->p k=true)->(BF fr st l bl).leads x ->
  PZ p st bl (Z1 l x)/\∀ p∈nh qm l x,zdQ fr st qm l p
 | [],bl,x,_,h=>by
  have h':(E4 ((),bl)).leads x:=h
  have:=E5 h'
  cases this
  exact⟨trivial,λp hp=>by cases hp⟩
 | [i],bl,x,hp,h=>by
  have h':((FA fr st bl i).bind E4).leads x:=h
  obtain⟨y,h1,M⟩:=T.zd.1 h'
  have:=E5 M
  subst this
  obtain⟨g1,g2⟩:=Pt (p:=p) (qm:=qm) (λk hk=>hp k (xy)) h1
  have e1:Z1 [i] x=Ts i x:=z29 i x
  have e2:nh qm [i] x=GQ qm i x:=YP qm i x
  have:=g1 [] trivial
  grind
 | i::j::r,bl,x,hp,h=>by
  have h':((FA fr st bl i).bind λx=>(BF fr st (j::r) x.2).bind λy=>T.ret (x.1,y)).leads x:=h
  obtain⟨y,h1,M⟩:=T.zd.1 h'
  obtain⟨z,h3,h4⟩:=T.zd.1 M
  cases h4
  obtain⟨g1,g2⟩:=Pt (p:=p) (qm:=qm) (λk hk=>hp k (xy)) h1
  obtain⟨k1,k2⟩:=UF (p:=p) (qm:=qm) (j::r) y.2 z (λk hk=>hp k (zI _ hk)) h3
  have e1:Z1 (i::j::r) (y.1,z)=Ts i y.1++Z1 (j::r) z:=Ss i j r (y.1,z)
  have e2:nh qm (i::j::r) (y.1,z)=GQ qm i y.1++nh qm (j::r) z:=Je qm i j r (y.1,z)
  rw[e1,e2]
  refine⟨g1 _ k1,λp hp => ?_⟩
  rcases zN.1 hp with hp | hp
  ·obtain⟨k,w,d,q1,q2⟩:=g2 p hp
   exact⟨k,w,d,xy,q2⟩
  ·obtain⟨k,w,d,q1,q2⟩:=k2 p hp
   exact⟨k,w,d,zI _ q1,q2⟩
inductive Hj(p:Dk->Bool)(st qm:St):Bk->cJ->cJ->Prop
 | arr (e e':Ty) (xs:List (den e)):Hj p st qm (.arr e') (.arr xs.length e xs) (.arr xs.length e xs)
 | var (k k':Dk) (d:D) (x:k.den) (hp:k.plain=true/\p k=true) (h:(QA st k d).leads x):Hj p st qm (.var k') (.var d) (.var (Qy qm k x))
 | cvar (ck:Ck) (d:D) (h:(UE st ck d).leads ()):Hj p st qm (.cvar ck) (.var d) (.var (EZ qm ck))
 | dead (b:cJ) (h:L3 b=false):Hj p st qm .dead b .dead
def mu:List Bd->List Bool
 | []=>[]
 | .v _ _::r=>false::mu r
 | .a _ _::r=>true::mu r
theorem ZQ:∀ (l:List It) (x:jT l),mu (Z1 l x)=kinds l
 | [],_=>rfl
 | [.s _ _],_=>rfl
 | [.v _],_=>rfl
 | [.a _],_=>rfl
 | .s _ _::j::r,x=>ZQ (j::r) x.2
 | .v _::j::r,x=>congrArg (false :: ·) (ZQ (j::r) x.2)
 | .a _::j::r,x=>congrArg (true :: ·) (ZQ (j::r) x.2)
theorem UD{p:Dk->Bool}{st st0:St}:∀ {bs:List Bk} {blocks bl:List cJ} {bd:List Bd},(Hg st bs blocks).leads bl->PZ p st bl bd->eU bs (mu bd)=true ->
  (jE st0 bs bd).length=bs.length/\(∀ b,rowAt bs b=true->jy (fu bs bd) b=ly blocks b/\jy (jE st0 bs bd) b=ly blocks b/\jy blocks b=ly blocks b) /\
  ∀ (i:Nat) (k:Bk),bs[i]? = some k->∃ hI B',blocks[i]? = some hI/\(jE st0 bs bd)[i]? = some B'/\Hj p st st0 k hI B'
 | [],blocks,bl,bd,h,I,ho=>by
  refine⟨by simp[jE],λb I=>by simp[rowAt]at I,λi k hk=>by simp at hk⟩
 | k::r,[],bl,bd,h,I,ho=>by cases k<;>exact h.elim
 | .arr e::r,b::blocks,bl,bd,h,I,ho=>by
  simp only[Hg,T.xg]at h
  obtain⟨l,h1,rfl⟩:=h
  cases bd with
  | nil=>exact I.elim
  | cons q bd =>
   cases q with
   | v k x=>simp[mu,eU]at ho
   | a e' xs =>
    obtain⟨rfl,Ep⟩:=I
    simp only[mu,eU,Bool.true_and]at ho
    obtain⟨g1,g2,g3⟩:=UD (st0:=st0) h1 Ep ho
    refine⟨by simp[jE,g1],λb I => ?_,λi k hk => ?_⟩
    ·cases b with
     | zero=>simp[fu,jE,jy,zkZ,ly]
     | succ b=>have:=g2 b (by simpa[rowAt]using I); simpa[fu,jE,jy,ly]using this
    ·cases i with
     | zero=>simp at hk; subst hk; exact⟨_,_,rfl,rfl,.arr e' e xs⟩
     | succ i=>simpa[jE]using g3 i k (by simpa using hk)
 | .var k0::r,b::blocks,bl,bd,h,I,ho=>by
  simp only[Hg,T.xg]at h
  obtain⟨l,h1,rfl⟩:=h
  cases bd with
  | nil=>exact I.elim
  | cons q bd =>
   cases q with
   | a e' xs=>simp[mu,eU]at ho
   | v k x =>
    obtain⟨⟨d,rfl,hp,J⟩,Ep⟩:=I
    simp only[mu,eU,Bool.not_false,Bool.true_and]at ho
    obtain⟨g1,g2,g3⟩:=UD (st0:=st0) h1 Ep ho
    refine⟨by simp[jE,g1],λb I => ?_,λi k hk => ?_⟩
    ·cases b with
     | zero=>simp[rowAt]at I
     | succ b=>have:=g2 b (by simpa[rowAt]using I); simpa[fu,jE,jy,ly]using this
    ·cases i with
     | zero=>simp at hk; subst hk; exact⟨_,_,rfl,rfl,.var k k0 d x hp J⟩
     | succ i=>simpa[jE]using g3 i k (by simpa using hk)
 | .cvar ck::r,b::blocks,bl,bd,h,I,ho=>by
  cases b with
  | var d =>
   simp only[Hg,T.xg]at h
   obtain⟨⟨⟩,h0,h1⟩:=h
   have ho':eU r (mu bd)=true:=by cases bd<;>simpa[eU]using ho
   obtain⟨g1,g2,g3⟩:=UD (st0:=st0) h1 I ho'
   have e1:jE st0 (.cvar ck::r) bd=.var (EZ st0 ck)::jE st0 r bd:=by cases bd<;>rfl
   have e0:fu (.cvar ck::r) bd=.dead::fu r bd:=by cases bd<;>rfl
   rw[e0,e1]
   refine⟨by simp[g1],λb I => ?_,λi k hk => ?_⟩
   ·cases b with
    | zero=>simp[rowAt]at I
    | succ b=>have:=g2 b (by simpa[rowAt]using I); simpa[jy,ly]using this
   ·cases i with
    | zero=>simp at hk; subst hk; exact⟨_,_,rfl,rfl,.cvar ck d h0⟩
    | succ i=>grind
  | _=>exact h.elim
 | .dead::r,b::blocks,bl,bd,h,I,ho=>by
  simp only[Hg]at h
  cases hv:L3 b with
  | true=>rw[hv]at h; exact h.elim
  | false =>
   rw[hv,cond_false]at h
   have ho':eU r (mu bd)=true:=by cases bd<;>simpa[eU]using ho
   obtain⟨g1,g2,g3⟩:=UD (st0:=st0) h I ho'
   have e1:jE st0 (.dead::r) bd=.dead::jE st0 r bd:=by cases bd<;>rfl
   have e0:fu (.dead::r) bd=.dead::fu r bd:=by cases bd<;>rfl
   rw[e0,e1]
   refine⟨by simp[g1],λb I => ?_,λi k hk => ?_⟩
   ·cases b with
    | zero=>simp[rowAt]at I
    | succ b=>have:=g2 b (by simpa[rowAt]using I); simpa[jy,ly]using this
   ·cases i with
    | zero=>simp at hk; subst hk; exact⟨_,_,rfl,rfl,.dead b hv⟩
    | succ i=>grind
inductive Refs(m:Nat):D->Prop
 | qj (τ:Ty) (x:AM.den τ):Refs m (.qj τ x)
 | tight (e:Ty) (l:List (AM.den e)) (ne:Bool):Refs m (.tight e l ne)
 | sr (e:Ty) (l:List (AM.den e)) (b:Bool):Refs m (.sr e l b)
 | wE:Refs m .wE
 | gU:Refs m .gU
 | v8:Refs m .v8
 | gj:Refs m .gj
 | uT:Refs m .uT
 | WH:Refs m .WH
 | mP (T:Nat):Refs m (.mP T)
 | ed (b T:Nat) (h:b<m):Refs m (.ed b T)
 | yL (b:Nat) (h:b<m):Refs m (.yL b)
 | ptr (b off:Nat) (h:b<m):Refs m (.ptr b off)
 | vA (τ:Ty) (x:AM.den τ):Refs m (.vA τ x)
 | gG (b vi:Nat) (e:Ty) (idx off:Nat) (h:b<m):Refs m (.gG b vi e idx off)
 | ms (b vi:Nat) (e:Ty) (off len:Nat) (h:b<m):Refs m (.ms b vi e off len)
 | wh (f:Nat) (l:List D) (h:∀ i (hi:i<l.length),Refs m l[i]):Refs m (.wh f l)
 | agg (l:List D) (h:∀ i (hi:i<l.length),Refs m l[i]):Refs m (.agg l)
 | eD (l:List D) (h:∀ i (hi:i<l.length),Refs m l[i]):Refs m (.eD l)
 | iface (t:Nat) (d:D) (h:Refs m d):Refs m (.iface t d)
theorem Refs.mono{m m':Nat}(hm:m<=m'){d:D}(h:Refs m d):Refs m' d:=by
 induction h with
 | ptr b off h=>exact .ptr b off (Z)
 | ed b T h=>exact .ed b T (Z)
 | yL b h=>exact .yL b (Z)
 | gG b vi e idx off h=>exact .gG b vi e idx off (Z)
 | ms b vi e off len h=>exact .ms b vi e off len (Z)
 | wh f l h ih=>exact .wh f l ih
 | agg l h ih=>exact .agg l ih
 | eD l h ih=>exact .eD l ih
 | iface t d h ih=>exact .iface t d ih
 | _=>constructor
theorem z8C{O:KS}{m:Nat}{d:D}{v:Value}(h:RD O d v)(hr:Refs m d):RD (O.cut m) d v:=by
 induction h with
 | qj τ y cs h=>exact .qj τ y cs h
 | sr e l b v h ht hf=>exact .sr e l b v h ht hf
 | vz e a=>exact .vz e a
 | tight e l ne blk off f kf j3 h hc=>exact .tight e l ne blk off f kf j3 h hc
 | wE=>exact .wE
 | gU=>exact .gU
 | v8=>exact .v8
 | gj=>exact .gj
 | uT=>exact .uT
 | WH v h=>exact .WH v h
 | mP T=>exact .mP T
 | nn b T d I=>cases hr with | ed _ _ wM=>exact mK (.nn b T d I) (by simp only[yc,zO,zU]; exact wM)
 | yL b blk n d I h=>cases hr with | yL _ wM=>exact mK (.yL b blk n d I h) (by simp only[yc,zO,zU]; exact wM)
 | np b T blk n d I h=>cases hr with | ed _ _ wM=>exact mK (.np b T blk n d I h) (by simp only[yc,zO,zU]; exact wM)
 | ptr b off blk n d I h=>cases hr with | ptr _ _ wM=>exact mK (.ptr b off blk n d I h) (by simp only[yc,zO,zU]; exact wM)
 | vA τ y cs blk off j3 h hc=>exact .vA τ y cs blk off j3 h hc
 | gG b vi e idx off blk o I h=>cases hr with | gG _ _ _ _ _ wM=>exact mK (.gG b vi e idx off blk o I h) (by simp only[yc,zO,zU]; exact wM)
 | ms b vi e off len cap a I jg ha Ws h=>cases hr with | ms _ _ _ _ _ wM=>exact mK (.ms b vi e off len cap a I jg ha Ws h) (by simp only[yc,zO,zU]; exact wM)
 | wh f l vs R h ih=>cases hr with | wh _ _ hh=>exact .wh f l vs R λi h1 M=>ih i h1 M (hh i h1)
 | agg l vs R ho h ih=>cases hr with | agg _ hh=>exact .agg l vs R ho λi h1 M=>ih i h1 M (hh i h1)
 | eD l vs R h ih=>cases hr with | eD _ hh=>exact .eD l vs R λi h1 M=>ih i h1 M (hh i h1)
 | iface t d v h ih=>cases hr with | iface _ _ hh=>exact .iface t d v (ih hh)
theorem KY{a b:Nat}(h:a<b):zO a b=true:=by
 simp; exact h
theorem TP{O κe:KS}{m:Nat}(N:Ext O κe)(hm:O.st.length<=m):Ext O (κe.cut m):=by
 have wM:∀ b x,O.st[b]? = some x->b<m:=λb x h=>Nat.lt_of_lt_of_le (Y.1 h).1 hm
 have GG:∀ b,b<m->(κe.cut m).ph[b]? = κe.ph[b]? := λb I=>by simp only[KS.cut]; rw[List.getElem?_take,if_pos I]
 refine⟨N.os,N.tape,N.output,N.size,N.same,N.fresh,λb blk n h=>N.phs b blk n (l8 h).1,λb d h => ?_,λb v0 e xs h => ?_,λb h=>xv (N.dead b h) (wM b _ h),?_,N.frame⟩
 ·obtain⟨⟨d',h1⟩,M⟩:=N.var b d h
  exact⟨⟨d',xv h1 (wM b _ h)⟩,(GG b (wM b _ h)).trans M⟩
 ·rcases N.arr b v0 e xs h with h1 | ⟨v1,x1,h1,M,h3⟩
  ·exact .inl (xv h1 (wM b _ h))
  ·exact .inr ⟨v1,x1,xv h1 (wM b _ h),M,λhe=>⟨(GG b (wM b _ h)).trans (h3 he).1,(h3 he).2⟩⟩
 ·have:=N.Ft
  simp[KS.cut]; omega
theorem ur.K0{κ0 O:KS}{fr:Fr}{a:Act}{sh:ur}{x:sh.den}(N:Ext κ0 O)(B:Inv O)(hR:Rel O n fr.get a)(R:κ0.st.length<=sh.bs.length)(h:(sh.un fr O.st).leads x) :
  ∃ E:KS,E.w=O.w/\E.st=sh.st x/\Inv E/\Ext κ0 E/\Rel E n (sh.fr x).get a/\∀ (d:D) (v:Value),Refs sh.bs.length d->RD O d v->RD E d v:=by
 unfold ur.un at h
 cases hc:sh.ok&&(O.st.take sh.bs.length).all (C2 sh.bs.length)with
 | false=>rw[hc]at h; exact h.elim
 | true =>
  rw[hc,cond_true]at h
  simp only[X,ur.ok,zP]at hc
  obtain⟨⟨⟨⟨znv,zfS⟩,QB⟩,hbs⟩,Ks⟩:=hc
  obtain⟨⟨⟩,h1,h⟩:=T.zd.1 h
  obtain⟨bl,M,h3⟩:=T.zd.1 h
  have hIc:=z5c B Ks
  -- the store cut
  let m:=sh.bs.length
  obtain⟨g1,g2⟩:=UF (p:=F8 sh.bs) (qm:=sh.st x) sh.fp bl x (λk hk=>zfS _ hk) h3
  obtain⟨k1,k2,k3⟩:=UD (st0:=fu sh.bs (Z1 sh.fp x)) M g1 ((congrArg (eU sh.bs) (ZQ sh.fp x)).trans znv)
  have vX:sh.st x=jE (fu sh.bs (Z1 sh.fp x)) sh.bs (Z1 sh.fp x):=rfl
  rw[<- vX]at k1 k2 k3
  let E:KS:={ O.cut m with st:=sh.st x }
  have hm:m<=O.st.length:=by
   rcases Nat.eq_zero_or_pos m with h0 | h0
   ·omega
   ·obtain⟨hI,B',q1,_⟩:=k3 (m-1) (sh.bs[m-1]'(by show m-1<m; omega)) (qz)
    grind
  have zmX:∀ i hI,O.st[i]? = some hI->i<m->(O.cut m).st[i]? = some hI:=λi hI hB hi=>xv hB hi
  have RF:(O.cut m).st.length=m:=by simp[KS.cut]; omega
  have pair:∀ i,i<m->∃ k hI B',sh.bs[i]? = some k/\(O.cut m).st[i]? = some hI/\E.st[i]? = some B'/\Hj (F8 sh.bs) O.st (fu sh.bs (Z1 sh.fp x)) k hI B':=by
   intro i hi
   obtain⟨hI,B',q1,q2,q3⟩:=k3 i (sh.bs[i]'hi) (qz)
   grind
  have lt:∀ {i:Nat} {hI:cJ},(O.cut m).st[i]? = some hI->i<m:=λhB=>by have:=(Y.1 hB).1; omega
  have lt':∀ {i:Nat} {hI:cJ},E.st[i]? = some hI->i<m:=λhB=>by have:=(Y.1 hB).1; have e:E.st.length=m:=k1; omega
  have hw:Wk (O.cut m) E:=by
   refine⟨rfl,rfl,rfl,by show(sh.st x).length=_; rw[k1,RF],λb d I => ?_,λb v e xs I => ?_,λb v e xs I => ?_,λb I => ?_⟩
   ·obtain⟨k,hI,B',q0,q1,q2,q3⟩:=pair b (lt I)
    rw[I]at q1; cases q1
    cases q3 with
    | var k' _ _ y _ hy=>grind
    | cvar ck _ hy=>grind
    | dead _ hv=>cases hv
   ·obtain⟨k,hI,B',q0,q1,q2,q3⟩:=pair b (lt I)
    rw[I]at q1; cases q1
    cases q3 with
    | arr=>grind
    | dead=>grind
   ·obtain⟨k,hI,B',q0,q1,q2,q3⟩:=pair b (lt' I)
    rw[I]at q2; cases q2
    cases q3 with
    | arr=>exact q1
   ·obtain⟨k,hI,B',q0,q1,q2,q3⟩:=pair b (lt I)
    rw[I]at q1; cases q1
    cases q3 with
    | dead=>exact q2
  have Cr:∀ b,rowAt sh.bs b=true->jy E.st b=ly O.st b/\jy (fu sh.bs (Z1 sh.fp x)) b=ly O.st b/\jy O.st b=ly O.st b :=
   λb I=>⟨(k2 b I).2.1,(k2 b I).1,(k2 b I).2.2⟩
  have zle:∀ b,rowAt sh.bs b=true->jy (O.cut m).st b=jy O.st b:=by
   intro b I
   have hbm:b<m:=by
    unfold rowAt at I
    split at I
    ·rename_i hh; exact(Y.1 hh).1
    ·cases I
   unfold jy
   simp only[KS.cut]
   rw[List.getElem?_take,if_pos hbm]
  have hbm:∀ b,rowAt sh.bs b=true->b<m:=by
   intro b I
   unfold rowAt at I
   split at I
   ·rename_i hh; exact(Y.1 hh).1
   ·cases I
  have RC:∀ b,UJ sh.bs b=true->b<m:=by
   intro b I
   unfold UJ at I
   split at I
   ·rename_i hh; exact(Y.1 hh).1
   ·rename_i hh; exact(Y.1 hh).1
   ·cases I
  have dk:∀ (k:Dk) (y:k.den) (d:D) (v:Value) (qm:St),F8 sh.bs k=true->(∀ b,rowAt sh.bs b=true->jy qm b=ly O.st b)->(QA O.st k d).leads y->RD O d v->RD E (Qy qm k y) v:=by
   intro k y d v qm ho hv hy J
   have hwk:Wk O O:=⟨rfl,rfl,rfl,rfl,λb d h=>⟨d,h⟩,λb v e xs h=>.inl h,λb v e xs h=>h,λb h=>h⟩
   have h0:=Da hwk ho (λ_ _=>rfl) (qm:=O.st) (λ_ _=>rfl) (λb I=>(Cr b I).2.2) hy J
   have zmV:fJ m (Qy O.st k y)=true:=by
    cases k with
    | sub b e=>exact KY (hbm b ho)
    | wh f caps =>
     have:∀ (l:List UO) (z:fO l),(ZR l z).all (yc m)=true:=by
      intro l
      induction l with
      | nil=>intro z; rfl
      | cons p r ih =>
       intro z
       have hp:∀ w:AM.den p.ty,yc m (Bc p w)=true:=λw=>by cases p<;>rfl
       cases r with
       | nil=>simp only[ZR,zF,List.all_nil,Bool.and_true]; exact hp z
       | cons q r=>simp only[ZR,zF,X]; exact⟨hp z.1,by simpa using ih z.2⟩
     exact this caps y
    | st ks=>exact zP.2 (bX hbm RC ks y ho)
    | mclo f ms=>exact zP.2 (oJ RC ms y ho)
    | _=>rfl
   have h1:=hw.rd (Lu h0 zmV)
   have he:Qy O.st k y=Qy qm k y:=by
    cases k with
    | sub b e=>simp only[Qy]; rw[hv b ho,(Cr b ho).2.2]
    | st ks=>simp only[Qy]; rw[Z2 (λb I=>(Cr b I).2.2.trans (hv b I).symm) ks y ho]
    | _=>rfl
   rwa [he]at h1
  have ck:∀ (q:Ck) (d:D) (v:Value) (qm:St),Sw sh.bs q=true->(∀ b,rowAt sh.bs b=true->jy qm b=ly O.st b)->(UE O.st q d).leads ()->EZ qm q=d/\(RD O d v->RD E d v):=by
   intro q d v qm ho hv hy
   have he:=z8R ho hv hy
   refine⟨he,λJ=>hw.rd (Lu J ?_)⟩
   rw[<- he]
   cases q with
   | ptr b off=>exact KY (RC b ho)
   | cur b e=>exact KY (hbm b ho)
   | wE=>rfl
   | gU=>rfl
   | v8=>rfl
   | uT=>rfl
   | yL b=>exact KY (RC b ho)
   | wh f l =>
    simp only[Sw,zP]at ho
    simp only[EZ,fJ,zP,List.mem_map]
    rintro _ ⟨p,hp,rfl⟩
    exact KY (RC p.1 (ho p hp))
  have hI':Inv E:=by
   refine hw.inv hIc λb d' I => ?_
   obtain⟨k,hI,B',q0,q1,q2,q3⟩:=pair b (lt' I)
   rw[I]at q2
   cases q2
   cases q3 with
   | var kk k' d y hp hy =>
    refine kT.elim (hIc.blk b _ q1:kT _ _ _) (λKa eA => ?_) λl e zg1 => ?_
    rotate_left
    ·subst e
     cases kk with
     | mp=>cases hy; obtain⟨blk,o,e1,e2⟩:=zg1; exact⟨blk,o,e1,e2⟩
     | qj τ=>simp[QA,ox]at hy; exact hy.elim
     | vA τ=>exact hy.elim
     | sub b e=>exact hy.elim
     | wh f caps=>exact hy.elim
     | st ks=>exact hy.elim
     | mclo f ms=>exact hy.elim
     | sr e=>exact hy.elim
     | tight e=>exact hy.elim
    obtain⟨blk,n',cs,t,e1,e2,e3,e4,e5⟩:=eA
    cases kk with
    | qj τ =>
     have hco:ox τ d=some y:=T.yu.1 hy
     have ht:d.bz=false:=by
      cases d with
      | eD l=>simp[ox,D.bz]at hco
      | _=>rfl
     have Ds:=Xo hco e4 e5.1 ht
     exact kT.mk (O:=E) (b:=b) (d:=.qj τ y) rfl ⟨blk,n',cs,t,e1,e2,e3,(X0 Ds).mono hw.ext,rj τ y,nofun⟩
    | vA τ =>
     cases d<;>simp only[QA]at hy<;>try (exact hy.elim)
     obtain⟨e,hyy⟩:=wg (T.yu.1 hy)
     cases e
     cases hyy
     exact kT.mk (O:=E) (b:=b) (d:=.vA τ _) rfl ⟨blk,n',cs,t,e1,e2,e3,e4.mono hw.ext,e5.1,nofun⟩
    | st ks =>
     simp only[QA]at hy
     cases ha:d.cE with
     | false=>rw[ha]at hy; exact hy.elim
     | true =>
      rw[ha]at hy
      replace hy:(om O.st ks (xx d)).leads y:=hy
      have zrx:b<m:=lt' I
      have SY:O.st[b]? = some (.var d):=(l8 q1).1
      obtain⟨zlO,n2,cs2,t2,f1,f2,f3,f4,f5⟩:=(B.blk b _ SY:kT O b d).cells Ka
      have hp1:=(l8 e1).1
      rw[f1]at hp1
      cases hp1
      have e2':=e2
      rw[show(O.cut m).w=O.w from rfl,f2]at e2
      cases e2
      obtain⟨g1,g2⟩:=mq (O:=O) (qm:=fu sh.bs (Z1 sh.fp x)) (bs:=sh.bs) (λb I=>(Cr b I).2.1) ks (xx d) y _ hp.2 hy f4
      refine kT.mk (O:=E) (b:=b) (d:=.agg (jf (fu sh.bs (Z1 sh.fp x)) ks y)) rfl ⟨blk,n',cs,t,e1,e2',e3,(Pe g1 λz hz => ?_).mono hw.ext,g2,λT hT => ?_⟩
      rotate_left
      ·exact f5.2 T (JX ha (JI ks (xx d) y hy hT))
      have:=bX (m:=m) hbm RC ks y hp.2 z hz
      cases z<;>first | exact this | cases this
    | mp=>cases d<;>first | exact hy.elim | cases Ka
    | _=>cases hp.1
   | cvar q d hy =>
    have hoq:Sw sh.bs q=true:=hbs _ (List.mem_of_getElem? q0)
    obtain⟨g,_⟩:=ck q d undef (fu sh.bs (Z1 sh.fp x)) hoq (λb I=>(Cr b I).2.1) hy
    rw[g]
    refine kT.elim (hIc.blk b _ q1:kT _ _ _) (λKa ⟨blk,n',cs,t,e1,e2,e3,e4,e5⟩=>.mk Ka ⟨blk,n',cs,t,e1,e2,e3,e4.mono hw.ext,e5⟩) λl e ⟨blk,o,e1,e2⟩ => ?_
    subst e
    exact⟨blk,o,e1,e2⟩
  refine⟨E,rfl,rfl,hI',?_,⟨hR.size,hR.defers,λs d J => ?_⟩,λd v hr J=>hw.rd (z8C J hr)⟩
  ·have wM:κ0.st.length<=m:=R
   have c1:=TP N wM
   exact c1.trans hw.ext
  ·rcases get_append (l:=nh (sh.st x) sh.fp x) (m:=z84 (sh.st x) sh.cs) J with hp | hp0
   ·obtain⟨k,y,d0,q0,q1,q2,q3⟩:=g2 _ hp
    cases q3
    obtain⟨v,r1,r2⟩:=hR.get _ _ q1
    exact⟨v,r1,dk k y d0 v (sh.st x) (zfS _ q0) (λb I=>(Cr b I).1) q2 r2⟩
   ·have GY:=get_mem hp0
    unfold z84 at GY
    obtain⟨p,hp,he⟩:=List.mem_map.1 GY
    cases he
    obtain⟨d0,q1,q2⟩:=Fz h1 p hp
    obtain⟨v,r1,r2⟩:=hR.get _ _ q1
    obtain⟨g,gg⟩:=ck p.2 d0 v (sh.st x) (QB p hp) (λb I=>(Cr b I).1) q2
    rw[g]
    exact⟨v,r1,gg r2⟩
end
end Go.AM
namespace Go.AM
set_option linter.unusedSectionVars false
variable [yY] [Hk]
open Go.RowKit
inductive Gh where
 | slot (s:Nat) (e:Ty) | cell (b i:Nat) (e:Ty) | pcell (s i:Nat) (e:Ty)
def Kz(st:St)(b i:Nat):Option (List D):=match st[b]? with
 | some (.var d)=>bif d.cE then match(xx d)[i]? with | some .wE=>some (xx d) | _=>none else none
 | _=>none
def gh:List Gh->Fr->St->Fr×St
 | [],fr,st=>(fr,st)
 | .slot s e::r,fr,st=>match fr.get s with
  | some .wE=>bif zO 0 e.size then gh r ((s,some (.ms st.length 0 e 0 0))::fr) (st++[.arr 0 e []])else gh r fr st
  | _=>gh r fr st
 | .cell b i e::r,fr,st=>match Kz st b i with
  | some l=>bif zO 0 e.size then gh r fr ((st++[cJ.arr 0 e []]).set b (.var (.agg (l.set i (.ms st.length 0 e 0 0)))))else gh r fr st
  | none=>gh r fr st
 | .pcell t i e::r,fr,st=>match fr.get t with
  | some (.ptr b _)=>match Kz st b i with
   | some l=>bif zO 0 e.size then gh r fr ((st++[cJ.arr 0 e []]).set b (.var (.agg (l.set i (.ms st.length 0 e 0 0)))))else gh r fr st
   | none=>gh r fr st
  | _=>gh r fr st
section
variable {c:Ctx} {O:KS}
def KS.yM(O:KS)(e:Ty):KS:={ O with ph:=O.ph++[none],st:=O.st++[.arr 0 e []] }
theorem rN(B:Inv O)(e:Ty):Ext O (O.yM e):=by
 have vX:∀ b y,O.st[b]? = some y->(O.st++[.arr 0 e []])[b]? = some y:=λb y h=>by rw[zK (Y.1 h).1]; exact h
 have GG:∀ b y,O.st[b]? = some y->(O.ph++[none])[b]? = O.ph[b]? := λb y h=>by
  rw[zK]; rw[B.len]; exact(Y.1 h).1
 refine⟨rfl,rfl,rfl,zJ _,λk hk=>⟨hk,rfl⟩,λk hk=>.inl hk,?_,λb d h=>⟨⟨d,vX b _ h⟩,GG b _ h⟩,
  λb v0 e xs h=>.inr ⟨v0,xs,vX b _ h,zJ _,λ_=>⟨GG b _ h,rfl⟩⟩,λb h=>vX b _ h,by simp[KS.yM],λk hk _=>rfl⟩
 intro b blk m h
 simp only[KS.yM]at h
 grind
theorem Vc(B:Inv O){e:Ty}(he:0<e.size):Inv (O.yM e):=by
 have hold:∀ (b blk m:Nat),(O.ph++[none])[b]? = some (some (blk,m))->O.ph[b]? = some (some (blk,m)):=by
  grind
 refine⟨by simp[KS.yM,B.len],B.bJ,λb blk m h=>B.apart b blk m (hold b blk m h),λb b' blk m m' h h'=>B.inj b b' blk m m' (hold _ _ _ h) (hold _ _ _ h'),?_,B.gl⟩
 intro b y hy
 simp only[KS.yM]at hy
 by_cases I:b<O.st.length
 ·rw[zK I]at hy
  exact(B.blk b y hy).mono (rN B e) (by show(O.ph++[none])[b]? = O.ph[b]?; rw[zK (by rw[B.len]; exact I)]) λblk n h=>rfl
 ·have K9:=(Y.1 hy).1
  simp at K9
  have:b=O.st.length:=Z
  subst this
  simp at hy
  subst hy
  exact⟨he,.inl ⟨rfl,by simp[KS.yM,<- B.len]⟩⟩
theorem LR{l:List D}{i b v len off:Nat}{e:Ty}{tt:Nat}(h:(D.agg (l.set i (.ms b v e off len))).typed=some tt):l9 l=some tt:=by
 cases l with
 | nil=>exact h
 | cons x r=>cases i with
  | zero=>cases h
  | succ i=>cases x<;>exact h
theorem z8E{O κ2:KS}{l:List D}{vs:List Value}{i:Nat}{d':D}(h:wN O l vs)(hw:∀ d v,RD O d v->RD κ2 d v)(hi:∀ v,vs[i]? = some v->RD κ2 d' v):wN κ2 (l.set i d') vs:=by
 refine⟨by rw[List.length_set]; exact h.1,λk h1 M => ?_⟩
 rw[List.getElem_set]
 split
 ·grind
 ·exact hw _ _ (h.2 k (xy) M)
theorem Mw(B:Inv O){e:Ty}(he:0<e.size){b i:Nat}{l:List D}(h:Kz O.st b i=some l) :
  ∃ E:KS,E.w=O.w/\E.st=(O.st++[cJ.arr 0 e []]).set b (.var (.agg (l.set i (.ms O.st.length 0 e 0 0))))/\Inv E/\Ext O E:=by
 unfold Kz at h
 split at h
 ·rename_i d J
  cases ha:d.cE with
  | false=>grind
  | true =>
   rw[ha,cond_true]at h
   split at h
   ·rename_i hi
    cases h
    have N:=rN B e
    have Vv:=Vc B he
    have zrw:b<O.st.length:=(Y.1 J).1
    let κ2:KS:={ O.yM e with st:=(O.yM e).st.set b (.var (.agg ((xx d).set i (.ms O.st.length 0 e 0 0)))) }
    have FR:(O.yM e).st[b]? = some (.var d):=by
     show(O.st++[_])[b]? = _
     grind
    have kf:∀ j,j≠b->κ2.st[j]? = (O.yM e).st[j]? := λj hj=>by
     grind
    have zgk:κ2.st[b]? = some (.var (.agg ((xx d).set i (.ms O.st.length 0 e 0 0)))):=by
     grind
    have hw:Wk (O.yM e) κ2:=by
     refine⟨rfl,rfl,rfl,by simp[κ2],λj d' hj => ?_,λj v e' xs hj => ?_,λj v e' xs hj => ?_,λj hj => ?_⟩
     ·grind
     ·grind
     ·grind
     ·by_cases c:j=b
      ·subst c; rw[FR]at hj; cases hj
      ·rw[kf j c]; exact hj
    have GZ:κ2.st[O.st.length]? = some (.arr 0 e []):=by
     rw[kf _ (Z)]
     simp[KS.yM]
    have hI2:Inv κ2:=by
     refine hw.inv Vv λj d' hj => ?_
     by_cases c:j=b
     ·subst c
      rw[zgk]at hj
      cases hj
      obtain⟨blk,m,cs,t,q1,q2,q3,q4,q5⟩:=(Vv.blk j _ FR:kT _ _ _).cells (by cases d<;>first | rfl | cases ha)
      refine kT.mk (O:=κ2) (b:=j) (d:=.agg ((xx d).set i (.ms O.st.length 0 e 0 0))) rfl ⟨blk,m,cs,t,q1,q2,q3,z8E q4 (λ_ _ h=>hw.rd h) λv hv => ?_,λx hxm => ?_,λT hT => ?_⟩
      ·obtain⟨v',h1,M⟩:=q4.get hi
       rw[hv]at h1
       cases h1
       cases M
       refine .ms O.st.length 0 e 0 0 0 none (.inr ⟨0,e,[],GZ,zJ _⟩) (zJ _) (λ_=>rfl) nofun λxs Yj => ?_
       rw[GZ]at Yj
       cases Yj
       exact⟨zJ _,.inl ⟨rfl,rfl,rfl,by show(O.ph++[none])[O.st.length]? = _; simp[<- B.len]⟩⟩
      ·rcases List.mem_or_eq_of_mem_set (show x∈(xx d).set i (.ms O.st.length 0 e 0 0)from hxm)with h' | h'
       ·exact q5.1 x h'
       ·subst h'; rfl
      ·exact q5.2 T (JX ha (LR hT))
     ·rw[kf j c]at hj
      exact(Vv.blk j _ hj).mono hw.ext rfl λ_ _ _=>rfl
    exact⟨κ2,rfl,rfl,hI2,N.trans hw.ext⟩
   ·cases h
 ·cases h
theorem sK{n:Nat}{a:Act}:∀ (l:List Gh) (fr:Fr) (O:KS),Inv O->Rel O n fr.get a->∃ E:KS,E.w=O.w/\E.st=(gh l fr O.st).2/\Inv E/\Ext O E/\Rel E n (gh l fr O.st).1.get a
 | [],fr,O,B,hR=>⟨O,rfl,rfl,B,Ext.refl O,hR⟩
 | .slot s e::r,fr,O,B,hR=>by
  unfold gh
  split
  ·rename_i hs
   cases he:zO 0 e.size with
   | false=>rw[cond_false]; exact sK r fr O B hR
   | true =>
    rw[cond_true]
    have IN:0<e.size:=zE he
    have N:=rN B e
    have hR':Rel (O.yM e) n (Fr.get ((s,some (.ms O.st.length 0 e 0 0))::fr)) a:=by
     refine⟨hR.size,hR.defers,λt d J => ?_⟩
     simp only[Fr.get]at J
     cases ht:V s t with
     | true =>
      rw[ht,cond_true]at J
      cases J
      have:=zA ht
      subst this
      obtain⟨v,h1,M⟩:=hR.get s _ hs
      cases M
      have GZ:(O.yM e).st[O.st.length]? = some (.arr 0 e []):=by simp[KS.yM]
      refine⟨_,h1,.ms O.st.length 0 e 0 0 0 none (.inr ⟨0,e,[],GZ,zJ _⟩) (zJ _) (λ_=>rfl) nofun λxs Yj => ?_⟩
      rw[GZ]at Yj
      cases Yj
      exact⟨zJ _,.inl ⟨rfl,rfl,rfl,by simp[KS.yM,<- B.len]⟩⟩
     | false =>
      rw[ht,cond_false]at J
      obtain⟨v,h1,M⟩:=hR.get t d J
      exact⟨v,h1,M.mono N⟩
    obtain⟨E,h1,M,h3,h4,h5⟩:=sK r _ (O.yM e) (Vc B IN) hR'
    exact⟨E,h1,M,h3,N.trans h4,h5⟩
  ·exact sK r fr O B hR
 | .cell b i e::r,fr,O,B,hR=>by
  unfold gh
  split
  ·rename_i l R
   cases he:zO 0 e.size with
   | false=>rw[cond_false]; exact sK r fr O B hR
   | true =>
    rw[cond_true]
    have IN:0<e.size:=zE he
    obtain⟨κ1,g1,g2,g3,g4⟩:=Mw B IN R
    obtain⟨E,h1,M,h3,h4,h5⟩:=sK r fr κ1 g3 ⟨hR.size,hR.defers,λt d J=>by
     obtain⟨v,q1,q2⟩:=hR.get t d J
     exact⟨v,q1,q2.mono g4⟩⟩
    rw[g2]at M h5
    exact⟨E,h1.trans g1,M,h3,g4.trans h4,h5⟩
  ·exact sK r fr O B hR
 | .pcell t i e::r,fr,O,B,hR=>by
  unfold gh
  split
  ·rename_i b off I
   split
   ·rename_i l R
    cases he:zO 0 e.size with
    | false=>rw[cond_false]; exact sK r fr O B hR
    | true =>
     have IN:0<e.size:=zE he
     obtain⟨κ1,g1,g2,g3,g4⟩:=Mw B IN R
     obtain⟨E,h1,M,h3,h4,h5⟩:=sK r fr κ1 g3 ⟨hR.size,hR.defers,λt d J=>by
      obtain⟨v,q1,q2⟩:=hR.get t d J
      exact⟨v,q1,q2.mono g4⟩⟩
     rw[g2]at M h5
     exact⟨E,h1.trans g1,M,h3,g4.trans h4,h5⟩
   ·exact sK r fr O B hR
  ·exact sK r fr O B hR
end
end Go.AM
namespace Go.AM
def Q7(f:Nat->Option Nat)(d:D):Option D:=match d with
 | .ptr b off=>match f b with | some b'=>some (.ptr b' off) | none=>none
 | .ed b T=>match f b with | some b'=>some (.ed b' T) | none=>none
 | .yL b=>match f b with | some b'=>some (.yL b') | none=>none
 | .gG b v e i off=>match f b with | some b'=>some (.gG b' v e i off) | none=>none
 | .ms b v e off len=>match f b with | some b'=>some (.ms b' v e off len) | none=>none
 | .wh _ _=>none
 | .agg _=>none
 | .eD _=>none
 | .iface _ _=>none
 | d=>some d
def Fk(f:Nat->Option Nat):List D->Option (List D)
 | []=>some []
 | d::r=>match Q7 f d with
  | some d'=>match Fk f r with | some r'=>some (d'::r') | none=>none
  | none=>none
def rS(f:Nat->Option Nat)(d:D):Option D:=match d with
 | .wh g l=>match Fk f l with | some l'=>some (.wh g l') | none=>none
 | .agg l=>match Fk f l with | some l'=>some (.agg l') | none=>none
 | d=>Q7 f d
def Xp(f:Nat->Option Nat):List D->Option (List D)
 | []=>some []
 | d::r=>match rS f d with
  | some d'=>match Xp f r with | some r'=>some (d'::r') | none=>none
  | none=>none
def Vi(f:Nat->Option Nat):cJ->Option cJ
 | .var d=>match rS f d with | some d'=>some (.var d') | none=>none
 | .arr v e xs=>some (.arr v e xs)
 | .dead=>some .dead
def oj(f:Nat->Option Nat):List cJ->Option (List cJ)
 | []=>some []
 | b::r=>match Vi f b with
  | some b'=>match oj f r with | some r'=>some (b'::r') | none=>none
  | none=>none
def WB(f:Nat->Option Nat):Fr->Fr
 | []=>[]
 | (s,some d)::r=>(s,rS f d)::WB f r
 | (s,none)::r=>(s,none)::WB f r
structure Tr(O E:KS)(f:Nat->Option Nat):Prop where
 w:E.w=O.w
 ok:E.ok=O.ok
 var:∀ (b b':Nat) (d:D),f b=some b'->O.st[b]? = some (.var d)->(∃ d',E.st[b']? = some (.var d'))/\E.ph[b']? = O.ph[b]?
 old:∀ (b b' vi:Nat),f b=some b'->Old O.st b vi->Old E.st b' vi
 row:∀ (b b' v:Nat) (e:Ty) (xs:List (den e)),f b=some b'->E.st[b']? = some (.arr v e xs)->O.st[b]? = some (.arr v e xs)/\E.ph[b']? = O.ph[b]?
section
variable {O E:KS} {f:Nat->Option Nat}
theorem Tr.same(h:Tr O E f):I3 O.w E.w O.ok E.ok:=λk hk=>⟨by rw[h.ok]; exact hk,by rw[h.w]⟩
theorem Tr.rd1(h:Tr O E f){d d':D}{v:Value}(J:RD O d v)(hr:Q7 f d=some d'):RD E d' v:=by
 cases J with
 | qj τ y cs hc=>cases hr; exact .qj τ y cs (hc.mono h.same)
 | sr e l b v hc ht hf=>cases hr; exact .sr e l b v (hc.mono h.same) ht hf
 | vz e a=>cases hr; exact .vz e a
 | tight e l ne blk off g kf j3 hh hc=>cases hr; exact .tight e l ne blk off g kf (h.same _ j3).1 (λi hi=>(hh i hi).mono h.same) λi hi j v hv=>by rw[lK (h.same _ j3).2]; exact hc i hi j v hv
 | wE=>cases hr; exact .wE
 | gU=>cases hr; exact .gU
 | v8=>cases hr; exact .v8
 | gj=>cases hr; exact .gj
 | uT=>cases hr; exact .uT
 | WH v h=>cases hr; exact .WH v h
 | mP T=>cases hr; exact .mP T
 | nn b T d I =>
  simp only[Q7]at hr
  split at hr
  ·rename_i b' hf
   cases hr
   obtain⟨⟨d',h1⟩,M⟩:=h.var b b' d hf I
   exact .nn b' T d' h1
  ·cases hr
 | yL b blk n d I hp =>
  simp only[Q7]at hr
  split at hr
  ·rename_i b' hf
   cases hr
   obtain⟨⟨d',h1⟩,M⟩:=h.var b b' d hf I
   exact .yL b' blk n d' h1 (M.trans hp)
  ·cases hr
 | np b T blk n d I hp =>
  simp only[Q7]at hr
  split at hr
  ·rename_i b' hf
   cases hr
   obtain⟨⟨d',h1⟩,M⟩:=h.var b b' d hf I
   exact .np b' T blk n d' h1 (M.trans hp)
  ·cases hr
 | ptr b off blk n d I hp =>
  simp only[Q7]at hr
  split at hr
  ·rename_i b' hf
   cases hr
   obtain⟨⟨d',h1⟩,M⟩:=h.var b b' d hf I
   exact .ptr b' off blk n d' h1 (M.trans hp)
  ·cases hr
 | vA τ y cs blk off j3 hh hc=>cases hr; exact .vA τ y cs blk off (h.same _ j3).1 (hh.mono h.same) λj v hv=>by rw[lK (h.same _ j3).2]; exact hc j v hv
 | gG b vi e idx off blk o I hh =>
  simp only[Q7]at hr
  split at hr
  ·rename_i b' hf
   cases hr
   refine .gG b' vi e idx off blk o (h.old b b' vi hf I) λxs N hi => ?_
   obtain⟨h1,M⟩:=h.row b b' vi e xs hf N
   grind
  ·cases hr
 | ms b vi e off len cap a I jg ha Ws hh =>
  simp only[Q7]at hr
  split at hr
  ·rename_i b' hf
   cases hr
   refine .ms b' vi e off len cap a (h.old b b' vi hf I) jg ha Ws λxs N => ?_
   obtain⟨h1,M⟩:=h.row b b' vi e xs hf N
   have:=hh xs h1
   unfold Mf at this ⊢
   grind
  ·cases hr
 | wh g l vs R hh=>cases hr
 | agg l vs R ho hh=>cases hr
 | eD l vs R hh=>cases hr
 | iface t d v hh=>cases hr
theorem z2N{d d':D}(h:Q7 f d=some d'):d'.one=d.one:=by
 cases d<;>simp only[Q7]at h<;>first | (cases h; rfl) | (split at h<;>cases h; rfl) | cases h
theorem Tr.rdL(h:Tr O E f):∀ {l l':List D} {vs:List Value},wN O l vs->Fk f l=some l'->wN E l' vs
 | [],l',vs,J,hr=>by cases hr; rw[J.wb]; exact .nil
 | d::r,l',vs,J,hr=>by
  simp only[Fk]at hr
  split at hr
  ·rename_i d' h1
   split at hr
   ·rename_i r' M
    cases hr
    obtain⟨v,us,rfl,g1,g2⟩:=J.cons_inv
    exact .cons (h.rd1 g1 h1) (h.rdL g2 M)
   ·cases hr
  ·cases hr
theorem Ga:∀ {l l':List D},Fk f l=some l'->(∀ d∈l,d.one=true)->∀ d∈l',d.one=true
 | [],l',hr,_=>by cases hr; nofun
 | d::r,l',hr,ho=>by
  simp only[Fk]at hr
  split at hr
  ·rename_i d' h1
   split at hr
   ·rename_i r' M
    cases hr
    intro x N
    rcases zH.1 N with rfl | N
    ·rw[z2N h1]; exact ho d zQ
    ·exact Ga M (λy hy=>ho y (zI _ hy)) x N
   ·cases hr
  ·cases hr
theorem Tr.rd(h:Tr O E f){d d':D}{v:Value}(J:RD O d v)(hr:rS f d=some d'):RD E d' v:=by
 cases d with
 | wh g l =>
  simp only[rS]at hr
  split at hr
  ·rename_i l' R
   cases hr
   cases J with
   | wh _ _ vs h1 M=>have:=h.rdL (⟨h1,M⟩:wN O l vs) R; exact .wh g l' vs this.1 this.2
  ·cases hr
 | agg l =>
  simp only[rS]at hr
  split at hr
  ·rename_i l' R
   cases hr
   cases J with
   | agg _ vs h1 ho M=>have:=h.rdL (⟨h1,M⟩:wN O l vs) R; exact .agg l' vs this.1 (Ga R ho) this.2
  ·cases hr
 | _=>exact h.rd1 J hr
theorem Tr.rds(h:Tr O E f):∀ {l l':List D} {vs:List Value},wN O l vs->Xp f l=some l'->wN E l' vs
 | [],l',vs,J,hr=>by cases hr; rw[J.wb]; exact .nil
 | d::r,l',vs,J,hr=>by
  simp only[Xp]at hr
  split at hr
  ·rename_i d' h1
   split at hr
   ·rename_i r' M
    cases hr
    obtain⟨v,us,rfl,g1,g2⟩:=J.cons_inv
    exact .cons (h.rd g1 h1) (h.rds g2 M)
   ·cases hr
  ·cases hr
theorem Tr.flat(h:Tr O E f){d d':D}{vs:List Value}(J:wN O (xx d) vs)(ho:∀ x∈xx d,x.one=true)(hr:rS f d=some d'):wN E (xx d') vs/\∀ x∈xx d',x.one=true:=by
 have qj:∀ (τ:Ty) (x:den τ) (vs:List Value),wN O (Go.AM.flat τ x) vs->wN E (Go.AM.flat τ x) vs:=by
  intro τ x vs hh
  refine⟨hh.1,λi h1 M => ?_⟩
  have hm:=List.getElem_mem h1
  have:∃ σ z,(Go.AM.flat τ x)[i]=.qj σ z:=by
   generalize (Go.AM.flat τ x)[i]=y at hm
   clear hh h1 M
   induction τ with
   | cons a b ia ib =>
    simp only[Go.AM.flat,zN]at hm
    grind
   | nil=>simp[Go.AM.flat]at hm
   | expr=>simp[Go.AM.flat]at hm; rcases hm with rfl | rfl | rfl | rfl | rfl | rfl<;>exact⟨_,_,rfl⟩
   | _=>simp[Go.AM.flat]at hm; subst hm; exact⟨_,_,rfl⟩
  obtain⟨σ,z,e⟩:=this
  have h3:=hh.2 i h1 M
  rw[e]at h3 ⊢
  exact h.rd1 h3 rfl
 cases d with
 | qj τ x=>cases hr; exact⟨qj τ x vs J,ho⟩
 | agg l =>
  simp only[rS]at hr
  split at hr
  ·rename_i l' R
   cases hr
   exact⟨h.rdL J R,Ga R ho⟩
  ·cases hr
 | eD l=>cases hr
 | wh g l =>
  obtain⟨v,r,rfl,h1,M⟩:=wN.cons_inv (show wN O [.wh g l] vs from J)
  rw[M.wb]
  have Dq:=hr
  simp only[rS]at hr
  split at hr
  ·cases hr; exact⟨.cons (h.rd h1 Dq) .nil,λx N=>by simp only[xx,zL]at N; subst N; rfl⟩
  ·cases hr
 | iface t x=>cases hr
 | ptr b off =>
  obtain⟨v,r,rfl,h1,M⟩:=wN.cons_inv (show wN O [.ptr b off] vs from J)
  rw[M.wb]
  have Dq:=hr
  simp only[rS,Q7]at hr
  split at hr
  ·cases hr; exact⟨.cons (h.rd1 h1 Dq) .nil,λx N=>by simp only[xx,zL]at N; subst N; rfl⟩
  ·cases hr
 | yL b =>
  obtain⟨v,r,rfl,h1,M⟩:=wN.cons_inv (show wN O [.yL b] vs from J)
  rw[M.wb]
  have Dq:=hr
  simp only[rS,Q7]at hr
  split at hr
  ·cases hr; exact⟨.cons (h.rd1 h1 Dq) .nil,λx N=>by simp only[xx,zL]at N; subst N; rfl⟩
  ·cases hr
 | ed b T =>
  obtain⟨v,r,rfl,h1,M⟩:=wN.cons_inv (show wN O [.ed b T] vs from J)
  rw[M.wb]
  have Dq:=hr
  simp only[rS,Q7]at hr
  split at hr
  ·cases hr; exact⟨.cons (h.rd1 h1 Dq) .nil,λx N=>by simp only[xx,zL]at N; subst N; rfl⟩
  ·cases hr
 | gG b vi e idx off =>
  obtain⟨v,r,rfl,h1,M⟩:=wN.cons_inv (show wN O [.gG b vi e idx off] vs from J)
  rw[M.wb]
  have Dq:=hr
  simp only[rS,Q7]at hr
  split at hr
  ·cases hr; exact⟨.cons (h.rd1 h1 Dq) .nil,λx N=>by simp only[xx,zL]at N; subst N; rfl⟩
  ·cases hr
 | ms b vi e off len =>
  obtain⟨v,r,rfl,h1,M⟩:=wN.cons_inv (show wN O [.ms b vi e off len] vs from J)
  rw[M.wb]
  have Dq:=hr
  simp only[rS,Q7]at hr
  split at hr
  ·cases hr; exact⟨.cons (h.rd1 h1 Dq) .nil,λx N=>by simp only[xx,zL]at N; subst N; rfl⟩
  ·cases hr
 | Bg l=>cases hr; exact⟨⟨J.1,λi h1=>by cases h1⟩,ho⟩
 | _ =>
  cases hr
  obtain⟨v,r,rfl,h1,M⟩:=wN.cons_inv J
  rw[M.wb]
  exact⟨.cons (h.rd1 h1 rfl) .nil,ho⟩
theorem Ly{f:Nat->Option Nat}{d d':D}{tt:Nat}(h:rS f d=some d')(ht:d'.typed=some tt):d.typed=some tt:=by
 cases d with
 | agg l =>
  simp only[rS]at h
  split at h
  ·rename_i l' R
   cases h
   cases l with
   | nil=>cases R; cases ht
   | cons x r =>
    simp only[Fk]at R
    split at R
    ·rename_i x' N
     split at R
     ·cases R
      cases x<;>simp only[Q7]at N<;>first
       | (cases N; exact ht)
       | (split at N<;>first | (cases N; exact ht) | cases N)
       | cases N
     ·cases R
    ·cases R
  ·cases h
 | wh g l =>
  simp only[rS]at h
  split at h
  ·cases h; cases ht
  ·cases h
 | _ =>
  simp only[rS,Q7]at h
  first
   | (cases h; cases ht)
   | (split at h<;>first | (cases h; cases ht) | cases h)
   | cases h
theorem Tr.blk[Wm](h:Tr O E f){b b':Nat}(hp:E.ph[b']? = O.ph[b]?){y y':cJ}(hy:pD O b y)(hr:Vi f y=some y'):pD E b' y':=by
 cases y with
 | dead=>cases hr; trivial
 | var d =>
  simp only[Vi]at hr
  split at hr
  ·rename_i d' J
   cases hr
   refine kT.elim hy (λhm ⟨blk,n,cs,t,h1,M,h3,h4,h5⟩ => ?_) λl e ⟨blk,o,h1,M⟩ => ?_
   rotate_left
   ·subst e
    cases J
    exact⟨blk,o,hp.trans h1,by rw[h.w]; exact M⟩
   have hm':d'.Yo=false:=by
    cases d<;>simp only[rS,Q7]at J<;>first | (cases hm; done) | (cases J; rfl) | (split at J<;>first | (cases J; rfl) | cases J) | cases J | cases hm
   obtain⟨g1,g2⟩:=h.flat h4 h5.1 J
   exact .mk hm' ⟨blk,n,cs,t,hp.trans h1,by rw[h.w]; exact M,h3,g1,g2,λT hT=>h5.2 T (Ly J hT)⟩
  ·cases hr
 | arr vi e xs =>
  cases hr
  obtain⟨h0,hh⟩:=hy
  refine⟨h0,rP hh (λh=>⟨h.1,hp.trans h.2⟩) ?_⟩
  rintro⟨blk,n,cs,t,h1,M,h3,h4,hr,g,h5⟩
  exact⟨blk,n,cs,t,hp.trans h1,by rw[h.w]; exact M,h3,h4,hr,g,λi hi=>⟨(h5 i hi).1.mono h.same,(h5 i hi).2⟩⟩
theorem Wb{f:Nat->Option Nat}:∀ {fr:Fr} {s:Nat} {d':D},(WB f fr).get s=some d'->∃ d,fr.get s=some d/\rS f d=some d'
 | [],s,d',h=>by cases h
 | (t,some d)::r,s,d',h=>by
  simp only[WB,Fr.get]at h ⊢
  cases ht:V t s with
  | true=>grind
  | false=>rw[ht,cond_false]at h; simp; exact Wb h
 | (t,none)::r,s,d',h=>by
  simp only[WB,Fr.get]at h ⊢
  cases ht:V t s with
  | true=>grind
  | false=>rw[ht,cond_false]at h; simp; exact Wb h
end
def pos:List Nat->Nat->Option Nat
 | [],_=>none
 | b::r,i=>bif V b i then some 0 else match pos r i with | some j=>some (j+1) | none=>none
def cF:List Nat->Bool
 | []=>true
 | b::r=>(match pos r b with | none=>true | some _=>false)&&cF r
theorem sT:∀ {mp:List Nat} {i j:Nat},pos mp i=some j->mp[j]? = some i
 | [],i,j,h=>by cases h
 | b::r,i,j,h=>by
  simp only[pos]at h
  cases I:V b i with
  | true=>rw[I,cond_true]at h; cases h; rw[zA I]; rfl
  | false =>
   rw[I,cond_false]at h
   split at h
   ·rename_i k hk; cases h; simpa using sT hk
   ·cases h
theorem oF:∀ {mp:List Nat} {i j:Nat},cF mp=true->mp[j]? = some i->pos mp i=some j
 | [],i,j,_,h=>by simp at h
 | b::r,i,j,hn,h=>by
  simp only[cF,X]at hn
  cases j with
  | zero=>simp at h; subst h; simp only[pos]; rw[qS]; rfl
  | succ j =>
   have h':r[j]? = some i:=by simpa using h
   have hp:=oF hn.2 h'
   have kf:V b i=false:=by
    cases I:V b i with
    | false=>rfl
    | true =>
     have:=zA I
     grind
   simp only[pos,kf,cond_false,hp]
def iK{α:Type}(l:List α):List Nat->Option (List α)
 | []=>some []
 | b::r=>match l[b]? with
  | some x=>match iK l r with | some y=>some (x::y) | none=>none
  | none=>none
theorem Jk{α:Type}{l:List α}:∀ {mp:List Nat} {r:List α},iK l mp=some r->r.length=mp.length/\∀ (j b:Nat),mp[j]? = some b->r[j]? = l[b]? /\ b<l.length
 | [],r,h=>by cases h; exact⟨rfl,λj b hj=>xy⟩
 | b::mp,r,h=>by
  simp only[iK]at h
  split at h
  ·rename_i x N
   split at h
   ·rename_i y hy
    obtain⟨h1,M⟩:=Jk hy
    grind
   ·cases h
  ·cases h
theorem Jl{f:Nat->Option Nat}:∀ {l r:List cJ},oj f l=some r->r.length=l.length/\∀ (j:Nat) (x:cJ),l[j]? = some x->∃ y,r[j]? = some y/\Vi f x=some y
 | [],r,h=>by cases h; exact⟨rfl,λj x hj=>xy⟩
 | b::l,r,h=>by
  simp only[oj]at h
  split at h
  ·rename_i b' I
   split at h
   ·rename_i r' hr
    obtain⟨h1,M⟩:=Jl hr
    grind
   ·cases h
  ·cases h
def nF{α:Type}(mp:List Nat)(new:List α):Nat->List α->List α
 | _,[]=>[]
 | i,x::r=>(match pos mp i with | some j=>(match new[j]? with | some y=>y | none=>x) | none=>x)::nF mp new (i+1) r
def je{α:Type}(mp:List Nat)(old new:List α):List α:=nF mp new 0 old++new.drop mp.length
theorem gP{α:Type}(mp:List Nat)(new:List α):∀ (l:List α) (i:Nat),(nF mp new i l).length=l.length
 | [],_=>rfl
 | x::r,i=>by simp[nF,gP mp new r (i+1)]
theorem WN{α:Type}(mp:List Nat)(new:List α):∀ (l:List α) (i k:Nat),(nF mp new i l)[k]? = (l[k]?).map λx=>match pos mp (i+k)with | some j=>(match new[j]? with | some y=>y | none=>x) | none=>x
 | [],i,k=>by simp[nF]
 | x::r,i,0=>by simp[nF]
 | x::r,i,k+1=>by
  have:=WN mp new r (i+1) k
  simp only[nF]
  grind
def fwd(mp:List Nat)(n:Nat)(j:Nat):Nat:=match mp[j]? with | some b=>b | none=>n+(j-mp.length)
theorem lI{α:Type}{mp:List Nat}{old new:List α}{i:Nat}(hi:i<old.length)(hp:pos mp i=none):(je mp old new)[i]? = old[i]? := by
 unfold je
 rw[zK (by rw[gP]; exact hi),WN,qD,hp]
 simp
theorem DL{α:Type}{mp:List Nat}{old new:List α}(hn:cF mp=true)(wM:∀ (j b:Nat),mp[j]? = some b->b<old.length)(hlen:mp.length<=new.length){j:Nat}(hj:j<new.length):(je mp old new)[fwd mp old.length j]? = new[j]? := by
 unfold je fwd
 cases hm:mp[j]? with
 | some b =>
  have I:=wM j b hm
  rw[zK (by rw[gP]; exact I),WN,qD,oF hn hm]
  grind
 | none =>
  simp only
  rw[List.getElem?_append_right (by rw[gP]; omega),gP,List.getElem?_drop]
  grind
theorem Ia{α:Type}{mp:List Nat}{old new:List α}(wM:∀ (j b:Nat),mp[j]? = some b->b<old.length)(hlen:mp.length<=new.length){i:Nat}(hi:i<(je mp old new).length) :
  (i<old.length/\pos mp i=none)\/∃ j,j<new.length/\i=fwd mp old.length j:=by
 by_cases h:i<old.length
 ·cases hp:pos mp i with
  | none=>grind
  | some j =>
   have:=sT hp
   have hj:=(Y.1 this).1
   exact .inr ⟨j,Z,by unfold fwd; rw[this]⟩
 ·have R:i<old.length+(new.length-mp.length):=by simpa[je,gP]using hi
  refine .inr ⟨mp.length+(i-old.length),Z,?_⟩
  unfold fwd
  grind
end Go.AM
namespace Go.AM
set_option linter.unusedSectionVars false
variable [yY]
open Go.RowKit
section
variable {O:KS} {mp:List Nat}
theorem D4{dC l:List cJ}{p1:List (Option (Nat×Nat))}(B:Inv O)(hn:cF mp=true)(hp:iK O.ph mp=some p1)(R:iK O.st mp=some l)(hr:oj (pos mp) l=some dC) :
  Inv ⟨O.w,O.ok,p1,dC⟩/\Tr O ⟨O.w,O.ok,p1,dC⟩ (pos mp)/\dC.length=mp.length/\p1.length=mp.length/\∀ (j b:Nat),mp[j]? = some b->p1[j]? = O.ph[b]? /\ ∃ x y:cJ,O.st[b]? = some x/\Vi (pos mp) x=some y/\dC[j]? = some y:=by
 obtain⟨a1,a2⟩:=Jk hp
 obtain⟨b1,b2⟩:=Jk R
 obtain⟨c1,c2⟩:=Jl hr
 have key:∀ (j b:Nat),mp[j]? = some b->p1[j]? = O.ph[b]? /\ ∃ x y:cJ,O.st[b]? = some x/\Vi (pos mp) x=some y/\dC[j]? = some y:=by
  grind
 have at':∀ {j:Nat} {y:cJ},dC[j]? = some y->∃ b,mp[j]? = some b:=λh=>by
  have:=(Y.1 h).1
  exact⟨_,zG (Z)⟩
 have hT:Tr O ⟨O.w,O.ok,p1,dC⟩ (pos mp):=by
  refine⟨rfl,rfl,λb j d hf I => ?_,λb j vi hf ho => ?_,λb j v e xs hf I => ?_⟩
  ·obtain⟨h1,x,y,M,h3,h4⟩:=key j b (sT hf)
   rw[I]at M
   cases M
   simp only[Vi]at h3
   grind
  ·obtain⟨h1,x,y,M,h3,h4⟩:=key j b (sT hf)
   rcases ho with ho | ⟨v0,e0,Vq,ho,hv⟩
   ·rw[ho]at M; cases M; cases h3; exact .inl h4
   ·rw[ho]at M; cases M; cases h3; exact .inr ⟨v0,e0,Vq,h4,hv⟩
  ·obtain⟨h1,x,y,M,h3,h4⟩:=key j b (sT hf)
   rw[show dC[j]? = some (.arr v e xs)from I]at h4
   cases h4
   cases x with
   | dead=>cases h3
   | var d=>simp only[Vi]at h3; split at h3<;>cases h3
   | arr v0 e0 Vq=>cases h3; exact⟨M,h1⟩
 refine⟨⟨by show p1.length=dC.length; omega,B.bJ,λj blk n h => ?_,λj j' blk n n' h h' => ?_,λj y h => ?_,B.gl⟩,hT,Z,a1,key⟩
 ·obtain⟨b,I⟩:∃ b,mp[j]? = some b:=⟨_,zG (by have:j<p1.length:=(Y.1 h).1; omega)⟩
  exact B.apart b blk n ((a2 j b I).1.symm.trans h)
 ·obtain⟨b,I⟩:∃ b,mp[j]? = some b:=⟨_,zG (by have:j<p1.length:=(Y.1 h).1; omega)⟩
  obtain⟨b',K9⟩:∃ b,mp[j']? = some b:=⟨_,zG (by have:j'<p1.length:=(Y.1 h').1; omega)⟩
  have:=B.inj b b' blk n n' ((a2 j b I).1.symm.trans h) ((a2 j' b' K9).1.symm.trans h')
  subst this
  exact Option.some.inj ((oF hn I).symm.trans (oF hn K9))
 ·obtain⟨b,I⟩:=at' h
  obtain⟨h1,x,y',M,h3,h4⟩:=key j b I
  rw[show dC[j]? = some y from h]at h4
  cases h4
  exact hT.blk h1 (B.blk b x M) h3
theorem Kj{κ1:KS}{dC yZ l:List cJ}{p1:List (Option (Nat×Nat))}(B:Inv O)(hn:cF mp=true)(hp:iK O.ph mp=some p1)(R:iK O.st mp=some l)(hr:oj (pos mp) l=some dC)
  (Vv:Inv κ1) (N:Ext ⟨O.w,O.ok,p1,dC⟩ κ1) (hr2:oj (λj=>some (fwd mp O.st.length j)) κ1.st=some yZ) :
  ∃ E:KS,E.w=κ1.w/\E.st=je mp O.st yZ/\Inv E/\Ext O E/\Tr κ1 E (λj=>some (fwd mp O.st.length j)):=by
 obtain⟨hIs,hTs,s1,s2,key⟩:=D4 B hn hp R hr
 obtain⟨r1,r2⟩:=Jl hr2
 have wM:∀ (j b:Nat),mp[j]? = some b->b<O.st.length:=λj b hj=>by obtain⟨_,x,_,h,_⟩:=key j b hj; exact(Y.1 h).1
 have zne:∀ (j b:Nat),mp[j]? = some b->b<O.ph.length:=λj b hj=>by rw[B.len]; exact wM j b hj
 have hm1:mp.length<=κ1.st.length:=by have:=N.Ft; simp only at this; omega
 have hm2:mp.length<=yZ.length:=Z
 have Ka:mp.length<=κ1.ph.length:=by rw[Vv.len]; exact hm1
 let fw:=fwd mp O.st.length
 have hlen:(je mp O.ph κ1.ph).length=(je mp O.st yZ).length:=by simp[je,gP,B.len,Vv.len,r1]
 -- what lies where
 have cst:∀ {j:Nat} {x:cJ},κ1.st[j]? = some x->∃ y,(je mp O.st yZ)[fw j]? = some y/\Vi (λj=>some (fw j)) x=some y:=by
  intro j x hj
  obtain⟨y,h1,M⟩:=r2 j x hj
  exact⟨y,by rw[DL hn wM hm2 (by rw[r1]; exact(Y.1 hj).1)]; exact h1,M⟩
 have cph:∀ {j:Nat},j<κ1.st.length->(je mp O.ph κ1.ph)[fw j]? = κ1.ph[j]? := by
  intro j hj
  have:=DL (old:=O.ph) (new:=κ1.ph) hn zne Ka (j:=j) (by rw[Vv.len]; exact hj)
  rw[B.len]at this
  exact this
 have ust:∀ {i:Nat},i<O.st.length->pos mp i=none->(je mp O.st yZ)[i]? = O.st[i]? := λhi h=>lI hi h
 have uph:∀ {i:Nat},i<O.st.length->pos mp i=none->(je mp O.ph κ1.ph)[i]? = O.ph[i]? := λhi h=>lI (by rw[B.len]; exact hi) h
 have UR:∀ {i:Nat},i<(je mp O.st yZ).length->(i<O.st.length/\pos mp i=none)\/∃ j,j<κ1.st.length/\i=fw j:=by
  intro i hi
  rcases Ia wM hm2 hi with h | ⟨j,h1,M⟩
  ·grind
  ·grind
 have Rv:∀ {j b:Nat},mp[j]? = some b->fw j=b:=λh=>by simp only[fw,fwd,h]
 have zqQ:∀ {j:Nat},mp[j]? = none->O.st.length<=fw j:=λh=>by simp only[fw,fwd,h]; omega
 -- the part's own blocks
 have sph:∀ {j:Nat} {q:Nat×Nat},p1[j]? = some (some q)->∃ b,mp[j]? = some b/\O.ph[b]? = some (some q):=by
  intro j q h
  have hj:=(Y.1 h).1
  obtain⟨b,I⟩:∃ b,mp[j]? = some b:=⟨_,zG (Z)⟩
  grind
 have hT:Tr κ1 ⟨κ1.w,κ1.ok,je mp O.ph κ1.ph,je mp O.st yZ⟩ (λj=>some (fw j)):=by
  refine⟨rfl,rfl,λj b d hf hj => ?_,λj b vi hf ho => ?_,λj b v e xs hf I => ?_⟩
  ·cases hf
   obtain⟨y,h1,M⟩:=cst hj
   simp only[Vi]at M
   grind
  ·cases hf
   rcases ho with ho | ⟨v0,e0,Vq,ho,hv⟩
   ·obtain⟨y,h1,M⟩:=cst ho; cases M; exact .inl h1
   ·obtain⟨y,h1,M⟩:=cst ho; cases M; exact .inr ⟨v0,e0,Vq,h1,hv⟩
  ·cases hf
   have I:(je mp O.st yZ)[fw j]? = some (.arr v e xs):=I
   have JD:=(Y.1 I).1
   have hj:j<κ1.st.length:=by
    by_cases hj:j<κ1.st.length
    ·exact hj
    ·exfalso
     cases hm:mp[j]? with
     | some c=>have:=(Y.1 hm).1; omega
     | none =>
      have h3:fw j=O.st.length+(j-mp.length):=by simp only[fw,fwd,hm]
      have h4:(je mp O.st yZ).length=O.st.length+(yZ.length-mp.length):=by simp[je,gP]
      omega
   obtain⟨y,h1,M⟩:=cst (zG hj)
   rw[I]at h1
   cases h1
   refine⟨?_,cph hj⟩
   rw[zG hj]
   generalize κ1.st[j]=x at M
   cases x with
   | dead=>cases M
   | var d=>simp only[Vi]at M; split at M<;>cases M
   | arr v0 e0 Vq=>cases M; rfl
 -- BH blocks lie as they lay
 have BH:∀ {i blk n:Nat},pos mp i=none->O.ph[i]? = some (some (blk,n))->κ1.w.heap[blk]? = O.w.heap[blk]? := by
  intro i blk n hi h
  obtain⟨g1,g2⟩:=B.apart i blk n h
  refine N.frame blk g1 λj m hj => ?_
  obtain⟨b,FR,Ep⟩:=sph hj
  have:=B.inj i b blk n m h Ep
  subst this
  rw[oF hn FR]at hi
  cases hi
 have hE:Ext O ⟨κ1.w,κ1.ok,je mp O.ph κ1.ph,je mp O.st yZ⟩:=by
  refine⟨N.os,N.tape,N.output,N.size,N.same,λk hk => ?_,λi blk n h => ?_,λi d hi => ?_,λi v0 e Vq hi => ?_,λi hi => ?_,?_,λk hk T6 => ?_⟩
  ·rcases N.fresh k hk with h | h | ⟨j,n,h⟩
   ·exact .inl h
   ·exact .inr (.inl h)
   ·obtain⟨b,_,I⟩:=sph h; exact .inr (.inr ⟨b,n,I⟩)
  ·have h:(je mp O.ph κ1.ph)[i]? = some (some (blk,n)):=h
   have GX:i<(je mp O.st yZ).length:=by rw[<- hlen]; exact(Y.1 h).1
   rcases UR GX with⟨h1,M⟩ | ⟨j,h1,rfl⟩
   ·rw[uph h1 M]at h; exact .inl h
   ·rw[cph h1]at h
    rcases N.phs j blk n h with h3 | h3
    ·obtain⟨b,FR,Ep⟩:=sph h3
     rw[Rv FR]; exact .inl Ep
    ·exact .inr h3
  ·have RH:=(Y.1 hi).1
   cases Dp:pos mp i with
   | none=>exact⟨⟨d,(ust RH Dp).trans hi⟩,uph RH Dp⟩
   | some j =>
    have hmj:=sT Dp
    obtain⟨k1,x,y,k2,k3,k4⟩:=key j i hmj
    rw[hi]at k2
    cases k2
    simp only[Vi]at k3
    split at k3
    ·cases k3
     obtain⟨⟨d',g1⟩,g2⟩:=N.var j _ k4
     obtain⟨⟨d'',q1⟩,q2⟩:=hT.var j (fw j) d' rfl g1
     rw[Rv hmj]at q1 q2
     exact⟨⟨d'',q1⟩,q2.trans (g2.trans k1)⟩
    ·cases k3
  ·have RH:=(Y.1 hi).1
   cases Dp:pos mp i with
   | none=>exact .inr ⟨v0,Vq,(ust RH Dp).trans hi,zJ _,λ_=>⟨uph RH Dp,rfl⟩⟩
   | some j =>
    have hmj:=sT Dp
    obtain⟨k1,x,y,k2,k3,k4⟩:=key j i hmj
    rw[hi]at k2
    cases k2
    cases k3
    rcases N.arr j v0 e Vq k4 with g | ⟨v1,xs1,g1,g2,g3⟩
    ·obtain⟨y,q1,q2⟩:=cst g
     cases q2
     rw[Rv hmj]at q1
     exact .inl q1
    ·obtain⟨y,q1,q2⟩:=cst g1
     cases q2
     rw[Rv hmj]at q1
     refine .inr ⟨v1,xs1,q1,g2,λhe=>⟨?_,(g3 he).2⟩⟩
     have h4:=cph (Y.1 g1).1
     rw[Rv hmj]at h4
     exact h4.trans ((g3 he).1.trans k1)
  ·have RH:=(Y.1 hi).1
   cases Dp:pos mp i with
   | none=>exact(ust RH Dp).trans hi
   | some j =>
    have hmj:=sT Dp
    obtain⟨k1,x,y,k2,k3,k4⟩:=key j i hmj
    rw[hi]at k2
    cases k2
    cases k3
    obtain⟨y,q1,q2⟩:=cst (N.dead j k4)
    cases q2
    rw[Rv hmj]at q1
    exact q1
  ·show O.st.length<=(je mp O.st yZ).length
   simp[je,gP]
  ·exact N.frame k hk λj n hj=>by obtain⟨b,_,I⟩:=sph hj; exact T6 b n I
 refine⟨⟨κ1.w,κ1.ok,je mp O.ph κ1.ph,je mp O.st yZ⟩,rfl,rfl,⟨hlen,Vv.bJ,λi blk n h => ?_,λi i' blk n n' h h' => ?_,λi y h => ?_,Vv.gl⟩,hE,hT⟩
 ·have h:(je mp O.ph κ1.ph)[i]? = some (some (blk,n)):=h
  have GX:i<(je mp O.st yZ).length:=by rw[<- hlen]; exact(Y.1 h).1
  rcases UR GX with⟨h1,M⟩ | ⟨j,h1,rfl⟩
  ·rw[uph h1 M]at h
   obtain⟨g1,g2⟩:=B.apart i blk n h
   refine⟨Nat.lt_of_lt_of_le g1 N.size,λhk => ?_⟩
   rcases N.fresh blk hk with hk | hk | ⟨j,m,hj⟩
   ·exact g2 hk
   ·simp only at hk; omega
   ·obtain⟨b,FR,Ep⟩:=sph hj
    have:=B.inj i b blk n m h Ep
    subst this
    rw[oF hn FR]at M
    cases M
  ·rw[cph h1]at h
   exact Vv.apart j blk n h
 ·have h:(je mp O.ph κ1.ph)[i]? = some (some (blk,n)):=h
  have h':(je mp O.ph κ1.ph)[i']? = some (some (blk,n')):=h'
  have z0R:i<(je mp O.st yZ).length:=by rw[<- hlen]; exact(Y.1 h).1
  have IW:i'<(je mp O.st yZ).length:=by rw[<- hlen]; exact(Y.1 h').1
  have mixed:∀ {i j n n':Nat},i<O.st.length->pos mp i=none->j<κ1.st.length->O.ph[i]? = some (some (blk,n))->κ1.ph[j]? = some (some (blk,n'))->False:=by
   intro i j n n' h1 M h3 h4 h5
   rcases N.phs j blk n' h5 with h6 | h6
   ·obtain⟨b,FR,Ep⟩:=sph h6
    have:=B.inj i b blk n n' h4 Ep
    subst this
    rw[oF hn FR]at M
    cases M
   ·have:=(B.apart i blk n h4).1
    simp only at h6
    omega
  rcases UR z0R with⟨h1,M⟩ | ⟨j,h1,rfl⟩
  ·rw[uph h1 M]at h
   rcases UR IW with⟨h3,h4⟩ | ⟨j',h3,rfl⟩
   ·rw[uph h3 h4]at h'; exact B.inj i i' blk n n' h h'
   ·rw[cph h3]at h'; exact(mixed h1 M h3 h h').elim
  ·rw[cph h1]at h
   rcases UR IW with⟨h3,h4⟩ | ⟨j',h3,rfl⟩
   ·rw[uph h3 h4]at h'; exact(mixed h3 h4 h1 h' h).elim
   ·rw[cph h3]at h'
    rw[Vv.inj j j' blk n n' h h']
 ·have h:(je mp O.st yZ)[i]? = some y:=h
  rcases UR (Y.1 h).1 with⟨h1,M⟩ | ⟨j,h1,rfl⟩
  ·rw[ust h1 M]at h
   exact(B.blk i y h).mono hE (uph h1 M) λblk n I=>BH M I
  ·obtain⟨z,q1,q2⟩:=cst (zG h1)
   rw[h]at q1
   cases q1
   exact hT.blk (cph h1) (Vv.blk j _ (zG h1)) q2
end
end Go.AM
namespace Go.AM
set_option linter.unusedSectionVars false
variable [yY]
open Go.RowKit
inductive AK where
 | any | cur | sub | ptr | wh (f:Nat) | agg
structure gZ where
 ks:List AK
 sh:ur
 dw:List Gh
 out:ur
 nr:Nat
 F:sh.den->T out.den
def Bj(fr:Fr):Nat->Nat->Option (List D)
 | 0,_=>some []
 | n+1,i=>match fr.get i with
  | some d=>match Bj fr n (i+1)with | some r=>some (d::r) | none=>none
  | none=>none
def oO(nr:Nat)(fr:Fr):Option (List D):=Bj fr nr 0
def z2k:List (Nat×Nat)->List D->Nat->Option Nat
 | p::r,.ptr b' _::ds,b=>bif V p.1 b then some b' else z2k r ds b
 | _,_,_=>none
def zgR(b:Nat):Ck->D->Option Nat
 | .ptr c _,.ptr b' _=>bif V c b then some b' else none
 | .cur c _,.ms b' _ _ _ _=>bif V c b then some b' else none
 | .wh _ l,.wh _ ds=>z2k l ds b
 | .yL c,.yL b'=>bif V c b then some b' else none
 | _,_=>none
def zcI(fr:Fr)(b:Nat):List (Nat×Ck)->Option Nat
 | []=>none
 | (s,k)::r=>match fr.get s with
  | some d=>match zgR b k d with | some b'=>some b' | none=>zcI fr b r
  | none=>zcI fr b r
def F5(b:Nat):List Mc->List D->Option Nat
 | .pt c::r,.ptr b' _::ds=>bif V c b then some b' else F5 b r ds
 | .pt _::r,_::ds=>F5 b r ds
 | .im _::r,_::ds=>F5 b r ds
 | .rp _::r,_::ds=>F5 b r ds
 | _,_=>none
def Uk(b:Nat):List Sk->List D->Option Nat
 | .im τ::r,ds=>Uk b r (ds.drop τ.size)
 | .row c _::r,.ms b' _ _ _ _::ds=>bif V c b then some b' else Uk b r ds
 | .row _ _::r,_::ds=>Uk b r ds
 | .op c _::r,.ed b' _::ds=>bif V c b then some b' else Uk b r ds
 | .op _ _::r,_::ds=>Uk b r ds
 | .un::r,_::ds=>Uk b r ds
 | .nl::r,_::ds=>Uk b r ds
 | _,_=>none
def JN(fr:Fr)(b:Nat):List It->Option Nat
 | []=>none
 | .s s (.mclo _ ms)::r=>match fr.get s with
  | some (.wh _ l)=>match F5 b ms l with | some b'=>some b' | none=>JN fr b r
  | _=>JN fr b r
 | .s s (.sub c _)::r=>match fr.get s with
  | some (.ms b' _ _ _ _)=>bif V c b then some b' else JN fr b r
  | _=>JN fr b r
 | .s s (.st ks)::r=>match fr.get s with
  | some d=>match Uk b ks (xx d)with | some b'=>some b' | none=>JN fr b r
  | none=>JN fr b r
 | _::r=>JN fr b r
def Sv(st:St)(b:Nat):List Bk->List (Option Nat)->Option Nat
 | .cvar k::r,some p::ps=>match st[p]? with
  | some (.var d)=>match zgR b k d with | some b'=>some b' | none=>Sv st b r ps
  | _=>Sv st b r ps
 | .var (.st ks)::r,some p::ps=>match st[p]? with
  | some (.var d)=>match Uk b ks (xx d)with | some b'=>some b' | none=>Sv st b r ps
  | _=>Sv st b r ps
 | _::r,_::ps=>Sv st b r ps
 | _,_=>none
def Sq(sh:ur)(fr:Fr):Nat->List Bk->List (Option Nat)
 | _,[]=>[]
 | b,_::r=>(match zcI fr b sh.cs with | some b'=>some b' | none=>JN fr b sh.fp)::Sq sh fr (b+1) r
def Sr(sh:ur)(st:St)(m:List (Option Nat)):Nat->List (Option Nat)->List (Option Nat)
 | _,[]=>[]
 | b,some b'::r=>some b'::Sr sh st m (b+1) r
 | b,none::r=>Sv st b sh.bs m::Sr sh st m (b+1) r
def DB:List (Option Nat)->Option (List Nat)
 | []=>some []
 | some b::r=>match DB r with | some l=>some (b::l) | none=>none
 | none::_=>none
def mapOf(sh:ur)(fr:Fr)(st:St):Option (List Nat):=let m:=Sq sh fr 0 sh.bs
 let m:=Sr sh st m 0 m
 DB (Sr sh st m 0 m)
def gZ.back(d:gZ)(mp:List Nat)(st:St)(y:d.out.den):T (GC×St):=match oO d.nr (d.out.fr y),oj (λj=>some (fwd mp st.length j)) (d.out.st y)with
 | some ds,some yZ=>match Xp (λj=>some (fwd mp st.length j)) ds with
  | some C9=>.ret (.ret C9,je mp st yZ)
  | none=>.fail
 | _,_=>.fail
def gZ.inner(d:gZ)(mp:List Nat)(fr:Fr)(st:St):T (GC×St):=match iK st mp with
 | none=>.fail
 | some l=>match oj (pos mp) l with
  | none=>.fail
  | some dC=>(d.sh.un (WB (pos mp) fr) dC).bind λx=>(d.F x).bind λy=>d.back mp st y
def gZ.S(d:gZ)(args:List D)(st:St):T (GC×St) :=
 match mapOf d.sh (gh d.dw (yq args 0) st).1 (gh d.dw (yq args 0) st).2 with
 | none=>.fail
 | some mp=>bif cF mp&&zM mp.length d.sh.bs.length&&V args.length d.ks.length then d.inner mp (gh d.dw (yq args 0) st).1 (gh d.dw (yq args 0) st).2 else .fail
def gZ.Qh{α:Type}(d:gZ)(mp:List Nat)(st:St)(y:d.out.den)(k:List D->St->T α):T α:=match oO d.nr (d.out.fr y),oj (λj=>some (fwd mp st.length j)) (d.out.st y)with
 | some ds,some yZ=>match Xp (λj=>some (fwd mp st.length j)) ds with
  | some C9=>k C9 (je mp st yZ)
  | none=>.fail
 | _,_=>.fail
def gZ.X4{α:Type}(d:gZ)(mp:List Nat)(fr:Fr)(st:St)(k:List D->St->T α):T α:=match iK st mp with
 | none=>.fail
 | some l=>match oj (pos mp) l with
  | none=>.fail
  | some dC=>(d.sh.un (WB (pos mp) fr) dC).bind λx=>(d.F x).bind λy=>d.Qh mp st y k
def gZ.K{α:Type}(d:gZ)(args:List D)(st:St)(k:List D->St->T α):T α :=
 match mapOf d.sh (gh d.dw (yq args 0) st).1 (gh d.dw (yq args 0) st).2 with
 | none=>.fail
 | some mp=>bif cF mp&&zM mp.length d.sh.bs.length&&V args.length d.ks.length then d.X4 mp (gh d.dw (yq args 0) st).1 (gh d.dw (yq args 0) st).2 k else .fail
theorem gZ.Te{α:Type}{d:gZ}{args:List D}{st:St}{k:List D->St->T α}{r:α}(h:(d.K args st k).leads r):∃ ds qm,(d.S args st).leads (.ret ds,qm)/\(k ds qm).leads r:=by
 unfold gZ.K at h
 unfold gZ.S
 split at h
 ·exact h.elim
 ·rename_i mp Ka
  cases hc:cF mp&&zM mp.length d.sh.bs.length&&V args.length d.ks.length with
  | false=>rw[hc]at h; exact h.elim
  | true =>
   rw[hc,cond_true]at h
   unfold gZ.X4 at h
   unfold gZ.inner
   split at h
   ·exact h.elim
   ·rename_i l R
    split at h
    ·exact h.elim
    ·rename_i dC hst1
     obtain⟨x,h1,h⟩:=T.zd.1 h
     obtain⟨y,M,h⟩:=T.zd.1 h
     unfold gZ.Qh at h
     split at h
     ·rename_i ds yZ e1 e2
      split at h
      ·rename_i C9 e3
       refine⟨C9,_,T.zd.2 ⟨x,h1,T.zd.2 ⟨y,M,?_⟩⟩,h⟩
       unfold gZ.back
       simp only[e1,e2,e3]
       rfl
      ·exact h.elim
     ·exact h.elim
def cB(Dr:Td)(g:Nat)(d:gZ):Prop:=∀ (O:KS) (x:d.sh.den) (xb:List Value) (y:d.out.den),O.st=d.sh.st x->(d.F x).leads y->Inv O->xb.length=d.ks.length ->
 Rel O xb.length (d.sh.fr x).get { tmps:=xb.toArray,defers:=[] } ->
 Dr g xb.toArray O.w λe w'=>∃ (E:KS) (ds:List D),E.w=w'/\E.st=d.out.st y/\Inv E/\Ext O E/\oO d.nr (d.out.fr y)=some ds/\jd E (.ret ds) e
def xr(P:Program)(g:Nat)(d:gZ):Prop:=∀ (O:KS) (x:d.sh.den) (xb:List Value) (y:d.out.den),O.st=d.sh.st x->(d.F x).leads y->Inv O->xb.length=d.ks.length ->
 Rel O xb.length (d.sh.fr x).get { tmps:=xb.toArray,defers:=[] } ->
 gy P g xb.toArray O.w λe w'=>∃ (E:KS) (ds:List D),E.w=w'/\E.st=d.out.st y/\Inv E/\Ext O E/\oO d.nr (d.out.fr y)=some ds/\jd E (.ret ds) e
theorem D6{O E:KS}{f:Nat->Option Nat}(h:Tr O E f){ds C9:List D}{v:Value}(J:RD O (eL ds) v)(hr:Xp f ds=some C9):RD E (eL C9) v:=by
 match ds,hr with
 | [],hr =>
  cases hr
  cases J with
  | eD _ vs R hh =>
   obtain rfl:vs=[]:=zY R.symm
   exact .eD [] [] rfl (λi h=>absurd h (qN i))
 | [d],hr =>
  simp only[Xp]at hr
  split at hr
  ·rename_i d' h1
   cases hr
   exact h.rd J h1
  ·cases hr
 | d::e::r,hr =>
  cases J with
  | eD _ vs R hh =>
   have hR:=h.rds (⟨R,hh⟩:wN O (d::e::r) vs) hr
   simp only[Xp]at hr
   split at hr
   ·split at hr
    ·rename_i r' M
     cases hr
     split at M
     ·split at M
      ·cases M; exact .eD _ vs hR.1 hR.2
      ·cases M
     ·cases M
    ·cases hr
   ·cases hr
theorem Q2{α β:Type}{l:List α}{m:List β}(h:l.length=m.length):∀ {mp:List Nat} {r:List α},iK l mp=some r->∃ q,iK m mp=some q
 | [],_,_=>⟨[],rfl⟩
 | b::mp,r,hr=>by
  simp only[iK]at hr
  split at hr
  ·rename_i x N
   split at hr
   ·rename_i y hy
    obtain⟨q,hq⟩:=Q2 h hy
    have I:b<m.length:=by have:=(Y.1 N).1; omega
    exact⟨m[b]::q,by simp only[iK,zG I,hq]⟩
   ·cases hr
  ·cases hr
theorem gZ.zd3{Dr:Td}(zg2:∀ {g a w} {hl R':Ending->World->Prop},Dr g a w hl->(∀ e w',hl e w'->R' e w')->Dr g a w R'){g:Nat}{d:gZ}(h:cB Dr g d):zlM Dr g d.S:=by
 intro O args xb rs qm R B ha
 have hR0:Rel O xb.length (yq args 0).get { tmps:=xb.toArray,defers:=[] }:=by
  have:=Ki (n:=xb.length) ha (by rw[ha.1]; exact zJ _)
  simpa[show(Hk.df:List Deferred)=[]from rfl]using this
 obtain⟨κ0,w1,w2,w3,w4,w5⟩:=sK d.dw (yq args 0) O B hR0
 unfold gZ.S at R
 rw[<- w2]at R
 split at R
 ·exact R.elim
 ·rename_i mp Ka
  cases hc:cF mp&&zM mp.length d.sh.bs.length&&V args.length d.ks.length with
  | false=>rw[hc]at R; exact R.elim
  | true =>
   rw[hc,cond_true]at R
   simp only[X]at hc
   obtain⟨⟨hn,hle⟩,hlen⟩:=hc
   unfold gZ.inner at R
   split at R
   ·exact R.elim
   ·rename_i l Yi
    split at R
    ·exact R.elim
    ·rename_i dC hst1
     obtain⟨x,h1,R⟩:=T.zd.1 R
     obtain⟨y,M,R⟩:=T.zd.1 R
     obtain⟨p1,hpp⟩:=Q2 (m:=κ0.ph) w3.len.symm Yi
     obtain⟨s1,s2,s3,s4,s5⟩:=D4 w3 hn hpp Yi hst1
     have HI:Rel ⟨κ0.w,κ0.ok,p1,dC⟩ xb.length (WB (pos mp) (gh d.dw (yq args 0) O.st).1).get { tmps:=xb.toArray,defers:=[] } :=
      ⟨w5.size,w5.defers,λs d' J=>by
       obtain⟨d0,q1,q2⟩:=Wb J
       obtain⟨v,q3,q4⟩:=w5.get s d0 q1
       exact⟨v,q3,s2.rd q4 q2⟩⟩
     obtain⟨κ2,u1,u2,u3,u4,u5,_⟩:=d.sh.K0 (κ0:=⟨κ0.w,κ0.ok,p1,dC⟩) (O:=⟨κ0.w,κ0.ok,p1,dC⟩) (Ext.refl _) s1 HI (by show dC.length<=_; rw[s3]; exact zE hle) h1
     have hw:κ2.w=O.w:=u1.trans w1
     have hdo:=h κ2 x xb y u2 M u3 (by rw[<- ha.1]; exact zA hlen) u5
     rw[hw]at hdo
     refine zg2 hdo ?_
     rintro e w' ⟨κ3,ds,rfl,g1,g2,g3,g4,v,rfl,g5⟩
     unfold gZ.back at R
     rw[g4,<- g1]at R
     split at R
     ·rename_i ds0 yZ e1 e2
      cases e1
      split at R
      ·rename_i C9 hds'
       cases R
       obtain⟨E,k1,k2,k3,k4,k5⟩:=Kj w3 hn hpp Yi hst1 g2 (u4.trans g3) e2
       exact⟨E,k1,k2,k3,w4.trans k4,v,rfl,D6 k5 g5 hds'⟩
      ·exact R.elim
     ·exact R.elim
theorem gZ.snd{P:Program}{g:Nat}{d:gZ}(h:xr P g d):Di P g d.S:=gZ.zd3 (Dr:=gy P) gy.mono h
structure lE where
 ks:List AK
 sh:ur
 dw:List Gh
 out:ur
 nr:Nat
 pt:Nat
 hZ:ur
 two:Option Nat
 F:sh.den->T (out.den⊕hZ.den)
abbrev lE.s(d:lE):gZ:=⟨d.ks,d.sh,d.dw,d.out,d.nr,λ_=>.fail⟩
abbrev lE.s2(d:lE)(n:Nat):gZ:=⟨d.ks,d.sh,d.dw,d.hZ,n,λ_=>.fail⟩
def lE.z2D{α:Type}(d:lE)(mp:List Nat)(st:St)(z:d.hZ.den)(kp:D->St->T α):T α:=match(d.hZ.fr z).get 0,oj (λj=>some (fwd mp st.length j)) (d.hZ.st z)with
 | some (.qj τ x),some yZ=>kp (.iface d.pt (.qj τ x)) (je mp st yZ)
 | _,_=>.fail
def lE.LU{α:Type}(d:lE)(mp:List Nat)(st:St)(z:d.hZ.den)(k:List D->St->T α)(kp:D->St->T α):T α:=match d.two with
 | none=>d.z2D mp st z kp
 | some n=>(d.s2 n).Qh mp st z k
def lE.X4{α:Type}(d:lE)(mp:List Nat)(fr:Fr)(st:St)(k:List D->St->T α)(kp:D->St->T α):T α:=match iK st mp with
 | none=>.fail
 | some l=>match oj (pos mp) l with
  | none=>.fail
  | some dC=>(d.sh.un (WB (pos mp) fr) dC).bind λx=>(d.F x).bind (Sum.elim (λy=>d.s.Qh mp st y k) (λz=>d.LU mp st z k kp))
def lE.K{α:Type}(d:lE)(args:List D)(st:St)(k:List D->St->T α)(kp:D->St->T α):T α :=
 match mapOf d.sh (gh d.dw (yq args 0) st).1 (gh d.dw (yq args 0) st).2 with
 | none=>.fail
 | some mp=>bif cF mp&&zM mp.length d.sh.bs.length&&V args.length d.ks.length then d.X4 mp (gh d.dw (yq args 0) st).1 (gh d.dw (yq args 0) st).2 k kp else .fail
def lE.S(d:lE)(args:List D)(st:St):T (GC×St):=d.K args st (λds qm=>.ret (.ret ds,qm)) (λp qm=>.ret (.hZ p,qm))
theorem lE.Te{α:Type}{d:lE}{args:List D}{st:St}{k:List D->St->T α}{kp:D->St->T α}{r:α}(h:(d.K args st k kp).leads r) :
  (∃ ds qm,(d.S args st).leads (.ret ds,qm)/\(k ds qm).leads r)\/∃ p qm,(d.S args st).leads (.hZ p,qm)/\(kp p qm).leads r:=by
 unfold lE.K at h
 unfold lE.S lE.K
 split at h
 ·exact h.elim
 ·rename_i mp Ka
  cases hc:cF mp&&zM mp.length d.sh.bs.length&&V args.length d.ks.length with
  | false=>rw[hc]at h; exact h.elim
  | true =>
   rw[hc,cond_true]at h
   unfold lE.X4 at h
   unfold lE.X4
   split at h
   ·exact h.elim
   ·rename_i l R
    split at h
    ·exact h.elim
    ·rename_i dC hst1
     obtain⟨x,h1,h⟩:=T.zd.1 h
     obtain⟨y,M,h⟩:=T.zd.1 h
     cases y with
     | inl y =>
      simp at h
      unfold gZ.Qh at h
      split at h
      ·rename_i ds yZ e1 e2
       split at h
       ·rename_i C9 e3
        refine .inl ⟨C9,_,T.zd.2 ⟨x,h1,T.zd.2 ⟨.inl y,M,?_⟩⟩,h⟩
        simp
        unfold gZ.Qh
        simp only[e1,e2,e3]
        rfl
       ·exact h.elim
      ·exact h.elim
     | inr z =>
      simp at h
      unfold lE.LU at h
      split at h
      ·rename_i h0
       unfold lE.z2D at h
       split at h
       ·rename_i τ p yZ e1 e2
        refine .inr ⟨_,_,T.zd.2 ⟨x,h1,T.zd.2 ⟨.inr z,M,?_⟩⟩,h⟩
        simp
        unfold lE.LU lE.z2D
        simp only[h0,e1,e2]
        rfl
       ·exact h.elim
      ·rename_i n h0
       unfold gZ.Qh at h
       split at h
       ·rename_i ds yZ e1 e2
        split at h
        ·rename_i C9 e3
         refine .inl ⟨C9,_,T.zd.2 ⟨x,h1,T.zd.2 ⟨.inr z,M,?_⟩⟩,h⟩
         simp
         unfold lE.LU gZ.Qh
         simp only[h0,e1,e2,e3]
         rfl
        ·exact h.elim
       ·exact h.elim
def jB(P:Program)(g:Nat)(d:lE):Prop:=∀ (O:KS) (x:d.sh.den) (xb:List Value) (r:d.out.den⊕d.hZ.den),O.st=d.sh.st x->(d.F x).leads r->Inv O->xb.length=d.ks.length ->
 Rel O xb.length (d.sh.fr x).get { tmps:=xb.toArray,defers:=[] } ->
 gy P g xb.toArray O.w λe w'=>∃ E:KS,E.w=w'/\Inv E/\Ext O E /\
  ((∃ (y:d.out.den) (ds:List D),r=.inl y/\E.st=d.out.st y/\oO d.nr (d.out.fr y)=some ds/\jd E (.ret ds) e) \/
   (d.two=none/\∃ (z:d.hZ.den) (p:D),r=.inr z/\E.st=d.hZ.st z/\(d.hZ.fr z).get 0=some p/\jd E (.hZ (.iface d.pt p)) e) \/
   ∃ (n:Nat) (z:d.hZ.den) (ds:List D),d.two=some n/\r=.inr z/\E.st=d.hZ.st z/\oO n (d.hZ.fr z)=some ds/\jd E (.ret ds) e)
theorem lE.snd{P:Program}{g:Nat}{d:lE}(h:jB P g d):Di P g d.S:=by
 intro O args xb rs qm R B ha
 have hR0:Rel O xb.length (yq args 0).get { tmps:=xb.toArray,defers:=[] }:=by
  have:=Ki (n:=xb.length) ha (by rw[ha.1]; exact zJ _)
  simpa[show(Hk.df:List Deferred)=[]from rfl]using this
 obtain⟨κ0,w1,w2,w3,w4,w5⟩:=sK d.dw (yq args 0) O B hR0
 unfold lE.S lE.K at R
 rw[<- w2]at R
 split at R
 ·exact R.elim
 ·rename_i mp Ka
  cases hc:cF mp&&zM mp.length d.sh.bs.length&&V args.length d.ks.length with
  | false=>rw[hc]at R; exact R.elim
  | true =>
   rw[hc,cond_true]at R
   simp only[X]at hc
   obtain⟨⟨hn,hle⟩,hlen⟩:=hc
   unfold lE.X4 at R
   split at R
   ·exact R.elim
   ·rename_i l Yi
    split at R
    ·exact R.elim
    ·rename_i dC hst1
     obtain⟨x,h1,R⟩:=T.zd.1 R
     obtain⟨y,M,R⟩:=T.zd.1 R
     obtain⟨p1,hpp⟩:=Q2 (m:=κ0.ph) w3.len.symm Yi
     obtain⟨s1,s2,s3,s4,s5⟩:=D4 w3 hn hpp Yi hst1
     have HI:Rel ⟨κ0.w,κ0.ok,p1,dC⟩ xb.length (WB (pos mp) (gh d.dw (yq args 0) O.st).1).get { tmps:=xb.toArray,defers:=[] } :=
      ⟨w5.size,w5.defers,λs d' J=>by
       obtain⟨d0,q1,q2⟩:=Wb J
       obtain⟨v,q3,q4⟩:=w5.get s d0 q1
       exact⟨v,q3,s2.rd q4 q2⟩⟩
     obtain⟨κ2,u1,u2,u3,u4,u5,_⟩:=d.sh.K0 (κ0:=⟨κ0.w,κ0.ok,p1,dC⟩) (O:=⟨κ0.w,κ0.ok,p1,dC⟩) (Ext.refl _) s1 HI (by show dC.length<=_; rw[s3]; exact zE hle) h1
     have hw:κ2.w=O.w:=u1.trans w1
     have hdo:=h κ2 x xb y u2 M u3 (by rw[<- ha.1]; exact zA hlen) u5
     rw[hw]at hdo
     refine hdo.mono ?_
     rintro e w' ⟨κ3,rfl,g2,g3,⟨y,ds,rfl,g1,g4,v,rfl,g5⟩ | ⟨g0,z,p,rfl,g1,g4,v,rfl,g5⟩ | ⟨n2,z,ds,g0,rfl,g1,g4,v,rfl,g5⟩⟩
     ·simp only[Sum.elim_inl]at R
      unfold gZ.Qh at R
      rw[show oO d.s.nr (d.s.out.fr y)=some ds from g4,show d.s.out.st y=κ3.st from g1.symm]at R
      split at R
      ·rename_i ds0 yZ e1 e2
       cases e1
       split at R
       ·rename_i C9 hds'
        cases R
        obtain⟨E,k1,k2,k3,k4,k5⟩:=Kj w3 hn hpp Yi hst1 g2 (u4.trans g3) e2
        exact⟨E,k1,k2,k3,w4.trans k4,v,rfl,D6 k5 g5 hds'⟩
       ·exact R.elim
      ·exact R.elim
     ·simp only[Sum.elim_inr]at R
      unfold lE.LU at R
      rw[g0]at R
      simp only at R
      unfold lE.z2D at R
      rw[g4,<- g1]at R
      split at R
      ·rename_i τ q yZ e1 e2
       cases e1
       cases R
       obtain⟨E,k1,k2,k3,k4,k5⟩:=Kj w3 hn hpp Yi hst1 g2 (u4.trans g3) e2
       refine⟨E,k1,k2,k3,w4.trans k4,v,rfl,?_⟩
       cases g5 with
       | iface _ _ u hu=>exact .iface _ _ u (k5.rd hu rfl)
      ·exact R.elim
     ·simp only[Sum.elim_inr]at R
      unfold lE.LU at R
      rw[g0]at R
      simp only at R
      unfold gZ.Qh at R
      rw[show oO (d.s2 n2).nr ((d.s2 n2).out.fr z)=some ds from g4,show(d.s2 n2).out.st z=κ3.st from g1.symm]at R
      split at R
      ·rename_i ds0 yZ e1 e2
       cases e1
       split at R
       ·rename_i C9 hds'
        cases R
        obtain⟨E,k1,k2,k3,k4,k5⟩:=Kj w3 hn hpp Yi hst1 g2 (u4.trans g3) e2
        exact⟨E,k1,k2,k3,w4.trans k4,v,rfl,D6 k5 g5 hds'⟩
       ·exact R.elim
      ·exact R.elim
end Go.AM
namespace Go.AM
def Ci(sh:ur)(dw:List Gh)(args:List D)(st:St):List Nat:=bif dw.isEmpty then match mapOf sh (yq args 0) st with | some mp=>others st.length mp | none=>[]else[]
def gZ.free(d:gZ)(args:List D)(st:St):List Nat:=Ci d.sh d.dw args st
def lE.free(d:lE)(args:List D)(st:St):List Nat:=Ci d.sh d.dw args st
theorem EY{m b:Nat}{l:List Nat}(h:b∈others m l):b<m/\∀ x∈l,b≠x:=by
 simp only[others,List.mem_filter,List.mem_range,qF,List.any_eq_false]at h
 exact⟨h.1,λx N e=>by subst e; exact h.2 b N (qS _)⟩
theorem Ut:∀ {mp:List Nat} {b:Nat},(∀ x∈mp,b≠x)->pos mp b=none
 | [],_,_=>rfl
 | x::r,b,h=>by
  simp only[pos]
  rw[show V x b=false from by cases I:V x b with | false=>rfl | true=>exact absurd (zA I).symm (h x zQ),cond_false,Ut λy hy=>h y (zI _ hy)]
theorem Ye{sh:ur}{dw:List Gh}{args:List D}{st:St}{b:Nat}(I:b∈Ci sh dw args st):dw=[]/\∃ mp,mapOf sh (yq args 0) st=some mp/\b<st.length/\pos mp b=none:=by
 unfold Ci at I
 cases hn:dw.isEmpty with
 | false=>grind
 | true =>
  rw[hn,cond_true]at I
  refine⟨zW.1 hn,?_⟩
  split at I
  ·rename_i mp Ka
   obtain⟨h1,M⟩:=EY I
   exact⟨mp,Ka,h1,Ut M⟩
  ·cases I
theorem gZ.VV{d:gZ}{args:List D}{st qm:St}{rs:GC}{b:Nat}(h:(d.S args st).leads (rs,qm))(I:b∈d.free args st):qm[b]? = st[b]? := by
 obtain⟨hn,mp,Ka,wM,Wr⟩:=Ye I
 unfold gZ.S at h
 rw[hn]at h
 simp only[gh,Ka]at h
 cases hc:cF mp&&zM mp.length d.sh.bs.length&&V args.length d.ks.length with
 | false=>rw[hc]at h; exact h.elim
 | true =>
  rw[hc,cond_true]at h
  unfold gZ.inner at h
  split at h
  ·exact h.elim
  ·split at h
   ·exact h.elim
   ·obtain⟨x,_,h⟩:=T.zd.1 h
    obtain⟨y,_,h⟩:=T.zd.1 h
    unfold gZ.back at h
    split at h
    ·split at h
     ·cases h; exact lI wM Wr
     ·exact h.elim
    ·exact h.elim
theorem lE.VV{d:lE}{args:List D}{st qm:St}{rs:GC}{b:Nat}(h:(d.S args st).leads (rs,qm))(I:b∈d.free args st):qm[b]? = st[b]? := by
 obtain⟨hn,mp,Ka,wM,Wr⟩:=Ye I
 unfold lE.S lE.K at h
 rw[hn]at h
 simp only[gh,Ka]at h
 cases hc:cF mp&&zM mp.length d.sh.bs.length&&V args.length d.ks.length with
 | false=>rw[hc]at h; exact h.elim
 | true =>
  rw[hc,cond_true]at h
  unfold lE.X4 at h
  split at h
  ·exact h.elim
  ·split at h
   ·exact h.elim
   ·obtain⟨x,_,h⟩:=T.zd.1 h
    obtain⟨y,_,h⟩:=T.zd.1 h
    cases y with
    | inl y =>
     simp at h
     unfold gZ.Qh at h
     split at h
     ·split at h
      ·cases h; exact lI wM Wr
      ·exact h.elim
     ·exact h.elim
    | inr z =>
     simp at h
     unfold lE.LU at h
     split at h
     ·unfold lE.z2D at h
      split at h
      ·cases h; exact lI wM Wr
      ·exact h.elim
     ·unfold gZ.Qh at h
      split at h
      ·split at h
       ·cases h; exact lI wM Wr
       ·exact h.elim
      ·exact h.elim
def oP:It->Bool
 | .s _ (.qj _)=>true
 | .a _=>true
 | _=>false
def W6:Bk->Bool
 | .arr _=>true
 | _=>false
def G4(o:ur):Bool:=o.cs.isEmpty&&o.fp.all oP&&o.bs.all W6
def gZ.Qt(d:gZ)(args:List D):Option (List Nat):=bif d.dw.isEmpty&&G4 d.out&&zM d.out.bs.length d.sh.bs.length then DB (Sq d.sh (yq args 0) 0 d.sh.bs)else none
theorem EV(sh:ur)(st:St)(m':List (Option Nat)):∀ (m:List (Option Nat)) (b:Nat) (l:List Nat),DB m=some l->Sr sh st m' b m=m
 | [],_,_,_=>rfl
 | some x::r,b,l,h=>by
  simp only[DB]at h
  split at h
  ·rename_i l' R; simp only[Sr,EV sh st m' r (b+1) l' R]
  ·cases h
 | none::_,_,_,h=>by cases h
theorem z1Y{sh:ur}{fr:Fr}{st:St}{l:List Nat}(h:DB (Sq sh fr 0 sh.bs)=some l):mapOf sh fr st=some l:=by
 simp only[mapOf,EV sh st _ _ 0 l h]
 exact h
theorem DC:∀ {m:List (Option Nat)} {l:List Nat},DB m=some l->l.length=m.length
 | [],_,h=>by cases h; rfl
 | some x::r,_,h=>by
  simp only[DB]at h
  split at h
  ·rename_i l' R; cases h; simp[DC R]
  ·cases h
 | none::_,_,h=>by cases h
theorem EU(sh:ur)(fr:Fr):∀ (bs:List Bk) (b:Nat),(Sq sh fr b bs).length=bs.length
 | [],_=>rfl
 | _::r,b=>by simp only[Sq,qK,EU sh fr r (b+1)]
theorem Vf{α:Type}{l:List α}(x:α):∀ {mp:List Nat} {r:List α},iK l mp=some r->iK (l++[x]) mp=some r/\∀ b∈mp,b<l.length
 | [],_,h=>⟨h,λb I=>by cases I⟩
 | b::mp,r,h=>by
  simp only[iK]at h
  split at h
  ·rename_i y hy
   split at h
   ·rename_i z hz
    cases h
    obtain⟨h1,M⟩:=Vf x hz
    have I:=(Y.1 hy).1
    refine⟨?_,λc hc=>(zH.1 hc).elim (λe=>e▸I) (M c)⟩
    simp only[iK,zK I,hy,h1]
   ·cases h
  ·cases h
theorem Jr{α:Type}(mp:List Nat)(new:List α)(x:α):∀ (l:List α) (i:Nat),pos mp (i+l.length)=none->nF mp new i (l++[x])=nF mp new i l++[x]
 | [],i,h=>by simp only[List.length_nil,Nat.add_zero]at h; simp[nF,h]
 | y::r,i,h=>by
  have:=Jr mp new x r (i+1) (by rw[<- h]; congr 1; simp; omega)
  simp[nF,this]
theorem Bf(st0:St):∀ (bs:List Bk) (l:List Bd),bs.all W6=true->∀ b∈jE st0 bs l,∀ f,Vi f b=some b
 | [],_,_,b,I,_=>by cases I
 | .arr e::r,l,ha,b,I,f=>by
  simp only[zF,X]at ha
  cases l with
  | nil=>simp[jE]at I
  | cons z l =>
   cases z with
   | a e' xs =>
    rcases zH.1 (show b∈cJ.arr xs.length e' xs::jE st0 r l from I)with rfl | I
    ·rfl
    ·exact Bf st0 r l ha.2 b I f
   | v k y=>simp[jE]at I
 | .var _::r,_,ha,_,_,_=>by simp[W6]at ha
 | .cvar _::r,_,ha,_,_,_=>by simp[W6]at ha
 | .dead::r,_,ha,_,_,_=>by simp[W6]at ha
theorem Fj:∀ (l:List cJ) (f:Nat->Option Nat),(∀ b∈l,Vi f b=some b)->oj f l=some l
 | [],_,_=>rfl
 | b::r,f,h=>by simp only[oj,h b zQ,Fj r f λx N=>h x (zI _ N)]
theorem YO(st:St):∀ (fp:List It) (x:jT fp),fp.all oP=true->∀ s d,(nh st fp x).get s=some d->∀ f,rS f d=some d
 | [],_,_,s,d,h,_=>by cases h
 | [i],x,ha,s,d,h,f=>by
  cases i with
  | s t k =>
   cases k with
   | qj τ =>
    simp only[nh,Qy,Fr.get]at h
    cases I:V t s with
    | true=>rw[I]at h; cases h; rfl
    | false=>rw[I]at h; cases h
   | _=>simp[oP]at ha
  | v k=>simp[oP]at ha
  | a e=>cases h
 | i::j::r,x,ha,s,d,h,f=>by
  have ha':oP i=true/\(j::r).all oP=true:=by simpa using ha
  cases i with
  | s t k =>
   cases k with
   | qj τ =>
    simp only[nh,Qy,Fr.get]at h
    cases I:V t s with
    | true=>rw[I]at h; cases h; rfl
    | false=>rw[I]at h; exact YO st (j::r) x.2 ha'.2 s d h f
   | _=>simp[oP]at ha'
  | v k=>simp[oP]at ha'
  | a e=>exact YO st (j::r) x.2 ha'.2 s d h f
theorem G0{fr:Fr}(hf:∀ s d,fr.get s=some d->∀ f,rS f d=some d):∀ (n i:Nat) (ds:List D),Bj fr n i=some ds->∀ f,Xp f ds=some ds
 | 0,_,ds,h,f=>by cases h; rfl
 | n+1,i,ds,h,f=>by
  simp only[Bj]at h
  split at h
  ·rename_i d J
   split at h
   ·rename_i r hr
    cases h
    simp only[Xp,hf i d J f,G0 hf n (i+1) r hr f]
   ·cases h
  ·cases h
theorem YQ(st0:St):∀ (bs:List Bk) (l:List Bd),(jE st0 bs l).length<=bs.length
 | [],l=>by simp[jE]
 | b::r,l=>by
  cases b<;>cases l<;>(try (rename_i z _; cases z))<;>simp only[jE,qK,List.length_nil]<;>first | omega | (have:=YQ st0 r; grind)
theorem gZ.Gp{d:gZ}{args:List D}{oE:List Nat}(ht:d.Qt args=some oE){st qm:St}{rs:GC}(h:(d.S args st).leads (rs,qm)) :
  qm.length=st.length/\(∀ b,b<st.length->b ∉ oE->qm[b]? = st[b]?)/\∀ x,(d.S args (st++[x])).leads (rs,qm++[x]):=by
 unfold gZ.Qt at ht
 cases I:d.dw.isEmpty&&G4 d.out&&zM d.out.bs.length d.sh.bs.length with
 | false=>rw[I]at ht; cases ht
 | true =>
  rw[I,cond_true]at ht
  simp only[X]at I
  obtain⟨⟨hn,hp⟩,hle⟩:=I
  have hn:=zW.1 hn
  have hle:=zE hle
  have hm:∀ s:St,mapOf d.sh (yq args 0) s=some oE:=λs=>z1Y ht
  have hTl:oE.length=d.sh.bs.length:=(DC ht).trans (EU ..)
  unfold gZ.S at h ⊢
  rw[hn]at h
  simp only[gh,hm]at h
  cases hc:cF oE&&zM oE.length d.sh.bs.length&&V args.length d.ks.length with
  | false=>rw[hc]at h; exact h.elim
  | true =>
   rw[hc,cond_true]at h
   unfold gZ.inner at h
   split at h
   ·exact h.elim
   ·rename_i l R
    split at h
    ·exact h.elim
    ·rename_i dC hst1
     obtain⟨x,h1,h⟩:=T.zd.1 h
     obtain⟨y,M,h⟩:=T.zd.1 h
     have hpo:d.out.cs.isEmpty=true/\d.out.fp.all oP=true/\d.out.bs.all W6=true:=by
      unfold G4 at hp; simp only[X]at hp; exact⟨hp.1.1,hp.1.2,hp.2⟩
     have vX:∀ f,oj f (d.out.st y)=some (d.out.st y):=λf=>Fj _ f λb I=>Bf _ _ _ hpo.2.2 b I f
     have hfr:∀ s e,(d.out.fr y).get s=some e->∀ f,rS f e=some e:=λs e he f=>by
      unfold ur.fr at he
      rw[zW.1 hpo.1,show z84 (d.out.st y) []=[]from rfl,zT]at he
      exact YO _ _ y hpo.2.1 s e he f
     have hlen:(d.out.st y).length<=oE.length:=by rw[hTl]; exact zV (YQ _ _ _) hle
     unfold gZ.back at h
     split at h
     ·rename_i ds yZ hds hst2
      rw[vX]at hst2
      cases hst2
      rw[G0 hfr _ _ _ hds]at h
      cases h
      obtain⟨hl0,wM⟩:=Vf (.dead:cJ) R
      have Wr:pos oE st.length=none:=Ut λb I e=>by have:=wM b I; omega
      have Et:(d.out.st y).drop oE.length=[]:=List.drop_eq_nil_of_le hlen
      refine⟨?_,λb I hbt=>lI I (Ut λc hc e=>hbt (e▸hc)),λz => ?_⟩
      ·simp[je,gP,Et]
      ·rw[hn]
       simp only[gh,hm]
       rw[hc,cond_true]
       unfold gZ.inner
       rw[(Vf z R).1]
       simp only[hst1]
       refine T.zd.2 ⟨x,h1,T.zd.2 ⟨y,M,?_⟩⟩
       unfold gZ.back
       rw[hds,vX]
       simp only[G0 hfr _ _ _ hds]
       show _=_
       simp only[je,Et,zT]
       rw[Jr oE _ z st 0 (by rw[qD]; exact Wr)]
     ·exact h.elim
end Go.AM
namespace Go.AM
def Vt.den:Vt->Type
 | .ty τ=>AM.den τ
 | .rp τ=>AM.den τ
 | .wh _ caps=>fO caps
def dT:List Vt->Type
 | []=>Unit
 | [p]=>p.den
 | p::q::r=>p.den×dT (q::r)
def mkP:(p:Vt)->p.den->D
 | .ty τ,x=>.qj τ x
 | .rp τ,x=>.vA τ x
 | .wh f caps,x=>.wh f (ZR caps x)
def Jf:(l:List Vt)->dT l->List D
 | [],_=>[]
 | [p],x=>[mkP p x]
 | p::q::r,x=>mkP p x.1::Jf (q::r) x.2
def U8:(l:List Ty)->Dj l->List D
 | [],_=>[]
 | [τ],x=>[.qj τ x]
 | τ::σ::r,x=>.qj τ x.1::U8 (σ::r) x.2
def rpX(st:St)(τ:Ty):D->T (den τ)
 | .vA _ x=>match(jR x:Option (den τ))with | some y=>.ret y | none=>.fail
 | .ptr b off=>match st[b]? with
  | some (.var d)=>match bif V off 0 then ox τ d else none with | some y=>.ret y | none=>.fail
  | _=>.fail
 | _=>.fail
def z57(st:St):(p:UO)->D->T (den p.ty)
 | .im τ,d=>VF st τ d
 | .rp τ,d=>rpX st τ d
def Mv(st:St):(l:List UO)->List D->T (fO l)
 | [],[]=>.ret ()
 | [p],[d]=>z57 st p d
 | p::q::r,d::ds=>(z57 st p d).bind λx=>(Mv st (q::r) ds).bind λy=>.ret (x,y)
 | _,_=>.fail
def unP(st:St):(p:Vt)->D->T p.den
 | .ty τ,d=>VF st τ d
 | .rp τ,d=>rpX st τ d
 | .wh f caps,d=>match d with
  | .wh f' l=>bif V f f' then Mv st caps l else .fail
  | _=>.fail
def FB(st:St):(l:List Vt)->List D->T (dT l)
 | [],[]=>.ret ()
 | [p],[d]=>unP st p d
 | p::q::r,d::ds=>(unP st p d).bind λx=>(FB st (q::r) ds).bind λy=>.ret (x,y)
 | _,_=>.fail
def z3k(st:St):(l:List Ty)->List D->T (Dj l)
 | [],[]=>.ret ()
 | [τ],[d]=>VF st τ d
 | τ::σ::r,d::ds=>(VF st τ d).bind λx=>(z3k st (σ::r) ds).bind λy=>.ret (x,y)
 | _,_=>.fail
structure Dy where
 ps:List Vt
 rs:List Ty
 F:dT ps->T (Dj rs)
def zb2:Vt->D->Bool
 | .wh f _,d=>match d with | .wh f' _=>V f f' | _=>false
 | _,d=>match d with | .wh _ _=>false | _=>true
def fits:List Vt->List D->Bool
 | [],[]=>true
 | p::ps,d::ds=>zb2 p d&&fits ps ds
 | _,_=>false
def zb3:AK->D->Bool
 | .any,d=>match d with | .wh _ _=>false | _=>true
 | .cur,d=>match d with | .ms .. => true | .wE=>true | _=>false
 | .sub,d=>match d with | .ms .. => true | _=>false
 | .ptr,d=>match d with | .ptr .. => true | _=>false
 | .wh f,d=>match d with | .wh f' _=>V f f' | _=>false
 | .agg,d=>match d with | .agg _=>true | _=>false
def Qp:List AK->List D->Bool
 | [],[]=>true
 | p::ps,d::ds=>zb3 p d&&Qp ps ds
 | _,_=>false
inductive FnE where
 | d (x:Dy)
 | s (x:gZ)
 | p (x:lE)
def FnE.fits:FnE->List D->Bool
 | .d x,l=>AM.fits x.ps l
 | .s x,l=>Qp x.ks l
 | .p x,l=>Qp x.ks l
abbrev lF:=List (Nat×FnE)
def lF.find:lF->Nat->List D->Option FnE
 | [],_,_=>none
 | (g',d)::r,g,args=>bif V g' g&&d.fits args then some d else lF.find r g args
abbrev Sm:=List D->St->T (GC×St)
def Dy.S(d:Dy):Sm:=λargs st=>match st with
 | []=>(FB [] d.ps args).bind λx=>(d.F x).bind λy=>.ret (.ret (U8 d.rs y),[])
 | _=>.fail
def lF.call(tab:lF)(g:Nat)(args:List D)(st:St):T (GC×St):=match tab.find g args with | some (.d d)=>d.S args st | some (.s d)=>d.S args st | some (.p d)=>d.S args st | none=>.fail
def lF.free(tab:lF)(g:Nat)(args:List D)(st:St):List Nat:=match tab.find g args with | some (.s d)=>d.free args st | some (.p d)=>d.free args st | _=>[]
theorem lF.VV(tab:lF)(g:Nat)(args:List D)(st:St)(rs:GC)(qm:St)(b:Nat)(h:(tab.call g args st).leads (rs,qm))(I:b∈tab.free g args st):qm[b]? = st[b]? := by
 unfold lF.call at h
 unfold lF.free at I
 split at I
 ·rename_i d J; rw[J]at h; exact gZ.VV h I
 ·rename_i d J; rw[J]at h; exact lE.VV h I
 ·cases I
def lF.Qt(tab:lF)(g:Nat)(args:List D):Option (List Nat):=match tab.find g args with | some (.s d)=>d.Qt args | _=>none
theorem lF.Gp(tab:lF)(g:Nat)(args:List D)(oE:List Nat)(st:St)(rs:GC)(qm:St)(ht:tab.Qt g args=some oE)(h:(tab.call g args st).leads (rs,qm)) :
  qm.length=st.length/\(∀ b,b<st.length->b ∉ oE->qm[b]? = st[b]?)/\∀ x,(tab.call g args (st++[x])).leads (rs,qm++[x]):=by
 unfold lF.Qt at ht
 unfold lF.call at h ⊢
 split at ht
 ·rename_i d J
  rw[J]at h ⊢
  exact gZ.Gp ht h
 ·cases ht
def gO(P:Program)(xid:Nat)(tab:lF)(ro:Nat->Bool):Ctx :=
 { P,xid,ro,sig:=λg args=>match tab.find g args with | some (.d d)=>some ⟨d.ps,d.rs⟩ | _=>none,fn:=tab.call,free:=tab.free,z03:=tab.VV,Qt:=tab.Qt,Pq:=tab.Gp }
def z9b{α:Type}(tab:lF)(g:Nat)(args:List D)(st:St)(k:Nat->Option D->St->T α)(kp:D->St->T α):T α:=match tab.find g args with
 | none=>.fail
 | some (.d d)=>bif !(args.any Jh)then(FB [] d.ps args).bind λx=>(d.F x).bind λy=>k 0 (some (eL (U8 d.rs y))) st
  else(FB st d.ps args).bind λx=>(d.F x).bind λy=>bif (U8 d.rs y).all Wf then k 1 (some (eL (U8 d.rs y))) st else .fail
 | some (.s d)=>d.K args st λds qm=>k 2 (some (eL ds)) qm
 | some (.p d)=>d.K args st (λds qm=>k 2 (some (eL ds)) qm) kp
def C0{α:Type}(tab:lF)(f:Option D)(args:List (Option D))(st:St)(k:Nat->Option D->St->T α)(kp:D->St->T α):T α:=match f,gA args with
 | some (.wh g caps),some l=>z9b tab (ea g) (bH g l caps) st k kp
 | _,_=>.fail
def oi(l:List Nat):Fr:=l.map λs=>(s,none)
def dstsOf:List Oper->List Nat
 | []=>[]
 | o::r=>match o.dst with | some t=>t::dstsOf r | none=>dstsOf r
def wG:Code->List Nat
 | .region _ ops _=>dstsOf ops.toList
 | .seq a b=>wG a++wG b
 | .cond _ a b=>wG a++wG b
 | .block _ a=>wG a
 | .loop a=>wG a
 | _=>[]
structure q9 where
 gh:List Gh
 ps:List It
 sh:ur
 ws:List Way
 F:jT ps->sh.den->T (fP ws)
inductive z4T where
 | flat (fp:List It)
 | ways (ws:List Way)
 | H6
structure Hints where
 loop:Nat->Option q9
 cut:Nat->Nat->Option z4T
 frz:Nat->List Nat
def ri:Code->Option Nat
 | .region id _ _=>some id
 | .seq a b=>match ri a with | some n=>some n | none=>ri b
 | .cond _ a b=>match ri a with | some n=>some n | none=>ri b
 | .block _ a=>ri a
 | .loop a=>ri a
 | _=>none
def keyOf(x:Code):Nat×Nat:=(match x with | .region .. => 0 | .cond .. => 1 | .block .. => 2 | _=>3,match ri x with | some n=>n | none=>0)
def za1(l:List Nat)(s:Nat):Bool := !(l.any (V s))
def KD:Dk->Bool
 | .sub _ _=>false
 | .st _=>false
 | .mclo _ _=>false
 | _=>true
def Ls(ps:List It)(ws:List Nat):Bool:=ps.all λi=>match i with
 | .s t k=>KD k&&za1 ws t
 | _=>false
def Cf{α:Type}:T α->Option α
 | .ret a=>some a
 | .ite _ t e=>match Cf t with | some a=>some a | none=>Cf e
 | .W _ t=>Cf t
 | .fail=>none
def EX{α β:Type}(f:α->β):T α->T β
 | .ret a=>.ret (f a)
 | .ite b t e=>.ite b (EX f t) (EX f e)
 | .W p t=>.W p (EX f t)
 | .fail=>.fail
def SU:(l:List It)->jT l->T (jT l)->jT l
 | [],_,_=>()
 | [_],d,t=>T.val d t
 | _::j::r,d,t=>(T.val d.1 (EX Prod.fst t),SU (j::r) d.2 (EX Prod.snd t))
def z01(l:List It)(t:T (jT l)):T (jT l):=match Cf t with
 | some d=>match t.Uu with
  | none=>.ret (SU l d t)
  | some p=>.W p (.ret (SU l d t))
 | none=>.fail
def Bq(l:List It):Bool:=l.all λi=>match i with
 | .s _ k=>KD k
 | _=>false
structure I0 where
 ex:Ex
 fr:Fr
 kn:Kn
 st:St
 q:Bool      -- the store has not been written
def quiet(ks:List Nat):Bool:=ks.all λk => !(V k 2)
structure zdR where
 e:Ty
 l:List (den e)
 m:Nat
 s:Nat
 c:Nat
 eq:Bool
def z2g:BinOp->Option Bool
 | .eql=>some true
 | .neq=>some false
 | _=>none
def IZ:Operand->Bool
 | .const (.slice none 0 0)=>true
 | _=>false
def CI(c:Ctx)(n:Nat)(ops:Array Oper)(fr:Fr):Option zdR:=match ops.toList with
 | [o1,o2]=>match o1.dst,o1.op,o1.guard with
  | some m,.move (.tmp s),none=>match o2.dst,o2.op,o2.guard with
   | some cc,.binOp op t (.tmp m') y _,none=>match z2g op,fr.get s,mU c t with
    | some b,some (.qj (.sl e) l),some _=>bif V m m'&&IZ y&&zO m n&&zO cc n then some ⟨e,l,m,s,cc,b⟩else none
    | _,_,_=>none
   | _,_,_=>none
  | _,_,_=>none
 | _=>none
def opsOf:Code->Option (Array Oper)
 | .region _ ops false=>some ops
 | _=>none
section
variable (c:Ctx) (tab:lF)
variable [Wm]
def Wi{α:Type}(n:Nat)(o:Oper)(s:oq)(k:oq->T α)(kp:D->St->T α):T α :=
 bif ga n o.dst then match o.op with
  | .call cl=>match cl.callee with
   | .value f=>C0 tab (bq s.fr f) (cl.args.toList.map (bq s.fr)) s.st (λkd d qm=>k ⟨s.fr.put o.dst d,H9 s.kn o.dst none,qm,kd::s.ks,vv c (bq s.fr) s.st o::s.bk⟩) kp
   | _=>let cl:=Qo c s.kn s.fr o
    (qu cl s.st).bind λr=>k ⟨s.fr.put o.dst r.1,H9 s.kn o.dst (H3 s.kn o.op),r.2,cl.kind::s.ks,vv c (bq s.fr) s.st o::s.bk⟩
  | .panic x=>match bq s.fr x with
   | some (.iface t d)=>kp (.iface t d) s.st
   | _=>.fail
  | _=>let cl:=Qo c s.kn s.fr o
   (qu cl s.st).bind λr=>k ⟨s.fr.put o.dst r.1,H9 s.kn o.dst (H3 s.kn o.op),r.2,cl.kind::s.ks,vv c (bq s.fr) s.st o::s.bk⟩
 else .fail
def LJ{α:Type}(n:Nat)(ops:Array Oper)(o:Oper)(s:oq)(k:oq->T α)(kp:D->St->T α):T α:=match o.guard with
 | none=>Wi c tab n o s k kp
 | some (j,want)=>match bw ops j with
  | none=>.fail
  | some t=>match s.kn.get t with
   | some b=>bif b==want then Wi c tab n o s k kp else bif ga n o.dst then k (cG o s)else .fail
   | none=>match s.fr.get t with
    | some (.qj .bool x)=>bif ga n o.dst then
      .ite x (bif want then Wi c tab n o (s.lg t true) k kp else k (cG o (s.lg t true)))
          (bif want then k (cG o (s.lg t false))else Wi c tab n o (s.lg t false) k kp)
     else .fail
    | some (.eD [])=>bif ga n o.dst then k (cG o s)else .fail
    | _=>.fail
def KF{α:Type}(n:Nat)(ops:Array Oper):List Oper->oq->(oq->T α)->(D->St->T α)->T α
 | [],s,k,_=>k s
 | o::l,s,k,kp=>LJ c tab n ops o s (λs'=>KF n ops l s' k kp) kp
def Gb{α:Type}(n:Nat)(ops:Array Oper)(draw:Bool)(fr:Fr)(kn:Kn)(st:St)(k:oq->T α)(kp:D->St->T α):T α :=
 KF c tab n ops ops.toList ⟨fr,kn,st,[],[]⟩ (λs=>bif !draw||WT ops s.ks.reverse s.bk.reverse then k s else .fail) (λd qm=>bif draw then .fail else kp d qm)
def Vu(n:Nat)(H:Hints):Code->Fr->Kn->St->{α:Type}->(I0->T α)->T α
 | .skip,fr,kn,st,_,k=>k ⟨.normal,fr,kn,st,true⟩
 | .region id ops draw,fr,kn,st,_,k=>(frz (H.frz id) fr st).bind λz=>Gb c tab n ops draw z.1 kn z.2 (λs=>k ⟨.normal,s.fr,s.kn,s.st,quiet s.ks&&(H.frz id).isEmpty⟩) (λd qm=>k ⟨.hZ d,[],[],qm,false⟩)
 | .seq a b,fr,kn,st,_,k=>match H.cut (keyOf a).1 (keyOf a).2 with
  | none=>Vu n H a fr kn st λr=>match r.ex with
   | .normal=>Vu n H b r.fr r.kn r.st λo=>k { o with q:=r.q&&o.q }
   | _=>k r
  | some (.flat fp)=>bif Bq fp then
    (z01 fp (Vu n H a fr kn st λo=>match o.ex with
     | .normal=>bif o.q then BF o.fr o.st fp []else .fail
     | _=>.fail)).bind λx=>Vu n H b (nh st fp x++(oi (wG a)++fr)) [] st k
   else .fail
  | some .H6=>match opsOf a with
   | none=>.fail
   | some ops=>match CI c n ops fr with
    | none=>.fail
    | some p =>
     let non:=Vu n H b ((p.c,some (.qj .bool (!p.eq)))::(p.m,some (.qj (.sl p.e) p.l))::fr) [(p.c,some (!p.eq))] st k
     .W (p.l=[]->∀ r,non.leads r->(Vu n H b ((p.c,some (.qj .bool p.eq))::(p.m,some .wE)::(p.s,some .wE)::fr) [(p.c,some p.eq)] st k).leads r) non
  | some (.ways ws)=>bif ws.all λw=>zM st.length w.sh.bs.length then
    (Vu n H a fr kn st λo=>Cu ws o.ex (GP o.ex o.fr) o.st).bind λr=>MD ws r λex out qm=>match E9 ex out with
     | none=>.fail
     | some z=>match z.1 with
      | .normal=>Vu n H b (z.2++(oi (wG a)++fr)) [] qm λo=>k { o with q:=false }
      | e=>k ⟨e,z.2++(oi (wG a)++fr),[],qm,false⟩
   else .fail
 | .cond x a b,fr,kn,st,_,k=>match ry kn x with
  | some true=>Vu n H a fr kn st k
  | some false=>Vu n H b fr kn st k
  | none=>match x with
   | .tmp t=>match fr.get t with
    | some (.qj .bool v)=>.ite v (Vu n H a fr ((t,some true)::kn) st k) (Vu n H b fr ((t,some false)::kn) st k)
    | _=>.fail
   | _=>.fail
 | .block id (.loop b),fr,_,st,_,k=>match H.loop id with
  | none=>.fail
  | some l=>let g:=gh l.gh fr st
   bif zM g.2.length l.sh.bs.length&&Ls l.ps (wG b)&&l.ws.all λw=>zM l.sh.bs.length w.sh.bs.length then
    (BF g.1 g.2 l.ps []).bind λp=>(l.sh.un g.1 g.2).bind λs=>(l.F p s).bind λr=>MD l.ws r λex out qm=>match E9 ex out with
     | none=>.fail
     | some z=>match z.1 with
      | .exit id'=>bif V id' id then k ⟨.normal,z.2++(oi (wG b)++g.1),[],qm,false⟩else k ⟨.exit id',z.2++(oi (wG b)++g.1),[],qm,false⟩
      | .normal=>.fail
      | e=>k ⟨e,z.2++(oi (wG b)++g.1),[],qm,false⟩
   else .fail
 | .block id a,fr,kn,st,_,k=>Vu n H a fr kn st λr=>match r.ex with
  | .exit id'=>bif V id' id then k { r with ex:=.normal } else k r
  | _=>k r
 | .exit id,fr,kn,st,_,k=>k ⟨.exit id,fr,kn,st,true⟩
 | .ret,fr,kn,st,_,k=>k ⟨.ret,fr,kn,st,true⟩
 | _,_,_,_,_,_=>.fail
def z2R(n:Nat)(H:Hints)(l:q9)(b:Code)(p:jT l.ps)(s:l.sh.den):T (l.sh.den⊕fP l.ws) :=
 Vu c tab n H b (l.sh.fr s++nh (l.sh.st s) l.ps p) [] (l.sh.st s) λo=>match o.ex with
  | .normal=>(l.sh.un o.fr o.st).bind λs'=>.ret (.inl s')
  | e=>(Cu l.ws e (GP e o.fr) o.st).bind λr=>.ret (.inr r)
def TZ(H:Hints)(fn:Func)(code:Code)(d:Dy)(x:dT d.ps):T (Dj d.rs) :=
 bif zM (Jf d.ps x).length fn.ntmps then
  Vu c tab fn.ntmps H code (yq (Jf d.ps x) 0) [] [] λo=>match o.ex with
   | .normal=>(nq c o.fr o.st fn.results.toList).bind λds=>z3k o.st d.rs ds
   | .ret=>(nq c o.fr o.st fn.results.toList).bind λds=>z3k o.st d.rs ds
   | _=>.fail
 else .fail
def z2y:List (Nat×Ck)->List Gh
 | []=>[]
 | (s,.cur _ e)::r=>.slot s e::z2y r
 | _::r=>z2y r
def msB:D->Option Nat
 | .ms b _ _ _ _=>some b
 | _=>none
def zp8:Option cJ->List D
 | some (.var d)=>xx d
 | _=>[]
def SF(st:St):List D->List Nat
 | []=>[]
 | .ms b _ _ _ _::r=>b::SF st r
 | .ptr b _::r=>b::((zp8 st[b]?).filterMap msB++SF st r)
 | .agg l::r=>l.filterMap msB++SF st r
 | _::r=>SF st r
def z88(m:Nat):List Nat->List Nat->List Nat
 | seen,[]=>seen
 | seen,b::r=>bif zM m b&&(match pos seen b with | none=>true | some _=>false)then z88 m (seen++[b]) r else z88 m seen r
def canon(m:Nat)(ds:List D)(st:St):List D×St :=
 let mp:=zX m++z88 m [] (SF st ds)
 match iK st mp with
 | some l=>match oj (pos mp) l,Xp (pos mp) ds with
  | some dC,some ds1=>bif cF mp then(ds1,dC)else(ds,st)
  | _,_=>(ds,st)
 | none=>(ds,st)
def ki:List Sk->List D->St->List D×St
 | .row _ e::ks,.wE::l,st=>bif zO 0 e.size then((.ms st.length 0 e 0 0)::(ki ks l (st++[.arr 0 e []])).1,(ki ks l (st++[.arr 0 e []])).2)
  else(.wE::(ki ks l st).1,(ki ks l st).2)
 | _::ks,d::l,st=>(d::(ki ks l st).1,(ki ks l st).2)
 | _,l,st=>(l,st)
def SK:List It->Nat->List Sk
 | [],_=>[]
 | .s t (.st ks)::r,i=>bif V t i then ks else SK r i
 | _::r,i=>SK r i
def tw(fp:List It):Nat->List D->St->List D×St
 | _,[],st=>([],st)
 | i,.agg l::ds,st=>(.agg (ki (SK fp i) l st).1::(tw fp (i+1) ds (ki (SK fp i) l st).2).1,(tw fp (i+1) ds (ki (SK fp i) l st).2).2)
 | i,d::ds,st=>(d::(tw fp (i+1) ds st).1,(tw fp (i+1) ds st).2)
def CY(out:ur)(m:Nat)(ds:List D)(st:St):List D×St :=
 bif (out.fp.all λ| .s _ (.st _)=>false | _=>true)&&(out.cs.all λ| (_,.ptr _ _)=>false | (_,.cur _ _)=>false | _=>true)then(ds,st)
 else canon m (tw out.fp 0 (canon m ds st).1 (canon m ds st).2).1 (tw out.fp 0 (canon m ds st).1 (canon m ds st).2).2
def WG(out:ur)(m nr:Nat)(ds:List D)(st:St):T out.den :=
 bif V ds.length nr then(out.un (gh (z2y out.cs) (yq (CY out m ds st).1 0) (CY out m ds st).2).1 (gh (z2y out.cs) (yq (CY out m ds st).1 0) (CY out m ds st).2).2).bind λy =>
  bif (oO nr (out.fr y)).isSome then .ret y else .fail else .fail
def IC(H:Hints)(fn:Func)(code:Code)(d:gZ)(x:d.sh.den):T d.out.den :=
 bif zM d.ks.length fn.ntmps&&zM d.sh.bs.length d.out.bs.length then
  Vu c tab fn.ntmps H code (d.sh.fr x) [] (d.sh.st x) λo=>match o.ex with
   | .normal=>(nq c o.fr o.st fn.results.toList).bind λds=>WG d.out (d.sh.st x).length d.nr ds o.st
   | .ret=>(nq c o.fr o.st fn.results.toList).bind λds=>WG d.out (d.sh.st x).length d.nr ds o.st
   | _=>.fail
 else .fail
def z9w:List D->Bool
 | .gU::_=>true
 | .wE::_=>true
 | .agg (.wE::_)::_=>true
 | _=>false
def z8u(d:lE)(m:Nat)(ds:List D)(st:St):T (d.out.den⊕d.hZ.den):=match d.two with
 | some n=>bif z9w ds then(WG d.hZ m n ds st).bind λz=>.ret (.inr z)else(WG d.out m d.nr ds st).bind λy=>.ret (.inl y)
 | none=>(WG d.out m d.nr ds st).bind λy=>.ret (.inl y)
def IB(H:Hints)(fn:Func)(code:Code)(d:lE)(x:d.sh.den):T (d.out.den⊕d.hZ.den) :=
 bif zM d.ks.length fn.ntmps&&zM d.sh.bs.length d.out.bs.length&&zM d.sh.bs.length d.hZ.bs.length then
  Vu c tab fn.ntmps H code (d.sh.fr x) [] (d.sh.st x) λo=>match o.ex with
   | .normal=>(nq c o.fr o.st fn.results.toList).bind λds=>z8u d (d.sh.st x).length ds o.st
   | .ret=>(nq c o.fr o.st fn.results.toList).bind λds=>z8u d (d.sh.st x).length ds o.st
   | .hZ p=>match p with
    | .iface t v=>bif V t d.pt&&d.two.isNone then(d.hZ.un [(0,some v)] o.st).bind λz=>match(d.hZ.fr z).get 0 with | some _=>.ret (.inr z) | none=>.fail else .fail
    | _=>.fail
   | _=>.fail
 else .fail
end
end Go.AM
namespace Go.AM
set_option linter.unusedSectionVars false
variable [yY]
open Go.RowKit
section
variable {n:Nat}
theorem z2T{st:St}{τ:Ty}{d:D}{x:den τ}(h:(rpX st τ d).leads x):(Qj st τ d).leads (.vA τ x):=by
 cases d with
 | vA σ y =>
  simp only[rpX]at h
  simp only[Qj]
  cases hy:(jR y:Option (den τ))with
  | none=>rw[hy]at h; exact h.elim
  | some z=>rw[hy]at h; cases h; rfl
 | ptr b off =>
  simp only[rpX]at h
  simp only[Qj]
  cases I:st[b]? with
  | none=>rw[I]at h; exact h.elim
  | some hI =>
   rw[I]at h
   cases hI with
   | var d =>
    simp only at h ⊢
    cases hy:(bif V off 0 then ox τ d else none)with
    | none=>rw[hy]at h; exact h.elim
    | some z=>rw[hy]at h; cases h; rfl
   | _=>exact h.elim
 | _=>exact h.elim
theorem Mu{st:St}{p:UO}{d:D}{x:den p.ty}(h:(z57 st p d).leads x):(QM st p d).leads (Bc p x):=by
 cases p with
 | rp τ=>exact z2T h
 | im τ=>exact T.zd.2 ⟨x,h,rfl⟩
theorem DR{st:St}:∀ (l:List UO) (ds:List D) (x:fO l),(Mv st l ds).leads x->(my st l ds).leads (ZR l x)
 | [],[],x,h=>rfl
 | [],_::_,x,h=>h.elim
 | [p],[],x,h=>h.elim
 | [p],[d],x,h=>T.zd.2 ⟨_,Mu h,T.zd.2 ⟨[],rfl,rfl⟩⟩
 | [p],_::_::_,x,h=>h.elim
 | p::q::r,[],x,h=>h.elim
 | p::q::r,d::ds,x,h=>by
  obtain⟨y,h1,M⟩:=T.zd.1 h
  obtain⟨z,h3,h4⟩:=T.zd.1 M
  cases h4
  exact T.zd.2 ⟨_,Mu h1,T.zd.2 ⟨_,DR (q::r) ds z h3,rfl⟩⟩
theorem z3j{st:St}{p:Vt}{d:D}{x:p.den}(h:(unP st p d).leads x):(DV st p d).leads (mkP p x):=by
 cases p with
 | ty τ=>cases d<;>exact T.zd.2 ⟨x,h,rfl⟩
 | rp τ =>
  have:=z2T h
  cases d<;>exact this
 | wh f caps =>
  cases d with
  | wh f' l =>
   simp only[unP]at h
   simp only[DV]
   cases I:V f f' with
   | false=>rw[I]at h; exact h.elim
   | true=>rw[I]at h; exact T.zd.2 ⟨_,DR caps l x h,rfl⟩
  | _=>exact h.elim
theorem KJ{st:St}:∀ (l:List Vt) (ds:List D) (x:dT l),(FB st l ds).leads x->(Qi st l ds).leads (Jf l x)
 | [],[],x,h=>rfl
 | [],_::_,x,h=>h.elim
 | [p],[],x,h=>h.elim
 | [p],[d],x,h=>T.zd.2 ⟨_,z3j h,T.zd.2 ⟨[],rfl,rfl⟩⟩
 | [p],_::_::_,x,h=>h.elim
 | p::q::r,[],x,h=>h.elim
 | p::q::r,d::ds,x,h=>by
  obtain⟨y,h1,M⟩:=T.zd.1 h
  obtain⟨z,h3,h4⟩:=T.zd.1 M
  cases h4
  exact T.zd.2 ⟨_,z3j h1,T.zd.2 ⟨_,KJ (q::r) ds z h3,rfl⟩⟩
theorem DW(st:St)(τ:Ty)(x:den τ):(VF st τ (.qj τ x)).leads x:=by
 refine T.zd.2 ⟨.qj τ x,rfl,?_⟩
 rw[T.yu]
 exact QJ x
theorem z2S(st:St)(τ:Ty)(x:den τ):(rpX st τ (.vA τ x)).leads x:=by
 simp only[rpX]; rw[QJ]; rfl
theorem Mt(st:St)(p:UO)(x:den p.ty):(z57 st p (Bc p x)).leads x:=by
 cases p with
 | rp τ=>exact z2S st τ x
 | im τ=>exact DW st τ x
theorem DQ(st:St):∀ (l:List UO) (x:fO l),(Mv st l (ZR l x)).leads x
 | [],_=>rfl
 | [p],x=>Mt st p x
 | p::q::r,x=>T.zd.2 ⟨x.1,Mt st p x.1,T.zd.2 ⟨x.2,DQ st (q::r) x.2,rfl⟩⟩
theorem z3i(st:St)(p:Vt)(x:p.den):(unP st p (mkP p x)).leads x:=by
 cases p with
 | ty τ=>exact DW st τ x
 | rp τ=>exact z2S st τ x
 | wh f caps=>simp only[unP,mkP]; rw[qS]; exact DQ st caps x
theorem Db(st:St):∀ (l:List Vt) (x:dT l),(FB st l (Jf l x)).leads x
 | [],_=>rfl
 | [p],x=>z3i st p x
 | p::q::r,x=>T.zd.2 ⟨x.1,z3i st p x.1,T.zd.2 ⟨x.2,Db st (q::r) x.2,rfl⟩⟩
def eB:D->Option Nat | .wh f _=>some f | _=>none
theorem z5j(p:Vt){d e:D}(h:eB d=eB e):zb2 p d=zb2 p e:=by
 cases d<;>cases e<;>simp only[eB]at h<;>first | (cases h; done) | (cases p<;>first | rfl | (cases h; rfl))
theorem ME:∀ (ps:List Vt) {l m:List D},l.map eB=m.map eB->fits ps l=fits ps m
 | [],[],[],_=>rfl
 | [],_::_,_::_,_=>rfl
 | _,[],_::_,h=>by cases h
 | _,_::_,[],h=>by cases h
 | _::_,[],[],_=>rfl
 | p::ps,d::l,e::m,h=>by
  simp at h
  simp only[fits,z5j p h.1,ME ps h.2]
theorem TL{st:St}{τ:Ty}{f:Nat}{l:List D}{x:den τ}(h:(VF st τ (.wh f l)).leads x):False:=by
 obtain⟨y,h1,M⟩:=T.zd.1 h
 cases h1
 rw[T.yu]at M
 cases τ<;>simp[ox,D.isAgg,Ty.isAgg,xx,cH,pI]at M
theorem BG{st:St}{p:Vt}{d:D}{x:p.den}(h:(unP st p d).leads x):eB d=eB (mkP p x):=by
 cases p with
 | ty τ=>cases d<;>first | rfl | exact(TL h).elim
 | rp τ=>cases d<;>first | rfl | exact h.elim
 | wh f caps =>
  cases d with
  | wh f' l =>
   simp only[unP]at h
   cases I:V f f' with
   | false=>rw[I]at h; exact h.elim
   | true=>rw[zA I]; rfl
  | _=>exact h.elim
theorem Gt{st:St}:∀ (l:List Vt) (ds:List D) (x:dT l),(FB st l ds).leads x->ds.map eB=(Jf l x).map eB
 | [],[],x,h=>rfl
 | [],_::_,x,h=>h.elim
 | [p],[],x,h=>h.elim
 | [p],[d],x,h=>by show[eB d]=[eB (mkP p x)]; rw[BG h]
 | [p],_::_::_,x,h=>h.elim
 | p::q::r,[],x,h=>h.elim
 | p::q::r,d::ds,x,h=>by
  obtain⟨y,h1,M⟩:=T.zd.1 h
  obtain⟨z,h3,h4⟩:=T.zd.1 M
  cases h4
  show eB d::ds.map eB=eB (mkP p y)::(Jf (q::r) z).map eB
  rw[BG h1,Gt (q::r) ds z h3]
def dat(d:D):Bool:=match d with | .qj _ _=>true | .vA _ _=>true | .wh _ _=>true | _=>false
theorem OF(p:Vt)(x:p.den):dat (mkP p x)=true:=by cases p<;>rfl
theorem F1:∀ (l:List Vt) (x:dT l),∀ d∈Jf l x,dat d=true
 | [],x,d,h=>by cases h
 | [p],x,d,h=>by have h:d∈[mkP p x]:=h; rw[zL]at h; subst h; exact OF p x
 | p::q::r,x,d,h=>by
  rcases zH.1 h with rfl | h
  ·exact OF p x.1
  ·exact F1 (q::r) x.2 d h
theorem z00{a:AK}{d e:D}(h:eB d=eB e)(J:dat e=true)(hf:zb3 a e=true):zb3 a d=true:=by
 cases e with
 | qj τ x=>cases a<;>first | (cases hf; done) | (cases d<;>first | rfl | (cases h; done))
 | vA τ x=>cases a<;>first | (cases hf; done) | (cases d<;>first | rfl | (cases h; done))
 | wh f l=>cases a<;>first | (cases hf; done) | (cases d<;>first | (cases h; exact hf) | cases h)
 | _=>cases J
theorem J3:∀ {ks:List AK} {l m:List D},l.map eB=m.map eB->(∀ d∈m,dat d=true)->Qp ks m=true->Qp ks l=true
 | [],[],[],_,_,_=>rfl
 | [],_::_,[],h,_,_=>by cases h
 | [],_,_::_,_,_,hf=>by cases hf
 | _::_,_,[],_,_,hf=>by cases hf
 | k::ks,[],_::_,h,_,_=>by cases h
 | k::ks,d::l,e::m,h,J,hf=>by
  simp at h
  simp only[Qp,X]at hf ⊢
  exact⟨z00 h.1 (J e zQ) hf.1,J3 h.2 (λx N=>J x (zI _ N)) hf.2⟩
theorem lF.find_eq:∀ (t:lF) (g:Nat) {l m:List D} {d:Dy},l.map eB=m.map eB->(∀ d∈m,dat d=true)->t.find g l=some (.d d)->t.find g m=some (.d d)
 | [],_,_,_,_,_,_,h=>h
 | (g',.d d')::r,g,l,m,d,h,hm,hf=>by
  simp only[lF.find,FnE.fits]at hf ⊢
  rw[<- ME d'.ps h]
  cases I:V g' g&&fits d'.ps l with
  | true=>grind
  | false=>rw[I,cond_false]at hf; rw[cond_false]; exact lF.find_eq r g h hm hf
 | (g',.s d')::r,g,l,m,d,h,hm,hf=>by
  simp only[lF.find,FnE.fits]at hf ⊢
  cases I:V g' g&&Qp d'.ks l with
  | true=>grind
  | false =>
   rw[I,cond_false]at hf
   have:(V g' g&&Qp d'.ks m)=false:=by
    cases hg:V g' g with
    | false=>rfl
    | true =>
     rw[hg]at I
     cases hk:Qp d'.ks m with
     | false=>rfl
     | true=>rw[J3 h hm hk]at I; cases I
   rw[this,cond_false]
   exact lF.find_eq r g h hm hf
 | (g',.p d')::r,g,l,m,d,h,hm,hf=>by
  simp only[lF.find,FnE.fits]at hf ⊢
  cases I:V g' g&&Qp d'.ks l with
  | true=>grind
  | false =>
   rw[I,cond_false]at hf
   have:(V g' g&&Qp d'.ks m)=false:=by
    cases hg:V g' g with
    | false=>rfl
    | true =>
     rw[hg]at I
     cases hk:Qp d'.ks m with
     | false=>rfl
     | true=>rw[J3 h hm hk]at I; cases I
   rw[this,cond_false]
   exact lF.find_eq r g h hm hf
theorem lF.VS:∀ {t:lF} {g:Nat} {l:List D} {d:FnE},t.find g l=some d->(g,d)∈t
 | [],_,_,_,h=>by cases h
 | (g',d')::r,g,l,d,h=>by
  simp only[lF.find]at h
  cases I:V g' g&&d'.fits l with
  | true =>
   rw[I,cond_true]at h
   cases h
   simp only[X]at I
   rw[zA I.1]
   simp
  | false=>rw[I,cond_false]at h; exact zI _ (lF.VS h)
def q8(P:Program)(g:Nat)(d:Dy):Prop:=∀ (O:KS) (x:dT d.ps) (xb:List Value) (y:Dj d.rs),O.st=[]->(d.F x).leads y->Inv O->wN O (Jf d.ps x) xb ->
 gy P g xb.toArray O.w λe w'=>∃ E:KS,E.w=w'/\E.st=[]/\Inv E/\Ext O E/\jd E (.ret (U8 d.rs y)) e
def Dz(P:Program)(g:Nat):FnE->Prop
 | .d d=>q8 P g d
 | .s d=>xr P g d
 | .p d=>jB P g d
def ek(P:Program)(t:lF):Prop:=∀ p∈t,Dz P p.1 p.2
theorem SP(P:Program):ek P []:=by nofun
theorem D5{P:Program}{g:Nat}{d:FnE}{t:lF}(h:Dz P g d)(ht:ek P t):ek P ((g,d)::t):=by
 intro p hp
 rcases zH.1 hp with rfl | hp
 ·exact h
 ·exact ht p hp
theorem LQ{P:Program}{g:Nat}{d:Dy}{t:lF}(h:q8 P g d)(ht:ek P t):ek P ((g,.d d)::t):=D5 (d:=.d d) h ht
theorem Fy{P:Program}{g:Nat}{d:gZ}{t:lF}(h:xr P g d)(ht:ek P t):ek P ((g,.s d)::t):=D5 (d:=.s d) h ht
theorem Fx{P:Program}{g:Nat}{d:lE}{t:lF}(h:jB P g d)(ht:ek P t):ek P ((g,.p d)::t):=D5 (d:=.p d) h ht
theorem Dy.snd{P:Program}{g:Nat}{d:Dy}(h:q8 P g d):Di P g d.S:=by
 intro O args xb rs qm R B ha
 unfold Dy.S at R
 split at R
 ·rename_i vX
  obtain⟨x,h1,M⟩:=T.zd.1 R
  obtain⟨y,h3,h4⟩:=T.zd.1 M
  cases h4
  exact h O x xb y vX h3 B (US ha (KJ _ _ _ h1))
 ·exact R.elim
theorem CE{P:Program}{xid:Nat}{tab:lF}{ro:Nat->Bool}(h:ek P tab):∀ g,Di (gO P xid tab ro).P g ((gO P xid tab ro).fn g):=by
 intro g O args xb rs qm R B ha
 simp only[gO,lF.call]at R
 split at R
 ·rename_i d J
  exact Dy.snd (h _ (lF.VS J):Dz P g (.d d)) O args xb rs qm R B ha
 ·rename_i d J
  exact gZ.snd (h _ (lF.VS J):Dz P g (.s d)) O args xb rs qm R B ha
 ·rename_i d J
  exact lE.snd (h _ (lF.VS J):Dz P g (.p d)) O args xb rs qm R B ha
 ·exact R.elim
section
variable {P:Program} {xid:Nat} {tab:lF} {ro:Nat->Bool} {α:Type}
def Mh(c:Ctx)(f:Option D)(args:List (Option D))(st:St)(d:D)(qm:St):Prop :=
 ∃ g caps l,f=some (.wh g caps)/\gA args=some l/\(c.fn (ea g) (bH g l caps) st).leads (.hZ d,qm)
def Mj(c:Ctx)(o:Oper)(s:oq)(d:D)(qm:St):Prop :=
 (∃ x t e,o.op=.panic x/\bq s.fr x=some d/\d=.iface t e/\qm=s.st) \/
 ∃ f args sw,o.op=.call ⟨.value f,args,sw⟩/\Mh c (bq s.fr f) (args.toList.map (bq s.fr)) s.st d qm
theorem Ir{f:Option D}{args:List (Option D)}{st:St}{k:Nat->Option D->St->T α}{kp:D->St->T α}{r:α}(h:(C0 tab f args st k kp).leads r) :
  (∃ d qm,(qu (eO (gO P xid tab ro) f args) st).leads (d,qm)/\(k (eO (gO P xid tab ro) f args).kind d qm).leads r) \/
  ∃ d qm,Mh (gO P xid tab ro) f args st d qm/\(kp d qm).leads r:=by
 unfold C0 at h
 split at h
 ·rename_i g caps l R
  unfold z9b at h
  split at h
  ·exact h.elim
  ·rename_i d J
   have RM:(gO P xid tab ro).sig (ea g) (bH g l caps)=some ⟨d.ps,d.rs⟩:=by simp only[gO]; rw[J]
   have z0G:eO (gO P xid tab ro) (some (.wh g caps)) args=en (gO P xid tab ro) (ea g) ⟨d.ps,d.rs⟩ (bH g l caps):=by simp only[eO,R,RM]
   rw[z0G]
   have hfn:∀ {st0:St} (x:dT d.ps) (y:Dj d.rs),(FB st0 d.ps (bH g l caps)).leads x->(d.F x).leads y->((gO P xid tab ro).fn (ea g) (Jf d.ps x) []).leads (.ret (U8 d.rs y),[]):=by
    intro st0 x y N hy
    simp only[gO,lF.call]
    rw[lF.find_eq tab (ea g) (Gt _ _ _ N) (F1 d.ps x) J]
    exact T.zd.2 ⟨x,Db [] d.ps x,T.zd.2 ⟨y,hy,rfl⟩⟩
   cases hn : !((bH g l caps).any Jh)with
   | true =>
    rw[hn,cond_true]at h
    obtain⟨x,h1,M⟩:=T.zd.1 h
    obtain⟨y,h3,h4⟩:=T.zd.1 M
    have hc:en (gO P xid tab ro) (ea g) ⟨d.ps,d.rs⟩ (bH g l caps)=.val ((Qi [] d.ps (bH g l caps)).bind λl=>((gO P xid tab ro).fn (ea g) l []).bind z2P):=by
     unfold en; rw[hn]; rfl
    rw[hc]
    refine .inl ⟨_,_,T.zd.2 ⟨_,T.zd.2 ⟨_,KJ _ _ _ h1,T.zd.2 ⟨_,hfn x y h1 h3,rfl⟩⟩,rfl⟩,h4⟩
   | false =>
    rw[hn,cond_false]at h
    obtain⟨x,h1,M⟩:=T.zd.1 h
    obtain⟨y,h3,h4⟩:=T.zd.1 M
    have hc:en (gO P xid tab ro) (ea g) ⟨d.ps,d.rs⟩ (bH g l caps)=.rd λst=>(Qi st d.ps (bH g l caps)).bind λl=>((gO P xid tab ro).fn (ea g) l []).bind Wc:=by
     unfold en; rw[hn]; rfl
    rw[hc]
    cases hs:(U8 d.rs y).all Wf with
    | false=>rw[hs]at h4; exact h4.elim
    | true =>
     rw[hs]at h4
     refine .inl ⟨_,_,T.zd.2 ⟨_,T.zd.2 ⟨_,KJ _ _ _ h1,T.zd.2 ⟨_,hfn x y h1 h3,?_⟩⟩,rfl⟩,h4⟩
     simp only[Wc,hs,cond_true]
     rfl
  ·rename_i d J
   have RM:(gO P xid tab ro).sig (ea g) (bH g l caps)=none:=by simp only[gO]; rw[J]
   have z0G:eO (gO P xid tab ro) (some (.wh g caps)) args=sA (gO P xid tab ro) (ea g) (bH g l caps):=by simp only[eO,R,RM]
   rw[z0G]
   obtain⟨ds,qm,h1,M⟩:=gZ.Te h
   refine .inl ⟨_,qm,T.zd.2 ⟨(.ret ds,qm),?_,rfl⟩,M⟩
   simp only[gO,lF.call]
   grind
  ·rename_i d J
   have RM:(gO P xid tab ro).sig (ea g) (bH g l caps)=none:=by simp only[gO]; rw[J]
   have z0G:eO (gO P xid tab ro) (some (.wh g caps)) args=sA (gO P xid tab ro) (ea g) (bH g l caps):=by simp only[eO,R,RM]
   rw[z0G]
   rcases lE.Te h with⟨ds,qm,h1,M⟩ | ⟨p,qm,h1,M⟩
   ·refine .inl ⟨_,qm,T.zd.2 ⟨(.ret ds,qm),?_,rfl⟩,M⟩
    simp only[gO,lF.call]
    grind
   ·refine .inr ⟨p,qm,⟨g,caps,l,rfl,R,?_⟩,M⟩
    simp only[gO,lF.call]
    grind
 ·exact h.elim
theorem Qb{o:Oper}{s:oq}{k:oq->T α}{kp:D->St->T α}{r:α}(h:(Wi (gO P xid tab ro) tab n o s k kp).leads r) :
  (∃ s',(l0 (gO P xid tab ro) n o s).leads s'/\(k s').leads r)\/∃ d qm,Mj (gO P xid tab ro) o s d qm/\(kp d qm).leads r:=by
 unfold Wi at h
 unfold l0
 cases J:ga n o.dst with
 | false=>rw[J]at h; exact h.elim
 | true =>
  rw[J,cond_true]at h
  rw[cond_true]
  obtain⟨dst,op,ty,pos,after,guard⟩:=o
  have gen:((qu (Qo (gO P xid tab ro) s.kn s.fr ⟨dst,op,ty,pos,after,guard⟩) s.st).bind λr=>k ⟨s.fr.put dst r.1,H9 s.kn dst (H3 s.kn op),r.2,(Qo (gO P xid tab ro) s.kn s.fr ⟨dst,op,ty,pos,after,guard⟩).kind::s.ks,vv (gO P xid tab ro) (bq s.fr) s.st ⟨dst,op,ty,pos,after,guard⟩::s.bk⟩).leads r ->
    ∃ s',(let cl:=Qo (gO P xid tab ro) s.kn s.fr ⟨dst,op,ty,pos,after,guard⟩; (qu cl s.st).bind λr=>T.ret (⟨s.fr.put dst r.1,H9 s.kn dst (H3 s.kn op),r.2,cl.kind::s.ks,vv (gO P xid tab ro) (bq s.fr) s.st ⟨dst,op,ty,pos,after,guard⟩::s.bk⟩:oq)).leads s'/\(k s').leads r:=by
   intro h
   obtain⟨x,h1,M⟩:=T.zd.1 h
   exact⟨_,T.zd.2 ⟨x,h1,rfl⟩,M⟩
  cases op with
  | call cl =>
   obtain⟨callee,args,sw⟩:=cl
   cases callee with
   | value f =>
    rcases Ir (P:=P) (xid:=xid) (ro:=ro) h with⟨d,qm,h1,M⟩ | ⟨d,qm,h1,M⟩
    ·exact .inl ⟨_,T.zd.2 ⟨(d,qm),h1,rfl⟩,M⟩
    ·exact .inr ⟨d,qm,.inr ⟨f,args,sw,rfl,h1⟩,M⟩
   | _=>grind
  | panic x =>
   simp only at h
   split at h
   ·rename_i t e N
    exact .inr ⟨_,_,.inl ⟨x,t,e,rfl,N,rfl,rfl⟩,h⟩
   ·exact h.elim
  | _=>grind
theorem SL{ops:Array Oper}{o:Oper}{s:oq}{k:oq->T α}{kp:D->St->T α}{r:α}(hkn:yC s.kn s.fr.get)(h:(LJ (gO P xid tab ro) tab n ops o s k kp).leads r) :
  (∃ s',(stepG (gO P xid tab ro) n ops o s).leads s'/\(k s').leads r)\/∃ d qm,jF ops s.fr.get o=some true/\Mj (gO P xid tab ro) o s d qm/\(kp d qm).leads r:=by
 obtain⟨dst,op,ty,pos,after,guard⟩:=o
 cases guard with
 | none =>
  rcases Qb h with h | ⟨d,qm,h1,M⟩
  ·exact .inl h
  ·exact .inr ⟨d,qm,rfl,h1,M⟩
 | some jw =>
  obtain⟨j,want⟩:=jw
  simp only[LJ]at h
  simp only[stepG]
  cases hg:bw ops j with
  | none=>rw[hg]at h; exact h.elim
  | some t =>
   rw[hg]at h
   simp only at h ⊢
   cases hk:s.kn.get t with
   | some b =>
    rw[hk]at h
    simp only at h ⊢
    have hw:jF ops s.fr.get ⟨dst,op,ty,pos,after,some (j,want)⟩=some (b==want):=by simp[jF,hg,hkn t b hk]
    cases I:b==want with
    | true =>
     rw[I,cond_true]at h; rw[cond_true]
     rcases Qb h with h | ⟨d,qm,h1,M⟩
     ·grind
     ·grind
    | false =>
     rw[I,cond_false]at h; rw[cond_false]
     cases J:ga n dst with
     | true=>rw[J,cond_true]at h; exact .inl ⟨_,rfl,h⟩
     | false=>rw[J,cond_false]at h; exact h.elim
   | none =>
    rw[hk]at h
    simp only at h ⊢
    split at h
    ·rename_i x hf
     rw[hf]
     simp only
     have hw:jF ops s.fr.get ⟨dst,op,ty,pos,after,some (j,want)⟩=some (x==want):=by simp[jF,hg,hf]
     cases J:ga n dst with
     | false=>rw[J]at h; exact h.elim
     | true =>
      rw[J,cond_true]at h; rw[cond_true]
      rcases h with⟨N,h⟩ | ⟨N,h⟩
      ·subst N
       cases want with
       | true =>
        rw[cond_true]at h
        rcases Qb h with⟨s',h1,M⟩ | ⟨d,qm,h1,M⟩
        ·exact .inl ⟨s',.inl ⟨rfl,h1⟩,M⟩
        ·exact .inr ⟨d,qm,hw,h1,M⟩
       | false=>rw[cond_false]at h; exact .inl ⟨_,.inl ⟨rfl,rfl⟩,h⟩
      ·subst N
       cases want with
       | true=>rw[cond_true]at h; exact .inl ⟨_,.inr ⟨rfl,rfl⟩,h⟩
       | false =>
        rw[cond_false]at h
        rcases Qb h with⟨s',h1,M⟩ | ⟨d,qm,h1,M⟩
        ·exact .inl ⟨s',.inr ⟨rfl,h1⟩,M⟩
        ·exact .inr ⟨d,qm,hw,h1,M⟩
    ·rename_i hf
     rw[hf]
     simp only
     cases J:ga n dst with
     | true=>rw[J,cond_true]at h; exact .inl ⟨_,rfl,h⟩
     | false=>rw[J,cond_false]at h; exact h.elim
    ·exact h.elim
def I1(c:Ctx)(n:Nat)(ops:Array Oper)(l:List Oper)(s:oq)(d:D)(qm:St):Prop :=
 ∃ pre o post s1,l=pre++o::post/\(tA c n ops pre s).leads s1/\jF ops s1.fr.get o=some true/\Mj c o s1 d qm
theorem Vk{ops:Array Oper}:∀ (l:List Oper) {s:oq} {k:oq->T α} {kp:D->St->T α} {r:α},yC s.kn s.fr.get->(∀ o∈l,∃ i:Nat,ops[i]? = some o)->(KF (gO P xid tab ro) tab n ops l s k kp).leads r ->
  (∃ s',(tA (gO P xid tab ro) n ops l s).leads s'/\(k s').leads r)\/∃ d qm,I1 (gO P xid tab ro) n ops l s d qm/\(kp d qm).leads r
 | [],s,k,kp,r,_,_,h=>.inl ⟨s,rfl,h⟩
 | o::l,s,k,kp,r,hk,R,h=>by
  rcases SL hk h with⟨s1,h1,M⟩ | ⟨d,qm,h1,M,h3⟩
  ·obtain⟨i,hi⟩:=R o zQ
   obtain⟨_,_,hk1,_⟩:=By hi hk h1
   rcases Vk l hk1 (λo' ho=>R o' (zI _ ho)) M with⟨s2,h3,h4⟩ | ⟨d,qm,⟨pre,o',post,s2,e,g1,g2,g3⟩,h4⟩
   ·exact .inl ⟨s2,T.zd.2 ⟨s1,h1,h3⟩,h4⟩
   ·exact .inr ⟨d,qm,⟨o::pre,o',post,s2,xy,T.zd.2 ⟨s1,h1,g1⟩,g2,g3⟩,h4⟩
  ·exact .inr ⟨d,qm,⟨[],o,l,s,rfl,rfl,h1,M⟩,h3⟩
theorem Ha{ops:Array Oper}{draw:Bool}{fr:Fr}{kn:Kn}{st:St}{k:oq->T α}{kp:D->St->T α}{r:α}(hk:yC kn fr.get)(h:(Gb (gO P xid tab ro) tab n ops draw fr kn st k kp).leads r) :
  (∃ s',(pC (gO P xid tab ro) n ops draw fr kn st).leads s'/\(k s').leads r)\/∃ d qm,draw=false/\I1 (gO P xid tab ro) n ops ops.toList ⟨fr,kn,st,[],[]⟩ d qm/\(kp d qm).leads r:=by
 rcases Vk _ hk (λo ho=>by obtain⟨i,hi,he⟩:=List.getElem_of_mem ho; exact⟨i,xy⟩) h with⟨s',h1,M⟩ | ⟨d,qm,h1,M⟩
 ·cases J : !draw||WT ops s'.ks.reverse s'.bk.reverse with
  | false=>rw[J]at M; exact M.elim
  | true =>
   rw[J,cond_true]at M
   refine .inl ⟨s',T.zd.2 ⟨s',h1,?_⟩,M⟩
   rw[J]; rfl
 ·cases draw with
  | true=>exact M.elim
  | false=>grind
end
end
end Go.AM
namespace Go.AM
set_option linter.unusedSectionVars false
variable [yY] [Hk]
open Go.RowKit
theorem YI{α β:Type}{f:α->β}{t:T α}{x:α}(h:t.leads x):(EX f t).leads (f x):=by
 induction t with
 | ret a=>exact congrArg f h
 | ite b p q ip iq=>exact rP h (λh=>⟨h.1,ip h.2⟩) (λh=>⟨h.1,iq h.2⟩)
 | W p t ih=>exact⟨h.1,ih h.2⟩
 | fail=>exact h.elim
theorem Pv:∀ (l:List It) (d:jT l) (t:T (jT l)) (x:jT l),t.leads x->SU l d t=x
 | [],_,_,_,_=>rfl
 | [_],d,t,x,h=>((T.G6 d t x).1 h).2
 | i::j::r,d,t,x,h=>by
  have h1:=((T.G6 d.1 _ _).1 (YI (f:=Prod.fst) h)).2
  have M:=Pv (j::r) d.2 _ _ (YI (f:=Prod.snd) h)
  show(T.val d.1 (EX Prod.fst t),SU (j::r) d.2 (EX Prod.snd t))=x
  rw[h1,M]
  exact rfl
theorem SC{α:Type}(t:T α)(h:t.Ke):∃ x,t.leads x:=by
 induction t with
 | ret a=>exact⟨a,rfl⟩
 | ite b p q ip iq =>
  unfold T.Ke at h ip iq
  simp only[T.Uu]at h
  cases b with
  | true =>
   obtain⟨x,N⟩:=ip (xy)
   exact⟨x,.inl ⟨rfl,N⟩⟩
  | false =>
   obtain⟨x,N⟩:=iq (xy)
   exact⟨x,.inr ⟨rfl,N⟩⟩
 | W p t ih =>
  unfold T.Ke at h ih
  simp only[T.Uu]at h
  cases ht:t.Uu with
  | none=>rw[ht]at h ih; obtain⟨x,N⟩:=ih trivial; exact⟨x,h,N⟩
  | some q=>rw[ht]at h ih; obtain⟨x,N⟩:=ih h.2; exact⟨x,h.1,N⟩
 | fail=>exact h.elim
theorem Ee{l:List It}{t:T (jT l)}{x:jT l}(h:(z01 l t).leads x):t.leads x:=by
 unfold z01 at h
 split at h
 ·rename_i d J
  have key:t.Ke->SU l d t=x->t.leads x:=by
   intro hp hv
   obtain⟨y,hy⟩:=SC t hp
   rw[<- hv,Pv l d t y hy]; exact hy
  split at h
  ·rename_i hn; exact key (by unfold T.Ke; rw[hn]; trivial) h
  ·rename_i p hn; exact key (by unfold T.Ke; rw[hn]; exact h.1) h.2
 ·exact h.elim
def RIs(ws:List Way)(r:fP ws)(w:Way)(x:w.sh.den):Prop:=∀ {α:Type} (k:Ex->Fr->St->T α),MD ws r k=k w.ex (w.sh.fr x) (w.sh.st x)
theorem Cv:∀ (ws:List Way) (ex:Ex) (fr:Fr) (st:St) (r:fP ws),(Cu ws ex fr st).leads r->∃ w,w∈ws/\∃ x:w.sh.den,RIs ws r w x/\Xt w.ex ex=true/\(w.sh.un fr st).leads x
 | [],_,_,_,_,h=>h.elim
 | [w],ex,fr,st,r,h=>by
  have h:(bif Xt w.ex ex then w.sh.un fr st else .fail:T w.sh.den).leads r:=h
  cases hs:Xt w.ex ex with
  | false=>rw[hs]at h; exact h.elim
  | true=>rw[hs]at h; exact⟨w,qz,r,λk=>rfl,hs,h⟩
 | w::v::ws,ex,fr,st,r,h=>by
  have h:(bif Xt w.ex ex then(w.sh.un fr st).bind λx=>T.ret (qR x:w.sh.den⊕fP (v::ws))else(Cu (v::ws) ex fr st).bind λy=>T.ret (qM y)).leads r:=h
  cases hs:Xt w.ex ex with
  | true =>
   rw[hs]at h
   obtain⟨x,h1,M⟩:=T.zd.1 h
   subst M
   exact⟨w,qz,x,λk=>rfl,hs,h1⟩
  | false =>
   rw[hs]at h
   obtain⟨y,h1,M⟩:=T.zd.1 h
   subst M
   obtain⟨w',k1,x,k2,k3,k4⟩:=Cv (v::ws) ex fr st y h1
   exact⟨w',zI _ k1,x,λk=>k2 k,k3,k4⟩
def zaL(O:KS)(n:Nat)(w:Way)(z:w.sh.den)(a:Act)(sI:Exit):Prop:=∀ q,E9 w.ex (w.sh.fr z)=some q->Rel O n q.2.get a/\Dv O q.1 sI
theorem z3m{κ0 O:KS}{n:Nat}{a:Act}{w:Way}{z:w.sh.den}{oex:Ex}{ofr:Fr}{sI:Exit}(N:Ext κ0 O)(B:Inv O)(hR:Rel O n ofr.get a)(he:Dv O oex sI)(hs:Xt w.ex oex=true)(R:κ0.st.length<=w.sh.bs.length)
  (h:(w.sh.un (GP oex ofr) O.st).leads z):∃ κ1:KS,κ1.w=O.w/\κ1.st=w.sh.st z/\Inv κ1/\Ext κ0 κ1/\zaL κ1 n w z a sI:=by
 have plain:GP oex ofr=ofr->(∀ q,E9 w.ex (w.sh.fr z)=some q->q.2=w.sh.fr z/\∀ κ1:KS,Dv κ1 q.1 sI)->∃ κ1:KS,κ1.w=O.w/\κ1.st=w.sh.st z/\Inv κ1/\Ext κ0 κ1/\zaL κ1 n w z a sI:=by
  intro e1 e2
  rw[e1]at h
  obtain⟨κ1,q1,q2,q3,q4,q5,_⟩:=w.sh.K0 (n:=n) N B hR R h
  exact⟨κ1,q1,q2,q3,q4,λq hq=>by obtain⟨g1,g2⟩:=e2 q hq; rw[g1]; exact⟨q5,g2 κ1⟩⟩
 cases hw:w.ex with
 | normal =>
  rw[hw]at hs
  cases oex<;>first | (cases hs; done) | skip
  exact plain rfl λq hq=>by rw[hw]at hq; cases hq; exact⟨rfl,λ_=>he⟩
 | ret =>
  rw[hw]at hs
  cases oex<;>first | (cases hs; done) | skip
  exact plain rfl λq hq=>by rw[hw]at hq; cases hq; exact⟨rfl,λ_=>he⟩
 | exit id =>
  rw[hw]at hs
  cases oex<;>first | (cases hs; done) | skip
  rename_i id'
  have:id=id':=zA hs
  subst this
  exact plain rfl λq hq=>by rw[hw]at hq; cases hq; exact⟨rfl,λ_=>he⟩
 | hZ p =>
  rw[hw]at hs
  cases p<;>first | (cases hs; done) | skip
  rename_i t p
  cases oex<;>first | (cases hs; done) | skip
  rename_i p'
  cases p'<;>first | (cases hs; done) | skip
  rename_i t' d
  have:t=t':=zA hs
  subst this
  obtain⟨v,rfl,hv⟩:=he
  cases hv with
  | iface _ _ u hu =>
   have HI:Rel O 1 (GP (.hZ (.iface t d)) ofr).get { tmps := #[u],defers:=Hk.df }:=by
    refine⟨rfl,rfl,λs d' J => ?_⟩
    simp only[GP,Fr.get]at J
    cases I:V 0 s with
    | true =>
     have:=zA I
     grind
    | false=>grind
   obtain⟨κ1,q1,q2,q3,q4,q5,_⟩:=w.sh.K0 (n:=1) N B HI R h
   refine⟨κ1,q1,q2,q3,q4,λq hq => ?_⟩
   rw[hw]at hq
   simp only[E9]at hq
   split at hq
   ·rename_i d' eb
    cases hq
    obtain⟨v',g1,g2⟩:=q5.get 0 d' eb
    cases g1
    exact⟨⟨hR.size,hR.defers,λs d J=>by cases J⟩,_,rfl,.iface t d' _ g2⟩
   ·cases hq
theorem Z3(st:St):∀ (bs:List Bk) (bd:List Bd),(jE st bs bd).length<=bs.length
 | [],_=>by simp[jE]
 | .arr _::r,[]=>by simp[jE]
 | .arr _::r,.v _ _::_=>by simp[jE]
 | .arr _::r,.a _ _::d=>by have:=Z3 st r d; simp[jE]; exact this
 | .var _::r,[]=>by simp[jE]
 | .var _::r,.a _ _::_=>by simp[jE]
 | .var _::r,.v _ _::d=>by have:=Z3 st r d; simp[jE]; exact this
 | .cvar _::r,d=>by have:=Z3 st r d; cases d<;>(simp[jE]; exact this)
 | .dead::r,d=>by have:=Z3 st r d; cases d<;>(simp[jE]; exact this)
theorem ur.Xv(s:ur)(x:s.den):(s.st x).length<=s.bs.length:=Z3 _ _ _
theorem JA{l m:Fr}{s:Nat}{d:D}(h:(l++m).get s=some d):l.get s=some d\/m.get s=some d:=by
 induction l with
 | nil=>grind
 | cons p r ih =>
  simp only[qJ,Fr.get]at h ⊢
  grind
theorem Su{l:List Nat}{fr:Fr}{s:Nat}{d:D}(h:(oi l++fr).get s=some d):s ∉ l/\fr.get s=some d:=by
 induction l with
 | nil=>exact⟨qz,h⟩
 | cons t r ih =>
  simp only[oi,qI,qJ,Fr.get]at h
  cases ht:V t s with
  | true=>grind
  | false =>
   rw[ht,cond_false]at h
   obtain⟨h1,M⟩:=ih h
   refine⟨?_,M⟩
   simp
   exact⟨λe=>by subst e; simp at ht,h1⟩
theorem VQ{o:Oper}{s:Nat}:∀ {l:List Oper},o∈l->o.dst=some s->s∈dstsOf l
 | p::r,h,hs=>by
  simp only[dstsOf]
  rcases zH.1 h with rfl | h
  ·grind
  ·split
   ·exact zI _ (VQ h hs)
   ·exact VQ h hs
def Kept(code:Code)(a a':Act):Prop:=∀ s:Nat,s ∉ wG code->a'.tmps[s]? = a.tmps[s]?
section
variable {P:Program} {xid:Nat} {tab:lF} {ro:Nat->Bool} {n:Nat} {H:Hints}
theorem Wa{O E:KS}{fr out:Fr}{a a':Act}{ws:List Nat}(hR:Rel O n fr.get a)(N:Ext O E)(ho:Rel E n out.get a')(hk:∀ s:Nat,s ∉ ws->a'.tmps[s]? = a.tmps[s]?):Rel E n (out++(oi ws++fr)).get a':=by
 refine⟨ho.size,ho.defers,λs d J => ?_⟩
 rcases JA J with h | h
 ·exact ho.get s d h
 ·obtain⟨h1,M⟩:=Su h
  obtain⟨v,g1,g2⟩:=hR.get s d M
  exact⟨v,(hk s h1).trans g1,g2.mono N⟩
theorem D1{c:Ctx}{ops:Array Oper}:∀ (l:List Oper) (s s':oq),(tA c n ops l s).leads s'->quiet s'.ks=true->s'.st=s.st/\quiet s.ks=true:=by
 have hq:∀ {k:Nat} {ks:List Nat},quiet (k::ks)=true->V k 2=false/\quiet ks=true:=by
  intro k ks h
  simp only[quiet,zF,X,qF]at h
  exact⟨h.1,by unfold quiet; exact h.2⟩
 have one:∀ (o:Oper) (s s1:oq),(l0 c n o s).leads s1->quiet s1.ks=true->s1.st=s.st/\quiet s.ks=true:=by
  intro o s s1 h hk
  unfold l0 at h
  cases J:ga n o.dst with
  | false=>rw[J]at h; exact h.elim
  | true =>
   rw[J,cond_true]at h
   obtain⟨r,h1,M⟩:=T.zd.1 h
   cases M
   obtain⟨g1,g2⟩:=hq hk
   refine⟨?_,g2⟩
   show r.2=s.st
   generalize Qo c s.kn s.fr o=cl at h1 g1
   cases cl with
   | val t=>obtain⟨d,_,h3⟩:=T.zd.1 h1; cases h3; rfl
   | rd k=>obtain⟨d,_,h3⟩:=T.zd.1 h1; cases h3; rfl
   | wr k=>cases g1
 have skp:∀ (o:Oper) (s:oq),quiet (cG o s).ks=true->(cG o s).st=s.st/\quiet s.ks=true:=λo s h=>⟨rfl,(hq h).2⟩
 have gd:∀ (o:Oper) (s s1:oq),(stepG c n ops o s).leads s1->quiet s1.ks=true->s1.st=s.st/\quiet s.ks=true:=by
  intro o s s1 h hk
  obtain⟨dst,op,ty,pos,after,guard⟩:=o
  cases guard with
  | none=>exact one _ s s1 h hk
  | some jw =>
   obtain⟨j,want⟩:=jw
   simp only[stepG]at h
   cases hg:bw ops j with
   | none=>rw[hg]at h; exact h.elim
   | some t =>
    rw[hg]at h
    simp only at h
    cases hkn:s.kn.get t with
    | some b =>
     rw[hkn]at h
     simp only at h
     cases I:b==want with
     | true=>grind
     | false =>
      rw[I,cond_false]at h
      cases J:ga n dst with
      | false=>rw[J]at h; exact h.elim
      | true=>rw[J,cond_true]at h; cases h; exact skp _ s hk
    | none =>
     rw[hkn]at h
     simp only at h
     split at h
     ·cases J:ga n dst with
      | false=>rw[J]at h; exact h.elim
      | true =>
       rw[J,cond_true]at h
       rcases h with⟨_,h⟩ | ⟨_,h⟩
       ·cases want with
        | true=>rw[cond_true]at h; exact one _ (s.lg t true) s1 h hk
        | false=>rw[cond_false]at h; cases h; exact skp _ (s.lg t true) hk
       ·cases want with
        | true=>rw[cond_true]at h; cases h; exact skp _ (s.lg t false) hk
        | false=>rw[cond_false]at h; exact one _ (s.lg t false) s1 h hk
     ·cases J:ga n dst with
      | false=>rw[J]at h; exact h.elim
      | true=>rw[J,cond_true]at h; cases h; exact skp _ s hk
     ·exact h.elim
 intro l
 induction l with
 | nil=>intro s s' h hk; cases h; exact⟨rfl,hk⟩
 | cons o l ih =>
  intro s s' h hk
  obtain⟨s1,h1,M⟩:=T.zd.1 h
  obtain⟨g1,g2⟩:=ih s1 s' M hk
  obtain⟨k1,k2⟩:=gd o s s1 h1 g2
  exact⟨g1.trans k1,k2⟩
theorem CV{c:Ctx}{ops:Array Oper}{draw:Bool}{fr:Fr}{kn:Kn}{st:St}{s':oq}(h:(pC c n ops draw fr kn st).leads s')(hq:quiet s'.ks=true):s'.st=st:=by
 obtain⟨s1,h1,M⟩:=T.zd.1 h
 cases J:(!draw||WT ops s1.ks.reverse s1.bk.reverse)with
 | false=>rw[J]at M; exact M.elim
 | true=>rw[J,cond_true]at M; cases M; exact(D1 _ _ _ h1 hq).1
theorem TC{c:Ctx}{O:KS}{a:Act}{o:Oper}{g:Nat}{args:Array Value}{hl:Ending->World->Prop}(jM:(execOp a.eval o).run c.P O.w=(callFunc g args).run c.P O.w)
  (h:gy c.P g args O.w hl) {K:Act->World->Prop} {Q:Exit->Act->World->Prop} (hR:∀ e w',hl e w'->∃ ch,e=.panicked ch/\Q (.panic ch) a w'):o.wp c.P a O.w K Q:=by
 unfold Oper.wp
 rw[jM]
 rcases h with⟨h1,M⟩ | ⟨v,w',h1,M⟩
 ·rw[h1]
  refine M.mono λe w' he => ?_
  grind
 ·grind
theorem z2E{c:Ctx}{O:KS}{n:Nat}{a:Act}{o:Oper}{s:oq}{d:D}{qm:St}(hC:∀ g,Di c.P g (c.fn g))(B:Inv O)(hR:Rel O n s.fr.get a)(vX:O.st=s.st)(h:Mj c o s d qm){K:Act->World->Prop}{Q:Exit->Act->World->Prop}
  (hQ:∀ (v:Value) (E:KS),E.st=qm->Inv E->Ext O E->RD E d v->Q (.panic [{ v,recovered:=false }]) a E.w):o.wp c.P a O.w K Q:=by
 have lv:∀ (x:Operand) (z:D),bq s.fr x=some z->RD O z (a.eval x):=λx z hz=>hR.eval (by rw[<- ig]; exact hz)
 obtain⟨dst,op,ty,pos,after,guard⟩:=o
 rcases h with⟨x,t,e,rfl,N,rfl,rfl⟩ | ⟨f,args,sw,rfl,g,caps,l,hp,R,hc⟩
 ·have hv:=lv x _ N
  generalize EA:a.eval x=pv at hv
  cases hv with
  | iface _ _ u hu =>
   have jM:(execOp a.eval ⟨dst,.panic x,ty,pos,after,guard⟩).run c.P O.w=.halt (.panic (.iface t u)) O.w:=by
    simp[execOp,EA,Instr.panic]
   unfold Oper.wp
   rw[jM]
   exact hQ _ O vX B (Ext.refl O) (.iface t e u hu)
 ·have hpv:=lv f _ hp
  have hr:=fA (O:=O) (vs:=args.toList.map a.eval) R (qz) (λi d v J hv=>by
      simp only[List.getElem?_map]at J hv
      cases hi:args.toList[i]? with
      | none=>grind
      | some x=>rw[hi]at J hv; simp at J hv; subst hv; exact lv x d J)
  generalize EA:a.eval f=pv at hpv
  cases hpv with
  | wh _ _ us ZL hh2 =>
   have ZK:=Y1 g hr (⟨ZL,hh2⟩:wN O caps us)
   rw[<- vX]at hc
   refine TC (c:=c) (O:=O) (g:=ea g) (args:=(bH g (args.toList.map a.eval) us).toArray) ?_ (hC (ea g) O _ _ _ _ hc B ZK) ?_
   ·exact DO EA
   ·rintro e w' ⟨E,rfl,h1,M,h3,v,rfl,h4⟩
    grind
theorem SA{c:Ctx}{O:KS}{n:Nat}{a:Act}{id:Nat}{ops:Array Oper}{fr:Fr}{kn:Kn}{d:D}{qm:St}(hC:∀ g,Di c.P g (c.fn g))(B:Inv O)(hR:Rel O n fr.get a)(hk:yC kn fr.get)
  (h:I1 c n ops ops.toList ⟨fr,kn,O.st,[],[]⟩ d qm) {Q:Exit->Act->World->Prop}
  (hQ:∀ (v:Value) (a':Act) (E:KS),E.st=qm->Inv E->Ext O E->Rel E n (Fr.get []) a'->pE ops a a'->RD E d v->Q (.panic [{ v,recovered:=false }]) a' E.w):(Code.region id ops false).wp c.P Q a O.w:=by
 obtain⟨pre,o,post,s1,e,h1,M,h3⟩:=h
 have RG:∀ j:Nat,ops[j]? = (pre++o::post)[j]? := λj=>by rw[<- e]; simp
 obtain⟨ks,g1,g2,_⟩:=rT pre 0 ⟨fr,kn,O.st,[],[]⟩ s1 (λj=>by
  by_cases hj:j<pre.length
  ·grind
  ·right; omega) hk h1
 have bI:zX ops.size=List.range' 0 pre.length++pre.length::List.range' (pre.length+1) post.length:=by
  have:ops.size=pre.length+(post.length+1):=by rw[<- qB,e]; simp
  rw[this,List.range_eq_range',<- List.range'_append_1,qD,List.range'_succ]
 refine wp_region ?_
 rw[bI]
 refine Jj hC _ _ B hR rfl g1 λa' E e1 e2 e3 e4 e5 => ?_
 rw[wpOps_cons]
 unfold wpOp
 have ho:ops[pre.length]? = some o:=by rw[RG]; simp
 rw[ho]
 simp only
 rw[if_pos (Ze e4 M)]
 exact .inl (z2E hC e2 e4 e1 h3 λv SW f1 f2 f3 f4=>hQ v a' SW f1 f2 (e3.trans f3) ⟨e4.size,e4.defers,λs d J=>by cases J⟩ e5 f4)
def Vw(P:Program)(n:Nat)(l:q9)(b:Code):Prop:=∀ (O:KS) (a:Act) (p:jT l.ps) (s:l.sh.den) (r:fP l.ws),(l.F p s).leads r->O.st=l.sh.st s->Inv O ->
 Rel O n (l.sh.fr s).get a->Rel O n (nh (l.sh.st s) l.ps p).get a->Ls l.ps (wG b)=true->(∀ w∈l.ws,l.sh.bs.length<=w.sh.bs.length) ->
 ∀ Q:Exit->Act->World->Prop,(∀ (w:Way) (x:w.sh.den) (sI:Exit) (a':Act) (E:KS),w∈l.ws->RIs l.ws r w x->E.st=w.sh.st x->Inv E->Ext O E->zaL E n w x a' sI->Kept b a a'->Q sI a' E.w) ->
  (Code.loop b).wp P Q a O.w
def gz(P:Program)(n:Nat)(H:Hints)(code:Code):Prop:=∀ p∈ua code,∀ l,H.loop p.1=some l->Vw P n l p.2
theorem z05{kn:Kn}:∀ (l:List Nat) {fr:Fr} {st:St} {r:Fr×St},(frz l fr st).leads r->yC kn fr.get->yC kn r.1.get
 | [],fr,st,r,h,hk=>by cases h; exact hk
 | s::l,fr,st,r,h,hk=>by
  obtain⟨x,h1,M⟩:=T.zd.1 h
  refine z05 l M λt b I => ?_
  have hf:=hk t b I
  unfold z5r at h1
  cases hW:zM 1000000 s with
  | true =>
   rw[hW,cond_true]at h1
   have hfr:x.1=fr:=by
    unfold z5p at h1
    split at h1
    ·split at h1
     ·split at h1
      ·split at h1
       ·obtain⟨_,h1⟩:=h1; cases h1; rfl
       ·exact h1.elim
      ·exact h1.elim
     ·cases h1; rfl
    ·cases h1; rfl
   grind
  | false =>
  rw[hW,cond_false]at h1
  unfold z5n at h1
  split at h1
  ·rename_i b' vi e off len hs
   split at h1
   ·split at h1
    ·obtain⟨_,h1⟩:=h1
     cases h1
     simp only[Fr.get]
     cases ht:V s t with
     | true=>rw[<- zA ht,hs]at hf; cases hf
     | false=>grind
    ·exact h1.elim
   ·exact h1.elim
  ·cases h1; exact hf
theorem z2V{c:Ctx}{t e:Nat}(hu:c.P.underlying t=some (.slice e)){op:BinOp}{b:Bool}(hop:z2g op=some b)(px py:Operand)(w:World)(x:Option Addr)(l k:Nat) :
  (do eqGuard op t px py (.slice x l k) (.slice none 0 0); binOp op t (.slice x l k) (.slice none 0 0):Sem Value).run c.P w=.ok (.bool (if b=true then x.isNone else !x.isNone)) w:=by
 cases op<;>simp only[z2g]at hop<;>cases hop
 ·have:=run_eql_slice_nil (P:=c.P) w t e x l k hu
  simp only[eqGuard]
  simpa using this
 ·have:=run_neq_slice_nil (P:=c.P) w t e x l k hu
  simp only[eqGuard]
  simpa using this
theorem Le{ops:Array Oper}{fr:Fr}{p:zdR}(hp:CI (gO P xid tab ro) n ops fr=some p){O:KS}{a:Act}{kn:Kn}(B:Inv O)(hR:Rel O n fr.get a)(hk:yC kn fr.get){id:Nat}(Q:Exit->Act->World->Prop)
  (hQ:∀ a':Act,Kept (.region id ops false) a a' ->
   ((p.l=[]/\Rel O n (Fr.get ((p.c,some (.qj .bool p.eq))::(p.m,some .wE)::(p.s,some .wE)::fr)) a')\/Rel O n (Fr.get ((p.c,some (.qj .bool (!p.eq)))::(p.m,some (.qj (.sl p.e) p.l))::fr)) a')->Q .normal a' O.w) :
  (Code.region id ops false).wp P Q a O.w:=by
 unfold CI at hp
 split at hp
 ·rename_i o1 o2 hops
  split at hp
  ·rename_i m s hd1 ho1 T0
   split at hp
   ·rename_i cc op t m' y ty' hd2 ho2 hg2
    split at hp
    ·rename_i b e l et hop hs hel
     cases hc:V m m'&&IZ y&&zO m n&&zO cc n with
     | false=>grind
     | true =>
      rw[hc,cond_true]at hp
      cases hp
      simp only[X]at hc
      obtain⟨⟨⟨hmm,hy⟩,hmn⟩,hcn⟩:=hc
      have:=zA hmm
      subst this
      have hy':y=.const (.slice none 0 0):=by
       unfold IZ at hy
       grind
      subst hy'
      obtain⟨v,hv,eb⟩:=hR.get s _ hs
      obtain⟨x,k,hvs⟩:∃ (x:Option Addr) (k:Nat),v=.slice x l.length k/\(x=none->l=[]/\k=0):=by
       rcases(eb.jG rfl).tB with⟨rfl,a0,he⟩ | ⟨blk,off,cap,f,he,j3,jg,h1,M⟩
       ·grind
       ·grind
      obtain⟨rfl,hvn⟩:=hvs
      have bI:ops.size=2:=by rw[<- qB,hops]; rfl
      have e0:ops[0]? = some o1:=by rw[<- qO,hops]; rfl
      have e1:ops[1]? = some o2:=by rw[<- qO,hops]; rfl
      have znj:m<n:=zE hmn
      have zrB:cc<n:=zE hcn
      have hsl:a.tmps.getD s undef=.slice x l.length k:=by simp[qC,hv]
      have wan:∀ (o:Oper) (ys:Nat->Option Value),o.guard=none->True:=λ_ _ _=>trivial
      refine wp_region ?_
      rw[bI,show zX 2=[0,1]from rfl,wpOps_cons]
      unfold wpOp
      rw[e0]
      simp only
      rw[if_pos (by unfold Region.wanted; rw[T0])]
      refine .inl ?_
      obtain⟨d1,op1,ty1,zcQ,af1,gu1⟩:=o1
      obtain⟨d2,op2,BE,z8w,af2,gu2⟩:=o2
      simp only at hd1 ho1 T0 hd2 ho2 hg2
      subst hd1 ho1 T0 hd2 ho2 hg2
      have hx1:(execOp a.eval ⟨some m,.move (.tmp s),ty1,zcQ,af1,none⟩).run P O.w=.ok (.value (.slice x l.length k)) O.w:=by
       simp[execOp,Act.eval,hsl]
      unfold Oper.wp
      rw[hx1,Oper.upon_value,wpOps_cons]
      unfold wpOp
      rw[e1]
      simp only
      rw[if_pos (by unfold Region.wanted; rfl)]
      refine .inl ?_
      have lv:(a.put (some m) (.slice x l.length k)).eval (.tmp m)=.slice x l.length k:=by
       have:=hR.size
       simp[Act.eval,Act.put,qC,qA,this,znj]
      have hu:=yJ hel
      have jM:=z2V (c:=gO P xid tab ro) hu hop (.tmp m) (.const (.slice none 0 0)) O.w x l.length k
      have MN:(execOp (a.put (some m) (.slice x l.length k)).eval ⟨some cc,.binOp op t (.tmp m) (.const (.slice none 0 0)) ty',BE,z8w,af2,none⟩).run P O.w=.ok (.value (.bool (if b=true then x.isNone else !x.isNone))) O.w:=by
       have hex:execOp (a.put (some m) (.slice x l.length k)).eval ⟨some cc,.binOp op t (.tmp m) (.const (.slice none 0 0)) ty',BE,z8w,af2,none⟩ =
        (do Pure.pure (.value (<- (do eqGuard op t (.tmp m) (.const (.slice none 0 0)) ((a.put (some m) (.slice x l.length k)).eval (.tmp m)) (.slice none 0 0); binOp op t ((a.put (some m) (.slice x l.length k)).eval (.tmp m)) (.slice none 0 0))))):=rfl
       rw[hex,lv,Sem.run_bind]
       rw[show(do eqGuard op t (.tmp m) (.const (.slice none 0 0)) (.slice x l.length k) (.slice none 0 0); binOp op t (.slice x l.length k) (.slice none 0 0):Sem Value).run P O.w=_ from jM]
       rfl
      unfold Oper.wp
      rw[MN,Oper.upon_value]
      have zgd:∀ (q:Nat) (u:Value) (a1:Act) (t:Nat),(a1.put (some q) u).tmps[t]? = if q=t then(if q<a1.tmps.size then some u else none)else a1.tmps[t]? := by
       intro q u a1 t
       simp only[Act.put,qA]
      have T8:(a.put (some m) (.slice x l.length k)).tmps.size=n:=by simp[Act.put,hR.size]
      have hs2:((a.put (some m) (.slice x l.length k)).put (some cc) (.bool (if b=true then x.isNone else !x.isNone))).tmps.size=n:=by simp[Act.put,hR.size]
      refine hQ _ (λt ht => ?_) ?_
      ·have hw:wG (.region id ops false)=[m,cc]:=by simp only[wG,hops,dstsOf]
       grind
      ·have get:∀ (t:Nat),((a.put (some m) (.slice x l.length k)).put (some cc) (.bool (if b=true then x.isNone else !x.isNone))).tmps[t]? = if cc=t then some (.bool (if b=true then x.isNone else !x.isNone))else if m=t then some (.slice x l.length k)else a.tmps[t]? := by
        grind
       have z86:∀ {i j:Nat},V i j=false->i≠j:=λh e=>by subst e; simp at h
       cases x with
       | none =>
        obtain⟨R,Dm⟩:=hvn rfl
        subst R Dm
        refine .inl ⟨rfl,hs2,hR.defers,λt d J => ?_⟩
        rw[get]
        simp only[Fr.get]at J
        cases h1:V cc t with
        | true =>
         rw[h1,cond_true]at J; cases J
         rw[if_pos (zA h1)]
         refine⟨_,rfl,?_⟩
         cases b<;>exact .bool
        | false =>
         rw[h1,cond_false]at J
         rw[if_neg (z86 h1)]
         cases M:V m t with
         | true=>rw[M,cond_true]at J; cases J; rw[if_pos (zA M)]; exact⟨_,rfl,.wE⟩
         | false =>
          rw[M,cond_false]at J
          rw[if_neg (z86 M)]
          cases h3:V s t with
          | true=>rw[h3,cond_true]at J; cases J; rw[<- zA h3]; exact⟨_,hv,.wE⟩
          | false=>rw[h3,cond_false]at J; exact hR.get t d J
       | some x =>
        refine .inr ⟨hs2,hR.defers,λt d J => ?_⟩
        rw[get]
        simp only[Fr.get]at J
        cases h1:V cc t with
        | true =>
         rw[h1,cond_true]at J; cases J
         rw[if_pos (zA h1)]
         refine⟨_,rfl,?_⟩
         cases b<;>exact .bool
        | false =>
         rw[h1,cond_false]at J
         rw[if_neg (z86 h1)]
         cases M:V m t with
         | true=>rw[M,cond_true]at J; cases J; rw[if_pos (zA M)]; exact⟨_,rfl,eb⟩
         | false=>rw[M,cond_false]at J; rw[if_neg (z86 M)]; exact hR.get t d J
    ·cases hp
   ·cases hp
  ·cases hp
 ·cases hp
theorem Rq{id:Nat}{b:Code}(I:∀ b',b≠.loop b')(fr:Fr)(kn:Kn)(st:St){α:Type}(k:I0->T α):Vu (gO P xid tab ro) tab n H (.block id b) fr kn st k=Vu (gO P xid tab ro) tab n H b fr kn st λr=>match r.ex with
  | .exit id'=>bif V id' id then k { r with ex:=.normal } else k r
  | _=>k r:=by
 cases b<;>first | rfl | exact absurd rfl (I _)
theorem QY(hm:(gO P xid tab ro).P.follows .mixedOrders=true)(hT:ek P tab):∀ (code:Code),gz P n H code->∀ {fr:Fr} {kn:Kn} {O:KS} {a:Act} {α:Type} {k:I0->T α} {r:α},
  (Vu (gO P xid tab ro) tab n H code fr kn O.st k).leads r->Inv O->Rel O n fr.get a->yC kn fr.get ->
  ∀ Q:Exit->Act->World->Prop,(∀ (o:I0) (sI:Exit) (a':Act) (E:KS),(k o).leads r->E.st=o.st->Inv E->Ext O E->Rel E n o.fr.get a'->yC o.kn o.fr.get->Kept code a a'->(o.q=true->o.st=O.st)->Dv E o.ex sI->Q sI a' E.w) ->
   code.wp P Q a O.w:=by
 intro code
 induction code with
 | skip=>intro _ fr kn O a α k r h B hR hk Q hQ; exact wp_skip (hQ _ _ a O h rfl B (Ext.refl O) hR hk (λ_ _=>rfl) (λ_=>rfl) rfl)
 | exit id=>intro _ fr kn O a α k r h B hR hk Q hQ; exact wp_exit (hQ _ _ a O h rfl B (Ext.refl O) hR hk (λ_ _=>rfl) (λ_=>rfl) rfl)
 | ret=>intro _ fr kn O a α k r h B hR hk Q hQ; exact wp_ret (hQ _ _ a O h rfl B (Ext.refl O) hR hk (λ_ _=>rfl) (λ_=>rfl) rfl)
 | region id ops draw =>
  intro _ fr kn O a α k r h B hR hk Q hQ
  simp only[Vu]at h
  obtain⟨z,h0,h⟩:=T.zd.1 h
  obtain⟨κ0,w1,w2,w3,w4,w5⟩:=z06 _ h0 B hR
  have Dm:=z05 _ h0 hk
  rcases Ha Dm h with⟨s,h1,M⟩ | ⟨d,qm,rfl,h1,M⟩
  rotate_left
  ·rw[<- w2]at h1
   rw[<- w1]
   exact SA (CE hT) w3 w5 Dm h1 λv a' E e1 e2 e3 e4 e5 e6=>hQ ⟨.hZ d,[],[],qm,false⟩ _ a' E M e1 e2 (w4.trans e3) e4 (nd _) (λt ht=>e5 t λo ho he=>ht (VQ ho he)) (λhq=>by cases hq) ⟨v,rfl,e6⟩
  rw[<- w2]at h1
  have Ku:=SG Dm h1
  rw[<- w1]
  refine(SH hm (CE hT) w3 w5 Dm h1 λa' E e1 e2 e3 e4 e5=>hQ ⟨.normal,s.fr,s.kn,s.st,quiet s.ks&&(H.frz id).isEmpty⟩ _ a' E M e1 e2 (w4.trans e3) e4 Ku (λt ht=>e5 t λo ho he=>ht (VQ ho he)) (λhq => ?_) rfl).1
  simp only[X]at hq
  have he:H.frz id=[]:=zW.1 hq.2
  rw[he]at h0
  cases h0
  exact(CV h1 hq.1).trans w2
 | seq x y ix iy =>
  intro R fr kn O a α k r h B hR hk Q hQ
  have hlx:gz P n H x:=λp hp=>R p (by simp only[ua,zN]; exact .inl hp)
  have hly:gz P n H y:=λp hp=>R p (by simp only[ua,zN]; exact .inr hp)
  have kx:∀ {a a':Act},Kept x a a'->Kept (.seq x y) a a':=λh s hs=>h s λe=>hs (by simp only[wG,zN]; exact .inl e)
  have ky:∀ {a a':Act},Kept y a a'->Kept (.seq x y) a a':=λh s hs=>h s λe=>hs (by simp only[wG,zN]; exact .inr e)
  simp only[Vu]at h
  split at h
  ·refine wp_seq (ix hlx h B hR hk _ λo sI a' E e0 e1 e2 e3 e4 SX e5 e5q e6 => ?_)
   cases hex:o.ex<;>rw[hex]at e0 e6<;>simp only at e0
   ·cases e6
    refine iy hly (O:=E) (e1▸e0) e2 e4 SX Q λo' Cb a'' SW f0 f1 f2 f3 f4 HE f5 FQ f6=>hQ { o' with q:=o.q&&o'.q } Cb a'' SW f0 f1 f2 (e3.trans f3) f4 HE (λs hs=>(ky f5 s hs).trans (kx e5 s hs)) ?_ f6
    grind
   ·cases e6; exact hQ o _ a' E e0 e1 e2 e3 e4 SX (kx e5) e5q (by rw[hex]; rfl)
   ·cases e6; exact hQ o _ a' E e0 e1 e2 e3 e4 SX (kx e5) e5q (by rw[hex]; rfl)
   ·obtain⟨v,rfl,hv⟩:=e6
    exact hQ o _ a' E e0 e1 e2 e3 e4 SX (kx e5) e5q (by rw[hex]; exact⟨v,rfl,hv⟩)
  ·rename_i fp hcu
   cases hw:Bq fp with
   | false=>rw[hw]at h; exact h.elim
   | true =>
    rw[hw,cond_true]at h
    obtain⟨z,h1,M⟩:=T.zd.1 h
    have h1:=Ee h1
    refine wp_seq (ix hlx h1 B hR hk _ λo sI a' E e0 e1 e2 e3 e4 SX e5 e5q e6 => ?_)
    cases hex:o.ex<;>rw[hex]at e0 e6<;>simp only at e0
    ·cases e6
     cases hq:o.q with
     | false=>rw[hq]at e0; exact e0.elim
     | true =>
      rw[hq,cond_true]at e0
      have vX:o.st=O.st:=e5q hq
      have hRz:Rel E n (nh O.st fp z).get a':=by
       refine⟨e4.size,e4.defers,λt d J => ?_⟩
       obtain⟨k',y',d0,g0,g1,g2,g3⟩:=(UF (p:=λ_=>true) (qm:=O.st) fp [] z (λ_ _=>rfl) e0).2 _ (get_mem J)
       cases g3
       obtain⟨v,q1,q2⟩:=e4.get _ _ g1
       have Yi:=zP.1 hw _ g0
       have Yi:KD k'=true:=Yi
       have hwk:Wk E E:=⟨rfl,rfl,rfl,rfl,λb d h=>⟨d,h⟩,λb v e xs h=>.inl h,λb v e xs h=>h,λb h=>h⟩
       have j3:F8 [] k'=true:=by cases k'<;>first | rfl | cases Yi
       rw[<- e1]at g2
       have:=Da hwk (bs:=[]) j3 (λ_ _=>rfl) (qm:=E.st) (λ_ _=>rfl) (λ_ h=>by simp[rowAt]at h) g2 q2
       grind
      have HI:=Wa hR e3 hRz e5
      refine iy hly (O:=E) (by rw[e1,vX]; exact M) e2 HI (nd _) Q λo' Cb a'' SW f0 f1 f2 f3 f4 HE f5 FQ f6=>hQ o' Cb a'' SW f0 f1 f2 (e3.trans f3) f4 HE (λs hs=>(ky f5 s hs).trans (kx e5 s hs)) (λhq=>(FQ hq).trans (e1.trans vX)) f6
    ·exact e0.elim
    ·exact e0.elim
    ·exact e0.elim
  ·rename_i hcu
   cases hop:opsOf x with
   | none=>rw[hop]at h; exact h.elim
   | some ops =>
    rw[hop]at h
    simp only at h
    cases hp:CI (gO P xid tab ro) n ops fr with
    | none=>rw[hp]at h; exact h.elim
    | some p =>
     rw[hp]at h
     obtain⟨Yh,zg5⟩:=h
     obtain⟨id,rfl⟩:∃ id,x=.region id ops false:=by
      cases x with
      | region id ops' draw =>
       cases draw with
       | true=>cases hop
       | false=>cases hop; exact⟨id,rfl⟩
      | _=>cases hop
     refine wp_seq (Le hp B hR hk _ ?_)
     intro a' hk1 zfD
     rcases zfD with⟨R,HI⟩ | HI
     ·refine iy hly (O:=O) (Yh R _ zg5) B HI (λt b I => ?_) Q λo' Cb a'' SW f0 f1 f2 f3 f4 HE f5 FQ f6=>hQ o' Cb a'' SW f0 f1 f2 f3 f4 HE (λs hs=>(ky f5 s hs).trans (kx hk1 s hs)) FQ f6
      simp only[Kn.get]at I
      simp only[Fr.get]
      grind
     ·refine iy hly (O:=O) zg5 B HI (λt b I => ?_) Q λo' Cb a'' SW f0 f1 f2 f3 f4 HE f5 FQ f6=>hQ o' Cb a'' SW f0 f1 f2 f3 f4 HE (λs hs=>(ky f5 s hs).trans (kx hk1 s hs)) FQ f6
      simp only[Kn.get]at I
      simp only[Fr.get]
      cases ht:V p.c t with
      | true=>rw[ht,cond_true]at I; rw[cond_true]; cases I; rfl
      | false=>rw[ht,cond_false]at I; cases I
  ·rename_i ws hcu
   cases hw:ws.all λw=>zM O.st.length w.sh.bs.length with
   | false=>rw[hw]at h; exact h.elim
   | true =>
    rw[hw,cond_true]at h
    obtain⟨rr,GD,M⟩:=T.zd.1 h
    refine wp_seq (ix hlx GD B hR hk _ λo sI a' E e0 e1 e2 e3 e4 SX e5 _ e6 => ?_)
    obtain⟨w,g1,z,g2,g3,g4⟩:=Cv _ _ _ _ _ e0
    have hwl:=zP.1 hw w g1
    obtain⟨κ1,q1,q2,q3,q4,q5⟩:=z3m (n:=n) e3 e2 e4 e6 g3 (zE hwl) (by rw[e1]; exact g4)
    rw[g2]at M
    split at M
    ·exact M.elim
    rename_i zz hzz
    obtain⟨q5,z0J⟩:=q5 zz hzz
    have HI:=Wa hR q4 q5 e5
    rw[<- q1]
    cases hex:zz.1<;>rw[hex]at M z0J<;>simp only at M
    ·cases z0J
     exact iy hly (O:=κ1) (by rw[q2]; exact M) q3 HI (nd _) Q λo' Cb a'' SW f0 f1 f2 f3 f4 HE f5 _ f6=>hQ { o' with q:=false } Cb a'' SW f0 f1 f2 (q4.trans f3) f4 HE (λs hs=>(ky f5 s hs).trans (kx e5 s hs)) (λhq=>by cases hq) f6
    ·cases z0J; exact hQ _ _ a' κ1 M q2 q3 q4 HI (nd _) (kx e5) (λhq=>by cases hq) rfl
    ·cases z0J; exact hQ _ _ a' κ1 M q2 q3 q4 HI (nd _) (kx e5) (λhq=>by cases hq) rfl
    ·obtain⟨v,rfl,hv⟩:=z0J
     exact hQ _ _ a' κ1 M q2 q3 q4 HI (nd _) (kx e5) (λhq=>by cases hq) ⟨v,rfl,hv⟩
 | cond x p q ip iq =>
  intro R fr kn O a α k r h B hR hk Q hQ
  have hlp:gz P n H p:=λz hz=>R z (by simp only[ua,zN]; exact .inl hz)
  have RI:gz P n H q:=λz hz=>R z (by simp only[ua,zN]; exact .inr hz)
  have kp:∀ {a a':Act},Kept p a a'->Kept (.cond x p q) a a':=λh s hs=>h s λe=>hs (by simp only[wG,zN]; exact .inl e)
  have kq:∀ {a a':Act},Kept q a a'->Kept (.cond x p q) a a':=λh s hs=>h s λe=>hs (by simp only[wG,zN]; exact .inr e)
  have hQp:=λ(o:I0) (sI:Exit) (a':Act) (E:KS) f0 f1 f2 f3 f4 HE (f5:Kept p a a') FQ f6=>hQ o sI a' E f0 f1 f2 f3 f4 HE (kp f5) FQ f6
  have hQq:=λ(o:I0) (sI:Exit) (a':Act) (E:KS) f0 f1 f2 f3 f4 HE (f5:Kept q a a') FQ f6=>hQ o sI a' E f0 f1 f2 f3 f4 HE (kq f5) FQ f6
  simp only[Vu]at h
  split at h
  ·rename_i N
   have hv:wA fr.get x=some (.qj .bool true):=lZ hk N
   exact wp_cond_true (hR.eval hv).cp (ip hlp h B hR hk Q hQp)
  ·rename_i N
   have hv:wA fr.get x=some (.qj .bool false):=lZ hk N
   exact wp_cond_false (hR.eval hv).cp (iq RI h B hR hk Q hQq)
  ·split at h
   ·split at h
    ·rename_i v hv
     have he:=hv
     rw[show ∀ t,fr.get t=wA fr.get (.tmp t)from λ_=>rfl]at he
     rcases h with⟨rfl,h⟩ | ⟨rfl,h⟩
     ·exact wp_cond_true (hR.eval he).cp (ip hlp h B hR (XT hk hv) Q hQp)
     ·exact wp_cond_false (hR.eval he).cp (iq RI h B hR (XT hk hv) Q hQq)
    ·exact h.elim
   ·exact h.elim
 | block id b ib =>
  intro R fr kn O a α k r h B hR hk Q hQ
  by_cases I:∃ b',b=.loop b'
  ·obtain⟨b,rfl⟩:=I
   simp only[Vu]at h
   split at h
   ·exact h.elim
   ·rename_i l hll
    cases hc:zM (gh l.gh fr O.st).2.length l.sh.bs.length&&Ls l.ps (wG b)&&l.ws.all λw=>zM l.sh.bs.length w.sh.bs.length with
    | false=>rw[hc]at h; exact h.elim
    | true =>
     rw[hc,cond_true]at h
     simp only[X,zP]at hc
     obtain⟨⟨RE,hc2⟩,hc3⟩:=hc
     obtain⟨p,h1,h⟩:=T.zd.1 h
     obtain⟨s,M,h⟩:=T.zd.1 h
     obtain⟨rr,h3,h4⟩:=T.zd.1 h
     obtain⟨κ1,w1,w2,w3,w4,w5⟩:=sK l.gh fr O B hR
     rw[<- w2]at h1 M RE
     obtain⟨κ2,q1,q2,q3,q4,q5,_⟩:=l.sh.K0 (n:=n) (Ext.refl κ1) w3 w5 (zE RE) M
     -- the loop's parameters
     have hps:Rel κ2 n (nh (l.sh.st s) l.ps p).get a:=by
      refine⟨w5.size,w5.defers,λt d J => ?_⟩
      obtain⟨k',y,d0,g0,g1,g2,g3⟩:=(UF (p:=λ_=>true) (qm:=l.sh.st s) l.ps [] p (λ_ _=>rfl) h1).2 _ (get_mem J)
      cases g3
      obtain⟨v,e1,e2⟩:=w5.get _ _ g1
      have Yi:=zP.1 hc2 _ g0
      simp only[X]at Yi
      have hwk:Wk κ1 κ1:=⟨rfl,rfl,rfl,rfl,λb d h=>⟨d,h⟩,λb v e xs h=>.inl h,λb v e xs h=>h,λb h=>h⟩
      have j3:F8 [] k'=true:=by cases k'<;>first | rfl | cases Yi.1
      have:=Da hwk (bs:=[]) j3 (λ_ _=>rfl) (qm:=κ1.st) (λ_ _=>rfl) (λ_ h=>by simp[rowAt]at h) g2 e2
      have he:Qy κ1.st k' y=Qy (l.sh.st s) k' y:=by cases k'<;>first | rfl | cases Yi.1
      rw[he]at this
      exact⟨v,e1,this.mono q4⟩
     have z5O:Ext O κ2:=w4.trans q4
     have Kb:κ2.w=O.w:=q1.trans w1
     rw[<- Kb]
     refine wp_block (R (id,b) (by simp[ua]) l hll κ2 a p s rr h3 q2 q3 q5 hps hc2 (λw hw=>zE (hc3 w hw)) _ λw x sI a' E f1 f2 f3 f4 f5 f6 f7 => ?_)
     rw[f2]at h4
     split at h4
     ·exact h4.elim
     rename_i zz hzz
     obtain⟨f6,f8⟩:=f6 zz hzz
     have hR':Rel E n (zz.2++(oi (wG b)++(gh l.gh fr O.st).1)).get a':=Wa w5 (q4.trans f5) f6 f7
     have hkk:Kept (.block id (.loop b)) a a':=f7
     cases hwx:zz.1<;>rw[hwx]at h4 f8<;>simp only at h4
     ·exact h4.elim
     ·rename_i id'
      cases f8
      simp only[Exit.inBlock]
      cases K9:V id' id with
      | true =>
       rw[K9,cond_true]at h4
       have:=zA K9
       subst this
       rw[if_pos rfl]
       exact hQ _ _ a' E h4 f3 f4 (z5O.trans f5) hR' (nd _) hkk (λhq=>by cases hq) rfl
      | false =>
       rw[K9,cond_false]at h4
       rw[if_neg (λe=>by subst e; simp at K9)]
       exact hQ _ _ a' E h4 f3 f4 (z5O.trans f5) hR' (nd _) hkk (λhq=>by cases hq) rfl
     ·cases f8
      exact hQ _ _ a' E h4 f3 f4 (z5O.trans f5) hR' (nd _) hkk (λhq=>by cases hq) rfl
     ·obtain⟨v,rfl,hv⟩:=f8
      exact hQ _ _ a' E h4 f3 f4 (z5O.trans f5) hR' (nd _) hkk (λhq=>by cases hq) ⟨v,rfl,hv⟩
  ·have K9:∀ b',b≠.loop b':=λb' e=>I ⟨b',e⟩
   rw[Rq K9]at h
   refine wp_block (ib (λz hz=>R z (by rw[EM K9]; exact hz)) h B hR hk _ λo sI a' E f0 f1 f2 f3 f4 HE f5 FQ f6 => ?_)
   have hkk:Kept (.block id b) a a':=f5
   cases GF:o.ex<;>rw[GF]at f0 f6<;>simp only at f0
   ·cases f6; exact hQ o _ a' E f0 f1 f2 f3 f4 HE hkk FQ (by rw[GF]; rfl)
   ·rename_i id'
    cases f6
    simp only[Exit.inBlock]
    cases hbq:V id' id with
    | true =>
     rw[hbq,cond_true]at f0
     have:=zA hbq
     subst this
     rw[if_pos rfl]
     exact hQ _ _ a' E f0 f1 f2 f3 f4 HE hkk FQ rfl
    | false =>
     rw[hbq,cond_false]at f0
     rw[if_neg (λe=>by subst e; simp at hbq)]
     exact hQ o _ a' E f0 f1 f2 f3 f4 HE hkk FQ (by rw[GF]; rfl)
   ·cases f6; exact hQ o _ a' E f0 f1 f2 f3 f4 HE hkk FQ (by rw[GF]; rfl)
   ·obtain⟨v,rfl,hv⟩:=f6
    exact hQ o _ a' E f0 f1 f2 f3 f4 HE hkk FQ (by rw[GF]; exact⟨v,rfl,hv⟩)
 | _=>intro _ fr kn O a α k r h; simp only[Vu]at h; exact h.elim
end
end Go.AM
namespace Go.AM
set_option linter.unusedSectionVars false
variable [yY]
open Go.RowKit
section
variable [Hk]
variable {P:Program} {xid:Nat} {tab:lF} {ro:Nat->Bool} {n:Nat} {H:Hints}
theorem P8{b:Code}{st qm:St}:∀ (fp:List It) (z:jT fp),Ls fp (wG b)=true->nh st fp z=nh qm fp z/\∀ q∈nh st fp z,q.1 ∉ wG b:=by
 intro fp
 induction fp with
 | nil=>intro z _; exact⟨rfl,λq hq=>by cases hq⟩
 | cons i r ih =>
  intro z h
  have hi:∀ y:i.den,GQ st i y=GQ qm i y/\∀ q∈GQ st i y,q.1 ∉ wG b:=by
   intro y
   simp only[Ls,zF,X]at h
   cases i with
   | s t k =>
    obtain⟨h1,_⟩:=h
    simp at h1
    refine⟨by cases k<;>first | rfl | (simp[KD]at h1),λq hq => ?_⟩
    simp only[GQ,zL]at hq
    subst hq
    intro hm
    have:=h1.2
    simp only[za1,qF,List.any_eq_false]at this
    exact this t hm (qz)
   | _=>grind
  cases r with
  | nil =>
   have e1:=YP st i z
   have e2:=YP qm i z
   grind
  | cons j r =>
   have e1:=Je st i j r z
   have e2:=Je qm i j r z
   have hr:Ls (j::r) (wG b)=true:=by
    unfold Ls at h ⊢
    grind
   grind
theorem z81(hm:(gO P xid tab ro).P.follows .mixedOrders=true)(hT:ek P tab){l:q9}{b:Code}(hL:gz P n H b)(hl:jT l.ps->l.sh.den->T (l.sh.den⊕fP l.ws))
  (round:∀ p s,z2R (gO P xid tab ro) tab n H l b p s=hl p s) (hF:∀ p s,l.F p s=T.loop (hl p) s):Vw P n l b:=by
 intro O a p s r hr vX B hR hRp hps hws Q hQ
 rw[hF,T.eT]at hr
 obtain⟨m,hm'⟩:=hr
 have znr:=λ(st qm:St)=>(P8 (b:=b) (st:=st) (qm:=qm) l.ps p hps).1
 have zbM:∀ (st:St) (t:Nat) (d:D),(nh st l.ps p).get t=some d->t ∉ wG b:=λst t d J=>(P8 (b:=b) (st:=st) (qm:=st) l.ps p hps).2 _ (get_mem J)
 refine wp_loop_ghost (λm a' w'=>∃ s',T.Iter (hl p) m s' r/\∃ E:KS,E.w=w'/\E.st=l.sh.st s'/\Inv E/\Ext O E/\Rel E n (l.sh.fr s').get a'/\Rel E n (nh (l.sh.st s) l.ps p).get a'/\Kept b a a') m
  ⟨s,hm',O,rfl,vX,B,Ext.refl O,hR,hRp,λ_ _=>rfl⟩ ?_
 rintro m a1 w1 ⟨s1,hit,κ1,rfl,g4,g5,g6,g7a,g7b,g8⟩
 have g7:Rel κ1 n (l.sh.fr s1++nh (l.sh.st s1) l.ps p).get a1:=⟨g7a.size,g7a.defers,λt d J=>by
  rcases JA J with J | J
  ·exact g7a.get t d J
  ·rw[znr _ (l.sh.st s)]at J; exact g7b.get t d J⟩
 cases hit with
 | done h1 =>
  rw[<- round]at h1
  refine QY hm hT b hL (O:=κ1) (by rw[g4]; exact h1) g5 g7 (nd _) _ λo sI a' E e0 e1 e2 e3 e4 SX e5 _ e6 => ?_
  have fin:∀ exo,Dv E exo sI->(Cu l.ws exo (GP exo o.fr) o.st).leads r->Q sI a' E.w:=λexo e6 e0=>by
   obtain⟨w,k1,x,k2,k3,k4⟩:=Cv _ _ _ _ _ e0
   have hlen:κ1.st.length<=w.sh.bs.length:=by rw[g4]; exact zV (ur.Xv _ _) (hws w k1)
   obtain⟨κ2,q1,q2,q3,q4,q5⟩:=z3m (n:=n) e3 e2 e4 e6 k3 hlen (by rw[e1]; exact k4)
   have:=hQ w x sI a' κ2 k1 k2 q2 q3 (g6.trans q4) q5 (λt ht=>(e5 t ht).trans (g8 t ht))
   grind
  have OI:∀ {z:l.sh.den⊕fP l.ws},((Cu l.ws o.ex (GP o.ex o.fr) o.st).bind λr=>T.ret (qM r:l.sh.den⊕fP l.ws)).leads z->z=qM r->(Cu l.ws o.ex (GP o.ex o.fr) o.st).leads r:=by
   intro z h hz
   obtain⟨y,h1,M⟩:=T.zd.1 h
   have M:(qM y:l.sh.den⊕fP l.ws)=z:=M
   grind
  cases GF:o.ex<;>rw[GF]at e0 e6 OI<;>simp only at e0
  ·obtain⟨y,_,M⟩:=T.zd.1 e0
   have M:(qR y:l.sh.den⊕fP l.ws)=qM r:=M
   cases M
  ·have q:=fin _ e6 (OI e0 rfl); cases e6; exact q
  ·have q:=fin _ e6 (OI e0 rfl); cases e6; exact q
  ·have q:=fin _ e6 (OI e0 rfl); obtain⟨v,rfl,hv⟩:=e6; exact q
 | step h1 hit =>
  rename_i m s2
  rw[<- round]at h1
  refine QY hm hT b hL (O:=κ1) (by rw[g4]; exact h1) g5 g7 (nd _) _ λo sI a' E e0 e1 e2 e3 e4 SX e5 _ e6 => ?_
  have OJ:((Cu l.ws o.ex (GP o.ex o.fr) o.st).bind λr=>T.ret (qM r:l.sh.den⊕fP l.ws)).leads (qR s2)->False:=by
   intro h
   obtain⟨y,h1,M⟩:=T.zd.1 h
   have M:(qM y:l.sh.den⊕fP l.ws)=qR s2:=M
   cases M
  cases GF:o.ex<;>rw[GF]at e0 e6 OJ<;>simp only at e0
  ·cases e6
   obtain⟨y,h1,M⟩:=T.zd.1 e0
   have M:(qR y:l.sh.den⊕fP l.ws)=qR s2:=M
   cases M
   have hlen:κ1.st.length<=l.sh.bs.length:=by rw[g4]; exact ur.Xv _ _
   obtain⟨κ2,q1,q2,q3,q4,q5,_⟩:=l.sh.K0 (n:=n) e3 e2 e4 hlen (by rw[e1]; exact h1)
   refine⟨m,Nat.lt_succ_self _,s2,hit,κ2,q1,q2,q3,g6.trans q4,q5,⟨q5.size,q5.defers,λt d J => ?_⟩,λt ht=>(e5 t ht).trans (g8 t ht)⟩
   obtain⟨v,r1,r2⟩:=g7b.get t d J
   exact⟨v,(e5 t (zbM _ t d J)).trans r1,r2.mono q4⟩
  ·exact(OJ e0).elim
  ·exact(OJ e0).elim
  ·exact(OJ e0).elim
end
section
variable {P:Program} {xid:Nat} {tab:lF} {ro:Nat->Bool} {n:Nat} {H:Hints}
theorem JH{O:KS}(B:Inv O):∀ (rs:List Ty) (ds:List D) (x:Dj rs) (vs:List Value),(z3k O.st rs ds).leads x->wN O ds vs->wN O.all (U8 rs x) vs/\∀ d∈U8 rs x,Jv d=true
 | [],[],x,vs,h,J=>by rw[J.wb]; exact⟨.nil,λd J=>by cases J⟩
 | [],_::_,x,vs,h,J=>h.elim
 | [τ],[],x,vs,h,J=>h.elim
 | [τ],[d],x,vs,h,J=>by
  obtain⟨v,us,rfl,h1,M⟩:=J.cons_inv
  rw[M.wb]
  refine⟨.cons (VG B h1 h) .nil,λd J => ?_⟩
  have J:d∈[D.qj τ x]:=J
  rw[zL]at J
  subst J; rfl
 | [τ],_::_::_,x,vs,h,J=>h.elim
 | τ::σ::r,[],x,vs,h,J=>h.elim
 | τ::σ::r,d::ds,x,vs,h,J=>by
  obtain⟨y,h1,M⟩:=T.zd.1 h
  obtain⟨z,h3,h4⟩:=T.zd.1 M
  cases h4
  obtain⟨v,us,rfl,k1,k2⟩:=J.cons_inv
  obtain⟨g1,g2⟩:=JH B (σ::r) ds z us h3 k2
  refine⟨.cons (VG B k1 h1) g1,λd J => ?_⟩
  rcases zH.1 J with rfl | J
  ·rfl
  ·grind
theorem zeg(hm:(gO P xid tab ro).P.follows .mixedOrders=true)(hT:ek P tab){f:Nat}{fn:Func}{code:Code}(hf:P.funcs[f]? = some fn)(I:fn.body=some code)
  (hn:(fn.name == "runtime.NumGoroutine")=false) (hL:gz P fn.ntmps H code) {d:Dy} (h:∀ x,TZ (gO P xid tab ro) tab H fn code d x=d.F x):q8 P f d:=by
 intro O x xb y vX hy B ha
 rw[<- h]at hy
 unfold TZ at hy
 cases hle:zM (Jf d.ps x).length fn.ntmps with
 | false=>rw[hle]at hy; exact hy.elim
 | true =>
  rw[hle,cond_true]at hy
  have GV:=zE hle
  refine .inl ⟨uS hf hn (xy) O.w,calls_of_wp hf I ?_⟩
  have hR:=Ki ha GV
  refine QY hm hT code hL (O:=O) (by rw[vX]; exact hy) B hR (nd _) _ λo sI a' κe e0 e1 e2 e3 e4 _ _ _ e6 => ?_
  have fin:(sI=.normal\/sI=.ret)->((nq (gO P xid tab ro) o.fr o.st fn.results.toList).bind λds=>z3k o.st d.rs ds).leads y ->
    bodyPost P fn (λe w'=>∃ E:KS,E.w=w'/\E.st=[]/\Inv E/\Ext O E/\jd E (.ret (U8 d.rs y)) e) sI a' κe.w:=by
   intro hex M
   obtain⟨ds,g1,g2⟩:=T.zd.1 M
   rw[<- e1]at g1 g2
   obtain⟨vs,k1,k2⟩:=Uy e2 e4 g1
   obtain⟨q1,q2⟩:=SD B vX e2 e3
   obtain⟨R,hdat⟩:=JH e2 d.rs ds y vs g2 k2
   have IV:wN (κe.bare (T9 κe)) (U8 d.rs y) vs:=⟨R.1,λi h1 M=>Zo (hdat _ (List.getElem_mem h1)) (R.2 i h1 M)⟩
   have JF:a'.defers=[]/\∃ v,(results fn a'.tmps).run P κe.w=.ok v κe.w/\∃ E:KS,E.w=κe.w/\E.st=[]/\Inv E/\Ext O E/\jd E (.ret (U8 d.rs y)) (.returned v) :=
    ⟨e4.defers,_,k1,κe.bare (T9 κe),rfl,rfl,q1,q2,_,rfl,G2 IV⟩
   rcases hex with rfl | rfl
   ·exact JF
   ·exact JF
  cases GF:o.ex<;>rw[GF]at e0 e6<;>simp only at e0
  ·exact fin (.inl e6) e0
  ·exact e0.elim
  ·exact fin (.inr e6) e0
  ·exact e0.elim
theorem Yd{d:Dy}{f:Nat}(b:(dT d.ps->T (Dj d.rs))->dT d.ps->T (Dj d.rs))(hF:∀ x,d.F x=T.fix b x)(h:∀ F:dT d.ps->T (Dj d.rs),q8 P f ⟨d.ps,d.rs,F⟩->q8 P f ⟨d.ps,d.rs,b F⟩):q8 P f d:=by
 have hN:∀ m,q8 P f ⟨d.ps,d.rs,T.Wq b m⟩:=by
  intro m
  induction m with
  | zero=>nofun
  | succ m ih=>exact h _ ih
 intro O x xb y vX hy B ha
 rw[hF,T.lY]at hy
 obtain⟨m,hm⟩:=hy
 exact hN m O x xb y vX (hm m (zJ _)) B ha
theorem Bl{fr:Fr}:∀ {n i:Nat} {ds:List D},Bj fr n i=some ds->ds.length=n/\∀ j d,ds[j]? = some d->fr.get (i+j)=some d
 | 0,i,ds,h=>by cases h; exact⟨rfl,λj d hj=>xy⟩
 | n+1,i,ds,h=>by
  simp only[Bj]at h
  split at h
  ·rename_i d J
   split at h
   ·rename_i r hr
    obtain⟨h1,M⟩:=Bl hr
    grind
   ·cases h
  ·cases h
theorem DP{O κe:KS}{ds:List D}{vs:List Value}(hO:Inv O)(B:Inv κe)(N:Ext O κe)(h:wN κe ds vs) :
  ∃ κ1:KS,κ1.w=κe.w/\κ1.st=(canon O.st.length ds κe.st).2/\Inv κ1/\Ext O κ1/\wN κ1 (canon O.st.length ds κe.st).1 vs:=by
 have zbV:∃ κ1:KS,κ1.w=κe.w/\κ1.st=κe.st/\Inv κ1/\Ext O κ1/\wN κ1 ds vs:=⟨κe,rfl,rfl,B,N,h⟩
 unfold canon
 generalize Ka:z88 O.st.length [] (SF κe.st ds)=nb
 simp only
 split
 ·rename_i l R
  split
  ·rename_i dC ds1 hr J
   cases hn:cF (zX O.st.length++nb)with
   | false=>exact zbV
   | true =>
    obtain⟨p1,hp⟩:=Q2 B.len.symm R
    obtain⟨g1,g2,g3,g4,g5⟩:=D4 B hn hp R hr
    have z5Q:∀ b,b<O.st.length->(zX O.st.length++nb)[b]? = some b:=λb I=>by
     rw[zK (by simpa using I)]; simp[I]
    have IK:∀ b x,O.st[b]? = some x->b<O.st.length:=λb x h=>(Y.1 h).1
    refine⟨⟨κe.w,κe.ok,p1,dC⟩,rfl,rfl,g1,⟨N.os,N.tape,N.output,N.size,N.same,N.fresh,λj blk n h => ?_,λb d h => ?_,λb v0 e xs h => ?_,λb h => ?_,?_,N.frame⟩,g2.rds h J⟩
    ·have hj:j<(zX O.st.length++nb).length:=by have:=(Y.1 h).1; simp only at this; omega
     have I:=zG hj
     generalize (zX O.st.length++nb)[j]=b at I
     have h':=(g5 j b I).1.symm.trans h
     rcases N.phs b blk n h' with h1 | h1
     ·have wM:b<O.st.length:=Nat.lt_of_not_le λhle=>by
       have:=(Y.1 h1).1
       have:=hO.len
       omega
      have:=Option.some.inj ((oF hn I).symm.trans (oF hn (z5Q b wM)))
      subst this
      exact .inl h1
     ·exact .inr h1
    ·obtain⟨⟨d',h1⟩,M⟩:=N.var b d h
     obtain⟨k1,x,y,k2,k3,k4⟩:=g5 b b (z5Q b (IK b _ h))
     rw[h1]at k2; cases k2
     simp only[Vi]at k3
     split at k3
     ·cases k3; exact⟨⟨_,k4⟩,k1.trans M⟩
     ·cases k3
    ·obtain⟨k1,x,y,k2,k3,k4⟩:=g5 b b (z5Q b (IK b _ h))
     rcases N.arr b v0 e xs h with h1 | ⟨v1,x1,h1,M,h3⟩
     ·rw[h1]at k2; cases k2; cases k3; exact .inl k4
     ·rw[h1]at k2; cases k2; cases k3; exact .inr ⟨v1,x1,k4,M,λhe=>⟨k1.trans (h3 he).1,(h3 he).2⟩⟩
    ·obtain⟨k1,x,y,k2,k3,k4⟩:=g5 b b (z5Q b (IK b _ h))
     rw[N.dead b h]at k2; cases k2; cases k3; exact k4
    ·show O.st.length<=dC.length
     rw[g3]; simp
  ·exact zbV
 ·exact zbV
theorem zcE{O:KS}(B:Inv O)(e:Ty):RD (O.yM e) (.ms O.st.length 0 e 0 0) (.slice none 0 0):=by
 have GZ:(O.yM e).st[O.st.length]? = some (.arr 0 e []):=by simp[KS.yM]
 refine .ms O.st.length 0 e 0 0 0 none (.inr ⟨0,e,[],GZ,zJ _⟩) (zJ _) (λ_=>rfl) nofun λxs Yj => ?_
 rw[GZ]at Yj
 cases Yj
 exact⟨zJ _,.inl ⟨rfl,rfl,rfl,by simp[KS.yM,<- B.len]⟩⟩
theorem Uw{O:KS}{d:D}{l:List D}{v:Value}{vs:List Value}(h:RD O d v)(hr:wN O l vs):wN O (d::l) (v::vs) :=
 ⟨by simp[hr.1],λi h1 M=>by cases i with | zero=>exact h | succ i=>exact hr.2 i (by simpa using h1) (by simpa using M)⟩
theorem IE:∀ (ks:List Sk) (l:List D) (O:KS) (vs:List Value),Inv O->wN O l vs->∃ κ1:KS,κ1.w=O.w/\κ1.st=(ki ks l O.st).2/\Inv κ1/\Ext O κ1/\wN κ1 (ki ks l O.st).1 vs:=by
 intro ks
 induction ks with
 | nil=>intro l O vs B h; exact⟨O,rfl,by unfold ki; rfl,B,Ext.refl O,by unfold ki; exact h⟩
 | cons k ks ih =>
  intro l O vs B h
  cases l with
  | nil=>exact⟨O,rfl,by cases k<;>rfl,B,Ext.refl O,by cases k<;>exact h⟩
  | cons d l =>
   obtain⟨v,r,rfl,h0,h1⟩:=h.cons_inv
   have go:∃ κ1:KS,κ1.w=O.w/\κ1.st=(ki ks l O.st).2/\Inv κ1/\Ext O κ1/\wN κ1 (d::(ki ks l O.st).1) (v::r):=by
    obtain⟨κ1,q1,q2,q3,q4,q5⟩:=ih l O r B h1
    exact⟨κ1,q1,q2,q3,q4,Uw (h0.mono q4) q5⟩
   cases k with
   | row b e =>
    cases d with
    | wE =>
     unfold ki
     cases he:zO 0 e.size with
     | false=>exact go
     | true =>
      cases h0
      obtain⟨κ1,q1,q2,q3,q4,q5⟩:=ih l (O.yM e) r (Vc B (zE he)) (h1.mono (rN B e))
      exact⟨κ1,q1,q2,q3,(rN B e).trans q4,Uw ((zcE B e).mono q4) q5⟩
    | _=>exact go
   | _=>exact go
theorem Eg:∀ (ks:List Sk) (l:List D) (st:St),(∀ d∈l,d.one=true)->∀ d∈(ki ks l st).1,d.one=true:=by
 intro ks
 induction ks with
 | nil=>intro l st h; unfold ki; exact h
 | cons k ks ih =>
  intro l st h
  cases l with
  | nil=>cases k<;>exact h
  | cons d l =>
   have go:∀ qm,∀ x∈d::(ki ks l qm).1,x.one=true:=λqm x N=>by
    rcases zH.1 N with rfl | N
    ·exact h _ zQ
    ·exact ih l qm (λy hy=>h y (zI _ hy)) x N
   cases k with
   | row b e =>
    cases d with
    | wE =>
     unfold ki
     cases zO 0 e.size with
     | false=>exact go st
     | true =>
      intro x N
      rcases zH.1 (show x∈D.ms st.length 0 e 0 0::(ki ks l (st++[.arr 0 e []])).1 from N)with rfl | N
      ·rfl
      ·exact ih l _ (λy hy=>h y (zI _ hy)) x N
    | _=>exact go st
   | _=>exact go st
theorem Rw(fp:List It):∀ (ds:List D) (i:Nat) (O:KS) (vs:List Value),Inv O->wN O ds vs->∃ κ1:KS,κ1.w=O.w/\κ1.st=(tw fp i ds O.st).2/\Inv κ1/\Ext O κ1/\wN κ1 (tw fp i ds O.st).1 vs:=by
 intro ds
 induction ds with
 | nil=>intro i O vs B h; exact⟨O,rfl,rfl,B,Ext.refl O,h⟩
 | cons d ds ih =>
  intro i O vs B h
  obtain⟨v,r,rfl,h0,h1⟩:=h.cons_inv
  have go:∃ κ1:KS,κ1.w=O.w/\κ1.st=(tw fp (i+1) ds O.st).2/\Inv κ1/\Ext O κ1/\wN κ1 (d::(tw fp (i+1) ds O.st).1) (v::r):=by
   obtain⟨κ1,q1,q2,q3,q4,q5⟩:=ih (i+1) O r B h1
   exact⟨κ1,q1,q2,q3,q4,Uw (h0.mono q4) q5⟩
  cases d with
  | agg l =>
   cases h0 with
   | agg _ vs0 R ho hr =>
    obtain⟨κ1,q1,q2,q3,q4,q5⟩:=IE (SK fp i) l O vs0 B ⟨R,hr⟩
    obtain⟨κ2,p1,p2,p3,p4,p5⟩:=ih (i+1) κ1 r q3 (h1.mono q4)
    rw[q2]at p2 p5
    exact⟨κ2,p1.trans q1,p2,p3,q4.trans p4,Uw ((RD.agg _ vs0 q5.1 (Eg _ _ _ ho) q5.2).mono p4) p5⟩
  | _=>exact go
theorem z8F{O κe:KS}{ds:List D}{vs:List Value}(out:ur)(hO:Inv O)(B:Inv κe)(N:Ext O κe)(h:wN κe ds vs) :
  ∃ κ1:KS,κ1.w=κe.w/\κ1.st=(CY out O.st.length ds κe.st).2/\Inv κ1/\Ext O κ1/\wN κ1 (CY out O.st.length ds κe.st).1 vs:=by
 unfold CY
 cases(out.fp.all λ| .s _ (.st _)=>false | _=>true)&&(out.cs.all λ| (_,.ptr _ _)=>false | (_,.cur _ _)=>false | _=>true)with
 | true=>exact⟨κe,rfl,rfl,B,N,h⟩
 | false =>
  obtain⟨κ1,q1,q2,q3,q4,q5⟩:=DP hO B N h
  obtain⟨κ2,p1,p2,p3,p4,p5⟩:=Rw out.fp _ 0 κ1 vs q3 q5
  rw[q2]at p2 p5
  obtain⟨κ3,r1,r2,r3,r4,r5⟩:=DP hO p3 (q4.trans p4) p5
  rw[p2]at r2 r5
  exact⟨κ3,r1.trans (p1.trans q1),r2,r3,r4,r5⟩
theorem G1{O κe:KS}{a':Act}{fn:Func}{o:I0}{nr:Nat}{out:ur}{y:out.den}(hO:Inv O)(e1:κe.st=o.st)(e2:Inv κe)(e3:Ext O κe)(e4:Rel κe fn.ntmps o.fr.get a')(hlen:O.st.length<=out.bs.length)
  (h:((nq (gO P xid tab ro) o.fr o.st fn.results.toList).bind λds=>WG out O.st.length nr ds o.st).leads y) :
  ∃ v,(results fn a'.tmps).run P κe.w=.ok v κe.w/\∃ (E:KS) (ds:List D),E.w=κe.w/\E.st=out.st y/\Inv E/\Ext O E/\oO nr (out.fr y)=some ds/\jd E (.ret ds) (.returned v):=by
 obtain⟨ds,g1,g2⟩:=T.zd.1 h
 unfold WG at g2
 cases hnr:V ds.length nr with
 | false=>rw[hnr]at g2; exact g2.elim
 | true =>
  rw[hnr,cond_true]at g2
  obtain⟨y',g5,g3⟩:=T.zd.1 g2
  cases hsome:oO nr (out.fr y')with
  | none=>rw[hsome]at g3; exact g3.elim
  | some C9 =>
   rw[hsome]at g3
   have hyy:y'=y:=g3
   subst hyy
   rw[<- e1]at g1 g5
   obtain⟨vs,k1,k2⟩:=Uy e2 e4 g1
   obtain⟨κr,z1,z2,z3,z4,z5⟩:=z8F out hO e2 e3 k2
   have hRr:Rel κr vs.length (yq (CY out O.st.length ds κe.st).1 0).get { tmps:=vs.toArray,defers:=[] }:=by
    have:=Ki (n:=vs.length) z5 (by rw[z5.1]; exact zJ _)
    simpa[show(Hk.df:List Deferred)=[]from rfl]using this
   obtain⟨κ0,w1,w2,w3,w4,w5⟩:=sK (z2y out.cs) (yq (CY out O.st.length ds κe.st).1 0) κr z3 hRr
   rw[z2]at w2 w5
   rw[<- w2]at g5
   obtain⟨κ2,q1,q2,q3,q4,q5,_⟩:=out.K0 (κ0:=O) (z4.trans w4) w3 w5 hlen g5
   obtain⟨l1,l2⟩:=Bl hsome
   have hds:wN κ2 C9 vs:=by
    refine⟨by rw[l1,<- k2.1]; exact(zA hnr).symm,λi h1 M => ?_⟩
    have:=l2 i C9[i] (zG h1)
    rw[qD]at this
    obtain⟨v,r1,r2⟩:=q5.get i _ this
    grind
   exact⟨_,k1,κ2,C9,q1.trans (w1.trans z1),q2,q3,q4,hsome,_,rfl,G2 hds⟩
theorem zb6(hm:(gO P xid tab ro).P.follows .mixedOrders=true)(hT:ek P tab){f:Nat}{fn:Func}{code:Code}(hf:P.funcs[f]? = some fn)(I:fn.body=some code)
  (hn:(fn.name == "runtime.NumGoroutine")=false) (hL:gz P fn.ntmps H code) {d:gZ} (h:∀ x,IC (gO P xid tab ro) tab H fn code d x=d.F x):xr P f d:=by
 intro O x xb y vX hy B hlen hR0
 rw[<- h]at hy
 unfold IC at hy
 cases hle:zM d.ks.length fn.ntmps&&zM d.sh.bs.length d.out.bs.length with
 | false=>rw[hle]at hy; exact hy.elim
 | true =>
  rw[hle,cond_true]at hy
  simp only[X]at hle
  have zfV:=zE hle.1
  have z0Q:=zE hle.2
  refine .inl ⟨uS hf hn (by rw[I]; rfl) O.w,calls_of_wp hf I ?_⟩
  rw[<- vX]at hy
  have hR:Rel O fn.ntmps (d.sh.fr x).get { tmps:=xb.toArray++Array.replicate (fn.ntmps-xb.toArray.size) undef,defers:=[] }:=by
   refine⟨by simp; omega,rfl,λs e hs => ?_⟩
   obtain⟨v,h1,M⟩:=hR0.get s e hs
   grind
  refine QY hm hT code hL (O:=O) hy B hR (nd _) _ λo sI a' κe e0 e1 e2 e3 e4 _ _ _ e6 => ?_
  have fin:(sI=.normal\/sI=.ret)->((nq (gO P xid tab ro) o.fr o.st fn.results.toList).bind λds=>WG d.out O.st.length d.nr ds o.st).leads y ->
    bodyPost P fn (λe w'=>∃ (E:KS) (ds:List D),E.w=w'/\E.st=d.out.st y/\Inv E/\Ext O E/\oO d.nr (d.out.fr y)=some ds/\jd E (.ret ds) e) sI a' κe.w:=by
   intro hex M
   obtain⟨v,k1,k2⟩:=G1 B e1 e2 e3 e4 (by rw[vX]; exact zV (ur.Xv _ _) z0Q) M
   rcases hex with rfl | rfl
   ·exact⟨e4.defers,v,k1,k2⟩
   ·exact⟨e4.defers,v,k1,k2⟩
  cases GF:o.ex<;>rw[GF]at e0 e6<;>simp only at e0
  ·exact fin (.inl e6) e0
  ·exact e0.elim
  ·exact fin (.inr e6) e0
  ·exact e0.elim
theorem Kq{d:gZ}{f:Nat}(b:(d.sh.den->T d.out.den)->d.sh.den->T d.out.den)(hF:∀ x,d.F x=T.fix b x)(h:∀ F:d.sh.den->T d.out.den,xr P f ⟨d.ks,d.sh,d.dw,d.out,d.nr,F⟩->xr P f ⟨d.ks,d.sh,d.dw,d.out,d.nr,b F⟩):xr P f d:=by
 have hN:∀ m,xr P f ⟨d.ks,d.sh,d.dw,d.out,d.nr,T.Wq b m⟩:=by
  intro m
  induction m with
  | zero=>nofun
  | succ m ih=>exact h _ ih
 intro O x xb y vX hy B R ha
 rw[hF,T.lY]at hy
 obtain⟨m,hm⟩:=hy
 exact hN m O x xb y vX (hm m (zJ _)) B R ha
theorem zcO{O κe:KS}{hZ:ur}{z:hZ.den}{st:St}{t:Nat}{d:D}{u:Value}(e1:κe.st=st)(e2:Inv κe)(e3:Ext O κe)(hlen:O.st.length<=hZ.bs.length)(hu:RD κe d u)
  (h:((hZ.un [(0,some d)] st).bind λz=>match(hZ.fr z).get 0 with | some _=>T.ret z | none=>.fail).leads z) :
  ∃ (E:KS) (p:D),E.w=κe.w/\E.st=hZ.st z/\Inv E/\Ext O E/\(hZ.fr z).get 0=some p/\jd E (.hZ (.iface t p)) (.panicked [{ v:=.iface t u,recovered:=false }]):=by
 obtain⟨z',g1,g2⟩:=T.zd.1 h
 split at g2
 ·rename_i p hp
  have hzz:z'=z:=g2
  subst hzz
  have HI:Rel κe 1 (Fr.get [(0,some d)]) { tmps := #[u],defers:=[] }:=by
   refine⟨rfl,rfl,λs d' J => ?_⟩
   simp only[Fr.get]at J
   cases I:V 0 s with
   | true =>
    have:=zA I
    grind
   | false=>grind
  rw[<- e1]at g1
  obtain⟨κ2,q1,q2,q3,q4,q5,_⟩:=hZ.K0 (κ0:=O) e3 e2 HI hlen g1
  obtain⟨v',r1,r2⟩:=q5.get 0 p hp
  cases r1
  exact⟨κ2,p,q1,q2,q3,q4,hp,_,rfl,.iface t p _ r2⟩
 ·exact g2.elim
theorem zb5(hm:(gO P xid tab ro).P.follows .mixedOrders=true)(hT:ek P tab){f:Nat}{fn:Func}{code:Code}(hf:P.funcs[f]? = some fn)(I:fn.body=some code)
  (hn:(fn.name == "runtime.NumGoroutine")=false) (hL:gz P fn.ntmps H code) {d:lE} (h:∀ x,IB (gO P xid tab ro) tab H fn code d x=d.F x):jB P f d:=by
 intro O x xb y vX hy B hlen hR0
 rw[<- h]at hy
 unfold IB at hy
 cases hle:zM d.ks.length fn.ntmps&&zM d.sh.bs.length d.out.bs.length&&zM d.sh.bs.length d.hZ.bs.length with
 | false=>rw[hle]at hy; exact hy.elim
 | true =>
  rw[hle,cond_true]at hy
  simp only[X]at hle
  have zfV:=zE hle.1.1
  have z0Q:=zE hle.1.2
  have zfW:=zE hle.2
  refine .inl ⟨uS hf hn (by rw[I]; rfl) O.w,calls_of_wp hf I ?_⟩
  rw[<- vX]at hy
  have hR:Rel O fn.ntmps (d.sh.fr x).get { tmps:=xb.toArray++Array.replicate (fn.ntmps-xb.toArray.size) undef,defers:=[] }:=by
   refine⟨by simp; omega,rfl,λs e hs => ?_⟩
   obtain⟨v,h1,M⟩:=hR0.get s e hs
   grind
  refine QY hm hT code hL (O:=O) hy B hR (nd _) _ λo sI a' κe e0 e1 e2 e3 e4 _ _ _ e6 => ?_
  have fin:(sI=.normal\/sI=.ret)->((nq (gO P xid tab ro) o.fr o.st fn.results.toList).bind λds=>z8u d O.st.length ds o.st).leads y ->
    bodyPost P fn (λe w'=>∃ E:KS,E.w=w'/\Inv E/\Ext O E/\((∃ (y':d.out.den) (ds:List D),y=.inl y'/\E.st=d.out.st y'/\oO d.nr (d.out.fr y')=some ds/\jd E (.ret ds) e) \/
     (d.two=none/\∃ (z:d.hZ.den) (p:D),y=.inr z/\E.st=d.hZ.st z/\(d.hZ.fr z).get 0=some p/\jd E (.hZ (.iface d.pt p)) e) \/
     ∃ (n:Nat) (z:d.hZ.den) (ds:List D),d.two=some n/\y=.inr z/\E.st=d.hZ.st z/\oO n (d.hZ.fr z)=some ds/\jd E (.ret ds) e)) sI a' κe.w:=by
   intro hex M
   obtain⟨ds,g1,g2⟩:=T.zd.1 M
   have one:((WG d.out O.st.length d.nr ds o.st).bind λy=>T.ret (qR y:d.out.den⊕d.hZ.den)).leads y ->
     ∃ v,(results fn a'.tmps).run P κe.w=.ok v κe.w/\∃ E:KS,E.w=κe.w/\Inv E/\Ext O E/\∃ (y':d.out.den) (ds:List D),y=.inl y'/\E.st=d.out.st y'/\oO d.nr (d.out.fr y')=some ds/\jd E (.ret ds) (.returned v):=λg=>by
    obtain⟨y',hy2,rfl⟩:=T.zd.1 g
    obtain⟨v,k1,E,ds,q1,q2,q3,q4,q5,q6⟩:=G1 B e1 e2 e3 e4 (by rw[vX]; exact zV (ur.Xv _ _) z0Q) (T.zd.2 ⟨ds,g1,hy2⟩)
    exact⟨v,k1,E,q1,q3,q4,y',ds,rfl,q2,q5,q6⟩
   have JF:a'.defers=[]/\∃ v,(results fn a'.tmps).run P κe.w=.ok v κe.w/\∃ E:KS,E.w=κe.w/\Inv E/\Ext O E/\((∃ (y':d.out.den) (ds:List D),y=.inl y'/\E.st=d.out.st y'/\oO d.nr (d.out.fr y')=some ds/\jd E (.ret ds) (.returned v)) \/
     (d.two=none/\∃ (z:d.hZ.den) (p:D),y=.inr z/\E.st=d.hZ.st z/\(d.hZ.fr z).get 0=some p/\jd E (.hZ (.iface d.pt p)) (.returned v)) \/
     ∃ (n:Nat) (z:d.hZ.den) (ds:List D),d.two=some n/\y=.inr z/\E.st=d.hZ.st z/\oO n (d.hZ.fr z)=some ds/\jd E (.ret ds) (.returned v)):=by
    unfold z8u at g2
    split at g2
    ·rename_i n h0
     cases hh:z9w ds with
     | true =>
      rw[hh,cond_true]at g2
      obtain⟨z,hz,rfl⟩:=T.zd.1 g2
      obtain⟨v,k1,E,ds,q1,q2,q3,q4,q5,q6⟩:=G1 B e1 e2 e3 e4 (by rw[vX]; exact zV (ur.Xv _ _) zfW) (T.zd.2 ⟨ds,g1,hz⟩)
      exact⟨e4.defers,v,k1,E,q1,q3,q4,.inr (.inr ⟨n,z,ds,h0,rfl,q2,q5,q6⟩)⟩
     | false =>
      rw[hh,cond_false]at g2
      obtain⟨v,k1,E,q1,q2,q3,q4⟩:=one g2
      exact⟨e4.defers,v,k1,E,q1,q2,q3,.inl q4⟩
    ·obtain⟨v,k1,E,q1,q2,q3,q4⟩:=one g2
     exact⟨e4.defers,v,k1,E,q1,q2,q3,.inl q4⟩
   rcases hex with rfl | rfl
   ·exact JF
   ·exact JF
  cases GF:o.ex<;>rw[GF]at e0 e6<;>simp only at e0
  ·exact fin (.inl e6) e0
  ·exact e0.elim
  ·exact fin (.inr e6) e0
  ·rename_i p
   cases p<;>simp only at e0<;>first | exact e0.elim | skip
   rename_i t v
   cases ht:V t d.pt&&d.two.isNone with
   | false=>rw[ht]at e0; exact e0.elim
   | true =>
    rw[ht,cond_true]at e0
    rw[X,Option.isNone_iff_eq_none]at ht
    have:=zA ht.1
    subst this
    obtain⟨u,rfl,hv⟩:=e6
    cases hv with
    | iface _ _ u hu =>
     have:∃ z,y=.inr z/\((d.hZ.un [(0,some v)] o.st).bind λz=>match(d.hZ.fr z).get 0 with | some _=>T.ret z | none=>.fail).leads z:=by
      obtain⟨z,g1,g2⟩:=T.zd.1 e0
      split at g2
      ·rename_i p hp
       have g2:qM z=y:=g2
       refine⟨z,g2.symm,T.zd.2 ⟨z,g1,?_⟩⟩
       rw[hp]; rfl
      ·exact g2.elim
     obtain⟨z,rfl,hz2⟩:=this
     obtain⟨E,p,q1,q2,q3,q4,q5,q6⟩:=zcO (t:=d.pt) e1 e2 e3 (by rw[vX]; exact zV (ur.Xv _ _) zfW) hu hz2
     exact⟨e4.defers,E,q1,q3,q4,.inr (.inl ⟨ht.2,z,p,rfl,q2,q5,q6⟩)⟩
theorem MF{d:lE}{f:Nat}(b:(d.sh.den->T (d.out.den⊕d.hZ.den))->d.sh.den->T (d.out.den⊕d.hZ.den))(hF:∀ x,d.F x=T.fix b x)(h:∀ F:d.sh.den->T (d.out.den⊕d.hZ.den),jB P f ⟨d.ks,d.sh,d.dw,d.out,d.nr,d.pt,d.hZ,d.two,F⟩->jB P f ⟨d.ks,d.sh,d.dw,d.out,d.nr,d.pt,d.hZ,d.two,b F⟩):jB P f d:=by
 have hN:∀ m,jB P f ⟨d.ks,d.sh,d.dw,d.out,d.nr,d.pt,d.hZ,d.two,T.Wq b m⟩:=by
  intro m
  induction m with
  | zero=>nofun
  | succ m ih=>exact h _ ih
 intro O x xb y vX hy B R ha
 rw[hF,T.lY]at hy
 obtain⟨m,hm⟩:=hy
 exact hN m O x xb y vX (hm m (zJ _)) B R ha
end
noncomputable def V0:Nat->Code->Option Code
 | k,.block id (.loop b)=>if k=id then some b else V0 k b
 | k,.seq a b=>match V0 k a with | some x=>some x | none=>V0 k b
 | k,.cond _ a b=>match V0 k a with | some x=>some x | none=>V0 k b
 | k,.block _ a=>V0 k a
 | _,_=>none
def BQ(P:Program)(n:Nat)(H:Hints):List (Nat×Code)->Prop
 | []=>True
 | p::r=>(∀ l,H.loop p.1=some l->Vw P n l p.2)/\BQ P n H r
theorem zg{P:Program}{n:Nat}{H:Hints}:BQ P n H []:=trivial
theorem qh{P:Program}{n:Nat}{H:Hints}{id:Nat}{b:Code}{r:List (Nat×Code)}{l:q9}(R:H.loop id=some l)(h:Vw P n l b)(t:BQ P n H r):BQ P n H ((id,b)::r) :=
 ⟨λl' IV=>(Option.some.inj (R.symm.trans IV))▸h,t⟩
theorem U6{P:Program}{n:Nat}{H:Hints}{code:Code}{L:List (Nat×Code)}(h:ua code=L)(ha:BQ P n H L):gz P n H code:=by
 intro p hp
 rw[h]at hp
 clear h
 induction L with
 | nil=>cases hp
 | cons q r ih =>
  rcases zH.1 hp with rfl | hp
  ·exact ha.1
  ·exact ih ha.2 hp
end Go.AM
namespace Go.AM
set_option linter.unusedSectionVars false
variable [yY]
open Go.RowKit Go.ChangeShapes
def SR:(τs:List Ty)->Y6 τs->dT (τs.map .ty)
 | [],_=>()
 | [_],x=>x.1
 | _::σ::r,x=>(x.1,SR (σ::r) x.2)
theorem Be:∀ (τs:List Ty) (x:Y6 τs),Jf (τs.map .ty) (SR τs x)=mkD τs x
 | [],_=>rfl
 | [_],_=>rfl
 | τ::σ::r,x=>congrArg (D.qj τ x.1 :: ·) (Be (σ::r) x.2)
section
variable {H:Type} {enc:TypeId×Value->H} {P:Program} {xid m n:Nat}
theorem zbW{f:Nat}{fn:Func}(τs:List Ty){F:dT (τs.map .ty)->T (Dj [.bool])}(hS:q8 P f ⟨τs.map .ty,[.bool],F⟩)(hf:P.funcs[f]? = some fn)(hbd:fn.body.isNone=false) (hnm:(fn.name == "runtime.NumGoroutine")=false)
  (R:laidOutB P=true) (xid m n:Nat) (hts:Uo P fn.params.toList=true) (hτ:fn.params.toList.map (BE P xid n)=τs.map some) (N:LX P xid m=true)
  {bt:TypeId} (hr:fn.resultTypes = #[bt]) (hbt:P.underlying bt=some .bool) {s:ChangeSpec} (hv:s.vars=[]) (hs:∀ ds:List (DataW H),ds.length=τs.length->s.fn H ds={ results:=[.lit (.bool true)],args:=ds })
  (hI:R0 H) {lim:Nat} (law:∀ x:Y6 τs,wfL τs x->bkL τs x<=lim->(F (SR τs x)).run=some true)
  {fresh handsOn:Bool} {zk:World} {base:Nat} {args:Array Value} {ds gs:List (DataW H)} {before:List MemPlace}
  (hval:∀ (j:Nat) t v,fn.params[j]? = some t->args[j]? = some v->zR P zk .any base t v)
  (hW:DataW.Whole enc P fn.params.toList s.vars false zk args.toList ds gs before) (hk:hI.bs (ds++gs)<=lim) (hG:WK zk λk=>k<zk.heap.size) :
  Calls P f args zk λe W'=>∃ v,e=.returned v/\s.post enc P fn false fresh handsOn false zk args v W':=by
 refine RW (Dy.snd hS) hf hbd hnm R xid m n τs hts hτ N hr hbt hv hs hI (λx hw I => ?_) hval hW hk hG
 have h:=T.yA.1 (law x hw I)
 rw[<- Be τs x]
 exact T.zd.2 ⟨SR τs x,Db [] _ _,T.zd.2 ⟨true,h,rfl⟩⟩
end
end Go.AM