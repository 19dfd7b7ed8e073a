/-
  The abstract machine, part D: texts of our own, the same for each claim.
-/
import Derived.Test.YthhgaidlooddpaaGreatDoorAmA
import Derived.Lib.LaidTab
import Derived.Shelf.Vars
import Derived.Test.YthhgaidlooddpaaGreatDoorAmC
import Derived.OpenShut
import Derived.Test.YthhgaidlooddpaaGreatDoorAmB
import Derived.Lib.LazyBuf
set_option linter.unusedVariables false
namespace Go.AM
def Du(k:IntKind)(zs:List Int)(o:Obj):Prop:=∃ t fr,o=.cells (zs.map λz=>Value.int k z).toArray t fr
def Be(k:IntKind)(o:Obj):Prop:=∃ m t fr,o=.cells #[.int k m] t fr
theorem S1{P:Program}{w:World}{name:String}{k:IntKind}{zs:List Int}{g:Nat}(hg:P.globalNamed name=some g)(h:Lib.TabIs P w name k zs) :
  g<w.heap.size/\∃ o,w.heap[g]? = some o/\Du k zs o:=by
 unfold Lib.TabIs World.var? at h
 rw[hg]at h
 simp at h
 split at h
 ·rename_i cs t fr ho
  cases h
  exact⟨(Array.getElem?_eq_some_iff.1 ho).1,_,ho,t,fr,rfl⟩
 ·cases h
theorem z8d{P:Program}{w:World}{name:String}{k:IntKind}{zs:List Int}{g:Nat}(hg:P.globalNamed name=some g)(h:∃ o,w.heap[g]? = some o/\Du k zs o):Lib.TabIs P w name k zs:=by
 obtain⟨o,ho,t,fr,rfl⟩:=h
 unfold Lib.TabIs World.var?
 grind
theorem Ol{w:World}{k:IntKind}{g:Nat}(h:∃ o,w.heap[g]? = some o/\Be k o):∃ m,w.cell? ⟨g,0,none⟩=some (.int k m):=by
 obtain⟨o,ho,m,t,fr,rfl⟩:=h
 exact⟨m,by simp[World.cell?,ho]⟩
theorem Nj{P:Program}{w:World}{g:Nat}{t:TypeId}{zero:Array Value}{k:IntKind}
  (h:w.ShapedOpen P) (hg:g<P.globals.size)
  (h0:((begin P (λ_ _=>0) default).world.heap[g]?).bind Obj.row? = some (zero,t)) (hz:zero.size=1)
  (hb:P.buildable t=true) (hc:P.cellTypes P.depth t=some [t]) (hu:P.underlying t=some (.int k)):g<w.heap.size/\∃ o,w.heap[g]? = some o/\Be k o:=by
 obtain⟨m,hm⟩:=Go.Proofs.cell_of_shapedOpen_int h hg h0 hz hb hc hu
 obtain⟨cs,hh,hs,_⟩:=h.1 g zero t hg h0
 have hl:cs.size=1:=hs.trans hz
 refine⟨(Array.getElem?_eq_some_iff.1 hh).1,_,hh,m,t,(0,0),?_⟩
 have h1:w.cell? ⟨g,0,none⟩=some cs[0]:=by simp[World.cell?,hh]
 have:cs = #[.int k m]:=by
  grind
 rw[this]
theorem O2{P:Program}{W:World}{name:String}{k:IntKind}{zs:List Int}{rest:List (String×DataW Unit)}{ps:List MemPlace}{g:Nat}{t e:TypeId}{n:Nat}
  (hg:P.globalNamed name=some g) (Lo:(P.globals[g]?).map (·.type)=some t) (ht:P.underlying t=some (.array n e)) (he:P.underlying e=some (.int k)) (hce:P.cellsOf e=1) (hct:P.cellsOf t=n)
  (h:DataW.LaidVars P W ((name,Lib.tabData k zs)::rest) ps):g<W.heap.size/\∃ o,W.heap[g]? = some o/\Du k zs o:=by
 obtain⟨g',t',cs,fuel,p,q,hg',ht',zci,hd,_,_⟩:=h
 refine S1 hg ?_
 obtain rfl:=Option.some.inj (hg.symm.trans hg')
 obtain rfl:=Option.some.inj (Lo.symm.trans ht')
 unfold Lib.TabIs
 rw[zci,<- Lib.cells_of_tab ht he hce hct hd]
theorem G8{P:Program}{W:World}{x:String×DataW Unit}{rest:List (String×DataW Unit)}{ps:List MemPlace}(h:DataW.LaidVars P W (x::rest) ps):∃ q,DataW.LaidVars P W rest q:=by
 obtain⟨g',t',cs,fuel,p,q,hg',ht',zci,hd,h1,_⟩:=h
 grind
end Go.AM
namespace Go.AM
open Go.RowKit
mutual
def bkE:Expr->Nat
 | .mk _ n s l=>1+((1+((List.length n.2.1+1)+((List.length n.2.2.1+1)+1)))+((List.length s+1)+((bkEs l+1)+1)))
def bkEs:List Expr->Nat
 | []=>0
 | e::r=>bkE e+bkEs r
end
def UE{α:Type}(f:α->Nat):List α->Nat
 | []=>0
 | x::r=>f x+UE f r
def bk:(τ:Ty)->den τ->Nat
 | .int _,_=>1
 | .bool,_=>1
 | .str,s=>List.length s+1
 | .sl e,l=>UE (bk e) l+1
 | .nil,_=>1
 | .cons a b,x=>bk a x.1+bk b x.2
 | .expr,x=>bkE x
theorem R0{α:Type}(l:List α):UE (λ_=>1) l=l.length:=by induction l with | nil=>rfl | cons x r ih=>simp[UE]; omega
theorem z3K(l:List Expr):bkEs l=UE (bk .expr) l:=by induction l with | nil=>rfl | cons x r ih=>simp[bkEs,UE,ih,bk]
theorem z3g(x:Expr):bk WI x.TA=bk .expr x:=by
 cases x with | mk k n s l =>
 simp only[bk,Expr.TA,bkE,z3K,Expr.num,Expr.name,Expr.kids,R0]
mutual
def wfE:Expr->Prop
 | .mk k n s l=>(IntKind.i64.min<=k/\k<=IntKind.i64.max)/\((True/\((∀ x∈n.2.1,IntKind.u32.min<=x/\x<=IntKind.u32.max)/\((∀ x∈n.2.2.1,IntKind.u32.min<=x/\x<=IntKind.u32.max)/\True)))/\(List.length s<=maxLen/\(wfEs l/\True)))
def wfEs:List Expr->Prop
 | []=>True
 | e::r=>wfE e/\wfEs r
end
def wf:(τ:Ty)->den τ->Prop
 | .int k,n=>k.min<=n/\n<=k.max
 | .bool,_=>True
 | .str,s=>List.length s<=maxLen
 | .sl e,l=>∀ x∈l,wf e x
 | .nil,_=>True
 | .cons a b,x=>wf a x.1/\wf b x.2
 | .expr,x=>wfE x
theorem z30(l:List Expr):wfEs l↔∀ x∈l,wf .expr x:=by induction l with | nil=>simp[wfEs] | cons x r ih=>simp[wfEs,ih,wf]
theorem z15(x:Expr):wf WI x.TA↔wf .expr x:=by
 cases x with | mk k n s l=>simp only[wf,Expr.TA,wfE,z30,Expr.kind,Expr.num,Expr.name,Expr.kids]
structure Nd(H:Type) where
 b:DataW H->Nat
 bs:List (DataW H)->Nat
 str:∀ s,b (.lit (.string s))=s.length+1
 bool:∀ x,b (.lit (.bool x))=1
 int:∀ k n,b (.lit (.int k n))=1
 nil:b .nil=1
 slice:∀ x y,b (.slice x y)=bs x+bs y+1
 agg:∀ x,b (.agg x)=bs x+1
 zero:bs []=0
 cons:∀ x r,bs (x::r)=b x+bs r
section
variable (P:Program) (xid:Nat)
def WN:Nat->List Field->Bool
 | _,[]=>true
 | o,f::r=>Nat.beq f.offset o&&WN (o+P.cellsOf f.type) r
def Wj:Nat->List Field->Nat
 | o,[]=>o
 | o,f::r=>Wj (o+P.cellsOf f.type) r
def Gq:Nat->Nat->Option Ty
 | 0,_=>none
 | n+1,t=>bif Nat.beq t xid then some .expr else
  match P.underlying t with
  | some (.int k)=>some (.int k)
  | some .bool=>some .bool
  | some .string=>some .str
  | some (.slice e)=>match Gq n e with | some a=>bif Nat.beq (P.cellsOf e) a.size&&Nat.blt 0 a.size then some (.sl a)else none | none=>none
  | some (.struct fs)=>bif WN P 0 fs.toList&&Nat.beq (Wj P 0 fs.toList) (P.cellsOf t)then dE (fs.toList.map λf=>Gq n f.type)else none
  | _=>none
def F9(m:Nat):Bool:=match P.underlying xid with
 | some (.struct fs)=>WN P 0 fs.toList&&Nat.beq (Wj P 0 fs.toList) (P.cellsOf xid)&&decide (dE (fs.toList.map λf=>Gq P xid m f.type)=some WI)
 | some _=>false
 | none=>true
end
section
variable {H:Type} {enc:TypeId×Value->H} {P:Program} {w:World} {xid m:Nat} (B:Nd H)
def J5(w:World)(B:Nd H)(τ:Ty)(cs:List Value)(k:Nat):Prop:=∃ x:den τ,Rc w (λk=>k<w.heap.size) τ x cs/\wf τ x/\bk τ x<=k
theorem W5{fuel:Nat}{cs:List Value}(ih:∀ n t τ cs d ps,Gq P xid n t=some τ->DataW.trod enc P w 0 (λ_=>true) true fuel t cs=some (d,ps)->J5 w B τ cs (B.b d)){n:Nat} :
  ∀ (fs:List Field) (o:Nat) (τ:Ty) (xs:List (DataW H×List MemPlace)),dE (fs.map λf=>Gq P xid n f.type)=some τ->WN P o fs=true->Wj P o fs=cs.length->xs.length=fs.length ->
   (∀ (i:Nat) (f:Field),fs[i]? = some f->DataW.trod enc P w 0 (λ_=>true) true fuel f.type ((cs.drop f.offset).take (P.cellsOf f.type))=xs[i]?)->J5 w B τ (cs.drop o) (B.bs (xs.map (·.1))+1)
 | [],o,τ,xs,ht,_,he,hl,_=>by
  cases ht
  simp only[Wj]at he
  obtain rfl:xs=[]:=List.eq_nil_of_length_eq_zero hl
  refine⟨(),?_,trivial,by simp[bk]⟩
  rw[he,List.drop_length]; exact .nil
 | f::r,o,τ,xs,ht,ho,he,hl,hx=>by
  cases xs with
  | nil=>simp at hl
  | cons x xs =>
  simp only[WN,Bool.and_eq_true]at ho
  have Tl:f.offset=o:=Nat.eq_of_beq_eq_true ho.1
  simp only[List.map_cons]at ht
  cases h1:Gq P xid n f.type with
  | none=>rw[h1]at ht; cases ht
  | some a =>
   rw[h1]at ht
   simp only[dE]at ht
   cases h2:dE (r.map λf=>Gq P xid n f.type)with
   | none=>grind
   | some b =>
    rw[h2]at ht
    cases ht
    obtain⟨x1,p1,p2,p3⟩:=ih n f.type a _ x.1 x.2 h1 (by have:=hx 0 f rfl; simpa using this)
    obtain⟨x2,q1,q2,q3⟩:=W5 ih r (o+P.cellsOf f.type) b xs h2 ho.2 he (by simpa using hl) (λi g hg=>by have:=hx (i+1) g (by simpa using hg); simpa using this)
    refine⟨(x1,x2),?_,⟨p2,q2⟩,?_⟩
    ·have e:cs.drop o=(cs.drop o).take (P.cellsOf f.type)++cs.drop (o+P.cellsOf f.type):=by
      conv=>lhs; rw[<- List.take_append_drop (P.cellsOf f.type) (cs.drop o)]
      simp
     rw[e]
     rw[Tl]at p1
     exact .cons _ _ _ _ _ _ p1 q1
    ·simp only[bk,List.map_cons,B.cons]; omega
theorem YB{e:Ty}(k:Nat):∀ (n:Nat) (elems:List (DataW H×List MemPlace)) (g:Nat->List Value),elems.length=n->(∀ i,i<n->∃ d,elems[i]? = some d/\J5 w B e (g i) (B.b d.1)) ->
  ∃ l:List (den e),l.length=n/\(∀ i (hi:i<l.length),Rc w (λk=>k<w.heap.size) e l[i] (g i))/\(∀ x∈l,wf e x)/\UE (bk e) l<=B.bs (elems.map (·.1))
 | 0,elems,g,hl,_=>by
  exact⟨[],rfl,λi hi=>absurd hi (Nat.not_lt_zero i),by simp,by simp[UE]⟩
 | n+1,elems,g,hl,h=>by
  cases elems with
  | nil=>simp at hl
  | cons y ys =>
   obtain⟨d,h1,x,h2,h3,h4⟩:=h 0 (by omega)
   simp at h1
   subst h1
   obtain⟨l,l1,l2,l3,l4⟩:=YB k n ys (λi=>g (i+1)) (by grind) λi hi=>by
    obtain⟨d,h1,h2⟩:=h (i+1) (by omega)
    exact⟨d,by grind,h2⟩
   refine⟨x::l,by grind,λi hi => ?_,λz hz => ?_,?_⟩
   ·grind
   ·grind
   ·simp only[UE,List.map_cons,B.cons]; omega
theorem Na(hx:F9 P xid m=true):∀ (fuel n t:Nat) (τ:Ty) (cs:List Value) (d:DataW H) (ps:List MemPlace),Gq P xid n t=some τ->DataW.trod enc P w 0 (λ_=>true) true fuel t cs=some (d,ps)->J5 w B τ cs (B.b d):=by
 intro fuel
 induction fuel with
 | zero=>nofun
 | succ fuel ih =>
  intro n t τ cs d ps ht h
  have struct:∀ (fs:Array Field) (k:Nat) (σ:Ty),P.underlying t=some (.struct fs)->(WN P 0 fs.toList&&Nat.beq (Wj P 0 fs.toList) (P.cellsOf t))=true->dE (fs.toList.map λf=>Gq P xid k f.type)=some σ->J5 w B σ cs (B.b d):=by
   intro fs k σ hu ho hc
   simp only[Bool.and_eq_true]at ho
   obtain⟨xs,n',hn,hd,hl,hlx,JR⟩:=DataW.trod_struct hu h
   cases hn
   cases hd
   have:=W5 B (cs:=cs) (ih:=ih) fs.toList 0 σ xs hc ho.1 (by rw[Nat.eq_of_beq_eq_true ho.2,hl]) (by simpa using hlx) (λi f hf=>JR i f (by simpa using hf))
   rw[B.agg]
   grind
  cases n with
  | zero=>cases ht
  | succ n =>
   unfold Gq at ht
   cases hb:Nat.beq t xid with
   | true =>
    rw[hb,cond_true]at ht
    cases ht
    have:=Nat.eq_of_beq_eq_true hb
    subst this
    unfold F9 at hx
    split at hx
    ·rename_i fs hu
     simp only[Bool.and_eq_true,decide_eq_true_eq]at hx
     obtain⟨x,h1,h2,h3⟩:=struct fs m WI hu (by simp[hx.1.1,hx.1.2]) hx.2
     refine⟨Expr.EG x,.expr _ _ _ _ _ h1,?_,?_⟩
     ·exact(z15 (Expr.EG x)).1 h2
     ·rw[<- z3g (Expr.EG x)]; exact h3
    ·cases hx
    ·rename_i hu
     rw[DataW.trod_step]at h
     simp[DataW.trodStep,hu]at h
   | false =>
    rw[hb,cond_false]at ht
    split at ht
    ·rename_i k hu
     cases ht
     obtain⟨n',rfl,h2,h3⟩:=DataW.trod_int hu h
     cases h2
     simp only[Lit.wf,Bool.and_eq_true,decide_eq_true_eq]at h3
     exact⟨n',.int k n',h3,by simp[bk,B.int]⟩
    ·rename_i hu
     cases ht
     obtain⟨b,rfl,h2⟩:=DataW.trod_bool hu h
     cases h2
     exact⟨b,.bool b,trivial,by simp[bk,B.bool]⟩
    ·rename_i hu
     cases ht
     obtain⟨s,rfl,h2,h3⟩:=DataW.trod_string hu h
     cases h2
     refine⟨s.data.toList,?_,?_,?_⟩
     ·have:s=⟨s.data.toList.toArray⟩:=by cases s; simp
      exact .str _
     ·simp only[wf,Array.length_toList]; exact h3
     ·simp[bk,B.str]
    ·rename_i e hu
     split at ht
     ·rename_i a ha
      cases hc:Nat.beq (P.cellsOf e) a.size&&Nat.blt 0 a.size with
      | false=>grind
      | true =>
       rw[hc,cond_true]at ht
       cases ht
       simp only[Bool.and_eq_true]at hc
       have jv:P.cellsOf e=a.size:=Nat.eq_of_beq_eq_true hc.1
       have Zr:0<a.size:=Nat.le_of_ble_eq_true hc.2
       rcases DataW.trod_slice hu h with⟨rfl,h2⟩ | ⟨p,len,cap,elems,rest,n',hn,rfl,hd,_,vJ,_,hlen,hel,hre,_⟩
       ·cases h2
        exact⟨[],.lj a none,by simp[wf],by simp[bk,UE,B.nil]⟩
       ·cases hn
        cases hd
        by_cases h0:cap=0
        ·subst h0
         have:len=0:=by omega
         subst this
         exact⟨[],.lj a (some p),by simp[wf],by simp[bk,UE,B.slice]⟩
        ·rw[jv]at hel hre
         have z6K:p.block<w.heap.size/\p.spot=none:=by
          have first:∃ x,(w.cells? 0 p a.size)=some x:=by
           by_cases hl:len=0
           ·have:=(hre rfl).2 0 (by omega)
            cases RY:w.cells? 0 p a.size with
            | some x=>simp
            | none =>
             have e0:p.add ((0+0)*a.size)=p:=by simp[Addr.add]
             grind
           ·have:=hel 0 (by omega)
            cases RY:w.cells? 0 p a.size with
            | some x=>simp
            | none =>
             have e0:p.add (0*a.size)=p:=by simp[Addr.add]
             grind
          obtain⟨x,hx⟩:=first
          refine⟨World.cells?_block hx Zr,?_⟩
          have h2:=(World.cells?_some hx).2
          have h3:=h2.2 0 Zr
          have e0:p.add 0=p:=rfl
          cases hs:p.spot with
          | none=>rfl
          | some q =>
           unfold World.cell? at h3
           grind
         obtain⟨blk,off,sp⟩:=p
         obtain⟨z0w,nN⟩:=z6K
         subst nN
         have hg:∀ i,∃ c:List Value,i<len->∃ d,elems[i]? = some d/\J5 w B a c (B.b d.1)/\w.cells? 0 ⟨blk,off+i*a.size,none⟩ a.size=some c:=by
          intro i
          by_cases hi:i<len
          ·have:=hel i hi
           rw[ub]at this
           cases RY:w.cells? 0 ⟨blk,off+i*a.size,none⟩ a.size with
           | none =>
            grind
           | some c =>
            refine⟨c,λ_=>⟨elems[i]'(by omega),by simp,?_,rfl⟩⟩
            grind
          ·exact⟨[],λh=>absurd h hi⟩
         let g:Nat->List Value:=λi=>Classical.choose (hg i)
         have hg':∀ i,i<len->∃ d,elems[i]? = some d/\J5 w B a (g i) (B.b d.1)/\w.cells? 0 ⟨blk,off+i*a.size,none⟩ a.size=some (g i):=λi hi=>Classical.choose_spec (hg i) hi
         obtain⟨l,l1,l2,l3,l4⟩:=YB B (w:=w) (e:=a) 0 len elems g hlen λi hi=>by
          grind
         refine⟨l,?_,l3,?_⟩
         ·have:=Rc.sl (w:=w) (ok:=λk=>k<w.heap.size) a l blk off cap g z0w (by omega) l2 λi hi j v hj=>by
           obtain⟨d,_,_,h3⟩:=hg' i (by omega)
           obtain⟨_,k2,k3⟩:=World.cells?_some h3
           have P9:j<(g i).length:=(List.getElem?_eq_some_iff.1 hj).1
           have:=k3 j (by omega)
           rw[ub,hj]at this
           exact this
          grind
         ·simp only[bk,B.slice]; omega
     ·cases ht
    ·rename_i fs hu
     cases hc:WN P 0 fs.toList&&Nat.beq (Wj P 0 fs.toList) (P.cellsOf t)with
     | false=>grind
     | true =>
      rw[hc,cond_true]at ht
      exact struct fs n τ hu hc ht
    ·cases ht
end
end Go.AM
namespace Go.AM
set_option linter.unusedSectionVars false
variable [ur]
open Go.RowKit Go.ChangeShapes
def Kr:List Ty->Type
 | []=>Unit
 | τ::r=>den τ×Kr r
def mkD:(τs:List Ty)->Kr τs->List D
 | [],_=>[]
 | τ::r,x=>.zC τ x.1::mkD r x.2
def wfL:(τs:List Ty)->Kr τs->Prop
 | [],_=>True
 | τ::r,x=>wf τ x.1/\wfL r x.2
def bkL:(τs:List Ty)->Kr τs->Nat
 | [],_=>0
 | τ::r,x=>bk τ x.1+bkL r x.2
def QM(P:Program)(ts:List Nat):Bool:=ts.all λt=>P.readableRec t&&decide (t<P.types.size)
section
variable {H:Type} {enc:TypeId×Value->H} {P:Program} {xid m n:Nat} {w:World}
theorem z6U{t:Nat}{τ:Ty}{v:Value}{base:Nat}(ht:Gq P xid n t=some τ)(hx:F9 P xid m=true)(h:Value.okWide P w .any base t v):pk τ v.cells.toList=v:=by
 cases n with
 | zero=>cases ht
 | succ n =>
  have agg:∀ fs:Array Field,P.underlying t=some (.struct fs)->τ.isAgg=true->pk τ v.cells.toList=v:=by
   intro fs hu ha
   unfold Value.okWide at h
   rw[hu]at h
   obtain⟨cs,rfl,_⟩:=h
   simp[pk,ha,Value.cells]
  unfold Gq at ht
  cases hb:Nat.beq t xid with
  | true =>
   rw[hb,cond_true]at ht
   cases ht
   have:=Nat.eq_of_beq_eq_true hb
   subst this
   unfold F9 at hx
   split at hx
   ·rename_i fs hu; exact agg fs hu rfl
   ·cases hx
   ·rename_i hu
    unfold Value.okWide at h
    rw[hu]at h
    simp[Cell.okWide,Cell.ok,hu]at h
  | false =>
   rw[hb,cond_false]at ht
   split at ht
   ·rename_i k hu
    cases ht
    unfold Value.okWide at h
    rw[hu]at h
    simp only[Cell.okWide,hu,Cell.ok]at h
    split at h<;>simp_all [pk,Ty.isAgg,Value.cells]
   ·rename_i hu
    cases ht
    unfold Value.okWide at h
    rw[hu]at h
    simp only[Cell.okWide,hu,Cell.ok]at h
    split at h<;>simp_all [pk,Ty.isAgg,Value.cells]
   ·rename_i hu
    cases ht
    unfold Value.okWide at h
    rw[hu]at h
    simp only[Cell.okWide,hu,Cell.ok]at h
    split at h<;>simp_all [pk,Ty.isAgg,Value.cells]
   ·rename_i e hu
    have h1:τ.isAgg=false:=by
     split at ht
     ·rename_i a ha
      cases hc:Nat.beq (P.cellsOf e) a.size&&Nat.blt 0 a.size with
      | false=>grind
      | true=>rw[hc,cond_true]at ht; cases ht; rfl
     ·cases ht
    unfold Value.okWide at h
    rw[hu]at h
    simp only[Cell.okWide,hu,Cell.ok]at h
    split at h<;>simp_all [pk,Value.cells]
   ·rename_i fs hu
    refine agg fs hu ?_
    cases hc:WN P 0 fs.toList&&Nat.beq (Wj P 0 fs.toList) (P.cellsOf t)with
    | false=>grind
    | true =>
     rw[hc,cond_true]at ht
     have key:∀ (l:List (Option Ty)),dE l=some τ->τ.isAgg=true:=by
      intro l hl
      cases l with
      | nil=>cases hl; rfl
      | cons a r =>
       cases a with
       | none=>cases hl
       | some a =>
        simp only[dE]at hl
        cases h2:dE r with
        | none=>grind
        | some b=>rw[h2]at hl; cases hl; rfl
     grind
   ·cases ht
theorem BO(B:Nd H)(hx:F9 P xid m=true){base:Nat}:∀ (ts:List TypeId) (τs:List Ty) (vs:List Value) (ds:List (DataW H)) (ps:List MemPlace),ts.map (Gq P xid n)=τs.map some ->
  DataW.TrodAll enc P w 0 (λ_=>true) true ts vs ds ps->(∀ (j:Nat) t v,ts[j]? = some t->vs[j]? = some v->Value.okWide P w .any base t v) ->
  ∃ x:Kr τs,qM ⟨w,λk=>k<w.heap.size,[],[]⟩ (mkD τs x) vs/\wfL τs x/\bkL τs x<=B.bs ds/\ds.length=τs.length
 | [],τs,vs,ds,ps,ht,h,_=>by
  cases τs with
  | cons=>cases ht
  | nil =>
   cases vs<;>cases ds<;>simp only[DataW.TrodAll]at h
   exact⟨(),⟨rfl,λi h1=>absurd h1 (Nat.not_lt_zero i)⟩,trivial,Nat.zero_le _,rfl⟩
 | t::ts,τs,vs,ds,ps,ht,h,hv=>by
  cases τs with
  | nil=>cases ht
  | cons τ τs =>
   simp at ht
   cases vs with
   | nil=>simp[DataW.TrodAll]at h
   | cons v vs =>
    cases ds with
    | nil=>simp[DataW.TrodAll]at h
    | cons d ds =>
     obtain⟨p,q,⟨fuel,h1⟩,h2,_⟩:=h
     obtain⟨x,k1,k2,k3⟩:=Na B hx fuel n t τ _ d p ht.1 h1
     obtain⟨y,g1,g2,g3,g4⟩:=BO B hx ts τs vs ds q ht.2 h2 λj t v a b=>hv (j+1) t v (by grind) (by grind)
     refine⟨(x,y),⟨by simp only[mkD,List.length_cons]; rw[g1.1],λi h1 h2 => ?_⟩,⟨k2,g2⟩,?_,by grind⟩
     ·cases i with
      | zero =>
       have:=RD.zC (κ:=⟨w,λk=>k<w.heap.size,[],[]⟩) τ x _ k1
       rw[z6U ht.1 hx (hv 0 t v rfl rfl)]at this
       exact this
      | succ i=>exact g1.2 i (by simpa[mkD]using h1) (by grind)
     ·simp only[bkL,B.cons]; omega
theorem Yj(hl:laidOutB P=true){W W':World}(hb:Below W.heap.size W W'):∀ (ts:List TypeId) (vs:List Value) (ds:List (DataW H)) (ps:List MemPlace),QM P ts=true ->
  DataW.TrodAll enc P W 0 (λ_=>true) true ts vs ds ps->(∀ x∈ps,x.block<W.heap.size)->DataW.TrodAll enc P W' 0 (λb=>decide (b<W.heap.size)) true ts vs ds ps
 | [],vs,ds,ps,_,h,_=>by cases vs<;>cases ds<;>simp_all [DataW.TrodAll]
 | t::ts,vs,ds,ps,ht,h,qD=>by
  cases vs with
  | nil=>simp[DataW.TrodAll]at h
  | cons v vs =>
   cases ds with
   | nil=>simp[DataW.TrodAll]at h
   | cons d ds =>
    obtain⟨p,q,h1,h2,rfl⟩:=h
    simp only[QM,List.all_cons,Bool.and_eq_true,decide_eq_true_eq]at ht
    exact⟨p,q,Below.trod hl ht.1.1 ht.1.2 h1 hb λx hx=>qD x (by grind),Yj hl hb ts vs ds q (by simpa[QM]using ht.2) h2 λx hx=>qD x (by grind),rfl⟩
end
theorem NA{H:Type}{enc:TypeId×Value->H}{P:Program}{f:Nat}{fn:Func}{S:List D->St->T (Gy×St)}(hS:Bu P f S)(hf:P.funcs[f]? = some fn)(hbd:fn.body.isNone=false) (hnm:(fn.name == "runtime.NumGoroutine")=false)
  (hl:laidOutB P=true) (xid m n:Nat) (τs:List Ty) (hts:QM P fn.params.toList=true) (hτ:fn.params.toList.map (Gq P xid n)=τs.map some) (hx:F9 P xid m=true)
  {bt:TypeId} (hr:fn.resultTypes = #[bt]) (hbt:P.underlying bt=some .bool) {s:ChangeSpec} (hv:s.vars=[]) (hs:∀ ds:List (DataW H),ds.length=τs.length->s.fn H ds={ results:=[.lit (.bool true)],args:=ds })
  (B:Nd H) {lim:Nat} (law:∀ x:Kr τs,wfL τs x->bkL τs x<=lim->(S (mkD τs x) []).leads (.ret [.zC .bool true],[]))
  {fresh handsOn:Bool} {W:World} {base:Nat} {args:Array Value} {ds gs:List (DataW H)} {before:List MemPlace}
  (hval:∀ (j:Nat) t v,fn.params[j]? = some t->args[j]? = some v->Value.okWide P W .any base t v)
  (hW:DataW.Whole enc P fn.params.toList s.vars false W args.toList ds gs before) (hk:B.bs (ds++gs)<=lim) (hG:Zz W λk=>k<W.heap.size) :
  Calls P f args W λe W'=>∃ v,e=.returned v/\s.post enc P fn false fresh handsOn false W args v W':=by
 have hW':=hW
 obtain⟨p,q,hA,hV,rfl,hfz,OA⟩:=hW
 rw[hv]at hV
 obtain⟨rfl,rfl⟩:=trodVars_none hV
 simp only[List.append_nil]at hk hW'
 obtain⟨x,h1,h2,h3,h4⟩:=BO (n:=n) B hx fn.params.toList τs args.toList ds p hτ hA λj t v a b=>hval j t v (by grind) (by grind)
 have hI:Inv ⟨W,λk=>k<W.heap.size,[],[]⟩ :=
  ⟨rfl,λk hk=>hk,λb blk n h=>by grind,λb b' blk n n' h=>by simp at h,λb x h=>by simp at h,hG⟩
 have z5l:=hS ⟨W,λk=>k<W.heap.size,[],[]⟩ (mkD τs x) args.toList _ _ (law x h2 (Nat.le_trans h3 hk)) hI h1
 rw[Array.toArray_toList]at z5l
 have key:Calls P f args W λe w'=>∃ κ':KS,κ'.w=w'/\κ'.st=[]/\Inv κ'/\Ext ⟨W,λk=>k<W.heap.size,[],[]⟩ κ'/\wW κ' (.ret [.zC .bool true]) e:=by
  rcases z5l with⟨_,h⟩ | ⟨v,w',h,_⟩
  ·exact h
  ·have:=vt (args:=args) hf hnm hbd W
   grind
 refine key.mono λe W' ⟨κ',e1,_,_,e4,v,e5,e6⟩ => ?_
 subst e1
 have hb:Below W.heap.size W κ'.w:=⟨e4.os,e4.tape,e4.output,e4.size,λk hk=>e4.frame k hk λb n h=>by simp at h⟩
 have hv':v=.bool true:=by
  obtain⟨cs,g1,g2⟩:=RD.hM (show RD κ' (.zC .bool true) v from e6)
  rw[g1.kN]at g2
  exact g2
 subst hv'
 have qD:∀ x∈p,x.block<W.heap.size:=λx hx=>by simpa using hW'.lt x hx
 refine⟨_,e5,ds,[],p,[],p,[],hW',?_,?_,?_,hb.frame _,λh=>by cases h⟩
 ·rw[List.append_nil,hs ds h4,hr]
  exact trodAll_cons_mk (shut_bool hbt _) trodAll_mk0
 ·rw[List.append_nil,hs ds h4]
  exact Yj hl hb _ _ _ _ hts hA qD
 ·rw[List.append_nil,hs ds h4,hv]
  rfl
end Go.AM
namespace Go.AM
def Bt:List Ty->Type
 | []=>Unit
 | [τ]=>den τ
 | τ::σ::r=>den τ×Bt (σ::r)
def Xw.ty:Xw->Ty | .rp τ=>τ | .im τ=>τ
def bc:List Xw->Type
 | []=>Unit
 | [p]=>den p.ty
 | p::q::r=>den p.ty×bc (q::r)
def YT:(p:Xw)->den p.ty->D
 | .rp τ,x=>.xe τ x
 | .im τ,x=>.zC τ x
def mG:(l:List Xw)->bc l->List D
 | [],_=>[]
 | [p],x=>[YT p x]
 | p::q::r,x=>YT p x.1::mG (q::r) x.2
def CK:(l:List Xw)->bc l
 | []=>()
 | [p]=>zn p.ty
 | p::q::r=>(zn p.ty,CK (q::r))
inductive Sk where
 | im (τ:Ty) | row (b:Nat) (e:Ty) | op (b T:Nat) | un
def dF:List Sk->Type
 | []=>Unit
 | .im τ::r=>den τ×dF r
 | .row _ _::r=>dF r
 | .op _ _::r=>dF r
 | .un::r=>dF r
def X0:(l:List Sk)->dF l
 | []=>()
 | .im τ::r=>(zn τ,X0 r)
 | .row _ _::r=>X0 r
 | .op _ _::r=>X0 r
 | .un::r=>X0 r
inductive Mc where
 | im (τ:Ty) | rp (τ:Ty) | pt (b:Nat)
def nD:List Mc->Type
 | []=>Unit
 | .im τ::r=>den τ×nD r
 | .rp τ::r=>den τ×nD r
 | .pt _::r=>nD r
def VQ:(l:List Mc)->nD l
 | []=>()
 | .im τ::r=>(zn τ,VQ r)
 | .rp τ::r=>(zn τ,VQ r)
 | .pt _::r=>VQ r
def tG:(l:List Mc)->nD l->List D
 | [],_=>[]
 | .im τ::r,x=>.zC τ x.1::tG r x.2
 | .rp τ::r,x=>.xe τ x.1::tG r x.2
 | .pt b::r,x=>.ptr b 0::tG r x
inductive Dk where
 | zC (τ:Ty) | xe (τ:Ty) | sub (b:Nat) (e:Ty) | xk (f:Nat) (caps:List Xw) | st (ks:List Sk) | mclo (f:Nat) (ms:List Mc)
inductive Ck where
 | ptr (b off:Nat) | cur (b:Nat) (e:Ty) | xE | yL | xh | xk (f:Nat) (l:List (Nat×Nat))
inductive Bk where
 | var (k:Dk) | cvar (k:Ck) | arr (e:Ty) | dead
def Dk.den:Dk->Type
 | .zC τ=>AM.den τ
 | .xe τ=>AM.den τ
 | .sub _ _=>Nat×Nat
 | .xk _ caps=>bc caps
 | .st ks=>dF ks
 | .mclo _ ms=>nD ms
def Dk.zn:(k:Dk)->k.den
 | .zC τ=>AM.zn τ
 | .xe τ=>AM.zn τ
 | .sub _ _=>(0,0)
 | .xk _ caps=>CK caps
 | .st ks=>X0 ks
 | .mclo _ ms=>VQ ms
inductive It where
 | s (t:Nat) (k:Dk) | v (k:Dk) | a (e:Ty)
def It.den:It->Type
 | .s _ k=>k.den
 | .v k=>k.den
 | .a e=>List (AM.den e)
def It.zn:(i:It)->i.den
 | .s _ k=>k.zn
 | .v k=>k.zn
 | .a _=>[]
def vu:List It->Type
 | []=>Unit
 | [i]=>i.den
 | i::j::r=>i.den×vu (j::r)
def zau:yj->Nat
 | .arr v _ _=>v
 | _=>0
def wm(st:St)(b:Nat):Nat:=match st[b]? with | some x=>zau x | none=>0
def vI(st:St):(l:List Sk)->dF l->List D
 | [],_=>[]
 | .im τ::r,x=>AM.flat τ x.1++vI st r x.2
 | .row b e::r,x=>.ms b (wm st b) e 0 (wm st b)::vI st r x
 | .op b T::r,x=>.yt b T::vI st r x
 | .un::r,x=>.tA::vI st r x
def td(st:St):(k:Dk)->k.den->D
 | .zC τ,x=>.zC τ x
 | .xe τ,x=>.xe τ x
 | .sub b e,x=>.ms b (wm st b) e x.1 x.2
 | .xk f caps,x=>.xk f (mG caps x)
 | .st ks,x=>.agg (vI st ks x)
 | .mclo f ms,x=>.xk f (tG ms x)
def CI(st:St):Ck->D
 | .ptr b off=>.ptr b off
 | .cur b e=>.ms b (wm st b) e 0 (wm st b)
 | .xE=>.xE
 | .yL=>.yL
 | .xh=>.xh
 | .xk f l=>.xk f (l.map λp=>.ptr p.1 p.2)
def fq(st:St):(l:List It)->vu l->Fr
 | [],_=>[]
 | [.s t k],x=>[(t,some (td st k x))]
 | [.v _],_=>[]
 | [.a _],_=>[]
 | .s t k::j::r,x=>(t,some (td st k x.1))::fq st (j::r) x.2
 | .v _::j::r,x=>fq st (j::r) x.2
 | .a _::j::r,x=>fq st (j::r) x.2
def z7H(st:St)(l:List (Nat×Ck)):Fr:=l.map λp=>(p.1,some (CI st p.2))
inductive Bd where
 | v (k:Dk) (x:k.den) | a (e:Ty) (x:List (AM.den e))
def nA:(l:List It)->vu l->List Bd
 | [],_=>[]
 | [.s _ _],_=>[]
 | [.v k],x=>[.v k x]
 | [.a e],x=>[.a e x]
 | .s _ _::j::r,x=>nA (j::r) x.2
 | .v k::j::r,x=>.v k x.1::nA (j::r) x.2
 | .a e::j::r,x=>.a e x.1::nA (j::r) x.2
def bL:List Bk->List Bd->St
 | [],_=>[]
 | .arr _::r,.a e x::d=>.arr x.length e x::bL r d
 | .var _::r,_::d=>.dead::bL r d
 | .cvar _::r,d=>.dead::bL r d
 | .dead::r,d=>.dead::bL r d
 | _::_,_=>[]
def u7(st:St):List Bk->List Bd->St
 | [],_=>[]
 | .arr _::r,.a e x::d=>.arr x.length e x::u7 st r d
 | .var _::r,.v k x::d=>.var (td st k x)::u7 st r d
 | .cvar c::r,d=>.var (CI st c)::u7 st r d
 | .dead::r,d=>.dead::u7 st r d
 | _::_,_=>[]
def zhb(bs:List Bk)(d:List Bd):St:=u7 (bL bs d) bs d
structure vG where
 ox:List It
 cs:List (Nat×Ck)
 bs:List Bk
def vG.den(s:vG):Type:=vu s.ox
def vG.st(s:vG)(x:s.den):St:=zhb s.bs (nA s.ox x)
def vG.fr(s:vG)(x:s.den):Fr:=fq (s.st x) s.ox x++z7H (s.st x) s.cs
def M7:(p:Xw)->D->Option (den p.ty)
 | .rp τ,d=>match d with | .xe _ x=>vN x | _=>none
 | .im τ,d=>fk τ d
def Fv:(l:List Xw)->List D->Option (bc l)
 | [],[]=>some ()
 | [p],[d]=>M7 p d
 | p::q::r,d::ds=>(M7 p d).bind λx=>(Fv (q::r) ds).bind λy=>some (x,y)
 | _,_=>none
def cd(st:St)(b:Nat):Nat:=match st[b]? with | some (.arr _ _ xs)=>xs.length | _=>0
def Tk(st:St)(b T:Nat)(ds:List D):Option (List D):=match st[b]? with
 | some (.var _)=>match ds with
  | .dr T'::ds=>bif Nat.beq T T' then some ds else none
  | .yt b' T'::ds=>bif Nat.beq b b'&&Nat.beq T T' then some ds else none
  | _=>none
 | _=>none
def z6V(ds:List D):Option (List D):=match ds with
 | d::ds=>bif d.one then some ds else none
 | _=>none
def ir(st:St):(l:List Sk)->List D->T (dF l)
 | [],ds=>match ds with | []=>.ret () | _=>.fail
 | .im τ::r,ds=>match jR τ ds with | some p=>(ir st r p.2).bind λy=>.ret (p.1,y) | none=>.fail
 | .row b e::r,ds=>match ds with
  | .ms b' qJ e' off len::ds=>bif Nat.beq b b'&&decide (e=e')then .zy (xL qJ off len (cd st b)) (ir st r ds)else .fail
  | _=>.fail
 | .op b T::r,ds=>match Tk st b T ds with | some q=>ir st r q | none=>.fail
 | .un::r,ds=>match z6V ds with | some q=>ir st r q | none=>.fail
def WM:(l:List Mc)->List D->T (nD l)
 | [],ds=>match ds with | []=>.ret () | _=>.fail
 | .im τ::r,ds=>match ds with
  | d::ds=>match fk τ d with | some y=>(WM r ds).bind λz=>.ret (y,z) | none=>.fail
  | _=>.fail
 | .rp τ::r,ds=>match ds with
  | .xe _ x::ds=>match(vN x:Option (AM.den τ))with | some y=>(WM r ds).bind λz=>.ret (y,z) | none=>.fail
  | _=>.fail
 | .pt b::r,ds=>match ds with
  | .ptr b' off::ds=>bif Nat.beq b b'&&Nat.beq off 0 then WM r ds else .fail
  | _=>.fail
def Zv(st:St):(k:Dk)->D->T k.den
 | .zC τ,d=>.YH (fk τ d)
 | .xe τ,d=>match d with | .xe _ x=>.YH (vN x) | _=>.fail
 | .sub b e,d=>match d with
  | .ms b' qJ e' off len=>bif Nat.beq b b'&&decide (e=e')then .zy (qJ=wm st b) (.ret (off,len))else .fail
  | _=>.fail
 | .xk f caps,d=>match d with
  | .xk f' l=>bif Nat.beq f f' then .YH (Fv caps l)else .fail
  | _=>.fail
 | .st ks,d=>bif d.dJ then ir st ks (qm d)else .fail
 | .mclo f ms,d=>match d with
  | .xk f' l=>bif Nat.beq f f' then WM ms l else .fail
  | _=>.fail
def Z4:List (Nat×Nat)->List D->Bool
 | [],[]=>true
 | p::r,.ptr b off::ds=>Nat.beq p.1 b&&Nat.beq p.2 off&&Z4 r ds
 | _,_=>false
def Vo(st:St):Ck->D->T Unit
 | .ptr b off,d=>match d with | .ptr b' off'=>bif Nat.beq b b'&&Nat.beq off off' then .ret ()else .fail | _=>.fail
 | .cur b e,d=>match d with
  | .ms b' qJ e' off len=>bif Nat.beq b b'&&decide (e=e')then .zy (xL qJ off len (cd st b)) (.ret ())else .fail
  | _=>.fail
 | .xE,d=>match d with | .xE=>.ret () | _=>.fail
 | .yL,d=>match d with | .yL=>.ret () | _=>.fail
 | .xh,d=>match d with | .xh=>.ret () | _=>.fail
 | .xk f l,d=>match d with | .xk f' l'=>bif Nat.beq f f'&&Z4 l l' then .ret ()else .fail | _=>.fail
def z2G(fr:Fr)(st:St):List (Nat×Ck)->T Unit
 | []=>.ret ()
 | p::r=>match fr.get p.1 with
  | some d=>(Vo st p.2 d).bind λ_=>z2G fr st r
  | none=>.fail
def TD(e:Ty)(b:yj):T (List (den e)):=match b with
 | .arr qJ _ xs=>match(vN (a:=.sl _) (b:=.sl e) xs:Option (List (den e)))with
  | some ys=>.zy (qJ=ys.length) (.ret ys)
  | none=>.fail
 | _=>.fail
def Dk.plain:Dk->Bool
 | .zC _=>true
 | .xe _=>true
 | .st _=>true
 | _=>false
def z0y(st:St)(k:Dk)(b:yj):T k.den:=match b with
 | .var d=>bif k.plain then Zv st k d else .fail
 | _=>.fail
def Fo:yj->Bool | .var _=>true | _=>false
def Ke(st:St):List Bk->List yj->T (List yj)
 | [],_=>.ret []
 | .arr _::r,b::bl=>(Ke st r bl).bind λl=>.ret (b::l)
 | .var _::r,b::bl=>(Ke st r bl).bind λl=>.ret (b::l)
 | .cvar c::r,.var d::bl=>(Vo st c d).bind λ_=>Ke st r bl
 | .dead::r,b::bl=>bif Fo b then .fail else Ke st r bl
 | _,_=>.fail
def D5(fr:Fr)(st:St)(bl:List yj):(i:It)->T (i.den×List yj)
 | .s t k=>match fr.get t with | some d=>(Zv st k d).bind λx=>.ret (x,bl) | none=>.fail
 | .v k=>match bl with | b::r=>(z0y st k b).bind λx=>.ret (x,r) | []=>.fail
 | .a e=>match bl with | b::r=>(TD e b).bind λx=>.ret (x,r) | []=>.fail
def Co{α:Type}(x:α×List yj):T α:=match x.2 with | []=>.ret x.1 | _=>.fail
def Yb(fr:Fr)(st:St):(l:List It)->List yj->T (vu l)
 | [],bl=>Co ((),bl)
 | [i],bl=>(D5 fr st bl i).bind Co
 | i::j::r,bl=>(D5 fr st bl i).bind λx=>(Yb fr st (j::r) x.2).bind λy=>.ret (x.1,y)
def rowAt(bs:List Bk)(b:Nat):Bool:=match bs[b]? with | some (.arr _)=>true | _=>false
def Wg(bs:List Bk)(b:Nat):Bool:=match bs[b]? with | some (.var _)=>true | some (.cvar _)=>true | _=>false
def z3Q(bs:List Bk):Sk->Bool
 | .row b _=>rowAt bs b
 | .op b _=>Wg bs b
 | _=>true
def zbZ(bs:List Bk):Mc->Bool
 | .pt b=>Wg bs b
 | _=>true
def C2(bs:List Bk):Dk->Bool
 | .mclo _ ms=>ms.all (zbZ bs)
 | .sub b _=>rowAt bs b
 | .st ks=>ks.all (z3Q bs)
 | _=>true
def OL(bs:List Bk):Ck->Bool
 | .ptr b _=>Wg bs b
 | .cur b _=>rowAt bs b
 | .xk _ l=>l.all λp=>Wg bs p.1
 | _=>true
def zf1(bs:List Bk):It->Bool
 | .s _ k=>C2 bs k
 | .v k=>C2 bs k
 | .a _=>true
def zhj(bs:List Bk):Bk->Bool
 | .cvar c=>OL bs c
 | _=>true
def kinds:List It->List Bool
 | []=>[]
 | .s _ _::r=>kinds r
 | .v _::r=>false::kinds r
 | .a _::r=>true::kinds r
def ga:List Bk->List Bool->Bool
 | [],[]=>true
 | .arr _::bs,b::r=>b&&ga bs r
 | .var _::bs,b::r => !b&&ga bs r
 | .cvar _::bs,l=>ga bs l
 | .dead::bs,l=>ga bs l
 | _,_=>false
def vG.ok(s:vG):Bool:=ga s.bs (kinds s.ox)&&s.ox.all (zf1 s.bs)&&s.cs.all (λp=>OL s.bs p.2)&&s.bs.all (zhj s.bs)
def vG.un(s:vG)(fr:Fr)(st:St):T s.den :=
 bif s.ok&&(st.take s.bs.length).all (B0 s.bs.length)then(z2G fr st s.cs).bind λ_=>(Ke st s.bs st).bind λbl=>Yb fr st s.ox bl
 else .fail
structure Way where
 ex:Ex
 sh:vG
def hJ:List Way->Type
 | []=>Empty
 | [w]=>w.sh.den
 | w::v::r=>w.sh.den⊕hJ (v::r)
def MV{α:Type}:(l:List Way)->hJ l->(Ex->Fr->St->T α)->T α
 | [],x,_=>nomatch x
 | [w],x,k=>k w.ex (w.sh.fr x) (w.sh.st x)
 | w::v::r,x,k=>Sum.elim (λa=>k w.ex (w.sh.fr a) (w.sh.st a)) (λb=>MV (v::r) b k) x
def oS:Ex->Ex->Bool
 | .normal,.normal=>true
 | .ret,.ret=>true
 | .exit a,.exit b=>Nat.beq a b
 | .ye (.iface t _),.ye (.iface t' _)=>Nat.beq t t'
 | _,_=>false
def KL:Ex->Fr->Fr
 | .ye (.iface _ d),_=>[(0,some d)]
 | _,fr=>fr
def CN:Ex->Fr->Option (Ex×Fr)
 | .ye (.iface t _),fr=>match fr.get 0 with | some d=>some (.ye (.iface t d),[]) | none=>none
 | .ye _,_=>none
 | e,fr=>some (e,fr)
def GY:(l:List Way)->Ex->Fr->St->T (hJ l)
 | [],_,_,_=>.fail
 | [w],ex,fr,st=>bif oS w.ex ex then w.sh.un fr st else .fail
 | w::v::r,ex,fr,st=>bif oS w.ex ex then(w.sh.un fr st).bind λx=>.ret (.inl x)else(GY (v::r) ex fr st).bind λy=>.ret (.inr y)
end Go.AM
namespace Go.AM
set_option linter.unusedSectionVars false
variable [ur] [Ku]
section
variable {c:Ctx} {n:Nat}
theorem get_mem:∀ {l:Fr} {s:Nat} {d:D},l.get s=some d->(s,some d)∈l
 | [],s,d,h=>by cases h
 | (t,d')::r,s,d,h=>by
  simp only[Fr.get]at h
  cases ht:Nat.beq t s with
  | true =>
   rw[ht,cond_true]at h
   rw[Nat.eq_of_beq_eq_true ht,h]
   simp
  | false=>rw[ht,cond_false]at h; exact List.mem_cons_of_mem _ (get_mem h)
theorem get_append{l m:Fr}{s:Nat}{d:D}(h:(l++m).get s=some d):(s,some d)∈l\/m.get s=some d:=by
 induction l with
 | nil=>grind
 | cons p r ih =>
  obtain⟨t,d'⟩:=p
  simp only[List.cons_append,Fr.get]at h
  cases ht:Nat.beq t s with
  | true=>rw[ht,cond_true]at h; rw[Nat.eq_of_beq_eq_true ht,h]; exact .inl List.mem_cons_self
  | false=>grind
structure Wk(κ κ':KS):Prop where
 w:κ'.w=κ.w
 ok:κ'.ok=κ.ok
 ph:κ'.ph=κ.ph
 len:κ'.st.length=κ.st.length
 var:∀ (b:Nat) (d:D),κ.st[b]? = some (yj.var d)->∃ d',κ'.st[b]? = some (yj.var d')
 arr:∀ (b v:Nat) (e:Ty) (xs:List (den e)),κ.st[b]? = some (yj.arr v e xs)->κ'.st[b]? = some (yj.arr v e xs)\/κ'.st[b]? = some yj.dead
 arr':∀ (b v:Nat) (e:Ty) (xs:List (den e)),κ'.st[b]? = some (yj.arr v e xs)->κ.st[b]? = some (yj.arr v e xs)
 dead:∀ (b:Nat),κ.st[b]? = some yj.dead->κ'.st[b]? = some yj.dead
theorem Wk.ext{κ κ':KS}(h:Wk κ κ'):Ext κ κ':=by
 refine⟨by rw[h.w],by rw[h.w],by rw[h.w],by rw[h.w]; exact Nat.le_refl _,λk hk=>⟨by rw[h.ok]; exact hk,by rw[h.w]⟩,λk hk=>.inl (by rw[<- h.ok]; exact hk),
  λb blk m hb=>.inl (by rw[<- h.ph]; exact hb),λb d hd=>⟨h.var b d hd,by rw[h.ph]⟩,λb v0 e xs hb => ?_,h.dead,by rw[h.len]; exact Nat.le_refl _,λk _ _=>by rw[h.w]⟩
 rcases h.arr b v0 e xs hb with g | g
 ·exact .inr ⟨v0,xs,g,Nat.le_refl _,λ_=>⟨by rw[h.ph],rfl⟩⟩
 ·grind
theorem Wk.rd{κ κ':KS}(h:Wk κ κ'){d:D}{v:Value}(hd:RD κ d v):RD κ' d v:=hd.mono h.ext
theorem Wk.inv{κ κ':KS}(h:Wk κ κ')(hI:Inv κ)(hv:∀ (b:Nat) (d:D),κ'.st[b]? = some (yj.var d)->ff κ' b (.var d)):Inv κ':=by
 refine⟨by rw[h.ph,h.len]; exact hI.len,λk hk=>by rw[h.w]; exact hI.gm k (by rw[<- h.ok]; exact hk),λb blk m hb => ?_,λb b' blk m m' hb Bo=>hI.inj b b' blk m m' (by rw[<- h.ph]; exact hb) (by rw[<- h.ph]; exact Bo),λb x hx => ?_,hI.gl.mono h.ext.same⟩
 ·obtain⟨g1,g2⟩:=hI.apart b blk m (by rw[<- h.ph]; exact hb)
  exact⟨by rw[h.w]; exact g1,λhk=>g2 (by rw[<- h.ok]; exact hk)⟩
 ·cases x with
  | dead=>trivial
  | var d=>grind
  | arr v e xs=>exact(hI.blk b _ (h.arr' b v e xs hx)).mono h.ext (by rw[h.ph]) λblk m _=>by rw[h.w]
theorem U6{p:Xw}{d:D}{x:den p.ty}(h:M7 p d=some x){κ:KS}{v:Value}(hd:RD κ d v):RD κ (YT p x) v:=by
 cases p with
 | rp τ =>
  cases d<;>simp only[M7]at h<;>try (cases h; done)
  obtain⟨e,hx⟩:=qx h
  cases e
  cases hx
  exact hd
 | im τ=>exact cQ hd h
theorem Wa{κ:KS}:∀ (l:List Xw) (ds:List D) (x:bc l) (vs:List Value),Fv l ds=some x->qM κ ds vs->qM κ (mG l x) vs
 | [],[],x,vs,_,hd=>by rw[hd.ql]; exact .nil
 | [],_::_,_,_,h,_=>nomatch h
 | [p],[],_,_,h,_=>nomatch h
 | [p],[d],x,vs,h,hd=>by
  obtain⟨v,us,rfl,h1,h2⟩:=hd.cons_inv
  rw[h2.ql]
  exact .cons (U6 h h1) .nil
 | [p],_::_::_,_,_,h,_=>nomatch h
 | p::q::r,[],_,_,h,_=>nomatch h
 | p::q::r,d::ds,x,vs,h,hd=>by
  obtain⟨y,hy,h⟩:=Option.bind_eq_some_iff.1 h
  obtain⟨z,hz,h⟩:=Option.bind_eq_some_iff.1 h
  cases h
  obtain⟨v,us,rfl,h1,h2⟩:=hd.cons_inv
  exact .cons (U6 hy h1) (Wa (q::r) ds z us hz h2)
theorem RF{κ:KS}{d:D}{v:Value}(hd:RD κ d v)(ha:d.dJ=true):∃ c,v=.agg c:=by
 cases hd with
 | zC τ x cs h=>exact⟨cs.toArray,by unfold pk; rw[show τ.isAgg=true from ha]; rfl⟩
 | agg l vs hl ho h=>simp
 | _=>cases ha
theorem z1L{κ:KS}{b T:Nat}{ds q:List D}{vs:List Value}(hd:qM κ ds vs)(h:Tk κ.st b T ds=some q):∃ v us,vs=v::us/\RD κ (.yt b T) v/\qM κ q us:=by
 unfold Tk at h
 split at h
 ·rename_i d0 CG
  split at h
  ·rename_i T' ds
   cases hb:Nat.beq T T' with
   | false=>grind
   | true =>
    rw[hb]at h
    cases h
    obtain⟨v,us,rfl,g1,g2⟩:=hd.cons_inv
    exact⟨v,us,rfl,by cases g1; exact .cW b T d0 CG,g2⟩
  ·rename_i b' T' ds
   cases hb:Nat.beq b b'&&Nat.beq T T' with
   | false=>grind
   | true =>
    simp only[Bool.and_eq_true]at hb
    have e1:=Nat.eq_of_beq_eq_true hb.1
    have e2:=Nat.eq_of_beq_eq_true hb.2
    obtain⟨v,us,rfl,g1,g2⟩:=hd.cons_inv
    grind
  ·cases h
 ·cases h
theorem F1{st:St}{b T:Nat}{ds q:List D}(h:Tk st b T ds=some q):bA ds=some T:=by
 unfold Tk at h
 split at h
 ·split at h
  ·rename_i T' ds
   cases hb:Nat.beq T T' with
   | false=>grind
   | true=>rw[Nat.eq_of_beq_eq_true hb]; rfl
  ·rename_i b' T' ds
   cases hb:Nat.beq b b'&&Nat.beq T T' with
   | false=>grind
   | true =>
    simp only[Bool.and_eq_true]at hb
    rw[Nat.eq_of_beq_eq_true hb.2]; rfl
  ·cases h
 ·cases h
theorem z4c{κ:KS}{ds q:List D}{vs:List Value}(hd:qM κ ds vs)(h:z6V ds=some q):∃ v us,vs=v::us/\RD κ .tA v/\qM κ q us:=by
 unfold z6V at h
 split at h
 ·rename_i d ds
  cases hb:d.one with
  | false=>grind
  | true =>
   rw[hb]at h
   cases h
   obtain⟨v,us,rfl,g1,g2⟩:=hd.cons_inv
   exact⟨v,us,rfl,.tA v (g1.VE hb),g2⟩
 ·cases h
theorem eA{κ:KS}{zx:St}{bs:List Bk}(Kj:∀ b,rowAt bs b=true->wm zx b=cd κ.st b):∀ (ks:List Sk) (ds:List D) (x:dF ks) (vs:List Value),ks.all (z3Q bs)=true->(ir κ.st ks ds).leads x->qM κ ds vs ->
  qM κ (vI zx ks x) vs/\∀ d∈vI zx ks x,d.one=true
 | [],ds,x,vs,_,h,hd=>by
  cases ds with
  | nil=>exact⟨hd,λd hm=>by cases hm⟩
  | cons d r=>exact h.elim
 | .im τ::r,ds,x,vs,ho,h,hd=>by
  simp only[ir]at h
  split at h
  ·rename_i p hp
   obtain⟨y,h1,h2⟩:=T.ze.1 h
   cases h2
   obtain⟨c1,c2,rfl,g1,g2⟩:=sO τ hd hp
   simp only[List.all_cons,Bool.and_eq_true]at ho
   obtain⟨k1,k2⟩:=eA Kj r p.2 y c2 ho.2 h1 g2
   refine⟨(rT g1).append k1,λd hm => ?_⟩
   rcases List.mem_append.1 (show d∈flat τ p.1++vI zx r y from hm)with hm | hm
   ·exact eP τ _ d hm
   ·grind
  ·exact h.elim
 | .row b e::r,ds,x,vs,ho,h,hd=>by
  cases ds with
  | nil=>exact h.elim
  | cons d ds =>
   cases d<;>simp only[ir]at h<;>try (exact h.elim)
   rename_i b' qJ e' off len
   cases hb:Nat.beq b b'&&decide (e=e')with
   | false=>rw[hb]at h; exact h.elim
   | true =>
    rw[hb,cond_true]at h
    simp only[Bool.and_eq_true,decide_eq_true_eq]at hb
    obtain⟨⟨h1,h2,h3⟩,h⟩:=h
    have:=Nat.eq_of_beq_eq_true hb.1
    obtain⟨-,rfl⟩:=hb
    subst this
    obtain⟨v,us,rfl,g1,g2⟩:=hd.cons_inv
    simp only[List.all_cons,Bool.and_eq_true]at ho
    obtain⟨k1,k2⟩:=eA Kj r ds x us ho.2 h g2
    have e1:vI zx (.row b e::r) x=.ms b qJ e off len::vI zx r x:=by
     show D.ms b (wm zx b) e 0 (wm zx b)::_=_
     rw[Kj b ho.1,h1,h2,h3]
    rw[e1]
    refine⟨.cons g1 k1,λd hm => ?_⟩
    rcases List.mem_cons.1 hm with rfl | hm
    ·rfl
    ·grind
 | .op b T::r,ds,x,vs,ho,h,hd=>by
  simp only[List.all_cons,Bool.and_eq_true]at ho
  simp only[ir]at h
  split at h
  ·rename_i q hq
   obtain⟨v,us,rfl,g0,g2⟩:=z1L hd hq
   obtain⟨k1,k2⟩:=eA Kj r q x us ho.2 h g2
   refine⟨show qM κ (D.yt b T::vI zx r x) (v::us)from .cons g0 k1,λd hm => ?_⟩
   rcases List.mem_cons.1 (show d∈D.yt b T::vI zx r x from hm)with rfl | hm
   ·rfl
   ·grind
  ·exact h.elim
 | .un::r,ds,x,vs,ho,h,hd=>by
  simp only[List.all_cons,Bool.and_eq_true]at ho
  simp only[ir]at h
  split at h
  ·rename_i q hq
   obtain⟨v,us,rfl,g0,g2⟩:=z4c hd hq
   obtain⟨k1,k2⟩:=eA Kj r q x us ho.2 h g2
   refine⟨show qM κ (D.tA::vI zx r x) (v::us)from .cons g0 k1,λd hm => ?_⟩
   rcases List.mem_cons.1 (show d∈D.tA::vI zx r x from hm)with rfl | hm
   ·rfl
   ·grind
  ·exact h.elim
theorem oG{st zx:St}{bs:List Bk}(h:∀ b,rowAt bs b=true->wm st b=wm zx b):∀ (ks:List Sk) (x:dF ks),ks.all (z3Q bs)=true->vI st ks x=vI zx ks x
 | [],_,_=>rfl
 | .im τ::r,x,ho=>by
  simp only[List.all_cons,Bool.and_eq_true]at ho
  show flat τ x.1++vI st r x.2=flat τ x.1++vI zx r x.2
  rw[oG h r x.2 ho.2]
 | .row b e::r,x,ho=>by
  simp only[List.all_cons,Bool.and_eq_true]at ho
  show D.ms b (wm st b) e 0 (wm st b)::vI st r x=D.ms b (wm zx b) e 0 (wm zx b)::vI zx r x
  rw[oG h r x ho.2,h b ho.1]
 | .op b T::r,x,ho=>by
  simp only[List.all_cons,Bool.and_eq_true]at ho
  show D.yt b T::vI st r x=D.yt b T::vI zx r x
  rw[oG h r x ho.2]
 | .un::r,x,ho=>by
  simp only[List.all_cons,Bool.and_eq_true]at ho
  show D.tA::vI st r x=D.tA::vI zx r x
  rw[oG h r x ho.2]
theorem Jg:∀ (τ:Ty) (x:den τ),∀ y∈flat τ x,∃ σ z,y=.zC σ z:=by
 intro τ x y hy
 induction τ with
 | cons a b ia ib =>
  simp only[flat]at hy
  grind
 | nil=>simp[flat]at hy
 | expr=>simp[flat]at hy; rcases hy with rfl | rfl | rfl | rfl | rfl | rfl<;>exact⟨_,_,rfl⟩
 | _=>simp[flat]at hy; subst hy; exact⟨_,_,rfl⟩
theorem GK:∀ (τ:Ty) {ds:List D} {p:den τ×List D},jR τ ds=some p->τ.size=0->p.2=ds:=by
 intro τ
 induction τ with
 | nil=>intro ds p h _; simp only[jR,Option.some.injEq]at h; subst h; rfl
 | cons a b ia ib =>
  intro ds p h hz
  simp only[Ty.size]at hz
  simp only[jR]at h
  grind
 | _=>nofun
theorem Ws{st zx:St}{tt:Nat}:∀ (ks:List Sk) (ds:List D) (x:dF ks),(ir st ks ds).leads x->bA (vI zx ks x)=some tt->bA ds=some tt
 | [],ds,x,h,ht=>by cases ht
 | .im τ::r,ds,x,h,ht=>by
  simp only[ir]at h
  split at h
  ·rename_i p hp
   obtain⟨y,h1,h2⟩:=T.ze.1 h
   cases h2
   have ht':bA (flat τ p.1++vI zx r y)=some tt:=ht
   cases hf:flat τ p.1 with
   | nil =>
    rw[hf]at ht'
    have hz:τ.size=0:=by rw[<- ZU τ p.1,hf]; rfl
    have:=GK τ hp hz
    rw[<- this]
    exact Ws r p.2 y h1 ht'
   | cons z zs =>
    rw[hf]at ht'
    obtain⟨σ,w,e⟩:=Jg τ p.1 z (by grind)
    rw[e]at ht'
    cases ht'
  ·exact h.elim
 | .row b e::r,ds,x,h,ht=>by cases ht
 | .op b T'::r,ds,x,h,ht=>by
  simp only[ir]at h
  split at h
  ·rename_i q hq
   cases ht
   exact F1 hq
  ·exact h.elim
 | .un::r,ds,x,h,ht=>by cases ht
theorem Wi{d:D}{T:Nat}(ha:d.dJ=true)(h:bA (qm d)=some T):d.typed=some T:=by
 cases d with
 | zC τ x =>
  simp only[qm]at h
  cases hf:flat τ x with
  | nil=>rw[hf]at h; cases h
  | cons z zs =>
   obtain⟨σ,w,e⟩:=Jg τ x z (by grind)
   rw[hf,e]at h
   cases h
 | agg l=>exact h
 | _=>cases ha
theorem GR{m:Nat}(τ:Ty)(x:den τ):∀ d∈flat τ x,ug m d=true:=λd hd=>by
 obtain⟨σ,z,rfl⟩:=Jg τ x d hd
 rfl
theorem yb{m:Nat}{st:St}{bs:List Bk}(hb:∀ b,rowAt bs b=true->b<m)(hbv:∀ b,Wg bs b=true->b<m):∀ (ks:List Sk) (x:dF ks),ks.all (z3Q bs)=true->∀ d∈vI st ks x,ug m d=true
 | [],_,_,d,hd=>by cases hd
 | .im τ::r,x,ho,d,hd=>by
  simp only[List.all_cons,Bool.and_eq_true]at ho
  rcases List.mem_append.1 (show d∈flat τ x.1++vI st r x.2 from hd)with hd | hd
  ·exact GR τ _ d hd
  ·exact yb hb hbv r x.2 ho.2 d hd
 | .row b e::r,x,ho,d,hd=>by
  simp only[List.all_cons,Bool.and_eq_true]at ho
  rcases List.mem_cons.1 (show d∈D.ms b (wm st b) e 0 (wm st b)::vI st r x from hd)with rfl | hd
  ·have:=hb b ho.1
   simp only[ug,Nat.blt,Nat.ble_eq]; exact this
  ·exact yb hb hbv r x ho.2 d hd
 | .op b T::r,x,ho,d,hd=>by
  simp only[List.all_cons,Bool.and_eq_true]at ho
  rcases List.mem_cons.1 (show d∈D.yt b T::vI st r x from hd)with rfl | hd
  ·have:=hbv b ho.1
   simp only[ug,Nat.blt,Nat.ble_eq]; exact this
  ·exact yb hb hbv r x ho.2 d hd
 | .un::r,x,ho,d,hd=>by
  simp only[List.all_cons,Bool.and_eq_true]at ho
  rcases List.mem_cons.1 (show d∈D.tA::vI st r x from hd)with rfl | hd
  ·rfl
  ·exact yb hb hbv r x ho.2 d hd
theorem sg{κ:KS}:∀ (ms:List Mc) (ds:List D) (x:nD ms) (vs:List Value),(WM ms ds).leads x->qM κ ds vs->qM κ (tG ms x) vs
 | [],ds,x,vs,h,hd=>by
  cases ds with
  | nil=>exact hd
  | cons d r=>exact h.elim
 | .im τ::r,ds,x,vs,h,hd=>by
  cases ds with
  | nil=>exact h.elim
  | cons d ds =>
   simp only[WM]at h
   split at h
   ·rename_i y hy
    obtain⟨z,h1,h2⟩:=T.ze.1 h
    cases h2
    obtain⟨v,us,rfl,g1,g2⟩:=hd.cons_inv
    exact .cons (cQ g1 hy) (sg r ds z us h1 g2)
   ·exact h.elim
 | .rp τ::r,ds,x,vs,h,hd=>by
  cases ds with
  | nil=>exact h.elim
  | cons d ds =>
   cases d<;>simp only[WM]at h<;>try (exact h.elim)
   split at h
   ·rename_i y hy
    obtain⟨e,hx⟩:=qx hy
    cases e
    cases hx
    obtain⟨z,h1,h2⟩:=T.ze.1 h
    cases h2
    obtain⟨v,us,rfl,g1,g2⟩:=hd.cons_inv
    exact .cons g1 (sg r ds z us h1 g2)
   ·exact h.elim
 | .pt b::r,ds,x,vs,h,hd=>by
  cases ds with
  | nil=>exact h.elim
  | cons d ds =>
   cases d<;>simp only[WM]at h<;>try (exact h.elim)
   rename_i b' off
   cases hb:Nat.beq b b'&&Nat.beq off 0 with
   | false=>rw[hb]at h; exact h.elim
   | true =>
    rw[hb]at h
    simp only[Bool.and_eq_true]at hb
    have e1:=Nat.eq_of_beq_eq_true hb.1
    have e2:=Nat.eq_of_beq_eq_true hb.2
    subst e1 e2
    obtain⟨v,us,rfl,g1,g2⟩:=hd.cons_inv
    exact .cons g1 (sg r ds x us h g2)
theorem dO{m:Nat}{bs:List Bk}(hb:∀ b,Wg bs b=true->b<m):∀ (ms:List Mc) (x:nD ms),ms.all (zbZ bs)=true->∀ d∈tG ms x,ug m d=true
 | [],_,_,d,hd=>by cases hd
 | .im τ::r,x,ho,d,hd=>by
  simp only[List.all_cons,Bool.and_eq_true]at ho
  rcases List.mem_cons.1 (show d∈D.zC τ x.1::tG r x.2 from hd)with rfl | hd
  ·rfl
  ·exact dO hb r x.2 ho.2 d hd
 | .rp τ::r,x,ho,d,hd=>by
  simp only[List.all_cons,Bool.and_eq_true]at ho
  rcases List.mem_cons.1 (show d∈D.xe τ x.1::tG r x.2 from hd)with rfl | hd
  ·rfl
  ·exact dO hb r x.2 ho.2 d hd
 | .pt b::r,x,ho,d,hd=>by
  simp only[List.all_cons,Bool.and_eq_true]at ho
  rcases List.mem_cons.1 (show d∈D.ptr b 0::tG r x from hd)with rfl | hd
  ·have:=hb b ho.1
   simp only[ug,Nat.blt,Nat.ble_eq]; exact this
  ·exact dO hb r x ho.2 d hd
theorem GP{κ κ':KS}(hw:Wk κ κ'){k:Dk}{d:D}{x:k.den}{v:Value}{bs:List Bk}(wI:C2 bs k=true)(Kj:∀ b,rowAt bs b=true->wm κ'.st b=wm κ.st b)
  {zx:St} (xR:∀ b,rowAt bs b=true->wm zx b=wm κ'.st b) (hlen:∀ b,rowAt bs b=true->wm κ.st b=cd κ.st b) (h:(Zv κ.st k d).leads x) (hd:RD κ d v):RD κ' (td zx k x) v:=by
 cases k with
 | zC τ=>exact hw.rd (cQ hd (T.uA.1 h))
 | xe τ =>
  cases d<;>simp only[Zv]at h<;>try (exact h.elim)
  obtain⟨e,hx⟩:=qx (T.uA.1 h)
  cases e
  cases hx
  exact hw.rd hd
 | sub b e =>
  cases d<;>simp only[Zv]at h<;>try (exact h.elim)
  rename_i b' qJ e' off len
  cases hb:Nat.beq b b'&&decide (e=e')with
  | false=>rw[hb]at h; exact h.elim
  | true =>
   rw[hb,cond_true]at h
   simp only[Bool.and_eq_true,decide_eq_true_eq]at hb
   obtain⟨hv,h⟩:=h
   cases h
   have:=Nat.eq_of_beq_eq_true hb.1
   obtain⟨-,rfl⟩:=hb
   subst this
   simp only[td]
   rw[xR b wI,Kj b wI,<- hv]
   exact hw.rd hd
 | xk f caps =>
  cases d<;>simp only[Zv]at h<;>try (exact h.elim)
  rename_i f' l
  cases hb:Nat.beq f f' with
  | false=>rw[hb]at h; exact h.elim
  | true =>
   rw[hb,cond_true]at h
   have:=Nat.eq_of_beq_eq_true hb
   subst this
   have hx:=T.uA.1 h
   cases hd with
   | xk _ _ vs hl hh =>
    have:=Wa caps l x vs hx (⟨hl,hh⟩:qM κ l vs)
    exact hw.rd (.xk f _ vs this.1 this.2)
 | st ks =>
  simp only[Zv]at h
  cases ha:d.dJ with
  | false=>rw[ha]at h; exact h.elim
  | true =>
   rw[ha]at h
   have ht:d.jf=false:=by cases d<;>first | rfl | (simp[D.dJ]at ha)
   obtain⟨g1,g2⟩:=eA (zx:=zx) (λb hb=>(xR b hb).trans ((Kj b hb).trans (hlen b hb))) ks (qm d) x _ wI h (jF hd ht)
   obtain⟨c,hc⟩:=RF hd ha
   subst hc
   have g1':qM κ (vI zx ks x) c.toList:=g1
   have:=RD.agg (κ:=κ) _ c.toList g1'.1 g2 g1'.2
   exact hw.rd (show RD κ (.agg (vI zx ks x)) (.agg c) by simpa using this)
 | mclo f ms =>
  cases d<;>simp only[Zv]at h<;>try (exact h.elim)
  rename_i f' l
  cases hb:Nat.beq f f' with
  | false=>rw[hb]at h; exact h.elim
  | true =>
   rw[hb]at h
   have:=Nat.eq_of_beq_eq_true hb
   subst this
   cases hd with
   | xk _ _ vs hl hh =>
    have:=sg ms l x vs h (⟨hl,hh⟩:qM κ l vs)
    exact hw.rd (show RD κ (.xk f (tG ms x)) _ from .xk f _ vs this.1 this.2)
theorem Yq:∀ {l:List (Nat×Nat)} {ds:List D},Z4 l ds=true->ds=l.map λp=>.ptr p.1 p.2
 | [],[],_=>rfl
 | [],_::_,h=>by simp[Z4]at h
 | p::r,[],h=>by simp[Z4]at h
 | p::r,d::ds,h=>by
  cases d<;>simp only[Z4]at h<;>try (cases h; done)
  simp only[Bool.and_eq_true]at h
  rw[Yq h.2,<- Nat.eq_of_beq_eq_true h.1.1,<- Nat.eq_of_beq_eq_true h.1.2]
  rfl
theorem z2t{st zx:St}{ck:Ck}{d:D}{bs:List Bk}(wI:OL bs ck=true)(Kj:∀ b,rowAt bs b=true->wm zx b=cd st b)(h:(Vo st ck d).leads ()):CI zx ck=d:=by
 cases ck with
 | ptr b off =>
  cases d<;>simp only[Vo]at h<;>try (exact h.elim)
  rename_i b' off'
  cases hb:Nat.beq b b'&&Nat.beq off off' with
  | false=>rw[hb]at h; exact h.elim
  | true =>
   simp only[Bool.and_eq_true]at hb
   rw[<- Nat.eq_of_beq_eq_true hb.1,<- Nat.eq_of_beq_eq_true hb.2]
   rfl
 | cur b e =>
  cases d<;>simp only[Vo]at h<;>try (exact h.elim)
  rename_i b' qJ e' off len
  cases hb:Nat.beq b b'&&decide (e=e')with
  | false=>rw[hb]at h; exact h.elim
  | true =>
   rw[hb,cond_true]at h
   simp only[Bool.and_eq_true,decide_eq_true_eq]at hb
   obtain⟨⟨h1,h2,h3⟩,_⟩:=h
   have:=Nat.eq_of_beq_eq_true hb.1
   obtain⟨-,rfl⟩:=hb
   subst this
   simp only[CI]
   rw[Kj b wI,h1,h2,h3]
 | xE=>cases d<;>simp only[Vo]at h<;>first | rfl | exact h.elim
 | yL=>cases d<;>simp only[Vo]at h<;>first | rfl | exact h.elim
 | xh=>cases d<;>simp only[Vo]at h<;>first | rfl | exact h.elim
 | xk f l =>
  cases d<;>simp only[Vo]at h<;>try (exact h.elim)
  rename_i f' l'
  cases hb:Nat.beq f f'&&Z4 l l' with
  | false=>rw[hb]at h; exact h.elim
  | true =>
   simp only[Bool.and_eq_true]at hb
   rw[<- Nat.eq_of_beq_eq_true hb.1,Yq hb.2]
   rfl
theorem DT{fr:Fr}{st:St}:∀ {cs:List (Nat×Ck)},(z2G fr st cs).leads ()->∀ p∈cs,∃ d,fr.get p.1=some d/\(Vo st p.2 d).leads ()
 | [],_,p,hp=>by cases hp
 | q::r,h,p,hp=>by
  simp only[z2G]at h
  split at h
  ·rename_i d hd
   simp only[T.zM]at h
   obtain⟨⟨⟩,h1,h2⟩:=h
   rcases List.mem_cons.1 hp with rfl | hp
   ·grind
   ·exact DT h2 p hp
  ·exact h.elim
def NG(p:Dk->Bool)(st:St):List yj->List Bd->Prop
 | [],[]=>True
 | b::bl,.a e xs::r=>b=.arr xs.length e xs/\NG p st bl r
 | b::bl,.v k x::r=>(∃ d,b=.var d/\(k.plain=true/\p k=true)/\(Zv st k d).leads x)/\NG p st bl r
 | _,_=>False
theorem SO{e:Ty}{b:yj}{x:List (den e)}(h:(TD e b).leads x):b=.arr x.length e x:=by
 unfold TD at h
 split at h
 ·split at h
  ·rename_i ys hy
   obtain⟨h1,h2⟩:=h
   cases h2
   obtain⟨he,hx⟩:=qx hy
   grind
  ·exact h.elim
 ·exact h.elim
theorem SX{st:St}{k:Dk}{b:yj}{x:k.den}(h:(z0y st k b).leads x):∃ d,b=.var d/\k.plain=true/\(Zv st k d).leads x:=by
 cases b with
 | var d =>
  simp only[z0y]at h
  cases hp:k.plain with
  | false=>rw[hp]at h; exact h.elim
  | true=>grind
 | _=>exact h.elim
def Kb(st:St):(i:It)->i.den->Fr
 | .s t k,x=>[(t,some (td st k x))]
 | .v _,_=>[]
 | .a _,_=>[]
def RI:(i:It)->i.den->List Bd
 | .s _ _,_=>[]
 | .v k,x=>[.v k x]
 | .a e,x=>[.a e x]
theorem UD(st:St)(i:It)(x:i.den):fq st [i] x=Kb st i x:=by cases i<;>rfl
theorem XJ(st:St)(i j:It)(r:List It)(x:i.den×vu (j::r)):fq st (i::j::r) x=Kb st i x.1++fq st (j::r) x.2:=by cases i<;>rfl
theorem SC(i:It)(x:i.den):nA [i] x=RI i x:=by cases i<;>rfl
theorem ND(i j:It)(r:List It)(x:i.den×vu (j::r)):nA (i::j::r) x=RI i x.1++nA (j::r) x.2:=by cases i<;>rfl
def z9i(fr:Fr)(st zx:St)(l:List It)(p:Nat×Option D):Prop:=∃ (k:Dk) (y:k.den) (d:D),(It.s p.1 k)∈l/\fr.get p.1=some d/\(Zv st k d).leads y/\p.2=some (td zx k y)
theorem LS{p:Dk->Bool}{fr:Fr}{st zx:St}{bl:List yj}{i:It}{x:i.den×List yj}(hp:∀ k,i=.v k->p k=true)(h:(D5 fr st bl i).leads x) :
  (∀ bd,NG p st x.2 bd->NG p st bl (RI i x.1++bd))/\∀ p∈Kb zx i x.1,z9i fr st zx [i] p:=by
 cases i with
 | s t k =>
  simp only[D5]at h
  split at h
  ·rename_i d hd
   rw[T.zM]at h
   obtain⟨y,h1,rfl⟩:=h
   refine⟨λbd hb=>hb,λp hp => ?_⟩
   simp only[Kb,List.mem_singleton]at hp
   subst hp
   exact⟨k,y,d,by simp,hd,h1,rfl⟩
  ·exact h.elim
 | v k =>
  cases bl with
  | nil=>exact h.elim
  | cons b r =>
   simp only[D5]at h
   rw[T.zM]at h
   obtain⟨y,h1,rfl⟩:=h
   obtain⟨d,q1,q2,q3⟩:=SX h1
   exact⟨λbd hb=>⟨⟨d,q1,⟨q2,hp k rfl⟩,q3⟩,hb⟩,λp hp=>by cases hp⟩
 | a e =>
  cases bl with
  | nil=>exact h.elim
  | cons b r =>
   simp only[D5]at h
   rw[T.zM]at h
   obtain⟨y,h1,rfl⟩:=h
   exact⟨λbd hb=>⟨SO h1,hb⟩,λp hp=>by cases hp⟩
theorem BJ{α:Type}{x:α×List yj}{y:α}(h:(Co x).leads y):x=(y,[]):=by
 obtain⟨a,bl⟩:=x
 cases bl with
 | nil=>cases h; rfl
 | cons=>exact h.elim
theorem Q7{p:Dk->Bool}{fr:Fr}{st zx:St}:∀ (l:List It) (bl:List yj) (x:vu l),(∀ k,It.v k∈l->p k=true)->(Yb fr st l bl).leads x ->
  NG p st bl (nA l x)/\∀ p∈fq zx l x,z9i fr st zx l p
 | [],bl,x,_,h=>by
  have h':(Co ((),bl)).leads x:=h
  have:=BJ h'
  cases this
  exact⟨trivial,λp hp=>by cases hp⟩
 | [i],bl,x,hp,h=>by
  have h':((D5 fr st bl i).bind Co).leads x:=h
  obtain⟨y,h1,h2⟩:=T.ze.1 h'
  have:=BJ h2
  subst this
  obtain⟨g1,g2⟩:=LS (p:=p) (zx:=zx) (λk hk=>hp k (by grind)) h1
  have e1:nA [i] x=RI i x:=SC i x
  have e2:fq zx [i] x=Kb zx i x:=UD zx i x
  have:=g1 [] trivial
  grind
 | i::j::r,bl,x,hp,h=>by
  have h':((D5 fr st bl i).bind λx=>(Yb fr st (j::r) x.2).bind λy=>T.ret (x.1,y)).leads x:=h
  obtain⟨y,h1,h2⟩:=T.ze.1 h'
  obtain⟨z,h3,h4⟩:=T.ze.1 h2
  cases h4
  obtain⟨g1,g2⟩:=LS (p:=p) (zx:=zx) (λk hk=>hp k (by grind)) h1
  obtain⟨k1,k2⟩:=Q7 (p:=p) (zx:=zx) (j::r) y.2 z (λk hk=>hp k (List.mem_cons_of_mem _ hk)) h3
  have e1:nA (i::j::r) (y.1,z)=RI i y.1++nA (j::r) z:=ND i j r (y.1,z)
  have e2:fq zx (i::j::r) (y.1,z)=Kb zx i y.1++fq zx (j::r) z:=XJ zx i j r (y.1,z)
  rw[e1,e2]
  refine⟨g1 _ k1,λp hp => ?_⟩
  rcases List.mem_append.1 hp with hp | hp
  ·obtain⟨k,w,d,q1,q2⟩:=g2 p hp
   exact⟨k,w,d,by grind,q2⟩
  ·obtain⟨k,w,d,q1,q2⟩:=k2 p hp
   exact⟨k,w,d,List.mem_cons_of_mem _ q1,q2⟩
inductive Gp(p:Dk->Bool)(st zx:St):Bk->yj->yj->Prop
 | arr (e e':Ty) (xs:List (den e)):Gp p st zx (.arr e') (.arr xs.length e xs) (.arr xs.length e xs)
 | var (k k':Dk) (d:D) (x:k.den) (hp:k.plain=true/\p k=true) (h:(Zv st k d).leads x):Gp p st zx (.var k') (.var d) (.var (td zx k x))
 | cvar (ck:Ck) (d:D) (h:(Vo st ck d).leads ()):Gp p st zx (.cvar ck) (.var d) (.var (CI zx ck))
 | dead (b:yj) (h:Fo b=false):Gp p st zx .dead b .dead
def cT:List Bd->List Bool
 | []=>[]
 | .v _ _::r=>false::cT r
 | .a _ _::r=>true::cT r
theorem nh:∀ (l:List It) (x:vu l),cT (nA l x)=kinds l
 | [],_=>rfl
 | [.s _ _],_=>rfl
 | [.v _],_=>rfl
 | [.a _],_=>rfl
 | .s _ _::j::r,x=>nh (j::r) x.2
 | .v _::j::r,x=>congrArg (false :: ·) (nh (j::r) x.2)
 | .a _::j::r,x=>congrArg (true :: ·) (nh (j::r) x.2)
theorem Xf{p:Dk->Bool}{st st0:St}:∀ {bs:List Bk} {blocks bl:List yj} {bd:List Bd},(Ke st bs blocks).leads bl->NG p st bl bd->ga bs (cT bd)=true ->
  (u7 st0 bs bd).length=bs.length/\(∀ b,rowAt bs b=true->wm (bL bs bd) b=cd blocks b/\wm (u7 st0 bs bd) b=cd blocks b/\wm blocks b=cd blocks b) /\
  ∀ (i:Nat) (k:Bk),bs[i]? = some k->∃ B B',blocks[i]? = some B/\(u7 st0 bs bd)[i]? = some B'/\Gp p st st0 k B B'
 | [],blocks,bl,bd,h,hb,ho=>by
  refine⟨by simp[u7],λb hb=>by simp[rowAt]at hb,λi k hk=>by simp at hk⟩
 | k::r,[],bl,bd,h,hb,ho=>by cases k<;>exact h.elim
 | .arr e::r,b::blocks,bl,bd,h,hb,ho=>by
  simp only[Ke,T.zM]at h
  obtain⟨l,h1,rfl⟩:=h
  cases bd with
  | nil=>exact hb.elim
  | cons q bd =>
   cases q with
   | v k x=>simp[cT,ga]at ho
   | a e' xs =>
    obtain⟨rfl,DC⟩:=hb
    simp only[cT,ga,Bool.true_and]at ho
    obtain⟨g1,g2,g3⟩:=Xf (st0:=st0) h1 DC ho
    refine⟨by simp[u7,g1],λb hb => ?_,λi k hk => ?_⟩
    ·cases b with
     | zero=>simp[bL,u7,wm,zau,cd]
     | succ b=>have:=g2 b (by simpa[rowAt]using hb); simpa[bL,u7,wm,cd]using this
    ·cases i with
     | zero=>simp at hk; subst hk; exact⟨_,_,rfl,rfl,.arr e' e xs⟩
     | succ i=>simpa[u7]using g3 i k (by simpa using hk)
 | .var k0::r,b::blocks,bl,bd,h,hb,ho=>by
  simp only[Ke,T.zM]at h
  obtain⟨l,h1,rfl⟩:=h
  cases bd with
  | nil=>exact hb.elim
  | cons q bd =>
   cases q with
   | a e' xs=>simp[cT,ga]at ho
   | v k x =>
    obtain⟨⟨d,rfl,hp,hd⟩,DC⟩:=hb
    simp only[cT,ga,Bool.not_false,Bool.true_and]at ho
    obtain⟨g1,g2,g3⟩:=Xf (st0:=st0) h1 DC ho
    refine⟨by simp[u7,g1],λb hb => ?_,λi k hk => ?_⟩
    ·cases b with
     | zero=>simp[rowAt]at hb
     | succ b=>have:=g2 b (by simpa[rowAt]using hb); simpa[bL,u7,wm,cd]using this
    ·cases i with
     | zero=>simp at hk; subst hk; exact⟨_,_,rfl,rfl,.var k k0 d x hp hd⟩
     | succ i=>simpa[u7]using g3 i k (by simpa using hk)
 | .cvar ck::r,b::blocks,bl,bd,h,hb,ho=>by
  cases b with
  | var d =>
   simp only[Ke,T.zM]at h
   obtain⟨⟨⟩,h0,h1⟩:=h
   have ho':ga r (cT bd)=true:=by cases bd<;>simpa[ga]using ho
   obtain⟨g1,g2,g3⟩:=Xf (st0:=st0) h1 hb ho'
   have e1:u7 st0 (.cvar ck::r) bd=.var (CI st0 ck)::u7 st0 r bd:=by cases bd<;>rfl
   have e0:bL (.cvar ck::r) bd=.dead::bL r bd:=by cases bd<;>rfl
   rw[e0,e1]
   refine⟨by simp[g1],λb hb => ?_,λi k hk => ?_⟩
   ·cases b with
    | zero=>simp[rowAt]at hb
    | succ b=>have:=g2 b (by simpa[rowAt]using hb); simpa[wm,cd]using this
   ·cases i with
    | zero=>simp at hk; subst hk; exact⟨_,_,rfl,rfl,.cvar ck d h0⟩
    | succ i=>grind
  | _=>exact h.elim
 | .dead::r,b::blocks,bl,bd,h,hb,ho=>by
  simp only[Ke]at h
  cases hv:Fo b with
  | true=>rw[hv]at h; exact h.elim
  | false =>
   rw[hv,cond_false]at h
   have ho':ga r (cT bd)=true:=by cases bd<;>simpa[ga]using ho
   obtain⟨g1,g2,g3⟩:=Xf (st0:=st0) h hb ho'
   have e1:u7 st0 (.dead::r) bd=.dead::u7 st0 r bd:=by cases bd<;>rfl
   have e0:bL (.dead::r) bd=.dead::bL r bd:=by cases bd<;>rfl
   rw[e0,e1]
   refine⟨by simp[g1],λb hb => ?_,λi k hk => ?_⟩
   ·cases b with
    | zero=>simp[rowAt]at hb
    | succ b=>have:=g2 b (by simpa[rowAt]using hb); simpa[wm,cd]using this
   ·cases i with
    | zero=>simp at hk; subst hk; exact⟨_,_,rfl,rfl,.dead b hv⟩
    | succ i=>grind
inductive Refs(m:Nat):D->Prop
 | zC (τ:Ty) (x:AM.den τ):Refs m (.zC τ x)
 | tight (e:Ty) (l:List (AM.den e)) (ne:Bool):Refs m (.tight e l ne)
 | xE:Refs m .xE
 | yL:Refs m .yL
 | xh:Refs m .xh
 | uq:Refs m .uq
 | uo:Refs m .uo
 | tA:Refs m .tA
 | dr (T:Nat):Refs m (.dr T)
 | yt (b T:Nat) (h:b<m):Refs m (.yt b T)
 | ptr (b off:Nat) (h:b<m):Refs m (.ptr b off)
 | xe (τ:Ty) (x:AM.den τ):Refs m (.xe τ x)
 | uQ (b qJ:Nat) (e:Ty) (idx off:Nat) (h:b<m):Refs m (.uQ b qJ e idx off)
 | ms (b qJ:Nat) (e:Ty) (off len:Nat) (h:b<m):Refs m (.ms b qJ e off len)
 | xk (f:Nat) (l:List D) (h:∀ i (hi:i<l.length),Refs m l[i]):Refs m (.xk f l)
 | agg (l:List D) (h:∀ i (hi:i<l.length),Refs m l[i]):Refs m (.agg l)
 | gz (l:List D) (h:∀ i (hi:i<l.length),Refs m l[i]):Refs m (.gz l)
 | iface (t:Nat) (d:D) (h:Refs m d):Refs m (.iface t d)
theorem Refs.mono{m m':Nat}(hm:m<=m'){d:D}(h:Refs m d):Refs m' d:=by
 induction h with
 | ptr b off h=>exact .ptr b off (by omega)
 | yt b T h=>exact .yt b T (by omega)
 | uQ b qJ e idx off h=>exact .uQ b qJ e idx off (by omega)
 | ms b qJ e off len h=>exact .ms b qJ e off len (by omega)
 | xk f l h ih=>exact .xk f l ih
 | agg l h ih=>exact .agg l ih
 | gz l h ih=>exact .gz l ih
 | iface t d h ih=>exact .iface t d ih
 | _=>constructor
theorem z2J{κ:KS}{m:Nat}{d:D}{v:Value}(h:RD κ d v)(hr:Refs m d):RD (κ.cut m) d v:=by
 induction h with
 | zC τ y cs h=>exact .zC τ y cs h
 | xw e a=>exact .xw e a
 | tight e l ne blk off f uh wI h hc=>exact .tight e l ne blk off f uh wI h hc
 | xE=>exact .xE
 | yL=>exact .yL
 | xh=>exact .xh
 | uq=>exact .uq
 | uo=>exact .uo
 | tA v h=>exact .tA v h
 | dr T=>exact .dr T
 | cW b T d hb=>cases hr with | yt _ _ qD=>exact dR (.cW b T d hb) (by simp only[ug,Nat.blt,Nat.ble_eq]; exact qD)
 | dn b T blk n d hb h=>cases hr with | yt _ _ qD=>exact dR (.dn b T blk n d hb h) (by simp only[ug,Nat.blt,Nat.ble_eq]; exact qD)
 | ptr b off blk n d hb h=>cases hr with | ptr _ _ qD=>exact dR (.ptr b off blk n d hb h) (by simp only[ug,Nat.blt,Nat.ble_eq]; exact qD)
 | xe τ y cs blk off wI h hc=>exact .xe τ y cs blk off wI h hc
 | uQ b qJ e idx off blk o hb h=>cases hr with | uQ _ _ _ _ _ qD=>exact dR (.uQ b qJ e idx off blk o hb h) (by simp only[ug,Nat.blt,Nat.ble_eq]; exact qD)
 | ms b qJ e off len cap a hb vJ ha nN h=>cases hr with | ms _ _ _ _ _ qD=>exact dR (.ms b qJ e off len cap a hb vJ ha nN h) (by simp only[ug,Nat.blt,Nat.ble_eq]; exact qD)
 | xk f l vs hl h ih=>cases hr with | xk _ _ hh=>exact .xk f l vs hl λi h1 h2=>ih i h1 h2 (hh i h1)
 | agg l vs hl ho h ih=>cases hr with | agg _ hh=>exact .agg l vs hl ho λi h1 h2=>ih i h1 h2 (hh i h1)
 | gz l vs hl h ih=>cases hr with | gz _ hh=>exact .gz l vs hl λi h1 h2=>ih i h1 h2 (hh i h1)
 | iface t d v h ih=>cases hr with | iface _ _ hh=>exact .iface t d v (ih hh)
theorem Hj{a b:Nat}(h:a<b):Nat.blt a b=true:=by
 simp; exact h
theorem SY{κ κe:KS}{m:Nat}(hx:Ext κ κe)(hm:κ.st.length<=m):Ext κ (κe.cut m):=by
 have qD:∀ b x,κ.st[b]? = some x->b<m:=λb x h=>Nat.lt_of_lt_of_le (List.getElem?_eq_some_iff.1 h).1 hm
 have Gc:∀ b,b<m->(κe.cut m).ph[b]? = κe.ph[b]? := λb hb=>by simp only[KS.cut]; rw[List.getElem?_take,if_pos hb]
 refine⟨hx.os,hx.tape,hx.output,hx.size,hx.same,hx.fresh,λb blk n h=>hx.phs b blk n (bX h).1,λb d h => ?_,λb v0 e xs h => ?_,λb h=>qj (hx.dead b h) (qD b _ h),?_,hx.frame⟩
 ·obtain⟨⟨d',h1⟩,h2⟩:=hx.var b d h
  exact⟨⟨d',qj h1 (qD b _ h)⟩,(Gc b (qD b _ h)).trans h2⟩
 ·rcases hx.arr b v0 e xs h with h1 | ⟨v1,x1,h1,h2,h3⟩
  ·exact .inl (qj h1 (qD b _ h))
  ·exact .inr ⟨v1,x1,qj h1 (qD b _ h),h2,λhe=>⟨(Gc b (qD b _ h)).trans (h3 he).1,(h3 he).2⟩⟩
 ·have:=hx.Cd
  simp[KS.cut]; omega
theorem vG.ZW{κ0 κ:KS}{fr:Fr}{a:Act}{sh:vG}{x:sh.den}(hx:Ext κ0 κ)(hI:Inv κ)(hR:Rel κ n fr.get a)(hl:κ0.st.length<=sh.bs.length)(h:(sh.un fr κ.st).leads x) :
  ∃ κ':KS,κ'.w=κ.w/\κ'.st=sh.st x/\Inv κ'/\Ext κ0 κ'/\Rel κ' n (sh.fr x).get a/\∀ (d:D) (v:Value),Refs sh.bs.length d->RD κ d v->RD κ' d v:=by
 unfold vG.un at h
 cases hc:sh.ok&&(κ.st.take sh.bs.length).all (B0 sh.bs.length)with
 | false=>rw[hc]at h; exact h.elim
 | true =>
  rw[hc,cond_true]at h
  simp only[Bool.and_eq_true,vG.ok,List.all_eq_true]at hc
  obtain⟨⟨⟨⟨zhl,zde⟩,Xk⟩,hbs⟩,Xi⟩:=hc
  obtain⟨⟨⟩,h1,h⟩:=T.ze.1 h
  obtain⟨bl,h2,h3⟩:=T.ze.1 h
  have hIc:=z2f hI Xi
  -- the store cut
  let m:=sh.bs.length
  obtain⟨g1,g2⟩:=Q7 (p:=C2 sh.bs) (zx:=sh.st x) sh.ox bl x (λk hk=>zde _ hk) h3
  obtain⟨k1,k2,k3⟩:=Xf (st0:=bL sh.bs (nA sh.ox x)) h2 g1 ((congrArg (ga sh.bs) (nh sh.ox x)).trans zhl)
  have xR:sh.st x=u7 (bL sh.bs (nA sh.ox x)) sh.bs (nA sh.ox x):=rfl
  rw[<- xR]at k1 k2 k3
  let κ':KS:={ κ.cut m with st:=sh.st x }
  have hm:m<=κ.st.length:=by
   rcases Nat.eq_zero_or_pos m with h0 | h0
   ·omega
   ·obtain⟨B,B',q1,_⟩:=k3 (m-1) (sh.bs[m-1]'(by show m-1<m; omega)) (by simp)
    grind
  have zf8:∀ i B,κ.st[i]? = some B->i<m->(κ.cut m).st[i]? = some B:=λi B hB hi=>qj hB hi
  have O3:(κ.cut m).st.length=m:=by simp[KS.cut]; omega
  have pair:∀ i,i<m->∃ k B B',sh.bs[i]? = some k/\(κ.cut m).st[i]? = some B/\κ'.st[i]? = some B'/\Gp (C2 sh.bs) κ.st (bL sh.bs (nA sh.ox x)) k B B':=by
   intro i hi
   obtain⟨B,B',q1,q2,q3⟩:=k3 i (sh.bs[i]'hi) (by simp)
   grind
  have lt:∀ {i:Nat} {B:yj},(κ.cut m).st[i]? = some B->i<m:=λhB=>by have:=(List.getElem?_eq_some_iff.1 hB).1; omega
  have lt':∀ {i:Nat} {B:yj},κ'.st[i]? = some B->i<m:=λhB=>by have:=(List.getElem?_eq_some_iff.1 hB).1; have e:κ'.st.length=m:=k1; omega
  have hw:Wk (κ.cut m) κ':=by
   refine⟨rfl,rfl,rfl,by show(sh.st x).length=_; rw[k1,O3],λb d hb => ?_,λb v e xs hb => ?_,λb v e xs hb => ?_,λb hb => ?_⟩
   ·obtain⟨k,B,B',q0,q1,q2,q3⟩:=pair b (lt hb)
    rw[hb]at q1; cases q1
    cases q3 with
    | var k' _ _ y _ hy=>grind
    | cvar ck _ hy=>grind
    | dead _ hv=>cases hv
   ·obtain⟨k,B,B',q0,q1,q2,q3⟩:=pair b (lt hb)
    rw[hb]at q1; cases q1
    cases q3 with
    | arr=>grind
    | dead=>grind
   ·obtain⟨k,B,B',q0,q1,q2,q3⟩:=pair b (lt' hb)
    rw[hb]at q2; cases q2
    cases q3 with
    | arr=>exact q1
   ·obtain⟨k,B,B',q0,q1,q2,q3⟩:=pair b (lt hb)
    rw[hb]at q1; cases q1
    cases q3 with
    | dead=>exact q2
  have HM:∀ b,rowAt sh.bs b=true->wm κ'.st b=cd κ.st b/\wm (bL sh.bs (nA sh.ox x)) b=cd κ.st b/\wm κ.st b=cd κ.st b :=
   λb hb=>⟨(k2 b hb).2.1,(k2 b hb).1,(k2 b hb).2.2⟩
  have zdN:∀ b,rowAt sh.bs b=true->wm (κ.cut m).st b=wm κ.st b:=by
   intro b hb
   have hbm:b<m:=by
    unfold rowAt at hb
    split at hb
    ·rename_i hh; exact(List.getElem?_eq_some_iff.1 hh).1
    ·cases hb
   unfold wm
   simp only[KS.cut]
   rw[List.getElem?_take,if_pos hbm]
  have hbm:∀ b,rowAt sh.bs b=true->b<m:=by
   intro b hb
   unfold rowAt at hb
   split at hb
   ·rename_i hh; exact(List.getElem?_eq_some_iff.1 hh).1
   ·cases hb
  have hbv:∀ b,Wg sh.bs b=true->b<m:=by
   intro b hb
   unfold Wg at hb
   split at hb
   ·rename_i hh; exact(List.getElem?_eq_some_iff.1 hh).1
   ·rename_i hh; exact(List.getElem?_eq_some_iff.1 hh).1
   ·cases hb
  have dk:∀ (k:Dk) (y:k.den) (d:D) (v:Value) (zx:St),C2 sh.bs k=true->(∀ b,rowAt sh.bs b=true->wm zx b=cd κ.st b)->(Zv κ.st k d).leads y->RD κ d v->RD κ' (td zx k y) v:=by
   intro k y d v zx ho hv hy hd
   have hwk:Wk κ κ:=⟨rfl,rfl,rfl,rfl,λb d h=>⟨d,h⟩,λb v e xs h=>.inl h,λb v e xs h=>h,λb h=>h⟩
   have h0:=GP hwk ho (λ_ _=>rfl) (zx:=κ.st) (λ_ _=>rfl) (λb hb=>(HM b hb).2.2) hy hd
   have zg1:bB m (td κ.st k y)=true:=by
    cases k with
    | sub b e=>exact Hj (hbm b ho)
    | xk f caps =>
     have:∀ (l:List Xw) (z:bc l),(mG l z).all (ug m)=true:=by
      intro l
      induction l with
      | nil=>intro z; rfl
      | cons p r ih =>
       intro z
       have hp:∀ w:AM.den p.ty,ug m (YT p w)=true:=λw=>by cases p<;>rfl
       cases r with
       | nil=>simp only[mG,List.all_cons,List.all_nil,Bool.and_true]; exact hp z
       | cons q r=>simp only[mG,List.all_cons,Bool.and_eq_true]; exact⟨hp z.1,by simpa using ih z.2⟩
     exact this caps y
    | st ks=>exact List.all_eq_true.2 (yb hbm hbv ks y ho)
    | mclo f ms=>exact List.all_eq_true.2 (dO hbv ms y ho)
    | _=>rfl
   have h1:=hw.rd (F4 h0 zg1)
   have he:td κ.st k y=td zx k y:=by
    cases k with
    | sub b e=>simp only[td]; rw[hv b ho,(HM b ho).2.2]
    | st ks=>simp only[td]; rw[oG (λb hb=>(HM b hb).2.2.trans (hv b hb).symm) ks y ho]
    | _=>rfl
   rwa [he]at h1
  have ck:∀ (q:Ck) (d:D) (v:Value) (zx:St),OL sh.bs q=true->(∀ b,rowAt sh.bs b=true->wm zx b=cd κ.st b)->(Vo κ.st q d).leads ()->CI zx q=d/\(RD κ d v->RD κ' d v):=by
   intro q d v zx ho hv hy
   have he:=z2t ho hv hy
   refine⟨he,λhd=>hw.rd (F4 hd ?_)⟩
   rw[<- he]
   cases q with
   | ptr b off=>exact Hj (hbv b ho)
   | cur b e=>exact Hj (hbm b ho)
   | xE=>rfl
   | yL=>rfl
   | xh=>rfl
   | xk f l =>
    simp only[OL,List.all_eq_true]at ho
    simp only[CI,bB,List.all_eq_true,List.mem_map]
    rintro _ ⟨p,hp,rfl⟩
    exact Hj (hbv p.1 (ho p hp))
  have hI':Inv κ':=by
   refine hw.inv hIc λb d' hb => ?_
   obtain⟨k,B,B',q0,q1,q2,q3⟩:=pair b (lt' hb)
   rw[hb]at q2
   cases q2
   cases q3 with
   | var kk k' d y hp hy =>
    obtain⟨blk,n',cs,t,e1,e2,e3,e4,e5⟩:=hIc.blk b _ q1
    refine⟨blk,n',cs,t,e1,e2,e3,?_⟩
    cases kk with
    | zC τ =>
     have hco:fk τ d=some y:=T.uA.1 hy
     have ht:d.jf=false:=by
      cases d with
      | gz l=>simp[fk,D.jf]at hco
      | _=>rfl
     have E7:=rA hco e4 e5.1 ht
     exact⟨(rT E7).mono hw.ext,eP τ y,nofun⟩
    | xe τ =>
     cases d<;>simp only[Zv]at hy<;>try (exact hy.elim)
     obtain⟨e,hyy⟩:=qx (T.uA.1 hy)
     cases e
     cases hyy
     exact⟨e4.mono hw.ext,e5.1,nofun⟩
    | st ks =>
     simp only[Zv]at hy
     cases ha:d.dJ with
     | false=>rw[ha]at hy; exact hy.elim
     | true =>
      rw[ha]at hy
      replace hy:(ir κ.st ks (qm d)).leads y:=hy
      have zjR:b<m:=lt' hb
      have CG:κ.st[b]? = some (.var d):=(bX q1).1
      obtain⟨zfS,n2,cs2,t2,f1,f2,f3,f4,f5⟩:=hI.blk b _ CG
      have hp1:=(bX e1).1
      rw[f1]at hp1
      cases hp1
      rw[show(κ.cut m).w=κ.w from rfl,f2]at e2
      cases e2
      obtain⟨g1,g2⟩:=eA (κ:=κ) (zx:=bL sh.bs (nA sh.ox x)) (bs:=sh.bs) (λb hb=>(HM b hb).2.1) ks (qm d) y _ hp.2 hy f4
      refine⟨(My g1 λz hz => ?_).mono hw.ext,g2,λT hT => ?_⟩
      rotate_left
      ·exact f5.2 T (Wi ha (Ws ks (qm d) y hy hT))
      have:=yb (m:=m) hbm hbv ks y hp.2 z hz
      cases z<;>first | exact this | cases this
    | _=>cases hp.1
   | cvar q d hy =>
    obtain⟨blk,n',cs,t,e1,e2,e3,e4,e5⟩:=hIc.blk b _ q1
    have hoq:OL sh.bs q=true:=hbs _ (List.mem_of_getElem? q0)
    obtain⟨g,_⟩:=ck q d undef (bL sh.bs (nA sh.ox x)) hoq (λb hb=>(HM b hb).2.1) hy
    rw[g]
    exact⟨blk,n',cs,t,e1,e2,e3,e4.mono hw.ext,e5⟩
  refine⟨κ',rfl,rfl,hI',?_,⟨hR.size,hR.defers,λs d hd => ?_⟩,λd v hr hd=>hw.rd (z2J hd hr)⟩
  ·have qD:κ0.st.length<=m:=hl
   have c1:=SY hx qD
   exact c1.trans hw.ext
  ·rcases get_append (l:=fq (sh.st x) sh.ox x) (m:=z7H (sh.st x) sh.cs) hd with hp | hp0
   ·obtain⟨k,y,d0,q0,q1,q2,q3⟩:=g2 _ hp
    cases q3
    obtain⟨v,r1,r2⟩:=hR.get _ _ q1
    exact⟨v,r1,dk k y d0 v (sh.st x) (zde _ q0) (λb hb=>(HM b hb).1) q2 r2⟩
   ·have nO:=get_mem hp0
    unfold z7H at nO
    obtain⟨p,hp,he⟩:=List.mem_map.1 nO
    cases he
    obtain⟨d0,q1,q2⟩:=DT h1 p hp
    obtain⟨v,r1,r2⟩:=hR.get _ _ q1
    obtain⟨g,gg⟩:=ck p.2 d0 v (sh.st x) (Xk p hp) (λb hb=>(HM b hb).1) q2
    rw[g]
    exact⟨v,r1,gg r2⟩
end
end Go.AM
namespace Go.AM
set_option linter.unusedSectionVars false
variable [ur] [Ku]
open Go.RowKit
inductive Gh where
 | slot (s:Nat) (e:Ty) | cell (b i:Nat) (e:Ty) | pcell (s i:Nat) (e:Ty)
def VG(st:St)(b i:Nat):Option (List D):=match st[b]? with
 | some (.var d)=>bif d.dJ then match(qm d)[i]? with | some .xE=>some (qm d) | _=>none else none
 | _=>none
def gh:List Gh->Fr->St->Fr×St
 | [],fr,st=>(fr,st)
 | .slot s e::r,fr,st=>match fr.get s with
  | some .xE=>bif Nat.blt 0 e.size then gh r ((s,some (.ms st.length 0 e 0 0))::fr) (st++[.arr 0 e []])else gh r fr st
  | _=>gh r fr st
 | .cell b i e::r,fr,st=>match VG st b i with
  | some l=>bif Nat.blt 0 e.size then gh r fr ((st++[yj.arr 0 e []]).set b (.var (.agg (l.set i (.ms st.length 0 e 0 0)))))else gh r fr st
  | none=>gh r fr st
 | .pcell t i e::r,fr,st=>match fr.get t with
  | some (.ptr b _)=>match VG st b i with
   | some l=>bif Nat.blt 0 e.size then gh r fr ((st++[yj.arr 0 e []]).set b (.var (.agg (l.set i (.ms st.length 0 e 0 0)))))else gh r fr st
   | none=>gh r fr st
  | _=>gh r fr st
section
variable {c:Ctx} {κ:KS}
def KS.jS(κ:KS)(e:Ty):KS:={ κ with ph:=κ.ph++[none],st:=κ.st++[.arr 0 e []] }
theorem Zc(hI:Inv κ)(e:Ty):Ext κ (κ.jS e):=by
 have xR:∀ b y,κ.st[b]? = some y->(κ.st++[.arr 0 e []])[b]? = some y:=λb y h=>by rw[List.getElem?_append_left (List.getElem?_eq_some_iff.1 h).1]; exact h
 have Gc:∀ b y,κ.st[b]? = some y->(κ.ph++[none])[b]? = κ.ph[b]? := λb y h=>by
  rw[List.getElem?_append_left]; rw[hI.len]; exact(List.getElem?_eq_some_iff.1 h).1
 refine⟨rfl,rfl,rfl,Nat.le_refl _,λk hk=>⟨hk,rfl⟩,λk hk=>.inl hk,?_,λb d h=>⟨⟨d,xR b _ h⟩,Gc b _ h⟩,
  λb v0 e xs h=>.inr ⟨v0,xs,xR b _ h,Nat.le_refl _,λ_=>⟨Gc b _ h,rfl⟩⟩,λb h=>xR b _ h,by simp[KS.jS],λk hk _=>rfl⟩
 intro b blk m h
 simp only[KS.jS]at h
 grind
theorem VT(hI:Inv κ){e:Ty}(he:0<e.size):Inv (κ.jS e):=by
 have hold:∀ (b blk m:Nat),(κ.ph++[none])[b]? = some (some (blk,m))->κ.ph[b]? = some (some (blk,m)):=by
  grind
 refine⟨by simp[KS.jS,hI.len],hI.gm,λb blk m h=>hI.apart b blk m (hold b blk m h),λb b' blk m m' h h'=>hI.inj b b' blk m m' (hold _ _ _ h) (hold _ _ _ h'),?_,hI.gl⟩
 intro b y hy
 simp only[KS.jS]at hy
 by_cases hb:b<κ.st.length
 ·rw[List.getElem?_append_left hb]at hy
  exact(hI.blk b y hy).mono (Zc hI e) (by show(κ.ph++[none])[b]? = κ.ph[b]?; rw[List.getElem?_append_left (by rw[hI.len]; exact hb)]) λblk n h=>rfl
 ·have Bo:=(List.getElem?_eq_some_iff.1 hy).1
  simp at Bo
  have:b=κ.st.length:=by omega
  subst this
  simp at hy
  subst hy
  exact⟨he,.inl ⟨rfl,by simp[KS.jS,<- hI.len]⟩⟩
theorem I6{l:List D}{i b v len off:Nat}{e:Ty}{tt:Nat}(h:(D.agg (l.set i (.ms b v e off len))).typed=some tt):bA l=some tt:=by
 cases l with
 | nil=>exact h
 | cons x r=>cases i with
  | zero=>cases h
  | succ i=>cases x<;>exact h
theorem z2x{κ κ2:KS}{l:List D}{vs:List Value}{i:Nat}{d':D}(h:qM κ l vs)(hw:∀ d v,RD κ d v->RD κ2 d v)(hi:∀ v,vs[i]? = some v->RD κ2 d' v):qM κ2 (l.set i d') vs:=by
 refine⟨by rw[List.length_set]; exact h.1,λk h1 h2 => ?_⟩
 rw[List.getElem_set]
 split
 ·grind
 ·exact hw _ _ (h.2 k (by grind) h2)
theorem Mp(hI:Inv κ){e:Ty}(he:0<e.size){b i:Nat}{l:List D}(h:VG κ.st b i=some l) :
  ∃ κ':KS,κ'.w=κ.w/\κ'.st=(κ.st++[yj.arr 0 e []]).set b (.var (.agg (l.set i (.ms κ.st.length 0 e 0 0))))/\Inv κ'/\Ext κ κ':=by
 unfold VG at h
 split at h
 ·rename_i d hd
  cases ha:d.dJ with
  | false=>grind
  | true =>
   rw[ha,cond_true]at h
   split at h
   ·rename_i hi
    cases h
    have hx:=Zc hI e
    have Xj:=VT hI he
    have zk8:b<κ.st.length:=(List.getElem?_eq_some_iff.1 hd).1
    let κ2:KS:={ κ.jS e with st:=(κ.jS e).st.set b (.var (.agg ((qm d).set i (.ms κ.st.length 0 e 0 0)))) }
    have Is:(κ.jS e).st[b]? = some (.var d):=by
     show(κ.st++[_])[b]? = _
     grind
    have uh:∀ j,j≠b->κ2.st[j]? = (κ.jS e).st[j]? := λj hj=>by
     grind
    have z9D:κ2.st[b]? = some (.var (.agg ((qm d).set i (.ms κ.st.length 0 e 0 0)))):=by
     grind
    have hw:Wk (κ.jS e) κ2:=by
     refine⟨rfl,rfl,rfl,by simp[κ2],λj d' hj => ?_,λj v e' xs hj => ?_,λj v e' xs hj => ?_,λj hj => ?_⟩
     ·grind
     ·grind
     ·grind
     ·by_cases c:j=b
      ·subst c; rw[Is]at hj; cases hj
      ·rw[uh j c]; exact hj
    have R8:κ2.st[κ.st.length]? = some (.arr 0 e []):=by
     rw[uh _ (by omega)]
     simp[KS.jS]
    have hI2:Inv κ2:=by
     refine hw.inv Xj λj d' hj => ?_
     by_cases c:j=b
     ·subst c
      rw[z9D]at hj
      cases hj
      obtain⟨blk,m,cs,t,q1,q2,q3,q4,q5⟩:=Xj.blk j _ Is
      refine⟨blk,m,cs,t,q1,q2,q3,z2x q4 (λ_ _ h=>hw.rd h) λv hv => ?_,λx hxm => ?_,λT hT => ?_⟩
      ·obtain⟨v',h1,h2⟩:=q4.get hi
       rw[hv]at h1
       cases h1
       cases h2
       refine .ms κ.st.length 0 e 0 0 0 none (.inr ⟨0,e,[],R8,Nat.le_refl _⟩) (Nat.le_refl _) (λ_=>rfl) nofun λxs JR => ?_
       rw[R8]at JR
       cases JR
       exact⟨Nat.le_refl _,.inl ⟨rfl,rfl,rfl,by show(κ.ph++[none])[κ.st.length]? = _; simp[<- hI.len]⟩⟩
      ·rcases List.mem_or_eq_of_mem_set (show x∈(qm d).set i (.ms κ.st.length 0 e 0 0)from hxm)with h' | h'
       ·exact q5.1 x h'
       ·subst h'; rfl
      ·exact q5.2 T (Wi ha (I6 hT))
     ·rw[uh j c]at hj
      exact(Xj.blk j _ hj).mono hw.ext rfl λ_ _ _=>rfl
    exact⟨κ2,rfl,rfl,hI2,hx.trans hw.ext⟩
   ·cases h
 ·cases h
theorem lU{n:Nat}{a:Act}:∀ (l:List Gh) (fr:Fr) (κ:KS),Inv κ->Rel κ n fr.get a->∃ κ':KS,κ'.w=κ.w/\κ'.st=(gh l fr κ.st).2/\Inv κ'/\Ext κ κ'/\Rel κ' n (gh l fr κ.st).1.get a
 | [],fr,κ,hI,hR=>⟨κ,rfl,rfl,hI,Ext.refl κ,hR⟩
 | .slot s e::r,fr,κ,hI,hR=>by
  unfold gh
  split
  ·rename_i hs
   cases he:Nat.blt 0 e.size with
   | false=>rw[cond_false]; exact lU r fr κ hI hR
   | true =>
    rw[cond_true]
    have Sg:0<e.size:=Nat.le_of_ble_eq_true he
    have hx:=Zc hI e
    have hR':Rel (κ.jS e) n (Fr.get ((s,some (.ms κ.st.length 0 e 0 0))::fr)) a:=by
     refine⟨hR.size,hR.defers,λt d hd => ?_⟩
     simp only[Fr.get]at hd
     cases ht:Nat.beq s t with
     | true =>
      rw[ht,cond_true]at hd
      cases hd
      have:=Nat.eq_of_beq_eq_true ht
      subst this
      obtain⟨v,h1,h2⟩:=hR.get s _ hs
      cases h2
      have R8:(κ.jS e).st[κ.st.length]? = some (.arr 0 e []):=by simp[KS.jS]
      refine⟨_,h1,.ms κ.st.length 0 e 0 0 0 none (.inr ⟨0,e,[],R8,Nat.le_refl _⟩) (Nat.le_refl _) (λ_=>rfl) nofun λxs JR => ?_⟩
      rw[R8]at JR
      cases JR
      exact⟨Nat.le_refl _,.inl ⟨rfl,rfl,rfl,by simp[KS.jS,<- hI.len]⟩⟩
     | false =>
      rw[ht,cond_false]at hd
      obtain⟨v,h1,h2⟩:=hR.get t d hd
      exact⟨v,h1,h2.mono hx⟩
    obtain⟨κ',h1,h2,h3,h4,h5⟩:=lU r _ (κ.jS e) (VT hI Sg) hR'
    exact⟨κ',h1,h2,h3,hx.trans h4,h5⟩
  ·exact lU r fr κ hI hR
 | .cell b i e::r,fr,κ,hI,hR=>by
  unfold gh
  split
  ·rename_i l hl
   cases he:Nat.blt 0 e.size with
   | false=>rw[cond_false]; exact lU r fr κ hI hR
   | true =>
    rw[cond_true]
    have Sg:0<e.size:=Nat.le_of_ble_eq_true he
    obtain⟨κ1,g1,g2,g3,g4⟩:=Mp hI Sg hl
    obtain⟨κ',h1,h2,h3,h4,h5⟩:=lU r fr κ1 g3 ⟨hR.size,hR.defers,λt d hd=>by
     obtain⟨v,q1,q2⟩:=hR.get t d hd
     exact⟨v,q1,q2.mono g4⟩⟩
    rw[g2]at h2 h5
    exact⟨κ',h1.trans g1,h2,h3,g4.trans h4,h5⟩
  ·exact lU r fr κ hI hR
 | .pcell t i e::r,fr,κ,hI,hR=>by
  unfold gh
  split
  ·rename_i b off hb
   split
   ·rename_i l hl
    cases he:Nat.blt 0 e.size with
    | false=>rw[cond_false]; exact lU r fr κ hI hR
    | true =>
     have Sg:0<e.size:=Nat.le_of_ble_eq_true he
     obtain⟨κ1,g1,g2,g3,g4⟩:=Mp hI Sg hl
     obtain⟨κ',h1,h2,h3,h4,h5⟩:=lU r fr κ1 g3 ⟨hR.size,hR.defers,λt d hd=>by
      obtain⟨v,q1,q2⟩:=hR.get t d hd
      exact⟨v,q1,q2.mono g4⟩⟩
     rw[g2]at h2 h5
     exact⟨κ',h1.trans g1,h2,h3,g4.trans h4,h5⟩
   ·exact lU r fr κ hI hR
  ·exact lU r fr κ hI hR
end
end Go.AM
namespace Go.AM
def th(f:Nat->Option Nat)(d:D):Option D:=match d with
 | .ptr b off=>match f b with | some b'=>some (.ptr b' off) | none=>none
 | .yt b T=>match f b with | some b'=>some (.yt b' T) | none=>none
 | .uQ b v e i off=>match f b with | some b'=>some (.uQ b' v e i off) | none=>none
 | .ms b v e off len=>match f b with | some b'=>some (.ms b' v e off len) | none=>none
 | .xk _ _=>none
 | .agg _=>none
 | .gz _=>none
 | .iface _ _=>none
 | d=>some d
def DY(f:Nat->Option Nat):List D->Option (List D)
 | []=>some []
 | d::r=>match th f d with
  | some d'=>match DY f r with | some r'=>some (d'::r') | none=>none
  | none=>none
def ov(f:Nat->Option Nat)(d:D):Option D:=match d with
 | .xk g l=>match DY f l with | some l'=>some (.xk g l') | none=>none
 | .agg l=>match DY f l with | some l'=>some (.agg l') | none=>none
 | d=>th f d
def Wv(f:Nat->Option Nat):List D->Option (List D)
 | []=>some []
 | d::r=>match ov f d with
  | some d'=>match Wv f r with | some r'=>some (d'::r') | none=>none
  | none=>none
def Va(f:Nat->Option Nat):yj->Option yj
 | .var d=>match ov f d with | some d'=>some (.var d') | none=>none
 | .arr v e xs=>some (.arr v e xs)
 | .dead=>some .dead
def o5(f:Nat->Option Nat):List yj->Option (List yj)
 | []=>some []
 | b::r=>match Va f b with
  | some b'=>match o5 f r with | some r'=>some (b'::r') | none=>none
  | none=>none
def tH(f:Nat->Option Nat):Fr->Fr
 | []=>[]
 | (s,some d)::r=>(s,ov f d)::tH f r
 | (s,none)::r=>(s,none)::tH f r
structure Tr(κ κ':KS)(f:Nat->Option Nat):Prop where
 w:κ'.w=κ.w
 ok:κ'.ok=κ.ok
 var:∀ (b b':Nat) (d:D),f b=some b'->κ.st[b]? = some (.var d)->(∃ d',κ'.st[b']? = some (.var d'))/\κ'.ph[b']? = κ.ph[b]?
 old:∀ (b b' qJ:Nat),f b=some b'->Old κ.st b qJ->Old κ'.st b' qJ
 row:∀ (b b' v:Nat) (e:Ty) (xs:List (den e)),f b=some b'->κ'.st[b']? = some (.arr v e xs)->κ.st[b]? = some (.arr v e xs)/\κ'.ph[b']? = κ.ph[b]?
section
variable {κ κ':KS} {f:Nat->Option Nat}
theorem Tr.same(h:Tr κ κ' f):Eh κ.w κ'.w κ.ok κ'.ok:=λk hk=>⟨by rw[h.ok]; exact hk,by rw[h.w]⟩
theorem Tr.rd1(h:Tr κ κ' f){d d':D}{v:Value}(hd:RD κ d v)(hr:th f d=some d'):RD κ' d' v:=by
 cases hd with
 | zC τ y cs hc=>cases hr; exact .zC τ y cs (hc.mono h.same)
 | xw e a=>cases hr; exact .xw e a
 | tight e l ne blk off g uh wI hh hc=>cases hr; exact .tight e l ne blk off g uh (h.same _ wI).1 (λi hi=>(hh i hi).mono h.same) λi hi j v hv=>by rw[cG (h.same _ wI).2]; exact hc i hi j v hv
 | xE=>cases hr; exact .xE
 | yL=>cases hr; exact .yL
 | xh=>cases hr; exact .xh
 | uq=>cases hr; exact .uq
 | uo=>cases hr; exact .uo
 | tA v h=>cases hr; exact .tA v h
 | dr T=>cases hr; exact .dr T
 | cW b T d hb =>
  simp only[th]at hr
  split at hr
  ·rename_i b' hf
   cases hr
   obtain⟨⟨d',h1⟩,h2⟩:=h.var b b' d hf hb
   exact .cW b' T d' h1
  ·cases hr
 | dn b T blk n d hb hp =>
  simp only[th]at hr
  split at hr
  ·rename_i b' hf
   cases hr
   obtain⟨⟨d',h1⟩,h2⟩:=h.var b b' d hf hb
   exact .dn b' T blk n d' h1 (h2.trans hp)
  ·cases hr
 | ptr b off blk n d hb hp =>
  simp only[th]at hr
  split at hr
  ·rename_i b' hf
   cases hr
   obtain⟨⟨d',h1⟩,h2⟩:=h.var b b' d hf hb
   exact .ptr b' off blk n d' h1 (h2.trans hp)
  ·cases hr
 | xe τ y cs blk off wI hh hc=>cases hr; exact .xe τ y cs blk off (h.same _ wI).1 (hh.mono h.same) λj v hv=>by rw[cG (h.same _ wI).2]; exact hc j v hv
 | uQ b qJ e idx off blk o hb hh =>
  simp only[th]at hr
  split at hr
  ·rename_i b' hf
   cases hr
   refine .uQ b' qJ e idx off blk o (h.old b b' qJ hf hb) λxs hx hi => ?_
   obtain⟨h1,h2⟩:=h.row b b' qJ e xs hf hx
   grind
  ·cases hr
 | ms b qJ e off len cap a hb vJ ha nN hh =>
  simp only[th]at hr
  split at hr
  ·rename_i b' hf
   cases hr
   refine .ms b' qJ e off len cap a (h.old b b' qJ hf hb) vJ ha nN λxs hx => ?_
   obtain⟨h1,h2⟩:=h.row b b' qJ e xs hf hx
   have:=hh xs h1
   unfold M5 at this ⊢
   grind
  ·cases hr
 | xk g l vs hl hh=>cases hr
 | agg l vs hl ho hh=>cases hr
 | gz l vs hl hh=>cases hr
 | iface t d v hh=>cases hr
theorem Rh{d d':D}(h:th f d=some d'):d'.one=d.one:=by
 cases d<;>simp only[th]at h<;>first | (cases h; rfl) | (split at h<;>cases h; rfl) | cases h
theorem Tr.rdL(h:Tr κ κ' f):∀ {l l':List D} {vs:List Value},qM κ l vs->DY f l=some l'->qM κ' l' vs
 | [],l',vs,hd,hr=>by cases hr; rw[hd.ql]; exact .nil
 | d::r,l',vs,hd,hr=>by
  simp only[DY]at hr
  split at hr
  ·rename_i d' h1
   split at hr
   ·rename_i r' h2
    cases hr
    obtain⟨v,us,rfl,g1,g2⟩:=hd.cons_inv
    exact .cons (h.rd1 g1 h1) (h.rdL g2 h2)
   ·cases hr
  ·cases hr
theorem UO:∀ {l l':List D},DY f l=some l'->(∀ d∈l,d.one=true)->∀ d∈l',d.one=true
 | [],l',hr,_=>by cases hr; nofun
 | d::r,l',hr,ho=>by
  simp only[DY]at hr
  split at hr
  ·rename_i d' h1
   split at hr
   ·rename_i r' h2
    cases hr
    intro x hx
    rcases List.mem_cons.1 hx with rfl | hx
    ·rw[Rh h1]; exact ho d List.mem_cons_self
    ·exact UO h2 (λy hy=>ho y (List.mem_cons_of_mem _ hy)) x hx
   ·cases hr
  ·cases hr
theorem Tr.rd(h:Tr κ κ' f){d d':D}{v:Value}(hd:RD κ d v)(hr:ov f d=some d'):RD κ' d' v:=by
 cases d with
 | xk g l =>
  simp only[ov]at hr
  split at hr
  ·rename_i l' hl
   cases hr
   cases hd with
   | xk _ _ vs h1 h2=>have:=h.rdL (⟨h1,h2⟩:qM κ l vs) hl; exact .xk g l' vs this.1 this.2
  ·cases hr
 | agg l =>
  simp only[ov]at hr
  split at hr
  ·rename_i l' hl
   cases hr
   cases hd with
   | agg _ vs h1 ho h2=>have:=h.rdL (⟨h1,h2⟩:qM κ l vs) hl; exact .agg l' vs this.1 (UO hl ho) this.2
  ·cases hr
 | _=>exact h.rd1 hd hr
theorem Tr.rds(h:Tr κ κ' f):∀ {l l':List D} {vs:List Value},qM κ l vs->Wv f l=some l'->qM κ' l' vs
 | [],l',vs,hd,hr=>by cases hr; rw[hd.ql]; exact .nil
 | d::r,l',vs,hd,hr=>by
  simp only[Wv]at hr
  split at hr
  ·rename_i d' h1
   split at hr
   ·rename_i r' h2
    cases hr
    obtain⟨v,us,rfl,g1,g2⟩:=hd.cons_inv
    exact .cons (h.rd g1 h1) (h.rds g2 h2)
   ·cases hr
  ·cases hr
theorem Tr.flat(h:Tr κ κ' f){d d':D}{vs:List Value}(hd:qM κ (qm d) vs)(ho:∀ x∈qm d,x.one=true)(hr:ov f d=some d'):qM κ' (qm d') vs/\∀ x∈qm d',x.one=true:=by
 have zC:∀ (τ:Ty) (x:den τ) (vs:List Value),qM κ (Go.AM.flat τ x) vs->qM κ' (Go.AM.flat τ x) vs:=by
  intro τ x vs hh
  refine⟨hh.1,λi h1 h2 => ?_⟩
  have hm:=List.getElem_mem h1
  have:∃ σ z,(Go.AM.flat τ x)[i]=.zC σ z:=by
   generalize (Go.AM.flat τ x)[i]=y at hm
   clear hh h1 h2
   induction τ with
   | cons a b ia ib =>
    simp only[Go.AM.flat,List.mem_append]at hm
    grind
   | nil=>simp[Go.AM.flat]at hm
   | expr=>simp[Go.AM.flat]at hm; rcases hm with rfl | rfl | rfl | rfl | rfl | rfl<;>exact⟨_,_,rfl⟩
   | _=>simp[Go.AM.flat]at hm; subst hm; exact⟨_,_,rfl⟩
  obtain⟨σ,z,e⟩:=this
  have h3:=hh.2 i h1 h2
  rw[e]at h3 ⊢
  exact h.rd1 h3 rfl
 cases d with
 | zC τ x=>cases hr; exact⟨zC τ x vs hd,ho⟩
 | agg l =>
  simp only[ov]at hr
  split at hr
  ·rename_i l' hl
   cases hr
   exact⟨h.rdL hd hl,UO hl ho⟩
  ·cases hr
 | gz l=>cases hr
 | xk g l =>
  obtain⟨v,r,rfl,h1,h2⟩:=qM.cons_inv (show qM κ [.xk g l] vs from hd)
  rw[h2.ql]
  have hr':=hr
  simp only[ov]at hr
  split at hr
  ·cases hr; exact⟨.cons (h.rd h1 hr') .nil,λx hx=>by simp only[qm,List.mem_singleton]at hx; subst hx; rfl⟩
  ·cases hr
 | iface t x=>cases hr
 | ptr b off =>
  obtain⟨v,r,rfl,h1,h2⟩:=qM.cons_inv (show qM κ [.ptr b off] vs from hd)
  rw[h2.ql]
  have hr':=hr
  simp only[ov,th]at hr
  split at hr
  ·cases hr; exact⟨.cons (h.rd1 h1 hr') .nil,λx hx=>by simp only[qm,List.mem_singleton]at hx; subst hx; rfl⟩
  ·cases hr
 | yt b T =>
  obtain⟨v,r,rfl,h1,h2⟩:=qM.cons_inv (show qM κ [.yt b T] vs from hd)
  rw[h2.ql]
  have hr':=hr
  simp only[ov,th]at hr
  split at hr
  ·cases hr; exact⟨.cons (h.rd1 h1 hr') .nil,λx hx=>by simp only[qm,List.mem_singleton]at hx; subst hx; rfl⟩
  ·cases hr
 | uQ b qJ e idx off =>
  obtain⟨v,r,rfl,h1,h2⟩:=qM.cons_inv (show qM κ [.uQ b qJ e idx off] vs from hd)
  rw[h2.ql]
  have hr':=hr
  simp only[ov,th]at hr
  split at hr
  ·cases hr; exact⟨.cons (h.rd1 h1 hr') .nil,λx hx=>by simp only[qm,List.mem_singleton]at hx; subst hx; rfl⟩
  ·cases hr
 | ms b qJ e off len =>
  obtain⟨v,r,rfl,h1,h2⟩:=qM.cons_inv (show qM κ [.ms b qJ e off len] vs from hd)
  rw[h2.ql]
  have hr':=hr
  simp only[ov,th]at hr
  split at hr
  ·cases hr; exact⟨.cons (h.rd1 h1 hr') .nil,λx hx=>by simp only[qm,List.mem_singleton]at hx; subst hx; rfl⟩
  ·cases hr
 | _ =>
  cases hr
  obtain⟨v,r,rfl,h1,h2⟩:=qM.cons_inv hd
  rw[h2.ql]
  exact⟨.cons (h.rd1 h1 rfl) .nil,ho⟩
theorem Eg{f:Nat->Option Nat}{d d':D}{tt:Nat}(h:ov f d=some d')(ht:d'.typed=some tt):d.typed=some tt:=by
 cases d with
 | agg l =>
  simp only[ov]at h
  split at h
  ·rename_i l' hl
   cases h
   cases l with
   | nil=>cases hl; cases ht
   | cons x r =>
    simp only[DY]at hl
    split at hl
    ·rename_i x' hx
     split at hl
     ·cases hl
      cases x<;>simp only[th]at hx<;>first
       | (cases hx; exact ht)
       | (split at hx<;>first | (cases hx; exact ht) | cases hx)
       | cases hx
     ·cases hl
    ·cases hl
  ·cases h
 | xk g l =>
  simp only[ov]at h
  split at h
  ·cases h; cases ht
  ·cases h
 | _ =>
  simp only[ov,th]at h
  first
   | (cases h; cases ht)
   | (split at h<;>first | (cases h; cases ht) | cases h)
   | cases h
theorem Tr.blk[tn](h:Tr κ κ' f){b b':Nat}(hp:κ'.ph[b']? = κ.ph[b]?){y y':yj}(hy:ff κ b y)(hr:Va f y=some y'):ff κ' b' y':=by
 cases y with
 | dead=>cases hr; trivial
 | var d =>
  simp only[Va]at hr
  split at hr
  ·rename_i d' hd
   cases hr
   obtain⟨blk,n,cs,t,h1,h2,h3,h4,h5⟩:=hy
   obtain⟨g1,g2⟩:=h.flat h4 h5.1 hd
   exact⟨blk,n,cs,t,hp.trans h1,by rw[h.w]; exact h2,h3,g1,g2,λT hT=>h5.2 T (Eg hd hT)⟩
  ·cases hr
 | arr qJ e xs =>
  cases hr
  obtain⟨h0,hh⟩:=hy
  refine⟨h0,eV hh (λh=>⟨h.1,hp.trans h.2⟩) ?_⟩
  rintro⟨blk,n,cs,t,h1,h2,h3,h4,hr,g,h5⟩
  exact⟨blk,n,cs,t,hp.trans h1,by rw[h.w]; exact h2,h3,h4,hr,g,λi hi=>⟨(h5 i hi).1.mono h.same,(h5 i hi).2⟩⟩
theorem sS{f:Nat->Option Nat}:∀ {fr:Fr} {s:Nat} {d':D},(tH f fr).get s=some d'->∃ d,fr.get s=some d/\ov f d=some d'
 | [],s,d',h=>by cases h
 | (t,some d)::r,s,d',h=>by
  simp only[tH,Fr.get]at h ⊢
  cases ht:Nat.beq t s with
  | true=>grind
  | false=>rw[ht,cond_false]at h; simp; exact sS h
 | (t,none)::r,s,d',h=>by
  simp only[tH,Fr.get]at h ⊢
  cases ht:Nat.beq t s with
  | true=>grind
  | false=>rw[ht,cond_false]at h; simp; exact sS h
end
def pos:List Nat->Nat->Option Nat
 | [],_=>none
 | b::r,i=>bif Nat.beq b i then some 0 else match pos r i with | some j=>some (j+1) | none=>none
def gu:List Nat->Bool
 | []=>true
 | b::r=>(match pos r b with | none=>true | some _=>false)&&gu r
theorem iZ:∀ {mp:List Nat} {i j:Nat},pos mp i=some j->mp[j]? = some i
 | [],i,j,h=>by cases h
 | b::r,i,j,h=>by
  simp only[pos]at h
  cases hb:Nat.beq b i with
  | true=>rw[hb,cond_true]at h; cases h; rw[Nat.eq_of_beq_eq_true hb]; rfl
  | false =>
   rw[hb,cond_false]at h
   split at h
   ·rename_i k hk; cases h; simpa using iZ hk
   ·cases h
theorem nz:∀ {mp:List Nat} {i j:Nat},gu mp=true->mp[j]? = some i->pos mp i=some j
 | [],i,j,_,h=>by simp at h
 | b::r,i,j,hn,h=>by
  simp only[gu,Bool.and_eq_true]at hn
  cases j with
  | zero=>simp at h; subst h; simp only[pos]; rw[Nat.beq_refl]; rfl
  | succ j =>
   have h':r[j]? = some i:=by simpa using h
   have hp:=nz hn.2 h'
   have uh:Nat.beq b i=false:=by
    cases hb:Nat.beq b i with
    | false=>rfl
    | true =>
     have:=Nat.eq_of_beq_eq_true hb
     grind
   simp only[pos,uh,cond_false,hp]
def iu{α:Type}(l:List α):List Nat->Option (List α)
 | []=>some []
 | b::r=>match l[b]? with
  | some x=>match iu l r with | some y=>some (x::y) | none=>none
  | none=>none
theorem Xv{α:Type}{l:List α}:∀ {mp:List Nat} {r:List α},iu l mp=some r->r.length=mp.length/\∀ (j b:Nat),mp[j]? = some b->r[j]? = l[b]? /\ b<l.length
 | [],r,h=>by cases h; exact⟨rfl,λj b hj=>by grind⟩
 | b::mp,r,h=>by
  simp only[iu]at h
  split at h
  ·rename_i x hx
   split at h
   ·rename_i y hy
    obtain⟨h1,h2⟩:=Xv hy
    grind
   ·cases h
  ·cases h
theorem XP{f:Nat->Option Nat}:∀ {l r:List yj},o5 f l=some r->r.length=l.length/\∀ (j:Nat) (x:yj),l[j]? = some x->∃ y,r[j]? = some y/\Va f x=some y
 | [],r,h=>by cases h; exact⟨rfl,λj x hj=>by grind⟩
 | b::l,r,h=>by
  simp only[o5]at h
  split at h
  ·rename_i b' hb
   split at h
   ·rename_i r' hr
    obtain⟨h1,h2⟩:=XP hr
    grind
   ·cases h
  ·cases h
def pT{α:Type}(mp:List Nat)(new:List α):Nat->List α->List α
 | _,[]=>[]
 | i,x::r=>(match pos mp i with | some j=>(match new[j]? with | some y=>y | none=>x) | none=>x)::pT mp new (i+1) r
def wD{α:Type}(mp:List Nat)(old new:List α):List α:=pT mp new 0 old++new.drop mp.length
theorem jq{α:Type}(mp:List Nat)(new:List α):∀ (l:List α) (i:Nat),(pT mp new i l).length=l.length
 | [],_=>rfl
 | x::r,i=>by simp[pT,jq mp new r (i+1)]
theorem Z1{α:Type}(mp:List Nat)(new:List α):∀ (l:List α) (i k:Nat),(pT mp new i l)[k]? = (l[k]?).map λx=>match pos mp (i+k)with | some j=>(match new[j]? with | some y=>y | none=>x) | none=>x
 | [],i,k=>by simp[pT]
 | x::r,i,0=>by simp[pT]
 | x::r,i,k+1=>by
  have:=Z1 mp new r (i+1) k
  simp only[pT]
  grind
def fwd(mp:List Nat)(n:Nat)(j:Nat):Nat:=match mp[j]? with | some b=>b | none=>n+(j-mp.length)
theorem mo{α:Type}{mp:List Nat}{old new:List α}{i:Nat}(hi:i<old.length)(hp:pos mp i=none):(wD mp old new)[i]? = old[i]? := by
 unfold wD
 rw[List.getElem?_append_left (by rw[jq]; exact hi),Z1,Nat.zero_add,hp]
 simp
theorem BP{α:Type}{mp:List Nat}{old new:List α}(hn:gu mp=true)(qD:∀ (j b:Nat),mp[j]? = some b->b<old.length)(hlen:mp.length<=new.length){j:Nat}(hj:j<new.length):(wD mp old new)[fwd mp old.length j]? = new[j]? := by
 unfold wD fwd
 cases hm:mp[j]? with
 | some b =>
  have hb:=qD j b hm
  rw[List.getElem?_append_left (by rw[jq]; exact hb),Z1,Nat.zero_add,nz hn hm]
  grind
 | none =>
  simp only
  rw[List.getElem?_append_right (by rw[jq]; omega),jq,List.getElem?_drop]
  grind
theorem FJ{α:Type}{mp:List Nat}{old new:List α}(qD:∀ (j b:Nat),mp[j]? = some b->b<old.length)(hlen:mp.length<=new.length){i:Nat}(hi:i<(wD mp old new).length) :
  (i<old.length/\pos mp i=none)\/∃ j,j<new.length/\i=fwd mp old.length j:=by
 by_cases h:i<old.length
 ·cases hp:pos mp i with
  | none=>grind
  | some j =>
   have:=iZ hp
   have hj:=(List.getElem?_eq_some_iff.1 this).1
   exact .inr ⟨j,by omega,by unfold fwd; rw[this]⟩
 ·have hl:i<old.length+(new.length-mp.length):=by simpa[wD,jq]using hi
  refine .inr ⟨mp.length+(i-old.length),by omega,?_⟩
  unfold fwd
  grind
end Go.AM
namespace Go.AM
set_option linter.unusedSectionVars false
variable [ur]
open Go.RowKit
section
variable {κ:KS} {mp:List Nat}
theorem EA{b9 l:List yj}{p1:List (Option (Nat×Nat))}(hI:Inv κ)(hn:gu mp=true)(hp:iu κ.ph mp=some p1)(hl:iu κ.st mp=some l)(hr:o5 (pos mp) l=some b9) :
  Inv ⟨κ.w,κ.ok,p1,b9⟩/\Tr κ ⟨κ.w,κ.ok,p1,b9⟩ (pos mp)/\b9.length=mp.length/\p1.length=mp.length/\∀ (j b:Nat),mp[j]? = some b->p1[j]? = κ.ph[b]? /\ ∃ x y:yj,κ.st[b]? = some x/\Va (pos mp) x=some y/\b9[j]? = some y:=by
 obtain⟨a1,a2⟩:=Xv hp
 obtain⟨b1,b2⟩:=Xv hl
 obtain⟨c1,c2⟩:=XP hr
 have key:∀ (j b:Nat),mp[j]? = some b->p1[j]? = κ.ph[b]? /\ ∃ x y:yj,κ.st[b]? = some x/\Va (pos mp) x=some y/\b9[j]? = some y:=by
  grind
 have at':∀ {j:Nat} {y:yj},b9[j]? = some y->∃ b,mp[j]? = some b:=λh=>by
  have:=(List.getElem?_eq_some_iff.1 h).1
  exact⟨_,List.getElem?_eq_getElem (by omega)⟩
 have hT:Tr κ ⟨κ.w,κ.ok,p1,b9⟩ (pos mp):=by
  refine⟨rfl,rfl,λb j d hf hb => ?_,λb j qJ hf ho => ?_,λb j v e xs hf hb => ?_⟩
  ·obtain⟨h1,x,y,h2,h3,h4⟩:=key j b (iZ hf)
   rw[hb]at h2
   cases h2
   simp only[Va]at h3
   grind
  ·obtain⟨h1,x,y,h2,h3,h4⟩:=key j b (iZ hf)
   rcases ho with ho | ⟨v0,e0,Zd,ho,hv⟩
   ·rw[ho]at h2; cases h2; cases h3; exact .inl h4
   ·rw[ho]at h2; cases h2; cases h3; exact .inr ⟨v0,e0,Zd,h4,hv⟩
  ·obtain⟨h1,x,y,h2,h3,h4⟩:=key j b (iZ hf)
   rw[show b9[j]? = some (.arr v e xs)from hb]at h4
   cases h4
   cases x with
   | dead=>cases h3
   | var d=>simp only[Va]at h3; split at h3<;>cases h3
   | arr v0 e0 Zd=>cases h3; exact⟨h2,h1⟩
 refine⟨⟨by show p1.length=b9.length; omega,hI.gm,λj blk n h => ?_,λj j' blk n n' h h' => ?_,λj y h => ?_,hI.gl⟩,hT,by omega,a1,key⟩
 ·obtain⟨b,hb⟩:∃ b,mp[j]? = some b:=⟨_,List.getElem?_eq_getElem (by have:j<p1.length:=(List.getElem?_eq_some_iff.1 h).1; omega)⟩
  exact hI.apart b blk n ((a2 j b hb).1.symm.trans h)
 ·obtain⟨b,hb⟩:∃ b,mp[j]? = some b:=⟨_,List.getElem?_eq_getElem (by have:j<p1.length:=(List.getElem?_eq_some_iff.1 h).1; omega)⟩
  obtain⟨b',Bo⟩:∃ b,mp[j']? = some b:=⟨_,List.getElem?_eq_getElem (by have:j'<p1.length:=(List.getElem?_eq_some_iff.1 h').1; omega)⟩
  have:=hI.inj b b' blk n n' ((a2 j b hb).1.symm.trans h) ((a2 j' b' Bo).1.symm.trans h')
  subst this
  exact Option.some.inj ((nz hn hb).symm.trans (nz hn Bo))
 ·obtain⟨b,hb⟩:=at' h
  obtain⟨h1,x,y',h2,h3,h4⟩:=key j b hb
  rw[show b9[j]? = some y from h]at h4
  cases h4
  exact hT.blk h1 (hI.blk b x h2) h3
theorem GA{κ1:KS}{b9 k9 l:List yj}{p1:List (Option (Nat×Nat))}(hI:Inv κ)(hn:gu mp=true)(hp:iu κ.ph mp=some p1)(hl:iu κ.st mp=some l)(hr:o5 (pos mp) l=some b9)
  (Xj:Inv κ1) (hx:Ext ⟨κ.w,κ.ok,p1,b9⟩ κ1) (hr2:o5 (λj=>some (fwd mp κ.st.length j)) κ1.st=some k9) :
  ∃ κ':KS,κ'.w=κ1.w/\κ'.st=wD mp κ.st k9/\Inv κ'/\Ext κ κ'/\Tr κ1 κ' (λj=>some (fwd mp κ.st.length j)):=by
 obtain⟨hIs,hTs,s1,s2,key⟩:=EA hI hn hp hl hr
 obtain⟨r1,r2⟩:=XP hr2
 have qD:∀ (j b:Nat),mp[j]? = some b->b<κ.st.length:=λj b hj=>by obtain⟨_,x,_,h,_⟩:=key j b hj; exact(List.getElem?_eq_some_iff.1 h).1
 have zgU:∀ (j b:Nat),mp[j]? = some b->b<κ.ph.length:=λj b hj=>by rw[hI.len]; exact qD j b hj
 have ON:mp.length<=κ1.st.length:=by have:=hx.Cd; simp only at this; omega
 have KB:mp.length<=k9.length:=by omega
 have Ts:mp.length<=κ1.ph.length:=by rw[Xj.len]; exact ON
 let fw:=fwd mp κ.st.length
 have hlen:(wD mp κ.ph κ1.ph).length=(wD mp κ.st k9).length:=by simp[wD,jq,hI.len,Xj.len,r1]
 -- what lies where
 have cst:∀ {j:Nat} {x:yj},κ1.st[j]? = some x->∃ y,(wD mp κ.st k9)[fw j]? = some y/\Va (λj=>some (fw j)) x=some y:=by
  intro j x hj
  obtain⟨y,h1,h2⟩:=r2 j x hj
  exact⟨y,by rw[BP hn qD KB (by rw[r1]; exact(List.getElem?_eq_some_iff.1 hj).1)]; exact h1,h2⟩
 have cph:∀ {j:Nat},j<κ1.st.length->(wD mp κ.ph κ1.ph)[fw j]? = κ1.ph[j]? := by
  intro j hj
  have:=BP (old:=κ.ph) (new:=κ1.ph) hn zgU Ts (j:=j) (by rw[Xj.len]; exact hj)
  rw[hI.len]at this
  exact this
 have ust:∀ {i:Nat},i<κ.st.length->pos mp i=none->(wD mp κ.st k9)[i]? = κ.st[i]? := λhi h=>mo hi h
 have uph:∀ {i:Nat},i<κ.st.length->pos mp i=none->(wD mp κ.ph κ1.ph)[i]? = κ.ph[i]? := λhi h=>mo (by rw[hI.len]; exact hi) h
 have XW:∀ {i:Nat},i<(wD mp κ.st k9).length->(i<κ.st.length/\pos mp i=none)\/∃ j,j<κ1.st.length/\i=fw j:=by
  intro i hi
  rcases FJ qD KB hi with h | ⟨j,h1,h2⟩
  ·grind
  ·grind
 have Nf:∀ {j b:Nat},mp[j]? = some b->fw j=b:=λh=>by simp only[fw,fwd,h]
 have zjs:∀ {j:Nat},mp[j]? = none->κ.st.length<=fw j:=λh=>by simp only[fw,fwd,h]; omega
 -- the part's own blocks
 have sph:∀ {j:Nat} {q:Nat×Nat},p1[j]? = some (some q)->∃ b,mp[j]? = some b/\κ.ph[b]? = some (some q):=by
  intro j q h
  have hj:=(List.getElem?_eq_some_iff.1 h).1
  obtain⟨b,hb⟩:∃ b,mp[j]? = some b:=⟨_,List.getElem?_eq_getElem (by omega)⟩
  grind
 have hT:Tr κ1 ⟨κ1.w,κ1.ok,wD mp κ.ph κ1.ph,wD mp κ.st k9⟩ (λj=>some (fw j)):=by
  refine⟨rfl,rfl,λj b d hf hj => ?_,λj b qJ hf ho => ?_,λj b v e xs hf hb => ?_⟩
  ·cases hf
   obtain⟨y,h1,h2⟩:=cst hj
   simp only[Va]at h2
   grind
  ·cases hf
   rcases ho with ho | ⟨v0,e0,Zd,ho,hv⟩
   ·obtain⟨y,h1,h2⟩:=cst ho; cases h2; exact .inl h1
   ·obtain⟨y,h1,h2⟩:=cst ho; cases h2; exact .inr ⟨v0,e0,Zd,h1,hv⟩
  ·cases hf
   have hb:(wD mp κ.st k9)[fw j]? = some (.arr v e xs):=hb
   have Bq:=(List.getElem?_eq_some_iff.1 hb).1
   have hj:j<κ1.st.length:=by
    by_cases hj:j<κ1.st.length
    ·exact hj
    ·exfalso
     cases hm:mp[j]? with
     | some c=>have:=(List.getElem?_eq_some_iff.1 hm).1; omega
     | none =>
      have h3:fw j=κ.st.length+(j-mp.length):=by simp only[fw,fwd,hm]
      have h4:(wD mp κ.st k9).length=κ.st.length+(k9.length-mp.length):=by simp[wD,jq]
      omega
   obtain⟨y,h1,h2⟩:=cst (List.getElem?_eq_getElem hj)
   rw[hb]at h1
   cases h1
   refine⟨?_,cph hj⟩
   rw[List.getElem?_eq_getElem hj]
   generalize κ1.st[j]=x at h2
   cases x with
   | dead=>cases h2
   | var d=>simp only[Va]at h2; split at h2<;>cases h2
   | arr v0 e0 Zd=>cases h2; rfl
 -- G1 blocks lie as they lay
 have G1:∀ {i blk n:Nat},pos mp i=none->κ.ph[i]? = some (some (blk,n))->κ1.w.heap[blk]? = κ.w.heap[blk]? := by
  intro i blk n hi h
  obtain⟨g1,g2⟩:=hI.apart i blk n h
  refine hx.frame blk g1 λj m hj => ?_
  obtain⟨b,Is,DC⟩:=sph hj
  have:=hI.inj i b blk n m h DC
  subst this
  rw[nz hn Is]at hi
  cases hi
 have hE:Ext κ ⟨κ1.w,κ1.ok,wD mp κ.ph κ1.ph,wD mp κ.st k9⟩:=by
  refine⟨hx.os,hx.tape,hx.output,hx.size,hx.same,λk hk => ?_,λi blk n h => ?_,λi d hi => ?_,λi v0 e Zd hi => ?_,λi hi => ?_,?_,λk hk kf => ?_⟩
  ·rcases hx.fresh k hk with h | h | ⟨j,n,h⟩
   ·exact .inl h
   ·exact .inr (.inl h)
   ·obtain⟨b,_,hb⟩:=sph h; exact .inr (.inr ⟨b,n,hb⟩)
  ·have h:(wD mp κ.ph κ1.ph)[i]? = some (some (blk,n)):=h
   have KW:i<(wD mp κ.st k9).length:=by rw[<- hlen]; exact(List.getElem?_eq_some_iff.1 h).1
   rcases XW KW with⟨h1,h2⟩ | ⟨j,h1,rfl⟩
   ·rw[uph h1 h2]at h; exact .inl h
   ·rw[cph h1]at h
    rcases hx.phs j blk n h with h3 | h3
    ·obtain⟨b,Is,DC⟩:=sph h3
     rw[Nf Is]; exact .inl DC
    ·exact .inr h3
  ·have Ox:=(List.getElem?_eq_some_iff.1 hi).1
   cases Bp:pos mp i with
   | none=>exact⟨⟨d,(ust Ox Bp).trans hi⟩,uph Ox Bp⟩
   | some j =>
    have hmj:=iZ Bp
    obtain⟨k1,x,y,k2,k3,k4⟩:=key j i hmj
    rw[hi]at k2
    cases k2
    simp only[Va]at k3
    split at k3
    ·cases k3
     obtain⟨⟨d',g1⟩,g2⟩:=hx.var j _ k4
     obtain⟨⟨d'',q1⟩,q2⟩:=hT.var j (fw j) d' rfl g1
     rw[Nf hmj]at q1 q2
     exact⟨⟨d'',q1⟩,q2.trans (g2.trans k1)⟩
    ·cases k3
  ·have Ox:=(List.getElem?_eq_some_iff.1 hi).1
   cases Bp:pos mp i with
   | none=>exact .inr ⟨v0,Zd,(ust Ox Bp).trans hi,Nat.le_refl _,λ_=>⟨uph Ox Bp,rfl⟩⟩
   | some j =>
    have hmj:=iZ Bp
    obtain⟨k1,x,y,k2,k3,k4⟩:=key j i hmj
    rw[hi]at k2
    cases k2
    cases k3
    rcases hx.arr j v0 e Zd k4 with g | ⟨v1,jC,g1,g2,g3⟩
    ·obtain⟨y,q1,q2⟩:=cst g
     cases q2
     rw[Nf hmj]at q1
     exact .inl q1
    ·obtain⟨y,q1,q2⟩:=cst g1
     cases q2
     rw[Nf hmj]at q1
     refine .inr ⟨v1,jC,q1,g2,λhe=>⟨?_,(g3 he).2⟩⟩
     have h4:=cph (List.getElem?_eq_some_iff.1 g1).1
     rw[Nf hmj]at h4
     exact h4.trans ((g3 he).1.trans k1)
  ·have Ox:=(List.getElem?_eq_some_iff.1 hi).1
   cases Bp:pos mp i with
   | none=>exact(ust Ox Bp).trans hi
   | some j =>
    have hmj:=iZ Bp
    obtain⟨k1,x,y,k2,k3,k4⟩:=key j i hmj
    rw[hi]at k2
    cases k2
    cases k3
    obtain⟨y,q1,q2⟩:=cst (hx.dead j k4)
    cases q2
    rw[Nf hmj]at q1
    exact q1
  ·show κ.st.length<=(wD mp κ.st k9).length
   simp[wD,jq]
  ·exact hx.frame k hk λj n hj=>by obtain⟨b,_,hb⟩:=sph hj; exact kf b n hb
 refine⟨⟨κ1.w,κ1.ok,wD mp κ.ph κ1.ph,wD mp κ.st k9⟩,rfl,rfl,⟨hlen,Xj.gm,λi blk n h => ?_,λi i' blk n n' h h' => ?_,λi y h => ?_,Xj.gl⟩,hE,hT⟩
 ·have h:(wD mp κ.ph κ1.ph)[i]? = some (some (blk,n)):=h
  have KW:i<(wD mp κ.st k9).length:=by rw[<- hlen]; exact(List.getElem?_eq_some_iff.1 h).1
  rcases XW KW with⟨h1,h2⟩ | ⟨j,h1,rfl⟩
  ·rw[uph h1 h2]at h
   obtain⟨g1,g2⟩:=hI.apart i blk n h
   refine⟨Nat.lt_of_lt_of_le g1 hx.size,λhk => ?_⟩
   rcases hx.fresh blk hk with hk | hk | ⟨j,m,hj⟩
   ·exact g2 hk
   ·simp only at hk; omega
   ·obtain⟨b,Is,DC⟩:=sph hj
    have:=hI.inj i b blk n m h DC
    subst this
    rw[nz hn Is]at h2
    cases h2
  ·rw[cph h1]at h
   exact Xj.apart j blk n h
 ·have h:(wD mp κ.ph κ1.ph)[i]? = some (some (blk,n)):=h
  have h':(wD mp κ.ph κ1.ph)[i']? = some (some (blk,n')):=h'
  have TV:i<(wD mp κ.st k9).length:=by rw[<- hlen]; exact(List.getElem?_eq_some_iff.1 h).1
  have z6p:i'<(wD mp κ.st k9).length:=by rw[<- hlen]; exact(List.getElem?_eq_some_iff.1 h').1
  have mixed:∀ {i j n n':Nat},i<κ.st.length->pos mp i=none->j<κ1.st.length->κ.ph[i]? = some (some (blk,n))->κ1.ph[j]? = some (some (blk,n'))->False:=by
   intro i j n n' h1 h2 h3 h4 h5
   rcases hx.phs j blk n' h5 with h6 | h6
   ·obtain⟨b,Is,DC⟩:=sph h6
    have:=hI.inj i b blk n n' h4 DC
    subst this
    rw[nz hn Is]at h2
    cases h2
   ·have:=(hI.apart i blk n h4).1
    simp only at h6
    omega
  rcases XW TV with⟨h1,h2⟩ | ⟨j,h1,rfl⟩
  ·rw[uph h1 h2]at h
   rcases XW z6p with⟨h3,h4⟩ | ⟨j',h3,rfl⟩
   ·rw[uph h3 h4]at h'; exact hI.inj i i' blk n n' h h'
   ·rw[cph h3]at h'; exact(mixed h1 h2 h3 h h').elim
  ·rw[cph h1]at h
   rcases XW z6p with⟨h3,h4⟩ | ⟨j',h3,rfl⟩
   ·rw[uph h3 h4]at h'; exact(mixed h3 h4 h1 h' h).elim
   ·rw[cph h3]at h'
    rw[Xj.inj j j' blk n n' h h']
 ·have h:(wD mp κ.st k9)[i]? = some y:=h
  rcases XW (List.getElem?_eq_some_iff.1 h).1 with⟨h1,h2⟩ | ⟨j,h1,rfl⟩
  ·rw[ust h1 h2]at h
   exact(hI.blk i y h).mono hE (uph h1 h2) λblk n hb=>G1 h2 hb
  ·obtain⟨z,q1,q2⟩:=cst (List.getElem?_eq_getElem h1)
   rw[h]at q1
   cases q1
   exact hT.blk (cph h1) (Xj.blk j _ (List.getElem?_eq_getElem h1)) q2
end
end Go.AM
namespace Go.AM
set_option linter.unusedSectionVars false
variable [ur]
open Go.RowKit
inductive AK where
 | any | cur | sub | ptr | xk (f:Nat)
structure kQ where
 ks:List AK
 sh:vG
 yv:List Gh
 out:vG
 nr:Nat
 F:sh.den->T out.den
def IF(fr:Fr):Nat->Nat->Option (List D)
 | 0,_=>some []
 | n+1,i=>match fr.get i with
  | some d=>match IF fr n (i+1)with | some r=>some (d::r) | none=>none
  | none=>none
def gY(nr:Nat)(fr:Fr):Option (List D):=IF fr nr 0
def z0c:List (Nat×Nat)->List D->Nat->Option Nat
 | p::r,.ptr b' _::ds,b=>bif Nat.beq p.1 b then some b' else z0c r ds b
 | _,_,_=>none
def zaU(b:Nat):Ck->D->Option Nat
 | .ptr c _,.ptr b' _=>bif Nat.beq c b then some b' else none
 | .cur c _,.ms b' _ _ _ _=>bif Nat.beq c b then some b' else none
 | .xk _ l,.xk _ ds=>z0c l ds b
 | _,_=>none
def z7t(fr:Fr)(b:Nat):List (Nat×Ck)->Option Nat
 | []=>none
 | (s,k)::r=>match fr.get s with
  | some d=>match zaU b k d with | some b'=>some b' | none=>z7t fr b r
  | none=>z7t fr b r
def DH(b:Nat):List Mc->List D->Option Nat
 | .pt c::r,.ptr b' _::ds=>bif Nat.beq c b then some b' else DH b r ds
 | .pt _::r,_::ds=>DH b r ds
 | .im _::r,_::ds=>DH b r ds
 | .rp _::r,_::ds=>DH b r ds
 | _,_=>none
def Ue(b:Nat):List Sk->List D->Option Nat
 | .im τ::r,ds=>Ue b r (ds.drop τ.size)
 | .row c _::r,.ms b' _ _ _ _::ds=>bif Nat.beq c b then some b' else Ue b r ds
 | .row _ _::r,_::ds=>Ue b r ds
 | .op c _::r,.yt b' _::ds=>bif Nat.beq c b then some b' else Ue b r ds
 | .op _ _::r,_::ds=>Ue b r ds
 | .un::r,_::ds=>Ue b r ds
 | _,_=>none
def YO(fr:Fr)(b:Nat):List It->Option Nat
 | []=>none
 | .s s (.mclo _ ms)::r=>match fr.get s with
  | some (.xk _ l)=>match DH b ms l with | some b'=>some b' | none=>YO fr b r
  | _=>YO fr b r
 | .s s (.sub c _)::r=>match fr.get s with
  | some (.ms b' _ _ _ _)=>bif Nat.beq c b then some b' else YO fr b r
  | _=>YO fr b r
 | _::r=>YO fr b r
def OW(st:St)(b:Nat):List Bk->List (Option Nat)->Option Nat
 | .cvar k::r,some p::ps=>match st[p]? with
  | some (.var d)=>match zaU b k d with | some b'=>some b' | none=>OW st b r ps
  | _=>OW st b r ps
 | .var (.st ks)::r,some p::ps=>match st[p]? with
  | some (.var d)=>match Ue b ks (qm d)with | some b'=>some b' | none=>OW st b r ps
  | _=>OW st b r ps
 | _::r,_::ps=>OW st b r ps
 | _,_=>none
def z8V(sh:vG)(fr:Fr):Nat->List Bk->List (Option Nat)
 | _,[]=>[]
 | b,_::r=>(match z7t fr b sh.cs with | some b'=>some b' | none=>YO fr b sh.ox)::z8V sh fr (b+1) r
def z3S(sh:vG)(st:St)(m:List (Option Nat)):Nat->List (Option Nat)->List (Option Nat)
 | _,[]=>[]
 | b,some b'::r=>some b'::z3S sh st m (b+1) r
 | b,none::r=>OW st b sh.bs m::z3S sh st m (b+1) r
def zaq:List (Option Nat)->Option (List Nat)
 | []=>some []
 | some b::r=>match zaq r with | some l=>some (b::l) | none=>none
 | none::_=>none
def mapOf(sh:vG)(fr:Fr)(st:St):Option (List Nat):=let m:=z8V sh fr 0 sh.bs
 let m:=z3S sh st m 0 m
 zaq (z3S sh st m 0 m)
def kQ.back(d:kQ)(mp:List Nat)(st:St)(y:d.out.den):T (Gy×St):=match gY d.nr (d.out.fr y),o5 (λj=>some (fwd mp st.length j)) (d.out.st y)with
 | some ds,some k9=>match Wv (λj=>some (fwd mp st.length j)) ds with
  | some KN=>.ret (.ret KN,wD mp st k9)
  | none=>.fail
 | _,_=>.fail
def kQ.inner(d:kQ)(mp:List Nat)(fr:Fr)(st:St):T (Gy×St):=match iu st mp with
 | none=>.fail
 | some l=>match o5 (pos mp) l with
  | none=>.fail
  | some b9=>(d.sh.un (tH (pos mp) fr) b9).bind λx=>(d.F x).bind λy=>d.back mp st y
def kQ.S(d:kQ)(args:List D)(st:St):T (Gy×St) :=
 match mapOf d.sh (gh d.yv (wL args 0) st).1 (gh d.yv (wL args 0) st).2 with
 | none=>.fail
 | some mp=>bif gu mp&&Nat.ble mp.length d.sh.bs.length&&Nat.beq args.length d.ks.length then d.inner mp (gh d.yv (wL args 0) st).1 (gh d.yv (wL args 0) st).2 else .fail
def kQ.JQ{α:Type}(d:kQ)(mp:List Nat)(st:St)(y:d.out.den)(k:List D->St->T α):T α:=match gY d.nr (d.out.fr y),o5 (λj=>some (fwd mp st.length j)) (d.out.st y)with
 | some ds,some k9=>match Wv (λj=>some (fwd mp st.length j)) ds with
  | some KN=>k KN (wD mp st k9)
  | none=>.fail
 | _,_=>.fail
def kQ.rV{α:Type}(d:kQ)(mp:List Nat)(fr:Fr)(st:St)(k:List D->St->T α):T α:=match iu st mp with
 | none=>.fail
 | some l=>match o5 (pos mp) l with
  | none=>.fail
  | some b9=>(d.sh.un (tH (pos mp) fr) b9).bind λx=>(d.F x).bind λy=>d.JQ mp st y k
def kQ.K{α:Type}(d:kQ)(args:List D)(st:St)(k:List D->St->T α):T α :=
 match mapOf d.sh (gh d.yv (wL args 0) st).1 (gh d.yv (wL args 0) st).2 with
 | none=>.fail
 | some mp=>bif gu mp&&Nat.ble mp.length d.sh.bs.length&&Nat.beq args.length d.ks.length then d.rV mp (gh d.yv (wL args 0) st).1 (gh d.yv (wL args 0) st).2 k else .fail
theorem kQ.T7{α:Type}{d:kQ}{args:List D}{st:St}{k:List D->St->T α}{r:α}(h:(d.K args st k).leads r):∃ ds zx,(d.S args st).leads (.ret ds,zx)/\(k ds zx).leads r:=by
 unfold kQ.K at h
 unfold kQ.S
 split at h
 ·exact h.elim
 ·rename_i mp Ts
  cases hc:gu mp&&Nat.ble mp.length d.sh.bs.length&&Nat.beq args.length d.ks.length with
  | false=>rw[hc]at h; exact h.elim
  | true =>
   rw[hc,cond_true]at h
   unfold kQ.rV at h
   unfold kQ.inner
   split at h
   ·exact h.elim
   ·rename_i l hl
    split at h
    ·exact h.elim
    ·rename_i b9 hst1
     obtain⟨x,h1,h⟩:=T.ze.1 h
     obtain⟨y,h2,h⟩:=T.ze.1 h
     unfold kQ.JQ at h
     split at h
     ·rename_i ds k9 e1 e2
      split at h
      ·rename_i KN e3
       refine⟨KN,_,T.ze.2 ⟨x,h1,T.ze.2 ⟨y,h2,?_⟩⟩,h⟩
       unfold kQ.back
       simp only[e1,e2,e3]
       rfl
      ·exact h.elim
     ·exact h.elim
def gy(Dr:z03)(g:Nat)(d:kQ):Prop:=∀ (κ:KS) (x:d.sh.den) (zJ:List Value) (y:d.out.den),κ.st=d.sh.st x->(d.F x).leads y->Inv κ->zJ.length=d.ks.length ->
 Rel κ zJ.length (d.sh.fr x).get { tmps:=zJ.toArray,defers:=[] } ->
 Dr g zJ.toArray κ.w λe w'=>∃ (κ':KS) (ds:List D),κ'.w=w'/\κ'.st=d.out.st y/\Inv κ'/\Ext κ κ'/\gY d.nr (d.out.fr y)=some ds/\wW κ' (.ret ds) e
def qQ(P:Program)(g:Nat)(d:kQ):Prop:=∀ (κ:KS) (x:d.sh.den) (zJ:List Value) (y:d.out.den),κ.st=d.sh.st x->(d.F x).leads y->Inv κ->zJ.length=d.ks.length ->
 Rel κ zJ.length (d.sh.fr x).get { tmps:=zJ.toArray,defers:=[] } ->
 j6 P g zJ.toArray κ.w λe w'=>∃ (κ':KS) (ds:List D),κ'.w=w'/\κ'.st=d.out.st y/\Inv κ'/\Ext κ κ'/\gY d.nr (d.out.fr y)=some ds/\wW κ' (.ret ds) e
theorem Mx{κ κ':KS}{f:Nat->Option Nat}(h:Tr κ κ' f){ds KN:List D}{v:Value}(hd:RD κ (yS ds) v)(hr:Wv f ds=some KN):RD κ' (yS KN) v:=by
 match ds,hr with
 | [],hr =>
  cases hr
  cases hd with
  | gz _ vs hl hh =>
   obtain rfl:vs=[]:=List.eq_nil_of_length_eq_zero hl.symm
   exact .gz [] [] rfl (λi h=>absurd h (Nat.not_lt_zero i))
 | [d],hr =>
  simp only[Wv]at hr
  split at hr
  ·rename_i d' h1
   cases hr
   exact h.rd hd h1
  ·cases hr
 | d::e::r,hr =>
  cases hd with
  | gz _ vs hl hh =>
   have hR:=h.rds (⟨hl,hh⟩:qM κ (d::e::r) vs) hr
   simp only[Wv]at hr
   split at hr
   ·split at hr
    ·rename_i r' h2
     cases hr
     split at h2
     ·split at h2
      ·cases h2; exact .gz _ vs hR.1 hR.2
      ·cases h2
     ·cases h2
    ·cases hr
   ·cases hr
theorem Zp{α β:Type}{l:List α}{m:List β}(h:l.length=m.length):∀ {mp:List Nat} {r:List α},iu l mp=some r->∃ q,iu m mp=some q
 | [],_,_=>⟨[],rfl⟩
 | b::mp,r,hr=>by
  simp only[iu]at hr
  split at hr
  ·rename_i x hx
   split at hr
   ·rename_i y hy
    obtain⟨q,hq⟩:=Zp h hy
    have hb:b<m.length:=by have:=(List.getElem?_eq_some_iff.1 hx).1; omega
    exact⟨m[b]::q,by simp only[iu,List.getElem?_eq_getElem hb,hq]⟩
   ·cases hr
  ·cases hr
theorem kQ.z84{Dr:z03}(zb9:∀ {g a w} {R R':Ending->World->Prop},Dr g a w R->(∀ e w',R e w'->R' e w')->Dr g a w R'){g:Nat}{d:kQ}(h:gy Dr g d):zfG Dr g d.S:=by
 intro κ args zJ rs zx hl hI ha
 have TI:Rel κ zJ.length (wL args 0).get { tmps:=zJ.toArray,defers:=[] }:=by
  have:=QF (n:=zJ.length) ha (by rw[ha.1]; exact Nat.le_refl _)
  simpa[show(Ku.df:List Deferred)=[]from rfl]using this
 obtain⟨κ0,w1,w2,w3,w4,w5⟩:=lU d.yv (wL args 0) κ hI TI
 unfold kQ.S at hl
 rw[<- w2]at hl
 split at hl
 ·exact hl.elim
 ·rename_i mp Ts
  cases hc:gu mp&&Nat.ble mp.length d.sh.bs.length&&Nat.beq args.length d.ks.length with
  | false=>rw[hc]at hl; exact hl.elim
  | true =>
   rw[hc,cond_true]at hl
   simp only[Bool.and_eq_true]at hc
   obtain⟨⟨hn,hle⟩,hlen⟩:=hc
   unfold kQ.inner at hl
   split at hl
   ·exact hl.elim
   ·rename_i l V4
    split at hl
    ·exact hl.elim
    ·rename_i b9 hst1
     obtain⟨x,h1,hl⟩:=T.ze.1 hl
     obtain⟨y,h2,hl⟩:=T.ze.1 hl
     obtain⟨p1,hpp⟩:=Zp (m:=κ0.ph) w3.len.symm V4
     obtain⟨s1,s2,s3,s4,s5⟩:=EA w3 hn hpp V4 hst1
     have Ge:Rel ⟨κ0.w,κ0.ok,p1,b9⟩ zJ.length (tH (pos mp) (gh d.yv (wL args 0) κ.st).1).get { tmps:=zJ.toArray,defers:=[] } :=
      ⟨w5.size,w5.defers,λs d' hd=>by
       obtain⟨d0,q1,q2⟩:=sS hd
       obtain⟨v,q3,q4⟩:=w5.get s d0 q1
       exact⟨v,q3,s2.rd q4 q2⟩⟩
     obtain⟨κ2,u1,u2,u3,u4,u5,_⟩:=d.sh.ZW (κ0:=⟨κ0.w,κ0.ok,p1,b9⟩) (κ:=⟨κ0.w,κ0.ok,p1,b9⟩) (Ext.refl _) s1 Ge (by show b9.length<=_; rw[s3]; exact Nat.le_of_ble_eq_true hle) h1
     have hw:κ2.w=κ.w:=u1.trans w1
     have hdo:=h κ2 x zJ y u2 h2 u3 (by rw[<- ha.1]; exact Nat.eq_of_beq_eq_true hlen) u5
     rw[hw]at hdo
     refine zb9 hdo ?_
     rintro e w' ⟨κ3,ds,rfl,g1,g2,g3,g4,v,rfl,g5⟩
     unfold kQ.back at hl
     rw[g4,<- g1]at hl
     split at hl
     ·rename_i ds0 k9 e1 e2
      cases e1
      split at hl
      ·rename_i KN hds'
       cases hl
       obtain⟨κ',k1,k2,k3,k4,k5⟩:=GA w3 hn hpp V4 hst1 g2 (u4.trans g3) e2
       exact⟨κ',k1,k2,k3,w4.trans k4,v,rfl,Mx k5 g5 hds'⟩
      ·exact hl.elim
     ·exact hl.elim
theorem kQ.snd{P:Program}{g:Nat}{d:kQ}(h:qQ P g d):Bu P g d.S:=kQ.z84 (Dr:=j6 P) j6.mono h
structure l9 where
 ks:List AK
 sh:vG
 yv:List Gh
 out:vG
 nr:Nat
 pt:Nat
 ye:vG
 F:sh.den->T (out.den⊕ye.den)
abbrev l9.s(d:l9):kQ:=⟨d.ks,d.sh,d.yv,d.out,d.nr,λ_=>.fail⟩
def l9.Tz{α:Type}(d:l9)(mp:List Nat)(st:St)(z:d.ye.den)(kp:D->St->T α):T α:=match(d.ye.fr z).get 0,o5 (λj=>some (fwd mp st.length j)) (d.ye.st z)with
 | some (.zC τ x),some k9=>kp (.iface d.pt (.zC τ x)) (wD mp st k9)
 | _,_=>.fail
def l9.rV{α:Type}(d:l9)(mp:List Nat)(fr:Fr)(st:St)(k:List D->St->T α)(kp:D->St->T α):T α:=match iu st mp with
 | none=>.fail
 | some l=>match o5 (pos mp) l with
  | none=>.fail
  | some b9=>(d.sh.un (tH (pos mp) fr) b9).bind λx=>(d.F x).bind (Sum.elim (λy=>d.s.JQ mp st y k) (λz=>d.Tz mp st z kp))
def l9.K{α:Type}(d:l9)(args:List D)(st:St)(k:List D->St->T α)(kp:D->St->T α):T α :=
 match mapOf d.sh (gh d.yv (wL args 0) st).1 (gh d.yv (wL args 0) st).2 with
 | none=>.fail
 | some mp=>bif gu mp&&Nat.ble mp.length d.sh.bs.length&&Nat.beq args.length d.ks.length then d.rV mp (gh d.yv (wL args 0) st).1 (gh d.yv (wL args 0) st).2 k kp else .fail
def l9.S(d:l9)(args:List D)(st:St):T (Gy×St):=d.K args st (λds zx=>.ret (.ret ds,zx)) (λp zx=>.ret (.ye p,zx))
theorem l9.T7{α:Type}{d:l9}{args:List D}{st:St}{k:List D->St->T α}{kp:D->St->T α}{r:α}(h:(d.K args st k kp).leads r) :
  (∃ ds zx,(d.S args st).leads (.ret ds,zx)/\(k ds zx).leads r)\/∃ p zx,(d.S args st).leads (.ye p,zx)/\(kp p zx).leads r:=by
 unfold l9.K at h
 unfold l9.S l9.K
 split at h
 ·exact h.elim
 ·rename_i mp Ts
  cases hc:gu mp&&Nat.ble mp.length d.sh.bs.length&&Nat.beq args.length d.ks.length with
  | false=>rw[hc]at h; exact h.elim
  | true =>
   rw[hc,cond_true]at h
   unfold l9.rV at h
   unfold l9.rV
   split at h
   ·exact h.elim
   ·rename_i l hl
    split at h
    ·exact h.elim
    ·rename_i b9 hst1
     obtain⟨x,h1,h⟩:=T.ze.1 h
     obtain⟨y,h2,h⟩:=T.ze.1 h
     cases y with
     | inl y =>
      simp at h
      unfold kQ.JQ at h
      split at h
      ·rename_i ds k9 e1 e2
       split at h
       ·rename_i KN e3
        refine .inl ⟨KN,_,T.ze.2 ⟨x,h1,T.ze.2 ⟨.inl y,h2,?_⟩⟩,h⟩
        simp
        unfold kQ.JQ
        simp only[e1,e2,e3]
        rfl
       ·exact h.elim
      ·exact h.elim
     | inr z =>
      simp at h
      unfold l9.Tz at h
      split at h
      ·rename_i τ p k9 e1 e2
       refine .inr ⟨_,_,T.ze.2 ⟨x,h1,T.ze.2 ⟨.inr z,h2,?_⟩⟩,h⟩
       simp
       unfold l9.Tz
       simp only[e1,e2]
       rfl
      ·exact h.elim
def yl(P:Program)(g:Nat)(d:l9):Prop:=∀ (κ:KS) (x:d.sh.den) (zJ:List Value) (r:d.out.den⊕d.ye.den),κ.st=d.sh.st x->(d.F x).leads r->Inv κ->zJ.length=d.ks.length ->
 Rel κ zJ.length (d.sh.fr x).get { tmps:=zJ.toArray,defers:=[] } ->
 j6 P g zJ.toArray κ.w λe w'=>∃ κ':KS,κ'.w=w'/\Inv κ'/\Ext κ κ' /\
  ((∃ (y:d.out.den) (ds:List D),r=.inl y/\κ'.st=d.out.st y/\gY d.nr (d.out.fr y)=some ds/\wW κ' (.ret ds) e) \/
   ∃ (z:d.ye.den) (p:D),r=.inr z/\κ'.st=d.ye.st z/\(d.ye.fr z).get 0=some p/\wW κ' (.ye (.iface d.pt p)) e)
theorem l9.snd{P:Program}{g:Nat}{d:l9}(h:yl P g d):Bu P g d.S:=by
 intro κ args zJ rs zx hl hI ha
 have TI:Rel κ zJ.length (wL args 0).get { tmps:=zJ.toArray,defers:=[] }:=by
  have:=QF (n:=zJ.length) ha (by rw[ha.1]; exact Nat.le_refl _)
  simpa[show(Ku.df:List Deferred)=[]from rfl]using this
 obtain⟨κ0,w1,w2,w3,w4,w5⟩:=lU d.yv (wL args 0) κ hI TI
 unfold l9.S l9.K at hl
 rw[<- w2]at hl
 split at hl
 ·exact hl.elim
 ·rename_i mp Ts
  cases hc:gu mp&&Nat.ble mp.length d.sh.bs.length&&Nat.beq args.length d.ks.length with
  | false=>rw[hc]at hl; exact hl.elim
  | true =>
   rw[hc,cond_true]at hl
   simp only[Bool.and_eq_true]at hc
   obtain⟨⟨hn,hle⟩,hlen⟩:=hc
   unfold l9.rV at hl
   split at hl
   ·exact hl.elim
   ·rename_i l V4
    split at hl
    ·exact hl.elim
    ·rename_i b9 hst1
     obtain⟨x,h1,hl⟩:=T.ze.1 hl
     obtain⟨y,h2,hl⟩:=T.ze.1 hl
     obtain⟨p1,hpp⟩:=Zp (m:=κ0.ph) w3.len.symm V4
     obtain⟨s1,s2,s3,s4,s5⟩:=EA w3 hn hpp V4 hst1
     have Ge:Rel ⟨κ0.w,κ0.ok,p1,b9⟩ zJ.length (tH (pos mp) (gh d.yv (wL args 0) κ.st).1).get { tmps:=zJ.toArray,defers:=[] } :=
      ⟨w5.size,w5.defers,λs d' hd=>by
       obtain⟨d0,q1,q2⟩:=sS hd
       obtain⟨v,q3,q4⟩:=w5.get s d0 q1
       exact⟨v,q3,s2.rd q4 q2⟩⟩
     obtain⟨κ2,u1,u2,u3,u4,u5,_⟩:=d.sh.ZW (κ0:=⟨κ0.w,κ0.ok,p1,b9⟩) (κ:=⟨κ0.w,κ0.ok,p1,b9⟩) (Ext.refl _) s1 Ge (by show b9.length<=_; rw[s3]; exact Nat.le_of_ble_eq_true hle) h1
     have hw:κ2.w=κ.w:=u1.trans w1
     have hdo:=h κ2 x zJ y u2 h2 u3 (by rw[<- ha.1]; exact Nat.eq_of_beq_eq_true hlen) u5
     rw[hw]at hdo
     refine hdo.mono ?_
     rintro e w' ⟨κ3,rfl,g2,g3,⟨y,ds,rfl,g1,g4,v,rfl,g5⟩ | ⟨z,p,rfl,g1,g4,v,rfl,g5⟩⟩
     ·simp only[Sum.elim_inl]at hl
      unfold kQ.JQ at hl
      rw[show gY d.s.nr (d.s.out.fr y)=some ds from g4,show d.s.out.st y=κ3.st from g1.symm]at hl
      split at hl
      ·rename_i ds0 k9 e1 e2
       cases e1
       split at hl
       ·rename_i KN hds'
        cases hl
        obtain⟨κ',k1,k2,k3,k4,k5⟩:=GA w3 hn hpp V4 hst1 g2 (u4.trans g3) e2
        exact⟨κ',k1,k2,k3,w4.trans k4,v,rfl,Mx k5 g5 hds'⟩
       ·exact hl.elim
      ·exact hl.elim
     ·simp only[Sum.elim_inr]at hl
      unfold l9.Tz at hl
      rw[g4,<- g1]at hl
      split at hl
      ·rename_i τ q k9 e1 e2
       cases e1
       cases hl
       obtain⟨κ',k1,k2,k3,k4,k5⟩:=GA w3 hn hpp V4 hst1 g2 (u4.trans g3) e2
       refine⟨κ',k1,k2,k3,w4.trans k4,v,rfl,?_⟩
       cases g5 with
       | iface _ _ u hu=>exact .iface _ _ u (k5.rd hu rfl)
      ·exact hl.elim
end Go.AM
namespace Go.AM
def Hk(sh:vG)(yv:List Gh)(args:List D)(st:St):List Nat:=bif yv.isEmpty then match mapOf sh (wL args 0) st with | some mp=>others st.length mp | none=>[]else[]
def kQ.free(d:kQ)(args:List D)(st:St):List Nat:=Hk d.sh d.yv args st
def l9.free(d:l9)(args:List D)(st:St):List Nat:=Hk d.sh d.yv args st
theorem CH{m b:Nat}{l:List Nat}(h:b∈others m l):b<m/\∀ x∈l,b≠x:=by
 simp only[others,List.mem_filter,List.mem_range,Bool.not_eq_true',List.any_eq_false]at h
 exact⟨h.1,λx hx e=>by subst e; exact h.2 b hx (Nat.beq_refl _)⟩
theorem BU:∀ {mp:List Nat} {b:Nat},(∀ x∈mp,b≠x)->pos mp b=none
 | [],_,_=>rfl
 | x::r,b,h=>by
  simp only[pos]
  rw[show Nat.beq x b=false from by cases hb:Nat.beq x b with | false=>rfl | true=>exact absurd (Nat.eq_of_beq_eq_true hb).symm (h x List.mem_cons_self),cond_false,BU λy hy=>h y (List.mem_cons_of_mem _ hy)]
theorem Um{sh:vG}{yv:List Gh}{args:List D}{st:St}{b:Nat}(hb:b∈Hk sh yv args st):yv=[]/\∃ mp,mapOf sh (wL args 0) st=some mp/\b<st.length/\pos mp b=none:=by
 unfold Hk at hb
 cases hn:yv.isEmpty with
 | false=>grind
 | true =>
  rw[hn,cond_true]at hb
  refine⟨List.isEmpty_iff.1 hn,?_⟩
  split at hb
  ·rename_i mp Ts
   obtain⟨h1,h2⟩:=CH hb
   exact⟨mp,Ts,h1,BU h2⟩
  ·cases hb
theorem kQ.Q2{d:kQ}{args:List D}{st zx:St}{rs:Gy}{b:Nat}(h:(d.S args st).leads (rs,zx))(hb:b∈d.free args st):zx[b]? = st[b]? := by
 obtain⟨hn,mp,Ts,qD,Zr⟩:=Um hb
 unfold kQ.S at h
 rw[hn]at h
 simp only[gh,Ts]at h
 cases hc:gu mp&&Nat.ble mp.length d.sh.bs.length&&Nat.beq args.length d.ks.length with
 | false=>rw[hc]at h; exact h.elim
 | true =>
  rw[hc,cond_true]at h
  unfold kQ.inner at h
  split at h
  ·exact h.elim
  ·split at h
   ·exact h.elim
   ·obtain⟨x,_,h⟩:=T.ze.1 h
    obtain⟨y,_,h⟩:=T.ze.1 h
    unfold kQ.back at h
    split at h
    ·split at h
     ·cases h; exact mo qD Zr
     ·exact h.elim
    ·exact h.elim
theorem l9.Q2{d:l9}{args:List D}{st zx:St}{rs:Gy}{b:Nat}(h:(d.S args st).leads (rs,zx))(hb:b∈d.free args st):zx[b]? = st[b]? := by
 obtain⟨hn,mp,Ts,qD,Zr⟩:=Um hb
 unfold l9.S l9.K at h
 rw[hn]at h
 simp only[gh,Ts]at h
 cases hc:gu mp&&Nat.ble mp.length d.sh.bs.length&&Nat.beq args.length d.ks.length with
 | false=>rw[hc]at h; exact h.elim
 | true =>
  rw[hc,cond_true]at h
  unfold l9.rV at h
  split at h
  ·exact h.elim
  ·split at h
   ·exact h.elim
   ·obtain⟨x,_,h⟩:=T.ze.1 h
    obtain⟨y,_,h⟩:=T.ze.1 h
    cases y with
    | inl y =>
     simp at h
     unfold kQ.JQ at h
     split at h
     ·split at h
      ·cases h; exact mo qD Zr
      ·exact h.elim
     ·exact h.elim
    | inr z =>
     simp at h
     unfold l9.Tz at h
     split at h
     ·cases h; exact mo qD Zr
     ·exact h.elim
end Go.AM
namespace Go.AM
def ZH.den:ZH->Type
 | .ty τ=>AM.den τ
 | .rp τ=>AM.den τ
 | .xk _ caps=>bc caps
def ym:List ZH->Type
 | []=>Unit
 | [p]=>p.den
 | p::q::r=>p.den×ym (q::r)
def mkP:(p:ZH)->p.den->D
 | .ty τ,x=>.zC τ x
 | .rp τ,x=>.xe τ x
 | .xk f caps,x=>.xk f (mG caps x)
def Xr:(l:List ZH)->ym l->List D
 | [],_=>[]
 | [p],x=>[mkP p x]
 | p::q::r,x=>mkP p x.1::Xr (q::r) x.2
def QE:(l:List Ty)->Bt l->List D
 | [],_=>[]
 | [τ],x=>[.zC τ x]
 | τ::σ::r,x=>.zC τ x.1::QE (σ::r) x.2
def rpX(st:St)(τ:Ty):D->T (den τ)
 | .xe _ x=>match(vN x:Option (den τ))with | some y=>.ret y | none=>.fail
 | .ptr b off=>match st[b]? with
  | some (.var d)=>match bif Nat.beq off 0 then fk τ d else none with | some y=>.ret y | none=>.fail
  | _=>.fail
 | _=>.fail
def z43(st:St):(p:Xw)->D->T (den p.ty)
 | .im τ,d=>Q3 st τ d
 | .rp τ,d=>rpX st τ d
def LY(st:St):(l:List Xw)->List D->T (bc l)
 | [],[]=>.ret ()
 | [p],[d]=>z43 st p d
 | p::q::r,d::ds=>(z43 st p d).bind λx=>(LY st (q::r) ds).bind λy=>.ret (x,y)
 | _,_=>.fail
def unP(st:St):(p:ZH)->D->T p.den
 | .ty τ,d=>Q3 st τ d
 | .rp τ,d=>rpX st τ d
 | .xk f caps,d=>match d with
  | .xk f' l=>bif Nat.beq f f' then LY st caps l else .fail
  | _=>.fail
def Dx(st:St):(l:List ZH)->List D->T (ym l)
 | [],[]=>.ret ()
 | [p],[d]=>unP st p d
 | p::q::r,d::ds=>(unP st p d).bind λx=>(Dx st (q::r) ds).bind λy=>.ret (x,y)
 | _,_=>.fail
def RW(st:St):(l:List Ty)->List D->T (Bt l)
 | [],[]=>.ret ()
 | [τ],[d]=>Q3 st τ d
 | τ::σ::r,d::ds=>(Q3 st τ d).bind λx=>(RW st (σ::r) ds).bind λy=>.ret (x,y)
 | _,_=>.fail
structure Dc where
 ps:List ZH
 rs:List Ty
 F:ym ps->T (Bt rs)
def z7a:ZH->D->Bool
 | .xk f _,d=>match d with | .xk f' _=>Nat.beq f f' | _=>false
 | _,d=>match d with | .xk _ _=>false | _=>true
def fits:List ZH->List D->Bool
 | [],[]=>true
 | p::ps,d::ds=>z7a p d&&fits ps ds
 | _,_=>false
def z7J:AK->D->Bool
 | .any,d=>match d with | .xk _ _=>false | _=>true
 | .cur,d=>match d with | .ms .. => true | .xE=>true | _=>false
 | .sub,d=>match d with | .ms .. => true | _=>false
 | .ptr,d=>match d with | .ptr .. => true | _=>false
 | .xk f,d=>match d with | .xk f' _=>Nat.beq f f' | _=>false
def o8:List AK->List D->Bool
 | [],[]=>true
 | p::ps,d::ds=>z7J p d&&o8 ps ds
 | _,_=>false
inductive FnE where
 | d (x:Dc)
 | s (x:kQ)
 | p (x:l9)
def FnE.fits:FnE->List D->Bool
 | .d x,l=>AM.fits x.ps l
 | .s x,l=>o8 x.ks l
 | .p x,l=>o8 x.ks l
abbrev ez:=List (Nat×FnE)
def ez.find:ez->Nat->List D->Option FnE
 | [],_,_=>none
 | (g',d)::r,g,args=>bif Nat.beq g' g&&d.fits args then some d else ez.find r g args
abbrev Sm:=List D->St->T (Gy×St)
def Dc.S(d:Dc):Sm:=λargs st=>match st with
 | []=>(Dx [] d.ps args).bind λx=>(d.F x).bind λy=>.ret (.ret (QE d.rs y),[])
 | _=>.fail
def ez.call(tab:ez)(g:Nat)(args:List D)(st:St):T (Gy×St):=match tab.find g args with | some (.d d)=>d.S args st | some (.s d)=>d.S args st | some (.p d)=>d.S args st | none=>.fail
def ez.free(tab:ez)(g:Nat)(args:List D)(st:St):List Nat:=match tab.find g args with | some (.s d)=>d.free args st | some (.p d)=>d.free args st | _=>[]
theorem ez.Q2(tab:ez)(g:Nat)(args:List D)(st:St)(rs:Gy)(zx:St)(b:Nat)(h:(tab.call g args st).leads (rs,zx))(hb:b∈tab.free g args st):zx[b]? = st[b]? := by
 unfold ez.call at h
 unfold ez.free at hb
 split at hb
 ·rename_i d hd; rw[hd]at h; exact kQ.Q2 h hb
 ·rename_i d hd; rw[hd]at h; exact l9.Q2 h hb
 ·cases hb
def uE(P:Program)(xid:Nat)(tab:ez)(ro:Nat->Bool):Ctx :=
 { P,xid,ro,sig:=λg args=>match tab.find g args with | some (.d d)=>some ⟨d.ps,d.rs⟩ | _=>none,fn:=tab.call,free:=tab.free,Rg:=tab.Q2 }
def z4z{α:Type}(tab:ez)(g:Nat)(args:List D)(st:St)(k:Nat->Option D->St->T α)(kp:D->St->T α):T α:=match tab.find g args with
 | none=>.fail
 | some (.d d)=>bif !(args.any Jr)then(Dx [] d.ps args).bind λx=>(d.F x).bind λy=>k 0 (some (yS (QE d.rs y))) st
  else(Dx st d.ps args).bind λx=>(d.F x).bind λy=>bif (QE d.rs y).all s7 then k 1 (some (yS (QE d.rs y))) st else .fail
 | some (.s d)=>d.K args st λds zx=>k 2 (some (yS ds)) zx
 | some (.p d)=>d.K args st (λds zx=>k 2 (some (yS ds)) zx) kp
def GV{α:Type}(tab:ez)(f:Option D)(args:List (Option D))(st:St)(k:Nat->Option D->St->T α)(kp:D->St->T α):T α:=match f,uY args with
 | some (.xk g caps),some l=>z4z tab (yZ g) (jT g l caps) st k kp
 | _,_=>.fail
def dL(l:List Nat):Fr:=l.map λs=>(s,none)
def dstsOf:List Oper->List Nat
 | []=>[]
 | o::r=>match o.dst with | some t=>t::dstsOf r | none=>dstsOf r
def qw:Code->List Nat
 | .region _ ops _=>dstsOf ops.toList
 | .seq a b=>qw a++qw b
 | .cond _ a b=>qw a++qw b
 | .block _ a=>qw a
 | .loop a=>qw a
 | _=>[]
structure zW where
 gh:List Gh
 ps:List It
 sh:vG
 ws:List Way
 F:vu ps->sh.den->T (hJ ws)
inductive z1C where
 | flat (ox:List It)
 | ways (ws:List Way)
 | z9w
structure Hints where
 loop:Nat->Option zW
 cut:Nat->Nat->Option z1C
 frz:Nat->List Nat
def eT:Code->Option Nat
 | .region id _ _=>some id
 | .seq a b=>match eT a with | some n=>some n | none=>eT b
 | .cond _ a b=>match eT a with | some n=>some n | none=>eT b
 | .block _ a=>eT a
 | .loop a=>eT a
 | _=>none
def keyOf(x:Code):Nat×Nat:=(match x with | .region .. => 0 | .cond .. => 1 | .block .. => 2 | _=>3,match eT x with | some n=>n | none=>0)
def z5x(l:List Nat)(s:Nat):Bool := !(l.any (Nat.beq s))
def Vz:Dk->Bool
 | .sub _ _=>false
 | .st _=>false
 | .mclo _ _=>false
 | _=>true
def F8(ps:List It)(ws:List Nat):Bool:=ps.all λi=>match i with
 | .s t k=>Vz k&&z5x ws t
 | _=>false
def B6{α:Type}:T α->Option α
 | .ret a=>some a
 | .ite _ t e=>match B6 t with | some a=>some a | none=>B6 e
 | .zy _ t=>B6 t
 | .fail=>none
def Dl{α β:Type}(f:α->β):T α->T β
 | .ret a=>.ret (f a)
 | .ite b t e=>.ite b (Dl f t) (Dl f e)
 | .zy p t=>.zy p (Dl f t)
 | .fail=>.fail
def OK:(l:List It)->vu l->T (vu l)->vu l
 | [],_,_=>()
 | [_],d,t=>T.val d t
 | _::j::r,d,t=>(T.val d.1 (Dl Prod.fst t),OK (j::r) d.2 (Dl Prod.snd t))
def Tq(l:List It)(t:T (vu l)):T (vu l):=match B6 t with
 | some d=>match t.Qm with
  | none=>.ret (OK l d t)
  | some p=>.zy p (.ret (OK l d t))
 | none=>.fail
def Gk(l:List It):Bool:=l.all λi=>match i with
 | .s _ k=>Vz k
 | _=>false
structure F5 where
 ex:Ex
 fr:Fr
 kn:Kn
 st:St
 q:Bool      -- the store has not been written
def quiet(ks:List Nat):Bool:=ks.all λk => !(Nat.beq k 2)
structure zbo where
 e:Ty
 l:List (den e)
 m:Nat
 s:Nat
 c:Nat
 eq:Bool
def PA:BinOp->Option Bool
 | .eql=>some true
 | .neq=>some false
 | _=>none
def Fp:Operand->Bool
 | .const (.slice none 0 0)=>true
 | _=>false
def HO(c:Ctx)(n:Nat)(ops:Array Oper)(fr:Fr):Option zbo:=match ops.toList with
 | [o1,o2]=>match o1.dst,o1.op,o1.guard with
  | some m,.move (.tmp s),none=>match o2.dst,o2.op,o2.guard with
   | some cc,.binOp op t (.tmp m') y _,none=>match PA op,fr.get s,il c t with
    | some b,some (.zC (.sl e) l),some _=>bif Nat.beq m m'&&Fp y&&Nat.blt m n&&Nat.blt cc n then some ⟨e,l,m,s,cc,b⟩else none
    | _,_,_=>none
   | _,_,_=>none
  | _,_,_=>none
 | _=>none
def opsOf:Code->Option (Array Oper)
 | .region _ ops false=>some ops
 | _=>none
section
variable (c:Ctx) (tab:ez)
variable [tn]
def ss{α:Type}(n:Nat)(o:Oper)(s:dU)(k:dU->T α)(kp:D->St->T α):T α :=
 bif uk n o.dst then match o.op with
  | .call cl=>match cl.callee with
   | .value f=>GV tab (jc s.fr f) (cl.args.toList.map (jc s.fr)) s.st (λkd d zx=>k ⟨s.fr.put o.dst d,Kq s.kn o.dst none,zx,kd::s.ks,wz c (jc s.fr) s.st o::s.bk⟩) kp
   | _=>let cl:=nW c s.kn s.fr o
    (zR cl s.st).bind λr=>k ⟨s.fr.put o.dst r.1,Kq s.kn o.dst (Kc s.kn o.op),r.2,cl.kind::s.ks,wz c (jc s.fr) s.st o::s.bk⟩
  | .panic x=>match jc s.fr x with
   | some (.iface t d)=>kp (.iface t d) s.st
   | _=>.fail
  | _=>let cl:=nW c s.kn s.fr o
   (zR cl s.st).bind λr=>k ⟨s.fr.put o.dst r.1,Kq s.kn o.dst (Kc s.kn o.op),r.2,cl.kind::s.ks,wz c (jc s.fr) s.st o::s.bk⟩
 else .fail
def I2{α:Type}(n:Nat)(ops:Array Oper)(o:Oper)(s:dU)(k:dU->T α)(kp:D->St->T α):T α:=match o.guard with
 | none=>ss c tab n o s k kp
 | some (j,want)=>match jb ops j with
  | none=>.fail
  | some t=>match s.kn.get t with
   | some b=>bif b==want then ss c tab n o s k kp else bif uk n o.dst then k (jV o s)else .fail
   | none=>match s.fr.get t with
    | some (.zC .bool x)=>bif uk n o.dst then
      .ite x (bif want then ss c tab n o (s.ca t true) k kp else k (jV o (s.ca t true)))
          (bif want then k (jV o (s.ca t false))else ss c tab n o (s.ca t false) k kp)
     else .fail
    | some (.gz [])=>bif uk n o.dst then k (jV o s)else .fail
    | _=>.fail
def VM{α:Type}(n:Nat)(ops:Array Oper):List Oper->dU->(dU->T α)->(D->St->T α)->T α
 | [],s,k,_=>k s
 | o::l,s,k,kp=>I2 c tab n ops o s (λs'=>VM n ops l s' k kp) kp
def J0{α:Type}(n:Nat)(ops:Array Oper)(draw:Bool)(fr:Fr)(kn:Kn)(st:St)(k:dU->T α)(kp:D->St->T α):T α :=
 VM c tab n ops ops.toList ⟨fr,kn,st,[],[]⟩ (λs=>bif !draw||ZB ops s.ks.reverse s.bk.reverse then k s else .fail) (λd zx=>bif draw then .fail else kp d zx)
def ZI(n:Nat)(H:Hints):Code->Fr->Kn->St->{α:Type}->(F5->T α)->T α
 | .skip,fr,kn,st,_,k=>k ⟨.normal,fr,kn,st,true⟩
 | .region id ops draw,fr,kn,st,_,k=>(frz (H.frz id) fr st).bind λz=>J0 c tab n ops draw z.1 kn z.2 (λs=>k ⟨.normal,s.fr,s.kn,s.st,quiet s.ks&&(H.frz id).isEmpty⟩) (λd zx=>k ⟨.ye d,[],[],zx,false⟩)
 | .seq a b,fr,kn,st,_,k=>match H.cut (keyOf a).1 (keyOf a).2 with
  | none=>ZI n H a fr kn st λr=>match r.ex with
   | .normal=>ZI n H b r.fr r.kn r.st λo=>k { o with q:=r.q&&o.q }
   | _=>k r
  | some (.flat ox)=>bif Gk ox then
    (Tq ox (ZI n H a fr kn st λo=>match o.ex with
     | .normal=>bif o.q then Yb o.fr o.st ox []else .fail
     | _=>.fail)).bind λx=>ZI n H b (fq st ox x++(dL (qw a)++fr)) [] st k
   else .fail
  | some .z9w=>match opsOf a with
   | none=>.fail
   | some ops=>match HO c n ops fr with
    | none=>.fail
    | some p =>
     let non:=ZI n H b ((p.c,some (.zC .bool (!p.eq)))::(p.m,some (.zC (.sl p.e) p.l))::fr) [(p.c,some (!p.eq))] st k
     .zy (p.l=[]->∀ r,non.leads r->(ZI n H b ((p.c,some (.zC .bool p.eq))::(p.m,some .xE)::(p.s,some .xE)::fr) [(p.c,some p.eq)] st k).leads r) non
  | some (.ways ws)=>bif ws.all λw=>Nat.ble st.length w.sh.bs.length then
    (ZI n H a fr kn st λo=>GY ws o.ex (KL o.ex o.fr) o.st).bind λr=>MV ws r λex out zx=>match CN ex out with
     | none=>.fail
     | some z=>match z.1 with
      | .normal=>ZI n H b (z.2++(dL (qw a)++fr)) [] zx λo=>k { o with q:=false }
      | e=>k ⟨e,z.2++(dL (qw a)++fr),[],zx,false⟩
   else .fail
 | .cond x a b,fr,kn,st,_,k=>match dH kn x with
  | some true=>ZI n H a fr kn st k
  | some false=>ZI n H b fr kn st k
  | none=>match x with
   | .tmp t=>match fr.get t with
    | some (.zC .bool v)=>.ite v (ZI n H a fr ((t,some true)::kn) st k) (ZI n H b fr ((t,some false)::kn) st k)
    | _=>.fail
   | _=>.fail
 | .block id (.loop b),fr,_,st,_,k=>match H.loop id with
  | none=>.fail
  | some l=>let g:=gh l.gh fr st
   bif Nat.ble g.2.length l.sh.bs.length&&F8 l.ps (qw b)&&l.ws.all λw=>Nat.ble l.sh.bs.length w.sh.bs.length then
    (Yb g.1 g.2 l.ps []).bind λp=>(l.sh.un g.1 g.2).bind λs=>(l.F p s).bind λr=>MV l.ws r λex out zx=>match CN ex out with
     | none=>.fail
     | some z=>match z.1 with
      | .exit id'=>bif Nat.beq id' id then k ⟨.normal,z.2++(dL (qw b)++g.1),[],zx,false⟩else k ⟨.exit id',z.2++(dL (qw b)++g.1),[],zx,false⟩
      | .normal=>.fail
      | e=>k ⟨e,z.2++(dL (qw b)++g.1),[],zx,false⟩
   else .fail
 | .block id a,fr,kn,st,_,k=>ZI n H a fr kn st λr=>match r.ex with
  | .exit id'=>bif Nat.beq id' id then k { r with ex:=.normal } else k r
  | _=>k r
 | .exit id,fr,kn,st,_,k=>k ⟨.exit id,fr,kn,st,true⟩
 | .ret,fr,kn,st,_,k=>k ⟨.ret,fr,kn,st,true⟩
 | _,_,_,_,_,_=>.fail
def PK(n:Nat)(H:Hints)(l:zW)(b:Code)(p:vu l.ps)(s:l.sh.den):T (l.sh.den⊕hJ l.ws) :=
 ZI c tab n H b (l.sh.fr s++fq (l.sh.st s) l.ps p) [] (l.sh.st s) λo=>match o.ex with
  | .normal=>(l.sh.un o.fr o.st).bind λs'=>.ret (.inl s')
  | e=>(GY l.ws e (KL e o.fr) o.st).bind λr=>.ret (.inr r)
def Sr(H:Hints)(fn:Func)(code:Code)(d:Dc)(x:ym d.ps):T (Bt d.rs) :=
 bif Nat.ble (Xr d.ps x).length fn.ntmps then
  ZI c tab fn.ntmps H code (wL (Xr d.ps x) 0) [] [] λo=>match o.ex with
   | .normal=>(cj c o.fr o.st fn.results.toList).bind λds=>RW o.st d.rs ds
   | .ret=>(cj c o.fr o.st fn.results.toList).bind λds=>RW o.st d.rs ds
   | _=>.fail
 else .fail
def FA(H:Hints)(fn:Func)(code:Code)(d:kQ)(x:d.sh.den):T d.out.den :=
 bif Nat.ble d.ks.length fn.ntmps&&Nat.ble d.sh.bs.length d.out.bs.length then
  ZI c tab fn.ntmps H code (d.sh.fr x) [] (d.sh.st x) λo=>match o.ex with
   | .normal=>(cj c o.fr o.st fn.results.toList).bind λds=>bif Nat.beq ds.length d.nr then(d.out.un (wL ds 0) o.st).bind λy=>bif (gY d.nr (d.out.fr y)).isSome then .ret y else .fail else .fail
   | .ret=>(cj c o.fr o.st fn.results.toList).bind λds=>bif Nat.beq ds.length d.nr then(d.out.un (wL ds 0) o.st).bind λy=>bif (gY d.nr (d.out.fr y)).isSome then .ret y else .fail else .fail
   | _=>.fail
 else .fail
def Ev(H:Hints)(fn:Func)(code:Code)(d:l9)(x:d.sh.den):T (d.out.den⊕d.ye.den) :=
 bif Nat.ble d.ks.length fn.ntmps&&Nat.ble d.sh.bs.length d.out.bs.length&&Nat.ble d.sh.bs.length d.ye.bs.length then
  ZI c tab fn.ntmps H code (d.sh.fr x) [] (d.sh.st x) λo=>match o.ex with
   | .normal=>(cj c o.fr o.st fn.results.toList).bind λds=>bif Nat.beq ds.length d.nr then(d.out.un (wL ds 0) o.st).bind λy=>bif (gY d.nr (d.out.fr y)).isSome then .ret (.inl y)else .fail else .fail
   | .ret=>(cj c o.fr o.st fn.results.toList).bind λds=>bif Nat.beq ds.length d.nr then(d.out.un (wL ds 0) o.st).bind λy=>bif (gY d.nr (d.out.fr y)).isSome then .ret (.inl y)else .fail else .fail
   | .ye p=>match p with
    | .iface t v=>bif Nat.beq t d.pt then(d.ye.un [(0,some v)] o.st).bind λz=>match(d.ye.fr z).get 0 with | some _=>.ret (.inr z) | none=>.fail else .fail
    | _=>.fail
   | _=>.fail
 else .fail
end
end Go.AM
namespace Go.AM
set_option linter.unusedSectionVars false
variable [ur]
open Go.RowKit
section
variable {n:Nat}
theorem Pl{st:St}{τ:Ty}{d:D}{x:den τ}(h:(rpX st τ d).leads x):(nS st τ d).leads (.xe τ x):=by
 cases d with
 | xe σ y =>
  simp only[rpX]at h
  simp only[nS]
  cases hy:(vN y:Option (den τ))with
  | none=>rw[hy]at h; exact h.elim
  | some z=>rw[hy]at h; cases h; rfl
 | ptr b off =>
  simp only[rpX]at h
  simp only[nS]
  cases hb:st[b]? with
  | none=>rw[hb]at h; exact h.elim
  | some B =>
   rw[hb]at h
   cases B with
   | var d =>
    simp only at h ⊢
    cases hy:(bif Nat.beq off 0 then fk τ d else none)with
    | none=>rw[hy]at h; exact h.elim
    | some z=>rw[hy]at h; cases h; rfl
   | _=>exact h.elim
 | _=>exact h.elim
theorem Iu{st:St}{p:Xw}{d:D}{x:den p.ty}(h:(z43 st p d).leads x):(ru st p d).leads (YT p x):=by
 cases p with
 | rp τ=>exact Pl h
 | im τ=>exact T.ze.2 ⟨x,h,rfl⟩
theorem E1{st:St}:∀ (l:List Xw) (ds:List D) (x:bc l),(LY st l ds).leads x->(cR st l ds).leads (mG l x)
 | [],[],x,h=>rfl
 | [],_::_,x,h=>h.elim
 | [p],[],x,h=>h.elim
 | [p],[d],x,h=>T.ze.2 ⟨_,Iu h,T.ze.2 ⟨[],rfl,rfl⟩⟩
 | [p],_::_::_,x,h=>h.elim
 | p::q::r,[],x,h=>h.elim
 | p::q::r,d::ds,x,h=>by
  obtain⟨y,h1,h2⟩:=T.ze.1 h
  obtain⟨z,h3,h4⟩:=T.ze.1 h2
  cases h4
  exact T.ze.2 ⟨_,Iu h1,T.ze.2 ⟨_,E1 (q::r) ds z h3,rfl⟩⟩
theorem PV{st:St}{p:ZH}{d:D}{x:p.den}(h:(unP st p d).leads x):(Cq st p d).leads (mkP p x):=by
 cases p with
 | ty τ=>cases d<;>exact T.ze.2 ⟨x,h,rfl⟩
 | rp τ =>
  have:=Pl h
  cases d<;>exact this
 | xk f caps =>
  cases d with
  | xk f' l =>
   simp only[unP]at h
   simp only[Cq]
   cases hb:Nat.beq f f' with
   | false=>rw[hb]at h; exact h.elim
   | true=>rw[hb]at h; exact T.ze.2 ⟨_,E1 caps l x h,rfl⟩
  | _=>exact h.elim
theorem Vr{st:St}:∀ (l:List ZH) (ds:List D) (x:ym l),(Dx st l ds).leads x->(o7 st l ds).leads (Xr l x)
 | [],[],x,h=>rfl
 | [],_::_,x,h=>h.elim
 | [p],[],x,h=>h.elim
 | [p],[d],x,h=>T.ze.2 ⟨_,PV h,T.ze.2 ⟨[],rfl,rfl⟩⟩
 | [p],_::_::_,x,h=>h.elim
 | p::q::r,[],x,h=>h.elim
 | p::q::r,d::ds,x,h=>by
  obtain⟨y,h1,h2⟩:=T.ze.1 h
  obtain⟨z,h3,h4⟩:=T.ze.1 h2
  cases h4
  exact T.ze.2 ⟨_,PV h1,T.ze.2 ⟨_,Vr (q::r) ds z h3,rfl⟩⟩
theorem DO(st:St)(τ:Ty)(x:den τ):(Q3 st τ (.zC τ x)).leads x:=by
 refine T.ze.2 ⟨.zC τ x,rfl,?_⟩
 rw[T.uA]
 exact p8 x
theorem Td(st:St)(τ:Ty)(x:den τ):(rpX st τ (.xe τ x)).leads x:=by
 simp only[rpX]; rw[p8]; rfl
theorem MA(st:St)(p:Xw)(x:den p.ty):(z43 st p (YT p x)).leads x:=by
 cases p with
 | rp τ=>exact Td st τ x
 | im τ=>exact DO st τ x
theorem BQ(st:St):∀ (l:List Xw) (x:bc l),(LY st l (mG l x)).leads x
 | [],_=>rfl
 | [p],x=>MA st p x
 | p::q::r,x=>T.ze.2 ⟨x.1,MA st p x.1,T.ze.2 ⟨x.2,BQ st (q::r) x.2,rfl⟩⟩
theorem Tt(st:St)(p:ZH)(x:p.den):(unP st p (mkP p x)).leads x:=by
 cases p with
 | ty τ=>exact DO st τ x
 | rp τ=>exact Td st τ x
 | xk f caps=>simp only[unP,mkP]; rw[Nat.beq_refl]; exact BQ st caps x
theorem Ht(st:St):∀ (l:List ZH) (x:ym l),(Dx st l (Xr l x)).leads x
 | [],_=>rfl
 | [p],x=>Tt st p x
 | p::q::r,x=>T.ze.2 ⟨x.1,Tt st p x.1,T.ze.2 ⟨x.2,Ht st (q::r) x.2,rfl⟩⟩
def yw:D->Option Nat | .xk f _=>some f | _=>none
theorem z2H(p:ZH){d e:D}(h:yw d=yw e):z7a p d=z7a p e:=by
 cases d<;>cases e<;>simp only[yw]at h<;>first | (cases h; done) | (cases p<;>first | rfl | (cases h; rfl))
theorem LC:∀ (ps:List ZH) {l m:List D},l.map yw=m.map yw->fits ps l=fits ps m
 | [],[],[],_=>rfl
 | [],_::_,_::_,_=>rfl
 | _,[],_::_,h=>by cases h
 | _,_::_,[],h=>by cases h
 | _::_,[],[],_=>rfl
 | p::ps,d::l,e::m,h=>by
  simp at h
  simp only[fits,z2H p h.1,LC ps h.2]
theorem PI{st:St}{τ:Ty}{f:Nat}{l:List D}{x:den τ}(h:(Q3 st τ (.xk f l)).leads x):False:=by
 obtain⟨y,h1,h2⟩:=T.ze.1 h
 cases h1
 rw[T.uA]at h2
 cases τ<;>simp[fk,D.isAgg,Ty.isAgg,qm,jR,fI]at h2
theorem Gi{st:St}{p:ZH}{d:D}{x:p.den}(h:(unP st p d).leads x):yw d=yw (mkP p x):=by
 cases p with
 | ty τ=>cases d<;>first | rfl | exact(PI h).elim
 | rp τ=>cases d<;>first | rfl | exact h.elim
 | xk f caps =>
  cases d with
  | xk f' l =>
   simp only[unP]at h
   cases hb:Nat.beq f f' with
   | false=>rw[hb]at h; exact h.elim
   | true=>rw[Nat.eq_of_beq_eq_true hb]; rfl
  | _=>exact h.elim
theorem Ja{st:St}:∀ (l:List ZH) (ds:List D) (x:ym l),(Dx st l ds).leads x->ds.map yw=(Xr l x).map yw
 | [],[],x,h=>rfl
 | [],_::_,x,h=>h.elim
 | [p],[],x,h=>h.elim
 | [p],[d],x,h=>by show[yw d]=[yw (mkP p x)]; rw[Gi h]
 | [p],_::_::_,x,h=>h.elim
 | p::q::r,[],x,h=>h.elim
 | p::q::r,d::ds,x,h=>by
  obtain⟨y,h1,h2⟩:=T.ze.1 h
  obtain⟨z,h3,h4⟩:=T.ze.1 h2
  cases h4
  show yw d::ds.map yw=yw (mkP p y)::(Xr (q::r) z).map yw
  rw[Gi h1,Ja (q::r) ds z h3]
def dat(d:D):Bool:=match d with | .zC _ _=>true | .xe _ _=>true | .xk _ _=>true | _=>false
theorem LN(p:ZH)(x:p.den):dat (mkP p x)=true:=by cases p<;>rfl
theorem Di:∀ (l:List ZH) (x:ym l),∀ d∈Xr l x,dat d=true
 | [],x,d,h=>by cases h
 | [p],x,d,h=>by have h:d∈[mkP p x]:=h; rw[List.mem_singleton]at h; subst h; exact LN p x
 | p::q::r,x,d,h=>by
  rcases List.mem_cons.1 h with rfl | h
  ·exact LN p x.1
  ·exact Di (q::r) x.2 d h
theorem Tw{a:AK}{d e:D}(h:yw d=yw e)(hd:dat e=true)(hf:z7J a e=true):z7J a d=true:=by
 cases e with
 | zC τ x=>cases a<;>first | (cases hf; done) | (cases d<;>first | rfl | (cases h; done))
 | xe τ x=>cases a<;>first | (cases hf; done) | (cases d<;>first | rfl | (cases h; done))
 | xk f l=>cases a<;>first | (cases hf; done) | (cases d<;>first | (cases h; exact hf) | cases h)
 | _=>cases hd
theorem Xz:∀ {ks:List AK} {l m:List D},l.map yw=m.map yw->(∀ d∈m,dat d=true)->o8 ks m=true->o8 ks l=true
 | [],[],[],_,_,_=>rfl
 | [],_::_,[],h,_,_=>by cases h
 | [],_,_::_,_,_,hf=>by cases hf
 | _::_,_,[],_,_,hf=>by cases hf
 | k::ks,[],_::_,h,_,_=>by cases h
 | k::ks,d::l,e::m,h,hd,hf=>by
  simp at h
  simp only[o8,Bool.and_eq_true]at hf ⊢
  exact⟨Tw h.1 (hd e List.mem_cons_self) hf.1,Xz h.2 (λx hx=>hd x (List.mem_cons_of_mem _ hx)) hf.2⟩
theorem ez.find_eq:∀ (t:ez) (g:Nat) {l m:List D} {d:Dc},l.map yw=m.map yw->(∀ d∈m,dat d=true)->t.find g l=some (.d d)->t.find g m=some (.d d)
 | [],_,_,_,_,_,_,h=>h
 | (g',.d d')::r,g,l,m,d,h,hm,hf=>by
  simp only[ez.find,FnE.fits]at hf ⊢
  rw[<- LC d'.ps h]
  cases hb:Nat.beq g' g&&fits d'.ps l with
  | true=>grind
  | false=>rw[hb,cond_false]at hf; rw[cond_false]; exact ez.find_eq r g h hm hf
 | (g',.s d')::r,g,l,m,d,h,hm,hf=>by
  simp only[ez.find,FnE.fits]at hf ⊢
  cases hb:Nat.beq g' g&&o8 d'.ks l with
  | true=>grind
  | false =>
   rw[hb,cond_false]at hf
   have:(Nat.beq g' g&&o8 d'.ks m)=false:=by
    cases hg:Nat.beq g' g with
    | false=>rfl
    | true =>
     rw[hg]at hb
     cases hk:o8 d'.ks m with
     | false=>rfl
     | true=>rw[Xz h hm hk]at hb; cases hb
   rw[this,cond_false]
   exact ez.find_eq r g h hm hf
 | (g',.p d')::r,g,l,m,d,h,hm,hf=>by
  simp only[ez.find,FnE.fits]at hf ⊢
  cases hb:Nat.beq g' g&&o8 d'.ks l with
  | true=>grind
  | false =>
   rw[hb,cond_false]at hf
   have:(Nat.beq g' g&&o8 d'.ks m)=false:=by
    cases hg:Nat.beq g' g with
    | false=>rfl
    | true =>
     rw[hg]at hb
     cases hk:o8 d'.ks m with
     | false=>rfl
     | true=>rw[Xz h hm hk]at hb; cases hb
   rw[this,cond_false]
   exact ez.find_eq r g h hm hf
theorem ez.ZM:∀ {t:ez} {g:Nat} {l:List D} {d:FnE},t.find g l=some d->(g,d)∈t
 | [],_,_,_,h=>by cases h
 | (g',d')::r,g,l,d,h=>by
  simp only[ez.find]at h
  cases hb:Nat.beq g' g&&d'.fits l with
  | true =>
   rw[hb,cond_true]at h
   cases h
   simp only[Bool.and_eq_true]at hb
   rw[Nat.eq_of_beq_eq_true hb.1]
   simp
  | false=>rw[hb,cond_false]at h; exact List.mem_cons_of_mem _ (ez.ZM h)
def zG(P:Program)(g:Nat)(d:Dc):Prop:=∀ (κ:KS) (x:ym d.ps) (zJ:List Value) (y:Bt d.rs),κ.st=[]->(d.F x).leads y->Inv κ->qM κ (Xr d.ps x) zJ ->
 j6 P g zJ.toArray κ.w λe w'=>∃ κ':KS,κ'.w=w'/\κ'.st=[]/\Inv κ'/\Ext κ κ'/\wW κ' (.ret (QE d.rs y)) e
def DP(P:Program)(g:Nat):FnE->Prop
 | .d d=>zG P g d
 | .s d=>qQ P g d
 | .p d=>yl P g d
def yx(P:Program)(t:ez):Prop:=∀ p∈t,DP P p.1 p.2
theorem N8(P:Program):yx P []:=by nofun
theorem GU{P:Program}{g:Nat}{d:FnE}{t:ez}(h:DP P g d)(ht:yx P t):yx P ((g,d)::t):=by
 intro p hp
 rcases List.mem_cons.1 hp with rfl | hp
 ·exact h
 ·exact ht p hp
theorem Ek{P:Program}{g:Nat}{d:Dc}{t:ez}(h:zG P g d)(ht:yx P t):yx P ((g,.d d)::t):=GU (d:=.d d) h ht
theorem CD{P:Program}{g:Nat}{d:kQ}{t:ez}(h:qQ P g d)(ht:yx P t):yx P ((g,.s d)::t):=GU (d:=.s d) h ht
theorem CR{P:Program}{g:Nat}{d:l9}{t:ez}(h:yl P g d)(ht:yx P t):yx P ((g,.p d)::t):=GU (d:=.p d) h ht
theorem Dc.snd{P:Program}{g:Nat}{d:Dc}(h:zG P g d):Bu P g d.S:=by
 intro κ args zJ rs zx hl hI ha
 unfold Dc.S at hl
 split at hl
 ·rename_i xR
  obtain⟨x,h1,h2⟩:=T.ze.1 hl
  obtain⟨y,h3,h4⟩:=T.ze.1 h2
  cases h4
  exact h κ x zJ y xR h3 hI (W4 ha (Vr _ _ _ h1))
 ·exact hl.elim
theorem H6{P:Program}{xid:Nat}{tab:ez}{ro:Nat->Bool}(h:yx P tab):∀ g,Bu (uE P xid tab ro).P g ((uE P xid tab ro).fn g):=by
 intro g κ args zJ rs zx hl hI ha
 simp only[uE,ez.call]at hl
 split at hl
 ·rename_i d hd
  exact Dc.snd (h _ (ez.ZM hd):DP P g (.d d)) κ args zJ rs zx hl hI ha
 ·rename_i d hd
  exact kQ.snd (h _ (ez.ZM hd):DP P g (.s d)) κ args zJ rs zx hl hI ha
 ·rename_i d hd
  exact l9.snd (h _ (ez.ZM hd):DP P g (.p d)) κ args zJ rs zx hl hI ha
 ·exact hl.elim
section
variable {P:Program} {xid:Nat} {tab:ez} {ro:Nat->Bool} {α:Type}
def MJ(c:Ctx)(f:Option D)(args:List (Option D))(st:St)(d:D)(zx:St):Prop :=
 ∃ g caps l,f=some (.xk g caps)/\uY args=some l/\(c.fn (yZ g) (jT g l caps) st).leads (.ye d,zx)
def IL(c:Ctx)(o:Oper)(s:dU)(d:D)(zx:St):Prop :=
 (∃ x t e,o.op=.panic x/\jc s.fr x=some d/\d=.iface t e/\zx=s.st) \/
 ∃ f args oq,o.op=.call ⟨.value f,args,oq⟩/\MJ c (jc s.fr f) (args.toList.map (jc s.fr)) s.st d zx
theorem FC{f:Option D}{args:List (Option D)}{st:St}{k:Nat->Option D->St->T α}{kp:D->St->T α}{r:α}(h:(GV tab f args st k kp).leads r) :
  (∃ d zx,(zR (dD (uE P xid tab ro) f args) st).leads (d,zx)/\(k (dD (uE P xid tab ro) f args).kind d zx).leads r) \/
  ∃ d zx,MJ (uE P xid tab ro) f args st d zx/\(kp d zx).leads r:=by
 unfold GV at h
 split at h
 ·rename_i g caps l hl
  unfold z4z at h
  split at h
  ·exact h.elim
  ·rename_i d hd
   have O7:(uE P xid tab ro).sig (yZ g) (jT g l caps)=some ⟨d.ps,d.rs⟩:=by simp only[uE]; rw[hd]
   have TN:dD (uE P xid tab ro) (some (.xk g caps)) args=bz (uE P xid tab ro) (yZ g) ⟨d.ps,d.rs⟩ (jT g l caps):=by simp only[dD,hl,O7]
   rw[TN]
   have hfn:∀ {st0:St} (x:ym d.ps) (y:Bt d.rs),(Dx st0 d.ps (jT g l caps)).leads x->(d.F x).leads y->((uE P xid tab ro).fn (yZ g) (Xr d.ps x) []).leads (.ret (QE d.rs y),[]):=by
    intro st0 x y hx hy
    simp only[uE,ez.call]
    rw[ez.find_eq tab (yZ g) (Ja _ _ _ hx) (Di d.ps x) hd]
    exact T.ze.2 ⟨x,Ht [] d.ps x,T.ze.2 ⟨y,hy,rfl⟩⟩
   cases hn : !((jT g l caps).any Jr)with
   | true =>
    rw[hn,cond_true]at h
    obtain⟨x,h1,h2⟩:=T.ze.1 h
    obtain⟨y,h3,h4⟩:=T.ze.1 h2
    have hc:bz (uE P xid tab ro) (yZ g) ⟨d.ps,d.rs⟩ (jT g l caps)=.val ((o7 [] d.ps (jT g l caps)).bind λl=>((uE P xid tab ro).fn (yZ g) l []).bind S0):=by
     unfold bz; rw[hn]; rfl
    rw[hc]
    refine .inl ⟨_,_,T.ze.2 ⟨_,T.ze.2 ⟨_,Vr _ _ _ h1,T.ze.2 ⟨_,hfn x y h1 h3,rfl⟩⟩,rfl⟩,h4⟩
   | false =>
    rw[hn,cond_false]at h
    obtain⟨x,h1,h2⟩:=T.ze.1 h
    obtain⟨y,h3,h4⟩:=T.ze.1 h2
    have hc:bz (uE P xid tab ro) (yZ g) ⟨d.ps,d.rs⟩ (jT g l caps)=.rd λst=>(o7 st d.ps (jT g l caps)).bind λl=>((uE P xid tab ro).fn (yZ g) l []).bind sM:=by
     unfold bz; rw[hn]; rfl
    rw[hc]
    cases hs:(QE d.rs y).all s7 with
    | false=>rw[hs]at h4; exact h4.elim
    | true =>
     rw[hs]at h4
     refine .inl ⟨_,_,T.ze.2 ⟨_,T.ze.2 ⟨_,Vr _ _ _ h1,T.ze.2 ⟨_,hfn x y h1 h3,?_⟩⟩,rfl⟩,h4⟩
     simp only[sM,hs,cond_true]
     rfl
  ·rename_i d hd
   have O7:(uE P xid tab ro).sig (yZ g) (jT g l caps)=none:=by simp only[uE]; rw[hd]
   have TN:dD (uE P xid tab ro) (some (.xk g caps)) args=sY (uE P xid tab ro) (yZ g) (jT g l caps):=by simp only[dD,hl,O7]
   rw[TN]
   obtain⟨ds,zx,h1,h2⟩:=kQ.T7 h
   refine .inl ⟨_,zx,T.ze.2 ⟨(.ret ds,zx),?_,rfl⟩,h2⟩
   simp only[uE,ez.call]
   grind
  ·rename_i d hd
   have O7:(uE P xid tab ro).sig (yZ g) (jT g l caps)=none:=by simp only[uE]; rw[hd]
   have TN:dD (uE P xid tab ro) (some (.xk g caps)) args=sY (uE P xid tab ro) (yZ g) (jT g l caps):=by simp only[dD,hl,O7]
   rw[TN]
   rcases l9.T7 h with⟨ds,zx,h1,h2⟩ | ⟨p,zx,h1,h2⟩
   ·refine .inl ⟨_,zx,T.ze.2 ⟨(.ret ds,zx),?_,rfl⟩,h2⟩
    simp only[uE,ez.call]
    grind
   ·refine .inr ⟨p,zx,⟨g,caps,l,rfl,hl,?_⟩,h2⟩
    simp only[uE,ez.call]
    grind
 ·exact h.elim
theorem mR{o:Oper}{s:dU}{k:dU->T α}{kp:D->St->T α}{r:α}(h:(ss (uE P xid tab ro) tab n o s k kp).leads r) :
  (∃ s',(bn (uE P xid tab ro) n o s).leads s'/\(k s').leads r)\/∃ d zx,IL (uE P xid tab ro) o s d zx/\(kp d zx).leads r:=by
 unfold ss at h
 unfold bn
 cases hd:uk n o.dst with
 | false=>rw[hd]at h; exact h.elim
 | true =>
  rw[hd,cond_true]at h
  rw[cond_true]
  obtain⟨dst,op,ty,pos,after,guard⟩:=o
  have gen:((zR (nW (uE P xid tab ro) s.kn s.fr ⟨dst,op,ty,pos,after,guard⟩) s.st).bind λr=>k ⟨s.fr.put dst r.1,Kq s.kn dst (Kc s.kn op),r.2,(nW (uE P xid tab ro) s.kn s.fr ⟨dst,op,ty,pos,after,guard⟩).kind::s.ks,wz (uE P xid tab ro) (jc s.fr) s.st ⟨dst,op,ty,pos,after,guard⟩::s.bk⟩).leads r ->
    ∃ s',(let cl:=nW (uE P xid tab ro) s.kn s.fr ⟨dst,op,ty,pos,after,guard⟩; (zR cl s.st).bind λr=>T.ret (⟨s.fr.put dst r.1,Kq s.kn dst (Kc s.kn op),r.2,cl.kind::s.ks,wz (uE P xid tab ro) (jc s.fr) s.st ⟨dst,op,ty,pos,after,guard⟩::s.bk⟩:dU)).leads s'/\(k s').leads r:=by
   intro h
   obtain⟨x,h1,h2⟩:=T.ze.1 h
   exact⟨_,T.ze.2 ⟨x,h1,rfl⟩,h2⟩
  cases op with
  | call cl =>
   obtain⟨callee,args,oq⟩:=cl
   cases callee with
   | value f =>
    rcases FC (P:=P) (xid:=xid) (ro:=ro) h with⟨d,zx,h1,h2⟩ | ⟨d,zx,h1,h2⟩
    ·exact .inl ⟨_,T.ze.2 ⟨(d,zx),h1,rfl⟩,h2⟩
    ·exact .inr ⟨d,zx,.inr ⟨f,args,oq,rfl,h1⟩,h2⟩
   | _=>grind
  | panic x =>
   simp only at h
   split at h
   ·rename_i t e hx
    exact .inr ⟨_,_,.inl ⟨x,t,e,rfl,hx,rfl,rfl⟩,h⟩
   ·exact h.elim
  | _=>grind
theorem NL{ops:Array Oper}{o:Oper}{s:dU}{k:dU->T α}{kp:D->St->T α}{r:α}(hkn:vW s.kn s.fr.get)(h:(I2 (uE P xid tab ro) tab n ops o s k kp).leads r) :
  (∃ s',(stepG (uE P xid tab ro) n ops o s).leads s'/\(k s').leads r)\/∃ d zx,wC ops s.fr.get o=some true/\IL (uE P xid tab ro) o s d zx/\(kp d zx).leads r:=by
 obtain⟨dst,op,ty,pos,after,guard⟩:=o
 cases guard with
 | none =>
  rcases mR h with h | ⟨d,zx,h1,h2⟩
  ·exact .inl h
  ·exact .inr ⟨d,zx,rfl,h1,h2⟩
 | some jw =>
  obtain⟨j,want⟩:=jw
  simp only[I2]at h
  simp only[stepG]
  cases hg:jb ops j with
  | none=>rw[hg]at h; exact h.elim
  | some t =>
   rw[hg]at h
   simp only at h ⊢
   cases hk:s.kn.get t with
   | some b =>
    rw[hk]at h
    simp only at h ⊢
    have hw:wC ops s.fr.get ⟨dst,op,ty,pos,after,some (j,want)⟩=some (b==want):=by simp[wC,hg,hkn t b hk]
    cases hb:b==want with
    | true =>
     rw[hb,cond_true]at h; rw[cond_true]
     rcases mR h with h | ⟨d,zx,h1,h2⟩
     ·grind
     ·grind
    | false =>
     rw[hb,cond_false]at h; rw[cond_false]
     cases hd:uk n dst with
     | true=>rw[hd,cond_true]at h; exact .inl ⟨_,rfl,h⟩
     | false=>rw[hd,cond_false]at h; exact h.elim
   | none =>
    rw[hk]at h
    simp only at h ⊢
    split at h
    ·rename_i x hf
     rw[hf]
     simp only
     have hw:wC ops s.fr.get ⟨dst,op,ty,pos,after,some (j,want)⟩=some (x==want):=by simp[wC,hg,hf]
     cases hd:uk n dst with
     | false=>rw[hd]at h; exact h.elim
     | true =>
      rw[hd,cond_true]at h; rw[cond_true]
      rcases h with⟨hx,h⟩ | ⟨hx,h⟩
      ·subst hx
       cases want with
       | true =>
        rw[cond_true]at h
        rcases mR h with⟨s',h1,h2⟩ | ⟨d,zx,h1,h2⟩
        ·exact .inl ⟨s',.inl ⟨rfl,h1⟩,h2⟩
        ·exact .inr ⟨d,zx,hw,h1,h2⟩
       | false=>rw[cond_false]at h; exact .inl ⟨_,.inl ⟨rfl,rfl⟩,h⟩
      ·subst hx
       cases want with
       | true=>rw[cond_true]at h; exact .inl ⟨_,.inr ⟨rfl,rfl⟩,h⟩
       | false =>
        rw[cond_false]at h
        rcases mR h with⟨s',h1,h2⟩ | ⟨d,zx,h1,h2⟩
        ·exact .inl ⟨s',.inr ⟨rfl,h1⟩,h2⟩
        ·exact .inr ⟨d,zx,hw,h1,h2⟩
    ·rename_i hf
     rw[hf]
     simp only
     cases hd:uk n dst with
     | true=>rw[hd,cond_true]at h; exact .inl ⟨_,rfl,h⟩
     | false=>rw[hd,cond_false]at h; exact h.elim
    ·exact h.elim
def I3(c:Ctx)(n:Nat)(ops:Array Oper)(l:List Oper)(s:dU)(d:D)(zx:St):Prop :=
 ∃ pre o post s1,l=pre++o::post/\(lH c n ops pre s).leads s1/\wC ops s1.fr.get o=some true/\IL c o s1 d zx
theorem Zg{ops:Array Oper}:∀ (l:List Oper) {s:dU} {k:dU->T α} {kp:D->St->T α} {r:α},vW s.kn s.fr.get->(∀ o∈l,∃ i:Nat,ops[i]? = some o)->(VM (uE P xid tab ro) tab n ops l s k kp).leads r ->
  (∃ s',(lH (uE P xid tab ro) n ops l s).leads s'/\(k s').leads r)\/∃ d zx,I3 (uE P xid tab ro) n ops l s d zx/\(kp d zx).leads r
 | [],s,k,kp,r,_,_,h=>.inl ⟨s,rfl,h⟩
 | o::l,s,k,kp,r,hk,hl,h=>by
  rcases NL hk h with⟨s1,h1,h2⟩ | ⟨d,zx,h1,h2,h3⟩
  ·obtain⟨i,hi⟩:=hl o List.mem_cons_self
   obtain⟨_,_,hk1,_⟩:=Yf hi hk h1
   rcases Zg l hk1 (λo' ho=>hl o' (List.mem_cons_of_mem _ ho)) h2 with⟨s2,h3,h4⟩ | ⟨d,zx,⟨pre,o',post,s2,e,g1,g2,g3⟩,h4⟩
   ·exact .inl ⟨s2,T.ze.2 ⟨s1,h1,h3⟩,h4⟩
   ·exact .inr ⟨d,zx,⟨o::pre,o',post,s2,by grind,T.ze.2 ⟨s1,h1,g1⟩,g2,g3⟩,h4⟩
  ·exact .inr ⟨d,zx,⟨[],o,l,s,rfl,rfl,h1,h2⟩,h3⟩
theorem KZ{ops:Array Oper}{draw:Bool}{fr:Fr}{kn:Kn}{st:St}{k:dU->T α}{kp:D->St->T α}{r:α}(hk:vW kn fr.get)(h:(J0 (uE P xid tab ro) tab n ops draw fr kn st k kp).leads r) :
  (∃ s',(cI (uE P xid tab ro) n ops draw fr kn st).leads s'/\(k s').leads r)\/∃ d zx,draw=false/\I3 (uE P xid tab ro) n ops ops.toList ⟨fr,kn,st,[],[]⟩ d zx/\(kp d zx).leads r:=by
 rcases Zg _ hk (λo ho=>by obtain⟨i,hi,he⟩:=List.getElem_of_mem ho; exact⟨i,by grind⟩) h with⟨s',h1,h2⟩ | ⟨d,zx,h1,h2⟩
 ·cases hd : !draw||ZB ops s'.ks.reverse s'.bk.reverse with
  | false=>rw[hd]at h2; exact h2.elim
  | true =>
   rw[hd,cond_true]at h2
   refine .inl ⟨s',T.ze.2 ⟨s',h1,?_⟩,h2⟩
   rw[hd]; rfl
 ·cases draw with
  | true=>exact h2.elim
  | false=>grind
end
end
end Go.AM
namespace Go.AM
set_option linter.unusedSectionVars false
variable [ur] [Ku]
open Go.RowKit
theorem UJ{α β:Type}{f:α->β}{t:T α}{x:α}(h:t.leads x):(Dl f t).leads (f x):=by
 induction t with
 | ret a=>exact congrArg f h
 | ite b p q ip iq=>exact eV h (λh=>⟨h.1,ip h.2⟩) (λh=>⟨h.1,iq h.2⟩)
 | zy p t ih=>exact⟨h.1,ih h.2⟩
 | fail=>exact h.elim
theorem L8:∀ (l:List It) (d:vu l) (t:T (vu l)) (x:vu l),t.leads x->OK l d t=x
 | [],_,_,_,_=>rfl
 | [_],d,t,x,h=>((T.UH d t x).1 h).2
 | i::j::r,d,t,x,h=>by
  have h1:=((T.UH d.1 _ _).1 (UJ (f:=Prod.fst) h)).2
  have h2:=L8 (j::r) d.2 _ _ (UJ (f:=Prod.snd) h)
  show(T.val d.1 (Dl Prod.fst t),OK (j::r) d.2 (Dl Prod.snd t))=x
  rw[h1,h2]
  exact rfl
theorem OJ{α:Type}(t:T α)(h:t.Vn):∃ x,t.leads x:=by
 induction t with
 | ret a=>exact⟨a,rfl⟩
 | ite b p q ip iq =>
  unfold T.Vn at h ip iq
  simp only[T.Qm]at h
  cases b with
  | true =>
   obtain⟨x,hx⟩:=ip (by grind)
   exact⟨x,.inl ⟨rfl,hx⟩⟩
  | false =>
   obtain⟨x,hx⟩:=iq (by grind)
   exact⟨x,.inr ⟨rfl,hx⟩⟩
 | zy p t ih =>
  unfold T.Vn at h ih
  simp only[T.Qm]at h
  cases ht:t.Qm with
  | none=>rw[ht]at h ih; obtain⟨x,hx⟩:=ih trivial; exact⟨x,h,hx⟩
  | some q=>rw[ht]at h ih; obtain⟨x,hx⟩:=ih h.2; exact⟨x,h.1,hx⟩
 | fail=>exact h.elim
theorem D3{l:List It}{t:T (vu l)}{x:vu l}(h:(Tq l t).leads x):t.leads x:=by
 unfold Tq at h
 split at h
 ·rename_i d hd
  have key:t.Vn->OK l d t=x->t.leads x:=by
   intro hp hv
   obtain⟨y,hy⟩:=OJ t hp
   rw[<- hv,L8 l d t y hy]; exact hy
  split at h
  ·rename_i hn; exact key (by unfold T.Vn; rw[hn]; trivial) h
  ·rename_i p hn; exact key (by unfold T.Vn; rw[hn]; exact h.1) h.2
 ·exact h.elim
def RIs(ws:List Way)(r:hJ ws)(w:Way)(x:w.sh.den):Prop:=∀ {α:Type} (k:Ex->Fr->St->T α),MV ws r k=k w.ex (w.sh.fr x) (w.sh.st x)
theorem HB:∀ (ws:List Way) (ex:Ex) (fr:Fr) (st:St) (r:hJ ws),(GY ws ex fr st).leads r->∃ w,w∈ws/\∃ x:w.sh.den,RIs ws r w x/\oS w.ex ex=true/\(w.sh.un fr st).leads x
 | [],_,_,_,_,h=>h.elim
 | [w],ex,fr,st,r,h=>by
  have h:(bif oS w.ex ex then w.sh.un fr st else .fail:T w.sh.den).leads r:=h
  cases hs:oS w.ex ex with
  | false=>rw[hs]at h; exact h.elim
  | true=>rw[hs]at h; exact⟨w,by simp,r,λk=>rfl,hs,h⟩
 | w::v::ws,ex,fr,st,r,h=>by
  have h:(bif oS w.ex ex then(w.sh.un fr st).bind λx=>T.ret (Sum.inl x:w.sh.den⊕hJ (v::ws))else(GY (v::ws) ex fr st).bind λy=>T.ret (Sum.inr y)).leads r:=h
  cases hs:oS w.ex ex with
  | true =>
   rw[hs]at h
   obtain⟨x,h1,h2⟩:=T.ze.1 h
   subst h2
   exact⟨w,by simp,x,λk=>rfl,hs,h1⟩
  | false =>
   rw[hs]at h
   obtain⟨y,h1,h2⟩:=T.ze.1 h
   subst h2
   obtain⟨w',k1,x,k2,k3,k4⟩:=HB (v::ws) ex fr st y h1
   exact⟨w',List.mem_cons_of_mem _ k1,x,λk=>k2 k,k3,k4⟩
def z6R(κ:KS)(n:Nat)(w:Way)(z:w.sh.den)(a:Act)(iI:Exit):Prop:=∀ q,CN w.ex (w.sh.fr z)=some q->Rel κ n q.2.get a/\Dp κ q.1 iI
theorem RQ{κ0 κ:KS}{n:Nat}{a:Act}{w:Way}{z:w.sh.den}{oex:Ex}{ofr:Fr}{iI:Exit}(hx:Ext κ0 κ)(hI:Inv κ)(hR:Rel κ n ofr.get a)(he:Dp κ oex iI)(hs:oS w.ex oex=true)(hl:κ0.st.length<=w.sh.bs.length)
  (h:(w.sh.un (KL oex ofr) κ.st).leads z):∃ κ1:KS,κ1.w=κ.w/\κ1.st=w.sh.st z/\Inv κ1/\Ext κ0 κ1/\z6R κ1 n w z a iI:=by
 have plain:KL oex ofr=ofr->(∀ q,CN w.ex (w.sh.fr z)=some q->q.2=w.sh.fr z/\∀ κ1:KS,Dp κ1 q.1 iI)->∃ κ1:KS,κ1.w=κ.w/\κ1.st=w.sh.st z/\Inv κ1/\Ext κ0 κ1/\z6R κ1 n w z a iI:=by
  intro e1 e2
  rw[e1]at h
  obtain⟨κ1,q1,q2,q3,q4,q5,_⟩:=w.sh.ZW (n:=n) hx hI hR hl h
  exact⟨κ1,q1,q2,q3,q4,λq hq=>by obtain⟨g1,g2⟩:=e2 q hq; rw[g1]; exact⟨q5,g2 κ1⟩⟩
 cases hw:w.ex with
 | normal =>
  rw[hw]at hs
  cases oex<;>first | (cases hs; done) | skip
  exact plain rfl λq hq=>by rw[hw]at hq; cases hq; exact⟨rfl,λ_=>he⟩
 | ret =>
  rw[hw]at hs
  cases oex<;>first | (cases hs; done) | skip
  exact plain rfl λq hq=>by rw[hw]at hq; cases hq; exact⟨rfl,λ_=>he⟩
 | exit id =>
  rw[hw]at hs
  cases oex<;>first | (cases hs; done) | skip
  rename_i id'
  have:id=id':=Nat.eq_of_beq_eq_true hs
  subst this
  exact plain rfl λq hq=>by rw[hw]at hq; cases hq; exact⟨rfl,λ_=>he⟩
 | ye p =>
  rw[hw]at hs
  cases p<;>first | (cases hs; done) | skip
  rename_i t p
  cases oex<;>first | (cases hs; done) | skip
  rename_i p'
  cases p'<;>first | (cases hs; done) | skip
  rename_i t' d
  have:t=t':=Nat.eq_of_beq_eq_true hs
  subst this
  obtain⟨v,rfl,hv⟩:=he
  cases hv with
  | iface _ _ u hu =>
   have Ge:Rel κ 1 (KL (.ye (.iface t d)) ofr).get { tmps := #[u],defers:=Ku.df }:=by
    refine⟨rfl,rfl,λs d' hd => ?_⟩
    simp only[KL,Fr.get]at hd
    cases hb:Nat.beq 0 s with
    | true =>
     have:=Nat.eq_of_beq_eq_true hb
     grind
    | false=>grind
   obtain⟨κ1,q1,q2,q3,q4,q5,_⟩:=w.sh.ZW (n:=1) hx hI Ge hl h
   refine⟨κ1,q1,q2,q3,q4,λq hq => ?_⟩
   rw[hw]at hq
   simp only[CN]at hq
   split at hq
   ·rename_i d' yq
    cases hq
    obtain⟨v',g1,g2⟩:=q5.get 0 d' yq
    cases g1
    exact⟨⟨hR.size,hR.defers,λs d hd=>by cases hd⟩,_,rfl,.iface t d' _ g2⟩
   ·cases hq
theorem mB(st:St):∀ (bs:List Bk) (bd:List Bd),(u7 st bs bd).length<=bs.length
 | [],_=>by simp[u7]
 | .arr _::r,[]=>by simp[u7]
 | .arr _::r,.v _ _::_=>by simp[u7]
 | .arr _::r,.a _ _::d=>by have:=mB st r d; simp[u7]; exact this
 | .var _::r,[]=>by simp[u7]
 | .var _::r,.a _ _::_=>by simp[u7]
 | .var _::r,.v _ _::d=>by have:=mB st r d; simp[u7]; exact this
 | .cvar _::r,d=>by have:=mB st r d; cases d<;>(simp[u7]; exact this)
 | .dead::r,d=>by have:=mB st r d; cases d<;>(simp[u7]; exact this)
theorem vG.ZE(s:vG)(x:s.den):(s.st x).length<=s.bs.length:=mB _ _ _
theorem V0{l m:Fr}{s:Nat}{d:D}(h:(l++m).get s=some d):l.get s=some d\/m.get s=some d:=by
 induction l with
 | nil=>grind
 | cons p r ih =>
  simp only[List.cons_append,Fr.get]at h ⊢
  grind
theorem NU{l:List Nat}{fr:Fr}{s:Nat}{d:D}(h:(dL l++fr).get s=some d):s ∉ l/\fr.get s=some d:=by
 induction l with
 | nil=>exact⟨by simp,h⟩
 | cons t r ih =>
  simp only[dL,List.map_cons,List.cons_append,Fr.get]at h
  cases ht:Nat.beq t s with
  | true=>grind
  | false =>
   rw[ht,cond_false]at h
   obtain⟨h1,h2⟩:=ih h
   refine⟨?_,h2⟩
   simp
   exact⟨λe=>by subst e; simp at ht,h1⟩
theorem Qu{o:Oper}{s:Nat}:∀ {l:List Oper},o∈l->o.dst=some s->s∈dstsOf l
 | p::r,h,hs=>by
  simp only[dstsOf]
  rcases List.mem_cons.1 h with rfl | h
  ·grind
  ·split
   ·exact List.mem_cons_of_mem _ (Qu h hs)
   ·exact Qu h hs
def Kept(code:Code)(a a':Act):Prop:=∀ s:Nat,s ∉ qw code->a'.tmps[s]? = a.tmps[s]?
section
variable {P:Program} {xid:Nat} {tab:ez} {ro:Nat->Bool} {n:Nat} {H:Hints}
theorem sD{κ κ':KS}{fr out:Fr}{a a':Act}{ws:List Nat}(hR:Rel κ n fr.get a)(hx:Ext κ κ')(ho:Rel κ' n out.get a')(hk:∀ s:Nat,s ∉ ws->a'.tmps[s]? = a.tmps[s]?):Rel κ' n (out++(dL ws++fr)).get a':=by
 refine⟨ho.size,ho.defers,λs d hd => ?_⟩
 rcases V0 hd with h | h
 ·exact ho.get s d h
 ·obtain⟨h1,h2⟩:=NU h
  obtain⟨v,g1,g2⟩:=hR.get s d h2
  exact⟨v,(hk s h1).trans g1,g2.mono hx⟩
theorem Gx{c:Ctx}{ops:Array Oper}:∀ (l:List Oper) (s s':dU),(lH c n ops l s).leads s'->quiet s'.ks=true->s'.st=s.st/\quiet s.ks=true:=by
 have hq:∀ {k:Nat} {ks:List Nat},quiet (k::ks)=true->Nat.beq k 2=false/\quiet ks=true:=by
  intro k ks h
  simp only[quiet,List.all_cons,Bool.and_eq_true,Bool.not_eq_true']at h
  exact⟨h.1,by unfold quiet; exact h.2⟩
 have one:∀ (o:Oper) (s s1:dU),(bn c n o s).leads s1->quiet s1.ks=true->s1.st=s.st/\quiet s.ks=true:=by
  intro o s s1 h hk
  unfold bn at h
  cases hd:uk n o.dst with
  | false=>rw[hd]at h; exact h.elim
  | true =>
   rw[hd,cond_true]at h
   obtain⟨r,h1,h2⟩:=T.ze.1 h
   cases h2
   obtain⟨g1,g2⟩:=hq hk
   refine⟨?_,g2⟩
   show r.2=s.st
   generalize nW c s.kn s.fr o=cl at h1 g1
   cases cl with
   | val t=>obtain⟨d,_,h3⟩:=T.ze.1 h1; cases h3; rfl
   | rd k=>obtain⟨d,_,h3⟩:=T.ze.1 h1; cases h3; rfl
   | wr k=>cases g1
 have skp:∀ (o:Oper) (s:dU),quiet (jV o s).ks=true->(jV o s).st=s.st/\quiet s.ks=true:=λo s h=>⟨rfl,(hq h).2⟩
 have gd:∀ (o:Oper) (s s1:dU),(stepG c n ops o s).leads s1->quiet s1.ks=true->s1.st=s.st/\quiet s.ks=true:=by
  intro o s s1 h hk
  obtain⟨dst,op,ty,pos,after,guard⟩:=o
  cases guard with
  | none=>exact one _ s s1 h hk
  | some jw =>
   obtain⟨j,want⟩:=jw
   simp only[stepG]at h
   cases hg:jb ops j with
   | none=>rw[hg]at h; exact h.elim
   | some t =>
    rw[hg]at h
    simp only at h
    cases hkn:s.kn.get t with
    | some b =>
     rw[hkn]at h
     simp only at h
     cases hb:b==want with
     | true=>grind
     | false =>
      rw[hb,cond_false]at h
      cases hd:uk n dst with
      | false=>rw[hd]at h; exact h.elim
      | true=>rw[hd,cond_true]at h; cases h; exact skp _ s hk
    | none =>
     rw[hkn]at h
     simp only at h
     split at h
     ·cases hd:uk n dst with
      | false=>rw[hd]at h; exact h.elim
      | true =>
       rw[hd,cond_true]at h
       rcases h with⟨_,h⟩ | ⟨_,h⟩
       ·cases want with
        | true=>rw[cond_true]at h; exact one _ (s.ca t true) s1 h hk
        | false=>rw[cond_false]at h; cases h; exact skp _ (s.ca t true) hk
       ·cases want with
        | true=>rw[cond_true]at h; cases h; exact skp _ (s.ca t false) hk
        | false=>rw[cond_false]at h; exact one _ (s.ca t false) s1 h hk
     ·cases hd:uk n dst with
      | false=>rw[hd]at h; exact h.elim
      | true=>rw[hd,cond_true]at h; cases h; exact skp _ s hk
     ·exact h.elim
 intro l
 induction l with
 | nil=>intro s s' h hk; cases h; exact⟨rfl,hk⟩
 | cons o l ih =>
  intro s s' h hk
  obtain⟨s1,h1,h2⟩:=T.ze.1 h
  obtain⟨g1,g2⟩:=ih s1 s' h2 hk
  obtain⟨k1,k2⟩:=gd o s s1 h1 g2
  exact⟨g1.trans k1,k2⟩
theorem Hc{c:Ctx}{ops:Array Oper}{draw:Bool}{fr:Fr}{kn:Kn}{st:St}{s':dU}(h:(cI c n ops draw fr kn st).leads s')(hq:quiet s'.ks=true):s'.st=st:=by
 obtain⟨s1,h1,h2⟩:=T.ze.1 h
 cases hd:(!draw||ZB ops s1.ks.reverse s1.bk.reverse)with
 | false=>rw[hd]at h2; exact h2.elim
 | true=>rw[hd,cond_true]at h2; cases h2; exact(Gx _ _ _ h1 hq).1
theorem TH{c:Ctx}{κ:KS}{a:Act}{o:Oper}{g:Nat}{args:Array Value}{R:Ending->World->Prop}(wX:(execOp a.eval o).run c.P κ.w=(callFunc g args).run c.P κ.w)
  (h:j6 c.P g args κ.w R) {K:Act->World->Prop} {Q:Exit->Act->World->Prop} (hR:∀ e w',R e w'->∃ ch,e=.panicked ch/\Q (.panic ch) a w'):o.wp c.P a κ.w K Q:=by
 unfold Oper.wp
 rw[wX]
 rcases h with⟨h1,h2⟩ | ⟨v,w',h1,h2⟩
 ·rw[h1]
  refine h2.mono λe w' he => ?_
  grind
 ·grind
theorem Rr{c:Ctx}{κ:KS}{n:Nat}{a:Act}{o:Oper}{s:dU}{d:D}{zx:St}(hC:∀ g,Bu c.P g (c.fn g))(hI:Inv κ)(hR:Rel κ n s.fr.get a)(xR:κ.st=s.st)(h:IL c o s d zx){K:Act->World->Prop}{Q:Exit->Act->World->Prop}
  (hQ:∀ (v:Value) (κ':KS),κ'.st=zx->Inv κ'->Ext κ κ'->RD κ' d v->Q (.panic [{ v,recovered:=false }]) a κ'.w):o.wp c.P a κ.w K Q:=by
 have ig:∀ (x:Operand) (z:D),jc s.fr x=some z->RD κ z (a.eval x):=λx z hz=>hR.eval (by rw[<- bq]; exact hz)
 obtain⟨dst,op,ty,pos,after,guard⟩:=o
 rcases h with⟨x,t,e,rfl,hx,rfl,rfl⟩ | ⟨f,args,oq,rfl,g,caps,l,hp,hl,hc⟩
 ·have hv:=ig x _ hx
  generalize By:a.eval x=pv at hv
  cases hv with
  | iface _ _ u hu =>
   have wX:(execOp a.eval ⟨dst,.panic x,ty,pos,after,guard⟩).run c.P κ.w=.halt (.panic (.iface t u)) κ.w:=by
    simp[execOp,By,Instr.panic]
   unfold Oper.wp
   rw[wX]
   exact hQ _ κ xR hI (Ext.refl κ) (.iface t e u hu)
 ·have hpv:=ig f _ hp
  have hr:=gM (κ:=κ) (vs:=args.toList.map a.eval) hl (by simp) (λi d v hd hv=>by
      simp only[List.getElem?_map]at hd hv
      cases hi:args.toList[i]? with
      | none=>grind
      | some x=>rw[hi]at hd hv; simp at hd hv; subst hv; exact ig x d hd)
  generalize By:a.eval f=pv at hpv
  cases hpv with
  | xk _ _ us iU hh2 =>
   have oJ:=K7 g hr (⟨iU,hh2⟩:qM κ caps us)
   rw[<- xR]at hc
   refine TH (c:=c) (κ:=κ) (g:=yZ g) (args:=(jT g (args.toList.map a.eval) us).toArray) ?_ (hC (yZ g) κ _ _ _ _ hc hI oJ) ?_
   ·exact D4 By
   ·rintro e w' ⟨κ',rfl,h1,h2,h3,v,rfl,h4⟩
    grind
theorem Ot{c:Ctx}{κ:KS}{n:Nat}{a:Act}{id:Nat}{ops:Array Oper}{fr:Fr}{kn:Kn}{d:D}{zx:St}(hC:∀ g,Bu c.P g (c.fn g))(hI:Inv κ)(hR:Rel κ n fr.get a)(hk:vW kn fr.get)
  (h:I3 c n ops ops.toList ⟨fr,kn,κ.st,[],[]⟩ d zx) {Q:Exit->Act->World->Prop}
  (hQ:∀ (v:Value) (a':Act) (κ':KS),κ'.st=zx->Inv κ'->Ext κ κ'->Rel κ' n (Fr.get []) a'->fW ops a a'->RD κ' d v->Q (.panic [{ v,recovered:=false }]) a' κ'.w):(Code.region id ops false).wp c.P Q a κ.w:=by
 obtain⟨pre,o,post,s1,e,h1,h2,h3⟩:=h
 have Oj:∀ j:Nat,ops[j]? = (pre++o::post)[j]? := λj=>by rw[<- e]; simp
 obtain⟨ks,g1,g2,_⟩:=fe pre 0 ⟨fr,kn,κ.st,[],[]⟩ s1 (λj=>by
  by_cases hj:j<pre.length
  ·grind
  ·right; omega) hk h1
 have jv:List.range ops.size=List.range' 0 pre.length++pre.length::List.range' (pre.length+1) post.length:=by
  have:ops.size=pre.length+(post.length+1):=by rw[<- Array.length_toList,e]; simp
  rw[this,List.range_eq_range',<- List.range'_append_1,Nat.zero_add,List.range'_succ]
 refine wp_region ?_
 rw[jv]
 refine XS hC _ _ hI hR rfl g1 λa' κ' e1 e2 e3 e4 e5 => ?_
 rw[wpOps_cons]
 unfold wpOp
 have ho:ops[pre.length]? = some o:=by rw[Oj]; simp
 rw[ho]
 simp only
 rw[if_pos (lX e4 h2)]
 exact .inl (Rr hC e2 e4 e1 h3 λv Nc f1 f2 f3 f4=>hQ v a' Nc f1 f2 (e3.trans f3) ⟨e4.size,e4.defers,λs d hd=>by cases hd⟩ e5 f4)
def Qd(P:Program)(n:Nat)(l:zW)(b:Code):Prop:=∀ (κ:KS) (a:Act) (p:vu l.ps) (s:l.sh.den) (r:hJ l.ws),(l.F p s).leads r->κ.st=l.sh.st s->Inv κ ->
 Rel κ n (l.sh.fr s).get a->Rel κ n (fq (l.sh.st s) l.ps p).get a->F8 l.ps (qw b)=true->(∀ w∈l.ws,l.sh.bs.length<=w.sh.bs.length) ->
 ∀ Q:Exit->Act->World->Prop,(∀ (w:Way) (x:w.sh.den) (iI:Exit) (a':Act) (κ':KS),w∈l.ws->RIs l.ws r w x->κ'.st=w.sh.st x->Inv κ'->Ext κ κ'->z6R κ' n w x a' iI->Kept b a a'->Q iI a' κ'.w) ->
  (Code.loop b).wp P Q a κ.w
def uC(P:Program)(n:Nat)(H:Hints)(code:Code):Prop:=∀ p∈xD code,∀ l,H.loop p.1=some l->Qd P n l p.2
theorem PM{kn:Kn}:∀ (l:List Nat) {fr:Fr} {st:St} {r:Fr×St},(frz l fr st).leads r->vW kn fr.get->vW kn r.1.get
 | [],fr,st,r,h,hk=>by cases h; exact hk
 | s::l,fr,st,r,h,hk=>by
  obtain⟨x,h1,h2⟩:=T.ze.1 h
  refine PM l h2 λt b hb => ?_
  have hf:=hk t b hb
  unfold z3z at h1
  cases hW:Nat.ble 1000000 s with
  | true =>
   rw[hW,cond_true]at h1
   have hfr:x.1=fr:=by
    unfold z2g at h1
    split at h1
    ·split at h1
     ·split at h1
      ·split at h1
       ·obtain⟨_,h1⟩:=h1; cases h1; rfl
       ·exact h1.elim
      ·exact h1.elim
     ·cases h1; rfl
    ·cases h1; rfl
   grind
  | false =>
  rw[hW,cond_false]at h1
  unfold z1u at h1
  split at h1
  ·rename_i b' qJ e off len hs
   split at h1
   ·split at h1
    ·obtain⟨_,h1⟩:=h1
     cases h1
     simp only[Fr.get]
     cases ht:Nat.beq s t with
     | true=>rw[<- Nat.eq_of_beq_eq_true ht,hs]at hf; cases hf
     | false=>grind
    ·exact h1.elim
   ·exact h1.elim
  ·cases h1; exact hf
theorem RV{c:Ctx}{t e:Nat}(hu:c.P.underlying t=some (.slice e)){op:BinOp}{b:Bool}(hop:PA op=some b)(px py:Operand)(w:World)(x:Option Addr)(l k:Nat) :
  (do eqGuard op t px py (.slice x l k) (.slice none 0 0); binOp op t (.slice x l k) (.slice none 0 0):Sem Value).run c.P w=.ok (.bool (if b=true then x.isNone else !x.isNone)) w:=by
 cases op<;>simp only[PA]at hop<;>cases hop
 ·have:=run_eql_slice_nil (P:=c.P) w t e x l k hu
  simp only[eqGuard]
  simpa using this
 ·have:=run_neq_slice_nil (P:=c.P) w t e x l k hu
  simp only[eqGuard]
  simpa using this
theorem Fk{ops:Array Oper}{fr:Fr}{p:zbo}(hp:HO (uE P xid tab ro) n ops fr=some p){κ:KS}{a:Act}{kn:Kn}(hI:Inv κ)(hR:Rel κ n fr.get a)(hk:vW kn fr.get){id:Nat}(Q:Exit->Act->World->Prop)
  (hQ:∀ a':Act,Kept (.region id ops false) a a' ->
   ((p.l=[]/\Rel κ n (Fr.get ((p.c,some (.zC .bool p.eq))::(p.m,some .xE)::(p.s,some .xE)::fr)) a')\/Rel κ n (Fr.get ((p.c,some (.zC .bool (!p.eq)))::(p.m,some (.zC (.sl p.e) p.l))::fr)) a')->Q .normal a' κ.w) :
  (Code.region id ops false).wp P Q a κ.w:=by
 unfold HO at hp
 split at hp
 ·rename_i o1 o2 hops
  split at hp
  ·rename_i m s EF Tl hg1
   split at hp
   ·rename_i cc op t m' y ty' hd2 ho2 hg2
    split at hp
    ·rename_i b e l et hop hs hel
     cases hc:Nat.beq m m'&&Fp y&&Nat.blt m n&&Nat.blt cc n with
     | false=>grind
     | true =>
      rw[hc,cond_true]at hp
      cases hp
      simp only[Bool.and_eq_true]at hc
      obtain⟨⟨⟨hmm,hy⟩,hmn⟩,hcn⟩:=hc
      have:=Nat.eq_of_beq_eq_true hmm
      subst this
      have hy':y=.const (.slice none 0 0):=by
       unfold Fp at hy
       grind
      subst hy'
      obtain⟨v,hv,yq⟩:=hR.get s _ hs
      obtain⟨x,k,hvs⟩:∃ (x:Option Addr) (k:Nat),v=.slice x l.length k/\(x=none->l=[]/\k=0):=by
       rcases(yq.vQ rfl).XK with⟨rfl,a0,he⟩ | ⟨blk,off,cap,f,he,wI,vJ,h1,h2⟩
       ·grind
       ·grind
      obtain⟨rfl,hvn⟩:=hvs
      have jv:ops.size=2:=by rw[<- Array.length_toList,hops]; rfl
      have e0:ops[0]? = some o1:=by rw[<- Array.getElem?_toList,hops]; rfl
      have e1:ops[1]? = some o2:=by rw[<- Array.getElem?_toList,hops]; rfl
      have zfk:m<n:=Nat.le_of_ble_eq_true hmn
      have zj6:cc<n:=Nat.le_of_ble_eq_true hcn
      have hsl:a.tmps.getD s undef=.slice x l.length k:=by simp[Array.getD_eq_getD_getElem?,hv]
      have wan:∀ (o:Oper) (ys:Nat->Option Value),o.guard=none->True:=λ_ _ _=>trivial
      refine wp_region ?_
      rw[jv,show List.range 2=[0,1]from rfl,wpOps_cons]
      unfold wpOp
      rw[e0]
      simp only
      rw[if_pos (by unfold Region.wanted; rw[hg1])]
      refine .inl ?_
      obtain⟨d1,op1,ty1,z7o,af1,gu1⟩:=o1
      obtain⟨d2,op2,Gq,z3h,af2,gu2⟩:=o2
      simp only at EF Tl hg1 hd2 ho2 hg2
      subst EF Tl hg1 hd2 ho2 hg2
      have hx1:(execOp a.eval ⟨some m,.move (.tmp s),ty1,z7o,af1,none⟩).run P κ.w=.ok (.value (.slice x l.length k)) κ.w:=by
       simp[execOp,Act.eval,hsl]
      unfold Oper.wp
      rw[hx1,Oper.upon_value,wpOps_cons]
      unfold wpOp
      rw[e1]
      simp only
      rw[if_pos (by unfold Region.wanted; rfl)]
      refine .inl ?_
      have ig:(a.put (some m) (.slice x l.length k)).eval (.tmp m)=.slice x l.length k:=by
       have:=hR.size
       simp[Act.eval,Act.put,Array.getD_eq_getD_getElem?,Array.getElem?_setIfInBounds,this,zfk]
      have hu:=uN hel
      have wX:=RV (c:=uE P xid tab ro) hu hop (.tmp m) (.const (.slice none 0 0)) κ.w x l.length k
      have Et:(execOp (a.put (some m) (.slice x l.length k)).eval ⟨some cc,.binOp op t (.tmp m) (.const (.slice none 0 0)) ty',Gq,z3h,af2,none⟩).run P κ.w=.ok (.value (.bool (if b=true then x.isNone else !x.isNone))) κ.w:=by
       have hex:execOp (a.put (some m) (.slice x l.length k)).eval ⟨some cc,.binOp op t (.tmp m) (.const (.slice none 0 0)) ty',Gq,z3h,af2,none⟩ =
        (do Pure.pure (.value (<- (do eqGuard op t (.tmp m) (.const (.slice none 0 0)) ((a.put (some m) (.slice x l.length k)).eval (.tmp m)) (.slice none 0 0); binOp op t ((a.put (some m) (.slice x l.length k)).eval (.tmp m)) (.slice none 0 0))))):=rfl
       rw[hex,ig,Sem.run_bind]
       rw[show(do eqGuard op t (.tmp m) (.const (.slice none 0 0)) (.slice x l.length k) (.slice none 0 0); binOp op t (.slice x l.length k) (.slice none 0 0):Sem Value).run P κ.w=_ from wX]
       rfl
      unfold Oper.wp
      rw[Et,Oper.upon_value]
      have zbk:∀ (q:Nat) (u:Value) (a1:Act) (t:Nat),(a1.put (some q) u).tmps[t]? = if q=t then(if q<a1.tmps.size then some u else none)else a1.tmps[t]? := by
       intro q u a1 t
       simp only[Act.put,Array.getElem?_setIfInBounds]
      have hs1:(a.put (some m) (.slice x l.length k)).tmps.size=n:=by simp[Act.put,hR.size]
      have hs2:((a.put (some m) (.slice x l.length k)).put (some cc) (.bool (if b=true then x.isNone else !x.isNone))).tmps.size=n:=by simp[Act.put,hR.size]
      refine hQ _ (λt ht => ?_) ?_
      ·have hw:qw (.region id ops false)=[m,cc]:=by simp only[qw,hops,dstsOf]
       grind
      ·have get:∀ (t:Nat),((a.put (some m) (.slice x l.length k)).put (some cc) (.bool (if b=true then x.isNone else !x.isNone))).tmps[t]? = if cc=t then some (.bool (if b=true then x.isNone else !x.isNone))else if m=t then some (.slice x l.length k)else a.tmps[t]? := by
        grind
       have z1o:∀ {i j:Nat},Nat.beq i j=false->i≠j:=λh e=>by subst e; simp at h
       cases x with
       | none =>
        obtain⟨hl,H5⟩:=hvn rfl
        subst hl H5
        refine .inl ⟨rfl,hs2,hR.defers,λt d hd => ?_⟩
        rw[get]
        simp only[Fr.get]at hd
        cases h1:Nat.beq cc t with
        | true =>
         rw[h1,cond_true]at hd; cases hd
         rw[if_pos (Nat.eq_of_beq_eq_true h1)]
         refine⟨_,rfl,?_⟩
         cases b<;>exact .bool
        | false =>
         rw[h1,cond_false]at hd
         rw[if_neg (z1o h1)]
         cases h2:Nat.beq m t with
         | true=>rw[h2,cond_true]at hd; cases hd; rw[if_pos (Nat.eq_of_beq_eq_true h2)]; exact⟨_,rfl,.xE⟩
         | false =>
          rw[h2,cond_false]at hd
          rw[if_neg (z1o h2)]
          cases h3:Nat.beq s t with
          | true=>rw[h3,cond_true]at hd; cases hd; rw[<- Nat.eq_of_beq_eq_true h3]; exact⟨_,hv,.xE⟩
          | false=>rw[h3,cond_false]at hd; exact hR.get t d hd
       | some x =>
        refine .inr ⟨hs2,hR.defers,λt d hd => ?_⟩
        rw[get]
        simp only[Fr.get]at hd
        cases h1:Nat.beq cc t with
        | true =>
         rw[h1,cond_true]at hd; cases hd
         rw[if_pos (Nat.eq_of_beq_eq_true h1)]
         refine⟨_,rfl,?_⟩
         cases b<;>exact .bool
        | false =>
         rw[h1,cond_false]at hd
         rw[if_neg (z1o h1)]
         cases h2:Nat.beq m t with
         | true=>rw[h2,cond_true]at hd; cases hd; rw[if_pos (Nat.eq_of_beq_eq_true h2)]; exact⟨_,rfl,yq⟩
         | false=>rw[h2,cond_false]at hd; rw[if_neg (z1o h2)]; exact hR.get t d hd
    ·cases hp
   ·cases hp
  ·cases hp
 ·cases hp
theorem OP{id:Nat}{b:Code}(hb:∀ b',b≠.loop b')(fr:Fr)(kn:Kn)(st:St){α:Type}(k:F5->T α):ZI (uE P xid tab ro) tab n H (.block id b) fr kn st k=ZI (uE P xid tab ro) tab n H b fr kn st λr=>match r.ex with
  | .exit id'=>bif Nat.beq id' id then k { r with ex:=.normal } else k r
  | _=>k r:=by
 cases b<;>first | rfl | exact absurd rfl (hb _)
theorem pM(hm:(uE P xid tab ro).P.follows .mixedOrders=true)(hT:yx P tab):∀ (code:Code),uC P n H code->∀ {fr:Fr} {kn:Kn} {κ:KS} {a:Act} {α:Type} {k:F5->T α} {r:α},
  (ZI (uE P xid tab ro) tab n H code fr kn κ.st k).leads r->Inv κ->Rel κ n fr.get a->vW kn fr.get ->
  ∀ Q:Exit->Act->World->Prop,(∀ (o:F5) (iI:Exit) (a':Act) (κ':KS),(k o).leads r->κ'.st=o.st->Inv κ'->Ext κ κ'->Rel κ' n o.fr.get a'->vW o.kn o.fr.get->Kept code a a'->(o.q=true->o.st=κ.st)->Dp κ' o.ex iI->Q iI a' κ'.w) ->
   code.wp P Q a κ.w:=by
 intro code
 induction code with
 | skip=>intro _ fr kn κ a α k r h hI hR hk Q hQ; exact wp_skip (hQ _ _ a κ h rfl hI (Ext.refl κ) hR hk (λ_ _=>rfl) (λ_=>rfl) rfl)
 | exit id=>intro _ fr kn κ a α k r h hI hR hk Q hQ; exact wp_exit (hQ _ _ a κ h rfl hI (Ext.refl κ) hR hk (λ_ _=>rfl) (λ_=>rfl) rfl)
 | ret=>intro _ fr kn κ a α k r h hI hR hk Q hQ; exact wp_ret (hQ _ _ a κ h rfl hI (Ext.refl κ) hR hk (λ_ _=>rfl) (λ_=>rfl) rfl)
 | region id ops draw =>
  intro _ fr kn κ a α k r h hI hR hk Q hQ
  simp only[ZI]at h
  obtain⟨z,h0,h⟩:=T.ze.1 h
  obtain⟨κ0,w1,w2,w3,w4,w5⟩:=Rw _ h0 hI hR
  have H5:=PM _ h0 hk
  rcases KZ H5 h with⟨s,h1,h2⟩ | ⟨d,zx,rfl,h1,h2⟩
  rotate_left
  ·rw[<- w2]at h1
   rw[<- w1]
   exact Ot (H6 hT) w3 w5 H5 h1 λv a' κ' e1 e2 e3 e4 e5 e6=>hQ ⟨.ye d,[],[],zx,false⟩ _ a' κ' h2 e1 e2 (w4.trans e3) e4 (dA _) (λt ht=>e5 t λo ho he=>ht (Qu ho he)) (λhq=>by cases hq) ⟨v,rfl,e6⟩
  rw[<- w2]at h1
  have HL:=Nl H5 h1
  rw[<- w1]
  refine(OE hm (H6 hT) w3 w5 H5 h1 λa' κ' e1 e2 e3 e4 e5=>hQ ⟨.normal,s.fr,s.kn,s.st,quiet s.ks&&(H.frz id).isEmpty⟩ _ a' κ' h2 e1 e2 (w4.trans e3) e4 HL (λt ht=>e5 t λo ho he=>ht (Qu ho he)) (λhq => ?_) rfl).1
  simp only[Bool.and_eq_true]at hq
  have he:H.frz id=[]:=List.isEmpty_iff.1 hq.2
  rw[he]at h0
  cases h0
  exact(Hc h1 hq.1).trans w2
 | seq x y ix iy =>
  intro hl fr kn κ a α k r h hI hR hk Q hQ
  have hlx:uC P n H x:=λp hp=>hl p (by simp only[xD,List.mem_append]; exact .inl hp)
  have hly:uC P n H y:=λp hp=>hl p (by simp only[xD,List.mem_append]; exact .inr hp)
  have kx:∀ {a a':Act},Kept x a a'->Kept (.seq x y) a a':=λh s hs=>h s λe=>hs (by simp only[qw,List.mem_append]; exact .inl e)
  have ky:∀ {a a':Act},Kept y a a'->Kept (.seq x y) a a':=λh s hs=>h s λe=>hs (by simp only[qw,List.mem_append]; exact .inr e)
  simp only[ZI]at h
  split at h
  ·refine wp_seq (ix hlx h hI hR hk _ λo iI a' κ' e0 e1 e2 e3 e4 Pc e5 e5q e6 => ?_)
   cases hex:o.ex<;>rw[hex]at e0 e6<;>simp only at e0
   ·cases e6
    refine iy hly (κ:=κ') (e1▸e0) e2 e4 Pc Q λo' HY a'' Nc f0 f1 f2 f3 f4 Yl f5 E8 f6=>hQ { o' with q:=o.q&&o'.q } HY a'' Nc f0 f1 f2 (e3.trans f3) f4 Yl (λs hs=>(ky f5 s hs).trans (kx e5 s hs)) ?_ f6
    grind
   ·cases e6; exact hQ o _ a' κ' e0 e1 e2 e3 e4 Pc (kx e5) e5q (by rw[hex]; rfl)
   ·cases e6; exact hQ o _ a' κ' e0 e1 e2 e3 e4 Pc (kx e5) e5q (by rw[hex]; rfl)
   ·obtain⟨v,rfl,hv⟩:=e6
    exact hQ o _ a' κ' e0 e1 e2 e3 e4 Pc (kx e5) e5q (by rw[hex]; exact⟨v,rfl,hv⟩)
  ·rename_i ox hcu
   cases hw:Gk ox with
   | false=>rw[hw]at h; exact h.elim
   | true =>
    rw[hw,cond_true]at h
    obtain⟨z,h1,h2⟩:=T.ze.1 h
    have h1:=D3 h1
    refine wp_seq (ix hlx h1 hI hR hk _ λo iI a' κ' e0 e1 e2 e3 e4 Pc e5 e5q e6 => ?_)
    cases hex:o.ex<;>rw[hex]at e0 e6<;>simp only at e0
    ·cases e6
     cases hq:o.q with
     | false=>rw[hq]at e0; exact e0.elim
     | true =>
      rw[hq,cond_true]at e0
      have xR:o.st=κ.st:=e5q hq
      have hRz:Rel κ' n (fq κ.st ox z).get a':=by
       refine⟨e4.size,e4.defers,λt d hd => ?_⟩
       obtain⟨k',y',d0,g0,g1,g2,g3⟩:=(Q7 (p:=λ_=>true) (zx:=κ.st) ox [] z (λ_ _=>rfl) e0).2 _ (get_mem hd)
       cases g3
       obtain⟨v,q1,q2⟩:=e4.get _ _ g1
       have V4:=List.all_eq_true.1 hw _ g0
       have V4:Vz k'=true:=V4
       have hwk:Wk κ' κ':=⟨rfl,rfl,rfl,rfl,λb d h=>⟨d,h⟩,λb v e xs h=>.inl h,λb v e xs h=>h,λb h=>h⟩
       have wI:C2 [] k'=true:=by cases k'<;>first | rfl | cases V4
       rw[<- e1]at g2
       have:=GP hwk (bs:=[]) wI (λ_ _=>rfl) (zx:=κ'.st) (λ_ _=>rfl) (λ_ h=>by simp[rowAt]at h) g2 q2
       grind
      have Ge:=sD hR e3 hRz e5
      refine iy hly (κ:=κ') (by rw[e1,xR]; exact h2) e2 Ge (dA _) Q λo' HY a'' Nc f0 f1 f2 f3 f4 Yl f5 E8 f6=>hQ o' HY a'' Nc f0 f1 f2 (e3.trans f3) f4 Yl (λs hs=>(ky f5 s hs).trans (kx e5 s hs)) (λhq=>(E8 hq).trans (e1.trans xR)) f6
    ·exact e0.elim
    ·exact e0.elim
    ·exact e0.elim
  ·rename_i hcu
   cases hop:opsOf x with
   | none=>rw[hop]at h; exact h.elim
   | some ops =>
    rw[hop]at h
    simp only at h
    cases hp:HO (uE P xid tab ro) n ops fr with
    | none=>rw[hp]at h; exact h.elim
    | some p =>
     rw[hp]at h
     obtain⟨Uq,zck⟩:=h
     obtain⟨id,rfl⟩:∃ id,x=.region id ops false:=by
      cases x with
      | region id ops' draw =>
       cases draw with
       | true=>cases hop
       | false=>cases hop; exact⟨id,rfl⟩
      | _=>cases hop
     refine wp_seq (Fk hp hI hR hk _ ?_)
     intro a' hk1 zcx
     rcases zcx with⟨hl,Ge⟩ | Ge
     ·refine iy hly (κ:=κ) (Uq hl _ zck) hI Ge (λt b hb => ?_) Q λo' HY a'' Nc f0 f1 f2 f3 f4 Yl f5 E8 f6=>hQ o' HY a'' Nc f0 f1 f2 f3 f4 Yl (λs hs=>(ky f5 s hs).trans (kx hk1 s hs)) E8 f6
      simp only[Kn.get]at hb
      simp only[Fr.get]
      grind
     ·refine iy hly (κ:=κ) zck hI Ge (λt b hb => ?_) Q λo' HY a'' Nc f0 f1 f2 f3 f4 Yl f5 E8 f6=>hQ o' HY a'' Nc f0 f1 f2 f3 f4 Yl (λs hs=>(ky f5 s hs).trans (kx hk1 s hs)) E8 f6
      simp only[Kn.get]at hb
      simp only[Fr.get]
      cases ht:Nat.beq p.c t with
      | true=>rw[ht,cond_true]at hb; rw[cond_true]; cases hb; rfl
      | false=>rw[ht,cond_false]at hb; cases hb
  ·rename_i ws hcu
   cases hw:ws.all λw=>Nat.ble κ.st.length w.sh.bs.length with
   | false=>rw[hw]at h; exact h.elim
   | true =>
    rw[hw,cond_true]at h
    obtain⟨rr,Vd,h2⟩:=T.ze.1 h
    refine wp_seq (ix hlx Vd hI hR hk _ λo iI a' κ' e0 e1 e2 e3 e4 Pc e5 _ e6 => ?_)
    obtain⟨w,g1,z,g2,g3,g4⟩:=HB _ _ _ _ _ e0
    have hwl:=List.all_eq_true.1 hw w g1
    obtain⟨κ1,q1,q2,q3,q4,q5⟩:=RQ (n:=n) e3 e2 e4 e6 g3 (Nat.le_of_ble_eq_true hwl) (by rw[e1]; exact g4)
    rw[g2]at h2
    split at h2
    ·exact h2.elim
    rename_i zz hzz
    obtain⟨q5,Pq⟩:=q5 zz hzz
    have Ge:=sD hR q4 q5 e5
    rw[<- q1]
    cases hex:zz.1<;>rw[hex]at h2 Pq<;>simp only at h2
    ·cases Pq
     exact iy hly (κ:=κ1) (by rw[q2]; exact h2) q3 Ge (dA _) Q λo' HY a'' Nc f0 f1 f2 f3 f4 Yl f5 _ f6=>hQ { o' with q:=false } HY a'' Nc f0 f1 f2 (q4.trans f3) f4 Yl (λs hs=>(ky f5 s hs).trans (kx e5 s hs)) (λhq=>by cases hq) f6
    ·cases Pq; exact hQ _ _ a' κ1 h2 q2 q3 q4 Ge (dA _) (kx e5) (λhq=>by cases hq) rfl
    ·cases Pq; exact hQ _ _ a' κ1 h2 q2 q3 q4 Ge (dA _) (kx e5) (λhq=>by cases hq) rfl
    ·obtain⟨v,rfl,hv⟩:=Pq
     exact hQ _ _ a' κ1 h2 q2 q3 q4 Ge (dA _) (kx e5) (λhq=>by cases hq) ⟨v,rfl,hv⟩
 | cond x p q ip iq =>
  intro hl fr kn κ a α k r h hI hR hk Q hQ
  have hlp:uC P n H p:=λz hz=>hl z (by simp only[xD,List.mem_append]; exact .inl hz)
  have NY:uC P n H q:=λz hz=>hl z (by simp only[xD,List.mem_append]; exact .inr hz)
  have kp:∀ {a a':Act},Kept p a a'->Kept (.cond x p q) a a':=λh s hs=>h s λe=>hs (by simp only[qw,List.mem_append]; exact .inl e)
  have kq:∀ {a a':Act},Kept q a a'->Kept (.cond x p q) a a':=λh s hs=>h s λe=>hs (by simp only[qw,List.mem_append]; exact .inr e)
  have hQp:=λ(o:F5) (iI:Exit) (a':Act) (κ':KS) f0 f1 f2 f3 f4 Yl (f5:Kept p a a') E8 f6=>hQ o iI a' κ' f0 f1 f2 f3 f4 Yl (kp f5) E8 f6
  have hQq:=λ(o:F5) (iI:Exit) (a':Act) (κ':KS) f0 f1 f2 f3 f4 Yl (f5:Kept q a a') E8 f6=>hQ o iI a' κ' f0 f1 f2 f3 f4 Yl (kq f5) E8 f6
  simp only[ZI]at h
  split at h
  ·rename_i hx
   have hv:qt fr.get x=some (.zC .bool true):=cz hk hx
   exact wp_cond_true (hR.eval hv).kN (ip hlp h hI hR hk Q hQp)
  ·rename_i hx
   have hv:qt fr.get x=some (.zC .bool false):=cz hk hx
   exact wp_cond_false (hR.eval hv).kN (iq NY h hI hR hk Q hQq)
  ·split at h
   ·split at h
    ·rename_i v hv
     have he:=hv
     rw[show ∀ t,fr.get t=qt fr.get (.tmp t)from λ_=>rfl]at he
     rcases h with⟨rfl,h⟩ | ⟨rfl,h⟩
     ·exact wp_cond_true (hR.eval he).kN (ip hlp h hI hR (sT hk hv) Q hQp)
     ·exact wp_cond_false (hR.eval he).kN (iq NY h hI hR (sT hk hv) Q hQq)
    ·exact h.elim
   ·exact h.elim
 | block id b ib =>
  intro hl fr kn κ a α k r h hI hR hk Q hQ
  by_cases hb:∃ b',b=.loop b'
  ·obtain⟨b,rfl⟩:=hb
   simp only[ZI]at h
   split at h
   ·exact h.elim
   ·rename_i l hll
    cases hc:Nat.ble (gh l.gh fr κ.st).2.length l.sh.bs.length&&F8 l.ps (qw b)&&l.ws.all λw=>Nat.ble l.sh.bs.length w.sh.bs.length with
    | false=>rw[hc]at h; exact h.elim
    | true =>
     rw[hc,cond_true]at h
     simp only[Bool.and_eq_true,List.all_eq_true]at hc
     obtain⟨⟨NP,Fa⟩,hc3⟩:=hc
     obtain⟨p,h1,h⟩:=T.ze.1 h
     obtain⟨s,h2,h⟩:=T.ze.1 h
     obtain⟨rr,h3,h4⟩:=T.ze.1 h
     obtain⟨κ1,w1,w2,w3,w4,w5⟩:=lU l.gh fr κ hI hR
     rw[<- w2]at h1 h2 NP
     obtain⟨κ2,q1,q2,q3,q4,q5,_⟩:=l.sh.ZW (n:=n) (Ext.refl κ1) w3 w5 (Nat.le_of_ble_eq_true NP) h2
     -- the loop's parameters
     have hps:Rel κ2 n (fq (l.sh.st s) l.ps p).get a:=by
      refine⟨w5.size,w5.defers,λt d hd => ?_⟩
      obtain⟨k',y,d0,g0,g1,g2,g3⟩:=(Q7 (p:=λ_=>true) (zx:=l.sh.st s) l.ps [] p (λ_ _=>rfl) h1).2 _ (get_mem hd)
      cases g3
      obtain⟨v,e1,e2⟩:=w5.get _ _ g1
      have V4:=List.all_eq_true.1 Fa _ g0
      simp only[Bool.and_eq_true]at V4
      have hwk:Wk κ1 κ1:=⟨rfl,rfl,rfl,rfl,λb d h=>⟨d,h⟩,λb v e xs h=>.inl h,λb v e xs h=>h,λb h=>h⟩
      have wI:C2 [] k'=true:=by cases k'<;>first | rfl | cases V4.1
      have:=GP hwk (bs:=[]) wI (λ_ _=>rfl) (zx:=κ1.st) (λ_ _=>rfl) (λ_ h=>by simp[rowAt]at h) g2 e2
      have he:td κ1.st k' y=td (l.sh.st s) k' y:=by cases k'<;>first | rfl | cases V4.1
      rw[he]at this
      exact⟨v,e1,this.mono q4⟩
     have z3n:Ext κ κ2:=w4.trans q4
     have sU:κ2.w=κ.w:=q1.trans w1
     rw[<- sU]
     refine wp_block (hl (id,b) (by simp[xD]) l hll κ2 a p s rr h3 q2 q3 q5 hps Fa (λw hw=>Nat.le_of_ble_eq_true (hc3 w hw)) _ λw x iI a' κ' f1 f2 f3 f4 f5 f6 f7 => ?_)
     rw[f2]at h4
     split at h4
     ·exact h4.elim
     rename_i zz hzz
     obtain⟨f6,f8⟩:=f6 zz hzz
     have hR':Rel κ' n (zz.2++(dL (qw b)++(gh l.gh fr κ.st).1)).get a':=sD w5 (q4.trans f5) f6 f7
     have hkk:Kept (.block id (.loop b)) a a':=f7
     cases hwx:zz.1<;>rw[hwx]at h4 f8<;>simp only at h4
     ·exact h4.elim
     ·rename_i id'
      cases f8
      simp only[Exit.inBlock]
      cases Bo:Nat.beq id' id with
      | true =>
       rw[Bo,cond_true]at h4
       have:=Nat.eq_of_beq_eq_true Bo
       subst this
       rw[if_pos rfl]
       exact hQ _ _ a' κ' h4 f3 f4 (z3n.trans f5) hR' (dA _) hkk (λhq=>by cases hq) rfl
      | false =>
       rw[Bo,cond_false]at h4
       rw[if_neg (λe=>by subst e; simp at Bo)]
       exact hQ _ _ a' κ' h4 f3 f4 (z3n.trans f5) hR' (dA _) hkk (λhq=>by cases hq) rfl
     ·cases f8
      exact hQ _ _ a' κ' h4 f3 f4 (z3n.trans f5) hR' (dA _) hkk (λhq=>by cases hq) rfl
     ·obtain⟨v,rfl,hv⟩:=f8
      exact hQ _ _ a' κ' h4 f3 f4 (z3n.trans f5) hR' (dA _) hkk (λhq=>by cases hq) ⟨v,rfl,hv⟩
  ·have Bo:∀ b',b≠.loop b':=λb' e=>hb ⟨b',e⟩
   rw[OP Bo]at h
   refine wp_block (ib (λz hz=>hl z (by rw[Bx Bo]; exact hz)) h hI hR hk _ λo iI a' κ' f0 f1 f2 f3 f4 Yl f5 E8 f6 => ?_)
   have hkk:Kept (.block id b) a a':=f5
   cases hox:o.ex<;>rw[hox]at f0 f6<;>simp only at f0
   ·cases f6; exact hQ o _ a' κ' f0 f1 f2 f3 f4 Yl hkk E8 (by rw[hox]; rfl)
   ·rename_i id'
    cases f6
    simp only[Exit.inBlock]
    cases hbq:Nat.beq id' id with
    | true =>
     rw[hbq,cond_true]at f0
     have:=Nat.eq_of_beq_eq_true hbq
     subst this
     rw[if_pos rfl]
     exact hQ _ _ a' κ' f0 f1 f2 f3 f4 Yl hkk E8 rfl
    | false =>
     rw[hbq,cond_false]at f0
     rw[if_neg (λe=>by subst e; simp at hbq)]
     exact hQ o _ a' κ' f0 f1 f2 f3 f4 Yl hkk E8 (by rw[hox]; rfl)
   ·cases f6; exact hQ o _ a' κ' f0 f1 f2 f3 f4 Yl hkk E8 (by rw[hox]; rfl)
   ·obtain⟨v,rfl,hv⟩:=f6
    exact hQ o _ a' κ' f0 f1 f2 f3 f4 Yl hkk E8 (by rw[hox]; exact⟨v,rfl,hv⟩)
 | _=>intro _ fr kn κ a α k r h; simp only[ZI]at h; exact h.elim
end
end Go.AM
namespace Go.AM
set_option linter.unusedSectionVars false
variable [ur]
open Go.RowKit
section
variable [Ku]
variable {P:Program} {xid:Nat} {tab:ez} {ro:Nat->Bool} {n:Nat} {H:Hints}
theorem M0{b:Code}{st zx:St}:∀ (ox:List It) (z:vu ox),F8 ox (qw b)=true->fq st ox z=fq zx ox z/\∀ q∈fq st ox z,q.1 ∉ qw b:=by
 intro ox
 induction ox with
 | nil=>intro z _; exact⟨rfl,λq hq=>by cases hq⟩
 | cons i r ih =>
  intro z h
  have hi:∀ y:i.den,Kb st i y=Kb zx i y/\∀ q∈Kb st i y,q.1 ∉ qw b:=by
   intro y
   simp only[F8,List.all_cons,Bool.and_eq_true]at h
   cases i with
   | s t k =>
    obtain⟨h1,_⟩:=h
    simp at h1
    refine⟨by cases k<;>first | rfl | (simp[Vz]at h1),λq hq => ?_⟩
    simp only[Kb,List.mem_singleton]at hq
    subst hq
    intro hm
    have:=h1.2
    simp only[z5x,Bool.not_eq_true',List.any_eq_false]at this
    exact this t hm (by simp)
   | _=>grind
  cases r with
  | nil =>
   have e1:=UD st i z
   have e2:=UD zx i z
   grind
  | cons j r =>
   have e1:=XJ st i j r z
   have e2:=XJ zx i j r z
   have hr:F8 (j::r) (qw b)=true:=by
    unfold F8 at h ⊢
    grind
   grind
theorem z2B(hm:(uE P xid tab ro).P.follows .mixedOrders=true)(hT:yx P tab){l:zW}{b:Code}(hL:uC P n H b)(R:vu l.ps->l.sh.den->T (l.sh.den⊕hJ l.ws))
  (round:∀ p s,PK (uE P xid tab ro) tab n H l b p s=R p s) (hF:∀ p s,l.F p s=T.loop (R p) s):Qd P n l b:=by
 intro κ a p s r hr xR hI hR hRp hps hws Q hQ
 rw[hF,T.fc]at hr
 obtain⟨m,hm'⟩:=hr
 have zet:=λ(st zx:St)=>(M0 (b:=b) (st:=st) (zx:=zx) l.ps p hps).1
 have z7K:∀ (st:St) (t:Nat) (d:D),(fq st l.ps p).get t=some d->t ∉ qw b:=λst t d hd=>(M0 (b:=b) (st:=st) (zx:=st) l.ps p hps).2 _ (get_mem hd)
 refine wp_loop_ghost (λm a' w'=>∃ s',T.Iter (R p) m s' r/\∃ κ':KS,κ'.w=w'/\κ'.st=l.sh.st s'/\Inv κ'/\Ext κ κ'/\Rel κ' n (l.sh.fr s').get a'/\Rel κ' n (fq (l.sh.st s) l.ps p).get a'/\Kept b a a') m
  ⟨s,hm',κ,rfl,xR,hI,Ext.refl κ,hR,hRp,λ_ _=>rfl⟩ ?_
 rintro m a1 w1 ⟨s1,hit,κ1,rfl,g4,g5,g6,g7a,g7b,g8⟩
 have g7:Rel κ1 n (l.sh.fr s1++fq (l.sh.st s1) l.ps p).get a1:=⟨g7a.size,g7a.defers,λt d hd=>by
  rcases V0 hd with hd | hd
  ·exact g7a.get t d hd
  ·rw[zet _ (l.sh.st s)]at hd; exact g7b.get t d hd⟩
 cases hit with
 | done h1 =>
  rw[<- round]at h1
  refine pM hm hT b hL (κ:=κ1) (by rw[g4]; exact h1) g5 g7 (dA _) _ λo iI a' κ' e0 e1 e2 e3 e4 Pc e5 _ e6 => ?_
  have fin:∀ exo,Dp κ' exo iI->(GY l.ws exo (KL exo o.fr) o.st).leads r->Q iI a' κ'.w:=λexo e6 e0=>by
   obtain⟨w,k1,x,k2,k3,k4⟩:=HB _ _ _ _ _ e0
   have hlen:κ1.st.length<=w.sh.bs.length:=by rw[g4]; exact Nat.le_trans (vG.ZE _ _) (hws w k1)
   obtain⟨κ2,q1,q2,q3,q4,q5⟩:=RQ (n:=n) e3 e2 e4 e6 k3 hlen (by rw[e1]; exact k4)
   have:=hQ w x iI a' κ2 k1 k2 q2 q3 (g6.trans q4) q5 (λt ht=>(e5 t ht).trans (g8 t ht))
   grind
  have M6:∀ {z:l.sh.den⊕hJ l.ws},((GY l.ws o.ex (KL o.ex o.fr) o.st).bind λr=>T.ret (Sum.inr r:l.sh.den⊕hJ l.ws)).leads z->z=Sum.inr r->(GY l.ws o.ex (KL o.ex o.fr) o.st).leads r:=by
   intro z h hz
   obtain⟨y,h1,h2⟩:=T.ze.1 h
   have h2:(Sum.inr y:l.sh.den⊕hJ l.ws)=z:=h2
   grind
  cases hox:o.ex<;>rw[hox]at e0 e6 M6<;>simp only at e0
  ·obtain⟨y,_,h2⟩:=T.ze.1 e0
   have h2:(Sum.inl y:l.sh.den⊕hJ l.ws)=Sum.inr r:=h2
   cases h2
  ·have q:=fin _ e6 (M6 e0 rfl); cases e6; exact q
  ·have q:=fin _ e6 (M6 e0 rfl); cases e6; exact q
  ·have q:=fin _ e6 (M6 e0 rfl); obtain⟨v,rfl,hv⟩:=e6; exact q
 | step h1 hit =>
  rename_i m s2
  rw[<- round]at h1
  refine pM hm hT b hL (κ:=κ1) (by rw[g4]; exact h1) g5 g7 (dA _) _ λo iI a' κ' e0 e1 e2 e3 e4 Pc e5 _ e6 => ?_
  have Mz:((GY l.ws o.ex (KL o.ex o.fr) o.st).bind λr=>T.ret (Sum.inr r:l.sh.den⊕hJ l.ws)).leads (Sum.inl s2)->False:=by
   intro h
   obtain⟨y,h1,h2⟩:=T.ze.1 h
   have h2:(Sum.inr y:l.sh.den⊕hJ l.ws)=Sum.inl s2:=h2
   cases h2
  cases hox:o.ex<;>rw[hox]at e0 e6 Mz<;>simp only at e0
  ·cases e6
   obtain⟨y,h1,h2⟩:=T.ze.1 e0
   have h2:(Sum.inl y:l.sh.den⊕hJ l.ws)=Sum.inl s2:=h2
   cases h2
   have hlen:κ1.st.length<=l.sh.bs.length:=by rw[g4]; exact vG.ZE _ _
   obtain⟨κ2,q1,q2,q3,q4,q5,_⟩:=l.sh.ZW (n:=n) e3 e2 e4 hlen (by rw[e1]; exact h1)
   refine⟨m,Nat.lt_succ_self _,s2,hit,κ2,q1,q2,q3,g6.trans q4,q5,⟨q5.size,q5.defers,λt d hd => ?_⟩,λt ht=>(e5 t ht).trans (g8 t ht)⟩
   obtain⟨v,r1,r2⟩:=g7b.get t d hd
   exact⟨v,(e5 t (z7K _ t d hd)).trans r1,r2.mono q4⟩
  ·exact(Mz e0).elim
  ·exact(Mz e0).elim
  ·exact(Mz e0).elim
end
section
variable {P:Program} {xid:Nat} {tab:ez} {ro:Nat->Bool} {n:Nat} {H:Hints}
theorem Wp{κ:KS}(hI:Inv κ):∀ (rs:List Ty) (ds:List D) (x:Bt rs) (vs:List Value),(RW κ.st rs ds).leads x->qM κ ds vs->qM κ.all (QE rs x) vs/\∀ d∈QE rs x,Wt d=true
 | [],[],x,vs,h,hd=>by rw[hd.ql]; exact⟨.nil,λd hd=>by cases hd⟩
 | [],_::_,x,vs,h,hd=>h.elim
 | [τ],[],x,vs,h,hd=>h.elim
 | [τ],[d],x,vs,h,hd=>by
  obtain⟨v,us,rfl,h1,h2⟩:=hd.cons_inv
  rw[h2.ql]
  refine⟨.cons (X4 hI h1 h) .nil,λd hd => ?_⟩
  have hd:d∈[D.zC τ x]:=hd
  rw[List.mem_singleton]at hd
  subst hd; rfl
 | [τ],_::_::_,x,vs,h,hd=>h.elim
 | τ::σ::r,[],x,vs,h,hd=>h.elim
 | τ::σ::r,d::ds,x,vs,h,hd=>by
  obtain⟨y,h1,h2⟩:=T.ze.1 h
  obtain⟨z,h3,h4⟩:=T.ze.1 h2
  cases h4
  obtain⟨v,us,rfl,k1,k2⟩:=hd.cons_inv
  obtain⟨g1,g2⟩:=Wp hI (σ::r) ds z us h3 k2
  refine⟨.cons (X4 hI k1 h1) g1,λd hd => ?_⟩
  rcases List.mem_cons.1 hd with rfl | hd
  ·rfl
  ·grind
theorem zcM(hm:(uE P xid tab ro).P.follows .mixedOrders=true)(hT:yx P tab){f:Nat}{fn:Func}{code:Code}(hf:P.funcs[f]? = some fn)(hb:fn.body=some code)
  (hn:(fn.name == "runtime.NumGoroutine")=false) (hL:uC P fn.ntmps H code) {d:Dc} (h:∀ x,Sr (uE P xid tab ro) tab H fn code d x=d.F x):zG P f d:=by
 intro κ x zJ y xR hy hI ha
 rw[<- h]at hy
 unfold Sr at hy
 cases hle:Nat.ble (Xr d.ps x).length fn.ntmps with
 | false=>rw[hle]at hy; exact hy.elim
 | true =>
  rw[hle,cond_true]at hy
  have KF:=Nat.le_of_ble_eq_true hle
  refine .inl ⟨vt hf hn (by grind) κ.w,calls_of_wp hf hb ?_⟩
  have hR:=QF ha KF
  refine pM hm hT code hL (κ:=κ) (by rw[xR]; exact hy) hI hR (dA _) _ λo iI a' κe e0 e1 e2 e3 e4 _ _ _ e6 => ?_
  have fin:(iI=.normal\/iI=.ret)->((cj (uE P xid tab ro) o.fr o.st fn.results.toList).bind λds=>RW o.st d.rs ds).leads y ->
    bodyPost P fn (λe w'=>∃ κ':KS,κ'.w=w'/\κ'.st=[]/\Inv κ'/\Ext κ κ'/\wW κ' (.ret (QE d.rs y)) e) iI a' κe.w:=by
   intro hex h2
   obtain⟨ds,g1,g2⟩:=T.ze.1 h2
   rw[<- e1]at g1 g2
   obtain⟨vs,k1,k2⟩:=nk e2 e4 g1
   obtain⟨q1,q2⟩:=Nr hI xR e2 e3
   obtain⟨hl,hdat⟩:=Wp e2 d.rs ds y vs g2 k2
   have PW:qM (κe.bare (P3 κe)) (QE d.rs y) vs:=⟨hl.1,λi h1 h2=>n7 (hdat _ (List.getElem_mem h1)) (hl.2 i h1 h2)⟩
   have oU:a'.defers=[]/\∃ v,(results fn a'.tmps).run P κe.w=.ok v κe.w/\∃ κ':KS,κ'.w=κe.w/\κ'.st=[]/\Inv κ'/\Ext κ κ'/\wW κ' (.ret (QE d.rs y)) (.returned v) :=
    ⟨e4.defers,_,k1,κe.bare (P3 κe),rfl,rfl,q1,q2,_,rfl,Zj PW⟩
   rcases hex with rfl | rfl
   ·exact oU
   ·exact oU
  cases hox:o.ex<;>rw[hox]at e0 e6<;>simp only at e0
  ·exact fin (.inl e6) e0
  ·exact e0.elim
  ·exact fin (.inr e6) e0
  ·exact e0.elim
theorem K0{d:Dc}{f:Nat}(b:(ym d.ps->T (Bt d.rs))->ym d.ps->T (Bt d.rs))(hF:∀ x,d.F x=T.fix b x)(h:∀ F:ym d.ps->T (Bt d.rs),zG P f ⟨d.ps,d.rs,F⟩->zG P f ⟨d.ps,d.rs,b F⟩):zG P f d:=by
 have hN:∀ m,zG P f ⟨d.ps,d.rs,T.DU b m⟩:=by
  intro m
  induction m with
  | zero=>nofun
  | succ m ih=>exact h _ ih
 intro κ x zJ y xR hy hI ha
 rw[hF,T.mn]at hy
 obtain⟨m,hm⟩:=hy
 exact hN m κ x zJ y xR (hm m (Nat.le_refl _)) hI ha
theorem W0{fr:Fr}:∀ {n i:Nat} {ds:List D},IF fr n i=some ds->ds.length=n/\∀ j d,ds[j]? = some d->fr.get (i+j)=some d
 | 0,i,ds,h=>by cases h; exact⟨rfl,λj d hj=>by grind⟩
 | n+1,i,ds,h=>by
  simp only[IF]at h
  split at h
  ·rename_i d hd
   split at h
   ·rename_i r hr
    obtain⟨h1,h2⟩:=W0 hr
    grind
   ·cases h
  ·cases h
theorem z6H(hm:(uE P xid tab ro).P.follows .mixedOrders=true)(hT:yx P tab){f:Nat}{fn:Func}{code:Code}(hf:P.funcs[f]? = some fn)(hb:fn.body=some code)
  (hn:(fn.name == "runtime.NumGoroutine")=false) (hL:uC P fn.ntmps H code) {d:kQ} (h:∀ x,FA (uE P xid tab ro) tab H fn code d x=d.F x):qQ P f d:=by
 intro κ x zJ y xR hy hI hlen TI
 rw[<- h]at hy
 unfold FA at hy
 cases hle:Nat.ble d.ks.length fn.ntmps&&Nat.ble d.sh.bs.length d.out.bs.length with
 | false=>rw[hle]at hy; exact hy.elim
 | true =>
  rw[hle,cond_true]at hy
  simp only[Bool.and_eq_true]at hle
  have NQ:=Nat.le_of_ble_eq_true hle.1
  have TP:=Nat.le_of_ble_eq_true hle.2
  refine .inl ⟨vt hf hn (by rw[hb]; rfl) κ.w,calls_of_wp hf hb ?_⟩
  have hR:Rel κ fn.ntmps (d.sh.fr x).get { tmps:=zJ.toArray++Array.replicate (fn.ntmps-zJ.toArray.size) undef,defers:=[] }:=by
   refine⟨by simp; omega,rfl,λs e hs => ?_⟩
   obtain⟨v,h1,h2⟩:=TI.get s e hs
   grind
  refine pM hm hT code hL (κ:=κ) (by rw[xR]; exact hy) hI hR (dA _) _ λo iI a' κe e0 e1 e2 e3 e4 _ _ _ e6 => ?_
  have fin:(iI=.normal\/iI=.ret)->((cj (uE P xid tab ro) o.fr o.st fn.results.toList).bind λds=>bif Nat.beq ds.length d.nr then(d.out.un (wL ds 0) o.st).bind λy=>bif (gY d.nr (d.out.fr y)).isSome then T.ret y else .fail else .fail).leads y ->
    bodyPost P fn (λe w'=>∃ (κ':KS) (ds:List D),κ'.w=w'/\κ'.st=d.out.st y/\Inv κ'/\Ext κ κ'/\gY d.nr (d.out.fr y)=some ds/\wW κ' (.ret ds) e) iI a' κe.w:=by
   intro hex h2
   obtain⟨ds,g1,g2⟩:=T.ze.1 h2
   cases hnr:Nat.beq ds.length d.nr with
   | false=>rw[hnr]at g2; exact g2.elim
   | true =>
    rw[hnr,cond_true]at g2
    obtain⟨y',g5,g3⟩:=T.ze.1 g2
    cases fg:gY d.nr (d.out.fr y')with
    | none=>rw[fg]at g3; exact g3.elim
    | some KN =>
     rw[fg]at g3
     have hyy:y'=y:=g3
     subst hyy
     rw[<- e1]at g1 g5
     obtain⟨vs,k1,k2⟩:=nk e2 e4 g1
     have hRr:Rel κe vs.length (wL ds 0).get { tmps:=vs.toArray,defers:=[] }:=by
      have:=QF (n:=vs.length) k2 (by rw[k2.1]; exact Nat.le_refl _)
      simpa[show(Ku.df:List Deferred)=[]from rfl]using this
     obtain⟨κ2,q1,q2,q3,q4,q5,_⟩:=d.out.ZW (κ0:=κ) e3 e2 hRr (by rw[xR]; exact Nat.le_trans (vG.ZE _ _) TP) g5
     obtain⟨l1,l2⟩:=W0 fg
     have hds:qM κ2 KN vs:=by
      refine⟨by rw[l1,<- k2.1]; exact(Nat.eq_of_beq_eq_true hnr).symm,λi h1 h2 => ?_⟩
      have:=l2 i KN[i] (List.getElem?_eq_getElem h1)
      rw[Nat.zero_add]at this
      obtain⟨v,r1,r2⟩:=q5.get i _ this
      grind
     have oU:a'.defers=[]/\∃ v,(results fn a'.tmps).run P κe.w=.ok v κe.w/\∃ (κ':KS) (ds:List D),κ'.w=κe.w/\κ'.st=d.out.st y'/\Inv κ'/\Ext κ κ'/\gY d.nr (d.out.fr y')=some ds/\wW κ' (.ret ds) (.returned v) :=
      ⟨e4.defers,_,k1,κ2,KN,q1,q2,q3,q4,fg,_,rfl,Zj hds⟩
     rcases hex with rfl | rfl
     ·exact oU
     ·exact oU
  cases hox:o.ex<;>rw[hox]at e0 e6<;>simp only at e0
  ·exact fin (.inl e6) e0
  ·exact e0.elim
  ·exact fin (.inr e6) e0
  ·exact e0.elim
theorem Hd{d:kQ}{f:Nat}(b:(d.sh.den->T d.out.den)->d.sh.den->T d.out.den)(hF:∀ x,d.F x=T.fix b x)(h:∀ F:d.sh.den->T d.out.den,qQ P f ⟨d.ks,d.sh,d.yv,d.out,d.nr,F⟩->qQ P f ⟨d.ks,d.sh,d.yv,d.out,d.nr,b F⟩):qQ P f d:=by
 have hN:∀ m,qQ P f ⟨d.ks,d.sh,d.yv,d.out,d.nr,T.DU b m⟩:=by
  intro m
  induction m with
  | zero=>nofun
  | succ m ih=>exact h _ ih
 intro κ x zJ y xR hy hI hl ha
 rw[hF,T.mn]at hy
 obtain⟨m,hm⟩:=hy
 exact hN m κ x zJ y xR (hm m (Nat.le_refl _)) hI hl ha
theorem Ew{κ κe:KS}{a':Act}{fn:Func}{o:F5}{nr:Nat}{out:vG}{y:out.den}(e1:κe.st=o.st)(e2:Inv κe)(e3:Ext κ κe)(e4:Rel κe fn.ntmps o.fr.get a')(hlen:κ.st.length<=out.bs.length)
  (h:((cj (uE P xid tab ro) o.fr o.st fn.results.toList).bind λds=>bif Nat.beq ds.length nr then(out.un (wL ds 0) o.st).bind λy=>bif (gY nr (out.fr y)).isSome then T.ret y else .fail else .fail).leads y) :
  ∃ v,(results fn a'.tmps).run P κe.w=.ok v κe.w/\∃ (κ':KS) (ds:List D),κ'.w=κe.w/\κ'.st=out.st y/\Inv κ'/\Ext κ κ'/\gY nr (out.fr y)=some ds/\wW κ' (.ret ds) (.returned v):=by
 obtain⟨ds,g1,g2⟩:=T.ze.1 h
 cases hnr:Nat.beq ds.length nr with
 | false=>rw[hnr]at g2; exact g2.elim
 | true =>
  rw[hnr,cond_true]at g2
  obtain⟨y',g5,g3⟩:=T.ze.1 g2
  cases fg:gY nr (out.fr y')with
  | none=>rw[fg]at g3; exact g3.elim
  | some KN =>
   rw[fg]at g3
   have hyy:y'=y:=g3
   subst hyy
   rw[<- e1]at g1 g5
   obtain⟨vs,k1,k2⟩:=nk e2 e4 g1
   have hRr:Rel κe vs.length (wL ds 0).get { tmps:=vs.toArray,defers:=[] }:=by
    have:=QF (n:=vs.length) k2 (by rw[k2.1]; exact Nat.le_refl _)
    simpa[show(Ku.df:List Deferred)=[]from rfl]using this
   obtain⟨κ2,q1,q2,q3,q4,q5,_⟩:=out.ZW (κ0:=κ) e3 e2 hRr hlen g5
   obtain⟨l1,l2⟩:=W0 fg
   have hds:qM κ2 KN vs:=by
    refine⟨by rw[l1,<- k2.1]; exact(Nat.eq_of_beq_eq_true hnr).symm,λi h1 h2 => ?_⟩
    have:=l2 i KN[i] (List.getElem?_eq_getElem h1)
    rw[Nat.zero_add]at this
    obtain⟨v,r1,r2⟩:=q5.get i _ this
    grind
   exact⟨_,k1,κ2,KN,q1,q2,q3,q4,fg,_,rfl,Zj hds⟩
theorem z7B{κ κe:KS}{ye:vG}{z:ye.den}{st:St}{t:Nat}{d:D}{u:Value}(e1:κe.st=st)(e2:Inv κe)(e3:Ext κ κe)(hlen:κ.st.length<=ye.bs.length)(hu:RD κe d u)
  (h:((ye.un [(0,some d)] st).bind λz=>match(ye.fr z).get 0 with | some _=>T.ret z | none=>.fail).leads z) :
  ∃ (κ':KS) (p:D),κ'.w=κe.w/\κ'.st=ye.st z/\Inv κ'/\Ext κ κ'/\(ye.fr z).get 0=some p/\wW κ' (.ye (.iface t p)) (.panicked [{ v:=.iface t u,recovered:=false }]):=by
 obtain⟨z',g1,g2⟩:=T.ze.1 h
 split at g2
 ·rename_i p hp
  have hzz:z'=z:=g2
  subst hzz
  have Ge:Rel κe 1 (Fr.get [(0,some d)]) { tmps := #[u],defers:=[] }:=by
   refine⟨rfl,rfl,λs d' hd => ?_⟩
   simp only[Fr.get]at hd
   cases hb:Nat.beq 0 s with
   | true =>
    have:=Nat.eq_of_beq_eq_true hb
    grind
   | false=>grind
  rw[<- e1]at g1
  obtain⟨κ2,q1,q2,q3,q4,q5,_⟩:=ye.ZW (κ0:=κ) e3 e2 Ge hlen g1
  obtain⟨v',r1,r2⟩:=q5.get 0 p hp
  cases r1
  exact⟨κ2,p,q1,q2,q3,q4,hp,_,rfl,.iface t p _ r2⟩
 ·exact g2.elim
theorem z86(hm:(uE P xid tab ro).P.follows .mixedOrders=true)(hT:yx P tab){f:Nat}{fn:Func}{code:Code}(hf:P.funcs[f]? = some fn)(hb:fn.body=some code)
  (hn:(fn.name == "runtime.NumGoroutine")=false) (hL:uC P fn.ntmps H code) {d:l9} (h:∀ x,Ev (uE P xid tab ro) tab H fn code d x=d.F x):yl P f d:=by
 intro κ x zJ y xR hy hI hlen TI
 rw[<- h]at hy
 unfold Ev at hy
 cases hle:Nat.ble d.ks.length fn.ntmps&&Nat.ble d.sh.bs.length d.out.bs.length&&Nat.ble d.sh.bs.length d.ye.bs.length with
 | false=>rw[hle]at hy; exact hy.elim
 | true =>
  rw[hle,cond_true]at hy
  simp only[Bool.and_eq_true]at hle
  have NQ:=Nat.le_of_ble_eq_true hle.1.1
  have TP:=Nat.le_of_ble_eq_true hle.1.2
  have zeN:=Nat.le_of_ble_eq_true hle.2
  refine .inl ⟨vt hf hn (by rw[hb]; rfl) κ.w,calls_of_wp hf hb ?_⟩
  have hR:Rel κ fn.ntmps (d.sh.fr x).get { tmps:=zJ.toArray++Array.replicate (fn.ntmps-zJ.toArray.size) undef,defers:=[] }:=by
   refine⟨by simp; omega,rfl,λs e hs => ?_⟩
   obtain⟨v,h1,h2⟩:=TI.get s e hs
   grind
  refine pM hm hT code hL (κ:=κ) (by rw[xR]; exact hy) hI hR (dA _) _ λo iI a' κe e0 e1 e2 e3 e4 _ _ _ e6 => ?_
  have fin:(iI=.normal\/iI=.ret)->((cj (uE P xid tab ro) o.fr o.st fn.results.toList).bind λds=>bif Nat.beq ds.length d.nr then(d.out.un (wL ds 0) o.st).bind λy=>bif (gY d.nr (d.out.fr y)).isSome then T.ret (Sum.inl y:d.out.den⊕d.ye.den)else .fail else .fail).leads y ->
    bodyPost P fn (λe w'=>∃ κ':KS,κ'.w=w'/\Inv κ'/\Ext κ κ'/\((∃ (y':d.out.den) (ds:List D),y=.inl y'/\κ'.st=d.out.st y'/\gY d.nr (d.out.fr y')=some ds/\wW κ' (.ret ds) e) \/
     ∃ (z:d.ye.den) (p:D),y=.inr z/\κ'.st=d.ye.st z/\(d.ye.fr z).get 0=some p/\wW κ' (.ye (.iface d.pt p)) e)) iI a' κe.w:=by
   intro hex h2
   have:∃ y',y=.inl y'/\((cj (uE P xid tab ro) o.fr o.st fn.results.toList).bind λds=>bif Nat.beq ds.length d.nr then(d.out.un (wL ds 0) o.st).bind λy=>bif (gY d.nr (d.out.fr y)).isSome then T.ret y else .fail else .fail).leads y':=by
    obtain⟨ds,g1,g2⟩:=T.ze.1 h2
    cases hnr:Nat.beq ds.length d.nr with
    | false=>rw[hnr]at g2; exact g2.elim
    | true =>
     rw[hnr,cond_true]at g2
     obtain⟨y',g5,g3⟩:=T.ze.1 g2
     cases fg:gY d.nr (d.out.fr y')with
     | none=>rw[fg]at g3; exact g3.elim
     | some KN =>
      rw[fg]at g3
      have g3:Sum.inl y'=y:=g3
      refine⟨y',g3.symm,T.ze.2 ⟨ds,g1,?_⟩⟩
      rw[hnr,cond_true]
      refine T.ze.2 ⟨y',g5,?_⟩
      rw[fg]; rfl
   obtain⟨y',rfl,Ie⟩:=this
   obtain⟨v,k1,κ',ds,q1,q2,q3,q4,q5,q6⟩:=Ew e1 e2 e3 e4 (by rw[xR]; exact Nat.le_trans (vG.ZE _ _) TP) Ie
   have oU:a'.defers=[]/\∃ v,(results fn a'.tmps).run P κe.w=.ok v κe.w/\∃ κ':KS,κ'.w=κe.w/\Inv κ'/\Ext κ κ'/\((∃ (y'':d.out.den) (ds:List D),(Sum.inl y':d.out.den⊕d.ye.den)=.inl y''/\κ'.st=d.out.st y''/\gY d.nr (d.out.fr y'')=some ds/\wW κ' (.ret ds) (.returned v)) \/
     ∃ (z:d.ye.den) (p:D),(Sum.inl y':d.out.den⊕d.ye.den)=.inr z/\κ'.st=d.ye.st z/\(d.ye.fr z).get 0=some p/\wW κ' (.ye (.iface d.pt p)) (.returned v)) :=
    ⟨e4.defers,v,k1,κ',q1,q3,q4,.inl ⟨y',ds,rfl,q2,q5,q6⟩⟩
   rcases hex with rfl | rfl
   ·exact oU
   ·exact oU
  cases hox:o.ex<;>rw[hox]at e0 e6<;>simp only at e0
  ·exact fin (.inl e6) e0
  ·exact e0.elim
  ·exact fin (.inr e6) e0
  ·rename_i p
   cases p<;>simp only at e0<;>first | exact e0.elim | skip
   rename_i t v
   cases ht:Nat.beq t d.pt with
   | false=>rw[ht]at e0; exact e0.elim
   | true =>
    rw[ht,cond_true]at e0
    have:=Nat.eq_of_beq_eq_true ht
    subst this
    obtain⟨u,rfl,hv⟩:=e6
    cases hv with
    | iface _ _ u hu =>
     have:∃ z,y=.inr z/\((d.ye.un [(0,some v)] o.st).bind λz=>match(d.ye.fr z).get 0 with | some _=>T.ret z | none=>.fail).leads z:=by
      obtain⟨z,g1,g2⟩:=T.ze.1 e0
      split at g2
      ·rename_i p hp
       have g2:Sum.inr z=y:=g2
       refine⟨z,g2.symm,T.ze.2 ⟨z,g1,?_⟩⟩
       rw[hp]; rfl
      ·exact g2.elim
     obtain⟨z,rfl,hz2⟩:=this
     obtain⟨κ',p,q1,q2,q3,q4,q5,q6⟩:=z7B (t:=d.pt) e1 e2 e3 (by rw[xR]; exact Nat.le_trans (vG.ZE _ _) zeN) hu hz2
     exact⟨e4.defers,κ',q1,q3,q4,.inr ⟨z,p,rfl,q2,q5,q6⟩⟩
theorem II{d:l9}{f:Nat}(b:(d.sh.den->T (d.out.den⊕d.ye.den))->d.sh.den->T (d.out.den⊕d.ye.den))(hF:∀ x,d.F x=T.fix b x)(h:∀ F:d.sh.den->T (d.out.den⊕d.ye.den),yl P f ⟨d.ks,d.sh,d.yv,d.out,d.nr,d.pt,d.ye,F⟩->yl P f ⟨d.ks,d.sh,d.yv,d.out,d.nr,d.pt,d.ye,b F⟩):yl P f d:=by
 have hN:∀ m,yl P f ⟨d.ks,d.sh,d.yv,d.out,d.nr,d.pt,d.ye,T.DU b m⟩:=by
  intro m
  induction m with
  | zero=>nofun
  | succ m ih=>exact h _ ih
 intro κ x zJ y xR hy hI hl ha
 rw[hF,T.mn]at hy
 obtain⟨m,hm⟩:=hy
 exact hN m κ x zJ y xR (hm m (Nat.le_refl _)) hI hl ha
end
noncomputable def ZA:Nat->Code->Option Code
 | k,.block id (.loop b)=>if k=id then some b else ZA k b
 | k,.seq a b=>match ZA k a with | some x=>some x | none=>ZA k b
 | k,.cond _ a b=>match ZA k a with | some x=>some x | none=>ZA k b
 | k,.block _ a=>ZA k a
 | _,_=>none
def HZ(P:Program)(n:Nat)(H:Hints):List (Nat×Code)->Prop
 | []=>True
 | p::r=>(∀ l,H.loop p.1=some l->Qd P n l p.2)/\HZ P n H r
theorem zp{P:Program}{n:Nat}{H:Hints}:HZ P n H []:=trivial
theorem qc{P:Program}{n:Nat}{H:Hints}{id:Nat}{b:Code}{r:List (Nat×Code)}{l:zW}(hl:H.loop id=some l)(h:Qd P n l b)(t:HZ P n H r):HZ P n H ((id,b)::r) :=
 ⟨λl' PW=>(Option.some.inj (hl.symm.trans PW))▸h,t⟩
theorem Xa{P:Program}{n:Nat}{H:Hints}{code:Code}{L:List (Nat×Code)}(h:xD code=L)(ha:HZ P n H L):uC P n H code:=by
 intro p hp
 rw[h]at hp
 clear h
 induction L with
 | nil=>cases hp
 | cons q r ih =>
  rcases List.mem_cons.1 hp with rfl | hp
  ·exact ha.1
  ·exact ih ha.2 hp
end Go.AM
namespace Go.AM
set_option linter.unusedSectionVars false
variable [ur]
open Go.RowKit Go.ChangeShapes
def Rp:(τs:List Ty)->Kr τs->ym (τs.map .ty)
 | [],_=>()
 | [_],x=>x.1
 | _::σ::r,x=>(x.1,Rp (σ::r) x.2)
theorem YJ:∀ (τs:List Ty) (x:Kr τs),Xr (τs.map .ty) (Rp τs x)=mkD τs x
 | [],_=>rfl
 | [_],_=>rfl
 | τ::σ::r,x=>congrArg (D.zC τ x.1 :: ·) (YJ (σ::r) x.2)
section
variable {H:Type} {enc:TypeId×Value->H} {P:Program} {xid m n:Nat}
theorem z8e{f:Nat}{fn:Func}(τs:List Ty){F:ym (τs.map .ty)->T (Bt [.bool])}(hS:zG P f ⟨τs.map .ty,[.bool],F⟩)(hf:P.funcs[f]? = some fn)(hbd:fn.body.isNone=false) (hnm:(fn.name == "runtime.NumGoroutine")=false)
  (hl:laidOutB P=true) (xid m n:Nat) (hts:QM P fn.params.toList=true) (hτ:fn.params.toList.map (Gq P xid n)=τs.map some) (hx:F9 P xid m=true)
  {bt:TypeId} (hr:fn.resultTypes = #[bt]) (hbt:P.underlying bt=some .bool) {s:ChangeSpec} (hv:s.vars=[]) (hs:∀ ds:List (DataW H),ds.length=τs.length->s.fn H ds={ results:=[.lit (.bool true)],args:=ds })
  (B:Nd H) {lim:Nat} (law:∀ x:Kr τs,wfL τs x->bkL τs x<=lim->(F (Rp τs x)).run=some true)
  {fresh handsOn:Bool} {W:World} {base:Nat} {args:Array Value} {ds gs:List (DataW H)} {before:List MemPlace}
  (hval:∀ (j:Nat) t v,fn.params[j]? = some t->args[j]? = some v->Value.okWide P W .any base t v)
  (hW:DataW.Whole enc P fn.params.toList s.vars false W args.toList ds gs before) (hk:B.bs (ds++gs)<=lim) (hG:Zz W λk=>k<W.heap.size) :
  Calls P f args W λe W'=>∃ v,e=.returned v/\s.post enc P fn false fresh handsOn false W args v W':=by
 refine NA (Dc.snd hS) hf hbd hnm hl xid m n τs hts hτ hx hr hbt hv hs B (λx hw hb => ?_) hval hW hk hG
 have h:=T.wV.1 (law x hw hb)
 rw[<- YJ τs x]
 exact T.ze.2 ⟨Rp τs x,Ht [] _ _,T.ze.2 ⟨true,h,rfl⟩⟩
end
end Go.AM