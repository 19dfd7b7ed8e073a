/-
  The abstract machine, part D: texts of our own, the same for each claim.
-/
import Derived.Test.YthhgaidlooddpaaGreatDoorAmA
import Derived.Lib.LaidTab
import Derived.Shelf.Vars
import Derived.Test.YthhgaidlooddpaaGreatDoorAmC
import Derived.OpenShut
import Derived.Test.YthhgaidlooddpaaGreatDoorAmB
import Derived.Lib.LazyBuf
set_option linter.unusedVariables false
namespace Go.AM
def CQ(k:IntKind)(zs:List Int)(o:Obj):Prop:=∃ t fr,o=.cells (zs.map λz=>Value.int k z).toArray t fr
def HY(k:IntKind)(o:Obj):Prop:=∃ m t fr,o=.cells #[.int k m] t fr
theorem SI{P:Program}{w:World}{name:String}{k:IntKind}{zs:List Int}{g:Nat}(hg:P.globalNamed name=some g)(h:Lib.TabIs P w name k zs) :
  g<w.heap.size/\∃ o,w.heap[g]? = some o/\CQ k zs o:=by
 unfold Lib.TabIs World.var? at h
 rw[hg]at h
 simp at h
 split at h
 ·rename_i cs t fr ho
  cases h
  exact⟨(Array.getElem?_eq_some_iff.1 ho).1,_,ho,t,fr,rfl⟩
 ·cases h
theorem z6k{P:Program}{w:World}{name:String}{k:IntKind}{zs:List Int}{g:Nat}(hg:P.globalNamed name=some g)(h:∃ o,w.heap[g]? = some o/\CQ k zs o):Lib.TabIs P w name k zs:=by
 obtain⟨o,ho,t,fr,rfl⟩:=h
 unfold Lib.TabIs World.var?
 grind
theorem OW{w:World}{k:IntKind}{g:Nat}(h:∃ o,w.heap[g]? = some o/\HY k o):∃ m,w.cell? ⟨g,0,none⟩=some (.int k m):=by
 obtain⟨o,ho,m,t,fr,rfl⟩:=h
 exact⟨m,by simp[World.cell?,ho]⟩
theorem NM{P:Program}{w:World}{g:Nat}{t:TypeId}{zero:Array Value}{k:IntKind}
  (h:w.ShapedOpen P) (hg:g<P.globals.size)
  (h0:((begin P (λ_ _=>0) default).world.heap[g]?).bind Obj.row? = some (zero,t)) (hz:zero.size=1)
  (hb:P.buildable t=true) (hc:P.cellTypes P.depth t=some [t]) (hu:P.underlying t=some (.int k)):g<w.heap.size/\∃ o,w.heap[g]? = some o/\HY k o:=by
 obtain⟨m,hm⟩:=Go.Proofs.cell_of_shapedOpen_int h hg h0 hz hb hc hu
 obtain⟨cs,hh,hs,_⟩:=h.1 g zero t hg h0
 have hl:cs.size=1:=hs.trans hz
 refine⟨(Array.getElem?_eq_some_iff.1 hh).1,_,hh,m,t,(0,0),?_⟩
 have h1:w.cell? ⟨g,0,none⟩=some cs[0]:=by simp[World.cell?,hh]
 have:cs = #[.int k m]:=by
  grind
 rw[this]
theorem O8{P:Program}{W:World}{name:String}{k:IntKind}{zs:List Int}{rest:List (String×DataW Unit)}{ps:List MemPlace}{g:Nat}{t e:TypeId}{n:Nat}
  (hg:P.globalNamed name=some g) (L0:(P.globals[g]?).map (·.type)=some t) (ht:P.underlying t=some (.array n e)) (he:P.underlying e=some (.int k)) (hce:P.cellsOf e=1) (hct:P.cellsOf t=n)
  (h:DataW.LaidVars P W ((name,Lib.tabData k zs)::rest) ps):g<W.heap.size/\∃ o,W.heap[g]? = some o/\CQ k zs o:=by
 obtain⟨g',t',cs,fuel,p,q,hg',ht',z9L,hd,_,_⟩:=h
 refine SI hg ?_
 obtain rfl:=Option.some.inj (hg.symm.trans hg')
 obtain rfl:=Option.some.inj (L0.symm.trans ht')
 unfold Lib.TabIs
 rw[z9L,<- Lib.cells_of_tab ht he hce hct hd]
theorem YT{P:Program}{W:World}{x:String×DataW Unit}{rest:List (String×DataW Unit)}{ps:List MemPlace}(h:DataW.LaidVars P W (x::rest) ps):∃ q,DataW.LaidVars P W rest q:=by
 obtain⟨g',t',cs,fuel,p,q,hg',ht',z9L,hd,h1,_⟩:=h
 grind
end Go.AM
namespace Go.AM
open Go.RowKit
mutual
def bkE:Expr->Nat
 | .mk _ n s l=>1+((1+((List.length n.2.1+1)+((List.length n.2.2.1+1)+1)))+((List.length s+1)+((bkEs l+1)+1)))
def bkEs:List Expr->Nat
 | []=>0
 | e::r=>bkE e+bkEs r
end
def K2{α:Type}(f:α->Nat):List α->Nat
 | []=>0
 | x::r=>f x+K2 f r
def bk:(τ:Ty)->den τ->Nat
 | .int _,_=>1
 | .bool,_=>1
 | .str,s=>List.length s+1
 | .sl e,l=>K2 (bk e) l+1
 | .nil,_=>1
 | .cons a b,x=>bk a x.1+bk b x.2
 | .expr,x=>bkE x
theorem Rp{α:Type}(l:List α):K2 (λ_=>1) l=l.length:=by induction l with | nil=>rfl | cons x r ih=>simp[K2]; omega
theorem z1Q(l:List Expr):bkEs l=K2 (bk .expr) l:=by induction l with | nil=>rfl | cons x r ih=>simp[bkEs,K2,ih,bk]
theorem z1z(x:Expr):bk Vg x.Tq=bk .expr x:=by
 cases x with | mk k n s l =>
 simp only[bk,Expr.Tq,bkE,z1Q,Expr.num,Expr.name,Expr.kids,Rp]
mutual
def wfE:Expr->Prop
 | .mk k n s l=>(IntKind.i64.min<=k/\k<=IntKind.i64.max)/\((True/\((∀ x∈n.2.1,IntKind.u32.min<=x/\x<=IntKind.u32.max)/\((∀ x∈n.2.2.1,IntKind.u32.min<=x/\x<=IntKind.u32.max)/\True)))/\(List.length s<=maxLen/\(wfEs l/\True)))
def wfEs:List Expr->Prop
 | []=>True
 | e::r=>wfE e/\wfEs r
end
def wf:(τ:Ty)->den τ->Prop
 | .int k,n=>k.min<=n/\n<=k.max
 | .bool,_=>True
 | .str,s=>List.length s<=maxLen
 | .sl e,l=>∀ x∈l,wf e x
 | .nil,_=>True
 | .cons a b,x=>wf a x.1/\wf b x.2
 | .expr,x=>wfE x
theorem z2J(l:List Expr):wfEs l↔∀ x∈l,wf .expr x:=by induction l with | nil=>simp[wfEs] | cons x r ih=>simp[wfEs,ih,wf]
theorem z1X(x:Expr):wf Vg x.Tq↔wf .expr x:=by
 cases x with | mk k n s l=>simp only[wf,Expr.Tq,wfE,z2J,Expr.kind,Expr.num,Expr.name,Expr.kids]
structure Oc(H:Type) where
 b:DataW H->Nat
 bs:List (DataW H)->Nat
 str:∀ s,b (.lit (.string s))=s.length+1
 bool:∀ x,b (.lit (.bool x))=1
 int:∀ k n,b (.lit (.int k n))=1
 nil:b .nil=1
 slice:∀ x y,b (.slice x y)=bs x+bs y+1
 agg:∀ x,b (.agg x)=bs x+1
 zero:bs []=0
 cons:∀ x r,bs (x::r)=b x+bs r
section
variable (P:Program) (xid:Nat)
def Wr:Nat->List Field->Bool
 | _,[]=>true
 | o,f::r=>Nat.beq f.offset o&&Wr (o+P.cellsOf f.type) r
def WC:Nat->List Field->Nat
 | o,[]=>o
 | o,f::r=>WC (o+P.cellsOf f.type) r
def YO:Nat->Nat->Option Ty
 | 0,_=>none
 | n+1,t=>bif Nat.beq t xid then some .expr else
  match P.underlying t with
  | some (.int k)=>some (.int k)
  | some .bool=>some .bool
  | some .string=>some .str
  | some (.slice e)=>match YO n e with | some a=>bif Nat.beq (P.cellsOf e) a.size&&Nat.blt 0 a.size then some (.sl a)else none | none=>none
  | some (.struct fs)=>bif Wr P 0 fs.toList&&Nat.beq (WC P 0 fs.toList) (P.cellsOf t)then dG (fs.toList.map λf=>YO n f.type)else none
  | _=>none
def Ez(m:Nat):Bool:=match P.underlying xid with
 | some (.struct fs)=>Wr P 0 fs.toList&&Nat.beq (WC P 0 fs.toList) (P.cellsOf xid)&&decide (dG (fs.toList.map λf=>YO P xid m f.type)=some Vg)
 | some _=>false
 | none=>true
end
section
variable {H:Type} {enc:TypeId×Value->H} {P:Program} {w:World} {xid m:Nat} (B:Oc H)
def JD(w:World)(B:Oc H)(τ:Ty)(cs:List Value)(k:Nat):Prop:=∃ x:den τ,Rc w (λk=>k<w.heap.size) τ x cs/\wf τ x/\bk τ x<=k
theorem Wu{fuel:Nat}{cs:List Value}(ih:∀ n t τ cs d ps,YO P xid n t=some τ->DataW.trod enc P w 0 (λ_=>true) true fuel t cs=some (d,ps)->JD w B τ cs (B.b d)){n:Nat} :
  ∀ (fs:List Field) (o:Nat) (τ:Ty) (xs:List (DataW H×List MemPlace)),dG (fs.map λf=>YO P xid n f.type)=some τ->Wr P o fs=true->WC P o fs=cs.length->xs.length=fs.length ->
   (∀ (i:Nat) (f:Field),fs[i]? = some f->DataW.trod enc P w 0 (λ_=>true) true fuel f.type ((cs.drop f.offset).take (P.cellsOf f.type))=xs[i]?)->JD w B τ (cs.drop o) (B.bs (xs.map (·.1))+1)
 | [],o,τ,xs,ht,_,he,hl,_=>by
  cases ht
  simp only[WC]at he
  obtain rfl:xs=[]:=List.eq_nil_of_length_eq_zero hl
  refine⟨(),?_,trivial,by simp[bk]⟩
  rw[he,List.drop_length]; exact .nil
 | f::r,o,τ,xs,ht,ho,he,hl,hx=>by
  cases xs with
  | nil=>simp at hl
  | cons x xs =>
  simp only[Wr,Bool.and_eq_true]at ho
  have ho1:f.offset=o:=Nat.eq_of_beq_eq_true ho.1
  simp only[List.map_cons]at ht
  cases h1:YO P xid n f.type with
  | none=>rw[h1]at ht; cases ht
  | some a =>
   rw[h1]at ht
   simp only[dG]at ht
   cases h2:dG (r.map λf=>YO P xid n f.type)with
   | none=>grind
   | some b =>
    rw[h2]at ht
    cases ht
    obtain⟨x1,p1,p2,p3⟩:=ih n f.type a _ x.1 x.2 h1 (by have:=hx 0 f rfl; simpa using this)
    obtain⟨x2,q1,q2,q3⟩:=Wu ih r (o+P.cellsOf f.type) b xs h2 ho.2 he (by simpa using hl) (λi g hg=>by have:=hx (i+1) g (by simpa using hg); simpa using this)
    refine⟨(x1,x2),?_,⟨p2,q2⟩,?_⟩
    ·have e:cs.drop o=(cs.drop o).take (P.cellsOf f.type)++cs.drop (o+P.cellsOf f.type):=by
      conv=>lhs; rw[<- List.take_append_drop (P.cellsOf f.type) (cs.drop o)]
      simp
     rw[e]
     rw[ho1]at p1
     exact .cons _ _ _ _ _ _ p1 q1
    ·simp only[bk,List.map_cons,B.cons]; omega
theorem Ge{e:Ty}(k:Nat):∀ (n:Nat) (elems:List (DataW H×List MemPlace)) (g:Nat->List Value),elems.length=n->(∀ i,i<n->∃ d,elems[i]? = some d/\JD w B e (g i) (B.b d.1)) ->
  ∃ l:List (den e),l.length=n/\(∀ i (hi:i<l.length),Rc w (λk=>k<w.heap.size) e l[i] (g i))/\(∀ x∈l,wf e x)/\K2 (bk e) l<=B.bs (elems.map (·.1))
 | 0,elems,g,hl,_=>by
  exact⟨[],rfl,λi hi=>absurd hi (Nat.not_lt_zero i),by simp,by simp[K2]⟩
 | n+1,elems,g,hl,h=>by
  cases elems with
  | nil=>simp at hl
  | cons y ys =>
   obtain⟨d,h1,x,h2,h3,h4⟩:=h 0 (by omega)
   simp at h1
   subst h1
   obtain⟨l,l1,l2,l3,l4⟩:=Ge k n ys (λi=>g (i+1)) (by grind) λi hi=>by
    obtain⟨d,h1,h2⟩:=h (i+1) (by omega)
    exact⟨d,by grind,h2⟩
   refine⟨x::l,by grind,λi hi => ?_,λz hz => ?_,?_⟩
   ·grind
   ·grind
   ·simp only[K2,List.map_cons,B.cons]; omega
theorem P9(hx:Ez P xid m=true):∀ (fuel n t:Nat) (τ:Ty) (cs:List Value) (d:DataW H) (ps:List MemPlace),YO P xid n t=some τ->DataW.trod enc P w 0 (λ_=>true) true fuel t cs=some (d,ps)->JD w B τ cs (B.b d):=by
 intro fuel
 induction fuel with
 | zero=>nofun
 | succ fuel ih =>
  intro n t τ cs d ps ht h
  have struct:∀ (fs:Array Field) (k:Nat) (σ:Ty),P.underlying t=some (.struct fs)->(Wr P 0 fs.toList&&Nat.beq (WC P 0 fs.toList) (P.cellsOf t))=true->dG (fs.toList.map λf=>YO P xid k f.type)=some σ->JD w B σ cs (B.b d):=by
   intro fs k σ hu ho hc
   simp only[Bool.and_eq_true]at ho
   obtain⟨xs,n',hn,hd,hl,hlx,U6⟩:=DataW.trod_struct hu h
   cases hn
   cases hd
   have:=Wu B (cs:=cs) (ih:=ih) fs.toList 0 σ xs hc ho.1 (by rw[Nat.eq_of_beq_eq_true ho.2,hl]) (by simpa using hlx) (λi f hf=>U6 i f (by simpa using hf))
   rw[B.agg]
   grind
  cases n with
  | zero=>cases ht
  | succ n =>
   unfold YO at ht
   cases hb:Nat.beq t xid with
   | true =>
    rw[hb,cond_true]at ht
    cases ht
    have:=Nat.eq_of_beq_eq_true hb
    subst this
    unfold Ez at hx
    split at hx
    ·rename_i fs hu
     simp only[Bool.and_eq_true,decide_eq_true_eq]at hx
     obtain⟨x,h1,h2,h3⟩:=struct fs m Vg hu (by simp[hx.1.1,hx.1.2]) hx.2
     refine⟨Expr.Ft x,.expr _ _ _ _ _ h1,?_,?_⟩
     ·exact(z1X (Expr.Ft x)).1 h2
     ·rw[<- z1z (Expr.Ft x)]; exact h3
    ·cases hx
    ·rename_i hu
     rw[DataW.trod_step]at h
     simp[DataW.trodStep,hu]at h
   | false =>
    rw[hb,cond_false]at ht
    split at ht
    ·rename_i k hu
     cases ht
     obtain⟨n',rfl,h2,h3⟩:=DataW.trod_int hu h
     cases h2
     simp only[Lit.wf,Bool.and_eq_true,decide_eq_true_eq]at h3
     exact⟨n',.int k n',h3,by simp[bk,B.int]⟩
    ·rename_i hu
     cases ht
     obtain⟨b,rfl,h2⟩:=DataW.trod_bool hu h
     cases h2
     exact⟨b,.bool b,trivial,by simp[bk,B.bool]⟩
    ·rename_i hu
     cases ht
     obtain⟨s,rfl,h2,h3⟩:=DataW.trod_string hu h
     cases h2
     refine⟨s.data.toList,?_,?_,?_⟩
     ·have:s=⟨s.data.toList.toArray⟩:=by cases s; simp
      exact .str _
     ·simp only[wf,Array.length_toList]; exact h3
     ·simp[bk,B.str]
    ·rename_i e hu
     split at ht
     ·rename_i a ha
      cases hc:Nat.beq (P.cellsOf e) a.size&&Nat.blt 0 a.size with
      | false=>grind
      | true =>
       rw[hc,cond_true]at ht
       cases ht
       simp only[Bool.and_eq_true]at hc
       have jA:P.cellsOf e=a.size:=Nat.eq_of_beq_eq_true hc.1
       have Zy:0<a.size:=Nat.le_of_ble_eq_true hc.2
       rcases DataW.trod_slice hu h with⟨rfl,h2⟩ | ⟨p,len,cap,elems,rest,n',hn,rfl,hd,_,vO,_,hlen,hel,hre,_⟩
       ·cases h2
        exact⟨[],.lp a none,by simp[wf],by simp[bk,K2,B.nil]⟩
       ·cases hn
        cases hd
        by_cases h0:cap=0
        ·subst h0
         have:len=0:=by omega
         subst this
         exact⟨[],.lp a (some p),by simp[wf],by simp[bk,K2,B.slice]⟩
        ·rw[jA]at hel hre
         have z73:p.block<w.heap.size/\p.spot=none:=by
          have first:∃ x,(w.cells? 0 p a.size)=some x:=by
           by_cases hl:len=0
           ·have:=(hre rfl).2 0 (by omega)
            cases Pt:w.cells? 0 p a.size with
            | some x=>simp
            | none =>
             have e0:p.add ((0+0)*a.size)=p:=by simp[Addr.add]
             grind
           ·have:=hel 0 (by omega)
            cases Pt:w.cells? 0 p a.size with
            | some x=>simp
            | none =>
             have e0:p.add (0*a.size)=p:=by simp[Addr.add]
             grind
          obtain⟨x,hx⟩:=first
          refine⟨World.cells?_block hx Zy,?_⟩
          have h2:=(World.cells?_some hx).2
          have h3:=h2.2 0 Zy
          have e0:p.add 0=p:=rfl
          cases hs:p.spot with
          | none=>rfl
          | some q =>
           unfold World.cell? at h3
           grind
         obtain⟨blk,off,sp⟩:=p
         obtain⟨S7,mb⟩:=z73
         subst mb
         have hg:∀ i,∃ c:List Value,i<len->∃ d,elems[i]? = some d/\JD w B a c (B.b d.1)/\w.cells? 0 ⟨blk,off+i*a.size,none⟩ a.size=some c:=by
          intro i
          by_cases hi:i<len
          ·have:=hel i hi
           rw[ub]at this
           cases Pt:w.cells? 0 ⟨blk,off+i*a.size,none⟩ a.size with
           | none =>
            grind
           | some c =>
            refine⟨c,λ_=>⟨elems[i]'(by omega),by simp,?_,rfl⟩⟩
            grind
          ·exact⟨[],λh=>absurd h hi⟩
         let g:Nat->List Value:=λi=>Classical.choose (hg i)
         have hg':∀ i,i<len->∃ d,elems[i]? = some d/\JD w B a (g i) (B.b d.1)/\w.cells? 0 ⟨blk,off+i*a.size,none⟩ a.size=some (g i):=λi hi=>Classical.choose_spec (hg i) hi
         obtain⟨l,l1,l2,l3,l4⟩:=Ge B (w:=w) (e:=a) 0 len elems g hlen λi hi=>by
          grind
         refine⟨l,?_,l3,?_⟩
         ·have:=Rc.sl (w:=w) (ok:=λk=>k<w.heap.size) a l blk off cap g S7 (by omega) l2 λi hi j v hj=>by
           obtain⟨d,_,_,h3⟩:=hg' i (by omega)
           obtain⟨_,k2,k3⟩:=World.cells?_some h3
           have Ph:j<(g i).length:=(List.getElem?_eq_some_iff.1 hj).1
           have:=k3 j (by omega)
           rw[ub,hj]at this
           exact this
          grind
         ·simp only[bk,B.slice]; omega
     ·cases ht
    ·rename_i fs hu
     cases hc:Wr P 0 fs.toList&&Nat.beq (WC P 0 fs.toList) (P.cellsOf t)with
     | false=>grind
     | true =>
      rw[hc,cond_true]at ht
      exact struct fs n τ hu hc ht
    ·cases ht
end
end Go.AM
namespace Go.AM
set_option linter.unusedSectionVars false
variable [uy]
open Go.RowKit Go.ChangeShapes
def KZ:List Ty->Type
 | []=>Unit
 | τ::r=>den τ×KZ r
def mkD:(τs:List Ty)->KZ τs->List D
 | [],_=>[]
 | τ::r,x=>.zC τ x.1::mkD r x.2
def wfL:(τs:List Ty)->KZ τs->Prop
 | [],_=>True
 | τ::r,x=>wf τ x.1/\wfL r x.2
def bkL:(τs:List Ty)->KZ τs->Nat
 | [],_=>0
 | τ::r,x=>bk τ x.1+bkL r x.2
def Xc(P:Program)(ts:List Nat):Bool:=ts.all λt=>P.readableRec t&&decide (t<P.types.size)
section
variable {H:Type} {enc:TypeId×Value->H} {P:Program} {xid m n:Nat} {w:World}
theorem z8C{t:Nat}{τ:Ty}{v:Value}{base:Nat}(ht:YO P xid n t=some τ)(hx:Ez P xid m=true)(h:Value.okWide P w .any base t v):pk τ v.cells.toList=v:=by
 cases n with
 | zero=>cases ht
 | succ n =>
  have agg:∀ fs:Array Field,P.underlying t=some (.struct fs)->τ.isAgg=true->pk τ v.cells.toList=v:=by
   intro fs hu ha
   unfold Value.okWide at h
   rw[hu]at h
   obtain⟨cs,rfl,_⟩:=h
   simp[pk,ha,Value.cells]
  unfold YO at ht
  cases hb:Nat.beq t xid with
  | true =>
   rw[hb,cond_true]at ht
   cases ht
   have:=Nat.eq_of_beq_eq_true hb
   subst this
   unfold Ez at hx
   split at hx
   ·rename_i fs hu; exact agg fs hu rfl
   ·cases hx
   ·rename_i hu
    unfold Value.okWide at h
    rw[hu]at h
    simp[Cell.okWide,Cell.ok,hu]at h
  | false =>
   rw[hb,cond_false]at ht
   split at ht
   ·rename_i k hu
    cases ht
    unfold Value.okWide at h
    rw[hu]at h
    simp only[Cell.okWide,hu,Cell.ok]at h
    split at h<;>simp_all [pk,Ty.isAgg,Value.cells]
   ·rename_i hu
    cases ht
    unfold Value.okWide at h
    rw[hu]at h
    simp only[Cell.okWide,hu,Cell.ok]at h
    split at h<;>simp_all [pk,Ty.isAgg,Value.cells]
   ·rename_i hu
    cases ht
    unfold Value.okWide at h
    rw[hu]at h
    simp only[Cell.okWide,hu,Cell.ok]at h
    split at h<;>simp_all [pk,Ty.isAgg,Value.cells]
   ·rename_i e hu
    have h1:τ.isAgg=false:=by
     split at ht
     ·rename_i a ha
      cases hc:Nat.beq (P.cellsOf e) a.size&&Nat.blt 0 a.size with
      | false=>grind
      | true=>rw[hc,cond_true]at ht; cases ht; rfl
     ·cases ht
    unfold Value.okWide at h
    rw[hu]at h
    simp only[Cell.okWide,hu,Cell.ok]at h
    split at h<;>simp_all [pk,Value.cells]
   ·rename_i fs hu
    refine agg fs hu ?_
    cases hc:Wr P 0 fs.toList&&Nat.beq (WC P 0 fs.toList) (P.cellsOf t)with
    | false=>grind
    | true =>
     rw[hc,cond_true]at ht
     have key:∀ (l:List (Option Ty)),dG l=some τ->τ.isAgg=true:=by
      intro l hl
      cases l with
      | nil=>cases hl; rfl
      | cons a r =>
       cases a with
       | none=>cases hl
       | some a =>
        simp only[dG]at hl
        cases h2:dG r with
        | none=>grind
        | some b=>rw[h2]at hl; cases hl; rfl
     grind
   ·cases ht
theorem Cy(B:Oc H)(hx:Ez P xid m=true){base:Nat}:∀ (ts:List TypeId) (τs:List Ty) (vs:List Value) (ds:List (DataW H)) (ps:List MemPlace),ts.map (YO P xid n)=τs.map some ->
  DataW.TrodAll enc P w 0 (λ_=>true) true ts vs ds ps->(∀ (j:Nat) t v,ts[j]? = some t->vs[j]? = some v->Value.okWide P w .any base t v) ->
  ∃ x:KZ τs,qN ⟨w,λk=>k<w.heap.size,[],[]⟩ (mkD τs x) vs/\wfL τs x/\bkL τs x<=B.bs ds/\ds.length=τs.length
 | [],τs,vs,ds,ps,ht,h,_=>by
  cases τs with
  | cons=>cases ht
  | nil =>
   cases vs<;>cases ds<;>simp only[DataW.TrodAll]at h
   exact⟨(),⟨rfl,λi h1=>absurd h1 (Nat.not_lt_zero i)⟩,trivial,Nat.zero_le _,rfl⟩
 | t::ts,τs,vs,ds,ps,ht,h,hv=>by
  cases τs with
  | nil=>cases ht
  | cons τ τs =>
   simp at ht
   cases vs with
   | nil=>simp[DataW.TrodAll]at h
   | cons v vs =>
    cases ds with
    | nil=>simp[DataW.TrodAll]at h
    | cons d ds =>
     obtain⟨p,q,⟨fuel,h1⟩,h2,_⟩:=h
     obtain⟨x,k1,k2,k3⟩:=P9 B hx fuel n t τ _ d p ht.1 h1
     obtain⟨y,g1,g2,g3,g4⟩:=Cy B hx ts τs vs ds q ht.2 h2 λj t v a b=>hv (j+1) t v (by grind) (by grind)
     refine⟨(x,y),⟨by simp only[mkD,List.length_cons]; rw[g1.1],λi h1 h2 => ?_⟩,⟨k2,g2⟩,?_,by grind⟩
     ·cases i with
      | zero =>
       have:=RD.zC (κ:=⟨w,λk=>k<w.heap.size,[],[]⟩) τ x _ k1
       rw[z8C ht.1 hx (hv 0 t v rfl rfl)]at this
       exact this
      | succ i=>exact g1.2 i (by simpa[mkD]using h1) (by grind)
     ·simp only[bkL,B.cons]; omega
theorem Ys(hl:laidOutB P=true){W W':World}(hb:Below W.heap.size W W'):∀ (ts:List TypeId) (vs:List Value) (ds:List (DataW H)) (ps:List MemPlace),Xc P ts=true ->
  DataW.TrodAll enc P W 0 (λ_=>true) true ts vs ds ps->(∀ x∈ps,x.block<W.heap.size)->DataW.TrodAll enc P W' 0 (λb=>decide (b<W.heap.size)) true ts vs ds ps
 | [],vs,ds,ps,_,h,_=>by cases vs<;>cases ds<;>simp_all [DataW.TrodAll]
 | t::ts,vs,ds,ps,ht,h,qD=>by
  cases vs with
  | nil=>simp[DataW.TrodAll]at h
  | cons v vs =>
   cases ds with
   | nil=>simp[DataW.TrodAll]at h
   | cons d ds =>
    obtain⟨p,q,h1,h2,rfl⟩:=h
    simp only[Xc,List.all_cons,Bool.and_eq_true,decide_eq_true_eq]at ht
    exact⟨p,q,Below.trod hl ht.1.1 ht.1.2 h1 hb λx hx=>qD x (by grind),Ys hl hb ts vs ds q (by simpa[Xc]using ht.2) h2 λx hx=>qD x (by grind),rfl⟩
end
theorem NR{H:Type}{enc:TypeId×Value->H}{P:Program}{f:Nat}{fn:Func}{S:List D->St->T (Bv×St)}(hS:BC P f S)(hf:P.funcs[f]? = some fn)(hbd:fn.body.isNone=false) (hnm:(fn.name == "runtime.NumGoroutine")=false)
  (hl:laidOutB P=true) (xid m n:Nat) (τs:List Ty) (hts:Xc P fn.params.toList=true) (hτ:fn.params.toList.map (YO P xid n)=τs.map some) (hx:Ez P xid m=true)
  {bt:TypeId} (hr:fn.resultTypes = #[bt]) (hbt:P.underlying bt=some .bool) {s:ChangeSpec} (hv:s.vars=[]) (hs:∀ ds:List (DataW H),ds.length=τs.length->s.fn H ds={ results:=[.lit (.bool true)],args:=ds })
  (B:Oc H) {lim:Nat} (law:∀ x:KZ τs,wfL τs x->bkL τs x<=lim->(S (mkD τs x) []).leads (.ret [.zC .bool true],[]))
  {fresh handsOn:Bool} {W:World} {base:Nat} {args:Array Value} {ds gs:List (DataW H)} {before:List MemPlace}
  (hval:∀ (j:Nat) t v,fn.params[j]? = some t->args[j]? = some v->Value.okWide P W .any base t v)
  (hW:DataW.Whole enc P fn.params.toList s.vars false W args.toList ds gs before) (hk:B.bs (ds++gs)<=lim) (hG:ZI W λk=>k<W.heap.size) :
  Calls P f args W λe W'=>∃ v,e=.returned v/\s.post enc P fn false fresh handsOn false W args v W':=by
 have hW':=hW
 obtain⟨p,q,hA,hV,rfl,hfz,Nl⟩:=hW
 rw[hv]at hV
 obtain⟨rfl,rfl⟩:=trodVars_none hV
 simp only[List.append_nil]at hk hW'
 obtain⟨x,h1,h2,h3,h4⟩:=Cy (n:=n) B hx fn.params.toList τs args.toList ds p hτ hA λj t v a b=>hval j t v (by grind) (by grind)
 have hI:Inv ⟨W,λk=>k<W.heap.size,[],[]⟩ :=
  ⟨rfl,λk hk=>hk,λb blk n h=>by grind,λb b' blk n n' h=>by simp at h,λb x h=>by simp at h,hG⟩
 have z5u:=hS ⟨W,λk=>k<W.heap.size,[],[]⟩ (mkD τs x) args.toList _ _ (law x h2 (Nat.le_trans h3 hk)) hI h1
 rw[Array.toArray_toList]at z5u
 have key:Calls P f args W λe w'=>∃ κ':KS,κ'.w=w'/\κ'.st=[]/\Inv κ'/\Ext ⟨W,λk=>k<W.heap.size,[],[]⟩ κ'/\wX κ' (.ret [.zC .bool true]) e:=by
  rcases z5u with⟨_,h⟩ | ⟨v,w',h,_⟩
  ·exact h
  ·have:=vy (args:=args) hf hnm hbd W
   grind
 refine key.mono λe W' ⟨κ',e1,_,_,e4,v,e5,e6⟩ => ?_
 subst e1
 have hb:Below W.heap.size W κ'.w:=⟨e4.os,e4.tape,e4.output,e4.size,λk hk=>e4.frame k hk λb n h=>by simp at h⟩
 have hv':v=.bool true:=by
  obtain⟨cs,g1,g2⟩:=RD.bH (show RD κ' (.zC .bool true) v from e6)
  rw[g1.kt]at g2
  exact g2
 subst hv'
 have qD:∀ x∈p,x.block<W.heap.size:=λx hx=>by simpa using hW'.lt x hx
 refine⟨_,e5,ds,[],p,[],p,[],hW',?_,?_,?_,hb.frame _,λh=>by cases h⟩
 ·rw[List.append_nil,hs ds h4,hr]
  exact trodAll_cons_mk (shut_bool hbt _) trodAll_mk0
 ·rw[List.append_nil,hs ds h4]
  exact Ys hl hb _ _ _ _ hts hA qD
 ·rw[List.append_nil,hs ds h4,hv]
  rfl
end Go.AM
namespace Go.AM
def BG:List Ty->Type
 | []=>Unit
 | [τ]=>den τ
 | τ::σ::r=>den τ×BG (σ::r)
def XP.ty:XP->Ty | .rp τ=>τ | .im τ=>τ
def ba:List XP->Type
 | []=>Unit
 | [p]=>den p.ty
 | p::q::r=>den p.ty×ba (q::r)
def Gr:(p:XP)->den p.ty->D
 | .rp τ,x=>.xg τ x
 | .im τ,x=>.zC τ x
def nk:(l:List XP)->ba l->List D
 | [],_=>[]
 | [p],x=>[Gr p x]
 | p::q::r,x=>Gr p x.1::nk (q::r) x.2
def Cl:(l:List XP)->ba l
 | []=>()
 | [p]=>zn p.ty
 | p::q::r=>(zn p.ty,Cl (q::r))
inductive Sk where
 | im (τ:Ty) | row (b:Nat) (e:Ty) | op (b T:Nat) | un
def dJ:List Sk->Type
 | []=>Unit
 | .im τ::r=>den τ×dJ r
 | .row _ _::r=>dJ r
 | .op _ _::r=>dJ r
 | .un::r=>dJ r
def Qq:(l:List Sk)->dJ l
 | []=>()
 | .im τ::r=>(zn τ,Qq r)
 | .row _ _::r=>Qq r
 | .op _ _::r=>Qq r
 | .un::r=>Qq r
inductive Mc where
 | im (τ:Ty) | rp (τ:Ty) | pt (b:Nat)
def nB:List Mc->Type
 | []=>Unit
 | .im τ::r=>den τ×nB r
 | .rp τ::r=>den τ×nB r
 | .pt _::r=>nB r
def VG:(l:List Mc)->nB l
 | []=>()
 | .im τ::r=>(zn τ,VG r)
 | .rp τ::r=>(zn τ,VG r)
 | .pt _::r=>VG r
def Z1:(l:List Mc)->nB l->List D
 | [],_=>[]
 | .im τ::r,x=>.zC τ x.1::Z1 r x.2
 | .rp τ::r,x=>.xg τ x.1::Z1 r x.2
 | .pt b::r,x=>.ptr b 0::Z1 r x
inductive Dk where
 | zC (τ:Ty) | xg (τ:Ty) | sub (b:Nat) (e:Ty) | xl (f:Nat) (caps:List XP) | st (ks:List Sk) | mclo (f:Nat) (ms:List Mc)
inductive Ck where
 | ptr (b off:Nat) | cur (b:Nat) (e:Ty) | xH | yR | xj | xl (f:Nat) (l:List (Nat×Nat))
inductive Bk where
 | var (k:Dk) | cvar (k:Ck) | arr (e:Ty) | dead
def Dk.den:Dk->Type
 | .zC τ=>AM.den τ
 | .xg τ=>AM.den τ
 | .sub _ _=>Nat×Nat
 | .xl _ caps=>ba caps
 | .st ks=>dJ ks
 | .mclo _ ms=>nB ms
def Dk.zn:(k:Dk)->k.den
 | .zC τ=>AM.zn τ
 | .xg τ=>AM.zn τ
 | .sub _ _=>(0,0)
 | .xl _ caps=>Cl caps
 | .st ks=>Qq ks
 | .mclo _ ms=>VG ms
inductive It where
 | s (t:Nat) (k:Dk) | v (k:Dk) | a (e:Ty)
def It.den:It->Type
 | .s _ k=>k.den
 | .v k=>k.den
 | .a e=>List (AM.den e)
def It.zn:(i:It)->i.den
 | .s _ k=>k.zn
 | .v k=>k.zn
 | .a _=>[]
def vu:List It->Type
 | []=>Unit
 | [i]=>i.den
 | i::j::r=>i.den×vu (j::r)
def zbW:yg->Nat
 | .arr v _ _=>v
 | _=>0
def wu(st:St)(b:Nat):Nat:=match st[b]? with | some x=>zbW x | none=>0
def vN(st:St):(l:List Sk)->dJ l->List D
 | [],_=>[]
 | .im τ::r,x=>AM.flat τ x.1++vN st r x.2
 | .row b e::r,x=>.ms b (wu st b) e 0 (wu st b)::vN st r x
 | .op b T::r,x=>.yu b T::vN st r x
 | .un::r,x=>.tP::vN st r x
def tg(st:St):(k:Dk)->k.den->D
 | .zC τ,x=>.zC τ x
 | .xg τ,x=>.xg τ x
 | .sub b e,x=>.ms b (wu st b) e x.1 x.2
 | .xl f caps,x=>.xl f (nk caps x)
 | .st ks,x=>.agg (vN st ks x)
 | .mclo f ms,x=>.xl f (Z1 ms x)
def Dq(st:St):Ck->D
 | .ptr b off=>.ptr b off
 | .cur b e=>.ms b (wu st b) e 0 (wu st b)
 | .xH=>.xH
 | .yR=>.yR
 | .xj=>.xj
 | .xl f l=>.xl f (l.map λp=>.ptr p.1 p.2)
def fV(st:St):(l:List It)->vu l->Fr
 | [],_=>[]
 | [.s t k],x=>[(t,some (tg st k x))]
 | [.v _],_=>[]
 | [.a _],_=>[]
 | .s t k::j::r,x=>(t,some (tg st k x.1))::fV st (j::r) x.2
 | .v _::j::r,x=>fV st (j::r) x.2
 | .a _::j::r,x=>fV st (j::r) x.2
def z8f(st:St)(l:List (Nat×Ck)):Fr:=l.map λp=>(p.1,some (Dq st p.2))
inductive Bd where
 | v (k:Dk) (x:k.den) | a (e:Ty) (x:List (AM.den e))
def nq:(l:List It)->vu l->List Bd
 | [],_=>[]
 | [.s _ _],_=>[]
 | [.v k],x=>[.v k x]
 | [.a e],x=>[.a e x]
 | .s _ _::j::r,x=>nq (j::r) x.2
 | .v k::j::r,x=>.v k x.1::nq (j::r) x.2
 | .a e::j::r,x=>.a e x.1::nq (j::r) x.2
def cd:List Bk->List Bd->St
 | [],_=>[]
 | .arr _::r,.a e x::d=>.arr x.length e x::cd r d
 | .var _::r,_::d=>.dead::cd r d
 | .cvar _::r,d=>.dead::cd r d
 | .dead::r,d=>.dead::cd r d
 | _::_,_=>[]
def ui(st:St):List Bk->List Bd->St
 | [],_=>[]
 | .arr _::r,.a e x::d=>.arr x.length e x::ui st r d
 | .var _::r,.v k x::d=>.var (tg st k x)::ui st r d
 | .cvar c::r,d=>.var (Dq st c)::ui st r d
 | .dead::r,d=>.dead::ui st r d
 | _::_,_=>[]
def zgJ(bs:List Bk)(d:List Bd):St:=ui (cd bs d) bs d
structure vH where
 oF:List It
 cs:List (Nat×Ck)
 bs:List Bk
def vH.den(s:vH):Type:=vu s.oF
def vH.st(s:vH)(x:s.den):St:=zgJ s.bs (nq s.oF x)
def vH.fr(s:vH)(x:s.den):Fr:=fV (s.st x) s.oF x++z8f (s.st x) s.cs
def Li:(p:XP)->D->Option (den p.ty)
 | .rp τ,d=>match d with | .xg _ x=>vT x | _=>none
 | .im τ,d=>iu τ d
def Fz:(l:List XP)->List D->Option (ba l)
 | [],[]=>some ()
 | [p],[d]=>Li p d
 | p::q::r,d::ds=>(Li p d).bind λx=>(Fz (q::r) ds).bind λy=>some (x,y)
 | _,_=>none
def cn(st:St)(b:Nat):Nat:=match st[b]? with | some (.arr _ _ xs)=>xs.length | _=>0
def TJ(st:St)(b T:Nat)(ds:List D):Option (List D):=match st[b]? with
 | some (.var _)=>match ds with
  | .dx T'::ds=>bif Nat.beq T T' then some ds else none
  | .yu b' T'::ds=>bif Nat.beq b b'&&Nat.beq T T' then some ds else none
  | _=>none
 | _=>none
def z7k(ds:List D):Option (List D):=match ds with
 | d::ds=>bif d.one then some ds else none
 | _=>none
def iY(st:St):(l:List Sk)->List D->T (dJ l)
 | [],ds=>match ds with | []=>.ret () | _=>.fail
 | .im τ::r,ds=>match jW τ ds with | some p=>(iY st r p.2).bind λy=>.ret (p.1,y) | none=>.fail
 | .row b e::r,ds=>match ds with
  | .ms b' qK e' off len::ds=>bif Nat.beq b b'&&decide (e=e')then .zx (xN qK off len (cn st b)) (iY st r ds)else .fail
  | _=>.fail
 | .op b T::r,ds=>match TJ st b T ds with | some q=>iY st r q | none=>.fail
 | .un::r,ds=>match z7k ds with | some q=>iY st r q | none=>.fail
def Ws:(l:List Mc)->List D->T (nB l)
 | [],ds=>match ds with | []=>.ret () | _=>.fail
 | .im τ::r,ds=>match ds with
  | d::ds=>match iu τ d with | some y=>(Ws r ds).bind λz=>.ret (y,z) | none=>.fail
  | _=>.fail
 | .rp τ::r,ds=>match ds with
  | .xg _ x::ds=>match(vT x:Option (AM.den τ))with | some y=>(Ws r ds).bind λz=>.ret (y,z) | none=>.fail
  | _=>.fail
 | .pt b::r,ds=>match ds with
  | .ptr b' off::ds=>bif Nat.beq b b'&&Nat.beq off 0 then Ws r ds else .fail
  | _=>.fail
def Zj(st:St):(k:Dk)->D->T k.den
 | .zC τ,d=>.YB (iu τ d)
 | .xg τ,d=>match d with | .xg _ x=>.YB (vT x) | _=>.fail
 | .sub b e,d=>match d with
  | .ms b' qK e' off len=>bif Nat.beq b b'&&decide (e=e')then .zx (qK=wu st b) (.ret (off,len))else .fail
  | _=>.fail
 | .xl f caps,d=>match d with
  | .xl f' l=>bif Nat.beq f f' then .YB (Fz caps l)else .fail
  | _=>.fail
 | .st ks,d=>bif d.dK then iY st ks (qo d)else .fail
 | .mclo f ms,d=>match d with
  | .xl f' l=>bif Nat.beq f f' then Ws ms l else .fail
  | _=>.fail
def ZJ:List (Nat×Nat)->List D->Bool
 | [],[]=>true
 | p::r,.ptr b off::ds=>Nat.beq p.1 b&&Nat.beq p.2 off&&ZJ r ds
 | _,_=>false
def Vs(st:St):Ck->D->T Unit
 | .ptr b off,d=>match d with | .ptr b' off'=>bif Nat.beq b b'&&Nat.beq off off' then .ret ()else .fail | _=>.fail
 | .cur b e,d=>match d with
  | .ms b' qK e' off len=>bif Nat.beq b b'&&decide (e=e')then .zx (xN qK off len (cn st b)) (.ret ())else .fail
  | _=>.fail
 | .xH,d=>match d with | .xH=>.ret () | _=>.fail
 | .yR,d=>match d with | .yR=>.ret () | _=>.fail
 | .xj,d=>match d with | .xj=>.ret () | _=>.fail
 | .xl f l,d=>match d with | .xl f' l'=>bif Nat.beq f f'&&ZJ l l' then .ret ()else .fail | _=>.fail
def z2K(fr:Fr)(st:St):List (Nat×Ck)->T Unit
 | []=>.ret ()
 | p::r=>match fr.get p.1 with
  | some d=>(Vs st p.2 d).bind λ_=>z2K fr st r
  | none=>.fail
def Rn(e:Ty)(b:yg):T (List (den e)):=match b with
 | .arr qK _ xs=>match(vT (a:=.sl _) (b:=.sl e) xs:Option (List (den e)))with
  | some ys=>.zx (qK=ys.length) (.ret ys)
  | none=>.fail
 | _=>.fail
def Dk.plain:Dk->Bool
 | .zC _=>true
 | .xg _=>true
 | .st _=>true
 | _=>false
def Rs(st:St)(k:Dk)(b:yg):T k.den:=match b with
 | .var d=>bif k.plain then Zj st k d else .fail
 | _=>.fail
def Fy:yg->Bool | .var _=>true | _=>false
def KJ(st:St):List Bk->List yg->T (List yg)
 | [],_=>.ret []
 | .arr _::r,b::bl=>(KJ st r bl).bind λl=>.ret (b::l)
 | .var _::r,b::bl=>(KJ st r bl).bind λl=>.ret (b::l)
 | .cvar c::r,.var d::bl=>(Vs st c d).bind λ_=>KJ st r bl
 | .dead::r,b::bl=>bif Fy b then .fail else KJ st r bl
 | _,_=>.fail
def CU(fr:Fr)(st:St)(bl:List yg):(i:It)->T (i.den×List yg)
 | .s t k=>match fr.get t with | some d=>(Zj st k d).bind λx=>.ret (x,bl) | none=>.fail
 | .v k=>match bl with | b::r=>(Rs st k b).bind λx=>.ret (x,r) | []=>.fail
 | .a e=>match bl with | b::r=>(Rn e b).bind λx=>.ret (x,r) | []=>.fail
def E8{α:Type}(x:α×List yg):T α:=match x.2 with | []=>.ret x.1 | _=>.fail
def G8(fr:Fr)(st:St):(l:List It)->List yg->T (vu l)
 | [],bl=>E8 ((),bl)
 | [i],bl=>(CU fr st bl i).bind E8
 | i::j::r,bl=>(CU fr st bl i).bind λx=>(G8 fr st (j::r) x.2).bind λy=>.ret (x.1,y)
def rowAt(bs:List Bk)(b:Nat):Bool:=match bs[b]? with | some (.arr _)=>true | _=>false
def Vh(bs:List Bk)(b:Nat):Bool:=match bs[b]? with | some (.var _)=>true | some (.cvar _)=>true | _=>false
def z1d(bs:List Bk):Sk->Bool
 | .row b _=>rowAt bs b
 | .op b _=>Vh bs b
 | _=>true
def zdv(bs:List Bk):Mc->Bool
 | .pt b=>Vh bs b
 | _=>true
def CT(bs:List Bk):Dk->Bool
 | .mclo _ ms=>ms.all (zdv bs)
 | .sub b _=>rowAt bs b
 | .st ks=>ks.all (z1d bs)
 | _=>true
def Ns(bs:List Bk):Ck->Bool
 | .ptr b _=>Vh bs b
 | .cur b _=>rowAt bs b
 | .xl _ l=>l.all λp=>Vh bs p.1
 | _=>true
def zgw(bs:List Bk):It->Bool
 | .s _ k=>CT bs k
 | .v k=>CT bs k
 | .a _=>true
def zfI(bs:List Bk):Bk->Bool
 | .cvar c=>Ns bs c
 | _=>true
def kinds:List It->List Bool
 | []=>[]
 | .s _ _::r=>kinds r
 | .v _::r=>false::kinds r
 | .a _::r=>true::kinds r
def gz:List Bk->List Bool->Bool
 | [],[]=>true
 | .arr _::bs,b::r=>b&&gz bs r
 | .var _::bs,b::r => !b&&gz bs r
 | .cvar _::bs,l=>gz bs l
 | .dead::bs,l=>gz bs l
 | _,_=>false
def vH.ok(s:vH):Bool:=gz s.bs (kinds s.oF)&&s.oF.all (zgw s.bs)&&s.cs.all (λp=>Ns s.bs p.2)&&s.bs.all (zfI s.bs)
def vH.un(s:vH)(fr:Fr)(st:St):T s.den :=
 bif s.ok&&(st.take s.bs.length).all (Bm s.bs.length)then(z2K fr st s.cs).bind λ_=>(KJ st s.bs st).bind λbl=>G8 fr st s.oF bl
 else .fail
structure Way where
 ex:Ex
 sh:vH
def bq:List Way->Type
 | []=>Empty
 | [w]=>w.sh.den
 | w::v::r=>w.sh.den⊕bq (v::r)
def Lk{α:Type}:(l:List Way)->bq l->(Ex->Fr->St->T α)->T α
 | [],x,_=>nomatch x
 | [w],x,k=>k w.ex (w.sh.fr x) (w.sh.st x)
 | w::v::r,x,k=>Sum.elim (λa=>k w.ex (w.sh.fr a) (w.sh.st a)) (λb=>Lk (v::r) b k) x
def pe:Ex->Ex->Bool
 | .normal,.normal=>true
 | .ret,.ret=>true
 | .exit a,.exit b=>Nat.beq a b
 | .yk (.iface t _),.yk (.iface t' _)=>Nat.beq t t'
 | _,_=>false
def Kr:Ex->Fr->Fr
 | .yk (.iface _ d),_=>[(0,some d)]
 | _,fr=>fr
def Ea:Ex->Fr->Option (Ex×Fr)
 | .yk (.iface t _),fr=>match fr.get 0 with | some d=>some (.yk (.iface t d),[]) | none=>none
 | .yk _,_=>none
 | e,fr=>some (e,fr)
def Hg:(l:List Way)->Ex->Fr->St->T (bq l)
 | [],_,_,_=>.fail
 | [w],ex,fr,st=>bif pe w.ex ex then w.sh.un fr st else .fail
 | w::v::r,ex,fr,st=>bif pe w.ex ex then(w.sh.un fr st).bind λx=>.ret (.inl x)else(Hg (v::r) ex fr st).bind λy=>.ret (.inr y)
end Go.AM
namespace Go.AM
set_option linter.unusedSectionVars false
variable [uy] [Kq]
section
variable {c:Ctx} {n:Nat}
theorem get_mem:∀ {l:Fr} {s:Nat} {d:D},l.get s=some d->(s,some d)∈l
 | [],s,d,h=>by cases h
 | (t,d')::r,s,d,h=>by
  simp only[Fr.get]at h
  cases ht:Nat.beq t s with
  | true =>
   rw[ht,cond_true]at h
   rw[Nat.eq_of_beq_eq_true ht,h]
   simp
  | false=>rw[ht,cond_false]at h; exact List.mem_cons_of_mem _ (get_mem h)
theorem get_append{l m:Fr}{s:Nat}{d:D}(h:(l++m).get s=some d):(s,some d)∈l\/m.get s=some d:=by
 induction l with
 | nil=>grind
 | cons p r ih =>
  obtain⟨t,d'⟩:=p
  simp only[List.cons_append,Fr.get]at h
  cases ht:Nat.beq t s with
  | true=>rw[ht,cond_true]at h; rw[Nat.eq_of_beq_eq_true ht,h]; exact .inl List.mem_cons_self
  | false=>grind
structure Wk(κ κ':KS):Prop where
 w:κ'.w=κ.w
 ok:κ'.ok=κ.ok
 ph:κ'.ph=κ.ph
 len:κ'.st.length=κ.st.length
 var:∀ (b:Nat) (d:D),κ.st[b]? = some (yg.var d)->∃ d',κ'.st[b]? = some (yg.var d')
 arr:∀ (b v:Nat) (e:Ty) (xs:List (den e)),κ.st[b]? = some (yg.arr v e xs)->κ'.st[b]? = some (yg.arr v e xs)\/κ'.st[b]? = some yg.dead
 arr':∀ (b v:Nat) (e:Ty) (xs:List (den e)),κ'.st[b]? = some (yg.arr v e xs)->κ.st[b]? = some (yg.arr v e xs)
 dead:∀ (b:Nat),κ.st[b]? = some yg.dead->κ'.st[b]? = some yg.dead
theorem Wk.ext{κ κ':KS}(h:Wk κ κ'):Ext κ κ':=by
 refine⟨by rw[h.w],by rw[h.w],by rw[h.w],by rw[h.w]; exact Nat.le_refl _,λk hk=>⟨by rw[h.ok]; exact hk,by rw[h.w]⟩,λk hk=>.inl (by rw[<- h.ok]; exact hk),
  λb blk m hb=>.inl (by rw[<- h.ph]; exact hb),λb d hd=>⟨h.var b d hd,by rw[h.ph]⟩,λb v0 e xs hb => ?_,h.dead,by rw[h.len]; exact Nat.le_refl _,λk _ _=>by rw[h.w]⟩
 rcases h.arr b v0 e xs hb with g | g
 ·exact .inr ⟨v0,xs,g,Nat.le_refl _,λ_=>⟨by rw[h.ph],rfl⟩⟩
 ·grind
theorem Wk.rd{κ κ':KS}(h:Wk κ κ'){d:D}{v:Value}(hd:RD κ d v):RD κ' d v:=hd.mono h.ext
theorem Wk.inv{κ κ':KS}(h:Wk κ κ')(hI:Inv κ)(hv:∀ (b:Nat) (d:D),κ'.st[b]? = some (yg.var d)->fb κ' b (.var d)):Inv κ':=by
 refine⟨by rw[h.ph,h.len]; exact hI.len,λk hk=>by rw[h.w]; exact hI.gi k (by rw[<- h.ok]; exact hk),λb blk m hb => ?_,λb b' blk m m' hb BE=>hI.inj b b' blk m m' (by rw[<- h.ph]; exact hb) (by rw[<- h.ph]; exact BE),λb x hx => ?_,hI.gl.mono h.ext.same⟩
 ·obtain⟨g1,g2⟩:=hI.apart b blk m (by rw[<- h.ph]; exact hb)
  exact⟨by rw[h.w]; exact g1,λhk=>g2 (by rw[<- h.ok]; exact hk)⟩
 ·cases x with
  | dead=>trivial
  | var d=>grind
  | arr v e xs=>exact(hI.blk b _ (h.arr' b v e xs hx)).mono h.ext (by rw[h.ph]) λblk m _=>by rw[h.w]
theorem Uo{p:XP}{d:D}{x:den p.ty}(h:Li p d=some x){κ:KS}{v:Value}(hd:RD κ d v):RD κ (Gr p x) v:=by
 cases p with
 | rp τ =>
  cases d<;>simp only[Li]at h<;>try (cases h; done)
  obtain⟨e,hx⟩:=qw h
  cases e
  cases hx
  exact hd
 | im τ=>exact cV hd h
theorem WA{κ:KS}:∀ (l:List XP) (ds:List D) (x:ba l) (vs:List Value),Fz l ds=some x->qN κ ds vs->qN κ (nk l x) vs
 | [],[],x,vs,_,hd=>by rw[hd.ql]; exact .nil
 | [],_::_,_,_,h,_=>nomatch h
 | [p],[],_,_,h,_=>nomatch h
 | [p],[d],x,vs,h,hd=>by
  obtain⟨v,us,rfl,h1,h2⟩:=hd.cons_inv
  rw[h2.ql]
  exact .cons (Uo h h1) .nil
 | [p],_::_::_,_,_,h,_=>nomatch h
 | p::q::r,[],_,_,h,_=>nomatch h
 | p::q::r,d::ds,x,vs,h,hd=>by
  obtain⟨y,hy,h⟩:=Option.bind_eq_some_iff.1 h
  obtain⟨z,hz,h⟩:=Option.bind_eq_some_iff.1 h
  cases h
  obtain⟨v,us,rfl,h1,h2⟩:=hd.cons_inv
  exact .cons (Uo hy h1) (WA (q::r) ds z us hz h2)
theorem SC{κ:KS}{d:D}{v:Value}(hd:RD κ d v)(ha:d.dK=true):∃ c,v=.agg c:=by
 cases hd with
 | zC τ x cs h=>exact⟨cs.toArray,by unfold pk; rw[show τ.isAgg=true from ha]; rfl⟩
 | agg l vs hl ho h=>simp
 | _=>cases ha
theorem z3L{κ:KS}{b T:Nat}{ds q:List D}{vs:List Value}(hd:qN κ ds vs)(h:TJ κ.st b T ds=some q):∃ v us,vs=v::us/\RD κ (.yu b T) v/\qN κ q us:=by
 unfold TJ at h
 split at h
 ·rename_i d0 CR
  split at h
  ·rename_i T' ds
   cases hb:Nat.beq T T' with
   | false=>grind
   | true =>
    rw[hb]at h
    cases h
    obtain⟨v,us,rfl,g1,g2⟩:=hd.cons_inv
    exact⟨v,us,rfl,by cases g1; exact .dr b T d0 CR,g2⟩
  ·rename_i b' T' ds
   cases hb:Nat.beq b b'&&Nat.beq T T' with
   | false=>grind
   | true =>
    simp only[Bool.and_eq_true]at hb
    have e1:=Nat.eq_of_beq_eq_true hb.1
    have e2:=Nat.eq_of_beq_eq_true hb.2
    obtain⟨v,us,rfl,g1,g2⟩:=hd.cons_inv
    grind
  ·cases h
 ·cases h
theorem Ix{st:St}{b T:Nat}{ds q:List D}(h:TJ st b T ds=some q):bQ ds=some T:=by
 unfold TJ at h
 split at h
 ·split at h
  ·rename_i T' ds
   cases hb:Nat.beq T T' with
   | false=>grind
   | true=>rw[Nat.eq_of_beq_eq_true hb]; rfl
  ·rename_i b' T' ds
   cases hb:Nat.beq b b'&&Nat.beq T T' with
   | false=>grind
   | true =>
    simp only[Bool.and_eq_true]at hb
    rw[Nat.eq_of_beq_eq_true hb.2]; rfl
  ·cases h
 ·cases h
theorem z2Y{κ:KS}{ds q:List D}{vs:List Value}(hd:qN κ ds vs)(h:z7k ds=some q):∃ v us,vs=v::us/\RD κ .tP v/\qN κ q us:=by
 unfold z7k at h
 split at h
 ·rename_i d ds
  cases hb:d.one with
  | false=>grind
  | true =>
   rw[hb]at h
   cases h
   obtain⟨v,us,rfl,g1,g2⟩:=hd.cons_inv
   exact⟨v,us,rfl,.tP v (g1.VX hb),g2⟩
 ·cases h
theorem eG{κ:KS}{zy:St}{bs:List Bk}(KD:∀ b,rowAt bs b=true->wu zy b=cn κ.st b):∀ (ks:List Sk) (ds:List D) (x:dJ ks) (vs:List Value),ks.all (z1d bs)=true->(iY κ.st ks ds).leads x->qN κ ds vs ->
  qN κ (vN zy ks x) vs/\∀ d∈vN zy ks x,d.one=true
 | [],ds,x,vs,_,h,hd=>by
  cases ds with
  | nil=>exact⟨hd,λd hm=>by cases hm⟩
  | cons d r=>exact h.elim
 | .im τ::r,ds,x,vs,ho,h,hd=>by
  simp only[iY]at h
  split at h
  ·rename_i p hp
   obtain⟨y,h1,h2⟩:=T.ze.1 h
   cases h2
   obtain⟨c1,c2,rfl,g1,g2⟩:=sU τ hd hp
   simp only[List.all_cons,Bool.and_eq_true]at ho
   obtain⟨k1,k2⟩:=eG KD r p.2 y c2 ho.2 h1 g2
   refine⟨(ru g1).append k1,λd hm => ?_⟩
   rcases List.mem_append.1 (show d∈flat τ p.1++vN zy r y from hm)with hm | hm
   ·exact fQ τ _ d hm
   ·grind
  ·exact h.elim
 | .row b e::r,ds,x,vs,ho,h,hd=>by
  cases ds with
  | nil=>exact h.elim
  | cons d ds =>
   cases d<;>simp only[iY]at h<;>try (exact h.elim)
   rename_i b' qK e' off len
   cases hb:Nat.beq b b'&&decide (e=e')with
   | false=>rw[hb]at h; exact h.elim
   | true =>
    rw[hb,cond_true]at h
    simp only[Bool.and_eq_true,decide_eq_true_eq]at hb
    obtain⟨⟨h1,h2,h3⟩,h⟩:=h
    have:=Nat.eq_of_beq_eq_true hb.1
    obtain⟨-,rfl⟩:=hb
    subst this
    obtain⟨v,us,rfl,g1,g2⟩:=hd.cons_inv
    simp only[List.all_cons,Bool.and_eq_true]at ho
    obtain⟨k1,k2⟩:=eG KD r ds x us ho.2 h g2
    have e1:vN zy (.row b e::r) x=.ms b qK e off len::vN zy r x:=by
     show D.ms b (wu zy b) e 0 (wu zy b)::_=_
     rw[KD b ho.1,h1,h2,h3]
    rw[e1]
    refine⟨.cons g1 k1,λd hm => ?_⟩
    rcases List.mem_cons.1 hm with rfl | hm
    ·rfl
    ·grind
 | .op b T::r,ds,x,vs,ho,h,hd=>by
  simp only[List.all_cons,Bool.and_eq_true]at ho
  simp only[iY]at h
  split at h
  ·rename_i q hq
   obtain⟨v,us,rfl,g0,g2⟩:=z3L hd hq
   obtain⟨k1,k2⟩:=eG KD r q x us ho.2 h g2
   refine⟨show qN κ (D.yu b T::vN zy r x) (v::us)from .cons g0 k1,λd hm => ?_⟩
   rcases List.mem_cons.1 (show d∈D.yu b T::vN zy r x from hm)with rfl | hm
   ·rfl
   ·grind
  ·exact h.elim
 | .un::r,ds,x,vs,ho,h,hd=>by
  simp only[List.all_cons,Bool.and_eq_true]at ho
  simp only[iY]at h
  split at h
  ·rename_i q hq
   obtain⟨v,us,rfl,g0,g2⟩:=z2Y hd hq
   obtain⟨k1,k2⟩:=eG KD r q x us ho.2 h g2
   refine⟨show qN κ (D.tP::vN zy r x) (v::us)from .cons g0 k1,λd hm => ?_⟩
   rcases List.mem_cons.1 (show d∈D.tP::vN zy r x from hm)with rfl | hm
   ·rfl
   ·grind
  ·exact h.elim
theorem rO{st zy:St}{bs:List Bk}(h:∀ b,rowAt bs b=true->wu st b=wu zy b):∀ (ks:List Sk) (x:dJ ks),ks.all (z1d bs)=true->vN st ks x=vN zy ks x
 | [],_,_=>rfl
 | .im τ::r,x,ho=>by
  simp only[List.all_cons,Bool.and_eq_true]at ho
  show flat τ x.1++vN st r x.2=flat τ x.1++vN zy r x.2
  rw[rO h r x.2 ho.2]
 | .row b e::r,x,ho=>by
  simp only[List.all_cons,Bool.and_eq_true]at ho
  show D.ms b (wu st b) e 0 (wu st b)::vN st r x=D.ms b (wu zy b) e 0 (wu zy b)::vN zy r x
  rw[rO h r x ho.2,h b ho.1]
 | .op b T::r,x,ho=>by
  simp only[List.all_cons,Bool.and_eq_true]at ho
  show D.yu b T::vN st r x=D.yu b T::vN zy r x
  rw[rO h r x ho.2]
 | .un::r,x,ho=>by
  simp only[List.all_cons,Bool.and_eq_true]at ho
  show D.tP::vN st r x=D.tP::vN zy r x
  rw[rO h r x ho.2]
theorem Ju:∀ (τ:Ty) (x:den τ),∀ y∈flat τ x,∃ σ z,y=.zC σ z:=by
 intro τ x y hy
 induction τ with
 | cons a b ia ib =>
  simp only[flat]at hy
  grind
 | nil=>simp[flat]at hy
 | expr=>simp[flat]at hy; rcases hy with rfl | rfl | rfl | rfl | rfl | rfl<;>exact⟨_,_,rfl⟩
 | _=>simp[flat]at hy; subst hy; exact⟨_,_,rfl⟩
theorem HB:∀ (τ:Ty) {ds:List D} {p:den τ×List D},jW τ ds=some p->τ.size=0->p.2=ds:=by
 intro τ
 induction τ with
 | nil=>intro ds p h _; simp only[jW,Option.some.injEq]at h; subst h; rfl
 | cons a b ia ib =>
  intro ds p h hz
  simp only[Ty.size]at hz
  simp only[jW]at h
  grind
 | _=>nofun
theorem WE{st zy:St}{tt:Nat}:∀ (ks:List Sk) (ds:List D) (x:dJ ks),(iY st ks ds).leads x->bQ (vN zy ks x)=some tt->bQ ds=some tt
 | [],ds,x,h,ht=>by cases ht
 | .im τ::r,ds,x,h,ht=>by
  simp only[iY]at h
  split at h
  ·rename_i p hp
   obtain⟨y,h1,h2⟩:=T.ze.1 h
   cases h2
   have ht':bQ (flat τ p.1++vN zy r y)=some tt:=ht
   cases hf:flat τ p.1 with
   | nil =>
    rw[hf]at ht'
    have hz:τ.size=0:=by rw[<- QN τ p.1,hf]; rfl
    have:=HB τ hp hz
    rw[<- this]
    exact WE r p.2 y h1 ht'
   | cons z zs =>
    rw[hf]at ht'
    obtain⟨σ,w,e⟩:=Ju τ p.1 z (by grind)
    rw[e]at ht'
    cases ht'
  ·exact h.elim
 | .row b e::r,ds,x,h,ht=>by cases ht
 | .op b T'::r,ds,x,h,ht=>by
  simp only[iY]at h
  split at h
  ·rename_i q hq
   cases ht
   exact Ix hq
  ·exact h.elim
 | .un::r,ds,x,h,ht=>by cases ht
theorem Wq{d:D}{T:Nat}(ha:d.dK=true)(h:bQ (qo d)=some T):d.typed=some T:=by
 cases d with
 | zC τ x =>
  simp only[qo]at h
  cases hf:flat τ x with
  | nil=>rw[hf]at h; cases h
  | cons z zs =>
   obtain⟨σ,w,e⟩:=Ju τ x z (by grind)
   rw[hf,e]at h
   cases h
 | agg l=>exact h
 | _=>cases ha
theorem Hc{m:Nat}(τ:Ty)(x:den τ):∀ d∈flat τ x,uj m d=true:=λd hd=>by
 obtain⟨σ,z,rfl⟩:=Ju τ x d hd
 rfl
theorem yd{m:Nat}{st:St}{bs:List Bk}(hb:∀ b,rowAt bs b=true->b<m)(Ra:∀ b,Vh bs b=true->b<m):∀ (ks:List Sk) (x:dJ ks),ks.all (z1d bs)=true->∀ d∈vN st ks x,uj m d=true
 | [],_,_,d,hd=>by cases hd
 | .im τ::r,x,ho,d,hd=>by
  simp only[List.all_cons,Bool.and_eq_true]at ho
  rcases List.mem_append.1 (show d∈flat τ x.1++vN st r x.2 from hd)with hd | hd
  ·exact Hc τ _ d hd
  ·exact yd hb Ra r x.2 ho.2 d hd
 | .row b e::r,x,ho,d,hd=>by
  simp only[List.all_cons,Bool.and_eq_true]at ho
  rcases List.mem_cons.1 (show d∈D.ms b (wu st b) e 0 (wu st b)::vN st r x from hd)with rfl | hd
  ·have:=hb b ho.1
   simp only[uj,Nat.blt,Nat.ble_eq]; exact this
  ·exact yd hb Ra r x ho.2 d hd
 | .op b T::r,x,ho,d,hd=>by
  simp only[List.all_cons,Bool.and_eq_true]at ho
  rcases List.mem_cons.1 (show d∈D.yu b T::vN st r x from hd)with rfl | hd
  ·have:=Ra b ho.1
   simp only[uj,Nat.blt,Nat.ble_eq]; exact this
  ·exact yd hb Ra r x ho.2 d hd
 | .un::r,x,ho,d,hd=>by
  simp only[List.all_cons,Bool.and_eq_true]at ho
  rcases List.mem_cons.1 (show d∈D.tP::vN st r x from hd)with rfl | hd
  ·rfl
  ·exact yd hb Ra r x ho.2 d hd
theorem sY{κ:KS}:∀ (ms:List Mc) (ds:List D) (x:nB ms) (vs:List Value),(Ws ms ds).leads x->qN κ ds vs->qN κ (Z1 ms x) vs
 | [],ds,x,vs,h,hd=>by
  cases ds with
  | nil=>exact hd
  | cons d r=>exact h.elim
 | .im τ::r,ds,x,vs,h,hd=>by
  cases ds with
  | nil=>exact h.elim
  | cons d ds =>
   simp only[Ws]at h
   split at h
   ·rename_i y hy
    obtain⟨z,h1,h2⟩:=T.ze.1 h
    cases h2
    obtain⟨v,us,rfl,g1,g2⟩:=hd.cons_inv
    exact .cons (cV g1 hy) (sY r ds z us h1 g2)
   ·exact h.elim
 | .rp τ::r,ds,x,vs,h,hd=>by
  cases ds with
  | nil=>exact h.elim
  | cons d ds =>
   cases d<;>simp only[Ws]at h<;>try (exact h.elim)
   split at h
   ·rename_i y hy
    obtain⟨e,hx⟩:=qw hy
    cases e
    cases hx
    obtain⟨z,h1,h2⟩:=T.ze.1 h
    cases h2
    obtain⟨v,us,rfl,g1,g2⟩:=hd.cons_inv
    exact .cons g1 (sY r ds z us h1 g2)
   ·exact h.elim
 | .pt b::r,ds,x,vs,h,hd=>by
  cases ds with
  | nil=>exact h.elim
  | cons d ds =>
   cases d<;>simp only[Ws]at h<;>try (exact h.elim)
   rename_i b' off
   cases hb:Nat.beq b b'&&Nat.beq off 0 with
   | false=>rw[hb]at h; exact h.elim
   | true =>
    rw[hb]at h
    simp only[Bool.and_eq_true]at hb
    have e1:=Nat.eq_of_beq_eq_true hb.1
    have e2:=Nat.eq_of_beq_eq_true hb.2
    subst e1 e2
    obtain⟨v,us,rfl,g1,g2⟩:=hd.cons_inv
    exact .cons g1 (sY r ds x us h g2)
theorem dW{m:Nat}{bs:List Bk}(hb:∀ b,Vh bs b=true->b<m):∀ (ms:List Mc) (x:nB ms),ms.all (zdv bs)=true->∀ d∈Z1 ms x,uj m d=true
 | [],_,_,d,hd=>by cases hd
 | .im τ::r,x,ho,d,hd=>by
  simp only[List.all_cons,Bool.and_eq_true]at ho
  rcases List.mem_cons.1 (show d∈D.zC τ x.1::Z1 r x.2 from hd)with rfl | hd
  ·rfl
  ·exact dW hb r x.2 ho.2 d hd
 | .rp τ::r,x,ho,d,hd=>by
  simp only[List.all_cons,Bool.and_eq_true]at ho
  rcases List.mem_cons.1 (show d∈D.xg τ x.1::Z1 r x.2 from hd)with rfl | hd
  ·rfl
  ·exact dW hb r x.2 ho.2 d hd
 | .pt b::r,x,ho,d,hd=>by
  simp only[List.all_cons,Bool.and_eq_true]at ho
  rcases List.mem_cons.1 (show d∈D.ptr b 0::Z1 r x from hd)with rfl | hd
  ·have:=hb b ho.1
   simp only[uj,Nat.blt,Nat.ble_eq]; exact this
  ·exact dW hb r x ho.2 d hd
theorem Hq{κ κ':KS}(hw:Wk κ κ'){k:Dk}{d:D}{x:k.den}{v:Value}{bs:List Bk}(wU:CT bs k=true)(KD:∀ b,rowAt bs b=true->wu κ'.st b=wu κ.st b)
  {zy:St} (xV:∀ b,rowAt bs b=true->wu zy b=wu κ'.st b) (hlen:∀ b,rowAt bs b=true->wu κ.st b=cn κ.st b) (h:(Zj κ.st k d).leads x) (hd:RD κ d v):RD κ' (tg zy k x) v:=by
 cases k with
 | zC τ=>exact hw.rd (cV hd (T.uJ.1 h))
 | xg τ =>
  cases d<;>simp only[Zj]at h<;>try (exact h.elim)
  obtain⟨e,hx⟩:=qw (T.uJ.1 h)
  cases e
  cases hx
  exact hw.rd hd
 | sub b e =>
  cases d<;>simp only[Zj]at h<;>try (exact h.elim)
  rename_i b' qK e' off len
  cases hb:Nat.beq b b'&&decide (e=e')with
  | false=>rw[hb]at h; exact h.elim
  | true =>
   rw[hb,cond_true]at h
   simp only[Bool.and_eq_true,decide_eq_true_eq]at hb
   obtain⟨hv,h⟩:=h
   cases h
   have:=Nat.eq_of_beq_eq_true hb.1
   obtain⟨-,rfl⟩:=hb
   subst this
   simp only[tg]
   rw[xV b wU,KD b wU,<- hv]
   exact hw.rd hd
 | xl f caps =>
  cases d<;>simp only[Zj]at h<;>try (exact h.elim)
  rename_i f' l
  cases hb:Nat.beq f f' with
  | false=>rw[hb]at h; exact h.elim
  | true =>
   rw[hb,cond_true]at h
   have:=Nat.eq_of_beq_eq_true hb
   subst this
   have hx:=T.uJ.1 h
   cases hd with
   | xl _ _ vs hl hh =>
    have:=WA caps l x vs hx (⟨hl,hh⟩:qN κ l vs)
    exact hw.rd (.xl f _ vs this.1 this.2)
 | st ks =>
  simp only[Zj]at h
  cases ha:d.dK with
  | false=>rw[ha]at h; exact h.elim
  | true =>
   rw[ha]at h
   have ht:d.jl=false:=by cases d<;>first | rfl | (simp[D.dK]at ha)
   obtain⟨g1,g2⟩:=eG (zy:=zy) (λb hb=>(xV b hb).trans ((KD b hb).trans (hlen b hb))) ks (qo d) x _ wU h (jM hd ht)
   obtain⟨c,hc⟩:=SC hd ha
   subst hc
   have g1':qN κ (vN zy ks x) c.toList:=g1
   have:=RD.agg (κ:=κ) _ c.toList g1'.1 g2 g1'.2
   exact hw.rd (show RD κ (.agg (vN zy ks x)) (.agg c) by simpa using this)
 | mclo f ms =>
  cases d<;>simp only[Zj]at h<;>try (exact h.elim)
  rename_i f' l
  cases hb:Nat.beq f f' with
  | false=>rw[hb]at h; exact h.elim
  | true =>
   rw[hb]at h
   have:=Nat.eq_of_beq_eq_true hb
   subst this
   cases hd with
   | xl _ _ vs hl hh =>
    have:=sY ms l x vs h (⟨hl,hh⟩:qN κ l vs)
    exact hw.rd (show RD κ (.xl f (Z1 ms x)) _ from .xl f _ vs this.1 this.2)
theorem Gc:∀ {l:List (Nat×Nat)} {ds:List D},ZJ l ds=true->ds=l.map λp=>.ptr p.1 p.2
 | [],[],_=>rfl
 | [],_::_,h=>by simp[ZJ]at h
 | p::r,[],h=>by simp[ZJ]at h
 | p::r,d::ds,h=>by
  cases d<;>simp only[ZJ]at h<;>try (cases h; done)
  simp only[Bool.and_eq_true]at h
  rw[Gc h.2,<- Nat.eq_of_beq_eq_true h.1.1,<- Nat.eq_of_beq_eq_true h.1.2]
  rfl
theorem z2r{st zy:St}{ck:Ck}{d:D}{bs:List Bk}(wU:Ns bs ck=true)(KD:∀ b,rowAt bs b=true->wu zy b=cn st b)(h:(Vs st ck d).leads ()):Dq zy ck=d:=by
 cases ck with
 | ptr b off =>
  cases d<;>simp only[Vs]at h<;>try (exact h.elim)
  rename_i b' off'
  cases hb:Nat.beq b b'&&Nat.beq off off' with
  | false=>rw[hb]at h; exact h.elim
  | true =>
   simp only[Bool.and_eq_true]at hb
   rw[<- Nat.eq_of_beq_eq_true hb.1,<- Nat.eq_of_beq_eq_true hb.2]
   rfl
 | cur b e =>
  cases d<;>simp only[Vs]at h<;>try (exact h.elim)
  rename_i b' qK e' off len
  cases hb:Nat.beq b b'&&decide (e=e')with
  | false=>rw[hb]at h; exact h.elim
  | true =>
   rw[hb,cond_true]at h
   simp only[Bool.and_eq_true,decide_eq_true_eq]at hb
   obtain⟨⟨h1,h2,h3⟩,_⟩:=h
   have:=Nat.eq_of_beq_eq_true hb.1
   obtain⟨-,rfl⟩:=hb
   subst this
   simp only[Dq]
   rw[KD b wU,h1,h2,h3]
 | xH=>cases d<;>simp only[Vs]at h<;>first | rfl | exact h.elim
 | yR=>cases d<;>simp only[Vs]at h<;>first | rfl | exact h.elim
 | xj=>cases d<;>simp only[Vs]at h<;>first | rfl | exact h.elim
 | xl f l =>
  cases d<;>simp only[Vs]at h<;>try (exact h.elim)
  rename_i f' l'
  cases hb:Nat.beq f f'&&ZJ l l' with
  | false=>rw[hb]at h; exact h.elim
  | true =>
   simp only[Bool.and_eq_true]at hb
   rw[<- Nat.eq_of_beq_eq_true hb.1,Gc hb.2]
   rfl
theorem Dz{fr:Fr}{st:St}:∀ {cs:List (Nat×Ck)},(z2K fr st cs).leads ()->∀ p∈cs,∃ d,fr.get p.1=some d/\(Vs st p.2 d).leads ()
 | [],_,p,hp=>by cases hp
 | q::r,h,p,hp=>by
  simp only[z2K]at h
  split at h
  ·rename_i d hd
   simp only[T.zM]at h
   obtain⟨⟨⟩,h1,h2⟩:=h
   rcases List.mem_cons.1 hp with rfl | hp
   ·grind
   ·exact Dz h2 p hp
  ·exact h.elim
def NA(p:Dk->Bool)(st:St):List yg->List Bd->Prop
 | [],[]=>True
 | b::bl,.a e xs::r=>b=.arr xs.length e xs/\NA p st bl r
 | b::bl,.v k x::r=>(∃ d,b=.var d/\(k.plain=true/\p k=true)/\(Zj st k d).leads x)/\NA p st bl r
 | _,_=>False
theorem TV{e:Ty}{b:yg}{x:List (den e)}(h:(Rn e b).leads x):b=.arr x.length e x:=by
 unfold Rn at h
 split at h
 ·split at h
  ·rename_i ys hy
   obtain⟨h1,h2⟩:=h
   cases h2
   obtain⟨he,hx⟩:=qw hy
   grind
  ·exact h.elim
 ·exact h.elim
theorem z0i{st:St}{k:Dk}{b:yg}{x:k.den}(h:(Rs st k b).leads x):∃ d,b=.var d/\k.plain=true/\(Zj st k d).leads x:=by
 cases b with
 | var d =>
  simp only[Rs]at h
  cases hp:k.plain with
  | false=>rw[hp]at h; exact h.elim
  | true=>grind
 | _=>exact h.elim
def Y5(st:St):(i:It)->i.den->Fr
 | .s t k,x=>[(t,some (tg st k x))]
 | .v _,_=>[]
 | .a _,_=>[]
def Re:(i:It)->i.den->List Bd
 | .s _ _,_=>[]
 | .v k,x=>[.v k x]
 | .a e,x=>[.a e x]
theorem JX(st:St)(i:It)(x:i.den):fV st [i] x=Y5 st i x:=by cases i<;>rfl
theorem XJ(st:St)(i j:It)(r:List It)(x:i.den×vu (j::r)):fV st (i::j::r) x=Y5 st i x.1++fV st (j::r) x.2:=by cases i<;>rfl
theorem RI(i:It)(x:i.den):nq [i] x=Re i x:=by cases i<;>rfl
theorem NB(i j:It)(r:List It)(x:i.den×vu (j::r)):nq (i::j::r) x=Re i x.1++nq (j::r) x.2:=by cases i<;>rfl
def z9C(fr:Fr)(st zy:St)(l:List It)(p:Nat×Option D):Prop:=∃ (k:Dk) (y:k.den) (d:D),(It.s p.1 k)∈l/\fr.get p.1=some d/\(Zj st k d).leads y/\p.2=some (tg zy k y)
theorem Mj{p:Dk->Bool}{fr:Fr}{st zy:St}{bl:List yg}{i:It}{x:i.den×List yg}(hp:∀ k,i=.v k->p k=true)(h:(CU fr st bl i).leads x) :
  (∀ bd,NA p st x.2 bd->NA p st bl (Re i x.1++bd))/\∀ p∈Y5 zy i x.1,z9C fr st zy [i] p:=by
 cases i with
 | s t k =>
  simp only[CU]at h
  split at h
  ·rename_i d hd
   rw[T.zM]at h
   obtain⟨y,h1,rfl⟩:=h
   refine⟨λbd hb=>hb,λp hp => ?_⟩
   simp only[Y5,List.mem_singleton]at hp
   subst hp
   exact⟨k,y,d,by simp,hd,h1,rfl⟩
  ·exact h.elim
 | v k =>
  cases bl with
  | nil=>exact h.elim
  | cons b r =>
   simp only[CU]at h
   rw[T.zM]at h
   obtain⟨y,h1,rfl⟩:=h
   obtain⟨d,q1,q2,q3⟩:=z0i h1
   exact⟨λbd hb=>⟨⟨d,q1,⟨q2,hp k rfl⟩,q3⟩,hb⟩,λp hp=>by cases hp⟩
 | a e =>
  cases bl with
  | nil=>exact h.elim
  | cons b r =>
   simp only[CU]at h
   rw[T.zM]at h
   obtain⟨y,h1,rfl⟩:=h
   exact⟨λbd hb=>⟨TV h1,hb⟩,λp hp=>by cases hp⟩
theorem DS{α:Type}{x:α×List yg}{y:α}(h:(E8 x).leads y):x=(y,[]):=by
 obtain⟨a,bl⟩:=x
 cases bl with
 | nil=>cases h; rfl
 | cons=>exact h.elim
theorem QM{p:Dk->Bool}{fr:Fr}{st zy:St}:∀ (l:List It) (bl:List yg) (x:vu l),(∀ k,It.v k∈l->p k=true)->(G8 fr st l bl).leads x ->
  NA p st bl (nq l x)/\∀ p∈fV zy l x,z9C fr st zy l p
 | [],bl,x,_,h=>by
  have h':(E8 ((),bl)).leads x:=h
  have:=DS h'
  cases this
  exact⟨trivial,λp hp=>by cases hp⟩
 | [i],bl,x,hp,h=>by
  have h':((CU fr st bl i).bind E8).leads x:=h
  obtain⟨y,h1,h2⟩:=T.ze.1 h'
  have:=DS h2
  subst this
  obtain⟨g1,g2⟩:=Mj (p:=p) (zy:=zy) (λk hk=>hp k (by grind)) h1
  have e1:nq [i] x=Re i x:=RI i x
  have e2:fV zy [i] x=Y5 zy i x:=JX zy i x
  have:=g1 [] trivial
  grind
 | i::j::r,bl,x,hp,h=>by
  have h':((CU fr st bl i).bind λx=>(G8 fr st (j::r) x.2).bind λy=>T.ret (x.1,y)).leads x:=h
  obtain⟨y,h1,h2⟩:=T.ze.1 h'
  obtain⟨z,h3,h4⟩:=T.ze.1 h2
  cases h4
  obtain⟨g1,g2⟩:=Mj (p:=p) (zy:=zy) (λk hk=>hp k (by grind)) h1
  obtain⟨k1,k2⟩:=QM (p:=p) (zy:=zy) (j::r) y.2 z (λk hk=>hp k (List.mem_cons_of_mem _ hk)) h3
  have e1:nq (i::j::r) (y.1,z)=Re i y.1++nq (j::r) z:=NB i j r (y.1,z)
  have e2:fV zy (i::j::r) (y.1,z)=Y5 zy i y.1++fV zy (j::r) z:=XJ zy i j r (y.1,z)
  rw[e1,e2]
  refine⟨g1 _ k1,λp hp => ?_⟩
  rcases List.mem_append.1 hp with hp | hp
  ·obtain⟨k,w,d,q1,q2⟩:=g2 p hp
   exact⟨k,w,d,by grind,q2⟩
  ·obtain⟨k,w,d,q1,q2⟩:=k2 p hp
   exact⟨k,w,d,List.mem_cons_of_mem _ q1,q2⟩
inductive Yt(p:Dk->Bool)(st zy:St):Bk->yg->yg->Prop
 | arr (e e':Ty) (xs:List (den e)):Yt p st zy (.arr e') (.arr xs.length e xs) (.arr xs.length e xs)
 | var (k k':Dk) (d:D) (x:k.den) (hp:k.plain=true/\p k=true) (h:(Zj st k d).leads x):Yt p st zy (.var k') (.var d) (.var (tg zy k x))
 | cvar (ck:Ck) (d:D) (h:(Vs st ck d).leads ()):Yt p st zy (.cvar ck) (.var d) (.var (Dq zy ck))
 | dead (b:yg) (h:Fy b=false):Yt p st zy .dead b .dead
def cT:List Bd->List Bool
 | []=>[]
 | .v _ _::r=>false::cT r
 | .a _ _::r=>true::cT r
theorem nG:∀ (l:List It) (x:vu l),cT (nq l x)=kinds l
 | [],_=>rfl
 | [.s _ _],_=>rfl
 | [.v _],_=>rfl
 | [.a _],_=>rfl
 | .s _ _::j::r,x=>nG (j::r) x.2
 | .v _::j::r,x=>congrArg (false :: ·) (nG (j::r) x.2)
 | .a _::j::r,x=>congrArg (true :: ·) (nG (j::r) x.2)
theorem Q7{p:Dk->Bool}{st st0:St}:∀ {bs:List Bk} {blocks bl:List yg} {bd:List Bd},(KJ st bs blocks).leads bl->NA p st bl bd->gz bs (cT bd)=true ->
  (ui st0 bs bd).length=bs.length/\(∀ b,rowAt bs b=true->wu (cd bs bd) b=cn blocks b/\wu (ui st0 bs bd) b=cn blocks b/\wu blocks b=cn blocks b) /\
  ∀ (i:Nat) (k:Bk),bs[i]? = some k->∃ B B',blocks[i]? = some B/\(ui st0 bs bd)[i]? = some B'/\Yt p st st0 k B B'
 | [],blocks,bl,bd,h,hb,ho=>by
  refine⟨by simp[ui],λb hb=>by simp[rowAt]at hb,λi k hk=>by simp at hk⟩
 | k::r,[],bl,bd,h,hb,ho=>by cases k<;>exact h.elim
 | .arr e::r,b::blocks,bl,bd,h,hb,ho=>by
  simp only[KJ,T.zM]at h
  obtain⟨l,h1,rfl⟩:=h
  cases bd with
  | nil=>exact hb.elim
  | cons q bd =>
   cases q with
   | v k x=>simp[cT,gz]at ho
   | a e' xs =>
    obtain⟨rfl,By⟩:=hb
    simp only[cT,gz,Bool.true_and]at ho
    obtain⟨g1,g2,g3⟩:=Q7 (st0:=st0) h1 By ho
    refine⟨by simp[ui,g1],λb hb => ?_,λi k hk => ?_⟩
    ·cases b with
     | zero=>simp[cd,ui,wu,zbW,cn]
     | succ b=>have:=g2 b (by simpa[rowAt]using hb); simpa[cd,ui,wu,cn]using this
    ·cases i with
     | zero=>simp at hk; subst hk; exact⟨_,_,rfl,rfl,.arr e' e xs⟩
     | succ i=>simpa[ui]using g3 i k (by simpa using hk)
 | .var k0::r,b::blocks,bl,bd,h,hb,ho=>by
  simp only[KJ,T.zM]at h
  obtain⟨l,h1,rfl⟩:=h
  cases bd with
  | nil=>exact hb.elim
  | cons q bd =>
   cases q with
   | a e' xs=>simp[cT,gz]at ho
   | v k x =>
    obtain⟨⟨d,rfl,hp,hd⟩,By⟩:=hb
    simp only[cT,gz,Bool.not_false,Bool.true_and]at ho
    obtain⟨g1,g2,g3⟩:=Q7 (st0:=st0) h1 By ho
    refine⟨by simp[ui,g1],λb hb => ?_,λi k hk => ?_⟩
    ·cases b with
     | zero=>simp[rowAt]at hb
     | succ b=>have:=g2 b (by simpa[rowAt]using hb); simpa[cd,ui,wu,cn]using this
    ·cases i with
     | zero=>simp at hk; subst hk; exact⟨_,_,rfl,rfl,.var k k0 d x hp hd⟩
     | succ i=>simpa[ui]using g3 i k (by simpa using hk)
 | .cvar ck::r,b::blocks,bl,bd,h,hb,ho=>by
  cases b with
  | var d =>
   simp only[KJ,T.zM]at h
   obtain⟨⟨⟩,h0,h1⟩:=h
   have ho':gz r (cT bd)=true:=by cases bd<;>simpa[gz]using ho
   obtain⟨g1,g2,g3⟩:=Q7 (st0:=st0) h1 hb ho'
   have e1:ui st0 (.cvar ck::r) bd=.var (Dq st0 ck)::ui st0 r bd:=by cases bd<;>rfl
   have e0:cd (.cvar ck::r) bd=.dead::cd r bd:=by cases bd<;>rfl
   rw[e0,e1]
   refine⟨by simp[g1],λb hb => ?_,λi k hk => ?_⟩
   ·cases b with
    | zero=>simp[rowAt]at hb
    | succ b=>have:=g2 b (by simpa[rowAt]using hb); simpa[wu,cn]using this
   ·cases i with
    | zero=>simp at hk; subst hk; exact⟨_,_,rfl,rfl,.cvar ck d h0⟩
    | succ i=>grind
  | _=>exact h.elim
 | .dead::r,b::blocks,bl,bd,h,hb,ho=>by
  simp only[KJ]at h
  cases hv:Fy b with
  | true=>rw[hv]at h; exact h.elim
  | false =>
   rw[hv,cond_false]at h
   have ho':gz r (cT bd)=true:=by cases bd<;>simpa[gz]using ho
   obtain⟨g1,g2,g3⟩:=Q7 (st0:=st0) h hb ho'
   have e1:ui st0 (.dead::r) bd=.dead::ui st0 r bd:=by cases bd<;>rfl
   have e0:cd (.dead::r) bd=.dead::cd r bd:=by cases bd<;>rfl
   rw[e0,e1]
   refine⟨by simp[g1],λb hb => ?_,λi k hk => ?_⟩
   ·cases b with
    | zero=>simp[rowAt]at hb
    | succ b=>have:=g2 b (by simpa[rowAt]using hb); simpa[wu,cn]using this
   ·cases i with
    | zero=>simp at hk; subst hk; exact⟨_,_,rfl,rfl,.dead b hv⟩
    | succ i=>grind
inductive Refs(m:Nat):D->Prop
 | zC (τ:Ty) (x:AM.den τ):Refs m (.zC τ x)
 | tight (e:Ty) (l:List (AM.den e)) (ne:Bool):Refs m (.tight e l ne)
 | xH:Refs m .xH
 | yR:Refs m .yR
 | xj:Refs m .xj
 | uu:Refs m .uu
 | uv:Refs m .uv
 | tP:Refs m .tP
 | dx (T:Nat):Refs m (.dx T)
 | yu (b T:Nat) (h:b<m):Refs m (.yu b T)
 | ptr (b off:Nat) (h:b<m):Refs m (.ptr b off)
 | xg (τ:Ty) (x:AM.den τ):Refs m (.xg τ x)
 | uY (b qK:Nat) (e:Ty) (idx off:Nat) (h:b<m):Refs m (.uY b qK e idx off)
 | ms (b qK:Nat) (e:Ty) (off len:Nat) (h:b<m):Refs m (.ms b qK e off len)
 | xl (f:Nat) (l:List D) (h:∀ i (hi:i<l.length),Refs m l[i]):Refs m (.xl f l)
 | agg (l:List D) (h:∀ i (hi:i<l.length),Refs m l[i]):Refs m (.agg l)
 | gE (l:List D) (h:∀ i (hi:i<l.length),Refs m l[i]):Refs m (.gE l)
 | iface (t:Nat) (d:D) (h:Refs m d):Refs m (.iface t d)
theorem Refs.mono{m m':Nat}(hm:m<=m'){d:D}(h:Refs m d):Refs m' d:=by
 induction h with
 | ptr b off h=>exact .ptr b off (by omega)
 | yu b T h=>exact .yu b T (by omega)
 | uY b qK e idx off h=>exact .uY b qK e idx off (by omega)
 | ms b qK e off len h=>exact .ms b qK e off len (by omega)
 | xl f l h ih=>exact .xl f l ih
 | agg l h ih=>exact .agg l ih
 | gE l h ih=>exact .gE l ih
 | iface t d h ih=>exact .iface t d ih
 | _=>constructor
theorem z2b{κ:KS}{m:Nat}{d:D}{v:Value}(h:RD κ d v)(hr:Refs m d):RD (κ.cut m) d v:=by
 induction h with
 | zC τ y cs h=>exact .zC τ y cs h
 | xr e a=>exact .xr e a
 | tight e l ne blk off f um wU h hc=>exact .tight e l ne blk off f um wU h hc
 | xH=>exact .xH
 | yR=>exact .yR
 | xj=>exact .xj
 | uu=>exact .uu
 | uv=>exact .uv
 | tP v h=>exact .tP v h
 | dx T=>exact .dx T
 | dr b T d hb=>cases hr with | yu _ _ qD=>exact dT (.dr b T d hb) (by simp only[uj,Nat.blt,Nat.ble_eq]; exact qD)
 | dq b T blk n d hb h=>cases hr with | yu _ _ qD=>exact dT (.dq b T blk n d hb h) (by simp only[uj,Nat.blt,Nat.ble_eq]; exact qD)
 | ptr b off blk n d hb h=>cases hr with | ptr _ _ qD=>exact dT (.ptr b off blk n d hb h) (by simp only[uj,Nat.blt,Nat.ble_eq]; exact qD)
 | xg τ y cs blk off wU h hc=>exact .xg τ y cs blk off wU h hc
 | uY b qK e idx off blk o hb h=>cases hr with | uY _ _ _ _ _ qD=>exact dT (.uY b qK e idx off blk o hb h) (by simp only[uj,Nat.blt,Nat.ble_eq]; exact qD)
 | ms b qK e off len cap a hb vO ha mb h=>cases hr with | ms _ _ _ _ _ qD=>exact dT (.ms b qK e off len cap a hb vO ha mb h) (by simp only[uj,Nat.blt,Nat.ble_eq]; exact qD)
 | xl f l vs hl h ih=>cases hr with | xl _ _ hh=>exact .xl f l vs hl λi h1 h2=>ih i h1 h2 (hh i h1)
 | agg l vs hl ho h ih=>cases hr with | agg _ hh=>exact .agg l vs hl ho λi h1 h2=>ih i h1 h2 (hh i h1)
 | gE l vs hl h ih=>cases hr with | gE _ hh=>exact .gE l vs hl λi h1 h2=>ih i h1 h2 (hh i h1)
 | iface t d v h ih=>cases hr with | iface _ _ hh=>exact .iface t d v (ih hh)
theorem B7{a b:Nat}(h:a<b):Nat.blt a b=true:=by
 simp; exact h
theorem z0l{κ κe:KS}{m:Nat}(hx:Ext κ κe)(hm:κ.st.length<=m):Ext κ (κe.cut m):=by
 have qD:∀ b x,κ.st[b]? = some x->b<m:=λb x h=>Nat.lt_of_lt_of_le (List.getElem?_eq_some_iff.1 h).1 hm
 have Yl:∀ b,b<m->(κe.cut m).ph[b]? = κe.ph[b]? := λb hb=>by simp only[KS.cut]; rw[List.getElem?_take,if_pos hb]
 refine⟨hx.os,hx.tape,hx.output,hx.size,hx.same,hx.fresh,λb blk n h=>hx.phs b blk n (b6 h).1,λb d h => ?_,λb v0 e xs h => ?_,λb h=>qj (hx.dead b h) (qD b _ h),?_,hx.frame⟩
 ·obtain⟨⟨d',h1⟩,h2⟩:=hx.var b d h
  exact⟨⟨d',qj h1 (qD b _ h)⟩,(Yl b (qD b _ h)).trans h2⟩
 ·rcases hx.arr b v0 e xs h with h1 | ⟨v1,x1,h1,h2,h3⟩
  ·exact .inl (qj h1 (qD b _ h))
  ·exact .inr ⟨v1,x1,qj h1 (qD b _ h),h2,λhe=>⟨(Yl b (qD b _ h)).trans (h3 he).1,(h3 he).2⟩⟩
 ·have:=hx.C0
  simp[KS.cut]; omega
theorem vH.Xo{κ0 κ:KS}{fr:Fr}{a:Act}{sh:vH}{x:sh.den}(hx:Ext κ0 κ)(hI:Inv κ)(hR:Rel κ n fr.get a)(hl:κ0.st.length<=sh.bs.length)(h:(sh.un fr κ.st).leads x) :
  ∃ κ':KS,κ'.w=κ.w/\κ'.st=sh.st x/\Inv κ'/\Ext κ0 κ'/\Rel κ' n (sh.fr x).get a/\∀ (d:D) (v:Value),Refs sh.bs.length d->RD κ d v->RD κ' d v:=by
 unfold vH.un at h
 cases hc:sh.ok&&(κ.st.take sh.bs.length).all (Bm sh.bs.length)with
 | false=>rw[hc]at h; exact h.elim
 | true =>
  rw[hc,cond_true]at h
  simp only[Bool.and_eq_true,vH.ok,List.all_eq_true]at hc
  obtain⟨⟨⟨⟨zhO,ze0⟩,XN⟩,hbs⟩,Xq⟩:=hc
  obtain⟨⟨⟩,h1,h⟩:=T.ze.1 h
  obtain⟨bl,h2,h3⟩:=T.ze.1 h
  have hIc:=z2x hI Xq
  -- the store cut
  let m:=sh.bs.length
  obtain⟨g1,g2⟩:=QM (p:=CT sh.bs) (zy:=sh.st x) sh.oF bl x (λk hk=>ze0 _ hk) h3
  obtain⟨k1,k2,k3⟩:=Q7 (st0:=cd sh.bs (nq sh.oF x)) h2 g1 ((congrArg (gz sh.bs) (nG sh.oF x)).trans zhO)
  have xV:sh.st x=ui (cd sh.bs (nq sh.oF x)) sh.bs (nq sh.oF x):=rfl
  rw[<- xV]at k1 k2 k3
  let κ':KS:={ κ.cut m with st:=sh.st x }
  have hm:m<=κ.st.length:=by
   rcases Nat.eq_zero_or_pos m with h0 | h0
   ·omega
   ·obtain⟨B,B',q1,_⟩:=k3 (m-1) (sh.bs[m-1]'(by show m-1<m; omega)) (by simp)
    grind
  have zhz:∀ i B,κ.st[i]? = some B->i<m->(κ.cut m).st[i]? = some B:=λi B hB hi=>qj hB hi
  have OF:(κ.cut m).st.length=m:=by simp[KS.cut]; omega
  have pair:∀ i,i<m->∃ k B B',sh.bs[i]? = some k/\(κ.cut m).st[i]? = some B/\κ'.st[i]? = some B'/\Yt (CT sh.bs) κ.st (cd sh.bs (nq sh.oF x)) k B B':=by
   intro i hi
   obtain⟨B,B',q1,q2,q3⟩:=k3 i (sh.bs[i]'hi) (by simp)
   grind
  have lt:∀ {i:Nat} {B:yg},(κ.cut m).st[i]? = some B->i<m:=λhB=>by have:=(List.getElem?_eq_some_iff.1 hB).1; omega
  have lt':∀ {i:Nat} {B:yg},κ'.st[i]? = some B->i<m:=λhB=>by have:=(List.getElem?_eq_some_iff.1 hB).1; have e:κ'.st.length=m:=k1; omega
  have hw:Wk (κ.cut m) κ':=by
   refine⟨rfl,rfl,rfl,by show(sh.st x).length=_; rw[k1,OF],λb d hb => ?_,λb v e xs hb => ?_,λb v e xs hb => ?_,λb hb => ?_⟩
   ·obtain⟨k,B,B',q0,q1,q2,q3⟩:=pair b (lt hb)
    rw[hb]at q1; cases q1
    cases q3 with
    | var k' _ _ y _ hy=>grind
    | cvar ck _ hy=>grind
    | dead _ hv=>cases hv
   ·obtain⟨k,B,B',q0,q1,q2,q3⟩:=pair b (lt hb)
    rw[hb]at q1; cases q1
    cases q3 with
    | arr=>grind
    | dead=>grind
   ·obtain⟨k,B,B',q0,q1,q2,q3⟩:=pair b (lt' hb)
    rw[hb]at q2; cases q2
    cases q3 with
    | arr=>exact q1
   ·obtain⟨k,B,B',q0,q1,q2,q3⟩:=pair b (lt hb)
    rw[hb]at q1; cases q1
    cases q3 with
    | dead=>exact q2
  have Hw:∀ b,rowAt sh.bs b=true->wu κ'.st b=cn κ.st b/\wu (cd sh.bs (nq sh.oF x)) b=cn κ.st b/\wu κ.st b=cn κ.st b :=
   λb hb=>⟨(k2 b hb).2.1,(k2 b hb).1,(k2 b hb).2.2⟩
  have ze8:∀ b,rowAt sh.bs b=true->wu (κ.cut m).st b=wu κ.st b:=by
   intro b hb
   have hbm:b<m:=by
    unfold rowAt at hb
    split at hb
    ·rename_i hh; exact(List.getElem?_eq_some_iff.1 hh).1
    ·cases hb
   unfold wu
   simp only[KS.cut]
   rw[List.getElem?_take,if_pos hbm]
  have hbm:∀ b,rowAt sh.bs b=true->b<m:=by
   intro b hb
   unfold rowAt at hb
   split at hb
   ·rename_i hh; exact(List.getElem?_eq_some_iff.1 hh).1
   ·cases hb
  have Ra:∀ b,Vh sh.bs b=true->b<m:=by
   intro b hb
   unfold Vh at hb
   split at hb
   ·rename_i hh; exact(List.getElem?_eq_some_iff.1 hh).1
   ·rename_i hh; exact(List.getElem?_eq_some_iff.1 hh).1
   ·cases hb
  have dk:∀ (k:Dk) (y:k.den) (d:D) (v:Value) (zy:St),CT sh.bs k=true->(∀ b,rowAt sh.bs b=true->wu zy b=cn κ.st b)->(Zj κ.st k d).leads y->RD κ d v->RD κ' (tg zy k y) v:=by
   intro k y d v zy ho hv hy hd
   have hwk:Wk κ κ:=⟨rfl,rfl,rfl,rfl,λb d h=>⟨d,h⟩,λb v e xs h=>.inl h,λb v e xs h=>h,λb h=>h⟩
   have h0:=Hq hwk ho (λ_ _=>rfl) (zy:=κ.st) (λ_ _=>rfl) (λb hb=>(Hw b hb).2.2) hy hd
   have zhA:bI m (tg κ.st k y)=true:=by
    cases k with
    | sub b e=>exact B7 (hbm b ho)
    | xl f caps =>
     have:∀ (l:List XP) (z:ba l),(nk l z).all (uj m)=true:=by
      intro l
      induction l with
      | nil=>intro z; rfl
      | cons p r ih =>
       intro z
       have hp:∀ w:AM.den p.ty,uj m (Gr p w)=true:=λw=>by cases p<;>rfl
       cases r with
       | nil=>simp only[nk,List.all_cons,List.all_nil,Bool.and_true]; exact hp z
       | cons q r=>simp only[nk,List.all_cons,Bool.and_eq_true]; exact⟨hp z.1,by simpa using ih z.2⟩
     exact this caps y
    | st ks=>exact List.all_eq_true.2 (yd hbm Ra ks y ho)
    | mclo f ms=>exact List.all_eq_true.2 (dW Ra ms y ho)
    | _=>rfl
   have h1:=hw.rd (EE h0 zhA)
   have he:tg κ.st k y=tg zy k y:=by
    cases k with
    | sub b e=>simp only[tg]; rw[hv b ho,(Hw b ho).2.2]
    | st ks=>simp only[tg]; rw[rO (λb hb=>(Hw b hb).2.2.trans (hv b hb).symm) ks y ho]
    | _=>rfl
   rwa [he]at h1
  have ck:∀ (q:Ck) (d:D) (v:Value) (zy:St),Ns sh.bs q=true->(∀ b,rowAt sh.bs b=true->wu zy b=cn κ.st b)->(Vs κ.st q d).leads ()->Dq zy q=d/\(RD κ d v->RD κ' d v):=by
   intro q d v zy ho hv hy
   have he:=z2r ho hv hy
   refine⟨he,λhd=>hw.rd (EE hd ?_)⟩
   rw[<- he]
   cases q with
   | ptr b off=>exact B7 (Ra b ho)
   | cur b e=>exact B7 (hbm b ho)
   | xH=>rfl
   | yR=>rfl
   | xj=>rfl
   | xl f l =>
    simp only[Ns,List.all_eq_true]at ho
    simp only[Dq,bI,List.all_eq_true,List.mem_map]
    rintro _ ⟨p,hp,rfl⟩
    exact B7 (Ra p.1 (ho p hp))
  have hI':Inv κ':=by
   refine hw.inv hIc λb d' hb => ?_
   obtain⟨k,B,B',q0,q1,q2,q3⟩:=pair b (lt' hb)
   rw[hb]at q2
   cases q2
   cases q3 with
   | var kk k' d y hp hy =>
    obtain⟨blk,n',cs,t,e1,e2,e3,e4,e5⟩:=hIc.blk b _ q1
    refine⟨blk,n',cs,t,e1,e2,e3,?_⟩
    cases kk with
    | zC τ =>
     have hco:iu τ d=some y:=T.uJ.1 hy
     have ht:d.jl=false:=by
      cases d with
      | gE l=>simp[iu,D.jl]at hco
      | _=>rfl
     have Eo:=ry hco e4 e5.1 ht
     exact⟨(ru Eo).mono hw.ext,fQ τ y,nofun⟩
    | xg τ =>
     cases d<;>simp only[Zj]at hy<;>try (exact hy.elim)
     obtain⟨e,hyy⟩:=qw (T.uJ.1 hy)
     cases e
     cases hyy
     exact⟨e4.mono hw.ext,e5.1,nofun⟩
    | st ks =>
     simp only[Zj]at hy
     cases ha:d.dK with
     | false=>rw[ha]at hy; exact hy.elim
     | true =>
      rw[ha]at hy
      replace hy:(iY κ.st ks (qo d)).leads y:=hy
      have zkr:b<m:=lt' hb
      have CR:κ.st[b]? = some (.var d):=(b6 q1).1
      obtain⟨zhU,n2,cs2,t2,f1,f2,f3,f4,f5⟩:=hI.blk b _ CR
      have hp1:=(b6 e1).1
      rw[f1]at hp1
      cases hp1
      rw[show(κ.cut m).w=κ.w from rfl,f2]at e2
      cases e2
      obtain⟨g1,g2⟩:=eG (κ:=κ) (zy:=cd sh.bs (nq sh.oF x)) (bs:=sh.bs) (λb hb=>(Hw b hb).2.1) ks (qo d) y _ hp.2 hy f4
      refine⟨(MT g1 λz hz => ?_).mono hw.ext,g2,λT hT => ?_⟩
      rotate_left
      ·exact f5.2 T (Wq ha (WE ks (qo d) y hy hT))
      have:=yd (m:=m) hbm Ra ks y hp.2 z hz
      cases z<;>first | exact this | cases this
    | _=>cases hp.1
   | cvar q d hy =>
    obtain⟨blk,n',cs,t,e1,e2,e3,e4,e5⟩:=hIc.blk b _ q1
    have hoq:Ns sh.bs q=true:=hbs _ (List.mem_of_getElem? q0)
    obtain⟨g,_⟩:=ck q d undef (cd sh.bs (nq sh.oF x)) hoq (λb hb=>(Hw b hb).2.1) hy
    rw[g]
    exact⟨blk,n',cs,t,e1,e2,e3,e4.mono hw.ext,e5⟩
  refine⟨κ',rfl,rfl,hI',?_,⟨hR.size,hR.defers,λs d hd => ?_⟩,λd v hr hd=>hw.rd (z2b hd hr)⟩
  ·have qD:κ0.st.length<=m:=hl
   have c1:=z0l hx qD
   exact c1.trans hw.ext
  ·rcases get_append (l:=fV (sh.st x) sh.oF x) (m:=z8f (sh.st x) sh.cs) hd with hp | hp0
   ·obtain⟨k,y,d0,q0,q1,q2,q3⟩:=g2 _ hp
    cases q3
    obtain⟨v,r1,r2⟩:=hR.get _ _ q1
    exact⟨v,r1,dk k y d0 v (sh.st x) (ze0 _ q0) (λb hb=>(Hw b hb).1) q2 r2⟩
   ·have ni:=get_mem hp0
    unfold z8f at ni
    obtain⟨p,hp,he⟩:=List.mem_map.1 ni
    cases he
    obtain⟨d0,q1,q2⟩:=Dz h1 p hp
    obtain⟨v,r1,r2⟩:=hR.get _ _ q1
    obtain⟨g,gg⟩:=ck p.2 d0 v (sh.st x) (XN p hp) (λb hb=>(Hw b hb).1) q2
    rw[g]
    exact⟨v,r1,gg r2⟩
end
end Go.AM
namespace Go.AM
set_option linter.unusedSectionVars false
variable [uy] [Kq]
open Go.RowKit
inductive Gh where
 | slot (s:Nat) (e:Ty) | cell (b i:Nat) (e:Ty) | pcell (s i:Nat) (e:Ty)
def VB(st:St)(b i:Nat):Option (List D):=match st[b]? with
 | some (.var d)=>bif d.dK then match(qo d)[i]? with | some .xH=>some (qo d) | _=>none else none
 | _=>none
def gh:List Gh->Fr->St->Fr×St
 | [],fr,st=>(fr,st)
 | .slot s e::r,fr,st=>match fr.get s with
  | some .xH=>bif Nat.blt 0 e.size then gh r ((s,some (.ms st.length 0 e 0 0))::fr) (st++[.arr 0 e []])else gh r fr st
  | _=>gh r fr st
 | .cell b i e::r,fr,st=>match VB st b i with
  | some l=>bif Nat.blt 0 e.size then gh r fr ((st++[yg.arr 0 e []]).set b (.var (.agg (l.set i (.ms st.length 0 e 0 0)))))else gh r fr st
  | none=>gh r fr st
 | .pcell t i e::r,fr,st=>match fr.get t with
  | some (.ptr b _)=>match VB st b i with
   | some l=>bif Nat.blt 0 e.size then gh r fr ((st++[yg.arr 0 e []]).set b (.var (.agg (l.set i (.ms st.length 0 e 0 0)))))else gh r fr st
   | none=>gh r fr st
  | _=>gh r fr st
section
variable {c:Ctx} {κ:KS}
def KS.jU(κ:KS)(e:Ty):KS:={ κ with ph:=κ.ph++[none],st:=κ.st++[.arr 0 e []] }
theorem ZE(hI:Inv κ)(e:Ty):Ext κ (κ.jU e):=by
 have xV:∀ b y,κ.st[b]? = some y->(κ.st++[.arr 0 e []])[b]? = some y:=λb y h=>by rw[List.getElem?_append_left (List.getElem?_eq_some_iff.1 h).1]; exact h
 have Yl:∀ b y,κ.st[b]? = some y->(κ.ph++[none])[b]? = κ.ph[b]? := λb y h=>by
  rw[List.getElem?_append_left]; rw[hI.len]; exact(List.getElem?_eq_some_iff.1 h).1
 refine⟨rfl,rfl,rfl,Nat.le_refl _,λk hk=>⟨hk,rfl⟩,λk hk=>.inl hk,?_,λb d h=>⟨⟨d,xV b _ h⟩,Yl b _ h⟩,
  λb v0 e xs h=>.inr ⟨v0,xs,xV b _ h,Nat.le_refl _,λ_=>⟨Yl b _ h,rfl⟩⟩,λb h=>xV b _ h,by simp[KS.jU],λk hk _=>rfl⟩
 intro b blk m h
 simp only[KS.jU]at h
 grind
theorem J7(hI:Inv κ){e:Ty}(he:0<e.size):Inv (κ.jU e):=by
 have hold:∀ (b blk m:Nat),(κ.ph++[none])[b]? = some (some (blk,m))->κ.ph[b]? = some (some (blk,m)):=by
  grind
 refine⟨by simp[KS.jU,hI.len],hI.gi,λb blk m h=>hI.apart b blk m (hold b blk m h),λb b' blk m m' h h'=>hI.inj b b' blk m m' (hold _ _ _ h) (hold _ _ _ h'),?_,hI.gl⟩
 intro b y hy
 simp only[KS.jU]at hy
 by_cases hb:b<κ.st.length
 ·rw[List.getElem?_append_left hb]at hy
  exact(hI.blk b y hy).mono (ZE hI e) (by show(κ.ph++[none])[b]? = κ.ph[b]?; rw[List.getElem?_append_left (by rw[hI.len]; exact hb)]) λblk n h=>rfl
 ·have BE:=(List.getElem?_eq_some_iff.1 hy).1
  simp at BE
  have:b=κ.st.length:=by omega
  subst this
  simp at hy
  subst hy
  exact⟨he,.inl ⟨rfl,by simp[KS.jU,<- hI.len]⟩⟩
theorem Fk{l:List D}{i b v len off:Nat}{e:Ty}{tt:Nat}(h:(D.agg (l.set i (.ms b v e off len))).typed=some tt):bQ l=some tt:=by
 cases l with
 | nil=>exact h
 | cons x r=>cases i with
  | zero=>cases h
  | succ i=>cases x<;>exact h
theorem z1v{κ κ2:KS}{l:List D}{vs:List Value}{i:Nat}{d':D}(h:qN κ l vs)(hw:∀ d v,RD κ d v->RD κ2 d v)(hi:∀ v,vs[i]? = some v->RD κ2 d' v):qN κ2 (l.set i d') vs:=by
 refine⟨by rw[List.length_set]; exact h.1,λk h1 h2 => ?_⟩
 rw[List.getElem_set]
 split
 ·grind
 ·exact hw _ _ (h.2 k (by grind) h2)
theorem Lx(hI:Inv κ){e:Ty}(he:0<e.size){b i:Nat}{l:List D}(h:VB κ.st b i=some l) :
  ∃ κ':KS,κ'.w=κ.w/\κ'.st=(κ.st++[yg.arr 0 e []]).set b (.var (.agg (l.set i (.ms κ.st.length 0 e 0 0))))/\Inv κ'/\Ext κ κ':=by
 unfold VB at h
 split at h
 ·rename_i d hd
  cases ha:d.dK with
  | false=>grind
  | true =>
   rw[ha,cond_true]at h
   split at h
   ·rename_i hi
    cases h
    have hx:=ZE hI e
    have Xp:=J7 hI he
    have zkC:b<κ.st.length:=(List.getElem?_eq_some_iff.1 hd).1
    let κ2:KS:={ κ.jU e with st:=(κ.jU e).st.set b (.var (.agg ((qo d).set i (.ms κ.st.length 0 e 0 0)))) }
    have N9:(κ.jU e).st[b]? = some (.var d):=by
     show(κ.st++[_])[b]? = _
     grind
    have um:∀ j,j≠b->κ2.st[j]? = (κ.jU e).st[j]? := λj hj=>by
     grind
    have zd1:κ2.st[b]? = some (.var (.agg ((qo d).set i (.ms κ.st.length 0 e 0 0)))):=by
     grind
    have hw:Wk (κ.jU e) κ2:=by
     refine⟨rfl,rfl,rfl,by simp[κ2],λj d' hj => ?_,λj v e' xs hj => ?_,λj v e' xs hj => ?_,λj hj => ?_⟩
     ·grind
     ·grind
     ·grind
     ·by_cases c:j=b
      ·subst c; rw[N9]at hj; cases hj
      ·rw[um j c]; exact hj
    have RC:κ2.st[κ.st.length]? = some (.arr 0 e []):=by
     rw[um _ (by omega)]
     simp[KS.jU]
    have hI2:Inv κ2:=by
     refine hw.inv Xp λj d' hj => ?_
     by_cases c:j=b
     ·subst c
      rw[zd1]at hj
      cases hj
      obtain⟨blk,m,cs,t,q1,q2,q3,q4,q5⟩:=Xp.blk j _ N9
      refine⟨blk,m,cs,t,q1,q2,q3,z1v q4 (λ_ _ h=>hw.rd h) λv hv => ?_,λx hxm => ?_,λT hT => ?_⟩
      ·obtain⟨v',h1,h2⟩:=q4.get hi
       rw[hv]at h1
       cases h1
       cases h2
       refine .ms κ.st.length 0 e 0 0 0 none (.inr ⟨0,e,[],RC,Nat.le_refl _⟩) (Nat.le_refl _) (λ_=>rfl) nofun λxs U6 => ?_
       rw[RC]at U6
       cases U6
       exact⟨Nat.le_refl _,.inl ⟨rfl,rfl,rfl,by show(κ.ph++[none])[κ.st.length]? = _; simp[<- hI.len]⟩⟩
      ·rcases List.mem_or_eq_of_mem_set (show x∈(qo d).set i (.ms κ.st.length 0 e 0 0)from hxm)with h' | h'
       ·exact q5.1 x h'
       ·subst h'; rfl
      ·exact q5.2 T (Wq ha (Fk hT))
     ·rw[um j c]at hj
      exact(Xp.blk j _ hj).mono hw.ext rfl λ_ _ _=>rfl
    exact⟨κ2,rfl,rfl,hI2,hx.trans hw.ext⟩
   ·cases h
 ·cases h
theorem ml{n:Nat}{a:Act}:∀ (l:List Gh) (fr:Fr) (κ:KS),Inv κ->Rel κ n fr.get a->∃ κ':KS,κ'.w=κ.w/\κ'.st=(gh l fr κ.st).2/\Inv κ'/\Ext κ κ'/\Rel κ' n (gh l fr κ.st).1.get a
 | [],fr,κ,hI,hR=>⟨κ,rfl,rfl,hI,Ext.refl κ,hR⟩
 | .slot s e::r,fr,κ,hI,hR=>by
  unfold gh
  split
  ·rename_i hs
   cases he:Nat.blt 0 e.size with
   | false=>rw[cond_false]; exact ml r fr κ hI hR
   | true =>
    rw[cond_true]
    have Rm:0<e.size:=Nat.le_of_ble_eq_true he
    have hx:=ZE hI e
    have hR':Rel (κ.jU e) n (Fr.get ((s,some (.ms κ.st.length 0 e 0 0))::fr)) a:=by
     refine⟨hR.size,hR.defers,λt d hd => ?_⟩
     simp only[Fr.get]at hd
     cases ht:Nat.beq s t with
     | true =>
      rw[ht,cond_true]at hd
      cases hd
      have:=Nat.eq_of_beq_eq_true ht
      subst this
      obtain⟨v,h1,h2⟩:=hR.get s _ hs
      cases h2
      have RC:(κ.jU e).st[κ.st.length]? = some (.arr 0 e []):=by simp[KS.jU]
      refine⟨_,h1,.ms κ.st.length 0 e 0 0 0 none (.inr ⟨0,e,[],RC,Nat.le_refl _⟩) (Nat.le_refl _) (λ_=>rfl) nofun λxs U6 => ?_⟩
      rw[RC]at U6
      cases U6
      exact⟨Nat.le_refl _,.inl ⟨rfl,rfl,rfl,by simp[KS.jU,<- hI.len]⟩⟩
     | false =>
      rw[ht,cond_false]at hd
      obtain⟨v,h1,h2⟩:=hR.get t d hd
      exact⟨v,h1,h2.mono hx⟩
    obtain⟨κ',h1,h2,h3,h4,h5⟩:=ml r _ (κ.jU e) (J7 hI Rm) hR'
    exact⟨κ',h1,h2,h3,hx.trans h4,h5⟩
  ·exact ml r fr κ hI hR
 | .cell b i e::r,fr,κ,hI,hR=>by
  unfold gh
  split
  ·rename_i l hl
   cases he:Nat.blt 0 e.size with
   | false=>rw[cond_false]; exact ml r fr κ hI hR
   | true =>
    rw[cond_true]
    have Rm:0<e.size:=Nat.le_of_ble_eq_true he
    obtain⟨κ1,g1,g2,g3,g4⟩:=Lx hI Rm hl
    obtain⟨κ',h1,h2,h3,h4,h5⟩:=ml r fr κ1 g3 ⟨hR.size,hR.defers,λt d hd=>by
     obtain⟨v,q1,q2⟩:=hR.get t d hd
     exact⟨v,q1,q2.mono g4⟩⟩
    rw[g2]at h2 h5
    exact⟨κ',h1.trans g1,h2,h3,g4.trans h4,h5⟩
  ·exact ml r fr κ hI hR
 | .pcell t i e::r,fr,κ,hI,hR=>by
  unfold gh
  split
  ·rename_i b off hb
   split
   ·rename_i l hl
    cases he:Nat.blt 0 e.size with
    | false=>rw[cond_false]; exact ml r fr κ hI hR
    | true =>
     have Rm:0<e.size:=Nat.le_of_ble_eq_true he
     obtain⟨κ1,g1,g2,g3,g4⟩:=Lx hI Rm hl
     obtain⟨κ',h1,h2,h3,h4,h5⟩:=ml r fr κ1 g3 ⟨hR.size,hR.defers,λt d hd=>by
      obtain⟨v,q1,q2⟩:=hR.get t d hd
      exact⟨v,q1,q2.mono g4⟩⟩
     rw[g2]at h2 h5
     exact⟨κ',h1.trans g1,h2,h3,g4.trans h4,h5⟩
   ·exact ml r fr κ hI hR
  ·exact ml r fr κ hI hR
end
end Go.AM
namespace Go.AM
def tf(f:Nat->Option Nat)(d:D):Option D:=match d with
 | .ptr b off=>match f b with | some b'=>some (.ptr b' off) | none=>none
 | .yu b T=>match f b with | some b'=>some (.yu b' T) | none=>none
 | .uY b v e i off=>match f b with | some b'=>some (.uY b' v e i off) | none=>none
 | .ms b v e off len=>match f b with | some b'=>some (.ms b' v e off len) | none=>none
 | .xl _ _=>none
 | .agg _=>none
 | .gE _=>none
 | .iface _ _=>none
 | d=>some d
def DP(f:Nat->Option Nat):List D->Option (List D)
 | []=>some []
 | d::r=>match tf f d with
  | some d'=>match DP f r with | some r'=>some (d'::r') | none=>none
  | none=>none
def ow(f:Nat->Option Nat)(d:D):Option D:=match d with
 | .xl g l=>match DP f l with | some l'=>some (.xl g l') | none=>none
 | .agg l=>match DP f l with | some l'=>some (.agg l') | none=>none
 | d=>tf f d
def Vb(f:Nat->Option Nat):List D->Option (List D)
 | []=>some []
 | d::r=>match ow f d with
  | some d'=>match Vb f r with | some r'=>some (d'::r') | none=>none
  | none=>none
def Vx(f:Nat->Option Nat):yg->Option yg
 | .var d=>match ow f d with | some d'=>some (.var d') | none=>none
 | .arr v e xs=>some (.arr v e xs)
 | .dead=>some .dead
def oj(f:Nat->Option Nat):List yg->Option (List yg)
 | []=>some []
 | b::r=>match Vx f b with
  | some b'=>match oj f r with | some r'=>some (b'::r') | none=>none
  | none=>none
def tN(f:Nat->Option Nat):Fr->Fr
 | []=>[]
 | (s,some d)::r=>(s,ow f d)::tN f r
 | (s,none)::r=>(s,none)::tN f r
structure Tr(κ κ':KS)(f:Nat->Option Nat):Prop where
 w:κ'.w=κ.w
 ok:κ'.ok=κ.ok
 var:∀ (b b':Nat) (d:D),f b=some b'->κ.st[b]? = some (.var d)->(∃ d',κ'.st[b']? = some (.var d'))/\κ'.ph[b']? = κ.ph[b]?
 old:∀ (b b' qK:Nat),f b=some b'->Old κ.st b qK->Old κ'.st b' qK
 row:∀ (b b' v:Nat) (e:Ty) (xs:List (den e)),f b=some b'->κ'.st[b']? = some (.arr v e xs)->κ.st[b]? = some (.arr v e xs)/\κ'.ph[b']? = κ.ph[b]?
section
variable {κ κ':KS} {f:Nat->Option Nat}
theorem Tr.same(h:Tr κ κ' f):Ew κ.w κ'.w κ.ok κ'.ok:=λk hk=>⟨by rw[h.ok]; exact hk,by rw[h.w]⟩
theorem Tr.rd1(h:Tr κ κ' f){d d':D}{v:Value}(hd:RD κ d v)(hr:tf f d=some d'):RD κ' d' v:=by
 cases hd with
 | zC τ y cs hc=>cases hr; exact .zC τ y cs (hc.mono h.same)
 | xr e a=>cases hr; exact .xr e a
 | tight e l ne blk off g um wU hh hc=>cases hr; exact .tight e l ne blk off g um (h.same _ wU).1 (λi hi=>(hh i hi).mono h.same) λi hi j v hv=>by rw[cG (h.same _ wU).2]; exact hc i hi j v hv
 | xH=>cases hr; exact .xH
 | yR=>cases hr; exact .yR
 | xj=>cases hr; exact .xj
 | uu=>cases hr; exact .uu
 | uv=>cases hr; exact .uv
 | tP v h=>cases hr; exact .tP v h
 | dx T=>cases hr; exact .dx T
 | dr b T d hb =>
  simp only[tf]at hr
  split at hr
  ·rename_i b' hf
   cases hr
   obtain⟨⟨d',h1⟩,h2⟩:=h.var b b' d hf hb
   exact .dr b' T d' h1
  ·cases hr
 | dq b T blk n d hb hp =>
  simp only[tf]at hr
  split at hr
  ·rename_i b' hf
   cases hr
   obtain⟨⟨d',h1⟩,h2⟩:=h.var b b' d hf hb
   exact .dq b' T blk n d' h1 (h2.trans hp)
  ·cases hr
 | ptr b off blk n d hb hp =>
  simp only[tf]at hr
  split at hr
  ·rename_i b' hf
   cases hr
   obtain⟨⟨d',h1⟩,h2⟩:=h.var b b' d hf hb
   exact .ptr b' off blk n d' h1 (h2.trans hp)
  ·cases hr
 | xg τ y cs blk off wU hh hc=>cases hr; exact .xg τ y cs blk off (h.same _ wU).1 (hh.mono h.same) λj v hv=>by rw[cG (h.same _ wU).2]; exact hc j v hv
 | uY b qK e idx off blk o hb hh =>
  simp only[tf]at hr
  split at hr
  ·rename_i b' hf
   cases hr
   refine .uY b' qK e idx off blk o (h.old b b' qK hf hb) λxs hx hi => ?_
   obtain⟨h1,h2⟩:=h.row b b' qK e xs hf hx
   grind
  ·cases hr
 | ms b qK e off len cap a hb vO ha mb hh =>
  simp only[tf]at hr
  split at hr
  ·rename_i b' hf
   cases hr
   refine .ms b' qK e off len cap a (h.old b b' qK hf hb) vO ha mb λxs hx => ?_
   obtain⟨h1,h2⟩:=h.row b b' qK e xs hf hx
   have:=hh xs h1
   unfold IF at this ⊢
   grind
  ·cases hr
 | xl g l vs hl hh=>cases hr
 | agg l vs hl ho hh=>cases hr
 | gE l vs hl hh=>cases hr
 | iface t d v hh=>cases hr
theorem TE{d d':D}(h:tf f d=some d'):d'.one=d.one:=by
 cases d<;>simp only[tf]at h<;>first | (cases h; rfl) | (split at h<;>cases h; rfl) | cases h
theorem Tr.rdL(h:Tr κ κ' f):∀ {l l':List D} {vs:List Value},qN κ l vs->DP f l=some l'->qN κ' l' vs
 | [],l',vs,hd,hr=>by cases hr; rw[hd.ql]; exact .nil
 | d::r,l',vs,hd,hr=>by
  simp only[DP]at hr
  split at hr
  ·rename_i d' h1
   split at hr
   ·rename_i r' h2
    cases hr
    obtain⟨v,us,rfl,g1,g2⟩:=hd.cons_inv
    exact .cons (h.rd1 g1 h1) (h.rdL g2 h2)
   ·cases hr
  ·cases hr
theorem Ux:∀ {l l':List D},DP f l=some l'->(∀ d∈l,d.one=true)->∀ d∈l',d.one=true
 | [],l',hr,_=>by cases hr; nofun
 | d::r,l',hr,ho=>by
  simp only[DP]at hr
  split at hr
  ·rename_i d' h1
   split at hr
   ·rename_i r' h2
    cases hr
    intro x hx
    rcases List.mem_cons.1 hx with rfl | hx
    ·rw[TE h1]; exact ho d List.mem_cons_self
    ·exact Ux h2 (λy hy=>ho y (List.mem_cons_of_mem _ hy)) x hx
   ·cases hr
  ·cases hr
theorem Tr.rd(h:Tr κ κ' f){d d':D}{v:Value}(hd:RD κ d v)(hr:ow f d=some d'):RD κ' d' v:=by
 cases d with
 | xl g l =>
  simp only[ow]at hr
  split at hr
  ·rename_i l' hl
   cases hr
   cases hd with
   | xl _ _ vs h1 h2=>have:=h.rdL (⟨h1,h2⟩:qN κ l vs) hl; exact .xl g l' vs this.1 this.2
  ·cases hr
 | agg l =>
  simp only[ow]at hr
  split at hr
  ·rename_i l' hl
   cases hr
   cases hd with
   | agg _ vs h1 ho h2=>have:=h.rdL (⟨h1,h2⟩:qN κ l vs) hl; exact .agg l' vs this.1 (Ux hl ho) this.2
  ·cases hr
 | _=>exact h.rd1 hd hr
theorem Tr.rds(h:Tr κ κ' f):∀ {l l':List D} {vs:List Value},qN κ l vs->Vb f l=some l'->qN κ' l' vs
 | [],l',vs,hd,hr=>by cases hr; rw[hd.ql]; exact .nil
 | d::r,l',vs,hd,hr=>by
  simp only[Vb]at hr
  split at hr
  ·rename_i d' h1
   split at hr
   ·rename_i r' h2
    cases hr
    obtain⟨v,us,rfl,g1,g2⟩:=hd.cons_inv
    exact .cons (h.rd g1 h1) (h.rds g2 h2)
   ·cases hr
  ·cases hr
theorem Tr.flat(h:Tr κ κ' f){d d':D}{vs:List Value}(hd:qN κ (qo d) vs)(ho:∀ x∈qo d,x.one=true)(hr:ow f d=some d'):qN κ' (qo d') vs/\∀ x∈qo d',x.one=true:=by
 have zC:∀ (τ:Ty) (x:den τ) (vs:List Value),qN κ (Go.AM.flat τ x) vs->qN κ' (Go.AM.flat τ x) vs:=by
  intro τ x vs hh
  refine⟨hh.1,λi h1 h2 => ?_⟩
  have hm:=List.getElem_mem h1
  have:∃ σ z,(Go.AM.flat τ x)[i]=.zC σ z:=by
   generalize (Go.AM.flat τ x)[i]=y at hm
   clear hh h1 h2
   induction τ with
   | cons a b ia ib =>
    simp only[Go.AM.flat,List.mem_append]at hm
    grind
   | nil=>simp[Go.AM.flat]at hm
   | expr=>simp[Go.AM.flat]at hm; rcases hm with rfl | rfl | rfl | rfl | rfl | rfl<;>exact⟨_,_,rfl⟩
   | _=>simp[Go.AM.flat]at hm; subst hm; exact⟨_,_,rfl⟩
  obtain⟨σ,z,e⟩:=this
  have h3:=hh.2 i h1 h2
  rw[e]at h3 ⊢
  exact h.rd1 h3 rfl
 cases d with
 | zC τ x=>cases hr; exact⟨zC τ x vs hd,ho⟩
 | agg l =>
  simp only[ow]at hr
  split at hr
  ·rename_i l' hl
   cases hr
   exact⟨h.rdL hd hl,Ux hl ho⟩
  ·cases hr
 | gE l=>cases hr
 | xl g l =>
  obtain⟨v,r,rfl,h1,h2⟩:=qN.cons_inv (show qN κ [.xl g l] vs from hd)
  rw[h2.ql]
  have hr':=hr
  simp only[ow]at hr
  split at hr
  ·cases hr; exact⟨.cons (h.rd h1 hr') .nil,λx hx=>by simp only[qo,List.mem_singleton]at hx; subst hx; rfl⟩
  ·cases hr
 | iface t x=>cases hr
 | ptr b off =>
  obtain⟨v,r,rfl,h1,h2⟩:=qN.cons_inv (show qN κ [.ptr b off] vs from hd)
  rw[h2.ql]
  have hr':=hr
  simp only[ow,tf]at hr
  split at hr
  ·cases hr; exact⟨.cons (h.rd1 h1 hr') .nil,λx hx=>by simp only[qo,List.mem_singleton]at hx; subst hx; rfl⟩
  ·cases hr
 | yu b T =>
  obtain⟨v,r,rfl,h1,h2⟩:=qN.cons_inv (show qN κ [.yu b T] vs from hd)
  rw[h2.ql]
  have hr':=hr
  simp only[ow,tf]at hr
  split at hr
  ·cases hr; exact⟨.cons (h.rd1 h1 hr') .nil,λx hx=>by simp only[qo,List.mem_singleton]at hx; subst hx; rfl⟩
  ·cases hr
 | uY b qK e idx off =>
  obtain⟨v,r,rfl,h1,h2⟩:=qN.cons_inv (show qN κ [.uY b qK e idx off] vs from hd)
  rw[h2.ql]
  have hr':=hr
  simp only[ow,tf]at hr
  split at hr
  ·cases hr; exact⟨.cons (h.rd1 h1 hr') .nil,λx hx=>by simp only[qo,List.mem_singleton]at hx; subst hx; rfl⟩
  ·cases hr
 | ms b qK e off len =>
  obtain⟨v,r,rfl,h1,h2⟩:=qN.cons_inv (show qN κ [.ms b qK e off len] vs from hd)
  rw[h2.ql]
  have hr':=hr
  simp only[ow,tf]at hr
  split at hr
  ·cases hr; exact⟨.cons (h.rd1 h1 hr') .nil,λx hx=>by simp only[qo,List.mem_singleton]at hx; subst hx; rfl⟩
  ·cases hr
 | _ =>
  cases hr
  obtain⟨v,r,rfl,h1,h2⟩:=qN.cons_inv hd
  rw[h2.ql]
  exact⟨.cons (h.rd1 h1 rfl) .nil,ho⟩
theorem Iq{f:Nat->Option Nat}{d d':D}{tt:Nat}(h:ow f d=some d')(ht:d'.typed=some tt):d.typed=some tt:=by
 cases d with
 | agg l =>
  simp only[ow]at h
  split at h
  ·rename_i l' hl
   cases h
   cases l with
   | nil=>cases hl; cases ht
   | cons x r =>
    simp only[DP]at hl
    split at hl
    ·rename_i x' hx
     split at hl
     ·cases hl
      cases x<;>simp only[tf]at hx<;>first
       | (cases hx; exact ht)
       | (split at hx<;>first | (cases hx; exact ht) | cases hx)
       | cases hx
     ·cases hl
    ·cases hl
  ·cases h
 | xl g l =>
  simp only[ow]at h
  split at h
  ·cases h; cases ht
  ·cases h
 | _ =>
  simp only[ow,tf]at h
  first
   | (cases h; cases ht)
   | (split at h<;>first | (cases h; cases ht) | cases h)
   | cases h
theorem Tr.blk[tw](h:Tr κ κ' f){b b':Nat}(hp:κ'.ph[b']? = κ.ph[b]?){y y':yg}(hy:fb κ b y)(hr:Vx f y=some y'):fb κ' b' y':=by
 cases y with
 | dead=>cases hr; trivial
 | var d =>
  simp only[Vx]at hr
  split at hr
  ·rename_i d' hd
   cases hr
   obtain⟨blk,n,cs,t,h1,h2,h3,h4,h5⟩:=hy
   obtain⟨g1,g2⟩:=h.flat h4 h5.1 hd
   exact⟨blk,n,cs,t,hp.trans h1,by rw[h.w]; exact h2,h3,g1,g2,λT hT=>h5.2 T (Iq hd hT)⟩
  ·cases hr
 | arr qK e xs =>
  cases hr
  obtain⟨h0,hh⟩:=hy
  refine⟨h0,fk hh (λh=>⟨h.1,hp.trans h.2⟩) ?_⟩
  rintro⟨blk,n,cs,t,h1,h2,h3,h4,hr,g,h5⟩
  exact⟨blk,n,cs,t,hp.trans h1,by rw[h.w]; exact h2,h3,h4,hr,g,λi hi=>⟨(h5 i hi).1.mono h.same,(h5 i hi).2⟩⟩
theorem sk{f:Nat->Option Nat}:∀ {fr:Fr} {s:Nat} {d':D},(tN f fr).get s=some d'->∃ d,fr.get s=some d/\ow f d=some d'
 | [],s,d',h=>by cases h
 | (t,some d)::r,s,d',h=>by
  simp only[tN,Fr.get]at h ⊢
  cases ht:Nat.beq t s with
  | true=>grind
  | false=>rw[ht,cond_false]at h; simp; exact sk h
 | (t,none)::r,s,d',h=>by
  simp only[tN,Fr.get]at h ⊢
  cases ht:Nat.beq t s with
  | true=>grind
  | false=>rw[ht,cond_false]at h; simp; exact sk h
end
def pos:List Nat->Nat->Option Nat
 | [],_=>none
 | b::r,i=>bif Nat.beq b i then some 0 else match pos r i with | some j=>some (j+1) | none=>none
def gq:List Nat->Bool
 | []=>true
 | b::r=>(match pos r b with | none=>true | some _=>false)&&gq r
theorem iZ:∀ {mp:List Nat} {i j:Nat},pos mp i=some j->mp[j]? = some i
 | [],i,j,h=>by cases h
 | b::r,i,j,h=>by
  simp only[pos]at h
  cases hb:Nat.beq b i with
  | true=>rw[hb,cond_true]at h; cases h; rw[Nat.eq_of_beq_eq_true hb]; rfl
  | false =>
   rw[hb,cond_false]at h
   split at h
   ·rename_i k hk; cases h; simpa using iZ hk
   ·cases h
theorem nK:∀ {mp:List Nat} {i j:Nat},gq mp=true->mp[j]? = some i->pos mp i=some j
 | [],i,j,_,h=>by simp at h
 | b::r,i,j,hn,h=>by
  simp only[gq,Bool.and_eq_true]at hn
  cases j with
  | zero=>simp at h; subst h; simp only[pos]; rw[Nat.beq_refl]; rfl
  | succ j =>
   have h':r[j]? = some i:=by simpa using h
   have hp:=nK hn.2 h'
   have um:Nat.beq b i=false:=by
    cases hb:Nat.beq b i with
    | false=>rfl
    | true =>
     have:=Nat.eq_of_beq_eq_true hb
     grind
   simp only[pos,um,cond_false,hp]
def lB{α:Type}(l:List α):List Nat->Option (List α)
 | []=>some []
 | b::r=>match l[b]? with
  | some x=>match lB l r with | some y=>some (x::y) | none=>none
  | none=>none
theorem XZ{α:Type}{l:List α}:∀ {mp:List Nat} {r:List α},lB l mp=some r->r.length=mp.length/\∀ (j b:Nat),mp[j]? = some b->r[j]? = l[b]? /\ b<l.length
 | [],r,h=>by cases h; exact⟨rfl,λj b hj=>by grind⟩
 | b::mp,r,h=>by
  simp only[lB]at h
  split at h
  ·rename_i x hx
   split at h
   ·rename_i y hy
    obtain⟨h1,h2⟩:=XZ hy
    grind
   ·cases h
  ·cases h
theorem W9{f:Nat->Option Nat}:∀ {l r:List yg},oj f l=some r->r.length=l.length/\∀ (j:Nat) (x:yg),l[j]? = some x->∃ y,r[j]? = some y/\Vx f x=some y
 | [],r,h=>by cases h; exact⟨rfl,λj x hj=>by grind⟩
 | b::l,r,h=>by
  simp only[oj]at h
  split at h
  ·rename_i b' hb
   split at h
   ·rename_i r' hr
    obtain⟨h1,h2⟩:=W9 hr
    grind
   ·cases h
  ·cases h
def pO{α:Type}(mp:List Nat)(new:List α):Nat->List α->List α
 | _,[]=>[]
 | i,x::r=>(match pos mp i with | some j=>(match new[j]? with | some y=>y | none=>x) | none=>x)::pO mp new (i+1) r
def wE{α:Type}(mp:List Nat)(old new:List α):List α:=pO mp new 0 old++new.drop mp.length
theorem jq{α:Type}(mp:List Nat)(new:List α):∀ (l:List α) (i:Nat),(pO mp new i l).length=l.length
 | [],_=>rfl
 | x::r,i=>by simp[pO,jq mp new r (i+1)]
theorem Zs{α:Type}(mp:List Nat)(new:List α):∀ (l:List α) (i k:Nat),(pO mp new i l)[k]? = (l[k]?).map λx=>match pos mp (i+k)with | some j=>(match new[j]? with | some y=>y | none=>x) | none=>x
 | [],i,k=>by simp[pO]
 | x::r,i,0=>by simp[pO]
 | x::r,i,k+1=>by
  have:=Zs mp new r (i+1) k
  simp only[pO]
  grind
def fwd(mp:List Nat)(n:Nat)(j:Nat):Nat:=match mp[j]? with | some b=>b | none=>n+(j-mp.length)
theorem mw{α:Type}{mp:List Nat}{old new:List α}{i:Nat}(hi:i<old.length)(hp:pos mp i=none):(wE mp old new)[i]? = old[i]? := by
 unfold wE
 rw[List.getElem?_append_left (by rw[jq]; exact hi),Zs,Nat.zero_add,hp]
 simp
theorem Ct{α:Type}{mp:List Nat}{old new:List α}(hn:gq mp=true)(qD:∀ (j b:Nat),mp[j]? = some b->b<old.length)(hlen:mp.length<=new.length){j:Nat}(hj:j<new.length):(wE mp old new)[fwd mp old.length j]? = new[j]? := by
 unfold wE fwd
 cases hm:mp[j]? with
 | some b =>
  have hb:=qD j b hm
  rw[List.getElem?_append_left (by rw[jq]; exact hb),Zs,Nat.zero_add,nK hn hm]
  grind
 | none =>
  simp only
  rw[List.getElem?_append_right (by rw[jq]; omega),jq,List.getElem?_drop]
  grind
theorem ET{α:Type}{mp:List Nat}{old new:List α}(qD:∀ (j b:Nat),mp[j]? = some b->b<old.length)(hlen:mp.length<=new.length){i:Nat}(hi:i<(wE mp old new).length) :
  (i<old.length/\pos mp i=none)\/∃ j,j<new.length/\i=fwd mp old.length j:=by
 by_cases h:i<old.length
 ·cases hp:pos mp i with
  | none=>grind
  | some j =>
   have:=iZ hp
   have hj:=(List.getElem?_eq_some_iff.1 this).1
   exact .inr ⟨j,by omega,by unfold fwd; rw[this]⟩
 ·have hl:i<old.length+(new.length-mp.length):=by simpa[wE,jq]using hi
  refine .inr ⟨mp.length+(i-old.length),by omega,?_⟩
  unfold fwd
  grind
end Go.AM
namespace Go.AM
set_option linter.unusedSectionVars false
variable [uy]
open Go.RowKit
section
variable {κ:KS} {mp:List Nat}
theorem Fh{b7 l:List yg}{p1:List (Option (Nat×Nat))}(hI:Inv κ)(hn:gq mp=true)(hp:lB κ.ph mp=some p1)(hl:lB κ.st mp=some l)(hr:oj (pos mp) l=some b7) :
  Inv ⟨κ.w,κ.ok,p1,b7⟩/\Tr κ ⟨κ.w,κ.ok,p1,b7⟩ (pos mp)/\b7.length=mp.length/\p1.length=mp.length/\∀ (j b:Nat),mp[j]? = some b->p1[j]? = κ.ph[b]? /\ ∃ x y:yg,κ.st[b]? = some x/\Vx (pos mp) x=some y/\b7[j]? = some y:=by
 obtain⟨a1,a2⟩:=XZ hp
 obtain⟨b1,b2⟩:=XZ hl
 obtain⟨c1,c2⟩:=W9 hr
 have key:∀ (j b:Nat),mp[j]? = some b->p1[j]? = κ.ph[b]? /\ ∃ x y:yg,κ.st[b]? = some x/\Vx (pos mp) x=some y/\b7[j]? = some y:=by
  grind
 have at':∀ {j:Nat} {y:yg},b7[j]? = some y->∃ b,mp[j]? = some b:=λh=>by
  have:=(List.getElem?_eq_some_iff.1 h).1
  exact⟨_,List.getElem?_eq_getElem (by omega)⟩
 have hT:Tr κ ⟨κ.w,κ.ok,p1,b7⟩ (pos mp):=by
  refine⟨rfl,rfl,λb j d hf hb => ?_,λb j qK hf ho => ?_,λb j v e xs hf hb => ?_⟩
  ·obtain⟨h1,x,y,h2,h3,h4⟩:=key j b (iZ hf)
   rw[hb]at h2
   cases h2
   simp only[Vx]at h3
   grind
  ·obtain⟨h1,x,y,h2,h3,h4⟩:=key j b (iZ hf)
   rcases ho with ho | ⟨v0,e0,Zu,ho,hv⟩
   ·rw[ho]at h2; cases h2; cases h3; exact .inl h4
   ·rw[ho]at h2; cases h2; cases h3; exact .inr ⟨v0,e0,Zu,h4,hv⟩
  ·obtain⟨h1,x,y,h2,h3,h4⟩:=key j b (iZ hf)
   rw[show b7[j]? = some (.arr v e xs)from hb]at h4
   cases h4
   cases x with
   | dead=>cases h3
   | var d=>simp only[Vx]at h3; split at h3<;>cases h3
   | arr v0 e0 Zu=>cases h3; exact⟨h2,h1⟩
 refine⟨⟨by show p1.length=b7.length; omega,hI.gi,λj blk n h => ?_,λj j' blk n n' h h' => ?_,λj y h => ?_,hI.gl⟩,hT,by omega,a1,key⟩
 ·obtain⟨b,hb⟩:∃ b,mp[j]? = some b:=⟨_,List.getElem?_eq_getElem (by have:j<p1.length:=(List.getElem?_eq_some_iff.1 h).1; omega)⟩
  exact hI.apart b blk n ((a2 j b hb).1.symm.trans h)
 ·obtain⟨b,hb⟩:∃ b,mp[j]? = some b:=⟨_,List.getElem?_eq_getElem (by have:j<p1.length:=(List.getElem?_eq_some_iff.1 h).1; omega)⟩
  obtain⟨b',BE⟩:∃ b,mp[j']? = some b:=⟨_,List.getElem?_eq_getElem (by have:j'<p1.length:=(List.getElem?_eq_some_iff.1 h').1; omega)⟩
  have:=hI.inj b b' blk n n' ((a2 j b hb).1.symm.trans h) ((a2 j' b' BE).1.symm.trans h')
  subst this
  exact Option.some.inj ((nK hn hb).symm.trans (nK hn BE))
 ·obtain⟨b,hb⟩:=at' h
  obtain⟨h1,x,y',h2,h3,h4⟩:=key j b hb
  rw[show b7[j]? = some y from h]at h4
  cases h4
  exact hT.blk h1 (hI.blk b x h2) h3
theorem Hl{κ1:KS}{b7 k8 l:List yg}{p1:List (Option (Nat×Nat))}(hI:Inv κ)(hn:gq mp=true)(hp:lB κ.ph mp=some p1)(hl:lB κ.st mp=some l)(hr:oj (pos mp) l=some b7)
  (Xp:Inv κ1) (hx:Ext ⟨κ.w,κ.ok,p1,b7⟩ κ1) (hr2:oj (λj=>some (fwd mp κ.st.length j)) κ1.st=some k8) :
  ∃ κ':KS,κ'.w=κ1.w/\κ'.st=wE mp κ.st k8/\Inv κ'/\Ext κ κ'/\Tr κ1 κ' (λj=>some (fwd mp κ.st.length j)):=by
 obtain⟨hIs,hTs,s1,s2,key⟩:=Fh hI hn hp hl hr
 obtain⟨r1,r2⟩:=W9 hr2
 have qD:∀ (j b:Nat),mp[j]? = some b->b<κ.st.length:=λj b hj=>by obtain⟨_,x,_,h,_⟩:=key j b hj; exact(List.getElem?_eq_some_iff.1 h).1
 have zgc:∀ (j b:Nat),mp[j]? = some b->b<κ.ph.length:=λj b hj=>by rw[hI.len]; exact qD j b hj
 have NH:mp.length<=κ1.st.length:=by have:=hx.C0; simp only at this; omega
 have Y3:mp.length<=k8.length:=by omega
 have Rv:mp.length<=κ1.ph.length:=by rw[Xp.len]; exact NH
 let fw:=fwd mp κ.st.length
 have hlen:(wE mp κ.ph κ1.ph).length=(wE mp κ.st k8).length:=by simp[wE,jq,hI.len,Xp.len,r1]
 -- what lies where
 have cst:∀ {j:Nat} {x:yg},κ1.st[j]? = some x->∃ y,(wE mp κ.st k8)[fw j]? = some y/\Vx (λj=>some (fw j)) x=some y:=by
  intro j x hj
  obtain⟨y,h1,h2⟩:=r2 j x hj
  exact⟨y,by rw[Ct hn qD Y3 (by rw[r1]; exact(List.getElem?_eq_some_iff.1 hj).1)]; exact h1,h2⟩
 have cph:∀ {j:Nat},j<κ1.st.length->(wE mp κ.ph κ1.ph)[fw j]? = κ1.ph[j]? := by
  intro j hj
  have:=Ct (old:=κ.ph) (new:=κ1.ph) hn zgc Rv (j:=j) (by rw[Xp.len]; exact hj)
  rw[hI.len]at this
  exact this
 have ust:∀ {i:Nat},i<κ.st.length->pos mp i=none->(wE mp κ.st k8)[i]? = κ.st[i]? := λhi h=>mw hi h
 have uph:∀ {i:Nat},i<κ.st.length->pos mp i=none->(wE mp κ.ph κ1.ph)[i]? = κ.ph[i]? := λhi h=>mw (by rw[hI.len]; exact hi) h
 have XG:∀ {i:Nat},i<(wE mp κ.st k8).length->(i<κ.st.length/\pos mp i=none)\/∃ j,j<κ1.st.length/\i=fw j:=by
  intro i hi
  rcases ET qD Y3 hi with h | ⟨j,h1,h2⟩
  ·grind
  ·grind
 have OK:∀ {j b:Nat},mp[j]? = some b->fw j=b:=λh=>by simp only[fw,fwd,h]
 have zjY:∀ {j:Nat},mp[j]? = none->κ.st.length<=fw j:=λh=>by simp only[fw,fwd,h]; omega
 -- the part's own blocks
 have sph:∀ {j:Nat} {q:Nat×Nat},p1[j]? = some (some q)->∃ b,mp[j]? = some b/\κ.ph[b]? = some (some q):=by
  intro j q h
  have hj:=(List.getElem?_eq_some_iff.1 h).1
  obtain⟨b,hb⟩:∃ b,mp[j]? = some b:=⟨_,List.getElem?_eq_getElem (by omega)⟩
  grind
 have hT:Tr κ1 ⟨κ1.w,κ1.ok,wE mp κ.ph κ1.ph,wE mp κ.st k8⟩ (λj=>some (fw j)):=by
  refine⟨rfl,rfl,λj b d hf hj => ?_,λj b qK hf ho => ?_,λj b v e xs hf hb => ?_⟩
  ·cases hf
   obtain⟨y,h1,h2⟩:=cst hj
   simp only[Vx]at h2
   grind
  ·cases hf
   rcases ho with ho | ⟨v0,e0,Zu,ho,hv⟩
   ·obtain⟨y,h1,h2⟩:=cst ho; cases h2; exact .inl h1
   ·obtain⟨y,h1,h2⟩:=cst ho; cases h2; exact .inr ⟨v0,e0,Zu,h1,hv⟩
  ·cases hf
   have hb:(wE mp κ.st k8)[fw j]? = some (.arr v e xs):=hb
   have BD:=(List.getElem?_eq_some_iff.1 hb).1
   have hj:j<κ1.st.length:=by
    by_cases hj:j<κ1.st.length
    ·exact hj
    ·exfalso
     cases hm:mp[j]? with
     | some c=>have:=(List.getElem?_eq_some_iff.1 hm).1; omega
     | none =>
      have h3:fw j=κ.st.length+(j-mp.length):=by simp only[fw,fwd,hm]
      have h4:(wE mp κ.st k8).length=κ.st.length+(k8.length-mp.length):=by simp[wE,jq]
      omega
   obtain⟨y,h1,h2⟩:=cst (List.getElem?_eq_getElem hj)
   rw[hb]at h1
   cases h1
   refine⟨?_,cph hj⟩
   rw[List.getElem?_eq_getElem hj]
   generalize κ1.st[j]=x at h2
   cases x with
   | dead=>cases h2
   | var d=>simp only[Vx]at h2; split at h2<;>cases h2
   | arr v0 e0 Zu=>cases h2; rfl
 -- YG blocks lie as they lay
 have YG:∀ {i blk n:Nat},pos mp i=none->κ.ph[i]? = some (some (blk,n))->κ1.w.heap[blk]? = κ.w.heap[blk]? := by
  intro i blk n hi h
  obtain⟨g1,g2⟩:=hI.apart i blk n h
  refine hx.frame blk g1 λj m hj => ?_
  obtain⟨b,N9,By⟩:=sph hj
  have:=hI.inj i b blk n m h By
  subst this
  rw[nK hn N9]at hi
  cases hi
 have hE:Ext κ ⟨κ1.w,κ1.ok,wE mp κ.ph κ1.ph,wE mp κ.st k8⟩:=by
  refine⟨hx.os,hx.tape,hx.output,hx.size,hx.same,λk hk => ?_,λi blk n h => ?_,λi d hi => ?_,λi v0 e Zu hi => ?_,λi hi => ?_,?_,λk hk kl => ?_⟩
  ·rcases hx.fresh k hk with h | h | ⟨j,n,h⟩
   ·exact .inl h
   ·exact .inr (.inl h)
   ·obtain⟨b,_,hb⟩:=sph h; exact .inr (.inr ⟨b,n,hb⟩)
  ·have h:(wE mp κ.ph κ1.ph)[i]? = some (some (blk,n)):=h
   have Ku:i<(wE mp κ.st k8).length:=by rw[<- hlen]; exact(List.getElem?_eq_some_iff.1 h).1
   rcases XG Ku with⟨h1,h2⟩ | ⟨j,h1,rfl⟩
   ·rw[uph h1 h2]at h; exact .inl h
   ·rw[cph h1]at h
    rcases hx.phs j blk n h with h3 | h3
    ·obtain⟨b,N9,By⟩:=sph h3
     rw[OK N9]; exact .inl By
    ·exact .inr h3
  ·have O9:=(List.getElem?_eq_some_iff.1 hi).1
   cases BF:pos mp i with
   | none=>exact⟨⟨d,(ust O9 BF).trans hi⟩,uph O9 BF⟩
   | some j =>
    have hmj:=iZ BF
    obtain⟨k1,x,y,k2,k3,k4⟩:=key j i hmj
    rw[hi]at k2
    cases k2
    simp only[Vx]at k3
    split at k3
    ·cases k3
     obtain⟨⟨d',g1⟩,g2⟩:=hx.var j _ k4
     obtain⟨⟨d'',q1⟩,q2⟩:=hT.var j (fw j) d' rfl g1
     rw[OK hmj]at q1 q2
     exact⟨⟨d'',q1⟩,q2.trans (g2.trans k1)⟩
    ·cases k3
  ·have O9:=(List.getElem?_eq_some_iff.1 hi).1
   cases BF:pos mp i with
   | none=>exact .inr ⟨v0,Zu,(ust O9 BF).trans hi,Nat.le_refl _,λ_=>⟨uph O9 BF,rfl⟩⟩
   | some j =>
    have hmj:=iZ BF
    obtain⟨k1,x,y,k2,k3,k4⟩:=key j i hmj
    rw[hi]at k2
    cases k2
    cases k3
    rcases hx.arr j v0 e Zu k4 with g | ⟨v1,jI,g1,g2,g3⟩
    ·obtain⟨y,q1,q2⟩:=cst g
     cases q2
     rw[OK hmj]at q1
     exact .inl q1
    ·obtain⟨y,q1,q2⟩:=cst g1
     cases q2
     rw[OK hmj]at q1
     refine .inr ⟨v1,jI,q1,g2,λhe=>⟨?_,(g3 he).2⟩⟩
     have h4:=cph (List.getElem?_eq_some_iff.1 g1).1
     rw[OK hmj]at h4
     exact h4.trans ((g3 he).1.trans k1)
  ·have O9:=(List.getElem?_eq_some_iff.1 hi).1
   cases BF:pos mp i with
   | none=>exact(ust O9 BF).trans hi
   | some j =>
    have hmj:=iZ BF
    obtain⟨k1,x,y,k2,k3,k4⟩:=key j i hmj
    rw[hi]at k2
    cases k2
    cases k3
    obtain⟨y,q1,q2⟩:=cst (hx.dead j k4)
    cases q2
    rw[OK hmj]at q1
    exact q1
  ·show κ.st.length<=(wE mp κ.st k8).length
   simp[wE,jq]
  ·exact hx.frame k hk λj n hj=>by obtain⟨b,_,hb⟩:=sph hj; exact kl b n hb
 refine⟨⟨κ1.w,κ1.ok,wE mp κ.ph κ1.ph,wE mp κ.st k8⟩,rfl,rfl,⟨hlen,Xp.gi,λi blk n h => ?_,λi i' blk n n' h h' => ?_,λi y h => ?_,Xp.gl⟩,hE,hT⟩
 ·have h:(wE mp κ.ph κ1.ph)[i]? = some (some (blk,n)):=h
  have Ku:i<(wE mp κ.st k8).length:=by rw[<- hlen]; exact(List.getElem?_eq_some_iff.1 h).1
  rcases XG Ku with⟨h1,h2⟩ | ⟨j,h1,rfl⟩
  ·rw[uph h1 h2]at h
   obtain⟨g1,g2⟩:=hI.apart i blk n h
   refine⟨Nat.lt_of_lt_of_le g1 hx.size,λhk => ?_⟩
   rcases hx.fresh blk hk with hk | hk | ⟨j,m,hj⟩
   ·exact g2 hk
   ·simp only at hk; omega
   ·obtain⟨b,N9,By⟩:=sph hj
    have:=hI.inj i b blk n m h By
    subst this
    rw[nK hn N9]at h2
    cases h2
  ·rw[cph h1]at h
   exact Xp.apart j blk n h
 ·have h:(wE mp κ.ph κ1.ph)[i]? = some (some (blk,n)):=h
  have h':(wE mp κ.ph κ1.ph)[i']? = some (some (blk,n')):=h'
  have R9:i<(wE mp κ.st k8).length:=by rw[<- hlen]; exact(List.getElem?_eq_some_iff.1 h).1
  have z8h:i'<(wE mp κ.st k8).length:=by rw[<- hlen]; exact(List.getElem?_eq_some_iff.1 h').1
  have mixed:∀ {i j n n':Nat},i<κ.st.length->pos mp i=none->j<κ1.st.length->κ.ph[i]? = some (some (blk,n))->κ1.ph[j]? = some (some (blk,n'))->False:=by
   intro i j n n' h1 h2 h3 h4 h5
   rcases hx.phs j blk n' h5 with h6 | h6
   ·obtain⟨b,N9,By⟩:=sph h6
    have:=hI.inj i b blk n n' h4 By
    subst this
    rw[nK hn N9]at h2
    cases h2
   ·have:=(hI.apart i blk n h4).1
    simp only at h6
    omega
  rcases XG R9 with⟨h1,h2⟩ | ⟨j,h1,rfl⟩
  ·rw[uph h1 h2]at h
   rcases XG z8h with⟨h3,h4⟩ | ⟨j',h3,rfl⟩
   ·rw[uph h3 h4]at h'; exact hI.inj i i' blk n n' h h'
   ·rw[cph h3]at h'; exact(mixed h1 h2 h3 h h').elim
  ·rw[cph h1]at h
   rcases XG z8h with⟨h3,h4⟩ | ⟨j',h3,rfl⟩
   ·rw[uph h3 h4]at h'; exact(mixed h3 h4 h1 h' h).elim
   ·rw[cph h3]at h'
    rw[Xp.inj j j' blk n n' h h']
 ·have h:(wE mp κ.st k8)[i]? = some y:=h
  rcases XG (List.getElem?_eq_some_iff.1 h).1 with⟨h1,h2⟩ | ⟨j,h1,rfl⟩
  ·rw[ust h1 h2]at h
   exact(hI.blk i y h).mono hE (uph h1 h2) λblk n hb=>YG h2 hb
  ·obtain⟨z,q1,q2⟩:=cst (List.getElem?_eq_getElem h1)
   rw[h]at q1
   cases q1
   exact hT.blk (cph h1) (Xp.blk j _ (List.getElem?_eq_getElem h1)) q2
end
end Go.AM
namespace Go.AM
set_option linter.unusedSectionVars false
variable [uy]
open Go.RowKit
inductive AK where
 | any | cur | sub | ptr | xl (f:Nat)
structure kT where
 ks:List AK
 sh:vH
 yI:List Gh
 out:vH
 nr:Nat
 F:sh.den->T out.den
def IJ(fr:Fr):Nat->Nat->Option (List D)
 | 0,_=>some []
 | n+1,i=>match fr.get i with
  | some d=>match IJ fr n (i+1)with | some r=>some (d::r) | none=>none
  | none=>none
def hJ(nr:Nat)(fr:Fr):Option (List D):=IJ fr nr 0
def SH:List (Nat×Nat)->List D->Nat->Option Nat
 | p::r,.ptr b' _::ds,b=>bif Nat.beq p.1 b then some b' else SH r ds b
 | _,_,_=>none
def zbN(b:Nat):Ck->D->Option Nat
 | .ptr c _,.ptr b' _=>bif Nat.beq c b then some b' else none
 | .cur c _,.ms b' _ _ _ _=>bif Nat.beq c b then some b' else none
 | .xl _ l,.xl _ ds=>SH l ds b
 | _,_=>none
def z8b(fr:Fr)(b:Nat):List (Nat×Ck)->Option Nat
 | []=>none
 | (s,k)::r=>match fr.get s with
  | some d=>match zbN b k d with | some b'=>some b' | none=>z8b fr b r
  | none=>z8b fr b r
def Df(b:Nat):List Mc->List D->Option Nat
 | .pt c::r,.ptr b' _::ds=>bif Nat.beq c b then some b' else Df b r ds
 | .pt _::r,_::ds=>Df b r ds
 | .im _::r,_::ds=>Df b r ds
 | .rp _::r,_::ds=>Df b r ds
 | _,_=>none
def Uq(b:Nat):List Sk->List D->Option Nat
 | .im τ::r,ds=>Uq b r (ds.drop τ.size)
 | .row c _::r,.ms b' _ _ _ _::ds=>bif Nat.beq c b then some b' else Uq b r ds
 | .row _ _::r,_::ds=>Uq b r ds
 | .op c _::r,.yu b' _::ds=>bif Nat.beq c b then some b' else Uq b r ds
 | .op _ _::r,_::ds=>Uq b r ds
 | .un::r,_::ds=>Uq b r ds
 | _,_=>none
def Yk(fr:Fr)(b:Nat):List It->Option Nat
 | []=>none
 | .s s (.mclo _ ms)::r=>match fr.get s with
  | some (.xl _ l)=>match Df b ms l with | some b'=>some b' | none=>Yk fr b r
  | _=>Yk fr b r
 | .s s (.sub c _)::r=>match fr.get s with
  | some (.ms b' _ _ _ _)=>bif Nat.beq c b then some b' else Yk fr b r
  | _=>Yk fr b r
 | _::r=>Yk fr b r
def P0(st:St)(b:Nat):List Bk->List (Option Nat)->Option Nat
 | .cvar k::r,some p::ps=>match st[p]? with
  | some (.var d)=>match zbN b k d with | some b'=>some b' | none=>P0 st b r ps
  | _=>P0 st b r ps
 | .var (.st ks)::r,some p::ps=>match st[p]? with
  | some (.var d)=>match Uq b ks (qo d)with | some b'=>some b' | none=>P0 st b r ps
  | _=>P0 st b r ps
 | _::r,_::ps=>P0 st b r ps
 | _,_=>none
def ze6(sh:vH)(fr:Fr):Nat->List Bk->List (Option Nat)
 | _,[]=>[]
 | b,_::r=>(match z8b fr b sh.cs with | some b'=>some b' | none=>Yk fr b sh.oF)::ze6 sh fr (b+1) r
def z3s(sh:vH)(st:St)(m:List (Option Nat)):Nat->List (Option Nat)->List (Option Nat)
 | _,[]=>[]
 | b,some b'::r=>some b'::z3s sh st m (b+1) r
 | b,none::r=>P0 st b sh.bs m::z3s sh st m (b+1) r
def za6:List (Option Nat)->Option (List Nat)
 | []=>some []
 | some b::r=>match za6 r with | some l=>some (b::l) | none=>none
 | none::_=>none
def mapOf(sh:vH)(fr:Fr)(st:St):Option (List Nat):=let m:=ze6 sh fr 0 sh.bs
 let m:=z3s sh st m 0 m
 za6 (z3s sh st m 0 m)
def kT.back(d:kT)(mp:List Nat)(st:St)(y:d.out.den):T (Bv×St):=match hJ d.nr (d.out.fr y),oj (λj=>some (fwd mp st.length j)) (d.out.st y)with
 | some ds,some k8=>match Vb (λj=>some (fwd mp st.length j)) ds with
  | some Y6=>.ret (.ret Y6,wE mp st k8)
  | none=>.fail
 | _,_=>.fail
def kT.inner(d:kT)(mp:List Nat)(fr:Fr)(st:St):T (Bv×St):=match lB st mp with
 | none=>.fail
 | some l=>match oj (pos mp) l with
  | none=>.fail
  | some b7=>(d.sh.un (tN (pos mp) fr) b7).bind λx=>(d.F x).bind λy=>d.back mp st y
def kT.S(d:kT)(args:List D)(st:St):T (Bv×St) :=
 match mapOf d.sh (gh d.yI (wT args 0) st).1 (gh d.yI (wT args 0) st).2 with
 | none=>.fail
 | some mp=>bif gq mp&&Nat.ble mp.length d.sh.bs.length&&Nat.beq args.length d.ks.length then d.inner mp (gh d.yI (wT args 0) st).1 (gh d.yI (wT args 0) st).2 else .fail
def kT.JR{α:Type}(d:kT)(mp:List Nat)(st:St)(y:d.out.den)(k:List D->St->T α):T α:=match hJ d.nr (d.out.fr y),oj (λj=>some (fwd mp st.length j)) (d.out.st y)with
 | some ds,some k8=>match Vb (λj=>some (fwd mp st.length j)) ds with
  | some Y6=>k Y6 (wE mp st k8)
  | none=>.fail
 | _,_=>.fail
def kT.rf{α:Type}(d:kT)(mp:List Nat)(fr:Fr)(st:St)(k:List D->St->T α):T α:=match lB st mp with
 | none=>.fail
 | some l=>match oj (pos mp) l with
  | none=>.fail
  | some b7=>(d.sh.un (tN (pos mp) fr) b7).bind λx=>(d.F x).bind λy=>d.JR mp st y k
def kT.K{α:Type}(d:kT)(args:List D)(st:St)(k:List D->St->T α):T α :=
 match mapOf d.sh (gh d.yI (wT args 0) st).1 (gh d.yI (wT args 0) st).2 with
 | none=>.fail
 | some mp=>bif gq mp&&Nat.ble mp.length d.sh.bs.length&&Nat.beq args.length d.ks.length then d.rf mp (gh d.yI (wT args 0) st).1 (gh d.yI (wT args 0) st).2 k else .fail
theorem kT.R6{α:Type}{d:kT}{args:List D}{st:St}{k:List D->St->T α}{r:α}(h:(d.K args st k).leads r):∃ ds zy,(d.S args st).leads (.ret ds,zy)/\(k ds zy).leads r:=by
 unfold kT.K at h
 unfold kT.S
 split at h
 ·exact h.elim
 ·rename_i mp Rv
  cases hc:gq mp&&Nat.ble mp.length d.sh.bs.length&&Nat.beq args.length d.ks.length with
  | false=>rw[hc]at h; exact h.elim
  | true =>
   rw[hc,cond_true]at h
   unfold kT.rf at h
   unfold kT.inner
   split at h
   ·exact h.elim
   ·rename_i l hl
    split at h
    ·exact h.elim
    ·rename_i b7 hst1
     obtain⟨x,h1,h⟩:=T.ze.1 h
     obtain⟨y,h2,h⟩:=T.ze.1 h
     unfold kT.JR at h
     split at h
     ·rename_i ds k8 e1 e2
      split at h
      ·rename_i Y6 e3
       refine⟨Y6,_,T.ze.2 ⟨x,h1,T.ze.2 ⟨y,h2,?_⟩⟩,h⟩
       unfold kT.back
       simp only[e1,e2,e3]
       rfl
      ·exact h.elim
     ·exact h.elim
def gx(Dr:RH)(g:Nat)(d:kT):Prop:=∀ (κ:KS) (x:d.sh.den) (zJ:List Value) (y:d.out.den),κ.st=d.sh.st x->(d.F x).leads y->Inv κ->zJ.length=d.ks.length ->
 Rel κ zJ.length (d.sh.fr x).get { tmps:=zJ.toArray,defers:=[] } ->
 Dr g zJ.toArray κ.w λe w'=>∃ (κ':KS) (ds:List D),κ'.w=w'/\κ'.st=d.out.st y/\Inv κ'/\Ext κ κ'/\hJ d.nr (d.out.fr y)=some ds/\wX κ' (.ret ds) e
def qR(P:Program)(g:Nat)(d:kT):Prop:=∀ (κ:KS) (x:d.sh.den) (zJ:List Value) (y:d.out.den),κ.st=d.sh.st x->(d.F x).leads y->Inv κ->zJ.length=d.ks.length ->
 Rel κ zJ.length (d.sh.fr x).get { tmps:=zJ.toArray,defers:=[] } ->
 j7 P g zJ.toArray κ.w λe w'=>∃ (κ':KS) (ds:List D),κ'.w=w'/\κ'.st=d.out.st y/\Inv κ'/\Ext κ κ'/\hJ d.nr (d.out.fr y)=some ds/\wX κ' (.ret ds) e
theorem IV{κ κ':KS}{f:Nat->Option Nat}(h:Tr κ κ' f){ds Y6:List D}{v:Value}(hd:RD κ (yV ds) v)(hr:Vb f ds=some Y6):RD κ' (yV Y6) v:=by
 match ds,hr with
 | [],hr =>
  cases hr
  cases hd with
  | gE _ vs hl hh =>
   obtain rfl:vs=[]:=List.eq_nil_of_length_eq_zero hl.symm
   exact .gE [] [] rfl (λi h=>absurd h (Nat.not_lt_zero i))
 | [d],hr =>
  simp only[Vb]at hr
  split at hr
  ·rename_i d' h1
   cases hr
   exact h.rd hd h1
  ·cases hr
 | d::e::r,hr =>
  cases hd with
  | gE _ vs hl hh =>
   have hR:=h.rds (⟨hl,hh⟩:qN κ (d::e::r) vs) hr
   simp only[Vb]at hr
   split at hr
   ·split at hr
    ·rename_i r' h2
     cases hr
     split at h2
     ·split at h2
      ·cases h2; exact .gE _ vs hR.1 hR.2
      ·cases h2
     ·cases h2
    ·cases hr
   ·cases hr
theorem Zt{α β:Type}{l:List α}{m:List β}(h:l.length=m.length):∀ {mp:List Nat} {r:List α},lB l mp=some r->∃ q,lB m mp=some q
 | [],_,_=>⟨[],rfl⟩
 | b::mp,r,hr=>by
  simp only[lB]at hr
  split at hr
  ·rename_i x hx
   split at hr
   ·rename_i y hy
    obtain⟨q,hq⟩:=Zt h hy
    have hb:b<m.length:=by have:=(List.getElem?_eq_some_iff.1 hx).1; omega
    exact⟨m[b]::q,by simp only[lB,List.getElem?_eq_getElem hb,hq]⟩
   ·cases hr
  ·cases hr
theorem kT.z7l{Dr:RH}(zdt:∀ {g a w} {R R':Ending->World->Prop},Dr g a w R->(∀ e w',R e w'->R' e w')->Dr g a w R'){g:Nat}{d:kT}(h:gx Dr g d):zeQ Dr g d.S:=by
 intro κ args zJ rs zy hl hI ha
 have T0:Rel κ zJ.length (wT args 0).get { tmps:=zJ.toArray,defers:=[] }:=by
  have:=Q8 (n:=zJ.length) ha (by rw[ha.1]; exact Nat.le_refl _)
  simpa[show(Kq.df:List Deferred)=[]from rfl]using this
 obtain⟨κ0,w1,w2,w3,w4,w5⟩:=ml d.yI (wT args 0) κ hI T0
 unfold kT.S at hl
 rw[<- w2]at hl
 split at hl
 ·exact hl.elim
 ·rename_i mp Rv
  cases hc:gq mp&&Nat.ble mp.length d.sh.bs.length&&Nat.beq args.length d.ks.length with
  | false=>rw[hc]at hl; exact hl.elim
  | true =>
   rw[hc,cond_true]at hl
   simp only[Bool.and_eq_true]at hc
   obtain⟨⟨hn,hle⟩,hlen⟩:=hc
   unfold kT.inner at hl
   split at hl
   ·exact hl.elim
   ·rename_i l V5
    split at hl
    ·exact hl.elim
    ·rename_i b7 hst1
     obtain⟨x,h1,hl⟩:=T.ze.1 hl
     obtain⟨y,h2,hl⟩:=T.ze.1 hl
     obtain⟨p1,hpp⟩:=Zt (m:=κ0.ph) w3.len.symm V5
     obtain⟨s1,s2,s3,s4,s5⟩:=Fh w3 hn hpp V5 hst1
     have GG:Rel ⟨κ0.w,κ0.ok,p1,b7⟩ zJ.length (tN (pos mp) (gh d.yI (wT args 0) κ.st).1).get { tmps:=zJ.toArray,defers:=[] } :=
      ⟨w5.size,w5.defers,λs d' hd=>by
       obtain⟨d0,q1,q2⟩:=sk hd
       obtain⟨v,q3,q4⟩:=w5.get s d0 q1
       exact⟨v,q3,s2.rd q4 q2⟩⟩
     obtain⟨κ2,u1,u2,u3,u4,u5,_⟩:=d.sh.Xo (κ0:=⟨κ0.w,κ0.ok,p1,b7⟩) (κ:=⟨κ0.w,κ0.ok,p1,b7⟩) (Ext.refl _) s1 GG (by show b7.length<=_; rw[s3]; exact Nat.le_of_ble_eq_true hle) h1
     have hw:κ2.w=κ.w:=u1.trans w1
     have hdo:=h κ2 x zJ y u2 h2 u3 (by rw[<- ha.1]; exact Nat.eq_of_beq_eq_true hlen) u5
     rw[hw]at hdo
     refine zdt hdo ?_
     rintro e w' ⟨κ3,ds,rfl,g1,g2,g3,g4,v,rfl,g5⟩
     unfold kT.back at hl
     rw[g4,<- g1]at hl
     split at hl
     ·rename_i ds0 k8 e1 e2
      cases e1
      split at hl
      ·rename_i Y6 hds'
       cases hl
       obtain⟨κ',k1,k2,k3,k4,k5⟩:=Hl w3 hn hpp V5 hst1 g2 (u4.trans g3) e2
       exact⟨κ',k1,k2,k3,w4.trans k4,v,rfl,IV k5 g5 hds'⟩
      ·exact hl.elim
     ·exact hl.elim
theorem kT.snd{P:Program}{g:Nat}{d:kT}(h:qR P g d):BC P g d.S:=kT.z7l (Dr:=j7 P) j7.mono h
structure iH where
 ks:List AK
 sh:vH
 yI:List Gh
 out:vH
 nr:Nat
 pt:Nat
 yk:vH
 F:sh.den->T (out.den⊕yk.den)
abbrev iH.s(d:iH):kT:=⟨d.ks,d.sh,d.yI,d.out,d.nr,λ_=>.fail⟩
def iH.TR{α:Type}(d:iH)(mp:List Nat)(st:St)(z:d.yk.den)(kp:D->St->T α):T α:=match(d.yk.fr z).get 0,oj (λj=>some (fwd mp st.length j)) (d.yk.st z)with
 | some (.zC τ x),some k8=>kp (.iface d.pt (.zC τ x)) (wE mp st k8)
 | _,_=>.fail
def iH.rf{α:Type}(d:iH)(mp:List Nat)(fr:Fr)(st:St)(k:List D->St->T α)(kp:D->St->T α):T α:=match lB st mp with
 | none=>.fail
 | some l=>match oj (pos mp) l with
  | none=>.fail
  | some b7=>(d.sh.un (tN (pos mp) fr) b7).bind λx=>(d.F x).bind (Sum.elim (λy=>d.s.JR mp st y k) (λz=>d.TR mp st z kp))
def iH.K{α:Type}(d:iH)(args:List D)(st:St)(k:List D->St->T α)(kp:D->St->T α):T α :=
 match mapOf d.sh (gh d.yI (wT args 0) st).1 (gh d.yI (wT args 0) st).2 with
 | none=>.fail
 | some mp=>bif gq mp&&Nat.ble mp.length d.sh.bs.length&&Nat.beq args.length d.ks.length then d.rf mp (gh d.yI (wT args 0) st).1 (gh d.yI (wT args 0) st).2 k kp else .fail
def iH.S(d:iH)(args:List D)(st:St):T (Bv×St):=d.K args st (λds zy=>.ret (.ret ds,zy)) (λp zy=>.ret (.yk p,zy))
theorem iH.R6{α:Type}{d:iH}{args:List D}{st:St}{k:List D->St->T α}{kp:D->St->T α}{r:α}(h:(d.K args st k kp).leads r) :
  (∃ ds zy,(d.S args st).leads (.ret ds,zy)/\(k ds zy).leads r)\/∃ p zy,(d.S args st).leads (.yk p,zy)/\(kp p zy).leads r:=by
 unfold iH.K at h
 unfold iH.S iH.K
 split at h
 ·exact h.elim
 ·rename_i mp Rv
  cases hc:gq mp&&Nat.ble mp.length d.sh.bs.length&&Nat.beq args.length d.ks.length with
  | false=>rw[hc]at h; exact h.elim
  | true =>
   rw[hc,cond_true]at h
   unfold iH.rf at h
   unfold iH.rf
   split at h
   ·exact h.elim
   ·rename_i l hl
    split at h
    ·exact h.elim
    ·rename_i b7 hst1
     obtain⟨x,h1,h⟩:=T.ze.1 h
     obtain⟨y,h2,h⟩:=T.ze.1 h
     cases y with
     | inl y =>
      simp at h
      unfold kT.JR at h
      split at h
      ·rename_i ds k8 e1 e2
       split at h
       ·rename_i Y6 e3
        refine .inl ⟨Y6,_,T.ze.2 ⟨x,h1,T.ze.2 ⟨.inl y,h2,?_⟩⟩,h⟩
        simp
        unfold kT.JR
        simp only[e1,e2,e3]
        rfl
       ·exact h.elim
      ·exact h.elim
     | inr z =>
      simp at h
      unfold iH.TR at h
      split at h
      ·rename_i τ p k8 e1 e2
       refine .inr ⟨_,_,T.ze.2 ⟨x,h1,T.ze.2 ⟨.inr z,h2,?_⟩⟩,h⟩
       simp
       unfold iH.TR
       simp only[e1,e2]
       rfl
      ·exact h.elim
def yi(P:Program)(g:Nat)(d:iH):Prop:=∀ (κ:KS) (x:d.sh.den) (zJ:List Value) (r:d.out.den⊕d.yk.den),κ.st=d.sh.st x->(d.F x).leads r->Inv κ->zJ.length=d.ks.length ->
 Rel κ zJ.length (d.sh.fr x).get { tmps:=zJ.toArray,defers:=[] } ->
 j7 P g zJ.toArray κ.w λe w'=>∃ κ':KS,κ'.w=w'/\Inv κ'/\Ext κ κ' /\
  ((∃ (y:d.out.den) (ds:List D),r=.inl y/\κ'.st=d.out.st y/\hJ d.nr (d.out.fr y)=some ds/\wX κ' (.ret ds) e) \/
   ∃ (z:d.yk.den) (p:D),r=.inr z/\κ'.st=d.yk.st z/\(d.yk.fr z).get 0=some p/\wX κ' (.yk (.iface d.pt p)) e)
theorem iH.snd{P:Program}{g:Nat}{d:iH}(h:yi P g d):BC P g d.S:=by
 intro κ args zJ rs zy hl hI ha
 have T0:Rel κ zJ.length (wT args 0).get { tmps:=zJ.toArray,defers:=[] }:=by
  have:=Q8 (n:=zJ.length) ha (by rw[ha.1]; exact Nat.le_refl _)
  simpa[show(Kq.df:List Deferred)=[]from rfl]using this
 obtain⟨κ0,w1,w2,w3,w4,w5⟩:=ml d.yI (wT args 0) κ hI T0
 unfold iH.S iH.K at hl
 rw[<- w2]at hl
 split at hl
 ·exact hl.elim
 ·rename_i mp Rv
  cases hc:gq mp&&Nat.ble mp.length d.sh.bs.length&&Nat.beq args.length d.ks.length with
  | false=>rw[hc]at hl; exact hl.elim
  | true =>
   rw[hc,cond_true]at hl
   simp only[Bool.and_eq_true]at hc
   obtain⟨⟨hn,hle⟩,hlen⟩:=hc
   unfold iH.rf at hl
   split at hl
   ·exact hl.elim
   ·rename_i l V5
    split at hl
    ·exact hl.elim
    ·rename_i b7 hst1
     obtain⟨x,h1,hl⟩:=T.ze.1 hl
     obtain⟨y,h2,hl⟩:=T.ze.1 hl
     obtain⟨p1,hpp⟩:=Zt (m:=κ0.ph) w3.len.symm V5
     obtain⟨s1,s2,s3,s4,s5⟩:=Fh w3 hn hpp V5 hst1
     have GG:Rel ⟨κ0.w,κ0.ok,p1,b7⟩ zJ.length (tN (pos mp) (gh d.yI (wT args 0) κ.st).1).get { tmps:=zJ.toArray,defers:=[] } :=
      ⟨w5.size,w5.defers,λs d' hd=>by
       obtain⟨d0,q1,q2⟩:=sk hd
       obtain⟨v,q3,q4⟩:=w5.get s d0 q1
       exact⟨v,q3,s2.rd q4 q2⟩⟩
     obtain⟨κ2,u1,u2,u3,u4,u5,_⟩:=d.sh.Xo (κ0:=⟨κ0.w,κ0.ok,p1,b7⟩) (κ:=⟨κ0.w,κ0.ok,p1,b7⟩) (Ext.refl _) s1 GG (by show b7.length<=_; rw[s3]; exact Nat.le_of_ble_eq_true hle) h1
     have hw:κ2.w=κ.w:=u1.trans w1
     have hdo:=h κ2 x zJ y u2 h2 u3 (by rw[<- ha.1]; exact Nat.eq_of_beq_eq_true hlen) u5
     rw[hw]at hdo
     refine hdo.mono ?_
     rintro e w' ⟨κ3,rfl,g2,g3,⟨y,ds,rfl,g1,g4,v,rfl,g5⟩ | ⟨z,p,rfl,g1,g4,v,rfl,g5⟩⟩
     ·simp only[Sum.elim_inl]at hl
      unfold kT.JR at hl
      rw[show hJ d.s.nr (d.s.out.fr y)=some ds from g4,show d.s.out.st y=κ3.st from g1.symm]at hl
      split at hl
      ·rename_i ds0 k8 e1 e2
       cases e1
       split at hl
       ·rename_i Y6 hds'
        cases hl
        obtain⟨κ',k1,k2,k3,k4,k5⟩:=Hl w3 hn hpp V5 hst1 g2 (u4.trans g3) e2
        exact⟨κ',k1,k2,k3,w4.trans k4,v,rfl,IV k5 g5 hds'⟩
       ·exact hl.elim
      ·exact hl.elim
     ·simp only[Sum.elim_inr]at hl
      unfold iH.TR at hl
      rw[g4,<- g1]at hl
      split at hl
      ·rename_i τ q k8 e1 e2
       cases e1
       cases hl
       obtain⟨κ',k1,k2,k3,k4,k5⟩:=Hl w3 hn hpp V5 hst1 g2 (u4.trans g3) e2
       refine⟨κ',k1,k2,k3,w4.trans k4,v,rfl,?_⟩
       cases g5 with
       | iface _ _ u hu=>exact .iface _ _ u (k5.rd hu rfl)
      ·exact hl.elim
end Go.AM
namespace Go.AM
def Bu(sh:vH)(yI:List Gh)(args:List D)(st:St):List Nat:=bif yI.isEmpty then match mapOf sh (wT args 0) st with | some mp=>others st.length mp | none=>[]else[]
def kT.free(d:kT)(args:List D)(st:St):List Nat:=Bu d.sh d.yI args st
def iH.free(d:iH)(args:List D)(st:St):List Nat:=Bu d.sh d.yI args st
theorem CD{m b:Nat}{l:List Nat}(h:b∈others m l):b<m/\∀ x∈l,b≠x:=by
 simp only[others,List.mem_filter,List.mem_range,Bool.not_eq_true',List.any_eq_false]at h
 exact⟨h.1,λx hx e=>by subst e; exact h.2 b hx (Nat.beq_refl _)⟩
theorem DD:∀ {mp:List Nat} {b:Nat},(∀ x∈mp,b≠x)->pos mp b=none
 | [],_,_=>rfl
 | x::r,b,h=>by
  simp only[pos]
  rw[show Nat.beq x b=false from by cases hb:Nat.beq x b with | false=>rfl | true=>exact absurd (Nat.eq_of_beq_eq_true hb).symm (h x List.mem_cons_self),cond_false,DD λy hy=>h y (List.mem_cons_of_mem _ hy)]
theorem Ud{sh:vH}{yI:List Gh}{args:List D}{st:St}{b:Nat}(hb:b∈Bu sh yI args st):yI=[]/\∃ mp,mapOf sh (wT args 0) st=some mp/\b<st.length/\pos mp b=none:=by
 unfold Bu at hb
 cases hn:yI.isEmpty with
 | false=>grind
 | true =>
  rw[hn,cond_true]at hb
  refine⟨List.isEmpty_iff.1 hn,?_⟩
  split at hb
  ·rename_i mp Rv
   obtain⟨h1,h2⟩:=CD hb
   exact⟨mp,Rv,h1,DD h2⟩
  ·cases hb
theorem kT.Qr{d:kT}{args:List D}{st zy:St}{rs:Bv}{b:Nat}(h:(d.S args st).leads (rs,zy))(hb:b∈d.free args st):zy[b]? = st[b]? := by
 obtain⟨hn,mp,Rv,qD,Zy⟩:=Ud hb
 unfold kT.S at h
 rw[hn]at h
 simp only[gh,Rv]at h
 cases hc:gq mp&&Nat.ble mp.length d.sh.bs.length&&Nat.beq args.length d.ks.length with
 | false=>rw[hc]at h; exact h.elim
 | true =>
  rw[hc,cond_true]at h
  unfold kT.inner at h
  split at h
  ·exact h.elim
  ·split at h
   ·exact h.elim
   ·obtain⟨x,_,h⟩:=T.ze.1 h
    obtain⟨y,_,h⟩:=T.ze.1 h
    unfold kT.back at h
    split at h
    ·split at h
     ·cases h; exact mw qD Zy
     ·exact h.elim
    ·exact h.elim
theorem iH.Qr{d:iH}{args:List D}{st zy:St}{rs:Bv}{b:Nat}(h:(d.S args st).leads (rs,zy))(hb:b∈d.free args st):zy[b]? = st[b]? := by
 obtain⟨hn,mp,Rv,qD,Zy⟩:=Ud hb
 unfold iH.S iH.K at h
 rw[hn]at h
 simp only[gh,Rv]at h
 cases hc:gq mp&&Nat.ble mp.length d.sh.bs.length&&Nat.beq args.length d.ks.length with
 | false=>rw[hc]at h; exact h.elim
 | true =>
  rw[hc,cond_true]at h
  unfold iH.rf at h
  split at h
  ·exact h.elim
  ·split at h
   ·exact h.elim
   ·obtain⟨x,_,h⟩:=T.ze.1 h
    obtain⟨y,_,h⟩:=T.ze.1 h
    cases y with
    | inl y =>
     simp at h
     unfold kT.JR at h
     split at h
     ·split at h
      ·cases h; exact mw qD Zy
      ·exact h.elim
     ·exact h.elim
    | inr z =>
     simp at h
     unfold iH.TR at h
     split at h
     ·cases h; exact mw qD Zy
     ·exact h.elim
end Go.AM
namespace Go.AM
def ZP.den:ZP->Type
 | .ty τ=>AM.den τ
 | .rp τ=>AM.den τ
 | .xl _ caps=>ba caps
def yn:List ZP->Type
 | []=>Unit
 | [p]=>p.den
 | p::q::r=>p.den×yn (q::r)
def mkP:(p:ZP)->p.den->D
 | .ty τ,x=>.zC τ x
 | .rp τ,x=>.xg τ x
 | .xl f caps,x=>.xl f (nk caps x)
def Wb:(l:List ZP)->yn l->List D
 | [],_=>[]
 | [p],x=>[mkP p x]
 | p::q::r,x=>mkP p x.1::Wb (q::r) x.2
def ZW:(l:List Ty)->BG l->List D
 | [],_=>[]
 | [τ],x=>[.zC τ x]
 | τ::σ::r,x=>.zC τ x.1::ZW (σ::r) x.2
def rpX(st:St)(τ:Ty):D->T (den τ)
 | .xg _ x=>match(vT x:Option (den τ))with | some y=>.ret y | none=>.fail
 | .ptr b off=>match st[b]? with
  | some (.var d)=>match bif Nat.beq off 0 then iu τ d else none with | some y=>.ret y | none=>.fail
  | _=>.fail
 | _=>.fail
def z1h(st:St):(p:XP)->D->T (den p.ty)
 | .im τ,d=>QC st τ d
 | .rp τ,d=>rpX st τ d
def My(st:St):(l:List XP)->List D->T (ba l)
 | [],[]=>.ret ()
 | [p],[d]=>z1h st p d
 | p::q::r,d::ds=>(z1h st p d).bind λx=>(My st (q::r) ds).bind λy=>.ret (x,y)
 | _,_=>.fail
def unP(st:St):(p:ZP)->D->T p.den
 | .ty τ,d=>QC st τ d
 | .rp τ,d=>rpX st τ d
 | .xl f caps,d=>match d with
  | .xl f' l=>bif Nat.beq f f' then My st caps l else .fail
  | _=>.fail
def E5(st:St):(l:List ZP)->List D->T (yn l)
 | [],[]=>.ret ()
 | [p],[d]=>unP st p d
 | p::q::r,d::ds=>(unP st p d).bind λx=>(E5 st (q::r) ds).bind λy=>.ret (x,y)
 | _,_=>.fail
def PY(st:St):(l:List Ty)->List D->T (BG l)
 | [],[]=>.ret ()
 | [τ],[d]=>QC st τ d
 | τ::σ::r,d::ds=>(QC st τ d).bind λx=>(PY st (σ::r) ds).bind λy=>.ret (x,y)
 | _,_=>.fail
structure CY where
 ps:List ZP
 rs:List Ty
 F:yn ps->T (BG rs)
def z8d:ZP->D->Bool
 | .xl f _,d=>match d with | .xl f' _=>Nat.beq f f' | _=>false
 | _,d=>match d with | .xl _ _=>false | _=>true
def fits:List ZP->List D->Bool
 | [],[]=>true
 | p::ps,d::ds=>z8d p d&&fits ps ds
 | _,_=>false
def z8p:AK->D->Bool
 | .any,d=>match d with | .xl _ _=>false | _=>true
 | .cur,d=>match d with | .ms .. => true | .xH=>true | _=>false
 | .sub,d=>match d with | .ms .. => true | _=>false
 | .ptr,d=>match d with | .ptr .. => true | _=>false
 | .xl f,d=>match d with | .xl f' _=>Nat.beq f f' | _=>false
def nX:List AK->List D->Bool
 | [],[]=>true
 | p::ps,d::ds=>z8p p d&&nX ps ds
 | _,_=>false
inductive FnE where
 | d (x:CY)
 | s (x:kT)
 | p (x:iH)
def FnE.fits:FnE->List D->Bool
 | .d x,l=>AM.fits x.ps l
 | .s x,l=>nX x.ks l
 | .p x,l=>nX x.ks l
abbrev dX:=List (Nat×FnE)
def dX.find:dX->Nat->List D->Option FnE
 | [],_,_=>none
 | (g',d)::r,g,args=>bif Nat.beq g' g&&d.fits args then some d else dX.find r g args
abbrev Sm:=List D->St->T (Bv×St)
def CY.S(d:CY):Sm:=λargs st=>match st with
 | []=>(E5 [] d.ps args).bind λx=>(d.F x).bind λy=>.ret (.ret (ZW d.rs y),[])
 | _=>.fail
def dX.call(tab:dX)(g:Nat)(args:List D)(st:St):T (Bv×St):=match tab.find g args with | some (.d d)=>d.S args st | some (.s d)=>d.S args st | some (.p d)=>d.S args st | none=>.fail
def dX.free(tab:dX)(g:Nat)(args:List D)(st:St):List Nat:=match tab.find g args with | some (.s d)=>d.free args st | some (.p d)=>d.free args st | _=>[]
theorem dX.Qr(tab:dX)(g:Nat)(args:List D)(st:St)(rs:Bv)(zy:St)(b:Nat)(h:(tab.call g args st).leads (rs,zy))(hb:b∈tab.free g args st):zy[b]? = st[b]? := by
 unfold dX.call at h
 unfold dX.free at hb
 split at hb
 ·rename_i d hd; rw[hd]at h; exact kT.Qr h hb
 ·rename_i d hd; rw[hd]at h; exact iH.Qr h hb
 ·cases hb
def uP(P:Program)(xid:Nat)(tab:dX)(ro:Nat->Bool):Ctx :=
 { P,xid,ro,sig:=λg args=>match tab.find g args with | some (.d d)=>some ⟨d.ps,d.rs⟩ | _=>none,fn:=tab.call,free:=tab.free,Tc:=tab.Qr }
def z4T{α:Type}(tab:dX)(g:Nat)(args:List D)(st:St)(k:Nat->Option D->St->T α)(kp:D->St->T α):T α:=match tab.find g args with
 | none=>.fail
 | some (.d d)=>bif !(args.any JH)then(E5 [] d.ps args).bind λx=>(d.F x).bind λy=>k 0 (some (yV (ZW d.rs y))) st
  else(E5 st d.ps args).bind λx=>(d.F x).bind λy=>bif (ZW d.rs y).all ta then k 1 (some (yV (ZW d.rs y))) st else .fail
 | some (.s d)=>d.K args st λds zy=>k 2 (some (yV ds)) zy
 | some (.p d)=>d.K args st (λds zy=>k 2 (some (yV ds)) zy) kp
def B9{α:Type}(tab:dX)(f:Option D)(args:List (Option D))(st:St)(k:Nat->Option D->St->T α)(kp:D->St->T α):T α:=match f,j5 args with
 | some (.xl g caps),some l=>z4T tab (gD g) (jV g l caps) st k kp
 | _,_=>.fail
def dP(l:List Nat):Fr:=l.map λs=>(s,none)
def dstsOf:List Oper->List Nat
 | []=>[]
 | o::r=>match o.dst with | some t=>t::dstsOf r | none=>dstsOf r
def qx:Code->List Nat
 | .region _ ops _=>dstsOf ops.toList
 | .seq a b=>qx a++qx b
 | .cond _ a b=>qx a++qx b
 | .block _ a=>qx a
 | .loop a=>qx a
 | _=>[]
structure zW where
 gh:List Gh
 ps:List It
 sh:vH
 ws:List Way
 F:vu ps->sh.den->T (bq ws)
inductive z2R where
 | flat (oF:List It)
 | ways (ws:List Way)
 | zcV
structure Hints where
 loop:Nat->Option zW
 cut:Nat->Nat->Option z2R
 frz:Nat->List Nat
def ir:Code->Option Nat
 | .region id _ _=>some id
 | .seq a b=>match ir a with | some n=>some n | none=>ir b
 | .cond _ a b=>match ir a with | some n=>some n | none=>ir b
 | .block _ a=>ir a
 | .loop a=>ir a
 | _=>none
def keyOf(x:Code):Nat×Nat:=(match x with | .region .. => 0 | .cond .. => 1 | .block .. => 2 | _=>3,match ir x with | some n=>n | none=>0)
def z4P(l:List Nat)(s:Nat):Bool := !(l.any (Nat.beq s))
def VE:Dk->Bool
 | .sub _ _=>false
 | .st _=>false
 | .mclo _ _=>false
 | _=>true
def ID(ps:List It)(ws:List Nat):Bool:=ps.all λi=>match i with
 | .s t k=>VE k&&z4P ws t
 | _=>false
def Ho{α:Type}:T α->Option α
 | .ret a=>some a
 | .ite _ t e=>match Ho t with | some a=>some a | none=>Ho e
 | .zx _ t=>Ho t
 | .fail=>none
def Cg{α β:Type}(f:α->β):T α->T β
 | .ret a=>.ret (f a)
 | .ite b t e=>.ite b (Cg f t) (Cg f e)
 | .zx p t=>.zx p (Cg f t)
 | .fail=>.fail
def Oy:(l:List It)->vu l->T (vu l)->vu l
 | [],_,_=>()
 | [_],d,t=>T.val d t
 | _::j::r,d,t=>(T.val d.1 (Cg Prod.fst t),Oy (j::r) d.2 (Cg Prod.snd t))
def PV(l:List It)(t:T (vu l)):T (vu l):=match Ho t with
 | some d=>match t.QT with
  | none=>.ret (Oy l d t)
  | some p=>.zx p (.ret (Oy l d t))
 | none=>.fail
def G2(l:List It):Bool:=l.all λi=>match i with
 | .s _ k=>VE k
 | _=>false
structure Fs where
 ex:Ex
 fr:Fr
 kn:Kn
 st:St
 q:Bool      -- the store has not been written
def quiet(ks:List Nat):Bool:=ks.all λk => !(Nat.beq k 2)
structure zbJ where
 e:Ty
 l:List (den e)
 m:Nat
 s:Nat
 c:Nat
 eq:Bool
def T3:BinOp->Option Bool
 | .eql=>some true
 | .neq=>some false
 | _=>none
def F9:Operand->Bool
 | .const (.slice none 0 0)=>true
 | _=>false
def Ha(c:Ctx)(n:Nat)(ops:Array Oper)(fr:Fr):Option zbJ:=match ops.toList with
 | [o1,o2]=>match o1.dst,o1.op,o1.guard with
  | some m,.move (.tmp s),none=>match o2.dst,o2.op,o2.guard with
   | some cc,.binOp op t (.tmp m') y _,none=>match T3 op,fr.get s,iC c t with
    | some b,some (.zC (.sl e) l),some _=>bif Nat.beq m m'&&F9 y&&Nat.blt m n&&Nat.blt cc n then some ⟨e,l,m,s,cc,b⟩else none
    | _,_,_=>none
   | _,_,_=>none
  | _,_,_=>none
 | _=>none
def opsOf:Code->Option (Array Oper)
 | .region _ ops false=>some ops
 | _=>none
section
variable (c:Ctx) (tab:dX)
variable [tw]
def sw{α:Type}(n:Nat)(o:Oper)(s:dS)(k:dS->T α)(kp:D->St->T α):T α :=
 bif uq n o.dst then match o.op with
  | .call cl=>match cl.callee with
   | .value f=>B9 tab (jh s.fr f) (cl.args.toList.map (jh s.fr)) s.st (λkd d zy=>k ⟨s.fr.put o.dst d,KK s.kn o.dst none,zy,kd::s.ks,wA c (jh s.fr) s.st o::s.bk⟩) kp
   | _=>let cl:=oh c s.kn s.fr o
    (zR cl s.st).bind λr=>k ⟨s.fr.put o.dst r.1,KK s.kn o.dst (KF s.kn o.op),r.2,cl.kind::s.ks,wA c (jh s.fr) s.st o::s.bk⟩
  | .panic x=>match jh s.fr x with
   | some (.iface t d)=>kp (.iface t d) s.st
   | _=>.fail
  | _=>let cl:=oh c s.kn s.fr o
   (zR cl s.st).bind λr=>k ⟨s.fr.put o.dst r.1,KK s.kn o.dst (KF s.kn o.op),r.2,cl.kind::s.ks,wA c (jh s.fr) s.st o::s.bk⟩
 else .fail
def IC{α:Type}(n:Nat)(ops:Array Oper)(o:Oper)(s:dS)(k:dS->T α)(kp:D->St->T α):T α:=match o.guard with
 | none=>sw c tab n o s k kp
 | some (j,want)=>match jf ops j with
  | none=>.fail
  | some t=>match s.kn.get t with
   | some b=>bif b==want then sw c tab n o s k kp else bif uq n o.dst then k (jT o s)else .fail
   | none=>match s.fr.get t with
    | some (.zC .bool x)=>bif uq n o.dst then
      .ite x (bif want then sw c tab n o (s.cj t true) k kp else k (jT o (s.cj t true)))
          (bif want then k (jT o (s.cj t false))else sw c tab n o (s.cj t false) k kp)
     else .fail
    | some (.gE [])=>bif uq n o.dst then k (jT o s)else .fail
    | _=>.fail
def VC{α:Type}(n:Nat)(ops:Array Oper):List Oper->dS->(dS->T α)->(D->St->T α)->T α
 | [],s,k,_=>k s
 | o::l,s,k,kp=>IC c tab n ops o s (λs'=>VC n ops l s' k kp) kp
def Ji{α:Type}(n:Nat)(ops:Array Oper)(draw:Bool)(fr:Fr)(kn:Kn)(st:St)(k:dS->T α)(kp:D->St->T α):T α :=
 VC c tab n ops ops.toList ⟨fr,kn,st,[],[]⟩ (λs=>bif !draw||Zz ops s.ks.reverse s.bk.reverse then k s else .fail) (λd zy=>bif draw then .fail else kp d zy)
def ZR(n:Nat)(H:Hints):Code->Fr->Kn->St->{α:Type}->(Fs->T α)->T α
 | .skip,fr,kn,st,_,k=>k ⟨.normal,fr,kn,st,true⟩
 | .region id ops draw,fr,kn,st,_,k=>(frz (H.frz id) fr st).bind λz=>Ji c tab n ops draw z.1 kn z.2 (λs=>k ⟨.normal,s.fr,s.kn,s.st,quiet s.ks&&(H.frz id).isEmpty⟩) (λd zy=>k ⟨.yk d,[],[],zy,false⟩)
 | .seq a b,fr,kn,st,_,k=>match H.cut (keyOf a).1 (keyOf a).2 with
  | none=>ZR n H a fr kn st λr=>match r.ex with
   | .normal=>ZR n H b r.fr r.kn r.st λo=>k { o with q:=r.q&&o.q }
   | _=>k r
  | some (.flat oF)=>bif G2 oF then
    (PV oF (ZR n H a fr kn st λo=>match o.ex with
     | .normal=>bif o.q then G8 o.fr o.st oF []else .fail
     | _=>.fail)).bind λx=>ZR n H b (fV st oF x++(dP (qx a)++fr)) [] st k
   else .fail
  | some .zcV=>match opsOf a with
   | none=>.fail
   | some ops=>match Ha c n ops fr with
    | none=>.fail
    | some p =>
     let non:=ZR n H b ((p.c,some (.zC .bool (!p.eq)))::(p.m,some (.zC (.sl p.e) p.l))::fr) [(p.c,some (!p.eq))] st k
     .zx (p.l=[]->∀ r,non.leads r->(ZR n H b ((p.c,some (.zC .bool p.eq))::(p.m,some .xH)::(p.s,some .xH)::fr) [(p.c,some p.eq)] st k).leads r) non
  | some (.ways ws)=>bif ws.all λw=>Nat.ble st.length w.sh.bs.length then
    (ZR n H a fr kn st λo=>Hg ws o.ex (Kr o.ex o.fr) o.st).bind λr=>Lk ws r λex out zy=>match Ea ex out with
     | none=>.fail
     | some z=>match z.1 with
      | .normal=>ZR n H b (z.2++(dP (qx a)++fr)) [] zy λo=>k { o with q:=false }
      | e=>k ⟨e,z.2++(dP (qx a)++fr),[],zy,false⟩
   else .fail
 | .cond x a b,fr,kn,st,_,k=>match dM kn x with
  | some true=>ZR n H a fr kn st k
  | some false=>ZR n H b fr kn st k
  | none=>match x with
   | .tmp t=>match fr.get t with
    | some (.zC .bool v)=>.ite v (ZR n H a fr ((t,some true)::kn) st k) (ZR n H b fr ((t,some false)::kn) st k)
    | _=>.fail
   | _=>.fail
 | .block id (.loop b),fr,_,st,_,k=>match H.loop id with
  | none=>.fail
  | some l=>let g:=gh l.gh fr st
   bif Nat.ble g.2.length l.sh.bs.length&&ID l.ps (qx b)&&l.ws.all λw=>Nat.ble l.sh.bs.length w.sh.bs.length then
    (G8 g.1 g.2 l.ps []).bind λp=>(l.sh.un g.1 g.2).bind λs=>(l.F p s).bind λr=>Lk l.ws r λex out zy=>match Ea ex out with
     | none=>.fail
     | some z=>match z.1 with
      | .exit id'=>bif Nat.beq id' id then k ⟨.normal,z.2++(dP (qx b)++g.1),[],zy,false⟩else k ⟨.exit id',z.2++(dP (qx b)++g.1),[],zy,false⟩
      | .normal=>.fail
      | e=>k ⟨e,z.2++(dP (qx b)++g.1),[],zy,false⟩
   else .fail
 | .block id a,fr,kn,st,_,k=>ZR n H a fr kn st λr=>match r.ex with
  | .exit id'=>bif Nat.beq id' id then k { r with ex:=.normal } else k r
  | _=>k r
 | .exit id,fr,kn,st,_,k=>k ⟨.exit id,fr,kn,st,true⟩
 | .ret,fr,kn,st,_,k=>k ⟨.ret,fr,kn,st,true⟩
 | _,_,_,_,_,_=>.fail
def TF(n:Nat)(H:Hints)(l:zW)(b:Code)(p:vu l.ps)(s:l.sh.den):T (l.sh.den⊕bq l.ws) :=
 ZR c tab n H b (l.sh.fr s++fV (l.sh.st s) l.ps p) [] (l.sh.st s) λo=>match o.ex with
  | .normal=>(l.sh.un o.fr o.st).bind λs'=>.ret (.inl s')
  | e=>(Hg l.ws e (Kr e o.fr) o.st).bind λr=>.ret (.inr r)
def z0B(H:Hints)(fn:Func)(code:Code)(d:CY)(x:yn d.ps):T (BG d.rs) :=
 bif Nat.ble (Wb d.ps x).length fn.ntmps then
  ZR c tab fn.ntmps H code (wT (Wb d.ps x) 0) [] [] λo=>match o.ex with
   | .normal=>(cq c o.fr o.st fn.results.toList).bind λds=>PY o.st d.rs ds
   | .ret=>(cq c o.fr o.st fn.results.toList).bind λds=>PY o.st d.rs ds
   | _=>.fail
 else .fail
def EX(H:Hints)(fn:Func)(code:Code)(d:kT)(x:d.sh.den):T d.out.den :=
 bif Nat.ble d.ks.length fn.ntmps&&Nat.ble d.sh.bs.length d.out.bs.length then
  ZR c tab fn.ntmps H code (d.sh.fr x) [] (d.sh.st x) λo=>match o.ex with
   | .normal=>(cq c o.fr o.st fn.results.toList).bind λds=>bif Nat.beq ds.length d.nr then(d.out.un (wT ds 0) o.st).bind λy=>bif (hJ d.nr (d.out.fr y)).isSome then .ret y else .fail else .fail
   | .ret=>(cq c o.fr o.st fn.results.toList).bind λds=>bif Nat.beq ds.length d.nr then(d.out.un (wT ds 0) o.st).bind λy=>bif (hJ d.nr (d.out.fr y)).isSome then .ret y else .fail else .fail
   | _=>.fail
 else .fail
def Ia(H:Hints)(fn:Func)(code:Code)(d:iH)(x:d.sh.den):T (d.out.den⊕d.yk.den) :=
 bif Nat.ble d.ks.length fn.ntmps&&Nat.ble d.sh.bs.length d.out.bs.length&&Nat.ble d.sh.bs.length d.yk.bs.length then
  ZR c tab fn.ntmps H code (d.sh.fr x) [] (d.sh.st x) λo=>match o.ex with
   | .normal=>(cq c o.fr o.st fn.results.toList).bind λds=>bif Nat.beq ds.length d.nr then(d.out.un (wT ds 0) o.st).bind λy=>bif (hJ d.nr (d.out.fr y)).isSome then .ret (.inl y)else .fail else .fail
   | .ret=>(cq c o.fr o.st fn.results.toList).bind λds=>bif Nat.beq ds.length d.nr then(d.out.un (wT ds 0) o.st).bind λy=>bif (hJ d.nr (d.out.fr y)).isSome then .ret (.inl y)else .fail else .fail
   | .yk p=>match p with
    | .iface t v=>bif Nat.beq t d.pt then(d.yk.un [(0,some v)] o.st).bind λz=>match(d.yk.fr z).get 0 with | some _=>.ret (.inr z) | none=>.fail else .fail
    | _=>.fail
   | _=>.fail
 else .fail
end
end Go.AM
namespace Go.AM
set_option linter.unusedSectionVars false
variable [uy]
open Go.RowKit
section
variable {n:Nat}
theorem Tg{st:St}{τ:Ty}{d:D}{x:den τ}(h:(rpX st τ d).leads x):(oc st τ d).leads (.xg τ x):=by
 cases d with
 | xg σ y =>
  simp only[rpX]at h
  simp only[oc]
  cases hy:(vT y:Option (den τ))with
  | none=>rw[hy]at h; exact h.elim
  | some z=>rw[hy]at h; cases h; rfl
 | ptr b off =>
  simp only[rpX]at h
  simp only[oc]
  cases hb:st[b]? with
  | none=>rw[hb]at h; exact h.elim
  | some B =>
   rw[hb]at h
   cases B with
   | var d =>
    simp only at h ⊢
    cases hy:(bif Nat.beq off 0 then iu τ d else none)with
    | none=>rw[hy]at h; exact h.elim
    | some z=>rw[hy]at h; cases h; rfl
   | _=>exact h.elim
 | _=>exact h.elim
theorem LW{st:St}{p:XP}{d:D}{x:den p.ty}(h:(z1h st p d).leads x):(pM st p d).leads (Gr p x):=by
 cases p with
 | rp τ=>exact Tg h
 | im τ=>exact T.ze.2 ⟨x,h,rfl⟩
theorem BX{st:St}:∀ (l:List XP) (ds:List D) (x:ba l),(My st l ds).leads x->(cU st l ds).leads (nk l x)
 | [],[],x,h=>rfl
 | [],_::_,x,h=>h.elim
 | [p],[],x,h=>h.elim
 | [p],[d],x,h=>T.ze.2 ⟨_,LW h,T.ze.2 ⟨[],rfl,rfl⟩⟩
 | [p],_::_::_,x,h=>h.elim
 | p::q::r,[],x,h=>h.elim
 | p::q::r,d::ds,x,h=>by
  obtain⟨y,h1,h2⟩:=T.ze.1 h
  obtain⟨z,h3,h4⟩:=T.ze.1 h2
  cases h4
  exact T.ze.2 ⟨_,LW h1,T.ze.2 ⟨_,BX (q::r) ds z h3,rfl⟩⟩
theorem z03{st:St}{p:ZP}{d:D}{x:p.den}(h:(unP st p d).leads x):(De st p d).leads (mkP p x):=by
 cases p with
 | ty τ=>cases d<;>exact T.ze.2 ⟨x,h,rfl⟩
 | rp τ =>
  have:=Tg h
  cases d<;>exact this
 | xl f caps =>
  cases d with
  | xl f' l =>
   simp only[unP]at h
   simp only[De]
   cases hb:Nat.beq f f' with
   | false=>rw[hb]at h; exact h.elim
   | true=>rw[hb]at h; exact T.ze.2 ⟨_,BX caps l x h,rfl⟩
  | _=>exact h.elim
theorem VS{st:St}:∀ (l:List ZP) (ds:List D) (x:yn l),(E5 st l ds).leads x->(o0 st l ds).leads (Wb l x)
 | [],[],x,h=>rfl
 | [],_::_,x,h=>h.elim
 | [p],[],x,h=>h.elim
 | [p],[d],x,h=>T.ze.2 ⟨_,z03 h,T.ze.2 ⟨[],rfl,rfl⟩⟩
 | [p],_::_::_,x,h=>h.elim
 | p::q::r,[],x,h=>h.elim
 | p::q::r,d::ds,x,h=>by
  obtain⟨y,h1,h2⟩:=T.ze.1 h
  obtain⟨z,h3,h4⟩:=T.ze.1 h2
  cases h4
  exact T.ze.2 ⟨_,z03 h1,T.ze.2 ⟨_,VS (q::r) ds z h3,rfl⟩⟩
theorem DA(st:St)(τ:Ty)(x:den τ):(QC st τ (.zC τ x)).leads x:=by
 refine T.ze.2 ⟨.zC τ x,rfl,?_⟩
 rw[T.uJ]
 exact pD x
theorem RF(st:St)(τ:Ty)(x:den τ):(rpX st τ (.xg τ x)).leads x:=by
 simp only[rpX]; rw[pD]; rfl
theorem IX(st:St)(p:XP)(x:den p.ty):(z1h st p (Gr p x)).leads x:=by
 cases p with
 | rp τ=>exact RF st τ x
 | im τ=>exact DA st τ x
theorem DN(st:St):∀ (l:List XP) (x:ba l),(My st l (nk l x)).leads x
 | [],_=>rfl
 | [p],x=>IX st p x
 | p::q::r,x=>T.ze.2 ⟨x.1,IX st p x.1,T.ze.2 ⟨x.2,DN st (q::r) x.2,rfl⟩⟩
theorem z0n(st:St)(p:ZP)(x:p.den):(unP st p (mkP p x)).leads x:=by
 cases p with
 | ty τ=>exact DA st τ x
 | rp τ=>exact RF st τ x
 | xl f caps=>simp only[unP,mkP]; rw[Nat.beq_refl]; exact DN st caps x
theorem B6(st:St):∀ (l:List ZP) (x:yn l),(E5 st l (Wb l x)).leads x
 | [],_=>rfl
 | [p],x=>z0n st p x
 | p::q::r,x=>T.ze.2 ⟨x.1,z0n st p x.1,T.ze.2 ⟨x.2,B6 st (q::r) x.2,rfl⟩⟩
def yB:D->Option Nat | .xl f _=>some f | _=>none
theorem z3v(p:ZP){d e:D}(h:yB d=yB e):z8d p d=z8d p e:=by
 cases d<;>cases e<;>simp only[yB]at h<;>first | (cases h; done) | (cases p<;>first | rfl | (cases h; rfl))
theorem LF:∀ (ps:List ZP) {l m:List D},l.map yB=m.map yB->fits ps l=fits ps m
 | [],[],[],_=>rfl
 | [],_::_,_::_,_=>rfl
 | _,[],_::_,h=>by cases h
 | _,_::_,[],h=>by cases h
 | _::_,[],[],_=>rfl
 | p::ps,d::l,e::m,h=>by
  simp at h
  simp only[fits,z3v p h.1,LF ps h.2]
theorem SR{st:St}{τ:Ty}{f:Nat}{l:List D}{x:den τ}(h:(QC st τ (.xl f l)).leads x):False:=by
 obtain⟨y,h1,h2⟩:=T.ze.1 h
 cases h1
 rw[T.uJ]at h2
 cases τ<;>simp[iu,D.isAgg,Ty.isAgg,qo,jW,eV]at h2
theorem G4{st:St}{p:ZP}{d:D}{x:p.den}(h:(unP st p d).leads x):yB d=yB (mkP p x):=by
 cases p with
 | ty τ=>cases d<;>first | rfl | exact(SR h).elim
 | rp τ=>cases d<;>first | rfl | exact h.elim
 | xl f caps =>
  cases d with
  | xl f' l =>
   simp only[unP]at h
   cases hb:Nat.beq f f' with
   | false=>rw[hb]at h; exact h.elim
   | true=>rw[Nat.eq_of_beq_eq_true hb]; rfl
  | _=>exact h.elim
theorem Un{st:St}:∀ (l:List ZP) (ds:List D) (x:yn l),(E5 st l ds).leads x->ds.map yB=(Wb l x).map yB
 | [],[],x,h=>rfl
 | [],_::_,x,h=>h.elim
 | [p],[],x,h=>h.elim
 | [p],[d],x,h=>by show[yB d]=[yB (mkP p x)]; rw[G4 h]
 | [p],_::_::_,x,h=>h.elim
 | p::q::r,[],x,h=>h.elim
 | p::q::r,d::ds,x,h=>by
  obtain⟨y,h1,h2⟩:=T.ze.1 h
  obtain⟨z,h3,h4⟩:=T.ze.1 h2
  cases h4
  show yB d::ds.map yB=yB (mkP p y)::(Wb (q::r) z).map yB
  rw[G4 h1,Un (q::r) ds z h3]
def dat(d:D):Bool:=match d with | .zC _ _=>true | .xg _ _=>true | .xl _ _=>true | _=>false
theorem Ml(p:ZP)(x:p.den):dat (mkP p x)=true:=by cases p<;>rfl
theorem CH:∀ (l:List ZP) (x:yn l),∀ d∈Wb l x,dat d=true
 | [],x,d,h=>by cases h
 | [p],x,d,h=>by have h:d∈[mkP p x]:=h; rw[List.mem_singleton]at h; subst h; exact Ml p x
 | p::q::r,x,d,h=>by
  rcases List.mem_cons.1 h with rfl | h
  ·exact Ml p x.1
  ·exact CH (q::r) x.2 d h
theorem z0C{a:AK}{d e:D}(h:yB d=yB e)(hd:dat e=true)(hf:z8p a e=true):z8p a d=true:=by
 cases e with
 | zC τ x=>cases a<;>first | (cases hf; done) | (cases d<;>first | rfl | (cases h; done))
 | xg τ x=>cases a<;>first | (cases hf; done) | (cases d<;>first | rfl | (cases h; done))
 | xl f l=>cases a<;>first | (cases hf; done) | (cases d<;>first | (cases h; exact hf) | cases h)
 | _=>cases hd
theorem XT:∀ {ks:List AK} {l m:List D},l.map yB=m.map yB->(∀ d∈m,dat d=true)->nX ks m=true->nX ks l=true
 | [],[],[],_,_,_=>rfl
 | [],_::_,[],h,_,_=>by cases h
 | [],_,_::_,_,_,hf=>by cases hf
 | _::_,_,[],_,_,hf=>by cases hf
 | k::ks,[],_::_,h,_,_=>by cases h
 | k::ks,d::l,e::m,h,hd,hf=>by
  simp at h
  simp only[nX,Bool.and_eq_true]at hf ⊢
  exact⟨z0C h.1 (hd e List.mem_cons_self) hf.1,XT h.2 (λx hx=>hd x (List.mem_cons_of_mem _ hx)) hf.2⟩
theorem dX.find_eq:∀ (t:dX) (g:Nat) {l m:List D} {d:CY},l.map yB=m.map yB->(∀ d∈m,dat d=true)->t.find g l=some (.d d)->t.find g m=some (.d d)
 | [],_,_,_,_,_,_,h=>h
 | (g',.d d')::r,g,l,m,d,h,hm,hf=>by
  simp only[dX.find,FnE.fits]at hf ⊢
  rw[<- LF d'.ps h]
  cases hb:Nat.beq g' g&&fits d'.ps l with
  | true=>grind
  | false=>rw[hb,cond_false]at hf; rw[cond_false]; exact dX.find_eq r g h hm hf
 | (g',.s d')::r,g,l,m,d,h,hm,hf=>by
  simp only[dX.find,FnE.fits]at hf ⊢
  cases hb:Nat.beq g' g&&nX d'.ks l with
  | true=>grind
  | false =>
   rw[hb,cond_false]at hf
   have:(Nat.beq g' g&&nX d'.ks m)=false:=by
    cases hg:Nat.beq g' g with
    | false=>rfl
    | true =>
     rw[hg]at hb
     cases hk:nX d'.ks m with
     | false=>rfl
     | true=>rw[XT h hm hk]at hb; cases hb
   rw[this,cond_false]
   exact dX.find_eq r g h hm hf
 | (g',.p d')::r,g,l,m,d,h,hm,hf=>by
  simp only[dX.find,FnE.fits]at hf ⊢
  cases hb:Nat.beq g' g&&nX d'.ks l with
  | true=>grind
  | false =>
   rw[hb,cond_false]at hf
   have:(Nat.beq g' g&&nX d'.ks m)=false:=by
    cases hg:Nat.beq g' g with
    | false=>rfl
    | true =>
     rw[hg]at hb
     cases hk:nX d'.ks m with
     | false=>rfl
     | true=>rw[XT h hm hk]at hb; cases hb
   rw[this,cond_false]
   exact dX.find_eq r g h hm hf
theorem dX.QH:∀ {t:dX} {g:Nat} {l:List D} {d:FnE},t.find g l=some d->(g,d)∈t
 | [],_,_,_,h=>by cases h
 | (g',d')::r,g,l,d,h=>by
  simp only[dX.find]at h
  cases hb:Nat.beq g' g&&d'.fits l with
  | true =>
   rw[hb,cond_true]at h
   cases h
   simp only[Bool.and_eq_true]at hb
   rw[Nat.eq_of_beq_eq_true hb.1]
   simp
  | false=>rw[hb,cond_false]at h; exact List.mem_cons_of_mem _ (dX.QH h)
def zH(P:Program)(g:Nat)(d:CY):Prop:=∀ (κ:KS) (x:yn d.ps) (zJ:List Value) (y:BG d.rs),κ.st=[]->(d.F x).leads y->Inv κ->qN κ (Wb d.ps x) zJ ->
 j7 P g zJ.toArray κ.w λe w'=>∃ κ':KS,κ'.w=w'/\κ'.st=[]/\Inv κ'/\Ext κ κ'/\wX κ' (.ret (ZW d.rs y)) e
def Di(P:Program)(g:Nat):FnE->Prop
 | .d d=>zH P g d
 | .s d=>qR P g d
 | .p d=>yi P g d
def yG(P:Program)(t:dX):Prop:=∀ p∈t,Di P p.1 p.2
theorem NL(P:Program):yG P []:=by nofun
theorem GP{P:Program}{g:Nat}{d:FnE}{t:dX}(h:Di P g d)(ht:yG P t):yG P ((g,d)::t):=by
 intro p hp
 rcases List.mem_cons.1 hp with rfl | hp
 ·exact h
 ·exact ht p hp
theorem Il{P:Program}{g:Nat}{d:CY}{t:dX}(h:zH P g d)(ht:yG P t):yG P ((g,.d d)::t):=GP (d:=.d d) h ht
theorem BW{P:Program}{g:Nat}{d:kT}{t:dX}(h:qR P g d)(ht:yG P t):yG P ((g,.s d)::t):=GP (d:=.s d) h ht
theorem Dy{P:Program}{g:Nat}{d:iH}{t:dX}(h:yi P g d)(ht:yG P t):yG P ((g,.p d)::t):=GP (d:=.p d) h ht
theorem CY.snd{P:Program}{g:Nat}{d:CY}(h:zH P g d):BC P g d.S:=by
 intro κ args zJ rs zy hl hI ha
 unfold CY.S at hl
 split at hl
 ·rename_i xV
  obtain⟨x,h1,h2⟩:=T.ze.1 hl
  obtain⟨y,h3,h4⟩:=T.ze.1 h2
  cases h4
  exact h κ x zJ y xV h3 hI (XR ha (VS _ _ _ h1))
 ·exact hl.elim
theorem Hi{P:Program}{xid:Nat}{tab:dX}{ro:Nat->Bool}(h:yG P tab):∀ g,BC (uP P xid tab ro).P g ((uP P xid tab ro).fn g):=by
 intro g κ args zJ rs zy hl hI ha
 simp only[uP,dX.call]at hl
 split at hl
 ·rename_i d hd
  exact CY.snd (h _ (dX.QH hd):Di P g (.d d)) κ args zJ rs zy hl hI ha
 ·rename_i d hd
  exact kT.snd (h _ (dX.QH hd):Di P g (.s d)) κ args zJ rs zy hl hI ha
 ·rename_i d hd
  exact iH.snd (h _ (dX.QH hd):Di P g (.p d)) κ args zJ rs zy hl hI ha
 ·exact hl.elim
section
variable {P:Program} {xid:Nat} {tab:dX} {ro:Nat->Bool} {α:Type}
def LA(c:Ctx)(f:Option D)(args:List (Option D))(st:St)(d:D)(zy:St):Prop :=
 ∃ g caps l,f=some (.xl g caps)/\j5 args=some l/\(c.fn (gD g) (jV g l caps) st).leads (.yk d,zy)
def IL(c:Ctx)(o:Oper)(s:dS)(d:D)(zy:St):Prop :=
 (∃ x t e,o.op=.panic x/\jh s.fr x=some d/\d=.iface t e/\zy=s.st) \/
 ∃ f args oq,o.op=.call ⟨.value f,args,oq⟩/\LA c (jh s.fr f) (args.toList.map (jh s.fr)) s.st d zy
theorem I5{f:Option D}{args:List (Option D)}{st:St}{k:Nat->Option D->St->T α}{kp:D->St->T α}{r:α}(h:(B9 tab f args st k kp).leads r) :
  (∃ d zy,(zR (dI (uP P xid tab ro) f args) st).leads (d,zy)/\(k (dI (uP P xid tab ro) f args).kind d zy).leads r) \/
  ∃ d zy,LA (uP P xid tab ro) f args st d zy/\(kp d zy).leads r:=by
 unfold B9 at h
 split at h
 ·rename_i g caps l hl
  unfold z4T at h
  split at h
  ·exact h.elim
  ·rename_i d hd
   have P6:(uP P xid tab ro).sig (gD g) (jV g l caps)=some ⟨d.ps,d.rs⟩:=by simp only[uP]; rw[hd]
   have z0u:dI (uP P xid tab ro) (some (.xl g caps)) args=bw (uP P xid tab ro) (gD g) ⟨d.ps,d.rs⟩ (jV g l caps):=by simp only[dI,hl,P6]
   rw[z0u]
   have hfn:∀ {st0:St} (x:yn d.ps) (y:BG d.rs),(E5 st0 d.ps (jV g l caps)).leads x->(d.F x).leads y->((uP P xid tab ro).fn (gD g) (Wb d.ps x) []).leads (.ret (ZW d.rs y),[]):=by
    intro st0 x y hx hy
    simp only[uP,dX.call]
    rw[dX.find_eq tab (gD g) (Un _ _ _ hx) (CH d.ps x) hd]
    exact T.ze.2 ⟨x,B6 [] d.ps x,T.ze.2 ⟨y,hy,rfl⟩⟩
   cases hn : !((jV g l caps).any JH)with
   | true =>
    rw[hn,cond_true]at h
    obtain⟨x,h1,h2⟩:=T.ze.1 h
    obtain⟨y,h3,h4⟩:=T.ze.1 h2
    have hc:bw (uP P xid tab ro) (gD g) ⟨d.ps,d.rs⟩ (jV g l caps)=.val ((o0 [] d.ps (jV g l caps)).bind λl=>((uP P xid tab ro).fn (gD g) l []).bind z04):=by
     unfold bw; rw[hn]; rfl
    rw[hc]
    refine .inl ⟨_,_,T.ze.2 ⟨_,T.ze.2 ⟨_,VS _ _ _ h1,T.ze.2 ⟨_,hfn x y h1 h3,rfl⟩⟩,rfl⟩,h4⟩
   | false =>
    rw[hn,cond_false]at h
    obtain⟨x,h1,h2⟩:=T.ze.1 h
    obtain⟨y,h3,h4⟩:=T.ze.1 h2
    have hc:bw (uP P xid tab ro) (gD g) ⟨d.ps,d.rs⟩ (jV g l caps)=.rd λst=>(o0 st d.ps (jV g l caps)).bind λl=>((uP P xid tab ro).fn (gD g) l []).bind sy:=by
     unfold bw; rw[hn]; rfl
    rw[hc]
    cases hs:(ZW d.rs y).all ta with
    | false=>rw[hs]at h4; exact h4.elim
    | true =>
     rw[hs]at h4
     refine .inl ⟨_,_,T.ze.2 ⟨_,T.ze.2 ⟨_,VS _ _ _ h1,T.ze.2 ⟨_,hfn x y h1 h3,?_⟩⟩,rfl⟩,h4⟩
     simp only[sy,hs,cond_true]
     rfl
  ·rename_i d hd
   have P6:(uP P xid tab ro).sig (gD g) (jV g l caps)=none:=by simp only[uP]; rw[hd]
   have z0u:dI (uP P xid tab ro) (some (.xl g caps)) args=sJ (uP P xid tab ro) (gD g) (jV g l caps):=by simp only[dI,hl,P6]
   rw[z0u]
   obtain⟨ds,zy,h1,h2⟩:=kT.R6 h
   refine .inl ⟨_,zy,T.ze.2 ⟨(.ret ds,zy),?_,rfl⟩,h2⟩
   simp only[uP,dX.call]
   grind
  ·rename_i d hd
   have P6:(uP P xid tab ro).sig (gD g) (jV g l caps)=none:=by simp only[uP]; rw[hd]
   have z0u:dI (uP P xid tab ro) (some (.xl g caps)) args=sJ (uP P xid tab ro) (gD g) (jV g l caps):=by simp only[dI,hl,P6]
   rw[z0u]
   rcases iH.R6 h with⟨ds,zy,h1,h2⟩ | ⟨p,zy,h1,h2⟩
   ·refine .inl ⟨_,zy,T.ze.2 ⟨(.ret ds,zy),?_,rfl⟩,h2⟩
    simp only[uP,dX.call]
    grind
   ·refine .inr ⟨p,zy,⟨g,caps,l,rfl,hl,?_⟩,h2⟩
    simp only[uP,dX.call]
    grind
 ·exact h.elim
theorem nV{o:Oper}{s:dS}{k:dS->T α}{kp:D->St->T α}{r:α}(h:(sw (uP P xid tab ro) tab n o s k kp).leads r) :
  (∃ s',(bK (uP P xid tab ro) n o s).leads s'/\(k s').leads r)\/∃ d zy,IL (uP P xid tab ro) o s d zy/\(kp d zy).leads r:=by
 unfold sw at h
 unfold bK
 cases hd:uq n o.dst with
 | false=>rw[hd]at h; exact h.elim
 | true =>
  rw[hd,cond_true]at h
  rw[cond_true]
  obtain⟨dst,op,ty,pos,after,guard⟩:=o
  have gen:((zR (oh (uP P xid tab ro) s.kn s.fr ⟨dst,op,ty,pos,after,guard⟩) s.st).bind λr=>k ⟨s.fr.put dst r.1,KK s.kn dst (KF s.kn op),r.2,(oh (uP P xid tab ro) s.kn s.fr ⟨dst,op,ty,pos,after,guard⟩).kind::s.ks,wA (uP P xid tab ro) (jh s.fr) s.st ⟨dst,op,ty,pos,after,guard⟩::s.bk⟩).leads r ->
    ∃ s',(let cl:=oh (uP P xid tab ro) s.kn s.fr ⟨dst,op,ty,pos,after,guard⟩; (zR cl s.st).bind λr=>T.ret (⟨s.fr.put dst r.1,KK s.kn dst (KF s.kn op),r.2,cl.kind::s.ks,wA (uP P xid tab ro) (jh s.fr) s.st ⟨dst,op,ty,pos,after,guard⟩::s.bk⟩:dS)).leads s'/\(k s').leads r:=by
   intro h
   obtain⟨x,h1,h2⟩:=T.ze.1 h
   exact⟨_,T.ze.2 ⟨x,h1,rfl⟩,h2⟩
  cases op with
  | call cl =>
   obtain⟨callee,args,oq⟩:=cl
   cases callee with
   | value f =>
    rcases I5 (P:=P) (xid:=xid) (ro:=ro) h with⟨d,zy,h1,h2⟩ | ⟨d,zy,h1,h2⟩
    ·exact .inl ⟨_,T.ze.2 ⟨(d,zy),h1,rfl⟩,h2⟩
    ·exact .inr ⟨d,zy,.inr ⟨f,args,oq,rfl,h1⟩,h2⟩
   | _=>grind
  | panic x =>
   simp only at h
   split at h
   ·rename_i t e hx
    exact .inr ⟨_,_,.inl ⟨x,t,e,rfl,hx,rfl,rfl⟩,h⟩
   ·exact h.elim
  | _=>grind
theorem OD{ops:Array Oper}{o:Oper}{s:dS}{k:dS->T α}{kp:D->St->T α}{r:α}(hkn:uh s.kn s.fr.get)(h:(IC (uP P xid tab ro) tab n ops o s k kp).leads r) :
  (∃ s',(stepG (uP P xid tab ro) n ops o s).leads s'/\(k s').leads r)\/∃ d zy,wD ops s.fr.get o=some true/\IL (uP P xid tab ro) o s d zy/\(kp d zy).leads r:=by
 obtain⟨dst,op,ty,pos,after,guard⟩:=o
 cases guard with
 | none =>
  rcases nV h with h | ⟨d,zy,h1,h2⟩
  ·exact .inl h
  ·exact .inr ⟨d,zy,rfl,h1,h2⟩
 | some jw =>
  obtain⟨j,want⟩:=jw
  simp only[IC]at h
  simp only[stepG]
  cases hg:jf ops j with
  | none=>rw[hg]at h; exact h.elim
  | some t =>
   rw[hg]at h
   simp only at h ⊢
   cases hk:s.kn.get t with
   | some b =>
    rw[hk]at h
    simp only at h ⊢
    have hw:wD ops s.fr.get ⟨dst,op,ty,pos,after,some (j,want)⟩=some (b==want):=by simp[wD,hg,hkn t b hk]
    cases hb:b==want with
    | true =>
     rw[hb,cond_true]at h; rw[cond_true]
     rcases nV h with h | ⟨d,zy,h1,h2⟩
     ·grind
     ·grind
    | false =>
     rw[hb,cond_false]at h; rw[cond_false]
     cases hd:uq n dst with
     | true=>rw[hd,cond_true]at h; exact .inl ⟨_,rfl,h⟩
     | false=>rw[hd,cond_false]at h; exact h.elim
   | none =>
    rw[hk]at h
    simp only at h ⊢
    split at h
    ·rename_i x hf
     rw[hf]
     simp only
     have hw:wD ops s.fr.get ⟨dst,op,ty,pos,after,some (j,want)⟩=some (x==want):=by simp[wD,hg,hf]
     cases hd:uq n dst with
     | false=>rw[hd]at h; exact h.elim
     | true =>
      rw[hd,cond_true]at h; rw[cond_true]
      rcases h with⟨hx,h⟩ | ⟨hx,h⟩
      ·subst hx
       cases want with
       | true =>
        rw[cond_true]at h
        rcases nV h with⟨s',h1,h2⟩ | ⟨d,zy,h1,h2⟩
        ·exact .inl ⟨s',.inl ⟨rfl,h1⟩,h2⟩
        ·exact .inr ⟨d,zy,hw,h1,h2⟩
       | false=>rw[cond_false]at h; exact .inl ⟨_,.inl ⟨rfl,rfl⟩,h⟩
      ·subst hx
       cases want with
       | true=>rw[cond_true]at h; exact .inl ⟨_,.inr ⟨rfl,rfl⟩,h⟩
       | false =>
        rw[cond_false]at h
        rcases nV h with⟨s',h1,h2⟩ | ⟨d,zy,h1,h2⟩
        ·exact .inl ⟨s',.inr ⟨rfl,h1⟩,h2⟩
        ·exact .inr ⟨d,zy,hw,h1,h2⟩
    ·rename_i hf
     rw[hf]
     simp only
     cases hd:uq n dst with
     | true=>rw[hd,cond_true]at h; exact .inl ⟨_,rfl,h⟩
     | false=>rw[hd,cond_false]at h; exact h.elim
    ·exact h.elim
def Fl(c:Ctx)(n:Nat)(ops:Array Oper)(l:List Oper)(s:dS)(d:D)(zy:St):Prop :=
 ∃ pre o post s1,l=pre++o::post/\(lJ c n ops pre s).leads s1/\wD ops s1.fr.get o=some true/\IL c o s1 d zy
theorem Z7{ops:Array Oper}:∀ (l:List Oper) {s:dS} {k:dS->T α} {kp:D->St->T α} {r:α},uh s.kn s.fr.get->(∀ o∈l,∃ i:Nat,ops[i]? = some o)->(VC (uP P xid tab ro) tab n ops l s k kp).leads r ->
  (∃ s',(lJ (uP P xid tab ro) n ops l s).leads s'/\(k s').leads r)\/∃ d zy,Fl (uP P xid tab ro) n ops l s d zy/\(kp d zy).leads r
 | [],s,k,kp,r,_,_,h=>.inl ⟨s,rfl,h⟩
 | o::l,s,k,kp,r,hk,hl,h=>by
  rcases OD hk h with⟨s1,h1,h2⟩ | ⟨d,zy,h1,h2,h3⟩
  ·obtain⟨i,hi⟩:=hl o List.mem_cons_self
   obtain⟨_,_,hk1,_⟩:=GD hi hk h1
   rcases Z7 l hk1 (λo' ho=>hl o' (List.mem_cons_of_mem _ ho)) h2 with⟨s2,h3,h4⟩ | ⟨d,zy,⟨pre,o',post,s2,e,g1,g2,g3⟩,h4⟩
   ·exact .inl ⟨s2,T.ze.2 ⟨s1,h1,h3⟩,h4⟩
   ·exact .inr ⟨d,zy,⟨o::pre,o',post,s2,by grind,T.ze.2 ⟨s1,h1,g1⟩,g2,g3⟩,h4⟩
  ·exact .inr ⟨d,zy,⟨[],o,l,s,rfl,rfl,h1,h2⟩,h3⟩
theorem Yc{ops:Array Oper}{draw:Bool}{fr:Fr}{kn:Kn}{st:St}{k:dS->T α}{kp:D->St->T α}{r:α}(hk:uh kn fr.get)(h:(Ji (uP P xid tab ro) tab n ops draw fr kn st k kp).leads r) :
  (∃ s',(cE (uP P xid tab ro) n ops draw fr kn st).leads s'/\(k s').leads r)\/∃ d zy,draw=false/\Fl (uP P xid tab ro) n ops ops.toList ⟨fr,kn,st,[],[]⟩ d zy/\(kp d zy).leads r:=by
 rcases Z7 _ hk (λo ho=>by obtain⟨i,hi,he⟩:=List.getElem_of_mem ho; exact⟨i,by grind⟩) h with⟨s',h1,h2⟩ | ⟨d,zy,h1,h2⟩
 ·cases hd : !draw||Zz ops s'.ks.reverse s'.bk.reverse with
  | false=>rw[hd]at h2; exact h2.elim
  | true =>
   rw[hd,cond_true]at h2
   refine .inl ⟨s',T.ze.2 ⟨s',h1,?_⟩,h2⟩
   rw[hd]; rfl
 ·cases draw with
  | true=>exact h2.elim
  | false=>grind
end
end
end Go.AM
namespace Go.AM
set_option linter.unusedSectionVars false
variable [uy] [Kq]
open Go.RowKit
theorem K8{α β:Type}{f:α->β}{t:T α}{x:α}(h:t.leads x):(Cg f t).leads (f x):=by
 induction t with
 | ret a=>exact congrArg f h
 | ite b p q ip iq=>exact fk h (λh=>⟨h.1,ip h.2⟩) (λh=>⟨h.1,iq h.2⟩)
 | zx p t ih=>exact⟨h.1,ih h.2⟩
 | fail=>exact h.elim
theorem MB:∀ (l:List It) (d:vu l) (t:T (vu l)) (x:vu l),t.leads x->Oy l d t=x
 | [],_,_,_,_=>rfl
 | [_],d,t,x,h=>((T.UT d t x).1 h).2
 | i::j::r,d,t,x,h=>by
  have h1:=((T.UT d.1 _ _).1 (K8 (f:=Prod.fst) h)).2
  have h2:=MB (j::r) d.2 _ _ (K8 (f:=Prod.snd) h)
  show(T.val d.1 (Cg Prod.fst t),Oy (j::r) d.2 (Cg Prod.snd t))=x
  rw[h1,h2]
  exact rfl
theorem OE{α:Type}(t:T α)(h:t.Vr):∃ x,t.leads x:=by
 induction t with
 | ret a=>exact⟨a,rfl⟩
 | ite b p q ip iq =>
  unfold T.Vr at h ip iq
  simp only[T.QT]at h
  cases b with
  | true =>
   obtain⟨x,hx⟩:=ip (by grind)
   exact⟨x,.inl ⟨rfl,hx⟩⟩
  | false =>
   obtain⟨x,hx⟩:=iq (by grind)
   exact⟨x,.inr ⟨rfl,hx⟩⟩
 | zx p t ih =>
  unfold T.Vr at h ih
  simp only[T.QT]at h
  cases ht:t.QT with
  | none=>rw[ht]at h ih; obtain⟨x,hx⟩:=ih trivial; exact⟨x,h,hx⟩
  | some q=>rw[ht]at h ih; obtain⟨x,hx⟩:=ih h.2; exact⟨x,h.1,hx⟩
 | fail=>exact h.elim
theorem C4{l:List It}{t:T (vu l)}{x:vu l}(h:(PV l t).leads x):t.leads x:=by
 unfold PV at h
 split at h
 ·rename_i d hd
  have key:t.Vr->Oy l d t=x->t.leads x:=by
   intro hp hv
   obtain⟨y,hy⟩:=OE t hp
   rw[<- hv,MB l d t y hy]; exact hy
  split at h
  ·rename_i hn; exact key (by unfold T.Vr; rw[hn]; trivial) h
  ·rename_i p hn; exact key (by unfold T.Vr; rw[hn]; exact h.1) h.2
 ·exact h.elim
def RIs(ws:List Way)(r:bq ws)(w:Way)(x:w.sh.den):Prop:=∀ {α:Type} (k:Ex->Fr->St->T α),Lk ws r k=k w.ex (w.sh.fr x) (w.sh.st x)
theorem Hk:∀ (ws:List Way) (ex:Ex) (fr:Fr) (st:St) (r:bq ws),(Hg ws ex fr st).leads r->∃ w,w∈ws/\∃ x:w.sh.den,RIs ws r w x/\pe w.ex ex=true/\(w.sh.un fr st).leads x
 | [],_,_,_,_,h=>h.elim
 | [w],ex,fr,st,r,h=>by
  have h:(bif pe w.ex ex then w.sh.un fr st else .fail:T w.sh.den).leads r:=h
  cases hs:pe w.ex ex with
  | false=>rw[hs]at h; exact h.elim
  | true=>rw[hs]at h; exact⟨w,by simp,r,λk=>rfl,hs,h⟩
 | w::v::ws,ex,fr,st,r,h=>by
  have h:(bif pe w.ex ex then(w.sh.un fr st).bind λx=>T.ret (Sum.inl x:w.sh.den⊕bq (v::ws))else(Hg (v::ws) ex fr st).bind λy=>T.ret (Sum.inr y)).leads r:=h
  cases hs:pe w.ex ex with
  | true =>
   rw[hs]at h
   obtain⟨x,h1,h2⟩:=T.ze.1 h
   subst h2
   exact⟨w,by simp,x,λk=>rfl,hs,h1⟩
  | false =>
   rw[hs]at h
   obtain⟨y,h1,h2⟩:=T.ze.1 h
   subst h2
   obtain⟨w',k1,x,k2,k3,k4⟩:=Hk (v::ws) ex fr st y h1
   exact⟨w',List.mem_cons_of_mem _ k1,x,λk=>k2 k,k3,k4⟩
def z7z(κ:KS)(n:Nat)(w:Way)(z:w.sh.den)(a:Act)(iX:Exit):Prop:=∀ q,Ea w.ex (w.sh.fr z)=some q->Rel κ n q.2.get a/\CM κ q.1 iX
theorem T4{κ0 κ:KS}{n:Nat}{a:Act}{w:Way}{z:w.sh.den}{oex:Ex}{ofr:Fr}{iX:Exit}(hx:Ext κ0 κ)(hI:Inv κ)(hR:Rel κ n ofr.get a)(he:CM κ oex iX)(hs:pe w.ex oex=true)(hl:κ0.st.length<=w.sh.bs.length)
  (h:(w.sh.un (Kr oex ofr) κ.st).leads z):∃ κ1:KS,κ1.w=κ.w/\κ1.st=w.sh.st z/\Inv κ1/\Ext κ0 κ1/\z7z κ1 n w z a iX:=by
 have plain:Kr oex ofr=ofr->(∀ q,Ea w.ex (w.sh.fr z)=some q->q.2=w.sh.fr z/\∀ κ1:KS,CM κ1 q.1 iX)->∃ κ1:KS,κ1.w=κ.w/\κ1.st=w.sh.st z/\Inv κ1/\Ext κ0 κ1/\z7z κ1 n w z a iX:=by
  intro e1 e2
  rw[e1]at h
  obtain⟨κ1,q1,q2,q3,q4,q5,_⟩:=w.sh.Xo (n:=n) hx hI hR hl h
  exact⟨κ1,q1,q2,q3,q4,λq hq=>by obtain⟨g1,g2⟩:=e2 q hq; rw[g1]; exact⟨q5,g2 κ1⟩⟩
 cases hw:w.ex with
 | normal =>
  rw[hw]at hs
  cases oex<;>first | (cases hs; done) | skip
  exact plain rfl λq hq=>by rw[hw]at hq; cases hq; exact⟨rfl,λ_=>he⟩
 | ret =>
  rw[hw]at hs
  cases oex<;>first | (cases hs; done) | skip
  exact plain rfl λq hq=>by rw[hw]at hq; cases hq; exact⟨rfl,λ_=>he⟩
 | exit id =>
  rw[hw]at hs
  cases oex<;>first | (cases hs; done) | skip
  rename_i id'
  have:id=id':=Nat.eq_of_beq_eq_true hs
  subst this
  exact plain rfl λq hq=>by rw[hw]at hq; cases hq; exact⟨rfl,λ_=>he⟩
 | yk p =>
  rw[hw]at hs
  cases p<;>first | (cases hs; done) | skip
  rename_i t p
  cases oex<;>first | (cases hs; done) | skip
  rename_i p'
  cases p'<;>first | (cases hs; done) | skip
  rename_i t' d
  have:t=t':=Nat.eq_of_beq_eq_true hs
  subst this
  obtain⟨v,rfl,hv⟩:=he
  cases hv with
  | iface _ _ u hu =>
   have GG:Rel κ 1 (Kr (.yk (.iface t d)) ofr).get { tmps := #[u],defers:=Kq.df }:=by
    refine⟨rfl,rfl,λs d' hd => ?_⟩
    simp only[Kr,Fr.get]at hd
    cases hb:Nat.beq 0 s with
    | true =>
     have:=Nat.eq_of_beq_eq_true hb
     grind
    | false=>grind
   obtain⟨κ1,q1,q2,q3,q4,q5,_⟩:=w.sh.Xo (n:=1) hx hI GG hl h
   refine⟨κ1,q1,q2,q3,q4,λq hq => ?_⟩
   rw[hw]at hq
   simp only[Ea]at hq
   split at hq
   ·rename_i d' yw
    cases hq
    obtain⟨v',g1,g2⟩:=q5.get 0 d' yw
    cases g1
    exact⟨⟨hR.size,hR.defers,λs d hd=>by cases hd⟩,_,rfl,.iface t d' _ g2⟩
   ·cases hq
theorem mC(st:St):∀ (bs:List Bk) (bd:List Bd),(ui st bs bd).length<=bs.length
 | [],_=>by simp[ui]
 | .arr _::r,[]=>by simp[ui]
 | .arr _::r,.v _ _::_=>by simp[ui]
 | .arr _::r,.a _ _::d=>by have:=mC st r d; simp[ui]; exact this
 | .var _::r,[]=>by simp[ui]
 | .var _::r,.a _ _::_=>by simp[ui]
 | .var _::r,.v _ _::d=>by have:=mC st r d; simp[ui]; exact this
 | .cvar _::r,d=>by have:=mC st r d; cases d<;>(simp[ui]; exact this)
 | .dead::r,d=>by have:=mC st r d; cases d<;>(simp[ui]; exact this)
theorem vH.Zx(s:vH)(x:s.den):(s.st x).length<=s.bs.length:=mC _ _ _
theorem WX{l m:Fr}{s:Nat}{d:D}(h:(l++m).get s=some d):l.get s=some d\/m.get s=some d:=by
 induction l with
 | nil=>grind
 | cons p r ih =>
  simp only[List.cons_append,Fr.get]at h ⊢
  grind
theorem OZ{l:List Nat}{fr:Fr}{s:Nat}{d:D}(h:(dP l++fr).get s=some d):s ∉ l/\fr.get s=some d:=by
 induction l with
 | nil=>exact⟨by simp,h⟩
 | cons t r ih =>
  simp only[dP,List.map_cons,List.cons_append,Fr.get]at h
  cases ht:Nat.beq t s with
  | true=>grind
  | false =>
   rw[ht,cond_false]at h
   obtain⟨h1,h2⟩:=ih h
   refine⟨?_,h2⟩
   simp
   exact⟨λe=>by subst e; simp at ht,h1⟩
theorem QO{o:Oper}{s:Nat}:∀ {l:List Oper},o∈l->o.dst=some s->s∈dstsOf l
 | p::r,h,hs=>by
  simp only[dstsOf]
  rcases List.mem_cons.1 h with rfl | h
  ·grind
  ·split
   ·exact List.mem_cons_of_mem _ (QO h hs)
   ·exact QO h hs
def Kept(code:Code)(a a':Act):Prop:=∀ s:Nat,s ∉ qx code->a'.tmps[s]? = a.tmps[s]?
section
variable {P:Program} {xid:Nat} {tab:dX} {ro:Nat->Bool} {n:Nat} {H:Hints}
theorem sA{κ κ':KS}{fr out:Fr}{a a':Act}{ws:List Nat}(hR:Rel κ n fr.get a)(hx:Ext κ κ')(ho:Rel κ' n out.get a')(hk:∀ s:Nat,s ∉ ws->a'.tmps[s]? = a.tmps[s]?):Rel κ' n (out++(dP ws++fr)).get a':=by
 refine⟨ho.size,ho.defers,λs d hd => ?_⟩
 rcases WX hd with h | h
 ·exact ho.get s d h
 ·obtain⟨h1,h2⟩:=OZ h
  obtain⟨v,g1,g2⟩:=hR.get s d h2
  exact⟨v,(hk s h1).trans g1,g2.mono hx⟩
theorem Hr{c:Ctx}{ops:Array Oper}:∀ (l:List Oper) (s s':dS),(lJ c n ops l s).leads s'->quiet s'.ks=true->s'.st=s.st/\quiet s.ks=true:=by
 have hq:∀ {k:Nat} {ks:List Nat},quiet (k::ks)=true->Nat.beq k 2=false/\quiet ks=true:=by
  intro k ks h
  simp only[quiet,List.all_cons,Bool.and_eq_true,Bool.not_eq_true']at h
  exact⟨h.1,by unfold quiet; exact h.2⟩
 have one:∀ (o:Oper) (s s1:dS),(bK c n o s).leads s1->quiet s1.ks=true->s1.st=s.st/\quiet s.ks=true:=by
  intro o s s1 h hk
  unfold bK at h
  cases hd:uq n o.dst with
  | false=>rw[hd]at h; exact h.elim
  | true =>
   rw[hd,cond_true]at h
   obtain⟨r,h1,h2⟩:=T.ze.1 h
   cases h2
   obtain⟨g1,g2⟩:=hq hk
   refine⟨?_,g2⟩
   show r.2=s.st
   generalize oh c s.kn s.fr o=cl at h1 g1
   cases cl with
   | val t=>obtain⟨d,_,h3⟩:=T.ze.1 h1; cases h3; rfl
   | rd k=>obtain⟨d,_,h3⟩:=T.ze.1 h1; cases h3; rfl
   | wr k=>cases g1
 have skp:∀ (o:Oper) (s:dS),quiet (jT o s).ks=true->(jT o s).st=s.st/\quiet s.ks=true:=λo s h=>⟨rfl,(hq h).2⟩
 have gd:∀ (o:Oper) (s s1:dS),(stepG c n ops o s).leads s1->quiet s1.ks=true->s1.st=s.st/\quiet s.ks=true:=by
  intro o s s1 h hk
  obtain⟨dst,op,ty,pos,after,guard⟩:=o
  cases guard with
  | none=>exact one _ s s1 h hk
  | some jw =>
   obtain⟨j,want⟩:=jw
   simp only[stepG]at h
   cases hg:jf ops j with
   | none=>rw[hg]at h; exact h.elim
   | some t =>
    rw[hg]at h
    simp only at h
    cases hkn:s.kn.get t with
    | some b =>
     rw[hkn]at h
     simp only at h
     cases hb:b==want with
     | true=>grind
     | false =>
      rw[hb,cond_false]at h
      cases hd:uq n dst with
      | false=>rw[hd]at h; exact h.elim
      | true=>rw[hd,cond_true]at h; cases h; exact skp _ s hk
    | none =>
     rw[hkn]at h
     simp only at h
     split at h
     ·cases hd:uq n dst with
      | false=>rw[hd]at h; exact h.elim
      | true =>
       rw[hd,cond_true]at h
       rcases h with⟨_,h⟩ | ⟨_,h⟩
       ·cases want with
        | true=>rw[cond_true]at h; exact one _ (s.cj t true) s1 h hk
        | false=>rw[cond_false]at h; cases h; exact skp _ (s.cj t true) hk
       ·cases want with
        | true=>rw[cond_true]at h; cases h; exact skp _ (s.cj t false) hk
        | false=>rw[cond_false]at h; exact one _ (s.cj t false) s1 h hk
     ·cases hd:uq n dst with
      | false=>rw[hd]at h; exact h.elim
      | true=>rw[hd,cond_true]at h; cases h; exact skp _ s hk
     ·exact h.elim
 intro l
 induction l with
 | nil=>intro s s' h hk; cases h; exact⟨rfl,hk⟩
 | cons o l ih =>
  intro s s' h hk
  obtain⟨s1,h1,h2⟩:=T.ze.1 h
  obtain⟨g1,g2⟩:=ih s1 s' h2 hk
  obtain⟨k1,k2⟩:=gd o s s1 h1 g2
  exact⟨g1.trans k1,k2⟩
theorem H9{c:Ctx}{ops:Array Oper}{draw:Bool}{fr:Fr}{kn:Kn}{st:St}{s':dS}(h:(cE c n ops draw fr kn st).leads s')(hq:quiet s'.ks=true):s'.st=st:=by
 obtain⟨s1,h1,h2⟩:=T.ze.1 h
 cases hd:(!draw||Zz ops s1.ks.reverse s1.bk.reverse)with
 | false=>rw[hd]at h2; exact h2.elim
 | true=>rw[hd,cond_true]at h2; cases h2; exact(Hr _ _ _ h1 hq).1
theorem Ry{c:Ctx}{κ:KS}{a:Act}{o:Oper}{g:Nat}{args:Array Value}{R:Ending->World->Prop}(wY:(execOp a.eval o).run c.P κ.w=(callFunc g args).run c.P κ.w)
  (h:j7 c.P g args κ.w R) {K:Act->World->Prop} {Q:Exit->Act->World->Prop} (hR:∀ e w',R e w'->∃ ch,e=.panicked ch/\Q (.panic ch) a w'):o.wp c.P a κ.w K Q:=by
 unfold Oper.wp
 rw[wY]
 rcases h with⟨h1,h2⟩ | ⟨v,w',h1,h2⟩
 ·rw[h1]
  refine h2.mono λe w' he => ?_
  grind
 ·grind
theorem Pw{c:Ctx}{κ:KS}{n:Nat}{a:Act}{o:Oper}{s:dS}{d:D}{zy:St}(hC:∀ g,BC c.P g (c.fn g))(hI:Inv κ)(hR:Rel κ n s.fr.get a)(xV:κ.st=s.st)(h:IL c o s d zy){K:Act->World->Prop}{Q:Exit->Act->World->Prop}
  (hQ:∀ (v:Value) (κ':KS),κ'.st=zy->Inv κ'->Ext κ κ'->RD κ' d v->Q (.panic [{ v,recovered:=false }]) a κ'.w):o.wp c.P a κ.w K Q:=by
 have iB:∀ (x:Operand) (z:D),jh s.fr x=some z->RD κ z (a.eval x):=λx z hz=>hR.eval (by rw[<- bM]; exact hz)
 obtain⟨dst,op,ty,pos,after,guard⟩:=o
 rcases h with⟨x,t,e,rfl,hx,rfl,rfl⟩ | ⟨f,args,oq,rfl,g,caps,l,hp,hl,hc⟩
 ·have hv:=iB x _ hx
  generalize BQ:a.eval x=pv at hv
  cases hv with
  | iface _ _ u hu =>
   have wY:(execOp a.eval ⟨dst,.panic x,ty,pos,after,guard⟩).run c.P κ.w=.halt (.panic (.iface t u)) κ.w:=by
    simp[execOp,BQ,Instr.panic]
   unfold Oper.wp
   rw[wY]
   exact hQ _ κ xV hI (Ext.refl κ) (.iface t e u hu)
 ·have hpv:=iB f _ hp
  have hr:=gH (κ:=κ) (vs:=args.toList.map a.eval) hl (by simp) (λi d v hd hv=>by
      simp only[List.getElem?_map]at hd hv
      cases hi:args.toList[i]? with
      | none=>grind
      | some x=>rw[hi]at hd hv; simp at hd hv; subst hv; exact iB x d hd)
  generalize BQ:a.eval f=pv at hpv
  cases hpv with
  | xl _ _ us iI hh2 =>
   have pR:=Uu g hr (⟨iI,hh2⟩:qN κ caps us)
   rw[<- xV]at hc
   refine Ry (c:=c) (κ:=κ) (g:=gD g) (args:=(jV g (args.toList.map a.eval) us).toArray) ?_ (hC (gD g) κ _ _ _ _ hc hI pR) ?_
   ·exact CV BQ
   ·rintro e w' ⟨κ',rfl,h1,h2,h3,v,rfl,h4⟩
    grind
theorem Pc{c:Ctx}{κ:KS}{n:Nat}{a:Act}{id:Nat}{ops:Array Oper}{fr:Fr}{kn:Kn}{d:D}{zy:St}(hC:∀ g,BC c.P g (c.fn g))(hI:Inv κ)(hR:Rel κ n fr.get a)(hk:uh kn fr.get)
  (h:Fl c n ops ops.toList ⟨fr,kn,κ.st,[],[]⟩ d zy) {Q:Exit->Act->World->Prop}
  (hQ:∀ (v:Value) (a':Act) (κ':KS),κ'.st=zy->Inv κ'->Ext κ κ'->Rel κ' n (Fr.get []) a'->eZ ops a a'->RD κ' d v->Q (.panic [{ v,recovered:=false }]) a' κ'.w):(Code.region id ops false).wp c.P Q a κ.w:=by
 obtain⟨pre,o,post,s1,e,h1,h2,h3⟩:=h
 have OH:∀ j:Nat,ops[j]? = (pre++o::post)[j]? := λj=>by rw[<- e]; simp
 obtain⟨ks,g1,g2,_⟩:=fm pre 0 ⟨fr,kn,κ.st,[],[]⟩ s1 (λj=>by
  by_cases hj:j<pre.length
  ·grind
  ·right; omega) hk h1
 have jA:List.range ops.size=List.range' 0 pre.length++pre.length::List.range' (pre.length+1) post.length:=by
  have:ops.size=pre.length+(post.length+1):=by rw[<- Array.length_toList,e]; simp
  rw[this,List.range_eq_range',<- List.range'_append_1,Nat.zero_add,List.range'_succ]
 refine wp_region ?_
 rw[jA]
 refine XL hC _ _ hI hR rfl g1 λa' κ' e1 e2 e3 e4 e5 => ?_
 rw[wpOps_cons]
 unfold wpOp
 have ho:ops[pre.length]? = some o:=by rw[OH]; simp
 rw[ho]
 simp only
 rw[if_pos (mn e4 h2)]
 exact .inl (Pw hC e2 e4 e1 h3 λv Np f1 f2 f3 f4=>hQ v a' Np f1 f2 (e3.trans f3) ⟨e4.size,e4.defers,λs d hd=>by cases hd⟩ e5 f4)
def QU(P:Program)(n:Nat)(l:zW)(b:Code):Prop:=∀ (κ:KS) (a:Act) (p:vu l.ps) (s:l.sh.den) (r:bq l.ws),(l.F p s).leads r->κ.st=l.sh.st s->Inv κ ->
 Rel κ n (l.sh.fr s).get a->Rel κ n (fV (l.sh.st s) l.ps p).get a->ID l.ps (qx b)=true->(∀ w∈l.ws,l.sh.bs.length<=w.sh.bs.length) ->
 ∀ Q:Exit->Act->World->Prop,(∀ (w:Way) (x:w.sh.den) (iX:Exit) (a':Act) (κ':KS),w∈l.ws->RIs l.ws r w x->κ'.st=w.sh.st x->Inv κ'->Ext κ κ'->z7z κ' n w x a' iX->Kept b a a'->Q iX a' κ'.w) ->
  (Code.loop b).wp P Q a κ.w
def uI(P:Program)(n:Nat)(H:Hints)(code:Code):Prop:=∀ p∈xE code,∀ l,H.loop p.1=some l->QU P n l p.2
theorem PU{kn:Kn}:∀ (l:List Nat) {fr:Fr} {st:St} {r:Fr×St},(frz l fr st).leads r->uh kn fr.get->uh kn r.1.get
 | [],fr,st,r,h,hk=>by cases h; exact hk
 | s::l,fr,st,r,h,hk=>by
  obtain⟨x,h1,h2⟩:=T.ze.1 h
  refine PU l h2 λt b hb => ?_
  have hf:=hk t b hb
  unfold z48 at h1
  cases hW:Nat.ble 1000000 s with
  | true =>
   rw[hW,cond_true]at h1
   have hfr:x.1=fr:=by
    unfold z3R at h1
    split at h1
    ·split at h1
     ·split at h1
      ·split at h1
       ·obtain⟨_,h1⟩:=h1; cases h1; rfl
       ·exact h1.elim
      ·exact h1.elim
     ·cases h1; rfl
    ·cases h1; rfl
   grind
  | false =>
  rw[hW,cond_false]at h1
  unfold z27 at h1
  split at h1
  ·rename_i b' qK e off len hs
   split at h1
   ·split at h1
    ·obtain⟨_,h1⟩:=h1
     cases h1
     simp only[Fr.get]
     cases ht:Nat.beq s t with
     | true=>rw[<- Nat.eq_of_beq_eq_true ht,hs]at hf; cases hf
     | false=>grind
    ·exact h1.elim
   ·exact h1.elim
  ·cases h1; exact hf
theorem Sc{c:Ctx}{t e:Nat}(hu:c.P.underlying t=some (.slice e)){op:BinOp}{b:Bool}(hop:T3 op=some b)(px py:Operand)(w:World)(x:Option Addr)(l k:Nat) :
  (do eqGuard op t px py (.slice x l k) (.slice none 0 0); binOp op t (.slice x l k) (.slice none 0 0):Sem Value).run c.P w=.ok (.bool (if b=true then x.isNone else !x.isNone)) w:=by
 cases op<;>simp only[T3]at hop<;>cases hop
 ·have:=run_eql_slice_nil (P:=c.P) w t e x l k hu
  simp only[eqGuard]
  simpa using this
 ·have:=run_neq_slice_nil (P:=c.P) w t e x l k hu
  simp only[eqGuard]
  simpa using this
theorem EB{ops:Array Oper}{fr:Fr}{p:zbJ}(hp:Ha (uP P xid tab ro) n ops fr=some p){κ:KS}{a:Act}{kn:Kn}(hI:Inv κ)(hR:Rel κ n fr.get a)(hk:uh kn fr.get){id:Nat}(Q:Exit->Act->World->Prop)
  (hQ:∀ a':Act,Kept (.region id ops false) a a' ->
   ((p.l=[]/\Rel κ n (Fr.get ((p.c,some (.zC .bool p.eq))::(p.m,some .xH)::(p.s,some .xH)::fr)) a')\/Rel κ n (Fr.get ((p.c,some (.zC .bool (!p.eq)))::(p.m,some (.zC (.sl p.e) p.l))::fr)) a')->Q .normal a' κ.w) :
  (Code.region id ops false).wp P Q a κ.w:=by
 unfold Ha at hp
 split at hp
 ·rename_i o1 o2 hops
  split at hp
  ·rename_i m s FY ho1 hg1
   split at hp
   ·rename_i cc op t m' y ty' hd2 ho2 hg2
    split at hp
    ·rename_i b e l et hop hs hel
     cases hc:Nat.beq m m'&&F9 y&&Nat.blt m n&&Nat.blt cc n with
     | false=>grind
     | true =>
      rw[hc,cond_true]at hp
      cases hp
      simp only[Bool.and_eq_true]at hc
      obtain⟨⟨⟨hmm,hy⟩,hmn⟩,hcn⟩:=hc
      have:=Nat.eq_of_beq_eq_true hmm
      subst this
      have hy':y=.const (.slice none 0 0):=by
       unfold F9 at hy
       grind
      subst hy'
      obtain⟨v,hv,yw⟩:=hR.get s _ hs
      obtain⟨x,k,hvs⟩:∃ (x:Option Addr) (k:Nat),v=.slice x l.length k/\(x=none->l=[]/\k=0):=by
       rcases(yw.vW rfl).Xx with⟨rfl,a0,he⟩ | ⟨blk,off,cap,f,he,wU,vO,h1,h2⟩
       ·grind
       ·grind
      obtain⟨rfl,hvn⟩:=hvs
      have jA:ops.size=2:=by rw[<- Array.length_toList,hops]; rfl
      have e0:ops[0]? = some o1:=by rw[<- Array.getElem?_toList,hops]; rfl
      have e1:ops[1]? = some o2:=by rw[<- Array.getElem?_toList,hops]; rfl
      have zgj:m<n:=Nat.le_of_ble_eq_true hmn
      have zli:cc<n:=Nat.le_of_ble_eq_true hcn
      have hsl:a.tmps.getD s undef=.slice x l.length k:=by simp[Array.getD_eq_getD_getElem?,hv]
      have wan:∀ (o:Oper) (ys:Nat->Option Value),o.guard=none->True:=λ_ _ _=>trivial
      refine wp_region ?_
      rw[jA,show List.range 2=[0,1]from rfl,wpOps_cons]
      unfold wpOp
      rw[e0]
      simp only
      rw[if_pos (by unfold Region.wanted; rw[hg1])]
      refine .inl ?_
      obtain⟨d1,op1,ty1,z83,af1,gu1⟩:=o1
      obtain⟨d2,op2,YO,z1o,af2,gu2⟩:=o2
      simp only at FY ho1 hg1 hd2 ho2 hg2
      subst FY ho1 hg1 hd2 ho2 hg2
      have hx1:(execOp a.eval ⟨some m,.move (.tmp s),ty1,z83,af1,none⟩).run P κ.w=.ok (.value (.slice x l.length k)) κ.w:=by
       simp[execOp,Act.eval,hsl]
      unfold Oper.wp
      rw[hx1,Oper.upon_value,wpOps_cons]
      unfold wpOp
      rw[e1]
      simp only
      rw[if_pos (by unfold Region.wanted; rfl)]
      refine .inl ?_
      have iB:(a.put (some m) (.slice x l.length k)).eval (.tmp m)=.slice x l.length k:=by
       have:=hR.size
       simp[Act.eval,Act.put,Array.getD_eq_getD_getElem?,Array.getElem?_setIfInBounds,this,zgj]
      have hu:=uU hel
      have wY:=Sc (c:=uP P xid tab ro) hu hop (.tmp m) (.const (.slice none 0 0)) κ.w x l.length k
      have Iz:(execOp (a.put (some m) (.slice x l.length k)).eval ⟨some cc,.binOp op t (.tmp m) (.const (.slice none 0 0)) ty',YO,z1o,af2,none⟩).run P κ.w=.ok (.value (.bool (if b=true then x.isNone else !x.isNone))) κ.w:=by
       have hex:execOp (a.put (some m) (.slice x l.length k)).eval ⟨some cc,.binOp op t (.tmp m) (.const (.slice none 0 0)) ty',YO,z1o,af2,none⟩ =
        (do Pure.pure (.value (<- (do eqGuard op t (.tmp m) (.const (.slice none 0 0)) ((a.put (some m) (.slice x l.length k)).eval (.tmp m)) (.slice none 0 0); binOp op t ((a.put (some m) (.slice x l.length k)).eval (.tmp m)) (.slice none 0 0))))):=rfl
       rw[hex,iB,Sem.run_bind]
       rw[show(do eqGuard op t (.tmp m) (.const (.slice none 0 0)) (.slice x l.length k) (.slice none 0 0); binOp op t (.slice x l.length k) (.slice none 0 0):Sem Value).run P κ.w=_ from wY]
       rfl
      unfold Oper.wp
      rw[Iz,Oper.upon_value]
      have z9D:∀ (q:Nat) (u:Value) (a1:Act) (t:Nat),(a1.put (some q) u).tmps[t]? = if q=t then(if q<a1.tmps.size then some u else none)else a1.tmps[t]? := by
       intro q u a1 t
       simp only[Act.put,Array.getElem?_setIfInBounds]
      have Rf:(a.put (some m) (.slice x l.length k)).tmps.size=n:=by simp[Act.put,hR.size]
      have hs2:((a.put (some m) (.slice x l.length k)).put (some cc) (.bool (if b=true then x.isNone else !x.isNone))).tmps.size=n:=by simp[Act.put,hR.size]
      refine hQ _ (λt ht => ?_) ?_
      ·have hw:qx (.region id ops false)=[m,cc]:=by simp only[qx,hops,dstsOf]
       grind
      ·have get:∀ (t:Nat),((a.put (some m) (.slice x l.length k)).put (some cc) (.bool (if b=true then x.isNone else !x.isNone))).tmps[t]? = if cc=t then some (.bool (if b=true then x.isNone else !x.isNone))else if m=t then some (.slice x l.length k)else a.tmps[t]? := by
        grind
       have z2p:∀ {i j:Nat},Nat.beq i j=false->i≠j:=λh e=>by subst e; simp at h
       cases x with
       | none =>
        obtain⟨hl,Bt⟩:=hvn rfl
        subst hl Bt
        refine .inl ⟨rfl,hs2,hR.defers,λt d hd => ?_⟩
        rw[get]
        simp only[Fr.get]at hd
        cases h1:Nat.beq cc t with
        | true =>
         rw[h1,cond_true]at hd; cases hd
         rw[if_pos (Nat.eq_of_beq_eq_true h1)]
         refine⟨_,rfl,?_⟩
         cases b<;>exact .bool
        | false =>
         rw[h1,cond_false]at hd
         rw[if_neg (z2p h1)]
         cases h2:Nat.beq m t with
         | true=>rw[h2,cond_true]at hd; cases hd; rw[if_pos (Nat.eq_of_beq_eq_true h2)]; exact⟨_,rfl,.xH⟩
         | false =>
          rw[h2,cond_false]at hd
          rw[if_neg (z2p h2)]
          cases h3:Nat.beq s t with
          | true=>rw[h3,cond_true]at hd; cases hd; rw[<- Nat.eq_of_beq_eq_true h3]; exact⟨_,hv,.xH⟩
          | false=>rw[h3,cond_false]at hd; exact hR.get t d hd
       | some x =>
        refine .inr ⟨hs2,hR.defers,λt d hd => ?_⟩
        rw[get]
        simp only[Fr.get]at hd
        cases h1:Nat.beq cc t with
        | true =>
         rw[h1,cond_true]at hd; cases hd
         rw[if_pos (Nat.eq_of_beq_eq_true h1)]
         refine⟨_,rfl,?_⟩
         cases b<;>exact .bool
        | false =>
         rw[h1,cond_false]at hd
         rw[if_neg (z2p h1)]
         cases h2:Nat.beq m t with
         | true=>rw[h2,cond_true]at hd; cases hd; rw[if_pos (Nat.eq_of_beq_eq_true h2)]; exact⟨_,rfl,yw⟩
         | false=>rw[h2,cond_false]at hd; rw[if_neg (z2p h2)]; exact hR.get t d hd
    ·cases hp
   ·cases hp
  ·cases hp
 ·cases hp
theorem OY{id:Nat}{b:Code}(hb:∀ b',b≠.loop b')(fr:Fr)(kn:Kn)(st:St){α:Type}(k:Fs->T α):ZR (uP P xid tab ro) tab n H (.block id b) fr kn st k=ZR (uP P xid tab ro) tab n H b fr kn st λr=>match r.ex with
  | .exit id'=>bif Nat.beq id' id then k { r with ex:=.normal } else k r
  | _=>k r:=by
 cases b<;>first | rfl | exact absurd rfl (hb _)
theorem rC(hm:(uP P xid tab ro).P.follows .mixedOrders=true)(hT:yG P tab):∀ (code:Code),uI P n H code->∀ {fr:Fr} {kn:Kn} {κ:KS} {a:Act} {α:Type} {k:Fs->T α} {r:α},
  (ZR (uP P xid tab ro) tab n H code fr kn κ.st k).leads r->Inv κ->Rel κ n fr.get a->uh kn fr.get ->
  ∀ Q:Exit->Act->World->Prop,(∀ (o:Fs) (iX:Exit) (a':Act) (κ':KS),(k o).leads r->κ'.st=o.st->Inv κ'->Ext κ κ'->Rel κ' n o.fr.get a'->uh o.kn o.fr.get->Kept code a a'->(o.q=true->o.st=κ.st)->CM κ' o.ex iX->Q iX a' κ'.w) ->
   code.wp P Q a κ.w:=by
 intro code
 induction code with
 | skip=>intro _ fr kn κ a α k r h hI hR hk Q hQ; exact wp_skip (hQ _ _ a κ h rfl hI (Ext.refl κ) hR hk (λ_ _=>rfl) (λ_=>rfl) rfl)
 | exit id=>intro _ fr kn κ a α k r h hI hR hk Q hQ; exact wp_exit (hQ _ _ a κ h rfl hI (Ext.refl κ) hR hk (λ_ _=>rfl) (λ_=>rfl) rfl)
 | ret=>intro _ fr kn κ a α k r h hI hR hk Q hQ; exact wp_ret (hQ _ _ a κ h rfl hI (Ext.refl κ) hR hk (λ_ _=>rfl) (λ_=>rfl) rfl)
 | region id ops draw =>
  intro _ fr kn κ a α k r h hI hR hk Q hQ
  simp only[ZR]at h
  obtain⟨z,h0,h⟩:=T.ze.1 h
  obtain⟨κ0,w1,w2,w3,w4,w5⟩:=SW _ h0 hI hR
  have Bt:=PU _ h0 hk
  rcases Yc Bt h with⟨s,h1,h2⟩ | ⟨d,zy,rfl,h1,h2⟩
  rotate_left
  ·rw[<- w2]at h1
   rw[<- w1]
   exact Pc (Hi hT) w3 w5 Bt h1 λv a' κ' e1 e2 e3 e4 e5 e6=>hQ ⟨.yk d,[],[],zy,false⟩ _ a' κ' h2 e1 e2 (w4.trans e3) e4 (dB _) (λt ht=>e5 t λo ho he=>ht (QO ho he)) (λhq=>by cases hq) ⟨v,rfl,e6⟩
  rw[<- w2]at h1
  have Bj:=OO Bt h1
  rw[<- w1]
  refine(O0 hm (Hi hT) w3 w5 Bt h1 λa' κ' e1 e2 e3 e4 e5=>hQ ⟨.normal,s.fr,s.kn,s.st,quiet s.ks&&(H.frz id).isEmpty⟩ _ a' κ' h2 e1 e2 (w4.trans e3) e4 Bj (λt ht=>e5 t λo ho he=>ht (QO ho he)) (λhq => ?_) rfl).1
  simp only[Bool.and_eq_true]at hq
  have he:H.frz id=[]:=List.isEmpty_iff.1 hq.2
  rw[he]at h0
  cases h0
  exact(H9 h1 hq.1).trans w2
 | seq x y ix iy =>
  intro hl fr kn κ a α k r h hI hR hk Q hQ
  have hlx:uI P n H x:=λp hp=>hl p (by simp only[xE,List.mem_append]; exact .inl hp)
  have hly:uI P n H y:=λp hp=>hl p (by simp only[xE,List.mem_append]; exact .inr hp)
  have kx:∀ {a a':Act},Kept x a a'->Kept (.seq x y) a a':=λh s hs=>h s λe=>hs (by simp only[qx,List.mem_append]; exact .inl e)
  have ky:∀ {a a':Act},Kept y a a'->Kept (.seq x y) a a':=λh s hs=>h s λe=>hs (by simp only[qx,List.mem_append]; exact .inr e)
  simp only[ZR]at h
  split at h
  ·refine wp_seq (ix hlx h hI hR hk _ λo iX a' κ' e0 e1 e2 e3 e4 Pm e5 e5q e6 => ?_)
   cases hex:o.ex<;>rw[hex]at e0 e6<;>simp only at e0
   ·cases e6
    refine iy hly (κ:=κ') (e1▸e0) e2 e4 Pm Q λo' GZ a'' Np f0 f1 f2 f3 f4 Gk f5 El f6=>hQ { o' with q:=o.q&&o'.q } GZ a'' Np f0 f1 f2 (e3.trans f3) f4 Gk (λs hs=>(ky f5 s hs).trans (kx e5 s hs)) ?_ f6
    grind
   ·cases e6; exact hQ o _ a' κ' e0 e1 e2 e3 e4 Pm (kx e5) e5q (by rw[hex]; rfl)
   ·cases e6; exact hQ o _ a' κ' e0 e1 e2 e3 e4 Pm (kx e5) e5q (by rw[hex]; rfl)
   ·obtain⟨v,rfl,hv⟩:=e6
    exact hQ o _ a' κ' e0 e1 e2 e3 e4 Pm (kx e5) e5q (by rw[hex]; exact⟨v,rfl,hv⟩)
  ·rename_i oF hcu
   cases hw:G2 oF with
   | false=>rw[hw]at h; exact h.elim
   | true =>
    rw[hw,cond_true]at h
    obtain⟨z,h1,h2⟩:=T.ze.1 h
    have h1:=C4 h1
    refine wp_seq (ix hlx h1 hI hR hk _ λo iX a' κ' e0 e1 e2 e3 e4 Pm e5 e5q e6 => ?_)
    cases hex:o.ex<;>rw[hex]at e0 e6<;>simp only at e0
    ·cases e6
     cases hq:o.q with
     | false=>rw[hq]at e0; exact e0.elim
     | true =>
      rw[hq,cond_true]at e0
      have xV:o.st=κ.st:=e5q hq
      have hRz:Rel κ' n (fV κ.st oF z).get a':=by
       refine⟨e4.size,e4.defers,λt d hd => ?_⟩
       obtain⟨k',y',d0,g0,g1,g2,g3⟩:=(QM (p:=λ_=>true) (zy:=κ.st) oF [] z (λ_ _=>rfl) e0).2 _ (get_mem hd)
       cases g3
       obtain⟨v,q1,q2⟩:=e4.get _ _ g1
       have V5:=List.all_eq_true.1 hw _ g0
       have V5:VE k'=true:=V5
       have hwk:Wk κ' κ':=⟨rfl,rfl,rfl,rfl,λb d h=>⟨d,h⟩,λb v e xs h=>.inl h,λb v e xs h=>h,λb h=>h⟩
       have wU:CT [] k'=true:=by cases k'<;>first | rfl | cases V5
       rw[<- e1]at g2
       have:=Hq hwk (bs:=[]) wU (λ_ _=>rfl) (zy:=κ'.st) (λ_ _=>rfl) (λ_ h=>by simp[rowAt]at h) g2 q2
       grind
      have GG:=sA hR e3 hRz e5
      refine iy hly (κ:=κ') (by rw[e1,xV]; exact h2) e2 GG (dB _) Q λo' GZ a'' Np f0 f1 f2 f3 f4 Gk f5 El f6=>hQ o' GZ a'' Np f0 f1 f2 (e3.trans f3) f4 Gk (λs hs=>(ky f5 s hs).trans (kx e5 s hs)) (λhq=>(El hq).trans (e1.trans xV)) f6
    ·exact e0.elim
    ·exact e0.elim
    ·exact e0.elim
  ·rename_i hcu
   cases hop:opsOf x with
   | none=>rw[hop]at h; exact h.elim
   | some ops =>
    rw[hop]at h
    simp only at h
    cases hp:Ha (uP P xid tab ro) n ops fr with
    | none=>rw[hp]at h; exact h.elim
    | some p =>
     rw[hp]at h
     obtain⟨Jn,zcJ⟩:=h
     obtain⟨id,rfl⟩:∃ id,x=.region id ops false:=by
      cases x with
      | region id ops' draw =>
       cases draw with
       | true=>cases hop
       | false=>cases hop; exact⟨id,rfl⟩
      | _=>cases hop
     refine wp_seq (EB hp hI hR hk _ ?_)
     intro a' hk1 zb4
     rcases zb4 with⟨hl,GG⟩ | GG
     ·refine iy hly (κ:=κ) (Jn hl _ zcJ) hI GG (λt b hb => ?_) Q λo' GZ a'' Np f0 f1 f2 f3 f4 Gk f5 El f6=>hQ o' GZ a'' Np f0 f1 f2 f3 f4 Gk (λs hs=>(ky f5 s hs).trans (kx hk1 s hs)) El f6
      simp only[Kn.get]at hb
      simp only[Fr.get]
      grind
     ·refine iy hly (κ:=κ) zcJ hI GG (λt b hb => ?_) Q λo' GZ a'' Np f0 f1 f2 f3 f4 Gk f5 El f6=>hQ o' GZ a'' Np f0 f1 f2 f3 f4 Gk (λs hs=>(ky f5 s hs).trans (kx hk1 s hs)) El f6
      simp only[Kn.get]at hb
      simp only[Fr.get]
      cases ht:Nat.beq p.c t with
      | true=>rw[ht,cond_true]at hb; rw[cond_true]; cases hb; rfl
      | false=>rw[ht,cond_false]at hb; cases hb
  ·rename_i ws hcu
   cases hw:ws.all λw=>Nat.ble κ.st.length w.sh.bs.length with
   | false=>rw[hw]at h; exact h.elim
   | true =>
    rw[hw,cond_true]at h
    obtain⟨rr,Vv,h2⟩:=T.ze.1 h
    refine wp_seq (ix hlx Vv hI hR hk _ λo iX a' κ' e0 e1 e2 e3 e4 Pm e5 _ e6 => ?_)
    obtain⟨w,g1,z,g2,g3,g4⟩:=Hk _ _ _ _ _ e0
    have hwl:=List.all_eq_true.1 hw w g1
    obtain⟨κ1,q1,q2,q3,q4,q5⟩:=T4 (n:=n) e3 e2 e4 e6 g3 (Nat.le_of_ble_eq_true hwl) (by rw[e1]; exact g4)
    rw[g2]at h2
    split at h2
    ·exact h2.elim
    rename_i zz hzz
    obtain⟨q5,PE⟩:=q5 zz hzz
    have GG:=sA hR q4 q5 e5
    rw[<- q1]
    cases hex:zz.1<;>rw[hex]at h2 PE<;>simp only at h2
    ·cases PE
     exact iy hly (κ:=κ1) (by rw[q2]; exact h2) q3 GG (dB _) Q λo' GZ a'' Np f0 f1 f2 f3 f4 Gk f5 _ f6=>hQ { o' with q:=false } GZ a'' Np f0 f1 f2 (q4.trans f3) f4 Gk (λs hs=>(ky f5 s hs).trans (kx e5 s hs)) (λhq=>by cases hq) f6
    ·cases PE; exact hQ _ _ a' κ1 h2 q2 q3 q4 GG (dB _) (kx e5) (λhq=>by cases hq) rfl
    ·cases PE; exact hQ _ _ a' κ1 h2 q2 q3 q4 GG (dB _) (kx e5) (λhq=>by cases hq) rfl
    ·obtain⟨v,rfl,hv⟩:=PE
     exact hQ _ _ a' κ1 h2 q2 q3 q4 GG (dB _) (kx e5) (λhq=>by cases hq) ⟨v,rfl,hv⟩
 | cond x p q ip iq =>
  intro hl fr kn κ a α k r h hI hR hk Q hQ
  have hlp:uI P n H p:=λz hz=>hl z (by simp only[xE,List.mem_append]; exact .inl hz)
  have NC:uI P n H q:=λz hz=>hl z (by simp only[xE,List.mem_append]; exact .inr hz)
  have kp:∀ {a a':Act},Kept p a a'->Kept (.cond x p q) a a':=λh s hs=>h s λe=>hs (by simp only[qx,List.mem_append]; exact .inl e)
  have kq:∀ {a a':Act},Kept q a a'->Kept (.cond x p q) a a':=λh s hs=>h s λe=>hs (by simp only[qx,List.mem_append]; exact .inr e)
  have hQp:=λ(o:Fs) (iX:Exit) (a':Act) (κ':KS) f0 f1 f2 f3 f4 Gk (f5:Kept p a a') El f6=>hQ o iX a' κ' f0 f1 f2 f3 f4 Gk (kp f5) El f6
  have hQq:=λ(o:Fs) (iX:Exit) (a':Act) (κ':KS) f0 f1 f2 f3 f4 Gk (f5:Kept q a a') El f6=>hQ o iX a' κ' f0 f1 f2 f3 f4 Gk (kq f5) El f6
  simp only[ZR]at h
  split at h
  ·rename_i hx
   have hv:qt fr.get x=some (.zC .bool true):=cJ hk hx
   exact wp_cond_true (hR.eval hv).kt (ip hlp h hI hR hk Q hQp)
  ·rename_i hx
   have hv:qt fr.get x=some (.zC .bool false):=cJ hk hx
   exact wp_cond_false (hR.eval hv).kt (iq NC h hI hR hk Q hQq)
  ·split at h
   ·split at h
    ·rename_i v hv
     have he:=hv
     rw[show ∀ t,fr.get t=qt fr.get (.tmp t)from λ_=>rfl]at he
     rcases h with⟨rfl,h⟩ | ⟨rfl,h⟩
     ·exact wp_cond_true (hR.eval he).kt (ip hlp h hI hR (sn hk hv) Q hQp)
     ·exact wp_cond_false (hR.eval he).kt (iq NC h hI hR (sn hk hv) Q hQq)
    ·exact h.elim
   ·exact h.elim
 | block id b ib =>
  intro hl fr kn κ a α k r h hI hR hk Q hQ
  by_cases hb:∃ b',b=.loop b'
  ·obtain⟨b,rfl⟩:=hb
   simp only[ZR]at h
   split at h
   ·exact h.elim
   ·rename_i l hll
    cases hc:Nat.ble (gh l.gh fr κ.st).2.length l.sh.bs.length&&ID l.ps (qx b)&&l.ws.all λw=>Nat.ble l.sh.bs.length w.sh.bs.length with
    | false=>rw[hc]at h; exact h.elim
    | true =>
     rw[hc,cond_true]at h
     simp only[Bool.and_eq_true,List.all_eq_true]at hc
     obtain⟨⟨P8,Fp⟩,hc3⟩:=hc
     obtain⟨p,h1,h⟩:=T.ze.1 h
     obtain⟨s,h2,h⟩:=T.ze.1 h
     obtain⟨rr,h3,h4⟩:=T.ze.1 h
     obtain⟨κ1,w1,w2,w3,w4,w5⟩:=ml l.gh fr κ hI hR
     rw[<- w2]at h1 h2 P8
     obtain⟨κ2,q1,q2,q3,q4,q5,_⟩:=l.sh.Xo (n:=n) (Ext.refl κ1) w3 w5 (Nat.le_of_ble_eq_true P8) h2
     -- the loop's parameters
     have hps:Rel κ2 n (fV (l.sh.st s) l.ps p).get a:=by
      refine⟨w5.size,w5.defers,λt d hd => ?_⟩
      obtain⟨k',y,d0,g0,g1,g2,g3⟩:=(QM (p:=λ_=>true) (zy:=l.sh.st s) l.ps [] p (λ_ _=>rfl) h1).2 _ (get_mem hd)
      cases g3
      obtain⟨v,e1,e2⟩:=w5.get _ _ g1
      have V5:=List.all_eq_true.1 Fp _ g0
      simp only[Bool.and_eq_true]at V5
      have hwk:Wk κ1 κ1:=⟨rfl,rfl,rfl,rfl,λb d h=>⟨d,h⟩,λb v e xs h=>.inl h,λb v e xs h=>h,λb h=>h⟩
      have wU:CT [] k'=true:=by cases k'<;>first | rfl | cases V5.1
      have:=Hq hwk (bs:=[]) wU (λ_ _=>rfl) (zy:=κ1.st) (λ_ _=>rfl) (λ_ h=>by simp[rowAt]at h) g2 e2
      have he:tg κ1.st k' y=tg (l.sh.st s) k' y:=by cases k'<;>first | rfl | cases V5.1
      rw[he]at this
      exact⟨v,e1,this.mono q4⟩
     have z2U:Ext κ κ2:=w4.trans q4
     have sS:κ2.w=κ.w:=q1.trans w1
     rw[<- sS]
     refine wp_block (hl (id,b) (by simp[xE]) l hll κ2 a p s rr h3 q2 q3 q5 hps Fp (λw hw=>Nat.le_of_ble_eq_true (hc3 w hw)) _ λw x iX a' κ' f1 f2 f3 f4 f5 f6 f7 => ?_)
     rw[f2]at h4
     split at h4
     ·exact h4.elim
     rename_i zz hzz
     obtain⟨f6,f8⟩:=f6 zz hzz
     have hR':Rel κ' n (zz.2++(dP (qx b)++(gh l.gh fr κ.st).1)).get a':=sA w5 (q4.trans f5) f6 f7
     have hkk:Kept (.block id (.loop b)) a a':=f7
     cases hwx:zz.1<;>rw[hwx]at h4 f8<;>simp only at h4
     ·exact h4.elim
     ·rename_i id'
      cases f8
      simp only[Exit.inBlock]
      cases BE:Nat.beq id' id with
      | true =>
       rw[BE,cond_true]at h4
       have:=Nat.eq_of_beq_eq_true BE
       subst this
       rw[if_pos rfl]
       exact hQ _ _ a' κ' h4 f3 f4 (z2U.trans f5) hR' (dB _) hkk (λhq=>by cases hq) rfl
      | false =>
       rw[BE,cond_false]at h4
       rw[if_neg (λe=>by subst e; simp at BE)]
       exact hQ _ _ a' κ' h4 f3 f4 (z2U.trans f5) hR' (dB _) hkk (λhq=>by cases hq) rfl
     ·cases f8
      exact hQ _ _ a' κ' h4 f3 f4 (z2U.trans f5) hR' (dB _) hkk (λhq=>by cases hq) rfl
     ·obtain⟨v,rfl,hv⟩:=f8
      exact hQ _ _ a' κ' h4 f3 f4 (z2U.trans f5) hR' (dB _) hkk (λhq=>by cases hq) ⟨v,rfl,hv⟩
  ·have BE:∀ b',b≠.loop b':=λb' e=>hb ⟨b',e⟩
   rw[OY BE]at h
   refine wp_block (ib (λz hz=>hl z (by rw[D6 BE]; exact hz)) h hI hR hk _ λo iX a' κ' f0 f1 f2 f3 f4 Gk f5 El f6 => ?_)
   have hkk:Kept (.block id b) a a':=f5
   cases hox:o.ex<;>rw[hox]at f0 f6<;>simp only at f0
   ·cases f6; exact hQ o _ a' κ' f0 f1 f2 f3 f4 Gk hkk El (by rw[hox]; rfl)
   ·rename_i id'
    cases f6
    simp only[Exit.inBlock]
    cases hbq:Nat.beq id' id with
    | true =>
     rw[hbq,cond_true]at f0
     have:=Nat.eq_of_beq_eq_true hbq
     subst this
     rw[if_pos rfl]
     exact hQ _ _ a' κ' f0 f1 f2 f3 f4 Gk hkk El rfl
    | false =>
     rw[hbq,cond_false]at f0
     rw[if_neg (λe=>by subst e; simp at hbq)]
     exact hQ o _ a' κ' f0 f1 f2 f3 f4 Gk hkk El (by rw[hox]; rfl)
   ·cases f6; exact hQ o _ a' κ' f0 f1 f2 f3 f4 Gk hkk El (by rw[hox]; rfl)
   ·obtain⟨v,rfl,hv⟩:=f6
    exact hQ o _ a' κ' f0 f1 f2 f3 f4 Gk hkk El (by rw[hox]; exact⟨v,rfl,hv⟩)
 | _=>intro _ fr kn κ a α k r h; simp only[ZR]at h; exact h.elim
end
end Go.AM
namespace Go.AM
set_option linter.unusedSectionVars false
variable [uy]
open Go.RowKit
section
variable [Kq]
variable {P:Program} {xid:Nat} {tab:dX} {ro:Nat->Bool} {n:Nat} {H:Hints}
theorem LU{b:Code}{st zy:St}:∀ (oF:List It) (z:vu oF),ID oF (qx b)=true->fV st oF z=fV zy oF z/\∀ q∈fV st oF z,q.1 ∉ qx b:=by
 intro oF
 induction oF with
 | nil=>intro z _; exact⟨rfl,λq hq=>by cases hq⟩
 | cons i r ih =>
  intro z h
  have hi:∀ y:i.den,Y5 st i y=Y5 zy i y/\∀ q∈Y5 st i y,q.1 ∉ qx b:=by
   intro y
   simp only[ID,List.all_cons,Bool.and_eq_true]at h
   cases i with
   | s t k =>
    obtain⟨h1,_⟩:=h
    simp at h1
    refine⟨by cases k<;>first | rfl | (simp[VE]at h1),λq hq => ?_⟩
    simp only[Y5,List.mem_singleton]at hq
    subst hq
    intro hm
    have:=h1.2
    simp only[z4P,Bool.not_eq_true',List.any_eq_false]at this
    exact this t hm (by simp)
   | _=>grind
  cases r with
  | nil =>
   have e1:=JX st i z
   have e2:=JX zy i z
   grind
  | cons j r =>
   have e1:=XJ st i j r z
   have e2:=XJ zy i j r z
   have hr:ID (j::r) (qx b)=true:=by
    unfold ID at h ⊢
    grind
   grind
theorem z3y(hm:(uP P xid tab ro).P.follows .mixedOrders=true)(hT:yG P tab){l:zW}{b:Code}(hL:uI P n H b)(R:vu l.ps->l.sh.den->T (l.sh.den⊕bq l.ws))
  (round:∀ p s,TF (uP P xid tab ro) tab n H l b p s=R p s) (hF:∀ p s,l.F p s=T.loop (R p) s):QU P n l b:=by
 intro κ a p s r hr xV hI hR hRp hps hws Q hQ
 rw[hF,T.fu]at hr
 obtain⟨m,hm'⟩:=hr
 have zhq:=λ(st zy:St)=>(LU (b:=b) (st:=st) (zy:=zy) l.ps p hps).1
 have z6A:∀ (st:St) (t:Nat) (d:D),(fV st l.ps p).get t=some d->t ∉ qx b:=λst t d hd=>(LU (b:=b) (st:=st) (zy:=st) l.ps p hps).2 _ (get_mem hd)
 refine wp_loop_ghost (λm a' w'=>∃ s',T.Iter (R p) m s' r/\∃ κ':KS,κ'.w=w'/\κ'.st=l.sh.st s'/\Inv κ'/\Ext κ κ'/\Rel κ' n (l.sh.fr s').get a'/\Rel κ' n (fV (l.sh.st s) l.ps p).get a'/\Kept b a a') m
  ⟨s,hm',κ,rfl,xV,hI,Ext.refl κ,hR,hRp,λ_ _=>rfl⟩ ?_
 rintro m a1 w1 ⟨s1,hit,κ1,rfl,g4,g5,g6,g7a,g7b,g8⟩
 have g7:Rel κ1 n (l.sh.fr s1++fV (l.sh.st s1) l.ps p).get a1:=⟨g7a.size,g7a.defers,λt d hd=>by
  rcases WX hd with hd | hd
  ·exact g7a.get t d hd
  ·rw[zhq _ (l.sh.st s)]at hd; exact g7b.get t d hd⟩
 cases hit with
 | done h1 =>
  rw[<- round]at h1
  refine rC hm hT b hL (κ:=κ1) (by rw[g4]; exact h1) g5 g7 (dB _) _ λo iX a' κ' e0 e1 e2 e3 e4 Pm e5 _ e6 => ?_
  have fin:∀ exo,CM κ' exo iX->(Hg l.ws exo (Kr exo o.fr) o.st).leads r->Q iX a' κ'.w:=λexo e6 e0=>by
   obtain⟨w,k1,x,k2,k3,k4⟩:=Hk _ _ _ _ _ e0
   have hlen:κ1.st.length<=w.sh.bs.length:=by rw[g4]; exact Nat.le_trans (vH.Zx _ _) (hws w k1)
   obtain⟨κ2,q1,q2,q3,q4,q5⟩:=T4 (n:=n) e3 e2 e4 e6 k3 hlen (by rw[e1]; exact k4)
   have:=hQ w x iX a' κ2 k1 k2 q2 q3 (g6.trans q4) q5 (λt ht=>(e5 t ht).trans (g8 t ht))
   grind
  have N2:∀ {z:l.sh.den⊕bq l.ws},((Hg l.ws o.ex (Kr o.ex o.fr) o.st).bind λr=>T.ret (Sum.inr r:l.sh.den⊕bq l.ws)).leads z->z=Sum.inr r->(Hg l.ws o.ex (Kr o.ex o.fr) o.st).leads r:=by
   intro z h hz
   obtain⟨y,h1,h2⟩:=T.ze.1 h
   have h2:(Sum.inr y:l.sh.den⊕bq l.ws)=z:=h2
   grind
  cases hox:o.ex<;>rw[hox]at e0 e6 N2<;>simp only at e0
  ·obtain⟨y,_,h2⟩:=T.ze.1 e0
   have h2:(Sum.inl y:l.sh.den⊕bq l.ws)=Sum.inr r:=h2
   cases h2
  ·have q:=fin _ e6 (N2 e0 rfl); cases e6; exact q
  ·have q:=fin _ e6 (N2 e0 rfl); cases e6; exact q
  ·have q:=fin _ e6 (N2 e0 rfl); obtain⟨v,rfl,hv⟩:=e6; exact q
 | step h1 hit =>
  rename_i m s2
  rw[<- round]at h1
  refine rC hm hT b hL (κ:=κ1) (by rw[g4]; exact h1) g5 g7 (dB _) _ λo iX a' κ' e0 e1 e2 e3 e4 Pm e5 _ e6 => ?_
  have M4:((Hg l.ws o.ex (Kr o.ex o.fr) o.st).bind λr=>T.ret (Sum.inr r:l.sh.den⊕bq l.ws)).leads (Sum.inl s2)->False:=by
   intro h
   obtain⟨y,h1,h2⟩:=T.ze.1 h
   have h2:(Sum.inr y:l.sh.den⊕bq l.ws)=Sum.inl s2:=h2
   cases h2
  cases hox:o.ex<;>rw[hox]at e0 e6 M4<;>simp only at e0
  ·cases e6
   obtain⟨y,h1,h2⟩:=T.ze.1 e0
   have h2:(Sum.inl y:l.sh.den⊕bq l.ws)=Sum.inl s2:=h2
   cases h2
   have hlen:κ1.st.length<=l.sh.bs.length:=by rw[g4]; exact vH.Zx _ _
   obtain⟨κ2,q1,q2,q3,q4,q5,_⟩:=l.sh.Xo (n:=n) e3 e2 e4 hlen (by rw[e1]; exact h1)
   refine⟨m,Nat.lt_succ_self _,s2,hit,κ2,q1,q2,q3,g6.trans q4,q5,⟨q5.size,q5.defers,λt d hd => ?_⟩,λt ht=>(e5 t ht).trans (g8 t ht)⟩
   obtain⟨v,r1,r2⟩:=g7b.get t d hd
   exact⟨v,(e5 t (z6A _ t d hd)).trans r1,r2.mono q4⟩
  ·exact(M4 e0).elim
  ·exact(M4 e0).elim
  ·exact(M4 e0).elim
end
section
variable {P:Program} {xid:Nat} {tab:dX} {ro:Nat->Bool} {n:Nat} {H:Hints}
theorem WD{κ:KS}(hI:Inv κ):∀ (rs:List Ty) (ds:List D) (x:BG rs) (vs:List Value),(PY κ.st rs ds).leads x->qN κ ds vs->qN κ.all (ZW rs x) vs/\∀ d∈ZW rs x,V4 d=true
 | [],[],x,vs,h,hd=>by rw[hd.ql]; exact⟨.nil,λd hd=>by cases hd⟩
 | [],_::_,x,vs,h,hd=>h.elim
 | [τ],[],x,vs,h,hd=>h.elim
 | [τ],[d],x,vs,h,hd=>by
  obtain⟨v,us,rfl,h1,h2⟩:=hd.cons_inv
  rw[h2.ql]
  refine⟨.cons (Qc hI h1 h) .nil,λd hd => ?_⟩
  have hd:d∈[D.zC τ x]:=hd
  rw[List.mem_singleton]at hd
  subst hd; rfl
 | [τ],_::_::_,x,vs,h,hd=>h.elim
 | τ::σ::r,[],x,vs,h,hd=>h.elim
 | τ::σ::r,d::ds,x,vs,h,hd=>by
  obtain⟨y,h1,h2⟩:=T.ze.1 h
  obtain⟨z,h3,h4⟩:=T.ze.1 h2
  cases h4
  obtain⟨v,us,rfl,k1,k2⟩:=hd.cons_inv
  obtain⟨g1,g2⟩:=WD hI (σ::r) ds z us h3 k2
  refine⟨.cons (Qc hI k1 h1) g1,λd hd => ?_⟩
  rcases List.mem_cons.1 hd with rfl | hd
  ·rfl
  ·grind
theorem zcK(hm:(uP P xid tab ro).P.follows .mixedOrders=true)(hT:yG P tab){f:Nat}{fn:Func}{code:Code}(hf:P.funcs[f]? = some fn)(hb:fn.body=some code)
  (hn:(fn.name == "runtime.NumGoroutine")=false) (hL:uI P fn.ntmps H code) {d:CY} (h:∀ x,z0B (uP P xid tab ro) tab H fn code d x=d.F x):zH P f d:=by
 intro κ x zJ y xV hy hI ha
 rw[<- h]at hy
 unfold z0B at hy
 cases hle:Nat.ble (Wb d.ps x).length fn.ntmps with
 | false=>rw[hle]at hy; exact hy.elim
 | true =>
  rw[hle,cond_true]at hy
  have Kx:=Nat.le_of_ble_eq_true hle
  refine .inl ⟨vy hf hn (by grind) κ.w,calls_of_wp hf hb ?_⟩
  have hR:=Q8 ha Kx
  refine rC hm hT code hL (κ:=κ) (by rw[xV]; exact hy) hI hR (dB _) _ λo iX a' κe e0 e1 e2 e3 e4 _ _ _ e6 => ?_
  have fin:(iX=.normal\/iX=.ret)->((cq (uP P xid tab ro) o.fr o.st fn.results.toList).bind λds=>PY o.st d.rs ds).leads y ->
    bodyPost P fn (λe w'=>∃ κ':KS,κ'.w=w'/\κ'.st=[]/\Inv κ'/\Ext κ κ'/\wX κ' (.ret (ZW d.rs y)) e) iX a' κe.w:=by
   intro hex h2
   obtain⟨ds,g1,g2⟩:=T.ze.1 h2
   rw[<- e1]at g1 g2
   obtain⟨vs,k1,k2⟩:=nu e2 e4 g1
   obtain⟨q1,q2⟩:=Nw hI xV e2 e3
   obtain⟨hl,hdat⟩:=WD e2 d.rs ds y vs g2 k2
   have RL:qN (κe.bare (Pk κe)) (ZW d.rs y) vs:=⟨hl.1,λi h1 h2=>mT (hdat _ (List.getElem_mem h1)) (hl.2 i h1 h2)⟩
   have rB:a'.defers=[]/\∃ v,(results fn a'.tmps).run P κe.w=.ok v κe.w/\∃ κ':KS,κ'.w=κe.w/\κ'.st=[]/\Inv κ'/\Ext κ κ'/\wX κ' (.ret (ZW d.rs y)) (.returned v) :=
    ⟨e4.defers,_,k1,κe.bare (Pk κe),rfl,rfl,q1,q2,_,rfl,Ze RL⟩
   rcases hex with rfl | rfl
   ·exact rB
   ·exact rB
  cases hox:o.ex<;>rw[hox]at e0 e6<;>simp only at e0
  ·exact fin (.inl e6) e0
  ·exact e0.elim
  ·exact fin (.inr e6) e0
  ·exact e0.elim
theorem Uk{d:CY}{f:Nat}(b:(yn d.ps->T (BG d.rs))->yn d.ps->T (BG d.rs))(hF:∀ x,d.F x=T.fix b x)(h:∀ F:yn d.ps->T (BG d.rs),zH P f ⟨d.ps,d.rs,F⟩->zH P f ⟨d.ps,d.rs,b F⟩):zH P f d:=by
 have hN:∀ m,zH P f ⟨d.ps,d.rs,T.D4 b m⟩:=by
  intro m
  induction m with
  | zero=>nofun
  | succ m ih=>exact h _ ih
 intro κ x zJ y xV hy hI ha
 rw[hF,T.lT]at hy
 obtain⟨m,hm⟩:=hy
 exact hN m κ x zJ y xV (hm m (Nat.le_refl _)) hI ha
theorem XD{fr:Fr}:∀ {n i:Nat} {ds:List D},IJ fr n i=some ds->ds.length=n/\∀ j d,ds[j]? = some d->fr.get (i+j)=some d
 | 0,i,ds,h=>by cases h; exact⟨rfl,λj d hj=>by grind⟩
 | n+1,i,ds,h=>by
  simp only[IJ]at h
  split at h
  ·rename_i d hd
   split at h
   ·rename_i r hr
    obtain⟨h1,h2⟩:=XD hr
    grind
   ·cases h
  ·cases h
theorem z6m(hm:(uP P xid tab ro).P.follows .mixedOrders=true)(hT:yG P tab){f:Nat}{fn:Func}{code:Code}(hf:P.funcs[f]? = some fn)(hb:fn.body=some code)
  (hn:(fn.name == "runtime.NumGoroutine")=false) (hL:uI P fn.ntmps H code) {d:kT} (h:∀ x,EX (uP P xid tab ro) tab H fn code d x=d.F x):qR P f d:=by
 intro κ x zJ y xV hy hI hlen T0
 rw[<- h]at hy
 unfold EX at hy
 cases hle:Nat.ble d.ks.length fn.ntmps&&Nat.ble d.sh.bs.length d.out.bs.length with
 | false=>rw[hle]at hy; exact hy.elim
 | true =>
  rw[hle,cond_true]at hy
  simp only[Bool.and_eq_true]at hle
  have NT:=Nat.le_of_ble_eq_true hle.1
  have z0r:=Nat.le_of_ble_eq_true hle.2
  refine .inl ⟨vy hf hn (by rw[hb]; rfl) κ.w,calls_of_wp hf hb ?_⟩
  have hR:Rel κ fn.ntmps (d.sh.fr x).get { tmps:=zJ.toArray++Array.replicate (fn.ntmps-zJ.toArray.size) undef,defers:=[] }:=by
   refine⟨by simp; omega,rfl,λs e hs => ?_⟩
   obtain⟨v,h1,h2⟩:=T0.get s e hs
   grind
  refine rC hm hT code hL (κ:=κ) (by rw[xV]; exact hy) hI hR (dB _) _ λo iX a' κe e0 e1 e2 e3 e4 _ _ _ e6 => ?_
  have fin:(iX=.normal\/iX=.ret)->((cq (uP P xid tab ro) o.fr o.st fn.results.toList).bind λds=>bif Nat.beq ds.length d.nr then(d.out.un (wT ds 0) o.st).bind λy=>bif (hJ d.nr (d.out.fr y)).isSome then T.ret y else .fail else .fail).leads y ->
    bodyPost P fn (λe w'=>∃ (κ':KS) (ds:List D),κ'.w=w'/\κ'.st=d.out.st y/\Inv κ'/\Ext κ κ'/\hJ d.nr (d.out.fr y)=some ds/\wX κ' (.ret ds) e) iX a' κe.w:=by
   intro hex h2
   obtain⟨ds,g1,g2⟩:=T.ze.1 h2
   cases hnr:Nat.beq ds.length d.nr with
   | false=>rw[hnr]at g2; exact g2.elim
   | true =>
    rw[hnr,cond_true]at g2
    obtain⟨y',g5,g3⟩:=T.ze.1 g2
    cases ik:hJ d.nr (d.out.fr y')with
    | none=>rw[ik]at g3; exact g3.elim
    | some Y6 =>
     rw[ik]at g3
     have hyy:y'=y:=g3
     subst hyy
     rw[<- e1]at g1 g5
     obtain⟨vs,k1,k2⟩:=nu e2 e4 g1
     have hRr:Rel κe vs.length (wT ds 0).get { tmps:=vs.toArray,defers:=[] }:=by
      have:=Q8 (n:=vs.length) k2 (by rw[k2.1]; exact Nat.le_refl _)
      simpa[show(Kq.df:List Deferred)=[]from rfl]using this
     obtain⟨κ2,q1,q2,q3,q4,q5,_⟩:=d.out.Xo (κ0:=κ) e3 e2 hRr (by rw[xV]; exact Nat.le_trans (vH.Zx _ _) z0r) g5
     obtain⟨l1,l2⟩:=XD ik
     have hds:qN κ2 Y6 vs:=by
      refine⟨by rw[l1,<- k2.1]; exact(Nat.eq_of_beq_eq_true hnr).symm,λi h1 h2 => ?_⟩
      have:=l2 i Y6[i] (List.getElem?_eq_getElem h1)
      rw[Nat.zero_add]at this
      obtain⟨v,r1,r2⟩:=q5.get i _ this
      grind
     have rB:a'.defers=[]/\∃ v,(results fn a'.tmps).run P κe.w=.ok v κe.w/\∃ (κ':KS) (ds:List D),κ'.w=κe.w/\κ'.st=d.out.st y'/\Inv κ'/\Ext κ κ'/\hJ d.nr (d.out.fr y')=some ds/\wX κ' (.ret ds) (.returned v) :=
      ⟨e4.defers,_,k1,κ2,Y6,q1,q2,q3,q4,ik,_,rfl,Ze hds⟩
     rcases hex with rfl | rfl
     ·exact rB
     ·exact rB
  cases hox:o.ex<;>rw[hox]at e0 e6<;>simp only at e0
  ·exact fin (.inl e6) e0
  ·exact e0.elim
  ·exact fin (.inr e6) e0
  ·exact e0.elim
theorem Hh{d:kT}{f:Nat}(b:(d.sh.den->T d.out.den)->d.sh.den->T d.out.den)(hF:∀ x,d.F x=T.fix b x)(h:∀ F:d.sh.den->T d.out.den,qR P f ⟨d.ks,d.sh,d.yI,d.out,d.nr,F⟩->qR P f ⟨d.ks,d.sh,d.yI,d.out,d.nr,b F⟩):qR P f d:=by
 have hN:∀ m,qR P f ⟨d.ks,d.sh,d.yI,d.out,d.nr,T.D4 b m⟩:=by
  intro m
  induction m with
  | zero=>nofun
  | succ m ih=>exact h _ ih
 intro κ x zJ y xV hy hI hl ha
 rw[hF,T.lT]at hy
 obtain⟨m,hm⟩:=hy
 exact hN m κ x zJ y xV (hm m (Nat.le_refl _)) hI hl ha
theorem EP{κ κe:KS}{a':Act}{fn:Func}{o:Fs}{nr:Nat}{out:vH}{y:out.den}(e1:κe.st=o.st)(e2:Inv κe)(e3:Ext κ κe)(e4:Rel κe fn.ntmps o.fr.get a')(hlen:κ.st.length<=out.bs.length)
  (h:((cq (uP P xid tab ro) o.fr o.st fn.results.toList).bind λds=>bif Nat.beq ds.length nr then(out.un (wT ds 0) o.st).bind λy=>bif (hJ nr (out.fr y)).isSome then T.ret y else .fail else .fail).leads y) :
  ∃ v,(results fn a'.tmps).run P κe.w=.ok v κe.w/\∃ (κ':KS) (ds:List D),κ'.w=κe.w/\κ'.st=out.st y/\Inv κ'/\Ext κ κ'/\hJ nr (out.fr y)=some ds/\wX κ' (.ret ds) (.returned v):=by
 obtain⟨ds,g1,g2⟩:=T.ze.1 h
 cases hnr:Nat.beq ds.length nr with
 | false=>rw[hnr]at g2; exact g2.elim
 | true =>
  rw[hnr,cond_true]at g2
  obtain⟨y',g5,g3⟩:=T.ze.1 g2
  cases ik:hJ nr (out.fr y')with
  | none=>rw[ik]at g3; exact g3.elim
  | some Y6 =>
   rw[ik]at g3
   have hyy:y'=y:=g3
   subst hyy
   rw[<- e1]at g1 g5
   obtain⟨vs,k1,k2⟩:=nu e2 e4 g1
   have hRr:Rel κe vs.length (wT ds 0).get { tmps:=vs.toArray,defers:=[] }:=by
    have:=Q8 (n:=vs.length) k2 (by rw[k2.1]; exact Nat.le_refl _)
    simpa[show(Kq.df:List Deferred)=[]from rfl]using this
   obtain⟨κ2,q1,q2,q3,q4,q5,_⟩:=out.Xo (κ0:=κ) e3 e2 hRr hlen g5
   obtain⟨l1,l2⟩:=XD ik
   have hds:qN κ2 Y6 vs:=by
    refine⟨by rw[l1,<- k2.1]; exact(Nat.eq_of_beq_eq_true hnr).symm,λi h1 h2 => ?_⟩
    have:=l2 i Y6[i] (List.getElem?_eq_getElem h1)
    rw[Nat.zero_add]at this
    obtain⟨v,r1,r2⟩:=q5.get i _ this
    grind
   exact⟨_,k1,κ2,Y6,q1,q2,q3,q4,ik,_,rfl,Ze hds⟩
theorem z7G{κ κe:KS}{yk:vH}{z:yk.den}{st:St}{t:Nat}{d:D}{u:Value}(e1:κe.st=st)(e2:Inv κe)(e3:Ext κ κe)(hlen:κ.st.length<=yk.bs.length)(hu:RD κe d u)
  (h:((yk.un [(0,some d)] st).bind λz=>match(yk.fr z).get 0 with | some _=>T.ret z | none=>.fail).leads z) :
  ∃ (κ':KS) (p:D),κ'.w=κe.w/\κ'.st=yk.st z/\Inv κ'/\Ext κ κ'/\(yk.fr z).get 0=some p/\wX κ' (.yk (.iface t p)) (.panicked [{ v:=.iface t u,recovered:=false }]):=by
 obtain⟨z',g1,g2⟩:=T.ze.1 h
 split at g2
 ·rename_i p hp
  have hzz:z'=z:=g2
  subst hzz
  have GG:Rel κe 1 (Fr.get [(0,some d)]) { tmps := #[u],defers:=[] }:=by
   refine⟨rfl,rfl,λs d' hd => ?_⟩
   simp only[Fr.get]at hd
   cases hb:Nat.beq 0 s with
   | true =>
    have:=Nat.eq_of_beq_eq_true hb
    grind
   | false=>grind
  rw[<- e1]at g1
  obtain⟨κ2,q1,q2,q3,q4,q5,_⟩:=yk.Xo (κ0:=κ) e3 e2 GG hlen g1
  obtain⟨v',r1,r2⟩:=q5.get 0 p hp
  cases r1
  exact⟨κ2,p,q1,q2,q3,q4,hp,_,rfl,.iface t p _ r2⟩
 ·exact g2.elim
theorem z89(hm:(uP P xid tab ro).P.follows .mixedOrders=true)(hT:yG P tab){f:Nat}{fn:Func}{code:Code}(hf:P.funcs[f]? = some fn)(hb:fn.body=some code)
  (hn:(fn.name == "runtime.NumGoroutine")=false) (hL:uI P fn.ntmps H code) {d:iH} (h:∀ x,Ia (uP P xid tab ro) tab H fn code d x=d.F x):yi P f d:=by
 intro κ x zJ y xV hy hI hlen T0
 rw[<- h]at hy
 unfold Ia at hy
 cases hle:Nat.ble d.ks.length fn.ntmps&&Nat.ble d.sh.bs.length d.out.bs.length&&Nat.ble d.sh.bs.length d.yk.bs.length with
 | false=>rw[hle]at hy; exact hy.elim
 | true =>
  rw[hle,cond_true]at hy
  simp only[Bool.and_eq_true]at hle
  have NT:=Nat.le_of_ble_eq_true hle.1.1
  have z0r:=Nat.le_of_ble_eq_true hle.1.2
  have zh8:=Nat.le_of_ble_eq_true hle.2
  refine .inl ⟨vy hf hn (by rw[hb]; rfl) κ.w,calls_of_wp hf hb ?_⟩
  have hR:Rel κ fn.ntmps (d.sh.fr x).get { tmps:=zJ.toArray++Array.replicate (fn.ntmps-zJ.toArray.size) undef,defers:=[] }:=by
   refine⟨by simp; omega,rfl,λs e hs => ?_⟩
   obtain⟨v,h1,h2⟩:=T0.get s e hs
   grind
  refine rC hm hT code hL (κ:=κ) (by rw[xV]; exact hy) hI hR (dB _) _ λo iX a' κe e0 e1 e2 e3 e4 _ _ _ e6 => ?_
  have fin:(iX=.normal\/iX=.ret)->((cq (uP P xid tab ro) o.fr o.st fn.results.toList).bind λds=>bif Nat.beq ds.length d.nr then(d.out.un (wT ds 0) o.st).bind λy=>bif (hJ d.nr (d.out.fr y)).isSome then T.ret (Sum.inl y:d.out.den⊕d.yk.den)else .fail else .fail).leads y ->
    bodyPost P fn (λe w'=>∃ κ':KS,κ'.w=w'/\Inv κ'/\Ext κ κ'/\((∃ (y':d.out.den) (ds:List D),y=.inl y'/\κ'.st=d.out.st y'/\hJ d.nr (d.out.fr y')=some ds/\wX κ' (.ret ds) e) \/
     ∃ (z:d.yk.den) (p:D),y=.inr z/\κ'.st=d.yk.st z/\(d.yk.fr z).get 0=some p/\wX κ' (.yk (.iface d.pt p)) e)) iX a' κe.w:=by
   intro hex h2
   have:∃ y',y=.inl y'/\((cq (uP P xid tab ro) o.fr o.st fn.results.toList).bind λds=>bif Nat.beq ds.length d.nr then(d.out.un (wT ds 0) o.st).bind λy=>bif (hJ d.nr (d.out.fr y)).isSome then T.ret y else .fail else .fail).leads y':=by
    obtain⟨ds,g1,g2⟩:=T.ze.1 h2
    cases hnr:Nat.beq ds.length d.nr with
    | false=>rw[hnr]at g2; exact g2.elim
    | true =>
     rw[hnr,cond_true]at g2
     obtain⟨y',g5,g3⟩:=T.ze.1 g2
     cases ik:hJ d.nr (d.out.fr y')with
     | none=>rw[ik]at g3; exact g3.elim
     | some Y6 =>
      rw[ik]at g3
      have g3:Sum.inl y'=y:=g3
      refine⟨y',g3.symm,T.ze.2 ⟨ds,g1,?_⟩⟩
      rw[hnr,cond_true]
      refine T.ze.2 ⟨y',g5,?_⟩
      rw[ik]; rfl
   obtain⟨y',rfl,EF⟩:=this
   obtain⟨v,k1,κ',ds,q1,q2,q3,q4,q5,q6⟩:=EP e1 e2 e3 e4 (by rw[xV]; exact Nat.le_trans (vH.Zx _ _) z0r) EF
   have rB:a'.defers=[]/\∃ v,(results fn a'.tmps).run P κe.w=.ok v κe.w/\∃ κ':KS,κ'.w=κe.w/\Inv κ'/\Ext κ κ'/\((∃ (y'':d.out.den) (ds:List D),(Sum.inl y':d.out.den⊕d.yk.den)=.inl y''/\κ'.st=d.out.st y''/\hJ d.nr (d.out.fr y'')=some ds/\wX κ' (.ret ds) (.returned v)) \/
     ∃ (z:d.yk.den) (p:D),(Sum.inl y':d.out.den⊕d.yk.den)=.inr z/\κ'.st=d.yk.st z/\(d.yk.fr z).get 0=some p/\wX κ' (.yk (.iface d.pt p)) (.returned v)) :=
    ⟨e4.defers,v,k1,κ',q1,q3,q4,.inl ⟨y',ds,rfl,q2,q5,q6⟩⟩
   rcases hex with rfl | rfl
   ·exact rB
   ·exact rB
  cases hox:o.ex<;>rw[hox]at e0 e6<;>simp only at e0
  ·exact fin (.inl e6) e0
  ·exact e0.elim
  ·exact fin (.inr e6) e0
  ·rename_i p
   cases p<;>simp only at e0<;>first | exact e0.elim | skip
   rename_i t v
   cases ht:Nat.beq t d.pt with
   | false=>rw[ht]at e0; exact e0.elim
   | true =>
    rw[ht,cond_true]at e0
    have:=Nat.eq_of_beq_eq_true ht
    subst this
    obtain⟨u,rfl,hv⟩:=e6
    cases hv with
    | iface _ _ u hu =>
     have:∃ z,y=.inr z/\((d.yk.un [(0,some v)] o.st).bind λz=>match(d.yk.fr z).get 0 with | some _=>T.ret z | none=>.fail).leads z:=by
      obtain⟨z,g1,g2⟩:=T.ze.1 e0
      split at g2
      ·rename_i p hp
       have g2:Sum.inr z=y:=g2
       refine⟨z,g2.symm,T.ze.2 ⟨z,g1,?_⟩⟩
       rw[hp]; rfl
      ·exact g2.elim
     obtain⟨z,rfl,hz2⟩:=this
     obtain⟨κ',p,q1,q2,q3,q4,q5,q6⟩:=z7G (t:=d.pt) e1 e2 e3 (by rw[xV]; exact Nat.le_trans (vH.Zx _ _) zh8) hu hz2
     exact⟨e4.defers,κ',q1,q3,q4,.inr ⟨z,p,rfl,q2,q5,q6⟩⟩
theorem LC{d:iH}{f:Nat}(b:(d.sh.den->T (d.out.den⊕d.yk.den))->d.sh.den->T (d.out.den⊕d.yk.den))(hF:∀ x,d.F x=T.fix b x)(h:∀ F:d.sh.den->T (d.out.den⊕d.yk.den),yi P f ⟨d.ks,d.sh,d.yI,d.out,d.nr,d.pt,d.yk,F⟩->yi P f ⟨d.ks,d.sh,d.yI,d.out,d.nr,d.pt,d.yk,b F⟩):yi P f d:=by
 have hN:∀ m,yi P f ⟨d.ks,d.sh,d.yI,d.out,d.nr,d.pt,d.yk,T.D4 b m⟩:=by
  intro m
  induction m with
  | zero=>nofun
  | succ m ih=>exact h _ ih
 intro κ x zJ y xV hy hI hl ha
 rw[hF,T.lT]at hy
 obtain⟨m,hm⟩:=hy
 exact hN m κ x zJ y xV (hm m (Nat.le_refl _)) hI hl ha
end
noncomputable def ZN:Nat->Code->Option Code
 | k,.block id (.loop b)=>if k=id then some b else ZN k b
 | k,.seq a b=>match ZN k a with | some x=>some x | none=>ZN k b
 | k,.cond _ a b=>match ZN k a with | some x=>some x | none=>ZN k b
 | k,.block _ a=>ZN k a
 | _,_=>none
def GM(P:Program)(n:Nat)(H:Hints):List (Nat×Code)->Prop
 | []=>True
 | p::r=>(∀ l,H.loop p.1=some l->QU P n l p.2)/\GM P n H r
theorem zo{P:Program}{n:Nat}{H:Hints}:GM P n H []:=trivial
theorem qe{P:Program}{n:Nat}{H:Hints}{id:Nat}{b:Code}{r:List (Nat×Code)}{l:zW}(hl:H.loop id=some l)(h:QU P n l b)(t:GM P n H r):GM P n H ((id,b)::r) :=
 ⟨λl' RL=>(Option.some.inj (hl.symm.trans RL))▸h,t⟩
theorem QZ{P:Program}{n:Nat}{H:Hints}{code:Code}{L:List (Nat×Code)}(h:xE code=L)(ha:GM P n H L):uI P n H code:=by
 intro p hp
 rw[h]at hp
 clear h
 induction L with
 | nil=>cases hp
 | cons q r ih =>
  rcases List.mem_cons.1 hp with rfl | hp
  ·exact ha.1
  ·exact ih ha.2 hp
end Go.AM
namespace Go.AM
set_option linter.unusedSectionVars false
variable [uy]
open Go.RowKit Go.ChangeShapes
def Oi:(τs:List Ty)->KZ τs->yn (τs.map .ty)
 | [],_=>()
 | [_],x=>x.1
 | _::σ::r,x=>(x.1,Oi (σ::r) x.2)
theorem YR:∀ (τs:List Ty) (x:KZ τs),Wb (τs.map .ty) (Oi τs x)=mkD τs x
 | [],_=>rfl
 | [_],_=>rfl
 | τ::σ::r,x=>congrArg (D.zC τ x.1 :: ·) (YR (σ::r) x.2)
section
variable {H:Type} {enc:TypeId×Value->H} {P:Program} {xid m n:Nat}
theorem z6n{f:Nat}{fn:Func}(τs:List Ty){F:yn (τs.map .ty)->T (BG [.bool])}(hS:zH P f ⟨τs.map .ty,[.bool],F⟩)(hf:P.funcs[f]? = some fn)(hbd:fn.body.isNone=false) (hnm:(fn.name == "runtime.NumGoroutine")=false)
  (hl:laidOutB P=true) (xid m n:Nat) (hts:Xc P fn.params.toList=true) (hτ:fn.params.toList.map (YO P xid n)=τs.map some) (hx:Ez P xid m=true)
  {bt:TypeId} (hr:fn.resultTypes = #[bt]) (hbt:P.underlying bt=some .bool) {s:ChangeSpec} (hv:s.vars=[]) (hs:∀ ds:List (DataW H),ds.length=τs.length->s.fn H ds={ results:=[.lit (.bool true)],args:=ds })
  (B:Oc H) {lim:Nat} (law:∀ x:KZ τs,wfL τs x->bkL τs x<=lim->(F (Oi τs x)).run=some true)
  {fresh handsOn:Bool} {W:World} {base:Nat} {args:Array Value} {ds gs:List (DataW H)} {before:List MemPlace}
  (hval:∀ (j:Nat) t v,fn.params[j]? = some t->args[j]? = some v->Value.okWide P W .any base t v)
  (hW:DataW.Whole enc P fn.params.toList s.vars false W args.toList ds gs before) (hk:B.bs (ds++gs)<=lim) (hG:ZI W λk=>k<W.heap.size) :
  Calls P f args W λe W'=>∃ v,e=.returned v/\s.post enc P fn false fresh handsOn false W args v W':=by
 refine NR (CY.snd hS) hf hbd hnm hl xid m n τs hts hτ hx hr hbt hv hs B (λx hw hb => ?_) hval hW hk hG
 have h:=T.wZ.1 (law x hw hb)
 rw[<- YR τs x]
 exact T.ze.2 ⟨Oi τs x,B6 [] _ _,T.ze.2 ⟨true,h,rfl⟩⟩
end
end Go.AM