/-
  The abstract machine, part D: texts of our own, the same for each claim.
-/
import Derived.Test.YthhgaidlooddpaaGreatDoorAmA
import Derived.Lib.LaidTab
import Derived.Shelf.Vars
import Derived.Test.YthhgaidlooddpaaGreatDoorAmC
import Derived.OpenShut
import Derived.Test.YthhgaidlooddpaaGreatDoorAmB
import Derived.Lib.LazyBuf
set_option linter.unusedVariables false
namespace Go.AM
def HZ(k:IntKind)(zs:List Int)(o:Obj):Prop:=∃ t fr,o=.cells (zs.map λz=>Value.int k z).toArray t fr
def H2(k:IntKind)(o:Obj):Prop:=∃ m t fr,o=.cells #[.int k m] t fr
theorem z0a{P:Program}{w:World}{name:String}{k:IntKind}{zs:List Int}{g:Nat}(hg:P.globalNamed name=some g)(h:Lib.TabIs P w name k zs) :
  g<w.heap.size/\∃ o,w.heap[g]? = some o/\HZ k zs o:=by
 unfold Lib.TabIs World.var? at h
 rw[hg]at h
 simp at h
 split at h
 ·rename_i cs t fr ho
  cases h
  exact⟨(Array.getElem?_eq_some_iff.1 ho).1,_,ho,t,fr,rfl⟩
 ·cases h
theorem z7S{P:Program}{w:World}{name:String}{k:IntKind}{zs:List Int}{g:Nat}(hg:P.globalNamed name=some g)(h:∃ o,w.heap[g]? = some o/\HZ k zs o):Lib.TabIs P w name k zs:=by
 obtain⟨o,ho,t,fr,rfl⟩:=h
 unfold Lib.TabIs World.var?
 grind
theorem Oc{w:World}{k:IntKind}{g:Nat}(h:∃ o,w.heap[g]? = some o/\H2 k o):∃ m,w.cell? ⟨g,0,none⟩=some (.int k m):=by
 obtain⟨o,ho,m,t,fr,rfl⟩:=h
 exact⟨m,by simp[World.cell?,ho]⟩
theorem O6{P:Program}{w:World}{g:Nat}{t:TypeId}{zero:Array Value}{k:IntKind}
  (h:w.ShapedOpen P) (hg:g<P.globals.size)
  (h0:((begin P (λ_ _=>0) default).world.heap[g]?).bind Obj.row? = some (zero,t)) (hz:zero.size=1)
  (hb:P.buildable t=true) (hc:P.cellTypes P.depth t=some [t]) (hu:P.underlying t=some (.int k)):g<w.heap.size/\∃ o,w.heap[g]? = some o/\H2 k o:=by
 obtain⟨m,hm⟩:=Go.Proofs.cell_of_shapedOpen_int h hg h0 hz hb hc hu
 obtain⟨cs,hh,hs,_⟩:=h.1 g zero t hg h0
 have hl:cs.size=1:=hs.trans hz
 refine⟨(Array.getElem?_eq_some_iff.1 hh).1,_,hh,m,t,(0,0),?_⟩
 have h1:w.cell? ⟨g,0,none⟩=some cs[0]:=by simp[World.cell?,hh]
 have:cs = #[.int k m]:=by
  grind
 rw[this]
theorem Np{P:Program}{W:World}{name:String}{k:IntKind}{zs:List Int}{rest:List (String×DataW Unit)}{ps:List MemPlace}{g:Nat}{t e:TypeId}{n:Nat}
  (hg:P.globalNamed name=some g) (Ih:(P.globals[g]?).map (·.type)=some t) (ht:P.underlying t=some (.array n e)) (he:P.underlying e=some (.int k)) (hce:P.cellsOf e=1) (hct:P.cellsOf t=n)
  (h:DataW.LaidVars P W ((name,Lib.tabData k zs)::rest) ps):g<W.heap.size/\∃ o,W.heap[g]? = some o/\HZ k zs o:=by
 obtain⟨g',t',cs,fuel,p,q,hg',ht',zd1,hd,_,_⟩:=h
 refine z0a hg ?_
 obtain rfl:=Option.some.inj (hg.symm.trans hg')
 obtain rfl:=Option.some.inj (Ih.symm.trans ht')
 unfold Lib.TabIs
 rw[zd1,<- Lib.cells_of_tab ht he hce hct hd]
theorem KM{P:Program}{W:World}{x:String×DataW Unit}{rest:List (String×DataW Unit)}{ps:List MemPlace}(h:DataW.LaidVars P W (x::rest) ps):∃ q,DataW.LaidVars P W rest q:=by
 obtain⟨g',t',cs,fuel,p,q,hg',ht',zd1,hd,h1,_⟩:=h
 grind
end Go.AM
namespace Go.AM
open Go.RowKit
mutual
def bkE:Expr->Nat
 | .mk _ n s l=>1+((1+((List.length n.2.1+1)+((List.length n.2.2.1+1)+1)))+((List.length s+1)+((bkEs l+1)+1)))
def bkEs:List Expr->Nat
 | []=>0
 | e::r=>bkE e+bkEs r
end
def cT{α:Type}(f:α->Nat):List α->Nat
 | []=>0
 | x::r=>f x+cT f r
def bk:(τ:Ty)->den τ->Nat
 | .int _,_=>1
 | .bool,_=>1
 | .str,s=>List.length s+1
 | .sl e,l=>cT (bk e) l+1
 | .nil,_=>1
 | .cons a b,x=>bk a x.1+bk b x.2
 | .expr,x=>bkE x
theorem Cv{α:Type}(l:List α):cT (λ_=>1) l=l.length:=by induction l with | nil=>rfl | cons x r ih=>simp[cT]; omega
theorem z4e(l:List Expr):bkEs l=cT (bk .expr) l:=by induction l with | nil=>rfl | cons x r ih=>simp[bkEs,cT,ih,bk]
theorem z2i(x:Expr):bk Qj x.Nv=bk .expr x:=by
 cases x with | mk k n s l =>
 simp only[bk,Expr.Nv,bkE,z4e,Expr.num,Expr.name,Expr.kids,Cv]
mutual
def wfE:Expr->Prop
 | .mk k n s l=>(IntKind.i64.min<=k/\k<=IntKind.i64.max)/\((True/\((∀ x∈n.2.1,IntKind.u32.min<=x/\x<=IntKind.u32.max)/\((∀ x∈n.2.2.1,IntKind.u32.min<=x/\x<=IntKind.u32.max)/\True)))/\(List.length s<=maxLen/\(wfEs l/\True)))
def wfEs:List Expr->Prop
 | []=>True
 | e::r=>wfE e/\wfEs r
end
def wf:(τ:Ty)->den τ->Prop
 | .int k,n=>k.min<=n/\n<=k.max
 | .bool,_=>True
 | .str,s=>List.length s<=maxLen
 | .sl e,l=>∀ x∈l,wf e x
 | .nil,_=>True
 | .cons a b,x=>wf a x.1/\wf b x.2
 | .expr,x=>wfE x
theorem z1p(l:List Expr):wfEs l↔∀ x∈l,wf .expr x:=by induction l with | nil=>simp[wfEs] | cons x r ih=>simp[wfEs,ih,wf]
theorem IV(x:Expr):wf Qj x.Nv↔wf .expr x:=by
 cases x with | mk k n s l=>simp only[wf,Expr.Nv,wfE,z1p,Expr.kind,Expr.num,Expr.name,Expr.kids]
structure NF(H:Type) where
 b:DataW H->Nat
 bs:List (DataW H)->Nat
 str:∀ s,b (.lit (.string s))=s.length+1
 bool:∀ x,b (.lit (.bool x))=1
 int:∀ k n,b (.lit (.int k n))=1
 nil:b .nil=1
 slice:∀ x y,b (.slice x y)=bs x+bs y+1
 agg:∀ x,b (.agg x)=bs x+1
 zero:bs []=0
 cons:∀ x r,bs (x::r)=b x+bs r
section
variable (P:Program) (xid:Nat)
def XI:Nat->List Field->Bool
 | _,[]=>true
 | o,f::r=>Nat.beq f.offset o&&XI (o+P.cellsOf f.type) r
def Wc:Nat->List Field->Nat
 | o,[]=>o
 | o,f::r=>Wc (o+P.cellsOf f.type) r
def G5:Nat->Nat->Option Ty
 | 0,_=>none
 | n+1,t=>bif Nat.beq t xid then some .expr else
  match P.underlying t with
  | some (.int k)=>some (.int k)
  | some .bool=>some .bool
  | some .string=>some .str
  | some (.slice e)=>match G5 n e with | some a=>bif Nat.beq (P.cellsOf e) a.size&&Nat.blt 0 a.size then some (.sl a)else none | none=>none
  | some (.struct fs)=>bif XI P 0 fs.toList&&Nat.beq (Wc P 0 fs.toList) (P.cellsOf t)then cJ (fs.toList.map λf=>G5 n f.type)else none
  | _=>none
def FH(m:Nat):Bool:=match P.underlying xid with
 | some (.struct fs)=>XI P 0 fs.toList&&Nat.beq (Wc P 0 fs.toList) (P.cellsOf xid)&&decide (cJ (fs.toList.map λf=>G5 P xid m f.type)=some Qj)
 | some _=>false
 | none=>true
end
section
variable {H:Type} {enc:TypeId×Value->H} {P:Program} {w:World} {xid m:Nat} (B:NF H)
def UO(w:World)(B:NF H)(τ:Ty)(cs:List Value)(k:Nat):Prop:=∃ x:den τ,Rc w (λk=>k<w.heap.size) τ x cs/\wf τ x/\bk τ x<=k
theorem XZ{fuel:Nat}{cs:List Value}(ih:∀ n t τ cs d ps,G5 P xid n t=some τ->DataW.trod enc P w 0 (λ_=>true) true fuel t cs=some (d,ps)->UO w B τ cs (B.b d)){n:Nat} :
  ∀ (fs:List Field) (o:Nat) (τ:Ty) (xs:List (DataW H×List MemPlace)),cJ (fs.map λf=>G5 P xid n f.type)=some τ->XI P o fs=true->Wc P o fs=cs.length->xs.length=fs.length ->
   (∀ (i:Nat) (f:Field),fs[i]? = some f->DataW.trod enc P w 0 (λ_=>true) true fuel f.type ((cs.drop f.offset).take (P.cellsOf f.type))=xs[i]?)->UO w B τ (cs.drop o) (B.bs (xs.map (·.1))+1)
 | [],o,τ,xs,ht,_,he,hl,_=>by
  cases ht
  simp only[Wc]at he
  obtain rfl:xs=[]:=List.eq_nil_of_length_eq_zero hl
  refine⟨(),?_,trivial,by simp[bk]⟩
  rw[he,List.drop_length]; exact .nil
 | f::r,o,τ,xs,ht,ho,he,hl,hx=>by
  cases xs with
  | nil=>simp at hl
  | cons x xs =>
  simp only[XI,Bool.and_eq_true]at ho
  have PA:f.offset=o:=Nat.eq_of_beq_eq_true ho.1
  simp only[List.map_cons]at ht
  cases h1:G5 P xid n f.type with
  | none=>rw[h1]at ht; cases ht
  | some a =>
   rw[h1]at ht
   simp only[cJ]at ht
   cases h2:cJ (r.map λf=>G5 P xid n f.type)with
   | none=>grind
   | some b =>
    rw[h2]at ht
    cases ht
    obtain⟨x1,p1,p2,p3⟩:=ih n f.type a _ x.1 x.2 h1 (by have:=hx 0 f rfl; simpa using this)
    obtain⟨x2,q1,q2,q3⟩:=XZ ih r (o+P.cellsOf f.type) b xs h2 ho.2 he (by simpa using hl) (λi g hg=>by have:=hx (i+1) g (by simpa using hg); simpa using this)
    refine⟨(x1,x2),?_,⟨p2,q2⟩,?_⟩
    ·have e:cs.drop o=(cs.drop o).take (P.cellsOf f.type)++cs.drop (o+P.cellsOf f.type):=by
      conv=>lhs; rw[<- List.take_append_drop (P.cellsOf f.type) (cs.drop o)]
      simp
     rw[e]
     rw[PA]at p1
     exact .cons _ _ _ _ _ _ p1 q1
    ·simp only[bk,List.map_cons,B.cons]; omega
theorem KK{e:Ty}(k:Nat):∀ (n:Nat) (elems:List (DataW H×List MemPlace)) (g:Nat->List Value),elems.length=n->(∀ i,i<n->∃ d,elems[i]? = some d/\UO w B e (g i) (B.b d.1)) ->
  ∃ l:List (den e),l.length=n/\(∀ i (hi:i<l.length),Rc w (λk=>k<w.heap.size) e l[i] (g i))/\(∀ x∈l,wf e x)/\cT (bk e) l<=B.bs (elems.map (·.1))
 | 0,elems,g,hl,_=>by
  exact⟨[],rfl,λi hi=>absurd hi (Nat.not_lt_zero i),by simp,by simp[cT]⟩
 | n+1,elems,g,hl,h=>by
  cases elems with
  | nil=>simp at hl
  | cons y ys =>
   obtain⟨d,h1,x,h2,h3,h4⟩:=h 0 (by omega)
   simp at h1
   subst h1
   obtain⟨l,l1,l2,l3,l4⟩:=KK k n ys (λi=>g (i+1)) (by grind) λi hi=>by
    obtain⟨d,h1,h2⟩:=h (i+1) (by omega)
    exact⟨d,by grind,h2⟩
   refine⟨x::l,by grind,λi hi => ?_,λz hz => ?_,?_⟩
   ·grind
   ·grind
   ·simp only[cT,List.map_cons,B.cons]; omega
theorem O9(hx:FH P xid m=true):∀ (fuel n t:Nat) (τ:Ty) (cs:List Value) (d:DataW H) (ps:List MemPlace),G5 P xid n t=some τ->DataW.trod enc P w 0 (λ_=>true) true fuel t cs=some (d,ps)->UO w B τ cs (B.b d):=by
 intro fuel
 induction fuel with
 | zero=>nofun
 | succ fuel ih =>
  intro n t τ cs d ps ht h
  have struct:∀ (fs:Array Field) (k:Nat) (σ:Ty),P.underlying t=some (.struct fs)->(XI P 0 fs.toList&&Nat.beq (Wc P 0 fs.toList) (P.cellsOf t))=true->cJ (fs.toList.map λf=>G5 P xid k f.type)=some σ->UO w B σ cs (B.b d):=by
   intro fs k σ hu ho hc
   simp only[Bool.and_eq_true]at ho
   obtain⟨xs,n',hn,hd,hl,hlx,WC⟩:=DataW.trod_struct hu h
   cases hn
   cases hd
   have:=XZ B (cs:=cs) (ih:=ih) fs.toList 0 σ xs hc ho.1 (by rw[Nat.eq_of_beq_eq_true ho.2,hl]) (by simpa using hlx) (λi f hf=>WC i f (by simpa using hf))
   rw[B.agg]
   grind
  cases n with
  | zero=>cases ht
  | succ n =>
   unfold G5 at ht
   cases hb:Nat.beq t xid with
   | true =>
    rw[hb,cond_true]at ht
    cases ht
    have:=Nat.eq_of_beq_eq_true hb
    subst this
    unfold FH at hx
    split at hx
    ·rename_i fs hu
     simp only[Bool.and_eq_true,decide_eq_true_eq]at hx
     obtain⟨x,h1,h2,h3⟩:=struct fs m Qj hu (by simp[hx.1.1,hx.1.2]) hx.2
     refine⟨Expr.EJ x,.expr _ _ _ _ _ h1,?_,?_⟩
     ·exact(IV (Expr.EJ x)).1 h2
     ·rw[<- z2i (Expr.EJ x)]; exact h3
    ·cases hx
    ·rename_i hu
     rw[DataW.trod_step]at h
     simp[DataW.trodStep,hu]at h
   | false =>
    rw[hb,cond_false]at ht
    split at ht
    ·rename_i k hu
     cases ht
     obtain⟨n',rfl,h2,h3⟩:=DataW.trod_int hu h
     cases h2
     simp only[Lit.wf,Bool.and_eq_true,decide_eq_true_eq]at h3
     exact⟨n',.int k n',h3,by simp[bk,B.int]⟩
    ·rename_i hu
     cases ht
     obtain⟨b,rfl,h2⟩:=DataW.trod_bool hu h
     cases h2
     exact⟨b,.bool b,trivial,by simp[bk,B.bool]⟩
    ·rename_i hu
     cases ht
     obtain⟨s,rfl,h2,h3⟩:=DataW.trod_string hu h
     cases h2
     refine⟨s.data.toList,?_,?_,?_⟩
     ·have:s=⟨s.data.toList.toArray⟩:=by cases s; simp
      exact .str _
     ·simp only[wf,Array.length_toList]; exact h3
     ·simp[bk,B.str]
    ·rename_i e hu
     split at ht
     ·rename_i a ha
      cases hc:Nat.beq (P.cellsOf e) a.size&&Nat.blt 0 a.size with
      | false=>grind
      | true =>
       rw[hc,cond_true]at ht
       cases ht
       simp only[Bool.and_eq_true]at hc
       have uP:P.cellsOf e=a.size:=Nat.eq_of_beq_eq_true hc.1
       have tX:0<a.size:=Nat.le_of_ble_eq_true hc.2
       rcases DataW.trod_slice hu h with⟨rfl,h2⟩ | ⟨p,len,cap,elems,rest,n',hn,rfl,hd,_,wY,_,hlen,hel,hre,_⟩
       ·cases h2
        exact⟨[],.fH a none,by simp[wf],by simp[bk,cT,B.nil]⟩
       ·cases hn
        cases hd
        by_cases h0:cap=0
        ·subst h0
         have:len=0:=by omega
         subst this
         exact⟨[],.fH a (some p),by simp[wf],by simp[bk,cT,B.slice]⟩
        ·rw[uP]at hel hre
         have z5E:p.block<w.heap.size/\p.spot=none:=by
          have first:∃ x,(w.cells? 0 p a.size)=some x:=by
           by_cases hl:len=0
           ·have:=(hre rfl).2 0 (by omega)
            cases hcc:w.cells? 0 p a.size with
            | some x=>simp
            | none =>
             have e0:p.add ((0+0)*a.size)=p:=by simp[Addr.add]
             grind
           ·have:=hel 0 (by omega)
            cases hcc:w.cells? 0 p a.size with
            | some x=>simp
            | none =>
             have e0:p.add (0*a.size)=p:=by simp[Addr.add]
             grind
          obtain⟨x,hx⟩:=first
          refine⟨World.cells?_block hx tX,?_⟩
          have h2:=(World.cells?_some hx).2
          have h3:=h2.2 0 tX
          have e0:p.add 0=p:=rfl
          cases hs:p.spot with
          | none=>rfl
          | some q =>
           unfold World.cell? at h3
           grind
         obtain⟨blk,off,sp⟩:=p
         obtain⟨R8,pC⟩:=z5E
         subst pC
         have hg:∀ i,∃ c:List Value,i<len->∃ d,elems[i]? = some d/\UO w B a c (B.b d.1)/\w.cells? 0 ⟨blk,off+i*a.size,none⟩ a.size=some c:=by
          intro i
          by_cases hi:i<len
          ·have:=hel i hi
           rw[vD]at this
           cases hcc:w.cells? 0 ⟨blk,off+i*a.size,none⟩ a.size with
           | none =>
            grind
           | some c =>
            refine⟨c,λ_=>⟨elems[i]'(by omega),by simp,?_,rfl⟩⟩
            grind
          ·exact⟨[],λh=>absurd h hi⟩
         let g:Nat->List Value:=λi=>Classical.choose (hg i)
         have hg':∀ i,i<len->∃ d,elems[i]? = some d/\UO w B a (g i) (B.b d.1)/\w.cells? 0 ⟨blk,off+i*a.size,none⟩ a.size=some (g i):=λi hi=>Classical.choose_spec (hg i) hi
         obtain⟨l,l1,l2,l3,l4⟩:=KK B (w:=w) (e:=a) 0 len elems g hlen λi hi=>by
          grind
         refine⟨l,?_,l3,?_⟩
         ·have:=Rc.sl (w:=w) (ok:=λk=>k<w.heap.size) a l blk off cap g R8 (by omega) l2 λi hi j v hj=>by
           obtain⟨d,_,_,h3⟩:=hg' i (by omega)
           obtain⟨_,k2,k3⟩:=World.cells?_some h3
           have OM:j<(g i).length:=(List.getElem?_eq_some_iff.1 hj).1
           have:=k3 j (by omega)
           rw[vD,hj]at this
           exact this
          grind
         ·simp only[bk,B.slice]; omega
     ·cases ht
    ·rename_i fs hu
     cases hc:XI P 0 fs.toList&&Nat.beq (Wc P 0 fs.toList) (P.cellsOf t)with
     | false=>grind
     | true =>
      rw[hc,cond_true]at ht
      exact struct fs n τ hu hc ht
    ·cases ht
end
end Go.AM
namespace Go.AM
set_option linter.unusedSectionVars false
variable [vQ]
open Go.RowKit Go.ChangeShapes
def K3:List Ty->Type
 | []=>Unit
 | τ::r=>den τ×K3 r
def mkD:(τs:List Ty)->K3 τs->List D
 | [],_=>[]
 | τ::r,x=>.zI τ x.1::mkD r x.2
def wfL:(τs:List Ty)->K3 τs->Prop
 | [],_=>True
 | τ::r,x=>wf τ x.1/\wfL r x.2
def bkL:(τs:List Ty)->K3 τs->Nat
 | [],_=>0
 | τ::r,x=>bk τ x.1+bkL r x.2
def ZP(P:Program)(ts:List Nat):Bool:=ts.all λt=>P.readableRec t&&decide (t<P.types.size)
section
variable {H:Type} {enc:TypeId×Value->H} {P:Program} {xid m n:Nat} {w:World}
theorem z62{t:Nat}{τ:Ty}{v:Value}{base:Nat}(ht:G5 P xid n t=some τ)(hx:FH P xid m=true)(h:Value.okWide P w .any base t v):pk τ v.cells.toList=v:=by
 cases n with
 | zero=>cases ht
 | succ n =>
  have agg:∀ fs:Array Field,P.underlying t=some (.struct fs)->τ.isAgg=true->pk τ v.cells.toList=v:=by
   intro fs hu ha
   unfold Value.okWide at h
   rw[hu]at h
   obtain⟨cs,rfl,_⟩:=h
   simp[pk,ha,Value.cells]
  unfold G5 at ht
  cases hb:Nat.beq t xid with
  | true =>
   rw[hb,cond_true]at ht
   cases ht
   have:=Nat.eq_of_beq_eq_true hb
   subst this
   unfold FH at hx
   split at hx
   ·rename_i fs hu; exact agg fs hu rfl
   ·cases hx
   ·rename_i hu
    unfold Value.okWide at h
    rw[hu]at h
    simp[Cell.okWide,Cell.ok,hu]at h
  | false =>
   rw[hb,cond_false]at ht
   split at ht
   ·rename_i k hu
    cases ht
    unfold Value.okWide at h
    rw[hu]at h
    simp only[Cell.okWide,hu,Cell.ok]at h
    split at h<;>simp_all [pk,Ty.isAgg,Value.cells]
   ·rename_i hu
    cases ht
    unfold Value.okWide at h
    rw[hu]at h
    simp only[Cell.okWide,hu,Cell.ok]at h
    split at h<;>simp_all [pk,Ty.isAgg,Value.cells]
   ·rename_i hu
    cases ht
    unfold Value.okWide at h
    rw[hu]at h
    simp only[Cell.okWide,hu,Cell.ok]at h
    split at h<;>simp_all [pk,Ty.isAgg,Value.cells]
   ·rename_i e hu
    have h1:τ.isAgg=false:=by
     split at ht
     ·rename_i a ha
      cases hc:Nat.beq (P.cellsOf e) a.size&&Nat.blt 0 a.size with
      | false=>grind
      | true=>rw[hc,cond_true]at ht; cases ht; rfl
     ·cases ht
    unfold Value.okWide at h
    rw[hu]at h
    simp only[Cell.okWide,hu,Cell.ok]at h
    split at h<;>simp_all [pk,Value.cells]
   ·rename_i fs hu
    refine agg fs hu ?_
    cases hc:XI P 0 fs.toList&&Nat.beq (Wc P 0 fs.toList) (P.cellsOf t)with
    | false=>grind
    | true =>
     rw[hc,cond_true]at ht
     have key:∀ (l:List (Option Ty)),cJ l=some τ->τ.isAgg=true:=by
      intro l hl
      cases l with
      | nil=>cases hl; rfl
      | cons a r =>
       cases a with
       | none=>cases hl
       | some a =>
        simp only[cJ]at hl
        cases h2:cJ r with
        | none=>grind
        | some b=>rw[h2]at hl; cases hl; rfl
     grind
   ·cases ht
theorem CZ(B:NF H)(hx:FH P xid m=true){base:Nat}:∀ (ts:List TypeId) (τs:List Ty) (vs:List Value) (ds:List (DataW H)) (ps:List MemPlace),ts.map (G5 P xid n)=τs.map some ->
  DataW.TrodAll enc P w 0 (λ_=>true) true ts vs ds ps->(∀ (j:Nat) t v,ts[j]? = some t->vs[j]? = some v->Value.okWide P w .any base t v) ->
  ∃ x:K3 τs,qD ⟨w,λk=>k<w.heap.size,[],[]⟩ (mkD τs x) vs/\wfL τs x/\bkL τs x<=B.bs ds/\ds.length=τs.length
 | [],τs,vs,ds,ps,ht,h,_=>by
  cases τs with
  | cons=>cases ht
  | nil =>
   cases vs<;>cases ds<;>simp only[DataW.TrodAll]at h
   exact⟨(),⟨rfl,λi h1=>absurd h1 (Nat.not_lt_zero i)⟩,trivial,Nat.zero_le _,rfl⟩
 | t::ts,τs,vs,ds,ps,ht,h,hv=>by
  cases τs with
  | nil=>cases ht
  | cons τ τs =>
   simp at ht
   cases vs with
   | nil=>simp[DataW.TrodAll]at h
   | cons v vs =>
    cases ds with
    | nil=>simp[DataW.TrodAll]at h
    | cons d ds =>
     obtain⟨p,q,⟨fuel,h1⟩,h2,_⟩:=h
     obtain⟨x,k1,k2,k3⟩:=O9 B hx fuel n t τ _ d p ht.1 h1
     obtain⟨y,g1,g2,g3,g4⟩:=CZ B hx ts τs vs ds q ht.2 h2 λj t v a b=>hv (j+1) t v (by grind) (by grind)
     refine⟨(x,y),⟨by simp only[mkD,List.length_cons]; rw[g1.1],λi h1 h2 => ?_⟩,⟨k2,g2⟩,?_,by grind⟩
     ·cases i with
      | zero =>
       have:=RD.zI (κ:=⟨w,λk=>k<w.heap.size,[],[]⟩) τ x _ k1
       rw[z62 ht.1 hx (hv 0 t v rfl rfl)]at this
       exact this
      | succ i=>exact g1.2 i (by simpa[mkD]using h1) (by grind)
     ·simp only[bkL,B.cons]; omega
theorem G4(hl:laidOutB P=true){W W':World}(hb:Below W.heap.size W W'):∀ (ts:List TypeId) (vs:List Value) (ds:List (DataW H)) (ps:List MemPlace),ZP P ts=true ->
  DataW.TrodAll enc P W 0 (λ_=>true) true ts vs ds ps->(∀ x∈ps,x.block<W.heap.size)->DataW.TrodAll enc P W' 0 (λb=>decide (b<W.heap.size)) true ts vs ds ps
 | [],vs,ds,ps,_,h,_=>by cases vs<;>cases ds<;>simp_all [DataW.TrodAll]
 | t::ts,vs,ds,ps,ht,h,qs=>by
  cases vs with
  | nil=>simp[DataW.TrodAll]at h
  | cons v vs =>
   cases ds with
   | nil=>simp[DataW.TrodAll]at h
   | cons d ds =>
    obtain⟨p,q,h1,h2,rfl⟩:=h
    simp only[ZP,List.all_cons,Bool.and_eq_true,decide_eq_true_eq]at ht
    exact⟨p,q,Below.trod hl ht.1.1 ht.1.2 h1 hb λx hx=>qs x (by grind),G4 hl hb ts vs ds q (by simpa[ZP]using ht.2) h2 λx hx=>qs x (by grind),rfl⟩
end
theorem Nj{H:Type}{enc:TypeId×Value->H}{P:Program}{f:Nat}{fn:Func}{S:List D->St->T (GY×St)}(hS:HT P f S)(hf:P.funcs[f]? = some fn)(hbd:fn.body.isNone=false) (hnm:(fn.name == "runtime.NumGoroutine")=false)
  (hl:laidOutB P=true) (xid m n:Nat) (τs:List Ty) (hts:ZP P fn.params.toList=true) (hτ:fn.params.toList.map (G5 P xid n)=τs.map some) (hx:FH P xid m=true)
  {bt:TypeId} (hr:fn.resultTypes = #[bt]) (hbt:P.underlying bt=some .bool) {s:ChangeSpec} (hv:s.vars=[]) (hs:∀ ds:List (DataW H),ds.length=τs.length->s.fn H ds={ results:=[.lit (.bool true)],args:=ds })
  (B:NF H) {lim:Nat} (law:∀ x:K3 τs,wfL τs x->bkL τs x<=lim->(S (mkD τs x) []).leads (.ret [.zI .bool true],[]))
  {fresh handsOn:Bool} {W:World} {base:Nat} {args:Array Value} {ds gs:List (DataW H)} {before:List MemPlace}
  (Kp:∀ (j:Nat) t v,fn.params[j]? = some t->args[j]? = some v->Value.okWide P W .any base t v)
  (hW:DataW.Whole enc P fn.params.toList s.vars false W args.toList ds gs before) (hk:B.bs (ds++gs)<=lim) (hG:sZ W λk=>k<W.heap.size) :
  Calls P f args W λe W'=>∃ v,e=.returned v/\s.post enc P fn false fresh handsOn false W args v W':=by
 have hW':=hW
 obtain⟨p,q,hA,hV,rfl,hfz,F4⟩:=hW
 rw[hv]at hV
 obtain⟨rfl,rfl⟩:=trodVars_none hV
 simp only[List.append_nil]at hk hW'
 obtain⟨x,h1,h2,h3,h4⟩:=CZ (n:=n) B hx fn.params.toList τs args.toList ds p hτ hA λj t v a b=>Kp j t v (by grind) (by grind)
 have hI:Inv ⟨W,λk=>k<W.heap.size,[],[]⟩ :=
  ⟨rfl,λk hk=>hk,λb blk n h=>by grind,λb b' blk n n' h=>by simp at h,λb x h=>by simp at h,hG⟩
 have z52:=hS ⟨W,λk=>k<W.heap.size,[],[]⟩ (mkD τs x) args.toList _ _ (law x h2 (Nat.le_trans h3 hk)) hI h1
 rw[Array.toArray_toList]at z52
 have key:Calls P f args W λe w'=>∃ κ':KS,κ'.w=w'/\κ'.st=[]/\Inv κ'/\Ext ⟨W,λk=>k<W.heap.size,[],[]⟩ κ'/\wv κ' (.ret [.zI .bool true]) e:=by
  rcases z52 with⟨_,h⟩ | ⟨v,w',h,_⟩
  ·exact h
  ·have:=wN (args:=args) hf hnm hbd W
   grind
 refine key.mono λe W' ⟨κ',e1,_,_,e4,v,e5,e6⟩ => ?_
 subst e1
 have hb:Below W.heap.size W κ'.w:=⟨e4.os,e4.tape,e4.output,e4.size,λk hk=>e4.frame k hk λb n h=>by simp at h⟩
 have hv':v=.bool true:=by
  obtain⟨cs,g1,g2⟩:=RD.hH (show RD κ' (.zI .bool true) v from e6)
  rw[g1.jW]at g2
  exact g2
 subst hv'
 have qs:∀ x∈p,x.block<W.heap.size:=λx hx=>by simpa using hW'.lt x hx
 refine⟨_,e5,ds,[],p,[],p,[],hW',?_,?_,?_,hb.frame _,λh=>by cases h⟩
 ·rw[List.append_nil,hs ds h4,hr]
  exact trodAll_cons_mk (shut_bool hbt _) trodAll_mk0
 ·rw[List.append_nil,hs ds h4]
  exact G4 hl hb _ _ _ _ hts hA qs
 ·rw[List.append_nil,hs ds h4,hv]
  rfl
end Go.AM
namespace Go.AM
def Hw:List Ty->Type
 | []=>Unit
 | [τ]=>den τ
 | τ::σ::r=>den τ×Hw (σ::r)
def QV.ty:QV->Ty | .rp τ=>τ | .im τ=>τ
def gY:List QV->Type
 | []=>Unit
 | [p]=>den p.ty
 | p::q::r=>den p.ty×gY (q::r)
def YN:(p:QV)->den p.ty->D
 | .rp τ,x=>.qR τ x
 | .im τ,x=>.zI τ x
def lR:(l:List QV)->gY l->List D
 | [],_=>[]
 | [p],x=>[YN p x]
 | p::q::r,x=>YN p x.1::lR (q::r) x.2
def BJ:(l:List QV)->gY l
 | []=>()
 | [p]=>zk p.ty
 | p::q::r=>(zk p.ty,BJ (q::r))
inductive Sk where
 | im (τ:Ty) | row (b:Nat) (e:Ty) | op (b T:Nat) | un
def cB:List Sk->Type
 | []=>Unit
 | .im τ::r=>den τ×cB r
 | .row _ _::r=>cB r
 | .op _ _::r=>cB r
 | .un::r=>cB r
def ZG:(l:List Sk)->cB l
 | []=>()
 | .im τ::r=>(zk τ,ZG r)
 | .row _ _::r=>ZG r
 | .op _ _::r=>ZG r
 | .un::r=>ZG r
inductive Mc where
 | im (τ:Ty) | rp (τ:Ty) | pt (b:Nat)
def mS:List Mc->Type
 | []=>Unit
 | .im τ::r=>den τ×mS r
 | .rp τ::r=>den τ×mS r
 | .pt _::r=>mS r
def V8:(l:List Mc)->mS l
 | []=>()
 | .im τ::r=>(zk τ,V8 r)
 | .rp τ::r=>(zk τ,V8 r)
 | .pt _::r=>V8 r
def sr:(l:List Mc)->mS l->List D
 | [],_=>[]
 | .im τ::r,x=>.zI τ x.1::sr r x.2
 | .rp τ::r,x=>.qR τ x.1::sr r x.2
 | .pt b::r,x=>.ptr b 0::sr r x
inductive Dk where
 | zI (τ:Ty) | qR (τ:Ty) | sub (b:Nat) (e:Ty) | qW (f:Nat) (caps:List QV) | st (ks:List Sk) | mclo (f:Nat) (ms:List Mc)
inductive Ck where
 | ptr (b off:Nat) | cur (b:Nat) (e:Ty) | xp | kP | qT | qW (f:Nat) (l:List (Nat×Nat))
inductive Bk where
 | var (k:Dk) | cvar (k:Ck) | arr (e:Ty) | dead
def Dk.den:Dk->Type
 | .zI τ=>AM.den τ
 | .qR τ=>AM.den τ
 | .sub _ _=>Nat×Nat
 | .qW _ caps=>gY caps
 | .st ks=>cB ks
 | .mclo _ ms=>mS ms
def Dk.zk:(k:Dk)->k.den
 | .zI τ=>AM.zk τ
 | .qR τ=>AM.zk τ
 | .sub _ _=>(0,0)
 | .qW _ caps=>BJ caps
 | .st ks=>ZG ks
 | .mclo _ ms=>V8 ms
inductive It where
 | s (t:Nat) (k:Dk) | v (k:Dk) | a (e:Ty)
def It.den:It->Type
 | .s _ k=>k.den
 | .v k=>k.den
 | .a e=>List (AM.den e)
def It.zk:(i:It)->i.den
 | .s _ k=>k.zk
 | .v k=>k.zk
 | .a _=>[]
def wJ:List It->Type
 | []=>Unit
 | [i]=>i.den
 | i::j::r=>i.den×wJ (j::r)
def z9m:kG->Nat
 | .arr v _ _=>v
 | _=>0
def xV(st:St)(b:Nat):Nat:=match st[b]? with | some x=>z9m x | none=>0
def vb(st:St):(l:List Sk)->cB l->List D
 | [],_=>[]
 | .im τ::r,x=>AM.flat τ x.1++vb st r x.2
 | .row b e::r,x=>.ms b (xV st b) e 0 (xV st b)::vb st r x
 | .op b T::r,x=>.kN b T::vb st r x
 | .un::r,x=>.sG::vb st r x
def sb(st:St):(k:Dk)->k.den->D
 | .zI τ,x=>.zI τ x
 | .qR τ,x=>.qR τ x
 | .sub b e,x=>.ms b (xV st b) e x.1 x.2
 | .qW f caps,x=>.qW f (lR caps x)
 | .st ks,x=>.agg (vb st ks x)
 | .mclo f ms,x=>.qW f (sr ms x)
def C4(st:St):Ck->D
 | .ptr b off=>.ptr b off
 | .cur b e=>.ms b (xV st b) e 0 (xV st b)
 | .xp=>.xp
 | .kP=>.kP
 | .qT=>.qT
 | .qW f l=>.qW f (l.map λp=>.ptr p.1 p.2)
def eR(st:St):(l:List It)->wJ l->Fr
 | [],_=>[]
 | [.s t k],x=>[(t,some (sb st k x))]
 | [.v _],_=>[]
 | [.a _],_=>[]
 | .s t k::j::r,x=>(t,some (sb st k x.1))::eR st (j::r) x.2
 | .v _::j::r,x=>eR st (j::r) x.2
 | .a _::j::r,x=>eR st (j::r) x.2
def z7X(st:St)(l:List (Nat×Ck)):Fr:=l.map λp=>(p.1,some (C4 st p.2))
inductive Bd where
 | v (k:Dk) (x:k.den) | a (e:Ty) (x:List (AM.den e))
def mn:(l:List It)->wJ l->List Bd
 | [],_=>[]
 | [.s _ _],_=>[]
 | [.v k],x=>[.v k x]
 | [.a e],x=>[.a e x]
 | .s _ _::j::r,x=>mn (j::r) x.2
 | .v k::j::r,x=>.v k x.1::mn (j::r) x.2
 | .a e::j::r,x=>.a e x.1::mn (j::r) x.2
def gi:List Bk->List Bd->St
 | [],_=>[]
 | .arr _::r,.a e x::d=>.arr x.length e x::gi r d
 | .var _::r,_::d=>.dead::gi r d
 | .cvar _::r,d=>.dead::gi r d
 | .dead::r,d=>.dead::gi r d
 | _::_,_=>[]
def vI(st:St):List Bk->List Bd->St
 | [],_=>[]
 | .arr _::r,.a e x::d=>.arr x.length e x::vI st r d
 | .var _::r,.v k x::d=>.var (sb st k x)::vI st r d
 | .cvar c::r,d=>.var (C4 st c)::vI st r d
 | .dead::r,d=>.dead::vI st r d
 | _::_,_=>[]
def zfB(bs:List Bk)(d:List Bd):St:=vI (gi bs d) bs d
structure vO where
 nU:List It
 cs:List (Nat×Ck)
 bs:List Bk
def vO.den(s:vO):Type:=wJ s.nU
def vO.st(s:vO)(x:s.den):St:=zfB s.bs (mn s.nU x)
def vO.fr(s:vO)(x:s.den):Fr:=eR (s.st x) s.nU x++z7X (s.st x) s.cs
def Lj:(p:QV)->D->Option (den p.ty)
 | .rp τ,d=>match d with | .qR _ x=>wO x | _=>none
 | .im τ,d=>dC τ d
def DQ:(l:List QV)->List D->Option (gY l)
 | [],[]=>some ()
 | [p],[d]=>Lj p d
 | p::q::r,d::ds=>(Lj p d).bind λx=>(DQ (q::r) ds).bind λy=>some (x,y)
 | _,_=>none
def ba(st:St)(b:Nat):Nat:=match st[b]? with | some (.arr _ _ xs)=>xs.length | _=>0
def RE(st:St)(b T:Nat)(ds:List D):Option (List D):=match st[b]? with
 | some (.var _)=>match ds with
  | .c6 T'::ds=>bif Nat.beq T T' then some ds else none
  | .kN b' T'::ds=>bif Nat.beq b b'&&Nat.beq T T' then some ds else none
  | _=>none
 | _=>none
def z7i(ds:List D):Option (List D):=match ds with
 | d::ds=>bif d.one then some ds else none
 | _=>none
def fZ(st:St):(l:List Sk)->List D->T (cB l)
 | [],ds=>match ds with | []=>.ret () | _=>.fail
 | .im τ::r,ds=>match jh τ ds with | some p=>(fZ st r p.2).bind λy=>.ret (p.1,y) | none=>.fail
 | .row b e::r,ds=>match ds with
  | .ms b' qy e' off len::ds=>bif Nat.beq b b'&&decide (e=e')then .zL (uq qy off len (ba st b)) (fZ st r ds)else .fail
  | _=>.fail
 | .op b T::r,ds=>match RE st b T ds with | some q=>fZ st r q | none=>.fail
 | .un::r,ds=>match z7i ds with | some q=>fZ st r q | none=>.fail
def Xt:(l:List Mc)->List D->T (mS l)
 | [],ds=>match ds with | []=>.ret () | _=>.fail
 | .im τ::r,ds=>match ds with
  | d::ds=>match dC τ d with | some y=>(Xt r ds).bind λz=>.ret (y,z) | none=>.fail
  | _=>.fail
 | .rp τ::r,ds=>match ds with
  | .qR _ x::ds=>match(wO x:Option (AM.den τ))with | some y=>(Xt r ds).bind λz=>.ret (y,z) | none=>.fail
  | _=>.fail
 | .pt b::r,ds=>match ds with
  | .ptr b' off::ds=>bif Nat.beq b b'&&Nat.beq off 0 then Xt r ds else .fail
  | _=>.fail
def tL(st:St):(k:Dk)->D->T k.den
 | .zI τ,d=>.Kx (dC τ d)
 | .qR τ,d=>match d with | .qR _ x=>.Kx (wO x) | _=>.fail
 | .sub b e,d=>match d with
  | .ms b' qy e' off len=>bif Nat.beq b b'&&decide (e=e')then .zL (qy=xV st b) (.ret (off,len))else .fail
  | _=>.fail
 | .qW f caps,d=>match d with
  | .qW f' l=>bif Nat.beq f f' then .Kx (DQ caps l)else .fail
  | _=>.fail
 | .st ks,d=>bif d.cI then fZ st ks (qh d)else .fail
 | .mclo f ms,d=>match d with
  | .qW f' l=>bif Nat.beq f f' then Xt ms l else .fail
  | _=>.fail
def tM:List (Nat×Nat)->List D->Bool
 | [],[]=>true
 | p::r,.ptr b off::ds=>Nat.beq p.1 b&&Nat.beq p.2 off&&tM r ds
 | _,_=>false
def Wy(st:St):Ck->D->T Unit
 | .ptr b off,d=>match d with | .ptr b' off'=>bif Nat.beq b b'&&Nat.beq off off' then .ret ()else .fail | _=>.fail
 | .cur b e,d=>match d with
  | .ms b' qy e' off len=>bif Nat.beq b b'&&decide (e=e')then .zL (uq qy off len (ba st b)) (.ret ())else .fail
  | _=>.fail
 | .xp,d=>match d with | .xp=>.ret () | _=>.fail
 | .kP,d=>match d with | .kP=>.ret () | _=>.fail
 | .qT,d=>match d with | .qT=>.ret () | _=>.fail
 | .qW f l,d=>match d with | .qW f' l'=>bif Nat.beq f f'&&tM l l' then .ret ()else .fail | _=>.fail
def z1t(fr:Fr)(st:St):List (Nat×Ck)->T Unit
 | []=>.ret ()
 | p::r=>match fr.get p.1 with
  | some d=>(Wy st p.2 d).bind λ_=>z1t fr st r
  | none=>.fail
def Rj(e:Ty)(b:kG):T (List (den e)):=match b with
 | .arr qy _ xs=>match(wO (a:=.sl _) (b:=.sl e) xs:Option (List (den e)))with
  | some ys=>.zL (qy=ys.length) (.ret ys)
  | none=>.fail
 | _=>.fail
def Dk.plain:Dk->Bool
 | .zI _=>true
 | .qR _=>true
 | .st _=>true
 | _=>false
def SK(st:St)(k:Dk)(b:kG):T k.den:=match b with
 | .var d=>bif k.plain then tL st k d else .fail
 | _=>.fail
def Fv:kG->Bool | .var _=>true | _=>false
def JZ(st:St):List Bk->List kG->T (List kG)
 | [],_=>.ret []
 | .arr _::r,b::bl=>(JZ st r bl).bind λl=>.ret (b::l)
 | .var _::r,b::bl=>(JZ st r bl).bind λl=>.ret (b::l)
 | .cvar c::r,.var d::bl=>(Wy st c d).bind λ_=>JZ st r bl
 | .dead::r,b::bl=>bif Fv b then .fail else JZ st r bl
 | _,_=>.fail
def Be(fr:Fr)(st:St)(bl:List kG):(i:It)->T (i.den×List kG)
 | .s t k=>match fr.get t with | some d=>(tL st k d).bind λx=>.ret (x,bl) | none=>.fail
 | .v k=>match bl with | b::r=>(SK st k b).bind λx=>.ret (x,r) | []=>.fail
 | .a e=>match bl with | b::r=>(Rj e b).bind λx=>.ret (x,r) | []=>.fail
def BK{α:Type}(x:α×List kG):T α:=match x.2 with | []=>.ret x.1 | _=>.fail
def Yq(fr:Fr)(st:St):(l:List It)->List kG->T (wJ l)
 | [],bl=>BK ((),bl)
 | [i],bl=>(Be fr st bl i).bind BK
 | i::j::r,bl=>(Be fr st bl i).bind λx=>(Yq fr st (j::r) x.2).bind λy=>.ret (x.1,y)
def rowAt(bs:List Bk)(b:Nat):Bool:=match bs[b]? with | some (.arr _)=>true | _=>false
def XA(bs:List Bk)(b:Nat):Bool:=match bs[b]? with | some (.var _)=>true | some (.cvar _)=>true | _=>false
def z3C(bs:List Bk):Sk->Bool
 | .row b _=>rowAt bs b
 | .op b _=>XA bs b
 | _=>true
def z9L(bs:List Bk):Mc->Bool
 | .pt b=>XA bs b
 | _=>true
def CJ(bs:List Bk):Dk->Bool
 | .mclo _ ms=>ms.all (z9L bs)
 | .sub b _=>rowAt bs b
 | .st ks=>ks.all (z3C bs)
 | _=>true
def Ny(bs:List Bk):Ck->Bool
 | .ptr b _=>XA bs b
 | .cur b _=>rowAt bs b
 | .qW _ l=>l.all λp=>XA bs p.1
 | _=>true
def zfN(bs:List Bk):It->Bool
 | .s _ k=>CJ bs k
 | .v k=>CJ bs k
 | .a _=>true
def zfH(bs:List Bk):Bk->Bool
 | .cvar c=>Ny bs c
 | _=>true
def kinds:List It->List Bool
 | []=>[]
 | .s _ _::r=>kinds r
 | .v _::r=>false::kinds r
 | .a _::r=>true::kinds r
def yA:List Bk->List Bool->Bool
 | [],[]=>true
 | .arr _::bs,b::r=>b&&yA bs r
 | .var _::bs,b::r => !b&&yA bs r
 | .cvar _::bs,l=>yA bs l
 | .dead::bs,l=>yA bs l
 | _,_=>false
def vO.ok(s:vO):Bool:=yA s.bs (kinds s.nU)&&s.nU.all (zfN s.bs)&&s.cs.all (λp=>Ny s.bs p.2)&&s.bs.all (zfH s.bs)
def vO.un(s:vO)(fr:Fr)(st:St):T s.den :=
 bif s.ok&&(st.take s.bs.length).all (G7 s.bs.length)then(z1t fr st s.cs).bind λ_=>(JZ st s.bs st).bind λbl=>Yq fr st s.nU bl
 else .fail
structure Way where
 ex:Ex
 sh:vO
def gC:List Way->Type
 | []=>Empty
 | [w]=>w.sh.den
 | w::v::r=>w.sh.den⊕gC (v::r)
def Ij{α:Type}:(l:List Way)->gC l->(Ex->Fr->St->T α)->T α
 | [],x,_=>nomatch x
 | [w],x,k=>k w.ex (w.sh.fr x) (w.sh.st x)
 | w::v::r,x,k=>Sum.elim (λa=>k w.ex (w.sh.fr a) (w.sh.st a)) (λb=>Ij (v::r) b k) x
def om:Ex->Ex->Bool
 | .normal,.normal=>true
 | .ret,.ret=>true
 | .exit a,.exit b=>Nat.beq a b
 | .kz (.iface t _),.kz (.iface t' _)=>Nat.beq t t'
 | _,_=>false
def JP:Ex->Fr->Fr
 | .kz (.iface _ d),_=>[(0,some d)]
 | _,fr=>fr
def CV:Ex->Fr->Option (Ex×Fr)
 | .kz (.iface t _),fr=>match fr.get 0 with | some d=>some (.kz (.iface t d),[]) | none=>none
 | .kz _,_=>none
 | e,fr=>some (e,fr)
def GH:(l:List Way)->Ex->Fr->St->T (gC l)
 | [],_,_,_=>.fail
 | [w],ex,fr,st=>bif om w.ex ex then w.sh.un fr st else .fail
 | w::v::r,ex,fr,st=>bif om w.ex ex then(w.sh.un fr st).bind λx=>.ret (.inl x)else(GH (v::r) ex fr st).bind λy=>.ret (.inr y)
end Go.AM
namespace Go.AM
set_option linter.unusedSectionVars false
variable [vQ] [Kl]
section
variable {c:Ctx} {n:Nat}
theorem get_mem:∀ {l:Fr} {s:Nat} {d:D},l.get s=some d->(s,some d)∈l
 | [],s,d,h=>by cases h
 | (t,d')::r,s,d,h=>by
  simp only[Fr.get]at h
  cases ht:Nat.beq t s with
  | true =>
   rw[ht,cond_true]at h
   rw[Nat.eq_of_beq_eq_true ht,h]
   simp
  | false=>rw[ht,cond_false]at h; exact List.mem_cons_of_mem _ (get_mem h)
theorem get_append{l m:Fr}{s:Nat}{d:D}(h:(l++m).get s=some d):(s,some d)∈l\/m.get s=some d:=by
 induction l with
 | nil=>grind
 | cons p r ih =>
  obtain⟨t,d'⟩:=p
  simp only[List.cons_append,Fr.get]at h
  cases ht:Nat.beq t s with
  | true=>rw[ht,cond_true]at h; rw[Nat.eq_of_beq_eq_true ht,h]; exact .inl List.mem_cons_self
  | false=>grind
structure Wk(κ κ':KS):Prop where
 w:κ'.w=κ.w
 ok:κ'.ok=κ.ok
 ph:κ'.ph=κ.ph
 len:κ'.st.length=κ.st.length
 var:∀ (b:Nat) (d:D),κ.st[b]? = some (kG.var d)->∃ d',κ'.st[b]? = some (kG.var d')
 arr:∀ (b v:Nat) (e:Ty) (xs:List (den e)),κ.st[b]? = some (kG.arr v e xs)->κ'.st[b]? = some (kG.arr v e xs)\/κ'.st[b]? = some kG.dead
 arr':∀ (b v:Nat) (e:Ty) (xs:List (den e)),κ'.st[b]? = some (kG.arr v e xs)->κ.st[b]? = some (kG.arr v e xs)
 dead:∀ (b:Nat),κ.st[b]? = some kG.dead->κ'.st[b]? = some kG.dead
theorem Wk.ext{κ κ':KS}(h:Wk κ κ'):Ext κ κ':=by
 refine⟨by rw[h.w],by rw[h.w],by rw[h.w],by rw[h.w]; exact Nat.le_refl _,λk hk=>⟨by rw[h.ok]; exact hk,by rw[h.w]⟩,λk hk=>.inl (by rw[<- h.ok]; exact hk),
  λb blk m hb=>.inl (by rw[<- h.ph]; exact hb),λb d hd=>⟨h.var b d hd,by rw[h.ph]⟩,λb v0 e xs hb => ?_,h.dead,by rw[h.len]; exact Nat.le_refl _,λk _ _=>by rw[h.w]⟩
 rcases h.arr b v0 e xs hb with g | g
 ·exact .inr ⟨v0,xs,g,Nat.le_refl _,λ_=>⟨by rw[h.ph],rfl⟩⟩
 ·grind
theorem Wk.rd{κ κ':KS}(h:Wk κ κ'){d:D}{v:Value}(hd:RD κ d v):RD κ' d v:=hd.mono h.ext
theorem Wk.inv{κ κ':KS}(h:Wk κ κ')(hI:Inv κ)(hv:∀ (b:Nat) (d:D),κ'.st[b]? = some (kG.var d)->dT κ' b (.var d)):Inv κ':=by
 refine⟨by rw[h.ph,h.len]; exact hI.len,λk hk=>by rw[h.w]; exact hI.yw k (by rw[<- h.ok]; exact hk),λb blk m hb => ?_,λb b' blk m m' hb Hs=>hI.inj b b' blk m m' (by rw[<- h.ph]; exact hb) (by rw[<- h.ph]; exact Hs),λb x hx => ?_,hI.gl.mono h.ext.same⟩
 ·obtain⟨g1,g2⟩:=hI.apart b blk m (by rw[<- h.ph]; exact hb)
  exact⟨by rw[h.w]; exact g1,λhk=>g2 (by rw[<- h.ok]; exact hk)⟩
 ·cases x with
  | dead=>trivial
  | var d=>grind
  | arr v e xs=>exact(hI.blk b _ (h.arr' b v e xs hx)).mono h.ext (by rw[h.ph]) λblk m _=>by rw[h.w]
theorem Uh{p:QV}{d:D}{x:den p.ty}(h:Lj p d=some x){κ:KS}{v:Value}(hd:RD κ d v):RD κ (YN p x) v:=by
 cases p with
 | rp τ =>
  cases d<;>simp only[Lj]at h<;>try (cases h; done)
  obtain⟨e,hx⟩:=qj h
  cases e
  cases hx
  exact hd
 | im τ=>exact bO hd h
theorem XW{κ:KS}:∀ (l:List QV) (ds:List D) (x:gY l) (vs:List Value),DQ l ds=some x->qD κ ds vs->qD κ (lR l x) vs
 | [],[],x,vs,_,hd=>by rw[hd.qg]; exact .nil
 | [],_::_,_,_,h,_=>nomatch h
 | [p],[],_,_,h,_=>nomatch h
 | [p],[d],x,vs,h,hd=>by
  obtain⟨v,us,rfl,h1,h2⟩:=hd.cons_inv
  rw[h2.qg]
  exact .cons (Uh h h1) .nil
 | [p],_::_::_,_,_,h,_=>nomatch h
 | p::q::r,[],_,_,h,_=>nomatch h
 | p::q::r,d::ds,x,vs,h,hd=>by
  obtain⟨y,hy,h⟩:=Option.bind_eq_some_iff.1 h
  obtain⟨z,hz,h⟩:=Option.bind_eq_some_iff.1 h
  cases h
  obtain⟨v,us,rfl,h1,h2⟩:=hd.cons_inv
  exact .cons (Uh hy h1) (XW (q::r) ds z us hz h2)
theorem OV{κ:KS}{d:D}{v:Value}(hd:RD κ d v)(ha:d.cI=true):∃ c,v=.agg c:=by
 cases hd with
 | zI τ x cs h=>exact⟨cs.toArray,by unfold pk; rw[show τ.isAgg=true from ha]; rfl⟩
 | agg l vs hl ho h=>simp
 | _=>cases ha
theorem z3p{κ:KS}{b T:Nat}{ds q:List D}{vs:List Value}(hd:qD κ ds vs)(h:RE κ.st b T ds=some q):∃ v us,vs=v::us/\RD κ (.kN b T) v/\qD κ q us:=by
 unfold RE at h
 split at h
 ·rename_i d0 V4
  split at h
  ·rename_i T' ds
   cases hb:Nat.beq T T' with
   | false=>grind
   | true =>
    rw[hb]at h
    cases h
    obtain⟨v,us,rfl,g1,g2⟩:=hd.cons_inv
    exact⟨v,us,rfl,by cases g1; exact .c8 b T d0 V4,g2⟩
  ·rename_i b' T' ds
   cases hb:Nat.beq b b'&&Nat.beq T T' with
   | false=>grind
   | true =>
    simp only[Bool.and_eq_true]at hb
    have e1:=Nat.eq_of_beq_eq_true hb.1
    have e2:=Nat.eq_of_beq_eq_true hb.2
    obtain⟨v,us,rfl,g1,g2⟩:=hd.cons_inv
    grind
  ·cases h
 ·cases h
theorem E0{st:St}{b T:Nat}{ds q:List D}(h:RE st b T ds=some q):gA ds=some T:=by
 unfold RE at h
 split at h
 ·split at h
  ·rename_i T' ds
   cases hb:Nat.beq T T' with
   | false=>grind
   | true=>rw[Nat.eq_of_beq_eq_true hb]; rfl
  ·rename_i b' T' ds
   cases hb:Nat.beq b b'&&Nat.beq T T' with
   | false=>grind
   | true =>
    simp only[Bool.and_eq_true]at hb
    rw[Nat.eq_of_beq_eq_true hb.2]; rfl
  ·cases h
 ·cases h
theorem z2e{κ:KS}{ds q:List D}{vs:List Value}(hd:qD κ ds vs)(h:z7i ds=some q):∃ v us,vs=v::us/\RD κ .sG v/\qD κ q us:=by
 unfold z7i at h
 split at h
 ·rename_i d ds
  cases hb:d.one with
  | false=>grind
  | true =>
   rw[hb]at h
   cases h
   obtain⟨v,us,rfl,g1,g2⟩:=hd.cons_inv
   exact⟨v,us,rfl,.sG v (g1.WW hb),g2⟩
 ·cases h
theorem dq{κ:KS}{zt:St}{bs:List Bk}(JK:∀ b,rowAt bs b=true->xV zt b=ba κ.st b):∀ (ks:List Sk) (ds:List D) (x:cB ks) (vs:List Value),ks.all (z3C bs)=true->(fZ κ.st ks ds).leads x->qD κ ds vs ->
  qD κ (vb zt ks x) vs/\∀ d∈vb zt ks x,d.one=true
 | [],ds,x,vs,_,h,hd=>by
  cases ds with
  | nil=>exact⟨hd,λd hm=>by cases hm⟩
  | cons d r=>exact h.elim
 | .im τ::r,ds,x,vs,ho,h,hd=>by
  simp only[fZ]at h
  split at h
  ·rename_i p hp
   obtain⟨y,h1,h2⟩:=T.zd.1 h
   cases h2
   obtain⟨c1,c2,rfl,g1,g2⟩:=rq τ hd hp
   simp only[List.all_cons,Bool.and_eq_true]at ho
   obtain⟨k1,k2⟩:=dq JK r p.2 y c2 ho.2 h1 g2
   refine⟨(pA g1).append k1,λd hm => ?_⟩
   rcases List.mem_append.1 (show d∈flat τ p.1++vb zt r y from hm)with hm | hm
   ·exact dX τ _ d hm
   ·grind
  ·exact h.elim
 | .row b e::r,ds,x,vs,ho,h,hd=>by
  cases ds with
  | nil=>exact h.elim
  | cons d ds =>
   cases d<;>simp only[fZ]at h<;>try (exact h.elim)
   rename_i b' qy e' off len
   cases hb:Nat.beq b b'&&decide (e=e')with
   | false=>rw[hb]at h; exact h.elim
   | true =>
    rw[hb,cond_true]at h
    simp only[Bool.and_eq_true,decide_eq_true_eq]at hb
    obtain⟨⟨h1,h2,h3⟩,h⟩:=h
    have:=Nat.eq_of_beq_eq_true hb.1
    obtain⟨-,rfl⟩:=hb
    subst this
    obtain⟨v,us,rfl,g1,g2⟩:=hd.cons_inv
    simp only[List.all_cons,Bool.and_eq_true]at ho
    obtain⟨k1,k2⟩:=dq JK r ds x us ho.2 h g2
    have e1:vb zt (.row b e::r) x=.ms b qy e off len::vb zt r x:=by
     show D.ms b (xV zt b) e 0 (xV zt b)::_=_
     rw[JK b ho.1,h1,h2,h3]
    rw[e1]
    refine⟨.cons g1 k1,λd hm => ?_⟩
    rcases List.mem_cons.1 hm with rfl | hm
    ·rfl
    ·grind
 | .op b T::r,ds,x,vs,ho,h,hd=>by
  simp only[List.all_cons,Bool.and_eq_true]at ho
  simp only[fZ]at h
  split at h
  ·rename_i q hq
   obtain⟨v,us,rfl,g0,g2⟩:=z3p hd hq
   obtain⟨k1,k2⟩:=dq JK r q x us ho.2 h g2
   refine⟨show qD κ (D.kN b T::vb zt r x) (v::us)from .cons g0 k1,λd hm => ?_⟩
   rcases List.mem_cons.1 (show d∈D.kN b T::vb zt r x from hm)with rfl | hm
   ·rfl
   ·grind
  ·exact h.elim
 | .un::r,ds,x,vs,ho,h,hd=>by
  simp only[List.all_cons,Bool.and_eq_true]at ho
  simp only[fZ]at h
  split at h
  ·rename_i q hq
   obtain⟨v,us,rfl,g0,g2⟩:=z2e hd hq
   obtain⟨k1,k2⟩:=dq JK r q x us ho.2 h g2
   refine⟨show qD κ (D.sG::vb zt r x) (v::us)from .cons g0 k1,λd hm => ?_⟩
   rcases List.mem_cons.1 (show d∈D.sG::vb zt r x from hm)with rfl | hm
   ·rfl
   ·grind
  ·exact h.elim
theorem pO{st zt:St}{bs:List Bk}(h:∀ b,rowAt bs b=true->xV st b=xV zt b):∀ (ks:List Sk) (x:cB ks),ks.all (z3C bs)=true->vb st ks x=vb zt ks x
 | [],_,_=>rfl
 | .im τ::r,x,ho=>by
  simp only[List.all_cons,Bool.and_eq_true]at ho
  show flat τ x.1++vb st r x.2=flat τ x.1++vb zt r x.2
  rw[pO h r x.2 ho.2]
 | .row b e::r,x,ho=>by
  simp only[List.all_cons,Bool.and_eq_true]at ho
  show D.ms b (xV st b) e 0 (xV st b)::vb st r x=D.ms b (xV zt b) e 0 (xV zt b)::vb zt r x
  rw[pO h r x ho.2,h b ho.1]
 | .op b T::r,x,ho=>by
  simp only[List.all_cons,Bool.and_eq_true]at ho
  show D.kN b T::vb st r x=D.kN b T::vb zt r x
  rw[pO h r x ho.2]
 | .un::r,x,ho=>by
  simp only[List.all_cons,Bool.and_eq_true]at ho
  show D.sG::vb st r x=D.sG::vb zt r x
  rw[pO h r x ho.2]
theorem Vz:∀ (τ:Ty) (x:den τ),∀ y∈flat τ x,∃ σ z,y=.zI σ z:=by
 intro τ x y hy
 induction τ with
 | cons a b ia ib =>
  simp only[flat]at hy
  grind
 | nil=>simp[flat]at hy
 | expr=>simp[flat]at hy; rcases hy with rfl | rfl | rfl | rfl | rfl | rfl<;>exact⟨_,_,rfl⟩
 | _=>simp[flat]at hy; subst hy; exact⟨_,_,rfl⟩
theorem H3:∀ (τ:Ty) {ds:List D} {p:den τ×List D},jh τ ds=some p->τ.size=0->p.2=ds:=by
 intro τ
 induction τ with
 | nil=>intro ds p h _; simp only[jh,Option.some.injEq]at h; subst h; rfl
 | cons a b ia ib =>
  intro ds p h hz
  simp only[Ty.size]at hz
  simp only[jh]at h
  grind
 | _=>nofun
theorem XN{st zt:St}{tt:Nat}:∀ (ks:List Sk) (ds:List D) (x:cB ks),(fZ st ks ds).leads x->gA (vb zt ks x)=some tt->gA ds=some tt
 | [],ds,x,h,ht=>by cases ht
 | .im τ::r,ds,x,h,ht=>by
  simp only[fZ]at h
  split at h
  ·rename_i p hp
   obtain⟨y,h1,h2⟩:=T.zd.1 h
   cases h2
   have ht':gA (flat τ p.1++vb zt r y)=some tt:=ht
   cases hf:flat τ p.1 with
   | nil =>
    rw[hf]at ht'
    have hz:τ.size=0:=by rw[<- ZN τ p.1,hf]; rfl
    have:=H3 τ hp hz
    rw[<- this]
    exact XN r p.2 y h1 ht'
   | cons z zs =>
    rw[hf]at ht'
    obtain⟨σ,w,e⟩:=Vz τ p.1 z (by grind)
    rw[e]at ht'
    cases ht'
  ·exact h.elim
 | .row b e::r,ds,x,h,ht=>by cases ht
 | .op b T'::r,ds,x,h,ht=>by
  simp only[fZ]at h
  split at h
  ·rename_i q hq
   cases ht
   exact E0 hq
  ·exact h.elim
 | .un::r,ds,x,h,ht=>by cases ht
theorem Xw{d:D}{T:Nat}(ha:d.cI=true)(h:gA (qh d)=some T):d.typed=some T:=by
 cases d with
 | zI τ x =>
  simp only[qh]at h
  cases hf:flat τ x with
  | nil=>rw[hf]at h; cases h
  | cons z zs =>
   obtain⟨σ,w,e⟩:=Vz τ x z (by grind)
   rw[hf,e]at h
   cases h
 | agg l=>exact h
 | _=>cases ha
theorem Ge{m:Nat}(τ:Ty)(x:den τ):∀ d∈flat τ x,vL m d=true:=λd hd=>by
 obtain⟨σ,z,rfl⟩:=Vz τ x d hd
 rfl
theorem k9{m:Nat}{st:St}{bs:List Bk}(hb:∀ b,rowAt bs b=true->b<m)(Se:∀ b,XA bs b=true->b<m):∀ (ks:List Sk) (x:cB ks),ks.all (z3C bs)=true->∀ d∈vb st ks x,vL m d=true
 | [],_,_,d,hd=>by cases hd
 | .im τ::r,x,ho,d,hd=>by
  simp only[List.all_cons,Bool.and_eq_true]at ho
  rcases List.mem_append.1 (show d∈flat τ x.1++vb st r x.2 from hd)with hd | hd
  ·exact Ge τ _ d hd
  ·exact k9 hb Se r x.2 ho.2 d hd
 | .row b e::r,x,ho,d,hd=>by
  simp only[List.all_cons,Bool.and_eq_true]at ho
  rcases List.mem_cons.1 (show d∈D.ms b (xV st b) e 0 (xV st b)::vb st r x from hd)with rfl | hd
  ·have:=hb b ho.1
   simp only[vL,Nat.blt,Nat.ble_eq]; exact this
  ·exact k9 hb Se r x ho.2 d hd
 | .op b T::r,x,ho,d,hd=>by
  simp only[List.all_cons,Bool.and_eq_true]at ho
  rcases List.mem_cons.1 (show d∈D.kN b T::vb st r x from hd)with rfl | hd
  ·have:=Se b ho.1
   simp only[vL,Nat.blt,Nat.ble_eq]; exact this
  ·exact k9 hb Se r x ho.2 d hd
 | .un::r,x,ho,d,hd=>by
  simp only[List.all_cons,Bool.and_eq_true]at ho
  rcases List.mem_cons.1 (show d∈D.sG::vb st r x from hd)with rfl | hd
  ·rfl
  ·exact k9 hb Se r x ho.2 d hd
theorem rk{κ:KS}:∀ (ms:List Mc) (ds:List D) (x:mS ms) (vs:List Value),(Xt ms ds).leads x->qD κ ds vs->qD κ (sr ms x) vs
 | [],ds,x,vs,h,hd=>by
  cases ds with
  | nil=>exact hd
  | cons d r=>exact h.elim
 | .im τ::r,ds,x,vs,h,hd=>by
  cases ds with
  | nil=>exact h.elim
  | cons d ds =>
   simp only[Xt]at h
   split at h
   ·rename_i y hy
    obtain⟨z,h1,h2⟩:=T.zd.1 h
    cases h2
    obtain⟨v,us,rfl,g1,g2⟩:=hd.cons_inv
    exact .cons (bO g1 hy) (rk r ds z us h1 g2)
   ·exact h.elim
 | .rp τ::r,ds,x,vs,h,hd=>by
  cases ds with
  | nil=>exact h.elim
  | cons d ds =>
   cases d<;>simp only[Xt]at h<;>try (exact h.elim)
   split at h
   ·rename_i y hy
    obtain⟨e,hx⟩:=qj hy
    cases e
    cases hx
    obtain⟨z,h1,h2⟩:=T.zd.1 h
    cases h2
    obtain⟨v,us,rfl,g1,g2⟩:=hd.cons_inv
    exact .cons g1 (rk r ds z us h1 g2)
   ·exact h.elim
 | .pt b::r,ds,x,vs,h,hd=>by
  cases ds with
  | nil=>exact h.elim
  | cons d ds =>
   cases d<;>simp only[Xt]at h<;>try (exact h.elim)
   rename_i b' off
   cases hb:Nat.beq b b'&&Nat.beq off 0 with
   | false=>rw[hb]at h; exact h.elim
   | true =>
    rw[hb]at h
    simp only[Bool.and_eq_true]at hb
    have e1:=Nat.eq_of_beq_eq_true hb.1
    have e2:=Nat.eq_of_beq_eq_true hb.2
    subst e1 e2
    obtain⟨v,us,rfl,g1,g2⟩:=hd.cons_inv
    exact .cons g1 (rk r ds x us h g2)
theorem cY{m:Nat}{bs:List Bk}(hb:∀ b,XA bs b=true->b<m):∀ (ms:List Mc) (x:mS ms),ms.all (z9L bs)=true->∀ d∈sr ms x,vL m d=true
 | [],_,_,d,hd=>by cases hd
 | .im τ::r,x,ho,d,hd=>by
  simp only[List.all_cons,Bool.and_eq_true]at ho
  rcases List.mem_cons.1 (show d∈D.zI τ x.1::sr r x.2 from hd)with rfl | hd
  ·rfl
  ·exact cY hb r x.2 ho.2 d hd
 | .rp τ::r,x,ho,d,hd=>by
  simp only[List.all_cons,Bool.and_eq_true]at ho
  rcases List.mem_cons.1 (show d∈D.qR τ x.1::sr r x.2 from hd)with rfl | hd
  ·rfl
  ·exact cY hb r x.2 ho.2 d hd
 | .pt b::r,x,ho,d,hd=>by
  simp only[List.all_cons,Bool.and_eq_true]at ho
  rcases List.mem_cons.1 (show d∈D.ptr b 0::sr r x from hd)with rfl | hd
  ·have:=hb b ho.1
   simp only[vL,Nat.blt,Nat.ble_eq]; exact this
  ·exact cY hb r x ho.2 d hd
theorem Hq{κ κ':KS}(hw:Wk κ κ'){k:Dk}{d:D}{x:k.den}{v:Value}{bs:List Bk}(wg:CJ bs k=true)(JK:∀ b,rowAt bs b=true->xV κ'.st b=xV κ.st b)
  {zt:St} (xJ:∀ b,rowAt bs b=true->xV zt b=xV κ'.st b) (hlen:∀ b,rowAt bs b=true->xV κ.st b=ba κ.st b) (h:(tL κ.st k d).leads x) (hd:RD κ d v):RD κ' (sb zt k x) v:=by
 cases k with
 | zI τ=>exact hw.rd (bO hd (T.ua.1 h))
 | qR τ =>
  cases d<;>simp only[tL]at h<;>try (exact h.elim)
  obtain⟨e,hx⟩:=qj (T.ua.1 h)
  cases e
  cases hx
  exact hw.rd hd
 | sub b e =>
  cases d<;>simp only[tL]at h<;>try (exact h.elim)
  rename_i b' qy e' off len
  cases hb:Nat.beq b b'&&decide (e=e')with
  | false=>rw[hb]at h; exact h.elim
  | true =>
   rw[hb,cond_true]at h
   simp only[Bool.and_eq_true,decide_eq_true_eq]at hb
   obtain⟨hv,h⟩:=h
   cases h
   have:=Nat.eq_of_beq_eq_true hb.1
   obtain⟨-,rfl⟩:=hb
   subst this
   simp only[sb]
   rw[xJ b wg,JK b wg,<- hv]
   exact hw.rd hd
 | qW f caps =>
  cases d<;>simp only[tL]at h<;>try (exact h.elim)
  rename_i f' l
  cases hb:Nat.beq f f' with
  | false=>rw[hb]at h; exact h.elim
  | true =>
   rw[hb,cond_true]at h
   have:=Nat.eq_of_beq_eq_true hb
   subst this
   have hx:=T.ua.1 h
   cases hd with
   | qW _ _ vs hl hh =>
    have:=XW caps l x vs hx (⟨hl,hh⟩:qD κ l vs)
    exact hw.rd (.qW f _ vs this.1 this.2)
 | st ks =>
  simp only[tL]at h
  cases ha:d.cI with
  | false=>rw[ha]at h; exact h.elim
  | true =>
   rw[ha]at h
   have ht:d.uE=false:=by cases d<;>first | rfl | (simp[D.cI]at ha)
   obtain⟨g1,g2⟩:=dq (zt:=zt) (λb hb=>(xJ b hb).trans ((JK b hb).trans (hlen b hb))) ks (qh d) x _ wg h (jb hd ht)
   obtain⟨c,hc⟩:=OV hd ha
   subst hc
   have g1':qD κ (vb zt ks x) c.toList:=g1
   have:=RD.agg (κ:=κ) _ c.toList g1'.1 g2 g1'.2
   exact hw.rd (show RD κ (.agg (vb zt ks x)) (.agg c) by simpa using this)
 | mclo f ms =>
  cases d<;>simp only[tL]at h<;>try (exact h.elim)
  rename_i f' l
  cases hb:Nat.beq f f' with
  | false=>rw[hb]at h; exact h.elim
  | true =>
   rw[hb]at h
   have:=Nat.eq_of_beq_eq_true hb
   subst this
   cases hd with
   | qW _ _ vs hl hh =>
    have:=rk ms l x vs h (⟨hl,hh⟩:qD κ l vs)
    exact hw.rd (show RD κ (.qW f (sr ms x)) _ from .qW f _ vs this.1 this.2)
theorem Yu:∀ {l:List (Nat×Nat)} {ds:List D},tM l ds=true->ds=l.map λp=>.ptr p.1 p.2
 | [],[],_=>rfl
 | [],_::_,h=>by simp[tM]at h
 | p::r,[],h=>by simp[tM]at h
 | p::r,d::ds,h=>by
  cases d<;>simp only[tM]at h<;>try (cases h; done)
  simp only[Bool.and_eq_true]at h
  rw[Yu h.2,<- Nat.eq_of_beq_eq_true h.1.1,<- Nat.eq_of_beq_eq_true h.1.2]
  rfl
theorem z2k{st zt:St}{ck:Ck}{d:D}{bs:List Bk}(wg:Ny bs ck=true)(JK:∀ b,rowAt bs b=true->xV zt b=ba st b)(h:(Wy st ck d).leads ()):C4 zt ck=d:=by
 cases ck with
 | ptr b off =>
  cases d<;>simp only[Wy]at h<;>try (exact h.elim)
  rename_i b' off'
  cases hb:Nat.beq b b'&&Nat.beq off off' with
  | false=>rw[hb]at h; exact h.elim
  | true =>
   simp only[Bool.and_eq_true]at hb
   rw[<- Nat.eq_of_beq_eq_true hb.1,<- Nat.eq_of_beq_eq_true hb.2]
   rfl
 | cur b e =>
  cases d<;>simp only[Wy]at h<;>try (exact h.elim)
  rename_i b' qy e' off len
  cases hb:Nat.beq b b'&&decide (e=e')with
  | false=>rw[hb]at h; exact h.elim
  | true =>
   rw[hb,cond_true]at h
   simp only[Bool.and_eq_true,decide_eq_true_eq]at hb
   obtain⟨⟨h1,h2,h3⟩,_⟩:=h
   have:=Nat.eq_of_beq_eq_true hb.1
   obtain⟨-,rfl⟩:=hb
   subst this
   simp only[C4]
   rw[JK b wg,h1,h2,h3]
 | xp=>cases d<;>simp only[Wy]at h<;>first | rfl | exact h.elim
 | kP=>cases d<;>simp only[Wy]at h<;>first | rfl | exact h.elim
 | qT=>cases d<;>simp only[Wy]at h<;>first | rfl | exact h.elim
 | qW f l =>
  cases d<;>simp only[Wy]at h<;>try (exact h.elim)
  rename_i f' l'
  cases hb:Nat.beq f f'&&tM l l' with
  | false=>rw[hb]at h; exact h.elim
  | true =>
   simp only[Bool.and_eq_true]at hb
   rw[<- Nat.eq_of_beq_eq_true hb.1,Yu hb.2]
   rfl
theorem Bv{fr:Fr}{st:St}:∀ {cs:List (Nat×Ck)},(z1t fr st cs).leads ()->∀ p∈cs,∃ d,fr.get p.1=some d/\(Wy st p.2 d).leads ()
 | [],_,p,hp=>by cases hp
 | q::r,h,p,hp=>by
  simp only[z1t]at h
  split at h
  ·rename_i d hd
   simp only[T.zC]at h
   obtain⟨⟨⟩,h1,h2⟩:=h
   rcases List.mem_cons.1 hp with rfl | hp
   ·grind
   ·exact Bv h2 p hp
  ·exact h.elim
def Ni(p:Dk->Bool)(st:St):List kG->List Bd->Prop
 | [],[]=>True
 | b::bl,.a e xs::r=>b=.arr xs.length e xs/\Ni p st bl r
 | b::bl,.v k x::r=>(∃ d,b=.var d/\(k.plain=true/\p k=true)/\(tL st k d).leads x)/\Ni p st bl r
 | _,_=>False
theorem z0n{e:Ty}{b:kG}{x:List (den e)}(h:(Rj e b).leads x):b=.arr x.length e x:=by
 unfold Rj at h
 split at h
 ·split at h
  ·rename_i ys hy
   obtain⟨h1,h2⟩:=h
   cases h2
   obtain⟨he,hx⟩:=qj hy
   grind
  ·exact h.elim
 ·exact h.elim
theorem z0g{st:St}{k:Dk}{b:kG}{x:k.den}(h:(SK st k b).leads x):∃ d,b=.var d/\k.plain=true/\(tL st k d).leads x:=by
 cases b with
 | var d =>
  simp only[SK]at h
  cases hp:k.plain with
  | false=>rw[hp]at h; exact h.elim
  | true=>grind
 | _=>exact h.elim
def Kj(st:St):(i:It)->i.den->Fr
 | .s t k,x=>[(t,some (sb st k x))]
 | .v _,_=>[]
 | .a _,_=>[]
def RA:(i:It)->i.den->List Bd
 | .s _ _,_=>[]
 | .v k,x=>[.v k x]
 | .a e,x=>[.a e x]
theorem JB(st:St)(i:It)(x:i.den):eR st [i] x=Kj st i x:=by cases i<;>rfl
theorem X8(st:St)(i j:It)(r:List It)(x:i.den×wJ (j::r)):eR st (i::j::r) x=Kj st i x.1++eR st (j::r) x.2:=by cases i<;>rfl
theorem S9(i:It)(x:i.den):mn [i] x=RA i x:=by cases i<;>rfl
theorem MO(i j:It)(r:List It)(x:i.den×wJ (j::r)):mn (i::j::r) x=RA i x.1++mn (j::r) x.2:=by cases i<;>rfl
def z8P(fr:Fr)(st zt:St)(l:List It)(p:Nat×Option D):Prop:=∃ (k:Dk) (y:k.den) (d:D),(It.s p.1 k)∈l/\fr.get p.1=some d/\(tL st k d).leads y/\p.2=some (sb zt k y)
theorem Ly{p:Dk->Bool}{fr:Fr}{st zt:St}{bl:List kG}{i:It}{x:i.den×List kG}(hp:∀ k,i=.v k->p k=true)(h:(Be fr st bl i).leads x) :
  (∀ bd,Ni p st x.2 bd->Ni p st bl (RA i x.1++bd))/\∀ p∈Kj zt i x.1,z8P fr st zt [i] p:=by
 cases i with
 | s t k =>
  simp only[Be]at h
  split at h
  ·rename_i d hd
   rw[T.zC]at h
   obtain⟨y,h1,rfl⟩:=h
   refine⟨λbd hb=>hb,λp hp => ?_⟩
   simp only[Kj,List.mem_singleton]at hp
   subst hp
   exact⟨k,y,d,by simp,hd,h1,rfl⟩
  ·exact h.elim
 | v k =>
  cases bl with
  | nil=>exact h.elim
  | cons b r =>
   simp only[Be]at h
   rw[T.zC]at h
   obtain⟨y,h1,rfl⟩:=h
   obtain⟨d,q1,q2,q3⟩:=z0g h1
   exact⟨λbd hb=>⟨⟨d,q1,⟨q2,hp k rfl⟩,q3⟩,hb⟩,λp hp=>by cases hp⟩
 | a e =>
  cases bl with
  | nil=>exact h.elim
  | cons b r =>
   simp only[Be]at h
   rw[T.zC]at h
   obtain⟨y,h1,rfl⟩:=h
   exact⟨λbd hb=>⟨z0n h1,hb⟩,λp hp=>by cases hp⟩
theorem Cm{α:Type}{x:α×List kG}{y:α}(h:(BK x).leads y):x=(y,[]):=by
 obtain⟨a,bl⟩:=x
 cases bl with
 | nil=>cases h; rfl
 | cons=>exact h.elim
theorem Q5{p:Dk->Bool}{fr:Fr}{st zt:St}:∀ (l:List It) (bl:List kG) (x:wJ l),(∀ k,It.v k∈l->p k=true)->(Yq fr st l bl).leads x ->
  Ni p st bl (mn l x)/\∀ p∈eR zt l x,z8P fr st zt l p
 | [],bl,x,_,h=>by
  have h':(BK ((),bl)).leads x:=h
  have:=Cm h'
  cases this
  exact⟨trivial,λp hp=>by cases hp⟩
 | [i],bl,x,hp,h=>by
  have h':((Be fr st bl i).bind BK).leads x:=h
  obtain⟨y,h1,h2⟩:=T.zd.1 h'
  have:=Cm h2
  subst this
  obtain⟨g1,g2⟩:=Ly (p:=p) (zt:=zt) (λk hk=>hp k (by grind)) h1
  have e1:mn [i] x=RA i x:=S9 i x
  have e2:eR zt [i] x=Kj zt i x:=JB zt i x
  have:=g1 [] trivial
  grind
 | i::j::r,bl,x,hp,h=>by
  have h':((Be fr st bl i).bind λx=>(Yq fr st (j::r) x.2).bind λy=>T.ret (x.1,y)).leads x:=h
  obtain⟨y,h1,h2⟩:=T.zd.1 h'
  obtain⟨z,h3,h4⟩:=T.zd.1 h2
  cases h4
  obtain⟨g1,g2⟩:=Ly (p:=p) (zt:=zt) (λk hk=>hp k (by grind)) h1
  obtain⟨k1,k2⟩:=Q5 (p:=p) (zt:=zt) (j::r) y.2 z (λk hk=>hp k (List.mem_cons_of_mem _ hk)) h3
  have e1:mn (i::j::r) (y.1,z)=RA i y.1++mn (j::r) z:=MO i j r (y.1,z)
  have e2:eR zt (i::j::r) (y.1,z)=Kj zt i y.1++eR zt (j::r) z:=X8 zt i j r (y.1,z)
  rw[e1,e2]
  refine⟨g1 _ k1,λp hp => ?_⟩
  rcases List.mem_append.1 hp with hp | hp
  ·obtain⟨k,w,d,q1,q2⟩:=g2 p hp
   exact⟨k,w,d,by grind,q2⟩
  ·obtain⟨k,w,d,q1,q2⟩:=k2 p hp
   exact⟨k,w,d,List.mem_cons_of_mem _ q1,q2⟩
inductive YH(p:Dk->Bool)(st zt:St):Bk->kG->kG->Prop
 | arr (e e':Ty) (xs:List (den e)):YH p st zt (.arr e') (.arr xs.length e xs) (.arr xs.length e xs)
 | var (k k':Dk) (d:D) (x:k.den) (hp:k.plain=true/\p k=true) (h:(tL st k d).leads x):YH p st zt (.var k') (.var d) (.var (sb zt k x))
 | cvar (ck:Ck) (d:D) (h:(Wy st ck d).leads ()):YH p st zt (.cvar ck) (.var d) (.var (C4 zt ck))
 | dead (b:kG) (h:Fv b=false):YH p st zt .dead b .dead
def bS:List Bd->List Bool
 | []=>[]
 | .v _ _::r=>false::bS r
 | .a _ _::r=>true::bS r
theorem mm:∀ (l:List It) (x:wJ l),bS (mn l x)=kinds l
 | [],_=>rfl
 | [.s _ _],_=>rfl
 | [.v _],_=>rfl
 | [.a _],_=>rfl
 | .s _ _::j::r,x=>mm (j::r) x.2
 | .v _::j::r,x=>congrArg (false :: ·) (mm (j::r) x.2)
 | .a _::j::r,x=>congrArg (true :: ·) (mm (j::r) x.2)
theorem Qk{p:Dk->Bool}{st st0:St}:∀ {bs:List Bk} {blocks bl:List kG} {bd:List Bd},(JZ st bs blocks).leads bl->Ni p st bl bd->yA bs (bS bd)=true ->
  (vI st0 bs bd).length=bs.length/\(∀ b,rowAt bs b=true->xV (gi bs bd) b=ba blocks b/\xV (vI st0 bs bd) b=ba blocks b/\xV blocks b=ba blocks b) /\
  ∀ (i:Nat) (k:Bk),bs[i]? = some k->∃ B B',blocks[i]? = some B/\(vI st0 bs bd)[i]? = some B'/\YH p st st0 k B B'
 | [],blocks,bl,bd,h,hb,ho=>by
  refine⟨by simp[vI],λb hb=>by simp[rowAt]at hb,λi k hk=>by simp at hk⟩
 | k::r,[],bl,bd,h,hb,ho=>by cases k<;>exact h.elim
 | .arr e::r,b::blocks,bl,bd,h,hb,ho=>by
  simp only[JZ,T.zC]at h
  obtain⟨l,h1,rfl⟩:=h
  cases bd with
  | nil=>exact hb.elim
  | cons q bd =>
   cases q with
   | v k x=>simp[bS,yA]at ho
   | a e' xs =>
    obtain⟨rfl,BU⟩:=hb
    simp only[bS,yA,Bool.true_and]at ho
    obtain⟨g1,g2,g3⟩:=Qk (st0:=st0) h1 BU ho
    refine⟨by simp[vI,g1],λb hb => ?_,λi k hk => ?_⟩
    ·cases b with
     | zero=>simp[gi,vI,xV,z9m,ba]
     | succ b=>have:=g2 b (by simpa[rowAt]using hb); simpa[gi,vI,xV,ba]using this
    ·cases i with
     | zero=>simp at hk; subst hk; exact⟨_,_,rfl,rfl,.arr e' e xs⟩
     | succ i=>simpa[vI]using g3 i k (by simpa using hk)
 | .var k0::r,b::blocks,bl,bd,h,hb,ho=>by
  simp only[JZ,T.zC]at h
  obtain⟨l,h1,rfl⟩:=h
  cases bd with
  | nil=>exact hb.elim
  | cons q bd =>
   cases q with
   | a e' xs=>simp[bS,yA]at ho
   | v k x =>
    obtain⟨⟨d,rfl,hp,hd⟩,BU⟩:=hb
    simp only[bS,yA,Bool.not_false,Bool.true_and]at ho
    obtain⟨g1,g2,g3⟩:=Qk (st0:=st0) h1 BU ho
    refine⟨by simp[vI,g1],λb hb => ?_,λi k hk => ?_⟩
    ·cases b with
     | zero=>simp[rowAt]at hb
     | succ b=>have:=g2 b (by simpa[rowAt]using hb); simpa[gi,vI,xV,ba]using this
    ·cases i with
     | zero=>simp at hk; subst hk; exact⟨_,_,rfl,rfl,.var k k0 d x hp hd⟩
     | succ i=>simpa[vI]using g3 i k (by simpa using hk)
 | .cvar ck::r,b::blocks,bl,bd,h,hb,ho=>by
  cases b with
  | var d =>
   simp only[JZ,T.zC]at h
   obtain⟨⟨⟩,h0,h1⟩:=h
   have OG:yA r (bS bd)=true:=by cases bd<;>simpa[yA]using ho
   obtain⟨g1,g2,g3⟩:=Qk (st0:=st0) h1 hb OG
   have e1:vI st0 (.cvar ck::r) bd=.var (C4 st0 ck)::vI st0 r bd:=by cases bd<;>rfl
   have e0:gi (.cvar ck::r) bd=.dead::gi r bd:=by cases bd<;>rfl
   rw[e0,e1]
   refine⟨by simp[g1],λb hb => ?_,λi k hk => ?_⟩
   ·cases b with
    | zero=>simp[rowAt]at hb
    | succ b=>have:=g2 b (by simpa[rowAt]using hb); simpa[xV,ba]using this
   ·cases i with
    | zero=>simp at hk; subst hk; exact⟨_,_,rfl,rfl,.cvar ck d h0⟩
    | succ i=>grind
  | _=>exact h.elim
 | .dead::r,b::blocks,bl,bd,h,hb,ho=>by
  simp only[JZ]at h
  cases hv:Fv b with
  | true=>rw[hv]at h; exact h.elim
  | false =>
   rw[hv,cond_false]at h
   have OG:yA r (bS bd)=true:=by cases bd<;>simpa[yA]using ho
   obtain⟨g1,g2,g3⟩:=Qk (st0:=st0) h hb OG
   have e1:vI st0 (.dead::r) bd=.dead::vI st0 r bd:=by cases bd<;>rfl
   have e0:gi (.dead::r) bd=.dead::gi r bd:=by cases bd<;>rfl
   rw[e0,e1]
   refine⟨by simp[g1],λb hb => ?_,λi k hk => ?_⟩
   ·cases b with
    | zero=>simp[rowAt]at hb
    | succ b=>have:=g2 b (by simpa[rowAt]using hb); simpa[xV,ba]using this
   ·cases i with
    | zero=>simp at hk; subst hk; exact⟨_,_,rfl,rfl,.dead b hv⟩
    | succ i=>grind
inductive Refs(m:Nat):D->Prop
 | zI (τ:Ty) (x:AM.den τ):Refs m (.zI τ x)
 | tight (e:Ty) (l:List (AM.den e)) (ne:Bool):Refs m (.tight e l ne)
 | xp:Refs m .xp
 | kP:Refs m .kP
 | qT:Refs m .qT
 | vR:Refs m .vR
 | vP:Refs m .vP
 | sG:Refs m .sG
 | c6 (T:Nat):Refs m (.c6 T)
 | kN (b T:Nat) (h:b<m):Refs m (.kN b T)
 | ptr (b off:Nat) (h:b<m):Refs m (.ptr b off)
 | qR (τ:Ty) (x:AM.den τ):Refs m (.qR τ x)
 | ui (b qy:Nat) (e:Ty) (idx off:Nat) (h:b<m):Refs m (.ui b qy e idx off)
 | ms (b qy:Nat) (e:Ty) (off len:Nat) (h:b<m):Refs m (.ms b qy e off len)
 | qW (f:Nat) (l:List D) (h:∀ i (hi:i<l.length),Refs m l[i]):Refs m (.qW f l)
 | agg (l:List D) (h:∀ i (hi:i<l.length),Refs m l[i]):Refs m (.agg l)
 | yC (l:List D) (h:∀ i (hi:i<l.length),Refs m l[i]):Refs m (.yC l)
 | iface (t:Nat) (d:D) (h:Refs m d):Refs m (.iface t d)
theorem Refs.mono{m m':Nat}(hm:m<=m'){d:D}(h:Refs m d):Refs m' d:=by
 induction h with
 | ptr b off h=>exact .ptr b off (by omega)
 | kN b T h=>exact .kN b T (by omega)
 | ui b qy e idx off h=>exact .ui b qy e idx off (by omega)
 | ms b qy e off len h=>exact .ms b qy e off len (by omega)
 | qW f l h ih=>exact .qW f l ih
 | agg l h ih=>exact .agg l ih
 | yC l h ih=>exact .yC l ih
 | iface t d h ih=>exact .iface t d ih
 | _=>constructor
theorem z1U{κ:KS}{m:Nat}{d:D}{v:Value}(h:RD κ d v)(hr:Refs m d):RD (κ.cut m) d v:=by
 induction h with
 | zI τ y cs h=>exact .zI τ y cs h
 | xb e a=>exact .xb e a
 | tight e l ne blk off f vJ wg h hc=>exact .tight e l ne blk off f vJ wg h hc
 | xp=>exact .xp
 | kP=>exact .kP
 | qT=>exact .qT
 | vR=>exact .vR
 | vP=>exact .vP
 | sG v h=>exact .sG v h
 | c6 T=>exact .c6 T
 | c8 b T d hb=>cases hr with | kN _ _ qs=>exact da (.c8 b T d hb) (by simp only[vL,Nat.blt,Nat.ble_eq]; exact qs)
 | bU b T blk n d hb h=>cases hr with | kN _ _ qs=>exact da (.bU b T blk n d hb h) (by simp only[vL,Nat.blt,Nat.ble_eq]; exact qs)
 | ptr b off blk n d hb h=>cases hr with | ptr _ _ qs=>exact da (.ptr b off blk n d hb h) (by simp only[vL,Nat.blt,Nat.ble_eq]; exact qs)
 | qR τ y cs blk off wg h hc=>exact .qR τ y cs blk off wg h hc
 | ui b qy e idx off blk o hb h=>cases hr with | ui _ _ _ _ _ qs=>exact da (.ui b qy e idx off blk o hb h) (by simp only[vL,Nat.blt,Nat.ble_eq]; exact qs)
 | ms b qy e off len cap a hb wY ha pC h=>cases hr with | ms _ _ _ _ _ qs=>exact da (.ms b qy e off len cap a hb wY ha pC h) (by simp only[vL,Nat.blt,Nat.ble_eq]; exact qs)
 | qW f l vs hl h ih=>cases hr with | qW _ _ hh=>exact .qW f l vs hl λi h1 h2=>ih i h1 h2 (hh i h1)
 | agg l vs hl ho h ih=>cases hr with | agg _ hh=>exact .agg l vs hl ho λi h1 h2=>ih i h1 h2 (hh i h1)
 | yC l vs hl h ih=>cases hr with | yC _ hh=>exact .yC l vs hl λi h1 h2=>ih i h1 h2 (hh i h1)
 | iface t d v h ih=>cases hr with | iface _ _ hh=>exact .iface t d v (ih hh)
theorem Gk{a b:Nat}(h:a<b):Nat.blt a b=true:=by
 simp; exact h
theorem RN{κ κe:KS}{m:Nat}(hx:Ext κ κe)(hm:κ.st.length<=m):Ext κ (κe.cut m):=by
 have qs:∀ b x,κ.st[b]? = some x->b<m:=λb x h=>Nat.lt_of_lt_of_le (List.getElem?_eq_some_iff.1 h).1 hm
 have YJ:∀ b,b<m->(κe.cut m).ph[b]? = κe.ph[b]? := λb hb=>by simp only[KS.cut]; rw[List.getElem?_take,if_pos hb]
 refine⟨hx.os,hx.tape,hx.output,hx.size,hx.same,hx.fresh,λb blk n h=>hx.phs b blk n (gv h).1,λb d h => ?_,λb v0 e xs h => ?_,λb h=>qe (hx.dead b h) (qs b _ h),?_,hx.frame⟩
 ·obtain⟨⟨d',h1⟩,h2⟩:=hx.var b d h
  exact⟨⟨d',qe h1 (qs b _ h)⟩,(YJ b (qs b _ h)).trans h2⟩
 ·rcases hx.arr b v0 e xs h with h1 | ⟨v1,x1,h1,h2,h3⟩
  ·exact .inl (qe h1 (qs b _ h))
  ·exact .inr ⟨v1,x1,qe h1 (qs b _ h),h2,λhe=>⟨(YJ b (qs b _ h)).trans (h3 he).1,(h3 he).2⟩⟩
 ·have:=hx.Dy
  simp[KS.cut]; omega
theorem vO.Zg{κ0 κ:KS}{fr:Fr}{a:Act}{sh:vO}{x:sh.den}(hx:Ext κ0 κ)(hI:Inv κ)(hR:Rel κ n fr.get a)(hl:κ0.st.length<=sh.bs.length)(h:(sh.un fr κ.st).leads x) :
  ∃ κ':KS,κ'.w=κ.w/\κ'.st=sh.st x/\Inv κ'/\Ext κ0 κ'/\Rel κ' n (sh.fr x).get a/\∀ (d:D) (v:Value),Refs sh.bs.length d->RD κ d v->RD κ' d v:=by
 unfold vO.un at h
 cases hc:sh.ok&&(κ.st.take sh.bs.length).all (G7 sh.bs.length)with
 | false=>rw[hc]at h; exact h.elim
 | true =>
  rw[hc,cond_true]at h
  simp only[Bool.and_eq_true,vO.ok,List.all_eq_true]at hc
  obtain⟨⟨⟨⟨zfl,zbV⟩,QP⟩,hbs⟩,Va⟩:=hc
  obtain⟨⟨⟩,h1,h⟩:=T.zd.1 h
  obtain⟨bl,h2,h3⟩:=T.zd.1 h
  have hIc:=z3r hI Va
  -- the store cut
  let m:=sh.bs.length
  obtain⟨g1,g2⟩:=Q5 (p:=CJ sh.bs) (zt:=sh.st x) sh.nU bl x (λk hk=>zbV _ hk) h3
  obtain⟨k1,k2,k3⟩:=Qk (st0:=gi sh.bs (mn sh.nU x)) h2 g1 ((congrArg (yA sh.bs) (mm sh.nU x)).trans zfl)
  have xJ:sh.st x=vI (gi sh.bs (mn sh.nU x)) sh.bs (mn sh.nU x):=rfl
  rw[<- xJ]at k1 k2 k3
  let κ':KS:={ κ.cut m with st:=sh.st x }
  have hm:m<=κ.st.length:=by
   rcases Nat.eq_zero_or_pos m with h0 | h0
   ·omega
   ·obtain⟨B,B',q1,_⟩:=k3 (m-1) (sh.bs[m-1]'(by show m-1<m; omega)) (by simp)
    grind
  have zfi:∀ i B,κ.st[i]? = some B->i<m->(κ.cut m).st[i]? = some B:=λi B hB hi=>qe hB hi
  have MY:(κ.cut m).st.length=m:=by simp[KS.cut]; omega
  have pair:∀ i,i<m->∃ k B B',sh.bs[i]? = some k/\(κ.cut m).st[i]? = some B/\κ'.st[i]? = some B'/\YH (CJ sh.bs) κ.st (gi sh.bs (mn sh.nU x)) k B B':=by
   intro i hi
   obtain⟨B,B',q1,q2,q3⟩:=k3 i (sh.bs[i]'hi) (by simp)
   grind
  have lt:∀ {i:Nat} {B:kG},(κ.cut m).st[i]? = some B->i<m:=λhB=>by have:=(List.getElem?_eq_some_iff.1 hB).1; omega
  have lt':∀ {i:Nat} {B:kG},κ'.st[i]? = some B->i<m:=λhB=>by have:=(List.getElem?_eq_some_iff.1 hB).1; have e:κ'.st.length=m:=k1; omega
  have hw:Wk (κ.cut m) κ':=by
   refine⟨rfl,rfl,rfl,by show(sh.st x).length=_; rw[k1,MY],λb d hb => ?_,λb v e xs hb => ?_,λb v e xs hb => ?_,λb hb => ?_⟩
   ·obtain⟨k,B,B',q0,q1,q2,q3⟩:=pair b (lt hb)
    rw[hb]at q1; cases q1
    cases q3 with
    | var k' _ _ y _ hy=>grind
    | cvar ck _ hy=>grind
    | dead _ hv=>cases hv
   ·obtain⟨k,B,B',q0,q1,q2,q3⟩:=pair b (lt hb)
    rw[hb]at q1; cases q1
    cases q3 with
    | arr=>grind
    | dead=>grind
   ·obtain⟨k,B,B',q0,q1,q2,q3⟩:=pair b (lt' hb)
    rw[hb]at q2; cases q2
    cases q3 with
    | arr=>exact q1
   ·obtain⟨k,B,B',q0,q1,q2,q3⟩:=pair b (lt hb)
    rw[hb]at q1; cases q1
    cases q3 with
    | dead=>exact q2
  have GZ:∀ b,rowAt sh.bs b=true->xV κ'.st b=ba κ.st b/\xV (gi sh.bs (mn sh.nU x)) b=ba κ.st b/\xV κ.st b=ba κ.st b :=
   λb hb=>⟨(k2 b hb).2.1,(k2 b hb).1,(k2 b hb).2.2⟩
  have zdY:∀ b,rowAt sh.bs b=true->xV (κ.cut m).st b=xV κ.st b:=by
   intro b hb
   have hbm:b<m:=by
    unfold rowAt at hb
    split at hb
    ·rename_i hh; exact(List.getElem?_eq_some_iff.1 hh).1
    ·cases hb
   unfold xV
   simp only[KS.cut]
   rw[List.getElem?_take,if_pos hbm]
  have hbm:∀ b,rowAt sh.bs b=true->b<m:=by
   intro b hb
   unfold rowAt at hb
   split at hb
   ·rename_i hh; exact(List.getElem?_eq_some_iff.1 hh).1
   ·cases hb
  have Se:∀ b,XA sh.bs b=true->b<m:=by
   intro b hb
   unfold XA at hb
   split at hb
   ·rename_i hh; exact(List.getElem?_eq_some_iff.1 hh).1
   ·rename_i hh; exact(List.getElem?_eq_some_iff.1 hh).1
   ·cases hb
  have dk:∀ (k:Dk) (y:k.den) (d:D) (v:Value) (zt:St),CJ sh.bs k=true->(∀ b,rowAt sh.bs b=true->xV zt b=ba κ.st b)->(tL κ.st k d).leads y->RD κ d v->RD κ' (sb zt k y) v:=by
   intro k y d v zt ho hv hy hd
   have hwk:Wk κ κ:=⟨rfl,rfl,rfl,rfl,λb d h=>⟨d,h⟩,λb v e xs h=>.inl h,λb v e xs h=>h,λb h=>h⟩
   have h0:=Hq hwk ho (λ_ _=>rfl) (zt:=κ.st) (λ_ _=>rfl) (λb hb=>(GZ b hb).2.2) hy hd
   have zf1:gQ m (sb κ.st k y)=true:=by
    cases k with
    | sub b e=>exact Gk (hbm b ho)
    | qW f caps =>
     have:∀ (l:List QV) (z:gY l),(lR l z).all (vL m)=true:=by
      intro l
      induction l with
      | nil=>intro z; rfl
      | cons p r ih =>
       intro z
       have hp:∀ w:AM.den p.ty,vL m (YN p w)=true:=λw=>by cases p<;>rfl
       cases r with
       | nil=>simp only[lR,List.all_cons,List.all_nil,Bool.and_true]; exact hp z
       | cons q r=>simp only[lR,List.all_cons,Bool.and_eq_true]; exact⟨hp z.1,by simpa using ih z.2⟩
     exact this caps y
    | st ks=>exact List.all_eq_true.2 (k9 hbm Se ks y ho)
    | mclo f ms=>exact List.all_eq_true.2 (cY Se ms y ho)
    | _=>rfl
   have h1:=hw.rd (F1 h0 zf1)
   have he:sb κ.st k y=sb zt k y:=by
    cases k with
    | sub b e=>simp only[sb]; rw[hv b ho,(GZ b ho).2.2]
    | st ks=>simp only[sb]; rw[pO (λb hb=>(GZ b hb).2.2.trans (hv b hb).symm) ks y ho]
    | _=>rfl
   rwa [he]at h1
  have ck:∀ (q:Ck) (d:D) (v:Value) (zt:St),Ny sh.bs q=true->(∀ b,rowAt sh.bs b=true->xV zt b=ba κ.st b)->(Wy κ.st q d).leads ()->C4 zt q=d/\(RD κ d v->RD κ' d v):=by
   intro q d v zt ho hv hy
   have he:=z2k ho hv hy
   refine⟨he,λhd=>hw.rd (F1 hd ?_)⟩
   rw[<- he]
   cases q with
   | ptr b off=>exact Gk (Se b ho)
   | cur b e=>exact Gk (hbm b ho)
   | xp=>rfl
   | kP=>rfl
   | qT=>rfl
   | qW f l =>
    simp only[Ny,List.all_eq_true]at ho
    simp only[C4,gQ,List.all_eq_true,List.mem_map]
    rintro _ ⟨p,hp,rfl⟩
    exact Gk (Se p.1 (ho p hp))
  have hI':Inv κ':=by
   refine hw.inv hIc λb d' hb => ?_
   obtain⟨k,B,B',q0,q1,q2,q3⟩:=pair b (lt' hb)
   rw[hb]at q2
   cases q2
   cases q3 with
   | var kk k' d y hp hy =>
    obtain⟨blk,n',cs,t,e1,e2,e3,e4,e5⟩:=hIc.blk b _ q1
    refine⟨blk,n',cs,t,e1,e2,e3,?_⟩
    cases kk with
    | zI τ =>
     have hco:dC τ d=some y:=T.ua.1 hy
     have ht:d.uE=false:=by
      cases d with
      | yC l=>simp[dC,D.uE]at hco
      | _=>rfl
     have DD:=o6 hco e4 e5.1 ht
     exact⟨(pA DD).mono hw.ext,dX τ y,nofun⟩
    | qR τ =>
     cases d<;>simp only[tL]at hy<;>try (exact hy.elim)
     obtain⟨e,hyy⟩:=qj (T.ua.1 hy)
     cases e
     cases hyy
     exact⟨e4.mono hw.ext,e5.1,nofun⟩
    | st ks =>
     simp only[tL]at hy
     cases ha:d.cI with
     | false=>rw[ha]at hy; exact hy.elim
     | true =>
      rw[ha]at hy
      replace hy:(fZ κ.st ks (qh d)).leads y:=hy
      have zka:b<m:=lt' hb
      have V4:κ.st[b]? = some (.var d):=(gv q1).1
      obtain⟨zgw,n2,cs2,t2,f1,f2,f3,f4,f5⟩:=hI.blk b _ V4
      have hp1:=(gv e1).1
      rw[f1]at hp1
      cases hp1
      rw[show(κ.cut m).w=κ.w from rfl,f2]at e2
      cases e2
      obtain⟨g1,g2⟩:=dq (κ:=κ) (zt:=gi sh.bs (mn sh.nU x)) (bs:=sh.bs) (λb hb=>(GZ b hb).2.1) ks (qh d) y _ hp.2 hy f4
      refine⟨(MA g1 λz hz => ?_).mono hw.ext,g2,λT hT => ?_⟩
      rotate_left
      ·exact f5.2 T (Xw ha (XN ks (qh d) y hy hT))
      have:=k9 (m:=m) hbm Se ks y hp.2 z hz
      cases z<;>first | exact this | cases this
    | _=>cases hp.1
   | cvar q d hy =>
    obtain⟨blk,n',cs,t,e1,e2,e3,e4,e5⟩:=hIc.blk b _ q1
    have hoq:Ny sh.bs q=true:=hbs _ (List.mem_of_getElem? q0)
    obtain⟨g,_⟩:=ck q d undef (gi sh.bs (mn sh.nU x)) hoq (λb hb=>(GZ b hb).2.1) hy
    rw[g]
    exact⟨blk,n',cs,t,e1,e2,e3,e4.mono hw.ext,e5⟩
  refine⟨κ',rfl,rfl,hI',?_,⟨hR.size,hR.defers,λs d hd => ?_⟩,λd v hr hd=>hw.rd (z1U hd hr)⟩
  ·have qs:κ0.st.length<=m:=hl
   have c1:=RN hx qs
   exact c1.trans hw.ext
  ·rcases get_append (l:=eR (sh.st x) sh.nU x) (m:=z7X (sh.st x) sh.cs) hd with hp | hp0
   ·obtain⟨k,y,d0,q0,q1,q2,q3⟩:=g2 _ hp
    cases q3
    obtain⟨v,r1,r2⟩:=hR.get _ _ q1
    exact⟨v,r1,dk k y d0 v (sh.st x) (zbV _ q0) (λb hb=>(GZ b hb).1) q2 r2⟩
   ·have Q9:=get_mem hp0
    unfold z7X at Q9
    obtain⟨p,hp,he⟩:=List.mem_map.1 Q9
    cases he
    obtain⟨d0,q1,q2⟩:=Bv h1 p hp
    obtain⟨v,r1,r2⟩:=hR.get _ _ q1
    obtain⟨g,gg⟩:=ck p.2 d0 v (sh.st x) (QP p hp) (λb hb=>(GZ b hb).1) q2
    rw[g]
    exact⟨v,r1,gg r2⟩
end
end Go.AM
namespace Go.AM
set_option linter.unusedSectionVars false
variable [vQ] [Kl]
open Go.RowKit
inductive Gh where
 | slot (s:Nat) (e:Ty) | cell (b i:Nat) (e:Ty) | pcell (s i:Nat) (e:Ty)
def V0(st:St)(b i:Nat):Option (List D):=match st[b]? with
 | some (.var d)=>bif d.cI then match(qh d)[i]? with | some .xp=>some (qh d) | _=>none else none
 | _=>none
def gh:List Gh->Fr->St->Fr×St
 | [],fr,st=>(fr,st)
 | .slot s e::r,fr,st=>match fr.get s with
  | some .xp=>bif Nat.blt 0 e.size then gh r ((s,some (.ms st.length 0 e 0 0))::fr) (st++[.arr 0 e []])else gh r fr st
  | _=>gh r fr st
 | .cell b i e::r,fr,st=>match V0 st b i with
  | some l=>bif Nat.blt 0 e.size then gh r fr ((st++[kG.arr 0 e []]).set b (.var (.agg (l.set i (.ms st.length 0 e 0 0)))))else gh r fr st
  | none=>gh r fr st
 | .pcell t i e::r,fr,st=>match fr.get t with
  | some (.ptr b _)=>match V0 st b i with
   | some l=>bif Nat.blt 0 e.size then gh r fr ((st++[kG.arr 0 e []]).set b (.var (.agg (l.set i (.ms st.length 0 e 0 0)))))else gh r fr st
   | none=>gh r fr st
  | _=>gh r fr st
section
variable {c:Ctx} {κ:KS}
def KS.jd(κ:KS)(e:Ty):KS:={ κ with ph:=κ.ph++[none],st:=κ.st++[.arr 0 e []] }
theorem tK(hI:Inv κ)(e:Ty):Ext κ (κ.jd e):=by
 have xJ:∀ b y,κ.st[b]? = some y->(κ.st++[.arr 0 e []])[b]? = some y:=λb y h=>by rw[List.getElem?_append_left (List.getElem?_eq_some_iff.1 h).1]; exact h
 have YJ:∀ b y,κ.st[b]? = some y->(κ.ph++[none])[b]? = κ.ph[b]? := λb y h=>by
  rw[List.getElem?_append_left]; rw[hI.len]; exact(List.getElem?_eq_some_iff.1 h).1
 refine⟨rfl,rfl,rfl,Nat.le_refl _,λk hk=>⟨hk,rfl⟩,λk hk=>.inl hk,?_,λb d h=>⟨⟨d,xJ b _ h⟩,YJ b _ h⟩,
  λb v0 e xs h=>.inr ⟨v0,xs,xJ b _ h,Nat.le_refl _,λ_=>⟨YJ b _ h,rfl⟩⟩,λb h=>xJ b _ h,by simp[KS.jd],λk hk _=>rfl⟩
 intro b blk m h
 simp only[KS.jd]at h
 grind
theorem UF(hI:Inv κ){e:Ty}(he:0<e.size):Inv (κ.jd e):=by
 have hold:∀ (b blk m:Nat),(κ.ph++[none])[b]? = some (some (blk,m))->κ.ph[b]? = some (some (blk,m)):=by
  grind
 refine⟨by simp[KS.jd,hI.len],hI.yw,λb blk m h=>hI.apart b blk m (hold b blk m h),λb b' blk m m' h h'=>hI.inj b b' blk m m' (hold _ _ _ h) (hold _ _ _ h'),?_,hI.gl⟩
 intro b y hy
 simp only[KS.jd]at hy
 by_cases hb:b<κ.st.length
 ·rw[List.getElem?_append_left hb]at hy
  exact(hI.blk b y hy).mono (tK hI e) (by show(κ.ph++[none])[b]? = κ.ph[b]?; rw[List.getElem?_append_left (by rw[hI.len]; exact hb)]) λblk n h=>rfl
 ·have Hs:=(List.getElem?_eq_some_iff.1 hy).1
  simp at Hs
  have:b=κ.st.length:=by omega
  subst this
  simp at hy
  subst hy
  exact⟨he,.inl ⟨rfl,by simp[KS.jd,<- hI.len]⟩⟩
theorem F2{l:List D}{i b v len off:Nat}{e:Ty}{tt:Nat}(h:(D.agg (l.set i (.ms b v e off len))).typed=some tt):gA l=some tt:=by
 cases l with
 | nil=>exact h
 | cons x r=>cases i with
  | zero=>cases h
  | succ i=>cases x<;>exact h
theorem z15{κ κ2:KS}{l:List D}{vs:List Value}{i:Nat}{d':D}(h:qD κ l vs)(hw:∀ d v,RD κ d v->RD κ2 d v)(hi:∀ v,vs[i]? = some v->RD κ2 d' v):qD κ2 (l.set i d') vs:=by
 refine⟨by rw[List.length_set]; exact h.1,λk h1 h2 => ?_⟩
 rw[List.getElem_set]
 split
 ·grind
 ·exact hw _ _ (h.2 k (by grind) h2)
theorem IE(hI:Inv κ){e:Ty}(he:0<e.size){b i:Nat}{l:List D}(h:V0 κ.st b i=some l) :
  ∃ κ':KS,κ'.w=κ.w/\κ'.st=(κ.st++[kG.arr 0 e []]).set b (.var (.agg (l.set i (.ms κ.st.length 0 e 0 0))))/\Inv κ'/\Ext κ κ':=by
 unfold V0 at h
 split at h
 ·rename_i d hd
  cases ha:d.cI with
  | false=>grind
  | true =>
   rw[ha,cond_true]at h
   split at h
   ·rename_i hi
    cases h
    have hx:=tK hI e
    have Qx:=UF hI he
    have zjY:b<κ.st.length:=(List.getElem?_eq_some_iff.1 hd).1
    let κ2:KS:={ κ.jd e with st:=(κ.jd e).st.set b (.var (.agg ((qh d).set i (.ms κ.st.length 0 e 0 0)))) }
    have L2:(κ.jd e).st[b]? = some (.var d):=by
     show(κ.st++[_])[b]? = _
     grind
    have vJ:∀ j,j≠b->κ2.st[j]? = (κ.jd e).st[j]? := λj hj=>by
     grind
    have zbq:κ2.st[b]? = some (.var (.agg ((qh d).set i (.ms κ.st.length 0 e 0 0)))):=by
     grind
    have hw:Wk (κ.jd e) κ2:=by
     refine⟨rfl,rfl,rfl,by simp[κ2],λj d' hj => ?_,λj v e' xs hj => ?_,λj v e' xs hj => ?_,λj hj => ?_⟩
     ·grind
     ·grind
     ·grind
     ·by_cases c:j=b
      ·subst c; rw[L2]at hj; cases hj
      ·rw[vJ j c]; exact hj
    have z0c:κ2.st[κ.st.length]? = some (.arr 0 e []):=by
     rw[vJ _ (by omega)]
     simp[KS.jd]
    have hI2:Inv κ2:=by
     refine hw.inv Qx λj d' hj => ?_
     by_cases c:j=b
     ·subst c
      rw[zbq]at hj
      cases hj
      obtain⟨blk,m,cs,t,q1,q2,q3,q4,q5⟩:=Qx.blk j _ L2
      refine⟨blk,m,cs,t,q1,q2,q3,z15 q4 (λ_ _ h=>hw.rd h) λv hv => ?_,λx hxm => ?_,λT hT => ?_⟩
      ·obtain⟨v',h1,h2⟩:=q4.get hi
       rw[hv]at h1
       cases h1
       cases h2
       refine .ms κ.st.length 0 e 0 0 0 none (.inr ⟨0,e,[],z0c,Nat.le_refl _⟩) (Nat.le_refl _) (λ_=>rfl) nofun λxs WC => ?_
       rw[z0c]at WC
       cases WC
       exact⟨Nat.le_refl _,.inl ⟨rfl,rfl,rfl,by show(κ.ph++[none])[κ.st.length]? = _; simp[<- hI.len]⟩⟩
      ·rcases List.mem_or_eq_of_mem_set (show x∈(qh d).set i (.ms κ.st.length 0 e 0 0)from hxm)with h' | h'
       ·exact q5.1 x h'
       ·subst h'; rfl
      ·exact q5.2 T (Xw ha (F2 hT))
     ·rw[vJ j c]at hj
      exact(Qx.blk j _ hj).mono hw.ext rfl λ_ _ _=>rfl
    exact⟨κ2,rfl,rfl,hI2,hx.trans hw.ext⟩
   ·cases h
 ·cases h
theorem iK{n:Nat}{a:Act}:∀ (l:List Gh) (fr:Fr) (κ:KS),Inv κ->Rel κ n fr.get a->∃ κ':KS,κ'.w=κ.w/\κ'.st=(gh l fr κ.st).2/\Inv κ'/\Ext κ κ'/\Rel κ' n (gh l fr κ.st).1.get a
 | [],fr,κ,hI,hR=>⟨κ,rfl,rfl,hI,Ext.refl κ,hR⟩
 | .slot s e::r,fr,κ,hI,hR=>by
  unfold gh
  split
  ·rename_i hs
   cases he:Nat.blt 0 e.size with
   | false=>rw[cond_false]; exact iK r fr κ hI hR
   | true =>
    rw[cond_true]
    have Rg:0<e.size:=Nat.le_of_ble_eq_true he
    have hx:=tK hI e
    have hR':Rel (κ.jd e) n (Fr.get ((s,some (.ms κ.st.length 0 e 0 0))::fr)) a:=by
     refine⟨hR.size,hR.defers,λt d hd => ?_⟩
     simp only[Fr.get]at hd
     cases ht:Nat.beq s t with
     | true =>
      rw[ht,cond_true]at hd
      cases hd
      have:=Nat.eq_of_beq_eq_true ht
      subst this
      obtain⟨v,h1,h2⟩:=hR.get s _ hs
      cases h2
      have z0c:(κ.jd e).st[κ.st.length]? = some (.arr 0 e []):=by simp[KS.jd]
      refine⟨_,h1,.ms κ.st.length 0 e 0 0 0 none (.inr ⟨0,e,[],z0c,Nat.le_refl _⟩) (Nat.le_refl _) (λ_=>rfl) nofun λxs WC => ?_⟩
      rw[z0c]at WC
      cases WC
      exact⟨Nat.le_refl _,.inl ⟨rfl,rfl,rfl,by simp[KS.jd,<- hI.len]⟩⟩
     | false =>
      rw[ht,cond_false]at hd
      obtain⟨v,h1,h2⟩:=hR.get t d hd
      exact⟨v,h1,h2.mono hx⟩
    obtain⟨κ',h1,h2,h3,h4,h5⟩:=iK r _ (κ.jd e) (UF hI Rg) hR'
    exact⟨κ',h1,h2,h3,hx.trans h4,h5⟩
  ·exact iK r fr κ hI hR
 | .cell b i e::r,fr,κ,hI,hR=>by
  unfold gh
  split
  ·rename_i l hl
   cases he:Nat.blt 0 e.size with
   | false=>rw[cond_false]; exact iK r fr κ hI hR
   | true =>
    rw[cond_true]
    have Rg:0<e.size:=Nat.le_of_ble_eq_true he
    obtain⟨κ1,g1,g2,g3,g4⟩:=IE hI Rg hl
    obtain⟨κ',h1,h2,h3,h4,h5⟩:=iK r fr κ1 g3 ⟨hR.size,hR.defers,λt d hd=>by
     obtain⟨v,q1,q2⟩:=hR.get t d hd
     exact⟨v,q1,q2.mono g4⟩⟩
    rw[g2]at h2 h5
    exact⟨κ',h1.trans g1,h2,h3,g4.trans h4,h5⟩
  ·exact iK r fr κ hI hR
 | .pcell t i e::r,fr,κ,hI,hR=>by
  unfold gh
  split
  ·rename_i b off hb
   split
   ·rename_i l hl
    cases he:Nat.blt 0 e.size with
    | false=>rw[cond_false]; exact iK r fr κ hI hR
    | true =>
     have Rg:0<e.size:=Nat.le_of_ble_eq_true he
     obtain⟨κ1,g1,g2,g3,g4⟩:=IE hI Rg hl
     obtain⟨κ',h1,h2,h3,h4,h5⟩:=iK r fr κ1 g3 ⟨hR.size,hR.defers,λt d hd=>by
      obtain⟨v,q1,q2⟩:=hR.get t d hd
      exact⟨v,q1,q2.mono g4⟩⟩
     rw[g2]at h2 h5
     exact⟨κ',h1.trans g1,h2,h3,g4.trans h4,h5⟩
   ·exact iK r fr κ hI hR
  ·exact iK r fr κ hI hR
end
end Go.AM
namespace Go.AM
def sa(f:Nat->Option Nat)(d:D):Option D:=match d with
 | .ptr b off=>match f b with | some b'=>some (.ptr b' off) | none=>none
 | .kN b T=>match f b with | some b'=>some (.kN b' T) | none=>none
 | .ui b v e i off=>match f b with | some b'=>some (.ui b' v e i off) | none=>none
 | .ms b v e off len=>match f b with | some b'=>some (.ms b' v e off len) | none=>none
 | .qW _ _=>none
 | .agg _=>none
 | .yC _=>none
 | .iface _ _=>none
 | d=>some d
def Cn(f:Nat->Option Nat):List D->Option (List D)
 | []=>some []
 | d::r=>match sa f d with
  | some d'=>match Cn f r with | some r'=>some (d'::r') | none=>none
  | none=>none
def nP(f:Nat->Option Nat)(d:D):Option D:=match d with
 | .qW g l=>match Cn f l with | some l'=>some (.qW g l') | none=>none
 | .agg l=>match Cn f l with | some l'=>some (.agg l') | none=>none
 | d=>sa f d
def Xx(f:Nat->Option Nat):List D->Option (List D)
 | []=>some []
 | d::r=>match nP f d with
  | some d'=>match Xx f r with | some r'=>some (d'::r') | none=>none
  | none=>none
def Wh(f:Nat->Option Nat):kG->Option kG
 | .var d=>match nP f d with | some d'=>some (.var d') | none=>none
 | .arr v e xs=>some (.arr v e xs)
 | .dead=>some .dead
def nB(f:Nat->Option Nat):List kG->Option (List kG)
 | []=>some []
 | b::r=>match Wh f b with
  | some b'=>match nB f r with | some r'=>some (b'::r') | none=>none
  | none=>none
def sI(f:Nat->Option Nat):Fr->Fr
 | []=>[]
 | (s,some d)::r=>(s,nP f d)::sI f r
 | (s,none)::r=>(s,none)::sI f r
structure Tr(κ κ':KS)(f:Nat->Option Nat):Prop where
 w:κ'.w=κ.w
 ok:κ'.ok=κ.ok
 var:∀ (b b':Nat) (d:D),f b=some b'->κ.st[b]? = some (.var d)->(∃ d',κ'.st[b']? = some (.var d'))/\κ'.ph[b']? = κ.ph[b]?
 old:∀ (b b' qy:Nat),f b=some b'->Old κ.st b qy->Old κ'.st b' qy
 row:∀ (b b' v:Nat) (e:Ty) (xs:List (den e)),f b=some b'->κ'.st[b']? = some (.arr v e xs)->κ.st[b]? = some (.arr v e xs)/\κ'.ph[b']? = κ.ph[b]?
section
variable {κ κ':KS} {f:Nat->Option Nat}
theorem Tr.same(h:Tr κ κ' f):FX κ.w κ'.w κ.ok κ'.ok:=λk hk=>⟨by rw[h.ok]; exact hk,by rw[h.w]⟩
theorem Tr.rd1(h:Tr κ κ' f){d d':D}{v:Value}(hd:RD κ d v)(hr:sa f d=some d'):RD κ' d' v:=by
 cases hd with
 | zI τ y cs hc=>cases hr; exact .zI τ y cs (hc.mono h.same)
 | xb e a=>cases hr; exact .xb e a
 | tight e l ne blk off g vJ wg hh hc=>cases hr; exact .tight e l ne blk off g vJ (h.same _ wg).1 (λi hi=>(hh i hi).mono h.same) λi hi j v hv=>by rw[bh (h.same _ wg).2]; exact hc i hi j v hv
 | xp=>cases hr; exact .xp
 | kP=>cases hr; exact .kP
 | qT=>cases hr; exact .qT
 | vR=>cases hr; exact .vR
 | vP=>cases hr; exact .vP
 | sG v h=>cases hr; exact .sG v h
 | c6 T=>cases hr; exact .c6 T
 | c8 b T d hb =>
  simp only[sa]at hr
  split at hr
  ·rename_i b' hf
   cases hr
   obtain⟨⟨d',h1⟩,h2⟩:=h.var b b' d hf hb
   exact .c8 b' T d' h1
  ·cases hr
 | bU b T blk n d hb hp =>
  simp only[sa]at hr
  split at hr
  ·rename_i b' hf
   cases hr
   obtain⟨⟨d',h1⟩,h2⟩:=h.var b b' d hf hb
   exact .bU b' T blk n d' h1 (h2.trans hp)
  ·cases hr
 | ptr b off blk n d hb hp =>
  simp only[sa]at hr
  split at hr
  ·rename_i b' hf
   cases hr
   obtain⟨⟨d',h1⟩,h2⟩:=h.var b b' d hf hb
   exact .ptr b' off blk n d' h1 (h2.trans hp)
  ·cases hr
 | qR τ y cs blk off wg hh hc=>cases hr; exact .qR τ y cs blk off (h.same _ wg).1 (hh.mono h.same) λj v hv=>by rw[bh (h.same _ wg).2]; exact hc j v hv
 | ui b qy e idx off blk o hb hh =>
  simp only[sa]at hr
  split at hr
  ·rename_i b' hf
   cases hr
   refine .ui b' qy e idx off blk o (h.old b b' qy hf hb) λxs hx hi => ?_
   obtain⟨h1,h2⟩:=h.row b b' qy e xs hf hx
   grind
  ·cases hr
 | ms b qy e off len cap a hb wY ha pC hh =>
  simp only[sa]at hr
  split at hr
  ·rename_i b' hf
   cases hr
   refine .ms b' qy e off len cap a (h.old b b' qy hf hb) wY ha pC λxs hx => ?_
   obtain⟨h1,h2⟩:=h.row b b' qy e xs hf hx
   have:=hh xs h1
   unfold Ig at this ⊢
   grind
  ·cases hr
 | qW g l vs hl hh=>cases hr
 | agg l vs hl ho hh=>cases hr
 | yC l vs hl hh=>cases hr
 | iface t d v hh=>cases hr
theorem z03{d d':D}(h:sa f d=some d'):d'.one=d.one:=by
 cases d<;>simp only[sa]at h<;>first | (cases h; rfl) | (split at h<;>cases h; rfl) | cases h
theorem Tr.rdL(h:Tr κ κ' f):∀ {l l':List D} {vs:List Value},qD κ l vs->Cn f l=some l'->qD κ' l' vs
 | [],l',vs,hd,hr=>by cases hr; rw[hd.qg]; exact .nil
 | d::r,l',vs,hd,hr=>by
  simp only[Cn]at hr
  split at hr
  ·rename_i d' h1
   split at hr
   ·rename_i r' h2
    cases hr
    obtain⟨v,us,rfl,g1,g2⟩:=hd.cons_inv
    exact .cons (h.rd1 g1 h1) (h.rdL g2 h2)
   ·cases hr
  ·cases hr
theorem Vf:∀ {l l':List D},Cn f l=some l'->(∀ d∈l,d.one=true)->∀ d∈l',d.one=true
 | [],l',hr,_=>by cases hr; nofun
 | d::r,l',hr,ho=>by
  simp only[Cn]at hr
  split at hr
  ·rename_i d' h1
   split at hr
   ·rename_i r' h2
    cases hr
    intro x hx
    rcases List.mem_cons.1 hx with rfl | hx
    ·rw[z03 h1]; exact ho d List.mem_cons_self
    ·exact Vf h2 (λy hy=>ho y (List.mem_cons_of_mem _ hy)) x hx
   ·cases hr
  ·cases hr
theorem Tr.rd(h:Tr κ κ' f){d d':D}{v:Value}(hd:RD κ d v)(hr:nP f d=some d'):RD κ' d' v:=by
 cases d with
 | qW g l =>
  simp only[nP]at hr
  split at hr
  ·rename_i l' hl
   cases hr
   cases hd with
   | qW _ _ vs h1 h2=>have:=h.rdL (⟨h1,h2⟩:qD κ l vs) hl; exact .qW g l' vs this.1 this.2
  ·cases hr
 | agg l =>
  simp only[nP]at hr
  split at hr
  ·rename_i l' hl
   cases hr
   cases hd with
   | agg _ vs h1 ho h2=>have:=h.rdL (⟨h1,h2⟩:qD κ l vs) hl; exact .agg l' vs this.1 (Vf hl ho) this.2
  ·cases hr
 | _=>exact h.rd1 hd hr
theorem Tr.rds(h:Tr κ κ' f):∀ {l l':List D} {vs:List Value},qD κ l vs->Xx f l=some l'->qD κ' l' vs
 | [],l',vs,hd,hr=>by cases hr; rw[hd.qg]; exact .nil
 | d::r,l',vs,hd,hr=>by
  simp only[Xx]at hr
  split at hr
  ·rename_i d' h1
   split at hr
   ·rename_i r' h2
    cases hr
    obtain⟨v,us,rfl,g1,g2⟩:=hd.cons_inv
    exact .cons (h.rd g1 h1) (h.rds g2 h2)
   ·cases hr
  ·cases hr
theorem Tr.flat(h:Tr κ κ' f){d d':D}{vs:List Value}(hd:qD κ (qh d) vs)(ho:∀ x∈qh d,x.one=true)(hr:nP f d=some d'):qD κ' (qh d') vs/\∀ x∈qh d',x.one=true:=by
 have zI:∀ (τ:Ty) (x:den τ) (vs:List Value),qD κ (Go.AM.flat τ x) vs->qD κ' (Go.AM.flat τ x) vs:=by
  intro τ x vs hh
  refine⟨hh.1,λi h1 h2 => ?_⟩
  have hm:=List.getElem_mem h1
  have:∃ σ z,(Go.AM.flat τ x)[i]=.zI σ z:=by
   generalize (Go.AM.flat τ x)[i]=y at hm
   clear hh h1 h2
   induction τ with
   | cons a b ia ib =>
    simp only[Go.AM.flat,List.mem_append]at hm
    grind
   | nil=>simp[Go.AM.flat]at hm
   | expr=>simp[Go.AM.flat]at hm; rcases hm with rfl | rfl | rfl | rfl | rfl | rfl<;>exact⟨_,_,rfl⟩
   | _=>simp[Go.AM.flat]at hm; subst hm; exact⟨_,_,rfl⟩
  obtain⟨σ,z,e⟩:=this
  have h3:=hh.2 i h1 h2
  rw[e]at h3 ⊢
  exact h.rd1 h3 rfl
 cases d with
 | zI τ x=>cases hr; exact⟨zI τ x vs hd,ho⟩
 | agg l =>
  simp only[nP]at hr
  split at hr
  ·rename_i l' hl
   cases hr
   exact⟨h.rdL hd hl,Vf hl ho⟩
  ·cases hr
 | yC l=>cases hr
 | qW g l =>
  obtain⟨v,r,rfl,h1,h2⟩:=qD.cons_inv (show qD κ [.qW g l] vs from hd)
  rw[h2.qg]
  have hr':=hr
  simp only[nP]at hr
  split at hr
  ·cases hr; exact⟨.cons (h.rd h1 hr') .nil,λx hx=>by simp only[qh,List.mem_singleton]at hx; subst hx; rfl⟩
  ·cases hr
 | iface t x=>cases hr
 | ptr b off =>
  obtain⟨v,r,rfl,h1,h2⟩:=qD.cons_inv (show qD κ [.ptr b off] vs from hd)
  rw[h2.qg]
  have hr':=hr
  simp only[nP,sa]at hr
  split at hr
  ·cases hr; exact⟨.cons (h.rd1 h1 hr') .nil,λx hx=>by simp only[qh,List.mem_singleton]at hx; subst hx; rfl⟩
  ·cases hr
 | kN b T =>
  obtain⟨v,r,rfl,h1,h2⟩:=qD.cons_inv (show qD κ [.kN b T] vs from hd)
  rw[h2.qg]
  have hr':=hr
  simp only[nP,sa]at hr
  split at hr
  ·cases hr; exact⟨.cons (h.rd1 h1 hr') .nil,λx hx=>by simp only[qh,List.mem_singleton]at hx; subst hx; rfl⟩
  ·cases hr
 | ui b qy e idx off =>
  obtain⟨v,r,rfl,h1,h2⟩:=qD.cons_inv (show qD κ [.ui b qy e idx off] vs from hd)
  rw[h2.qg]
  have hr':=hr
  simp only[nP,sa]at hr
  split at hr
  ·cases hr; exact⟨.cons (h.rd1 h1 hr') .nil,λx hx=>by simp only[qh,List.mem_singleton]at hx; subst hx; rfl⟩
  ·cases hr
 | ms b qy e off len =>
  obtain⟨v,r,rfl,h1,h2⟩:=qD.cons_inv (show qD κ [.ms b qy e off len] vs from hd)
  rw[h2.qg]
  have hr':=hr
  simp only[nP,sa]at hr
  split at hr
  ·cases hr; exact⟨.cons (h.rd1 h1 hr') .nil,λx hx=>by simp only[qh,List.mem_singleton]at hx; subst hx; rfl⟩
  ·cases hr
 | _ =>
  cases hr
  obtain⟨v,r,rfl,h1,h2⟩:=qD.cons_inv hd
  rw[h2.qg]
  exact⟨.cons (h.rd1 h1 rfl) .nil,ho⟩
theorem FQ{f:Nat->Option Nat}{d d':D}{tt:Nat}(h:nP f d=some d')(ht:d'.typed=some tt):d.typed=some tt:=by
 cases d with
 | agg l =>
  simp only[nP]at h
  split at h
  ·rename_i l' hl
   cases h
   cases l with
   | nil=>cases hl; cases ht
   | cons x r =>
    simp only[Cn]at hl
    split at hl
    ·rename_i x' hx
     split at hl
     ·cases hl
      cases x<;>simp only[sa]at hx<;>first
       | (cases hx; exact ht)
       | (split at hx<;>first | (cases hx; exact ht) | cases hx)
       | cases hx
     ·cases hl
    ·cases hl
  ·cases h
 | qW g l =>
  simp only[nP]at h
  split at h
  ·cases h; cases ht
  ·cases h
 | _ =>
  simp only[nP,sa]at h
  first
   | (cases h; cases ht)
   | (split at h<;>first | (cases h; cases ht) | cases h)
   | cases h
theorem Tr.blk[rY](h:Tr κ κ' f){b b':Nat}(hp:κ'.ph[b']? = κ.ph[b]?){y y':kG}(hy:dT κ b y)(hr:Wh f y=some y'):dT κ' b' y':=by
 cases y with
 | dead=>cases hr; trivial
 | var d =>
  simp only[Wh]at hr
  split at hr
  ·rename_i d' hd
   cases hr
   obtain⟨blk,n,cs,t,h1,h2,h3,h4,h5⟩:=hy
   obtain⟨g1,g2⟩:=h.flat h4 h5.1 hd
   exact⟨blk,n,cs,t,hp.trans h1,by rw[h.w]; exact h2,h3,g1,g2,λT hT=>h5.2 T (FQ hd hT)⟩
  ·cases hr
 | arr qy e xs =>
  cases hr
  obtain⟨h0,hh⟩:=hy
  refine⟨h0,dE hh (λh=>⟨h.1,hp.trans h.2⟩) ?_⟩
  rintro⟨blk,n,cs,t,h1,h2,h3,h4,hr,g,h5⟩
  exact⟨blk,n,cs,t,hp.trans h1,by rw[h.w]; exact h2,h3,h4,hr,g,λi hi=>⟨(h5 i hi).1.mono h.same,(h5 i hi).2⟩⟩
theorem rV{f:Nat->Option Nat}:∀ {fr:Fr} {s:Nat} {d':D},(sI f fr).get s=some d'->∃ d,fr.get s=some d/\nP f d=some d'
 | [],s,d',h=>by cases h
 | (t,some d)::r,s,d',h=>by
  simp only[sI,Fr.get]at h ⊢
  cases ht:Nat.beq t s with
  | true=>grind
  | false=>rw[ht,cond_false]at h; simp; exact rV h
 | (t,none)::r,s,d',h=>by
  simp only[sI,Fr.get]at h ⊢
  cases ht:Nat.beq t s with
  | true=>grind
  | false=>rw[ht,cond_false]at h; simp; exact rV h
end
def pos:List Nat->Nat->Option Nat
 | [],_=>none
 | b::r,i=>bif Nat.beq b i then some 0 else match pos r i with | some j=>some (j+1) | none=>none
def yD:List Nat->Bool
 | []=>true
 | b::r=>(match pos r b with | none=>true | some _=>false)&&yD r
theorem iu:∀ {mp:List Nat} {i j:Nat},pos mp i=some j->mp[j]? = some i
 | [],i,j,h=>by cases h
 | b::r,i,j,h=>by
  simp only[pos]at h
  cases hb:Nat.beq b i with
  | true=>rw[hb,cond_true]at h; cases h; rw[Nat.eq_of_beq_eq_true hb]; rfl
  | false =>
   rw[hb,cond_false]at h
   split at h
   ·rename_i k hk; cases h; simpa using iu hk
   ·cases h
theorem mM:∀ {mp:List Nat} {i j:Nat},yD mp=true->mp[j]? = some i->pos mp i=some j
 | [],i,j,_,h=>by simp at h
 | b::r,i,j,hn,h=>by
  simp only[yD,Bool.and_eq_true]at hn
  cases j with
  | zero=>simp at h; subst h; simp only[pos]; rw[Nat.beq_refl]; rfl
  | succ j =>
   have h':r[j]? = some i:=by simpa using h
   have hp:=mM hn.2 h'
   have vJ:Nat.beq b i=false:=by
    cases hb:Nat.beq b i with
    | false=>rfl
    | true =>
     have:=Nat.eq_of_beq_eq_true hb
     grind
   simp only[pos,vJ,cond_false,hp]
def fN{α:Type}(l:List α):List Nat->Option (List α)
 | []=>some []
 | b::r=>match l[b]? with
  | some x=>match fN l r with | some y=>some (x::y) | none=>none
  | none=>none
theorem QF{α:Type}{l:List α}:∀ {mp:List Nat} {r:List α},fN l mp=some r->r.length=mp.length/\∀ (j b:Nat),mp[j]? = some b->r[j]? = l[b]? /\ b<l.length
 | [],r,h=>by cases h; exact⟨rfl,λj b hj=>by grind⟩
 | b::mp,r,h=>by
  simp only[fN]at h
  split at h
  ·rename_i x hx
   split at h
   ·rename_i y hy
    obtain⟨h1,h2⟩:=QF hy
    grind
   ·cases h
  ·cases h
theorem X6{f:Nat->Option Nat}:∀ {l r:List kG},nB f l=some r->r.length=l.length/\∀ (j:Nat) (x:kG),l[j]? = some x->∃ y,r[j]? = some y/\Wh f x=some y
 | [],r,h=>by cases h; exact⟨rfl,λj x hj=>by grind⟩
 | b::l,r,h=>by
  simp only[nB]at h
  split at h
  ·rename_i b' hb
   split at h
   ·rename_i r' hr
    obtain⟨h1,h2⟩:=X6 hr
    grind
   ·cases h
  ·cases h
def og{α:Type}(mp:List Nat)(new:List α):Nat->List α->List α
 | _,[]=>[]
 | i,x::r=>(match pos mp i with | some j=>(match new[j]? with | some y=>y | none=>x) | none=>x)::og mp new (i+1) r
def w7{α:Type}(mp:List Nat)(old new:List α):List α:=og mp new 0 old++new.drop mp.length
theorem uO{α:Type}(mp:List Nat)(new:List α):∀ (l:List α) (i:Nat),(og mp new i l).length=l.length
 | [],_=>rfl
 | x::r,i=>by simp[og,uO mp new r (i+1)]
theorem sT{α:Type}(mp:List Nat)(new:List α):∀ (l:List α) (i k:Nat),(og mp new i l)[k]? = (l[k]?).map λx=>match pos mp (i+k)with | some j=>(match new[j]? with | some y=>y | none=>x) | none=>x
 | [],i,k=>by simp[og]
 | x::r,i,0=>by simp[og]
 | x::r,i,k+1=>by
  have:=sT mp new r (i+1) k
  simp only[og]
  grind
def fwd(mp:List Nat)(n:Nat)(j:Nat):Nat:=match mp[j]? with | some b=>b | none=>n+(j-mp.length)
theorem l9{α:Type}{mp:List Nat}{old new:List α}{i:Nat}(hi:i<old.length)(hp:pos mp i=none):(w7 mp old new)[i]? = old[i]? := by
 unfold w7
 rw[List.getElem?_append_left (by rw[uO]; exact hi),sT,Nat.zero_add,hp]
 simp
theorem CC{α:Type}{mp:List Nat}{old new:List α}(hn:yD mp=true)(qs:∀ (j b:Nat),mp[j]? = some b->b<old.length)(hlen:mp.length<=new.length){j:Nat}(hj:j<new.length):(w7 mp old new)[fwd mp old.length j]? = new[j]? := by
 unfold w7 fwd
 cases hm:mp[j]? with
 | some b =>
  have hb:=qs j b hm
  rw[List.getElem?_append_left (by rw[uO]; exact hb),sT,Nat.zero_add,mM hn hm]
  grind
 | none =>
  simp only
  rw[List.getElem?_append_right (by rw[uO]; omega),uO,List.getElem?_drop]
  grind
theorem EH{α:Type}{mp:List Nat}{old new:List α}(qs:∀ (j b:Nat),mp[j]? = some b->b<old.length)(hlen:mp.length<=new.length){i:Nat}(hi:i<(w7 mp old new).length) :
  (i<old.length/\pos mp i=none)\/∃ j,j<new.length/\i=fwd mp old.length j:=by
 by_cases h:i<old.length
 ·cases hp:pos mp i with
  | none=>grind
  | some j =>
   have:=iu hp
   have hj:=(List.getElem?_eq_some_iff.1 this).1
   exact .inr ⟨j,by omega,by unfold fwd; rw[this]⟩
 ·have hl:i<old.length+(new.length-mp.length):=by simpa[w7,uO]using hi
  refine .inr ⟨mp.length+(i-old.length),by omega,?_⟩
  unfold fwd
  grind
end Go.AM
namespace Go.AM
set_option linter.unusedSectionVars false
variable [vQ]
open Go.RowKit
section
variable {κ:KS} {mp:List Nat}
theorem Eh{gV l:List kG}{p1:List (Option (Nat×Nat))}(hI:Inv κ)(hn:yD mp=true)(hp:fN κ.ph mp=some p1)(hl:fN κ.st mp=some l)(hr:nB (pos mp) l=some gV) :
  Inv ⟨κ.w,κ.ok,p1,gV⟩/\Tr κ ⟨κ.w,κ.ok,p1,gV⟩ (pos mp)/\gV.length=mp.length/\p1.length=mp.length/\∀ (j b:Nat),mp[j]? = some b->p1[j]? = κ.ph[b]? /\ ∃ x y:kG,κ.st[b]? = some x/\Wh (pos mp) x=some y/\gV[j]? = some y:=by
 obtain⟨a1,a2⟩:=QF hp
 obtain⟨b1,b2⟩:=QF hl
 obtain⟨c1,c2⟩:=X6 hr
 have key:∀ (j b:Nat),mp[j]? = some b->p1[j]? = κ.ph[b]? /\ ∃ x y:kG,κ.st[b]? = some x/\Wh (pos mp) x=some y/\gV[j]? = some y:=by
  grind
 have at':∀ {j:Nat} {y:kG},gV[j]? = some y->∃ b,mp[j]? = some b:=λh=>by
  have:=(List.getElem?_eq_some_iff.1 h).1
  exact⟨_,List.getElem?_eq_getElem (by omega)⟩
 have hT:Tr κ ⟨κ.w,κ.ok,p1,gV⟩ (pos mp):=by
  refine⟨rfl,rfl,λb j d hf hb => ?_,λb j qy hf ho => ?_,λb j v e xs hf hb => ?_⟩
  ·obtain⟨h1,x,y,h2,h3,h4⟩:=key j b (iu hf)
   rw[hb]at h2
   cases h2
   simp only[Wh]at h3
   grind
  ·obtain⟨h1,x,y,h2,h3,h4⟩:=key j b (iu hf)
   rcases ho with ho | ⟨v0,e0,tH,ho,hv⟩
   ·rw[ho]at h2; cases h2; cases h3; exact .inl h4
   ·rw[ho]at h2; cases h2; cases h3; exact .inr ⟨v0,e0,tH,h4,hv⟩
  ·obtain⟨h1,x,y,h2,h3,h4⟩:=key j b (iu hf)
   rw[show gV[j]? = some (.arr v e xs)from hb]at h4
   cases h4
   cases x with
   | dead=>cases h3
   | var d=>simp only[Wh]at h3; split at h3<;>cases h3
   | arr v0 e0 tH=>cases h3; exact⟨h2,h1⟩
 refine⟨⟨by show p1.length=gV.length; omega,hI.yw,λj blk n h => ?_,λj j' blk n n' h h' => ?_,λj y h => ?_,hI.gl⟩,hT,by omega,a1,key⟩
 ·obtain⟨b,hb⟩:∃ b,mp[j]? = some b:=⟨_,List.getElem?_eq_getElem (by have:j<p1.length:=(List.getElem?_eq_some_iff.1 h).1; omega)⟩
  exact hI.apart b blk n ((a2 j b hb).1.symm.trans h)
 ·obtain⟨b,hb⟩:∃ b,mp[j]? = some b:=⟨_,List.getElem?_eq_getElem (by have:j<p1.length:=(List.getElem?_eq_some_iff.1 h).1; omega)⟩
  obtain⟨b',Hs⟩:∃ b,mp[j']? = some b:=⟨_,List.getElem?_eq_getElem (by have:j'<p1.length:=(List.getElem?_eq_some_iff.1 h').1; omega)⟩
  have:=hI.inj b b' blk n n' ((a2 j b hb).1.symm.trans h) ((a2 j' b' Hs).1.symm.trans h')
  subst this
  exact Option.some.inj ((mM hn hb).symm.trans (mM hn Hs))
 ·obtain⟨b,hb⟩:=at' h
  obtain⟨h1,x,y',h2,h3,h4⟩:=key j b hb
  rw[show gV[j]? = some y from h]at h4
  cases h4
  exact hT.blk h1 (hI.blk b x h2) h3
theorem Hy{κ1:KS}{gV jo l:List kG}{p1:List (Option (Nat×Nat))}(hI:Inv κ)(hn:yD mp=true)(hp:fN κ.ph mp=some p1)(hl:fN κ.st mp=some l)(hr:nB (pos mp) l=some gV)
  (Qx:Inv κ1) (hx:Ext ⟨κ.w,κ.ok,p1,gV⟩ κ1) (hr2:nB (λj=>some (fwd mp κ.st.length j)) κ1.st=some jo) :
  ∃ κ':KS,κ'.w=κ1.w/\κ'.st=w7 mp κ.st jo/\Inv κ'/\Ext κ κ'/\Tr κ1 κ' (λj=>some (fwd mp κ.st.length j)):=by
 obtain⟨hIs,hTs,s1,s2,key⟩:=Eh hI hn hp hl hr
 obtain⟨r1,r2⟩:=X6 hr2
 have qs:∀ (j b:Nat),mp[j]? = some b->b<κ.st.length:=λj b hj=>by obtain⟨_,x,_,h,_⟩:=key j b hj; exact(List.getElem?_eq_some_iff.1 h).1
 have zgC:∀ (j b:Nat),mp[j]? = some b->b<κ.ph.length:=λj b hj=>by rw[hI.len]; exact qs j b hj
 have hm1:mp.length<=κ1.st.length:=by have:=hx.Dy; simp only at this; omega
 have Bt:mp.length<=jo.length:=by omega
 have PH:mp.length<=κ1.ph.length:=by rw[Qx.len]; exact hm1
 let fw:=fwd mp κ.st.length
 have hlen:(w7 mp κ.ph κ1.ph).length=(w7 mp κ.st jo).length:=by simp[w7,uO,hI.len,Qx.len,r1]
 -- what lies where
 have cst:∀ {j:Nat} {x:kG},κ1.st[j]? = some x->∃ y,(w7 mp κ.st jo)[fw j]? = some y/\Wh (λj=>some (fw j)) x=some y:=by
  intro j x hj
  obtain⟨y,h1,h2⟩:=r2 j x hj
  exact⟨y,by rw[CC hn qs Bt (by rw[r1]; exact(List.getElem?_eq_some_iff.1 hj).1)]; exact h1,h2⟩
 have cph:∀ {j:Nat},j<κ1.st.length->(w7 mp κ.ph κ1.ph)[fw j]? = κ1.ph[j]? := by
  intro j hj
  have:=CC (old:=κ.ph) (new:=κ1.ph) hn zgC PH (j:=j) (by rw[Qx.len]; exact hj)
  rw[hI.len]at this
  exact this
 have ust:∀ {i:Nat},i<κ.st.length->pos mp i=none->(w7 mp κ.st jo)[i]? = κ.st[i]? := λhi h=>l9 hi h
 have uph:∀ {i:Nat},i<κ.st.length->pos mp i=none->(w7 mp κ.ph κ1.ph)[i]? = κ.ph[i]? := λhi h=>l9 (by rw[hI.len]; exact hi) h
 have QC:∀ {i:Nat},i<(w7 mp κ.st jo).length->(i<κ.st.length/\pos mp i=none)\/∃ j,j<κ1.st.length/\i=fw j:=by
  intro i hi
  rcases EH qs Bt hi with h | ⟨j,h1,h2⟩
  ·grind
  ·grind
 have MV:∀ {j b:Nat},mp[j]? = some b->fw j=b:=λh=>by simp only[fw,fwd,h]
 have zke:∀ {j:Nat},mp[j]? = none->κ.st.length<=fw j:=λh=>by simp only[fw,fwd,h]; omega
 -- the part's own blocks
 have sph:∀ {j:Nat} {q:Nat×Nat},p1[j]? = some (some q)->∃ b,mp[j]? = some b/\κ.ph[b]? = some (some q):=by
  intro j q h
  have hj:=(List.getElem?_eq_some_iff.1 h).1
  obtain⟨b,hb⟩:∃ b,mp[j]? = some b:=⟨_,List.getElem?_eq_getElem (by omega)⟩
  grind
 have hT:Tr κ1 ⟨κ1.w,κ1.ok,w7 mp κ.ph κ1.ph,w7 mp κ.st jo⟩ (λj=>some (fw j)):=by
  refine⟨rfl,rfl,λj b d hf hj => ?_,λj b qy hf ho => ?_,λj b v e xs hf hb => ?_⟩
  ·cases hf
   obtain⟨y,h1,h2⟩:=cst hj
   simp only[Wh]at h2
   grind
  ·cases hf
   rcases ho with ho | ⟨v0,e0,tH,ho,hv⟩
   ·obtain⟨y,h1,h2⟩:=cst ho; cases h2; exact .inl h1
   ·obtain⟨y,h1,h2⟩:=cst ho; cases h2; exact .inr ⟨v0,e0,tH,h1,hv⟩
  ·cases hf
   have hb:(w7 mp κ.st jo)[fw j]? = some (.arr v e xs):=hb
   have HY:=(List.getElem?_eq_some_iff.1 hb).1
   have hj:j<κ1.st.length:=by
    by_cases hj:j<κ1.st.length
    ·exact hj
    ·exfalso
     cases hm:mp[j]? with
     | some c=>have:=(List.getElem?_eq_some_iff.1 hm).1; omega
     | none =>
      have h3:fw j=κ.st.length+(j-mp.length):=by simp only[fw,fwd,hm]
      have h4:(w7 mp κ.st jo).length=κ.st.length+(jo.length-mp.length):=by simp[w7,uO]
      omega
   obtain⟨y,h1,h2⟩:=cst (List.getElem?_eq_getElem hj)
   rw[hb]at h1
   cases h1
   refine⟨?_,cph hj⟩
   rw[List.getElem?_eq_getElem hj]
   generalize κ1.st[j]=x at h2
   cases x with
   | dead=>cases h2
   | var d=>simp only[Wh]at h2; split at h2<;>cases h2
   | arr v0 e0 tH=>cases h2; rfl
 -- YV blocks lie as they lay
 have YV:∀ {i blk n:Nat},pos mp i=none->κ.ph[i]? = some (some (blk,n))->κ1.w.heap[blk]? = κ.w.heap[blk]? := by
  intro i blk n hi h
  obtain⟨g1,g2⟩:=hI.apart i blk n h
  refine hx.frame blk g1 λj m hj => ?_
  obtain⟨b,L2,BU⟩:=sph hj
  have:=hI.inj i b blk n m h BU
  subst this
  rw[mM hn L2]at hi
  cases hi
 have hE:Ext κ ⟨κ1.w,κ1.ok,w7 mp κ.ph κ1.ph,w7 mp κ.st jo⟩:=by
  refine⟨hx.os,hx.tape,hx.output,hx.size,hx.same,λk hk => ?_,λi blk n h => ?_,λi d hi => ?_,λi v0 e tH hi => ?_,λi hi => ?_,?_,λk hk kK => ?_⟩
  ·rcases hx.fresh k hk with h | h | ⟨j,n,h⟩
   ·exact .inl h
   ·exact .inr (.inl h)
   ·obtain⟨b,_,hb⟩:=sph h; exact .inr (.inr ⟨b,n,hb⟩)
  ·have h:(w7 mp κ.ph κ1.ph)[i]? = some (some (blk,n)):=h
   have Kd:i<(w7 mp κ.st jo).length:=by rw[<- hlen]; exact(List.getElem?_eq_some_iff.1 h).1
   rcases QC Kd with⟨h1,h2⟩ | ⟨j,h1,rfl⟩
   ·rw[uph h1 h2]at h; exact .inl h
   ·rw[cph h1]at h
    rcases hx.phs j blk n h with h3 | h3
    ·obtain⟨b,L2,BU⟩:=sph h3
     rw[MV L2]; exact .inl BU
    ·exact .inr h3
  ·have Oa:=(List.getElem?_eq_some_iff.1 hi).1
   cases HX:pos mp i with
   | none=>exact⟨⟨d,(ust Oa HX).trans hi⟩,uph Oa HX⟩
   | some j =>
    have hmj:=iu HX
    obtain⟨k1,x,y,k2,k3,k4⟩:=key j i hmj
    rw[hi]at k2
    cases k2
    simp only[Wh]at k3
    split at k3
    ·cases k3
     obtain⟨⟨d',g1⟩,g2⟩:=hx.var j _ k4
     obtain⟨⟨d'',q1⟩,q2⟩:=hT.var j (fw j) d' rfl g1
     rw[MV hmj]at q1 q2
     exact⟨⟨d'',q1⟩,q2.trans (g2.trans k1)⟩
    ·cases k3
  ·have Oa:=(List.getElem?_eq_some_iff.1 hi).1
   cases HX:pos mp i with
   | none=>exact .inr ⟨v0,tH,(ust Oa HX).trans hi,Nat.le_refl _,λ_=>⟨uph Oa HX,rfl⟩⟩
   | some j =>
    have hmj:=iu HX
    obtain⟨k1,x,y,k2,k3,k4⟩:=key j i hmj
    rw[hi]at k2
    cases k2
    cases k3
    rcases hx.arr j v0 e tH k4 with g | ⟨v1,hZ,g1,g2,g3⟩
    ·obtain⟨y,q1,q2⟩:=cst g
     cases q2
     rw[MV hmj]at q1
     exact .inl q1
    ·obtain⟨y,q1,q2⟩:=cst g1
     cases q2
     rw[MV hmj]at q1
     refine .inr ⟨v1,hZ,q1,g2,λhe=>⟨?_,(g3 he).2⟩⟩
     have h4:=cph (List.getElem?_eq_some_iff.1 g1).1
     rw[MV hmj]at h4
     exact h4.trans ((g3 he).1.trans k1)
  ·have Oa:=(List.getElem?_eq_some_iff.1 hi).1
   cases HX:pos mp i with
   | none=>exact(ust Oa HX).trans hi
   | some j =>
    have hmj:=iu HX
    obtain⟨k1,x,y,k2,k3,k4⟩:=key j i hmj
    rw[hi]at k2
    cases k2
    cases k3
    obtain⟨y,q1,q2⟩:=cst (hx.dead j k4)
    cases q2
    rw[MV hmj]at q1
    exact q1
  ·show κ.st.length<=(w7 mp κ.st jo).length
   simp[w7,uO]
  ·exact hx.frame k hk λj n hj=>by obtain⟨b,_,hb⟩:=sph hj; exact kK b n hb
 refine⟨⟨κ1.w,κ1.ok,w7 mp κ.ph κ1.ph,w7 mp κ.st jo⟩,rfl,rfl,⟨hlen,Qx.yw,λi blk n h => ?_,λi i' blk n n' h h' => ?_,λi y h => ?_,Qx.gl⟩,hE,hT⟩
 ·have h:(w7 mp κ.ph κ1.ph)[i]? = some (some (blk,n)):=h
  have Kd:i<(w7 mp κ.st jo).length:=by rw[<- hlen]; exact(List.getElem?_eq_some_iff.1 h).1
  rcases QC Kd with⟨h1,h2⟩ | ⟨j,h1,rfl⟩
  ·rw[uph h1 h2]at h
   obtain⟨g1,g2⟩:=hI.apart i blk n h
   refine⟨Nat.lt_of_lt_of_le g1 hx.size,λhk => ?_⟩
   rcases hx.fresh blk hk with hk | hk | ⟨j,m,hj⟩
   ·exact g2 hk
   ·simp only at hk; omega
   ·obtain⟨b,L2,BU⟩:=sph hj
    have:=hI.inj i b blk n m h BU
    subst this
    rw[mM hn L2]at h2
    cases h2
  ·rw[cph h1]at h
   exact Qx.apart j blk n h
 ·have h:(w7 mp κ.ph κ1.ph)[i]? = some (some (blk,n)):=h
  have h':(w7 mp κ.ph κ1.ph)[i']? = some (some (blk,n')):=h'
  have Tc:i<(w7 mp κ.st jo).length:=by rw[<- hlen]; exact(List.getElem?_eq_some_iff.1 h).1
  have z6s:i'<(w7 mp κ.st jo).length:=by rw[<- hlen]; exact(List.getElem?_eq_some_iff.1 h').1
  have mixed:∀ {i j n n':Nat},i<κ.st.length->pos mp i=none->j<κ1.st.length->κ.ph[i]? = some (some (blk,n))->κ1.ph[j]? = some (some (blk,n'))->False:=by
   intro i j n n' h1 h2 h3 h4 h5
   rcases hx.phs j blk n' h5 with h6 | h6
   ·obtain⟨b,L2,BU⟩:=sph h6
    have:=hI.inj i b blk n n' h4 BU
    subst this
    rw[mM hn L2]at h2
    cases h2
   ·have:=(hI.apart i blk n h4).1
    simp only at h6
    omega
  rcases QC Tc with⟨h1,h2⟩ | ⟨j,h1,rfl⟩
  ·rw[uph h1 h2]at h
   rcases QC z6s with⟨h3,h4⟩ | ⟨j',h3,rfl⟩
   ·rw[uph h3 h4]at h'; exact hI.inj i i' blk n n' h h'
   ·rw[cph h3]at h'; exact(mixed h1 h2 h3 h h').elim
  ·rw[cph h1]at h
   rcases QC z6s with⟨h3,h4⟩ | ⟨j',h3,rfl⟩
   ·rw[uph h3 h4]at h'; exact(mixed h3 h4 h1 h' h).elim
   ·rw[cph h3]at h'
    rw[Qx.inj j j' blk n n' h h']
 ·have h:(w7 mp κ.st jo)[i]? = some y:=h
  rcases QC (List.getElem?_eq_some_iff.1 h).1 with⟨h1,h2⟩ | ⟨j,h1,rfl⟩
  ·rw[ust h1 h2]at h
   exact(hI.blk i y h).mono hE (uph h1 h2) λblk n hb=>YV h2 hb
  ·obtain⟨z,q1,q2⟩:=cst (List.getElem?_eq_getElem h1)
   rw[h]at q1
   cases q1
   exact hT.blk (cph h1) (Qx.blk j _ (List.getElem?_eq_getElem h1)) q2
end
end Go.AM
namespace Go.AM
set_option linter.unusedSectionVars false
variable [vQ]
open Go.RowKit
inductive AK where
 | any | cur | sub | ptr | qW (f:Nat)
structure jZ where
 ks:List AK
 sh:vO
 ya:List Gh
 out:vO
 nr:Nat
 F:sh.den->T out.den
def M4(fr:Fr):Nat->Nat->Option (List D)
 | 0,_=>some []
 | n+1,i=>match fr.get i with
  | some d=>match M4 fr n (i+1)with | some r=>some (d::r) | none=>none
  | none=>none
def yU(nr:Nat)(fr:Fr):Option (List D):=M4 fr nr 0
def z0m:List (Nat×Nat)->List D->Nat->Option Nat
 | p::r,.ptr b' _::ds,b=>bif Nat.beq p.1 b then some b' else z0m r ds b
 | _,_,_=>none
def z99(b:Nat):Ck->D->Option Nat
 | .ptr c _,.ptr b' _=>bif Nat.beq c b then some b' else none
 | .cur c _,.ms b' _ _ _ _=>bif Nat.beq c b then some b' else none
 | .qW _ l,.qW _ ds=>z0m l ds b
 | _,_=>none
def z5N(fr:Fr)(b:Nat):List (Nat×Ck)->Option Nat
 | []=>none
 | (s,k)::r=>match fr.get s with
  | some d=>match z99 b k d with | some b'=>some b' | none=>z5N fr b r
  | none=>z5N fr b r
def CX(b:Nat):List Mc->List D->Option Nat
 | .pt c::r,.ptr b' _::ds=>bif Nat.beq c b then some b' else CX b r ds
 | .pt _::r,_::ds=>CX b r ds
 | .im _::r,_::ds=>CX b r ds
 | .rp _::r,_::ds=>CX b r ds
 | _,_=>none
def JH(b:Nat):List Sk->List D->Option Nat
 | .im τ::r,ds=>JH b r (ds.drop τ.size)
 | .row c _::r,.ms b' _ _ _ _::ds=>bif Nat.beq c b then some b' else JH b r ds
 | .row _ _::r,_::ds=>JH b r ds
 | .op c _::r,.kN b' _::ds=>bif Nat.beq c b then some b' else JH b r ds
 | .op _ _::r,_::ds=>JH b r ds
 | .un::r,_::ds=>JH b r ds
 | _,_=>none
def Yw(fr:Fr)(b:Nat):List It->Option Nat
 | []=>none
 | .s s (.mclo _ ms)::r=>match fr.get s with
  | some (.qW _ l)=>match CX b ms l with | some b'=>some b' | none=>Yw fr b r
  | _=>Yw fr b r
 | .s s (.sub c _)::r=>match fr.get s with
  | some (.ms b' _ _ _ _)=>bif Nat.beq c b then some b' else Yw fr b r
  | _=>Yw fr b r
 | _::r=>Yw fr b r
def Nt(st:St)(b:Nat):List Bk->List (Option Nat)->Option Nat
 | .cvar k::r,some p::ps=>match st[p]? with
  | some (.var d)=>match z99 b k d with | some b'=>some b' | none=>Nt st b r ps
  | _=>Nt st b r ps
 | .var (.st ks)::r,some p::ps=>match st[p]? with
  | some (.var d)=>match JH b ks (qh d)with | some b'=>some b' | none=>Nt st b r ps
  | _=>Nt st b r ps
 | _::r,_::ps=>Nt st b r ps
 | _,_=>none
def zaA(sh:vO)(fr:Fr):Nat->List Bk->List (Option Nat)
 | _,[]=>[]
 | b,_::r=>(match z5N fr b sh.cs with | some b'=>some b' | none=>Yw fr b sh.nU)::zaA sh fr (b+1) r
def z1Y(sh:vO)(st:St)(m:List (Option Nat)):Nat->List (Option Nat)->List (Option Nat)
 | _,[]=>[]
 | b,some b'::r=>some b'::z1Y sh st m (b+1) r
 | b,none::r=>Nt st b sh.bs m::z1Y sh st m (b+1) r
def z8X:List (Option Nat)->Option (List Nat)
 | []=>some []
 | some b::r=>match z8X r with | some l=>some (b::l) | none=>none
 | none::_=>none
def mapOf(sh:vO)(fr:Fr)(st:St):Option (List Nat):=let m:=zaA sh fr 0 sh.bs
 let m:=z1Y sh st m 0 m
 z8X (z1Y sh st m 0 m)
def jZ.back(d:jZ)(mp:List Nat)(st:St)(y:d.out.den):T (GY×St):=match yU d.nr (d.out.fr y),nB (λj=>some (fwd mp st.length j)) (d.out.st y)with
 | some ds,some jo=>match Xx (λj=>some (fwd mp st.length j)) ds with
  | some JO=>.ret (.ret JO,w7 mp st jo)
  | none=>.fail
 | _,_=>.fail
def jZ.inner(d:jZ)(mp:List Nat)(fr:Fr)(st:St):T (GY×St):=match fN st mp with
 | none=>.fail
 | some l=>match nB (pos mp) l with
  | none=>.fail
  | some gV=>(d.sh.un (sI (pos mp) fr) gV).bind λx=>(d.F x).bind λy=>d.back mp st y
def jZ.S(d:jZ)(args:List D)(st:St):T (GY×St) :=
 match mapOf d.sh (gh d.ya (wh args 0) st).1 (gh d.ya (wh args 0) st).2 with
 | none=>.fail
 | some mp=>bif yD mp&&Nat.ble mp.length d.sh.bs.length&&Nat.beq args.length d.ks.length then d.inner mp (gh d.ya (wh args 0) st).1 (gh d.ya (wh args 0) st).2 else .fail
def jZ.UL{α:Type}(d:jZ)(mp:List Nat)(st:St)(y:d.out.den)(k:List D->St->T α):T α:=match yU d.nr (d.out.fr y),nB (λj=>some (fwd mp st.length j)) (d.out.st y)with
 | some ds,some jo=>match Xx (λj=>some (fwd mp st.length j)) ds with
  | some JO=>k JO (w7 mp st jo)
  | none=>.fail
 | _,_=>.fail
def jZ.pc{α:Type}(d:jZ)(mp:List Nat)(fr:Fr)(st:St)(k:List D->St->T α):T α:=match fN st mp with
 | none=>.fail
 | some l=>match nB (pos mp) l with
  | none=>.fail
  | some gV=>(d.sh.un (sI (pos mp) fr) gV).bind λx=>(d.F x).bind λy=>d.UL mp st y k
def jZ.K{α:Type}(d:jZ)(args:List D)(st:St)(k:List D->St->T α):T α :=
 match mapOf d.sh (gh d.ya (wh args 0) st).1 (gh d.ya (wh args 0) st).2 with
 | none=>.fail
 | some mp=>bif yD mp&&Nat.ble mp.length d.sh.bs.length&&Nat.beq args.length d.ks.length then d.pc mp (gh d.ya (wh args 0) st).1 (gh d.ya (wh args 0) st).2 k else .fail
theorem jZ.Tu{α:Type}{d:jZ}{args:List D}{st:St}{k:List D->St->T α}{r:α}(h:(d.K args st k).leads r):∃ ds zt,(d.S args st).leads (.ret ds,zt)/\(k ds zt).leads r:=by
 unfold jZ.K at h
 unfold jZ.S
 split at h
 ·exact h.elim
 ·rename_i mp PH
  cases hc:yD mp&&Nat.ble mp.length d.sh.bs.length&&Nat.beq args.length d.ks.length with
  | false=>rw[hc]at h; exact h.elim
  | true =>
   rw[hc,cond_true]at h
   unfold jZ.pc at h
   unfold jZ.inner
   split at h
   ·exact h.elim
   ·rename_i l hl
    split at h
    ·exact h.elim
    ·rename_i gV hst1
     obtain⟨x,h1,h⟩:=T.zd.1 h
     obtain⟨y,h2,h⟩:=T.zd.1 h
     unfold jZ.UL at h
     split at h
     ·rename_i ds jo e1 e2
      split at h
      ·rename_i JO e3
       refine⟨JO,_,T.zd.2 ⟨x,h1,T.zd.2 ⟨y,h2,?_⟩⟩,h⟩
       unfold jZ.back
       simp only[e1,e2,e3]
       rfl
      ·exact h.elim
     ·exact h.elim
def yv(Dr:SY)(g:Nat)(d:jZ):Prop:=∀ (κ:KS) (x:d.sh.den) (zx:List Value) (y:d.out.den),κ.st=d.sh.st x->(d.F x).leads y->Inv κ->zx.length=d.ks.length ->
 Rel κ zx.length (d.sh.fr x).get { tmps:=zx.toArray,defers:=[] } ->
 Dr g zx.toArray κ.w λe w'=>∃ (κ':KS) (ds:List D),κ'.w=w'/\κ'.st=d.out.st y/\Inv κ'/\Ext κ κ'/\yU d.nr (d.out.fr y)=some ds/\wv κ' (.ret ds) e
def xU(P:Program)(g:Nat)(d:jZ):Prop:=∀ (κ:KS) (x:d.sh.den) (zx:List Value) (y:d.out.den),κ.st=d.sh.st x->(d.F x).leads y->Inv κ->zx.length=d.ks.length ->
 Rel κ zx.length (d.sh.fr x).get { tmps:=zx.toArray,defers:=[] } ->
 ux P g zx.toArray κ.w λe w'=>∃ (κ':KS) (ds:List D),κ'.w=w'/\κ'.st=d.out.st y/\Inv κ'/\Ext κ κ'/\yU d.nr (d.out.fr y)=some ds/\wv κ' (.ret ds) e
theorem LG{κ κ':KS}{f:Nat->Option Nat}(h:Tr κ κ' f){ds JO:List D}{v:Value}(hd:RD κ (yg ds) v)(hr:Xx f ds=some JO):RD κ' (yg JO) v:=by
 match ds,hr with
 | [],hr =>
  cases hr
  cases hd with
  | yC _ vs hl hh =>
   obtain rfl:vs=[]:=List.eq_nil_of_length_eq_zero hl.symm
   exact .yC [] [] rfl (λi h=>absurd h (Nat.not_lt_zero i))
 | [d],hr =>
  simp only[Xx]at hr
  split at hr
  ·rename_i d' h1
   cases hr
   exact h.rd hd h1
  ·cases hr
 | d::e::r,hr =>
  cases hd with
  | yC _ vs hl hh =>
   have hR:=h.rds (⟨hl,hh⟩:qD κ (d::e::r) vs) hr
   simp only[Xx]at hr
   split at hr
   ·split at hr
    ·rename_i r' h2
     cases hr
     split at h2
     ·split at h2
      ·cases h2; exact .yC _ vs hR.1 hR.2
      ·cases h2
     ·cases h2
    ·cases hr
   ·cases hr
theorem tq{α β:Type}{l:List α}{m:List β}(h:l.length=m.length):∀ {mp:List Nat} {r:List α},fN l mp=some r->∃ q,fN m mp=some q
 | [],_,_=>⟨[],rfl⟩
 | b::mp,r,hr=>by
  simp only[fN]at hr
  split at hr
  ·rename_i x hx
   split at hr
   ·rename_i y hy
    obtain⟨q,hq⟩:=tq h hy
    have hb:b<m.length:=by have:=(List.getElem?_eq_some_iff.1 hx).1; omega
    exact⟨m[b]::q,by simp only[fN,List.getElem?_eq_getElem hb,hq]⟩
   ·cases hr
  ·cases hr
theorem jZ.z6B{Dr:SY}(zbM:∀ {g a w} {R R':Ending->World->Prop},Dr g a w R->(∀ e w',R e w'->R' e w')->Dr g a w R'){g:Nat}{d:jZ}(h:yv Dr g d):zgZ Dr g d.S:=by
 intro κ args zx rs zt hl hI ha
 have T1:Rel κ zx.length (wh args 0).get { tmps:=zx.toArray,defers:=[] }:=by
  have:=tZ (n:=zx.length) ha (by rw[ha.1]; exact Nat.le_refl _)
  simpa[show(Kl.df:List Deferred)=[]from rfl]using this
 obtain⟨κ0,w1,w2,w3,w4,w5⟩:=iK d.ya (wh args 0) κ hI T1
 unfold jZ.S at hl
 rw[<- w2]at hl
 split at hl
 ·exact hl.elim
 ·rename_i mp PH
  cases hc:yD mp&&Nat.ble mp.length d.sh.bs.length&&Nat.beq args.length d.ks.length with
  | false=>rw[hc]at hl; exact hl.elim
  | true =>
   rw[hc,cond_true]at hl
   simp only[Bool.and_eq_true]at hc
   obtain⟨⟨hn,hle⟩,hlen⟩:=hc
   unfold jZ.inner at hl
   split at hl
   ·exact hl.elim
   ·rename_i l Xk
    split at hl
    ·exact hl.elim
    ·rename_i gV hst1
     obtain⟨x,h1,hl⟩:=T.zd.1 hl
     obtain⟨y,h2,hl⟩:=T.zd.1 hl
     obtain⟨p1,hpp⟩:=tq (m:=κ0.ph) w3.len.symm Xk
     obtain⟨s1,s2,s3,s4,s5⟩:=Eh w3 hn hpp Xk hst1
     have Yb:Rel ⟨κ0.w,κ0.ok,p1,gV⟩ zx.length (sI (pos mp) (gh d.ya (wh args 0) κ.st).1).get { tmps:=zx.toArray,defers:=[] } :=
      ⟨w5.size,w5.defers,λs d' hd=>by
       obtain⟨d0,q1,q2⟩:=rV hd
       obtain⟨v,q3,q4⟩:=w5.get s d0 q1
       exact⟨v,q3,s2.rd q4 q2⟩⟩
     obtain⟨κ2,u1,u2,u3,u4,u5,_⟩:=d.sh.Zg (κ0:=⟨κ0.w,κ0.ok,p1,gV⟩) (κ:=⟨κ0.w,κ0.ok,p1,gV⟩) (Ext.refl _) s1 Yb (by show gV.length<=_; rw[s3]; exact Nat.le_of_ble_eq_true hle) h1
     have hw:κ2.w=κ.w:=u1.trans w1
     have hdo:=h κ2 x zx y u2 h2 u3 (by rw[<- ha.1]; exact Nat.eq_of_beq_eq_true hlen) u5
     rw[hw]at hdo
     refine zbM hdo ?_
     rintro e w' ⟨κ3,ds,rfl,g1,g2,g3,g4,v,rfl,g5⟩
     unfold jZ.back at hl
     rw[g4,<- g1]at hl
     split at hl
     ·rename_i ds0 jo e1 e2
      cases e1
      split at hl
      ·rename_i JO hds'
       cases hl
       obtain⟨κ',k1,k2,k3,k4,k5⟩:=Hy w3 hn hpp Xk hst1 g2 (u4.trans g3) e2
       exact⟨κ',k1,k2,k3,w4.trans k4,v,rfl,LG k5 g5 hds'⟩
      ·exact hl.elim
     ·exact hl.elim
theorem jZ.snd{P:Program}{g:Nat}{d:jZ}(h:xU P g d):HT P g d.S:=jZ.z6B (Dr:=ux P) ux.mono h
structure fG where
 ks:List AK
 sh:vO
 ya:List Gh
 out:vO
 nr:Nat
 pt:Nat
 kz:vO
 F:sh.den->T (out.den⊕kz.den)
abbrev fG.s(d:fG):jZ:=⟨d.ks,d.sh,d.ya,d.out,d.nr,λ_=>.fail⟩
def fG.Pn{α:Type}(d:fG)(mp:List Nat)(st:St)(z:d.kz.den)(kp:D->St->T α):T α:=match(d.kz.fr z).get 0,nB (λj=>some (fwd mp st.length j)) (d.kz.st z)with
 | some (.zI τ x),some jo=>kp (.iface d.pt (.zI τ x)) (w7 mp st jo)
 | _,_=>.fail
def fG.pc{α:Type}(d:fG)(mp:List Nat)(fr:Fr)(st:St)(k:List D->St->T α)(kp:D->St->T α):T α:=match fN st mp with
 | none=>.fail
 | some l=>match nB (pos mp) l with
  | none=>.fail
  | some gV=>(d.sh.un (sI (pos mp) fr) gV).bind λx=>(d.F x).bind (Sum.elim (λy=>d.s.UL mp st y k) (λz=>d.Pn mp st z kp))
def fG.K{α:Type}(d:fG)(args:List D)(st:St)(k:List D->St->T α)(kp:D->St->T α):T α :=
 match mapOf d.sh (gh d.ya (wh args 0) st).1 (gh d.ya (wh args 0) st).2 with
 | none=>.fail
 | some mp=>bif yD mp&&Nat.ble mp.length d.sh.bs.length&&Nat.beq args.length d.ks.length then d.pc mp (gh d.ya (wh args 0) st).1 (gh d.ya (wh args 0) st).2 k kp else .fail
def fG.S(d:fG)(args:List D)(st:St):T (GY×St):=d.K args st (λds zt=>.ret (.ret ds,zt)) (λp zt=>.ret (.kz p,zt))
theorem fG.Tu{α:Type}{d:fG}{args:List D}{st:St}{k:List D->St->T α}{kp:D->St->T α}{r:α}(h:(d.K args st k kp).leads r) :
  (∃ ds zt,(d.S args st).leads (.ret ds,zt)/\(k ds zt).leads r)\/∃ p zt,(d.S args st).leads (.kz p,zt)/\(kp p zt).leads r:=by
 unfold fG.K at h
 unfold fG.S fG.K
 split at h
 ·exact h.elim
 ·rename_i mp PH
  cases hc:yD mp&&Nat.ble mp.length d.sh.bs.length&&Nat.beq args.length d.ks.length with
  | false=>rw[hc]at h; exact h.elim
  | true =>
   rw[hc,cond_true]at h
   unfold fG.pc at h
   unfold fG.pc
   split at h
   ·exact h.elim
   ·rename_i l hl
    split at h
    ·exact h.elim
    ·rename_i gV hst1
     obtain⟨x,h1,h⟩:=T.zd.1 h
     obtain⟨y,h2,h⟩:=T.zd.1 h
     cases y with
     | inl y =>
      simp at h
      unfold jZ.UL at h
      split at h
      ·rename_i ds jo e1 e2
       split at h
       ·rename_i JO e3
        refine .inl ⟨JO,_,T.zd.2 ⟨x,h1,T.zd.2 ⟨.inl y,h2,?_⟩⟩,h⟩
        simp
        unfold jZ.UL
        simp only[e1,e2,e3]
        rfl
       ·exact h.elim
      ·exact h.elim
     | inr z =>
      simp at h
      unfold fG.Pn at h
      split at h
      ·rename_i τ p jo e1 e2
       refine .inr ⟨_,_,T.zd.2 ⟨x,h1,T.zd.2 ⟨.inr z,h2,?_⟩⟩,h⟩
       simp
       unfold fG.Pn
       simp only[e1,e2]
       rfl
      ·exact h.elim
def kF(P:Program)(g:Nat)(d:fG):Prop:=∀ (κ:KS) (x:d.sh.den) (zx:List Value) (r:d.out.den⊕d.kz.den),κ.st=d.sh.st x->(d.F x).leads r->Inv κ->zx.length=d.ks.length ->
 Rel κ zx.length (d.sh.fr x).get { tmps:=zx.toArray,defers:=[] } ->
 ux P g zx.toArray κ.w λe w'=>∃ κ':KS,κ'.w=w'/\Inv κ'/\Ext κ κ' /\
  ((∃ (y:d.out.den) (ds:List D),r=.inl y/\κ'.st=d.out.st y/\yU d.nr (d.out.fr y)=some ds/\wv κ' (.ret ds) e) \/
   ∃ (z:d.kz.den) (p:D),r=.inr z/\κ'.st=d.kz.st z/\(d.kz.fr z).get 0=some p/\wv κ' (.kz (.iface d.pt p)) e)
theorem fG.snd{P:Program}{g:Nat}{d:fG}(h:kF P g d):HT P g d.S:=by
 intro κ args zx rs zt hl hI ha
 have T1:Rel κ zx.length (wh args 0).get { tmps:=zx.toArray,defers:=[] }:=by
  have:=tZ (n:=zx.length) ha (by rw[ha.1]; exact Nat.le_refl _)
  simpa[show(Kl.df:List Deferred)=[]from rfl]using this
 obtain⟨κ0,w1,w2,w3,w4,w5⟩:=iK d.ya (wh args 0) κ hI T1
 unfold fG.S fG.K at hl
 rw[<- w2]at hl
 split at hl
 ·exact hl.elim
 ·rename_i mp PH
  cases hc:yD mp&&Nat.ble mp.length d.sh.bs.length&&Nat.beq args.length d.ks.length with
  | false=>rw[hc]at hl; exact hl.elim
  | true =>
   rw[hc,cond_true]at hl
   simp only[Bool.and_eq_true]at hc
   obtain⟨⟨hn,hle⟩,hlen⟩:=hc
   unfold fG.pc at hl
   split at hl
   ·exact hl.elim
   ·rename_i l Xk
    split at hl
    ·exact hl.elim
    ·rename_i gV hst1
     obtain⟨x,h1,hl⟩:=T.zd.1 hl
     obtain⟨y,h2,hl⟩:=T.zd.1 hl
     obtain⟨p1,hpp⟩:=tq (m:=κ0.ph) w3.len.symm Xk
     obtain⟨s1,s2,s3,s4,s5⟩:=Eh w3 hn hpp Xk hst1
     have Yb:Rel ⟨κ0.w,κ0.ok,p1,gV⟩ zx.length (sI (pos mp) (gh d.ya (wh args 0) κ.st).1).get { tmps:=zx.toArray,defers:=[] } :=
      ⟨w5.size,w5.defers,λs d' hd=>by
       obtain⟨d0,q1,q2⟩:=rV hd
       obtain⟨v,q3,q4⟩:=w5.get s d0 q1
       exact⟨v,q3,s2.rd q4 q2⟩⟩
     obtain⟨κ2,u1,u2,u3,u4,u5,_⟩:=d.sh.Zg (κ0:=⟨κ0.w,κ0.ok,p1,gV⟩) (κ:=⟨κ0.w,κ0.ok,p1,gV⟩) (Ext.refl _) s1 Yb (by show gV.length<=_; rw[s3]; exact Nat.le_of_ble_eq_true hle) h1
     have hw:κ2.w=κ.w:=u1.trans w1
     have hdo:=h κ2 x zx y u2 h2 u3 (by rw[<- ha.1]; exact Nat.eq_of_beq_eq_true hlen) u5
     rw[hw]at hdo
     refine hdo.mono ?_
     rintro e w' ⟨κ3,rfl,g2,g3,⟨y,ds,rfl,g1,g4,v,rfl,g5⟩ | ⟨z,p,rfl,g1,g4,v,rfl,g5⟩⟩
     ·simp only[Sum.elim_inl]at hl
      unfold jZ.UL at hl
      rw[show yU d.s.nr (d.s.out.fr y)=some ds from g4,show d.s.out.st y=κ3.st from g1.symm]at hl
      split at hl
      ·rename_i ds0 jo e1 e2
       cases e1
       split at hl
       ·rename_i JO hds'
        cases hl
        obtain⟨κ',k1,k2,k3,k4,k5⟩:=Hy w3 hn hpp Xk hst1 g2 (u4.trans g3) e2
        exact⟨κ',k1,k2,k3,w4.trans k4,v,rfl,LG k5 g5 hds'⟩
       ·exact hl.elim
      ·exact hl.elim
     ·simp only[Sum.elim_inr]at hl
      unfold fG.Pn at hl
      rw[g4,<- g1]at hl
      split at hl
      ·rename_i τ q jo e1 e2
       cases e1
       cases hl
       obtain⟨κ',k1,k2,k3,k4,k5⟩:=Hy w3 hn hpp Xk hst1 g2 (u4.trans g3) e2
       refine⟨κ',k1,k2,k3,w4.trans k4,v,rfl,?_⟩
       cases g5 with
       | iface _ _ u hu=>exact .iface _ _ u (k5.rd hu rfl)
      ·exact hl.elim
end Go.AM
namespace Go.AM
def H9(sh:vO)(ya:List Gh)(args:List D)(st:St):List Nat:=bif ya.isEmpty then match mapOf sh (wh args 0) st with | some mp=>others st.length mp | none=>[]else[]
def jZ.free(d:jZ)(args:List D)(st:St):List Nat:=H9 d.sh d.ya args st
def fG.free(d:fG)(args:List D)(st:St):List Nat:=H9 d.sh d.ya args st
theorem Cs{m b:Nat}{l:List Nat}(h:b∈others m l):b<m/\∀ x∈l,b≠x:=by
 simp only[others,List.mem_filter,List.mem_range,Bool.not_eq_true',List.any_eq_false]at h
 exact⟨h.1,λx hx e=>by subst e; exact h.2 b hx (Nat.beq_refl _)⟩
theorem B9:∀ {mp:List Nat} {b:Nat},(∀ x∈mp,b≠x)->pos mp b=none
 | [],_,_=>rfl
 | x::r,b,h=>by
  simp only[pos]
  rw[show Nat.beq x b=false from by cases hb:Nat.beq x b with | false=>rfl | true=>exact absurd (Nat.eq_of_beq_eq_true hb).symm (h x List.mem_cons_self),cond_false,B9 λy hy=>h y (List.mem_cons_of_mem _ hy)]
theorem VH{sh:vO}{ya:List Gh}{args:List D}{st:St}{b:Nat}(hb:b∈H9 sh ya args st):ya=[]/\∃ mp,mapOf sh (wh args 0) st=some mp/\b<st.length/\pos mp b=none:=by
 unfold H9 at hb
 cases hn:ya.isEmpty with
 | false=>grind
 | true =>
  rw[hn,cond_true]at hb
  refine⟨List.isEmpty_iff.1 hn,?_⟩
  split at hb
  ·rename_i mp PH
   obtain⟨h1,h2⟩:=Cs hb
   exact⟨mp,PH,h1,B9 h2⟩
  ·cases hb
theorem jZ.Qv{d:jZ}{args:List D}{st zt:St}{rs:GY}{b:Nat}(h:(d.S args st).leads (rs,zt))(hb:b∈d.free args st):zt[b]? = st[b]? := by
 obtain⟨hn,mp,PH,qs,tX⟩:=VH hb
 unfold jZ.S at h
 rw[hn]at h
 simp only[gh,PH]at h
 cases hc:yD mp&&Nat.ble mp.length d.sh.bs.length&&Nat.beq args.length d.ks.length with
 | false=>rw[hc]at h; exact h.elim
 | true =>
  rw[hc,cond_true]at h
  unfold jZ.inner at h
  split at h
  ·exact h.elim
  ·split at h
   ·exact h.elim
   ·obtain⟨x,_,h⟩:=T.zd.1 h
    obtain⟨y,_,h⟩:=T.zd.1 h
    unfold jZ.back at h
    split at h
    ·split at h
     ·cases h; exact l9 qs tX
     ·exact h.elim
    ·exact h.elim
theorem fG.Qv{d:fG}{args:List D}{st zt:St}{rs:GY}{b:Nat}(h:(d.S args st).leads (rs,zt))(hb:b∈d.free args st):zt[b]? = st[b]? := by
 obtain⟨hn,mp,PH,qs,tX⟩:=VH hb
 unfold fG.S fG.K at h
 rw[hn]at h
 simp only[gh,PH]at h
 cases hc:yD mp&&Nat.ble mp.length d.sh.bs.length&&Nat.beq args.length d.ks.length with
 | false=>rw[hc]at h; exact h.elim
 | true =>
  rw[hc,cond_true]at h
  unfold fG.pc at h
  split at h
  ·exact h.elim
  ·split at h
   ·exact h.elim
   ·obtain⟨x,_,h⟩:=T.zd.1 h
    obtain⟨y,_,h⟩:=T.zd.1 h
    cases y with
    | inl y =>
     simp at h
     unfold jZ.UL at h
     split at h
     ·split at h
      ·cases h; exact l9 qs tX
      ·exact h.elim
     ·exact h.elim
    | inr z =>
     simp at h
     unfold fG.Pn at h
     split at h
     ·cases h; exact l9 qs tX
     ·exact h.elim
end Go.AM
namespace Go.AM
def tP.den:tP->Type
 | .ty τ=>AM.den τ
 | .rp τ=>AM.den τ
 | .qW _ caps=>gY caps
def jv:List tP->Type
 | []=>Unit
 | [p]=>p.den
 | p::q::r=>p.den×jv (q::r)
def mkP:(p:tP)->p.den->D
 | .ty τ,x=>.zI τ x
 | .rp τ,x=>.qR τ x
 | .qW f caps,x=>.qW f (lR caps x)
def QS:(l:List tP)->jv l->List D
 | [],_=>[]
 | [p],x=>[mkP p x]
 | p::q::r,x=>mkP p x.1::QS (q::r) x.2
def ZU:(l:List Ty)->Hw l->List D
 | [],_=>[]
 | [τ],x=>[.zI τ x]
 | τ::σ::r,x=>.zI τ x.1::ZU (σ::r) x.2
def rpX(st:St)(τ:Ty):D->T (den τ)
 | .qR _ x=>match(wO x:Option (den τ))with | some y=>.ret y | none=>.fail
 | .ptr b off=>match st[b]? with
  | some (.var d)=>match bif Nat.beq off 0 then dC τ d else none with | some y=>.ret y | none=>.fail
  | _=>.fail
 | _=>.fail
def z2a(st:St):(p:QV)->D->T (den p.ty)
 | .im τ,d=>Zs st τ d
 | .rp τ,d=>rpX st τ d
def M8(st:St):(l:List QV)->List D->T (gY l)
 | [],[]=>.ret ()
 | [p],[d]=>z2a st p d
 | p::q::r,d::ds=>(z2a st p d).bind λx=>(M8 st (q::r) ds).bind λy=>.ret (x,y)
 | _,_=>.fail
def unP(st:St):(p:tP)->D->T p.den
 | .ty τ,d=>Zs st τ d
 | .rp τ,d=>rpX st τ d
 | .qW f caps,d=>match d with
  | .qW f' l=>bif Nat.beq f f' then M8 st caps l else .fail
  | _=>.fail
def Cw(st:St):(l:List tP)->List D->T (jv l)
 | [],[]=>.ret ()
 | [p],[d]=>unP st p d
 | p::q::r,d::ds=>(unP st p d).bind λx=>(Cw st (q::r) ds).bind λy=>.ret (x,y)
 | _,_=>.fail
def PS(st:St):(l:List Ty)->List D->T (Hw l)
 | [],[]=>.ret ()
 | [τ],[d]=>Zs st τ d
 | τ::σ::r,d::ds=>(Zs st τ d).bind λx=>(PS st (σ::r) ds).bind λy=>.ret (x,y)
 | _,_=>.fail
structure C0 where
 ps:List tP
 rs:List Ty
 F:jv ps->T (Hw rs)
def z7W:tP->D->Bool
 | .qW f _,d=>match d with | .qW f' _=>Nat.beq f f' | _=>false
 | _,d=>match d with | .qW _ _=>false | _=>true
def fits:List tP->List D->Bool
 | [],[]=>true
 | p::ps,d::ds=>z7W p d&&fits ps ds
 | _,_=>false
def z6j:AK->D->Bool
 | .any,d=>match d with | .qW _ _=>false | _=>true
 | .cur,d=>match d with | .ms .. => true | .xp=>true | _=>false
 | .sub,d=>match d with | .ms .. => true | _=>false
 | .ptr,d=>match d with | .ptr .. => true | _=>false
 | .qW f,d=>match d with | .qW f' _=>Nat.beq f f' | _=>false
def nC:List AK->List D->Bool
 | [],[]=>true
 | p::ps,d::ds=>z6j p d&&nC ps ds
 | _,_=>false
inductive FnE where
 | d (x:C0)
 | s (x:jZ)
 | p (x:fG)
def FnE.fits:FnE->List D->Bool
 | .d x,l=>AM.fits x.ps l
 | .s x,l=>nC x.ks l
 | .p x,l=>nC x.ks l
abbrev dh:=List (Nat×FnE)
def dh.find:dh->Nat->List D->Option FnE
 | [],_,_=>none
 | (g',d)::r,g,args=>bif Nat.beq g' g&&d.fits args then some d else dh.find r g args
abbrev Sm:=List D->St->T (GY×St)
def C0.S(d:C0):Sm:=λargs st=>match st with
 | []=>(Cw [] d.ps args).bind λx=>(d.F x).bind λy=>.ret (.ret (ZU d.rs y),[])
 | _=>.fail
def dh.call(tab:dh)(g:Nat)(args:List D)(st:St):T (GY×St):=match tab.find g args with | some (.d d)=>d.S args st | some (.s d)=>d.S args st | some (.p d)=>d.S args st | none=>.fail
def dh.free(tab:dh)(g:Nat)(args:List D)(st:St):List Nat:=match tab.find g args with | some (.s d)=>d.free args st | some (.p d)=>d.free args st | _=>[]
theorem dh.Qv(tab:dh)(g:Nat)(args:List D)(st:St)(rs:GY)(zt:St)(b:Nat)(h:(tab.call g args st).leads (rs,zt))(hb:b∈tab.free g args st):zt[b]? = st[b]? := by
 unfold dh.call at h
 unfold dh.free at hb
 split at hb
 ·rename_i d hd; rw[hd]at h; exact jZ.Qv h hb
 ·rename_i d hd; rw[hd]at h; exact fG.Qv h hb
 ·cases hb
def u7(P:Program)(xid:Nat)(tab:dh)(ro:Nat->Bool):Ctx :=
 { P,xid,ro,sig:=λg args=>match tab.find g args with | some (.d d)=>some ⟨d.ps,d.rs⟩ | _=>none,fn:=tab.call,free:=tab.free,OT:=tab.Qv }
def z5c{α:Type}(tab:dh)(g:Nat)(args:List D)(st:St)(k:Nat->Option D->St->T α)(kp:D->St->T α):T α:=match tab.find g args with
 | none=>.fail
 | some (.d d)=>bif !(args.any Jb)then(Cw [] d.ps args).bind λx=>(d.F x).bind λy=>k 0 (some (yg (ZU d.rs y))) st
  else(Cw st d.ps args).bind λx=>(d.F x).bind λy=>bif (ZU d.rs y).all rL then k 1 (some (yg (ZU d.rs y))) st else .fail
 | some (.s d)=>d.K args st λds zt=>k 2 (some (yg ds)) zt
 | some (.p d)=>d.K args st (λds zt=>k 2 (some (yg ds)) zt) kp
def Gj{α:Type}(tab:dh)(f:Option D)(args:List (Option D))(st:St)(k:Nat->Option D->St->T α)(kp:D->St->T α):T α:=match f,uu args with
 | some (.qW g caps),some l=>z5c tab (yn g) (ji g l caps) st k kp
 | _,_=>.fail
def cM(l:List Nat):Fr:=l.map λs=>(s,none)
def dstsOf:List Oper->List Nat
 | []=>[]
 | o::r=>match o.dst with | some t=>t::dstsOf r | none=>dstsOf r
def ql:Code->List Nat
 | .region _ ops _=>dstsOf ops.toList
 | .seq a b=>ql a++ql b
 | .cond _ a b=>ql a++ql b
 | .block _ a=>ql a
 | .loop a=>ql a
 | _=>[]
structure zS where
 gh:List Gh
 ps:List It
 sh:vO
 ws:List Way
 F:wJ ps->sh.den->T (gC ws)
inductive z3g where
 | flat (nU:List It)
 | ways (ws:List Way)
 | zbL
structure Hints where
 loop:Nat->Option zS
 cut:Nat->Nat->Option z3g
 frz:Nat->List Nat
def dD:Code->Option Nat
 | .region id _ _=>some id
 | .seq a b=>match dD a with | some n=>some n | none=>dD b
 | .cond _ a b=>match dD a with | some n=>some n | none=>dD b
 | .block _ a=>dD a
 | .loop a=>dD a
 | _=>none
def keyOf(x:Code):Nat×Nat:=(match x with | .region .. => 0 | .cond .. => 1 | .block .. => 2 | _=>3,match dD x with | some n=>n | none=>0)
def z4G(l:List Nat)(s:Nat):Bool := !(l.any (Nat.beq s))
def V1:Dk->Bool
 | .sub _ _=>false
 | .st _=>false
 | .mclo _ _=>false
 | _=>true
def EX(ps:List It)(ws:List Nat):Bool:=ps.all λi=>match i with
 | .s t k=>V1 k&&z4G ws t
 | _=>false
def GM{α:Type}:T α->Option α
 | .ret a=>some a
 | .ite _ t e=>match GM t with | some a=>some a | none=>GM e
 | .zL _ t=>GM t
 | .fail=>none
def C5{α β:Type}(f:α->β):T α->T β
 | .ret a=>.ret (f a)
 | .ite b t e=>.ite b (C5 f t) (C5 f e)
 | .zL p t=>.zL p (C5 f t)
 | .fail=>.fail
def N0:(l:List It)->wJ l->T (wJ l)->wJ l
 | [],_,_=>()
 | [_],d,t=>T.val d t
 | _::j::r,d,t=>(T.val d.1 (C5 Prod.fst t),N0 (j::r) d.2 (C5 Prod.snd t))
def Ta(l:List It)(t:T (wJ l)):T (wJ l):=match GM t with
 | some d=>match t.Qo with
  | none=>.ret (N0 l d t)
  | some p=>.zL p (.ret (N0 l d t))
 | none=>.fail
def KU(l:List It):Bool:=l.all λi=>match i with
 | .s _ k=>V1 k
 | _=>false
structure Ey where
 ex:Ex
 fr:Fr
 kn:Kn
 st:St
 q:Bool      -- the store has not been written
def quiet(ks:List Nat):Bool:=ks.all λk => !(Nat.beq k 2)
structure zcg where
 e:Ty
 l:List (den e)
 m:Nat
 s:Nat
 c:Nat
 eq:Bool
def RL:BinOp->Option Bool
 | .eql=>some true
 | .neq=>some false
 | _=>none
def DN:Operand->Bool
 | .const (.slice none 0 0)=>true
 | _=>false
def GL(c:Ctx)(n:Nat)(ops:Array Oper)(fr:Fr):Option zcg:=match ops.toList with
 | [o1,o2]=>match o1.dst,o1.op,o1.guard with
  | some m,.move (.tmp s),none=>match o2.dst,o2.op,o2.guard with
   | some cc,.binOp op t (.tmp m') y _,none=>match RL op,fr.get s,fy c t with
    | some b,some (.zI (.sl e) l),some _=>bif Nat.beq m m'&&DN y&&Nat.blt m n&&Nat.blt cc n then some ⟨e,l,m,s,cc,b⟩else none
    | _,_,_=>none
   | _,_,_=>none
  | _,_,_=>none
 | _=>none
def opsOf:Code->Option (Array Oper)
 | .region _ ops false=>some ops
 | _=>none
section
variable (c:Ctx) (tab:dh)
variable [rY]
def rj{α:Type}(n:Nat)(o:Oper)(s:cQ)(k:cQ->T α)(kp:D->St->T α):T α :=
 bif vN n o.dst then match o.op with
  | .call cl=>match cl.callee with
   | .value f=>Gj tab (uB s.fr f) (cl.args.toList.map (uB s.fr)) s.st (λkd d zt=>k ⟨s.fr.put o.dst d,K1 s.kn o.dst none,zt,kd::s.ks,w6 c (uB s.fr) s.st o::s.bk⟩) kp
   | _=>let cl:=nH c s.kn s.fr o
    (zH cl s.st).bind λr=>k ⟨s.fr.put o.dst r.1,K1 s.kn o.dst (Kv s.kn o.op),r.2,cl.kind::s.ks,w6 c (uB s.fr) s.st o::s.bk⟩
  | .panic x=>match uB s.fr x with
   | some (.iface t d)=>kp (.iface t d) s.st
   | _=>.fail
  | _=>let cl:=nH c s.kn s.fr o
   (zH cl s.st).bind λr=>k ⟨s.fr.put o.dst r.1,K1 s.kn o.dst (Kv s.kn o.op),r.2,cl.kind::s.ks,w6 c (uB s.fr) s.st o::s.bk⟩
 else .fail
def DY{α:Type}(n:Nat)(ops:Array Oper)(o:Oper)(s:cQ)(k:cQ->T α)(kp:D->St->T α):T α:=match o.guard with
 | none=>rj c tab n o s k kp
 | some (j,want)=>match uy ops j with
  | none=>.fail
  | some t=>match s.kn.get t with
   | some b=>bif b==want then rj c tab n o s k kp else bif vN n o.dst then k (jg o s)else .fail
   | none=>match s.fr.get t with
    | some (.zI .bool x)=>bif vN n o.dst then
      .ite x (bif want then rj c tab n o (s.b7 t true) k kp else k (jg o (s.b7 t true)))
          (bif want then k (jg o (s.b7 t false))else rj c tab n o (s.b7 t false) k kp)
     else .fail
    | some (.yC [])=>bif vN n o.dst then k (jg o s)else .fail
    | _=>.fail
def V7{α:Type}(n:Nat)(ops:Array Oper):List Oper->cQ->(cQ->T α)->(D->St->T α)->T α
 | [],s,k,_=>k s
 | o::l,s,k,kp=>DY c tab n ops o s (λs'=>V7 n ops l s' k kp) kp
def Vg{α:Type}(n:Nat)(ops:Array Oper)(draw:Bool)(fr:Fr)(kn:Kn)(st:St)(k:cQ->T α)(kp:D->St->T α):T α :=
 V7 c tab n ops ops.toList ⟨fr,kn,st,[],[]⟩ (λs=>bif !draw||tz ops s.ks.reverse s.bk.reverse then k s else .fail) (λd zt=>bif draw then .fail else kp d zt)
def tS(n:Nat)(H:Hints):Code->Fr->Kn->St->{α:Type}->(Ey->T α)->T α
 | .skip,fr,kn,st,_,k=>k ⟨.normal,fr,kn,st,true⟩
 | .region id ops draw,fr,kn,st,_,k=>(frz (H.frz id) fr st).bind λz=>Vg c tab n ops draw z.1 kn z.2 (λs=>k ⟨.normal,s.fr,s.kn,s.st,quiet s.ks&&(H.frz id).isEmpty⟩) (λd zt=>k ⟨.kz d,[],[],zt,false⟩)
 | .seq a b,fr,kn,st,_,k=>match H.cut (keyOf a).1 (keyOf a).2 with
  | none=>tS n H a fr kn st λr=>match r.ex with
   | .normal=>tS n H b r.fr r.kn r.st λo=>k { o with q:=r.q&&o.q }
   | _=>k r
  | some (.flat nU)=>bif KU nU then
    (Ta nU (tS n H a fr kn st λo=>match o.ex with
     | .normal=>bif o.q then Yq o.fr o.st nU []else .fail
     | _=>.fail)).bind λx=>tS n H b (eR st nU x++(cM (ql a)++fr)) [] st k
   else .fail
  | some .zbL=>match opsOf a with
   | none=>.fail
   | some ops=>match GL c n ops fr with
    | none=>.fail
    | some p =>
     let non:=tS n H b ((p.c,some (.zI .bool (!p.eq)))::(p.m,some (.zI (.sl p.e) p.l))::fr) [(p.c,some (!p.eq))] st k
     .zL (p.l=[]->∀ r,non.leads r->(tS n H b ((p.c,some (.zI .bool p.eq))::(p.m,some .xp)::(p.s,some .xp)::fr) [(p.c,some p.eq)] st k).leads r) non
  | some (.ways ws)=>bif ws.all λw=>Nat.ble st.length w.sh.bs.length then
    (tS n H a fr kn st λo=>GH ws o.ex (JP o.ex o.fr) o.st).bind λr=>Ij ws r λex out zt=>match CV ex out with
     | none=>.fail
     | some z=>match z.1 with
      | .normal=>tS n H b (z.2++(cM (ql a)++fr)) [] zt λo=>k { o with q:=false }
      | e=>k ⟨e,z.2++(cM (ql a)++fr),[],zt,false⟩
   else .fail
 | .cond x a b,fr,kn,st,_,k=>match cG kn x with
  | some true=>tS n H a fr kn st k
  | some false=>tS n H b fr kn st k
  | none=>match x with
   | .tmp t=>match fr.get t with
    | some (.zI .bool v)=>.ite v (tS n H a fr ((t,some true)::kn) st k) (tS n H b fr ((t,some false)::kn) st k)
    | _=>.fail
   | _=>.fail
 | .block id (.loop b),fr,_,st,_,k=>match H.loop id with
  | none=>.fail
  | some l=>let g:=gh l.gh fr st
   bif Nat.ble g.2.length l.sh.bs.length&&EX l.ps (ql b)&&l.ws.all λw=>Nat.ble l.sh.bs.length w.sh.bs.length then
    (Yq g.1 g.2 l.ps []).bind λp=>(l.sh.un g.1 g.2).bind λs=>(l.F p s).bind λr=>Ij l.ws r λex out zt=>match CV ex out with
     | none=>.fail
     | some z=>match z.1 with
      | .exit id'=>bif Nat.beq id' id then k ⟨.normal,z.2++(cM (ql b)++g.1),[],zt,false⟩else k ⟨.exit id',z.2++(cM (ql b)++g.1),[],zt,false⟩
      | .normal=>.fail
      | e=>k ⟨e,z.2++(cM (ql b)++g.1),[],zt,false⟩
   else .fail
 | .block id a,fr,kn,st,_,k=>tS n H a fr kn st λr=>match r.ex with
  | .exit id'=>bif Nat.beq id' id then k { r with ex:=.normal } else k r
  | _=>k r
 | .exit id,fr,kn,st,_,k=>k ⟨.exit id,fr,kn,st,true⟩
 | .ret,fr,kn,st,_,k=>k ⟨.ret,fr,kn,st,true⟩
 | _,_,_,_,_,_=>.fail
def z0t(n:Nat)(H:Hints)(l:zS)(b:Code)(p:wJ l.ps)(s:l.sh.den):T (l.sh.den⊕gC l.ws) :=
 tS c tab n H b (l.sh.fr s++eR (l.sh.st s) l.ps p) [] (l.sh.st s) λo=>match o.ex with
  | .normal=>(l.sh.un o.fr o.st).bind λs'=>.ret (.inl s')
  | e=>(GH l.ws e (JP e o.fr) o.st).bind λr=>.ret (.inr r)
def PE(H:Hints)(fn:Func)(code:Code)(d:C0)(x:jv d.ps):T (Hw d.rs) :=
 bif Nat.ble (QS d.ps x).length fn.ntmps then
  tS c tab fn.ntmps H code (wh (QS d.ps x) 0) [] [] λo=>match o.ex with
   | .normal=>(bg c o.fr o.st fn.results.toList).bind λds=>PS o.st d.rs ds
   | .ret=>(bg c o.fr o.st fn.results.toList).bind λds=>PS o.st d.rs ds
   | _=>.fail
 else .fail
def EC(H:Hints)(fn:Func)(code:Code)(d:jZ)(x:d.sh.den):T d.out.den :=
 bif Nat.ble d.ks.length fn.ntmps&&Nat.ble d.sh.bs.length d.out.bs.length then
  tS c tab fn.ntmps H code (d.sh.fr x) [] (d.sh.st x) λo=>match o.ex with
   | .normal=>(bg c o.fr o.st fn.results.toList).bind λds=>bif Nat.beq ds.length d.nr then(d.out.un (wh ds 0) o.st).bind λy=>bif (yU d.nr (d.out.fr y)).isSome then .ret y else .fail else .fail
   | .ret=>(bg c o.fr o.st fn.results.toList).bind λds=>bif Nat.beq ds.length d.nr then(d.out.un (wh ds 0) o.st).bind λy=>bif (yU d.nr (d.out.fr y)).isSome then .ret y else .fail else .fail
   | _=>.fail
 else .fail
def FD(H:Hints)(fn:Func)(code:Code)(d:fG)(x:d.sh.den):T (d.out.den⊕d.kz.den) :=
 bif Nat.ble d.ks.length fn.ntmps&&Nat.ble d.sh.bs.length d.out.bs.length&&Nat.ble d.sh.bs.length d.kz.bs.length then
  tS c tab fn.ntmps H code (d.sh.fr x) [] (d.sh.st x) λo=>match o.ex with
   | .normal=>(bg c o.fr o.st fn.results.toList).bind λds=>bif Nat.beq ds.length d.nr then(d.out.un (wh ds 0) o.st).bind λy=>bif (yU d.nr (d.out.fr y)).isSome then .ret (.inl y)else .fail else .fail
   | .ret=>(bg c o.fr o.st fn.results.toList).bind λds=>bif Nat.beq ds.length d.nr then(d.out.un (wh ds 0) o.st).bind λy=>bif (yU d.nr (d.out.fr y)).isSome then .ret (.inl y)else .fail else .fail
   | .kz p=>match p with
    | .iface t v=>bif Nat.beq t d.pt then(d.kz.un [(0,some v)] o.st).bind λz=>match(d.kz.fr z).get 0 with | some _=>.ret (.inr z) | none=>.fail else .fail
    | _=>.fail
   | _=>.fail
 else .fail
end
end Go.AM
namespace Go.AM
set_option linter.unusedSectionVars false
variable [vQ]
open Go.RowKit
section
variable {n:Nat}
theorem SE{st:St}{τ:Ty}{d:D}{x:den τ}(h:(rpX st τ d).leads x):(nA st τ d).leads (.qR τ x):=by
 cases d with
 | qR σ y =>
  simp only[rpX]at h
  simp only[nA]
  cases hy:(wO y:Option (den τ))with
  | none=>rw[hy]at h; exact h.elim
  | some z=>rw[hy]at h; cases h; rfl
 | ptr b off =>
  simp only[rpX]at h
  simp only[nA]
  cases hb:st[b]? with
  | none=>rw[hb]at h; exact h.elim
  | some B =>
   rw[hb]at h
   cases B with
   | var d =>
    simp only at h ⊢
    cases hy:(bif Nat.beq off 0 then dC τ d else none)with
    | none=>rw[hy]at h; exact h.elim
    | some z=>rw[hy]at h; cases h; rfl
   | _=>exact h.elim
 | _=>exact h.elim
theorem LH{st:St}{p:QV}{d:D}{x:den p.ty}(h:(z2a st p d).leads x):(oT st p d).leads (YN p x):=by
 cases p with
 | rp τ=>exact SE h
 | im τ=>exact T.zd.2 ⟨x,h,rfl⟩
theorem D1{st:St}:∀ (l:List QV) (ds:List D) (x:gY l),(M8 st l ds).leads x->(bL st l ds).leads (lR l x)
 | [],[],x,h=>rfl
 | [],_::_,x,h=>h.elim
 | [p],[],x,h=>h.elim
 | [p],[d],x,h=>T.zd.2 ⟨_,LH h,T.zd.2 ⟨[],rfl,rfl⟩⟩
 | [p],_::_::_,x,h=>h.elim
 | p::q::r,[],x,h=>h.elim
 | p::q::r,d::ds,x,h=>by
  obtain⟨y,h1,h2⟩:=T.zd.1 h
  obtain⟨z,h3,h4⟩:=T.zd.1 h2
  cases h4
  exact T.zd.2 ⟨_,LH h1,T.zd.2 ⟨_,D1 (q::r) ds z h3,rfl⟩⟩
theorem z0f{st:St}{p:tP}{d:D}{x:p.den}(h:(unP st p d).leads x):(C6 st p d).leads (mkP p x):=by
 cases p with
 | ty τ=>cases d<;>exact T.zd.2 ⟨x,h,rfl⟩
 | rp τ =>
  have:=SE h
  cases d<;>exact this
 | qW f caps =>
  cases d with
  | qW f' l =>
   simp only[unP]at h
   simp only[C6]
   cases hb:Nat.beq f f' with
   | false=>rw[hb]at h; exact h.elim
   | true=>rw[hb]at h; exact T.zd.2 ⟨_,D1 caps l x h,rfl⟩
  | _=>exact h.elim
theorem WA{st:St}:∀ (l:List tP) (ds:List D) (x:jv l),(Cw st l ds).leads x->(nq st l ds).leads (QS l x)
 | [],[],x,h=>rfl
 | [],_::_,x,h=>h.elim
 | [p],[],x,h=>h.elim
 | [p],[d],x,h=>T.zd.2 ⟨_,z0f h,T.zd.2 ⟨[],rfl,rfl⟩⟩
 | [p],_::_::_,x,h=>h.elim
 | p::q::r,[],x,h=>h.elim
 | p::q::r,d::ds,x,h=>by
  obtain⟨y,h1,h2⟩:=T.zd.1 h
  obtain⟨z,h3,h4⟩:=T.zd.1 h2
  cases h4
  exact T.zd.2 ⟨_,z0f h1,T.zd.2 ⟨_,WA (q::r) ds z h3,rfl⟩⟩
theorem CO(st:St)(τ:Ty)(x:den τ):(Zs st τ (.zI τ x)).leads x:=by
 refine T.zd.2 ⟨.zI τ x,rfl,?_⟩
 rw[T.ua]
 exact nY x
theorem RF(st:St)(τ:Ty)(x:den τ):(rpX st τ (.qR τ x)).leads x:=by
 simp only[rpX]; rw[nY]; rfl
theorem IF(st:St)(p:QV)(x:den p.ty):(z2a st p (YN p x)).leads x:=by
 cases p with
 | rp τ=>exact RF st τ x
 | im τ=>exact CO st τ x
theorem CW(st:St):∀ (l:List QV) (x:gY l),(M8 st l (lR l x)).leads x
 | [],_=>rfl
 | [p],x=>IF st p x
 | p::q::r,x=>T.zd.2 ⟨x.1,IF st p x.1,T.zd.2 ⟨x.2,CW st (q::r) x.2,rfl⟩⟩
theorem OP(st:St)(p:tP)(x:p.den):(unP st p (mkP p x)).leads x:=by
 cases p with
 | ty τ=>exact CO st τ x
 | rp τ=>exact RF st τ x
 | qW f caps=>simp only[unP,mkP]; rw[Nat.beq_refl]; exact CW st caps x
theorem H5(st:St):∀ (l:List tP) (x:jv l),(Cw st l (QS l x)).leads x
 | [],_=>rfl
 | [p],x=>OP st p x
 | p::q::r,x=>T.zd.2 ⟨x.1,OP st p x.1,T.zd.2 ⟨x.2,H5 st (q::r) x.2,rfl⟩⟩
def y4:D->Option Nat | .qW f _=>some f | _=>none
theorem z3R(p:tP){d e:D}(h:y4 d=y4 e):z7W p d=z7W p e:=by
 cases d<;>cases e<;>simp only[y4]at h<;>first | (cases h; done) | (cases p<;>first | rfl | (cases h; rfl))
theorem Li:∀ (ps:List tP) {l m:List D},l.map y4=m.map y4->fits ps l=fits ps m
 | [],[],[],_=>rfl
 | [],_::_,_::_,_=>rfl
 | _,[],_::_,h=>by cases h
 | _,_::_,[],h=>by cases h
 | _::_,[],[],_=>rfl
 | p::ps,d::l,e::m,h=>by
  simp at h
  simp only[fits,z3R p h.1,Li ps h.2]
theorem Sy{st:St}{τ:Ty}{f:Nat}{l:List D}{x:den τ}(h:(Zs st τ (.qW f l)).leads x):False:=by
 obtain⟨y,h1,h2⟩:=T.zd.1 h
 cases h1
 rw[T.ua]at h2
 cases τ<;>simp[dC,D.isAgg,Ty.isAgg,qh,jh,eP]at h2
theorem YW{st:St}{p:tP}{d:D}{x:p.den}(h:(unP st p d).leads x):y4 d=y4 (mkP p x):=by
 cases p with
 | ty τ=>cases d<;>first | rfl | exact(Sy h).elim
 | rp τ=>cases d<;>first | rfl | exact h.elim
 | qW f caps =>
  cases d with
  | qW f' l =>
   simp only[unP]at h
   cases hb:Nat.beq f f' with
   | false=>rw[hb]at h; exact h.elim
   | true=>rw[Nat.eq_of_beq_eq_true hb]; rfl
  | _=>exact h.elim
theorem Jz{st:St}:∀ (l:List tP) (ds:List D) (x:jv l),(Cw st l ds).leads x->ds.map y4=(QS l x).map y4
 | [],[],x,h=>rfl
 | [],_::_,x,h=>h.elim
 | [p],[],x,h=>h.elim
 | [p],[d],x,h=>by show[y4 d]=[y4 (mkP p x)]; rw[YW h]
 | [p],_::_::_,x,h=>h.elim
 | p::q::r,[],x,h=>h.elim
 | p::q::r,d::ds,x,h=>by
  obtain⟨y,h1,h2⟩:=T.zd.1 h
  obtain⟨z,h3,h4⟩:=T.zd.1 h2
  cases h4
  show y4 d::ds.map y4=y4 (mkP p y)::(QS (q::r) z).map y4
  rw[YW h1,Jz (q::r) ds z h3]
def dat(d:D):Bool:=match d with | .zI _ _=>true | .qR _ _=>true | .qW _ _=>true | _=>false
theorem LR(p:tP)(x:p.den):dat (mkP p x)=true:=by cases p<;>rfl
theorem Ce:∀ (l:List tP) (x:jv l),∀ d∈QS l x,dat d=true
 | [],x,d,h=>by cases h
 | [p],x,d,h=>by have h:d∈[mkP p x]:=h; rw[List.mem_singleton]at h; subst h; exact LR p x
 | p::q::r,x,d,h=>by
  rcases List.mem_cons.1 h with rfl | h
  ·exact LR p x.1
  ·exact Ce (q::r) x.2 d h
theorem Tv{a:AK}{d e:D}(h:y4 d=y4 e)(hd:dat e=true)(hf:z6j a e=true):z6j a d=true:=by
 cases e with
 | zI τ x=>cases a<;>first | (cases hf; done) | (cases d<;>first | rfl | (cases h; done))
 | qR τ x=>cases a<;>first | (cases hf; done) | (cases d<;>first | rfl | (cases h; done))
 | qW f l=>cases a<;>first | (cases hf; done) | (cases d<;>first | (cases h; exact hf) | cases h)
 | _=>cases hd
theorem QT:∀ {ks:List AK} {l m:List D},l.map y4=m.map y4->(∀ d∈m,dat d=true)->nC ks m=true->nC ks l=true
 | [],[],[],_,_,_=>rfl
 | [],_::_,[],h,_,_=>by cases h
 | [],_,_::_,_,_,hf=>by cases hf
 | _::_,_,[],_,_,hf=>by cases hf
 | k::ks,[],_::_,h,_,_=>by cases h
 | k::ks,d::l,e::m,h,hd,hf=>by
  simp at h
  simp only[nC,Bool.and_eq_true]at hf ⊢
  exact⟨Tv h.1 (hd e List.mem_cons_self) hf.1,QT h.2 (λx hx=>hd x (List.mem_cons_of_mem _ hx)) hf.2⟩
theorem dh.find_eq:∀ (t:dh) (g:Nat) {l m:List D} {d:C0},l.map y4=m.map y4->(∀ d∈m,dat d=true)->t.find g l=some (.d d)->t.find g m=some (.d d)
 | [],_,_,_,_,_,_,h=>h
 | (g',.d d')::r,g,l,m,d,h,hm,hf=>by
  simp only[dh.find,FnE.fits]at hf ⊢
  rw[<- Li d'.ps h]
  cases hb:Nat.beq g' g&&fits d'.ps l with
  | true=>grind
  | false=>rw[hb,cond_false]at hf; rw[cond_false]; exact dh.find_eq r g h hm hf
 | (g',.s d')::r,g,l,m,d,h,hm,hf=>by
  simp only[dh.find,FnE.fits]at hf ⊢
  cases hb:Nat.beq g' g&&nC d'.ks l with
  | true=>grind
  | false =>
   rw[hb,cond_false]at hf
   have:(Nat.beq g' g&&nC d'.ks m)=false:=by
    cases hg:Nat.beq g' g with
    | false=>rfl
    | true =>
     rw[hg]at hb
     cases hk:nC d'.ks m with
     | false=>rfl
     | true=>rw[QT h hm hk]at hb; cases hb
   rw[this,cond_false]
   exact dh.find_eq r g h hm hf
 | (g',.p d')::r,g,l,m,d,h,hm,hf=>by
  simp only[dh.find,FnE.fits]at hf ⊢
  cases hb:Nat.beq g' g&&nC d'.ks l with
  | true=>grind
  | false =>
   rw[hb,cond_false]at hf
   have:(Nat.beq g' g&&nC d'.ks m)=false:=by
    cases hg:Nat.beq g' g with
    | false=>rfl
    | true =>
     rw[hg]at hb
     cases hk:nC d'.ks m with
     | false=>rfl
     | true=>rw[QT h hm hk]at hb; cases hb
   rw[this,cond_false]
   exact dh.find_eq r g h hm hf
theorem dh.Zz:∀ {t:dh} {g:Nat} {l:List D} {d:FnE},t.find g l=some d->(g,d)∈t
 | [],_,_,_,h=>by cases h
 | (g',d')::r,g,l,d,h=>by
  simp only[dh.find]at h
  cases hb:Nat.beq g' g&&d'.fits l with
  | true =>
   rw[hb,cond_true]at h
   cases h
   simp only[Bool.and_eq_true]at hb
   rw[Nat.eq_of_beq_eq_true hb.1]
   simp
  | false=>rw[hb,cond_false]at h; exact List.mem_cons_of_mem _ (dh.Zz h)
def zD(P:Program)(g:Nat)(d:C0):Prop:=∀ (κ:KS) (x:jv d.ps) (zx:List Value) (y:Hw d.rs),κ.st=[]->(d.F x).leads y->Inv κ->qD κ (QS d.ps x) zx ->
 ux P g zx.toArray κ.w λe w'=>∃ κ':KS,κ'.w=w'/\κ'.st=[]/\Inv κ'/\Ext κ κ'/\wv κ' (.ret (ZU d.rs y)) e
def By(P:Program)(g:Nat):FnE->Prop
 | .d d=>zD P g d
 | .s d=>xU P g d
 | .p d=>kF P g d
def kY(P:Program)(t:dh):Prop:=∀ p∈t,By P p.1 p.2
theorem NS(P:Program):kY P []:=by nofun
theorem Gn{P:Program}{g:Nat}{d:FnE}{t:dh}(h:By P g d)(ht:kY P t):kY P ((g,d)::t):=by
 intro p hp
 rcases List.mem_cons.1 hp with rfl | hp
 ·exact h
 ·exact ht p hp
theorem Ea{P:Program}{g:Nat}{d:C0}{t:dh}(h:zD P g d)(ht:kY P t):kY P ((g,.d d)::t):=Gn (d:=.d d) h ht
theorem B6{P:Program}{g:Nat}{d:jZ}{t:dh}(h:xU P g d)(ht:kY P t):kY P ((g,.s d)::t):=Gn (d:=.s d) h ht
theorem Ba{P:Program}{g:Nat}{d:fG}{t:dh}(h:kF P g d)(ht:kY P t):kY P ((g,.p d)::t):=Gn (d:=.p d) h ht
theorem C0.snd{P:Program}{g:Nat}{d:C0}(h:zD P g d):HT P g d.S:=by
 intro κ args zx rs zt hl hI ha
 unfold C0.S at hl
 split at hl
 ·rename_i xJ
  obtain⟨x,h1,h2⟩:=T.zd.1 hl
  obtain⟨y,h3,h4⟩:=T.zd.1 h2
  cases h4
  exact h κ x zx y xJ h3 hI (QH ha (WA _ _ _ h1))
 ·exact hl.elim
theorem H8{P:Program}{xid:Nat}{tab:dh}{ro:Nat->Bool}(h:kY P tab):∀ g,HT (u7 P xid tab ro).P g ((u7 P xid tab ro).fn g):=by
 intro g κ args zx rs zt hl hI ha
 simp only[u7,dh.call]at hl
 split at hl
 ·rename_i d hd
  exact C0.snd (h _ (dh.Zz hd):By P g (.d d)) κ args zx rs zt hl hI ha
 ·rename_i d hd
  exact jZ.snd (h _ (dh.Zz hd):By P g (.s d)) κ args zx rs zt hl hI ha
 ·rename_i d hd
  exact fG.snd (h _ (dh.Zz hd):By P g (.p d)) κ args zx rs zt hl hI ha
 ·exact hl.elim
section
variable {P:Program} {xid:Nat} {tab:dh} {ro:Nat->Bool} {α:Type}
def IN(c:Ctx)(f:Option D)(args:List (Option D))(st:St)(d:D)(zt:St):Prop :=
 ∃ g caps l,f=some (.qW g caps)/\uu args=some l/\(c.fn (yn g) (ji g l caps) st).leads (.kz d,zt)
def IS(c:Ctx)(o:Oper)(s:cQ)(d:D)(zt:St):Prop :=
 (∃ x t e,o.op=.panic x/\uB s.fr x=some d/\d=.iface t e/\zt=s.st) \/
 ∃ f args nQ,o.op=.call ⟨.value f,args,nQ⟩/\IN c (uB s.fr f) (args.toList.map (uB s.fr)) s.st d zt
theorem Fp{f:Option D}{args:List (Option D)}{st:St}{k:Nat->Option D->St->T α}{kp:D->St->T α}{r:α}(h:(Gj tab f args st k kp).leads r) :
  (∃ d zt,(zH (cz (u7 P xid tab ro) f args) st).leads (d,zt)/\(k (cz (u7 P xid tab ro) f args).kind d zt).leads r) \/
  ∃ d zt,IN (u7 P xid tab ro) f args st d zt/\(kp d zt).leads r:=by
 unfold Gj at h
 split at h
 ·rename_i g caps l hl
  unfold z5c at h
  split at h
  ·exact h.elim
  ·rename_i d hd
   have Nw:(u7 P xid tab ro).sig (yn g) (ji g l caps)=some ⟨d.ps,d.rs⟩:=by simp only[u7]; rw[hd]
   have PT:cz (u7 P xid tab ro) (some (.qW g caps)) args=gZ (u7 P xid tab ro) (yn g) ⟨d.ps,d.rs⟩ (ji g l caps):=by simp only[cz,hl,Nw]
   rw[PT]
   have hfn:∀ {st0:St} (x:jv d.ps) (y:Hw d.rs),(Cw st0 d.ps (ji g l caps)).leads x->(d.F x).leads y->((u7 P xid tab ro).fn (yn g) (QS d.ps x) []).leads (.ret (ZU d.rs y),[]):=by
    intro st0 x y hx hy
    simp only[u7,dh.call]
    rw[dh.find_eq tab (yn g) (Jz _ _ _ hx) (Ce d.ps x) hd]
    exact T.zd.2 ⟨x,H5 [] d.ps x,T.zd.2 ⟨y,hy,rfl⟩⟩
   cases hn : !((ji g l caps).any Jb)with
   | true =>
    rw[hn,cond_true]at h
    obtain⟨x,h1,h2⟩:=T.zd.1 h
    obtain⟨y,h3,h4⟩:=T.zd.1 h2
    have hc:gZ (u7 P xid tab ro) (yn g) ⟨d.ps,d.rs⟩ (ji g l caps)=.val ((nq [] d.ps (ji g l caps)).bind λl=>((u7 P xid tab ro).fn (yn g) l []).bind T4):=by
     unfold gZ; rw[hn]; rfl
    rw[hc]
    refine .inl ⟨_,_,T.zd.2 ⟨_,T.zd.2 ⟨_,WA _ _ _ h1,T.zd.2 ⟨_,hfn x y h1 h3,rfl⟩⟩,rfl⟩,h4⟩
   | false =>
    rw[hn,cond_false]at h
    obtain⟨x,h1,h2⟩:=T.zd.1 h
    obtain⟨y,h3,h4⟩:=T.zd.1 h2
    have hc:gZ (u7 P xid tab ro) (yn g) ⟨d.ps,d.rs⟩ (ji g l caps)=.rd λst=>(nq st d.ps (ji g l caps)).bind λl=>((u7 P xid tab ro).fn (yn g) l []).bind rG:=by
     unfold gZ; rw[hn]; rfl
    rw[hc]
    cases hs:(ZU d.rs y).all rL with
    | false=>rw[hs]at h4; exact h4.elim
    | true =>
     rw[hs]at h4
     refine .inl ⟨_,_,T.zd.2 ⟨_,T.zd.2 ⟨_,WA _ _ _ h1,T.zd.2 ⟨_,hfn x y h1 h3,?_⟩⟩,rfl⟩,h4⟩
     simp only[rG,hs,cond_true]
     rfl
  ·rename_i d hd
   have Nw:(u7 P xid tab ro).sig (yn g) (ji g l caps)=none:=by simp only[u7]; rw[hd]
   have PT:cz (u7 P xid tab ro) (some (.qW g caps)) args=pX (u7 P xid tab ro) (yn g) (ji g l caps):=by simp only[cz,hl,Nw]
   rw[PT]
   obtain⟨ds,zt,h1,h2⟩:=jZ.Tu h
   refine .inl ⟨_,zt,T.zd.2 ⟨(.ret ds,zt),?_,rfl⟩,h2⟩
   simp only[u7,dh.call]
   grind
  ·rename_i d hd
   have Nw:(u7 P xid tab ro).sig (yn g) (ji g l caps)=none:=by simp only[u7]; rw[hd]
   have PT:cz (u7 P xid tab ro) (some (.qW g caps)) args=pX (u7 P xid tab ro) (yn g) (ji g l caps):=by simp only[cz,hl,Nw]
   rw[PT]
   rcases fG.Tu h with⟨ds,zt,h1,h2⟩ | ⟨p,zt,h1,h2⟩
   ·refine .inl ⟨_,zt,T.zd.2 ⟨(.ret ds,zt),?_,rfl⟩,h2⟩
    simp only[u7,dh.call]
    grind
   ·refine .inr ⟨p,zt,⟨g,caps,l,rfl,hl,?_⟩,h2⟩
    simp only[u7,dh.call]
    grind
 ·exact h.elim
theorem lV{o:Oper}{s:cQ}{k:cQ->T α}{kp:D->St->T α}{r:α}(h:(rj (u7 P xid tab ro) tab n o s k kp).leads r) :
  (∃ s',(gb (u7 P xid tab ro) n o s).leads s'/\(k s').leads r)\/∃ d zt,IS (u7 P xid tab ro) o s d zt/\(kp d zt).leads r:=by
 unfold rj at h
 unfold gb
 cases hd:vN n o.dst with
 | false=>rw[hd]at h; exact h.elim
 | true =>
  rw[hd,cond_true]at h
  rw[cond_true]
  obtain⟨dst,op,ty,pos,after,guard⟩:=o
  have gen:((zH (nH (u7 P xid tab ro) s.kn s.fr ⟨dst,op,ty,pos,after,guard⟩) s.st).bind λr=>k ⟨s.fr.put dst r.1,K1 s.kn dst (Kv s.kn op),r.2,(nH (u7 P xid tab ro) s.kn s.fr ⟨dst,op,ty,pos,after,guard⟩).kind::s.ks,w6 (u7 P xid tab ro) (uB s.fr) s.st ⟨dst,op,ty,pos,after,guard⟩::s.bk⟩).leads r ->
    ∃ s',(let cl:=nH (u7 P xid tab ro) s.kn s.fr ⟨dst,op,ty,pos,after,guard⟩; (zH cl s.st).bind λr=>T.ret (⟨s.fr.put dst r.1,K1 s.kn dst (Kv s.kn op),r.2,cl.kind::s.ks,w6 (u7 P xid tab ro) (uB s.fr) s.st ⟨dst,op,ty,pos,after,guard⟩::s.bk⟩:cQ)).leads s'/\(k s').leads r:=by
   intro h
   obtain⟨x,h1,h2⟩:=T.zd.1 h
   exact⟨_,T.zd.2 ⟨x,h1,rfl⟩,h2⟩
  cases op with
  | call cl =>
   obtain⟨callee,args,nQ⟩:=cl
   cases callee with
   | value f =>
    rcases Fp (P:=P) (xid:=xid) (ro:=ro) h with⟨d,zt,h1,h2⟩ | ⟨d,zt,h1,h2⟩
    ·exact .inl ⟨_,T.zd.2 ⟨(d,zt),h1,rfl⟩,h2⟩
    ·exact .inr ⟨d,zt,.inr ⟨f,args,nQ,rfl,h1⟩,h2⟩
   | _=>grind
  | panic x =>
   simp only at h
   split at h
   ·rename_i t e hx
    exact .inr ⟨_,_,.inl ⟨x,t,e,rfl,hx,rfl,rfl⟩,h⟩
   ·exact h.elim
  | _=>grind
theorem MQ{ops:Array Oper}{o:Oper}{s:cQ}{k:cQ->T α}{kp:D->St->T α}{r:α}(hkn:vC s.kn s.fr.get)(h:(DY (u7 P xid tab ro) tab n ops o s k kp).leads r) :
  (∃ s',(stepG (u7 P xid tab ro) n ops o s).leads s'/\(k s').leads r)\/∃ d zt,w9 ops s.fr.get o=some true/\IS (u7 P xid tab ro) o s d zt/\(kp d zt).leads r:=by
 obtain⟨dst,op,ty,pos,after,guard⟩:=o
 cases guard with
 | none =>
  rcases lV h with h | ⟨d,zt,h1,h2⟩
  ·exact .inl h
  ·exact .inr ⟨d,zt,rfl,h1,h2⟩
 | some jw =>
  obtain⟨j,want⟩:=jw
  simp only[DY]at h
  simp only[stepG]
  cases hg:uy ops j with
  | none=>rw[hg]at h; exact h.elim
  | some t =>
   rw[hg]at h
   simp only at h ⊢
   cases hk:s.kn.get t with
   | some b =>
    rw[hk]at h
    simp only at h ⊢
    have hw:w9 ops s.fr.get ⟨dst,op,ty,pos,after,some (j,want)⟩=some (b==want):=by simp[w9,hg,hkn t b hk]
    cases hb:b==want with
    | true =>
     rw[hb,cond_true]at h; rw[cond_true]
     rcases lV h with h | ⟨d,zt,h1,h2⟩
     ·grind
     ·grind
    | false =>
     rw[hb,cond_false]at h; rw[cond_false]
     cases hd:vN n dst with
     | true=>rw[hd,cond_true]at h; exact .inl ⟨_,rfl,h⟩
     | false=>rw[hd,cond_false]at h; exact h.elim
   | none =>
    rw[hk]at h
    simp only at h ⊢
    split at h
    ·rename_i x hf
     rw[hf]
     simp only
     have hw:w9 ops s.fr.get ⟨dst,op,ty,pos,after,some (j,want)⟩=some (x==want):=by simp[w9,hg,hf]
     cases hd:vN n dst with
     | false=>rw[hd]at h; exact h.elim
     | true =>
      rw[hd,cond_true]at h; rw[cond_true]
      rcases h with⟨hx,h⟩ | ⟨hx,h⟩
      ·subst hx
       cases want with
       | true =>
        rw[cond_true]at h
        rcases lV h with⟨s',h1,h2⟩ | ⟨d,zt,h1,h2⟩
        ·exact .inl ⟨s',.inl ⟨rfl,h1⟩,h2⟩
        ·exact .inr ⟨d,zt,hw,h1,h2⟩
       | false=>rw[cond_false]at h; exact .inl ⟨_,.inl ⟨rfl,rfl⟩,h⟩
      ·subst hx
       cases want with
       | true=>rw[cond_true]at h; exact .inl ⟨_,.inr ⟨rfl,rfl⟩,h⟩
       | false =>
        rw[cond_false]at h
        rcases lV h with⟨s',h1,h2⟩ | ⟨d,zt,h1,h2⟩
        ·exact .inl ⟨s',.inr ⟨rfl,h1⟩,h2⟩
        ·exact .inr ⟨d,zt,hw,h1,h2⟩
    ·rename_i hf
     rw[hf]
     simp only
     cases hd:vN n dst with
     | true=>rw[hd,cond_true]at h; exact .inl ⟨_,rfl,h⟩
     | false=>rw[hd,cond_false]at h; exact h.elim
    ·exact h.elim
def EB(c:Ctx)(n:Nat)(ops:Array Oper)(l:List Oper)(s:cQ)(d:D)(zt:St):Prop :=
 ∃ pre o post s1,l=pre++o::post/\(iF c n ops pre s).leads s1/\w9 ops s1.fr.get o=some true/\IS c o s1 d zt
theorem sS{ops:Array Oper}:∀ (l:List Oper) {s:cQ} {k:cQ->T α} {kp:D->St->T α} {r:α},vC s.kn s.fr.get->(∀ o∈l,∃ i:Nat,ops[i]? = some o)->(V7 (u7 P xid tab ro) tab n ops l s k kp).leads r ->
  (∃ s',(iF (u7 P xid tab ro) n ops l s).leads s'/\(k s').leads r)\/∃ d zt,EB (u7 P xid tab ro) n ops l s d zt/\(kp d zt).leads r
 | [],s,k,kp,r,_,_,h=>.inl ⟨s,rfl,h⟩
 | o::l,s,k,kp,r,hk,hl,h=>by
  rcases MQ hk h with⟨s1,h1,h2⟩ | ⟨d,zt,h1,h2,h3⟩
  ·obtain⟨i,hi⟩:=hl o List.mem_cons_self
   obtain⟨_,_,hk1,_⟩:=Y8 hi hk h1
   rcases sS l hk1 (λo' ho=>hl o' (List.mem_cons_of_mem _ ho)) h2 with⟨s2,h3,h4⟩ | ⟨d,zt,⟨pre,o',post,s2,e,g1,g2,g3⟩,h4⟩
   ·exact .inl ⟨s2,T.zd.2 ⟨s1,h1,h3⟩,h4⟩
   ·exact .inr ⟨d,zt,⟨o::pre,o',post,s2,by grind,T.zd.2 ⟨s1,h1,g1⟩,g2,g3⟩,h4⟩
  ·exact .inr ⟨d,zt,⟨[],o,l,s,rfl,rfl,h1,h2⟩,h3⟩
theorem JL{ops:Array Oper}{draw:Bool}{fr:Fr}{kn:Kn}{st:St}{k:cQ->T α}{kp:D->St->T α}{r:α}(hk:vC kn fr.get)(h:(Vg (u7 P xid tab ro) tab n ops draw fr kn st k kp).leads r) :
  (∃ s',(bA (u7 P xid tab ro) n ops draw fr kn st).leads s'/\(k s').leads r)\/∃ d zt,draw=false/\EB (u7 P xid tab ro) n ops ops.toList ⟨fr,kn,st,[],[]⟩ d zt/\(kp d zt).leads r:=by
 rcases sS _ hk (λo ho=>by obtain⟨i,hi,he⟩:=List.getElem_of_mem ho; exact⟨i,by grind⟩) h with⟨s',h1,h2⟩ | ⟨d,zt,h1,h2⟩
 ·cases hd : !draw||tz ops s'.ks.reverse s'.bk.reverse with
  | false=>rw[hd]at h2; exact h2.elim
  | true =>
   rw[hd,cond_true]at h2
   refine .inl ⟨s',T.zd.2 ⟨s',h1,?_⟩,h2⟩
   rw[hd]; rfl
 ·cases draw with
  | true=>exact h2.elim
  | false=>grind
end
end
end Go.AM
namespace Go.AM
set_option linter.unusedSectionVars false
variable [vQ] [Kl]
open Go.RowKit
theorem UH{α β:Type}{f:α->β}{t:T α}{x:α}(h:t.leads x):(C5 f t).leads (f x):=by
 induction t with
 | ret a=>exact congrArg f h
 | ite b p q ip iq=>exact dE h (λh=>⟨h.1,ip h.2⟩) (λh=>⟨h.1,iq h.2⟩)
 | zL p t ih=>exact⟨h.1,ih h.2⟩
 | fail=>exact h.elim
theorem Lq:∀ (l:List It) (d:wJ l) (t:T (wJ l)) (x:wJ l),t.leads x->N0 l d t=x
 | [],_,_,_,_=>rfl
 | [_],d,t,x,h=>((T.Vt d t x).1 h).2
 | i::j::r,d,t,x,h=>by
  have h1:=((T.Vt d.1 _ _).1 (UH (f:=Prod.fst) h)).2
  have h2:=Lq (j::r) d.2 _ _ (UH (f:=Prod.snd) h)
  show(T.val d.1 (C5 Prod.fst t),N0 (j::r) d.2 (C5 Prod.snd t))=x
  rw[h1,h2]
  exact rfl
theorem ML{α:Type}(t:T α)(h:t.Ww):∃ x,t.leads x:=by
 induction t with
 | ret a=>exact⟨a,rfl⟩
 | ite b p q ip iq =>
  unfold T.Ww at h ip iq
  simp only[T.Qo]at h
  cases b with
  | true =>
   obtain⟨x,hx⟩:=ip (by grind)
   exact⟨x,.inl ⟨rfl,hx⟩⟩
  | false =>
   obtain⟨x,hx⟩:=iq (by grind)
   exact⟨x,.inr ⟨rfl,hx⟩⟩
 | zL p t ih =>
  unfold T.Ww at h ih
  simp only[T.Qo]at h
  cases ht:t.Qo with
  | none=>rw[ht]at h ih; obtain⟨x,hx⟩:=ih trivial; exact⟨x,h,hx⟩
  | some q=>rw[ht]at h ih; obtain⟨x,hx⟩:=ih h.2; exact⟨x,h.1,hx⟩
 | fail=>exact h.elim
theorem BW{l:List It}{t:T (wJ l)}{x:wJ l}(h:(Ta l t).leads x):t.leads x:=by
 unfold Ta at h
 split at h
 ·rename_i d hd
  have key:t.Ww->N0 l d t=x->t.leads x:=by
   intro hp hv
   obtain⟨y,hy⟩:=ML t hp
   rw[<- hv,Lq l d t y hy]; exact hy
  split at h
  ·rename_i hn; exact key (by unfold T.Ww; rw[hn]; trivial) h
  ·rename_i p hn; exact key (by unfold T.Ww; rw[hn]; exact h.1) h.2
 ·exact h.elim
def RIs(ws:List Way)(r:gC ws)(w:Way)(x:w.sh.den):Prop:=∀ {α:Type} (k:Ex->Fr->St->T α),Ij ws r k=k w.ex (w.sh.fr x) (w.sh.st x)
theorem H4:∀ (ws:List Way) (ex:Ex) (fr:Fr) (st:St) (r:gC ws),(GH ws ex fr st).leads r->∃ w,w∈ws/\∃ x:w.sh.den,RIs ws r w x/\om w.ex ex=true/\(w.sh.un fr st).leads x
 | [],_,_,_,_,h=>h.elim
 | [w],ex,fr,st,r,h=>by
  have h:(bif om w.ex ex then w.sh.un fr st else .fail:T w.sh.den).leads r:=h
  cases hs:om w.ex ex with
  | false=>rw[hs]at h; exact h.elim
  | true=>rw[hs]at h; exact⟨w,by simp,r,λk=>rfl,hs,h⟩
 | w::v::ws,ex,fr,st,r,h=>by
  have h:(bif om w.ex ex then(w.sh.un fr st).bind λx=>T.ret (Sum.inl x:w.sh.den⊕gC (v::ws))else(GH (v::ws) ex fr st).bind λy=>T.ret (Sum.inr y)).leads r:=h
  cases hs:om w.ex ex with
  | true =>
   rw[hs]at h
   obtain⟨x,h1,h2⟩:=T.zd.1 h
   subst h2
   exact⟨w,by simp,x,λk=>rfl,hs,h1⟩
  | false =>
   rw[hs]at h
   obtain⟨y,h1,h2⟩:=T.zd.1 h
   subst h2
   obtain⟨w',k1,x,k2,k3,k4⟩:=H4 (v::ws) ex fr st y h1
   exact⟨w',List.mem_cons_of_mem _ k1,x,λk=>k2 k,k3,k4⟩
def z7r(κ:KS)(n:Nat)(w:Way)(z:w.sh.den)(a:Act)(fP:Exit):Prop:=∀ q,CV w.ex (w.sh.fr z)=some q->Rel κ n q.2.get a/\Dc κ q.1 fP
theorem z0o{κ0 κ:KS}{n:Nat}{a:Act}{w:Way}{z:w.sh.den}{oex:Ex}{ofr:Fr}{fP:Exit}(hx:Ext κ0 κ)(hI:Inv κ)(hR:Rel κ n ofr.get a)(he:Dc κ oex fP)(hs:om w.ex oex=true)(hl:κ0.st.length<=w.sh.bs.length)
  (h:(w.sh.un (JP oex ofr) κ.st).leads z):∃ κ1:KS,κ1.w=κ.w/\κ1.st=w.sh.st z/\Inv κ1/\Ext κ0 κ1/\z7r κ1 n w z a fP:=by
 have plain:JP oex ofr=ofr->(∀ q,CV w.ex (w.sh.fr z)=some q->q.2=w.sh.fr z/\∀ κ1:KS,Dc κ1 q.1 fP)->∃ κ1:KS,κ1.w=κ.w/\κ1.st=w.sh.st z/\Inv κ1/\Ext κ0 κ1/\z7r κ1 n w z a fP:=by
  intro e1 e2
  rw[e1]at h
  obtain⟨κ1,q1,q2,q3,q4,q5,_⟩:=w.sh.Zg (n:=n) hx hI hR hl h
  exact⟨κ1,q1,q2,q3,q4,λq hq=>by obtain⟨g1,g2⟩:=e2 q hq; rw[g1]; exact⟨q5,g2 κ1⟩⟩
 cases hw:w.ex with
 | normal =>
  rw[hw]at hs
  cases oex<;>first | (cases hs; done) | skip
  exact plain rfl λq hq=>by rw[hw]at hq; cases hq; exact⟨rfl,λ_=>he⟩
 | ret =>
  rw[hw]at hs
  cases oex<;>first | (cases hs; done) | skip
  exact plain rfl λq hq=>by rw[hw]at hq; cases hq; exact⟨rfl,λ_=>he⟩
 | exit id =>
  rw[hw]at hs
  cases oex<;>first | (cases hs; done) | skip
  rename_i id'
  have:id=id':=Nat.eq_of_beq_eq_true hs
  subst this
  exact plain rfl λq hq=>by rw[hw]at hq; cases hq; exact⟨rfl,λ_=>he⟩
 | kz p =>
  rw[hw]at hs
  cases p<;>first | (cases hs; done) | skip
  rename_i t p
  cases oex<;>first | (cases hs; done) | skip
  rename_i p'
  cases p'<;>first | (cases hs; done) | skip
  rename_i t' d
  have:t=t':=Nat.eq_of_beq_eq_true hs
  subst this
  obtain⟨v,rfl,hv⟩:=he
  cases hv with
  | iface _ _ u hu =>
   have Yb:Rel κ 1 (JP (.kz (.iface t d)) ofr).get { tmps := #[u],defers:=Kl.df }:=by
    refine⟨rfl,rfl,λs d' hd => ?_⟩
    simp only[JP,Fr.get]at hd
    cases hb:Nat.beq 0 s with
    | true =>
     have:=Nat.eq_of_beq_eq_true hb
     grind
    | false=>grind
   obtain⟨κ1,q1,q2,q3,q4,q5,_⟩:=w.sh.Zg (n:=1) hx hI Yb hl h
   refine⟨κ1,q1,q2,q3,q4,λq hq => ?_⟩
   rw[hw]at hq
   simp only[CV]at hq
   split at hq
   ·rename_i d' kL
    cases hq
    obtain⟨v',g1,g2⟩:=q5.get 0 d' kL
    cases g1
    exact⟨⟨hR.size,hR.defers,λs d hd=>by cases hd⟩,_,rfl,.iface t d' _ g2⟩
   ·cases hq
theorem iL(st:St):∀ (bs:List Bk) (bd:List Bd),(vI st bs bd).length<=bs.length
 | [],_=>by simp[vI]
 | .arr _::r,[]=>by simp[vI]
 | .arr _::r,.v _ _::_=>by simp[vI]
 | .arr _::r,.a _ _::d=>by have:=iL st r d; simp[vI]; exact this
 | .var _::r,[]=>by simp[vI]
 | .var _::r,.a _ _::_=>by simp[vI]
 | .var _::r,.v _ _::d=>by have:=iL st r d; simp[vI]; exact this
 | .cvar _::r,d=>by have:=iL st r d; cases d<;>(simp[vI]; exact this)
 | .dead::r,d=>by have:=iL st r d; cases d<;>(simp[vI]; exact this)
theorem vO.sR(s:vO)(x:s.den):(s.st x).length<=s.bs.length:=iL _ _ _
theorem XT{l m:Fr}{s:Nat}{d:D}(h:(l++m).get s=some d):l.get s=some d\/m.get s=some d:=by
 induction l with
 | nil=>grind
 | cons p r ih =>
  simp only[List.cons_append,Fr.get]at h ⊢
  grind
theorem N4{l:List Nat}{fr:Fr}{s:Nat}{d:D}(h:(cM l++fr).get s=some d):s ∉ l/\fr.get s=some d:=by
 induction l with
 | nil=>exact⟨by simp,h⟩
 | cons t r ih =>
  simp only[cM,List.map_cons,List.cons_append,Fr.get]at h
  cases ht:Nat.beq t s with
  | true=>grind
  | false =>
   rw[ht,cond_false]at h
   obtain⟨h1,h2⟩:=ih h
   refine⟨?_,h2⟩
   simp
   exact⟨λe=>by subst e; simp at ht,h1⟩
theorem tW{o:Oper}{s:Nat}:∀ {l:List Oper},o∈l->o.dst=some s->s∈dstsOf l
 | p::r,h,hs=>by
  simp only[dstsOf]
  rcases List.mem_cons.1 h with rfl | h
  ·grind
  ·split
   ·exact List.mem_cons_of_mem _ (tW h hs)
   ·exact tW h hs
def Kept(code:Code)(a a':Act):Prop:=∀ s:Nat,s ∉ ql code->a'.tmps[s]? = a.tmps[s]?
section
variable {P:Program} {xid:Nat} {tab:dh} {ro:Nat->Bool} {n:Nat} {H:Hints}
theorem rK{κ κ':KS}{fr out:Fr}{a a':Act}{ws:List Nat}(hR:Rel κ n fr.get a)(hx:Ext κ κ')(ho:Rel κ' n out.get a')(hk:∀ s:Nat,s ∉ ws->a'.tmps[s]? = a.tmps[s]?):Rel κ' n (out++(cM ws++fr)).get a':=by
 refine⟨ho.size,ho.defers,λs d hd => ?_⟩
 rcases XT hd with h | h
 ·exact ho.get s d h
 ·obtain⟨h1,h2⟩:=N4 h
  obtain⟨v,g1,g2⟩:=hR.get s d h2
  exact⟨v,(hk s h1).trans g1,g2.mono hx⟩
theorem HA{c:Ctx}{ops:Array Oper}:∀ (l:List Oper) (s s':cQ),(iF c n ops l s).leads s'->quiet s'.ks=true->s'.st=s.st/\quiet s.ks=true:=by
 have hq:∀ {k:Nat} {ks:List Nat},quiet (k::ks)=true->Nat.beq k 2=false/\quiet ks=true:=by
  intro k ks h
  simp only[quiet,List.all_cons,Bool.and_eq_true,Bool.not_eq_true']at h
  exact⟨h.1,by unfold quiet; exact h.2⟩
 have one:∀ (o:Oper) (s s1:cQ),(gb c n o s).leads s1->quiet s1.ks=true->s1.st=s.st/\quiet s.ks=true:=by
  intro o s s1 h hk
  unfold gb at h
  cases hd:vN n o.dst with
  | false=>rw[hd]at h; exact h.elim
  | true =>
   rw[hd,cond_true]at h
   obtain⟨r,h1,h2⟩:=T.zd.1 h
   cases h2
   obtain⟨g1,g2⟩:=hq hk
   refine⟨?_,g2⟩
   show r.2=s.st
   generalize nH c s.kn s.fr o=cl at h1 g1
   cases cl with
   | val t=>obtain⟨d,_,h3⟩:=T.zd.1 h1; cases h3; rfl
   | rd k=>obtain⟨d,_,h3⟩:=T.zd.1 h1; cases h3; rfl
   | wr k=>cases g1
 have skp:∀ (o:Oper) (s:cQ),quiet (jg o s).ks=true->(jg o s).st=s.st/\quiet s.ks=true:=λo s h=>⟨rfl,(hq h).2⟩
 have gd:∀ (o:Oper) (s s1:cQ),(stepG c n ops o s).leads s1->quiet s1.ks=true->s1.st=s.st/\quiet s.ks=true:=by
  intro o s s1 h hk
  obtain⟨dst,op,ty,pos,after,guard⟩:=o
  cases guard with
  | none=>exact one _ s s1 h hk
  | some jw =>
   obtain⟨j,want⟩:=jw
   simp only[stepG]at h
   cases hg:uy ops j with
   | none=>rw[hg]at h; exact h.elim
   | some t =>
    rw[hg]at h
    simp only at h
    cases hkn:s.kn.get t with
    | some b =>
     rw[hkn]at h
     simp only at h
     cases hb:b==want with
     | true=>grind
     | false =>
      rw[hb,cond_false]at h
      cases hd:vN n dst with
      | false=>rw[hd]at h; exact h.elim
      | true=>rw[hd,cond_true]at h; cases h; exact skp _ s hk
    | none =>
     rw[hkn]at h
     simp only at h
     split at h
     ·cases hd:vN n dst with
      | false=>rw[hd]at h; exact h.elim
      | true =>
       rw[hd,cond_true]at h
       rcases h with⟨_,h⟩ | ⟨_,h⟩
       ·cases want with
        | true=>rw[cond_true]at h; exact one _ (s.b7 t true) s1 h hk
        | false=>rw[cond_false]at h; cases h; exact skp _ (s.b7 t true) hk
       ·cases want with
        | true=>rw[cond_true]at h; cases h; exact skp _ (s.b7 t false) hk
        | false=>rw[cond_false]at h; exact one _ (s.b7 t false) s1 h hk
     ·cases hd:vN n dst with
      | false=>rw[hd]at h; exact h.elim
      | true=>rw[hd,cond_true]at h; cases h; exact skp _ s hk
     ·exact h.elim
 intro l
 induction l with
 | nil=>intro s s' h hk; cases h; exact⟨rfl,hk⟩
 | cons o l ih =>
  intro s s' h hk
  obtain⟨s1,h1,h2⟩:=T.zd.1 h
  obtain⟨g1,g2⟩:=ih s1 s' h2 hk
  obtain⟨k1,k2⟩:=gd o s s1 h1 g2
  exact⟨g1.trans k1,k2⟩
theorem Gc{c:Ctx}{ops:Array Oper}{draw:Bool}{fr:Fr}{kn:Kn}{st:St}{s':cQ}(h:(bA c n ops draw fr kn st).leads s')(hq:quiet s'.ks=true):s'.st=st:=by
 obtain⟨s1,h1,h2⟩:=T.zd.1 h
 cases hd:(!draw||tz ops s1.ks.reverse s1.bk.reverse)with
 | false=>rw[hd]at h2; exact h2.elim
 | true=>rw[hd,cond_true]at h2; cases h2; exact(HA _ _ _ h1 hq).1
theorem Sd{c:Ctx}{κ:KS}{a:Act}{o:Oper}{g:Nat}{args:Array Value}{R:Ending->World->Prop}(vx:(execOp a.eval o).run c.P κ.w=(callFunc g args).run c.P κ.w)
  (h:ux c.P g args κ.w R) {K:Act->World->Prop} {Q:Exit->Act->World->Prop} (hR:∀ e w',R e w'->∃ ch,e=.panicked ch/\Q (.panic ch) a w'):o.wp c.P a κ.w K Q:=by
 unfold Oper.wp
 rw[vx]
 rcases h with⟨h1,h2⟩ | ⟨v,w',h1,h2⟩
 ·rw[h1]
  refine h2.mono λe w' he => ?_
  grind
 ·grind
theorem S6{c:Ctx}{κ:KS}{n:Nat}{a:Act}{o:Oper}{s:cQ}{d:D}{zt:St}(hC:∀ g,HT c.P g (c.fn g))(hI:Inv κ)(hR:Rel κ n s.fr.get a)(xJ:κ.st=s.st)(h:IS c o s d zt){K:Act->World->Prop}{Q:Exit->Act->World->Prop}
  (hQ:∀ (v:Value) (κ':KS),κ'.st=zt->Inv κ'->Ext κ κ'->RD κ' d v->Q (.panic [{ v,recovered:=false }]) a κ'.w):o.wp c.P a κ.w K Q:=by
 have fe:∀ (x:Operand) (z:D),uB s.fr x=some z->RD κ z (a.eval x):=λx z hz=>hR.eval (by rw[<- gW]; exact hz)
 obtain⟨dst,op,ty,pos,after,guard⟩:=o
 rcases h with⟨x,t,e,rfl,hx,rfl,rfl⟩ | ⟨f,args,nQ,rfl,g,caps,l,hp,hl,hc⟩
 ·have hv:=fe x _ hx
  generalize BL:a.eval x=pv at hv
  cases hv with
  | iface _ _ u hu =>
   have vx:(execOp a.eval ⟨dst,.panic x,ty,pos,after,guard⟩).run c.P κ.w=.halt (.panic (.iface t u)) κ.w:=by
    simp[execOp,BL,Instr.panic]
   unfold Oper.wp
   rw[vx]
   exact hQ _ κ xJ hI (Ext.refl κ) (.iface t e u hu)
 ·have hpv:=fe f _ hp
  have hr:=yQ (κ:=κ) (vs:=args.toList.map a.eval) hl (by simp) (λi d v hd hv=>by
      simp only[List.getElem?_map]at hd hv
      cases hi:args.toList[i]? with
      | none=>grind
      | some x=>rw[hi]at hd hv; simp at hd hv; subst hv; exact fe x d hd)
  generalize BL:a.eval f=pv at hpv
  cases hpv with
  | qW _ _ us fj hh2 =>
   have nL:=J7 g hr (⟨fj,hh2⟩:qD κ caps us)
   rw[<- xJ]at hc
   refine Sd (c:=c) (κ:=κ) (g:=yn g) (args:=(ji g (args.toList.map a.eval) us).toArray) ?_ (hC (yn g) κ _ _ _ _ hc hI nL) ?_
   ·exact BN BL
   ·rintro e w' ⟨κ',rfl,h1,h2,h3,v,rfl,h4⟩
    grind
theorem MU{c:Ctx}{κ:KS}{n:Nat}{a:Act}{id:Nat}{ops:Array Oper}{fr:Fr}{kn:Kn}{d:D}{zt:St}(hC:∀ g,HT c.P g (c.fn g))(hI:Inv κ)(hR:Rel κ n fr.get a)(hk:vC kn fr.get)
  (h:EB c n ops ops.toList ⟨fr,kn,κ.st,[],[]⟩ d zt) {Q:Exit->Act->World->Prop}
  (hQ:∀ (v:Value) (a':Act) (κ':KS),κ'.st=zt->Inv κ'->Ext κ κ'->Rel κ' n (Fr.get []) a'->dR ops a a'->RD κ' d v->Q (.panic [{ v,recovered:=false }]) a' κ'.w):(Code.region id ops false).wp c.P Q a κ.w:=by
 obtain⟨pre,o,post,s1,e,h1,h2,h3⟩:=h
 have MX:∀ j:Nat,ops[j]? = (pre++o::post)[j]? := λj=>by rw[<- e]; simp
 obtain⟨ks,g1,g2,_⟩:=dO pre 0 ⟨fr,kn,κ.st,[],[]⟩ s1 (λj=>by
  by_cases hj:j<pre.length
  ·grind
  ·right; omega) hk h1
 have uP:List.range ops.size=List.range' 0 pre.length++pre.length::List.range' (pre.length+1) post.length:=by
  have:ops.size=pre.length+(post.length+1):=by rw[<- Array.length_toList,e]; simp
  rw[this,List.range_eq_range',<- List.range'_append_1,Nat.zero_add,List.range'_succ]
 refine wp_region ?_
 rw[uP]
 refine X0 hC _ _ hI hR rfl g1 λa' κ' e1 e2 e3 e4 e5 => ?_
 rw[wpOps_cons]
 unfold wpOp
 have ho:ops[pre.length]? = some o:=by rw[MX]; simp
 rw[ho]
 simp only
 rw[if_pos (iP e4 h2)]
 exact .inl (S6 hC e2 e4 e1 h3 λv Oo f1 f2 f3 f4=>hQ v a' Oo f1 f2 (e3.trans f3) ⟨e4.size,e4.defers,λs d hd=>by cases hd⟩ e5 f4)
def ZF(P:Program)(n:Nat)(l:zS)(b:Code):Prop:=∀ (κ:KS) (a:Act) (p:wJ l.ps) (s:l.sh.den) (r:gC l.ws),(l.F p s).leads r->κ.st=l.sh.st s->Inv κ ->
 Rel κ n (l.sh.fr s).get a->Rel κ n (eR (l.sh.st s) l.ps p).get a->EX l.ps (ql b)=true->(∀ w∈l.ws,l.sh.bs.length<=w.sh.bs.length) ->
 ∀ Q:Exit->Act->World->Prop,(∀ (w:Way) (x:w.sh.den) (fP:Exit) (a':Act) (κ':KS),w∈l.ws->RIs l.ws r w x->κ'.st=w.sh.st x->Inv κ'->Ext κ κ'->z7r κ' n w x a' fP->Kept b a a'->Q fP a' κ'.w) ->
  (Code.loop b).wp P Q a κ.w
def u6(P:Program)(n:Nat)(H:Hints)(code:Code):Prop:=∀ p∈xj code,∀ l,H.loop p.1=some l->ZF P n l p.2
theorem Sc{kn:Kn}:∀ (l:List Nat) {fr:Fr} {st:St} {r:Fr×St},(frz l fr st).leads r->vC kn fr.get->vC kn r.1.get
 | [],fr,st,r,h,hk=>by cases h; exact hk
 | s::l,fr,st,r,h,hk=>by
  obtain⟨x,h1,h2⟩:=T.zd.1 h
  refine Sc l h2 λt b hb => ?_
  have hf:=hk t b hb
  unfold z3c at h1
  cases hW:Nat.ble 1000000 s with
  | true =>
   rw[hW,cond_true]at h1
   have hfr:x.1=fr:=by
    unfold z38 at h1
    split at h1
    ·split at h1
     ·split at h1
      ·split at h1
       ·obtain⟨_,h1⟩:=h1; cases h1; rfl
       ·exact h1.elim
      ·exact h1.elim
     ·cases h1; rfl
    ·cases h1; rfl
   grind
  | false =>
  rw[hW,cond_false]at h1
  unfold z3I at h1
  split at h1
  ·rename_i b' qy e off len hs
   split at h1
   ·split at h1
    ·obtain⟨_,h1⟩:=h1
     cases h1
     simp only[Fr.get]
     cases ht:Nat.beq s t with
     | true=>rw[<- Nat.eq_of_beq_eq_true ht,hs]at hf; cases hf
     | false=>grind
    ·exact h1.elim
   ·exact h1.elim
  ·cases h1; exact hf
theorem TX{c:Ctx}{t e:Nat}(hu:c.P.underlying t=some (.slice e)){op:BinOp}{b:Bool}(hop:RL op=some b)(px py:Operand)(w:World)(x:Option Addr)(l k:Nat) :
  (do eqGuard op t px py (.slice x l k) (.slice none 0 0); binOp op t (.slice x l k) (.slice none 0 0):Sem Value).run c.P w=.ok (.bool (if b=true then x.isNone else !x.isNone)) w:=by
 cases op<;>simp only[RL]at hop<;>cases hop
 ·have:=run_eql_slice_nil (P:=c.P) w t e x l k hu
  simp only[eqGuard]
  simpa using this
 ·have:=run_neq_slice_nil (P:=c.P) w t e x l k hu
  simp only[eqGuard]
  simpa using this
theorem EG{ops:Array Oper}{fr:Fr}{p:zcg}(hp:GL (u7 P xid tab ro) n ops fr=some p){κ:KS}{a:Act}{kn:Kn}(hI:Inv κ)(hR:Rel κ n fr.get a)(hk:vC kn fr.get){id:Nat}(Q:Exit->Act->World->Prop)
  (hQ:∀ a':Act,Kept (.region id ops false) a a' ->
   ((p.l=[]/\Rel κ n (Fr.get ((p.c,some (.zI .bool p.eq))::(p.m,some .xp)::(p.s,some .xp)::fr)) a')\/Rel κ n (Fr.get ((p.c,some (.zI .bool (!p.eq)))::(p.m,some (.zI (.sl p.e) p.l))::fr)) a')->Q .normal a' κ.w) :
  (Code.region id ops false).wp P Q a κ.w:=by
 unfold GL at hp
 split at hp
 ·rename_i o1 o2 hops
  split at hp
  ·rename_i m s DS PA hg1
   split at hp
   ·rename_i cc op t m' y ty' hd2 ho2 hg2
    split at hp
    ·rename_i b e l et hop hs hel
     cases hc:Nat.beq m m'&&DN y&&Nat.blt m n&&Nat.blt cc n with
     | false=>grind
     | true =>
      rw[hc,cond_true]at hp
      cases hp
      simp only[Bool.and_eq_true]at hc
      obtain⟨⟨⟨hmm,hy⟩,hmn⟩,hcn⟩:=hc
      have:=Nat.eq_of_beq_eq_true hmm
      subst this
      have hy':y=.const (.slice none 0 0):=by
       unfold DN at hy
       grind
      subst hy'
      obtain⟨v,hv,kL⟩:=hR.get s _ hs
      obtain⟨x,k,hvs⟩:∃ (x:Option Addr) (k:Nat),v=.slice x l.length k/\(x=none->l=[]/\k=0):=by
       rcases(kL.vf rfl).X2 with⟨rfl,a0,he⟩ | ⟨blk,off,cap,f,he,wg,wY,h1,h2⟩
       ·grind
       ·grind
      obtain⟨rfl,hvn⟩:=hvs
      have uP:ops.size=2:=by rw[<- Array.length_toList,hops]; rfl
      have e0:ops[0]? = some o1:=by rw[<- Array.getElem?_toList,hops]; rfl
      have e1:ops[1]? = some o2:=by rw[<- Array.getElem?_toList,hops]; rfl
      have zg2:m<n:=Nat.le_of_ble_eq_true hmn
      have zjx:cc<n:=Nat.le_of_ble_eq_true hcn
      have hsl:a.tmps.getD s undef=.slice x l.length k:=by simp[Array.getD_eq_getD_getElem?,hv]
      have wan:∀ (o:Oper) (ys:Nat->Option Value),o.guard=none->True:=λ_ _ _=>trivial
      refine wp_region ?_
      rw[uP,show List.range 2=[0,1]from rfl,wpOps_cons]
      unfold wpOp
      rw[e0]
      simp only
      rw[if_pos (by unfold Region.wanted; rw[hg1])]
      refine .inl ?_
      obtain⟨d1,op1,ty1,z6E,af1,gu1⟩:=o1
      obtain⟨d2,op2,G5,z1o,af2,gu2⟩:=o2
      simp only at DS PA hg1 hd2 ho2 hg2
      subst DS PA hg1 hd2 ho2 hg2
      have hx1:(execOp a.eval ⟨some m,.move (.tmp s),ty1,z6E,af1,none⟩).run P κ.w=.ok (.value (.slice x l.length k)) κ.w:=by
       simp[execOp,Act.eval,hsl]
      unfold Oper.wp
      rw[hx1,Oper.upon_value,wpOps_cons]
      unfold wpOp
      rw[e1]
      simp only
      rw[if_pos (by unfold Region.wanted; rfl)]
      refine .inl ?_
      have fe:(a.put (some m) (.slice x l.length k)).eval (.tmp m)=.slice x l.length k:=by
       have:=hR.size
       simp[Act.eval,Act.put,Array.getD_eq_getD_getElem?,Array.getElem?_setIfInBounds,this,zg2]
      have hu:=uj hel
      have vx:=TX (c:=u7 P xid tab ro) hu hop (.tmp m) (.const (.slice none 0 0)) κ.w x l.length k
      have Ff:(execOp (a.put (some m) (.slice x l.length k)).eval ⟨some cc,.binOp op t (.tmp m) (.const (.slice none 0 0)) ty',G5,z1o,af2,none⟩).run P κ.w=.ok (.value (.bool (if b=true then x.isNone else !x.isNone))) κ.w:=by
       have hex:execOp (a.put (some m) (.slice x l.length k)).eval ⟨some cc,.binOp op t (.tmp m) (.const (.slice none 0 0)) ty',G5,z1o,af2,none⟩ =
        (do Pure.pure (.value (<- (do eqGuard op t (.tmp m) (.const (.slice none 0 0)) ((a.put (some m) (.slice x l.length k)).eval (.tmp m)) (.slice none 0 0); binOp op t ((a.put (some m) (.slice x l.length k)).eval (.tmp m)) (.slice none 0 0))))):=rfl
       rw[hex,fe,Sem.run_bind]
       rw[show(do eqGuard op t (.tmp m) (.const (.slice none 0 0)) (.slice x l.length k) (.slice none 0 0); binOp op t (.slice x l.length k) (.slice none 0 0):Sem Value).run P κ.w=_ from vx]
       rfl
      unfold Oper.wp
      rw[Ff,Oper.upon_value]
      have zcy:∀ (q:Nat) (u:Value) (a1:Act) (t:Nat),(a1.put (some q) u).tmps[t]? = if q=t then(if q<a1.tmps.size then some u else none)else a1.tmps[t]? := by
       intro q u a1 t
       simp only[Act.put,Array.getElem?_setIfInBounds]
      have PM:(a.put (some m) (.slice x l.length k)).tmps.size=n:=by simp[Act.put,hR.size]
      have hs2:((a.put (some m) (.slice x l.length k)).put (some cc) (.bool (if b=true then x.isNone else !x.isNone))).tmps.size=n:=by simp[Act.put,hR.size]
      refine hQ _ (λt ht => ?_) ?_
      ·have hw:ql (.region id ops false)=[m,cc]:=by simp only[ql,hops,dstsOf]
       grind
      ·have get:∀ (t:Nat),((a.put (some m) (.slice x l.length k)).put (some cc) (.bool (if b=true then x.isNone else !x.isNone))).tmps[t]? = if cc=t then some (.bool (if b=true then x.isNone else !x.isNone))else if m=t then some (.slice x l.length k)else a.tmps[t]? := by
        grind
       have z11:∀ {i j:Nat},Nat.beq i j=false->i≠j:=λh e=>by subst e; simp at h
       cases x with
       | none =>
        obtain⟨hl,H7⟩:=hvn rfl
        subst hl H7
        refine .inl ⟨rfl,hs2,hR.defers,λt d hd => ?_⟩
        rw[get]
        simp only[Fr.get]at hd
        cases h1:Nat.beq cc t with
        | true =>
         rw[h1,cond_true]at hd; cases hd
         rw[if_pos (Nat.eq_of_beq_eq_true h1)]
         refine⟨_,rfl,?_⟩
         cases b<;>exact .bool
        | false =>
         rw[h1,cond_false]at hd
         rw[if_neg (z11 h1)]
         cases h2:Nat.beq m t with
         | true=>rw[h2,cond_true]at hd; cases hd; rw[if_pos (Nat.eq_of_beq_eq_true h2)]; exact⟨_,rfl,.xp⟩
         | false =>
          rw[h2,cond_false]at hd
          rw[if_neg (z11 h2)]
          cases h3:Nat.beq s t with
          | true=>rw[h3,cond_true]at hd; cases hd; rw[<- Nat.eq_of_beq_eq_true h3]; exact⟨_,hv,.xp⟩
          | false=>rw[h3,cond_false]at hd; exact hR.get t d hd
       | some x =>
        refine .inr ⟨hs2,hR.defers,λt d hd => ?_⟩
        rw[get]
        simp only[Fr.get]at hd
        cases h1:Nat.beq cc t with
        | true =>
         rw[h1,cond_true]at hd; cases hd
         rw[if_pos (Nat.eq_of_beq_eq_true h1)]
         refine⟨_,rfl,?_⟩
         cases b<;>exact .bool
        | false =>
         rw[h1,cond_false]at hd
         rw[if_neg (z11 h1)]
         cases h2:Nat.beq m t with
         | true=>rw[h2,cond_true]at hd; cases hd; rw[if_pos (Nat.eq_of_beq_eq_true h2)]; exact⟨_,rfl,kL⟩
         | false=>rw[h2,cond_false]at hd; rw[if_neg (z11 h2)]; exact hR.get t d hd
    ·cases hp
   ·cases hp
  ·cases hp
 ·cases hp
theorem Ot{id:Nat}{b:Code}(hb:∀ b',b≠.loop b')(fr:Fr)(kn:Kn)(st:St){α:Type}(k:Ey->T α):tS (u7 P xid tab ro) tab n H (.block id b) fr kn st k=tS (u7 P xid tab ro) tab n H b fr kn st λr=>match r.ex with
  | .exit id'=>bif Nat.beq id' id then k { r with ex:=.normal } else k r
  | _=>k r:=by
 cases b<;>first | rfl | exact absurd rfl (hb _)
theorem pM(hm:(u7 P xid tab ro).P.follows .mixedOrders=true)(hT:kY P tab):∀ (code:Code),u6 P n H code->∀ {fr:Fr} {kn:Kn} {κ:KS} {a:Act} {α:Type} {k:Ey->T α} {r:α},
  (tS (u7 P xid tab ro) tab n H code fr kn κ.st k).leads r->Inv κ->Rel κ n fr.get a->vC kn fr.get ->
  ∀ Q:Exit->Act->World->Prop,(∀ (o:Ey) (fP:Exit) (a':Act) (κ':KS),(k o).leads r->κ'.st=o.st->Inv κ'->Ext κ κ'->Rel κ' n o.fr.get a'->vC o.kn o.fr.get->Kept code a a'->(o.q=true->o.st=κ.st)->Dc κ' o.ex fP->Q fP a' κ'.w) ->
   code.wp P Q a κ.w:=by
 intro code
 induction code with
 | skip=>intro _ fr kn κ a α k r h hI hR hk Q hQ; exact wp_skip (hQ _ _ a κ h rfl hI (Ext.refl κ) hR hk (λ_ _=>rfl) (λ_=>rfl) rfl)
 | exit id=>intro _ fr kn κ a α k r h hI hR hk Q hQ; exact wp_exit (hQ _ _ a κ h rfl hI (Ext.refl κ) hR hk (λ_ _=>rfl) (λ_=>rfl) rfl)
 | ret=>intro _ fr kn κ a α k r h hI hR hk Q hQ; exact wp_ret (hQ _ _ a κ h rfl hI (Ext.refl κ) hR hk (λ_ _=>rfl) (λ_=>rfl) rfl)
 | region id ops draw =>
  intro _ fr kn κ a α k r h hI hR hk Q hQ
  simp only[tS]at h
  obtain⟨z,h0,h⟩:=T.zd.1 h
  obtain⟨κ0,w1,w2,w3,w4,w5⟩:=PB _ h0 hI hR
  have H7:=Sc _ h0 hk
  rcases JL H7 h with⟨s,h1,h2⟩ | ⟨d,zt,rfl,h1,h2⟩
  rotate_left
  ·rw[<- w2]at h1
   rw[<- w1]
   exact MU (H8 hT) w3 w5 H7 h1 λv a' κ' e1 e2 e3 e4 e5 e6=>hQ ⟨.kz d,[],[],zt,false⟩ _ a' κ' h2 e1 e2 (w4.trans e3) e4 (cw _) (λt ht=>e5 t λo ho he=>ht (tW ho he)) (λhq=>by cases hq) ⟨v,rfl,e6⟩
  rw[<- w2]at h1
  have GN:=Oq H7 h1
  rw[<- w1]
  refine(Nq hm (H8 hT) w3 w5 H7 h1 λa' κ' e1 e2 e3 e4 e5=>hQ ⟨.normal,s.fr,s.kn,s.st,quiet s.ks&&(H.frz id).isEmpty⟩ _ a' κ' h2 e1 e2 (w4.trans e3) e4 GN (λt ht=>e5 t λo ho he=>ht (tW ho he)) (λhq => ?_) rfl).1
  simp only[Bool.and_eq_true]at hq
  have he:H.frz id=[]:=List.isEmpty_iff.1 hq.2
  rw[he]at h0
  cases h0
  exact(Gc h1 hq.1).trans w2
 | seq x y ix iy =>
  intro hl fr kn κ a α k r h hI hR hk Q hQ
  have hlx:u6 P n H x:=λp hp=>hl p (by simp only[xj,List.mem_append]; exact .inl hp)
  have hly:u6 P n H y:=λp hp=>hl p (by simp only[xj,List.mem_append]; exact .inr hp)
  have kx:∀ {a a':Act},Kept x a a'->Kept (.seq x y) a a':=λh s hs=>h s λe=>hs (by simp only[ql,List.mem_append]; exact .inl e)
  have ky:∀ {a a':Act},Kept y a a'->Kept (.seq x y) a a':=λh s hs=>h s λe=>hs (by simp only[ql,List.mem_append]; exact .inr e)
  simp only[tS]at h
  split at h
  ·refine wp_seq (ix hlx h hI hR hk _ λo fP a' κ' e0 e1 e2 e3 e4 OB e5 e5q e6 => ?_)
   cases hex:o.ex<;>rw[hex]at e0 e6<;>simp only at e0
   ·cases e6
    refine iy hly (κ:=κ') (e1▸e0) e2 e4 OB Q λo' Hf a'' Oo f0 f1 f2 f3 f4 Yv f5 DF f6=>hQ { o' with q:=o.q&&o'.q } Hf a'' Oo f0 f1 f2 (e3.trans f3) f4 Yv (λs hs=>(ky f5 s hs).trans (kx e5 s hs)) ?_ f6
    grind
   ·cases e6; exact hQ o _ a' κ' e0 e1 e2 e3 e4 OB (kx e5) e5q (by rw[hex]; rfl)
   ·cases e6; exact hQ o _ a' κ' e0 e1 e2 e3 e4 OB (kx e5) e5q (by rw[hex]; rfl)
   ·obtain⟨v,rfl,hv⟩:=e6
    exact hQ o _ a' κ' e0 e1 e2 e3 e4 OB (kx e5) e5q (by rw[hex]; exact⟨v,rfl,hv⟩)
  ·rename_i nU hcu
   cases hw:KU nU with
   | false=>rw[hw]at h; exact h.elim
   | true =>
    rw[hw,cond_true]at h
    obtain⟨z,h1,h2⟩:=T.zd.1 h
    have h1:=BW h1
    refine wp_seq (ix hlx h1 hI hR hk _ λo fP a' κ' e0 e1 e2 e3 e4 OB e5 e5q e6 => ?_)
    cases hex:o.ex<;>rw[hex]at e0 e6<;>simp only at e0
    ·cases e6
     cases hq:o.q with
     | false=>rw[hq]at e0; exact e0.elim
     | true =>
      rw[hq,cond_true]at e0
      have xJ:o.st=κ.st:=e5q hq
      have hRz:Rel κ' n (eR κ.st nU z).get a':=by
       refine⟨e4.size,e4.defers,λt d hd => ?_⟩
       obtain⟨k',y',d0,g0,g1,g2,g3⟩:=(Q5 (p:=λ_=>true) (zt:=κ.st) nU [] z (λ_ _=>rfl) e0).2 _ (get_mem hd)
       cases g3
       obtain⟨v,q1,q2⟩:=e4.get _ _ g1
       have Xk:=List.all_eq_true.1 hw _ g0
       have Xk:V1 k'=true:=Xk
       have hwk:Wk κ' κ':=⟨rfl,rfl,rfl,rfl,λb d h=>⟨d,h⟩,λb v e xs h=>.inl h,λb v e xs h=>h,λb h=>h⟩
       have wg:CJ [] k'=true:=by cases k'<;>first | rfl | cases Xk
       rw[<- e1]at g2
       have:=Hq hwk (bs:=[]) wg (λ_ _=>rfl) (zt:=κ'.st) (λ_ _=>rfl) (λ_ h=>by simp[rowAt]at h) g2 q2
       grind
      have Yb:=rK hR e3 hRz e5
      refine iy hly (κ:=κ') (by rw[e1,xJ]; exact h2) e2 Yb (cw _) Q λo' Hf a'' Oo f0 f1 f2 f3 f4 Yv f5 DF f6=>hQ o' Hf a'' Oo f0 f1 f2 (e3.trans f3) f4 Yv (λs hs=>(ky f5 s hs).trans (kx e5 s hs)) (λhq=>(DF hq).trans (e1.trans xJ)) f6
    ·exact e0.elim
    ·exact e0.elim
    ·exact e0.elim
  ·rename_i hcu
   cases hop:opsOf x with
   | none=>rw[hop]at h; exact h.elim
   | some ops =>
    rw[hop]at h
    simp only at h
    cases hp:GL (u7 P xid tab ro) n ops fr with
    | none=>rw[hp]at h; exact h.elim
    | some p =>
     rw[hp]at h
     obtain⟨Uo,zb6⟩:=h
     obtain⟨id,rfl⟩:∃ id,x=.region id ops false:=by
      cases x with
      | region id ops' draw =>
       cases draw with
       | true=>cases hop
       | false=>cases hop; exact⟨id,rfl⟩
      | _=>cases hop
     refine wp_seq (EG hp hI hR hk _ ?_)
     intro a' hk1 z8U
     rcases z8U with⟨hl,Yb⟩ | Yb
     ·refine iy hly (κ:=κ) (Uo hl _ zb6) hI Yb (λt b hb => ?_) Q λo' Hf a'' Oo f0 f1 f2 f3 f4 Yv f5 DF f6=>hQ o' Hf a'' Oo f0 f1 f2 f3 f4 Yv (λs hs=>(ky f5 s hs).trans (kx hk1 s hs)) DF f6
      simp only[Kn.get]at hb
      simp only[Fr.get]
      grind
     ·refine iy hly (κ:=κ) zb6 hI Yb (λt b hb => ?_) Q λo' Hf a'' Oo f0 f1 f2 f3 f4 Yv f5 DF f6=>hQ o' Hf a'' Oo f0 f1 f2 f3 f4 Yv (λs hs=>(ky f5 s hs).trans (kx hk1 s hs)) DF f6
      simp only[Kn.get]at hb
      simp only[Fr.get]
      cases ht:Nat.beq p.c t with
      | true=>rw[ht,cond_true]at hb; rw[cond_true]; cases hb; rfl
      | false=>rw[ht,cond_false]at hb; cases hb
  ·rename_i ws hcu
   cases hw:ws.all λw=>Nat.ble κ.st.length w.sh.bs.length with
   | false=>rw[hw]at h; exact h.elim
   | true =>
    rw[hw,cond_true]at h
    obtain⟨rr,Wp,h2⟩:=T.zd.1 h
    refine wp_seq (ix hlx Wp hI hR hk _ λo fP a' κ' e0 e1 e2 e3 e4 OB e5 _ e6 => ?_)
    obtain⟨w,g1,z,g2,g3,g4⟩:=H4 _ _ _ _ _ e0
    have hwl:=List.all_eq_true.1 hw w g1
    obtain⟨κ1,q1,q2,q3,q4,q5⟩:=z0o (n:=n) e3 e2 e4 e6 g3 (Nat.le_of_ble_eq_true hwl) (by rw[e1]; exact g4)
    rw[g2]at h2
    split at h2
    ·exact h2.elim
    rename_i zz hzz
    obtain⟨q5,Su⟩:=q5 zz hzz
    have Yb:=rK hR q4 q5 e5
    rw[<- q1]
    cases hex:zz.1<;>rw[hex]at h2 Su<;>simp only at h2
    ·cases Su
     exact iy hly (κ:=κ1) (by rw[q2]; exact h2) q3 Yb (cw _) Q λo' Hf a'' Oo f0 f1 f2 f3 f4 Yv f5 _ f6=>hQ { o' with q:=false } Hf a'' Oo f0 f1 f2 (q4.trans f3) f4 Yv (λs hs=>(ky f5 s hs).trans (kx e5 s hs)) (λhq=>by cases hq) f6
    ·cases Su; exact hQ _ _ a' κ1 h2 q2 q3 q4 Yb (cw _) (kx e5) (λhq=>by cases hq) rfl
    ·cases Su; exact hQ _ _ a' κ1 h2 q2 q3 q4 Yb (cw _) (kx e5) (λhq=>by cases hq) rfl
    ·obtain⟨v,rfl,hv⟩:=Su
     exact hQ _ _ a' κ1 h2 q2 q3 q4 Yb (cw _) (kx e5) (λhq=>by cases hq) ⟨v,rfl,hv⟩
 | cond x p q ip iq =>
  intro hl fr kn κ a α k r h hI hR hk Q hQ
  have hlp:u6 P n H p:=λz hz=>hl z (by simp only[xj,List.mem_append]; exact .inl hz)
  have Ob:u6 P n H q:=λz hz=>hl z (by simp only[xj,List.mem_append]; exact .inr hz)
  have kp:∀ {a a':Act},Kept p a a'->Kept (.cond x p q) a a':=λh s hs=>h s λe=>hs (by simp only[ql,List.mem_append]; exact .inl e)
  have kq:∀ {a a':Act},Kept q a a'->Kept (.cond x p q) a a':=λh s hs=>h s λe=>hs (by simp only[ql,List.mem_append]; exact .inr e)
  have hQp:=λ(o:Ey) (fP:Exit) (a':Act) (κ':KS) f0 f1 f2 f3 f4 Yv (f5:Kept p a a') DF f6=>hQ o fP a' κ' f0 f1 f2 f3 f4 Yv (kp f5) DF f6
  have hQq:=λ(o:Ey) (fP:Exit) (a':Act) (κ':KS) f0 f1 f2 f3 f4 Yv (f5:Kept q a a') DF f6=>hQ o fP a' κ' f0 f1 f2 f3 f4 Yv (kq f5) DF f6
  simp only[tS]at h
  split at h
  ·rename_i hx
   have hv:qi fr.get x=some (.zI .bool true):=bp hk hx
   exact wp_cond_true (hR.eval hv).jW (ip hlp h hI hR hk Q hQp)
  ·rename_i hx
   have hv:qi fr.get x=some (.zI .bool false):=bp hk hx
   exact wp_cond_false (hR.eval hv).jW (iq Ob h hI hR hk Q hQq)
  ·split at h
   ·split at h
    ·rename_i v hv
     have he:=hv
     rw[show ∀ t,fr.get t=qi fr.get (.tmp t)from λ_=>rfl]at he
     rcases h with⟨rfl,h⟩ | ⟨rfl,h⟩
     ·exact wp_cond_true (hR.eval he).jW (ip hlp h hI hR (pW hk hv) Q hQp)
     ·exact wp_cond_false (hR.eval he).jW (iq Ob h hI hR (pW hk hv) Q hQq)
    ·exact h.elim
   ·exact h.elim
 | block id b ib =>
  intro hl fr kn κ a α k r h hI hR hk Q hQ
  by_cases hb:∃ b',b=.loop b'
  ·obtain⟨b,rfl⟩:=hb
   simp only[tS]at h
   split at h
   ·exact h.elim
   ·rename_i l hll
    cases hc:Nat.ble (gh l.gh fr κ.st).2.length l.sh.bs.length&&EX l.ps (ql b)&&l.ws.all λw=>Nat.ble l.sh.bs.length w.sh.bs.length with
    | false=>rw[hc]at h; exact h.elim
    | true =>
     rw[hc,cond_true]at h
     simp only[Bool.and_eq_true,List.all_eq_true]at hc
     obtain⟨⟨Nn,SN⟩,hc3⟩:=hc
     obtain⟨p,h1,h⟩:=T.zd.1 h
     obtain⟨s,h2,h⟩:=T.zd.1 h
     obtain⟨rr,h3,h4⟩:=T.zd.1 h
     obtain⟨κ1,w1,w2,w3,w4,w5⟩:=iK l.gh fr κ hI hR
     rw[<- w2]at h1 h2 Nn
     obtain⟨κ2,q1,q2,q3,q4,q5,_⟩:=l.sh.Zg (n:=n) (Ext.refl κ1) w3 w5 (Nat.le_of_ble_eq_true Nn) h2
     -- the loop's parameters
     have hps:Rel κ2 n (eR (l.sh.st s) l.ps p).get a:=by
      refine⟨w5.size,w5.defers,λt d hd => ?_⟩
      obtain⟨k',y,d0,g0,g1,g2,g3⟩:=(Q5 (p:=λ_=>true) (zt:=l.sh.st s) l.ps [] p (λ_ _=>rfl) h1).2 _ (get_mem hd)
      cases g3
      obtain⟨v,e1,e2⟩:=w5.get _ _ g1
      have Xk:=List.all_eq_true.1 SN _ g0
      simp only[Bool.and_eq_true]at Xk
      have hwk:Wk κ1 κ1:=⟨rfl,rfl,rfl,rfl,λb d h=>⟨d,h⟩,λb v e xs h=>.inl h,λb v e xs h=>h,λb h=>h⟩
      have wg:CJ [] k'=true:=by cases k'<;>first | rfl | cases Xk.1
      have:=Hq hwk (bs:=[]) wg (λ_ _=>rfl) (zt:=κ1.st) (λ_ _=>rfl) (λ_ h=>by simp[rowAt]at h) g2 e2
      have he:sb κ1.st k' y=sb (l.sh.st s) k' y:=by cases k'<;>first | rfl | cases Xk.1
      rw[he]at this
      exact⟨v,e1,this.mono q4⟩
     have z2N:Ext κ κ2:=w4.trans q4
     have Qq:κ2.w=κ.w:=q1.trans w1
     rw[<- Qq]
     refine wp_block (hl (id,b) (by simp[xj]) l hll κ2 a p s rr h3 q2 q3 q5 hps SN (λw hw=>Nat.le_of_ble_eq_true (hc3 w hw)) _ λw x fP a' κ' f1 f2 f3 f4 f5 f6 f7 => ?_)
     rw[f2]at h4
     split at h4
     ·exact h4.elim
     rename_i zz hzz
     obtain⟨f6,f8⟩:=f6 zz hzz
     have hR':Rel κ' n (zz.2++(cM (ql b)++(gh l.gh fr κ.st).1)).get a':=rK w5 (q4.trans f5) f6 f7
     have M7:Kept (.block id (.loop b)) a a':=f7
     cases hwx:zz.1<;>rw[hwx]at h4 f8<;>simp only at h4
     ·exact h4.elim
     ·rename_i id'
      cases f8
      simp only[Exit.inBlock]
      cases Hs:Nat.beq id' id with
      | true =>
       rw[Hs,cond_true]at h4
       have:=Nat.eq_of_beq_eq_true Hs
       subst this
       rw[if_pos rfl]
       exact hQ _ _ a' κ' h4 f3 f4 (z2N.trans f5) hR' (cw _) M7 (λhq=>by cases hq) rfl
      | false =>
       rw[Hs,cond_false]at h4
       rw[if_neg (λe=>by subst e; simp at Hs)]
       exact hQ _ _ a' κ' h4 f3 f4 (z2N.trans f5) hR' (cw _) M7 (λhq=>by cases hq) rfl
     ·cases f8
      exact hQ _ _ a' κ' h4 f3 f4 (z2N.trans f5) hR' (cw _) M7 (λhq=>by cases hq) rfl
     ·obtain⟨v,rfl,hv⟩:=f8
      exact hQ _ _ a' κ' h4 f3 f4 (z2N.trans f5) hR' (cw _) M7 (λhq=>by cases hq) ⟨v,rfl,hv⟩
  ·have Hs:∀ b',b≠.loop b':=λb' e=>hb ⟨b',e⟩
   rw[Ot Hs]at h
   refine wp_block (ib (λz hz=>hl z (by rw[Ds Hs]; exact hz)) h hI hR hk _ λo fP a' κ' f0 f1 f2 f3 f4 Yv f5 DF f6 => ?_)
   have M7:Kept (.block id b) a a':=f5
   cases hox:o.ex<;>rw[hox]at f0 f6<;>simp only at f0
   ·cases f6; exact hQ o _ a' κ' f0 f1 f2 f3 f4 Yv M7 DF (by rw[hox]; rfl)
   ·rename_i id'
    cases f6
    simp only[Exit.inBlock]
    cases hbq:Nat.beq id' id with
    | true =>
     rw[hbq,cond_true]at f0
     have:=Nat.eq_of_beq_eq_true hbq
     subst this
     rw[if_pos rfl]
     exact hQ _ _ a' κ' f0 f1 f2 f3 f4 Yv M7 DF rfl
    | false =>
     rw[hbq,cond_false]at f0
     rw[if_neg (λe=>by subst e; simp at hbq)]
     exact hQ o _ a' κ' f0 f1 f2 f3 f4 Yv M7 DF (by rw[hox]; rfl)
   ·cases f6; exact hQ o _ a' κ' f0 f1 f2 f3 f4 Yv M7 DF (by rw[hox]; rfl)
   ·obtain⟨v,rfl,hv⟩:=f6
    exact hQ o _ a' κ' f0 f1 f2 f3 f4 Yv M7 DF (by rw[hox]; exact⟨v,rfl,hv⟩)
 | _=>intro _ fr kn κ a α k r h; simp only[tS]at h; exact h.elim
end
end Go.AM
namespace Go.AM
set_option linter.unusedSectionVars false
variable [vQ]
open Go.RowKit
section
variable [Kl]
variable {P:Program} {xid:Nat} {tab:dh} {ro:Nat->Bool} {n:Nat} {H:Hints}
theorem Lc{b:Code}{st zt:St}:∀ (nU:List It) (z:wJ nU),EX nU (ql b)=true->eR st nU z=eR zt nU z/\∀ q∈eR st nU z,q.1 ∉ ql b:=by
 intro nU
 induction nU with
 | nil=>intro z _; exact⟨rfl,λq hq=>by cases hq⟩
 | cons i r ih =>
  intro z h
  have hi:∀ y:i.den,Kj st i y=Kj zt i y/\∀ q∈Kj st i y,q.1 ∉ ql b:=by
   intro y
   simp only[EX,List.all_cons,Bool.and_eq_true]at h
   cases i with
   | s t k =>
    obtain⟨h1,_⟩:=h
    simp at h1
    refine⟨by cases k<;>first | rfl | (simp[V1]at h1),λq hq => ?_⟩
    simp only[Kj,List.mem_singleton]at hq
    subst hq
    intro hm
    have:=h1.2
    simp only[z4G,Bool.not_eq_true',List.any_eq_false]at this
    exact this t hm (by simp)
   | _=>grind
  cases r with
  | nil =>
   have e1:=JB st i z
   have e2:=JB zt i z
   grind
  | cons j r =>
   have e1:=X8 st i j r z
   have e2:=X8 zt i j r z
   have hr:EX (j::r) (ql b)=true:=by
    unfold EX at h ⊢
    grind
   grind
theorem z3L(hm:(u7 P xid tab ro).P.follows .mixedOrders=true)(hT:kY P tab){l:zS}{b:Code}(hL:u6 P n H b)(R:wJ l.ps->l.sh.den->T (l.sh.den⊕gC l.ws))
  (round:∀ p s,z0t (u7 P xid tab ro) tab n H l b p s=R p s) (hF:∀ p s,l.F p s=T.loop (R p) s):ZF P n l b:=by
 intro κ a p s r hr xJ hI hR hRp hps hws Q hQ
 rw[hF,T.eV]at hr
 obtain⟨m,hm'⟩:=hr
 have zhb:=λ(st zt:St)=>(Lc (b:=b) (st:=st) (zt:=zt) l.ps p hps).1
 have z88:∀ (st:St) (t:Nat) (d:D),(eR st l.ps p).get t=some d->t ∉ ql b:=λst t d hd=>(Lc (b:=b) (st:=st) (zt:=st) l.ps p hps).2 _ (get_mem hd)
 refine wp_loop_ghost (λm a' w'=>∃ s',T.Iter (R p) m s' r/\∃ κ':KS,κ'.w=w'/\κ'.st=l.sh.st s'/\Inv κ'/\Ext κ κ'/\Rel κ' n (l.sh.fr s').get a'/\Rel κ' n (eR (l.sh.st s) l.ps p).get a'/\Kept b a a') m
  ⟨s,hm',κ,rfl,xJ,hI,Ext.refl κ,hR,hRp,λ_ _=>rfl⟩ ?_
 rintro m a1 w1 ⟨s1,hit,κ1,rfl,g4,g5,g6,g7a,g7b,g8⟩
 have g7:Rel κ1 n (l.sh.fr s1++eR (l.sh.st s1) l.ps p).get a1:=⟨g7a.size,g7a.defers,λt d hd=>by
  rcases XT hd with hd | hd
  ·exact g7a.get t d hd
  ·rw[zhb _ (l.sh.st s)]at hd; exact g7b.get t d hd⟩
 cases hit with
 | done h1 =>
  rw[<- round]at h1
  refine pM hm hT b hL (κ:=κ1) (by rw[g4]; exact h1) g5 g7 (cw _) _ λo fP a' κ' e0 e1 e2 e3 e4 OB e5 _ e6 => ?_
  have fin:∀ exo,Dc κ' exo fP->(GH l.ws exo (JP exo o.fr) o.st).leads r->Q fP a' κ'.w:=λexo e6 e0=>by
   obtain⟨w,k1,x,k2,k3,k4⟩:=H4 _ _ _ _ _ e0
   have hlen:κ1.st.length<=w.sh.bs.length:=by rw[g4]; exact Nat.le_trans (vO.sR _ _) (hws w k1)
   obtain⟨κ2,q1,q2,q3,q4,q5⟩:=z0o (n:=n) e3 e2 e4 e6 k3 hlen (by rw[e1]; exact k4)
   have:=hQ w x fP a' κ2 k1 k2 q2 q3 (g6.trans q4) q5 (λt ht=>(e5 t ht).trans (g8 t ht))
   grind
  have Le:∀ {z:l.sh.den⊕gC l.ws},((GH l.ws o.ex (JP o.ex o.fr) o.st).bind λr=>T.ret (Sum.inr r:l.sh.den⊕gC l.ws)).leads z->z=Sum.inr r->(GH l.ws o.ex (JP o.ex o.fr) o.st).leads r:=by
   intro z h hz
   obtain⟨y,h1,h2⟩:=T.zd.1 h
   have h2:(Sum.inr y:l.sh.den⊕gC l.ws)=z:=h2
   grind
  cases hox:o.ex<;>rw[hox]at e0 e6 Le<;>simp only at e0
  ·obtain⟨y,_,h2⟩:=T.zd.1 e0
   have h2:(Sum.inl y:l.sh.den⊕gC l.ws)=Sum.inr r:=h2
   cases h2
  ·have q:=fin _ e6 (Le e0 rfl); cases e6; exact q
  ·have q:=fin _ e6 (Le e0 rfl); cases e6; exact q
  ·have q:=fin _ e6 (Le e0 rfl); obtain⟨v,rfl,hv⟩:=e6; exact q
 | step h1 hit =>
  rename_i m s2
  rw[<- round]at h1
  refine pM hm hT b hL (κ:=κ1) (by rw[g4]; exact h1) g5 g7 (cw _) _ λo fP a' κ' e0 e1 e2 e3 e4 OB e5 _ e6 => ?_
  have M6:((GH l.ws o.ex (JP o.ex o.fr) o.st).bind λr=>T.ret (Sum.inr r:l.sh.den⊕gC l.ws)).leads (Sum.inl s2)->False:=by
   intro h
   obtain⟨y,h1,h2⟩:=T.zd.1 h
   have h2:(Sum.inr y:l.sh.den⊕gC l.ws)=Sum.inl s2:=h2
   cases h2
  cases hox:o.ex<;>rw[hox]at e0 e6 M6<;>simp only at e0
  ·cases e6
   obtain⟨y,h1,h2⟩:=T.zd.1 e0
   have h2:(Sum.inl y:l.sh.den⊕gC l.ws)=Sum.inl s2:=h2
   cases h2
   have hlen:κ1.st.length<=l.sh.bs.length:=by rw[g4]; exact vO.sR _ _
   obtain⟨κ2,q1,q2,q3,q4,q5,_⟩:=l.sh.Zg (n:=n) e3 e2 e4 hlen (by rw[e1]; exact h1)
   refine⟨m,Nat.lt_succ_self _,s2,hit,κ2,q1,q2,q3,g6.trans q4,q5,⟨q5.size,q5.defers,λt d hd => ?_⟩,λt ht=>(e5 t ht).trans (g8 t ht)⟩
   obtain⟨v,r1,r2⟩:=g7b.get t d hd
   exact⟨v,(e5 t (z88 _ t d hd)).trans r1,r2.mono q4⟩
  ·exact(M6 e0).elim
  ·exact(M6 e0).elim
  ·exact(M6 e0).elim
end
section
variable {P:Program} {xid:Nat} {tab:dh} {ro:Nat->Bool} {n:Nat} {H:Hints}
theorem XH{κ:KS}(hI:Inv κ):∀ (rs:List Ty) (ds:List D) (x:Hw rs) (vs:List Value),(PS κ.st rs ds).leads x->qD κ ds vs->qD κ.all (ZU rs x) vs/\∀ d∈ZU rs x,XS d=true
 | [],[],x,vs,h,hd=>by rw[hd.qg]; exact⟨.nil,λd hd=>by cases hd⟩
 | [],_::_,x,vs,h,hd=>h.elim
 | [τ],[],x,vs,h,hd=>h.elim
 | [τ],[d],x,vs,h,hd=>by
  obtain⟨v,us,rfl,h1,h2⟩:=hd.cons_inv
  rw[h2.qg]
  refine⟨.cons (Q7 hI h1 h) .nil,λd hd => ?_⟩
  have hd:d∈[D.zI τ x]:=hd
  rw[List.mem_singleton]at hd
  subst hd; rfl
 | [τ],_::_::_,x,vs,h,hd=>h.elim
 | τ::σ::r,[],x,vs,h,hd=>h.elim
 | τ::σ::r,d::ds,x,vs,h,hd=>by
  obtain⟨y,h1,h2⟩:=T.zd.1 h
  obtain⟨z,h3,h4⟩:=T.zd.1 h2
  cases h4
  obtain⟨v,us,rfl,k1,k2⟩:=hd.cons_inv
  obtain⟨g1,g2⟩:=XH hI (σ::r) ds z us h3 k2
  refine⟨.cons (Q7 hI k1 h1) g1,λd hd => ?_⟩
  rcases List.mem_cons.1 hd with rfl | hd
  ·rfl
  ·grind
theorem zdk(hm:(u7 P xid tab ro).P.follows .mixedOrders=true)(hT:kY P tab){f:Nat}{fn:Func}{code:Code}(hf:P.funcs[f]? = some fn)(hb:fn.body=some code)
  (hn:(fn.name == "runtime.NumGoroutine")=false) (hL:u6 P fn.ntmps H code) {d:C0} (h:∀ x,PE (u7 P xid tab ro) tab H fn code d x=d.F x):zD P f d:=by
 intro κ x zx y xJ hy hI ha
 rw[<- h]at hy
 unfold PE at hy
 cases hle:Nat.ble (QS d.ps x).length fn.ntmps with
 | false=>rw[hle]at hy; exact hy.elim
 | true =>
  rw[hle,cond_true]at hy
  have K8:=Nat.le_of_ble_eq_true hle
  refine .inl ⟨wN hf hn (by grind) κ.w,calls_of_wp hf hb ?_⟩
  have hR:=tZ ha K8
  refine pM hm hT code hL (κ:=κ) (by rw[xJ]; exact hy) hI hR (cw _) _ λo fP a' κe e0 e1 e2 e3 e4 _ _ _ e6 => ?_
  have fin:(fP=.normal\/fP=.ret)->((bg (u7 P xid tab ro) o.fr o.st fn.results.toList).bind λds=>PS o.st d.rs ds).leads y ->
    bodyPost P fn (λe w'=>∃ κ':KS,κ'.w=w'/\κ'.st=[]/\Inv κ'/\Ext κ κ'/\wv κ' (.ret (ZU d.rs y)) e) fP a' κe.w:=by
   intro hex h2
   obtain⟨ds,g1,g2⟩:=T.zd.1 h2
   rw[<- e1]at g1 g2
   obtain⟨vs,k1,k2⟩:=mB e2 e4 g1
   obtain⟨q1,q2⟩:=ND hI xJ e2 e3
   obtain⟨hl,zh9⟩:=XH e2 d.rs ds y vs g2 k2
   have hl':qD (κe.bare (OE κe)) (ZU d.rs y) vs:=⟨hl.1,λi h1 h2=>mf (zh9 _ (List.getElem_mem h1)) (hl.2 i h1 h2)⟩
   have oe:a'.defers=[]/\∃ v,(results fn a'.tmps).run P κe.w=.ok v κe.w/\∃ κ':KS,κ'.w=κe.w/\κ'.st=[]/\Inv κ'/\Ext κ κ'/\wv κ' (.ret (ZU d.rs y)) (.returned v) :=
    ⟨e4.defers,_,k1,κe.bare (OE κe),rfl,rfl,q1,q2,_,rfl,tw hl'⟩
   rcases hex with rfl | rfl
   ·exact oe
   ·exact oe
  cases hox:o.ex<;>rw[hox]at e0 e6<;>simp only at e0
  ·exact fin (.inl e6) e0
  ·exact e0.elim
  ·exact fin (.inr e6) e0
  ·exact e0.elim
theorem QK{d:C0}{f:Nat}(b:(jv d.ps->T (Hw d.rs))->jv d.ps->T (Hw d.rs))(hF:∀ x,d.F x=T.fix b x)(h:∀ F:jv d.ps->T (Hw d.rs),zD P f ⟨d.ps,d.rs,F⟩->zD P f ⟨d.ps,d.rs,b F⟩):zD P f d:=by
 have hN:∀ m,zD P f ⟨d.ps,d.rs,T.Bz b m⟩:=by
  intro m
  induction m with
  | zero=>nofun
  | succ m ih=>exact h _ ih
 intro κ x zx y xJ hy hI ha
 rw[hF,T.lK]at hy
 obtain⟨m,hm⟩:=hy
 exact hN m κ x zx y xJ (hm m (Nat.le_refl _)) hI ha
theorem QX{fr:Fr}:∀ {n i:Nat} {ds:List D},M4 fr n i=some ds->ds.length=n/\∀ j d,ds[j]? = some d->fr.get (i+j)=some d
 | 0,i,ds,h=>by cases h; exact⟨rfl,λj d hj=>by grind⟩
 | n+1,i,ds,h=>by
  simp only[M4]at h
  split at h
  ·rename_i d hd
   split at h
   ·rename_i r hr
    obtain⟨h1,h2⟩:=QX hr
    grind
   ·cases h
  ·cases h
theorem z7G(hm:(u7 P xid tab ro).P.follows .mixedOrders=true)(hT:kY P tab){f:Nat}{fn:Func}{code:Code}(hf:P.funcs[f]? = some fn)(hb:fn.body=some code)
  (hn:(fn.name == "runtime.NumGoroutine")=false) (hL:u6 P fn.ntmps H code) {d:jZ} (h:∀ x,EC (u7 P xid tab ro) tab H fn code d x=d.F x):xU P f d:=by
 intro κ x zx y xJ hy hI hlen T1
 rw[<- h]at hy
 unfold EC at hy
 cases hle:Nat.ble d.ks.length fn.ntmps&&Nat.ble d.sh.bs.length d.out.bs.length with
 | false=>rw[hle]at hy; exact hy.elim
 | true =>
  rw[hle,cond_true]at hy
  simp only[Bool.and_eq_true]at hle
  have Nz:=Nat.le_of_ble_eq_true hle.1
  have S3:=Nat.le_of_ble_eq_true hle.2
  refine .inl ⟨wN hf hn (by rw[hb]; rfl) κ.w,calls_of_wp hf hb ?_⟩
  have hR:Rel κ fn.ntmps (d.sh.fr x).get { tmps:=zx.toArray++Array.replicate (fn.ntmps-zx.toArray.size) undef,defers:=[] }:=by
   refine⟨by simp; omega,rfl,λs e hs => ?_⟩
   obtain⟨v,h1,h2⟩:=T1.get s e hs
   grind
  refine pM hm hT code hL (κ:=κ) (by rw[xJ]; exact hy) hI hR (cw _) _ λo fP a' κe e0 e1 e2 e3 e4 _ _ _ e6 => ?_
  have fin:(fP=.normal\/fP=.ret)->((bg (u7 P xid tab ro) o.fr o.st fn.results.toList).bind λds=>bif Nat.beq ds.length d.nr then(d.out.un (wh ds 0) o.st).bind λy=>bif (yU d.nr (d.out.fr y)).isSome then T.ret y else .fail else .fail).leads y ->
    bodyPost P fn (λe w'=>∃ (κ':KS) (ds:List D),κ'.w=w'/\κ'.st=d.out.st y/\Inv κ'/\Ext κ κ'/\yU d.nr (d.out.fr y)=some ds/\wv κ' (.ret ds) e) fP a' κe.w:=by
   intro hex h2
   obtain⟨ds,g1,g2⟩:=T.zd.1 h2
   cases hnr:Nat.beq ds.length d.nr with
   | false=>rw[hnr]at g2; exact g2.elim
   | true =>
    rw[hnr,cond_true]at g2
    obtain⟨y',g5,g3⟩:=T.zd.1 g2
    cases cK:yU d.nr (d.out.fr y')with
    | none=>rw[cK]at g3; exact g3.elim
    | some JO =>
     rw[cK]at g3
     have hyy:y'=y:=g3
     subst hyy
     rw[<- e1]at g1 g5
     obtain⟨vs,k1,k2⟩:=mB e2 e4 g1
     have hRr:Rel κe vs.length (wh ds 0).get { tmps:=vs.toArray,defers:=[] }:=by
      have:=tZ (n:=vs.length) k2 (by rw[k2.1]; exact Nat.le_refl _)
      simpa[show(Kl.df:List Deferred)=[]from rfl]using this
     obtain⟨κ2,q1,q2,q3,q4,q5,_⟩:=d.out.Zg (κ0:=κ) e3 e2 hRr (by rw[xJ]; exact Nat.le_trans (vO.sR _ _) S3) g5
     obtain⟨l1,l2⟩:=QX cK
     have hds:qD κ2 JO vs:=by
      refine⟨by rw[l1,<- k2.1]; exact(Nat.eq_of_beq_eq_true hnr).symm,λi h1 h2 => ?_⟩
      have:=l2 i JO[i] (List.getElem?_eq_getElem h1)
      rw[Nat.zero_add]at this
      obtain⟨v,r1,r2⟩:=q5.get i _ this
      grind
     have oe:a'.defers=[]/\∃ v,(results fn a'.tmps).run P κe.w=.ok v κe.w/\∃ (κ':KS) (ds:List D),κ'.w=κe.w/\κ'.st=d.out.st y'/\Inv κ'/\Ext κ κ'/\yU d.nr (d.out.fr y')=some ds/\wv κ' (.ret ds) (.returned v) :=
      ⟨e4.defers,_,k1,κ2,JO,q1,q2,q3,q4,cK,_,rfl,tw hds⟩
     rcases hex with rfl | rfl
     ·exact oe
     ·exact oe
  cases hox:o.ex<;>rw[hox]at e0 e6<;>simp only at e0
  ·exact fin (.inl e6) e0
  ·exact e0.elim
  ·exact fin (.inr e6) e0
  ·exact e0.elim
theorem z1F{d:jZ}{f:Nat}(b:(d.sh.den->T d.out.den)->d.sh.den->T d.out.den)(hF:∀ x,d.F x=T.fix b x)(h:∀ F:d.sh.den->T d.out.den,xU P f ⟨d.ks,d.sh,d.ya,d.out,d.nr,F⟩->xU P f ⟨d.ks,d.sh,d.ya,d.out,d.nr,b F⟩):xU P f d:=by
 have hN:∀ m,xU P f ⟨d.ks,d.sh,d.ya,d.out,d.nr,T.Bz b m⟩:=by
  intro m
  induction m with
  | zero=>nofun
  | succ m ih=>exact h _ ih
 intro κ x zx y xJ hy hI hl ha
 rw[hF,T.lK]at hy
 obtain⟨m,hm⟩:=hy
 exact hN m κ x zx y xJ (hm m (Nat.le_refl _)) hI hl ha
theorem E8{κ κe:KS}{a':Act}{fn:Func}{o:Ey}{nr:Nat}{out:vO}{y:out.den}(e1:κe.st=o.st)(e2:Inv κe)(e3:Ext κ κe)(e4:Rel κe fn.ntmps o.fr.get a')(hlen:κ.st.length<=out.bs.length)
  (h:((bg (u7 P xid tab ro) o.fr o.st fn.results.toList).bind λds=>bif Nat.beq ds.length nr then(out.un (wh ds 0) o.st).bind λy=>bif (yU nr (out.fr y)).isSome then T.ret y else .fail else .fail).leads y) :
  ∃ v,(results fn a'.tmps).run P κe.w=.ok v κe.w/\∃ (κ':KS) (ds:List D),κ'.w=κe.w/\κ'.st=out.st y/\Inv κ'/\Ext κ κ'/\yU nr (out.fr y)=some ds/\wv κ' (.ret ds) (.returned v):=by
 obtain⟨ds,g1,g2⟩:=T.zd.1 h
 cases hnr:Nat.beq ds.length nr with
 | false=>rw[hnr]at g2; exact g2.elim
 | true =>
  rw[hnr,cond_true]at g2
  obtain⟨y',g5,g3⟩:=T.zd.1 g2
  cases cK:yU nr (out.fr y')with
  | none=>rw[cK]at g3; exact g3.elim
  | some JO =>
   rw[cK]at g3
   have hyy:y'=y:=g3
   subst hyy
   rw[<- e1]at g1 g5
   obtain⟨vs,k1,k2⟩:=mB e2 e4 g1
   have hRr:Rel κe vs.length (wh ds 0).get { tmps:=vs.toArray,defers:=[] }:=by
    have:=tZ (n:=vs.length) k2 (by rw[k2.1]; exact Nat.le_refl _)
    simpa[show(Kl.df:List Deferred)=[]from rfl]using this
   obtain⟨κ2,q1,q2,q3,q4,q5,_⟩:=out.Zg (κ0:=κ) e3 e2 hRr hlen g5
   obtain⟨l1,l2⟩:=QX cK
   have hds:qD κ2 JO vs:=by
    refine⟨by rw[l1,<- k2.1]; exact(Nat.eq_of_beq_eq_true hnr).symm,λi h1 h2 => ?_⟩
    have:=l2 i JO[i] (List.getElem?_eq_getElem h1)
    rw[Nat.zero_add]at this
    obtain⟨v,r1,r2⟩:=q5.get i _ this
    grind
   exact⟨_,k1,κ2,JO,q1,q2,q3,q4,cK,_,rfl,tw hds⟩
theorem z6P{κ κe:KS}{kz:vO}{z:kz.den}{st:St}{t:Nat}{d:D}{u:Value}(e1:κe.st=st)(e2:Inv κe)(e3:Ext κ κe)(hlen:κ.st.length<=kz.bs.length)(hu:RD κe d u)
  (h:((kz.un [(0,some d)] st).bind λz=>match(kz.fr z).get 0 with | some _=>T.ret z | none=>.fail).leads z) :
  ∃ (κ':KS) (p:D),κ'.w=κe.w/\κ'.st=kz.st z/\Inv κ'/\Ext κ κ'/\(kz.fr z).get 0=some p/\wv κ' (.kz (.iface t p)) (.panicked [{ v:=.iface t u,recovered:=false }]):=by
 obtain⟨z',g1,g2⟩:=T.zd.1 h
 split at g2
 ·rename_i p hp
  have hzz:z'=z:=g2
  subst hzz
  have Yb:Rel κe 1 (Fr.get [(0,some d)]) { tmps := #[u],defers:=[] }:=by
   refine⟨rfl,rfl,λs d' hd => ?_⟩
   simp only[Fr.get]at hd
   cases hb:Nat.beq 0 s with
   | true =>
    have:=Nat.eq_of_beq_eq_true hb
    grind
   | false=>grind
  rw[<- e1]at g1
  obtain⟨κ2,q1,q2,q3,q4,q5,_⟩:=kz.Zg (κ0:=κ) e3 e2 Yb hlen g1
  obtain⟨v',r1,r2⟩:=q5.get 0 p hp
  cases r1
  exact⟨κ2,p,q1,q2,q3,q4,hp,_,rfl,.iface t p _ r2⟩
 ·exact g2.elim
theorem z74(hm:(u7 P xid tab ro).P.follows .mixedOrders=true)(hT:kY P tab){f:Nat}{fn:Func}{code:Code}(hf:P.funcs[f]? = some fn)(hb:fn.body=some code)
  (hn:(fn.name == "runtime.NumGoroutine")=false) (hL:u6 P fn.ntmps H code) {d:fG} (h:∀ x,FD (u7 P xid tab ro) tab H fn code d x=d.F x):kF P f d:=by
 intro κ x zx y xJ hy hI hlen T1
 rw[<- h]at hy
 unfold FD at hy
 cases hle:Nat.ble d.ks.length fn.ntmps&&Nat.ble d.sh.bs.length d.out.bs.length&&Nat.ble d.sh.bs.length d.kz.bs.length with
 | false=>rw[hle]at hy; exact hy.elim
 | true =>
  rw[hle,cond_true]at hy
  simp only[Bool.and_eq_true]at hle
  have Nz:=Nat.le_of_ble_eq_true hle.1.1
  have S3:=Nat.le_of_ble_eq_true hle.1.2
  have zeq:=Nat.le_of_ble_eq_true hle.2
  refine .inl ⟨wN hf hn (by rw[hb]; rfl) κ.w,calls_of_wp hf hb ?_⟩
  have hR:Rel κ fn.ntmps (d.sh.fr x).get { tmps:=zx.toArray++Array.replicate (fn.ntmps-zx.toArray.size) undef,defers:=[] }:=by
   refine⟨by simp; omega,rfl,λs e hs => ?_⟩
   obtain⟨v,h1,h2⟩:=T1.get s e hs
   grind
  refine pM hm hT code hL (κ:=κ) (by rw[xJ]; exact hy) hI hR (cw _) _ λo fP a' κe e0 e1 e2 e3 e4 _ _ _ e6 => ?_
  have fin:(fP=.normal\/fP=.ret)->((bg (u7 P xid tab ro) o.fr o.st fn.results.toList).bind λds=>bif Nat.beq ds.length d.nr then(d.out.un (wh ds 0) o.st).bind λy=>bif (yU d.nr (d.out.fr y)).isSome then T.ret (Sum.inl y:d.out.den⊕d.kz.den)else .fail else .fail).leads y ->
    bodyPost P fn (λe w'=>∃ κ':KS,κ'.w=w'/\Inv κ'/\Ext κ κ'/\((∃ (y':d.out.den) (ds:List D),y=.inl y'/\κ'.st=d.out.st y'/\yU d.nr (d.out.fr y')=some ds/\wv κ' (.ret ds) e) \/
     ∃ (z:d.kz.den) (p:D),y=.inr z/\κ'.st=d.kz.st z/\(d.kz.fr z).get 0=some p/\wv κ' (.kz (.iface d.pt p)) e)) fP a' κe.w:=by
   intro hex h2
   have:∃ y',y=.inl y'/\((bg (u7 P xid tab ro) o.fr o.st fn.results.toList).bind λds=>bif Nat.beq ds.length d.nr then(d.out.un (wh ds 0) o.st).bind λy=>bif (yU d.nr (d.out.fr y)).isSome then T.ret y else .fail else .fail).leads y':=by
    obtain⟨ds,g1,g2⟩:=T.zd.1 h2
    cases hnr:Nat.beq ds.length d.nr with
    | false=>rw[hnr]at g2; exact g2.elim
    | true =>
     rw[hnr,cond_true]at g2
     obtain⟨y',g5,g3⟩:=T.zd.1 g2
     cases cK:yU d.nr (d.out.fr y')with
     | none=>rw[cK]at g3; exact g3.elim
     | some JO =>
      rw[cK]at g3
      have g3:Sum.inl y'=y:=g3
      refine⟨y',g3.symm,T.zd.2 ⟨ds,g1,?_⟩⟩
      rw[hnr,cond_true]
      refine T.zd.2 ⟨y',g5,?_⟩
      rw[cK]; rfl
   obtain⟨y',rfl,E2⟩:=this
   obtain⟨v,k1,κ',ds,q1,q2,q3,q4,q5,q6⟩:=E8 e1 e2 e3 e4 (by rw[xJ]; exact Nat.le_trans (vO.sR _ _) S3) E2
   have oe:a'.defers=[]/\∃ v,(results fn a'.tmps).run P κe.w=.ok v κe.w/\∃ κ':KS,κ'.w=κe.w/\Inv κ'/\Ext κ κ'/\((∃ (y'':d.out.den) (ds:List D),(Sum.inl y':d.out.den⊕d.kz.den)=.inl y''/\κ'.st=d.out.st y''/\yU d.nr (d.out.fr y'')=some ds/\wv κ' (.ret ds) (.returned v)) \/
     ∃ (z:d.kz.den) (p:D),(Sum.inl y':d.out.den⊕d.kz.den)=.inr z/\κ'.st=d.kz.st z/\(d.kz.fr z).get 0=some p/\wv κ' (.kz (.iface d.pt p)) (.returned v)) :=
    ⟨e4.defers,v,k1,κ',q1,q3,q4,.inl ⟨y',ds,rfl,q2,q5,q6⟩⟩
   rcases hex with rfl | rfl
   ·exact oe
   ·exact oe
  cases hox:o.ex<;>rw[hox]at e0 e6<;>simp only at e0
  ·exact fin (.inl e6) e0
  ·exact e0.elim
  ·exact fin (.inr e6) e0
  ·rename_i p
   cases p<;>simp only at e0<;>first | exact e0.elim | skip
   rename_i t v
   cases ht:Nat.beq t d.pt with
   | false=>rw[ht]at e0; exact e0.elim
   | true =>
    rw[ht,cond_true]at e0
    have:=Nat.eq_of_beq_eq_true ht
    subst this
    obtain⟨u,rfl,hv⟩:=e6
    cases hv with
    | iface _ _ u hu =>
     have:∃ z,y=.inr z/\((d.kz.un [(0,some v)] o.st).bind λz=>match(d.kz.fr z).get 0 with | some _=>T.ret z | none=>.fail).leads z:=by
      obtain⟨z,g1,g2⟩:=T.zd.1 e0
      split at g2
      ·rename_i p hp
       have g2:Sum.inr z=y:=g2
       refine⟨z,g2.symm,T.zd.2 ⟨z,g1,?_⟩⟩
       rw[hp]; rfl
      ·exact g2.elim
     obtain⟨z,rfl,hz2⟩:=this
     obtain⟨κ',p,q1,q2,q3,q4,q5,q6⟩:=z6P (t:=d.pt) e1 e2 e3 (by rw[xJ]; exact Nat.le_trans (vO.sR _ _) zeq) hu hz2
     exact⟨e4.defers,κ',q1,q3,q4,.inr ⟨z,p,rfl,q2,q5,q6⟩⟩
theorem LF{d:fG}{f:Nat}(b:(d.sh.den->T (d.out.den⊕d.kz.den))->d.sh.den->T (d.out.den⊕d.kz.den))(hF:∀ x,d.F x=T.fix b x)(h:∀ F:d.sh.den->T (d.out.den⊕d.kz.den),kF P f ⟨d.ks,d.sh,d.ya,d.out,d.nr,d.pt,d.kz,F⟩->kF P f ⟨d.ks,d.sh,d.ya,d.out,d.nr,d.pt,d.kz,b F⟩):kF P f d:=by
 have hN:∀ m,kF P f ⟨d.ks,d.sh,d.ya,d.out,d.nr,d.pt,d.kz,T.Bz b m⟩:=by
  intro m
  induction m with
  | zero=>nofun
  | succ m ih=>exact h _ ih
 intro κ x zx y xJ hy hI hl ha
 rw[hF,T.lK]at hy
 obtain⟨m,hm⟩:=hy
 exact hN m κ x zx y xJ (hm m (Nat.le_refl _)) hI hl ha
end
noncomputable def td:Nat->Code->Option Code
 | k,.block id (.loop b)=>if k=id then some b else td k b
 | k,.seq a b=>match td k a with | some x=>some x | none=>td k b
 | k,.cond _ a b=>match td k a with | some x=>some x | none=>td k b
 | k,.block _ a=>td k a
 | _,_=>none
def Gr(P:Program)(n:Nat)(H:Hints):List (Nat×Code)->Prop
 | []=>True
 | p::r=>(∀ l,H.loop p.1=some l->ZF P n l p.2)/\Gr P n H r
theorem zl{P:Program}{n:Nat}{H:Hints}:Gr P n H []:=trivial
theorem zZ{P:Program}{n:Nat}{H:Hints}{id:Nat}{b:Code}{r:List (Nat×Code)}{l:zS}(hl:H.loop id=some l)(h:ZF P n l b)(t:Gr P n H r):Gr P n H ((id,b)::r) :=
 ⟨λl' hl'=>(Option.some.inj (hl.symm.trans hl'))▸h,t⟩
theorem Qf{P:Program}{n:Nat}{H:Hints}{code:Code}{L:List (Nat×Code)}(h:xj code=L)(ha:Gr P n H L):u6 P n H code:=by
 intro p hp
 rw[h]at hp
 clear h
 induction L with
 | nil=>cases hp
 | cons q r ih =>
  rcases List.mem_cons.1 hp with rfl | hp
  ·exact ha.1
  ·exact ih ha.2 hp
end Go.AM
namespace Go.AM
set_option linter.unusedSectionVars false
variable [vQ]
open Go.RowKit Go.ChangeShapes
def T5:(τs:List Ty)->K3 τs->jv (τs.map .ty)
 | [],_=>()
 | [_],x=>x.1
 | _::σ::r,x=>(x.1,T5 (σ::r) x.2)
theorem Ys:∀ (τs:List Ty) (x:K3 τs),QS (τs.map .ty) (T5 τs x)=mkD τs x
 | [],_=>rfl
 | [_],_=>rfl
 | τ::σ::r,x=>congrArg (D.zI τ x.1 :: ·) (Ys (σ::r) x.2)
section
variable {H:Type} {enc:TypeId×Value->H} {P:Program} {xid m n:Nat}
theorem z6Q{f:Nat}{fn:Func}(τs:List Ty){F:jv (τs.map .ty)->T (Hw [.bool])}(hS:zD P f ⟨τs.map .ty,[.bool],F⟩)(hf:P.funcs[f]? = some fn)(hbd:fn.body.isNone=false) (hnm:(fn.name == "runtime.NumGoroutine")=false)
  (hl:laidOutB P=true) (xid m n:Nat) (hts:ZP P fn.params.toList=true) (hτ:fn.params.toList.map (G5 P xid n)=τs.map some) (hx:FH P xid m=true)
  {bt:TypeId} (hr:fn.resultTypes = #[bt]) (hbt:P.underlying bt=some .bool) {s:ChangeSpec} (hv:s.vars=[]) (hs:∀ ds:List (DataW H),ds.length=τs.length->s.fn H ds={ results:=[.lit (.bool true)],args:=ds })
  (B:NF H) {lim:Nat} (law:∀ x:K3 τs,wfL τs x->bkL τs x<=lim->(F (T5 τs x)).run=some true)
  {fresh handsOn:Bool} {W:World} {base:Nat} {args:Array Value} {ds gs:List (DataW H)} {before:List MemPlace}
  (Kp:∀ (j:Nat) t v,fn.params[j]? = some t->args[j]? = some v->Value.okWide P W .any base t v)
  (hW:DataW.Whole enc P fn.params.toList s.vars false W args.toList ds gs before) (hk:B.bs (ds++gs)<=lim) (hG:sZ W λk=>k<W.heap.size) :
  Calls P f args W λe W'=>∃ v,e=.returned v/\s.post enc P fn false fresh handsOn false W args v W':=by
 refine Nj (C0.snd hS) hf hbd hnm hl xid m n τs hts hτ hx hr hbt hv hs B (λx hw hb => ?_) Kp hW hk hG
 have h:=T.wy.1 (law x hw hb)
 rw[<- Ys τs x]
 exact T.zd.2 ⟨T5 τs x,H5 [] _ _,T.zd.2 ⟨true,h,rfl⟩⟩
end
end Go.AM