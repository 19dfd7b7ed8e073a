/-
  The abstract machine, part D: texts of our own, the same for each claim.
-/
import Derived.Test.YthhgaidlooddpaaGreatDoorAmA
import Derived.Lib.LaidTab
import Derived.Shelf.Vars
import Derived.Test.YthhgaidlooddpaaGreatDoorAmC
import Derived.OpenShut
import Derived.Test.YthhgaidlooddpaaGreatDoorAmB
import Derived.Lib.LazyBuf
set_option linter.unusedVariables false
namespace Go.AM
def DP(k:IntKind)(zs:List Int)(o:Obj):Prop:=∃ t fr,o=.cells (zs.map λz=>Value.int k z).toArray t fr
def Hm(k:IntKind)(o:Obj):Prop:=∃ m t fr,o=.cells #[.int k m] t fr
theorem TN{P:Program}{w:World}{name:String}{k:IntKind}{zs:List Int}{g:Nat}(hg:P.globalNamed name=some g)(h:Lib.TabIs P w name k zs) :
  g<w.heap.size/\∃ o,w.heap[g]? = some o/\DP k zs o:=by
 unfold Lib.TabIs World.var? at h
 rw[hg]at h
 simp at h
 split at h
 ·rename_i cs t fr ho
  cases h
  exact⟨(Array.getElem?_eq_some_iff.1 ho).1,_,ho,t,fr,rfl⟩
 ·cases h
theorem z7E{P:Program}{w:World}{name:String}{k:IntKind}{zs:List Int}{g:Nat}(hg:P.globalNamed name=some g)(h:∃ o,w.heap[g]? = some o/\DP k zs o):Lib.TabIs P w name k zs:=by
 obtain⟨o,ho,t,fr,rfl⟩:=h
 unfold Lib.TabIs World.var?
 grind
theorem Oe{w:World}{k:IntKind}{g:Nat}(h:∃ o,w.heap[g]? = some o/\Hm k o):∃ m,w.cell? ⟨g,0,none⟩=some (.int k m):=by
 obtain⟨o,ho,m,t,fr,rfl⟩:=h
 exact⟨m,by simp[World.cell?,ho]⟩
theorem NC{P:Program}{w:World}{g:Nat}{t:TypeId}{zero:Array Value}{k:IntKind}
  (h:w.ShapedOpen P) (hg:g<P.globals.size)
  (h0:((begin P (λ_ _=>0) default).world.heap[g]?).bind Obj.row? = some (zero,t)) (hz:zero.size=1)
  (hb:P.buildable t=true) (hc:P.cellTypes P.depth t=some [t]) (hu:P.underlying t=some (.int k)):g<w.heap.size/\∃ o,w.heap[g]? = some o/\Hm k o:=by
 obtain⟨m,hm⟩:=Go.Proofs.cell_of_shapedOpen_int h hg h0 hz hb hc hu
 obtain⟨cs,hh,hs,_⟩:=h.1 g zero t hg h0
 have hl:cs.size=1:=hs.trans hz
 refine⟨(Array.getElem?_eq_some_iff.1 hh).1,_,hh,m,t,(0,0),?_⟩
 have h1:w.cell? ⟨g,0,none⟩=some cs[0]:=by simp[World.cell?,hh]
 have:cs = #[.int k m]:=by
  grind
 rw[this]
theorem NO{P:Program}{W:World}{name:String}{k:IntKind}{zs:List Int}{rest:List (String×DataW Unit)}{ps:List MemPlace}{g:Nat}{t e:TypeId}{n:Nat}
  (hg:P.globalNamed name=some g) (Lm:(P.globals[g]?).map (·.type)=some t) (ht:P.underlying t=some (.array n e)) (he:P.underlying e=some (.int k)) (hce:P.cellsOf e=1) (hct:P.cellsOf t=n)
  (h:DataW.LaidVars P W ((name,Lib.tabData k zs)::rest) ps):g<W.heap.size/\∃ o,W.heap[g]? = some o/\DP k zs o:=by
 obtain⟨g',t',cs,fuel,p,q,hg',ht',zaK,hd,_,_⟩:=h
 refine TN hg ?_
 obtain rfl:=Option.some.inj (hg.symm.trans hg')
 obtain rfl:=Option.some.inj (Lm.symm.trans ht')
 unfold Lib.TabIs
 rw[zaK,<- Lib.cells_of_tab ht he hce hct hd]
theorem YA{P:Program}{W:World}{x:String×DataW Unit}{rest:List (String×DataW Unit)}{ps:List MemPlace}(h:DataW.LaidVars P W (x::rest) ps):∃ q,DataW.LaidVars P W rest q:=by
 obtain⟨g',t',cs,fuel,p,q,hg',ht',zaK,hd,h1,_⟩:=h
 grind
end Go.AM
namespace Go.AM
open Go.RowKit
mutual
def bkE:Expr->Nat
 | .mk _ n s l=>1+((1+((List.length n.2.1+1)+((List.length n.2.2.1+1)+1)))+((List.length s+1)+((bkEs l+1)+1)))
def bkEs:List Expr->Nat
 | []=>0
 | e::r=>bkE e+bkEs r
end
def dr{α:Type}(f:α->Nat):List α->Nat
 | []=>0
 | x::r=>f x+dr f r
def bk:(τ:Ty)->den τ->Nat
 | .int _,_=>1
 | .bool,_=>1
 | .str,s=>List.length s+1
 | .sl e,l=>dr (bk e) l+1
 | .nil,_=>1
 | .cons a b,x=>bk a x.1+bk b x.2
 | .expr,x=>bkE x
theorem BU{α:Type}(l:List α):dr (λ_=>1) l=l.length:=by induction l with | nil=>rfl | cons x r ih=>simp[dr]; omega
theorem z4g(l:List Expr):bkEs l=dr (bk .expr) l:=by induction l with | nil=>rfl | cons x r ih=>simp[bkEs,dr,ih,bk]
theorem z1B(x:Expr):bk Qj x.OJ=bk .expr x:=by
 cases x with | mk k n s l =>
 simp only[bk,Expr.OJ,bkE,z4g,Expr.num,Expr.name,Expr.kids,BU]
mutual
def wfE:Expr->Prop
 | .mk k n s l=>(IntKind.i64.min<=k/\k<=IntKind.i64.max)/\((True/\((∀ x∈n.2.1,IntKind.u32.min<=x/\x<=IntKind.u32.max)/\((∀ x∈n.2.2.1,IntKind.u32.min<=x/\x<=IntKind.u32.max)/\True)))/\(List.length s<=maxLen/\(wfEs l/\True)))
def wfEs:List Expr->Prop
 | []=>True
 | e::r=>wfE e/\wfEs r
end
def wf:(τ:Ty)->den τ->Prop
 | .int k,n=>k.min<=n/\n<=k.max
 | .bool,_=>True
 | .str,s=>List.length s<=maxLen
 | .sl e,l=>∀ x∈l,wf e x
 | .nil,_=>True
 | .cons a b,x=>wf a x.1/\wf b x.2
 | .expr,x=>wfE x
theorem z45(l:List Expr):wfEs l↔∀ x∈l,wf .expr x:=by induction l with | nil=>simp[wfEs] | cons x r ih=>simp[wfEs,ih,wf]
theorem M7(x:Expr):wf Qj x.OJ↔wf .expr x:=by
 cases x with | mk k n s l=>simp only[wf,Expr.OJ,wfE,z45,Expr.kind,Expr.num,Expr.name,Expr.kids]
structure O4(H:Type) where
 b:DataW H->Nat
 bs:List (DataW H)->Nat
 str:∀ s,b (.lit (.string s))=s.length+1
 bool:∀ x,b (.lit (.bool x))=1
 int:∀ k n,b (.lit (.int k n))=1
 nil:b .nil=1
 slice:∀ x y,b (.slice x y)=bs x+bs y+1
 agg:∀ x,b (.agg x)=bs x+1
 zero:bs []=0
 cons:∀ x r,bs (x::r)=b x+bs r
section
variable (P:Program) (xid:Nat)
def We:Nat->List Field->Bool
 | _,[]=>true
 | o,f::r=>Nat.beq f.offset o&&We (o+P.cellsOf f.type) r
def XM:Nat->List Field->Nat
 | o,[]=>o
 | o,f::r=>XM (o+P.cellsOf f.type) r
def Gc:Nat->Nat->Option Ty
 | 0,_=>none
 | n+1,t=>bif Nat.beq t xid then some .expr else
  match P.underlying t with
  | some (.int k)=>some (.int k)
  | some .bool=>some .bool
  | some .string=>some .str
  | some (.slice e)=>match Gc n e with | some a=>bif Nat.beq (P.cellsOf e) a.size&&Nat.blt 0 a.size then some (.sl a)else none | none=>none
  | some (.struct fs)=>bif We P 0 fs.toList&&Nat.beq (XM P 0 fs.toList) (P.cellsOf t)then cM (fs.toList.map λf=>Gc n f.type)else none
  | _=>none
def Ib(m:Nat):Bool:=match P.underlying xid with
 | some (.struct fs)=>We P 0 fs.toList&&Nat.beq (XM P 0 fs.toList) (P.cellsOf xid)&&decide (cM (fs.toList.map λf=>Gc P xid m f.type)=some Qj)
 | some _=>false
 | none=>true
end
section
variable {H:Type} {enc:TypeId×Value->H} {P:Program} {w:World} {xid m:Nat} (B:O4 H)
def JG(w:World)(B:O4 H)(τ:Ty)(cs:List Value)(k:Nat):Prop:=∃ x:den τ,Rc w (λk=>k<w.heap.size) τ x cs/\wf τ x/\bk τ x<=k
theorem XL{fuel:Nat}{cs:List Value}(ih:∀ n t τ cs d ps,Gc P xid n t=some τ->DataW.trod enc P w 0 (λ_=>true) true fuel t cs=some (d,ps)->JG w B τ cs (B.b d)){n:Nat} :
  ∀ (fs:List Field) (o:Nat) (τ:Ty) (xs:List (DataW H×List MemPlace)),cM (fs.map λf=>Gc P xid n f.type)=some τ->We P o fs=true->XM P o fs=cs.length->xs.length=fs.length ->
   (∀ (i:Nat) (f:Field),fs[i]? = some f->DataW.trod enc P w 0 (λ_=>true) true fuel f.type ((cs.drop f.offset).take (P.cellsOf f.type))=xs[i]?)->JG w B τ (cs.drop o) (B.bs (xs.map (·.1))+1)
 | [],o,τ,xs,ht,_,he,hl,_=>by
  cases ht
  simp only[XM]at he
  obtain rfl:xs=[]:=List.eq_nil_of_length_eq_zero hl
  refine⟨(),?_,trivial,by simp[bk]⟩
  rw[he,List.drop_length]; exact .nil
 | f::r,o,τ,xs,ht,ho,he,hl,hx=>by
  cases xs with
  | nil=>simp at hl
  | cons x xs =>
  simp only[We,Bool.and_eq_true]at ho
  have Po:f.offset=o:=Nat.eq_of_beq_eq_true ho.1
  simp only[List.map_cons]at ht
  cases h1:Gc P xid n f.type with
  | none=>rw[h1]at ht; cases ht
  | some a =>
   rw[h1]at ht
   simp only[cM]at ht
   cases h2:cM (r.map λf=>Gc P xid n f.type)with
   | none=>grind
   | some b =>
    rw[h2]at ht
    cases ht
    obtain⟨x1,p1,p2,p3⟩:=ih n f.type a _ x.1 x.2 h1 (by have:=hx 0 f rfl; simpa using this)
    obtain⟨x2,q1,q2,q3⟩:=XL ih r (o+P.cellsOf f.type) b xs h2 ho.2 he (by simpa using hl) (λi g hg=>by have:=hx (i+1) g (by simpa using hg); simpa using this)
    refine⟨(x1,x2),?_,⟨p2,q2⟩,?_⟩
    ·have e:cs.drop o=(cs.drop o).take (P.cellsOf f.type)++cs.drop (o+P.cellsOf f.type):=by
      conv=>lhs; rw[<- List.take_append_drop (P.cellsOf f.type) (cs.drop o)]
      simp
     rw[e]
     rw[Po]at p1
     exact .cons _ _ _ _ _ _ p1 q1
    ·simp only[bk,List.map_cons,B.cons]; omega
theorem Y6{e:Ty}(k:Nat):∀ (n:Nat) (elems:List (DataW H×List MemPlace)) (g:Nat->List Value),elems.length=n->(∀ i,i<n->∃ d,elems[i]? = some d/\JG w B e (g i) (B.b d.1)) ->
  ∃ l:List (den e),l.length=n/\(∀ i (hi:i<l.length),Rc w (λk=>k<w.heap.size) e l[i] (g i))/\(∀ x∈l,wf e x)/\dr (bk e) l<=B.bs (elems.map (·.1))
 | 0,elems,g,hl,_=>by
  exact⟨[],rfl,λi hi=>absurd hi (Nat.not_lt_zero i),by simp,by simp[dr]⟩
 | n+1,elems,g,hl,h=>by
  cases elems with
  | nil=>simp at hl
  | cons y ys =>
   obtain⟨d,h1,x,h2,h3,h4⟩:=h 0 (by omega)
   simp at h1
   subst h1
   obtain⟨l,l1,l2,l3,l4⟩:=Y6 k n ys (λi=>g (i+1)) (by grind) λi hi=>by
    obtain⟨d,h1,h2⟩:=h (i+1) (by omega)
    exact⟨d,by grind,h2⟩
   refine⟨x::l,by grind,λi hi => ?_,λz hz => ?_,?_⟩
   ·grind
   ·grind
   ·simp only[dr,List.map_cons,B.cons]; omega
theorem On(hx:Ib P xid m=true):∀ (fuel n t:Nat) (τ:Ty) (cs:List Value) (d:DataW H) (ps:List MemPlace),Gc P xid n t=some τ->DataW.trod enc P w 0 (λ_=>true) true fuel t cs=some (d,ps)->JG w B τ cs (B.b d):=by
 intro fuel
 induction fuel with
 | zero=>nofun
 | succ fuel ih =>
  intro n t τ cs d ps ht h
  have struct:∀ (fs:Array Field) (k:Nat) (σ:Ty),P.underlying t=some (.struct fs)->(We P 0 fs.toList&&Nat.beq (XM P 0 fs.toList) (P.cellsOf t))=true->cM (fs.toList.map λf=>Gc P xid k f.type)=some σ->JG w B σ cs (B.b d):=by
   intro fs k σ hu ho hc
   simp only[Bool.and_eq_true]at ho
   obtain⟨xs,n',hn,hd,hl,hlx,V9⟩:=DataW.trod_struct hu h
   cases hn
   cases hd
   have:=XL B (cs:=cs) (ih:=ih) fs.toList 0 σ xs hc ho.1 (by rw[Nat.eq_of_beq_eq_true ho.2,hl]) (by simpa using hlx) (λi f hf=>V9 i f (by simpa using hf))
   rw[B.agg]
   grind
  cases n with
  | zero=>cases ht
  | succ n =>
   unfold Gc at ht
   cases hb:Nat.beq t xid with
   | true =>
    rw[hb,cond_true]at ht
    cases ht
    have:=Nat.eq_of_beq_eq_true hb
    subst this
    unfold Ib at hx
    split at hx
    ·rename_i fs hu
     simp only[Bool.and_eq_true,decide_eq_true_eq]at hx
     obtain⟨x,h1,h2,h3⟩:=struct fs m Qj hu (by simp[hx.1.1,hx.1.2]) hx.2
     refine⟨Expr.EV x,.expr _ _ _ _ _ h1,?_,?_⟩
     ·exact(M7 (Expr.EV x)).1 h2
     ·rw[<- z1B (Expr.EV x)]; exact h3
    ·cases hx
    ·rename_i hu
     rw[DataW.trod_step]at h
     simp[DataW.trodStep,hu]at h
   | false =>
    rw[hb,cond_false]at ht
    split at ht
    ·rename_i k hu
     cases ht
     obtain⟨n',rfl,h2,h3⟩:=DataW.trod_int hu h
     cases h2
     simp only[Lit.wf,Bool.and_eq_true,decide_eq_true_eq]at h3
     exact⟨n',.int k n',h3,by simp[bk,B.int]⟩
    ·rename_i hu
     cases ht
     obtain⟨b,rfl,h2⟩:=DataW.trod_bool hu h
     cases h2
     exact⟨b,.bool b,trivial,by simp[bk,B.bool]⟩
    ·rename_i hu
     cases ht
     obtain⟨s,rfl,h2,h3⟩:=DataW.trod_string hu h
     cases h2
     refine⟨s.data.toList,?_,?_,?_⟩
     ·have:s=⟨s.data.toList.toArray⟩:=by cases s; simp
      exact .str _
     ·simp only[wf,Array.length_toList]; exact h3
     ·simp[bk,B.str]
    ·rename_i e hu
     split at ht
     ·rename_i a ha
      cases hc:Nat.beq (P.cellsOf e) a.size&&Nat.blt 0 a.size with
      | false=>grind
      | true =>
       rw[hc,cond_true]at ht
       cases ht
       simp only[Bool.and_eq_true]at hc
       have uH:P.cellsOf e=a.size:=Nat.eq_of_beq_eq_true hc.1
       have ZV:0<a.size:=Nat.le_of_ble_eq_true hc.2
       rcases DataW.trod_slice hu h with⟨rfl,h2⟩ | ⟨p,len,cap,elems,rest,n',hn,rfl,hd,_,vc,_,hlen,hel,hre,_⟩
       ·cases h2
        exact⟨[],.fO a none,by simp[wf],by simp[bk,dr,B.nil]⟩
       ·cases hn
        cases hd
        by_cases h0:cap=0
        ·subst h0
         have:len=0:=by omega
         subst this
         exact⟨[],.fO a (some p),by simp[wf],by simp[bk,dr,B.slice]⟩
        ·rw[uH]at hel hre
         have z8D:p.block<w.heap.size/\p.spot=none:=by
          have first:∃ x,(w.cells? 0 p a.size)=some x:=by
           by_cases hl:len=0
           ·have:=(hre rfl).2 0 (by omega)
            cases hcc:w.cells? 0 p a.size with
            | some x=>simp
            | none =>
             have e0:p.add ((0+0)*a.size)=p:=by simp[Addr.add]
             grind
           ·have:=hel 0 (by omega)
            cases hcc:w.cells? 0 p a.size with
            | some x=>simp
            | none =>
             have e0:p.add (0*a.size)=p:=by simp[Addr.add]
             grind
          obtain⟨x,hx⟩:=first
          refine⟨World.cells?_block hx ZV,?_⟩
          have h2:=(World.cells?_some hx).2
          have h3:=h2.2 0 ZV
          have e0:p.add 0=p:=rfl
          cases hs:p.spot with
          | none=>rfl
          | some q =>
           unfold World.cell? at h3
           grind
         obtain⟨blk,off,sp⟩:=p
         obtain⟨SK,pR⟩:=z8D
         subst pR
         have hg:∀ i,∃ c:List Value,i<len->∃ d,elems[i]? = some d/\JG w B a c (B.b d.1)/\w.cells? 0 ⟨blk,off+i*a.size,none⟩ a.size=some c:=by
          intro i
          by_cases hi:i<len
          ·have:=hel i hi
           rw[vx]at this
           cases hcc:w.cells? 0 ⟨blk,off+i*a.size,none⟩ a.size with
           | none =>
            grind
           | some c =>
            refine⟨c,λ_=>⟨elems[i]'(by omega),by simp,?_,rfl⟩⟩
            grind
          ·exact⟨[],λh=>absurd h hi⟩
         let g:Nat->List Value:=λi=>Classical.choose (hg i)
         have hg':∀ i,i<len->∃ d,elems[i]? = some d/\JG w B a (g i) (B.b d.1)/\w.cells? 0 ⟨blk,off+i*a.size,none⟩ a.size=some (g i):=λi hi=>Classical.choose_spec (hg i) hi
         obtain⟨l,l1,l2,l3,l4⟩:=Y6 B (w:=w) (e:=a) 0 len elems g hlen λi hi=>by
          grind
         refine⟨l,?_,l3,?_⟩
         ·have:=Rc.sl (w:=w) (ok:=λk=>k<w.heap.size) a l blk off cap g SK (by omega) l2 λi hi j v hj=>by
           obtain⟨d,_,_,h3⟩:=hg' i (by omega)
           obtain⟨_,k2,k3⟩:=World.cells?_some h3
           have Pf:j<(g i).length:=(List.getElem?_eq_some_iff.1 hj).1
           have:=k3 j (by omega)
           rw[vx,hj]at this
           exact this
          grind
         ·simp only[bk,B.slice]; omega
     ·cases ht
    ·rename_i fs hu
     cases hc:We P 0 fs.toList&&Nat.beq (XM P 0 fs.toList) (P.cellsOf t)with
     | false=>grind
     | true =>
      rw[hc,cond_true]at ht
      exact struct fs n τ hu hc ht
    ·cases ht
end
end Go.AM
namespace Go.AM
set_option linter.unusedSectionVars false
variable [vX]
open Go.RowKit Go.ChangeShapes
def KC:List Ty->Type
 | []=>Unit
 | τ::r=>den τ×KC r
def mkD:(τs:List Ty)->KC τs->List D
 | [],_=>[]
 | τ::r,x=>.zI τ x.1::mkD r x.2
def wfL:(τs:List Ty)->KC τs->Prop
 | [],_=>True
 | τ::r,x=>wf τ x.1/\wfL r x.2
def bkL:(τs:List Ty)->KC τs->Nat
 | [],_=>0
 | τ::r,x=>bk τ x.1+bkL r x.2
def Qq(P:Program)(ts:List Nat):Bool:=ts.all λt=>P.readableRec t&&decide (t<P.types.size)
section
variable {H:Type} {enc:TypeId×Value->H} {P:Program} {xid m n:Nat} {w:World}
theorem z7u{t:Nat}{τ:Ty}{v:Value}{base:Nat}(ht:Gc P xid n t=some τ)(hx:Ib P xid m=true)(h:Value.okWide P w .any base t v):pk τ v.cells.toList=v:=by
 cases n with
 | zero=>cases ht
 | succ n =>
  have agg:∀ fs:Array Field,P.underlying t=some (.struct fs)->τ.isAgg=true->pk τ v.cells.toList=v:=by
   intro fs hu ha
   unfold Value.okWide at h
   rw[hu]at h
   obtain⟨cs,rfl,_⟩:=h
   simp[pk,ha,Value.cells]
  unfold Gc at ht
  cases hb:Nat.beq t xid with
  | true =>
   rw[hb,cond_true]at ht
   cases ht
   have:=Nat.eq_of_beq_eq_true hb
   subst this
   unfold Ib at hx
   split at hx
   ·rename_i fs hu; exact agg fs hu rfl
   ·cases hx
   ·rename_i hu
    unfold Value.okWide at h
    rw[hu]at h
    simp[Cell.okWide,Cell.ok,hu]at h
  | false =>
   rw[hb,cond_false]at ht
   split at ht
   ·rename_i k hu
    cases ht
    unfold Value.okWide at h
    rw[hu]at h
    simp only[Cell.okWide,hu,Cell.ok]at h
    split at h<;>simp_all [pk,Ty.isAgg,Value.cells]
   ·rename_i hu
    cases ht
    unfold Value.okWide at h
    rw[hu]at h
    simp only[Cell.okWide,hu,Cell.ok]at h
    split at h<;>simp_all [pk,Ty.isAgg,Value.cells]
   ·rename_i hu
    cases ht
    unfold Value.okWide at h
    rw[hu]at h
    simp only[Cell.okWide,hu,Cell.ok]at h
    split at h<;>simp_all [pk,Ty.isAgg,Value.cells]
   ·rename_i e hu
    have h1:τ.isAgg=false:=by
     split at ht
     ·rename_i a ha
      cases hc:Nat.beq (P.cellsOf e) a.size&&Nat.blt 0 a.size with
      | false=>grind
      | true=>rw[hc,cond_true]at ht; cases ht; rfl
     ·cases ht
    unfold Value.okWide at h
    rw[hu]at h
    simp only[Cell.okWide,hu,Cell.ok]at h
    split at h<;>simp_all [pk,Value.cells]
   ·rename_i fs hu
    refine agg fs hu ?_
    cases hc:We P 0 fs.toList&&Nat.beq (XM P 0 fs.toList) (P.cellsOf t)with
    | false=>grind
    | true =>
     rw[hc,cond_true]at ht
     have key:∀ (l:List (Option Ty)),cM l=some τ->τ.isAgg=true:=by
      intro l hl
      cases l with
      | nil=>cases hl; rfl
      | cons a r =>
       cases a with
       | none=>cases hl
       | some a =>
        simp only[cM]at hl
        cases h2:cM r with
        | none=>grind
        | some b=>rw[h2]at hl; cases hl; rfl
     grind
   ·cases ht
theorem DN(B:O4 H)(hx:Ib P xid m=true){base:Nat}:∀ (ts:List TypeId) (τs:List Ty) (vs:List Value) (ds:List (DataW H)) (ps:List MemPlace),ts.map (Gc P xid n)=τs.map some ->
  DataW.TrodAll enc P w 0 (λ_=>true) true ts vs ds ps->(∀ (j:Nat) t v,ts[j]? = some t->vs[j]? = some v->Value.okWide P w .any base t v) ->
  ∃ x:KC τs,qE ⟨w,λk=>k<w.heap.size,[],[]⟩ (mkD τs x) vs/\wfL τs x/\bkL τs x<=B.bs ds/\ds.length=τs.length
 | [],τs,vs,ds,ps,ht,h,_=>by
  cases τs with
  | cons=>cases ht
  | nil =>
   cases vs<;>cases ds<;>simp only[DataW.TrodAll]at h
   exact⟨(),⟨rfl,λi h1=>absurd h1 (Nat.not_lt_zero i)⟩,trivial,Nat.zero_le _,rfl⟩
 | t::ts,τs,vs,ds,ps,ht,h,hv=>by
  cases τs with
  | nil=>cases ht
  | cons τ τs =>
   simp at ht
   cases vs with
   | nil=>simp[DataW.TrodAll]at h
   | cons v vs =>
    cases ds with
    | nil=>simp[DataW.TrodAll]at h
    | cons d ds =>
     obtain⟨p,q,⟨fuel,h1⟩,h2,_⟩:=h
     obtain⟨x,k1,k2,k3⟩:=On B hx fuel n t τ _ d p ht.1 h1
     obtain⟨y,g1,g2,g3,g4⟩:=DN B hx ts τs vs ds q ht.2 h2 λj t v a b=>hv (j+1) t v (by grind) (by grind)
     refine⟨(x,y),⟨by simp only[mkD,List.length_cons]; rw[g1.1],λi h1 h2 => ?_⟩,⟨k2,g2⟩,?_,by grind⟩
     ·cases i with
      | zero =>
       have:=RD.zI (κ:=⟨w,λk=>k<w.heap.size,[],[]⟩) τ x _ k1
       rw[z7u ht.1 hx (hv 0 t v rfl rfl)]at this
       exact this
      | succ i=>exact g1.2 i (by simpa[mkD]using h1) (by grind)
     ·simp only[bkL,B.cons]; omega
theorem Yb(hl:laidOutB P=true){W W':World}(hb:Below W.heap.size W W'):∀ (ts:List TypeId) (vs:List Value) (ds:List (DataW H)) (ps:List MemPlace),Qq P ts=true ->
  DataW.TrodAll enc P W 0 (λ_=>true) true ts vs ds ps->(∀ x∈ps,x.block<W.heap.size)->DataW.TrodAll enc P W' 0 (λb=>decide (b<W.heap.size)) true ts vs ds ps
 | [],vs,ds,ps,_,h,_=>by cases vs<;>cases ds<;>simp_all [DataW.TrodAll]
 | t::ts,vs,ds,ps,ht,h,qu=>by
  cases vs with
  | nil=>simp[DataW.TrodAll]at h
  | cons v vs =>
   cases ds with
   | nil=>simp[DataW.TrodAll]at h
   | cons d ds =>
    obtain⟨p,q,h1,h2,rfl⟩:=h
    simp only[Qq,List.all_cons,Bool.and_eq_true,decide_eq_true_eq]at ht
    exact⟨p,q,Below.trod hl ht.1.1 ht.1.2 h1 hb λx hx=>qu x (by grind),Yb hl hb ts vs ds q (by simpa[Qq]using ht.2) h2 λx hx=>qu x (by grind),rfl⟩
end
theorem Nq{H:Type}{enc:TypeId×Value->H}{P:Program}{f:Nat}{fn:Func}{S:List D->St->T (GC×St)}(hS:Bb P f S)(hf:P.funcs[f]? = some fn)(hbd:fn.body.isNone=false) (hnm:(fn.name == "runtime.NumGoroutine")=false)
  (hl:laidOutB P=true) (xid m n:Nat) (τs:List Ty) (hts:Qq P fn.params.toList=true) (hτ:fn.params.toList.map (Gc P xid n)=τs.map some) (hx:Ib P xid m=true)
  {bt:TypeId} (hr:fn.resultTypes = #[bt]) (hbt:P.underlying bt=some .bool) {s:ChangeSpec} (hv:s.vars=[]) (hs:∀ ds:List (DataW H),ds.length=τs.length->s.fn H ds={ results:=[.lit (.bool true)],args:=ds })
  (B:O4 H) {lim:Nat} (law:∀ x:KC τs,wfL τs x->bkL τs x<=lim->(S (mkD τs x) []).leads (.ret [.zI .bool true],[]))
  {fresh handsOn:Bool} {W:World} {base:Nat} {args:Array Value} {ds gs:List (DataW H)} {before:List MemPlace}
  (Kc:∀ (j:Nat) t v,fn.params[j]? = some t->args[j]? = some v->Value.okWide P W .any base t v)
  (hW:DataW.Whole enc P fn.params.toList s.vars false W args.toList ds gs before) (hk:B.bs (ds++gs)<=lim) (hG:tJ W λk=>k<W.heap.size) :
  Calls P f args W λe W'=>∃ v,e=.returned v/\s.post enc P fn false fresh handsOn false W args v W':=by
 have hW':=hW
 obtain⟨p,q,hA,hV,rfl,hfz,Du⟩:=hW
 rw[hv]at hV
 obtain⟨rfl,rfl⟩:=trodVars_none hV
 simp only[List.append_nil]at hk hW'
 obtain⟨x,h1,h2,h3,h4⟩:=DN (n:=n) B hx fn.params.toList τs args.toList ds p hτ hA λj t v a b=>Kc j t v (by grind) (by grind)
 have hI:Inv ⟨W,λk=>k<W.heap.size,[],[]⟩ :=
  ⟨rfl,λk hk=>hk,λb blk n h=>by grind,λb b' blk n n' h=>by simp at h,λb x h=>by simp at h,hG⟩
 have z62:=hS ⟨W,λk=>k<W.heap.size,[],[]⟩ (mkD τs x) args.toList _ _ (law x h2 (Nat.le_trans h3 hk)) hI h1
 rw[Array.toArray_toList]at z62
 have key:Calls P f args W λe w'=>∃ κ':KS,κ'.w=w'/\κ'.st=[]/\Inv κ'/\Ext ⟨W,λk=>k<W.heap.size,[],[]⟩ κ'/\wv κ' (.ret [.zI .bool true]) e:=by
  rcases z62 with⟨_,h⟩ | ⟨v,w',h,_⟩
  ·exact h
  ·have:=wL (args:=args) hf hnm hbd W
   grind
 refine key.mono λe W' ⟨κ',e1,_,_,e4,v,e5,e6⟩ => ?_
 subst e1
 have hb:Below W.heap.size W κ'.w:=⟨e4.os,e4.tape,e4.output,e4.size,λk hk=>e4.frame k hk λb n h=>by simp at h⟩
 have hv':v=.bool true:=by
  obtain⟨cs,g1,g2⟩:=RD.gL (show RD κ' (.zI .bool true) v from e6)
  rw[g1.jL]at g2
  exact g2
 subst hv'
 have qu:∀ x∈p,x.block<W.heap.size:=λx hx=>by simpa using hW'.lt x hx
 refine⟨_,e5,ds,[],p,[],p,[],hW',?_,?_,?_,hb.frame _,λh=>by cases h⟩
 ·rw[List.append_nil,hs ds h4,hr]
  exact trodAll_cons_mk (shut_bool hbt _) trodAll_mk0
 ·rw[List.append_nil,hs ds h4]
  exact Yb hl hb _ _ _ _ hts hA qu
 ·rw[List.append_nil,hs ds h4,hv]
  rfl
end Go.AM
namespace Go.AM
def GF:List Ty->Type
 | []=>Unit
 | [τ]=>den τ
 | τ::σ::r=>den τ×GF (σ::r)
def X6.ty:X6->Ty | .rp τ=>τ | .im τ=>τ
def gI:List X6->Type
 | []=>Unit
 | [p]=>den p.ty
 | p::q::r=>den p.ty×gI (q::r)
def YY:(p:X6)->den p.ty->D
 | .rp τ,x=>.qR τ x
 | .im τ,x=>.zI τ x
def mj:(l:List X6)->gI l->List D
 | [],_=>[]
 | [p],x=>[YY p x]
 | p::q::r,x=>YY p x.1::mj (q::r) x.2
def D8:(l:List X6)->gI l
 | []=>()
 | [p]=>zk p.ty
 | p::q::r=>(zk p.ty,D8 (q::r))
inductive Sk where
 | im (τ:Ty) | row (b:Nat) (e:Ty) | op (b T:Nat) | un
def cJ:List Sk->Type
 | []=>Unit
 | .im τ::r=>den τ×cJ r
 | .row _ _::r=>cJ r
 | .op _ _::r=>cJ r
 | .un::r=>cJ r
def Q2:(l:List Sk)->cJ l
 | []=>()
 | .im τ::r=>(zk τ,Q2 r)
 | .row _ _::r=>Q2 r
 | .op _ _::r=>Q2 r
 | .un::r=>Q2 r
inductive Mc where
 | im (τ:Ty) | rp (τ:Ty) | pt (b:Nat)
def mC:List Mc->Type
 | []=>Unit
 | .im τ::r=>den τ×mC r
 | .rp τ::r=>den τ×mC r
 | .pt _::r=>mC r
def WU:(l:List Mc)->mC l
 | []=>()
 | .im τ::r=>(zk τ,WU r)
 | .rp τ::r=>(zk τ,WU r)
 | .pt _::r=>WU r
def sG:(l:List Mc)->mC l->List D
 | [],_=>[]
 | .im τ::r,x=>.zI τ x.1::sG r x.2
 | .rp τ::r,x=>.qR τ x.1::sG r x.2
 | .pt b::r,x=>.ptr b 0::sG r x
inductive Dk where
 | zI (τ:Ty) | qR (τ:Ty) | sub (b:Nat) (e:Ty) | qW (f:Nat) (caps:List X6) | st (ks:List Sk) | mclo (f:Nat) (ms:List Mc)
inductive Ck where
 | ptr (b off:Nat) | cur (b:Nat) (e:Ty) | xr | yd | qV | qW (f:Nat) (l:List (Nat×Nat))
inductive Bk where
 | var (k:Dk) | cvar (k:Ck) | arr (e:Ty) | dead
def Dk.den:Dk->Type
 | .zI τ=>AM.den τ
 | .qR τ=>AM.den τ
 | .sub _ _=>Nat×Nat
 | .qW _ caps=>gI caps
 | .st ks=>cJ ks
 | .mclo _ ms=>mC ms
def Dk.zk:(k:Dk)->k.den
 | .zI τ=>AM.zk τ
 | .qR τ=>AM.zk τ
 | .sub _ _=>(0,0)
 | .qW _ caps=>D8 caps
 | .st ks=>Q2 ks
 | .mclo _ ms=>WU ms
inductive It where
 | s (t:Nat) (k:Dk) | v (k:Dk) | a (e:Ty)
def It.den:It->Type
 | .s _ k=>k.den
 | .v k=>k.den
 | .a e=>List (AM.den e)
def It.zk:(i:It)->i.den
 | .s _ k=>k.zk
 | .v k=>k.zk
 | .a _=>[]
def wN:List It->Type
 | []=>Unit
 | [i]=>i.den
 | i::j::r=>i.den×wN (j::r)
def zbf:kA->Nat
 | .arr v _ _=>v
 | _=>0
def xU(st:St)(b:Nat):Nat:=match st[b]? with | some x=>zbf x | none=>0
def vb(st:St):(l:List Sk)->cJ l->List D
 | [],_=>[]
 | .im τ::r,x=>AM.flat τ x.1++vb st r x.2
 | .row b e::r,x=>.ms b (xU st b) e 0 (xU st b)::vb st r x
 | .op b T::r,x=>.kJ b T::vb st r x
 | .un::r,x=>.td::vb st r x
def sw(st:St):(k:Dk)->k.den->D
 | .zI τ,x=>.zI τ x
 | .qR τ,x=>.qR τ x
 | .sub b e,x=>.ms b (xU st b) e x.1 x.2
 | .qW f caps,x=>.qW f (mj caps x)
 | .st ks,x=>.agg (vb st ks x)
 | .mclo f ms,x=>.qW f (sG ms x)
def Cu(st:St):Ck->D
 | .ptr b off=>.ptr b off
 | .cur b e=>.ms b (xU st b) e 0 (xU st b)
 | .xr=>.xr
 | .yd=>.yd
 | .qV=>.qV
 | .qW f l=>.qW f (l.map λp=>.ptr p.1 p.2)
def eV(st:St):(l:List It)->wN l->Fr
 | [],_=>[]
 | [.s t k],x=>[(t,some (sw st k x))]
 | [.v _],_=>[]
 | [.a _],_=>[]
 | .s t k::j::r,x=>(t,some (sw st k x.1))::eV st (j::r) x.2
 | .v _::j::r,x=>eV st (j::r) x.2
 | .a _::j::r,x=>eV st (j::r) x.2
def z8C(st:St)(l:List (Nat×Ck)):Fr:=l.map λp=>(p.1,some (Cu st p.2))
inductive Bd where
 | v (k:Dk) (x:k.den) | a (e:Ty) (x:List (AM.den e))
def mm:(l:List It)->wN l->List Bd
 | [],_=>[]
 | [.s _ _],_=>[]
 | [.v k],x=>[.v k x]
 | [.a e],x=>[.a e x]
 | .s _ _::j::r,x=>mm (j::r) x.2
 | .v k::j::r,x=>.v k x.1::mm (j::r) x.2
 | .a e::j::r,x=>.a e x.1::mm (j::r) x.2
def gj:List Bk->List Bd->St
 | [],_=>[]
 | .arr _::r,.a e x::d=>.arr x.length e x::gj r d
 | .var _::r,_::d=>.dead::gj r d
 | .cvar _::r,d=>.dead::gj r d
 | .dead::r,d=>.dead::gj r d
 | _::_,_=>[]
def vy(st:St):List Bk->List Bd->St
 | [],_=>[]
 | .arr _::r,.a e x::d=>.arr x.length e x::vy st r d
 | .var _::r,.v k x::d=>.var (sw st k x)::vy st r d
 | .cvar c::r,d=>.var (Cu st c)::vy st r d
 | .dead::r,d=>.dead::vy st r d
 | _::_,_=>[]
def zfR(bs:List Bk)(d:List Bd):St:=vy (gj bs d) bs d
structure vU where
 ob:List It
 cs:List (Nat×Ck)
 bs:List Bk
def vU.den(s:vU):Type:=wN s.ob
def vU.st(s:vU)(x:s.den):St:=zfR s.bs (mm s.ob x)
def vU.fr(s:vU)(x:s.den):Fr:=eV (s.st x) s.ob x++z8C (s.st x) s.cs
def IQ:(p:X6)->D->Option (den p.ty)
 | .rp τ,d=>match d with | .qR _ x=>wP x | _=>none
 | .im τ,d=>fp τ d
def FG:(l:List X6)->List D->Option (gI l)
 | [],[]=>some ()
 | [p],[d]=>IQ p d
 | p::q::r,d::ds=>(IQ p d).bind λx=>(FG (q::r) ds).bind λy=>some (x,y)
 | _,_=>none
def bg(st:St)(b:Nat):Nat:=match st[b]? with | some (.arr _ _ xs)=>xs.length | _=>0
def Rw(st:St)(b T:Nat)(ds:List D):Option (List D):=match st[b]? with
 | some (.var _)=>match ds with
  | .cA T'::ds=>bif Nat.beq T T' then some ds else none
  | .kJ b' T'::ds=>bif Nat.beq b b'&&Nat.beq T T' then some ds else none
  | _=>none
 | _=>none
def z7g(ds:List D):Option (List D):=match ds with
 | d::ds=>bif d.one then some ds else none
 | _=>none
def ir(st:St):(l:List Sk)->List D->T (cJ l)
 | [],ds=>match ds with | []=>.ret () | _=>.fail
 | .im τ::r,ds=>match jf τ ds with | some p=>(ir st r p.2).bind λy=>.ret (p.1,y) | none=>.fail
 | .row b e::r,ds=>match ds with
  | .ms b' qA e' off len::ds=>bif Nat.beq b b'&&decide (e=e')then .zL (ux qA off len (bg st b)) (ir st r ds)else .fail
  | _=>.fail
 | .op b T::r,ds=>match Rw st b T ds with | some q=>ir st r q | none=>.fail
 | .un::r,ds=>match z7g ds with | some q=>ir st r q | none=>.fail
def W6:(l:List Mc)->List D->T (mC l)
 | [],ds=>match ds with | []=>.ret () | _=>.fail
 | .im τ::r,ds=>match ds with
  | d::ds=>match fp τ d with | some y=>(W6 r ds).bind λz=>.ret (y,z) | none=>.fail
  | _=>.fail
 | .rp τ::r,ds=>match ds with
  | .qR _ x::ds=>match(wP x:Option (AM.den τ))with | some y=>(W6 r ds).bind λz=>.ret (y,z) | none=>.fail
  | _=>.fail
 | .pt b::r,ds=>match ds with
  | .ptr b' off::ds=>bif Nat.beq b b'&&Nat.beq off 0 then W6 r ds else .fail
  | _=>.fail
def tV(st:St):(k:Dk)->D->T k.den
 | .zI τ,d=>.Gi (fp τ d)
 | .qR τ,d=>match d with | .qR _ x=>.Gi (wP x) | _=>.fail
 | .sub b e,d=>match d with
  | .ms b' qA e' off len=>bif Nat.beq b b'&&decide (e=e')then .zL (qA=xU st b) (.ret (off,len))else .fail
  | _=>.fail
 | .qW f caps,d=>match d with
  | .qW f' l=>bif Nat.beq f f' then .Gi (FG caps l)else .fail
  | _=>.fail
 | .st ks,d=>bif d.cL then ir st ks (qh d)else .fail
 | .mclo f ms,d=>match d with
  | .qW f' l=>bif Nat.beq f f' then W6 ms l else .fail
  | _=>.fail
def tA:List (Nat×Nat)->List D->Bool
 | [],[]=>true
 | p::r,.ptr b off::ds=>Nat.beq p.1 b&&Nat.beq p.2 off&&tA r ds
 | _,_=>false
def WA(st:St):Ck->D->T Unit
 | .ptr b off,d=>match d with | .ptr b' off'=>bif Nat.beq b b'&&Nat.beq off off' then .ret ()else .fail | _=>.fail
 | .cur b e,d=>match d with
  | .ms b' qA e' off len=>bif Nat.beq b b'&&decide (e=e')then .zL (ux qA off len (bg st b)) (.ret ())else .fail
  | _=>.fail
 | .xr,d=>match d with | .xr=>.ret () | _=>.fail
 | .yd,d=>match d with | .yd=>.ret () | _=>.fail
 | .qV,d=>match d with | .qV=>.ret () | _=>.fail
 | .qW f l,d=>match d with | .qW f' l'=>bif Nat.beq f f'&&tA l l' then .ret ()else .fail | _=>.fail
def z3L(fr:Fr)(st:St):List (Nat×Ck)->T Unit
 | []=>.ret ()
 | p::r=>match fr.get p.1 with
  | some d=>(WA st p.2 d).bind λ_=>z3L fr st r
  | none=>.fail
def z0A(e:Ty)(b:kA):T (List (den e)):=match b with
 | .arr qA _ xs=>match(wP (a:=.sl _) (b:=.sl e) xs:Option (List (den e)))with
  | some ys=>.zL (qA=ys.length) (.ret ys)
  | none=>.fail
 | _=>.fail
def Dk.plain:Dk->Bool
 | .zI _=>true
 | .qR _=>true
 | .st _=>true
 | _=>false
def Sa(st:St)(k:Dk)(b:kA):T k.den:=match b with
 | .var d=>bif k.plain then tV st k d else .fail
 | _=>.fail
def DX:kA->Bool | .var _=>true | _=>false
def Kd(st:St):List Bk->List kA->T (List kA)
 | [],_=>.ret []
 | .arr _::r,b::bl=>(Kd st r bl).bind λl=>.ret (b::l)
 | .var _::r,b::bl=>(Kd st r bl).bind λl=>.ret (b::l)
 | .cvar c::r,.var d::bl=>(WA st c d).bind λ_=>Kd st r bl
 | .dead::r,b::bl=>bif DX b then .fail else Kd st r bl
 | _,_=>.fail
def Dd(fr:Fr)(st:St)(bl:List kA):(i:It)->T (i.den×List kA)
 | .s t k=>match fr.get t with | some d=>(tV st k d).bind λx=>.ret (x,bl) | none=>.fail
 | .v k=>match bl with | b::r=>(Sa st k b).bind λx=>.ret (x,r) | []=>.fail
 | .a e=>match bl with | b::r=>(z0A e b).bind λx=>.ret (x,r) | []=>.fail
def CU{α:Type}(x:α×List kA):T α:=match x.2 with | []=>.ret x.1 | _=>.fail
def YH(fr:Fr)(st:St):(l:List It)->List kA->T (wN l)
 | [],bl=>CU ((),bl)
 | [i],bl=>(Dd fr st bl i).bind CU
 | i::j::r,bl=>(Dd fr st bl i).bind λx=>(YH fr st (j::r) x.2).bind λy=>.ret (x.1,y)
def rowAt(bs:List Bk)(b:Nat):Bool:=match bs[b]? with | some (.arr _)=>true | _=>false
def Wm(bs:List Bk)(b:Nat):Bool:=match bs[b]? with | some (.var _)=>true | some (.cvar _)=>true | _=>false
def z3O(bs:List Bk):Sk->Bool
 | .row b _=>rowAt bs b
 | .op b _=>Wm bs b
 | _=>true
def zcl(bs:List Bk):Mc->Bool
 | .pt b=>Wm bs b
 | _=>true
def BI(bs:List Bk):Dk->Bool
 | .mclo _ ms=>ms.all (zcl bs)
 | .sub b _=>rowAt bs b
 | .st ks=>ks.all (z3O bs)
 | _=>true
def Nz(bs:List Bk):Ck->Bool
 | .ptr b _=>Wm bs b
 | .cur b _=>rowAt bs b
 | .qW _ l=>l.all λp=>Wm bs p.1
 | _=>true
def zff(bs:List Bk):It->Bool
 | .s _ k=>BI bs k
 | .v k=>BI bs k
 | .a _=>true
def zf6(bs:List Bk):Bk->Bool
 | .cvar c=>Nz bs c
 | _=>true
def kinds:List It->List Bool
 | []=>[]
 | .s _ _::r=>kinds r
 | .v _::r=>false::kinds r
 | .a _::r=>true::kinds r
def yu:List Bk->List Bool->Bool
 | [],[]=>true
 | .arr _::bs,b::r=>b&&yu bs r
 | .var _::bs,b::r => !b&&yu bs r
 | .cvar _::bs,l=>yu bs l
 | .dead::bs,l=>yu bs l
 | _,_=>false
def vU.ok(s:vU):Bool:=yu s.bs (kinds s.ob)&&s.ob.all (zff s.bs)&&s.cs.all (λp=>Nz s.bs p.2)&&s.bs.all (zf6 s.bs)
def vU.un(s:vU)(fr:Fr)(st:St):T s.den :=
 bif s.ok&&(st.take s.bs.length).all (Gn s.bs.length)then(z3L fr st s.cs).bind λ_=>(Kd st s.bs st).bind λbl=>YH fr st s.ob bl
 else .fail
structure Way where
 ex:Ex
 sh:vU
def gU:List Way->Type
 | []=>Empty
 | [w]=>w.sh.den
 | w::v::r=>w.sh.den⊕gU (v::r)
def Ln{α:Type}:(l:List Way)->gU l->(Ex->Fr->St->T α)->T α
 | [],x,_=>nomatch x
 | [w],x,k=>k w.ex (w.sh.fr x) (w.sh.st x)
 | w::v::r,x,k=>Sum.elim (λa=>k w.ex (w.sh.fr a) (w.sh.st a)) (λb=>Ln (v::r) b k) x
def p8:Ex->Ex->Bool
 | .normal,.normal=>true
 | .ret,.ret=>true
 | .exit a,.exit b=>Nat.beq a b
 | .kB (.iface t _),.kB (.iface t' _)=>Nat.beq t t'
 | _,_=>false
def KE:Ex->Fr->Fr
 | .kB (.iface _ d),_=>[(0,some d)]
 | _,fr=>fr
def Ct:Ex->Fr->Option (Ex×Fr)
 | .kB (.iface t _),fr=>match fr.get 0 with | some d=>some (.kB (.iface t d),[]) | none=>none
 | .kB _,_=>none
 | e,fr=>some (e,fr)
def B7:(l:List Way)->Ex->Fr->St->T (gU l)
 | [],_,_,_=>.fail
 | [w],ex,fr,st=>bif p8 w.ex ex then w.sh.un fr st else .fail
 | w::v::r,ex,fr,st=>bif p8 w.ex ex then(w.sh.un fr st).bind λx=>.ret (.inl x)else(B7 (v::r) ex fr st).bind λy=>.ret (.inr y)
end Go.AM
namespace Go.AM
set_option linter.unusedSectionVars false
variable [vX] [K0]
section
variable {c:Ctx} {n:Nat}
theorem get_mem:∀ {l:Fr} {s:Nat} {d:D},l.get s=some d->(s,some d)∈l
 | [],s,d,h=>by cases h
 | (t,d')::r,s,d,h=>by
  simp only[Fr.get]at h
  cases ht:Nat.beq t s with
  | true =>
   rw[ht,cond_true]at h
   rw[Nat.eq_of_beq_eq_true ht,h]
   simp
  | false=>rw[ht,cond_false]at h; exact List.mem_cons_of_mem _ (get_mem h)
theorem get_append{l m:Fr}{s:Nat}{d:D}(h:(l++m).get s=some d):(s,some d)∈l\/m.get s=some d:=by
 induction l with
 | nil=>grind
 | cons p r ih =>
  obtain⟨t,d'⟩:=p
  simp only[List.cons_append,Fr.get]at h
  cases ht:Nat.beq t s with
  | true=>rw[ht,cond_true]at h; rw[Nat.eq_of_beq_eq_true ht,h]; exact .inl List.mem_cons_self
  | false=>grind
structure Wk(κ κ':KS):Prop where
 w:κ'.w=κ.w
 ok:κ'.ok=κ.ok
 ph:κ'.ph=κ.ph
 len:κ'.st.length=κ.st.length
 var:∀ (b:Nat) (d:D),κ.st[b]? = some (kA.var d)->∃ d',κ'.st[b]? = some (kA.var d')
 arr:∀ (b v:Nat) (e:Ty) (xs:List (den e)),κ.st[b]? = some (kA.arr v e xs)->κ'.st[b]? = some (kA.arr v e xs)\/κ'.st[b]? = some kA.dead
 arr':∀ (b v:Nat) (e:Ty) (xs:List (den e)),κ'.st[b]? = some (kA.arr v e xs)->κ.st[b]? = some (kA.arr v e xs)
 dead:∀ (b:Nat),κ.st[b]? = some kA.dead->κ'.st[b]? = some kA.dead
theorem Wk.ext{κ κ':KS}(h:Wk κ κ'):Ext κ κ':=by
 refine⟨by rw[h.w],by rw[h.w],by rw[h.w],by rw[h.w]; exact Nat.le_refl _,λk hk=>⟨by rw[h.ok]; exact hk,by rw[h.w]⟩,λk hk=>.inl (by rw[<- h.ok]; exact hk),
  λb blk m hb=>.inl (by rw[<- h.ph]; exact hb),λb d hd=>⟨h.var b d hd,by rw[h.ph]⟩,λb v0 e xs hb => ?_,h.dead,by rw[h.len]; exact Nat.le_refl _,λk _ _=>by rw[h.w]⟩
 rcases h.arr b v0 e xs hb with g | g
 ·exact .inr ⟨v0,xs,g,Nat.le_refl _,λ_=>⟨by rw[h.ph],rfl⟩⟩
 ·grind
theorem Wk.rd{κ κ':KS}(h:Wk κ κ'){d:D}{v:Value}(hd:RD κ d v):RD κ' d v:=hd.mono h.ext
theorem Wk.inv{κ κ':KS}(h:Wk κ κ')(hI:Inv κ)(hv:∀ (b:Nat) (d:D),κ'.st[b]? = some (kA.var d)->eK κ' b (.var d)):Inv κ':=by
 refine⟨by rw[h.ph,h.len]; exact hI.len,λk hk=>by rw[h.w]; exact hI.yF k (by rw[<- h.ok]; exact hk),λb blk m hb => ?_,λb b' blk m m' hb He=>hI.inj b b' blk m m' (by rw[<- h.ph]; exact hb) (by rw[<- h.ph]; exact He),λb x hx => ?_,hI.gl.mono h.ext.same⟩
 ·obtain⟨g1,g2⟩:=hI.apart b blk m (by rw[<- h.ph]; exact hb)
  exact⟨by rw[h.w]; exact g1,λhk=>g2 (by rw[<- h.ok]; exact hk)⟩
 ·cases x with
  | dead=>trivial
  | var d=>grind
  | arr v e xs=>exact(hI.blk b _ (h.arr' b v e xs hx)).mono h.ext (by rw[h.ph]) λblk m _=>by rw[h.w]
theorem U6{p:X6}{d:D}{x:den p.ty}(h:IQ p d=some x){κ:KS}{v:Value}(hd:RD κ d v):RD κ (YY p x) v:=by
 cases p with
 | rp τ =>
  cases d<;>simp only[IQ]at h<;>try (cases h; done)
  obtain⟨e,hx⟩:=qk h
  cases e
  cases hx
  exact hd
 | im τ=>exact bN hd h
theorem Wg{κ:KS}:∀ (l:List X6) (ds:List D) (x:gI l) (vs:List Value),FG l ds=some x->qE κ ds vs->qE κ (mj l x) vs
 | [],[],x,vs,_,hd=>by rw[hd.qg]; exact .nil
 | [],_::_,_,_,h,_=>nomatch h
 | [p],[],_,_,h,_=>nomatch h
 | [p],[d],x,vs,h,hd=>by
  obtain⟨v,us,rfl,h1,h2⟩:=hd.cons_inv
  rw[h2.qg]
  exact .cons (U6 h h1) .nil
 | [p],_::_::_,_,_,h,_=>nomatch h
 | p::q::r,[],_,_,h,_=>nomatch h
 | p::q::r,d::ds,x,vs,h,hd=>by
  obtain⟨y,hy,h⟩:=Option.bind_eq_some_iff.1 h
  obtain⟨z,hz,h⟩:=Option.bind_eq_some_iff.1 h
  cases h
  obtain⟨v,us,rfl,h1,h2⟩:=hd.cons_inv
  exact .cons (U6 hy h1) (Wg (q::r) ds z us hz h2)
theorem Rt{κ:KS}{d:D}{v:Value}(hd:RD κ d v)(ha:d.cL=true):∃ c,v=.agg c:=by
 cases hd with
 | zI τ x cs h=>exact⟨cs.toArray,by unfold pk; rw[show τ.isAgg=true from ha]; rfl⟩
 | agg l vs hl ho h=>simp
 | _=>cases ha
theorem z3H{κ:KS}{b T:Nat}{ds q:List D}{vs:List Value}(hd:qE κ ds vs)(h:Rw κ.st b T ds=some q):∃ v us,vs=v::us/\RD κ (.kJ b T) v/\qE κ q us:=by
 unfold Rw at h
 split at h
 ·rename_i d0 WZ
  split at h
  ·rename_i T' ds
   cases hb:Nat.beq T T' with
   | false=>grind
   | true =>
    rw[hb]at h
    cases h
    obtain⟨v,us,rfl,g1,g2⟩:=hd.cons_inv
    exact⟨v,us,rfl,by cases g1; exact .cd b T d0 WZ,g2⟩
  ·rename_i b' T' ds
   cases hb:Nat.beq b b'&&Nat.beq T T' with
   | false=>grind
   | true =>
    simp only[Bool.and_eq_true]at hb
    have e1:=Nat.eq_of_beq_eq_true hb.1
    have e2:=Nat.eq_of_beq_eq_true hb.2
    obtain⟨v,us,rfl,g1,g2⟩:=hd.cons_inv
    grind
  ·cases h
 ·cases h
theorem FF{st:St}{b T:Nat}{ds q:List D}(h:Rw st b T ds=some q):gB ds=some T:=by
 unfold Rw at h
 split at h
 ·split at h
  ·rename_i T' ds
   cases hb:Nat.beq T T' with
   | false=>grind
   | true=>rw[Nat.eq_of_beq_eq_true hb]; rfl
  ·rename_i b' T' ds
   cases hb:Nat.beq b b'&&Nat.beq T T' with
   | false=>grind
   | true =>
    simp only[Bool.and_eq_true]at hb
    rw[Nat.eq_of_beq_eq_true hb.2]; rfl
  ·cases h
 ·cases h
theorem z4z{κ:KS}{ds q:List D}{vs:List Value}(hd:qE κ ds vs)(h:z7g ds=some q):∃ v us,vs=v::us/\RD κ .td v/\qE κ q us:=by
 unfold z7g at h
 split at h
 ·rename_i d ds
  cases hb:d.one with
  | false=>grind
  | true =>
   rw[hb]at h
   cases h
   obtain⟨v,us,rfl,g1,g2⟩:=hd.cons_inv
   exact⟨v,us,rfl,.td v (g1.Vk hb),g2⟩
 ·cases h
theorem dz{κ:KS}{zt:St}{bs:List Bk}(KH:∀ b,rowAt bs b=true->xU zt b=bg κ.st b):∀ (ks:List Sk) (ds:List D) (x:cJ ks) (vs:List Value),ks.all (z3O bs)=true->(ir κ.st ks ds).leads x->qE κ ds vs ->
  qE κ (vb zt ks x) vs/\∀ d∈vb zt ks x,d.one=true
 | [],ds,x,vs,_,h,hd=>by
  cases ds with
  | nil=>exact⟨hd,λd hm=>by cases hm⟩
  | cons d r=>exact h.elim
 | .im τ::r,ds,x,vs,ho,h,hd=>by
  simp only[ir]at h
  split at h
  ·rename_i p hp
   obtain⟨y,h1,h2⟩:=T.zd.1 h
   cases h2
   obtain⟨c1,c2,rfl,g1,g2⟩:=si τ hd hp
   simp only[List.all_cons,Bool.and_eq_true]at ho
   obtain⟨k1,k2⟩:=dz KH r p.2 y c2 ho.2 h1 g2
   refine⟨(ou g1).append k1,λd hm => ?_⟩
   rcases List.mem_append.1 (show d∈flat τ p.1++vb zt r y from hm)with hm | hm
   ·exact fa τ _ d hm
   ·grind
  ·exact h.elim
 | .row b e::r,ds,x,vs,ho,h,hd=>by
  cases ds with
  | nil=>exact h.elim
  | cons d ds =>
   cases d<;>simp only[ir]at h<;>try (exact h.elim)
   rename_i b' qA e' off len
   cases hb:Nat.beq b b'&&decide (e=e')with
   | false=>rw[hb]at h; exact h.elim
   | true =>
    rw[hb,cond_true]at h
    simp only[Bool.and_eq_true,decide_eq_true_eq]at hb
    obtain⟨⟨h1,h2,h3⟩,h⟩:=h
    have:=Nat.eq_of_beq_eq_true hb.1
    obtain⟨-,rfl⟩:=hb
    subst this
    obtain⟨v,us,rfl,g1,g2⟩:=hd.cons_inv
    simp only[List.all_cons,Bool.and_eq_true]at ho
    obtain⟨k1,k2⟩:=dz KH r ds x us ho.2 h g2
    have e1:vb zt (.row b e::r) x=.ms b qA e off len::vb zt r x:=by
     show D.ms b (xU zt b) e 0 (xU zt b)::_=_
     rw[KH b ho.1,h1,h2,h3]
    rw[e1]
    refine⟨.cons g1 k1,λd hm => ?_⟩
    rcases List.mem_cons.1 hm with rfl | hm
    ·rfl
    ·grind
 | .op b T::r,ds,x,vs,ho,h,hd=>by
  simp only[List.all_cons,Bool.and_eq_true]at ho
  simp only[ir]at h
  split at h
  ·rename_i q hq
   obtain⟨v,us,rfl,g0,g2⟩:=z3H hd hq
   obtain⟨k1,k2⟩:=dz KH r q x us ho.2 h g2
   refine⟨show qE κ (D.kJ b T::vb zt r x) (v::us)from .cons g0 k1,λd hm => ?_⟩
   rcases List.mem_cons.1 (show d∈D.kJ b T::vb zt r x from hm)with rfl | hm
   ·rfl
   ·grind
  ·exact h.elim
 | .un::r,ds,x,vs,ho,h,hd=>by
  simp only[List.all_cons,Bool.and_eq_true]at ho
  simp only[ir]at h
  split at h
  ·rename_i q hq
   obtain⟨v,us,rfl,g0,g2⟩:=z4z hd hq
   obtain⟨k1,k2⟩:=dz KH r q x us ho.2 h g2
   refine⟨show qE κ (D.td::vb zt r x) (v::us)from .cons g0 k1,λd hm => ?_⟩
   rcases List.mem_cons.1 (show d∈D.td::vb zt r x from hm)with rfl | hm
   ·rfl
   ·grind
  ·exact h.elim
theorem pM{st zt:St}{bs:List Bk}(h:∀ b,rowAt bs b=true->xU st b=xU zt b):∀ (ks:List Sk) (x:cJ ks),ks.all (z3O bs)=true->vb st ks x=vb zt ks x
 | [],_,_=>rfl
 | .im τ::r,x,ho=>by
  simp only[List.all_cons,Bool.and_eq_true]at ho
  show flat τ x.1++vb st r x.2=flat τ x.1++vb zt r x.2
  rw[pM h r x.2 ho.2]
 | .row b e::r,x,ho=>by
  simp only[List.all_cons,Bool.and_eq_true]at ho
  show D.ms b (xU st b) e 0 (xU st b)::vb st r x=D.ms b (xU zt b) e 0 (xU zt b)::vb zt r x
  rw[pM h r x ho.2,h b ho.1]
 | .op b T::r,x,ho=>by
  simp only[List.all_cons,Bool.and_eq_true]at ho
  show D.kJ b T::vb st r x=D.kJ b T::vb zt r x
  rw[pM h r x ho.2]
 | .un::r,x,ho=>by
  simp only[List.all_cons,Bool.and_eq_true]at ho
  show D.td::vb st r x=D.td::vb zt r x
  rw[pM h r x ho.2]
theorem UI:∀ (τ:Ty) (x:den τ),∀ y∈flat τ x,∃ σ z,y=.zI σ z:=by
 intro τ x y hy
 induction τ with
 | cons a b ia ib =>
  simp only[flat]at hy
  grind
 | nil=>simp[flat]at hy
 | expr=>simp[flat]at hy; rcases hy with rfl | rfl | rfl | rfl | rfl | rfl<;>exact⟨_,_,rfl⟩
 | _=>simp[flat]at hy; subst hy; exact⟨_,_,rfl⟩
theorem H4:∀ (τ:Ty) {ds:List D} {p:den τ×List D},jf τ ds=some p->τ.size=0->p.2=ds:=by
 intro τ
 induction τ with
 | nil=>intro ds p h _; simp only[jf,Option.some.injEq]at h; subst h; rfl
 | cons a b ia ib =>
  intro ds p h hz
  simp only[Ty.size]at hz
  simp only[jf]at h
  grind
 | _=>nofun
theorem XE{st zt:St}{tt:Nat}:∀ (ks:List Sk) (ds:List D) (x:cJ ks),(ir st ks ds).leads x->gB (vb zt ks x)=some tt->gB ds=some tt
 | [],ds,x,h,ht=>by cases ht
 | .im τ::r,ds,x,h,ht=>by
  simp only[ir]at h
  split at h
  ·rename_i p hp
   obtain⟨y,h1,h2⟩:=T.zd.1 h
   cases h2
   have ht':gB (flat τ p.1++vb zt r y)=some tt:=ht
   cases hf:flat τ p.1 with
   | nil =>
    rw[hf]at ht'
    have hz:τ.size=0:=by rw[<- Zw τ p.1,hf]; rfl
    have:=H4 τ hp hz
    rw[<- this]
    exact XE r p.2 y h1 ht'
   | cons z zs =>
    rw[hf]at ht'
    obtain⟨σ,w,e⟩:=UI τ p.1 z (by grind)
    rw[e]at ht'
    cases ht'
  ·exact h.elim
 | .row b e::r,ds,x,h,ht=>by cases ht
 | .op b T'::r,ds,x,h,ht=>by
  simp only[ir]at h
  split at h
  ·rename_i q hq
   cases ht
   exact FF hq
  ·exact h.elim
 | .un::r,ds,x,h,ht=>by cases ht
theorem Ws{d:D}{T:Nat}(ha:d.cL=true)(h:gB (qh d)=some T):d.typed=some T:=by
 cases d with
 | zI τ x =>
  simp only[qh]at h
  cases hf:flat τ x with
  | nil=>rw[hf]at h; cases h
  | cons z zs =>
   obtain⟨σ,w,e⟩:=UI τ x z (by grind)
   rw[hf,e]at h
   cases h
 | agg l=>exact h
 | _=>cases ha
theorem GM{m:Nat}(τ:Ty)(x:den τ):∀ d∈flat τ x,vN m d=true:=λd hd=>by
 obtain⟨σ,z,rfl⟩:=UI τ x d hd
 rfl
theorem kc{m:Nat}{st:St}{bs:List Bk}(hb:∀ b,rowAt bs b=true->b<m)(Pv:∀ b,Wm bs b=true->b<m):∀ (ks:List Sk) (x:cJ ks),ks.all (z3O bs)=true->∀ d∈vb st ks x,vN m d=true
 | [],_,_,d,hd=>by cases hd
 | .im τ::r,x,ho,d,hd=>by
  simp only[List.all_cons,Bool.and_eq_true]at ho
  rcases List.mem_append.1 (show d∈flat τ x.1++vb st r x.2 from hd)with hd | hd
  ·exact GM τ _ d hd
  ·exact kc hb Pv r x.2 ho.2 d hd
 | .row b e::r,x,ho,d,hd=>by
  simp only[List.all_cons,Bool.and_eq_true]at ho
  rcases List.mem_cons.1 (show d∈D.ms b (xU st b) e 0 (xU st b)::vb st r x from hd)with rfl | hd
  ·have:=hb b ho.1
   simp only[vN,Nat.blt,Nat.ble_eq]; exact this
  ·exact kc hb Pv r x ho.2 d hd
 | .op b T::r,x,ho,d,hd=>by
  simp only[List.all_cons,Bool.and_eq_true]at ho
  rcases List.mem_cons.1 (show d∈D.kJ b T::vb st r x from hd)with rfl | hd
  ·have:=Pv b ho.1
   simp only[vN,Nat.blt,Nat.ble_eq]; exact this
  ·exact kc hb Pv r x ho.2 d hd
 | .un::r,x,ho,d,hd=>by
  simp only[List.all_cons,Bool.and_eq_true]at ho
  rcases List.mem_cons.1 (show d∈D.td::vb st r x from hd)with rfl | hd
  ·rfl
  ·exact kc hb Pv r x ho.2 d hd
theorem rX{κ:KS}:∀ (ms:List Mc) (ds:List D) (x:mC ms) (vs:List Value),(W6 ms ds).leads x->qE κ ds vs->qE κ (sG ms x) vs
 | [],ds,x,vs,h,hd=>by
  cases ds with
  | nil=>exact hd
  | cons d r=>exact h.elim
 | .im τ::r,ds,x,vs,h,hd=>by
  cases ds with
  | nil=>exact h.elim
  | cons d ds =>
   simp only[W6]at h
   split at h
   ·rename_i y hy
    obtain⟨z,h1,h2⟩:=T.zd.1 h
    cases h2
    obtain⟨v,us,rfl,g1,g2⟩:=hd.cons_inv
    exact .cons (bN g1 hy) (rX r ds z us h1 g2)
   ·exact h.elim
 | .rp τ::r,ds,x,vs,h,hd=>by
  cases ds with
  | nil=>exact h.elim
  | cons d ds =>
   cases d<;>simp only[W6]at h<;>try (exact h.elim)
   split at h
   ·rename_i y hy
    obtain⟨e,hx⟩:=qk hy
    cases e
    cases hx
    obtain⟨z,h1,h2⟩:=T.zd.1 h
    cases h2
    obtain⟨v,us,rfl,g1,g2⟩:=hd.cons_inv
    exact .cons g1 (rX r ds z us h1 g2)
   ·exact h.elim
 | .pt b::r,ds,x,vs,h,hd=>by
  cases ds with
  | nil=>exact h.elim
  | cons d ds =>
   cases d<;>simp only[W6]at h<;>try (exact h.elim)
   rename_i b' off
   cases hb:Nat.beq b b'&&Nat.beq off 0 with
   | false=>rw[hb]at h; exact h.elim
   | true =>
    rw[hb]at h
    simp only[Bool.and_eq_true]at hb
    have e1:=Nat.eq_of_beq_eq_true hb.1
    have e2:=Nat.eq_of_beq_eq_true hb.2
    subst e1 e2
    obtain⟨v,us,rfl,g1,g2⟩:=hd.cons_inv
    exact .cons g1 (rX r ds x us h g2)
theorem dv{m:Nat}{bs:List Bk}(hb:∀ b,Wm bs b=true->b<m):∀ (ms:List Mc) (x:mC ms),ms.all (zcl bs)=true->∀ d∈sG ms x,vN m d=true
 | [],_,_,d,hd=>by cases hd
 | .im τ::r,x,ho,d,hd=>by
  simp only[List.all_cons,Bool.and_eq_true]at ho
  rcases List.mem_cons.1 (show d∈D.zI τ x.1::sG r x.2 from hd)with rfl | hd
  ·rfl
  ·exact dv hb r x.2 ho.2 d hd
 | .rp τ::r,x,ho,d,hd=>by
  simp only[List.all_cons,Bool.and_eq_true]at ho
  rcases List.mem_cons.1 (show d∈D.qR τ x.1::sG r x.2 from hd)with rfl | hd
  ·rfl
  ·exact dv hb r x.2 ho.2 d hd
 | .pt b::r,x,ho,d,hd=>by
  simp only[List.all_cons,Bool.and_eq_true]at ho
  rcases List.mem_cons.1 (show d∈D.ptr b 0::sG r x from hd)with rfl | hd
  ·have:=hb b ho.1
   simp only[vN,Nat.blt,Nat.ble_eq]; exact this
  ·exact dv hb r x ho.2 d hd
theorem GQ{κ κ':KS}(hw:Wk κ κ'){k:Dk}{d:D}{x:k.den}{v:Value}{bs:List Bk}(wg:BI bs k=true)(KH:∀ b,rowAt bs b=true->xU κ'.st b=xU κ.st b)
  {zt:St} (xK:∀ b,rowAt bs b=true->xU zt b=xU κ'.st b) (hlen:∀ b,rowAt bs b=true->xU κ.st b=bg κ.st b) (h:(tV κ.st k d).leads x) (hd:RD κ d v):RD κ' (sw zt k x) v:=by
 cases k with
 | zI τ=>exact hw.rd (bN hd (T.uc.1 h))
 | qR τ =>
  cases d<;>simp only[tV]at h<;>try (exact h.elim)
  obtain⟨e,hx⟩:=qk (T.uc.1 h)
  cases e
  cases hx
  exact hw.rd hd
 | sub b e =>
  cases d<;>simp only[tV]at h<;>try (exact h.elim)
  rename_i b' qA e' off len
  cases hb:Nat.beq b b'&&decide (e=e')with
  | false=>rw[hb]at h; exact h.elim
  | true =>
   rw[hb,cond_true]at h
   simp only[Bool.and_eq_true,decide_eq_true_eq]at hb
   obtain⟨hv,h⟩:=h
   cases h
   have:=Nat.eq_of_beq_eq_true hb.1
   obtain⟨-,rfl⟩:=hb
   subst this
   simp only[sw]
   rw[xK b wg,KH b wg,<- hv]
   exact hw.rd hd
 | qW f caps =>
  cases d<;>simp only[tV]at h<;>try (exact h.elim)
  rename_i f' l
  cases hb:Nat.beq f f' with
  | false=>rw[hb]at h; exact h.elim
  | true =>
   rw[hb,cond_true]at h
   have:=Nat.eq_of_beq_eq_true hb
   subst this
   have hx:=T.uc.1 h
   cases hd with
   | qW _ _ vs hl hh =>
    have:=Wg caps l x vs hx (⟨hl,hh⟩:qE κ l vs)
    exact hw.rd (.qW f _ vs this.1 this.2)
 | st ks =>
  simp only[tV]at h
  cases ha:d.cL with
  | false=>rw[ha]at h; exact h.elim
  | true =>
   rw[ha]at h
   have ht:d.uM=false:=by cases d<;>first | rfl | (simp[D.cL]at ha)
   obtain⟨g1,g2⟩:=dz (zt:=zt) (λb hb=>(xK b hb).trans ((KH b hb).trans (hlen b hb))) ks (qh d) x _ wg h (j3 hd ht)
   obtain⟨c,hc⟩:=Rt hd ha
   subst hc
   have g1':qE κ (vb zt ks x) c.toList:=g1
   have:=RD.agg (κ:=κ) _ c.toList g1'.1 g2 g1'.2
   exact hw.rd (show RD κ (.agg (vb zt ks x)) (.agg c) by simpa using this)
 | mclo f ms =>
  cases d<;>simp only[tV]at h<;>try (exact h.elim)
  rename_i f' l
  cases hb:Nat.beq f f' with
  | false=>rw[hb]at h; exact h.elim
  | true =>
   rw[hb]at h
   have:=Nat.eq_of_beq_eq_true hb
   subst this
   cases hd with
   | qW _ _ vs hl hh =>
    have:=rX ms l x vs h (⟨hl,hh⟩:qE κ l vs)
    exact hw.rd (show RD κ (.qW f (sG ms x)) _ from .qW f _ vs this.1 this.2)
theorem Yd:∀ {l:List (Nat×Nat)} {ds:List D},tA l ds=true->ds=l.map λp=>.ptr p.1 p.2
 | [],[],_=>rfl
 | [],_::_,h=>by simp[tA]at h
 | p::r,[],h=>by simp[tA]at h
 | p::r,d::ds,h=>by
  cases d<;>simp only[tA]at h<;>try (cases h; done)
  simp only[Bool.and_eq_true]at h
  rw[Yd h.2,<- Nat.eq_of_beq_eq_true h.1.1,<- Nat.eq_of_beq_eq_true h.1.2]
  rfl
theorem z4F{st zt:St}{ck:Ck}{d:D}{bs:List Bk}(wg:Nz bs ck=true)(KH:∀ b,rowAt bs b=true->xU zt b=bg st b)(h:(WA st ck d).leads ()):Cu zt ck=d:=by
 cases ck with
 | ptr b off =>
  cases d<;>simp only[WA]at h<;>try (exact h.elim)
  rename_i b' off'
  cases hb:Nat.beq b b'&&Nat.beq off off' with
  | false=>rw[hb]at h; exact h.elim
  | true =>
   simp only[Bool.and_eq_true]at hb
   rw[<- Nat.eq_of_beq_eq_true hb.1,<- Nat.eq_of_beq_eq_true hb.2]
   rfl
 | cur b e =>
  cases d<;>simp only[WA]at h<;>try (exact h.elim)
  rename_i b' qA e' off len
  cases hb:Nat.beq b b'&&decide (e=e')with
  | false=>rw[hb]at h; exact h.elim
  | true =>
   rw[hb,cond_true]at h
   simp only[Bool.and_eq_true,decide_eq_true_eq]at hb
   obtain⟨⟨h1,h2,h3⟩,_⟩:=h
   have:=Nat.eq_of_beq_eq_true hb.1
   obtain⟨-,rfl⟩:=hb
   subst this
   simp only[Cu]
   rw[KH b wg,h1,h2,h3]
 | xr=>cases d<;>simp only[WA]at h<;>first | rfl | exact h.elim
 | yd=>cases d<;>simp only[WA]at h<;>first | rfl | exact h.elim
 | qV=>cases d<;>simp only[WA]at h<;>first | rfl | exact h.elim
 | qW f l =>
  cases d<;>simp only[WA]at h<;>try (exact h.elim)
  rename_i f' l'
  cases hb:Nat.beq f f'&&tA l l' with
  | false=>rw[hb]at h; exact h.elim
  | true =>
   simp only[Bool.and_eq_true]at hb
   rw[<- Nat.eq_of_beq_eq_true hb.1,Yd hb.2]
   rfl
theorem DJ{fr:Fr}{st:St}:∀ {cs:List (Nat×Ck)},(z3L fr st cs).leads ()->∀ p∈cs,∃ d,fr.get p.1=some d/\(WA st p.2 d).leads ()
 | [],_,p,hp=>by cases hp
 | q::r,h,p,hp=>by
  simp only[z3L]at h
  split at h
  ·rename_i d hd
   simp only[T.zD]at h
   obtain⟨⟨⟩,h1,h2⟩:=h
   rcases List.mem_cons.1 hp with rfl | hp
   ·grind
   ·exact DJ h2 p hp
  ·exact h.elim
def ON(p:Dk->Bool)(st:St):List kA->List Bd->Prop
 | [],[]=>True
 | b::bl,.a e xs::r=>b=.arr xs.length e xs/\ON p st bl r
 | b::bl,.v k x::r=>(∃ d,b=.var d/\(k.plain=true/\p k=true)/\(tV st k d).leads x)/\ON p st bl r
 | _,_=>False
theorem Tt{e:Ty}{b:kA}{x:List (den e)}(h:(z0A e b).leads x):b=.arr x.length e x:=by
 unfold z0A at h
 split at h
 ·split at h
  ·rename_i ys hy
   obtain⟨h1,h2⟩:=h
   cases h2
   obtain⟨he,hx⟩:=qk hy
   grind
  ·exact h.elim
 ·exact h.elim
theorem RX{st:St}{k:Dk}{b:kA}{x:k.den}(h:(Sa st k b).leads x):∃ d,b=.var d/\k.plain=true/\(tV st k d).leads x:=by
 cases b with
 | var d =>
  simp only[Sa]at h
  cases hp:k.plain with
  | false=>rw[hp]at h; exact h.elim
  | true=>grind
 | _=>exact h.elim
def Kq(st:St):(i:It)->i.den->Fr
 | .s t k,x=>[(t,some (sw st k x))]
 | .v _,_=>[]
 | .a _,_=>[]
def PS:(i:It)->i.den->List Bd
 | .s _ _,_=>[]
 | .v k,x=>[.v k x]
 | .a e,x=>[.a e x]
theorem JP(st:St)(i:It)(x:i.den):eV st [i] x=Kq st i x:=by cases i<;>rfl
theorem Xw(st:St)(i j:It)(r:List It)(x:i.den×wN (j::r)):eV st (i::j::r) x=Kq st i x.1++eV st (j::r) x.2:=by cases i<;>rfl
theorem Rk(i:It)(x:i.den):mm [i] x=PS i x:=by cases i<;>rfl
theorem Ny(i j:It)(r:List It)(x:i.den×wN (j::r)):mm (i::j::r) x=PS i x.1++mm (j::r) x.2:=by cases i<;>rfl
def zdH(fr:Fr)(st zt:St)(l:List It)(p:Nat×Option D):Prop:=∃ (k:Dk) (y:k.den) (d:D),(It.s p.1 k)∈l/\fr.get p.1=some d/\(tV st k d).leads y/\p.2=some (sw zt k y)
theorem MU{p:Dk->Bool}{fr:Fr}{st zt:St}{bl:List kA}{i:It}{x:i.den×List kA}(hp:∀ k,i=.v k->p k=true)(h:(Dd fr st bl i).leads x) :
  (∀ bd,ON p st x.2 bd->ON p st bl (PS i x.1++bd))/\∀ p∈Kq zt i x.1,zdH fr st zt [i] p:=by
 cases i with
 | s t k =>
  simp only[Dd]at h
  split at h
  ·rename_i d hd
   rw[T.zD]at h
   obtain⟨y,h1,rfl⟩:=h
   refine⟨λbd hb=>hb,λp hp => ?_⟩
   simp only[Kq,List.mem_singleton]at hp
   subst hp
   exact⟨k,y,d,by simp,hd,h1,rfl⟩
  ·exact h.elim
 | v k =>
  cases bl with
  | nil=>exact h.elim
  | cons b r =>
   simp only[Dd]at h
   rw[T.zD]at h
   obtain⟨y,h1,rfl⟩:=h
   obtain⟨d,q1,q2,q3⟩:=RX h1
   exact⟨λbd hb=>⟨⟨d,q1,⟨q2,hp k rfl⟩,q3⟩,hb⟩,λp hp=>by cases hp⟩
 | a e =>
  cases bl with
  | nil=>exact h.elim
  | cons b r =>
   simp only[Dd]at h
   rw[T.zD]at h
   obtain⟨y,h1,rfl⟩:=h
   exact⟨λbd hb=>⟨Tt h1,hb⟩,λp hp=>by cases hp⟩
theorem BT{α:Type}{x:α×List kA}{y:α}(h:(CU x).leads y):x=(y,[]):=by
 obtain⟨a,bl⟩:=x
 cases bl with
 | nil=>cases h; rfl
 | cons=>exact h.elim
theorem Ql{p:Dk->Bool}{fr:Fr}{st zt:St}:∀ (l:List It) (bl:List kA) (x:wN l),(∀ k,It.v k∈l->p k=true)->(YH fr st l bl).leads x ->
  ON p st bl (mm l x)/\∀ p∈eV zt l x,zdH fr st zt l p
 | [],bl,x,_,h=>by
  have h':(CU ((),bl)).leads x:=h
  have:=BT h'
  cases this
  exact⟨trivial,λp hp=>by cases hp⟩
 | [i],bl,x,hp,h=>by
  have h':((Dd fr st bl i).bind CU).leads x:=h
  obtain⟨y,h1,h2⟩:=T.zd.1 h'
  have:=BT h2
  subst this
  obtain⟨g1,g2⟩:=MU (p:=p) (zt:=zt) (λk hk=>hp k (by grind)) h1
  have e1:mm [i] x=PS i x:=Rk i x
  have e2:eV zt [i] x=Kq zt i x:=JP zt i x
  have:=g1 [] trivial
  grind
 | i::j::r,bl,x,hp,h=>by
  have h':((Dd fr st bl i).bind λx=>(YH fr st (j::r) x.2).bind λy=>T.ret (x.1,y)).leads x:=h
  obtain⟨y,h1,h2⟩:=T.zd.1 h'
  obtain⟨z,h3,h4⟩:=T.zd.1 h2
  cases h4
  obtain⟨g1,g2⟩:=MU (p:=p) (zt:=zt) (λk hk=>hp k (by grind)) h1
  obtain⟨k1,k2⟩:=Ql (p:=p) (zt:=zt) (j::r) y.2 z (λk hk=>hp k (List.mem_cons_of_mem _ hk)) h3
  have e1:mm (i::j::r) (y.1,z)=PS i y.1++mm (j::r) z:=Ny i j r (y.1,z)
  have e2:eV zt (i::j::r) (y.1,z)=Kq zt i y.1++eV zt (j::r) z:=Xw zt i j r (y.1,z)
  rw[e1,e2]
  refine⟨g1 _ k1,λp hp => ?_⟩
  rcases List.mem_append.1 hp with hp | hp
  ·obtain⟨k,w,d,q1,q2⟩:=g2 p hp
   exact⟨k,w,d,by grind,q2⟩
  ·obtain⟨k,w,d,q1,q2⟩:=k2 p hp
   exact⟨k,w,d,List.mem_cons_of_mem _ q1,q2⟩
inductive KU(p:Dk->Bool)(st zt:St):Bk->kA->kA->Prop
 | arr (e e':Ty) (xs:List (den e)):KU p st zt (.arr e') (.arr xs.length e xs) (.arr xs.length e xs)
 | var (k k':Dk) (d:D) (x:k.den) (hp:k.plain=true/\p k=true) (h:(tV st k d).leads x):KU p st zt (.var k') (.var d) (.var (sw zt k x))
 | cvar (ck:Ck) (d:D) (h:(WA st ck d).leads ()):KU p st zt (.cvar ck) (.var d) (.var (Cu zt ck))
 | dead (b:kA) (h:DX b=false):KU p st zt .dead b .dead
def bR:List Bd->List Bool
 | []=>[]
 | .v _ _::r=>false::bR r
 | .a _ _::r=>true::bR r
theorem mA:∀ (l:List It) (x:wN l),bR (mm l x)=kinds l
 | [],_=>rfl
 | [.s _ _],_=>rfl
 | [.v _],_=>rfl
 | [.a _],_=>rfl
 | .s _ _::j::r,x=>mA (j::r) x.2
 | .v _::j::r,x=>congrArg (false :: ·) (mA (j::r) x.2)
 | .a _::j::r,x=>congrArg (true :: ·) (mA (j::r) x.2)
theorem Zl{p:Dk->Bool}{st st0:St}:∀ {bs:List Bk} {blocks bl:List kA} {bd:List Bd},(Kd st bs blocks).leads bl->ON p st bl bd->yu bs (bR bd)=true ->
  (vy st0 bs bd).length=bs.length/\(∀ b,rowAt bs b=true->xU (gj bs bd) b=bg blocks b/\xU (vy st0 bs bd) b=bg blocks b/\xU blocks b=bg blocks b) /\
  ∀ (i:Nat) (k:Bk),bs[i]? = some k->∃ B B',blocks[i]? = some B/\(vy st0 bs bd)[i]? = some B'/\KU p st st0 k B B'
 | [],blocks,bl,bd,h,hb,ho=>by
  refine⟨by simp[vy],λb hb=>by simp[rowAt]at hb,λi k hk=>by simp at hk⟩
 | k::r,[],bl,bd,h,hb,ho=>by cases k<;>exact h.elim
 | .arr e::r,b::blocks,bl,bd,h,hb,ho=>by
  simp only[Kd,T.zD]at h
  obtain⟨l,h1,rfl⟩:=h
  cases bd with
  | nil=>exact hb.elim
  | cons q bd =>
   cases q with
   | v k x=>simp[bR,yu]at ho
   | a e' xs =>
    obtain⟨rfl,Ci⟩:=hb
    simp only[bR,yu,Bool.true_and]at ho
    obtain⟨g1,g2,g3⟩:=Zl (st0:=st0) h1 Ci ho
    refine⟨by simp[vy,g1],λb hb => ?_,λi k hk => ?_⟩
    ·cases b with
     | zero=>simp[gj,vy,xU,zbf,bg]
     | succ b=>have:=g2 b (by simpa[rowAt]using hb); simpa[gj,vy,xU,bg]using this
    ·cases i with
     | zero=>simp at hk; subst hk; exact⟨_,_,rfl,rfl,.arr e' e xs⟩
     | succ i=>simpa[vy]using g3 i k (by simpa using hk)
 | .var k0::r,b::blocks,bl,bd,h,hb,ho=>by
  simp only[Kd,T.zD]at h
  obtain⟨l,h1,rfl⟩:=h
  cases bd with
  | nil=>exact hb.elim
  | cons q bd =>
   cases q with
   | a e' xs=>simp[bR,yu]at ho
   | v k x =>
    obtain⟨⟨d,rfl,hp,hd⟩,Ci⟩:=hb
    simp only[bR,yu,Bool.not_false,Bool.true_and]at ho
    obtain⟨g1,g2,g3⟩:=Zl (st0:=st0) h1 Ci ho
    refine⟨by simp[vy,g1],λb hb => ?_,λi k hk => ?_⟩
    ·cases b with
     | zero=>simp[rowAt]at hb
     | succ b=>have:=g2 b (by simpa[rowAt]using hb); simpa[gj,vy,xU,bg]using this
    ·cases i with
     | zero=>simp at hk; subst hk; exact⟨_,_,rfl,rfl,.var k k0 d x hp hd⟩
     | succ i=>simpa[vy]using g3 i k (by simpa using hk)
 | .cvar ck::r,b::blocks,bl,bd,h,hb,ho=>by
  cases b with
  | var d =>
   simp only[Kd,T.zD]at h
   obtain⟨⟨⟩,h0,h1⟩:=h
   have FM:yu r (bR bd)=true:=by cases bd<;>simpa[yu]using ho
   obtain⟨g1,g2,g3⟩:=Zl (st0:=st0) h1 hb FM
   have e1:vy st0 (.cvar ck::r) bd=.var (Cu st0 ck)::vy st0 r bd:=by cases bd<;>rfl
   have e0:gj (.cvar ck::r) bd=.dead::gj r bd:=by cases bd<;>rfl
   rw[e0,e1]
   refine⟨by simp[g1],λb hb => ?_,λi k hk => ?_⟩
   ·cases b with
    | zero=>simp[rowAt]at hb
    | succ b=>have:=g2 b (by simpa[rowAt]using hb); simpa[xU,bg]using this
   ·cases i with
    | zero=>simp at hk; subst hk; exact⟨_,_,rfl,rfl,.cvar ck d h0⟩
    | succ i=>grind
  | _=>exact h.elim
 | .dead::r,b::blocks,bl,bd,h,hb,ho=>by
  simp only[Kd]at h
  cases hv:DX b with
  | true=>rw[hv]at h; exact h.elim
  | false =>
   rw[hv,cond_false]at h
   have FM:yu r (bR bd)=true:=by cases bd<;>simpa[yu]using ho
   obtain⟨g1,g2,g3⟩:=Zl (st0:=st0) h hb FM
   have e1:vy st0 (.dead::r) bd=.dead::vy st0 r bd:=by cases bd<;>rfl
   have e0:gj (.dead::r) bd=.dead::gj r bd:=by cases bd<;>rfl
   rw[e0,e1]
   refine⟨by simp[g1],λb hb => ?_,λi k hk => ?_⟩
   ·cases b with
    | zero=>simp[rowAt]at hb
    | succ b=>have:=g2 b (by simpa[rowAt]using hb); simpa[xU,bg]using this
   ·cases i with
    | zero=>simp at hk; subst hk; exact⟨_,_,rfl,rfl,.dead b hv⟩
    | succ i=>grind
inductive Refs(m:Nat):D->Prop
 | zI (τ:Ty) (x:AM.den τ):Refs m (.zI τ x)
 | tight (e:Ty) (l:List (AM.den e)) (ne:Bool):Refs m (.tight e l ne)
 | xr:Refs m .xr
 | yd:Refs m .yd
 | qV:Refs m .qV
 | vW:Refs m .vW
 | vV:Refs m .vV
 | td:Refs m .td
 | cA (T:Nat):Refs m (.cA T)
 | kJ (b T:Nat) (h:b<m):Refs m (.kJ b T)
 | ptr (b off:Nat) (h:b<m):Refs m (.ptr b off)
 | qR (τ:Ty) (x:AM.den τ):Refs m (.qR τ x)
 | uo (b qA:Nat) (e:Ty) (idx off:Nat) (h:b<m):Refs m (.uo b qA e idx off)
 | ms (b qA:Nat) (e:Ty) (off len:Nat) (h:b<m):Refs m (.ms b qA e off len)
 | qW (f:Nat) (l:List D) (h:∀ i (hi:i<l.length),Refs m l[i]):Refs m (.qW f l)
 | agg (l:List D) (h:∀ i (hi:i<l.length),Refs m l[i]):Refs m (.agg l)
 | yq (l:List D) (h:∀ i (hi:i<l.length),Refs m l[i]):Refs m (.yq l)
 | iface (t:Nat) (d:D) (h:Refs m d):Refs m (.iface t d)
theorem Refs.mono{m m':Nat}(hm:m<=m'){d:D}(h:Refs m d):Refs m' d:=by
 induction h with
 | ptr b off h=>exact .ptr b off (by omega)
 | kJ b T h=>exact .kJ b T (by omega)
 | uo b qA e idx off h=>exact .uo b qA e idx off (by omega)
 | ms b qA e off len h=>exact .ms b qA e off len (by omega)
 | qW f l h ih=>exact .qW f l ih
 | agg l h ih=>exact .agg l ih
 | yq l h ih=>exact .yq l ih
 | iface t d h ih=>exact .iface t d ih
 | _=>constructor
theorem z34{κ:KS}{m:Nat}{d:D}{v:Value}(h:RD κ d v)(hr:Refs m d):RD (κ.cut m) d v:=by
 induction h with
 | zI τ y cs h=>exact .zI τ y cs h
 | xd e a=>exact .xd e a
 | tight e l ne blk off f vM wg h hc=>exact .tight e l ne blk off f vM wg h hc
 | xr=>exact .xr
 | yd=>exact .yd
 | qV=>exact .qV
 | vW=>exact .vW
 | vV=>exact .vV
 | td v h=>exact .td v h
 | cA T=>exact .cA T
 | cd b T d hb=>cases hr with | kJ _ _ qu=>exact dt (.cd b T d hb) (by simp only[vN,Nat.blt,Nat.ble_eq]; exact qu)
 | cB b T blk n d hb h=>cases hr with | kJ _ _ qu=>exact dt (.cB b T blk n d hb h) (by simp only[vN,Nat.blt,Nat.ble_eq]; exact qu)
 | ptr b off blk n d hb h=>cases hr with | ptr _ _ qu=>exact dt (.ptr b off blk n d hb h) (by simp only[vN,Nat.blt,Nat.ble_eq]; exact qu)
 | qR τ y cs blk off wg h hc=>exact .qR τ y cs blk off wg h hc
 | uo b qA e idx off blk o hb h=>cases hr with | uo _ _ _ _ _ qu=>exact dt (.uo b qA e idx off blk o hb h) (by simp only[vN,Nat.blt,Nat.ble_eq]; exact qu)
 | ms b qA e off len cap a hb vc ha pR h=>cases hr with | ms _ _ _ _ _ qu=>exact dt (.ms b qA e off len cap a hb vc ha pR h) (by simp only[vN,Nat.blt,Nat.ble_eq]; exact qu)
 | qW f l vs hl h ih=>cases hr with | qW _ _ hh=>exact .qW f l vs hl λi h1 h2=>ih i h1 h2 (hh i h1)
 | agg l vs hl ho h ih=>cases hr with | agg _ hh=>exact .agg l vs hl ho λi h1 h2=>ih i h1 h2 (hh i h1)
 | yq l vs hl h ih=>cases hr with | yq _ hh=>exact .yq l vs hl λi h1 h2=>ih i h1 h2 (hh i h1)
 | iface t d v h ih=>cases hr with | iface _ _ hh=>exact .iface t d v (ih hh)
theorem GI{a b:Nat}(h:a<b):Nat.blt a b=true:=by
 simp; exact h
theorem T4{κ κe:KS}{m:Nat}(hx:Ext κ κe)(hm:κ.st.length<=m):Ext κ (κe.cut m):=by
 have qu:∀ b x,κ.st[b]? = some x->b<m:=λb x h=>Nat.lt_of_lt_of_le (List.getElem?_eq_some_iff.1 h).1 hm
 have Yv:∀ b,b<m->(κe.cut m).ph[b]? = κe.ph[b]? := λb hb=>by simp only[KS.cut]; rw[List.getElem?_take,if_pos hb]
 refine⟨hx.os,hx.tape,hx.output,hx.size,hx.same,hx.fresh,λb blk n h=>hx.phs b blk n (gu h).1,λb d h => ?_,λb v0 e xs h => ?_,λb h=>qe (hx.dead b h) (qu b _ h),?_,hx.frame⟩
 ·obtain⟨⟨d',h1⟩,h2⟩:=hx.var b d h
  exact⟨⟨d',qe h1 (qu b _ h)⟩,(Yv b (qu b _ h)).trans h2⟩
 ·rcases hx.arr b v0 e xs h with h1 | ⟨v1,x1,h1,h2,h3⟩
  ·exact .inl (qe h1 (qu b _ h))
  ·exact .inr ⟨v1,x1,qe h1 (qu b _ h),h2,λhe=>⟨(Yv b (qu b _ h)).trans (h3 he).1,(h3 he).2⟩⟩
 ·have:=hx.BX
  simp[KS.cut]; omega
theorem vU.Q8{κ0 κ:KS}{fr:Fr}{a:Act}{sh:vU}{x:sh.den}(hx:Ext κ0 κ)(hI:Inv κ)(hR:Rel κ n fr.get a)(hl:κ0.st.length<=sh.bs.length)(h:(sh.un fr κ.st).leads x) :
  ∃ κ':KS,κ'.w=κ.w/\κ'.st=sh.st x/\Inv κ'/\Ext κ0 κ'/\Rel κ' n (sh.fr x).get a/\∀ (d:D) (v:Value),Refs sh.bs.length d->RD κ d v->RD κ' d v:=by
 unfold vU.un at h
 cases hc:sh.ok&&(κ.st.take sh.bs.length).all (Gn sh.bs.length)with
 | false=>rw[hc]at h; exact h.elim
 | true =>
  rw[hc,cond_true]at h
  simp only[Bool.and_eq_true,vU.ok,List.all_eq_true]at hc
  obtain⟨⟨⟨⟨zfJ,za0⟩,Xl⟩,hbs⟩,WS⟩:=hc
  obtain⟨⟨⟩,h1,h⟩:=T.zd.1 h
  obtain⟨bl,h2,h3⟩:=T.zd.1 h
  have hIc:=z1V hI WS
  -- the store cut
  let m:=sh.bs.length
  obtain⟨g1,g2⟩:=Ql (p:=BI sh.bs) (zt:=sh.st x) sh.ob bl x (λk hk=>za0 _ hk) h3
  obtain⟨k1,k2,k3⟩:=Zl (st0:=gj sh.bs (mm sh.ob x)) h2 g1 ((congrArg (yu sh.bs) (mA sh.ob x)).trans zfJ)
  have xK:sh.st x=vy (gj sh.bs (mm sh.ob x)) sh.bs (mm sh.ob x):=rfl
  rw[<- xK]at k1 k2 k3
  let κ':KS:={ κ.cut m with st:=sh.st x }
  have hm:m<=κ.st.length:=by
   rcases Nat.eq_zero_or_pos m with h0 | h0
   ·omega
   ·obtain⟨B,B',q1,_⟩:=k3 (m-1) (sh.bs[m-1]'(by show m-1<m; omega)) (by simp)
    grind
  have zg4:∀ i B,κ.st[i]? = some B->i<m->(κ.cut m).st[i]? = some B:=λi B hB hi=>qe hB hi
  have Ov:(κ.cut m).st.length=m:=by simp[KS.cut]; omega
  have pair:∀ i,i<m->∃ k B B',sh.bs[i]? = some k/\(κ.cut m).st[i]? = some B/\κ'.st[i]? = some B'/\KU (BI sh.bs) κ.st (gj sh.bs (mm sh.ob x)) k B B':=by
   intro i hi
   obtain⟨B,B',q1,q2,q3⟩:=k3 i (sh.bs[i]'hi) (by simp)
   grind
  have lt:∀ {i:Nat} {B:kA},(κ.cut m).st[i]? = some B->i<m:=λhB=>by have:=(List.getElem?_eq_some_iff.1 hB).1; omega
  have lt':∀ {i:Nat} {B:kA},κ'.st[i]? = some B->i<m:=λhB=>by have:=(List.getElem?_eq_some_iff.1 hB).1; have e:κ'.st.length=m:=k1; omega
  have hw:Wk (κ.cut m) κ':=by
   refine⟨rfl,rfl,rfl,by show(sh.st x).length=_; rw[k1,Ov],λb d hb => ?_,λb v e xs hb => ?_,λb v e xs hb => ?_,λb hb => ?_⟩
   ·obtain⟨k,B,B',q0,q1,q2,q3⟩:=pair b (lt hb)
    rw[hb]at q1; cases q1
    cases q3 with
    | var k' _ _ y _ hy=>grind
    | cvar ck _ hy=>grind
    | dead _ hv=>cases hv
   ·obtain⟨k,B,B',q0,q1,q2,q3⟩:=pair b (lt hb)
    rw[hb]at q1; cases q1
    cases q3 with
    | arr=>grind
    | dead=>grind
   ·obtain⟨k,B,B',q0,q1,q2,q3⟩:=pair b (lt' hb)
    rw[hb]at q2; cases q2
    cases q3 with
    | arr=>exact q1
   ·obtain⟨k,B,B',q0,q1,q2,q3⟩:=pair b (lt hb)
    rw[hb]at q1; cases q1
    cases q3 with
    | dead=>exact q2
  have B4:∀ b,rowAt sh.bs b=true->xU κ'.st b=bg κ.st b/\xU (gj sh.bs (mm sh.ob x)) b=bg κ.st b/\xU κ.st b=bg κ.st b :=
   λb hb=>⟨(k2 b hb).2.1,(k2 b hb).1,(k2 b hb).2.2⟩
  have zer:∀ b,rowAt sh.bs b=true->xU (κ.cut m).st b=xU κ.st b:=by
   intro b hb
   have hbm:b<m:=by
    unfold rowAt at hb
    split at hb
    ·rename_i hh; exact(List.getElem?_eq_some_iff.1 hh).1
    ·cases hb
   unfold xU
   simp only[KS.cut]
   rw[List.getElem?_take,if_pos hbm]
  have hbm:∀ b,rowAt sh.bs b=true->b<m:=by
   intro b hb
   unfold rowAt at hb
   split at hb
   ·rename_i hh; exact(List.getElem?_eq_some_iff.1 hh).1
   ·cases hb
  have Pv:∀ b,Wm sh.bs b=true->b<m:=by
   intro b hb
   unfold Wm at hb
   split at hb
   ·rename_i hh; exact(List.getElem?_eq_some_iff.1 hh).1
   ·rename_i hh; exact(List.getElem?_eq_some_iff.1 hh).1
   ·cases hb
  have dk:∀ (k:Dk) (y:k.den) (d:D) (v:Value) (zt:St),BI sh.bs k=true->(∀ b,rowAt sh.bs b=true->xU zt b=bg κ.st b)->(tV κ.st k d).leads y->RD κ d v->RD κ' (sw zt k y) v:=by
   intro k y d v zt ho hv hy hd
   have hwk:Wk κ κ:=⟨rfl,rfl,rfl,rfl,λb d h=>⟨d,h⟩,λb v e xs h=>.inl h,λb v e xs h=>h,λb h=>h⟩
   have h0:=GQ hwk ho (λ_ _=>rfl) (zt:=κ.st) (λ_ _=>rfl) (λb hb=>(B4 b hb).2.2) hy hd
   have zfX:gC m (sw κ.st k y)=true:=by
    cases k with
    | sub b e=>exact GI (hbm b ho)
    | qW f caps =>
     have:∀ (l:List X6) (z:gI l),(mj l z).all (vN m)=true:=by
      intro l
      induction l with
      | nil=>intro z; rfl
      | cons p r ih =>
       intro z
       have hp:∀ w:AM.den p.ty,vN m (YY p w)=true:=λw=>by cases p<;>rfl
       cases r with
       | nil=>simp only[mj,List.all_cons,List.all_nil,Bool.and_true]; exact hp z
       | cons q r=>simp only[mj,List.all_cons,Bool.and_eq_true]; exact⟨hp z.1,by simpa using ih z.2⟩
     exact this caps y
    | st ks=>exact List.all_eq_true.2 (kc hbm Pv ks y ho)
    | mclo f ms=>exact List.all_eq_true.2 (dv Pv ms y ho)
    | _=>rfl
   have h1:=hw.rd (I3 h0 zfX)
   have he:sw κ.st k y=sw zt k y:=by
    cases k with
    | sub b e=>simp only[sw]; rw[hv b ho,(B4 b ho).2.2]
    | st ks=>simp only[sw]; rw[pM (λb hb=>(B4 b hb).2.2.trans (hv b hb).symm) ks y ho]
    | _=>rfl
   rwa [he]at h1
  have ck:∀ (q:Ck) (d:D) (v:Value) (zt:St),Nz sh.bs q=true->(∀ b,rowAt sh.bs b=true->xU zt b=bg κ.st b)->(WA κ.st q d).leads ()->Cu zt q=d/\(RD κ d v->RD κ' d v):=by
   intro q d v zt ho hv hy
   have he:=z4F ho hv hy
   refine⟨he,λhd=>hw.rd (I3 hd ?_)⟩
   rw[<- he]
   cases q with
   | ptr b off=>exact GI (Pv b ho)
   | cur b e=>exact GI (hbm b ho)
   | xr=>rfl
   | yd=>rfl
   | qV=>rfl
   | qW f l =>
    simp only[Nz,List.all_eq_true]at ho
    simp only[Cu,gC,List.all_eq_true,List.mem_map]
    rintro _ ⟨p,hp,rfl⟩
    exact GI (Pv p.1 (ho p hp))
  have hI':Inv κ':=by
   refine hw.inv hIc λb d' hb => ?_
   obtain⟨k,B,B',q0,q1,q2,q3⟩:=pair b (lt' hb)
   rw[hb]at q2
   cases q2
   cases q3 with
   | var kk k' d y hp hy =>
    obtain⟨blk,n',cs,t,e1,e2,e3,e4,e5⟩:=hIc.blk b _ q1
    refine⟨blk,n',cs,t,e1,e2,e3,?_⟩
    cases kk with
    | zI τ =>
     have hco:fp τ d=some y:=T.uc.1 hy
     have ht:d.uM=false:=by
      cases d with
      | yq l=>simp[fp,D.uM]at hco
      | _=>rfl
     have DT:=pB hco e4 e5.1 ht
     exact⟨(ou DT).mono hw.ext,fa τ y,nofun⟩
    | qR τ =>
     cases d<;>simp only[tV]at hy<;>try (exact hy.elim)
     obtain⟨e,hyy⟩:=qk (T.uc.1 hy)
     cases e
     cases hyy
     exact⟨e4.mono hw.ext,e5.1,nofun⟩
    | st ks =>
     simp only[tV]at hy
     cases ha:d.cL with
     | false=>rw[ha]at hy; exact hy.elim
     | true =>
      rw[ha]at hy
      replace hy:(ir κ.st ks (qh d)).leads y:=hy
      have zkm:b<m:=lt' hb
      have WZ:κ.st[b]? = some (.var d):=(gu q1).1
      obtain⟨zfz,n2,cs2,t2,f1,f2,f3,f4,f5⟩:=hI.blk b _ WZ
      have hp1:=(gu e1).1
      rw[f1]at hp1
      cases hp1
      rw[show(κ.cut m).w=κ.w from rfl,f2]at e2
      cases e2
      obtain⟨g1,g2⟩:=dz (κ:=κ) (zt:=gj sh.bs (mm sh.ob x)) (bs:=sh.bs) (λb hb=>(B4 b hb).2.1) ks (qh d) y _ hp.2 hy f4
      refine⟨(IE g1 λz hz => ?_).mono hw.ext,g2,λT hT => ?_⟩
      rotate_left
      ·exact f5.2 T (Ws ha (XE ks (qh d) y hy hT))
      have:=kc (m:=m) hbm Pv ks y hp.2 z hz
      cases z<;>first | exact this | cases this
    | _=>cases hp.1
   | cvar q d hy =>
    obtain⟨blk,n',cs,t,e1,e2,e3,e4,e5⟩:=hIc.blk b _ q1
    have hoq:Nz sh.bs q=true:=hbs _ (List.mem_of_getElem? q0)
    obtain⟨g,_⟩:=ck q d undef (gj sh.bs (mm sh.ob x)) hoq (λb hb=>(B4 b hb).2.1) hy
    rw[g]
    exact⟨blk,n',cs,t,e1,e2,e3,e4.mono hw.ext,e5⟩
  refine⟨κ',rfl,rfl,hI',?_,⟨hR.size,hR.defers,λs d hd => ?_⟩,λd v hr hd=>hw.rd (z34 hd hr)⟩
  ·have qu:κ0.st.length<=m:=hl
   have c1:=T4 hx qu
   exact c1.trans hw.ext
  ·rcases get_append (l:=eV (sh.st x) sh.ob x) (m:=z8C (sh.st x) sh.cs) hd with hp | hp0
   ·obtain⟨k,y,d0,q0,q1,q2,q3⟩:=g2 _ hp
    cases q3
    obtain⟨v,r1,r2⟩:=hR.get _ _ q1
    exact⟨v,r1,dk k y d0 v (sh.st x) (za0 _ q0) (λb hb=>(B4 b hb).1) q2 r2⟩
   ·have Q9:=get_mem hp0
    unfold z8C at Q9
    obtain⟨p,hp,he⟩:=List.mem_map.1 Q9
    cases he
    obtain⟨d0,q1,q2⟩:=DJ h1 p hp
    obtain⟨v,r1,r2⟩:=hR.get _ _ q1
    obtain⟨g,gg⟩:=ck p.2 d0 v (sh.st x) (Xl p hp) (λb hb=>(B4 b hb).1) q2
    rw[g]
    exact⟨v,r1,gg r2⟩
end
end Go.AM
namespace Go.AM
set_option linter.unusedSectionVars false
variable [vX] [K0]
open Go.RowKit
inductive Gh where
 | slot (s:Nat) (e:Ty) | cell (b i:Nat) (e:Ty) | pcell (s i:Nat) (e:Ty)
def Vi(st:St)(b i:Nat):Option (List D):=match st[b]? with
 | some (.var d)=>bif d.cL then match(qh d)[i]? with | some .xr=>some (qh d) | _=>none else none
 | _=>none
def gh:List Gh->Fr->St->Fr×St
 | [],fr,st=>(fr,st)
 | .slot s e::r,fr,st=>match fr.get s with
  | some .xr=>bif Nat.blt 0 e.size then gh r ((s,some (.ms st.length 0 e 0 0))::fr) (st++[.arr 0 e []])else gh r fr st
  | _=>gh r fr st
 | .cell b i e::r,fr,st=>match Vi st b i with
  | some l=>bif Nat.blt 0 e.size then gh r fr ((st++[kA.arr 0 e []]).set b (.var (.agg (l.set i (.ms st.length 0 e 0 0)))))else gh r fr st
  | none=>gh r fr st
 | .pcell t i e::r,fr,st=>match fr.get t with
  | some (.ptr b _)=>match Vi st b i with
   | some l=>bif Nat.blt 0 e.size then gh r fr ((st++[kA.arr 0 e []]).set b (.var (.agg (l.set i (.ms st.length 0 e 0 0)))))else gh r fr st
   | none=>gh r fr st
  | _=>gh r fr st
section
variable {c:Ctx} {κ:KS}
def KS.ji(κ:KS)(e:Ty):KS:={ κ with ph:=κ.ph++[none],st:=κ.st++[.arr 0 e []] }
theorem tH(hI:Inv κ)(e:Ty):Ext κ (κ.ji e):=by
 have xK:∀ b y,κ.st[b]? = some y->(κ.st++[.arr 0 e []])[b]? = some y:=λb y h=>by rw[List.getElem?_append_left (List.getElem?_eq_some_iff.1 h).1]; exact h
 have Yv:∀ b y,κ.st[b]? = some y->(κ.ph++[none])[b]? = κ.ph[b]? := λb y h=>by
  rw[List.getElem?_append_left]; rw[hI.len]; exact(List.getElem?_eq_some_iff.1 h).1
 refine⟨rfl,rfl,rfl,Nat.le_refl _,λk hk=>⟨hk,rfl⟩,λk hk=>.inl hk,?_,λb d h=>⟨⟨d,xK b _ h⟩,Yv b _ h⟩,
  λb v0 e xs h=>.inr ⟨v0,xs,xK b _ h,Nat.le_refl _,λ_=>⟨Yv b _ h,rfl⟩⟩,λb h=>xK b _ h,by simp[KS.ji],λk hk _=>rfl⟩
 intro b blk m h
 simp only[KS.ji]at h
 grind
theorem JE(hI:Inv κ){e:Ty}(he:0<e.size):Inv (κ.ji e):=by
 have hold:∀ (b blk m:Nat),(κ.ph++[none])[b]? = some (some (blk,m))->κ.ph[b]? = some (some (blk,m)):=by
  grind
 refine⟨by simp[KS.ji,hI.len],hI.yF,λb blk m h=>hI.apart b blk m (hold b blk m h),λb b' blk m m' h h'=>hI.inj b b' blk m m' (hold _ _ _ h) (hold _ _ _ h'),?_,hI.gl⟩
 intro b y hy
 simp only[KS.ji]at hy
 by_cases hb:b<κ.st.length
 ·rw[List.getElem?_append_left hb]at hy
  exact(hI.blk b y hy).mono (tH hI e) (by show(κ.ph++[none])[b]? = κ.ph[b]?; rw[List.getElem?_append_left (by rw[hI.len]; exact hb)]) λblk n h=>rfl
 ·have He:=(List.getElem?_eq_some_iff.1 hy).1
  simp at He
  have:b=κ.st.length:=by omega
  subst this
  simp at hy
  subst hy
  exact⟨he,.inl ⟨rfl,by simp[KS.ji,<- hI.len]⟩⟩
theorem Ef{l:List D}{i b v len off:Nat}{e:Ty}{tt:Nat}(h:(D.agg (l.set i (.ms b v e off len))).typed=some tt):gB l=some tt:=by
 cases l with
 | nil=>exact h
 | cons x r=>cases i with
  | zero=>cases h
  | succ i=>cases x<;>exact h
theorem z3a{κ κ2:KS}{l:List D}{vs:List Value}{i:Nat}{d':D}(h:qE κ l vs)(hw:∀ d v,RD κ d v->RD κ2 d v)(hi:∀ v,vs[i]? = some v->RD κ2 d' v):qE κ2 (l.set i d') vs:=by
 refine⟨by rw[List.length_set]; exact h.1,λk h1 h2 => ?_⟩
 rw[List.getElem_set]
 split
 ·grind
 ·exact hw _ _ (h.2 k (by grind) h2)
theorem N1(hI:Inv κ){e:Ty}(he:0<e.size){b i:Nat}{l:List D}(h:Vi κ.st b i=some l) :
  ∃ κ':KS,κ'.w=κ.w/\κ'.st=(κ.st++[kA.arr 0 e []]).set b (.var (.agg (l.set i (.ms κ.st.length 0 e 0 0))))/\Inv κ'/\Ext κ κ':=by
 unfold Vi at h
 split at h
 ·rename_i d hd
  cases ha:d.cL with
  | false=>grind
  | true =>
   rw[ha,cond_true]at h
   split at h
   ·rename_i hi
    cases h
    have hx:=tH hI e
    have QT:=JE hI he
    have zjN:b<κ.st.length:=(List.getElem?_eq_some_iff.1 hd).1
    let κ2:KS:={ κ.ji e with st:=(κ.ji e).st.set b (.var (.agg ((qh d).set i (.ms κ.st.length 0 e 0 0)))) }
    have Il:(κ.ji e).st[b]? = some (.var d):=by
     show(κ.st++[_])[b]? = _
     grind
    have vM:∀ j,j≠b->κ2.st[j]? = (κ.ji e).st[j]? := λj hj=>by
     grind
    have z9F:κ2.st[b]? = some (.var (.agg ((qh d).set i (.ms κ.st.length 0 e 0 0)))):=by
     grind
    have hw:Wk (κ.ji e) κ2:=by
     refine⟨rfl,rfl,rfl,by simp[κ2],λj d' hj => ?_,λj v e' xs hj => ?_,λj v e' xs hj => ?_,λj hj => ?_⟩
     ·grind
     ·grind
     ·grind
     ·by_cases c:j=b
      ·subst c; rw[Il]at hj; cases hj
      ·rw[vM j c]; exact hj
    have SB:κ2.st[κ.st.length]? = some (.arr 0 e []):=by
     rw[vM _ (by omega)]
     simp[KS.ji]
    have hI2:Inv κ2:=by
     refine hw.inv QT λj d' hj => ?_
     by_cases c:j=b
     ·subst c
      rw[z9F]at hj
      cases hj
      obtain⟨blk,m,cs,t,q1,q2,q3,q4,q5⟩:=QT.blk j _ Il
      refine⟨blk,m,cs,t,q1,q2,q3,z3a q4 (λ_ _ h=>hw.rd h) λv hv => ?_,λx hxm => ?_,λT hT => ?_⟩
      ·obtain⟨v',h1,h2⟩:=q4.get hi
       rw[hv]at h1
       cases h1
       cases h2
       refine .ms κ.st.length 0 e 0 0 0 none (.inr ⟨0,e,[],SB,Nat.le_refl _⟩) (Nat.le_refl _) (λ_=>rfl) nofun λxs V9 => ?_
       rw[SB]at V9
       cases V9
       exact⟨Nat.le_refl _,.inl ⟨rfl,rfl,rfl,by show(κ.ph++[none])[κ.st.length]? = _; simp[<- hI.len]⟩⟩
      ·rcases List.mem_or_eq_of_mem_set (show x∈(qh d).set i (.ms κ.st.length 0 e 0 0)from hxm)with h' | h'
       ·exact q5.1 x h'
       ·subst h'; rfl
      ·exact q5.2 T (Ws ha (Ef hT))
     ·rw[vM j c]at hj
      exact(QT.blk j _ hj).mono hw.ext rfl λ_ _ _=>rfl
    exact⟨κ2,rfl,rfl,hI2,hx.trans hw.ext⟩
   ·cases h
 ·cases h
theorem lB{n:Nat}{a:Act}:∀ (l:List Gh) (fr:Fr) (κ:KS),Inv κ->Rel κ n fr.get a->∃ κ':KS,κ'.w=κ.w/\κ'.st=(gh l fr κ.st).2/\Inv κ'/\Ext κ κ'/\Rel κ' n (gh l fr κ.st).1.get a
 | [],fr,κ,hI,hR=>⟨κ,rfl,rfl,hI,Ext.refl κ,hR⟩
 | .slot s e::r,fr,κ,hI,hR=>by
  unfold gh
  split
  ·rename_i hs
   cases he:Nat.blt 0 e.size with
   | false=>rw[cond_false]; exact lB r fr κ hI hR
   | true =>
    rw[cond_true]
    have TX:0<e.size:=Nat.le_of_ble_eq_true he
    have hx:=tH hI e
    have hR':Rel (κ.ji e) n (Fr.get ((s,some (.ms κ.st.length 0 e 0 0))::fr)) a:=by
     refine⟨hR.size,hR.defers,λt d hd => ?_⟩
     simp only[Fr.get]at hd
     cases ht:Nat.beq s t with
     | true =>
      rw[ht,cond_true]at hd
      cases hd
      have:=Nat.eq_of_beq_eq_true ht
      subst this
      obtain⟨v,h1,h2⟩:=hR.get s _ hs
      cases h2
      have SB:(κ.ji e).st[κ.st.length]? = some (.arr 0 e []):=by simp[KS.ji]
      refine⟨_,h1,.ms κ.st.length 0 e 0 0 0 none (.inr ⟨0,e,[],SB,Nat.le_refl _⟩) (Nat.le_refl _) (λ_=>rfl) nofun λxs V9 => ?_⟩
      rw[SB]at V9
      cases V9
      exact⟨Nat.le_refl _,.inl ⟨rfl,rfl,rfl,by simp[KS.ji,<- hI.len]⟩⟩
     | false =>
      rw[ht,cond_false]at hd
      obtain⟨v,h1,h2⟩:=hR.get t d hd
      exact⟨v,h1,h2.mono hx⟩
    obtain⟨κ',h1,h2,h3,h4,h5⟩:=lB r _ (κ.ji e) (JE hI TX) hR'
    exact⟨κ',h1,h2,h3,hx.trans h4,h5⟩
  ·exact lB r fr κ hI hR
 | .cell b i e::r,fr,κ,hI,hR=>by
  unfold gh
  split
  ·rename_i l hl
   cases he:Nat.blt 0 e.size with
   | false=>rw[cond_false]; exact lB r fr κ hI hR
   | true =>
    rw[cond_true]
    have TX:0<e.size:=Nat.le_of_ble_eq_true he
    obtain⟨κ1,g1,g2,g3,g4⟩:=N1 hI TX hl
    obtain⟨κ',h1,h2,h3,h4,h5⟩:=lB r fr κ1 g3 ⟨hR.size,hR.defers,λt d hd=>by
     obtain⟨v,q1,q2⟩:=hR.get t d hd
     exact⟨v,q1,q2.mono g4⟩⟩
    rw[g2]at h2 h5
    exact⟨κ',h1.trans g1,h2,h3,g4.trans h4,h5⟩
  ·exact lB r fr κ hI hR
 | .pcell t i e::r,fr,κ,hI,hR=>by
  unfold gh
  split
  ·rename_i b off hb
   split
   ·rename_i l hl
    cases he:Nat.blt 0 e.size with
    | false=>rw[cond_false]; exact lB r fr κ hI hR
    | true =>
     have TX:0<e.size:=Nat.le_of_ble_eq_true he
     obtain⟨κ1,g1,g2,g3,g4⟩:=N1 hI TX hl
     obtain⟨κ',h1,h2,h3,h4,h5⟩:=lB r fr κ1 g3 ⟨hR.size,hR.defers,λt d hd=>by
      obtain⟨v,q1,q2⟩:=hR.get t d hd
      exact⟨v,q1,q2.mono g4⟩⟩
     rw[g2]at h2 h5
     exact⟨κ',h1.trans g1,h2,h3,g4.trans h4,h5⟩
   ·exact lB r fr κ hI hR
  ·exact lB r fr κ hI hR
end
end Go.AM
namespace Go.AM
def sr(f:Nat->Option Nat)(d:D):Option D:=match d with
 | .ptr b off=>match f b with | some b'=>some (.ptr b' off) | none=>none
 | .kJ b T=>match f b with | some b'=>some (.kJ b' T) | none=>none
 | .uo b v e i off=>match f b with | some b'=>some (.uo b' v e i off) | none=>none
 | .ms b v e off len=>match f b with | some b'=>some (.ms b' v e off len) | none=>none
 | .qW _ _=>none
 | .agg _=>none
 | .yq _=>none
 | .iface _ _=>none
 | d=>some d
def BP(f:Nat->Option Nat):List D->Option (List D)
 | []=>some []
 | d::r=>match sr f d with
  | some d'=>match BP f r with | some r'=>some (d'::r') | none=>none
  | none=>none
def o6(f:Nat->Option Nat)(d:D):Option D:=match d with
 | .qW g l=>match BP f l with | some l'=>some (.qW g l') | none=>none
 | .agg l=>match BP f l with | some l'=>some (.agg l') | none=>none
 | d=>sr f d
def Wr(f:Nat->Option Nat):List D->Option (List D)
 | []=>some []
 | d::r=>match o6 f d with
  | some d'=>match Wr f r with | some r'=>some (d'::r') | none=>none
  | none=>none
def Wx(f:Nat->Option Nat):kA->Option kA
 | .var d=>match o6 f d with | some d'=>some (.var d') | none=>none
 | .arr v e xs=>some (.arr v e xs)
 | .dead=>some .dead
def nW(f:Nat->Option Nat):List kA->Option (List kA)
 | []=>some []
 | b::r=>match Wx f b with
  | some b'=>match nW f r with | some r'=>some (b'::r') | none=>none
  | none=>none
def sO(f:Nat->Option Nat):Fr->Fr
 | []=>[]
 | (s,some d)::r=>(s,o6 f d)::sO f r
 | (s,none)::r=>(s,none)::sO f r
structure Tr(κ κ':KS)(f:Nat->Option Nat):Prop where
 w:κ'.w=κ.w
 ok:κ'.ok=κ.ok
 var:∀ (b b':Nat) (d:D),f b=some b'->κ.st[b]? = some (.var d)->(∃ d',κ'.st[b']? = some (.var d'))/\κ'.ph[b']? = κ.ph[b]?
 old:∀ (b b' qA:Nat),f b=some b'->Old κ.st b qA->Old κ'.st b' qA
 row:∀ (b b' v:Nat) (e:Ty) (xs:List (den e)),f b=some b'->κ'.st[b']? = some (.arr v e xs)->κ.st[b]? = some (.arr v e xs)/\κ'.ph[b']? = κ.ph[b]?
section
variable {κ κ':KS} {f:Nat->Option Nat}
theorem Tr.same(h:Tr κ κ' f):I2 κ.w κ'.w κ.ok κ'.ok:=λk hk=>⟨by rw[h.ok]; exact hk,by rw[h.w]⟩
theorem Tr.rd1(h:Tr κ κ' f){d d':D}{v:Value}(hd:RD κ d v)(hr:sr f d=some d'):RD κ' d' v:=by
 cases hd with
 | zI τ y cs hc=>cases hr; exact .zI τ y cs (hc.mono h.same)
 | xd e a=>cases hr; exact .xd e a
 | tight e l ne blk off g vM wg hh hc=>cases hr; exact .tight e l ne blk off g vM (h.same _ wg).1 (λi hi=>(hh i hi).mono h.same) λi hi j v hv=>by rw[bn (h.same _ wg).2]; exact hc i hi j v hv
 | xr=>cases hr; exact .xr
 | yd=>cases hr; exact .yd
 | qV=>cases hr; exact .qV
 | vW=>cases hr; exact .vW
 | vV=>cases hr; exact .vV
 | td v h=>cases hr; exact .td v h
 | cA T=>cases hr; exact .cA T
 | cd b T d hb =>
  simp only[sr]at hr
  split at hr
  ·rename_i b' hf
   cases hr
   obtain⟨⟨d',h1⟩,h2⟩:=h.var b b' d hf hb
   exact .cd b' T d' h1
  ·cases hr
 | cB b T blk n d hb hp =>
  simp only[sr]at hr
  split at hr
  ·rename_i b' hf
   cases hr
   obtain⟨⟨d',h1⟩,h2⟩:=h.var b b' d hf hb
   exact .cB b' T blk n d' h1 (h2.trans hp)
  ·cases hr
 | ptr b off blk n d hb hp =>
  simp only[sr]at hr
  split at hr
  ·rename_i b' hf
   cases hr
   obtain⟨⟨d',h1⟩,h2⟩:=h.var b b' d hf hb
   exact .ptr b' off blk n d' h1 (h2.trans hp)
  ·cases hr
 | qR τ y cs blk off wg hh hc=>cases hr; exact .qR τ y cs blk off (h.same _ wg).1 (hh.mono h.same) λj v hv=>by rw[bn (h.same _ wg).2]; exact hc j v hv
 | uo b qA e idx off blk o hb hh =>
  simp only[sr]at hr
  split at hr
  ·rename_i b' hf
   cases hr
   refine .uo b' qA e idx off blk o (h.old b b' qA hf hb) λxs hx hi => ?_
   obtain⟨h1,h2⟩:=h.row b b' qA e xs hf hx
   grind
  ·cases hr
 | ms b qA e off len cap a hb vc ha pR hh =>
  simp only[sr]at hr
  split at hr
  ·rename_i b' hf
   cases hr
   refine .ms b' qA e off len cap a (h.old b b' qA hf hb) vc ha pR λxs hx => ?_
   obtain⟨h1,h2⟩:=h.row b b' qA e xs hf hx
   have:=hh xs h1
   unfold IL at this ⊢
   grind
  ·cases hr
 | qW g l vs hl hh=>cases hr
 | agg l vs hl ho hh=>cases hr
 | yq l vs hl hh=>cases hr
 | iface t d v hh=>cases hr
theorem Td{d d':D}(h:sr f d=some d'):d'.one=d.one:=by
 cases d<;>simp only[sr]at h<;>first | (cases h; rfl) | (split at h<;>cases h; rfl) | cases h
theorem Tr.rdL(h:Tr κ κ' f):∀ {l l':List D} {vs:List Value},qE κ l vs->BP f l=some l'->qE κ' l' vs
 | [],l',vs,hd,hr=>by cases hr; rw[hd.qg]; exact .nil
 | d::r,l',vs,hd,hr=>by
  simp only[BP]at hr
  split at hr
  ·rename_i d' h1
   split at hr
   ·rename_i r' h2
    cases hr
    obtain⟨v,us,rfl,g1,g2⟩:=hd.cons_inv
    exact .cons (h.rd1 g1 h1) (h.rdL g2 h2)
   ·cases hr
  ·cases hr
theorem Vt:∀ {l l':List D},BP f l=some l'->(∀ d∈l,d.one=true)->∀ d∈l',d.one=true
 | [],l',hr,_=>by cases hr; nofun
 | d::r,l',hr,ho=>by
  simp only[BP]at hr
  split at hr
  ·rename_i d' h1
   split at hr
   ·rename_i r' h2
    cases hr
    intro x hx
    rcases List.mem_cons.1 hx with rfl | hx
    ·rw[Td h1]; exact ho d List.mem_cons_self
    ·exact Vt h2 (λy hy=>ho y (List.mem_cons_of_mem _ hy)) x hx
   ·cases hr
  ·cases hr
theorem Tr.rd(h:Tr κ κ' f){d d':D}{v:Value}(hd:RD κ d v)(hr:o6 f d=some d'):RD κ' d' v:=by
 cases d with
 | qW g l =>
  simp only[o6]at hr
  split at hr
  ·rename_i l' hl
   cases hr
   cases hd with
   | qW _ _ vs h1 h2=>have:=h.rdL (⟨h1,h2⟩:qE κ l vs) hl; exact .qW g l' vs this.1 this.2
  ·cases hr
 | agg l =>
  simp only[o6]at hr
  split at hr
  ·rename_i l' hl
   cases hr
   cases hd with
   | agg _ vs h1 ho h2=>have:=h.rdL (⟨h1,h2⟩:qE κ l vs) hl; exact .agg l' vs this.1 (Vt hl ho) this.2
  ·cases hr
 | _=>exact h.rd1 hd hr
theorem Tr.rds(h:Tr κ κ' f):∀ {l l':List D} {vs:List Value},qE κ l vs->Wr f l=some l'->qE κ' l' vs
 | [],l',vs,hd,hr=>by cases hr; rw[hd.qg]; exact .nil
 | d::r,l',vs,hd,hr=>by
  simp only[Wr]at hr
  split at hr
  ·rename_i d' h1
   split at hr
   ·rename_i r' h2
    cases hr
    obtain⟨v,us,rfl,g1,g2⟩:=hd.cons_inv
    exact .cons (h.rd g1 h1) (h.rds g2 h2)
   ·cases hr
  ·cases hr
theorem Tr.flat(h:Tr κ κ' f){d d':D}{vs:List Value}(hd:qE κ (qh d) vs)(ho:∀ x∈qh d,x.one=true)(hr:o6 f d=some d'):qE κ' (qh d') vs/\∀ x∈qh d',x.one=true:=by
 have zI:∀ (τ:Ty) (x:den τ) (vs:List Value),qE κ (Go.AM.flat τ x) vs->qE κ' (Go.AM.flat τ x) vs:=by
  intro τ x vs hh
  refine⟨hh.1,λi h1 h2 => ?_⟩
  have hm:=List.getElem_mem h1
  have:∃ σ z,(Go.AM.flat τ x)[i]=.zI σ z:=by
   generalize (Go.AM.flat τ x)[i]=y at hm
   clear hh h1 h2
   induction τ with
   | cons a b ia ib =>
    simp only[Go.AM.flat,List.mem_append]at hm
    grind
   | nil=>simp[Go.AM.flat]at hm
   | expr=>simp[Go.AM.flat]at hm; rcases hm with rfl | rfl | rfl | rfl | rfl | rfl<;>exact⟨_,_,rfl⟩
   | _=>simp[Go.AM.flat]at hm; subst hm; exact⟨_,_,rfl⟩
  obtain⟨σ,z,e⟩:=this
  have h3:=hh.2 i h1 h2
  rw[e]at h3 ⊢
  exact h.rd1 h3 rfl
 cases d with
 | zI τ x=>cases hr; exact⟨zI τ x vs hd,ho⟩
 | agg l =>
  simp only[o6]at hr
  split at hr
  ·rename_i l' hl
   cases hr
   exact⟨h.rdL hd hl,Vt hl ho⟩
  ·cases hr
 | yq l=>cases hr
 | qW g l =>
  obtain⟨v,r,rfl,h1,h2⟩:=qE.cons_inv (show qE κ [.qW g l] vs from hd)
  rw[h2.qg]
  have hr':=hr
  simp only[o6]at hr
  split at hr
  ·cases hr; exact⟨.cons (h.rd h1 hr') .nil,λx hx=>by simp only[qh,List.mem_singleton]at hx; subst hx; rfl⟩
  ·cases hr
 | iface t x=>cases hr
 | ptr b off =>
  obtain⟨v,r,rfl,h1,h2⟩:=qE.cons_inv (show qE κ [.ptr b off] vs from hd)
  rw[h2.qg]
  have hr':=hr
  simp only[o6,sr]at hr
  split at hr
  ·cases hr; exact⟨.cons (h.rd1 h1 hr') .nil,λx hx=>by simp only[qh,List.mem_singleton]at hx; subst hx; rfl⟩
  ·cases hr
 | kJ b T =>
  obtain⟨v,r,rfl,h1,h2⟩:=qE.cons_inv (show qE κ [.kJ b T] vs from hd)
  rw[h2.qg]
  have hr':=hr
  simp only[o6,sr]at hr
  split at hr
  ·cases hr; exact⟨.cons (h.rd1 h1 hr') .nil,λx hx=>by simp only[qh,List.mem_singleton]at hx; subst hx; rfl⟩
  ·cases hr
 | uo b qA e idx off =>
  obtain⟨v,r,rfl,h1,h2⟩:=qE.cons_inv (show qE κ [.uo b qA e idx off] vs from hd)
  rw[h2.qg]
  have hr':=hr
  simp only[o6,sr]at hr
  split at hr
  ·cases hr; exact⟨.cons (h.rd1 h1 hr') .nil,λx hx=>by simp only[qh,List.mem_singleton]at hx; subst hx; rfl⟩
  ·cases hr
 | ms b qA e off len =>
  obtain⟨v,r,rfl,h1,h2⟩:=qE.cons_inv (show qE κ [.ms b qA e off len] vs from hd)
  rw[h2.qg]
  have hr':=hr
  simp only[o6,sr]at hr
  split at hr
  ·cases hr; exact⟨.cons (h.rd1 h1 hr') .nil,λx hx=>by simp only[qh,List.mem_singleton]at hx; subst hx; rfl⟩
  ·cases hr
 | _ =>
  cases hr
  obtain⟨v,r,rfl,h1,h2⟩:=qE.cons_inv hd
  rw[h2.qg]
  exact⟨.cons (h.rd1 h1 rfl) .nil,ho⟩
theorem El{f:Nat->Option Nat}{d d':D}{tt:Nat}(h:o6 f d=some d')(ht:d'.typed=some tt):d.typed=some tt:=by
 cases d with
 | agg l =>
  simp only[o6]at h
  split at h
  ·rename_i l' hl
   cases h
   cases l with
   | nil=>cases hl; cases ht
   | cons x r =>
    simp only[BP]at hl
    split at hl
    ·rename_i x' hx
     split at hl
     ·cases hl
      cases x<;>simp only[sr]at hx<;>first
       | (cases hx; exact ht)
       | (split at hx<;>first | (cases hx; exact ht) | cases hx)
       | cases hx
     ·cases hl
    ·cases hl
  ·cases h
 | qW g l =>
  simp only[o6]at h
  split at h
  ·cases h; cases ht
  ·cases h
 | _ =>
  simp only[o6,sr]at h
  first
   | (cases h; cases ht)
   | (split at h<;>first | (cases h; cases ht) | cases h)
   | cases h
theorem Tr.blk[su](h:Tr κ κ' f){b b':Nat}(hp:κ'.ph[b']? = κ.ph[b]?){y y':kA}(hy:eK κ b y)(hr:Wx f y=some y'):eK κ' b' y':=by
 cases y with
 | dead=>cases hr; trivial
 | var d =>
  simp only[Wx]at hr
  split at hr
  ·rename_i d' hd
   cases hr
   obtain⟨blk,n,cs,t,h1,h2,h3,h4,h5⟩:=hy
   obtain⟨g1,g2⟩:=h.flat h4 h5.1 hd
   exact⟨blk,n,cs,t,hp.trans h1,by rw[h.w]; exact h2,h3,g1,g2,λT hT=>h5.2 T (El hd hT)⟩
  ·cases hr
 | arr qA e xs =>
  cases hr
  obtain⟨h0,hh⟩:=hy
  refine⟨h0,fg hh (λh=>⟨h.1,hp.trans h.2⟩) ?_⟩
  rintro⟨blk,n,cs,t,h1,h2,h3,h4,hr,g,h5⟩
  exact⟨blk,n,cs,t,hp.trans h1,by rw[h.w]; exact h2,h3,h4,hr,g,λi hi=>⟨(h5 i hi).1.mono h.same,(h5 i hi).2⟩⟩
theorem rQ{f:Nat->Option Nat}:∀ {fr:Fr} {s:Nat} {d':D},(sO f fr).get s=some d'->∃ d,fr.get s=some d/\o6 f d=some d'
 | [],s,d',h=>by cases h
 | (t,some d)::r,s,d',h=>by
  simp only[sO,Fr.get]at h ⊢
  cases ht:Nat.beq t s with
  | true=>grind
  | false=>rw[ht,cond_false]at h; simp; exact rQ h
 | (t,none)::r,s,d',h=>by
  simp only[sO,Fr.get]at h ⊢
  cases ht:Nat.beq t s with
  | true=>grind
  | false=>rw[ht,cond_false]at h; simp; exact rQ h
end
def pos:List Nat->Nat->Option Nat
 | [],_=>none
 | b::r,i=>bif Nat.beq b i then some 0 else match pos r i with | some j=>some (j+1) | none=>none
def yn:List Nat->Bool
 | []=>true
 | b::r=>(match pos r b with | none=>true | some _=>false)&&yn r
theorem il:∀ {mp:List Nat} {i j:Nat},pos mp i=some j->mp[j]? = some i
 | [],i,j,h=>by cases h
 | b::r,i,j,h=>by
  simp only[pos]at h
  cases hb:Nat.beq b i with
  | true=>rw[hb,cond_true]at h; cases h; rw[Nat.eq_of_beq_eq_true hb]; rfl
  | false =>
   rw[hb,cond_false]at h
   split at h
   ·rename_i k hk; cases h; simpa using il hk
   ·cases h
theorem mr:∀ {mp:List Nat} {i j:Nat},yn mp=true->mp[j]? = some i->pos mp i=some j
 | [],i,j,_,h=>by simp at h
 | b::r,i,j,hn,h=>by
  simp only[yn,Bool.and_eq_true]at hn
  cases j with
  | zero=>simp at h; subst h; simp only[pos]; rw[Nat.beq_refl]; rfl
  | succ j =>
   have h':r[j]? = some i:=by simpa using h
   have hp:=mr hn.2 h'
   have vM:Nat.beq b i=false:=by
    cases hb:Nat.beq b i with
    | false=>rfl
    | true =>
     have:=Nat.eq_of_beq_eq_true hb
     grind
   simp only[pos,vM,cond_false,hp]
def iF{α:Type}(l:List α):List Nat->Option (List α)
 | []=>some []
 | b::r=>match l[b]? with
  | some x=>match iF l r with | some y=>some (x::y) | none=>none
  | none=>none
theorem Xm{α:Type}{l:List α}:∀ {mp:List Nat} {r:List α},iF l mp=some r->r.length=mp.length/\∀ (j b:Nat),mp[j]? = some b->r[j]? = l[b]? /\ b<l.length
 | [],r,h=>by cases h; exact⟨rfl,λj b hj=>by grind⟩
 | b::mp,r,h=>by
  simp only[iF]at h
  split at h
  ·rename_i x hx
   split at h
   ·rename_i y hy
    obtain⟨h1,h2⟩:=Xm hy
    grind
   ·cases h
  ·cases h
theorem Xx{f:Nat->Option Nat}:∀ {l r:List kA},nW f l=some r->r.length=l.length/\∀ (j:Nat) (x:kA),l[j]? = some x->∃ y,r[j]? = some y/\Wx f x=some y
 | [],r,h=>by cases h; exact⟨rfl,λj x hj=>by grind⟩
 | b::l,r,h=>by
  simp only[nW]at h
  split at h
  ·rename_i b' hb
   split at h
   ·rename_i r' hr
    obtain⟨h1,h2⟩:=Xx hr
    grind
   ·cases h
  ·cases h
def ot{α:Type}(mp:List Nat)(new:List α):Nat->List α->List α
 | _,[]=>[]
 | i,x::r=>(match pos mp i with | some j=>(match new[j]? with | some y=>y | none=>x) | none=>x)::ot mp new (i+1) r
def w9{α:Type}(mp:List Nat)(old new:List α):List α:=ot mp new 0 old++new.drop mp.length
theorem uP{α:Type}(mp:List Nat)(new:List α):∀ (l:List α) (i:Nat),(ot mp new i l).length=l.length
 | [],_=>rfl
 | x::r,i=>by simp[ot,uP mp new r (i+1)]
theorem tN{α:Type}(mp:List Nat)(new:List α):∀ (l:List α) (i k:Nat),(ot mp new i l)[k]? = (l[k]?).map λx=>match pos mp (i+k)with | some j=>(match new[j]? with | some y=>y | none=>x) | none=>x
 | [],i,k=>by simp[ot]
 | x::r,i,0=>by simp[ot]
 | x::r,i,k+1=>by
  have:=tN mp new r (i+1) k
  simp only[ot]
  grind
def fwd(mp:List Nat)(n:Nat)(j:Nat):Nat:=match mp[j]? with | some b=>b | none=>n+(j-mp.length)
theorem lS{α:Type}{mp:List Nat}{old new:List α}{i:Nat}(hi:i<old.length)(hp:pos mp i=none):(w9 mp old new)[i]? = old[i]? := by
 unfold w9
 rw[List.getElem?_append_left (by rw[uP]; exact hi),tN,Nat.zero_add,hp]
 simp
theorem Cz{α:Type}{mp:List Nat}{old new:List α}(hn:yn mp=true)(qu:∀ (j b:Nat),mp[j]? = some b->b<old.length)(hlen:mp.length<=new.length){j:Nat}(hj:j<new.length):(w9 mp old new)[fwd mp old.length j]? = new[j]? := by
 unfold w9 fwd
 cases hm:mp[j]? with
 | some b =>
  have hb:=qu j b hm
  rw[List.getElem?_append_left (by rw[uP]; exact hb),tN,Nat.zero_add,mr hn hm]
  grind
 | none =>
  simp only
  rw[List.getElem?_append_right (by rw[uP]; omega),uP,List.getElem?_drop]
  grind
theorem E1{α:Type}{mp:List Nat}{old new:List α}(qu:∀ (j b:Nat),mp[j]? = some b->b<old.length)(hlen:mp.length<=new.length){i:Nat}(hi:i<(w9 mp old new).length) :
  (i<old.length/\pos mp i=none)\/∃ j,j<new.length/\i=fwd mp old.length j:=by
 by_cases h:i<old.length
 ·cases hp:pos mp i with
  | none=>grind
  | some j =>
   have:=il hp
   have hj:=(List.getElem?_eq_some_iff.1 this).1
   exact .inr ⟨j,by omega,by unfold fwd; rw[this]⟩
 ·have hl:i<old.length+(new.length-mp.length):=by simpa[w9,uP]using hi
  refine .inr ⟨mp.length+(i-old.length),by omega,?_⟩
  unfold fwd
  grind
end Go.AM
namespace Go.AM
set_option linter.unusedSectionVars false
variable [vX]
open Go.RowKit
section
variable {κ:KS} {mp:List Nat}
theorem F9{gS l:List kA}{p1:List (Option (Nat×Nat))}(hI:Inv κ)(hn:yn mp=true)(hp:iF κ.ph mp=some p1)(hl:iF κ.st mp=some l)(hr:nW (pos mp) l=some gS) :
  Inv ⟨κ.w,κ.ok,p1,gS⟩/\Tr κ ⟨κ.w,κ.ok,p1,gS⟩ (pos mp)/\gS.length=mp.length/\p1.length=mp.length/\∀ (j b:Nat),mp[j]? = some b->p1[j]? = κ.ph[b]? /\ ∃ x y:kA,κ.st[b]? = some x/\Wx (pos mp) x=some y/\gS[j]? = some y:=by
 obtain⟨a1,a2⟩:=Xm hp
 obtain⟨b1,b2⟩:=Xm hl
 obtain⟨c1,c2⟩:=Xx hr
 have key:∀ (j b:Nat),mp[j]? = some b->p1[j]? = κ.ph[b]? /\ ∃ x y:kA,κ.st[b]? = some x/\Wx (pos mp) x=some y/\gS[j]? = some y:=by
  grind
 have at':∀ {j:Nat} {y:kA},gS[j]? = some y->∃ b,mp[j]? = some b:=λh=>by
  have:=(List.getElem?_eq_some_iff.1 h).1
  exact⟨_,List.getElem?_eq_getElem (by omega)⟩
 have hT:Tr κ ⟨κ.w,κ.ok,p1,gS⟩ (pos mp):=by
  refine⟨rfl,rfl,λb j d hf hb => ?_,λb j qA hf ho => ?_,λb j v e xs hf hb => ?_⟩
  ·obtain⟨h1,x,y,h2,h3,h4⟩:=key j b (il hf)
   rw[hb]at h2
   cases h2
   simp only[Wx]at h3
   grind
  ·obtain⟨h1,x,y,h2,h3,h4⟩:=key j b (il hf)
   rcases ho with ho | ⟨v0,e0,tq,ho,hv⟩
   ·rw[ho]at h2; cases h2; cases h3; exact .inl h4
   ·rw[ho]at h2; cases h2; cases h3; exact .inr ⟨v0,e0,tq,h4,hv⟩
  ·obtain⟨h1,x,y,h2,h3,h4⟩:=key j b (il hf)
   rw[show gS[j]? = some (.arr v e xs)from hb]at h4
   cases h4
   cases x with
   | dead=>cases h3
   | var d=>simp only[Wx]at h3; split at h3<;>cases h3
   | arr v0 e0 tq=>cases h3; exact⟨h2,h1⟩
 refine⟨⟨by show p1.length=gS.length; omega,hI.yF,λj blk n h => ?_,λj j' blk n n' h h' => ?_,λj y h => ?_,hI.gl⟩,hT,by omega,a1,key⟩
 ·obtain⟨b,hb⟩:∃ b,mp[j]? = some b:=⟨_,List.getElem?_eq_getElem (by have:j<p1.length:=(List.getElem?_eq_some_iff.1 h).1; omega)⟩
  exact hI.apart b blk n ((a2 j b hb).1.symm.trans h)
 ·obtain⟨b,hb⟩:∃ b,mp[j]? = some b:=⟨_,List.getElem?_eq_getElem (by have:j<p1.length:=(List.getElem?_eq_some_iff.1 h).1; omega)⟩
  obtain⟨b',He⟩:∃ b,mp[j']? = some b:=⟨_,List.getElem?_eq_getElem (by have:j'<p1.length:=(List.getElem?_eq_some_iff.1 h').1; omega)⟩
  have:=hI.inj b b' blk n n' ((a2 j b hb).1.symm.trans h) ((a2 j' b' He).1.symm.trans h')
  subst this
  exact Option.some.inj ((mr hn hb).symm.trans (mr hn He))
 ·obtain⟨b,hb⟩:=at' h
  obtain⟨h1,x,y',h2,h3,h4⟩:=key j b hb
  rw[show gS[j]? = some y from h]at h4
  cases h4
  exact hT.blk h1 (hI.blk b x h2) h3
theorem GR{κ1:KS}{gS jk l:List kA}{p1:List (Option (Nat×Nat))}(hI:Inv κ)(hn:yn mp=true)(hp:iF κ.ph mp=some p1)(hl:iF κ.st mp=some l)(hr:nW (pos mp) l=some gS)
  (QT:Inv κ1) (hx:Ext ⟨κ.w,κ.ok,p1,gS⟩ κ1) (hr2:nW (λj=>some (fwd mp κ.st.length j)) κ1.st=some jk) :
  ∃ κ':KS,κ'.w=κ1.w/\κ'.st=w9 mp κ.st jk/\Inv κ'/\Ext κ κ'/\Tr κ1 κ' (λj=>some (fwd mp κ.st.length j)):=by
 obtain⟨hIs,hTs,s1,s2,key⟩:=F9 hI hn hp hl hr
 obtain⟨r1,r2⟩:=Xx hr2
 have qu:∀ (j b:Nat),mp[j]? = some b->b<κ.st.length:=λj b hj=>by obtain⟨_,x,_,h,_⟩:=key j b hj; exact(List.getElem?_eq_some_iff.1 h).1
 have zgd:∀ (j b:Nat),mp[j]? = some b->b<κ.ph.length:=λj b hj=>by rw[hI.len]; exact qu j b hj
 have hm1:mp.length<=κ1.st.length:=by have:=hx.BX; simp only at this; omega
 have D6:mp.length<=jk.length:=by omega
 have TK:mp.length<=κ1.ph.length:=by rw[QT.len]; exact hm1
 let fw:=fwd mp κ.st.length
 have hlen:(w9 mp κ.ph κ1.ph).length=(w9 mp κ.st jk).length:=by simp[w9,uP,hI.len,QT.len,r1]
 -- what lies where
 have cst:∀ {j:Nat} {x:kA},κ1.st[j]? = some x->∃ y,(w9 mp κ.st jk)[fw j]? = some y/\Wx (λj=>some (fw j)) x=some y:=by
  intro j x hj
  obtain⟨y,h1,h2⟩:=r2 j x hj
  exact⟨y,by rw[Cz hn qu D6 (by rw[r1]; exact(List.getElem?_eq_some_iff.1 hj).1)]; exact h1,h2⟩
 have cph:∀ {j:Nat},j<κ1.st.length->(w9 mp κ.ph κ1.ph)[fw j]? = κ1.ph[j]? := by
  intro j hj
  have:=Cz (old:=κ.ph) (new:=κ1.ph) hn zgd TK (j:=j) (by rw[QT.len]; exact hj)
  rw[hI.len]at this
  exact this
 have ust:∀ {i:Nat},i<κ.st.length->pos mp i=none->(w9 mp κ.st jk)[i]? = κ.st[i]? := λhi h=>lS hi h
 have uph:∀ {i:Nat},i<κ.st.length->pos mp i=none->(w9 mp κ.ph κ1.ph)[i]? = κ.ph[i]? := λhi h=>lS (by rw[hI.len]; exact hi) h
 have X3:∀ {i:Nat},i<(w9 mp κ.st jk).length->(i<κ.st.length/\pos mp i=none)\/∃ j,j<κ1.st.length/\i=fw j:=by
  intro i hi
  rcases E1 qu D6 hi with h | ⟨j,h1,h2⟩
  ·grind
  ·grind
 have NF:∀ {j b:Nat},mp[j]? = some b->fw j=b:=λh=>by simp only[fw,fwd,h]
 have zkL:∀ {j:Nat},mp[j]? = none->κ.st.length<=fw j:=λh=>by simp only[fw,fwd,h]; omega
 -- the part's own blocks
 have sph:∀ {j:Nat} {q:Nat×Nat},p1[j]? = some (some q)->∃ b,mp[j]? = some b/\κ.ph[b]? = some (some q):=by
  intro j q h
  have hj:=(List.getElem?_eq_some_iff.1 h).1
  obtain⟨b,hb⟩:∃ b,mp[j]? = some b:=⟨_,List.getElem?_eq_getElem (by omega)⟩
  grind
 have hT:Tr κ1 ⟨κ1.w,κ1.ok,w9 mp κ.ph κ1.ph,w9 mp κ.st jk⟩ (λj=>some (fw j)):=by
  refine⟨rfl,rfl,λj b d hf hj => ?_,λj b qA hf ho => ?_,λj b v e xs hf hb => ?_⟩
  ·cases hf
   obtain⟨y,h1,h2⟩:=cst hj
   simp only[Wx]at h2
   grind
  ·cases hf
   rcases ho with ho | ⟨v0,e0,tq,ho,hv⟩
   ·obtain⟨y,h1,h2⟩:=cst ho; cases h2; exact .inl h1
   ·obtain⟨y,h1,h2⟩:=cst ho; cases h2; exact .inr ⟨v0,e0,tq,h1,hv⟩
  ·cases hf
   have hb:(w9 mp κ.st jk)[fw j]? = some (.arr v e xs):=hb
   have Bc:=(List.getElem?_eq_some_iff.1 hb).1
   have hj:j<κ1.st.length:=by
    by_cases hj:j<κ1.st.length
    ·exact hj
    ·exfalso
     cases hm:mp[j]? with
     | some c=>have:=(List.getElem?_eq_some_iff.1 hm).1; omega
     | none =>
      have h3:fw j=κ.st.length+(j-mp.length):=by simp only[fw,fwd,hm]
      have h4:(w9 mp κ.st jk).length=κ.st.length+(jk.length-mp.length):=by simp[w9,uP]
      omega
   obtain⟨y,h1,h2⟩:=cst (List.getElem?_eq_getElem hj)
   rw[hb]at h1
   cases h1
   refine⟨?_,cph hj⟩
   rw[List.getElem?_eq_getElem hj]
   generalize κ1.st[j]=x at h2
   cases x with
   | dead=>cases h2
   | var d=>simp only[Wx]at h2; split at h2<;>cases h2
   | arr v0 e0 tq=>cases h2; rfl
 -- YB blocks lie as they lay
 have YB:∀ {i blk n:Nat},pos mp i=none->κ.ph[i]? = some (some (blk,n))->κ1.w.heap[blk]? = κ.w.heap[blk]? := by
  intro i blk n hi h
  obtain⟨g1,g2⟩:=hI.apart i blk n h
  refine hx.frame blk g1 λj m hj => ?_
  obtain⟨b,Il,Ci⟩:=sph hj
  have:=hI.inj i b blk n m h Ci
  subst this
  rw[mr hn Il]at hi
  cases hi
 have hE:Ext κ ⟨κ1.w,κ1.ok,w9 mp κ.ph κ1.ph,w9 mp κ.st jk⟩:=by
  refine⟨hx.os,hx.tape,hx.output,hx.size,hx.same,λk hk => ?_,λi blk n h => ?_,λi d hi => ?_,λi v0 e tq hi => ?_,λi hi => ?_,?_,λk hk kK => ?_⟩
  ·rcases hx.fresh k hk with h | h | ⟨j,n,h⟩
   ·exact .inl h
   ·exact .inr (.inl h)
   ·obtain⟨b,_,hb⟩:=sph h; exact .inr (.inr ⟨b,n,hb⟩)
  ·have h:(w9 mp κ.ph κ1.ph)[i]? = some (some (blk,n)):=h
   have KL:i<(w9 mp κ.st jk).length:=by rw[<- hlen]; exact(List.getElem?_eq_some_iff.1 h).1
   rcases X3 KL with⟨h1,h2⟩ | ⟨j,h1,rfl⟩
   ·rw[uph h1 h2]at h; exact .inl h
   ·rw[cph h1]at h
    rcases hx.phs j blk n h with h3 | h3
    ·obtain⟨b,Il,Ci⟩:=sph h3
     rw[NF Il]; exact .inl Ci
    ·exact .inr h3
  ·have OG:=(List.getElem?_eq_some_iff.1 hi).1
   cases Bf:pos mp i with
   | none=>exact⟨⟨d,(ust OG Bf).trans hi⟩,uph OG Bf⟩
   | some j =>
    have hmj:=il Bf
    obtain⟨k1,x,y,k2,k3,k4⟩:=key j i hmj
    rw[hi]at k2
    cases k2
    simp only[Wx]at k3
    split at k3
    ·cases k3
     obtain⟨⟨d',g1⟩,g2⟩:=hx.var j _ k4
     obtain⟨⟨d'',q1⟩,q2⟩:=hT.var j (fw j) d' rfl g1
     rw[NF hmj]at q1 q2
     exact⟨⟨d'',q1⟩,q2.trans (g2.trans k1)⟩
    ·cases k3
  ·have OG:=(List.getElem?_eq_some_iff.1 hi).1
   cases Bf:pos mp i with
   | none=>exact .inr ⟨v0,tq,(ust OG Bf).trans hi,Nat.le_refl _,λ_=>⟨uph OG Bf,rfl⟩⟩
   | some j =>
    have hmj:=il Bf
    obtain⟨k1,x,y,k2,k3,k4⟩:=key j i hmj
    rw[hi]at k2
    cases k2
    cases k3
    rcases hx.arr j v0 e tq k4 with g | ⟨v1,b8,g1,g2,g3⟩
    ·obtain⟨y,q1,q2⟩:=cst g
     cases q2
     rw[NF hmj]at q1
     exact .inl q1
    ·obtain⟨y,q1,q2⟩:=cst g1
     cases q2
     rw[NF hmj]at q1
     refine .inr ⟨v1,b8,q1,g2,λhe=>⟨?_,(g3 he).2⟩⟩
     have h4:=cph (List.getElem?_eq_some_iff.1 g1).1
     rw[NF hmj]at h4
     exact h4.trans ((g3 he).1.trans k1)
  ·have OG:=(List.getElem?_eq_some_iff.1 hi).1
   cases Bf:pos mp i with
   | none=>exact(ust OG Bf).trans hi
   | some j =>
    have hmj:=il Bf
    obtain⟨k1,x,y,k2,k3,k4⟩:=key j i hmj
    rw[hi]at k2
    cases k2
    cases k3
    obtain⟨y,q1,q2⟩:=cst (hx.dead j k4)
    cases q2
    rw[NF hmj]at q1
    exact q1
  ·show κ.st.length<=(w9 mp κ.st jk).length
   simp[w9,uP]
  ·exact hx.frame k hk λj n hj=>by obtain⟨b,_,hb⟩:=sph hj; exact kK b n hb
 refine⟨⟨κ1.w,κ1.ok,w9 mp κ.ph κ1.ph,w9 mp κ.st jk⟩,rfl,rfl,⟨hlen,QT.yF,λi blk n h => ?_,λi i' blk n n' h h' => ?_,λi y h => ?_,QT.gl⟩,hE,hT⟩
 ·have h:(w9 mp κ.ph κ1.ph)[i]? = some (some (blk,n)):=h
  have KL:i<(w9 mp κ.st jk).length:=by rw[<- hlen]; exact(List.getElem?_eq_some_iff.1 h).1
  rcases X3 KL with⟨h1,h2⟩ | ⟨j,h1,rfl⟩
  ·rw[uph h1 h2]at h
   obtain⟨g1,g2⟩:=hI.apart i blk n h
   refine⟨Nat.lt_of_lt_of_le g1 hx.size,λhk => ?_⟩
   rcases hx.fresh blk hk with hk | hk | ⟨j,m,hj⟩
   ·exact g2 hk
   ·simp only at hk; omega
   ·obtain⟨b,Il,Ci⟩:=sph hj
    have:=hI.inj i b blk n m h Ci
    subst this
    rw[mr hn Il]at h2
    cases h2
  ·rw[cph h1]at h
   exact QT.apart j blk n h
 ·have h:(w9 mp κ.ph κ1.ph)[i]? = some (some (blk,n)):=h
  have h':(w9 mp κ.ph κ1.ph)[i']? = some (some (blk,n')):=h'
  have Rf:i<(w9 mp κ.st jk).length:=by rw[<- hlen]; exact(List.getElem?_eq_some_iff.1 h).1
  have z8H:i'<(w9 mp κ.st jk).length:=by rw[<- hlen]; exact(List.getElem?_eq_some_iff.1 h').1
  have mixed:∀ {i j n n':Nat},i<κ.st.length->pos mp i=none->j<κ1.st.length->κ.ph[i]? = some (some (blk,n))->κ1.ph[j]? = some (some (blk,n'))->False:=by
   intro i j n n' h1 h2 h3 h4 h5
   rcases hx.phs j blk n' h5 with h6 | h6
   ·obtain⟨b,Il,Ci⟩:=sph h6
    have:=hI.inj i b blk n n' h4 Ci
    subst this
    rw[mr hn Il]at h2
    cases h2
   ·have:=(hI.apart i blk n h4).1
    simp only at h6
    omega
  rcases X3 Rf with⟨h1,h2⟩ | ⟨j,h1,rfl⟩
  ·rw[uph h1 h2]at h
   rcases X3 z8H with⟨h3,h4⟩ | ⟨j',h3,rfl⟩
   ·rw[uph h3 h4]at h'; exact hI.inj i i' blk n n' h h'
   ·rw[cph h3]at h'; exact(mixed h1 h2 h3 h h').elim
  ·rw[cph h1]at h
   rcases X3 z8H with⟨h3,h4⟩ | ⟨j',h3,rfl⟩
   ·rw[uph h3 h4]at h'; exact(mixed h3 h4 h1 h' h).elim
   ·rw[cph h3]at h'
    rw[QT.inj j j' blk n n' h h']
 ·have h:(w9 mp κ.st jk)[i]? = some y:=h
  rcases X3 (List.getElem?_eq_some_iff.1 h).1 with⟨h1,h2⟩ | ⟨j,h1,rfl⟩
  ·rw[ust h1 h2]at h
   exact(hI.blk i y h).mono hE (uph h1 h2) λblk n hb=>YB h2 hb
  ·obtain⟨z,q1,q2⟩:=cst (List.getElem?_eq_getElem h1)
   rw[h]at q1
   cases q1
   exact hT.blk (cph h1) (QT.blk j _ (List.getElem?_eq_getElem h1)) q2
end
end Go.AM
namespace Go.AM
set_option linter.unusedSectionVars false
variable [vX]
open Go.RowKit
inductive AK where
 | any | cur | sub | ptr | qW (f:Nat)
structure jZ where
 ks:List AK
 sh:vU
 kQ:List Gh
 out:vU
 nr:Nat
 F:sh.den->T out.den
def M4(fr:Fr):Nat->Nat->Option (List D)
 | 0,_=>some []
 | n+1,i=>match fr.get i with
  | some d=>match M4 fr n (i+1)with | some r=>some (d::r) | none=>none
  | none=>none
def yW(nr:Nat)(fr:Fr):Option (List D):=M4 fr nr 0
def z0V:List (Nat×Nat)->List D->Nat->Option Nat
 | p::r,.ptr b' _::ds,b=>bif Nat.beq p.1 b then some b' else z0V r ds b
 | _,_,_=>none
def zbY(b:Nat):Ck->D->Option Nat
 | .ptr c _,.ptr b' _=>bif Nat.beq c b then some b' else none
 | .cur c _,.ms b' _ _ _ _=>bif Nat.beq c b then some b' else none
 | .qW _ l,.qW _ ds=>z0V l ds b
 | _,_=>none
def z8T(fr:Fr)(b:Nat):List (Nat×Ck)->Option Nat
 | []=>none
 | (s,k)::r=>match fr.get s with
  | some d=>match zbY b k d with | some b'=>some b' | none=>z8T fr b r
  | none=>z8T fr b r
def Bm(b:Nat):List Mc->List D->Option Nat
 | .pt c::r,.ptr b' _::ds=>bif Nat.beq c b then some b' else Bm b r ds
 | .pt _::r,_::ds=>Bm b r ds
 | .im _::r,_::ds=>Bm b r ds
 | .rp _::r,_::ds=>Bm b r ds
 | _,_=>none
def Vv(b:Nat):List Sk->List D->Option Nat
 | .im τ::r,ds=>Vv b r (ds.drop τ.size)
 | .row c _::r,.ms b' _ _ _ _::ds=>bif Nat.beq c b then some b' else Vv b r ds
 | .row _ _::r,_::ds=>Vv b r ds
 | .op c _::r,.kJ b' _::ds=>bif Nat.beq c b then some b' else Vv b r ds
 | .op _ _::r,_::ds=>Vv b r ds
 | .un::r,_::ds=>Vv b r ds
 | _,_=>none
def Yo(fr:Fr)(b:Nat):List It->Option Nat
 | []=>none
 | .s s (.mclo _ ms)::r=>match fr.get s with
  | some (.qW _ l)=>match Bm b ms l with | some b'=>some b' | none=>Yo fr b r
  | _=>Yo fr b r
 | .s s (.sub c _)::r=>match fr.get s with
  | some (.ms b' _ _ _ _)=>bif Nat.beq c b then some b' else Yo fr b r
  | _=>Yo fr b r
 | _::r=>Yo fr b r
def Od(st:St)(b:Nat):List Bk->List (Option Nat)->Option Nat
 | .cvar k::r,some p::ps=>match st[p]? with
  | some (.var d)=>match zbY b k d with | some b'=>some b' | none=>Od st b r ps
  | _=>Od st b r ps
 | .var (.st ks)::r,some p::ps=>match st[p]? with
  | some (.var d)=>match Vv b ks (qh d)with | some b'=>some b' | none=>Od st b r ps
  | _=>Od st b r ps
 | _::r,_::ps=>Od st b r ps
 | _,_=>none
def zbN(sh:vU)(fr:Fr):Nat->List Bk->List (Option Nat)
 | _,[]=>[]
 | b,_::r=>(match z8T fr b sh.cs with | some b'=>some b' | none=>Yo fr b sh.ob)::zbN sh fr (b+1) r
def z3v(sh:vU)(st:St)(m:List (Option Nat)):Nat->List (Option Nat)->List (Option Nat)
 | _,[]=>[]
 | b,some b'::r=>some b'::z3v sh st m (b+1) r
 | b,none::r=>Od st b sh.bs m::z3v sh st m (b+1) r
def zby:List (Option Nat)->Option (List Nat)
 | []=>some []
 | some b::r=>match zby r with | some l=>some (b::l) | none=>none
 | none::_=>none
def mapOf(sh:vU)(fr:Fr)(st:St):Option (List Nat):=let m:=zbN sh fr 0 sh.bs
 let m:=z3v sh st m 0 m
 zby (z3v sh st m 0 m)
def jZ.back(d:jZ)(mp:List Nat)(st:St)(y:d.out.den):T (GC×St):=match yW d.nr (d.out.fr y),nW (λj=>some (fwd mp st.length j)) (d.out.st y)with
 | some ds,some jk=>match Wr (λj=>some (fwd mp st.length j)) ds with
  | some JZ=>.ret (.ret JZ,w9 mp st jk)
  | none=>.fail
 | _,_=>.fail
def jZ.inner(d:jZ)(mp:List Nat)(fr:Fr)(st:St):T (GC×St):=match iF st mp with
 | none=>.fail
 | some l=>match nW (pos mp) l with
  | none=>.fail
  | some gS=>(d.sh.un (sO (pos mp) fr) gS).bind λx=>(d.F x).bind λy=>d.back mp st y
def jZ.S(d:jZ)(args:List D)(st:St):T (GC×St) :=
 match mapOf d.sh (gh d.kQ (wm args 0) st).1 (gh d.kQ (wm args 0) st).2 with
 | none=>.fail
 | some mp=>bif yn mp&&Nat.ble mp.length d.sh.bs.length&&Nat.beq args.length d.ks.length then d.inner mp (gh d.kQ (wm args 0) st).1 (gh d.kQ (wm args 0) st).2 else .fail
def jZ.VU{α:Type}(d:jZ)(mp:List Nat)(st:St)(y:d.out.den)(k:List D->St->T α):T α:=match yW d.nr (d.out.fr y),nW (λj=>some (fwd mp st.length j)) (d.out.st y)with
 | some ds,some jk=>match Wr (λj=>some (fwd mp st.length j)) ds with
  | some JZ=>k JZ (w9 mp st jk)
  | none=>.fail
 | _,_=>.fail
def jZ.rj{α:Type}(d:jZ)(mp:List Nat)(fr:Fr)(st:St)(k:List D->St->T α):T α:=match iF st mp with
 | none=>.fail
 | some l=>match nW (pos mp) l with
  | none=>.fail
  | some gS=>(d.sh.un (sO (pos mp) fr) gS).bind λx=>(d.F x).bind λy=>d.VU mp st y k
def jZ.K{α:Type}(d:jZ)(args:List D)(st:St)(k:List D->St->T α):T α :=
 match mapOf d.sh (gh d.kQ (wm args 0) st).1 (gh d.kQ (wm args 0) st).2 with
 | none=>.fail
 | some mp=>bif yn mp&&Nat.ble mp.length d.sh.bs.length&&Nat.beq args.length d.ks.length then d.rj mp (gh d.kQ (wm args 0) st).1 (gh d.kQ (wm args 0) st).2 k else .fail
theorem jZ.Rg{α:Type}{d:jZ}{args:List D}{st:St}{k:List D->St->T α}{r:α}(h:(d.K args st k).leads r):∃ ds zt,(d.S args st).leads (.ret ds,zt)/\(k ds zt).leads r:=by
 unfold jZ.K at h
 unfold jZ.S
 split at h
 ·exact h.elim
 ·rename_i mp TK
  cases hc:yn mp&&Nat.ble mp.length d.sh.bs.length&&Nat.beq args.length d.ks.length with
  | false=>rw[hc]at h; exact h.elim
  | true =>
   rw[hc,cond_true]at h
   unfold jZ.rj at h
   unfold jZ.inner
   split at h
   ·exact h.elim
   ·rename_i l hl
    split at h
    ·exact h.elim
    ·rename_i gS hst1
     obtain⟨x,h1,h⟩:=T.zd.1 h
     obtain⟨y,h2,h⟩:=T.zd.1 h
     unfold jZ.VU at h
     split at h
     ·rename_i ds jk e1 e2
      split at h
      ·rename_i JZ e3
       refine⟨JZ,_,T.zd.2 ⟨x,h1,T.zd.2 ⟨y,h2,?_⟩⟩,h⟩
       unfold jZ.back
       simp only[e1,e2,e3]
       rfl
      ·exact h.elim
     ·exact h.elim
def yx(Dr:Rj)(g:Nat)(d:jZ):Prop:=∀ (κ:KS) (x:d.sh.den) (zy:List Value) (y:d.out.den),κ.st=d.sh.st x->(d.F x).leads y->Inv κ->zy.length=d.ks.length ->
 Rel κ zy.length (d.sh.fr x).get { tmps:=zy.toArray,defers:=[] } ->
 Dr g zy.toArray κ.w λe w'=>∃ (κ':KS) (ds:List D),κ'.w=w'/\κ'.st=d.out.st y/\Inv κ'/\Ext κ κ'/\yW d.nr (d.out.fr y)=some ds/\wv κ' (.ret ds) e
def xX(P:Program)(g:Nat)(d:jZ):Prop:=∀ (κ:KS) (x:d.sh.den) (zy:List Value) (y:d.out.den),κ.st=d.sh.st x->(d.F x).leads y->Inv κ->zy.length=d.ks.length ->
 Rel κ zy.length (d.sh.fr x).get { tmps:=zy.toArray,defers:=[] } ->
 uD P g zy.toArray κ.w λe w'=>∃ (κ':KS) (ds:List D),κ'.w=w'/\κ'.st=d.out.st y/\Inv κ'/\Ext κ κ'/\yW d.nr (d.out.fr y)=some ds/\wv κ' (.ret ds) e
theorem IG{κ κ':KS}{f:Nat->Option Nat}(h:Tr κ κ' f){ds JZ:List D}{v:Value}(hd:RD κ (yh ds) v)(hr:Wr f ds=some JZ):RD κ' (yh JZ) v:=by
 match ds,hr with
 | [],hr =>
  cases hr
  cases hd with
  | yq _ vs hl hh =>
   obtain rfl:vs=[]:=List.eq_nil_of_length_eq_zero hl.symm
   exact .yq [] [] rfl (λi h=>absurd h (Nat.not_lt_zero i))
 | [d],hr =>
  simp only[Wr]at hr
  split at hr
  ·rename_i d' h1
   cases hr
   exact h.rd hd h1
  ·cases hr
 | d::e::r,hr =>
  cases hd with
  | yq _ vs hl hh =>
   have hR:=h.rds (⟨hl,hh⟩:qE κ (d::e::r) vs) hr
   simp only[Wr]at hr
   split at hr
   ·split at hr
    ·rename_i r' h2
     cases hr
     split at h2
     ·split at h2
      ·cases h2; exact .yq _ vs hR.1 hR.2
      ·cases h2
     ·cases h2
    ·cases hr
   ·cases hr
theorem tX{α β:Type}{l:List α}{m:List β}(h:l.length=m.length):∀ {mp:List Nat} {r:List α},iF l mp=some r->∃ q,iF m mp=some q
 | [],_,_=>⟨[],rfl⟩
 | b::mp,r,hr=>by
  simp only[iF]at hr
  split at hr
  ·rename_i x hx
   split at hr
   ·rename_i y hy
    obtain⟨q,hq⟩:=tX h hy
    have hb:b<m.length:=by have:=(List.getElem?_eq_some_iff.1 hx).1; omega
    exact⟨m[b]::q,by simp only[iF,List.getElem?_eq_getElem hb,hq]⟩
   ·cases hr
  ·cases hr
theorem jZ.z8s{Dr:Rj}(zdN:∀ {g a w} {R R':Ending->World->Prop},Dr g a w R->(∀ e w',R e w'->R' e w')->Dr g a w R'){g:Nat}{d:jZ}(h:yx Dr g d):zgy Dr g d.S:=by
 intro κ args zy rs zt hl hI ha
 have SE:Rel κ zy.length (wm args 0).get { tmps:=zy.toArray,defers:=[] }:=by
  have:=Qi (n:=zy.length) ha (by rw[ha.1]; exact Nat.le_refl _)
  simpa[show(K0.df:List Deferred)=[]from rfl]using this
 obtain⟨κ0,w1,w2,w3,w4,w5⟩:=lB d.kQ (wm args 0) κ hI SE
 unfold jZ.S at hl
 rw[<- w2]at hl
 split at hl
 ·exact hl.elim
 ·rename_i mp TK
  cases hc:yn mp&&Nat.ble mp.length d.sh.bs.length&&Nat.beq args.length d.ks.length with
  | false=>rw[hc]at hl; exact hl.elim
  | true =>
   rw[hc,cond_true]at hl
   simp only[Bool.and_eq_true]at hc
   obtain⟨⟨hn,hle⟩,hlen⟩:=hc
   unfold jZ.inner at hl
   split at hl
   ·exact hl.elim
   ·rename_i l W4
    split at hl
    ·exact hl.elim
    ·rename_i gS hst1
     obtain⟨x,h1,hl⟩:=T.zd.1 hl
     obtain⟨y,h2,hl⟩:=T.zd.1 hl
     obtain⟨p1,hpp⟩:=tX (m:=κ0.ph) w3.len.symm W4
     obtain⟨s1,s2,s3,s4,s5⟩:=F9 w3 hn hpp W4 hst1
     have YO:Rel ⟨κ0.w,κ0.ok,p1,gS⟩ zy.length (sO (pos mp) (gh d.kQ (wm args 0) κ.st).1).get { tmps:=zy.toArray,defers:=[] } :=
      ⟨w5.size,w5.defers,λs d' hd=>by
       obtain⟨d0,q1,q2⟩:=rQ hd
       obtain⟨v,q3,q4⟩:=w5.get s d0 q1
       exact⟨v,q3,s2.rd q4 q2⟩⟩
     obtain⟨κ2,u1,u2,u3,u4,u5,_⟩:=d.sh.Q8 (κ0:=⟨κ0.w,κ0.ok,p1,gS⟩) (κ:=⟨κ0.w,κ0.ok,p1,gS⟩) (Ext.refl _) s1 YO (by show gS.length<=_; rw[s3]; exact Nat.le_of_ble_eq_true hle) h1
     have hw:κ2.w=κ.w:=u1.trans w1
     have hdo:=h κ2 x zy y u2 h2 u3 (by rw[<- ha.1]; exact Nat.eq_of_beq_eq_true hlen) u5
     rw[hw]at hdo
     refine zdN hdo ?_
     rintro e w' ⟨κ3,ds,rfl,g1,g2,g3,g4,v,rfl,g5⟩
     unfold jZ.back at hl
     rw[g4,<- g1]at hl
     split at hl
     ·rename_i ds0 jk e1 e2
      cases e1
      split at hl
      ·rename_i JZ hds'
       cases hl
       obtain⟨κ',k1,k2,k3,k4,k5⟩:=GR w3 hn hpp W4 hst1 g2 (u4.trans g3) e2
       exact⟨κ',k1,k2,k3,w4.trans k4,v,rfl,IG k5 g5 hds'⟩
      ·exact hl.elim
     ·exact hl.elim
theorem jZ.snd{P:Program}{g:Nat}{d:jZ}(h:xX P g d):Bb P g d.S:=jZ.z8s (Dr:=uD P) uD.mono h
structure iB where
 ks:List AK
 sh:vU
 kQ:List Gh
 out:vU
 nr:Nat
 pt:Nat
 kB:vU
 F:sh.den->T (out.den⊕kB.den)
abbrev iB.s(d:iB):jZ:=⟨d.ks,d.sh,d.kQ,d.out,d.nr,λ_=>.fail⟩
def iB.Tc{α:Type}(d:iB)(mp:List Nat)(st:St)(z:d.kB.den)(kp:D->St->T α):T α:=match(d.kB.fr z).get 0,nW (λj=>some (fwd mp st.length j)) (d.kB.st z)with
 | some (.zI τ x),some jk=>kp (.iface d.pt (.zI τ x)) (w9 mp st jk)
 | _,_=>.fail
def iB.rj{α:Type}(d:iB)(mp:List Nat)(fr:Fr)(st:St)(k:List D->St->T α)(kp:D->St->T α):T α:=match iF st mp with
 | none=>.fail
 | some l=>match nW (pos mp) l with
  | none=>.fail
  | some gS=>(d.sh.un (sO (pos mp) fr) gS).bind λx=>(d.F x).bind (Sum.elim (λy=>d.s.VU mp st y k) (λz=>d.Tc mp st z kp))
def iB.K{α:Type}(d:iB)(args:List D)(st:St)(k:List D->St->T α)(kp:D->St->T α):T α :=
 match mapOf d.sh (gh d.kQ (wm args 0) st).1 (gh d.kQ (wm args 0) st).2 with
 | none=>.fail
 | some mp=>bif yn mp&&Nat.ble mp.length d.sh.bs.length&&Nat.beq args.length d.ks.length then d.rj mp (gh d.kQ (wm args 0) st).1 (gh d.kQ (wm args 0) st).2 k kp else .fail
def iB.S(d:iB)(args:List D)(st:St):T (GC×St):=d.K args st (λds zt=>.ret (.ret ds,zt)) (λp zt=>.ret (.kB p,zt))
theorem iB.Rg{α:Type}{d:iB}{args:List D}{st:St}{k:List D->St->T α}{kp:D->St->T α}{r:α}(h:(d.K args st k kp).leads r) :
  (∃ ds zt,(d.S args st).leads (.ret ds,zt)/\(k ds zt).leads r)\/∃ p zt,(d.S args st).leads (.kB p,zt)/\(kp p zt).leads r:=by
 unfold iB.K at h
 unfold iB.S iB.K
 split at h
 ·exact h.elim
 ·rename_i mp TK
  cases hc:yn mp&&Nat.ble mp.length d.sh.bs.length&&Nat.beq args.length d.ks.length with
  | false=>rw[hc]at h; exact h.elim
  | true =>
   rw[hc,cond_true]at h
   unfold iB.rj at h
   unfold iB.rj
   split at h
   ·exact h.elim
   ·rename_i l hl
    split at h
    ·exact h.elim
    ·rename_i gS hst1
     obtain⟨x,h1,h⟩:=T.zd.1 h
     obtain⟨y,h2,h⟩:=T.zd.1 h
     cases y with
     | inl y =>
      simp at h
      unfold jZ.VU at h
      split at h
      ·rename_i ds jk e1 e2
       split at h
       ·rename_i JZ e3
        refine .inl ⟨JZ,_,T.zd.2 ⟨x,h1,T.zd.2 ⟨.inl y,h2,?_⟩⟩,h⟩
        simp
        unfold jZ.VU
        simp only[e1,e2,e3]
        rfl
       ·exact h.elim
      ·exact h.elim
     | inr z =>
      simp at h
      unfold iB.Tc at h
      split at h
      ·rename_i τ p jk e1 e2
       refine .inr ⟨_,_,T.zd.2 ⟨x,h1,T.zd.2 ⟨.inr z,h2,?_⟩⟩,h⟩
       simp
       unfold iB.Tc
       simp only[e1,e2]
       rfl
      ·exact h.elim
def kH(P:Program)(g:Nat)(d:iB):Prop:=∀ (κ:KS) (x:d.sh.den) (zy:List Value) (r:d.out.den⊕d.kB.den),κ.st=d.sh.st x->(d.F x).leads r->Inv κ->zy.length=d.ks.length ->
 Rel κ zy.length (d.sh.fr x).get { tmps:=zy.toArray,defers:=[] } ->
 uD P g zy.toArray κ.w λe w'=>∃ κ':KS,κ'.w=w'/\Inv κ'/\Ext κ κ' /\
  ((∃ (y:d.out.den) (ds:List D),r=.inl y/\κ'.st=d.out.st y/\yW d.nr (d.out.fr y)=some ds/\wv κ' (.ret ds) e) \/
   ∃ (z:d.kB.den) (p:D),r=.inr z/\κ'.st=d.kB.st z/\(d.kB.fr z).get 0=some p/\wv κ' (.kB (.iface d.pt p)) e)
theorem iB.snd{P:Program}{g:Nat}{d:iB}(h:kH P g d):Bb P g d.S:=by
 intro κ args zy rs zt hl hI ha
 have SE:Rel κ zy.length (wm args 0).get { tmps:=zy.toArray,defers:=[] }:=by
  have:=Qi (n:=zy.length) ha (by rw[ha.1]; exact Nat.le_refl _)
  simpa[show(K0.df:List Deferred)=[]from rfl]using this
 obtain⟨κ0,w1,w2,w3,w4,w5⟩:=lB d.kQ (wm args 0) κ hI SE
 unfold iB.S iB.K at hl
 rw[<- w2]at hl
 split at hl
 ·exact hl.elim
 ·rename_i mp TK
  cases hc:yn mp&&Nat.ble mp.length d.sh.bs.length&&Nat.beq args.length d.ks.length with
  | false=>rw[hc]at hl; exact hl.elim
  | true =>
   rw[hc,cond_true]at hl
   simp only[Bool.and_eq_true]at hc
   obtain⟨⟨hn,hle⟩,hlen⟩:=hc
   unfold iB.rj at hl
   split at hl
   ·exact hl.elim
   ·rename_i l W4
    split at hl
    ·exact hl.elim
    ·rename_i gS hst1
     obtain⟨x,h1,hl⟩:=T.zd.1 hl
     obtain⟨y,h2,hl⟩:=T.zd.1 hl
     obtain⟨p1,hpp⟩:=tX (m:=κ0.ph) w3.len.symm W4
     obtain⟨s1,s2,s3,s4,s5⟩:=F9 w3 hn hpp W4 hst1
     have YO:Rel ⟨κ0.w,κ0.ok,p1,gS⟩ zy.length (sO (pos mp) (gh d.kQ (wm args 0) κ.st).1).get { tmps:=zy.toArray,defers:=[] } :=
      ⟨w5.size,w5.defers,λs d' hd=>by
       obtain⟨d0,q1,q2⟩:=rQ hd
       obtain⟨v,q3,q4⟩:=w5.get s d0 q1
       exact⟨v,q3,s2.rd q4 q2⟩⟩
     obtain⟨κ2,u1,u2,u3,u4,u5,_⟩:=d.sh.Q8 (κ0:=⟨κ0.w,κ0.ok,p1,gS⟩) (κ:=⟨κ0.w,κ0.ok,p1,gS⟩) (Ext.refl _) s1 YO (by show gS.length<=_; rw[s3]; exact Nat.le_of_ble_eq_true hle) h1
     have hw:κ2.w=κ.w:=u1.trans w1
     have hdo:=h κ2 x zy y u2 h2 u3 (by rw[<- ha.1]; exact Nat.eq_of_beq_eq_true hlen) u5
     rw[hw]at hdo
     refine hdo.mono ?_
     rintro e w' ⟨κ3,rfl,g2,g3,⟨y,ds,rfl,g1,g4,v,rfl,g5⟩ | ⟨z,p,rfl,g1,g4,v,rfl,g5⟩⟩
     ·simp only[Sum.elim_inl]at hl
      unfold jZ.VU at hl
      rw[show yW d.s.nr (d.s.out.fr y)=some ds from g4,show d.s.out.st y=κ3.st from g1.symm]at hl
      split at hl
      ·rename_i ds0 jk e1 e2
       cases e1
       split at hl
       ·rename_i JZ hds'
        cases hl
        obtain⟨κ',k1,k2,k3,k4,k5⟩:=GR w3 hn hpp W4 hst1 g2 (u4.trans g3) e2
        exact⟨κ',k1,k2,k3,w4.trans k4,v,rfl,IG k5 g5 hds'⟩
       ·exact hl.elim
      ·exact hl.elim
     ·simp only[Sum.elim_inr]at hl
      unfold iB.Tc at hl
      rw[g4,<- g1]at hl
      split at hl
      ·rename_i τ q jk e1 e2
       cases e1
       cases hl
       obtain⟨κ',k1,k2,k3,k4,k5⟩:=GR w3 hn hpp W4 hst1 g2 (u4.trans g3) e2
       refine⟨κ',k1,k2,k3,w4.trans k4,v,rfl,?_⟩
       cases g5 with
       | iface _ _ u hu=>exact .iface _ _ u (k5.rd hu rfl)
      ·exact hl.elim
end Go.AM
namespace Go.AM
def GK(sh:vU)(kQ:List Gh)(args:List D)(st:St):List Nat:=bif kQ.isEmpty then match mapOf sh (wm args 0) st with | some mp=>others st.length mp | none=>[]else[]
def jZ.free(d:jZ)(args:List D)(st:St):List Nat:=GK d.sh d.kQ args st
def iB.free(d:iB)(args:List D)(st:St):List Nat:=GK d.sh d.kQ args st
theorem Bs{m b:Nat}{l:List Nat}(h:b∈others m l):b<m/\∀ x∈l,b≠x:=by
 simp only[others,List.mem_filter,List.mem_range,Bool.not_eq_true',List.any_eq_false]at h
 exact⟨h.1,λx hx e=>by subst e; exact h.2 b hx (Nat.beq_refl _)⟩
theorem CV:∀ {mp:List Nat} {b:Nat},(∀ x∈mp,b≠x)->pos mp b=none
 | [],_,_=>rfl
 | x::r,b,h=>by
  simp only[pos]
  rw[show Nat.beq x b=false from by cases hb:Nat.beq x b with | false=>rfl | true=>exact absurd (Nat.eq_of_beq_eq_true hb).symm (h x List.mem_cons_self),cond_false,CV λy hy=>h y (List.mem_cons_of_mem _ hy)]
theorem Jf{sh:vU}{kQ:List Gh}{args:List D}{st:St}{b:Nat}(hb:b∈GK sh kQ args st):kQ=[]/\∃ mp,mapOf sh (wm args 0) st=some mp/\b<st.length/\pos mp b=none:=by
 unfold GK at hb
 cases hn:kQ.isEmpty with
 | false=>grind
 | true =>
  rw[hn,cond_true]at hb
  refine⟨List.isEmpty_iff.1 hn,?_⟩
  split at hb
  ·rename_i mp TK
   obtain⟨h1,h2⟩:=Bs hb
   exact⟨mp,TK,h1,CV h2⟩
  ·cases hb
theorem jZ.QP{d:jZ}{args:List D}{st zt:St}{rs:GC}{b:Nat}(h:(d.S args st).leads (rs,zt))(hb:b∈d.free args st):zt[b]? = st[b]? := by
 obtain⟨hn,mp,TK,qu,ZV⟩:=Jf hb
 unfold jZ.S at h
 rw[hn]at h
 simp only[gh,TK]at h
 cases hc:yn mp&&Nat.ble mp.length d.sh.bs.length&&Nat.beq args.length d.ks.length with
 | false=>rw[hc]at h; exact h.elim
 | true =>
  rw[hc,cond_true]at h
  unfold jZ.inner at h
  split at h
  ·exact h.elim
  ·split at h
   ·exact h.elim
   ·obtain⟨x,_,h⟩:=T.zd.1 h
    obtain⟨y,_,h⟩:=T.zd.1 h
    unfold jZ.back at h
    split at h
    ·split at h
     ·cases h; exact lS qu ZV
     ·exact h.elim
    ·exact h.elim
theorem iB.QP{d:iB}{args:List D}{st zt:St}{rs:GC}{b:Nat}(h:(d.S args st).leads (rs,zt))(hb:b∈d.free args st):zt[b]? = st[b]? := by
 obtain⟨hn,mp,TK,qu,ZV⟩:=Jf hb
 unfold iB.S iB.K at h
 rw[hn]at h
 simp only[gh,TK]at h
 cases hc:yn mp&&Nat.ble mp.length d.sh.bs.length&&Nat.beq args.length d.ks.length with
 | false=>rw[hc]at h; exact h.elim
 | true =>
  rw[hc,cond_true]at h
  unfold iB.rj at h
  split at h
  ·exact h.elim
  ·split at h
   ·exact h.elim
   ·obtain⟨x,_,h⟩:=T.zd.1 h
    obtain⟨y,_,h⟩:=T.zd.1 h
    cases y with
    | inl y =>
     simp at h
     unfold jZ.VU at h
     split at h
     ·split at h
      ·cases h; exact lS qu ZV
      ·exact h.elim
     ·exact h.elim
    | inr z =>
     simp at h
     unfold iB.Tc at h
     split at h
     ·cases h; exact lS qu ZV
     ·exact h.elim
end Go.AM
namespace Go.AM
def Za.den:Za->Type
 | .ty τ=>AM.den τ
 | .rp τ=>AM.den τ
 | .qW _ caps=>gI caps
def jP:List Za->Type
 | []=>Unit
 | [p]=>p.den
 | p::q::r=>p.den×jP (q::r)
def mkP:(p:Za)->p.den->D
 | .ty τ,x=>.zI τ x
 | .rp τ,x=>.qR τ x
 | .qW f caps,x=>.qW f (mj caps x)
def X4:(l:List Za)->jP l->List D
 | [],_=>[]
 | [p],x=>[mkP p x]
 | p::q::r,x=>mkP p x.1::X4 (q::r) x.2
def Zc:(l:List Ty)->GF l->List D
 | [],_=>[]
 | [τ],x=>[.zI τ x]
 | τ::σ::r,x=>.zI τ x.1::Zc (σ::r) x.2
def rpX(st:St)(τ:Ty):D->T (den τ)
 | .qR _ x=>match(wP x:Option (den τ))with | some y=>.ret y | none=>.fail
 | .ptr b off=>match st[b]? with
  | some (.var d)=>match bif Nat.beq off 0 then fp τ d else none with | some y=>.ret y | none=>.fail
  | _=>.fail
 | _=>.fail
def z3Z(st:St):(p:X6)->D->T (den p.ty)
 | .im τ,d=>QK st τ d
 | .rp τ,d=>rpX st τ d
def IP(st:St):(l:List X6)->List D->T (gI l)
 | [],[]=>.ret ()
 | [p],[d]=>z3Z st p d
 | p::q::r,d::ds=>(z3Z st p d).bind λx=>(IP st (q::r) ds).bind λy=>.ret (x,y)
 | _,_=>.fail
def unP(st:St):(p:Za)->D->T p.den
 | .ty τ,d=>QK st τ d
 | .rp τ,d=>rpX st τ d
 | .qW f caps,d=>match d with
  | .qW f' l=>bif Nat.beq f f' then IP st caps l else .fail
  | _=>.fail
def BJ(st:St):(l:List Za)->List D->T (jP l)
 | [],[]=>.ret ()
 | [p],[d]=>unP st p d
 | p::q::r,d::ds=>(unP st p d).bind λx=>(BJ st (q::r) ds).bind λy=>.ret (x,y)
 | _,_=>.fail
def z00(st:St):(l:List Ty)->List D->T (GF l)
 | [],[]=>.ret ()
 | [τ],[d]=>QK st τ d
 | τ::σ::r,d::ds=>(QK st τ d).bind λx=>(z00 st (σ::r) ds).bind λy=>.ret (x,y)
 | _,_=>.fail
structure C4 where
 ps:List Za
 rs:List Ty
 F:jP ps->T (GF rs)
def z7Z:Za->D->Bool
 | .qW f _,d=>match d with | .qW f' _=>Nat.beq f f' | _=>false
 | _,d=>match d with | .qW _ _=>false | _=>true
def fits:List Za->List D->Bool
 | [],[]=>true
 | p::ps,d::ds=>z7Z p d&&fits ps ds
 | _,_=>false
def z74:AK->D->Bool
 | .any,d=>match d with | .qW _ _=>false | _=>true
 | .cur,d=>match d with | .ms .. => true | .xr=>true | _=>false
 | .sub,d=>match d with | .ms .. => true | _=>false
 | .ptr,d=>match d with | .ptr .. => true | _=>false
 | .qW f,d=>match d with | .qW f' _=>Nat.beq f f' | _=>false
def nY:List AK->List D->Bool
 | [],[]=>true
 | p::ps,d::ds=>z74 p d&&nY ps ds
 | _,_=>false
inductive FnE where
 | d (x:C4)
 | s (x:jZ)
 | p (x:iB)
def FnE.fits:FnE->List D->Bool
 | .d x,l=>AM.fits x.ps l
 | .s x,l=>nY x.ks l
 | .p x,l=>nY x.ks l
abbrev cZ:=List (Nat×FnE)
def cZ.find:cZ->Nat->List D->Option FnE
 | [],_,_=>none
 | (g',d)::r,g,args=>bif Nat.beq g' g&&d.fits args then some d else cZ.find r g args
abbrev Sm:=List D->St->T (GC×St)
def C4.S(d:C4):Sm:=λargs st=>match st with
 | []=>(BJ [] d.ps args).bind λx=>(d.F x).bind λy=>.ret (.ret (Zc d.rs y),[])
 | _=>.fail
def cZ.call(tab:cZ)(g:Nat)(args:List D)(st:St):T (GC×St):=match tab.find g args with | some (.d d)=>d.S args st | some (.s d)=>d.S args st | some (.p d)=>d.S args st | none=>.fail
def cZ.free(tab:cZ)(g:Nat)(args:List D)(st:St):List Nat:=match tab.find g args with | some (.s d)=>d.free args st | some (.p d)=>d.free args st | _=>[]
theorem cZ.QP(tab:cZ)(g:Nat)(args:List D)(st:St)(rs:GC)(zt:St)(b:Nat)(h:(tab.call g args st).leads (rs,zt))(hb:b∈tab.free g args st):zt[b]? = st[b]? := by
 unfold cZ.call at h
 unfold cZ.free at hb
 split at hb
 ·rename_i d hd; rw[hd]at h; exact jZ.QP h hb
 ·rename_i d hd; rw[hd]at h; exact iB.QP h hb
 ·cases hb
def ui(P:Program)(xid:Nat)(tab:cZ)(ro:Nat->Bool):Ctx :=
 { P,xid,ro,sig:=λg args=>match tab.find g args with | some (.d d)=>some ⟨d.ps,d.rs⟩ | _=>none,fn:=tab.call,free:=tab.free,Tl:=tab.QP }
def z5y{α:Type}(tab:cZ)(g:Nat)(args:List D)(st:St)(k:Nat->Option D->St->T α)(kp:D->St->T α):T α:=match tab.find g args with
 | none=>.fail
 | some (.d d)=>bif !(args.any UT)then(BJ [] d.ps args).bind λx=>(d.F x).bind λy=>k 0 (some (yh (Zc d.rs y))) st
  else(BJ st d.ps args).bind λx=>(d.F x).bind λy=>bif (Zc d.rs y).all s7 then k 1 (some (yh (Zc d.rs y))) st else .fail
 | some (.s d)=>d.K args st λds zt=>k 2 (some (yh ds)) zt
 | some (.p d)=>d.K args st (λds zt=>k 2 (some (yh ds)) zt) kp
def GH{α:Type}(tab:cZ)(f:Option D)(args:List (Option D))(st:St)(k:Nat->Option D->St->T α)(kp:D->St->T α):T α:=match f,uy args with
 | some (.qW g caps),some l=>z5y tab (yo g) (jj g l caps) st k kp
 | _,_=>.fail
def cP(l:List Nat):Fr:=l.map λs=>(s,none)
def dstsOf:List Oper->List Nat
 | []=>[]
 | o::r=>match o.dst with | some t=>t::dstsOf r | none=>dstsOf r
def qj:Code->List Nat
 | .region _ ops _=>dstsOf ops.toList
 | .seq a b=>qj a++qj b
 | .cond _ a b=>qj a++qj b
 | .block _ a=>qj a
 | .loop a=>qj a
 | _=>[]
structure zT where
 gh:List Gh
 ps:List It
 sh:vU
 ws:List Way
 F:wN ps->sh.den->T (gU ws)
inductive z1i where
 | flat (ob:List It)
 | ways (ws:List Way)
 | zci
structure Hints where
 loop:Nat->Option zT
 cut:Nat->Nat->Option z1i
 frz:Nat->List Nat
def en:Code->Option Nat
 | .region id _ _=>some id
 | .seq a b=>match en a with | some n=>some n | none=>en b
 | .cond _ a b=>match en a with | some n=>some n | none=>en b
 | .block _ a=>en a
 | .loop a=>en a
 | _=>none
def keyOf(x:Code):Nat×Nat:=(match x with | .region .. => 0 | .cond .. => 1 | .block .. => 2 | _=>3,match en x with | some n=>n | none=>0)
def z5K(l:List Nat)(s:Nat):Bool := !(l.any (Nat.beq s))
def Vf:Dk->Bool
 | .sub _ _=>false
 | .st _=>false
 | .mclo _ _=>false
 | _=>true
def EW(ps:List It)(ws:List Nat):Bool:=ps.all λi=>match i with
 | .s t k=>Vf k&&z5K ws t
 | _=>false
def Hg{α:Type}:T α->Option α
 | .ret a=>some a
 | .ite _ t e=>match Hg t with | some a=>some a | none=>Hg e
 | .zL _ t=>Hg t
 | .fail=>none
def BN{α β:Type}(f:α->β):T α->T β
 | .ret a=>.ret (f a)
 | .ite b t e=>.ite b (BN f t) (BN f e)
 | .zL p t=>.zL p (BN f t)
 | .fail=>.fail
def Oa:(l:List It)->wN l->T (wN l)->wN l
 | [],_,_=>()
 | [_],d,t=>T.val d t
 | _::j::r,d,t=>(T.val d.1 (BN Prod.fst t),Oa (j::r) d.2 (BN Prod.snd t))
def Sr(l:List It)(t:T (wN l)):T (wN l):=match Hg t with
 | some d=>match t.QD with
  | none=>.ret (Oa l d t)
  | some p=>.zL p (.ret (Oa l d t))
 | none=>.fail
def Yu(l:List It):Bool:=l.all λi=>match i with
 | .s _ k=>Vf k
 | _=>false
structure FO where
 ex:Ex
 fr:Fr
 kn:Kn
 st:St
 q:Bool      -- the store has not been written
def quiet(ks:List Nat):Bool:=ks.all λk => !(Nat.beq k 2)
structure zbb where
 e:Ty
 l:List (den e)
 m:Nat
 s:Nat
 c:Nat
 eq:Bool
def Ta:BinOp->Option Bool
 | .eql=>some true
 | .neq=>some false
 | _=>none
def EH:Operand->Bool
 | .const (.slice none 0 0)=>true
 | _=>false
def H9(c:Ctx)(n:Nat)(ops:Array Oper)(fr:Fr):Option zbb:=match ops.toList with
 | [o1,o2]=>match o1.dst,o1.op,o1.guard with
  | some m,.move (.tmp s),none=>match o2.dst,o2.op,o2.guard with
   | some cc,.binOp op t (.tmp m') y _,none=>match Ta op,fr.get s,fX c t with
    | some b,some (.zI (.sl e) l),some _=>bif Nat.beq m m'&&EH y&&Nat.blt m n&&Nat.blt cc n then some ⟨e,l,m,s,cc,b⟩else none
    | _,_,_=>none
   | _,_,_=>none
  | _,_,_=>none
 | _=>none
def opsOf:Code->Option (Array Oper)
 | .region _ ops false=>some ops
 | _=>none
section
variable (c:Ctx) (tab:cZ)
variable [su]
def rH{α:Type}(n:Nat)(o:Oper)(s:du)(k:du->T α)(kp:D->St->T α):T α :=
 bif vS n o.dst then match o.op with
  | .call cl=>match cl.callee with
   | .value f=>GH tab (uG s.fr f) (cl.args.toList.map (uG s.fr)) s.st (λkd d zt=>k ⟨s.fr.put o.dst d,KD s.kn o.dst none,zt,kd::s.ks,w7 c (uG s.fr) s.st o::s.bk⟩) kp
   | _=>let cl:=nT c s.kn s.fr o
    (zH cl s.st).bind λr=>k ⟨s.fr.put o.dst r.1,KD s.kn o.dst (Kf s.kn o.op),r.2,cl.kind::s.ks,w7 c (uG s.fr) s.st o::s.bk⟩
  | .panic x=>match uG s.fr x with
   | some (.iface t d)=>kp (.iface t d) s.st
   | _=>.fail
  | _=>let cl:=nT c s.kn s.fr o
   (zH cl s.st).bind λr=>k ⟨s.fr.put o.dst r.1,KD s.kn o.dst (Kf s.kn o.op),r.2,cl.kind::s.ks,w7 c (uG s.fr) s.st o::s.bk⟩
 else .fail
def Eb{α:Type}(n:Nat)(ops:Array Oper)(o:Oper)(s:du)(k:du->T α)(kp:D->St->T α):T α:=match o.guard with
 | none=>rH c tab n o s k kp
 | some (j,want)=>match uB ops j with
  | none=>.fail
  | some t=>match s.kn.get t with
   | some b=>bif b==want then rH c tab n o s k kp else bif vS n o.dst then k (jd o s)else .fail
   | none=>match s.fr.get t with
    | some (.zI .bool x)=>bif vS n o.dst then
      .ite x (bif want then rH c tab n o (s.ba t true) k kp else k (jd o (s.ba t true)))
          (bif want then k (jd o (s.ba t false))else rH c tab n o (s.ba t false) k kp)
     else .fail
    | some (.yq [])=>bif vS n o.dst then k (jd o s)else .fail
    | _=>.fail
def Vd{α:Type}(n:Nat)(ops:Array Oper):List Oper->du->(du->T α)->(D->St->T α)->T α
 | [],s,k,_=>k s
 | o::l,s,k,kp=>Eb c tab n ops o s (λs'=>Vd n ops l s' k kp) kp
def JJ{α:Type}(n:Nat)(ops:Array Oper)(draw:Bool)(fr:Fr)(kn:Kn)(st:St)(k:du->T α)(kp:D->St->T α):T α :=
 Vd c tab n ops ops.toList ⟨fr,kn,st,[],[]⟩ (λs=>bif !draw||tf ops s.ks.reverse s.bk.reverse then k s else .fail) (λd zt=>bif draw then .fail else kp d zt)
def Z7(n:Nat)(H:Hints):Code->Fr->Kn->St->{α:Type}->(FO->T α)->T α
 | .skip,fr,kn,st,_,k=>k ⟨.normal,fr,kn,st,true⟩
 | .region id ops draw,fr,kn,st,_,k=>(frz (H.frz id) fr st).bind λz=>JJ c tab n ops draw z.1 kn z.2 (λs=>k ⟨.normal,s.fr,s.kn,s.st,quiet s.ks&&(H.frz id).isEmpty⟩) (λd zt=>k ⟨.kB d,[],[],zt,false⟩)
 | .seq a b,fr,kn,st,_,k=>match H.cut (keyOf a).1 (keyOf a).2 with
  | none=>Z7 n H a fr kn st λr=>match r.ex with
   | .normal=>Z7 n H b r.fr r.kn r.st λo=>k { o with q:=r.q&&o.q }
   | _=>k r
  | some (.flat ob)=>bif Yu ob then
    (Sr ob (Z7 n H a fr kn st λo=>match o.ex with
     | .normal=>bif o.q then YH o.fr o.st ob []else .fail
     | _=>.fail)).bind λx=>Z7 n H b (eV st ob x++(cP (qj a)++fr)) [] st k
   else .fail
  | some .zci=>match opsOf a with
   | none=>.fail
   | some ops=>match H9 c n ops fr with
    | none=>.fail
    | some p =>
     let non:=Z7 n H b ((p.c,some (.zI .bool (!p.eq)))::(p.m,some (.zI (.sl p.e) p.l))::fr) [(p.c,some (!p.eq))] st k
     .zL (p.l=[]->∀ r,non.leads r->(Z7 n H b ((p.c,some (.zI .bool p.eq))::(p.m,some .xr)::(p.s,some .xr)::fr) [(p.c,some p.eq)] st k).leads r) non
  | some (.ways ws)=>bif ws.all λw=>Nat.ble st.length w.sh.bs.length then
    (Z7 n H a fr kn st λo=>B7 ws o.ex (KE o.ex o.fr) o.st).bind λr=>Ln ws r λex out zt=>match Ct ex out with
     | none=>.fail
     | some z=>match z.1 with
      | .normal=>Z7 n H b (z.2++(cP (qj a)++fr)) [] zt λo=>k { o with q:=false }
      | e=>k ⟨e,z.2++(cP (qj a)++fr),[],zt,false⟩
   else .fail
 | .cond x a b,fr,kn,st,_,k=>match cE kn x with
  | some true=>Z7 n H a fr kn st k
  | some false=>Z7 n H b fr kn st k
  | none=>match x with
   | .tmp t=>match fr.get t with
    | some (.zI .bool v)=>.ite v (Z7 n H a fr ((t,some true)::kn) st k) (Z7 n H b fr ((t,some false)::kn) st k)
    | _=>.fail
   | _=>.fail
 | .block id (.loop b),fr,_,st,_,k=>match H.loop id with
  | none=>.fail
  | some l=>let g:=gh l.gh fr st
   bif Nat.ble g.2.length l.sh.bs.length&&EW l.ps (qj b)&&l.ws.all λw=>Nat.ble l.sh.bs.length w.sh.bs.length then
    (YH g.1 g.2 l.ps []).bind λp=>(l.sh.un g.1 g.2).bind λs=>(l.F p s).bind λr=>Ln l.ws r λex out zt=>match Ct ex out with
     | none=>.fail
     | some z=>match z.1 with
      | .exit id'=>bif Nat.beq id' id then k ⟨.normal,z.2++(cP (qj b)++g.1),[],zt,false⟩else k ⟨.exit id',z.2++(cP (qj b)++g.1),[],zt,false⟩
      | .normal=>.fail
      | e=>k ⟨e,z.2++(cP (qj b)++g.1),[],zt,false⟩
   else .fail
 | .block id a,fr,kn,st,_,k=>Z7 n H a fr kn st λr=>match r.ex with
  | .exit id'=>bif Nat.beq id' id then k { r with ex:=.normal } else k r
  | _=>k r
 | .exit id,fr,kn,st,_,k=>k ⟨.exit id,fr,kn,st,true⟩
 | .ret,fr,kn,st,_,k=>k ⟨.ret,fr,kn,st,true⟩
 | _,_,_,_,_,_=>.fail
def z0j(n:Nat)(H:Hints)(l:zT)(b:Code)(p:wN l.ps)(s:l.sh.den):T (l.sh.den⊕gU l.ws) :=
 Z7 c tab n H b (l.sh.fr s++eV (l.sh.st s) l.ps p) [] (l.sh.st s) λo=>match o.ex with
  | .normal=>(l.sh.un o.fr o.st).bind λs'=>.ret (.inl s')
  | e=>(B7 l.ws e (KE e o.fr) o.st).bind λr=>.ret (.inr r)
def TL(H:Hints)(fn:Func)(code:Code)(d:C4)(x:jP d.ps):T (GF d.rs) :=
 bif Nat.ble (X4 d.ps x).length fn.ntmps then
  Z7 c tab fn.ntmps H code (wm (X4 d.ps x) 0) [] [] λo=>match o.ex with
   | .normal=>(bh c o.fr o.st fn.results.toList).bind λds=>z00 o.st d.rs ds
   | .ret=>(bh c o.fr o.st fn.results.toList).bind λds=>z00 o.st d.rs ds
   | _=>.fail
 else .fail
def Ff(H:Hints)(fn:Func)(code:Code)(d:jZ)(x:d.sh.den):T d.out.den :=
 bif Nat.ble d.ks.length fn.ntmps&&Nat.ble d.sh.bs.length d.out.bs.length then
  Z7 c tab fn.ntmps H code (d.sh.fr x) [] (d.sh.st x) λo=>match o.ex with
   | .normal=>(bh c o.fr o.st fn.results.toList).bind λds=>bif Nat.beq ds.length d.nr then(d.out.un (wm ds 0) o.st).bind λy=>bif (yW d.nr (d.out.fr y)).isSome then .ret y else .fail else .fail
   | .ret=>(bh c o.fr o.st fn.results.toList).bind λds=>bif Nat.beq ds.length d.nr then(d.out.un (wm ds 0) o.st).bind λy=>bif (yW d.nr (d.out.fr y)).isSome then .ret y else .fail else .fail
   | _=>.fail
 else .fail
def EJ(H:Hints)(fn:Func)(code:Code)(d:iB)(x:d.sh.den):T (d.out.den⊕d.kB.den) :=
 bif Nat.ble d.ks.length fn.ntmps&&Nat.ble d.sh.bs.length d.out.bs.length&&Nat.ble d.sh.bs.length d.kB.bs.length then
  Z7 c tab fn.ntmps H code (d.sh.fr x) [] (d.sh.st x) λo=>match o.ex with
   | .normal=>(bh c o.fr o.st fn.results.toList).bind λds=>bif Nat.beq ds.length d.nr then(d.out.un (wm ds 0) o.st).bind λy=>bif (yW d.nr (d.out.fr y)).isSome then .ret (.inl y)else .fail else .fail
   | .ret=>(bh c o.fr o.st fn.results.toList).bind λds=>bif Nat.beq ds.length d.nr then(d.out.un (wm ds 0) o.st).bind λy=>bif (yW d.nr (d.out.fr y)).isSome then .ret (.inl y)else .fail else .fail
   | .kB p=>match p with
    | .iface t v=>bif Nat.beq t d.pt then(d.kB.un [(0,some v)] o.st).bind λz=>match(d.kB.fr z).get 0 with | some _=>.ret (.inr z) | none=>.fail else .fail
    | _=>.fail
   | _=>.fail
 else .fail
end
end Go.AM
namespace Go.AM
set_option linter.unusedSectionVars false
variable [vX]
open Go.RowKit
section
variable {n:Nat}
theorem PH{st:St}{τ:Ty}{d:D}{x:den τ}(h:(rpX st τ d).leads x):(nV st τ d).leads (.qR τ x):=by
 cases d with
 | qR σ y =>
  simp only[rpX]at h
  simp only[nV]
  cases hy:(wP y:Option (den τ))with
  | none=>rw[hy]at h; exact h.elim
  | some z=>rw[hy]at h; cases h; rfl
 | ptr b off =>
  simp only[rpX]at h
  simp only[nV]
  cases hb:st[b]? with
  | none=>rw[hb]at h; exact h.elim
  | some B =>
   rw[hb]at h
   cases B with
   | var d =>
    simp only at h ⊢
    cases hy:(bif Nat.beq off 0 then fp τ d else none)with
    | none=>rw[hy]at h; exact h.elim
    | some z=>rw[hy]at h; cases h; rfl
   | _=>exact h.elim
 | _=>exact h.elim
theorem Mg{st:St}{p:X6}{d:D}{x:den p.ty}(h:(z3Z st p d).leads x):(r8 st p d).leads (YY p x):=by
 cases p with
 | rp τ=>exact PH h
 | im τ=>exact T.zd.2 ⟨x,h,rfl⟩
theorem C3{st:St}:∀ (l:List X6) (ds:List D) (x:gI l),(IP st l ds).leads x->(bO st l ds).leads (mj l x)
 | [],[],x,h=>rfl
 | [],_::_,x,h=>h.elim
 | [p],[],x,h=>h.elim
 | [p],[d],x,h=>T.zd.2 ⟨_,Mg h,T.zd.2 ⟨[],rfl,rfl⟩⟩
 | [p],_::_::_,x,h=>h.elim
 | p::q::r,[],x,h=>h.elim
 | p::q::r,d::ds,x,h=>by
  obtain⟨y,h1,h2⟩:=T.zd.1 h
  obtain⟨z,h3,h4⟩:=T.zd.1 h2
  cases h4
  exact T.zd.2 ⟨_,Mg h1,T.zd.2 ⟨_,C3 (q::r) ds z h3,rfl⟩⟩
theorem Tx{st:St}{p:Za}{d:D}{x:p.den}(h:(unP st p d).leads x):(Ch st p d).leads (mkP p x):=by
 cases p with
 | ty τ=>cases d<;>exact T.zd.2 ⟨x,h,rfl⟩
 | rp τ =>
  have:=PH h
  cases d<;>exact this
 | qW f caps =>
  cases d with
  | qW f' l =>
   simp only[unP]at h
   simp only[Ch]
   cases hb:Nat.beq f f' with
   | false=>rw[hb]at h; exact h.elim
   | true=>rw[hb]at h; exact T.zd.2 ⟨_,C3 caps l x h,rfl⟩
  | _=>exact h.elim
theorem Vl{st:St}:∀ (l:List Za) (ds:List D) (x:jP l),(BJ st l ds).leads x->(nM st l ds).leads (X4 l x)
 | [],[],x,h=>rfl
 | [],_::_,x,h=>h.elim
 | [p],[],x,h=>h.elim
 | [p],[d],x,h=>T.zd.2 ⟨_,Tx h,T.zd.2 ⟨[],rfl,rfl⟩⟩
 | [p],_::_::_,x,h=>h.elim
 | p::q::r,[],x,h=>h.elim
 | p::q::r,d::ds,x,h=>by
  obtain⟨y,h1,h2⟩:=T.zd.1 h
  obtain⟨z,h3,h4⟩:=T.zd.1 h2
  cases h4
  exact T.zd.2 ⟨_,Tx h1,T.zd.2 ⟨_,Vl (q::r) ds z h3,rfl⟩⟩
theorem DB(st:St)(τ:Ty)(x:den τ):(QK st τ (.zI τ x)).leads x:=by
 refine T.zd.2 ⟨.zI τ x,rfl,?_⟩
 rw[T.uc]
 exact pI x
theorem z0M(st:St)(τ:Ty)(x:den τ):(rpX st τ (.qR τ x)).leads x:=by
 simp only[rpX]; rw[pI]; rfl
theorem Ik(st:St)(p:X6)(x:den p.ty):(z3Z st p (YY p x)).leads x:=by
 cases p with
 | rp τ=>exact z0M st τ x
 | im τ=>exact DB st τ x
theorem Bq(st:St):∀ (l:List X6) (x:gI l),(IP st l (mj l x)).leads x
 | [],_=>rfl
 | [p],x=>Ik st p x
 | p::q::r,x=>T.zd.2 ⟨x.1,Ik st p x.1,T.zd.2 ⟨x.2,Bq st (q::r) x.2,rfl⟩⟩
theorem Pw(st:St)(p:Za)(x:p.den):(unP st p (mkP p x)).leads x:=by
 cases p with
 | ty τ=>exact DB st τ x
 | rp τ=>exact z0M st τ x
 | qW f caps=>simp only[unP,mkP]; rw[Nat.beq_refl]; exact Bq st caps x
theorem Gm(st:St):∀ (l:List Za) (x:jP l),(BJ st l (X4 l x)).leads x
 | [],_=>rfl
 | [p],x=>Pw st p x
 | p::q::r,x=>T.zd.2 ⟨x.1,Pw st p x.1,T.zd.2 ⟨x.2,Gm st (q::r) x.2,rfl⟩⟩
def y6:D->Option Nat | .qW f _=>some f | _=>none
theorem z36(p:Za){d e:D}(h:y6 d=y6 e):z7Z p d=z7Z p e:=by
 cases d<;>cases e<;>simp only[y6]at h<;>first | (cases h; done) | (cases p<;>first | rfl | (cases h; rfl))
theorem Lh:∀ (ps:List Za) {l m:List D},l.map y6=m.map y6->fits ps l=fits ps m
 | [],[],[],_=>rfl
 | [],_::_,_::_,_=>rfl
 | _,[],_::_,h=>by cases h
 | _,_::_,[],h=>by cases h
 | _::_,[],[],_=>rfl
 | p::ps,d::l,e::m,h=>by
  simp at h
  simp only[fits,z36 p h.1,Lh ps h.2]
theorem S2{st:St}{τ:Ty}{f:Nat}{l:List D}{x:den τ}(h:(QK st τ (.qW f l)).leads x):False:=by
 obtain⟨y,h1,h2⟩:=T.zd.1 h
 cases h1
 rw[T.uc]at h2
 cases τ<;>simp[fp,D.isAgg,Ty.isAgg,qh,jf,eR]at h2
theorem Y4{st:St}{p:Za}{d:D}{x:p.den}(h:(unP st p d).leads x):y6 d=y6 (mkP p x):=by
 cases p with
 | ty τ=>cases d<;>first | rfl | exact(S2 h).elim
 | rp τ=>cases d<;>first | rfl | exact h.elim
 | qW f caps =>
  cases d with
  | qW f' l =>
   simp only[unP]at h
   cases hb:Nat.beq f f' with
   | false=>rw[hb]at h; exact h.elim
   | true=>rw[Nat.eq_of_beq_eq_true hb]; rfl
  | _=>exact h.elim
theorem UX{st:St}:∀ (l:List Za) (ds:List D) (x:jP l),(BJ st l ds).leads x->ds.map y6=(X4 l x).map y6
 | [],[],x,h=>rfl
 | [],_::_,x,h=>h.elim
 | [p],[],x,h=>h.elim
 | [p],[d],x,h=>by show[y6 d]=[y6 (mkP p x)]; rw[Y4 h]
 | [p],_::_::_,x,h=>h.elim
 | p::q::r,[],x,h=>h.elim
 | p::q::r,d::ds,x,h=>by
  obtain⟨y,h1,h2⟩:=T.zd.1 h
  obtain⟨z,h3,h4⟩:=T.zd.1 h2
  cases h4
  show y6 d::ds.map y6=y6 (mkP p y)::(X4 (q::r) z).map y6
  rw[Y4 h1,UX (q::r) ds z h3]
def dat(d:D):Bool:=match d with | .zI _ _=>true | .qR _ _=>true | .qW _ _=>true | _=>false
theorem MJ(p:Za)(x:p.den):dat (mkP p x)=true:=by cases p<;>rfl
theorem Bx:∀ (l:List Za) (x:jP l),∀ d∈X4 l x,dat d=true
 | [],x,d,h=>by cases h
 | [p],x,d,h=>by have h:d∈[mkP p x]:=h; rw[List.mem_singleton]at h; subst h; exact MJ p x
 | p::q::r,x,d,h=>by
  rcases List.mem_cons.1 h with rfl | h
  ·exact MJ p x.1
  ·exact Bx (q::r) x.2 d h
theorem T8{a:AK}{d e:D}(h:y6 d=y6 e)(hd:dat e=true)(hf:z74 a e=true):z74 a d=true:=by
 cases e with
 | zI τ x=>cases a<;>first | (cases hf; done) | (cases d<;>first | rfl | (cases h; done))
 | qR τ x=>cases a<;>first | (cases hf; done) | (cases d<;>first | rfl | (cases h; done))
 | qW f l=>cases a<;>first | (cases hf; done) | (cases d<;>first | (cases h; exact hf) | cases h)
 | _=>cases hd
theorem Xk:∀ {ks:List AK} {l m:List D},l.map y6=m.map y6->(∀ d∈m,dat d=true)->nY ks m=true->nY ks l=true
 | [],[],[],_,_,_=>rfl
 | [],_::_,[],h,_,_=>by cases h
 | [],_,_::_,_,_,hf=>by cases hf
 | _::_,_,[],_,_,hf=>by cases hf
 | k::ks,[],_::_,h,_,_=>by cases h
 | k::ks,d::l,e::m,h,hd,hf=>by
  simp at h
  simp only[nY,Bool.and_eq_true]at hf ⊢
  exact⟨T8 h.1 (hd e List.mem_cons_self) hf.1,Xk h.2 (λx hx=>hd x (List.mem_cons_of_mem _ hx)) hf.2⟩
theorem cZ.find_eq:∀ (t:cZ) (g:Nat) {l m:List D} {d:C4},l.map y6=m.map y6->(∀ d∈m,dat d=true)->t.find g l=some (.d d)->t.find g m=some (.d d)
 | [],_,_,_,_,_,_,h=>h
 | (g',.d d')::r,g,l,m,d,h,hm,hf=>by
  simp only[cZ.find,FnE.fits]at hf ⊢
  rw[<- Lh d'.ps h]
  cases hb:Nat.beq g' g&&fits d'.ps l with
  | true=>grind
  | false=>rw[hb,cond_false]at hf; rw[cond_false]; exact cZ.find_eq r g h hm hf
 | (g',.s d')::r,g,l,m,d,h,hm,hf=>by
  simp only[cZ.find,FnE.fits]at hf ⊢
  cases hb:Nat.beq g' g&&nY d'.ks l with
  | true=>grind
  | false =>
   rw[hb,cond_false]at hf
   have:(Nat.beq g' g&&nY d'.ks m)=false:=by
    cases hg:Nat.beq g' g with
    | false=>rfl
    | true =>
     rw[hg]at hb
     cases hk:nY d'.ks m with
     | false=>rfl
     | true=>rw[Xk h hm hk]at hb; cases hb
   rw[this,cond_false]
   exact cZ.find_eq r g h hm hf
 | (g',.p d')::r,g,l,m,d,h,hm,hf=>by
  simp only[cZ.find,FnE.fits]at hf ⊢
  cases hb:Nat.beq g' g&&nY d'.ks l with
  | true=>grind
  | false =>
   rw[hb,cond_false]at hf
   have:(Nat.beq g' g&&nY d'.ks m)=false:=by
    cases hg:Nat.beq g' g with
    | false=>rfl
    | true =>
     rw[hg]at hb
     cases hk:nY d'.ks m with
     | false=>rfl
     | true=>rw[Xk h hm hk]at hb; cases hb
   rw[this,cond_false]
   exact cZ.find_eq r g h hm hf
theorem cZ.Q7:∀ {t:cZ} {g:Nat} {l:List D} {d:FnE},t.find g l=some d->(g,d)∈t
 | [],_,_,_,h=>by cases h
 | (g',d')::r,g,l,d,h=>by
  simp only[cZ.find]at h
  cases hb:Nat.beq g' g&&d'.fits l with
  | true =>
   rw[hb,cond_true]at h
   cases h
   simp only[Bool.and_eq_true]at hb
   rw[Nat.eq_of_beq_eq_true hb.1]
   simp
  | false=>rw[hb,cond_false]at h; exact List.mem_cons_of_mem _ (cZ.Q7 h)
def zC(P:Program)(g:Nat)(d:C4):Prop:=∀ (κ:KS) (x:jP d.ps) (zy:List Value) (y:GF d.rs),κ.st=[]->(d.F x).leads y->Inv κ->qE κ (X4 d.ps x) zy ->
 uD P g zy.toArray κ.w λe w'=>∃ κ':KS,κ'.w=w'/\κ'.st=[]/\Inv κ'/\Ext κ κ'/\wv κ' (.ret (Zc d.rs y)) e
def Dq(P:Program)(g:Nat):FnE->Prop
 | .d d=>zC P g d
 | .s d=>xX P g d
 | .p d=>kH P g d
def yc(P:Program)(t:cZ):Prop:=∀ p∈t,Dq P p.1 p.2
theorem Nk(P:Program):yc P []:=by nofun
theorem HP{P:Program}{g:Nat}{d:FnE}{t:cZ}(h:Dq P g d)(ht:yc P t):yc P ((g,d)::t):=by
 intro p hp
 rcases List.mem_cons.1 hp with rfl | hp
 ·exact h
 ·exact ht p hp
theorem E9{P:Program}{g:Nat}{d:C4}{t:cZ}(h:zC P g d)(ht:yc P t):yc P ((g,.d d)::t):=HP (d:=.d d) h ht
theorem Co{P:Program}{g:Nat}{d:jZ}{t:cZ}(h:xX P g d)(ht:yc P t):yc P ((g,.s d)::t):=HP (d:=.s d) h ht
theorem Dz{P:Program}{g:Nat}{d:iB}{t:cZ}(h:kH P g d)(ht:yc P t):yc P ((g,.p d)::t):=HP (d:=.p d) h ht
theorem C4.snd{P:Program}{g:Nat}{d:C4}(h:zC P g d):Bb P g d.S:=by
 intro κ args zy rs zt hl hI ha
 unfold C4.S at hl
 split at hl
 ·rename_i xK
  obtain⟨x,h1,h2⟩:=T.zd.1 hl
  obtain⟨y,h3,h4⟩:=T.zd.1 h2
  cases h4
  exact h κ x zy y xK h3 hI (QX ha (Vl _ _ _ h1))
 ·exact hl.elim
theorem GO{P:Program}{xid:Nat}{tab:cZ}{ro:Nat->Bool}(h:yc P tab):∀ g,Bb (ui P xid tab ro).P g ((ui P xid tab ro).fn g):=by
 intro g κ args zy rs zt hl hI ha
 simp only[ui,cZ.call]at hl
 split at hl
 ·rename_i d hd
  exact C4.snd (h _ (cZ.Q7 hd):Dq P g (.d d)) κ args zy rs zt hl hI ha
 ·rename_i d hd
  exact jZ.snd (h _ (cZ.Q7 hd):Dq P g (.s d)) κ args zy rs zt hl hI ha
 ·rename_i d hd
  exact iB.snd (h _ (cZ.Q7 hd):Dq P g (.p d)) κ args zy rs zt hl hI ha
 ·exact hl.elim
section
variable {P:Program} {xid:Nat} {tab:cZ} {ro:Nat->Bool} {α:Type}
def Mx(c:Ctx)(f:Option D)(args:List (Option D))(st:St)(d:D)(zt:St):Prop :=
 ∃ g caps l,f=some (.qW g caps)/\uy args=some l/\(c.fn (yo g) (jj g l caps) st).leads (.kB d,zt)
def Ip(c:Ctx)(o:Oper)(s:du)(d:D)(zt:St):Prop :=
 (∃ x t e,o.op=.panic x/\uG s.fr x=some d/\d=.iface t e/\zt=s.st) \/
 ∃ f args o5,o.op=.call ⟨.value f,args,o5⟩/\Mx c (uG s.fr f) (args.toList.map (uG s.fr)) s.st d zt
theorem FV{f:Option D}{args:List (Option D)}{st:St}{k:Nat->Option D->St->T α}{kp:D->St->T α}{r:α}(h:(GH tab f args st k kp).leads r) :
  (∃ d zt,(zH (cO (ui P xid tab ro) f args) st).leads (d,zt)/\(k (cO (ui P xid tab ro) f args).kind d zt).leads r) \/
  ∃ d zt,Mx (ui P xid tab ro) f args st d zt/\(kp d zt).leads r:=by
 unfold GH at h
 split at h
 ·rename_i g caps l hl
  unfold z5y at h
  split at h
  ·exact h.elim
  ·rename_i d hd
   have Oq:(ui P xid tab ro).sig (yo g) (jj g l caps)=some ⟨d.ps,d.rs⟩:=by simp only[ui]; rw[hd]
   have TJ:cO (ui P xid tab ro) (some (.qW g caps)) args=hH (ui P xid tab ro) (yo g) ⟨d.ps,d.rs⟩ (jj g l caps):=by simp only[cO,hl,Oq]
   rw[TJ]
   have hfn:∀ {st0:St} (x:jP d.ps) (y:GF d.rs),(BJ st0 d.ps (jj g l caps)).leads x->(d.F x).leads y->((ui P xid tab ro).fn (yo g) (X4 d.ps x) []).leads (.ret (Zc d.rs y),[]):=by
    intro st0 x y hx hy
    simp only[ui,cZ.call]
    rw[cZ.find_eq tab (yo g) (UX _ _ _ hx) (Bx d.ps x) hd]
    exact T.zd.2 ⟨x,Gm [] d.ps x,T.zd.2 ⟨y,hy,rfl⟩⟩
   cases hn : !((jj g l caps).any UT)with
   | true =>
    rw[hn,cond_true]at h
    obtain⟨x,h1,h2⟩:=T.zd.1 h
    obtain⟨y,h3,h4⟩:=T.zd.1 h2
    have hc:hH (ui P xid tab ro) (yo g) ⟨d.ps,d.rs⟩ (jj g l caps)=.val ((nM [] d.ps (jj g l caps)).bind λl=>((ui P xid tab ro).fn (yo g) l []).bind z0F):=by
     unfold hH; rw[hn]; rfl
    rw[hc]
    refine .inl ⟨_,_,T.zd.2 ⟨_,T.zd.2 ⟨_,Vl _ _ _ h1,T.zd.2 ⟨_,hfn x y h1 h3,rfl⟩⟩,rfl⟩,h4⟩
   | false =>
    rw[hn,cond_false]at h
    obtain⟨x,h1,h2⟩:=T.zd.1 h
    obtain⟨y,h3,h4⟩:=T.zd.1 h2
    have hc:hH (ui P xid tab ro) (yo g) ⟨d.ps,d.rs⟩ (jj g l caps)=.rd λst=>(nM st d.ps (jj g l caps)).bind λl=>((ui P xid tab ro).fn (yo g) l []).bind se:=by
     unfold hH; rw[hn]; rfl
    rw[hc]
    cases hs:(Zc d.rs y).all s7 with
    | false=>rw[hs]at h4; exact h4.elim
    | true =>
     rw[hs]at h4
     refine .inl ⟨_,_,T.zd.2 ⟨_,T.zd.2 ⟨_,Vl _ _ _ h1,T.zd.2 ⟨_,hfn x y h1 h3,?_⟩⟩,rfl⟩,h4⟩
     simp only[se,hs,cond_true]
     rfl
  ·rename_i d hd
   have Oq:(ui P xid tab ro).sig (yo g) (jj g l caps)=none:=by simp only[ui]; rw[hd]
   have TJ:cO (ui P xid tab ro) (some (.qW g caps)) args=rk (ui P xid tab ro) (yo g) (jj g l caps):=by simp only[cO,hl,Oq]
   rw[TJ]
   obtain⟨ds,zt,h1,h2⟩:=jZ.Rg h
   refine .inl ⟨_,zt,T.zd.2 ⟨(.ret ds,zt),?_,rfl⟩,h2⟩
   simp only[ui,cZ.call]
   grind
  ·rename_i d hd
   have Oq:(ui P xid tab ro).sig (yo g) (jj g l caps)=none:=by simp only[ui]; rw[hd]
   have TJ:cO (ui P xid tab ro) (some (.qW g caps)) args=rk (ui P xid tab ro) (yo g) (jj g l caps):=by simp only[cO,hl,Oq]
   rw[TJ]
   rcases iB.Rg h with⟨ds,zt,h1,h2⟩ | ⟨p,zt,h1,h2⟩
   ·refine .inl ⟨_,zt,T.zd.2 ⟨(.ret ds,zt),?_,rfl⟩,h2⟩
    simp only[ui,cZ.call]
    grind
   ·refine .inr ⟨p,zt,⟨g,caps,l,rfl,hl,?_⟩,h2⟩
    simp only[ui,cZ.call]
    grind
 ·exact h.elim
theorem mB{o:Oper}{s:du}{k:du->T α}{kp:D->St->T α}{r:α}(h:(rH (ui P xid tab ro) tab n o s k kp).leads r) :
  (∃ s',(hJ (ui P xid tab ro) n o s).leads s'/\(k s').leads r)\/∃ d zt,Ip (ui P xid tab ro) o s d zt/\(kp d zt).leads r:=by
 unfold rH at h
 unfold hJ
 cases hd:vS n o.dst with
 | false=>rw[hd]at h; exact h.elim
 | true =>
  rw[hd,cond_true]at h
  rw[cond_true]
  obtain⟨dst,op,ty,pos,after,guard⟩:=o
  have gen:((zH (nT (ui P xid tab ro) s.kn s.fr ⟨dst,op,ty,pos,after,guard⟩) s.st).bind λr=>k ⟨s.fr.put dst r.1,KD s.kn dst (Kf s.kn op),r.2,(nT (ui P xid tab ro) s.kn s.fr ⟨dst,op,ty,pos,after,guard⟩).kind::s.ks,w7 (ui P xid tab ro) (uG s.fr) s.st ⟨dst,op,ty,pos,after,guard⟩::s.bk⟩).leads r ->
    ∃ s',(let cl:=nT (ui P xid tab ro) s.kn s.fr ⟨dst,op,ty,pos,after,guard⟩; (zH cl s.st).bind λr=>T.ret (⟨s.fr.put dst r.1,KD s.kn dst (Kf s.kn op),r.2,cl.kind::s.ks,w7 (ui P xid tab ro) (uG s.fr) s.st ⟨dst,op,ty,pos,after,guard⟩::s.bk⟩:du)).leads s'/\(k s').leads r:=by
   intro h
   obtain⟨x,h1,h2⟩:=T.zd.1 h
   exact⟨_,T.zd.2 ⟨x,h1,rfl⟩,h2⟩
  cases op with
  | call cl =>
   obtain⟨callee,args,o5⟩:=cl
   cases callee with
   | value f =>
    rcases FV (P:=P) (xid:=xid) (ro:=ro) h with⟨d,zt,h1,h2⟩ | ⟨d,zt,h1,h2⟩
    ·exact .inl ⟨_,T.zd.2 ⟨(d,zt),h1,rfl⟩,h2⟩
    ·exact .inr ⟨d,zt,.inr ⟨f,args,o5,rfl,h1⟩,h2⟩
   | _=>grind
  | panic x =>
   simp only at h
   split at h
   ·rename_i t e hx
    exact .inr ⟨_,_,.inl ⟨x,t,e,rfl,hx,rfl,rfl⟩,h⟩
   ·exact h.elim
  | _=>grind
theorem Oh{ops:Array Oper}{o:Oper}{s:du}{k:du->T α}{kp:D->St->T α}{r:α}(hkn:vA s.kn s.fr.get)(h:(Eb (ui P xid tab ro) tab n ops o s k kp).leads r) :
  (∃ s',(stepG (ui P xid tab ro) n ops o s).leads s'/\(k s').leads r)\/∃ d zt,wb ops s.fr.get o=some true/\Ip (ui P xid tab ro) o s d zt/\(kp d zt).leads r:=by
 obtain⟨dst,op,ty,pos,after,guard⟩:=o
 cases guard with
 | none =>
  rcases mB h with h | ⟨d,zt,h1,h2⟩
  ·exact .inl h
  ·exact .inr ⟨d,zt,rfl,h1,h2⟩
 | some jw =>
  obtain⟨j,want⟩:=jw
  simp only[Eb]at h
  simp only[stepG]
  cases hg:uB ops j with
  | none=>rw[hg]at h; exact h.elim
  | some t =>
   rw[hg]at h
   simp only at h ⊢
   cases hk:s.kn.get t with
   | some b =>
    rw[hk]at h
    simp only at h ⊢
    have hw:wb ops s.fr.get ⟨dst,op,ty,pos,after,some (j,want)⟩=some (b==want):=by simp[wb,hg,hkn t b hk]
    cases hb:b==want with
    | true =>
     rw[hb,cond_true]at h; rw[cond_true]
     rcases mB h with h | ⟨d,zt,h1,h2⟩
     ·grind
     ·grind
    | false =>
     rw[hb,cond_false]at h; rw[cond_false]
     cases hd:vS n dst with
     | true=>rw[hd,cond_true]at h; exact .inl ⟨_,rfl,h⟩
     | false=>rw[hd,cond_false]at h; exact h.elim
   | none =>
    rw[hk]at h
    simp only at h ⊢
    split at h
    ·rename_i x hf
     rw[hf]
     simp only
     have hw:wb ops s.fr.get ⟨dst,op,ty,pos,after,some (j,want)⟩=some (x==want):=by simp[wb,hg,hf]
     cases hd:vS n dst with
     | false=>rw[hd]at h; exact h.elim
     | true =>
      rw[hd,cond_true]at h; rw[cond_true]
      rcases h with⟨hx,h⟩ | ⟨hx,h⟩
      ·subst hx
       cases want with
       | true =>
        rw[cond_true]at h
        rcases mB h with⟨s',h1,h2⟩ | ⟨d,zt,h1,h2⟩
        ·exact .inl ⟨s',.inl ⟨rfl,h1⟩,h2⟩
        ·exact .inr ⟨d,zt,hw,h1,h2⟩
       | false=>rw[cond_false]at h; exact .inl ⟨_,.inl ⟨rfl,rfl⟩,h⟩
      ·subst hx
       cases want with
       | true=>rw[cond_true]at h; exact .inl ⟨_,.inr ⟨rfl,rfl⟩,h⟩
       | false =>
        rw[cond_false]at h
        rcases mB h with⟨s',h1,h2⟩ | ⟨d,zt,h1,h2⟩
        ·exact .inl ⟨s',.inr ⟨rfl,h1⟩,h2⟩
        ·exact .inr ⟨d,zt,hw,h1,h2⟩
    ·rename_i hf
     rw[hf]
     simp only
     cases hd:vS n dst with
     | true=>rw[hd,cond_true]at h; exact .inl ⟨_,rfl,h⟩
     | false=>rw[hd,cond_false]at h; exact h.elim
    ·exact h.elim
def F7(c:Ctx)(n:Nat)(ops:Array Oper)(l:List Oper)(s:du)(d:D)(zt:St):Prop :=
 ∃ pre o post s1,l=pre++o::post/\(iO c n ops pre s).leads s1/\wb ops s1.fr.get o=some true/\Ip c o s1 d zt
theorem tE{ops:Array Oper}:∀ (l:List Oper) {s:du} {k:du->T α} {kp:D->St->T α} {r:α},vA s.kn s.fr.get->(∀ o∈l,∃ i:Nat,ops[i]? = some o)->(Vd (ui P xid tab ro) tab n ops l s k kp).leads r ->
  (∃ s',(iO (ui P xid tab ro) n ops l s).leads s'/\(k s').leads r)\/∃ d zt,F7 (ui P xid tab ro) n ops l s d zt/\(kp d zt).leads r
 | [],s,k,kp,r,_,_,h=>.inl ⟨s,rfl,h⟩
 | o::l,s,k,kp,r,hk,hl,h=>by
  rcases Oh hk h with⟨s1,h1,h2⟩ | ⟨d,zt,h1,h2,h3⟩
  ·obtain⟨i,hi⟩:=hl o List.mem_cons_self
   obtain⟨_,_,hk1,_⟩:=Yx hi hk h1
   rcases tE l hk1 (λo' ho=>hl o' (List.mem_cons_of_mem _ ho)) h2 with⟨s2,h3,h4⟩ | ⟨d,zt,⟨pre,o',post,s2,e,g1,g2,g3⟩,h4⟩
   ·exact .inl ⟨s2,T.zd.2 ⟨s1,h1,h3⟩,h4⟩
   ·exact .inr ⟨d,zt,⟨o::pre,o',post,s2,by grind,T.zd.2 ⟨s1,h1,g1⟩,g2,g3⟩,h4⟩
  ·exact .inr ⟨d,zt,⟨[],o,l,s,rfl,rfl,h1,h2⟩,h3⟩
theorem Kr{ops:Array Oper}{draw:Bool}{fr:Fr}{kn:Kn}{st:St}{k:du->T α}{kp:D->St->T α}{r:α}(hk:vA kn fr.get)(h:(JJ (ui P xid tab ro) tab n ops draw fr kn st k kp).leads r) :
  (∃ s',(bG (ui P xid tab ro) n ops draw fr kn st).leads s'/\(k s').leads r)\/∃ d zt,draw=false/\F7 (ui P xid tab ro) n ops ops.toList ⟨fr,kn,st,[],[]⟩ d zt/\(kp d zt).leads r:=by
 rcases tE _ hk (λo ho=>by obtain⟨i,hi,he⟩:=List.getElem_of_mem ho; exact⟨i,by grind⟩) h with⟨s',h1,h2⟩ | ⟨d,zt,h1,h2⟩
 ·cases hd : !draw||tf ops s'.ks.reverse s'.bk.reverse with
  | false=>rw[hd]at h2; exact h2.elim
  | true =>
   rw[hd,cond_true]at h2
   refine .inl ⟨s',T.zd.2 ⟨s',h1,?_⟩,h2⟩
   rw[hd]; rfl
 ·cases draw with
  | true=>exact h2.elim
  | false=>grind
end
end
end Go.AM
namespace Go.AM
set_option linter.unusedSectionVars false
variable [vX] [K0]
open Go.RowKit
theorem Vo{α β:Type}{f:α->β}{t:T α}{x:α}(h:t.leads x):(BN f t).leads (f x):=by
 induction t with
 | ret a=>exact congrArg f h
 | ite b p q ip iq=>exact fg h (λh=>⟨h.1,ip h.2⟩) (λh=>⟨h.1,iq h.2⟩)
 | zL p t ih=>exact⟨h.1,ih h.2⟩
 | fail=>exact h.elim
theorem Lb:∀ (l:List It) (d:wN l) (t:T (wN l)) (x:wN l),t.leads x->Oa l d t=x
 | [],_,_,_,_=>rfl
 | [_],d,t,x,h=>((T.U1 d t x).1 h).2
 | i::j::r,d,t,x,h=>by
  have h1:=((T.U1 d.1 _ _).1 (Vo (f:=Prod.fst) h)).2
  have h2:=Lb (j::r) d.2 _ _ (Vo (f:=Prod.snd) h)
  show(T.val d.1 (BN Prod.fst t),Oa (j::r) d.2 (BN Prod.snd t))=x
  rw[h1,h2]
  exact rfl
theorem OU{α:Type}(t:T α)(h:t.WG):∃ x,t.leads x:=by
 induction t with
 | ret a=>exact⟨a,rfl⟩
 | ite b p q ip iq =>
  unfold T.WG at h ip iq
  simp only[T.QD]at h
  cases b with
  | true =>
   obtain⟨x,hx⟩:=ip (by grind)
   exact⟨x,.inl ⟨rfl,hx⟩⟩
  | false =>
   obtain⟨x,hx⟩:=iq (by grind)
   exact⟨x,.inr ⟨rfl,hx⟩⟩
 | zL p t ih =>
  unfold T.WG at h ih
  simp only[T.QD]at h
  cases ht:t.QD with
  | none=>rw[ht]at h ih; obtain⟨x,hx⟩:=ih trivial; exact⟨x,h,hx⟩
  | some q=>rw[ht]at h ih; obtain⟨x,hx⟩:=ih h.2; exact⟨x,h.1,hx⟩
 | fail=>exact h.elim
theorem Cy{l:List It}{t:T (wN l)}{x:wN l}(h:(Sr l t).leads x):t.leads x:=by
 unfold Sr at h
 split at h
 ·rename_i d hd
  have key:t.WG->Oa l d t=x->t.leads x:=by
   intro hp hv
   obtain⟨y,hy⟩:=OU t hp
   rw[<- hv,Lb l d t y hy]; exact hy
  split at h
  ·rename_i hn; exact key (by unfold T.WG; rw[hn]; trivial) h
  ·rename_i p hn; exact key (by unfold T.WG; rw[hn]; exact h.1) h.2
 ·exact h.elim
def RIs(ws:List Way)(r:gU ws)(w:Way)(x:w.sh.den):Prop:=∀ {α:Type} (k:Ex->Fr->St->T α),Ln ws r k=k w.ex (w.sh.fr x) (w.sh.st x)
theorem Gx:∀ (ws:List Way) (ex:Ex) (fr:Fr) (st:St) (r:gU ws),(B7 ws ex fr st).leads r->∃ w,w∈ws/\∃ x:w.sh.den,RIs ws r w x/\p8 w.ex ex=true/\(w.sh.un fr st).leads x
 | [],_,_,_,_,h=>h.elim
 | [w],ex,fr,st,r,h=>by
  have h:(bif p8 w.ex ex then w.sh.un fr st else .fail:T w.sh.den).leads r:=h
  cases hs:p8 w.ex ex with
  | false=>rw[hs]at h; exact h.elim
  | true=>rw[hs]at h; exact⟨w,by simp,r,λk=>rfl,hs,h⟩
 | w::v::ws,ex,fr,st,r,h=>by
  have h:(bif p8 w.ex ex then(w.sh.un fr st).bind λx=>T.ret (Sum.inl x:w.sh.den⊕gU (v::ws))else(B7 (v::ws) ex fr st).bind λy=>T.ret (Sum.inr y)).leads r:=h
  cases hs:p8 w.ex ex with
  | true =>
   rw[hs]at h
   obtain⟨x,h1,h2⟩:=T.zd.1 h
   subst h2
   exact⟨w,by simp,x,λk=>rfl,hs,h1⟩
  | false =>
   rw[hs]at h
   obtain⟨y,h1,h2⟩:=T.zd.1 h
   subst h2
   obtain⟨w',k1,x,k2,k3,k4⟩:=Gx (v::ws) ex fr st y h1
   exact⟨w',List.mem_cons_of_mem _ k1,x,λk=>k2 k,k3,k4⟩
def z8U(κ:KS)(n:Nat)(w:Way)(z:w.sh.den)(a:Act)(iu:Exit):Prop:=∀ q,Ct w.ex (w.sh.fr z)=some q->Rel κ n q.2.get a/\CT κ q.1 iu
theorem z0K{κ0 κ:KS}{n:Nat}{a:Act}{w:Way}{z:w.sh.den}{oex:Ex}{ofr:Fr}{iu:Exit}(hx:Ext κ0 κ)(hI:Inv κ)(hR:Rel κ n ofr.get a)(he:CT κ oex iu)(hs:p8 w.ex oex=true)(hl:κ0.st.length<=w.sh.bs.length)
  (h:(w.sh.un (KE oex ofr) κ.st).leads z):∃ κ1:KS,κ1.w=κ.w/\κ1.st=w.sh.st z/\Inv κ1/\Ext κ0 κ1/\z8U κ1 n w z a iu:=by
 have plain:KE oex ofr=ofr->(∀ q,Ct w.ex (w.sh.fr z)=some q->q.2=w.sh.fr z/\∀ κ1:KS,CT κ1 q.1 iu)->∃ κ1:KS,κ1.w=κ.w/\κ1.st=w.sh.st z/\Inv κ1/\Ext κ0 κ1/\z8U κ1 n w z a iu:=by
  intro e1 e2
  rw[e1]at h
  obtain⟨κ1,q1,q2,q3,q4,q5,_⟩:=w.sh.Q8 (n:=n) hx hI hR hl h
  exact⟨κ1,q1,q2,q3,q4,λq hq=>by obtain⟨g1,g2⟩:=e2 q hq; rw[g1]; exact⟨q5,g2 κ1⟩⟩
 cases hw:w.ex with
 | normal =>
  rw[hw]at hs
  cases oex<;>first | (cases hs; done) | skip
  exact plain rfl λq hq=>by rw[hw]at hq; cases hq; exact⟨rfl,λ_=>he⟩
 | ret =>
  rw[hw]at hs
  cases oex<;>first | (cases hs; done) | skip
  exact plain rfl λq hq=>by rw[hw]at hq; cases hq; exact⟨rfl,λ_=>he⟩
 | exit id =>
  rw[hw]at hs
  cases oex<;>first | (cases hs; done) | skip
  rename_i id'
  have:id=id':=Nat.eq_of_beq_eq_true hs
  subst this
  exact plain rfl λq hq=>by rw[hw]at hq; cases hq; exact⟨rfl,λ_=>he⟩
 | kB p =>
  rw[hw]at hs
  cases p<;>first | (cases hs; done) | skip
  rename_i t p
  cases oex<;>first | (cases hs; done) | skip
  rename_i p'
  cases p'<;>first | (cases hs; done) | skip
  rename_i t' d
  have:t=t':=Nat.eq_of_beq_eq_true hs
  subst this
  obtain⟨v,rfl,hv⟩:=he
  cases hv with
  | iface _ _ u hu =>
   have YO:Rel κ 1 (KE (.kB (.iface t d)) ofr).get { tmps := #[u],defers:=K0.df }:=by
    refine⟨rfl,rfl,λs d' hd => ?_⟩
    simp only[KE,Fr.get]at hd
    cases hb:Nat.beq 0 s with
    | true =>
     have:=Nat.eq_of_beq_eq_true hb
     grind
    | false=>grind
   obtain⟨κ1,q1,q2,q3,q4,q5,_⟩:=w.sh.Q8 (n:=1) hx hI YO hl h
   refine⟨κ1,q1,q2,q3,q4,λq hq => ?_⟩
   rw[hw]at hq
   simp only[Ct]at hq
   split at hq
   ·rename_i d' kN
    cases hq
    obtain⟨v',g1,g2⟩:=q5.get 0 d' kN
    cases g1
    exact⟨⟨hR.size,hR.defers,λs d hd=>by cases hd⟩,_,rfl,.iface t d' _ g2⟩
   ·cases hq
theorem iX(st:St):∀ (bs:List Bk) (bd:List Bd),(vy st bs bd).length<=bs.length
 | [],_=>by simp[vy]
 | .arr _::r,[]=>by simp[vy]
 | .arr _::r,.v _ _::_=>by simp[vy]
 | .arr _::r,.a _ _::d=>by have:=iX st r d; simp[vy]; exact this
 | .var _::r,[]=>by simp[vy]
 | .var _::r,.a _ _::_=>by simp[vy]
 | .var _::r,.v _ _::d=>by have:=iX st r d; simp[vy]; exact this
 | .cvar _::r,d=>by have:=iX st r d; cases d<;>(simp[vy]; exact this)
 | .dead::r,d=>by have:=iX st r d; cases d<;>(simp[vy]; exact this)
theorem vU.Z3(s:vU)(x:s.den):(s.st x).length<=s.bs.length:=iX _ _ _
theorem XX{l m:Fr}{s:Nat}{d:D}(h:(l++m).get s=some d):l.get s=some d\/m.get s=some d:=by
 induction l with
 | nil=>grind
 | cons p r ih =>
  simp only[List.cons_append,Fr.get]at h ⊢
  grind
theorem Ol{l:List Nat}{fr:Fr}{s:Nat}{d:D}(h:(cP l++fr).get s=some d):s ∉ l/\fr.get s=some d:=by
 induction l with
 | nil=>exact⟨by simp,h⟩
 | cons t r ih =>
  simp only[cP,List.map_cons,List.cons_append,Fr.get]at h
  cases ht:Nat.beq t s with
  | true=>grind
  | false =>
   rw[ht,cond_false]at h
   obtain⟨h1,h2⟩:=ih h
   refine⟨?_,h2⟩
   simp
   exact⟨λe=>by subst e; simp at ht,h1⟩
theorem ZR{o:Oper}{s:Nat}:∀ {l:List Oper},o∈l->o.dst=some s->s∈dstsOf l
 | p::r,h,hs=>by
  simp only[dstsOf]
  rcases List.mem_cons.1 h with rfl | h
  ·grind
  ·split
   ·exact List.mem_cons_of_mem _ (ZR h hs)
   ·exact ZR h hs
def Kept(code:Code)(a a':Act):Prop:=∀ s:Nat,s ∉ qj code->a'.tmps[s]? = a.tmps[s]?
section
variable {P:Program} {xid:Nat} {tab:cZ} {ro:Nat->Bool} {n:Nat} {H:Hints}
theorem rR{κ κ':KS}{fr out:Fr}{a a':Act}{ws:List Nat}(hR:Rel κ n fr.get a)(hx:Ext κ κ')(ho:Rel κ' n out.get a')(hk:∀ s:Nat,s ∉ ws->a'.tmps[s]? = a.tmps[s]?):Rel κ' n (out++(cP ws++fr)).get a':=by
 refine⟨ho.size,ho.defers,λs d hd => ?_⟩
 rcases XX hd with h | h
 ·exact ho.get s d h
 ·obtain⟨h1,h2⟩:=Ol h
  obtain⟨v,g1,g2⟩:=hR.get s d h2
  exact⟨v,(hk s h1).trans g1,g2.mono hx⟩
theorem GY{c:Ctx}{ops:Array Oper}:∀ (l:List Oper) (s s':du),(iO c n ops l s).leads s'->quiet s'.ks=true->s'.st=s.st/\quiet s.ks=true:=by
 have hq:∀ {k:Nat} {ks:List Nat},quiet (k::ks)=true->Nat.beq k 2=false/\quiet ks=true:=by
  intro k ks h
  simp only[quiet,List.all_cons,Bool.and_eq_true,Bool.not_eq_true']at h
  exact⟨h.1,by unfold quiet; exact h.2⟩
 have one:∀ (o:Oper) (s s1:du),(hJ c n o s).leads s1->quiet s1.ks=true->s1.st=s.st/\quiet s.ks=true:=by
  intro o s s1 h hk
  unfold hJ at h
  cases hd:vS n o.dst with
  | false=>rw[hd]at h; exact h.elim
  | true =>
   rw[hd,cond_true]at h
   obtain⟨r,h1,h2⟩:=T.zd.1 h
   cases h2
   obtain⟨g1,g2⟩:=hq hk
   refine⟨?_,g2⟩
   show r.2=s.st
   generalize nT c s.kn s.fr o=cl at h1 g1
   cases cl with
   | val t=>obtain⟨d,_,h3⟩:=T.zd.1 h1; cases h3; rfl
   | rd k=>obtain⟨d,_,h3⟩:=T.zd.1 h1; cases h3; rfl
   | wr k=>cases g1
 have skp:∀ (o:Oper) (s:du),quiet (jd o s).ks=true->(jd o s).st=s.st/\quiet s.ks=true:=λo s h=>⟨rfl,(hq h).2⟩
 have gd:∀ (o:Oper) (s s1:du),(stepG c n ops o s).leads s1->quiet s1.ks=true->s1.st=s.st/\quiet s.ks=true:=by
  intro o s s1 h hk
  obtain⟨dst,op,ty,pos,after,guard⟩:=o
  cases guard with
  | none=>exact one _ s s1 h hk
  | some jw =>
   obtain⟨j,want⟩:=jw
   simp only[stepG]at h
   cases hg:uB ops j with
   | none=>rw[hg]at h; exact h.elim
   | some t =>
    rw[hg]at h
    simp only at h
    cases hkn:s.kn.get t with
    | some b =>
     rw[hkn]at h
     simp only at h
     cases hb:b==want with
     | true=>grind
     | false =>
      rw[hb,cond_false]at h
      cases hd:vS n dst with
      | false=>rw[hd]at h; exact h.elim
      | true=>rw[hd,cond_true]at h; cases h; exact skp _ s hk
    | none =>
     rw[hkn]at h
     simp only at h
     split at h
     ·cases hd:vS n dst with
      | false=>rw[hd]at h; exact h.elim
      | true =>
       rw[hd,cond_true]at h
       rcases h with⟨_,h⟩ | ⟨_,h⟩
       ·cases want with
        | true=>rw[cond_true]at h; exact one _ (s.ba t true) s1 h hk
        | false=>rw[cond_false]at h; cases h; exact skp _ (s.ba t true) hk
       ·cases want with
        | true=>rw[cond_true]at h; cases h; exact skp _ (s.ba t false) hk
        | false=>rw[cond_false]at h; exact one _ (s.ba t false) s1 h hk
     ·cases hd:vS n dst with
      | false=>rw[hd]at h; exact h.elim
      | true=>rw[hd,cond_true]at h; cases h; exact skp _ s hk
     ·exact h.elim
 intro l
 induction l with
 | nil=>intro s s' h hk; cases h; exact⟨rfl,hk⟩
 | cons o l ih =>
  intro s s' h hk
  obtain⟨s1,h1,h2⟩:=T.zd.1 h
  obtain⟨g1,g2⟩:=ih s1 s' h2 hk
  obtain⟨k1,k2⟩:=gd o s s1 h1 g2
  exact⟨g1.trans k1,k2⟩
theorem Ba{c:Ctx}{ops:Array Oper}{draw:Bool}{fr:Fr}{kn:Kn}{st:St}{s':du}(h:(bG c n ops draw fr kn st).leads s')(hq:quiet s'.ks=true):s'.st=st:=by
 obtain⟨s1,h1,h2⟩:=T.zd.1 h
 cases hd:(!draw||tf ops s1.ks.reverse s1.bk.reverse)with
 | false=>rw[hd]at h2; exact h2.elim
 | true=>rw[hd,cond_true]at h2; cases h2; exact(GY _ _ _ h1 hq).1
theorem z07{c:Ctx}{κ:KS}{a:Act}{o:Oper}{g:Nat}{args:Array Value}{R:Ending->World->Prop}(vK:(execOp a.eval o).run c.P κ.w=(callFunc g args).run c.P κ.w)
  (h:uD c.P g args κ.w R) {K:Act->World->Prop} {Q:Exit->Act->World->Prop} (hR:∀ e w',R e w'->∃ ch,e=.panicked ch/\Q (.panic ch) a w'):o.wp c.P a κ.w K Q:=by
 unfold Oper.wp
 rw[vK]
 rcases h with⟨h1,h2⟩ | ⟨v,w',h1,h2⟩
 ·rw[h1]
  refine h2.mono λe w' he => ?_
  grind
 ·grind
theorem Se{c:Ctx}{κ:KS}{n:Nat}{a:Act}{o:Oper}{s:du}{d:D}{zt:St}(hC:∀ g,Bb c.P g (c.fn g))(hI:Inv κ)(hR:Rel κ n s.fr.get a)(xK:κ.st=s.st)(h:Ip c o s d zt){K:Act->World->Prop}{Q:Exit->Act->World->Prop}
  (hQ:∀ (v:Value) (κ':KS),κ'.st=zt->Inv κ'->Ext κ κ'->RD κ' d v->Q (.panic [{ v,recovered:=false }]) a κ'.w):o.wp c.P a κ.w K Q:=by
 have fE:∀ (x:Operand) (z:D),uG s.fr x=some z->RD κ z (a.eval x):=λx z hz=>hR.eval (by rw[<- gT]; exact hz)
 obtain⟨dst,op,ty,pos,after,guard⟩:=o
 rcases h with⟨x,t,e,rfl,hx,rfl,rfl⟩ | ⟨f,args,o5,rfl,g,caps,l,hp,hl,hc⟩
 ·have hv:=fE x _ hx
  generalize DO:a.eval x=pv at hv
  cases hv with
  | iface _ _ u hu =>
   have vK:(execOp a.eval ⟨dst,.panic x,ty,pos,after,guard⟩).run c.P κ.w=.halt (.panic (.iface t u)) κ.w:=by
    simp[execOp,DO,Instr.panic]
   unfold Oper.wp
   rw[vK]
   exact hQ _ κ xK hI (Ext.refl κ) (.iface t e u hu)
 ·have hpv:=fE f _ hp
  have hr:=yQ (κ:=κ) (vs:=args.toList.map a.eval) hl (by simp) (λi d v hd hv=>by
      simp only[List.getElem?_map]at hd hv
      cases hi:args.toList[i]? with
      | none=>grind
      | some x=>rw[hi]at hd hv; simp at hd hv; subst hv; exact fE x d hd)
  generalize DO:a.eval f=pv at hpv
  cases hpv with
  | qW _ _ us fy hh2 =>
   have o8:=Jw g hr (⟨fy,hh2⟩:qE κ caps us)
   rw[<- xK]at hc
   refine z07 (c:=c) (κ:=κ) (g:=yo g) (args:=(jj g (args.toList.map a.eval) us).toArray) ?_ (hC (yo g) κ _ _ _ _ hc hI o8) ?_
   ·exact BA DO
   ·rintro e w' ⟨κ',rfl,h1,h2,h3,v,rfl,h4⟩
    grind
theorem OA{c:Ctx}{κ:KS}{n:Nat}{a:Act}{id:Nat}{ops:Array Oper}{fr:Fr}{kn:Kn}{d:D}{zt:St}(hC:∀ g,Bb c.P g (c.fn g))(hI:Inv κ)(hR:Rel κ n fr.get a)(hk:vA kn fr.get)
  (h:F7 c n ops ops.toList ⟨fr,kn,κ.st,[],[]⟩ d zt) {Q:Exit->Act->World->Prop}
  (hQ:∀ (v:Value) (a':Act) (κ':KS),κ'.st=zt->Inv κ'->Ext κ κ'->Rel κ' n (Fr.get []) a'->dX ops a a'->RD κ' d v->Q (.panic [{ v,recovered:=false }]) a' κ'.w):(Code.region id ops false).wp c.P Q a κ.w:=by
 obtain⟨pre,o,post,s1,e,h1,h2,h3⟩:=h
 have N7:∀ j:Nat,ops[j]? = (pre++o::post)[j]? := λj=>by rw[<- e]; simp
 obtain⟨ks,g1,g2,_⟩:=ff pre 0 ⟨fr,kn,κ.st,[],[]⟩ s1 (λj=>by
  by_cases hj:j<pre.length
  ·grind
  ·right; omega) hk h1
 have uH:List.range ops.size=List.range' 0 pre.length++pre.length::List.range' (pre.length+1) post.length:=by
  have:ops.size=pre.length+(post.length+1):=by rw[<- Array.length_toList,e]; simp
  rw[this,List.range_eq_range',<- List.range'_append_1,Nat.zero_add,List.range'_succ]
 refine wp_region ?_
 rw[uH]
 refine QV hC _ _ hI hR rfl g1 λa' κ' e1 e2 e3 e4 e5 => ?_
 rw[wpOps_cons]
 unfold wpOp
 have ho:ops[pre.length]? = some o:=by rw[N7]; simp
 rw[ho]
 simp only
 rw[if_pos (lT e4 h2)]
 exact .inl (Se hC e2 e4 e1 h3 λv Nf f1 f2 f3 f4=>hQ v a' Nf f1 f2 (e3.trans f3) ⟨e4.size,e4.defers,λs d hd=>by cases hd⟩ e5 f4)
def QN(P:Program)(n:Nat)(l:zT)(b:Code):Prop:=∀ (κ:KS) (a:Act) (p:wN l.ps) (s:l.sh.den) (r:gU l.ws),(l.F p s).leads r->κ.st=l.sh.st s->Inv κ ->
 Rel κ n (l.sh.fr s).get a->Rel κ n (eV (l.sh.st s) l.ps p).get a->EW l.ps (qj b)=true->(∀ w∈l.ws,l.sh.bs.length<=w.sh.bs.length) ->
 ∀ Q:Exit->Act->World->Prop,(∀ (w:Way) (x:w.sh.den) (iu:Exit) (a':Act) (κ':KS),w∈l.ws->RIs l.ws r w x->κ'.st=w.sh.st x->Inv κ'->Ext κ κ'->z8U κ' n w x a' iu->Kept b a a'->Q iu a' κ'.w) ->
  (Code.loop b).wp P Q a κ.w
def uk(P:Program)(n:Nat)(H:Hints)(code:Code):Prop:=∀ p∈xl code,∀ l,H.loop p.1=some l->QN P n l p.2
theorem PK{kn:Kn}:∀ (l:List Nat) {fr:Fr} {st:St} {r:Fr×St},(frz l fr st).leads r->vA kn fr.get->vA kn r.1.get
 | [],fr,st,r,h,hk=>by cases h; exact hk
 | s::l,fr,st,r,h,hk=>by
  obtain⟨x,h1,h2⟩:=T.zd.1 h
  refine PK l h2 λt b hb => ?_
  have hf:=hk t b hb
  unfold z2f at h1
  cases hW:Nat.ble 1000000 s with
  | true =>
   rw[hW,cond_true]at h1
   have hfr:x.1=fr:=by
    unfold z2u at h1
    split at h1
    ·split at h1
     ·split at h1
      ·split at h1
       ·obtain⟨_,h1⟩:=h1; cases h1; rfl
       ·exact h1.elim
      ·exact h1.elim
     ·cases h1; rfl
    ·cases h1; rfl
   grind
  | false =>
  rw[hW,cond_false]at h1
  unfold z2Z at h1
  split at h1
  ·rename_i b' qA e off len hs
   split at h1
   ·split at h1
    ·obtain⟨_,h1⟩:=h1
     cases h1
     simp only[Fr.get]
     cases ht:Nat.beq s t with
     | true=>rw[<- Nat.eq_of_beq_eq_true ht,hs]at hf; cases hf
     | false=>grind
    ·exact h1.elim
   ·exact h1.elim
  ·cases h1; exact hf
theorem SM{c:Ctx}{t e:Nat}(hu:c.P.underlying t=some (.slice e)){op:BinOp}{b:Bool}(hop:Ta op=some b)(px py:Operand)(w:World)(x:Option Addr)(l k:Nat) :
  (do eqGuard op t px py (.slice x l k) (.slice none 0 0); binOp op t (.slice x l k) (.slice none 0 0):Sem Value).run c.P w=.ok (.bool (if b=true then x.isNone else !x.isNone)) w:=by
 cases op<;>simp only[Ta]at hop<;>cases hop
 ·have:=run_eql_slice_nil (P:=c.P) w t e x l k hu
  simp only[eqGuard]
  simpa using this
 ·have:=run_neq_slice_nil (P:=c.P) w t e x l k hu
  simp only[eqGuard]
  simpa using this
theorem EU{ops:Array Oper}{fr:Fr}{p:zbb}(hp:H9 (ui P xid tab ro) n ops fr=some p){κ:KS}{a:Act}{kn:Kn}(hI:Inv κ)(hR:Rel κ n fr.get a)(hk:vA kn fr.get){id:Nat}(Q:Exit->Act->World->Prop)
  (hQ:∀ a':Act,Kept (.region id ops false) a a' ->
   ((p.l=[]/\Rel κ n (Fr.get ((p.c,some (.zI .bool p.eq))::(p.m,some .xr)::(p.s,some .xr)::fr)) a')\/Rel κ n (Fr.get ((p.c,some (.zI .bool (!p.eq)))::(p.m,some (.zI (.sl p.e) p.l))::fr)) a')->Q .normal a' κ.w) :
  (Code.region id ops false).wp P Q a κ.w:=by
 unfold H9 at hp
 split at hp
 ·rename_i o1 o2 hops
  split at hp
  ·rename_i m s Fb Po hg1
   split at hp
   ·rename_i cc op t m' y ty' hd2 ho2 hg2
    split at hp
    ·rename_i b e l et hop hs hel
     cases hc:Nat.beq m m'&&EH y&&Nat.blt m n&&Nat.blt cc n with
     | false=>grind
     | true =>
      rw[hc,cond_true]at hp
      cases hp
      simp only[Bool.and_eq_true]at hc
      obtain⟨⟨⟨hmm,hy⟩,hmn⟩,hcn⟩:=hc
      have:=Nat.eq_of_beq_eq_true hmm
      subst this
      have hy':y=.const (.slice none 0 0):=by
       unfold EH at hy
       grind
      subst hy'
      obtain⟨v,hv,kN⟩:=hR.get s _ hs
      obtain⟨x,k,hvs⟩:∃ (x:Option Addr) (k:Nat),v=.slice x l.length k/\(x=none->l=[]/\k=0):=by
       rcases(kN.vi rfl).Xf with⟨rfl,a0,he⟩ | ⟨blk,off,cap,f,he,wg,vc,h1,h2⟩
       ·grind
       ·grind
      obtain⟨rfl,hvn⟩:=hvs
      have uH:ops.size=2:=by rw[<- Array.length_toList,hops]; rfl
      have e0:ops[0]? = some o1:=by rw[<- Array.getElem?_toList,hops]; rfl
      have e1:ops[1]? = some o2:=by rw[<- Array.getElem?_toList,hops]; rfl
      have zfe:m<n:=Nat.le_of_ble_eq_true hmn
      have zkc:cc<n:=Nat.le_of_ble_eq_true hcn
      have hsl:a.tmps.getD s undef=.slice x l.length k:=by simp[Array.getD_eq_getD_getElem?,hv]
      have wan:∀ (o:Oper) (ys:Nat->Option Value),o.guard=none->True:=λ_ _ _=>trivial
      refine wp_region ?_
      rw[uH,show List.range 2=[0,1]from rfl,wpOps_cons]
      unfold wpOp
      rw[e0]
      simp only
      rw[if_pos (by unfold Region.wanted; rw[hg1])]
      refine .inl ?_
      obtain⟨d1,op1,ty1,z7N,af1,gu1⟩:=o1
      obtain⟨d2,op2,Gc,z4y,af2,gu2⟩:=o2
      simp only at Fb Po hg1 hd2 ho2 hg2
      subst Fb Po hg1 hd2 ho2 hg2
      have hx1:(execOp a.eval ⟨some m,.move (.tmp s),ty1,z7N,af1,none⟩).run P κ.w=.ok (.value (.slice x l.length k)) κ.w:=by
       simp[execOp,Act.eval,hsl]
      unfold Oper.wp
      rw[hx1,Oper.upon_value,wpOps_cons]
      unfold wpOp
      rw[e1]
      simp only
      rw[if_pos (by unfold Region.wanted; rfl)]
      refine .inl ?_
      have fE:(a.put (some m) (.slice x l.length k)).eval (.tmp m)=.slice x l.length k:=by
       have:=hR.size
       simp[Act.eval,Act.put,Array.getD_eq_getD_getElem?,Array.getElem?_setIfInBounds,this,zfe]
      have hu:=uq hel
      have vK:=SM (c:=ui P xid tab ro) hu hop (.tmp m) (.const (.slice none 0 0)) κ.w x l.length k
      have FI:(execOp (a.put (some m) (.slice x l.length k)).eval ⟨some cc,.binOp op t (.tmp m) (.const (.slice none 0 0)) ty',Gc,z4y,af2,none⟩).run P κ.w=.ok (.value (.bool (if b=true then x.isNone else !x.isNone))) κ.w:=by
       have hex:execOp (a.put (some m) (.slice x l.length k)).eval ⟨some cc,.binOp op t (.tmp m) (.const (.slice none 0 0)) ty',Gc,z4y,af2,none⟩ =
        (do Pure.pure (.value (<- (do eqGuard op t (.tmp m) (.const (.slice none 0 0)) ((a.put (some m) (.slice x l.length k)).eval (.tmp m)) (.slice none 0 0); binOp op t ((a.put (some m) (.slice x l.length k)).eval (.tmp m)) (.slice none 0 0))))):=rfl
       rw[hex,fE,Sem.run_bind]
       rw[show(do eqGuard op t (.tmp m) (.const (.slice none 0 0)) (.slice x l.length k) (.slice none 0 0); binOp op t (.slice x l.length k) (.slice none 0 0):Sem Value).run P κ.w=_ from vK]
       rfl
      unfold Oper.wp
      rw[FI,Oper.upon_value]
      have zaG:∀ (q:Nat) (u:Value) (a1:Act) (t:Nat),(a1.put (some q) u).tmps[t]? = if q=t then(if q<a1.tmps.size then some u else none)else a1.tmps[t]? := by
       intro q u a1 t
       simp only[Act.put,Array.getElem?_setIfInBounds]
      have hs1:(a.put (some m) (.slice x l.length k)).tmps.size=n:=by simp[Act.put,hR.size]
      have hs2:((a.put (some m) (.slice x l.length k)).put (some cc) (.bool (if b=true then x.isNone else !x.isNone))).tmps.size=n:=by simp[Act.put,hR.size]
      refine hQ _ (λt ht => ?_) ?_
      ·have hw:qj (.region id ops false)=[m,cc]:=by simp only[qj,hops,dstsOf]
       grind
      ·have get:∀ (t:Nat),((a.put (some m) (.slice x l.length k)).put (some cc) (.bool (if b=true then x.isNone else !x.isNone))).tmps[t]? = if cc=t then some (.bool (if b=true then x.isNone else !x.isNone))else if m=t then some (.slice x l.length k)else a.tmps[t]? := by
        grind
       have z1j:∀ {i j:Nat},Nat.beq i j=false->i≠j:=λh e=>by subst e; simp at h
       cases x with
       | none =>
        obtain⟨hl,HZ⟩:=hvn rfl
        subst hl HZ
        refine .inl ⟨rfl,hs2,hR.defers,λt d hd => ?_⟩
        rw[get]
        simp only[Fr.get]at hd
        cases h1:Nat.beq cc t with
        | true =>
         rw[h1,cond_true]at hd; cases hd
         rw[if_pos (Nat.eq_of_beq_eq_true h1)]
         refine⟨_,rfl,?_⟩
         cases b<;>exact .bool
        | false =>
         rw[h1,cond_false]at hd
         rw[if_neg (z1j h1)]
         cases h2:Nat.beq m t with
         | true=>rw[h2,cond_true]at hd; cases hd; rw[if_pos (Nat.eq_of_beq_eq_true h2)]; exact⟨_,rfl,.xr⟩
         | false =>
          rw[h2,cond_false]at hd
          rw[if_neg (z1j h2)]
          cases h3:Nat.beq s t with
          | true=>rw[h3,cond_true]at hd; cases hd; rw[<- Nat.eq_of_beq_eq_true h3]; exact⟨_,hv,.xr⟩
          | false=>rw[h3,cond_false]at hd; exact hR.get t d hd
       | some x =>
        refine .inr ⟨hs2,hR.defers,λt d hd => ?_⟩
        rw[get]
        simp only[Fr.get]at hd
        cases h1:Nat.beq cc t with
        | true =>
         rw[h1,cond_true]at hd; cases hd
         rw[if_pos (Nat.eq_of_beq_eq_true h1)]
         refine⟨_,rfl,?_⟩
         cases b<;>exact .bool
        | false =>
         rw[h1,cond_false]at hd
         rw[if_neg (z1j h1)]
         cases h2:Nat.beq m t with
         | true=>rw[h2,cond_true]at hd; cases hd; rw[if_pos (Nat.eq_of_beq_eq_true h2)]; exact⟨_,rfl,kN⟩
         | false=>rw[h2,cond_false]at hd; rw[if_neg (z1j h2)]; exact hR.get t d hd
    ·cases hp
   ·cases hp
  ·cases hp
 ·cases hp
theorem N4{id:Nat}{b:Code}(hb:∀ b',b≠.loop b')(fr:Fr)(kn:Kn)(st:St){α:Type}(k:FO->T α):Z7 (ui P xid tab ro) tab n H (.block id b) fr kn st k=Z7 (ui P xid tab ro) tab n H b fr kn st λr=>match r.ex with
  | .exit id'=>bif Nat.beq id' id then k { r with ex:=.normal } else k r
  | _=>k r:=by
 cases b<;>first | rfl | exact absurd rfl (hb _)
theorem oL(hm:(ui P xid tab ro).P.follows .mixedOrders=true)(hT:yc P tab):∀ (code:Code),uk P n H code->∀ {fr:Fr} {kn:Kn} {κ:KS} {a:Act} {α:Type} {k:FO->T α} {r:α},
  (Z7 (ui P xid tab ro) tab n H code fr kn κ.st k).leads r->Inv κ->Rel κ n fr.get a->vA kn fr.get ->
  ∀ Q:Exit->Act->World->Prop,(∀ (o:FO) (iu:Exit) (a':Act) (κ':KS),(k o).leads r->κ'.st=o.st->Inv κ'->Ext κ κ'->Rel κ' n o.fr.get a'->vA o.kn o.fr.get->Kept code a a'->(o.q=true->o.st=κ.st)->CT κ' o.ex iu->Q iu a' κ'.w) ->
   code.wp P Q a κ.w:=by
 intro code
 induction code with
 | skip=>intro _ fr kn κ a α k r h hI hR hk Q hQ; exact wp_skip (hQ _ _ a κ h rfl hI (Ext.refl κ) hR hk (λ_ _=>rfl) (λ_=>rfl) rfl)
 | exit id=>intro _ fr kn κ a α k r h hI hR hk Q hQ; exact wp_exit (hQ _ _ a κ h rfl hI (Ext.refl κ) hR hk (λ_ _=>rfl) (λ_=>rfl) rfl)
 | ret=>intro _ fr kn κ a α k r h hI hR hk Q hQ; exact wp_ret (hQ _ _ a κ h rfl hI (Ext.refl κ) hR hk (λ_ _=>rfl) (λ_=>rfl) rfl)
 | region id ops draw =>
  intro _ fr kn κ a α k r h hI hR hk Q hQ
  simp only[Z7]at h
  obtain⟨z,h0,h⟩:=T.zd.1 h
  obtain⟨κ0,w1,w2,w3,w4,w5⟩:=z0o _ h0 hI hR
  have HZ:=PK _ h0 hk
  rcases Kr HZ h with⟨s,h1,h2⟩ | ⟨d,zt,rfl,h1,h2⟩
  rotate_left
  ·rw[<- w2]at h1
   rw[<- w1]
   exact OA (GO hT) w3 w5 HZ h1 λv a' κ' e1 e2 e3 e4 e5 e6=>hQ ⟨.kB d,[],[],zt,false⟩ _ a' κ' h2 e1 e2 (w4.trans e3) e4 (cq _) (λt ht=>e5 t λo ho he=>ht (ZR ho he)) (λhq=>by cases hq) ⟨v,rfl,e6⟩
  rw[<- w2]at h1
  have Gy:=O0 HZ h1
  rw[<- w1]
  refine(NQ hm (GO hT) w3 w5 HZ h1 λa' κ' e1 e2 e3 e4 e5=>hQ ⟨.normal,s.fr,s.kn,s.st,quiet s.ks&&(H.frz id).isEmpty⟩ _ a' κ' h2 e1 e2 (w4.trans e3) e4 Gy (λt ht=>e5 t λo ho he=>ht (ZR ho he)) (λhq => ?_) rfl).1
  simp only[Bool.and_eq_true]at hq
  have he:H.frz id=[]:=List.isEmpty_iff.1 hq.2
  rw[he]at h0
  cases h0
  exact(Ba h1 hq.1).trans w2
 | seq x y ix iy =>
  intro hl fr kn κ a α k r h hI hR hk Q hQ
  have hlx:uk P n H x:=λp hp=>hl p (by simp only[xl,List.mem_append]; exact .inl hp)
  have hly:uk P n H y:=λp hp=>hl p (by simp only[xl,List.mem_append]; exact .inr hp)
  have kx:∀ {a a':Act},Kept x a a'->Kept (.seq x y) a a':=λh s hs=>h s λe=>hs (by simp only[qj,List.mem_append]; exact .inl e)
  have ky:∀ {a a':Act},Kept y a a'->Kept (.seq x y) a a':=λh s hs=>h s λe=>hs (by simp only[qj,List.mem_append]; exact .inr e)
  simp only[Z7]at h
  split at h
  ·refine wp_seq (ix hlx h hI hR hk _ λo iu a' κ' e0 e1 e2 e3 e4 OZ e5 e5q e6 => ?_)
   cases hex:o.ex<;>rw[hex]at e0 e6<;>simp only at e0
   ·cases e6
    refine iy hly (κ:=κ') (e1▸e0) e2 e4 OZ Q λo' B6 a'' Nf f0 f1 f2 f3 f4 Ga f5 DV f6=>hQ { o' with q:=o.q&&o'.q } B6 a'' Nf f0 f1 f2 (e3.trans f3) f4 Ga (λs hs=>(ky f5 s hs).trans (kx e5 s hs)) ?_ f6
    grind
   ·cases e6; exact hQ o _ a' κ' e0 e1 e2 e3 e4 OZ (kx e5) e5q (by rw[hex]; rfl)
   ·cases e6; exact hQ o _ a' κ' e0 e1 e2 e3 e4 OZ (kx e5) e5q (by rw[hex]; rfl)
   ·obtain⟨v,rfl,hv⟩:=e6
    exact hQ o _ a' κ' e0 e1 e2 e3 e4 OZ (kx e5) e5q (by rw[hex]; exact⟨v,rfl,hv⟩)
  ·rename_i ob hcu
   cases hw:Yu ob with
   | false=>rw[hw]at h; exact h.elim
   | true =>
    rw[hw,cond_true]at h
    obtain⟨z,h1,h2⟩:=T.zd.1 h
    have h1:=Cy h1
    refine wp_seq (ix hlx h1 hI hR hk _ λo iu a' κ' e0 e1 e2 e3 e4 OZ e5 e5q e6 => ?_)
    cases hex:o.ex<;>rw[hex]at e0 e6<;>simp only at e0
    ·cases e6
     cases hq:o.q with
     | false=>rw[hq]at e0; exact e0.elim
     | true =>
      rw[hq,cond_true]at e0
      have xK:o.st=κ.st:=e5q hq
      have hRz:Rel κ' n (eV κ.st ob z).get a':=by
       refine⟨e4.size,e4.defers,λt d hd => ?_⟩
       obtain⟨k',y',d0,g0,g1,g2,g3⟩:=(Ql (p:=λ_=>true) (zt:=κ.st) ob [] z (λ_ _=>rfl) e0).2 _ (get_mem hd)
       cases g3
       obtain⟨v,q1,q2⟩:=e4.get _ _ g1
       have W4:=List.all_eq_true.1 hw _ g0
       have W4:Vf k'=true:=W4
       have hwk:Wk κ' κ':=⟨rfl,rfl,rfl,rfl,λb d h=>⟨d,h⟩,λb v e xs h=>.inl h,λb v e xs h=>h,λb h=>h⟩
       have wg:BI [] k'=true:=by cases k'<;>first | rfl | cases W4
       rw[<- e1]at g2
       have:=GQ hwk (bs:=[]) wg (λ_ _=>rfl) (zt:=κ'.st) (λ_ _=>rfl) (λ_ h=>by simp[rowAt]at h) g2 q2
       grind
      have YO:=rR hR e3 hRz e5
      refine iy hly (κ:=κ') (by rw[e1,xK]; exact h2) e2 YO (cq _) Q λo' B6 a'' Nf f0 f1 f2 f3 f4 Ga f5 DV f6=>hQ o' B6 a'' Nf f0 f1 f2 (e3.trans f3) f4 Ga (λs hs=>(ky f5 s hs).trans (kx e5 s hs)) (λhq=>(DV hq).trans (e1.trans xK)) f6
    ·exact e0.elim
    ·exact e0.elim
    ·exact e0.elim
  ·rename_i hcu
   cases hop:opsOf x with
   | none=>rw[hop]at h; exact h.elim
   | some ops =>
    rw[hop]at h
    simp only at h
    cases hp:H9 (ui P xid tab ro) n ops fr with
    | none=>rw[hp]at h; exact h.elim
    | some p =>
     rw[hp]at h
     obtain⟨JV,z9Z⟩:=h
     obtain⟨id,rfl⟩:∃ id,x=.region id ops false:=by
      cases x with
      | region id ops' draw =>
       cases draw with
       | true=>cases hop
       | false=>cases hop; exact⟨id,rfl⟩
      | _=>cases hop
     refine wp_seq (EU hp hI hR hk _ ?_)
     intro a' hk1 zcX
     rcases zcX with⟨hl,YO⟩ | YO
     ·refine iy hly (κ:=κ) (JV hl _ z9Z) hI YO (λt b hb => ?_) Q λo' B6 a'' Nf f0 f1 f2 f3 f4 Ga f5 DV f6=>hQ o' B6 a'' Nf f0 f1 f2 f3 f4 Ga (λs hs=>(ky f5 s hs).trans (kx hk1 s hs)) DV f6
      simp only[Kn.get]at hb
      simp only[Fr.get]
      grind
     ·refine iy hly (κ:=κ) z9Z hI YO (λt b hb => ?_) Q λo' B6 a'' Nf f0 f1 f2 f3 f4 Ga f5 DV f6=>hQ o' B6 a'' Nf f0 f1 f2 f3 f4 Ga (λs hs=>(ky f5 s hs).trans (kx hk1 s hs)) DV f6
      simp only[Kn.get]at hb
      simp only[Fr.get]
      cases ht:Nat.beq p.c t with
      | true=>rw[ht,cond_true]at hb; rw[cond_true]; cases hb; rfl
      | false=>rw[ht,cond_false]at hb; cases hb
  ·rename_i ws hcu
   cases hw:ws.all λw=>Nat.ble κ.st.length w.sh.bs.length with
   | false=>rw[hw]at h; exact h.elim
   | true =>
    rw[hw,cond_true]at h
    obtain⟨rr,WD,h2⟩:=T.zd.1 h
    refine wp_seq (ix hlx WD hI hR hk _ λo iu a' κ' e0 e1 e2 e3 e4 OZ e5 _ e6 => ?_)
    obtain⟨w,g1,z,g2,g3,g4⟩:=Gx _ _ _ _ _ e0
    have hwl:=List.all_eq_true.1 hw w g1
    obtain⟨κ1,q1,q2,q3,q4,q5⟩:=z0K (n:=n) e3 e2 e4 e6 g3 (Nat.le_of_ble_eq_true hwl) (by rw[e1]; exact g4)
    rw[g2]at h2
    split at h2
    ·exact h2.elim
    rename_i zz hzz
    obtain⟨q5,SG⟩:=q5 zz hzz
    have YO:=rR hR q4 q5 e5
    rw[<- q1]
    cases hex:zz.1<;>rw[hex]at h2 SG<;>simp only at h2
    ·cases SG
     exact iy hly (κ:=κ1) (by rw[q2]; exact h2) q3 YO (cq _) Q λo' B6 a'' Nf f0 f1 f2 f3 f4 Ga f5 _ f6=>hQ { o' with q:=false } B6 a'' Nf f0 f1 f2 (q4.trans f3) f4 Ga (λs hs=>(ky f5 s hs).trans (kx e5 s hs)) (λhq=>by cases hq) f6
    ·cases SG; exact hQ _ _ a' κ1 h2 q2 q3 q4 YO (cq _) (kx e5) (λhq=>by cases hq) rfl
    ·cases SG; exact hQ _ _ a' κ1 h2 q2 q3 q4 YO (cq _) (kx e5) (λhq=>by cases hq) rfl
    ·obtain⟨v,rfl,hv⟩:=SG
     exact hQ _ _ a' κ1 h2 q2 q3 q4 YO (cq _) (kx e5) (λhq=>by cases hq) ⟨v,rfl,hv⟩
 | cond x p q ip iq =>
  intro hl fr kn κ a α k r h hI hR hk Q hQ
  have hlp:uk P n H p:=λz hz=>hl z (by simp only[xl,List.mem_append]; exact .inl hz)
  have Oz:uk P n H q:=λz hz=>hl z (by simp only[xl,List.mem_append]; exact .inr hz)
  have kp:∀ {a a':Act},Kept p a a'->Kept (.cond x p q) a a':=λh s hs=>h s λe=>hs (by simp only[qj,List.mem_append]; exact .inl e)
  have kq:∀ {a a':Act},Kept q a a'->Kept (.cond x p q) a a':=λh s hs=>h s λe=>hs (by simp only[qj,List.mem_append]; exact .inr e)
  have hQp:=λ(o:FO) (iu:Exit) (a':Act) (κ':KS) f0 f1 f2 f3 f4 Ga (f5:Kept p a a') DV f6=>hQ o iu a' κ' f0 f1 f2 f3 f4 Ga (kp f5) DV f6
  have hQq:=λ(o:FO) (iu:Exit) (a':Act) (κ':KS) f0 f1 f2 f3 f4 Ga (f5:Kept q a a') DV f6=>hQ o iu a' κ' f0 f1 f2 f3 f4 Ga (kq f5) DV f6
  simp only[Z7]at h
  split at h
  ·rename_i hx
   have hv:qi fr.get x=some (.zI .bool true):=bu hk hx
   exact wp_cond_true (hR.eval hv).jL (ip hlp h hI hR hk Q hQp)
  ·rename_i hx
   have hv:qi fr.get x=some (.zI .bool false):=bu hk hx
   exact wp_cond_false (hR.eval hv).jL (iq Oz h hI hR hk Q hQq)
  ·split at h
   ·split at h
    ·rename_i v hv
     have he:=hv
     rw[show ∀ t,fr.get t=qi fr.get (.tmp t)from λ_=>rfl]at he
     rcases h with⟨rfl,h⟩ | ⟨rfl,h⟩
     ·exact wp_cond_true (hR.eval he).jL (ip hlp h hI hR (sd hk hv) Q hQp)
     ·exact wp_cond_false (hR.eval he).jL (iq Oz h hI hR (sd hk hv) Q hQq)
    ·exact h.elim
   ·exact h.elim
 | block id b ib =>
  intro hl fr kn κ a α k r h hI hR hk Q hQ
  by_cases hb:∃ b',b=.loop b'
  ·obtain⟨b,rfl⟩:=hb
   simp only[Z7]at h
   split at h
   ·exact h.elim
   ·rename_i l hll
    cases hc:Nat.ble (gh l.gh fr κ.st).2.length l.sh.bs.length&&EW l.ps (qj b)&&l.ws.all λw=>Nat.ble l.sh.bs.length w.sh.bs.length with
    | false=>rw[hc]at h; exact h.elim
    | true =>
     rw[hc,cond_true]at h
     simp only[Bool.and_eq_true,List.all_eq_true]at hc
     obtain⟨⟨Nb,Sd⟩,hc3⟩:=hc
     obtain⟨p,h1,h⟩:=T.zd.1 h
     obtain⟨s,h2,h⟩:=T.zd.1 h
     obtain⟨rr,h3,h4⟩:=T.zd.1 h
     obtain⟨κ1,w1,w2,w3,w4,w5⟩:=lB l.gh fr κ hI hR
     rw[<- w2]at h1 h2 Nb
     obtain⟨κ2,q1,q2,q3,q4,q5,_⟩:=l.sh.Q8 (n:=n) (Ext.refl κ1) w3 w5 (Nat.le_of_ble_eq_true Nb) h2
     -- the loop's parameters
     have hps:Rel κ2 n (eV (l.sh.st s) l.ps p).get a:=by
      refine⟨w5.size,w5.defers,λt d hd => ?_⟩
      obtain⟨k',y,d0,g0,g1,g2,g3⟩:=(Ql (p:=λ_=>true) (zt:=l.sh.st s) l.ps [] p (λ_ _=>rfl) h1).2 _ (get_mem hd)
      cases g3
      obtain⟨v,e1,e2⟩:=w5.get _ _ g1
      have W4:=List.all_eq_true.1 Sd _ g0
      simp only[Bool.and_eq_true]at W4
      have hwk:Wk κ1 κ1:=⟨rfl,rfl,rfl,rfl,λb d h=>⟨d,h⟩,λb v e xs h=>.inl h,λb v e xs h=>h,λb h=>h⟩
      have wg:BI [] k'=true:=by cases k'<;>first | rfl | cases W4.1
      have:=GQ hwk (bs:=[]) wg (λ_ _=>rfl) (zt:=κ1.st) (λ_ _=>rfl) (λ_ h=>by simp[rowAt]at h) g2 e2
      have he:sw κ1.st k' y=sw (l.sh.st s) k' y:=by cases k'<;>first | rfl | cases W4.1
      rw[he]at this
      exact⟨v,e1,this.mono q4⟩
     have z2l:Ext κ κ2:=w4.trans q4
     have QI:κ2.w=κ.w:=q1.trans w1
     rw[<- QI]
     refine wp_block (hl (id,b) (by simp[xl]) l hll κ2 a p s rr h3 q2 q3 q5 hps Sd (λw hw=>Nat.le_of_ble_eq_true (hc3 w hw)) _ λw x iu a' κ' f1 f2 f3 f4 f5 f6 f7 => ?_)
     rw[f2]at h4
     split at h4
     ·exact h4.elim
     rename_i zz hzz
     obtain⟨f6,f8⟩:=f6 zz hzz
     have hR':Rel κ' n (zz.2++(cP (qj b)++(gh l.gh fr κ.st).1)).get a':=rR w5 (q4.trans f5) f6 f7
     have MF:Kept (.block id (.loop b)) a a':=f7
     cases hwx:zz.1<;>rw[hwx]at h4 f8<;>simp only at h4
     ·exact h4.elim
     ·rename_i id'
      cases f8
      simp only[Exit.inBlock]
      cases He:Nat.beq id' id with
      | true =>
       rw[He,cond_true]at h4
       have:=Nat.eq_of_beq_eq_true He
       subst this
       rw[if_pos rfl]
       exact hQ _ _ a' κ' h4 f3 f4 (z2l.trans f5) hR' (cq _) MF (λhq=>by cases hq) rfl
      | false =>
       rw[He,cond_false]at h4
       rw[if_neg (λe=>by subst e; simp at He)]
       exact hQ _ _ a' κ' h4 f3 f4 (z2l.trans f5) hR' (cq _) MF (λhq=>by cases hq) rfl
     ·cases f8
      exact hQ _ _ a' κ' h4 f3 f4 (z2l.trans f5) hR' (cq _) MF (λhq=>by cases hq) rfl
     ·obtain⟨v,rfl,hv⟩:=f8
      exact hQ _ _ a' κ' h4 f3 f4 (z2l.trans f5) hR' (cq _) MF (λhq=>by cases hq) ⟨v,rfl,hv⟩
  ·have He:∀ b',b≠.loop b':=λb' e=>hb ⟨b',e⟩
   rw[N4 He]at h
   refine wp_block (ib (λz hz=>hl z (by rw[Cc He]; exact hz)) h hI hR hk _ λo iu a' κ' f0 f1 f2 f3 f4 Ga f5 DV f6 => ?_)
   have MF:Kept (.block id b) a a':=f5
   cases hox:o.ex<;>rw[hox]at f0 f6<;>simp only at f0
   ·cases f6; exact hQ o _ a' κ' f0 f1 f2 f3 f4 Ga MF DV (by rw[hox]; rfl)
   ·rename_i id'
    cases f6
    simp only[Exit.inBlock]
    cases hbq:Nat.beq id' id with
    | true =>
     rw[hbq,cond_true]at f0
     have:=Nat.eq_of_beq_eq_true hbq
     subst this
     rw[if_pos rfl]
     exact hQ _ _ a' κ' f0 f1 f2 f3 f4 Ga MF DV rfl
    | false =>
     rw[hbq,cond_false]at f0
     rw[if_neg (λe=>by subst e; simp at hbq)]
     exact hQ o _ a' κ' f0 f1 f2 f3 f4 Ga MF DV (by rw[hox]; rfl)
   ·cases f6; exact hQ o _ a' κ' f0 f1 f2 f3 f4 Ga MF DV (by rw[hox]; rfl)
   ·obtain⟨v,rfl,hv⟩:=f6
    exact hQ o _ a' κ' f0 f1 f2 f3 f4 Ga MF DV (by rw[hox]; exact⟨v,rfl,hv⟩)
 | _=>intro _ fr kn κ a α k r h; simp only[Z7]at h; exact h.elim
end
end Go.AM
namespace Go.AM
set_option linter.unusedSectionVars false
variable [vX]
open Go.RowKit
section
variable [K0]
variable {P:Program} {xid:Nat} {tab:cZ} {ro:Nat->Bool} {n:Nat} {H:Hints}
theorem Mp{b:Code}{st zt:St}:∀ (ob:List It) (z:wN ob),EW ob (qj b)=true->eV st ob z=eV zt ob z/\∀ q∈eV st ob z,q.1 ∉ qj b:=by
 intro ob
 induction ob with
 | nil=>intro z _; exact⟨rfl,λq hq=>by cases hq⟩
 | cons i r ih =>
  intro z h
  have hi:∀ y:i.den,Kq st i y=Kq zt i y/\∀ q∈Kq st i y,q.1 ∉ qj b:=by
   intro y
   simp only[EW,List.all_cons,Bool.and_eq_true]at h
   cases i with
   | s t k =>
    obtain⟨h1,_⟩:=h
    simp at h1
    refine⟨by cases k<;>first | rfl | (simp[Vf]at h1),λq hq => ?_⟩
    simp only[Kq,List.mem_singleton]at hq
    subst hq
    intro hm
    have:=h1.2
    simp only[z5K,Bool.not_eq_true',List.any_eq_false]at this
    exact this t hm (by simp)
   | _=>grind
  cases r with
  | nil =>
   have e1:=JP st i z
   have e2:=JP zt i z
   grind
  | cons j r =>
   have e1:=Xw st i j r z
   have e2:=Xw zt i j r z
   have hr:EW (j::r) (qj b)=true:=by
    unfold EW at h ⊢
    grind
   grind
theorem z4u(hm:(ui P xid tab ro).P.follows .mixedOrders=true)(hT:yc P tab){l:zT}{b:Code}(hL:uk P n H b)(R:wN l.ps->l.sh.den->T (l.sh.den⊕gU l.ws))
  (round:∀ p s,z0j (ui P xid tab ro) tab n H l b p s=R p s) (hF:∀ p s,l.F p s=T.loop (R p) s):QN P n l b:=by
 intro κ a p s r hr xK hI hR hRp hps hws Q hQ
 rw[hF,T.eY]at hr
 obtain⟨m,hm'⟩:=hr
 have zf9:=λ(st zt:St)=>(Mp (b:=b) (st:=st) (zt:=zt) l.ps p hps).1
 have z7l:∀ (st:St) (t:Nat) (d:D),(eV st l.ps p).get t=some d->t ∉ qj b:=λst t d hd=>(Mp (b:=b) (st:=st) (zt:=st) l.ps p hps).2 _ (get_mem hd)
 refine wp_loop_ghost (λm a' w'=>∃ s',T.Iter (R p) m s' r/\∃ κ':KS,κ'.w=w'/\κ'.st=l.sh.st s'/\Inv κ'/\Ext κ κ'/\Rel κ' n (l.sh.fr s').get a'/\Rel κ' n (eV (l.sh.st s) l.ps p).get a'/\Kept b a a') m
  ⟨s,hm',κ,rfl,xK,hI,Ext.refl κ,hR,hRp,λ_ _=>rfl⟩ ?_
 rintro m a1 w1 ⟨s1,hit,κ1,rfl,g4,g5,g6,g7a,g7b,g8⟩
 have g7:Rel κ1 n (l.sh.fr s1++eV (l.sh.st s1) l.ps p).get a1:=⟨g7a.size,g7a.defers,λt d hd=>by
  rcases XX hd with hd | hd
  ·exact g7a.get t d hd
  ·rw[zf9 _ (l.sh.st s)]at hd; exact g7b.get t d hd⟩
 cases hit with
 | done h1 =>
  rw[<- round]at h1
  refine oL hm hT b hL (κ:=κ1) (by rw[g4]; exact h1) g5 g7 (cq _) _ λo iu a' κ' e0 e1 e2 e3 e4 OZ e5 _ e6 => ?_
  have fin:∀ exo,CT κ' exo iu->(B7 l.ws exo (KE exo o.fr) o.st).leads r->Q iu a' κ'.w:=λexo e6 e0=>by
   obtain⟨w,k1,x,k2,k3,k4⟩:=Gx _ _ _ _ _ e0
   have hlen:κ1.st.length<=w.sh.bs.length:=by rw[g4]; exact Nat.le_trans (vU.Z3 _ _) (hws w k1)
   obtain⟨κ2,q1,q2,q3,q4,q5⟩:=z0K (n:=n) e3 e2 e4 e6 k3 hlen (by rw[e1]; exact k4)
   have:=hQ w x iu a' κ2 k1 k2 q2 q3 (g6.trans q4) q5 (λt ht=>(e5 t ht).trans (g8 t ht))
   grind
  have LG:∀ {z:l.sh.den⊕gU l.ws},((B7 l.ws o.ex (KE o.ex o.fr) o.st).bind λr=>T.ret (Sum.inr r:l.sh.den⊕gU l.ws)).leads z->z=Sum.inr r->(B7 l.ws o.ex (KE o.ex o.fr) o.st).leads r:=by
   intro z h hz
   obtain⟨y,h1,h2⟩:=T.zd.1 h
   have h2:(Sum.inr y:l.sh.den⊕gU l.ws)=z:=h2
   grind
  cases hox:o.ex<;>rw[hox]at e0 e6 LG<;>simp only at e0
  ·obtain⟨y,_,h2⟩:=T.zd.1 e0
   have h2:(Sum.inl y:l.sh.den⊕gU l.ws)=Sum.inr r:=h2
   cases h2
  ·have q:=fin _ e6 (LG e0 rfl); cases e6; exact q
  ·have q:=fin _ e6 (LG e0 rfl); cases e6; exact q
  ·have q:=fin _ e6 (LG e0 rfl); obtain⟨v,rfl,hv⟩:=e6; exact q
 | step h1 hit =>
  rename_i m s2
  rw[<- round]at h1
  refine oL hm hT b hL (κ:=κ1) (by rw[g4]; exact h1) g5 g7 (cq _) _ λo iu a' κ' e0 e1 e2 e3 e4 OZ e5 _ e6 => ?_
  have MK:((B7 l.ws o.ex (KE o.ex o.fr) o.st).bind λr=>T.ret (Sum.inr r:l.sh.den⊕gU l.ws)).leads (Sum.inl s2)->False:=by
   intro h
   obtain⟨y,h1,h2⟩:=T.zd.1 h
   have h2:(Sum.inr y:l.sh.den⊕gU l.ws)=Sum.inl s2:=h2
   cases h2
  cases hox:o.ex<;>rw[hox]at e0 e6 MK<;>simp only at e0
  ·cases e6
   obtain⟨y,h1,h2⟩:=T.zd.1 e0
   have h2:(Sum.inl y:l.sh.den⊕gU l.ws)=Sum.inl s2:=h2
   cases h2
   have hlen:κ1.st.length<=l.sh.bs.length:=by rw[g4]; exact vU.Z3 _ _
   obtain⟨κ2,q1,q2,q3,q4,q5,_⟩:=l.sh.Q8 (n:=n) e3 e2 e4 hlen (by rw[e1]; exact h1)
   refine⟨m,Nat.lt_succ_self _,s2,hit,κ2,q1,q2,q3,g6.trans q4,q5,⟨q5.size,q5.defers,λt d hd => ?_⟩,λt ht=>(e5 t ht).trans (g8 t ht)⟩
   obtain⟨v,r1,r2⟩:=g7b.get t d hd
   exact⟨v,(e5 t (z7l _ t d hd)).trans r1,r2.mono q4⟩
  ·exact(MK e0).elim
  ·exact(MK e0).elim
  ·exact(MK e0).elim
end
section
variable {P:Program} {xid:Nat} {tab:cZ} {ro:Nat->Bool} {n:Nat} {H:Hints}
theorem Wv{κ:KS}(hI:Inv κ):∀ (rs:List Ty) (ds:List D) (x:GF rs) (vs:List Value),(z00 κ.st rs ds).leads x->qE κ ds vs->qE κ.all (Zc rs x) vs/\∀ d∈Zc rs x,XO d=true
 | [],[],x,vs,h,hd=>by rw[hd.qg]; exact⟨.nil,λd hd=>by cases hd⟩
 | [],_::_,x,vs,h,hd=>h.elim
 | [τ],[],x,vs,h,hd=>h.elim
 | [τ],[d],x,vs,h,hd=>by
  obtain⟨v,us,rfl,h1,h2⟩:=hd.cons_inv
  rw[h2.qg]
  refine⟨.cons (Qz hI h1 h) .nil,λd hd => ?_⟩
  have hd:d∈[D.zI τ x]:=hd
  rw[List.mem_singleton]at hd
  subst hd; rfl
 | [τ],_::_::_,x,vs,h,hd=>h.elim
 | τ::σ::r,[],x,vs,h,hd=>h.elim
 | τ::σ::r,d::ds,x,vs,h,hd=>by
  obtain⟨y,h1,h2⟩:=T.zd.1 h
  obtain⟨z,h3,h4⟩:=T.zd.1 h2
  cases h4
  obtain⟨v,us,rfl,k1,k2⟩:=hd.cons_inv
  obtain⟨g1,g2⟩:=Wv hI (σ::r) ds z us h3 k2
  refine⟨.cons (Qz hI k1 h1) g1,λd hd => ?_⟩
  rcases List.mem_cons.1 hd with rfl | hd
  ·rfl
  ·grind
theorem zdO(hm:(ui P xid tab ro).P.follows .mixedOrders=true)(hT:yc P tab){f:Nat}{fn:Func}{code:Code}(hf:P.funcs[f]? = some fn)(hb:fn.body=some code)
  (hn:(fn.name == "runtime.NumGoroutine")=false) (hL:uk P fn.ntmps H code) {d:C4} (h:∀ x,TL (ui P xid tab ro) tab H fn code d x=d.F x):zC P f d:=by
 intro κ x zy y xK hy hI ha
 rw[<- h]at hy
 unfold TL at hy
 cases hle:Nat.ble (X4 d.ps x).length fn.ntmps with
 | false=>rw[hle]at hy; exact hy.elim
 | true =>
  rw[hle,cond_true]at hy
  have KA:=Nat.le_of_ble_eq_true hle
  refine .inl ⟨wL hf hn (by grind) κ.w,calls_of_wp hf hb ?_⟩
  have hR:=Qi ha KA
  refine oL hm hT code hL (κ:=κ) (by rw[xK]; exact hy) hI hR (cq _) _ λo iu a' κe e0 e1 e2 e3 e4 _ _ _ e6 => ?_
  have fin:(iu=.normal\/iu=.ret)->((bh (ui P xid tab ro) o.fr o.st fn.results.toList).bind λds=>z00 o.st d.rs ds).leads y ->
    bodyPost P fn (λe w'=>∃ κ':KS,κ'.w=w'/\κ'.st=[]/\Inv κ'/\Ext κ κ'/\wv κ' (.ret (Zc d.rs y)) e) iu a' κe.w:=by
   intro hex h2
   obtain⟨ds,g1,g2⟩:=T.zd.1 h2
   rw[<- e1]at g1 g2
   obtain⟨vs,k1,k2⟩:=mh e2 e4 g1
   obtain⟨q1,q2⟩:=Ox hI xK e2 e3
   obtain⟨hl,zgp⟩:=Wv e2 d.rs ds y vs g2 k2
   have hl':qE (κe.bare (Pb κe)) (Zc d.rs y) vs:=⟨hl.1,λi h1 h2=>nj (zgp _ (List.getElem_mem h1)) (hl.2 i h1 h2)⟩
   have pC:a'.defers=[]/\∃ v,(results fn a'.tmps).run P κe.w=.ok v κe.w/\∃ κ':KS,κ'.w=κe.w/\κ'.st=[]/\Inv κ'/\Ext κ κ'/\wv κ' (.ret (Zc d.rs y)) (.returned v) :=
    ⟨e4.defers,_,k1,κe.bare (Pb κe),rfl,rfl,q1,q2,_,rfl,tz hl'⟩
   rcases hex with rfl | rfl
   ·exact pC
   ·exact pC
  cases hox:o.ex<;>rw[hox]at e0 e6<;>simp only at e0
  ·exact fin (.inl e6) e0
  ·exact e0.elim
  ·exact fin (.inr e6) e0
  ·exact e0.elim
theorem Xg{d:C4}{f:Nat}(b:(jP d.ps->T (GF d.rs))->jP d.ps->T (GF d.rs))(hF:∀ x,d.F x=T.fix b x)(h:∀ F:jP d.ps->T (GF d.rs),zC P f ⟨d.ps,d.rs,F⟩->zC P f ⟨d.ps,d.rs,b F⟩):zC P f d:=by
 have hN:∀ m,zC P f ⟨d.ps,d.rs,T.BF b m⟩:=by
  intro m
  induction m with
  | zero=>nofun
  | succ m ih=>exact h _ ih
 intro κ x zy y xK hy hI ha
 rw[hF,T.lN]at hy
 obtain⟨m,hm⟩:=hy
 exact hN m κ x zy y xK (hm m (Nat.le_refl _)) hI ha
theorem Xp{fr:Fr}:∀ {n i:Nat} {ds:List D},M4 fr n i=some ds->ds.length=n/\∀ j d,ds[j]? = some d->fr.get (i+j)=some d
 | 0,i,ds,h=>by cases h; exact⟨rfl,λj d hj=>by grind⟩
 | n+1,i,ds,h=>by
  simp only[M4]at h
  split at h
  ·rename_i d hd
   split at h
   ·rename_i r hr
    obtain⟨h1,h2⟩:=Xp hr
    grind
   ·cases h
  ·cases h
theorem z7n(hm:(ui P xid tab ro).P.follows .mixedOrders=true)(hT:yc P tab){f:Nat}{fn:Func}{code:Code}(hf:P.funcs[f]? = some fn)(hb:fn.body=some code)
  (hn:(fn.name == "runtime.NumGoroutine")=false) (hL:uk P fn.ntmps H code) {d:jZ} (h:∀ x,Ff (ui P xid tab ro) tab H fn code d x=d.F x):xX P f d:=by
 intro κ x zy y xK hy hI hlen SE
 rw[<- h]at hy
 unfold Ff at hy
 cases hle:Nat.ble d.ks.length fn.ntmps&&Nat.ble d.sh.bs.length d.out.bs.length with
 | false=>rw[hle]at hy; exact hy.elim
 | true =>
  rw[hle,cond_true]at hy
  simp only[Bool.and_eq_true]at hle
  have O8:=Nat.le_of_ble_eq_true hle.1
  have R3:=Nat.le_of_ble_eq_true hle.2
  refine .inl ⟨wL hf hn (by rw[hb]; rfl) κ.w,calls_of_wp hf hb ?_⟩
  have hR:Rel κ fn.ntmps (d.sh.fr x).get { tmps:=zy.toArray++Array.replicate (fn.ntmps-zy.toArray.size) undef,defers:=[] }:=by
   refine⟨by simp; omega,rfl,λs e hs => ?_⟩
   obtain⟨v,h1,h2⟩:=SE.get s e hs
   grind
  refine oL hm hT code hL (κ:=κ) (by rw[xK]; exact hy) hI hR (cq _) _ λo iu a' κe e0 e1 e2 e3 e4 _ _ _ e6 => ?_
  have fin:(iu=.normal\/iu=.ret)->((bh (ui P xid tab ro) o.fr o.st fn.results.toList).bind λds=>bif Nat.beq ds.length d.nr then(d.out.un (wm ds 0) o.st).bind λy=>bif (yW d.nr (d.out.fr y)).isSome then T.ret y else .fail else .fail).leads y ->
    bodyPost P fn (λe w'=>∃ (κ':KS) (ds:List D),κ'.w=w'/\κ'.st=d.out.st y/\Inv κ'/\Ext κ κ'/\yW d.nr (d.out.fr y)=some ds/\wv κ' (.ret ds) e) iu a' κe.w:=by
   intro hex h2
   obtain⟨ds,g1,g2⟩:=T.zd.1 h2
   cases hnr:Nat.beq ds.length d.nr with
   | false=>rw[hnr]at g2; exact g2.elim
   | true =>
    rw[hnr,cond_true]at g2
    obtain⟨y',g5,g3⟩:=T.zd.1 g2
    cases cS:yW d.nr (d.out.fr y')with
    | none=>rw[cS]at g3; exact g3.elim
    | some JZ =>
     rw[cS]at g3
     have hyy:y'=y:=g3
     subst hyy
     rw[<- e1]at g1 g5
     obtain⟨vs,k1,k2⟩:=mh e2 e4 g1
     have hRr:Rel κe vs.length (wm ds 0).get { tmps:=vs.toArray,defers:=[] }:=by
      have:=Qi (n:=vs.length) k2 (by rw[k2.1]; exact Nat.le_refl _)
      simpa[show(K0.df:List Deferred)=[]from rfl]using this
     obtain⟨κ2,q1,q2,q3,q4,q5,_⟩:=d.out.Q8 (κ0:=κ) e3 e2 hRr (by rw[xK]; exact Nat.le_trans (vU.Z3 _ _) R3) g5
     obtain⟨l1,l2⟩:=Xp cS
     have hds:qE κ2 JZ vs:=by
      refine⟨by rw[l1,<- k2.1]; exact(Nat.eq_of_beq_eq_true hnr).symm,λi h1 h2 => ?_⟩
      have:=l2 i JZ[i] (List.getElem?_eq_getElem h1)
      rw[Nat.zero_add]at this
      obtain⟨v,r1,r2⟩:=q5.get i _ this
      grind
     have pC:a'.defers=[]/\∃ v,(results fn a'.tmps).run P κe.w=.ok v κe.w/\∃ (κ':KS) (ds:List D),κ'.w=κe.w/\κ'.st=d.out.st y'/\Inv κ'/\Ext κ κ'/\yW d.nr (d.out.fr y')=some ds/\wv κ' (.ret ds) (.returned v) :=
      ⟨e4.defers,_,k1,κ2,JZ,q1,q2,q3,q4,cS,_,rfl,tz hds⟩
     rcases hex with rfl | rfl
     ·exact pC
     ·exact pC
  cases hox:o.ex<;>rw[hox]at e0 e6<;>simp only at e0
  ·exact fin (.inl e6) e0
  ·exact e0.elim
  ·exact fin (.inr e6) e0
  ·exact e0.elim
theorem z3P{d:jZ}{f:Nat}(b:(d.sh.den->T d.out.den)->d.sh.den->T d.out.den)(hF:∀ x,d.F x=T.fix b x)(h:∀ F:d.sh.den->T d.out.den,xX P f ⟨d.ks,d.sh,d.kQ,d.out,d.nr,F⟩->xX P f ⟨d.ks,d.sh,d.kQ,d.out,d.nr,b F⟩):xX P f d:=by
 have hN:∀ m,xX P f ⟨d.ks,d.sh,d.kQ,d.out,d.nr,T.BF b m⟩:=by
  intro m
  induction m with
  | zero=>nofun
  | succ m ih=>exact h _ ih
 intro κ x zy y xK hy hI hl ha
 rw[hF,T.lN]at hy
 obtain⟨m,hm⟩:=hy
 exact hN m κ x zy y xK (hm m (Nat.le_refl _)) hI hl ha
theorem Fv{κ κe:KS}{a':Act}{fn:Func}{o:FO}{nr:Nat}{out:vU}{y:out.den}(e1:κe.st=o.st)(e2:Inv κe)(e3:Ext κ κe)(e4:Rel κe fn.ntmps o.fr.get a')(hlen:κ.st.length<=out.bs.length)
  (h:((bh (ui P xid tab ro) o.fr o.st fn.results.toList).bind λds=>bif Nat.beq ds.length nr then(out.un (wm ds 0) o.st).bind λy=>bif (yW nr (out.fr y)).isSome then T.ret y else .fail else .fail).leads y) :
  ∃ v,(results fn a'.tmps).run P κe.w=.ok v κe.w/\∃ (κ':KS) (ds:List D),κ'.w=κe.w/\κ'.st=out.st y/\Inv κ'/\Ext κ κ'/\yW nr (out.fr y)=some ds/\wv κ' (.ret ds) (.returned v):=by
 obtain⟨ds,g1,g2⟩:=T.zd.1 h
 cases hnr:Nat.beq ds.length nr with
 | false=>rw[hnr]at g2; exact g2.elim
 | true =>
  rw[hnr,cond_true]at g2
  obtain⟨y',g5,g3⟩:=T.zd.1 g2
  cases cS:yW nr (out.fr y')with
  | none=>rw[cS]at g3; exact g3.elim
  | some JZ =>
   rw[cS]at g3
   have hyy:y'=y:=g3
   subst hyy
   rw[<- e1]at g1 g5
   obtain⟨vs,k1,k2⟩:=mh e2 e4 g1
   have hRr:Rel κe vs.length (wm ds 0).get { tmps:=vs.toArray,defers:=[] }:=by
    have:=Qi (n:=vs.length) k2 (by rw[k2.1]; exact Nat.le_refl _)
    simpa[show(K0.df:List Deferred)=[]from rfl]using this
   obtain⟨κ2,q1,q2,q3,q4,q5,_⟩:=out.Q8 (κ0:=κ) e3 e2 hRr hlen g5
   obtain⟨l1,l2⟩:=Xp cS
   have hds:qE κ2 JZ vs:=by
    refine⟨by rw[l1,<- k2.1]; exact(Nat.eq_of_beq_eq_true hnr).symm,λi h1 h2 => ?_⟩
    have:=l2 i JZ[i] (List.getElem?_eq_getElem h1)
    rw[Nat.zero_add]at this
    obtain⟨v,r1,r2⟩:=q5.get i _ this
    grind
   exact⟨_,k1,κ2,JZ,q1,q2,q3,q4,cS,_,rfl,tz hds⟩
theorem z7f{κ κe:KS}{kB:vU}{z:kB.den}{st:St}{t:Nat}{d:D}{u:Value}(e1:κe.st=st)(e2:Inv κe)(e3:Ext κ κe)(hlen:κ.st.length<=kB.bs.length)(hu:RD κe d u)
  (h:((kB.un [(0,some d)] st).bind λz=>match(kB.fr z).get 0 with | some _=>T.ret z | none=>.fail).leads z) :
  ∃ (κ':KS) (p:D),κ'.w=κe.w/\κ'.st=kB.st z/\Inv κ'/\Ext κ κ'/\(kB.fr z).get 0=some p/\wv κ' (.kB (.iface t p)) (.panicked [{ v:=.iface t u,recovered:=false }]):=by
 obtain⟨z',g1,g2⟩:=T.zd.1 h
 split at g2
 ·rename_i p hp
  have hzz:z'=z:=g2
  subst hzz
  have YO:Rel κe 1 (Fr.get [(0,some d)]) { tmps := #[u],defers:=[] }:=by
   refine⟨rfl,rfl,λs d' hd => ?_⟩
   simp only[Fr.get]at hd
   cases hb:Nat.beq 0 s with
   | true =>
    have:=Nat.eq_of_beq_eq_true hb
    grind
   | false=>grind
  rw[<- e1]at g1
  obtain⟨κ2,q1,q2,q3,q4,q5,_⟩:=kB.Q8 (κ0:=κ) e3 e2 YO hlen g1
  obtain⟨v',r1,r2⟩:=q5.get 0 p hp
  cases r1
  exact⟨κ2,p,q1,q2,q3,q4,hp,_,rfl,.iface t p _ r2⟩
 ·exact g2.elim
theorem z6Y(hm:(ui P xid tab ro).P.follows .mixedOrders=true)(hT:yc P tab){f:Nat}{fn:Func}{code:Code}(hf:P.funcs[f]? = some fn)(hb:fn.body=some code)
  (hn:(fn.name == "runtime.NumGoroutine")=false) (hL:uk P fn.ntmps H code) {d:iB} (h:∀ x,EJ (ui P xid tab ro) tab H fn code d x=d.F x):kH P f d:=by
 intro κ x zy y xK hy hI hlen SE
 rw[<- h]at hy
 unfold EJ at hy
 cases hle:Nat.ble d.ks.length fn.ntmps&&Nat.ble d.sh.bs.length d.out.bs.length&&Nat.ble d.sh.bs.length d.kB.bs.length with
 | false=>rw[hle]at hy; exact hy.elim
 | true =>
  rw[hle,cond_true]at hy
  simp only[Bool.and_eq_true]at hle
  have O8:=Nat.le_of_ble_eq_true hle.1.1
  have R3:=Nat.le_of_ble_eq_true hle.1.2
  have zhR:=Nat.le_of_ble_eq_true hle.2
  refine .inl ⟨wL hf hn (by rw[hb]; rfl) κ.w,calls_of_wp hf hb ?_⟩
  have hR:Rel κ fn.ntmps (d.sh.fr x).get { tmps:=zy.toArray++Array.replicate (fn.ntmps-zy.toArray.size) undef,defers:=[] }:=by
   refine⟨by simp; omega,rfl,λs e hs => ?_⟩
   obtain⟨v,h1,h2⟩:=SE.get s e hs
   grind
  refine oL hm hT code hL (κ:=κ) (by rw[xK]; exact hy) hI hR (cq _) _ λo iu a' κe e0 e1 e2 e3 e4 _ _ _ e6 => ?_
  have fin:(iu=.normal\/iu=.ret)->((bh (ui P xid tab ro) o.fr o.st fn.results.toList).bind λds=>bif Nat.beq ds.length d.nr then(d.out.un (wm ds 0) o.st).bind λy=>bif (yW d.nr (d.out.fr y)).isSome then T.ret (Sum.inl y:d.out.den⊕d.kB.den)else .fail else .fail).leads y ->
    bodyPost P fn (λe w'=>∃ κ':KS,κ'.w=w'/\Inv κ'/\Ext κ κ'/\((∃ (y':d.out.den) (ds:List D),y=.inl y'/\κ'.st=d.out.st y'/\yW d.nr (d.out.fr y')=some ds/\wv κ' (.ret ds) e) \/
     ∃ (z:d.kB.den) (p:D),y=.inr z/\κ'.st=d.kB.st z/\(d.kB.fr z).get 0=some p/\wv κ' (.kB (.iface d.pt p)) e)) iu a' κe.w:=by
   intro hex h2
   have:∃ y',y=.inl y'/\((bh (ui P xid tab ro) o.fr o.st fn.results.toList).bind λds=>bif Nat.beq ds.length d.nr then(d.out.un (wm ds 0) o.st).bind λy=>bif (yW d.nr (d.out.fr y)).isSome then T.ret y else .fail else .fail).leads y':=by
    obtain⟨ds,g1,g2⟩:=T.zd.1 h2
    cases hnr:Nat.beq ds.length d.nr with
    | false=>rw[hnr]at g2; exact g2.elim
    | true =>
     rw[hnr,cond_true]at g2
     obtain⟨y',g5,g3⟩:=T.zd.1 g2
     cases cS:yW d.nr (d.out.fr y')with
     | none=>rw[cS]at g3; exact g3.elim
     | some JZ =>
      rw[cS]at g3
      have g3:Sum.inl y'=y:=g3
      refine⟨y',g3.symm,T.zd.2 ⟨ds,g1,?_⟩⟩
      rw[hnr,cond_true]
      refine T.zd.2 ⟨y',g5,?_⟩
      rw[cS]; rfl
   obtain⟨y',rfl,ET⟩:=this
   obtain⟨v,k1,κ',ds,q1,q2,q3,q4,q5,q6⟩:=Fv e1 e2 e3 e4 (by rw[xK]; exact Nat.le_trans (vU.Z3 _ _) R3) ET
   have pC:a'.defers=[]/\∃ v,(results fn a'.tmps).run P κe.w=.ok v κe.w/\∃ κ':KS,κ'.w=κe.w/\Inv κ'/\Ext κ κ'/\((∃ (y'':d.out.den) (ds:List D),(Sum.inl y':d.out.den⊕d.kB.den)=.inl y''/\κ'.st=d.out.st y''/\yW d.nr (d.out.fr y'')=some ds/\wv κ' (.ret ds) (.returned v)) \/
     ∃ (z:d.kB.den) (p:D),(Sum.inl y':d.out.den⊕d.kB.den)=.inr z/\κ'.st=d.kB.st z/\(d.kB.fr z).get 0=some p/\wv κ' (.kB (.iface d.pt p)) (.returned v)) :=
    ⟨e4.defers,v,k1,κ',q1,q3,q4,.inl ⟨y',ds,rfl,q2,q5,q6⟩⟩
   rcases hex with rfl | rfl
   ·exact pC
   ·exact pC
  cases hox:o.ex<;>rw[hox]at e0 e6<;>simp only at e0
  ·exact fin (.inl e6) e0
  ·exact e0.elim
  ·exact fin (.inr e6) e0
  ·rename_i p
   cases p<;>simp only at e0<;>first | exact e0.elim | skip
   rename_i t v
   cases ht:Nat.beq t d.pt with
   | false=>rw[ht]at e0; exact e0.elim
   | true =>
    rw[ht,cond_true]at e0
    have:=Nat.eq_of_beq_eq_true ht
    subst this
    obtain⟨u,rfl,hv⟩:=e6
    cases hv with
    | iface _ _ u hu =>
     have:∃ z,y=.inr z/\((d.kB.un [(0,some v)] o.st).bind λz=>match(d.kB.fr z).get 0 with | some _=>T.ret z | none=>.fail).leads z:=by
      obtain⟨z,g1,g2⟩:=T.zd.1 e0
      split at g2
      ·rename_i p hp
       have g2:Sum.inr z=y:=g2
       refine⟨z,g2.symm,T.zd.2 ⟨z,g1,?_⟩⟩
       rw[hp]; rfl
      ·exact g2.elim
     obtain⟨z,rfl,hz2⟩:=this
     obtain⟨κ',p,q1,q2,q3,q4,q5,q6⟩:=z7f (t:=d.pt) e1 e2 e3 (by rw[xK]; exact Nat.le_trans (vU.Z3 _ _) zhR) hu hz2
     exact⟨e4.defers,κ',q1,q3,q4,.inr ⟨z,p,rfl,q2,q5,q6⟩⟩
theorem M5{d:iB}{f:Nat}(b:(d.sh.den->T (d.out.den⊕d.kB.den))->d.sh.den->T (d.out.den⊕d.kB.den))(hF:∀ x,d.F x=T.fix b x)(h:∀ F:d.sh.den->T (d.out.den⊕d.kB.den),kH P f ⟨d.ks,d.sh,d.kQ,d.out,d.nr,d.pt,d.kB,F⟩->kH P f ⟨d.ks,d.sh,d.kQ,d.out,d.nr,d.pt,d.kB,b F⟩):kH P f d:=by
 have hN:∀ m,kH P f ⟨d.ks,d.sh,d.kQ,d.out,d.nr,d.pt,d.kB,T.BF b m⟩:=by
  intro m
  induction m with
  | zero=>nofun
  | succ m ih=>exact h _ ih
 intro κ x zy y xK hy hI hl ha
 rw[hF,T.lN]at hy
 obtain⟨m,hm⟩:=hy
 exact hN m κ x zy y xK (hm m (Nat.le_refl _)) hI hl ha
end
noncomputable def tv:Nat->Code->Option Code
 | k,.block id (.loop b)=>if k=id then some b else tv k b
 | k,.seq a b=>match tv k a with | some x=>some x | none=>tv k b
 | k,.cond _ a b=>match tv k a with | some x=>some x | none=>tv k b
 | k,.block _ a=>tv k a
 | _,_=>none
def Ht(P:Program)(n:Nat)(H:Hints):List (Nat×Code)->Prop
 | []=>True
 | p::r=>(∀ l,H.loop p.1=some l->QN P n l p.2)/\Ht P n H r
theorem zl{P:Program}{n:Nat}{H:Hints}:Ht P n H []:=trivial
theorem zZ{P:Program}{n:Nat}{H:Hints}{id:Nat}{b:Code}{r:List (Nat×Code)}{l:zT}(hl:H.loop id=some l)(h:QN P n l b)(t:Ht P n H r):Ht P n H ((id,b)::r) :=
 ⟨λl' hl'=>(Option.some.inj (hl.symm.trans hl'))▸h,t⟩
theorem ZH{P:Program}{n:Nat}{H:Hints}{code:Code}{L:List (Nat×Code)}(h:xl code=L)(ha:Ht P n H L):uk P n H code:=by
 intro p hp
 rw[h]at hp
 clear h
 induction L with
 | nil=>cases hp
 | cons q r ih =>
  rcases List.mem_cons.1 hp with rfl | hp
  ·exact ha.1
  ·exact ih ha.2 hp
end Go.AM
namespace Go.AM
set_option linter.unusedSectionVars false
variable [vX]
open Go.RowKit Go.ChangeShapes
def OR:(τs:List Ty)->KC τs->jP (τs.map .ty)
 | [],_=>()
 | [_],x=>x.1
 | _::σ::r,x=>(x.1,OR (σ::r) x.2)
theorem KN:∀ (τs:List Ty) (x:KC τs),X4 (τs.map .ty) (OR τs x)=mkD τs x
 | [],_=>rfl
 | [_],_=>rfl
 | τ::σ::r,x=>congrArg (D.zI τ x.1 :: ·) (KN (σ::r) x.2)
section
variable {H:Type} {enc:TypeId×Value->H} {P:Program} {xid m n:Nat}
theorem z6e{f:Nat}{fn:Func}(τs:List Ty){F:jP (τs.map .ty)->T (GF [.bool])}(hS:zC P f ⟨τs.map .ty,[.bool],F⟩)(hf:P.funcs[f]? = some fn)(hbd:fn.body.isNone=false) (hnm:(fn.name == "runtime.NumGoroutine")=false)
  (hl:laidOutB P=true) (xid m n:Nat) (hts:Qq P fn.params.toList=true) (hτ:fn.params.toList.map (Gc P xid n)=τs.map some) (hx:Ib P xid m=true)
  {bt:TypeId} (hr:fn.resultTypes = #[bt]) (hbt:P.underlying bt=some .bool) {s:ChangeSpec} (hv:s.vars=[]) (hs:∀ ds:List (DataW H),ds.length=τs.length->s.fn H ds={ results:=[.lit (.bool true)],args:=ds })
  (B:O4 H) {lim:Nat} (law:∀ x:KC τs,wfL τs x->bkL τs x<=lim->(F (OR τs x)).run=some true)
  {fresh handsOn:Bool} {W:World} {base:Nat} {args:Array Value} {ds gs:List (DataW H)} {before:List MemPlace}
  (Kc:∀ (j:Nat) t v,fn.params[j]? = some t->args[j]? = some v->Value.okWide P W .any base t v)
  (hW:DataW.Whole enc P fn.params.toList s.vars false W args.toList ds gs before) (hk:B.bs (ds++gs)<=lim) (hG:tJ W λk=>k<W.heap.size) :
  Calls P f args W λe W'=>∃ v,e=.returned v/\s.post enc P fn false fresh handsOn false W args v W':=by
 refine Nq (C4.snd hS) hf hbd hnm hl xid m n τs hts hτ hx hr hbt hv hs B (λx hw hb => ?_) Kc hW hk hG
 have h:=T.wq.1 (law x hw hb)
 rw[<- KN τs x]
 exact T.zd.2 ⟨OR τs x,Gm [] _ _,T.zd.2 ⟨true,h,rfl⟩⟩
end
end Go.AM