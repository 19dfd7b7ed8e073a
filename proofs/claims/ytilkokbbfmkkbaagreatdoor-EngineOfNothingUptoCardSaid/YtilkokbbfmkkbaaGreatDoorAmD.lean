/-
  The abstract machine, part D: texts of our own, the same for each claim.
-/
import Derived.Test.YtilkokbbfmkkbaaGreatDoorAmA
import Derived.Lib.LaidTab
import Derived.Shelf.Vars
import Derived.Test.YtilkokbbfmkkbaaGreatDoorAmC
import Derived.OpenShut
import Derived.Test.YtilkokbbfmkkbaaGreatDoorAmB
import Derived.Lib.LazyBuf
set_option linter.unusedVariables false
namespace Go.AM
def Uk(k:IntKind)(zs:List Int)(o:Obj):Prop:=∃ t fr,o=.cells (zs.map λz=>Value.int k z).toArray t fr
def XE(k:IntKind)(o:Obj):Prop:=∃ m t fr,o=.cells #[.int k m] t fr
theorem DW{P:Program}{w:World}{name:String}{k:IntKind}{zs:List Int}{g:Nat}(hg:P.globalNamed name=some g)(h:Lib.TabIs P w name k zs) :
  g<w.heap.size/\∃ o,w.heap[g]? = some o/\Uk k zs o:=by
 unfold Lib.TabIs World.var? at h
 rw[hg]at h
 simp at h
 split at h
 ·rename_i cs t fr ho
  cases h
  exact⟨(Array.getElem?_eq_some_iff.1 ho).1,_,ho,t,fr,rfl⟩
 ·cases h
theorem ON{P:Program}{w:World}{name:String}{k:IntKind}{zs:List Int}{g:Nat}(hg:P.globalNamed name=some g)(h:∃ o,w.heap[g]? = some o/\Uk k zs o):Lib.TabIs P w name k zs:=by
 obtain⟨o,ho,t,fr,rfl⟩:=h
 unfold Lib.TabIs World.var?
 grind
theorem B4{w:World}{k:IntKind}{g:Nat}(h:∃ o,w.heap[g]? = some o/\XE k o):∃ m,w.cell? ⟨g,0,none⟩=some (.int k m):=by
 obtain⟨o,ho,m,t,fr,rfl⟩:=h
 exact⟨m,by simp[World.cell?,ho]⟩
theorem BP{P:Program}{w:World}{g:Nat}{t:TypeId}{zero:Array Value}{k:IntKind}
  (h:w.ShapedOpen P) (hg:g<P.globals.size)
  (h0:((begin P (λ_ _=>0) default).world.heap[g]?).bind Obj.row? = some (zero,t)) (hz:zero.size=1)
  (hb:P.buildable t=true) (hc:P.cellTypes P.depth t=some [t]) (hu:P.underlying t=some (.int k)):g<w.heap.size/\∃ o,w.heap[g]? = some o/\XE k o:=by
 obtain⟨m,hm⟩:=Go.Proofs.cell_of_shapedOpen_int h hg h0 hz hb hc hu
 obtain⟨cs,hh,hs,_⟩:=h.1 g zero t hg h0
 have hl:cs.size=1:=hs.trans hz
 refine⟨(Array.getElem?_eq_some_iff.1 hh).1,_,hh,m,t,(0,0),?_⟩
 have h1:w.cell? ⟨g,0,none⟩=some cs[0]:=by simp[World.cell?,hh]
 have:cs = #[.int k m]:=by
  grind
 rw[this]
theorem HW{P:Program}{W:World}{name:String}{k:IntKind}{zs:List Int}{rest:List (String×DataW Unit)}{ps:List MemPlace}{g:Nat}{t e:TypeId}{n:Nat}
  (hg:P.globalNamed name=some g) (Y3:(P.globals[g]?).map (·.type)=some t) (ht:P.underlying t=some (.array n e)) (he:P.underlying e=some (.int k)) (TM:P.cellsOf e=1) (hct:P.cellsOf t=n)
  (h:DataW.LaidVars P W ((name,Lib.tabData k zs)::rest) ps):g<W.heap.size/\∃ o,W.heap[g]? = some o/\Uk k zs o:=by
 obtain⟨g',t',cs,fuel,p,q,Of,NR,z1w,hd,_,_⟩:=h
 refine DW hg ?_
 obtain rfl:=Option.some.inj (hg.symm.trans Of)
 obtain rfl:=Option.some.inj (Y3.symm.trans NR)
 unfold Lib.TabIs
 rw[z1w,<- Lib.cells_of_tab ht he TM hct hd]
theorem QR{P:Program}{W:World}{x:String×DataW Unit}{rest:List (String×DataW Unit)}{ps:List MemPlace}(h:DataW.LaidVars P W (x::rest) ps):∃ q,DataW.LaidVars P W rest q:=by
 obtain⟨g',t',cs,fuel,p,q,Of,NR,z1w,hd,h1,_⟩:=h
 grind
end Go.AM
namespace Go.AM
open Go.RowKit
mutual
def bkE:Expr->Nat
 | .mk _ n s l=>1+((1+((List.length n.2.1+1)+((List.length n.2.2.1+1)+1)))+((List.length s+1)+((bkEs l+1)+1)))
def bkEs:List Expr->Nat
 | []=>0
 | e::r=>bkE e+bkEs r
end
def tx{α:Type}(f:α->Nat):List α->Nat
 | []=>0
 | x::r=>f x+tx f r
def bk:(τ:Ty)->den τ->Nat
 | .int _,_=>1
 | .bool,_=>1
 | .str,s=>List.length s+1
 | .sl e,l=>tx (bk e) l+1
 | .nil,_=>1
 | .cons a b,x=>bk a x.1+bk b x.2
 | .expr,x=>bkE x
theorem Cp{α:Type}(l:List α):tx (λ_=>1) l=l.length:=by induction l with | nil=>rfl | cons x r ih=>simp[tx]; omega
theorem MP(l:List Expr):bkEs l=tx (bk .expr) l:=by induction l with | nil=>rfl | cons x r ih=>simp[bkEs,tx,ih,bk]
theorem LP(x:Expr):bk oP x.C8=bk .expr x:=by
 cases x with | mk k n s l =>
 simp only[bk,Expr.C8,bkE,MP,Expr.num,Expr.name,Expr.kids,Cp]
mutual
def wfE:Expr->Prop
 | .mk k n s l=>(IntKind.i64.min<=k/\k<=IntKind.i64.max)/\((True/\((∀ x∈n.2.1,IntKind.u32.min<=x/\x<=IntKind.u32.max)/\((∀ x∈n.2.2.1,IntKind.u32.min<=x/\x<=IntKind.u32.max)/\True)))/\(List.length s<=maxLen/\(wfEs l/\True)))
def wfEs:List Expr->Prop
 | []=>True
 | e::r=>wfE e/\wfEs r
end
def wf:(τ:Ty)->den τ->Prop
 | .int k,n=>k.min<=n/\n<=k.max
 | .bool,_=>True
 | .str,s=>List.length s<=maxLen
 | .sl e,l=>∀ x∈l,wf e x
 | .nil,_=>True
 | .cons a b,x=>wf a x.1/\wf b x.2
 | .expr,x=>wfE x
theorem L0(l:List Expr):wfEs l↔∀ x∈l,wf .expr x:=by induction l with | nil=>simp[wfEs] | cons x r ih=>simp[wfEs,ih,wf]
theorem Lj(x:Expr):wf oP x.C8↔wf .expr x:=by
 cases x with | mk k n s l=>simp only[wf,Expr.C8,wfE,L0,Expr.kind,Expr.num,Expr.name,Expr.kids]
structure HP(H:Type) where
 b:DataW H->Nat
 bs:List (DataW H)->Nat
 str:∀ s,b (.lit (.string s))=s.length+1
 bool:∀ x,b (.lit (.bool x))=1
 int:∀ k n,b (.lit (.int k n))=1
 nil:b .nil=1
 slice:∀ x y,b (.slice x y)=bs x+bs y+1
 agg:∀ x,b (.agg x)=bs x+1
 zero:bs []=0
 cons:∀ x r,bs (x::r)=b x+bs r
section
variable (P:Program) (xid:Nat)
def pQ:Nat->List Field->Bool
 | _,[]=>true
 | o,f::r=>Nat.beq f.offset o&&pQ (o+P.cellsOf f.type) r
def pa:Nat->List Field->Nat
 | o,[]=>o
 | o,f::r=>pa (o+P.cellsOf f.type) r
def Qd:Nat->Nat->Option Ty
 | 0,_=>none
 | n+1,t=>bif Nat.beq t xid then some .expr else
  match P.underlying t with
  | some (.int k)=>some (.int k)
  | some .bool=>some .bool
  | some .string=>some .str
  | some (.slice e)=>match Qd n e with | some a=>bif Nat.beq (P.cellsOf e) a.size&&Nat.blt 0 a.size then some (.sl a)else none | none=>none
  | some (.struct fs)=>bif pQ P 0 fs.toList&&Nat.beq (pa P 0 fs.toList) (P.cellsOf t)then yR (fs.toList.map λf=>Qd n f.type)else none
  | _=>none
def JY(m:Nat):Bool:=match P.underlying xid with
 | some (.struct fs)=>pQ P 0 fs.toList&&Nat.beq (pa P 0 fs.toList) (P.cellsOf xid)&&decide (yR (fs.toList.map λf=>Qd P xid m f.type)=some oP)
 | some _=>false
 | none=>true
end
section
variable {H:Type} {enc:TypeId×Value->H} {P:Program} {w:World} {xid m:Nat} (B:HP H)
def sF(w:World)(B:HP H)(τ:Ty)(cs:List Value)(k:Nat):Prop:=∃ x:den τ,Rc w (λk=>k<w.heap.size) τ x cs/\wf τ x/\bk τ x<=k
theorem pw{fuel:Nat}{cs:List Value}(ih:∀ n t τ cs d ps,Qd P xid n t=some τ->DataW.trod enc P w 0 (λ_=>true) true fuel t cs=some (d,ps)->sF w B τ cs (B.b d)){n:Nat} :
  ∀ (fs:List Field) (o:Nat) (τ:Ty) (xs:List (DataW H×List MemPlace)),yR (fs.map λf=>Qd P xid n f.type)=some τ->pQ P o fs=true->pa P o fs=cs.length->xs.length=fs.length ->
   (∀ (i:Nat) (f:Field),fs[i]? = some f->DataW.trod enc P w 0 (λ_=>true) true fuel f.type ((cs.drop f.offset).take (P.cellsOf f.type))=xs[i]?)->sF w B τ (cs.drop o) (B.bs (xs.map (·.1))+1)
 | [],o,τ,xs,ht,_,he,hl,_=>by
  cases ht
  simp only[pa]at he
  obtain rfl:xs=[]:=List.eq_nil_of_length_eq_zero hl
  refine⟨(),?_,trivial,by simp[bk]⟩
  rw[he,List.drop_length]; exact .nil
 | f::r,o,τ,xs,ht,ho,he,hl,hx=>by
  cases xs with
  | nil=>simp at hl
  | cons x xs =>
  simp only[pQ,Bool.and_eq_true]at ho
  have C4:f.offset=o:=Nat.eq_of_beq_eq_true ho.1
  simp only[List.map_cons]at ht
  cases h1:Qd P xid n f.type with
  | none=>rw[h1]at ht; cases ht
  | some a =>
   rw[h1]at ht
   simp only[yR]at ht
   cases h2:yR (r.map λf=>Qd P xid n f.type)with
   | none=>grind
   | some b =>
    rw[h2]at ht
    cases ht
    obtain⟨x1,p1,p2,p3⟩:=ih n f.type a _ x.1 x.2 h1 (by have:=hx 0 f rfl; simpa using this)
    obtain⟨x2,q1,q2,q3⟩:=pw ih r (o+P.cellsOf f.type) b xs h2 ho.2 he (by simpa using hl) (λi g hg=>by have:=hx (i+1) g (by simpa using hg); simpa using this)
    refine⟨(x1,x2),?_,⟨p2,q2⟩,?_⟩
    ·have e:cs.drop o=(cs.drop o).take (P.cellsOf f.type)++cs.drop (o+P.cellsOf f.type):=by
      conv=>lhs; rw[<- List.take_append_drop (P.cellsOf f.type) (cs.drop o)]
      simp
     rw[e]
     rw[C4]at p1
     exact .cons _ _ _ _ _ _ p1 q1
    ·simp only[bk,List.map_cons,B.cons]; omega
theorem Qo{e:Ty}(k:Nat):∀ (n:Nat) (elems:List (DataW H×List MemPlace)) (g:Nat->List Value),elems.length=n->(∀ i,i<n->∃ d,elems[i]? = some d/\sF w B e (g i) (B.b d.1)) ->
  ∃ l:List (den e),l.length=n/\(∀ i (hi:i<l.length),Rc w (λk=>k<w.heap.size) e l[i] (g i))/\(∀ x∈l,wf e x)/\tx (bk e) l<=B.bs (elems.map (·.1))
 | 0,elems,g,hl,_=>by
  exact⟨[],rfl,λi hi=>absurd hi (Nat.not_lt_zero i),by simp,by simp[tx]⟩
 | n+1,elems,g,hl,h=>by
  cases elems with
  | nil=>simp at hl
  | cons y ys =>
   obtain⟨d,h1,x,h2,h3,h4⟩:=h 0 (by omega)
   simp at h1
   subst h1
   obtain⟨l,l1,l2,l3,l4⟩:=Qo k n ys (λi=>g (i+1)) (by grind) λi hi=>by
    obtain⟨d,h1,h2⟩:=h (i+1) (by omega)
    exact⟨d,by grind,h2⟩
   refine⟨x::l,by grind,λi hi => ?_,λz hz => ?_,?_⟩
   ·grind
   ·grind
   ·simp only[tx,List.map_cons,B.cons]; omega
theorem BA(hx:JY P xid m=true):∀ (fuel n t:Nat) (τ:Ty) (cs:List Value) (d:DataW H) (ps:List MemPlace),Qd P xid n t=some τ->DataW.trod enc P w 0 (λ_=>true) true fuel t cs=some (d,ps)->sF w B τ cs (B.b d):=by
 intro fuel
 induction fuel with
 | zero=>nofun
 | succ fuel ih =>
  intro n t τ cs d ps ht h
  have struct:∀ (fs:Array Field) (k:Nat) (σ:Ty),P.underlying t=some (.struct fs)->(pQ P 0 fs.toList&&Nat.beq (pa P 0 fs.toList) (P.cellsOf t))=true->yR (fs.toList.map λf=>Qd P xid k f.type)=some σ->sF w B σ cs (B.b d):=by
   intro fs k σ hu ho hc
   simp only[Bool.and_eq_true]at ho
   obtain⟨xs,n',hn,hd,hl,Px,Zo⟩:=DataW.trod_struct hu h
   cases hn
   cases hd
   have:=pw B (cs:=cs) (ih:=ih) fs.toList 0 σ xs hc ho.1 (by rw[Nat.eq_of_beq_eq_true ho.2,hl]) (by simpa using Px) (λi f hf=>Zo i f (by simpa using hf))
   rw[B.agg]
   grind
  cases n with
  | zero=>cases ht
  | succ n =>
   unfold Qd at ht
   cases hb:Nat.beq t xid with
   | true =>
    rw[hb,cond_true]at ht
    cases ht
    have:=Nat.eq_of_beq_eq_true hb
    subst this
    unfold JY at hx
    split at hx
    ·rename_i fs hu
     simp only[Bool.and_eq_true,decide_eq_true_eq]at hx
     obtain⟨x,h1,h2,h3⟩:=struct fs m oP hu (by simp[hx.1.1,hx.1.2]) hx.2
     refine⟨Expr.J4 x,.expr _ _ _ _ _ h1,?_,?_⟩
     ·exact(Lj (Expr.J4 x)).1 h2
     ·rw[<- LP (Expr.J4 x)]; exact h3
    ·cases hx
    ·rename_i hu
     rw[DataW.trod_step]at h
     simp[DataW.trodStep,hu]at h
   | false =>
    rw[hb,cond_false]at ht
    split at ht
    ·rename_i k hu
     cases ht
     obtain⟨n',rfl,h2,h3⟩:=DataW.trod_int hu h
     cases h2
     simp only[Lit.wf,Bool.and_eq_true,decide_eq_true_eq]at h3
     exact⟨n',.int k n',h3,by simp[bk,B.int]⟩
    ·rename_i hu
     cases ht
     obtain⟨b,rfl,h2⟩:=DataW.trod_bool hu h
     cases h2
     exact⟨b,.bool b,trivial,by simp[bk,B.bool]⟩
    ·rename_i hu
     cases ht
     obtain⟨s,rfl,h2,h3⟩:=DataW.trod_string hu h
     cases h2
     refine⟨s.data.toList,?_,?_,?_⟩
     ·have:s=⟨s.data.toList.toArray⟩:=by cases s; simp
      exact .str _
     ·simp only[wf,Array.length_toList]; exact h3
     ·simp[bk,B.str]
    ·rename_i e hu
     split at ht
     ·rename_i a ha
      cases hc:Nat.beq (P.cellsOf e) a.size&&Nat.blt 0 a.size with
      | false=>grind
      | true =>
       rw[hc,cond_true]at ht
       cases ht
       simp only[Bool.and_eq_true]at hc
       have vb:P.cellsOf e=a.size:=Nat.eq_of_beq_eq_true hc.1
       have nU:0<a.size:=Nat.le_of_ble_eq_true hc.2
       rcases DataW.trod_slice hu h with⟨rfl,h2⟩ | ⟨p,len,cap,elems,rest,n',hn,rfl,hd,_,qR,_,hlen,OH,IS,_⟩
       ·cases h2
        exact⟨[],.kR a none,by simp[wf],by simp[bk,tx,B.nil]⟩
       ·cases hn
        cases hd
        by_cases h0:cap=0
        ·subst h0
         have:len=0:=by omega
         subst this
         exact⟨[],.kR a (some p),by simp[wf],by simp[bk,tx,B.slice]⟩
        ·rw[vb]at OH IS
         have Ro:p.block<w.heap.size/\p.spot=none:=by
          have first:∃ x,(w.cells? 0 p a.size)=some x:=by
           by_cases hl:len=0
           ·have:=(IS rfl).2 0 (by omega)
            cases hcc:w.cells? 0 p a.size with
            | some x=>simp
            | none =>
             have e0:p.add ((0+0)*a.size)=p:=by simp[Addr.add]
             grind
           ·have:=OH 0 (by omega)
            cases hcc:w.cells? 0 p a.size with
            | some x=>simp
            | none =>
             have e0:p.add (0*a.size)=p:=by simp[Addr.add]
             grind
          obtain⟨x,hx⟩:=first
          refine⟨World.cells?_block hx nU,?_⟩
          have h2:=(World.cells?_some hx).2
          have h3:=h2.2 0 nU
          have e0:p.add 0=p:=rfl
          cases hs:p.spot with
          | none=>rfl
          | some q =>
           unfold World.cell? at h3
           grind
         obtain⟨blk,off,sp⟩:=p
         obtain⟨CT,mX⟩:=Ro
         subst mX
         have hg:∀ i,∃ c:List Value,i<len->∃ d,elems[i]? = some d/\sF w B a c (B.b d.1)/\w.cells? 0 ⟨blk,off+i*a.size,none⟩ a.size=some c:=by
          intro i
          by_cases hi:i<len
          ·have:=OH i hi
           rw[addr_add]at this
           cases hcc:w.cells? 0 ⟨blk,off+i*a.size,none⟩ a.size with
           | none =>
            grind
           | some c =>
            refine⟨c,λ_=>⟨elems[i]'(by omega),by simp,?_,rfl⟩⟩
            grind
          ·exact⟨[],λh=>absurd h hi⟩
         let g:Nat->List Value:=λi=>Classical.choose (hg i)
         have Of:∀ i,i<len->∃ d,elems[i]? = some d/\sF w B a (g i) (B.b d.1)/\w.cells? 0 ⟨blk,off+i*a.size,none⟩ a.size=some (g i):=λi hi=>Classical.choose_spec (hg i) hi
         obtain⟨l,l1,l2,l3,l4⟩:=Qo B (w:=w) (e:=a) 0 len elems g hlen λi hi=>by
          grind
         refine⟨l,?_,l3,?_⟩
         ·have:=Rc.sl (w:=w) (ok:=λk=>k<w.heap.size) a l blk off cap g CT (by omega) l2 λi hi j v hj=>by
           obtain⟨d,_,_,h3⟩:=Of i (by omega)
           obtain⟨_,k2,k3⟩:=World.cells?_some h3
           have BW:j<(g i).length:=(List.getElem?_eq_some_iff.1 hj).1
           have:=k3 j (by omega)
           rw[addr_add,hj]at this
           exact this
          grind
         ·simp only[bk,B.slice]; omega
     ·cases ht
    ·rename_i fs hu
     cases hc:pQ P 0 fs.toList&&Nat.beq (pa P 0 fs.toList) (P.cellsOf t)with
     | false=>grind
     | true =>
      rw[hc,cond_true]at ht
      exact struct fs n τ hu hc ht
    ·cases ht
end
end Go.AM
namespace Go.AM
set_option linter.unusedSectionVars false
variable [we]
open Go.RowKit Go.ChangeShapes
def ZQ:List Ty->Type
 | []=>Unit
 | τ::r=>den τ×ZQ r
def OX:(τs:List Ty)->ZQ τs->List D
 | [],_=>[]
 | τ::r,x=>.zj τ x.1::OX r x.2
def wfL:(τs:List Ty)->ZQ τs->Prop
 | [],_=>True
 | τ::r,x=>wf τ x.1/\wfL r x.2
def RT:(τs:List Ty)->ZQ τs->Nat
 | [],_=>0
 | τ::r,x=>bk τ x.1+RT r x.2
def nO(P:Program)(ts:List Nat):Bool:=ts.all λt=>P.readableRec t&&decide (t<P.types.size)
section
variable {H:Type} {enc:TypeId×Value->H} {P:Program} {xid m n:Nat} {w:World}
theorem PD{t:Nat}{τ:Ty}{v:Value}{base:Nat}(ht:Qd P xid n t=some τ)(hx:JY P xid m=true)(h:Value.okWide P w .any base t v):pk τ v.cells.toList=v:=by
 cases n with
 | zero=>cases ht
 | succ n =>
  have agg:∀ fs:Array Field,P.underlying t=some (.struct fs)->τ.isAgg=true->pk τ v.cells.toList=v:=by
   intro fs hu ha
   unfold Value.okWide at h
   rw[hu]at h
   obtain⟨cs,rfl,_⟩:=h
   simp[pk,ha,Value.cells]
  unfold Qd at ht
  cases hb:Nat.beq t xid with
  | true =>
   rw[hb,cond_true]at ht
   cases ht
   have:=Nat.eq_of_beq_eq_true hb
   subst this
   unfold JY at hx
   split at hx
   ·rename_i fs hu; exact agg fs hu rfl
   ·cases hx
   ·rename_i hu
    unfold Value.okWide at h
    rw[hu]at h
    simp[Cell.okWide,Cell.ok,hu]at h
  | false =>
   rw[hb,cond_false]at ht
   split at ht
   ·rename_i k hu
    cases ht
    unfold Value.okWide at h
    rw[hu]at h
    simp only[Cell.okWide,hu,Cell.ok]at h
    split at h<;>simp_all [pk,Ty.isAgg,Value.cells]
   ·rename_i hu
    cases ht
    unfold Value.okWide at h
    rw[hu]at h
    simp only[Cell.okWide,hu,Cell.ok]at h
    split at h<;>simp_all [pk,Ty.isAgg,Value.cells]
   ·rename_i hu
    cases ht
    unfold Value.okWide at h
    rw[hu]at h
    simp only[Cell.okWide,hu,Cell.ok]at h
    split at h<;>simp_all [pk,Ty.isAgg,Value.cells]
   ·rename_i e hu
    have h1:τ.isAgg=false:=by
     split at ht
     ·rename_i a ha
      cases hc:Nat.beq (P.cellsOf e) a.size&&Nat.blt 0 a.size with
      | false=>grind
      | true=>rw[hc,cond_true]at ht; cases ht; rfl
     ·cases ht
    unfold Value.okWide at h
    rw[hu]at h
    simp only[Cell.okWide,hu,Cell.ok]at h
    split at h<;>simp_all [pk,Value.cells]
   ·rename_i fs hu
    refine agg fs hu ?_
    cases hc:pQ P 0 fs.toList&&Nat.beq (pa P 0 fs.toList) (P.cellsOf t)with
    | false=>grind
    | true =>
     rw[hc,cond_true]at ht
     have key:∀ (l:List (Option Ty)),yR l=some τ->τ.isAgg=true:=by
      intro l hl
      cases l with
      | nil=>cases hl; rfl
      | cons a r =>
       cases a with
       | none=>cases hl
       | some a =>
        simp only[yR]at hl
        cases h2:yR r with
        | none=>grind
        | some b=>rw[h2]at hl; cases hl; rfl
     grind
   ·cases ht
theorem Uo(B:HP H)(hx:JY P xid m=true){base:Nat}:∀ (ts:List TypeId) (τs:List Ty) (vs:List Value) (ds:List (DataW H)) (ps:List MemPlace),ts.map (Qd P xid n)=τs.map some ->
  DataW.TrodAll enc P w 0 (λ_=>true) true ts vs ds ps->(∀ (j:Nat) t v,ts[j]? = some t->vs[j]? = some v->Value.okWide P w .any base t v) ->
  ∃ x:ZQ τs,zU ⟨w,λk=>k<w.heap.size,[],[]⟩ (OX τs x) vs/\wfL τs x/\RT τs x<=B.bs ds/\ds.length=τs.length
 | [],τs,vs,ds,ps,ht,h,_=>by
  cases τs with
  | cons=>cases ht
  | nil =>
   cases vs<;>cases ds<;>simp only[DataW.TrodAll]at h
   exact⟨(),⟨rfl,λi h1=>absurd h1 (Nat.not_lt_zero i)⟩,trivial,Nat.zero_le _,rfl⟩
 | t::ts,τs,vs,ds,ps,ht,h,hv=>by
  cases τs with
  | nil=>cases ht
  | cons τ τs =>
   simp at ht
   cases vs with
   | nil=>simp[DataW.TrodAll]at h
   | cons v vs =>
    cases ds with
    | nil=>simp[DataW.TrodAll]at h
    | cons d ds =>
     obtain⟨p,q,⟨fuel,h1⟩,h2,_⟩:=h
     obtain⟨x,k1,k2,k3⟩:=BA B hx fuel n t τ _ d p ht.1 h1
     obtain⟨y,g1,g2,g3,g4⟩:=Uo B hx ts τs vs ds q ht.2 h2 λj t v a b=>hv (j+1) t v (by grind) (by grind)
     refine⟨(x,y),⟨by simp only[OX,List.length_cons]; rw[g1.1],λi h1 h2 => ?_⟩,⟨k2,g2⟩,?_,by grind⟩
     ·cases i with
      | zero =>
       have:=RD.zj (κ:=⟨w,λk=>k<w.heap.size,[],[]⟩) τ x _ k1
       rw[PD ht.1 hx (hv 0 t v rfl rfl)]at this
       exact this
      | succ i=>exact g1.2 i (by simpa[OX]using h1) (by grind)
     ·simp only[RT,B.cons]; omega
theorem Xh(hl:laidOutB P=true){W W':World}(hb:Below W.heap.size W W'):∀ (ts:List TypeId) (vs:List Value) (ds:List (DataW H)) (ps:List MemPlace),nO P ts=true ->
  DataW.TrodAll enc P W 0 (λ_=>true) true ts vs ds ps->(∀ x∈ps,x.block<W.heap.size)->DataW.TrodAll enc P W' 0 (λb=>decide (b<W.heap.size)) true ts vs ds ps
 | [],vs,ds,ps,_,h,_=>by cases vs<;>cases ds<;>simp_all [DataW.TrodAll]
 | t::ts,vs,ds,ps,ht,h,qc=>by
  cases vs with
  | nil=>simp[DataW.TrodAll]at h
  | cons v vs =>
   cases ds with
   | nil=>simp[DataW.TrodAll]at h
   | cons d ds =>
    obtain⟨p,q,h1,h2,rfl⟩:=h
    simp only[nO,List.all_cons,Bool.and_eq_true,decide_eq_true_eq]at ht
    exact⟨p,q,Below.trod hl ht.1.1 ht.1.2 h1 hb λx hx=>qc x (by grind),Xh hl hb ts vs ds q (by simpa[nO]using ht.2) h2 λx hx=>qc x (by grind),rfl⟩
end
theorem HJ{H:Type}{enc:TypeId×Value->H}{P:Program}{f:Nat}{fn:Func}{S:List D->St->T (ZI×St)}(hS:WZ P f S)(hf:P.funcs[f]? = some fn)(hbd:fn.body.isNone=false) (RZ:(fn.name == "runtime.NumGoroutine")=false)
  (hl:laidOutB P=true) (xid m n:Nat) (τs:List Ty) (hts:nO P fn.params.toList=true) (hτ:fn.params.toList.map (Qd P xid n)=τs.map some) (hx:JY P xid m=true)
  {bt:TypeId} (hr:fn.resultTypes = #[bt]) (TX:P.underlying bt=some .bool) {s:ChangeSpec} (hv:s.vars=[]) (hs:∀ ds:List (DataW H),ds.length=τs.length->s.fn H ds={ results:=[.lit (.bool true)],args:=ds })
  (B:HP H) {lim:Nat} (law:∀ x:ZQ τs,wfL τs x->RT τs x<=lim->(S (OX τs x) []).leads (.ret [.zj .bool true],[]))
  {fresh handsOn:Bool} {W:World} {base:Nat} {args:Array Value} {ds gs:List (DataW H)} {before:List MemPlace}
  (hval:∀ (j:Nat) t v,fn.params[j]? = some t->args[j]? = some v->Value.okWide P W .any base t v)
  (hW:DataW.Whole enc P fn.params.toList s.vars false W args.toList ds gs before) (hk:B.bs (ds++gs)<=lim) (hG:ml W λk=>k<W.heap.size) :
  Calls P f args W λe W'=>∃ v,e=.returned v/\s.post enc P fn false fresh handsOn false W args v W':=by
 have hW':=hW
 obtain⟨p,q,hA,hV,rfl,hfz,hnd⟩:=hW
 rw[hv]at hV
 obtain⟨rfl,rfl⟩:=trodVars_none hV
 simp only[List.append_nil]at hk hW'
 obtain⟨x,h1,h2,h3,h4⟩:=Uo (n:=n) B hx fn.params.toList τs args.toList ds p hτ hA λj t v a b=>hval j t v (by grind) (by grind)
 have hI:Inv ⟨W,λk=>k<W.heap.size,[],[]⟩ :=
  ⟨rfl,λk hk=>hk,λb blk n h=>by grind,λb b' blk n n' h=>by simp at h,λb x h=>by simp at h,hG⟩
 have NX:=hS ⟨W,λk=>k<W.heap.size,[],[]⟩ (OX τs x) args.toList _ _ (law x h2 (Nat.le_trans h3 hk)) hI h1
 rw[Array.toArray_toList]at NX
 have key:Calls P f args W λe w'=>∃ κ':KS,κ'.w=w'/\κ'.st=[]/\Inv κ'/\Ext ⟨W,λk=>k<W.heap.size,[],[]⟩ κ'/\qL κ' (.ret [.zj .bool true]) e:=by
  rcases NX with⟨_,h⟩ | ⟨v,w',h,_⟩
  ·exact h
  ·have:=xy (args:=args) hf RZ hbd W
   grind
 refine key.mono λe W' ⟨κ',e1,_,_,e4,v,e5,e6⟩ => ?_
 subst e1
 have hb:Below W.heap.size W κ'.w:=⟨e4.os,e4.tape,e4.output,e4.size,λk hk=>e4.frame k hk λb n h=>by simp at h⟩
 have Oj:v=.bool true:=by
  obtain⟨cs,g1,g2⟩:=RD.uR (show RD κ' (.zj .bool true) v from e6)
  rw[g1.um]at g2
  exact g2
 subst Oj
 have qc:∀ x∈p,x.block<W.heap.size:=λx hx=>by simpa using hW'.lt x hx
 refine⟨_,e5,ds,[],p,[],p,[],hW',?_,?_,?_,hb.frame _,λh=>by cases h⟩
 ·rw[List.append_nil,hs ds h4,hr]
  exact trodAll_cons_mk (shut_bool TX _) trodAll_mk0
 ·rw[List.append_nil,hs ds h4]
  exact Xh hl hb _ _ _ _ hts hA qc
 ·rw[List.append_nil,hs ds h4,hv]
  rfl
end Go.AM
namespace Go.AM
def UP:List Ty->Type
 | []=>Unit
 | [τ]=>den τ
 | τ::σ::r=>den τ×UP (σ::r)
def o9.ty:o9->Ty | .rp τ=>τ | .im τ=>τ
def kv:List o9->Type
 | []=>Unit
 | [p]=>den p.ty
 | p::q::r=>den p.ty×kv (q::r)
def Qq:(p:o9)->den p.ty->D
 | .rp τ,x=>.qf τ x
 | .im τ,x=>.zj τ x
def da:(l:List o9)->kv l->List D
 | [],_=>[]
 | [p],x=>[Qq p x]
 | p::q::r,x=>Qq p x.1::da (q::r) x.2
def VK:(l:List o9)->kv l
 | []=>()
 | [p]=>zd p.ty
 | p::q::r=>(zd p.ty,VK (q::r))
inductive Sk where
 | im (τ:Ty) | row (b:Nat) (e:Ty) | op (b T:Nat) | un | nl
def y4:List Sk->Type
 | []=>Unit
 | .im τ::r=>den τ×y4 r
 | .row _ _::r=>y4 r
 | .op _ _::r=>y4 r
 | .un::r=>y4 r
 | .nl::r=>y4 r
def iV:(l:List Sk)->y4 l
 | []=>()
 | .im τ::r=>(zd τ,iV r)
 | .row _ _::r=>iV r
 | .op _ _::r=>iV r
 | .un::r=>iV r
 | .nl::r=>iV r
inductive Mc where
 | im (τ:Ty) | rp (τ:Ty) | pt (b:Nat)
def dv:List Mc->Type
 | []=>Unit
 | .im τ::r=>den τ×dv r
 | .rp τ::r=>den τ×dv r
 | .pt _::r=>dv r
def sb:(l:List Mc)->dv l
 | []=>()
 | .im τ::r=>(zd τ,sb r)
 | .rp τ::r=>(zd τ,sb r)
 | .pt _::r=>sb r
def lh:(l:List Mc)->dv l->List D
 | [],_=>[]
 | .im τ::r,x=>.zj τ x.1::lh r x.2
 | .rp τ::r,x=>.qf τ x.1::lh r x.2
 | .pt b::r,x=>.ptr b 0::lh r x
inductive Dk where
 | zj (τ:Ty) | qf (τ:Ty) | sub (b:Nat) (e:Ty) | zK (f:Nat) (caps:List o9) | st (ks:List Sk) | mclo (f:Nat) (ms:List Mc) | mp | bu (e:Ty)
inductive Ck where
 | ptr (b off:Nat) | cur (b:Nat) (e:Ty) | zW | wJ | q8 | zK (f:Nat) (l:List (Nat×Nat)) | w8 (b:Nat) | qC
inductive Bk where
 | var (k:Dk) | cvar (k:Ck) | arr (e:Ty) | dead
def Dk.den:Dk->Type
 | .zj τ=>AM.den τ
 | .qf τ=>AM.den τ
 | .sub _ _=>Nat×Nat
 | .zK _ caps=>kv caps
 | .st ks=>y4 ks
 | .mclo _ ms=>dv ms
 | .mp=>List Int
 | .bu e=>List (AM.den e)×Bool
def Dk.zd:(k:Dk)->k.den
 | .zj τ=>AM.zd τ
 | .qf τ=>AM.zd τ
 | .sub _ _=>(0,0)
 | .zK _ caps=>VK caps
 | .st ks=>iV ks
 | .mclo _ ms=>sb ms
 | .mp=>[]
 | .bu _=>([],false)
inductive It where
 | s (t:Nat) (k:Dk) | v (k:Dk) | a (e:Ty)
def It.den:It->Type
 | .s _ k=>k.den
 | .v k=>k.den
 | .a e=>List (AM.den e)
def It.zd:(i:It)->i.den
 | .s _ k=>k.zd
 | .v k=>k.zd
 | .a _=>[]
def xk:List It->Type
 | []=>Unit
 | [i]=>i.den
 | i::j::r=>i.den×xk (j::r)
def z3l:vX->Nat
 | .arr v _ _=>v
 | _=>0
def qU(st:St)(b:Nat):Nat:=match st[b]? with | some x=>z3l x | none=>0
def qN(st:St):(l:List Sk)->y4 l->List D
 | [],_=>[]
 | .im τ::r,x=>AM.flat τ x.1++qN st r x.2
 | .row b e::r,x=>.ms b (qU st b) e 0 (qU st b)::qN st r x
 | .op b T::r,x=>.ja b T::qN st r x
 | .un::r,x=>.lr::qN st r x
 | .nl::r,x=>.zW::qN st r x
def eH(st:St):(k:Dk)->k.den->D
 | .zj τ,x=>.zj τ x
 | .qf τ,x=>.qf τ x
 | .sub b e,x=>.ms b (qU st b) e x.1 x.2
 | .zK f caps,x=>.zK f (da caps x)
 | .st ks,x=>.agg (qN st ks x)
 | .mclo f ms,x=>.zK f (lh ms x)
 | .mp,x=>.QZ x
 | .bu e,x=>.bu e x.1 x.2
def V5(st:St):Ck->D
 | .ptr b off=>.ptr b off
 | .cur b e=>.ms b (qU st b) e 0 (qU st b)
 | .zW=>.zW
 | .wJ=>.wJ
 | .q8=>.q8
 | .zK f l=>.zK f (l.map λp=>.ptr p.1 p.2)
 | .w8 b=>.w8 b
 | .qC=>.qC
def yF(st:St):(l:List It)->xk l->Fr
 | [],_=>[]
 | [.s t k],x=>[(t,some (eH st k x))]
 | [.v _],_=>[]
 | [.a _],_=>[]
 | .s t k::j::r,x=>(t,some (eH st k x.1))::yF st (j::r) x.2
 | .v _::j::r,x=>yF st (j::r) x.2
 | .a _::j::r,x=>yF st (j::r) x.2
def LA(st:St)(l:List (Nat×Ck)):Fr:=l.map λp=>(p.1,some (V5 st p.2))
inductive Bd where
 | v (k:Dk) (x:k.den) | a (e:Ty) (x:List (AM.den e))
def cE:(l:List It)->xk l->List Bd
 | [],_=>[]
 | [.s _ _],_=>[]
 | [.v k],x=>[.v k x]
 | [.a e],x=>[.a e x]
 | .s _ _::j::r,x=>cE (j::r) x.2
 | .v k::j::r,x=>.v k x.1::cE (j::r) x.2
 | .a e::j::r,x=>.a e x.1::cE (j::r) x.2
def jI:List Bk->List Bd->St
 | [],_=>[]
 | .arr _::r,.a e x::d=>.arr x.length e x::jI r d
 | .var _::r,_::d=>.dead::jI r d
 | .cvar _::r,d=>.dead::jI r d
 | .dead::r,d=>.dead::jI r d
 | _::_,_=>[]
def qY(st:St):List Bk->List Bd->St
 | [],_=>[]
 | .arr _::r,.a e x::d=>.arr x.length e x::qY st r d
 | .var _::r,.v k x::d=>.var (eH st k x)::qY st r d
 | .cvar c::r,d=>.var (V5 st c)::qY st r d
 | .dead::r,d=>.dead::qY st r d
 | _::_,_=>[]
def z8h(bs:List Bk)(d:List Bd):St:=qY (jI bs d) bs d
structure qz where
 k7:List It
 cs:List (Nat×Ck)
 bs:List Bk
def qz.den(s:qz):Type:=xk s.k7
def qz.st(s:qz)(x:s.den):St:=z8h s.bs (cE s.k7 x)
def qz.fr(s:qz)(x:s.den):Fr:=yF (s.st x) s.k7 x++LA (s.st x) s.cs
def YW:(p:o9)->D->Option (den p.ty)
 | .rp τ,d=>match d with | .qf _ x=>xu x | _=>none
 | .im τ,d=>gF τ d
def JN:(l:List o9)->List D->Option (kv l)
 | [],[]=>some ()
 | [p],[d]=>YW p d
 | p::q::r,d::ds=>(YW p d).bind λx=>(JN (q::r) ds).bind λy=>some (x,y)
 | _,_=>none
def kV(st:St)(b:Nat):Nat:=match st[b]? with | some (.arr _ _ xs)=>xs.length | _=>0
def DO(st:St)(b T:Nat)(ds:List D):Option (List D):=match st[b]? with
 | some (.var _)=>match ds with
  | .yA T'::ds=>bif Nat.beq T T' then some ds else none
  | .ja b' T'::ds=>bif Nat.beq b b'&&Nat.beq T T' then some ds else none
  | _=>none
 | _=>none
def OV(ds:List D):Option (List D):=match ds with
 | d::ds=>bif d.one then some ds else none
 | _=>none
def Py(ds:List D):Option (List D):=match ds with
 | .zW::ds=>some ds
 | _=>none
def yW(st:St):(l:List Sk)->List D->T (y4 l)
 | [],ds=>match ds with | []=>.ret () | _=>.fail
 | .im τ::r,ds=>match vO τ ds with | some p=>(yW st r p.2).bind λy=>.ret (p.1,y) | none=>.fail
 | .row b e::r,ds=>match ds with
  | .ms b' q7 e' off len::ds=>bif Nat.beq b b'&&decide (e=e')then .zb (zn q7 off len (kV st b)) (yW st r ds)else .fail
  | _=>.fail
 | .op b T::r,ds=>match DO st b T ds with | some q=>yW st r q | none=>.fail
 | .un::r,ds=>match OV ds with | some q=>yW st r q | none=>.fail
 | .nl::r,ds=>match Py ds with | some q=>yW st r q | none=>.fail
def oU:(l:List Mc)->List D->T (dv l)
 | [],ds=>match ds with | []=>.ret () | _=>.fail
 | .im τ::r,ds=>match ds with
  | d::ds=>match gF τ d with | some y=>(oU r ds).bind λz=>.ret (y,z) | none=>.fail
  | _=>.fail
 | .rp τ::r,ds=>match ds with
  | .qf _ x::ds=>match(xu x:Option (AM.den τ))with | some y=>(oU r ds).bind λz=>.ret (y,z) | none=>.fail
  | _=>.fail
 | .pt b::r,ds=>match ds with
  | .ptr b' off::ds=>bif Nat.beq b b'&&Nat.beq off 0 then oU r ds else .fail
  | _=>.fail
def fB(st:St):(k:Dk)->D->T k.den
 | .zj τ,d=>.QV (gF τ d)
 | .qf τ,d=>match d with | .qf _ x=>.QV (xu x) | _=>.fail
 | .sub b e,d=>match d with
  | .ms b' q7 e' off len=>bif Nat.beq b b'&&decide (e=e')then .zb (q7=qU st b) (.ret (off,len))else .fail
  | _=>.fail
 | .zK f caps,d=>match d with
  | .zK f' l=>bif Nat.beq f f' then .QV (JN caps l)else .fail
  | _=>.fail
 | .st ks,d=>bif d.vN then yW st ks (zC d)else .fail
 | .mclo f ms,d=>match d with
  | .zK f' l=>bif Nat.beq f f' then oU ms l else .fail
  | _=>.fail
 | .mp,d=>match d with | .QZ l=>.ret l | _=>.fail
 | .bu e,d=>match d with
  | .zW=>.ret ([],false)
  | .bu e' l b=>match(xu (a:=.sl e') (b:=.sl e) l:Option (List (AM.den e)))with | some l=>.ret (l,b) | none=>.fail
  | _=>.fail
def mu:List (Nat×Nat)->List D->Bool
 | [],[]=>true
 | p::r,.ptr b off::ds=>Nat.beq p.1 b&&Nat.beq p.2 off&&mu r ds
 | _,_=>false
def nn(st:St):Ck->D->T Unit
 | .ptr b off,d=>match d with | .ptr b' off'=>bif Nat.beq b b'&&Nat.beq off off' then .ret ()else .fail | _=>.fail
 | .cur b e,d=>match d with
  | .ms b' q7 e' off len=>bif Nat.beq b b'&&decide (e=e')then .zb (zn q7 off len (kV st b)) (.ret ())else .fail
  | _=>.fail
 | .zW,d=>match d with | .zW=>.ret () | _=>.fail
 | .wJ,d=>match d with | .wJ=>.ret () | _=>.fail
 | .q8,d=>match d with | .q8=>.ret () | _=>.fail
 | .zK f l,d=>match d with | .zK f' l'=>bif Nat.beq f f'&&mu l l' then .ret ()else .fail | _=>.fail
 | .w8 b,d=>match d with | .w8 b'=>bif Nat.beq b b' then .ret ()else .fail | _=>.fail
 | .qC,d=>match d with | .qC=>.ret () | _=>.fail
def MF(fr:Fr)(st:St):List (Nat×Ck)->T Unit
 | []=>.ret ()
 | p::r=>match fr.get p.1 with
  | some d=>(nn st p.2 d).bind λ_=>MF fr st r
  | none=>.fail
def Ez(e:Ty)(b:vX):T (List (den e)):=match b with
 | .arr q7 _ xs=>match(xu (a:=.sl _) (b:=.sl e) xs:Option (List (den e)))with
  | some ys=>.zb (q7=ys.length) (.ret ys)
  | none=>.fail
 | _=>.fail
def Dk.plain:Dk->Bool
 | .zj _=>true
 | .qf _=>true
 | .st _=>true
 | .mp=>true
 | _=>false
def CU(st:St)(k:Dk)(b:vX):T k.den:=match b with
 | .var d=>bif k.plain then fB st k d else .fail
 | _=>.fail
def JP:vX->Bool | .var _=>true | _=>false
def Qa(st:St):List Bk->List vX->T (List vX)
 | [],_=>.ret []
 | .arr _::r,b::bl=>(Qa st r bl).bind λl=>.ret (b::l)
 | .var _::r,b::bl=>(Qa st r bl).bind λl=>.ret (b::l)
 | .cvar c::r,.var d::bl=>(nn st c d).bind λ_=>Qa st r bl
 | .dead::r,b::bl=>bif JP b then .fail else Qa st r bl
 | _,_=>.fail
def VA(fr:Fr)(st:St)(bl:List vX):(i:It)->T (i.den×List vX)
 | .s t k=>match fr.get t with | some d=>(fB st k d).bind λx=>.ret (x,bl) | none=>.fail
 | .v k=>match bl with | b::r=>(CU st k b).bind λx=>.ret (x,r) | []=>.fail
 | .a e=>match bl with | b::r=>(Ez e b).bind λx=>.ret (x,r) | []=>.fail
def U5{α:Type}(x:α×List vX):T α:=match x.2 with | []=>.ret x.1 | _=>.fail
def QM(fr:Fr)(st:St):(l:List It)->List vX->T (xk l)
 | [],bl=>U5 ((),bl)
 | [i],bl=>(VA fr st bl i).bind U5
 | i::j::r,bl=>(VA fr st bl i).bind λx=>(QM fr st (j::r) x.2).bind λy=>.ret (x.1,y)
def rowAt(bs:List Bk)(b:Nat):Bool:=match bs[b]? with | some (.arr _)=>true | _=>false
def n9(bs:List Bk)(b:Nat):Bool:=match bs[b]? with | some (.var _)=>true | some (.cvar _)=>true | _=>false
def MU(bs:List Bk):Sk->Bool
 | .row b _=>rowAt bs b
 | .op b _=>n9 bs b
 | _=>true
def z4y(bs:List Bk):Mc->Bool
 | .pt b=>n9 bs b
 | _=>true
def Vf(bs:List Bk):Dk->Bool
 | .mclo _ ms=>ms.all (z4y bs)
 | .sub b _=>rowAt bs b
 | .st ks=>ks.all (MU bs)
 | _=>true
def HB(bs:List Bk):Ck->Bool
 | .ptr b _=>n9 bs b
 | .cur b _=>rowAt bs b
 | .zK _ l=>l.all λp=>n9 bs p.1
 | .w8 b=>n9 bs b
 | _=>true
def z6u(bs:List Bk):It->Bool
 | .s _ k=>Vf bs k
 | .v k=>Vf bs k
 | .a _=>true
def z7a(bs:List Bk):Bk->Bool
 | .cvar c=>HB bs c
 | _=>true
def kinds:List It->List Bool
 | []=>[]
 | .s _ _::r=>kinds r
 | .v _::r=>false::kinds r
 | .a _::r=>true::kinds r
def jD:List Bk->List Bool->Bool
 | [],[]=>true
 | .arr _::bs,b::r=>b&&jD bs r
 | .var _::bs,b::r => !b&&jD bs r
 | .cvar _::bs,l=>jD bs l
 | .dead::bs,l=>jD bs l
 | _,_=>false
def qz.ok(s:qz):Bool:=jD s.bs (kinds s.k7)&&s.k7.all (z6u s.bs)&&s.cs.all (λp=>HB s.bs p.2)&&s.bs.all (z7a s.bs)
def qz.un(s:qz)(fr:Fr)(st:St):T s.den :=
 bif s.ok&&(st.take s.bs.length).all (WR s.bs.length)then(MF fr st s.cs).bind λ_=>(Qa st s.bs st).bind λbl=>QM fr st s.k7 bl
 else .fail
structure Way where
 ex:Ex
 sh:qz
def kI:List Way->Type
 | []=>Empty
 | [w]=>w.sh.den
 | w::v::r=>w.sh.den⊕kI (v::r)
def Yz{α:Type}:(l:List Way)->kI l->(Ex->Fr->St->T α)->T α
 | [],x,_=>nomatch x
 | [w],x,k=>k w.ex (w.sh.fr x) (w.sh.st x)
 | w::v::r,x,k=>Sum.elim (λa=>k w.ex (w.sh.fr a) (w.sh.st a)) (λb=>Yz (v::r) b k) x
def fb:Ex->Ex->Bool
 | .normal,.normal=>true
 | .ret,.ret=>true
 | .exit a,.exit b=>Nat.beq a b
 | .wN (.iface t _),.wN (.iface t' _)=>Nat.beq t t'
 | _,_=>false
def ZK:Ex->Fr->Fr
 | .wN (.iface _ d),_=>[(0,some d)]
 | _,fr=>fr
def U2:Ex->Fr->Option (Ex×Fr)
 | .wN (.iface t _),fr=>match fr.get 0 with | some d=>some (.wN (.iface t d),[]) | none=>none
 | .wN _,_=>none
 | e,fr=>some (e,fr)
def Wx:(l:List Way)->Ex->Fr->St->T (kI l)
 | [],_,_,_=>.fail
 | [w],ex,fr,st=>bif fb w.ex ex then w.sh.un fr st else .fail
 | w::v::r,ex,fr,st=>bif fb w.ex ex then(w.sh.un fr st).bind λx=>.ret (.inl x)else(Wx (v::r) ex fr st).bind λy=>.ret (.inr y)
end Go.AM
namespace Go.AM
set_option linter.unusedSectionVars false
variable [we] [X0]
section
variable {c:Ctx} {n:Nat}
theorem get_mem:∀ {l:Fr} {s:Nat} {d:D},l.get s=some d->(s,some d)∈l
 | [],s,d,h=>by cases h
 | (t,d')::r,s,d,h=>by
  simp only[Fr.get]at h
  cases ht:Nat.beq t s with
  | true =>
   rw[ht,cond_true]at h
   rw[Nat.eq_of_beq_eq_true ht,h]
   simp
  | false=>rw[ht,cond_false]at h; exact List.mem_cons_of_mem _ (get_mem h)
theorem get_append{l m:Fr}{s:Nat}{d:D}(h:(l++m).get s=some d):(s,some d)∈l\/m.get s=some d:=by
 induction l with
 | nil=>grind
 | cons p r ih =>
  obtain⟨t,d'⟩:=p
  simp only[List.cons_append,Fr.get]at h
  cases ht:Nat.beq t s with
  | true=>rw[ht,cond_true]at h; rw[Nat.eq_of_beq_eq_true ht,h]; exact .inl List.mem_cons_self
  | false=>grind
structure Wk(κ κ':KS):Prop where
 w:κ'.w=κ.w
 ok:κ'.ok=κ.ok
 ph:κ'.ph=κ.ph
 len:κ'.st.length=κ.st.length
 var:∀ (b:Nat) (d:D),κ.st[b]? = some (vX.var d)->∃ d',κ'.st[b]? = some (vX.var d')
 arr:∀ (b v:Nat) (e:Ty) (xs:List (den e)),κ.st[b]? = some (vX.arr v e xs)->κ'.st[b]? = some (vX.arr v e xs)\/κ'.st[b]? = some vX.dead
 arr':∀ (b v:Nat) (e:Ty) (xs:List (den e)),κ'.st[b]? = some (vX.arr v e xs)->κ.st[b]? = some (vX.arr v e xs)
 dead:∀ (b:Nat),κ.st[b]? = some vX.dead->κ'.st[b]? = some vX.dead
theorem Wk.ext{κ κ':KS}(h:Wk κ κ'):Ext κ κ':=by
 refine⟨by rw[h.w],by rw[h.w],by rw[h.w],by rw[h.w]; exact Nat.le_refl _,λk hk=>⟨by rw[h.ok]; exact hk,by rw[h.w]⟩,λk hk=>.inl (by rw[<- h.ok]; exact hk),
  λb blk m hb=>.inl (by rw[<- h.ph]; exact hb),λb d hd=>⟨h.var b d hd,by rw[h.ph]⟩,λb v0 e xs hb => ?_,h.dead,by rw[h.len]; exact Nat.le_refl _,λk _ _=>by rw[h.w]⟩
 rcases h.arr b v0 e xs hb with g | g
 ·exact .inr ⟨v0,xs,g,Nat.le_refl _,λ_=>⟨by rw[h.ph],rfl⟩⟩
 ·grind
theorem Wk.rd{κ κ':KS}(h:Wk κ κ'){d:D}{v:Value}(hd:RD κ d v):RD κ' d v:=hd.mono h.ext
theorem Wk.inv{κ κ':KS}(h:Wk κ κ')(hI:Inv κ)(hv:∀ (b:Nat) (d:D),κ'.st[b]? = some (vX.var d)->gX κ' b (.var d)):Inv κ':=by
 refine⟨by rw[h.ph,h.len]; exact hI.len,λk hk=>by rw[h.w]; exact hI.ux k (by rw[<- h.ok]; exact hk),λb blk m hb => ?_,λb b' blk m m' hb ZH=>hI.inj b b' blk m m' (by rw[<- h.ph]; exact hb) (by rw[<- h.ph]; exact ZH),λb x hx => ?_,hI.gl.mono h.ext.same⟩
 ·obtain⟨g1,g2⟩:=hI.apart b blk m (by rw[<- h.ph]; exact hb)
  exact⟨by rw[h.w]; exact g1,λhk=>g2 (by rw[<- h.ok]; exact hk)⟩
 ·cases x with
  | dead=>trivial
  | var d=>grind
  | arr v e xs=>exact(hI.blk b _ (h.arr' b v e xs hx)).mono h.ext (by rw[h.ph]) λblk m _=>by rw[h.w]
theorem sO{p:o9}{d:D}{x:den p.ty}(h:YW p d=some x){κ:KS}{v:Value}(hd:RD κ d v):RD κ (Qq p x) v:=by
 cases p with
 | rp τ =>
  cases d<;>simp only[YW]at h<;>try (cases h; done)
  obtain⟨e,hx⟩:=zI h
  cases e
  cases hx
  exact hd
 | im τ=>exact yf hd h
theorem ri{κ:KS}:∀ (l:List o9) (ds:List D) (x:kv l) (vs:List Value),JN l ds=some x->zU κ ds vs->zU κ (da l x) vs
 | [],[],x,vs,_,hd=>by rw[hd.zG]; exact .nil
 | [],_::_,_,_,h,_=>nomatch h
 | [p],[],_,_,h,_=>nomatch h
 | [p],[d],x,vs,h,hd=>by
  obtain⟨v,us,rfl,h1,h2⟩:=hd.cons_inv
  rw[h2.zG]
  exact .cons (sO h h1) .nil
 | [p],_::_::_,_,_,h,_=>nomatch h
 | p::q::r,[],_,_,h,_=>nomatch h
 | p::q::r,d::ds,x,vs,h,hd=>by
  obtain⟨y,hy,h⟩:=Option.bind_eq_some_iff.1 h
  obtain⟨z,hz,h⟩:=Option.bind_eq_some_iff.1 h
  cases h
  obtain⟨v,us,rfl,h1,h2⟩:=hd.cons_inv
  exact .cons (sO hy h1) (ri (q::r) ds z us hz h2)
theorem DY{κ:KS}{d:D}{v:Value}(hd:RD κ d v)(ha:d.vN=true):∃ c,v=.agg c:=by
 cases hd with
 | zj τ x cs h=>exact⟨cs.toArray,by unfold pk; rw[show τ.isAgg=true from ha]; rfl⟩
 | agg l vs hl ho h=>simp
 | _=>cases ha
theorem MH{κ:KS}{b T:Nat}{ds q:List D}{vs:List Value}(hd:zU κ ds vs)(h:DO κ.st b T ds=some q):∃ v us,vs=v::us/\RD κ (.ja b T) v/\zU κ q us:=by
 unfold DO at h
 split at h
 ·rename_i d0 BY
  split at h
  ·rename_i T' ds
   cases hb:Nat.beq T T' with
   | false=>grind
   | true =>
    rw[hb]at h
    cases h
    obtain⟨v,us,rfl,g1,g2⟩:=hd.cons_inv
    exact⟨v,us,rfl,by cases g1; exact .yw b T d0 BY,g2⟩
  ·rename_i b' T' ds
   cases hb:Nat.beq b b'&&Nat.beq T T' with
   | false=>grind
   | true =>
    simp only[Bool.and_eq_true]at hb
    have e1:=Nat.eq_of_beq_eq_true hb.1
    have e2:=Nat.eq_of_beq_eq_true hb.2
    obtain⟨v,us,rfl,g1,g2⟩:=hd.cons_inv
    grind
  ·cases h
 ·cases h
theorem Jv{st:St}{b T:Nat}{ds q:List D}(h:DO st b T ds=some q):kD ds=some T:=by
 unfold DO at h
 split at h
 ·split at h
  ·rename_i T' ds
   cases hb:Nat.beq T T' with
   | false=>grind
   | true=>rw[Nat.eq_of_beq_eq_true hb]; rfl
  ·rename_i b' T' ds
   cases hb:Nat.beq b b'&&Nat.beq T T' with
   | false=>grind
   | true =>
    simp only[Bool.and_eq_true]at hb
    rw[Nat.eq_of_beq_eq_true hb.2]; rfl
  ·cases h
 ·cases h
theorem Lc{κ:KS}{ds q:List D}{vs:List Value}(hd:zU κ ds vs)(h:Py ds=some q):∃ v us,vs=v::us/\RD κ .zW v/\zU κ q us:=by
 unfold Py at h
 split at h
 ·cases h; exact hd.cons_inv
 ·cases h
theorem LM{κ:KS}{ds q:List D}{vs:List Value}(hd:zU κ ds vs)(h:OV ds=some q):∃ v us,vs=v::us/\RD κ .lr v/\zU κ q us:=by
 unfold OV at h
 split at h
 ·rename_i d ds
  cases hb:d.one with
  | false=>grind
  | true =>
   rw[hb]at h
   cases h
   obtain⟨v,us,rfl,g1,g2⟩:=hd.cons_inv
   exact⟨v,us,rfl,.lr v (g1.sg hb),g2⟩
 ·cases h
theorem yc{κ:KS}{zg:St}{bs:List Bk}(gD:∀ b,rowAt bs b=true->qU zg b=kV κ.st b):∀ (ks:List Sk) (ds:List D) (x:y4 ks) (vs:List Value),ks.all (MU bs)=true->(yW κ.st ks ds).leads x->zU κ ds vs ->
  zU κ (qN zg ks x) vs/\∀ d∈qN zg ks x,d.one=true
 | [],ds,x,vs,_,h,hd=>by
  cases ds with
  | nil=>exact⟨hd,λd hm=>by cases hm⟩
  | cons d r=>exact h.elim
 | .im τ::r,ds,x,vs,ho,h,hd=>by
  simp only[yW]at h
  split at h
  ·rename_i p hp
   obtain⟨y,h1,h2⟩:=T.z6.1 h
   cases h2
   obtain⟨c1,c2,rfl,g1,g2⟩:=iH τ hd hp
   simp only[List.all_cons,Bool.and_eq_true]at ho
   obtain⟨k1,k2⟩:=yc gD r p.2 y c2 ho.2 h1 g2
   refine⟨(eP g1).append k1,λd hm => ?_⟩
   rcases List.mem_append.1 (show d∈flat τ p.1++qN zg r y from hm)with hm | hm
   ·exact hJ τ _ d hm
   ·grind
  ·exact h.elim
 | .row b e::r,ds,x,vs,ho,h,hd=>by
  cases ds with
  | nil=>exact h.elim
  | cons d ds =>
   cases d<;>simp only[yW]at h<;>try (exact h.elim)
   rename_i b' q7 e' off len
   cases hb:Nat.beq b b'&&decide (e=e')with
   | false=>rw[hb]at h; exact h.elim
   | true =>
    rw[hb,cond_true]at h
    simp only[Bool.and_eq_true,decide_eq_true_eq]at hb
    obtain⟨⟨h1,h2,h3⟩,h⟩:=h
    have:=Nat.eq_of_beq_eq_true hb.1
    obtain⟨-,rfl⟩:=hb
    subst this
    obtain⟨v,us,rfl,g1,g2⟩:=hd.cons_inv
    simp only[List.all_cons,Bool.and_eq_true]at ho
    obtain⟨k1,k2⟩:=yc gD r ds x us ho.2 h g2
    have e1:qN zg (.row b e::r) x=.ms b q7 e off len::qN zg r x:=by
     show D.ms b (qU zg b) e 0 (qU zg b)::_=_
     rw[gD b ho.1,h1,h2,h3]
    rw[e1]
    refine⟨.cons g1 k1,λd hm => ?_⟩
    rcases List.mem_cons.1 hm with rfl | hm
    ·rfl
    ·grind
 | .op b T::r,ds,x,vs,ho,h,hd=>by
  simp only[List.all_cons,Bool.and_eq_true]at ho
  simp only[yW]at h
  split at h
  ·rename_i q hq
   obtain⟨v,us,rfl,g0,g2⟩:=MH hd hq
   obtain⟨k1,k2⟩:=yc gD r q x us ho.2 h g2
   refine⟨show zU κ (D.ja b T::qN zg r x) (v::us)from .cons g0 k1,λd hm => ?_⟩
   rcases List.mem_cons.1 (show d∈D.ja b T::qN zg r x from hm)with rfl | hm
   ·rfl
   ·grind
  ·exact h.elim
 | .un::r,ds,x,vs,ho,h,hd=>by
  simp only[List.all_cons,Bool.and_eq_true]at ho
  simp only[yW]at h
  split at h
  ·rename_i q hq
   obtain⟨v,us,rfl,g0,g2⟩:=LM hd hq
   obtain⟨k1,k2⟩:=yc gD r q x us ho.2 h g2
   refine⟨show zU κ (D.lr::qN zg r x) (v::us)from .cons g0 k1,λd hm => ?_⟩
   rcases List.mem_cons.1 (show d∈D.lr::qN zg r x from hm)with rfl | hm
   ·rfl
   ·grind
  ·exact h.elim
 | .nl::r,ds,x,vs,ho,h,hd=>by
  simp only[List.all_cons,Bool.and_eq_true]at ho
  simp only[yW]at h
  split at h
  ·rename_i q hq
   obtain⟨v,us,rfl,g0,g2⟩:=Lc hd hq
   obtain⟨k1,k2⟩:=yc gD r q x us ho.2 h g2
   refine⟨show zU κ (D.zW::qN zg r x) (v::us)from .cons g0 k1,λd hm => ?_⟩
   rcases List.mem_cons.1 (show d∈D.zW::qN zg r x from hm)with rfl | hm
   ·rfl
   ·grind
  ·exact h.elim
theorem cA{st zg:St}{bs:List Bk}(h:∀ b,rowAt bs b=true->qU st b=qU zg b):∀ (ks:List Sk) (x:y4 ks),ks.all (MU bs)=true->qN st ks x=qN zg ks x
 | [],_,_=>rfl
 | .im τ::r,x,ho=>by
  simp only[List.all_cons,Bool.and_eq_true]at ho
  show flat τ x.1++qN st r x.2=flat τ x.1++qN zg r x.2
  rw[cA h r x.2 ho.2]
 | .row b e::r,x,ho=>by
  simp only[List.all_cons,Bool.and_eq_true]at ho
  show D.ms b (qU st b) e 0 (qU st b)::qN st r x=D.ms b (qU zg b) e 0 (qU zg b)::qN zg r x
  rw[cA h r x ho.2,h b ho.1]
 | .op b T::r,x,ho=>by
  simp only[List.all_cons,Bool.and_eq_true]at ho
  show D.ja b T::qN st r x=D.ja b T::qN zg r x
  rw[cA h r x ho.2]
 | .un::r,x,ho=>by
  simp only[List.all_cons,Bool.and_eq_true]at ho
  show D.lr::qN st r x=D.lr::qN zg r x
  rw[cA h r x ho.2]
 | .nl::r,x,ho=>by
  simp only[List.all_cons,Bool.and_eq_true]at ho
  show D.zW::qN st r x=D.zW::qN zg r x
  rw[cA h r x ho.2]
theorem tG:∀ (τ:Ty) (x:den τ),∀ y∈flat τ x,∃ σ z,y=.zj σ z:=by
 intro τ x y hy
 induction τ with
 | cons a b ia ib =>
  simp only[flat]at hy
  grind
 | nil=>simp[flat]at hy
 | expr=>simp[flat]at hy; rcases hy with rfl | rfl | rfl | rfl | rfl | rfl<;>exact⟨_,_,rfl⟩
 | _=>simp[flat]at hy; subst hy; exact⟨_,_,rfl⟩
theorem WV:∀ (τ:Ty) {ds:List D} {p:den τ×List D},vO τ ds=some p->τ.size=0->p.2=ds:=by
 intro τ
 induction τ with
 | nil=>intro ds p h _; simp only[vO,Option.some.injEq]at h; subst h; rfl
 | cons a b ia ib =>
  intro ds p h hz
  simp only[Ty.size]at hz
  simp only[vO]at h
  grind
 | _=>nofun
theorem pW{st zg:St}{tt:Nat}:∀ (ks:List Sk) (ds:List D) (x:y4 ks),(yW st ks ds).leads x->kD (qN zg ks x)=some tt->kD ds=some tt
 | [],ds,x,h,ht=>by cases ht
 | .im τ::r,ds,x,h,ht=>by
  simp only[yW]at h
  split at h
  ·rename_i p hp
   obtain⟨y,h1,h2⟩:=T.z6.1 h
   cases h2
   have NR:kD (flat τ p.1++qN zg r y)=some tt:=ht
   cases hf:flat τ p.1 with
   | nil =>
    rw[hf]at NR
    have hz:τ.size=0:=by rw[<- mO τ p.1,hf]; rfl
    have:=WV τ hp hz
    rw[<- this]
    exact pW r p.2 y h1 NR
   | cons z zs =>
    rw[hf]at NR
    obtain⟨σ,w,e⟩:=tG τ p.1 z (by grind)
    rw[e]at NR
    cases NR
  ·exact h.elim
 | .row b e::r,ds,x,h,ht=>by cases ht
 | .op b T'::r,ds,x,h,ht=>by
  simp only[yW]at h
  split at h
  ·rename_i q hq
   cases ht
   exact Jv hq
  ·exact h.elim
 | .un::r,ds,x,h,ht=>by cases ht
 | .nl::r,ds,x,h,ht=>by cases ht
theorem pG{d:D}{T:Nat}(ha:d.vN=true)(h:kD (zC d)=some T):d.typed=some T:=by
 cases d with
 | zj τ x =>
  simp only[zC]at h
  cases hf:flat τ x with
  | nil=>rw[hf]at h; cases h
  | cons z zs =>
   obtain⟨σ,w,e⟩:=tG τ x z (by grind)
   rw[hf,e]at h
   cases h
 | agg l=>exact h
 | _=>cases ha
theorem WA{m:Nat}(τ:Ty)(x:den τ):∀ d∈flat τ x,xS m d=true:=λd hd=>by
 obtain⟨σ,z,rfl⟩:=tG τ x d hd
 rfl
theorem vk{m:Nat}{st:St}{bs:List Bk}(hb:∀ b,rowAt bs b=true->b<m)(BR:∀ b,n9 bs b=true->b<m):∀ (ks:List Sk) (x:y4 ks),ks.all (MU bs)=true->∀ d∈qN st ks x,xS m d=true
 | [],_,_,d,hd=>by cases hd
 | .im τ::r,x,ho,d,hd=>by
  simp only[List.all_cons,Bool.and_eq_true]at ho
  rcases List.mem_append.1 (show d∈flat τ x.1++qN st r x.2 from hd)with hd | hd
  ·exact WA τ _ d hd
  ·exact vk hb BR r x.2 ho.2 d hd
 | .row b e::r,x,ho,d,hd=>by
  simp only[List.all_cons,Bool.and_eq_true]at ho
  rcases List.mem_cons.1 (show d∈D.ms b (qU st b) e 0 (qU st b)::qN st r x from hd)with rfl | hd
  ·have:=hb b ho.1
   simp only[xS,Nat.blt,Nat.ble_eq]; exact this
  ·exact vk hb BR r x ho.2 d hd
 | .op b T::r,x,ho,d,hd=>by
  simp only[List.all_cons,Bool.and_eq_true]at ho
  rcases List.mem_cons.1 (show d∈D.ja b T::qN st r x from hd)with rfl | hd
  ·have:=BR b ho.1
   simp only[xS,Nat.blt,Nat.ble_eq]; exact this
  ·exact vk hb BR r x ho.2 d hd
 | .un::r,x,ho,d,hd=>by
  simp only[List.all_cons,Bool.and_eq_true]at ho
  rcases List.mem_cons.1 (show d∈D.lr::qN st r x from hd)with rfl | hd
  ·rfl
  ·exact vk hb BR r x ho.2 d hd
 | .nl::r,x,ho,d,hd=>by
  simp only[List.all_cons,Bool.and_eq_true]at ho
  rcases List.mem_cons.1 (show d∈D.zW::qN st r x from hd)with rfl | hd
  ·rfl
  ·exact vk hb BR r x ho.2 d hd
theorem l8{κ:KS}:∀ (ms:List Mc) (ds:List D) (x:dv ms) (vs:List Value),(oU ms ds).leads x->zU κ ds vs->zU κ (lh ms x) vs
 | [],ds,x,vs,h,hd=>by
  cases ds with
  | nil=>exact hd
  | cons d r=>exact h.elim
 | .im τ::r,ds,x,vs,h,hd=>by
  cases ds with
  | nil=>exact h.elim
  | cons d ds =>
   simp only[oU]at h
   split at h
   ·rename_i y hy
    obtain⟨z,h1,h2⟩:=T.z6.1 h
    cases h2
    obtain⟨v,us,rfl,g1,g2⟩:=hd.cons_inv
    exact .cons (yf g1 hy) (l8 r ds z us h1 g2)
   ·exact h.elim
 | .rp τ::r,ds,x,vs,h,hd=>by
  cases ds with
  | nil=>exact h.elim
  | cons d ds =>
   cases d<;>simp only[oU]at h<;>try (exact h.elim)
   split at h
   ·rename_i y hy
    obtain⟨e,hx⟩:=zI hy
    cases e
    cases hx
    obtain⟨z,h1,h2⟩:=T.z6.1 h
    cases h2
    obtain⟨v,us,rfl,g1,g2⟩:=hd.cons_inv
    exact .cons g1 (l8 r ds z us h1 g2)
   ·exact h.elim
 | .pt b::r,ds,x,vs,h,hd=>by
  cases ds with
  | nil=>exact h.elim
  | cons d ds =>
   cases d<;>simp only[oU]at h<;>try (exact h.elim)
   rename_i b' off
   cases hb:Nat.beq b b'&&Nat.beq off 0 with
   | false=>rw[hb]at h; exact h.elim
   | true =>
    rw[hb]at h
    simp only[Bool.and_eq_true]at hb
    have e1:=Nat.eq_of_beq_eq_true hb.1
    have e2:=Nat.eq_of_beq_eq_true hb.2
    subst e1 e2
    obtain⟨v,us,rfl,g1,g2⟩:=hd.cons_inv
    exact .cons g1 (l8 r ds x us h g2)
theorem gv{m:Nat}{bs:List Bk}(hb:∀ b,n9 bs b=true->b<m):∀ (ms:List Mc) (x:dv ms),ms.all (z4y bs)=true->∀ d∈lh ms x,xS m d=true
 | [],_,_,d,hd=>by cases hd
 | .im τ::r,x,ho,d,hd=>by
  simp only[List.all_cons,Bool.and_eq_true]at ho
  rcases List.mem_cons.1 (show d∈D.zj τ x.1::lh r x.2 from hd)with rfl | hd
  ·rfl
  ·exact gv hb r x.2 ho.2 d hd
 | .rp τ::r,x,ho,d,hd=>by
  simp only[List.all_cons,Bool.and_eq_true]at ho
  rcases List.mem_cons.1 (show d∈D.qf τ x.1::lh r x.2 from hd)with rfl | hd
  ·rfl
  ·exact gv hb r x.2 ho.2 d hd
 | .pt b::r,x,ho,d,hd=>by
  simp only[List.all_cons,Bool.and_eq_true]at ho
  rcases List.mem_cons.1 (show d∈D.ptr b 0::lh r x from hd)with rfl | hd
  ·have:=hb b ho.1
   simp only[xS,Nat.blt,Nat.ble_eq]; exact this
  ·exact gv hb r x ho.2 d hd
theorem WO{κ κ':KS}(hw:Wk κ κ'){k:Dk}{d:D}{x:k.den}{v:Value}{bs:List Bk}(qI:Vf bs k=true)(gD:∀ b,rowAt bs b=true->qU κ'.st b=qU κ.st b)
  {zg:St} (qQ:∀ b,rowAt bs b=true->qU zg b=qU κ'.st b) (hlen:∀ b,rowAt bs b=true->qU κ.st b=kV κ.st b) (h:(fB κ.st k d).leads x) (hd:RD κ d v):RD κ' (eH zg k x) v:=by
 cases k with
 | mp=>cases d<;>first | exact h.elim | exact absurd hd.CN nofun
 | bu e =>
  cases d<;>simp only[fB]at h<;>try (exact h.elim)
  ·split at h
   ·rename_i e' l b l' hl
    cases h
    obtain⟨he,hx⟩:=zI hl
    cases he
    cases hx
    exact hw.rd hd
   ·exact h.elim
  ·cases h
   cases hd
   exact .bu e [] false _ (.kR e none) nofun λ_=>rfl
 | zj τ=>exact hw.rd (yf hd (T.wy.1 h))
 | qf τ =>
  cases d<;>simp only[fB]at h<;>try (exact h.elim)
  obtain⟨e,hx⟩:=zI (T.wy.1 h)
  cases e
  cases hx
  exact hw.rd hd
 | sub b e =>
  cases d<;>simp only[fB]at h<;>try (exact h.elim)
  rename_i b' q7 e' off len
  cases hb:Nat.beq b b'&&decide (e=e')with
  | false=>rw[hb]at h; exact h.elim
  | true =>
   rw[hb,cond_true]at h
   simp only[Bool.and_eq_true,decide_eq_true_eq]at hb
   obtain⟨hv,h⟩:=h
   cases h
   have:=Nat.eq_of_beq_eq_true hb.1
   obtain⟨-,rfl⟩:=hb
   subst this
   simp only[eH]
   rw[qQ b qI,gD b qI,<- hv]
   exact hw.rd hd
 | zK f caps =>
  cases d<;>simp only[fB]at h<;>try (exact h.elim)
  rename_i f' l
  cases hb:Nat.beq f f' with
  | false=>rw[hb]at h; exact h.elim
  | true =>
   rw[hb,cond_true]at h
   have:=Nat.eq_of_beq_eq_true hb
   subst this
   have hx:=T.wy.1 h
   cases hd with
   | zK _ _ vs hl hh =>
    have:=ri caps l x vs hx (⟨hl,hh⟩:zU κ l vs)
    exact hw.rd (.zK f _ vs this.1 this.2)
 | st ks =>
  simp only[fB]at h
  cases ha:d.vN with
  | false=>rw[ha]at h; exact h.elim
  | true =>
   rw[ha]at h
   have ht:d.wR=false:=by cases d<;>first | rfl | (simp[D.vN]at ha)
   obtain⟨g1,g2⟩:=yc (zg:=zg) (λb hb=>(qQ b hb).trans ((gD b hb).trans (hlen b hb))) ks (zC d) x _ qI h (vH hd ht)
   obtain⟨c,hc⟩:=DY hd ha
   subst hc
   have g1':zU κ (qN zg ks x) c.toList:=g1
   have:=RD.agg (κ:=κ) _ c.toList g1'.1 g2 g1'.2
   exact hw.rd (show RD κ (.agg (qN zg ks x)) (.agg c) by simpa using this)
 | mclo f ms =>
  cases d<;>simp only[fB]at h<;>try (exact h.elim)
  rename_i f' l
  cases hb:Nat.beq f f' with
  | false=>rw[hb]at h; exact h.elim
  | true =>
   rw[hb]at h
   have:=Nat.eq_of_beq_eq_true hb
   subst this
   cases hd with
   | zK _ _ vs hl hh =>
    have:=l8 ms l x vs h (⟨hl,hh⟩:zU κ l vs)
    exact hw.rd (show RD κ (.zK f (lh ms x)) _ from .zK f _ vs this.1 this.2)
theorem Xm:∀ {l:List (Nat×Nat)} {ds:List D},mu l ds=true->ds=l.map λp=>.ptr p.1 p.2
 | [],[],_=>rfl
 | [],_::_,h=>by simp[mu]at h
 | p::r,[],h=>by simp[mu]at h
 | p::r,d::ds,h=>by
  cases d<;>simp only[mu]at h<;>try (cases h; done)
  simp only[Bool.and_eq_true]at h
  rw[Xm h.2,<- Nat.eq_of_beq_eq_true h.1.1,<- Nat.eq_of_beq_eq_true h.1.2]
  rfl
theorem MS{st zg:St}{ck:Ck}{d:D}{bs:List Bk}(qI:HB bs ck=true)(gD:∀ b,rowAt bs b=true->qU zg b=kV st b)(h:(nn st ck d).leads ()):V5 zg ck=d:=by
 cases ck with
 | ptr b off =>
  cases d<;>simp only[nn]at h<;>try (exact h.elim)
  rename_i b' off'
  cases hb:Nat.beq b b'&&Nat.beq off off' with
  | false=>rw[hb]at h; exact h.elim
  | true =>
   simp only[Bool.and_eq_true]at hb
   rw[<- Nat.eq_of_beq_eq_true hb.1,<- Nat.eq_of_beq_eq_true hb.2]
   rfl
 | cur b e =>
  cases d<;>simp only[nn]at h<;>try (exact h.elim)
  rename_i b' q7 e' off len
  cases hb:Nat.beq b b'&&decide (e=e')with
  | false=>rw[hb]at h; exact h.elim
  | true =>
   rw[hb,cond_true]at h
   simp only[Bool.and_eq_true,decide_eq_true_eq]at hb
   obtain⟨⟨h1,h2,h3⟩,_⟩:=h
   have:=Nat.eq_of_beq_eq_true hb.1
   obtain⟨-,rfl⟩:=hb
   subst this
   simp only[V5]
   rw[gD b qI,h1,h2,h3]
 | zW=>cases d<;>simp only[nn]at h<;>first | rfl | exact h.elim
 | wJ=>cases d<;>simp only[nn]at h<;>first | rfl | exact h.elim
 | q8=>cases d<;>simp only[nn]at h<;>first | rfl | exact h.elim
 | qC=>cases d<;>simp only[nn]at h<;>first | rfl | exact h.elim
 | w8 b =>
  cases d<;>simp only[nn]at h<;>try (exact h.elim)
  rename_i b'
  cases hb:Nat.beq b b' with
  | false=>rw[hb]at h; exact h.elim
  | true=>rw[<- Nat.eq_of_beq_eq_true hb]; rfl
 | zK f l =>
  cases d<;>simp only[nn]at h<;>try (exact h.elim)
  rename_i f' l'
  cases hb:Nat.beq f f'&&mu l l' with
  | false=>rw[hb]at h; exact h.elim
  | true =>
   simp only[Bool.and_eq_true]at hb
   rw[<- Nat.eq_of_beq_eq_true hb.1,Xm hb.2]
   rfl
theorem Ui{fr:Fr}{st:St}:∀ {cs:List (Nat×Ck)},(MF fr st cs).leads ()->∀ p∈cs,∃ d,fr.get p.1=some d/\(nn st p.2 d).leads ()
 | [],_,p,hp=>by cases hp
 | q::r,h,p,hp=>by
  simp only[MF]at h
  split at h
  ·rename_i d hd
   simp only[T.zq]at h
   obtain⟨⟨⟩,h1,h2⟩:=h
   rcases List.mem_cons.1 hp with rfl | hp
   ·grind
   ·exact Ui h2 p hp
  ·exact h.elim
def Bl(p:Dk->Bool)(st:St):List vX->List Bd->Prop
 | [],[]=>True
 | b::bl,.a e xs::r=>b=.arr xs.length e xs/\Bl p st bl r
 | b::bl,.v k x::r=>(∃ d,b=.var d/\(k.plain=true/\p k=true)/\(fB st k d).leads x)/\Bl p st bl r
 | _,_=>False
theorem C7{e:Ty}{b:vX}{x:List (den e)}(h:(Ez e b).leads x):b=.arr x.length e x:=by
 unfold Ez at h
 split at h
 ·split at h
  ·rename_i ys hy
   obtain⟨h1,h2⟩:=h
   cases h2
   obtain⟨he,hx⟩:=zI hy
   grind
  ·exact h.elim
 ·exact h.elim
theorem CD{st:St}{k:Dk}{b:vX}{x:k.den}(h:(CU st k b).leads x):∃ d,b=.var d/\k.plain=true/\(fB st k d).leads x:=by
 cases b with
 | var d =>
  simp only[CU]at h
  cases hp:k.plain with
  | false=>rw[hp]at h; exact h.elim
  | true=>grind
 | _=>exact h.elim
def ZV(st:St):(i:It)->i.den->Fr
 | .s t k,x=>[(t,some (eH st k x))]
 | .v _,_=>[]
 | .a _,_=>[]
def DD:(i:It)->i.den->List Bd
 | .s _ _,_=>[]
 | .v k,x=>[.v k x]
 | .a e,x=>[.a e x]
theorem so(st:St)(i:It)(x:i.den):yF st [i] x=ZV st i x:=by cases i<;>rfl
theorem oq(st:St)(i j:It)(r:List It)(x:i.den×xk (j::r)):yF st (i::j::r) x=ZV st i x.1++yF st (j::r) x.2:=by cases i<;>rfl
theorem Db(i:It)(x:i.den):cE [i] x=DD i x:=by cases i<;>rfl
theorem BG(i j:It)(r:List It)(x:i.den×xk (j::r)):cE (i::j::r) x=DD i x.1++cE (j::r) x.2:=by cases i<;>rfl
def z43(fr:Fr)(st zg:St)(l:List It)(p:Nat×Option D):Prop:=∃ (k:Dk) (y:k.den) (d:D),(It.s p.1 k)∈l/\fr.get p.1=some d/\(fB st k d).leads y/\p.2=some (eH zg k y)
theorem Gp{p:Dk->Bool}{fr:Fr}{st zg:St}{bl:List vX}{i:It}{x:i.den×List vX}(hp:∀ k,i=.v k->p k=true)(h:(VA fr st bl i).leads x) :
  (∀ bd,Bl p st x.2 bd->Bl p st bl (DD i x.1++bd))/\∀ p∈ZV zg i x.1,z43 fr st zg [i] p:=by
 cases i with
 | s t k =>
  simp only[VA]at h
  split at h
  ·rename_i d hd
   rw[T.zq]at h
   obtain⟨y,h1,rfl⟩:=h
   refine⟨λbd hb=>hb,λp hp => ?_⟩
   simp only[ZV,List.mem_singleton]at hp
   subst hp
   exact⟨k,y,d,by simp,hd,h1,rfl⟩
  ·exact h.elim
 | v k =>
  cases bl with
  | nil=>exact h.elim
  | cons b r =>
   simp only[VA]at h
   rw[T.zq]at h
   obtain⟨y,h1,rfl⟩:=h
   obtain⟨d,q1,q2,q3⟩:=CD h1
   exact⟨λbd hb=>⟨⟨d,q1,⟨q2,hp k rfl⟩,q3⟩,hb⟩,λp hp=>by cases hp⟩
 | a e =>
  cases bl with
  | nil=>exact h.elim
  | cons b r =>
   simp only[VA]at h
   rw[T.zq]at h
   obtain⟨y,h1,rfl⟩:=h
   exact⟨λbd hb=>⟨C7 h1,hb⟩,λp hp=>by cases hp⟩
theorem Vi{α:Type}{x:α×List vX}{y:α}(h:(U5 x).leads y):x=(y,[]):=by
 obtain⟨a,bl⟩:=x
 cases bl with
 | nil=>cases h; rfl
 | cons=>exact h.elim
theorem n8{p:Dk->Bool}{fr:Fr}{st zg:St}:∀ (l:List It) (bl:List vX) (x:xk l),(∀ k,It.v k∈l->p k=true)->(QM fr st l bl).leads x ->
  Bl p st bl (cE l x)/\∀ p∈yF zg l x,z43 fr st zg l p
 | [],bl,x,_,h=>by
  have h':(U5 ((),bl)).leads x:=h
  have:=Vi h'
  cases this
  exact⟨trivial,λp hp=>by cases hp⟩
 | [i],bl,x,hp,h=>by
  have h':((VA fr st bl i).bind U5).leads x:=h
  obtain⟨y,h1,h2⟩:=T.z6.1 h'
  have:=Vi h2
  subst this
  obtain⟨g1,g2⟩:=Gp (p:=p) (zg:=zg) (λk hk=>hp k (by grind)) h1
  have e1:cE [i] x=DD i x:=Db i x
  have e2:yF zg [i] x=ZV zg i x:=so zg i x
  have:=g1 [] trivial
  grind
 | i::j::r,bl,x,hp,h=>by
  have h':((VA fr st bl i).bind λx=>(QM fr st (j::r) x.2).bind λy=>T.ret (x.1,y)).leads x:=h
  obtain⟨y,h1,h2⟩:=T.z6.1 h'
  obtain⟨z,h3,h4⟩:=T.z6.1 h2
  cases h4
  obtain⟨g1,g2⟩:=Gp (p:=p) (zg:=zg) (λk hk=>hp k (by grind)) h1
  obtain⟨k1,k2⟩:=n8 (p:=p) (zg:=zg) (j::r) y.2 z (λk hk=>hp k (List.mem_cons_of_mem _ hk)) h3
  have e1:cE (i::j::r) (y.1,z)=DD i y.1++cE (j::r) z:=BG i j r (y.1,z)
  have e2:yF zg (i::j::r) (y.1,z)=ZV zg i y.1++yF zg (j::r) z:=oq zg i j r (y.1,z)
  rw[e1,e2]
  refine⟨g1 _ k1,λp hp => ?_⟩
  rcases List.mem_append.1 hp with hp | hp
  ·obtain⟨k,w,d,q1,q2⟩:=g2 p hp
   exact⟨k,w,d,by grind,q2⟩
  ·obtain⟨k,w,d,q1,q2⟩:=k2 p hp
   exact⟨k,w,d,List.mem_cons_of_mem _ q1,q2⟩
inductive QY(p:Dk->Bool)(st zg:St):Bk->vX->vX->Prop
 | arr (e e':Ty) (xs:List (den e)):QY p st zg (.arr e') (.arr xs.length e xs) (.arr xs.length e xs)
 | var (k k':Dk) (d:D) (x:k.den) (hp:k.plain=true/\p k=true) (h:(fB st k d).leads x):QY p st zg (.var k') (.var d) (.var (eH zg k x))
 | cvar (ck:Ck) (d:D) (h:(nn st ck d).leads ()):QY p st zg (.cvar ck) (.var d) (.var (V5 zg ck))
 | dead (b:vX) (h:JP b=false):QY p st zg .dead b .dead
def yg:List Bd->List Bool
 | []=>[]
 | .v _ _::r=>false::yg r
 | .a _ _::r=>true::yg r
theorem dL:∀ (l:List It) (x:xk l),yg (cE l x)=kinds l
 | [],_=>rfl
 | [.s _ _],_=>rfl
 | [.v _],_=>rfl
 | [.a _],_=>rfl
 | .s _ _::j::r,x=>dL (j::r) x.2
 | .v _::j::r,x=>congrArg (false :: ·) (dL (j::r) x.2)
 | .a _::j::r,x=>congrArg (true :: ·) (dL (j::r) x.2)
theorem nd{p:Dk->Bool}{st st0:St}:∀ {bs:List Bk} {blocks bl:List vX} {bd:List Bd},(Qa st bs blocks).leads bl->Bl p st bl bd->jD bs (yg bd)=true ->
  (qY st0 bs bd).length=bs.length/\(∀ b,rowAt bs b=true->qU (jI bs bd) b=kV blocks b/\qU (qY st0 bs bd) b=kV blocks b/\qU blocks b=kV blocks b) /\
  ∀ (i:Nat) (k:Bk),bs[i]? = some k->∃ B B',blocks[i]? = some B/\(qY st0 bs bd)[i]? = some B'/\QY p st st0 k B B'
 | [],blocks,bl,bd,h,hb,ho=>by
  refine⟨by simp[qY],λb hb=>by simp[rowAt]at hb,λi k hk=>by simp at hk⟩
 | k::r,[],bl,bd,h,hb,ho=>by cases k<;>exact h.elim
 | .arr e::r,b::blocks,bl,bd,h,hb,ho=>by
  simp only[Qa,T.zq]at h
  obtain⟨l,h1,rfl⟩:=h
  cases bd with
  | nil=>exact hb.elim
  | cons q bd =>
   cases q with
   | v k x=>simp[yg,jD]at ho
   | a e' xs =>
    obtain⟨rfl,Uf⟩:=hb
    simp only[yg,jD,Bool.true_and]at ho
    obtain⟨g1,g2,g3⟩:=nd (st0:=st0) h1 Uf ho
    refine⟨by simp[qY,g1],λb hb => ?_,λi k hk => ?_⟩
    ·cases b with
     | zero=>simp[jI,qY,qU,z3l,kV]
     | succ b=>have:=g2 b (by simpa[rowAt]using hb); simpa[jI,qY,qU,kV]using this
    ·cases i with
     | zero=>simp at hk; subst hk; exact⟨_,_,rfl,rfl,.arr e' e xs⟩
     | succ i=>simpa[qY]using g3 i k (by simpa using hk)
 | .var k0::r,b::blocks,bl,bd,h,hb,ho=>by
  simp only[Qa,T.zq]at h
  obtain⟨l,h1,rfl⟩:=h
  cases bd with
  | nil=>exact hb.elim
  | cons q bd =>
   cases q with
   | a e' xs=>simp[yg,jD]at ho
   | v k x =>
    obtain⟨⟨d,rfl,hp,hd⟩,Uf⟩:=hb
    simp only[yg,jD,Bool.not_false,Bool.true_and]at ho
    obtain⟨g1,g2,g3⟩:=nd (st0:=st0) h1 Uf ho
    refine⟨by simp[qY,g1],λb hb => ?_,λi k hk => ?_⟩
    ·cases b with
     | zero=>simp[rowAt]at hb
     | succ b=>have:=g2 b (by simpa[rowAt]using hb); simpa[jI,qY,qU,kV]using this
    ·cases i with
     | zero=>simp at hk; subst hk; exact⟨_,_,rfl,rfl,.var k k0 d x hp hd⟩
     | succ i=>simpa[qY]using g3 i k (by simpa using hk)
 | .cvar ck::r,b::blocks,bl,bd,h,hb,ho=>by
  cases b with
  | var d =>
   simp only[Qa,T.zq]at h
   obtain⟨⟨⟩,h0,h1⟩:=h
   have FE:jD r (yg bd)=true:=by cases bd<;>simpa[jD]using ho
   obtain⟨g1,g2,g3⟩:=nd (st0:=st0) h1 hb FE
   have e1:qY st0 (.cvar ck::r) bd=.var (V5 st0 ck)::qY st0 r bd:=by cases bd<;>rfl
   have e0:jI (.cvar ck::r) bd=.dead::jI r bd:=by cases bd<;>rfl
   rw[e0,e1]
   refine⟨by simp[g1],λb hb => ?_,λi k hk => ?_⟩
   ·cases b with
    | zero=>simp[rowAt]at hb
    | succ b=>have:=g2 b (by simpa[rowAt]using hb); simpa[qU,kV]using this
   ·cases i with
    | zero=>simp at hk; subst hk; exact⟨_,_,rfl,rfl,.cvar ck d h0⟩
    | succ i=>grind
  | _=>exact h.elim
 | .dead::r,b::blocks,bl,bd,h,hb,ho=>by
  simp only[Qa]at h
  cases hv:JP b with
  | true=>rw[hv]at h; exact h.elim
  | false =>
   rw[hv,cond_false]at h
   have FE:jD r (yg bd)=true:=by cases bd<;>simpa[jD]using ho
   obtain⟨g1,g2,g3⟩:=nd (st0:=st0) h hb FE
   have e1:qY st0 (.dead::r) bd=.dead::qY st0 r bd:=by cases bd<;>rfl
   have e0:jI (.dead::r) bd=.dead::jI r bd:=by cases bd<;>rfl
   rw[e0,e1]
   refine⟨by simp[g1],λb hb => ?_,λi k hk => ?_⟩
   ·cases b with
    | zero=>simp[rowAt]at hb
    | succ b=>have:=g2 b (by simpa[rowAt]using hb); simpa[qU,kV]using this
   ·cases i with
    | zero=>simp at hk; subst hk; exact⟨_,_,rfl,rfl,.dead b hv⟩
    | succ i=>grind
inductive Refs(m:Nat):D->Prop
 | zj (τ:Ty) (x:AM.den τ):Refs m (.zj τ x)
 | tight (e:Ty) (l:List (AM.den e)) (ne:Bool):Refs m (.tight e l ne)
 | bu (e:Ty) (l:List (AM.den e)) (b:Bool):Refs m (.bu e l b)
 | zW:Refs m .zW
 | wJ:Refs m .wJ
 | q8:Refs m .q8
 | wo:Refs m .wo
 | qC:Refs m .qC
 | lr:Refs m .lr
 | yA (T:Nat):Refs m (.yA T)
 | ja (b T:Nat) (h:b<m):Refs m (.ja b T)
 | w8 (b:Nat) (h:b<m):Refs m (.w8 b)
 | ptr (b off:Nat) (h:b<m):Refs m (.ptr b off)
 | qf (τ:Ty) (x:AM.den τ):Refs m (.qf τ x)
 | wB (b q7:Nat) (e:Ty) (idx off:Nat) (h:b<m):Refs m (.wB b q7 e idx off)
 | ms (b q7:Nat) (e:Ty) (off len:Nat) (h:b<m):Refs m (.ms b q7 e off len)
 | zK (f:Nat) (l:List D) (h:∀ i (hi:i<l.length),Refs m l[i]):Refs m (.zK f l)
 | agg (l:List D) (h:∀ i (hi:i<l.length),Refs m l[i]):Refs m (.agg l)
 | jC (l:List D) (h:∀ i (hi:i<l.length),Refs m l[i]):Refs m (.jC l)
 | iface (t:Nat) (d:D) (h:Refs m d):Refs m (.iface t d)
theorem Refs.mono{m m':Nat}(hm:m<=m'){d:D}(h:Refs m d):Refs m' d:=by
 induction h with
 | ptr b off h=>exact .ptr b off (by omega)
 | ja b T h=>exact .ja b T (by omega)
 | w8 b h=>exact .w8 b (by omega)
 | wB b q7 e idx off h=>exact .wB b q7 e idx off (by omega)
 | ms b q7 e off len h=>exact .ms b q7 e off len (by omega)
 | zK f l h ih=>exact .zK f l ih
 | agg l h ih=>exact .agg l ih
 | jC l h ih=>exact .jC l ih
 | iface t d h ih=>exact .iface t d ih
 | _=>constructor
theorem No{κ:KS}{m:Nat}{d:D}{v:Value}(h:RD κ d v)(hr:Refs m d):RD (κ.cut m) d v:=by
 induction h with
 | zj τ y cs h=>exact .zj τ y cs h
 | bu e l b v h ht hf=>exact .bu e l b v h ht hf
 | qm e a=>exact .qm e a
 | tight e l ne blk off f ui qI h hc=>exact .tight e l ne blk off f ui qI h hc
 | zW=>exact .zW
 | wJ=>exact .wJ
 | q8=>exact .q8
 | wo=>exact .wo
 | qC=>exact .qC
 | lr v h=>exact .lr v h
 | yA T=>exact .yA T
 | yw b T d hb=>cases hr with | ja _ _ qc=>exact yi (.yw b T d hb) (by simp only[xS,Nat.blt,Nat.ble_eq]; exact qc)
 | w8 b blk n d hb h=>cases hr with | w8 _ qc=>exact yi (.w8 b blk n d hb h) (by simp only[xS,Nat.blt,Nat.ble_eq]; exact qc)
 | yI b T blk n d hb h=>cases hr with | ja _ _ qc=>exact yi (.yI b T blk n d hb h) (by simp only[xS,Nat.blt,Nat.ble_eq]; exact qc)
 | ptr b off blk n d hb h=>cases hr with | ptr _ _ qc=>exact yi (.ptr b off blk n d hb h) (by simp only[xS,Nat.blt,Nat.ble_eq]; exact qc)
 | qf τ y cs blk off qI h hc=>exact .qf τ y cs blk off qI h hc
 | wB b q7 e idx off blk o hb h=>cases hr with | wB _ _ _ _ _ qc=>exact yi (.wB b q7 e idx off blk o hb h) (by simp only[xS,Nat.blt,Nat.ble_eq]; exact qc)
 | ms b q7 e off len cap a hb qR ha mX h=>cases hr with | ms _ _ _ _ _ qc=>exact yi (.ms b q7 e off len cap a hb qR ha mX h) (by simp only[xS,Nat.blt,Nat.ble_eq]; exact qc)
 | zK f l vs hl h ih=>cases hr with | zK _ _ hh=>exact .zK f l vs hl λi h1 h2=>ih i h1 h2 (hh i h1)
 | agg l vs hl ho h ih=>cases hr with | agg _ hh=>exact .agg l vs hl ho λi h1 h2=>ih i h1 h2 (hh i h1)
 | jC l vs hl h ih=>cases hr with | jC _ hh=>exact .jC l vs hl λi h1 h2=>ih i h1 h2 (hh i h1)
 | iface t d v h ih=>cases hr with | iface _ _ hh=>exact .iface t d v (ih hh)
theorem tn{a b:Nat}(h:a<b):Nat.blt a b=true:=by
 simp; exact h
theorem C5{κ κe:KS}{m:Nat}(hx:Ext κ κe)(hm:κ.st.length<=m):Ext κ (κe.cut m):=by
 have qc:∀ b x,κ.st[b]? = some x->b<m:=λb x h=>Nat.lt_of_lt_of_le (List.getElem?_eq_some_iff.1 h).1 hm
 have X9:∀ b,b<m->(κe.cut m).ph[b]? = κe.ph[b]? := λb hb=>by simp only[KS.cut]; rw[List.getElem?_take,if_pos hb]
 refine⟨hx.os,hx.tape,hx.output,hx.size,hx.same,hx.fresh,λb blk n h=>hx.Dg b blk n (kF h).1,λb d h => ?_,λb v0 e xs h => ?_,λb h=>zA (hx.dead b h) (qc b _ h),?_,hx.frame⟩
 ·obtain⟨⟨d',h1⟩,h2⟩:=hx.var b d h
  exact⟨⟨d',zA h1 (qc b _ h)⟩,(X9 b (qc b _ h)).trans h2⟩
 ·rcases hx.arr b v0 e xs h with h1 | ⟨v1,x1,h1,h2,h3⟩
  ·exact .inl (zA h1 (qc b _ h))
  ·exact .inr ⟨v1,x1,zA h1 (qc b _ h),h2,λhe=>⟨(X9 b (qc b _ h)).trans (h3 he).1,(h3 he).2⟩⟩
 ·have:=hx.Uv
  simp[KS.cut]; omega
theorem qz.r9{κ0 κ:KS}{fr:Fr}{a:Act}{sh:qz}{x:sh.den}(hx:Ext κ0 κ)(hI:Inv κ)(hR:Rel κ n fr.get a)(hl:κ0.st.length<=sh.bs.length)(h:(sh.un fr κ.st).leads x) :
  ∃ κ':KS,κ'.w=κ.w/\κ'.st=sh.st x/\Inv κ'/\Ext κ0 κ'/\Rel κ' n (sh.fr x).get a/\∀ (d:D) (v:Value),Refs sh.bs.length d->RD κ d v->RD κ' d v:=by
 unfold qz.un at h
 cases hc:sh.ok&&(κ.st.take sh.bs.length).all (WR sh.bs.length)with
 | false=>rw[hc]at h; exact h.elim
 | true =>
  rw[hc,cond_true]at h
  simp only[Bool.and_eq_true,qz.ok,List.all_eq_true]at hc
  obtain⟨⟨⟨⟨z7p,T7⟩,lF⟩,hbs⟩,sd⟩:=hc
  obtain⟨⟨⟩,h1,h⟩:=T.z6.1 h
  obtain⟨bl,h2,h3⟩:=T.z6.1 h
  have hIc:=Lm hI sd
  -- the store cut
  let m:=sh.bs.length
  obtain⟨g1,g2⟩:=n8 (p:=Vf sh.bs) (zg:=sh.st x) sh.k7 bl x (λk hk=>T7 _ hk) h3
  obtain⟨k1,k2,k3⟩:=nd (st0:=jI sh.bs (cE sh.k7 x)) h2 g1 ((congrArg (jD sh.bs) (dL sh.k7 x)).trans z7p)
  have qQ:sh.st x=qY (jI sh.bs (cE sh.k7 x)) sh.bs (cE sh.k7 x):=rfl
  rw[<- qQ]at k1 k2 k3
  let κ':KS:={ κ.cut m with st:=sh.st x }
  have hm:m<=κ.st.length:=by
   rcases Nat.eq_zero_or_pos m with h0 | h0
   ·omega
   ·obtain⟨B,B',q1,_⟩:=k3 (m-1) (sh.bs[m-1]'(by show m-1<m; omega)) (by simp)
    grind
  have z8n:∀ i B,κ.st[i]? = some B->i<m->(κ.cut m).st[i]? = some B:=λi B hB hi=>zA hB hi
  have Hy:(κ.cut m).st.length=m:=by simp[KS.cut]; omega
  have pair:∀ i,i<m->∃ k B B',sh.bs[i]? = some k/\(κ.cut m).st[i]? = some B/\κ'.st[i]? = some B'/\QY (Vf sh.bs) κ.st (jI sh.bs (cE sh.k7 x)) k B B':=by
   intro i hi
   obtain⟨B,B',q1,q2,q3⟩:=k3 i (sh.bs[i]'hi) (by simp)
   grind
  have lt:∀ {i:Nat} {B:vX},(κ.cut m).st[i]? = some B->i<m:=λhB=>by have:=(List.getElem?_eq_some_iff.1 hB).1; omega
  have lt':∀ {i:Nat} {B:vX},κ'.st[i]? = some B->i<m:=λhB=>by have:=(List.getElem?_eq_some_iff.1 hB).1; have e:κ'.st.length=m:=k1; omega
  have hw:Wk (κ.cut m) κ':=by
   refine⟨rfl,rfl,rfl,by show(sh.st x).length=_; rw[k1,Hy],λb d hb => ?_,λb v e xs hb => ?_,λb v e xs hb => ?_,λb hb => ?_⟩
   ·obtain⟨k,B,B',q0,q1,q2,q3⟩:=pair b (lt hb)
    rw[hb]at q1; cases q1
    cases q3 with
    | var k' _ _ y _ hy=>grind
    | cvar ck _ hy=>grind
    | dead _ hv=>cases hv
   ·obtain⟨k,B,B',q0,q1,q2,q3⟩:=pair b (lt hb)
    rw[hb]at q1; cases q1
    cases q3 with
    | arr=>grind
    | dead=>grind
   ·obtain⟨k,B,B',q0,q1,q2,q3⟩:=pair b (lt' hb)
    rw[hb]at q2; cases q2
    cases q3 with
    | arr=>exact q1
   ·obtain⟨k,B,B',q0,q1,q2,q3⟩:=pair b (lt hb)
    rw[hb]at q1; cases q1
    cases q3 with
    | dead=>exact q2
  have WU:∀ b,rowAt sh.bs b=true->qU κ'.st b=kV κ.st b/\qU (jI sh.bs (cE sh.k7 x)) b=kV κ.st b/\qU κ.st b=kV κ.st b :=
   λb hb=>⟨(k2 b hb).2.1,(k2 b hb).1,(k2 b hb).2.2⟩
  have z5b:∀ b,rowAt sh.bs b=true->qU (κ.cut m).st b=qU κ.st b:=by
   intro b hb
   have RW:b<m:=by
    unfold rowAt at hb
    split at hb
    ·rename_i hh; exact(List.getElem?_eq_some_iff.1 hh).1
    ·cases hb
   unfold qU
   simp only[KS.cut]
   rw[List.getElem?_take,if_pos RW]
  have RW:∀ b,rowAt sh.bs b=true->b<m:=by
   intro b hb
   unfold rowAt at hb
   split at hb
   ·rename_i hh; exact(List.getElem?_eq_some_iff.1 hh).1
   ·cases hb
  have BR:∀ b,n9 sh.bs b=true->b<m:=by
   intro b hb
   unfold n9 at hb
   split at hb
   ·rename_i hh; exact(List.getElem?_eq_some_iff.1 hh).1
   ·rename_i hh; exact(List.getElem?_eq_some_iff.1 hh).1
   ·cases hb
  have dk:∀ (k:Dk) (y:k.den) (d:D) (v:Value) (zg:St),Vf sh.bs k=true->(∀ b,rowAt sh.bs b=true->qU zg b=kV κ.st b)->(fB κ.st k d).leads y->RD κ d v->RD κ' (eH zg k y) v:=by
   intro k y d v zg ho hv hy hd
   have hwk:Wk κ κ:=⟨rfl,rfl,rfl,rfl,λb d h=>⟨d,h⟩,λb v e xs h=>.inl h,λb v e xs h=>h,λb h=>h⟩
   have h0:=WO hwk ho (λ_ _=>rfl) (zg:=κ.st) (λ_ _=>rfl) (λb hb=>(WU b hb).2.2) hy hd
   have z7A:kA m (eH κ.st k y)=true:=by
    cases k with
    | sub b e=>exact tn (RW b ho)
    | zK f caps =>
     have:∀ (l:List o9) (z:kv l),(da l z).all (xS m)=true:=by
      intro l
      induction l with
      | nil=>intro z; rfl
      | cons p r ih =>
       intro z
       have hp:∀ w:AM.den p.ty,xS m (Qq p w)=true:=λw=>by cases p<;>rfl
       cases r with
       | nil=>simp only[da,List.all_cons,List.all_nil,Bool.and_true]; exact hp z
       | cons q r=>simp only[da,List.all_cons,Bool.and_eq_true]; exact⟨hp z.1,by simpa using ih z.2⟩
     exact this caps y
    | st ks=>exact List.all_eq_true.2 (vk RW BR ks y ho)
    | mclo f ms=>exact List.all_eq_true.2 (gv BR ms y ho)
    | _=>rfl
   have h1:=hw.rd (K9 h0 z7A)
   have he:eH κ.st k y=eH zg k y:=by
    cases k with
    | sub b e=>simp only[eH]; rw[hv b ho,(WU b ho).2.2]
    | st ks=>simp only[eH]; rw[cA (λb hb=>(WU b hb).2.2.trans (hv b hb).symm) ks y ho]
    | _=>rfl
   rwa [he]at h1
  have ck:∀ (q:Ck) (d:D) (v:Value) (zg:St),HB sh.bs q=true->(∀ b,rowAt sh.bs b=true->qU zg b=kV κ.st b)->(nn κ.st q d).leads ()->V5 zg q=d/\(RD κ d v->RD κ' d v):=by
   intro q d v zg ho hv hy
   have he:=MS ho hv hy
   refine⟨he,λhd=>hw.rd (K9 hd ?_)⟩
   rw[<- he]
   cases q with
   | ptr b off=>exact tn (BR b ho)
   | cur b e=>exact tn (RW b ho)
   | zW=>rfl
   | wJ=>rfl
   | q8=>rfl
   | qC=>rfl
   | w8 b=>exact tn (BR b ho)
   | zK f l =>
    simp only[HB,List.all_eq_true]at ho
    simp only[V5,kA,List.all_eq_true,List.mem_map]
    rintro _ ⟨p,hp,rfl⟩
    exact tn (BR p.1 (ho p hp))
  have MM:Inv κ':=by
   refine hw.inv hIc λb d' hb => ?_
   obtain⟨k,B,B',q0,q1,q2,q3⟩:=pair b (lt' hb)
   rw[hb]at q2
   cases q2
   cases q3 with
   | var kk k' d y hp hy =>
    refine xF.elim (hIc.blk b _ q1:xF _ _ _) (λrG jr => ?_) λl e z3Z => ?_
    rotate_left
    ·subst e
     cases kk with
     | mp=>cases hy; obtain⟨blk,o,e1,e2⟩:=z3Z; exact⟨blk,o,e1,e2⟩
     | zj τ=>simp[fB,gF]at hy; exact hy.elim
     | qf τ=>exact hy.elim
     | sub b e=>exact hy.elim
     | zK f caps=>exact hy.elim
     | st ks=>exact hy.elim
     | mclo f ms=>exact hy.elim
     | bu e=>exact hy.elim
    obtain⟨blk,n',cs,t,e1,e2,e3,e4,e5⟩:=jr
    cases kk with
    | zj τ =>
     have hco:gF τ d=some y:=T.wy.1 hy
     have ht:d.wR=false:=by
      cases d with
      | jC l=>simp[gF,D.wR]at hco
      | _=>rfl
     have WX:=ic hco e4 e5.1 ht
     exact xF.mk (κ:=κ') (b:=b) (d:=.zj τ y) rfl ⟨blk,n',cs,t,e1,e2,e3,(eP WX).mono hw.ext,hJ τ y,nofun⟩
    | qf τ =>
     cases d<;>simp only[fB]at hy<;>try (exact hy.elim)
     obtain⟨e,hyy⟩:=zI (T.wy.1 hy)
     cases e
     cases hyy
     exact xF.mk (κ:=κ') (b:=b) (d:=.qf τ _) rfl ⟨blk,n',cs,t,e1,e2,e3,e4.mono hw.ext,e5.1,nofun⟩
    | st ks =>
     simp only[fB]at hy
     cases ha:d.vN with
     | false=>rw[ha]at hy; exact hy.elim
     | true =>
      rw[ha]at hy
      replace hy:(yW κ.st ks (zC d)).leads y:=hy
      have zas:b<m:=lt' hb
      have BY:κ.st[b]? = some (.var d):=(kF q1).1
      obtain⟨z8i,n2,cs2,t2,f1,f2,f3,f4,f5⟩:=(hI.blk b _ BY:xF κ b d).cells rG
      have hp1:=(kF e1).1
      rw[f1]at hp1
      cases hp1
      have e2':=e2
      rw[show(κ.cut m).w=κ.w from rfl,f2]at e2
      cases e2
      obtain⟨g1,g2⟩:=yc (κ:=κ) (zg:=jI sh.bs (cE sh.k7 x)) (bs:=sh.bs) (λb hb=>(WU b hb).2.1) ks (zC d) y _ hp.2 hy f4
      refine xF.mk (κ:=κ') (b:=b) (d:=.agg (qN (jI sh.bs (cE sh.k7 x)) ks y)) rfl ⟨blk,n',cs,t,e1,e2',e3,(KZ g1 λz hz => ?_).mono hw.ext,g2,λT hT => ?_⟩
      rotate_left
      ·exact f5.2 T (pG ha (pW ks (zC d) y hy hT))
      have:=vk (m:=m) RW BR ks y hp.2 z hz
      cases z<;>first | exact this | cases this
    | mp=>cases d<;>first | exact hy.elim | cases rG
    | _=>cases hp.1
   | cvar q d hy =>
    have hoq:HB sh.bs q=true:=hbs _ (List.mem_of_getElem? q0)
    obtain⟨g,_⟩:=ck q d undef (jI sh.bs (cE sh.k7 x)) hoq (λb hb=>(WU b hb).2.1) hy
    rw[g]
    refine xF.elim (hIc.blk b _ q1:xF _ _ _) (λrG ⟨blk,n',cs,t,e1,e2,e3,e4,e5⟩=>.mk rG ⟨blk,n',cs,t,e1,e2,e3,e4.mono hw.ext,e5⟩) λl e ⟨blk,o,e1,e2⟩ => ?_
    subst e
    exact⟨blk,o,e1,e2⟩
  refine⟨κ',rfl,rfl,MM,?_,⟨hR.size,hR.defers,λs d hd => ?_⟩,λd v hr hd=>hw.rd (No hd hr)⟩
  ·have qc:κ0.st.length<=m:=hl
   have c1:=C5 hx qc
   exact c1.trans hw.ext
  ·rcases get_append (l:=yF (sh.st x) sh.k7 x) (m:=LA (sh.st x) sh.cs) hd with hp | hp0
   ·obtain⟨k,y,d0,q0,q1,q2,q3⟩:=g2 _ hp
    cases q3
    obtain⟨v,r1,r2⟩:=hR.get _ _ q1
    exact⟨v,r1,dk k y d0 v (sh.st x) (T7 _ q0) (λb hb=>(WU b hb).1) q2 r2⟩
   ·have ZJ:=get_mem hp0
    unfold LA at ZJ
    obtain⟨p,hp,he⟩:=List.mem_map.1 ZJ
    cases he
    obtain⟨d0,q1,q2⟩:=Ui h1 p hp
    obtain⟨v,r1,r2⟩:=hR.get _ _ q1
    obtain⟨g,gg⟩:=ck p.2 d0 v (sh.st x) (lF p hp) (λb hb=>(WU b hb).1) q2
    rw[g]
    exact⟨v,r1,gg r2⟩
end
end Go.AM
namespace Go.AM
set_option linter.unusedSectionVars false
variable [we] [X0]
open Go.RowKit
inductive Gh where
 | slot (s:Nat) (e:Ty) | cell (b i:Nat) (e:Ty) | pcell (s i:Nat) (e:Ty)
def rW(st:St)(b i:Nat):Option (List D):=match st[b]? with
 | some (.var d)=>bif d.vN then match(zC d)[i]? with | some .zW=>some (zC d) | _=>none else none
 | _=>none
def gh:List Gh->Fr->St->Fr×St
 | [],fr,st=>(fr,st)
 | .slot s e::r,fr,st=>match fr.get s with
  | some .zW=>bif Nat.blt 0 e.size then gh r ((s,some (.ms st.length 0 e 0 0))::fr) (st++[.arr 0 e []])else gh r fr st
  | _=>gh r fr st
 | .cell b i e::r,fr,st=>match rW st b i with
  | some l=>bif Nat.blt 0 e.size then gh r fr ((st++[vX.arr 0 e []]).set b (.var (.agg (l.set i (.ms st.length 0 e 0 0)))))else gh r fr st
  | none=>gh r fr st
 | .pcell t i e::r,fr,st=>match fr.get t with
  | some (.ptr b _)=>match rW st b i with
   | some l=>bif Nat.blt 0 e.size then gh r fr ((st++[vX.arr 0 e []]).set b (.var (.agg (l.set i (.ms st.length 0 e 0 0)))))else gh r fr st
   | none=>gh r fr st
  | _=>gh r fr st
section
variable {c:Ctx} {κ:KS}
def KS.w6(κ:KS)(e:Ty):KS:={ κ with ph:=κ.ph++[none],st:=κ.st++[.arr 0 e []] }
theorem gR(hI:Inv κ)(e:Ty):Ext κ (κ.w6 e):=by
 have qQ:∀ b y,κ.st[b]? = some y->(κ.st++[.arr 0 e []])[b]? = some y:=λb y h=>by rw[List.getElem?_append_left (List.getElem?_eq_some_iff.1 h).1]; exact h
 have X9:∀ b y,κ.st[b]? = some y->(κ.ph++[none])[b]? = κ.ph[b]? := λb y h=>by
  rw[List.getElem?_append_left]; rw[hI.len]; exact(List.getElem?_eq_some_iff.1 h).1
 refine⟨rfl,rfl,rfl,Nat.le_refl _,λk hk=>⟨hk,rfl⟩,λk hk=>.inl hk,?_,λb d h=>⟨⟨d,qQ b _ h⟩,X9 b _ h⟩,
  λb v0 e xs h=>.inr ⟨v0,xs,qQ b _ h,Nat.le_refl _,λ_=>⟨X9 b _ h,rfl⟩⟩,λb h=>qQ b _ h,by simp[KS.w6],λk hk _=>rfl⟩
 intro b blk m h
 simp only[KS.w6]at h
 grind
theorem me(hI:Inv κ){e:Ty}(he:0<e.size):Inv (κ.w6 e):=by
 have hold:∀ (b blk m:Nat),(κ.ph++[none])[b]? = some (some (blk,m))->κ.ph[b]? = some (some (blk,m)):=by
  grind
 refine⟨by simp[KS.w6,hI.len],hI.ux,λb blk m h=>hI.apart b blk m (hold b blk m h),λb b' blk m m' h h'=>hI.inj b b' blk m m' (hold _ _ _ h) (hold _ _ _ h'),?_,hI.gl⟩
 intro b y hy
 simp only[KS.w6]at hy
 by_cases hb:b<κ.st.length
 ·rw[List.getElem?_append_left hb]at hy
  exact(hI.blk b y hy).mono (gR hI e) (by show(κ.ph++[none])[b]? = κ.ph[b]?; rw[List.getElem?_append_left (by rw[hI.len]; exact hb)]) λblk n h=>rfl
 ·have ZH:=(List.getElem?_eq_some_iff.1 hy).1
  simp at ZH
  have:b=κ.st.length:=by omega
  subst this
  simp at hy
  subst hy
  exact⟨he,.inl ⟨rfl,by simp[KS.w6,<- hI.len]⟩⟩
theorem Ka{l:List D}{i b v len off:Nat}{e:Ty}{tt:Nat}(h:(D.agg (l.set i (.ms b v e off len))).typed=some tt):kD l=some tt:=by
 cases l with
 | nil=>exact h
 | cons x r=>cases i with
  | zero=>cases h
  | succ i=>cases x<;>exact h
theorem M8{κ κ2:KS}{l:List D}{vs:List Value}{i:Nat}{d':D}(h:zU κ l vs)(hw:∀ d v,RD κ d v->RD κ2 d v)(hi:∀ v,vs[i]? = some v->RD κ2 d' v):zU κ2 (l.set i d') vs:=by
 refine⟨by rw[List.length_set]; exact h.1,λk h1 h2 => ?_⟩
 rw[List.getElem_set]
 split
 ·grind
 ·exact hw _ _ (h.2 k (by grind) h2)
theorem G5(hI:Inv κ){e:Ty}(he:0<e.size){b i:Nat}{l:List D}(h:rW κ.st b i=some l) :
  ∃ κ':KS,κ'.w=κ.w/\κ'.st=(κ.st++[vX.arr 0 e []]).set b (.var (.agg (l.set i (.ms κ.st.length 0 e 0 0))))/\Inv κ'/\Ext κ κ':=by
 unfold rW at h
 split at h
 ·rename_i d hd
  cases ha:d.vN with
  | false=>grind
  | true =>
   rw[ha,cond_true]at h
   split at h
   ·rename_i hi
    cases h
    have hx:=gR hI e
    have nT:=me hI he
    have zb3:b<κ.st.length:=(List.getElem?_eq_some_iff.1 hd).1
    let κ2:KS:={ κ.w6 e with st:=(κ.w6 e).st.set b (.var (.agg ((zC d).set i (.ms κ.st.length 0 e 0 0)))) }
    have KU:(κ.w6 e).st[b]? = some (.var d):=by
     show(κ.st++[_])[b]? = _
     grind
    have ui:∀ j,j≠b->κ2.st[j]? = (κ.w6 e).st[j]? := λj hj=>by
     grind
    have z0Y:κ2.st[b]? = some (.var (.agg ((zC d).set i (.ms κ.st.length 0 e 0 0)))):=by
     grind
    have hw:Wk (κ.w6 e) κ2:=by
     refine⟨rfl,rfl,rfl,by simp[κ2],λj d' hj => ?_,λj v e' xs hj => ?_,λj v e' xs hj => ?_,λj hj => ?_⟩
     ·grind
     ·grind
     ·grind
     ·by_cases c:j=b
      ·subst c; rw[KU]at hj; cases hj
      ·rw[ui j c]; exact hj
    have Q9:κ2.st[κ.st.length]? = some (.arr 0 e []):=by
     rw[ui _ (by omega)]
     simp[KS.w6]
    have hI2:Inv κ2:=by
     refine hw.inv nT λj d' hj => ?_
     by_cases c:j=b
     ·subst c
      rw[z0Y]at hj
      cases hj
      obtain⟨blk,m,cs,t,q1,q2,q3,q4,q5⟩:=(nT.blk j _ KU:xF _ _ _).cells (by cases d<;>first | rfl | cases ha)
      refine xF.mk (κ:=κ2) (b:=j) (d:=.agg ((zC d).set i (.ms κ.st.length 0 e 0 0))) rfl ⟨blk,m,cs,t,q1,q2,q3,M8 q4 (λ_ _ h=>hw.rd h) λv hv => ?_,λx hxm => ?_,λT hT => ?_⟩
      ·obtain⟨v',h1,h2⟩:=q4.get hi
       rw[hv]at h1
       cases h1
       cases h2
       refine .ms κ.st.length 0 e 0 0 0 none (.inr ⟨0,e,[],Q9,Nat.le_refl _⟩) (Nat.le_refl _) (λ_=>rfl) nofun λxs Zo => ?_
       rw[Q9]at Zo
       cases Zo
       exact⟨Nat.le_refl _,.inl ⟨rfl,rfl,rfl,by show(κ.ph++[none])[κ.st.length]? = _; simp[<- hI.len]⟩⟩
      ·rcases List.mem_or_eq_of_mem_set (show x∈(zC d).set i (.ms κ.st.length 0 e 0 0)from hxm)with h' | h'
       ·exact q5.1 x h'
       ·subst h'; rfl
      ·exact q5.2 T (pG ha (Ka hT))
     ·rw[ui j c]at hj
      exact(nT.blk j _ hj).mono hw.ext rfl λ_ _ _=>rfl
    exact⟨κ2,rfl,rfl,hI2,hx.trans hw.ext⟩
   ·cases h
 ·cases h
theorem bK{n:Nat}{a:Act}:∀ (l:List Gh) (fr:Fr) (κ:KS),Inv κ->Rel κ n fr.get a->∃ κ':KS,κ'.w=κ.w/\κ'.st=(gh l fr κ.st).2/\Inv κ'/\Ext κ κ'/\Rel κ' n (gh l fr κ.st).1.get a
 | [],fr,κ,hI,hR=>⟨κ,rfl,rfl,hI,Ext.refl κ,hR⟩
 | .slot s e::r,fr,κ,hI,hR=>by
  unfold gh
  split
  ·rename_i hs
   cases he:Nat.blt 0 e.size with
   | false=>rw[cond_false]; exact bK r fr κ hI hR
   | true =>
    rw[cond_true]
    have JJ:0<e.size:=Nat.le_of_ble_eq_true he
    have hx:=gR hI e
    have Mt:Rel (κ.w6 e) n (Fr.get ((s,some (.ms κ.st.length 0 e 0 0))::fr)) a:=by
     refine⟨hR.size,hR.defers,λt d hd => ?_⟩
     simp only[Fr.get]at hd
     cases ht:Nat.beq s t with
     | true =>
      rw[ht,cond_true]at hd
      cases hd
      have:=Nat.eq_of_beq_eq_true ht
      subst this
      obtain⟨v,h1,h2⟩:=hR.get s _ hs
      cases h2
      have Q9:(κ.w6 e).st[κ.st.length]? = some (.arr 0 e []):=by simp[KS.w6]
      refine⟨_,h1,.ms κ.st.length 0 e 0 0 0 none (.inr ⟨0,e,[],Q9,Nat.le_refl _⟩) (Nat.le_refl _) (λ_=>rfl) nofun λxs Zo => ?_⟩
      rw[Q9]at Zo
      cases Zo
      exact⟨Nat.le_refl _,.inl ⟨rfl,rfl,rfl,by simp[KS.w6,<- hI.len]⟩⟩
     | false =>
      rw[ht,cond_false]at hd
      obtain⟨v,h1,h2⟩:=hR.get t d hd
      exact⟨v,h1,h2.mono hx⟩
    obtain⟨κ',h1,h2,h3,h4,h5⟩:=bK r _ (κ.w6 e) (me hI JJ) Mt
    exact⟨κ',h1,h2,h3,hx.trans h4,h5⟩
  ·exact bK r fr κ hI hR
 | .cell b i e::r,fr,κ,hI,hR=>by
  unfold gh
  split
  ·rename_i l hl
   cases he:Nat.blt 0 e.size with
   | false=>rw[cond_false]; exact bK r fr κ hI hR
   | true =>
    rw[cond_true]
    have JJ:0<e.size:=Nat.le_of_ble_eq_true he
    obtain⟨κ1,g1,g2,g3,g4⟩:=G5 hI JJ hl
    obtain⟨κ',h1,h2,h3,h4,h5⟩:=bK r fr κ1 g3 ⟨hR.size,hR.defers,λt d hd=>by
     obtain⟨v,q1,q2⟩:=hR.get t d hd
     exact⟨v,q1,q2.mono g4⟩⟩
    rw[g2]at h2 h5
    exact⟨κ',h1.trans g1,h2,h3,g4.trans h4,h5⟩
  ·exact bK r fr κ hI hR
 | .pcell t i e::r,fr,κ,hI,hR=>by
  unfold gh
  split
  ·rename_i b off hb
   split
   ·rename_i l hl
    cases he:Nat.blt 0 e.size with
    | false=>rw[cond_false]; exact bK r fr κ hI hR
    | true =>
     have JJ:0<e.size:=Nat.le_of_ble_eq_true he
     obtain⟨κ1,g1,g2,g3,g4⟩:=G5 hI JJ hl
     obtain⟨κ',h1,h2,h3,h4,h5⟩:=bK r fr κ1 g3 ⟨hR.size,hR.defers,λt d hd=>by
      obtain⟨v,q1,q2⟩:=hR.get t d hd
      exact⟨v,q1,q2.mono g4⟩⟩
     rw[g2]at h2 h5
     exact⟨κ',h1.trans g1,h2,h3,g4.trans h4,h5⟩
   ·exact bK r fr κ hI hR
  ·exact bK r fr κ hI hR
end
end Go.AM
namespace Go.AM
def dG(f:Nat->Option Nat)(d:D):Option D:=match d with
 | .ptr b off=>match f b with | some b'=>some (.ptr b' off) | none=>none
 | .ja b T=>match f b with | some b'=>some (.ja b' T) | none=>none
 | .w8 b=>match f b with | some b'=>some (.w8 b') | none=>none
 | .wB b v e i off=>match f b with | some b'=>some (.wB b' v e i off) | none=>none
 | .ms b v e off len=>match f b with | some b'=>some (.ms b' v e off len) | none=>none
 | .zK _ _=>none
 | .agg _=>none
 | .jC _=>none
 | .iface _ _=>none
 | d=>some d
def VR(f:Nat->Option Nat):List D->Option (List D)
 | []=>some []
 | d::r=>match dG f d with
  | some d'=>match VR f r with | some r'=>some (d'::r') | none=>none
  | none=>none
def gT(f:Nat->Option Nat)(d:D):Option D:=match d with
 | .zK g l=>match VR f l with | some l'=>some (.zK g l') | none=>none
 | .agg l=>match VR f l with | some l'=>some (.agg l') | none=>none
 | d=>dG f d
def iC(f:Nat->Option Nat):List D->Option (List D)
 | []=>some []
 | d::r=>match gT f d with
  | some d'=>match iC f r with | some r'=>some (d'::r') | none=>none
  | none=>none
def lY(f:Nat->Option Nat):vX->Option vX
 | .var d=>match gT f d with | some d'=>some (.var d') | none=>none
 | .arr v e xs=>some (.arr v e xs)
 | .dead=>some .dead
def yV(f:Nat->Option Nat):List vX->Option (List vX)
 | []=>some []
 | b::r=>match lY f b with
  | some b'=>match yV f r with | some r'=>some (b'::r') | none=>none
  | none=>none
def ln(f:Nat->Option Nat):Fr->Fr
 | []=>[]
 | (s,some d)::r=>(s,gT f d)::ln f r
 | (s,none)::r=>(s,none)::ln f r
structure Tr(κ κ':KS)(f:Nat->Option Nat):Prop where
 w:κ'.w=κ.w
 ok:κ'.ok=κ.ok
 var:∀ (b b':Nat) (d:D),f b=some b'->κ.st[b]? = some (.var d)->(∃ d',κ'.st[b']? = some (.var d'))/\κ'.ph[b']? = κ.ph[b]?
 old:∀ (b b' q7:Nat),f b=some b'->Old κ.st b q7->Old κ'.st b' q7
 row:∀ (b b' v:Nat) (e:Ty) (xs:List (den e)),f b=some b'->κ'.st[b']? = some (.arr v e xs)->κ.st[b]? = some (.arr v e xs)/\κ'.ph[b']? = κ.ph[b]?
section
variable {κ κ':KS} {f:Nat->Option Nat}
theorem Tr.same(h:Tr κ κ' f):J9 κ.w κ'.w κ.ok κ'.ok:=λk hk=>⟨by rw[h.ok]; exact hk,by rw[h.w]⟩
theorem Tr.L8(h:Tr κ κ' f){d d':D}{v:Value}(hd:RD κ d v)(hr:dG f d=some d'):RD κ' d' v:=by
 cases hd with
 | zj τ y cs hc=>cases hr; exact .zj τ y cs (hc.mono h.same)
 | bu e l b v hc ht hf=>cases hr; exact .bu e l b v (hc.mono h.same) ht hf
 | qm e a=>cases hr; exact .qm e a
 | tight e l ne blk off g ui qI hh hc=>cases hr; exact .tight e l ne blk off g ui (h.same _ qI).1 (λi hi=>(hh i hi).mono h.same) λi hi j v hv=>by rw[y6 (h.same _ qI).2]; exact hc i hi j v hv
 | zW=>cases hr; exact .zW
 | wJ=>cases hr; exact .wJ
 | q8=>cases hr; exact .q8
 | wo=>cases hr; exact .wo
 | qC=>cases hr; exact .qC
 | lr v h=>cases hr; exact .lr v h
 | yA T=>cases hr; exact .yA T
 | yw b T d hb =>
  simp only[dG]at hr
  split at hr
  ·rename_i b' hf
   cases hr
   obtain⟨⟨d',h1⟩,h2⟩:=h.var b b' d hf hb
   exact .yw b' T d' h1
  ·cases hr
 | w8 b blk n d hb hp =>
  simp only[dG]at hr
  split at hr
  ·rename_i b' hf
   cases hr
   obtain⟨⟨d',h1⟩,h2⟩:=h.var b b' d hf hb
   exact .w8 b' blk n d' h1 (h2.trans hp)
  ·cases hr
 | yI b T blk n d hb hp =>
  simp only[dG]at hr
  split at hr
  ·rename_i b' hf
   cases hr
   obtain⟨⟨d',h1⟩,h2⟩:=h.var b b' d hf hb
   exact .yI b' T blk n d' h1 (h2.trans hp)
  ·cases hr
 | ptr b off blk n d hb hp =>
  simp only[dG]at hr
  split at hr
  ·rename_i b' hf
   cases hr
   obtain⟨⟨d',h1⟩,h2⟩:=h.var b b' d hf hb
   exact .ptr b' off blk n d' h1 (h2.trans hp)
  ·cases hr
 | qf τ y cs blk off qI hh hc=>cases hr; exact .qf τ y cs blk off (h.same _ qI).1 (hh.mono h.same) λj v hv=>by rw[y6 (h.same _ qI).2]; exact hc j v hv
 | wB b q7 e idx off blk o hb hh =>
  simp only[dG]at hr
  split at hr
  ·rename_i b' hf
   cases hr
   refine .wB b' q7 e idx off blk o (h.old b b' q7 hf hb) λxs hx hi => ?_
   obtain⟨h1,h2⟩:=h.row b b' q7 e xs hf hx
   grind
  ·cases hr
 | ms b q7 e off len cap a hb qR ha mX hh =>
  simp only[dG]at hr
  split at hr
  ·rename_i b' hf
   cases hr
   refine .ms b' q7 e off len cap a (h.old b b' q7 hf hb) qR ha mX λxs hx => ?_
   obtain⟨h1,h2⟩:=h.row b b' q7 e xs hf hx
   have:=hh xs h1
   unfold KK at this ⊢
   grind
  ·cases hr
 | zK g l vs hl hh=>cases hr
 | agg l vs hl ho hh=>cases hr
 | jC l vs hl hh=>cases hr
 | iface t d v hh=>cases hr
theorem EK{d d':D}(h:dG f d=some d'):d'.one=d.one:=by
 cases d<;>simp only[dG]at h<;>first | (cases h; rfl) | (split at h<;>cases h; rfl) | cases h
theorem Tr.rdL(h:Tr κ κ' f):∀ {l l':List D} {vs:List Value},zU κ l vs->VR f l=some l'->zU κ' l' vs
 | [],l',vs,hd,hr=>by cases hr; rw[hd.zG]; exact .nil
 | d::r,l',vs,hd,hr=>by
  simp only[VR]at hr
  split at hr
  ·rename_i d' h1
   split at hr
   ·rename_i r' h2
    cases hr
    obtain⟨v,us,rfl,g1,g2⟩:=hd.cons_inv
    exact .cons (h.L8 g1 h1) (h.rdL g2 h2)
   ·cases hr
  ·cases hr
theorem Zr:∀ {l l':List D},VR f l=some l'->(∀ d∈l,d.one=true)->∀ d∈l',d.one=true
 | [],l',hr,_=>by cases hr; nofun
 | d::r,l',hr,ho=>by
  simp only[VR]at hr
  split at hr
  ·rename_i d' h1
   split at hr
   ·rename_i r' h2
    cases hr
    intro x hx
    rcases List.mem_cons.1 hx with rfl | hx
    ·rw[EK h1]; exact ho d List.mem_cons_self
    ·exact Zr h2 (λy hy=>ho y (List.mem_cons_of_mem _ hy)) x hx
   ·cases hr
  ·cases hr
theorem Tr.rd(h:Tr κ κ' f){d d':D}{v:Value}(hd:RD κ d v)(hr:gT f d=some d'):RD κ' d' v:=by
 cases d with
 | zK g l =>
  simp only[gT]at hr
  split at hr
  ·rename_i l' hl
   cases hr
   cases hd with
   | zK _ _ vs h1 h2=>have:=h.rdL (⟨h1,h2⟩:zU κ l vs) hl; exact .zK g l' vs this.1 this.2
  ·cases hr
 | agg l =>
  simp only[gT]at hr
  split at hr
  ·rename_i l' hl
   cases hr
   cases hd with
   | agg _ vs h1 ho h2=>have:=h.rdL (⟨h1,h2⟩:zU κ l vs) hl; exact .agg l' vs this.1 (Zr hl ho) this.2
  ·cases hr
 | _=>exact h.L8 hd hr
theorem Tr.rds(h:Tr κ κ' f):∀ {l l':List D} {vs:List Value},zU κ l vs->iC f l=some l'->zU κ' l' vs
 | [],l',vs,hd,hr=>by cases hr; rw[hd.zG]; exact .nil
 | d::r,l',vs,hd,hr=>by
  simp only[iC]at hr
  split at hr
  ·rename_i d' h1
   split at hr
   ·rename_i r' h2
    cases hr
    obtain⟨v,us,rfl,g1,g2⟩:=hd.cons_inv
    exact .cons (h.rd g1 h1) (h.rds g2 h2)
   ·cases hr
  ·cases hr
theorem Tr.flat(h:Tr κ κ' f){d d':D}{vs:List Value}(hd:zU κ (zC d) vs)(ho:∀ x∈zC d,x.one=true)(hr:gT f d=some d'):zU κ' (zC d') vs/\∀ x∈zC d',x.one=true:=by
 have zj:∀ (τ:Ty) (x:den τ) (vs:List Value),zU κ (Go.AM.flat τ x) vs->zU κ' (Go.AM.flat τ x) vs:=by
  intro τ x vs hh
  refine⟨hh.1,λi h1 h2 => ?_⟩
  have hm:=List.getElem_mem h1
  have:∃ σ z,(Go.AM.flat τ x)[i]=.zj σ z:=by
   generalize (Go.AM.flat τ x)[i]=y at hm
   clear hh h1 h2
   induction τ with
   | cons a b ia ib =>
    simp only[Go.AM.flat,List.mem_append]at hm
    grind
   | nil=>simp[Go.AM.flat]at hm
   | expr=>simp[Go.AM.flat]at hm; rcases hm with rfl | rfl | rfl | rfl | rfl | rfl<;>exact⟨_,_,rfl⟩
   | _=>simp[Go.AM.flat]at hm; subst hm; exact⟨_,_,rfl⟩
  obtain⟨σ,z,e⟩:=this
  have h3:=hh.2 i h1 h2
  rw[e]at h3 ⊢
  exact h.L8 h3 rfl
 cases d with
 | zj τ x=>cases hr; exact⟨zj τ x vs hd,ho⟩
 | agg l =>
  simp only[gT]at hr
  split at hr
  ·rename_i l' hl
   cases hr
   exact⟨h.rdL hd hl,Zr hl ho⟩
  ·cases hr
 | jC l=>cases hr
 | zK g l =>
  obtain⟨v,r,rfl,h1,h2⟩:=zU.cons_inv (show zU κ [.zK g l] vs from hd)
  rw[h2.zG]
  have Df:=hr
  simp only[gT]at hr
  split at hr
  ·cases hr; exact⟨.cons (h.rd h1 Df) .nil,λx hx=>by simp only[zC,List.mem_singleton]at hx; subst hx; rfl⟩
  ·cases hr
 | iface t x=>cases hr
 | ptr b off =>
  obtain⟨v,r,rfl,h1,h2⟩:=zU.cons_inv (show zU κ [.ptr b off] vs from hd)
  rw[h2.zG]
  have Df:=hr
  simp only[gT,dG]at hr
  split at hr
  ·cases hr; exact⟨.cons (h.L8 h1 Df) .nil,λx hx=>by simp only[zC,List.mem_singleton]at hx; subst hx; rfl⟩
  ·cases hr
 | w8 b =>
  obtain⟨v,r,rfl,h1,h2⟩:=zU.cons_inv (show zU κ [.w8 b] vs from hd)
  rw[h2.zG]
  have Df:=hr
  simp only[gT,dG]at hr
  split at hr
  ·cases hr; exact⟨.cons (h.L8 h1 Df) .nil,λx hx=>by simp only[zC,List.mem_singleton]at hx; subst hx; rfl⟩
  ·cases hr
 | ja b T =>
  obtain⟨v,r,rfl,h1,h2⟩:=zU.cons_inv (show zU κ [.ja b T] vs from hd)
  rw[h2.zG]
  have Df:=hr
  simp only[gT,dG]at hr
  split at hr
  ·cases hr; exact⟨.cons (h.L8 h1 Df) .nil,λx hx=>by simp only[zC,List.mem_singleton]at hx; subst hx; rfl⟩
  ·cases hr
 | wB b q7 e idx off =>
  obtain⟨v,r,rfl,h1,h2⟩:=zU.cons_inv (show zU κ [.wB b q7 e idx off] vs from hd)
  rw[h2.zG]
  have Df:=hr
  simp only[gT,dG]at hr
  split at hr
  ·cases hr; exact⟨.cons (h.L8 h1 Df) .nil,λx hx=>by simp only[zC,List.mem_singleton]at hx; subst hx; rfl⟩
  ·cases hr
 | ms b q7 e off len =>
  obtain⟨v,r,rfl,h1,h2⟩:=zU.cons_inv (show zU κ [.ms b q7 e off len] vs from hd)
  rw[h2.zG]
  have Df:=hr
  simp only[gT,dG]at hr
  split at hr
  ·cases hr; exact⟨.cons (h.L8 h1 Df) .nil,λx hx=>by simp only[zC,List.mem_singleton]at hx; subst hx; rfl⟩
  ·cases hr
 | QZ l=>cases hr; exact⟨⟨hd.1,λi h1=>by cases h1⟩,ho⟩
 | _ =>
  cases hr
  obtain⟨v,r,rfl,h1,h2⟩:=zU.cons_inv hd
  rw[h2.zG]
  exact⟨.cons (h.L8 h1 rfl) .nil,ho⟩
theorem Jg{f:Nat->Option Nat}{d d':D}{tt:Nat}(h:gT f d=some d')(ht:d'.typed=some tt):d.typed=some tt:=by
 cases d with
 | agg l =>
  simp only[gT]at h
  split at h
  ·rename_i l' hl
   cases h
   cases l with
   | nil=>cases hl; cases ht
   | cons x r =>
    simp only[VR]at hl
    split at hl
    ·rename_i x' hx
     split at hl
     ·cases hl
      cases x<;>simp only[dG]at hx<;>first
       | (cases hx; exact ht)
       | (split at hx<;>first | (cases hx; exact ht) | cases hx)
       | cases hx
     ·cases hl
    ·cases hl
  ·cases h
 | zK g l =>
  simp only[gT]at h
  split at h
  ·cases h; cases ht
  ·cases h
 | _ =>
  simp only[gT,dG]at h
  first
   | (cases h; cases ht)
   | (split at h<;>first | (cases h; cases ht) | cases h)
   | cases h
theorem Tr.blk[lf](h:Tr κ κ' f){b b':Nat}(hp:κ'.ph[b']? = κ.ph[b]?){y y':vX}(hy:gX κ b y)(hr:lY f y=some y'):gX κ' b' y':=by
 cases y with
 | dead=>cases hr; trivial
 | var d =>
  simp only[lY]at hr
  split at hr
  ·rename_i d' hd
   cases hr
   refine xF.elim hy (λhm ⟨blk,n,cs,t,h1,h2,h3,h4,h5⟩ => ?_) λl e ⟨blk,o,h1,h2⟩ => ?_
   rotate_left
   ·subst e
    cases hd
    exact⟨blk,o,hp.trans h1,by rw[h.w]; exact h2⟩
   have PM:d'.tk=false:=by
    cases d<;>simp only[gT,dG]at hd<;>first | (cases hm; done) | (cases hd; rfl) | (split at hd<;>first | (cases hd; rfl) | cases hd) | cases hd | cases hm
   obtain⟨g1,g2⟩:=h.flat h4 h5.1 hd
   exact .mk PM ⟨blk,n,cs,t,hp.trans h1,by rw[h.w]; exact h2,h3,g1,g2,λT hT=>h5.2 T (Jg hd hT)⟩
  ·cases hr
 | arr q7 e xs =>
  cases hr
  obtain⟨h0,hh⟩:=hy
  refine⟨h0,bf hh (λh=>⟨h.1,hp.trans h.2⟩) ?_⟩
  rintro⟨blk,n,cs,t,h1,h2,h3,h4,hr,g,h5⟩
  exact⟨blk,n,cs,t,hp.trans h1,by rw[h.w]; exact h2,h3,h4,hr,g,λi hi=>⟨(h5 i hi).1.mono h.same,(h5 i hi).2⟩⟩
theorem iN{f:Nat->Option Nat}:∀ {fr:Fr} {s:Nat} {d':D},(ln f fr).get s=some d'->∃ d,fr.get s=some d/\gT f d=some d'
 | [],s,d',h=>by cases h
 | (t,some d)::r,s,d',h=>by
  simp only[ln,Fr.get]at h ⊢
  cases ht:Nat.beq t s with
  | true=>grind
  | false=>rw[ht,cond_false]at h; simp; exact iN h
 | (t,none)::r,s,d',h=>by
  simp only[ln,Fr.get]at h ⊢
  cases ht:Nat.beq t s with
  | true=>grind
  | false=>rw[ht,cond_false]at h; simp; exact iN h
end
def pos:List Nat->Nat->Option Nat
 | [],_=>none
 | b::r,i=>bif Nat.beq b i then some 0 else match pos r i with | some j=>some (j+1) | none=>none
def vV:List Nat->Bool
 | []=>true
 | b::r=>(match pos r b with | none=>true | some _=>false)&&vV r
theorem bN:∀ {mp:List Nat} {i j:Nat},pos mp i=some j->mp[j]? = some i
 | [],i,j,h=>by cases h
 | b::r,i,j,h=>by
  simp only[pos]at h
  cases hb:Nat.beq b i with
  | true=>rw[hb,cond_true]at h; cases h; rw[Nat.eq_of_beq_eq_true hb]; rfl
  | false =>
   rw[hb,cond_false]at h
   split at h
   ·rename_i k hk; cases h; simpa using bN hk
   ·cases h
theorem gA:∀ {mp:List Nat} {i j:Nat},vV mp=true->mp[j]? = some i->pos mp i=some j
 | [],i,j,_,h=>by simp at h
 | b::r,i,j,hn,h=>by
  simp only[vV,Bool.and_eq_true]at hn
  cases j with
  | zero=>simp at h; subst h; simp only[pos]; rw[Nat.beq_refl]; rfl
  | succ j =>
   have h':r[j]? = some i:=by simpa using h
   have hp:=gA hn.2 h'
   have ui:Nat.beq b i=false:=by
    cases hb:Nat.beq b i with
    | false=>rfl
    | true =>
     have:=Nat.eq_of_beq_eq_true hb
     grind
   simp only[pos,ui,cond_false,hp]
def kB{α:Type}(l:List α):List Nat->Option (List α)
 | []=>some []
 | b::r=>match l[b]? with
  | some x=>match kB l r with | some y=>some (x::y) | none=>none
  | none=>none
theorem o6{α:Type}{l:List α}:∀ {mp:List Nat} {r:List α},kB l mp=some r->r.length=mp.length/\∀ (j b:Nat),mp[j]? = some b->r[j]? = l[b]? /\ b<l.length
 | [],r,h=>by cases h; exact⟨rfl,λj b hj=>by grind⟩
 | b::mp,r,h=>by
  simp only[kB]at h
  split at h
  ·rename_i x hx
   split at h
   ·rename_i y hy
    obtain⟨h1,h2⟩:=o6 hy
    grind
   ·cases h
  ·cases h
theorem nX{f:Nat->Option Nat}:∀ {l r:List vX},yV f l=some r->r.length=l.length/\∀ (j:Nat) (x:vX),l[j]? = some x->∃ y,r[j]? = some y/\lY f x=some y
 | [],r,h=>by cases h; exact⟨rfl,λj x hj=>by grind⟩
 | b::l,r,h=>by
  simp only[yV]at h
  split at h
  ·rename_i b' hb
   split at h
   ·rename_i r' hr
    obtain⟨h1,h2⟩:=nX hr
    grind
   ·cases h
  ·cases h
def yK{α:Type}(mp:List Nat)(new:List α):Nat->List α->List α
 | _,[]=>[]
 | i,x::r=>(match pos mp i with | some j=>(match new[j]? with | some y=>y | none=>x) | none=>x)::yK mp new (i+1) r
def qM{α:Type}(mp:List Nat)(old new:List α):List α:=yK mp new 0 old++new.drop mp.length
theorem wI{α:Type}(mp:List Nat)(new:List α):∀ (l:List α) (i:Nat),(yK mp new i l).length=l.length
 | [],_=>rfl
 | x::r,i=>by simp[yK,wI mp new r (i+1)]
theorem mm{α:Type}(mp:List Nat)(new:List α):∀ (l:List α) (i k:Nat),(yK mp new i l)[k]? = (l[k]?).map λx=>match pos mp (i+k)with | some j=>(match new[j]? with | some y=>y | none=>x) | none=>x
 | [],i,k=>by simp[yK]
 | x::r,i,0=>by simp[yK]
 | x::r,i,k+1=>by
  have:=mm mp new r (i+1) k
  simp only[yK]
  grind
def fwd(mp:List Nat)(n:Nat)(j:Nat):Nat:=match mp[j]? with | some b=>b | none=>n+(j-mp.length)
theorem kZ{α:Type}{mp:List Nat}{old new:List α}{i:Nat}(hi:i<old.length)(hp:pos mp i=none):(qM mp old new)[i]? = old[i]? := by
 unfold qM
 rw[List.getElem?_append_left (by rw[wI]; exact hi),mm,Nat.zero_add,hp]
 simp
theorem Uz{α:Type}{mp:List Nat}{old new:List α}(hn:vV mp=true)(qc:∀ (j b:Nat),mp[j]? = some b->b<old.length)(hlen:mp.length<=new.length){j:Nat}(hj:j<new.length):(qM mp old new)[fwd mp old.length j]? = new[j]? := by
 unfold qM fwd
 cases hm:mp[j]? with
 | some b =>
  have hb:=qc j b hm
  rw[List.getElem?_append_left (by rw[wI]; exact hb),mm,Nat.zero_add,gA hn hm]
  grind
 | none =>
  simp only
  rw[List.getElem?_append_right (by rw[wI]; omega),wI,List.getElem?_drop]
  grind
theorem UZ{α:Type}{mp:List Nat}{old new:List α}(qc:∀ (j b:Nat),mp[j]? = some b->b<old.length)(hlen:mp.length<=new.length){i:Nat}(hi:i<(qM mp old new).length) :
  (i<old.length/\pos mp i=none)\/∃ j,j<new.length/\i=fwd mp old.length j:=by
 by_cases h:i<old.length
 ·cases hp:pos mp i with
  | none=>grind
  | some j =>
   have:=bN hp
   have hj:=(List.getElem?_eq_some_iff.1 this).1
   exact .inr ⟨j,by omega,by unfold fwd; rw[this]⟩
 ·have hl:i<old.length+(new.length-mp.length):=by simpa[qM,wI]using hi
  refine .inr ⟨mp.length+(i-old.length),by omega,?_⟩
  unfold fwd
  grind
end Go.AM
namespace Go.AM
set_option linter.unusedSectionVars false
variable [we]
open Go.RowKit
section
variable {κ:KS} {mp:List Nat}
theorem Wq{uJ l:List vX}{p1:List (Option (Nat×Nat))}(hI:Inv κ)(hn:vV mp=true)(hp:kB κ.ph mp=some p1)(hl:kB κ.st mp=some l)(hr:yV (pos mp) l=some uJ) :
  Inv ⟨κ.w,κ.ok,p1,uJ⟩/\Tr κ ⟨κ.w,κ.ok,p1,uJ⟩ (pos mp)/\uJ.length=mp.length/\p1.length=mp.length/\∀ (j b:Nat),mp[j]? = some b->p1[j]? = κ.ph[b]? /\ ∃ x y:vX,κ.st[b]? = some x/\lY (pos mp) x=some y/\uJ[j]? = some y:=by
 obtain⟨a1,a2⟩:=o6 hp
 obtain⟨b1,b2⟩:=o6 hl
 obtain⟨c1,c2⟩:=nX hr
 have key:∀ (j b:Nat),mp[j]? = some b->p1[j]? = κ.ph[b]? /\ ∃ x y:vX,κ.st[b]? = some x/\lY (pos mp) x=some y/\uJ[j]? = some y:=by
  grind
 have at':∀ {j:Nat} {y:vX},uJ[j]? = some y->∃ b,mp[j]? = some b:=λh=>by
  have:=(List.getElem?_eq_some_iff.1 h).1
  exact⟨_,List.getElem?_eq_getElem (by omega)⟩
 have hT:Tr κ ⟨κ.w,κ.ok,p1,uJ⟩ (pos mp):=by
  refine⟨rfl,rfl,λb j d hf hb => ?_,λb j q7 hf ho => ?_,λb j v e xs hf hb => ?_⟩
  ·obtain⟨h1,x,y,h2,h3,h4⟩:=key j b (bN hf)
   rw[hb]at h2
   cases h2
   simp only[lY]at h3
   grind
  ·obtain⟨h1,x,y,h2,h3,h4⟩:=key j b (bN hf)
   rcases ho with ho | ⟨v0,e0,mv,ho,hv⟩
   ·rw[ho]at h2; cases h2; cases h3; exact .inl h4
   ·rw[ho]at h2; cases h2; cases h3; exact .inr ⟨v0,e0,mv,h4,hv⟩
  ·obtain⟨h1,x,y,h2,h3,h4⟩:=key j b (bN hf)
   rw[show uJ[j]? = some (.arr v e xs)from hb]at h4
   cases h4
   cases x with
   | dead=>cases h3
   | var d=>simp only[lY]at h3; split at h3<;>cases h3
   | arr v0 e0 mv=>cases h3; exact⟨h2,h1⟩
 refine⟨⟨by show p1.length=uJ.length; omega,hI.ux,λj blk n h => ?_,λj j' blk n n' h h' => ?_,λj y h => ?_,hI.gl⟩,hT,by omega,a1,key⟩
 ·obtain⟨b,hb⟩:∃ b,mp[j]? = some b:=⟨_,List.getElem?_eq_getElem (by have:j<p1.length:=(List.getElem?_eq_some_iff.1 h).1; omega)⟩
  exact hI.apart b blk n ((a2 j b hb).1.symm.trans h)
 ·obtain⟨b,hb⟩:∃ b,mp[j]? = some b:=⟨_,List.getElem?_eq_getElem (by have:j<p1.length:=(List.getElem?_eq_some_iff.1 h).1; omega)⟩
  obtain⟨b',ZH⟩:∃ b,mp[j']? = some b:=⟨_,List.getElem?_eq_getElem (by have:j'<p1.length:=(List.getElem?_eq_some_iff.1 h').1; omega)⟩
  have:=hI.inj b b' blk n n' ((a2 j b hb).1.symm.trans h) ((a2 j' b' ZH).1.symm.trans h')
  subst this
  exact Option.some.inj ((gA hn hb).symm.trans (gA hn ZH))
 ·obtain⟨b,hb⟩:=at' h
  obtain⟨h1,x,y',h2,h3,h4⟩:=key j b hb
  rw[show uJ[j]? = some y from h]at h4
  cases h4
  exact hT.blk h1 (hI.blk b x h2) h3
theorem rY{κ1:KS}{uJ wq l:List vX}{p1:List (Option (Nat×Nat))}(hI:Inv κ)(hn:vV mp=true)(hp:kB κ.ph mp=some p1)(hl:kB κ.st mp=some l)(hr:yV (pos mp) l=some uJ)
  (nT:Inv κ1) (hx:Ext ⟨κ.w,κ.ok,p1,uJ⟩ κ1) (hr2:yV (λj=>some (fwd mp κ.st.length j)) κ1.st=some wq) :
  ∃ κ':KS,κ'.w=κ1.w/\κ'.st=qM mp κ.st wq/\Inv κ'/\Ext κ κ'/\Tr κ1 κ' (λj=>some (fwd mp κ.st.length j)):=by
 obtain⟨hIs,hTs,s1,s2,key⟩:=Wq hI hn hp hl hr
 obtain⟨r1,r2⟩:=nX hr2
 have qc:∀ (j b:Nat),mp[j]? = some b->b<κ.st.length:=λj b hj=>by obtain⟨_,x,_,h,_⟩:=key j b hj; exact(List.getElem?_eq_some_iff.1 h).1
 have z7G:∀ (j b:Nat),mp[j]? = some b->b<κ.ph.length:=λj b hj=>by rw[hI.len]; exact qc j b hj
 have hm1:mp.length<=κ1.st.length:=by have:=hx.Uv; simp only at this; omega
 have hm2:mp.length<=wq.length:=by omega
 have rG:mp.length<=κ1.ph.length:=by rw[nT.len]; exact hm1
 let fw:=fwd mp κ.st.length
 have hlen:(qM mp κ.ph κ1.ph).length=(qM mp κ.st wq).length:=by simp[qM,wI,hI.len,nT.len,r1]
 -- what lies where
 have Ov:∀ {j:Nat} {x:vX},κ1.st[j]? = some x->∃ y,(qM mp κ.st wq)[fw j]? = some y/\lY (λj=>some (fw j)) x=some y:=by
  intro j x hj
  obtain⟨y,h1,h2⟩:=r2 j x hj
  exact⟨y,by rw[Uz hn qc hm2 (by rw[r1]; exact(List.getElem?_eq_some_iff.1 hj).1)]; exact h1,h2⟩
 have NL:∀ {j:Nat},j<κ1.st.length->(qM mp κ.ph κ1.ph)[fw j]? = κ1.ph[j]? := by
  intro j hj
  have:=Uz (old:=κ.ph) (new:=κ1.ph) hn z7G rG (j:=j) (by rw[nT.len]; exact hj)
  rw[hI.len]at this
  exact this
 have ust:∀ {i:Nat},i<κ.st.length->pos mp i=none->(qM mp κ.st wq)[i]? = κ.st[i]? := λhi h=>kZ hi h
 have NW:∀ {i:Nat},i<κ.st.length->pos mp i=none->(qM mp κ.ph κ1.ph)[i]? = κ.ph[i]? := λhi h=>kZ (by rw[hI.len]; exact hi) h
 have ot:∀ {i:Nat},i<(qM mp κ.st wq).length->(i<κ.st.length/\pos mp i=none)\/∃ j,j<κ1.st.length/\i=fw j:=by
  intro i hi
  rcases UZ qc hm2 hi with h | ⟨j,h1,h2⟩
  ·grind
  ·grind
 have Bo:∀ {j b:Nat},mp[j]? = some b->fw j=b:=λh=>by simp only[fw,fwd,h]
 have zah:∀ {j:Nat},mp[j]? = none->κ.st.length<=fw j:=λh=>by simp only[fw,fwd,h]; omega
 -- the part's own blocks
 have S3:∀ {j:Nat} {q:Nat×Nat},p1[j]? = some (some q)->∃ b,mp[j]? = some b/\κ.ph[b]? = some (some q):=by
  intro j q h
  have hj:=(List.getElem?_eq_some_iff.1 h).1
  obtain⟨b,hb⟩:∃ b,mp[j]? = some b:=⟨_,List.getElem?_eq_getElem (by omega)⟩
  grind
 have hT:Tr κ1 ⟨κ1.w,κ1.ok,qM mp κ.ph κ1.ph,qM mp κ.st wq⟩ (λj=>some (fw j)):=by
  refine⟨rfl,rfl,λj b d hf hj => ?_,λj b q7 hf ho => ?_,λj b v e xs hf hb => ?_⟩
  ·cases hf
   obtain⟨y,h1,h2⟩:=Ov hj
   simp only[lY]at h2
   grind
  ·cases hf
   rcases ho with ho | ⟨v0,e0,mv,ho,hv⟩
   ·obtain⟨y,h1,h2⟩:=Ov ho; cases h2; exact .inl h1
   ·obtain⟨y,h1,h2⟩:=Ov ho; cases h2; exact .inr ⟨v0,e0,mv,h1,hv⟩
  ·cases hf
   have hb:(qM mp κ.st wq)[fw j]? = some (.arr v e xs):=hb
   have pO:=(List.getElem?_eq_some_iff.1 hb).1
   have hj:j<κ1.st.length:=by
    by_cases hj:j<κ1.st.length
    ·exact hj
    ·exfalso
     cases hm:mp[j]? with
     | some c=>have:=(List.getElem?_eq_some_iff.1 hm).1; omega
     | none =>
      have h3:fw j=κ.st.length+(j-mp.length):=by simp only[fw,fwd,hm]
      have h4:(qM mp κ.st wq).length=κ.st.length+(wq.length-mp.length):=by simp[qM,wI]
      omega
   obtain⟨y,h1,h2⟩:=Ov (List.getElem?_eq_getElem hj)
   rw[hb]at h1
   cases h1
   refine⟨?_,NL hj⟩
   rw[List.getElem?_eq_getElem hj]
   generalize κ1.st[j]=x at h2
   cases x with
   | dead=>cases h2
   | var d=>simp only[lY]at h2; split at h2<;>cases h2
   | arr v0 e0 mv=>cases h2; rfl
 -- X8 blocks lie as they lay
 have X8:∀ {i blk n:Nat},pos mp i=none->κ.ph[i]? = some (some (blk,n))->κ1.w.heap[blk]? = κ.w.heap[blk]? := by
  intro i blk n hi h
  obtain⟨g1,g2⟩:=hI.apart i blk n h
  refine hx.frame blk g1 λj m hj => ?_
  obtain⟨b,KU,Uf⟩:=S3 hj
  have:=hI.inj i b blk n m h Uf
  subst this
  rw[gA hn KU]at hi
  cases hi
 have hE:Ext κ ⟨κ1.w,κ1.ok,qM mp κ.ph κ1.ph,qM mp κ.st wq⟩:=by
  refine⟨hx.os,hx.tape,hx.output,hx.size,hx.same,λk hk => ?_,λi blk n h => ?_,λi d hi => ?_,λi v0 e mv hi => ?_,λi hi => ?_,?_,λk hk Ib => ?_⟩
  ·rcases hx.fresh k hk with h | h | ⟨j,n,h⟩
   ·exact .inl h
   ·exact .inr (.inl h)
   ·obtain⟨b,_,hb⟩:=S3 h; exact .inr (.inr ⟨b,n,hb⟩)
  ·have h:(qM mp κ.ph κ1.ph)[i]? = some (some (blk,n)):=h
   have Qb:i<(qM mp κ.st wq).length:=by rw[<- hlen]; exact(List.getElem?_eq_some_iff.1 h).1
   rcases ot Qb with⟨h1,h2⟩ | ⟨j,h1,rfl⟩
   ·rw[NW h1 h2]at h; exact .inl h
   ·rw[NL h1]at h
    rcases hx.Dg j blk n h with h3 | h3
    ·obtain⟨b,KU,Uf⟩:=S3 h3
     rw[Bo KU]; exact .inl Uf
    ·exact .inr h3
  ·have Bq:=(List.getElem?_eq_some_iff.1 hi).1
   cases UO:pos mp i with
   | none=>exact⟨⟨d,(ust Bq UO).trans hi⟩,NW Bq UO⟩
   | some j =>
    have Ia:=bN UO
    obtain⟨k1,x,y,k2,k3,k4⟩:=key j i Ia
    rw[hi]at k2
    cases k2
    simp only[lY]at k3
    split at k3
    ·cases k3
     obtain⟨⟨d',g1⟩,g2⟩:=hx.var j _ k4
     obtain⟨⟨d'',q1⟩,q2⟩:=hT.var j (fw j) d' rfl g1
     rw[Bo Ia]at q1 q2
     exact⟨⟨d'',q1⟩,q2.trans (g2.trans k1)⟩
    ·cases k3
  ·have Bq:=(List.getElem?_eq_some_iff.1 hi).1
   cases UO:pos mp i with
   | none=>exact .inr ⟨v0,mv,(ust Bq UO).trans hi,Nat.le_refl _,λ_=>⟨NW Bq UO,rfl⟩⟩
   | some j =>
    have Ia:=bN UO
    obtain⟨k1,x,y,k2,k3,k4⟩:=key j i Ia
    rw[hi]at k2
    cases k2
    cases k3
    rcases hx.arr j v0 e mv k4 with g | ⟨v1,OD,g1,g2,g3⟩
    ·obtain⟨y,q1,q2⟩:=Ov g
     cases q2
     rw[Bo Ia]at q1
     exact .inl q1
    ·obtain⟨y,q1,q2⟩:=Ov g1
     cases q2
     rw[Bo Ia]at q1
     refine .inr ⟨v1,OD,q1,g2,λhe=>⟨?_,(g3 he).2⟩⟩
     have h4:=NL (List.getElem?_eq_some_iff.1 g1).1
     rw[Bo Ia]at h4
     exact h4.trans ((g3 he).1.trans k1)
  ·have Bq:=(List.getElem?_eq_some_iff.1 hi).1
   cases UO:pos mp i with
   | none=>exact(ust Bq UO).trans hi
   | some j =>
    have Ia:=bN UO
    obtain⟨k1,x,y,k2,k3,k4⟩:=key j i Ia
    rw[hi]at k2
    cases k2
    cases k3
    obtain⟨y,q1,q2⟩:=Ov (hx.dead j k4)
    cases q2
    rw[Bo Ia]at q1
    exact q1
  ·show κ.st.length<=(qM mp κ.st wq).length
   simp[qM,wI]
  ·exact hx.frame k hk λj n hj=>by obtain⟨b,_,hb⟩:=S3 hj; exact Ib b n hb
 refine⟨⟨κ1.w,κ1.ok,qM mp κ.ph κ1.ph,qM mp κ.st wq⟩,rfl,rfl,⟨hlen,nT.ux,λi blk n h => ?_,λi i' blk n n' h h' => ?_,λi y h => ?_,nT.gl⟩,hE,hT⟩
 ·have h:(qM mp κ.ph κ1.ph)[i]? = some (some (blk,n)):=h
  have Qb:i<(qM mp κ.st wq).length:=by rw[<- hlen]; exact(List.getElem?_eq_some_iff.1 h).1
  rcases ot Qb with⟨h1,h2⟩ | ⟨j,h1,rfl⟩
  ·rw[NW h1 h2]at h
   obtain⟨g1,g2⟩:=hI.apart i blk n h
   refine⟨Nat.lt_of_lt_of_le g1 hx.size,λhk => ?_⟩
   rcases hx.fresh blk hk with hk | hk | ⟨j,m,hj⟩
   ·exact g2 hk
   ·simp only at hk; omega
   ·obtain⟨b,KU,Uf⟩:=S3 hj
    have:=hI.inj i b blk n m h Uf
    subst this
    rw[gA hn KU]at h2
    cases h2
  ·rw[NL h1]at h
   exact nT.apart j blk n h
 ·have h:(qM mp κ.ph κ1.ph)[i]? = some (some (blk,n)):=h
  have h':(qM mp κ.ph κ1.ph)[i']? = some (some (blk,n')):=h'
  have Me:i<(qM mp κ.st wq).length:=by rw[<- hlen]; exact(List.getElem?_eq_some_iff.1 h).1
  have K5:i'<(qM mp κ.st wq).length:=by rw[<- hlen]; exact(List.getElem?_eq_some_iff.1 h').1
  have mixed:∀ {i j n n':Nat},i<κ.st.length->pos mp i=none->j<κ1.st.length->κ.ph[i]? = some (some (blk,n))->κ1.ph[j]? = some (some (blk,n'))->False:=by
   intro i j n n' h1 h2 h3 h4 h5
   rcases hx.Dg j blk n' h5 with h6 | h6
   ·obtain⟨b,KU,Uf⟩:=S3 h6
    have:=hI.inj i b blk n n' h4 Uf
    subst this
    rw[gA hn KU]at h2
    cases h2
   ·have:=(hI.apart i blk n h4).1
    simp only at h6
    omega
  rcases ot Me with⟨h1,h2⟩ | ⟨j,h1,rfl⟩
  ·rw[NW h1 h2]at h
   rcases ot K5 with⟨h3,h4⟩ | ⟨j',h3,rfl⟩
   ·rw[NW h3 h4]at h'; exact hI.inj i i' blk n n' h h'
   ·rw[NL h3]at h'; exact(mixed h1 h2 h3 h h').elim
  ·rw[NL h1]at h
   rcases ot K5 with⟨h3,h4⟩ | ⟨j',h3,rfl⟩
   ·rw[NW h3 h4]at h'; exact(mixed h3 h4 h1 h' h).elim
   ·rw[NL h3]at h'
    rw[nT.inj j j' blk n n' h h']
 ·have h:(qM mp κ.st wq)[i]? = some y:=h
  rcases ot (List.getElem?_eq_some_iff.1 h).1 with⟨h1,h2⟩ | ⟨j,h1,rfl⟩
  ·rw[ust h1 h2]at h
   exact(hI.blk i y h).mono hE (NW h1 h2) λblk n hb=>X8 h2 hb
  ·obtain⟨z,q1,q2⟩:=Ov (List.getElem?_eq_getElem h1)
   rw[h]at q1
   cases q1
   exact hT.blk (NL h1) (nT.blk j _ (List.getElem?_eq_getElem h1)) q2
end
end Go.AM
namespace Go.AM
set_option linter.unusedSectionVars false
variable [we]
open Go.RowKit
inductive AK where
 | any | cur | sub | ptr | zK (f:Nat)
structure wK where
 ks:List AK
 sh:qz
 ur:List Gh
 out:qz
 nr:Nat
 F:sh.den->T out.den
def Qc(fr:Fr):Nat->Nat->Option (List D)
 | 0,_=>some []
 | n+1,i=>match fr.get i with
  | some d=>match Qc fr n (i+1)with | some r=>some (d::r) | none=>none
  | none=>none
def gx(nr:Nat)(fr:Fr):Option (List D):=Qc fr nr 0
def DJ:List (Nat×Nat)->List D->Nat->Option Nat
 | p::r,.ptr b' _::ds,b=>bif Nat.beq p.1 b then some b' else DJ r ds b
 | _,_,_=>none
def z3M(b:Nat):Ck->D->Option Nat
 | .ptr c _,.ptr b' _=>bif Nat.beq c b then some b' else none
 | .cur c _,.ms b' _ _ _ _=>bif Nat.beq c b then some b' else none
 | .zK _ l,.zK _ ds=>DJ l ds b
 | .w8 c,.w8 b'=>bif Nat.beq c b then some b' else none
 | _,_=>none
def Pn(fr:Fr)(b:Nat):List (Nat×Ck)->Option Nat
 | []=>none
 | (s,k)::r=>match fr.get s with
  | some d=>match z3M b k d with | some b'=>some b' | none=>Pn fr b r
  | none=>Pn fr b r
def V9(b:Nat):List Mc->List D->Option Nat
 | .pt c::r,.ptr b' _::ds=>bif Nat.beq c b then some b' else V9 b r ds
 | .pt _::r,_::ds=>V9 b r ds
 | .im _::r,_::ds=>V9 b r ds
 | .rp _::r,_::ds=>V9 b r ds
 | _,_=>none
def pE(b:Nat):List Sk->List D->Option Nat
 | .im τ::r,ds=>pE b r (ds.drop τ.size)
 | .row c _::r,.ms b' _ _ _ _::ds=>bif Nat.beq c b then some b' else pE b r ds
 | .row _ _::r,_::ds=>pE b r ds
 | .op c _::r,.ja b' _::ds=>bif Nat.beq c b then some b' else pE b r ds
 | .op _ _::r,_::ds=>pE b r ds
 | .un::r,_::ds=>pE b r ds
 | .nl::r,_::ds=>pE b r ds
 | _,_=>none
def X1(fr:Fr)(b:Nat):List It->Option Nat
 | []=>none
 | .s s (.mclo _ ms)::r=>match fr.get s with
  | some (.zK _ l)=>match V9 b ms l with | some b'=>some b' | none=>X1 fr b r
  | _=>X1 fr b r
 | .s s (.sub c _)::r=>match fr.get s with
  | some (.ms b' _ _ _ _)=>bif Nat.beq c b then some b' else X1 fr b r
  | _=>X1 fr b r
 | _::r=>X1 fr b r
def HU(st:St)(b:Nat):List Bk->List (Option Nat)->Option Nat
 | .cvar k::r,some p::ps=>match st[p]? with
  | some (.var d)=>match z3M b k d with | some b'=>some b' | none=>HU st b r ps
  | _=>HU st b r ps
 | .var (.st ks)::r,some p::ps=>match st[p]? with
  | some (.var d)=>match pE b ks (zC d)with | some b'=>some b' | none=>HU st b r ps
  | _=>HU st b r ps
 | _::r,_::ps=>HU st b r ps
 | _,_=>none
def Bv(sh:qz)(fr:Fr):Nat->List Bk->List (Option Nat)
 | _,[]=>[]
 | b,_::r=>(match Pn fr b sh.cs with | some b'=>some b' | none=>X1 fr b sh.k7)::Bv sh fr (b+1) r
def HG(sh:qz)(st:St)(m:List (Option Nat)):Nat->List (Option Nat)->List (Option Nat)
 | _,[]=>[]
 | b,some b'::r=>some b'::HG sh st m (b+1) r
 | b,none::r=>HU st b sh.bs m::HG sh st m (b+1) r
def Vl:List (Option Nat)->Option (List Nat)
 | []=>some []
 | some b::r=>match Vl r with | some l=>some (b::l) | none=>none
 | none::_=>none
def mapOf(sh:qz)(fr:Fr)(st:St):Option (List Nat):=let m:=Bv sh fr 0 sh.bs
 let m:=HG sh st m 0 m
 Vl (HG sh st m 0 m)
def wK.back(d:wK)(mp:List Nat)(st:St)(y:d.out.den):T (ZI×St):=match gx d.nr (d.out.fr y),yV (λj=>some (fwd mp st.length j)) (d.out.st y)with
 | some ds,some wq=>match iC (λj=>some (fwd mp st.length j)) ds with
  | some WI=>.ret (.ret WI,qM mp st wq)
  | none=>.fail
 | _,_=>.fail
def wK.inner(d:wK)(mp:List Nat)(fr:Fr)(st:St):T (ZI×St):=match kB st mp with
 | none=>.fail
 | some l=>match yV (pos mp) l with
  | none=>.fail
  | some uJ=>(d.sh.un (ln (pos mp) fr) uJ).bind λx=>(d.F x).bind λy=>d.back mp st y
def wK.S(d:wK)(args:List D)(st:St):T (ZI×St) :=
 match mapOf d.sh (gh d.ur (xV args 0) st).1 (gh d.ur (xV args 0) st).2 with
 | none=>.fail
 | some mp=>bif vV mp&&Nat.ble mp.length d.sh.bs.length&&Nat.beq args.length d.ks.length then d.inner mp (gh d.ur (xV args 0) st).1 (gh d.ur (xV args 0) st).2 else .fail
def wK.ep{α:Type}(d:wK)(mp:List Nat)(st:St)(y:d.out.den)(k:List D->St->T α):T α:=match gx d.nr (d.out.fr y),yV (λj=>some (fwd mp st.length j)) (d.out.st y)with
 | some ds,some wq=>match iC (λj=>some (fwd mp st.length j)) ds with
  | some WI=>k WI (qM mp st wq)
  | none=>.fail
 | _,_=>.fail
def wK.iv{α:Type}(d:wK)(mp:List Nat)(fr:Fr)(st:St)(k:List D->St->T α):T α:=match kB st mp with
 | none=>.fail
 | some l=>match yV (pos mp) l with
  | none=>.fail
  | some uJ=>(d.sh.un (ln (pos mp) fr) uJ).bind λx=>(d.F x).bind λy=>d.ep mp st y k
def wK.K{α:Type}(d:wK)(args:List D)(st:St)(k:List D->St->T α):T α :=
 match mapOf d.sh (gh d.ur (xV args 0) st).1 (gh d.ur (xV args 0) st).2 with
 | none=>.fail
 | some mp=>bif vV mp&&Nat.ble mp.length d.sh.bs.length&&Nat.beq args.length d.ks.length then d.iv mp (gh d.ur (xV args 0) st).1 (gh d.ur (xV args 0) st).2 k else .fail
theorem wK.Fi{α:Type}{d:wK}{args:List D}{st:St}{k:List D->St->T α}{r:α}(h:(d.K args st k).leads r):∃ ds zg,(d.S args st).leads (.ret ds,zg)/\(k ds zg).leads r:=by
 unfold wK.K at h
 unfold wK.S
 split at h
 ·exact h.elim
 ·rename_i mp rG
  cases hc:vV mp&&Nat.ble mp.length d.sh.bs.length&&Nat.beq args.length d.ks.length with
  | false=>rw[hc]at h; exact h.elim
  | true =>
   rw[hc,cond_true]at h
   unfold wK.iv at h
   unfold wK.inner
   split at h
   ·exact h.elim
   ·rename_i l hl
    split at h
    ·exact h.elim
    ·rename_i uJ hst1
     obtain⟨x,h1,h⟩:=T.z6.1 h
     obtain⟨y,h2,h⟩:=T.z6.1 h
     unfold wK.ep at h
     split at h
     ·rename_i ds wq e1 e2
      split at h
      ·rename_i WI e3
       refine⟨WI,_,T.z6.2 ⟨x,h1,T.z6.2 ⟨y,h2,?_⟩⟩,h⟩
       unfold wK.back
       simp only[e1,e2,e3]
       rfl
      ·exact h.elim
     ·exact h.elim
def vS(Dr:El)(g:Nat)(d:wK):Prop:=∀ (κ:KS) (x:d.sh.den) (zp:List Value) (y:d.out.den),κ.st=d.sh.st x->(d.F x).leads y->Inv κ->zp.length=d.ks.length ->
 Rel κ zp.length (d.sh.fr x).get { tmps:=zp.toArray,defers:=[] } ->
 Dr g zp.toArray κ.w λe w'=>∃ (κ':KS) (ds:List D),κ'.w=w'/\κ'.st=d.out.st y/\Inv κ'/\Ext κ κ'/\gx d.nr (d.out.fr y)=some ds/\qL κ' (.ret ds) e
def zE(P:Program)(g:Nat)(d:wK):Prop:=∀ (κ:KS) (x:d.sh.den) (zp:List Value) (y:d.out.den),κ.st=d.sh.st x->(d.F x).leads y->Inv κ->zp.length=d.ks.length ->
 Rel κ zp.length (d.sh.fr x).get { tmps:=zp.toArray,defers:=[] } ->
 wY P g zp.toArray κ.w λe w'=>∃ (κ':KS) (ds:List D),κ'.w=w'/\κ'.st=d.out.st y/\Inv κ'/\Ext κ κ'/\gx d.nr (d.out.fr y)=some ds/\qL κ' (.ret ds) e
theorem Wp{κ κ':KS}{f:Nat->Option Nat}(h:Tr κ κ' f){ds WI:List D}{v:Value}(hd:RD κ (jA ds) v)(hr:iC f ds=some WI):RD κ' (jA WI) v:=by
 match ds,hr with
 | [],hr =>
  cases hr
  cases hd with
  | jC _ vs hl hh =>
   obtain rfl:vs=[]:=List.eq_nil_of_length_eq_zero hl.symm
   exact .jC [] [] rfl (λi h=>absurd h (Nat.not_lt_zero i))
 | [d],hr =>
  simp only[iC]at hr
  split at hr
  ·rename_i d' h1
   cases hr
   exact h.rd hd h1
  ·cases hr
 | d::e::r,hr =>
  cases hd with
  | jC _ vs hl hh =>
   have hR:=h.rds (⟨hl,hh⟩:zU κ (d::e::r) vs) hr
   simp only[iC]at hr
   split at hr
   ·split at hr
    ·rename_i r' h2
     cases hr
     split at h2
     ·split at h2
      ·cases h2; exact .jC _ vs hR.1 hR.2
      ·cases h2
     ·cases h2
    ·cases hr
   ·cases hr
theorem dA{α β:Type}{l:List α}{m:List β}(h:l.length=m.length):∀ {mp:List Nat} {r:List α},kB l mp=some r->∃ q,kB m mp=some q
 | [],_,_=>⟨[],rfl⟩
 | b::mp,r,hr=>by
  simp only[kB]at hr
  split at hr
  ·rename_i x hx
   split at hr
   ·rename_i y hy
    obtain⟨q,hq⟩:=dA h hy
    have hb:b<m.length:=by have:=(List.getElem?_eq_some_iff.1 hx).1; omega
    exact⟨m[b]::q,by simp only[kB,List.getElem?_eq_getElem hb,hq]⟩
   ·cases hr
  ·cases hr
theorem wK.RB{Dr:El}(z0B:∀ {g a w} {R R':Ending->World->Prop},Dr g a w R->(∀ e w',R e w'->R' e w')->Dr g a w R'){g:Nat}{d:wK}(h:vS Dr g d):z6Q Dr g d.S:=by
 intro κ args zp rs zg hl hI ha
 have Dj:Rel κ zp.length (xV args 0).get { tmps:=zp.toArray,defers:=[] }:=by
  have:=rV (n:=zp.length) ha (by rw[ha.1]; exact Nat.le_refl _)
  simpa[show(X0.df:List Deferred)=[]from rfl]using this
 obtain⟨κ0,w1,w2,w3,w4,w5⟩:=bK d.ur (xV args 0) κ hI Dj
 unfold wK.S at hl
 rw[<- w2]at hl
 split at hl
 ·exact hl.elim
 ·rename_i mp rG
  cases hc:vV mp&&Nat.ble mp.length d.sh.bs.length&&Nat.beq args.length d.ks.length with
  | false=>rw[hc]at hl; exact hl.elim
  | true =>
   rw[hc,cond_true]at hl
   simp only[Bool.and_eq_true]at hc
   obtain⟨⟨hn,hle⟩,hlen⟩:=hc
   unfold wK.inner at hl
   split at hl
   ·exact hl.elim
   ·rename_i l ZG
    split at hl
    ·exact hl.elim
    ·rename_i uJ hst1
     obtain⟨x,h1,hl⟩:=T.z6.1 hl
     obtain⟨y,h2,hl⟩:=T.z6.1 hl
     obtain⟨p1,P4⟩:=dA (m:=κ0.ph) w3.len.symm ZG
     obtain⟨s1,s2,s3,s4,s5⟩:=Wq w3 hn P4 ZG hst1
     have Qg:Rel ⟨κ0.w,κ0.ok,p1,uJ⟩ zp.length (ln (pos mp) (gh d.ur (xV args 0) κ.st).1).get { tmps:=zp.toArray,defers:=[] } :=
      ⟨w5.size,w5.defers,λs d' hd=>by
       obtain⟨d0,q1,q2⟩:=iN hd
       obtain⟨v,q3,q4⟩:=w5.get s d0 q1
       exact⟨v,q3,s2.rd q4 q2⟩⟩
     obtain⟨κ2,u1,u2,u3,u4,u5,_⟩:=d.sh.r9 (κ0:=⟨κ0.w,κ0.ok,p1,uJ⟩) (κ:=⟨κ0.w,κ0.ok,p1,uJ⟩) (Ext.refl _) s1 Qg (by show uJ.length<=_; rw[s3]; exact Nat.le_of_ble_eq_true hle) h1
     have hw:κ2.w=κ.w:=u1.trans w1
     have hdo:=h κ2 x zp y u2 h2 u3 (by rw[<- ha.1]; exact Nat.eq_of_beq_eq_true hlen) u5
     rw[hw]at hdo
     refine z0B hdo ?_
     rintro e w' ⟨κ3,ds,rfl,g1,g2,g3,g4,v,rfl,g5⟩
     unfold wK.back at hl
     rw[g4,<- g1]at hl
     split at hl
     ·rename_i ds0 wq e1 e2
      cases e1
      split at hl
      ·rename_i WI hds'
       cases hl
       obtain⟨κ',k1,k2,k3,k4,k5⟩:=rY w3 hn P4 ZG hst1 g2 (u4.trans g3) e2
       exact⟨κ',k1,k2,k3,w4.trans k4,v,rfl,Wp k5 g5 hds'⟩
      ·exact hl.elim
     ·exact hl.elim
theorem wK.snd{P:Program}{g:Nat}{d:wK}(h:zE P g d):WZ P g d.S:=wK.RB (Dr:=wY P) wY.mono h
structure kW where
 ks:List AK
 sh:qz
 ur:List Gh
 out:qz
 nr:Nat
 pt:Nat
 wN:qz
 two:Option Nat
 F:sh.den->T (out.den⊕wN.den)
abbrev kW.s(d:kW):wK:=⟨d.ks,d.sh,d.ur,d.out,d.nr,λ_=>.fail⟩
abbrev kW.s2(d:kW)(n:Nat):wK:=⟨d.ks,d.sh,d.ur,d.wN,n,λ_=>.fail⟩
def kW.E5{α:Type}(d:kW)(mp:List Nat)(st:St)(z:d.wN.den)(kp:D->St->T α):T α:=match(d.wN.fr z).get 0,yV (λj=>some (fwd mp st.length j)) (d.wN.st z)with
 | some (.zj τ x),some wq=>kp (.iface d.pt (.zj τ x)) (qM mp st wq)
 | _,_=>.fail
def kW.UW{α:Type}(d:kW)(mp:List Nat)(st:St)(z:d.wN.den)(k:List D->St->T α)(kp:D->St->T α):T α:=match d.two with
 | none=>d.E5 mp st z kp
 | some n=>(d.s2 n).ep mp st z k
def kW.iv{α:Type}(d:kW)(mp:List Nat)(fr:Fr)(st:St)(k:List D->St->T α)(kp:D->St->T α):T α:=match kB st mp with
 | none=>.fail
 | some l=>match yV (pos mp) l with
  | none=>.fail
  | some uJ=>(d.sh.un (ln (pos mp) fr) uJ).bind λx=>(d.F x).bind (Sum.elim (λy=>d.s.ep mp st y k) (λz=>d.UW mp st z k kp))
def kW.K{α:Type}(d:kW)(args:List D)(st:St)(k:List D->St->T α)(kp:D->St->T α):T α :=
 match mapOf d.sh (gh d.ur (xV args 0) st).1 (gh d.ur (xV args 0) st).2 with
 | none=>.fail
 | some mp=>bif vV mp&&Nat.ble mp.length d.sh.bs.length&&Nat.beq args.length d.ks.length then d.iv mp (gh d.ur (xV args 0) st).1 (gh d.ur (xV args 0) st).2 k kp else .fail
def kW.S(d:kW)(args:List D)(st:St):T (ZI×St):=d.K args st (λds zg=>.ret (.ret ds,zg)) (λp zg=>.ret (.wN p,zg))
theorem kW.Fi{α:Type}{d:kW}{args:List D}{st:St}{k:List D->St->T α}{kp:D->St->T α}{r:α}(h:(d.K args st k kp).leads r) :
  (∃ ds zg,(d.S args st).leads (.ret ds,zg)/\(k ds zg).leads r)\/∃ p zg,(d.S args st).leads (.wN p,zg)/\(kp p zg).leads r:=by
 unfold kW.K at h
 unfold kW.S kW.K
 split at h
 ·exact h.elim
 ·rename_i mp rG
  cases hc:vV mp&&Nat.ble mp.length d.sh.bs.length&&Nat.beq args.length d.ks.length with
  | false=>rw[hc]at h; exact h.elim
  | true =>
   rw[hc,cond_true]at h
   unfold kW.iv at h
   unfold kW.iv
   split at h
   ·exact h.elim
   ·rename_i l hl
    split at h
    ·exact h.elim
    ·rename_i uJ hst1
     obtain⟨x,h1,h⟩:=T.z6.1 h
     obtain⟨y,h2,h⟩:=T.z6.1 h
     cases y with
     | inl y =>
      simp at h
      unfold wK.ep at h
      split at h
      ·rename_i ds wq e1 e2
       split at h
       ·rename_i WI e3
        refine .inl ⟨WI,_,T.z6.2 ⟨x,h1,T.z6.2 ⟨.inl y,h2,?_⟩⟩,h⟩
        simp
        unfold wK.ep
        simp only[e1,e2,e3]
        rfl
       ·exact h.elim
      ·exact h.elim
     | inr z =>
      simp at h
      unfold kW.UW at h
      split at h
      ·rename_i h0
       unfold kW.E5 at h
       split at h
       ·rename_i τ p wq e1 e2
        refine .inr ⟨_,_,T.z6.2 ⟨x,h1,T.z6.2 ⟨.inr z,h2,?_⟩⟩,h⟩
        simp
        unfold kW.UW kW.E5
        simp only[h0,e1,e2]
        rfl
       ·exact h.elim
      ·rename_i n h0
       unfold wK.ep at h
       split at h
       ·rename_i ds wq e1 e2
        split at h
        ·rename_i WI e3
         refine .inl ⟨WI,_,T.z6.2 ⟨x,h1,T.z6.2 ⟨.inr z,h2,?_⟩⟩,h⟩
         simp
         unfold kW.UW wK.ep
         simp only[h0,e1,e2,e3]
         rfl
        ·exact h.elim
       ·exact h.elim
def xe(P:Program)(g:Nat)(d:kW):Prop:=∀ (κ:KS) (x:d.sh.den) (zp:List Value) (r:d.out.den⊕d.wN.den),κ.st=d.sh.st x->(d.F x).leads r->Inv κ->zp.length=d.ks.length ->
 Rel κ zp.length (d.sh.fr x).get { tmps:=zp.toArray,defers:=[] } ->
 wY P g zp.toArray κ.w λe w'=>∃ κ':KS,κ'.w=w'/\Inv κ'/\Ext κ κ' /\
  ((∃ (y:d.out.den) (ds:List D),r=.inl y/\κ'.st=d.out.st y/\gx d.nr (d.out.fr y)=some ds/\qL κ' (.ret ds) e) \/
   (d.two=none/\∃ (z:d.wN.den) (p:D),r=.inr z/\κ'.st=d.wN.st z/\(d.wN.fr z).get 0=some p/\qL κ' (.wN (.iface d.pt p)) e) \/
   ∃ (n:Nat) (z:d.wN.den) (ds:List D),d.two=some n/\r=.inr z/\κ'.st=d.wN.st z/\gx n (d.wN.fr z)=some ds/\qL κ' (.ret ds) e)
theorem kW.snd{P:Program}{g:Nat}{d:kW}(h:xe P g d):WZ P g d.S:=by
 intro κ args zp rs zg hl hI ha
 have Dj:Rel κ zp.length (xV args 0).get { tmps:=zp.toArray,defers:=[] }:=by
  have:=rV (n:=zp.length) ha (by rw[ha.1]; exact Nat.le_refl _)
  simpa[show(X0.df:List Deferred)=[]from rfl]using this
 obtain⟨κ0,w1,w2,w3,w4,w5⟩:=bK d.ur (xV args 0) κ hI Dj
 unfold kW.S kW.K at hl
 rw[<- w2]at hl
 split at hl
 ·exact hl.elim
 ·rename_i mp rG
  cases hc:vV mp&&Nat.ble mp.length d.sh.bs.length&&Nat.beq args.length d.ks.length with
  | false=>rw[hc]at hl; exact hl.elim
  | true =>
   rw[hc,cond_true]at hl
   simp only[Bool.and_eq_true]at hc
   obtain⟨⟨hn,hle⟩,hlen⟩:=hc
   unfold kW.iv at hl
   split at hl
   ·exact hl.elim
   ·rename_i l ZG
    split at hl
    ·exact hl.elim
    ·rename_i uJ hst1
     obtain⟨x,h1,hl⟩:=T.z6.1 hl
     obtain⟨y,h2,hl⟩:=T.z6.1 hl
     obtain⟨p1,P4⟩:=dA (m:=κ0.ph) w3.len.symm ZG
     obtain⟨s1,s2,s3,s4,s5⟩:=Wq w3 hn P4 ZG hst1
     have Qg:Rel ⟨κ0.w,κ0.ok,p1,uJ⟩ zp.length (ln (pos mp) (gh d.ur (xV args 0) κ.st).1).get { tmps:=zp.toArray,defers:=[] } :=
      ⟨w5.size,w5.defers,λs d' hd=>by
       obtain⟨d0,q1,q2⟩:=iN hd
       obtain⟨v,q3,q4⟩:=w5.get s d0 q1
       exact⟨v,q3,s2.rd q4 q2⟩⟩
     obtain⟨κ2,u1,u2,u3,u4,u5,_⟩:=d.sh.r9 (κ0:=⟨κ0.w,κ0.ok,p1,uJ⟩) (κ:=⟨κ0.w,κ0.ok,p1,uJ⟩) (Ext.refl _) s1 Qg (by show uJ.length<=_; rw[s3]; exact Nat.le_of_ble_eq_true hle) h1
     have hw:κ2.w=κ.w:=u1.trans w1
     have hdo:=h κ2 x zp y u2 h2 u3 (by rw[<- ha.1]; exact Nat.eq_of_beq_eq_true hlen) u5
     rw[hw]at hdo
     refine hdo.mono ?_
     rintro e w' ⟨κ3,rfl,g2,g3,⟨y,ds,rfl,g1,g4,v,rfl,g5⟩ | ⟨g0,z,p,rfl,g1,g4,v,rfl,g5⟩ | ⟨n2,z,ds,g0,rfl,g1,g4,v,rfl,g5⟩⟩
     ·simp only[Sum.elim_inl]at hl
      unfold wK.ep at hl
      rw[show gx d.s.nr (d.s.out.fr y)=some ds from g4,show d.s.out.st y=κ3.st from g1.symm]at hl
      split at hl
      ·rename_i ds0 wq e1 e2
       cases e1
       split at hl
       ·rename_i WI hds'
        cases hl
        obtain⟨κ',k1,k2,k3,k4,k5⟩:=rY w3 hn P4 ZG hst1 g2 (u4.trans g3) e2
        exact⟨κ',k1,k2,k3,w4.trans k4,v,rfl,Wp k5 g5 hds'⟩
       ·exact hl.elim
      ·exact hl.elim
     ·simp only[Sum.elim_inr]at hl
      unfold kW.UW at hl
      rw[g0]at hl
      simp only at hl
      unfold kW.E5 at hl
      rw[g4,<- g1]at hl
      split at hl
      ·rename_i τ q wq e1 e2
       cases e1
       cases hl
       obtain⟨κ',k1,k2,k3,k4,k5⟩:=rY w3 hn P4 ZG hst1 g2 (u4.trans g3) e2
       refine⟨κ',k1,k2,k3,w4.trans k4,v,rfl,?_⟩
       cases g5 with
       | iface _ _ u hu=>exact .iface _ _ u (k5.rd hu rfl)
      ·exact hl.elim
     ·simp only[Sum.elim_inr]at hl
      unfold kW.UW at hl
      rw[g0]at hl
      simp only at hl
      unfold wK.ep at hl
      rw[show gx (d.s2 n2).nr ((d.s2 n2).out.fr z)=some ds from g4,show(d.s2 n2).out.st z=κ3.st from g1.symm]at hl
      split at hl
      ·rename_i ds0 wq e1 e2
       cases e1
       split at hl
       ·rename_i WI hds'
        cases hl
        obtain⟨κ',k1,k2,k3,k4,k5⟩:=rY w3 hn P4 ZG hst1 g2 (u4.trans g3) e2
        exact⟨κ',k1,k2,k3,w4.trans k4,v,rfl,Wp k5 g5 hds'⟩
       ·exact hl.elim
      ·exact hl.elim
end Go.AM
namespace Go.AM
def WS(sh:qz)(ur:List Gh)(args:List D)(st:St):List Nat:=bif ur.isEmpty then match mapOf sh (xV args 0) st with | some mp=>others st.length mp | none=>[]else[]
def wK.free(d:wK)(args:List D)(st:St):List Nat:=WS d.sh d.ur args st
def kW.free(d:kW)(args:List D)(st:St):List Nat:=WS d.sh d.ur args st
theorem U1{m b:Nat}{l:List Nat}(h:b∈others m l):b<m/\∀ x∈l,b≠x:=by
 simp only[others,List.mem_filter,List.mem_range,Bool.not_eq_true',List.any_eq_false]at h
 exact⟨h.1,λx hx e=>by subst e; exact h.2 b hx (Nat.beq_refl _)⟩
theorem ns:∀ {mp:List Nat} {b:Nat},(∀ x∈mp,b≠x)->pos mp b=none
 | [],_,_=>rfl
 | x::r,b,h=>by
  simp only[pos]
  rw[show Nat.beq x b=false from by cases hb:Nat.beq x b with | false=>rfl | true=>exact absurd (Nat.eq_of_beq_eq_true hb).symm (h x List.mem_cons_self),cond_false,ns λy hy=>h y (List.mem_cons_of_mem _ hy)]
theorem sE{sh:qz}{ur:List Gh}{args:List D}{st:St}{b:Nat}(hb:b∈WS sh ur args st):ur=[]/\∃ mp,mapOf sh (xV args 0) st=some mp/\b<st.length/\pos mp b=none:=by
 unfold WS at hb
 cases hn:ur.isEmpty with
 | false=>grind
 | true =>
  rw[hn,cond_true]at hb
  refine⟨List.isEmpty_iff.1 hn,?_⟩
  split at hb
  ·rename_i mp rG
   obtain⟨h1,h2⟩:=U1 hb
   exact⟨mp,rG,h1,ns h2⟩
  ·cases hb
theorem wK.mQ{d:wK}{args:List D}{st zg:St}{rs:ZI}{b:Nat}(h:(d.S args st).leads (rs,zg))(hb:b∈d.free args st):zg[b]? = st[b]? := by
 obtain⟨hn,mp,rG,qc,nU⟩:=sE hb
 unfold wK.S at h
 rw[hn]at h
 simp only[gh,rG]at h
 cases hc:vV mp&&Nat.ble mp.length d.sh.bs.length&&Nat.beq args.length d.ks.length with
 | false=>rw[hc]at h; exact h.elim
 | true =>
  rw[hc,cond_true]at h
  unfold wK.inner at h
  split at h
  ·exact h.elim
  ·split at h
   ·exact h.elim
   ·obtain⟨x,_,h⟩:=T.z6.1 h
    obtain⟨y,_,h⟩:=T.z6.1 h
    unfold wK.back at h
    split at h
    ·split at h
     ·cases h; exact kZ qc nU
     ·exact h.elim
    ·exact h.elim
theorem kW.mQ{d:kW}{args:List D}{st zg:St}{rs:ZI}{b:Nat}(h:(d.S args st).leads (rs,zg))(hb:b∈d.free args st):zg[b]? = st[b]? := by
 obtain⟨hn,mp,rG,qc,nU⟩:=sE hb
 unfold kW.S kW.K at h
 rw[hn]at h
 simp only[gh,rG]at h
 cases hc:vV mp&&Nat.ble mp.length d.sh.bs.length&&Nat.beq args.length d.ks.length with
 | false=>rw[hc]at h; exact h.elim
 | true =>
  rw[hc,cond_true]at h
  unfold kW.iv at h
  split at h
  ·exact h.elim
  ·split at h
   ·exact h.elim
   ·obtain⟨x,_,h⟩:=T.z6.1 h
    obtain⟨y,_,h⟩:=T.z6.1 h
    cases y with
    | inl y =>
     simp at h
     unfold wK.ep at h
     split at h
     ·split at h
      ·cases h; exact kZ qc nU
      ·exact h.elim
     ·exact h.elim
    | inr z =>
     simp at h
     unfold kW.UW at h
     split at h
     ·unfold kW.E5 at h
      split at h
      ·cases h; exact kZ qc nU
      ·exact h.elim
     ·unfold wK.ep at h
      split at h
      ·split at h
       ·cases h; exact kZ qc nU
       ·exact h.elim
      ·exact h.elim
def gI:It->Bool
 | .s _ (.zj _)=>true
 | .a _=>true
 | _=>false
def l9:Bk->Bool
 | .arr _=>true
 | _=>false
def tu(o:qz):Bool:=o.cs.isEmpty&&o.k7.all gI&&o.bs.all l9
def wK.ec(d:wK)(args:List D):Option (List Nat):=bif d.ur.isEmpty&&tu d.out&&Nat.ble d.out.bs.length d.sh.bs.length then Vl (Bv d.sh (xV args 0) 0 d.sh.bs)else none
theorem Ur(sh:qz)(st:St)(m':List (Option Nat)):∀ (m:List (Option Nat)) (b:Nat) (l:List Nat),Vl m=some l->HG sh st m' b m=m
 | [],_,_,_=>rfl
 | some x::r,b,l,h=>by
  simp only[Vl]at h
  split at h
  ·rename_i l' hl; simp only[HG,Ur sh st m' r (b+1) l' hl]
  ·cases h
 | none::_,_,_,h=>by cases h
theorem Fj{sh:qz}{fr:Fr}{st:St}{l:List Nat}(h:Vl (Bv sh fr 0 sh.bs)=some l):mapOf sh fr st=some l:=by
 simp only[mapOf,Ur sh st _ _ 0 l h]
 exact h
theorem VN:∀ {m:List (Option Nat)} {l:List Nat},Vl m=some l->l.length=m.length
 | [],_,h=>by cases h; rfl
 | some x::r,_,h=>by
  simp only[Vl]at h
  split at h
  ·rename_i l' hl; cases h; simp[VN hl]
  ·cases h
 | none::_,_,h=>by cases h
theorem V7(sh:qz)(fr:Fr):∀ (bs:List Bk) (b:Nat),(Bv sh fr b bs).length=bs.length
 | [],_=>rfl
 | _::r,b=>by simp only[Bv,List.length_cons,V7 sh fr r (b+1)]
theorem mz{α:Type}{l:List α}(x:α):∀ {mp:List Nat} {r:List α},kB l mp=some r->kB (l++[x]) mp=some r/\∀ b∈mp,b<l.length
 | [],_,h=>⟨h,λb hb=>by cases hb⟩
 | b::mp,r,h=>by
  simp only[kB]at h
  split at h
  ·rename_i y hy
   split at h
   ·rename_i z hz
    cases h
    obtain⟨h1,h2⟩:=mz x hz
    have hb:=(List.getElem?_eq_some_iff.1 hy).1
    refine⟨?_,λc hc=>(List.mem_cons.1 hc).elim (λe=>e▸hb) (h2 c)⟩
    simp only[kB,List.getElem?_append_left hb,hy,h1]
   ·cases h
  ·cases h
theorem oN{α:Type}(mp:List Nat)(new:List α)(x:α):∀ (l:List α) (i:Nat),pos mp (i+l.length)=none->yK mp new i (l++[x])=yK mp new i l++[x]
 | [],i,h=>by simp only[List.length_nil,Nat.add_zero]at h; simp[yK,h]
 | y::r,i,h=>by
  have:=oN mp new x r (i+1) (by rw[<- h]; congr 1; simp; omega)
  simp[yK,this]
theorem Qf(st0:St):∀ (bs:List Bk) (l:List Bd),bs.all l9=true->∀ b∈qY st0 bs l,∀ f,lY f b=some b
 | [],_,_,b,hb,_=>by cases hb
 | .arr e::r,l,ha,b,hb,f=>by
  simp only[List.all_cons,Bool.and_eq_true]at ha
  cases l with
  | nil=>simp[qY]at hb
  | cons z l =>
   cases z with
   | a e' xs =>
    rcases List.mem_cons.1 (show b∈vX.arr xs.length e' xs::qY st0 r l from hb)with rfl | hb
    ·rfl
    ·exact Qf st0 r l ha.2 b hb f
   | v k y=>simp[qY]at hb
 | .var _::r,_,ha,_,_,_=>by simp[l9]at ha
 | .cvar _::r,_,ha,_,_,_=>by simp[l9]at ha
 | .dead::r,_,ha,_,_,_=>by simp[l9]at ha
theorem VX:∀ (l:List vX) (f:Nat->Option Nat),(∀ b∈l,lY f b=some b)->yV f l=some l
 | [],_,_=>rfl
 | b::r,f,h=>by simp only[yV,h b List.mem_cons_self,VX r f λx hx=>h x (List.mem_cons_of_mem _ hx)]
theorem Zj(st:St):∀ (k7:List It) (x:xk k7),k7.all gI=true->∀ s d,(yF st k7 x).get s=some d->∀ f,gT f d=some d
 | [],_,_,s,d,h,_=>by cases h
 | [i],x,ha,s,d,h,f=>by
  cases i with
  | s t k =>
   cases k with
   | zj τ =>
    simp only[yF,eH,Fr.get]at h
    cases hb:Nat.beq t s with
    | true=>rw[hb]at h; cases h; rfl
    | false=>rw[hb]at h; cases h
   | _=>simp[gI]at ha
  | v k=>simp[gI]at ha
  | a e=>cases h
 | i::j::r,x,ha,s,d,h,f=>by
  have ha':gI i=true/\(j::r).all gI=true:=by simpa using ha
  cases i with
  | s t k =>
   cases k with
   | zj τ =>
    simp only[yF,eH,Fr.get]at h
    cases hb:Nat.beq t s with
    | true=>rw[hb]at h; cases h; rfl
    | false=>rw[hb]at h; exact Zj st (j::r) x.2 ha'.2 s d h f
   | _=>simp[gI]at ha'
  | v k=>simp[gI]at ha'
  | a e=>exact Zj st (j::r) x.2 ha'.2 s d h f
theorem su{fr:Fr}(hf:∀ s d,fr.get s=some d->∀ f,gT f d=some d):∀ (n i:Nat) (ds:List D),Qc fr n i=some ds->∀ f,iC f ds=some ds
 | 0,_,ds,h,f=>by cases h; rfl
 | n+1,i,ds,h,f=>by
  simp only[Qc]at h
  split at h
  ·rename_i d hd
   split at h
   ·rename_i r hr
    cases h
    simp only[iC,hf i d hd f,su hf n (i+1) r hr f]
   ·cases h
  ·cases h
theorem tp(st0:St):∀ (bs:List Bk) (l:List Bd),(qY st0 bs l).length<=bs.length
 | [],l=>by simp[qY]
 | b::r,l=>by
  cases b<;>cases l<;>(try (rename_i z _; cases z))<;>simp only[qY,List.length_cons,List.length_nil]<;>first | omega | (have:=tp st0 r; grind)
theorem wK.ti{d:wK}{args:List D}{U:List Nat}(ht:d.ec args=some U){st zg:St}{rs:ZI}(h:(d.S args st).leads (rs,zg)) :
  zg.length=st.length/\(∀ b,b<st.length->b ∉ U->zg[b]? = st[b]?)/\∀ x,(d.S args (st++[x])).leads (rs,zg++[x]):=by
 unfold wK.ec at ht
 cases hb:d.ur.isEmpty&&tu d.out&&Nat.ble d.out.bs.length d.sh.bs.length with
 | false=>rw[hb]at ht; cases ht
 | true =>
  rw[hb,cond_true]at ht
  simp only[Bool.and_eq_true]at hb
  obtain⟨⟨hn,hp⟩,hle⟩:=hb
  have hn:=List.isEmpty_iff.1 hn
  have hle:=Nat.le_of_ble_eq_true hle
  have hm:∀ s:St,mapOf d.sh (xV args 0) s=some U:=λs=>Fj ht
  have hTl:U.length=d.sh.bs.length:=(VN ht).trans (V7 ..)
  unfold wK.S at h ⊢
  rw[hn]at h
  simp only[gh,hm]at h
  cases hc:vV U&&Nat.ble U.length d.sh.bs.length&&Nat.beq args.length d.ks.length with
  | false=>rw[hc]at h; exact h.elim
  | true =>
   rw[hc,cond_true]at h
   unfold wK.inner at h
   split at h
   ·exact h.elim
   ·rename_i l hl
    split at h
    ·exact h.elim
    ·rename_i uJ hst1
     obtain⟨x,h1,h⟩:=T.z6.1 h
     obtain⟨y,h2,h⟩:=T.z6.1 h
     have hpo:d.out.cs.isEmpty=true/\d.out.k7.all gI=true/\d.out.bs.all l9=true:=by
      unfold tu at hp; simp only[Bool.and_eq_true]at hp; exact⟨hp.1.1,hp.1.2,hp.2⟩
     have qQ:∀ f,yV f (d.out.st y)=some (d.out.st y):=λf=>VX _ f λb hb=>Qf _ _ _ hpo.2.2 b hb f
     have OO:∀ s e,(d.out.fr y).get s=some e->∀ f,gT f e=some e:=λs e he f=>by
      unfold qz.fr at he
      rw[List.isEmpty_iff.1 hpo.1,show LA (d.out.st y) []=[]from rfl,List.append_nil]at he
      exact Zj _ _ y hpo.2.1 s e he f
     have hlen:(d.out.st y).length<=U.length:=by rw[hTl]; exact Nat.le_trans (tp _ _ _) hle
     unfold wK.back at h
     split at h
     ·rename_i ds wq Nx hst2
      rw[qQ]at hst2
      cases hst2
      rw[su OO _ _ _ Nx]at h
      cases h
      obtain⟨hl0,qc⟩:=mz (.dead:vX) hl
      have nU:pos U st.length=none:=ns λb hb e=>by have:=qc b hb; omega
      have Uh:(d.out.st y).drop U.length=[]:=List.drop_eq_nil_of_le hlen
      refine⟨?_,λb hb TX=>kZ hb (ns λc hc e=>TX (e▸hc)),λz => ?_⟩
      ·simp[qM,wI,Uh]
      ·rw[hn]
       simp only[gh,hm]
       rw[hc,cond_true]
       unfold wK.inner
       rw[(mz z hl).1]
       simp only[hst1]
       refine T.z6.2 ⟨x,h1,T.z6.2 ⟨y,h2,?_⟩⟩
       unfold wK.back
       rw[Nx,qQ]
       simp only[su OO _ _ _ Nx]
       show _=_
       simp only[qM,Uh,List.append_nil]
       rw[oN U _ z st 0 (by rw[Nat.zero_add]; exact nU)]
     ·exact h.elim
end Go.AM
namespace Go.AM
def mC.den:mC->Type
 | .ty τ=>AM.den τ
 | .rp τ=>AM.den τ
 | .zK _ caps=>kv caps
def jT:List mC->Type
 | []=>Unit
 | [p]=>p.den
 | p::q::r=>p.den×jT (q::r)
def I9:(p:mC)->p.den->D
 | .ty τ,x=>.zj τ x
 | .rp τ,x=>.qf τ x
 | .zK f caps,x=>.zK f (da caps x)
def o5:(l:List mC)->jT l->List D
 | [],_=>[]
 | [p],x=>[I9 p x]
 | p::q::r,x=>I9 p x.1::o5 (q::r) x.2
def ny:(l:List Ty)->UP l->List D
 | [],_=>[]
 | [τ],x=>[.zj τ x]
 | τ::σ::r,x=>.zj τ x.1::ny (σ::r) x.2
def P2(st:St)(τ:Ty):D->T (den τ)
 | .qf _ x=>match(xu x:Option (den τ))with | some y=>.ret y | none=>.fail
 | .ptr b off=>match st[b]? with
  | some (.var d)=>match bif Nat.beq off 0 then gF τ d else none with | some y=>.ret y | none=>.fail
  | _=>.fail
 | _=>.fail
def Mz(st:St):(p:o9)->D->T (den p.ty)
 | .im τ,d=>n4 st τ d
 | .rp τ,d=>P2 st τ d
def GQ(st:St):(l:List o9)->List D->T (kv l)
 | [],[]=>.ret ()
 | [p],[d]=>Mz st p d
 | p::q::r,d::ds=>(Mz st p d).bind λx=>(GQ st (q::r) ds).bind λy=>.ret (x,y)
 | _,_=>.fail
def NY(st:St):(p:mC)->D->T p.den
 | .ty τ,d=>n4 st τ d
 | .rp τ,d=>P2 st τ d
 | .zK f caps,d=>match d with
  | .zK f' l=>bif Nat.beq f f' then GQ st caps l else .fail
  | _=>.fail
def VU(st:St):(l:List mC)->List D->T (jT l)
 | [],[]=>.ret ()
 | [p],[d]=>NY st p d
 | p::q::r,d::ds=>(NY st p d).bind λx=>(VU st (q::r) ds).bind λy=>.ret (x,y)
 | _,_=>.fail
def Cw(st:St):(l:List Ty)->List D->T (UP l)
 | [],[]=>.ret ()
 | [τ],[d]=>n4 st τ d
 | τ::σ::r,d::ds=>(n4 st τ d).bind λx=>(Cw st (σ::r) ds).bind λy=>.ret (x,y)
 | _,_=>.fail
structure Uq where
 ps:List mC
 rs:List Ty
 F:jT ps->T (UP rs)
def RG:mC->D->Bool
 | .zK f _,d=>match d with | .zK f' _=>Nat.beq f f' | _=>false
 | _,d=>match d with | .zK _ _=>false | _=>true
def fits:List mC->List D->Bool
 | [],[]=>true
 | p::ps,d::ds=>RG p d&&fits ps ds
 | _,_=>false
def PO:AK->D->Bool
 | .any,d=>match d with | .zK _ _=>false | _=>true
 | .cur,d=>match d with | .ms .. => true | .zW=>true | _=>false
 | .sub,d=>match d with | .ms .. => true | _=>false
 | .ptr,d=>match d with | .ptr .. => true | _=>false
 | .zK f,d=>match d with | .zK f' _=>Nat.beq f f' | _=>false
def dY:List AK->List D->Bool
 | [],[]=>true
 | p::ps,d::ds=>PO p d&&dY ps ds
 | _,_=>false
inductive I2 where
 | d (x:Uq)
 | s (x:wK)
 | p (x:kW)
def I2.fits:I2->List D->Bool
 | .d x,l=>AM.fits x.ps l
 | .s x,l=>dY x.ks l
 | .p x,l=>dY x.ks l
abbrev ya:=List (Nat×I2)
def ya.find:ya->Nat->List D->Option I2
 | [],_,_=>none
 | (g',d)::r,g,args=>bif Nat.beq g' g&&d.fits args then some d else ya.find r g args
abbrev Sm:=List D->St->T (ZI×St)
def Uq.S(d:Uq):Sm:=λargs st=>match st with
 | []=>(VU [] d.ps args).bind λx=>(d.F x).bind λy=>.ret (.ret (ny d.rs y),[])
 | _=>.fail
def ya.call(tab:ya)(g:Nat)(args:List D)(st:St):T (ZI×St):=match tab.find g args with | some (.d d)=>d.S args st | some (.s d)=>d.S args st | some (.p d)=>d.S args st | none=>.fail
def ya.free(tab:ya)(g:Nat)(args:List D)(st:St):List Nat:=match tab.find g args with | some (.s d)=>d.free args st | some (.p d)=>d.free args st | _=>[]
theorem ya.mQ(tab:ya)(g:Nat)(args:List D)(st:St)(rs:ZI)(zg:St)(b:Nat)(h:(tab.call g args st).leads (rs,zg))(hb:b∈tab.free g args st):zg[b]? = st[b]? := by
 unfold ya.call at h
 unfold ya.free at hb
 split at hb
 ·rename_i d hd; rw[hd]at h; exact wK.mQ h hb
 ·rename_i d hd; rw[hd]at h; exact kW.mQ h hb
 ·cases hb
def ya.ec(tab:ya)(g:Nat)(args:List D):Option (List Nat):=match tab.find g args with | some (.s d)=>d.ec args | _=>none
theorem ya.ti(tab:ya)(g:Nat)(args:List D)(U:List Nat)(st:St)(rs:ZI)(zg:St)(ht:tab.ec g args=some U)(h:(tab.call g args st).leads (rs,zg)) :
  zg.length=st.length/\(∀ b,b<st.length->b ∉ U->zg[b]? = st[b]?)/\∀ x,(tab.call g args (st++[x])).leads (rs,zg++[x]):=by
 unfold ya.ec at ht
 unfold ya.call at h ⊢
 split at ht
 ·rename_i d hd
  rw[hd]at h ⊢
  exact wK.ti ht h
 ·cases ht
def wG(P:Program)(xid:Nat)(tab:ya)(ro:Nat->Bool):Ctx :=
 { P,xid,ro,sig:=λg args=>match tab.find g args with | some (.d d)=>some ⟨d.ps,d.rs⟩ | _=>none,fn:=tab.call,free:=tab.free,E7:=tab.mQ,ec:=tab.ec,GA:=tab.ti }
def NQ{α:Type}(tab:ya)(g:Nat)(args:List D)(st:St)(k:Nat->Option D->St->T α)(kp:D->St->T α):T α:=match tab.find g args with
 | none=>.fail
 | some (.d d)=>bif !(args.any oj)then(VU [] d.ps args).bind λx=>(d.F x).bind λy=>k 0 (some (jA (ny d.rs y))) st
  else(VU st d.ps args).bind λx=>(d.F x).bind λy=>bif (ny d.rs y).all iK then k 1 (some (jA (ny d.rs y))) st else .fail
 | some (.s d)=>d.K args st λds zg=>k 2 (some (jA ds)) zg
 | some (.p d)=>d.K args st (λds zg=>k 2 (some (jA ds)) zg) kp
def XQ{α:Type}(tab:ya)(f:Option D)(args:List (Option D))(st:St)(k:Nat->Option D->St->T α)(kp:D->St->T α):T α:=match f,wD args with
 | some (.zK g caps),some l=>NQ tab (jc g) (v8 g l caps) st k kp
 | _,_=>.fail
def yZ(l:List Nat):Fr:=l.map λs=>(s,none)
def dstsOf:List Oper->List Nat
 | []=>[]
 | o::r=>match o.dst with | some t=>t::dstsOf r | none=>dstsOf r
def zQ:Code->List Nat
 | .region _ ops _=>dstsOf ops.toList
 | .seq a b=>zQ a++zQ b
 | .cond _ a b=>zQ a++zQ b
 | .block _ a=>zQ a
 | .loop a=>zQ a
 | _=>[]
structure zi where
 gh:List Gh
 ps:List It
 sh:qz
 ws:List Way
 F:xk ps->sh.den->T (kI ws)
inductive NG where
 | flat (k7:List It)
 | ways (ws:List Way)
 | ZZ
structure Hints where
 loop:Nat->Option zi
 cut:Nat->Nat->Option NG
 Ig:Nat->List Nat
def b8:Code->Option Nat
 | .region id _ _=>some id
 | .seq a b=>match b8 a with | some n=>some n | none=>b8 b
 | .cond _ a b=>match b8 a with | some n=>some n | none=>b8 b
 | .block _ a=>b8 a
 | .loop a=>b8 a
 | _=>none
def keyOf(x:Code):Nat×Nat:=(match x with | .region .. => 0 | .cond .. => 1 | .block .. => 2 | _=>3,match b8 x with | some n=>n | none=>0)
def O9(l:List Nat)(s:Nat):Bool := !(l.any (Nat.beq s))
def s9:Dk->Bool
 | .sub _ _=>false
 | .st _=>false
 | .mclo _ _=>false
 | _=>true
def K2(ps:List It)(ws:List Nat):Bool:=ps.all λi=>match i with
 | .s t k=>s9 k&&O9 ws t
 | _=>false
def XM{α:Type}:T α->Option α
 | .ret a=>some a
 | .ite _ t e=>match XM t with | some a=>some a | none=>XM e
 | .zb _ t=>XM t
 | .fail=>none
def Uu{α β:Type}(f:α->β):T α->T β
 | .ret a=>.ret (f a)
 | .ite b t e=>.ite b (Uu f t) (Uu f e)
 | .zb p t=>.zb p (Uu f t)
 | .fail=>.fail
def BM:(l:List It)->xk l->T (xk l)->xk l
 | [],_,_=>()
 | [_],d,t=>T.val d t
 | _::j::r,d,t=>(T.val d.1 (Uu Prod.fst t),BM (j::r) d.2 (Uu Prod.snd t))
def CI(l:List It)(t:T (xk l)):T (xk l):=match XM t with
 | some d=>match t.nE with
  | none=>.ret (BM l d t)
  | some p=>.zb p (.ret (BM l d t))
 | none=>.fail
def Qj(l:List It):Bool:=l.all λi=>match i with
 | .s _ k=>s9 k
 | _=>false
structure Kq where
 ex:Ex
 fr:Fr
 kn:Kn
 st:St
 q:Bool      -- the store has not been written
def quiet(ks:List Nat):Bool:=ks.all λk => !(Nat.beq k 2)
structure SC where
 e:Ty
 l:List (den e)
 m:Nat
 s:Nat
 c:Nat
 eq:Bool
def CO:BinOp->Option Bool
 | .eql=>some true
 | .neq=>some false
 | _=>none
def Jh:Operand->Bool
 | .const (.slice none 0 0)=>true
 | _=>false
def W7(c:Ctx)(n:Nat)(ops:Array Oper)(fr:Fr):Option SC:=match ops.toList with
 | [o1,o2]=>match o1.dst,o1.op,o1.guard with
  | some m,.move (.tmp s),none=>match o2.dst,o2.op,o2.guard with
   | some cc,.binOp op t (.tmp m') y _,none=>match CO op,fr.get s,b9 c t with
    | some b,some (.zj (.sl e) l),some _=>bif Nat.beq m m'&&Jh y&&Nat.blt m n&&Nat.blt cc n then some ⟨e,l,m,s,cc,b⟩else none
    | _,_,_=>none
   | _,_,_=>none
  | _,_,_=>none
 | _=>none
def opsOf:Code->Option (Array Oper)
 | .region _ ops false=>some ops
 | _=>none
section
variable (c:Ctx) (tab:ya)
variable [lf]
def iJ{α:Type}(n:Nat)(o:Oper)(s:gG)(k:gG->T α)(kp:D->St->T α):T α :=
 bif wi n o.dst then match o.op with
  | .call cl=>match cl.callee with
   | .value f=>XQ tab (wZ s.fr f) (cl.args.toList.map (wZ s.fr)) s.st (λkd d zg=>k ⟨s.fr.put o.dst d,ZS s.kn o.dst none,zg,kd::s.ks,qe c (wZ s.fr) s.st o::s.bk⟩) kp
   | _=>let cl:=ew c s.kn s.fr o
    (zk cl s.st).bind λr=>k ⟨s.fr.put o.dst r.1,ZS s.kn o.dst (ZU s.kn o.op),r.2,cl.kind::s.ks,qe c (wZ s.fr) s.st o::s.bk⟩
  | .panic x=>match wZ s.fr x with
   | some (.iface t d)=>kp (.iface t d) s.st
   | _=>.fail
  | _=>let cl:=ew c s.kn s.fr o
   (zk cl s.st).bind λr=>k ⟨s.fr.put o.dst r.1,ZS s.kn o.dst (ZU s.kn o.op),r.2,cl.kind::s.ks,qe c (wZ s.fr) s.st o::s.bk⟩
 else .fail
def K1{α:Type}(n:Nat)(ops:Array Oper)(o:Oper)(s:gG)(k:gG->T α)(kp:D->St->T α):T α:=match o.guard with
 | none=>iJ c tab n o s k kp
 | some (j,want)=>match wQ ops j with
  | none=>.fail
  | some t=>match s.kn.get t with
   | some b=>bif b==want then iJ c tab n o s k kp else bif wi n o.dst then k (vT o s)else .fail
   | none=>match s.fr.get t with
    | some (.zj .bool x)=>bif wi n o.dst then
      .ite x (bif want then iJ c tab n o (s.kM t true) k kp else k (vT o (s.kM t true)))
          (bif want then k (vT o (s.kM t false))else iJ c tab n o (s.kM t false) k kp)
     else .fail
    | some (.jC [])=>bif wi n o.dst then k (vT o s)else .fail
    | _=>.fail
def sc{α:Type}(n:Nat)(ops:Array Oper):List Oper->gG->(gG->T α)->(D->St->T α)->T α
 | [],s,k,_=>k s
 | o::l,s,k,kp=>K1 c tab n ops o s (λs'=>sc n ops l s' k kp) kp
def Zw{α:Type}(n:Nat)(ops:Array Oper)(draw:Bool)(fr:Fr)(kn:Kn)(st:St)(k:gG->T α)(kp:D->St->T α):T α :=
 sc c tab n ops ops.toList ⟨fr,kn,st,[],[]⟩ (λs=>bif !draw||mn ops s.ks.reverse s.bk.reverse then k s else .fail) (λd zg=>bif draw then .fail else kp d zg)
def mB(n:Nat)(H:Hints):Code->Fr->Kn->St->{α:Type}->(Kq->T α)->T α
 | .skip,fr,kn,st,_,k=>k ⟨.normal,fr,kn,st,true⟩
 | .region id ops draw,fr,kn,st,_,k=>(Ig (H.Ig id) fr st).bind λz=>Zw c tab n ops draw z.1 kn z.2 (λs=>k ⟨.normal,s.fr,s.kn,s.st,quiet s.ks&&(H.Ig id).isEmpty⟩) (λd zg=>k ⟨.wN d,[],[],zg,false⟩)
 | .seq a b,fr,kn,st,_,k=>match H.cut (keyOf a).1 (keyOf a).2 with
  | none=>mB n H a fr kn st λr=>match r.ex with
   | .normal=>mB n H b r.fr r.kn r.st λo=>k { o with q:=r.q&&o.q }
   | _=>k r
  | some (.flat k7)=>bif Qj k7 then
    (CI k7 (mB n H a fr kn st λo=>match o.ex with
     | .normal=>bif o.q then QM o.fr o.st k7 []else .fail
     | _=>.fail)).bind λx=>mB n H b (yF st k7 x++(yZ (zQ a)++fr)) [] st k
   else .fail
  | some .ZZ=>match opsOf a with
   | none=>.fail
   | some ops=>match W7 c n ops fr with
    | none=>.fail
    | some p =>
     let non:=mB n H b ((p.c,some (.zj .bool (!p.eq)))::(p.m,some (.zj (.sl p.e) p.l))::fr) [(p.c,some (!p.eq))] st k
     .zb (p.l=[]->∀ r,non.leads r->(mB n H b ((p.c,some (.zj .bool p.eq))::(p.m,some .zW)::(p.s,some .zW)::fr) [(p.c,some p.eq)] st k).leads r) non
  | some (.ways ws)=>bif ws.all λw=>Nat.ble st.length w.sh.bs.length then
    (mB n H a fr kn st λo=>Wx ws o.ex (ZK o.ex o.fr) o.st).bind λr=>Yz ws r λex out zg=>match U2 ex out with
     | none=>.fail
     | some z=>match z.1 with
      | .normal=>mB n H b (z.2++(yZ (zQ a)++fr)) [] zg λo=>k { o with q:=false }
      | e=>k ⟨e,z.2++(yZ (zQ a)++fr),[],zg,false⟩
   else .fail
 | .cond x a b,fr,kn,st,_,k=>match gM kn x with
  | some true=>mB n H a fr kn st k
  | some false=>mB n H b fr kn st k
  | none=>match x with
   | .tmp t=>match fr.get t with
    | some (.zj .bool v)=>.ite v (mB n H a fr ((t,some true)::kn) st k) (mB n H b fr ((t,some false)::kn) st k)
    | _=>.fail
   | _=>.fail
 | .block id (.loop b),fr,_,st,_,k=>match H.loop id with
  | none=>.fail
  | some l=>let g:=gh l.gh fr st
   bif Nat.ble g.2.length l.sh.bs.length&&K2 l.ps (zQ b)&&l.ws.all λw=>Nat.ble l.sh.bs.length w.sh.bs.length then
    (QM g.1 g.2 l.ps []).bind λp=>(l.sh.un g.1 g.2).bind λs=>(l.F p s).bind λr=>Yz l.ws r λex out zg=>match U2 ex out with
     | none=>.fail
     | some z=>match z.1 with
      | .exit id'=>bif Nat.beq id' id then k ⟨.normal,z.2++(yZ (zQ b)++g.1),[],zg,false⟩else k ⟨.exit id',z.2++(yZ (zQ b)++g.1),[],zg,false⟩
      | .normal=>.fail
      | e=>k ⟨e,z.2++(yZ (zQ b)++g.1),[],zg,false⟩
   else .fail
 | .block id a,fr,kn,st,_,k=>mB n H a fr kn st λr=>match r.ex with
  | .exit id'=>bif Nat.beq id' id then k { r with ex:=.normal } else k r
  | _=>k r
 | .exit id,fr,kn,st,_,k=>k ⟨.exit id,fr,kn,st,true⟩
 | .ret,fr,kn,st,_,k=>k ⟨.ret,fr,kn,st,true⟩
 | _,_,_,_,_,_=>.fail
def D6(n:Nat)(H:Hints)(l:zi)(b:Code)(p:xk l.ps)(s:l.sh.den):T (l.sh.den⊕kI l.ws) :=
 mB c tab n H b (l.sh.fr s++yF (l.sh.st s) l.ps p) [] (l.sh.st s) λo=>match o.ex with
  | .normal=>(l.sh.un o.fr o.st).bind λs'=>.ret (.inl s')
  | e=>(Wx l.ws e (ZK e o.fr) o.st).bind λr=>.ret (.inr r)
def FP(H:Hints)(fn:Func)(code:Code)(d:Uq)(x:jT d.ps):T (UP d.rs) :=
 bif Nat.ble (o5 d.ps x).length fn.ntmps then
  mB c tab fn.ntmps H code (xV (o5 d.ps x) 0) [] [] λo=>match o.ex with
   | .normal=>(yp c o.fr o.st fn.results.toList).bind λds=>Cw o.st d.rs ds
   | .ret=>(yp c o.fr o.st fn.results.toList).bind λds=>Cw o.st d.rs ds
   | _=>.fail
 else .fail
def Es:List (Nat×Ck)->List Gh
 | []=>[]
 | (s,.cur _ e)::r=>.slot s e::Es r
 | _::r=>Es r
def msB:D->Option Nat
 | .ms b _ _ _ _=>some b
 | _=>none
def z5J:Option vX->List D
 | some (.var d)=>zC d
 | _=>[]
def HE(st:St):List D->List Nat
 | []=>[]
 | .ms b _ _ _ _::r=>b::HE st r
 | .ptr b _::r=>b::((z5J st[b]?).filterMap msB++HE st r)
 | .agg l::r=>l.filterMap msB++HE st r
 | _::r=>HE st r
def L9(m:Nat):List Nat->List Nat->List Nat
 | seen,[]=>seen
 | seen,b::r=>bif Nat.ble m b&&(match pos seen b with | none=>true | some _=>false)then L9 m (seen++[b]) r else L9 m seen r
def canon(m:Nat)(ds:List D)(st:St):List D×St :=
 let mp:=List.range m++L9 m [] (HE st ds)
 match kB st mp with
 | some l=>match yV (pos mp) l,iC (pos mp) ds with
  | some uJ,some ds1=>bif vV mp then(ds1,uJ)else(ds,st)
  | _,_=>(ds,st)
 | none=>(ds,st)
def xp:List Sk->List D->St->List D×St
 | .row _ e::ks,.zW::l,st=>bif Nat.blt 0 e.size then((.ms st.length 0 e 0 0)::(xp ks l (st++[.arr 0 e []])).1,(xp ks l (st++[.arr 0 e []])).2)
  else(.zW::(xp ks l st).1,(xp ks l st).2)
 | _::ks,d::l,st=>(d::(xp ks l st).1,(xp ks l st).2)
 | _,l,st=>(l,st)
def HD:List It->Nat->List Sk
 | [],_=>[]
 | .s t (.st ks)::r,i=>bif Nat.beq t i then ks else HD r i
 | _::r,i=>HD r i
def dO(k7:List It):Nat->List D->St->List D×St
 | _,[],st=>([],st)
 | i,.agg l::ds,st=>(.agg (xp (HD k7 i) l st).1::(dO k7 (i+1) ds (xp (HD k7 i) l st).2).1,(dO k7 (i+1) ds (xp (HD k7 i) l st).2).2)
 | i,d::ds,st=>(d::(dO k7 (i+1) ds st).1,(dO k7 (i+1) ds st).2)
def WD(out:qz)(m:Nat)(ds:List D)(st:St):List D×St :=
 bif (out.k7.all λ| .s _ (.st _)=>false | _=>true)&&(out.cs.all λ| (_,.ptr _ _)=>false | (_,.cur _ _)=>false | _=>true)then(ds,st)
 else dO out.k7 0 (canon m ds st).1 (canon m ds st).2
def lE(out:qz)(m nr:Nat)(ds:List D)(st:St):T out.den :=
 bif Nat.beq ds.length nr then(out.un (gh (Es out.cs) (xV (WD out m ds st).1 0) (WD out m ds st).2).1 (gh (Es out.cs) (xV (WD out m ds st).1 0) (WD out m ds st).2).2).bind λy =>
  bif (gx nr (out.fr y)).isSome then .ret y else .fail else .fail
def Jf(H:Hints)(fn:Func)(code:Code)(d:wK)(x:d.sh.den):T d.out.den :=
 bif Nat.ble d.ks.length fn.ntmps&&Nat.ble d.sh.bs.length d.out.bs.length then
  mB c tab fn.ntmps H code (d.sh.fr x) [] (d.sh.st x) λo=>match o.ex with
   | .normal=>(yp c o.fr o.st fn.results.toList).bind λds=>lE d.out (d.sh.st x).length d.nr ds o.st
   | .ret=>(yp c o.fr o.st fn.results.toList).bind λds=>lE d.out (d.sh.st x).length d.nr ds o.st
   | _=>.fail
 else .fail
def O0:List D->Bool
 | .wJ::_=>true
 | .zW::_=>true
 | .agg (.zW::_)::_=>true
 | _=>false
def Ir(d:kW)(m:Nat)(ds:List D)(st:St):T (d.out.den⊕d.wN.den):=match d.two with
 | some n=>bif O0 ds then(lE d.wN m n ds st).bind λz=>.ret (.inr z)else(lE d.out m d.nr ds st).bind λy=>.ret (.inl y)
 | none=>(lE d.out m d.nr ds st).bind λy=>.ret (.inl y)
def JT(H:Hints)(fn:Func)(code:Code)(d:kW)(x:d.sh.den):T (d.out.den⊕d.wN.den) :=
 bif Nat.ble d.ks.length fn.ntmps&&Nat.ble d.sh.bs.length d.out.bs.length&&Nat.ble d.sh.bs.length d.wN.bs.length then
  mB c tab fn.ntmps H code (d.sh.fr x) [] (d.sh.st x) λo=>match o.ex with
   | .normal=>(yp c o.fr o.st fn.results.toList).bind λds=>Ir d (d.sh.st x).length ds o.st
   | .ret=>(yp c o.fr o.st fn.results.toList).bind λds=>Ir d (d.sh.st x).length ds o.st
   | .wN p=>match p with
    | .iface t v=>bif Nat.beq t d.pt&&d.two.isNone then(d.wN.un [(0,some v)] o.st).bind λz=>match(d.wN.fr z).get 0 with | some _=>.ret (.inr z) | none=>.fail else .fail
    | _=>.fail
   | _=>.fail
 else .fail
end
end Go.AM
namespace Go.AM
set_option linter.unusedSectionVars false
variable [we]
open Go.RowKit
section
variable {n:Nat}
theorem Cm{st:St}{τ:Ty}{d:D}{x:den τ}(h:(P2 st τ d).leads x):(eB st τ d).leads (.qf τ x):=by
 cases d with
 | qf σ y =>
  simp only[P2]at h
  simp only[eB]
  cases hy:(xu y:Option (den τ))with
  | none=>rw[hy]at h; exact h.elim
  | some z=>rw[hy]at h; cases h; rfl
 | ptr b off =>
  simp only[P2]at h
  simp only[eB]
  cases hb:st[b]? with
  | none=>rw[hb]at h; exact h.elim
  | some B =>
   rw[hb]at h
   cases B with
   | var d =>
    simp only at h ⊢
    cases hy:(bif Nat.beq off 0 then gF τ d else none)with
    | none=>rw[hy]at h; exact h.elim
    | some z=>rw[hy]at h; cases h; rfl
   | _=>exact h.elim
 | _=>exact h.elim
theorem Hh{st:St}{p:o9}{d:D}{x:den p.ty}(h:(Mz st p d).leads x):(eN st p d).leads (Qq p x):=by
 cases p with
 | rp τ=>exact Cm h
 | im τ=>exact T.z6.2 ⟨x,h,rfl⟩
theorem VS{st:St}:∀ (l:List o9) (ds:List D) (x:kv l),(GQ st l ds).leads x->(yj st l ds).leads (da l x)
 | [],[],x,h=>rfl
 | [],_::_,x,h=>h.elim
 | [p],[],x,h=>h.elim
 | [p],[d],x,h=>T.z6.2 ⟨_,Hh h,T.z6.2 ⟨[],rfl,rfl⟩⟩
 | [p],_::_::_,x,h=>h.elim
 | p::q::r,[],x,h=>h.elim
 | p::q::r,d::ds,x,h=>by
  obtain⟨y,h1,h2⟩:=T.z6.1 h
  obtain⟨z,h3,h4⟩:=T.z6.1 h2
  cases h4
  exact T.z6.2 ⟨_,Hh h1,T.z6.2 ⟨_,VS (q::r) ds z h3,rfl⟩⟩
theorem EJ{st:St}{p:mC}{d:D}{x:p.den}(h:(NY st p d).leads x):(UC st p d).leads (I9 p x):=by
 cases p with
 | ty τ=>cases d<;>exact T.z6.2 ⟨x,h,rfl⟩
 | rp τ =>
  have:=Cm h
  cases d<;>exact this
 | zK f caps =>
  cases d with
  | zK f' l =>
   simp only[NY]at h
   simp only[UC]
   cases hb:Nat.beq f f' with
   | false=>rw[hb]at h; exact h.elim
   | true=>rw[hb]at h; exact T.z6.2 ⟨_,VS caps l x h,rfl⟩
  | _=>exact h.elim
theorem sa{st:St}:∀ (l:List mC) (ds:List D) (x:jT l),(VU st l ds).leads x->(ei st l ds).leads (o5 l x)
 | [],[],x,h=>rfl
 | [],_::_,x,h=>h.elim
 | [p],[],x,h=>h.elim
 | [p],[d],x,h=>T.z6.2 ⟨_,EJ h,T.z6.2 ⟨[],rfl,rfl⟩⟩
 | [p],_::_::_,x,h=>h.elim
 | p::q::r,[],x,h=>h.elim
 | p::q::r,d::ds,x,h=>by
  obtain⟨y,h1,h2⟩:=T.z6.1 h
  obtain⟨z,h3,h4⟩:=T.z6.1 h2
  cases h4
  exact T.z6.2 ⟨_,EJ h1,T.z6.2 ⟨_,sa (q::r) ds z h3,rfl⟩⟩
theorem Vz(st:St)(τ:Ty)(x:den τ):(n4 st τ (.zj τ x)).leads x:=by
 refine T.z6.2 ⟨.zj τ x,rfl,?_⟩
 rw[T.wy]
 exact iE x
theorem CZ(st:St)(τ:Ty)(x:den τ):(P2 st τ (.qf τ x)).leads x:=by
 simp only[P2]; rw[iE]; rfl
theorem H4(st:St)(p:o9)(x:den p.ty):(Mz st p (Qq p x)).leads x:=by
 cases p with
 | rp τ=>exact CZ st τ x
 | im τ=>exact Vz st τ x
theorem Vn(st:St):∀ (l:List o9) (x:kv l),(GQ st l (da l x)).leads x
 | [],_=>rfl
 | [p],x=>H4 st p x
 | p::q::r,x=>T.z6.2 ⟨x.1,H4 st p x.1,T.z6.2 ⟨x.2,Vn st (q::r) x.2,rfl⟩⟩
theorem Dh(st:St)(p:mC)(x:p.den):(NY st p (I9 p x)).leads x:=by
 cases p with
 | ty τ=>exact Vz st τ x
 | rp τ=>exact CZ st τ x
 | zK f caps=>simp only[NY,I9]; rw[Nat.beq_refl]; exact Vn st caps x
theorem XH(st:St):∀ (l:List mC) (x:jT l),(VU st l (o5 l x)).leads x
 | [],_=>rfl
 | [p],x=>Dh st p x
 | p::q::r,x=>T.z6.2 ⟨x.1,Dh st p x.1,T.z6.2 ⟨x.2,XH st (q::r) x.2,rfl⟩⟩
def jf:D->Option Nat | .zK f _=>some f | _=>none
theorem MY(p:mC){d e:D}(h:jf d=jf e):RG p d=RG p e:=by
 cases d<;>cases e<;>simp only[jf]at h<;>first | (cases h; done) | (cases p<;>first | rfl | (cases h; rfl))
theorem GG:∀ (ps:List mC) {l m:List D},l.map jf=m.map jf->fits ps l=fits ps m
 | [],[],[],_=>rfl
 | [],_::_,_::_,_=>rfl
 | _,[],_::_,h=>by cases h
 | _,_::_,[],h=>by cases h
 | _::_,[],[],_=>rfl
 | p::ps,d::l,e::m,h=>by
  simp at h
  simp only[fits,MY p h.1,GG ps h.2]
theorem F1{st:St}{τ:Ty}{f:Nat}{l:List D}{x:den τ}(h:(n4 st τ (.zK f l)).leads x):False:=by
 obtain⟨y,h1,h2⟩:=T.z6.1 h
 cases h1
 rw[T.wy]at h2
 cases τ<;>simp[gF,D.isAgg,Ty.isAgg,zC,vO,gO]at h2
theorem Ql{st:St}{p:mC}{d:D}{x:p.den}(h:(NY st p d).leads x):jf d=jf (I9 p x):=by
 cases p with
 | ty τ=>cases d<;>first | rfl | exact(F1 h).elim
 | rp τ=>cases d<;>first | rfl | exact h.elim
 | zK f caps =>
  cases d with
  | zK f' l =>
   simp only[NY]at h
   cases hb:Nat.beq f f' with
   | false=>rw[hb]at h; exact h.elim
   | true=>rw[Nat.eq_of_beq_eq_true hb]; rfl
  | _=>exact h.elim
theorem Z4{st:St}:∀ (l:List mC) (ds:List D) (x:jT l),(VU st l ds).leads x->ds.map jf=(o5 l x).map jf
 | [],[],x,h=>rfl
 | [],_::_,x,h=>h.elim
 | [p],[],x,h=>h.elim
 | [p],[d],x,h=>by show[jf d]=[jf (I9 p x)]; rw[Ql h]
 | [p],_::_::_,x,h=>h.elim
 | p::q::r,[],x,h=>h.elim
 | p::q::r,d::ds,x,h=>by
  obtain⟨y,h1,h2⟩:=T.z6.1 h
  obtain⟨z,h3,h4⟩:=T.z6.1 h2
  cases h4
  show jf d::ds.map jf=jf (I9 p y)::(o5 (q::r) z).map jf
  rw[Ql h1,Z4 (q::r) ds z h3]
def dat(d:D):Bool:=match d with | .zj _ _=>true | .qf _ _=>true | .zK _ _=>true | _=>false
theorem YM(p:mC)(x:p.den):dat (I9 p x)=true:=by cases p<;>rfl
theorem Uc:∀ (l:List mC) (x:jT l),∀ d∈o5 l x,dat d=true
 | [],x,d,h=>by cases h
 | [p],x,d,h=>by have h:d∈[I9 p x]:=h; rw[List.mem_singleton]at h; subst h; exact YM p x
 | p::q::r,x,d,h=>by
  rcases List.mem_cons.1 h with rfl | h
  ·exact YM p x.1
  ·exact Uc (q::r) x.2 d h
theorem De{a:AK}{d e:D}(h:jf d=jf e)(hd:dat e=true)(hf:PO a e=true):PO a d=true:=by
 cases e with
 | zj τ x=>cases a<;>first | (cases hf; done) | (cases d<;>first | rfl | (cases h; done))
 | qf τ x=>cases a<;>first | (cases hf; done) | (cases d<;>first | rfl | (cases h; done))
 | zK f l=>cases a<;>first | (cases hf; done) | (cases d<;>first | (cases h; exact hf) | cases h)
 | _=>cases hd
theorem oi:∀ {ks:List AK} {l m:List D},l.map jf=m.map jf->(∀ d∈m,dat d=true)->dY ks m=true->dY ks l=true
 | [],[],[],_,_,_=>rfl
 | [],_::_,[],h,_,_=>by cases h
 | [],_,_::_,_,_,hf=>by cases hf
 | _::_,_,[],_,_,hf=>by cases hf
 | k::ks,[],_::_,h,_,_=>by cases h
 | k::ks,d::l,e::m,h,hd,hf=>by
  simp at h
  simp only[dY,Bool.and_eq_true]at hf ⊢
  exact⟨De h.1 (hd e List.mem_cons_self) hf.1,oi h.2 (λx hx=>hd x (List.mem_cons_of_mem _ hx)) hf.2⟩
theorem ya.find_eq:∀ (t:ya) (g:Nat) {l m:List D} {d:Uq},l.map jf=m.map jf->(∀ d∈m,dat d=true)->t.find g l=some (.d d)->t.find g m=some (.d d)
 | [],_,_,_,_,_,_,h=>h
 | (g',.d d')::r,g,l,m,d,h,hm,hf=>by
  simp only[ya.find,I2.fits]at hf ⊢
  rw[<- GG d'.ps h]
  cases hb:Nat.beq g' g&&fits d'.ps l with
  | true=>grind
  | false=>rw[hb,cond_false]at hf; rw[cond_false]; exact ya.find_eq r g h hm hf
 | (g',.s d')::r,g,l,m,d,h,hm,hf=>by
  simp only[ya.find,I2.fits]at hf ⊢
  cases hb:Nat.beq g' g&&dY d'.ks l with
  | true=>grind
  | false =>
   rw[hb,cond_false]at hf
   have:(Nat.beq g' g&&dY d'.ks m)=false:=by
    cases hg:Nat.beq g' g with
    | false=>rfl
    | true =>
     rw[hg]at hb
     cases hk:dY d'.ks m with
     | false=>rfl
     | true=>rw[oi h hm hk]at hb; cases hb
   rw[this,cond_false]
   exact ya.find_eq r g h hm hf
 | (g',.p d')::r,g,l,m,d,h,hm,hf=>by
  simp only[ya.find,I2.fits]at hf ⊢
  cases hb:Nat.beq g' g&&dY d'.ks l with
  | true=>grind
  | false =>
   rw[hb,cond_false]at hf
   have:(Nat.beq g' g&&dY d'.ks m)=false:=by
    cases hg:Nat.beq g' g with
    | false=>rfl
    | true =>
     rw[hg]at hb
     cases hk:dY d'.ks m with
     | false=>rfl
     | true=>rw[oi h hm hk]at hb; cases hb
   rw[this,cond_false]
   exact ya.find_eq r g h hm hf
theorem ya.nL:∀ {t:ya} {g:Nat} {l:List D} {d:I2},t.find g l=some d->(g,d)∈t
 | [],_,_,_,h=>by cases h
 | (g',d')::r,g,l,d,h=>by
  simp only[ya.find]at h
  cases hb:Nat.beq g' g&&d'.fits l with
  | true =>
   rw[hb,cond_true]at h
   cases h
   simp only[Bool.and_eq_true]at hb
   rw[Nat.eq_of_beq_eq_true hb.1]
   simp
  | false=>rw[hb,cond_false]at h; exact List.mem_cons_of_mem _ (ya.nL h)
def ze(P:Program)(g:Nat)(d:Uq):Prop:=∀ (κ:KS) (x:jT d.ps) (zp:List Value) (y:UP d.rs),κ.st=[]->(d.F x).leads y->Inv κ->zU κ (o5 d.ps x) zp ->
 wY P g zp.toArray κ.w λe w'=>∃ κ':KS,κ'.w=w'/\κ'.st=[]/\Inv κ'/\Ext κ κ'/\qL κ' (.ret (ny d.rs y)) e
def VZ(P:Program)(g:Nat):I2->Prop
 | .d d=>ze P g d
 | .s d=>zE P g d
 | .p d=>xe P g d
def jj(P:Program)(t:ya):Prop:=∀ p∈t,VZ P p.1 p.2
theorem HQ(P:Program):jj P []:=by nofun
theorem XF{P:Program}{g:Nat}{d:I2}{t:ya}(h:VZ P g d)(ht:jj P t):jj P ((g,d)::t):=by
 intro p hp
 rcases List.mem_cons.1 hp with rfl | hp
 ·exact h
 ·exact ht p hp
theorem JD{P:Program}{g:Nat}{d:Uq}{t:ya}(h:ze P g d)(ht:jj P t):jj P ((g,.d d)::t):=XF (d:=.d d) h ht
theorem U8{P:Program}{g:Nat}{d:wK}{t:ya}(h:zE P g d)(ht:jj P t):jj P ((g,.s d)::t):=XF (d:=.s d) h ht
theorem Vo{P:Program}{g:Nat}{d:kW}{t:ya}(h:xe P g d)(ht:jj P t):jj P ((g,.p d)::t):=XF (d:=.p d) h ht
theorem Uq.snd{P:Program}{g:Nat}{d:Uq}(h:ze P g d):WZ P g d.S:=by
 intro κ args zp rs zg hl hI ha
 unfold Uq.S at hl
 split at hl
 ·rename_i qQ
  obtain⟨x,h1,h2⟩:=T.z6.1 hl
  obtain⟨y,h3,h4⟩:=T.z6.1 h2
  cases h4
  exact h κ x zp y qQ h3 hI (oG ha (sa _ _ _ h1))
 ·exact hl.elim
theorem WC{P:Program}{xid:Nat}{tab:ya}{ro:Nat->Bool}(h:jj P tab):∀ g,WZ (wG P xid tab ro).P g ((wG P xid tab ro).fn g):=by
 intro g κ args zp rs zg hl hI ha
 simp only[wG,ya.call]at hl
 split at hl
 ·rename_i d hd
  exact Uq.snd (h _ (ya.nL hd):VZ P g (.d d)) κ args zp rs zg hl hI ha
 ·rename_i d hd
  exact wK.snd (h _ (ya.nL hd):VZ P g (.s d)) κ args zp rs zg hl hI ha
 ·rename_i d hd
  exact kW.snd (h _ (ya.nL hd):VZ P g (.p d)) κ args zp rs zg hl hI ha
 ·exact hl.elim
section
variable {P:Program} {xid:Nat} {tab:ya} {ro:Nat->Bool} {α:Type}
def Ys(c:Ctx)(f:Option D)(args:List (Option D))(st:St)(d:D)(zg:St):Prop :=
 ∃ g caps l,f=some (.zK g caps)/\wD args=some l/\(c.fn (jc g) (v8 g l caps) st).leads (.wN d,zg)
def GO(c:Ctx)(o:Oper)(s:gG)(d:D)(zg:St):Prop :=
 (∃ x t e,o.op=.panic x/\wZ s.fr x=some d/\d=.iface t e/\zg=s.st) \/
 ∃ f args cy,o.op=.call ⟨.value f,args,cy⟩/\Ys c (wZ s.fr f) (args.toList.map (wZ s.fr)) s.st d zg
theorem Jq{f:Option D}{args:List (Option D)}{st:St}{k:Nat->Option D->St->T α}{kp:D->St->T α}{r:α}(h:(XQ tab f args st k kp).leads r) :
  (∃ d zg,(zk (jE (wG P xid tab ro) f args) st).leads (d,zg)/\(k (jE (wG P xid tab ro) f args).kind d zg).leads r) \/
  ∃ d zg,Ys (wG P xid tab ro) f args st d zg/\(kp d zg).leads r:=by
 unfold XQ at h
 split at h
 ·rename_i g caps l hl
  unfold NQ at h
  split at h
  ·exact h.elim
  ·rename_i d hd
   have Bn:(wG P xid tab ro).sig (jc g) (v8 g l caps)=some ⟨d.ps,d.rs⟩:=by simp only[wG]; rw[hd]
   have FR:jE (wG P xid tab ro) (some (.zK g caps)) args=jt (wG P xid tab ro) (jc g) ⟨d.ps,d.rs⟩ (v8 g l caps):=by simp only[jE,hl,Bn]
   rw[FR]
   have hfn:∀ {st0:St} (x:jT d.ps) (y:UP d.rs),(VU st0 d.ps (v8 g l caps)).leads x->(d.F x).leads y->((wG P xid tab ro).fn (jc g) (o5 d.ps x) []).leads (.ret (ny d.rs y),[]):=by
    intro st0 x y hx hy
    simp only[wG,ya.call]
    rw[ya.find_eq tab (jc g) (Z4 _ _ _ hx) (Uc d.ps x) hd]
    exact T.z6.2 ⟨x,XH [] d.ps x,T.z6.2 ⟨y,hy,rfl⟩⟩
   cases hn : !((v8 g l caps).any oj)with
   | true =>
    rw[hn,cond_true]at h
    obtain⟨x,h1,h2⟩:=T.z6.1 h
    obtain⟨y,h3,h4⟩:=T.z6.1 h2
    have hc:jt (wG P xid tab ro) (jc g) ⟨d.ps,d.rs⟩ (v8 g l caps)=.val ((ei [] d.ps (v8 g l caps)).bind λl=>((wG P xid tab ro).fn (jc g) l []).bind CM):=by
     unfold jt; rw[hn]; rfl
    rw[hc]
    refine .inl ⟨_,_,T.z6.2 ⟨_,T.z6.2 ⟨_,sa _ _ _ h1,T.z6.2 ⟨_,hfn x y h1 h3,rfl⟩⟩,rfl⟩,h4⟩
   | false =>
    rw[hn,cond_false]at h
    obtain⟨x,h1,h2⟩:=T.z6.1 h
    obtain⟨y,h3,h4⟩:=T.z6.1 h2
    have hc:jt (wG P xid tab ro) (jc g) ⟨d.ps,d.rs⟩ (v8 g l caps)=.rd λst=>(ei st d.ps (v8 g l caps)).bind λl=>((wG P xid tab ro).fn (jc g) l []).bind iI:=by
     unfold jt; rw[hn]; rfl
    rw[hc]
    cases hs:(ny d.rs y).all iK with
    | false=>rw[hs]at h4; exact h4.elim
    | true =>
     rw[hs]at h4
     refine .inl ⟨_,_,T.z6.2 ⟨_,T.z6.2 ⟨_,sa _ _ _ h1,T.z6.2 ⟨_,hfn x y h1 h3,?_⟩⟩,rfl⟩,h4⟩
     simp only[iI,hs,cond_true]
     rfl
  ·rename_i d hd
   have Bn:(wG P xid tab ro).sig (jc g) (v8 g l caps)=none:=by simp only[wG]; rw[hd]
   have FR:jE (wG P xid tab ro) (some (.zK g caps)) args=c7 (wG P xid tab ro) (jc g) (v8 g l caps):=by simp only[jE,hl,Bn]
   rw[FR]
   obtain⟨ds,zg,h1,h2⟩:=wK.Fi h
   refine .inl ⟨_,zg,T.z6.2 ⟨(.ret ds,zg),?_,rfl⟩,h2⟩
   simp only[wG,ya.call]
   grind
  ·rename_i d hd
   have Bn:(wG P xid tab ro).sig (jc g) (v8 g l caps)=none:=by simp only[wG]; rw[hd]
   have FR:jE (wG P xid tab ro) (some (.zK g caps)) args=c7 (wG P xid tab ro) (jc g) (v8 g l caps):=by simp only[jE,hl,Bn]
   rw[FR]
   rcases kW.Fi h with⟨ds,zg,h1,h2⟩ | ⟨p,zg,h1,h2⟩
   ·refine .inl ⟨_,zg,T.z6.2 ⟨(.ret ds,zg),?_,rfl⟩,h2⟩
    simp only[wG,ya.call]
    grind
   ·refine .inr ⟨p,zg,⟨g,caps,l,rfl,hl,?_⟩,h2⟩
    simp only[wG,ya.call]
    grind
 ·exact h.elim
theorem dn{o:Oper}{s:gG}{k:gG->T α}{kp:D->St->T α}{r:α}(h:(iJ (wG P xid tab ro) tab n o s k kp).leads r) :
  (∃ s',(kH (wG P xid tab ro) n o s).leads s'/\(k s').leads r)\/∃ d zg,GO (wG P xid tab ro) o s d zg/\(kp d zg).leads r:=by
 unfold iJ at h
 unfold kH
 cases hd:wi n o.dst with
 | false=>rw[hd]at h; exact h.elim
 | true =>
  rw[hd,cond_true]at h
  rw[cond_true]
  obtain⟨dst,op,ty,pos,after,guard⟩:=o
  have gen:((zk (ew (wG P xid tab ro) s.kn s.fr ⟨dst,op,ty,pos,after,guard⟩) s.st).bind λr=>k ⟨s.fr.put dst r.1,ZS s.kn dst (ZU s.kn op),r.2,(ew (wG P xid tab ro) s.kn s.fr ⟨dst,op,ty,pos,after,guard⟩).kind::s.ks,qe (wG P xid tab ro) (wZ s.fr) s.st ⟨dst,op,ty,pos,after,guard⟩::s.bk⟩).leads r ->
    ∃ s',(let cl:=ew (wG P xid tab ro) s.kn s.fr ⟨dst,op,ty,pos,after,guard⟩; (zk cl s.st).bind λr=>T.ret (⟨s.fr.put dst r.1,ZS s.kn dst (ZU s.kn op),r.2,cl.kind::s.ks,qe (wG P xid tab ro) (wZ s.fr) s.st ⟨dst,op,ty,pos,after,guard⟩::s.bk⟩:gG)).leads s'/\(k s').leads r:=by
   intro h
   obtain⟨x,h1,h2⟩:=T.z6.1 h
   exact⟨_,T.z6.2 ⟨x,h1,rfl⟩,h2⟩
  cases op with
  | call cl =>
   obtain⟨callee,args,cy⟩:=cl
   cases callee with
   | value f =>
    rcases Jq (P:=P) (xid:=xid) (ro:=ro) h with⟨d,zg,h1,h2⟩ | ⟨d,zg,h1,h2⟩
    ·exact .inl ⟨_,T.z6.2 ⟨(d,zg),h1,rfl⟩,h2⟩
    ·exact .inr ⟨d,zg,.inr ⟨f,args,cy,rfl,h1⟩,h2⟩
   | _=>grind
  | panic x =>
   simp only at h
   split at h
   ·rename_i t e hx
    exact .inr ⟨_,_,.inl ⟨x,t,e,rfl,hx,rfl,rfl⟩,h⟩
   ·exact h.elim
  | _=>grind
theorem BL{ops:Array Oper}{o:Oper}{s:gG}{k:gG->T α}{kp:D->St->T α}{r:α}(hkn:xX s.kn s.fr.get)(h:(K1 (wG P xid tab ro) tab n ops o s k kp).leads r) :
  (∃ s',(stepG (wG P xid tab ro) n ops o s).leads s'/\(k s').leads r)\/∃ d zg,qX ops s.fr.get o=some true/\GO (wG P xid tab ro) o s d zg/\(kp d zg).leads r:=by
 obtain⟨dst,op,ty,pos,after,guard⟩:=o
 cases guard with
 | none =>
  rcases dn h with h | ⟨d,zg,h1,h2⟩
  ·exact .inl h
  ·exact .inr ⟨d,zg,rfl,h1,h2⟩
 | some jw =>
  obtain⟨j,want⟩:=jw
  simp only[K1]at h
  simp only[stepG]
  cases hg:wQ ops j with
  | none=>rw[hg]at h; exact h.elim
  | some t =>
   rw[hg]at h
   simp only at h ⊢
   cases hk:s.kn.get t with
   | some b =>
    rw[hk]at h
    simp only at h ⊢
    have hw:qX ops s.fr.get ⟨dst,op,ty,pos,after,some (j,want)⟩=some (b==want):=by simp[qX,hg,hkn t b hk]
    cases hb:b==want with
    | true =>
     rw[hb,cond_true]at h; rw[cond_true]
     rcases dn h with h | ⟨d,zg,h1,h2⟩
     ·grind
     ·grind
    | false =>
     rw[hb,cond_false]at h; rw[cond_false]
     cases hd:wi n dst with
     | true=>rw[hd,cond_true]at h; exact .inl ⟨_,rfl,h⟩
     | false=>rw[hd,cond_false]at h; exact h.elim
   | none =>
    rw[hk]at h
    simp only at h ⊢
    split at h
    ·rename_i x hf
     rw[hf]
     simp only
     have hw:qX ops s.fr.get ⟨dst,op,ty,pos,after,some (j,want)⟩=some (x==want):=by simp[qX,hg,hf]
     cases hd:wi n dst with
     | false=>rw[hd]at h; exact h.elim
     | true =>
      rw[hd,cond_true]at h; rw[cond_true]
      rcases h with⟨hx,h⟩ | ⟨hx,h⟩
      ·subst hx
       cases want with
       | true =>
        rw[cond_true]at h
        rcases dn h with⟨s',h1,h2⟩ | ⟨d,zg,h1,h2⟩
        ·exact .inl ⟨s',.inl ⟨rfl,h1⟩,h2⟩
        ·exact .inr ⟨d,zg,hw,h1,h2⟩
       | false=>rw[cond_false]at h; exact .inl ⟨_,.inl ⟨rfl,rfl⟩,h⟩
      ·subst hx
       cases want with
       | true=>rw[cond_true]at h; exact .inl ⟨_,.inr ⟨rfl,rfl⟩,h⟩
       | false =>
        rw[cond_false]at h
        rcases dn h with⟨s',h1,h2⟩ | ⟨d,zg,h1,h2⟩
        ·exact .inl ⟨s',.inr ⟨rfl,h1⟩,h2⟩
        ·exact .inr ⟨d,zg,hw,h1,h2⟩
    ·rename_i hf
     rw[hf]
     simp only
     cases hd:wi n dst with
     | true=>rw[hd,cond_true]at h; exact .inl ⟨_,rfl,h⟩
     | false=>rw[hd,cond_false]at h; exact h.elim
    ·exact h.elim
def K0(c:Ctx)(n:Nat)(ops:Array Oper)(l:List Oper)(s:gG)(d:D)(zg:St):Prop :=
 ∃ pre o post s1,l=pre++o::post/\(cg c n ops pre s).leads s1/\qX ops s1.fr.get o=some true/\GO c o s1 d zg
theorem mc{ops:Array Oper}:∀ (l:List Oper) {s:gG} {k:gG->T α} {kp:D->St->T α} {r:α},xX s.kn s.fr.get->(∀ o∈l,∃ i:Nat,ops[i]? = some o)->(sc (wG P xid tab ro) tab n ops l s k kp).leads r ->
  (∃ s',(cg (wG P xid tab ro) n ops l s).leads s'/\(k s').leads r)\/∃ d zg,K0 (wG P xid tab ro) n ops l s d zg/\(kp d zg).leads r
 | [],s,k,kp,r,_,_,h=>.inl ⟨s,rfl,h⟩
 | o::l,s,k,kp,r,hk,hl,h=>by
  rcases BL hk h with⟨s1,h1,h2⟩ | ⟨d,zg,h1,h2,h3⟩
  ·obtain⟨i,hi⟩:=hl o List.mem_cons_self
   obtain⟨_,_,SL,_⟩:=X6 hi hk h1
   rcases mc l SL (λo' ho=>hl o' (List.mem_cons_of_mem _ ho)) h2 with⟨s2,h3,h4⟩ | ⟨d,zg,⟨pre,o',post,s2,e,g1,g2,g3⟩,h4⟩
   ·exact .inl ⟨s2,T.z6.2 ⟨s1,h1,h3⟩,h4⟩
   ·exact .inr ⟨d,zg,⟨o::pre,o',post,s2,by grind,T.z6.2 ⟨s1,h1,g1⟩,g2,g3⟩,h4⟩
  ·exact .inr ⟨d,zg,⟨[],o,l,s,rfl,rfl,h1,h2⟩,h3⟩
theorem Q0{ops:Array Oper}{draw:Bool}{fr:Fr}{kn:Kn}{st:St}{k:gG->T α}{kp:D->St->T α}{r:α}(hk:xX kn fr.get)(h:(Zw (wG P xid tab ro) tab n ops draw fr kn st k kp).leads r) :
  (∃ s',(gL (wG P xid tab ro) n ops draw fr kn st).leads s'/\(k s').leads r)\/∃ d zg,draw=false/\K0 (wG P xid tab ro) n ops ops.toList ⟨fr,kn,st,[],[]⟩ d zg/\(kp d zg).leads r:=by
 rcases mc _ hk (λo ho=>by obtain⟨i,hi,he⟩:=List.getElem_of_mem ho; exact⟨i,by grind⟩) h with⟨s',h1,h2⟩ | ⟨d,zg,h1,h2⟩
 ·cases hd : !draw||mn ops s'.ks.reverse s'.bk.reverse with
  | false=>rw[hd]at h2; exact h2.elim
  | true =>
   rw[hd,cond_true]at h2
   refine .inl ⟨s',T.z6.2 ⟨s',h1,?_⟩,h2⟩
   rw[hd]; rfl
 ·cases draw with
  | true=>exact h2.elim
  | false=>grind
end
end
end Go.AM
namespace Go.AM
set_option linter.unusedSectionVars false
variable [we] [X0]
open Go.RowKit
theorem Z0{α β:Type}{f:α->β}{t:T α}{x:α}(h:t.leads x):(Uu f t).leads (f x):=by
 induction t with
 | ret a=>exact congrArg f h
 | ite b p q ip iq=>exact bf h (λh=>⟨h.1,ip h.2⟩) (λh=>⟨h.1,iq h.2⟩)
 | zb p t ih=>exact⟨h.1,ih h.2⟩
 | fail=>exact h.elim
theorem GF:∀ (l:List It) (d:xk l) (t:T (xk l)) (x:xk l),t.leads x->BM l d t=x
 | [],_,_,_,_=>rfl
 | [_],d,t,x,h=>((T.tL d t x).1 h).2
 | i::j::r,d,t,x,h=>by
  have h1:=((T.tL d.1 _ _).1 (Z0 (f:=Prod.fst) h)).2
  have h2:=GF (j::r) d.2 _ _ (Z0 (f:=Prod.snd) h)
  show(T.val d.1 (Uu Prod.fst t),BM (j::r) d.2 (Uu Prod.snd t))=x
  rw[h1,h2]
  exact rfl
theorem B1{α:Type}(t:T α)(h:t.rC):∃ x,t.leads x:=by
 induction t with
 | ret a=>exact⟨a,rfl⟩
 | ite b p q ip iq =>
  unfold T.rC at h ip iq
  simp only[T.nE]at h
  cases b with
  | true =>
   obtain⟨x,hx⟩:=ip (by grind)
   exact⟨x,.inl ⟨rfl,hx⟩⟩
  | false =>
   obtain⟨x,hx⟩:=iq (by grind)
   exact⟨x,.inr ⟨rfl,hx⟩⟩
 | zb p t ih =>
  unfold T.rC at h ih
  simp only[T.nE]at h
  cases ht:t.nE with
  | none=>rw[ht]at h ih; obtain⟨x,hx⟩:=ih trivial; exact⟨x,h,hx⟩
  | some q=>rw[ht]at h ih; obtain⟨x,hx⟩:=ih h.2; exact⟨x,h.1,hx⟩
 | fail=>exact h.elim
theorem UF{l:List It}{t:T (xk l)}{x:xk l}(h:(CI l t).leads x):t.leads x:=by
 unfold CI at h
 split at h
 ·rename_i d hd
  have key:t.rC->BM l d t=x->t.leads x:=by
   intro hp hv
   obtain⟨y,hy⟩:=B1 t hp
   rw[<- hv,GF l d t y hy]; exact hy
  split at h
  ·rename_i hn; exact key (by unfold T.rC; rw[hn]; trivial) h
  ·rename_i p hn; exact key (by unfold T.rC; rw[hn]; exact h.1) h.2
 ·exact h.elim
def RIs(ws:List Way)(r:kI ws)(w:Way)(x:w.sh.den):Prop:=∀ {α:Type} (k:Ex->Fr->St->T α),Yz ws r k=k w.ex (w.sh.fr x) (w.sh.st x)
theorem Wc:∀ (ws:List Way) (ex:Ex) (fr:Fr) (st:St) (r:kI ws),(Wx ws ex fr st).leads r->∃ w,w∈ws/\∃ x:w.sh.den,RIs ws r w x/\fb w.ex ex=true/\(w.sh.un fr st).leads x
 | [],_,_,_,_,h=>h.elim
 | [w],ex,fr,st,r,h=>by
  have h:(bif fb w.ex ex then w.sh.un fr st else .fail:T w.sh.den).leads r:=h
  cases hs:fb w.ex ex with
  | false=>rw[hs]at h; exact h.elim
  | true=>rw[hs]at h; exact⟨w,by simp,r,λk=>rfl,hs,h⟩
 | w::v::ws,ex,fr,st,r,h=>by
  have h:(bif fb w.ex ex then(w.sh.un fr st).bind λx=>T.ret (Sum.inl x:w.sh.den⊕kI (v::ws))else(Wx (v::ws) ex fr st).bind λy=>T.ret (Sum.inr y)).leads r:=h
  cases hs:fb w.ex ex with
  | true =>
   rw[hs]at h
   obtain⟨x,h1,h2⟩:=T.z6.1 h
   subst h2
   exact⟨w,by simp,x,λk=>rfl,hs,h1⟩
  | false =>
   rw[hs]at h
   obtain⟨y,h1,h2⟩:=T.z6.1 h
   subst h2
   obtain⟨w',k1,x,k2,k3,k4⟩:=Wc (v::ws) ex fr st y h1
   exact⟨w',List.mem_cons_of_mem _ k1,x,λk=>k2 k,k3,k4⟩
def PK(κ:KS)(n:Nat)(w:Way)(z:w.sh.den)(a:Act)(bS:Exit):Prop:=∀ q,U2 w.ex (w.sh.fr z)=some q->Rel κ n q.2.get a/\Va κ q.1 bS
theorem Dy{κ0 κ:KS}{n:Nat}{a:Act}{w:Way}{z:w.sh.den}{O4:Ex}{ofr:Fr}{bS:Exit}(hx:Ext κ0 κ)(hI:Inv κ)(hR:Rel κ n ofr.get a)(he:Va κ O4 bS)(hs:fb w.ex O4=true)(hl:κ0.st.length<=w.sh.bs.length)
  (h:(w.sh.un (ZK O4 ofr) κ.st).leads z):∃ κ1:KS,κ1.w=κ.w/\κ1.st=w.sh.st z/\Inv κ1/\Ext κ0 κ1/\PK κ1 n w z a bS:=by
 have plain:ZK O4 ofr=ofr->(∀ q,U2 w.ex (w.sh.fr z)=some q->q.2=w.sh.fr z/\∀ κ1:KS,Va κ1 q.1 bS)->∃ κ1:KS,κ1.w=κ.w/\κ1.st=w.sh.st z/\Inv κ1/\Ext κ0 κ1/\PK κ1 n w z a bS:=by
  intro e1 e2
  rw[e1]at h
  obtain⟨κ1,q1,q2,q3,q4,q5,_⟩:=w.sh.r9 (n:=n) hx hI hR hl h
  exact⟨κ1,q1,q2,q3,q4,λq hq=>by obtain⟨g1,g2⟩:=e2 q hq; rw[g1]; exact⟨q5,g2 κ1⟩⟩
 cases hw:w.ex with
 | normal =>
  rw[hw]at hs
  cases O4<;>first | (cases hs; done) | skip
  exact plain rfl λq hq=>by rw[hw]at hq; cases hq; exact⟨rfl,λ_=>he⟩
 | ret =>
  rw[hw]at hs
  cases O4<;>first | (cases hs; done) | skip
  exact plain rfl λq hq=>by rw[hw]at hq; cases hq; exact⟨rfl,λ_=>he⟩
 | exit id =>
  rw[hw]at hs
  cases O4<;>first | (cases hs; done) | skip
  rename_i id'
  have:id=id':=Nat.eq_of_beq_eq_true hs
  subst this
  exact plain rfl λq hq=>by rw[hw]at hq; cases hq; exact⟨rfl,λ_=>he⟩
 | wN p =>
  rw[hw]at hs
  cases p<;>first | (cases hs; done) | skip
  rename_i t p
  cases O4<;>first | (cases hs; done) | skip
  rename_i p'
  cases p'<;>first | (cases hs; done) | skip
  rename_i t' d
  have:t=t':=Nat.eq_of_beq_eq_true hs
  subst this
  obtain⟨v,rfl,hv⟩:=he
  cases hv with
  | iface _ _ u hu =>
   have Qg:Rel κ 1 (ZK (.wN (.iface t d)) ofr).get { tmps := #[u],defers:=X0.df }:=by
    refine⟨rfl,rfl,λs d' hd => ?_⟩
    simp only[ZK,Fr.get]at hd
    cases hb:Nat.beq 0 s with
    | true =>
     have:=Nat.eq_of_beq_eq_true hb
     grind
    | false=>grind
   obtain⟨κ1,q1,q2,q3,q4,q5,_⟩:=w.sh.r9 (n:=1) hx hI Qg hl h
   refine⟨κ1,q1,q2,q3,q4,λq hq => ?_⟩
   rw[hw]at hq
   simp only[U2]at hq
   split at hq
   ·rename_i d' j9
    cases hq
    obtain⟨v',g1,g2⟩:=q5.get 0 d' j9
    cases g1
    exact⟨⟨hR.size,hR.defers,λs d hd=>by cases hd⟩,_,rfl,.iface t d' _ g2⟩
   ·cases hq
theorem cz(st:St):∀ (bs:List Bk) (bd:List Bd),(qY st bs bd).length<=bs.length
 | [],_=>by simp[qY]
 | .arr _::r,[]=>by simp[qY]
 | .arr _::r,.v _ _::_=>by simp[qY]
 | .arr _::r,.a _ _::d=>by have:=cz st r d; simp[qY]; exact this
 | .var _::r,[]=>by simp[qY]
 | .var _::r,.a _ _::_=>by simp[qY]
 | .var _::r,.v _ _::d=>by have:=cz st r d; simp[qY]; exact this
 | .cvar _::r,d=>by have:=cz st r d; cases d<;>(simp[qY]; exact this)
 | .dead::r,d=>by have:=cz st r d; cases d<;>(simp[qY]; exact this)
theorem qz.fQ(s:qz)(x:s.den):(s.st x).length<=s.bs.length:=cz _ _ _
theorem pD{l m:Fr}{s:Nat}{d:D}(h:(l++m).get s=some d):l.get s=some d\/m.get s=some d:=by
 induction l with
 | nil=>grind
 | cons p r ih =>
  simp only[List.cons_append,Fr.get]at h ⊢
  grind
theorem BQ{l:List Nat}{fr:Fr}{s:Nat}{d:D}(h:(yZ l++fr).get s=some d):s ∉ l/\fr.get s=some d:=by
 induction l with
 | nil=>exact⟨by simp,h⟩
 | cons t r ih =>
  simp only[yZ,List.map_cons,List.cons_append,Fr.get]at h
  cases ht:Nat.beq t s with
  | true=>grind
  | false =>
   rw[ht,cond_false]at h
   obtain⟨h1,h2⟩:=ih h
   refine⟨?_,h2⟩
   simp
   exact⟨λe=>by subst e; simp at ht,h1⟩
theorem mE{o:Oper}{s:Nat}:∀ {l:List Oper},o∈l->o.dst=some s->s∈dstsOf l
 | p::r,h,hs=>by
  simp only[dstsOf]
  rcases List.mem_cons.1 h with rfl | h
  ·grind
  ·split
   ·exact List.mem_cons_of_mem _ (mE h hs)
   ·exact mE h hs
def Kept(code:Code)(a a':Act):Prop:=∀ s:Nat,s ∉ zQ code->a'.tmps[s]? = a.tmps[s]?
section
variable {P:Program} {xid:Nat} {tab:ya} {ro:Nat->Bool} {n:Nat} {H:Hints}
theorem iR{κ κ':KS}{fr out:Fr}{a a':Act}{ws:List Nat}(hR:Rel κ n fr.get a)(hx:Ext κ κ')(ho:Rel κ' n out.get a')(hk:∀ s:Nat,s ∉ ws->a'.tmps[s]? = a.tmps[s]?):Rel κ' n (out++(yZ ws++fr)).get a':=by
 refine⟨ho.size,ho.defers,λs d hd => ?_⟩
 rcases pD hd with h | h
 ·exact ho.get s d h
 ·obtain⟨h1,h2⟩:=BQ h
  obtain⟨v,g1,g2⟩:=hR.get s d h2
  exact⟨v,(hk s h1).trans g1,g2.mono hx⟩
theorem W4{c:Ctx}{ops:Array Oper}:∀ (l:List Oper) (s s':gG),(cg c n ops l s).leads s'->quiet s'.ks=true->s'.st=s.st/\quiet s.ks=true:=by
 have hq:∀ {k:Nat} {ks:List Nat},quiet (k::ks)=true->Nat.beq k 2=false/\quiet ks=true:=by
  intro k ks h
  simp only[quiet,List.all_cons,Bool.and_eq_true,Bool.not_eq_true']at h
  exact⟨h.1,by unfold quiet; exact h.2⟩
 have one:∀ (o:Oper) (s s1:gG),(kH c n o s).leads s1->quiet s1.ks=true->s1.st=s.st/\quiet s.ks=true:=by
  intro o s s1 h hk
  unfold kH at h
  cases hd:wi n o.dst with
  | false=>rw[hd]at h; exact h.elim
  | true =>
   rw[hd,cond_true]at h
   obtain⟨r,h1,h2⟩:=T.z6.1 h
   cases h2
   obtain⟨g1,g2⟩:=hq hk
   refine⟨?_,g2⟩
   show r.2=s.st
   generalize ew c s.kn s.fr o=cl at h1 g1
   cases cl with
   | val t=>obtain⟨d,_,h3⟩:=T.z6.1 h1; cases h3; rfl
   | rd k=>obtain⟨d,_,h3⟩:=T.z6.1 h1; cases h3; rfl
   | wr k=>cases g1
 have skp:∀ (o:Oper) (s:gG),quiet (vT o s).ks=true->(vT o s).st=s.st/\quiet s.ks=true:=λo s h=>⟨rfl,(hq h).2⟩
 have gd:∀ (o:Oper) (s s1:gG),(stepG c n ops o s).leads s1->quiet s1.ks=true->s1.st=s.st/\quiet s.ks=true:=by
  intro o s s1 h hk
  obtain⟨dst,op,ty,pos,after,guard⟩:=o
  cases guard with
  | none=>exact one _ s s1 h hk
  | some jw =>
   obtain⟨j,want⟩:=jw
   simp only[stepG]at h
   cases hg:wQ ops j with
   | none=>rw[hg]at h; exact h.elim
   | some t =>
    rw[hg]at h
    simp only at h
    cases hkn:s.kn.get t with
    | some b =>
     rw[hkn]at h
     simp only at h
     cases hb:b==want with
     | true=>grind
     | false =>
      rw[hb,cond_false]at h
      cases hd:wi n dst with
      | false=>rw[hd]at h; exact h.elim
      | true=>rw[hd,cond_true]at h; cases h; exact skp _ s hk
    | none =>
     rw[hkn]at h
     simp only at h
     split at h
     ·cases hd:wi n dst with
      | false=>rw[hd]at h; exact h.elim
      | true =>
       rw[hd,cond_true]at h
       rcases h with⟨_,h⟩ | ⟨_,h⟩
       ·cases want with
        | true=>rw[cond_true]at h; exact one _ (s.kM t true) s1 h hk
        | false=>rw[cond_false]at h; cases h; exact skp _ (s.kM t true) hk
       ·cases want with
        | true=>rw[cond_true]at h; cases h; exact skp _ (s.kM t false) hk
        | false=>rw[cond_false]at h; exact one _ (s.kM t false) s1 h hk
     ·cases hd:wi n dst with
      | false=>rw[hd]at h; exact h.elim
      | true=>rw[hd,cond_true]at h; cases h; exact skp _ s hk
     ·exact h.elim
 intro l
 induction l with
 | nil=>intro s s' h hk; cases h; exact⟨rfl,hk⟩
 | cons o l ih =>
  intro s s' h hk
  obtain⟨s1,h1,h2⟩:=T.z6.1 h
  obtain⟨g1,g2⟩:=ih s1 s' h2 hk
  obtain⟨k1,k2⟩:=gd o s s1 h1 g2
  exact⟨g1.trans k1,k2⟩
theorem WJ{c:Ctx}{ops:Array Oper}{draw:Bool}{fr:Fr}{kn:Kn}{st:St}{s':gG}(h:(gL c n ops draw fr kn st).leads s')(hq:quiet s'.ks=true):s'.st=st:=by
 obtain⟨s1,h1,h2⟩:=T.z6.1 h
 cases hd:(!draw||mn ops s1.ks.reverse s1.bk.reverse)with
 | false=>rw[hd]at h2; exact h2.elim
 | true=>rw[hd,cond_true]at h2; cases h2; exact(W4 _ _ _ h1 hq).1
theorem CK{c:Ctx}{κ:KS}{a:Act}{o:Oper}{g:Nat}{args:Array Value}{R:Ending->World->Prop}(xg:(execOp a.eval o).run c.P κ.w=(callFunc g args).run c.P κ.w)
  (h:wY c.P g args κ.w R) {K:Act->World->Prop} {Q:Exit->Act->World->Prop} (hR:∀ e w',R e w'->∃ ch,e=.panicked ch/\Q (.panic ch) a w'):o.wp c.P a κ.w K Q:=by
 unfold Oper.wp
 rw[xg]
 rcases h with⟨h1,h2⟩ | ⟨v,w',h1,h2⟩
 ·rw[h1]
  refine h2.mono λe w' he => ?_
  grind
 ·grind
theorem DF{c:Ctx}{κ:KS}{n:Nat}{a:Act}{o:Oper}{s:gG}{d:D}{zg:St}(hC:∀ g,WZ c.P g (c.fn g))(hI:Inv κ)(hR:Rel κ n s.fr.get a)(qQ:κ.st=s.st)(h:GO c o s d zg){K:Act->World->Prop}{Q:Exit->Act->World->Prop}
  (hQ:∀ (v:Value) (κ':KS),κ'.st=zg->Inv κ'->Ext κ κ'->RD κ' d v->Q (.panic [{ v,recovered:=false }]) a κ'.w):o.wp c.P a κ.w K Q:=by
 have kP:∀ (x:Operand) (z:D),wZ s.fr x=some z->RD κ z (a.eval x):=λx z hz=>hR.eval (by rw[<- ko]; exact hz)
 obtain⟨dst,op,ty,pos,after,guard⟩:=o
 rcases h with⟨x,t,e,rfl,hx,rfl,rfl⟩ | ⟨f,args,cy,rfl,g,caps,l,hp,hl,hc⟩
 ·have hv:=kP x _ hx
  generalize Un:a.eval x=pv at hv
  cases hv with
  | iface _ _ u hu =>
   have xg:(execOp a.eval ⟨dst,.panic x,ty,pos,after,guard⟩).run c.P κ.w=.halt (.panic (.iface t u)) κ.w:=by
    simp[execOp,Un,Instr.panic]
   unfold Oper.wp
   rw[xg]
   exact hQ _ κ qQ hI (Ext.refl κ) (.iface t e u hu)
 ·have Ie:=kP f _ hp
  have hr:=jU (κ:=κ) (vs:=args.toList.map a.eval) hl (by simp) (λi d v hd hv=>by
      simp only[List.getElem?_map]at hd hv
      cases hi:args.toList[i]? with
      | none=>grind
      | some x=>rw[hi]at hd hv; simp at hd hv; subst hv; exact kP x d hd)
  generalize Un:a.eval f=pv at Ie
  cases Ie with
  | zK _ _ us ly SG =>
   have dH:=sH g hr (⟨ly,SG⟩:zU κ caps us)
   rw[<- qQ]at hc
   refine CK (c:=c) (κ:=κ) (g:=jc g) (args:=(v8 g (args.toList.map a.eval) us).toArray) ?_ (hC (jc g) κ _ _ _ _ hc hI dH) ?_
   ·exact Vy Un
   ·rintro e w' ⟨κ',rfl,h1,h2,h3,v,rfl,h4⟩
    grind
theorem HX{c:Ctx}{κ:KS}{n:Nat}{a:Act}{id:Nat}{ops:Array Oper}{fr:Fr}{kn:Kn}{d:D}{zg:St}(hC:∀ g,WZ c.P g (c.fn g))(hI:Inv κ)(hR:Rel κ n fr.get a)(hk:xX kn fr.get)
  (h:K0 c n ops ops.toList ⟨fr,kn,κ.st,[],[]⟩ d zg) {Q:Exit->Act->World->Prop}
  (hQ:∀ (v:Value) (a':Act) (κ':KS),κ'.st=zg->Inv κ'->Ext κ κ'->Rel κ' n (Fr.get []) a'->bc ops a a'->RD κ' d v->Q (.panic [{ v,recovered:=false }]) a' κ'.w):(Code.region id ops false).wp c.P Q a κ.w:=by
 obtain⟨pre,o,post,s1,e,h1,h2,h3⟩:=h
 have IA:∀ j:Nat,ops[j]? = (pre++o::post)[j]? := λj=>by rw[<- e]; simp
 obtain⟨ks,g1,g2,_⟩:=bh pre 0 ⟨fr,kn,κ.st,[],[]⟩ s1 (λj=>by
  by_cases hj:j<pre.length
  ·grind
  ·right; omega) hk h1
 have vb:List.range ops.size=List.range' 0 pre.length++pre.length::List.range' (pre.length+1) post.length:=by
  have:ops.size=pre.length+(post.length+1):=by rw[<- Array.length_toList,e]; simp
  rw[this,List.range_eq_range',<- List.range'_append_1,Nat.zero_add,List.range'_succ]
 refine wp_region ?_
 rw[vb]
 refine oh hC _ _ hI hR rfl g1 λa' κ' e1 e2 e3 e4 e5 => ?_
 rw[wpOps_cons]
 unfold wpOp
 have ho:ops[pre.length]? = some o:=by rw[IA]; simp
 rw[ho]
 simp only
 rw[if_pos (cR e4 h2)]
 exact .inl (DF hC e2 e4 e1 h3 λv BD f1 f2 f3 f4=>hQ v a' BD f1 f2 (e3.trans f3) ⟨e4.size,e4.defers,λs d hd=>by cases hd⟩ e5 f4)
def nt(P:Program)(n:Nat)(l:zi)(b:Code):Prop:=∀ (κ:KS) (a:Act) (p:xk l.ps) (s:l.sh.den) (r:kI l.ws),(l.F p s).leads r->κ.st=l.sh.st s->Inv κ ->
 Rel κ n (l.sh.fr s).get a->Rel κ n (yF (l.sh.st s) l.ps p).get a->K2 l.ps (zQ b)=true->(∀ w∈l.ws,l.sh.bs.length<=w.sh.bs.length) ->
 ∀ Q:Exit->Act->World->Prop,(∀ (w:Way) (x:w.sh.den) (bS:Exit) (a':Act) (κ':KS),w∈l.ws->RIs l.ws r w x->κ'.st=w.sh.st x->Inv κ'->Ext κ κ'->PK κ' n w x a' bS->Kept b a a'->Q bS a' κ'.w) ->
  (Code.loop b).wp P Q a κ.w
def wE(P:Program)(n:Nat)(H:Hints)(code:Code):Prop:=∀ p∈qo code,∀ l,H.loop p.1=some l->nt P n l p.2
theorem FV{kn:Kn}:∀ (l:List Nat) {fr:Fr} {st:St} {r:Fr×St},(Ig l fr st).leads r->xX kn fr.get->xX kn r.1.get
 | [],fr,st,r,h,hk=>by cases h; exact hk
 | s::l,fr,st,r,h,hk=>by
  obtain⟨x,h1,h2⟩:=T.z6.1 h
  refine FV l h2 λt b hb => ?_
  have hf:=hk t b hb
  unfold II at h1
  cases hW:Nat.ble 1000000 s with
  | true =>
   rw[hW,cond_true]at h1
   have OO:x.1=fr:=by
    unfold MT at h1
    split at h1
    ·split at h1
     ·split at h1
      ·split at h1
       ·obtain⟨_,h1⟩:=h1; cases h1; rfl
       ·exact h1.elim
      ·exact h1.elim
     ·cases h1; rfl
    ·cases h1; rfl
   grind
  | false =>
  rw[hW,cond_false]at h1
  unfold Ly at h1
  split at h1
  ·rename_i b' q7 e off len hs
   split at h1
   ·split at h1
    ·obtain⟨_,h1⟩:=h1
     cases h1
     simp only[Fr.get]
     cases ht:Nat.beq s t with
     | true=>rw[<- Nat.eq_of_beq_eq_true ht,hs]at hf; cases hf
     | false=>grind
    ·exact h1.elim
   ·exact h1.elim
  ·cases h1; exact hf
theorem Cv{c:Ctx}{t e:Nat}(hu:c.P.underlying t=some (.slice e)){op:BinOp}{b:Bool}(I6:CO op=some b)(px py:Operand)(w:World)(x:Option Addr)(l k:Nat) :
  (do eqGuard op t px py (.slice x l k) (.slice none 0 0); binOp op t (.slice x l k) (.slice none 0 0):Sem Value).run c.P w=.ok (.bool (if b=true then x.isNone else !x.isNone)) w:=by
 cases op<;>simp only[CO]at I6<;>cases I6
 ·have:=run_eql_slice_nil (P:=c.P) w t e x l k hu
  simp only[eqGuard]
  simpa using this
 ·have:=run_neq_slice_nil (P:=c.P) w t e x l k hu
  simp only[eqGuard]
  simpa using this
theorem JQ{ops:Array Oper}{fr:Fr}{p:SC}(hp:W7 (wG P xid tab ro) n ops fr=some p){κ:KS}{a:Act}{kn:Kn}(hI:Inv κ)(hR:Rel κ n fr.get a)(hk:xX kn fr.get){id:Nat}(Q:Exit->Act->World->Prop)
  (hQ:∀ a':Act,Kept (.region id ops false) a a' ->
   ((p.l=[]/\Rel κ n (Fr.get ((p.c,some (.zj .bool p.eq))::(p.m,some .zW)::(p.s,some .zW)::fr)) a')\/Rel κ n (Fr.get ((p.c,some (.zj .bool (!p.eq)))::(p.m,some (.zj (.sl p.e) p.l))::fr)) a')->Q .normal a' κ.w) :
  (Code.region id ops false).wp P Q a κ.w:=by
 unfold W7 at hp
 split at hp
 ·rename_i o1 o2 hops
  split at hp
  ·rename_i m s hd1 C4 hg1
   split at hp
   ·rename_i cc op t m' y ty' hd2 I7 hg2
    split at hp
    ·rename_i b e l et I6 hs OH
     cases hc:Nat.beq m m'&&Jh y&&Nat.blt m n&&Nat.blt cc n with
     | false=>grind
     | true =>
      rw[hc,cond_true]at hp
      cases hp
      simp only[Bool.and_eq_true]at hc
      obtain⟨⟨⟨hmm,hy⟩,hmn⟩,hcn⟩:=hc
      have:=Nat.eq_of_beq_eq_true hmm
      subst this
      have Lh:y=.const (.slice none 0 0):=by
       unfold Jh at hy
       grind
      subst Lh
      obtain⟨v,hv,j9⟩:=hR.get s _ hs
      obtain⟨x,k,hvs⟩:∃ (x:Option Addr) (k:Nat),v=.slice x l.length k/\(x=none->l=[]/\k=0):=by
       rcases(j9.xo rfl).dr with⟨rfl,a0,he⟩ | ⟨blk,off,cap,f,he,qI,qR,h1,h2⟩
       ·grind
       ·grind
      obtain⟨rfl,hvn⟩:=hvs
      have vb:ops.size=2:=by rw[<- Array.length_toList,hops]; rfl
      have e0:ops[0]? = some o1:=by rw[<- Array.getElem?_toList,hops]; rfl
      have e1:ops[1]? = some o2:=by rw[<- Array.getElem?_toList,hops]; rfl
      have z5r:m<n:=Nat.le_of_ble_eq_true hmn
      have zaJ:cc<n:=Nat.le_of_ble_eq_true hcn
      have hsl:a.tmps.getD s undef=.slice x l.length k:=by simp[Array.getD_eq_getD_getElem?,hv]
      have wan:∀ (o:Oper) (ys:Nat->Option Value),o.guard=none->True:=λ_ _ _=>trivial
      refine wp_region ?_
      rw[vb,show List.range 2=[0,1]from rfl,wpOps_cons]
      unfold wpOp
      rw[e0]
      simp only
      rw[if_pos (by unfold Region.wanted; rw[hg1])]
      refine .inl ?_
      obtain⟨d1,op1,ty1,Rw,af1,gu1⟩:=o1
      obtain⟨d2,op2,Qd,Mu,af2,gu2⟩:=o2
      simp only at hd1 C4 hg1 hd2 I7 hg2
      subst hd1 C4 hg1 hd2 I7 hg2
      have hx1:(execOp a.eval ⟨some m,.move (.tmp s),ty1,Rw,af1,none⟩).run P κ.w=.ok (.value (.slice x l.length k)) κ.w:=by
       simp[execOp,Act.eval,hsl]
      unfold Oper.wp
      rw[hx1,Oper.upon_value,wpOps_cons]
      unfold wpOp
      rw[e1]
      simp only
      rw[if_pos (by unfold Region.wanted; rfl)]
      refine .inl ?_
      have kP:(a.put (some m) (.slice x l.length k)).eval (.tmp m)=.slice x l.length k:=by
       have:=hR.size
       simp[Act.eval,Act.put,Array.getD_eq_getD_getElem?,Array.getElem?_setIfInBounds,this,z5r]
      have hu:=xZ OH
      have xg:=Cv (c:=wG P xid tab ro) hu I6 (.tmp m) (.const (.slice none 0 0)) κ.w x l.length k
      have BC:(execOp (a.put (some m) (.slice x l.length k)).eval ⟨some cc,.binOp op t (.tmp m) (.const (.slice none 0 0)) ty',Qd,Mu,af2,none⟩).run P κ.w=.ok (.value (.bool (if b=true then x.isNone else !x.isNone))) κ.w:=by
       have hex:execOp (a.put (some m) (.slice x l.length k)).eval ⟨some cc,.binOp op t (.tmp m) (.const (.slice none 0 0)) ty',Qd,Mu,af2,none⟩ =
        (do Pure.pure (.value (<- (do eqGuard op t (.tmp m) (.const (.slice none 0 0)) ((a.put (some m) (.slice x l.length k)).eval (.tmp m)) (.slice none 0 0); binOp op t ((a.put (some m) (.slice x l.length k)).eval (.tmp m)) (.slice none 0 0))))):=rfl
       rw[hex,kP,Sem.run_bind]
       rw[show(do eqGuard op t (.tmp m) (.const (.slice none 0 0)) (.slice x l.length k) (.slice none 0 0); binOp op t (.slice x l.length k) (.slice none 0 0):Sem Value).run P κ.w=_ from xg]
       rfl
      unfold Oper.wp
      rw[BC,Oper.upon_value]
      have TJ:∀ (q:Nat) (u:Value) (a1:Act) (t:Nat),(a1.put (some q) u).tmps[t]? = if q=t then(if q<a1.tmps.size then some u else none)else a1.tmps[t]? := by
       intro q u a1 t
       simp only[Act.put,Array.getElem?_setIfInBounds]
      have NS:(a.put (some m) (.slice x l.length k)).tmps.size=n:=by simp[Act.put,hR.size]
      have hs2:((a.put (some m) (.slice x l.length k)).put (some cc) (.bool (if b=true then x.isNone else !x.isNone))).tmps.size=n:=by simp[Act.put,hR.size]
      refine hQ _ (λt ht => ?_) ?_
      ·have hw:zQ (.region id ops false)=[m,cc]:=by simp only[zQ,hops,dstsOf]
       grind
      ·have get:∀ (t:Nat),((a.put (some m) (.slice x l.length k)).put (some cc) (.bool (if b=true then x.isNone else !x.isNone))).tmps[t]? = if cc=t then some (.bool (if b=true then x.isNone else !x.isNone))else if m=t then some (.slice x l.length k)else a.tmps[t]? := by
        grind
       have Np:∀ {i j:Nat},Nat.beq i j=false->i≠j:=λh e=>by subst e; simp at h
       cases x with
       | none =>
        obtain⟨hl,WY⟩:=hvn rfl
        subst hl WY
        refine .inl ⟨rfl,hs2,hR.defers,λt d hd => ?_⟩
        rw[get]
        simp only[Fr.get]at hd
        cases h1:Nat.beq cc t with
        | true =>
         rw[h1,cond_true]at hd; cases hd
         rw[if_pos (Nat.eq_of_beq_eq_true h1)]
         refine⟨_,rfl,?_⟩
         cases b<;>exact .bool
        | false =>
         rw[h1,cond_false]at hd
         rw[if_neg (Np h1)]
         cases h2:Nat.beq m t with
         | true=>rw[h2,cond_true]at hd; cases hd; rw[if_pos (Nat.eq_of_beq_eq_true h2)]; exact⟨_,rfl,.zW⟩
         | false =>
          rw[h2,cond_false]at hd
          rw[if_neg (Np h2)]
          cases h3:Nat.beq s t with
          | true=>rw[h3,cond_true]at hd; cases hd; rw[<- Nat.eq_of_beq_eq_true h3]; exact⟨_,hv,.zW⟩
          | false=>rw[h3,cond_false]at hd; exact hR.get t d hd
       | some x =>
        refine .inr ⟨hs2,hR.defers,λt d hd => ?_⟩
        rw[get]
        simp only[Fr.get]at hd
        cases h1:Nat.beq cc t with
        | true =>
         rw[h1,cond_true]at hd; cases hd
         rw[if_pos (Nat.eq_of_beq_eq_true h1)]
         refine⟨_,rfl,?_⟩
         cases b<;>exact .bool
        | false =>
         rw[h1,cond_false]at hd
         rw[if_neg (Np h1)]
         cases h2:Nat.beq m t with
         | true=>rw[h2,cond_true]at hd; cases hd; rw[if_pos (Nat.eq_of_beq_eq_true h2)]; exact⟨_,rfl,j9⟩
         | false=>rw[h2,cond_false]at hd; rw[if_neg (Np h2)]; exact hR.get t d hd
    ·cases hp
   ·cases hp
  ·cases hp
 ·cases hp
theorem HK{id:Nat}{b:Code}(hb:∀ b',b≠.loop b')(fr:Fr)(kn:Kn)(st:St){α:Type}(k:Kq->T α):mB (wG P xid tab ro) tab n H (.block id b) fr kn st k=mB (wG P xid tab ro) tab n H b fr kn st λr=>match r.ex with
  | .exit id'=>bif Nat.beq id' id then k { r with ex:=.normal } else k r
  | _=>k r:=by
 cases b<;>first | rfl | exact absurd rfl (hb _)
theorem fR(hm:(wG P xid tab ro).P.follows .mixedOrders=true)(hT:jj P tab):∀ (code:Code),wE P n H code->∀ {fr:Fr} {kn:Kn} {κ:KS} {a:Act} {α:Type} {k:Kq->T α} {r:α},
  (mB (wG P xid tab ro) tab n H code fr kn κ.st k).leads r->Inv κ->Rel κ n fr.get a->xX kn fr.get ->
  ∀ Q:Exit->Act->World->Prop,(∀ (o:Kq) (bS:Exit) (a':Act) (κ':KS),(k o).leads r->κ'.st=o.st->Inv κ'->Ext κ κ'->Rel κ' n o.fr.get a'->xX o.kn o.fr.get->Kept code a a'->(o.q=true->o.st=κ.st)->Va κ' o.ex bS->Q bS a' κ'.w) ->
   code.wp P Q a κ.w:=by
 intro code
 induction code with
 | skip=>intro _ fr kn κ a α k r h hI hR hk Q hQ; exact wp_skip (hQ _ _ a κ h rfl hI (Ext.refl κ) hR hk (λ_ _=>rfl) (λ_=>rfl) rfl)
 | exit id=>intro _ fr kn κ a α k r h hI hR hk Q hQ; exact wp_exit (hQ _ _ a κ h rfl hI (Ext.refl κ) hR hk (λ_ _=>rfl) (λ_=>rfl) rfl)
 | ret=>intro _ fr kn κ a α k r h hI hR hk Q hQ; exact wp_ret (hQ _ _ a κ h rfl hI (Ext.refl κ) hR hk (λ_ _=>rfl) (λ_=>rfl) rfl)
 | region id ops draw =>
  intro _ fr kn κ a α k r h hI hR hk Q hQ
  simp only[mB]at h
  obtain⟨z,h0,h⟩:=T.z6.1 h
  obtain⟨κ0,w1,w2,w3,w4,w5⟩:=CL _ h0 hI hR
  have WY:=FV _ h0 hk
  rcases Q0 WY h with⟨s,h1,h2⟩ | ⟨d,zg,rfl,h1,h2⟩
  rotate_left
  ·rw[<- w2]at h1
   rw[<- w1]
   exact HX (WC hT) w3 w5 WY h1 λv a' κ' e1 e2 e3 e4 e5 e6=>hQ ⟨.wN d,[],[],zg,false⟩ _ a' κ' h2 e1 e2 (w4.trans e3) e4 (yk _) (λt ht=>e5 t λo ho he=>ht (mE ho he)) (λhq=>by cases hq) ⟨v,rfl,e6⟩
  rw[<- w2]at h1
  have WK:=Bb WY h1
  rw[<- w1]
  refine(Bs hm (WC hT) w3 w5 WY h1 λa' κ' e1 e2 e3 e4 e5=>hQ ⟨.normal,s.fr,s.kn,s.st,quiet s.ks&&(H.Ig id).isEmpty⟩ _ a' κ' h2 e1 e2 (w4.trans e3) e4 WK (λt ht=>e5 t λo ho he=>ht (mE ho he)) (λhq => ?_) rfl).1
  simp only[Bool.and_eq_true]at hq
  have he:H.Ig id=[]:=List.isEmpty_iff.1 hq.2
  rw[he]at h0
  cases h0
  exact(WJ h1 hq.1).trans w2
 | seq x y ix iy =>
  intro hl fr kn κ a α k r h hI hR hk Q hQ
  have Px:wE P n H x:=λp hp=>hl p (by simp only[qo,List.mem_append]; exact .inl hp)
  have Tu:wE P n H y:=λp hp=>hl p (by simp only[qo,List.mem_append]; exact .inr hp)
  have kx:∀ {a a':Act},Kept x a a'->Kept (.seq x y) a a':=λh s hs=>h s λe=>hs (by simp only[zQ,List.mem_append]; exact .inl e)
  have ky:∀ {a a':Act},Kept y a a'->Kept (.seq x y) a a':=λh s hs=>h s λe=>hs (by simp only[zQ,List.mem_append]; exact .inr e)
  simp only[mB]at h
  split at h
  ·refine wp_seq (ix Px h hI hR hk _ λo bS a' κ' e0 e1 e2 e3 e4 BV e5 e5q e6 => ?_)
   cases hex:o.ex<;>rw[hex]at e0 e6<;>simp only at e0
   ·cases e6
    refine iy Tu (κ:=κ') (e1▸e0) e2 e4 BV Q λo' Wo Lw BD f0 f1 f2 f3 f4 QD f5 UM f6=>hQ { o' with q:=o.q&&o'.q } Wo Lw BD f0 f1 f2 (e3.trans f3) f4 QD (λs hs=>(ky f5 s hs).trans (kx e5 s hs)) ?_ f6
    grind
   ·cases e6; exact hQ o _ a' κ' e0 e1 e2 e3 e4 BV (kx e5) e5q (by rw[hex]; rfl)
   ·cases e6; exact hQ o _ a' κ' e0 e1 e2 e3 e4 BV (kx e5) e5q (by rw[hex]; rfl)
   ·obtain⟨v,rfl,hv⟩:=e6
    exact hQ o _ a' κ' e0 e1 e2 e3 e4 BV (kx e5) e5q (by rw[hex]; exact⟨v,rfl,hv⟩)
  ·rename_i k7 hcu
   cases hw:Qj k7 with
   | false=>rw[hw]at h; exact h.elim
   | true =>
    rw[hw,cond_true]at h
    obtain⟨z,h1,h2⟩:=T.z6.1 h
    have h1:=UF h1
    refine wp_seq (ix Px h1 hI hR hk _ λo bS a' κ' e0 e1 e2 e3 e4 BV e5 e5q e6 => ?_)
    cases hex:o.ex<;>rw[hex]at e0 e6<;>simp only at e0
    ·cases e6
     cases hq:o.q with
     | false=>rw[hq]at e0; exact e0.elim
     | true =>
      rw[hq,cond_true]at e0
      have qQ:o.st=κ.st:=e5q hq
      have hRz:Rel κ' n (yF κ.st k7 z).get a':=by
       refine⟨e4.size,e4.defers,λt d hd => ?_⟩
       obtain⟨k',y',d0,g0,g1,g2,g3⟩:=(n8 (p:=λ_=>true) (zg:=κ.st) k7 [] z (λ_ _=>rfl) e0).2 _ (get_mem hd)
       cases g3
       obtain⟨v,q1,q2⟩:=e4.get _ _ g1
       have ZG:=List.all_eq_true.1 hw _ g0
       have ZG:s9 k'=true:=ZG
       have hwk:Wk κ' κ':=⟨rfl,rfl,rfl,rfl,λb d h=>⟨d,h⟩,λb v e xs h=>.inl h,λb v e xs h=>h,λb h=>h⟩
       have qI:Vf [] k'=true:=by cases k'<;>first | rfl | cases ZG
       rw[<- e1]at g2
       have:=WO hwk (bs:=[]) qI (λ_ _=>rfl) (zg:=κ'.st) (λ_ _=>rfl) (λ_ h=>by simp[rowAt]at h) g2 q2
       grind
      have Qg:=iR hR e3 hRz e5
      refine iy Tu (κ:=κ') (by rw[e1,qQ]; exact h2) e2 Qg (yk _) Q λo' Wo Lw BD f0 f1 f2 f3 f4 QD f5 UM f6=>hQ o' Wo Lw BD f0 f1 f2 (e3.trans f3) f4 QD (λs hs=>(ky f5 s hs).trans (kx e5 s hs)) (λhq=>(UM hq).trans (e1.trans qQ)) f6
    ·exact e0.elim
    ·exact e0.elim
    ·exact e0.elim
  ·rename_i hcu
   cases I6:opsOf x with
   | none=>rw[I6]at h; exact h.elim
   | some ops =>
    rw[I6]at h
    simp only at h
    cases hp:W7 (wG P xid tab ro) n ops fr with
    | none=>rw[hp]at h; exact h.elim
    | some p =>
     rw[hp]at h
     obtain⟨Zn,z2J⟩:=h
     obtain⟨id,rfl⟩:∃ id,x=.region id ops false:=by
      cases x with
      | region id ops' draw =>
       cases draw with
       | true=>cases I6
       | false=>cases I6; exact⟨id,rfl⟩
      | _=>cases I6
     refine wp_seq (JQ hp hI hR hk _ ?_)
     intro a' SL z47
     rcases z47 with⟨hl,Qg⟩ | Qg
     ·refine iy Tu (κ:=κ) (Zn hl _ z2J) hI Qg (λt b hb => ?_) Q λo' Wo Lw BD f0 f1 f2 f3 f4 QD f5 UM f6=>hQ o' Wo Lw BD f0 f1 f2 f3 f4 QD (λs hs=>(ky f5 s hs).trans (kx SL s hs)) UM f6
      simp only[Kn.get]at hb
      simp only[Fr.get]
      grind
     ·refine iy Tu (κ:=κ) z2J hI Qg (λt b hb => ?_) Q λo' Wo Lw BD f0 f1 f2 f3 f4 QD f5 UM f6=>hQ o' Wo Lw BD f0 f1 f2 f3 f4 QD (λs hs=>(ky f5 s hs).trans (kx SL s hs)) UM f6
      simp only[Kn.get]at hb
      simp only[Fr.get]
      cases ht:Nat.beq p.c t with
      | true=>rw[ht,cond_true]at hb; rw[cond_true]; cases hb; rfl
      | false=>rw[ht,cond_false]at hb; cases hb
  ·rename_i ws hcu
   cases hw:ws.all λw=>Nat.ble κ.st.length w.sh.bs.length with
   | false=>rw[hw]at h; exact h.elim
   | true =>
    rw[hw,cond_true]at h
    obtain⟨rr,Xq,h2⟩:=T.z6.1 h
    refine wp_seq (ix Px Xq hI hR hk _ λo bS a' κ' e0 e1 e2 e3 e4 BV e5 _ e6 => ?_)
    obtain⟨w,g1,z,g2,g3,g4⟩:=Wc _ _ _ _ _ e0
    have hwl:=List.all_eq_true.1 hw w g1
    obtain⟨κ1,q1,q2,q3,q4,q5⟩:=Dy (n:=n) e3 e2 e4 e6 g3 (Nat.le_of_ble_eq_true hwl) (by rw[e1]; exact g4)
    rw[g2]at h2
    split at h2
    ·exact h2.elim
    rename_i zz Tp
    obtain⟨q5,Ev⟩:=q5 zz Tp
    have Qg:=iR hR q4 q5 e5
    rw[<- q1]
    cases hex:zz.1<;>rw[hex]at h2 Ev<;>simp only at h2
    ·cases Ev
     exact iy Tu (κ:=κ1) (by rw[q2]; exact h2) q3 Qg (yk _) Q λo' Wo Lw BD f0 f1 f2 f3 f4 QD f5 _ f6=>hQ { o' with q:=false } Wo Lw BD f0 f1 f2 (q4.trans f3) f4 QD (λs hs=>(ky f5 s hs).trans (kx e5 s hs)) (λhq=>by cases hq) f6
    ·cases Ev; exact hQ _ _ a' κ1 h2 q2 q3 q4 Qg (yk _) (kx e5) (λhq=>by cases hq) rfl
    ·cases Ev; exact hQ _ _ a' κ1 h2 q2 q3 q4 Qg (yk _) (kx e5) (λhq=>by cases hq) rfl
    ·obtain⟨v,rfl,hv⟩:=Ev
     exact hQ _ _ a' κ1 h2 q2 q3 q4 Qg (yk _) (kx e5) (λhq=>by cases hq) ⟨v,rfl,hv⟩
 | cond x p q ip iq =>
  intro hl fr kn κ a α k r h hI hR hk Q hQ
  have hlp:wE P n H p:=λz hz=>hl z (by simp only[qo,List.mem_append]; exact .inl hz)
  have Br:wE P n H q:=λz hz=>hl z (by simp only[qo,List.mem_append]; exact .inr hz)
  have kp:∀ {a a':Act},Kept p a a'->Kept (.cond x p q) a a':=λh s hs=>h s λe=>hs (by simp only[zQ,List.mem_append]; exact .inl e)
  have kq:∀ {a a':Act},Kept q a a'->Kept (.cond x p q) a a':=λh s hs=>h s λe=>hs (by simp only[zQ,List.mem_append]; exact .inr e)
  have hQp:=λ(o:Kq) (bS:Exit) (a':Act) (κ':KS) f0 f1 f2 f3 f4 QD (f5:Kept p a a') UM f6=>hQ o bS a' κ' f0 f1 f2 f3 f4 QD (kp f5) UM f6
  have hQq:=λ(o:Kq) (bS:Exit) (a':Act) (κ':KS) f0 f1 f2 f3 f4 QD (f5:Kept q a a') UM f6=>hQ o bS a' κ' f0 f1 f2 f3 f4 QD (kq f5) UM f6
  simp only[mB]at h
  split at h
  ·rename_i hx
   have hv:zN fr.get x=some (.zj .bool true):=y7 hk hx
   exact wp_cond_true (hR.eval hv).um (ip hlp h hI hR hk Q hQp)
  ·rename_i hx
   have hv:zN fr.get x=some (.zj .bool false):=y7 hk hx
   exact wp_cond_false (hR.eval hv).um (iq Br h hI hR hk Q hQq)
  ·split at h
   ·split at h
    ·rename_i v hv
     have he:=hv
     rw[show ∀ t,fr.get t=zN fr.get (.tmp t)from λ_=>rfl]at he
     rcases h with⟨rfl,h⟩ | ⟨rfl,h⟩
     ·exact wp_cond_true (hR.eval he).um (ip hlp h hI hR (iQ hk hv) Q hQp)
     ·exact wp_cond_false (hR.eval he).um (iq Br h hI hR (iQ hk hv) Q hQq)
    ·exact h.elim
   ·exact h.elim
 | block id b ib =>
  intro hl fr kn κ a α k r h hI hR hk Q hQ
  by_cases hb:∃ b',b=.loop b'
  ·obtain⟨b,rfl⟩:=hb
   simp only[mB]at h
   split at h
   ·exact h.elim
   ·rename_i l hll
    cases hc:Nat.ble (gh l.gh fr κ.st).2.length l.sh.bs.length&&K2 l.ps (zQ b)&&l.ws.all λw=>Nat.ble l.sh.bs.length w.sh.bs.length with
    | false=>rw[hc]at h; exact h.elim
    | true =>
     rw[hc,cond_true]at h
     simp only[Bool.and_eq_true,List.all_eq_true]at hc
     obtain⟨⟨Hw,Ey⟩,hc3⟩:=hc
     obtain⟨p,h1,h⟩:=T.z6.1 h
     obtain⟨s,h2,h⟩:=T.z6.1 h
     obtain⟨rr,h3,h4⟩:=T.z6.1 h
     obtain⟨κ1,w1,w2,w3,w4,w5⟩:=bK l.gh fr κ hI hR
     rw[<- w2]at h1 h2 Hw
     obtain⟨κ2,q1,q2,q3,q4,q5,_⟩:=l.sh.r9 (n:=n) (Ext.refl κ1) w3 w5 (Nat.le_of_ble_eq_true Hw) h2
     -- the loop's parameters
     have hps:Rel κ2 n (yF (l.sh.st s) l.ps p).get a:=by
      refine⟨w5.size,w5.defers,λt d hd => ?_⟩
      obtain⟨k',y,d0,g0,g1,g2,g3⟩:=(n8 (p:=λ_=>true) (zg:=l.sh.st s) l.ps [] p (λ_ _=>rfl) h1).2 _ (get_mem hd)
      cases g3
      obtain⟨v,e1,e2⟩:=w5.get _ _ g1
      have ZG:=List.all_eq_true.1 Ey _ g0
      simp only[Bool.and_eq_true]at ZG
      have hwk:Wk κ1 κ1:=⟨rfl,rfl,rfl,rfl,λb d h=>⟨d,h⟩,λb v e xs h=>.inl h,λb v e xs h=>h,λb h=>h⟩
      have qI:Vf [] k'=true:=by cases k'<;>first | rfl | cases ZG.1
      have:=WO hwk (bs:=[]) qI (λ_ _=>rfl) (zg:=κ1.st) (λ_ _=>rfl) (λ_ h=>by simp[rowAt]at h) g2 e2
      have he:eH κ1.st k' y=eH (l.sh.st s) k' y:=by cases k'<;>first | rfl | cases ZG.1
      rw[he]at this
      exact⟨v,e1,this.mono q4⟩
     have N5:Ext κ κ2:=w4.trans q4
     have ru:κ2.w=κ.w:=q1.trans w1
     rw[<- ru]
     refine wp_block (hl (id,b) (by simp[qo]) l hll κ2 a p s rr h3 q2 q3 q5 hps Ey (λw hw=>Nat.le_of_ble_eq_true (hc3 w hw)) _ λw x bS a' κ' f1 f2 f3 f4 f5 f6 f7 => ?_)
     rw[f2]at h4
     split at h4
     ·exact h4.elim
     rename_i zz Tp
     obtain⟨f6,f8⟩:=f6 zz Tp
     have Mt:Rel κ' n (zz.2++(yZ (zQ b)++(gh l.gh fr κ.st).1)).get a':=iR w5 (q4.trans f5) f6 f7
     have I4:Kept (.block id (.loop b)) a a':=f7
     cases hwx:zz.1<;>rw[hwx]at h4 f8<;>simp only at h4
     ·exact h4.elim
     ·rename_i id'
      cases f8
      simp only[Exit.inBlock]
      cases ZH:Nat.beq id' id with
      | true =>
       rw[ZH,cond_true]at h4
       have:=Nat.eq_of_beq_eq_true ZH
       subst this
       rw[if_pos rfl]
       exact hQ _ _ a' κ' h4 f3 f4 (N5.trans f5) Mt (yk _) I4 (λhq=>by cases hq) rfl
      | false =>
       rw[ZH,cond_false]at h4
       rw[if_neg (λe=>by subst e; simp at ZH)]
       exact hQ _ _ a' κ' h4 f3 f4 (N5.trans f5) Mt (yk _) I4 (λhq=>by cases hq) rfl
     ·cases f8
      exact hQ _ _ a' κ' h4 f3 f4 (N5.trans f5) Mt (yk _) I4 (λhq=>by cases hq) rfl
     ·obtain⟨v,rfl,hv⟩:=f8
      exact hQ _ _ a' κ' h4 f3 f4 (N5.trans f5) Mt (yk _) I4 (λhq=>by cases hq) ⟨v,rfl,hv⟩
  ·have ZH:∀ b',b≠.loop b':=λb' e=>hb ⟨b',e⟩
   rw[HK ZH]at h
   refine wp_block (ib (λz hz=>hl z (by rw[VQ ZH]; exact hz)) h hI hR hk _ λo bS a' κ' f0 f1 f2 f3 f4 QD f5 UM f6 => ?_)
   have I4:Kept (.block id b) a a':=f5
   cases hox:o.ex<;>rw[hox]at f0 f6<;>simp only at f0
   ·cases f6; exact hQ o _ a' κ' f0 f1 f2 f3 f4 QD I4 UM (by rw[hox]; rfl)
   ·rename_i id'
    cases f6
    simp only[Exit.inBlock]
    cases hbq:Nat.beq id' id with
    | true =>
     rw[hbq,cond_true]at f0
     have:=Nat.eq_of_beq_eq_true hbq
     subst this
     rw[if_pos rfl]
     exact hQ _ _ a' κ' f0 f1 f2 f3 f4 QD I4 UM rfl
    | false =>
     rw[hbq,cond_false]at f0
     rw[if_neg (λe=>by subst e; simp at hbq)]
     exact hQ o _ a' κ' f0 f1 f2 f3 f4 QD I4 UM (by rw[hox]; rfl)
   ·cases f6; exact hQ o _ a' κ' f0 f1 f2 f3 f4 QD I4 UM (by rw[hox]; rfl)
   ·obtain⟨v,rfl,hv⟩:=f6
    exact hQ o _ a' κ' f0 f1 f2 f3 f4 QD I4 UM (by rw[hox]; exact⟨v,rfl,hv⟩)
 | _=>intro _ fr kn κ a α k r h; simp only[mB]at h; exact h.elim
end
end Go.AM
namespace Go.AM
set_option linter.unusedSectionVars false
variable [we]
open Go.RowKit
section
variable [X0]
variable {P:Program} {xid:Nat} {tab:ya} {ro:Nat->Bool} {n:Nat} {H:Hints}
theorem Yg{b:Code}{st zg:St}:∀ (k7:List It) (z:xk k7),K2 k7 (zQ b)=true->yF st k7 z=yF zg k7 z/\∀ q∈yF st k7 z,q.1 ∉ zQ b:=by
 intro k7
 induction k7 with
 | nil=>intro z _; exact⟨rfl,λq hq=>by cases hq⟩
 | cons i r ih =>
  intro z h
  have hi:∀ y:i.den,ZV st i y=ZV zg i y/\∀ q∈ZV st i y,q.1 ∉ zQ b:=by
   intro y
   simp only[K2,List.all_cons,Bool.and_eq_true]at h
   cases i with
   | s t k =>
    obtain⟨h1,_⟩:=h
    simp at h1
    refine⟨by cases k<;>first | rfl | (simp[s9]at h1),λq hq => ?_⟩
    simp only[ZV,List.mem_singleton]at hq
    subst hq
    intro hm
    have:=h1.2
    simp only[O9,Bool.not_eq_true',List.any_eq_false]at this
    exact this t hm (by simp)
   | _=>grind
  cases r with
  | nil =>
   have e1:=so st i z
   have e2:=so zg i z
   grind
  | cons j r =>
   have e1:=oq st i j r z
   have e2:=oq zg i j r z
   have hr:K2 (j::r) (zQ b)=true:=by
    unfold K2 at h ⊢
    grind
   grind
theorem L3(hm:(wG P xid tab ro).P.follows .mixedOrders=true)(hT:jj P tab){l:zi}{b:Code}(hL:wE P n H b)(R:xk l.ps->l.sh.den->T (l.sh.den⊕kI l.ws))
  (round:∀ p s,D6 (wG P xid tab ro) tab n H l b p s=R p s) (hF:∀ p s,l.F p s=T.loop (R p) s):nt P n l b:=by
 intro κ a p s r hr qQ hI hR hRp hps hws Q hQ
 rw[hF,T.dI]at hr
 obtain⟨m,PM⟩:=hr
 have z7R:=λ(st zg:St)=>(Yg (b:=b) (st:=st) (zg:=zg) l.ps p hps).1
 have Rk:∀ (st:St) (t:Nat) (d:D),(yF st l.ps p).get t=some d->t ∉ zQ b:=λst t d hd=>(Yg (b:=b) (st:=st) (zg:=st) l.ps p hps).2 _ (get_mem hd)
 refine wp_loop_ghost (λm a' w'=>∃ s',T.Iter (R p) m s' r/\∃ κ':KS,κ'.w=w'/\κ'.st=l.sh.st s'/\Inv κ'/\Ext κ κ'/\Rel κ' n (l.sh.fr s').get a'/\Rel κ' n (yF (l.sh.st s) l.ps p).get a'/\Kept b a a') m
  ⟨s,PM,κ,rfl,qQ,hI,Ext.refl κ,hR,hRp,λ_ _=>rfl⟩ ?_
 rintro m a1 w1 ⟨s1,hit,κ1,rfl,g4,g5,g6,g7a,g7b,g8⟩
 have g7:Rel κ1 n (l.sh.fr s1++yF (l.sh.st s1) l.ps p).get a1:=⟨g7a.size,g7a.defers,λt d hd=>by
  rcases pD hd with hd | hd
  ·exact g7a.get t d hd
  ·rw[z7R _ (l.sh.st s)]at hd; exact g7b.get t d hd⟩
 cases hit with
 | done h1 =>
  rw[<- round]at h1
  refine fR hm hT b hL (κ:=κ1) (by rw[g4]; exact h1) g5 g7 (yk _) _ λo bS a' κ' e0 e1 e2 e3 e4 BV e5 _ e6 => ?_
  have fin:∀ exo,Va κ' exo bS->(Wx l.ws exo (ZK exo o.fr) o.st).leads r->Q bS a' κ'.w:=λexo e6 e0=>by
   obtain⟨w,k1,x,k2,k3,k4⟩:=Wc _ _ _ _ _ e0
   have hlen:κ1.st.length<=w.sh.bs.length:=by rw[g4]; exact Nat.le_trans (qz.fQ _ _) (hws w k1)
   obtain⟨κ2,q1,q2,q3,q4,q5⟩:=Dy (n:=n) e3 e2 e4 e6 k3 hlen (by rw[e1]; exact k4)
   have:=hQ w x bS a' κ2 k1 k2 q2 q3 (g6.trans q4) q5 (λt ht=>(e5 t ht).trans (g8 t ht))
   grind
  have Y1:∀ {z:l.sh.den⊕kI l.ws},((Wx l.ws o.ex (ZK o.ex o.fr) o.st).bind λr=>T.ret (Sum.inr r:l.sh.den⊕kI l.ws)).leads z->z=Sum.inr r->(Wx l.ws o.ex (ZK o.ex o.fr) o.st).leads r:=by
   intro z h hz
   obtain⟨y,h1,h2⟩:=T.z6.1 h
   have h2:(Sum.inr y:l.sh.den⊕kI l.ws)=z:=h2
   grind
  cases hox:o.ex<;>rw[hox]at e0 e6 Y1<;>simp only at e0
  ·obtain⟨y,_,h2⟩:=T.z6.1 e0
   have h2:(Sum.inl y:l.sh.den⊕kI l.ws)=Sum.inr r:=h2
   cases h2
  ·have q:=fin _ e6 (Y1 e0 rfl); cases e6; exact q
  ·have q:=fin _ e6 (Y1 e0 rfl); cases e6; exact q
  ·have q:=fin _ e6 (Y1 e0 rfl); obtain⟨v,rfl,hv⟩:=e6; exact q
 | step h1 hit =>
  rename_i m s2
  rw[<- round]at h1
  refine fR hm hT b hL (κ:=κ1) (by rw[g4]; exact h1) g5 g7 (yk _) _ λo bS a' κ' e0 e1 e2 e3 e4 BV e5 _ e6 => ?_
  have YX:((Wx l.ws o.ex (ZK o.ex o.fr) o.st).bind λr=>T.ret (Sum.inr r:l.sh.den⊕kI l.ws)).leads (Sum.inl s2)->False:=by
   intro h
   obtain⟨y,h1,h2⟩:=T.z6.1 h
   have h2:(Sum.inr y:l.sh.den⊕kI l.ws)=Sum.inl s2:=h2
   cases h2
  cases hox:o.ex<;>rw[hox]at e0 e6 YX<;>simp only at e0
  ·cases e6
   obtain⟨y,h1,h2⟩:=T.z6.1 e0
   have h2:(Sum.inl y:l.sh.den⊕kI l.ws)=Sum.inl s2:=h2
   cases h2
   have hlen:κ1.st.length<=l.sh.bs.length:=by rw[g4]; exact qz.fQ _ _
   obtain⟨κ2,q1,q2,q3,q4,q5,_⟩:=l.sh.r9 (n:=n) e3 e2 e4 hlen (by rw[e1]; exact h1)
   refine⟨m,Nat.lt_succ_self _,s2,hit,κ2,q1,q2,q3,g6.trans q4,q5,⟨q5.size,q5.defers,λt d hd => ?_⟩,λt ht=>(e5 t ht).trans (g8 t ht)⟩
   obtain⟨v,r1,r2⟩:=g7b.get t d hd
   exact⟨v,(e5 t (Rk _ t d hd)).trans r1,r2.mono q4⟩
  ·exact(YX e0).elim
  ·exact(YX e0).elim
  ·exact(YX e0).elim
end
section
variable {P:Program} {xid:Nat} {tab:ya} {ro:Nat->Bool} {n:Nat} {H:Hints}
theorem pq{κ:KS}(hI:Inv κ):∀ (rs:List Ty) (ds:List D) (x:UP rs) (vs:List Value),(Cw κ.st rs ds).leads x->zU κ ds vs->zU κ.all (ny rs x) vs/\∀ d∈ny rs x,oO d=true
 | [],[],x,vs,h,hd=>by rw[hd.zG]; exact⟨.nil,λd hd=>by cases hd⟩
 | [],_::_,x,vs,h,hd=>h.elim
 | [τ],[],x,vs,h,hd=>h.elim
 | [τ],[d],x,vs,h,hd=>by
  obtain⟨v,us,rfl,h1,h2⟩:=hd.cons_inv
  rw[h2.zG]
  refine⟨.cons (nv hI h1 h) .nil,λd hd => ?_⟩
  have hd:d∈[D.zj τ x]:=hd
  rw[List.mem_singleton]at hd
  subst hd; rfl
 | [τ],_::_::_,x,vs,h,hd=>h.elim
 | τ::σ::r,[],x,vs,h,hd=>h.elim
 | τ::σ::r,d::ds,x,vs,h,hd=>by
  obtain⟨y,h1,h2⟩:=T.z6.1 h
  obtain⟨z,h3,h4⟩:=T.z6.1 h2
  cases h4
  obtain⟨v,us,rfl,k1,k2⟩:=hd.cons_inv
  obtain⟨g1,g2⟩:=pq hI (σ::r) ds z us h3 k2
  refine⟨.cons (nv hI k1 h1) g1,λd hd => ?_⟩
  rcases List.mem_cons.1 hd with rfl | hd
  ·rfl
  ·grind
theorem z04(hm:(wG P xid tab ro).P.follows .mixedOrders=true)(hT:jj P tab){f:Nat}{fn:Func}{code:Code}(hf:P.funcs[f]? = some fn)(hb:fn.body=some code)
  (hn:(fn.name == "runtime.NumGoroutine")=false) (hL:wE P fn.ntmps H code) {d:Uq} (h:∀ x,FP (wG P xid tab ro) tab H fn code d x=d.F x):ze P f d:=by
 intro κ x zp y qQ hy hI ha
 rw[<- h]at hy
 unfold FP at hy
 cases hle:Nat.ble (o5 d.ps x).length fn.ntmps with
 | false=>rw[hle]at hy; exact hy.elim
 | true =>
  rw[hle,cond_true]at hy
  have Q3:=Nat.le_of_ble_eq_true hle
  refine .inl ⟨xy hf hn (by grind) κ.w,calls_of_wp hf hb ?_⟩
  have hR:=rV ha Q3
  refine fR hm hT code hL (κ:=κ) (by rw[qQ]; exact hy) hI hR (yk _) _ λo bS a' κe e0 e1 e2 e3 e4 _ _ _ e6 => ?_
  have fin:(bS=.normal\/bS=.ret)->((yp (wG P xid tab ro) o.fr o.st fn.results.toList).bind λds=>Cw o.st d.rs ds).leads y ->
    bodyPost P fn (λe w'=>∃ κ':KS,κ'.w=w'/\κ'.st=[]/\Inv κ'/\Ext κ κ'/\qL κ' (.ret (ny d.rs y)) e) bS a' κe.w:=by
   intro hex h2
   obtain⟨ds,g1,g2⟩:=T.z6.1 h2
   rw[<- e1]at g1 g2
   obtain⟨vs,k1,k2⟩:=nk e2 e4 g1
   obtain⟨q1,q2⟩:=HO hI qQ e2 e3
   obtain⟨hl,hdat⟩:=pq e2 d.rs ds y vs g2 k2
   have Kz:zU (κe.bare (C0 κe)) (ny d.rs y) vs:=⟨hl.1,λi h1 h2=>dx (hdat _ (List.getElem_mem h1)) (hl.2 i h1 h2)⟩
   have rb:a'.defers=[]/\∃ v,(results fn a'.tmps).run P κe.w=.ok v κe.w/\∃ κ':KS,κ'.w=κe.w/\κ'.st=[]/\Inv κ'/\Ext κ κ'/\qL κ' (.ret (ny d.rs y)) (.returned v) :=
    ⟨e4.defers,_,k1,κe.bare (C0 κe),rfl,rfl,q1,q2,_,rfl,sG Kz⟩
   rcases hex with rfl | rfl
   ·exact rb
   ·exact rb
  cases hox:o.ex<;>rw[hox]at e0 e6<;>simp only at e0
  ·exact fin (.inl e6) e0
  ·exact e0.elim
  ·exact fin (.inr e6) e0
  ·exact e0.elim
theorem J6{d:Uq}{f:Nat}(b:(jT d.ps->T (UP d.rs))->jT d.ps->T (UP d.rs))(hF:∀ x,d.F x=T.fix b x)(h:∀ F:jT d.ps->T (UP d.rs),ze P f ⟨d.ps,d.rs,F⟩->ze P f ⟨d.ps,d.rs,b F⟩):ze P f d:=by
 have hN:∀ m,ze P f ⟨d.ps,d.rs,T.Wi b m⟩:=by
  intro m
  induction m with
  | zero=>nofun
  | succ m ih=>exact h _ ih
 intro κ x zp y qQ hy hI ha
 rw[hF,T.l5]at hy
 obtain⟨m,hm⟩:=hy
 exact hN m κ x zp y qQ (hm m (Nat.le_refl _)) hI ha
theorem Xs{fr:Fr}:∀ {n i:Nat} {ds:List D},Qc fr n i=some ds->ds.length=n/\∀ j d,ds[j]? = some d->fr.get (i+j)=some d
 | 0,i,ds,h=>by cases h; exact⟨rfl,λj d hj=>by grind⟩
 | n+1,i,ds,h=>by
  simp only[Qc]at h
  split at h
  ·rename_i d hd
   split at h
   ·rename_i r hr
    obtain⟨h1,h2⟩:=Xs hr
    grind
   ·cases h
  ·cases h
theorem E2{κ κe:KS}{ds:List D}{vs:List Value}(hκ:Inv κ)(hI:Inv κe)(hx:Ext κ κe)(h:zU κe ds vs) :
  ∃ κ1:KS,κ1.w=κe.w/\κ1.st=(canon κ.st.length ds κe.st).2/\Inv κ1/\Ext κ κ1/\zU κ1 (canon κ.st.length ds κe.st).1 vs:=by
 have R2:∃ κ1:KS,κ1.w=κe.w/\κ1.st=κe.st/\Inv κ1/\Ext κ κ1/\zU κ1 ds vs:=⟨κe,rfl,rfl,hI,hx,h⟩
 unfold canon
 generalize rG:L9 κ.st.length [] (HE κe.st ds)=nb
 simp only
 split
 ·rename_i l hl
  split
  ·rename_i uJ ds1 hr hd
   cases hn:vV (List.range κ.st.length++nb)with
   | false=>exact R2
   | true =>
    obtain⟨p1,hp⟩:=dA hI.len.symm hl
    obtain⟨g1,g2,g3,g4,g5⟩:=Wq hI hn hp hl hr
    have LJ:∀ b,b<κ.st.length->(List.range κ.st.length++nb)[b]? = some b:=λb hb=>by
     rw[List.getElem?_append_left (by simpa using hb)]; simp[hb]
    have BX:∀ b x,κ.st[b]? = some x->b<κ.st.length:=λb x h=>(List.getElem?_eq_some_iff.1 h).1
    refine⟨⟨κe.w,κe.ok,p1,uJ⟩,rfl,rfl,g1,⟨hx.os,hx.tape,hx.output,hx.size,hx.same,hx.fresh,λj blk n h => ?_,λb d h => ?_,λb v0 e xs h => ?_,λb h => ?_,?_,hx.frame⟩,g2.rds h hd⟩
    ·have hj:j<(List.range κ.st.length++nb).length:=by have:=(List.getElem?_eq_some_iff.1 h).1; simp only at this; omega
     have hb:=List.getElem?_eq_getElem hj
     generalize (List.range κ.st.length++nb)[j]=b at hb
     have h':=(g5 j b hb).1.symm.trans h
     rcases hx.Dg b blk n h' with h1 | h1
     ·have qc:b<κ.st.length:=Nat.lt_of_not_le λhle=>by
       have:=(List.getElem?_eq_some_iff.1 h1).1
       have:=hκ.len
       omega
      have:=Option.some.inj ((gA hn hb).symm.trans (gA hn (LJ b qc)))
      subst this
      exact .inl h1
     ·exact .inr h1
    ·obtain⟨⟨d',h1⟩,h2⟩:=hx.var b d h
     obtain⟨k1,x,y,k2,k3,k4⟩:=g5 b b (LJ b (BX b _ h))
     rw[h1]at k2; cases k2
     simp only[lY]at k3
     split at k3
     ·cases k3; exact⟨⟨_,k4⟩,k1.trans h2⟩
     ·cases k3
    ·obtain⟨k1,x,y,k2,k3,k4⟩:=g5 b b (LJ b (BX b _ h))
     rcases hx.arr b v0 e xs h with h1 | ⟨v1,x1,h1,h2,h3⟩
     ·rw[h1]at k2; cases k2; cases k3; exact .inl k4
     ·rw[h1]at k2; cases k2; cases k3; exact .inr ⟨v1,x1,k4,h2,λhe=>⟨k1.trans (h3 he).1,(h3 he).2⟩⟩
    ·obtain⟨k1,x,y,k2,k3,k4⟩:=g5 b b (LJ b (BX b _ h))
     rw[hx.dead b h]at k2; cases k2; cases k3; exact k4
    ·show κ.st.length<=uJ.length
     rw[g3]; simp
  ·exact R2
 ·exact R2
theorem PA{κ:KS}(hI:Inv κ)(e:Ty):RD (κ.w6 e) (.ms κ.st.length 0 e 0 0) (.slice none 0 0):=by
 have Q9:(κ.w6 e).st[κ.st.length]? = some (.arr 0 e []):=by simp[KS.w6]
 refine .ms κ.st.length 0 e 0 0 0 none (.inr ⟨0,e,[],Q9,Nat.le_refl _⟩) (Nat.le_refl _) (λ_=>rfl) nofun λxs Zo => ?_
 rw[Q9]at Zo
 cases Zo
 exact⟨Nat.le_refl _,.inl ⟨rfl,rfl,rfl,by simp[KS.w6,<- hI.len]⟩⟩
theorem mD{κ:KS}{d:D}{l:List D}{v:Value}{vs:List Value}(h:RD κ d v)(hr:zU κ l vs):zU κ (d::l) (v::vs) :=
 ⟨by simp[hr.1],λi h1 h2=>by cases i with | zero=>exact h | succ i=>exact hr.2 i (by simpa using h1) (by simpa using h2)⟩
theorem Jd:∀ (ks:List Sk) (l:List D) (κ:KS) (vs:List Value),Inv κ->zU κ l vs->∃ κ1:KS,κ1.w=κ.w/\κ1.st=(xp ks l κ.st).2/\Inv κ1/\Ext κ κ1/\zU κ1 (xp ks l κ.st).1 vs:=by
 intro ks
 induction ks with
 | nil=>intro l κ vs hI h; exact⟨κ,rfl,by unfold xp; rfl,hI,Ext.refl κ,by unfold xp; exact h⟩
 | cons k ks ih =>
  intro l κ vs hI h
  cases l with
  | nil=>exact⟨κ,rfl,by cases k<;>rfl,hI,Ext.refl κ,by cases k<;>exact h⟩
  | cons d l =>
   obtain⟨v,r,rfl,h0,h1⟩:=h.cons_inv
   have go:∃ κ1:KS,κ1.w=κ.w/\κ1.st=(xp ks l κ.st).2/\Inv κ1/\Ext κ κ1/\zU κ1 (d::(xp ks l κ.st).1) (v::r):=by
    obtain⟨κ1,q1,q2,q3,q4,q5⟩:=ih l κ r hI h1
    exact⟨κ1,q1,q2,q3,q4,mD (h0.mono q4) q5⟩
   cases k with
   | row b e =>
    cases d with
    | zW =>
     unfold xp
     cases he:Nat.blt 0 e.size with
     | false=>exact go
     | true =>
      cases h0
      obtain⟨κ1,q1,q2,q3,q4,q5⟩:=ih l (κ.w6 e) r (me hI (Nat.le_of_ble_eq_true he)) (h1.mono (gR hI e))
      exact⟨κ1,q1,q2,q3,(gR hI e).trans q4,mD ((PA hI e).mono q4) q5⟩
    | _=>exact go
   | _=>exact go
theorem Vt:∀ (ks:List Sk) (l:List D) (st:St),(∀ d∈l,d.one=true)->∀ d∈(xp ks l st).1,d.one=true:=by
 intro ks
 induction ks with
 | nil=>intro l st h; unfold xp; exact h
 | cons k ks ih =>
  intro l st h
  cases l with
  | nil=>cases k<;>exact h
  | cons d l =>
   have go:∀ zg,∀ x∈d::(xp ks l zg).1,x.one=true:=λzg x hx=>by
    rcases List.mem_cons.1 hx with rfl | hx
    ·exact h _ List.mem_cons_self
    ·exact ih l zg (λy hy=>h y (List.mem_cons_of_mem _ hy)) x hx
   cases k with
   | row b e =>
    cases d with
    | zW =>
     unfold xp
     cases Nat.blt 0 e.size with
     | false=>exact go st
     | true =>
      intro x hx
      rcases List.mem_cons.1 (show x∈D.ms st.length 0 e 0 0::(xp ks l (st++[.arr 0 e []])).1 from hx)with rfl | hx
      ·rfl
      ·exact ih l _ (λy hy=>h y (List.mem_cons_of_mem _ hy)) x hx
    | _=>exact go st
   | _=>exact go st
theorem BE(k7:List It):∀ (ds:List D) (i:Nat) (κ:KS) (vs:List Value),Inv κ->zU κ ds vs->∃ κ1:KS,κ1.w=κ.w/\κ1.st=(dO k7 i ds κ.st).2/\Inv κ1/\Ext κ κ1/\zU κ1 (dO k7 i ds κ.st).1 vs:=by
 intro ds
 induction ds with
 | nil=>intro i κ vs hI h; exact⟨κ,rfl,rfl,hI,Ext.refl κ,h⟩
 | cons d ds ih =>
  intro i κ vs hI h
  obtain⟨v,r,rfl,h0,h1⟩:=h.cons_inv
  have go:∃ κ1:KS,κ1.w=κ.w/\κ1.st=(dO k7 (i+1) ds κ.st).2/\Inv κ1/\Ext κ κ1/\zU κ1 (d::(dO k7 (i+1) ds κ.st).1) (v::r):=by
   obtain⟨κ1,q1,q2,q3,q4,q5⟩:=ih (i+1) κ r hI h1
   exact⟨κ1,q1,q2,q3,q4,mD (h0.mono q4) q5⟩
  cases d with
  | agg l =>
   cases h0 with
   | agg _ vs0 hl ho hr =>
    obtain⟨κ1,q1,q2,q3,q4,q5⟩:=Jd (HD k7 i) l κ vs0 hI ⟨hl,hr⟩
    obtain⟨κ2,p1,p2,p3,p4,p5⟩:=ih (i+1) κ1 r q3 (h1.mono q4)
    rw[q2]at p2 p5
    exact⟨κ2,p1.trans q1,p2,p3,q4.trans p4,mD ((RD.agg _ vs0 q5.1 (Vt _ _ _ ho) q5.2).mono p4) p5⟩
  | _=>exact go
theorem LQ{κ κe:KS}{ds:List D}{vs:List Value}(out:qz)(hκ:Inv κ)(hI:Inv κe)(hx:Ext κ κe)(h:zU κe ds vs) :
  ∃ κ1:KS,κ1.w=κe.w/\κ1.st=(WD out κ.st.length ds κe.st).2/\Inv κ1/\Ext κ κ1/\zU κ1 (WD out κ.st.length ds κe.st).1 vs:=by
 unfold WD
 cases(out.k7.all λ| .s _ (.st _)=>false | _=>true)&&(out.cs.all λ| (_,.ptr _ _)=>false | (_,.cur _ _)=>false | _=>true)with
 | true=>exact⟨κe,rfl,rfl,hI,hx,h⟩
 | false =>
  obtain⟨κ1,q1,q2,q3,q4,q5⟩:=E2 hκ hI hx h
  obtain⟨κ2,p1,p2,p3,p4,p5⟩:=BE out.k7 _ 0 κ1 vs q3 q5
  rw[q2]at p2 p5
  exact⟨κ2,p1.trans q1,p2,p3,q4.trans p4,p5⟩
theorem sL{κ κe:KS}{a':Act}{fn:Func}{o:Kq}{nr:Nat}{out:qz}{y:out.den}(hκ:Inv κ)(e1:κe.st=o.st)(e2:Inv κe)(e3:Ext κ κe)(e4:Rel κe fn.ntmps o.fr.get a')(hlen:κ.st.length<=out.bs.length)
  (h:((yp (wG P xid tab ro) o.fr o.st fn.results.toList).bind λds=>lE out κ.st.length nr ds o.st).leads y) :
  ∃ v,(results fn a'.tmps).run P κe.w=.ok v κe.w/\∃ (κ':KS) (ds:List D),κ'.w=κe.w/\κ'.st=out.st y/\Inv κ'/\Ext κ κ'/\gx nr (out.fr y)=some ds/\qL κ' (.ret ds) (.returned v):=by
 obtain⟨ds,g1,g2⟩:=T.z6.1 h
 unfold lE at g2
 cases hnr:Nat.beq ds.length nr with
 | false=>rw[hnr]at g2; exact g2.elim
 | true =>
  rw[hnr,cond_true]at g2
  obtain⟨y',g5,g3⟩:=T.z6.1 g2
  cases hsome:gx nr (out.fr y')with
  | none=>rw[hsome]at g3; exact g3.elim
  | some WI =>
   rw[hsome]at g3
   have hyy:y'=y:=g3
   subst hyy
   rw[<- e1]at g1 g5
   obtain⟨vs,k1,k2⟩:=nk e2 e4 g1
   obtain⟨κr,z1,z2,z3,z4,z5⟩:=LQ out hκ e2 e3 k2
   have hRr:Rel κr vs.length (xV (WD out κ.st.length ds κe.st).1 0).get { tmps:=vs.toArray,defers:=[] }:=by
    have:=rV (n:=vs.length) z5 (by rw[z5.1]; exact Nat.le_refl _)
    simpa[show(X0.df:List Deferred)=[]from rfl]using this
   obtain⟨κ0,w1,w2,w3,w4,w5⟩:=bK (Es out.cs) (xV (WD out κ.st.length ds κe.st).1 0) κr z3 hRr
   rw[z2]at w2 w5
   rw[<- w2]at g5
   obtain⟨κ2,q1,q2,q3,q4,q5,_⟩:=out.r9 (κ0:=κ) (z4.trans w4) w3 w5 hlen g5
   obtain⟨l1,l2⟩:=Xs hsome
   have Nx:zU κ2 WI vs:=by
    refine⟨by rw[l1,<- k2.1]; exact(Nat.eq_of_beq_eq_true hnr).symm,λi h1 h2 => ?_⟩
    have:=l2 i WI[i] (List.getElem?_eq_getElem h1)
    rw[Nat.zero_add]at this
    obtain⟨v,r1,r2⟩:=q5.get i _ this
    grind
   exact⟨_,k1,κ2,WI,q1.trans (w1.trans z1),q2,q3,q4,hsome,_,rfl,sG Nx⟩
theorem Pd(hm:(wG P xid tab ro).P.follows .mixedOrders=true)(hT:jj P tab){f:Nat}{fn:Func}{code:Code}(hf:P.funcs[f]? = some fn)(hb:fn.body=some code)
  (hn:(fn.name == "runtime.NumGoroutine")=false) (hL:wE P fn.ntmps H code) {d:wK} (h:∀ x,Jf (wG P xid tab ro) tab H fn code d x=d.F x):zE P f d:=by
 intro κ x zp y qQ hy hI hlen Dj
 rw[<- h]at hy
 unfold Jf at hy
 cases hle:Nat.ble d.ks.length fn.ntmps&&Nat.ble d.sh.bs.length d.out.bs.length with
 | false=>rw[hle]at hy; exact hy.elim
 | true =>
  rw[hle,cond_true]at hy
  simp only[Bool.and_eq_true]at hle
  have T4:=Nat.le_of_ble_eq_true hle.1
  have Cz:=Nat.le_of_ble_eq_true hle.2
  refine .inl ⟨xy hf hn (by rw[hb]; rfl) κ.w,calls_of_wp hf hb ?_⟩
  rw[<- qQ]at hy
  have hR:Rel κ fn.ntmps (d.sh.fr x).get { tmps:=zp.toArray++Array.replicate (fn.ntmps-zp.toArray.size) undef,defers:=[] }:=by
   refine⟨by simp; omega,rfl,λs e hs => ?_⟩
   obtain⟨v,h1,h2⟩:=Dj.get s e hs
   grind
  refine fR hm hT code hL (κ:=κ) hy hI hR (yk _) _ λo bS a' κe e0 e1 e2 e3 e4 _ _ _ e6 => ?_
  have fin:(bS=.normal\/bS=.ret)->((yp (wG P xid tab ro) o.fr o.st fn.results.toList).bind λds=>lE d.out κ.st.length d.nr ds o.st).leads y ->
    bodyPost P fn (λe w'=>∃ (κ':KS) (ds:List D),κ'.w=w'/\κ'.st=d.out.st y/\Inv κ'/\Ext κ κ'/\gx d.nr (d.out.fr y)=some ds/\qL κ' (.ret ds) e) bS a' κe.w:=by
   intro hex h2
   obtain⟨v,k1,k2⟩:=sL hI e1 e2 e3 e4 (by rw[qQ]; exact Nat.le_trans (qz.fQ _ _) Cz) h2
   rcases hex with rfl | rfl
   ·exact⟨e4.defers,v,k1,k2⟩
   ·exact⟨e4.defers,v,k1,k2⟩
  cases hox:o.ex<;>rw[hox]at e0 e6<;>simp only at e0
  ·exact fin (.inl e6) e0
  ·exact e0.elim
  ·exact fin (.inr e6) e0
  ·exact e0.elim
theorem WG{d:wK}{f:Nat}(b:(d.sh.den->T d.out.den)->d.sh.den->T d.out.den)(hF:∀ x,d.F x=T.fix b x)(h:∀ F:d.sh.den->T d.out.den,zE P f ⟨d.ks,d.sh,d.ur,d.out,d.nr,F⟩->zE P f ⟨d.ks,d.sh,d.ur,d.out,d.nr,b F⟩):zE P f d:=by
 have hN:∀ m,zE P f ⟨d.ks,d.sh,d.ur,d.out,d.nr,T.Wi b m⟩:=by
  intro m
  induction m with
  | zero=>nofun
  | succ m ih=>exact h _ ih
 intro κ x zp y qQ hy hI hl ha
 rw[hF,T.l5]at hy
 obtain⟨m,hm⟩:=hy
 exact hN m κ x zp y qQ (hm m (Nat.le_refl _)) hI hl ha
theorem PU{κ κe:KS}{wN:qz}{z:wN.den}{st:St}{t:Nat}{d:D}{u:Value}(e1:κe.st=st)(e2:Inv κe)(e3:Ext κ κe)(hlen:κ.st.length<=wN.bs.length)(hu:RD κe d u)
  (h:((wN.un [(0,some d)] st).bind λz=>match(wN.fr z).get 0 with | some _=>T.ret z | none=>.fail).leads z) :
  ∃ (κ':KS) (p:D),κ'.w=κe.w/\κ'.st=wN.st z/\Inv κ'/\Ext κ κ'/\(wN.fr z).get 0=some p/\qL κ' (.wN (.iface t p)) (.panicked [{ v:=.iface t u,recovered:=false }]):=by
 obtain⟨z',g1,g2⟩:=T.z6.1 h
 split at g2
 ·rename_i p hp
  have Tp:z'=z:=g2
  subst Tp
  have Qg:Rel κe 1 (Fr.get [(0,some d)]) { tmps := #[u],defers:=[] }:=by
   refine⟨rfl,rfl,λs d' hd => ?_⟩
   simp only[Fr.get]at hd
   cases hb:Nat.beq 0 s with
   | true =>
    have:=Nat.eq_of_beq_eq_true hb
    grind
   | false=>grind
  rw[<- e1]at g1
  obtain⟨κ2,q1,q2,q3,q4,q5,_⟩:=wN.r9 (κ0:=κ) e3 e2 Qg hlen g1
  obtain⟨v',r1,r2⟩:=q5.get 0 p hp
  cases r1
  exact⟨κ2,p,q1,q2,q3,q4,hp,_,rfl,.iface t p _ r2⟩
 ·exact g2.elim
theorem Rd(hm:(wG P xid tab ro).P.follows .mixedOrders=true)(hT:jj P tab){f:Nat}{fn:Func}{code:Code}(hf:P.funcs[f]? = some fn)(hb:fn.body=some code)
  (hn:(fn.name == "runtime.NumGoroutine")=false) (hL:wE P fn.ntmps H code) {d:kW} (h:∀ x,JT (wG P xid tab ro) tab H fn code d x=d.F x):xe P f d:=by
 intro κ x zp y qQ hy hI hlen Dj
 rw[<- h]at hy
 unfold JT at hy
 cases hle:Nat.ble d.ks.length fn.ntmps&&Nat.ble d.sh.bs.length d.out.bs.length&&Nat.ble d.sh.bs.length d.wN.bs.length with
 | false=>rw[hle]at hy; exact hy.elim
 | true =>
  rw[hle,cond_true]at hy
  simp only[Bool.and_eq_true]at hle
  have T4:=Nat.le_of_ble_eq_true hle.1.1
  have Cz:=Nat.le_of_ble_eq_true hle.1.2
  have z1a:=Nat.le_of_ble_eq_true hle.2
  refine .inl ⟨xy hf hn (by rw[hb]; rfl) κ.w,calls_of_wp hf hb ?_⟩
  rw[<- qQ]at hy
  have hR:Rel κ fn.ntmps (d.sh.fr x).get { tmps:=zp.toArray++Array.replicate (fn.ntmps-zp.toArray.size) undef,defers:=[] }:=by
   refine⟨by simp; omega,rfl,λs e hs => ?_⟩
   obtain⟨v,h1,h2⟩:=Dj.get s e hs
   grind
  refine fR hm hT code hL (κ:=κ) hy hI hR (yk _) _ λo bS a' κe e0 e1 e2 e3 e4 _ _ _ e6 => ?_
  have fin:(bS=.normal\/bS=.ret)->((yp (wG P xid tab ro) o.fr o.st fn.results.toList).bind λds=>Ir d κ.st.length ds o.st).leads y ->
    bodyPost P fn (λe w'=>∃ κ':KS,κ'.w=w'/\Inv κ'/\Ext κ κ'/\((∃ (y':d.out.den) (ds:List D),y=.inl y'/\κ'.st=d.out.st y'/\gx d.nr (d.out.fr y')=some ds/\qL κ' (.ret ds) e) \/
     (d.two=none/\∃ (z:d.wN.den) (p:D),y=.inr z/\κ'.st=d.wN.st z/\(d.wN.fr z).get 0=some p/\qL κ' (.wN (.iface d.pt p)) e) \/
     ∃ (n:Nat) (z:d.wN.den) (ds:List D),d.two=some n/\y=.inr z/\κ'.st=d.wN.st z/\gx n (d.wN.fr z)=some ds/\qL κ' (.ret ds) e)) bS a' κe.w:=by
   intro hex h2
   obtain⟨ds,g1,g2⟩:=T.z6.1 h2
   have one:((lE d.out κ.st.length d.nr ds o.st).bind λy=>T.ret (Sum.inl y:d.out.den⊕d.wN.den)).leads y ->
     ∃ v,(results fn a'.tmps).run P κe.w=.ok v κe.w/\∃ κ':KS,κ'.w=κe.w/\Inv κ'/\Ext κ κ'/\∃ (y':d.out.den) (ds:List D),y=.inl y'/\κ'.st=d.out.st y'/\gx d.nr (d.out.fr y')=some ds/\qL κ' (.ret ds) (.returned v):=λg=>by
    obtain⟨y',Ih,rfl⟩:=T.z6.1 g
    obtain⟨v,k1,κ',ds,q1,q2,q3,q4,q5,q6⟩:=sL hI e1 e2 e3 e4 (by rw[qQ]; exact Nat.le_trans (qz.fQ _ _) Cz) (T.z6.2 ⟨ds,g1,Ih⟩)
    exact⟨v,k1,κ',q1,q3,q4,y',ds,rfl,q2,q5,q6⟩
   have rb:a'.defers=[]/\∃ v,(results fn a'.tmps).run P κe.w=.ok v κe.w/\∃ κ':KS,κ'.w=κe.w/\Inv κ'/\Ext κ κ'/\((∃ (y':d.out.den) (ds:List D),y=.inl y'/\κ'.st=d.out.st y'/\gx d.nr (d.out.fr y')=some ds/\qL κ' (.ret ds) (.returned v)) \/
     (d.two=none/\∃ (z:d.wN.den) (p:D),y=.inr z/\κ'.st=d.wN.st z/\(d.wN.fr z).get 0=some p/\qL κ' (.wN (.iface d.pt p)) (.returned v)) \/
     ∃ (n:Nat) (z:d.wN.den) (ds:List D),d.two=some n/\y=.inr z/\κ'.st=d.wN.st z/\gx n (d.wN.fr z)=some ds/\qL κ' (.ret ds) (.returned v)):=by
    unfold Ir at g2
    split at g2
    ·rename_i n h0
     cases hh:O0 ds with
     | true =>
      rw[hh,cond_true]at g2
      obtain⟨z,hz,rfl⟩:=T.z6.1 g2
      obtain⟨v,k1,κ',ds,q1,q2,q3,q4,q5,q6⟩:=sL hI e1 e2 e3 e4 (by rw[qQ]; exact Nat.le_trans (qz.fQ _ _) z1a) (T.z6.2 ⟨ds,g1,hz⟩)
      exact⟨e4.defers,v,k1,κ',q1,q3,q4,.inr (.inr ⟨n,z,ds,h0,rfl,q2,q5,q6⟩)⟩
     | false =>
      rw[hh,cond_false]at g2
      obtain⟨v,k1,κ',q1,q2,q3,q4⟩:=one g2
      exact⟨e4.defers,v,k1,κ',q1,q2,q3,.inl q4⟩
    ·obtain⟨v,k1,κ',q1,q2,q3,q4⟩:=one g2
     exact⟨e4.defers,v,k1,κ',q1,q2,q3,.inl q4⟩
   rcases hex with rfl | rfl
   ·exact rb
   ·exact rb
  cases hox:o.ex<;>rw[hox]at e0 e6<;>simp only at e0
  ·exact fin (.inl e6) e0
  ·exact e0.elim
  ·exact fin (.inr e6) e0
  ·rename_i p
   cases p<;>simp only at e0<;>first | exact e0.elim | skip
   rename_i t v
   cases ht:Nat.beq t d.pt&&d.two.isNone with
   | false=>rw[ht]at e0; exact e0.elim
   | true =>
    rw[ht,cond_true]at e0
    rw[Bool.and_eq_true,Option.isNone_iff_eq_none]at ht
    have:=Nat.eq_of_beq_eq_true ht.1
    subst this
    obtain⟨u,rfl,hv⟩:=e6
    cases hv with
    | iface _ _ u hu =>
     have:∃ z,y=.inr z/\((d.wN.un [(0,some v)] o.st).bind λz=>match(d.wN.fr z).get 0 with | some _=>T.ret z | none=>.fail).leads z:=by
      obtain⟨z,g1,g2⟩:=T.z6.1 e0
      split at g2
      ·rename_i p hp
       have g2:Sum.inr z=y:=g2
       refine⟨z,g2.symm,T.z6.2 ⟨z,g1,?_⟩⟩
       rw[hp]; rfl
      ·exact g2.elim
     obtain⟨z,rfl,S6⟩:=this
     obtain⟨κ',p,q1,q2,q3,q4,q5,q6⟩:=PU (t:=d.pt) e1 e2 e3 (by rw[qQ]; exact Nat.le_trans (qz.fQ _ _) z1a) hu S6
     exact⟨e4.defers,κ',q1,q3,q4,.inr (.inl ⟨ht.2,z,p,rfl,q2,q5,q6⟩)⟩
theorem Y6{d:kW}{f:Nat}(b:(d.sh.den->T (d.out.den⊕d.wN.den))->d.sh.den->T (d.out.den⊕d.wN.den))(hF:∀ x,d.F x=T.fix b x)(h:∀ F:d.sh.den->T (d.out.den⊕d.wN.den),xe P f ⟨d.ks,d.sh,d.ur,d.out,d.nr,d.pt,d.wN,d.two,F⟩->xe P f ⟨d.ks,d.sh,d.ur,d.out,d.nr,d.pt,d.wN,d.two,b F⟩):xe P f d:=by
 have hN:∀ m,xe P f ⟨d.ks,d.sh,d.ur,d.out,d.nr,d.pt,d.wN,d.two,T.Wi b m⟩:=by
  intro m
  induction m with
  | zero=>nofun
  | succ m ih=>exact h _ ih
 intro κ x zp y qQ hy hI hl ha
 rw[hF,T.l5]at hy
 obtain⟨m,hm⟩:=hy
 exact hN m κ x zp y qQ (hm m (Nat.le_refl _)) hI hl ha
end
noncomputable def mf:Nat->Code->Option Code
 | k,.block id (.loop b)=>if k=id then some b else mf k b
 | k,.seq a b=>match mf k a with | some x=>some x | none=>mf k b
 | k,.cond _ a b=>match mf k a with | some x=>some x | none=>mf k b
 | k,.block _ a=>mf k a
 | _,_=>none
def Wv(P:Program)(n:Nat)(H:Hints):List (Nat×Code)->Prop
 | []=>True
 | p::r=>(∀ l,H.loop p.1=some l->nt P n l p.2)/\Wv P n H r
theorem z8{P:Program}{n:Nat}{H:Hints}:Wv P n H []:=trivial
theorem zl{P:Program}{n:Nat}{H:Hints}{id:Nat}{b:Code}{r:List (Nat×Code)}{l:zi}(hl:H.loop id=some l)(h:nt P n l b)(t:Wv P n H r):Wv P n H ((id,b)::r) :=
 ⟨λl' Kz=>(Option.some.inj (hl.symm.trans Kz))▸h,t⟩
theorem mZ{P:Program}{n:Nat}{H:Hints}{code:Code}{L:List (Nat×Code)}(h:qo code=L)(ha:Wv P n H L):wE P n H code:=by
 intro p hp
 rw[h]at hp
 clear h
 induction L with
 | nil=>cases hp
 | cons q r ih =>
  rcases List.mem_cons.1 hp with rfl | hp
  ·exact ha.1
  ·exact ih ha.2 hp
end Go.AM
namespace Go.AM
set_option linter.unusedSectionVars false
variable [we]
open Go.RowKit Go.ChangeShapes
def ER:(τs:List Ty)->ZQ τs->jT (τs.map .ty)
 | [],_=>()
 | [_],x=>x.1
 | _::σ::r,x=>(x.1,ER (σ::r) x.2)
theorem Qi:∀ (τs:List Ty) (x:ZQ τs),o5 (τs.map .ty) (ER τs x)=OX τs x
 | [],_=>rfl
 | [_],_=>rfl
 | τ::σ::r,x=>congrArg (D.zj τ x.1 :: ·) (Qi (σ::r) x.2)
section
variable {H:Type} {enc:TypeId×Value->H} {P:Program} {xid m n:Nat}
theorem PW{f:Nat}{fn:Func}(τs:List Ty){F:jT (τs.map .ty)->T (UP [.bool])}(hS:ze P f ⟨τs.map .ty,[.bool],F⟩)(hf:P.funcs[f]? = some fn)(hbd:fn.body.isNone=false) (RZ:(fn.name == "runtime.NumGoroutine")=false)
  (hl:laidOutB P=true) (xid m n:Nat) (hts:nO P fn.params.toList=true) (hτ:fn.params.toList.map (Qd P xid n)=τs.map some) (hx:JY P xid m=true)
  {bt:TypeId} (hr:fn.resultTypes = #[bt]) (TX:P.underlying bt=some .bool) {s:ChangeSpec} (hv:s.vars=[]) (hs:∀ ds:List (DataW H),ds.length=τs.length->s.fn H ds={ results:=[.lit (.bool true)],args:=ds })
  (B:HP H) {lim:Nat} (law:∀ x:ZQ τs,wfL τs x->RT τs x<=lim->(F (ER τs x)).run=some true)
  {fresh handsOn:Bool} {W:World} {base:Nat} {args:Array Value} {ds gs:List (DataW H)} {before:List MemPlace}
  (hval:∀ (j:Nat) t v,fn.params[j]? = some t->args[j]? = some v->Value.okWide P W .any base t v)
  (hW:DataW.Whole enc P fn.params.toList s.vars false W args.toList ds gs before) (hk:B.bs (ds++gs)<=lim) (hG:ml W λk=>k<W.heap.size) :
  Calls P f args W λe W'=>∃ v,e=.returned v/\s.post enc P fn false fresh handsOn false W args v W':=by
 refine HJ (Uq.snd hS) hf hbd RZ hl xid m n τs hts hτ hx hr TX hv hs B (λx hw hb => ?_) hval hW hk hG
 have h:=T.jV.1 (law x hw hb)
 rw[<- Qi τs x]
 exact T.z6.2 ⟨ER τs x,XH [] _ _,T.z6.2 ⟨true,h,rfl⟩⟩
end
end Go.AM