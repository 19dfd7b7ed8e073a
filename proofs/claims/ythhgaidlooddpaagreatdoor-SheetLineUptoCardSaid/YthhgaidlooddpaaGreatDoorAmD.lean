/-
  The abstract machine, part D: texts of our own, the same for each claim.
-/
import Derived.Test.YthhgaidlooddpaaGreatDoorAmA
import Derived.Lib.LaidTab
import Derived.Shelf.Vars
import Derived.Test.YthhgaidlooddpaaGreatDoorAmC
import Derived.OpenShut
import Derived.Test.YthhgaidlooddpaaGreatDoorAmB
import Derived.Lib.LazyBuf
set_option linter.unusedVariables false
namespace Go.AM
def Jj(k:IntKind)(zs:List Int)(o:Obj):Prop:=∃ t fr,o=.cells (zs.map λz=>Value.int k z).toArray t fr
def WN(k:IntKind)(o:Obj):Prop:=∃ m t fr,o=.cells #[.int k m] t fr
theorem Fl{P:Program}{w:World}{name:String}{k:IntKind}{zs:List Int}{g:Nat}(hg:P.globalNamed name=some g)(h:Lib.TabIs P w name k zs) :
  g<w.heap.size/\∃ o,w.heap[g]? = some o/\Jj k zs o:=by
 unfold Lib.TabIs World.var? at h
 rw[hg]at h
 simp at h
 split at h
 ·rename_i cs t fr ho
  cases h
  exact⟨(Array.getElem?_eq_some_iff.1 ho).1,_,ho,t,fr,rfl⟩
 ·cases h
theorem SD{P:Program}{w:World}{name:String}{k:IntKind}{zs:List Int}{g:Nat}(hg:P.globalNamed name=some g)(h:∃ o,w.heap[g]? = some o/\Jj k zs o):Lib.TabIs P w name k zs:=by
 obtain⟨o,ho,t,fr,rfl⟩:=h
 unfold Lib.TabIs World.var?
 grind
theorem Cl{w:World}{k:IntKind}{g:Nat}(h:∃ o,w.heap[g]? = some o/\WN k o):∃ m,w.cell? ⟨g,0,none⟩=some (.int k m):=by
 obtain⟨o,ho,m,t,fr,rfl⟩:=h
 exact⟨m,by simp[World.cell?,ho]⟩
theorem CT{P:Program}{w:World}{g:Nat}{t:TypeId}{zero:Array Value}{k:IntKind}
  (h:w.ShapedOpen P) (hg:g<P.globals.size)
  (h0:((begin P (λ_ _=>0) default).world.heap[g]?).bind Obj.row? = some (zero,t)) (hz:zero.size=1)
  (hb:P.buildable t=true) (hc:P.cellTypes P.depth t=some [t]) (hu:P.underlying t=some (.int k)):g<w.heap.size/\∃ o,w.heap[g]? = some o/\WN k o:=by
 obtain⟨m,hm⟩:=Go.Proofs.cell_of_shapedOpen_int h hg h0 hz hb hc hu
 obtain⟨cs,hh,hs,_⟩:=h.1 g zero t hg h0
 have hl:cs.size=1:=hs.trans hz
 refine⟨(Array.getElem?_eq_some_iff.1 hh).1,_,hh,m,t,(0,0),?_⟩
 have h1:w.cell? ⟨g,0,none⟩=some cs[0]:=by simp[World.cell?,hh]
 have:cs = #[.int k m]:=by
  grind
 rw[this]
theorem Cq{P:Program}{W:World}{name:String}{k:IntKind}{zs:List Int}{rest:List (String×DataW Unit)}{ps:List MemPlace}{g:Nat}{t e:TypeId}{n:Nat}
  (hg:P.globalNamed name=some g) (Gi:(P.globals[g]?).map (·.type)=some t) (ht:P.underlying t=some (.array n e)) (he:P.underlying e=some (.int k)) (hce:P.cellsOf e=1) (hct:P.cellsOf t=n)
  (h:DataW.LaidVars P W ((name,Lib.tabData k zs)::rest) ps):g<W.heap.size/\∃ o,W.heap[g]? = some o/\Jj k zs o:=by
 obtain⟨g',t',cs,fuel,p,q,PM,P3,z1C,hd,_,_⟩:=h
 refine Fl hg ?_
 obtain rfl:=Option.some.inj (hg.symm.trans PM)
 obtain rfl:=Option.some.inj (Gi.symm.trans P3)
 unfold Lib.TabIs
 rw[z1C,<- Lib.cells_of_tab ht he hce hct hd]
theorem QW{P:Program}{W:World}{x:String×DataW Unit}{rest:List (String×DataW Unit)}{ps:List MemPlace}(h:DataW.LaidVars P W (x::rest) ps):∃ q,DataW.LaidVars P W rest q:=by
 obtain⟨g',t',cs,fuel,p,q,PM,P3,z1C,hd,h1,_⟩:=h
 grind
end Go.AM
namespace Go.AM
open Go.RowKit
mutual
def bkE:Expr->Nat
 | .mk _ n s l=>1+((1+((List.length n.2.1+1)+((List.length n.2.2.1+1)+1)))+((List.length s+1)+((bkEs l+1)+1)))
def bkEs:List Expr->Nat
 | []=>0
 | e::r=>bkE e+bkEs r
end
def ZH{α:Type}(f:α->Nat):List α->Nat
 | []=>0
 | x::r=>f x+ZH f r
def bk:(τ:Ty)->den τ->Nat
 | .int _,_=>1
 | .bool,_=>1
 | .str,s=>List.length s+1
 | .sl e,l=>ZH (bk e) l+1
 | .nil,_=>1
 | .cons a b,x=>bk a x.1+bk b x.2
 | .expr,x=>bkE x
theorem DI{α:Type}(l:List α):ZH (λ_=>1) l=l.length:=by induction l with | nil=>rfl | cons x r ih=>simp[ZH]; omega
theorem ND(l:List Expr):bkEs l=ZH (bk .expr) l:=by induction l with | nil=>rfl | cons x r ih=>simp[bkEs,ZH,ih,bk]
theorem O9(x:Expr):bk pX x.DK=bk .expr x:=by
 cases x with | mk k n s l =>
 simp only[bk,Expr.DK,bkE,ND,Expr.num,Expr.name,Expr.kids,DI]
mutual
def wfE:Expr->Prop
 | .mk k n s l=>(IntKind.i64.min<=k/\k<=IntKind.i64.max)/\((True/\((∀ x∈n.2.1,IntKind.u32.min<=x/\x<=IntKind.u32.max)/\((∀ x∈n.2.2.1,IntKind.u32.min<=x/\x<=IntKind.u32.max)/\True)))/\(List.length s<=maxLen/\(wfEs l/\True)))
def wfEs:List Expr->Prop
 | []=>True
 | e::r=>wfE e/\wfEs r
end
def wf:(τ:Ty)->den τ->Prop
 | .int k,n=>k.min<=n/\n<=k.max
 | .bool,_=>True
 | .str,s=>List.length s<=maxLen
 | .sl e,l=>∀ x∈l,wf e x
 | .nil,_=>True
 | .cons a b,x=>wf a x.1/\wf b x.2
 | .expr,x=>wfE x
theorem LV(l:List Expr):wfEs l↔∀ x∈l,wf .expr x:=by induction l with | nil=>simp[wfEs] | cons x r ih=>simp[wfEs,ih,wf]
theorem Mo(x:Expr):wf pX x.DK↔wf .expr x:=by
 cases x with | mk k n s l=>simp only[wf,Expr.DK,wfE,LV,Expr.kind,Expr.num,Expr.name,Expr.kids]
structure BI(H:Type) where
 b:DataW H->Nat
 bs:List (DataW H)->Nat
 str:∀ s,b (.lit (.string s))=s.length+1
 bool:∀ x,b (.lit (.bool x))=1
 int:∀ k n,b (.lit (.int k n))=1
 nil:b .nil=1
 slice:∀ x y,b (.slice x y)=bs x+bs y+1
 agg:∀ x,b (.agg x)=bs x+1
 zero:bs []=0
 cons:∀ x r,bs (x::r)=b x+bs r
section
variable (P:Program) (xid:Nat)
def pW:Nat->List Field->Bool
 | _,[]=>true
 | o,f::r=>Nat.beq f.offset o&&pW (o+P.cellsOf f.type) r
def rj:Nat->List Field->Nat
 | o,[]=>o
 | o,f::r=>rj (o+P.cellsOf f.type) r
def W6:Nat->Nat->Option Ty
 | 0,_=>none
 | n+1,t=>bif Nat.beq t xid then some .expr else
  match P.underlying t with
  | some (.int k)=>some (.int k)
  | some .bool=>some .bool
  | some .string=>some .str
  | some (.slice e)=>match W6 n e with | some a=>bif Nat.beq (P.cellsOf e) a.size&&Nat.blt 0 a.size then some (.sl a)else none | none=>none
  | some (.struct fs)=>bif pW P 0 fs.toList&&Nat.beq (rj P 0 fs.toList) (P.cellsOf t)then gj (fs.toList.map λf=>W6 n f.type)else none
  | _=>none
def Y0(m:Nat):Bool:=match P.underlying xid with
 | some (.struct fs)=>pW P 0 fs.toList&&Nat.beq (rj P 0 fs.toList) (P.cellsOf xid)&&decide (gj (fs.toList.map λf=>W6 P xid m f.type)=some pX)
 | some _=>false
 | none=>true
end
section
variable {H:Type} {enc:TypeId×Value->H} {P:Program} {w:World} {xid m:Nat} (B:BI H)
def tL(w:World)(B:BI H)(τ:Ty)(cs:List Value)(k:Nat):Prop:=∃ x:den τ,Rc w (λk=>k<w.heap.size) τ x cs/\wf τ x/\bk τ x<=k
theorem r9{fuel:Nat}{cs:List Value}(ih:∀ n t τ cs d ps,W6 P xid n t=some τ->DataW.trod enc P w 0 (λ_=>true) true fuel t cs=some (d,ps)->tL w B τ cs (B.b d)){n:Nat} :
  ∀ (fs:List Field) (o:Nat) (τ:Ty) (xs:List (DataW H×List MemPlace)),gj (fs.map λf=>W6 P xid n f.type)=some τ->pW P o fs=true->rj P o fs=cs.length->xs.length=fs.length ->
   (∀ (i:Nat) (f:Field),fs[i]? = some f->DataW.trod enc P w 0 (λ_=>true) true fuel f.type ((cs.drop f.offset).take (P.cellsOf f.type))=xs[i]?)->tL w B τ (cs.drop o) (B.bs (xs.map (·.1))+1)
 | [],o,τ,xs,ht,_,he,hl,_=>by
  cases ht
  simp only[rj]at he
  obtain rfl:xs=[]:=List.eq_nil_of_length_eq_zero hl
  refine⟨(),?_,trivial,by simp[bk]⟩
  rw[he,List.drop_length]; exact .nil
 | f::r,o,τ,xs,ht,ho,he,hl,hx=>by
  cases xs with
  | nil=>simp at hl
  | cons x xs =>
  simp only[pW,Bool.and_eq_true]at ho
  have I2:f.offset=o:=Nat.eq_of_beq_eq_true ho.1
  simp only[List.map_cons]at ht
  cases h1:W6 P xid n f.type with
  | none=>rw[h1]at ht; cases ht
  | some a =>
   rw[h1]at ht
   simp only[gj]at ht
   cases h2:gj (r.map λf=>W6 P xid n f.type)with
   | none=>grind
   | some b =>
    rw[h2]at ht
    cases ht
    obtain⟨x1,p1,p2,p3⟩:=ih n f.type a _ x.1 x.2 h1 (by have:=hx 0 f rfl; simpa using this)
    obtain⟨x2,q1,q2,q3⟩:=r9 ih r (o+P.cellsOf f.type) b xs h2 ho.2 he (by simpa using hl) (λi g hg=>by have:=hx (i+1) g (by simpa using hg); simpa using this)
    refine⟨(x1,x2),?_,⟨p2,q2⟩,?_⟩
    ·have e:cs.drop o=(cs.drop o).take (P.cellsOf f.type)++cs.drop (o+P.cellsOf f.type):=by
      conv=>lhs; rw[<- List.take_append_drop (P.cellsOf f.type) (cs.drop o)]
      simp
     rw[e]
     rw[I2]at p1
     exact .cons _ _ _ _ _ _ p1 q1
    ·simp only[bk,List.map_cons,B.cons]; omega
theorem XS{e:Ty}(k:Nat):∀ (n:Nat) (elems:List (DataW H×List MemPlace)) (g:Nat->List Value),elems.length=n->(∀ i,i<n->∃ d,elems[i]? = some d/\tL w B e (g i) (B.b d.1)) ->
  ∃ l:List (den e),l.length=n/\(∀ i (hi:i<l.length),Rc w (λk=>k<w.heap.size) e l[i] (g i))/\(∀ x∈l,wf e x)/\ZH (bk e) l<=B.bs (elems.map (·.1))
 | 0,elems,g,hl,_=>by
  exact⟨[],rfl,λi hi=>absurd hi (Nat.not_lt_zero i),by simp,by simp[ZH]⟩
 | n+1,elems,g,hl,h=>by
  cases elems with
  | nil=>simp at hl
  | cons y ys =>
   obtain⟨d,h1,x,h2,h3,h4⟩:=h 0 (by omega)
   simp at h1
   subst h1
   obtain⟨l,l1,l2,l3,l4⟩:=XS k n ys (λi=>g (i+1)) (by grind) λi hi=>by
    obtain⟨d,h1,h2⟩:=h (i+1) (by omega)
    exact⟨d,by grind,h2⟩
   refine⟨x::l,by grind,λi hi => ?_,λz hz => ?_,?_⟩
   ·grind
   ·grind
   ·simp only[ZH,List.map_cons,B.cons]; omega
theorem Ch(hx:Y0 P xid m=true):∀ (fuel n t:Nat) (τ:Ty) (cs:List Value) (d:DataW H) (ps:List MemPlace),W6 P xid n t=some τ->DataW.trod enc P w 0 (λ_=>true) true fuel t cs=some (d,ps)->tL w B τ cs (B.b d):=by
 intro fuel
 induction fuel with
 | zero=>nofun
 | succ fuel ih =>
  intro n t τ cs d ps ht h
  have struct:∀ (fs:Array Field) (k:Nat) (σ:Ty),P.underlying t=some (.struct fs)->(pW P 0 fs.toList&&Nat.beq (rj P 0 fs.toList) (P.cellsOf t))=true->gj (fs.toList.map λf=>W6 P xid k f.type)=some σ->tL w B σ cs (B.b d):=by
   intro fs k σ hu ho hc
   simp only[Bool.and_eq_true]at ho
   obtain⟨xs,n',hn,hd,hl,Lt,XI⟩:=DataW.trod_struct hu h
   cases hn
   cases hd
   have:=r9 B (cs:=cs) (ih:=ih) fs.toList 0 σ xs hc ho.1 (by rw[Nat.eq_of_beq_eq_true ho.2,hl]) (by simpa using Lt) (λi f hf=>XI i f (by simpa using hf))
   rw[B.agg]
   grind
  cases n with
  | zero=>cases ht
  | succ n =>
   unfold W6 at ht
   cases hb:Nat.beq t xid with
   | true =>
    rw[hb,cond_true]at ht
    cases ht
    have:=Nat.eq_of_beq_eq_true hb
    subst this
    unfold Y0 at hx
    split at hx
    ·rename_i fs hu
     simp only[Bool.and_eq_true,decide_eq_true_eq]at hx
     obtain⟨x,h1,h2,h3⟩:=struct fs m pX hu (by simp[hx.1.1,hx.1.2]) hx.2
     refine⟨Expr.Yo x,.expr _ _ _ _ _ h1,?_,?_⟩
     ·exact(Mo (Expr.Yo x)).1 h2
     ·rw[<- O9 (Expr.Yo x)]; exact h3
    ·cases hx
    ·rename_i hu
     rw[DataW.trod_step]at h
     simp[DataW.trodStep,hu]at h
   | false =>
    rw[hb,cond_false]at ht
    split at ht
    ·rename_i k hu
     cases ht
     obtain⟨n',rfl,h2,h3⟩:=DataW.trod_int hu h
     cases h2
     simp only[Lit.wf,Bool.and_eq_true,decide_eq_true_eq]at h3
     exact⟨n',.int k n',h3,by simp[bk,B.int]⟩
    ·rename_i hu
     cases ht
     obtain⟨b,rfl,h2⟩:=DataW.trod_bool hu h
     cases h2
     exact⟨b,.bool b,trivial,by simp[bk,B.bool]⟩
    ·rename_i hu
     cases ht
     obtain⟨s,rfl,h2,h3⟩:=DataW.trod_string hu h
     cases h2
     refine⟨s.data.toList,?_,?_,?_⟩
     ·have:s=⟨s.data.toList.toArray⟩:=by cases s; simp
      exact .str _
     ·simp only[wf,Array.length_toList]; exact h3
     ·simp[bk,B.str]
    ·rename_i e hu
     split at ht
     ·rename_i a ha
      cases hc:Nat.beq (P.cellsOf e) a.size&&Nat.blt 0 a.size with
      | false=>grind
      | true =>
       rw[hc,cond_true]at ht
       cases ht
       simp only[Bool.and_eq_true]at hc
       have vV:P.cellsOf e=a.size:=Nat.eq_of_beq_eq_true hc.1
       have oa:0<a.size:=Nat.le_of_ble_eq_true hc.2
       rcases DataW.trod_slice hu h with⟨rfl,h2⟩ | ⟨p,len,cap,elems,rest,n',hn,rfl,hd,_,wD,_,hlen,OA,Ob,_⟩
       ·cases h2
        exact⟨[],.bI a none,by simp[wf],by simp[bk,ZH,B.nil]⟩
       ·cases hn
        cases hd
        by_cases h0:cap=0
        ·subst h0
         have:len=0:=by omega
         subst this
         exact⟨[],.bI a (some p),by simp[wf],by simp[bk,ZH,B.slice]⟩
        ·rw[vV]at OA Ob
         have PN:p.block<w.heap.size/\p.spot=none:=by
          have first:∃ x,(w.cells? 0 p a.size)=some x:=by
           by_cases hl:len=0
           ·have:=(Ob rfl).2 0 (by omega)
            cases hcc:w.cells? 0 p a.size with
            | some x=>simp
            | none =>
             have e0:p.add ((0+0)*a.size)=p:=by simp[Addr.add]
             grind
           ·have:=OA 0 (by omega)
            cases hcc:w.cells? 0 p a.size with
            | some x=>simp
            | none =>
             have e0:p.add (0*a.size)=p:=by simp[Addr.add]
             grind
          obtain⟨x,hx⟩:=first
          refine⟨World.cells?_block hx oa,?_⟩
          have h2:=(World.cells?_some hx).2
          have h3:=h2.2 0 oa
          have e0:p.add 0=p:=rfl
          cases hs:p.spot with
          | none=>rfl
          | some q =>
           unfold World.cell? at h3
           grind
         obtain⟨blk,off,sp⟩:=p
         obtain⟨ER,fI⟩:=PN
         subst fI
         have hg:∀ i,∃ c:List Value,i<len->∃ d,elems[i]? = some d/\tL w B a c (B.b d.1)/\w.cells? 0 ⟨blk,off+i*a.size,none⟩ a.size=some c:=by
          intro i
          by_cases hi:i<len
          ·have:=OA i hi
           rw[wY]at this
           cases hcc:w.cells? 0 ⟨blk,off+i*a.size,none⟩ a.size with
           | none =>
            grind
           | some c =>
            refine⟨c,λ_=>⟨elems[i]'(by omega),by simp,?_,rfl⟩⟩
            grind
          ·exact⟨[],λh=>absurd h hi⟩
         let g:Nat->List Value:=λi=>Classical.choose (hg i)
         have PM:∀ i,i<len->∃ d,elems[i]? = some d/\tL w B a (g i) (B.b d.1)/\w.cells? 0 ⟨blk,off+i*a.size,none⟩ a.size=some (g i):=λi hi=>Classical.choose_spec (hg i) hi
         obtain⟨l,l1,l2,l3,l4⟩:=XS B (w:=w) (e:=a) 0 len elems g hlen λi hi=>by
          grind
         refine⟨l,?_,l3,?_⟩
         ·have:=Rc.sl (w:=w) (ok:=λk=>k<w.heap.size) a l blk off cap g ER (by omega) l2 λi hi j v hj=>by
           obtain⟨d,_,_,h3⟩:=PM i (by omega)
           obtain⟨_,k2,k3⟩:=World.cells?_some h3
           have Dg:j<(g i).length:=(List.getElem?_eq_some_iff.1 hj).1
           have:=k3 j (by omega)
           rw[wY,hj]at this
           exact this
          grind
         ·simp only[bk,B.slice]; omega
     ·cases ht
    ·rename_i fs hu
     cases hc:pW P 0 fs.toList&&Nat.beq (rj P 0 fs.toList) (P.cellsOf t)with
     | false=>grind
     | true =>
      rw[hc,cond_true]at ht
      exact struct fs n τ hu hc ht
    ·cases ht
end
end Go.AM
namespace Go.AM
set_option linter.unusedSectionVars false
variable [vi]
open Go.RowKit Go.ChangeShapes
def QA:List Ty->Type
 | []=>Unit
 | τ::r=>den τ×QA r
def RC:(τs:List Ty)->QA τs->List D
 | [],_=>[]
 | τ::r,x=>.zx τ x.1::RC r x.2
def wfL:(τs:List Ty)->QA τs->Prop
 | [],_=>True
 | τ::r,x=>wf τ x.1/\wfL r x.2
def SR:(τs:List Ty)->QA τs->Nat
 | [],_=>0
 | τ::r,x=>bk τ x.1+SR r x.2
def nd(P:Program)(ts:List Nat):Bool:=ts.all λt=>P.readableRec t&&decide (t<P.types.size)
section
variable {H:Type} {enc:TypeId×Value->H} {P:Program} {xid m n:Nat} {w:World}
theorem Rz{t:Nat}{τ:Ty}{v:Value}{base:Nat}(ht:W6 P xid n t=some τ)(hx:Y0 P xid m=true)(h:Value.okWide P w .any base t v):pk τ v.cells.toList=v:=by
 cases n with
 | zero=>cases ht
 | succ n =>
  have agg:∀ fs:Array Field,P.underlying t=some (.struct fs)->τ.isAgg=true->pk τ v.cells.toList=v:=by
   intro fs hu ha
   unfold Value.okWide at h
   rw[hu]at h
   obtain⟨cs,rfl,_⟩:=h
   simp[pk,ha,Value.cells]
  unfold W6 at ht
  cases hb:Nat.beq t xid with
  | true =>
   rw[hb,cond_true]at ht
   cases ht
   have:=Nat.eq_of_beq_eq_true hb
   subst this
   unfold Y0 at hx
   split at hx
   ·rename_i fs hu; exact agg fs hu rfl
   ·cases hx
   ·rename_i hu
    unfold Value.okWide at h
    rw[hu]at h
    simp[Cell.okWide,Cell.ok,hu]at h
  | false =>
   rw[hb,cond_false]at ht
   split at ht
   ·rename_i k hu
    cases ht
    unfold Value.okWide at h
    rw[hu]at h
    simp only[Cell.okWide,hu,Cell.ok]at h
    split at h<;>simp_all [pk,Ty.isAgg,Value.cells]
   ·rename_i hu
    cases ht
    unfold Value.okWide at h
    rw[hu]at h
    simp only[Cell.okWide,hu,Cell.ok]at h
    split at h<;>simp_all [pk,Ty.isAgg,Value.cells]
   ·rename_i hu
    cases ht
    unfold Value.okWide at h
    rw[hu]at h
    simp only[Cell.okWide,hu,Cell.ok]at h
    split at h<;>simp_all [pk,Ty.isAgg,Value.cells]
   ·rename_i e hu
    have h1:τ.isAgg=false:=by
     split at ht
     ·rename_i a ha
      cases hc:Nat.beq (P.cellsOf e) a.size&&Nat.blt 0 a.size with
      | false=>grind
      | true=>rw[hc,cond_true]at ht; cases ht; rfl
     ·cases ht
    unfold Value.okWide at h
    rw[hu]at h
    simp only[Cell.okWide,hu,Cell.ok]at h
    split at h<;>simp_all [pk,Value.cells]
   ·rename_i fs hu
    refine agg fs hu ?_
    cases hc:pW P 0 fs.toList&&Nat.beq (rj P 0 fs.toList) (P.cellsOf t)with
    | false=>grind
    | true =>
     rw[hc,cond_true]at ht
     have key:∀ (l:List (Option Ty)),gj l=some τ->τ.isAgg=true:=by
      intro l hl
      cases l with
      | nil=>cases hl; rfl
      | cons a r =>
       cases a with
       | none=>cases hl
       | some a =>
        simp only[gj]at hl
        cases h2:gj r with
        | none=>grind
        | some b=>rw[h2]at hl; cases hl; rfl
     grind
   ·cases ht
theorem UN(B:BI H)(hx:Y0 P xid m=true){base:Nat}:∀ (ts:List TypeId) (τs:List Ty) (vs:List Value) (ds:List (DataW H)) (ps:List MemPlace),ts.map (W6 P xid n)=τs.map some ->
  DataW.TrodAll enc P w 0 (λ_=>true) true ts vs ds ps->(∀ (j:Nat) t v,ts[j]? = some t->vs[j]? = some v->Value.okWide P w .any base t v) ->
  ∃ x:QA τs,qj ⟨w,λk=>k<w.heap.size,[],[]⟩ (RC τs x) vs/\wfL τs x/\SR τs x<=B.bs ds/\ds.length=τs.length
 | [],τs,vs,ds,ps,ht,h,_=>by
  cases τs with
  | cons=>cases ht
  | nil =>
   cases vs<;>cases ds<;>simp only[DataW.TrodAll]at h
   exact⟨(),⟨rfl,λi h1=>absurd h1 (Nat.not_lt_zero i)⟩,trivial,Nat.zero_le _,rfl⟩
 | t::ts,τs,vs,ds,ps,ht,h,hv=>by
  cases τs with
  | nil=>cases ht
  | cons τ τs =>
   simp at ht
   cases vs with
   | nil=>simp[DataW.TrodAll]at h
   | cons v vs =>
    cases ds with
    | nil=>simp[DataW.TrodAll]at h
    | cons d ds =>
     obtain⟨p,q,⟨fuel,h1⟩,h2,_⟩:=h
     obtain⟨x,k1,k2,k3⟩:=Ch B hx fuel n t τ _ d p ht.1 h1
     obtain⟨y,g1,g2,g3,g4⟩:=UN B hx ts τs vs ds q ht.2 h2 λj t v a b=>hv (j+1) t v (by grind) (by grind)
     refine⟨(x,y),⟨by simp only[RC,List.length_cons]; rw[g1.1],λi h1 h2 => ?_⟩,⟨k2,g2⟩,?_,by grind⟩
     ·cases i with
      | zero =>
       have:=RD.zx (κ:=⟨w,λk=>k<w.heap.size,[],[]⟩) τ x _ k1
       rw[Rz ht.1 hx (hv 0 t v rfl rfl)]at this
       exact this
      | succ i=>exact g1.2 i (by simpa[RC]using h1) (by grind)
     ·simp only[SR,B.cons]; omega
theorem XG(hl:laidOutB P=true){W W':World}(hb:Below W.heap.size W W'):∀ (ts:List TypeId) (vs:List Value) (ds:List (DataW H)) (ps:List MemPlace),nd P ts=true ->
  DataW.TrodAll enc P W 0 (λ_=>true) true ts vs ds ps->(∀ x∈ps,x.block<W.heap.size)->DataW.TrodAll enc P W' 0 (λb=>decide (b<W.heap.size)) true ts vs ds ps
 | [],vs,ds,ps,_,h,_=>by cases vs<;>cases ds<;>simp_all [DataW.TrodAll]
 | t::ts,vs,ds,ps,ht,h,qc=>by
  cases vs with
  | nil=>simp[DataW.TrodAll]at h
  | cons v vs =>
   cases ds with
   | nil=>simp[DataW.TrodAll]at h
   | cons d ds =>
    obtain⟨p,q,h1,h2,rfl⟩:=h
    simp only[nd,List.all_cons,Bool.and_eq_true,decide_eq_true_eq]at ht
    exact⟨p,q,Below.trod hl ht.1.1 ht.1.2 h1 hb λx hx=>qc x (by grind),XG hl hb ts vs ds q (by simpa[nd]using ht.2) h2 λx hx=>qc x (by grind),rfl⟩
end
theorem BZ{H:Type}{enc:TypeId×Value->H}{P:Program}{f:Nat}{fn:Func}{S:List D->St->T (Wd×St)}(hS:VJ P f S)(hf:P.funcs[f]? = some fn)(hbd:fn.body.isNone=false) (SK:(fn.name == "runtime.NumGoroutine")=false)
  (hl:laidOutB P=true) (xid m n:Nat) (τs:List Ty) (hts:nd P fn.params.toList=true) (hτ:fn.params.toList.map (W6 P xid n)=τs.map some) (hx:Y0 P xid m=true)
  {bt:TypeId} (hr:fn.resultTypes = #[bt]) (hbt:P.underlying bt=some .bool) {s:ChangeSpec} (hv:s.vars=[]) (hs:∀ ds:List (DataW H),ds.length=τs.length->s.fn H ds={ results:=[.lit (.bool true)],args:=ds })
  (B:BI H) {lim:Nat} (law:∀ x:QA τs,wfL τs x->SR τs x<=lim->(S (RC τs x) []).leads (.ret [.zx .bool true],[]))
  {fresh handsOn:Bool} {W:World} {base:Nat} {args:Array Value} {ds gs:List (DataW H)} {before:List MemPlace}
  (QB:∀ (j:Nat) t v,fn.params[j]? = some t->args[j]? = some v->Value.okWide P W .any base t v)
  (hW:DataW.Whole enc P fn.params.toList s.vars false W args.toList ds gs before) (hk:B.bs (ds++gs)<=lim) (hG:mC W λk=>k<W.heap.size) :
  Calls P f args W λe W'=>∃ v,e=.returned v/\s.post enc P fn false fresh handsOn false W args v W':=by
 have hW':=hW
 obtain⟨p,q,hA,hV,rfl,hfz,NY⟩:=hW
 rw[hv]at hV
 obtain⟨rfl,rfl⟩:=trodVars_none hV
 simp only[List.append_nil]at hk hW'
 obtain⟨x,h1,h2,h3,h4⟩:=UN (n:=n) B hx fn.params.toList τs args.toList ds p hτ hA λj t v a b=>QB j t v (by grind) (by grind)
 have hI:Inv ⟨W,λk=>k<W.heap.size,[],[]⟩ :=
  ⟨rfl,λk hk=>hk,λb blk n h=>by grind,λb b' blk n n' h=>by simp at h,λb x h=>by simp at h,hG⟩
 have OB:=hS ⟨W,λk=>k<W.heap.size,[],[]⟩ (RC τs x) args.toList _ _ (law x h2 (Nat.le_trans h3 hk)) hI h1
 rw[Array.toArray_toList]at OB
 have key:Calls P f args W λe w'=>∃ κ':KS,κ'.w=w'/\κ'.st=[]/\Inv κ'/\Ext ⟨W,λk=>k<W.heap.size,[],[]⟩ κ'/\xR κ' (.ret [.zx .bool true]) e:=by
  rcases OB with⟨_,h⟩ | ⟨v,w',h,_⟩
  ·exact h
  ·have:=wc (args:=args) hf SK hbd W
   grind
 refine key.mono λe W' ⟨κ',e1,_,_,e4,v,e5,e6⟩ => ?_
 subst e1
 have hb:Below W.heap.size W κ'.w:=⟨e4.os,e4.tape,e4.output,e4.size,λk hk=>e4.frame k hk λb n h=>by simp at h⟩
 have Pd:v=.bool true:=by
  obtain⟨cs,g1,g2⟩:=RD.y4 (show RD κ' (.zx .bool true) v from e6)
  rw[g1.uG]at g2
  exact g2
 subst Pd
 have qc:∀ x∈p,x.block<W.heap.size:=λx hx=>by simpa using hW'.lt x hx
 refine⟨_,e5,ds,[],p,[],p,[],hW',?_,?_,?_,hb.frame _,λh=>by cases h⟩
 ·rw[List.append_nil,hs ds h4,hr]
  exact trodAll_cons_mk (shut_bool hbt _) trodAll_mk0
 ·rw[List.append_nil,hs ds h4]
  exact XG hl hb _ _ _ _ hts hA qc
 ·rw[List.append_nil,hs ds h4,hv]
  rfl
end Go.AM
namespace Go.AM
def Gy:List Ty->Type
 | []=>Unit
 | [τ]=>den τ
 | τ::σ::r=>den τ×Gy (σ::r)
def pn.ty:pn->Ty | .rp τ=>τ | .im τ=>τ
def y7:List pn->Type
 | []=>Unit
 | [p]=>den p.ty
 | p::q::r=>den p.ty×y7 (q::r)
def XK:(p:pn)->den p.ty->D
 | .rp τ,x=>.qA τ x
 | .im τ,x=>.zx τ x
def de:(l:List pn)->y7 l->List D
 | [],_=>[]
 | [p],x=>[XK p x]
 | p::q::r,x=>XK p x.1::de (q::r) x.2
def JL:(l:List pn)->y7 l
 | []=>()
 | [p]=>zq p.ty
 | p::q::r=>(zq p.ty,JL (q::r))
inductive Sk where
 | im (τ:Ty) | row (b:Nat) (e:Ty) | op (b T:Nat) | un
def ga:List Sk->Type
 | []=>Unit
 | .im τ::r=>den τ×ga r
 | .row _ _::r=>ga r
 | .op _ _::r=>ga r
 | .un::r=>ga r
def na:(l:List Sk)->ga l
 | []=>()
 | .im τ::r=>(zq τ,na r)
 | .row _ _::r=>na r
 | .op _ _::r=>na r
 | .un::r=>na r
inductive Mc where
 | im (τ:Ty) | rp (τ:Ty) | pt (b:Nat)
def cS:List Mc->Type
 | []=>Unit
 | .im τ::r=>den τ×cS r
 | .rp τ::r=>den τ×cS r
 | .pt _::r=>cS r
def sO:(l:List Mc)->cS l
 | []=>()
 | .im τ::r=>(zq τ,sO r)
 | .rp τ::r=>(zq τ,sO r)
 | .pt _::r=>sO r
def lV:(l:List Mc)->cS l->List D
 | [],_=>[]
 | .im τ::r,x=>.zx τ x.1::lV r x.2
 | .rp τ::r,x=>.qA τ x.1::lV r x.2
 | .pt b::r,x=>.ptr b 0::lV r x
inductive Dk where
 | zx (τ:Ty) | qA (τ:Ty) | sub (b:Nat) (e:Ty) | qE (f:Nat) (caps:List pn) | st (ks:List Sk) | mclo (f:Nat) (ms:List Mc)
inductive Ck where
 | ptr (b off:Nat) | cur (b:Nat) (e:Ty) | qZ | jF | qB | qE (f:Nat) (l:List (Nat×Nat))
inductive Bk where
 | var (k:Dk) | cvar (k:Ck) | arr (e:Ty) | dead
def Dk.den:Dk->Type
 | .zx τ=>AM.den τ
 | .qA τ=>AM.den τ
 | .sub _ _=>Nat×Nat
 | .qE _ caps=>y7 caps
 | .st ks=>ga ks
 | .mclo _ ms=>cS ms
def Dk.zq:(k:Dk)->k.den
 | .zx τ=>AM.zq τ
 | .qA τ=>AM.zq τ
 | .sub _ _=>(0,0)
 | .qE _ caps=>JL caps
 | .st ks=>na ks
 | .mclo _ ms=>sO ms
inductive It where
 | s (t:Nat) (k:Dk) | v (k:Dk) | a (e:Ty)
def It.den:It->Type
 | .s _ k=>k.den
 | .v k=>k.den
 | .a e=>List (AM.den e)
def It.zq:(i:It)->i.den
 | .s _ k=>k.zq
 | .v k=>k.zq
 | .a _=>[]
def wg:List It->Type
 | []=>Unit
 | [i]=>i.den
 | i::j::r=>i.den×wg (j::r)
def z04:jn->Nat
 | .arr v _ _=>v
 | _=>0
def xz(st:St)(b:Nat):Nat:=match st[b]? with | some x=>z04 x | none=>0
def wE(st:St):(l:List Sk)->ga l->List D
 | [],_=>[]
 | .im τ::r,x=>AM.flat τ x.1++wE st r x.2
 | .row b e::r,x=>.ms b (xz st b) e 0 (xz st b)::wE st r x
 | .op b T::r,x=>.jr b T::wE st r x
 | .un::r,x=>.lI::wE st r x
def lB(st:St):(k:Dk)->k.den->D
 | .zx τ,x=>.zx τ x
 | .qA τ,x=>.qA τ x
 | .sub b e,x=>.ms b (xz st b) e x.1 x.2
 | .qE f caps,x=>.qE f (de caps x)
 | .st ks,x=>.agg (wE st ks x)
 | .mclo f ms,x=>.qE f (lV ms x)
def JK(st:St):Ck->D
 | .ptr b off=>.ptr b off
 | .cur b e=>.ms b (xz st b) e 0 (xz st b)
 | .qZ=>.qZ
 | .jF=>.jF
 | .qB=>.qB
 | .qE f l=>.qE f (l.map λp=>.ptr p.1 p.2)
def bq(st:St):(l:List It)->wg l->Fr
 | [],_=>[]
 | [.s t k],x=>[(t,some (lB st k x))]
 | [.v _],_=>[]
 | [.a _],_=>[]
 | .s t k::j::r,x=>(t,some (lB st k x.1))::bq st (j::r) x.2
 | .v _::j::r,x=>bq st (j::r) x.2
 | .a _::j::r,x=>bq st (j::r) x.2
def Rj(st:St)(l:List (Nat×Ck)):Fr:=l.map λp=>(p.1,some (JK st p.2))
inductive Bd where
 | v (k:Dk) (x:k.den) | a (e:Ty) (x:List (AM.den e))
def dC:(l:List It)->wg l->List Bd
 | [],_=>[]
 | [.s _ _],_=>[]
 | [.v k],x=>[.v k x]
 | [.a e],x=>[.a e x]
 | .s _ _::j::r,x=>dC (j::r) x.2
 | .v k::j::r,x=>.v k x.1::dC (j::r) x.2
 | .a e::j::r,x=>.a e x.1::dC (j::r) x.2
def y5:List Bk->List Bd->St
 | [],_=>[]
 | .arr _::r,.a e x::d=>.arr x.length e x::y5 r d
 | .var _::r,_::d=>.dead::y5 r d
 | .cvar _::r,d=>.dead::y5 r d
 | .dead::r,d=>.dead::y5 r d
 | _::_,_=>[]
def wM(st:St):List Bk->List Bd->St
 | [],_=>[]
 | .arr _::r,.a e x::d=>.arr x.length e x::wM st r d
 | .var _::r,.v k x::d=>.var (lB st k x)::wM st r d
 | .cvar c::r,d=>.var (JK st c)::wM st r d
 | .dead::r,d=>.dead::wM st r d
 | _::_,_=>[]
def z5r(bs:List Bk)(d:List Bd):St:=wM (y5 bs d) bs d
structure vY where
 eO:List It
 cs:List (Nat×Ck)
 bs:List Bk
def vY.den(s:vY):Type:=wg s.eO
def vY.st(s:vY)(x:s.den):St:=z5r s.bs (dC s.eO x)
def vY.fr(s:vY)(x:s.den):Fr:=bq (s.st x) s.eO x++Rj (s.st x) s.cs
def Hw:(p:pn)->D->Option (den p.ty)
 | .rp τ,d=>match d with | .qA _ x=>we x | _=>none
 | .im τ,d=>gX τ d
def KR:(l:List pn)->List D->Option (y7 l)
 | [],[]=>some ()
 | [p],[d]=>Hw p d
 | p::q::r,d::ds=>(Hw p d).bind λx=>(KR (q::r) ds).bind λy=>some (x,y)
 | _,_=>none
def yf(st:St)(b:Nat):Nat:=match st[b]? with | some (.arr _ _ xs)=>xs.length | _=>0
def FH(st:St)(b T:Nat)(ds:List D):Option (List D):=match st[b]? with
 | some (.var _)=>match ds with
  | .yK T'::ds=>bif Nat.beq T T' then some ds else none
  | .jr b' T'::ds=>bif Nat.beq b b'&&Nat.beq T T' then some ds else none
  | _=>none
 | _=>none
def Sn(ds:List D):Option (List D):=match ds with
 | d::ds=>bif d.one then some ds else none
 | _=>none
def bR(st:St):(l:List Sk)->List D->T (ga l)
 | [],ds=>match ds with | []=>.ret () | _=>.fail
 | .im τ::r,ds=>match uq τ ds with | some p=>(bR st r p.2).bind λy=>.ret (p.1,y) | none=>.fail
 | .row b e::r,ds=>match ds with
  | .ms b' qh e' off len::ds=>bif Nat.beq b b'&&decide (e=e')then .zC (vG qh off len (yf st b)) (bR st r ds)else .fail
  | _=>.fail
 | .op b T::r,ds=>match FH st b T ds with | some q=>bR st r q | none=>.fail
 | .un::r,ds=>match Sn ds with | some q=>bR st r q | none=>.fail
def rB:(l:List Mc)->List D->T (cS l)
 | [],ds=>match ds with | []=>.ret () | _=>.fail
 | .im τ::r,ds=>match ds with
  | d::ds=>match gX τ d with | some y=>(rB r ds).bind λz=>.ret (y,z) | none=>.fail
  | _=>.fail
 | .rp τ::r,ds=>match ds with
  | .qA _ x::ds=>match(we x:Option (AM.den τ))with | some y=>(rB r ds).bind λz=>.ret (y,z) | none=>.fail
  | _=>.fail
 | .pt b::r,ds=>match ds with
  | .ptr b' off::ds=>bif Nat.beq b b'&&Nat.beq off 0 then rB r ds else .fail
  | _=>.fail
def mr(st:St):(k:Dk)->D->T k.den
 | .zx τ,d=>.QV (gX τ d)
 | .qA τ,d=>match d with | .qA _ x=>.QV (we x) | _=>.fail
 | .sub b e,d=>match d with
  | .ms b' qh e' off len=>bif Nat.beq b b'&&decide (e=e')then .zC (qh=xz st b) (.ret (off,len))else .fail
  | _=>.fail
 | .qE f caps,d=>match d with
  | .qE f' l=>bif Nat.beq f f' then .QV (KR caps l)else .fail
  | _=>.fail
 | .st ks,d=>bif d.yX then bR st ks (zR d)else .fail
 | .mclo f ms,d=>match d with
  | .qE f' l=>bif Nat.beq f f' then rB ms l else .fail
  | _=>.fail
def mO:List (Nat×Nat)->List D->Bool
 | [],[]=>true
 | p::r,.ptr b off::ds=>Nat.beq p.1 b&&Nat.beq p.2 off&&mO r ds
 | _,_=>false
def rY(st:St):Ck->D->T Unit
 | .ptr b off,d=>match d with | .ptr b' off'=>bif Nat.beq b b'&&Nat.beq off off' then .ret ()else .fail | _=>.fail
 | .cur b e,d=>match d with
  | .ms b' qh e' off len=>bif Nat.beq b b'&&decide (e=e')then .zC (vG qh off len (yf st b)) (.ret ())else .fail
  | _=>.fail
 | .qZ,d=>match d with | .qZ=>.ret () | _=>.fail
 | .jF,d=>match d with | .jF=>.ret () | _=>.fail
 | .qB,d=>match d with | .qB=>.ret () | _=>.fail
 | .qE f l,d=>match d with | .qE f' l'=>bif Nat.beq f f'&&mO l l' then .ret ()else .fail | _=>.fail
def LY(fr:Fr)(st:St):List (Nat×Ck)->T Unit
 | []=>.ret ()
 | p::r=>match fr.get p.1 with
  | some d=>(rY st p.2 d).bind λ_=>LY fr st r
  | none=>.fail
def DW(e:Ty)(b:jn):T (List (den e)):=match b with
 | .arr qh _ xs=>match(we (a:=.sl _) (b:=.sl e) xs:Option (List (den e)))with
  | some ys=>.zC (qh=ys.length) (.ret ys)
  | none=>.fail
 | _=>.fail
def Dk.plain:Dk->Bool
 | .zx _=>true
 | .qA _=>true
 | .st _=>true
 | _=>false
def ED(st:St)(k:Dk)(b:jn):T k.den:=match b with
 | .var d=>bif k.plain then mr st k d else .fail
 | _=>.fail
def KV:jn->Bool | .var _=>true | _=>false
def Qd(st:St):List Bk->List jn->T (List jn)
 | [],_=>.ret []
 | .arr _::r,b::bl=>(Qd st r bl).bind λl=>.ret (b::l)
 | .var _::r,b::bl=>(Qd st r bl).bind λl=>.ret (b::l)
 | .cvar c::r,.var d::bl=>(rY st c d).bind λ_=>Qd st r bl
 | .dead::r,b::bl=>bif KV b then .fail else Qd st r bl
 | _,_=>.fail
def JD(fr:Fr)(st:St)(bl:List jn):(i:It)->T (i.den×List jn)
 | .s t k=>match fr.get t with | some d=>(mr st k d).bind λx=>.ret (x,bl) | none=>.fail
 | .v k=>match bl with | b::r=>(ED st k b).bind λx=>.ret (x,r) | []=>.fail
 | .a e=>match bl with | b::r=>(DW e b).bind λx=>.ret (x,r) | []=>.fail
def UP{α:Type}(x:α×List jn):T α:=match x.2 with | []=>.ret x.1 | _=>.fail
def Xb(fr:Fr)(st:St):(l:List It)->List jn->T (wg l)
 | [],bl=>UP ((),bl)
 | [i],bl=>(JD fr st bl i).bind UP
 | i::j::r,bl=>(JD fr st bl i).bind λx=>(Xb fr st (j::r) x.2).bind λy=>.ret (x.1,y)
def rowAt(bs:List Bk)(b:Nat):Bool:=match bs[b]? with | some (.arr _)=>true | _=>false
def rK(bs:List Bk)(b:Nat):Bool:=match bs[b]? with | some (.var _)=>true | some (.cvar _)=>true | _=>false
def LL(bs:List Bk):Sk->Bool
 | .row b _=>rowAt bs b
 | .op b _=>rK bs b
 | _=>true
def z2Q(bs:List Bk):Mc->Bool
 | .pt b=>rK bs b
 | _=>true
def Jt(bs:List Bk):Dk->Bool
 | .mclo _ ms=>ms.all (z2Q bs)
 | .sub b _=>rowAt bs b
 | .st ks=>ks.all (LL bs)
 | _=>true
def CE(bs:List Bk):Ck->Bool
 | .ptr b _=>rK bs b
 | .cur b _=>rowAt bs b
 | .qE _ l=>l.all λp=>rK bs p.1
 | _=>true
def z4q(bs:List Bk):It->Bool
 | .s _ k=>Jt bs k
 | .v k=>Jt bs k
 | .a _=>true
def z6u(bs:List Bk):Bk->Bool
 | .cvar c=>CE bs c
 | _=>true
def kinds:List It->List Bool
 | []=>[]
 | .s _ _::r=>kinds r
 | .v _::r=>false::kinds r
 | .a _::r=>true::kinds r
def jP:List Bk->List Bool->Bool
 | [],[]=>true
 | .arr _::bs,b::r=>b&&jP bs r
 | .var _::bs,b::r => !b&&jP bs r
 | .cvar _::bs,l=>jP bs l
 | .dead::bs,l=>jP bs l
 | _,_=>false
def vY.ok(s:vY):Bool:=jP s.bs (kinds s.eO)&&s.eO.all (z4q s.bs)&&s.cs.all (λp=>CE s.bs p.2)&&s.bs.all (z6u s.bs)
def vY.un(s:vY)(fr:Fr)(st:St):T s.den :=
 bif s.ok&&(st.take s.bs.length).all (V3 s.bs.length)then(LY fr st s.cs).bind λ_=>(Qd st s.bs st).bind λbl=>Xb fr st s.eO bl
 else .fail
structure Way where
 ex:Ex
 sh:vY
def kz:List Way->Type
 | []=>Empty
 | [w]=>w.sh.den
 | w::v::r=>w.sh.den⊕kz (v::r)
def H3{α:Type}:(l:List Way)->kz l->(Ex->Fr->St->T α)->T α
 | [],x,_=>nomatch x
 | [w],x,k=>k w.ex (w.sh.fr x) (w.sh.st x)
 | w::v::r,x,k=>Sum.elim (λa=>k w.ex (w.sh.fr a) (w.sh.st a)) (λb=>H3 (v::r) b k) x
def fg:Ex->Ex->Bool
 | .normal,.normal=>true
 | .ret,.ret=>true
 | .exit a,.exit b=>Nat.beq a b
 | .jg (.iface t _),.jg (.iface t' _)=>Nat.beq t t'
 | _,_=>false
def QC:Ex->Fr->Fr
 | .jg (.iface _ d),_=>[(0,some d)]
 | _,fr=>fr
def UU:Ex->Fr->Option (Ex×Fr)
 | .jg (.iface t _),fr=>match fr.get 0 with | some d=>some (.jg (.iface t d),[]) | none=>none
 | .jg _,_=>none
 | e,fr=>some (e,fr)
def Vp:(l:List Way)->Ex->Fr->St->T (kz l)
 | [],_,_,_=>.fail
 | [w],ex,fr,st=>bif fg w.ex ex then w.sh.un fr st else .fail
 | w::v::r,ex,fr,st=>bif fg w.ex ex then(w.sh.un fr st).bind λx=>.ret (.inl x)else(Vp (v::r) ex fr st).bind λy=>.ret (.inr y)
end Go.AM
namespace Go.AM
set_option linter.unusedSectionVars false
variable [vi] [Qg]
section
variable {c:Ctx} {n:Nat}
theorem get_mem:∀ {l:Fr} {s:Nat} {d:D},l.get s=some d->(s,some d)∈l
 | [],s,d,h=>by cases h
 | (t,d')::r,s,d,h=>by
  simp only[Fr.get]at h
  cases ht:Nat.beq t s with
  | true =>
   rw[ht,cond_true]at h
   rw[Nat.eq_of_beq_eq_true ht,h]
   simp
  | false=>rw[ht,cond_false]at h; exact List.mem_cons_of_mem _ (get_mem h)
theorem get_append{l m:Fr}{s:Nat}{d:D}(h:(l++m).get s=some d):(s,some d)∈l\/m.get s=some d:=by
 induction l with
 | nil=>grind
 | cons p r ih =>
  obtain⟨t,d'⟩:=p
  simp only[List.cons_append,Fr.get]at h
  cases ht:Nat.beq t s with
  | true=>rw[ht,cond_true]at h; rw[Nat.eq_of_beq_eq_true ht,h]; exact .inl List.mem_cons_self
  | false=>grind
structure Wk(κ κ':KS):Prop where
 w:κ'.w=κ.w
 ok:κ'.ok=κ.ok
 ph:κ'.ph=κ.ph
 len:κ'.st.length=κ.st.length
 var:∀ (b:Nat) (d:D),κ.st[b]? = some (jn.var d)->∃ d',κ'.st[b]? = some (jn.var d')
 arr:∀ (b v:Nat) (e:Ty) (xs:List (den e)),κ.st[b]? = some (jn.arr v e xs)->κ'.st[b]? = some (jn.arr v e xs)\/κ'.st[b]? = some jn.dead
 arr':∀ (b v:Nat) (e:Ty) (xs:List (den e)),κ'.st[b]? = some (jn.arr v e xs)->κ.st[b]? = some (jn.arr v e xs)
 dead:∀ (b:Nat),κ.st[b]? = some jn.dead->κ'.st[b]? = some jn.dead
theorem Wk.ext{κ κ':KS}(h:Wk κ κ'):Ext κ κ':=by
 refine⟨by rw[h.w],by rw[h.w],by rw[h.w],by rw[h.w]; exact Nat.le_refl _,λk hk=>⟨by rw[h.ok]; exact hk,by rw[h.w]⟩,λk hk=>.inl (by rw[<- h.ok]; exact hk),
  λb blk m hb=>.inl (by rw[<- h.ph]; exact hb),λb d hd=>⟨h.var b d hd,by rw[h.ph]⟩,λb v0 e xs hb => ?_,h.dead,by rw[h.len]; exact Nat.le_refl _,λk _ _=>by rw[h.w]⟩
 rcases h.arr b v0 e xs hb with g | g
 ·exact .inr ⟨v0,xs,g,Nat.le_refl _,λ_=>⟨by rw[h.ph],rfl⟩⟩
 ·grind
theorem Wk.rd{κ κ':KS}(h:Wk κ κ'){d:D}{v:Value}(hd:RD κ d v):RD κ' d v:=hd.mono h.ext
theorem Wk.inv{κ κ':KS}(h:Wk κ κ')(hI:Inv κ)(hv:∀ (b:Nat) (d:D),κ'.st[b]? = some (jn.var d)->gT κ' b (.var d)):Inv κ':=by
 refine⟨by rw[h.ph,h.len]; exact hI.len,λk hk=>by rw[h.w]; exact hI.jN k (by rw[<- h.ok]; exact hk),λb blk m hb => ?_,λb b' blk m m' hb VH=>hI.inj b b' blk m m' (by rw[<- h.ph]; exact hb) (by rw[<- h.ph]; exact VH),λb x hx => ?_,hI.gl.mono h.ext.same⟩
 ·obtain⟨g1,g2⟩:=hI.apart b blk m (by rw[<- h.ph]; exact hb)
  exact⟨by rw[h.w]; exact g1,λhk=>g2 (by rw[<- h.ok]; exact hk)⟩
 ·cases x with
  | dead=>trivial
  | var d=>grind
  | arr v e xs=>exact(hI.blk b _ (h.arr' b v e xs hx)).mono h.ext (by rw[h.ph]) λblk m _=>by rw[h.w]
theorem sU{p:pn}{d:D}{x:den p.ty}(h:Hw p d=some x){κ:KS}{v:Value}(hd:RD κ d v):RD κ (XK p x) v:=by
 cases p with
 | rp τ =>
  cases d<;>simp only[Hw]at h<;>try (cases h; done)
  obtain⟨e,hx⟩:=zX h
  cases e
  cases hx
  exact hd
 | im τ=>exact yD hd h
theorem rm{κ:KS}:∀ (l:List pn) (ds:List D) (x:y7 l) (vs:List Value),KR l ds=some x->qj κ ds vs->qj κ (de l x) vs
 | [],[],x,vs,_,hd=>by rw[hd.zN]; exact .nil
 | [],_::_,_,_,h,_=>nomatch h
 | [p],[],_,_,h,_=>nomatch h
 | [p],[d],x,vs,h,hd=>by
  obtain⟨v,us,rfl,h1,h2⟩:=hd.cons_inv
  rw[h2.zN]
  exact .cons (sU h h1) .nil
 | [p],_::_::_,_,_,h,_=>nomatch h
 | p::q::r,[],_,_,h,_=>nomatch h
 | p::q::r,d::ds,x,vs,h,hd=>by
  obtain⟨y,hy,h⟩:=Option.bind_eq_some_iff.1 h
  obtain⟨z,hz,h⟩:=Option.bind_eq_some_iff.1 h
  cases h
  obtain⟨v,us,rfl,h1,h2⟩:=hd.cons_inv
  exact .cons (sU hy h1) (rm (q::r) ds z us hz h2)
theorem Du{κ:KS}{d:D}{v:Value}(hd:RD κ d v)(ha:d.yX=true):∃ c,v=.agg c:=by
 cases hd with
 | zx τ x cs h=>exact⟨cs.toArray,by unfold pk; rw[show τ.isAgg=true from ha]; rfl⟩
 | agg l vs hl ho h=>simp
 | _=>cases ha
theorem Nu{κ:KS}{b T:Nat}{ds q:List D}{vs:List Value}(hd:qj κ ds vs)(h:FH κ.st b T ds=some q):∃ v us,vs=v::us/\RD κ (.jr b T) v/\qj κ q us:=by
 unfold FH at h
 split at h
 ·rename_i d0 VZ
  split at h
  ·rename_i T' ds
   cases hb:Nat.beq T T' with
   | false=>grind
   | true =>
    rw[hb]at h
    cases h
    obtain⟨v,us,rfl,g1,g2⟩:=hd.cons_inv
    exact⟨v,us,rfl,by cases g1; exact .yG b T d0 VZ,g2⟩
  ·rename_i b' T' ds
   cases hb:Nat.beq b b'&&Nat.beq T T' with
   | false=>grind
   | true =>
    simp only[Bool.and_eq_true]at hb
    have e1:=Nat.eq_of_beq_eq_true hb.1
    have e2:=Nat.eq_of_beq_eq_true hb.2
    obtain⟨v,us,rfl,g1,g2⟩:=hd.cons_inv
    grind
  ·cases h
 ·cases h
theorem YC{st:St}{b T:Nat}{ds q:List D}(h:FH st b T ds=some q):kL ds=some T:=by
 unfold FH at h
 split at h
 ·split at h
  ·rename_i T' ds
   cases hb:Nat.beq T T' with
   | false=>grind
   | true=>rw[Nat.eq_of_beq_eq_true hb]; rfl
  ·rename_i b' T' ds
   cases hb:Nat.beq b b'&&Nat.beq T T' with
   | false=>grind
   | true =>
    simp only[Bool.and_eq_true]at hb
    rw[Nat.eq_of_beq_eq_true hb.2]; rfl
  ·cases h
 ·cases h
theorem MT{κ:KS}{ds q:List D}{vs:List Value}(hd:qj κ ds vs)(h:Sn ds=some q):∃ v us,vs=v::us/\RD κ .lI v/\qj κ q us:=by
 unfold Sn at h
 split at h
 ·rename_i d ds
  cases hb:d.one with
  | false=>grind
  | true =>
   rw[hb]at h
   cases h
   obtain⟨v,us,rfl,g1,g2⟩:=hd.cons_inv
   exact⟨v,us,rfl,.lI v (g1.sD hb),g2⟩
 ·cases h
theorem gN{κ:KS}{zl:St}{bs:List Bk}(s7:∀ b,rowAt bs b=true->xz zl b=yf κ.st b):∀ (ks:List Sk) (ds:List D) (x:ga ks) (vs:List Value),ks.all (LL bs)=true->(bR κ.st ks ds).leads x->qj κ ds vs ->
  qj κ (wE zl ks x) vs/\∀ d∈wE zl ks x,d.one=true
 | [],ds,x,vs,_,h,hd=>by
  cases ds with
  | nil=>exact⟨hd,λd hm=>by cases hm⟩
  | cons d r=>exact h.elim
 | .im τ::r,ds,x,vs,ho,h,hd=>by
  simp only[bR]at h
  split at h
  ·rename_i p hp
   obtain⟨y,h1,h2⟩:=T.zb.1 h
   cases h2
   obtain⟨c1,c2,rfl,g1,g2⟩:=iR τ hd hp
   simp only[List.all_cons,Bool.and_eq_true]at ho
   obtain⟨k1,k2⟩:=gN s7 r p.2 y c2 ho.2 h1 g2
   refine⟨(fu g1).append k1,λd hm => ?_⟩
   rcases List.mem_append.1 (show d∈flat τ p.1++wE zl r y from hm)with hm | hm
   ·exact bf τ _ d hm
   ·grind
  ·exact h.elim
 | .row b e::r,ds,x,vs,ho,h,hd=>by
  cases ds with
  | nil=>exact h.elim
  | cons d ds =>
   cases d<;>simp only[bR]at h<;>try (exact h.elim)
   rename_i b' qh e' off len
   cases hb:Nat.beq b b'&&decide (e=e')with
   | false=>rw[hb]at h; exact h.elim
   | true =>
    rw[hb,cond_true]at h
    simp only[Bool.and_eq_true,decide_eq_true_eq]at hb
    obtain⟨⟨h1,h2,h3⟩,h⟩:=h
    have:=Nat.eq_of_beq_eq_true hb.1
    obtain⟨-,rfl⟩:=hb
    subst this
    obtain⟨v,us,rfl,g1,g2⟩:=hd.cons_inv
    simp only[List.all_cons,Bool.and_eq_true]at ho
    obtain⟨k1,k2⟩:=gN s7 r ds x us ho.2 h g2
    have e1:wE zl (.row b e::r) x=.ms b qh e off len::wE zl r x:=by
     show D.ms b (xz zl b) e 0 (xz zl b)::_=_
     rw[s7 b ho.1,h1,h2,h3]
    rw[e1]
    refine⟨.cons g1 k1,λd hm => ?_⟩
    rcases List.mem_cons.1 hm with rfl | hm
    ·rfl
    ·grind
 | .op b T::r,ds,x,vs,ho,h,hd=>by
  simp only[List.all_cons,Bool.and_eq_true]at ho
  simp only[bR]at h
  split at h
  ·rename_i q hq
   obtain⟨v,us,rfl,g0,g2⟩:=Nu hd hq
   obtain⟨k1,k2⟩:=gN s7 r q x us ho.2 h g2
   refine⟨show qj κ (D.jr b T::wE zl r x) (v::us)from .cons g0 k1,λd hm => ?_⟩
   rcases List.mem_cons.1 (show d∈D.jr b T::wE zl r x from hm)with rfl | hm
   ·rfl
   ·grind
  ·exact h.elim
 | .un::r,ds,x,vs,ho,h,hd=>by
  simp only[List.all_cons,Bool.and_eq_true]at ho
  simp only[bR]at h
  split at h
  ·rename_i q hq
   obtain⟨v,us,rfl,g0,g2⟩:=MT hd hq
   obtain⟨k1,k2⟩:=gN s7 r q x us ho.2 h g2
   refine⟨show qj κ (D.lI::wE zl r x) (v::us)from .cons g0 k1,λd hm => ?_⟩
   rcases List.mem_cons.1 (show d∈D.lI::wE zl r x from hm)with rfl | hm
   ·rfl
   ·grind
  ·exact h.elim
theorem ik{st zl:St}{bs:List Bk}(h:∀ b,rowAt bs b=true->xz st b=xz zl b):∀ (ks:List Sk) (x:ga ks),ks.all (LL bs)=true->wE st ks x=wE zl ks x
 | [],_,_=>rfl
 | .im τ::r,x,ho=>by
  simp only[List.all_cons,Bool.and_eq_true]at ho
  show flat τ x.1++wE st r x.2=flat τ x.1++wE zl r x.2
  rw[ik h r x.2 ho.2]
 | .row b e::r,x,ho=>by
  simp only[List.all_cons,Bool.and_eq_true]at ho
  show D.ms b (xz st b) e 0 (xz st b)::wE st r x=D.ms b (xz zl b) e 0 (xz zl b)::wE zl r x
  rw[ik h r x ho.2,h b ho.1]
 | .op b T::r,x,ho=>by
  simp only[List.all_cons,Bool.and_eq_true]at ho
  show D.jr b T::wE st r x=D.jr b T::wE zl r x
  rw[ik h r x ho.2]
 | .un::r,x,ho=>by
  simp only[List.all_cons,Bool.and_eq_true]at ho
  show D.lI::wE st r x=D.lI::wE zl r x
  rw[ik h r x ho.2]
theorem tM:∀ (τ:Ty) (x:den τ),∀ y∈flat τ x,∃ σ z,y=.zx σ z:=by
 intro τ x y hy
 induction τ with
 | cons a b ia ib =>
  simp only[flat]at hy
  grind
 | nil=>simp[flat]at hy
 | expr=>simp[flat]at hy; rcases hy with rfl | rfl | rfl | rfl | rfl | rfl<;>exact⟨_,_,rfl⟩
 | _=>simp[flat]at hy; subst hy; exact⟨_,_,rfl⟩
theorem Vu:∀ (τ:Ty) {ds:List D} {p:den τ×List D},uq τ ds=some p->τ.size=0->p.2=ds:=by
 intro τ
 induction τ with
 | nil=>intro ds p h _; simp only[uq,Option.some.injEq]at h; subst h; rfl
 | cons a b ia ib =>
  intro ds p h hz
  simp only[Ty.size]at hz
  simp only[uq]at h
  grind
 | _=>nofun
theorem rG{st zl:St}{tt:Nat}:∀ (ks:List Sk) (ds:List D) (x:ga ks),(bR st ks ds).leads x->kL (wE zl ks x)=some tt->kL ds=some tt
 | [],ds,x,h,ht=>by cases ht
 | .im τ::r,ds,x,h,ht=>by
  simp only[bR]at h
  split at h
  ·rename_i p hp
   obtain⟨y,h1,h2⟩:=T.zb.1 h
   cases h2
   have P3:kL (flat τ p.1++wE zl r y)=some tt:=ht
   cases hf:flat τ p.1 with
   | nil =>
    rw[hf]at P3
    have hz:τ.size=0:=by rw[<- ni τ p.1,hf]; rfl
    have:=Vu τ hp hz
    rw[<- this]
    exact rG r p.2 y h1 P3
   | cons z zs =>
    rw[hf]at P3
    obtain⟨σ,w,e⟩:=tM τ p.1 z (by grind)
    rw[e]at P3
    cases P3
  ·exact h.elim
 | .row b e::r,ds,x,h,ht=>by cases ht
 | .op b T'::r,ds,x,h,ht=>by
  simp only[bR]at h
  split at h
  ·rename_i q hq
   cases ht
   exact YC hq
  ·exact h.elim
 | .un::r,ds,x,h,ht=>by cases ht
theorem rA{d:D}{T:Nat}(ha:d.yX=true)(h:kL (zR d)=some T):d.typed=some T:=by
 cases d with
 | zx τ x =>
  simp only[zR]at h
  cases hf:flat τ x with
  | nil=>rw[hf]at h; cases h
  | cons z zs =>
   obtain⟨σ,w,e⟩:=tM τ x z (by grind)
   rw[hf,e]at h
   cases h
 | agg l=>exact h
 | _=>cases ha
theorem Vi{m:Nat}(τ:Ty)(x:den τ):∀ d∈flat τ x,va m d=true:=λd hd=>by
 obtain⟨σ,z,rfl⟩:=tM τ x d hd
 rfl
theorem j5{m:Nat}{st:St}{bs:List Bk}(hb:∀ b,rowAt bs b=true->b<m)(EU:∀ b,rK bs b=true->b<m):∀ (ks:List Sk) (x:ga ks),ks.all (LL bs)=true->∀ d∈wE st ks x,va m d=true
 | [],_,_,d,hd=>by cases hd
 | .im τ::r,x,ho,d,hd=>by
  simp only[List.all_cons,Bool.and_eq_true]at ho
  rcases List.mem_append.1 (show d∈flat τ x.1++wE st r x.2 from hd)with hd | hd
  ·exact Vi τ _ d hd
  ·exact j5 hb EU r x.2 ho.2 d hd
 | .row b e::r,x,ho,d,hd=>by
  simp only[List.all_cons,Bool.and_eq_true]at ho
  rcases List.mem_cons.1 (show d∈D.ms b (xz st b) e 0 (xz st b)::wE st r x from hd)with rfl | hd
  ·have:=hb b ho.1
   simp only[va,Nat.blt,Nat.ble_eq]; exact this
  ·exact j5 hb EU r x ho.2 d hd
 | .op b T::r,x,ho,d,hd=>by
  simp only[List.all_cons,Bool.and_eq_true]at ho
  rcases List.mem_cons.1 (show d∈D.jr b T::wE st r x from hd)with rfl | hd
  ·have:=EU b ho.1
   simp only[va,Nat.blt,Nat.ble_eq]; exact this
  ·exact j5 hb EU r x ho.2 d hd
 | .un::r,x,ho,d,hd=>by
  simp only[List.all_cons,Bool.and_eq_true]at ho
  rcases List.mem_cons.1 (show d∈D.lI::wE st r x from hd)with rfl | hd
  ·rfl
  ·exact j5 hb EU r x ho.2 d hd
theorem iU{κ:KS}:∀ (ms:List Mc) (ds:List D) (x:cS ms) (vs:List Value),(rB ms ds).leads x->qj κ ds vs->qj κ (lV ms x) vs
 | [],ds,x,vs,h,hd=>by
  cases ds with
  | nil=>exact hd
  | cons d r=>exact h.elim
 | .im τ::r,ds,x,vs,h,hd=>by
  cases ds with
  | nil=>exact h.elim
  | cons d ds =>
   simp only[rB]at h
   split at h
   ·rename_i y hy
    obtain⟨z,h1,h2⟩:=T.zb.1 h
    cases h2
    obtain⟨v,us,rfl,g1,g2⟩:=hd.cons_inv
    exact .cons (yD g1 hy) (iU r ds z us h1 g2)
   ·exact h.elim
 | .rp τ::r,ds,x,vs,h,hd=>by
  cases ds with
  | nil=>exact h.elim
  | cons d ds =>
   cases d<;>simp only[rB]at h<;>try (exact h.elim)
   split at h
   ·rename_i y hy
    obtain⟨e,hx⟩:=zX hy
    cases e
    cases hx
    obtain⟨z,h1,h2⟩:=T.zb.1 h
    cases h2
    obtain⟨v,us,rfl,g1,g2⟩:=hd.cons_inv
    exact .cons g1 (iU r ds z us h1 g2)
   ·exact h.elim
 | .pt b::r,ds,x,vs,h,hd=>by
  cases ds with
  | nil=>exact h.elim
  | cons d ds =>
   cases d<;>simp only[rB]at h<;>try (exact h.elim)
   rename_i b' off
   cases hb:Nat.beq b b'&&Nat.beq off 0 with
   | false=>rw[hb]at h; exact h.elim
   | true =>
    rw[hb]at h
    simp only[Bool.and_eq_true]at hb
    have e1:=Nat.eq_of_beq_eq_true hb.1
    have e2:=Nat.eq_of_beq_eq_true hb.2
    subst e1 e2
    obtain⟨v,us,rfl,g1,g2⟩:=hd.cons_inv
    exact .cons g1 (iU r ds x us h g2)
theorem gE{m:Nat}{bs:List Bk}(hb:∀ b,rK bs b=true->b<m):∀ (ms:List Mc) (x:cS ms),ms.all (z2Q bs)=true->∀ d∈lV ms x,va m d=true
 | [],_,_,d,hd=>by cases hd
 | .im τ::r,x,ho,d,hd=>by
  simp only[List.all_cons,Bool.and_eq_true]at ho
  rcases List.mem_cons.1 (show d∈D.zx τ x.1::lV r x.2 from hd)with rfl | hd
  ·rfl
  ·exact gE hb r x.2 ho.2 d hd
 | .rp τ::r,x,ho,d,hd=>by
  simp only[List.all_cons,Bool.and_eq_true]at ho
  rcases List.mem_cons.1 (show d∈D.qA τ x.1::lV r x.2 from hd)with rfl | hd
  ·rfl
  ·exact gE hb r x.2 ho.2 d hd
 | .pt b::r,x,ho,d,hd=>by
  simp only[List.all_cons,Bool.and_eq_true]at ho
  rcases List.mem_cons.1 (show d∈D.ptr b 0::lV r x from hd)with rfl | hd
  ·have:=hb b ho.1
   simp only[va,Nat.blt,Nat.ble_eq]; exact this
  ·exact gE hb r x ho.2 d hd
theorem VE{κ κ':KS}(hw:Wk κ κ'){k:Dk}{d:D}{x:k.den}{v:Value}{bs:List Bk}(xO:Jt bs k=true)(s7:∀ b,rowAt bs b=true->xz κ'.st b=xz κ.st b)
  {zl:St} (xm:∀ b,rowAt bs b=true->xz zl b=xz κ'.st b) (hlen:∀ b,rowAt bs b=true->xz κ.st b=yf κ.st b) (h:(mr κ.st k d).leads x) (hd:RD κ d v):RD κ' (lB zl k x) v:=by
 cases k with
 | zx τ=>exact hw.rd (yD hd (T.vx.1 h))
 | qA τ =>
  cases d<;>simp only[mr]at h<;>try (exact h.elim)
  obtain⟨e,hx⟩:=zX (T.vx.1 h)
  cases e
  cases hx
  exact hw.rd hd
 | sub b e =>
  cases d<;>simp only[mr]at h<;>try (exact h.elim)
  rename_i b' qh e' off len
  cases hb:Nat.beq b b'&&decide (e=e')with
  | false=>rw[hb]at h; exact h.elim
  | true =>
   rw[hb,cond_true]at h
   simp only[Bool.and_eq_true,decide_eq_true_eq]at hb
   obtain⟨hv,h⟩:=h
   cases h
   have:=Nat.eq_of_beq_eq_true hb.1
   obtain⟨-,rfl⟩:=hb
   subst this
   simp only[lB]
   rw[xm b xO,s7 b xO,<- hv]
   exact hw.rd hd
 | qE f caps =>
  cases d<;>simp only[mr]at h<;>try (exact h.elim)
  rename_i f' l
  cases hb:Nat.beq f f' with
  | false=>rw[hb]at h; exact h.elim
  | true =>
   rw[hb,cond_true]at h
   have:=Nat.eq_of_beq_eq_true hb
   subst this
   have hx:=T.vx.1 h
   cases hd with
   | qE _ _ vs hl hh =>
    have:=rm caps l x vs hx (⟨hl,hh⟩:qj κ l vs)
    exact hw.rd (.qE f _ vs this.1 this.2)
 | st ks =>
  simp only[mr]at h
  cases ha:d.yX with
  | false=>rw[ha]at h; exact h.elim
  | true =>
   rw[ha]at h
   have ht:d.vS=false:=by cases d<;>first | rfl | (simp[D.yX]at ha)
   obtain⟨g1,g2⟩:=gN (zl:=zl) (λb hb=>(xm b hb).trans ((s7 b hb).trans (hlen b hb))) ks (zR d) x _ xO h (uj hd ht)
   obtain⟨c,hc⟩:=Du hd ha
   subst hc
   have g1':qj κ (wE zl ks x) c.toList:=g1
   have:=RD.agg (κ:=κ) _ c.toList g1'.1 g2 g1'.2
   exact hw.rd (show RD κ (.agg (wE zl ks x)) (.agg c) by simpa using this)
 | mclo f ms =>
  cases d<;>simp only[mr]at h<;>try (exact h.elim)
  rename_i f' l
  cases hb:Nat.beq f f' with
  | false=>rw[hb]at h; exact h.elim
  | true =>
   rw[hb]at h
   have:=Nat.eq_of_beq_eq_true hb
   subst this
   cases hd with
   | qE _ _ vs hl hh =>
    have:=iU ms l x vs h (⟨hl,hh⟩:qj κ l vs)
    exact hw.rd (show RD κ (.qE f (lV ms x)) _ from .qE f _ vs this.1 this.2)
theorem Xy:∀ {l:List (Nat×Nat)} {ds:List D},mO l ds=true->ds=l.map λp=>.ptr p.1 p.2
 | [],[],_=>rfl
 | [],_::_,h=>by simp[mO]at h
 | p::r,[],h=>by simp[mO]at h
 | p::r,d::ds,h=>by
  cases d<;>simp only[mO]at h<;>try (cases h; done)
  simp only[Bool.and_eq_true]at h
  rw[Xy h.2,<- Nat.eq_of_beq_eq_true h.1.1,<- Nat.eq_of_beq_eq_true h.1.2]
  rfl
theorem MQ{st zl:St}{ck:Ck}{d:D}{bs:List Bk}(xO:CE bs ck=true)(s7:∀ b,rowAt bs b=true->xz zl b=yf st b)(h:(rY st ck d).leads ()):JK zl ck=d:=by
 cases ck with
 | ptr b off =>
  cases d<;>simp only[rY]at h<;>try (exact h.elim)
  rename_i b' off'
  cases hb:Nat.beq b b'&&Nat.beq off off' with
  | false=>rw[hb]at h; exact h.elim
  | true =>
   simp only[Bool.and_eq_true]at hb
   rw[<- Nat.eq_of_beq_eq_true hb.1,<- Nat.eq_of_beq_eq_true hb.2]
   rfl
 | cur b e =>
  cases d<;>simp only[rY]at h<;>try (exact h.elim)
  rename_i b' qh e' off len
  cases hb:Nat.beq b b'&&decide (e=e')with
  | false=>rw[hb]at h; exact h.elim
  | true =>
   rw[hb,cond_true]at h
   simp only[Bool.and_eq_true,decide_eq_true_eq]at hb
   obtain⟨⟨h1,h2,h3⟩,_⟩:=h
   have:=Nat.eq_of_beq_eq_true hb.1
   obtain⟨-,rfl⟩:=hb
   subst this
   simp only[JK]
   rw[s7 b xO,h1,h2,h3]
 | qZ=>cases d<;>simp only[rY]at h<;>first | rfl | exact h.elim
 | jF=>cases d<;>simp only[rY]at h<;>first | rfl | exact h.elim
 | qB=>cases d<;>simp only[rY]at h<;>first | rfl | exact h.elim
 | qE f l =>
  cases d<;>simp only[rY]at h<;>try (exact h.elim)
  rename_i f' l'
  cases hb:Nat.beq f f'&&mO l l' with
  | false=>rw[hb]at h; exact h.elim
  | true =>
   simp only[Bool.and_eq_true]at hb
   rw[<- Nat.eq_of_beq_eq_true hb.1,Xy hb.2]
   rfl
theorem U4{fr:Fr}{st:St}:∀ {cs:List (Nat×Ck)},(LY fr st cs).leads ()->∀ p∈cs,∃ d,fr.get p.1=some d/\(rY st p.2 d).leads ()
 | [],_,p,hp=>by cases hp
 | q::r,h,p,hp=>by
  simp only[LY]at h
  split at h
  ·rename_i d hd
   simp only[T.zp]at h
   obtain⟨⟨⟩,h1,h2⟩:=h
   rcases List.mem_cons.1 hp with rfl | hp
   ·grind
   ·exact U4 h2 p hp
  ·exact h.elim
def Cy(p:Dk->Bool)(st:St):List jn->List Bd->Prop
 | [],[]=>True
 | b::bl,.a e xs::r=>b=.arr xs.length e xs/\Cy p st bl r
 | b::bl,.v k x::r=>(∃ d,b=.var d/\(k.plain=true/\p k=true)/\(mr st k d).leads x)/\Cy p st bl r
 | _,_=>False
theorem FJ{e:Ty}{b:jn}{x:List (den e)}(h:(DW e b).leads x):b=.arr x.length e x:=by
 unfold DW at h
 split at h
 ·split at h
  ·rename_i ys hy
   obtain⟨h1,h2⟩:=h
   cases h2
   obtain⟨he,hx⟩:=zX hy
   grind
  ·exact h.elim
 ·exact h.elim
theorem EL{st:St}{k:Dk}{b:jn}{x:k.den}(h:(ED st k b).leads x):∃ d,b=.var d/\k.plain=true/\(mr st k d).leads x:=by
 cases b with
 | var d =>
  simp only[ED]at h
  cases hp:k.plain with
  | false=>rw[hp]at h; exact h.elim
  | true=>grind
 | _=>exact h.elim
def Qq(st:St):(i:It)->i.den->Fr
 | .s t k,x=>[(t,some (lB st k x))]
 | .v _,_=>[]
 | .a _,_=>[]
def DQ:(i:It)->i.den->List Bd
 | .s _ _,_=>[]
 | .v k,x=>[.v k x]
 | .a e,x=>[.a e x]
theorem Q1(st:St)(i:It)(x:i.den):bq st [i] x=Qq st i x:=by cases i<;>rfl
theorem oU(st:St)(i j:It)(r:List It)(x:i.den×wg (j::r)):bq st (i::j::r) x=Qq st i x.1++bq st (j::r) x.2:=by cases i<;>rfl
theorem Fu(i:It)(x:i.den):dC [i] x=DQ i x:=by cases i<;>rfl
theorem D5(i j:It)(r:List It)(x:i.den×wg (j::r)):dC (i::j::r) x=DQ i x.1++dC (j::r) x.2:=by cases i<;>rfl
def z2o(fr:Fr)(st zl:St)(l:List It)(p:Nat×Option D):Prop:=∃ (k:Dk) (y:k.den) (d:D),(It.s p.1 k)∈l/\fr.get p.1=some d/\(mr st k d).leads y/\p.2=some (lB zl k y)
theorem He{p:Dk->Bool}{fr:Fr}{st zl:St}{bl:List jn}{i:It}{x:i.den×List jn}(hp:∀ k,i=.v k->p k=true)(h:(JD fr st bl i).leads x) :
  (∀ bd,Cy p st x.2 bd->Cy p st bl (DQ i x.1++bd))/\∀ p∈Qq zl i x.1,z2o fr st zl [i] p:=by
 cases i with
 | s t k =>
  simp only[JD]at h
  split at h
  ·rename_i d hd
   rw[T.zp]at h
   obtain⟨y,h1,rfl⟩:=h
   refine⟨λbd hb=>hb,λp hp => ?_⟩
   simp only[Qq,List.mem_singleton]at hp
   subst hp
   exact⟨k,y,d,by simp,hd,h1,rfl⟩
  ·exact h.elim
 | v k =>
  cases bl with
  | nil=>exact h.elim
  | cons b r =>
   simp only[JD]at h
   rw[T.zp]at h
   obtain⟨y,h1,rfl⟩:=h
   obtain⟨d,q1,q2,q3⟩:=EL h1
   exact⟨λbd hb=>⟨⟨d,q1,⟨q2,hp k rfl⟩,q3⟩,hb⟩,λp hp=>by cases hp⟩
 | a e =>
  cases bl with
  | nil=>exact h.elim
  | cons b r =>
   simp only[JD]at h
   rw[T.zp]at h
   obtain⟨y,h1,rfl⟩:=h
   exact⟨λbd hb=>⟨FJ h1,hb⟩,λp hp=>by cases hp⟩
theorem J8{α:Type}{x:α×List jn}{y:α}(h:(UP x).leads y):x=(y,[]):=by
 obtain⟨a,bl⟩:=x
 cases bl with
 | nil=>cases h; rfl
 | cons=>exact h.elim
theorem od{p:Dk->Bool}{fr:Fr}{st zl:St}:∀ (l:List It) (bl:List jn) (x:wg l),(∀ k,It.v k∈l->p k=true)->(Xb fr st l bl).leads x ->
  Cy p st bl (dC l x)/\∀ p∈bq zl l x,z2o fr st zl l p
 | [],bl,x,_,h=>by
  have h':(UP ((),bl)).leads x:=h
  have:=J8 h'
  cases this
  exact⟨trivial,λp hp=>by cases hp⟩
 | [i],bl,x,hp,h=>by
  have h':((JD fr st bl i).bind UP).leads x:=h
  obtain⟨y,h1,h2⟩:=T.zb.1 h'
  have:=J8 h2
  subst this
  obtain⟨g1,g2⟩:=He (p:=p) (zl:=zl) (λk hk=>hp k (by grind)) h1
  have e1:dC [i] x=DQ i x:=Fu i x
  have e2:bq zl [i] x=Qq zl i x:=Q1 zl i x
  have:=g1 [] trivial
  grind
 | i::j::r,bl,x,hp,h=>by
  have h':((JD fr st bl i).bind λx=>(Xb fr st (j::r) x.2).bind λy=>T.ret (x.1,y)).leads x:=h
  obtain⟨y,h1,h2⟩:=T.zb.1 h'
  obtain⟨z,h3,h4⟩:=T.zb.1 h2
  cases h4
  obtain⟨g1,g2⟩:=He (p:=p) (zl:=zl) (λk hk=>hp k (by grind)) h1
  obtain⟨k1,k2⟩:=od (p:=p) (zl:=zl) (j::r) y.2 z (λk hk=>hp k (List.mem_cons_of_mem _ hk)) h3
  have e1:dC (i::j::r) (y.1,z)=DQ i y.1++dC (j::r) z:=D5 i j r (y.1,z)
  have e2:bq zl (i::j::r) (y.1,z)=Qq zl i y.1++bq zl (j::r) z:=oU zl i j r (y.1,z)
  rw[e1,e2]
  refine⟨g1 _ k1,λp hp => ?_⟩
  rcases List.mem_append.1 hp with hp | hp
  ·obtain⟨k,w,d,q1,q2⟩:=g2 p hp
   exact⟨k,w,d,by grind,q2⟩
  ·obtain⟨k,w,d,q1,q2⟩:=k2 p hp
   exact⟨k,w,d,List.mem_cons_of_mem _ q1,q2⟩
inductive XF(p:Dk->Bool)(st zl:St):Bk->jn->jn->Prop
 | arr (e e':Ty) (xs:List (den e)):XF p st zl (.arr e') (.arr xs.length e xs) (.arr xs.length e xs)
 | var (k k':Dk) (d:D) (x:k.den) (hp:k.plain=true/\p k=true) (h:(mr st k d).leads x):XF p st zl (.var k') (.var d) (.var (lB zl k x))
 | cvar (ck:Ck) (d:D) (h:(rY st ck d).leads ()):XF p st zl (.cvar ck) (.var d) (.var (JK zl ck))
 | dead (b:jn) (h:KV b=false):XF p st zl .dead b .dead
def yx:List Bd->List Bool
 | []=>[]
 | .v _ _::r=>false::yx r
 | .a _ _::r=>true::yx r
theorem dK:∀ (l:List It) (x:wg l),yx (dC l x)=kinds l
 | [],_=>rfl
 | [.s _ _],_=>rfl
 | [.v _],_=>rfl
 | [.a _],_=>rfl
 | .s _ _::j::r,x=>dK (j::r) x.2
 | .v _::j::r,x=>congrArg (false :: ·) (dK (j::r) x.2)
 | .a _::j::r,x=>congrArg (true :: ·) (dK (j::r) x.2)
theorem nw{p:Dk->Bool}{st st0:St}:∀ {bs:List Bk} {blocks bl:List jn} {bd:List Bd},(Qd st bs blocks).leads bl->Cy p st bl bd->jP bs (yx bd)=true ->
  (wM st0 bs bd).length=bs.length/\(∀ b,rowAt bs b=true->xz (y5 bs bd) b=yf blocks b/\xz (wM st0 bs bd) b=yf blocks b/\xz blocks b=yf blocks b) /\
  ∀ (i:Nat) (k:Bk),bs[i]? = some k->∃ B B',blocks[i]? = some B/\(wM st0 bs bd)[i]? = some B'/\XF p st st0 k B B'
 | [],blocks,bl,bd,h,hb,ho=>by
  refine⟨by simp[wM],λb hb=>by simp[rowAt]at hb,λi k hk=>by simp at hk⟩
 | k::r,[],bl,bd,h,hb,ho=>by cases k<;>exact h.elim
 | .arr e::r,b::blocks,bl,bd,h,hb,ho=>by
  simp only[Qd,T.zp]at h
  obtain⟨l,h1,rfl⟩:=h
  cases bd with
  | nil=>exact hb.elim
  | cons q bd =>
   cases q with
   | v k x=>simp[yx,jP]at ho
   | a e' xs =>
    obtain⟨rfl,UE⟩:=hb
    simp only[yx,jP,Bool.true_and]at ho
    obtain⟨g1,g2,g3⟩:=nw (st0:=st0) h1 UE ho
    refine⟨by simp[wM,g1],λb hb => ?_,λi k hk => ?_⟩
    ·cases b with
     | zero=>simp[y5,wM,xz,z04,yf]
     | succ b=>have:=g2 b (by simpa[rowAt]using hb); simpa[y5,wM,xz,yf]using this
    ·cases i with
     | zero=>simp at hk; subst hk; exact⟨_,_,rfl,rfl,.arr e' e xs⟩
     | succ i=>simpa[wM]using g3 i k (by simpa using hk)
 | .var k0::r,b::blocks,bl,bd,h,hb,ho=>by
  simp only[Qd,T.zp]at h
  obtain⟨l,h1,rfl⟩:=h
  cases bd with
  | nil=>exact hb.elim
  | cons q bd =>
   cases q with
   | a e' xs=>simp[yx,jP]at ho
   | v k x =>
    obtain⟨⟨d,rfl,hp,hd⟩,UE⟩:=hb
    simp only[yx,jP,Bool.not_false,Bool.true_and]at ho
    obtain⟨g1,g2,g3⟩:=nw (st0:=st0) h1 UE ho
    refine⟨by simp[wM,g1],λb hb => ?_,λi k hk => ?_⟩
    ·cases b with
     | zero=>simp[rowAt]at hb
     | succ b=>have:=g2 b (by simpa[rowAt]using hb); simpa[y5,wM,xz,yf]using this
    ·cases i with
     | zero=>simp at hk; subst hk; exact⟨_,_,rfl,rfl,.var k k0 d x hp hd⟩
     | succ i=>simpa[wM]using g3 i k (by simpa using hk)
 | .cvar ck::r,b::blocks,bl,bd,h,hb,ho=>by
  cases b with
  | var d =>
   simp only[Qd,T.zp]at h
   obtain⟨⟨⟩,h0,h1⟩:=h
   have P2:jP r (yx bd)=true:=by cases bd<;>simpa[jP]using ho
   obtain⟨g1,g2,g3⟩:=nw (st0:=st0) h1 hb P2
   have e1:wM st0 (.cvar ck::r) bd=.var (JK st0 ck)::wM st0 r bd:=by cases bd<;>rfl
   have e0:y5 (.cvar ck::r) bd=.dead::y5 r bd:=by cases bd<;>rfl
   rw[e0,e1]
   refine⟨by simp[g1],λb hb => ?_,λi k hk => ?_⟩
   ·cases b with
    | zero=>simp[rowAt]at hb
    | succ b=>have:=g2 b (by simpa[rowAt]using hb); simpa[xz,yf]using this
   ·cases i with
    | zero=>simp at hk; subst hk; exact⟨_,_,rfl,rfl,.cvar ck d h0⟩
    | succ i=>grind
  | _=>exact h.elim
 | .dead::r,b::blocks,bl,bd,h,hb,ho=>by
  simp only[Qd]at h
  cases hv:KV b with
  | true=>rw[hv]at h; exact h.elim
  | false =>
   rw[hv,cond_false]at h
   have P2:jP r (yx bd)=true:=by cases bd<;>simpa[jP]using ho
   obtain⟨g1,g2,g3⟩:=nw (st0:=st0) h hb P2
   have e1:wM st0 (.dead::r) bd=.dead::wM st0 r bd:=by cases bd<;>rfl
   have e0:y5 (.dead::r) bd=.dead::y5 r bd:=by cases bd<;>rfl
   rw[e0,e1]
   refine⟨by simp[g1],λb hb => ?_,λi k hk => ?_⟩
   ·cases b with
    | zero=>simp[rowAt]at hb
    | succ b=>have:=g2 b (by simpa[rowAt]using hb); simpa[xz,yf]using this
   ·cases i with
    | zero=>simp at hk; subst hk; exact⟨_,_,rfl,rfl,.dead b hv⟩
    | succ i=>grind
inductive Refs(m:Nat):D->Prop
 | zx (τ:Ty) (x:AM.den τ):Refs m (.zx τ x)
 | tight (e:Ty) (l:List (AM.den e)) (ne:Bool):Refs m (.tight e l ne)
 | qZ:Refs m .qZ
 | jF:Refs m .jF
 | qB:Refs m .qB
 | vj:Refs m .vj
 | vf:Refs m .vf
 | lI:Refs m .lI
 | yK (T:Nat):Refs m (.yK T)
 | jr (b T:Nat) (h:b<m):Refs m (.jr b T)
 | ptr (b off:Nat) (h:b<m):Refs m (.ptr b off)
 | qA (τ:Ty) (x:AM.den τ):Refs m (.qA τ x)
 | vD (b qh:Nat) (e:Ty) (idx off:Nat) (h:b<m):Refs m (.vD b qh e idx off)
 | ms (b qh:Nat) (e:Ty) (off len:Nat) (h:b<m):Refs m (.ms b qh e off len)
 | qE (f:Nat) (l:List D) (h:∀ i (hi:i<l.length),Refs m l[i]):Refs m (.qE f l)
 | agg (l:List D) (h:∀ i (hi:i<l.length),Refs m l[i]):Refs m (.agg l)
 | jW (l:List D) (h:∀ i (hi:i<l.length),Refs m l[i]):Refs m (.jW l)
 | iface (t:Nat) (d:D) (h:Refs m d):Refs m (.iface t d)
theorem Refs.mono{m m':Nat}(hm:m<=m'){d:D}(h:Refs m d):Refs m' d:=by
 induction h with
 | ptr b off h=>exact .ptr b off (by omega)
 | jr b T h=>exact .jr b T (by omega)
 | vD b qh e idx off h=>exact .vD b qh e idx off (by omega)
 | ms b qh e off len h=>exact .ms b qh e off len (by omega)
 | qE f l h ih=>exact .qE f l ih
 | agg l h ih=>exact .agg l ih
 | jW l h ih=>exact .jW l ih
 | iface t d h ih=>exact .iface t d ih
 | _=>constructor
theorem Mf{κ:KS}{m:Nat}{d:D}{v:Value}(h:RD κ d v)(hr:Refs m d):RD (κ.cut m) d v:=by
 induction h with
 | zx τ y cs h=>exact .zx τ y cs h
 | qL e a=>exact .qL e a
 | tight e l ne blk off f vP xO h hc=>exact .tight e l ne blk off f vP xO h hc
 | qZ=>exact .qZ
 | jF=>exact .jF
 | qB=>exact .qB
 | vj=>exact .vj
 | vf=>exact .vf
 | lI v h=>exact .lI v h
 | yK T=>exact .yK T
 | yG b T d hb=>cases hr with | jr _ _ qc=>exact gI (.yG b T d hb) (by simp only[va,Nat.blt,Nat.ble_eq]; exact qc)
 | yF b T blk n d hb h=>cases hr with | jr _ _ qc=>exact gI (.yF b T blk n d hb h) (by simp only[va,Nat.blt,Nat.ble_eq]; exact qc)
 | ptr b off blk n d hb h=>cases hr with | ptr _ _ qc=>exact gI (.ptr b off blk n d hb h) (by simp only[va,Nat.blt,Nat.ble_eq]; exact qc)
 | qA τ y cs blk off xO h hc=>exact .qA τ y cs blk off xO h hc
 | vD b qh e idx off blk o hb h=>cases hr with | vD _ _ _ _ _ qc=>exact gI (.vD b qh e idx off blk o hb h) (by simp only[va,Nat.blt,Nat.ble_eq]; exact qc)
 | ms b qh e off len cap a hb wD ha fI h=>cases hr with | ms _ _ _ _ _ qc=>exact gI (.ms b qh e off len cap a hb wD ha fI h) (by simp only[va,Nat.blt,Nat.ble_eq]; exact qc)
 | qE f l vs hl h ih=>cases hr with | qE _ _ hh=>exact .qE f l vs hl λi h1 h2=>ih i h1 h2 (hh i h1)
 | agg l vs hl ho h ih=>cases hr with | agg _ hh=>exact .agg l vs hl ho λi h1 h2=>ih i h1 h2 (hh i h1)
 | jW l vs hl h ih=>cases hr with | jW _ hh=>exact .jW l vs hl λi h1 h2=>ih i h1 h2 (hh i h1)
 | iface t d v h ih=>cases hr with | iface _ _ hh=>exact .iface t d v (ih hh)
theorem Vt{a b:Nat}(h:a<b):Nat.blt a b=true:=by
 simp; exact h
theorem DB{κ κe:KS}{m:Nat}(hx:Ext κ κe)(hm:κ.st.length<=m):Ext κ (κe.cut m):=by
 have qc:∀ b x,κ.st[b]? = some x->b<m:=λb x h=>Nat.lt_of_lt_of_le (List.getElem?_eq_some_iff.1 h).1 hm
 have X0:∀ b,b<m->(κe.cut m).ph[b]? = κe.ph[b]? := λb hb=>by simp only[KS.cut]; rw[List.getElem?_take,if_pos hb]
 refine⟨hx.os,hx.tape,hx.output,hx.size,hx.same,hx.fresh,λb blk n h=>hx.Lk b blk n (y8 h).1,λb d h => ?_,λb v0 e xs h => ?_,λb h=>zL (hx.dead b h) (qc b _ h),?_,hx.frame⟩
 ·obtain⟨⟨d',h1⟩,h2⟩:=hx.var b d h
  exact⟨⟨d',zL h1 (qc b _ h)⟩,(X0 b (qc b _ h)).trans h2⟩
 ·rcases hx.arr b v0 e xs h with h1 | ⟨v1,x1,h1,h2,h3⟩
  ·exact .inl (zL h1 (qc b _ h))
  ·exact .inr ⟨v1,x1,zL h1 (qc b _ h),h2,λhe=>⟨(X0 b (qc b _ h)).trans (h3 he).1,(h3 he).2⟩⟩
 ·have:=hx.Uu
  simp[KS.cut]; omega
theorem vY.oj{κ0 κ:KS}{fr:Fr}{a:Act}{sh:vY}{x:sh.den}(hx:Ext κ0 κ)(hI:Inv κ)(hR:Rel κ n fr.get a)(hl:κ0.st.length<=sh.bs.length)(h:(sh.un fr κ.st).leads x) :
  ∃ κ':KS,κ'.w=κ.w/\κ'.st=sh.st x/\Inv κ'/\Ext κ0 κ'/\Rel κ' n (sh.fr x).get a/\∀ (d:D) (v:Value),Refs sh.bs.length d->RD κ d v->RD κ' d v:=by
 unfold vY.un at h
 cases hc:sh.ok&&(κ.st.take sh.bs.length).all (V3 sh.bs.length)with
 | false=>rw[hc]at h; exact h.elim
 | true =>
  rw[hc,cond_true]at h
  simp only[Bool.and_eq_true,vY.ok,List.all_eq_true]at hc
  obtain⟨⟨⟨⟨z4S,z1Q⟩,pj⟩,hbs⟩,sx⟩:=hc
  obtain⟨⟨⟩,h1,h⟩:=T.zb.1 h
  obtain⟨bl,h2,h3⟩:=T.zb.1 h
  have hIc:=NH hI sx
  -- the store cut
  let m:=sh.bs.length
  obtain⟨g1,g2⟩:=od (p:=Jt sh.bs) (zl:=sh.st x) sh.eO bl x (λk hk=>z1Q _ hk) h3
  obtain⟨k1,k2,k3⟩:=nw (st0:=y5 sh.bs (dC sh.eO x)) h2 g1 ((congrArg (jP sh.bs) (dK sh.eO x)).trans z4S)
  have xm:sh.st x=wM (y5 sh.bs (dC sh.eO x)) sh.bs (dC sh.eO x):=rfl
  rw[<- xm]at k1 k2 k3
  let κ':KS:={ κ.cut m with st:=sh.st x }
  have hm:m<=κ.st.length:=by
   rcases Nat.eq_zero_or_pos m with h0 | h0
   ·omega
   ·obtain⟨B,B',q1,_⟩:=k3 (m-1) (sh.bs[m-1]'(by show m-1<m; omega)) (by simp)
    grind
  have z5f:∀ i B,κ.st[i]? = some B->i<m->(κ.cut m).st[i]? = some B:=λi B hB hi=>zL hB hi
  have BW:(κ.cut m).st.length=m:=by simp[KS.cut]; omega
  have pair:∀ i,i<m->∃ k B B',sh.bs[i]? = some k/\(κ.cut m).st[i]? = some B/\κ'.st[i]? = some B'/\XF (Jt sh.bs) κ.st (y5 sh.bs (dC sh.eO x)) k B B':=by
   intro i hi
   obtain⟨B,B',q1,q2,q3⟩:=k3 i (sh.bs[i]'hi) (by simp)
   grind
  have lt:∀ {i:Nat} {B:jn},(κ.cut m).st[i]? = some B->i<m:=λhB=>by have:=(List.getElem?_eq_some_iff.1 hB).1; omega
  have lt':∀ {i:Nat} {B:jn},κ'.st[i]? = some B->i<m:=λhB=>by have:=(List.getElem?_eq_some_iff.1 hB).1; have e:κ'.st.length=m:=k1; omega
  have hw:Wk (κ.cut m) κ':=by
   refine⟨rfl,rfl,rfl,by show(sh.st x).length=_; rw[k1,BW],λb d hb => ?_,λb v e xs hb => ?_,λb v e xs hb => ?_,λb hb => ?_⟩
   ·obtain⟨k,B,B',q0,q1,q2,q3⟩:=pair b (lt hb)
    rw[hb]at q1; cases q1
    cases q3 with
    | var k' _ _ y _ hy=>grind
    | cvar ck _ hy=>grind
    | dead _ hv=>cases hv
   ·obtain⟨k,B,B',q0,q1,q2,q3⟩:=pair b (lt hb)
    rw[hb]at q1; cases q1
    cases q3 with
    | arr=>grind
    | dead=>grind
   ·obtain⟨k,B,B',q0,q1,q2,q3⟩:=pair b (lt' hb)
    rw[hb]at q2; cases q2
    cases q3 with
    | arr=>exact q1
   ·obtain⟨k,B,B',q0,q1,q2,q3⟩:=pair b (lt hb)
    rw[hb]at q1; cases q1
    cases q3 with
    | dead=>exact q2
  have VF:∀ b,rowAt sh.bs b=true->xz κ'.st b=yf κ.st b/\xz (y5 sh.bs (dC sh.eO x)) b=yf κ.st b/\xz κ.st b=yf κ.st b :=
   λb hb=>⟨(k2 b hb).2.1,(k2 b hb).1,(k2 b hb).2.2⟩
  have z36:∀ b,rowAt sh.bs b=true->xz (κ.cut m).st b=xz κ.st b:=by
   intro b hb
   have MY:b<m:=by
    unfold rowAt at hb
    split at hb
    ·rename_i hh; exact(List.getElem?_eq_some_iff.1 hh).1
    ·cases hb
   unfold xz
   simp only[KS.cut]
   rw[List.getElem?_take,if_pos MY]
  have MY:∀ b,rowAt sh.bs b=true->b<m:=by
   intro b hb
   unfold rowAt at hb
   split at hb
   ·rename_i hh; exact(List.getElem?_eq_some_iff.1 hh).1
   ·cases hb
  have EU:∀ b,rK sh.bs b=true->b<m:=by
   intro b hb
   unfold rK at hb
   split at hb
   ·rename_i hh; exact(List.getElem?_eq_some_iff.1 hh).1
   ·rename_i hh; exact(List.getElem?_eq_some_iff.1 hh).1
   ·cases hb
  have dk:∀ (k:Dk) (y:k.den) (d:D) (v:Value) (zl:St),Jt sh.bs k=true->(∀ b,rowAt sh.bs b=true->xz zl b=yf κ.st b)->(mr κ.st k d).leads y->RD κ d v->RD κ' (lB zl k y) v:=by
   intro k y d v zl ho hv hy hd
   have hwk:Wk κ κ:=⟨rfl,rfl,rfl,rfl,λb d h=>⟨d,h⟩,λb v e xs h=>.inl h,λb v e xs h=>h,λb h=>h⟩
   have h0:=VE hwk ho (λ_ _=>rfl) (zl:=κ.st) (λ_ _=>rfl) (λb hb=>(VF b hb).2.2) hy hd
   have z6v:kM m (lB κ.st k y)=true:=by
    cases k with
    | sub b e=>exact Vt (MY b ho)
    | qE f caps =>
     have:∀ (l:List pn) (z:y7 l),(de l z).all (va m)=true:=by
      intro l
      induction l with
      | nil=>intro z; rfl
      | cons p r ih =>
       intro z
       have hp:∀ w:AM.den p.ty,va m (XK p w)=true:=λw=>by cases p<;>rfl
       cases r with
       | nil=>simp only[de,List.all_cons,List.all_nil,Bool.and_true]; exact hp z
       | cons q r=>simp only[de,List.all_cons,Bool.and_eq_true]; exact⟨hp z.1,by simpa using ih z.2⟩
     exact this caps y
    | st ks=>exact List.all_eq_true.2 (j5 MY EU ks y ho)
    | mclo f ms=>exact List.all_eq_true.2 (gE EU ms y ho)
    | _=>rfl
   have h1:=hw.rd (YR h0 z6v)
   have he:lB κ.st k y=lB zl k y:=by
    cases k with
    | sub b e=>simp only[lB]; rw[hv b ho,(VF b ho).2.2]
    | st ks=>simp only[lB]; rw[ik (λb hb=>(VF b hb).2.2.trans (hv b hb).symm) ks y ho]
    | _=>rfl
   rwa [he]at h1
  have ck:∀ (q:Ck) (d:D) (v:Value) (zl:St),CE sh.bs q=true->(∀ b,rowAt sh.bs b=true->xz zl b=yf κ.st b)->(rY κ.st q d).leads ()->JK zl q=d/\(RD κ d v->RD κ' d v):=by
   intro q d v zl ho hv hy
   have he:=MQ ho hv hy
   refine⟨he,λhd=>hw.rd (YR hd ?_)⟩
   rw[<- he]
   cases q with
   | ptr b off=>exact Vt (EU b ho)
   | cur b e=>exact Vt (MY b ho)
   | qZ=>rfl
   | jF=>rfl
   | qB=>rfl
   | qE f l =>
    simp only[CE,List.all_eq_true]at ho
    simp only[JK,kM,List.all_eq_true,List.mem_map]
    rintro _ ⟨p,hp,rfl⟩
    exact Vt (EU p.1 (ho p hp))
  have NV:Inv κ':=by
   refine hw.inv hIc λb d' hb => ?_
   obtain⟨k,B,B',q0,q1,q2,q3⟩:=pair b (lt' hb)
   rw[hb]at q2
   cases q2
   cases q3 with
   | var kk k' d y hp hy =>
    obtain⟨blk,n',cs,t,e1,e2,e3,e4,e5⟩:=hIc.blk b _ q1
    refine⟨blk,n',cs,t,e1,e2,e3,?_⟩
    cases kk with
    | zx τ =>
     have hco:gX τ d=some y:=T.vx.1 hy
     have ht:d.vS=false:=by
      cases d with
      | jW l=>simp[gX,D.vS]at hco
      | _=>rfl
     have K1:=fN hco e4 e5.1 ht
     exact⟨(fu K1).mono hw.ext,bf τ y,nofun⟩
    | qA τ =>
     cases d<;>simp only[mr]at hy<;>try (exact hy.elim)
     obtain⟨e,TM⟩:=zX (T.vx.1 hy)
     cases e
     cases TM
     exact⟨e4.mono hw.ext,e5.1,nofun⟩
    | st ks =>
     simp only[mr]at hy
     cases ha:d.yX with
     | false=>rw[ha]at hy; exact hy.elim
     | true =>
      rw[ha]at hy
      replace hy:(bR κ.st ks (zR d)).leads y:=hy
      have z8M:b<m:=lt' hb
      have VZ:κ.st[b]? = some (.var d):=(y8 q1).1
      obtain⟨z6d,n2,cs2,t2,f1,f2,f3,f4,f5⟩:=hI.blk b _ VZ
      have hp1:=(y8 e1).1
      rw[f1]at hp1
      cases hp1
      rw[show(κ.cut m).w=κ.w from rfl,f2]at e2
      cases e2
      obtain⟨g1,g2⟩:=gN (κ:=κ) (zl:=y5 sh.bs (dC sh.eO x)) (bs:=sh.bs) (λb hb=>(VF b hb).2.1) ks (zR d) y _ hp.2 hy f4
      refine⟨(GR g1 λz hz => ?_).mono hw.ext,g2,λT hT => ?_⟩
      rotate_left
      ·exact f5.2 T (rA ha (rG ks (zR d) y hy hT))
      have:=j5 (m:=m) MY EU ks y hp.2 z hz
      cases z<;>first | exact this | cases this
    | _=>cases hp.1
   | cvar q d hy =>
    obtain⟨blk,n',cs,t,e1,e2,e3,e4,e5⟩:=hIc.blk b _ q1
    have hoq:CE sh.bs q=true:=hbs _ (List.mem_of_getElem? q0)
    obtain⟨g,_⟩:=ck q d undef (y5 sh.bs (dC sh.eO x)) hoq (λb hb=>(VF b hb).2.1) hy
    rw[g]
    exact⟨blk,n',cs,t,e1,e2,e3,e4.mono hw.ext,e5⟩
  refine⟨κ',rfl,rfl,NV,?_,⟨hR.size,hR.defers,λs d hd => ?_⟩,λd v hr hd=>hw.rd (Mf hd hr)⟩
  ·have qc:κ0.st.length<=m:=hl
   have c1:=DB hx qc
   exact c1.trans hw.ext
  ·rcases get_append (l:=bq (sh.st x) sh.eO x) (m:=Rj (sh.st x) sh.cs) hd with hp | hp0
   ·obtain⟨k,y,d0,q0,q1,q2,q3⟩:=g2 _ hp
    cases q3
    obtain⟨v,r1,r2⟩:=hR.get _ _ q1
    exact⟨v,r1,dk k y d0 v (sh.st x) (z1Q _ q0) (λb hb=>(VF b hb).1) q2 r2⟩
   ·have o9:=get_mem hp0
    unfold Rj at o9
    obtain⟨p,hp,he⟩:=List.mem_map.1 o9
    cases he
    obtain⟨d0,q1,q2⟩:=U4 h1 p hp
    obtain⟨v,r1,r2⟩:=hR.get _ _ q1
    obtain⟨g,gg⟩:=ck p.2 d0 v (sh.st x) (pj p hp) (λb hb=>(VF b hb).1) q2
    rw[g]
    exact⟨v,r1,gg r2⟩
end
end Go.AM
namespace Go.AM
set_option linter.unusedSectionVars false
variable [vi] [Qg]
open Go.RowKit
inductive Gh where
 | slot (s:Nat) (e:Ty) | cell (b i:Nat) (e:Ty) | pcell (s i:Nat) (e:Ty)
def sG(st:St)(b i:Nat):Option (List D):=match st[b]? with
 | some (.var d)=>bif d.yX then match(zR d)[i]? with | some .qZ=>some (zR d) | _=>none else none
 | _=>none
def gh:List Gh->Fr->St->Fr×St
 | [],fr,st=>(fr,st)
 | .slot s e::r,fr,st=>match fr.get s with
  | some .qZ=>bif Nat.blt 0 e.size then gh r ((s,some (.ms st.length 0 e 0 0))::fr) (st++[.arr 0 e []])else gh r fr st
  | _=>gh r fr st
 | .cell b i e::r,fr,st=>match sG st b i with
  | some l=>bif Nat.blt 0 e.size then gh r fr ((st++[jn.arr 0 e []]).set b (.var (.agg (l.set i (.ms st.length 0 e 0 0)))))else gh r fr st
  | none=>gh r fr st
 | .pcell t i e::r,fr,st=>match fr.get t with
  | some (.ptr b _)=>match sG st b i with
   | some l=>bif Nat.blt 0 e.size then gh r fr ((st++[jn.arr 0 e []]).set b (.var (.agg (l.set i (.ms st.length 0 e 0 0)))))else gh r fr st
   | none=>gh r fr st
  | _=>gh r fr st
section
variable {c:Ctx} {κ:KS}
def KS.uw(κ:KS)(e:Ty):KS:={ κ with ph:=κ.ph++[none],st:=κ.st++[.arr 0 e []] }
theorem mG(hI:Inv κ)(e:Ty):Ext κ (κ.uw e):=by
 have xm:∀ b y,κ.st[b]? = some y->(κ.st++[.arr 0 e []])[b]? = some y:=λb y h=>by rw[List.getElem?_append_left (List.getElem?_eq_some_iff.1 h).1]; exact h
 have X0:∀ b y,κ.st[b]? = some y->(κ.ph++[none])[b]? = κ.ph[b]? := λb y h=>by
  rw[List.getElem?_append_left]; rw[hI.len]; exact(List.getElem?_eq_some_iff.1 h).1
 refine⟨rfl,rfl,rfl,Nat.le_refl _,λk hk=>⟨hk,rfl⟩,λk hk=>.inl hk,?_,λb d h=>⟨⟨d,xm b _ h⟩,X0 b _ h⟩,
  λb v0 e xs h=>.inr ⟨v0,xs,xm b _ h,Nat.le_refl _,λ_=>⟨X0 b _ h,rfl⟩⟩,λb h=>xm b _ h,by simp[KS.uw],λk hk _=>rfl⟩
 intro b blk m h
 simp only[KS.uw]at h
 grind
theorem tP(hI:Inv κ){e:Ty}(he:0<e.size):Inv (κ.uw e):=by
 have hold:∀ (b blk m:Nat),(κ.ph++[none])[b]? = some (some (blk,m))->κ.ph[b]? = some (some (blk,m)):=by
  grind
 refine⟨by simp[KS.uw,hI.len],hI.jN,λb blk m h=>hI.apart b blk m (hold b blk m h),λb b' blk m m' h h'=>hI.inj b b' blk m m' (hold _ _ _ h) (hold _ _ _ h'),?_,hI.gl⟩
 intro b y hy
 simp only[KS.uw]at hy
 by_cases hb:b<κ.st.length
 ·rw[List.getElem?_append_left hb]at hy
  exact(hI.blk b y hy).mono (mG hI e) (by show(κ.ph++[none])[b]? = κ.ph[b]?; rw[List.getElem?_append_left (by rw[hI.len]; exact hb)]) λblk n h=>rfl
 ·have VH:=(List.getElem?_eq_some_iff.1 hy).1
  simp at VH
  have:b=κ.st.length:=by omega
  subst this
  simp at hy
  subst hy
  exact⟨he,.inl ⟨rfl,by simp[KS.uw,<- hI.len]⟩⟩
theorem Kq{l:List D}{i b v len off:Nat}{e:Ty}{tt:Nat}(h:(D.agg (l.set i (.ms b v e off len))).typed=some tt):kL l=some tt:=by
 cases l with
 | nil=>exact h
 | cons x r=>cases i with
  | zero=>cases h
  | succ i=>cases x<;>exact h
theorem LN{κ κ2:KS}{l:List D}{vs:List Value}{i:Nat}{d':D}(h:qj κ l vs)(hw:∀ d v,RD κ d v->RD κ2 d v)(hi:∀ v,vs[i]? = some v->RD κ2 d' v):qj κ2 (l.set i d') vs:=by
 refine⟨by rw[List.length_set]; exact h.1,λk h1 h2 => ?_⟩
 rw[List.getElem_set]
 split
 ·grind
 ·exact hw _ _ (h.2 k (by grind) h2)
theorem Hc(hI:Inv κ){e:Ty}(he:0<e.size){b i:Nat}{l:List D}(h:sG κ.st b i=some l) :
  ∃ κ':KS,κ'.w=κ.w/\κ'.st=(κ.st++[jn.arr 0 e []]).set b (.var (.agg (l.set i (.ms κ.st.length 0 e 0 0))))/\Inv κ'/\Ext κ κ':=by
 unfold sG at h
 split at h
 ·rename_i d hd
  cases ha:d.yX with
  | false=>grind
  | true =>
   rw[ha,cond_true]at h
   split at h
   ·rename_i hi
    cases h
    have hx:=mG hI e
    have oy:=tP hI he
    have z98:b<κ.st.length:=(List.getElem?_eq_some_iff.1 hd).1
    let κ2:KS:={ κ.uw e with st:=(κ.uw e).st.set b (.var (.agg ((zR d).set i (.ms κ.st.length 0 e 0 0)))) }
    have GW:(κ.uw e).st[b]? = some (.var d):=by
     show(κ.st++[_])[b]? = _
     grind
    have vP:∀ j,j≠b->κ2.st[j]? = (κ.uw e).st[j]? := λj hj=>by
     grind
    have Tj:κ2.st[b]? = some (.var (.agg ((zR d).set i (.ms κ.st.length 0 e 0 0)))):=by
     grind
    have hw:Wk (κ.uw e) κ2:=by
     refine⟨rfl,rfl,rfl,by simp[κ2],λj d' hj => ?_,λj v e' xs hj => ?_,λj v e' xs hj => ?_,λj hj => ?_⟩
     ·grind
     ·grind
     ·grind
     ·by_cases c:j=b
      ·subst c; rw[GW]at hj; cases hj
      ·rw[vP j c]; exact hj
    have Es:κ2.st[κ.st.length]? = some (.arr 0 e []):=by
     rw[vP _ (by omega)]
     simp[KS.uw]
    have hI2:Inv κ2:=by
     refine hw.inv oy λj d' hj => ?_
     by_cases c:j=b
     ·subst c
      rw[Tj]at hj
      cases hj
      obtain⟨blk,m,cs,t,q1,q2,q3,q4,q5⟩:=oy.blk j _ GW
      refine⟨blk,m,cs,t,q1,q2,q3,LN q4 (λ_ _ h=>hw.rd h) λv hv => ?_,λx hxm => ?_,λT hT => ?_⟩
      ·obtain⟨v',h1,h2⟩:=q4.get hi
       rw[hv]at h1
       cases h1
       cases h2
       refine .ms κ.st.length 0 e 0 0 0 none (.inr ⟨0,e,[],Es,Nat.le_refl _⟩) (Nat.le_refl _) (λ_=>rfl) nofun λxs XI => ?_
       rw[Es]at XI
       cases XI
       exact⟨Nat.le_refl _,.inl ⟨rfl,rfl,rfl,by show(κ.ph++[none])[κ.st.length]? = _; simp[<- hI.len]⟩⟩
      ·rcases List.mem_or_eq_of_mem_set (show x∈(zR d).set i (.ms κ.st.length 0 e 0 0)from hxm)with h' | h'
       ·exact q5.1 x h'
       ·subst h'; rfl
      ·exact q5.2 T (rA ha (Kq hT))
     ·rw[vP j c]at hj
      exact(oy.blk j _ hj).mono hw.ext rfl λ_ _ _=>rfl
    exact⟨κ2,rfl,rfl,hI2,hx.trans hw.ext⟩
   ·cases h
 ·cases h
theorem cK{n:Nat}{a:Act}:∀ (l:List Gh) (fr:Fr) (κ:KS),Inv κ->Rel κ n fr.get a->∃ κ':KS,κ'.w=κ.w/\κ'.st=(gh l fr κ.st).2/\Inv κ'/\Ext κ κ'/\Rel κ' n (gh l fr κ.st).1.get a
 | [],fr,κ,hI,hR=>⟨κ,rfl,rfl,hI,Ext.refl κ,hR⟩
 | .slot s e::r,fr,κ,hI,hR=>by
  unfold gh
  split
  ·rename_i hs
   cases he:Nat.blt 0 e.size with
   | false=>rw[cond_false]; exact cK r fr κ hI hR
   | true =>
    rw[cond_true]
    have Eb:0<e.size:=Nat.le_of_ble_eq_true he
    have hx:=mG hI e
    have M0:Rel (κ.uw e) n (Fr.get ((s,some (.ms κ.st.length 0 e 0 0))::fr)) a:=by
     refine⟨hR.size,hR.defers,λt d hd => ?_⟩
     simp only[Fr.get]at hd
     cases ht:Nat.beq s t with
     | true =>
      rw[ht,cond_true]at hd
      cases hd
      have:=Nat.eq_of_beq_eq_true ht
      subst this
      obtain⟨v,h1,h2⟩:=hR.get s _ hs
      cases h2
      have Es:(κ.uw e).st[κ.st.length]? = some (.arr 0 e []):=by simp[KS.uw]
      refine⟨_,h1,.ms κ.st.length 0 e 0 0 0 none (.inr ⟨0,e,[],Es,Nat.le_refl _⟩) (Nat.le_refl _) (λ_=>rfl) nofun λxs XI => ?_⟩
      rw[Es]at XI
      cases XI
      exact⟨Nat.le_refl _,.inl ⟨rfl,rfl,rfl,by simp[KS.uw,<- hI.len]⟩⟩
     | false =>
      rw[ht,cond_false]at hd
      obtain⟨v,h1,h2⟩:=hR.get t d hd
      exact⟨v,h1,h2.mono hx⟩
    obtain⟨κ',h1,h2,h3,h4,h5⟩:=cK r _ (κ.uw e) (tP hI Eb) M0
    exact⟨κ',h1,h2,h3,hx.trans h4,h5⟩
  ·exact cK r fr κ hI hR
 | .cell b i e::r,fr,κ,hI,hR=>by
  unfold gh
  split
  ·rename_i l hl
   cases he:Nat.blt 0 e.size with
   | false=>rw[cond_false]; exact cK r fr κ hI hR
   | true =>
    rw[cond_true]
    have Eb:0<e.size:=Nat.le_of_ble_eq_true he
    obtain⟨κ1,g1,g2,g3,g4⟩:=Hc hI Eb hl
    obtain⟨κ',h1,h2,h3,h4,h5⟩:=cK r fr κ1 g3 ⟨hR.size,hR.defers,λt d hd=>by
     obtain⟨v,q1,q2⟩:=hR.get t d hd
     exact⟨v,q1,q2.mono g4⟩⟩
    rw[g2]at h2 h5
    exact⟨κ',h1.trans g1,h2,h3,g4.trans h4,h5⟩
  ·exact cK r fr κ hI hR
 | .pcell t i e::r,fr,κ,hI,hR=>by
  unfold gh
  split
  ·rename_i b off hb
   split
   ·rename_i l hl
    cases he:Nat.blt 0 e.size with
    | false=>rw[cond_false]; exact cK r fr κ hI hR
    | true =>
     have Eb:0<e.size:=Nat.le_of_ble_eq_true he
     obtain⟨κ1,g1,g2,g3,g4⟩:=Hc hI Eb hl
     obtain⟨κ',h1,h2,h3,h4,h5⟩:=cK r fr κ1 g3 ⟨hR.size,hR.defers,λt d hd=>by
      obtain⟨v,q1,q2⟩:=hR.get t d hd
      exact⟨v,q1,q2.mono g4⟩⟩
     rw[g2]at h2 h5
     exact⟨κ',h1.trans g1,h2,h3,g4.trans h4,h5⟩
   ·exact cK r fr κ hI hR
  ·exact cK r fr κ hI hR
end
end Go.AM
namespace Go.AM
def lD(f:Nat->Option Nat)(d:D):Option D:=match d with
 | .ptr b off=>match f b with | some b'=>some (.ptr b' off) | none=>none
 | .jr b T=>match f b with | some b'=>some (.jr b' T) | none=>none
 | .vD b v e i off=>match f b with | some b'=>some (.vD b' v e i off) | none=>none
 | .ms b v e off len=>match f b with | some b'=>some (.ms b' v e off len) | none=>none
 | .qE _ _=>none
 | .agg _=>none
 | .jW _=>none
 | .iface _ _=>none
 | d=>some d
def Je(f:Nat->Option Nat):List D->Option (List D)
 | []=>some []
 | d::r=>match lD f d with
  | some d'=>match Je f r with | some r'=>some (d'::r') | none=>none
  | none=>none
def eJ(f:Nat->Option Nat)(d:D):Option D:=match d with
 | .qE g l=>match Je f l with | some l'=>some (.qE g l') | none=>none
 | .agg l=>match Je f l with | some l'=>some (.agg l') | none=>none
 | d=>lD f d
def rI(f:Nat->Option Nat):List D->Option (List D)
 | []=>some []
 | d::r=>match eJ f d with
  | some d'=>match rI f r with | some r'=>some (d'::r') | none=>none
  | none=>none
def rW(f:Nat->Option Nat):jn->Option jn
 | .var d=>match eJ f d with | some d'=>some (.var d') | none=>none
 | .arr v e xs=>some (.arr v e xs)
 | .dead=>some .dead
def dZ(f:Nat->Option Nat):List jn->Option (List jn)
 | []=>some []
 | b::r=>match rW f b with
  | some b'=>match dZ f r with | some r'=>some (b'::r') | none=>none
  | none=>none
def lR(f:Nat->Option Nat):Fr->Fr
 | []=>[]
 | (s,some d)::r=>(s,eJ f d)::lR f r
 | (s,none)::r=>(s,none)::lR f r
structure Tr(κ κ':KS)(f:Nat->Option Nat):Prop where
 w:κ'.w=κ.w
 ok:κ'.ok=κ.ok
 var:∀ (b b':Nat) (d:D),f b=some b'->κ.st[b]? = some (.var d)->(∃ d',κ'.st[b']? = some (.var d'))/\κ'.ph[b']? = κ.ph[b]?
 old:∀ (b b' qh:Nat),f b=some b'->Old κ.st b qh->Old κ'.st b' qh
 row:∀ (b b' v:Nat) (e:Ty) (xs:List (den e)),f b=some b'->κ'.st[b']? = some (.arr v e xs)->κ.st[b]? = some (.arr v e xs)/\κ'.ph[b']? = κ.ph[b]?
section
variable {κ κ':KS} {f:Nat->Option Nat}
theorem Tr.same(h:Tr κ κ' f):Yf κ.w κ'.w κ.ok κ'.ok:=λk hk=>⟨by rw[h.ok]; exact hk,by rw[h.w]⟩
theorem Tr.P7(h:Tr κ κ' f){d d':D}{v:Value}(hd:RD κ d v)(hr:lD f d=some d'):RD κ' d' v:=by
 cases hd with
 | zx τ y cs hc=>cases hr; exact .zx τ y cs (hc.mono h.same)
 | qL e a=>cases hr; exact .qL e a
 | tight e l ne blk off g vP xO hh hc=>cases hr; exact .tight e l ne blk off g vP (h.same _ xO).1 (λi hi=>(hh i hi).mono h.same) λi hi j v hv=>by rw[yo (h.same _ xO).2]; exact hc i hi j v hv
 | qZ=>cases hr; exact .qZ
 | jF=>cases hr; exact .jF
 | qB=>cases hr; exact .qB
 | vj=>cases hr; exact .vj
 | vf=>cases hr; exact .vf
 | lI v h=>cases hr; exact .lI v h
 | yK T=>cases hr; exact .yK T
 | yG b T d hb =>
  simp only[lD]at hr
  split at hr
  ·rename_i b' hf
   cases hr
   obtain⟨⟨d',h1⟩,h2⟩:=h.var b b' d hf hb
   exact .yG b' T d' h1
  ·cases hr
 | yF b T blk n d hb hp =>
  simp only[lD]at hr
  split at hr
  ·rename_i b' hf
   cases hr
   obtain⟨⟨d',h1⟩,h2⟩:=h.var b b' d hf hb
   exact .yF b' T blk n d' h1 (h2.trans hp)
  ·cases hr
 | ptr b off blk n d hb hp =>
  simp only[lD]at hr
  split at hr
  ·rename_i b' hf
   cases hr
   obtain⟨⟨d',h1⟩,h2⟩:=h.var b b' d hf hb
   exact .ptr b' off blk n d' h1 (h2.trans hp)
  ·cases hr
 | qA τ y cs blk off xO hh hc=>cases hr; exact .qA τ y cs blk off (h.same _ xO).1 (hh.mono h.same) λj v hv=>by rw[yo (h.same _ xO).2]; exact hc j v hv
 | vD b qh e idx off blk o hb hh =>
  simp only[lD]at hr
  split at hr
  ·rename_i b' hf
   cases hr
   refine .vD b' qh e idx off blk o (h.old b b' qh hf hb) λxs hx hi => ?_
   obtain⟨h1,h2⟩:=h.row b b' qh e xs hf hx
   grind
  ·cases hr
 | ms b qh e off len cap a hb wD ha fI hh =>
  simp only[lD]at hr
  split at hr
  ·rename_i b' hf
   cases hr
   refine .ms b' qh e off len cap a (h.old b b' qh hf hb) wD ha fI λxs hx => ?_
   obtain⟨h1,h2⟩:=h.row b b' qh e xs hf hx
   have:=hh xs h1
   unfold Gn at this ⊢
   grind
  ·cases hr
 | qE g l vs hl hh=>cases hr
 | agg l vs hl ho hh=>cases hr
 | jW l vs hl hh=>cases hr
 | iface t d v hh=>cases hr
theorem Fo{d d':D}(h:lD f d=some d'):d'.one=d.one:=by
 cases d<;>simp only[lD]at h<;>first | (cases h; rfl) | (split at h<;>cases h; rfl) | cases h
theorem Tr.rdL(h:Tr κ κ' f):∀ {l l':List D} {vs:List Value},qj κ l vs->Je f l=some l'->qj κ' l' vs
 | [],l',vs,hd,hr=>by cases hr; rw[hd.zN]; exact .nil
 | d::r,l',vs,hd,hr=>by
  simp only[Je]at hr
  split at hr
  ·rename_i d' h1
   split at hr
   ·rename_i r' h2
    cases hr
    obtain⟨v,us,rfl,g1,g2⟩:=hd.cons_inv
    exact .cons (h.P7 g1 h1) (h.rdL g2 h2)
   ·cases hr
  ·cases hr
theorem sW:∀ {l l':List D},Je f l=some l'->(∀ d∈l,d.one=true)->∀ d∈l',d.one=true
 | [],l',hr,_=>by cases hr; nofun
 | d::r,l',hr,ho=>by
  simp only[Je]at hr
  split at hr
  ·rename_i d' h1
   split at hr
   ·rename_i r' h2
    cases hr
    intro x hx
    rcases List.mem_cons.1 hx with rfl | hx
    ·rw[Fo h1]; exact ho d List.mem_cons_self
    ·exact sW h2 (λy hy=>ho y (List.mem_cons_of_mem _ hy)) x hx
   ·cases hr
  ·cases hr
theorem Tr.rd(h:Tr κ κ' f){d d':D}{v:Value}(hd:RD κ d v)(hr:eJ f d=some d'):RD κ' d' v:=by
 cases d with
 | qE g l =>
  simp only[eJ]at hr
  split at hr
  ·rename_i l' hl
   cases hr
   cases hd with
   | qE _ _ vs h1 h2=>have:=h.rdL (⟨h1,h2⟩:qj κ l vs) hl; exact .qE g l' vs this.1 this.2
  ·cases hr
 | agg l =>
  simp only[eJ]at hr
  split at hr
  ·rename_i l' hl
   cases hr
   cases hd with
   | agg _ vs h1 ho h2=>have:=h.rdL (⟨h1,h2⟩:qj κ l vs) hl; exact .agg l' vs this.1 (sW hl ho) this.2
  ·cases hr
 | _=>exact h.P7 hd hr
theorem Tr.rds(h:Tr κ κ' f):∀ {l l':List D} {vs:List Value},qj κ l vs->rI f l=some l'->qj κ' l' vs
 | [],l',vs,hd,hr=>by cases hr; rw[hd.zN]; exact .nil
 | d::r,l',vs,hd,hr=>by
  simp only[rI]at hr
  split at hr
  ·rename_i d' h1
   split at hr
   ·rename_i r' h2
    cases hr
    obtain⟨v,us,rfl,g1,g2⟩:=hd.cons_inv
    exact .cons (h.rd g1 h1) (h.rds g2 h2)
   ·cases hr
  ·cases hr
theorem Tr.flat(h:Tr κ κ' f){d d':D}{vs:List Value}(hd:qj κ (zR d) vs)(ho:∀ x∈zR d,x.one=true)(hr:eJ f d=some d'):qj κ' (zR d') vs/\∀ x∈zR d',x.one=true:=by
 have zx:∀ (τ:Ty) (x:den τ) (vs:List Value),qj κ (Go.AM.flat τ x) vs->qj κ' (Go.AM.flat τ x) vs:=by
  intro τ x vs hh
  refine⟨hh.1,λi h1 h2 => ?_⟩
  have hm:=List.getElem_mem h1
  have:∃ σ z,(Go.AM.flat τ x)[i]=.zx σ z:=by
   generalize (Go.AM.flat τ x)[i]=y at hm
   clear hh h1 h2
   induction τ with
   | cons a b ia ib =>
    simp only[Go.AM.flat,List.mem_append]at hm
    grind
   | nil=>simp[Go.AM.flat]at hm
   | expr=>simp[Go.AM.flat]at hm; rcases hm with rfl | rfl | rfl | rfl | rfl | rfl<;>exact⟨_,_,rfl⟩
   | _=>simp[Go.AM.flat]at hm; subst hm; exact⟨_,_,rfl⟩
  obtain⟨σ,z,e⟩:=this
  have h3:=hh.2 i h1 h2
  rw[e]at h3 ⊢
  exact h.P7 h3 rfl
 cases d with
 | zx τ x=>cases hr; exact⟨zx τ x vs hd,ho⟩
 | agg l =>
  simp only[eJ]at hr
  split at hr
  ·rename_i l' hl
   cases hr
   exact⟨h.rdL hd hl,sW hl ho⟩
  ·cases hr
 | jW l=>cases hr
 | qE g l =>
  obtain⟨v,r,rfl,h1,h2⟩:=qj.cons_inv (show qj κ [.qE g l] vs from hd)
  rw[h2.zN]
  have ML:=hr
  simp only[eJ]at hr
  split at hr
  ·cases hr; exact⟨.cons (h.rd h1 ML) .nil,λx hx=>by simp only[zR,List.mem_singleton]at hx; subst hx; rfl⟩
  ·cases hr
 | iface t x=>cases hr
 | ptr b off =>
  obtain⟨v,r,rfl,h1,h2⟩:=qj.cons_inv (show qj κ [.ptr b off] vs from hd)
  rw[h2.zN]
  have ML:=hr
  simp only[eJ,lD]at hr
  split at hr
  ·cases hr; exact⟨.cons (h.P7 h1 ML) .nil,λx hx=>by simp only[zR,List.mem_singleton]at hx; subst hx; rfl⟩
  ·cases hr
 | jr b T =>
  obtain⟨v,r,rfl,h1,h2⟩:=qj.cons_inv (show qj κ [.jr b T] vs from hd)
  rw[h2.zN]
  have ML:=hr
  simp only[eJ,lD]at hr
  split at hr
  ·cases hr; exact⟨.cons (h.P7 h1 ML) .nil,λx hx=>by simp only[zR,List.mem_singleton]at hx; subst hx; rfl⟩
  ·cases hr
 | vD b qh e idx off =>
  obtain⟨v,r,rfl,h1,h2⟩:=qj.cons_inv (show qj κ [.vD b qh e idx off] vs from hd)
  rw[h2.zN]
  have ML:=hr
  simp only[eJ,lD]at hr
  split at hr
  ·cases hr; exact⟨.cons (h.P7 h1 ML) .nil,λx hx=>by simp only[zR,List.mem_singleton]at hx; subst hx; rfl⟩
  ·cases hr
 | ms b qh e off len =>
  obtain⟨v,r,rfl,h1,h2⟩:=qj.cons_inv (show qj κ [.ms b qh e off len] vs from hd)
  rw[h2.zN]
  have ML:=hr
  simp only[eJ,lD]at hr
  split at hr
  ·cases hr; exact⟨.cons (h.P7 h1 ML) .nil,λx hx=>by simp only[zR,List.mem_singleton]at hx; subst hx; rfl⟩
  ·cases hr
 | _ =>
  cases hr
  obtain⟨v,r,rfl,h1,h2⟩:=qj.cons_inv hd
  rw[h2.zN]
  exact⟨.cons (h.P7 h1 rfl) .nil,ho⟩
theorem Ki{f:Nat->Option Nat}{d d':D}{tt:Nat}(h:eJ f d=some d')(ht:d'.typed=some tt):d.typed=some tt:=by
 cases d with
 | agg l =>
  simp only[eJ]at h
  split at h
  ·rename_i l' hl
   cases h
   cases l with
   | nil=>cases hl; cases ht
   | cons x r =>
    simp only[Je]at hl
    split at hl
    ·rename_i x' hx
     split at hl
     ·cases hl
      cases x<;>simp only[lD]at hx<;>first
       | (cases hx; exact ht)
       | (split at hx<;>first | (cases hx; exact ht) | cases hx)
       | cases hx
     ·cases hl
    ·cases hl
  ·cases h
 | qE g l =>
  simp only[eJ]at h
  split at h
  ·cases h; cases ht
  ·cases h
 | _ =>
  simp only[eJ,lD]at h
  first
   | (cases h; cases ht)
   | (split at h<;>first | (cases h; cases ht) | cases h)
   | cases h
theorem Tr.blk[lE](h:Tr κ κ' f){b b':Nat}(hp:κ'.ph[b']? = κ.ph[b]?){y y':jn}(hy:gT κ b y)(hr:rW f y=some y'):gT κ' b' y':=by
 cases y with
 | dead=>cases hr; trivial
 | var d =>
  simp only[rW]at hr
  split at hr
  ·rename_i d' hd
   cases hr
   obtain⟨blk,n,cs,t,h1,h2,h3,h4,h5⟩:=hy
   obtain⟨g1,g2⟩:=h.flat h4 h5.1 hd
   exact⟨blk,n,cs,t,hp.trans h1,by rw[h.w]; exact h2,h3,g1,g2,λT hT=>h5.2 T (Ki hd hT)⟩
  ·cases hr
 | arr qh e xs =>
  cases hr
  obtain⟨h0,hh⟩:=hy
  refine⟨h0,hJ hh (λh=>⟨h.1,hp.trans h.2⟩) ?_⟩
  rintro⟨blk,n,cs,t,h1,h2,h3,h4,hr,g,h5⟩
  exact⟨blk,n,cs,t,hp.trans h1,by rw[h.w]; exact h2,h3,h4,hr,g,λi hi=>⟨(h5 i hi).1.mono h.same,(h5 i hi).2⟩⟩
theorem iT{f:Nat->Option Nat}:∀ {fr:Fr} {s:Nat} {d':D},(lR f fr).get s=some d'->∃ d,fr.get s=some d/\eJ f d=some d'
 | [],s,d',h=>by cases h
 | (t,some d)::r,s,d',h=>by
  simp only[lR,Fr.get]at h ⊢
  cases ht:Nat.beq t s with
  | true=>grind
  | false=>rw[ht,cond_false]at h; simp; exact iT h
 | (t,none)::r,s,d',h=>by
  simp only[lR,Fr.get]at h ⊢
  cases ht:Nat.beq t s with
  | true=>grind
  | false=>rw[ht,cond_false]at h; simp; exact iT h
end
def pos:List Nat->Nat->Option Nat
 | [],_=>none
 | b::r,i=>bif Nat.beq b i then some 0 else match pos r i with | some j=>some (j+1) | none=>none
def jT:List Nat->Bool
 | []=>true
 | b::r=>(match pos r b with | none=>true | some _=>false)&&jT r
theorem bZ:∀ {mp:List Nat} {i j:Nat},pos mp i=some j->mp[j]? = some i
 | [],i,j,h=>by cases h
 | b::r,i,j,h=>by
  simp only[pos]at h
  cases hb:Nat.beq b i with
  | true=>rw[hb,cond_true]at h; cases h; rw[Nat.eq_of_beq_eq_true hb]; rfl
  | false =>
   rw[hb,cond_false]at h
   split at h
   ·rename_i k hk; cases h; simpa using bZ hk
   ·cases h
theorem cY:∀ {mp:List Nat} {i j:Nat},jT mp=true->mp[j]? = some i->pos mp i=some j
 | [],i,j,_,h=>by simp at h
 | b::r,i,j,hn,h=>by
  simp only[jT,Bool.and_eq_true]at hn
  cases j with
  | zero=>simp at h; subst h; simp only[pos]; rw[Nat.beq_refl]; rfl
  | succ j =>
   have h':r[j]? = some i:=by simpa using h
   have hp:=cY hn.2 h'
   have vP:Nat.beq b i=false:=by
    cases hb:Nat.beq b i with
    | false=>rfl
    | true =>
     have:=Nat.eq_of_beq_eq_true hb
     grind
   simp only[pos,vP,cond_false,hp]
def bY{α:Type}(l:List α):List Nat->Option (List α)
 | []=>some []
 | b::r=>match l[b]? with
  | some x=>match bY l r with | some y=>some (x::y) | none=>none
  | none=>none
theorem oH{α:Type}{l:List α}:∀ {mp:List Nat} {r:List α},bY l mp=some r->r.length=mp.length/\∀ (j b:Nat),mp[j]? = some b->r[j]? = l[b]? /\ b<l.length
 | [],r,h=>by cases h; exact⟨rfl,λj b hj=>by grind⟩
 | b::mp,r,h=>by
  simp only[bY]at h
  split at h
  ·rename_i x hx
   split at h
   ·rename_i y hy
    obtain⟨h1,h2⟩:=oH hy
    grind
   ·cases h
  ·cases h
theorem p0{f:Nat->Option Nat}:∀ {l r:List jn},dZ f l=some r->r.length=l.length/\∀ (j:Nat) (x:jn),l[j]? = some x->∃ y,r[j]? = some y/\rW f x=some y
 | [],r,h=>by cases h; exact⟨rfl,λj x hj=>by grind⟩
 | b::l,r,h=>by
  simp only[dZ]at h
  split at h
  ·rename_i b' hb
   split at h
   ·rename_i r' hr
    obtain⟨h1,h2⟩:=p0 hr
    grind
   ·cases h
  ·cases h
def ir{α:Type}(mp:List Nat)(new:List α):Nat->List α->List α
 | _,[]=>[]
 | i,x::r=>(match pos mp i with | some j=>(match new[j]? with | some y=>y | none=>x) | none=>x)::ir mp new (i+1) r
def xE{α:Type}(mp:List Nat)(old new:List α):List α:=ir mp new 0 old++new.drop mp.length
theorem vX{α:Type}(mp:List Nat)(new:List α):∀ (l:List α) (i:Nat),(ir mp new i l).length=l.length
 | [],_=>rfl
 | x::r,i=>by simp[ir,vX mp new r (i+1)]
theorem mw{α:Type}(mp:List Nat)(new:List α):∀ (l:List α) (i k:Nat),(ir mp new i l)[k]? = (l[k]?).map λx=>match pos mp (i+k)with | some j=>(match new[j]? with | some y=>y | none=>x) | none=>x
 | [],i,k=>by simp[ir]
 | x::r,i,0=>by simp[ir]
 | x::r,i,k+1=>by
  have:=mw mp new r (i+1) k
  simp only[ir]
  grind
def fwd(mp:List Nat)(n:Nat)(j:Nat):Nat:=match mp[j]? with | some b=>b | none=>n+(j-mp.length)
theorem cM{α:Type}{mp:List Nat}{old new:List α}{i:Nat}(hi:i<old.length)(hp:pos mp i=none):(xE mp old new)[i]? = old[i]? := by
 unfold xE
 rw[List.getElem?_append_left (by rw[vX]; exact hi),mw,Nat.zero_add,hp]
 simp
theorem UX{α:Type}{mp:List Nat}{old new:List α}(hn:jT mp=true)(qc:∀ (j b:Nat),mp[j]? = some b->b<old.length)(hlen:mp.length<=new.length){j:Nat}(hj:j<new.length):(xE mp old new)[fwd mp old.length j]? = new[j]? := by
 unfold xE fwd
 cases hm:mp[j]? with
 | some b =>
  have hb:=qc j b hm
  rw[List.getElem?_append_left (by rw[vX]; exact hb),mw,Nat.zero_add,cY hn hm]
  grind
 | none =>
  simp only
  rw[List.getElem?_append_right (by rw[vX]; omega),vX,List.getElem?_drop]
  grind
theorem Yr{α:Type}{mp:List Nat}{old new:List α}(qc:∀ (j b:Nat),mp[j]? = some b->b<old.length)(hlen:mp.length<=new.length){i:Nat}(hi:i<(xE mp old new).length) :
  (i<old.length/\pos mp i=none)\/∃ j,j<new.length/\i=fwd mp old.length j:=by
 by_cases h:i<old.length
 ·cases hp:pos mp i with
  | none=>grind
  | some j =>
   have:=bZ hp
   have hj:=(List.getElem?_eq_some_iff.1 this).1
   exact .inr ⟨j,by omega,by unfold fwd; rw[this]⟩
 ·have hl:i<old.length+(new.length-mp.length):=by simpa[xE,vX]using hi
  refine .inr ⟨mp.length+(i-old.length),by omega,?_⟩
  unfold fwd
  grind
end Go.AM
namespace Go.AM
set_option linter.unusedSectionVars false
variable [vi]
open Go.RowKit
section
variable {κ:KS} {mp:List Nat}
theorem Yv{y6 l:List jn}{p1:List (Option (Nat×Nat))}(hI:Inv κ)(hn:jT mp=true)(hp:bY κ.ph mp=some p1)(hl:bY κ.st mp=some l)(hr:dZ (pos mp) l=some y6) :
  Inv ⟨κ.w,κ.ok,p1,y6⟩/\Tr κ ⟨κ.w,κ.ok,p1,y6⟩ (pos mp)/\y6.length=mp.length/\p1.length=mp.length/\∀ (j b:Nat),mp[j]? = some b->p1[j]? = κ.ph[b]? /\ ∃ x y:jn,κ.st[b]? = some x/\rW (pos mp) x=some y/\y6[j]? = some y:=by
 obtain⟨a1,a2⟩:=oH hp
 obtain⟨b1,b2⟩:=oH hl
 obtain⟨c1,c2⟩:=p0 hr
 have key:∀ (j b:Nat),mp[j]? = some b->p1[j]? = κ.ph[b]? /\ ∃ x y:jn,κ.st[b]? = some x/\rW (pos mp) x=some y/\y6[j]? = some y:=by
  grind
 have at':∀ {j:Nat} {y:jn},y6[j]? = some y->∃ b,mp[j]? = some b:=λh=>by
  have:=(List.getElem?_eq_some_iff.1 h).1
  exact⟨_,List.getElem?_eq_getElem (by omega)⟩
 have hT:Tr κ ⟨κ.w,κ.ok,p1,y6⟩ (pos mp):=by
  refine⟨rfl,rfl,λb j d hf hb => ?_,λb j qh hf ho => ?_,λb j v e xs hf hb => ?_⟩
  ·obtain⟨h1,x,y,h2,h3,h4⟩:=key j b (bZ hf)
   rw[hb]at h2
   cases h2
   simp only[rW]at h3
   grind
  ·obtain⟨h1,x,y,h2,h3,h4⟩:=key j b (bZ hf)
   rcases ho with ho | ⟨v0,e0,mc,ho,hv⟩
   ·rw[ho]at h2; cases h2; cases h3; exact .inl h4
   ·rw[ho]at h2; cases h2; cases h3; exact .inr ⟨v0,e0,mc,h4,hv⟩
  ·obtain⟨h1,x,y,h2,h3,h4⟩:=key j b (bZ hf)
   rw[show y6[j]? = some (.arr v e xs)from hb]at h4
   cases h4
   cases x with
   | dead=>cases h3
   | var d=>simp only[rW]at h3; split at h3<;>cases h3
   | arr v0 e0 mc=>cases h3; exact⟨h2,h1⟩
 refine⟨⟨by show p1.length=y6.length; omega,hI.jN,λj blk n h => ?_,λj j' blk n n' h h' => ?_,λj y h => ?_,hI.gl⟩,hT,by omega,a1,key⟩
 ·obtain⟨b,hb⟩:∃ b,mp[j]? = some b:=⟨_,List.getElem?_eq_getElem (by have:j<p1.length:=(List.getElem?_eq_some_iff.1 h).1; omega)⟩
  exact hI.apart b blk n ((a2 j b hb).1.symm.trans h)
 ·obtain⟨b,hb⟩:∃ b,mp[j]? = some b:=⟨_,List.getElem?_eq_getElem (by have:j<p1.length:=(List.getElem?_eq_some_iff.1 h).1; omega)⟩
  obtain⟨b',VH⟩:∃ b,mp[j']? = some b:=⟨_,List.getElem?_eq_getElem (by have:j'<p1.length:=(List.getElem?_eq_some_iff.1 h').1; omega)⟩
  have:=hI.inj b b' blk n n' ((a2 j b hb).1.symm.trans h) ((a2 j' b' VH).1.symm.trans h')
  subst this
  exact Option.some.inj ((cY hn hb).symm.trans (cY hn VH))
 ·obtain⟨b,hb⟩:=at' h
  obtain⟨h1,x,y',h2,h3,h4⟩:=key j b hb
  rw[show y6[j]? = some y from h]at h4
  cases h4
  exact hT.blk h1 (hI.blk b x h2) h3
theorem WJ{κ1:KS}{y6 uD l:List jn}{p1:List (Option (Nat×Nat))}(hI:Inv κ)(hn:jT mp=true)(hp:bY κ.ph mp=some p1)(hl:bY κ.st mp=some l)(hr:dZ (pos mp) l=some y6)
  (oy:Inv κ1) (hx:Ext ⟨κ.w,κ.ok,p1,y6⟩ κ1) (Tu:dZ (λj=>some (fwd mp κ.st.length j)) κ1.st=some uD) :
  ∃ κ':KS,κ'.w=κ1.w/\κ'.st=xE mp κ.st uD/\Inv κ'/\Ext κ κ'/\Tr κ1 κ' (λj=>some (fwd mp κ.st.length j)):=by
 obtain⟨hIs,hTs,s1,s2,key⟩:=Yv hI hn hp hl hr
 obtain⟨r1,r2⟩:=p0 Tu
 have qc:∀ (j b:Nat),mp[j]? = some b->b<κ.st.length:=λj b hj=>by obtain⟨_,x,_,h,_⟩:=key j b hj; exact(List.getElem?_eq_some_iff.1 h).1
 have z3P:∀ (j b:Nat),mp[j]? = some b->b<κ.ph.length:=λj b hj=>by rw[hI.len]; exact qc j b hj
 have hm1:mp.length<=κ1.st.length:=by have:=hx.Uu; simp only at this; omega
 have Dh:mp.length<=uD.length:=by omega
 have DL:mp.length<=κ1.ph.length:=by rw[oy.len]; exact hm1
 let fw:=fwd mp κ.st.length
 have hlen:(xE mp κ.ph κ1.ph).length=(xE mp κ.st uD).length:=by simp[xE,vX,hI.len,oy.len,r1]
 -- what lies where
 have Pp:∀ {j:Nat} {x:jn},κ1.st[j]? = some x->∃ y,(xE mp κ.st uD)[fw j]? = some y/\rW (λj=>some (fw j)) x=some y:=by
  intro j x hj
  obtain⟨y,h1,h2⟩:=r2 j x hj
  exact⟨y,by rw[UX hn qc Dh (by rw[r1]; exact(List.getElem?_eq_some_iff.1 hj).1)]; exact h1,h2⟩
 have OH:∀ {j:Nat},j<κ1.st.length->(xE mp κ.ph κ1.ph)[fw j]? = κ1.ph[j]? := by
  intro j hj
  have:=UX (old:=κ.ph) (new:=κ1.ph) hn z3P DL (j:=j) (by rw[oy.len]; exact hj)
  rw[hI.len]at this
  exact this
 have ust:∀ {i:Nat},i<κ.st.length->pos mp i=none->(xE mp κ.st uD)[i]? = κ.st[i]? := λhi h=>cM hi h
 have OC:∀ {i:Nat},i<κ.st.length->pos mp i=none->(xE mp κ.ph κ1.ph)[i]? = κ.ph[i]? := λhi h=>cM (by rw[hI.len]; exact hi) h
 have pI:∀ {i:Nat},i<(xE mp κ.st uD).length->(i<κ.st.length/\pos mp i=none)\/∃ j,j<κ1.st.length/\i=fw j:=by
  intro i hi
  rcases Yr qc Dh hi with h | ⟨j,h1,h2⟩
  ·grind
  ·grind
 have CB:∀ {j b:Nat},mp[j]? = some b->fw j=b:=λh=>by simp only[fw,fwd,h]
 have z9j:∀ {j:Nat},mp[j]? = none->κ.st.length<=fw j:=λh=>by simp only[fw,fwd,h]; omega
 -- the part's own blocks
 have SQ:∀ {j:Nat} {q:Nat×Nat},p1[j]? = some (some q)->∃ b,mp[j]? = some b/\κ.ph[b]? = some (some q):=by
  intro j q h
  have hj:=(List.getElem?_eq_some_iff.1 h).1
  obtain⟨b,hb⟩:∃ b,mp[j]? = some b:=⟨_,List.getElem?_eq_getElem (by omega)⟩
  grind
 have hT:Tr κ1 ⟨κ1.w,κ1.ok,xE mp κ.ph κ1.ph,xE mp κ.st uD⟩ (λj=>some (fw j)):=by
  refine⟨rfl,rfl,λj b d hf hj => ?_,λj b qh hf ho => ?_,λj b v e xs hf hb => ?_⟩
  ·cases hf
   obtain⟨y,h1,h2⟩:=Pp hj
   simp only[rW]at h2
   grind
  ·cases hf
   rcases ho with ho | ⟨v0,e0,mc,ho,hv⟩
   ·obtain⟨y,h1,h2⟩:=Pp ho; cases h2; exact .inl h1
   ·obtain⟨y,h1,h2⟩:=Pp ho; cases h2; exact .inr ⟨v0,e0,mc,h1,hv⟩
  ·cases hf
   have hb:(xE mp κ.st uD)[fw j]? = some (.arr v e xs):=hb
   have J1:=(List.getElem?_eq_some_iff.1 hb).1
   have hj:j<κ1.st.length:=by
    by_cases hj:j<κ1.st.length
    ·exact hj
    ·exfalso
     cases hm:mp[j]? with
     | some c=>have:=(List.getElem?_eq_some_iff.1 hm).1; omega
     | none =>
      have h3:fw j=κ.st.length+(j-mp.length):=by simp only[fw,fwd,hm]
      have h4:(xE mp κ.st uD).length=κ.st.length+(uD.length-mp.length):=by simp[xE,vX]
      omega
   obtain⟨y,h1,h2⟩:=Pp (List.getElem?_eq_getElem hj)
   rw[hb]at h1
   cases h1
   refine⟨?_,OH hj⟩
   rw[List.getElem?_eq_getElem hj]
   generalize κ1.st[j]=x at h2
   cases x with
   | dead=>cases h2
   | var d=>simp only[rW]at h2; split at h2<;>cases h2
   | arr v0 e0 mc=>cases h2; rfl
 -- W7 blocks lie as they lay
 have W7:∀ {i blk n:Nat},pos mp i=none->κ.ph[i]? = some (some (blk,n))->κ1.w.heap[blk]? = κ.w.heap[blk]? := by
  intro i blk n hi h
  obtain⟨g1,g2⟩:=hI.apart i blk n h
  refine hx.frame blk g1 λj m hj => ?_
  obtain⟨b,GW,UE⟩:=SQ hj
  have:=hI.inj i b blk n m h UE
  subst this
  rw[cY hn GW]at hi
  cases hi
 have hE:Ext κ ⟨κ1.w,κ1.ok,xE mp κ.ph κ1.ph,xE mp κ.st uD⟩:=by
  refine⟨hx.os,hx.tape,hx.output,hx.size,hx.same,λk hk => ?_,λi blk n h => ?_,λi d hi => ?_,λi v0 e mc hi => ?_,λi hi => ?_,?_,λk hk ya => ?_⟩
  ·rcases hx.fresh k hk with h | h | ⟨j,n,h⟩
   ·exact .inl h
   ·exact .inr (.inl h)
   ·obtain⟨b,_,hb⟩:=SQ h; exact .inr (.inr ⟨b,n,hb⟩)
  ·have h:(xE mp κ.ph κ1.ph)[i]? = some (some (blk,n)):=h
   have Qa:i<(xE mp κ.st uD).length:=by rw[<- hlen]; exact(List.getElem?_eq_some_iff.1 h).1
   rcases pI Qa with⟨h1,h2⟩ | ⟨j,h1,rfl⟩
   ·rw[OC h1 h2]at h; exact .inl h
   ·rw[OH h1]at h
    rcases hx.Lk j blk n h with h3 | h3
    ·obtain⟨b,GW,UE⟩:=SQ h3
     rw[CB GW]; exact .inl UE
    ·exact .inr h3
  ·have D3:=(List.getElem?_eq_some_iff.1 hi).1
   cases VK:pos mp i with
   | none=>exact⟨⟨d,(ust D3 VK).trans hi⟩,OC D3 VK⟩
   | some j =>
    have Ls:=bZ VK
    obtain⟨k1,x,y,k2,k3,k4⟩:=key j i Ls
    rw[hi]at k2
    cases k2
    simp only[rW]at k3
    split at k3
    ·cases k3
     obtain⟨⟨d',g1⟩,g2⟩:=hx.var j _ k4
     obtain⟨⟨d'',q1⟩,q2⟩:=hT.var j (fw j) d' rfl g1
     rw[CB Ls]at q1 q2
     exact⟨⟨d'',q1⟩,q2.trans (g2.trans k1)⟩
    ·cases k3
  ·have D3:=(List.getElem?_eq_some_iff.1 hi).1
   cases VK:pos mp i with
   | none=>exact .inr ⟨v0,mc,(ust D3 VK).trans hi,Nat.le_refl _,λ_=>⟨OC D3 VK,rfl⟩⟩
   | some j =>
    have Ls:=bZ VK
    obtain⟨k1,x,y,k2,k3,k4⟩:=key j i Ls
    rw[hi]at k2
    cases k2
    cases k3
    rcases hx.arr j v0 e mc k4 with g | ⟨v1,yd,g1,g2,g3⟩
    ·obtain⟨y,q1,q2⟩:=Pp g
     cases q2
     rw[CB Ls]at q1
     exact .inl q1
    ·obtain⟨y,q1,q2⟩:=Pp g1
     cases q2
     rw[CB Ls]at q1
     refine .inr ⟨v1,yd,q1,g2,λhe=>⟨?_,(g3 he).2⟩⟩
     have h4:=OH (List.getElem?_eq_some_iff.1 g1).1
     rw[CB Ls]at h4
     exact h4.trans ((g3 he).1.trans k1)
  ·have D3:=(List.getElem?_eq_some_iff.1 hi).1
   cases VK:pos mp i with
   | none=>exact(ust D3 VK).trans hi
   | some j =>
    have Ls:=bZ VK
    obtain⟨k1,x,y,k2,k3,k4⟩:=key j i Ls
    rw[hi]at k2
    cases k2
    cases k3
    obtain⟨y,q1,q2⟩:=Pp (hx.dead j k4)
    cases q2
    rw[CB Ls]at q1
    exact q1
  ·show κ.st.length<=(xE mp κ.st uD).length
   simp[xE,vX]
  ·exact hx.frame k hk λj n hj=>by obtain⟨b,_,hb⟩:=SQ hj; exact ya b n hb
 refine⟨⟨κ1.w,κ1.ok,xE mp κ.ph κ1.ph,xE mp κ.st uD⟩,rfl,rfl,⟨hlen,oy.jN,λi blk n h => ?_,λi i' blk n n' h h' => ?_,λi y h => ?_,oy.gl⟩,hE,hT⟩
 ·have h:(xE mp κ.ph κ1.ph)[i]? = some (some (blk,n)):=h
  have Qa:i<(xE mp κ.st uD).length:=by rw[<- hlen]; exact(List.getElem?_eq_some_iff.1 h).1
  rcases pI Qa with⟨h1,h2⟩ | ⟨j,h1,rfl⟩
  ·rw[OC h1 h2]at h
   obtain⟨g1,g2⟩:=hI.apart i blk n h
   refine⟨Nat.lt_of_lt_of_le g1 hx.size,λhk => ?_⟩
   rcases hx.fresh blk hk with hk | hk | ⟨j,m,hj⟩
   ·exact g2 hk
   ·simp only at hk; omega
   ·obtain⟨b,GW,UE⟩:=SQ hj
    have:=hI.inj i b blk n m h UE
    subst this
    rw[cY hn GW]at h2
    cases h2
  ·rw[OH h1]at h
   exact oy.apart j blk n h
 ·have h:(xE mp κ.ph κ1.ph)[i]? = some (some (blk,n)):=h
  have h':(xE mp κ.ph κ1.ph)[i']? = some (some (blk,n')):=h'
  have Iw:i<(xE mp κ.st uD).length:=by rw[<- hlen]; exact(List.getElem?_eq_some_iff.1 h).1
  have z0l:i'<(xE mp κ.st uD).length:=by rw[<- hlen]; exact(List.getElem?_eq_some_iff.1 h').1
  have mixed:∀ {i j n n':Nat},i<κ.st.length->pos mp i=none->j<κ1.st.length->κ.ph[i]? = some (some (blk,n))->κ1.ph[j]? = some (some (blk,n'))->False:=by
   intro i j n n' h1 h2 h3 h4 h5
   rcases hx.Lk j blk n' h5 with h6 | h6
   ·obtain⟨b,GW,UE⟩:=SQ h6
    have:=hI.inj i b blk n n' h4 UE
    subst this
    rw[cY hn GW]at h2
    cases h2
   ·have:=(hI.apart i blk n h4).1
    simp only at h6
    omega
  rcases pI Iw with⟨h1,h2⟩ | ⟨j,h1,rfl⟩
  ·rw[OC h1 h2]at h
   rcases pI z0l with⟨h3,h4⟩ | ⟨j',h3,rfl⟩
   ·rw[OC h3 h4]at h'; exact hI.inj i i' blk n n' h h'
   ·rw[OH h3]at h'; exact(mixed h1 h2 h3 h h').elim
  ·rw[OH h1]at h
   rcases pI z0l with⟨h3,h4⟩ | ⟨j',h3,rfl⟩
   ·rw[OC h3 h4]at h'; exact(mixed h3 h4 h1 h' h).elim
   ·rw[OH h3]at h'
    rw[oy.inj j j' blk n n' h h']
 ·have h:(xE mp κ.st uD)[i]? = some y:=h
  rcases pI (List.getElem?_eq_some_iff.1 h).1 with⟨h1,h2⟩ | ⟨j,h1,rfl⟩
  ·rw[ust h1 h2]at h
   exact(hI.blk i y h).mono hE (OC h1 h2) λblk n hb=>W7 h2 hb
  ·obtain⟨z,q1,q2⟩:=Pp (List.getElem?_eq_getElem h1)
   rw[h]at q1
   cases q1
   exact hT.blk (OH h1) (oy.blk j _ (List.getElem?_eq_getElem h1)) q2
end
end Go.AM
namespace Go.AM
set_option linter.unusedSectionVars false
variable [vi]
open Go.RowKit
inductive AK where
 | any | cur | sub | ptr | qE (f:Nat)
structure j3 where
 ks:List AK
 sh:vY
 ju:List Gh
 out:vY
 nr:Nat
 F:sh.den->T out.den
def Gt(fr:Fr):Nat->Nat->Option (List D)
 | 0,_=>some []
 | n+1,i=>match fr.get i with
  | some d=>match Gt fr n (i+1)with | some r=>some (d::r) | none=>none
  | none=>none
def ku(nr:Nat)(fr:Fr):Option (List D):=Gt fr nr 0
def F3:List (Nat×Nat)->List D->Nat->Option Nat
 | p::r,.ptr b' _::ds,b=>bif Nat.beq p.1 b then some b' else F3 r ds b
 | _,_,_=>none
def z29(b:Nat):Ck->D->Option Nat
 | .ptr c _,.ptr b' _=>bif Nat.beq c b then some b' else none
 | .cur c _,.ms b' _ _ _ _=>bif Nat.beq c b then some b' else none
 | .qE _ l,.qE _ ds=>F3 l ds b
 | _,_=>none
def PZ(fr:Fr)(b:Nat):List (Nat×Ck)->Option Nat
 | []=>none
 | (s,k)::r=>match fr.get s with
  | some d=>match z29 b k d with | some b'=>some b' | none=>PZ fr b r
  | none=>PZ fr b r
def UR(b:Nat):List Mc->List D->Option Nat
 | .pt c::r,.ptr b' _::ds=>bif Nat.beq c b then some b' else UR b r ds
 | .pt _::r,_::ds=>UR b r ds
 | .im _::r,_::ds=>UR b r ds
 | .rp _::r,_::ds=>UR b r ds
 | _,_=>none
def tJ(b:Nat):List Sk->List D->Option Nat
 | .im τ::r,ds=>tJ b r (ds.drop τ.size)
 | .row c _::r,.ms b' _ _ _ _::ds=>bif Nat.beq c b then some b' else tJ b r ds
 | .row _ _::r,_::ds=>tJ b r ds
 | .op c _::r,.jr b' _::ds=>bif Nat.beq c b then some b' else tJ b r ds
 | .op _ _::r,_::ds=>tJ b r ds
 | .un::r,_::ds=>tJ b r ds
 | _,_=>none
def X5(fr:Fr)(b:Nat):List It->Option Nat
 | []=>none
 | .s s (.mclo _ ms)::r=>match fr.get s with
  | some (.qE _ l)=>match UR b ms l with | some b'=>some b' | none=>X5 fr b r
  | _=>X5 fr b r
 | .s s (.sub c _)::r=>match fr.get s with
  | some (.ms b' _ _ _ _)=>bif Nat.beq c b then some b' else X5 fr b r
  | _=>X5 fr b r
 | _::r=>X5 fr b r
def CS(st:St)(b:Nat):List Bk->List (Option Nat)->Option Nat
 | .cvar k::r,some p::ps=>match st[p]? with
  | some (.var d)=>match z29 b k d with | some b'=>some b' | none=>CS st b r ps
  | _=>CS st b r ps
 | .var (.st ks)::r,some p::ps=>match st[p]? with
  | some (.var d)=>match tJ b ks (zR d)with | some b'=>some b' | none=>CS st b r ps
  | _=>CS st b r ps
 | _::r,_::ps=>CS st b r ps
 | _,_=>none
def z2b(sh:vY)(fr:Fr):Nat->List Bk->List (Option Nat)
 | _,[]=>[]
 | b,_::r=>(match PZ fr b sh.cs with | some b'=>some b' | none=>X5 fr b sh.eO)::z2b sh fr (b+1) r
def Mj(sh:vY)(st:St)(m:List (Option Nat)):Nat->List (Option Nat)->List (Option Nat)
 | _,[]=>[]
 | b,some b'::r=>some b'::Mj sh st m (b+1) r
 | b,none::r=>CS st b sh.bs m::Mj sh st m (b+1) r
def z00:List (Option Nat)->Option (List Nat)
 | []=>some []
 | some b::r=>match z00 r with | some l=>some (b::l) | none=>none
 | none::_=>none
def mapOf(sh:vY)(fr:Fr)(st:St):Option (List Nat):=let m:=z2b sh fr 0 sh.bs
 let m:=Mj sh st m 0 m
 z00 (Mj sh st m 0 m)
def j3.back(d:j3)(mp:List Nat)(st:St)(y:d.out.den):T (Wd×St):=match ku d.nr (d.out.fr y),dZ (λj=>some (fwd mp st.length j)) (d.out.st y)with
 | some ds,some uD=>match rI (λj=>some (fwd mp st.length j)) ds with
  | some Qm=>.ret (.ret Qm,xE mp st uD)
  | none=>.fail
 | _,_=>.fail
def j3.inner(d:j3)(mp:List Nat)(fr:Fr)(st:St):T (Wd×St):=match bY st mp with
 | none=>.fail
 | some l=>match dZ (pos mp) l with
  | none=>.fail
  | some y6=>(d.sh.un (lR (pos mp) fr) y6).bind λx=>(d.F x).bind λy=>d.back mp st y
def j3.S(d:j3)(args:List D)(st:St):T (Wd×St) :=
 match mapOf d.sh (gh d.ju (xN args 0) st).1 (gh d.ju (xN args 0) st).2 with
 | none=>.fail
 | some mp=>bif jT mp&&Nat.ble mp.length d.sh.bs.length&&Nat.beq args.length d.ks.length then d.inner mp (gh d.ju (xN args 0) st).1 (gh d.ju (xN args 0) st).2 else .fail
def j3.tk{α:Type}(d:j3)(mp:List Nat)(st:St)(y:d.out.den)(k:List D->St->T α):T α:=match ku d.nr (d.out.fr y),dZ (λj=>some (fwd mp st.length j)) (d.out.st y)with
 | some ds,some uD=>match rI (λj=>some (fwd mp st.length j)) ds with
  | some Qm=>k Qm (xE mp st uD)
  | none=>.fail
 | _,_=>.fail
def j3.fW{α:Type}(d:j3)(mp:List Nat)(fr:Fr)(st:St)(k:List D->St->T α):T α:=match bY st mp with
 | none=>.fail
 | some l=>match dZ (pos mp) l with
  | none=>.fail
  | some y6=>(d.sh.un (lR (pos mp) fr) y6).bind λx=>(d.F x).bind λy=>d.tk mp st y k
def j3.K{α:Type}(d:j3)(args:List D)(st:St)(k:List D->St->T α):T α :=
 match mapOf d.sh (gh d.ju (xN args 0) st).1 (gh d.ju (xN args 0) st).2 with
 | none=>.fail
 | some mp=>bif jT mp&&Nat.ble mp.length d.sh.bs.length&&Nat.beq args.length d.ks.length then d.fW mp (gh d.ju (xN args 0) st).1 (gh d.ju (xN args 0) st).2 k else .fail
theorem j3.F9{α:Type}{d:j3}{args:List D}{st:St}{k:List D->St->T α}{r:α}(h:(d.K args st k).leads r):∃ ds zl,(d.S args st).leads (.ret ds,zl)/\(k ds zl).leads r:=by
 unfold j3.K at h
 unfold j3.S
 split at h
 ·exact h.elim
 ·rename_i mp DL
  cases hc:jT mp&&Nat.ble mp.length d.sh.bs.length&&Nat.beq args.length d.ks.length with
  | false=>rw[hc]at h; exact h.elim
  | true =>
   rw[hc,cond_true]at h
   unfold j3.fW at h
   unfold j3.inner
   split at h
   ·exact h.elim
   ·rename_i l hl
    split at h
    ·exact h.elim
    ·rename_i y6 hst1
     obtain⟨x,h1,h⟩:=T.zb.1 h
     obtain⟨y,h2,h⟩:=T.zb.1 h
     unfold j3.tk at h
     split at h
     ·rename_i ds uD e1 e2
      split at h
      ·rename_i Qm e3
       refine⟨Qm,_,T.zb.2 ⟨x,h1,T.zb.2 ⟨y,h2,?_⟩⟩,h⟩
       unfold j3.back
       simp only[e1,e2,e3]
       rfl
      ·exact h.elim
     ·exact h.elim
def jL(Dr:IJ)(g:Nat)(d:j3):Prop:=∀ (κ:KS) (x:d.sh.den) (zn:List Value) (y:d.out.den),κ.st=d.sh.st x->(d.F x).leads y->Inv κ->zn.length=d.ks.length ->
 Rel κ zn.length (d.sh.fr x).get { tmps:=zn.toArray,defers:=[] } ->
 Dr g zn.toArray κ.w λe w'=>∃ (κ':KS) (ds:List D),κ'.w=w'/\κ'.st=d.out.st y/\Inv κ'/\Ext κ κ'/\ku d.nr (d.out.fr y)=some ds/\xR κ' (.ret ds) e
def xA(P:Program)(g:Nat)(d:j3):Prop:=∀ (κ:KS) (x:d.sh.den) (zn:List Value) (y:d.out.den),κ.st=d.sh.st x->(d.F x).leads y->Inv κ->zn.length=d.ks.length ->
 Rel κ zn.length (d.sh.fr x).get { tmps:=zn.toArray,defers:=[] } ->
 vL P g zn.toArray κ.w λe w'=>∃ (κ':KS) (ds:List D),κ'.w=w'/\κ'.st=d.out.st y/\Inv κ'/\Ext κ κ'/\ku d.nr (d.out.fr y)=some ds/\xR κ' (.ret ds) e
theorem Gk{κ κ':KS}{f:Nat->Option Nat}(h:Tr κ κ' f){ds Qm:List D}{v:Value}(hd:RD κ (jG ds) v)(hr:rI f ds=some Qm):RD κ' (jG Qm) v:=by
 match ds,hr with
 | [],hr =>
  cases hr
  cases hd with
  | jW _ vs hl hh =>
   obtain rfl:vs=[]:=List.eq_nil_of_length_eq_zero hl.symm
   exact .jW [] [] rfl (λi h=>absurd h (Nat.not_lt_zero i))
 | [d],hr =>
  simp only[rI]at hr
  split at hr
  ·rename_i d' h1
   cases hr
   exact h.rd hd h1
  ·cases hr
 | d::e::r,hr =>
  cases hd with
  | jW _ vs hl hh =>
   have hR:=h.rds (⟨hl,hh⟩:qj κ (d::e::r) vs) hr
   simp only[rI]at hr
   split at hr
   ·split at hr
    ·rename_i r' h2
     cases hr
     split at h2
     ·split at h2
      ·cases h2; exact .jW _ vs hR.1 hR.2
      ·cases h2
     ·cases h2
    ·cases hr
   ·cases hr
theorem mz{α β:Type}{l:List α}{m:List β}(h:l.length=m.length):∀ {mp:List Nat} {r:List α},bY l mp=some r->∃ q,bY m mp=some q
 | [],_,_=>⟨[],rfl⟩
 | b::mp,r,hr=>by
  simp only[bY]at hr
  split at hr
  ·rename_i x hx
   split at hr
   ·rename_i y hy
    obtain⟨q,hq⟩:=mz h hy
    have hb:b<m.length:=by have:=(List.getElem?_eq_some_iff.1 hx).1; omega
    exact⟨m[b]::q,by simp only[bY,List.getElem?_eq_getElem hb,hq]⟩
   ·cases hr
  ·cases hr
theorem j3.Rw{Dr:IJ}(Tk:∀ {g a w} {R R':Ending->World->Prop},Dr g a w R->(∀ e w',R e w'->R' e w')->Dr g a w R'){g:Nat}{d:j3}(h:jL Dr g d):z5y Dr g d.S:=by
 intro κ args zn rs zl hl hI ha
 have Ir:Rel κ zn.length (xN args 0).get { tmps:=zn.toArray,defers:=[] }:=by
  have:=nb (n:=zn.length) ha (by rw[ha.1]; exact Nat.le_refl _)
  simpa[show(Qg.df:List Deferred)=[]from rfl]using this
 obtain⟨κ0,w1,w2,w3,w4,w5⟩:=cK d.ju (xN args 0) κ hI Ir
 unfold j3.S at hl
 rw[<- w2]at hl
 split at hl
 ·exact hl.elim
 ·rename_i mp DL
  cases hc:jT mp&&Nat.ble mp.length d.sh.bs.length&&Nat.beq args.length d.ks.length with
  | false=>rw[hc]at hl; exact hl.elim
  | true =>
   rw[hc,cond_true]at hl
   simp only[Bool.and_eq_true]at hc
   obtain⟨⟨hn,hle⟩,hlen⟩:=hc
   unfold j3.inner at hl
   split at hl
   ·exact hl.elim
   ·rename_i l ZZ
    split at hl
    ·exact hl.elim
    ·rename_i y6 hst1
     obtain⟨x,h1,hl⟩:=T.zb.1 hl
     obtain⟨y,h2,hl⟩:=T.zb.1 hl
     obtain⟨p1,T4⟩:=mz (m:=κ0.ph) w3.len.symm ZZ
     obtain⟨s1,s2,s3,s4,s5⟩:=Yv w3 hn T4 ZZ hst1
     have X7:Rel ⟨κ0.w,κ0.ok,p1,y6⟩ zn.length (lR (pos mp) (gh d.ju (xN args 0) κ.st).1).get { tmps:=zn.toArray,defers:=[] } :=
      ⟨w5.size,w5.defers,λs d' hd=>by
       obtain⟨d0,q1,q2⟩:=iT hd
       obtain⟨v,q3,q4⟩:=w5.get s d0 q1
       exact⟨v,q3,s2.rd q4 q2⟩⟩
     obtain⟨κ2,u1,u2,u3,u4,u5,_⟩:=d.sh.oj (κ0:=⟨κ0.w,κ0.ok,p1,y6⟩) (κ:=⟨κ0.w,κ0.ok,p1,y6⟩) (Ext.refl _) s1 X7 (by show y6.length<=_; rw[s3]; exact Nat.le_of_ble_eq_true hle) h1
     have hw:κ2.w=κ.w:=u1.trans w1
     have TU:=h κ2 x zn y u2 h2 u3 (by rw[<- ha.1]; exact Nat.eq_of_beq_eq_true hlen) u5
     rw[hw]at TU
     refine Tk TU ?_
     rintro e w' ⟨κ3,ds,rfl,g1,g2,g3,g4,v,rfl,g5⟩
     unfold j3.back at hl
     rw[g4,<- g1]at hl
     split at hl
     ·rename_i ds0 uD e1 e2
      cases e1
      split at hl
      ·rename_i Qm hds'
       cases hl
       obtain⟨κ',k1,k2,k3,k4,k5⟩:=WJ w3 hn T4 ZZ hst1 g2 (u4.trans g3) e2
       exact⟨κ',k1,k2,k3,w4.trans k4,v,rfl,Gk k5 g5 hds'⟩
      ·exact hl.elim
     ·exact hl.elim
theorem j3.snd{P:Program}{g:Nat}{d:j3}(h:xA P g d):VJ P g d.S:=j3.Rw (Dr:=vL P) vL.mono h
structure bF where
 ks:List AK
 sh:vY
 ju:List Gh
 out:vY
 nr:Nat
 pt:Nat
 jg:vY
 F:sh.den->T (out.den⊕jg.den)
abbrev bF.s(d:bF):j3:=⟨d.ks,d.sh,d.ju,d.out,d.nr,λ_=>.fail⟩
def bF.IG{α:Type}(d:bF)(mp:List Nat)(st:St)(z:d.jg.den)(kp:D->St->T α):T α:=match(d.jg.fr z).get 0,dZ (λj=>some (fwd mp st.length j)) (d.jg.st z)with
 | some (.zx τ x),some uD=>kp (.iface d.pt (.zx τ x)) (xE mp st uD)
 | _,_=>.fail
def bF.fW{α:Type}(d:bF)(mp:List Nat)(fr:Fr)(st:St)(k:List D->St->T α)(kp:D->St->T α):T α:=match bY st mp with
 | none=>.fail
 | some l=>match dZ (pos mp) l with
  | none=>.fail
  | some y6=>(d.sh.un (lR (pos mp) fr) y6).bind λx=>(d.F x).bind (Sum.elim (λy=>d.s.tk mp st y k) (λz=>d.IG mp st z kp))
def bF.K{α:Type}(d:bF)(args:List D)(st:St)(k:List D->St->T α)(kp:D->St->T α):T α :=
 match mapOf d.sh (gh d.ju (xN args 0) st).1 (gh d.ju (xN args 0) st).2 with
 | none=>.fail
 | some mp=>bif jT mp&&Nat.ble mp.length d.sh.bs.length&&Nat.beq args.length d.ks.length then d.fW mp (gh d.ju (xN args 0) st).1 (gh d.ju (xN args 0) st).2 k kp else .fail
def bF.S(d:bF)(args:List D)(st:St):T (Wd×St):=d.K args st (λds zl=>.ret (.ret ds,zl)) (λp zl=>.ret (.jg p,zl))
theorem bF.F9{α:Type}{d:bF}{args:List D}{st:St}{k:List D->St->T α}{kp:D->St->T α}{r:α}(h:(d.K args st k kp).leads r) :
  (∃ ds zl,(d.S args st).leads (.ret ds,zl)/\(k ds zl).leads r)\/∃ p zl,(d.S args st).leads (.jg p,zl)/\(kp p zl).leads r:=by
 unfold bF.K at h
 unfold bF.S bF.K
 split at h
 ·exact h.elim
 ·rename_i mp DL
  cases hc:jT mp&&Nat.ble mp.length d.sh.bs.length&&Nat.beq args.length d.ks.length with
  | false=>rw[hc]at h; exact h.elim
  | true =>
   rw[hc,cond_true]at h
   unfold bF.fW at h
   unfold bF.fW
   split at h
   ·exact h.elim
   ·rename_i l hl
    split at h
    ·exact h.elim
    ·rename_i y6 hst1
     obtain⟨x,h1,h⟩:=T.zb.1 h
     obtain⟨y,h2,h⟩:=T.zb.1 h
     cases y with
     | inl y =>
      simp at h
      unfold j3.tk at h
      split at h
      ·rename_i ds uD e1 e2
       split at h
       ·rename_i Qm e3
        refine .inl ⟨Qm,_,T.zb.2 ⟨x,h1,T.zb.2 ⟨.inl y,h2,?_⟩⟩,h⟩
        simp
        unfold j3.tk
        simp only[e1,e2,e3]
        rfl
       ·exact h.elim
      ·exact h.elim
     | inr z =>
      simp at h
      unfold bF.IG at h
      split at h
      ·rename_i τ p uD e1 e2
       refine .inr ⟨_,_,T.zb.2 ⟨x,h1,T.zb.2 ⟨.inr z,h2,?_⟩⟩,h⟩
       simp
       unfold bF.IG
       simp only[e1,e2]
       rfl
      ·exact h.elim
def jk(P:Program)(g:Nat)(d:bF):Prop:=∀ (κ:KS) (x:d.sh.den) (zn:List Value) (r:d.out.den⊕d.jg.den),κ.st=d.sh.st x->(d.F x).leads r->Inv κ->zn.length=d.ks.length ->
 Rel κ zn.length (d.sh.fr x).get { tmps:=zn.toArray,defers:=[] } ->
 vL P g zn.toArray κ.w λe w'=>∃ κ':KS,κ'.w=w'/\Inv κ'/\Ext κ κ' /\
  ((∃ (y:d.out.den) (ds:List D),r=.inl y/\κ'.st=d.out.st y/\ku d.nr (d.out.fr y)=some ds/\xR κ' (.ret ds) e) \/
   ∃ (z:d.jg.den) (p:D),r=.inr z/\κ'.st=d.jg.st z/\(d.jg.fr z).get 0=some p/\xR κ' (.jg (.iface d.pt p)) e)
theorem bF.snd{P:Program}{g:Nat}{d:bF}(h:jk P g d):VJ P g d.S:=by
 intro κ args zn rs zl hl hI ha
 have Ir:Rel κ zn.length (xN args 0).get { tmps:=zn.toArray,defers:=[] }:=by
  have:=nb (n:=zn.length) ha (by rw[ha.1]; exact Nat.le_refl _)
  simpa[show(Qg.df:List Deferred)=[]from rfl]using this
 obtain⟨κ0,w1,w2,w3,w4,w5⟩:=cK d.ju (xN args 0) κ hI Ir
 unfold bF.S bF.K at hl
 rw[<- w2]at hl
 split at hl
 ·exact hl.elim
 ·rename_i mp DL
  cases hc:jT mp&&Nat.ble mp.length d.sh.bs.length&&Nat.beq args.length d.ks.length with
  | false=>rw[hc]at hl; exact hl.elim
  | true =>
   rw[hc,cond_true]at hl
   simp only[Bool.and_eq_true]at hc
   obtain⟨⟨hn,hle⟩,hlen⟩:=hc
   unfold bF.fW at hl
   split at hl
   ·exact hl.elim
   ·rename_i l ZZ
    split at hl
    ·exact hl.elim
    ·rename_i y6 hst1
     obtain⟨x,h1,hl⟩:=T.zb.1 hl
     obtain⟨y,h2,hl⟩:=T.zb.1 hl
     obtain⟨p1,T4⟩:=mz (m:=κ0.ph) w3.len.symm ZZ
     obtain⟨s1,s2,s3,s4,s5⟩:=Yv w3 hn T4 ZZ hst1
     have X7:Rel ⟨κ0.w,κ0.ok,p1,y6⟩ zn.length (lR (pos mp) (gh d.ju (xN args 0) κ.st).1).get { tmps:=zn.toArray,defers:=[] } :=
      ⟨w5.size,w5.defers,λs d' hd=>by
       obtain⟨d0,q1,q2⟩:=iT hd
       obtain⟨v,q3,q4⟩:=w5.get s d0 q1
       exact⟨v,q3,s2.rd q4 q2⟩⟩
     obtain⟨κ2,u1,u2,u3,u4,u5,_⟩:=d.sh.oj (κ0:=⟨κ0.w,κ0.ok,p1,y6⟩) (κ:=⟨κ0.w,κ0.ok,p1,y6⟩) (Ext.refl _) s1 X7 (by show y6.length<=_; rw[s3]; exact Nat.le_of_ble_eq_true hle) h1
     have hw:κ2.w=κ.w:=u1.trans w1
     have TU:=h κ2 x zn y u2 h2 u3 (by rw[<- ha.1]; exact Nat.eq_of_beq_eq_true hlen) u5
     rw[hw]at TU
     refine TU.mono ?_
     rintro e w' ⟨κ3,rfl,g2,g3,⟨y,ds,rfl,g1,g4,v,rfl,g5⟩ | ⟨z,p,rfl,g1,g4,v,rfl,g5⟩⟩
     ·simp only[Sum.elim_inl]at hl
      unfold j3.tk at hl
      rw[show ku d.s.nr (d.s.out.fr y)=some ds from g4,show d.s.out.st y=κ3.st from g1.symm]at hl
      split at hl
      ·rename_i ds0 uD e1 e2
       cases e1
       split at hl
       ·rename_i Qm hds'
        cases hl
        obtain⟨κ',k1,k2,k3,k4,k5⟩:=WJ w3 hn T4 ZZ hst1 g2 (u4.trans g3) e2
        exact⟨κ',k1,k2,k3,w4.trans k4,v,rfl,Gk k5 g5 hds'⟩
       ·exact hl.elim
      ·exact hl.elim
     ·simp only[Sum.elim_inr]at hl
      unfold bF.IG at hl
      rw[g4,<- g1]at hl
      split at hl
      ·rename_i τ q uD e1 e2
       cases e1
       cases hl
       obtain⟨κ',k1,k2,k3,k4,k5⟩:=WJ w3 hn T4 ZZ hst1 g2 (u4.trans g3) e2
       refine⟨κ',k1,k2,k3,w4.trans k4,v,rfl,?_⟩
       cases g5 with
       | iface _ _ u hu=>exact .iface _ _ u (k5.rd hu rfl)
      ·exact hl.elim
end Go.AM
namespace Go.AM
def Wi(sh:vY)(ju:List Gh)(args:List D)(st:St):List Nat:=bif ju.isEmpty then match mapOf sh (xN args 0) st with | some mp=>others st.length mp | none=>[]else[]
def j3.free(d:j3)(args:List D)(st:St):List Nat:=Wi d.sh d.ju args st
def bF.free(d:bF)(args:List D)(st:St):List Nat:=Wi d.sh d.ju args st
theorem UK{m b:Nat}{l:List Nat}(h:b∈others m l):b<m/\∀ x∈l,b≠x:=by
 simp only[others,List.mem_filter,List.mem_range,Bool.not_eq_true',List.any_eq_false]at h
 exact⟨h.1,λx hx e=>by subst e; exact h.2 b hx (Nat.beq_refl _)⟩
theorem Uw:∀ {mp:List Nat} {b:Nat},(∀ x∈mp,b≠x)->pos mp b=none
 | [],_,_=>rfl
 | x::r,b,h=>by
  simp only[pos]
  rw[show Nat.beq x b=false from by cases hb:Nat.beq x b with | false=>rfl | true=>exact absurd (Nat.eq_of_beq_eq_true hb).symm (h x List.mem_cons_self),cond_false,Uw λy hy=>h y (List.mem_cons_of_mem _ hy)]
theorem tH{sh:vY}{ju:List Gh}{args:List D}{st:St}{b:Nat}(hb:b∈Wi sh ju args st):ju=[]/\∃ mp,mapOf sh (xN args 0) st=some mp/\b<st.length/\pos mp b=none:=by
 unfold Wi at hb
 cases hn:ju.isEmpty with
 | false=>grind
 | true =>
  rw[hn,cond_true]at hb
  refine⟨List.isEmpty_iff.1 hn,?_⟩
  split at hb
  ·rename_i mp DL
   obtain⟨h1,h2⟩:=UK hb
   exact⟨mp,DL,h1,Uw h2⟩
  ·cases hb
theorem j3.ng{d:j3}{args:List D}{st zl:St}{rs:Wd}{b:Nat}(h:(d.S args st).leads (rs,zl))(hb:b∈d.free args st):zl[b]? = st[b]? := by
 obtain⟨hn,mp,DL,qc,oa⟩:=tH hb
 unfold j3.S at h
 rw[hn]at h
 simp only[gh,DL]at h
 cases hc:jT mp&&Nat.ble mp.length d.sh.bs.length&&Nat.beq args.length d.ks.length with
 | false=>rw[hc]at h; exact h.elim
 | true =>
  rw[hc,cond_true]at h
  unfold j3.inner at h
  split at h
  ·exact h.elim
  ·split at h
   ·exact h.elim
   ·obtain⟨x,_,h⟩:=T.zb.1 h
    obtain⟨y,_,h⟩:=T.zb.1 h
    unfold j3.back at h
    split at h
    ·split at h
     ·cases h; exact cM qc oa
     ·exact h.elim
    ·exact h.elim
theorem bF.ng{d:bF}{args:List D}{st zl:St}{rs:Wd}{b:Nat}(h:(d.S args st).leads (rs,zl))(hb:b∈d.free args st):zl[b]? = st[b]? := by
 obtain⟨hn,mp,DL,qc,oa⟩:=tH hb
 unfold bF.S bF.K at h
 rw[hn]at h
 simp only[gh,DL]at h
 cases hc:jT mp&&Nat.ble mp.length d.sh.bs.length&&Nat.beq args.length d.ks.length with
 | false=>rw[hc]at h; exact h.elim
 | true =>
  rw[hc,cond_true]at h
  unfold bF.fW at h
  split at h
  ·exact h.elim
  ·split at h
   ·exact h.elim
   ·obtain⟨x,_,h⟩:=T.zb.1 h
    obtain⟨y,_,h⟩:=T.zb.1 h
    cases y with
    | inl y =>
     simp at h
     unfold j3.tk at h
     split at h
     ·split at h
      ·cases h; exact cM qc oa
      ·exact h.elim
     ·exact h.elim
    | inr z =>
     simp at h
     unfold bF.IG at h
     split at h
     ·cases h; exact cM qc oa
     ·exact h.elim
end Go.AM
namespace Go.AM
def mX.den:mX->Type
 | .ty τ=>AM.den τ
 | .rp τ=>AM.den τ
 | .qE _ caps=>y7 caps
def yi:List mX->Type
 | []=>Unit
 | [p]=>p.den
 | p::q::r=>p.den×yi (q::r)
def Ln:(p:mX)->p.den->D
 | .ty τ,x=>.zx τ x
 | .rp τ,x=>.qA τ x
 | .qE f caps,x=>.qE f (de caps x)
def pB:(l:List mX)->yi l->List D
 | [],_=>[]
 | [p],x=>[Ln p x]
 | p::q::r,x=>Ln p x.1::pB (q::r) x.2
def nZ:(l:List Ty)->Gy l->List D
 | [],_=>[]
 | [τ],x=>[.zx τ x]
 | τ::σ::r,x=>.zx τ x.1::nZ (σ::r) x.2
def Sr(st:St)(τ:Ty):D->T (den τ)
 | .qA _ x=>match(we x:Option (den τ))with | some y=>.ret y | none=>.fail
 | .ptr b off=>match st[b]? with
  | some (.var d)=>match bif Nat.beq off 0 then gX τ d else none with | some y=>.ret y | none=>.fail
  | _=>.fail
 | _=>.fail
def Om(st:St):(p:pn)->D->T (den p.ty)
 | .im τ,d=>nA st τ d
 | .rp τ,d=>Sr st τ d
def Bp(st:St):(l:List pn)->List D->T (y7 l)
 | [],[]=>.ret ()
 | [p],[d]=>Om st p d
 | p::q::r,d::ds=>(Om st p d).bind λx=>(Bp st (q::r) ds).bind λy=>.ret (x,y)
 | _,_=>.fail
def PB(st:St):(p:mX)->D->T p.den
 | .ty τ,d=>nA st τ d
 | .rp τ,d=>Sr st τ d
 | .qE f caps,d=>match d with
  | .qE f' l=>bif Nat.beq f f' then Bp st caps l else .fail
  | _=>.fail
def U0(st:St):(l:List mX)->List D->T (yi l)
 | [],[]=>.ret ()
 | [p],[d]=>PB st p d
 | p::q::r,d::ds=>(PB st p d).bind λx=>(U0 st (q::r) ds).bind λy=>.ret (x,y)
 | _,_=>.fail
def EW(st:St):(l:List Ty)->List D->T (Gy l)
 | [],[]=>.ret ()
 | [τ],[d]=>nA st τ d
 | τ::σ::r,d::ds=>(nA st τ d).bind λx=>(EW st (σ::r) ds).bind λy=>.ret (x,y)
 | _,_=>.fail
structure Ur where
 ps:List mX
 rs:List Ty
 F:yi ps->T (Gy rs)
def Ru:mX->D->Bool
 | .qE f _,d=>match d with | .qE f' _=>Nat.beq f f' | _=>false
 | _,d=>match d with | .qE _ _=>false | _=>true
def fits:List mX->List D->Bool
 | [],[]=>true
 | p::ps,d::ds=>Ru p d&&fits ps ds
 | _,_=>false
def R9:AK->D->Bool
 | .any,d=>match d with | .qE _ _=>false | _=>true
 | .cur,d=>match d with | .ms .. => true | .qZ=>true | _=>false
 | .sub,d=>match d with | .ms .. => true | _=>false
 | .ptr,d=>match d with | .ptr .. => true | _=>false
 | .qE f,d=>match d with | .qE f' _=>Nat.beq f f' | _=>false
def eE:List AK->List D->Bool
 | [],[]=>true
 | p::ps,d::ds=>R9 p d&&eE ps ds
 | _,_=>false
inductive Ll where
 | d (x:Ur)
 | s (x:j3)
 | p (x:bF)
def Ll.fits:Ll->List D->Bool
 | .d x,l=>AM.fits x.ps l
 | .s x,l=>eE x.ks l
 | .p x,l=>eE x.ks l
abbrev gH:=List (Nat×Ll)
def gH.find:gH->Nat->List D->Option Ll
 | [],_,_=>none
 | (g',d)::r,g,args=>bif Nat.beq g' g&&d.fits args then some d else gH.find r g args
abbrev Sm:=List D->St->T (Wd×St)
def Ur.S(d:Ur):Sm:=λargs st=>match st with
 | []=>(U0 [] d.ps args).bind λx=>(d.F x).bind λy=>.ret (.ret (nZ d.rs y),[])
 | _=>.fail
def gH.call(tab:gH)(g:Nat)(args:List D)(st:St):T (Wd×St):=match tab.find g args with | some (.d d)=>d.S args st | some (.s d)=>d.S args st | some (.p d)=>d.S args st | none=>.fail
def gH.free(tab:gH)(g:Nat)(args:List D)(st:St):List Nat:=match tab.find g args with | some (.s d)=>d.free args st | some (.p d)=>d.free args st | _=>[]
theorem gH.ng(tab:gH)(g:Nat)(args:List D)(st:St)(rs:Wd)(zl:St)(b:Nat)(h:(tab.call g args st).leads (rs,zl))(hb:b∈tab.free g args st):zl[b]? = st[b]? := by
 unfold gH.call at h
 unfold gH.free at hb
 split at hb
 ·rename_i d hd; rw[hd]at h; exact j3.ng h hb
 ·rename_i d hd; rw[hd]at h; exact bF.ng h hb
 ·cases hb
def vw(P:Program)(xid:Nat)(tab:gH)(ro:Nat->Bool):Ctx :=
 { P,xid,ro,sig:=λg args=>match tab.find g args with | some (.d d)=>some ⟨d.ps,d.rs⟩ | _=>none,fn:=tab.call,free:=tab.free,DF:=tab.ng }
def OV{α:Type}(tab:gH)(g:Nat)(args:List D)(st:St)(k:Nat->Option D->St->T α)(kp:D->St->T α):T α:=match tab.find g args with
 | none=>.fail
 | some (.d d)=>bif !(args.any ZP)then(U0 [] d.ps args).bind λx=>(d.F x).bind λy=>k 0 (some (jG (nZ d.rs y))) st
  else(U0 st d.ps args).bind λx=>(d.F x).bind λy=>bif (nZ d.rs y).all lr then k 1 (some (jG (nZ d.rs y))) st else .fail
 | some (.s d)=>d.K args st λds zl=>k 2 (some (jG ds)) zl
 | some (.p d)=>d.K args st (λds zl=>k 2 (some (jG ds)) zl) kp
def WK{α:Type}(tab:gH)(f:Option D)(args:List (Option D))(st:St)(k:Nat->Option D->St->T α)(kp:D->St->T α):T α:=match f,vJ args with
 | some (.qE g caps),some l=>OV tab (jM g) (ux g l caps) st k kp
 | _,_=>.fail
def gq(l:List Nat):Fr:=l.map λs=>(s,none)
def dstsOf:List Oper->List Nat
 | []=>[]
 | o::r=>match o.dst with | some t=>t::dstsOf r | none=>dstsOf r
def zY:Code->List Nat
 | .region _ ops _=>dstsOf ops.toList
 | .seq a b=>zY a++zY b
 | .cond _ a b=>zY a++zY b
 | .block _ a=>zY a
 | .loop a=>zY a
 | _=>[]
structure qp where
 gh:List Gh
 ps:List It
 sh:vY
 ws:List Way
 F:wg ps->sh.den->T (kz ws)
inductive Mt where
 | flat (eO:List It)
 | ways (ws:List Way)
 | z1u
structure Hints where
 loop:Nat->Option qp
 cut:Nat->Nat->Option Mt
 Lv:Nat->List Nat
def bm:Code->Option Nat
 | .region id _ _=>some id
 | .seq a b=>match bm a with | some n=>some n | none=>bm b
 | .cond _ a b=>match bm a with | some n=>some n | none=>bm b
 | .block _ a=>bm a
 | .loop a=>bm a
 | _=>none
def keyOf(x:Code):Nat×Nat:=(match x with | .region .. => 0 | .cond .. => 1 | .block .. => 2 | _=>3,match bm x with | some n=>n | none=>0)
def PF(l:List Nat)(s:Nat):Bool := !(l.any (Nat.beq s))
def sF:Dk->Bool
 | .sub _ _=>false
 | .st _=>false
 | .mclo _ _=>false
 | _=>true
def Y4(ps:List It)(ws:List Nat):Bool:=ps.all λi=>match i with
 | .s t k=>sF k&&PF ws t
 | _=>false
def WT{α:Type}:T α->Option α
 | .ret a=>some a
 | .ite _ t e=>match WT t with | some a=>some a | none=>WT e
 | .zC _ t=>WT t
 | .fail=>none
def J2{α β:Type}(f:α->β):T α->T β
 | .ret a=>.ret (f a)
 | .ite b t e=>.ite b (J2 f t) (J2 f e)
 | .zC p t=>.zC p (J2 f t)
 | .fail=>.fail
def BL:(l:List It)->wg l->T (wg l)->wg l
 | [],_,_=>()
 | [_],d,t=>T.val d t
 | _::j::r,d,t=>(T.val d.1 (J2 Prod.fst t),BL (j::r) d.2 (J2 Prod.snd t))
def E2(l:List It)(t:T (wg l)):T (wg l):=match WT t with
 | some d=>match t.nS with
  | none=>.ret (BL l d t)
  | some p=>.zC p (.ret (BL l d t))
 | none=>.fail
def Xz(l:List It):Bool:=l.all λi=>match i with
 | .s _ k=>sF k
 | _=>false
structure YL where
 ex:Ex
 fr:Fr
 kn:Kn
 st:St
 q:Bool      -- the store has not been written
def quiet(ks:List Nat):Bool:=ks.all λk => !(Nat.beq k 2)
structure z0Y where
 e:Ty
 l:List (den e)
 m:Nat
 s:Nat
 c:Nat
 eq:Bool
def Ih:BinOp->Option Bool
 | .eql=>some true
 | .neq=>some false
 | _=>none
def KM:Operand->Bool
 | .const (.slice none 0 0)=>true
 | _=>false
def WO(c:Ctx)(n:Nat)(ops:Array Oper)(fr:Fr):Option z0Y:=match ops.toList with
 | [o1,o2]=>match o1.dst,o1.op,o1.guard with
  | some m,.move (.tmp s),none=>match o2.dst,o2.op,o2.guard with
   | some cc,.binOp op t (.tmp m') y _,none=>match Ih op,fr.get s,bO c t with
    | some b,some (.zx (.sl e) l),some _=>bif Nat.beq m m'&&KM y&&Nat.blt m n&&Nat.blt cc n then some ⟨e,l,m,s,cc,b⟩else none
    | _,_,_=>none
   | _,_,_=>none
  | _,_,_=>none
 | _=>none
def opsOf:Code->Option (Array Oper)
 | .region _ ops false=>some ops
 | _=>none
section
variable (c:Ctx) (tab:gH)
variable [lE]
def iV{α:Type}(n:Nat)(o:Oper)(s:gz)(k:gz->T α)(kp:D->St->T α):T α :=
 bif ve n o.dst then match o.op with
  | .call cl=>match cl.callee with
   | .value f=>WK tab (vN s.fr f) (cl.args.toList.map (vN s.fr)) s.st (λkd d zl=>k ⟨s.fr.put o.dst d,Qn s.kn o.dst none,zl,kd::s.ks,xH c (vN s.fr) s.st o::s.bk⟩) kp
   | _=>let cl:=ep c s.kn s.fr o
    (zr cl s.st).bind λr=>k ⟨s.fr.put o.dst r.1,Qn s.kn o.dst (Qh s.kn o.op),r.2,cl.kind::s.ks,xH c (vN s.fr) s.st o::s.bk⟩
  | .panic x=>match vN s.fr x with
   | some (.iface t d)=>kp (.iface t d) s.st
   | _=>.fail
  | _=>let cl:=ep c s.kn s.fr o
   (zr cl s.st).bind λr=>k ⟨s.fr.put o.dst r.1,Qn s.kn o.dst (Qh s.kn o.op),r.2,cl.kind::s.ks,xH c (vN s.fr) s.st o::s.bk⟩
 else .fail
def K6{α:Type}(n:Nat)(ops:Array Oper)(o:Oper)(s:gz)(k:gz->T α)(kp:D->St->T α):T α:=match o.guard with
 | none=>iV c tab n o s k kp
 | some (j,want)=>match vK ops j with
  | none=>.fail
  | some t=>match s.kn.get t with
   | some b=>bif b==want then iV c tab n o s k kp else bif ve n o.dst then k (ur o s)else .fail
   | none=>match s.fr.get t with
    | some (.zx .bool x)=>bif ve n o.dst then
      .ite x (bif want then iV c tab n o (s.ye t true) k kp else k (ur o (s.ye t true)))
          (bif want then k (ur o (s.ye t false))else iV c tab n o (s.ye t false) k kp)
     else .fail
    | some (.jW [])=>bif ve n o.dst then k (ur o s)else .fail
    | _=>.fail
def sj{α:Type}(n:Nat)(ops:Array Oper):List Oper->gz->(gz->T α)->(D->St->T α)->T α
 | [],s,k,_=>k s
 | o::l,s,k,kp=>K6 c tab n ops o s (λs'=>sj n ops l s' k kp) kp
def tp{α:Type}(n:Nat)(ops:Array Oper)(draw:Bool)(fr:Fr)(kn:Kn)(st:St)(k:gz->T α)(kp:D->St->T α):T α :=
 sj c tab n ops ops.toList ⟨fr,kn,st,[],[]⟩ (λs=>bif !draw||mV ops s.ks.reverse s.bk.reverse then k s else .fail) (λd zl=>bif draw then .fail else kp d zl)
def mY(n:Nat)(H:Hints):Code->Fr->Kn->St->{α:Type}->(YL->T α)->T α
 | .skip,fr,kn,st,_,k=>k ⟨.normal,fr,kn,st,true⟩
 | .region id ops draw,fr,kn,st,_,k=>(Lv (H.Lv id) fr st).bind λz=>tp c tab n ops draw z.1 kn z.2 (λs=>k ⟨.normal,s.fr,s.kn,s.st,quiet s.ks&&(H.Lv id).isEmpty⟩) (λd zl=>k ⟨.jg d,[],[],zl,false⟩)
 | .seq a b,fr,kn,st,_,k=>match H.cut (keyOf a).1 (keyOf a).2 with
  | none=>mY n H a fr kn st λr=>match r.ex with
   | .normal=>mY n H b r.fr r.kn r.st λo=>k { o with q:=r.q&&o.q }
   | _=>k r
  | some (.flat eO)=>bif Xz eO then
    (E2 eO (mY n H a fr kn st λo=>match o.ex with
     | .normal=>bif o.q then Xb o.fr o.st eO []else .fail
     | _=>.fail)).bind λx=>mY n H b (bq st eO x++(gq (zY a)++fr)) [] st k
   else .fail
  | some .z1u=>match opsOf a with
   | none=>.fail
   | some ops=>match WO c n ops fr with
    | none=>.fail
    | some p =>
     let non:=mY n H b ((p.c,some (.zx .bool (!p.eq)))::(p.m,some (.zx (.sl p.e) p.l))::fr) [(p.c,some (!p.eq))] st k
     .zC (p.l=[]->∀ r,non.leads r->(mY n H b ((p.c,some (.zx .bool p.eq))::(p.m,some .qZ)::(p.s,some .qZ)::fr) [(p.c,some p.eq)] st k).leads r) non
  | some (.ways ws)=>bif ws.all λw=>Nat.ble st.length w.sh.bs.length then
    (mY n H a fr kn st λo=>Vp ws o.ex (QC o.ex o.fr) o.st).bind λr=>H3 ws r λex out zl=>match UU ex out with
     | none=>.fail
     | some z=>match z.1 with
      | .normal=>mY n H b (z.2++(gq (zY a)++fr)) [] zl λo=>k { o with q:=false }
      | e=>k ⟨e,z.2++(gq (zY a)++fr),[],zl,false⟩
   else .fail
 | .cond x a b,fr,kn,st,_,k=>match gm kn x with
  | some true=>mY n H a fr kn st k
  | some false=>mY n H b fr kn st k
  | none=>match x with
   | .tmp t=>match fr.get t with
    | some (.zx .bool v)=>.ite v (mY n H a fr ((t,some true)::kn) st k) (mY n H b fr ((t,some false)::kn) st k)
    | _=>.fail
   | _=>.fail
 | .block id (.loop b),fr,_,st,_,k=>match H.loop id with
  | none=>.fail
  | some l=>let g:=gh l.gh fr st
   bif Nat.ble g.2.length l.sh.bs.length&&Y4 l.ps (zY b)&&l.ws.all λw=>Nat.ble l.sh.bs.length w.sh.bs.length then
    (Xb g.1 g.2 l.ps []).bind λp=>(l.sh.un g.1 g.2).bind λs=>(l.F p s).bind λr=>H3 l.ws r λex out zl=>match UU ex out with
     | none=>.fail
     | some z=>match z.1 with
      | .exit id'=>bif Nat.beq id' id then k ⟨.normal,z.2++(gq (zY b)++g.1),[],zl,false⟩else k ⟨.exit id',z.2++(gq (zY b)++g.1),[],zl,false⟩
      | .normal=>.fail
      | e=>k ⟨e,z.2++(gq (zY b)++g.1),[],zl,false⟩
   else .fail
 | .block id a,fr,kn,st,_,k=>mY n H a fr kn st λr=>match r.ex with
  | .exit id'=>bif Nat.beq id' id then k { r with ex:=.normal } else k r
  | _=>k r
 | .exit id,fr,kn,st,_,k=>k ⟨.exit id,fr,kn,st,true⟩
 | .ret,fr,kn,st,_,k=>k ⟨.ret,fr,kn,st,true⟩
 | _,_,_,_,_,_=>.fail
def DA(n:Nat)(H:Hints)(l:qp)(b:Code)(p:wg l.ps)(s:l.sh.den):T (l.sh.den⊕kz l.ws) :=
 mY c tab n H b (l.sh.fr s++bq (l.sh.st s) l.ps p) [] (l.sh.st s) λo=>match o.ex with
  | .normal=>(l.sh.un o.fr o.st).bind λs'=>.ret (.inl s')
  | e=>(Vp l.ws e (QC e o.fr) o.st).bind λr=>.ret (.inr r)
def Fv(H:Hints)(fn:Func)(code:Code)(d:Ur)(x:yi d.ps):T (Gy d.rs) :=
 bif Nat.ble (pB d.ps x).length fn.ntmps then
  mY c tab fn.ntmps H code (xN (pB d.ps x) 0) [] [] λo=>match o.ex with
   | .normal=>(ym c o.fr o.st fn.results.toList).bind λds=>EW o.st d.rs ds
   | .ret=>(ym c o.fr o.st fn.results.toList).bind λds=>EW o.st d.rs ds
   | _=>.fail
 else .fail
def KO(H:Hints)(fn:Func)(code:Code)(d:j3)(x:d.sh.den):T d.out.den :=
 bif Nat.ble d.ks.length fn.ntmps&&Nat.ble d.sh.bs.length d.out.bs.length then
  mY c tab fn.ntmps H code (d.sh.fr x) [] (d.sh.st x) λo=>match o.ex with
   | .normal=>(ym c o.fr o.st fn.results.toList).bind λds=>bif Nat.beq ds.length d.nr then(d.out.un (xN ds 0) o.st).bind λy=>bif (ku d.nr (d.out.fr y)).isSome then .ret y else .fail else .fail
   | .ret=>(ym c o.fr o.st fn.results.toList).bind λds=>bif Nat.beq ds.length d.nr then(d.out.un (xN ds 0) o.st).bind λy=>bif (ku d.nr (d.out.fr y)).isSome then .ret y else .fail else .fail
   | _=>.fail
 else .fail
def G6(H:Hints)(fn:Func)(code:Code)(d:bF)(x:d.sh.den):T (d.out.den⊕d.jg.den) :=
 bif Nat.ble d.ks.length fn.ntmps&&Nat.ble d.sh.bs.length d.out.bs.length&&Nat.ble d.sh.bs.length d.jg.bs.length then
  mY c tab fn.ntmps H code (d.sh.fr x) [] (d.sh.st x) λo=>match o.ex with
   | .normal=>(ym c o.fr o.st fn.results.toList).bind λds=>bif Nat.beq ds.length d.nr then(d.out.un (xN ds 0) o.st).bind λy=>bif (ku d.nr (d.out.fr y)).isSome then .ret (.inl y)else .fail else .fail
   | .ret=>(ym c o.fr o.st fn.results.toList).bind λds=>bif Nat.beq ds.length d.nr then(d.out.un (xN ds 0) o.st).bind λy=>bif (ku d.nr (d.out.fr y)).isSome then .ret (.inl y)else .fail else .fail
   | .jg p=>match p with
    | .iface t v=>bif Nat.beq t d.pt then(d.jg.un [(0,some v)] o.st).bind λz=>match(d.jg.fr z).get 0 with | some _=>.ret (.inr z) | none=>.fail else .fail
    | _=>.fail
   | _=>.fail
 else .fail
end
end Go.AM
namespace Go.AM
set_option linter.unusedSectionVars false
variable [vi]
open Go.RowKit
section
variable {n:Nat}
theorem Fk{st:St}{τ:Ty}{d:D}{x:den τ}(h:(Sr st τ d).leads x):(en st τ d).leads (.qA τ x):=by
 cases d with
 | qA σ y =>
  simp only[Sr]at h
  simp only[en]
  cases hy:(we y:Option (den τ))with
  | none=>rw[hy]at h; exact h.elim
  | some z=>rw[hy]at h; cases h; rfl
 | ptr b off =>
  simp only[Sr]at h
  simp only[en]
  cases hb:st[b]? with
  | none=>rw[hb]at h; exact h.elim
  | some B =>
   rw[hb]at h
   cases B with
   | var d =>
    simp only at h ⊢
    cases hy:(bif Nat.beq off 0 then gX τ d else none)with
    | none=>rw[hy]at h; exact h.elim
    | some z=>rw[hy]at h; cases h; rfl
   | _=>exact h.elim
 | _=>exact h.elim
theorem Hr{st:St}{p:pn}{d:D}{x:den p.ty}(h:(Om st p d).leads x):(fk st p d).leads (XK p x):=by
 cases p with
 | rp τ=>exact Fk h
 | im τ=>exact T.zb.2 ⟨x,h,rfl⟩
theorem UI{st:St}:∀ (l:List pn) (ds:List D) (x:y7 l),(Bp st l ds).leads x->(yA st l ds).leads (de l x)
 | [],[],x,h=>rfl
 | [],_::_,x,h=>h.elim
 | [p],[],x,h=>h.elim
 | [p],[d],x,h=>T.zb.2 ⟨_,Hr h,T.zb.2 ⟨[],rfl,rfl⟩⟩
 | [p],_::_::_,x,h=>h.elim
 | p::q::r,[],x,h=>h.elim
 | p::q::r,d::ds,x,h=>by
  obtain⟨y,h1,h2⟩:=T.zb.1 h
  obtain⟨z,h3,h4⟩:=T.zb.1 h2
  cases h4
  exact T.zb.2 ⟨_,Hr h1,T.zb.2 ⟨_,UI (q::r) ds z h3,rfl⟩⟩
theorem IT{st:St}{p:mX}{d:D}{x:p.den}(h:(PB st p d).leads x):(Jq st p d).leads (Ln p x):=by
 cases p with
 | ty τ=>cases d<;>exact T.zb.2 ⟨x,h,rfl⟩
 | rp τ =>
  have:=Fk h
  cases d<;>exact this
 | qE f caps =>
  cases d with
  | qE f' l =>
   simp only[PB]at h
   simp only[Jq]
   cases hb:Nat.beq f f' with
   | false=>rw[hb]at h; exact h.elim
   | true=>rw[hb]at h; exact T.zb.2 ⟨_,UI caps l x h,rfl⟩
  | _=>exact h.elim
theorem sy{st:St}:∀ (l:List mX) (ds:List D) (x:yi l),(U0 st l ds).leads x->(eC st l ds).leads (pB l x)
 | [],[],x,h=>rfl
 | [],_::_,x,h=>h.elim
 | [p],[],x,h=>h.elim
 | [p],[d],x,h=>T.zb.2 ⟨_,IT h,T.zb.2 ⟨[],rfl,rfl⟩⟩
 | [p],_::_::_,x,h=>h.elim
 | p::q::r,[],x,h=>h.elim
 | p::q::r,d::ds,x,h=>by
  obtain⟨y,h1,h2⟩:=T.zb.1 h
  obtain⟨z,h3,h4⟩:=T.zb.1 h2
  cases h4
  exact T.zb.2 ⟨_,IT h1,T.zb.2 ⟨_,sy (q::r) ds z h3,rfl⟩⟩
theorem Uo(st:St)(τ:Ty)(x:den τ):(nA st τ (.zx τ x)).leads x:=by
 refine T.zb.2 ⟨.zx τ x,rfl,?_⟩
 rw[T.vx]
 exact fB x
theorem Ez(st:St)(τ:Ty)(x:den τ):(Sr st τ (.qA τ x)).leads x:=by
 simp only[Sr]; rw[fB]; rfl
theorem H6(st:St)(p:pn)(x:den p.ty):(Om st p (XK p x)).leads x:=by
 cases p with
 | rp τ=>exact Ez st τ x
 | im τ=>exact Uo st τ x
theorem VM(st:St):∀ (l:List pn) (x:y7 l),(Bp st l (de l x)).leads x
 | [],_=>rfl
 | [p],x=>H6 st p x
 | p::q::r,x=>T.zb.2 ⟨x.1,H6 st p x.1,T.zb.2 ⟨x.2,VM st (q::r) x.2,rfl⟩⟩
theorem Eu(st:St)(p:mX)(x:p.den):(PB st p (Ln p x)).leads x:=by
 cases p with
 | ty τ=>exact Uo st τ x
 | rp τ=>exact Ez st τ x
 | qE f caps=>simp only[PB,Ln]; rw[Nat.beq_refl]; exact VM st caps x
theorem Wp(st:St):∀ (l:List mX) (x:yi l),(U0 st l (pB l x)).leads x
 | [],_=>rfl
 | [p],x=>Eu st p x
 | p::q::r,x=>T.zb.2 ⟨x.1,Eu st p x.1,T.zb.2 ⟨x.2,Wp st (q::r) x.2,rfl⟩⟩
def jy:D->Option Nat | .qE f _=>some f | _=>none
theorem Nv(p:mX){d e:D}(h:jy d=jy e):Ru p d=Ru p e:=by
 cases d<;>cases e<;>simp only[jy]at h<;>first | (cases h; done) | (cases p<;>first | rfl | (cases h; rfl))
theorem Gg:∀ (ps:List mX) {l m:List D},l.map jy=m.map jy->fits ps l=fits ps m
 | [],[],[],_=>rfl
 | [],_::_,_::_,_=>rfl
 | _,[],_::_,h=>by cases h
 | _,_::_,[],h=>by cases h
 | _::_,[],[],_=>rfl
 | p::ps,d::l,e::m,h=>by
  simp at h
  simp only[fits,Nv p h.1,Gg ps h.2]
theorem Dp{st:St}{τ:Ty}{f:Nat}{l:List D}{x:den τ}(h:(nA st τ (.qE f l)).leads x):False:=by
 obtain⟨y,h1,h2⟩:=T.zb.1 h
 cases h1
 rw[T.vx]at h2
 cases τ<;>simp[gX,D.isAgg,Ty.isAgg,zR,uq,gV]at h2
theorem XE{st:St}{p:mX}{d:D}{x:p.den}(h:(PB st p d).leads x):jy d=jy (Ln p x):=by
 cases p with
 | ty τ=>cases d<;>first | rfl | exact(Dp h).elim
 | rp τ=>cases d<;>first | rfl | exact h.elim
 | qE f caps =>
  cases d with
  | qE f' l =>
   simp only[PB]at h
   cases hb:Nat.beq f f' with
   | false=>rw[hb]at h; exact h.elim
   | true=>rw[Nat.eq_of_beq_eq_true hb]; rfl
  | _=>exact h.elim
theorem Z6{st:St}:∀ (l:List mX) (ds:List D) (x:yi l),(U0 st l ds).leads x->ds.map jy=(pB l x).map jy
 | [],[],x,h=>rfl
 | [],_::_,x,h=>h.elim
 | [p],[],x,h=>h.elim
 | [p],[d],x,h=>by show[jy d]=[jy (Ln p x)]; rw[XE h]
 | [p],_::_::_,x,h=>h.elim
 | p::q::r,[],x,h=>h.elim
 | p::q::r,d::ds,x,h=>by
  obtain⟨y,h1,h2⟩:=T.zb.1 h
  obtain⟨z,h3,h4⟩:=T.zb.1 h2
  cases h4
  show jy d::ds.map jy=jy (Ln p y)::(pB (q::r) z).map jy
  rw[XE h1,Z6 (q::r) ds z h3]
def dat(d:D):Bool:=match d with | .zx _ _=>true | .qA _ _=>true | .qE _ _=>true | _=>false
theorem Gp(p:mX)(x:p.den):dat (Ln p x)=true:=by cases p<;>rfl
theorem J3:∀ (l:List mX) (x:yi l),∀ d∈pB l x,dat d=true
 | [],x,d,h=>by cases h
 | [p],x,d,h=>by have h:d∈[Ln p x]:=h; rw[List.mem_singleton]at h; subst h; exact Gp p x
 | p::q::r,x,d,h=>by
  rcases List.mem_cons.1 h with rfl | h
  ·exact Gp p x.1
  ·exact J3 (q::r) x.2 d h
theorem Iv{a:AK}{d e:D}(h:jy d=jy e)(hd:dat e=true)(hf:R9 a e=true):R9 a d=true:=by
 cases e with
 | zx τ x=>cases a<;>first | (cases hf; done) | (cases d<;>first | rfl | (cases h; done))
 | qA τ x=>cases a<;>first | (cases hf; done) | (cases d<;>first | rfl | (cases h; done))
 | qE f l=>cases a<;>first | (cases hf; done) | (cases d<;>first | (cases h; exact hf) | cases h)
 | _=>cases hd
theorem pD:∀ {ks:List AK} {l m:List D},l.map jy=m.map jy->(∀ d∈m,dat d=true)->eE ks m=true->eE ks l=true
 | [],[],[],_,_,_=>rfl
 | [],_::_,[],h,_,_=>by cases h
 | [],_,_::_,_,_,hf=>by cases hf
 | _::_,_,[],_,_,hf=>by cases hf
 | k::ks,[],_::_,h,_,_=>by cases h
 | k::ks,d::l,e::m,h,hd,hf=>by
  simp at h
  simp only[eE,Bool.and_eq_true]at hf ⊢
  exact⟨Iv h.1 (hd e List.mem_cons_self) hf.1,pD h.2 (λx hx=>hd x (List.mem_cons_of_mem _ hx)) hf.2⟩
theorem gH.find_eq:∀ (t:gH) (g:Nat) {l m:List D} {d:Ur},l.map jy=m.map jy->(∀ d∈m,dat d=true)->t.find g l=some (.d d)->t.find g m=some (.d d)
 | [],_,_,_,_,_,_,h=>h
 | (g',.d d')::r,g,l,m,d,h,hm,hf=>by
  simp only[gH.find,Ll.fits]at hf ⊢
  rw[<- Gg d'.ps h]
  cases hb:Nat.beq g' g&&fits d'.ps l with
  | true=>grind
  | false=>rw[hb,cond_false]at hf; rw[cond_false]; exact gH.find_eq r g h hm hf
 | (g',.s d')::r,g,l,m,d,h,hm,hf=>by
  simp only[gH.find,Ll.fits]at hf ⊢
  cases hb:Nat.beq g' g&&eE d'.ks l with
  | true=>grind
  | false =>
   rw[hb,cond_false]at hf
   have:(Nat.beq g' g&&eE d'.ks m)=false:=by
    cases hg:Nat.beq g' g with
    | false=>rfl
    | true =>
     rw[hg]at hb
     cases hk:eE d'.ks m with
     | false=>rfl
     | true=>rw[pD h hm hk]at hb; cases hb
   rw[this,cond_false]
   exact gH.find_eq r g h hm hf
 | (g',.p d')::r,g,l,m,d,h,hm,hf=>by
  simp only[gH.find,Ll.fits]at hf ⊢
  cases hb:Nat.beq g' g&&eE d'.ks l with
  | true=>grind
  | false =>
   rw[hb,cond_false]at hf
   have:(Nat.beq g' g&&eE d'.ks m)=false:=by
    cases hg:Nat.beq g' g with
    | false=>rfl
    | true =>
     rw[hg]at hb
     cases hk:eE d'.ks m with
     | false=>rfl
     | true=>rw[pD h hm hk]at hb; cases hb
   rw[this,cond_false]
   exact gH.find_eq r g h hm hf
theorem gH.n4:∀ {t:gH} {g:Nat} {l:List D} {d:Ll},t.find g l=some d->(g,d)∈t
 | [],_,_,_,h=>by cases h
 | (g',d')::r,g,l,d,h=>by
  simp only[gH.find]at h
  cases hb:Nat.beq g' g&&d'.fits l with
  | true =>
   rw[hb,cond_true]at h
   cases h
   simp only[Bool.and_eq_true]at hb
   rw[Nat.eq_of_beq_eq_true hb.1]
   simp
  | false=>rw[hb,cond_false]at h; exact List.mem_cons_of_mem _ (gH.n4 h)
def zT(P:Program)(g:Nat)(d:Ur):Prop:=∀ (κ:KS) (x:yi d.ps) (zn:List Value) (y:Gy d.rs),κ.st=[]->(d.F x).leads y->Inv κ->qj κ (pB d.ps x) zn ->
 vL P g zn.toArray κ.w λe w'=>∃ κ':KS,κ'.w=w'/\κ'.st=[]/\Inv κ'/\Ext κ κ'/\xR κ' (.ret (nZ d.rs y)) e
def Uq(P:Program)(g:Nat):Ll->Prop
 | .d d=>zT P g d
 | .s d=>xA P g d
 | .p d=>jk P g d
def jE(P:Program)(t:gH):Prop:=∀ p∈t,Uq P p.1 p.2
theorem C9(P:Program):jE P []:=by nofun
theorem VC{P:Program}{g:Nat}{d:Ll}{t:gH}(h:Uq P g d)(ht:jE P t):jE P ((g,d)::t):=by
 intro p hp
 rcases List.mem_cons.1 hp with rfl | hp
 ·exact h
 ·exact ht p hp
theorem Gd{P:Program}{g:Nat}{d:Ur}{t:gH}(h:zT P g d)(ht:jE P t):jE P ((g,.d d)::t):=VC (d:=.d d) h ht
theorem UZ{P:Program}{g:Nat}{d:j3}{t:gH}(h:xA P g d)(ht:jE P t):jE P ((g,.s d)::t):=VC (d:=.s d) h ht
theorem U8{P:Program}{g:Nat}{d:bF}{t:gH}(h:jk P g d)(ht:jE P t):jE P ((g,.p d)::t):=VC (d:=.p d) h ht
theorem Ur.snd{P:Program}{g:Nat}{d:Ur}(h:zT P g d):VJ P g d.S:=by
 intro κ args zn rs zl hl hI ha
 unfold Ur.S at hl
 split at hl
 ·rename_i xm
  obtain⟨x,h1,h2⟩:=T.zb.1 hl
  obtain⟨y,h3,h4⟩:=T.zb.1 h2
  cases h4
  exact h κ x zn y xm h3 hI (oT ha (sy _ _ _ h1))
 ·exact hl.elim
theorem Vz{P:Program}{xid:Nat}{tab:gH}{ro:Nat->Bool}(h:jE P tab):∀ g,VJ (vw P xid tab ro).P g ((vw P xid tab ro).fn g):=by
 intro g κ args zn rs zl hl hI ha
 simp only[vw,gH.call]at hl
 split at hl
 ·rename_i d hd
  exact Ur.snd (h _ (gH.n4 hd):Uq P g (.d d)) κ args zn rs zl hl hI ha
 ·rename_i d hd
  exact j3.snd (h _ (gH.n4 hd):Uq P g (.s d)) κ args zn rs zl hl hI ha
 ·rename_i d hd
  exact bF.snd (h _ (gH.n4 hd):Uq P g (.p d)) κ args zn rs zl hl hI ha
 ·exact hl.elim
section
variable {P:Program} {xid:Nat} {tab:gH} {ro:Nat->Bool} {α:Type}
def Hn(c:Ctx)(f:Option D)(args:List (Option D))(st:St)(d:D)(zl:St):Prop :=
 ∃ g caps l,f=some (.qE g caps)/\vJ args=some l/\(c.fn (jM g) (ux g l caps) st).leads (.jg d,zl)
def Hh(c:Ctx)(o:Oper)(s:gz)(d:D)(zl:St):Prop :=
 (∃ x t e,o.op=.panic x/\vN s.fr x=some d/\d=.iface t e/\zl=s.st) \/
 ∃ f args eH,o.op=.call ⟨.value f,args,eH⟩/\Hn c (vN s.fr f) (args.toList.map (vN s.fr)) s.st d zl
theorem Ga{f:Option D}{args:List (Option D)}{st:St}{k:Nat->Option D->St->T α}{kp:D->St->T α}{r:α}(h:(WK tab f args st k kp).leads r) :
  (∃ d zl,(zr (gi (vw P xid tab ro) f args) st).leads (d,zl)/\(k (gi (vw P xid tab ro) f args).kind d zl).leads r) \/
  ∃ d zl,Hn (vw P xid tab ro) f args st d zl/\(kp d zl).leads r:=by
 unfold WK at h
 split at h
 ·rename_i g caps l hl
  unfold OV at h
  split at h
  ·exact h.elim
  ·rename_i d hd
   have BK:(vw P xid tab ro).sig (jM g) (ux g l caps)=some ⟨d.ps,d.rs⟩:=by simp only[vw]; rw[hd]
   have E6:gi (vw P xid tab ro) (some (.qE g caps)) args=kB (vw P xid tab ro) (jM g) ⟨d.ps,d.rs⟩ (ux g l caps):=by simp only[gi,hl,BK]
   rw[E6]
   have hfn:∀ {st0:St} (x:yi d.ps) (y:Gy d.rs),(U0 st0 d.ps (ux g l caps)).leads x->(d.F x).leads y->((vw P xid tab ro).fn (jM g) (pB d.ps x) []).leads (.ret (nZ d.rs y),[]):=by
    intro st0 x y hx hy
    simp only[vw,gH.call]
    rw[gH.find_eq tab (jM g) (Z6 _ _ _ hx) (J3 d.ps x) hd]
    exact T.zb.2 ⟨x,Wp [] d.ps x,T.zb.2 ⟨y,hy,rfl⟩⟩
   cases hn : !((ux g l caps).any ZP)with
   | true =>
    rw[hn,cond_true]at h
    obtain⟨x,h1,h2⟩:=T.zb.1 h
    obtain⟨y,h3,h4⟩:=T.zb.1 h2
    have hc:kB (vw P xid tab ro) (jM g) ⟨d.ps,d.rs⟩ (ux g l caps)=.val ((eC [] d.ps (ux g l caps)).bind λl=>((vw P xid tab ro).fn (jM g) l []).bind Lh):=by
     unfold kB; rw[hn]; rfl
    rw[hc]
    refine .inl ⟨_,_,T.zb.2 ⟨_,T.zb.2 ⟨_,sy _ _ _ h1,T.zb.2 ⟨_,hfn x y h1 h3,rfl⟩⟩,rfl⟩,h4⟩
   | false =>
    rw[hn,cond_false]at h
    obtain⟨x,h1,h2⟩:=T.zb.1 h
    obtain⟨y,h3,h4⟩:=T.zb.1 h2
    have hc:kB (vw P xid tab ro) (jM g) ⟨d.ps,d.rs⟩ (ux g l caps)=.rd λst=>(eC st d.ps (ux g l caps)).bind λl=>((vw P xid tab ro).fn (jM g) l []).bind ll:=by
     unfold kB; rw[hn]; rfl
    rw[hc]
    cases hs:(nZ d.rs y).all lr with
    | false=>rw[hs]at h4; exact h4.elim
    | true =>
     rw[hs]at h4
     refine .inl ⟨_,_,T.zb.2 ⟨_,T.zb.2 ⟨_,sy _ _ _ h1,T.zb.2 ⟨_,hfn x y h1 h3,?_⟩⟩,rfl⟩,h4⟩
     simp only[ll,hs,cond_true]
     rfl
  ·rename_i d hd
   have BK:(vw P xid tab ro).sig (jM g) (ux g l caps)=none:=by simp only[vw]; rw[hd]
   have E6:gi (vw P xid tab ro) (some (.qE g caps)) args=iG (vw P xid tab ro) (jM g) (ux g l caps):=by simp only[gi,hl,BK]
   rw[E6]
   obtain⟨ds,zl,h1,h2⟩:=j3.F9 h
   refine .inl ⟨_,zl,T.zb.2 ⟨(.ret ds,zl),?_,rfl⟩,h2⟩
   simp only[vw,gH.call]
   grind
  ·rename_i d hd
   have BK:(vw P xid tab ro).sig (jM g) (ux g l caps)=none:=by simp only[vw]; rw[hd]
   have E6:gi (vw P xid tab ro) (some (.qE g caps)) args=iG (vw P xid tab ro) (jM g) (ux g l caps):=by simp only[gi,hl,BK]
   rw[E6]
   rcases bF.F9 h with⟨ds,zl,h1,h2⟩ | ⟨p,zl,h1,h2⟩
   ·refine .inl ⟨_,zl,T.zb.2 ⟨(.ret ds,zl),?_,rfl⟩,h2⟩
    simp only[vw,gH.call]
    grind
   ·refine .inr ⟨p,zl,⟨g,caps,l,rfl,hl,?_⟩,h2⟩
    simp only[vw,gH.call]
    grind
 ·exact h.elim
theorem du{o:Oper}{s:gz}{k:gz->T α}{kp:D->St->T α}{r:α}(h:(iV (vw P xid tab ro) tab n o s k kp).leads r) :
  (∃ s',(y3 (vw P xid tab ro) n o s).leads s'/\(k s').leads r)\/∃ d zl,Hh (vw P xid tab ro) o s d zl/\(kp d zl).leads r:=by
 unfold iV at h
 unfold y3
 cases hd:ve n o.dst with
 | false=>rw[hd]at h; exact h.elim
 | true =>
  rw[hd,cond_true]at h
  rw[cond_true]
  obtain⟨dst,op,ty,pos,after,guard⟩:=o
  have gen:((zr (ep (vw P xid tab ro) s.kn s.fr ⟨dst,op,ty,pos,after,guard⟩) s.st).bind λr=>k ⟨s.fr.put dst r.1,Qn s.kn dst (Qh s.kn op),r.2,(ep (vw P xid tab ro) s.kn s.fr ⟨dst,op,ty,pos,after,guard⟩).kind::s.ks,xH (vw P xid tab ro) (vN s.fr) s.st ⟨dst,op,ty,pos,after,guard⟩::s.bk⟩).leads r ->
    ∃ s',(let cl:=ep (vw P xid tab ro) s.kn s.fr ⟨dst,op,ty,pos,after,guard⟩; (zr cl s.st).bind λr=>T.ret (⟨s.fr.put dst r.1,Qn s.kn dst (Qh s.kn op),r.2,cl.kind::s.ks,xH (vw P xid tab ro) (vN s.fr) s.st ⟨dst,op,ty,pos,after,guard⟩::s.bk⟩:gz)).leads s'/\(k s').leads r:=by
   intro h
   obtain⟨x,h1,h2⟩:=T.zb.1 h
   exact⟨_,T.zb.2 ⟨x,h1,rfl⟩,h2⟩
  cases op with
  | call cl =>
   obtain⟨callee,args,eH⟩:=cl
   cases callee with
   | value f =>
    rcases Ga (P:=P) (xid:=xid) (ro:=ro) h with⟨d,zl,h1,h2⟩ | ⟨d,zl,h1,h2⟩
    ·exact .inl ⟨_,T.zb.2 ⟨(d,zl),h1,rfl⟩,h2⟩
    ·exact .inr ⟨d,zl,.inr ⟨f,args,eH,rfl,h1⟩,h2⟩
   | _=>grind
  | panic x =>
   simp only at h
   split at h
   ·rename_i t e hx
    exact .inr ⟨_,_,.inl ⟨x,t,e,rfl,hx,rfl,rfl⟩,h⟩
   ·exact h.elim
  | _=>grind
theorem C6{ops:Array Oper}{o:Oper}{s:gz}{k:gz->T α}{kp:D->St->T α}{r:α}(hkn:wP s.kn s.fr.get)(h:(K6 (vw P xid tab ro) tab n ops o s k kp).leads r) :
  (∃ s',(stepG (vw P xid tab ro) n ops o s).leads s'/\(k s').leads r)\/∃ d zl,xF ops s.fr.get o=some true/\Hh (vw P xid tab ro) o s d zl/\(kp d zl).leads r:=by
 obtain⟨dst,op,ty,pos,after,guard⟩:=o
 cases guard with
 | none =>
  rcases du h with h | ⟨d,zl,h1,h2⟩
  ·exact .inl h
  ·exact .inr ⟨d,zl,rfl,h1,h2⟩
 | some jw =>
  obtain⟨j,want⟩:=jw
  simp only[K6]at h
  simp only[stepG]
  cases hg:vK ops j with
  | none=>rw[hg]at h; exact h.elim
  | some t =>
   rw[hg]at h
   simp only at h ⊢
   cases hk:s.kn.get t with
   | some b =>
    rw[hk]at h
    simp only at h ⊢
    have hw:xF ops s.fr.get ⟨dst,op,ty,pos,after,some (j,want)⟩=some (b==want):=by simp[xF,hg,hkn t b hk]
    cases hb:b==want with
    | true =>
     rw[hb,cond_true]at h; rw[cond_true]
     rcases du h with h | ⟨d,zl,h1,h2⟩
     ·grind
     ·grind
    | false =>
     rw[hb,cond_false]at h; rw[cond_false]
     cases hd:ve n dst with
     | true=>rw[hd,cond_true]at h; exact .inl ⟨_,rfl,h⟩
     | false=>rw[hd,cond_false]at h; exact h.elim
   | none =>
    rw[hk]at h
    simp only at h ⊢
    split at h
    ·rename_i x hf
     rw[hf]
     simp only
     have hw:xF ops s.fr.get ⟨dst,op,ty,pos,after,some (j,want)⟩=some (x==want):=by simp[xF,hg,hf]
     cases hd:ve n dst with
     | false=>rw[hd]at h; exact h.elim
     | true =>
      rw[hd,cond_true]at h; rw[cond_true]
      rcases h with⟨hx,h⟩ | ⟨hx,h⟩
      ·subst hx
       cases want with
       | true =>
        rw[cond_true]at h
        rcases du h with⟨s',h1,h2⟩ | ⟨d,zl,h1,h2⟩
        ·exact .inl ⟨s',.inl ⟨rfl,h1⟩,h2⟩
        ·exact .inr ⟨d,zl,hw,h1,h2⟩
       | false=>rw[cond_false]at h; exact .inl ⟨_,.inl ⟨rfl,rfl⟩,h⟩
      ·subst hx
       cases want with
       | true=>rw[cond_true]at h; exact .inl ⟨_,.inr ⟨rfl,rfl⟩,h⟩
       | false =>
        rw[cond_false]at h
        rcases du h with⟨s',h1,h2⟩ | ⟨d,zl,h1,h2⟩
        ·exact .inl ⟨s',.inr ⟨rfl,h1⟩,h2⟩
        ·exact .inr ⟨d,zl,hw,h1,h2⟩
    ·rename_i hf
     rw[hf]
     simp only
     cases hd:ve n dst with
     | true=>rw[hd,cond_true]at h; exact .inl ⟨_,rfl,h⟩
     | false=>rw[hd,cond_false]at h; exact h.elim
    ·exact h.elim
def Yw(c:Ctx)(n:Nat)(ops:Array Oper)(l:List Oper)(s:gz)(d:D)(zl:St):Prop :=
 ∃ pre o post s1,l=pre++o::post/\(cd c n ops pre s).leads s1/\xF ops s1.fr.get o=some true/\Hh c o s1 d zl
theorem mf{ops:Array Oper}:∀ (l:List Oper) {s:gz} {k:gz->T α} {kp:D->St->T α} {r:α},wP s.kn s.fr.get->(∀ o∈l,∃ i:Nat,ops[i]? = some o)->(sj (vw P xid tab ro) tab n ops l s k kp).leads r ->
  (∃ s',(cd (vw P xid tab ro) n ops l s).leads s'/\(k s').leads r)\/∃ d zl,Yw (vw P xid tab ro) n ops l s d zl/\(kp d zl).leads r
 | [],s,k,kp,r,_,_,h=>.inl ⟨s,rfl,h⟩
 | o::l,s,k,kp,r,hk,hl,h=>by
  rcases C6 hk h with⟨s1,h1,h2⟩ | ⟨d,zl,h1,h2,h3⟩
  ·obtain⟨i,hi⟩:=hl o List.mem_cons_self
   obtain⟨_,_,hk1,_⟩:=QY hi hk h1
   rcases mf l hk1 (λo' ho=>hl o' (List.mem_cons_of_mem _ ho)) h2 with⟨s2,h3,h4⟩ | ⟨d,zl,⟨pre,o',post,s2,e,g1,g2,g3⟩,h4⟩
   ·exact .inl ⟨s2,T.zb.2 ⟨s1,h1,h3⟩,h4⟩
   ·exact .inr ⟨d,zl,⟨o::pre,o',post,s2,by grind,T.zb.2 ⟨s1,h1,g1⟩,g2,g3⟩,h4⟩
  ·exact .inr ⟨d,zl,⟨[],o,l,s,rfl,rfl,h1,h2⟩,h3⟩
theorem Qw{ops:Array Oper}{draw:Bool}{fr:Fr}{kn:Kn}{st:St}{k:gz->T α}{kp:D->St->T α}{r:α}(hk:wP kn fr.get)(h:(tp (vw P xid tab ro) tab n ops draw fr kn st k kp).leads r) :
  (∃ s',(yq (vw P xid tab ro) n ops draw fr kn st).leads s'/\(k s').leads r)\/∃ d zl,draw=false/\Yw (vw P xid tab ro) n ops ops.toList ⟨fr,kn,st,[],[]⟩ d zl/\(kp d zl).leads r:=by
 rcases mf _ hk (λo ho=>by obtain⟨i,hi,he⟩:=List.getElem_of_mem ho; exact⟨i,by grind⟩) h with⟨s',h1,h2⟩ | ⟨d,zl,h1,h2⟩
 ·cases hd : !draw||mV ops s'.ks.reverse s'.bk.reverse with
  | false=>rw[hd]at h2; exact h2.elim
  | true =>
   rw[hd,cond_true]at h2
   refine .inl ⟨s',T.zb.2 ⟨s',h1,?_⟩,h2⟩
   rw[hd]; rfl
 ·cases draw with
  | true=>exact h2.elim
  | false=>grind
end
end
end Go.AM
namespace Go.AM
set_option linter.unusedSectionVars false
variable [vi] [Qg]
open Go.RowKit
theorem Zt{α β:Type}{f:α->β}{t:T α}{x:α}(h:t.leads x):(J2 f t).leads (f x):=by
 induction t with
 | ret a=>exact congrArg f h
 | ite b p q ip iq=>exact hJ h (λh=>⟨h.1,ip h.2⟩) (λh=>⟨h.1,iq h.2⟩)
 | zC p t ih=>exact⟨h.1,ih h.2⟩
 | fail=>exact h.elim
theorem Bc:∀ (l:List It) (d:wg l) (t:T (wg l)) (x:wg l),t.leads x->BL l d t=x
 | [],_,_,_,_=>rfl
 | [_],d,t,x,h=>((T.tq d t x).1 h).2
 | i::j::r,d,t,x,h=>by
  have h1:=((T.tq d.1 _ _).1 (Zt (f:=Prod.fst) h)).2
  have h2:=Bc (j::r) d.2 _ _ (Zt (f:=Prod.snd) h)
  show(T.val d.1 (J2 Prod.fst t),BL (j::r) d.2 (J2 Prod.snd t))=x
  rw[h1,h2]
  exact rfl
theorem BA{α:Type}(t:T α)(h:t.s6):∃ x,t.leads x:=by
 induction t with
 | ret a=>exact⟨a,rfl⟩
 | ite b p q ip iq =>
  unfold T.s6 at h ip iq
  simp only[T.nS]at h
  cases b with
  | true =>
   obtain⟨x,hx⟩:=ip (by grind)
   exact⟨x,.inl ⟨rfl,hx⟩⟩
  | false =>
   obtain⟨x,hx⟩:=iq (by grind)
   exact⟨x,.inr ⟨rfl,hx⟩⟩
 | zC p t ih =>
  unfold T.s6 at h ih
  simp only[T.nS]at h
  cases ht:t.nS with
  | none=>rw[ht]at h ih; obtain⟨x,hx⟩:=ih trivial; exact⟨x,h,hx⟩
  | some q=>rw[ht]at h ih; obtain⟨x,hx⟩:=ih h.2; exact⟨x,h.1,hx⟩
 | fail=>exact h.elim
theorem U9{l:List It}{t:T (wg l)}{x:wg l}(h:(E2 l t).leads x):t.leads x:=by
 unfold E2 at h
 split at h
 ·rename_i d hd
  have key:t.s6->BL l d t=x->t.leads x:=by
   intro hp hv
   obtain⟨y,hy⟩:=BA t hp
   rw[<- hv,Bc l d t y hy]; exact hy
  split at h
  ·rename_i hn; exact key (by unfold T.s6; rw[hn]; trivial) h
  ·rename_i p hn; exact key (by unfold T.s6; rw[hn]; exact h.1) h.2
 ·exact h.elim
def RIs(ws:List Way)(r:kz ws)(w:Way)(x:w.sh.den):Prop:=∀ {α:Type} (k:Ex->Fr->St->T α),H3 ws r k=k w.ex (w.sh.fr x) (w.sh.st x)
theorem Wv:∀ (ws:List Way) (ex:Ex) (fr:Fr) (st:St) (r:kz ws),(Vp ws ex fr st).leads r->∃ w,w∈ws/\∃ x:w.sh.den,RIs ws r w x/\fg w.ex ex=true/\(w.sh.un fr st).leads x
 | [],_,_,_,_,h=>h.elim
 | [w],ex,fr,st,r,h=>by
  have h:(bif fg w.ex ex then w.sh.un fr st else .fail:T w.sh.den).leads r:=h
  cases hs:fg w.ex ex with
  | false=>rw[hs]at h; exact h.elim
  | true=>rw[hs]at h; exact⟨w,by simp,r,λk=>rfl,hs,h⟩
 | w::v::ws,ex,fr,st,r,h=>by
  have h:(bif fg w.ex ex then(w.sh.un fr st).bind λx=>T.ret (Sum.inl x:w.sh.den⊕kz (v::ws))else(Vp (v::ws) ex fr st).bind λy=>T.ret (Sum.inr y)).leads r:=h
  cases hs:fg w.ex ex with
  | true =>
   rw[hs]at h
   obtain⟨x,h1,h2⟩:=T.zb.1 h
   subst h2
   exact⟨w,by simp,x,λk=>rfl,hs,h1⟩
  | false =>
   rw[hs]at h
   obtain⟨y,h1,h2⟩:=T.zb.1 h
   subst h2
   obtain⟨w',k1,x,k2,k3,k4⟩:=Wv (v::ws) ex fr st y h1
   exact⟨w',List.mem_cons_of_mem _ k1,x,λk=>k2 k,k3,k4⟩
def R3(κ:KS)(n:Nat)(w:Way)(z:w.sh.den)(a:Act)(bK:Exit):Prop:=∀ q,UU w.ex (w.sh.fr z)=some q->Rel κ n q.2.get a/\Jb κ q.1 bK
theorem IQ{κ0 κ:KS}{n:Nat}{a:Act}{w:Way}{z:w.sh.den}{PD:Ex}{ofr:Fr}{bK:Exit}(hx:Ext κ0 κ)(hI:Inv κ)(hR:Rel κ n ofr.get a)(he:Jb κ PD bK)(hs:fg w.ex PD=true)(hl:κ0.st.length<=w.sh.bs.length)
  (h:(w.sh.un (QC PD ofr) κ.st).leads z):∃ κ1:KS,κ1.w=κ.w/\κ1.st=w.sh.st z/\Inv κ1/\Ext κ0 κ1/\R3 κ1 n w z a bK:=by
 have plain:QC PD ofr=ofr->(∀ q,UU w.ex (w.sh.fr z)=some q->q.2=w.sh.fr z/\∀ κ1:KS,Jb κ1 q.1 bK)->∃ κ1:KS,κ1.w=κ.w/\κ1.st=w.sh.st z/\Inv κ1/\Ext κ0 κ1/\R3 κ1 n w z a bK:=by
  intro e1 e2
  rw[e1]at h
  obtain⟨κ1,q1,q2,q3,q4,q5,_⟩:=w.sh.oj (n:=n) hx hI hR hl h
  exact⟨κ1,q1,q2,q3,q4,λq hq=>by obtain⟨g1,g2⟩:=e2 q hq; rw[g1]; exact⟨q5,g2 κ1⟩⟩
 cases hw:w.ex with
 | normal =>
  rw[hw]at hs
  cases PD<;>first | (cases hs; done) | skip
  exact plain rfl λq hq=>by rw[hw]at hq; cases hq; exact⟨rfl,λ_=>he⟩
 | ret =>
  rw[hw]at hs
  cases PD<;>first | (cases hs; done) | skip
  exact plain rfl λq hq=>by rw[hw]at hq; cases hq; exact⟨rfl,λ_=>he⟩
 | exit id =>
  rw[hw]at hs
  cases PD<;>first | (cases hs; done) | skip
  rename_i id'
  have:id=id':=Nat.eq_of_beq_eq_true hs
  subst this
  exact plain rfl λq hq=>by rw[hw]at hq; cases hq; exact⟨rfl,λ_=>he⟩
 | jg p =>
  rw[hw]at hs
  cases p<;>first | (cases hs; done) | skip
  rename_i t p
  cases PD<;>first | (cases hs; done) | skip
  rename_i p'
  cases p'<;>first | (cases hs; done) | skip
  rename_i t' d
  have:t=t':=Nat.eq_of_beq_eq_true hs
  subst this
  obtain⟨v,rfl,hv⟩:=he
  cases hv with
  | iface _ _ u hu =>
   have X7:Rel κ 1 (QC (.jg (.iface t d)) ofr).get { tmps := #[u],defers:=Qg.df }:=by
    refine⟨rfl,rfl,λs d' hd => ?_⟩
    simp only[QC,Fr.get]at hd
    cases hb:Nat.beq 0 s with
    | true =>
     have:=Nat.eq_of_beq_eq_true hb
     grind
    | false=>grind
   obtain⟨κ1,q1,q2,q3,q4,q5,_⟩:=w.sh.oj (n:=1) hx hI X7 hl h
   refine⟨κ1,q1,q2,q3,q4,λq hq => ?_⟩
   rw[hw]at hq
   simp only[UU]at hq
   split at hq
   ·rename_i d' jR
    cases hq
    obtain⟨v',g1,g2⟩:=q5.get 0 d' jR
    cases g1
    exact⟨⟨hR.size,hR.defers,λs d hd=>by cases hd⟩,_,rfl,.iface t d' _ g2⟩
   ·cases hq
theorem cx(st:St):∀ (bs:List Bk) (bd:List Bd),(wM st bs bd).length<=bs.length
 | [],_=>by simp[wM]
 | .arr _::r,[]=>by simp[wM]
 | .arr _::r,.v _ _::_=>by simp[wM]
 | .arr _::r,.a _ _::d=>by have:=cx st r d; simp[wM]; exact this
 | .var _::r,[]=>by simp[wM]
 | .var _::r,.a _ _::_=>by simp[wM]
 | .var _::r,.v _ _::d=>by have:=cx st r d; simp[wM]; exact this
 | .cvar _::r,d=>by have:=cx st r d; cases d<;>(simp[wM]; exact this)
 | .dead::r,d=>by have:=cx st r d; cases d<;>(simp[wM]; exact this)
theorem vY.mS(s:vY)(x:s.den):(s.st x).length<=s.bs.length:=cx _ _ _
theorem pU{l m:Fr}{s:Nat}{d:D}(h:(l++m).get s=some d):l.get s=some d\/m.get s=some d:=by
 induction l with
 | nil=>grind
 | cons p r ih =>
  simp only[List.cons_append,Fr.get]at h ⊢
  grind
theorem BS{l:List Nat}{fr:Fr}{s:Nat}{d:D}(h:(gq l++fr).get s=some d):s ∉ l/\fr.get s=some d:=by
 induction l with
 | nil=>exact⟨by simp,h⟩
 | cons t r ih =>
  simp only[gq,List.map_cons,List.cons_append,Fr.get]at h
  cases ht:Nat.beq t s with
  | true=>grind
  | false =>
   rw[ht,cond_false]at h
   obtain⟨h1,h2⟩:=ih h
   refine⟨?_,h2⟩
   simp
   exact⟨λe=>by subst e; simp at ht,h1⟩
theorem o8{o:Oper}{s:Nat}:∀ {l:List Oper},o∈l->o.dst=some s->s∈dstsOf l
 | p::r,h,hs=>by
  simp only[dstsOf]
  rcases List.mem_cons.1 h with rfl | h
  ·grind
  ·split
   ·exact List.mem_cons_of_mem _ (o8 h hs)
   ·exact o8 h hs
def Kept(code:Code)(a a':Act):Prop:=∀ s:Nat,s ∉ zY code->a'.tmps[s]? = a.tmps[s]?
section
variable {P:Program} {xid:Nat} {tab:gH} {ro:Nat->Bool} {n:Nat} {H:Hints}
theorem lh{κ κ':KS}{fr out:Fr}{a a':Act}{ws:List Nat}(hR:Rel κ n fr.get a)(hx:Ext κ κ')(ho:Rel κ' n out.get a')(hk:∀ s:Nat,s ∉ ws->a'.tmps[s]? = a.tmps[s]?):Rel κ' n (out++(gq ws++fr)).get a':=by
 refine⟨ho.size,ho.defers,λs d hd => ?_⟩
 rcases pU hd with h | h
 ·exact ho.get s d h
 ·obtain⟨h1,h2⟩:=BS h
  obtain⟨v,g1,g2⟩:=hR.get s d h2
  exact⟨v,(hk s h1).trans g1,g2.mono hx⟩
theorem We{c:Ctx}{ops:Array Oper}:∀ (l:List Oper) (s s':gz),(cd c n ops l s).leads s'->quiet s'.ks=true->s'.st=s.st/\quiet s.ks=true:=by
 have hq:∀ {k:Nat} {ks:List Nat},quiet (k::ks)=true->Nat.beq k 2=false/\quiet ks=true:=by
  intro k ks h
  simp only[quiet,List.all_cons,Bool.and_eq_true,Bool.not_eq_true']at h
  exact⟨h.1,by unfold quiet; exact h.2⟩
 have one:∀ (o:Oper) (s s1:gz),(y3 c n o s).leads s1->quiet s1.ks=true->s1.st=s.st/\quiet s.ks=true:=by
  intro o s s1 h hk
  unfold y3 at h
  cases hd:ve n o.dst with
  | false=>rw[hd]at h; exact h.elim
  | true =>
   rw[hd,cond_true]at h
   obtain⟨r,h1,h2⟩:=T.zb.1 h
   cases h2
   obtain⟨g1,g2⟩:=hq hk
   refine⟨?_,g2⟩
   show r.2=s.st
   generalize ep c s.kn s.fr o=cl at h1 g1
   cases cl with
   | val t=>obtain⟨d,_,h3⟩:=T.zb.1 h1; cases h3; rfl
   | rd k=>obtain⟨d,_,h3⟩:=T.zb.1 h1; cases h3; rfl
   | wr k=>cases g1
 have skp:∀ (o:Oper) (s:gz),quiet (ur o s).ks=true->(ur o s).st=s.st/\quiet s.ks=true:=λo s h=>⟨rfl,(hq h).2⟩
 have gd:∀ (o:Oper) (s s1:gz),(stepG c n ops o s).leads s1->quiet s1.ks=true->s1.st=s.st/\quiet s.ks=true:=by
  intro o s s1 h hk
  obtain⟨dst,op,ty,pos,after,guard⟩:=o
  cases guard with
  | none=>exact one _ s s1 h hk
  | some jw =>
   obtain⟨j,want⟩:=jw
   simp only[stepG]at h
   cases hg:vK ops j with
   | none=>rw[hg]at h; exact h.elim
   | some t =>
    rw[hg]at h
    simp only at h
    cases hkn:s.kn.get t with
    | some b =>
     rw[hkn]at h
     simp only at h
     cases hb:b==want with
     | true=>grind
     | false =>
      rw[hb,cond_false]at h
      cases hd:ve n dst with
      | false=>rw[hd]at h; exact h.elim
      | true=>rw[hd,cond_true]at h; cases h; exact skp _ s hk
    | none =>
     rw[hkn]at h
     simp only at h
     split at h
     ·cases hd:ve n dst with
      | false=>rw[hd]at h; exact h.elim
      | true =>
       rw[hd,cond_true]at h
       rcases h with⟨_,h⟩ | ⟨_,h⟩
       ·cases want with
        | true=>rw[cond_true]at h; exact one _ (s.ye t true) s1 h hk
        | false=>rw[cond_false]at h; cases h; exact skp _ (s.ye t true) hk
       ·cases want with
        | true=>rw[cond_true]at h; cases h; exact skp _ (s.ye t false) hk
        | false=>rw[cond_false]at h; exact one _ (s.ye t false) s1 h hk
     ·cases hd:ve n dst with
      | false=>rw[hd]at h; exact h.elim
      | true=>rw[hd,cond_true]at h; cases h; exact skp _ s hk
     ·exact h.elim
 intro l
 induction l with
 | nil=>intro s s' h hk; cases h; exact⟨rfl,hk⟩
 | cons o l ih =>
  intro s s' h hk
  obtain⟨s1,h1,h2⟩:=T.zb.1 h
  obtain⟨g1,g2⟩:=ih s1 s' h2 hk
  obtain⟨k1,k2⟩:=gd o s s1 h1 g2
  exact⟨g1.trans k1,k2⟩
theorem Vs{c:Ctx}{ops:Array Oper}{draw:Bool}{fr:Fr}{kn:Kn}{st:St}{s':gz}(h:(yq c n ops draw fr kn st).leads s')(hq:quiet s'.ks=true):s'.st=st:=by
 obtain⟨s1,h1,h2⟩:=T.zb.1 h
 cases hd:(!draw||mV ops s1.ks.reverse s1.bk.reverse)with
 | false=>rw[hd]at h2; exact h2.elim
 | true=>rw[hd,cond_true]at h2; cases h2; exact(We _ _ _ h1 hq).1
theorem EJ{c:Ctx}{κ:KS}{a:Act}{o:Oper}{g:Nat}{args:Array Value}{R:Ending->World->Prop}(wO:(execOp a.eval o).run c.P κ.w=(callFunc g args).run c.P κ.w)
  (h:vL c.P g args κ.w R) {K:Act->World->Prop} {Q:Exit->Act->World->Prop} (hR:∀ e w',R e w'->∃ ch,e=.panicked ch/\Q (.panic ch) a w'):o.wp c.P a κ.w K Q:=by
 unfold Oper.wp
 rw[wO]
 rcases h with⟨h1,h2⟩ | ⟨v,w',h1,h2⟩
 ·rw[h1]
  refine h2.mono λe w' he => ?_
  grind
 ·grind
theorem E4{c:Ctx}{κ:KS}{n:Nat}{a:Act}{o:Oper}{s:gz}{d:D}{zl:St}(hC:∀ g,VJ c.P g (c.fn g))(hI:Inv κ)(hR:Rel κ n s.fr.get a)(xm:κ.st=s.st)(h:Hh c o s d zl){K:Act->World->Prop}{Q:Exit->Act->World->Prop}
  (hQ:∀ (v:Value) (κ':KS),κ'.st=zl->Inv κ'->Ext κ κ'->RD κ' d v->Q (.panic [{ v,recovered:=false }]) a κ'.w):o.wp c.P a κ.w K Q:=by
 have bD:∀ (x:Operand) (z:D),vN s.fr x=some z->RD κ z (a.eval x):=λx z hz=>hR.eval (by rw[<- kv]; exact hz)
 obtain⟨dst,op,ty,pos,after,guard⟩:=o
 rcases h with⟨x,t,e,rfl,hx,rfl,rfl⟩ | ⟨f,args,eH,rfl,g,caps,l,hp,hl,hc⟩
 ·have hv:=bD x _ hx
  generalize U2:a.eval x=pv at hv
  cases hv with
  | iface _ _ u hu =>
   have wO:(execOp a.eval ⟨dst,.panic x,ty,pos,after,guard⟩).run c.P κ.w=.halt (.panic (.iface t u)) κ.w:=by
    simp[execOp,U2,Instr.panic]
   unfold Oper.wp
   rw[wO]
   exact hQ _ κ xm hI (Ext.refl κ) (.iface t e u hu)
 ·have LD:=bD f _ hp
  have hr:=k9 (κ:=κ) (vs:=args.toList.map a.eval) hl (by simp) (λi d v hd hv=>by
      simp only[List.getElem?_map]at hd hv
      cases hi:args.toList[i]? with
      | none=>grind
      | some x=>rw[hi]at hd hv; simp at hd hv; subst hv; exact bD x d hd)
  generalize U2:a.eval f=pv at LD
  cases LD with
  | qE _ _ us dF hh2 =>
   have eG:=Zo g hr (⟨dF,hh2⟩:qj κ caps us)
   rw[<- xm]at hc
   refine EJ (c:=c) (κ:=κ) (g:=jM g) (args:=(ux g (args.toList.map a.eval) us).toArray) ?_ (hC (jM g) κ _ _ _ _ hc hI eG) ?_
   ·exact UD U2
   ·rintro e w' ⟨κ',rfl,h1,h2,h3,v,rfl,h4⟩
    grind
theorem Cj{c:Ctx}{κ:KS}{n:Nat}{a:Act}{id:Nat}{ops:Array Oper}{fr:Fr}{kn:Kn}{d:D}{zl:St}(hC:∀ g,VJ c.P g (c.fn g))(hI:Inv κ)(hR:Rel κ n fr.get a)(hk:wP kn fr.get)
  (h:Yw c n ops ops.toList ⟨fr,kn,κ.st,[],[]⟩ d zl) {Q:Exit->Act->World->Prop}
  (hQ:∀ (v:Value) (a':Act) (κ':KS),κ'.st=zl->Inv κ'->Ext κ κ'->Rel κ' n (Fr.get []) a'->b7 ops a a'->RD κ' d v->Q (.panic [{ v,recovered:=false }]) a' κ'.w):(Code.region id ops false).wp c.P Q a κ.w:=by
 obtain⟨pre,o,post,s1,e,h1,h2,h3⟩:=h
 have CX:∀ j:Nat,ops[j]? = (pre++o::post)[j]? := λj=>by rw[<- e]; simp
 obtain⟨ks,g1,g2,_⟩:=bw pre 0 ⟨fr,kn,κ.st,[],[]⟩ s1 (λj=>by
  by_cases hj:j<pre.length
  ·grind
  ·right; omega) hk h1
 have vV:List.range ops.size=List.range' 0 pre.length++pre.length::List.range' (pre.length+1) post.length:=by
  have:ops.size=pre.length+(post.length+1):=by rw[<- Array.length_toList,e]; simp
  rw[this,List.range_eq_range',<- List.range'_append_1,Nat.zero_add,List.range'_succ]
 refine wp_region ?_
 rw[vV]
 refine pC hC _ _ hI hR rfl g1 λa' κ' e1 e2 e3 e4 e5 => ?_
 rw[wpOps_cons]
 unfold wpOp
 have ho:ops[pre.length]? = some o:=by rw[CX]; simp
 rw[ho]
 simp only
 rw[if_pos (cJ e4 h2)]
 exact .inl (E4 hC e2 e4 e1 h3 λv C4 f1 f2 f3 f4=>hQ v a' C4 f1 f2 (e3.trans f3) ⟨e4.size,e4.defers,λs d hd=>by cases hd⟩ e5 f4)
def nF(P:Program)(n:Nat)(l:qp)(b:Code):Prop:=∀ (κ:KS) (a:Act) (p:wg l.ps) (s:l.sh.den) (r:kz l.ws),(l.F p s).leads r->κ.st=l.sh.st s->Inv κ ->
 Rel κ n (l.sh.fr s).get a->Rel κ n (bq (l.sh.st s) l.ps p).get a->Y4 l.ps (zY b)=true->(∀ w∈l.ws,l.sh.bs.length<=w.sh.bs.length) ->
 ∀ Q:Exit->Act->World->Prop,(∀ (w:Way) (x:w.sh.den) (bK:Exit) (a':Act) (κ':KS),w∈l.ws->RIs l.ws r w x->κ'.st=w.sh.st x->Inv κ'->Ext κ κ'->R3 κ' n w x a' bK->Kept b a a'->Q bK a' κ'.w) ->
  (Code.loop b).wp P Q a κ.w
def vr(P:Program)(n:Nat)(H:Hints)(code:Code):Prop:=∀ p∈qU code,∀ l,H.loop p.1=some l->nF P n l p.2
theorem IZ{kn:Kn}:∀ (l:List Nat) {fr:Fr} {st:St} {r:Fr×St},(Lv l fr st).leads r->wP kn fr.get->wP kn r.1.get
 | [],fr,st,r,h,hk=>by cases h; exact hk
 | s::l,fr,st,r,h,hk=>by
  obtain⟨x,h1,h2⟩:=T.zb.1 h
  refine IZ l h2 λt b hb => ?_
  have hf:=hk t b hb
  unfold Nq at h1
  cases hW:Nat.ble 1000000 s with
  | true =>
   rw[hW,cond_true]at h1
   have hfr:x.1=fr:=by
    unfold Ow at h1
    split at h1
    ·split at h1
     ·split at h1
      ·split at h1
       ·obtain⟨_,h1⟩:=h1; cases h1; rfl
       ·exact h1.elim
      ·exact h1.elim
     ·cases h1; rfl
    ·cases h1; rfl
   grind
  | false =>
  rw[hW,cond_false]at h1
  unfold Mk at h1
  split at h1
  ·rename_i b' qh e off len hs
   split at h1
   ·split at h1
    ·obtain⟨_,h1⟩:=h1
     cases h1
     simp only[Fr.get]
     cases ht:Nat.beq s t with
     | true=>rw[<- Nat.eq_of_beq_eq_true ht,hs]at hf; cases hf
     | false=>grind
    ·exact h1.elim
   ·exact h1.elim
  ·cases h1; exact hf
theorem II{c:Ctx}{t e:Nat}(hu:c.P.underlying t=some (.slice e)){op:BinOp}{b:Bool}(Lr:Ih op=some b)(px py:Operand)(w:World)(x:Option Addr)(l k:Nat) :
  (do eqGuard op t px py (.slice x l k) (.slice none 0 0); binOp op t (.slice x l k) (.slice none 0 0):Sem Value).run c.P w=.ok (.bool (if b=true then x.isNone else !x.isNone)) w:=by
 cases op<;>simp only[Ih]at Lr<;>cases Lr
 ·have:=run_eql_slice_nil (P:=c.P) w t e x l k hu
  simp only[eqGuard]
  simpa using this
 ·have:=run_neq_slice_nil (P:=c.P) w t e x l k hu
  simp only[eqGuard]
  simpa using this
theorem Ko{ops:Array Oper}{fr:Fr}{p:z0Y}(hp:WO (vw P xid tab ro) n ops fr=some p){κ:KS}{a:Act}{kn:Kn}(hI:Inv κ)(hR:Rel κ n fr.get a)(hk:wP kn fr.get){id:Nat}(Q:Exit->Act->World->Prop)
  (hQ:∀ a':Act,Kept (.region id ops false) a a' ->
   ((p.l=[]/\Rel κ n (Fr.get ((p.c,some (.zx .bool p.eq))::(p.m,some .qZ)::(p.s,some .qZ)::fr)) a')\/Rel κ n (Fr.get ((p.c,some (.zx .bool (!p.eq)))::(p.m,some (.zx (.sl p.e) p.l))::fr)) a')->Q .normal a' κ.w) :
  (Code.region id ops false).wp P Q a κ.w:=by
 unfold WO at hp
 split at hp
 ·rename_i o1 o2 hops
  split at hp
  ·rename_i m s C8 I2 hg1
   split at hp
   ·rename_i cc op t m' y ty' OD Lp SX
    split at hp
    ·rename_i b e l et Lr hs OA
     cases hc:Nat.beq m m'&&KM y&&Nat.blt m n&&Nat.blt cc n with
     | false=>grind
     | true =>
      rw[hc,cond_true]at hp
      cases hp
      simp only[Bool.and_eq_true]at hc
      obtain⟨⟨⟨hmm,hy⟩,hmn⟩,hcn⟩:=hc
      have:=Nat.eq_of_beq_eq_true hmm
      subst this
      have NZ:y=.const (.slice none 0 0):=by
       unfold KM at hy
       grind
      subst NZ
      obtain⟨v,hv,jR⟩:=hR.get s _ hs
      obtain⟨x,k,hvs⟩:∃ (x:Option Addr) (k:Nat),v=.slice x l.length k/\(x=none->l=[]/\k=0):=by
       rcases(jR.wF rfl).p7 with⟨rfl,a0,he⟩ | ⟨blk,off,cap,f,he,xO,wD,h1,h2⟩
       ·grind
       ·grind
      obtain⟨rfl,hvn⟩:=hvs
      have vV:ops.size=2:=by rw[<- Array.length_toList,hops]; rfl
      have e0:ops[0]? = some o1:=by rw[<- Array.getElem?_toList,hops]; rfl
      have e1:ops[1]? = some o2:=by rw[<- Array.getElem?_toList,hops]; rfl
      have z5m:m<n:=Nat.le_of_ble_eq_true hmn
      have z7X:cc<n:=Nat.le_of_ble_eq_true hcn
      have hsl:a.tmps.getD s undef=.slice x l.length k:=by simp[Array.getD_eq_getD_getElem?,hv]
      have wan:∀ (o:Oper) (ys:Nat->Option Value),o.guard=none->True:=λ_ _ _=>trivial
      refine wp_region ?_
      rw[vV,show List.range 2=[0,1]from rfl,wpOps_cons]
      unfold wpOp
      rw[e0]
      simp only
      rw[if_pos (by unfold Region.wanted; rw[hg1])]
      refine .inl ?_
      obtain⟨d1,op1,ty1,Sz,af1,gu1⟩:=o1
      obtain⟨d2,op2,W6,Nj,af2,gu2⟩:=o2
      simp only at C8 I2 hg1 OD Lp SX
      subst C8 I2 hg1 OD Lp SX
      have S4:(execOp a.eval ⟨some m,.move (.tmp s),ty1,Sz,af1,none⟩).run P κ.w=.ok (.value (.slice x l.length k)) κ.w:=by
       simp[execOp,Act.eval,hsl]
      unfold Oper.wp
      rw[S4,Oper.upon_value,wpOps_cons]
      unfold wpOp
      rw[e1]
      simp only
      rw[if_pos (by unfold Region.wanted; rfl)]
      refine .inl ?_
      have bD:(a.put (some m) (.slice x l.length k)).eval (.tmp m)=.slice x l.length k:=by
       have:=hR.size
       simp[Act.eval,Act.put,Array.getD_eq_getD_getElem?,Array.getElem?_setIfInBounds,this,z5m]
      have hu:=vB OA
      have wO:=II (c:=vw P xid tab ro) hu Lr (.tmp m) (.const (.slice none 0 0)) κ.w x l.length k
      have Ya:(execOp (a.put (some m) (.slice x l.length k)).eval ⟨some cc,.binOp op t (.tmp m) (.const (.slice none 0 0)) ty',W6,Nj,af2,none⟩).run P κ.w=.ok (.value (.bool (if b=true then x.isNone else !x.isNone))) κ.w:=by
       have hex:execOp (a.put (some m) (.slice x l.length k)).eval ⟨some cc,.binOp op t (.tmp m) (.const (.slice none 0 0)) ty',W6,Nj,af2,none⟩ =
        (do Pure.pure (.value (<- (do eqGuard op t (.tmp m) (.const (.slice none 0 0)) ((a.put (some m) (.slice x l.length k)).eval (.tmp m)) (.slice none 0 0); binOp op t ((a.put (some m) (.slice x l.length k)).eval (.tmp m)) (.slice none 0 0))))):=rfl
       rw[hex,bD,Sem.run_bind]
       rw[show(do eqGuard op t (.tmp m) (.const (.slice none 0 0)) (.slice x l.length k) (.slice none 0 0); binOp op t (.slice x l.length k) (.slice none 0 0):Sem Value).run P κ.w=_ from wO]
       rfl
      unfold Oper.wp
      rw[Ya,Oper.upon_value]
      have z0u:∀ (q:Nat) (u:Value) (a1:Act) (t:Nat),(a1.put (some q) u).tmps[t]? = if q=t then(if q<a1.tmps.size then some u else none)else a1.tmps[t]? := by
       intro q u a1 t
       simp only[Act.put,Array.getElem?_setIfInBounds]
      have Mn:(a.put (some m) (.slice x l.length k)).tmps.size=n:=by simp[Act.put,hR.size]
      have hs2:((a.put (some m) (.slice x l.length k)).put (some cc) (.bool (if b=true then x.isNone else !x.isNone))).tmps.size=n:=by simp[Act.put,hR.size]
      refine hQ _ (λt ht => ?_) ?_
      ·have hw:zY (.region id ops false)=[m,cc]:=by simp only[zY,hops,dstsOf]
       grind
      ·have get:∀ (t:Nat),((a.put (some m) (.slice x l.length k)).put (some cc) (.bool (if b=true then x.isNone else !x.isNone))).tmps[t]? = if cc=t then some (.bool (if b=true then x.isNone else !x.isNone))else if m=t then some (.slice x l.length k)else a.tmps[t]? := by
        grind
       have NX:∀ {i j:Nat},Nat.beq i j=false->i≠j:=λh e=>by subst e; simp at h
       cases x with
       | none =>
        obtain⟨hl,VI⟩:=hvn rfl
        subst hl VI
        refine .inl ⟨rfl,hs2,hR.defers,λt d hd => ?_⟩
        rw[get]
        simp only[Fr.get]at hd
        cases h1:Nat.beq cc t with
        | true =>
         rw[h1,cond_true]at hd; cases hd
         rw[if_pos (Nat.eq_of_beq_eq_true h1)]
         refine⟨_,rfl,?_⟩
         cases b<;>exact .bool
        | false =>
         rw[h1,cond_false]at hd
         rw[if_neg (NX h1)]
         cases h2:Nat.beq m t with
         | true=>rw[h2,cond_true]at hd; cases hd; rw[if_pos (Nat.eq_of_beq_eq_true h2)]; exact⟨_,rfl,.qZ⟩
         | false =>
          rw[h2,cond_false]at hd
          rw[if_neg (NX h2)]
          cases h3:Nat.beq s t with
          | true=>rw[h3,cond_true]at hd; cases hd; rw[<- Nat.eq_of_beq_eq_true h3]; exact⟨_,hv,.qZ⟩
          | false=>rw[h3,cond_false]at hd; exact hR.get t d hd
       | some x =>
        refine .inr ⟨hs2,hR.defers,λt d hd => ?_⟩
        rw[get]
        simp only[Fr.get]at hd
        cases h1:Nat.beq cc t with
        | true =>
         rw[h1,cond_true]at hd; cases hd
         rw[if_pos (Nat.eq_of_beq_eq_true h1)]
         refine⟨_,rfl,?_⟩
         cases b<;>exact .bool
        | false =>
         rw[h1,cond_false]at hd
         rw[if_neg (NX h1)]
         cases h2:Nat.beq m t with
         | true=>rw[h2,cond_true]at hd; cases hd; rw[if_pos (Nat.eq_of_beq_eq_true h2)]; exact⟨_,rfl,jR⟩
         | false=>rw[h2,cond_false]at hd; rw[if_neg (NX h2)]; exact hR.get t d hd
    ·cases hp
   ·cases hp
  ·cases hp
 ·cases hp
theorem Cf{id:Nat}{b:Code}(hb:∀ b',b≠.loop b')(fr:Fr)(kn:Kn)(st:St){α:Type}(k:YL->T α):mY (vw P xid tab ro) tab n H (.block id b) fr kn st k=mY (vw P xid tab ro) tab n H b fr kn st λr=>match r.ex with
  | .exit id'=>bif Nat.beq id' id then k { r with ex:=.normal } else k r
  | _=>k r:=by
 cases b<;>first | rfl | exact absurd rfl (hb _)
theorem fS(hm:(vw P xid tab ro).P.follows .mixedOrders=true)(hT:jE P tab):∀ (code:Code),vr P n H code->∀ {fr:Fr} {kn:Kn} {κ:KS} {a:Act} {α:Type} {k:YL->T α} {r:α},
  (mY (vw P xid tab ro) tab n H code fr kn κ.st k).leads r->Inv κ->Rel κ n fr.get a->wP kn fr.get ->
  ∀ Q:Exit->Act->World->Prop,(∀ (o:YL) (bK:Exit) (a':Act) (κ':KS),(k o).leads r->κ'.st=o.st->Inv κ'->Ext κ κ'->Rel κ' n o.fr.get a'->wP o.kn o.fr.get->Kept code a a'->(o.q=true->o.st=κ.st)->Jb κ' o.ex bK->Q bK a' κ'.w) ->
   code.wp P Q a κ.w:=by
 intro code
 induction code with
 | skip=>intro _ fr kn κ a α k r h hI hR hk Q hQ; exact wp_skip (hQ _ _ a κ h rfl hI (Ext.refl κ) hR hk (λ_ _=>rfl) (λ_=>rfl) rfl)
 | exit id=>intro _ fr kn κ a α k r h hI hR hk Q hQ; exact wp_exit (hQ _ _ a κ h rfl hI (Ext.refl κ) hR hk (λ_ _=>rfl) (λ_=>rfl) rfl)
 | ret=>intro _ fr kn κ a α k r h hI hR hk Q hQ; exact wp_ret (hQ _ _ a κ h rfl hI (Ext.refl κ) hR hk (λ_ _=>rfl) (λ_=>rfl) rfl)
 | region id ops draw =>
  intro _ fr kn κ a α k r h hI hR hk Q hQ
  simp only[mY]at h
  obtain⟨z,h0,h⟩:=T.zb.1 h
  obtain⟨κ0,w1,w2,w3,w4,w5⟩:=I0 _ h0 hI hR
  have VI:=IZ _ h0 hk
  rcases Qw VI h with⟨s,h1,h2⟩ | ⟨d,zl,rfl,h1,h2⟩
  rotate_left
  ·rw[<- w2]at h1
   rw[<- w1]
   exact Cj (Vz hT) w3 w5 VI h1 λv a' κ' e1 e2 e3 e4 e5 e6=>hQ ⟨.jg d,[],[],zl,false⟩ _ a' κ' h2 e1 e2 (w4.trans e3) e4 (yH _) (λt ht=>e5 t λo ho he=>ht (o8 ho he)) (λhq=>by cases hq) ⟨v,rfl,e6⟩
  rw[<- w2]at h1
  have WG:=Bs VI h1
  rw[<- w1]
  refine(BT hm (Vz hT) w3 w5 VI h1 λa' κ' e1 e2 e3 e4 e5=>hQ ⟨.normal,s.fr,s.kn,s.st,quiet s.ks&&(H.Lv id).isEmpty⟩ _ a' κ' h2 e1 e2 (w4.trans e3) e4 WG (λt ht=>e5 t λo ho he=>ht (o8 ho he)) (λhq => ?_) rfl).1
  simp only[Bool.and_eq_true]at hq
  have he:H.Lv id=[]:=List.isEmpty_iff.1 hq.2
  rw[he]at h0
  cases h0
  exact(Vs h1 hq.1).trans w2
 | seq x y ix iy =>
  intro hl fr kn κ a α k r h hI hR hk Q hQ
  have Lt:vr P n H x:=λp hp=>hl p (by simp only[qU,List.mem_append]; exact .inl hp)
  have Tc:vr P n H y:=λp hp=>hl p (by simp only[qU,List.mem_append]; exact .inr hp)
  have kx:∀ {a a':Act},Kept x a a'->Kept (.seq x y) a a':=λh s hs=>h s λe=>hs (by simp only[zY,List.mem_append]; exact .inl e)
  have ky:∀ {a a':Act},Kept y a a'->Kept (.seq x y) a a':=λh s hs=>h s λe=>hs (by simp only[zY,List.mem_append]; exact .inr e)
  simp only[mY]at h
  split at h
  ·refine wp_seq (ix Lt h hI hR hk _ λo bK a' κ' e0 e1 e2 e3 e4 De e5 e5q e6 => ?_)
   cases hex:o.ex<;>rw[hex]at e0 e6<;>simp only at e0
   ·cases e6
    refine iy Tc (κ:=κ') (e1▸e0) e2 e4 De Q λo' Vc NF C4 f0 f1 f2 f3 f4 W4 f5 K3 f6=>hQ { o' with q:=o.q&&o'.q } Vc NF C4 f0 f1 f2 (e3.trans f3) f4 W4 (λs hs=>(ky f5 s hs).trans (kx e5 s hs)) ?_ f6
    grind
   ·cases e6; exact hQ o _ a' κ' e0 e1 e2 e3 e4 De (kx e5) e5q (by rw[hex]; rfl)
   ·cases e6; exact hQ o _ a' κ' e0 e1 e2 e3 e4 De (kx e5) e5q (by rw[hex]; rfl)
   ·obtain⟨v,rfl,hv⟩:=e6
    exact hQ o _ a' κ' e0 e1 e2 e3 e4 De (kx e5) e5q (by rw[hex]; exact⟨v,rfl,hv⟩)
  ·rename_i eO hcu
   cases hw:Xz eO with
   | false=>rw[hw]at h; exact h.elim
   | true =>
    rw[hw,cond_true]at h
    obtain⟨z,h1,h2⟩:=T.zb.1 h
    have h1:=U9 h1
    refine wp_seq (ix Lt h1 hI hR hk _ λo bK a' κ' e0 e1 e2 e3 e4 De e5 e5q e6 => ?_)
    cases hex:o.ex<;>rw[hex]at e0 e6<;>simp only at e0
    ·cases e6
     cases hq:o.q with
     | false=>rw[hq]at e0; exact e0.elim
     | true =>
      rw[hq,cond_true]at e0
      have xm:o.st=κ.st:=e5q hq
      have hRz:Rel κ' n (bq κ.st eO z).get a':=by
       refine⟨e4.size,e4.defers,λt d hd => ?_⟩
       obtain⟨k',y',d0,g0,g1,g2,g3⟩:=(od (p:=λ_=>true) (zl:=κ.st) eO [] z (λ_ _=>rfl) e0).2 _ (get_mem hd)
       cases g3
       obtain⟨v,q1,q2⟩:=e4.get _ _ g1
       have ZZ:=List.all_eq_true.1 hw _ g0
       have ZZ:sF k'=true:=ZZ
       have hwk:Wk κ' κ':=⟨rfl,rfl,rfl,rfl,λb d h=>⟨d,h⟩,λb v e xs h=>.inl h,λb v e xs h=>h,λb h=>h⟩
       have xO:Jt [] k'=true:=by cases k'<;>first | rfl | cases ZZ
       rw[<- e1]at g2
       have:=VE hwk (bs:=[]) xO (λ_ _=>rfl) (zl:=κ'.st) (λ_ _=>rfl) (λ_ h=>by simp[rowAt]at h) g2 q2
       grind
      have X7:=lh hR e3 hRz e5
      refine iy Tc (κ:=κ') (by rw[e1,xm]; exact h2) e2 X7 (yH _) Q λo' Vc NF C4 f0 f1 f2 f3 f4 W4 f5 K3 f6=>hQ o' Vc NF C4 f0 f1 f2 (e3.trans f3) f4 W4 (λs hs=>(ky f5 s hs).trans (kx e5 s hs)) (λhq=>(K3 hq).trans (e1.trans xm)) f6
    ·exact e0.elim
    ·exact e0.elim
    ·exact e0.elim
  ·rename_i hcu
   cases Lr:opsOf x with
   | none=>rw[Lr]at h; exact h.elim
   | some ops =>
    rw[Lr]at h
    simp only at h
    cases hp:WO (vw P xid tab ro) n ops fr with
    | none=>rw[hp]at h; exact h.elim
    | some p =>
     rw[hp]at h
     obtain⟨ZL,z09⟩:=h
     obtain⟨id,rfl⟩:∃ id,x=.region id ops false:=by
      cases x with
      | region id ops' draw =>
       cases draw with
       | true=>cases Lr
       | false=>cases Lr; exact⟨id,rfl⟩
      | _=>cases Lr
     refine wp_seq (Ko hp hI hR hk _ ?_)
     intro a' hk1 T9
     rcases T9 with⟨hl,X7⟩ | X7
     ·refine iy Tc (κ:=κ) (ZL hl _ z09) hI X7 (λt b hb => ?_) Q λo' Vc NF C4 f0 f1 f2 f3 f4 W4 f5 K3 f6=>hQ o' Vc NF C4 f0 f1 f2 f3 f4 W4 (λs hs=>(ky f5 s hs).trans (kx hk1 s hs)) K3 f6
      simp only[Kn.get]at hb
      simp only[Fr.get]
      grind
     ·refine iy Tc (κ:=κ) z09 hI X7 (λt b hb => ?_) Q λo' Vc NF C4 f0 f1 f2 f3 f4 W4 f5 K3 f6=>hQ o' Vc NF C4 f0 f1 f2 f3 f4 W4 (λs hs=>(ky f5 s hs).trans (kx hk1 s hs)) K3 f6
      simp only[Kn.get]at hb
      simp only[Fr.get]
      cases ht:Nat.beq p.c t with
      | true=>rw[ht,cond_true]at hb; rw[cond_true]; cases hb; rfl
      | false=>rw[ht,cond_false]at hb; cases hb
  ·rename_i ws hcu
   cases hw:ws.all λw=>Nat.ble κ.st.length w.sh.bs.length with
   | false=>rw[hw]at h; exact h.elim
   | true =>
    rw[hw,cond_true]at h
    obtain⟨rr,rX,h2⟩:=T.zb.1 h
    refine wp_seq (ix Lt rX hI hR hk _ λo bK a' κ' e0 e1 e2 e3 e4 De e5 _ e6 => ?_)
    obtain⟨w,g1,z,g2,g3,g4⟩:=Wv _ _ _ _ _ e0
    have hwl:=List.all_eq_true.1 hw w g1
    obtain⟨κ1,q1,q2,q3,q4,q5⟩:=IQ (n:=n) e3 e2 e4 e6 g3 (Nat.le_of_ble_eq_true hwl) (by rw[e1]; exact g4)
    rw[g2]at h2
    split at h2
    ·exact h2.elim
    rename_i zz hzz
    obtain⟨q5,EO⟩:=q5 zz hzz
    have X7:=lh hR q4 q5 e5
    rw[<- q1]
    cases hex:zz.1<;>rw[hex]at h2 EO<;>simp only at h2
    ·cases EO
     exact iy Tc (κ:=κ1) (by rw[q2]; exact h2) q3 X7 (yH _) Q λo' Vc NF C4 f0 f1 f2 f3 f4 W4 f5 _ f6=>hQ { o' with q:=false } Vc NF C4 f0 f1 f2 (q4.trans f3) f4 W4 (λs hs=>(ky f5 s hs).trans (kx e5 s hs)) (λhq=>by cases hq) f6
    ·cases EO; exact hQ _ _ a' κ1 h2 q2 q3 q4 X7 (yH _) (kx e5) (λhq=>by cases hq) rfl
    ·cases EO; exact hQ _ _ a' κ1 h2 q2 q3 q4 X7 (yH _) (kx e5) (λhq=>by cases hq) rfl
    ·obtain⟨v,rfl,hv⟩:=EO
     exact hQ _ _ a' κ1 h2 q2 q3 q4 X7 (yH _) (kx e5) (λhq=>by cases hq) ⟨v,rfl,hv⟩
 | cond x p q ip iq =>
  intro hl fr kn κ a α k r h hI hR hk Q hQ
  have hlp:vr P n H p:=λz hz=>hl z (by simp only[qU,List.mem_append]; exact .inl hz)
  have Co:vr P n H q:=λz hz=>hl z (by simp only[qU,List.mem_append]; exact .inr hz)
  have kp:∀ {a a':Act},Kept p a a'->Kept (.cond x p q) a a':=λh s hs=>h s λe=>hs (by simp only[zY,List.mem_append]; exact .inl e)
  have kq:∀ {a a':Act},Kept q a a'->Kept (.cond x p q) a a':=λh s hs=>h s λe=>hs (by simp only[zY,List.mem_append]; exact .inr e)
  have hQp:=λ(o:YL) (bK:Exit) (a':Act) (κ':KS) f0 f1 f2 f3 f4 W4 (f5:Kept p a a') K3 f6=>hQ o bK a' κ' f0 f1 f2 f3 f4 W4 (kp f5) K3 f6
  have hQq:=λ(o:YL) (bK:Exit) (a':Act) (κ':KS) f0 f1 f2 f3 f4 W4 (f5:Kept q a a') K3 f6=>hQ o bK a' κ' f0 f1 f2 f3 f4 W4 (kq f5) K3 f6
  simp only[mY]at h
  split at h
  ·rename_i hx
   have hv:zW fr.get x=some (.zx .bool true):=yp hk hx
   exact wp_cond_true (hR.eval hv).uG (ip hlp h hI hR hk Q hQp)
  ·rename_i hx
   have hv:zW fr.get x=some (.zx .bool false):=yp hk hx
   exact wp_cond_false (hR.eval hv).uG (iq Co h hI hR hk Q hQq)
  ·split at h
   ·split at h
    ·rename_i v hv
     have he:=hv
     rw[show ∀ t,fr.get t=zW fr.get (.tmp t)from λ_=>rfl]at he
     rcases h with⟨rfl,h⟩ | ⟨rfl,h⟩
     ·exact wp_cond_true (hR.eval he).uG (ip hlp h hI hR (lq hk hv) Q hQp)
     ·exact wp_cond_false (hR.eval he).uG (iq Co h hI hR (lq hk hv) Q hQq)
    ·exact h.elim
   ·exact h.elim
 | block id b ib =>
  intro hl fr kn κ a α k r h hI hR hk Q hQ
  by_cases hb:∃ b',b=.loop b'
  ·obtain⟨b,rfl⟩:=hb
   simp only[mY]at h
   split at h
   ·exact h.elim
   ·rename_i l hll
    cases hc:Nat.ble (gh l.gh fr κ.st).2.length l.sh.bs.length&&Y4 l.ps (zY b)&&l.ws.all λw=>Nat.ble l.sh.bs.length w.sh.bs.length with
    | false=>rw[hc]at h; exact h.elim
    | true =>
     rw[hc,cond_true]at h
     simp only[Bool.and_eq_true,List.all_eq_true]at hc
     obtain⟨⟨CD,I9⟩,hc3⟩:=hc
     obtain⟨p,h1,h⟩:=T.zb.1 h
     obtain⟨s,h2,h⟩:=T.zb.1 h
     obtain⟨rr,h3,h4⟩:=T.zb.1 h
     obtain⟨κ1,w1,w2,w3,w4,w5⟩:=cK l.gh fr κ hI hR
     rw[<- w2]at h1 h2 CD
     obtain⟨κ2,q1,q2,q3,q4,q5,_⟩:=l.sh.oj (n:=n) (Ext.refl κ1) w3 w5 (Nat.le_of_ble_eq_true CD) h2
     -- the loop's parameters
     have hps:Rel κ2 n (bq (l.sh.st s) l.ps p).get a:=by
      refine⟨w5.size,w5.defers,λt d hd => ?_⟩
      obtain⟨k',y,d0,g0,g1,g2,g3⟩:=(od (p:=λ_=>true) (zl:=l.sh.st s) l.ps [] p (λ_ _=>rfl) h1).2 _ (get_mem hd)
      cases g3
      obtain⟨v,e1,e2⟩:=w5.get _ _ g1
      have ZZ:=List.all_eq_true.1 I9 _ g0
      simp only[Bool.and_eq_true]at ZZ
      have hwk:Wk κ1 κ1:=⟨rfl,rfl,rfl,rfl,λb d h=>⟨d,h⟩,λb v e xs h=>.inl h,λb v e xs h=>h,λb h=>h⟩
      have xO:Jt [] k'=true:=by cases k'<;>first | rfl | cases ZZ.1
      have:=VE hwk (bs:=[]) xO (λ_ _=>rfl) (zl:=κ1.st) (λ_ _=>rfl) (λ_ h=>by simp[rowAt]at h) g2 e2
      have he:lB κ1.st k' y=lB (l.sh.st s) k' y:=by cases k'<;>first | rfl | cases ZZ.1
      rw[he]at this
      exact⟨v,e1,this.mono q4⟩
     have MI:Ext κ κ2:=w4.trans q4
     have nz:κ2.w=κ.w:=q1.trans w1
     rw[<- nz]
     refine wp_block (hl (id,b) (by simp[qU]) l hll κ2 a p s rr h3 q2 q3 q5 hps I9 (λw hw=>Nat.le_of_ble_eq_true (hc3 w hw)) _ λw x bK a' κ' f1 f2 f3 f4 f5 f6 f7 => ?_)
     rw[f2]at h4
     split at h4
     ·exact h4.elim
     rename_i zz hzz
     obtain⟨f6,f8⟩:=f6 zz hzz
     have M0:Rel κ' n (zz.2++(gq (zY b)++(gh l.gh fr κ.st).1)).get a':=lh w5 (q4.trans f5) f6 f7
     have Lx:Kept (.block id (.loop b)) a a':=f7
     cases hwx:zz.1<;>rw[hwx]at h4 f8<;>simp only at h4
     ·exact h4.elim
     ·rename_i id'
      cases f8
      simp only[Exit.inBlock]
      cases VH:Nat.beq id' id with
      | true =>
       rw[VH,cond_true]at h4
       have:=Nat.eq_of_beq_eq_true VH
       subst this
       rw[if_pos rfl]
       exact hQ _ _ a' κ' h4 f3 f4 (MI.trans f5) M0 (yH _) Lx (λhq=>by cases hq) rfl
      | false =>
       rw[VH,cond_false]at h4
       rw[if_neg (λe=>by subst e; simp at VH)]
       exact hQ _ _ a' κ' h4 f3 f4 (MI.trans f5) M0 (yH _) Lx (λhq=>by cases hq) rfl
     ·cases f8
      exact hQ _ _ a' κ' h4 f3 f4 (MI.trans f5) M0 (yH _) Lx (λhq=>by cases hq) rfl
     ·obtain⟨v,rfl,hv⟩:=f8
      exact hQ _ _ a' κ' h4 f3 f4 (MI.trans f5) M0 (yH _) Lx (λhq=>by cases hq) ⟨v,rfl,hv⟩
  ·have VH:∀ b',b≠.loop b':=λb' e=>hb ⟨b',e⟩
   rw[Cf VH]at h
   refine wp_block (ib (λz hz=>hl z (by rw[VX VH]; exact hz)) h hI hR hk _ λo bK a' κ' f0 f1 f2 f3 f4 W4 f5 K3 f6 => ?_)
   have Lx:Kept (.block id b) a a':=f5
   cases hox:o.ex<;>rw[hox]at f0 f6<;>simp only at f0
   ·cases f6; exact hQ o _ a' κ' f0 f1 f2 f3 f4 W4 Lx K3 (by rw[hox]; rfl)
   ·rename_i id'
    cases f6
    simp only[Exit.inBlock]
    cases hbq:Nat.beq id' id with
    | true =>
     rw[hbq,cond_true]at f0
     have:=Nat.eq_of_beq_eq_true hbq
     subst this
     rw[if_pos rfl]
     exact hQ _ _ a' κ' f0 f1 f2 f3 f4 W4 Lx K3 rfl
    | false =>
     rw[hbq,cond_false]at f0
     rw[if_neg (λe=>by subst e; simp at hbq)]
     exact hQ o _ a' κ' f0 f1 f2 f3 f4 W4 Lx K3 (by rw[hox]; rfl)
   ·cases f6; exact hQ o _ a' κ' f0 f1 f2 f3 f4 W4 Lx K3 (by rw[hox]; rfl)
   ·obtain⟨v,rfl,hv⟩:=f6
    exact hQ o _ a' κ' f0 f1 f2 f3 f4 W4 Lx K3 (by rw[hox]; exact⟨v,rfl,hv⟩)
 | _=>intro _ fr kn κ a α k r h; simp only[mY]at h; exact h.elim
end
end Go.AM
namespace Go.AM
set_option linter.unusedSectionVars false
variable [vi]
open Go.RowKit
section
variable [Qg]
variable {P:Program} {xid:Nat} {tab:gH} {ro:Nat->Bool} {n:Nat} {H:Hints}
theorem Ht{b:Code}{st zl:St}:∀ (eO:List It) (z:wg eO),Y4 eO (zY b)=true->bq st eO z=bq zl eO z/\∀ q∈bq st eO z,q.1 ∉ zY b:=by
 intro eO
 induction eO with
 | nil=>intro z _; exact⟨rfl,λq hq=>by cases hq⟩
 | cons i r ih =>
  intro z h
  have hi:∀ y:i.den,Qq st i y=Qq zl i y/\∀ q∈Qq st i y,q.1 ∉ zY b:=by
   intro y
   simp only[Y4,List.all_cons,Bool.and_eq_true]at h
   cases i with
   | s t k =>
    obtain⟨h1,_⟩:=h
    simp at h1
    refine⟨by cases k<;>first | rfl | (simp[sF]at h1),λq hq => ?_⟩
    simp only[Qq,List.mem_singleton]at hq
    subst hq
    intro hm
    have:=h1.2
    simp only[PF,Bool.not_eq_true',List.any_eq_false]at this
    exact this t hm (by simp)
   | _=>grind
  cases r with
  | nil =>
   have e1:=Q1 st i z
   have e2:=Q1 zl i z
   grind
  | cons j r =>
   have e1:=oU st i j r z
   have e2:=oU zl i j r z
   have hr:Y4 (j::r) (zY b)=true:=by
    unfold Y4 at h ⊢
    grind
   grind
theorem Ml(hm:(vw P xid tab ro).P.follows .mixedOrders=true)(hT:jE P tab){l:qp}{b:Code}(hL:vr P n H b)(R:wg l.ps->l.sh.den->T (l.sh.den⊕kz l.ws))
  (round:∀ p s,DA (vw P xid tab ro) tab n H l b p s=R p s) (hF:∀ p s,l.F p s=T.loop (R p) s):nF P n l b:=by
 intro κ a p s r hr xm hI hR hRp hps hws Q hQ
 rw[hF,T.hM]at hr
 obtain⟨m,hm'⟩:=hr
 have z5v:=λ(st zl:St)=>(Ht (b:=b) (st:=st) (zl:=zl) l.ps p hps).1
 have Sg:∀ (st:St) (t:Nat) (d:D),(bq st l.ps p).get t=some d->t ∉ zY b:=λst t d hd=>(Ht (b:=b) (st:=st) (zl:=st) l.ps p hps).2 _ (get_mem hd)
 refine wp_loop_ghost (λm a' w'=>∃ s',T.Iter (R p) m s' r/\∃ κ':KS,κ'.w=w'/\κ'.st=l.sh.st s'/\Inv κ'/\Ext κ κ'/\Rel κ' n (l.sh.fr s').get a'/\Rel κ' n (bq (l.sh.st s) l.ps p).get a'/\Kept b a a') m
  ⟨s,hm',κ,rfl,xm,hI,Ext.refl κ,hR,hRp,λ_ _=>rfl⟩ ?_
 rintro m a1 w1 ⟨s1,hit,κ1,rfl,g4,g5,g6,g7a,g7b,g8⟩
 have g7:Rel κ1 n (l.sh.fr s1++bq (l.sh.st s1) l.ps p).get a1:=⟨g7a.size,g7a.defers,λt d hd=>by
  rcases pU hd with hd | hd
  ·exact g7a.get t d hd
  ·rw[z5v _ (l.sh.st s)]at hd; exact g7b.get t d hd⟩
 cases hit with
 | done h1 =>
  rw[<- round]at h1
  refine fS hm hT b hL (κ:=κ1) (by rw[g4]; exact h1) g5 g7 (yH _) _ λo bK a' κ' e0 e1 e2 e3 e4 De e5 _ e6 => ?_
  have fin:∀ exo,Jb κ' exo bK->(Vp l.ws exo (QC exo o.fr) o.st).leads r->Q bK a' κ'.w:=λexo e6 e0=>by
   obtain⟨w,k1,x,k2,k3,k4⟩:=Wv _ _ _ _ _ e0
   have hlen:κ1.st.length<=w.sh.bs.length:=by rw[g4]; exact Nat.le_trans (vY.mS _ _) (hws w k1)
   obtain⟨κ2,q1,q2,q3,q4,q5⟩:=IQ (n:=n) e3 e2 e4 e6 k3 hlen (by rw[e1]; exact k4)
   have:=hQ w x bK a' κ2 k1 k2 q2 q3 (g6.trans q4) q5 (λt ht=>(e5 t ht).trans (g8 t ht))
   grind
  have Gq:∀ {z:l.sh.den⊕kz l.ws},((Vp l.ws o.ex (QC o.ex o.fr) o.st).bind λr=>T.ret (Sum.inr r:l.sh.den⊕kz l.ws)).leads z->z=Sum.inr r->(Vp l.ws o.ex (QC o.ex o.fr) o.st).leads r:=by
   intro z h hz
   obtain⟨y,h1,h2⟩:=T.zb.1 h
   have h2:(Sum.inr y:l.sh.den⊕kz l.ws)=z:=h2
   grind
  cases hox:o.ex<;>rw[hox]at e0 e6 Gq<;>simp only at e0
  ·obtain⟨y,_,h2⟩:=T.zb.1 e0
   have h2:(Sum.inl y:l.sh.den⊕kz l.ws)=Sum.inr r:=h2
   cases h2
  ·have q:=fin _ e6 (Gq e0 rfl); cases e6; exact q
  ·have q:=fin _ e6 (Gq e0 rfl); cases e6; exact q
  ·have q:=fin _ e6 (Gq e0 rfl); obtain⟨v,rfl,hv⟩:=e6; exact q
 | step h1 hit =>
  rename_i m s2
  rw[<- round]at h1
  refine fS hm hT b hL (κ:=κ1) (by rw[g4]; exact h1) g5 g7 (yH _) _ λo bK a' κ' e0 e1 e2 e3 e4 De e5 _ e6 => ?_
  have Bj:((Vp l.ws o.ex (QC o.ex o.fr) o.st).bind λr=>T.ret (Sum.inr r:l.sh.den⊕kz l.ws)).leads (Sum.inl s2)->False:=by
   intro h
   obtain⟨y,h1,h2⟩:=T.zb.1 h
   have h2:(Sum.inr y:l.sh.den⊕kz l.ws)=Sum.inl s2:=h2
   cases h2
  cases hox:o.ex<;>rw[hox]at e0 e6 Bj<;>simp only at e0
  ·cases e6
   obtain⟨y,h1,h2⟩:=T.zb.1 e0
   have h2:(Sum.inl y:l.sh.den⊕kz l.ws)=Sum.inl s2:=h2
   cases h2
   have hlen:κ1.st.length<=l.sh.bs.length:=by rw[g4]; exact vY.mS _ _
   obtain⟨κ2,q1,q2,q3,q4,q5,_⟩:=l.sh.oj (n:=n) e3 e2 e4 hlen (by rw[e1]; exact h1)
   refine⟨m,Nat.lt_succ_self _,s2,hit,κ2,q1,q2,q3,g6.trans q4,q5,⟨q5.size,q5.defers,λt d hd => ?_⟩,λt ht=>(e5 t ht).trans (g8 t ht)⟩
   obtain⟨v,r1,r2⟩:=g7b.get t d hd
   exact⟨v,(e5 t (Sg _ t d hd)).trans r1,r2.mono q4⟩
  ·exact(Bj e0).elim
  ·exact(Bj e0).elim
  ·exact(Bj e0).elim
end
section
variable {P:Program} {xid:Nat} {tab:gH} {ro:Nat->Bool} {n:Nat} {H:Hints}
theorem pY{κ:KS}(hI:Inv κ):∀ (rs:List Ty) (ds:List D) (x:Gy rs) (vs:List Value),(EW κ.st rs ds).leads x->qj κ ds vs->qj κ.all (nZ rs x) vs/\∀ d∈nZ rs x,rO d=true
 | [],[],x,vs,h,hd=>by rw[hd.zN]; exact⟨.nil,λd hd=>by cases hd⟩
 | [],_::_,x,vs,h,hd=>h.elim
 | [τ],[],x,vs,h,hd=>h.elim
 | [τ],[d],x,vs,h,hd=>by
  obtain⟨v,us,rfl,h1,h2⟩:=hd.cons_inv
  rw[h2.zN]
  refine⟨.cons (nL hI h1 h) .nil,λd hd => ?_⟩
  have hd:d∈[D.zx τ x]:=hd
  rw[List.mem_singleton]at hd
  subst hd; rfl
 | [τ],_::_::_,x,vs,h,hd=>h.elim
 | τ::σ::r,[],x,vs,h,hd=>h.elim
 | τ::σ::r,d::ds,x,vs,h,hd=>by
  obtain⟨y,h1,h2⟩:=T.zb.1 h
  obtain⟨z,h3,h4⟩:=T.zb.1 h2
  cases h4
  obtain⟨v,us,rfl,k1,k2⟩:=hd.cons_inv
  obtain⟨g1,g2⟩:=pY hI (σ::r) ds z us h3 k2
  refine⟨.cons (nL hI k1 h1) g1,λd hd => ?_⟩
  rcases List.mem_cons.1 hd with rfl | hd
  ·rfl
  ·grind
theorem z1O(hm:(vw P xid tab ro).P.follows .mixedOrders=true)(hT:jE P tab){f:Nat}{fn:Func}{code:Code}(hf:P.funcs[f]? = some fn)(hb:fn.body=some code)
  (hn:(fn.name == "runtime.NumGoroutine")=false) (hL:vr P fn.ntmps H code) {d:Ur} (h:∀ x,Fv (vw P xid tab ro) tab H fn code d x=d.F x):zT P f d:=by
 intro κ x zn y xm hy hI ha
 rw[<- h]at hy
 unfold Fv at hy
 cases hle:Nat.ble (pB d.ps x).length fn.ntmps with
 | false=>rw[hle]at hy; exact hy.elim
 | true =>
  rw[hle,cond_true]at hy
  have Q8:=Nat.le_of_ble_eq_true hle
  refine .inl ⟨wc hf hn (by grind) κ.w,calls_of_wp hf hb ?_⟩
  have hR:=nb ha Q8
  refine fS hm hT code hL (κ:=κ) (by rw[xm]; exact hy) hI hR (yH _) _ λo bK a' κe e0 e1 e2 e3 e4 _ _ _ e6 => ?_
  have fin:(bK=.normal\/bK=.ret)->((ym (vw P xid tab ro) o.fr o.st fn.results.toList).bind λds=>EW o.st d.rs ds).leads y ->
    bodyPost P fn (λe w'=>∃ κ':KS,κ'.w=w'/\κ'.st=[]/\Inv κ'/\Ext κ κ'/\xR κ' (.ret (nZ d.rs y)) e) bK a' κe.w:=by
   intro hex h2
   obtain⟨ds,g1,g2⟩:=T.zb.1 h2
   rw[<- e1]at g1 g2
   obtain⟨vs,k1,k2⟩:=dD e2 e4 g1
   obtain⟨q1,q2⟩:=Bt hI xm e2 e3
   obtain⟨hl,z3X⟩:=pY e2 d.rs ds y vs g2 k2
   have Lu:qj (κe.bare (Dd κe)) (nZ d.rs y) vs:=⟨hl.1,λi h1 h2=>dn (z3X _ (List.getElem_mem h1)) (hl.2 i h1 h2)⟩
   have iu:a'.defers=[]/\∃ v,(results fn a'.tmps).run P κe.w=.ok v κe.w/\∃ κ':KS,κ'.w=κe.w/\κ'.st=[]/\Inv κ'/\Ext κ κ'/\xR κ' (.ret (nZ d.rs y)) (.returned v) :=
    ⟨e4.defers,_,k1,κe.bare (Dd κe),rfl,rfl,q1,q2,_,rfl,me Lu⟩
   rcases hex with rfl | rfl
   ·exact iu
   ·exact iu
  cases hox:o.ex<;>rw[hox]at e0 e6<;>simp only at e0
  ·exact fin (.inl e6) e0
  ·exact e0.elim
  ·exact fin (.inr e6) e0
  ·exact e0.elim
theorem Sc{d:Ur}{f:Nat}(b:(yi d.ps->T (Gy d.rs))->yi d.ps->T (Gy d.rs))(hF:∀ x,d.F x=T.fix b x)(h:∀ F:yi d.ps->T (Gy d.rs),zT P f ⟨d.ps,d.rs,F⟩->zT P f ⟨d.ps,d.rs,b F⟩):zT P f d:=by
 have hN:∀ m,zT P f ⟨d.ps,d.rs,T.JE b m⟩:=by
  intro m
  induction m with
  | zero=>nofun
  | succ m ih=>exact h _ ih
 intro κ x zn y xm hy hI ha
 rw[hF,T.cI]at hy
 obtain⟨m,hm⟩:=hy
 exact hN m κ x zn y xm (hm m (Nat.le_refl _)) hI ha
theorem pG{fr:Fr}:∀ {n i:Nat} {ds:List D},Gt fr n i=some ds->ds.length=n/\∀ j d,ds[j]? = some d->fr.get (i+j)=some d
 | 0,i,ds,h=>by cases h; exact⟨rfl,λj d hj=>by grind⟩
 | n+1,i,ds,h=>by
  simp only[Gt]at h
  split at h
  ·rename_i d hd
   split at h
   ·rename_i r hr
    obtain⟨h1,h2⟩:=pG hr
    grind
   ·cases h
  ·cases h
theorem S2(hm:(vw P xid tab ro).P.follows .mixedOrders=true)(hT:jE P tab){f:Nat}{fn:Func}{code:Code}(hf:P.funcs[f]? = some fn)(hb:fn.body=some code)
  (hn:(fn.name == "runtime.NumGoroutine")=false) (hL:vr P fn.ntmps H code) {d:j3} (h:∀ x,KO (vw P xid tab ro) tab H fn code d x=d.F x):xA P f d:=by
 intro κ x zn y xm hy hI hlen Ir
 rw[<- h]at hy
 unfold KO at hy
 cases hle:Nat.ble d.ks.length fn.ntmps&&Nat.ble d.sh.bs.length d.out.bs.length with
 | false=>rw[hle]at hy; exact hy.elim
 | true =>
  rw[hle,cond_true]at hy
  simp only[Bool.and_eq_true]at hle
  have Br:=Nat.le_of_ble_eq_true hle.1
  have EV:=Nat.le_of_ble_eq_true hle.2
  refine .inl ⟨wc hf hn (by rw[hb]; rfl) κ.w,calls_of_wp hf hb ?_⟩
  have hR:Rel κ fn.ntmps (d.sh.fr x).get { tmps:=zn.toArray++Array.replicate (fn.ntmps-zn.toArray.size) undef,defers:=[] }:=by
   refine⟨by simp; omega,rfl,λs e hs => ?_⟩
   obtain⟨v,h1,h2⟩:=Ir.get s e hs
   grind
  refine fS hm hT code hL (κ:=κ) (by rw[xm]; exact hy) hI hR (yH _) _ λo bK a' κe e0 e1 e2 e3 e4 _ _ _ e6 => ?_
  have fin:(bK=.normal\/bK=.ret)->((ym (vw P xid tab ro) o.fr o.st fn.results.toList).bind λds=>bif Nat.beq ds.length d.nr then(d.out.un (xN ds 0) o.st).bind λy=>bif (ku d.nr (d.out.fr y)).isSome then T.ret y else .fail else .fail).leads y ->
    bodyPost P fn (λe w'=>∃ (κ':KS) (ds:List D),κ'.w=w'/\κ'.st=d.out.st y/\Inv κ'/\Ext κ κ'/\ku d.nr (d.out.fr y)=some ds/\xR κ' (.ret ds) e) bK a' κe.w:=by
   intro hex h2
   obtain⟨ds,g1,g2⟩:=T.zb.1 h2
   cases hnr:Nat.beq ds.length d.nr with
   | false=>rw[hnr]at g2; exact g2.elim
   | true =>
    rw[hnr,cond_true]at g2
    obtain⟨y',g5,g3⟩:=T.zb.1 g2
    cases gv:ku d.nr (d.out.fr y')with
    | none=>rw[gv]at g3; exact g3.elim
    | some Qm =>
     rw[gv]at g3
     have TM:y'=y:=g3
     subst TM
     rw[<- e1]at g1 g5
     obtain⟨vs,k1,k2⟩:=dD e2 e4 g1
     have hRr:Rel κe vs.length (xN ds 0).get { tmps:=vs.toArray,defers:=[] }:=by
      have:=nb (n:=vs.length) k2 (by rw[k2.1]; exact Nat.le_refl _)
      simpa[show(Qg.df:List Deferred)=[]from rfl]using this
     obtain⟨κ2,q1,q2,q3,q4,q5,_⟩:=d.out.oj (κ0:=κ) e3 e2 hRr (by rw[xm]; exact Nat.le_trans (vY.mS _ _) EV) g5
     obtain⟨l1,l2⟩:=pG gv
     have RL:qj κ2 Qm vs:=by
      refine⟨by rw[l1,<- k2.1]; exact(Nat.eq_of_beq_eq_true hnr).symm,λi h1 h2 => ?_⟩
      have:=l2 i Qm[i] (List.getElem?_eq_getElem h1)
      rw[Nat.zero_add]at this
      obtain⟨v,r1,r2⟩:=q5.get i _ this
      grind
     have iu:a'.defers=[]/\∃ v,(results fn a'.tmps).run P κe.w=.ok v κe.w/\∃ (κ':KS) (ds:List D),κ'.w=κe.w/\κ'.st=d.out.st y'/\Inv κ'/\Ext κ κ'/\ku d.nr (d.out.fr y')=some ds/\xR κ' (.ret ds) (.returned v) :=
      ⟨e4.defers,_,k1,κ2,Qm,q1,q2,q3,q4,gv,_,rfl,me RL⟩
     rcases hex with rfl | rfl
     ·exact iu
     ·exact iu
  cases hox:o.ex<;>rw[hox]at e0 e6<;>simp only at e0
  ·exact fin (.inl e6) e0
  ·exact e0.elim
  ·exact fin (.inr e6) e0
  ·exact e0.elim
theorem O5{d:j3}{f:Nat}(b:(d.sh.den->T d.out.den)->d.sh.den->T d.out.den)(hF:∀ x,d.F x=T.fix b x)(h:∀ F:d.sh.den->T d.out.den,xA P f ⟨d.ks,d.sh,d.ju,d.out,d.nr,F⟩->xA P f ⟨d.ks,d.sh,d.ju,d.out,d.nr,b F⟩):xA P f d:=by
 have hN:∀ m,xA P f ⟨d.ks,d.sh,d.ju,d.out,d.nr,T.JE b m⟩:=by
  intro m
  induction m with
  | zero=>nofun
  | succ m ih=>exact h _ ih
 intro κ x zn y xm hy hI hl ha
 rw[hF,T.cI]at hy
 obtain⟨m,hm⟩:=hy
 exact hN m κ x zn y xm (hm m (Nat.le_refl _)) hI hl ha
theorem Yy{κ κe:KS}{a':Act}{fn:Func}{o:YL}{nr:Nat}{out:vY}{y:out.den}(e1:κe.st=o.st)(e2:Inv κe)(e3:Ext κ κe)(e4:Rel κe fn.ntmps o.fr.get a')(hlen:κ.st.length<=out.bs.length)
  (h:((ym (vw P xid tab ro) o.fr o.st fn.results.toList).bind λds=>bif Nat.beq ds.length nr then(out.un (xN ds 0) o.st).bind λy=>bif (ku nr (out.fr y)).isSome then T.ret y else .fail else .fail).leads y) :
  ∃ v,(results fn a'.tmps).run P κe.w=.ok v κe.w/\∃ (κ':KS) (ds:List D),κ'.w=κe.w/\κ'.st=out.st y/\Inv κ'/\Ext κ κ'/\ku nr (out.fr y)=some ds/\xR κ' (.ret ds) (.returned v):=by
 obtain⟨ds,g1,g2⟩:=T.zb.1 h
 cases hnr:Nat.beq ds.length nr with
 | false=>rw[hnr]at g2; exact g2.elim
 | true =>
  rw[hnr,cond_true]at g2
  obtain⟨y',g5,g3⟩:=T.zb.1 g2
  cases gv:ku nr (out.fr y')with
  | none=>rw[gv]at g3; exact g3.elim
  | some Qm =>
   rw[gv]at g3
   have TM:y'=y:=g3
   subst TM
   rw[<- e1]at g1 g5
   obtain⟨vs,k1,k2⟩:=dD e2 e4 g1
   have hRr:Rel κe vs.length (xN ds 0).get { tmps:=vs.toArray,defers:=[] }:=by
    have:=nb (n:=vs.length) k2 (by rw[k2.1]; exact Nat.le_refl _)
    simpa[show(Qg.df:List Deferred)=[]from rfl]using this
   obtain⟨κ2,q1,q2,q3,q4,q5,_⟩:=out.oj (κ0:=κ) e3 e2 hRr hlen g5
   obtain⟨l1,l2⟩:=pG gv
   have RL:qj κ2 Qm vs:=by
    refine⟨by rw[l1,<- k2.1]; exact(Nat.eq_of_beq_eq_true hnr).symm,λi h1 h2 => ?_⟩
    have:=l2 i Qm[i] (List.getElem?_eq_getElem h1)
    rw[Nat.zero_add]at this
    obtain⟨v,r1,r2⟩:=q5.get i _ this
    grind
   exact⟨_,k1,κ2,Qm,q1,q2,q3,q4,gv,_,rfl,me RL⟩
theorem Sp{κ κe:KS}{jg:vY}{z:jg.den}{st:St}{t:Nat}{d:D}{u:Value}(e1:κe.st=st)(e2:Inv κe)(e3:Ext κ κe)(hlen:κ.st.length<=jg.bs.length)(hu:RD κe d u)
  (h:((jg.un [(0,some d)] st).bind λz=>match(jg.fr z).get 0 with | some _=>T.ret z | none=>.fail).leads z) :
  ∃ (κ':KS) (p:D),κ'.w=κe.w/\κ'.st=jg.st z/\Inv κ'/\Ext κ κ'/\(jg.fr z).get 0=some p/\xR κ' (.jg (.iface t p)) (.panicked [{ v:=.iface t u,recovered:=false }]):=by
 obtain⟨z',g1,g2⟩:=T.zb.1 h
 split at g2
 ·rename_i p hp
  have hzz:z'=z:=g2
  subst hzz
  have X7:Rel κe 1 (Fr.get [(0,some d)]) { tmps := #[u],defers:=[] }:=by
   refine⟨rfl,rfl,λs d' hd => ?_⟩
   simp only[Fr.get]at hd
   cases hb:Nat.beq 0 s with
   | true =>
    have:=Nat.eq_of_beq_eq_true hb
    grind
   | false=>grind
  rw[<- e1]at g1
  obtain⟨κ2,q1,q2,q3,q4,q5,_⟩:=jg.oj (κ0:=κ) e3 e2 X7 hlen g1
  obtain⟨v',r1,r2⟩:=q5.get 0 p hp
  cases r1
  exact⟨κ2,p,q1,q2,q3,q4,hp,_,rfl,.iface t p _ r2⟩
 ·exact g2.elim
theorem Ra(hm:(vw P xid tab ro).P.follows .mixedOrders=true)(hT:jE P tab){f:Nat}{fn:Func}{code:Code}(hf:P.funcs[f]? = some fn)(hb:fn.body=some code)
  (hn:(fn.name == "runtime.NumGoroutine")=false) (hL:vr P fn.ntmps H code) {d:bF} (h:∀ x,G6 (vw P xid tab ro) tab H fn code d x=d.F x):jk P f d:=by
 intro κ x zn y xm hy hI hlen Ir
 rw[<- h]at hy
 unfold G6 at hy
 cases hle:Nat.ble d.ks.length fn.ntmps&&Nat.ble d.sh.bs.length d.out.bs.length&&Nat.ble d.sh.bs.length d.jg.bs.length with
 | false=>rw[hle]at hy; exact hy.elim
 | true =>
  rw[hle,cond_true]at hy
  simp only[Bool.and_eq_true]at hle
  have Br:=Nat.le_of_ble_eq_true hle.1.1
  have EV:=Nat.le_of_ble_eq_true hle.1.2
  have z5p:=Nat.le_of_ble_eq_true hle.2
  refine .inl ⟨wc hf hn (by rw[hb]; rfl) κ.w,calls_of_wp hf hb ?_⟩
  have hR:Rel κ fn.ntmps (d.sh.fr x).get { tmps:=zn.toArray++Array.replicate (fn.ntmps-zn.toArray.size) undef,defers:=[] }:=by
   refine⟨by simp; omega,rfl,λs e hs => ?_⟩
   obtain⟨v,h1,h2⟩:=Ir.get s e hs
   grind
  refine fS hm hT code hL (κ:=κ) (by rw[xm]; exact hy) hI hR (yH _) _ λo bK a' κe e0 e1 e2 e3 e4 _ _ _ e6 => ?_
  have fin:(bK=.normal\/bK=.ret)->((ym (vw P xid tab ro) o.fr o.st fn.results.toList).bind λds=>bif Nat.beq ds.length d.nr then(d.out.un (xN ds 0) o.st).bind λy=>bif (ku d.nr (d.out.fr y)).isSome then T.ret (Sum.inl y:d.out.den⊕d.jg.den)else .fail else .fail).leads y ->
    bodyPost P fn (λe w'=>∃ κ':KS,κ'.w=w'/\Inv κ'/\Ext κ κ'/\((∃ (y':d.out.den) (ds:List D),y=.inl y'/\κ'.st=d.out.st y'/\ku d.nr (d.out.fr y')=some ds/\xR κ' (.ret ds) e) \/
     ∃ (z:d.jg.den) (p:D),y=.inr z/\κ'.st=d.jg.st z/\(d.jg.fr z).get 0=some p/\xR κ' (.jg (.iface d.pt p)) e)) bK a' κe.w:=by
   intro hex h2
   have:∃ y',y=.inl y'/\((ym (vw P xid tab ro) o.fr o.st fn.results.toList).bind λds=>bif Nat.beq ds.length d.nr then(d.out.un (xN ds 0) o.st).bind λy=>bif (ku d.nr (d.out.fr y)).isSome then T.ret y else .fail else .fail).leads y':=by
    obtain⟨ds,g1,g2⟩:=T.zb.1 h2
    cases hnr:Nat.beq ds.length d.nr with
    | false=>rw[hnr]at g2; exact g2.elim
    | true =>
     rw[hnr,cond_true]at g2
     obtain⟨y',g5,g3⟩:=T.zb.1 g2
     cases gv:ku d.nr (d.out.fr y')with
     | none=>rw[gv]at g3; exact g3.elim
     | some Qm =>
      rw[gv]at g3
      have g3:Sum.inl y'=y:=g3
      refine⟨y',g3.symm,T.zb.2 ⟨ds,g1,?_⟩⟩
      rw[hnr,cond_true]
      refine T.zb.2 ⟨y',g5,?_⟩
      rw[gv]; rfl
   obtain⟨y',rfl,Yp⟩:=this
   obtain⟨v,k1,κ',ds,q1,q2,q3,q4,q5,q6⟩:=Yy e1 e2 e3 e4 (by rw[xm]; exact Nat.le_trans (vY.mS _ _) EV) Yp
   have iu:a'.defers=[]/\∃ v,(results fn a'.tmps).run P κe.w=.ok v κe.w/\∃ κ':KS,κ'.w=κe.w/\Inv κ'/\Ext κ κ'/\((∃ (y'':d.out.den) (ds:List D),(Sum.inl y':d.out.den⊕d.jg.den)=.inl y''/\κ'.st=d.out.st y''/\ku d.nr (d.out.fr y'')=some ds/\xR κ' (.ret ds) (.returned v)) \/
     ∃ (z:d.jg.den) (p:D),(Sum.inl y':d.out.den⊕d.jg.den)=.inr z/\κ'.st=d.jg.st z/\(d.jg.fr z).get 0=some p/\xR κ' (.jg (.iface d.pt p)) (.returned v)) :=
    ⟨e4.defers,v,k1,κ',q1,q3,q4,.inl ⟨y',ds,rfl,q2,q5,q6⟩⟩
   rcases hex with rfl | rfl
   ·exact iu
   ·exact iu
  cases hox:o.ex<;>rw[hox]at e0 e6<;>simp only at e0
  ·exact fin (.inl e6) e0
  ·exact e0.elim
  ·exact fin (.inr e6) e0
  ·rename_i p
   cases p<;>simp only at e0<;>first | exact e0.elim | skip
   rename_i t v
   cases ht:Nat.beq t d.pt with
   | false=>rw[ht]at e0; exact e0.elim
   | true =>
    rw[ht,cond_true]at e0
    have:=Nat.eq_of_beq_eq_true ht
    subst this
    obtain⟨u,rfl,hv⟩:=e6
    cases hv with
    | iface _ _ u hu =>
     have:∃ z,y=.inr z/\((d.jg.un [(0,some v)] o.st).bind λz=>match(d.jg.fr z).get 0 with | some _=>T.ret z | none=>.fail).leads z:=by
      obtain⟨z,g1,g2⟩:=T.zb.1 e0
      split at g2
      ·rename_i p hp
       have g2:Sum.inr z=y:=g2
       refine⟨z,g2.symm,T.zb.2 ⟨z,g1,?_⟩⟩
       rw[hp]; rfl
      ·exact g2.elim
     obtain⟨z,rfl,hz2⟩:=this
     obtain⟨κ',p,q1,q2,q3,q4,q5,q6⟩:=Sp (t:=d.pt) e1 e2 e3 (by rw[xm]; exact Nat.le_trans (vY.mS _ _) z5p) hu hz2
     exact⟨e4.defers,κ',q1,q3,q4,.inr ⟨z,p,rfl,q2,q5,q6⟩⟩
theorem HG{d:bF}{f:Nat}(b:(d.sh.den->T (d.out.den⊕d.jg.den))->d.sh.den->T (d.out.den⊕d.jg.den))(hF:∀ x,d.F x=T.fix b x)(h:∀ F:d.sh.den->T (d.out.den⊕d.jg.den),jk P f ⟨d.ks,d.sh,d.ju,d.out,d.nr,d.pt,d.jg,F⟩->jk P f ⟨d.ks,d.sh,d.ju,d.out,d.nr,d.pt,d.jg,b F⟩):jk P f d:=by
 have hN:∀ m,jk P f ⟨d.ks,d.sh,d.ju,d.out,d.nr,d.pt,d.jg,T.JE b m⟩:=by
  intro m
  induction m with
  | zero=>nofun
  | succ m ih=>exact h _ ih
 intro κ x zn y xm hy hI hl ha
 rw[hF,T.cI]at hy
 obtain⟨m,hm⟩:=hy
 exact hN m κ x zn y xm (hm m (Nat.le_refl _)) hI hl ha
end
noncomputable def mA:Nat->Code->Option Code
 | k,.block id (.loop b)=>if k=id then some b else mA k b
 | k,.seq a b=>match mA k a with | some x=>some x | none=>mA k b
 | k,.cond _ a b=>match mA k a with | some x=>some x | none=>mA k b
 | k,.block _ a=>mA k a
 | _,_=>none
def Wg(P:Program)(n:Nat)(H:Hints):List (Nat×Code)->Prop
 | []=>True
 | p::r=>(∀ l,H.loop p.1=some l->nF P n l p.2)/\Wg P n H r
theorem zt{P:Program}{n:Nat}{H:Hints}:Wg P n H []:=trivial
theorem qW{P:Program}{n:Nat}{H:Hints}{id:Nat}{b:Code}{r:List (Nat×Code)}{l:qp}(hl:H.loop id=some l)(h:nF P n l b)(t:Wg P n H r):Wg P n H ((id,b)::r) :=
 ⟨λl' Lu=>(Option.some.inj (hl.symm.trans Lu))▸h,t⟩
theorem nY{P:Program}{n:Nat}{H:Hints}{code:Code}{L:List (Nat×Code)}(h:qU code=L)(ha:Wg P n H L):vr P n H code:=by
 intro p hp
 rw[h]at hp
 clear h
 induction L with
 | nil=>cases hp
 | cons q r ih =>
  rcases List.mem_cons.1 hp with rfl | hp
  ·exact ha.1
  ·exact ih ha.2 hp
end Go.AM
namespace Go.AM
set_option linter.unusedSectionVars false
variable [vi]
open Go.RowKit Go.ChangeShapes
def YB:(τs:List Ty)->QA τs->yi (τs.map .ty)
 | [],_=>()
 | [_],x=>x.1
 | _::σ::r,x=>(x.1,YB (σ::r) x.2)
theorem W3:∀ (τs:List Ty) (x:QA τs),pB (τs.map .ty) (YB τs x)=RC τs x
 | [],_=>rfl
 | [_],_=>rfl
 | τ::σ::r,x=>congrArg (D.zx τ x.1 :: ·) (W3 (σ::r) x.2)
section
variable {H:Type} {enc:TypeId×Value->H} {P:Program} {xid m n:Nat}
theorem Rm{f:Nat}{fn:Func}(τs:List Ty){F:yi (τs.map .ty)->T (Gy [.bool])}(hS:zT P f ⟨τs.map .ty,[.bool],F⟩)(hf:P.funcs[f]? = some fn)(hbd:fn.body.isNone=false) (SK:(fn.name == "runtime.NumGoroutine")=false)
  (hl:laidOutB P=true) (xid m n:Nat) (hts:nd P fn.params.toList=true) (hτ:fn.params.toList.map (W6 P xid n)=τs.map some) (hx:Y0 P xid m=true)
  {bt:TypeId} (hr:fn.resultTypes = #[bt]) (hbt:P.underlying bt=some .bool) {s:ChangeSpec} (hv:s.vars=[]) (hs:∀ ds:List (DataW H),ds.length=τs.length->s.fn H ds={ results:=[.lit (.bool true)],args:=ds })
  (B:BI H) {lim:Nat} (law:∀ x:QA τs,wfL τs x->SR τs x<=lim->(F (YB τs x)).run=some true)
  {fresh handsOn:Bool} {W:World} {base:Nat} {args:Array Value} {ds gs:List (DataW H)} {before:List MemPlace}
  (QB:∀ (j:Nat) t v,fn.params[j]? = some t->args[j]? = some v->Value.okWide P W .any base t v)
  (hW:DataW.Whole enc P fn.params.toList s.vars false W args.toList ds gs before) (hk:B.bs (ds++gs)<=lim) (hG:mC W λk=>k<W.heap.size) :
  Calls P f args W λe W'=>∃ v,e=.returned v/\s.post enc P fn false fresh handsOn false W args v W':=by
 refine BZ (Ur.snd hS) hf hbd SK hl xid m n τs hts hτ hx hr hbt hv hs B (λx hw hb => ?_) QB hW hk hG
 have h:=T.xU.1 (law x hw hb)
 rw[<- W3 τs x]
 exact T.zb.2 ⟨YB τs x,Wp [] _ _,T.zb.2 ⟨true,h,rfl⟩⟩
end
end Go.AM