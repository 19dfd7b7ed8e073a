/-
  The abstract machine, part D: texts of our own, the same for each claim.
-/
import Derived.Test.YthhgaidlooddpaaGreatDoorAmA
import Derived.Lib.LaidTab
import Derived.Shelf.Vars
import Derived.Test.YthhgaidlooddpaaGreatDoorAmC
import Derived.OpenShut
import Derived.Test.YthhgaidlooddpaaGreatDoorAmB
import Derived.Lib.LazyBuf
set_option linter.unusedVariables false
namespace Go.AM
def GP(k:IntKind)(zs:List Int)(o:Obj):Prop:=∃ t fr,o=.cells (zs.map λz=>Value.int k z).toArray t fr
def KR(k:IntKind)(o:Obj):Prop:=∃ m t fr,o=.cells #[.int k m] t fr
theorem MU{P:Program}{w:World}{name:String}{k:IntKind}{zs:List Int}{g:Nat}(hg:P.globalNamed name=some g)(h:Lib.TabIs P w name k zs) :
  g<w.heap.size/\∃ o,w.heap[g]? = some o/\GP k zs o:=by
 unfold Lib.TabIs World.var? at h
 rw[hg]at h
 simp at h
 split at h
 ·rename_i cs t fr ho
  cases h
  exact⟨(Array.getElem?_eq_some_iff.1 ho).1,_,ho,t,fr,rfl⟩
 ·cases h
theorem z3V{P:Program}{w:World}{name:String}{k:IntKind}{zs:List Int}{g:Nat}(hg:P.globalNamed name=some g)(h:∃ o,w.heap[g]? = some o/\GP k zs o):Lib.TabIs P w name k zs:=by
 obtain⟨o,ho,t,fr,rfl⟩:=h
 unfold Lib.TabIs World.var?
 grind
theorem Ls{w:World}{k:IntKind}{g:Nat}(h:∃ o,w.heap[g]? = some o/\KR k o):∃ m,w.cell? ⟨g,0,none⟩=some (.int k m):=by
 obtain⟨o,ho,m,t,fr,rfl⟩:=h
 exact⟨m,by simp[World.cell?,ho]⟩
theorem Lv{P:Program}{w:World}{g:Nat}{t:TypeId}{zero:Array Value}{k:IntKind}
  (h:w.ShapedOpen P) (hg:g<P.globals.size)
  (h0:((begin P (λ_ _=>0) default).world.heap[g]?).bind Obj.row? = some (zero,t)) (hz:zero.size=1)
  (hb:P.buildable t=true) (hc:P.cellTypes P.depth t=some [t]) (hu:P.underlying t=some (.int k)):g<w.heap.size/\∃ o,w.heap[g]? = some o/\KR k o:=by
 obtain⟨m,hm⟩:=Go.Proofs.cell_of_shapedOpen_int h hg h0 hz hb hc hu
 obtain⟨cs,hh,hs,_⟩:=h.1 g zero t hg h0
 have hl:cs.size=1:=hs.trans hz
 refine⟨(Array.getElem?_eq_some_iff.1 hh).1,_,hh,m,t,(0,0),?_⟩
 have h1:w.cell? ⟨g,0,none⟩=some cs[0]:=by simp[World.cell?,hh]
 have:cs = #[.int k m]:=by
  grind
 rw[this]
theorem Iy{P:Program}{W:World}{name:String}{k:IntKind}{zs:List Int}{rest:List (String×DataW Unit)}{ps:List MemPlace}{g:Nat}{t e:TypeId}{n:Nat}
  (hg:P.globalNamed name=some g) (F2:(P.globals[g]?).map (·.type)=some t) (ht:P.underlying t=some (.array n e)) (he:P.underlying e=some (.int k)) (hce:P.cellsOf e=1) (hct:P.cellsOf t=n)
  (h:DataW.LaidVars P W ((name,Lib.tabData k zs)::rest) ps):g<W.heap.size/\∃ o,W.heap[g]? = some o/\GP k zs o:=by
 obtain⟨g',t',cs,fuel,p,q,hg',ht',z9p,hd,_,_⟩:=h
 refine MU hg ?_
 obtain rfl:=Option.some.inj (hg.symm.trans hg')
 obtain rfl:=Option.some.inj (F2.symm.trans ht')
 unfold Lib.TabIs
 rw[z9p,<- Lib.cells_of_tab ht he hce hct hd]
theorem J7{P:Program}{W:World}{x:String×DataW Unit}{rest:List (String×DataW Unit)}{ps:List MemPlace}(h:DataW.LaidVars P W (x::rest) ps):∃ q,DataW.LaidVars P W rest q:=by
 obtain⟨g',t',cs,fuel,p,q,hg',ht',z9p,hd,h1,_⟩:=h
 grind
end Go.AM
namespace Go.AM
open Go.RowKit
mutual
def bkE:Expr->Nat
 | .mk _ n s l=>1+((1+((List.length n.2.1+1)+((List.length n.2.2.1+1)+1)))+((List.length s+1)+((bkEs l+1)+1)))
def bkEs:List Expr->Nat
 | []=>0
 | e::r=>bkE e+bkEs r
end
def bX{α:Type}(f:α->Nat):List α->Nat
 | []=>0
 | x::r=>f x+bX f r
def bk:(τ:Ty)->den τ->Nat
 | .int _,_=>1
 | .bool,_=>1
 | .str,s=>List.length s+1
 | .sl e,l=>bX (bk e) l+1
 | .nil,_=>1
 | .cons a b,x=>bk a x.1+bk b x.2
 | .expr,x=>bkE x
theorem Ge{α:Type}(l:List α):bX (λ_=>1) l=l.length:=by induction l with | nil=>rfl | cons x r ih=>simp[bX]; omega
theorem SK(l:List Expr):bkEs l=bX (bk .expr) l:=by induction l with | nil=>rfl | cons x r ih=>simp[bkEs,bX,ih,bk]
theorem z05(x:Expr):bk tS x.Iz=bk .expr x:=by
 cases x with | mk k n s l =>
 simp only[bk,Expr.Iz,bkE,SK,Expr.num,Expr.name,Expr.kids,Ge]
mutual
def wfE:Expr->Prop
 | .mk k n s l=>(IntKind.i64.min<=k/\k<=IntKind.i64.max)/\((True/\((∀ x∈n.2.1,IntKind.u32.min<=x/\x<=IntKind.u32.max)/\((∀ x∈n.2.2.1,IntKind.u32.min<=x/\x<=IntKind.u32.max)/\True)))/\(List.length s<=maxLen/\(wfEs l/\True)))
def wfEs:List Expr->Prop
 | []=>True
 | e::r=>wfE e/\wfEs r
end
def wf:(τ:Ty)->den τ->Prop
 | .int k,n=>k.min<=n/\n<=k.max
 | .bool,_=>True
 | .str,s=>List.length s<=maxLen
 | .sl e,l=>∀ x∈l,wf e x
 | .nil,_=>True
 | .cons a b,x=>wf a x.1/\wf b x.2
 | .expr,x=>wfE x
theorem TS(l:List Expr):wfEs l↔∀ x∈l,wf .expr x:=by induction l with | nil=>simp[wfEs] | cons x r ih=>simp[wfEs,ih,wf]
theorem Ek(x:Expr):wf tS x.Iz↔wf .expr x:=by
 cases x with | mk k n s l=>simp only[wf,Expr.Iz,wfE,TS,Expr.kind,Expr.num,Expr.name,Expr.kids]
structure IV(H:Type) where
 b:DataW H->Nat
 bs:List (DataW H)->Nat
 str:∀ s,b (.lit (.string s))=s.length+1
 bool:∀ x,b (.lit (.bool x))=1
 int:∀ k n,b (.lit (.int k n))=1
 nil:b .nil=1
 slice:∀ x y,b (.slice x y)=bs x+bs y+1
 agg:∀ x,b (.agg x)=bs x+1
 zero:bs []=0
 cons:∀ x r,bs (x::r)=b x+bs r
section
variable (P:Program) (xid:Nat)
def Q6:Nat->List Field->Bool
 | _,[]=>true
 | o,f::r=>Nat.beq f.offset o&&Q6 (o+P.cellsOf f.type) r
def QM:Nat->List Field->Nat
 | o,[]=>o
 | o,f::r=>QM (o+P.cellsOf f.type) r
def UK:Nat->Nat->Option Ty
 | 0,_=>none
 | n+1,t=>bif Nat.beq t xid then some .expr else
  match P.underlying t with
  | some (.int k)=>some (.int k)
  | some .bool=>some .bool
  | some .string=>some .str
  | some (.slice e)=>match UK n e with | some a=>bif Nat.beq (P.cellsOf e) a.size&&Nat.blt 0 a.size then some (.sl a)else none | none=>none
  | some (.struct fs)=>bif Q6 P 0 fs.toList&&Nat.beq (QM P 0 fs.toList) (P.cellsOf t)then bR (fs.toList.map λf=>UK n f.type)else none
  | _=>none
def De(m:Nat):Bool:=match P.underlying xid with
 | some (.struct fs)=>Q6 P 0 fs.toList&&Nat.beq (QM P 0 fs.toList) (P.cellsOf xid)&&decide (bR (fs.toList.map λf=>UK P xid m f.type)=some tS)
 | some _=>false
 | none=>true
end
section
variable {H:Type} {enc:TypeId×Value->H} {P:Program} {w:World} {xid m:Nat} (B:IV H)
def XX(w:World)(B:IV H)(τ:Ty)(cs:List Value)(k:Nat):Prop:=∃ x:den τ,Rc w (λk=>k<w.heap.size) τ x cs/\wf τ x/\bk τ x<=k
theorem Qc{fuel:Nat}{cs:List Value}(ih:∀ n t τ cs d ps,UK P xid n t=some τ->DataW.trod enc P w 0 (λ_=>true) true fuel t cs=some (d,ps)->XX w B τ cs (B.b d)){n:Nat} :
  ∀ (fs:List Field) (o:Nat) (τ:Ty) (xs:List (DataW H×List MemPlace)),bR (fs.map λf=>UK P xid n f.type)=some τ->Q6 P o fs=true->QM P o fs=cs.length->xs.length=fs.length ->
   (∀ (i:Nat) (f:Field),fs[i]? = some f->DataW.trod enc P w 0 (λ_=>true) true fuel f.type ((cs.drop f.offset).take (P.cellsOf f.type))=xs[i]?)->XX w B τ (cs.drop o) (B.bs (xs.map (·.1))+1)
 | [],o,τ,xs,ht,_,he,hl,_=>by
  cases ht
  simp only[QM]at he
  obtain rfl:xs=[]:=List.eq_nil_of_length_eq_zero hl
  refine⟨(),?_,trivial,by simp[bk]⟩
  rw[he,List.drop_length]; exact .nil
 | f::r,o,τ,xs,ht,ho,he,hl,hx=>by
  cases xs with
  | nil=>simp at hl
  | cons x xs =>
  simp only[Q6,Bool.and_eq_true]at ho
  have MD:f.offset=o:=Nat.eq_of_beq_eq_true ho.1
  simp only[List.map_cons]at ht
  cases h1:UK P xid n f.type with
  | none=>rw[h1]at ht; cases ht
  | some a =>
   rw[h1]at ht
   simp only[bR]at ht
   cases h2:bR (r.map λf=>UK P xid n f.type)with
   | none=>grind
   | some b =>
    rw[h2]at ht
    cases ht
    obtain⟨x1,p1,p2,p3⟩:=ih n f.type a _ x.1 x.2 h1 (by have:=hx 0 f rfl; simpa using this)
    obtain⟨x2,q1,q2,q3⟩:=Qc ih r (o+P.cellsOf f.type) b xs h2 ho.2 he (by simpa using hl) (λi g hg=>by have:=hx (i+1) g (by simpa using hg); simpa using this)
    refine⟨(x1,x2),?_,⟨p2,q2⟩,?_⟩
    ·have e:cs.drop o=(cs.drop o).take (P.cellsOf f.type)++cs.drop (o+P.cellsOf f.type):=by
      conv=>lhs; rw[<- List.take_append_drop (P.cellsOf f.type) (cs.drop o)]
      simp
     rw[e]
     rw[MD]at p1
     exact .cons _ _ _ _ _ _ p1 q1
    ·simp only[bk,List.map_cons,B.cons]; omega
theorem JT{e:Ty}(k:Nat):∀ (n:Nat) (elems:List (DataW H×List MemPlace)) (g:Nat->List Value),elems.length=n->(∀ i,i<n->∃ d,elems[i]? = some d/\XX w B e (g i) (B.b d.1)) ->
  ∃ l:List (den e),l.length=n/\(∀ i (hi:i<l.length),Rc w (λk=>k<w.heap.size) e l[i] (g i))/\(∀ x∈l,wf e x)/\bX (bk e) l<=B.bs (elems.map (·.1))
 | 0,elems,g,hl,_=>by
  exact⟨[],rfl,λi hi=>absurd hi (Nat.not_lt_zero i),by simp,by simp[bX]⟩
 | n+1,elems,g,hl,h=>by
  cases elems with
  | nil=>simp at hl
  | cons y ys =>
   obtain⟨d,h1,x,h2,h3,h4⟩:=h 0 (by omega)
   simp at h1
   subst h1
   obtain⟨l,l1,l2,l3,l4⟩:=JT k n ys (λi=>g (i+1)) (by grind) λi hi=>by
    obtain⟨d,h1,h2⟩:=h (i+1) (by omega)
    exact⟨d,by grind,h2⟩
   refine⟨x::l,by grind,λi hi => ?_,λz hz => ?_,?_⟩
   ·grind
   ·grind
   ·simp only[bX,List.map_cons,B.cons]; omega
theorem L7(hx:De P xid m=true):∀ (fuel n t:Nat) (τ:Ty) (cs:List Value) (d:DataW H) (ps:List MemPlace),UK P xid n t=some τ->DataW.trod enc P w 0 (λ_=>true) true fuel t cs=some (d,ps)->XX w B τ cs (B.b d):=by
 intro fuel
 induction fuel with
 | zero=>nofun
 | succ fuel ih =>
  intro n t τ cs d ps ht h
  have struct:∀ (fs:Array Field) (k:Nat) (σ:Ty),P.underlying t=some (.struct fs)->(Q6 P 0 fs.toList&&Nat.beq (QM P 0 fs.toList) (P.cellsOf t))=true->bR (fs.toList.map λf=>UK P xid k f.type)=some σ->XX w B σ cs (B.b d):=by
   intro fs k σ hu ho hc
   simp only[Bool.and_eq_true]at ho
   obtain⟨xs,n',hn,hd,hl,RO,Xo⟩:=DataW.trod_struct hu h
   cases hn
   cases hd
   have:=Qc B (cs:=cs) (ih:=ih) fs.toList 0 σ xs hc ho.1 (by rw[Nat.eq_of_beq_eq_true ho.2,hl]) (by simpa using RO) (λi f hf=>Xo i f (by simpa using hf))
   rw[B.agg]
   grind
  cases n with
  | zero=>cases ht
  | succ n =>
   unfold UK at ht
   cases hb:Nat.beq t xid with
   | true =>
    rw[hb,cond_true]at ht
    cases ht
    have:=Nat.eq_of_beq_eq_true hb
    subst this
    unfold De at hx
    split at hx
    ·rename_i fs hu
     simp only[Bool.and_eq_true,decide_eq_true_eq]at hx
     obtain⟨x,h1,h2,h3⟩:=struct fs m tS hu (by simp[hx.1.1,hx.1.2]) hx.2
     refine⟨Expr.Dq x,.expr _ _ _ _ _ h1,?_,?_⟩
     ·exact(Ek (Expr.Dq x)).1 h2
     ·rw[<- z05 (Expr.Dq x)]; exact h3
    ·cases hx
    ·rename_i hu
     rw[DataW.trod_step]at h
     simp[DataW.trodStep,hu]at h
   | false =>
    rw[hb,cond_false]at ht
    split at ht
    ·rename_i k hu
     cases ht
     obtain⟨n',rfl,h2,h3⟩:=DataW.trod_int hu h
     cases h2
     simp only[Lit.wf,Bool.and_eq_true,decide_eq_true_eq]at h3
     exact⟨n',.int k n',h3,by simp[bk,B.int]⟩
    ·rename_i hu
     cases ht
     obtain⟨b,rfl,h2⟩:=DataW.trod_bool hu h
     cases h2
     exact⟨b,.bool b,trivial,by simp[bk,B.bool]⟩
    ·rename_i hu
     cases ht
     obtain⟨s,rfl,h2,h3⟩:=DataW.trod_string hu h
     cases h2
     refine⟨s.data.toList,?_,?_,?_⟩
     ·have:s=⟨s.data.toList.toArray⟩:=by cases s; simp
      exact .str _
     ·simp only[wf,Array.length_toList]; exact h3
     ·simp[bk,B.str]
    ·rename_i e hu
     split at ht
     ·rename_i a ha
      cases hc:Nat.beq (P.cellsOf e) a.size&&Nat.blt 0 a.size with
      | false=>grind
      | true =>
       rw[hc,cond_true]at ht
       cases ht
       simp only[Bool.and_eq_true]at hc
       have uo:P.cellsOf e=a.size:=Nat.eq_of_beq_eq_true hc.1
       have sE:0<a.size:=Nat.le_of_ble_eq_true hc.2
       rcases DataW.trod_slice hu h with⟨rfl,h2⟩ | ⟨p,len,cap,elems,rest,n',hn,rfl,hd,_,wM,_,hlen,hel,SG,_⟩
       ·cases h2
        exact⟨[],.eK a none,by simp[wf],by simp[bk,bX,B.nil]⟩
       ·cases hn
        cases hd
        by_cases h0:cap=0
        ·subst h0
         have:len=0:=by omega
         subst this
         exact⟨[],.eK a (some p),by simp[wf],by simp[bk,bX,B.slice]⟩
        ·rw[uo]at hel SG
         have z2H:p.block<w.heap.size/\p.spot=none:=by
          have first:∃ x,(w.cells? 0 p a.size)=some x:=by
           by_cases hl:len=0
           ·have:=(SG rfl).2 0 (by omega)
            cases hcc:w.cells? 0 p a.size with
            | some x=>simp
            | none =>
             have e0:p.add ((0+0)*a.size)=p:=by simp[Addr.add]
             grind
           ·have:=hel 0 (by omega)
            cases hcc:w.cells? 0 p a.size with
            | some x=>simp
            | none =>
             have e0:p.add (0*a.size)=p:=by simp[Addr.add]
             grind
          obtain⟨x,hx⟩:=first
          refine⟨World.cells?_block hx sE,?_⟩
          have h2:=(World.cells?_some hx).2
          have h3:=h2.2 0 sE
          have e0:p.add 0=p:=rfl
          cases hs:p.spot with
          | none=>rfl
          | some q =>
           unfold World.cell? at h3
           grind
         obtain⟨blk,off,sp⟩:=p
         obtain⟨OM,mW⟩:=z2H
         subst mW
         have hg:∀ i,∃ c:List Value,i<len->∃ d,elems[i]? = some d/\XX w B a c (B.b d.1)/\w.cells? 0 ⟨blk,off+i*a.size,none⟩ a.size=some c:=by
          intro i
          by_cases hi:i<len
          ·have:=hel i hi
           rw[vc]at this
           cases hcc:w.cells? 0 ⟨blk,off+i*a.size,none⟩ a.size with
           | none =>
            grind
           | some c =>
            refine⟨c,λ_=>⟨elems[i]'(by omega),by simp,?_,rfl⟩⟩
            grind
          ·exact⟨[],λh=>absurd h hi⟩
         let g:Nat->List Value:=λi=>Classical.choose (hg i)
         have hg':∀ i,i<len->∃ d,elems[i]? = some d/\XX w B a (g i) (B.b d.1)/\w.cells? 0 ⟨blk,off+i*a.size,none⟩ a.size=some (g i):=λi hi=>Classical.choose_spec (hg i) hi
         obtain⟨l,l1,l2,l3,l4⟩:=JT B (w:=w) (e:=a) 0 len elems g hlen λi hi=>by
          grind
         refine⟨l,?_,l3,?_⟩
         ·have:=Rc.sl (w:=w) (ok:=λk=>k<w.heap.size) a l blk off cap g OM (by omega) l2 λi hi j v hj=>by
           obtain⟨d,_,_,h3⟩:=hg' i (by omega)
           obtain⟨_,k2,k3⟩:=World.cells?_some h3
           have Mh:j<(g i).length:=(List.getElem?_eq_some_iff.1 hj).1
           have:=k3 j (by omega)
           rw[vc,hj]at this
           exact this
          grind
         ·simp only[bk,B.slice]; omega
     ·cases ht
    ·rename_i fs hu
     cases hc:Q6 P 0 fs.toList&&Nat.beq (QM P 0 fs.toList) (P.cellsOf t)with
     | false=>grind
     | true =>
      rw[hc,cond_true]at ht
      exact struct fs n τ hu hc ht
    ·cases ht
end
end Go.AM
namespace Go.AM
set_option linter.unusedSectionVars false
variable [vz]
open Go.RowKit Go.ChangeShapes
def VV:List Ty->Type
 | []=>Unit
 | τ::r=>den τ×VV r
def mkD:(τs:List Ty)->VV τs->List D
 | [],_=>[]
 | τ::r,x=>.zD τ x.1::mkD r x.2
def wfL:(τs:List Ty)->VV τs->Prop
 | [],_=>True
 | τ::r,x=>wf τ x.1/\wfL r x.2
def bkL:(τs:List Ty)->VV τs->Nat
 | [],_=>0
 | τ::r,x=>bk τ x.1+bkL r x.2
def tL(P:Program)(ts:List Nat):Bool:=ts.all λt=>P.readableRec t&&decide (t<P.types.size)
section
variable {H:Type} {enc:TypeId×Value->H} {P:Program} {xid m n:Nat} {w:World}
theorem z2O{t:Nat}{τ:Ty}{v:Value}{base:Nat}(ht:UK P xid n t=some τ)(hx:De P xid m=true)(h:Value.okWide P w .any base t v):pk τ v.cells.toList=v:=by
 cases n with
 | zero=>cases ht
 | succ n =>
  have agg:∀ fs:Array Field,P.underlying t=some (.struct fs)->τ.isAgg=true->pk τ v.cells.toList=v:=by
   intro fs hu ha
   unfold Value.okWide at h
   rw[hu]at h
   obtain⟨cs,rfl,_⟩:=h
   simp[pk,ha,Value.cells]
  unfold UK at ht
  cases hb:Nat.beq t xid with
  | true =>
   rw[hb,cond_true]at ht
   cases ht
   have:=Nat.eq_of_beq_eq_true hb
   subst this
   unfold De at hx
   split at hx
   ·rename_i fs hu; exact agg fs hu rfl
   ·cases hx
   ·rename_i hu
    unfold Value.okWide at h
    rw[hu]at h
    simp[Cell.okWide,Cell.ok,hu]at h
  | false =>
   rw[hb,cond_false]at ht
   split at ht
   ·rename_i k hu
    cases ht
    unfold Value.okWide at h
    rw[hu]at h
    simp only[Cell.okWide,hu,Cell.ok]at h
    split at h<;>simp_all [pk,Ty.isAgg,Value.cells]
   ·rename_i hu
    cases ht
    unfold Value.okWide at h
    rw[hu]at h
    simp only[Cell.okWide,hu,Cell.ok]at h
    split at h<;>simp_all [pk,Ty.isAgg,Value.cells]
   ·rename_i hu
    cases ht
    unfold Value.okWide at h
    rw[hu]at h
    simp only[Cell.okWide,hu,Cell.ok]at h
    split at h<;>simp_all [pk,Ty.isAgg,Value.cells]
   ·rename_i e hu
    have h1:τ.isAgg=false:=by
     split at ht
     ·rename_i a ha
      cases hc:Nat.beq (P.cellsOf e) a.size&&Nat.blt 0 a.size with
      | false=>grind
      | true=>rw[hc,cond_true]at ht; cases ht; rfl
     ·cases ht
    unfold Value.okWide at h
    rw[hu]at h
    simp only[Cell.okWide,hu,Cell.ok]at h
    split at h<;>simp_all [pk,Value.cells]
   ·rename_i fs hu
    refine agg fs hu ?_
    cases hc:Q6 P 0 fs.toList&&Nat.beq (QM P 0 fs.toList) (P.cellsOf t)with
    | false=>grind
    | true =>
     rw[hc,cond_true]at ht
     have key:∀ (l:List (Option Ty)),bR l=some τ->τ.isAgg=true:=by
      intro l hl
      cases l with
      | nil=>cases hl; rfl
      | cons a r =>
       cases a with
       | none=>cases hl
       | some a =>
        simp only[bR]at hl
        cases h2:bR r with
        | none=>grind
        | some b=>rw[h2]at hl; cases hl; rfl
     grind
   ·cases ht
theorem He(B:IV H)(hx:De P xid m=true){base:Nat}:∀ (ts:List TypeId) (τs:List Ty) (vs:List Value) (ds:List (DataW H)) (ps:List MemPlace),ts.map (UK P xid n)=τs.map some ->
  DataW.TrodAll enc P w 0 (λ_=>true) true ts vs ds ps->(∀ (j:Nat) t v,ts[j]? = some t->vs[j]? = some v->Value.okWide P w .any base t v) ->
  ∃ x:VV τs,qA ⟨w,λk=>k<w.heap.size,[],[]⟩ (mkD τs x) vs/\wfL τs x/\bkL τs x<=B.bs ds/\ds.length=τs.length
 | [],τs,vs,ds,ps,ht,h,_=>by
  cases τs with
  | cons=>cases ht
  | nil =>
   cases vs<;>cases ds<;>simp only[DataW.TrodAll]at h
   exact⟨(),⟨rfl,λi h1=>absurd h1 (Nat.not_lt_zero i)⟩,trivial,Nat.zero_le _,rfl⟩
 | t::ts,τs,vs,ds,ps,ht,h,hv=>by
  cases τs with
  | nil=>cases ht
  | cons τ τs =>
   simp at ht
   cases vs with
   | nil=>simp[DataW.TrodAll]at h
   | cons v vs =>
    cases ds with
    | nil=>simp[DataW.TrodAll]at h
    | cons d ds =>
     obtain⟨p,q,⟨fuel,h1⟩,h2,_⟩:=h
     obtain⟨x,k1,k2,k3⟩:=L7 B hx fuel n t τ _ d p ht.1 h1
     obtain⟨y,g1,g2,g3,g4⟩:=He B hx ts τs vs ds q ht.2 h2 λj t v a b=>hv (j+1) t v (by grind) (by grind)
     refine⟨(x,y),⟨by simp only[mkD,List.length_cons]; rw[g1.1],λi h1 h2 => ?_⟩,⟨k2,g2⟩,?_,by grind⟩
     ·cases i with
      | zero =>
       have:=RD.zD (κ:=⟨w,λk=>k<w.heap.size,[],[]⟩) τ x _ k1
       rw[z2O ht.1 hx (hv 0 t v rfl rfl)]at this
       exact this
      | succ i=>exact g1.2 i (by simpa[mkD]using h1) (by grind)
     ·simp only[bkL,B.cons]; omega
theorem UX(hl:laidOutB P=true){W W':World}(hb:Below W.heap.size W W'):∀ (ts:List TypeId) (vs:List Value) (ds:List (DataW H)) (ps:List MemPlace),tL P ts=true ->
  DataW.TrodAll enc P W 0 (λ_=>true) true ts vs ds ps->(∀ x∈ps,x.block<W.heap.size)->DataW.TrodAll enc P W' 0 (λb=>decide (b<W.heap.size)) true ts vs ds ps
 | [],vs,ds,ps,_,h,_=>by cases vs<;>cases ds<;>simp_all [DataW.TrodAll]
 | t::ts,vs,ds,ps,ht,h,qs=>by
  cases vs with
  | nil=>simp[DataW.TrodAll]at h
  | cons v vs =>
   cases ds with
   | nil=>simp[DataW.TrodAll]at h
   | cons d ds =>
    obtain⟨p,q,h1,h2,rfl⟩:=h
    simp only[tL,List.all_cons,Bool.and_eq_true,decide_eq_true_eq]at ht
    exact⟨p,q,Below.trod hl ht.1.1 ht.1.2 h1 hb λx hx=>qs x (by grind),UX hl hb ts vs ds q (by simpa[tL]using ht.2) h2 λx hx=>qs x (by grind),rfl⟩
end
theorem L0{H:Type}{enc:TypeId×Value->H}{P:Program}{f:Nat}{fn:Func}{S:List D->St->T (Ku×St)}(hS:YB P f S)(hf:P.funcs[f]? = some fn)(hbd:fn.body.isNone=false) (hnm:(fn.name == "runtime.NumGoroutine")=false)
  (hl:laidOutB P=true) (xid m n:Nat) (τs:List Ty) (hts:tL P fn.params.toList=true) (hτ:fn.params.toList.map (UK P xid n)=τs.map some) (hx:De P xid m=true)
  {bt:TypeId} (hr:fn.resultTypes = #[bt]) (hbt:P.underlying bt=some .bool) {s:ChangeSpec} (hv:s.vars=[]) (hs:∀ ds:List (DataW H),ds.length=τs.length->s.fn H ds={ results:=[.lit (.bool true)],args:=ds })
  (B:IV H) {lim:Nat} (law:∀ x:VV τs,wfL τs x->bkL τs x<=lim->(S (mkD τs x) []).leads (.ret [.zD .bool true],[]))
  {fresh handsOn:Bool} {W:World} {base:Nat} {args:Array Value} {ds gs:List (DataW H)} {before:List MemPlace}
  (VZ:∀ (j:Nat) t v,fn.params[j]? = some t->args[j]? = some v->Value.okWide P W .any base t v)
  (hW:DataW.Whole enc P fn.params.toList s.vars false W args.toList ds gs before) (hk:B.bs (ds++gs)<=lim) (hG:rU W λk=>k<W.heap.size) :
  Calls P f args W λe W'=>∃ v,e=.returned v/\s.post enc P fn false fresh handsOn false W args v W':=by
 have hW':=hW
 obtain⟨p,q,hA,hV,rfl,hfz,Dy⟩:=hW
 rw[hv]at hV
 obtain⟨rfl,rfl⟩:=trodVars_none hV
 simp only[List.append_nil]at hk hW'
 obtain⟨x,h1,h2,h3,h4⟩:=He (n:=n) B hx fn.params.toList τs args.toList ds p hτ hA λj t v a b=>VZ j t v (by grind) (by grind)
 have hI:Inv ⟨W,λk=>k<W.heap.size,[],[]⟩ :=
  ⟨rfl,λk hk=>hk,λb blk n h=>by grind,λb b' blk n n' h=>by simp at h,λb x h=>by simp at h,hG⟩
 have z2h:=hS ⟨W,λk=>k<W.heap.size,[],[]⟩ (mkD τs x) args.toList _ _ (law x h2 (Nat.le_trans h3 hk)) hI h1
 rw[Array.toArray_toList]at z2h
 have key:Calls P f args W λe w'=>∃ κ':KS,κ'.w=w'/\κ'.st=[]/\Inv κ'/\Ext ⟨W,λk=>k<W.heap.size,[],[]⟩ κ'/\wc κ' (.ret [.zD .bool true]) e:=by
  rcases z2h with⟨_,h⟩ | ⟨v,w',h,_⟩
  ·exact h
  ·have:=wz (args:=args) hf hnm hbd W
   grind
 refine key.mono λe W' ⟨κ',e1,_,_,e4,v,e5,e6⟩ => ?_
 subst e1
 have hb:Below W.heap.size W κ'.w:=⟨e4.os,e4.tape,e4.output,e4.size,λk hk=>e4.frame k hk λb n h=>by simp at h⟩
 have hv':v=.bool true:=by
  obtain⟨cs,g1,g2⟩:=RD.gb (show RD κ' (.zD .bool true) v from e6)
  rw[g1.jq]at g2
  exact g2
 subst hv'
 have qs:∀ x∈p,x.block<W.heap.size:=λx hx=>by simpa using hW'.lt x hx
 refine⟨_,e5,ds,[],p,[],p,[],hW',?_,?_,?_,hb.frame _,λh=>by cases h⟩
 ·rw[List.append_nil,hs ds h4,hr]
  exact trodAll_cons_mk (shut_bool hbt _) trodAll_mk0
 ·rw[List.append_nil,hs ds h4]
  exact UX hl hb _ _ _ _ hts hA qs
 ·rw[List.append_nil,hs ds h4,hv]
  rfl
end Go.AM
namespace Go.AM
def YD:List Ty->Type
 | []=>Unit
 | [τ]=>den τ
 | τ::σ::r=>den τ×YD (σ::r)
def Zm.ty:Zm->Ty | .rp τ=>τ | .im τ=>τ
def gm:List Zm->Type
 | []=>Unit
 | [p]=>den p.ty
 | p::q::r=>den p.ty×gm (q::r)
def J3:(p:Zm)->den p.ty->D
 | .rp τ,x=>.qN τ x
 | .im τ,x=>.zD τ x
def lz:(l:List Zm)->gm l->List D
 | [],_=>[]
 | [p],x=>[J3 p x]
 | p::q::r,x=>J3 p x.1::lz (q::r) x.2
def Hu:(l:List Zm)->gm l
 | []=>()
 | [p]=>zj p.ty
 | p::q::r=>(zj p.ty,Hu (q::r))
inductive Sk where
 | im (τ:Ty) | row (b:Nat) (e:Ty) | op (b T:Nat) | un
def bP:List Sk->Type
 | []=>Unit
 | .im τ::r=>den τ×bP r
 | .row _ _::r=>bP r
 | .op _ _::r=>bP r
 | .un::r=>bP r
def Z8:(l:List Sk)->bP l
 | []=>()
 | .im τ::r=>(zj τ,Z8 r)
 | .row _ _::r=>Z8 r
 | .op _ _::r=>Z8 r
 | .un::r=>Z8 r
inductive Mc where
 | im (τ:Ty) | rp (τ:Ty) | pt (b:Nat)
def lI:List Mc->Type
 | []=>Unit
 | .im τ::r=>den τ×lI r
 | .rp τ::r=>den τ×lI r
 | .pt _::r=>lI r
def Xn:(l:List Mc)->lI l
 | []=>()
 | .im τ::r=>(zj τ,Xn r)
 | .rp τ::r=>(zj τ,Xn r)
 | .pt _::r=>Xn r
def pY:(l:List Mc)->lI l->List D
 | [],_=>[]
 | .im τ::r,x=>.zD τ x.1::pY r x.2
 | .rp τ::r,x=>.qN τ x.1::pY r x.2
 | .pt b::r,x=>.ptr b 0::pY r x
inductive Dk where
 | zD (τ:Ty) | qN (τ:Ty) | sub (b:Nat) (e:Ty) | qS (f:Nat) (caps:List Zm) | st (ks:List Sk) | mclo (f:Nat) (ms:List Mc)
inductive Ck where
 | ptr (b off:Nat) | cur (b:Nat) (e:Ty) | xo | kG | qP | qS (f:Nat) (l:List (Nat×Nat))
inductive Bk where
 | var (k:Dk) | cvar (k:Ck) | arr (e:Ty) | dead
def Dk.den:Dk->Type
 | .zD τ=>AM.den τ
 | .qN τ=>AM.den τ
 | .sub _ _=>Nat×Nat
 | .qS _ caps=>gm caps
 | .st ks=>bP ks
 | .mclo _ ms=>lI ms
def Dk.zj:(k:Dk)->k.den
 | .zD τ=>AM.zj τ
 | .qN τ=>AM.zj τ
 | .sub _ _=>(0,0)
 | .qS _ caps=>Hu caps
 | .st ks=>Z8 ks
 | .mclo _ ms=>Xn ms
inductive It where
 | s (t:Nat) (k:Dk) | v (k:Dk) | a (e:Ty)
def It.den:It->Type
 | .s _ k=>k.den
 | .v k=>k.den
 | .a e=>List (AM.den e)
def It.zj:(i:It)->i.den
 | .s _ k=>k.zj
 | .v k=>k.zj
 | .a _=>[]
def wC:List It->Type
 | []=>Unit
 | [i]=>i.den
 | i::j::r=>i.den×wC (j::r)
def z5w:jW->Nat
 | .arr v _ _=>v
 | _=>0
def xM(st:St)(b:Nat):Nat:=match st[b]? with | some x=>z5w x | none=>0
def wL(st:St):(l:List Sk)->bP l->List D
 | [],_=>[]
 | .im τ::r,x=>AM.flat τ x.1++wL st r x.2
 | .row b e::r,x=>.ms b (xM st b) e 0 (xM st b)::wL st r x
 | .op b T::r,x=>.kf b T::wL st r x
 | .un::r,x=>.pK::wL st r x
def p9(st:St):(k:Dk)->k.den->D
 | .zD τ,x=>.zD τ x
 | .qN τ,x=>.qN τ x
 | .sub b e,x=>.ms b (xM st b) e x.1 x.2
 | .qS f caps,x=>.qS f (lz caps x)
 | .st ks,x=>.agg (wL st ks x)
 | .mclo f ms,x=>.qS f (pY ms x)
def Bg(st:St):Ck->D
 | .ptr b off=>.ptr b off
 | .cur b e=>.ms b (xM st b) e 0 (xM st b)
 | .xo=>.xo
 | .kG=>.kG
 | .qP=>.qP
 | .qS f l=>.qS f (l.map λp=>.ptr p.1 p.2)
def dn(st:St):(l:List It)->wC l->Fr
 | [],_=>[]
 | [.s t k],x=>[(t,some (p9 st k x))]
 | [.v _],_=>[]
 | [.a _],_=>[]
 | .s t k::j::r,x=>(t,some (p9 st k x.1))::dn st (j::r) x.2
 | .v _::j::r,x=>dn st (j::r) x.2
 | .a _::j::r,x=>dn st (j::r) x.2
def z3i(st:St)(l:List (Nat×Ck)):Fr:=l.map λp=>(p.1,some (Bg st p.2))
inductive Bd where
 | v (k:Dk) (x:k.den) | a (e:Ty) (x:List (AM.den e))
def iQ:(l:List It)->wC l->List Bd
 | [],_=>[]
 | [.s _ _],_=>[]
 | [.v k],x=>[.v k x]
 | [.a e],x=>[.a e x]
 | .s _ _::j::r,x=>iQ (j::r) x.2
 | .v k::j::r,x=>.v k x.1::iQ (j::r) x.2
 | .a e::j::r,x=>.a e x.1::iQ (j::r) x.2
def ga:List Bk->List Bd->St
 | [],_=>[]
 | .arr _::r,.a e x::d=>.arr x.length e x::ga r d
 | .var _::r,_::d=>.dead::ga r d
 | .cvar _::r,d=>.dead::ga r d
 | .dead::r,d=>.dead::ga r d
 | _::_,_=>[]
def vj(st:St):List Bk->List Bd->St
 | [],_=>[]
 | .arr _::r,.a e x::d=>.arr x.length e x::vj st r d
 | .var _::r,.v k x::d=>.var (p9 st k x)::vj st r d
 | .cvar c::r,d=>.var (Bg st c)::vj st r d
 | .dead::r,d=>.dead::vj st r d
 | _::_,_=>[]
def zdd(bs:List Bk)(d:List Bd):St:=vj (ga bs d) bs d
structure vH where
 mm:List It
 cs:List (Nat×Ck)
 bs:List Bk
def vH.den(s:vH):Type:=wC s.mm
def vH.st(s:vH)(x:s.den):St:=zdd s.bs (iQ s.mm x)
def vH.fr(s:vH)(x:s.den):Fr:=dn (s.st x) s.mm x++z3i (s.st x) s.cs
def DJ:(p:Zm)->D->Option (den p.ty)
 | .rp τ,d=>match d with | .qN _ x=>wv x | _=>none
 | .im τ,d=>cN τ d
def D8:(l:List Zm)->List D->Option (gm l)
 | [],[]=>some ()
 | [p],[d]=>DJ p d
 | p::q::r,d::ds=>(DJ p d).bind λx=>(D8 (q::r) ds).bind λy=>some (x,y)
 | _,_=>none
def gD(st:St)(b:Nat):Nat:=match st[b]? with | some (.arr _ _ xs)=>xs.length | _=>0
def Of(st:St)(b T:Nat)(ds:List D):Option (List D):=match st[b]? with
 | some (.var _)=>match ds with
  | .bj T'::ds=>bif Nat.beq T T' then some ds else none
  | .kf b' T'::ds=>bif Nat.beq b b'&&Nat.beq T T' then some ds else none
  | _=>none
 | _=>none
def z3c(ds:List D):Option (List D):=match ds with
 | d::ds=>bif d.one then some ds else none
 | _=>none
def eJ(st:St):(l:List Sk)->List D->T (bP l)
 | [],ds=>match ds with | []=>.ret () | _=>.fail
 | .im τ::r,ds=>match uS τ ds with | some p=>(eJ st r p.2).bind λy=>.ret (p.1,y) | none=>.fail
 | .row b e::r,ds=>match ds with
  | .ms b' qw e' off len::ds=>bif Nat.beq b b'&&decide (e=e')then .zA (vX qw off len (gD st b)) (eJ st r ds)else .fail
  | _=>.fail
 | .op b T::r,ds=>match Of st b T ds with | some q=>eJ st r q | none=>.fail
 | .un::r,ds=>match z3c ds with | some q=>eJ st r q | none=>.fail
def Qq:(l:List Mc)->List D->T (lI l)
 | [],ds=>match ds with | []=>.ret () | _=>.fail
 | .im τ::r,ds=>match ds with
  | d::ds=>match cN τ d with | some y=>(Qq r ds).bind λz=>.ret (y,z) | none=>.fail
  | _=>.fail
 | .rp τ::r,ds=>match ds with
  | .qN _ x::ds=>match(wv x:Option (AM.den τ))with | some y=>(Qq r ds).bind λz=>.ret (y,z) | none=>.fail
  | _=>.fail
 | .pt b::r,ds=>match ds with
  | .ptr b' off::ds=>bif Nat.beq b b'&&Nat.beq off 0 then Qq r ds else .fail
  | _=>.fail
def sg(st:St):(k:Dk)->D->T k.den
 | .zD τ,d=>.Js (cN τ d)
 | .qN τ,d=>match d with | .qN _ x=>.Js (wv x) | _=>.fail
 | .sub b e,d=>match d with
  | .ms b' qw e' off len=>bif Nat.beq b b'&&decide (e=e')then .zA (qw=xM st b) (.ret (off,len))else .fail
  | _=>.fail
 | .qS f caps,d=>match d with
  | .qS f' l=>bif Nat.beq f f' then .Js (D8 caps l)else .fail
  | _=>.fail
 | .st ks,d=>bif d.bI then eJ st ks (qe d)else .fail
 | .mclo f ms,d=>match d with
  | .qS f' l=>bif Nat.beq f f' then Qq ms l else .fail
  | _=>.fail
def rq:List (Nat×Nat)->List D->Bool
 | [],[]=>true
 | p::r,.ptr b off::ds=>Nat.beq p.1 b&&Nat.beq p.2 off&&rq r ds
 | _,_=>false
def QW(st:St):Ck->D->T Unit
 | .ptr b off,d=>match d with | .ptr b' off'=>bif Nat.beq b b'&&Nat.beq off off' then .ret ()else .fail | _=>.fail
 | .cur b e,d=>match d with
  | .ms b' qw e' off len=>bif Nat.beq b b'&&decide (e=e')then .zA (vX qw off len (gD st b)) (.ret ())else .fail
  | _=>.fail
 | .xo,d=>match d with | .xo=>.ret () | _=>.fail
 | .kG,d=>match d with | .kG=>.ret () | _=>.fail
 | .qP,d=>match d with | .qP=>.ret () | _=>.fail
 | .qS f l,d=>match d with | .qS f' l'=>bif Nat.beq f f'&&rq l l' then .ret ()else .fail | _=>.fail
def z0S(fr:Fr)(st:St):List (Nat×Ck)->T Unit
 | []=>.ret ()
 | p::r=>match fr.get p.1 with
  | some d=>(QW st p.2 d).bind λ_=>z0S fr st r
  | none=>.fail
def Pv(e:Ty)(b:jW):T (List (den e)):=match b with
 | .arr qw _ xs=>match(wv (a:=.sl _) (b:=.sl e) xs:Option (List (den e)))with
  | some ys=>.zA (qw=ys.length) (.ret ys)
  | none=>.fail
 | _=>.fail
def Dk.plain:Dk->Bool
 | .zD _=>true
 | .qN _=>true
 | .st _=>true
 | _=>false
def Nh(st:St)(k:Dk)(b:jW):T k.den:=match b with
 | .var d=>bif k.plain then sg st k d else .fail
 | _=>.fail
def CB:jW->Bool | .var _=>true | _=>false
def Ug(st:St):List Bk->List jW->T (List jW)
 | [],_=>.ret []
 | .arr _::r,b::bl=>(Ug st r bl).bind λl=>.ret (b::l)
 | .var _::r,b::bl=>(Ug st r bl).bind λl=>.ret (b::l)
 | .cvar c::r,.var d::bl=>(QW st c d).bind λ_=>Ug st r bl
 | .dead::r,b::bl=>bif CB b then .fail else Ug st r bl
 | _,_=>.fail
def Gj(fr:Fr)(st:St)(bl:List jW):(i:It)->T (i.den×List jW)
 | .s t k=>match fr.get t with | some d=>(sg st k d).bind λx=>.ret (x,bl) | none=>.fail
 | .v k=>match bl with | b::r=>(Nh st k b).bind λx=>.ret (x,r) | []=>.fail
 | .a e=>match bl with | b::r=>(Pv e b).bind λx=>.ret (x,r) | []=>.fail
def H5{α:Type}(x:α×List jW):T α:=match x.2 with | []=>.ret x.1 | _=>.fail
def JL(fr:Fr)(st:St):(l:List It)->List jW->T (wC l)
 | [],bl=>H5 ((),bl)
 | [i],bl=>(Gj fr st bl i).bind H5
 | i::j::r,bl=>(Gj fr st bl i).bind λx=>(JL fr st (j::r) x.2).bind λy=>.ret (x.1,y)
def rowAt(bs:List Bk)(b:Nat):Bool:=match bs[b]? with | some (.arr _)=>true | _=>false
def Q3(bs:List Bk)(b:Nat):Bool:=match bs[b]? with | some (.var _)=>true | some (.cvar _)=>true | _=>false
def z18(bs:List Bk):Sk->Bool
 | .row b _=>rowAt bs b
 | .op b _=>Q3 bs b
 | _=>true
def z6X(bs:List Bk):Mc->Bool
 | .pt b=>Q3 bs b
 | _=>true
def HU(bs:List Bk):Dk->Bool
 | .mclo _ ms=>ms.all (z6X bs)
 | .sub b _=>rowAt bs b
 | .st ks=>ks.all (z18 bs)
 | _=>true
def IL(bs:List Bk):Ck->Bool
 | .ptr b _=>Q3 bs b
 | .cur b _=>rowAt bs b
 | .qS _ l=>l.all λp=>Q3 bs p.1
 | _=>true
def zdk(bs:List Bk):It->Bool
 | .s _ k=>HU bs k
 | .v k=>HU bs k
 | .a _=>true
def zdG(bs:List Bk):Bk->Bool
 | .cvar c=>IL bs c
 | _=>true
def kinds:List It->List Bool
 | []=>[]
 | .s _ _::r=>kinds r
 | .v _::r=>false::kinds r
 | .a _::r=>true::kinds r
def y7:List Bk->List Bool->Bool
 | [],[]=>true
 | .arr _::bs,b::r=>b&&y7 bs r
 | .var _::bs,b::r => !b&&y7 bs r
 | .cvar _::bs,l=>y7 bs l
 | .dead::bs,l=>y7 bs l
 | _,_=>false
def vH.ok(s:vH):Bool:=y7 s.bs (kinds s.mm)&&s.mm.all (zdk s.bs)&&s.cs.all (λp=>IL s.bs p.2)&&s.bs.all (zdG s.bs)
def vH.un(s:vH)(fr:Fr)(st:St):T s.den :=
 bif s.ok&&(st.take s.bs.length).all (Kz s.bs.length)then(z0S fr st s.cs).bind λ_=>(Ug st s.bs st).bind λbl=>JL fr st s.mm bl
 else .fail
structure Way where
 ex:Ex
 sh:vH
def yL:List Way->Type
 | []=>Empty
 | [w]=>w.sh.den
 | w::v::r=>w.sh.den⊕yL (v::r)
def Fp{α:Type}:(l:List Way)->yL l->(Ex->Fr->St->T α)->T α
 | [],x,_=>nomatch x
 | [w],x,k=>k w.ex (w.sh.fr x) (w.sh.st x)
 | w::v::r,x,k=>Sum.elim (λa=>k w.ex (w.sh.fr a) (w.sh.st a)) (λb=>Fp (v::r) b k) x
def nR:Ex->Ex->Bool
 | .normal,.normal=>true
 | .ret,.ret=>true
 | .exit a,.exit b=>Nat.beq a b
 | .kb (.iface t _),.kb (.iface t' _)=>Nat.beq t t'
 | _,_=>false
def Uw:Ex->Fr->Fr
 | .kb (.iface _ d),_=>[(0,some d)]
 | _,fr=>fr
def Bc:Ex->Fr->Option (Ex×Fr)
 | .kb (.iface t _),fr=>match fr.get 0 with | some d=>some (.kb (.iface t d),[]) | none=>none
 | .kb _,_=>none
 | e,fr=>some (e,fr)
def Yh:(l:List Way)->Ex->Fr->St->T (yL l)
 | [],_,_,_=>.fail
 | [w],ex,fr,st=>bif nR w.ex ex then w.sh.un fr st else .fail
 | w::v::r,ex,fr,st=>bif nR w.ex ex then(w.sh.un fr st).bind λx=>.ret (.inl x)else(Yh (v::r) ex fr st).bind λy=>.ret (.inr y)
end Go.AM
namespace Go.AM
set_option linter.unusedSectionVars false
variable [vz] [VW]
section
variable {c:Ctx} {n:Nat}
theorem get_mem:∀ {l:Fr} {s:Nat} {d:D},l.get s=some d->(s,some d)∈l
 | [],s,d,h=>by cases h
 | (t,d')::r,s,d,h=>by
  simp only[Fr.get]at h
  cases ht:Nat.beq t s with
  | true =>
   rw[ht,cond_true]at h
   rw[Nat.eq_of_beq_eq_true ht,h]
   simp
  | false=>rw[ht,cond_false]at h; exact List.mem_cons_of_mem _ (get_mem h)
theorem get_append{l m:Fr}{s:Nat}{d:D}(h:(l++m).get s=some d):(s,some d)∈l\/m.get s=some d:=by
 induction l with
 | nil=>grind
 | cons p r ih =>
  obtain⟨t,d'⟩:=p
  simp only[List.cons_append,Fr.get]at h
  cases ht:Nat.beq t s with
  | true=>rw[ht,cond_true]at h; rw[Nat.eq_of_beq_eq_true ht,h]; exact .inl List.mem_cons_self
  | false=>grind
structure Wk(κ κ':KS):Prop where
 w:κ'.w=κ.w
 ok:κ'.ok=κ.ok
 ph:κ'.ph=κ.ph
 len:κ'.st.length=κ.st.length
 var:∀ (b:Nat) (d:D),κ.st[b]? = some (jW.var d)->∃ d',κ'.st[b]? = some (jW.var d')
 arr:∀ (b v:Nat) (e:Ty) (xs:List (den e)),κ.st[b]? = some (jW.arr v e xs)->κ'.st[b]? = some (jW.arr v e xs)\/κ'.st[b]? = some jW.dead
 arr':∀ (b v:Nat) (e:Ty) (xs:List (den e)),κ'.st[b]? = some (jW.arr v e xs)->κ.st[b]? = some (jW.arr v e xs)
 dead:∀ (b:Nat),κ.st[b]? = some jW.dead->κ'.st[b]? = some jW.dead
theorem Wk.ext{κ κ':KS}(h:Wk κ κ'):Ext κ κ':=by
 refine⟨by rw[h.w],by rw[h.w],by rw[h.w],by rw[h.w]; exact Nat.le_refl _,λk hk=>⟨by rw[h.ok]; exact hk,by rw[h.w]⟩,λk hk=>.inl (by rw[<- h.ok]; exact hk),
  λb blk m hb=>.inl (by rw[<- h.ph]; exact hb),λb d hd=>⟨h.var b d hd,by rw[h.ph]⟩,λb v0 e xs hb => ?_,h.dead,by rw[h.len]; exact Nat.le_refl _,λk _ _=>by rw[h.w]⟩
 rcases h.arr b v0 e xs hb with g | g
 ·exact .inr ⟨v0,xs,g,Nat.le_refl _,λ_=>⟨by rw[h.ph],rfl⟩⟩
 ·grind
theorem Wk.rd{κ κ':KS}(h:Wk κ κ'){d:D}{v:Value}(hd:RD κ d v):RD κ' d v:=hd.mono h.ext
theorem Wk.inv{κ κ':KS}(h:Wk κ κ')(hI:Inv κ)(hv:∀ (b:Nat) (d:D),κ'.st[b]? = some (jW.var d)->cS κ' b (.var d)):Inv κ':=by
 refine⟨by rw[h.ph,h.len]; exact hI.len,λk hk=>by rw[h.w]; exact hI.y4 k (by rw[<- h.ok]; exact hk),λb blk m hb => ?_,λb b' blk m m' hb Km=>hI.inj b b' blk m m' (by rw[<- h.ph]; exact hb) (by rw[<- h.ph]; exact Km),λb x hx => ?_,hI.gl.mono h.ext.same⟩
 ·obtain⟨g1,g2⟩:=hI.apart b blk m (by rw[<- h.ph]; exact hb)
  exact⟨by rw[h.w]; exact g1,λhk=>g2 (by rw[<- h.ok]; exact hk)⟩
 ·cases x with
  | dead=>trivial
  | var d=>grind
  | arr v e xs=>exact(hI.blk b _ (h.arr' b v e xs hx)).mono h.ext (by rw[h.ph]) λblk m _=>by rw[h.w]
theorem Vm{p:Zm}{d:D}{x:den p.ty}(h:DJ p d=some x){κ:KS}{v:Value}(hd:RD κ d v):RD κ (J3 p x) v:=by
 cases p with
 | rp τ =>
  cases d<;>simp only[DJ]at h<;>try (cases h; done)
  obtain⟨e,hx⟩:=qj h
  cases e
  cases hx
  exact hd
 | im τ=>exact gX hd h
theorem ZT{κ:KS}:∀ (l:List Zm) (ds:List D) (x:gm l) (vs:List Value),D8 l ds=some x->qA κ ds vs->qA κ (lz l x) vs
 | [],[],x,vs,_,hd=>by rw[hd.qc]; exact .nil
 | [],_::_,_,_,h,_=>nomatch h
 | [p],[],_,_,h,_=>nomatch h
 | [p],[d],x,vs,h,hd=>by
  obtain⟨v,us,rfl,h1,h2⟩:=hd.cons_inv
  rw[h2.qc]
  exact .cons (Vm h h1) .nil
 | [p],_::_::_,_,_,h,_=>nomatch h
 | p::q::r,[],_,_,h,_=>nomatch h
 | p::q::r,d::ds,x,vs,h,hd=>by
  obtain⟨y,hy,h⟩:=Option.bind_eq_some_iff.1 h
  obtain⟨z,hz,h⟩:=Option.bind_eq_some_iff.1 h
  cases h
  obtain⟨v,us,rfl,h1,h2⟩:=hd.cons_inv
  exact .cons (Vm hy h1) (ZT (q::r) ds z us hz h2)
theorem PF{κ:KS}{d:D}{v:Value}(hd:RD κ d v)(ha:d.bI=true):∃ c,v=.agg c:=by
 cases hd with
 | zD τ x cs h=>exact⟨cs.toArray,by unfold pk; rw[show τ.isAgg=true from ha]; rfl⟩
 | agg l vs hl ho h=>simp
 | _=>cases ha
theorem z0A{κ:KS}{b T:Nat}{ds q:List D}{vs:List Value}(hd:qA κ ds vs)(h:Of κ.st b T ds=some q):∃ v us,vs=v::us/\RD κ (.kf b T) v/\qA κ q us:=by
 unfold Of at h
 split at h
 ·rename_i d0 Xb
  split at h
  ·rename_i T' ds
   cases hb:Nat.beq T T' with
   | false=>grind
   | true =>
    rw[hb]at h
    cases h
    obtain⟨v,us,rfl,g1,g2⟩:=hd.cons_inv
    exact⟨v,us,rfl,by cases g1; exact .bC b T d0 Xb,g2⟩
  ·rename_i b' T' ds
   cases hb:Nat.beq b b'&&Nat.beq T T' with
   | false=>grind
   | true =>
    simp only[Bool.and_eq_true]at hb
    have e1:=Nat.eq_of_beq_eq_true hb.1
    have e2:=Nat.eq_of_beq_eq_true hb.2
    obtain⟨v,us,rfl,g1,g2⟩:=hd.cons_inv
    grind
  ·cases h
 ·cases h
theorem CE{st:St}{b T:Nat}{ds q:List D}(h:Of st b T ds=some q):yR ds=some T:=by
 unfold Of at h
 split at h
 ·split at h
  ·rename_i T' ds
   cases hb:Nat.beq T T' with
   | false=>grind
   | true=>rw[Nat.eq_of_beq_eq_true hb]; rfl
  ·rename_i b' T' ds
   cases hb:Nat.beq b b'&&Nat.beq T T' with
   | false=>grind
   | true =>
    simp only[Bool.and_eq_true]at hb
    rw[Nat.eq_of_beq_eq_true hb.2]; rfl
  ·cases h
 ·cases h
theorem z19{κ:KS}{ds q:List D}{vs:List Value}(hd:qA κ ds vs)(h:z3c ds=some q):∃ v us,vs=v::us/\RD κ .pK v/\qA κ q us:=by
 unfold z3c at h
 split at h
 ·rename_i d ds
  cases hb:d.one with
  | false=>grind
  | true =>
   rw[hb]at h
   cases h
   obtain⟨v,us,rfl,g1,g2⟩:=hd.cons_inv
   exact⟨v,us,rfl,.pK v (g1.Xi hb),g2⟩
 ·cases h
theorem cz{κ:KS}{zq:St}{bs:List Bk}(Uo:∀ b,rowAt bs b=true->xM zq b=gD κ.st b):∀ (ks:List Sk) (ds:List D) (x:bP ks) (vs:List Value),ks.all (z18 bs)=true->(eJ κ.st ks ds).leads x->qA κ ds vs ->
  qA κ (wL zq ks x) vs/\∀ d∈wL zq ks x,d.one=true
 | [],ds,x,vs,_,h,hd=>by
  cases ds with
  | nil=>exact⟨hd,λd hm=>by cases hm⟩
  | cons d r=>exact h.elim
 | .im τ::r,ds,x,vs,ho,h,hd=>by
  simp only[eJ]at h
  split at h
  ·rename_i p hp
   obtain⟨y,h1,h2⟩:=T.zd.1 h
   cases h2
   obtain⟨c1,c2,rfl,g1,g2⟩:=nY τ hd hp
   simp only[List.all_cons,Bool.and_eq_true]at ho
   obtain⟨k1,k2⟩:=cz Uo r p.2 y c2 ho.2 h1 g2
   refine⟨(mK g1).append k1,λd hm => ?_⟩
   rcases List.mem_append.1 (show d∈flat τ p.1++wL zq r y from hm)with hm | hm
   ·exact dF τ _ d hm
   ·grind
  ·exact h.elim
 | .row b e::r,ds,x,vs,ho,h,hd=>by
  cases ds with
  | nil=>exact h.elim
  | cons d ds =>
   cases d<;>simp only[eJ]at h<;>try (exact h.elim)
   rename_i b' qw e' off len
   cases hb:Nat.beq b b'&&decide (e=e')with
   | false=>rw[hb]at h; exact h.elim
   | true =>
    rw[hb,cond_true]at h
    simp only[Bool.and_eq_true,decide_eq_true_eq]at hb
    obtain⟨⟨h1,h2,h3⟩,h⟩:=h
    have:=Nat.eq_of_beq_eq_true hb.1
    obtain⟨-,rfl⟩:=hb
    subst this
    obtain⟨v,us,rfl,g1,g2⟩:=hd.cons_inv
    simp only[List.all_cons,Bool.and_eq_true]at ho
    obtain⟨k1,k2⟩:=cz Uo r ds x us ho.2 h g2
    have e1:wL zq (.row b e::r) x=.ms b qw e off len::wL zq r x:=by
     show D.ms b (xM zq b) e 0 (xM zq b)::_=_
     rw[Uo b ho.1,h1,h2,h3]
    rw[e1]
    refine⟨.cons g1 k1,λd hm => ?_⟩
    rcases List.mem_cons.1 hm with rfl | hm
    ·rfl
    ·grind
 | .op b T::r,ds,x,vs,ho,h,hd=>by
  simp only[List.all_cons,Bool.and_eq_true]at ho
  simp only[eJ]at h
  split at h
  ·rename_i q hq
   obtain⟨v,us,rfl,g0,g2⟩:=z0A hd hq
   obtain⟨k1,k2⟩:=cz Uo r q x us ho.2 h g2
   refine⟨show qA κ (D.kf b T::wL zq r x) (v::us)from .cons g0 k1,λd hm => ?_⟩
   rcases List.mem_cons.1 (show d∈D.kf b T::wL zq r x from hm)with rfl | hm
   ·rfl
   ·grind
  ·exact h.elim
 | .un::r,ds,x,vs,ho,h,hd=>by
  simp only[List.all_cons,Bool.and_eq_true]at ho
  simp only[eJ]at h
  split at h
  ·rename_i q hq
   obtain⟨v,us,rfl,g0,g2⟩:=z19 hd hq
   obtain⟨k1,k2⟩:=cz Uo r q x us ho.2 h g2
   refine⟨show qA κ (D.pK::wL zq r x) (v::us)from .cons g0 k1,λd hm => ?_⟩
   rcases List.mem_cons.1 (show d∈D.pK::wL zq r x from hm)with rfl | hm
   ·rfl
   ·grind
  ·exact h.elim
theorem mw{st zq:St}{bs:List Bk}(h:∀ b,rowAt bs b=true->xM st b=xM zq b):∀ (ks:List Sk) (x:bP ks),ks.all (z18 bs)=true->wL st ks x=wL zq ks x
 | [],_,_=>rfl
 | .im τ::r,x,ho=>by
  simp only[List.all_cons,Bool.and_eq_true]at ho
  show flat τ x.1++wL st r x.2=flat τ x.1++wL zq r x.2
  rw[mw h r x.2 ho.2]
 | .row b e::r,x,ho=>by
  simp only[List.all_cons,Bool.and_eq_true]at ho
  show D.ms b (xM st b) e 0 (xM st b)::wL st r x=D.ms b (xM zq b) e 0 (xM zq b)::wL zq r x
  rw[mw h r x ho.2,h b ho.1]
 | .op b T::r,x,ho=>by
  simp only[List.all_cons,Bool.and_eq_true]at ho
  show D.kf b T::wL st r x=D.kf b T::wL zq r x
  rw[mw h r x ho.2]
 | .un::r,x,ho=>by
  simp only[List.all_cons,Bool.and_eq_true]at ho
  show D.pK::wL st r x=D.pK::wL zq r x
  rw[mw h r x ho.2]
theorem W3:∀ (τ:Ty) (x:den τ),∀ y∈flat τ x,∃ σ z,y=.zD σ z:=by
 intro τ x y hy
 induction τ with
 | cons a b ia ib =>
  simp only[flat]at hy
  grind
 | nil=>simp[flat]at hy
 | expr=>simp[flat]at hy; rcases hy with rfl | rfl | rfl | rfl | rfl | rfl<;>exact⟨_,_,rfl⟩
 | _=>simp[flat]at hy; subst hy; exact⟨_,_,rfl⟩
theorem Ke:∀ (τ:Ty) {ds:List D} {p:den τ×List D},uS τ ds=some p->τ.size=0->p.2=ds:=by
 intro τ
 induction τ with
 | nil=>intro ds p h _; simp only[uS,Option.some.injEq]at h; subst h; rfl
 | cons a b ia ib =>
  intro ds p h hz
  simp only[Ty.size]at hz
  simp only[uS]at h
  grind
 | _=>nofun
theorem Ql{st zq:St}{tt:Nat}:∀ (ks:List Sk) (ds:List D) (x:bP ks),(eJ st ks ds).leads x->yR (wL zq ks x)=some tt->yR ds=some tt
 | [],ds,x,h,ht=>by cases ht
 | .im τ::r,ds,x,h,ht=>by
  simp only[eJ]at h
  split at h
  ·rename_i p hp
   obtain⟨y,h1,h2⟩:=T.zd.1 h
   cases h2
   have ht':yR (flat τ p.1++wL zq r y)=some tt:=ht
   cases hf:flat τ p.1 with
   | nil =>
    rw[hf]at ht'
    have hz:τ.size=0:=by rw[<- sL τ p.1,hf]; rfl
    have:=Ke τ hp hz
    rw[<- this]
    exact Ql r p.2 y h1 ht'
   | cons z zs =>
    rw[hf]at ht'
    obtain⟨σ,w,e⟩:=W3 τ p.1 z (by grind)
    rw[e]at ht'
    cases ht'
  ·exact h.elim
 | .row b e::r,ds,x,h,ht=>by cases ht
 | .op b T'::r,ds,x,h,ht=>by
  simp only[eJ]at h
  split at h
  ·rename_i q hq
   cases ht
   exact CE hq
  ·exact h.elim
 | .un::r,ds,x,h,ht=>by cases ht
theorem Qh{d:D}{T:Nat}(ha:d.bI=true)(h:yR (qe d)=some T):d.typed=some T:=by
 cases d with
 | zD τ x =>
  simp only[qe]at h
  cases hf:flat τ x with
  | nil=>rw[hf]at h; cases h
  | cons z zs =>
   obtain⟨σ,w,e⟩:=W3 τ x z (by grind)
   rw[hf,e]at h
   cases h
 | agg l=>exact h
 | _=>cases ha
theorem Y1{m:Nat}(τ:Ty)(x:den τ):∀ d∈flat τ x,vu m d=true:=λd hd=>by
 obtain⟨σ,z,rfl⟩:=W3 τ x d hd
 rfl
theorem jR{m:Nat}{st:St}{bs:List Bk}(hb:∀ b,rowAt bs b=true->b<m)(PW:∀ b,Q3 bs b=true->b<m):∀ (ks:List Sk) (x:bP ks),ks.all (z18 bs)=true->∀ d∈wL st ks x,vu m d=true
 | [],_,_,d,hd=>by cases hd
 | .im τ::r,x,ho,d,hd=>by
  simp only[List.all_cons,Bool.and_eq_true]at ho
  rcases List.mem_append.1 (show d∈flat τ x.1++wL st r x.2 from hd)with hd | hd
  ·exact Y1 τ _ d hd
  ·exact jR hb PW r x.2 ho.2 d hd
 | .row b e::r,x,ho,d,hd=>by
  simp only[List.all_cons,Bool.and_eq_true]at ho
  rcases List.mem_cons.1 (show d∈D.ms b (xM st b) e 0 (xM st b)::wL st r x from hd)with rfl | hd
  ·have:=hb b ho.1
   simp only[vu,Nat.blt,Nat.ble_eq]; exact this
  ·exact jR hb PW r x ho.2 d hd
 | .op b T::r,x,ho,d,hd=>by
  simp only[List.all_cons,Bool.and_eq_true]at ho
  rcases List.mem_cons.1 (show d∈D.kf b T::wL st r x from hd)with rfl | hd
  ·have:=PW b ho.1
   simp only[vu,Nat.blt,Nat.ble_eq]; exact this
  ·exact jR hb PW r x ho.2 d hd
 | .un::r,x,ho,d,hd=>by
  simp only[List.all_cons,Bool.and_eq_true]at ho
  rcases List.mem_cons.1 (show d∈D.pK::wL st r x from hd)with rfl | hd
  ·rfl
  ·exact jR hb PW r x ho.2 d hd
theorem od{κ:KS}:∀ (ms:List Mc) (ds:List D) (x:lI ms) (vs:List Value),(Qq ms ds).leads x->qA κ ds vs->qA κ (pY ms x) vs
 | [],ds,x,vs,h,hd=>by
  cases ds with
  | nil=>exact hd
  | cons d r=>exact h.elim
 | .im τ::r,ds,x,vs,h,hd=>by
  cases ds with
  | nil=>exact h.elim
  | cons d ds =>
   simp only[Qq]at h
   split at h
   ·rename_i y hy
    obtain⟨z,h1,h2⟩:=T.zd.1 h
    cases h2
    obtain⟨v,us,rfl,g1,g2⟩:=hd.cons_inv
    exact .cons (gX g1 hy) (od r ds z us h1 g2)
   ·exact h.elim
 | .rp τ::r,ds,x,vs,h,hd=>by
  cases ds with
  | nil=>exact h.elim
  | cons d ds =>
   cases d<;>simp only[Qq]at h<;>try (exact h.elim)
   split at h
   ·rename_i y hy
    obtain⟨e,hx⟩:=qj hy
    cases e
    cases hx
    obtain⟨z,h1,h2⟩:=T.zd.1 h
    cases h2
    obtain⟨v,us,rfl,g1,g2⟩:=hd.cons_inv
    exact .cons g1 (od r ds z us h1 g2)
   ·exact h.elim
 | .pt b::r,ds,x,vs,h,hd=>by
  cases ds with
  | nil=>exact h.elim
  | cons d ds =>
   cases d<;>simp only[Qq]at h<;>try (exact h.elim)
   rename_i b' off
   cases hb:Nat.beq b b'&&Nat.beq off 0 with
   | false=>rw[hb]at h; exact h.elim
   | true =>
    rw[hb]at h
    simp only[Bool.and_eq_true]at hb
    have e1:=Nat.eq_of_beq_eq_true hb.1
    have e2:=Nat.eq_of_beq_eq_true hb.2
    subst e1 e2
    obtain⟨v,us,rfl,g1,g2⟩:=hd.cons_inv
    exact .cons g1 (od r ds x us h g2)
theorem cd{m:Nat}{bs:List Bk}(hb:∀ b,Q3 bs b=true->b<m):∀ (ms:List Mc) (x:lI ms),ms.all (z6X bs)=true->∀ d∈pY ms x,vu m d=true
 | [],_,_,d,hd=>by cases hd
 | .im τ::r,x,ho,d,hd=>by
  simp only[List.all_cons,Bool.and_eq_true]at ho
  rcases List.mem_cons.1 (show d∈D.zD τ x.1::pY r x.2 from hd)with rfl | hd
  ·rfl
  ·exact cd hb r x.2 ho.2 d hd
 | .rp τ::r,x,ho,d,hd=>by
  simp only[List.all_cons,Bool.and_eq_true]at ho
  rcases List.mem_cons.1 (show d∈D.qN τ x.1::pY r x.2 from hd)with rfl | hd
  ·rfl
  ·exact cd hb r x.2 ho.2 d hd
 | .pt b::r,x,ho,d,hd=>by
  simp only[List.all_cons,Bool.and_eq_true]at ho
  rcases List.mem_cons.1 (show d∈D.ptr b 0::pY r x from hd)with rfl | hd
  ·have:=hb b ho.1
   simp only[vu,Nat.blt,Nat.ble_eq]; exact this
  ·exact cd hb r x ho.2 d hd
theorem Yj{κ κ':KS}(hw:Wk κ κ'){k:Dk}{d:D}{x:k.den}{v:Value}{bs:List Bk}(w7:HU bs k=true)(Uo:∀ b,rowAt bs b=true->xM κ'.st b=xM κ.st b)
  {zq:St} (xE:∀ b,rowAt bs b=true->xM zq b=xM κ'.st b) (hlen:∀ b,rowAt bs b=true->xM κ.st b=gD κ.st b) (h:(sg κ.st k d).leads x) (hd:RD κ d v):RD κ' (p9 zq k x) v:=by
 cases k with
 | zD τ=>exact hw.rd (gX hd (T.vM.1 h))
 | qN τ =>
  cases d<;>simp only[sg]at h<;>try (exact h.elim)
  obtain⟨e,hx⟩:=qj (T.vM.1 h)
  cases e
  cases hx
  exact hw.rd hd
 | sub b e =>
  cases d<;>simp only[sg]at h<;>try (exact h.elim)
  rename_i b' qw e' off len
  cases hb:Nat.beq b b'&&decide (e=e')with
  | false=>rw[hb]at h; exact h.elim
  | true =>
   rw[hb,cond_true]at h
   simp only[Bool.and_eq_true,decide_eq_true_eq]at hb
   obtain⟨hv,h⟩:=h
   cases h
   have:=Nat.eq_of_beq_eq_true hb.1
   obtain⟨-,rfl⟩:=hb
   subst this
   simp only[p9]
   rw[xE b w7,Uo b w7,<- hv]
   exact hw.rd hd
 | qS f caps =>
  cases d<;>simp only[sg]at h<;>try (exact h.elim)
  rename_i f' l
  cases hb:Nat.beq f f' with
  | false=>rw[hb]at h; exact h.elim
  | true =>
   rw[hb,cond_true]at h
   have:=Nat.eq_of_beq_eq_true hb
   subst this
   have hx:=T.vM.1 h
   cases hd with
   | qS _ _ vs hl hh =>
    have:=ZT caps l x vs hx (⟨hl,hh⟩:qA κ l vs)
    exact hw.rd (.qS f _ vs this.1 this.2)
 | st ks =>
  simp only[sg]at h
  cases ha:d.bI with
  | false=>rw[ha]at h; exact h.elim
  | true =>
   rw[ha]at h
   have ht:d.uj=false:=by cases d<;>first | rfl | (simp[D.bI]at ha)
   obtain⟨g1,g2⟩:=cz (zq:=zq) (λb hb=>(xE b hb).trans ((Uo b hb).trans (hlen b hb))) ks (qe d) x _ w7 h (uN hd ht)
   obtain⟨c,hc⟩:=PF hd ha
   subst hc
   have g1':qA κ (wL zq ks x) c.toList:=g1
   have:=RD.agg (κ:=κ) _ c.toList g1'.1 g2 g1'.2
   exact hw.rd (show RD κ (.agg (wL zq ks x)) (.agg c) by simpa using this)
 | mclo f ms =>
  cases d<;>simp only[sg]at h<;>try (exact h.elim)
  rename_i f' l
  cases hb:Nat.beq f f' with
  | false=>rw[hb]at h; exact h.elim
  | true =>
   rw[hb]at h
   have:=Nat.eq_of_beq_eq_true hb
   subst this
   cases hd with
   | qS _ _ vs hl hh =>
    have:=od ms l x vs h (⟨hl,hh⟩:qA κ l vs)
    exact hw.rd (show RD κ (.qS f (pY ms x)) _ from .qS f _ vs this.1 this.2)
theorem UQ:∀ {l:List (Nat×Nat)} {ds:List D},rq l ds=true->ds=l.map λp=>.ptr p.1 p.2
 | [],[],_=>rfl
 | [],_::_,h=>by simp[rq]at h
 | p::r,[],h=>by simp[rq]at h
 | p::r,d::ds,h=>by
  cases d<;>simp only[rq]at h<;>try (cases h; done)
  simp only[Bool.and_eq_true]at h
  rw[UQ h.2,<- Nat.eq_of_beq_eq_true h.1.1,<- Nat.eq_of_beq_eq_true h.1.2]
  rfl
theorem Tp{st zq:St}{ck:Ck}{d:D}{bs:List Bk}(w7:IL bs ck=true)(Uo:∀ b,rowAt bs b=true->xM zq b=gD st b)(h:(QW st ck d).leads ()):Bg zq ck=d:=by
 cases ck with
 | ptr b off =>
  cases d<;>simp only[QW]at h<;>try (exact h.elim)
  rename_i b' off'
  cases hb:Nat.beq b b'&&Nat.beq off off' with
  | false=>rw[hb]at h; exact h.elim
  | true =>
   simp only[Bool.and_eq_true]at hb
   rw[<- Nat.eq_of_beq_eq_true hb.1,<- Nat.eq_of_beq_eq_true hb.2]
   rfl
 | cur b e =>
  cases d<;>simp only[QW]at h<;>try (exact h.elim)
  rename_i b' qw e' off len
  cases hb:Nat.beq b b'&&decide (e=e')with
  | false=>rw[hb]at h; exact h.elim
  | true =>
   rw[hb,cond_true]at h
   simp only[Bool.and_eq_true,decide_eq_true_eq]at hb
   obtain⟨⟨h1,h2,h3⟩,_⟩:=h
   have:=Nat.eq_of_beq_eq_true hb.1
   obtain⟨-,rfl⟩:=hb
   subst this
   simp only[Bg]
   rw[Uo b w7,h1,h2,h3]
 | xo=>cases d<;>simp only[QW]at h<;>first | rfl | exact h.elim
 | kG=>cases d<;>simp only[QW]at h<;>first | rfl | exact h.elim
 | qP=>cases d<;>simp only[QW]at h<;>first | rfl | exact h.elim
 | qS f l =>
  cases d<;>simp only[QW]at h<;>try (exact h.elim)
  rename_i f' l'
  cases hb:Nat.beq f f'&&rq l l' with
  | false=>rw[hb]at h; exact h.elim
  | true =>
   simp only[Bool.and_eq_true]at hb
   rw[<- Nat.eq_of_beq_eq_true hb.1,UQ hb.2]
   rfl
theorem GN{fr:Fr}{st:St}:∀ {cs:List (Nat×Ck)},(z0S fr st cs).leads ()->∀ p∈cs,∃ d,fr.get p.1=some d/\(QW st p.2 d).leads ()
 | [],_,p,hp=>by cases hp
 | q::r,h,p,hp=>by
  simp only[z0S]at h
  split at h
  ·rename_i d hd
   simp only[T.zy]at h
   obtain⟨⟨⟩,h1,h2⟩:=h
   rcases List.mem_cons.1 hp with rfl | hp
   ·grind
   ·exact GN h2 p hp
  ·exact h.elim
def Iv(p:Dk->Bool)(st:St):List jW->List Bd->Prop
 | [],[]=>True
 | b::bl,.a e xs::r=>b=.arr xs.length e xs/\Iv p st bl r
 | b::bl,.v k x::r=>(∃ d,b=.var d/\(k.plain=true/\p k=true)/\(sg st k d).leads x)/\Iv p st bl r
 | _,_=>False
theorem Ps{e:Ty}{b:jW}{x:List (den e)}(h:(Pv e b).leads x):b=.arr x.length e x:=by
 unfold Pv at h
 split at h
 ·split at h
  ·rename_i ys hy
   obtain⟨h1,h2⟩:=h
   cases h2
   obtain⟨he,hx⟩:=qj hy
   grind
  ·exact h.elim
 ·exact h.elim
theorem O4{st:St}{k:Dk}{b:jW}{x:k.den}(h:(Nh st k b).leads x):∃ d,b=.var d/\k.plain=true/\(sg st k d).leads x:=by
 cases b with
 | var d =>
  simp only[Nh]at h
  cases hp:k.plain with
  | false=>rw[hp]at h; exact h.elim
  | true=>grind
 | _=>exact h.elim
def U9(st:St):(i:It)->i.den->Fr
 | .s t k,x=>[(t,some (p9 st k x))]
 | .v _,_=>[]
 | .a _,_=>[]
def Rz:(i:It)->i.den->List Bd
 | .s _ _,_=>[]
 | .v k,x=>[.v k x]
 | .a e,x=>[.a e x]
theorem XU(st:St)(i:It)(x:i.den):dn st [i] x=U9 st i x:=by cases i<;>rfl
theorem Zx(st:St)(i j:It)(r:List It)(x:i.den×wC (j::r)):dn st (i::j::r) x=U9 st i x.1++dn st (j::r) x.2:=by cases i<;>rfl
theorem Ra(i:It)(x:i.den):iQ [i] x=Rz i x:=by cases i<;>rfl
theorem Ll(i j:It)(r:List It)(x:i.den×wC (j::r)):iQ (i::j::r) x=Rz i x.1++iQ (j::r) x.2:=by cases i<;>rfl
def z6T(fr:Fr)(st zq:St)(l:List It)(p:Nat×Option D):Prop:=∃ (k:Dk) (y:k.den) (d:D),(It.s p.1 k)∈l/\fr.get p.1=some d/\(sg st k d).leads y/\p.2=some (p9 zq k y)
theorem FD{p:Dk->Bool}{fr:Fr}{st zq:St}{bl:List jW}{i:It}{x:i.den×List jW}(hp:∀ k,i=.v k->p k=true)(h:(Gj fr st bl i).leads x) :
  (∀ bd,Iv p st x.2 bd->Iv p st bl (Rz i x.1++bd))/\∀ p∈U9 zq i x.1,z6T fr st zq [i] p:=by
 cases i with
 | s t k =>
  simp only[Gj]at h
  split at h
  ·rename_i d hd
   rw[T.zy]at h
   obtain⟨y,h1,rfl⟩:=h
   refine⟨λbd hb=>hb,λp hp => ?_⟩
   simp only[U9,List.mem_singleton]at hp
   subst hp
   exact⟨k,y,d,by simp,hd,h1,rfl⟩
  ·exact h.elim
 | v k =>
  cases bl with
  | nil=>exact h.elim
  | cons b r =>
   simp only[Gj]at h
   rw[T.zy]at h
   obtain⟨y,h1,rfl⟩:=h
   obtain⟨d,q1,q2,q3⟩:=O4 h1
   exact⟨λbd hb=>⟨⟨d,q1,⟨q2,hp k rfl⟩,q3⟩,hb⟩,λp hp=>by cases hp⟩
 | a e =>
  cases bl with
  | nil=>exact h.elim
  | cons b r =>
   simp only[Gj]at h
   rw[T.zy]at h
   obtain⟨y,h1,rfl⟩:=h
   exact⟨λbd hb=>⟨Ps h1,hb⟩,λp hp=>by cases hp⟩
theorem Gf{α:Type}{x:α×List jW}{y:α}(h:(H5 x).leads y):x=(y,[]):=by
 obtain⟨a,bl⟩:=x
 cases bl with
 | nil=>cases h; rfl
 | cons=>exact h.elim
theorem su{p:Dk->Bool}{fr:Fr}{st zq:St}:∀ (l:List It) (bl:List jW) (x:wC l),(∀ k,It.v k∈l->p k=true)->(JL fr st l bl).leads x ->
  Iv p st bl (iQ l x)/\∀ p∈dn zq l x,z6T fr st zq l p
 | [],bl,x,_,h=>by
  have h':(H5 ((),bl)).leads x:=h
  have:=Gf h'
  cases this
  exact⟨trivial,λp hp=>by cases hp⟩
 | [i],bl,x,hp,h=>by
  have h':((Gj fr st bl i).bind H5).leads x:=h
  obtain⟨y,h1,h2⟩:=T.zd.1 h'
  have:=Gf h2
  subst this
  obtain⟨g1,g2⟩:=FD (p:=p) (zq:=zq) (λk hk=>hp k (by grind)) h1
  have e1:iQ [i] x=Rz i x:=Ra i x
  have e2:dn zq [i] x=U9 zq i x:=XU zq i x
  have:=g1 [] trivial
  grind
 | i::j::r,bl,x,hp,h=>by
  have h':((Gj fr st bl i).bind λx=>(JL fr st (j::r) x.2).bind λy=>T.ret (x.1,y)).leads x:=h
  obtain⟨y,h1,h2⟩:=T.zd.1 h'
  obtain⟨z,h3,h4⟩:=T.zd.1 h2
  cases h4
  obtain⟨g1,g2⟩:=FD (p:=p) (zq:=zq) (λk hk=>hp k (by grind)) h1
  obtain⟨k1,k2⟩:=su (p:=p) (zq:=zq) (j::r) y.2 z (λk hk=>hp k (List.mem_cons_of_mem _ hk)) h3
  have e1:iQ (i::j::r) (y.1,z)=Rz i y.1++iQ (j::r) z:=Ll i j r (y.1,z)
  have e2:dn zq (i::j::r) (y.1,z)=U9 zq i y.1++dn zq (j::r) z:=Zx zq i j r (y.1,z)
  rw[e1,e2]
  refine⟨g1 _ k1,λp hp => ?_⟩
  rcases List.mem_append.1 hp with hp | hp
  ·obtain⟨k,w,d,q1,q2⟩:=g2 p hp
   exact⟨k,w,d,by grind,q2⟩
  ·obtain⟨k,w,d,q1,q2⟩:=k2 p hp
   exact⟨k,w,d,List.mem_cons_of_mem _ q1,q2⟩
inductive UY(p:Dk->Bool)(st zq:St):Bk->jW->jW->Prop
 | arr (e e':Ty) (xs:List (den e)):UY p st zq (.arr e') (.arr xs.length e xs) (.arr xs.length e xs)
 | var (k k':Dk) (d:D) (x:k.den) (hp:k.plain=true/\p k=true) (h:(sg st k d).leads x):UY p st zq (.var k') (.var d) (.var (p9 zq k x))
 | cvar (ck:Ck) (d:D) (h:(QW st ck d).leads ()):UY p st zq (.cvar ck) (.var d) (.var (Bg zq ck))
 | dead (b:jW) (h:CB b=false):UY p st zq .dead b .dead
def b7:List Bd->List Bool
 | []=>[]
 | .v _ _::r=>false::b7 r
 | .a _ _::r=>true::b7 r
theorem iU:∀ (l:List It) (x:wC l),b7 (iQ l x)=kinds l
 | [],_=>rfl
 | [.s _ _],_=>rfl
 | [.v _],_=>rfl
 | [.a _],_=>rfl
 | .s _ _::j::r,x=>iU (j::r) x.2
 | .v _::j::r,x=>congrArg (false :: ·) (iU (j::r) x.2)
 | .a _::j::r,x=>congrArg (true :: ·) (iU (j::r) x.2)
theorem sO{p:Dk->Bool}{st st0:St}:∀ {bs:List Bk} {blocks bl:List jW} {bd:List Bd},(Ug st bs blocks).leads bl->Iv p st bl bd->y7 bs (b7 bd)=true ->
  (vj st0 bs bd).length=bs.length/\(∀ b,rowAt bs b=true->xM (ga bs bd) b=gD blocks b/\xM (vj st0 bs bd) b=gD blocks b/\xM blocks b=gD blocks b) /\
  ∀ (i:Nat) (k:Bk),bs[i]? = some k->∃ B B',blocks[i]? = some B/\(vj st0 bs bd)[i]? = some B'/\UY p st st0 k B B'
 | [],blocks,bl,bd,h,hb,ho=>by
  refine⟨by simp[vj],λb hb=>by simp[rowAt]at hb,λi k hk=>by simp at hk⟩
 | k::r,[],bl,bd,h,hb,ho=>by cases k<;>exact h.elim
 | .arr e::r,b::blocks,bl,bd,h,hb,ho=>by
  simp only[Ug,T.zy]at h
  obtain⟨l,h1,rfl⟩:=h
  cases bd with
  | nil=>exact hb.elim
  | cons q bd =>
   cases q with
   | v k x=>simp[b7,y7]at ho
   | a e' xs =>
    obtain⟨rfl,YW⟩:=hb
    simp only[b7,y7,Bool.true_and]at ho
    obtain⟨g1,g2,g3⟩:=sO (st0:=st0) h1 YW ho
    refine⟨by simp[vj,g1],λb hb => ?_,λi k hk => ?_⟩
    ·cases b with
     | zero=>simp[ga,vj,xM,z5w,gD]
     | succ b=>have:=g2 b (by simpa[rowAt]using hb); simpa[ga,vj,xM,gD]using this
    ·cases i with
     | zero=>simp at hk; subst hk; exact⟨_,_,rfl,rfl,.arr e' e xs⟩
     | succ i=>simpa[vj]using g3 i k (by simpa using hk)
 | .var k0::r,b::blocks,bl,bd,h,hb,ho=>by
  simp only[Ug,T.zy]at h
  obtain⟨l,h1,rfl⟩:=h
  cases bd with
  | nil=>exact hb.elim
  | cons q bd =>
   cases q with
   | a e' xs=>simp[b7,y7]at ho
   | v k x =>
    obtain⟨⟨d,rfl,hp,hd⟩,YW⟩:=hb
    simp only[b7,y7,Bool.not_false,Bool.true_and]at ho
    obtain⟨g1,g2,g3⟩:=sO (st0:=st0) h1 YW ho
    refine⟨by simp[vj,g1],λb hb => ?_,λi k hk => ?_⟩
    ·cases b with
     | zero=>simp[rowAt]at hb
     | succ b=>have:=g2 b (by simpa[rowAt]using hb); simpa[ga,vj,xM,gD]using this
    ·cases i with
     | zero=>simp at hk; subst hk; exact⟨_,_,rfl,rfl,.var k k0 d x hp hd⟩
     | succ i=>simpa[vj]using g3 i k (by simpa using hk)
 | .cvar ck::r,b::blocks,bl,bd,h,hb,ho=>by
  cases b with
  | var d =>
   simp only[Ug,T.zy]at h
   obtain⟨⟨⟩,h0,h1⟩:=h
   have NV:y7 r (b7 bd)=true:=by cases bd<;>simpa[y7]using ho
   obtain⟨g1,g2,g3⟩:=sO (st0:=st0) h1 hb NV
   have e1:vj st0 (.cvar ck::r) bd=.var (Bg st0 ck)::vj st0 r bd:=by cases bd<;>rfl
   have e0:ga (.cvar ck::r) bd=.dead::ga r bd:=by cases bd<;>rfl
   rw[e0,e1]
   refine⟨by simp[g1],λb hb => ?_,λi k hk => ?_⟩
   ·cases b with
    | zero=>simp[rowAt]at hb
    | succ b=>have:=g2 b (by simpa[rowAt]using hb); simpa[xM,gD]using this
   ·cases i with
    | zero=>simp at hk; subst hk; exact⟨_,_,rfl,rfl,.cvar ck d h0⟩
    | succ i=>grind
  | _=>exact h.elim
 | .dead::r,b::blocks,bl,bd,h,hb,ho=>by
  simp only[Ug]at h
  cases hv:CB b with
  | true=>rw[hv]at h; exact h.elim
  | false =>
   rw[hv,cond_false]at h
   have NV:y7 r (b7 bd)=true:=by cases bd<;>simpa[y7]using ho
   obtain⟨g1,g2,g3⟩:=sO (st0:=st0) h hb NV
   have e1:vj st0 (.dead::r) bd=.dead::vj st0 r bd:=by cases bd<;>rfl
   have e0:ga (.dead::r) bd=.dead::ga r bd:=by cases bd<;>rfl
   rw[e0,e1]
   refine⟨by simp[g1],λb hb => ?_,λi k hk => ?_⟩
   ·cases b with
    | zero=>simp[rowAt]at hb
    | succ b=>have:=g2 b (by simpa[rowAt]using hb); simpa[xM,gD]using this
   ·cases i with
    | zero=>simp at hk; subst hk; exact⟨_,_,rfl,rfl,.dead b hv⟩
    | succ i=>grind
inductive Refs(m:Nat):D->Prop
 | zD (τ:Ty) (x:AM.den τ):Refs m (.zD τ x)
 | tight (e:Ty) (l:List (AM.den e)) (ne:Bool):Refs m (.tight e l ne)
 | xo:Refs m .xo
 | kG:Refs m .kG
 | qP:Refs m .qP
 | vC:Refs m .vC
 | vB:Refs m .vB
 | pK:Refs m .pK
 | bj (T:Nat):Refs m (.bj T)
 | kf (b T:Nat) (h:b<m):Refs m (.kf b T)
 | ptr (b off:Nat) (h:b<m):Refs m (.ptr b off)
 | qN (τ:Ty) (x:AM.den τ):Refs m (.qN τ x)
 | vU (b qw:Nat) (e:Ty) (idx off:Nat) (h:b<m):Refs m (.vU b qw e idx off)
 | ms (b qw:Nat) (e:Ty) (off len:Nat) (h:b<m):Refs m (.ms b qw e off len)
 | qS (f:Nat) (l:List D) (h:∀ i (hi:i<l.length),Refs m l[i]):Refs m (.qS f l)
 | agg (l:List D) (h:∀ i (hi:i<l.length),Refs m l[i]):Refs m (.agg l)
 | kY (l:List D) (h:∀ i (hi:i<l.length),Refs m l[i]):Refs m (.kY l)
 | iface (t:Nat) (d:D) (h:Refs m d):Refs m (.iface t d)
theorem Refs.mono{m m':Nat}(hm:m<=m'){d:D}(h:Refs m d):Refs m' d:=by
 induction h with
 | ptr b off h=>exact .ptr b off (by omega)
 | kf b T h=>exact .kf b T (by omega)
 | vU b qw e idx off h=>exact .vU b qw e idx off (by omega)
 | ms b qw e off len h=>exact .ms b qw e off len (by omega)
 | qS f l h ih=>exact .qS f l ih
 | agg l h ih=>exact .agg l ih
 | kY l h ih=>exact .kY l ih
 | iface t d h ih=>exact .iface t d ih
 | _=>constructor
theorem T5{κ:KS}{m:Nat}{d:D}{v:Value}(h:RD κ d v)(hr:Refs m d):RD (κ.cut m) d v:=by
 induction h with
 | zD τ y cs h=>exact .zD τ y cs h
 | xd e a=>exact .xd e a
 | tight e l ne blk off f vy w7 h hc=>exact .tight e l ne blk off f vy w7 h hc
 | xo=>exact .xo
 | kG=>exact .kG
 | qP=>exact .qP
 | vC=>exact .vC
 | vB=>exact .vB
 | pK v h=>exact .pK v h
 | bj T=>exact .bj T
 | bC b T d hb=>cases hr with | kf _ _ qs=>exact cp (.bC b T d hb) (by simp only[vu,Nat.blt,Nat.ble_eq]; exact qs)
 | bE b T blk n d hb h=>cases hr with | kf _ _ qs=>exact cp (.bE b T blk n d hb h) (by simp only[vu,Nat.blt,Nat.ble_eq]; exact qs)
 | ptr b off blk n d hb h=>cases hr with | ptr _ _ qs=>exact cp (.ptr b off blk n d hb h) (by simp only[vu,Nat.blt,Nat.ble_eq]; exact qs)
 | qN τ y cs blk off w7 h hc=>exact .qN τ y cs blk off w7 h hc
 | vU b qw e idx off blk o hb h=>cases hr with | vU _ _ _ _ _ qs=>exact cp (.vU b qw e idx off blk o hb h) (by simp only[vu,Nat.blt,Nat.ble_eq]; exact qs)
 | ms b qw e off len cap a hb wM ha mW h=>cases hr with | ms _ _ _ _ _ qs=>exact cp (.ms b qw e off len cap a hb wM ha mW h) (by simp only[vu,Nat.blt,Nat.ble_eq]; exact qs)
 | qS f l vs hl h ih=>cases hr with | qS _ _ hh=>exact .qS f l vs hl λi h1 h2=>ih i h1 h2 (hh i h1)
 | agg l vs hl ho h ih=>cases hr with | agg _ hh=>exact .agg l vs hl ho λi h1 h2=>ih i h1 h2 (hh i h1)
 | kY l vs hl h ih=>cases hr with | kY _ hh=>exact .kY l vs hl λi h1 h2=>ih i h1 h2 (hh i h1)
 | iface t d v h ih=>cases hr with | iface _ _ hh=>exact .iface t d v (ih hh)
theorem Yx{a b:Nat}(h:a<b):Nat.blt a b=true:=by
 simp; exact h
theorem OT{κ κe:KS}{m:Nat}(hx:Ext κ κe)(hm:κ.st.length<=m):Ext κ (κe.cut m):=by
 have qs:∀ b x,κ.st[b]? = some x->b<m:=λb x h=>Nat.lt_of_lt_of_le (List.getElem?_eq_some_iff.1 h).1 hm
 have Jd:∀ b,b<m->(κe.cut m).ph[b]? = κe.ph[b]? := λb hb=>by simp only[KS.cut]; rw[List.getElem?_take,if_pos hb]
 refine⟨hx.os,hx.tape,hx.output,hx.size,hx.same,hx.fresh,λb blk n h=>hx.RI b blk n (gq h).1,λb d h => ?_,λb v0 e xs h => ?_,λb h=>q8 (hx.dead b h) (qs b _ h),?_,hx.frame⟩
 ·obtain⟨⟨d',h1⟩,h2⟩:=hx.var b d h
  exact⟨⟨d',q8 h1 (qs b _ h)⟩,(Jd b (qs b _ h)).trans h2⟩
 ·rcases hx.arr b v0 e xs h with h1 | ⟨v1,x1,h1,h2,h3⟩
  ·exact .inl (q8 h1 (qs b _ h))
  ·exact .inr ⟨v1,x1,q8 h1 (qs b _ h),h2,λhe=>⟨(Jd b (qs b _ h)).trans (h3 he).1,(h3 he).2⟩⟩
 ·have:=hx.G9
  simp[KS.cut]; omega
theorem vH.sN{κ0 κ:KS}{fr:Fr}{a:Act}{sh:vH}{x:sh.den}(hx:Ext κ0 κ)(hI:Inv κ)(hR:Rel κ n fr.get a)(hl:κ0.st.length<=sh.bs.length)(h:(sh.un fr κ.st).leads x) :
  ∃ κ':KS,κ'.w=κ.w/\κ'.st=sh.st x/\Inv κ'/\Ext κ0 κ'/\Rel κ' n (sh.fr x).get a/\∀ (d:D) (v:Value),Refs sh.bs.length d->RD κ d v->RD κ' d v:=by
 unfold vH.un at h
 cases hc:sh.ok&&(κ.st.take sh.bs.length).all (Kz sh.bs.length)with
 | false=>rw[hc]at h; exact h.elim
 | true =>
  rw[hc,cond_true]at h
  simp only[Bool.and_eq_true,vH.ok,List.all_eq_true]at hc
  obtain⟨⟨⟨⟨zce,z6p⟩,ZF⟩,hbs⟩,Xl⟩:=hc
  obtain⟨⟨⟩,h1,h⟩:=T.zd.1 h
  obtain⟨bl,h2,h3⟩:=T.zd.1 h
  have hIc:=z0D hI Xl
  -- the store cut
  let m:=sh.bs.length
  obtain⟨g1,g2⟩:=su (p:=HU sh.bs) (zq:=sh.st x) sh.mm bl x (λk hk=>z6p _ hk) h3
  obtain⟨k1,k2,k3⟩:=sO (st0:=ga sh.bs (iQ sh.mm x)) h2 g1 ((congrArg (y7 sh.bs) (iU sh.mm x)).trans zce)
  have xE:sh.st x=vj (ga sh.bs (iQ sh.mm x)) sh.bs (iQ sh.mm x):=rfl
  rw[<- xE]at k1 k2 k3
  let κ':KS:={ κ.cut m with st:=sh.st x }
  have hm:m<=κ.st.length:=by
   rcases Nat.eq_zero_or_pos m with h0 | h0
   ·omega
   ·obtain⟨B,B',q1,_⟩:=k3 (m-1) (sh.bs[m-1]'(by show m-1<m; omega)) (by simp)
    grind
  have zbE:∀ i B,κ.st[i]? = some B->i<m->(κ.cut m).st[i]? = some B:=λi B hB hi=>q8 hB hi
  have Lp:(κ.cut m).st.length=m:=by simp[KS.cut]; omega
  have pair:∀ i,i<m->∃ k B B',sh.bs[i]? = some k/\(κ.cut m).st[i]? = some B/\κ'.st[i]? = some B'/\UY (HU sh.bs) κ.st (ga sh.bs (iQ sh.mm x)) k B B':=by
   intro i hi
   obtain⟨B,B',q1,q2,q3⟩:=k3 i (sh.bs[i]'hi) (by simp)
   grind
  have lt:∀ {i:Nat} {B:jW},(κ.cut m).st[i]? = some B->i<m:=λhB=>by have:=(List.getElem?_eq_some_iff.1 hB).1; omega
  have lt':∀ {i:Nat} {B:jW},κ'.st[i]? = some B->i<m:=λhB=>by have:=(List.getElem?_eq_some_iff.1 hB).1; have e:κ'.st.length=m:=k1; omega
  have hw:Wk (κ.cut m) κ':=by
   refine⟨rfl,rfl,rfl,by show(sh.st x).length=_; rw[k1,Lp],λb d hb => ?_,λb v e xs hb => ?_,λb v e xs hb => ?_,λb hb => ?_⟩
   ·obtain⟨k,B,B',q0,q1,q2,q3⟩:=pair b (lt hb)
    rw[hb]at q1; cases q1
    cases q3 with
    | var k' _ _ y _ hy=>grind
    | cvar ck _ hy=>grind
    | dead _ hv=>cases hv
   ·obtain⟨k,B,B',q0,q1,q2,q3⟩:=pair b (lt hb)
    rw[hb]at q1; cases q1
    cases q3 with
    | arr=>grind
    | dead=>grind
   ·obtain⟨k,B,B',q0,q1,q2,q3⟩:=pair b (lt' hb)
    rw[hb]at q2; cases q2
    cases q3 with
    | arr=>exact q1
   ·obtain⟨k,B,B',q0,q1,q2,q3⟩:=pair b (lt hb)
    rw[hb]at q1; cases q1
    cases q3 with
    | dead=>exact q2
  have Yk:∀ b,rowAt sh.bs b=true->xM κ'.st b=gD κ.st b/\xM (ga sh.bs (iQ sh.mm x)) b=gD κ.st b/\xM κ.st b=gD κ.st b :=
   λb hb=>⟨(k2 b hb).2.1,(k2 b hb).1,(k2 b hb).2.2⟩
  have zay:∀ b,rowAt sh.bs b=true->xM (κ.cut m).st b=xM κ.st b:=by
   intro b hb
   have S9:b<m:=by
    unfold rowAt at hb
    split at hb
    ·rename_i hh; exact(List.getElem?_eq_some_iff.1 hh).1
    ·cases hb
   unfold xM
   simp only[KS.cut]
   rw[List.getElem?_take,if_pos S9]
  have S9:∀ b,rowAt sh.bs b=true->b<m:=by
   intro b hb
   unfold rowAt at hb
   split at hb
   ·rename_i hh; exact(List.getElem?_eq_some_iff.1 hh).1
   ·cases hb
  have PW:∀ b,Q3 sh.bs b=true->b<m:=by
   intro b hb
   unfold Q3 at hb
   split at hb
   ·rename_i hh; exact(List.getElem?_eq_some_iff.1 hh).1
   ·rename_i hh; exact(List.getElem?_eq_some_iff.1 hh).1
   ·cases hb
  have dk:∀ (k:Dk) (y:k.den) (d:D) (v:Value) (zq:St),HU sh.bs k=true->(∀ b,rowAt sh.bs b=true->xM zq b=gD κ.st b)->(sg κ.st k d).leads y->RD κ d v->RD κ' (p9 zq k y) v:=by
   intro k y d v zq ho hv hy hd
   have hwk:Wk κ κ:=⟨rfl,rfl,rfl,rfl,λb d h=>⟨d,h⟩,λb v e xs h=>.inl h,λb v e xs h=>h,λb h=>h⟩
   have h0:=Yj hwk ho (λ_ _=>rfl) (zq:=κ.st) (λ_ _=>rfl) (λb hb=>(Yk b hb).2.2) hy hd
   have zd9:yW m (p9 κ.st k y)=true:=by
    cases k with
    | sub b e=>exact Yx (S9 b ho)
    | qS f caps =>
     have:∀ (l:List Zm) (z:gm l),(lz l z).all (vu m)=true:=by
      intro l
      induction l with
      | nil=>intro z; rfl
      | cons p r ih =>
       intro z
       have hp:∀ w:AM.den p.ty,vu m (J3 p w)=true:=λw=>by cases p<;>rfl
       cases r with
       | nil=>simp only[lz,List.all_cons,List.all_nil,Bool.and_true]; exact hp z
       | cons q r=>simp only[lz,List.all_cons,Bool.and_eq_true]; exact⟨hp z.1,by simpa using ih z.2⟩
     exact this caps y
    | st ks=>exact List.all_eq_true.2 (jR S9 PW ks y ho)
    | mclo f ms=>exact List.all_eq_true.2 (cd PW ms y ho)
    | _=>rfl
   have h1:=hw.rd (Ca h0 zd9)
   have he:p9 κ.st k y=p9 zq k y:=by
    cases k with
    | sub b e=>simp only[p9]; rw[hv b ho,(Yk b ho).2.2]
    | st ks=>simp only[p9]; rw[mw (λb hb=>(Yk b hb).2.2.trans (hv b hb).symm) ks y ho]
    | _=>rfl
   rwa [he]at h1
  have ck:∀ (q:Ck) (d:D) (v:Value) (zq:St),IL sh.bs q=true->(∀ b,rowAt sh.bs b=true->xM zq b=gD κ.st b)->(QW κ.st q d).leads ()->Bg zq q=d/\(RD κ d v->RD κ' d v):=by
   intro q d v zq ho hv hy
   have he:=Tp ho hv hy
   refine⟨he,λhd=>hw.rd (Ca hd ?_)⟩
   rw[<- he]
   cases q with
   | ptr b off=>exact Yx (PW b ho)
   | cur b e=>exact Yx (S9 b ho)
   | xo=>rfl
   | kG=>rfl
   | qP=>rfl
   | qS f l =>
    simp only[IL,List.all_eq_true]at ho
    simp only[Bg,yW,List.all_eq_true,List.mem_map]
    rintro _ ⟨p,hp,rfl⟩
    exact Yx (PW p.1 (ho p hp))
  have hI':Inv κ':=by
   refine hw.inv hIc λb d' hb => ?_
   obtain⟨k,B,B',q0,q1,q2,q3⟩:=pair b (lt' hb)
   rw[hb]at q2
   cases q2
   cases q3 with
   | var kk k' d y hp hy =>
    obtain⟨blk,n',cs,t,e1,e2,e3,e4,e5⟩:=hIc.blk b _ q1
    refine⟨blk,n',cs,t,e1,e2,e3,?_⟩
    cases kk with
    | zD τ =>
     have hco:cN τ d=some y:=T.vM.1 hy
     have ht:d.uj=false:=by
      cases d with
      | kY l=>simp[cN,D.uj]at hco
      | _=>rfl
     have Bh:=nB hco e4 e5.1 ht
     exact⟨(mK Bh).mono hw.ext,dF τ y,nofun⟩
    | qN τ =>
     cases d<;>simp only[sg]at hy<;>try (exact hy.elim)
     obtain⟨e,hyy⟩:=qj (T.vM.1 hy)
     cases e
     cases hyy
     exact⟨e4.mono hw.ext,e5.1,nofun⟩
    | st ks =>
     simp only[sg]at hy
     cases ha:d.bI with
     | false=>rw[ha]at hy; exact hy.elim
     | true =>
      rw[ha]at hy
      replace hy:(eJ κ.st ks (qe d)).leads y:=hy
      have zfS:b<m:=lt' hb
      have Xb:κ.st[b]? = some (.var d):=(gq q1).1
      obtain⟨zcw,n2,cs2,t2,f1,f2,f3,f4,f5⟩:=hI.blk b _ Xb
      have hp1:=(gq e1).1
      rw[f1]at hp1
      cases hp1
      rw[show(κ.cut m).w=κ.w from rfl,f2]at e2
      cases e2
      obtain⟨g1,g2⟩:=cz (κ:=κ) (zq:=ga sh.bs (iQ sh.mm x)) (bs:=sh.bs) (λb hb=>(Yk b hb).2.1) ks (qe d) y _ hp.2 hy f4
      refine⟨(Ef g1 λz hz => ?_).mono hw.ext,g2,λT hT => ?_⟩
      rotate_left
      ·exact f5.2 T (Qh ha (Ql ks (qe d) y hy hT))
      have:=jR (m:=m) S9 PW ks y hp.2 z hz
      cases z<;>first | exact this | cases this
    | _=>cases hp.1
   | cvar q d hy =>
    obtain⟨blk,n',cs,t,e1,e2,e3,e4,e5⟩:=hIc.blk b _ q1
    have hoq:IL sh.bs q=true:=hbs _ (List.mem_of_getElem? q0)
    obtain⟨g,_⟩:=ck q d undef (ga sh.bs (iQ sh.mm x)) hoq (λb hb=>(Yk b hb).2.1) hy
    rw[g]
    exact⟨blk,n',cs,t,e1,e2,e3,e4.mono hw.ext,e5⟩
  refine⟨κ',rfl,rfl,hI',?_,⟨hR.size,hR.defers,λs d hd => ?_⟩,λd v hr hd=>hw.rd (T5 hd hr)⟩
  ·have qs:κ0.st.length<=m:=hl
   have c1:=OT hx qs
   exact c1.trans hw.ext
  ·rcases get_append (l:=dn (sh.st x) sh.mm x) (m:=z3i (sh.st x) sh.cs) hd with hp | hp0
   ·obtain⟨k,y,d0,q0,q1,q2,q3⟩:=g2 _ hp
    cases q3
    obtain⟨v,r1,r2⟩:=hR.get _ _ q1
    exact⟨v,r1,dk k y d0 v (sh.st x) (z6p _ q0) (λb hb=>(Yk b hb).1) q2 r2⟩
   ·have sU:=get_mem hp0
    unfold z3i at sU
    obtain⟨p,hp,he⟩:=List.mem_map.1 sU
    cases he
    obtain⟨d0,q1,q2⟩:=GN h1 p hp
    obtain⟨v,r1,r2⟩:=hR.get _ _ q1
    obtain⟨g,gg⟩:=ck p.2 d0 v (sh.st x) (ZF p hp) (λb hb=>(Yk b hb).1) q2
    rw[g]
    exact⟨v,r1,gg r2⟩
end
end Go.AM
namespace Go.AM
set_option linter.unusedSectionVars false
variable [vz] [VW]
open Go.RowKit
inductive Gh where
 | slot (s:Nat) (e:Ty) | cell (b i:Nat) (e:Ty) | pcell (s i:Nat) (e:Ty)
def X9(st:St)(b i:Nat):Option (List D):=match st[b]? with
 | some (.var d)=>bif d.bI then match(qe d)[i]? with | some .xo=>some (qe d) | _=>none else none
 | _=>none
def gh:List Gh->Fr->St->Fr×St
 | [],fr,st=>(fr,st)
 | .slot s e::r,fr,st=>match fr.get s with
  | some .xo=>bif Nat.blt 0 e.size then gh r ((s,some (.ms st.length 0 e 0 0))::fr) (st++[.arr 0 e []])else gh r fr st
  | _=>gh r fr st
 | .cell b i e::r,fr,st=>match X9 st b i with
  | some l=>bif Nat.blt 0 e.size then gh r fr ((st++[jW.arr 0 e []]).set b (.var (.agg (l.set i (.ms st.length 0 e 0 0)))))else gh r fr st
  | none=>gh r fr st
 | .pcell t i e::r,fr,st=>match fr.get t with
  | some (.ptr b _)=>match X9 st b i with
   | some l=>bif Nat.blt 0 e.size then gh r fr ((st++[jW.arr 0 e []]).set b (.var (.agg (l.set i (.ms st.length 0 e 0 0)))))else gh r fr st
   | none=>gh r fr st
  | _=>gh r fr st
section
variable {c:Ctx} {κ:KS}
def KS.uQ(κ:KS)(e:Ty):KS:={ κ with ph:=κ.ph++[none],st:=κ.st++[.arr 0 e []] }
theorem rY(hI:Inv κ)(e:Ty):Ext κ (κ.uQ e):=by
 have xE:∀ b y,κ.st[b]? = some y->(κ.st++[.arr 0 e []])[b]? = some y:=λb y h=>by rw[List.getElem?_append_left (List.getElem?_eq_some_iff.1 h).1]; exact h
 have Jd:∀ b y,κ.st[b]? = some y->(κ.ph++[none])[b]? = κ.ph[b]? := λb y h=>by
  rw[List.getElem?_append_left]; rw[hI.len]; exact(List.getElem?_eq_some_iff.1 h).1
 refine⟨rfl,rfl,rfl,Nat.le_refl _,λk hk=>⟨hk,rfl⟩,λk hk=>.inl hk,?_,λb d h=>⟨⟨d,xE b _ h⟩,Jd b _ h⟩,
  λb v0 e xs h=>.inr ⟨v0,xs,xE b _ h,Nat.le_refl _,λ_=>⟨Jd b _ h,rfl⟩⟩,λb h=>xE b _ h,by simp[KS.uQ],λk hk _=>rfl⟩
 intro b blk m h
 simp only[KS.uQ]at h
 grind
theorem Vw(hI:Inv κ){e:Ty}(he:0<e.size):Inv (κ.uQ e):=by
 have hold:∀ (b blk m:Nat),(κ.ph++[none])[b]? = some (some (blk,m))->κ.ph[b]? = some (some (blk,m)):=by
  grind
 refine⟨by simp[KS.uQ,hI.len],hI.y4,λb blk m h=>hI.apart b blk m (hold b blk m h),λb b' blk m m' h h'=>hI.inj b b' blk m m' (hold _ _ _ h) (hold _ _ _ h'),?_,hI.gl⟩
 intro b y hy
 simp only[KS.uQ]at hy
 by_cases hb:b<κ.st.length
 ·rw[List.getElem?_append_left hb]at hy
  exact(hI.blk b y hy).mono (rY hI e) (by show(κ.ph++[none])[b]? = κ.ph[b]?; rw[List.getElem?_append_left (by rw[hI.len]; exact hb)]) λblk n h=>rfl
 ·have Km:=(List.getElem?_eq_some_iff.1 hy).1
  simp at Km
  have:b=κ.st.length:=by omega
  subst this
  simp at hy
  subst hy
  exact⟨he,.inl ⟨rfl,by simp[KS.uQ,<- hI.len]⟩⟩
theorem Db{l:List D}{i b v len off:Nat}{e:Ty}{tt:Nat}(h:(D.agg (l.set i (.ms b v e off len))).typed=some tt):yR l=some tt:=by
 cases l with
 | nil=>exact h
 | cons x r=>cases i with
  | zero=>cases h
  | succ i=>cases x<;>exact h
theorem Tz{κ κ2:KS}{l:List D}{vs:List Value}{i:Nat}{d':D}(h:qA κ l vs)(hw:∀ d v,RD κ d v->RD κ2 d v)(hi:∀ v,vs[i]? = some v->RD κ2 d' v):qA κ2 (l.set i d') vs:=by
 refine⟨by rw[List.length_set]; exact h.1,λk h1 h2 => ?_⟩
 rw[List.getElem_set]
 split
 ·grind
 ·exact hw _ _ (h.2 k (by grind) h2)
theorem DK(hI:Inv κ){e:Ty}(he:0<e.size){b i:Nat}{l:List D}(h:X9 κ.st b i=some l) :
  ∃ κ':KS,κ'.w=κ.w/\κ'.st=(κ.st++[jW.arr 0 e []]).set b (.var (.agg (l.set i (.ms κ.st.length 0 e 0 0))))/\Inv κ'/\Ext κ κ':=by
 unfold X9 at h
 split at h
 ·rename_i d hd
  cases ha:d.bI with
  | false=>grind
  | true =>
   rw[ha,cond_true]at h
   split at h
   ·rename_i hi
    cases h
    have hx:=rY hI e
    have Ze:=Vw hI he
    have zgy:b<κ.st.length:=(List.getElem?_eq_some_iff.1 hd).1
    let κ2:KS:={ κ.uQ e with st:=(κ.uQ e).st.set b (.var (.agg ((qe d).set i (.ms κ.st.length 0 e 0 0)))) }
    have Es:(κ.uQ e).st[b]? = some (.var d):=by
     show(κ.st++[_])[b]? = _
     grind
    have vy:∀ j,j≠b->κ2.st[j]? = (κ.uQ e).st[j]? := λj hj=>by
     grind
    have z9d:κ2.st[b]? = some (.var (.agg ((qe d).set i (.ms κ.st.length 0 e 0 0)))):=by
     grind
    have hw:Wk (κ.uQ e) κ2:=by
     refine⟨rfl,rfl,rfl,by simp[κ2],λj d' hj => ?_,λj v e' xs hj => ?_,λj v e' xs hj => ?_,λj hj => ?_⟩
     ·grind
     ·grind
     ·grind
     ·by_cases c:j=b
      ·subst c; rw[Es]at hj; cases hj
      ·rw[vy j c]; exact hj
    have Nl:κ2.st[κ.st.length]? = some (.arr 0 e []):=by
     rw[vy _ (by omega)]
     simp[KS.uQ]
    have hI2:Inv κ2:=by
     refine hw.inv Ze λj d' hj => ?_
     by_cases c:j=b
     ·subst c
      rw[z9d]at hj
      cases hj
      obtain⟨blk,m,cs,t,q1,q2,q3,q4,q5⟩:=Ze.blk j _ Es
      refine⟨blk,m,cs,t,q1,q2,q3,Tz q4 (λ_ _ h=>hw.rd h) λv hv => ?_,λx hxm => ?_,λT hT => ?_⟩
      ·obtain⟨v',h1,h2⟩:=q4.get hi
       rw[hv]at h1
       cases h1
       cases h2
       refine .ms κ.st.length 0 e 0 0 0 none (.inr ⟨0,e,[],Nl,Nat.le_refl _⟩) (Nat.le_refl _) (λ_=>rfl) nofun λxs Xo => ?_
       rw[Nl]at Xo
       cases Xo
       exact⟨Nat.le_refl _,.inl ⟨rfl,rfl,rfl,by show(κ.ph++[none])[κ.st.length]? = _; simp[<- hI.len]⟩⟩
      ·rcases List.mem_or_eq_of_mem_set (show x∈(qe d).set i (.ms κ.st.length 0 e 0 0)from hxm)with h' | h'
       ·exact q5.1 x h'
       ·subst h'; rfl
      ·exact q5.2 T (Qh ha (Db hT))
     ·rw[vy j c]at hj
      exact(Ze.blk j _ hj).mono hw.ext rfl λ_ _ _=>rfl
    exact⟨κ2,rfl,rfl,hI2,hx.trans hw.ext⟩
   ·cases h
 ·cases h
theorem fP{n:Nat}{a:Act}:∀ (l:List Gh) (fr:Fr) (κ:KS),Inv κ->Rel κ n fr.get a->∃ κ':KS,κ'.w=κ.w/\κ'.st=(gh l fr κ.st).2/\Inv κ'/\Ext κ κ'/\Rel κ' n (gh l fr κ.st).1.get a
 | [],fr,κ,hI,hR=>⟨κ,rfl,rfl,hI,Ext.refl κ,hR⟩
 | .slot s e::r,fr,κ,hI,hR=>by
  unfold gh
  split
  ·rename_i hs
   cases he:Nat.blt 0 e.size with
   | false=>rw[cond_false]; exact fP r fr κ hI hR
   | true =>
    rw[cond_true]
    have My:0<e.size:=Nat.le_of_ble_eq_true he
    have hx:=rY hI e
    have SV:Rel (κ.uQ e) n (Fr.get ((s,some (.ms κ.st.length 0 e 0 0))::fr)) a:=by
     refine⟨hR.size,hR.defers,λt d hd => ?_⟩
     simp only[Fr.get]at hd
     cases ht:Nat.beq s t with
     | true =>
      rw[ht,cond_true]at hd
      cases hd
      have:=Nat.eq_of_beq_eq_true ht
      subst this
      obtain⟨v,h1,h2⟩:=hR.get s _ hs
      cases h2
      have Nl:(κ.uQ e).st[κ.st.length]? = some (.arr 0 e []):=by simp[KS.uQ]
      refine⟨_,h1,.ms κ.st.length 0 e 0 0 0 none (.inr ⟨0,e,[],Nl,Nat.le_refl _⟩) (Nat.le_refl _) (λ_=>rfl) nofun λxs Xo => ?_⟩
      rw[Nl]at Xo
      cases Xo
      exact⟨Nat.le_refl _,.inl ⟨rfl,rfl,rfl,by simp[KS.uQ,<- hI.len]⟩⟩
     | false =>
      rw[ht,cond_false]at hd
      obtain⟨v,h1,h2⟩:=hR.get t d hd
      exact⟨v,h1,h2.mono hx⟩
    obtain⟨κ',h1,h2,h3,h4,h5⟩:=fP r _ (κ.uQ e) (Vw hI My) SV
    exact⟨κ',h1,h2,h3,hx.trans h4,h5⟩
  ·exact fP r fr κ hI hR
 | .cell b i e::r,fr,κ,hI,hR=>by
  unfold gh
  split
  ·rename_i l hl
   cases he:Nat.blt 0 e.size with
   | false=>rw[cond_false]; exact fP r fr κ hI hR
   | true =>
    rw[cond_true]
    have My:0<e.size:=Nat.le_of_ble_eq_true he
    obtain⟨κ1,g1,g2,g3,g4⟩:=DK hI My hl
    obtain⟨κ',h1,h2,h3,h4,h5⟩:=fP r fr κ1 g3 ⟨hR.size,hR.defers,λt d hd=>by
     obtain⟨v,q1,q2⟩:=hR.get t d hd
     exact⟨v,q1,q2.mono g4⟩⟩
    rw[g2]at h2 h5
    exact⟨κ',h1.trans g1,h2,h3,g4.trans h4,h5⟩
  ·exact fP r fr κ hI hR
 | .pcell t i e::r,fr,κ,hI,hR=>by
  unfold gh
  split
  ·rename_i b off hb
   split
   ·rename_i l hl
    cases he:Nat.blt 0 e.size with
    | false=>rw[cond_false]; exact fP r fr κ hI hR
    | true =>
     have My:0<e.size:=Nat.le_of_ble_eq_true he
     obtain⟨κ1,g1,g2,g3,g4⟩:=DK hI My hl
     obtain⟨κ',h1,h2,h3,h4,h5⟩:=fP r fr κ1 g3 ⟨hR.size,hR.defers,λt d hd=>by
      obtain⟨v,q1,q2⟩:=hR.get t d hd
      exact⟨v,q1,q2.mono g4⟩⟩
     rw[g2]at h2 h5
     exact⟨κ',h1.trans g1,h2,h3,g4.trans h4,h5⟩
   ·exact fP r fr κ hI hR
  ·exact fP r fr κ hI hR
end
end Go.AM
namespace Go.AM
def p0(f:Nat->Option Nat)(d:D):Option D:=match d with
 | .ptr b off=>match f b with | some b'=>some (.ptr b' off) | none=>none
 | .kf b T=>match f b with | some b'=>some (.kf b' T) | none=>none
 | .vU b v e i off=>match f b with | some b'=>some (.vU b' v e i off) | none=>none
 | .ms b v e off len=>match f b with | some b'=>some (.ms b' v e off len) | none=>none
 | .qS _ _=>none
 | .agg _=>none
 | .kY _=>none
 | .iface _ _=>none
 | d=>some d
def YU(f:Nat->Option Nat):List D->Option (List D)
 | []=>some []
 | d::r=>match p0 f d with
  | some d'=>match YU f r with | some r'=>some (d'::r') | none=>none
  | none=>none
def mj(f:Nat->Option Nat)(d:D):Option D:=match d with
 | .qS g l=>match YU f l with | some l'=>some (.qS g l') | none=>none
 | .agg l=>match YU f l with | some l'=>some (.agg l') | none=>none
 | d=>p0 f d
def Qu(f:Nat->Option Nat):List D->Option (List D)
 | []=>some []
 | d::r=>match mj f d with
  | some d'=>match Qu f r with | some r'=>some (d'::r') | none=>none
  | none=>none
def QU(f:Nat->Option Nat):jW->Option jW
 | .var d=>match mj f d with | some d'=>some (.var d') | none=>none
 | .arr v e xs=>some (.arr v e xs)
 | .dead=>some .dead
def lY(f:Nat->Option Nat):List jW->Option (List jW)
 | []=>some []
 | b::r=>match QU f b with
  | some b'=>match lY f r with | some r'=>some (b'::r') | none=>none
  | none=>none
def pG(f:Nat->Option Nat):Fr->Fr
 | []=>[]
 | (s,some d)::r=>(s,mj f d)::pG f r
 | (s,none)::r=>(s,none)::pG f r
structure Tr(κ κ':KS)(f:Nat->Option Nat):Prop where
 w:κ'.w=κ.w
 ok:κ'.ok=κ.ok
 var:∀ (b b':Nat) (d:D),f b=some b'->κ.st[b]? = some (.var d)->(∃ d',κ'.st[b']? = some (.var d'))/\κ'.ph[b']? = κ.ph[b]?
 old:∀ (b b' qw:Nat),f b=some b'->Old κ.st b qw->Old κ'.st b' qw
 row:∀ (b b' v:Nat) (e:Ty) (xs:List (den e)),f b=some b'->κ'.st[b']? = some (.arr v e xs)->κ.st[b]? = some (.arr v e xs)/\κ'.ph[b']? = κ.ph[b]?
section
variable {κ κ':KS} {f:Nat->Option Nat}
theorem Tr.same(h:Tr κ κ' f):Df κ.w κ'.w κ.ok κ'.ok:=λk hk=>⟨by rw[h.ok]; exact hk,by rw[h.w]⟩
theorem Tr.rd1(h:Tr κ κ' f){d d':D}{v:Value}(hd:RD κ d v)(hr:p0 f d=some d'):RD κ' d' v:=by
 cases hd with
 | zD τ y cs hc=>cases hr; exact .zD τ y cs (hc.mono h.same)
 | xd e a=>cases hr; exact .xd e a
 | tight e l ne blk off g vy w7 hh hc=>cases hr; exact .tight e l ne blk off g vy (h.same _ w7).1 (λi hi=>(hh i hi).mono h.same) λi hi j v hv=>by rw[gN (h.same _ w7).2]; exact hc i hi j v hv
 | xo=>cases hr; exact .xo
 | kG=>cases hr; exact .kG
 | qP=>cases hr; exact .qP
 | vC=>cases hr; exact .vC
 | vB=>cases hr; exact .vB
 | pK v h=>cases hr; exact .pK v h
 | bj T=>cases hr; exact .bj T
 | bC b T d hb =>
  simp only[p0]at hr
  split at hr
  ·rename_i b' hf
   cases hr
   obtain⟨⟨d',h1⟩,h2⟩:=h.var b b' d hf hb
   exact .bC b' T d' h1
  ·cases hr
 | bE b T blk n d hb hp =>
  simp only[p0]at hr
  split at hr
  ·rename_i b' hf
   cases hr
   obtain⟨⟨d',h1⟩,h2⟩:=h.var b b' d hf hb
   exact .bE b' T blk n d' h1 (h2.trans hp)
  ·cases hr
 | ptr b off blk n d hb hp =>
  simp only[p0]at hr
  split at hr
  ·rename_i b' hf
   cases hr
   obtain⟨⟨d',h1⟩,h2⟩:=h.var b b' d hf hb
   exact .ptr b' off blk n d' h1 (h2.trans hp)
  ·cases hr
 | qN τ y cs blk off w7 hh hc=>cases hr; exact .qN τ y cs blk off (h.same _ w7).1 (hh.mono h.same) λj v hv=>by rw[gN (h.same _ w7).2]; exact hc j v hv
 | vU b qw e idx off blk o hb hh =>
  simp only[p0]at hr
  split at hr
  ·rename_i b' hf
   cases hr
   refine .vU b' qw e idx off blk o (h.old b b' qw hf hb) λxs hx hi => ?_
   obtain⟨h1,h2⟩:=h.row b b' qw e xs hf hx
   grind
  ·cases hr
 | ms b qw e off len cap a hb wM ha mW hh =>
  simp only[p0]at hr
  split at hr
  ·rename_i b' hf
   cases hr
   refine .ms b' qw e off len cap a (h.old b b' qw hf hb) wM ha mW λxs hx => ?_
   obtain⟨h1,h2⟩:=h.row b b' qw e xs hf hx
   have:=hh xs h1
   unfold DO at this ⊢
   grind
  ·cases hr
 | qS g l vs hl hh=>cases hr
 | agg l vs hl ho hh=>cases hr
 | kY l vs hl hh=>cases hr
 | iface t d v hh=>cases hr
theorem R8{d d':D}(h:p0 f d=some d'):d'.one=d.one:=by
 cases d<;>simp only[p0]at h<;>first | (cases h; rfl) | (split at h<;>cases h; rfl) | cases h
theorem Tr.rdL(h:Tr κ κ' f):∀ {l l':List D} {vs:List Value},qA κ l vs->YU f l=some l'->qA κ' l' vs
 | [],l',vs,hd,hr=>by cases hr; rw[hd.qc]; exact .nil
 | d::r,l',vs,hd,hr=>by
  simp only[YU]at hr
  split at hr
  ·rename_i d' h1
   split at hr
   ·rename_i r' h2
    cases hr
    obtain⟨v,us,rfl,g1,g2⟩:=hd.cons_inv
    exact .cons (h.rd1 g1 h1) (h.rdL g2 h2)
   ·cases hr
  ·cases hr
theorem V4:∀ {l l':List D},YU f l=some l'->(∀ d∈l,d.one=true)->∀ d∈l',d.one=true
 | [],l',hr,_=>by cases hr; nofun
 | d::r,l',hr,ho=>by
  simp only[YU]at hr
  split at hr
  ·rename_i d' h1
   split at hr
   ·rename_i r' h2
    cases hr
    intro x hx
    rcases List.mem_cons.1 hx with rfl | hx
    ·rw[R8 h1]; exact ho d List.mem_cons_self
    ·exact V4 h2 (λy hy=>ho y (List.mem_cons_of_mem _ hy)) x hx
   ·cases hr
  ·cases hr
theorem Tr.rd(h:Tr κ κ' f){d d':D}{v:Value}(hd:RD κ d v)(hr:mj f d=some d'):RD κ' d' v:=by
 cases d with
 | qS g l =>
  simp only[mj]at hr
  split at hr
  ·rename_i l' hl
   cases hr
   cases hd with
   | qS _ _ vs h1 h2=>have:=h.rdL (⟨h1,h2⟩:qA κ l vs) hl; exact .qS g l' vs this.1 this.2
  ·cases hr
 | agg l =>
  simp only[mj]at hr
  split at hr
  ·rename_i l' hl
   cases hr
   cases hd with
   | agg _ vs h1 ho h2=>have:=h.rdL (⟨h1,h2⟩:qA κ l vs) hl; exact .agg l' vs this.1 (V4 hl ho) this.2
  ·cases hr
 | _=>exact h.rd1 hd hr
theorem Tr.rds(h:Tr κ κ' f):∀ {l l':List D} {vs:List Value},qA κ l vs->Qu f l=some l'->qA κ' l' vs
 | [],l',vs,hd,hr=>by cases hr; rw[hd.qc]; exact .nil
 | d::r,l',vs,hd,hr=>by
  simp only[Qu]at hr
  split at hr
  ·rename_i d' h1
   split at hr
   ·rename_i r' h2
    cases hr
    obtain⟨v,us,rfl,g1,g2⟩:=hd.cons_inv
    exact .cons (h.rd g1 h1) (h.rds g2 h2)
   ·cases hr
  ·cases hr
theorem Tr.flat(h:Tr κ κ' f){d d':D}{vs:List Value}(hd:qA κ (qe d) vs)(ho:∀ x∈qe d,x.one=true)(hr:mj f d=some d'):qA κ' (qe d') vs/\∀ x∈qe d',x.one=true:=by
 have zD:∀ (τ:Ty) (x:den τ) (vs:List Value),qA κ (Go.AM.flat τ x) vs->qA κ' (Go.AM.flat τ x) vs:=by
  intro τ x vs hh
  refine⟨hh.1,λi h1 h2 => ?_⟩
  have hm:=List.getElem_mem h1
  have:∃ σ z,(Go.AM.flat τ x)[i]=.zD σ z:=by
   generalize (Go.AM.flat τ x)[i]=y at hm
   clear hh h1 h2
   induction τ with
   | cons a b ia ib =>
    simp only[Go.AM.flat,List.mem_append]at hm
    grind
   | nil=>simp[Go.AM.flat]at hm
   | expr=>simp[Go.AM.flat]at hm; rcases hm with rfl | rfl | rfl | rfl | rfl | rfl<;>exact⟨_,_,rfl⟩
   | _=>simp[Go.AM.flat]at hm; subst hm; exact⟨_,_,rfl⟩
  obtain⟨σ,z,e⟩:=this
  have h3:=hh.2 i h1 h2
  rw[e]at h3 ⊢
  exact h.rd1 h3 rfl
 cases d with
 | zD τ x=>cases hr; exact⟨zD τ x vs hd,ho⟩
 | agg l =>
  simp only[mj]at hr
  split at hr
  ·rename_i l' hl
   cases hr
   exact⟨h.rdL hd hl,V4 hl ho⟩
  ·cases hr
 | kY l=>cases hr
 | qS g l =>
  obtain⟨v,r,rfl,h1,h2⟩:=qA.cons_inv (show qA κ [.qS g l] vs from hd)
  rw[h2.qc]
  have Tx:=hr
  simp only[mj]at hr
  split at hr
  ·cases hr; exact⟨.cons (h.rd h1 Tx) .nil,λx hx=>by simp only[qe,List.mem_singleton]at hx; subst hx; rfl⟩
  ·cases hr
 | iface t x=>cases hr
 | ptr b off =>
  obtain⟨v,r,rfl,h1,h2⟩:=qA.cons_inv (show qA κ [.ptr b off] vs from hd)
  rw[h2.qc]
  have Tx:=hr
  simp only[mj,p0]at hr
  split at hr
  ·cases hr; exact⟨.cons (h.rd1 h1 Tx) .nil,λx hx=>by simp only[qe,List.mem_singleton]at hx; subst hx; rfl⟩
  ·cases hr
 | kf b T =>
  obtain⟨v,r,rfl,h1,h2⟩:=qA.cons_inv (show qA κ [.kf b T] vs from hd)
  rw[h2.qc]
  have Tx:=hr
  simp only[mj,p0]at hr
  split at hr
  ·cases hr; exact⟨.cons (h.rd1 h1 Tx) .nil,λx hx=>by simp only[qe,List.mem_singleton]at hx; subst hx; rfl⟩
  ·cases hr
 | vU b qw e idx off =>
  obtain⟨v,r,rfl,h1,h2⟩:=qA.cons_inv (show qA κ [.vU b qw e idx off] vs from hd)
  rw[h2.qc]
  have Tx:=hr
  simp only[mj,p0]at hr
  split at hr
  ·cases hr; exact⟨.cons (h.rd1 h1 Tx) .nil,λx hx=>by simp only[qe,List.mem_singleton]at hx; subst hx; rfl⟩
  ·cases hr
 | ms b qw e off len =>
  obtain⟨v,r,rfl,h1,h2⟩:=qA.cons_inv (show qA κ [.ms b qw e off len] vs from hd)
  rw[h2.qc]
  have Tx:=hr
  simp only[mj,p0]at hr
  split at hr
  ·cases hr; exact⟨.cons (h.rd1 h1 Tx) .nil,λx hx=>by simp only[qe,List.mem_singleton]at hx; subst hx; rfl⟩
  ·cases hr
 | _ =>
  cases hr
  obtain⟨v,r,rfl,h1,h2⟩:=qA.cons_inv hd
  rw[h2.qc]
  exact⟨.cons (h.rd1 h1 rfl) .nil,ho⟩
theorem Dm{f:Nat->Option Nat}{d d':D}{tt:Nat}(h:mj f d=some d')(ht:d'.typed=some tt):d.typed=some tt:=by
 cases d with
 | agg l =>
  simp only[mj]at h
  split at h
  ·rename_i l' hl
   cases h
   cases l with
   | nil=>cases hl; cases ht
   | cons x r =>
    simp only[YU]at hl
    split at hl
    ·rename_i x' hx
     split at hl
     ·cases hl
      cases x<;>simp only[p0]at hx<;>first
       | (cases hx; exact ht)
       | (split at hx<;>first | (cases hx; exact ht) | cases hx)
       | cases hx
     ·cases hl
    ·cases hl
  ·cases h
 | qS g l =>
  simp only[mj]at h
  split at h
  ·cases h; cases ht
  ·cases h
 | _ =>
  simp only[mj,p0]at h
  first
   | (cases h; cases ht)
   | (split at h<;>first | (cases h; cases ht) | cases h)
   | cases h
theorem Tr.blk[pe](h:Tr κ κ' f){b b':Nat}(hp:κ'.ph[b']? = κ.ph[b]?){y y':jW}(hy:cS κ b y)(hr:QU f y=some y'):cS κ' b' y':=by
 cases y with
 | dead=>cases hr; trivial
 | var d =>
  simp only[QU]at hr
  split at hr
  ·rename_i d' hd
   cases hr
   obtain⟨blk,n,cs,t,h1,h2,h3,h4,h5⟩:=hy
   obtain⟨g1,g2⟩:=h.flat h4 h5.1 hd
   exact⟨blk,n,cs,t,hp.trans h1,by rw[h.w]; exact h2,h3,g1,g2,λT hT=>h5.2 T (Dm hd hT)⟩
  ·cases hr
 | arr qw e xs =>
  cases hr
  obtain⟨h0,hh⟩:=hy
  refine⟨h0,da hh (λh=>⟨h.1,hp.trans h.2⟩) ?_⟩
  rintro⟨blk,n,cs,t,h1,h2,h3,h4,hr,g,h5⟩
  exact⟨blk,n,cs,t,hp.trans h1,by rw[h.w]; exact h2,h3,h4,hr,g,λi hi=>⟨(h5 i hi).1.mono h.same,(h5 i hi).2⟩⟩
theorem o7{f:Nat->Option Nat}:∀ {fr:Fr} {s:Nat} {d':D},(pG f fr).get s=some d'->∃ d,fr.get s=some d/\mj f d=some d'
 | [],s,d',h=>by cases h
 | (t,some d)::r,s,d',h=>by
  simp only[pG,Fr.get]at h ⊢
  cases ht:Nat.beq t s with
  | true=>grind
  | false=>rw[ht,cond_false]at h; simp; exact o7 h
 | (t,none)::r,s,d',h=>by
  simp only[pG,Fr.get]at h ⊢
  cases ht:Nat.beq t s with
  | true=>grind
  | false=>rw[ht,cond_false]at h; simp; exact o7 h
end
def pos:List Nat->Nat->Option Nat
 | [],_=>none
 | b::r,i=>bif Nat.beq b i then some 0 else match pos r i with | some j=>some (j+1) | none=>none
def y5:List Nat->Bool
 | []=>true
 | b::r=>(match pos r b with | none=>true | some _=>false)&&y5 r
theorem dZ:∀ {mp:List Nat} {i j:Nat},pos mp i=some j->mp[j]? = some i
 | [],i,j,h=>by cases h
 | b::r,i,j,h=>by
  simp only[pos]at h
  cases hb:Nat.beq b i with
  | true=>rw[hb,cond_true]at h; cases h; rw[Nat.eq_of_beq_eq_true hb]; rfl
  | false =>
   rw[hb,cond_false]at h
   split at h
   ·rename_i k hk; cases h; simpa using dZ hk
   ·cases h
theorem ll:∀ {mp:List Nat} {i j:Nat},y5 mp=true->mp[j]? = some i->pos mp i=some j
 | [],i,j,_,h=>by simp at h
 | b::r,i,j,hn,h=>by
  simp only[y5,Bool.and_eq_true]at hn
  cases j with
  | zero=>simp at h; subst h; simp only[pos]; rw[Nat.beq_refl]; rfl
  | succ j =>
   have h':r[j]? = some i:=by simpa using h
   have hp:=ll hn.2 h'
   have vy:Nat.beq b i=false:=by
    cases hb:Nat.beq b i with
    | false=>rfl
    | true =>
     have:=Nat.eq_of_beq_eq_true hb
     grind
   simp only[pos,vy,cond_false,hp]
def dM{α:Type}(l:List α):List Nat->Option (List α)
 | []=>some []
 | b::r=>match l[b]? with
  | some x=>match dM l r with | some y=>some (x::y) | none=>none
  | none=>none
theorem Zs{α:Type}{l:List α}:∀ {mp:List Nat} {r:List α},dM l mp=some r->r.length=mp.length/\∀ (j b:Nat),mp[j]? = some b->r[j]? = l[b]? /\ b<l.length
 | [],r,h=>by cases h; exact⟨rfl,λj b hj=>by grind⟩
 | b::mp,r,h=>by
  simp only[dM]at h
  split at h
  ·rename_i x hx
   split at h
   ·rename_i y hy
    obtain⟨h1,h2⟩:=Zs hy
    grind
   ·cases h
  ·cases h
theorem Zj{f:Nat->Option Nat}:∀ {l r:List jW},lY f l=some r->r.length=l.length/\∀ (j:Nat) (x:jW),l[j]? = some x->∃ y,r[j]? = some y/\QU f x=some y
 | [],r,h=>by cases h; exact⟨rfl,λj x hj=>by grind⟩
 | b::l,r,h=>by
  simp only[lY]at h
  split at h
  ·rename_i b' hb
   split at h
   ·rename_i r' hr
    obtain⟨h1,h2⟩:=Zj hr
    grind
   ·cases h
  ·cases h
def mv{α:Type}(mp:List Nat)(new:List α):Nat->List α->List α
 | _,[]=>[]
 | i,x::r=>(match pos mp i with | some j=>(match new[j]? with | some y=>y | none=>x) | none=>x)::mv mp new (i+1) r
def xW{α:Type}(mp:List Nat)(old new:List α):List α:=mv mp new 0 old++new.drop mp.length
theorem uq{α:Type}(mp:List Nat)(new:List α):∀ (l:List α) (i:Nat),(mv mp new i l).length=l.length
 | [],_=>rfl
 | x::r,i=>by simp[mv,uq mp new r (i+1)]
theorem rA{α:Type}(mp:List Nat)(new:List α):∀ (l:List α) (i k:Nat),(mv mp new i l)[k]? = (l[k]?).map λx=>match pos mp (i+k)with | some j=>(match new[j]? with | some y=>y | none=>x) | none=>x
 | [],i,k=>by simp[mv]
 | x::r,i,0=>by simp[mv]
 | x::r,i,k+1=>by
  have:=rA mp new r (i+1) k
  simp only[mv]
  grind
def fwd(mp:List Nat)(n:Nat)(j:Nat):Nat:=match mp[j]? with | some b=>b | none=>n+(j-mp.length)
theorem fD{α:Type}{mp:List Nat}{old new:List α}{i:Nat}(hi:i<old.length)(hp:pos mp i=none):(xW mp old new)[i]? = old[i]? := by
 unfold xW
 rw[List.getElem?_append_left (by rw[uq]; exact hi),rA,Nat.zero_add,hp]
 simp
theorem G5{α:Type}{mp:List Nat}{old new:List α}(hn:y5 mp=true)(qs:∀ (j b:Nat),mp[j]? = some b->b<old.length)(hlen:mp.length<=new.length){j:Nat}(hj:j<new.length):(xW mp old new)[fwd mp old.length j]? = new[j]? := by
 unfold xW fwd
 cases hm:mp[j]? with
 | some b =>
  have hb:=qs j b hm
  rw[List.getElem?_append_left (by rw[uq]; exact hb),rA,Nat.zero_add,ll hn hm]
  grind
 | none =>
  simp only
  rw[List.getElem?_append_right (by rw[uq]; omega),uq,List.getElem?_drop]
  grind
theorem Bz{α:Type}{mp:List Nat}{old new:List α}(qs:∀ (j b:Nat),mp[j]? = some b->b<old.length)(hlen:mp.length<=new.length){i:Nat}(hi:i<(xW mp old new).length) :
  (i<old.length/\pos mp i=none)\/∃ j,j<new.length/\i=fwd mp old.length j:=by
 by_cases h:i<old.length
 ·cases hp:pos mp i with
  | none=>grind
  | some j =>
   have:=dZ hp
   have hj:=(List.getElem?_eq_some_iff.1 this).1
   exact .inr ⟨j,by omega,by unfold fwd; rw[this]⟩
 ·have hl:i<old.length+(new.length-mp.length):=by simpa[xW,uq]using hi
  refine .inr ⟨mp.length+(i-old.length),by omega,?_⟩
  unfold fwd
  grind
end Go.AM
namespace Go.AM
set_option linter.unusedSectionVars false
variable [vz]
open Go.RowKit
section
variable {κ:KS} {mp:List Nat}
theorem C2{yJ l:List jW}{p1:List (Option (Nat×Nat))}(hI:Inv κ)(hn:y5 mp=true)(hp:dM κ.ph mp=some p1)(hl:dM κ.st mp=some l)(hr:lY (pos mp) l=some yJ) :
  Inv ⟨κ.w,κ.ok,p1,yJ⟩/\Tr κ ⟨κ.w,κ.ok,p1,yJ⟩ (pos mp)/\yJ.length=mp.length/\p1.length=mp.length/\∀ (j b:Nat),mp[j]? = some b->p1[j]? = κ.ph[b]? /\ ∃ x y:jW,κ.st[b]? = some x/\QU (pos mp) x=some y/\yJ[j]? = some y:=by
 obtain⟨a1,a2⟩:=Zs hp
 obtain⟨b1,b2⟩:=Zs hl
 obtain⟨c1,c2⟩:=Zj hr
 have key:∀ (j b:Nat),mp[j]? = some b->p1[j]? = κ.ph[b]? /\ ∃ x y:jW,κ.st[b]? = some x/\QU (pos mp) x=some y/\yJ[j]? = some y:=by
  grind
 have at':∀ {j:Nat} {y:jW},yJ[j]? = some y->∃ b,mp[j]? = some b:=λh=>by
  have:=(List.getElem?_eq_some_iff.1 h).1
  exact⟨_,List.getElem?_eq_getElem (by omega)⟩
 have hT:Tr κ ⟨κ.w,κ.ok,p1,yJ⟩ (pos mp):=by
  refine⟨rfl,rfl,λb j d hf hb => ?_,λb j qw hf ho => ?_,λb j v e xs hf hb => ?_⟩
  ·obtain⟨h1,x,y,h2,h3,h4⟩:=key j b (dZ hf)
   rw[hb]at h2
   cases h2
   simp only[QU]at h3
   grind
  ·obtain⟨h1,x,y,h2,h3,h4⟩:=key j b (dZ hf)
   rcases ho with ho | ⟨v0,e0,rB,ho,hv⟩
   ·rw[ho]at h2; cases h2; cases h3; exact .inl h4
   ·rw[ho]at h2; cases h2; cases h3; exact .inr ⟨v0,e0,rB,h4,hv⟩
  ·obtain⟨h1,x,y,h2,h3,h4⟩:=key j b (dZ hf)
   rw[show yJ[j]? = some (.arr v e xs)from hb]at h4
   cases h4
   cases x with
   | dead=>cases h3
   | var d=>simp only[QU]at h3; split at h3<;>cases h3
   | arr v0 e0 rB=>cases h3; exact⟨h2,h1⟩
 refine⟨⟨by show p1.length=yJ.length; omega,hI.y4,λj blk n h => ?_,λj j' blk n n' h h' => ?_,λj y h => ?_,hI.gl⟩,hT,by omega,a1,key⟩
 ·obtain⟨b,hb⟩:∃ b,mp[j]? = some b:=⟨_,List.getElem?_eq_getElem (by have:j<p1.length:=(List.getElem?_eq_some_iff.1 h).1; omega)⟩
  exact hI.apart b blk n ((a2 j b hb).1.symm.trans h)
 ·obtain⟨b,hb⟩:∃ b,mp[j]? = some b:=⟨_,List.getElem?_eq_getElem (by have:j<p1.length:=(List.getElem?_eq_some_iff.1 h).1; omega)⟩
  obtain⟨b',Km⟩:∃ b,mp[j']? = some b:=⟨_,List.getElem?_eq_getElem (by have:j'<p1.length:=(List.getElem?_eq_some_iff.1 h').1; omega)⟩
  have:=hI.inj b b' blk n n' ((a2 j b hb).1.symm.trans h) ((a2 j' b' Km).1.symm.trans h')
  subst this
  exact Option.some.inj ((ll hn hb).symm.trans (ll hn Km))
 ·obtain⟨b,hb⟩:=at' h
  obtain⟨h1,x,y',h2,h3,h4⟩:=key j b hb
  rw[show yJ[j]? = some y from h]at h4
  cases h4
  exact hT.blk h1 (hI.blk b x h2) h3
theorem Yp{κ1:KS}{yJ j3 l:List jW}{p1:List (Option (Nat×Nat))}(hI:Inv κ)(hn:y5 mp=true)(hp:dM κ.ph mp=some p1)(hl:dM κ.st mp=some l)(hr:lY (pos mp) l=some yJ)
  (Ze:Inv κ1) (hx:Ext ⟨κ.w,κ.ok,p1,yJ⟩ κ1) (hr2:lY (λj=>some (fwd mp κ.st.length j)) κ1.st=some j3) :
  ∃ κ':KS,κ'.w=κ1.w/\κ'.st=xW mp κ.st j3/\Inv κ'/\Ext κ κ'/\Tr κ1 κ' (λj=>some (fwd mp κ.st.length j)):=by
 obtain⟨hIs,hTs,s1,s2,key⟩:=C2 hI hn hp hl hr
 obtain⟨r1,r2⟩:=Zj hr2
 have qs:∀ (j b:Nat),mp[j]? = some b->b<κ.st.length:=λj b hj=>by obtain⟨_,x,_,h,_⟩:=key j b hj; exact(List.getElem?_eq_some_iff.1 h).1
 have zdg:∀ (j b:Nat),mp[j]? = some b->b<κ.ph.length:=λj b hj=>by rw[hI.len]; exact qs j b hj
 have hm1:mp.length<=κ1.st.length:=by have:=hx.G9; simp only at this; omega
 have B8:mp.length<=j3.length:=by omega
 have Nc:mp.length<=κ1.ph.length:=by rw[Ze.len]; exact hm1
 let fw:=fwd mp κ.st.length
 have hlen:(xW mp κ.ph κ1.ph).length=(xW mp κ.st j3).length:=by simp[xW,uq,hI.len,Ze.len,r1]
 -- what lies where
 have cst:∀ {j:Nat} {x:jW},κ1.st[j]? = some x->∃ y,(xW mp κ.st j3)[fw j]? = some y/\QU (λj=>some (fw j)) x=some y:=by
  intro j x hj
  obtain⟨y,h1,h2⟩:=r2 j x hj
  exact⟨y,by rw[G5 hn qs B8 (by rw[r1]; exact(List.getElem?_eq_some_iff.1 hj).1)]; exact h1,h2⟩
 have cph:∀ {j:Nat},j<κ1.st.length->(xW mp κ.ph κ1.ph)[fw j]? = κ1.ph[j]? := by
  intro j hj
  have:=G5 (old:=κ.ph) (new:=κ1.ph) hn zdg Nc (j:=j) (by rw[Ze.len]; exact hj)
  rw[hI.len]at this
  exact this
 have ust:∀ {i:Nat},i<κ.st.length->pos mp i=none->(xW mp κ.st j3)[i]? = κ.st[i]? := λhi h=>fD hi h
 have uph:∀ {i:Nat},i<κ.st.length->pos mp i=none->(xW mp κ.ph κ1.ph)[i]? = κ.ph[i]? := λhi h=>fD (by rw[hI.len]; exact hi) h
 have ZB:∀ {i:Nat},i<(xW mp κ.st j3).length->(i<κ.st.length/\pos mp i=none)\/∃ j,j<κ1.st.length/\i=fw j:=by
  intro i hi
  rcases Bz qs B8 hi with h | ⟨j,h1,h2⟩
  ·grind
  ·grind
 have L4:∀ {j b:Nat},mp[j]? = some b->fw j=b:=λh=>by simp only[fw,fwd,h]
 have zgP:∀ {j:Nat},mp[j]? = none->κ.st.length<=fw j:=λh=>by simp only[fw,fwd,h]; omega
 -- the part's own blocks
 have sph:∀ {j:Nat} {q:Nat×Nat},p1[j]? = some (some q)->∃ b,mp[j]? = some b/\κ.ph[b]? = some (some q):=by
  intro j q h
  have hj:=(List.getElem?_eq_some_iff.1 h).1
  obtain⟨b,hb⟩:∃ b,mp[j]? = some b:=⟨_,List.getElem?_eq_getElem (by omega)⟩
  grind
 have hT:Tr κ1 ⟨κ1.w,κ1.ok,xW mp κ.ph κ1.ph,xW mp κ.st j3⟩ (λj=>some (fw j)):=by
  refine⟨rfl,rfl,λj b d hf hj => ?_,λj b qw hf ho => ?_,λj b v e xs hf hb => ?_⟩
  ·cases hf
   obtain⟨y,h1,h2⟩:=cst hj
   simp only[QU]at h2
   grind
  ·cases hf
   rcases ho with ho | ⟨v0,e0,rB,ho,hv⟩
   ·obtain⟨y,h1,h2⟩:=cst ho; cases h2; exact .inl h1
   ·obtain⟨y,h1,h2⟩:=cst ho; cases h2; exact .inr ⟨v0,e0,rB,h1,hv⟩
  ·cases hf
   have hb:(xW mp κ.st j3)[fw j]? = some (.arr v e xs):=hb
   have YC:=(List.getElem?_eq_some_iff.1 hb).1
   have hj:j<κ1.st.length:=by
    by_cases hj:j<κ1.st.length
    ·exact hj
    ·exfalso
     cases hm:mp[j]? with
     | some c=>have:=(List.getElem?_eq_some_iff.1 hm).1; omega
     | none =>
      have h3:fw j=κ.st.length+(j-mp.length):=by simp only[fw,fwd,hm]
      have h4:(xW mp κ.st j3).length=κ.st.length+(j3.length-mp.length):=by simp[xW,uq]
      omega
   obtain⟨y,h1,h2⟩:=cst (List.getElem?_eq_getElem hj)
   rw[hb]at h1
   cases h1
   refine⟨?_,cph hj⟩
   rw[List.getElem?_eq_getElem hj]
   generalize κ1.st[j]=x at h2
   cases x with
   | dead=>cases h2
   | var d=>simp only[QU]at h2; split at h2<;>cases h2
   | arr v0 e0 rB=>cases h2; rfl
 -- Jc blocks lie as they lay
 have Jc:∀ {i blk n:Nat},pos mp i=none->κ.ph[i]? = some (some (blk,n))->κ1.w.heap[blk]? = κ.w.heap[blk]? := by
  intro i blk n hi h
  obtain⟨g1,g2⟩:=hI.apart i blk n h
  refine hx.frame blk g1 λj m hj => ?_
  obtain⟨b,Es,YW⟩:=sph hj
  have:=hI.inj i b blk n m h YW
  subst this
  rw[ll hn Es]at hi
  cases hi
 have hE:Ext κ ⟨κ1.w,κ1.ok,xW mp κ.ph κ1.ph,xW mp κ.st j3⟩:=by
  refine⟨hx.os,hx.tape,hx.output,hx.size,hx.same,λk hk => ?_,λi blk n h => ?_,λi d hi => ?_,λi v0 e rB hi => ?_,λi hi => ?_,?_,λk hk ya => ?_⟩
  ·rcases hx.fresh k hk with h | h | ⟨j,n,h⟩
   ·exact .inl h
   ·exact .inr (.inl h)
   ·obtain⟨b,_,hb⟩:=sph h; exact .inr (.inr ⟨b,n,hb⟩)
  ·have h:(xW mp κ.ph κ1.ph)[i]? = some (some (blk,n)):=h
   have VU:i<(xW mp κ.st j3).length:=by rw[<- hlen]; exact(List.getElem?_eq_some_iff.1 h).1
   rcases ZB VU with⟨h1,h2⟩ | ⟨j,h1,rfl⟩
   ·rw[uph h1 h2]at h; exact .inl h
   ·rw[cph h1]at h
    rcases hx.RI j blk n h with h3 | h3
    ·obtain⟨b,Es,YW⟩:=sph h3
     rw[L4 Es]; exact .inl YW
    ·exact .inr h3
  ·have LL:=(List.getElem?_eq_some_iff.1 hi).1
   cases YG:pos mp i with
   | none=>exact⟨⟨d,(ust LL YG).trans hi⟩,uph LL YG⟩
   | some j =>
    have RN:=dZ YG
    obtain⟨k1,x,y,k2,k3,k4⟩:=key j i RN
    rw[hi]at k2
    cases k2
    simp only[QU]at k3
    split at k3
    ·cases k3
     obtain⟨⟨d',g1⟩,g2⟩:=hx.var j _ k4
     obtain⟨⟨d'',q1⟩,q2⟩:=hT.var j (fw j) d' rfl g1
     rw[L4 RN]at q1 q2
     exact⟨⟨d'',q1⟩,q2.trans (g2.trans k1)⟩
    ·cases k3
  ·have LL:=(List.getElem?_eq_some_iff.1 hi).1
   cases YG:pos mp i with
   | none=>exact .inr ⟨v0,rB,(ust LL YG).trans hi,Nat.le_refl _,λ_=>⟨uph LL YG,rfl⟩⟩
   | some j =>
    have RN:=dZ YG
    obtain⟨k1,x,y,k2,k3,k4⟩:=key j i RN
    rw[hi]at k2
    cases k2
    cases k3
    rcases hx.arr j v0 e rB k4 with g | ⟨v1,gz,g1,g2,g3⟩
    ·obtain⟨y,q1,q2⟩:=cst g
     cases q2
     rw[L4 RN]at q1
     exact .inl q1
    ·obtain⟨y,q1,q2⟩:=cst g1
     cases q2
     rw[L4 RN]at q1
     refine .inr ⟨v1,gz,q1,g2,λhe=>⟨?_,(g3 he).2⟩⟩
     have h4:=cph (List.getElem?_eq_some_iff.1 g1).1
     rw[L4 RN]at h4
     exact h4.trans ((g3 he).1.trans k1)
  ·have LL:=(List.getElem?_eq_some_iff.1 hi).1
   cases YG:pos mp i with
   | none=>exact(ust LL YG).trans hi
   | some j =>
    have RN:=dZ YG
    obtain⟨k1,x,y,k2,k3,k4⟩:=key j i RN
    rw[hi]at k2
    cases k2
    cases k3
    obtain⟨y,q1,q2⟩:=cst (hx.dead j k4)
    cases q2
    rw[L4 RN]at q1
    exact q1
  ·show κ.st.length<=(xW mp κ.st j3).length
   simp[xW,uq]
  ·exact hx.frame k hk λj n hj=>by obtain⟨b,_,hb⟩:=sph hj; exact ya b n hb
 refine⟨⟨κ1.w,κ1.ok,xW mp κ.ph κ1.ph,xW mp κ.st j3⟩,rfl,rfl,⟨hlen,Ze.y4,λi blk n h => ?_,λi i' blk n n' h h' => ?_,λi y h => ?_,Ze.gl⟩,hE,hT⟩
 ·have h:(xW mp κ.ph κ1.ph)[i]? = some (some (blk,n)):=h
  have VU:i<(xW mp κ.st j3).length:=by rw[<- hlen]; exact(List.getElem?_eq_some_iff.1 h).1
  rcases ZB VU with⟨h1,h2⟩ | ⟨j,h1,rfl⟩
  ·rw[uph h1 h2]at h
   obtain⟨g1,g2⟩:=hI.apart i blk n h
   refine⟨Nat.lt_of_lt_of_le g1 hx.size,λhk => ?_⟩
   rcases hx.fresh blk hk with hk | hk | ⟨j,m,hj⟩
   ·exact g2 hk
   ·simp only at hk; omega
   ·obtain⟨b,Es,YW⟩:=sph hj
    have:=hI.inj i b blk n m h YW
    subst this
    rw[ll hn Es]at h2
    cases h2
  ·rw[cph h1]at h
   exact Ze.apart j blk n h
 ·have h:(xW mp κ.ph κ1.ph)[i]? = some (some (blk,n)):=h
  have h':(xW mp κ.ph κ1.ph)[i']? = some (some (blk,n')):=h'
  have Pw:i<(xW mp κ.st j3).length:=by rw[<- hlen]; exact(List.getElem?_eq_some_iff.1 h).1
  have z3a:i'<(xW mp κ.st j3).length:=by rw[<- hlen]; exact(List.getElem?_eq_some_iff.1 h').1
  have mixed:∀ {i j n n':Nat},i<κ.st.length->pos mp i=none->j<κ1.st.length->κ.ph[i]? = some (some (blk,n))->κ1.ph[j]? = some (some (blk,n'))->False:=by
   intro i j n n' h1 h2 h3 h4 h5
   rcases hx.RI j blk n' h5 with h6 | h6
   ·obtain⟨b,Es,YW⟩:=sph h6
    have:=hI.inj i b blk n n' h4 YW
    subst this
    rw[ll hn Es]at h2
    cases h2
   ·have:=(hI.apart i blk n h4).1
    simp only at h6
    omega
  rcases ZB Pw with⟨h1,h2⟩ | ⟨j,h1,rfl⟩
  ·rw[uph h1 h2]at h
   rcases ZB z3a with⟨h3,h4⟩ | ⟨j',h3,rfl⟩
   ·rw[uph h3 h4]at h'; exact hI.inj i i' blk n n' h h'
   ·rw[cph h3]at h'; exact(mixed h1 h2 h3 h h').elim
  ·rw[cph h1]at h
   rcases ZB z3a with⟨h3,h4⟩ | ⟨j',h3,rfl⟩
   ·rw[uph h3 h4]at h'; exact(mixed h3 h4 h1 h' h).elim
   ·rw[cph h3]at h'
    rw[Ze.inj j j' blk n n' h h']
 ·have h:(xW mp κ.st j3)[i]? = some y:=h
  rcases ZB (List.getElem?_eq_some_iff.1 h).1 with⟨h1,h2⟩ | ⟨j,h1,rfl⟩
  ·rw[ust h1 h2]at h
   exact(hI.blk i y h).mono hE (uph h1 h2) λblk n hb=>Jc h2 hb
  ·obtain⟨z,q1,q2⟩:=cst (List.getElem?_eq_getElem h1)
   rw[h]at q1
   cases q1
   exact hT.blk (cph h1) (Ze.blk j _ (List.getElem?_eq_getElem h1)) q2
end
end Go.AM
namespace Go.AM
set_option linter.unusedSectionVars false
variable [vz]
open Go.RowKit
inductive AK where
 | any | cur | sub | ptr | qS (f:Nat)
structure jD where
 ks:List AK
 sh:vH
 kh:List Gh
 out:vH
 nr:Nat
 F:sh.den->T out.den
def E8(fr:Fr):Nat->Nat->Option (List D)
 | 0,_=>some []
 | n+1,i=>match fr.get i with
  | some d=>match E8 fr n (i+1)with | some r=>some (d::r) | none=>none
  | none=>none
def yx(nr:Nat)(fr:Fr):Option (List D):=E8 fr nr 0
def ME:List (Nat×Nat)->List D->Nat->Option Nat
 | p::r,.ptr b' _::ds,b=>bif Nat.beq p.1 b then some b' else ME r ds b
 | _,_,_=>none
def z9c(b:Nat):Ck->D->Option Nat
 | .ptr c _,.ptr b' _=>bif Nat.beq c b then some b' else none
 | .cur c _,.ms b' _ _ _ _=>bif Nat.beq c b then some b' else none
 | .qS _ l,.qS _ ds=>ME l ds b
 | _,_=>none
def z3B(fr:Fr)(b:Nat):List (Nat×Ck)->Option Nat
 | []=>none
 | (s,k)::r=>match fr.get s with
  | some d=>match z9c b k d with | some b'=>some b' | none=>z3B fr b r
  | none=>z3B fr b r
def Gk(b:Nat):List Mc->List D->Option Nat
 | .pt c::r,.ptr b' _::ds=>bif Nat.beq c b then some b' else Gk b r ds
 | .pt _::r,_::ds=>Gk b r ds
 | .im _::r,_::ds=>Gk b r ds
 | .rp _::r,_::ds=>Gk b r ds
 | _,_=>none
def WX(b:Nat):List Sk->List D->Option Nat
 | .im τ::r,ds=>WX b r (ds.drop τ.size)
 | .row c _::r,.ms b' _ _ _ _::ds=>bif Nat.beq c b then some b' else WX b r ds
 | .row _ _::r,_::ds=>WX b r ds
 | .op c _::r,.kf b' _::ds=>bif Nat.beq c b then some b' else WX b r ds
 | .op _ _::r,_::ds=>WX b r ds
 | .un::r,_::ds=>WX b r ds
 | _,_=>none
def UI(fr:Fr)(b:Nat):List It->Option Nat
 | []=>none
 | .s s (.mclo _ ms)::r=>match fr.get s with
  | some (.qS _ l)=>match Gk b ms l with | some b'=>some b' | none=>UI fr b r
  | _=>UI fr b r
 | .s s (.sub c _)::r=>match fr.get s with
  | some (.ms b' _ _ _ _)=>bif Nat.beq c b then some b' else UI fr b r
  | _=>UI fr b r
 | _::r=>UI fr b r
def LS(st:St)(b:Nat):List Bk->List (Option Nat)->Option Nat
 | .cvar k::r,some p::ps=>match st[p]? with
  | some (.var d)=>match z9c b k d with | some b'=>some b' | none=>LS st b r ps
  | _=>LS st b r ps
 | .var (.st ks)::r,some p::ps=>match st[p]? with
  | some (.var d)=>match WX b ks (qe d)with | some b'=>some b' | none=>LS st b r ps
  | _=>LS st b r ps
 | _::r,_::ps=>LS st b r ps
 | _,_=>none
def z9I(sh:vH)(fr:Fr):Nat->List Bk->List (Option Nat)
 | _,[]=>[]
 | b,_::r=>(match z3B fr b sh.cs with | some b'=>some b' | none=>UI fr b sh.mm)::z9I sh fr (b+1) r
def Tc(sh:vH)(st:St)(m:List (Option Nat)):Nat->List (Option Nat)->List (Option Nat)
 | _,[]=>[]
 | b,some b'::r=>some b'::Tc sh st m (b+1) r
 | b,none::r=>LS st b sh.bs m::Tc sh st m (b+1) r
def z9a:List (Option Nat)->Option (List Nat)
 | []=>some []
 | some b::r=>match z9a r with | some l=>some (b::l) | none=>none
 | none::_=>none
def mapOf(sh:vH)(fr:Fr)(st:St):Option (List Nat):=let m:=z9I sh fr 0 sh.bs
 let m:=Tc sh st m 0 m
 z9a (Tc sh st m 0 m)
def jD.back(d:jD)(mp:List Nat)(st:St)(y:d.out.den):T (Ku×St):=match yx d.nr (d.out.fr y),lY (λj=>some (fwd mp st.length j)) (d.out.st y)with
 | some ds,some j3=>match Qu (λj=>some (fwd mp st.length j)) ds with
  | some Uq=>.ret (.ret Uq,xW mp st j3)
  | none=>.fail
 | _,_=>.fail
def jD.inner(d:jD)(mp:List Nat)(fr:Fr)(st:St):T (Ku×St):=match dM st mp with
 | none=>.fail
 | some l=>match lY (pos mp) l with
  | none=>.fail
  | some yJ=>(d.sh.un (pG (pos mp) fr) yJ).bind λx=>(d.F x).bind λy=>d.back mp st y
def jD.S(d:jD)(args:List D)(st:St):T (Ku×St) :=
 match mapOf d.sh (gh d.kh (w6 args 0) st).1 (gh d.kh (w6 args 0) st).2 with
 | none=>.fail
 | some mp=>bif y5 mp&&Nat.ble mp.length d.sh.bs.length&&Nat.beq args.length d.ks.length then d.inner mp (gh d.kh (w6 args 0) st).1 (gh d.kh (w6 args 0) st).2 else .fail
def jD.W0{α:Type}(d:jD)(mp:List Nat)(st:St)(y:d.out.den)(k:List D->St->T α):T α:=match yx d.nr (d.out.fr y),lY (λj=>some (fwd mp st.length j)) (d.out.st y)with
 | some ds,some j3=>match Qu (λj=>some (fwd mp st.length j)) ds with
  | some Uq=>k Uq (xW mp st j3)
  | none=>.fail
 | _,_=>.fail
def jD.mz{α:Type}(d:jD)(mp:List Nat)(fr:Fr)(st:St)(k:List D->St->T α):T α:=match dM st mp with
 | none=>.fail
 | some l=>match lY (pos mp) l with
  | none=>.fail
  | some yJ=>(d.sh.un (pG (pos mp) fr) yJ).bind λx=>(d.F x).bind λy=>d.W0 mp st y k
def jD.K{α:Type}(d:jD)(args:List D)(st:St)(k:List D->St->T α):T α :=
 match mapOf d.sh (gh d.kh (w6 args 0) st).1 (gh d.kh (w6 args 0) st).2 with
 | none=>.fail
 | some mp=>bif y5 mp&&Nat.ble mp.length d.sh.bs.length&&Nat.beq args.length d.ks.length then d.mz mp (gh d.kh (w6 args 0) st).1 (gh d.kh (w6 args 0) st).2 k else .fail
theorem jD.OL{α:Type}{d:jD}{args:List D}{st:St}{k:List D->St->T α}{r:α}(h:(d.K args st k).leads r):∃ ds zq,(d.S args st).leads (.ret ds,zq)/\(k ds zq).leads r:=by
 unfold jD.K at h
 unfold jD.S
 split at h
 ·exact h.elim
 ·rename_i mp Nc
  cases hc:y5 mp&&Nat.ble mp.length d.sh.bs.length&&Nat.beq args.length d.ks.length with
  | false=>rw[hc]at h; exact h.elim
  | true =>
   rw[hc,cond_true]at h
   unfold jD.mz at h
   unfold jD.inner
   split at h
   ·exact h.elim
   ·rename_i l hl
    split at h
    ·exact h.elim
    ·rename_i yJ hst1
     obtain⟨x,h1,h⟩:=T.zd.1 h
     obtain⟨y,h2,h⟩:=T.zd.1 h
     unfold jD.W0 at h
     split at h
     ·rename_i ds j3 e1 e2
      split at h
      ·rename_i Uq e3
       refine⟨Uq,_,T.zd.2 ⟨x,h1,T.zd.2 ⟨y,h2,?_⟩⟩,h⟩
       unfold jD.back
       simp only[e1,e2,e3]
       rfl
      ·exact h.elim
     ·exact h.elim
def yb(Dr:OB)(g:Nat)(d:jD):Prop:=∀ (κ:KS) (x:d.sh.den) (zw:List Value) (y:d.out.den),κ.st=d.sh.st x->(d.F x).leads y->Inv κ->zw.length=d.ks.length ->
 Rel κ zw.length (d.sh.fr x).get { tmps:=zw.toArray,defers:=[] } ->
 Dr g zw.toArray κ.w λe w'=>∃ (κ':KS) (ds:List D),κ'.w=w'/\κ'.st=d.out.st y/\Inv κ'/\Ext κ κ'/\yx d.nr (d.out.fr y)=some ds/\wc κ' (.ret ds) e
def xN(P:Program)(g:Nat)(d:jD):Prop:=∀ (κ:KS) (x:d.sh.den) (zw:List Value) (y:d.out.den),κ.st=d.sh.st x->(d.F x).leads y->Inv κ->zw.length=d.ks.length ->
 Rel κ zw.length (d.sh.fr x).get { tmps:=zw.toArray,defers:=[] } ->
 ug P g zw.toArray κ.w λe w'=>∃ (κ':KS) (ds:List D),κ'.w=w'/\κ'.st=d.out.st y/\Inv κ'/\Ext κ κ'/\yx d.nr (d.out.fr y)=some ds/\wc κ' (.ret ds) e
theorem Fm{κ κ':KS}{f:Nat->Option Nat}(h:Tr κ κ' f){ds Uq:List D}{v:Value}(hd:RD κ (kO ds) v)(hr:Qu f ds=some Uq):RD κ' (kO Uq) v:=by
 match ds,hr with
 | [],hr =>
  cases hr
  cases hd with
  | kY _ vs hl hh =>
   obtain rfl:vs=[]:=List.eq_nil_of_length_eq_zero hl.symm
   exact .kY [] [] rfl (λi h=>absurd h (Nat.not_lt_zero i))
 | [d],hr =>
  simp only[Qu]at hr
  split at hr
  ·rename_i d' h1
   cases hr
   exact h.rd hd h1
  ·cases hr
 | d::e::r,hr =>
  cases hd with
  | kY _ vs hl hh =>
   have hR:=h.rds (⟨hl,hh⟩:qA κ (d::e::r) vs) hr
   simp only[Qu]at hr
   split at hr
   ·split at hr
    ·rename_i r' h2
     cases hr
     split at h2
     ·split at h2
      ·cases h2; exact .kY _ vs hR.1 hR.2
      ·cases h2
     ·cases h2
    ·cases hr
   ·cases hr
theorem ry{α β:Type}{l:List α}{m:List β}(h:l.length=m.length):∀ {mp:List Nat} {r:List α},dM l mp=some r->∃ q,dM m mp=some q
 | [],_,_=>⟨[],rfl⟩
 | b::mp,r,hr=>by
  simp only[dM]at hr
  split at hr
  ·rename_i x hx
   split at hr
   ·rename_i y hy
    obtain⟨q,hq⟩:=ry h hy
    have hb:b<m.length:=by have:=(List.getElem?_eq_some_iff.1 hx).1; omega
    exact⟨m[b]::q,by simp only[dM,List.getElem?_eq_getElem hb,hq]⟩
   ·cases hr
  ·cases hr
theorem jD.z3W{Dr:OB}(z7S:∀ {g a w} {R R':Ending->World->Prop},Dr g a w R->(∀ e w',R e w'->R' e w')->Dr g a w R'){g:Nat}{d:jD}(h:yb Dr g d):zbm Dr g d.S:=by
 intro κ args zw rs zq hl hI ha
 have NO:Rel κ zw.length (w6 args 0).get { tmps:=zw.toArray,defers:=[] }:=by
  have:=tn (n:=zw.length) ha (by rw[ha.1]; exact Nat.le_refl _)
  simpa[show(VW.df:List Deferred)=[]from rfl]using this
 obtain⟨κ0,w1,w2,w3,w4,w5⟩:=fP d.kh (w6 args 0) κ hI NO
 unfold jD.S at hl
 rw[<- w2]at hl
 split at hl
 ·exact hl.elim
 ·rename_i mp Nc
  cases hc:y5 mp&&Nat.ble mp.length d.sh.bs.length&&Nat.beq args.length d.ks.length with
  | false=>rw[hc]at hl; exact hl.elim
  | true =>
   rw[hc,cond_true]at hl
   simp only[Bool.and_eq_true]at hc
   obtain⟨⟨hn,hle⟩,hlen⟩:=hc
   unfold jD.inner at hl
   split at hl
   ·exact hl.elim
   ·rename_i l Qa
    split at hl
    ·exact hl.elim
    ·rename_i yJ hst1
     obtain⟨x,h1,hl⟩:=T.zd.1 hl
     obtain⟨y,h2,hl⟩:=T.zd.1 hl
     obtain⟨p1,hpp⟩:=ry (m:=κ0.ph) w3.len.symm Qa
     obtain⟨s1,s2,s3,s4,s5⟩:=C2 w3 hn hpp Qa hst1
     have Jg:Rel ⟨κ0.w,κ0.ok,p1,yJ⟩ zw.length (pG (pos mp) (gh d.kh (w6 args 0) κ.st).1).get { tmps:=zw.toArray,defers:=[] } :=
      ⟨w5.size,w5.defers,λs d' hd=>by
       obtain⟨d0,q1,q2⟩:=o7 hd
       obtain⟨v,q3,q4⟩:=w5.get s d0 q1
       exact⟨v,q3,s2.rd q4 q2⟩⟩
     obtain⟨κ2,u1,u2,u3,u4,u5,_⟩:=d.sh.sN (κ0:=⟨κ0.w,κ0.ok,p1,yJ⟩) (κ:=⟨κ0.w,κ0.ok,p1,yJ⟩) (Ext.refl _) s1 Jg (by show yJ.length<=_; rw[s3]; exact Nat.le_of_ble_eq_true hle) h1
     have hw:κ2.w=κ.w:=u1.trans w1
     have hdo:=h κ2 x zw y u2 h2 u3 (by rw[<- ha.1]; exact Nat.eq_of_beq_eq_true hlen) u5
     rw[hw]at hdo
     refine z7S hdo ?_
     rintro e w' ⟨κ3,ds,rfl,g1,g2,g3,g4,v,rfl,g5⟩
     unfold jD.back at hl
     rw[g4,<- g1]at hl
     split at hl
     ·rename_i ds0 j3 e1 e2
      cases e1
      split at hl
      ·rename_i Uq hds'
       cases hl
       obtain⟨κ',k1,k2,k3,k4,k5⟩:=Yp w3 hn hpp Qa hst1 g2 (u4.trans g3) e2
       exact⟨κ',k1,k2,k3,w4.trans k4,v,rfl,Fm k5 g5 hds'⟩
      ·exact hl.elim
     ·exact hl.elim
theorem jD.snd{P:Program}{g:Nat}{d:jD}(h:xN P g d):YB P g d.S:=jD.z3W (Dr:=ug P) ug.mono h
structure eA where
 ks:List AK
 sh:vH
 kh:List Gh
 out:vH
 nr:Nat
 pt:Nat
 kb:vH
 F:sh.den->T (out.den⊕kb.den)
abbrev eA.s(d:eA):jD:=⟨d.ks,d.sh,d.kh,d.out,d.nr,λ_=>.fail⟩
def eA.Nu{α:Type}(d:eA)(mp:List Nat)(st:St)(z:d.kb.den)(kp:D->St->T α):T α:=match(d.kb.fr z).get 0,lY (λj=>some (fwd mp st.length j)) (d.kb.st z)with
 | some (.zD τ x),some j3=>kp (.iface d.pt (.zD τ x)) (xW mp st j3)
 | _,_=>.fail
def eA.mz{α:Type}(d:eA)(mp:List Nat)(fr:Fr)(st:St)(k:List D->St->T α)(kp:D->St->T α):T α:=match dM st mp with
 | none=>.fail
 | some l=>match lY (pos mp) l with
  | none=>.fail
  | some yJ=>(d.sh.un (pG (pos mp) fr) yJ).bind λx=>(d.F x).bind (Sum.elim (λy=>d.s.W0 mp st y k) (λz=>d.Nu mp st z kp))
def eA.K{α:Type}(d:eA)(args:List D)(st:St)(k:List D->St->T α)(kp:D->St->T α):T α :=
 match mapOf d.sh (gh d.kh (w6 args 0) st).1 (gh d.kh (w6 args 0) st).2 with
 | none=>.fail
 | some mp=>bif y5 mp&&Nat.ble mp.length d.sh.bs.length&&Nat.beq args.length d.ks.length then d.mz mp (gh d.kh (w6 args 0) st).1 (gh d.kh (w6 args 0) st).2 k kp else .fail
def eA.S(d:eA)(args:List D)(st:St):T (Ku×St):=d.K args st (λds zq=>.ret (.ret ds,zq)) (λp zq=>.ret (.kb p,zq))
theorem eA.OL{α:Type}{d:eA}{args:List D}{st:St}{k:List D->St->T α}{kp:D->St->T α}{r:α}(h:(d.K args st k kp).leads r) :
  (∃ ds zq,(d.S args st).leads (.ret ds,zq)/\(k ds zq).leads r)\/∃ p zq,(d.S args st).leads (.kb p,zq)/\(kp p zq).leads r:=by
 unfold eA.K at h
 unfold eA.S eA.K
 split at h
 ·exact h.elim
 ·rename_i mp Nc
  cases hc:y5 mp&&Nat.ble mp.length d.sh.bs.length&&Nat.beq args.length d.ks.length with
  | false=>rw[hc]at h; exact h.elim
  | true =>
   rw[hc,cond_true]at h
   unfold eA.mz at h
   unfold eA.mz
   split at h
   ·exact h.elim
   ·rename_i l hl
    split at h
    ·exact h.elim
    ·rename_i yJ hst1
     obtain⟨x,h1,h⟩:=T.zd.1 h
     obtain⟨y,h2,h⟩:=T.zd.1 h
     cases y with
     | inl y =>
      simp at h
      unfold jD.W0 at h
      split at h
      ·rename_i ds j3 e1 e2
       split at h
       ·rename_i Uq e3
        refine .inl ⟨Uq,_,T.zd.2 ⟨x,h1,T.zd.2 ⟨.inl y,h2,?_⟩⟩,h⟩
        simp
        unfold jD.W0
        simp only[e1,e2,e3]
        rfl
       ·exact h.elim
      ·exact h.elim
     | inr z =>
      simp at h
      unfold eA.Nu at h
      split at h
      ·rename_i τ p j3 e1 e2
       refine .inr ⟨_,_,T.zd.2 ⟨x,h1,T.zd.2 ⟨.inr z,h2,?_⟩⟩,h⟩
       simp
       unfold eA.Nu
       simp only[e1,e2]
       rfl
      ·exact h.elim
def jV(P:Program)(g:Nat)(d:eA):Prop:=∀ (κ:KS) (x:d.sh.den) (zw:List Value) (r:d.out.den⊕d.kb.den),κ.st=d.sh.st x->(d.F x).leads r->Inv κ->zw.length=d.ks.length ->
 Rel κ zw.length (d.sh.fr x).get { tmps:=zw.toArray,defers:=[] } ->
 ug P g zw.toArray κ.w λe w'=>∃ κ':KS,κ'.w=w'/\Inv κ'/\Ext κ κ' /\
  ((∃ (y:d.out.den) (ds:List D),r=.inl y/\κ'.st=d.out.st y/\yx d.nr (d.out.fr y)=some ds/\wc κ' (.ret ds) e) \/
   ∃ (z:d.kb.den) (p:D),r=.inr z/\κ'.st=d.kb.st z/\(d.kb.fr z).get 0=some p/\wc κ' (.kb (.iface d.pt p)) e)
theorem eA.snd{P:Program}{g:Nat}{d:eA}(h:jV P g d):YB P g d.S:=by
 intro κ args zw rs zq hl hI ha
 have NO:Rel κ zw.length (w6 args 0).get { tmps:=zw.toArray,defers:=[] }:=by
  have:=tn (n:=zw.length) ha (by rw[ha.1]; exact Nat.le_refl _)
  simpa[show(VW.df:List Deferred)=[]from rfl]using this
 obtain⟨κ0,w1,w2,w3,w4,w5⟩:=fP d.kh (w6 args 0) κ hI NO
 unfold eA.S eA.K at hl
 rw[<- w2]at hl
 split at hl
 ·exact hl.elim
 ·rename_i mp Nc
  cases hc:y5 mp&&Nat.ble mp.length d.sh.bs.length&&Nat.beq args.length d.ks.length with
  | false=>rw[hc]at hl; exact hl.elim
  | true =>
   rw[hc,cond_true]at hl
   simp only[Bool.and_eq_true]at hc
   obtain⟨⟨hn,hle⟩,hlen⟩:=hc
   unfold eA.mz at hl
   split at hl
   ·exact hl.elim
   ·rename_i l Qa
    split at hl
    ·exact hl.elim
    ·rename_i yJ hst1
     obtain⟨x,h1,hl⟩:=T.zd.1 hl
     obtain⟨y,h2,hl⟩:=T.zd.1 hl
     obtain⟨p1,hpp⟩:=ry (m:=κ0.ph) w3.len.symm Qa
     obtain⟨s1,s2,s3,s4,s5⟩:=C2 w3 hn hpp Qa hst1
     have Jg:Rel ⟨κ0.w,κ0.ok,p1,yJ⟩ zw.length (pG (pos mp) (gh d.kh (w6 args 0) κ.st).1).get { tmps:=zw.toArray,defers:=[] } :=
      ⟨w5.size,w5.defers,λs d' hd=>by
       obtain⟨d0,q1,q2⟩:=o7 hd
       obtain⟨v,q3,q4⟩:=w5.get s d0 q1
       exact⟨v,q3,s2.rd q4 q2⟩⟩
     obtain⟨κ2,u1,u2,u3,u4,u5,_⟩:=d.sh.sN (κ0:=⟨κ0.w,κ0.ok,p1,yJ⟩) (κ:=⟨κ0.w,κ0.ok,p1,yJ⟩) (Ext.refl _) s1 Jg (by show yJ.length<=_; rw[s3]; exact Nat.le_of_ble_eq_true hle) h1
     have hw:κ2.w=κ.w:=u1.trans w1
     have hdo:=h κ2 x zw y u2 h2 u3 (by rw[<- ha.1]; exact Nat.eq_of_beq_eq_true hlen) u5
     rw[hw]at hdo
     refine hdo.mono ?_
     rintro e w' ⟨κ3,rfl,g2,g3,⟨y,ds,rfl,g1,g4,v,rfl,g5⟩ | ⟨z,p,rfl,g1,g4,v,rfl,g5⟩⟩
     ·simp only[Sum.elim_inl]at hl
      unfold jD.W0 at hl
      rw[show yx d.s.nr (d.s.out.fr y)=some ds from g4,show d.s.out.st y=κ3.st from g1.symm]at hl
      split at hl
      ·rename_i ds0 j3 e1 e2
       cases e1
       split at hl
       ·rename_i Uq hds'
        cases hl
        obtain⟨κ',k1,k2,k3,k4,k5⟩:=Yp w3 hn hpp Qa hst1 g2 (u4.trans g3) e2
        exact⟨κ',k1,k2,k3,w4.trans k4,v,rfl,Fm k5 g5 hds'⟩
       ·exact hl.elim
      ·exact hl.elim
     ·simp only[Sum.elim_inr]at hl
      unfold eA.Nu at hl
      rw[g4,<- g1]at hl
      split at hl
      ·rename_i τ q j3 e1 e2
       cases e1
       cases hl
       obtain⟨κ',k1,k2,k3,k4,k5⟩:=Yp w3 hn hpp Qa hst1 g2 (u4.trans g3) e2
       refine⟨κ',k1,k2,k3,w4.trans k4,v,rfl,?_⟩
       cases g5 with
       | iface _ _ u hu=>exact .iface _ _ u (k5.rd hu rfl)
      ·exact hl.elim
end Go.AM
namespace Go.AM
def Y8(sh:vH)(kh:List Gh)(args:List D)(st:St):List Nat:=bif kh.isEmpty then match mapOf sh (w6 args 0) st with | some mp=>others st.length mp | none=>[]else[]
def jD.free(d:jD)(args:List D)(st:St):List Nat:=Y8 d.sh d.kh args st
def eA.free(d:eA)(args:List D)(st:St):List Nat:=Y8 d.sh d.kh args st
theorem GA{m b:Nat}{l:List Nat}(h:b∈others m l):b<m/\∀ x∈l,b≠x:=by
 simp only[others,List.mem_filter,List.mem_range,Bool.not_eq_true',List.any_eq_false]at h
 exact⟨h.1,λx hx e=>by subst e; exact h.2 b hx (Nat.beq_refl _)⟩
theorem GC:∀ {mp:List Nat} {b:Nat},(∀ x∈mp,b≠x)->pos mp b=none
 | [],_,_=>rfl
 | x::r,b,h=>by
  simp only[pos]
  rw[show Nat.beq x b=false from by cases hb:Nat.beq x b with | false=>rfl | true=>exact absurd (Nat.eq_of_beq_eq_true hb).symm (h x List.mem_cons_self),cond_false,GC λy hy=>h y (List.mem_cons_of_mem _ hy)]
theorem XB{sh:vH}{kh:List Gh}{args:List D}{st:St}{b:Nat}(hb:b∈Y8 sh kh args st):kh=[]/\∃ mp,mapOf sh (w6 args 0) st=some mp/\b<st.length/\pos mp b=none:=by
 unfold Y8 at hb
 cases hn:kh.isEmpty with
 | false=>grind
 | true =>
  rw[hn,cond_true]at hb
  refine⟨List.isEmpty_iff.1 hn,?_⟩
  split at hb
  ·rename_i mp Nc
   obtain⟨h1,h2⟩:=GA hb
   exact⟨mp,Nc,h1,GC h2⟩
  ·cases hb
theorem jD.Zd{d:jD}{args:List D}{st zq:St}{rs:Ku}{b:Nat}(h:(d.S args st).leads (rs,zq))(hb:b∈d.free args st):zq[b]? = st[b]? := by
 obtain⟨hn,mp,Nc,qs,sE⟩:=XB hb
 unfold jD.S at h
 rw[hn]at h
 simp only[gh,Nc]at h
 cases hc:y5 mp&&Nat.ble mp.length d.sh.bs.length&&Nat.beq args.length d.ks.length with
 | false=>rw[hc]at h; exact h.elim
 | true =>
  rw[hc,cond_true]at h
  unfold jD.inner at h
  split at h
  ·exact h.elim
  ·split at h
   ·exact h.elim
   ·obtain⟨x,_,h⟩:=T.zd.1 h
    obtain⟨y,_,h⟩:=T.zd.1 h
    unfold jD.back at h
    split at h
    ·split at h
     ·cases h; exact fD qs sE
     ·exact h.elim
    ·exact h.elim
theorem eA.Zd{d:eA}{args:List D}{st zq:St}{rs:Ku}{b:Nat}(h:(d.S args st).leads (rs,zq))(hb:b∈d.free args st):zq[b]? = st[b]? := by
 obtain⟨hn,mp,Nc,qs,sE⟩:=XB hb
 unfold eA.S eA.K at h
 rw[hn]at h
 simp only[gh,Nc]at h
 cases hc:y5 mp&&Nat.ble mp.length d.sh.bs.length&&Nat.beq args.length d.ks.length with
 | false=>rw[hc]at h; exact h.elim
 | true =>
  rw[hc,cond_true]at h
  unfold eA.mz at h
  split at h
  ·exact h.elim
  ·split at h
   ·exact h.elim
   ·obtain⟨x,_,h⟩:=T.zd.1 h
    obtain⟨y,_,h⟩:=T.zd.1 h
    cases y with
    | inl y =>
     simp at h
     unfold jD.W0 at h
     split at h
     ·split at h
      ·cases h; exact fD qs sE
      ·exact h.elim
     ·exact h.elim
    | inr z =>
     simp at h
     unfold eA.Nu at h
     split at h
     ·cases h; exact fD qs sE
     ·exact h.elim
end Go.AM
namespace Go.AM
def sn.den:sn->Type
 | .ty τ=>AM.den τ
 | .rp τ=>AM.den τ
 | .qS _ caps=>gm caps
def jX:List sn->Type
 | []=>Unit
 | [p]=>p.den
 | p::q::r=>p.den×jX (q::r)
def RY:(p:sn)->p.den->D
 | .ty τ,x=>.zD τ x
 | .rp τ,x=>.qN τ x
 | .qS f caps,x=>.qS f (lz caps x)
def Zq:(l:List sn)->jX l->List D
 | [],_=>[]
 | [p],x=>[RY p x]
 | p::q::r,x=>RY p x.1::Zq (q::r) x.2
def tp:(l:List Ty)->YD l->List D
 | [],_=>[]
 | [τ],x=>[.zD τ x]
 | τ::σ::r,x=>.zD τ x.1::tp (σ::r) x.2
def rpX(st:St)(τ:Ty):D->T (den τ)
 | .qN _ x=>match(wv x:Option (den τ))with | some y=>.ret y | none=>.fail
 | .ptr b off=>match st[b]? with
  | some (.var d)=>match bif Nat.beq off 0 then cN τ d else none with | some y=>.ret y | none=>.fail
  | _=>.fail
 | _=>.fail
def Sn(st:St):(p:Zm)->D->T (den p.ty)
 | .im τ,d=>Z7 st τ d
 | .rp τ,d=>rpX st τ d
def EA(st:St):(l:List Zm)->List D->T (gm l)
 | [],[]=>.ret ()
 | [p],[d]=>Sn st p d
 | p::q::r,d::ds=>(Sn st p d).bind λx=>(EA st (q::r) ds).bind λy=>.ret (x,y)
 | _,_=>.fail
def unP(st:St):(p:sn)->D->T p.den
 | .ty τ,d=>Z7 st τ d
 | .rp τ,d=>rpX st τ d
 | .qS f caps,d=>match d with
  | .qS f' l=>bif Nat.beq f f' then EA st caps l else .fail
  | _=>.fail
def Hd(st:St):(l:List sn)->List D->T (jX l)
 | [],[]=>.ret ()
 | [p],[d]=>unP st p d
 | p::q::r,d::ds=>(unP st p d).bind λx=>(Hd st (q::r) ds).bind λy=>.ret (x,y)
 | _,_=>.fail
def NA(st:St):(l:List Ty)->List D->T (YD l)
 | [],[]=>.ret ()
 | [τ],[d]=>Z7 st τ d
 | τ::σ::r,d::ds=>(Z7 st τ d).bind λx=>(NA st (σ::r) ds).bind λy=>.ret (x,y)
 | _,_=>.fail
structure G0 where
 ps:List sn
 rs:List Ty
 F:jX ps->T (YD rs)
def z4z:sn->D->Bool
 | .qS f _,d=>match d with | .qS f' _=>Nat.beq f f' | _=>false
 | _,d=>match d with | .qS _ _=>false | _=>true
def fits:List sn->List D->Bool
 | [],[]=>true
 | p::ps,d::ds=>z4z p d&&fits ps ds
 | _,_=>false
def z3m:AK->D->Bool
 | .any,d=>match d with | .qS _ _=>false | _=>true
 | .cur,d=>match d with | .ms .. => true | .xo=>true | _=>false
 | .sub,d=>match d with | .ms .. => true | _=>false
 | .ptr,d=>match d with | .ptr .. => true | _=>false
 | .qS f,d=>match d with | .qS f' _=>Nat.beq f f' | _=>false
def lZ:List AK->List D->Bool
 | [],[]=>true
 | p::ps,d::ds=>z3m p d&&lZ ps ds
 | _,_=>false
inductive S1 where
 | d (x:G0)
 | s (x:jD)
 | p (x:eA)
def S1.fits:S1->List D->Bool
 | .d x,l=>AM.fits x.ps l
 | .s x,l=>lZ x.ks l
 | .p x,l=>lZ x.ks l
abbrev c8:=List (Nat×S1)
def c8.find:c8->Nat->List D->Option S1
 | [],_,_=>none
 | (g',d)::r,g,args=>bif Nat.beq g' g&&d.fits args then some d else c8.find r g args
abbrev Sm:=List D->St->T (Ku×St)
def G0.S(d:G0):Sm:=λargs st=>match st with
 | []=>(Hd [] d.ps args).bind λx=>(d.F x).bind λy=>.ret (.ret (tp d.rs y),[])
 | _=>.fail
def c8.call(tab:c8)(g:Nat)(args:List D)(st:St):T (Ku×St):=match tab.find g args with | some (.d d)=>d.S args st | some (.s d)=>d.S args st | some (.p d)=>d.S args st | none=>.fail
def c8.free(tab:c8)(g:Nat)(args:List D)(st:St):List Nat:=match tab.find g args with | some (.s d)=>d.free args st | some (.p d)=>d.free args st | _=>[]
theorem c8.Zd(tab:c8)(g:Nat)(args:List D)(st:St)(rs:Ku)(zq:St)(b:Nat)(h:(tab.call g args st).leads (rs,zq))(hb:b∈tab.free g args st):zq[b]? = st[b]? := by
 unfold c8.call at h
 unfold c8.free at hb
 split at hb
 ·rename_i d hd; rw[hd]at h; exact jD.Zd h hb
 ·rename_i d hd; rw[hd]at h; exact eA.Zd h hb
 ·cases hb
def vJ(P:Program)(xid:Nat)(tab:c8)(ro:Nat->Bool):Ctx :=
 { P,xid,ro,sig:=λg args=>match tab.find g args with | some (.d d)=>some ⟨d.ps,d.rs⟩ | _=>none,fn:=tab.call,free:=tab.free,PA:=tab.Zd }
def z1s{α:Type}(tab:c8)(g:Nat)(args:List D)(st:St)(k:Nat->Option D->St->T α)(kp:D->St->T α):T α:=match tab.find g args with
 | none=>.fail
 | some (.d d)=>bif !(args.any Wy)then(Hd [] d.ps args).bind λx=>(d.F x).bind λy=>k 0 (some (kO (tp d.rs y))) st
  else(Hd st d.ps args).bind λx=>(d.F x).bind λy=>bif (tp d.rs y).all oz then k 1 (some (kO (tp d.rs y))) st else .fail
 | some (.s d)=>d.K args st λds zq=>k 2 (some (kO ds)) zq
 | some (.p d)=>d.K args st (λds zq=>k 2 (some (kO ds)) zq) kp
def Y5{α:Type}(tab:c8)(f:Option D)(args:List (Option D))(st:St)(k:Nat->Option D->St->T α)(kp:D->St->T α):T α:=match f,u6 args with
 | some (.qS g caps),some l=>z1s tab (y8 g) (uT g l caps) st k kp
 | _,_=>.fail
def bU(l:List Nat):Fr:=l.map λs=>(s,none)
def dstsOf:List Oper->List Nat
 | []=>[]
 | o::r=>match o.dst with | some t=>t::dstsOf r | none=>dstsOf r
def qi:Code->List Nat
 | .region _ ops _=>dstsOf ops.toList
 | .seq a b=>qi a++qi b
 | .cond _ a b=>qi a++qi b
 | .block _ a=>qi a
 | .loop a=>qi a
 | _=>[]
structure zU where
 gh:List Gh
 ps:List It
 sh:vH
 ws:List Way
 F:wC ps->sh.den->T (yL ws)
inductive TM where
 | flat (mm:List It)
 | ways (ws:List Way)
 | z98
structure Hints where
 loop:Nat->Option zU
 cut:Nat->Nat->Option TM
 RT:Nat->List Nat
def dy:Code->Option Nat
 | .region id _ _=>some id
 | .seq a b=>match dy a with | some n=>some n | none=>dy b
 | .cond _ a b=>match dy a with | some n=>some n | none=>dy b
 | .block _ a=>dy a
 | .loop a=>dy a
 | _=>none
def keyOf(x:Code):Nat×Nat:=(match x with | .region .. => 0 | .cond .. => 1 | .block .. => 2 | _=>3,match dy x with | some n=>n | none=>0)
def z2e(l:List Nat)(s:Nat):Bool := !(l.any (Nat.beq s))
def X5:Dk->Bool
 | .sub _ _=>false
 | .st _=>false
 | .mclo _ _=>false
 | _=>true
def Ct(ps:List It)(ws:List Nat):Bool:=ps.all λi=>match i with
 | .s t k=>X5 k&&z2e ws t
 | _=>false
def KF{α:Type}:T α->Option α
 | .ret a=>some a
 | .ite _ t e=>match KF t with | some a=>some a | none=>KF e
 | .zA _ t=>KF t
 | .fail=>none
def YP{α β:Type}(f:α->β):T α->T β
 | .ret a=>.ret (f a)
 | .ite b t e=>.ite b (YP f t) (YP f e)
 | .zA p t=>.zA p (YP f t)
 | .fail=>.fail
def L9:(l:List It)->wC l->T (wC l)->wC l
 | [],_,_=>()
 | [_],d,t=>T.val d t
 | _::j::r,d,t=>(T.val d.1 (YP Prod.fst t),L9 (j::r) d.2 (YP Prod.snd t))
def Mw(l:List It)(t:T (wC l)):T (wC l):=match KF t with
 | some d=>match t.td with
  | none=>.ret (L9 l d t)
  | some p=>.zA p (.ret (L9 l d t))
 | none=>.fail
def UE(l:List It):Bool:=l.all λi=>match i with
 | .s _ k=>X5 k
 | _=>false
structure Cy where
 ex:Ex
 fr:Fr
 kn:Kn
 st:St
 q:Bool      -- the store has not been written
def quiet(ks:List Nat):Bool:=ks.all λk => !(Nat.beq k 2)
structure z8U where
 e:Ty
 l:List (den e)
 m:Nat
 s:Nat
 c:Nat
 eq:Bool
def MC:BinOp->Option Bool
 | .eql=>some true
 | .neq=>some false
 | _=>none
def Dw:Operand->Bool
 | .const (.slice none 0 0)=>true
 | _=>false
def Y3(c:Ctx)(n:Nat)(ops:Array Oper)(fr:Fr):Option z8U:=match ops.toList with
 | [o1,o2]=>match o1.dst,o1.op,o1.guard with
  | some m,.move (.tmp s),none=>match o2.dst,o2.op,o2.guard with
   | some cc,.binOp op t (.tmp m') y _,none=>match MC op,fr.get s,ep c t with
    | some b,some (.zD (.sl e) l),some _=>bif Nat.beq m m'&&Dw y&&Nat.blt m n&&Nat.blt cc n then some ⟨e,l,m,s,cc,b⟩else none
    | _,_,_=>none
   | _,_,_=>none
  | _,_,_=>none
 | _=>none
def opsOf:Code->Option (Array Oper)
 | .region _ ops false=>some ops
 | _=>none
section
variable (c:Ctx) (tab:c8)
variable [pe]
def oe{α:Type}(n:Nat)(o:Oper)(s:cg)(k:cg->T α)(kp:D->St->T α):T α :=
 bif vw n o.dst then match o.op with
  | .call cl=>match cl.callee with
   | .value f=>Y5 tab (uf s.fr f) (cl.args.toList.map (uf s.fr)) s.st (λkd d zq=>k ⟨s.fr.put o.dst d,Uv s.kn o.dst none,zq,kd::s.ks,xR c (uf s.fr) s.st o::s.bk⟩) kp
   | _=>let cl:=lN c s.kn s.fr o
    (zB cl s.st).bind λr=>k ⟨s.fr.put o.dst r.1,Uv s.kn o.dst (Uf s.kn o.op),r.2,cl.kind::s.ks,xR c (uf s.fr) s.st o::s.bk⟩
  | .panic x=>match uf s.fr x with
   | some (.iface t d)=>kp (.iface t d) s.st
   | _=>.fail
  | _=>let cl:=lN c s.kn s.fr o
   (zB cl s.st).bind λr=>k ⟨s.fr.put o.dst r.1,Uv s.kn o.dst (Uf s.kn o.op),r.2,cl.kind::s.ks,xR c (uf s.fr) s.st o::s.bk⟩
 else .fail
def C6{α:Type}(n:Nat)(ops:Array Oper)(o:Oper)(s:cg)(k:cg->T α)(kp:D->St->T α):T α:=match o.guard with
 | none=>oe c tab n o s k kp
 | some (j,want)=>match ub ops j with
  | none=>.fail
  | some t=>match s.kn.get t with
   | some b=>bif b==want then oe c tab n o s k kp else bif vw n o.dst then k (uV o s)else .fail
   | none=>match s.fr.get t with
    | some (.zD .bool x)=>bif vw n o.dst then
      .ite x (bif want then oe c tab n o (s.gB t true) k kp else k (uV o (s.gB t true)))
          (bif want then k (uV o (s.gB t false))else oe c tab n o (s.gB t false) k kp)
     else .fail
    | some (.kY [])=>bif vw n o.dst then k (uV o s)else .fail
    | _=>.fail
def Xq{α:Type}(n:Nat)(ops:Array Oper):List Oper->cg->(cg->T α)->(D->St->T α)->T α
 | [],s,k,_=>k s
 | o::l,s,k,kp=>C6 c tab n ops o s (λs'=>Xq n ops l s' k kp) kp
def XL{α:Type}(n:Nat)(ops:Array Oper)(draw:Bool)(fr:Fr)(kn:Kn)(st:St)(k:cg->T α)(kp:D->St->T α):T α :=
 Xq c tab n ops ops.toList ⟨fr,kn,st,[],[]⟩ (λs=>bif !draw||rS ops s.ks.reverse s.bk.reverse then k s else .fail) (λd zq=>bif draw then .fail else kp d zq)
def sk(n:Nat)(H:Hints):Code->Fr->Kn->St->{α:Type}->(Cy->T α)->T α
 | .skip,fr,kn,st,_,k=>k ⟨.normal,fr,kn,st,true⟩
 | .region id ops draw,fr,kn,st,_,k=>(RT (H.RT id) fr st).bind λz=>XL c tab n ops draw z.1 kn z.2 (λs=>k ⟨.normal,s.fr,s.kn,s.st,quiet s.ks&&(H.RT id).isEmpty⟩) (λd zq=>k ⟨.kb d,[],[],zq,false⟩)
 | .seq a b,fr,kn,st,_,k=>match H.cut (keyOf a).1 (keyOf a).2 with
  | none=>sk n H a fr kn st λr=>match r.ex with
   | .normal=>sk n H b r.fr r.kn r.st λo=>k { o with q:=r.q&&o.q }
   | _=>k r
  | some (.flat mm)=>bif UE mm then
    (Mw mm (sk n H a fr kn st λo=>match o.ex with
     | .normal=>bif o.q then JL o.fr o.st mm []else .fail
     | _=>.fail)).bind λx=>sk n H b (dn st mm x++(bU (qi a)++fr)) [] st k
   else .fail
  | some .z98=>match opsOf a with
   | none=>.fail
   | some ops=>match Y3 c n ops fr with
    | none=>.fail
    | some p =>
     let non:=sk n H b ((p.c,some (.zD .bool (!p.eq)))::(p.m,some (.zD (.sl p.e) p.l))::fr) [(p.c,some (!p.eq))] st k
     .zA (p.l=[]->∀ r,non.leads r->(sk n H b ((p.c,some (.zD .bool p.eq))::(p.m,some .xo)::(p.s,some .xo)::fr) [(p.c,some p.eq)] st k).leads r) non
  | some (.ways ws)=>bif ws.all λw=>Nat.ble st.length w.sh.bs.length then
    (sk n H a fr kn st λo=>Yh ws o.ex (Uw o.ex o.fr) o.st).bind λr=>Fp ws r λex out zq=>match Bc ex out with
     | none=>.fail
     | some z=>match z.1 with
      | .normal=>sk n H b (z.2++(bU (qi a)++fr)) [] zq λo=>k { o with q:=false }
      | e=>k ⟨e,z.2++(bU (qi a)++fr),[],zq,false⟩
   else .fail
 | .cond x a b,fr,kn,st,_,k=>match bL kn x with
  | some true=>sk n H a fr kn st k
  | some false=>sk n H b fr kn st k
  | none=>match x with
   | .tmp t=>match fr.get t with
    | some (.zD .bool v)=>.ite v (sk n H a fr ((t,some true)::kn) st k) (sk n H b fr ((t,some false)::kn) st k)
    | _=>.fail
   | _=>.fail
 | .block id (.loop b),fr,_,st,_,k=>match H.loop id with
  | none=>.fail
  | some l=>let g:=gh l.gh fr st
   bif Nat.ble g.2.length l.sh.bs.length&&Ct l.ps (qi b)&&l.ws.all λw=>Nat.ble l.sh.bs.length w.sh.bs.length then
    (JL g.1 g.2 l.ps []).bind λp=>(l.sh.un g.1 g.2).bind λs=>(l.F p s).bind λr=>Fp l.ws r λex out zq=>match Bc ex out with
     | none=>.fail
     | some z=>match z.1 with
      | .exit id'=>bif Nat.beq id' id then k ⟨.normal,z.2++(bU (qi b)++g.1),[],zq,false⟩else k ⟨.exit id',z.2++(bU (qi b)++g.1),[],zq,false⟩
      | .normal=>.fail
      | e=>k ⟨e,z.2++(bU (qi b)++g.1),[],zq,false⟩
   else .fail
 | .block id a,fr,kn,st,_,k=>sk n H a fr kn st λr=>match r.ex with
  | .exit id'=>bif Nat.beq id' id then k { r with ex:=.normal } else k r
  | _=>k r
 | .exit id,fr,kn,st,_,k=>k ⟨.exit id,fr,kn,st,true⟩
 | .ret,fr,kn,st,_,k=>k ⟨.ret,fr,kn,st,true⟩
 | _,_,_,_,_,_=>.fail
def N5(n:Nat)(H:Hints)(l:zU)(b:Code)(p:wC l.ps)(s:l.sh.den):T (l.sh.den⊕yL l.ws) :=
 sk c tab n H b (l.sh.fr s++dn (l.sh.st s) l.ps p) [] (l.sh.st s) λo=>match o.ex with
  | .normal=>(l.sh.un o.fr o.st).bind λs'=>.ret (.inl s')
  | e=>(Yh l.ws e (Uw e o.fr) o.st).bind λr=>.ret (.inr r)
def Rd(H:Hints)(fn:Func)(code:Code)(d:G0)(x:jX d.ps):T (YD d.rs) :=
 bif Nat.ble (Zq d.ps x).length fn.ntmps then
  sk c tab fn.ntmps H code (w6 (Zq d.ps x) 0) [] [] λo=>match o.ex with
   | .normal=>(gC c o.fr o.st fn.results.toList).bind λds=>NA o.st d.rs ds
   | .ret=>(gC c o.fr o.st fn.results.toList).bind λds=>NA o.st d.rs ds
   | _=>.fail
 else .fail
def BL(H:Hints)(fn:Func)(code:Code)(d:jD)(x:d.sh.den):T d.out.den :=
 bif Nat.ble d.ks.length fn.ntmps&&Nat.ble d.sh.bs.length d.out.bs.length then
  sk c tab fn.ntmps H code (d.sh.fr x) [] (d.sh.st x) λo=>match o.ex with
   | .normal=>(gC c o.fr o.st fn.results.toList).bind λds=>bif Nat.beq ds.length d.nr then(d.out.un (w6 ds 0) o.st).bind λy=>bif (yx d.nr (d.out.fr y)).isSome then .ret y else .fail else .fail
   | .ret=>(gC c o.fr o.st fn.results.toList).bind λds=>bif Nat.beq ds.length d.nr then(d.out.un (w6 ds 0) o.st).bind λy=>bif (yx d.nr (d.out.fr y)).isSome then .ret y else .fail else .fail
   | _=>.fail
 else .fail
def CW(H:Hints)(fn:Func)(code:Code)(d:eA)(x:d.sh.den):T (d.out.den⊕d.kb.den) :=
 bif Nat.ble d.ks.length fn.ntmps&&Nat.ble d.sh.bs.length d.out.bs.length&&Nat.ble d.sh.bs.length d.kb.bs.length then
  sk c tab fn.ntmps H code (d.sh.fr x) [] (d.sh.st x) λo=>match o.ex with
   | .normal=>(gC c o.fr o.st fn.results.toList).bind λds=>bif Nat.beq ds.length d.nr then(d.out.un (w6 ds 0) o.st).bind λy=>bif (yx d.nr (d.out.fr y)).isSome then .ret (.inl y)else .fail else .fail
   | .ret=>(gC c o.fr o.st fn.results.toList).bind λds=>bif Nat.beq ds.length d.nr then(d.out.un (w6 ds 0) o.st).bind λy=>bif (yx d.nr (d.out.fr y)).isSome then .ret (.inl y)else .fail else .fail
   | .kb p=>match p with
    | .iface t v=>bif Nat.beq t d.pt then(d.kb.un [(0,some v)] o.st).bind λz=>match(d.kb.fr z).get 0 with | some _=>.ret (.inr z) | none=>.fail else .fail
    | _=>.fail
   | _=>.fail
 else .fail
end
end Go.AM
namespace Go.AM
set_option linter.unusedSectionVars false
variable [vz]
open Go.RowKit
section
variable {n:Nat}
theorem OX{st:St}{τ:Ty}{d:D}{x:den τ}(h:(rpX st τ d).leads x):(lP st τ d).leads (.qN τ x):=by
 cases d with
 | qN σ y =>
  simp only[rpX]at h
  simp only[lP]
  cases hy:(wv y:Option (den τ))with
  | none=>rw[hy]at h; exact h.elim
  | some z=>rw[hy]at h; cases h; rfl
 | ptr b off =>
  simp only[rpX]at h
  simp only[lP]
  cases hb:st[b]? with
  | none=>rw[hb]at h; exact h.elim
  | some B =>
   rw[hb]at h
   cases B with
   | var d =>
    simp only at h ⊢
    cases hy:(bif Nat.beq off 0 then cN τ d else none)with
    | none=>rw[hy]at h; exact h.elim
    | some z=>rw[hy]at h; cases h; rfl
   | _=>exact h.elim
 | _=>exact h.elim
theorem DR{st:St}{p:Zm}{d:D}{x:den p.ty}(h:(Sn st p d).leads x):(mL st p d).leads (J3 p x):=by
 cases p with
 | rp τ=>exact OX h
 | im τ=>exact T.zd.2 ⟨x,h,rfl⟩
theorem Hf{st:St}:∀ (l:List Zm) (ds:List D) (x:gm l),(EA st l ds).leads x->(hH st l ds).leads (lz l x)
 | [],[],x,h=>rfl
 | [],_::_,x,h=>h.elim
 | [p],[],x,h=>h.elim
 | [p],[d],x,h=>T.zd.2 ⟨_,DR h,T.zd.2 ⟨[],rfl,rfl⟩⟩
 | [p],_::_::_,x,h=>h.elim
 | p::q::r,[],x,h=>h.elim
 | p::q::r,d::ds,x,h=>by
  obtain⟨y,h1,h2⟩:=T.zd.1 h
  obtain⟨z,h3,h4⟩:=T.zd.1 h2
  cases h4
  exact T.zd.2 ⟨_,DR h1,T.zd.2 ⟨_,Hf (q::r) ds z h3,rfl⟩⟩
theorem O9{st:St}{p:sn}{d:D}{x:p.den}(h:(unP st p d).leads x):(YO st p d).leads (RY p x):=by
 cases p with
 | ty τ=>cases d<;>exact T.zd.2 ⟨x,h,rfl⟩
 | rp τ =>
  have:=OX h
  cases d<;>exact this
 | qS f caps =>
  cases d with
  | qS f' l =>
   simp only[unP]at h
   simp only[YO]
   cases hb:Nat.beq f f' with
   | false=>rw[hb]at h; exact h.elim
   | true=>rw[hb]at h; exact T.zd.2 ⟨_,Hf caps l x h,rfl⟩
  | _=>exact h.elim
theorem Xw{st:St}:∀ (l:List sn) (ds:List D) (x:jX l),(Hd st l ds).leads x->(lW st l ds).leads (Zq l x)
 | [],[],x,h=>rfl
 | [],_::_,x,h=>h.elim
 | [p],[],x,h=>h.elim
 | [p],[d],x,h=>T.zd.2 ⟨_,O9 h,T.zd.2 ⟨[],rfl,rfl⟩⟩
 | [p],_::_::_,x,h=>h.elim
 | p::q::r,[],x,h=>h.elim
 | p::q::r,d::ds,x,h=>by
  obtain⟨y,h1,h2⟩:=T.zd.1 h
  obtain⟨z,h3,h4⟩:=T.zd.1 h2
  cases h4
  exact T.zd.2 ⟨_,O9 h1,T.zd.2 ⟨_,Xw (q::r) ds z h3,rfl⟩⟩
theorem B7(st:St)(τ:Ty)(x:den τ):(Z7 st τ (.zD τ x)).leads x:=by
 refine T.zd.2 ⟨.zD τ x,rfl,?_⟩
 rw[T.vM]
 exact mU x
theorem Ol(st:St)(τ:Ty)(x:den τ):(rpX st τ (.qN τ x)).leads x:=by
 simp only[rpX]; rw[mU]; rfl
theorem EL(st:St)(p:Zm)(x:den p.ty):(Sn st p (J3 p x)).leads x:=by
 cases p with
 | rp τ=>exact Ol st τ x
 | im τ=>exact B7 st τ x
theorem HJ(st:St):∀ (l:List Zm) (x:gm l),(EA st l (lz l x)).leads x
 | [],_=>rfl
 | [p],x=>EL st p x
 | p::q::r,x=>T.zd.2 ⟨x.1,EL st p x.1,T.zd.2 ⟨x.2,HJ st (q::r) x.2,rfl⟩⟩
theorem O5(st:St)(p:sn)(x:p.den):(unP st p (RY p x)).leads x:=by
 cases p with
 | ty τ=>exact B7 st τ x
 | rp τ=>exact Ol st τ x
 | qS f caps=>simp only[unP,RY]; rw[Nat.beq_refl]; exact HJ st caps x
theorem Kc(st:St):∀ (l:List sn) (x:jX l),(Hd st l (Zq l x)).leads x
 | [],_=>rfl
 | [p],x=>O5 st p x
 | p::q::r,x=>T.zd.2 ⟨x.1,O5 st p x.1,T.zd.2 ⟨x.2,Kc st (q::r) x.2,rfl⟩⟩
def kE:D->Option Nat | .qS f _=>some f | _=>none
theorem TX(p:sn){d e:D}(h:kE d=kE e):z4z p d=z4z p e:=by
 cases d<;>cases e<;>simp only[kE]at h<;>first | (cases h; done) | (cases p<;>first | rfl | (cases h; rfl))
theorem I6:∀ (ps:List sn) {l m:List D},l.map kE=m.map kE->fits ps l=fits ps m
 | [],[],[],_=>rfl
 | [],_::_,_::_,_=>rfl
 | _,[],_::_,h=>by cases h
 | _,_::_,[],h=>by cases h
 | _::_,[],[],_=>rfl
 | p::ps,d::l,e::m,h=>by
  simp at h
  simp only[fits,TX p h.1,I6 ps h.2]
theorem Pn{st:St}{τ:Ty}{f:Nat}{l:List D}{x:den τ}(h:(Z7 st τ (.qS f l)).leads x):False:=by
 obtain⟨y,h1,h2⟩:=T.zd.1 h
 cases h1
 rw[T.vM]at h2
 cases τ<;>simp[cN,D.isAgg,Ty.isAgg,qe,uS,dh]at h2
theorem Jq{st:St}{p:sn}{d:D}{x:p.den}(h:(unP st p d).leads x):kE d=kE (RY p x):=by
 cases p with
 | ty τ=>cases d<;>first | rfl | exact(Pn h).elim
 | rp τ=>cases d<;>first | rfl | exact h.elim
 | qS f caps =>
  cases d with
  | qS f' l =>
   simp only[unP]at h
   cases hb:Nat.beq f f' with
   | false=>rw[hb]at h; exact h.elim
   | true=>rw[Nat.eq_of_beq_eq_true hb]; rfl
  | _=>exact h.elim
theorem Wl{st:St}:∀ (l:List sn) (ds:List D) (x:jX l),(Hd st l ds).leads x->ds.map kE=(Zq l x).map kE
 | [],[],x,h=>rfl
 | [],_::_,x,h=>h.elim
 | [p],[],x,h=>h.elim
 | [p],[d],x,h=>by show[kE d]=[kE (RY p x)]; rw[Jq h]
 | [p],_::_::_,x,h=>h.elim
 | p::q::r,[],x,h=>h.elim
 | p::q::r,d::ds,x,h=>by
  obtain⟨y,h1,h2⟩:=T.zd.1 h
  obtain⟨z,h3,h4⟩:=T.zd.1 h2
  cases h4
  show kE d::ds.map kE=kE (RY p y)::(Zq (q::r) z).map kE
  rw[Jq h1,Wl (q::r) ds z h3]
def dat(d:D):Bool:=match d with | .zD _ _=>true | .qN _ _=>true | .qS _ _=>true | _=>false
theorem ED(p:sn)(x:p.den):dat (RY p x)=true:=by cases p<;>rfl
theorem G4:∀ (l:List sn) (x:jX l),∀ d∈Zq l x,dat d=true
 | [],x,d,h=>by cases h
 | [p],x,d,h=>by have h:d∈[RY p x]:=h; rw[List.mem_singleton]at h; subst h; exact ED p x
 | p::q::r,x,d,h=>by
  rcases List.mem_cons.1 h with rfl | h
  ·exact ED p x.1
  ·exact G4 (q::r) x.2 d h
theorem OH{a:AK}{d e:D}(h:kE d=kE e)(hd:dat e=true)(hf:z3m a e=true):z3m a d=true:=by
 cases e with
 | zD τ x=>cases a<;>first | (cases hf; done) | (cases d<;>first | rfl | (cases h; done))
 | qN τ x=>cases a<;>first | (cases hf; done) | (cases d<;>first | rfl | (cases h; done))
 | qS f l=>cases a<;>first | (cases hf; done) | (cases d<;>first | (cases h; exact hf) | cases h)
 | _=>cases hd
theorem ZN:∀ {ks:List AK} {l m:List D},l.map kE=m.map kE->(∀ d∈m,dat d=true)->lZ ks m=true->lZ ks l=true
 | [],[],[],_,_,_=>rfl
 | [],_::_,[],h,_,_=>by cases h
 | [],_,_::_,_,_,hf=>by cases hf
 | _::_,_,[],_,_,hf=>by cases hf
 | k::ks,[],_::_,h,_,_=>by cases h
 | k::ks,d::l,e::m,h,hd,hf=>by
  simp at h
  simp only[lZ,Bool.and_eq_true]at hf ⊢
  exact⟨OH h.1 (hd e List.mem_cons_self) hf.1,ZN h.2 (λx hx=>hd x (List.mem_cons_of_mem _ hx)) hf.2⟩
theorem c8.find_eq:∀ (t:c8) (g:Nat) {l m:List D} {d:G0},l.map kE=m.map kE->(∀ d∈m,dat d=true)->t.find g l=some (.d d)->t.find g m=some (.d d)
 | [],_,_,_,_,_,_,h=>h
 | (g',.d d')::r,g,l,m,d,h,hm,hf=>by
  simp only[c8.find,S1.fits]at hf ⊢
  rw[<- I6 d'.ps h]
  cases hb:Nat.beq g' g&&fits d'.ps l with
  | true=>grind
  | false=>rw[hb,cond_false]at hf; rw[cond_false]; exact c8.find_eq r g h hm hf
 | (g',.s d')::r,g,l,m,d,h,hm,hf=>by
  simp only[c8.find,S1.fits]at hf ⊢
  cases hb:Nat.beq g' g&&lZ d'.ks l with
  | true=>grind
  | false =>
   rw[hb,cond_false]at hf
   have:(Nat.beq g' g&&lZ d'.ks m)=false:=by
    cases hg:Nat.beq g' g with
    | false=>rfl
    | true =>
     rw[hg]at hb
     cases hk:lZ d'.ks m with
     | false=>rfl
     | true=>rw[ZN h hm hk]at hb; cases hb
   rw[this,cond_false]
   exact c8.find_eq r g h hm hf
 | (g',.p d')::r,g,l,m,d,h,hm,hf=>by
  simp only[c8.find,S1.fits]at hf ⊢
  cases hb:Nat.beq g' g&&lZ d'.ks l with
  | true=>grind
  | false =>
   rw[hb,cond_false]at hf
   have:(Nat.beq g' g&&lZ d'.ks m)=false:=by
    cases hg:Nat.beq g' g with
    | false=>rfl
    | true =>
     rw[hg]at hb
     cases hk:lZ d'.ks m with
     | false=>rfl
     | true=>rw[ZN h hm hk]at hb; cases hb
   rw[this,cond_false]
   exact c8.find_eq r g h hm hf
theorem c8.tH:∀ {t:c8} {g:Nat} {l:List D} {d:S1},t.find g l=some d->(g,d)∈t
 | [],_,_,_,h=>by cases h
 | (g',d')::r,g,l,d,h=>by
  simp only[c8.find]at h
  cases hb:Nat.beq g' g&&d'.fits l with
  | true =>
   rw[hb,cond_true]at h
   cases h
   simp only[Bool.and_eq_true]at hb
   rw[Nat.eq_of_beq_eq_true hb.1]
   simp
  | false=>rw[hb,cond_false]at h; exact List.mem_cons_of_mem _ (c8.tH h)
def zG(P:Program)(g:Nat)(d:G0):Prop:=∀ (κ:KS) (x:jX d.ps) (zw:List Value) (y:YD d.rs),κ.st=[]->(d.F x).leads y->Inv κ->qA κ (Zq d.ps x) zw ->
 ug P g zw.toArray κ.w λe w'=>∃ κ':KS,κ'.w=w'/\κ'.st=[]/\Inv κ'/\Ext κ κ'/\wc κ' (.ret (tp d.rs y)) e
def Gr(P:Program)(g:Nat):S1->Prop
 | .d d=>zG P g d
 | .s d=>xN P g d
 | .p d=>jV P g d
def kM(P:Program)(t:c8):Prop:=∀ p∈t,Gr P p.1 p.2
theorem Im(P:Program):kM P []:=by nofun
theorem KB{P:Program}{g:Nat}{d:S1}{t:c8}(h:Gr P g d)(ht:kM P t):kM P ((g,d)::t):=by
 intro p hp
 rcases List.mem_cons.1 hp with rfl | hp
 ·exact h
 ·exact ht p hp
theorem Dp{P:Program}{g:Nat}{d:G0}{t:c8}(h:zG P g d)(ht:kM P t):kM P ((g,.d d)::t):=KB (d:=.d d) h ht
theorem HO{P:Program}{g:Nat}{d:jD}{t:c8}(h:xN P g d)(ht:kM P t):kM P ((g,.s d)::t):=KB (d:=.s d) h ht
theorem Hr{P:Program}{g:Nat}{d:eA}{t:c8}(h:jV P g d)(ht:kM P t):kM P ((g,.p d)::t):=KB (d:=.p d) h ht
theorem G0.snd{P:Program}{g:Nat}{d:G0}(h:zG P g d):YB P g d.S:=by
 intro κ args zw rs zq hl hI ha
 unfold G0.S at hl
 split at hl
 ·rename_i xE
  obtain⟨x,h1,h2⟩:=T.zd.1 hl
  obtain⟨y,h3,h4⟩:=T.zd.1 h2
  cases h4
  exact h κ x zw y xE h3 hI (ZS ha (Xw _ _ _ h1))
 ·exact hl.elim
theorem Ym{P:Program}{xid:Nat}{tab:c8}{ro:Nat->Bool}(h:kM P tab):∀ g,YB (vJ P xid tab ro).P g ((vJ P xid tab ro).fn g):=by
 intro g κ args zw rs zq hl hI ha
 simp only[vJ,c8.call]at hl
 split at hl
 ·rename_i d hd
  exact G0.snd (h _ (c8.tH hd):Gr P g (.d d)) κ args zw rs zq hl hI ha
 ·rename_i d hd
  exact jD.snd (h _ (c8.tH hd):Gr P g (.s d)) κ args zw rs zq hl hI ha
 ·rename_i d hd
  exact eA.snd (h _ (c8.tH hd):Gr P g (.p d)) κ args zw rs zq hl hI ha
 ·exact hl.elim
section
variable {P:Program} {xid:Nat} {tab:c8} {ro:Nat->Bool} {α:Type}
def DX(c:Ctx)(f:Option D)(args:List (Option D))(st:St)(d:D)(zq:St):Prop :=
 ∃ g caps l,f=some (.qS g caps)/\u6 args=some l/\(c.fn (y8 g) (uT g l caps) st).leads (.kb d,zq)
def FF(c:Ctx)(o:Oper)(s:cg)(d:D)(zq:St):Prop :=
 (∃ x t e,o.op=.panic x/\uf s.fr x=some d/\d=.iface t e/\zq=s.st) \/
 ∃ f args ml,o.op=.call ⟨.value f,args,ml⟩/\DX c (uf s.fr f) (args.toList.map (uf s.fr)) s.st d zq
theorem C1{f:Option D}{args:List (Option D)}{st:St}{k:Nat->Option D->St->T α}{kp:D->St->T α}{r:α}(h:(Y5 tab f args st k kp).leads r) :
  (∃ d zq,(zB (bO (vJ P xid tab ro) f args) st).leads (d,zq)/\(k (bO (vJ P xid tab ro) f args).kind d zq).leads r) \/
  ∃ d zq,DX (vJ P xid tab ro) f args st d zq/\(kp d zq).leads r:=by
 unfold Y5 at h
 split at h
 ·rename_i g caps l hl
  unfold z1s at h
  split at h
  ·exact h.elim
  ·rename_i d hd
   have IM:(vJ P xid tab ro).sig (y8 g) (uT g l caps)=some ⟨d.ps,d.rs⟩:=by simp only[vJ]; rw[hd]
   have Oc:bO (vJ P xid tab ro) (some (.qS g caps)) args=gv (vJ P xid tab ro) (y8 g) ⟨d.ps,d.rs⟩ (uT g l caps):=by simp only[bO,hl,IM]
   rw[Oc]
   have hfn:∀ {st0:St} (x:jX d.ps) (y:YD d.rs),(Hd st0 d.ps (uT g l caps)).leads x->(d.F x).leads y->((vJ P xid tab ro).fn (y8 g) (Zq d.ps x) []).leads (.ret (tp d.rs y),[]):=by
    intro st0 x y hx hy
    simp only[vJ,c8.call]
    rw[c8.find_eq tab (y8 g) (Wl _ _ _ hx) (G4 d.ps x) hd]
    exact T.zd.2 ⟨x,Kc [] d.ps x,T.zd.2 ⟨y,hy,rfl⟩⟩
   cases hn : !((uT g l caps).any Wy)with
   | true =>
    rw[hn,cond_true]at h
    obtain⟨x,h1,h2⟩:=T.zd.1 h
    obtain⟨y,h3,h4⟩:=T.zd.1 h2
    have hc:gv (vJ P xid tab ro) (y8 g) ⟨d.ps,d.rs⟩ (uT g l caps)=.val ((lW [] d.ps (uT g l caps)).bind λl=>((vJ P xid tab ro).fn (y8 g) l []).bind N1):=by
     unfold gv; rw[hn]; rfl
    rw[hc]
    refine .inl ⟨_,_,T.zd.2 ⟨_,T.zd.2 ⟨_,Xw _ _ _ h1,T.zd.2 ⟨_,hfn x y h1 h3,rfl⟩⟩,rfl⟩,h4⟩
   | false =>
    rw[hn,cond_false]at h
    obtain⟨x,h1,h2⟩:=T.zd.1 h
    obtain⟨y,h3,h4⟩:=T.zd.1 h2
    have hc:gv (vJ P xid tab ro) (y8 g) ⟨d.ps,d.rs⟩ (uT g l caps)=.rd λst=>(lW st d.ps (uT g l caps)).bind λl=>((vJ P xid tab ro).fn (y8 g) l []).bind oB:=by
     unfold gv; rw[hn]; rfl
    rw[hc]
    cases hs:(tp d.rs y).all oz with
    | false=>rw[hs]at h4; exact h4.elim
    | true =>
     rw[hs]at h4
     refine .inl ⟨_,_,T.zd.2 ⟨_,T.zd.2 ⟨_,Xw _ _ _ h1,T.zd.2 ⟨_,hfn x y h1 h3,?_⟩⟩,rfl⟩,h4⟩
     simp only[oB,hs,cond_true]
     rfl
  ·rename_i d hd
   have IM:(vJ P xid tab ro).sig (y8 g) (uT g l caps)=none:=by simp only[vJ]; rw[hd]
   have Oc:bO (vJ P xid tab ro) (some (.qS g caps)) args=oN (vJ P xid tab ro) (y8 g) (uT g l caps):=by simp only[bO,hl,IM]
   rw[Oc]
   obtain⟨ds,zq,h1,h2⟩:=jD.OL h
   refine .inl ⟨_,zq,T.zd.2 ⟨(.ret ds,zq),?_,rfl⟩,h2⟩
   simp only[vJ,c8.call]
   grind
  ·rename_i d hd
   have IM:(vJ P xid tab ro).sig (y8 g) (uT g l caps)=none:=by simp only[vJ]; rw[hd]
   have Oc:bO (vJ P xid tab ro) (some (.qS g caps)) args=oN (vJ P xid tab ro) (y8 g) (uT g l caps):=by simp only[bO,hl,IM]
   rw[Oc]
   rcases eA.OL h with⟨ds,zq,h1,h2⟩ | ⟨p,zq,h1,h2⟩
   ·refine .inl ⟨_,zq,T.zd.2 ⟨(.ret ds,zq),?_,rfl⟩,h2⟩
    simp only[vJ,c8.call]
    grind
   ·refine .inr ⟨p,zq,⟨g,caps,l,rfl,hl,?_⟩,h2⟩
    simp only[vJ,c8.call]
    grind
 ·exact h.elim
theorem iK{o:Oper}{s:cg}{k:cg->T α}{kp:D->St->T α}{r:α}(h:(oe (vJ P xid tab ro) tab n o s k kp).leads r) :
  (∃ s',(yQ (vJ P xid tab ro) n o s).leads s'/\(k s').leads r)\/∃ d zq,FF (vJ P xid tab ro) o s d zq/\(kp d zq).leads r:=by
 unfold oe at h
 unfold yQ
 cases hd:vw n o.dst with
 | false=>rw[hd]at h; exact h.elim
 | true =>
  rw[hd,cond_true]at h
  rw[cond_true]
  obtain⟨dst,op,ty,pos,after,guard⟩:=o
  have gen:((zB (lN (vJ P xid tab ro) s.kn s.fr ⟨dst,op,ty,pos,after,guard⟩) s.st).bind λr=>k ⟨s.fr.put dst r.1,Uv s.kn dst (Uf s.kn op),r.2,(lN (vJ P xid tab ro) s.kn s.fr ⟨dst,op,ty,pos,after,guard⟩).kind::s.ks,xR (vJ P xid tab ro) (uf s.fr) s.st ⟨dst,op,ty,pos,after,guard⟩::s.bk⟩).leads r ->
    ∃ s',(let cl:=lN (vJ P xid tab ro) s.kn s.fr ⟨dst,op,ty,pos,after,guard⟩; (zB cl s.st).bind λr=>T.ret (⟨s.fr.put dst r.1,Uv s.kn dst (Uf s.kn op),r.2,cl.kind::s.ks,xR (vJ P xid tab ro) (uf s.fr) s.st ⟨dst,op,ty,pos,after,guard⟩::s.bk⟩:cg)).leads s'/\(k s').leads r:=by
   intro h
   obtain⟨x,h1,h2⟩:=T.zd.1 h
   exact⟨_,T.zd.2 ⟨x,h1,rfl⟩,h2⟩
  cases op with
  | call cl =>
   obtain⟨callee,args,ml⟩:=cl
   cases callee with
   | value f =>
    rcases C1 (P:=P) (xid:=xid) (ro:=ro) h with⟨d,zq,h1,h2⟩ | ⟨d,zq,h1,h2⟩
    ·exact .inl ⟨_,T.zd.2 ⟨(d,zq),h1,rfl⟩,h2⟩
    ·exact .inr ⟨d,zq,.inr ⟨f,args,ml,rfl,h1⟩,h2⟩
   | _=>grind
  | panic x =>
   simp only at h
   split at h
   ·rename_i t e hx
    exact .inr ⟨_,_,.inl ⟨x,t,e,rfl,hx,rfl,rfl⟩,h⟩
   ·exact h.elim
  | _=>grind
theorem Ip{ops:Array Oper}{o:Oper}{s:cg}{k:cg->T α}{kp:D->St->T α}{r:α}(hkn:vd s.kn s.fr.get)(h:(C6 (vJ P xid tab ro) tab n ops o s k kp).leads r) :
  (∃ s',(stepG (vJ P xid tab ro) n ops o s).leads s'/\(k s').leads r)\/∃ d zq,xT ops s.fr.get o=some true/\FF (vJ P xid tab ro) o s d zq/\(kp d zq).leads r:=by
 obtain⟨dst,op,ty,pos,after,guard⟩:=o
 cases guard with
 | none =>
  rcases iK h with h | ⟨d,zq,h1,h2⟩
  ·exact .inl h
  ·exact .inr ⟨d,zq,rfl,h1,h2⟩
 | some jw =>
  obtain⟨j,want⟩:=jw
  simp only[C6]at h
  simp only[stepG]
  cases hg:ub ops j with
  | none=>rw[hg]at h; exact h.elim
  | some t =>
   rw[hg]at h
   simp only at h ⊢
   cases hk:s.kn.get t with
   | some b =>
    rw[hk]at h
    simp only at h ⊢
    have hw:xT ops s.fr.get ⟨dst,op,ty,pos,after,some (j,want)⟩=some (b==want):=by simp[xT,hg,hkn t b hk]
    cases hb:b==want with
    | true =>
     rw[hb,cond_true]at h; rw[cond_true]
     rcases iK h with h | ⟨d,zq,h1,h2⟩
     ·grind
     ·grind
    | false =>
     rw[hb,cond_false]at h; rw[cond_false]
     cases hd:vw n dst with
     | true=>rw[hd,cond_true]at h; exact .inl ⟨_,rfl,h⟩
     | false=>rw[hd,cond_false]at h; exact h.elim
   | none =>
    rw[hk]at h
    simp only at h ⊢
    split at h
    ·rename_i x hf
     rw[hf]
     simp only
     have hw:xT ops s.fr.get ⟨dst,op,ty,pos,after,some (j,want)⟩=some (x==want):=by simp[xT,hg,hf]
     cases hd:vw n dst with
     | false=>rw[hd]at h; exact h.elim
     | true =>
      rw[hd,cond_true]at h; rw[cond_true]
      rcases h with⟨hx,h⟩ | ⟨hx,h⟩
      ·subst hx
       cases want with
       | true =>
        rw[cond_true]at h
        rcases iK h with⟨s',h1,h2⟩ | ⟨d,zq,h1,h2⟩
        ·exact .inl ⟨s',.inl ⟨rfl,h1⟩,h2⟩
        ·exact .inr ⟨d,zq,hw,h1,h2⟩
       | false=>rw[cond_false]at h; exact .inl ⟨_,.inl ⟨rfl,rfl⟩,h⟩
      ·subst hx
       cases want with
       | true=>rw[cond_true]at h; exact .inl ⟨_,.inr ⟨rfl,rfl⟩,h⟩
       | false =>
        rw[cond_false]at h
        rcases iK h with⟨s',h1,h2⟩ | ⟨d,zq,h1,h2⟩
        ·exact .inl ⟨s',.inr ⟨rfl,h1⟩,h2⟩
        ·exact .inr ⟨d,zq,hw,h1,h2⟩
    ·rename_i hf
     rw[hf]
     simp only
     cases hd:vw n dst with
     | true=>rw[hd,cond_true]at h; exact .inl ⟨_,rfl,h⟩
     | false=>rw[hd,cond_false]at h; exact h.elim
    ·exact h.elim
def CP(c:Ctx)(n:Nat)(ops:Array Oper)(l:List Oper)(s:cg)(d:D)(zq:St):Prop :=
 ∃ pre o post s1,l=pre++o::post/\(eX c n ops pre s).leads s1/\xT ops s1.fr.get o=some true/\FF c o s1 d zq
theorem sd{ops:Array Oper}:∀ (l:List Oper) {s:cg} {k:cg->T α} {kp:D->St->T α} {r:α},vd s.kn s.fr.get->(∀ o∈l,∃ i:Nat,ops[i]? = some o)->(Xq (vJ P xid tab ro) tab n ops l s k kp).leads r ->
  (∃ s',(eX (vJ P xid tab ro) n ops l s).leads s'/\(k s').leads r)\/∃ d zq,CP (vJ P xid tab ro) n ops l s d zq/\(kp d zq).leads r
 | [],s,k,kp,r,_,_,h=>.inl ⟨s,rfl,h⟩
 | o::l,s,k,kp,r,hk,hl,h=>by
  rcases Ip hk h with⟨s1,h1,h2⟩ | ⟨d,zq,h1,h2,h3⟩
  ·obtain⟨i,hi⟩:=hl o List.mem_cons_self
   obtain⟨_,_,hk1,_⟩:=JI hi hk h1
   rcases sd l hk1 (λo' ho=>hl o' (List.mem_cons_of_mem _ ho)) h2 with⟨s2,h3,h4⟩ | ⟨d,zq,⟨pre,o',post,s2,e,g1,g2,g3⟩,h4⟩
   ·exact .inl ⟨s2,T.zd.2 ⟨s1,h1,h3⟩,h4⟩
   ·exact .inr ⟨d,zq,⟨o::pre,o',post,s2,by grind,T.zd.2 ⟨s1,h1,g1⟩,g2,g3⟩,h4⟩
  ·exact .inr ⟨d,zq,⟨[],o,l,s,rfl,rfl,h1,h2⟩,h3⟩
theorem Uh{ops:Array Oper}{draw:Bool}{fr:Fr}{kn:Kn}{st:St}{k:cg->T α}{kp:D->St->T α}{r:α}(hk:vd kn fr.get)(h:(XL (vJ P xid tab ro) tab n ops draw fr kn st k kp).leads r) :
  (∃ s',(gV (vJ P xid tab ro) n ops draw fr kn st).leads s'/\(k s').leads r)\/∃ d zq,draw=false/\CP (vJ P xid tab ro) n ops ops.toList ⟨fr,kn,st,[],[]⟩ d zq/\(kp d zq).leads r:=by
 rcases sd _ hk (λo ho=>by obtain⟨i,hi,he⟩:=List.getElem_of_mem ho; exact⟨i,by grind⟩) h with⟨s',h1,h2⟩ | ⟨d,zq,h1,h2⟩
 ·cases hd : !draw||rS ops s'.ks.reverse s'.bk.reverse with
  | false=>rw[hd]at h2; exact h2.elim
  | true =>
   rw[hd,cond_true]at h2
   refine .inl ⟨s',T.zd.2 ⟨s',h1,?_⟩,h2⟩
   rw[hd]; rfl
 ·cases draw with
  | true=>exact h2.elim
  | false=>grind
end
end
end Go.AM
namespace Go.AM
set_option linter.unusedSectionVars false
variable [vz] [VW]
open Go.RowKit
theorem XQ{α β:Type}{f:α->β}{t:T α}{x:α}(h:t.leads x):(YP f t).leads (f x):=by
 induction t with
 | ret a=>exact congrArg f h
 | ite b p q ip iq=>exact da h (λh=>⟨h.1,ip h.2⟩) (λh=>⟨h.1,iq h.2⟩)
 | zA p t ih=>exact⟨h.1,ih h.2⟩
 | fail=>exact h.elim
theorem FZ:∀ (l:List It) (d:wC l) (t:T (wC l)) (x:wC l),t.leads x->L9 l d t=x
 | [],_,_,_,_=>rfl
 | [_],d,t,x,h=>((T.Vs d t x).1 h).2
 | i::j::r,d,t,x,h=>by
  have h1:=((T.Vs d.1 _ _).1 (XQ (f:=Prod.fst) h)).2
  have h2:=FZ (j::r) d.2 _ _ (XQ (f:=Prod.snd) h)
  show(T.val d.1 (YP Prod.fst t),L9 (j::r) d.2 (YP Prod.snd t))=x
  rw[h1,h2]
  exact rfl
theorem Lk{α:Type}(t:T α)(h:t.QT):∃ x,t.leads x:=by
 induction t with
 | ret a=>exact⟨a,rfl⟩
 | ite b p q ip iq =>
  unfold T.QT at h ip iq
  simp only[T.td]at h
  cases b with
  | true =>
   obtain⟨x,hx⟩:=ip (by grind)
   exact⟨x,.inl ⟨rfl,hx⟩⟩
  | false =>
   obtain⟨x,hx⟩:=iq (by grind)
   exact⟨x,.inr ⟨rfl,hx⟩⟩
 | zA p t ih =>
  unfold T.QT at h ih
  simp only[T.td]at h
  cases ht:t.td with
  | none=>rw[ht]at h ih; obtain⟨x,hx⟩:=ih trivial; exact⟨x,h,hx⟩
  | some q=>rw[ht]at h ih; obtain⟨x,hx⟩:=ih h.2; exact⟨x,h.1,hx⟩
 | fail=>exact h.elim
theorem GQ{l:List It}{t:T (wC l)}{x:wC l}(h:(Mw l t).leads x):t.leads x:=by
 unfold Mw at h
 split at h
 ·rename_i d hd
  have key:t.QT->L9 l d t=x->t.leads x:=by
   intro hp hv
   obtain⟨y,hy⟩:=Lk t hp
   rw[<- hv,FZ l d t y hy]; exact hy
  split at h
  ·rename_i hn; exact key (by unfold T.QT; rw[hn]; trivial) h
  ·rename_i p hn; exact key (by unfold T.QT; rw[hn]; exact h.1) h.2
 ·exact h.elim
def RIs(ws:List Way)(r:yL ws)(w:Way)(x:w.sh.den):Prop:=∀ {α:Type} (k:Ex->Fr->St->T α),Fp ws r k=k w.ex (w.sh.fr x) (w.sh.st x)
theorem K8:∀ (ws:List Way) (ex:Ex) (fr:Fr) (st:St) (r:yL ws),(Yh ws ex fr st).leads r->∃ w,w∈ws/\∃ x:w.sh.den,RIs ws r w x/\nR w.ex ex=true/\(w.sh.un fr st).leads x
 | [],_,_,_,_,h=>h.elim
 | [w],ex,fr,st,r,h=>by
  have h:(bif nR w.ex ex then w.sh.un fr st else .fail:T w.sh.den).leads r:=h
  cases hs:nR w.ex ex with
  | false=>rw[hs]at h; exact h.elim
  | true=>rw[hs]at h; exact⟨w,by simp,r,λk=>rfl,hs,h⟩
 | w::v::ws,ex,fr,st,r,h=>by
  have h:(bif nR w.ex ex then(w.sh.un fr st).bind λx=>T.ret (Sum.inl x:w.sh.den⊕yL (v::ws))else(Yh (v::ws) ex fr st).bind λy=>T.ret (Sum.inr y)).leads r:=h
  cases hs:nR w.ex ex with
  | true =>
   rw[hs]at h
   obtain⟨x,h1,h2⟩:=T.zd.1 h
   subst h2
   exact⟨w,by simp,x,λk=>rfl,hs,h1⟩
  | false =>
   rw[hs]at h
   obtain⟨y,h1,h2⟩:=T.zd.1 h
   subst h2
   obtain⟨w',k1,x,k2,k3,k4⟩:=K8 (v::ws) ex fr st y h1
   exact⟨w',List.mem_cons_of_mem _ k1,x,λk=>k2 k,k3,k4⟩
def z3k(κ:KS)(n:Nat)(w:Way)(z:w.sh.den)(a:Act)(eG:Exit):Prop:=∀ q,Bc w.ex (w.sh.fr z)=some q->Rel κ n q.2.get a/\Hv κ q.1 eG
theorem Ob{κ0 κ:KS}{n:Nat}{a:Act}{w:Way}{z:w.sh.den}{oex:Ex}{ofr:Fr}{eG:Exit}(hx:Ext κ0 κ)(hI:Inv κ)(hR:Rel κ n ofr.get a)(he:Hv κ oex eG)(hs:nR w.ex oex=true)(hl:κ0.st.length<=w.sh.bs.length)
  (h:(w.sh.un (Uw oex ofr) κ.st).leads z):∃ κ1:KS,κ1.w=κ.w/\κ1.st=w.sh.st z/\Inv κ1/\Ext κ0 κ1/\z3k κ1 n w z a eG:=by
 have plain:Uw oex ofr=ofr->(∀ q,Bc w.ex (w.sh.fr z)=some q->q.2=w.sh.fr z/\∀ κ1:KS,Hv κ1 q.1 eG)->∃ κ1:KS,κ1.w=κ.w/\κ1.st=w.sh.st z/\Inv κ1/\Ext κ0 κ1/\z3k κ1 n w z a eG:=by
  intro e1 e2
  rw[e1]at h
  obtain⟨κ1,q1,q2,q3,q4,q5,_⟩:=w.sh.sN (n:=n) hx hI hR hl h
  exact⟨κ1,q1,q2,q3,q4,λq hq=>by obtain⟨g1,g2⟩:=e2 q hq; rw[g1]; exact⟨q5,g2 κ1⟩⟩
 cases hw:w.ex with
 | normal =>
  rw[hw]at hs
  cases oex<;>first | (cases hs; done) | skip
  exact plain rfl λq hq=>by rw[hw]at hq; cases hq; exact⟨rfl,λ_=>he⟩
 | ret =>
  rw[hw]at hs
  cases oex<;>first | (cases hs; done) | skip
  exact plain rfl λq hq=>by rw[hw]at hq; cases hq; exact⟨rfl,λ_=>he⟩
 | exit id =>
  rw[hw]at hs
  cases oex<;>first | (cases hs; done) | skip
  rename_i id'
  have:id=id':=Nat.eq_of_beq_eq_true hs
  subst this
  exact plain rfl λq hq=>by rw[hw]at hq; cases hq; exact⟨rfl,λ_=>he⟩
 | kb p =>
  rw[hw]at hs
  cases p<;>first | (cases hs; done) | skip
  rename_i t p
  cases oex<;>first | (cases hs; done) | skip
  rename_i p'
  cases p'<;>first | (cases hs; done) | skip
  rename_i t' d
  have:t=t':=Nat.eq_of_beq_eq_true hs
  subst this
  obtain⟨v,rfl,hv⟩:=he
  cases hv with
  | iface _ _ u hu =>
   have Jg:Rel κ 1 (Uw (.kb (.iface t d)) ofr).get { tmps := #[u],defers:=VW.df }:=by
    refine⟨rfl,rfl,λs d' hd => ?_⟩
    simp only[Uw,Fr.get]at hd
    cases hb:Nat.beq 0 s with
    | true =>
     have:=Nat.eq_of_beq_eq_true hb
     grind
    | false=>grind
   obtain⟨κ1,q1,q2,q3,q4,q5,_⟩:=w.sh.sN (n:=1) hx hI Jg hl h
   refine⟨κ1,q1,q2,q3,q4,λq hq => ?_⟩
   rw[hw]at hq
   simp only[Bc]at hq
   split at hq
   ·rename_i d' ke
    cases hq
    obtain⟨v',g1,g2⟩:=q5.get 0 d' ke
    cases g1
    exact⟨⟨hR.size,hR.defers,λs d hd=>by cases hd⟩,_,rfl,.iface t d' _ g2⟩
   ·cases hq
theorem fE(st:St):∀ (bs:List Bk) (bd:List Bd),(vj st bs bd).length<=bs.length
 | [],_=>by simp[vj]
 | .arr _::r,[]=>by simp[vj]
 | .arr _::r,.v _ _::_=>by simp[vj]
 | .arr _::r,.a _ _::d=>by have:=fE st r d; simp[vj]; exact this
 | .var _::r,[]=>by simp[vj]
 | .var _::r,.a _ _::_=>by simp[vj]
 | .var _::r,.v _ _::d=>by have:=fE st r d; simp[vj]; exact this
 | .cvar _::r,d=>by have:=fE st r d; cases d<;>(simp[vj]; exact this)
 | .dead::r,d=>by have:=fE st r d; cases d<;>(simp[vj]; exact this)
theorem vH.rj(s:vH)(x:s.den):(s.st x).length<=s.bs.length:=fE _ _ _
theorem QE{l m:Fr}{s:Nat}{d:D}(h:(l++m).get s=some d):l.get s=some d\/m.get s=some d:=by
 induction l with
 | nil=>grind
 | cons p r ih =>
  simp only[List.cons_append,Fr.get]at h ⊢
  grind
theorem IU{l:List Nat}{fr:Fr}{s:Nat}{d:D}(h:(bU l++fr).get s=some d):s ∉ l/\fr.get s=some d:=by
 induction l with
 | nil=>exact⟨by simp,h⟩
 | cons t r ih =>
  simp only[bU,List.map_cons,List.cons_append,Fr.get]at h
  cases ht:Nat.beq t s with
  | true=>grind
  | false =>
   rw[ht,cond_false]at h
   obtain⟨h1,h2⟩:=ih h
   refine⟨?_,h2⟩
   simp
   exact⟨λe=>by subst e; simp at ht,h1⟩
theorem Z9{o:Oper}{s:Nat}:∀ {l:List Oper},o∈l->o.dst=some s->s∈dstsOf l
 | p::r,h,hs=>by
  simp only[dstsOf]
  rcases List.mem_cons.1 h with rfl | h
  ·grind
  ·split
   ·exact List.mem_cons_of_mem _ (Z9 h hs)
   ·exact Z9 h hs
def Kept(code:Code)(a a':Act):Prop:=∀ s:Nat,s ∉ qi code->a'.tmps[s]? = a.tmps[s]?
section
variable {P:Program} {xid:Nat} {tab:c8} {ro:Nat->Bool} {n:Nat} {H:Hints}
theorem oo{κ κ':KS}{fr out:Fr}{a a':Act}{ws:List Nat}(hR:Rel κ n fr.get a)(hx:Ext κ κ')(ho:Rel κ' n out.get a')(hk:∀ s:Nat,s ∉ ws->a'.tmps[s]? = a.tmps[s]?):Rel κ' n (out++(bU ws++fr)).get a':=by
 refine⟨ho.size,ho.defers,λs d hd => ?_⟩
 rcases QE hd with h | h
 ·exact ho.get s d h
 ·obtain⟨h1,h2⟩:=IU h
  obtain⟨v,g1,g2⟩:=hR.get s d h2
  exact⟨v,(hk s h1).trans g1,g2.mono hx⟩
theorem Kf{c:Ctx}{ops:Array Oper}:∀ (l:List Oper) (s s':cg),(eX c n ops l s).leads s'->quiet s'.ks=true->s'.st=s.st/\quiet s.ks=true:=by
 have hq:∀ {k:Nat} {ks:List Nat},quiet (k::ks)=true->Nat.beq k 2=false/\quiet ks=true:=by
  intro k ks h
  simp only[quiet,List.all_cons,Bool.and_eq_true,Bool.not_eq_true']at h
  exact⟨h.1,by unfold quiet; exact h.2⟩
 have one:∀ (o:Oper) (s s1:cg),(yQ c n o s).leads s1->quiet s1.ks=true->s1.st=s.st/\quiet s.ks=true:=by
  intro o s s1 h hk
  unfold yQ at h
  cases hd:vw n o.dst with
  | false=>rw[hd]at h; exact h.elim
  | true =>
   rw[hd,cond_true]at h
   obtain⟨r,h1,h2⟩:=T.zd.1 h
   cases h2
   obtain⟨g1,g2⟩:=hq hk
   refine⟨?_,g2⟩
   show r.2=s.st
   generalize lN c s.kn s.fr o=cl at h1 g1
   cases cl with
   | val t=>obtain⟨d,_,h3⟩:=T.zd.1 h1; cases h3; rfl
   | rd k=>obtain⟨d,_,h3⟩:=T.zd.1 h1; cases h3; rfl
   | wr k=>cases g1
 have skp:∀ (o:Oper) (s:cg),quiet (uV o s).ks=true->(uV o s).st=s.st/\quiet s.ks=true:=λo s h=>⟨rfl,(hq h).2⟩
 have gd:∀ (o:Oper) (s s1:cg),(stepG c n ops o s).leads s1->quiet s1.ks=true->s1.st=s.st/\quiet s.ks=true:=by
  intro o s s1 h hk
  obtain⟨dst,op,ty,pos,after,guard⟩:=o
  cases guard with
  | none=>exact one _ s s1 h hk
  | some jw =>
   obtain⟨j,want⟩:=jw
   simp only[stepG]at h
   cases hg:ub ops j with
   | none=>rw[hg]at h; exact h.elim
   | some t =>
    rw[hg]at h
    simp only at h
    cases hkn:s.kn.get t with
    | some b =>
     rw[hkn]at h
     simp only at h
     cases hb:b==want with
     | true=>grind
     | false =>
      rw[hb,cond_false]at h
      cases hd:vw n dst with
      | false=>rw[hd]at h; exact h.elim
      | true=>rw[hd,cond_true]at h; cases h; exact skp _ s hk
    | none =>
     rw[hkn]at h
     simp only at h
     split at h
     ·cases hd:vw n dst with
      | false=>rw[hd]at h; exact h.elim
      | true =>
       rw[hd,cond_true]at h
       rcases h with⟨_,h⟩ | ⟨_,h⟩
       ·cases want with
        | true=>rw[cond_true]at h; exact one _ (s.gB t true) s1 h hk
        | false=>rw[cond_false]at h; cases h; exact skp _ (s.gB t true) hk
       ·cases want with
        | true=>rw[cond_true]at h; cases h; exact skp _ (s.gB t false) hk
        | false=>rw[cond_false]at h; exact one _ (s.gB t false) s1 h hk
     ·cases hd:vw n dst with
      | false=>rw[hd]at h; exact h.elim
      | true=>rw[hd,cond_true]at h; cases h; exact skp _ s hk
     ·exact h.elim
 intro l
 induction l with
 | nil=>intro s s' h hk; cases h; exact⟨rfl,hk⟩
 | cons o l ih =>
  intro s s' h hk
  obtain⟨s1,h1,h2⟩:=T.zd.1 h
  obtain⟨g1,g2⟩:=ih s1 s' h2 hk
  obtain⟨k1,k2⟩:=gd o s s1 h1 g2
  exact⟨g1.trans k1,k2⟩
theorem Kr{c:Ctx}{ops:Array Oper}{draw:Bool}{fr:Fr}{kn:Kn}{st:St}{s':cg}(h:(gV c n ops draw fr kn st).leads s')(hq:quiet s'.ks=true):s'.st=st:=by
 obtain⟨s1,h1,h2⟩:=T.zd.1 h
 cases hd:(!draw||rS ops s1.ks.reverse s1.bk.reverse)with
 | false=>rw[hd]at h2; exact h2.elim
 | true=>rw[hd,cond_true]at h2; cases h2; exact(Kf _ _ _ h1 hq).1
theorem Pk{c:Ctx}{κ:KS}{a:Act}{o:Oper}{g:Nat}{args:Array Value}{R:Ending->World->Prop}(vi:(execOp a.eval o).run c.P κ.w=(callFunc g args).run c.P κ.w)
  (h:ug c.P g args κ.w R) {K:Act->World->Prop} {Q:Exit->Act->World->Prop} (hR:∀ e w',R e w'->∃ ch,e=.panicked ch/\Q (.panic ch) a w'):o.wp c.P a κ.w K Q:=by
 unfold Oper.wp
 rw[vi]
 rcases h with⟨h1,h2⟩ | ⟨v,w',h1,h2⟩
 ·rw[h1]
  refine h2.mono λe w' he => ?_
  grind
 ·grind
theorem NX{c:Ctx}{κ:KS}{n:Nat}{a:Act}{o:Oper}{s:cg}{d:D}{zq:St}(hC:∀ g,YB c.P g (c.fn g))(hI:Inv κ)(hR:Rel κ n s.fr.get a)(xE:κ.st=s.st)(h:FF c o s d zq){K:Act->World->Prop}{Q:Exit->Act->World->Prop}
  (hQ:∀ (v:Value) (κ':KS),κ'.st=zq->Inv κ'->Ext κ κ'->RD κ' d v->Q (.panic [{ v,recovered:=false }]) a κ'.w):o.wp c.P a κ.w K Q:=by
 have dL:∀ (x:Operand) (z:D),uf s.fr x=some z->RD κ z (a.eval x):=λx z hz=>hR.eval (by rw[<- yV]; exact hz)
 obtain⟨dst,op,ty,pos,after,guard⟩:=o
 rcases h with⟨x,t,e,rfl,hx,rfl,rfl⟩ | ⟨f,args,ml,rfl,g,caps,l,hp,hl,hc⟩
 ·have hv:=dL x _ hx
  generalize GL:a.eval x=pv at hv
  cases hv with
  | iface _ _ u hu =>
   have vi:(execOp a.eval ⟨dst,.panic x,ty,pos,after,guard⟩).run c.P κ.w=.halt (.panic (.iface t u)) κ.w:=by
    simp[execOp,GL,Instr.panic]
   unfold Oper.wp
   rw[vi]
   exact hQ _ κ xE hI (Ext.refl κ) (.iface t e u hu)
 ·have RJ:=dL f _ hp
  have hr:=yi (κ:=κ) (vs:=args.toList.map a.eval) hl (by simp) (λi d v hd hv=>by
      simp only[List.getElem?_map]at hd hv
      cases hi:args.toList[i]? with
      | none=>grind
      | some x=>rw[hi]at hd hv; simp at hd hv; subst hv; exact dL x d hd)
  generalize GL:a.eval f=pv at RJ
  cases RJ with
  | qS _ _ us dJ hh2 =>
   have oX:=W5 g hr (⟨dJ,hh2⟩:qA κ caps us)
   rw[<- xE]at hc
   refine Pk (c:=c) (κ:=κ) (g:=y8 g) (args:=(uT g (args.toList.map a.eval) us).toArray) ?_ (hC (y8 g) κ _ _ _ _ hc hI oX) ?_
   ·exact YY GL
   ·rintro e w' ⟨κ',rfl,h1,h2,h3,v,rfl,h4⟩
    grind
theorem Iu{c:Ctx}{κ:KS}{n:Nat}{a:Act}{id:Nat}{ops:Array Oper}{fr:Fr}{kn:Kn}{d:D}{zq:St}(hC:∀ g,YB c.P g (c.fn g))(hI:Inv κ)(hR:Rel κ n fr.get a)(hk:vd kn fr.get)
  (h:CP c n ops ops.toList ⟨fr,kn,κ.st,[],[]⟩ d zq) {Q:Exit->Act->World->Prop}
  (hQ:∀ (v:Value) (a':Act) (κ':KS),κ'.st=zq->Inv κ'->Ext κ κ'->Rel κ' n (Fr.get []) a'->cO ops a a'->RD κ' d v->Q (.panic [{ v,recovered:=false }]) a' κ'.w):(Code.region id ops false).wp c.P Q a κ.w:=by
 obtain⟨pre,o,post,s1,e,h1,h2,h3⟩:=h
 have Lx:∀ j:Nat,ops[j]? = (pre++o::post)[j]? := λj=>by rw[<- e]; simp
 obtain⟨ks,g1,g2,_⟩:=dv pre 0 ⟨fr,kn,κ.st,[],[]⟩ s1 (λj=>by
  by_cases hj:j<pre.length
  ·grind
  ·right; omega) hk h1
 have uo:List.range ops.size=List.range' 0 pre.length++pre.length::List.range' (pre.length+1) post.length:=by
  have:ops.size=pre.length+(post.length+1):=by rw[<- Array.length_toList,e]; simp
  rw[this,List.range_eq_range',<- List.range'_append_1,Nat.zero_add,List.range'_succ]
 refine wp_region ?_
 rw[uo]
 refine ZJ hC _ _ hI hR rfl g1 λa' κ' e1 e2 e3 e4 e5 => ?_
 rw[wpOps_cons]
 unfold wpOp
 have ho:ops[pre.length]? = some o:=by rw[Lx]; simp
 rw[ho]
 simp only
 rw[if_pos (fp e4 h2)]
 exact .inl (NX hC e2 e4 e1 h3 λv Lh f1 f2 f3 f4=>hQ v a' Lh f1 f2 (e3.trans f3) ⟨e4.size,e4.defers,λs d hd=>by cases hd⟩ e5 f4)
def Za(P:Program)(n:Nat)(l:zU)(b:Code):Prop:=∀ (κ:KS) (a:Act) (p:wC l.ps) (s:l.sh.den) (r:yL l.ws),(l.F p s).leads r->κ.st=l.sh.st s->Inv κ ->
 Rel κ n (l.sh.fr s).get a->Rel κ n (dn (l.sh.st s) l.ps p).get a->Ct l.ps (qi b)=true->(∀ w∈l.ws,l.sh.bs.length<=w.sh.bs.length) ->
 ∀ Q:Exit->Act->World->Prop,(∀ (w:Way) (x:w.sh.den) (eG:Exit) (a':Act) (κ':KS),w∈l.ws->RIs l.ws r w x->κ'.st=w.sh.st x->Inv κ'->Ext κ κ'->z3k κ' n w x a' eG->Kept b a a'->Q eG a' κ'.w) ->
  (Code.loop b).wp P Q a κ.w
def vP(P:Program)(n:Nat)(H:Hints)(code:Code):Prop:=∀ p∈xh code,∀ l,H.loop p.1=some l->Za P n l p.2
theorem NY{kn:Kn}:∀ (l:List Nat) {fr:Fr} {st:St} {r:Fr×St},(RT l fr st).leads r->vd kn fr.get->vd kn r.1.get
 | [],fr,st,r,h,hk=>by cases h; exact hk
 | s::l,fr,st,r,h,hk=>by
  obtain⟨x,h1,h2⟩:=T.zd.1 h
  refine NY l h2 λt b hb => ?_
  have hf:=hk t b hb
  unfold z0c at h1
  cases hW:Nat.ble 1000000 s with
  | true =>
   rw[hW,cond_true]at h1
   have hfr:x.1=fr:=by
    unfold z0k at h1
    split at h1
    ·split at h1
     ·split at h1
      ·split at h1
       ·obtain⟨_,h1⟩:=h1; cases h1; rfl
       ·exact h1.elim
      ·exact h1.elim
     ·cases h1; rfl
    ·cases h1; rfl
   grind
  | false =>
  rw[hW,cond_false]at h1
  unfold z0f at h1
  split at h1
  ·rename_i b' qw e off len hs
   split at h1
   ·split at h1
    ·obtain⟨_,h1⟩:=h1
     cases h1
     simp only[Fr.get]
     cases ht:Nat.beq s t with
     | true=>rw[<- Nat.eq_of_beq_eq_true ht,hs]at hf; cases hf
     | false=>grind
    ·exact h1.elim
   ·exact h1.elim
  ·cases h1; exact hf
theorem N0{c:Ctx}{t e:Nat}(hu:c.P.underlying t=some (.slice e)){op:BinOp}{b:Bool}(RR:MC op=some b)(px py:Operand)(w:World)(x:Option Addr)(l k:Nat) :
  (do eqGuard op t px py (.slice x l k) (.slice none 0 0); binOp op t (.slice x l k) (.slice none 0 0):Sem Value).run c.P w=.ok (.bool (if b=true then x.isNone else !x.isNone)) w:=by
 cases op<;>simp only[MC]at RR<;>cases RR
 ·have:=run_eql_slice_nil (P:=c.P) w t e x l k hu
  simp only[eqGuard]
  simpa using this
 ·have:=run_neq_slice_nil (P:=c.P) w t e x l k hu
  simp only[eqGuard]
  simpa using this
theorem Cn{ops:Array Oper}{fr:Fr}{p:z8U}(hp:Y3 (vJ P xid tab ro) n ops fr=some p){κ:KS}{a:Act}{kn:Kn}(hI:Inv κ)(hR:Rel κ n fr.get a)(hk:vd kn fr.get){id:Nat}(Q:Exit->Act->World->Prop)
  (hQ:∀ a':Act,Kept (.region id ops false) a a' ->
   ((p.l=[]/\Rel κ n (Fr.get ((p.c,some (.zD .bool p.eq))::(p.m,some .xo)::(p.s,some .xo)::fr)) a')\/Rel κ n (Fr.get ((p.c,some (.zD .bool (!p.eq)))::(p.m,some (.zD (.sl p.e) p.l))::fr)) a')->Q .normal a' κ.w) :
  (Code.region id ops false).wp P Q a κ.w:=by
 unfold Y3 at hp
 split at hp
 ·rename_i o1 o2 hops
  split at hp
  ·rename_i m s BJ MD hg1
   split at hp
   ·rename_i cc op t m' y ty' RV RZ hg2
    split at hp
    ·rename_i b e l et RR hs hel
     cases hc:Nat.beq m m'&&Dw y&&Nat.blt m n&&Nat.blt cc n with
     | false=>grind
     | true =>
      rw[hc,cond_true]at hp
      cases hp
      simp only[Bool.and_eq_true]at hc
      obtain⟨⟨⟨hmm,hy⟩,hmn⟩,hcn⟩:=hc
      have:=Nat.eq_of_beq_eq_true hmm
      subst this
      have hy':y=.const (.slice none 0 0):=by
       unfold Dw at hy
       grind
      subst hy'
      obtain⟨v,hv,ke⟩:=hR.get s _ hs
      obtain⟨x,k,hvs⟩:∃ (x:Option Addr) (k:Nat),v=.slice x l.length k/\(x=none->l=[]/\k=0):=by
       rcases(ke.wU rfl).Zi with⟨rfl,a0,he⟩ | ⟨blk,off,cap,f,he,w7,wM,h1,h2⟩
       ·grind
       ·grind
      obtain⟨rfl,hvn⟩:=hvs
      have uo:ops.size=2:=by rw[<- Array.length_toList,hops]; rfl
      have e0:ops[0]? = some o1:=by rw[<- Array.getElem?_toList,hops]; rfl
      have e1:ops[1]? = some o2:=by rw[<- Array.getElem?_toList,hops]; rfl
      have zca:m<n:=Nat.le_of_ble_eq_true hmn
      have zfg:cc<n:=Nat.le_of_ble_eq_true hcn
      have hsl:a.tmps.getD s undef=.slice x l.length k:=by simp[Array.getD_eq_getD_getElem?,hv]
      have wan:∀ (o:Oper) (ys:Nat->Option Value),o.guard=none->True:=λ_ _ _=>trivial
      refine wp_region ?_
      rw[uo,show List.range 2=[0,1]from rfl,wpOps_cons]
      unfold wpOp
      rw[e0]
      simp only
      rw[if_pos (by unfold Region.wanted; rw[hg1])]
      refine .inl ?_
      obtain⟨d1,op1,ty1,z4x,af1,gu1⟩:=o1
      obtain⟨d2,op2,UK,z0i,af2,gu2⟩:=o2
      simp only at BJ MD hg1 RV RZ hg2
      subst BJ MD hg1 RV RZ hg2
      have hx1:(execOp a.eval ⟨some m,.move (.tmp s),ty1,z4x,af1,none⟩).run P κ.w=.ok (.value (.slice x l.length k)) κ.w:=by
       simp[execOp,Act.eval,hsl]
      unfold Oper.wp
      rw[hx1,Oper.upon_value,wpOps_cons]
      unfold wpOp
      rw[e1]
      simp only
      rw[if_pos (by unfold Region.wanted; rfl)]
      refine .inl ?_
      have dL:(a.put (some m) (.slice x l.length k)).eval (.tmp m)=.slice x l.length k:=by
       have:=hR.size
       simp[Act.eval,Act.put,Array.getD_eq_getD_getElem?,Array.getElem?_setIfInBounds,this,zca]
      have hu:=vV hel
      have vi:=N0 (c:=vJ P xid tab ro) hu RR (.tmp m) (.const (.slice none 0 0)) κ.w x l.length k
      have Dx:(execOp (a.put (some m) (.slice x l.length k)).eval ⟨some cc,.binOp op t (.tmp m) (.const (.slice none 0 0)) ty',UK,z0i,af2,none⟩).run P κ.w=.ok (.value (.bool (if b=true then x.isNone else !x.isNone))) κ.w:=by
       have hex:execOp (a.put (some m) (.slice x l.length k)).eval ⟨some cc,.binOp op t (.tmp m) (.const (.slice none 0 0)) ty',UK,z0i,af2,none⟩ =
        (do Pure.pure (.value (<- (do eqGuard op t (.tmp m) (.const (.slice none 0 0)) ((a.put (some m) (.slice x l.length k)).eval (.tmp m)) (.slice none 0 0); binOp op t ((a.put (some m) (.slice x l.length k)).eval (.tmp m)) (.slice none 0 0))))):=rfl
       rw[hex,dL,Sem.run_bind]
       rw[show(do eqGuard op t (.tmp m) (.const (.slice none 0 0)) (.slice x l.length k) (.slice none 0 0); binOp op t (.slice x l.length k) (.slice none 0 0):Sem Value).run P κ.w=_ from vi]
       rfl
      unfold Oper.wp
      rw[Dx,Oper.upon_value]
      have z5I:∀ (q:Nat) (u:Value) (a1:Act) (t:Nat),(a1.put (some q) u).tmps[t]? = if q=t then(if q<a1.tmps.size then some u else none)else a1.tmps[t]? := by
       intro q u a1 t
       simp only[Act.put,Array.getElem?_setIfInBounds]
      have RG:(a.put (some m) (.slice x l.length k)).tmps.size=n:=by simp[Act.put,hR.size]
      have hs2:((a.put (some m) (.slice x l.length k)).put (some cc) (.bool (if b=true then x.isNone else !x.isNone))).tmps.size=n:=by simp[Act.put,hR.size]
      refine hQ _ (λt ht => ?_) ?_
      ·have hw:qi (.region id ops false)=[m,cc]:=by simp only[qi,hops,dstsOf]
       grind
      ·have get:∀ (t:Nat),((a.put (some m) (.slice x l.length k)).put (some cc) (.bool (if b=true then x.isNone else !x.isNone))).tmps[t]? = if cc=t then some (.bool (if b=true then x.isNone else !x.isNone))else if m=t then some (.slice x l.length k)else a.tmps[t]? := by
        grind
       have Ti:∀ {i j:Nat},Nat.beq i j=false->i≠j:=λh e=>by subst e; simp at h
       cases x with
       | none =>
        obtain⟨hl,JZ⟩:=hvn rfl
        subst hl JZ
        refine .inl ⟨rfl,hs2,hR.defers,λt d hd => ?_⟩
        rw[get]
        simp only[Fr.get]at hd
        cases h1:Nat.beq cc t with
        | true =>
         rw[h1,cond_true]at hd; cases hd
         rw[if_pos (Nat.eq_of_beq_eq_true h1)]
         refine⟨_,rfl,?_⟩
         cases b<;>exact .bool
        | false =>
         rw[h1,cond_false]at hd
         rw[if_neg (Ti h1)]
         cases h2:Nat.beq m t with
         | true=>rw[h2,cond_true]at hd; cases hd; rw[if_pos (Nat.eq_of_beq_eq_true h2)]; exact⟨_,rfl,.xo⟩
         | false =>
          rw[h2,cond_false]at hd
          rw[if_neg (Ti h2)]
          cases h3:Nat.beq s t with
          | true=>rw[h3,cond_true]at hd; cases hd; rw[<- Nat.eq_of_beq_eq_true h3]; exact⟨_,hv,.xo⟩
          | false=>rw[h3,cond_false]at hd; exact hR.get t d hd
       | some x =>
        refine .inr ⟨hs2,hR.defers,λt d hd => ?_⟩
        rw[get]
        simp only[Fr.get]at hd
        cases h1:Nat.beq cc t with
        | true =>
         rw[h1,cond_true]at hd; cases hd
         rw[if_pos (Nat.eq_of_beq_eq_true h1)]
         refine⟨_,rfl,?_⟩
         cases b<;>exact .bool
        | false =>
         rw[h1,cond_false]at hd
         rw[if_neg (Ti h1)]
         cases h2:Nat.beq m t with
         | true=>rw[h2,cond_true]at hd; cases hd; rw[if_pos (Nat.eq_of_beq_eq_true h2)]; exact⟨_,rfl,ke⟩
         | false=>rw[h2,cond_false]at hd; rw[if_neg (Ti h2)]; exact hR.get t d hd
    ·cases hp
   ·cases hp
  ·cases hp
 ·cases hp
theorem Ly{id:Nat}{b:Code}(hb:∀ b',b≠.loop b')(fr:Fr)(kn:Kn)(st:St){α:Type}(k:Cy->T α):sk (vJ P xid tab ro) tab n H (.block id b) fr kn st k=sk (vJ P xid tab ro) tab n H b fr kn st λr=>match r.ex with
  | .exit id'=>bif Nat.beq id' id then k { r with ex:=.normal } else k r
  | _=>k r:=by
 cases b<;>first | rfl | exact absurd rfl (hb _)
theorem nG(hm:(vJ P xid tab ro).P.follows .mixedOrders=true)(hT:kM P tab):∀ (code:Code),vP P n H code->∀ {fr:Fr} {kn:Kn} {κ:KS} {a:Act} {α:Type} {k:Cy->T α} {r:α},
  (sk (vJ P xid tab ro) tab n H code fr kn κ.st k).leads r->Inv κ->Rel κ n fr.get a->vd kn fr.get ->
  ∀ Q:Exit->Act->World->Prop,(∀ (o:Cy) (eG:Exit) (a':Act) (κ':KS),(k o).leads r->κ'.st=o.st->Inv κ'->Ext κ κ'->Rel κ' n o.fr.get a'->vd o.kn o.fr.get->Kept code a a'->(o.q=true->o.st=κ.st)->Hv κ' o.ex eG->Q eG a' κ'.w) ->
   code.wp P Q a κ.w:=by
 intro code
 induction code with
 | skip=>intro _ fr kn κ a α k r h hI hR hk Q hQ; exact wp_skip (hQ _ _ a κ h rfl hI (Ext.refl κ) hR hk (λ_ _=>rfl) (λ_=>rfl) rfl)
 | exit id=>intro _ fr kn κ a α k r h hI hR hk Q hQ; exact wp_exit (hQ _ _ a κ h rfl hI (Ext.refl κ) hR hk (λ_ _=>rfl) (λ_=>rfl) rfl)
 | ret=>intro _ fr kn κ a α k r h hI hR hk Q hQ; exact wp_ret (hQ _ _ a κ h rfl hI (Ext.refl κ) hR hk (λ_ _=>rfl) (λ_=>rfl) rfl)
 | region id ops draw =>
  intro _ fr kn κ a α k r h hI hR hk Q hQ
  simp only[sk]at h
  obtain⟨z,h0,h⟩:=T.zd.1 h
  obtain⟨κ0,w1,w2,w3,w4,w5⟩:=Nt _ h0 hI hR
  have JZ:=NY _ h0 hk
  rcases Uh JZ h with⟨s,h1,h2⟩ | ⟨d,zq,rfl,h1,h2⟩
  rotate_left
  ·rw[<- w2]at h1
   rw[<- w1]
   exact Iu (Ym hT) w3 w5 JZ h1 λv a' κ' e1 e2 e3 e4 e5 e6=>hQ ⟨.kb d,[],[],zq,false⟩ _ a' κ' h2 e1 e2 (w4.trans e3) e4 (bp _) (λt ht=>e5 t λo ho he=>ht (Z9 ho he)) (λhq=>by cases hq) ⟨v,rfl,e6⟩
  rw[<- w2]at h1
  have Kt:=ID JZ h1
  rw[<- w1]
  refine(M5 hm (Ym hT) w3 w5 JZ h1 λa' κ' e1 e2 e3 e4 e5=>hQ ⟨.normal,s.fr,s.kn,s.st,quiet s.ks&&(H.RT id).isEmpty⟩ _ a' κ' h2 e1 e2 (w4.trans e3) e4 Kt (λt ht=>e5 t λo ho he=>ht (Z9 ho he)) (λhq => ?_) rfl).1
  simp only[Bool.and_eq_true]at hq
  have he:H.RT id=[]:=List.isEmpty_iff.1 hq.2
  rw[he]at h0
  cases h0
  exact(Kr h1 hq.1).trans w2
 | seq x y ix iy =>
  intro hl fr kn κ a α k r h hI hR hk Q hQ
  have RO:vP P n H x:=λp hp=>hl p (by simp only[xh,List.mem_append]; exact .inl hp)
  have hly:vP P n H y:=λp hp=>hl p (by simp only[xh,List.mem_append]; exact .inr hp)
  have kx:∀ {a a':Act},Kept x a a'->Kept (.seq x y) a a':=λh s hs=>h s λe=>hs (by simp only[qi,List.mem_append]; exact .inl e)
  have ky:∀ {a a':Act},Kept y a a'->Kept (.seq x y) a a':=λh s hs=>h s λe=>hs (by simp only[qi,List.mem_append]; exact .inr e)
  simp only[sk]at h
  split at h
  ·refine wp_seq (ix RO h hI hR hk _ λo eG a' κ' e0 e1 e2 e3 e4 Md e5 e5q e6 => ?_)
   cases hex:o.ex<;>rw[hex]at e0 e6<;>simp only at e0
   ·cases e6
    refine iy hly (κ:=κ') (e1▸e0) e2 e4 Md Q λo' Ys a'' Lh f0 f1 f2 f3 f4 JD f5 Bi f6=>hQ { o' with q:=o.q&&o'.q } Ys a'' Lh f0 f1 f2 (e3.trans f3) f4 JD (λs hs=>(ky f5 s hs).trans (kx e5 s hs)) ?_ f6
    grind
   ·cases e6; exact hQ o _ a' κ' e0 e1 e2 e3 e4 Md (kx e5) e5q (by rw[hex]; rfl)
   ·cases e6; exact hQ o _ a' κ' e0 e1 e2 e3 e4 Md (kx e5) e5q (by rw[hex]; rfl)
   ·obtain⟨v,rfl,hv⟩:=e6
    exact hQ o _ a' κ' e0 e1 e2 e3 e4 Md (kx e5) e5q (by rw[hex]; exact⟨v,rfl,hv⟩)
  ·rename_i mm hcu
   cases hw:UE mm with
   | false=>rw[hw]at h; exact h.elim
   | true =>
    rw[hw,cond_true]at h
    obtain⟨z,h1,h2⟩:=T.zd.1 h
    have h1:=GQ h1
    refine wp_seq (ix RO h1 hI hR hk _ λo eG a' κ' e0 e1 e2 e3 e4 Md e5 e5q e6 => ?_)
    cases hex:o.ex<;>rw[hex]at e0 e6<;>simp only at e0
    ·cases e6
     cases hq:o.q with
     | false=>rw[hq]at e0; exact e0.elim
     | true =>
      rw[hq,cond_true]at e0
      have xE:o.st=κ.st:=e5q hq
      have hRz:Rel κ' n (dn κ.st mm z).get a':=by
       refine⟨e4.size,e4.defers,λt d hd => ?_⟩
       obtain⟨k',y',d0,g0,g1,g2,g3⟩:=(su (p:=λ_=>true) (zq:=κ.st) mm [] z (λ_ _=>rfl) e0).2 _ (get_mem hd)
       cases g3
       obtain⟨v,q1,q2⟩:=e4.get _ _ g1
       have Qa:=List.all_eq_true.1 hw _ g0
       have Qa:X5 k'=true:=Qa
       have hwk:Wk κ' κ':=⟨rfl,rfl,rfl,rfl,λb d h=>⟨d,h⟩,λb v e xs h=>.inl h,λb v e xs h=>h,λb h=>h⟩
       have w7:HU [] k'=true:=by cases k'<;>first | rfl | cases Qa
       rw[<- e1]at g2
       have:=Yj hwk (bs:=[]) w7 (λ_ _=>rfl) (zq:=κ'.st) (λ_ _=>rfl) (λ_ h=>by simp[rowAt]at h) g2 q2
       grind
      have Jg:=oo hR e3 hRz e5
      refine iy hly (κ:=κ') (by rw[e1,xE]; exact h2) e2 Jg (bp _) Q λo' Ys a'' Lh f0 f1 f2 f3 f4 JD f5 Bi f6=>hQ o' Ys a'' Lh f0 f1 f2 (e3.trans f3) f4 JD (λs hs=>(ky f5 s hs).trans (kx e5 s hs)) (λhq=>(Bi hq).trans (e1.trans xE)) f6
    ·exact e0.elim
    ·exact e0.elim
    ·exact e0.elim
  ·rename_i hcu
   cases RR:opsOf x with
   | none=>rw[RR]at h; exact h.elim
   | some ops =>
    rw[RR]at h
    simp only at h
    cases hp:Y3 (vJ P xid tab ro) n ops fr with
    | none=>rw[hp]at h; exact h.elim
    | some p =>
     rw[hp]at h
     obtain⟨Wg,z6z⟩:=h
     obtain⟨id,rfl⟩:∃ id,x=.region id ops false:=by
      cases x with
      | region id ops' draw =>
       cases draw with
       | true=>cases RR
       | false=>cases RR; exact⟨id,rfl⟩
      | _=>cases RR
     refine wp_seq (Cn hp hI hR hk _ ?_)
     intro a' hk1 z8e
     rcases z8e with⟨hl,Jg⟩ | Jg
     ·refine iy hly (κ:=κ) (Wg hl _ z6z) hI Jg (λt b hb => ?_) Q λo' Ys a'' Lh f0 f1 f2 f3 f4 JD f5 Bi f6=>hQ o' Ys a'' Lh f0 f1 f2 f3 f4 JD (λs hs=>(ky f5 s hs).trans (kx hk1 s hs)) Bi f6
      simp only[Kn.get]at hb
      simp only[Fr.get]
      grind
     ·refine iy hly (κ:=κ) z6z hI Jg (λt b hb => ?_) Q λo' Ys a'' Lh f0 f1 f2 f3 f4 JD f5 Bi f6=>hQ o' Ys a'' Lh f0 f1 f2 f3 f4 JD (λs hs=>(ky f5 s hs).trans (kx hk1 s hs)) Bi f6
      simp only[Kn.get]at hb
      simp only[Fr.get]
      cases ht:Nat.beq p.c t with
      | true=>rw[ht,cond_true]at hb; rw[cond_true]; cases hb; rfl
      | false=>rw[ht,cond_false]at hb; cases hb
  ·rename_i ws hcu
   cases hw:ws.all λw=>Nat.ble κ.st.length w.sh.bs.length with
   | false=>rw[hw]at h; exact h.elim
   | true =>
    rw[hw,cond_true]at h
    obtain⟨rr,QS,h2⟩:=T.zd.1 h
    refine wp_seq (ix RO QS hI hR hk _ λo eG a' κ' e0 e1 e2 e3 e4 Md e5 _ e6 => ?_)
    obtain⟨w,g1,z,g2,g3,g4⟩:=K8 _ _ _ _ _ e0
    have hwl:=List.all_eq_true.1 hw w g1
    obtain⟨κ1,q1,q2,q3,q4,q5⟩:=Ob (n:=n) e3 e2 e4 e6 g3 (Nat.le_of_ble_eq_true hwl) (by rw[e1]; exact g4)
    rw[g2]at h2
    split at h2
    ·exact h2.elim
    rename_i zz hzz
    obtain⟨q5,Pr⟩:=q5 zz hzz
    have Jg:=oo hR q4 q5 e5
    rw[<- q1]
    cases hex:zz.1<;>rw[hex]at h2 Pr<;>simp only at h2
    ·cases Pr
     exact iy hly (κ:=κ1) (by rw[q2]; exact h2) q3 Jg (bp _) Q λo' Ys a'' Lh f0 f1 f2 f3 f4 JD f5 _ f6=>hQ { o' with q:=false } Ys a'' Lh f0 f1 f2 (q4.trans f3) f4 JD (λs hs=>(ky f5 s hs).trans (kx e5 s hs)) (λhq=>by cases hq) f6
    ·cases Pr; exact hQ _ _ a' κ1 h2 q2 q3 q4 Jg (bp _) (kx e5) (λhq=>by cases hq) rfl
    ·cases Pr; exact hQ _ _ a' κ1 h2 q2 q3 q4 Jg (bp _) (kx e5) (λhq=>by cases hq) rfl
    ·obtain⟨v,rfl,hv⟩:=Pr
     exact hQ _ _ a' κ1 h2 q2 q3 q4 Jg (bp _) (kx e5) (λhq=>by cases hq) ⟨v,rfl,hv⟩
 | cond x p q ip iq =>
  intro hl fr kn κ a α k r h hI hR hk Q hQ
  have hlp:vP P n H p:=λz hz=>hl z (by simp only[xh,List.mem_append]; exact .inl hz)
  have Lw:vP P n H q:=λz hz=>hl z (by simp only[xh,List.mem_append]; exact .inr hz)
  have kp:∀ {a a':Act},Kept p a a'->Kept (.cond x p q) a a':=λh s hs=>h s λe=>hs (by simp only[qi,List.mem_append]; exact .inl e)
  have kq:∀ {a a':Act},Kept q a a'->Kept (.cond x p q) a a':=λh s hs=>h s λe=>hs (by simp only[qi,List.mem_append]; exact .inr e)
  have hQp:=λ(o:Cy) (eG:Exit) (a':Act) (κ':KS) f0 f1 f2 f3 f4 JD (f5:Kept p a a') Bi f6=>hQ o eG a' κ' f0 f1 f2 f3 f4 JD (kp f5) Bi f6
  have hQq:=λ(o:Cy) (eG:Exit) (a':Act) (κ':KS) f0 f1 f2 f3 f4 JD (f5:Kept q a a') Bi f6=>hQ o eG a' κ' f0 f1 f2 f3 f4 JD (kq f5) Bi f6
  simp only[sk]at h
  split at h
  ·rename_i hx
   have hv:qh fr.get x=some (.zD .bool true):=gK hk hx
   exact wp_cond_true (hR.eval hv).jq (ip hlp h hI hR hk Q hQp)
  ·rename_i hx
   have hv:qh fr.get x=some (.zD .bool false):=gK hk hx
   exact wp_cond_false (hR.eval hv).jq (iq Lw h hI hR hk Q hQq)
  ·split at h
   ·split at h
    ·rename_i v hv
     have he:=hv
     rw[show ∀ t,fr.get t=qh fr.get (.tmp t)from λ_=>rfl]at he
     rcases h with⟨rfl,h⟩ | ⟨rfl,h⟩
     ·exact wp_cond_true (hR.eval he).jq (ip hlp h hI hR (o6 hk hv) Q hQp)
     ·exact wp_cond_false (hR.eval he).jq (iq Lw h hI hR (o6 hk hv) Q hQq)
    ·exact h.elim
   ·exact h.elim
 | block id b ib =>
  intro hl fr kn κ a α k r h hI hR hk Q hQ
  by_cases hb:∃ b',b=.loop b'
  ·obtain⟨b,rfl⟩:=hb
   simp only[sk]at h
   split at h
   ·exact h.elim
   ·rename_i l hll
    cases hc:Nat.ble (gh l.gh fr κ.st).2.length l.sh.bs.length&&Ct l.ps (qi b)&&l.ws.all λw=>Nat.ble l.sh.bs.length w.sh.bs.length with
    | false=>rw[hc]at h; exact h.elim
    | true =>
     rw[hc,cond_true]at h
     simp only[Bool.and_eq_true,List.all_eq_true]at hc
     obtain⟨⟨Iw,O8⟩,hc3⟩:=hc
     obtain⟨p,h1,h⟩:=T.zd.1 h
     obtain⟨s,h2,h⟩:=T.zd.1 h
     obtain⟨rr,h3,h4⟩:=T.zd.1 h
     obtain⟨κ1,w1,w2,w3,w4,w5⟩:=fP l.gh fr κ hI hR
     rw[<- w2]at h1 h2 Iw
     obtain⟨κ2,q1,q2,q3,q4,q5,_⟩:=l.sh.sN (n:=n) (Ext.refl κ1) w3 w5 (Nat.le_of_ble_eq_true Iw) h2
     -- the loop's parameters
     have hps:Rel κ2 n (dn (l.sh.st s) l.ps p).get a:=by
      refine⟨w5.size,w5.defers,λt d hd => ?_⟩
      obtain⟨k',y,d0,g0,g1,g2,g3⟩:=(su (p:=λ_=>true) (zq:=l.sh.st s) l.ps [] p (λ_ _=>rfl) h1).2 _ (get_mem hd)
      cases g3
      obtain⟨v,e1,e2⟩:=w5.get _ _ g1
      have Qa:=List.all_eq_true.1 O8 _ g0
      simp only[Bool.and_eq_true]at Qa
      have hwk:Wk κ1 κ1:=⟨rfl,rfl,rfl,rfl,λb d h=>⟨d,h⟩,λb v e xs h=>.inl h,λb v e xs h=>h,λb h=>h⟩
      have w7:HU [] k'=true:=by cases k'<;>first | rfl | cases Qa.1
      have:=Yj hwk (bs:=[]) w7 (λ_ _=>rfl) (zq:=κ1.st) (λ_ _=>rfl) (λ_ h=>by simp[rowAt]at h) g2 e2
      have he:p9 κ1.st k' y=p9 (l.sh.st s) k' y:=by cases k'<;>first | rfl | cases Qa.1
      rw[he]at this
      exact⟨v,e1,this.mono q4⟩
     have z1c:Ext κ κ2:=w4.trans q4
     have tF:κ2.w=κ.w:=q1.trans w1
     rw[<- tF]
     refine wp_block (hl (id,b) (by simp[xh]) l hll κ2 a p s rr h3 q2 q3 q5 hps O8 (λw hw=>Nat.le_of_ble_eq_true (hc3 w hw)) _ λw x eG a' κ' f1 f2 f3 f4 f5 f6 f7 => ?_)
     rw[f2]at h4
     split at h4
     ·exact h4.elim
     rename_i zz hzz
     obtain⟨f6,f8⟩:=f6 zz hzz
     have SV:Rel κ' n (zz.2++(bU (qi b)++(gh l.gh fr κ.st).1)).get a':=oo w5 (q4.trans f5) f6 f7
     have RM:Kept (.block id (.loop b)) a a':=f7
     cases Tq:zz.1<;>rw[Tq]at h4 f8<;>simp only at h4
     ·exact h4.elim
     ·rename_i id'
      cases f8
      simp only[Exit.inBlock]
      cases Km:Nat.beq id' id with
      | true =>
       rw[Km,cond_true]at h4
       have:=Nat.eq_of_beq_eq_true Km
       subst this
       rw[if_pos rfl]
       exact hQ _ _ a' κ' h4 f3 f4 (z1c.trans f5) SV (bp _) RM (λhq=>by cases hq) rfl
      | false =>
       rw[Km,cond_false]at h4
       rw[if_neg (λe=>by subst e; simp at Km)]
       exact hQ _ _ a' κ' h4 f3 f4 (z1c.trans f5) SV (bp _) RM (λhq=>by cases hq) rfl
     ·cases f8
      exact hQ _ _ a' κ' h4 f3 f4 (z1c.trans f5) SV (bp _) RM (λhq=>by cases hq) rfl
     ·obtain⟨v,rfl,hv⟩:=f8
      exact hQ _ _ a' κ' h4 f3 f4 (z1c.trans f5) SV (bp _) RM (λhq=>by cases hq) ⟨v,rfl,hv⟩
  ·have Km:∀ b',b≠.loop b':=λb' e=>hb ⟨b',e⟩
   rw[Ly Km]at h
   refine wp_block (ib (λz hz=>hl z (by rw[G3 Km]; exact hz)) h hI hR hk _ λo eG a' κ' f0 f1 f2 f3 f4 JD f5 Bi f6 => ?_)
   have RM:Kept (.block id b) a a':=f5
   cases hox:o.ex<;>rw[hox]at f0 f6<;>simp only at f0
   ·cases f6; exact hQ o _ a' κ' f0 f1 f2 f3 f4 JD RM Bi (by rw[hox]; rfl)
   ·rename_i id'
    cases f6
    simp only[Exit.inBlock]
    cases hbq:Nat.beq id' id with
    | true =>
     rw[hbq,cond_true]at f0
     have:=Nat.eq_of_beq_eq_true hbq
     subst this
     rw[if_pos rfl]
     exact hQ _ _ a' κ' f0 f1 f2 f3 f4 JD RM Bi rfl
    | false =>
     rw[hbq,cond_false]at f0
     rw[if_neg (λe=>by subst e; simp at hbq)]
     exact hQ o _ a' κ' f0 f1 f2 f3 f4 JD RM Bi (by rw[hox]; rfl)
   ·cases f6; exact hQ o _ a' κ' f0 f1 f2 f3 f4 JD RM Bi (by rw[hox]; rfl)
   ·obtain⟨v,rfl,hv⟩:=f6
    exact hQ o _ a' κ' f0 f1 f2 f3 f4 JD RM Bi (by rw[hox]; exact⟨v,rfl,hv⟩)
 | _=>intro _ fr kn κ a α k r h; simp only[sk]at h; exact h.elim
end
end Go.AM
namespace Go.AM
set_option linter.unusedSectionVars false
variable [vz]
open Go.RowKit
section
variable [VW]
variable {P:Program} {xid:Nat} {tab:c8} {ro:Nat->Bool} {n:Nat} {H:Hints}
theorem I9{b:Code}{st zq:St}:∀ (mm:List It) (z:wC mm),Ct mm (qi b)=true->dn st mm z=dn zq mm z/\∀ q∈dn st mm z,q.1 ∉ qi b:=by
 intro mm
 induction mm with
 | nil=>intro z _; exact⟨rfl,λq hq=>by cases hq⟩
 | cons i r ih =>
  intro z h
  have hi:∀ y:i.den,U9 st i y=U9 zq i y/\∀ q∈U9 st i y,q.1 ∉ qi b:=by
   intro y
   simp only[Ct,List.all_cons,Bool.and_eq_true]at h
   cases i with
   | s t k =>
    obtain⟨h1,_⟩:=h
    simp at h1
    refine⟨by cases k<;>first | rfl | (simp[X5]at h1),λq hq => ?_⟩
    simp only[U9,List.mem_singleton]at hq
    subst hq
    intro hm
    have:=h1.2
    simp only[z2e,Bool.not_eq_true',List.any_eq_false]at this
    exact this t hm (by simp)
   | _=>grind
  cases r with
  | nil =>
   have e1:=XU st i z
   have e2:=XU zq i z
   grind
  | cons j r =>
   have e1:=Zx st i j r z
   have e2:=Zx zq i j r z
   have hr:Ct (j::r) (qi b)=true:=by
    unfold Ct at h ⊢
    grind
   grind
theorem TL(hm:(vJ P xid tab ro).P.follows .mixedOrders=true)(hT:kM P tab){l:zU}{b:Code}(hL:vP P n H b)(R:wC l.ps->l.sh.den->T (l.sh.den⊕yL l.ws))
  (round:∀ p s,N5 (vJ P xid tab ro) tab n H l b p s=R p s) (hF:∀ p s,l.F p s=T.loop (R p) s):Za P n l b:=by
 intro κ a p s r hr xE hI hR hRp hps hws Q hQ
 rw[hF,T.cM]at hr
 obtain⟨m,hm'⟩:=hr
 have zbN:=λ(st zq:St)=>(I9 (b:=b) (st:=st) (zq:=zq) l.ps p hps).1
 have z2T:∀ (st:St) (t:Nat) (d:D),(dn st l.ps p).get t=some d->t ∉ qi b:=λst t d hd=>(I9 (b:=b) (st:=st) (zq:=st) l.ps p hps).2 _ (get_mem hd)
 refine wp_loop_ghost (λm a' w'=>∃ s',T.Iter (R p) m s' r/\∃ κ':KS,κ'.w=w'/\κ'.st=l.sh.st s'/\Inv κ'/\Ext κ κ'/\Rel κ' n (l.sh.fr s').get a'/\Rel κ' n (dn (l.sh.st s) l.ps p).get a'/\Kept b a a') m
  ⟨s,hm',κ,rfl,xE,hI,Ext.refl κ,hR,hRp,λ_ _=>rfl⟩ ?_
 rintro m a1 w1 ⟨s1,hit,κ1,rfl,g4,g5,g6,g7a,g7b,g8⟩
 have g7:Rel κ1 n (l.sh.fr s1++dn (l.sh.st s1) l.ps p).get a1:=⟨g7a.size,g7a.defers,λt d hd=>by
  rcases QE hd with hd | hd
  ·exact g7a.get t d hd
  ·rw[zbN _ (l.sh.st s)]at hd; exact g7b.get t d hd⟩
 cases hit with
 | done h1 =>
  rw[<- round]at h1
  refine nG hm hT b hL (κ:=κ1) (by rw[g4]; exact h1) g5 g7 (bp _) _ λo eG a' κ' e0 e1 e2 e3 e4 Md e5 _ e6 => ?_
  have fin:∀ exo,Hv κ' exo eG->(Yh l.ws exo (Uw exo o.fr) o.st).leads r->Q eG a' κ'.w:=λexo e6 e0=>by
   obtain⟨w,k1,x,k2,k3,k4⟩:=K8 _ _ _ _ _ e0
   have hlen:κ1.st.length<=w.sh.bs.length:=by rw[g4]; exact Nat.le_trans (vH.rj _ _) (hws w k1)
   obtain⟨κ2,q1,q2,q3,q4,q5⟩:=Ob (n:=n) e3 e2 e4 e6 k3 hlen (by rw[e1]; exact k4)
   have:=hQ w x eG a' κ2 k1 k2 q2 q3 (g6.trans q4) q5 (λt ht=>(e5 t ht).trans (g8 t ht))
   grind
  have I8:∀ {z:l.sh.den⊕yL l.ws},((Yh l.ws o.ex (Uw o.ex o.fr) o.st).bind λr=>T.ret (Sum.inr r:l.sh.den⊕yL l.ws)).leads z->z=Sum.inr r->(Yh l.ws o.ex (Uw o.ex o.fr) o.st).leads r:=by
   intro z h hz
   obtain⟨y,h1,h2⟩:=T.zd.1 h
   have h2:(Sum.inr y:l.sh.den⊕yL l.ws)=z:=h2
   grind
  cases hox:o.ex<;>rw[hox]at e0 e6 I8<;>simp only at e0
  ·obtain⟨y,_,h2⟩:=T.zd.1 e0
   have h2:(Sum.inl y:l.sh.den⊕yL l.ws)=Sum.inr r:=h2
   cases h2
  ·have q:=fin _ e6 (I8 e0 rfl); cases e6; exact q
  ·have q:=fin _ e6 (I8 e0 rfl); cases e6; exact q
  ·have q:=fin _ e6 (I8 e0 rfl); obtain⟨v,rfl,hv⟩:=e6; exact q
 | step h1 hit =>
  rename_i m s2
  rw[<- round]at h1
  refine nG hm hT b hL (κ:=κ1) (by rw[g4]; exact h1) g5 g7 (bp _) _ λo eG a' κ' e0 e1 e2 e3 e4 Md e5 _ e6 => ?_
  have I5:((Yh l.ws o.ex (Uw o.ex o.fr) o.st).bind λr=>T.ret (Sum.inr r:l.sh.den⊕yL l.ws)).leads (Sum.inl s2)->False:=by
   intro h
   obtain⟨y,h1,h2⟩:=T.zd.1 h
   have h2:(Sum.inr y:l.sh.den⊕yL l.ws)=Sum.inl s2:=h2
   cases h2
  cases hox:o.ex<;>rw[hox]at e0 e6 I5<;>simp only at e0
  ·cases e6
   obtain⟨y,h1,h2⟩:=T.zd.1 e0
   have h2:(Sum.inl y:l.sh.den⊕yL l.ws)=Sum.inl s2:=h2
   cases h2
   have hlen:κ1.st.length<=l.sh.bs.length:=by rw[g4]; exact vH.rj _ _
   obtain⟨κ2,q1,q2,q3,q4,q5,_⟩:=l.sh.sN (n:=n) e3 e2 e4 hlen (by rw[e1]; exact h1)
   refine⟨m,Nat.lt_succ_self _,s2,hit,κ2,q1,q2,q3,g6.trans q4,q5,⟨q5.size,q5.defers,λt d hd => ?_⟩,λt ht=>(e5 t ht).trans (g8 t ht)⟩
   obtain⟨v,r1,r2⟩:=g7b.get t d hd
   exact⟨v,(e5 t (z2T _ t d hd)).trans r1,r2.mono q4⟩
  ·exact(I5 e0).elim
  ·exact(I5 e0).elim
  ·exact(I5 e0).elim
end
section
variable {P:Program} {xid:Nat} {tab:c8} {ro:Nat->Bool} {n:Nat} {H:Hints}
theorem Q1{κ:KS}(hI:Inv κ):∀ (rs:List Ty) (ds:List D) (x:YD rs) (vs:List Value),(NA κ.st rs ds).leads x->qA κ ds vs->qA κ.all (tp rs x) vs/\∀ d∈tp rs x,Qt d=true
 | [],[],x,vs,h,hd=>by rw[hd.qc]; exact⟨.nil,λd hd=>by cases hd⟩
 | [],_::_,x,vs,h,hd=>h.elim
 | [τ],[],x,vs,h,hd=>h.elim
 | [τ],[d],x,vs,h,hd=>by
  obtain⟨v,us,rfl,h1,h2⟩:=hd.cons_inv
  rw[h2.qc]
  refine⟨.cons (tE hI h1 h) .nil,λd hd => ?_⟩
  have hd:d∈[D.zD τ x]:=hd
  rw[List.mem_singleton]at hd
  subst hd; rfl
 | [τ],_::_::_,x,vs,h,hd=>h.elim
 | τ::σ::r,[],x,vs,h,hd=>h.elim
 | τ::σ::r,d::ds,x,vs,h,hd=>by
  obtain⟨y,h1,h2⟩:=T.zd.1 h
  obtain⟨z,h3,h4⟩:=T.zd.1 h2
  cases h4
  obtain⟨v,us,rfl,k1,k2⟩:=hd.cons_inv
  obtain⟨g1,g2⟩:=Q1 hI (σ::r) ds z us h3 k2
  refine⟨.cons (tE hI k1 h1) g1,λd hd => ?_⟩
  rcases List.mem_cons.1 hd with rfl | hd
  ·rfl
  ·grind
theorem z8z(hm:(vJ P xid tab ro).P.follows .mixedOrders=true)(hT:kM P tab){f:Nat}{fn:Func}{code:Code}(hf:P.funcs[f]? = some fn)(hb:fn.body=some code)
  (hn:(fn.name == "runtime.NumGoroutine")=false) (hL:vP P fn.ntmps H code) {d:G0} (h:∀ x,Rd (vJ P xid tab ro) tab H fn code d x=d.F x):zG P f d:=by
 intro κ x zw y xE hy hI ha
 rw[<- h]at hy
 unfold Rd at hy
 cases hle:Nat.ble (Zq d.ps x).length fn.ntmps with
 | false=>rw[hle]at hy; exact hy.elim
 | true =>
  rw[hle,cond_true]at hy
  have Ul:=Nat.le_of_ble_eq_true hle
  refine .inl ⟨wz hf hn (by grind) κ.w,calls_of_wp hf hb ?_⟩
  have hR:=tn ha Ul
  refine nG hm hT code hL (κ:=κ) (by rw[xE]; exact hy) hI hR (bp _) _ λo eG a' κe e0 e1 e2 e3 e4 _ _ _ e6 => ?_
  have fin:(eG=.normal\/eG=.ret)->((gC (vJ P xid tab ro) o.fr o.st fn.results.toList).bind λds=>NA o.st d.rs ds).leads y ->
    bodyPost P fn (λe w'=>∃ κ':KS,κ'.w=w'/\κ'.st=[]/\Inv κ'/\Ext κ κ'/\wc κ' (.ret (tp d.rs y)) e) eG a' κe.w:=by
   intro hex h2
   obtain⟨ds,g1,g2⟩:=T.zd.1 h2
   rw[<- e1]at g1 g2
   obtain⟨vs,k1,k2⟩:=lL e2 e4 g1
   obtain⟨q1,q2⟩:=Io hI xE e2 e3
   obtain⟨hl,zcQ⟩:=Q1 e2 d.rs ds y vs g2 k2
   have RU:qA (κe.bare (Mg κe)) (tp d.rs y) vs:=⟨hl.1,λi h1 h2=>lE (zcQ _ (List.getElem_mem h1)) (hl.2 i h1 h2)⟩
   have mX:a'.defers=[]/\∃ v,(results fn a'.tmps).run P κe.w=.ok v κe.w/\∃ κ':KS,κ'.w=κe.w/\κ'.st=[]/\Inv κ'/\Ext κ κ'/\wc κ' (.ret (tp d.rs y)) (.returned v) :=
    ⟨e4.defers,_,k1,κe.bare (Mg κe),rfl,rfl,q1,q2,_,rfl,rQ RU⟩
   rcases hex with rfl | rfl
   ·exact mX
   ·exact mX
  cases hox:o.ex<;>rw[hox]at e0 e6<;>simp only at e0
  ·exact fin (.inl e6) e0
  ·exact e0.elim
  ·exact fin (.inr e6) e0
  ·exact e0.elim
theorem Wx{d:G0}{f:Nat}(b:(jX d.ps->T (YD d.rs))->jX d.ps->T (YD d.rs))(hF:∀ x,d.F x=T.fix b x)(h:∀ F:jX d.ps->T (YD d.rs),zG P f ⟨d.ps,d.rs,F⟩->zG P f ⟨d.ps,d.rs,b F⟩):zG P f d:=by
 have hN:∀ m,zG P f ⟨d.ps,d.rs,T.H4 b m⟩:=by
  intro m
  induction m with
  | zero=>nofun
  | succ m ih=>exact h _ ih
 intro κ x zw y xE hy hI ha
 rw[hF,T.fx]at hy
 obtain⟨m,hm⟩:=hy
 exact hN m κ x zw y xE (hm m (Nat.le_refl _)) hI ha
theorem Zp{fr:Fr}:∀ {n i:Nat} {ds:List D},E8 fr n i=some ds->ds.length=n/\∀ j d,ds[j]? = some d->fr.get (i+j)=some d
 | 0,i,ds,h=>by cases h; exact⟨rfl,λj d hj=>by grind⟩
 | n+1,i,ds,h=>by
  simp only[E8]at h
  split at h
  ·rename_i d hd
   split at h
   ·rename_i r hr
    obtain⟨h1,h2⟩:=Zp hr
    grind
   ·cases h
  ·cases h
theorem z47(hm:(vJ P xid tab ro).P.follows .mixedOrders=true)(hT:kM P tab){f:Nat}{fn:Func}{code:Code}(hf:P.funcs[f]? = some fn)(hb:fn.body=some code)
  (hn:(fn.name == "runtime.NumGoroutine")=false) (hL:vP P fn.ntmps H code) {d:jD} (h:∀ x,BL (vJ P xid tab ro) tab H fn code d x=d.F x):xN P f d:=by
 intro κ x zw y xE hy hI hlen NO
 rw[<- h]at hy
 unfold BL at hy
 cases hle:Nat.ble d.ks.length fn.ntmps&&Nat.ble d.sh.bs.length d.out.bs.length with
 | false=>rw[hle]at hy; exact hy.elim
 | true =>
  rw[hle,cond_true]at hy
  simp only[Bool.and_eq_true]at hle
  have Is:=Nat.le_of_ble_eq_true hle.1
  have Nb:=Nat.le_of_ble_eq_true hle.2
  refine .inl ⟨wz hf hn (by rw[hb]; rfl) κ.w,calls_of_wp hf hb ?_⟩
  have hR:Rel κ fn.ntmps (d.sh.fr x).get { tmps:=zw.toArray++Array.replicate (fn.ntmps-zw.toArray.size) undef,defers:=[] }:=by
   refine⟨by simp; omega,rfl,λs e hs => ?_⟩
   obtain⟨v,h1,h2⟩:=NO.get s e hs
   grind
  refine nG hm hT code hL (κ:=κ) (by rw[xE]; exact hy) hI hR (bp _) _ λo eG a' κe e0 e1 e2 e3 e4 _ _ _ e6 => ?_
  have fin:(eG=.normal\/eG=.ret)->((gC (vJ P xid tab ro) o.fr o.st fn.results.toList).bind λds=>bif Nat.beq ds.length d.nr then(d.out.un (w6 ds 0) o.st).bind λy=>bif (yx d.nr (d.out.fr y)).isSome then T.ret y else .fail else .fail).leads y ->
    bodyPost P fn (λe w'=>∃ (κ':KS) (ds:List D),κ'.w=w'/\κ'.st=d.out.st y/\Inv κ'/\Ext κ κ'/\yx d.nr (d.out.fr y)=some ds/\wc κ' (.ret ds) e) eG a' κe.w:=by
   intro hex h2
   obtain⟨ds,g1,g2⟩:=T.zd.1 h2
   cases hnr:Nat.beq ds.length d.nr with
   | false=>rw[hnr]at g2; exact g2.elim
   | true =>
    rw[hnr,cond_true]at g2
    obtain⟨y',g5,g3⟩:=T.zd.1 g2
    cases bT:yx d.nr (d.out.fr y')with
    | none=>rw[bT]at g3; exact g3.elim
    | some Uq =>
     rw[bT]at g3
     have hyy:y'=y:=g3
     subst hyy
     rw[<- e1]at g1 g5
     obtain⟨vs,k1,k2⟩:=lL e2 e4 g1
     have hRr:Rel κe vs.length (w6 ds 0).get { tmps:=vs.toArray,defers:=[] }:=by
      have:=tn (n:=vs.length) k2 (by rw[k2.1]; exact Nat.le_refl _)
      simpa[show(VW.df:List Deferred)=[]from rfl]using this
     obtain⟨κ2,q1,q2,q3,q4,q5,_⟩:=d.out.sN (κ0:=κ) e3 e2 hRr (by rw[xE]; exact Nat.le_trans (vH.rj _ _) Nb) g5
     obtain⟨l1,l2⟩:=Zp bT
     have hds:qA κ2 Uq vs:=by
      refine⟨by rw[l1,<- k2.1]; exact(Nat.eq_of_beq_eq_true hnr).symm,λi h1 h2 => ?_⟩
      have:=l2 i Uq[i] (List.getElem?_eq_getElem h1)
      rw[Nat.zero_add]at this
      obtain⟨v,r1,r2⟩:=q5.get i _ this
      grind
     have mX:a'.defers=[]/\∃ v,(results fn a'.tmps).run P κe.w=.ok v κe.w/\∃ (κ':KS) (ds:List D),κ'.w=κe.w/\κ'.st=d.out.st y'/\Inv κ'/\Ext κ κ'/\yx d.nr (d.out.fr y')=some ds/\wc κ' (.ret ds) (.returned v) :=
      ⟨e4.defers,_,k1,κ2,Uq,q1,q2,q3,q4,bT,_,rfl,rQ hds⟩
     rcases hex with rfl | rfl
     ·exact mX
     ·exact mX
  cases hox:o.ex<;>rw[hox]at e0 e6<;>simp only at e0
  ·exact fin (.inl e6) e0
  ·exact e0.elim
  ·exact fin (.inr e6) e0
  ·exact e0.elim
theorem TF{d:jD}{f:Nat}(b:(d.sh.den->T d.out.den)->d.sh.den->T d.out.den)(hF:∀ x,d.F x=T.fix b x)(h:∀ F:d.sh.den->T d.out.den,xN P f ⟨d.ks,d.sh,d.kh,d.out,d.nr,F⟩->xN P f ⟨d.ks,d.sh,d.kh,d.out,d.nr,b F⟩):xN P f d:=by
 have hN:∀ m,xN P f ⟨d.ks,d.sh,d.kh,d.out,d.nr,T.H4 b m⟩:=by
  intro m
  induction m with
  | zero=>nofun
  | succ m ih=>exact h _ ih
 intro κ x zw y xE hy hI hl ha
 rw[hF,T.fx]at hy
 obtain⟨m,hm⟩:=hy
 exact hN m κ x zw y xE (hm m (Nat.le_refl _)) hI hl ha
theorem Dv{κ κe:KS}{a':Act}{fn:Func}{o:Cy}{nr:Nat}{out:vH}{y:out.den}(e1:κe.st=o.st)(e2:Inv κe)(e3:Ext κ κe)(e4:Rel κe fn.ntmps o.fr.get a')(hlen:κ.st.length<=out.bs.length)
  (h:((gC (vJ P xid tab ro) o.fr o.st fn.results.toList).bind λds=>bif Nat.beq ds.length nr then(out.un (w6 ds 0) o.st).bind λy=>bif (yx nr (out.fr y)).isSome then T.ret y else .fail else .fail).leads y) :
  ∃ v,(results fn a'.tmps).run P κe.w=.ok v κe.w/\∃ (κ':KS) (ds:List D),κ'.w=κe.w/\κ'.st=out.st y/\Inv κ'/\Ext κ κ'/\yx nr (out.fr y)=some ds/\wc κ' (.ret ds) (.returned v):=by
 obtain⟨ds,g1,g2⟩:=T.zd.1 h
 cases hnr:Nat.beq ds.length nr with
 | false=>rw[hnr]at g2; exact g2.elim
 | true =>
  rw[hnr,cond_true]at g2
  obtain⟨y',g5,g3⟩:=T.zd.1 g2
  cases bT:yx nr (out.fr y')with
  | none=>rw[bT]at g3; exact g3.elim
  | some Uq =>
   rw[bT]at g3
   have hyy:y'=y:=g3
   subst hyy
   rw[<- e1]at g1 g5
   obtain⟨vs,k1,k2⟩:=lL e2 e4 g1
   have hRr:Rel κe vs.length (w6 ds 0).get { tmps:=vs.toArray,defers:=[] }:=by
    have:=tn (n:=vs.length) k2 (by rw[k2.1]; exact Nat.le_refl _)
    simpa[show(VW.df:List Deferred)=[]from rfl]using this
   obtain⟨κ2,q1,q2,q3,q4,q5,_⟩:=out.sN (κ0:=κ) e3 e2 hRr hlen g5
   obtain⟨l1,l2⟩:=Zp bT
   have hds:qA κ2 Uq vs:=by
    refine⟨by rw[l1,<- k2.1]; exact(Nat.eq_of_beq_eq_true hnr).symm,λi h1 h2 => ?_⟩
    have:=l2 i Uq[i] (List.getElem?_eq_getElem h1)
    rw[Nat.zero_add]at this
    obtain⟨v,r1,r2⟩:=q5.get i _ this
    grind
   exact⟨_,k1,κ2,Uq,q1,q2,q3,q4,bT,_,rfl,rQ hds⟩
theorem z2D{κ κe:KS}{kb:vH}{z:kb.den}{st:St}{t:Nat}{d:D}{u:Value}(e1:κe.st=st)(e2:Inv κe)(e3:Ext κ κe)(hlen:κ.st.length<=kb.bs.length)(hu:RD κe d u)
  (h:((kb.un [(0,some d)] st).bind λz=>match(kb.fr z).get 0 with | some _=>T.ret z | none=>.fail).leads z) :
  ∃ (κ':KS) (p:D),κ'.w=κe.w/\κ'.st=kb.st z/\Inv κ'/\Ext κ κ'/\(kb.fr z).get 0=some p/\wc κ' (.kb (.iface t p)) (.panicked [{ v:=.iface t u,recovered:=false }]):=by
 obtain⟨z',g1,g2⟩:=T.zd.1 h
 split at g2
 ·rename_i p hp
  have hzz:z'=z:=g2
  subst hzz
  have Jg:Rel κe 1 (Fr.get [(0,some d)]) { tmps := #[u],defers:=[] }:=by
   refine⟨rfl,rfl,λs d' hd => ?_⟩
   simp only[Fr.get]at hd
   cases hb:Nat.beq 0 s with
   | true =>
    have:=Nat.eq_of_beq_eq_true hb
    grind
   | false=>grind
  rw[<- e1]at g1
  obtain⟨κ2,q1,q2,q3,q4,q5,_⟩:=kb.sN (κ0:=κ) e3 e2 Jg hlen g1
  obtain⟨v',r1,r2⟩:=q5.get 0 p hp
  cases r1
  exact⟨κ2,p,q1,q2,q3,q4,hp,_,rfl,.iface t p _ r2⟩
 ·exact g2.elim
theorem z3I(hm:(vJ P xid tab ro).P.follows .mixedOrders=true)(hT:kM P tab){f:Nat}{fn:Func}{code:Code}(hf:P.funcs[f]? = some fn)(hb:fn.body=some code)
  (hn:(fn.name == "runtime.NumGoroutine")=false) (hL:vP P fn.ntmps H code) {d:eA} (h:∀ x,CW (vJ P xid tab ro) tab H fn code d x=d.F x):jV P f d:=by
 intro κ x zw y xE hy hI hlen NO
 rw[<- h]at hy
 unfold CW at hy
 cases hle:Nat.ble d.ks.length fn.ntmps&&Nat.ble d.sh.bs.length d.out.bs.length&&Nat.ble d.sh.bs.length d.kb.bs.length with
 | false=>rw[hle]at hy; exact hy.elim
 | true =>
  rw[hle,cond_true]at hy
  simp only[Bool.and_eq_true]at hle
  have Is:=Nat.le_of_ble_eq_true hle.1.1
  have Nb:=Nat.le_of_ble_eq_true hle.1.2
  have zaN:=Nat.le_of_ble_eq_true hle.2
  refine .inl ⟨wz hf hn (by rw[hb]; rfl) κ.w,calls_of_wp hf hb ?_⟩
  have hR:Rel κ fn.ntmps (d.sh.fr x).get { tmps:=zw.toArray++Array.replicate (fn.ntmps-zw.toArray.size) undef,defers:=[] }:=by
   refine⟨by simp; omega,rfl,λs e hs => ?_⟩
   obtain⟨v,h1,h2⟩:=NO.get s e hs
   grind
  refine nG hm hT code hL (κ:=κ) (by rw[xE]; exact hy) hI hR (bp _) _ λo eG a' κe e0 e1 e2 e3 e4 _ _ _ e6 => ?_
  have fin:(eG=.normal\/eG=.ret)->((gC (vJ P xid tab ro) o.fr o.st fn.results.toList).bind λds=>bif Nat.beq ds.length d.nr then(d.out.un (w6 ds 0) o.st).bind λy=>bif (yx d.nr (d.out.fr y)).isSome then T.ret (Sum.inl y:d.out.den⊕d.kb.den)else .fail else .fail).leads y ->
    bodyPost P fn (λe w'=>∃ κ':KS,κ'.w=w'/\Inv κ'/\Ext κ κ'/\((∃ (y':d.out.den) (ds:List D),y=.inl y'/\κ'.st=d.out.st y'/\yx d.nr (d.out.fr y')=some ds/\wc κ' (.ret ds) e) \/
     ∃ (z:d.kb.den) (p:D),y=.inr z/\κ'.st=d.kb.st z/\(d.kb.fr z).get 0=some p/\wc κ' (.kb (.iface d.pt p)) e)) eG a' κe.w:=by
   intro hex h2
   have:∃ y',y=.inl y'/\((gC (vJ P xid tab ro) o.fr o.st fn.results.toList).bind λds=>bif Nat.beq ds.length d.nr then(d.out.un (w6 ds 0) o.st).bind λy=>bif (yx d.nr (d.out.fr y)).isSome then T.ret y else .fail else .fail).leads y':=by
    obtain⟨ds,g1,g2⟩:=T.zd.1 h2
    cases hnr:Nat.beq ds.length d.nr with
    | false=>rw[hnr]at g2; exact g2.elim
    | true =>
     rw[hnr,cond_true]at g2
     obtain⟨y',g5,g3⟩:=T.zd.1 g2
     cases bT:yx d.nr (d.out.fr y')with
     | none=>rw[bT]at g3; exact g3.elim
     | some Uq =>
      rw[bT]at g3
      have g3:Sum.inl y'=y:=g3
      refine⟨y',g3.symm,T.zd.2 ⟨ds,g1,?_⟩⟩
      rw[hnr,cond_true]
      refine T.zd.2 ⟨y',g5,?_⟩
      rw[bT]; rfl
   obtain⟨y',rfl,S0⟩:=this
   obtain⟨v,k1,κ',ds,q1,q2,q3,q4,q5,q6⟩:=Dv e1 e2 e3 e4 (by rw[xE]; exact Nat.le_trans (vH.rj _ _) Nb) S0
   have mX:a'.defers=[]/\∃ v,(results fn a'.tmps).run P κe.w=.ok v κe.w/\∃ κ':KS,κ'.w=κe.w/\Inv κ'/\Ext κ κ'/\((∃ (y'':d.out.den) (ds:List D),(Sum.inl y':d.out.den⊕d.kb.den)=.inl y''/\κ'.st=d.out.st y''/\yx d.nr (d.out.fr y'')=some ds/\wc κ' (.ret ds) (.returned v)) \/
     ∃ (z:d.kb.den) (p:D),(Sum.inl y':d.out.den⊕d.kb.den)=.inr z/\κ'.st=d.kb.st z/\(d.kb.fr z).get 0=some p/\wc κ' (.kb (.iface d.pt p)) (.returned v)) :=
    ⟨e4.defers,v,k1,κ',q1,q3,q4,.inl ⟨y',ds,rfl,q2,q5,q6⟩⟩
   rcases hex with rfl | rfl
   ·exact mX
   ·exact mX
  cases hox:o.ex<;>rw[hox]at e0 e6<;>simp only at e0
  ·exact fin (.inl e6) e0
  ·exact e0.elim
  ·exact fin (.inr e6) e0
  ·rename_i p
   cases p<;>simp only at e0<;>first | exact e0.elim | skip
   rename_i t v
   cases ht:Nat.beq t d.pt with
   | false=>rw[ht]at e0; exact e0.elim
   | true =>
    rw[ht,cond_true]at e0
    have:=Nat.eq_of_beq_eq_true ht
    subst this
    obtain⟨u,rfl,hv⟩:=e6
    cases hv with
    | iface _ _ u hu =>
     have:∃ z,y=.inr z/\((d.kb.un [(0,some v)] o.st).bind λz=>match(d.kb.fr z).get 0 with | some _=>T.ret z | none=>.fail).leads z:=by
      obtain⟨z,g1,g2⟩:=T.zd.1 e0
      split at g2
      ·rename_i p hp
       have g2:Sum.inr z=y:=g2
       refine⟨z,g2.symm,T.zd.2 ⟨z,g1,?_⟩⟩
       rw[hp]; rfl
      ·exact g2.elim
     obtain⟨z,rfl,hz2⟩:=this
     obtain⟨κ',p,q1,q2,q3,q4,q5,q6⟩:=z2D (t:=d.pt) e1 e2 e3 (by rw[xE]; exact Nat.le_trans (vH.rj _ _) zaN) hu hz2
     exact⟨e4.defers,κ',q1,q3,q4,.inr ⟨z,p,rfl,q2,q5,q6⟩⟩
theorem Ep{d:eA}{f:Nat}(b:(d.sh.den->T (d.out.den⊕d.kb.den))->d.sh.den->T (d.out.den⊕d.kb.den))(hF:∀ x,d.F x=T.fix b x)(h:∀ F:d.sh.den->T (d.out.den⊕d.kb.den),jV P f ⟨d.ks,d.sh,d.kh,d.out,d.nr,d.pt,d.kb,F⟩->jV P f ⟨d.ks,d.sh,d.kh,d.out,d.nr,d.pt,d.kb,b F⟩):jV P f d:=by
 have hN:∀ m,jV P f ⟨d.ks,d.sh,d.kh,d.out,d.nr,d.pt,d.kb,T.H4 b m⟩:=by
  intro m
  induction m with
  | zero=>nofun
  | succ m ih=>exact h _ ih
 intro κ x zw y xE hy hI hl ha
 rw[hF,T.fx]at hy
 obtain⟨m,hm⟩:=hy
 exact hN m κ x zw y xE (hm m (Nat.le_refl _)) hI hl ha
end
noncomputable def rK:Nat->Code->Option Code
 | k,.block id (.loop b)=>if k=id then some b else rK k b
 | k,.seq a b=>match rK k a with | some x=>some x | none=>rK k b
 | k,.cond _ a b=>match rK k a with | some x=>some x | none=>rK k b
 | k,.block _ a=>rK k a
 | _,_=>none
def Kd(P:Program)(n:Nat)(H:Hints):List (Nat×Code)->Prop
 | []=>True
 | p::r=>(∀ l,H.loop p.1=some l->Za P n l p.2)/\Kd P n H r
theorem zm{P:Program}{n:Nat}{H:Hints}:Kd P n H []:=trivial
theorem zZ{P:Program}{n:Nat}{H:Hints}{id:Nat}{b:Code}{r:List (Nat×Code)}{l:zU}(hl:H.loop id=some l)(h:Za P n l b)(t:Kd P n H r):Kd P n H ((id,b)::r) :=
 ⟨λl' RU=>(Option.some.inj (hl.symm.trans RU))▸h,t⟩
theorem sW{P:Program}{n:Nat}{H:Hints}{code:Code}{L:List (Nat×Code)}(h:xh code=L)(ha:Kd P n H L):vP P n H code:=by
 intro p hp
 rw[h]at hp
 clear h
 induction L with
 | nil=>cases hp
 | cons q r ih =>
  rcases List.mem_cons.1 hp with rfl | hp
  ·exact ha.1
  ·exact ih ha.2 hp
end Go.AM
namespace Go.AM
set_option linter.unusedSectionVars false
variable [vz]
open Go.RowKit Go.ChangeShapes
def Dz:(τs:List Ty)->VV τs->jX (τs.map .ty)
 | [],_=>()
 | [_],x=>x.1
 | _::σ::r,x=>(x.1,Dz (σ::r) x.2)
theorem Jj:∀ (τs:List Ty) (x:VV τs),Zq (τs.map .ty) (Dz τs x)=mkD τs x
 | [],_=>rfl
 | [_],_=>rfl
 | τ::σ::r,x=>congrArg (D.zD τ x.1 :: ·) (Jj (σ::r) x.2)
section
variable {H:Type} {enc:TypeId×Value->H} {P:Program} {xid m n:Nat}
theorem z4o{f:Nat}{fn:Func}(τs:List Ty){F:jX (τs.map .ty)->T (YD [.bool])}(hS:zG P f ⟨τs.map .ty,[.bool],F⟩)(hf:P.funcs[f]? = some fn)(hbd:fn.body.isNone=false) (hnm:(fn.name == "runtime.NumGoroutine")=false)
  (hl:laidOutB P=true) (xid m n:Nat) (hts:tL P fn.params.toList=true) (hτ:fn.params.toList.map (UK P xid n)=τs.map some) (hx:De P xid m=true)
  {bt:TypeId} (hr:fn.resultTypes = #[bt]) (hbt:P.underlying bt=some .bool) {s:ChangeSpec} (hv:s.vars=[]) (hs:∀ ds:List (DataW H),ds.length=τs.length->s.fn H ds={ results:=[.lit (.bool true)],args:=ds })
  (B:IV H) {lim:Nat} (law:∀ x:VV τs,wfL τs x->bkL τs x<=lim->(F (Dz τs x)).run=some true)
  {fresh handsOn:Bool} {W:World} {base:Nat} {args:Array Value} {ds gs:List (DataW H)} {before:List MemPlace}
  (VZ:∀ (j:Nat) t v,fn.params[j]? = some t->args[j]? = some v->Value.okWide P W .any base t v)
  (hW:DataW.Whole enc P fn.params.toList s.vars false W args.toList ds gs before) (hk:B.bs (ds++gs)<=lim) (hG:rU W λk=>k<W.heap.size) :
  Calls P f args W λe W'=>∃ v,e=.returned v/\s.post enc P fn false fresh handsOn false W args v W':=by
 refine L0 (G0.snd hS) hf hbd hnm hl xid m n τs hts hτ hx hr hbt hv hs B (λx hw hb => ?_) VZ hW hk hG
 have h:=T.wb.1 (law x hw hb)
 rw[<- Jj τs x]
 exact T.zd.2 ⟨Dz τs x,Kc [] _ _,T.zd.2 ⟨true,h,rfl⟩⟩
end
end Go.AM