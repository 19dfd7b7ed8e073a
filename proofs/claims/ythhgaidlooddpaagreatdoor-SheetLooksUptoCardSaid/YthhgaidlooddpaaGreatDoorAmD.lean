/-
  The abstract machine, part D: texts of our own, the same for each claim.
-/
import Derived.Test.YthhgaidlooddpaaGreatDoorAmA
import Derived.Lib.LaidTab
import Derived.Shelf.Vars
import Derived.Test.YthhgaidlooddpaaGreatDoorAmC
import Derived.OpenShut
import Derived.Test.YthhgaidlooddpaaGreatDoorAmB
import Derived.Lib.LazyBuf
set_option linter.unusedVariables false
namespace Go.AM
def Bp(k:IntKind)(zs:List Int)(o:Obj):Prop:=∃ t fr,o=.cells (zs.map λz=>Value.int k z).toArray t fr
def Yu(k:IntKind)(o:Obj):Prop:=∃ m t fr,o=.cells #[.int k m] t fr
theorem NL{P:Program}{w:World}{name:String}{k:IntKind}{zs:List Int}{g:Nat}(hg:P.globalNamed name=some g)(h:Lib.TabIs P w name k zs) :
  g<w.heap.size/\∃ o,w.heap[g]? = some o/\Bp k zs o:=by
 unfold Lib.TabIs World.var? at h
 rw[hg]at h
 simp at h
 split at h
 ·rename_i cs t fr ho
  cases h
  exact⟨(Array.getElem?_eq_some_iff.1 ho).1,_,ho,t,fr,rfl⟩
 ·cases h
theorem z6o{P:Program}{w:World}{name:String}{k:IntKind}{zs:List Int}{g:Nat}(hg:P.globalNamed name=some g)(h:∃ o,w.heap[g]? = some o/\Bp k zs o):Lib.TabIs P w name k zs:=by
 obtain⟨o,ho,t,fr,rfl⟩:=h
 unfold Lib.TabIs World.var?
 grind
theorem LW{w:World}{k:IntKind}{g:Nat}(h:∃ o,w.heap[g]? = some o/\Yu k o):∃ m,w.cell? ⟨g,0,none⟩=some (.int k m):=by
 obtain⟨o,ho,m,t,fr,rfl⟩:=h
 exact⟨m,by simp[World.cell?,ho]⟩
theorem MU{P:Program}{w:World}{g:Nat}{t:TypeId}{zero:Array Value}{k:IntKind}
  (h:w.ShapedOpen P) (hg:g<P.globals.size)
  (h0:((begin P (λ_ _=>0) default).world.heap[g]?).bind Obj.row? = some (zero,t)) (hz:zero.size=1)
  (hb:P.buildable t=true) (hc:P.cellTypes P.depth t=some [t]) (hu:P.underlying t=some (.int k)):g<w.heap.size/\∃ o,w.heap[g]? = some o/\Yu k o:=by
 obtain⟨m,hm⟩:=Go.Proofs.cell_of_shapedOpen_int h hg h0 hz hb hc hu
 obtain⟨cs,hh,hs,_⟩:=h.1 g zero t hg h0
 have hl:cs.size=1:=hs.trans hz
 refine⟨(Array.getElem?_eq_some_iff.1 hh).1,_,hh,m,t,(0,0),?_⟩
 have h1:w.cell? ⟨g,0,none⟩=some cs[0]:=by simp[World.cell?,hh]
 have:cs = #[.int k m]:=by
  grind
 rw[this]
theorem Mv{P:Program}{W:World}{name:String}{k:IntKind}{zs:List Int}{rest:List (String×DataW Unit)}{ps:List MemPlace}{g:Nat}{t e:TypeId}{n:Nat}
  (hg:P.globalNamed name=some g) (IW:(P.globals[g]?).map (·.type)=some t) (ht:P.underlying t=some (.array n e)) (he:P.underlying e=some (.int k)) (hce:P.cellsOf e=1) (hct:P.cellsOf t=n)
  (h:DataW.LaidVars P W ((name,Lib.tabData k zs)::rest) ps):g<W.heap.size/\∃ o,W.heap[g]? = some o/\Bp k zs o:=by
 obtain⟨g',t',cs,fuel,p,q,hg',ht',zao,hd,_,_⟩:=h
 refine NL hg ?_
 obtain rfl:=Option.some.inj (hg.symm.trans hg')
 obtain rfl:=Option.some.inj (IW.symm.trans ht')
 unfold Lib.TabIs
 rw[zao,<- Lib.cells_of_tab ht he hce hct hd]
theorem K8{P:Program}{W:World}{x:String×DataW Unit}{rest:List (String×DataW Unit)}{ps:List MemPlace}(h:DataW.LaidVars P W (x::rest) ps):∃ q,DataW.LaidVars P W rest q:=by
 obtain⟨g',t',cs,fuel,p,q,hg',ht',zao,hd,h1,_⟩:=h
 grind
end Go.AM
namespace Go.AM
open Go.RowKit
mutual
def bkE:Expr->Nat
 | .mk _ n s l=>1+((1+((List.length n.2.1+1)+((List.length n.2.2.1+1)+1)))+((List.length s+1)+((bkEs l+1)+1)))
def bkEs:List Expr->Nat
 | []=>0
 | e::r=>bkE e+bkEs r
end
def db{α:Type}(f:α->Nat):List α->Nat
 | []=>0
 | x::r=>f x+db f r
def bk:(τ:Ty)->den τ->Nat
 | .int _,_=>1
 | .bool,_=>1
 | .str,s=>List.length s+1
 | .sl e,l=>db (bk e) l+1
 | .nil,_=>1
 | .cons a b,x=>bk a x.1+bk b x.2
 | .expr,x=>bkE x
theorem HA{α:Type}(l:List α):db (λ_=>1) l=l.length:=by induction l with | nil=>rfl | cons x r ih=>simp[db]; omega
theorem z1w(l:List Expr):bkEs l=db (bk .expr) l:=by induction l with | nil=>rfl | cons x r ih=>simp[bkEs,db,ih,bk]
theorem z2r(x:Expr):bk Qj x.N5=bk .expr x:=by
 cases x with | mk k n s l =>
 simp only[bk,Expr.N5,bkE,z1w,Expr.num,Expr.name,Expr.kids,HA]
mutual
def wfE:Expr->Prop
 | .mk k n s l=>(IntKind.i64.min<=k/\k<=IntKind.i64.max)/\((True/\((∀ x∈n.2.1,IntKind.u32.min<=x/\x<=IntKind.u32.max)/\((∀ x∈n.2.2.1,IntKind.u32.min<=x/\x<=IntKind.u32.max)/\True)))/\(List.length s<=maxLen/\(wfEs l/\True)))
def wfEs:List Expr->Prop
 | []=>True
 | e::r=>wfE e/\wfEs r
end
def wf:(τ:Ty)->den τ->Prop
 | .int k,n=>k.min<=n/\n<=k.max
 | .bool,_=>True
 | .str,s=>List.length s<=maxLen
 | .sl e,l=>∀ x∈l,wf e x
 | .nil,_=>True
 | .cons a b,x=>wf a x.1/\wf b x.2
 | .expr,x=>wfE x
theorem z2C(l:List Expr):wfEs l↔∀ x∈l,wf .expr x:=by induction l with | nil=>simp[wfEs] | cons x r ih=>simp[wfEs,ih,wf]
theorem FQ(x:Expr):wf Qj x.N5↔wf .expr x:=by
 cases x with | mk k n s l=>simp only[wf,Expr.N5,wfE,z2C,Expr.kind,Expr.num,Expr.name,Expr.kids]
structure MF(H:Type) where
 b:DataW H->Nat
 bs:List (DataW H)->Nat
 str:∀ s,b (.lit (.string s))=s.length+1
 bool:∀ x,b (.lit (.bool x))=1
 int:∀ k n,b (.lit (.int k n))=1
 nil:b .nil=1
 slice:∀ x y,b (.slice x y)=bs x+bs y+1
 agg:∀ x,b (.agg x)=bs x+1
 zero:bs []=0
 cons:∀ x r,bs (x::r)=b x+bs r
section
variable (P:Program) (xid:Nat)
def XK:Nat->List Field->Bool
 | _,[]=>true
 | o,f::r=>Nat.beq f.offset o&&XK (o+P.cellsOf f.type) r
def Xv:Nat->List Field->Nat
 | o,[]=>o
 | o,f::r=>Xv (o+P.cellsOf f.type) r
def JO:Nat->Nat->Option Ty
 | 0,_=>none
 | n+1,t=>bif Nat.beq t xid then some .expr else
  match P.underlying t with
  | some (.int k)=>some (.int k)
  | some .bool=>some .bool
  | some .string=>some .str
  | some (.slice e)=>match JO n e with | some a=>bif Nat.beq (P.cellsOf e) a.size&&Nat.blt 0 a.size then some (.sl a)else none | none=>none
  | some (.struct fs)=>bif XK P 0 fs.toList&&Nat.beq (Xv P 0 fs.toList) (P.cellsOf t)then cR (fs.toList.map λf=>JO n f.type)else none
  | _=>none
def CN(m:Nat):Bool:=match P.underlying xid with
 | some (.struct fs)=>XK P 0 fs.toList&&Nat.beq (Xv P 0 fs.toList) (P.cellsOf xid)&&decide (cR (fs.toList.map λf=>JO P xid m f.type)=some Qj)
 | some _=>false
 | none=>true
end
section
variable {H:Type} {enc:TypeId×Value->H} {P:Program} {w:World} {xid m:Nat} (B:MF H)
def VG(w:World)(B:MF H)(τ:Ty)(cs:List Value)(k:Nat):Prop:=∃ x:den τ,Rc w (λk=>k<w.heap.size) τ x cs/\wf τ x/\bk τ x<=k
theorem Xf{fuel:Nat}{cs:List Value}(ih:∀ n t τ cs d ps,JO P xid n t=some τ->DataW.trod enc P w 0 (λ_=>true) true fuel t cs=some (d,ps)->VG w B τ cs (B.b d)){n:Nat} :
  ∀ (fs:List Field) (o:Nat) (τ:Ty) (xs:List (DataW H×List MemPlace)),cR (fs.map λf=>JO P xid n f.type)=some τ->XK P o fs=true->Xv P o fs=cs.length->xs.length=fs.length ->
   (∀ (i:Nat) (f:Field),fs[i]? = some f->DataW.trod enc P w 0 (λ_=>true) true fuel f.type ((cs.drop f.offset).take (P.cellsOf f.type))=xs[i]?)->VG w B τ (cs.drop o) (B.bs (xs.map (·.1))+1)
 | [],o,τ,xs,ht,_,he,hl,_=>by
  cases ht
  simp only[Xv]at he
  obtain rfl:xs=[]:=List.eq_nil_of_length_eq_zero hl
  refine⟨(),?_,trivial,by simp[bk]⟩
  rw[he,List.drop_length]; exact .nil
 | f::r,o,τ,xs,ht,ho,he,hl,hx=>by
  cases xs with
  | nil=>simp at hl
  | cons x xs =>
  simp only[XK,Bool.and_eq_true]at ho
  have Sl:f.offset=o:=Nat.eq_of_beq_eq_true ho.1
  simp only[List.map_cons]at ht
  cases h1:JO P xid n f.type with
  | none=>rw[h1]at ht; cases ht
  | some a =>
   rw[h1]at ht
   simp only[cR]at ht
   cases h2:cR (r.map λf=>JO P xid n f.type)with
   | none=>grind
   | some b =>
    rw[h2]at ht
    cases ht
    obtain⟨x1,p1,p2,p3⟩:=ih n f.type a _ x.1 x.2 h1 (by have:=hx 0 f rfl; simpa using this)
    obtain⟨x2,q1,q2,q3⟩:=Xf ih r (o+P.cellsOf f.type) b xs h2 ho.2 he (by simpa using hl) (λi g hg=>by have:=hx (i+1) g (by simpa using hg); simpa using this)
    refine⟨(x1,x2),?_,⟨p2,q2⟩,?_⟩
    ·have e:cs.drop o=(cs.drop o).take (P.cellsOf f.type)++cs.drop (o+P.cellsOf f.type):=by
      conv=>lhs; rw[<- List.take_append_drop (P.cellsOf f.type) (cs.drop o)]
      simp
     rw[e]
     rw[Sl]at p1
     exact .cons _ _ _ _ _ _ p1 q1
    ·simp only[bk,List.map_cons,B.cons]; omega
theorem Ky{e:Ty}(k:Nat):∀ (n:Nat) (elems:List (DataW H×List MemPlace)) (g:Nat->List Value),elems.length=n->(∀ i,i<n->∃ d,elems[i]? = some d/\VG w B e (g i) (B.b d.1)) ->
  ∃ l:List (den e),l.length=n/\(∀ i (hi:i<l.length),Rc w (λk=>k<w.heap.size) e l[i] (g i))/\(∀ x∈l,wf e x)/\db (bk e) l<=B.bs (elems.map (·.1))
 | 0,elems,g,hl,_=>by
  exact⟨[],rfl,λi hi=>absurd hi (Nat.not_lt_zero i),by simp,by simp[db]⟩
 | n+1,elems,g,hl,h=>by
  cases elems with
  | nil=>simp at hl
  | cons y ys =>
   obtain⟨d,h1,x,h2,h3,h4⟩:=h 0 (by omega)
   simp at h1
   subst h1
   obtain⟨l,l1,l2,l3,l4⟩:=Ky k n ys (λi=>g (i+1)) (by grind) λi hi=>by
    obtain⟨d,h1,h2⟩:=h (i+1) (by omega)
    exact⟨d,by grind,h2⟩
   refine⟨x::l,by grind,λi hi => ?_,λz hz => ?_,?_⟩
   ·grind
   ·grind
   ·simp only[db,List.map_cons,B.cons]; omega
theorem M9(hx:CN P xid m=true):∀ (fuel n t:Nat) (τ:Ty) (cs:List Value) (d:DataW H) (ps:List MemPlace),JO P xid n t=some τ->DataW.trod enc P w 0 (λ_=>true) true fuel t cs=some (d,ps)->VG w B τ cs (B.b d):=by
 intro fuel
 induction fuel with
 | zero=>nofun
 | succ fuel ih =>
  intro n t τ cs d ps ht h
  have struct:∀ (fs:Array Field) (k:Nat) (σ:Ty),P.underlying t=some (.struct fs)->(XK P 0 fs.toList&&Nat.beq (Xv P 0 fs.toList) (P.cellsOf t))=true->cR (fs.toList.map λf=>JO P xid k f.type)=some σ->VG w B σ cs (B.b d):=by
   intro fs k σ hu ho hc
   simp only[Bool.and_eq_true]at ho
   obtain⟨xs,n',hn,hd,hl,Tg,Wq⟩:=DataW.trod_struct hu h
   cases hn
   cases hd
   have:=Xf B (cs:=cs) (ih:=ih) fs.toList 0 σ xs hc ho.1 (by rw[Nat.eq_of_beq_eq_true ho.2,hl]) (by simpa using Tg) (λi f hf=>Wq i f (by simpa using hf))
   rw[B.agg]
   grind
  cases n with
  | zero=>cases ht
  | succ n =>
   unfold JO at ht
   cases hb:Nat.beq t xid with
   | true =>
    rw[hb,cond_true]at ht
    cases ht
    have:=Nat.eq_of_beq_eq_true hb
    subst this
    unfold CN at hx
    split at hx
    ·rename_i fs hu
     simp only[Bool.and_eq_true,decide_eq_true_eq]at hx
     obtain⟨x,h1,h2,h3⟩:=struct fs m Qj hu (by simp[hx.1.1,hx.1.2]) hx.2
     refine⟨Expr.DY x,.expr _ _ _ _ _ h1,?_,?_⟩
     ·exact(FQ (Expr.DY x)).1 h2
     ·rw[<- z2r (Expr.DY x)]; exact h3
    ·cases hx
    ·rename_i hu
     rw[DataW.trod_step]at h
     simp[DataW.trodStep,hu]at h
   | false =>
    rw[hb,cond_false]at ht
    split at ht
    ·rename_i k hu
     cases ht
     obtain⟨n',rfl,h2,h3⟩:=DataW.trod_int hu h
     cases h2
     simp only[Lit.wf,Bool.and_eq_true,decide_eq_true_eq]at h3
     exact⟨n',.int k n',h3,by simp[bk,B.int]⟩
    ·rename_i hu
     cases ht
     obtain⟨b,rfl,h2⟩:=DataW.trod_bool hu h
     cases h2
     exact⟨b,.bool b,trivial,by simp[bk,B.bool]⟩
    ·rename_i hu
     cases ht
     obtain⟨s,rfl,h2,h3⟩:=DataW.trod_string hu h
     cases h2
     refine⟨s.data.toList,?_,?_,?_⟩
     ·have:s=⟨s.data.toList.toArray⟩:=by cases s; simp
      exact .str _
     ·simp only[wf,Array.length_toList]; exact h3
     ·simp[bk,B.str]
    ·rename_i e hu
     split at ht
     ·rename_i a ha
      cases hc:Nat.beq (P.cellsOf e) a.size&&Nat.blt 0 a.size with
      | false=>grind
      | true =>
       rw[hc,cond_true]at ht
       cases ht
       simp only[Bool.and_eq_true]at hc
       have uU:P.cellsOf e=a.size:=Nat.eq_of_beq_eq_true hc.1
       have ZO:0<a.size:=Nat.le_of_ble_eq_true hc.2
       rcases DataW.trod_slice hu h with⟨rfl,h2⟩ | ⟨p,len,cap,elems,rest,n',hn,rfl,hd,_,vc,_,hlen,hel,hre,_⟩
       ·cases h2
        exact⟨[],.fG a none,by simp[wf],by simp[bk,db,B.nil]⟩
       ·cases hn
        cases hd
        by_cases h0:cap=0
        ·subst h0
         have:len=0:=by omega
         subst this
         exact⟨[],.fG a (some p),by simp[wf],by simp[bk,db,B.slice]⟩
        ·rw[uU]at hel hre
         have z4x:p.block<w.heap.size/\p.spot=none:=by
          have first:∃ x,(w.cells? 0 p a.size)=some x:=by
           by_cases hl:len=0
           ·have:=(hre rfl).2 0 (by omega)
            cases hcc:w.cells? 0 p a.size with
            | some x=>simp
            | none =>
             have e0:p.add ((0+0)*a.size)=p:=by simp[Addr.add]
             grind
           ·have:=hel 0 (by omega)
            cases hcc:w.cells? 0 p a.size with
            | some x=>simp
            | none =>
             have e0:p.add (0*a.size)=p:=by simp[Addr.add]
             grind
          obtain⟨x,hx⟩:=first
          refine⟨World.cells?_block hx ZO,?_⟩
          have h2:=(World.cells?_some hx).2
          have h3:=h2.2 0 ZO
          have e0:p.add 0=p:=rfl
          cases hs:p.spot with
          | none=>rfl
          | some q =>
           unfold World.cell? at h3
           grind
         obtain⟨blk,off,sp⟩:=p
         obtain⟨PC,nN⟩:=z4x
         subst nN
         have hg:∀ i,∃ c:List Value,i<len->∃ d,elems[i]? = some d/\VG w B a c (B.b d.1)/\w.cells? 0 ⟨blk,off+i*a.size,none⟩ a.size=some c:=by
          intro i
          by_cases hi:i<len
          ·have:=hel i hi
           rw[vE]at this
           cases hcc:w.cells? 0 ⟨blk,off+i*a.size,none⟩ a.size with
           | none =>
            grind
           | some c =>
            refine⟨c,λ_=>⟨elems[i]'(by omega),by simp,?_,rfl⟩⟩
            grind
          ·exact⟨[],λh=>absurd h hi⟩
         let g:Nat->List Value:=λi=>Classical.choose (hg i)
         have hg':∀ i,i<len->∃ d,elems[i]? = some d/\VG w B a (g i) (B.b d.1)/\w.cells? 0 ⟨blk,off+i*a.size,none⟩ a.size=some (g i):=λi hi=>Classical.choose_spec (hg i) hi
         obtain⟨l,l1,l2,l3,l4⟩:=Ky B (w:=w) (e:=a) 0 len elems g hlen λi hi=>by
          grind
         refine⟨l,?_,l3,?_⟩
         ·have:=Rc.sl (w:=w) (ok:=λk=>k<w.heap.size) a l blk off cap g PC (by omega) l2 λi hi j v hj=>by
           obtain⟨d,_,_,h3⟩:=hg' i (by omega)
           obtain⟨_,k2,k3⟩:=World.cells?_some h3
           have NA:j<(g i).length:=(List.getElem?_eq_some_iff.1 hj).1
           have:=k3 j (by omega)
           rw[vE,hj]at this
           exact this
          grind
         ·simp only[bk,B.slice]; omega
     ·cases ht
    ·rename_i fs hu
     cases hc:XK P 0 fs.toList&&Nat.beq (Xv P 0 fs.toList) (P.cellsOf t)with
     | false=>grind
     | true =>
      rw[hc,cond_true]at ht
      exact struct fs n τ hu hc ht
    ·cases ht
end
end Go.AM
namespace Go.AM
set_option linter.unusedSectionVars false
variable [vU]
open Go.RowKit Go.ChangeShapes
def Jn:List Ty->Type
 | []=>Unit
 | τ::r=>den τ×Jn r
def mkD:(τs:List Ty)->Jn τs->List D
 | [],_=>[]
 | τ::r,x=>.zI τ x.1::mkD r x.2
def wfL:(τs:List Ty)->Jn τs->Prop
 | [],_=>True
 | τ::r,x=>wf τ x.1/\wfL r x.2
def bkL:(τs:List Ty)->Jn τs->Nat
 | [],_=>0
 | τ::r,x=>bk τ x.1+bkL r x.2
def Zw(P:Program)(ts:List Nat):Bool:=ts.all λt=>P.readableRec t&&decide (t<P.types.size)
section
variable {H:Type} {enc:TypeId×Value->H} {P:Program} {xid m n:Nat} {w:World}
theorem z6s{t:Nat}{τ:Ty}{v:Value}{base:Nat}(ht:JO P xid n t=some τ)(hx:CN P xid m=true)(h:Value.okWide P w .any base t v):pk τ v.cells.toList=v:=by
 cases n with
 | zero=>cases ht
 | succ n =>
  have agg:∀ fs:Array Field,P.underlying t=some (.struct fs)->τ.isAgg=true->pk τ v.cells.toList=v:=by
   intro fs hu ha
   unfold Value.okWide at h
   rw[hu]at h
   obtain⟨cs,rfl,_⟩:=h
   simp[pk,ha,Value.cells]
  unfold JO at ht
  cases hb:Nat.beq t xid with
  | true =>
   rw[hb,cond_true]at ht
   cases ht
   have:=Nat.eq_of_beq_eq_true hb
   subst this
   unfold CN at hx
   split at hx
   ·rename_i fs hu; exact agg fs hu rfl
   ·cases hx
   ·rename_i hu
    unfold Value.okWide at h
    rw[hu]at h
    simp[Cell.okWide,Cell.ok,hu]at h
  | false =>
   rw[hb,cond_false]at ht
   split at ht
   ·rename_i k hu
    cases ht
    unfold Value.okWide at h
    rw[hu]at h
    simp only[Cell.okWide,hu,Cell.ok]at h
    split at h<;>simp_all [pk,Ty.isAgg,Value.cells]
   ·rename_i hu
    cases ht
    unfold Value.okWide at h
    rw[hu]at h
    simp only[Cell.okWide,hu,Cell.ok]at h
    split at h<;>simp_all [pk,Ty.isAgg,Value.cells]
   ·rename_i hu
    cases ht
    unfold Value.okWide at h
    rw[hu]at h
    simp only[Cell.okWide,hu,Cell.ok]at h
    split at h<;>simp_all [pk,Ty.isAgg,Value.cells]
   ·rename_i e hu
    have h1:τ.isAgg=false:=by
     split at ht
     ·rename_i a ha
      cases hc:Nat.beq (P.cellsOf e) a.size&&Nat.blt 0 a.size with
      | false=>grind
      | true=>rw[hc,cond_true]at ht; cases ht; rfl
     ·cases ht
    unfold Value.okWide at h
    rw[hu]at h
    simp only[Cell.okWide,hu,Cell.ok]at h
    split at h<;>simp_all [pk,Value.cells]
   ·rename_i fs hu
    refine agg fs hu ?_
    cases hc:XK P 0 fs.toList&&Nat.beq (Xv P 0 fs.toList) (P.cellsOf t)with
    | false=>grind
    | true =>
     rw[hc,cond_true]at ht
     have key:∀ (l:List (Option Ty)),cR l=some τ->τ.isAgg=true:=by
      intro l hl
      cases l with
      | nil=>cases hl; rfl
      | cons a r =>
       cases a with
       | none=>cases hl
       | some a =>
        simp only[cR]at hl
        cases h2:cR r with
        | none=>grind
        | some b=>rw[h2]at hl; cases hl; rfl
     grind
   ·cases ht
theorem Cn(B:MF H)(hx:CN P xid m=true){base:Nat}:∀ (ts:List TypeId) (τs:List Ty) (vs:List Value) (ds:List (DataW H)) (ps:List MemPlace),ts.map (JO P xid n)=τs.map some ->
  DataW.TrodAll enc P w 0 (λ_=>true) true ts vs ds ps->(∀ (j:Nat) t v,ts[j]? = some t->vs[j]? = some v->Value.okWide P w .any base t v) ->
  ∃ x:Jn τs,qH ⟨w,λk=>k<w.heap.size,[],[]⟩ (mkD τs x) vs/\wfL τs x/\bkL τs x<=B.bs ds/\ds.length=τs.length
 | [],τs,vs,ds,ps,ht,h,_=>by
  cases τs with
  | cons=>cases ht
  | nil =>
   cases vs<;>cases ds<;>simp only[DataW.TrodAll]at h
   exact⟨(),⟨rfl,λi h1=>absurd h1 (Nat.not_lt_zero i)⟩,trivial,Nat.zero_le _,rfl⟩
 | t::ts,τs,vs,ds,ps,ht,h,hv=>by
  cases τs with
  | nil=>cases ht
  | cons τ τs =>
   simp at ht
   cases vs with
   | nil=>simp[DataW.TrodAll]at h
   | cons v vs =>
    cases ds with
    | nil=>simp[DataW.TrodAll]at h
    | cons d ds =>
     obtain⟨p,q,⟨fuel,h1⟩,h2,_⟩:=h
     obtain⟨x,k1,k2,k3⟩:=M9 B hx fuel n t τ _ d p ht.1 h1
     obtain⟨y,g1,g2,g3,g4⟩:=Cn B hx ts τs vs ds q ht.2 h2 λj t v a b=>hv (j+1) t v (by grind) (by grind)
     refine⟨(x,y),⟨by simp only[mkD,List.length_cons]; rw[g1.1],λi h1 h2 => ?_⟩,⟨k2,g2⟩,?_,by grind⟩
     ·cases i with
      | zero =>
       have:=RD.zI (κ:=⟨w,λk=>k<w.heap.size,[],[]⟩) τ x _ k1
       rw[z6s ht.1 hx (hv 0 t v rfl rfl)]at this
       exact this
      | succ i=>exact g1.2 i (by simpa[mkD]using h1) (by grind)
     ·simp only[bkL,B.cons]; omega
theorem Y7(hl:laidOutB P=true){W W':World}(hb:Below W.heap.size W W'):∀ (ts:List TypeId) (vs:List Value) (ds:List (DataW H)) (ps:List MemPlace),Zw P ts=true ->
  DataW.TrodAll enc P W 0 (λ_=>true) true ts vs ds ps->(∀ x∈ps,x.block<W.heap.size)->DataW.TrodAll enc P W' 0 (λb=>decide (b<W.heap.size)) true ts vs ds ps
 | [],vs,ds,ps,_,h,_=>by cases vs<;>cases ds<;>simp_all [DataW.TrodAll]
 | t::ts,vs,ds,ps,ht,h,qy=>by
  cases vs with
  | nil=>simp[DataW.TrodAll]at h
  | cons v vs =>
   cases ds with
   | nil=>simp[DataW.TrodAll]at h
   | cons d ds =>
    obtain⟨p,q,h1,h2,rfl⟩:=h
    simp only[Zw,List.all_cons,Bool.and_eq_true,decide_eq_true_eq]at ht
    exact⟨p,q,Below.trod hl ht.1.1 ht.1.2 h1 hb λx hx=>qy x (by grind),Y7 hl hb ts vs ds q (by simpa[Zw]using ht.2) h2 λx hx=>qy x (by grind),rfl⟩
end
theorem M7{H:Type}{enc:TypeId×Value->H}{P:Program}{f:Nat}{fn:Func}{S:List D->St->T (YH×St)}(hS:GY P f S)(hf:P.funcs[f]? = some fn)(hbd:fn.body.isNone=false) (hnm:(fn.name == "runtime.NumGoroutine")=false)
  (hl:laidOutB P=true) (xid m n:Nat) (τs:List Ty) (hts:Zw P fn.params.toList=true) (hτ:fn.params.toList.map (JO P xid n)=τs.map some) (hx:CN P xid m=true)
  {bt:TypeId} (hr:fn.resultTypes = #[bt]) (hbt:P.underlying bt=some .bool) {s:ChangeSpec} (hv:s.vars=[]) (hs:∀ ds:List (DataW H),ds.length=τs.length->s.fn H ds={ results:=[.lit (.bool true)],args:=ds })
  (B:MF H) {lim:Nat} (law:∀ x:Jn τs,wfL τs x->bkL τs x<=lim->(S (mkD τs x) []).leads (.ret [.zI .bool true],[]))
  {fresh handsOn:Bool} {W:World} {base:Nat} {args:Array Value} {ds gs:List (DataW H)} {before:List MemPlace}
  (Ji:∀ (j:Nat) t v,fn.params[j]? = some t->args[j]? = some v->Value.okWide P W .any base t v)
  (hW:DataW.Whole enc P fn.params.toList s.vars false W args.toList ds gs before) (hk:B.bs (ds++gs)<=lim) (hG:sY W λk=>k<W.heap.size) :
  Calls P f args W λe W'=>∃ v,e=.returned v/\s.post enc P fn false fresh handsOn false W args v W':=by
 have hW':=hW
 obtain⟨p,q,hA,hV,rfl,hfz,Lu⟩:=hW
 rw[hv]at hV
 obtain⟨rfl,rfl⟩:=trodVars_none hV
 simp only[List.append_nil]at hk hW'
 obtain⟨x,h1,h2,h3,h4⟩:=Cn (n:=n) B hx fn.params.toList τs args.toList ds p hτ hA λj t v a b=>Ji j t v (by grind) (by grind)
 have hI:Inv ⟨W,λk=>k<W.heap.size,[],[]⟩ :=
  ⟨rfl,λk hk=>hk,λb blk n h=>by grind,λb b' blk n n' h=>by simp at h,λb x h=>by simp at h,hG⟩
 have z2K:=hS ⟨W,λk=>k<W.heap.size,[],[]⟩ (mkD τs x) args.toList _ _ (law x h2 (Nat.le_trans h3 hk)) hI h1
 rw[Array.toArray_toList]at z2K
 have key:Calls P f args W λe w'=>∃ κ':KS,κ'.w=w'/\κ'.st=[]/\Inv κ'/\Ext ⟨W,λk=>k<W.heap.size,[],[]⟩ κ'/\wy κ' (.ret [.zI .bool true]) e:=by
  rcases z2K with⟨_,h⟩ | ⟨v,w',h,_⟩
  ·exact h
  ·have:=wR (args:=args) hf hnm hbd W
   grind
 refine key.mono λe W' ⟨κ',e1,_,_,e4,v,e5,e6⟩ => ?_
 subst e1
 have hb:Below W.heap.size W κ'.w:=⟨e4.os,e4.tape,e4.output,e4.size,λk hk=>e4.frame k hk λb n h=>by simp at h⟩
 have hv':v=.bool true:=by
  obtain⟨cs,g1,g2⟩:=RD.gn (show RD κ' (.zI .bool true) v from e6)
  rw[g1.jT]at g2
  exact g2
 subst hv'
 have qy:∀ x∈p,x.block<W.heap.size:=λx hx=>by simpa using hW'.lt x hx
 refine⟨_,e5,ds,[],p,[],p,[],hW',?_,?_,?_,hb.frame _,λh=>by cases h⟩
 ·rw[List.append_nil,hs ds h4,hr]
  exact trodAll_cons_mk (shut_bool hbt _) trodAll_mk0
 ·rw[List.append_nil,hs ds h4]
  exact Y7 hl hb _ _ _ _ hts hA qy
 ·rw[List.append_nil,hs ds h4,hv]
  rfl
end Go.AM
namespace Go.AM
def KD:List Ty->Type
 | []=>Unit
 | [τ]=>den τ
 | τ::σ::r=>den τ×KD (σ::r)
def Qu.ty:Qu->Ty | .rp τ=>τ | .im τ=>τ
def gy:List Qu->Type
 | []=>Unit
 | [p]=>den p.ty
 | p::q::r=>den p.ty×gy (q::r)
def KA:(p:Qu)->den p.ty->D
 | .rp τ,x=>.qU τ x
 | .im τ,x=>.zI τ x
def mc:(l:List Qu)->gy l->List D
 | [],_=>[]
 | [p],x=>[KA p x]
 | p::q::r,x=>KA p x.1::mc (q::r) x.2
def Hw:(l:List Qu)->gy l
 | []=>()
 | [p]=>zj p.ty
 | p::q::r=>(zj p.ty,Hw (q::r))
inductive Sk where
 | im (τ:Ty) | row (b:Nat) (e:Ty) | op (b T:Nat) | un
def cO:List Sk->Type
 | []=>Unit
 | .im τ::r=>den τ×cO r
 | .row _ _::r=>cO r
 | .op _ _::r=>cO r
 | .un::r=>cO r
def ZM:(l:List Sk)->cO l
 | []=>()
 | .im τ::r=>(zj τ,ZM r)
 | .row _ _::r=>ZM r
 | .op _ _::r=>ZM r
 | .un::r=>ZM r
inductive Mc where
 | im (τ:Ty) | rp (τ:Ty) | pt (b:Nat)
def mJ:List Mc->Type
 | []=>Unit
 | .im τ::r=>den τ×mJ r
 | .rp τ::r=>den τ×mJ r
 | .pt _::r=>mJ r
def Wl:(l:List Mc)->mJ l
 | []=>()
 | .im τ::r=>(zj τ,Wl r)
 | .rp τ::r=>(zj τ,Wl r)
 | .pt _::r=>Wl r
def s6:(l:List Mc)->mJ l->List D
 | [],_=>[]
 | .im τ::r,x=>.zI τ x.1::s6 r x.2
 | .rp τ::r,x=>.qU τ x.1::s6 r x.2
 | .pt b::r,x=>.ptr b 0::s6 r x
inductive Dk where
 | zI (τ:Ty) | qU (τ:Ty) | sub (b:Nat) (e:Ty) | qN (f:Nat) (caps:List Qu) | st (ks:List Sk) | mclo (f:Nat) (ms:List Mc)
inductive Ck where
 | ptr (b off:Nat) | cur (b:Nat) (e:Ty) | xy | y9 | qX | qN (f:Nat) (l:List (Nat×Nat))
inductive Bk where
 | var (k:Dk) | cvar (k:Ck) | arr (e:Ty) | dead
def Dk.den:Dk->Type
 | .zI τ=>AM.den τ
 | .qU τ=>AM.den τ
 | .sub _ _=>Nat×Nat
 | .qN _ caps=>gy caps
 | .st ks=>cO ks
 | .mclo _ ms=>mJ ms
def Dk.zj:(k:Dk)->k.den
 | .zI τ=>AM.zj τ
 | .qU τ=>AM.zj τ
 | .sub _ _=>(0,0)
 | .qN _ caps=>Hw caps
 | .st ks=>ZM ks
 | .mclo _ ms=>Wl ms
inductive It where
 | s (t:Nat) (k:Dk) | v (k:Dk) | a (e:Ty)
def It.den:It->Type
 | .s _ k=>k.den
 | .v k=>k.den
 | .a e=>List (AM.den e)
def It.zj:(i:It)->i.den
 | .s _ k=>k.zj
 | .v k=>k.zj
 | .a _=>[]
def wK:List It->Type
 | []=>Unit
 | [i]=>i.den
 | i::j::r=>i.den×wK (j::r)
def z8k:kE->Nat
 | .arr v _ _=>v
 | _=>0
def xZ(st:St)(b:Nat):Nat:=match st[b]? with | some x=>z8k x | none=>0
def vb(st:St):(l:List Sk)->cO l->List D
 | [],_=>[]
 | .im τ::r,x=>AM.flat τ x.1++vb st r x.2
 | .row b e::r,x=>.ms b (xZ st b) e 0 (xZ st b)::vb st r x
 | .op b T::r,x=>.kS b T::vb st r x
 | .un::r,x=>.rZ::vb st r x
def rR(st:St):(k:Dk)->k.den->D
 | .zI τ,x=>.zI τ x
 | .qU τ,x=>.qU τ x
 | .sub b e,x=>.ms b (xZ st b) e x.1 x.2
 | .qN f caps,x=>.qN f (mc caps x)
 | .st ks,x=>.agg (vb st ks x)
 | .mclo f ms,x=>.qN f (s6 ms x)
def Cj(st:St):Ck->D
 | .ptr b off=>.ptr b off
 | .cur b e=>.ms b (xZ st b) e 0 (xZ st b)
 | .xy=>.xy
 | .y9=>.y9
 | .qX=>.qX
 | .qN f l=>.qN f (l.map λp=>.ptr p.1 p.2)
def eR(st:St):(l:List It)->wK l->Fr
 | [],_=>[]
 | [.s t k],x=>[(t,some (rR st k x))]
 | [.v _],_=>[]
 | [.a _],_=>[]
 | .s t k::j::r,x=>(t,some (rR st k x.1))::eR st (j::r) x.2
 | .v _::j::r,x=>eR st (j::r) x.2
 | .a _::j::r,x=>eR st (j::r) x.2
def z5t(st:St)(l:List (Nat×Ck)):Fr:=l.map λp=>(p.1,some (Cj st p.2))
inductive Bd where
 | v (k:Dk) (x:k.den) | a (e:Ty) (x:List (AM.den e))
def lO:(l:List It)->wK l->List Bd
 | [],_=>[]
 | [.s _ _],_=>[]
 | [.v k],x=>[.v k x]
 | [.a e],x=>[.a e x]
 | .s _ _::j::r,x=>lO (j::r) x.2
 | .v k::j::r,x=>.v k x.1::lO (j::r) x.2
 | .a e::j::r,x=>.a e x.1::lO (j::r) x.2
def gf:List Bk->List Bd->St
 | [],_=>[]
 | .arr _::r,.a e x::d=>.arr x.length e x::gf r d
 | .var _::r,_::d=>.dead::gf r d
 | .cvar _::r,d=>.dead::gf r d
 | .dead::r,d=>.dead::gf r d
 | _::_,_=>[]
def vL(st:St):List Bk->List Bd->St
 | [],_=>[]
 | .arr _::r,.a e x::d=>.arr x.length e x::vL st r d
 | .var _::r,.v k x::d=>.var (rR st k x)::vL st r d
 | .cvar c::r,d=>.var (Cj st c)::vL st r d
 | .dead::r,d=>.dead::vL st r d
 | _::_,_=>[]
def zcY(bs:List Bk)(d:List Bd):St:=vL (gf bs d) bs d
structure vQ where
 nC:List It
 cs:List (Nat×Ck)
 bs:List Bk
def vQ.den(s:vQ):Type:=wK s.nC
def vQ.st(s:vQ)(x:s.den):St:=zcY s.bs (lO s.nC x)
def vQ.fr(s:vQ)(x:s.den):Fr:=eR (s.st x) s.nC x++z5t (s.st x) s.cs
def EU:(p:Qu)->D->Option (den p.ty)
 | .rp τ,d=>match d with | .qU _ x=>wP x | _=>none
 | .im τ,d=>eG τ d
def DA:(l:List Qu)->List D->Option (gy l)
 | [],[]=>some ()
 | [p],[d]=>EU p d
 | p::q::r,d::ds=>(EU p d).bind λx=>(DA (q::r) ds).bind λy=>some (x,y)
 | _,_=>none
def bn(st:St)(b:Nat):Nat:=match st[b]? with | some (.arr _ _ xs)=>xs.length | _=>0
def Ry(st:St)(b T:Nat)(ds:List D):Option (List D):=match st[b]? with
 | some (.var _)=>match ds with
  | .cj T'::ds=>bif Nat.beq T T' then some ds else none
  | .kS b' T'::ds=>bif Nat.beq b b'&&Nat.beq T T' then some ds else none
  | _=>none
 | _=>none
def z5V(ds:List D):Option (List D):=match ds with
 | d::ds=>bif d.one then some ds else none
 | _=>none
def fR(st:St):(l:List Sk)->List D->T (cO l)
 | [],ds=>match ds with | []=>.ret () | _=>.fail
 | .im τ::r,ds=>match jh τ ds with | some p=>(fR st r p.2).bind λy=>.ret (p.1,y) | none=>.fail
 | .row b e::r,ds=>match ds with
  | .ms b' qB e' off len::ds=>bif Nat.beq b b'&&decide (e=e')then .zM (uv qB off len (bn st b)) (fR st r ds)else .fail
  | _=>.fail
 | .op b T::r,ds=>match Ry st b T ds with | some q=>fR st r q | none=>.fail
 | .un::r,ds=>match z5V ds with | some q=>fR st r q | none=>.fail
def Xm:(l:List Mc)->List D->T (mJ l)
 | [],ds=>match ds with | []=>.ret () | _=>.fail
 | .im τ::r,ds=>match ds with
  | d::ds=>match eG τ d with | some y=>(Xm r ds).bind λz=>.ret (y,z) | none=>.fail
  | _=>.fail
 | .rp τ::r,ds=>match ds with
  | .qU _ x::ds=>match(wP x:Option (AM.den τ))with | some y=>(Xm r ds).bind λz=>.ret (y,z) | none=>.fail
  | _=>.fail
 | .pt b::r,ds=>match ds with
  | .ptr b' off::ds=>bif Nat.beq b b'&&Nat.beq off 0 then Xm r ds else .fail
  | _=>.fail
def tk(st:St):(k:Dk)->D->T k.den
 | .zI τ,d=>.KU (eG τ d)
 | .qU τ,d=>match d with | .qU _ x=>.KU (wP x) | _=>.fail
 | .sub b e,d=>match d with
  | .ms b' qB e' off len=>bif Nat.beq b b'&&decide (e=e')then .zM (qB=xZ st b) (.ret (off,len))else .fail
  | _=>.fail
 | .qN f caps,d=>match d with
  | .qN f' l=>bif Nat.beq f f' then .KU (DA caps l)else .fail
  | _=>.fail
 | .st ks,d=>bif d.cS then fR st ks (qg d)else .fail
 | .mclo f ms,d=>match d with
  | .qN f' l=>bif Nat.beq f f' then Xm ms l else .fail
  | _=>.fail
def tz:List (Nat×Nat)->List D->Bool
 | [],[]=>true
 | p::r,.ptr b off::ds=>Nat.beq p.1 b&&Nat.beq p.2 off&&tz r ds
 | _,_=>false
def W0(st:St):Ck->D->T Unit
 | .ptr b off,d=>match d with | .ptr b' off'=>bif Nat.beq b b'&&Nat.beq off off' then .ret ()else .fail | _=>.fail
 | .cur b e,d=>match d with
  | .ms b' qB e' off len=>bif Nat.beq b b'&&decide (e=e')then .zM (uv qB off len (bn st b)) (.ret ())else .fail
  | _=>.fail
 | .xy,d=>match d with | .xy=>.ret () | _=>.fail
 | .y9,d=>match d with | .y9=>.ret () | _=>.fail
 | .qX,d=>match d with | .qX=>.ret () | _=>.fail
 | .qN f l,d=>match d with | .qN f' l'=>bif Nat.beq f f'&&tz l l' then .ret ()else .fail | _=>.fail
def z2A(fr:Fr)(st:St):List (Nat×Ck)->T Unit
 | []=>.ret ()
 | p::r=>match fr.get p.1 with
  | some d=>(W0 st p.2 d).bind λ_=>z2A fr st r
  | none=>.fail
def OL(e:Ty)(b:kE):T (List (den e)):=match b with
 | .arr qB _ xs=>match(wP (a:=.sl _) (b:=.sl e) xs:Option (List (den e)))with
  | some ys=>.zM (qB=ys.length) (.ret ys)
  | none=>.fail
 | _=>.fail
def Dk.plain:Dk->Bool
 | .zI _=>true
 | .qU _=>true
 | .st _=>true
 | _=>false
def OD(st:St)(k:Dk)(b:kE):T k.den:=match b with
 | .var d=>bif k.plain then tk st k d else .fail
 | _=>.fail
def D9:kE->Bool | .var _=>true | _=>false
def JM(st:St):List Bk->List kE->T (List kE)
 | [],_=>.ret []
 | .arr _::r,b::bl=>(JM st r bl).bind λl=>.ret (b::l)
 | .var _::r,b::bl=>(JM st r bl).bind λl=>.ret (b::l)
 | .cvar c::r,.var d::bl=>(W0 st c d).bind λ_=>JM st r bl
 | .dead::r,b::bl=>bif D9 b then .fail else JM st r bl
 | _,_=>.fail
def Bj(fr:Fr)(st:St)(bl:List kE):(i:It)->T (i.den×List kE)
 | .s t k=>match fr.get t with | some d=>(tk st k d).bind λx=>.ret (x,bl) | none=>.fail
 | .v k=>match bl with | b::r=>(OD st k b).bind λx=>.ret (x,r) | []=>.fail
 | .a e=>match bl with | b::r=>(OL e b).bind λx=>.ret (x,r) | []=>.fail
def BZ{α:Type}(x:α×List kE):T α:=match x.2 with | []=>.ret x.1 | _=>.fail
def Kh(fr:Fr)(st:St):(l:List It)->List kE->T (wK l)
 | [],bl=>BZ ((),bl)
 | [i],bl=>(Bj fr st bl i).bind BZ
 | i::j::r,bl=>(Bj fr st bl i).bind λx=>(Kh fr st (j::r) x.2).bind λy=>.ret (x.1,y)
def rowAt(bs:List Bk)(b:Nat):Bool:=match bs[b]? with | some (.arr _)=>true | _=>false
def XH(bs:List Bk)(b:Nat):Bool:=match bs[b]? with | some (.var _)=>true | some (.cvar _)=>true | _=>false
def z2B(bs:List Bk):Sk->Bool
 | .row b _=>rowAt bs b
 | .op b _=>XH bs b
 | _=>true
def z9Y(bs:List Bk):Mc->Bool
 | .pt b=>XH bs b
 | _=>true
def He(bs:List Bk):Dk->Bool
 | .mclo _ ms=>ms.all (z9Y bs)
 | .sub b _=>rowAt bs b
 | .st ks=>ks.all (z2B bs)
 | _=>true
def LV(bs:List Bk):Ck->Bool
 | .ptr b _=>XH bs b
 | .cur b _=>rowAt bs b
 | .qN _ l=>l.all λp=>XH bs p.1
 | _=>true
def zcR(bs:List Bk):It->Bool
 | .s _ k=>He bs k
 | .v k=>He bs k
 | .a _=>true
def zdB(bs:List Bk):Bk->Bool
 | .cvar c=>LV bs c
 | _=>true
def kinds:List It->List Bool
 | []=>[]
 | .s _ _::r=>kinds r
 | .v _::r=>false::kinds r
 | .a _::r=>true::kinds r
def yG:List Bk->List Bool->Bool
 | [],[]=>true
 | .arr _::bs,b::r=>b&&yG bs r
 | .var _::bs,b::r => !b&&yG bs r
 | .cvar _::bs,l=>yG bs l
 | .dead::bs,l=>yG bs l
 | _,_=>false
def vQ.ok(s:vQ):Bool:=yG s.bs (kinds s.nC)&&s.nC.all (zcR s.bs)&&s.cs.all (λp=>LV s.bs p.2)&&s.bs.all (zdB s.bs)
def vQ.un(s:vQ)(fr:Fr)(st:St):T s.den :=
 bif s.ok&&(st.take s.bs.length).all (Yq s.bs.length)then(z2A fr st s.cs).bind λ_=>(JM st s.bs st).bind λbl=>Kh fr st s.nC bl
 else .fail
structure Way where
 ex:Ex
 sh:vQ
def gJ:List Way->Type
 | []=>Empty
 | [w]=>w.sh.den
 | w::v::r=>w.sh.den⊕gJ (v::r)
def ET{α:Type}:(l:List Way)->gJ l->(Ex->Fr->St->T α)->T α
 | [],x,_=>nomatch x
 | [w],x,k=>k w.ex (w.sh.fr x) (w.sh.st x)
 | w::v::r,x,k=>Sum.elim (λa=>k w.ex (w.sh.fr a) (w.sh.st a)) (λb=>ET (v::r) b k) x
def pw:Ex->Ex->Bool
 | .normal,.normal=>true
 | .ret,.ret=>true
 | .exit a,.exit b=>Nat.beq a b
 | .kM (.iface t _),.kM (.iface t' _)=>Nat.beq t t'
 | _,_=>false
def Jy:Ex->Fr->Fr
 | .kM (.iface _ d),_=>[(0,some d)]
 | _,fr=>fr
def BK:Ex->Fr->Option (Ex×Fr)
 | .kM (.iface t _),fr=>match fr.get 0 with | some d=>some (.kM (.iface t d),[]) | none=>none
 | .kM _,_=>none
 | e,fr=>some (e,fr)
def YE:(l:List Way)->Ex->Fr->St->T (gJ l)
 | [],_,_,_=>.fail
 | [w],ex,fr,st=>bif pw w.ex ex then w.sh.un fr st else .fail
 | w::v::r,ex,fr,st=>bif pw w.ex ex then(w.sh.un fr st).bind λx=>.ret (.inl x)else(YE (v::r) ex fr st).bind λy=>.ret (.inr y)
end Go.AM
namespace Go.AM
set_option linter.unusedSectionVars false
variable [vU] [J9]
section
variable {c:Ctx} {n:Nat}
theorem get_mem:∀ {l:Fr} {s:Nat} {d:D},l.get s=some d->(s,some d)∈l
 | [],s,d,h=>by cases h
 | (t,d')::r,s,d,h=>by
  simp only[Fr.get]at h
  cases ht:Nat.beq t s with
  | true =>
   rw[ht,cond_true]at h
   rw[Nat.eq_of_beq_eq_true ht,h]
   simp
  | false=>rw[ht,cond_false]at h; exact List.mem_cons_of_mem _ (get_mem h)
theorem get_append{l m:Fr}{s:Nat}{d:D}(h:(l++m).get s=some d):(s,some d)∈l\/m.get s=some d:=by
 induction l with
 | nil=>grind
 | cons p r ih =>
  obtain⟨t,d'⟩:=p
  simp only[List.cons_append,Fr.get]at h
  cases ht:Nat.beq t s with
  | true=>rw[ht,cond_true]at h; rw[Nat.eq_of_beq_eq_true ht,h]; exact .inl List.mem_cons_self
  | false=>grind
structure Wk(κ κ':KS):Prop where
 w:κ'.w=κ.w
 ok:κ'.ok=κ.ok
 ph:κ'.ph=κ.ph
 len:κ'.st.length=κ.st.length
 var:∀ (b:Nat) (d:D),κ.st[b]? = some (kE.var d)->∃ d',κ'.st[b]? = some (kE.var d')
 arr:∀ (b v:Nat) (e:Ty) (xs:List (den e)),κ.st[b]? = some (kE.arr v e xs)->κ'.st[b]? = some (kE.arr v e xs)\/κ'.st[b]? = some kE.dead
 arr':∀ (b v:Nat) (e:Ty) (xs:List (den e)),κ'.st[b]? = some (kE.arr v e xs)->κ.st[b]? = some (kE.arr v e xs)
 dead:∀ (b:Nat),κ.st[b]? = some kE.dead->κ'.st[b]? = some kE.dead
theorem Wk.ext{κ κ':KS}(h:Wk κ κ'):Ext κ κ':=by
 refine⟨by rw[h.w],by rw[h.w],by rw[h.w],by rw[h.w]; exact Nat.le_refl _,λk hk=>⟨by rw[h.ok]; exact hk,by rw[h.w]⟩,λk hk=>.inl (by rw[<- h.ok]; exact hk),
  λb blk m hb=>.inl (by rw[<- h.ph]; exact hb),λb d hd=>⟨h.var b d hd,by rw[h.ph]⟩,λb v0 e xs hb => ?_,h.dead,by rw[h.len]; exact Nat.le_refl _,λk _ _=>by rw[h.w]⟩
 rcases h.arr b v0 e xs hb with g | g
 ·exact .inr ⟨v0,xs,g,Nat.le_refl _,λ_=>⟨by rw[h.ph],rfl⟩⟩
 ·grind
theorem Wk.rd{κ κ':KS}(h:Wk κ κ'){d:D}{v:Value}(hd:RD κ d v):RD κ' d v:=hd.mono h.ext
theorem Wk.inv{κ κ':KS}(h:Wk κ κ')(hI:Inv κ)(hv:∀ (b:Nat) (d:D),κ'.st[b]? = some (kE.var d)->dR κ' b (.var d)):Inv κ':=by
 refine⟨by rw[h.ph,h.len]; exact hI.len,λk hk=>by rw[h.w]; exact hI.yr k (by rw[<- h.ok]; exact hk),λb blk m hb => ?_,λb b' blk m m' hb G5=>hI.inj b b' blk m m' (by rw[<- h.ph]; exact hb) (by rw[<- h.ph]; exact G5),λb x hx => ?_,hI.gl.mono h.ext.same⟩
 ·obtain⟨g1,g2⟩:=hI.apart b blk m (by rw[<- h.ph]; exact hb)
  exact⟨by rw[h.w]; exact g1,λhk=>g2 (by rw[<- h.ok]; exact hk)⟩
 ·cases x with
  | dead=>trivial
  | var d=>grind
  | arr v e xs=>exact(hI.blk b _ (h.arr' b v e xs hx)).mono h.ext (by rw[h.ph]) λblk m _=>by rw[h.w]
theorem Vr{p:Qu}{d:D}{x:den p.ty}(h:EU p d=some x){κ:KS}{v:Value}(hd:RD κ d v):RD κ (KA p x) v:=by
 cases p with
 | rp τ =>
  cases d<;>simp only[EU]at h<;>try (cases h; done)
  obtain⟨e,hx⟩:=qi h
  cases e
  cases hx
  exact hd
 | im τ=>exact bX hd h
theorem Xw{κ:KS}:∀ (l:List Qu) (ds:List D) (x:gy l) (vs:List Value),DA l ds=some x->qH κ ds vs->qH κ (mc l x) vs
 | [],[],x,vs,_,hd=>by rw[hd.qf]; exact .nil
 | [],_::_,_,_,h,_=>nomatch h
 | [p],[],_,_,h,_=>nomatch h
 | [p],[d],x,vs,h,hd=>by
  obtain⟨v,us,rfl,h1,h2⟩:=hd.cons_inv
  rw[h2.qf]
  exact .cons (Vr h h1) .nil
 | [p],_::_::_,_,_,h,_=>nomatch h
 | p::q::r,[],_,_,h,_=>nomatch h
 | p::q::r,d::ds,x,vs,h,hd=>by
  obtain⟨y,hy,h⟩:=Option.bind_eq_some_iff.1 h
  obtain⟨z,hz,h⟩:=Option.bind_eq_some_iff.1 h
  cases h
  obtain⟨v,us,rfl,h1,h2⟩:=hd.cons_inv
  exact .cons (Vr hy h1) (Xw (q::r) ds z us hz h2)
theorem SO{κ:KS}{d:D}{v:Value}(hd:RD κ d v)(ha:d.cS=true):∃ c,v=.agg c:=by
 cases hd with
 | zI τ x cs h=>exact⟨cs.toArray,by unfold pk; rw[show τ.isAgg=true from ha]; rfl⟩
 | agg l vs hl ho h=>simp
 | _=>cases ha
theorem z0d{κ:KS}{b T:Nat}{ds q:List D}{vs:List Value}(hd:qH κ ds vs)(h:Ry κ.st b T ds=some q):∃ v us,vs=v::us/\RD κ (.kS b T) v/\qH κ q us:=by
 unfold Ry at h
 split at h
 ·rename_i d0 Wv
  split at h
  ·rename_i T' ds
   cases hb:Nat.beq T T' with
   | false=>grind
   | true =>
    rw[hb]at h
    cases h
    obtain⟨v,us,rfl,g1,g2⟩:=hd.cons_inv
    exact⟨v,us,rfl,by cases g1; exact .cq b T d0 Wv,g2⟩
  ·rename_i b' T' ds
   cases hb:Nat.beq b b'&&Nat.beq T T' with
   | false=>grind
   | true =>
    simp only[Bool.and_eq_true]at hb
    have e1:=Nat.eq_of_beq_eq_true hb.1
    have e2:=Nat.eq_of_beq_eq_true hb.2
    obtain⟨v,us,rfl,g1,g2⟩:=hd.cons_inv
    grind
  ·cases h
 ·cases h
theorem DG{st:St}{b T:Nat}{ds q:List D}(h:Ry st b T ds=some q):gT ds=some T:=by
 unfold Ry at h
 split at h
 ·split at h
  ·rename_i T' ds
   cases hb:Nat.beq T T' with
   | false=>grind
   | true=>rw[Nat.eq_of_beq_eq_true hb]; rfl
  ·rename_i b' T' ds
   cases hb:Nat.beq b b'&&Nat.beq T T' with
   | false=>grind
   | true =>
    simp only[Bool.and_eq_true]at hb
    rw[Nat.eq_of_beq_eq_true hb.2]; rfl
  ·cases h
 ·cases h
theorem z2o{κ:KS}{ds q:List D}{vs:List Value}(hd:qH κ ds vs)(h:z5V ds=some q):∃ v us,vs=v::us/\RD κ .rZ v/\qH κ q us:=by
 unfold z5V at h
 split at h
 ·rename_i d ds
  cases hb:d.one with
  | false=>grind
  | true =>
   rw[hb]at h
   cases h
   obtain⟨v,us,rfl,g1,g2⟩:=hd.cons_inv
   exact⟨v,us,rfl,.rZ v (g1.Wp hb),g2⟩
 ·cases h
theorem dJ{κ:KS}{zr:St}{bs:List Bk}(Js:∀ b,rowAt bs b=true->xZ zr b=bn κ.st b):∀ (ks:List Sk) (ds:List D) (x:cO ks) (vs:List Value),ks.all (z2B bs)=true->(fR κ.st ks ds).leads x->qH κ ds vs ->
  qH κ (vb zr ks x) vs/\∀ d∈vb zr ks x,d.one=true
 | [],ds,x,vs,_,h,hd=>by
  cases ds with
  | nil=>exact⟨hd,λd hm=>by cases hm⟩
  | cons d r=>exact h.elim
 | .im τ::r,ds,x,vs,ho,h,hd=>by
  simp only[fR]at h
  split at h
  ·rename_i p hp
   obtain⟨y,h1,h2⟩:=T.zd.1 h
   cases h2
   obtain⟨c1,c2,rfl,g1,g2⟩:=rJ τ hd hp
   simp only[List.all_cons,Bool.and_eq_true]at ho
   obtain⟨k1,k2⟩:=dJ Js r p.2 y c2 ho.2 h1 g2
   refine⟨(oD g1).append k1,λd hm => ?_⟩
   rcases List.mem_append.1 (show d∈flat τ p.1++vb zr r y from hm)with hm | hm
   ·exact dO τ _ d hm
   ·grind
  ·exact h.elim
 | .row b e::r,ds,x,vs,ho,h,hd=>by
  cases ds with
  | nil=>exact h.elim
  | cons d ds =>
   cases d<;>simp only[fR]at h<;>try (exact h.elim)
   rename_i b' qB e' off len
   cases hb:Nat.beq b b'&&decide (e=e')with
   | false=>rw[hb]at h; exact h.elim
   | true =>
    rw[hb,cond_true]at h
    simp only[Bool.and_eq_true,decide_eq_true_eq]at hb
    obtain⟨⟨h1,h2,h3⟩,h⟩:=h
    have:=Nat.eq_of_beq_eq_true hb.1
    obtain⟨-,rfl⟩:=hb
    subst this
    obtain⟨v,us,rfl,g1,g2⟩:=hd.cons_inv
    simp only[List.all_cons,Bool.and_eq_true]at ho
    obtain⟨k1,k2⟩:=dJ Js r ds x us ho.2 h g2
    have e1:vb zr (.row b e::r) x=.ms b qB e off len::vb zr r x:=by
     show D.ms b (xZ zr b) e 0 (xZ zr b)::_=_
     rw[Js b ho.1,h1,h2,h3]
    rw[e1]
    refine⟨.cons g1 k1,λd hm => ?_⟩
    rcases List.mem_cons.1 hm with rfl | hm
    ·rfl
    ·grind
 | .op b T::r,ds,x,vs,ho,h,hd=>by
  simp only[List.all_cons,Bool.and_eq_true]at ho
  simp only[fR]at h
  split at h
  ·rename_i q hq
   obtain⟨v,us,rfl,g0,g2⟩:=z0d hd hq
   obtain⟨k1,k2⟩:=dJ Js r q x us ho.2 h g2
   refine⟨show qH κ (D.kS b T::vb zr r x) (v::us)from .cons g0 k1,λd hm => ?_⟩
   rcases List.mem_cons.1 (show d∈D.kS b T::vb zr r x from hm)with rfl | hm
   ·rfl
   ·grind
  ·exact h.elim
 | .un::r,ds,x,vs,ho,h,hd=>by
  simp only[List.all_cons,Bool.and_eq_true]at ho
  simp only[fR]at h
  split at h
  ·rename_i q hq
   obtain⟨v,us,rfl,g0,g2⟩:=z2o hd hq
   obtain⟨k1,k2⟩:=dJ Js r q x us ho.2 h g2
   refine⟨show qH κ (D.rZ::vb zr r x) (v::us)from .cons g0 k1,λd hm => ?_⟩
   rcases List.mem_cons.1 (show d∈D.rZ::vb zr r x from hm)with rfl | hm
   ·rfl
   ·grind
  ·exact h.elim
theorem oa{st zr:St}{bs:List Bk}(h:∀ b,rowAt bs b=true->xZ st b=xZ zr b):∀ (ks:List Sk) (x:cO ks),ks.all (z2B bs)=true->vb st ks x=vb zr ks x
 | [],_,_=>rfl
 | .im τ::r,x,ho=>by
  simp only[List.all_cons,Bool.and_eq_true]at ho
  show flat τ x.1++vb st r x.2=flat τ x.1++vb zr r x.2
  rw[oa h r x.2 ho.2]
 | .row b e::r,x,ho=>by
  simp only[List.all_cons,Bool.and_eq_true]at ho
  show D.ms b (xZ st b) e 0 (xZ st b)::vb st r x=D.ms b (xZ zr b) e 0 (xZ zr b)::vb zr r x
  rw[oa h r x ho.2,h b ho.1]
 | .op b T::r,x,ho=>by
  simp only[List.all_cons,Bool.and_eq_true]at ho
  show D.kS b T::vb st r x=D.kS b T::vb zr r x
  rw[oa h r x ho.2]
 | .un::r,x,ho=>by
  simp only[List.all_cons,Bool.and_eq_true]at ho
  show D.rZ::vb st r x=D.rZ::vb zr r x
  rw[oa h r x ho.2]
theorem UF:∀ (τ:Ty) (x:den τ),∀ y∈flat τ x,∃ σ z,y=.zI σ z:=by
 intro τ x y hy
 induction τ with
 | cons a b ia ib =>
  simp only[flat]at hy
  grind
 | nil=>simp[flat]at hy
 | expr=>simp[flat]at hy; rcases hy with rfl | rfl | rfl | rfl | rfl | rfl<;>exact⟨_,_,rfl⟩
 | _=>simp[flat]at hy; subst hy; exact⟨_,_,rfl⟩
theorem YX:∀ (τ:Ty) {ds:List D} {p:den τ×List D},jh τ ds=some p->τ.size=0->p.2=ds:=by
 intro τ
 induction τ with
 | nil=>intro ds p h _; simp only[jh,Option.some.injEq]at h; subst h; rfl
 | cons a b ia ib =>
  intro ds p h hz
  simp only[Ty.size]at hz
  simp only[jh]at h
  grind
 | _=>nofun
theorem X5{st zr:St}{tt:Nat}:∀ (ks:List Sk) (ds:List D) (x:cO ks),(fR st ks ds).leads x->gT (vb zr ks x)=some tt->gT ds=some tt
 | [],ds,x,h,ht=>by cases ht
 | .im τ::r,ds,x,h,ht=>by
  simp only[fR]at h
  split at h
  ·rename_i p hp
   obtain⟨y,h1,h2⟩:=T.zd.1 h
   cases h2
   have ht':gT (flat τ p.1++vb zr r y)=some tt:=ht
   cases hf:flat τ p.1 with
   | nil =>
    rw[hf]at ht'
    have hz:τ.size=0:=by rw[<- ZS τ p.1,hf]; rfl
    have:=YX τ hp hz
    rw[<- this]
    exact X5 r p.2 y h1 ht'
   | cons z zs =>
    rw[hf]at ht'
    obtain⟨σ,w,e⟩:=UF τ p.1 z (by grind)
    rw[e]at ht'
    cases ht'
  ·exact h.elim
 | .row b e::r,ds,x,h,ht=>by cases ht
 | .op b T'::r,ds,x,h,ht=>by
  simp only[fR]at h
  split at h
  ·rename_i q hq
   cases ht
   exact DG hq
  ·exact h.elim
 | .un::r,ds,x,h,ht=>by cases ht
theorem XN{d:D}{T:Nat}(ha:d.cS=true)(h:gT (qg d)=some T):d.typed=some T:=by
 cases d with
 | zI τ x =>
  simp only[qg]at h
  cases hf:flat τ x with
  | nil=>rw[hf]at h; cases h
  | cons z zs =>
   obtain⟨σ,w,e⟩:=UF τ x z (by grind)
   rw[hf,e]at h
   cases h
 | agg l=>exact h
 | _=>cases ha
theorem GD{m:Nat}(τ:Ty)(x:den τ):∀ d∈flat τ x,vM m d=true:=λd hd=>by
 obtain⟨σ,z,rfl⟩:=UF τ x d hd
 rfl
theorem kf{m:Nat}{st:St}{bs:List Bk}(hb:∀ b,rowAt bs b=true->b<m)(Rw:∀ b,XH bs b=true->b<m):∀ (ks:List Sk) (x:cO ks),ks.all (z2B bs)=true->∀ d∈vb st ks x,vM m d=true
 | [],_,_,d,hd=>by cases hd
 | .im τ::r,x,ho,d,hd=>by
  simp only[List.all_cons,Bool.and_eq_true]at ho
  rcases List.mem_append.1 (show d∈flat τ x.1++vb st r x.2 from hd)with hd | hd
  ·exact GD τ _ d hd
  ·exact kf hb Rw r x.2 ho.2 d hd
 | .row b e::r,x,ho,d,hd=>by
  simp only[List.all_cons,Bool.and_eq_true]at ho
  rcases List.mem_cons.1 (show d∈D.ms b (xZ st b) e 0 (xZ st b)::vb st r x from hd)with rfl | hd
  ·have:=hb b ho.1
   simp only[vM,Nat.blt,Nat.ble_eq]; exact this
  ·exact kf hb Rw r x ho.2 d hd
 | .op b T::r,x,ho,d,hd=>by
  simp only[List.all_cons,Bool.and_eq_true]at ho
  rcases List.mem_cons.1 (show d∈D.kS b T::vb st r x from hd)with rfl | hd
  ·have:=Rw b ho.1
   simp only[vM,Nat.blt,Nat.ble_eq]; exact this
  ·exact kf hb Rw r x ho.2 d hd
 | .un::r,x,ho,d,hd=>by
  simp only[List.all_cons,Bool.and_eq_true]at ho
  rcases List.mem_cons.1 (show d∈D.rZ::vb st r x from hd)with rfl | hd
  ·rfl
  ·exact kf hb Rw r x ho.2 d hd
theorem pD{κ:KS}:∀ (ms:List Mc) (ds:List D) (x:mJ ms) (vs:List Value),(Xm ms ds).leads x->qH κ ds vs->qH κ (s6 ms x) vs
 | [],ds,x,vs,h,hd=>by
  cases ds with
  | nil=>exact hd
  | cons d r=>exact h.elim
 | .im τ::r,ds,x,vs,h,hd=>by
  cases ds with
  | nil=>exact h.elim
  | cons d ds =>
   simp only[Xm]at h
   split at h
   ·rename_i y hy
    obtain⟨z,h1,h2⟩:=T.zd.1 h
    cases h2
    obtain⟨v,us,rfl,g1,g2⟩:=hd.cons_inv
    exact .cons (bX g1 hy) (pD r ds z us h1 g2)
   ·exact h.elim
 | .rp τ::r,ds,x,vs,h,hd=>by
  cases ds with
  | nil=>exact h.elim
  | cons d ds =>
   cases d<;>simp only[Xm]at h<;>try (exact h.elim)
   split at h
   ·rename_i y hy
    obtain⟨e,hx⟩:=qi hy
    cases e
    cases hx
    obtain⟨z,h1,h2⟩:=T.zd.1 h
    cases h2
    obtain⟨v,us,rfl,g1,g2⟩:=hd.cons_inv
    exact .cons g1 (pD r ds z us h1 g2)
   ·exact h.elim
 | .pt b::r,ds,x,vs,h,hd=>by
  cases ds with
  | nil=>exact h.elim
  | cons d ds =>
   cases d<;>simp only[Xm]at h<;>try (exact h.elim)
   rename_i b' off
   cases hb:Nat.beq b b'&&Nat.beq off 0 with
   | false=>rw[hb]at h; exact h.elim
   | true =>
    rw[hb]at h
    simp only[Bool.and_eq_true]at hb
    have e1:=Nat.eq_of_beq_eq_true hb.1
    have e2:=Nat.eq_of_beq_eq_true hb.2
    subst e1 e2
    obtain⟨v,us,rfl,g1,g2⟩:=hd.cons_inv
    exact .cons g1 (pD r ds x us h g2)
theorem cX{m:Nat}{bs:List Bk}(hb:∀ b,XH bs b=true->b<m):∀ (ms:List Mc) (x:mJ ms),ms.all (z9Y bs)=true->∀ d∈s6 ms x,vM m d=true
 | [],_,_,d,hd=>by cases hd
 | .im τ::r,x,ho,d,hd=>by
  simp only[List.all_cons,Bool.and_eq_true]at ho
  rcases List.mem_cons.1 (show d∈D.zI τ x.1::s6 r x.2 from hd)with rfl | hd
  ·rfl
  ·exact cX hb r x.2 ho.2 d hd
 | .rp τ::r,x,ho,d,hd=>by
  simp only[List.all_cons,Bool.and_eq_true]at ho
  rcases List.mem_cons.1 (show d∈D.qU τ x.1::s6 r x.2 from hd)with rfl | hd
  ·rfl
  ·exact cX hb r x.2 ho.2 d hd
 | .pt b::r,x,ho,d,hd=>by
  simp only[List.all_cons,Bool.and_eq_true]at ho
  rcases List.mem_cons.1 (show d∈D.ptr b 0::s6 r x from hd)with rfl | hd
  ·have:=hb b ho.1
   simp only[vM,Nat.blt,Nat.ble_eq]; exact this
  ·exact cX hb r x ho.2 d hd
theorem YP{κ κ':KS}(hw:Wk κ κ'){k:Dk}{d:D}{x:k.den}{v:Value}{bs:List Bk}(wm:He bs k=true)(Js:∀ b,rowAt bs b=true->xZ κ'.st b=xZ κ.st b)
  {zr:St} (xM:∀ b,rowAt bs b=true->xZ zr b=xZ κ'.st b) (hlen:∀ b,rowAt bs b=true->xZ κ.st b=bn κ.st b) (h:(tk κ.st k d).leads x) (hd:RD κ d v):RD κ' (rR zr k x) v:=by
 cases k with
 | zI τ=>exact hw.rd (bX hd (T.ud.1 h))
 | qU τ =>
  cases d<;>simp only[tk]at h<;>try (exact h.elim)
  obtain⟨e,hx⟩:=qi (T.ud.1 h)
  cases e
  cases hx
  exact hw.rd hd
 | sub b e =>
  cases d<;>simp only[tk]at h<;>try (exact h.elim)
  rename_i b' qB e' off len
  cases hb:Nat.beq b b'&&decide (e=e')with
  | false=>rw[hb]at h; exact h.elim
  | true =>
   rw[hb,cond_true]at h
   simp only[Bool.and_eq_true,decide_eq_true_eq]at hb
   obtain⟨hv,h⟩:=h
   cases h
   have:=Nat.eq_of_beq_eq_true hb.1
   obtain⟨-,rfl⟩:=hb
   subst this
   simp only[rR]
   rw[xM b wm,Js b wm,<- hv]
   exact hw.rd hd
 | qN f caps =>
  cases d<;>simp only[tk]at h<;>try (exact h.elim)
  rename_i f' l
  cases hb:Nat.beq f f' with
  | false=>rw[hb]at h; exact h.elim
  | true =>
   rw[hb,cond_true]at h
   have:=Nat.eq_of_beq_eq_true hb
   subst this
   have hx:=T.ud.1 h
   cases hd with
   | qN _ _ vs hl hh =>
    have:=Xw caps l x vs hx (⟨hl,hh⟩:qH κ l vs)
    exact hw.rd (.qN f _ vs this.1 this.2)
 | st ks =>
  simp only[tk]at h
  cases ha:d.cS with
  | false=>rw[ha]at h; exact h.elim
  | true =>
   rw[ha]at h
   have ht:d.uM=false:=by cases d<;>first | rfl | (simp[D.cS]at ha)
   obtain⟨g1,g2⟩:=dJ (zr:=zr) (λb hb=>(xM b hb).trans ((Js b hb).trans (hlen b hb))) ks (qg d) x _ wm h (j9 hd ht)
   obtain⟨c,hc⟩:=SO hd ha
   subst hc
   have g1':qH κ (vb zr ks x) c.toList:=g1
   have:=RD.agg (κ:=κ) _ c.toList g1'.1 g2 g1'.2
   exact hw.rd (show RD κ (.agg (vb zr ks x)) (.agg c) by simpa using this)
 | mclo f ms =>
  cases d<;>simp only[tk]at h<;>try (exact h.elim)
  rename_i f' l
  cases hb:Nat.beq f f' with
  | false=>rw[hb]at h; exact h.elim
  | true =>
   rw[hb]at h
   have:=Nat.eq_of_beq_eq_true hb
   subst this
   cases hd with
   | qN _ _ vs hl hh =>
    have:=pD ms l x vs h (⟨hl,hh⟩:qH κ l vs)
    exact hw.rd (show RD κ (.qN f (s6 ms x)) _ from .qN f _ vs this.1 this.2)
theorem KW:∀ {l:List (Nat×Nat)} {ds:List D},tz l ds=true->ds=l.map λp=>.ptr p.1 p.2
 | [],[],_=>rfl
 | [],_::_,h=>by simp[tz]at h
 | p::r,[],h=>by simp[tz]at h
 | p::r,d::ds,h=>by
  cases d<;>simp only[tz]at h<;>try (cases h; done)
  simp only[Bool.and_eq_true]at h
  rw[KW h.2,<- Nat.eq_of_beq_eq_true h.1.1,<- Nat.eq_of_beq_eq_true h.1.2]
  rfl
theorem TM{st zr:St}{ck:Ck}{d:D}{bs:List Bk}(wm:LV bs ck=true)(Js:∀ b,rowAt bs b=true->xZ zr b=bn st b)(h:(W0 st ck d).leads ()):Cj zr ck=d:=by
 cases ck with
 | ptr b off =>
  cases d<;>simp only[W0]at h<;>try (exact h.elim)
  rename_i b' off'
  cases hb:Nat.beq b b'&&Nat.beq off off' with
  | false=>rw[hb]at h; exact h.elim
  | true =>
   simp only[Bool.and_eq_true]at hb
   rw[<- Nat.eq_of_beq_eq_true hb.1,<- Nat.eq_of_beq_eq_true hb.2]
   rfl
 | cur b e =>
  cases d<;>simp only[W0]at h<;>try (exact h.elim)
  rename_i b' qB e' off len
  cases hb:Nat.beq b b'&&decide (e=e')with
  | false=>rw[hb]at h; exact h.elim
  | true =>
   rw[hb,cond_true]at h
   simp only[Bool.and_eq_true,decide_eq_true_eq]at hb
   obtain⟨⟨h1,h2,h3⟩,_⟩:=h
   have:=Nat.eq_of_beq_eq_true hb.1
   obtain⟨-,rfl⟩:=hb
   subst this
   simp only[Cj]
   rw[Js b wm,h1,h2,h3]
 | xy=>cases d<;>simp only[W0]at h<;>first | rfl | exact h.elim
 | y9=>cases d<;>simp only[W0]at h<;>first | rfl | exact h.elim
 | qX=>cases d<;>simp only[W0]at h<;>first | rfl | exact h.elim
 | qN f l =>
  cases d<;>simp only[W0]at h<;>try (exact h.elim)
  rename_i f' l'
  cases hb:Nat.beq f f'&&tz l l' with
  | false=>rw[hb]at h; exact h.elim
  | true =>
   simp only[Bool.and_eq_true]at hb
   rw[<- Nat.eq_of_beq_eq_true hb.1,KW hb.2]
   rfl
theorem H4{fr:Fr}{st:St}:∀ {cs:List (Nat×Ck)},(z2A fr st cs).leads ()->∀ p∈cs,∃ d,fr.get p.1=some d/\(W0 st p.2 d).leads ()
 | [],_,p,hp=>by cases hp
 | q::r,h,p,hp=>by
  simp only[z2A]at h
  split at h
  ·rename_i d hd
   simp only[T.zG]at h
   obtain⟨⟨⟩,h1,h2⟩:=h
   rcases List.mem_cons.1 hp with rfl | hp
   ·grind
   ·exact H4 h2 p hp
  ·exact h.elim
def M3(p:Dk->Bool)(st:St):List kE->List Bd->Prop
 | [],[]=>True
 | b::bl,.a e xs::r=>b=.arr xs.length e xs/\M3 p st bl r
 | b::bl,.v k x::r=>(∃ d,b=.var d/\(k.plain=true/\p k=true)/\(tk st k d).leads x)/\M3 p st bl r
 | _,_=>False
theorem R7{e:Ty}{b:kE}{x:List (den e)}(h:(OL e b).leads x):b=.arr x.length e x:=by
 unfold OL at h
 split at h
 ·split at h
  ·rename_i ys hy
   obtain⟨h1,h2⟩:=h
   cases h2
   obtain⟨he,hx⟩:=qi hy
   grind
  ·exact h.elim
 ·exact h.elim
theorem Ph{st:St}{k:Dk}{b:kE}{x:k.den}(h:(OD st k b).leads x):∃ d,b=.var d/\k.plain=true/\(tk st k d).leads x:=by
 cases b with
 | var d =>
  simp only[OD]at h
  cases hp:k.plain with
  | false=>rw[hp]at h; exact h.elim
  | true=>grind
 | _=>exact h.elim
def JD(st:St):(i:It)->i.den->Fr
 | .s t k,x=>[(t,some (rR st k x))]
 | .v _,_=>[]
 | .a _,_=>[]
def T0:(i:It)->i.den->List Bd
 | .s _ _,_=>[]
 | .v k,x=>[.v k x]
 | .a e,x=>[.a e x]
theorem Ux(st:St)(i:It)(x:i.den):eR st [i] x=JD st i x:=by cases i<;>rfl
theorem QQ(st:St)(i j:It)(r:List It)(x:i.den×wK (j::r)):eR st (i::j::r) x=JD st i x.1++eR st (j::r) x.2:=by cases i<;>rfl
theorem RX(i:It)(x:i.den):lO [i] x=T0 i x:=by cases i<;>rfl
theorem Ma(i j:It)(r:List It)(x:i.den×wK (j::r)):lO (i::j::r) x=T0 i x.1++lO (j::r) x.2:=by cases i<;>rfl
def z7p(fr:Fr)(st zr:St)(l:List It)(p:Nat×Option D):Prop:=∃ (k:Dk) (y:k.den) (d:D),(It.s p.1 k)∈l/\fr.get p.1=some d/\(tk st k d).leads y/\p.2=some (rR zr k y)
theorem IT{p:Dk->Bool}{fr:Fr}{st zr:St}{bl:List kE}{i:It}{x:i.den×List kE}(hp:∀ k,i=.v k->p k=true)(h:(Bj fr st bl i).leads x) :
  (∀ bd,M3 p st x.2 bd->M3 p st bl (T0 i x.1++bd))/\∀ p∈JD zr i x.1,z7p fr st zr [i] p:=by
 cases i with
 | s t k =>
  simp only[Bj]at h
  split at h
  ·rename_i d hd
   rw[T.zG]at h
   obtain⟨y,h1,rfl⟩:=h
   refine⟨λbd hb=>hb,λp hp => ?_⟩
   simp only[JD,List.mem_singleton]at hp
   subst hp
   exact⟨k,y,d,by simp,hd,h1,rfl⟩
  ·exact h.elim
 | v k =>
  cases bl with
  | nil=>exact h.elim
  | cons b r =>
   simp only[Bj]at h
   rw[T.zG]at h
   obtain⟨y,h1,rfl⟩:=h
   obtain⟨d,q1,q2,q3⟩:=Ph h1
   exact⟨λbd hb=>⟨⟨d,q1,⟨q2,hp k rfl⟩,q3⟩,hb⟩,λp hp=>by cases hp⟩
 | a e =>
  cases bl with
  | nil=>exact h.elim
  | cons b r =>
   simp only[Bj]at h
   rw[T.zG]at h
   obtain⟨y,h1,rfl⟩:=h
   exact⟨λbd hb=>⟨R7 h1,hb⟩,λp hp=>by cases hp⟩
theorem Hs{α:Type}{x:α×List kE}{y:α}(h:(BZ x).leads y):x=(y,[]):=by
 obtain⟨a,bl⟩:=x
 cases bl with
 | nil=>cases h; rfl
 | cons=>exact h.elim
theorem tN{p:Dk->Bool}{fr:Fr}{st zr:St}:∀ (l:List It) (bl:List kE) (x:wK l),(∀ k,It.v k∈l->p k=true)->(Kh fr st l bl).leads x ->
  M3 p st bl (lO l x)/\∀ p∈eR zr l x,z7p fr st zr l p
 | [],bl,x,_,h=>by
  have h':(BZ ((),bl)).leads x:=h
  have:=Hs h'
  cases this
  exact⟨trivial,λp hp=>by cases hp⟩
 | [i],bl,x,hp,h=>by
  have h':((Bj fr st bl i).bind BZ).leads x:=h
  obtain⟨y,h1,h2⟩:=T.zd.1 h'
  have:=Hs h2
  subst this
  obtain⟨g1,g2⟩:=IT (p:=p) (zr:=zr) (λk hk=>hp k (by grind)) h1
  have e1:lO [i] x=T0 i x:=RX i x
  have e2:eR zr [i] x=JD zr i x:=Ux zr i x
  have:=g1 [] trivial
  grind
 | i::j::r,bl,x,hp,h=>by
  have h':((Bj fr st bl i).bind λx=>(Kh fr st (j::r) x.2).bind λy=>T.ret (x.1,y)).leads x:=h
  obtain⟨y,h1,h2⟩:=T.zd.1 h'
  obtain⟨z,h3,h4⟩:=T.zd.1 h2
  cases h4
  obtain⟨g1,g2⟩:=IT (p:=p) (zr:=zr) (λk hk=>hp k (by grind)) h1
  obtain⟨k1,k2⟩:=tN (p:=p) (zr:=zr) (j::r) y.2 z (λk hk=>hp k (List.mem_cons_of_mem _ hk)) h3
  have e1:lO (i::j::r) (y.1,z)=T0 i y.1++lO (j::r) z:=Ma i j r (y.1,z)
  have e2:eR zr (i::j::r) (y.1,z)=JD zr i y.1++eR zr (j::r) z:=QQ zr i j r (y.1,z)
  rw[e1,e2]
  refine⟨g1 _ k1,λp hp => ?_⟩
  rcases List.mem_append.1 hp with hp | hp
  ·obtain⟨k,w,d,q1,q2⟩:=g2 p hp
   exact⟨k,w,d,by grind,q2⟩
  ·obtain⟨k,w,d,q1,q2⟩:=k2 p hp
   exact⟨k,w,d,List.mem_cons_of_mem _ q1,q2⟩
inductive KZ(p:Dk->Bool)(st zr:St):Bk->kE->kE->Prop
 | arr (e e':Ty) (xs:List (den e)):KZ p st zr (.arr e') (.arr xs.length e xs) (.arr xs.length e xs)
 | var (k k':Dk) (d:D) (x:k.den) (hp:k.plain=true/\p k=true) (h:(tk st k d).leads x):KZ p st zr (.var k') (.var d) (.var (rR zr k x))
 | cvar (ck:Ck) (d:D) (h:(W0 st ck d).leads ()):KZ p st zr (.cvar ck) (.var d) (.var (Cj zr ck))
 | dead (b:kE) (h:D9 b=false):KZ p st zr .dead b .dead
def bT:List Bd->List Bool
 | []=>[]
 | .v _ _::r=>false::bT r
 | .a _ _::r=>true::bT r
theorem mN:∀ (l:List It) (x:wK l),bT (lO l x)=kinds l
 | [],_=>rfl
 | [.s _ _],_=>rfl
 | [.v _],_=>rfl
 | [.a _],_=>rfl
 | .s _ _::j::r,x=>mN (j::r) x.2
 | .v _::j::r,x=>congrArg (false :: ·) (mN (j::r) x.2)
 | .a _::j::r,x=>congrArg (true :: ·) (mN (j::r) x.2)
theorem Qm{p:Dk->Bool}{st st0:St}:∀ {bs:List Bk} {blocks bl:List kE} {bd:List Bd},(JM st bs blocks).leads bl->M3 p st bl bd->yG bs (bT bd)=true ->
  (vL st0 bs bd).length=bs.length/\(∀ b,rowAt bs b=true->xZ (gf bs bd) b=bn blocks b/\xZ (vL st0 bs bd) b=bn blocks b/\xZ blocks b=bn blocks b) /\
  ∀ (i:Nat) (k:Bk),bs[i]? = some k->∃ B B',blocks[i]? = some B/\(vL st0 bs bd)[i]? = some B'/\KZ p st st0 k B B'
 | [],blocks,bl,bd,h,hb,ho=>by
  refine⟨by simp[vL],λb hb=>by simp[rowAt]at hb,λi k hk=>by simp at hk⟩
 | k::r,[],bl,bd,h,hb,ho=>by cases k<;>exact h.elim
 | .arr e::r,b::blocks,bl,bd,h,hb,ho=>by
  simp only[JM,T.zG]at h
  obtain⟨l,h1,rfl⟩:=h
  cases bd with
  | nil=>exact hb.elim
  | cons q bd =>
   cases q with
   | v k x=>simp[bT,yG]at ho
   | a e' xs =>
    obtain⟨rfl,By⟩:=hb
    simp only[bT,yG,Bool.true_and]at ho
    obtain⟨g1,g2,g3⟩:=Qm (st0:=st0) h1 By ho
    refine⟨by simp[vL,g1],λb hb => ?_,λi k hk => ?_⟩
    ·cases b with
     | zero=>simp[gf,vL,xZ,z8k,bn]
     | succ b=>have:=g2 b (by simpa[rowAt]using hb); simpa[gf,vL,xZ,bn]using this
    ·cases i with
     | zero=>simp at hk; subst hk; exact⟨_,_,rfl,rfl,.arr e' e xs⟩
     | succ i=>simpa[vL]using g3 i k (by simpa using hk)
 | .var k0::r,b::blocks,bl,bd,h,hb,ho=>by
  simp only[JM,T.zG]at h
  obtain⟨l,h1,rfl⟩:=h
  cases bd with
  | nil=>exact hb.elim
  | cons q bd =>
   cases q with
   | a e' xs=>simp[bT,yG]at ho
   | v k x =>
    obtain⟨⟨d,rfl,hp,hd⟩,By⟩:=hb
    simp only[bT,yG,Bool.not_false,Bool.true_and]at ho
    obtain⟨g1,g2,g3⟩:=Qm (st0:=st0) h1 By ho
    refine⟨by simp[vL,g1],λb hb => ?_,λi k hk => ?_⟩
    ·cases b with
     | zero=>simp[rowAt]at hb
     | succ b=>have:=g2 b (by simpa[rowAt]using hb); simpa[gf,vL,xZ,bn]using this
    ·cases i with
     | zero=>simp at hk; subst hk; exact⟨_,_,rfl,rfl,.var k k0 d x hp hd⟩
     | succ i=>simpa[vL]using g3 i k (by simpa using hk)
 | .cvar ck::r,b::blocks,bl,bd,h,hb,ho=>by
  cases b with
  | var d =>
   simp only[JM,T.zG]at h
   obtain⟨⟨⟩,h0,h1⟩:=h
   have ho':yG r (bT bd)=true:=by cases bd<;>simpa[yG]using ho
   obtain⟨g1,g2,g3⟩:=Qm (st0:=st0) h1 hb ho'
   have e1:vL st0 (.cvar ck::r) bd=.var (Cj st0 ck)::vL st0 r bd:=by cases bd<;>rfl
   have e0:gf (.cvar ck::r) bd=.dead::gf r bd:=by cases bd<;>rfl
   rw[e0,e1]
   refine⟨by simp[g1],λb hb => ?_,λi k hk => ?_⟩
   ·cases b with
    | zero=>simp[rowAt]at hb
    | succ b=>have:=g2 b (by simpa[rowAt]using hb); simpa[xZ,bn]using this
   ·cases i with
    | zero=>simp at hk; subst hk; exact⟨_,_,rfl,rfl,.cvar ck d h0⟩
    | succ i=>grind
  | _=>exact h.elim
 | .dead::r,b::blocks,bl,bd,h,hb,ho=>by
  simp only[JM]at h
  cases hv:D9 b with
  | true=>rw[hv]at h; exact h.elim
  | false =>
   rw[hv,cond_false]at h
   have ho':yG r (bT bd)=true:=by cases bd<;>simpa[yG]using ho
   obtain⟨g1,g2,g3⟩:=Qm (st0:=st0) h hb ho'
   have e1:vL st0 (.dead::r) bd=.dead::vL st0 r bd:=by cases bd<;>rfl
   have e0:gf (.dead::r) bd=.dead::gf r bd:=by cases bd<;>rfl
   rw[e0,e1]
   refine⟨by simp[g1],λb hb => ?_,λi k hk => ?_⟩
   ·cases b with
    | zero=>simp[rowAt]at hb
    | succ b=>have:=g2 b (by simpa[rowAt]using hb); simpa[xZ,bn]using this
   ·cases i with
    | zero=>simp at hk; subst hk; exact⟨_,_,rfl,rfl,.dead b hv⟩
    | succ i=>grind
inductive Refs(m:Nat):D->Prop
 | zI (τ:Ty) (x:AM.den τ):Refs m (.zI τ x)
 | tight (e:Ty) (l:List (AM.den e)) (ne:Bool):Refs m (.tight e l ne)
 | xy:Refs m .xy
 | y9:Refs m .y9
 | qX:Refs m .qX
 | vW:Refs m .vW
 | vX:Refs m .vX
 | rZ:Refs m .rZ
 | cj (T:Nat):Refs m (.cj T)
 | kS (b T:Nat) (h:b<m):Refs m (.kS b T)
 | ptr (b off:Nat) (h:b<m):Refs m (.ptr b off)
 | qU (τ:Ty) (x:AM.den τ):Refs m (.qU τ x)
 | uk (b qB:Nat) (e:Ty) (idx off:Nat) (h:b<m):Refs m (.uk b qB e idx off)
 | ms (b qB:Nat) (e:Ty) (off len:Nat) (h:b<m):Refs m (.ms b qB e off len)
 | qN (f:Nat) (l:List D) (h:∀ i (hi:i<l.length),Refs m l[i]):Refs m (.qN f l)
 | agg (l:List D) (h:∀ i (hi:i<l.length),Refs m l[i]):Refs m (.agg l)
 | yH (l:List D) (h:∀ i (hi:i<l.length),Refs m l[i]):Refs m (.yH l)
 | iface (t:Nat) (d:D) (h:Refs m d):Refs m (.iface t d)
theorem Refs.mono{m m':Nat}(hm:m<=m'){d:D}(h:Refs m d):Refs m' d:=by
 induction h with
 | ptr b off h=>exact .ptr b off (by omega)
 | kS b T h=>exact .kS b T (by omega)
 | uk b qB e idx off h=>exact .uk b qB e idx off (by omega)
 | ms b qB e off len h=>exact .ms b qB e off len (by omega)
 | qN f l h ih=>exact .qN f l ih
 | agg l h ih=>exact .agg l ih
 | yH l h ih=>exact .yH l ih
 | iface t d h ih=>exact .iface t d ih
 | _=>constructor
theorem z25{κ:KS}{m:Nat}{d:D}{v:Value}(h:RD κ d v)(hr:Refs m d):RD (κ.cut m) d v:=by
 induction h with
 | zI τ y cs h=>exact .zI τ y cs h
 | xi e a=>exact .xi e a
 | tight e l ne blk off f vT wm h hc=>exact .tight e l ne blk off f vT wm h hc
 | xy=>exact .xy
 | y9=>exact .y9
 | qX=>exact .qX
 | vW=>exact .vW
 | vX=>exact .vX
 | rZ v h=>exact .rZ v h
 | cj T=>exact .cj T
 | cq b T d hb=>cases hr with | kS _ _ qy=>exact dn (.cq b T d hb) (by simp only[vM,Nat.blt,Nat.ble_eq]; exact qy)
 | cE b T blk n d hb h=>cases hr with | kS _ _ qy=>exact dn (.cE b T blk n d hb h) (by simp only[vM,Nat.blt,Nat.ble_eq]; exact qy)
 | ptr b off blk n d hb h=>cases hr with | ptr _ _ qy=>exact dn (.ptr b off blk n d hb h) (by simp only[vM,Nat.blt,Nat.ble_eq]; exact qy)
 | qU τ y cs blk off wm h hc=>exact .qU τ y cs blk off wm h hc
 | uk b qB e idx off blk o hb h=>cases hr with | uk _ _ _ _ _ qy=>exact dn (.uk b qB e idx off blk o hb h) (by simp only[vM,Nat.blt,Nat.ble_eq]; exact qy)
 | ms b qB e off len cap a hb vc ha nN h=>cases hr with | ms _ _ _ _ _ qy=>exact dn (.ms b qB e off len cap a hb vc ha nN h) (by simp only[vM,Nat.blt,Nat.ble_eq]; exact qy)
 | qN f l vs hl h ih=>cases hr with | qN _ _ hh=>exact .qN f l vs hl λi h1 h2=>ih i h1 h2 (hh i h1)
 | agg l vs hl ho h ih=>cases hr with | agg _ hh=>exact .agg l vs hl ho λi h1 h2=>ih i h1 h2 (hh i h1)
 | yH l vs hl h ih=>cases hr with | yH _ hh=>exact .yH l vs hl λi h1 h2=>ih i h1 h2 (hh i h1)
 | iface t d v h ih=>cases hr with | iface _ _ hh=>exact .iface t d v (ih hh)
theorem GG{a b:Nat}(h:a<b):Nat.blt a b=true:=by
 simp; exact h
theorem R4{κ κe:KS}{m:Nat}(hx:Ext κ κe)(hm:κ.st.length<=m):Ext κ (κe.cut m):=by
 have qy:∀ b x,κ.st[b]? = some x->b<m:=λb x h=>Nat.lt_of_lt_of_le (List.getElem?_eq_some_iff.1 h).1 hm
 have KE:∀ b,b<m->(κe.cut m).ph[b]? = κe.ph[b]? := λb hb=>by simp only[KS.cut]; rw[List.getElem?_take,if_pos hb]
 refine⟨hx.os,hx.tape,hx.output,hx.size,hx.same,hx.fresh,λb blk n h=>hx.Tz b blk n (gO h).1,λb d h => ?_,λb v0 e xs h => ?_,λb h=>qe (hx.dead b h) (qy b _ h),?_,hx.frame⟩
 ·obtain⟨⟨d',h1⟩,h2⟩:=hx.var b d h
  exact⟨⟨d',qe h1 (qy b _ h)⟩,(KE b (qy b _ h)).trans h2⟩
 ·rcases hx.arr b v0 e xs h with h1 | ⟨v1,x1,h1,h2,h3⟩
  ·exact .inl (qe h1 (qy b _ h))
  ·exact .inr ⟨v1,x1,qe h1 (qy b _ h),h2,λhe=>⟨(KE b (qy b _ h)).trans (h3 he).1,(h3 he).2⟩⟩
 ·have:=hx.C1
  simp[KS.cut]; omega
theorem vQ.Z0{κ0 κ:KS}{fr:Fr}{a:Act}{sh:vQ}{x:sh.den}(hx:Ext κ0 κ)(hI:Inv κ)(hR:Rel κ n fr.get a)(hl:κ0.st.length<=sh.bs.length)(h:(sh.un fr κ.st).leads x) :
  ∃ κ':KS,κ'.w=κ.w/\κ'.st=sh.st x/\Inv κ'/\Ext κ0 κ'/\Rel κ' n (sh.fr x).get a/\∀ (d:D) (v:Value),Refs sh.bs.length d->RD κ d v->RD κ' d v:=by
 unfold vQ.un at h
 cases hc:sh.ok&&(κ.st.take sh.bs.length).all (Yq sh.bs.length)with
 | false=>rw[hc]at h; exact h.elim
 | true =>
  rw[hc,cond_true]at h
  simp only[Bool.and_eq_true,vQ.ok,List.all_eq_true]at hc
  obtain⟨⟨⟨⟨zcA,z9q⟩,QB⟩,hbs⟩,WC⟩:=hc
  obtain⟨⟨⟩,h1,h⟩:=T.zd.1 h
  obtain⟨bl,h2,h3⟩:=T.zd.1 h
  have hIc:=z1a hI WC
  -- the store cut
  let m:=sh.bs.length
  obtain⟨g1,g2⟩:=tN (p:=He sh.bs) (zr:=sh.st x) sh.nC bl x (λk hk=>z9q _ hk) h3
  obtain⟨k1,k2,k3⟩:=Qm (st0:=gf sh.bs (lO sh.nC x)) h2 g1 ((congrArg (yG sh.bs) (mN sh.nC x)).trans zcA)
  have xM:sh.st x=vL (gf sh.bs (lO sh.nC x)) sh.bs (lO sh.nC x):=rfl
  rw[<- xM]at k1 k2 k3
  let κ':KS:={ κ.cut m with st:=sh.st x }
  have hm:m<=κ.st.length:=by
   rcases Nat.eq_zero_or_pos m with h0 | h0
   ·omega
   ·obtain⟨B,B',q1,_⟩:=k3 (m-1) (sh.bs[m-1]'(by show m-1<m; omega)) (by simp)
    grind
  have zeK:∀ i B,κ.st[i]? = some B->i<m->(κ.cut m).st[i]? = some B:=λi B hB hi=>qe hB hi
  have Me:(κ.cut m).st.length=m:=by simp[KS.cut]; omega
  have pair:∀ i,i<m->∃ k B B',sh.bs[i]? = some k/\(κ.cut m).st[i]? = some B/\κ'.st[i]? = some B'/\KZ (He sh.bs) κ.st (gf sh.bs (lO sh.nC x)) k B B':=by
   intro i hi
   obtain⟨B,B',q1,q2,q3⟩:=k3 i (sh.bs[i]'hi) (by simp)
   grind
  have lt:∀ {i:Nat} {B:kE},(κ.cut m).st[i]? = some B->i<m:=λhB=>by have:=(List.getElem?_eq_some_iff.1 hB).1; omega
  have lt':∀ {i:Nat} {B:kE},κ'.st[i]? = some B->i<m:=λhB=>by have:=(List.getElem?_eq_some_iff.1 hB).1; have e:κ'.st.length=m:=k1; omega
  have hw:Wk (κ.cut m) κ':=by
   refine⟨rfl,rfl,rfl,by show(sh.st x).length=_; rw[k1,Me],λb d hb => ?_,λb v e xs hb => ?_,λb v e xs hb => ?_,λb hb => ?_⟩
   ·obtain⟨k,B,B',q0,q1,q2,q3⟩:=pair b (lt hb)
    rw[hb]at q1; cases q1
    cases q3 with
    | var k' _ _ y _ hy=>grind
    | cvar ck _ hy=>grind
    | dead _ hv=>cases hv
   ·obtain⟨k,B,B',q0,q1,q2,q3⟩:=pair b (lt hb)
    rw[hb]at q1; cases q1
    cases q3 with
    | arr=>grind
    | dead=>grind
   ·obtain⟨k,B,B',q0,q1,q2,q3⟩:=pair b (lt' hb)
    rw[hb]at q2; cases q2
    cases q3 with
    | arr=>exact q1
   ·obtain⟨k,B,B',q0,q1,q2,q3⟩:=pair b (lt hb)
    rw[hb]at q1; cases q1
    cases q3 with
    | dead=>exact q2
  have Yi:∀ b,rowAt sh.bs b=true->xZ κ'.st b=bn κ.st b/\xZ (gf sh.bs (lO sh.nC x)) b=bn κ.st b/\xZ κ.st b=bn κ.st b :=
   λb hb=>⟨(k2 b hb).2.1,(k2 b hb).1,(k2 b hb).2.2⟩
  have zc1:∀ b,rowAt sh.bs b=true->xZ (κ.cut m).st b=xZ κ.st b:=by
   intro b hb
   have TL:b<m:=by
    unfold rowAt at hb
    split at hb
    ·rename_i hh; exact(List.getElem?_eq_some_iff.1 hh).1
    ·cases hb
   unfold xZ
   simp only[KS.cut]
   rw[List.getElem?_take,if_pos TL]
  have TL:∀ b,rowAt sh.bs b=true->b<m:=by
   intro b hb
   unfold rowAt at hb
   split at hb
   ·rename_i hh; exact(List.getElem?_eq_some_iff.1 hh).1
   ·cases hb
  have Rw:∀ b,XH sh.bs b=true->b<m:=by
   intro b hb
   unfold XH at hb
   split at hb
   ·rename_i hh; exact(List.getElem?_eq_some_iff.1 hh).1
   ·rename_i hh; exact(List.getElem?_eq_some_iff.1 hh).1
   ·cases hb
  have dk:∀ (k:Dk) (y:k.den) (d:D) (v:Value) (zr:St),He sh.bs k=true->(∀ b,rowAt sh.bs b=true->xZ zr b=bn κ.st b)->(tk κ.st k d).leads y->RD κ d v->RD κ' (rR zr k y) v:=by
   intro k y d v zr ho hv hy hd
   have hwk:Wk κ κ:=⟨rfl,rfl,rfl,rfl,λb d h=>⟨d,h⟩,λb v e xs h=>.inl h,λb v e xs h=>h,λb h=>h⟩
   have h0:=YP hwk ho (λ_ _=>rfl) (zr:=κ.st) (λ_ _=>rfl) (λb hb=>(Yi b hb).2.2) hy hd
   have zeN:gZ m (rR κ.st k y)=true:=by
    cases k with
    | sub b e=>exact GG (TL b ho)
    | qN f caps =>
     have:∀ (l:List Qu) (z:gy l),(mc l z).all (vM m)=true:=by
      intro l
      induction l with
      | nil=>intro z; rfl
      | cons p r ih =>
       intro z
       have hp:∀ w:AM.den p.ty,vM m (KA p w)=true:=λw=>by cases p<;>rfl
       cases r with
       | nil=>simp only[mc,List.all_cons,List.all_nil,Bool.and_true]; exact hp z
       | cons q r=>simp only[mc,List.all_cons,Bool.and_eq_true]; exact⟨hp z.1,by simpa using ih z.2⟩
     exact this caps y
    | st ks=>exact List.all_eq_true.2 (kf TL Rw ks y ho)
    | mclo f ms=>exact List.all_eq_true.2 (cX Rw ms y ho)
    | _=>rfl
   have h1:=hw.rd (EM h0 zeN)
   have he:rR κ.st k y=rR zr k y:=by
    cases k with
    | sub b e=>simp only[rR]; rw[hv b ho,(Yi b ho).2.2]
    | st ks=>simp only[rR]; rw[oa (λb hb=>(Yi b hb).2.2.trans (hv b hb).symm) ks y ho]
    | _=>rfl
   rwa [he]at h1
  have ck:∀ (q:Ck) (d:D) (v:Value) (zr:St),LV sh.bs q=true->(∀ b,rowAt sh.bs b=true->xZ zr b=bn κ.st b)->(W0 κ.st q d).leads ()->Cj zr q=d/\(RD κ d v->RD κ' d v):=by
   intro q d v zr ho hv hy
   have he:=TM ho hv hy
   refine⟨he,λhd=>hw.rd (EM hd ?_)⟩
   rw[<- he]
   cases q with
   | ptr b off=>exact GG (Rw b ho)
   | cur b e=>exact GG (TL b ho)
   | xy=>rfl
   | y9=>rfl
   | qX=>rfl
   | qN f l =>
    simp only[LV,List.all_eq_true]at ho
    simp only[Cj,gZ,List.all_eq_true,List.mem_map]
    rintro _ ⟨p,hp,rfl⟩
    exact GG (Rw p.1 (ho p hp))
  have TD:Inv κ':=by
   refine hw.inv hIc λb d' hb => ?_
   obtain⟨k,B,B',q0,q1,q2,q3⟩:=pair b (lt' hb)
   rw[hb]at q2
   cases q2
   cases q3 with
   | var kk k' d y hp hy =>
    obtain⟨blk,n',cs,t,e1,e2,e3,e4,e5⟩:=hIc.blk b _ q1
    refine⟨blk,n',cs,t,e1,e2,e3,?_⟩
    cases kk with
    | zI τ =>
     have hco:eG τ d=some y:=T.ud.1 hy
     have ht:d.uM=false:=by
      cases d with
      | yH l=>simp[eG,D.uM]at hco
      | _=>rfl
     have CC:=oj hco e4 e5.1 ht
     exact⟨(oD CC).mono hw.ext,dO τ y,nofun⟩
    | qU τ =>
     cases d<;>simp only[tk]at hy<;>try (exact hy.elim)
     obtain⟨e,hyy⟩:=qi (T.ud.1 hy)
     cases e
     cases hyy
     exact⟨e4.mono hw.ext,e5.1,nofun⟩
    | st ks =>
     simp only[tk]at hy
     cases ha:d.cS with
     | false=>rw[ha]at hy; exact hy.elim
     | true =>
      rw[ha]at hy
      replace hy:(fR κ.st ks (qg d)).leads y:=hy
      have zii:b<m:=lt' hb
      have Wv:κ.st[b]? = some (.var d):=(gO q1).1
      obtain⟨zdd,n2,cs2,t2,f1,f2,f3,f4,f5⟩:=hI.blk b _ Wv
      have hp1:=(gO e1).1
      rw[f1]at hp1
      cases hp1
      rw[show(κ.cut m).w=κ.w from rfl,f2]at e2
      cases e2
      obtain⟨g1,g2⟩:=dJ (κ:=κ) (zr:=gf sh.bs (lO sh.nC x)) (bs:=sh.bs) (λb hb=>(Yi b hb).2.1) ks (qg d) y _ hp.2 hy f4
      refine⟨(L3 g1 λz hz => ?_).mono hw.ext,g2,λT hT => ?_⟩
      rotate_left
      ·exact f5.2 T (XN ha (X5 ks (qg d) y hy hT))
      have:=kf (m:=m) TL Rw ks y hp.2 z hz
      cases z<;>first | exact this | cases this
    | _=>cases hp.1
   | cvar q d hy =>
    obtain⟨blk,n',cs,t,e1,e2,e3,e4,e5⟩:=hIc.blk b _ q1
    have hoq:LV sh.bs q=true:=hbs _ (List.mem_of_getElem? q0)
    obtain⟨g,_⟩:=ck q d undef (gf sh.bs (lO sh.nC x)) hoq (λb hb=>(Yi b hb).2.1) hy
    rw[g]
    exact⟨blk,n',cs,t,e1,e2,e3,e4.mono hw.ext,e5⟩
  refine⟨κ',rfl,rfl,TD,?_,⟨hR.size,hR.defers,λs d hd => ?_⟩,λd v hr hd=>hw.rd (z25 hd hr)⟩
  ·have qy:κ0.st.length<=m:=hl
   have c1:=R4 hx qy
   exact c1.trans hw.ext
  ·rcases get_append (l:=eR (sh.st x) sh.nC x) (m:=z5t (sh.st x) sh.cs) hd with hp | hp0
   ·obtain⟨k,y,d0,q0,q1,q2,q3⟩:=g2 _ hp
    cases q3
    obtain⟨v,r1,r2⟩:=hR.get _ _ q1
    exact⟨v,r1,dk k y d0 v (sh.st x) (z9q _ q0) (λb hb=>(Yi b hb).1) q2 r2⟩
   ·have ZK:=get_mem hp0
    unfold z5t at ZK
    obtain⟨p,hp,he⟩:=List.mem_map.1 ZK
    cases he
    obtain⟨d0,q1,q2⟩:=H4 h1 p hp
    obtain⟨v,r1,r2⟩:=hR.get _ _ q1
    obtain⟨g,gg⟩:=ck p.2 d0 v (sh.st x) (QB p hp) (λb hb=>(Yi b hb).1) q2
    rw[g]
    exact⟨v,r1,gg r2⟩
end
end Go.AM
namespace Go.AM
set_option linter.unusedSectionVars false
variable [vU] [J9]
open Go.RowKit
inductive Gh where
 | slot (s:Nat) (e:Ty) | cell (b i:Nat) (e:Ty) | pcell (s i:Nat) (e:Ty)
def WQ(st:St)(b i:Nat):Option (List D):=match st[b]? with
 | some (.var d)=>bif d.cS then match(qg d)[i]? with | some .xy=>some (qg d) | _=>none else none
 | _=>none
def gh:List Gh->Fr->St->Fr×St
 | [],fr,st=>(fr,st)
 | .slot s e::r,fr,st=>match fr.get s with
  | some .xy=>bif Nat.blt 0 e.size then gh r ((s,some (.ms st.length 0 e 0 0))::fr) (st++[.arr 0 e []])else gh r fr st
  | _=>gh r fr st
 | .cell b i e::r,fr,st=>match WQ st b i with
  | some l=>bif Nat.blt 0 e.size then gh r fr ((st++[kE.arr 0 e []]).set b (.var (.agg (l.set i (.ms st.length 0 e 0 0)))))else gh r fr st
  | none=>gh r fr st
 | .pcell t i e::r,fr,st=>match fr.get t with
  | some (.ptr b _)=>match WQ st b i with
   | some l=>bif Nat.blt 0 e.size then gh r fr ((st++[kE.arr 0 e []]).set b (.var (.agg (l.set i (.ms st.length 0 e 0 0)))))else gh r fr st
   | none=>gh r fr st
  | _=>gh r fr st
section
variable {c:Ctx} {κ:KS}
def KS.jg(κ:KS)(e:Ty):KS:={ κ with ph:=κ.ph++[none],st:=κ.st++[.arr 0 e []] }
theorem sQ(hI:Inv κ)(e:Ty):Ext κ (κ.jg e):=by
 have xM:∀ b y,κ.st[b]? = some y->(κ.st++[.arr 0 e []])[b]? = some y:=λb y h=>by rw[List.getElem?_append_left (List.getElem?_eq_some_iff.1 h).1]; exact h
 have KE:∀ b y,κ.st[b]? = some y->(κ.ph++[none])[b]? = κ.ph[b]? := λb y h=>by
  rw[List.getElem?_append_left]; rw[hI.len]; exact(List.getElem?_eq_some_iff.1 h).1
 refine⟨rfl,rfl,rfl,Nat.le_refl _,λk hk=>⟨hk,rfl⟩,λk hk=>.inl hk,?_,λb d h=>⟨⟨d,xM b _ h⟩,KE b _ h⟩,
  λb v0 e xs h=>.inr ⟨v0,xs,xM b _ h,Nat.le_refl _,λ_=>⟨KE b _ h,rfl⟩⟩,λb h=>xM b _ h,by simp[KS.jg],λk hk _=>rfl⟩
 intro b blk m h
 simp only[KS.jg]at h
 grind
theorem Ut(hI:Inv κ){e:Ty}(he:0<e.size):Inv (κ.jg e):=by
 have hold:∀ (b blk m:Nat),(κ.ph++[none])[b]? = some (some (blk,m))->κ.ph[b]? = some (some (blk,m)):=by
  grind
 refine⟨by simp[KS.jg,hI.len],hI.yr,λb blk m h=>hI.apart b blk m (hold b blk m h),λb b' blk m m' h h'=>hI.inj b b' blk m m' (hold _ _ _ h) (hold _ _ _ h'),?_,hI.gl⟩
 intro b y hy
 simp only[KS.jg]at hy
 by_cases hb:b<κ.st.length
 ·rw[List.getElem?_append_left hb]at hy
  exact(hI.blk b y hy).mono (sQ hI e) (by show(κ.ph++[none])[b]? = κ.ph[b]?; rw[List.getElem?_append_left (by rw[hI.len]; exact hb)]) λblk n h=>rfl
 ·have G5:=(List.getElem?_eq_some_iff.1 hy).1
  simp at G5
  have:b=κ.st.length:=by omega
  subst this
  simp at hy
  subst hy
  exact⟨he,.inl ⟨rfl,by simp[KS.jg,<- hI.len]⟩⟩
theorem CW{l:List D}{i b v len off:Nat}{e:Ty}{tt:Nat}(h:(D.agg (l.set i (.ms b v e off len))).typed=some tt):gT l=some tt:=by
 cases l with
 | nil=>exact h
 | cons x r=>cases i with
  | zero=>cases h
  | succ i=>cases x<;>exact h
theorem z0n{κ κ2:KS}{l:List D}{vs:List Value}{i:Nat}{d':D}(h:qH κ l vs)(hw:∀ d v,RD κ d v->RD κ2 d v)(hi:∀ v,vs[i]? = some v->RD κ2 d' v):qH κ2 (l.set i d') vs:=by
 refine⟨by rw[List.length_set]; exact h.1,λk h1 h2 => ?_⟩
 rw[List.getElem_set]
 split
 ·grind
 ·exact hw _ _ (h.2 k (by grind) h2)
theorem IG(hI:Inv κ){e:Ty}(he:0<e.size){b i:Nat}{l:List D}(h:WQ κ.st b i=some l) :
  ∃ κ':KS,κ'.w=κ.w/\κ'.st=(κ.st++[kE.arr 0 e []]).set b (.var (.agg (l.set i (.ms κ.st.length 0 e 0 0))))/\Inv κ'/\Ext κ κ':=by
 unfold WQ at h
 split at h
 ·rename_i d hd
  cases ha:d.cS with
  | false=>grind
  | true =>
   rw[ha,cond_true]at h
   split at h
   ·rename_i hi
    cases h
    have hx:=sQ hI e
    have Qs:=Ut hI he
    have zhl:b<κ.st.length:=(List.getElem?_eq_some_iff.1 hd).1
    let κ2:KS:={ κ.jg e with st:=(κ.jg e).st.set b (.var (.agg ((qg d).set i (.ms κ.st.length 0 e 0 0)))) }
    have ID:(κ.jg e).st[b]? = some (.var d):=by
     show(κ.st++[_])[b]? = _
     grind
    have vT:∀ j,j≠b->κ2.st[j]? = (κ.jg e).st[j]? := λj hj=>by
     grind
    have zbn:κ2.st[b]? = some (.var (.agg ((qg d).set i (.ms κ.st.length 0 e 0 0)))):=by
     grind
    have hw:Wk (κ.jg e) κ2:=by
     refine⟨rfl,rfl,rfl,by simp[κ2],λj d' hj => ?_,λj v e' xs hj => ?_,λj v e' xs hj => ?_,λj hj => ?_⟩
     ·grind
     ·grind
     ·grind
     ·by_cases c:j=b
      ·subst c; rw[ID]at hj; cases hj
      ·rw[vT j c]; exact hj
    have OS:κ2.st[κ.st.length]? = some (.arr 0 e []):=by
     rw[vT _ (by omega)]
     simp[KS.jg]
    have hI2:Inv κ2:=by
     refine hw.inv Qs λj d' hj => ?_
     by_cases c:j=b
     ·subst c
      rw[zbn]at hj
      cases hj
      obtain⟨blk,m,cs,t,q1,q2,q3,q4,q5⟩:=Qs.blk j _ ID
      refine⟨blk,m,cs,t,q1,q2,q3,z0n q4 (λ_ _ h=>hw.rd h) λv hv => ?_,λx hxm => ?_,λT hT => ?_⟩
      ·obtain⟨v',h1,h2⟩:=q4.get hi
       rw[hv]at h1
       cases h1
       cases h2
       refine .ms κ.st.length 0 e 0 0 0 none (.inr ⟨0,e,[],OS,Nat.le_refl _⟩) (Nat.le_refl _) (λ_=>rfl) nofun λxs Wq => ?_
       rw[OS]at Wq
       cases Wq
       exact⟨Nat.le_refl _,.inl ⟨rfl,rfl,rfl,by show(κ.ph++[none])[κ.st.length]? = _; simp[<- hI.len]⟩⟩
      ·rcases List.mem_or_eq_of_mem_set (show x∈(qg d).set i (.ms κ.st.length 0 e 0 0)from hxm)with h' | h'
       ·exact q5.1 x h'
       ·subst h'; rfl
      ·exact q5.2 T (XN ha (CW hT))
     ·rw[vT j c]at hj
      exact(Qs.blk j _ hj).mono hw.ext rfl λ_ _ _=>rfl
    exact⟨κ2,rfl,rfl,hI2,hx.trans hw.ext⟩
   ·cases h
 ·cases h
theorem lA{n:Nat}{a:Act}:∀ (l:List Gh) (fr:Fr) (κ:KS),Inv κ->Rel κ n fr.get a->∃ κ':KS,κ'.w=κ.w/\κ'.st=(gh l fr κ.st).2/\Inv κ'/\Ext κ κ'/\Rel κ' n (gh l fr κ.st).1.get a
 | [],fr,κ,hI,hR=>⟨κ,rfl,rfl,hI,Ext.refl κ,hR⟩
 | .slot s e::r,fr,κ,hI,hR=>by
  unfold gh
  split
  ·rename_i hs
   cases he:Nat.blt 0 e.size with
   | false=>rw[cond_false]; exact lA r fr κ hI hR
   | true =>
    rw[cond_true]
    have On:0<e.size:=Nat.le_of_ble_eq_true he
    have hx:=sQ hI e
    have hR':Rel (κ.jg e) n (Fr.get ((s,some (.ms κ.st.length 0 e 0 0))::fr)) a:=by
     refine⟨hR.size,hR.defers,λt d hd => ?_⟩
     simp only[Fr.get]at hd
     cases ht:Nat.beq s t with
     | true =>
      rw[ht,cond_true]at hd
      cases hd
      have:=Nat.eq_of_beq_eq_true ht
      subst this
      obtain⟨v,h1,h2⟩:=hR.get s _ hs
      cases h2
      have OS:(κ.jg e).st[κ.st.length]? = some (.arr 0 e []):=by simp[KS.jg]
      refine⟨_,h1,.ms κ.st.length 0 e 0 0 0 none (.inr ⟨0,e,[],OS,Nat.le_refl _⟩) (Nat.le_refl _) (λ_=>rfl) nofun λxs Wq => ?_⟩
      rw[OS]at Wq
      cases Wq
      exact⟨Nat.le_refl _,.inl ⟨rfl,rfl,rfl,by simp[KS.jg,<- hI.len]⟩⟩
     | false =>
      rw[ht,cond_false]at hd
      obtain⟨v,h1,h2⟩:=hR.get t d hd
      exact⟨v,h1,h2.mono hx⟩
    obtain⟨κ',h1,h2,h3,h4,h5⟩:=lA r _ (κ.jg e) (Ut hI On) hR'
    exact⟨κ',h1,h2,h3,hx.trans h4,h5⟩
  ·exact lA r fr κ hI hR
 | .cell b i e::r,fr,κ,hI,hR=>by
  unfold gh
  split
  ·rename_i l hl
   cases he:Nat.blt 0 e.size with
   | false=>rw[cond_false]; exact lA r fr κ hI hR
   | true =>
    rw[cond_true]
    have On:0<e.size:=Nat.le_of_ble_eq_true he
    obtain⟨κ1,g1,g2,g3,g4⟩:=IG hI On hl
    obtain⟨κ',h1,h2,h3,h4,h5⟩:=lA r fr κ1 g3 ⟨hR.size,hR.defers,λt d hd=>by
     obtain⟨v,q1,q2⟩:=hR.get t d hd
     exact⟨v,q1,q2.mono g4⟩⟩
    rw[g2]at h2 h5
    exact⟨κ',h1.trans g1,h2,h3,g4.trans h4,h5⟩
  ·exact lA r fr κ hI hR
 | .pcell t i e::r,fr,κ,hI,hR=>by
  unfold gh
  split
  ·rename_i b off hb
   split
   ·rename_i l hl
    cases he:Nat.blt 0 e.size with
    | false=>rw[cond_false]; exact lA r fr κ hI hR
    | true =>
     have On:0<e.size:=Nat.le_of_ble_eq_true he
     obtain⟨κ1,g1,g2,g3,g4⟩:=IG hI On hl
     obtain⟨κ',h1,h2,h3,h4,h5⟩:=lA r fr κ1 g3 ⟨hR.size,hR.defers,λt d hd=>by
      obtain⟨v,q1,q2⟩:=hR.get t d hd
      exact⟨v,q1,q2.mono g4⟩⟩
     rw[g2]at h2 h5
     exact⟨κ',h1.trans g1,h2,h3,g4.trans h4,h5⟩
   ·exact lA r fr κ hI hR
  ·exact lA r fr κ hI hR
end
end Go.AM
namespace Go.AM
def rQ(f:Nat->Option Nat)(d:D):Option D:=match d with
 | .ptr b off=>match f b with | some b'=>some (.ptr b' off) | none=>none
 | .kS b T=>match f b with | some b'=>some (.kS b' T) | none=>none
 | .uk b v e i off=>match f b with | some b'=>some (.uk b' v e i off) | none=>none
 | .ms b v e off len=>match f b with | some b'=>some (.ms b' v e off len) | none=>none
 | .qN _ _=>none
 | .agg _=>none
 | .yH _=>none
 | .iface _ _=>none
 | d=>some d
def Hn(f:Nat->Option Nat):List D->Option (List D)
 | []=>some []
 | d::r=>match rQ f d with
  | some d'=>match Hn f r with | some r'=>some (d'::r') | none=>none
  | none=>none
def ny(f:Nat->Option Nat)(d:D):Option D:=match d with
 | .qN g l=>match Hn f l with | some l'=>some (.qN g l') | none=>none
 | .agg l=>match Hn f l with | some l'=>some (.agg l') | none=>none
 | d=>rQ f d
def Xl(f:Nat->Option Nat):List D->Option (List D)
 | []=>some []
 | d::r=>match ny f d with
  | some d'=>match Xl f r with | some r'=>some (d'::r') | none=>none
  | none=>none
def Wc(f:Nat->Option Nat):kE->Option kE
 | .var d=>match ny f d with | some d'=>some (.var d') | none=>none
 | .arr v e xs=>some (.arr v e xs)
 | .dead=>some .dead
def nf(f:Nat->Option Nat):List kE->Option (List kE)
 | []=>some []
 | b::r=>match Wc f b with
  | some b'=>match nf f r with | some r'=>some (b'::r') | none=>none
  | none=>none
def sz(f:Nat->Option Nat):Fr->Fr
 | []=>[]
 | (s,some d)::r=>(s,ny f d)::sz f r
 | (s,none)::r=>(s,none)::sz f r
structure Tr(κ κ':KS)(f:Nat->Option Nat):Prop where
 w:κ'.w=κ.w
 ok:κ'.ok=κ.ok
 var:∀ (b b':Nat) (d:D),f b=some b'->κ.st[b]? = some (.var d)->(∃ d',κ'.st[b']? = some (.var d'))/\κ'.ph[b']? = κ.ph[b]?
 old:∀ (b b' qB:Nat),f b=some b'->Old κ.st b qB->Old κ'.st b' qB
 row:∀ (b b' v:Nat) (e:Ty) (xs:List (den e)),f b=some b'->κ'.st[b']? = some (.arr v e xs)->κ.st[b]? = some (.arr v e xs)/\κ'.ph[b']? = κ.ph[b]?
section
variable {κ κ':KS} {f:Nat->Option Nat}
theorem Tr.same(h:Tr κ κ' f):ED κ.w κ'.w κ.ok κ'.ok:=λk hk=>⟨by rw[h.ok]; exact hk,by rw[h.w]⟩
theorem Tr.rd1(h:Tr κ κ' f){d d':D}{v:Value}(hd:RD κ d v)(hr:rQ f d=some d'):RD κ' d' v:=by
 cases hd with
 | zI τ y cs hc=>cases hr; exact .zI τ y cs (hc.mono h.same)
 | xi e a=>cases hr; exact .xi e a
 | tight e l ne blk off g vT wm hh hc=>cases hr; exact .tight e l ne blk off g vT (h.same _ wm).1 (λi hi=>(hh i hi).mono h.same) λi hi j v hv=>by rw[bH (h.same _ wm).2]; exact hc i hi j v hv
 | xy=>cases hr; exact .xy
 | y9=>cases hr; exact .y9
 | qX=>cases hr; exact .qX
 | vW=>cases hr; exact .vW
 | vX=>cases hr; exact .vX
 | rZ v h=>cases hr; exact .rZ v h
 | cj T=>cases hr; exact .cj T
 | cq b T d hb =>
  simp only[rQ]at hr
  split at hr
  ·rename_i b' hf
   cases hr
   obtain⟨⟨d',h1⟩,h2⟩:=h.var b b' d hf hb
   exact .cq b' T d' h1
  ·cases hr
 | cE b T blk n d hb hp =>
  simp only[rQ]at hr
  split at hr
  ·rename_i b' hf
   cases hr
   obtain⟨⟨d',h1⟩,h2⟩:=h.var b b' d hf hb
   exact .cE b' T blk n d' h1 (h2.trans hp)
  ·cases hr
 | ptr b off blk n d hb hp =>
  simp only[rQ]at hr
  split at hr
  ·rename_i b' hf
   cases hr
   obtain⟨⟨d',h1⟩,h2⟩:=h.var b b' d hf hb
   exact .ptr b' off blk n d' h1 (h2.trans hp)
  ·cases hr
 | qU τ y cs blk off wm hh hc=>cases hr; exact .qU τ y cs blk off (h.same _ wm).1 (hh.mono h.same) λj v hv=>by rw[bH (h.same _ wm).2]; exact hc j v hv
 | uk b qB e idx off blk o hb hh =>
  simp only[rQ]at hr
  split at hr
  ·rename_i b' hf
   cases hr
   refine .uk b' qB e idx off blk o (h.old b b' qB hf hb) λxs hx hi => ?_
   obtain⟨h1,h2⟩:=h.row b b' qB e xs hf hx
   grind
  ·cases hr
 | ms b qB e off len cap a hb vc ha nN hh =>
  simp only[rQ]at hr
  split at hr
  ·rename_i b' hf
   cases hr
   refine .ms b' qB e off len cap a (h.old b b' qB hf hb) vc ha nN λxs hx => ?_
   obtain⟨h1,h2⟩:=h.row b b' qB e xs hf hx
   have:=hh xs h1
   unfold Ih at this ⊢
   grind
  ·cases hr
 | qN g l vs hl hh=>cases hr
 | agg l vs hl ho hh=>cases hr
 | yH l vs hl hh=>cases hr
 | iface t d v hh=>cases hr
theorem S0{d d':D}(h:rQ f d=some d'):d'.one=d.one:=by
 cases d<;>simp only[rQ]at h<;>first | (cases h; rfl) | (split at h<;>cases h; rfl) | cases h
theorem Tr.rdL(h:Tr κ κ' f):∀ {l l':List D} {vs:List Value},qH κ l vs->Hn f l=some l'->qH κ' l' vs
 | [],l',vs,hd,hr=>by cases hr; rw[hd.qf]; exact .nil
 | d::r,l',vs,hd,hr=>by
  simp only[Hn]at hr
  split at hr
  ·rename_i d' h1
   split at hr
   ·rename_i r' h2
    cases hr
    obtain⟨v,us,rfl,g1,g2⟩:=hd.cons_inv
    exact .cons (h.rd1 g1 h1) (h.rdL g2 h2)
   ·cases hr
  ·cases hr
theorem V3:∀ {l l':List D},Hn f l=some l'->(∀ d∈l,d.one=true)->∀ d∈l',d.one=true
 | [],l',hr,_=>by cases hr; nofun
 | d::r,l',hr,ho=>by
  simp only[Hn]at hr
  split at hr
  ·rename_i d' h1
   split at hr
   ·rename_i r' h2
    cases hr
    intro x hx
    rcases List.mem_cons.1 hx with rfl | hx
    ·rw[S0 h1]; exact ho d List.mem_cons_self
    ·exact V3 h2 (λy hy=>ho y (List.mem_cons_of_mem _ hy)) x hx
   ·cases hr
  ·cases hr
theorem Tr.rd(h:Tr κ κ' f){d d':D}{v:Value}(hd:RD κ d v)(hr:ny f d=some d'):RD κ' d' v:=by
 cases d with
 | qN g l =>
  simp only[ny]at hr
  split at hr
  ·rename_i l' hl
   cases hr
   cases hd with
   | qN _ _ vs h1 h2=>have:=h.rdL (⟨h1,h2⟩:qH κ l vs) hl; exact .qN g l' vs this.1 this.2
  ·cases hr
 | agg l =>
  simp only[ny]at hr
  split at hr
  ·rename_i l' hl
   cases hr
   cases hd with
   | agg _ vs h1 ho h2=>have:=h.rdL (⟨h1,h2⟩:qH κ l vs) hl; exact .agg l' vs this.1 (V3 hl ho) this.2
  ·cases hr
 | _=>exact h.rd1 hd hr
theorem Tr.rds(h:Tr κ κ' f):∀ {l l':List D} {vs:List Value},qH κ l vs->Xl f l=some l'->qH κ' l' vs
 | [],l',vs,hd,hr=>by cases hr; rw[hd.qf]; exact .nil
 | d::r,l',vs,hd,hr=>by
  simp only[Xl]at hr
  split at hr
  ·rename_i d' h1
   split at hr
   ·rename_i r' h2
    cases hr
    obtain⟨v,us,rfl,g1,g2⟩:=hd.cons_inv
    exact .cons (h.rd g1 h1) (h.rds g2 h2)
   ·cases hr
  ·cases hr
theorem Tr.flat(h:Tr κ κ' f){d d':D}{vs:List Value}(hd:qH κ (qg d) vs)(ho:∀ x∈qg d,x.one=true)(hr:ny f d=some d'):qH κ' (qg d') vs/\∀ x∈qg d',x.one=true:=by
 have zI:∀ (τ:Ty) (x:den τ) (vs:List Value),qH κ (Go.AM.flat τ x) vs->qH κ' (Go.AM.flat τ x) vs:=by
  intro τ x vs hh
  refine⟨hh.1,λi h1 h2 => ?_⟩
  have hm:=List.getElem_mem h1
  have:∃ σ z,(Go.AM.flat τ x)[i]=.zI σ z:=by
   generalize (Go.AM.flat τ x)[i]=y at hm
   clear hh h1 h2
   induction τ with
   | cons a b ia ib =>
    simp only[Go.AM.flat,List.mem_append]at hm
    grind
   | nil=>simp[Go.AM.flat]at hm
   | expr=>simp[Go.AM.flat]at hm; rcases hm with rfl | rfl | rfl | rfl | rfl | rfl<;>exact⟨_,_,rfl⟩
   | _=>simp[Go.AM.flat]at hm; subst hm; exact⟨_,_,rfl⟩
  obtain⟨σ,z,e⟩:=this
  have h3:=hh.2 i h1 h2
  rw[e]at h3 ⊢
  exact h.rd1 h3 rfl
 cases d with
 | zI τ x=>cases hr; exact⟨zI τ x vs hd,ho⟩
 | agg l =>
  simp only[ny]at hr
  split at hr
  ·rename_i l' hl
   cases hr
   exact⟨h.rdL hd hl,V3 hl ho⟩
  ·cases hr
 | yH l=>cases hr
 | qN g l =>
  obtain⟨v,r,rfl,h1,h2⟩:=qH.cons_inv (show qH κ [.qN g l] vs from hd)
  rw[h2.qf]
  have hr':=hr
  simp only[ny]at hr
  split at hr
  ·cases hr; exact⟨.cons (h.rd h1 hr') .nil,λx hx=>by simp only[qg,List.mem_singleton]at hx; subst hx; rfl⟩
  ·cases hr
 | iface t x=>cases hr
 | ptr b off =>
  obtain⟨v,r,rfl,h1,h2⟩:=qH.cons_inv (show qH κ [.ptr b off] vs from hd)
  rw[h2.qf]
  have hr':=hr
  simp only[ny,rQ]at hr
  split at hr
  ·cases hr; exact⟨.cons (h.rd1 h1 hr') .nil,λx hx=>by simp only[qg,List.mem_singleton]at hx; subst hx; rfl⟩
  ·cases hr
 | kS b T =>
  obtain⟨v,r,rfl,h1,h2⟩:=qH.cons_inv (show qH κ [.kS b T] vs from hd)
  rw[h2.qf]
  have hr':=hr
  simp only[ny,rQ]at hr
  split at hr
  ·cases hr; exact⟨.cons (h.rd1 h1 hr') .nil,λx hx=>by simp only[qg,List.mem_singleton]at hx; subst hx; rfl⟩
  ·cases hr
 | uk b qB e idx off =>
  obtain⟨v,r,rfl,h1,h2⟩:=qH.cons_inv (show qH κ [.uk b qB e idx off] vs from hd)
  rw[h2.qf]
  have hr':=hr
  simp only[ny,rQ]at hr
  split at hr
  ·cases hr; exact⟨.cons (h.rd1 h1 hr') .nil,λx hx=>by simp only[qg,List.mem_singleton]at hx; subst hx; rfl⟩
  ·cases hr
 | ms b qB e off len =>
  obtain⟨v,r,rfl,h1,h2⟩:=qH.cons_inv (show qH κ [.ms b qB e off len] vs from hd)
  rw[h2.qf]
  have hr':=hr
  simp only[ny,rQ]at hr
  split at hr
  ·cases hr; exact⟨.cons (h.rd1 h1 hr') .nil,λx hx=>by simp only[qg,List.mem_singleton]at hx; subst hx; rfl⟩
  ·cases hr
 | _ =>
  cases hr
  obtain⟨v,r,rfl,h1,h2⟩:=qH.cons_inv hd
  rw[h2.qf]
  exact⟨.cons (h.rd1 h1 rfl) .nil,ho⟩
theorem EI{f:Nat->Option Nat}{d d':D}{tt:Nat}(h:ny f d=some d')(ht:d'.typed=some tt):d.typed=some tt:=by
 cases d with
 | agg l =>
  simp only[ny]at h
  split at h
  ·rename_i l' hl
   cases h
   cases l with
   | nil=>cases hl; cases ht
   | cons x r =>
    simp only[Hn]at hl
    split at hl
    ·rename_i x' hx
     split at hl
     ·cases hl
      cases x<;>simp only[rQ]at hx<;>first
       | (cases hx; exact ht)
       | (split at hx<;>first | (cases hx; exact ht) | cases hx)
       | cases hx
     ·cases hl
    ·cases hl
  ·cases h
 | qN g l =>
  simp only[ny]at h
  split at h
  ·cases h; cases ht
  ·cases h
 | _ =>
  simp only[ny,rQ]at h
  first
   | (cases h; cases ht)
   | (split at h<;>first | (cases h; cases ht) | cases h)
   | cases h
theorem Tr.blk[rM](h:Tr κ κ' f){b b':Nat}(hp:κ'.ph[b']? = κ.ph[b]?){y y':kE}(hy:dR κ b y)(hr:Wc f y=some y'):dR κ' b' y':=by
 cases y with
 | dead=>cases hr; trivial
 | var d =>
  simp only[Wc]at hr
  split at hr
  ·rename_i d' hd
   cases hr
   obtain⟨blk,n,cs,t,h1,h2,h3,h4,h5⟩:=hy
   obtain⟨g1,g2⟩:=h.flat h4 h5.1 hd
   exact⟨blk,n,cs,t,hp.trans h1,by rw[h.w]; exact h2,h3,g1,g2,λT hT=>h5.2 T (EI hd hT)⟩
  ·cases hr
 | arr qB e xs =>
  cases hr
  obtain⟨h0,hh⟩:=hy
  refine⟨h0,eP hh (λh=>⟨h.1,hp.trans h.2⟩) ?_⟩
  rintro⟨blk,n,cs,t,h1,h2,h3,h4,hr,g,h5⟩
  exact⟨blk,n,cs,t,hp.trans h1,by rw[h.w]; exact h2,h3,h4,hr,g,λi hi=>⟨(h5 i hi).1.mono h.same,(h5 i hi).2⟩⟩
theorem rK{f:Nat->Option Nat}:∀ {fr:Fr} {s:Nat} {d':D},(sz f fr).get s=some d'->∃ d,fr.get s=some d/\ny f d=some d'
 | [],s,d',h=>by cases h
 | (t,some d)::r,s,d',h=>by
  simp only[sz,Fr.get]at h ⊢
  cases ht:Nat.beq t s with
  | true=>grind
  | false=>rw[ht,cond_false]at h; simp; exact rK h
 | (t,none)::r,s,d',h=>by
  simp only[sz,Fr.get]at h ⊢
  cases ht:Nat.beq t s with
  | true=>grind
  | false=>rw[ht,cond_false]at h; simp; exact rK h
end
def pos:List Nat->Nat->Option Nat
 | [],_=>none
 | b::r,i=>bif Nat.beq b i then some 0 else match pos r i with | some j=>some (j+1) | none=>none
def yI:List Nat->Bool
 | []=>true
 | b::r=>(match pos r b with | none=>true | some _=>false)&&yI r
theorem fZ:∀ {mp:List Nat} {i j:Nat},pos mp i=some j->mp[j]? = some i
 | [],i,j,h=>by cases h
 | b::r,i,j,h=>by
  simp only[pos]at h
  cases hb:Nat.beq b i with
  | true=>rw[hb,cond_true]at h; cases h; rw[Nat.eq_of_beq_eq_true hb]; rfl
  | false =>
   rw[hb,cond_false]at h
   split at h
   ·rename_i k hk; cases h; simpa using fZ hk
   ·cases h
theorem mF:∀ {mp:List Nat} {i j:Nat},yI mp=true->mp[j]? = some i->pos mp i=some j
 | [],i,j,_,h=>by simp at h
 | b::r,i,j,hn,h=>by
  simp only[yI,Bool.and_eq_true]at hn
  cases j with
  | zero=>simp at h; subst h; simp only[pos]; rw[Nat.beq_refl]; rfl
  | succ j =>
   have h':r[j]? = some i:=by simpa using h
   have hp:=mF hn.2 h'
   have vT:Nat.beq b i=false:=by
    cases hb:Nat.beq b i with
    | false=>rfl
    | true =>
     have:=Nat.eq_of_beq_eq_true hb
     grind
   simp only[pos,vT,cond_false,hp]
def fH{α:Type}(l:List α):List Nat->Option (List α)
 | []=>some []
 | b::r=>match l[b]? with
  | some x=>match fH l r with | some y=>some (x::y) | none=>none
  | none=>none
theorem QA{α:Type}{l:List α}:∀ {mp:List Nat} {r:List α},fH l mp=some r->r.length=mp.length/\∀ (j b:Nat),mp[j]? = some b->r[j]? = l[b]? /\ b<l.length
 | [],r,h=>by cases h; exact⟨rfl,λj b hj=>by grind⟩
 | b::mp,r,h=>by
  simp only[fH]at h
  split at h
  ·rename_i x hx
   split at h
   ·rename_i y hy
    obtain⟨h1,h2⟩:=QA hy
    grind
   ·cases h
  ·cases h
theorem QH{f:Nat->Option Nat}:∀ {l r:List kE},nf f l=some r->r.length=l.length/\∀ (j:Nat) (x:kE),l[j]? = some x->∃ y,r[j]? = some y/\Wc f x=some y
 | [],r,h=>by cases h; exact⟨rfl,λj x hj=>by grind⟩
 | b::l,r,h=>by
  simp only[nf]at h
  split at h
  ·rename_i b' hb
   split at h
   ·rename_i r' hr
    obtain⟨h1,h2⟩:=QH hr
    grind
   ·cases h
  ·cases h
def o0{α:Type}(mp:List Nat)(new:List α):Nat->List α->List α
 | _,[]=>[]
 | i,x::r=>(match pos mp i with | some j=>(match new[j]? with | some y=>y | none=>x) | none=>x)::o0 mp new (i+1) r
def we{α:Type}(mp:List Nat)(old new:List α):List α:=o0 mp new 0 old++new.drop mp.length
theorem uP{α:Type}(mp:List Nat)(new:List α):∀ (l:List α) (i:Nat),(o0 mp new i l).length=l.length
 | [],_=>rfl
 | x::r,i=>by simp[o0,uP mp new r (i+1)]
theorem sU{α:Type}(mp:List Nat)(new:List α):∀ (l:List α) (i k:Nat),(o0 mp new i l)[k]? = (l[k]?).map λx=>match pos mp (i+k)with | some j=>(match new[j]? with | some y=>y | none=>x) | none=>x
 | [],i,k=>by simp[o0]
 | x::r,i,0=>by simp[o0]
 | x::r,i,k+1=>by
  have:=sU mp new r (i+1) k
  simp only[o0]
  grind
def fwd(mp:List Nat)(n:Nat)(j:Nat):Nat:=match mp[j]? with | some b=>b | none=>n+(j-mp.length)
theorem iF{α:Type}{mp:List Nat}{old new:List α}{i:Nat}(hi:i<old.length)(hp:pos mp i=none):(we mp old new)[i]? = old[i]? := by
 unfold we
 rw[List.getElem?_append_left (by rw[uP]; exact hi),sU,Nat.zero_add,hp]
 simp
theorem HQ{α:Type}{mp:List Nat}{old new:List α}(hn:yI mp=true)(qy:∀ (j b:Nat),mp[j]? = some b->b<old.length)(hlen:mp.length<=new.length){j:Nat}(hj:j<new.length):(we mp old new)[fwd mp old.length j]? = new[j]? := by
 unfold we fwd
 cases hm:mp[j]? with
 | some b =>
  have hb:=qy j b hm
  rw[List.getElem?_append_left (by rw[uP]; exact hb),sU,Nat.zero_add,mF hn hm]
  grind
 | none =>
  simp only
  rw[List.getElem?_append_right (by rw[uP]; omega),uP,List.getElem?_drop]
  grind
theorem DB{α:Type}{mp:List Nat}{old new:List α}(qy:∀ (j b:Nat),mp[j]? = some b->b<old.length)(hlen:mp.length<=new.length){i:Nat}(hi:i<(we mp old new).length) :
  (i<old.length/\pos mp i=none)\/∃ j,j<new.length/\i=fwd mp old.length j:=by
 by_cases h:i<old.length
 ·cases hp:pos mp i with
  | none=>grind
  | some j =>
   have:=fZ hp
   have hj:=(List.getElem?_eq_some_iff.1 this).1
   exact .inr ⟨j,by omega,by unfold fwd; rw[this]⟩
 ·have hl:i<old.length+(new.length-mp.length):=by simpa[we,uP]using hi
  refine .inr ⟨mp.length+(i-old.length),by omega,?_⟩
  unfold fwd
  grind
end Go.AM
namespace Go.AM
set_option linter.unusedSectionVars false
variable [vU]
open Go.RowKit
section
variable {κ:KS} {mp:List Nat}
theorem E8{hO l:List kE}{p1:List (Option (Nat×Nat))}(hI:Inv κ)(hn:yI mp=true)(hp:fH κ.ph mp=some p1)(hl:fH κ.st mp=some l)(hr:nf (pos mp) l=some hO) :
  Inv ⟨κ.w,κ.ok,p1,hO⟩/\Tr κ ⟨κ.w,κ.ok,p1,hO⟩ (pos mp)/\hO.length=mp.length/\p1.length=mp.length/\∀ (j b:Nat),mp[j]? = some b->p1[j]? = κ.ph[b]? /\ ∃ x y:kE,κ.st[b]? = some x/\Wc (pos mp) x=some y/\hO[j]? = some y:=by
 obtain⟨a1,a2⟩:=QA hp
 obtain⟨b1,b2⟩:=QA hl
 obtain⟨c1,c2⟩:=QH hr
 have key:∀ (j b:Nat),mp[j]? = some b->p1[j]? = κ.ph[b]? /\ ∃ x y:kE,κ.st[b]? = some x/\Wc (pos mp) x=some y/\hO[j]? = some y:=by
  grind
 have at':∀ {j:Nat} {y:kE},hO[j]? = some y->∃ b,mp[j]? = some b:=λh=>by
  have:=(List.getElem?_eq_some_iff.1 h).1
  exact⟨_,List.getElem?_eq_getElem (by omega)⟩
 have hT:Tr κ ⟨κ.w,κ.ok,p1,hO⟩ (pos mp):=by
  refine⟨rfl,rfl,λb j d hf hb => ?_,λb j qB hf ho => ?_,λb j v e xs hf hb => ?_⟩
  ·obtain⟨h1,x,y,h2,h3,h4⟩:=key j b (fZ hf)
   rw[hb]at h2
   cases h2
   simp only[Wc]at h3
   grind
  ·obtain⟨h1,x,y,h2,h3,h4⟩:=key j b (fZ hf)
   rcases ho with ho | ⟨v0,e0,sJ,ho,hv⟩
   ·rw[ho]at h2; cases h2; cases h3; exact .inl h4
   ·rw[ho]at h2; cases h2; cases h3; exact .inr ⟨v0,e0,sJ,h4,hv⟩
  ·obtain⟨h1,x,y,h2,h3,h4⟩:=key j b (fZ hf)
   rw[show hO[j]? = some (.arr v e xs)from hb]at h4
   cases h4
   cases x with
   | dead=>cases h3
   | var d=>simp only[Wc]at h3; split at h3<;>cases h3
   | arr v0 e0 sJ=>cases h3; exact⟨h2,h1⟩
 refine⟨⟨by show p1.length=hO.length; omega,hI.yr,λj blk n h => ?_,λj j' blk n n' h h' => ?_,λj y h => ?_,hI.gl⟩,hT,by omega,a1,key⟩
 ·obtain⟨b,hb⟩:∃ b,mp[j]? = some b:=⟨_,List.getElem?_eq_getElem (by have:j<p1.length:=(List.getElem?_eq_some_iff.1 h).1; omega)⟩
  exact hI.apart b blk n ((a2 j b hb).1.symm.trans h)
 ·obtain⟨b,hb⟩:∃ b,mp[j]? = some b:=⟨_,List.getElem?_eq_getElem (by have:j<p1.length:=(List.getElem?_eq_some_iff.1 h).1; omega)⟩
  obtain⟨b',G5⟩:∃ b,mp[j']? = some b:=⟨_,List.getElem?_eq_getElem (by have:j'<p1.length:=(List.getElem?_eq_some_iff.1 h').1; omega)⟩
  have:=hI.inj b b' blk n n' ((a2 j b hb).1.symm.trans h) ((a2 j' b' G5).1.symm.trans h')
  subst this
  exact Option.some.inj ((mF hn hb).symm.trans (mF hn G5))
 ·obtain⟨b,hb⟩:=at' h
  obtain⟨h1,x,y',h2,h3,h4⟩:=key j b hb
  rw[show hO[j]? = some y from h]at h4
  cases h4
  exact hT.blk h1 (hI.blk b x h2) h3
theorem Yn{κ1:KS}{hO jr l:List kE}{p1:List (Option (Nat×Nat))}(hI:Inv κ)(hn:yI mp=true)(hp:fH κ.ph mp=some p1)(hl:fH κ.st mp=some l)(hr:nf (pos mp) l=some hO)
  (Qs:Inv κ1) (hx:Ext ⟨κ.w,κ.ok,p1,hO⟩ κ1) (hr2:nf (λj=>some (fwd mp κ.st.length j)) κ1.st=some jr) :
  ∃ κ':KS,κ'.w=κ1.w/\κ'.st=we mp κ.st jr/\Inv κ'/\Ext κ κ'/\Tr κ1 κ' (λj=>some (fwd mp κ.st.length j)):=by
 obtain⟨hIs,hTs,s1,s2,key⟩:=E8 hI hn hp hl hr
 obtain⟨r1,r2⟩:=QH hr2
 have qy:∀ (j b:Nat),mp[j]? = some b->b<κ.st.length:=λj b hj=>by obtain⟨_,x,_,h,_⟩:=key j b hj; exact(List.getElem?_eq_some_iff.1 h).1
 have zdA:∀ (j b:Nat),mp[j]? = some b->b<κ.ph.length:=λj b hj=>by rw[hI.len]; exact qy j b hj
 have hm1:mp.length<=κ1.st.length:=by have:=hx.C1; simp only at this; omega
 have Hp:mp.length<=jr.length:=by omega
 have PH:mp.length<=κ1.ph.length:=by rw[Qs.len]; exact hm1
 let fw:=fwd mp κ.st.length
 have hlen:(we mp κ.ph κ1.ph).length=(we mp κ.st jr).length:=by simp[we,uP,hI.len,Qs.len,r1]
 -- what lies where
 have cst:∀ {j:Nat} {x:kE},κ1.st[j]? = some x->∃ y,(we mp κ.st jr)[fw j]? = some y/\Wc (λj=>some (fw j)) x=some y:=by
  intro j x hj
  obtain⟨y,h1,h2⟩:=r2 j x hj
  exact⟨y,by rw[HQ hn qy Hp (by rw[r1]; exact(List.getElem?_eq_some_iff.1 hj).1)]; exact h1,h2⟩
 have cph:∀ {j:Nat},j<κ1.st.length->(we mp κ.ph κ1.ph)[fw j]? = κ1.ph[j]? := by
  intro j hj
  have:=HQ (old:=κ.ph) (new:=κ1.ph) hn zdA PH (j:=j) (by rw[Qs.len]; exact hj)
  rw[hI.len]at this
  exact this
 have ust:∀ {i:Nat},i<κ.st.length->pos mp i=none->(we mp κ.st jr)[i]? = κ.st[i]? := λhi h=>iF hi h
 have uph:∀ {i:Nat},i<κ.st.length->pos mp i=none->(we mp κ.ph κ1.ph)[i]? = κ.ph[i]? := λhi h=>iF (by rw[hI.len]; exact hi) h
 have Qw:∀ {i:Nat},i<(we mp κ.st jr).length->(i<κ.st.length/\pos mp i=none)\/∃ j,j<κ1.st.length/\i=fw j:=by
  intro i hi
  rcases DB qy Hp hi with h | ⟨j,h1,h2⟩
  ·grind
  ·grind
 have MM:∀ {j b:Nat},mp[j]? = some b->fw j=b:=λh=>by simp only[fw,fwd,h]
 have zic:∀ {j:Nat},mp[j]? = none->κ.st.length<=fw j:=λh=>by simp only[fw,fwd,h]; omega
 -- the part's own blocks
 have sph:∀ {j:Nat} {q:Nat×Nat},p1[j]? = some (some q)->∃ b,mp[j]? = some b/\κ.ph[b]? = some (some q):=by
  intro j q h
  have hj:=(List.getElem?_eq_some_iff.1 h).1
  obtain⟨b,hb⟩:∃ b,mp[j]? = some b:=⟨_,List.getElem?_eq_getElem (by omega)⟩
  grind
 have hT:Tr κ1 ⟨κ1.w,κ1.ok,we mp κ.ph κ1.ph,we mp κ.st jr⟩ (λj=>some (fw j)):=by
  refine⟨rfl,rfl,λj b d hf hj => ?_,λj b qB hf ho => ?_,λj b v e xs hf hb => ?_⟩
  ·cases hf
   obtain⟨y,h1,h2⟩:=cst hj
   simp only[Wc]at h2
   grind
  ·cases hf
   rcases ho with ho | ⟨v0,e0,sJ,ho,hv⟩
   ·obtain⟨y,h1,h2⟩:=cst ho; cases h2; exact .inl h1
   ·obtain⟨y,h1,h2⟩:=cst ho; cases h2; exact .inr ⟨v0,e0,sJ,h1,hv⟩
  ·cases hf
   have hb:(we mp κ.st jr)[fw j]? = some (.arr v e xs):=hb
   have GX:=(List.getElem?_eq_some_iff.1 hb).1
   have hj:j<κ1.st.length:=by
    by_cases hj:j<κ1.st.length
    ·exact hj
    ·exfalso
     cases hm:mp[j]? with
     | some c=>have:=(List.getElem?_eq_some_iff.1 hm).1; omega
     | none =>
      have h3:fw j=κ.st.length+(j-mp.length):=by simp only[fw,fwd,hm]
      have h4:(we mp κ.st jr).length=κ.st.length+(jr.length-mp.length):=by simp[we,uP]
      omega
   obtain⟨y,h1,h2⟩:=cst (List.getElem?_eq_getElem hj)
   rw[hb]at h1
   cases h1
   refine⟨?_,cph hj⟩
   rw[List.getElem?_eq_getElem hj]
   generalize κ1.st[j]=x at h2
   cases x with
   | dead=>cases h2
   | var d=>simp only[Wc]at h2; split at h2<;>cases h2
   | arr v0 e0 sJ=>cases h2; rfl
 -- KO blocks lie as they lay
 have KO:∀ {i blk n:Nat},pos mp i=none->κ.ph[i]? = some (some (blk,n))->κ1.w.heap[blk]? = κ.w.heap[blk]? := by
  intro i blk n hi h
  obtain⟨g1,g2⟩:=hI.apart i blk n h
  refine hx.frame blk g1 λj m hj => ?_
  obtain⟨b,ID,By⟩:=sph hj
  have:=hI.inj i b blk n m h By
  subst this
  rw[mF hn ID]at hi
  cases hi
 have hE:Ext κ ⟨κ1.w,κ1.ok,we mp κ.ph κ1.ph,we mp κ.st jr⟩:=by
  refine⟨hx.os,hx.tape,hx.output,hx.size,hx.same,λk hk => ?_,λi blk n h => ?_,λi d hi => ?_,λi v0 e sJ hi => ?_,λi hi => ?_,?_,λk hk yA => ?_⟩
  ·rcases hx.fresh k hk with h | h | ⟨j,n,h⟩
   ·exact .inl h
   ·exact .inr (.inl h)
   ·obtain⟨b,_,hb⟩:=sph h; exact .inr (.inr ⟨b,n,hb⟩)
  ·have h:(we mp κ.ph κ1.ph)[i]? = some (some (blk,n)):=h
   have Ja:i<(we mp κ.st jr).length:=by rw[<- hlen]; exact(List.getElem?_eq_some_iff.1 h).1
   rcases Qw Ja with⟨h1,h2⟩ | ⟨j,h1,rfl⟩
   ·rw[uph h1 h2]at h; exact .inl h
   ·rw[cph h1]at h
    rcases hx.Tz j blk n h with h3 | h3
    ·obtain⟨b,ID,By⟩:=sph h3
     rw[MM ID]; exact .inl By
    ·exact .inr h3
  ·have M5:=(List.getElem?_eq_some_iff.1 hi).1
   cases GQ:pos mp i with
   | none=>exact⟨⟨d,(ust M5 GQ).trans hi⟩,uph M5 GQ⟩
   | some j =>
    have Ti:=fZ GQ
    obtain⟨k1,x,y,k2,k3,k4⟩:=key j i Ti
    rw[hi]at k2
    cases k2
    simp only[Wc]at k3
    split at k3
    ·cases k3
     obtain⟨⟨d',g1⟩,g2⟩:=hx.var j _ k4
     obtain⟨⟨d'',q1⟩,q2⟩:=hT.var j (fw j) d' rfl g1
     rw[MM Ti]at q1 q2
     exact⟨⟨d'',q1⟩,q2.trans (g2.trans k1)⟩
    ·cases k3
  ·have M5:=(List.getElem?_eq_some_iff.1 hi).1
   cases GQ:pos mp i with
   | none=>exact .inr ⟨v0,sJ,(ust M5 GQ).trans hi,Nat.le_refl _,λ_=>⟨uph M5 GQ,rfl⟩⟩
   | some j =>
    have Ti:=fZ GQ
    obtain⟨k1,x,y,k2,k3,k4⟩:=key j i Ti
    rw[hi]at k2
    cases k2
    cases k3
    rcases hx.arr j v0 e sJ k4 with g | ⟨v1,bg,g1,g2,g3⟩
    ·obtain⟨y,q1,q2⟩:=cst g
     cases q2
     rw[MM Ti]at q1
     exact .inl q1
    ·obtain⟨y,q1,q2⟩:=cst g1
     cases q2
     rw[MM Ti]at q1
     refine .inr ⟨v1,bg,q1,g2,λhe=>⟨?_,(g3 he).2⟩⟩
     have h4:=cph (List.getElem?_eq_some_iff.1 g1).1
     rw[MM Ti]at h4
     exact h4.trans ((g3 he).1.trans k1)
  ·have M5:=(List.getElem?_eq_some_iff.1 hi).1
   cases GQ:pos mp i with
   | none=>exact(ust M5 GQ).trans hi
   | some j =>
    have Ti:=fZ GQ
    obtain⟨k1,x,y,k2,k3,k4⟩:=key j i Ti
    rw[hi]at k2
    cases k2
    cases k3
    obtain⟨y,q1,q2⟩:=cst (hx.dead j k4)
    cases q2
    rw[MM Ti]at q1
    exact q1
  ·show κ.st.length<=(we mp κ.st jr).length
   simp[we,uP]
  ·exact hx.frame k hk λj n hj=>by obtain⟨b,_,hb⟩:=sph hj; exact yA b n hb
 refine⟨⟨κ1.w,κ1.ok,we mp κ.ph κ1.ph,we mp κ.st jr⟩,rfl,rfl,⟨hlen,Qs.yr,λi blk n h => ?_,λi i' blk n n' h h' => ?_,λi y h => ?_,Qs.gl⟩,hE,hT⟩
 ·have h:(we mp κ.ph κ1.ph)[i]? = some (some (blk,n)):=h
  have Ja:i<(we mp κ.st jr).length:=by rw[<- hlen]; exact(List.getElem?_eq_some_iff.1 h).1
  rcases Qw Ja with⟨h1,h2⟩ | ⟨j,h1,rfl⟩
  ·rw[uph h1 h2]at h
   obtain⟨g1,g2⟩:=hI.apart i blk n h
   refine⟨Nat.lt_of_lt_of_le g1 hx.size,λhk => ?_⟩
   rcases hx.fresh blk hk with hk | hk | ⟨j,m,hj⟩
   ·exact g2 hk
   ·simp only at hk; omega
   ·obtain⟨b,ID,By⟩:=sph hj
    have:=hI.inj i b blk n m h By
    subst this
    rw[mF hn ID]at h2
    cases h2
  ·rw[cph h1]at h
   exact Qs.apart j blk n h
 ·have h:(we mp κ.ph κ1.ph)[i]? = some (some (blk,n)):=h
  have h':(we mp κ.ph κ1.ph)[i']? = some (some (blk,n')):=h'
  have O1:i<(we mp κ.st jr).length:=by rw[<- hlen]; exact(List.getElem?_eq_some_iff.1 h).1
  have z4W:i'<(we mp κ.st jr).length:=by rw[<- hlen]; exact(List.getElem?_eq_some_iff.1 h').1
  have mixed:∀ {i j n n':Nat},i<κ.st.length->pos mp i=none->j<κ1.st.length->κ.ph[i]? = some (some (blk,n))->κ1.ph[j]? = some (some (blk,n'))->False:=by
   intro i j n n' h1 h2 h3 h4 h5
   rcases hx.Tz j blk n' h5 with h6 | h6
   ·obtain⟨b,ID,By⟩:=sph h6
    have:=hI.inj i b blk n n' h4 By
    subst this
    rw[mF hn ID]at h2
    cases h2
   ·have:=(hI.apart i blk n h4).1
    simp only at h6
    omega
  rcases Qw O1 with⟨h1,h2⟩ | ⟨j,h1,rfl⟩
  ·rw[uph h1 h2]at h
   rcases Qw z4W with⟨h3,h4⟩ | ⟨j',h3,rfl⟩
   ·rw[uph h3 h4]at h'; exact hI.inj i i' blk n n' h h'
   ·rw[cph h3]at h'; exact(mixed h1 h2 h3 h h').elim
  ·rw[cph h1]at h
   rcases Qw z4W with⟨h3,h4⟩ | ⟨j',h3,rfl⟩
   ·rw[uph h3 h4]at h'; exact(mixed h3 h4 h1 h' h).elim
   ·rw[cph h3]at h'
    rw[Qs.inj j j' blk n n' h h']
 ·have h:(we mp κ.st jr)[i]? = some y:=h
  rcases Qw (List.getElem?_eq_some_iff.1 h).1 with⟨h1,h2⟩ | ⟨j,h1,rfl⟩
  ·rw[ust h1 h2]at h
   exact(hI.blk i y h).mono hE (uph h1 h2) λblk n hb=>KO h2 hb
  ·obtain⟨z,q1,q2⟩:=cst (List.getElem?_eq_getElem h1)
   rw[h]at q1
   cases q1
   exact hT.blk (cph h1) (Qs.blk j _ (List.getElem?_eq_getElem h1)) q2
end
end Go.AM
namespace Go.AM
set_option linter.unusedSectionVars false
variable [vU]
open Go.RowKit
inductive AK where
 | any | cur | sub | ptr | qN (f:Nat)
structure ke where
 ks:List AK
 sh:vQ
 yf:List Gh
 out:vQ
 nr:Nat
 F:sh.den->T out.den
def Fl(fr:Fr):Nat->Nat->Option (List D)
 | 0,_=>some []
 | n+1,i=>match fr.get i with
  | some d=>match Fl fr n (i+1)with | some r=>some (d::r) | none=>none
  | none=>none
def yZ(nr:Nat)(fr:Fr):Option (List D):=Fl fr nr 0
def Px:List (Nat×Nat)->List D->Nat->Option Nat
 | p::r,.ptr b' _::ds,b=>bif Nat.beq p.1 b then some b' else Px r ds b
 | _,_,_=>none
def zb1(b:Nat):Ck->D->Option Nat
 | .ptr c _,.ptr b' _=>bif Nat.beq c b then some b' else none
 | .cur c _,.ms b' _ _ _ _=>bif Nat.beq c b then some b' else none
 | .qN _ l,.qN _ ds=>Px l ds b
 | _,_=>none
def z6k(fr:Fr)(b:Nat):List (Nat×Ck)->Option Nat
 | []=>none
 | (s,k)::r=>match fr.get s with
  | some d=>match zb1 b k d with | some b'=>some b' | none=>z6k fr b r
  | none=>z6k fr b r
def C0(b:Nat):List Mc->List D->Option Nat
 | .pt c::r,.ptr b' _::ds=>bif Nat.beq c b then some b' else C0 b r ds
 | .pt _::r,_::ds=>C0 b r ds
 | .im _::r,_::ds=>C0 b r ds
 | .rp _::r,_::ds=>C0 b r ds
 | _,_=>none
def J2(b:Nat):List Sk->List D->Option Nat
 | .im τ::r,ds=>J2 b r (ds.drop τ.size)
 | .row c _::r,.ms b' _ _ _ _::ds=>bif Nat.beq c b then some b' else J2 b r ds
 | .row _ _::r,_::ds=>J2 b r ds
 | .op c _::r,.kS b' _::ds=>bif Nat.beq c b then some b' else J2 b r ds
 | .op _ _::r,_::ds=>J2 b r ds
 | .un::r,_::ds=>J2 b r ds
 | _,_=>none
def JW(fr:Fr)(b:Nat):List It->Option Nat
 | []=>none
 | .s s (.mclo _ ms)::r=>match fr.get s with
  | some (.qN _ l)=>match C0 b ms l with | some b'=>some b' | none=>JW fr b r
  | _=>JW fr b r
 | .s s (.sub c _)::r=>match fr.get s with
  | some (.ms b' _ _ _ _)=>bif Nat.beq c b then some b' else JW fr b r
  | _=>JW fr b r
 | _::r=>JW fr b r
def MR(st:St)(b:Nat):List Bk->List (Option Nat)->Option Nat
 | .cvar k::r,some p::ps=>match st[p]? with
  | some (.var d)=>match zb1 b k d with | some b'=>some b' | none=>MR st b r ps
  | _=>MR st b r ps
 | .var (.st ks)::r,some p::ps=>match st[p]? with
  | some (.var d)=>match J2 b ks (qg d)with | some b'=>some b' | none=>MR st b r ps
  | _=>MR st b r ps
 | _::r,_::ps=>MR st b r ps
 | _,_=>none
def z8v(sh:vQ)(fr:Fr):Nat->List Bk->List (Option Nat)
 | _,[]=>[]
 | b,_::r=>(match z6k fr b sh.cs with | some b'=>some b' | none=>JW fr b sh.nC)::z8v sh fr (b+1) r
def z1y(sh:vQ)(st:St)(m:List (Option Nat)):Nat->List (Option Nat)->List (Option Nat)
 | _,[]=>[]
 | b,some b'::r=>some b'::z1y sh st m (b+1) r
 | b,none::r=>MR st b sh.bs m::z1y sh st m (b+1) r
def zbM:List (Option Nat)->Option (List Nat)
 | []=>some []
 | some b::r=>match zbM r with | some l=>some (b::l) | none=>none
 | none::_=>none
def mapOf(sh:vQ)(fr:Fr)(st:St):Option (List Nat):=let m:=z8v sh fr 0 sh.bs
 let m:=z1y sh st m 0 m
 zbM (z1y sh st m 0 m)
def ke.back(d:ke)(mp:List Nat)(st:St)(y:d.out.den):T (YH×St):=match yZ d.nr (d.out.fr y),nf (λj=>some (fwd mp st.length j)) (d.out.st y)with
 | some ds,some jr=>match Xl (λj=>some (fwd mp st.length j)) ds with
  | some Jb=>.ret (.ret Jb,we mp st jr)
  | none=>.fail
 | _,_=>.fail
def ke.inner(d:ke)(mp:List Nat)(fr:Fr)(st:St):T (YH×St):=match fH st mp with
 | none=>.fail
 | some l=>match nf (pos mp) l with
  | none=>.fail
  | some hO=>(d.sh.un (sz (pos mp) fr) hO).bind λx=>(d.F x).bind λy=>d.back mp st y
def ke.S(d:ke)(args:List D)(st:St):T (YH×St) :=
 match mapOf d.sh (gh d.yf (wu args 0) st).1 (gh d.yf (wu args 0) st).2 with
 | none=>.fail
 | some mp=>bif yI mp&&Nat.ble mp.length d.sh.bs.length&&Nat.beq args.length d.ks.length then d.inner mp (gh d.yf (wu args 0) st).1 (gh d.yf (wu args 0) st).2 else .fail
def ke.Vh{α:Type}(d:ke)(mp:List Nat)(st:St)(y:d.out.den)(k:List D->St->T α):T α:=match yZ d.nr (d.out.fr y),nf (λj=>some (fwd mp st.length j)) (d.out.st y)with
 | some ds,some jr=>match Xl (λj=>some (fwd mp st.length j)) ds with
  | some Jb=>k Jb (we mp st jr)
  | none=>.fail
 | _,_=>.fail
def ke.oG{α:Type}(d:ke)(mp:List Nat)(fr:Fr)(st:St)(k:List D->St->T α):T α:=match fH st mp with
 | none=>.fail
 | some l=>match nf (pos mp) l with
  | none=>.fail
  | some hO=>(d.sh.un (sz (pos mp) fr) hO).bind λx=>(d.F x).bind λy=>d.Vh mp st y k
def ke.K{α:Type}(d:ke)(args:List D)(st:St)(k:List D->St->T α):T α :=
 match mapOf d.sh (gh d.yf (wu args 0) st).1 (gh d.yf (wu args 0) st).2 with
 | none=>.fail
 | some mp=>bif yI mp&&Nat.ble mp.length d.sh.bs.length&&Nat.beq args.length d.ks.length then d.oG mp (gh d.yf (wu args 0) st).1 (gh d.yf (wu args 0) st).2 k else .fail
theorem ke.RU{α:Type}{d:ke}{args:List D}{st:St}{k:List D->St->T α}{r:α}(h:(d.K args st k).leads r):∃ ds zr,(d.S args st).leads (.ret ds,zr)/\(k ds zr).leads r:=by
 unfold ke.K at h
 unfold ke.S
 split at h
 ·exact h.elim
 ·rename_i mp PH
  cases hc:yI mp&&Nat.ble mp.length d.sh.bs.length&&Nat.beq args.length d.ks.length with
  | false=>rw[hc]at h; exact h.elim
  | true =>
   rw[hc,cond_true]at h
   unfold ke.oG at h
   unfold ke.inner
   split at h
   ·exact h.elim
   ·rename_i l hl
    split at h
    ·exact h.elim
    ·rename_i hO hst1
     obtain⟨x,h1,h⟩:=T.zd.1 h
     obtain⟨y,h2,h⟩:=T.zd.1 h
     unfold ke.Vh at h
     split at h
     ·rename_i ds jr e1 e2
      split at h
      ·rename_i Jb e3
       refine⟨Jb,_,T.zd.2 ⟨x,h1,T.zd.2 ⟨y,h2,?_⟩⟩,h⟩
       unfold ke.back
       simp only[e1,e2,e3]
       rfl
      ·exact h.elim
     ·exact h.elim
def yE(Dr:Pw)(g:Nat)(d:ke):Prop:=∀ (κ:KS) (x:d.sh.den) (zA:List Value) (y:d.out.den),κ.st=d.sh.st x->(d.F x).leads y->Inv κ->zA.length=d.ks.length ->
 Rel κ zA.length (d.sh.fr x).get { tmps:=zA.toArray,defers:=[] } ->
 Dr g zA.toArray κ.w λe w'=>∃ (κ':KS) (ds:List D),κ'.w=w'/\κ'.st=d.out.st y/\Inv κ'/\Ext κ κ'/\yZ d.nr (d.out.fr y)=some ds/\wy κ' (.ret ds) e
def wa(P:Program)(g:Nat)(d:ke):Prop:=∀ (κ:KS) (x:d.sh.den) (zA:List Value) (y:d.out.den),κ.st=d.sh.st x->(d.F x).leads y->Inv κ->zA.length=d.ks.length ->
 Rel κ zA.length (d.sh.fr x).get { tmps:=zA.toArray,defers:=[] } ->
 uE P g zA.toArray κ.w λe w'=>∃ (κ':KS) (ds:List D),κ'.w=w'/\κ'.st=d.out.st y/\Inv κ'/\Ext κ κ'/\yZ d.nr (d.out.fr y)=some ds/\wy κ' (.ret ds) e
theorem Fe{κ κ':KS}{f:Nat->Option Nat}(h:Tr κ κ' f){ds Jb:List D}{v:Value}(hd:RD κ (yn ds) v)(hr:Xl f ds=some Jb):RD κ' (yn Jb) v:=by
 match ds,hr with
 | [],hr =>
  cases hr
  cases hd with
  | yH _ vs hl hh =>
   obtain rfl:vs=[]:=List.eq_nil_of_length_eq_zero hl.symm
   exact .yH [] [] rfl (λi h=>absurd h (Nat.not_lt_zero i))
 | [d],hr =>
  simp only[Xl]at hr
  split at hr
  ·rename_i d' h1
   cases hr
   exact h.rd hd h1
  ·cases hr
 | d::e::r,hr =>
  cases hd with
  | yH _ vs hl hh =>
   have hR:=h.rds (⟨hl,hh⟩:qH κ (d::e::r) vs) hr
   simp only[Xl]at hr
   split at hr
   ·split at hr
    ·rename_i r' h2
     cases hr
     split at h2
     ·split at h2
      ·cases h2; exact .yH _ vs hR.1 hR.2
      ·cases h2
     ·cases h2
    ·cases hr
   ·cases hr
theorem tc{α β:Type}{l:List α}{m:List β}(h:l.length=m.length):∀ {mp:List Nat} {r:List α},fH l mp=some r->∃ q,fH m mp=some q
 | [],_,_=>⟨[],rfl⟩
 | b::mp,r,hr=>by
  simp only[fH]at hr
  split at hr
  ·rename_i x hx
   split at hr
   ·rename_i y hy
    obtain⟨q,hq⟩:=tc h hy
    have hb:b<m.length:=by have:=(List.getElem?_eq_some_iff.1 hx).1; omega
    exact⟨m[b]::q,by simp only[fH,List.getElem?_eq_getElem hb,hq]⟩
   ·cases hr
  ·cases hr
theorem ke.z5D{Dr:Pw}(z99:∀ {g a w} {R R':Ending->World->Prop},Dr g a w R->(∀ e w',R e w'->R' e w')->Dr g a w R'){g:Nat}{d:ke}(h:yE Dr g d):zfD Dr g d.S:=by
 intro κ args zA rs zr hl hI ha
 have Rk:Rel κ zA.length (wu args 0).get { tmps:=zA.toArray,defers:=[] }:=by
  have:=Qp (n:=zA.length) ha (by rw[ha.1]; exact Nat.le_refl _)
  simpa[show(J9.df:List Deferred)=[]from rfl]using this
 obtain⟨κ0,w1,w2,w3,w4,w5⟩:=lA d.yf (wu args 0) κ hI Rk
 unfold ke.S at hl
 rw[<- w2]at hl
 split at hl
 ·exact hl.elim
 ·rename_i mp PH
  cases hc:yI mp&&Nat.ble mp.length d.sh.bs.length&&Nat.beq args.length d.ks.length with
  | false=>rw[hc]at hl; exact hl.elim
  | true =>
   rw[hc,cond_true]at hl
   simp only[Bool.and_eq_true]at hc
   obtain⟨⟨hn,hle⟩,hlen⟩:=hc
   unfold ke.inner at hl
   split at hl
   ·exact hl.elim
   ·rename_i l XO
    split at hl
    ·exact hl.elim
    ·rename_i hO hst1
     obtain⟨x,h1,hl⟩:=T.zd.1 hl
     obtain⟨y,h2,hl⟩:=T.zd.1 hl
     obtain⟨p1,hpp⟩:=tc (m:=κ0.ph) w3.len.symm XO
     obtain⟨s1,s2,s3,s4,s5⟩:=E8 w3 hn hpp XO hst1
     have K4:Rel ⟨κ0.w,κ0.ok,p1,hO⟩ zA.length (sz (pos mp) (gh d.yf (wu args 0) κ.st).1).get { tmps:=zA.toArray,defers:=[] } :=
      ⟨w5.size,w5.defers,λs d' hd=>by
       obtain⟨d0,q1,q2⟩:=rK hd
       obtain⟨v,q3,q4⟩:=w5.get s d0 q1
       exact⟨v,q3,s2.rd q4 q2⟩⟩
     obtain⟨κ2,u1,u2,u3,u4,u5,_⟩:=d.sh.Z0 (κ0:=⟨κ0.w,κ0.ok,p1,hO⟩) (κ:=⟨κ0.w,κ0.ok,p1,hO⟩) (Ext.refl _) s1 K4 (by show hO.length<=_; rw[s3]; exact Nat.le_of_ble_eq_true hle) h1
     have hw:κ2.w=κ.w:=u1.trans w1
     have hdo:=h κ2 x zA y u2 h2 u3 (by rw[<- ha.1]; exact Nat.eq_of_beq_eq_true hlen) u5
     rw[hw]at hdo
     refine z99 hdo ?_
     rintro e w' ⟨κ3,ds,rfl,g1,g2,g3,g4,v,rfl,g5⟩
     unfold ke.back at hl
     rw[g4,<- g1]at hl
     split at hl
     ·rename_i ds0 jr e1 e2
      cases e1
      split at hl
      ·rename_i Jb hds'
       cases hl
       obtain⟨κ',k1,k2,k3,k4,k5⟩:=Yn w3 hn hpp XO hst1 g2 (u4.trans g3) e2
       exact⟨κ',k1,k2,k3,w4.trans k4,v,rfl,Fe k5 g5 hds'⟩
      ·exact hl.elim
     ·exact hl.elim
theorem ke.snd{P:Program}{g:Nat}{d:ke}(h:wa P g d):GY P g d.S:=ke.z5D (Dr:=uE P) uE.mono h
structure fm where
 ks:List AK
 sh:vQ
 yf:List Gh
 out:vQ
 nr:Nat
 pt:Nat
 kM:vQ
 F:sh.den->T (out.den⊕kM.den)
abbrev fm.s(d:fm):ke:=⟨d.ks,d.sh,d.yf,d.out,d.nr,λ_=>.fail⟩
def fm.RO{α:Type}(d:fm)(mp:List Nat)(st:St)(z:d.kM.den)(kp:D->St->T α):T α:=match(d.kM.fr z).get 0,nf (λj=>some (fwd mp st.length j)) (d.kM.st z)with
 | some (.zI τ x),some jr=>kp (.iface d.pt (.zI τ x)) (we mp st jr)
 | _,_=>.fail
def fm.oG{α:Type}(d:fm)(mp:List Nat)(fr:Fr)(st:St)(k:List D->St->T α)(kp:D->St->T α):T α:=match fH st mp with
 | none=>.fail
 | some l=>match nf (pos mp) l with
  | none=>.fail
  | some hO=>(d.sh.un (sz (pos mp) fr) hO).bind λx=>(d.F x).bind (Sum.elim (λy=>d.s.Vh mp st y k) (λz=>d.RO mp st z kp))
def fm.K{α:Type}(d:fm)(args:List D)(st:St)(k:List D->St->T α)(kp:D->St->T α):T α :=
 match mapOf d.sh (gh d.yf (wu args 0) st).1 (gh d.yf (wu args 0) st).2 with
 | none=>.fail
 | some mp=>bif yI mp&&Nat.ble mp.length d.sh.bs.length&&Nat.beq args.length d.ks.length then d.oG mp (gh d.yf (wu args 0) st).1 (gh d.yf (wu args 0) st).2 k kp else .fail
def fm.S(d:fm)(args:List D)(st:St):T (YH×St):=d.K args st (λds zr=>.ret (.ret ds,zr)) (λp zr=>.ret (.kM p,zr))
theorem fm.RU{α:Type}{d:fm}{args:List D}{st:St}{k:List D->St->T α}{kp:D->St->T α}{r:α}(h:(d.K args st k kp).leads r) :
  (∃ ds zr,(d.S args st).leads (.ret ds,zr)/\(k ds zr).leads r)\/∃ p zr,(d.S args st).leads (.kM p,zr)/\(kp p zr).leads r:=by
 unfold fm.K at h
 unfold fm.S fm.K
 split at h
 ·exact h.elim
 ·rename_i mp PH
  cases hc:yI mp&&Nat.ble mp.length d.sh.bs.length&&Nat.beq args.length d.ks.length with
  | false=>rw[hc]at h; exact h.elim
  | true =>
   rw[hc,cond_true]at h
   unfold fm.oG at h
   unfold fm.oG
   split at h
   ·exact h.elim
   ·rename_i l hl
    split at h
    ·exact h.elim
    ·rename_i hO hst1
     obtain⟨x,h1,h⟩:=T.zd.1 h
     obtain⟨y,h2,h⟩:=T.zd.1 h
     cases y with
     | inl y =>
      simp at h
      unfold ke.Vh at h
      split at h
      ·rename_i ds jr e1 e2
       split at h
       ·rename_i Jb e3
        refine .inl ⟨Jb,_,T.zd.2 ⟨x,h1,T.zd.2 ⟨.inl y,h2,?_⟩⟩,h⟩
        simp
        unfold ke.Vh
        simp only[e1,e2,e3]
        rfl
       ·exact h.elim
      ·exact h.elim
     | inr z =>
      simp at h
      unfold fm.RO at h
      split at h
      ·rename_i τ p jr e1 e2
       refine .inr ⟨_,_,T.zd.2 ⟨x,h1,T.zd.2 ⟨.inr z,h2,?_⟩⟩,h⟩
       simp
       unfold fm.RO
       simp only[e1,e2]
       rfl
      ·exact h.elim
def kO(P:Program)(g:Nat)(d:fm):Prop:=∀ (κ:KS) (x:d.sh.den) (zA:List Value) (r:d.out.den⊕d.kM.den),κ.st=d.sh.st x->(d.F x).leads r->Inv κ->zA.length=d.ks.length ->
 Rel κ zA.length (d.sh.fr x).get { tmps:=zA.toArray,defers:=[] } ->
 uE P g zA.toArray κ.w λe w'=>∃ κ':KS,κ'.w=w'/\Inv κ'/\Ext κ κ' /\
  ((∃ (y:d.out.den) (ds:List D),r=.inl y/\κ'.st=d.out.st y/\yZ d.nr (d.out.fr y)=some ds/\wy κ' (.ret ds) e) \/
   ∃ (z:d.kM.den) (p:D),r=.inr z/\κ'.st=d.kM.st z/\(d.kM.fr z).get 0=some p/\wy κ' (.kM (.iface d.pt p)) e)
theorem fm.snd{P:Program}{g:Nat}{d:fm}(h:kO P g d):GY P g d.S:=by
 intro κ args zA rs zr hl hI ha
 have Rk:Rel κ zA.length (wu args 0).get { tmps:=zA.toArray,defers:=[] }:=by
  have:=Qp (n:=zA.length) ha (by rw[ha.1]; exact Nat.le_refl _)
  simpa[show(J9.df:List Deferred)=[]from rfl]using this
 obtain⟨κ0,w1,w2,w3,w4,w5⟩:=lA d.yf (wu args 0) κ hI Rk
 unfold fm.S fm.K at hl
 rw[<- w2]at hl
 split at hl
 ·exact hl.elim
 ·rename_i mp PH
  cases hc:yI mp&&Nat.ble mp.length d.sh.bs.length&&Nat.beq args.length d.ks.length with
  | false=>rw[hc]at hl; exact hl.elim
  | true =>
   rw[hc,cond_true]at hl
   simp only[Bool.and_eq_true]at hc
   obtain⟨⟨hn,hle⟩,hlen⟩:=hc
   unfold fm.oG at hl
   split at hl
   ·exact hl.elim
   ·rename_i l XO
    split at hl
    ·exact hl.elim
    ·rename_i hO hst1
     obtain⟨x,h1,hl⟩:=T.zd.1 hl
     obtain⟨y,h2,hl⟩:=T.zd.1 hl
     obtain⟨p1,hpp⟩:=tc (m:=κ0.ph) w3.len.symm XO
     obtain⟨s1,s2,s3,s4,s5⟩:=E8 w3 hn hpp XO hst1
     have K4:Rel ⟨κ0.w,κ0.ok,p1,hO⟩ zA.length (sz (pos mp) (gh d.yf (wu args 0) κ.st).1).get { tmps:=zA.toArray,defers:=[] } :=
      ⟨w5.size,w5.defers,λs d' hd=>by
       obtain⟨d0,q1,q2⟩:=rK hd
       obtain⟨v,q3,q4⟩:=w5.get s d0 q1
       exact⟨v,q3,s2.rd q4 q2⟩⟩
     obtain⟨κ2,u1,u2,u3,u4,u5,_⟩:=d.sh.Z0 (κ0:=⟨κ0.w,κ0.ok,p1,hO⟩) (κ:=⟨κ0.w,κ0.ok,p1,hO⟩) (Ext.refl _) s1 K4 (by show hO.length<=_; rw[s3]; exact Nat.le_of_ble_eq_true hle) h1
     have hw:κ2.w=κ.w:=u1.trans w1
     have hdo:=h κ2 x zA y u2 h2 u3 (by rw[<- ha.1]; exact Nat.eq_of_beq_eq_true hlen) u5
     rw[hw]at hdo
     refine hdo.mono ?_
     rintro e w' ⟨κ3,rfl,g2,g3,⟨y,ds,rfl,g1,g4,v,rfl,g5⟩ | ⟨z,p,rfl,g1,g4,v,rfl,g5⟩⟩
     ·simp only[Sum.elim_inl]at hl
      unfold ke.Vh at hl
      rw[show yZ d.s.nr (d.s.out.fr y)=some ds from g4,show d.s.out.st y=κ3.st from g1.symm]at hl
      split at hl
      ·rename_i ds0 jr e1 e2
       cases e1
       split at hl
       ·rename_i Jb hds'
        cases hl
        obtain⟨κ',k1,k2,k3,k4,k5⟩:=Yn w3 hn hpp XO hst1 g2 (u4.trans g3) e2
        exact⟨κ',k1,k2,k3,w4.trans k4,v,rfl,Fe k5 g5 hds'⟩
       ·exact hl.elim
      ·exact hl.elim
     ·simp only[Sum.elim_inr]at hl
      unfold fm.RO at hl
      rw[g4,<- g1]at hl
      split at hl
      ·rename_i τ q jr e1 e2
       cases e1
       cases hl
       obtain⟨κ',k1,k2,k3,k4,k5⟩:=Yn w3 hn hpp XO hst1 g2 (u4.trans g3) e2
       refine⟨κ',k1,k2,k3,w4.trans k4,v,rfl,?_⟩
       cases g5 with
       | iface _ _ u hu=>exact .iface _ _ u (k5.rd hu rfl)
      ·exact hl.elim
end Go.AM
namespace Go.AM
def Gz(sh:vQ)(yf:List Gh)(args:List D)(st:St):List Nat:=bif yf.isEmpty then match mapOf sh (wu args 0) st with | some mp=>others st.length mp | none=>[]else[]
def ke.free(d:ke)(args:List D)(st:St):List Nat:=Gz d.sh d.yf args st
def fm.free(d:fm)(args:List D)(st:St):List Nat:=Gz d.sh d.yf args st
theorem H2{m b:Nat}{l:List Nat}(h:b∈others m l):b<m/\∀ x∈l,b≠x:=by
 simp only[others,List.mem_filter,List.mem_range,Bool.not_eq_true',List.any_eq_false]at h
 exact⟨h.1,λx hx e=>by subst e; exact h.2 b hx (Nat.beq_refl _)⟩
theorem Cb:∀ {mp:List Nat} {b:Nat},(∀ x∈mp,b≠x)->pos mp b=none
 | [],_,_=>rfl
 | x::r,b,h=>by
  simp only[pos]
  rw[show Nat.beq x b=false from by cases hb:Nat.beq x b with | false=>rfl | true=>exact absurd (Nat.eq_of_beq_eq_true hb).symm (h x List.mem_cons_self),cond_false,Cb λy hy=>h y (List.mem_cons_of_mem _ hy)]
theorem VZ{sh:vQ}{yf:List Gh}{args:List D}{st:St}{b:Nat}(hb:b∈Gz sh yf args st):yf=[]/\∃ mp,mapOf sh (wu args 0) st=some mp/\b<st.length/\pos mp b=none:=by
 unfold Gz at hb
 cases hn:yf.isEmpty with
 | false=>grind
 | true =>
  rw[hn,cond_true]at hb
  refine⟨List.isEmpty_iff.1 hn,?_⟩
  split at hb
  ·rename_i mp PH
   obtain⟨h1,h2⟩:=H2 hb
   exact⟨mp,PH,h1,Cb h2⟩
  ·cases hb
theorem ke.ZF{d:ke}{args:List D}{st zr:St}{rs:YH}{b:Nat}(h:(d.S args st).leads (rs,zr))(hb:b∈d.free args st):zr[b]? = st[b]? := by
 obtain⟨hn,mp,PH,qy,ZO⟩:=VZ hb
 unfold ke.S at h
 rw[hn]at h
 simp only[gh,PH]at h
 cases hc:yI mp&&Nat.ble mp.length d.sh.bs.length&&Nat.beq args.length d.ks.length with
 | false=>rw[hc]at h; exact h.elim
 | true =>
  rw[hc,cond_true]at h
  unfold ke.inner at h
  split at h
  ·exact h.elim
  ·split at h
   ·exact h.elim
   ·obtain⟨x,_,h⟩:=T.zd.1 h
    obtain⟨y,_,h⟩:=T.zd.1 h
    unfold ke.back at h
    split at h
    ·split at h
     ·cases h; exact iF qy ZO
     ·exact h.elim
    ·exact h.elim
theorem fm.ZF{d:fm}{args:List D}{st zr:St}{rs:YH}{b:Nat}(h:(d.S args st).leads (rs,zr))(hb:b∈d.free args st):zr[b]? = st[b]? := by
 obtain⟨hn,mp,PH,qy,ZO⟩:=VZ hb
 unfold fm.S fm.K at h
 rw[hn]at h
 simp only[gh,PH]at h
 cases hc:yI mp&&Nat.ble mp.length d.sh.bs.length&&Nat.beq args.length d.ks.length with
 | false=>rw[hc]at h; exact h.elim
 | true =>
  rw[hc,cond_true]at h
  unfold fm.oG at h
  split at h
  ·exact h.elim
  ·split at h
   ·exact h.elim
   ·obtain⟨x,_,h⟩:=T.zd.1 h
    obtain⟨y,_,h⟩:=T.zd.1 h
    cases y with
    | inl y =>
     simp at h
     unfold ke.Vh at h
     split at h
     ·split at h
      ·cases h; exact iF qy ZO
      ·exact h.elim
     ·exact h.elim
    | inr z =>
     simp at h
     unfold fm.RO at h
     split at h
     ·cases h; exact iF qy ZO
     ·exact h.elim
end Go.AM
namespace Go.AM
def tI.den:tI->Type
 | .ty τ=>AM.den τ
 | .rp τ=>AM.den τ
 | .qN _ caps=>gy caps
def jx:List tI->Type
 | []=>Unit
 | [p]=>p.den
 | p::q::r=>p.den×jx (q::r)
def Tq:(p:tI)->p.den->D
 | .ty τ,x=>.zI τ x
 | .rp τ,x=>.qU τ x
 | .qN f caps,x=>.qN f (mc caps x)
def QS:(l:List tI)->jx l->List D
 | [],_=>[]
 | [p],x=>[Tq p x]
 | p::q::r,x=>Tq p x.1::QS (q::r) x.2
def ZI:(l:List Ty)->KD l->List D
 | [],_=>[]
 | [τ],x=>[.zI τ x]
 | τ::σ::r,x=>.zI τ x.1::ZI (σ::r) x.2
def rpX(st:St)(τ:Ty):D->T (den τ)
 | .qU _ x=>match(wP x:Option (den τ))with | some y=>.ret y | none=>.fail
 | .ptr b off=>match st[b]? with
  | some (.var d)=>match bif Nat.beq off 0 then eG τ d else none with | some y=>.ret y | none=>.fail
  | _=>.fail
 | _=>.fail
def TP(st:St):(p:Qu)->D->T (den p.ty)
 | .im τ,d=>Zk st τ d
 | .rp τ,d=>rpX st τ d
def Ie(st:St):(l:List Qu)->List D->T (gy l)
 | [],[]=>.ret ()
 | [p],[d]=>TP st p d
 | p::q::r,d::ds=>(TP st p d).bind λx=>(Ie st (q::r) ds).bind λy=>.ret (x,y)
 | _,_=>.fail
def unP(st:St):(p:tI)->D->T p.den
 | .ty τ,d=>Zk st τ d
 | .rp τ,d=>rpX st τ d
 | .qN f caps,d=>match d with
  | .qN f' l=>bif Nat.beq f f' then Ie st caps l else .fail
  | _=>.fail
def BI(st:St):(l:List tI)->List D->T (jx l)
 | [],[]=>.ret ()
 | [p],[d]=>unP st p d
 | p::q::r,d::ds=>(unP st p d).bind λx=>(BI st (q::r) ds).bind λy=>.ret (x,y)
 | _,_=>.fail
def NX(st:St):(l:List Ty)->List D->T (KD l)
 | [],[]=>.ret ()
 | [τ],[d]=>Zk st τ d
 | τ::σ::r,d::ds=>(Zk st τ d).bind λx=>(NX st (σ::r) ds).bind λy=>.ret (x,y)
 | _,_=>.fail
structure B4 where
 ps:List tI
 rs:List Ty
 F:jx ps->T (KD rs)
def z6p:tI->D->Bool
 | .qN f _,d=>match d with | .qN f' _=>Nat.beq f f' | _=>false
 | _,d=>match d with | .qN _ _=>false | _=>true
def fits:List tI->List D->Bool
 | [],[]=>true
 | p::ps,d::ds=>z6p p d&&fits ps ds
 | _,_=>false
def z4q:AK->D->Bool
 | .any,d=>match d with | .qN _ _=>false | _=>true
 | .cur,d=>match d with | .ms .. => true | .xy=>true | _=>false
 | .sub,d=>match d with | .ms .. => true | _=>false
 | .ptr,d=>match d with | .ptr .. => true | _=>false
 | .qN f,d=>match d with | .qN f' _=>Nat.beq f f' | _=>false
def n7:List AK->List D->Bool
 | [],[]=>true
 | p::ps,d::ds=>z4q p d&&n7 ps ds
 | _,_=>false
inductive Tl where
 | d (x:B4)
 | s (x:ke)
 | p (x:fm)
def Tl.fits:Tl->List D->Bool
 | .d x,l=>AM.fits x.ps l
 | .s x,l=>n7 x.ks l
 | .p x,l=>n7 x.ks l
abbrev dh:=List (Nat×Tl)
def dh.find:dh->Nat->List D->Option Tl
 | [],_,_=>none
 | (g',d)::r,g,args=>bif Nat.beq g' g&&d.fits args then some d else dh.find r g args
abbrev Sm:=List D->St->T (YH×St)
def B4.S(d:B4):Sm:=λargs st=>match st with
 | []=>(BI [] d.ps args).bind λx=>(d.F x).bind λy=>.ret (.ret (ZI d.rs y),[])
 | _=>.fail
def dh.call(tab:dh)(g:Nat)(args:List D)(st:St):T (YH×St):=match tab.find g args with | some (.d d)=>d.S args st | some (.s d)=>d.S args st | some (.p d)=>d.S args st | none=>.fail
def dh.free(tab:dh)(g:Nat)(args:List D)(st:St):List Nat:=match tab.find g args with | some (.s d)=>d.free args st | some (.p d)=>d.free args st | _=>[]
theorem dh.ZF(tab:dh)(g:Nat)(args:List D)(st:St)(rs:YH)(zr:St)(b:Nat)(h:(tab.call g args st).leads (rs,zr))(hb:b∈tab.free g args st):zr[b]? = st[b]? := by
 unfold dh.call at h
 unfold dh.free at hb
 split at hb
 ·rename_i d hd; rw[hd]at h; exact ke.ZF h hb
 ·rename_i d hd; rw[hd]at h; exact fm.ZF h hb
 ·cases hb
def u7(P:Program)(xid:Nat)(tab:dh)(ro:Nat->Bool):Ctx :=
 { P,xid,ro,sig:=λg args=>match tab.find g args with | some (.d d)=>some ⟨d.ps,d.rs⟩ | _=>none,fn:=tab.call,free:=tab.free,Ri:=tab.ZF }
def z2O{α:Type}(tab:dh)(g:Nat)(args:List D)(st:St)(k:Nat->Option D->St->T α)(kp:D->St->T α):T α:=match tab.find g args with
 | none=>.fail
 | some (.d d)=>bif !(args.any Vk)then(BI [] d.ps args).bind λx=>(d.F x).bind λy=>k 0 (some (yn (ZI d.rs y))) st
  else(BI st d.ps args).bind λx=>(d.F x).bind λy=>bif (ZI d.rs y).all rG then k 1 (some (yn (ZI d.rs y))) st else .fail
 | some (.s d)=>d.K args st λds zr=>k 2 (some (yn ds)) zr
 | some (.p d)=>d.K args st (λds zr=>k 2 (some (yn ds)) zr) kp
def Gy{α:Type}(tab:dh)(f:Option D)(args:List (Option D))(st:St)(k:Nat->Option D->St->T α)(kp:D->St->T α):T α:=match f,uB args with
 | some (.qN g caps),some l=>z2O tab (yu g) (jj g l caps) st k kp
 | _,_=>.fail
def cW(l:List Nat):Fr:=l.map λs=>(s,none)
def dstsOf:List Oper->List Nat
 | []=>[]
 | o::r=>match o.dst with | some t=>t::dstsOf r | none=>dstsOf r
def qj:Code->List Nat
 | .region _ ops _=>dstsOf ops.toList
 | .seq a b=>qj a++qj b
 | .cond _ a b=>qj a++qj b
 | .block _ a=>qj a
 | .loop a=>qj a
 | _=>[]
structure zJ where
 gh:List Gh
 ps:List It
 sh:vQ
 ws:List Way
 F:wK ps->sh.den->T (gJ ws)
inductive z0t where
 | flat (nC:List It)
 | ways (ws:List Way)
 | z8T
structure Hints where
 loop:Nat->Option zJ
 cut:Nat->Nat->Option z0t
 Tk:Nat->List Nat
def eM:Code->Option Nat
 | .region id _ _=>some id
 | .seq a b=>match eM a with | some n=>some n | none=>eM b
 | .cond _ a b=>match eM a with | some n=>some n | none=>eM b
 | .block _ a=>eM a
 | .loop a=>eM a
 | _=>none
def keyOf(x:Code):Nat×Nat:=(match x with | .region .. => 0 | .cond .. => 1 | .block .. => 2 | _=>3,match eM x with | some n=>n | none=>0)
def z2U(l:List Nat)(s:Nat):Bool := !(l.any (Nat.beq s))
def WA:Dk->Bool
 | .sub _ _=>false
 | .st _=>false
 | .mclo _ _=>false
 | _=>true
def CP(ps:List It)(ws:List Nat):Bool:=ps.all λi=>match i with
 | .s t k=>WA k&&z2U ws t
 | _=>false
def GP{α:Type}:T α->Option α
 | .ret a=>some a
 | .ite _ t e=>match GP t with | some a=>some a | none=>GP e
 | .zM _ t=>GP t
 | .fail=>none
def HG{α β:Type}(f:α->β):T α->T β
 | .ret a=>.ret (f a)
 | .ite b t e=>.ite b (HG f t) (HG f e)
 | .zM p t=>.zM p (HG f t)
 | .fail=>.fail
def Lw:(l:List It)->wK l->T (wK l)->wK l
 | [],_,_=>()
 | [_],d,t=>T.val d t
 | _::j::r,d,t=>(T.val d.1 (HG Prod.fst t),Lw (j::r) d.2 (HG Prod.snd t))
def S5(l:List It)(t:T (wK l)):T (wK l):=match GP t with
 | some d=>match t.tM with
  | none=>.ret (Lw l d t)
  | some p=>.zM p (.ret (Lw l d t))
 | none=>.fail
def KI(l:List It):Bool:=l.all λi=>match i with
 | .s _ k=>WA k
 | _=>false
structure Dy where
 ex:Ex
 fr:Fr
 kn:Kn
 st:St
 q:Bool      -- the store has not been written
def quiet(ks:List Nat):Bool:=ks.all λk => !(Nat.beq k 2)
structure zaN where
 e:Ty
 l:List (den e)
 m:Nat
 s:Nat
 c:Nat
 eq:Bool
def PG:BinOp->Option Bool
 | .eql=>some true
 | .neq=>some false
 | _=>none
def CR:Operand->Bool
 | .const (.slice none 0 0)=>true
 | _=>false
def YJ(c:Ctx)(n:Nat)(ops:Array Oper)(fr:Fr):Option zaN:=match ops.toList with
 | [o1,o2]=>match o1.dst,o1.op,o1.guard with
  | some m,.move (.tmp s),none=>match o2.dst,o2.op,o2.guard with
   | some cc,.binOp op t (.tmp m') y _,none=>match PG op,fr.get s,fN c t with
    | some b,some (.zI (.sl e) l),some _=>bif Nat.beq m m'&&CR y&&Nat.blt m n&&Nat.blt cc n then some ⟨e,l,m,s,cc,b⟩else none
    | _,_,_=>none
   | _,_,_=>none
  | _,_,_=>none
 | _=>none
def opsOf:Code->Option (Array Oper)
 | .region _ ops false=>some ops
 | _=>none
section
variable (c:Ctx) (tab:dh)
variable [rM]
def pV{α:Type}(n:Nat)(o:Oper)(s:dr)(k:dr->T α)(kp:D->St->T α):T α :=
 bif vS n o.dst then match o.op with
  | .call cl=>match cl.callee with
   | .value f=>Gy tab (uI s.fr f) (cl.args.toList.map (uI s.fr)) s.st (λkd d zr=>k ⟨s.fr.put o.dst d,Jx s.kn o.dst none,zr,kd::s.ks,wh c (uI s.fr) s.st o::s.bk⟩) kp
   | _=>let cl:=nj c s.kn s.fr o
    (zH cl s.st).bind λr=>k ⟨s.fr.put o.dst r.1,Jx s.kn o.dst (JI s.kn o.op),r.2,cl.kind::s.ks,wh c (uI s.fr) s.st o::s.bk⟩
  | .panic x=>match uI s.fr x with
   | some (.iface t d)=>kp (.iface t d) s.st
   | _=>.fail
  | _=>let cl:=nj c s.kn s.fr o
   (zH cl s.st).bind λr=>k ⟨s.fr.put o.dst r.1,Jx s.kn o.dst (JI s.kn o.op),r.2,cl.kind::s.ks,wh c (uI s.fr) s.st o::s.bk⟩
 else .fail
def E6{α:Type}(n:Nat)(ops:Array Oper)(o:Oper)(s:dr)(k:dr->T α)(kp:D->St->T α):T α:=match o.guard with
 | none=>pV c tab n o s k kp
 | some (j,want)=>match uH ops j with
  | none=>.fail
  | some t=>match s.kn.get t with
   | some b=>bif b==want then pV c tab n o s k kp else bif vS n o.dst then k (jm o s)else .fail
   | none=>match s.fr.get t with
    | some (.zI .bool x)=>bif vS n o.dst then
      .ite x (bif want then pV c tab n o (s.bh t true) k kp else k (jm o (s.bh t true)))
          (bif want then k (jm o (s.bh t false))else pV c tab n o (s.bh t false) k kp)
     else .fail
    | some (.yH [])=>bif vS n o.dst then k (jm o s)else .fail
    | _=>.fail
def WI{α:Type}(n:Nat)(ops:Array Oper):List Oper->dr->(dr->T α)->(D->St->T α)->T α
 | [],s,k,_=>k s
 | o::l,s,k,kp=>E6 c tab n ops o s (λs'=>WI n ops l s' k kp) kp
def V7{α:Type}(n:Nat)(ops:Array Oper)(draw:Bool)(fr:Fr)(kn:Kn)(st:St)(k:dr->T α)(kp:D->St->T α):T α :=
 WI c tab n ops ops.toList ⟨fr,kn,st,[],[]⟩ (λs=>bif !draw||tH ops s.ks.reverse s.bk.reverse then k s else .fail) (λd zr=>bif draw then .fail else kp d zr)
def tL(n:Nat)(H:Hints):Code->Fr->Kn->St->{α:Type}->(Dy->T α)->T α
 | .skip,fr,kn,st,_,k=>k ⟨.normal,fr,kn,st,true⟩
 | .region id ops draw,fr,kn,st,_,k=>(Tk (H.Tk id) fr st).bind λz=>V7 c tab n ops draw z.1 kn z.2 (λs=>k ⟨.normal,s.fr,s.kn,s.st,quiet s.ks&&(H.Tk id).isEmpty⟩) (λd zr=>k ⟨.kM d,[],[],zr,false⟩)
 | .seq a b,fr,kn,st,_,k=>match H.cut (keyOf a).1 (keyOf a).2 with
  | none=>tL n H a fr kn st λr=>match r.ex with
   | .normal=>tL n H b r.fr r.kn r.st λo=>k { o with q:=r.q&&o.q }
   | _=>k r
  | some (.flat nC)=>bif KI nC then
    (S5 nC (tL n H a fr kn st λo=>match o.ex with
     | .normal=>bif o.q then Kh o.fr o.st nC []else .fail
     | _=>.fail)).bind λx=>tL n H b (eR st nC x++(cW (qj a)++fr)) [] st k
   else .fail
  | some .z8T=>match opsOf a with
   | none=>.fail
   | some ops=>match YJ c n ops fr with
    | none=>.fail
    | some p =>
     let non:=tL n H b ((p.c,some (.zI .bool (!p.eq)))::(p.m,some (.zI (.sl p.e) p.l))::fr) [(p.c,some (!p.eq))] st k
     .zM (p.l=[]->∀ r,non.leads r->(tL n H b ((p.c,some (.zI .bool p.eq))::(p.m,some .xy)::(p.s,some .xy)::fr) [(p.c,some p.eq)] st k).leads r) non
  | some (.ways ws)=>bif ws.all λw=>Nat.ble st.length w.sh.bs.length then
    (tL n H a fr kn st λo=>YE ws o.ex (Jy o.ex o.fr) o.st).bind λr=>ET ws r λex out zr=>match BK ex out with
     | none=>.fail
     | some z=>match z.1 with
      | .normal=>tL n H b (z.2++(cW (qj a)++fr)) [] zr λo=>k { o with q:=false }
      | e=>k ⟨e,z.2++(cW (qj a)++fr),[],zr,false⟩
   else .fail
 | .cond x a b,fr,kn,st,_,k=>match cU kn x with
  | some true=>tL n H a fr kn st k
  | some false=>tL n H b fr kn st k
  | none=>match x with
   | .tmp t=>match fr.get t with
    | some (.zI .bool v)=>.ite v (tL n H a fr ((t,some true)::kn) st k) (tL n H b fr ((t,some false)::kn) st k)
    | _=>.fail
   | _=>.fail
 | .block id (.loop b),fr,_,st,_,k=>match H.loop id with
  | none=>.fail
  | some l=>let g:=gh l.gh fr st
   bif Nat.ble g.2.length l.sh.bs.length&&CP l.ps (qj b)&&l.ws.all λw=>Nat.ble l.sh.bs.length w.sh.bs.length then
    (Kh g.1 g.2 l.ps []).bind λp=>(l.sh.un g.1 g.2).bind λs=>(l.F p s).bind λr=>ET l.ws r λex out zr=>match BK ex out with
     | none=>.fail
     | some z=>match z.1 with
      | .exit id'=>bif Nat.beq id' id then k ⟨.normal,z.2++(cW (qj b)++g.1),[],zr,false⟩else k ⟨.exit id',z.2++(cW (qj b)++g.1),[],zr,false⟩
      | .normal=>.fail
      | e=>k ⟨e,z.2++(cW (qj b)++g.1),[],zr,false⟩
   else .fail
 | .block id a,fr,kn,st,_,k=>tL n H a fr kn st λr=>match r.ex with
  | .exit id'=>bif Nat.beq id' id then k { r with ex:=.normal } else k r
  | _=>k r
 | .exit id,fr,kn,st,_,k=>k ⟨.exit id,fr,kn,st,true⟩
 | .ret,fr,kn,st,_,k=>k ⟨.ret,fr,kn,st,true⟩
 | _,_,_,_,_,_=>.fail
def RY(n:Nat)(H:Hints)(l:zJ)(b:Code)(p:wK l.ps)(s:l.sh.den):T (l.sh.den⊕gJ l.ws) :=
 tL c tab n H b (l.sh.fr s++eR (l.sh.st s) l.ps p) [] (l.sh.st s) λo=>match o.ex with
  | .normal=>(l.sh.un o.fr o.st).bind λs'=>.ret (.inl s')
  | e=>(YE l.ws e (Jy e o.fr) o.st).bind λr=>.ret (.inr r)
def Oq(H:Hints)(fn:Func)(code:Code)(d:B4)(x:jx d.ps):T (KD d.rs) :=
 bif Nat.ble (QS d.ps x).length fn.ntmps then
  tL c tab fn.ntmps H code (wu (QS d.ps x) 0) [] [] λo=>match o.ex with
   | .normal=>(bp c o.fr o.st fn.results.toList).bind λds=>NX o.st d.rs ds
   | .ret=>(bp c o.fr o.st fn.results.toList).bind λds=>NX o.st d.rs ds
   | _=>.fail
 else .fail
def De(H:Hints)(fn:Func)(code:Code)(d:ke)(x:d.sh.den):T d.out.den :=
 bif Nat.ble d.ks.length fn.ntmps&&Nat.ble d.sh.bs.length d.out.bs.length then
  tL c tab fn.ntmps H code (d.sh.fr x) [] (d.sh.st x) λo=>match o.ex with
   | .normal=>(bp c o.fr o.st fn.results.toList).bind λds=>bif Nat.beq ds.length d.nr then(d.out.un (wu ds 0) o.st).bind λy=>bif (yZ d.nr (d.out.fr y)).isSome then .ret y else .fail else .fail
   | .ret=>(bp c o.fr o.st fn.results.toList).bind λds=>bif Nat.beq ds.length d.nr then(d.out.un (wu ds 0) o.st).bind λy=>bif (yZ d.nr (d.out.fr y)).isSome then .ret y else .fail else .fail
   | _=>.fail
 else .fail
def DX(H:Hints)(fn:Func)(code:Code)(d:fm)(x:d.sh.den):T (d.out.den⊕d.kM.den) :=
 bif Nat.ble d.ks.length fn.ntmps&&Nat.ble d.sh.bs.length d.out.bs.length&&Nat.ble d.sh.bs.length d.kM.bs.length then
  tL c tab fn.ntmps H code (d.sh.fr x) [] (d.sh.st x) λo=>match o.ex with
   | .normal=>(bp c o.fr o.st fn.results.toList).bind λds=>bif Nat.beq ds.length d.nr then(d.out.un (wu ds 0) o.st).bind λy=>bif (yZ d.nr (d.out.fr y)).isSome then .ret (.inl y)else .fail else .fail
   | .ret=>(bp c o.fr o.st fn.results.toList).bind λds=>bif Nat.beq ds.length d.nr then(d.out.un (wu ds 0) o.st).bind λy=>bif (yZ d.nr (d.out.fr y)).isSome then .ret (.inl y)else .fail else .fail
   | .kM p=>match p with
    | .iface t v=>bif Nat.beq t d.pt then(d.kM.un [(0,some v)] o.st).bind λz=>match(d.kM.fr z).get 0 with | some _=>.ret (.inr z) | none=>.fail else .fail
    | _=>.fail
   | _=>.fail
 else .fail
end
end Go.AM
namespace Go.AM
set_option linter.unusedSectionVars false
variable [vU]
open Go.RowKit
section
variable {n:Nat}
theorem Ta{st:St}{τ:Ty}{d:D}{x:den τ}(h:(rpX st τ d).leads x):(mZ st τ d).leads (.qU τ x):=by
 cases d with
 | qU σ y =>
  simp only[rpX]at h
  simp only[mZ]
  cases hy:(wP y:Option (den τ))with
  | none=>rw[hy]at h; exact h.elim
  | some z=>rw[hy]at h; cases h; rfl
 | ptr b off =>
  simp only[rpX]at h
  simp only[mZ]
  cases hb:st[b]? with
  | none=>rw[hb]at h; exact h.elim
  | some B =>
   rw[hb]at h
   cases B with
   | var d =>
    simp only at h ⊢
    cases hy:(bif Nat.beq off 0 then eG τ d else none)with
    | none=>rw[hy]at h; exact h.elim
    | some z=>rw[hy]at h; cases h; rfl
   | _=>exact h.elim
 | _=>exact h.elim
theorem Ft{st:St}{p:Qu}{d:D}{x:den p.ty}(h:(TP st p d).leads x):(p7 st p d).leads (KA p x):=by
 cases p with
 | rp τ=>exact Ta h
 | im τ=>exact T.zd.2 ⟨x,h,rfl⟩
theorem Ct{st:St}:∀ (l:List Qu) (ds:List D) (x:gy l),(Ie st l ds).leads x->(bY st l ds).leads (mc l x)
 | [],[],x,h=>rfl
 | [],_::_,x,h=>h.elim
 | [p],[],x,h=>h.elim
 | [p],[d],x,h=>T.zd.2 ⟨_,Ft h,T.zd.2 ⟨[],rfl,rfl⟩⟩
 | [p],_::_::_,x,h=>h.elim
 | p::q::r,[],x,h=>h.elim
 | p::q::r,d::ds,x,h=>by
  obtain⟨y,h1,h2⟩:=T.zd.1 h
  obtain⟨z,h3,h4⟩:=T.zd.1 h2
  cases h4
  exact T.zd.2 ⟨_,Ft h1,T.zd.2 ⟨_,Ct (q::r) ds z h3,rfl⟩⟩
theorem Ru{st:St}{p:tI}{d:D}{x:p.den}(h:(unP st p d).leads x):(Hm st p d).leads (Tq p x):=by
 cases p with
 | ty τ=>cases d<;>exact T.zd.2 ⟨x,h,rfl⟩
 | rp τ =>
  have:=Ta h
  cases d<;>exact this
 | qN f caps =>
  cases d with
  | qN f' l =>
   simp only[unP]at h
   simp only[Hm]
   cases hb:Nat.beq f f' with
   | false=>rw[hb]at h; exact h.elim
   | true=>rw[hb]at h; exact T.zd.2 ⟨_,Ct caps l x h,rfl⟩
  | _=>exact h.elim
theorem WL{st:St}:∀ (l:List tI) (ds:List D) (x:jx l),(BI st l ds).leads x->(nc st l ds).leads (QS l x)
 | [],[],x,h=>rfl
 | [],_::_,x,h=>h.elim
 | [p],[],x,h=>h.elim
 | [p],[d],x,h=>T.zd.2 ⟨_,Ru h,T.zd.2 ⟨[],rfl,rfl⟩⟩
 | [p],_::_::_,x,h=>h.elim
 | p::q::r,[],x,h=>h.elim
 | p::q::r,d::ds,x,h=>by
  obtain⟨y,h1,h2⟩:=T.zd.1 h
  obtain⟨z,h3,h4⟩:=T.zd.1 h2
  cases h4
  exact T.zd.2 ⟨_,Ru h1,T.zd.2 ⟨_,WL (q::r) ds z h3,rfl⟩⟩
theorem BW(st:St)(τ:Ty)(x:den τ):(Zk st τ (.zI τ x)).leads x:=by
 refine T.zd.2 ⟨.zI τ x,rfl,?_⟩
 rw[T.ud]
 exact ou x
theorem O9(st:St)(τ:Ty)(x:den τ):(rpX st τ (.qU τ x)).leads x:=by
 simp only[rpX]; rw[ou]; rfl
theorem Fv(st:St)(p:Qu)(x:den p.ty):(TP st p (KA p x)).leads x:=by
 cases p with
 | rp τ=>exact O9 st τ x
 | im τ=>exact BW st τ x
theorem Cc(st:St):∀ (l:List Qu) (x:gy l),(Ie st l (mc l x)).leads x
 | [],_=>rfl
 | [p],x=>Fv st p x
 | p::q::r,x=>T.zd.2 ⟨x.1,Fv st p x.1,T.zd.2 ⟨x.2,Cc st (q::r) x.2,rfl⟩⟩
theorem Pp(st:St)(p:tI)(x:p.den):(unP st p (Tq p x)).leads x:=by
 cases p with
 | ty τ=>exact BW st τ x
 | rp τ=>exact O9 st τ x
 | qN f caps=>simp only[unP,Tq]; rw[Nat.beq_refl]; exact Cc st caps x
theorem Yv(st:St):∀ (l:List tI) (x:jx l),(BI st l (QS l x)).leads x
 | [],_=>rfl
 | [p],x=>Pp st p x
 | p::q::r,x=>T.zd.2 ⟨x.1,Pp st p x.1,T.zd.2 ⟨x.2,Yv st (q::r) x.2,rfl⟩⟩
def yh:D->Option Nat | .qN f _=>some f | _=>none
theorem z0I(p:tI){d e:D}(h:yh d=yh e):z6p p d=z6p p e:=by
 cases d<;>cases e<;>simp only[yh]at h<;>first | (cases h; done) | (cases p<;>first | rfl | (cases h; rfl))
theorem Fj:∀ (ps:List tI) {l m:List D},l.map yh=m.map yh->fits ps l=fits ps m
 | [],[],[],_=>rfl
 | [],_::_,_::_,_=>rfl
 | _,[],_::_,h=>by cases h
 | _,_::_,[],h=>by cases h
 | _::_,[],[],_=>rfl
 | p::ps,d::l,e::m,h=>by
  simp at h
  simp only[fits,z0I p h.1,Fj ps h.2]
theorem Og{st:St}{τ:Ty}{f:Nat}{l:List D}{x:den τ}(h:(Zk st τ (.qN f l)).leads x):False:=by
 obtain⟨y,h1,h2⟩:=T.zd.1 h
 cases h1
 rw[T.ud]at h2
 cases τ<;>simp[eG,D.isAgg,Ty.isAgg,qg,jh,eX]at h2
theorem KV{st:St}{p:tI}{d:D}{x:p.den}(h:(unP st p d).leads x):yh d=yh (Tq p x):=by
 cases p with
 | ty τ=>cases d<;>first | rfl | exact(Og h).elim
 | rp τ=>cases d<;>first | rfl | exact h.elim
 | qN f caps =>
  cases d with
  | qN f' l =>
   simp only[unP]at h
   cases hb:Nat.beq f f' with
   | false=>rw[hb]at h; exact h.elim
   | true=>rw[Nat.eq_of_beq_eq_true hb]; rfl
  | _=>exact h.elim
theorem Vp{st:St}:∀ (l:List tI) (ds:List D) (x:jx l),(BI st l ds).leads x->ds.map yh=(QS l x).map yh
 | [],[],x,h=>rfl
 | [],_::_,x,h=>h.elim
 | [p],[],x,h=>h.elim
 | [p],[d],x,h=>by show[yh d]=[yh (Tq p x)]; rw[KV h]
 | [p],_::_::_,x,h=>h.elim
 | p::q::r,[],x,h=>h.elim
 | p::q::r,d::ds,x,h=>by
  obtain⟨y,h1,h2⟩:=T.zd.1 h
  obtain⟨z,h3,h4⟩:=T.zd.1 h2
  cases h4
  show yh d::ds.map yh=yh (Tq p y)::(QS (q::r) z).map yh
  rw[KV h1,Vp (q::r) ds z h3]
def dat(d:D):Bool:=match d with | .zI _ _=>true | .qU _ _=>true | .qN _ _=>true | _=>false
theorem I3(p:tI)(x:p.den):dat (Tq p x)=true:=by cases p<;>rfl
theorem Ci:∀ (l:List tI) (x:jx l),∀ d∈QS l x,dat d=true
 | [],x,d,h=>by cases h
 | [p],x,d,h=>by have h:d∈[Tq p x]:=h; rw[List.mem_singleton]at h; subst h; exact I3 p x
 | p::q::r,x,d,h=>by
  rcases List.mem_cons.1 h with rfl | h
  ·exact I3 p x.1
  ·exact Ci (q::r) x.2 d h
theorem OM{a:AK}{d e:D}(h:yh d=yh e)(hd:dat e=true)(hf:z4q a e=true):z4q a d=true:=by
 cases e with
 | zI τ x=>cases a<;>first | (cases hf; done) | (cases d<;>first | rfl | (cases h; done))
 | qU τ x=>cases a<;>first | (cases hf; done) | (cases d<;>first | rfl | (cases h; done))
 | qN f l=>cases a<;>first | (cases hf; done) | (cases d<;>first | (cases h; exact hf) | cases h)
 | _=>cases hd
theorem QL:∀ {ks:List AK} {l m:List D},l.map yh=m.map yh->(∀ d∈m,dat d=true)->n7 ks m=true->n7 ks l=true
 | [],[],[],_,_,_=>rfl
 | [],_::_,[],h,_,_=>by cases h
 | [],_,_::_,_,_,hf=>by cases hf
 | _::_,_,[],_,_,hf=>by cases hf
 | k::ks,[],_::_,h,_,_=>by cases h
 | k::ks,d::l,e::m,h,hd,hf=>by
  simp at h
  simp only[n7,Bool.and_eq_true]at hf ⊢
  exact⟨OM h.1 (hd e List.mem_cons_self) hf.1,QL h.2 (λx hx=>hd x (List.mem_cons_of_mem _ hx)) hf.2⟩
theorem dh.find_eq:∀ (t:dh) (g:Nat) {l m:List D} {d:B4},l.map yh=m.map yh->(∀ d∈m,dat d=true)->t.find g l=some (.d d)->t.find g m=some (.d d)
 | [],_,_,_,_,_,_,h=>h
 | (g',.d d')::r,g,l,m,d,h,hm,hf=>by
  simp only[dh.find,Tl.fits]at hf ⊢
  rw[<- Fj d'.ps h]
  cases hb:Nat.beq g' g&&fits d'.ps l with
  | true=>grind
  | false=>rw[hb,cond_false]at hf; rw[cond_false]; exact dh.find_eq r g h hm hf
 | (g',.s d')::r,g,l,m,d,h,hm,hf=>by
  simp only[dh.find,Tl.fits]at hf ⊢
  cases hb:Nat.beq g' g&&n7 d'.ks l with
  | true=>grind
  | false =>
   rw[hb,cond_false]at hf
   have:(Nat.beq g' g&&n7 d'.ks m)=false:=by
    cases hg:Nat.beq g' g with
    | false=>rfl
    | true =>
     rw[hg]at hb
     cases hk:n7 d'.ks m with
     | false=>rfl
     | true=>rw[QL h hm hk]at hb; cases hb
   rw[this,cond_false]
   exact dh.find_eq r g h hm hf
 | (g',.p d')::r,g,l,m,d,h,hm,hf=>by
  simp only[dh.find,Tl.fits]at hf ⊢
  cases hb:Nat.beq g' g&&n7 d'.ks l with
  | true=>grind
  | false =>
   rw[hb,cond_false]at hf
   have:(Nat.beq g' g&&n7 d'.ks m)=false:=by
    cases hg:Nat.beq g' g with
    | false=>rfl
    | true =>
     rw[hg]at hb
     cases hk:n7 d'.ks m with
     | false=>rfl
     | true=>rw[QL h hm hk]at hb; cases hb
   rw[this,cond_false]
   exact dh.find_eq r g h hm hf
theorem dh.tU:∀ {t:dh} {g:Nat} {l:List D} {d:Tl},t.find g l=some d->(g,d)∈t
 | [],_,_,_,h=>by cases h
 | (g',d')::r,g,l,d,h=>by
  simp only[dh.find]at h
  cases hb:Nat.beq g' g&&d'.fits l with
  | true =>
   rw[hb,cond_true]at h
   cases h
   simp only[Bool.and_eq_true]at hb
   rw[Nat.eq_of_beq_eq_true hb.1]
   simp
  | false=>rw[hb,cond_false]at h; exact List.mem_cons_of_mem _ (dh.tU h)
def zu(P:Program)(g:Nat)(d:B4):Prop:=∀ (κ:KS) (x:jx d.ps) (zA:List Value) (y:KD d.rs),κ.st=[]->(d.F x).leads y->Inv κ->qH κ (QS d.ps x) zA ->
 uE P g zA.toArray κ.w λe w'=>∃ κ':KS,κ'.w=w'/\κ'.st=[]/\Inv κ'/\Ext κ κ'/\wy κ' (.ret (ZI d.rs y)) e
def BE(P:Program)(g:Nat):Tl->Prop
 | .d d=>zu P g d
 | .s d=>wa P g d
 | .p d=>kO P g d
def y8(P:Program)(t:dh):Prop:=∀ p∈t,BE P p.1 p.2
theorem LN(P:Program):y8 P []:=by nofun
theorem YY{P:Program}{g:Nat}{d:Tl}{t:dh}(h:BE P g d)(ht:y8 P t):y8 P ((g,d)::t):=by
 intro p hp
 rcases List.mem_cons.1 hp with rfl | hp
 ·exact h
 ·exact ht p hp
theorem Ef{P:Program}{g:Nat}{d:B4}{t:dh}(h:zu P g d)(ht:y8 P t):y8 P ((g,.d d)::t):=YY (d:=.d d) h ht
theorem Bz{P:Program}{g:Nat}{d:ke}{t:dh}(h:wa P g d)(ht:y8 P t):y8 P ((g,.s d)::t):=YY (d:=.s d) h ht
theorem Cm{P:Program}{g:Nat}{d:fm}{t:dh}(h:kO P g d)(ht:y8 P t):y8 P ((g,.p d)::t):=YY (d:=.p d) h ht
theorem B4.snd{P:Program}{g:Nat}{d:B4}(h:zu P g d):GY P g d.S:=by
 intro κ args zA rs zr hl hI ha
 unfold B4.S at hl
 split at hl
 ·rename_i xM
  obtain⟨x,h1,h2⟩:=T.zd.1 hl
  obtain⟨y,h3,h4⟩:=T.zd.1 h2
  cases h4
  exact h κ x zA y xM h3 hI (QI ha (WL _ _ _ h1))
 ·exact hl.elim
theorem YK{P:Program}{xid:Nat}{tab:dh}{ro:Nat->Bool}(h:y8 P tab):∀ g,GY (u7 P xid tab ro).P g ((u7 P xid tab ro).fn g):=by
 intro g κ args zA rs zr hl hI ha
 simp only[u7,dh.call]at hl
 split at hl
 ·rename_i d hd
  exact B4.snd (h _ (dh.tU hd):BE P g (.d d)) κ args zA rs zr hl hI ha
 ·rename_i d hd
  exact ke.snd (h _ (dh.tU hd):BE P g (.s d)) κ args zA rs zr hl hI ha
 ·rename_i d hd
  exact fm.snd (h _ (dh.tU hd):BE P g (.p d)) κ args zA rs zr hl hI ha
 ·exact hl.elim
section
variable {P:Program} {xid:Nat} {tab:dh} {ro:Nat->Bool} {α:Type}
def IS(c:Ctx)(f:Option D)(args:List (Option D))(st:St)(d:D)(zr:St):Prop :=
 ∃ g caps l,f=some (.qN g caps)/\uB args=some l/\(c.fn (yu g) (jj g l caps) st).leads (.kM d,zr)
def L4(c:Ctx)(o:Oper)(s:dr)(d:D)(zr:St):Prop :=
 (∃ x t e,o.op=.panic x/\uI s.fr x=some d/\d=.iface t e/\zr=s.st) \/
 ∃ f args nz,o.op=.call ⟨.value f,args,nz⟩/\IS c (uI s.fr f) (args.toList.map (uI s.fr)) s.st d zr
theorem CH{f:Option D}{args:List (Option D)}{st:St}{k:Nat->Option D->St->T α}{kp:D->St->T α}{r:α}(h:(Gy tab f args st k kp).leads r) :
  (∃ d zr,(zH (cP (u7 P xid tab ro) f args) st).leads (d,zr)/\(k (cP (u7 P xid tab ro) f args).kind d zr).leads r) \/
  ∃ d zr,IS (u7 P xid tab ro) f args st d zr/\(kp d zr).leads r:=by
 unfold Gy at h
 split at h
 ·rename_i g caps l hl
  unfold z2O at h
  split at h
  ·exact h.elim
  ·rename_i d hd
   have Lx:(u7 P xid tab ro).sig (yu g) (jj g l caps)=some ⟨d.ps,d.rs⟩:=by simp only[u7]; rw[hd]
   have NM:cP (u7 P xid tab ro) (some (.qN g caps)) args=gw (u7 P xid tab ro) (yu g) ⟨d.ps,d.rs⟩ (jj g l caps):=by simp only[cP,hl,Lx]
   rw[NM]
   have hfn:∀ {st0:St} (x:jx d.ps) (y:KD d.rs),(BI st0 d.ps (jj g l caps)).leads x->(d.F x).leads y->((u7 P xid tab ro).fn (yu g) (QS d.ps x) []).leads (.ret (ZI d.rs y),[]):=by
    intro st0 x y hx hy
    simp only[u7,dh.call]
    rw[dh.find_eq tab (yu g) (Vp _ _ _ hx) (Ci d.ps x) hd]
    exact T.zd.2 ⟨x,Yv [] d.ps x,T.zd.2 ⟨y,hy,rfl⟩⟩
   cases hn : !((jj g l caps).any Vk)with
   | true =>
    rw[hn,cond_true]at h
    obtain⟨x,h1,h2⟩:=T.zd.1 h
    obtain⟨y,h3,h4⟩:=T.zd.1 h2
    have hc:gw (u7 P xid tab ro) (yu g) ⟨d.ps,d.rs⟩ (jj g l caps)=.val ((nc [] d.ps (jj g l caps)).bind λl=>((u7 P xid tab ro).fn (yu g) l []).bind PT):=by
     unfold gw; rw[hn]; rfl
    rw[hc]
    refine .inl ⟨_,_,T.zd.2 ⟨_,T.zd.2 ⟨_,WL _ _ _ h1,T.zd.2 ⟨_,hfn x y h1 h3,rfl⟩⟩,rfl⟩,h4⟩
   | false =>
    rw[hn,cond_false]at h
    obtain⟨x,h1,h2⟩:=T.zd.1 h
    obtain⟨y,h3,h4⟩:=T.zd.1 h2
    have hc:gw (u7 P xid tab ro) (yu g) ⟨d.ps,d.rs⟩ (jj g l caps)=.rd λst=>(nc st d.ps (jj g l caps)).bind λl=>((u7 P xid tab ro).fn (yu g) l []).bind pE:=by
     unfold gw; rw[hn]; rfl
    rw[hc]
    cases hs:(ZI d.rs y).all rG with
    | false=>rw[hs]at h4; exact h4.elim
    | true =>
     rw[hs]at h4
     refine .inl ⟨_,_,T.zd.2 ⟨_,T.zd.2 ⟨_,WL _ _ _ h1,T.zd.2 ⟨_,hfn x y h1 h3,?_⟩⟩,rfl⟩,h4⟩
     simp only[pE,hs,cond_true]
     rfl
  ·rename_i d hd
   have Lx:(u7 P xid tab ro).sig (yu g) (jj g l caps)=none:=by simp only[u7]; rw[hd]
   have NM:cP (u7 P xid tab ro) (some (.qN g caps)) args=pL (u7 P xid tab ro) (yu g) (jj g l caps):=by simp only[cP,hl,Lx]
   rw[NM]
   obtain⟨ds,zr,h1,h2⟩:=ke.RU h
   refine .inl ⟨_,zr,T.zd.2 ⟨(.ret ds,zr),?_,rfl⟩,h2⟩
   simp only[u7,dh.call]
   grind
  ·rename_i d hd
   have Lx:(u7 P xid tab ro).sig (yu g) (jj g l caps)=none:=by simp only[u7]; rw[hd]
   have NM:cP (u7 P xid tab ro) (some (.qN g caps)) args=pL (u7 P xid tab ro) (yu g) (jj g l caps):=by simp only[cP,hl,Lx]
   rw[NM]
   rcases fm.RU h with⟨ds,zr,h1,h2⟩ | ⟨p,zr,h1,h2⟩
   ·refine .inl ⟨_,zr,T.zd.2 ⟨(.ret ds,zr),?_,rfl⟩,h2⟩
    simp only[u7,dh.call]
    grind
   ·refine .inr ⟨p,zr,⟨g,caps,l,rfl,hl,?_⟩,h2⟩
    simp only[u7,dh.call]
    grind
 ·exact h.elim
theorem mT{o:Oper}{s:dr}{k:dr->T α}{kp:D->St->T α}{r:α}(h:(pV (u7 P xid tab ro) tab n o s k kp).leads r) :
  (∃ s',(gX (u7 P xid tab ro) n o s).leads s'/\(k s').leads r)\/∃ d zr,L4 (u7 P xid tab ro) o s d zr/\(kp d zr).leads r:=by
 unfold pV at h
 unfold gX
 cases hd:vS n o.dst with
 | false=>rw[hd]at h; exact h.elim
 | true =>
  rw[hd,cond_true]at h
  rw[cond_true]
  obtain⟨dst,op,ty,pos,after,guard⟩:=o
  have gen:((zH (nj (u7 P xid tab ro) s.kn s.fr ⟨dst,op,ty,pos,after,guard⟩) s.st).bind λr=>k ⟨s.fr.put dst r.1,Jx s.kn dst (JI s.kn op),r.2,(nj (u7 P xid tab ro) s.kn s.fr ⟨dst,op,ty,pos,after,guard⟩).kind::s.ks,wh (u7 P xid tab ro) (uI s.fr) s.st ⟨dst,op,ty,pos,after,guard⟩::s.bk⟩).leads r ->
    ∃ s',(let cl:=nj (u7 P xid tab ro) s.kn s.fr ⟨dst,op,ty,pos,after,guard⟩; (zH cl s.st).bind λr=>T.ret (⟨s.fr.put dst r.1,Jx s.kn dst (JI s.kn op),r.2,cl.kind::s.ks,wh (u7 P xid tab ro) (uI s.fr) s.st ⟨dst,op,ty,pos,after,guard⟩::s.bk⟩:dr)).leads s'/\(k s').leads r:=by
   intro h
   obtain⟨x,h1,h2⟩:=T.zd.1 h
   exact⟨_,T.zd.2 ⟨x,h1,rfl⟩,h2⟩
  cases op with
  | call cl =>
   obtain⟨callee,args,nz⟩:=cl
   cases callee with
   | value f =>
    rcases CH (P:=P) (xid:=xid) (ro:=ro) h with⟨d,zr,h1,h2⟩ | ⟨d,zr,h1,h2⟩
    ·exact .inl ⟨_,T.zd.2 ⟨(d,zr),h1,rfl⟩,h2⟩
    ·exact .inr ⟨d,zr,.inr ⟨f,args,nz,rfl,h1⟩,h2⟩
   | _=>grind
  | panic x =>
   simp only at h
   split at h
   ·rename_i t e hx
    exact .inr ⟨_,_,.inl ⟨x,t,e,rfl,hx,rfl,rfl⟩,h⟩
   ·exact h.elim
  | _=>grind
theorem M1{ops:Array Oper}{o:Oper}{s:dr}{k:dr->T α}{kp:D->St->T α}{r:α}(hkn:vA s.kn s.fr.get)(h:(E6 (u7 P xid tab ro) tab n ops o s k kp).leads r) :
  (∃ s',(stepG (u7 P xid tab ro) n ops o s).leads s'/\(k s').leads r)\/∃ d zr,wi ops s.fr.get o=some true/\L4 (u7 P xid tab ro) o s d zr/\(kp d zr).leads r:=by
 obtain⟨dst,op,ty,pos,after,guard⟩:=o
 cases guard with
 | none =>
  rcases mT h with h | ⟨d,zr,h1,h2⟩
  ·exact .inl h
  ·exact .inr ⟨d,zr,rfl,h1,h2⟩
 | some jw =>
  obtain⟨j,want⟩:=jw
  simp only[E6]at h
  simp only[stepG]
  cases hg:uH ops j with
  | none=>rw[hg]at h; exact h.elim
  | some t =>
   rw[hg]at h
   simp only at h ⊢
   cases hk:s.kn.get t with
   | some b =>
    rw[hk]at h
    simp only at h ⊢
    have hw:wi ops s.fr.get ⟨dst,op,ty,pos,after,some (j,want)⟩=some (b==want):=by simp[wi,hg,hkn t b hk]
    cases hb:b==want with
    | true =>
     rw[hb,cond_true]at h; rw[cond_true]
     rcases mT h with h | ⟨d,zr,h1,h2⟩
     ·grind
     ·grind
    | false =>
     rw[hb,cond_false]at h; rw[cond_false]
     cases hd:vS n dst with
     | true=>rw[hd,cond_true]at h; exact .inl ⟨_,rfl,h⟩
     | false=>rw[hd,cond_false]at h; exact h.elim
   | none =>
    rw[hk]at h
    simp only at h ⊢
    split at h
    ·rename_i x hf
     rw[hf]
     simp only
     have hw:wi ops s.fr.get ⟨dst,op,ty,pos,after,some (j,want)⟩=some (x==want):=by simp[wi,hg,hf]
     cases hd:vS n dst with
     | false=>rw[hd]at h; exact h.elim
     | true =>
      rw[hd,cond_true]at h; rw[cond_true]
      rcases h with⟨hx,h⟩ | ⟨hx,h⟩
      ·subst hx
       cases want with
       | true =>
        rw[cond_true]at h
        rcases mT h with⟨s',h1,h2⟩ | ⟨d,zr,h1,h2⟩
        ·exact .inl ⟨s',.inl ⟨rfl,h1⟩,h2⟩
        ·exact .inr ⟨d,zr,hw,h1,h2⟩
       | false=>rw[cond_false]at h; exact .inl ⟨_,.inl ⟨rfl,rfl⟩,h⟩
      ·subst hx
       cases want with
       | true=>rw[cond_true]at h; exact .inl ⟨_,.inr ⟨rfl,rfl⟩,h⟩
       | false =>
        rw[cond_false]at h
        rcases mT h with⟨s',h1,h2⟩ | ⟨d,zr,h1,h2⟩
        ·exact .inl ⟨s',.inr ⟨rfl,h1⟩,h2⟩
        ·exact .inr ⟨d,zr,hw,h1,h2⟩
    ·rename_i hf
     rw[hf]
     simp only
     cases hd:vS n dst with
     | true=>rw[hd,cond_true]at h; exact .inl ⟨_,rfl,h⟩
     | false=>rw[hd,cond_false]at h; exact h.elim
    ·exact h.elim
def CX(c:Ctx)(n:Nat)(ops:Array Oper)(l:List Oper)(s:dr)(d:D)(zr:St):Prop :=
 ∃ pre o post s1,l=pre++o::post/\(iw c n ops pre s).leads s1/\wi ops s1.fr.get o=some true/\L4 c o s1 d zr
theorem tg{ops:Array Oper}:∀ (l:List Oper) {s:dr} {k:dr->T α} {kp:D->St->T α} {r:α},vA s.kn s.fr.get->(∀ o∈l,∃ i:Nat,ops[i]? = some o)->(WI (u7 P xid tab ro) tab n ops l s k kp).leads r ->
  (∃ s',(iw (u7 P xid tab ro) n ops l s).leads s'/\(k s').leads r)\/∃ d zr,CX (u7 P xid tab ro) n ops l s d zr/\(kp d zr).leads r
 | [],s,k,kp,r,_,_,h=>.inl ⟨s,rfl,h⟩
 | o::l,s,k,kp,r,hk,hl,h=>by
  rcases M1 hk h with⟨s1,h1,h2⟩ | ⟨d,zr,h1,h2,h3⟩
  ·obtain⟨i,hi⟩:=hl o List.mem_cons_self
   obtain⟨_,_,hk1,_⟩:=Kx hi hk h1
   rcases tg l hk1 (λo' ho=>hl o' (List.mem_cons_of_mem _ ho)) h2 with⟨s2,h3,h4⟩ | ⟨d,zr,⟨pre,o',post,s2,e,g1,g2,g3⟩,h4⟩
   ·exact .inl ⟨s2,T.zd.2 ⟨s1,h1,h3⟩,h4⟩
   ·exact .inr ⟨d,zr,⟨o::pre,o',post,s2,by grind,T.zd.2 ⟨s1,h1,g1⟩,g2,g3⟩,h4⟩
  ·exact .inr ⟨d,zr,⟨[],o,l,s,rfl,rfl,h1,h2⟩,h3⟩
theorem Jt{ops:Array Oper}{draw:Bool}{fr:Fr}{kn:Kn}{st:St}{k:dr->T α}{kp:D->St->T α}{r:α}(hk:vA kn fr.get)(h:(V7 (u7 P xid tab ro) tab n ops draw fr kn st k kp).leads r) :
  (∃ s',(bQ (u7 P xid tab ro) n ops draw fr kn st).leads s'/\(k s').leads r)\/∃ d zr,draw=false/\CX (u7 P xid tab ro) n ops ops.toList ⟨fr,kn,st,[],[]⟩ d zr/\(kp d zr).leads r:=by
 rcases tg _ hk (λo ho=>by obtain⟨i,hi,he⟩:=List.getElem_of_mem ho; exact⟨i,by grind⟩) h with⟨s',h1,h2⟩ | ⟨d,zr,h1,h2⟩
 ·cases hd : !draw||tH ops s'.ks.reverse s'.bk.reverse with
  | false=>rw[hd]at h2; exact h2.elim
  | true =>
   rw[hd,cond_true]at h2
   refine .inl ⟨s',T.zd.2 ⟨s',h1,?_⟩,h2⟩
   rw[hd]; rfl
 ·cases draw with
  | true=>exact h2.elim
  | false=>grind
end
end
end Go.AM
namespace Go.AM
set_option linter.unusedSectionVars false
variable [vU] [J9]
open Go.RowKit
theorem VH{α β:Type}{f:α->β}{t:T α}{x:α}(h:t.leads x):(HG f t).leads (f x):=by
 induction t with
 | ret a=>exact congrArg f h
 | ite b p q ip iq=>exact eP h (λh=>⟨h.1,ip h.2⟩) (λh=>⟨h.1,iq h.2⟩)
 | zM p t ih=>exact⟨h.1,ih h.2⟩
 | fail=>exact h.elim
theorem FN:∀ (l:List It) (d:wK l) (t:T (wK l)) (x:wK l),t.leads x->Lw l d t=x
 | [],_,_,_,_=>rfl
 | [_],d,t,x,h=>((T.VS d t x).1 h).2
 | i::j::r,d,t,x,h=>by
  have h1:=((T.VS d.1 _ _).1 (VH (f:=Prod.fst) h)).2
  have h2:=FN (j::r) d.2 _ _ (VH (f:=Prod.snd) h)
  show(T.val d.1 (HG Prod.fst t),Lw (j::r) d.2 (HG Prod.snd t))=x
  rw[h1,h2]
  exact rfl
theorem MH{α:Type}(t:T α)(h:t.Wb):∃ x,t.leads x:=by
 induction t with
 | ret a=>exact⟨a,rfl⟩
 | ite b p q ip iq =>
  unfold T.Wb at h ip iq
  simp only[T.tM]at h
  cases b with
  | true =>
   obtain⟨x,hx⟩:=ip (by grind)
   exact⟨x,.inl ⟨rfl,hx⟩⟩
  | false =>
   obtain⟨x,hx⟩:=iq (by grind)
   exact⟨x,.inr ⟨rfl,hx⟩⟩
 | zM p t ih =>
  unfold T.Wb at h ih
  simp only[T.tM]at h
  cases ht:t.tM with
  | none=>rw[ht]at h ih; obtain⟨x,hx⟩:=ih trivial; exact⟨x,h,hx⟩
  | some q=>rw[ht]at h ih; obtain⟨x,hx⟩:=ih h.2; exact⟨x,h.1,hx⟩
 | fail=>exact h.elim
theorem Bb{l:List It}{t:T (wK l)}{x:wK l}(h:(S5 l t).leads x):t.leads x:=by
 unfold S5 at h
 split at h
 ·rename_i d hd
  have key:t.Wb->Lw l d t=x->t.leads x:=by
   intro hp hv
   obtain⟨y,hy⟩:=MH t hp
   rw[<- hv,FN l d t y hy]; exact hy
  split at h
  ·rename_i hn; exact key (by unfold T.Wb; rw[hn]; trivial) h
  ·rename_i p hn; exact key (by unfold T.Wb; rw[hn]; exact h.1) h.2
 ·exact h.elim
def RIs(ws:List Way)(r:gJ ws)(w:Way)(x:w.sh.den):Prop:=∀ {α:Type} (k:Ex->Fr->St->T α),ET ws r k=k w.ex (w.sh.fr x) (w.sh.st x)
theorem Yz:∀ (ws:List Way) (ex:Ex) (fr:Fr) (st:St) (r:gJ ws),(YE ws ex fr st).leads r->∃ w,w∈ws/\∃ x:w.sh.den,RIs ws r w x/\pw w.ex ex=true/\(w.sh.un fr st).leads x
 | [],_,_,_,_,h=>h.elim
 | [w],ex,fr,st,r,h=>by
  have h:(bif pw w.ex ex then w.sh.un fr st else .fail:T w.sh.den).leads r:=h
  cases hs:pw w.ex ex with
  | false=>rw[hs]at h; exact h.elim
  | true=>rw[hs]at h; exact⟨w,by simp,r,λk=>rfl,hs,h⟩
 | w::v::ws,ex,fr,st,r,h=>by
  have h:(bif pw w.ex ex then(w.sh.un fr st).bind λx=>T.ret (Sum.inl x:w.sh.den⊕gJ (v::ws))else(YE (v::ws) ex fr st).bind λy=>T.ret (Sum.inr y)).leads r:=h
  cases hs:pw w.ex ex with
  | true =>
   rw[hs]at h
   obtain⟨x,h1,h2⟩:=T.zd.1 h
   subst h2
   exact⟨w,by simp,x,λk=>rfl,hs,h1⟩
  | false =>
   rw[hs]at h
   obtain⟨y,h1,h2⟩:=T.zd.1 h
   subst h2
   obtain⟨w',k1,x,k2,k3,k4⟩:=Yz (v::ws) ex fr st y h1
   exact⟨w',List.mem_cons_of_mem _ k1,x,λk=>k2 k,k3,k4⟩
def z4I(κ:KS)(n:Nat)(w:Way)(z:w.sh.den)(a:Act)(fX:Exit):Prop:=∀ q,BK w.ex (w.sh.fr z)=some q->Rel κ n q.2.get a/\Hv κ q.1 fX
theorem RN{κ0 κ:KS}{n:Nat}{a:Act}{w:Way}{z:w.sh.den}{oex:Ex}{ofr:Fr}{fX:Exit}(hx:Ext κ0 κ)(hI:Inv κ)(hR:Rel κ n ofr.get a)(he:Hv κ oex fX)(hs:pw w.ex oex=true)(hl:κ0.st.length<=w.sh.bs.length)
  (h:(w.sh.un (Jy oex ofr) κ.st).leads z):∃ κ1:KS,κ1.w=κ.w/\κ1.st=w.sh.st z/\Inv κ1/\Ext κ0 κ1/\z4I κ1 n w z a fX:=by
 have plain:Jy oex ofr=ofr->(∀ q,BK w.ex (w.sh.fr z)=some q->q.2=w.sh.fr z/\∀ κ1:KS,Hv κ1 q.1 fX)->∃ κ1:KS,κ1.w=κ.w/\κ1.st=w.sh.st z/\Inv κ1/\Ext κ0 κ1/\z4I κ1 n w z a fX:=by
  intro e1 e2
  rw[e1]at h
  obtain⟨κ1,q1,q2,q3,q4,q5,_⟩:=w.sh.Z0 (n:=n) hx hI hR hl h
  exact⟨κ1,q1,q2,q3,q4,λq hq=>by obtain⟨g1,g2⟩:=e2 q hq; rw[g1]; exact⟨q5,g2 κ1⟩⟩
 cases hw:w.ex with
 | normal =>
  rw[hw]at hs
  cases oex<;>first | (cases hs; done) | skip
  exact plain rfl λq hq=>by rw[hw]at hq; cases hq; exact⟨rfl,λ_=>he⟩
 | ret =>
  rw[hw]at hs
  cases oex<;>first | (cases hs; done) | skip
  exact plain rfl λq hq=>by rw[hw]at hq; cases hq; exact⟨rfl,λ_=>he⟩
 | exit id =>
  rw[hw]at hs
  cases oex<;>first | (cases hs; done) | skip
  rename_i id'
  have:id=id':=Nat.eq_of_beq_eq_true hs
  subst this
  exact plain rfl λq hq=>by rw[hw]at hq; cases hq; exact⟨rfl,λ_=>he⟩
 | kM p =>
  rw[hw]at hs
  cases p<;>first | (cases hs; done) | skip
  rename_i t p
  cases oex<;>first | (cases hs; done) | skip
  rename_i p'
  cases p'<;>first | (cases hs; done) | skip
  rename_i t' d
  have:t=t':=Nat.eq_of_beq_eq_true hs
  subst this
  obtain⟨v,rfl,hv⟩:=he
  cases hv with
  | iface _ _ u hu =>
   have K4:Rel κ 1 (Jy (.kM (.iface t d)) ofr).get { tmps := #[u],defers:=J9.df }:=by
    refine⟨rfl,rfl,λs d' hd => ?_⟩
    simp only[Jy,Fr.get]at hd
    cases hb:Nat.beq 0 s with
    | true =>
     have:=Nat.eq_of_beq_eq_true hb
     grind
    | false=>grind
   obtain⟨κ1,q1,q2,q3,q4,q5,_⟩:=w.sh.Z0 (n:=1) hx hI K4 hl h
   refine⟨κ1,q1,q2,q3,q4,λq hq => ?_⟩
   rw[hw]at hq
   simp only[BK]at hq
   split at hq
   ·rename_i d' kR
    cases hq
    obtain⟨v',g1,g2⟩:=q5.get 0 d' kR
    cases g1
    exact⟨⟨hR.size,hR.defers,λs d hd=>by cases hd⟩,_,rfl,.iface t d' _ g2⟩
   ·cases hq
theorem iP(st:St):∀ (bs:List Bk) (bd:List Bd),(vL st bs bd).length<=bs.length
 | [],_=>by simp[vL]
 | .arr _::r,[]=>by simp[vL]
 | .arr _::r,.v _ _::_=>by simp[vL]
 | .arr _::r,.a _ _::d=>by have:=iP st r d; simp[vL]; exact this
 | .var _::r,[]=>by simp[vL]
 | .var _::r,.a _ _::_=>by simp[vL]
 | .var _::r,.v _ _::d=>by have:=iP st r d; simp[vL]; exact this
 | .cvar _::r,d=>by have:=iP st r d; cases d<;>(simp[vL]; exact this)
 | .dead::r,d=>by have:=iP st r d; cases d<;>(simp[vL]; exact this)
theorem vQ.tp(s:vQ)(x:s.den):(s.st x).length<=s.bs.length:=iP _ _ _
theorem Xk{l m:Fr}{s:Nat}{d:D}(h:(l++m).get s=some d):l.get s=some d\/m.get s=some d:=by
 induction l with
 | nil=>grind
 | cons p r ih =>
  simp only[List.cons_append,Fr.get]at h ⊢
  grind
theorem Ns{l:List Nat}{fr:Fr}{s:Nat}{d:D}(h:(cW l++fr).get s=some d):s ∉ l/\fr.get s=some d:=by
 induction l with
 | nil=>exact⟨by simp,h⟩
 | cons t r ih =>
  simp only[cW,List.map_cons,List.cons_append,Fr.get]at h
  cases ht:Nat.beq t s with
  | true=>grind
  | false =>
   rw[ht,cond_false]at h
   obtain⟨h1,h2⟩:=ih h
   refine⟨?_,h2⟩
   simp
   exact⟨λe=>by subst e; simp at ht,h1⟩
theorem Zc{o:Oper}{s:Nat}:∀ {l:List Oper},o∈l->o.dst=some s->s∈dstsOf l
 | p::r,h,hs=>by
  simp only[dstsOf]
  rcases List.mem_cons.1 h with rfl | h
  ·grind
  ·split
   ·exact List.mem_cons_of_mem _ (Zc h hs)
   ·exact Zc h hs
def Kept(code:Code)(a a':Act):Prop:=∀ s:Nat,s ∉ qj code->a'.tmps[s]? = a.tmps[s]?
section
variable {P:Program} {xid:Nat} {tab:dh} {ro:Nat->Bool} {n:Nat} {H:Hints}
theorem pJ{κ κ':KS}{fr out:Fr}{a a':Act}{ws:List Nat}(hR:Rel κ n fr.get a)(hx:Ext κ κ')(ho:Rel κ' n out.get a')(hk:∀ s:Nat,s ∉ ws->a'.tmps[s]? = a.tmps[s]?):Rel κ' n (out++(cW ws++fr)).get a':=by
 refine⟨ho.size,ho.defers,λs d hd => ?_⟩
 rcases Xk hd with h | h
 ·exact ho.get s d h
 ·obtain⟨h1,h2⟩:=Ns h
  obtain⟨v,g1,g2⟩:=hR.get s d h2
  exact⟨v,(hk s h1).trans g1,g2.mono hx⟩
theorem YQ{c:Ctx}{ops:Array Oper}:∀ (l:List Oper) (s s':dr),(iw c n ops l s).leads s'->quiet s'.ks=true->s'.st=s.st/\quiet s.ks=true:=by
 have hq:∀ {k:Nat} {ks:List Nat},quiet (k::ks)=true->Nat.beq k 2=false/\quiet ks=true:=by
  intro k ks h
  simp only[quiet,List.all_cons,Bool.and_eq_true,Bool.not_eq_true']at h
  exact⟨h.1,by unfold quiet; exact h.2⟩
 have one:∀ (o:Oper) (s s1:dr),(gX c n o s).leads s1->quiet s1.ks=true->s1.st=s.st/\quiet s.ks=true:=by
  intro o s s1 h hk
  unfold gX at h
  cases hd:vS n o.dst with
  | false=>rw[hd]at h; exact h.elim
  | true =>
   rw[hd,cond_true]at h
   obtain⟨r,h1,h2⟩:=T.zd.1 h
   cases h2
   obtain⟨g1,g2⟩:=hq hk
   refine⟨?_,g2⟩
   show r.2=s.st
   generalize nj c s.kn s.fr o=cl at h1 g1
   cases cl with
   | val t=>obtain⟨d,_,h3⟩:=T.zd.1 h1; cases h3; rfl
   | rd k=>obtain⟨d,_,h3⟩:=T.zd.1 h1; cases h3; rfl
   | wr k=>cases g1
 have skp:∀ (o:Oper) (s:dr),quiet (jm o s).ks=true->(jm o s).st=s.st/\quiet s.ks=true:=λo s h=>⟨rfl,(hq h).2⟩
 have gd:∀ (o:Oper) (s s1:dr),(stepG c n ops o s).leads s1->quiet s1.ks=true->s1.st=s.st/\quiet s.ks=true:=by
  intro o s s1 h hk
  obtain⟨dst,op,ty,pos,after,guard⟩:=o
  cases guard with
  | none=>exact one _ s s1 h hk
  | some jw =>
   obtain⟨j,want⟩:=jw
   simp only[stepG]at h
   cases hg:uH ops j with
   | none=>rw[hg]at h; exact h.elim
   | some t =>
    rw[hg]at h
    simp only at h
    cases hkn:s.kn.get t with
    | some b =>
     rw[hkn]at h
     simp only at h
     cases hb:b==want with
     | true=>grind
     | false =>
      rw[hb,cond_false]at h
      cases hd:vS n dst with
      | false=>rw[hd]at h; exact h.elim
      | true=>rw[hd,cond_true]at h; cases h; exact skp _ s hk
    | none =>
     rw[hkn]at h
     simp only at h
     split at h
     ·cases hd:vS n dst with
      | false=>rw[hd]at h; exact h.elim
      | true =>
       rw[hd,cond_true]at h
       rcases h with⟨_,h⟩ | ⟨_,h⟩
       ·cases want with
        | true=>rw[cond_true]at h; exact one _ (s.bh t true) s1 h hk
        | false=>rw[cond_false]at h; cases h; exact skp _ (s.bh t true) hk
       ·cases want with
        | true=>rw[cond_true]at h; cases h; exact skp _ (s.bh t false) hk
        | false=>rw[cond_false]at h; exact one _ (s.bh t false) s1 h hk
     ·cases hd:vS n dst with
      | false=>rw[hd]at h; exact h.elim
      | true=>rw[hd,cond_true]at h; cases h; exact skp _ s hk
     ·exact h.elim
 intro l
 induction l with
 | nil=>intro s s' h hk; cases h; exact⟨rfl,hk⟩
 | cons o l ih =>
  intro s s' h hk
  obtain⟨s1,h1,h2⟩:=T.zd.1 h
  obtain⟨g1,g2⟩:=ih s1 s' h2 hk
  obtain⟨k1,k2⟩:=gd o s s1 h1 g2
  exact⟨g1.trans k1,k2⟩
theorem Yr{c:Ctx}{ops:Array Oper}{draw:Bool}{fr:Fr}{kn:Kn}{st:St}{s':dr}(h:(bQ c n ops draw fr kn st).leads s')(hq:quiet s'.ks=true):s'.st=st:=by
 obtain⟨s1,h1,h2⟩:=T.zd.1 h
 cases hd:(!draw||tH ops s1.ks.reverse s1.bk.reverse)with
 | false=>rw[hd]at h2; exact h2.elim
 | true=>rw[hd,cond_true]at h2; cases h2; exact(YQ _ _ _ h1 hq).1
theorem Rb{c:Ctx}{κ:KS}{a:Act}{o:Oper}{g:Nat}{args:Array Value}{R:Ending->World->Prop}(vF:(execOp a.eval o).run c.P κ.w=(callFunc g args).run c.P κ.w)
  (h:uE c.P g args κ.w R) {K:Act->World->Prop} {Q:Exit->Act->World->Prop} (hR:∀ e w',R e w'->∃ ch,e=.panicked ch/\Q (.panic ch) a w'):o.wp c.P a κ.w K Q:=by
 unfold Oper.wp
 rw[vF]
 rcases h with⟨h1,h2⟩ | ⟨v,w',h1,h2⟩
 ·rw[h1]
  refine h2.mono λe w' he => ?_
  grind
 ·grind
theorem NS{c:Ctx}{κ:KS}{n:Nat}{a:Act}{o:Oper}{s:dr}{d:D}{zr:St}(hC:∀ g,GY c.P g (c.fn g))(hI:Inv κ)(hR:Rel κ n s.fr.get a)(xM:κ.st=s.st)(h:L4 c o s d zr){K:Act->World->Prop}{Q:Exit->Act->World->Prop}
  (hQ:∀ (v:Value) (κ':KS),κ'.st=zr->Inv κ'->Ext κ κ'->RD κ' d v->Q (.panic [{ v,recovered:=false }]) a κ'.w):o.wp c.P a κ.w K Q:=by
 have fg:∀ (x:Operand) (z:D),uI s.fr x=some z->RD κ z (a.eval x):=λx z hz=>hR.eval (by rw[<- gz]; exact hz)
 obtain⟨dst,op,ty,pos,after,guard⟩:=o
 rcases h with⟨x,t,e,rfl,hx,rfl,rfl⟩ | ⟨f,args,nz,rfl,g,caps,l,hp,hl,hc⟩
 ·have hv:=fg x _ hx
  generalize BS:a.eval x=pv at hv
  cases hv with
  | iface _ _ u hu =>
   have vF:(execOp a.eval ⟨dst,.panic x,ty,pos,after,guard⟩).run c.P κ.w=.halt (.panic (.iface t u)) κ.w:=by
    simp[execOp,BS,Instr.panic]
   unfold Oper.wp
   rw[vF]
   exact hQ _ κ xM hI (Ext.refl κ) (.iface t e u hu)
 ·have TA:=fg f _ hp
  have hr:=yO (κ:=κ) (vs:=args.toList.map a.eval) hl (by simp) (λi d v hd hv=>by
      simp only[List.getElem?_map]at hd hv
      cases hi:args.toList[i]? with
      | none=>grind
      | some x=>rw[hi]at hd hv; simp at hd hv; subst hv; exact fg x d hd)
  generalize BS:a.eval f=pv at TA
  cases TA with
  | qN _ _ us fh hh2 =>
   have rO:=UL g hr (⟨fh,hh2⟩:qH κ caps us)
   rw[<- xM]at hc
   refine Rb (c:=c) (κ:=κ) (g:=yu g) (args:=(jj g (args.toList.map a.eval) us).toArray) ?_ (hC (yu g) κ _ _ _ _ hc hI rO) ?_
   ·exact Ca BS
   ·rintro e w' ⟨κ',rfl,h1,h2,h3,v,rfl,h4⟩
    grind
theorem MO{c:Ctx}{κ:KS}{n:Nat}{a:Act}{id:Nat}{ops:Array Oper}{fr:Fr}{kn:Kn}{d:D}{zr:St}(hC:∀ g,GY c.P g (c.fn g))(hI:Inv κ)(hR:Rel κ n fr.get a)(hk:vA kn fr.get)
  (h:CX c n ops ops.toList ⟨fr,kn,κ.st,[],[]⟩ d zr) {Q:Exit->Act->World->Prop}
  (hQ:∀ (v:Value) (a':Act) (κ':KS),κ'.st=zr->Inv κ'->Ext κ κ'->Rel κ' n (Fr.get []) a'->dT ops a a'->RD κ' d v->Q (.panic [{ v,recovered:=false }]) a' κ'.w):(Code.region id ops false).wp c.P Q a κ.w:=by
 obtain⟨pre,o,post,s1,e,h1,h2,h3⟩:=h
 have N9:∀ j:Nat,ops[j]? = (pre++o::post)[j]? := λj=>by rw[<- e]; simp
 obtain⟨ks,g1,g2,_⟩:=eS pre 0 ⟨fr,kn,κ.st,[],[]⟩ s1 (λj=>by
  by_cases hj:j<pre.length
  ·grind
  ·right; omega) hk h1
 have uU:List.range ops.size=List.range' 0 pre.length++pre.length::List.range' (pre.length+1) post.length:=by
  have:ops.size=pre.length+(post.length+1):=by rw[<- Array.length_toList,e]; simp
  rw[this,List.range_eq_range',<- List.range'_append_1,Nat.zero_add,List.range'_succ]
 refine wp_region ?_
 rw[uU]
 refine QX hC _ _ hI hR rfl g1 λa' κ' e1 e2 e3 e4 e5 => ?_
 rw[wpOps_cons]
 unfold wpOp
 have ho:ops[pre.length]? = some o:=by rw[N9]; simp
 rw[ho]
 simp only
 rw[if_pos (lp e4 h2)]
 exact .inl (NS hC e2 e4 e1 h3 λv ML f1 f2 f3 f4=>hQ v a' ML f1 f2 (e3.trans f3) ⟨e4.size,e4.defers,λs d hd=>by cases hd⟩ e5 f4)
def Z9(P:Program)(n:Nat)(l:zJ)(b:Code):Prop:=∀ (κ:KS) (a:Act) (p:wK l.ps) (s:l.sh.den) (r:gJ l.ws),(l.F p s).leads r->κ.st=l.sh.st s->Inv κ ->
 Rel κ n (l.sh.fr s).get a->Rel κ n (eR (l.sh.st s) l.ps p).get a->CP l.ps (qj b)=true->(∀ w∈l.ws,l.sh.bs.length<=w.sh.bs.length) ->
 ∀ Q:Exit->Act->World->Prop,(∀ (w:Way) (x:w.sh.den) (fX:Exit) (a':Act) (κ':KS),w∈l.ws->RIs l.ws r w x->κ'.st=w.sh.st x->Inv κ'->Ext κ κ'->z4I κ' n w x a' fX->Kept b a a'->Q fX a' κ'.w) ->
  (Code.loop b).wp P Q a κ.w
def uh(P:Program)(n:Nat)(H:Hints)(code:Code):Prop:=∀ p∈xo code,∀ l,H.loop p.1=some l->Z9 P n l p.2
theorem Rt{kn:Kn}:∀ (l:List Nat) {fr:Fr} {st:St} {r:Fr×St},(Tk l fr st).leads r->vA kn fr.get->vA kn r.1.get
 | [],fr,st,r,h,hk=>by cases h; exact hk
 | s::l,fr,st,r,h,hk=>by
  obtain⟨x,h1,h2⟩:=T.zd.1 h
  refine Rt l h2 λt b hb => ?_
  have hf:=hk t b hb
  unfold z2l at h1
  cases hW:Nat.ble 1000000 s with
  | true =>
   rw[hW,cond_true]at h1
   have hfr:x.1=fr:=by
    unfold z2u at h1
    split at h1
    ·split at h1
     ·split at h1
      ·split at h1
       ·obtain⟨_,h1⟩:=h1; cases h1; rfl
       ·exact h1.elim
      ·exact h1.elim
     ·cases h1; rfl
    ·cases h1; rfl
   grind
  | false =>
  rw[hW,cond_false]at h1
  unfold z0l at h1
  split at h1
  ·rename_i b' qB e off len hs
   split at h1
   ·split at h1
    ·obtain⟨_,h1⟩:=h1
     cases h1
     simp only[Fr.get]
     cases ht:Nat.beq s t with
     | true=>rw[<- Nat.eq_of_beq_eq_true ht,hs]at hf; cases hf
     | false=>grind
    ·exact h1.elim
   ·exact h1.elim
  ·cases h1; exact hf
theorem NW{c:Ctx}{t e:Nat}(hu:c.P.underlying t=some (.slice e)){op:BinOp}{b:Bool}(To:PG op=some b)(px py:Operand)(w:World)(x:Option Addr)(l k:Nat) :
  (do eqGuard op t px py (.slice x l k) (.slice none 0 0); binOp op t (.slice x l k) (.slice none 0 0):Sem Value).run c.P w=.ok (.bool (if b=true then x.isNone else !x.isNone)) w:=by
 cases op<;>simp only[PG]at To<;>cases To
 ·have:=run_eql_slice_nil (P:=c.P) w t e x l k hu
  simp only[eqGuard]
  simpa using this
 ·have:=run_neq_slice_nil (P:=c.P) w t e x l k hu
  simp only[eqGuard]
  simpa using this
theorem CG{ops:Array Oper}{fr:Fr}{p:zaN}(hp:YJ (u7 P xid tab ro) n ops fr=some p){κ:KS}{a:Act}{kn:Kn}(hI:Inv κ)(hR:Rel κ n fr.get a)(hk:vA kn fr.get){id:Nat}(Q:Exit->Act->World->Prop)
  (hQ:∀ a':Act,Kept (.region id ops false) a a' ->
   ((p.l=[]/\Rel κ n (Fr.get ((p.c,some (.zI .bool p.eq))::(p.m,some .xy)::(p.s,some .xy)::fr)) a')\/Rel κ n (Fr.get ((p.c,some (.zI .bool (!p.eq)))::(p.m,some (.zI (.sl p.e) p.l))::fr)) a')->Q .normal a' κ.w) :
  (Code.region id ops false).wp P Q a κ.w:=by
 unfold YJ at hp
 split at hp
 ·rename_i o1 o2 hops
  split at hp
  ·rename_i m s EB Sl hg1
   split at hp
   ·rename_i cc op t m' y ty' Tj Th hg2
    split at hp
    ·rename_i b e l et To hs hel
     cases hc:Nat.beq m m'&&CR y&&Nat.blt m n&&Nat.blt cc n with
     | false=>grind
     | true =>
      rw[hc,cond_true]at hp
      cases hp
      simp only[Bool.and_eq_true]at hc
      obtain⟨⟨⟨hmm,hy⟩,hmn⟩,hcn⟩:=hc
      have:=Nat.eq_of_beq_eq_true hmm
      subst this
      have hy':y=.const (.slice none 0 0):=by
       unfold CR at hy
       grind
      subst hy'
      obtain⟨v,hv,kR⟩:=hR.get s _ hs
      obtain⟨x,k,hvs⟩:∃ (x:Option Addr) (k:Nat),v=.slice x l.length k/\(x=none->l=[]/\k=0):=by
       rcases(kR.vi rfl).QV with⟨rfl,a0,he⟩ | ⟨blk,off,cap,f,he,wm,vc,h1,h2⟩
       ·grind
       ·grind
      obtain⟨rfl,hvn⟩:=hvs
      have uU:ops.size=2:=by rw[<- Array.length_toList,hops]; rfl
      have e0:ops[0]? = some o1:=by rw[<- Array.getElem?_toList,hops]; rfl
      have e1:ops[1]? = some o2:=by rw[<- Array.getElem?_toList,hops]; rfl
      have zdD:m<n:=Nat.le_of_ble_eq_true hmn
      have zio:cc<n:=Nat.le_of_ble_eq_true hcn
      have hsl:a.tmps.getD s undef=.slice x l.length k:=by simp[Array.getD_eq_getD_getElem?,hv]
      have wan:∀ (o:Oper) (ys:Nat->Option Value),o.guard=none->True:=λ_ _ _=>trivial
      refine wp_region ?_
      rw[uU,show List.range 2=[0,1]from rfl,wpOps_cons]
      unfold wpOp
      rw[e0]
      simp only
      rw[if_pos (by unfold Region.wanted; rw[hg1])]
      refine .inl ?_
      obtain⟨d1,op1,ty1,z63,af1,gu1⟩:=o1
      obtain⟨d2,op2,JO,z14,af2,gu2⟩:=o2
      simp only at EB Sl hg1 Tj Th hg2
      subst EB Sl hg1 Tj Th hg2
      have hx1:(execOp a.eval ⟨some m,.move (.tmp s),ty1,z63,af1,none⟩).run P κ.w=.ok (.value (.slice x l.length k)) κ.w:=by
       simp[execOp,Act.eval,hsl]
      unfold Oper.wp
      rw[hx1,Oper.upon_value,wpOps_cons]
      unfold wpOp
      rw[e1]
      simp only
      rw[if_pos (by unfold Region.wanted; rfl)]
      refine .inl ?_
      have fg:(a.put (some m) (.slice x l.length k)).eval (.tmp m)=.slice x l.length k:=by
       have:=hR.size
       simp[Act.eval,Act.put,Array.getD_eq_getD_getElem?,Array.getElem?_setIfInBounds,this,zdD]
      have hu:=uq hel
      have vF:=NW (c:=u7 P xid tab ro) hu To (.tmp m) (.const (.slice none 0 0)) κ.w x l.length k
      have Df:(execOp (a.put (some m) (.slice x l.length k)).eval ⟨some cc,.binOp op t (.tmp m) (.const (.slice none 0 0)) ty',JO,z14,af2,none⟩).run P κ.w=.ok (.value (.bool (if b=true then x.isNone else !x.isNone))) κ.w:=by
       have hex:execOp (a.put (some m) (.slice x l.length k)).eval ⟨some cc,.binOp op t (.tmp m) (.const (.slice none 0 0)) ty',JO,z14,af2,none⟩ =
        (do Pure.pure (.value (<- (do eqGuard op t (.tmp m) (.const (.slice none 0 0)) ((a.put (some m) (.slice x l.length k)).eval (.tmp m)) (.slice none 0 0); binOp op t ((a.put (some m) (.slice x l.length k)).eval (.tmp m)) (.slice none 0 0))))):=rfl
       rw[hex,fg,Sem.run_bind]
       rw[show(do eqGuard op t (.tmp m) (.const (.slice none 0 0)) (.slice x l.length k) (.slice none 0 0); binOp op t (.slice x l.length k) (.slice none 0 0):Sem Value).run P κ.w=_ from vF]
       rfl
      unfold Oper.wp
      rw[Df,Oper.upon_value]
      have z9L:∀ (q:Nat) (u:Value) (a1:Act) (t:Nat),(a1.put (some q) u).tmps[t]? = if q=t then(if q<a1.tmps.size then some u else none)else a1.tmps[t]? := by
       intro q u a1 t
       simp only[Act.put,Array.getElem?_setIfInBounds]
      have Si:(a.put (some m) (.slice x l.length k)).tmps.size=n:=by simp[Act.put,hR.size]
      have hs2:((a.put (some m) (.slice x l.length k)).put (some cc) (.bool (if b=true then x.isNone else !x.isNone))).tmps.size=n:=by simp[Act.put,hR.size]
      refine hQ _ (λt ht => ?_) ?_
      ·have hw:qj (.region id ops false)=[m,cc]:=by simp only[qj,hops,dstsOf]
       grind
      ·have get:∀ (t:Nat),((a.put (some m) (.slice x l.length k)).put (some cc) (.bool (if b=true then x.isNone else !x.isNone))).tmps[t]? = if cc=t then some (.bool (if b=true then x.isNone else !x.isNone))else if m=t then some (.slice x l.length k)else a.tmps[t]? := by
        grind
       have z2n:∀ {i j:Nat},Nat.beq i j=false->i≠j:=λh e=>by subst e; simp at h
       cases x with
       | none =>
        obtain⟨hl,YM⟩:=hvn rfl
        subst hl YM
        refine .inl ⟨rfl,hs2,hR.defers,λt d hd => ?_⟩
        rw[get]
        simp only[Fr.get]at hd
        cases h1:Nat.beq cc t with
        | true =>
         rw[h1,cond_true]at hd; cases hd
         rw[if_pos (Nat.eq_of_beq_eq_true h1)]
         refine⟨_,rfl,?_⟩
         cases b<;>exact .bool
        | false =>
         rw[h1,cond_false]at hd
         rw[if_neg (z2n h1)]
         cases h2:Nat.beq m t with
         | true=>rw[h2,cond_true]at hd; cases hd; rw[if_pos (Nat.eq_of_beq_eq_true h2)]; exact⟨_,rfl,.xy⟩
         | false =>
          rw[h2,cond_false]at hd
          rw[if_neg (z2n h2)]
          cases h3:Nat.beq s t with
          | true=>rw[h3,cond_true]at hd; cases hd; rw[<- Nat.eq_of_beq_eq_true h3]; exact⟨_,hv,.xy⟩
          | false=>rw[h3,cond_false]at hd; exact hR.get t d hd
       | some x =>
        refine .inr ⟨hs2,hR.defers,λt d hd => ?_⟩
        rw[get]
        simp only[Fr.get]at hd
        cases h1:Nat.beq cc t with
        | true =>
         rw[h1,cond_true]at hd; cases hd
         rw[if_pos (Nat.eq_of_beq_eq_true h1)]
         refine⟨_,rfl,?_⟩
         cases b<;>exact .bool
        | false =>
         rw[h1,cond_false]at hd
         rw[if_neg (z2n h1)]
         cases h2:Nat.beq m t with
         | true=>rw[h2,cond_true]at hd; cases hd; rw[if_pos (Nat.eq_of_beq_eq_true h2)]; exact⟨_,rfl,kR⟩
         | false=>rw[h2,cond_false]at hd; rw[if_neg (z2n h2)]; exact hR.get t d hd
    ·cases hp
   ·cases hp
  ·cases hp
 ·cases hp
theorem MT{id:Nat}{b:Code}(hb:∀ b',b≠.loop b')(fr:Fr)(kn:Kn)(st:St){α:Type}(k:Dy->T α):tL (u7 P xid tab ro) tab n H (.block id b) fr kn st k=tL (u7 P xid tab ro) tab n H b fr kn st λr=>match r.ex with
  | .exit id'=>bif Nat.beq id' id then k { r with ex:=.normal } else k r
  | _=>k r:=by
 cases b<;>first | rfl | exact absurd rfl (hb _)
theorem nL(hm:(u7 P xid tab ro).P.follows .mixedOrders=true)(hT:y8 P tab):∀ (code:Code),uh P n H code->∀ {fr:Fr} {kn:Kn} {κ:KS} {a:Act} {α:Type} {k:Dy->T α} {r:α},
  (tL (u7 P xid tab ro) tab n H code fr kn κ.st k).leads r->Inv κ->Rel κ n fr.get a->vA kn fr.get ->
  ∀ Q:Exit->Act->World->Prop,(∀ (o:Dy) (fX:Exit) (a':Act) (κ':KS),(k o).leads r->κ'.st=o.st->Inv κ'->Ext κ κ'->Rel κ' n o.fr.get a'->vA o.kn o.fr.get->Kept code a a'->(o.q=true->o.st=κ.st)->Hv κ' o.ex fX->Q fX a' κ'.w) ->
   code.wp P Q a κ.w:=by
 intro code
 induction code with
 | skip=>intro _ fr kn κ a α k r h hI hR hk Q hQ; exact wp_skip (hQ _ _ a κ h rfl hI (Ext.refl κ) hR hk (λ_ _=>rfl) (λ_=>rfl) rfl)
 | exit id=>intro _ fr kn κ a α k r h hI hR hk Q hQ; exact wp_exit (hQ _ _ a κ h rfl hI (Ext.refl κ) hR hk (λ_ _=>rfl) (λ_=>rfl) rfl)
 | ret=>intro _ fr kn κ a α k r h hI hR hk Q hQ; exact wp_ret (hQ _ _ a κ h rfl hI (Ext.refl κ) hR hk (λ_ _=>rfl) (λ_=>rfl) rfl)
 | region id ops draw =>
  intro _ fr kn κ a α k r h hI hR hk Q hQ
  simp only[tL]at h
  obtain⟨z,h0,h⟩:=T.zd.1 h
  obtain⟨κ0,w1,w2,w3,w4,w5⟩:=Rd _ h0 hI hR
  have YM:=Rt _ h0 hk
  rcases Jt YM h with⟨s,h1,h2⟩ | ⟨d,zr,rfl,h1,h2⟩
  rotate_left
  ·rw[<- w2]at h1
   rw[<- w1]
   exact MO (YK hT) w3 w5 YM h1 λv a' κ' e1 e2 e3 e4 e5 e6=>hQ ⟨.kM d,[],[],zr,false⟩ _ a' κ' h2 e1 e2 (w4.trans e3) e4 (cr _) (λt ht=>e5 t λo ho he=>ht (Zc ho he)) (λhq=>by cases hq) ⟨v,rfl,e6⟩
  rw[<- w2]at h1
  have Yj:=Nu YM h1
  rw[<- w1]
  refine(N4 hm (YK hT) w3 w5 YM h1 λa' κ' e1 e2 e3 e4 e5=>hQ ⟨.normal,s.fr,s.kn,s.st,quiet s.ks&&(H.Tk id).isEmpty⟩ _ a' κ' h2 e1 e2 (w4.trans e3) e4 Yj (λt ht=>e5 t λo ho he=>ht (Zc ho he)) (λhq => ?_) rfl).1
  simp only[Bool.and_eq_true]at hq
  have he:H.Tk id=[]:=List.isEmpty_iff.1 hq.2
  rw[he]at h0
  cases h0
  exact(Yr h1 hq.1).trans w2
 | seq x y ix iy =>
  intro hl fr kn κ a α k r h hI hR hk Q hQ
  have Tg:uh P n H x:=λp hp=>hl p (by simp only[xo,List.mem_append]; exact .inl hp)
  have hly:uh P n H y:=λp hp=>hl p (by simp only[xo,List.mem_append]; exact .inr hp)
  have kx:∀ {a a':Act},Kept x a a'->Kept (.seq x y) a a':=λh s hs=>h s λe=>hs (by simp only[qj,List.mem_append]; exact .inl e)
  have ky:∀ {a a':Act},Kept y a a'->Kept (.seq x y) a a':=λh s hs=>h s λe=>hs (by simp only[qj,List.mem_append]; exact .inr e)
  simp only[tL]at h
  split at h
  ·refine wp_seq (ix Tg h hI hR hk _ λo fX a' κ' e0 e1 e2 e3 e4 Nx e5 e5q e6 => ?_)
   cases hex:o.ex<;>rw[hex]at e0 e6<;>simp only at e0
   ·cases e6
    refine iy hly (κ:=κ') (e1▸e0) e2 e4 Nx Q λo' Yp a'' ML f0 f1 f2 f3 f4 Kq f5 Cz f6=>hQ { o' with q:=o.q&&o'.q } Yp a'' ML f0 f1 f2 (e3.trans f3) f4 Kq (λs hs=>(ky f5 s hs).trans (kx e5 s hs)) ?_ f6
    grind
   ·cases e6; exact hQ o _ a' κ' e0 e1 e2 e3 e4 Nx (kx e5) e5q (by rw[hex]; rfl)
   ·cases e6; exact hQ o _ a' κ' e0 e1 e2 e3 e4 Nx (kx e5) e5q (by rw[hex]; rfl)
   ·obtain⟨v,rfl,hv⟩:=e6
    exact hQ o _ a' κ' e0 e1 e2 e3 e4 Nx (kx e5) e5q (by rw[hex]; exact⟨v,rfl,hv⟩)
  ·rename_i nC hcu
   cases hw:KI nC with
   | false=>rw[hw]at h; exact h.elim
   | true =>
    rw[hw,cond_true]at h
    obtain⟨z,h1,h2⟩:=T.zd.1 h
    have h1:=Bb h1
    refine wp_seq (ix Tg h1 hI hR hk _ λo fX a' κ' e0 e1 e2 e3 e4 Nx e5 e5q e6 => ?_)
    cases hex:o.ex<;>rw[hex]at e0 e6<;>simp only at e0
    ·cases e6
     cases hq:o.q with
     | false=>rw[hq]at e0; exact e0.elim
     | true =>
      rw[hq,cond_true]at e0
      have xM:o.st=κ.st:=e5q hq
      have hRz:Rel κ' n (eR κ.st nC z).get a':=by
       refine⟨e4.size,e4.defers,λt d hd => ?_⟩
       obtain⟨k',y',d0,g0,g1,g2,g3⟩:=(tN (p:=λ_=>true) (zr:=κ.st) nC [] z (λ_ _=>rfl) e0).2 _ (get_mem hd)
       cases g3
       obtain⟨v,q1,q2⟩:=e4.get _ _ g1
       have XO:=List.all_eq_true.1 hw _ g0
       have XO:WA k'=true:=XO
       have hwk:Wk κ' κ':=⟨rfl,rfl,rfl,rfl,λb d h=>⟨d,h⟩,λb v e xs h=>.inl h,λb v e xs h=>h,λb h=>h⟩
       have wm:He [] k'=true:=by cases k'<;>first | rfl | cases XO
       rw[<- e1]at g2
       have:=YP hwk (bs:=[]) wm (λ_ _=>rfl) (zr:=κ'.st) (λ_ _=>rfl) (λ_ h=>by simp[rowAt]at h) g2 q2
       grind
      have K4:=pJ hR e3 hRz e5
      refine iy hly (κ:=κ') (by rw[e1,xM]; exact h2) e2 K4 (cr _) Q λo' Yp a'' ML f0 f1 f2 f3 f4 Kq f5 Cz f6=>hQ o' Yp a'' ML f0 f1 f2 (e3.trans f3) f4 Kq (λs hs=>(ky f5 s hs).trans (kx e5 s hs)) (λhq=>(Cz hq).trans (e1.trans xM)) f6
    ·exact e0.elim
    ·exact e0.elim
    ·exact e0.elim
  ·rename_i hcu
   cases To:opsOf x with
   | none=>rw[To]at h; exact h.elim
   | some ops =>
    rw[To]at h
    simp only at h
    cases hp:YJ (u7 P xid tab ro) n ops fr with
    | none=>rw[hp]at h; exact h.elim
    | some p =>
     rw[hp]at h
     obtain⟨U4,z8z⟩:=h
     obtain⟨id,rfl⟩:∃ id,x=.region id ops false:=by
      cases x with
      | region id ops' draw =>
       cases draw with
       | true=>cases To
       | false=>cases To; exact⟨id,rfl⟩
      | _=>cases To
     refine wp_seq (CG hp hI hR hk _ ?_)
     intro a' hk1 zac
     rcases zac with⟨hl,K4⟩ | K4
     ·refine iy hly (κ:=κ) (U4 hl _ z8z) hI K4 (λt b hb => ?_) Q λo' Yp a'' ML f0 f1 f2 f3 f4 Kq f5 Cz f6=>hQ o' Yp a'' ML f0 f1 f2 f3 f4 Kq (λs hs=>(ky f5 s hs).trans (kx hk1 s hs)) Cz f6
      simp only[Kn.get]at hb
      simp only[Fr.get]
      grind
     ·refine iy hly (κ:=κ) z8z hI K4 (λt b hb => ?_) Q λo' Yp a'' ML f0 f1 f2 f3 f4 Kq f5 Cz f6=>hQ o' Yp a'' ML f0 f1 f2 f3 f4 Kq (λs hs=>(ky f5 s hs).trans (kx hk1 s hs)) Cz f6
      simp only[Kn.get]at hb
      simp only[Fr.get]
      cases ht:Nat.beq p.c t with
      | true=>rw[ht,cond_true]at hb; rw[cond_true]; cases hb; rfl
      | false=>rw[ht,cond_false]at hb; cases hb
  ·rename_i ws hcu
   cases hw:ws.all λw=>Nat.ble κ.st.length w.sh.bs.length with
   | false=>rw[hw]at h; exact h.elim
   | true =>
    rw[hw,cond_true]at h
    obtain⟨rr,W8,h2⟩:=T.zd.1 h
    refine wp_seq (ix Tg W8 hI hR hk _ λo fX a' κ' e0 e1 e2 e3 e4 Nx e5 _ e6 => ?_)
    obtain⟨w,g1,z,g2,g3,g4⟩:=Yz _ _ _ _ _ e0
    have hwl:=List.all_eq_true.1 hw w g1
    obtain⟨κ1,q1,q2,q3,q4,q5⟩:=RN (n:=n) e3 e2 e4 e6 g3 (Nat.le_of_ble_eq_true hwl) (by rw[e1]; exact g4)
    rw[g2]at h2
    split at h2
    ·exact h2.elim
    rename_i zz hzz
    obtain⟨q5,Oj⟩:=q5 zz hzz
    have K4:=pJ hR q4 q5 e5
    rw[<- q1]
    cases hex:zz.1<;>rw[hex]at h2 Oj<;>simp only at h2
    ·cases Oj
     exact iy hly (κ:=κ1) (by rw[q2]; exact h2) q3 K4 (cr _) Q λo' Yp a'' ML f0 f1 f2 f3 f4 Kq f5 _ f6=>hQ { o' with q:=false } Yp a'' ML f0 f1 f2 (q4.trans f3) f4 Kq (λs hs=>(ky f5 s hs).trans (kx e5 s hs)) (λhq=>by cases hq) f6
    ·cases Oj; exact hQ _ _ a' κ1 h2 q2 q3 q4 K4 (cr _) (kx e5) (λhq=>by cases hq) rfl
    ·cases Oj; exact hQ _ _ a' κ1 h2 q2 q3 q4 K4 (cr _) (kx e5) (λhq=>by cases hq) rfl
    ·obtain⟨v,rfl,hv⟩:=Oj
     exact hQ _ _ a' κ1 h2 q2 q3 q4 K4 (cr _) (kx e5) (λhq=>by cases hq) ⟨v,rfl,hv⟩
 | cond x p q ip iq =>
  intro hl fr kn κ a α k r h hI hR hk Q hQ
  have hlp:uh P n H p:=λz hz=>hl z (by simp only[xo,List.mem_append]; exact .inl hz)
  have LJ:uh P n H q:=λz hz=>hl z (by simp only[xo,List.mem_append]; exact .inr hz)
  have kp:∀ {a a':Act},Kept p a a'->Kept (.cond x p q) a a':=λh s hs=>h s λe=>hs (by simp only[qj,List.mem_append]; exact .inl e)
  have kq:∀ {a a':Act},Kept q a a'->Kept (.cond x p q) a a':=λh s hs=>h s λe=>hs (by simp only[qj,List.mem_append]; exact .inr e)
  have hQp:=λ(o:Dy) (fX:Exit) (a':Act) (κ':KS) f0 f1 f2 f3 f4 Kq (f5:Kept p a a') Cz f6=>hQ o fX a' κ' f0 f1 f2 f3 f4 Kq (kp f5) Cz f6
  have hQq:=λ(o:Dy) (fX:Exit) (a':Act) (κ':KS) f0 f1 f2 f3 f4 Kq (f5:Kept q a a') Cz f6=>hQ o fX a' κ' f0 f1 f2 f3 f4 Kq (kq f5) Cz f6
  simp only[tL]at h
  split at h
  ·rename_i hx
   have hv:qh fr.get x=some (.zI .bool true):=bu hk hx
   exact wp_cond_true (hR.eval hv).jT (ip hlp h hI hR hk Q hQp)
  ·rename_i hx
   have hv:qh fr.get x=some (.zI .bool false):=bu hk hx
   exact wp_cond_false (hR.eval hv).jT (iq LJ h hI hR hk Q hQq)
  ·split at h
   ·split at h
    ·rename_i v hv
     have he:=hv
     rw[show ∀ t,fr.get t=qh fr.get (.tmp t)from λ_=>rfl]at he
     rcases h with⟨rfl,h⟩ | ⟨rfl,h⟩
     ·exact wp_cond_true (hR.eval he).jT (ip hlp h hI hR (rI hk hv) Q hQp)
     ·exact wp_cond_false (hR.eval he).jT (iq LJ h hI hR (rI hk hv) Q hQq)
    ·exact h.elim
   ·exact h.elim
 | block id b ib =>
  intro hl fr kn κ a α k r h hI hR hk Q hQ
  by_cases hb:∃ b',b=.loop b'
  ·obtain⟨b,rfl⟩:=hb
   simp only[tL]at h
   split at h
   ·exact h.elim
   ·rename_i l hll
    cases hc:Nat.ble (gh l.gh fr κ.st).2.length l.sh.bs.length&&CP l.ps (qj b)&&l.ws.all λw=>Nat.ble l.sh.bs.length w.sh.bs.length with
    | false=>rw[hc]at h; exact h.elim
    | true =>
     rw[hc,cond_true]at h
     simp only[Bool.and_eq_true,List.all_eq_true]at hc
     obtain⟨⟨Lv,Oh⟩,hc3⟩:=hc
     obtain⟨p,h1,h⟩:=T.zd.1 h
     obtain⟨s,h2,h⟩:=T.zd.1 h
     obtain⟨rr,h3,h4⟩:=T.zd.1 h
     obtain⟨κ1,w1,w2,w3,w4,w5⟩:=lA l.gh fr κ hI hR
     rw[<- w2]at h1 h2 Lv
     obtain⟨κ2,q1,q2,q3,q4,q5,_⟩:=l.sh.Z0 (n:=n) (Ext.refl κ1) w3 w5 (Nat.le_of_ble_eq_true Lv) h2
     -- the loop's parameters
     have hps:Rel κ2 n (eR (l.sh.st s) l.ps p).get a:=by
      refine⟨w5.size,w5.defers,λt d hd => ?_⟩
      obtain⟨k',y,d0,g0,g1,g2,g3⟩:=(tN (p:=λ_=>true) (zr:=l.sh.st s) l.ps [] p (λ_ _=>rfl) h1).2 _ (get_mem hd)
      cases g3
      obtain⟨v,e1,e2⟩:=w5.get _ _ g1
      have XO:=List.all_eq_true.1 Oh _ g0
      simp only[Bool.and_eq_true]at XO
      have hwk:Wk κ1 κ1:=⟨rfl,rfl,rfl,rfl,λb d h=>⟨d,h⟩,λb v e xs h=>.inl h,λb v e xs h=>h,λb h=>h⟩
      have wm:He [] k'=true:=by cases k'<;>first | rfl | cases XO.1
      have:=YP hwk (bs:=[]) wm (λ_ _=>rfl) (zr:=κ1.st) (λ_ _=>rfl) (λ_ h=>by simp[rowAt]at h) g2 e2
      have he:rR κ1.st k' y=rR (l.sh.st s) k' y:=by cases k'<;>first | rfl | cases XO.1
      rw[he]at this
      exact⟨v,e1,this.mono q4⟩
     have z1A:Ext κ κ2:=w4.trans q4
     have Ql:κ2.w=κ.w:=q1.trans w1
     rw[<- Ql]
     refine wp_block (hl (id,b) (by simp[xo]) l hll κ2 a p s rr h3 q2 q3 q5 hps Oh (λw hw=>Nat.le_of_ble_eq_true (hc3 w hw)) _ λw x fX a' κ' f1 f2 f3 f4 f5 f6 f7 => ?_)
     rw[f2]at h4
     split at h4
     ·exact h4.elim
     rename_i zz hzz
     obtain⟨f6,f8⟩:=f6 zz hzz
     have hR':Rel κ' n (zz.2++(cW (qj b)++(gh l.gh fr κ.st).1)).get a':=pJ w5 (q4.trans f5) f6 f7
     have Tn:Kept (.block id (.loop b)) a a':=f7
     cases hwx:zz.1<;>rw[hwx]at h4 f8<;>simp only at h4
     ·exact h4.elim
     ·rename_i id'
      cases f8
      simp only[Exit.inBlock]
      cases G5:Nat.beq id' id with
      | true =>
       rw[G5,cond_true]at h4
       have:=Nat.eq_of_beq_eq_true G5
       subst this
       rw[if_pos rfl]
       exact hQ _ _ a' κ' h4 f3 f4 (z1A.trans f5) hR' (cr _) Tn (λhq=>by cases hq) rfl
      | false =>
       rw[G5,cond_false]at h4
       rw[if_neg (λe=>by subst e; simp at G5)]
       exact hQ _ _ a' κ' h4 f3 f4 (z1A.trans f5) hR' (cr _) Tn (λhq=>by cases hq) rfl
     ·cases f8
      exact hQ _ _ a' κ' h4 f3 f4 (z1A.trans f5) hR' (cr _) Tn (λhq=>by cases hq) rfl
     ·obtain⟨v,rfl,hv⟩:=f8
      exact hQ _ _ a' κ' h4 f3 f4 (z1A.trans f5) hR' (cr _) Tn (λhq=>by cases hq) ⟨v,rfl,hv⟩
  ·have G5:∀ b',b≠.loop b':=λb' e=>hb ⟨b',e⟩
   rw[MT G5]at h
   refine wp_block (ib (λz hz=>hl z (by rw[Hc G5]; exact hz)) h hI hR hk _ λo fX a' κ' f0 f1 f2 f3 f4 Kq f5 Cz f6 => ?_)
   have Tn:Kept (.block id b) a a':=f5
   cases hox:o.ex<;>rw[hox]at f0 f6<;>simp only at f0
   ·cases f6; exact hQ o _ a' κ' f0 f1 f2 f3 f4 Kq Tn Cz (by rw[hox]; rfl)
   ·rename_i id'
    cases f6
    simp only[Exit.inBlock]
    cases hbq:Nat.beq id' id with
    | true =>
     rw[hbq,cond_true]at f0
     have:=Nat.eq_of_beq_eq_true hbq
     subst this
     rw[if_pos rfl]
     exact hQ _ _ a' κ' f0 f1 f2 f3 f4 Kq Tn Cz rfl
    | false =>
     rw[hbq,cond_false]at f0
     rw[if_neg (λe=>by subst e; simp at hbq)]
     exact hQ o _ a' κ' f0 f1 f2 f3 f4 Kq Tn Cz (by rw[hox]; rfl)
   ·cases f6; exact hQ o _ a' κ' f0 f1 f2 f3 f4 Kq Tn Cz (by rw[hox]; rfl)
   ·obtain⟨v,rfl,hv⟩:=f6
    exact hQ o _ a' κ' f0 f1 f2 f3 f4 Kq Tn Cz (by rw[hox]; exact⟨v,rfl,hv⟩)
 | _=>intro _ fr kn κ a α k r h; simp only[tL]at h; exact h.elim
end
end Go.AM
namespace Go.AM
set_option linter.unusedSectionVars false
variable [vU]
open Go.RowKit
section
variable [J9]
variable {P:Program} {xid:Nat} {tab:dh} {ro:Nat->Bool} {n:Nat} {H:Hints}
theorem Ln{b:Code}{st zr:St}:∀ (nC:List It) (z:wK nC),CP nC (qj b)=true->eR st nC z=eR zr nC z/\∀ q∈eR st nC z,q.1 ∉ qj b:=by
 intro nC
 induction nC with
 | nil=>intro z _; exact⟨rfl,λq hq=>by cases hq⟩
 | cons i r ih =>
  intro z h
  have hi:∀ y:i.den,JD st i y=JD zr i y/\∀ q∈JD st i y,q.1 ∉ qj b:=by
   intro y
   simp only[CP,List.all_cons,Bool.and_eq_true]at h
   cases i with
   | s t k =>
    obtain⟨h1,_⟩:=h
    simp at h1
    refine⟨by cases k<;>first | rfl | (simp[WA]at h1),λq hq => ?_⟩
    simp only[JD,List.mem_singleton]at hq
    subst hq
    intro hm
    have:=h1.2
    simp only[z2U,Bool.not_eq_true',List.any_eq_false]at this
    exact this t hm (by simp)
   | _=>grind
  cases r with
  | nil =>
   have e1:=Ux st i z
   have e2:=Ux zr i z
   grind
  | cons j r =>
   have e1:=QQ st i j r z
   have e2:=QQ zr i j r z
   have hr:CP (j::r) (qj b)=true:=by
    unfold CP at h ⊢
    grind
   grind
theorem z0k(hm:(u7 P xid tab ro).P.follows .mixedOrders=true)(hT:y8 P tab){l:zJ}{b:Code}(hL:uh P n H b)(R:wK l.ps->l.sh.den->T (l.sh.den⊕gJ l.ws))
  (round:∀ p s,RY (u7 P xid tab ro) tab n H l b p s=R p s) (hF:∀ p s,l.F p s=T.loop (R p) s):Z9 P n l b:=by
 intro κ a p s r hr xM hI hR hRp hps hws Q hQ
 rw[hF,T.en]at hr
 obtain⟨m,hm'⟩:=hr
 have zfH:=λ(st zr:St)=>(Ln (b:=b) (st:=st) (zr:=zr) l.ps p hps).1
 have z6f:∀ (st:St) (t:Nat) (d:D),(eR st l.ps p).get t=some d->t ∉ qj b:=λst t d hd=>(Ln (b:=b) (st:=st) (zr:=st) l.ps p hps).2 _ (get_mem hd)
 refine wp_loop_ghost (λm a' w'=>∃ s',T.Iter (R p) m s' r/\∃ κ':KS,κ'.w=w'/\κ'.st=l.sh.st s'/\Inv κ'/\Ext κ κ'/\Rel κ' n (l.sh.fr s').get a'/\Rel κ' n (eR (l.sh.st s) l.ps p).get a'/\Kept b a a') m
  ⟨s,hm',κ,rfl,xM,hI,Ext.refl κ,hR,hRp,λ_ _=>rfl⟩ ?_
 rintro m a1 w1 ⟨s1,hit,κ1,rfl,g4,g5,g6,g7a,g7b,g8⟩
 have g7:Rel κ1 n (l.sh.fr s1++eR (l.sh.st s1) l.ps p).get a1:=⟨g7a.size,g7a.defers,λt d hd=>by
  rcases Xk hd with hd | hd
  ·exact g7a.get t d hd
  ·rw[zfH _ (l.sh.st s)]at hd; exact g7b.get t d hd⟩
 cases hit with
 | done h1 =>
  rw[<- round]at h1
  refine nL hm hT b hL (κ:=κ1) (by rw[g4]; exact h1) g5 g7 (cr _) _ λo fX a' κ' e0 e1 e2 e3 e4 Nx e5 _ e6 => ?_
  have fin:∀ exo,Hv κ' exo fX->(YE l.ws exo (Jy exo o.fr) o.st).leads r->Q fX a' κ'.w:=λexo e6 e0=>by
   obtain⟨w,k1,x,k2,k3,k4⟩:=Yz _ _ _ _ _ e0
   have hlen:κ1.st.length<=w.sh.bs.length:=by rw[g4]; exact Nat.le_trans (vQ.tp _ _) (hws w k1)
   obtain⟨κ2,q1,q2,q3,q4,q5⟩:=RN (n:=n) e3 e2 e4 e6 k3 hlen (by rw[e1]; exact k4)
   have:=hQ w x fX a' κ2 k1 k2 q2 q3 (g6.trans q4) q5 (λt ht=>(e5 t ht).trans (g8 t ht))
   grind
  have IM:∀ {z:l.sh.den⊕gJ l.ws},((YE l.ws o.ex (Jy o.ex o.fr) o.st).bind λr=>T.ret (Sum.inr r:l.sh.den⊕gJ l.ws)).leads z->z=Sum.inr r->(YE l.ws o.ex (Jy o.ex o.fr) o.st).leads r:=by
   intro z h hz
   obtain⟨y,h1,h2⟩:=T.zd.1 h
   have h2:(Sum.inr y:l.sh.den⊕gJ l.ws)=z:=h2
   grind
  cases hox:o.ex<;>rw[hox]at e0 e6 IM<;>simp only at e0
  ·obtain⟨y,_,h2⟩:=T.zd.1 e0
   have h2:(Sum.inl y:l.sh.den⊕gJ l.ws)=Sum.inr r:=h2
   cases h2
  ·have q:=fin _ e6 (IM e0 rfl); cases e6; exact q
  ·have q:=fin _ e6 (IM e0 rfl); cases e6; exact q
  ·have q:=fin _ e6 (IM e0 rfl); obtain⟨v,rfl,hv⟩:=e6; exact q
 | step h1 hit =>
  rename_i m s2
  rw[<- round]at h1
  refine nL hm hT b hL (κ:=κ1) (by rw[g4]; exact h1) g5 g7 (cr _) _ λo fX a' κ' e0 e1 e2 e3 e4 Nx e5 _ e6 => ?_
  have F0:((YE l.ws o.ex (Jy o.ex o.fr) o.st).bind λr=>T.ret (Sum.inr r:l.sh.den⊕gJ l.ws)).leads (Sum.inl s2)->False:=by
   intro h
   obtain⟨y,h1,h2⟩:=T.zd.1 h
   have h2:(Sum.inr y:l.sh.den⊕gJ l.ws)=Sum.inl s2:=h2
   cases h2
  cases hox:o.ex<;>rw[hox]at e0 e6 F0<;>simp only at e0
  ·cases e6
   obtain⟨y,h1,h2⟩:=T.zd.1 e0
   have h2:(Sum.inl y:l.sh.den⊕gJ l.ws)=Sum.inl s2:=h2
   cases h2
   have hlen:κ1.st.length<=l.sh.bs.length:=by rw[g4]; exact vQ.tp _ _
   obtain⟨κ2,q1,q2,q3,q4,q5,_⟩:=l.sh.Z0 (n:=n) e3 e2 e4 hlen (by rw[e1]; exact h1)
   refine⟨m,Nat.lt_succ_self _,s2,hit,κ2,q1,q2,q3,g6.trans q4,q5,⟨q5.size,q5.defers,λt d hd => ?_⟩,λt ht=>(e5 t ht).trans (g8 t ht)⟩
   obtain⟨v,r1,r2⟩:=g7b.get t d hd
   exact⟨v,(e5 t (z6f _ t d hd)).trans r1,r2.mono q4⟩
  ·exact(F0 e0).elim
  ·exact(F0 e0).elim
  ·exact(F0 e0).elim
end
section
variable {P:Program} {xid:Nat} {tab:dh} {ro:Nat->Bool} {n:Nat} {H:Hints}
theorem XA{κ:KS}(hI:Inv κ):∀ (rs:List Ty) (ds:List D) (x:KD rs) (vs:List Value),(NX κ.st rs ds).leads x->qH κ ds vs->qH κ.all (ZI rs x) vs/\∀ d∈ZI rs x,Xt d=true
 | [],[],x,vs,h,hd=>by rw[hd.qf]; exact⟨.nil,λd hd=>by cases hd⟩
 | [],_::_,x,vs,h,hd=>h.elim
 | [τ],[],x,vs,h,hd=>h.elim
 | [τ],[d],x,vs,h,hd=>by
  obtain⟨v,us,rfl,h1,h2⟩:=hd.cons_inv
  rw[h2.qf]
  refine⟨.cons (Zl hI h1 h) .nil,λd hd => ?_⟩
  have hd:d∈[D.zI τ x]:=hd
  rw[List.mem_singleton]at hd
  subst hd; rfl
 | [τ],_::_::_,x,vs,h,hd=>h.elim
 | τ::σ::r,[],x,vs,h,hd=>h.elim
 | τ::σ::r,d::ds,x,vs,h,hd=>by
  obtain⟨y,h1,h2⟩:=T.zd.1 h
  obtain⟨z,h3,h4⟩:=T.zd.1 h2
  cases h4
  obtain⟨v,us,rfl,k1,k2⟩:=hd.cons_inv
  obtain⟨g1,g2⟩:=XA hI (σ::r) ds z us h3 k2
  refine⟨.cons (Zl hI k1 h1) g1,λd hd => ?_⟩
  rcases List.mem_cons.1 hd with rfl | hd
  ·rfl
  ·grind
theorem z8h(hm:(u7 P xid tab ro).P.follows .mixedOrders=true)(hT:y8 P tab){f:Nat}{fn:Func}{code:Code}(hf:P.funcs[f]? = some fn)(hb:fn.body=some code)
  (hn:(fn.name == "runtime.NumGoroutine")=false) (hL:uh P fn.ntmps H code) {d:B4} (h:∀ x,Oq (u7 P xid tab ro) tab H fn code d x=d.F x):zu P f d:=by
 intro κ x zA y xM hy hI ha
 rw[<- h]at hy
 unfold Oq at hy
 cases hle:Nat.ble (QS d.ps x).length fn.ntmps with
 | false=>rw[hle]at hy; exact hy.elim
 | true =>
  rw[hle,cond_true]at hy
  have J8:=Nat.le_of_ble_eq_true hle
  refine .inl ⟨wR hf hn (by grind) κ.w,calls_of_wp hf hb ?_⟩
  have hR:=Qp ha J8
  refine nL hm hT code hL (κ:=κ) (by rw[xM]; exact hy) hI hR (cr _) _ λo fX a' κe e0 e1 e2 e3 e4 _ _ _ e6 => ?_
  have fin:(fX=.normal\/fX=.ret)->((bp (u7 P xid tab ro) o.fr o.st fn.results.toList).bind λds=>NX o.st d.rs ds).leads y ->
    bodyPost P fn (λe w'=>∃ κ':KS,κ'.w=w'/\κ'.st=[]/\Inv κ'/\Ext κ κ'/\wy κ' (.ret (ZI d.rs y)) e) fX a' κe.w:=by
   intro hex h2
   obtain⟨ds,g1,g2⟩:=T.zd.1 h2
   rw[<- e1]at g1 g2
   obtain⟨vs,k1,k2⟩:=lL e2 e4 g1
   obtain⟨q1,q2⟩:=LR hI xM e2 e3
   obtain⟨hl,zdw⟩:=XA e2 d.rs ds y vs g2 k2
   have Tp:qH (κe.bare (NH κe)) (ZI d.rs y) vs:=⟨hl.1,λi h1 h2=>mI (zdw _ (List.getElem_mem h1)) (hl.2 i h1 h2)⟩
   have oR:a'.defers=[]/\∃ v,(results fn a'.tmps).run P κe.w=.ok v κe.w/\∃ κ':KS,κ'.w=κe.w/\κ'.st=[]/\Inv κ'/\Ext κ κ'/\wy κ' (.ret (ZI d.rs y)) (.returned v) :=
    ⟨e4.defers,_,k1,κe.bare (NH κe),rfl,rfl,q1,q2,_,rfl,tD Tp⟩
   rcases hex with rfl | rfl
   ·exact oR
   ·exact oR
  cases hox:o.ex<;>rw[hox]at e0 e6<;>simp only at e0
  ·exact fin (.inl e6) e0
  ·exact e0.elim
  ·exact fin (.inr e6) e0
  ·exact e0.elim
theorem tF{d:B4}{f:Nat}(b:(jx d.ps->T (KD d.rs))->jx d.ps->T (KD d.rs))(hF:∀ x,d.F x=T.fix b x)(h:∀ F:jx d.ps->T (KD d.rs),zu P f ⟨d.ps,d.rs,F⟩->zu P f ⟨d.ps,d.rs,b F⟩):zu P f d:=by
 have hN:∀ m,zu P f ⟨d.ps,d.rs,T.Ce b m⟩:=by
  intro m
  induction m with
  | zero=>nofun
  | succ m ih=>exact h _ ih
 intro κ x zA y xM hy hI ha
 rw[hF,T.lq]at hy
 obtain⟨m,hm⟩:=hy
 exact hN m κ x zA y xM (hm m (Nat.le_refl _)) hI ha
theorem QK{fr:Fr}:∀ {n i:Nat} {ds:List D},Fl fr n i=some ds->ds.length=n/\∀ j d,ds[j]? = some d->fr.get (i+j)=some d
 | 0,i,ds,h=>by cases h; exact⟨rfl,λj d hj=>by grind⟩
 | n+1,i,ds,h=>by
  simp only[Fl]at h
  split at h
  ·rename_i d hd
   split at h
   ·rename_i r hr
    obtain⟨h1,h2⟩:=QK hr
    grind
   ·cases h
  ·cases h
theorem z50(hm:(u7 P xid tab ro).P.follows .mixedOrders=true)(hT:y8 P tab){f:Nat}{fn:Func}{code:Code}(hf:P.funcs[f]? = some fn)(hb:fn.body=some code)
  (hn:(fn.name == "runtime.NumGoroutine")=false) (hL:uh P fn.ntmps H code) {d:ke} (h:∀ x,De (u7 P xid tab ro) tab H fn code d x=d.F x):wa P f d:=by
 intro κ x zA y xM hy hI hlen Rk
 rw[<- h]at hy
 unfold De at hy
 cases hle:Nat.ble d.ks.length fn.ntmps&&Nat.ble d.sh.bs.length d.out.bs.length with
 | false=>rw[hle]at hy; exact hy.elim
 | true =>
  rw[hle,cond_true]at hy
  simp only[Bool.and_eq_true]at hle
  have Nf:=Nat.le_of_ble_eq_true hle.1
  have O2:=Nat.le_of_ble_eq_true hle.2
  refine .inl ⟨wR hf hn (by rw[hb]; rfl) κ.w,calls_of_wp hf hb ?_⟩
  have hR:Rel κ fn.ntmps (d.sh.fr x).get { tmps:=zA.toArray++Array.replicate (fn.ntmps-zA.toArray.size) undef,defers:=[] }:=by
   refine⟨by simp; omega,rfl,λs e hs => ?_⟩
   obtain⟨v,h1,h2⟩:=Rk.get s e hs
   grind
  refine nL hm hT code hL (κ:=κ) (by rw[xM]; exact hy) hI hR (cr _) _ λo fX a' κe e0 e1 e2 e3 e4 _ _ _ e6 => ?_
  have fin:(fX=.normal\/fX=.ret)->((bp (u7 P xid tab ro) o.fr o.st fn.results.toList).bind λds=>bif Nat.beq ds.length d.nr then(d.out.un (wu ds 0) o.st).bind λy=>bif (yZ d.nr (d.out.fr y)).isSome then T.ret y else .fail else .fail).leads y ->
    bodyPost P fn (λe w'=>∃ (κ':KS) (ds:List D),κ'.w=w'/\κ'.st=d.out.st y/\Inv κ'/\Ext κ κ'/\yZ d.nr (d.out.fr y)=some ds/\wy κ' (.ret ds) e) fX a' κe.w:=by
   intro hex h2
   obtain⟨ds,g1,g2⟩:=T.zd.1 h2
   cases hnr:Nat.beq ds.length d.nr with
   | false=>rw[hnr]at g2; exact g2.elim
   | true =>
    rw[hnr,cond_true]at g2
    obtain⟨y',g5,g3⟩:=T.zd.1 g2
    cases cV:yZ d.nr (d.out.fr y')with
    | none=>rw[cV]at g3; exact g3.elim
    | some Jb =>
     rw[cV]at g3
     have hyy:y'=y:=g3
     subst hyy
     rw[<- e1]at g1 g5
     obtain⟨vs,k1,k2⟩:=lL e2 e4 g1
     have hRr:Rel κe vs.length (wu ds 0).get { tmps:=vs.toArray,defers:=[] }:=by
      have:=Qp (n:=vs.length) k2 (by rw[k2.1]; exact Nat.le_refl _)
      simpa[show(J9.df:List Deferred)=[]from rfl]using this
     obtain⟨κ2,q1,q2,q3,q4,q5,_⟩:=d.out.Z0 (κ0:=κ) e3 e2 hRr (by rw[xM]; exact Nat.le_trans (vQ.tp _ _) O2) g5
     obtain⟨l1,l2⟩:=QK cV
     have hds:qH κ2 Jb vs:=by
      refine⟨by rw[l1,<- k2.1]; exact(Nat.eq_of_beq_eq_true hnr).symm,λi h1 h2 => ?_⟩
      have:=l2 i Jb[i] (List.getElem?_eq_getElem h1)
      rw[Nat.zero_add]at this
      obtain⟨v,r1,r2⟩:=q5.get i _ this
      grind
     have oR:a'.defers=[]/\∃ v,(results fn a'.tmps).run P κe.w=.ok v κe.w/\∃ (κ':KS) (ds:List D),κ'.w=κe.w/\κ'.st=d.out.st y'/\Inv κ'/\Ext κ κ'/\yZ d.nr (d.out.fr y')=some ds/\wy κ' (.ret ds) (.returned v) :=
      ⟨e4.defers,_,k1,κ2,Jb,q1,q2,q3,q4,cV,_,rfl,tD hds⟩
     rcases hex with rfl | rfl
     ·exact oR
     ·exact oR
  cases hox:o.ex<;>rw[hox]at e0 e6<;>simp only at e0
  ·exact fin (.inl e6) e0
  ·exact e0.elim
  ·exact fin (.inr e6) e0
  ·exact e0.elim
theorem z1Y{d:ke}{f:Nat}(b:(d.sh.den->T d.out.den)->d.sh.den->T d.out.den)(hF:∀ x,d.F x=T.fix b x)(h:∀ F:d.sh.den->T d.out.den,wa P f ⟨d.ks,d.sh,d.yf,d.out,d.nr,F⟩->wa P f ⟨d.ks,d.sh,d.yf,d.out,d.nr,b F⟩):wa P f d:=by
 have hN:∀ m,wa P f ⟨d.ks,d.sh,d.yf,d.out,d.nr,T.Ce b m⟩:=by
  intro m
  induction m with
  | zero=>nofun
  | succ m ih=>exact h _ ih
 intro κ x zA y xM hy hI hl ha
 rw[hF,T.lq]at hy
 obtain⟨m,hm⟩:=hy
 exact hN m κ x zA y xM (hm m (Nat.le_refl _)) hI hl ha
theorem Dt{κ κe:KS}{a':Act}{fn:Func}{o:Dy}{nr:Nat}{out:vQ}{y:out.den}(e1:κe.st=o.st)(e2:Inv κe)(e3:Ext κ κe)(e4:Rel κe fn.ntmps o.fr.get a')(hlen:κ.st.length<=out.bs.length)
  (h:((bp (u7 P xid tab ro) o.fr o.st fn.results.toList).bind λds=>bif Nat.beq ds.length nr then(out.un (wu ds 0) o.st).bind λy=>bif (yZ nr (out.fr y)).isSome then T.ret y else .fail else .fail).leads y) :
  ∃ v,(results fn a'.tmps).run P κe.w=.ok v κe.w/\∃ (κ':KS) (ds:List D),κ'.w=κe.w/\κ'.st=out.st y/\Inv κ'/\Ext κ κ'/\yZ nr (out.fr y)=some ds/\wy κ' (.ret ds) (.returned v):=by
 obtain⟨ds,g1,g2⟩:=T.zd.1 h
 cases hnr:Nat.beq ds.length nr with
 | false=>rw[hnr]at g2; exact g2.elim
 | true =>
  rw[hnr,cond_true]at g2
  obtain⟨y',g5,g3⟩:=T.zd.1 g2
  cases cV:yZ nr (out.fr y')with
  | none=>rw[cV]at g3; exact g3.elim
  | some Jb =>
   rw[cV]at g3
   have hyy:y'=y:=g3
   subst hyy
   rw[<- e1]at g1 g5
   obtain⟨vs,k1,k2⟩:=lL e2 e4 g1
   have hRr:Rel κe vs.length (wu ds 0).get { tmps:=vs.toArray,defers:=[] }:=by
    have:=Qp (n:=vs.length) k2 (by rw[k2.1]; exact Nat.le_refl _)
    simpa[show(J9.df:List Deferred)=[]from rfl]using this
   obtain⟨κ2,q1,q2,q3,q4,q5,_⟩:=out.Z0 (κ0:=κ) e3 e2 hRr hlen g5
   obtain⟨l1,l2⟩:=QK cV
   have hds:qH κ2 Jb vs:=by
    refine⟨by rw[l1,<- k2.1]; exact(Nat.eq_of_beq_eq_true hnr).symm,λi h1 h2 => ?_⟩
    have:=l2 i Jb[i] (List.getElem?_eq_getElem h1)
    rw[Nat.zero_add]at this
    obtain⟨v,r1,r2⟩:=q5.get i _ this
    grind
   exact⟨_,k1,κ2,Jb,q1,q2,q3,q4,cV,_,rfl,tD hds⟩
theorem z57{κ κe:KS}{kM:vQ}{z:kM.den}{st:St}{t:Nat}{d:D}{u:Value}(e1:κe.st=st)(e2:Inv κe)(e3:Ext κ κe)(hlen:κ.st.length<=kM.bs.length)(hu:RD κe d u)
  (h:((kM.un [(0,some d)] st).bind λz=>match(kM.fr z).get 0 with | some _=>T.ret z | none=>.fail).leads z) :
  ∃ (κ':KS) (p:D),κ'.w=κe.w/\κ'.st=kM.st z/\Inv κ'/\Ext κ κ'/\(kM.fr z).get 0=some p/\wy κ' (.kM (.iface t p)) (.panicked [{ v:=.iface t u,recovered:=false }]):=by
 obtain⟨z',g1,g2⟩:=T.zd.1 h
 split at g2
 ·rename_i p hp
  have hzz:z'=z:=g2
  subst hzz
  have K4:Rel κe 1 (Fr.get [(0,some d)]) { tmps := #[u],defers:=[] }:=by
   refine⟨rfl,rfl,λs d' hd => ?_⟩
   simp only[Fr.get]at hd
   cases hb:Nat.beq 0 s with
   | true =>
    have:=Nat.eq_of_beq_eq_true hb
    grind
   | false=>grind
  rw[<- e1]at g1
  obtain⟨κ2,q1,q2,q3,q4,q5,_⟩:=kM.Z0 (κ0:=κ) e3 e2 K4 hlen g1
  obtain⟨v',r1,r2⟩:=q5.get 0 p hp
  cases r1
  exact⟨κ2,p,q1,q2,q3,q4,hp,_,rfl,.iface t p _ r2⟩
 ·exact g2.elim
theorem z5I(hm:(u7 P xid tab ro).P.follows .mixedOrders=true)(hT:y8 P tab){f:Nat}{fn:Func}{code:Code}(hf:P.funcs[f]? = some fn)(hb:fn.body=some code)
  (hn:(fn.name == "runtime.NumGoroutine")=false) (hL:uh P fn.ntmps H code) {d:fm} (h:∀ x,DX (u7 P xid tab ro) tab H fn code d x=d.F x):kO P f d:=by
 intro κ x zA y xM hy hI hlen Rk
 rw[<- h]at hy
 unfold DX at hy
 cases hle:Nat.ble d.ks.length fn.ntmps&&Nat.ble d.sh.bs.length d.out.bs.length&&Nat.ble d.sh.bs.length d.kM.bs.length with
 | false=>rw[hle]at hy; exact hy.elim
 | true =>
  rw[hle,cond_true]at hy
  simp only[Bool.and_eq_true]at hle
  have Nf:=Nat.le_of_ble_eq_true hle.1.1
  have O2:=Nat.le_of_ble_eq_true hle.1.2
  have zcW:=Nat.le_of_ble_eq_true hle.2
  refine .inl ⟨wR hf hn (by rw[hb]; rfl) κ.w,calls_of_wp hf hb ?_⟩
  have hR:Rel κ fn.ntmps (d.sh.fr x).get { tmps:=zA.toArray++Array.replicate (fn.ntmps-zA.toArray.size) undef,defers:=[] }:=by
   refine⟨by simp; omega,rfl,λs e hs => ?_⟩
   obtain⟨v,h1,h2⟩:=Rk.get s e hs
   grind
  refine nL hm hT code hL (κ:=κ) (by rw[xM]; exact hy) hI hR (cr _) _ λo fX a' κe e0 e1 e2 e3 e4 _ _ _ e6 => ?_
  have fin:(fX=.normal\/fX=.ret)->((bp (u7 P xid tab ro) o.fr o.st fn.results.toList).bind λds=>bif Nat.beq ds.length d.nr then(d.out.un (wu ds 0) o.st).bind λy=>bif (yZ d.nr (d.out.fr y)).isSome then T.ret (Sum.inl y:d.out.den⊕d.kM.den)else .fail else .fail).leads y ->
    bodyPost P fn (λe w'=>∃ κ':KS,κ'.w=w'/\Inv κ'/\Ext κ κ'/\((∃ (y':d.out.den) (ds:List D),y=.inl y'/\κ'.st=d.out.st y'/\yZ d.nr (d.out.fr y')=some ds/\wy κ' (.ret ds) e) \/
     ∃ (z:d.kM.den) (p:D),y=.inr z/\κ'.st=d.kM.st z/\(d.kM.fr z).get 0=some p/\wy κ' (.kM (.iface d.pt p)) e)) fX a' κe.w:=by
   intro hex h2
   have:∃ y',y=.inl y'/\((bp (u7 P xid tab ro) o.fr o.st fn.results.toList).bind λds=>bif Nat.beq ds.length d.nr then(d.out.un (wu ds 0) o.st).bind λy=>bif (yZ d.nr (d.out.fr y)).isSome then T.ret y else .fail else .fail).leads y':=by
    obtain⟨ds,g1,g2⟩:=T.zd.1 h2
    cases hnr:Nat.beq ds.length d.nr with
    | false=>rw[hnr]at g2; exact g2.elim
    | true =>
     rw[hnr,cond_true]at g2
     obtain⟨y',g5,g3⟩:=T.zd.1 g2
     cases cV:yZ d.nr (d.out.fr y')with
     | none=>rw[cV]at g3; exact g3.elim
     | some Jb =>
      rw[cV]at g3
      have g3:Sum.inl y'=y:=g3
      refine⟨y',g3.symm,T.zd.2 ⟨ds,g1,?_⟩⟩
      rw[hnr,cond_true]
      refine T.zd.2 ⟨y',g5,?_⟩
      rw[cV]; rfl
   obtain⟨y',rfl,Tu⟩:=this
   obtain⟨v,k1,κ',ds,q1,q2,q3,q4,q5,q6⟩:=Dt e1 e2 e3 e4 (by rw[xM]; exact Nat.le_trans (vQ.tp _ _) O2) Tu
   have oR:a'.defers=[]/\∃ v,(results fn a'.tmps).run P κe.w=.ok v κe.w/\∃ κ':KS,κ'.w=κe.w/\Inv κ'/\Ext κ κ'/\((∃ (y'':d.out.den) (ds:List D),(Sum.inl y':d.out.den⊕d.kM.den)=.inl y''/\κ'.st=d.out.st y''/\yZ d.nr (d.out.fr y'')=some ds/\wy κ' (.ret ds) (.returned v)) \/
     ∃ (z:d.kM.den) (p:D),(Sum.inl y':d.out.den⊕d.kM.den)=.inr z/\κ'.st=d.kM.st z/\(d.kM.fr z).get 0=some p/\wy κ' (.kM (.iface d.pt p)) (.returned v)) :=
    ⟨e4.defers,v,k1,κ',q1,q3,q4,.inl ⟨y',ds,rfl,q2,q5,q6⟩⟩
   rcases hex with rfl | rfl
   ·exact oR
   ·exact oR
  cases hox:o.ex<;>rw[hox]at e0 e6<;>simp only at e0
  ·exact fin (.inl e6) e0
  ·exact e0.elim
  ·exact fin (.inr e6) e0
  ·rename_i p
   cases p<;>simp only at e0<;>first | exact e0.elim | skip
   rename_i t v
   cases ht:Nat.beq t d.pt with
   | false=>rw[ht]at e0; exact e0.elim
   | true =>
    rw[ht,cond_true]at e0
    have:=Nat.eq_of_beq_eq_true ht
    subst this
    obtain⟨u,rfl,hv⟩:=e6
    cases hv with
    | iface _ _ u hu =>
     have:∃ z,y=.inr z/\((d.kM.un [(0,some v)] o.st).bind λz=>match(d.kM.fr z).get 0 with | some _=>T.ret z | none=>.fail).leads z:=by
      obtain⟨z,g1,g2⟩:=T.zd.1 e0
      split at g2
      ·rename_i p hp
       have g2:Sum.inr z=y:=g2
       refine⟨z,g2.symm,T.zd.2 ⟨z,g1,?_⟩⟩
       rw[hp]; rfl
      ·exact g2.elim
     obtain⟨z,rfl,hz2⟩:=this
     obtain⟨κ',p,q1,q2,q3,q4,q5,q6⟩:=z57 (t:=d.pt) e1 e2 e3 (by rw[xM]; exact Nat.le_trans (vQ.tp _ _) zcW) hu hz2
     exact⟨e4.defers,κ',q1,q3,q4,.inr ⟨z,p,rfl,q2,q5,q6⟩⟩
theorem Lq{d:fm}{f:Nat}(b:(d.sh.den->T (d.out.den⊕d.kM.den))->d.sh.den->T (d.out.den⊕d.kM.den))(hF:∀ x,d.F x=T.fix b x)(h:∀ F:d.sh.den->T (d.out.den⊕d.kM.den),kO P f ⟨d.ks,d.sh,d.yf,d.out,d.nr,d.pt,d.kM,F⟩->kO P f ⟨d.ks,d.sh,d.yf,d.out,d.nr,d.pt,d.kM,b F⟩):kO P f d:=by
 have hN:∀ m,kO P f ⟨d.ks,d.sh,d.yf,d.out,d.nr,d.pt,d.kM,T.Ce b m⟩:=by
  intro m
  induction m with
  | zero=>nofun
  | succ m ih=>exact h _ ih
 intro κ x zA y xM hy hI hl ha
 rw[hF,T.lq]at hy
 obtain⟨m,hm⟩:=hy
 exact hN m κ x zA y xM (hm m (Nat.le_refl _)) hI hl ha
end
noncomputable def sT:Nat->Code->Option Code
 | k,.block id (.loop b)=>if k=id then some b else sT k b
 | k,.seq a b=>match sT k a with | some x=>some x | none=>sT k b
 | k,.cond _ a b=>match sT k a with | some x=>some x | none=>sT k b
 | k,.block _ a=>sT k a
 | _,_=>none
def GF(P:Program)(n:Nat)(H:Hints):List (Nat×Code)->Prop
 | []=>True
 | p::r=>(∀ l,H.loop p.1=some l->Z9 P n l p.2)/\GF P n H r
theorem zk{P:Program}{n:Nat}{H:Hints}:GF P n H []:=trivial
theorem zU{P:Program}{n:Nat}{H:Hints}{id:Nat}{b:Code}{r:List (Nat×Code)}{l:zJ}(hl:H.loop id=some l)(h:Z9 P n l b)(t:GF P n H r):GF P n H ((id,b)::r) :=
 ⟨λl' Tp=>(Option.some.inj (hl.symm.trans Tp))▸h,t⟩
theorem tQ{P:Program}{n:Nat}{H:Hints}{code:Code}{L:List (Nat×Code)}(h:xo code=L)(ha:GF P n H L):uh P n H code:=by
 intro p hp
 rw[h]at hp
 clear h
 induction L with
 | nil=>cases hp
 | cons q r ih =>
  rcases List.mem_cons.1 hp with rfl | hp
  ·exact ha.1
  ·exact ih ha.2 hp
end Go.AM
namespace Go.AM
set_option linter.unusedSectionVars false
variable [vU]
open Go.RowKit Go.ChangeShapes
def MQ:(τs:List Ty)->Jn τs->jx (τs.map .ty)
 | [],_=>()
 | [_],x=>x.1
 | _::σ::r,x=>(x.1,MQ (σ::r) x.2)
theorem Km:∀ (τs:List Ty) (x:Jn τs),QS (τs.map .ty) (MQ τs x)=mkD τs x
 | [],_=>rfl
 | [_],_=>rfl
 | τ::σ::r,x=>congrArg (D.zI τ x.1 :: ·) (Km (σ::r) x.2)
section
variable {H:Type} {enc:TypeId×Value->H} {P:Program} {xid m n:Nat}
theorem z5C{f:Nat}{fn:Func}(τs:List Ty){F:jx (τs.map .ty)->T (KD [.bool])}(hS:zu P f ⟨τs.map .ty,[.bool],F⟩)(hf:P.funcs[f]? = some fn)(hbd:fn.body.isNone=false) (hnm:(fn.name == "runtime.NumGoroutine")=false)
  (hl:laidOutB P=true) (xid m n:Nat) (hts:Zw P fn.params.toList=true) (hτ:fn.params.toList.map (JO P xid n)=τs.map some) (hx:CN P xid m=true)
  {bt:TypeId} (hr:fn.resultTypes = #[bt]) (hbt:P.underlying bt=some .bool) {s:ChangeSpec} (hv:s.vars=[]) (hs:∀ ds:List (DataW H),ds.length=τs.length->s.fn H ds={ results:=[.lit (.bool true)],args:=ds })
  (B:MF H) {lim:Nat} (law:∀ x:Jn τs,wfL τs x->bkL τs x<=lim->(F (MQ τs x)).run=some true)
  {fresh handsOn:Bool} {W:World} {base:Nat} {args:Array Value} {ds gs:List (DataW H)} {before:List MemPlace}
  (Ji:∀ (j:Nat) t v,fn.params[j]? = some t->args[j]? = some v->Value.okWide P W .any base t v)
  (hW:DataW.Whole enc P fn.params.toList s.vars false W args.toList ds gs before) (hk:B.bs (ds++gs)<=lim) (hG:sY W λk=>k<W.heap.size) :
  Calls P f args W λe W'=>∃ v,e=.returned v/\s.post enc P fn false fresh handsOn false W args v W':=by
 refine M7 (B4.snd hS) hf hbd hnm hl xid m n τs hts hτ hx hr hbt hv hs B (λx hw hb => ?_) Ji hW hk hG
 have h:=T.wz.1 (law x hw hb)
 rw[<- Km τs x]
 exact T.zd.2 ⟨MQ τs x,Yv [] _ _,T.zd.2 ⟨true,h,rfl⟩⟩
end
end Go.AM