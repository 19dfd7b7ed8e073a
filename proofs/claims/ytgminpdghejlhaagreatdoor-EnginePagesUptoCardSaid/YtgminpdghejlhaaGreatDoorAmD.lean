/-
  The abstract machine, part D: texts of our own, the same for each claim.
-/
import Derived.Test.YtgminpdghejlhaaGreatDoorAmA
import Derived.Lib.LaidTab
import Derived.Shelf.Vars
import Derived.Test.YtgminpdghejlhaaGreatDoorAmC
import Derived.OpenShut
import Derived.Test.YtgminpdghejlhaaGreatDoorAmB
import Derived.Lib.LazyBuf
set_option linter.unusedVariables false
open Nat renaming eq_of_beq_eq_true -> zA, beq -> W, le_of_ble_eq_true -> zE, le_refl -> zJ, ble -> zM, blt -> zO, ble_eq -> zU, le_trans -> zV, zero_add -> qD, not_lt_zero -> qN, beq_refl -> qS
open List renaming getElem?_eq_some_iff -> Y, all_cons -> zF, getElem?_eq_getElem -> zG, mem_cons -> zH, mem_cons_of_mem -> zI, getElem?_append_left -> zK, mem_singleton -> zL, mem_append -> zN, all_eq_true -> zP, mem_cons_self -> zQ, append_nil -> zT, isEmpty_iff -> zW, range -> zX, eq_nil_of_length_eq_zero -> zY, length -> zZ, map_cons -> qI, cons_append -> qJ, length_cons -> qK
open Bool renaming and_eq_true -> I, not_eq_true' -> qF
open Go.Value renaming okWide -> zR, cells -> qH
open Go.DataW renaming TrodAll -> zS, LaidVars -> qP
open Array renaming getElem?_setIfInBounds -> qA, length_toList -> qB, getD_eq_getD_getElem? -> qC, getElem?_eq_some_iff -> qE, getElem?_toList -> qO
open Go.Cell renaming okWide -> qG
open Option renaming bind_eq_some_iff -> qL
open Sum renaming inr -> qM, inl -> qR
open Go.Lib renaming TabIs -> qQ
open Go.World renaming cell? -> qT
namespace Go.AM
def FA(k:IntKind)(zs:List Int)(o:Obj):Prop:=∃ t fr,o=.cells (zs.map λz=>Value.int k z).toArray t fr
def Di(k:IntKind)(o:Obj):Prop:=∃ m t fr,o=.cells #[.int k m] t fr
theorem z4p{P:Program}{w:World}{name:String}{k:IntKind}{zs:List Int}{g:Nat}(hg:P.globalNamed name=some g)(h:qQ P w name k zs) :
  g<w.heap.size/\∃ o,w.heap[g]? = some o/\FA k zs o:=by
 unfold qQ World.var? at h
 rw[hg]at h
 simp at h
 split at h
 ·rename_i cs t fr ho
  cases h
  exact⟨(qE.1 ho).1,_,ho,t,fr,rfl⟩
 ·cases h
theorem zex{P:Program}{w:World}{name:String}{k:IntKind}{zs:List Int}{g:Nat}(hg:P.globalNamed name=some g)(h:∃ o,w.heap[g]? = some o/\FA k zs o):qQ P w name k zs:=by
 obtain⟨o,ho,t,fr,rfl⟩:=h
 unfold qQ World.var?
 grind
theorem SN{w:World}{k:IntKind}{g:Nat}(h:∃ o,w.heap[g]? = some o/\Di k o):∃ m,w.cell? ⟨g,0,none⟩=some (.int k m):=by
 obtain⟨o,ho,m,t,fr,rfl⟩:=h
 exact⟨m,by simp[qT,ho]⟩
theorem SO{P:Program}{w:World}{g:Nat}{t:TypeId}{zero:Array Value}{k:IntKind}
  (h:w.ShapedOpen P) (hg:g<P.globals.size)
  (h0:((begin P (λ_ _=>0) default).world.heap[g]?).bind Obj.row? = some (zero,t)) (hz:zero.size=1)
  (J:P.buildable t=true) (hc:P.cellTypes P.depth t=some [t]) (hu:P.underlying t=some (.int k)):g<w.heap.size/\∃ o,w.heap[g]? = some o/\Di k o:=by
 obtain⟨m,hm⟩:=Go.Proofs.cell_of_shapedOpen_int h hg h0 hz J hc hu
 obtain⟨cs,hh,hs,_⟩:=h.1 g zero t hg h0
 have B:cs.size=1:=hs.trans hz
 refine⟨(qE.1 hh).1,_,hh,m,t,(0,0),?_⟩
 have h1:w.cell? ⟨g,0,none⟩=some cs[0]:=by simp[qT,hh]
 have:cs = #[.int k m]:=by
  grind
 rw[this]
theorem SS{P:Program}{zD:World}{name:String}{k:IntKind}{zs:List Int}{rest:List (String×DataW Unit)}{ps:List MemPlace}{g:Nat}{t e:TypeId}{n:Nat}
  (hg:P.globalNamed name=some g) (NS:(P.globals[g]?).map (·.type)=some t) (ht:P.underlying t=some (.array n e)) (he:P.underlying e=some (.int k)) (hce:P.cellsOf e=1) (hct:P.cellsOf t=n)
  (h:qP P zD ((name,Lib.tabData k zs)::rest) ps):g<zD.heap.size/\∃ o,zD.heap[g]? = some o/\FA k zs o:=by
 obtain⟨g',t',cs,fuel,p,q,hg',ht',zhQ,V,_,_⟩:=h
 refine z4p hg ?_
 obtain rfl:=Option.some.inj (hg.symm.trans hg')
 obtain rfl:=Option.some.inj (NS.symm.trans ht')
 unfold qQ
 rw[zhQ,<- Lib.cells_of_tab ht he hce hct V]
theorem BC{P:Program}{zD:World}{x:String×DataW Unit}{rest:List (String×DataW Unit)}{ps:List MemPlace}(h:qP P zD (x::rest) ps):∃ q,qP P zD rest q:=by
 obtain⟨g',t',cs,fuel,p,q,hg',ht',zhQ,V,h1,_⟩:=h
 grind
end Go.AM
namespace Go.AM
open Go.RowKit
mutual
def bkE:Expr->Nat
 | .mk _ n s l=>1+((1+((zZ n.2.1+1)+((zZ n.2.2.1+1)+1)))+((zZ s+1)+((bkEs l+1)+1)))
def bkEs:List Expr->Nat
 | []=>0
 | e::r=>bkE e+bkEs r
end
def XT{α:Type}(f:α->Nat):List α->Nat
 | []=>0
 | x::r=>f x+XT f r
def bk:(τ:Ty)->den τ->Nat
 | .int _,_=>1
 | .bool,_=>1
 | .str,s=>zZ s+1
 | .sl e,l=>XT (bk e) l+1
 | .nil,_=>1
 | .cons a b,x=>bk a x.1+bk b x.2
 | .expr,x=>bkE x
theorem H5{α:Type}(l:List α):XT (λ_=>1) l=l.length:=by induction l with | nil=>rfl | cons x r ih=>simp[XT]; omega
theorem Nx(l:List Expr):bkEs l=XT (bk .expr) l:=by induction l with | nil=>rfl | cons x r ih=>simp[bkEs,XT,ih,bk]
theorem z6m(x:Expr):bk K9 x.z0V=bk .expr x:=by
 cases x with | mk k n s l =>
 simp only[bk,Expr.z0V,bkE,Nx,Expr.num,Expr.name,Expr.kids,H5]
mutual
def wfE:Expr->Prop
 | .mk k n s l=>(IntKind.i64.min<=k/\k<=IntKind.i64.max)/\((True/\((∀ x∈n.2.1,IntKind.u32.min<=x/\x<=IntKind.u32.max)/\((∀ x∈n.2.2.1,IntKind.u32.min<=x/\x<=IntKind.u32.max)/\True)))/\(zZ s<=maxLen/\(wfEs l/\True)))
def wfEs:List Expr->Prop
 | []=>True
 | e::r=>wfE e/\wfEs r
end
def wf:(τ:Ty)->den τ->Prop
 | .int k,n=>k.min<=n/\n<=k.max
 | .bool,_=>True
 | .str,s=>zZ s<=maxLen
 | .sl e,l=>∀ x∈l,wf e x
 | .nil,_=>True
 | .cons a b,x=>wf a x.1/\wf b x.2
 | .expr,x=>wfE x
theorem Rx(l:List Expr):wfEs l↔∀ x∈l,wf .expr x:=by induction l with | nil=>simp[wfEs] | cons x r ih=>simp[wfEs,ih,wf]
theorem za9(x:Expr):wf K9 x.z0V↔wf .expr x:=by
 cases x with | mk k n s l=>simp only[wf,Expr.z0V,wfE,Rx,Expr.kind,Expr.num,Expr.name,Expr.kids]
structure RW(H:Type) where
 b:DataW H->Nat
 bs:List (DataW H)->Nat
 str:∀ s,b (.lit (.string s))=s.length+1
 bool:∀ x,b (.lit (.bool x))=1
 int:∀ k n,b (.lit (.int k n))=1
 nil:b .nil=1
 slice:∀ x y,b (.slice x y)=bs x+bs y+1
 agg:∀ x,b (.agg x)=bs x+1
 zero:bs []=0
 cons:∀ x r,bs (x::r)=b x+bs r
section
variable (P:Program) (xid:Nat)
def Ks:Nat->List Field->Bool
 | _,[]=>true
 | o,f::r=>W f.offset o&&Ks (o+P.cellsOf f.type) r
def K8:Nat->List Field->Nat
 | o,[]=>o
 | o,f::r=>K8 (o+P.cellsOf f.type) r
def Cg:Nat->Nat->Option Ty
 | 0,_=>none
 | n+1,t=>bif W t xid then some .expr else
  match P.underlying t with
  | some (.int k)=>some (.int k)
  | some .bool=>some .bool
  | some .string=>some .str
  | some (.slice e)=>match Cg n e with | some a=>bif W (P.cellsOf e) a.size&&zO 0 a.size then some (.sl a)else none | none=>none
  | some (.struct fs)=>bif Ks P 0 fs.toList&&W (K8 P 0 fs.toList) (P.cellsOf t)then oN (fs.toList.map λf=>Cg n f.type)else none
  | _=>none
def N8(m:Nat):Bool:=match P.underlying xid with
 | some (.struct fs)=>Ks P 0 fs.toList&&W (K8 P 0 fs.toList) (P.cellsOf xid)&&decide (oN (fs.toList.map λf=>Cg P xid m f.type)=some K9)
 | some _=>false
 | none=>true
end
section
variable {H:Type} {enc:TypeId×Value->H} {P:Program} {w:World} {xid m:Nat} (hl:RW H)
def Yt(w:World)(hl:RW H)(τ:Ty)(cs:List Value)(k:Nat):Prop:=∃ x:den τ,Rc w (λk=>k<w.heap.size) τ x cs/\wf τ x/\bk τ x<=k
theorem Kv{fuel:Nat}{cs:List Value}(ih:∀ n t τ cs d ps,Cg P xid n t=some τ->DataW.trod enc P w 0 (λ_=>true) true fuel t cs=some (d,ps)->Yt w hl τ cs (hl.b d)){n:Nat} :
  ∀ (fs:List Field) (o:Nat) (τ:Ty) (xs:List (DataW H×List MemPlace)),oN (fs.map λf=>Cg P xid n f.type)=some τ->Ks P o fs=true->K8 P o fs=cs.length->xs.length=fs.length ->
   (∀ (i:Nat) (f:Field),fs[i]? = some f->DataW.trod enc P w 0 (λ_=>true) true fuel f.type ((cs.drop f.offset).take (P.cellsOf f.type))=xs[i]?)->Yt w hl τ (cs.drop o) (hl.bs (xs.map (·.1))+1)
 | [],o,τ,xs,ht,_,he,B,_=>by
  cases ht
  simp only[K8]at he
  obtain rfl:xs=[]:=zY B
  refine⟨(),?_,trivial,by simp[bk]⟩
  rw[he,List.drop_length]; exact .nil
 | f::r,o,τ,xs,ht,ho,he,B,U=>by
  cases xs with
  | nil=>simp at B
  | cons x xs =>
  simp only[Ks,I]at ho
  have ho1:f.offset=o:=zA ho.1
  simp only[qI]at ht
  cases h1:Cg P xid n f.type with
  | none=>rw[h1]at ht; cases ht
  | some a =>
   rw[h1]at ht
   simp only[oN]at ht
   cases X:oN (r.map λf=>Cg P xid n f.type)with
   | none=>grind
   | some b =>
    rw[X]at ht
    cases ht
    obtain⟨x1,p1,p2,p3⟩:=ih n f.type a _ x.1 x.2 h1 (by have:=U 0 f rfl; simpa using this)
    obtain⟨x2,q1,q2,q3⟩:=Kv ih r (o+P.cellsOf f.type) b xs X ho.2 he (by simpa using B) (λi g hg=>by have:=U (i+1) g (by simpa using hg); simpa using this)
    refine⟨(x1,x2),?_,⟨p2,q2⟩,?_⟩
    ·have e:cs.drop o=(cs.drop o).take (P.cellsOf f.type)++cs.drop (o+P.cellsOf f.type):=by
      conv=>lhs; rw[<- List.take_append_drop (P.cellsOf f.type) (cs.drop o)]
      simp
     rw[e]
     rw[ho1]at p1
     exact .cons _ _ _ _ _ _ p1 q1
    ·simp only[bk,qI,hl.cons]; omega
theorem BV{e:Ty}(k:Nat):∀ (n:Nat) (elems:List (DataW H×List MemPlace)) (g:Nat->List Value),elems.length=n->(∀ i,i<n->∃ d,elems[i]? = some d/\Yt w hl e (g i) (hl.b d.1)) ->
  ∃ l:List (den e),l.length=n/\(∀ i (hi:i<l.length),Rc w (λk=>k<w.heap.size) e l[i] (g i))/\(∀ x∈l,wf e x)/\XT (bk e) l<=hl.bs (elems.map (·.1))
 | 0,elems,g,B,_=>by
  exact⟨[],rfl,λi hi=>absurd hi (qN i),qu,by simp[XT]⟩
 | n+1,elems,g,B,h=>by
  cases elems with
  | nil=>simp at B
  | cons y ys =>
   obtain⟨d,h1,x,X,h3,h4⟩:=h 0 (Z)
   simp at h1
   subst h1
   obtain⟨l,l1,l2,l3,l4⟩:=BV k n ys (λi=>g (i+1)) (wa) λi hi=>by
    obtain⟨d,h1,X⟩:=h (i+1) (Z)
    exact⟨d,wa,X⟩
   refine⟨x::l,wa,λi hi => ?_,λz hz => ?_,?_⟩
   ·grind
   ·grind
   ·simp only[XT,qI,hl.cons]; omega
theorem Tl(U:N8 P xid m=true):∀ (fuel n t:Nat) (τ:Ty) (cs:List Value) (d:DataW H) (ps:List MemPlace),Cg P xid n t=some τ->DataW.trod enc P w 0 (λ_=>true) true fuel t cs=some (d,ps)->Yt w hl τ cs (hl.b d):=by
 intro fuel
 induction fuel with
 | zero=>nofun
 | succ fuel ih =>
  intro n t τ cs d ps ht h
  have struct:∀ (fs:Array Field) (k:Nat) (σ:Ty),P.underlying t=some (.struct fs)->(Ks P 0 fs.toList&&W (K8 P 0 fs.toList) (P.cellsOf t))=true->oN (fs.toList.map λf=>Cg P xid k f.type)=some σ->Yt w hl σ cs (hl.b d):=by
   intro fs k σ hu ho hc
   simp only[I]at ho
   obtain⟨xs,n',hn,V,B,hlx,YY⟩:=DataW.trod_struct hu h
   cases hn
   cases V
   have:=Kv hl (cs:=cs) (ih:=ih) fs.toList 0 σ xs hc ho.1 (by rw[zA ho.2,B]) (by simpa using hlx) (λi f hf=>YY i f (by simpa using hf))
   rw[hl.agg]
   grind
  cases n with
  | zero=>cases ht
  | succ n =>
   unfold Cg at ht
   cases J:W t xid with
   | true =>
    rw[J,cond_true]at ht
    cases ht
    have:=zA J
    subst this
    unfold N8 at U
    split at U
    ·rename_i fs hu
     simp only[I,decide_eq_true_eq]at U
     obtain⟨x,h1,X,h3⟩:=struct fs m K9 hu (by simp[U.1.1,U.1.2]) U.2
     refine⟨Expr.Mq x,.expr _ _ _ _ _ h1,?_,?_⟩
     ·exact(za9 (Expr.Mq x)).1 X
     ·rw[<- z6m (Expr.Mq x)]; exact h3
    ·cases U
    ·rename_i hu
     rw[DataW.trod_step]at h
     simp[DataW.trodStep,hu]at h
   | false =>
    rw[J,cond_false]at ht
    split at ht
    ·rename_i k hu
     cases ht
     obtain⟨n',rfl,X,h3⟩:=DataW.trod_int hu h
     cases X
     simp only[Lit.wf,I,decide_eq_true_eq]at h3
     exact⟨n',.int k n',h3,by simp[bk,hl.int]⟩
    ·rename_i hu
     cases ht
     obtain⟨b,rfl,X⟩:=DataW.trod_bool hu h
     cases X
     exact⟨b,.bool b,trivial,by simp[bk,hl.bool]⟩
    ·rename_i hu
     cases ht
     obtain⟨s,rfl,X,h3⟩:=DataW.trod_string hu h
     cases X
     refine⟨s.data.toList,?_,?_,?_⟩
     ·have:s=⟨s.data.toList.toArray⟩:=by cases s; simp
      exact .str _
     ·simp only[wf,qB]; exact h3
     ·simp[bk,hl.str]
    ·rename_i e hu
     split at ht
     ·rename_i a ha
      cases hc:W (P.cellsOf e) a.size&&zO 0 a.size with
      | false=>grind
      | true =>
       rw[hc,cond_true]at ht
       cases ht
       simp only[I]at hc
       have cp:P.cellsOf e=a.size:=zA hc.1
       have WN:0<a.size:=zE hc.2
       rcases DataW.trod_slice hu h with⟨rfl,X⟩ | ⟨p,len,cap,elems,rest,n',hn,rfl,V,_,jq,_,hlen,hel,hre,_⟩
       ·cases X
        exact⟨[],.ma a none,by simp[wf],by simp[bk,XT,hl.nil]⟩
       ·cases hn
        cases V
        by_cases h0:cap=0
        ·subst h0
         have:len=0:=Z
         subst this
         exact⟨[],.ma a (some p),by simp[wf],by simp[bk,XT,hl.slice]⟩
        ·rw[cp]at hel hre
         have zcW:p.block<w.heap.size/\p.spot=none:=by
          have first:∃ x,(w.cells? 0 p a.size)=some x:=by
           by_cases B:len=0
           ·have:=(hre rfl).2 0 (Z)
            cases hcc:w.cells? 0 p a.size with
            | some x=>simp
            | none =>
             have e0:p.add ((0+0)*a.size)=p:=by simp[Addr.add]
             grind
           ·have:=hel 0 (Z)
            cases hcc:w.cells? 0 p a.size with
            | some x=>simp
            | none =>
             have e0:p.add (0*a.size)=p:=by simp[Addr.add]
             grind
          obtain⟨x,U⟩:=first
          refine⟨World.cells?_block U WN,?_⟩
          have X:=(World.cells?_some U).2
          have h3:=X.2 0 WN
          have e0:p.add 0=p:=rfl
          cases hs:p.spot with
          | none=>rfl
          | some q =>
           unfold qT at h3
           grind
         obtain⟨blk,off,sp⟩:=p
         obtain⟨z1r,WO⟩:=zcW
         subst WO
         have hg:∀ i,∃ c:List Value,i<len->∃ d,elems[i]? = some d/\Yt w hl a c (hl.b d.1)/\w.cells? 0 ⟨blk,off+i*a.size,none⟩ a.size=some c:=by
          intro i
          by_cases hi:i<len
          ·have:=hel i hi
           rw[addr_add]at this
           cases hcc:w.cells? 0 ⟨blk,off+i*a.size,none⟩ a.size with
           | none =>
            grind
           | some c =>
            refine⟨c,λ_=>⟨elems[i]'(Z),qu,?_,rfl⟩⟩
            grind
          ·exact⟨[],λh=>absurd h hi⟩
         let g:Nat->List Value:=λi=>Classical.choose (hg i)
         have hg':∀ i,i<len->∃ d,elems[i]? = some d/\Yt w hl a (g i) (hl.b d.1)/\w.cells? 0 ⟨blk,off+i*a.size,none⟩ a.size=some (g i):=λi hi=>Classical.choose_spec (hg i) hi
         obtain⟨l,l1,l2,l3,l4⟩:=BV hl (w:=w) (e:=a) 0 len elems g hlen λi hi=>by
          grind
         refine⟨l,?_,l3,?_⟩
         ·have:=Rc.sl (w:=w) (ok:=λk=>k<w.heap.size) a l blk off cap g z1r (Z) l2 λi hi j v hj=>by
           obtain⟨d,_,_,h3⟩:=hg' i (Z)
           obtain⟨_,k2,k3⟩:=World.cells?_some h3
           have TX:j<(g i).length:=(Y.1 hj).1
           have:=k3 j (Z)
           rw[addr_add,hj]at this
           exact this
          grind
         ·simp only[bk,hl.slice]; omega
     ·cases ht
    ·rename_i fs hu
     cases hc:Ks P 0 fs.toList&&W (K8 P 0 fs.toList) (P.cellsOf t)with
     | false=>grind
     | true =>
      rw[hc,cond_true]at ht
      exact struct fs n τ hu hc ht
    ·cases ht
end
end Go.AM
namespace Go.AM
set_option linter.unusedSectionVars false
variable [gB]
open Go.RowKit Go.ChangeShapes
def YM:List Ty->Type
 | []=>Unit
 | τ::r=>den τ×YM r
def mkD:(τs:List Ty)->YM τs->List D
 | [],_=>[]
 | τ::r,x=>.qi τ x.1::mkD r x.2
def wfL:(τs:List Ty)->YM τs->Prop
 | [],_=>True
 | τ::r,x=>wf τ x.1/\wfL r x.2
def bkL:(τs:List Ty)->YM τs->Nat
 | [],_=>0
 | τ::r,x=>bk τ x.1+bkL r x.2
def UX(P:Program)(ts:List Nat):Bool:=ts.all λt=>P.readableRec t&&decide (t<P.types.size)
section
variable {H:Type} {enc:TypeId×Value->H} {P:Program} {xid m n:Nat} {w:World}
theorem zc5{t:Nat}{τ:Ty}{v:Value}{base:Nat}(ht:Cg P xid n t=some τ)(U:N8 P xid m=true)(h:zR P w .any base t v):pk τ v.cells.toList=v:=by
 cases n with
 | zero=>cases ht
 | succ n =>
  have agg:∀ fs:Array Field,P.underlying t=some (.struct fs)->τ.isAgg=true->pk τ v.cells.toList=v:=by
   intro fs hu ha
   unfold zR at h
   rw[hu]at h
   obtain⟨cs,rfl,_⟩:=h
   simp[pk,ha,qH]
  unfold Cg at ht
  cases J:W t xid with
  | true =>
   rw[J,cond_true]at ht
   cases ht
   have:=zA J
   subst this
   unfold N8 at U
   split at U
   ·rename_i fs hu; exact agg fs hu rfl
   ·cases U
   ·rename_i hu
    unfold zR at h
    rw[hu]at h
    simp[qG,Cell.ok,hu]at h
  | false =>
   rw[J,cond_false]at ht
   split at ht
   ·rename_i k hu
    cases ht
    unfold zR at h
    rw[hu]at h
    simp only[qG,hu,Cell.ok]at h
    split at h<;>simp_all [pk,Ty.isAgg,qH]
   ·rename_i hu
    cases ht
    unfold zR at h
    rw[hu]at h
    simp only[qG,hu,Cell.ok]at h
    split at h<;>simp_all [pk,Ty.isAgg,qH]
   ·rename_i hu
    cases ht
    unfold zR at h
    rw[hu]at h
    simp only[qG,hu,Cell.ok]at h
    split at h<;>simp_all [pk,Ty.isAgg,qH]
   ·rename_i e hu
    have h1:τ.isAgg=false:=by
     split at ht
     ·rename_i a ha
      cases hc:W (P.cellsOf e) a.size&&zO 0 a.size with
      | false=>grind
      | true=>rw[hc,cond_true]at ht; cases ht; rfl
     ·cases ht
    unfold zR at h
    rw[hu]at h
    simp only[qG,hu,Cell.ok]at h
    split at h<;>simp_all [pk,qH]
   ·rename_i fs hu
    refine agg fs hu ?_
    cases hc:Ks P 0 fs.toList&&W (K8 P 0 fs.toList) (P.cellsOf t)with
    | false=>grind
    | true =>
     rw[hc,cond_true]at ht
     have key:∀ (l:List (Option Ty)),oN l=some τ->τ.isAgg=true:=by
      intro l B
      cases l with
      | nil=>cases B; rfl
      | cons a r =>
       cases a with
       | none=>cases B
       | some a =>
        simp only[oN]at B
        cases X:oN r with
        | none=>grind
        | some b=>rw[X]at B; cases B; rfl
     grind
   ·cases ht
theorem I9(hl:RW H)(U:N8 P xid m=true){base:Nat}:∀ (ts:List TypeId) (τs:List Ty) (vs:List Value) (ds:List (DataW H)) (ps:List MemPlace),ts.map (Cg P xid n)=τs.map some ->
  zS enc P w 0 (λ_=>true) true ts vs ds ps->(∀ (j:Nat) t v,ts[j]? = some t->vs[j]? = some v->zR P w .any base t v) ->
  ∃ x:YM τs,wQ ⟨w,λk=>k<w.heap.size,[],[]⟩ (mkD τs x) vs/\wfL τs x/\bkL τs x<=hl.bs ds/\ds.length=τs.length
 | [],τs,vs,ds,ps,ht,h,_=>by
  cases τs with
  | cons=>cases ht
  | nil =>
   cases vs<;>cases ds<;>simp only[zS]at h
   exact⟨(),⟨rfl,λi h1=>absurd h1 (qN i)⟩,trivial,Nat.zero_le _,rfl⟩
 | t::ts,τs,vs,ds,ps,ht,h,hv=>by
  cases τs with
  | nil=>cases ht
  | cons τ τs =>
   simp at ht
   cases vs with
   | nil=>simp[zS]at h
   | cons v vs =>
    cases ds with
    | nil=>simp[zS]at h
    | cons d ds =>
     obtain⟨p,q,⟨fuel,h1⟩,X,_⟩:=h
     obtain⟨x,k1,k2,k3⟩:=Tl hl U fuel n t τ _ d p ht.1 h1
     obtain⟨y,g1,g2,g3,g4⟩:=I9 hl U ts τs vs ds q ht.2 X λj t v a b=>hv (j+1) t v (wa) (wa)
     refine⟨(x,y),⟨by simp only[mkD,qK]; rw[g1.1],λi h1 X => ?_⟩,⟨k2,g2⟩,?_,wa⟩
     ·cases i with
      | zero =>
       have:=RD.qi (O:=⟨w,λk=>k<w.heap.size,[],[]⟩) τ x _ k1
       rw[zc5 ht.1 U (hv 0 t v rfl rfl)]at this
       exact this
      | succ i=>exact g1.2 i (by simpa[mkD]using h1) (wa)
     ·simp only[bkL,hl.cons]; omega
theorem Bf(B:laidOutB P=true){zD W':World}(J:Below zD.heap.size zD W'):∀ (ts:List TypeId) (vs:List Value) (ds:List (DataW H)) (ps:List MemPlace),UX P ts=true ->
  zS enc P zD 0 (λ_=>true) true ts vs ds ps->(∀ x∈ps,x.block<zD.heap.size)->zS enc P W' 0 (λb=>decide (b<zD.heap.size)) true ts vs ds ps
 | [],vs,ds,ps,_,h,_=>by cases vs<;>cases ds<;>simp_all [zS]
 | t::ts,vs,ds,ps,ht,h,wO=>by
  cases vs with
  | nil=>simp[zS]at h
  | cons v vs =>
   cases ds with
   | nil=>simp[zS]at h
   | cons d ds =>
    obtain⟨p,q,h1,X,rfl⟩:=h
    simp only[UX,zF,I,decide_eq_true_eq]at ht
    exact⟨p,q,Below.trod B ht.1.1 ht.1.2 h1 J λx U=>wO x (wa),Bf B J ts vs ds q (by simpa[UX]using ht.2) X λx U=>wO x (wa),rfl⟩
end
theorem SU{H:Type}{enc:TypeId×Value->H}{P:Program}{f:Nat}{fn:Func}{S:List D->St->T (Hj×St)}(hS:E8 P f S)(hf:P.funcs[f]? = some fn)(hbd:fn.body.isNone=false) (hnm:(fn.name == "runtime.NumGoroutine")=false)
  (B:laidOutB P=true) (xid m n:Nat) (τs:List Ty) (hts:UX P fn.params.toList=true) (hτ:fn.params.toList.map (Cg P xid n)=τs.map some) (U:N8 P xid m=true)
  {bt:TypeId} (hr:fn.resultTypes = #[bt]) (hbt:P.underlying bt=some .bool) {s:ChangeSpec} (hv:s.vars=[]) (hs:∀ ds:List (DataW H),ds.length=τs.length->s.fn H ds={ results:=[.lit (.bool true)],args:=ds })
  (hl:RW H) {lim:Nat} (law:∀ x:YM τs,wfL τs x->bkL τs x<=lim->(S (mkD τs x) []).leads (.ret [.qi .bool true],[]))
  {fresh handsOn:Bool} {zD:World} {base:Nat} {args:Array Value} {ds gs:List (DataW H)} {before:List MemPlace}
  (hval:∀ (j:Nat) t v,fn.params[j]? = some t->args[j]? = some v->zR P zD .any base t v)
  (hW:DataW.Whole enc P fn.params.toList s.vars false zD args.toList ds gs before) (hk:hl.bs (ds++gs)<=lim) (hG:V9 zD λk=>k<zD.heap.size) :
  Calls P f args zD λe W'=>∃ v,e=.returned v/\s.post enc P fn false fresh handsOn false zD args v W':=by
 have hW':=hW
 obtain⟨p,q,hA,hV,rfl,hfz,hnd⟩:=hW
 rw[hv]at hV
 obtain⟨rfl,rfl⟩:=trodVars_none hV
 simp only[zT]at hk hW'
 obtain⟨x,h1,X,h3,h4⟩:=I9 (n:=n) hl U fn.params.toList τs args.toList ds p hτ hA λj t v a b=>hval j t v (wa) (wa)
 have hI:Inv ⟨zD,λk=>k<zD.heap.size,[],[]⟩ :=
  ⟨rfl,λk hk=>hk,λb blk n h=>wa,λb b' blk n n' h=>by simp at h,λb x h=>by simp at h,hG⟩
 have zaH:=hS ⟨zD,λk=>k<zD.heap.size,[],[]⟩ (mkD τs x) args.toList _ _ (law x X (zV h3 hk)) hI h1
 rw[Array.toArray_toList]at zaH
 have key:Calls P f args zD λe w'=>∃ E:KS,E.w=w'/\E.st=[]/\Inv E/\Ext ⟨zD,λk=>k<zD.heap.size,[],[]⟩ E/\jl E (.ret [.qi .bool true]) e:=by
  rcases zaH with⟨_,h⟩ | ⟨v,w',h,_⟩
  ·exact h
  ·have:=uW (args:=args) hf hnm hbd zD
   grind
 refine key.mono λe W' ⟨E,e1,_,_,e4,v,e5,e6⟩ => ?_
 subst e1
 have J:Below zD.heap.size zD E.w:=⟨e4.os,e4.tape,e4.output,e4.size,λk hk=>e4.frame k hk λb n h=>by simp at h⟩
 have hv':v=.bool true:=by
  obtain⟨cs,g1,g2⟩:=RD.dq (show RD E (.qi .bool true) v from e6)
  rw[g1.cL]at g2
  exact g2
 subst hv'
 have wO:∀ x∈p,x.block<zD.heap.size:=λx U=>by simpa using hW'.lt x U
 refine⟨_,e5,ds,[],p,[],p,[],hW',?_,?_,?_,J.frame _,λh=>by cases h⟩
 ·rw[zT,hs ds h4,hr]
  exact trodAll_cons_mk (shut_bool hbt _) trodAll_mk0
 ·rw[zT,hs ds h4]
  exact Bf B J _ _ _ _ hts hA wO
 ·rw[zT,hs ds h4,hv]
  rfl
end Go.AM
namespace Go.AM
def E9:List Ty->Type
 | []=>Unit
 | [τ]=>den τ
 | τ::σ::r=>den τ×E9 (σ::r)
def Jn.ty:Jn->Ty | .rp τ=>τ | .im τ=>τ
def iF:List Jn->Type
 | []=>Unit
 | [p]=>den p.ty
 | p::q::r=>den p.ty×iF (q::r)
def BR:(p:Jn)->den p.ty->D
 | .rp τ,x=>.vE τ x
 | .im τ,x=>.qi τ x
def Qb:(l:List Jn)->iF l->List D
 | [],_=>[]
 | [p],x=>[BR p x]
 | p::q::r,x=>BR p x.1::Qb (q::r) x.2
def ET:(l:List Jn)->iF l
 | []=>()
 | [p]=>zb p.ty
 | p::q::r=>(zb p.ty,ET (q::r))
inductive Sk where
 | im (τ:Ty) | row (b:Nat) (e:Ty) | op (b T:Nat) | un | nl
def mu:List Sk->Type
 | []=>Unit
 | .im τ::r=>den τ×mu r
 | .row _ _::r=>mu r
 | .op _ _::r=>mu r
 | .un::r=>mu r
 | .nl::r=>mu r
def Wa:(l:List Sk)->mu l
 | []=>()
 | .im τ::r=>(zb τ,Wa r)
 | .row _ _::r=>Wa r
 | .op _ _::r=>Wa r
 | .un::r=>Wa r
 | .nl::r=>Wa r
inductive Mc where
 | im (τ:Ty) | rp (τ:Ty) | pt (b:Nat)
def ZP:List Mc->Type
 | []=>Unit
 | .im τ::r=>den τ×ZP r
 | .rp τ::r=>den τ×ZP r
 | .pt _::r=>ZP r
def Y3:(l:List Mc)->ZP l
 | []=>()
 | .im τ::r=>(zb τ,Y3 r)
 | .rp τ::r=>(zb τ,Y3 r)
 | .pt _::r=>Y3 r
def WW:(l:List Mc)->ZP l->List D
 | [],_=>[]
 | .im τ::r,x=>.qi τ x.1::WW r x.2
 | .rp τ::r,x=>.vE τ x.1::WW r x.2
 | .pt b::r,x=>.ptr b 0::WW r x
inductive Dk where
 | qi (τ:Ty) | vE (τ:Ty) | sub (b:Nat) (e:Ty) | wj (f:Nat) (caps:List Jn) | st (ks:List Sk) | mclo (f:Nat) (ms:List Mc) | mp | sT (e:Ty) | tight (e:Ty)
inductive Ck where
 | ptr (b off:Nat) | cur (b:Nat) (e:Ty) | wH | br | vb | wj (f:Nat) (l:List (Nat×Nat)) | gj (b:Nat) | uX
inductive Bk where
 | var (k:Dk) | cvar (k:Ck) | arr (e:Ty) | dead
def Dk.den:Dk->Type
 | .qi τ=>AM.den τ
 | .vE τ=>AM.den τ
 | .sub _ _=>Nat×Nat
 | .wj _ caps=>iF caps
 | .st ks=>mu ks
 | .mclo _ ms=>ZP ms
 | .mp=>List Int
 | .sT e=>List (AM.den e)×Bool
 | .tight e=>List (AM.den e)
def Dk.zb:(k:Dk)->k.den
 | .qi τ=>AM.zb τ
 | .vE τ=>AM.zb τ
 | .sub _ _=>(0,0)
 | .wj _ caps=>ET caps
 | .st ks=>Wa ks
 | .mclo _ ms=>Y3 ms
 | .mp=>[]
 | .sT _=>([],false)
 | .tight _=>[]
inductive It where
 | s (t:Nat) (k:Dk) | v (k:Dk) | a (e:Ty)
def It.den:It->Type
 | .s _ k=>k.den
 | .v k=>k.den
 | .a e=>List (AM.den e)
def It.zb:(i:It)->i.den
 | .s _ k=>k.zb
 | .v k=>k.zb
 | .a _=>[]
def kc:List It->Type
 | []=>Unit
 | [i]=>i.den
 | i::j::r=>i.den×kc (j::r)
def zmn:de->Nat
 | .arr v _ _=>v
 | _=>0
def jG(st:St)(b:Nat):Nat:=match st[b]? with | some x=>zmn x | none=>0
def jo(st:St):(l:List Sk)->mu l->List D
 | [],_=>[]
 | .im τ::r,x=>AM.flat τ x.1++jo st r x.2
 | .row b e::r,x=>.ms b (jG st b) e 0 (jG st b)::jo st r x
 | .op b T::r,x=>.eN b T::jo st r x
 | .un::r,x=>.V6::jo st r x
 | .nl::r,x=>.wH::jo st r x
def QT(st:St):(k:Dk)->k.den->D
 | .qi τ,x=>.qi τ x
 | .vE τ,x=>.vE τ x
 | .sub b e,x=>.ms b (jG st b) e x.1 x.2
 | .wj f caps,x=>.wj f (Qb caps x)
 | .st ks,x=>.agg (jo st ks x)
 | .mclo f ms,x=>.wj f (WW ms x)
 | .mp,x=>.BU x
 | .sT e,x=>.sT e x.1 x.2
 | .tight e,x=>.tight e x false
def FZ(st:St):Ck->D
 | .ptr b off=>.ptr b off
 | .cur b e=>.ms b (jG st b) e 0 (jG st b)
 | .wH=>.wH
 | .br=>.br
 | .vb=>.vb
 | .wj f l=>.wj f (l.map λp=>.ptr p.1 p.2)
 | .gj b=>.gj b
 | .uX=>.uX
def nO(st:St):(l:List It)->kc l->Fr
 | [],_=>[]
 | [.s t k],x=>[(t,some (QT st k x))]
 | [.v _],_=>[]
 | [.a _],_=>[]
 | .s t k::j::r,x=>(t,some (QT st k x.1))::nO st (j::r) x.2
 | .v _::j::r,x=>nO st (j::r) x.2
 | .a _::j::r,x=>nO st (j::r) x.2
def z9f(st:St)(l:List (Nat×Ck)):Fr:=l.map λp=>(p.1,some (FZ st p.2))
inductive Bd where
 | v (k:Dk) (x:k.den) | a (e:Ty) (x:List (AM.den e))
def Zn:(l:List It)->kc l->List Bd
 | [],_=>[]
 | [.s _ _],_=>[]
 | [.v k],x=>[.v k x]
 | [.a e],x=>[.a e x]
 | .s _ _::j::r,x=>Zn (j::r) x.2
 | .v k::j::r,x=>.v k x.1::Zn (j::r) x.2
 | .a e::j::r,x=>.a e x.1::Zn (j::r) x.2
def fY:List Bk->List Bd->St
 | [],_=>[]
 | .arr _::r,.a e x::d=>.arr x.length e x::fY r d
 | .var _::r,_::d=>.dead::fY r d
 | .cvar _::r,d=>.dead::fY r d
 | .dead::r,d=>.dead::fY r d
 | _::_,_=>[]
def jN(st:St):List Bk->List Bd->St
 | [],_=>[]
 | .arr _::r,.a e x::d=>.arr x.length e x::jN st r d
 | .var _::r,.v k x::d=>.var (QT st k x)::jN st r d
 | .cvar c::r,d=>.var (FZ st c)::jN st r d
 | .dead::r,d=>.dead::jN st r d
 | _::_,_=>[]
def zpi(bs:List Bk)(d:List Bd):St:=jN (fY bs d) bs d
structure uz where
 gy:List It
 cs:List (Nat×Ck)
 bs:List Bk
def uz.den(s:uz):Type:=kc s.gy
def uz.st(s:uz)(x:s.den):St:=zpi s.bs (Zn s.gy x)
def uz.fr(s:uz)(x:s.den):Fr:=nO (s.st x) s.gy x++z9f (s.st x) s.cs
def Rt:(p:Jn)->D->Option (den p.ty)
 | .rp τ,d=>match d with | .vE _ x=>jY x | _=>none
 | .im τ,d=>p9 τ d
def N4:(l:List Jn)->List D->Option (iF l)
 | [],[]=>some ()
 | [p],[d]=>Rt p d
 | p::q::r,d::ds=>(Rt p d).bind λx=>(N4 (q::r) ds).bind λy=>some (x,y)
 | _,_=>none
def lY(st:St)(b:Nat):Nat:=match st[b]? with | some (.arr _ _ xs)=>xs.length | _=>0
def z3N(st:St)(b T:Nat)(ds:List D):Option (List D):=match st[b]? with
 | some (.var _)=>match ds with
  | .nw T'::ds=>bif W T T' then some ds else none
  | .eN b' T'::ds=>bif W b b'&&W T T' then some ds else none
  | _=>none
 | _=>none
def zeF(ds:List D):Option (List D):=match ds with
 | d::ds=>bif d.one then some ds else none
 | _=>none
def ze5(ds:List D):Option (List D):=match ds with
 | .wH::ds=>some ds
 | _=>none
def oT(st:St):(l:List Sk)->List D->T (mu l)
 | [],ds=>match ds with | []=>.ret () | _=>.fail
 | .im τ::r,ds=>match dc τ ds with | some p=>(oT st r p.2).bind λy=>.ret (p.1,y) | none=>.fail
 | .row b e::r,ds=>match ds with
  | .ms b' vk e' off len::ds=>bif W b b'&&decide (e=e')then .zl (zu vk off len (lY st b)) (oT st r ds)else .fail
  | _=>.fail
 | .op b T::r,ds=>match z3N st b T ds with | some q=>oT st r q | none=>.fail
 | .un::r,ds=>match zeF ds with | some q=>oT st r q | none=>.fail
 | .nl::r,ds=>match ze5 ds with | some q=>oT st r q | none=>.fail
def KC:(l:List Mc)->List D->T (ZP l)
 | [],ds=>match ds with | []=>.ret () | _=>.fail
 | .im τ::r,ds=>match ds with
  | d::ds=>match p9 τ d with | some y=>(KC r ds).bind λz=>.ret (y,z) | none=>.fail
  | _=>.fail
 | .rp τ::r,ds=>match ds with
  | .vE _ x::ds=>match(jY x:Option (AM.den τ))with | some y=>(KC r ds).bind λz=>.ret (y,z) | none=>.fail
  | _=>.fail
 | .pt b::r,ds=>match ds with
  | .ptr b' off::ds=>bif W b b'&&W off 0 then KC r ds else .fail
  | _=>.fail
def QX(st:St):(k:Dk)->D->T k.den
 | .qi τ,d=>.GB (p9 τ d)
 | .vE τ,d=>match d with | .vE _ x=>.GB (jY x) | _=>.fail
 | .sub b e,d=>match d with
  | .ms b' vk e' off len=>bif W b b'&&decide (e=e')then .zl (vk=jG st b) (.ret (off,len))else .fail
  | _=>.fail
 | .wj f caps,d=>match d with
  | .wj f' l=>bif W f f' then .GB (N4 caps l)else .fail
  | _=>.fail
 | .st ks,d=>bif d.cY then oT st ks (wb d)else .fail
 | .mclo f ms,d=>match d with
  | .wj f' l=>bif W f f' then KC ms l else .fail
  | _=>.fail
 | .mp,d=>match d with | .BU l=>.ret l | _=>.fail
 | .sT e,d=>match d with
  | .wH=>.ret ([],false)
  | .sT e' l b=>match(jY (a:=.sl e') (b:=.sl e) l:Option (List (AM.den e)))with | some l=>.ret (l,b) | none=>.fail
  | _=>.fail
 | .tight e,d=>match d with
  | .wH=>.ret []
  | .tight e' l _=>.GB (jY (a:=.sl e') (b:=.sl e) l)
  | _=>.fail
def VP:List (Nat×Nat)->List D->Bool
 | [],[]=>true
 | p::r,.ptr b off::ds=>W p.1 b&&W p.2 off&&VP r ds
 | _,_=>false
def Jd(st:St):Ck->D->T Unit
 | .ptr b off,d=>match d with | .ptr b' off'=>bif W b b'&&W off off' then .ret ()else .fail | _=>.fail
 | .cur b e,d=>match d with
  | .ms b' vk e' off len=>bif W b b'&&decide (e=e')then .zl (zu vk off len (lY st b)) (.ret ())else .fail
  | _=>.fail
 | .wH,d=>match d with | .wH=>.ret () | _=>.fail
 | .br,d=>match d with | .br=>.ret () | _=>.fail
 | .vb,d=>match d with | .vb=>.ret () | _=>.fail
 | .wj f l,d=>match d with | .wj f' l'=>bif W f f'&&VP l l' then .ret ()else .fail | _=>.fail
 | .gj b,d=>match d with | .gj b'=>bif W b b' then .ret ()else .fail | _=>.fail
 | .uX,d=>match d with | .uX=>.ret () | _=>.fail
def za6(fr:Fr)(st:St):List (Nat×Ck)->T Unit
 | []=>.ret ()
 | p::r=>match fr.get p.1 with
  | some d=>(Jd st p.2 d).bind λ_=>za6 fr st r
  | none=>.fail
def z3j(e:Ty)(b:de):T (List (den e)):=match b with
 | .arr vk _ xs=>match(jY (a:=.sl _) (b:=.sl e) xs:Option (List (den e)))with
  | some ys=>.zl (vk=ys.length) (.ret ys)
  | none=>.fail
 | _=>.fail
def Dk.plain:Dk->Bool
 | .qi _=>true
 | .vE _=>true
 | .st _=>true
 | .mp=>true
 | _=>false
def z3l(st:St)(k:Dk)(b:de):T k.den:=match b with
 | .var d=>bif k.plain then QX st k d else .fail
 | _=>.fail
def M8:de->Bool | .var _=>true | _=>false
def B4(st:St):List Bk->List de->T (List de)
 | [],_=>.ret []
 | .arr _::r,b::bl=>(B4 st r bl).bind λl=>.ret (b::l)
 | .var _::r,b::bl=>(B4 st r bl).bind λl=>.ret (b::l)
 | .cvar c::r,.var d::bl=>(Jd st c d).bind λ_=>B4 st r bl
 | .dead::r,b::bl=>bif M8 b then .fail else B4 st r bl
 | _,_=>.fail
def IB(fr:Fr)(st:St)(bl:List de):(i:It)->T (i.den×List de)
 | .s t k=>match fr.get t with | some d=>(QX st k d).bind λx=>.ret (x,bl) | none=>.fail
 | .v k=>match bl with | b::r=>(z3l st k b).bind λx=>.ret (x,r) | []=>.fail
 | .a e=>match bl with | b::r=>(z3j e b).bind λx=>.ret (x,r) | []=>.fail
def EY{α:Type}(x:α×List de):T α:=match x.2 with | []=>.ret x.1 | _=>.fail
def Ci(fr:Fr)(st:St):(l:List It)->List de->T (kc l)
 | [],bl=>EY ((),bl)
 | [i],bl=>(IB fr st bl i).bind EY
 | i::j::r,bl=>(IB fr st bl i).bind λx=>(Ci fr st (j::r) x.2).bind λy=>.ret (x.1,y)
def rowAt(bs:List Bk)(b:Nat):Bool:=match bs[b]? with | some (.arr _)=>true | _=>false
def Ji(bs:List Bk)(b:Nat):Bool:=match bs[b]? with | some (.var _)=>true | some (.cvar _)=>true | _=>false
def z9B(bs:List Bk):Sk->Bool
 | .row b _=>rowAt bs b
 | .op b _=>Ji bs b
 | _=>true
def zm4(bs:List Bk):Mc->Bool
 | .pt b=>Ji bs b
 | _=>true
def I7(bs:List Bk):Dk->Bool
 | .mclo _ ms=>ms.all (zm4 bs)
 | .sub b _=>rowAt bs b
 | .st ks=>ks.all (z9B bs)
 | _=>true
def Tj(bs:List Bk):Ck->Bool
 | .ptr b _=>Ji bs b
 | .cur b _=>rowAt bs b
 | .wj _ l=>l.all λp=>Ji bs p.1
 | .gj b=>Ji bs b
 | _=>true
def zqF(bs:List Bk):It->Bool
 | .s _ k=>I7 bs k
 | .v k=>I7 bs k
 | .a _=>true
def zqE(bs:List Bk):Bk->Bool
 | .cvar c=>Tj bs c
 | _=>true
def kinds:List It->List Bool
 | []=>[]
 | .s _ _::r=>kinds r
 | .v _::r=>false::kinds r
 | .a _::r=>true::kinds r
def fG:List Bk->List Bool->Bool
 | [],[]=>true
 | .arr _::bs,b::r=>b&&fG bs r
 | .var _::bs,b::r => !b&&fG bs r
 | .cvar _::bs,l=>fG bs l
 | .dead::bs,l=>fG bs l
 | _,_=>false
def uz.ok(s:uz):Bool:=fG s.bs (kinds s.gy)&&s.gy.all (zqF s.bs)&&s.cs.all (λp=>Tj s.bs p.2)&&s.bs.all (zqE s.bs)
def uz.un(s:uz)(fr:Fr)(st:St):T s.den :=
 bif s.ok&&(st.take s.bs.length).all (CJ s.bs.length)then(za6 fr st s.cs).bind λ_=>(B4 st s.bs st).bind λbl=>Ci fr st s.gy bl
 else .fail
structure Way where
 ex:Ex
 sh:uz
def iG:List Way->Type
 | []=>Empty
 | [w]=>w.sh.den
 | w::v::r=>w.sh.den⊕iG (v::r)
def NK{α:Type}:(l:List Way)->iG l->(Ex->Fr->St->T α)->T α
 | [],x,_=>nomatch x
 | [w],x,k=>k w.ex (w.sh.fr x) (w.sh.st x)
 | w::v::r,x,k=>Sum.elim (λa=>k w.ex (w.sh.fr a) (w.sh.st a)) (λb=>NK (v::r) b k) x
def XP:Ex->Ex->Bool
 | .normal,.normal=>true
 | .ret,.ret=>true
 | .exit a,.exit b=>W a b
 | .bE (.iface t _),.bE (.iface t' _)=>W t t'
 | _,_=>false
def HB:Ex->Fr->Fr
 | .bE (.iface _ d),_=>[(0,some d)]
 | _,fr=>fr
def F3:Ex->Fr->Option (Ex×Fr)
 | .bE (.iface t _),fr=>match fr.get 0 with | some d=>some (.bE (.iface t d),[]) | none=>none
 | .bE _,_=>none
 | e,fr=>some (e,fr)
def Dd:(l:List Way)->Ex->Fr->St->T (iG l)
 | [],_,_,_=>.fail
 | [w],ex,fr,st=>bif XP w.ex ex then w.sh.un fr st else .fail
 | w::v::r,ex,fr,st=>bif XP w.ex ex then(w.sh.un fr st).bind λx=>.ret (.inl x)else(Dd (v::r) ex fr st).bind λy=>.ret (.inr y)
end Go.AM
namespace Go.AM
set_option linter.unusedSectionVars false
variable [gB] [B8]
section
variable {c:Ctx} {n:Nat}
theorem get_mem:∀ {l:Fr} {s:Nat} {d:D},l.get s=some d->(s,some d)∈l
 | [],s,d,h=>by cases h
 | (t,d')::r,s,d,h=>by
  simp only[Fr.get]at h
  cases ht:W t s with
  | true =>
   rw[ht,cond_true]at h
   rw[zA ht,h]
   simp
  | false=>rw[ht,cond_false]at h; exact zI _ (get_mem h)
theorem get_append{l m:Fr}{s:Nat}{d:D}(h:(l++m).get s=some d):(s,some d)∈l\/m.get s=some d:=by
 induction l with
 | nil=>grind
 | cons p r ih =>
  obtain⟨t,d'⟩:=p
  simp only[qJ,Fr.get]at h
  cases ht:W t s with
  | true=>rw[ht,cond_true]at h; rw[zA ht,h]; exact .inl zQ
  | false=>grind
structure Wk(O E:KS):Prop where
 w:E.w=O.w
 ok:E.ok=O.ok
 ph:E.ph=O.ph
 len:E.st.length=O.st.length
 var:∀ (b:Nat) (d:D),O.st[b]? = some (de.var d)->∃ d',E.st[b]? = some (de.var d')
 arr:∀ (b v:Nat) (e:Ty) (xs:List (den e)),O.st[b]? = some (de.arr v e xs)->E.st[b]? = some (de.arr v e xs)\/E.st[b]? = some de.dead
 arr':∀ (b v:Nat) (e:Ty) (xs:List (den e)),E.st[b]? = some (de.arr v e xs)->O.st[b]? = some (de.arr v e xs)
 dead:∀ (b:Nat),O.st[b]? = some de.dead->E.st[b]? = some de.dead
theorem Wk.ext{O E:KS}(h:Wk O E):Ext O E:=by
 refine⟨by rw[h.w],by rw[h.w],by rw[h.w],by rw[h.w]; exact zJ _,λk hk=>⟨by rw[h.ok]; exact hk,by rw[h.w]⟩,λk hk=>.inl (by rw[<- h.ok]; exact hk),
  λb blk m J=>.inl (by rw[<- h.ph]; exact J),λb d V=>⟨h.var b d V,by rw[h.ph]⟩,λb v0 e xs J => ?_,h.dead,by rw[h.len]; exact zJ _,λk _ _=>by rw[h.w]⟩
 rcases h.arr b v0 e xs J with g | g
 ·exact .inr ⟨v0,xs,g,zJ _,λ_=>⟨by rw[h.ph],rfl⟩⟩
 ·grind
theorem Wk.rd{O E:KS}(h:Wk O E){d:D}{v:Value}(V:RD O d v):RD E d v:=V.mono h.ext
theorem Wk.inv{O E:KS}(h:Wk O E)(hI:Inv O)(hv:∀ (b:Nat) (d:D),E.st[b]? = some (de.var d)->pX E b (.var d)):Inv E:=by
 refine⟨by rw[h.ph,h.len]; exact hI.len,λk hk=>by rw[h.w]; exact hI.cq k (by rw[<- h.ok]; exact hk),λb blk m J => ?_,λb b' blk m m' J KN=>hI.inj b b' blk m m' (by rw[<- h.ph]; exact J) (by rw[<- h.ph]; exact KN),λb x U => ?_,hI.gl.mono h.ext.same⟩
 ·obtain⟨g1,g2⟩:=hI.apart b blk m (by rw[<- h.ph]; exact J)
  exact⟨by rw[h.w]; exact g1,λhk=>g2 (by rw[<- h.ok]; exact hk)⟩
 ·cases x with
  | dead=>trivial
  | var d=>grind
  | arr v e xs=>exact(hI.blk b _ (h.arr' b v e xs U)).mono h.ext (by rw[h.ph]) λblk m _=>by rw[h.w]
theorem Ha{p:Jn}{d:D}{x:den p.ty}(h:Rt p d=some x){O:KS}{v:Value}(V:RD O d v):RD O (BR p x) v:=by
 cases p with
 | rp τ =>
  cases d<;>simp only[Rt]at h<;>try (cases h; done)
  obtain⟨e,U⟩:=wi h
  cases e
  cases U
  exact V
 | im τ=>exact mV V h
theorem KB{O:KS}:∀ (l:List Jn) (ds:List D) (x:iF l) (vs:List Value),N4 l ds=some x->wQ O ds vs->wQ O (Qb l x) vs
 | [],[],x,vs,_,V=>by rw[V.wh]; exact .nil
 | [],_::_,_,_,h,_=>nomatch h
 | [p],[],_,_,h,_=>nomatch h
 | [p],[d],x,vs,h,V=>by
  obtain⟨v,us,rfl,h1,X⟩:=V.cons_inv
  rw[X.wh]
  exact .cons (Ha h h1) .nil
 | [p],_::_::_,_,_,h,_=>nomatch h
 | p::q::r,[],_,_,h,_=>nomatch h
 | p::q::r,d::ds,x,vs,h,V=>by
  obtain⟨y,hy,h⟩:=qL.1 h
  obtain⟨z,hz,h⟩:=qL.1 h
  cases h
  obtain⟨v,us,rfl,h1,X⟩:=V.cons_inv
  exact .cons (Ha hy h1) (KB (q::r) ds z us hz X)
theorem z0i{O:KS}{d:D}{v:Value}(V:RD O d v)(ha:d.cY=true):∃ c,v=.agg c:=by
 cases V with
 | qi τ x cs h=>exact⟨cs.toArray,by unfold pk; rw[show τ.isAgg=true from ha]; rfl⟩
 | agg l vs B ho h=>simp
 | _=>cases ha
theorem z9C{O:KS}{b T:Nat}{ds q:List D}{vs:List Value}(V:wQ O ds vs)(h:z3N O.st b T ds=some q):∃ v us,vs=v::us/\RD O (.eN b T) v/\wQ O q us:=by
 unfold z3N at h
 split at h
 ·rename_i d0 TS
  split at h
  ·rename_i T' ds
   cases J:W T T' with
   | false=>grind
   | true =>
    rw[J]at h
    cases h
    obtain⟨v,us,rfl,g1,g2⟩:=V.cons_inv
    exact⟨v,us,rfl,by cases g1; exact .nS b T d0 TS,g2⟩
  ·rename_i b' T' ds
   cases J:W b b'&&W T T' with
   | false=>grind
   | true =>
    simp only[I]at J
    have e1:=zA J.1
    have e2:=zA J.2
    obtain⟨v,us,rfl,g1,g2⟩:=V.cons_inv
    grind
  ·cases h
 ·cases h
theorem Mw{st:St}{b T:Nat}{ds q:List D}(h:z3N st b T ds=some q):lQ ds=some T:=by
 unfold z3N at h
 split at h
 ·split at h
  ·rename_i T' ds
   cases J:W T T' with
   | false=>grind
   | true=>rw[zA J]; rfl
  ·rename_i b' T' ds
   cases J:W b b'&&W T T' with
   | false=>grind
   | true =>
    simp only[I]at J
    rw[zA J.2]; rfl
  ·cases h
 ·cases h
theorem z9i{O:KS}{ds q:List D}{vs:List Value}(V:wQ O ds vs)(h:ze5 ds=some q):∃ v us,vs=v::us/\RD O .wH v/\wQ O q us:=by
 unfold ze5 at h
 split at h
 ·cases h; exact V.cons_inv
 ·cases h
theorem za7{O:KS}{ds q:List D}{vs:List Value}(V:wQ O ds vs)(h:zeF ds=some q):∃ v us,vs=v::us/\RD O .V6 v/\wQ O q us:=by
 unfold zeF at h
 split at h
 ·rename_i d ds
  cases J:d.one with
  | false=>grind
  | true =>
   rw[J]at h
   cases h
   obtain⟨v,us,rfl,g1,g2⟩:=V.cons_inv
   exact⟨v,us,rfl,.V6 v (g1.Yh J),g2⟩
 ·cases h
theorem mQ{O:KS}{qm:St}{bs:List Bk}(pz:∀ b,rowAt bs b=true->jG qm b=lY O.st b):∀ (ks:List Sk) (ds:List D) (x:mu ks) (vs:List Value),ks.all (z9B bs)=true->(oT O.st ks ds).leads x->wQ O ds vs ->
  wQ O (jo qm ks x) vs/\∀ d∈jo qm ks x,d.one=true
 | [],ds,x,vs,_,h,V=>by
  cases ds with
  | nil=>exact⟨V,λd hm=>by cases hm⟩
  | cons d r=>exact h.elim
 | .im τ::r,ds,x,vs,ho,h,V=>by
  simp only[oT]at h
  split at h
  ·rename_i p hp
   obtain⟨y,h1,X⟩:=T.zg.1 h
   cases X
   obtain⟨c1,c2,rfl,g1,g2⟩:=WH τ V hp
   simp only[zF,I]at ho
   obtain⟨k1,k2⟩:=mQ pz r p.2 y c2 ho.2 h1 g2
   refine⟨(Xo g1).append k1,λd hm => ?_⟩
   rcases zN.1 (show d∈flat τ p.1++jo qm r y from hm)with hm | hm
   ·exact rR τ _ d hm
   ·grind
  ·exact h.elim
 | .row b e::r,ds,x,vs,ho,h,V=>by
  cases ds with
  | nil=>exact h.elim
  | cons d ds =>
   cases d<;>simp only[oT]at h<;>try (exact h.elim)
   rename_i b' vk e' off len
   cases J:W b b'&&decide (e=e')with
   | false=>rw[J]at h; exact h.elim
   | true =>
    rw[J,cond_true]at h
    simp only[I,decide_eq_true_eq]at J
    obtain⟨⟨h1,X,h3⟩,h⟩:=h
    have:=zA J.1
    obtain⟨-,rfl⟩:=J
    subst this
    obtain⟨v,us,rfl,g1,g2⟩:=V.cons_inv
    simp only[zF,I]at ho
    obtain⟨k1,k2⟩:=mQ pz r ds x us ho.2 h g2
    have e1:jo qm (.row b e::r) x=.ms b vk e off len::jo qm r x:=by
     show D.ms b (jG qm b) e 0 (jG qm b)::_=_
     rw[pz b ho.1,h1,X,h3]
    rw[e1]
    refine⟨.cons g1 k1,λd hm => ?_⟩
    rcases zH.1 hm with rfl | hm
    ·rfl
    ·grind
 | .op b T::r,ds,x,vs,ho,h,V=>by
  simp only[zF,I]at ho
  simp only[oT]at h
  split at h
  ·rename_i q hq
   obtain⟨v,us,rfl,g0,g2⟩:=z9C V hq
   obtain⟨k1,k2⟩:=mQ pz r q x us ho.2 h g2
   refine⟨show wQ O (D.eN b T::jo qm r x) (v::us)from .cons g0 k1,λd hm => ?_⟩
   rcases zH.1 (show d∈D.eN b T::jo qm r x from hm)with rfl | hm
   ·rfl
   ·grind
  ·exact h.elim
 | .un::r,ds,x,vs,ho,h,V=>by
  simp only[zF,I]at ho
  simp only[oT]at h
  split at h
  ·rename_i q hq
   obtain⟨v,us,rfl,g0,g2⟩:=za7 V hq
   obtain⟨k1,k2⟩:=mQ pz r q x us ho.2 h g2
   refine⟨show wQ O (D.V6::jo qm r x) (v::us)from .cons g0 k1,λd hm => ?_⟩
   rcases zH.1 (show d∈D.V6::jo qm r x from hm)with rfl | hm
   ·rfl
   ·grind
  ·exact h.elim
 | .nl::r,ds,x,vs,ho,h,V=>by
  simp only[zF,I]at ho
  simp only[oT]at h
  split at h
  ·rename_i q hq
   obtain⟨v,us,rfl,g0,g2⟩:=z9i V hq
   obtain⟨k1,k2⟩:=mQ pz r q x us ho.2 h g2
   refine⟨show wQ O (D.wH::jo qm r x) (v::us)from .cons g0 k1,λd hm => ?_⟩
   rcases zH.1 (show d∈D.wH::jo qm r x from hm)with rfl | hm
   ·rfl
   ·grind
  ·exact h.elim
theorem Zo{st qm:St}{bs:List Bk}(h:∀ b,rowAt bs b=true->jG st b=jG qm b):∀ (ks:List Sk) (x:mu ks),ks.all (z9B bs)=true->jo st ks x=jo qm ks x
 | [],_,_=>rfl
 | .im τ::r,x,ho=>by
  simp only[zF,I]at ho
  show flat τ x.1++jo st r x.2=flat τ x.1++jo qm r x.2
  rw[Zo h r x.2 ho.2]
 | .row b e::r,x,ho=>by
  simp only[zF,I]at ho
  show D.ms b (jG st b) e 0 (jG st b)::jo st r x=D.ms b (jG qm b) e 0 (jG qm b)::jo qm r x
  rw[Zo h r x ho.2,h b ho.1]
 | .op b T::r,x,ho=>by
  simp only[zF,I]at ho
  show D.eN b T::jo st r x=D.eN b T::jo qm r x
  rw[Zo h r x ho.2]
 | .un::r,x,ho=>by
  simp only[zF,I]at ho
  show D.V6::jo st r x=D.V6::jo qm r x
  rw[Zo h r x ho.2]
 | .nl::r,x,ho=>by
  simp only[zF,I]at ho
  show D.wH::jo st r x=D.wH::jo qm r x
  rw[Zo h r x ho.2]
theorem YR:∀ (τ:Ty) (x:den τ),∀ y∈flat τ x,∃ σ z,y=.qi σ z:=by
 intro τ x y hy
 induction τ with
 | cons a b ia ib =>
  simp only[flat]at hy
  grind
 | nil=>simp[flat]at hy
 | expr=>simp[flat]at hy; rcases hy with rfl | rfl | rfl | rfl | rfl | rfl<;>exact⟨_,_,rfl⟩
 | _=>simp[flat]at hy; subst hy; exact⟨_,_,rfl⟩
theorem E0:∀ (τ:Ty) {ds:List D} {p:den τ×List D},dc τ ds=some p->τ.size=0->p.2=ds:=by
 intro τ
 induction τ with
 | nil=>intro ds p h _; simp only[dc,Option.some.injEq]at h; subst h; rfl
 | cons a b ia ib =>
  intro ds p h hz
  simp only[Ty.size]at hz
  simp only[dc]at h
  grind
 | _=>nofun
theorem Kk{st qm:St}{tt:Nat}:∀ (ks:List Sk) (ds:List D) (x:mu ks),(oT st ks ds).leads x->lQ (jo qm ks x)=some tt->lQ ds=some tt
 | [],ds,x,h,ht=>by cases ht
 | .im τ::r,ds,x,h,ht=>by
  simp only[oT]at h
  split at h
  ·rename_i p hp
   obtain⟨y,h1,X⟩:=T.zg.1 h
   cases X
   have ht':lQ (flat τ p.1++jo qm r y)=some tt:=ht
   cases hf:flat τ p.1 with
   | nil =>
    rw[hf]at ht'
    have hz:τ.size=0:=by rw[<- Ur τ p.1,hf]; rfl
    have:=E0 τ hp hz
    rw[<- this]
    exact Kk r p.2 y h1 ht'
   | cons z zs =>
    rw[hf]at ht'
    obtain⟨σ,w,e⟩:=YR τ p.1 z (wa)
    rw[e]at ht'
    cases ht'
  ·exact h.elim
 | .row b e::r,ds,x,h,ht=>by cases ht
 | .op b T'::r,ds,x,h,ht=>by
  simp only[oT]at h
  split at h
  ·rename_i q hq
   cases ht
   exact Mw hq
  ·exact h.elim
 | .un::r,ds,x,h,ht=>by cases ht
 | .nl::r,ds,x,h,ht=>by cases ht
theorem KA{d:D}{T:Nat}(ha:d.cY=true)(h:lQ (wb d)=some T):d.typed=some T:=by
 cases d with
 | qi τ x =>
  simp only[wb]at h
  cases hf:flat τ x with
  | nil=>rw[hf]at h; cases h
  | cons z zs =>
   obtain⟨σ,w,e⟩:=YR τ x z (wa)
   rw[hf,e]at h
   cases h
 | agg l=>exact h
 | _=>cases ha
theorem CY{m:Nat}(τ:Ty)(x:den τ):∀ d∈flat τ x,yv m d=true:=λd V=>by
 obtain⟨σ,z,rfl⟩:=YR τ x d V
 rfl
theorem cF{m:Nat}{st:St}{bs:List Bk}(J:∀ b,rowAt bs b=true->b<m)(SB:∀ b,Ji bs b=true->b<m):∀ (ks:List Sk) (x:mu ks),ks.all (z9B bs)=true->∀ d∈jo st ks x,yv m d=true
 | [],_,_,d,V=>by cases V
 | .im τ::r,x,ho,d,V=>by
  simp only[zF,I]at ho
  rcases zN.1 (show d∈flat τ x.1++jo st r x.2 from V)with V | V
  ·exact CY τ _ d V
  ·exact cF J SB r x.2 ho.2 d V
 | .row b e::r,x,ho,d,V=>by
  simp only[zF,I]at ho
  rcases zH.1 (show d∈D.ms b (jG st b) e 0 (jG st b)::jo st r x from V)with rfl | V
  ·have:=J b ho.1
   simp only[yv,zO,zU]; exact this
  ·exact cF J SB r x ho.2 d V
 | .op b T::r,x,ho,d,V=>by
  simp only[zF,I]at ho
  rcases zH.1 (show d∈D.eN b T::jo st r x from V)with rfl | V
  ·have:=SB b ho.1
   simp only[yv,zO,zU]; exact this
  ·exact cF J SB r x ho.2 d V
 | .un::r,x,ho,d,V=>by
  simp only[zF,I]at ho
  rcases zH.1 (show d∈D.V6::jo st r x from V)with rfl | V
  ·rfl
  ·exact cF J SB r x ho.2 d V
 | .nl::r,x,ho,d,V=>by
  simp only[zF,I]at ho
  rcases zH.1 (show d∈D.wH::jo st r x from V)with rfl | V
  ·rfl
  ·exact cF J SB r x ho.2 d V
theorem WG{O:KS}:∀ (ms:List Mc) (ds:List D) (x:ZP ms) (vs:List Value),(KC ms ds).leads x->wQ O ds vs->wQ O (WW ms x) vs
 | [],ds,x,vs,h,V=>by
  cases ds with
  | nil=>exact V
  | cons d r=>exact h.elim
 | .im τ::r,ds,x,vs,h,V=>by
  cases ds with
  | nil=>exact h.elim
  | cons d ds =>
   simp only[KC]at h
   split at h
   ·rename_i y hy
    obtain⟨z,h1,X⟩:=T.zg.1 h
    cases X
    obtain⟨v,us,rfl,g1,g2⟩:=V.cons_inv
    exact .cons (mV g1 hy) (WG r ds z us h1 g2)
   ·exact h.elim
 | .rp τ::r,ds,x,vs,h,V=>by
  cases ds with
  | nil=>exact h.elim
  | cons d ds =>
   cases d<;>simp only[KC]at h<;>try (exact h.elim)
   split at h
   ·rename_i y hy
    obtain⟨e,U⟩:=wi hy
    cases e
    cases U
    obtain⟨z,h1,X⟩:=T.zg.1 h
    cases X
    obtain⟨v,us,rfl,g1,g2⟩:=V.cons_inv
    exact .cons g1 (WG r ds z us h1 g2)
   ·exact h.elim
 | .pt b::r,ds,x,vs,h,V=>by
  cases ds with
  | nil=>exact h.elim
  | cons d ds =>
   cases d<;>simp only[KC]at h<;>try (exact h.elim)
   rename_i b' off
   cases J:W b b'&&W off 0 with
   | false=>rw[J]at h; exact h.elim
   | true =>
    rw[J]at h
    simp only[I]at J
    have e1:=zA J.1
    have e2:=zA J.2
    subst e1 e2
    obtain⟨v,us,rfl,g1,g2⟩:=V.cons_inv
    exact .cons g1 (WG r ds x us h g2)
theorem pA{m:Nat}{bs:List Bk}(J:∀ b,Ji bs b=true->b<m):∀ (ms:List Mc) (x:ZP ms),ms.all (zm4 bs)=true->∀ d∈WW ms x,yv m d=true
 | [],_,_,d,V=>by cases V
 | .im τ::r,x,ho,d,V=>by
  simp only[zF,I]at ho
  rcases zH.1 (show d∈D.qi τ x.1::WW r x.2 from V)with rfl | V
  ·rfl
  ·exact pA J r x.2 ho.2 d V
 | .rp τ::r,x,ho,d,V=>by
  simp only[zF,I]at ho
  rcases zH.1 (show d∈D.vE τ x.1::WW r x.2 from V)with rfl | V
  ·rfl
  ·exact pA J r x.2 ho.2 d V
 | .pt b::r,x,ho,d,V=>by
  simp only[zF,I]at ho
  rcases zH.1 (show d∈D.ptr b 0::WW r x from V)with rfl | V
  ·have:=J b ho.1
   simp only[yv,zO,zU]; exact this
  ·exact pA J r x ho.2 d V
theorem DY{O E:KS}(hw:Wk O E){k:Dk}{d:D}{x:k.den}{v:Value}{bs:List Bk}(j9:I7 bs k=true)(pz:∀ b,rowAt bs b=true->jG E.st b=jG O.st b)
  {qm:St} (ud:∀ b,rowAt bs b=true->jG qm b=jG E.st b) (hlen:∀ b,rowAt bs b=true->jG O.st b=lY O.st b) (h:(QX O.st k d).leads x) (V:RD O d v):RD E (QT qm k x) v:=by
 cases k with
 | mp=>cases d<;>first | exact h.elim | exact absurd V.z3p nofun
 | sT e =>
  cases d<;>simp only[QX]at h<;>try (exact h.elim)
  ·split at h
   ·rename_i e' l b l' B
    cases h
    obtain⟨he,U⟩:=wi B
    cases he
    cases U
    exact hw.rd V
   ·exact h.elim
  ·cases h
   cases V
   exact .sT e [] false _ (.ma e none) nofun λ_=>rfl
 | tight e =>
  cases d<;>simp only[QX]at h<;>try (exact h.elim)
  ·rename_i e' l ne
   obtain⟨he,U⟩:=wi (T.yO.1 h)
   cases he
   cases U
   cases hw.rd V with
   | vD e a=>exact .vD e a
   | tight e l ne blk off f kB j9 h1 hc=>exact .tight e l false blk off f nofun j9 h1 hc
  ·cases h
   cases V
   exact .vD e none
 | qi τ=>exact hw.rd (mV V (T.yO.1 h))
 | vE τ =>
  cases d<;>simp only[QX]at h<;>try (exact h.elim)
  obtain⟨e,U⟩:=wi (T.yO.1 h)
  cases e
  cases U
  exact hw.rd V
 | sub b e =>
  cases d<;>simp only[QX]at h<;>try (exact h.elim)
  rename_i b' vk e' off len
  cases J:W b b'&&decide (e=e')with
  | false=>rw[J]at h; exact h.elim
  | true =>
   rw[J,cond_true]at h
   simp only[I,decide_eq_true_eq]at J
   obtain⟨hv,h⟩:=h
   cases h
   have:=zA J.1
   obtain⟨-,rfl⟩:=J
   subst this
   simp only[QT]
   rw[ud b j9,pz b j9,<- hv]
   exact hw.rd V
 | wj f caps =>
  cases d<;>simp only[QX]at h<;>try (exact h.elim)
  rename_i f' l
  cases J:W f f' with
  | false=>rw[J]at h; exact h.elim
  | true =>
   rw[J,cond_true]at h
   have:=zA J
   subst this
   have U:=T.yO.1 h
   cases V with
   | wj _ _ vs B hh =>
    have:=KB caps l x vs U (⟨B,hh⟩:wQ O l vs)
    exact hw.rd (.wj f _ vs this.1 this.2)
 | st ks =>
  simp only[QX]at h
  cases ha:d.cY with
  | false=>rw[ha]at h; exact h.elim
  | true =>
   rw[ha]at h
   have ht:d.bT=false:=by cases d<;>first | rfl | (simp[D.cY]at ha)
   obtain⟨g1,g2⟩:=mQ (qm:=qm) (λb J=>(ud b J).trans ((pz b J).trans (hlen b J))) ks (wb d) x _ j9 h (cQ V ht)
   obtain⟨c,hc⟩:=z0i V ha
   subst hc
   have g1':wQ O (jo qm ks x) c.toList:=g1
   have:=RD.agg (O:=O) _ c.toList g1'.1 g2 g1'.2
   exact hw.rd (show RD O (.agg (jo qm ks x)) (.agg c) by simpa using this)
 | mclo f ms =>
  cases d<;>simp only[QX]at h<;>try (exact h.elim)
  rename_i f' l
  cases J:W f f' with
  | false=>rw[J]at h; exact h.elim
  | true =>
   rw[J]at h
   have:=zA J
   subst this
   cases V with
   | wj _ _ vs B hh =>
    have:=WG ms l x vs h (⟨B,hh⟩:wQ O l vs)
    exact hw.rd (show RD O (.wj f (WW ms x)) _ from .wj f _ vs this.1 this.2)
theorem C2:∀ {l:List (Nat×Nat)} {ds:List D},VP l ds=true->ds=l.map λp=>.ptr p.1 p.2
 | [],[],_=>rfl
 | [],_::_,h=>by simp[VP]at h
 | p::r,[],h=>by simp[VP]at h
 | p::r,d::ds,h=>by
  cases d<;>simp only[VP]at h<;>try (cases h; done)
  simp only[I]at h
  rw[C2 h.2,<- zA h.1.1,<- zA h.1.2]
  rfl
theorem za5{st qm:St}{ck:Ck}{d:D}{bs:List Bk}(j9:Tj bs ck=true)(pz:∀ b,rowAt bs b=true->jG qm b=lY st b)(h:(Jd st ck d).leads ()):FZ qm ck=d:=by
 cases ck with
 | ptr b off =>
  cases d<;>simp only[Jd]at h<;>try (exact h.elim)
  rename_i b' off'
  cases J:W b b'&&W off off' with
  | false=>rw[J]at h; exact h.elim
  | true =>
   simp only[I]at J
   rw[<- zA J.1,<- zA J.2]
   rfl
 | cur b e =>
  cases d<;>simp only[Jd]at h<;>try (exact h.elim)
  rename_i b' vk e' off len
  cases J:W b b'&&decide (e=e')with
  | false=>rw[J]at h; exact h.elim
  | true =>
   rw[J,cond_true]at h
   simp only[I,decide_eq_true_eq]at J
   obtain⟨⟨h1,X,h3⟩,_⟩:=h
   have:=zA J.1
   obtain⟨-,rfl⟩:=J
   subst this
   simp only[FZ]
   rw[pz b j9,h1,X,h3]
 | wH=>cases d<;>simp only[Jd]at h<;>first | rfl | exact h.elim
 | br=>cases d<;>simp only[Jd]at h<;>first | rfl | exact h.elim
 | vb=>cases d<;>simp only[Jd]at h<;>first | rfl | exact h.elim
 | uX=>cases d<;>simp only[Jd]at h<;>first | rfl | exact h.elim
 | gj b =>
  cases d<;>simp only[Jd]at h<;>try (exact h.elim)
  rename_i b'
  cases J:W b b' with
  | false=>rw[J]at h; exact h.elim
  | true=>rw[<- zA J]; rfl
 | wj f l =>
  cases d<;>simp only[Jd]at h<;>try (exact h.elim)
  rename_i f' l'
  cases J:W f f'&&VP l l' with
  | false=>rw[J]at h; exact h.elim
  | true =>
   simp only[I]at J
   rw[<- zA J.1,C2 J.2]
   rfl
theorem IA{fr:Fr}{st:St}:∀ {cs:List (Nat×Ck)},(za6 fr st cs).leads ()->∀ p∈cs,∃ d,fr.get p.1=some d/\(Jd st p.2 d).leads ()
 | [],_,p,hp=>by cases hp
 | q::r,h,p,hp=>by
  simp only[za6]at h
  split at h
  ·rename_i d V
   simp only[T.xg]at h
   obtain⟨⟨⟩,h1,X⟩:=h
   rcases zH.1 hp with rfl | hp
   ·grind
   ·exact IA X p hp
  ·exact h.elim
def RV(p:Dk->Bool)(st:St):List de->List Bd->Prop
 | [],[]=>True
 | b::bl,.a e xs::r=>b=.arr xs.length e xs/\RV p st bl r
 | b::bl,.v k x::r=>(∃ d,b=.var d/\(k.plain=true/\p k=true)/\(QX st k d).leads x)/\RV p st bl r
 | _,_=>False
theorem z3k{e:Ty}{b:de}{x:List (den e)}(h:(z3j e b).leads x):b=.arr x.length e x:=by
 unfold z3j at h
 split at h
 ·split at h
  ·rename_i ys hy
   obtain⟨h1,X⟩:=h
   cases X
   obtain⟨he,U⟩:=wi hy
   grind
  ·exact h.elim
 ·exact h.elim
theorem z3m{st:St}{k:Dk}{b:de}{x:k.den}(h:(z3l st k b).leads x):∃ d,b=.var d/\k.plain=true/\(QX st k d).leads x:=by
 cases b with
 | var d =>
  simp only[z3l]at h
  cases hp:k.plain with
  | false=>rw[hp]at h; exact h.elim
  | true=>grind
 | _=>exact h.elim
def HD(st:St):(i:It)->i.den->Fr
 | .s t k,x=>[(t,some (QT st k x))]
 | .v _,_=>[]
 | .a _,_=>[]
def z0o:(i:It)->i.den->List Bd
 | .s _ _,_=>[]
 | .v k,x=>[.v k x]
 | .a e,x=>[.a e x]
theorem Gv(st:St)(i:It)(x:i.den):nO st [i] x=HD st i x:=by cases i<;>rfl
theorem JN(st:St)(i j:It)(r:List It)(x:i.den×kc (j::r)):nO st (i::j::r) x=HD st i x.1++nO st (j::r) x.2:=by cases i<;>rfl
theorem z3f(i:It)(x:i.den):Zn [i] x=z0o i x:=by cases i<;>rfl
theorem Tg(i j:It)(r:List It)(x:i.den×kc (j::r)):Zn (i::j::r) x=z0o i x.1++Zn (j::r) x.2:=by cases i<;>rfl
def zfi(fr:Fr)(st qm:St)(l:List It)(p:Nat×Option D):Prop:=∃ (k:Dk) (y:k.den) (d:D),(It.s p.1 k)∈l/\fr.get p.1=some d/\(QX st k d).leads y/\p.2=some (QT qm k y)
theorem Ru{p:Dk->Bool}{fr:Fr}{st qm:St}{bl:List de}{i:It}{x:i.den×List de}(hp:∀ k,i=.v k->p k=true)(h:(IB fr st bl i).leads x) :
  (∀ bd,RV p st x.2 bd->RV p st bl (z0o i x.1++bd))/\∀ p∈HD qm i x.1,zfi fr st qm [i] p:=by
 cases i with
 | s t k =>
  simp only[IB]at h
  split at h
  ·rename_i d V
   rw[T.xg]at h
   obtain⟨y,h1,rfl⟩:=h
   refine⟨λbd J=>J,λp hp => ?_⟩
   simp only[HD,zL]at hp
   subst hp
   exact⟨k,y,d,qu,V,h1,rfl⟩
  ·exact h.elim
 | v k =>
  cases bl with
  | nil=>exact h.elim
  | cons b r =>
   simp only[IB]at h
   rw[T.xg]at h
   obtain⟨y,h1,rfl⟩:=h
   obtain⟨d,q1,q2,q3⟩:=z3m h1
   exact⟨λbd J=>⟨⟨d,q1,⟨q2,hp k rfl⟩,q3⟩,J⟩,λp hp=>by cases hp⟩
 | a e =>
  cases bl with
  | nil=>exact h.elim
  | cons b r =>
   simp only[IB]at h
   rw[T.xg]at h
   obtain⟨y,h1,rfl⟩:=h
   exact⟨λbd J=>⟨z3k h1,J⟩,λp hp=>by cases hp⟩
theorem EZ{α:Type}{x:α×List de}{y:α}(h:(EY x).leads y):x=(y,[]):=by
 obtain⟨a,bl⟩:=x
 cases bl with
 | nil=>cases h; rfl
 | cons=>exact h.elim
theorem Je{p:Dk->Bool}{fr:Fr}{st qm:St}:∀ (l:List It) (bl:List de) (x:kc l),(∀ k,It.v k∈l->p k=true)->(Ci fr st l bl).leads x ->
  RV p st bl (Zn l x)/\∀ p∈nO qm l x,zfi fr st qm l p
 | [],bl,x,_,h=>by
  have h':(EY ((),bl)).leads x:=h
  have:=EZ h'
  cases this
  exact⟨trivial,λp hp=>by cases hp⟩
 | [i],bl,x,hp,h=>by
  have h':((IB fr st bl i).bind EY).leads x:=h
  obtain⟨y,h1,X⟩:=T.zg.1 h'
  have:=EZ X
  subst this
  obtain⟨g1,g2⟩:=Ru (p:=p) (qm:=qm) (λk hk=>hp k (wa)) h1
  have e1:Zn [i] x=z0o i x:=z3f i x
  have e2:nO qm [i] x=HD qm i x:=Gv qm i x
  have:=g1 [] trivial
  grind
 | i::j::r,bl,x,hp,h=>by
  have h':((IB fr st bl i).bind λx=>(Ci fr st (j::r) x.2).bind λy=>T.ret (x.1,y)).leads x:=h
  obtain⟨y,h1,X⟩:=T.zg.1 h'
  obtain⟨z,h3,h4⟩:=T.zg.1 X
  cases h4
  obtain⟨g1,g2⟩:=Ru (p:=p) (qm:=qm) (λk hk=>hp k (wa)) h1
  obtain⟨k1,k2⟩:=Je (p:=p) (qm:=qm) (j::r) y.2 z (λk hk=>hp k (zI _ hk)) h3
  have e1:Zn (i::j::r) (y.1,z)=z0o i y.1++Zn (j::r) z:=Tg i j r (y.1,z)
  have e2:nO qm (i::j::r) (y.1,z)=HD qm i y.1++nO qm (j::r) z:=JN qm i j r (y.1,z)
  rw[e1,e2]
  refine⟨g1 _ k1,λp hp => ?_⟩
  rcases zN.1 hp with hp | hp
  ·obtain⟨k,w,d,q1,q2⟩:=g2 p hp
   exact⟨k,w,d,wa,q2⟩
  ·obtain⟨k,w,d,q1,q2⟩:=k2 p hp
   exact⟨k,w,d,zI _ q1,q2⟩
inductive B7(p:Dk->Bool)(st qm:St):Bk->de->de->Prop
 | arr (e e':Ty) (xs:List (den e)):B7 p st qm (.arr e') (.arr xs.length e xs) (.arr xs.length e xs)
 | var (k k':Dk) (d:D) (x:k.den) (hp:k.plain=true/\p k=true) (h:(QX st k d).leads x):B7 p st qm (.var k') (.var d) (.var (QT qm k x))
 | cvar (ck:Ck) (d:D) (h:(Jd st ck d).leads ()):B7 p st qm (.cvar ck) (.var d) (.var (FZ qm ck))
 | dead (b:de) (h:M8 b=false):B7 p st qm .dead b .dead
def mT:List Bd->List Bool
 | []=>[]
 | .v _ _::r=>false::mT r
 | .a _ _::r=>true::mT r
theorem Qa:∀ (l:List It) (x:kc l),mT (Zn l x)=kinds l
 | [],_=>rfl
 | [.s _ _],_=>rfl
 | [.v _],_=>rfl
 | [.a _],_=>rfl
 | .s _ _::j::r,x=>Qa (j::r) x.2
 | .v _::j::r,x=>congrArg (false :: ·) (Qa (j::r) x.2)
 | .a _::j::r,x=>congrArg (true :: ·) (Qa (j::r) x.2)
theorem Jc{p:Dk->Bool}{st st0:St}:∀ {bs:List Bk} {blocks bl:List de} {bd:List Bd},(B4 st bs blocks).leads bl->RV p st bl bd->fG bs (mT bd)=true ->
  (jN st0 bs bd).length=bs.length/\(∀ b,rowAt bs b=true->jG (fY bs bd) b=lY blocks b/\jG (jN st0 bs bd) b=lY blocks b/\jG blocks b=lY blocks b) /\
  ∀ (i:Nat) (k:Bk),bs[i]? = some k->∃ hl B',blocks[i]? = some hl/\(jN st0 bs bd)[i]? = some B'/\B7 p st st0 k hl B'
 | [],blocks,bl,bd,h,J,ho=>by
  refine⟨by simp[jN],λb J=>by simp[rowAt]at J,λi k hk=>by simp at hk⟩
 | k::r,[],bl,bd,h,J,ho=>by cases k<;>exact h.elim
 | .arr e::r,b::blocks,bl,bd,h,J,ho=>by
  simp only[B4,T.xg]at h
  obtain⟨l,h1,rfl⟩:=h
  cases bd with
  | nil=>exact J.elim
  | cons q bd =>
   cases q with
   | v k x=>simp[mT,fG]at ho
   | a e' xs =>
    obtain⟨rfl,Fk⟩:=J
    simp only[mT,fG,Bool.true_and]at ho
    obtain⟨g1,g2,g3⟩:=Jc (st0:=st0) h1 Fk ho
    refine⟨by simp[jN,g1],λb J => ?_,λi k hk => ?_⟩
    ·cases b with
     | zero=>simp[fY,jN,jG,zmn,lY]
     | succ b=>have:=g2 b (by simpa[rowAt]using J); simpa[fY,jN,jG,lY]using this
    ·cases i with
     | zero=>simp at hk; subst hk; exact⟨_,_,rfl,rfl,.arr e' e xs⟩
     | succ i=>simpa[jN]using g3 i k (by simpa using hk)
 | .var k0::r,b::blocks,bl,bd,h,J,ho=>by
  simp only[B4,T.xg]at h
  obtain⟨l,h1,rfl⟩:=h
  cases bd with
  | nil=>exact J.elim
  | cons q bd =>
   cases q with
   | a e' xs=>simp[mT,fG]at ho
   | v k x =>
    obtain⟨⟨d,rfl,hp,V⟩,Fk⟩:=J
    simp only[mT,fG,Bool.not_false,Bool.true_and]at ho
    obtain⟨g1,g2,g3⟩:=Jc (st0:=st0) h1 Fk ho
    refine⟨by simp[jN,g1],λb J => ?_,λi k hk => ?_⟩
    ·cases b with
     | zero=>simp[rowAt]at J
     | succ b=>have:=g2 b (by simpa[rowAt]using J); simpa[fY,jN,jG,lY]using this
    ·cases i with
     | zero=>simp at hk; subst hk; exact⟨_,_,rfl,rfl,.var k k0 d x hp V⟩
     | succ i=>simpa[jN]using g3 i k (by simpa using hk)
 | .cvar ck::r,b::blocks,bl,bd,h,J,ho=>by
  cases b with
  | var d =>
   simp only[B4,T.xg]at h
   obtain⟨⟨⟩,h0,h1⟩:=h
   have ho':fG r (mT bd)=true:=by cases bd<;>simpa[fG]using ho
   obtain⟨g1,g2,g3⟩:=Jc (st0:=st0) h1 J ho'
   have e1:jN st0 (.cvar ck::r) bd=.var (FZ st0 ck)::jN st0 r bd:=by cases bd<;>rfl
   have e0:fY (.cvar ck::r) bd=.dead::fY r bd:=by cases bd<;>rfl
   rw[e0,e1]
   refine⟨by simp[g1],λb J => ?_,λi k hk => ?_⟩
   ·cases b with
    | zero=>simp[rowAt]at J
    | succ b=>have:=g2 b (by simpa[rowAt]using J); simpa[jG,lY]using this
   ·cases i with
    | zero=>simp at hk; subst hk; exact⟨_,_,rfl,rfl,.cvar ck d h0⟩
    | succ i=>grind
  | _=>exact h.elim
 | .dead::r,b::blocks,bl,bd,h,J,ho=>by
  simp only[B4]at h
  cases hv:M8 b with
  | true=>rw[hv]at h; exact h.elim
  | false =>
   rw[hv,cond_false]at h
   have ho':fG r (mT bd)=true:=by cases bd<;>simpa[fG]using ho
   obtain⟨g1,g2,g3⟩:=Jc (st0:=st0) h J ho'
   have e1:jN st0 (.dead::r) bd=.dead::jN st0 r bd:=by cases bd<;>rfl
   have e0:fY (.dead::r) bd=.dead::fY r bd:=by cases bd<;>rfl
   rw[e0,e1]
   refine⟨by simp[g1],λb J => ?_,λi k hk => ?_⟩
   ·cases b with
    | zero=>simp[rowAt]at J
    | succ b=>have:=g2 b (by simpa[rowAt]using J); simpa[jG,lY]using this
   ·cases i with
    | zero=>simp at hk; subst hk; exact⟨_,_,rfl,rfl,.dead b hv⟩
    | succ i=>grind
inductive Refs(m:Nat):D->Prop
 | qi (τ:Ty) (x:AM.den τ):Refs m (.qi τ x)
 | tight (e:Ty) (l:List (AM.den e)) (ne:Bool):Refs m (.tight e l ne)
 | sT (e:Ty) (l:List (AM.den e)) (b:Bool):Refs m (.sT e l b)
 | wH:Refs m .wH
 | br:Refs m .br
 | vb:Refs m .vb
 | gF:Refs m .gF
 | uX:Refs m .uX
 | V6:Refs m .V6
 | nw (T:Nat):Refs m (.nw T)
 | eN (b T:Nat) (h:b<m):Refs m (.eN b T)
 | gj (b:Nat) (h:b<m):Refs m (.gj b)
 | ptr (b off:Nat) (h:b<m):Refs m (.ptr b off)
 | vE (τ:Ty) (x:AM.den τ):Refs m (.vE τ x)
 | gW (b vk:Nat) (e:Ty) (idx off:Nat) (h:b<m):Refs m (.gW b vk e idx off)
 | ms (b vk:Nat) (e:Ty) (off len:Nat) (h:b<m):Refs m (.ms b vk e off len)
 | wj (f:Nat) (l:List D) (h:∀ i (hi:i<l.length),Refs m l[i]):Refs m (.wj f l)
 | agg (l:List D) (h:∀ i (hi:i<l.length),Refs m l[i]):Refs m (.agg l)
 | eZ (l:List D) (h:∀ i (hi:i<l.length),Refs m l[i]):Refs m (.eZ l)
 | iface (t:Nat) (d:D) (h:Refs m d):Refs m (.iface t d)
theorem Refs.mono{m m':Nat}(hm:m<=m'){d:D}(h:Refs m d):Refs m' d:=by
 induction h with
 | ptr b off h=>exact .ptr b off (Z)
 | eN b T h=>exact .eN b T (Z)
 | gj b h=>exact .gj b (Z)
 | gW b vk e idx off h=>exact .gW b vk e idx off (Z)
 | ms b vk e off len h=>exact .ms b vk e off len (Z)
 | wj f l h ih=>exact .wj f l ih
 | agg l h ih=>exact .agg l ih
 | eZ l h ih=>exact .eZ l ih
 | iface t d h ih=>exact .iface t d ih
 | _=>constructor
theorem z9N{O:KS}{m:Nat}{d:D}{v:Value}(h:RD O d v)(hr:Refs m d):RD (O.cut m) d v:=by
 induction h with
 | qi τ y cs h=>exact .qi τ y cs h
 | sT e l b v h ht hf=>exact .sT e l b v h ht hf
 | vD e a=>exact .vD e a
 | tight e l ne blk off f kB j9 h hc=>exact .tight e l ne blk off f kB j9 h hc
 | wH=>exact .wH
 | br=>exact .br
 | vb=>exact .vb
 | gF=>exact .gF
 | uX=>exact .uX
 | V6 v h=>exact .V6 v h
 | nw T=>exact .nw T
 | nS b T d J=>cases hr with | eN _ _ wO=>exact nn (.nS b T d J) (by simp only[yv,zO,zU]; exact wO)
 | gj b blk n d J h=>cases hr with | gj _ wO=>exact nn (.gj b blk n d J h) (by simp only[yv,zO,zU]; exact wO)
 | nT b T blk n d J h=>cases hr with | eN _ _ wO=>exact nn (.nT b T blk n d J h) (by simp only[yv,zO,zU]; exact wO)
 | ptr b off blk n d J h=>cases hr with | ptr _ _ wO=>exact nn (.ptr b off blk n d J h) (by simp only[yv,zO,zU]; exact wO)
 | vE τ y cs blk off j9 h hc=>exact .vE τ y cs blk off j9 h hc
 | gW b vk e idx off blk o J h=>cases hr with | gW _ _ _ _ _ wO=>exact nn (.gW b vk e idx off blk o J h) (by simp only[yv,zO,zU]; exact wO)
 | ms b vk e off len cap a J jq ha WO h=>cases hr with | ms _ _ _ _ _ wO=>exact nn (.ms b vk e off len cap a J jq ha WO h) (by simp only[yv,zO,zU]; exact wO)
 | wj f l vs B h ih=>cases hr with | wj _ _ hh=>exact .wj f l vs B λi h1 X=>ih i h1 X (hh i h1)
 | agg l vs B ho h ih=>cases hr with | agg _ hh=>exact .agg l vs B ho λi h1 X=>ih i h1 X (hh i h1)
 | eZ l vs B h ih=>cases hr with | eZ _ hh=>exact .eZ l vs B λi h1 X=>ih i h1 X (hh i h1)
 | iface t d v h ih=>cases hr with | iface _ _ hh=>exact .iface t d v (ih hh)
theorem YD{a b:Nat}(h:a<b):zO a b=true:=by
 simp; exact h
theorem z0J{O κe:KS}{m:Nat}(U:Ext O κe)(hm:O.st.length<=m):Ext O (κe.cut m):=by
 have wO:∀ b x,O.st[b]? = some x->b<m:=λb x h=>Nat.lt_of_lt_of_le (Y.1 h).1 hm
 have Hm:∀ b,b<m->(κe.cut m).ph[b]? = κe.ph[b]? := λb J=>by simp only[KS.cut]; rw[List.getElem?_take,if_pos J]
 refine⟨U.os,U.tape,U.output,U.size,U.same,U.fresh,λb blk n h=>U.phs b blk n (lP h).1,λb d h => ?_,λb v0 e xs h => ?_,λb h=>xy (U.dead b h) (wO b _ h),?_,U.frame⟩
 ·obtain⟨⟨d',h1⟩,X⟩:=U.var b d h
  exact⟨⟨d',xy h1 (wO b _ h)⟩,(Hm b (wO b _ h)).trans X⟩
 ·rcases U.arr b v0 e xs h with h1 | ⟨v1,x1,h1,X,h3⟩
  ·exact .inl (xy h1 (wO b _ h))
  ·exact .inr ⟨v1,x1,xy h1 (wO b _ h),X,λhe=>⟨(Hm b (wO b _ h)).trans (h3 he).1,(h3 he).2⟩⟩
 ·have:=U.Iq
  simp[KS.cut]; omega
theorem uz.KD{κ0 O:KS}{fr:Fr}{a:Act}{sh:uz}{x:sh.den}(U:Ext κ0 O)(hI:Inv O)(hR:Rel O n fr.get a)(B:κ0.st.length<=sh.bs.length)(h:(sh.un fr O.st).leads x) :
  ∃ E:KS,E.w=O.w/\E.st=sh.st x/\Inv E/\Ext κ0 E/\Rel E n (sh.fr x).get a/\∀ (d:D) (v:Value),Refs sh.bs.length d->RD O d v->RD E d v:=by
 unfold uz.un at h
 cases hc:sh.ok&&(O.st.take sh.bs.length).all (CJ sh.bs.length)with
 | false=>rw[hc]at h; exact h.elim
 | true =>
  rw[hc,cond_true]at h
  simp only[I,uz.ok,zP]at hc
  obtain⟨⟨⟨⟨zp2,zhh⟩,QY⟩,hbs⟩,Y9⟩:=hc
  obtain⟨⟨⟩,h1,h⟩:=T.zg.1 h
  obtain⟨bl,X,h3⟩:=T.zg.1 h
  have hIc:=z6t hI Y9
  -- the store cut
  let m:=sh.bs.length
  obtain⟨g1,g2⟩:=Je (p:=I7 sh.bs) (qm:=sh.st x) sh.gy bl x (λk hk=>zhh _ hk) h3
  obtain⟨k1,k2,k3⟩:=Jc (st0:=fY sh.bs (Zn sh.gy x)) X g1 ((congrArg (fG sh.bs) (Qa sh.gy x)).trans zp2)
  have ud:sh.st x=jN (fY sh.bs (Zn sh.gy x)) sh.bs (Zn sh.gy x):=rfl
  rw[<- ud]at k1 k2 k3
  let E:KS:={ O.cut m with st:=sh.st x }
  have hm:m<=O.st.length:=by
   rcases Nat.eq_zero_or_pos m with h0 | h0
   ·omega
   ·obtain⟨hl,B',q1,_⟩:=k3 (m-1) (sh.bs[m-1]'(by show m-1<m; omega)) (qu)
    grind
  have zov:∀ i hl,O.st[i]? = some hl->i<m->(O.cut m).st[i]? = some hl:=λi hl hB hi=>xy hB hi
  have SD:(O.cut m).st.length=m:=by simp[KS.cut]; omega
  have pair:∀ i,i<m->∃ k hl B',sh.bs[i]? = some k/\(O.cut m).st[i]? = some hl/\E.st[i]? = some B'/\B7 (I7 sh.bs) O.st (fY sh.bs (Zn sh.gy x)) k hl B':=by
   intro i hi
   obtain⟨hl,B',q1,q2,q3⟩:=k3 i (sh.bs[i]'hi) (qu)
   grind
  have lt:∀ {i:Nat} {hl:de},(O.cut m).st[i]? = some hl->i<m:=λhB=>by have:=(Y.1 hB).1; omega
  have lt':∀ {i:Nat} {hl:de},E.st[i]? = some hl->i<m:=λhB=>by have:=(Y.1 hB).1; have e:E.st.length=m:=k1; omega
  have hw:Wk (O.cut m) E:=by
   refine⟨rfl,rfl,rfl,by show(sh.st x).length=_; rw[k1,SD],λb d J => ?_,λb v e xs J => ?_,λb v e xs J => ?_,λb J => ?_⟩
   ·obtain⟨k,hl,B',q0,q1,q2,q3⟩:=pair b (lt J)
    rw[J]at q1; cases q1
    cases q3 with
    | var k' _ _ y _ hy=>grind
    | cvar ck _ hy=>grind
    | dead _ hv=>cases hv
   ·obtain⟨k,hl,B',q0,q1,q2,q3⟩:=pair b (lt J)
    rw[J]at q1; cases q1
    cases q3 with
    | arr=>grind
    | dead=>grind
   ·obtain⟨k,hl,B',q0,q1,q2,q3⟩:=pair b (lt' J)
    rw[J]at q2; cases q2
    cases q3 with
    | arr=>exact q1
   ·obtain⟨k,hl,B',q0,q1,q2,q3⟩:=pair b (lt J)
    rw[J]at q1; cases q1
    cases q3 with
    | dead=>exact q2
  have D9:∀ b,rowAt sh.bs b=true->jG E.st b=lY O.st b/\jG (fY sh.bs (Zn sh.gy x)) b=lY O.st b/\jG O.st b=lY O.st b :=
   λb J=>⟨(k2 b J).2.1,(k2 b J).1,(k2 b J).2.2⟩
  have zmG:∀ b,rowAt sh.bs b=true->jG (O.cut m).st b=jG O.st b:=by
   intro b J
   have hbm:b<m:=by
    unfold rowAt at J
    split at J
    ·rename_i hh; exact(Y.1 hh).1
    ·cases J
   unfold jG
   simp only[KS.cut]
   rw[List.getElem?_take,if_pos hbm]
  have hbm:∀ b,rowAt sh.bs b=true->b<m:=by
   intro b J
   unfold rowAt at J
   split at J
   ·rename_i hh; exact(Y.1 hh).1
   ·cases J
  have SB:∀ b,Ji sh.bs b=true->b<m:=by
   intro b J
   unfold Ji at J
   split at J
   ·rename_i hh; exact(Y.1 hh).1
   ·rename_i hh; exact(Y.1 hh).1
   ·cases J
  have dk:∀ (k:Dk) (y:k.den) (d:D) (v:Value) (qm:St),I7 sh.bs k=true->(∀ b,rowAt sh.bs b=true->jG qm b=lY O.st b)->(QX O.st k d).leads y->RD O d v->RD E (QT qm k y) v:=by
   intro k y d v qm ho hv hy V
   have hwk:Wk O O:=⟨rfl,rfl,rfl,rfl,λb d h=>⟨d,h⟩,λb v e xs h=>.inl h,λb v e xs h=>h,λb h=>h⟩
   have h0:=DY hwk ho (λ_ _=>rfl) (qm:=O.st) (λ_ _=>rfl) (λb J=>(D9 b J).2.2) hy V
   have zot:iD m (QT O.st k y)=true:=by
    cases k with
    | sub b e=>exact YD (hbm b ho)
    | wj f caps =>
     have:∀ (l:List Jn) (z:iF l),(Qb l z).all (yv m)=true:=by
      intro l
      induction l with
      | nil=>intro z; rfl
      | cons p r ih =>
       intro z
       have hp:∀ w:AM.den p.ty,yv m (BR p w)=true:=λw=>by cases p<;>rfl
       cases r with
       | nil=>simp only[Qb,zF,List.all_nil,Bool.and_true]; exact hp z
       | cons q r=>simp only[Qb,zF,I]; exact⟨hp z.1,by simpa using ih z.2⟩
     exact this caps y
    | st ks=>exact zP.2 (cF hbm SB ks y ho)
    | mclo f ms=>exact zP.2 (pA SB ms y ho)
    | _=>rfl
   have h1:=hw.rd (MH h0 zot)
   have he:QT O.st k y=QT qm k y:=by
    cases k with
    | sub b e=>simp only[QT]; rw[hv b ho,(D9 b ho).2.2]
    | st ks=>simp only[QT]; rw[Zo (λb J=>(D9 b J).2.2.trans (hv b J).symm) ks y ho]
    | _=>rfl
   rwa [he]at h1
  have ck:∀ (q:Ck) (d:D) (v:Value) (qm:St),Tj sh.bs q=true->(∀ b,rowAt sh.bs b=true->jG qm b=lY O.st b)->(Jd O.st q d).leads ()->FZ qm q=d/\(RD O d v->RD E d v):=by
   intro q d v qm ho hv hy
   have he:=za5 ho hv hy
   refine⟨he,λV=>hw.rd (MH V ?_)⟩
   rw[<- he]
   cases q with
   | ptr b off=>exact YD (SB b ho)
   | cur b e=>exact YD (hbm b ho)
   | wH=>rfl
   | br=>rfl
   | vb=>rfl
   | uX=>rfl
   | gj b=>exact YD (SB b ho)
   | wj f l =>
    simp only[Tj,zP]at ho
    simp only[FZ,iD,zP,List.mem_map]
    rintro _ ⟨p,hp,rfl⟩
    exact YD (SB p.1 (ho p hp))
  have hI':Inv E:=by
   refine hw.inv hIc λb d' J => ?_
   obtain⟨k,hl,B',q0,q1,q2,q3⟩:=pair b (lt' J)
   rw[J]at q2
   cases q2
   cases q3 with
   | var kk k' d y hp hy =>
    refine yf.elim (hIc.blk b _ q1:yf _ _ _) (λKO eW => ?_) λl e zhq => ?_
    rotate_left
    ·subst e
     cases kk with
     | mp=>cases hy; obtain⟨blk,o,e1,e2⟩:=zhq; exact⟨blk,o,e1,e2⟩
     | qi τ=>simp[QX,p9]at hy; exact hy.elim
     | vE τ=>exact hy.elim
     | sub b e=>exact hy.elim
     | wj f caps=>exact hy.elim
     | st ks=>exact hy.elim
     | mclo f ms=>exact hy.elim
     | sT e=>exact hy.elim
     | tight e=>exact hy.elim
    obtain⟨blk,n',cs,t,e1,e2,e3,e4,e5⟩:=eW
    cases kk with
    | qi τ =>
     have hco:p9 τ d=some y:=T.yO.1 hy
     have ht:d.bT=false:=by
      cases d with
      | eZ l=>simp[p9,D.bT]at hco
      | _=>rfl
     have Ee:=XJ hco e4 e5.1 ht
     exact yf.mk (O:=E) (b:=b) (d:=.qi τ y) rfl ⟨blk,n',cs,t,e1,e2,e3,(Xo Ee).mono hw.ext,rR τ y,nofun⟩
    | vE τ =>
     cases d<;>simp only[QX]at hy<;>try (exact hy.elim)
     obtain⟨e,hyy⟩:=wi (T.yO.1 hy)
     cases e
     cases hyy
     exact yf.mk (O:=E) (b:=b) (d:=.vE τ _) rfl ⟨blk,n',cs,t,e1,e2,e3,e4.mono hw.ext,e5.1,nofun⟩
    | st ks =>
     simp only[QX]at hy
     cases ha:d.cY with
     | false=>rw[ha]at hy; exact hy.elim
     | true =>
      rw[ha]at hy
      replace hy:(oT O.st ks (wb d)).leads y:=hy
      have ztp:b<m:=lt' J
      have TS:O.st[b]? = some (.var d):=(lP q1).1
      obtain⟨znk,n2,cs2,t2,f1,f2,f3,f4,f5⟩:=(hI.blk b _ TS:yf O b d).cells KO
      have hp1:=(lP e1).1
      rw[f1]at hp1
      cases hp1
      have e2':=e2
      rw[show(O.cut m).w=O.w from rfl,f2]at e2
      cases e2
      obtain⟨g1,g2⟩:=mQ (O:=O) (qm:=fY sh.bs (Zn sh.gy x)) (bs:=sh.bs) (λb J=>(D9 b J).2.1) ks (wb d) y _ hp.2 hy f4
      refine yf.mk (O:=E) (b:=b) (d:=.agg (jo (fY sh.bs (Zn sh.gy x)) ks y)) rfl ⟨blk,n',cs,t,e1,e2',e3,(Rj g1 λz hz => ?_).mono hw.ext,g2,λT hT => ?_⟩
      rotate_left
      ·exact f5.2 T (KA ha (Kk ks (wb d) y hy hT))
      have:=cF (m:=m) hbm SB ks y hp.2 z hz
      cases z<;>first | exact this | cases this
    | mp=>cases d<;>first | exact hy.elim | cases KO
    | _=>cases hp.1
   | cvar q d hy =>
    have hoq:Tj sh.bs q=true:=hbs _ (List.mem_of_getElem? q0)
    obtain⟨g,_⟩:=ck q d undef (fY sh.bs (Zn sh.gy x)) hoq (λb J=>(D9 b J).2.1) hy
    rw[g]
    refine yf.elim (hIc.blk b _ q1:yf _ _ _) (λKO ⟨blk,n',cs,t,e1,e2,e3,e4,e5⟩=>.mk KO ⟨blk,n',cs,t,e1,e2,e3,e4.mono hw.ext,e5⟩) λl e ⟨blk,o,e1,e2⟩ => ?_
    subst e
    exact⟨blk,o,e1,e2⟩
  refine⟨E,rfl,rfl,hI',?_,⟨hR.size,hR.defers,λs d V => ?_⟩,λd v hr V=>hw.rd (z9N V hr)⟩
  ·have wO:κ0.st.length<=m:=B
   have c1:=z0J U wO
   exact c1.trans hw.ext
  ·rcases get_append (l:=nO (sh.st x) sh.gy x) (m:=z9f (sh.st x) sh.cs) V with hp | hp0
   ·obtain⟨k,y,d0,q0,q1,q2,q3⟩:=g2 _ hp
    cases q3
    obtain⟨v,r1,r2⟩:=hR.get _ _ q1
    exact⟨v,r1,dk k y d0 v (sh.st x) (zhh _ q0) (λb J=>(D9 b J).1) q2 r2⟩
   ·have HK:=get_mem hp0
    unfold z9f at HK
    obtain⟨p,hp,he⟩:=List.mem_map.1 HK
    cases he
    obtain⟨d0,q1,q2⟩:=IA h1 p hp
    obtain⟨v,r1,r2⟩:=hR.get _ _ q1
    obtain⟨g,gg⟩:=ck p.2 d0 v (sh.st x) (QY p hp) (λb J=>(D9 b J).1) q2
    rw[g]
    exact⟨v,r1,gg r2⟩
end
end Go.AM
namespace Go.AM
set_option linter.unusedSectionVars false
variable [gB] [B8]
open Go.RowKit
inductive Gh where
 | slot (s:Nat) (e:Ty) | cell (b i:Nat) (e:Ty) | pcell (s i:Nat) (e:Ty)
def Yf(st:St)(b i:Nat):Option (List D):=match st[b]? with
 | some (.var d)=>bif d.cY then match(wb d)[i]? with | some .wH=>some (wb d) | _=>none else none
 | _=>none
def gh:List Gh->Fr->St->Fr×St
 | [],fr,st=>(fr,st)
 | .slot s e::r,fr,st=>match fr.get s with
  | some .wH=>bif zO 0 e.size then gh r ((s,some (.ms st.length 0 e 0 0))::fr) (st++[.arr 0 e []])else gh r fr st
  | _=>gh r fr st
 | .cell b i e::r,fr,st=>match Yf st b i with
  | some l=>bif zO 0 e.size then gh r fr ((st++[de.arr 0 e []]).set b (.var (.agg (l.set i (.ms st.length 0 e 0 0)))))else gh r fr st
  | none=>gh r fr st
 | .pcell t i e::r,fr,st=>match fr.get t with
  | some (.ptr b _)=>match Yf st b i with
   | some l=>bif zO 0 e.size then gh r fr ((st++[de.arr 0 e []]).set b (.var (.agg (l.set i (.ms st.length 0 e 0 0)))))else gh r fr st
   | none=>gh r fr st
  | _=>gh r fr st
section
variable {c:Ctx} {O:KS}
def KS.gm(O:KS)(e:Ty):KS:={ O with ph:=O.ph++[none],st:=O.st++[.arr 0 e []] }
theorem sk(hI:Inv O)(e:Ty):Ext O (O.gm e):=by
 have ud:∀ b y,O.st[b]? = some y->(O.st++[.arr 0 e []])[b]? = some y:=λb y h=>by rw[zK (Y.1 h).1]; exact h
 have Hm:∀ b y,O.st[b]? = some y->(O.ph++[none])[b]? = O.ph[b]? := λb y h=>by
  rw[zK]; rw[hI.len]; exact(Y.1 h).1
 refine⟨rfl,rfl,rfl,zJ _,λk hk=>⟨hk,rfl⟩,λk hk=>.inl hk,?_,λb d h=>⟨⟨d,ud b _ h⟩,Hm b _ h⟩,
  λb v0 e xs h=>.inr ⟨v0,xs,ud b _ h,zJ _,λ_=>⟨Hm b _ h,rfl⟩⟩,λb h=>ud b _ h,by simp[KS.gm],λk hk _=>rfl⟩
 intro b blk m h
 simp only[KS.gm]at h
 grind
theorem VE(hI:Inv O){e:Ty}(he:0<e.size):Inv (O.gm e):=by
 have hold:∀ (b blk m:Nat),(O.ph++[none])[b]? = some (some (blk,m))->O.ph[b]? = some (some (blk,m)):=by
  grind
 refine⟨by simp[KS.gm,hI.len],hI.cq,λb blk m h=>hI.apart b blk m (hold b blk m h),λb b' blk m m' h h'=>hI.inj b b' blk m m' (hold _ _ _ h) (hold _ _ _ h'),?_,hI.gl⟩
 intro b y hy
 simp only[KS.gm]at hy
 by_cases J:b<O.st.length
 ·rw[zK J]at hy
  exact(hI.blk b y hy).mono (sk hI e) (by show(O.ph++[none])[b]? = O.ph[b]?; rw[zK (by rw[hI.len]; exact J)]) λblk n h=>rfl
 ·have KN:=(Y.1 hy).1
  simp at KN
  have:b=O.st.length:=Z
  subst this
  simp at hy
  subst hy
  exact⟨he,.inl ⟨rfl,by simp[KS.gm,<- hI.len]⟩⟩
theorem N3{l:List D}{i b v len off:Nat}{e:Ty}{tt:Nat}(h:(D.agg (l.set i (.ms b v e off len))).typed=some tt):lQ l=some tt:=by
 cases l with
 | nil=>exact h
 | cons x r=>cases i with
  | zero=>cases h
  | succ i=>cases x<;>exact h
theorem z9P{O κ2:KS}{l:List D}{vs:List Value}{i:Nat}{d':D}(h:wQ O l vs)(hw:∀ d v,RD O d v->RD κ2 d v)(hi:∀ v,vs[i]? = some v->RD κ2 d' v):wQ κ2 (l.set i d') vs:=by
 refine⟨by rw[List.length_set]; exact h.1,λk h1 X => ?_⟩
 rw[List.getElem_set]
 split
 ·grind
 ·exact hw _ _ (h.2 k (wa) X)
theorem NB(hI:Inv O){e:Ty}(he:0<e.size){b i:Nat}{l:List D}(h:Yf O.st b i=some l) :
  ∃ E:KS,E.w=O.w/\E.st=(O.st++[de.arr 0 e []]).set b (.var (.agg (l.set i (.ms O.st.length 0 e 0 0))))/\Inv E/\Ext O E:=by
 unfold Yf at h
 split at h
 ·rename_i d V
  cases ha:d.cY with
  | false=>grind
  | true =>
   rw[ha,cond_true]at h
   split at h
   ·rename_i hi
    cases h
    have U:=sk hI e
    have VZ:=VE hI he
    have zto:b<O.st.length:=(Y.1 V).1
    let κ2:KS:={ O.gm e with st:=(O.gm e).st.set b (.var (.agg ((wb d).set i (.ms O.st.length 0 e 0 0)))) }
    have IU:(O.gm e).st[b]? = some (.var d):=by
     show(O.st++[_])[b]? = _
     grind
    have kB:∀ j,j≠b->κ2.st[j]? = (O.gm e).st[j]? := λj hj=>by
     grind
    have zhK:κ2.st[b]? = some (.var (.agg ((wb d).set i (.ms O.st.length 0 e 0 0)))):=by
     grind
    have hw:Wk (O.gm e) κ2:=by
     refine⟨rfl,rfl,rfl,by simp[κ2],λj d' hj => ?_,λj v e' xs hj => ?_,λj v e' xs hj => ?_,λj hj => ?_⟩
     ·grind
     ·grind
     ·grind
     ·by_cases c:j=b
      ·subst c; rw[IU]at hj; cases hj
      ·rw[kB j c]; exact hj
    have HL:κ2.st[O.st.length]? = some (.arr 0 e []):=by
     rw[kB _ (Z)]
     simp[KS.gm]
    have hI2:Inv κ2:=by
     refine hw.inv VZ λj d' hj => ?_
     by_cases c:j=b
     ·subst c
      rw[zhK]at hj
      cases hj
      obtain⟨blk,m,cs,t,q1,q2,q3,q4,q5⟩:=(VZ.blk j _ IU:yf _ _ _).cells (by cases d<;>first | rfl | cases ha)
      refine yf.mk (O:=κ2) (b:=j) (d:=.agg ((wb d).set i (.ms O.st.length 0 e 0 0))) rfl ⟨blk,m,cs,t,q1,q2,q3,z9P q4 (λ_ _ h=>hw.rd h) λv hv => ?_,λx hxm => ?_,λT hT => ?_⟩
      ·obtain⟨v',h1,X⟩:=q4.get hi
       rw[hv]at h1
       cases h1
       cases X
       refine .ms O.st.length 0 e 0 0 0 none (.inr ⟨0,e,[],HL,zJ _⟩) (zJ _) (λ_=>rfl) nofun λxs YY => ?_
       rw[HL]at YY
       cases YY
       exact⟨zJ _,.inl ⟨rfl,rfl,rfl,by show(O.ph++[none])[O.st.length]? = _; simp[<- hI.len]⟩⟩
      ·rcases List.mem_or_eq_of_mem_set (show x∈(wb d).set i (.ms O.st.length 0 e 0 0)from hxm)with h' | h'
       ·exact q5.1 x h'
       ·subst h'; rfl
      ·exact q5.2 T (KA ha (N3 hT))
     ·rw[kB j c]at hj
      exact(VZ.blk j _ hj).mono hw.ext rfl λ_ _ _=>rfl
    exact⟨κ2,rfl,rfl,hI2,U.trans hw.ext⟩
   ·cases h
 ·cases h
theorem tp{n:Nat}{a:Act}:∀ (l:List Gh) (fr:Fr) (O:KS),Inv O->Rel O n fr.get a->∃ E:KS,E.w=O.w/\E.st=(gh l fr O.st).2/\Inv E/\Ext O E/\Rel E n (gh l fr O.st).1.get a
 | [],fr,O,hI,hR=>⟨O,rfl,rfl,hI,Ext.refl O,hR⟩
 | .slot s e::r,fr,O,hI,hR=>by
  unfold gh
  split
  ·rename_i hs
   cases he:zO 0 e.size with
   | false=>rw[cond_false]; exact tp r fr O hI hR
   | true =>
    rw[cond_true]
    have LU:0<e.size:=zE he
    have U:=sk hI e
    have hR':Rel (O.gm e) n (Fr.get ((s,some (.ms O.st.length 0 e 0 0))::fr)) a:=by
     refine⟨hR.size,hR.defers,λt d V => ?_⟩
     simp only[Fr.get]at V
     cases ht:W s t with
     | true =>
      rw[ht,cond_true]at V
      cases V
      have:=zA ht
      subst this
      obtain⟨v,h1,X⟩:=hR.get s _ hs
      cases X
      have HL:(O.gm e).st[O.st.length]? = some (.arr 0 e []):=by simp[KS.gm]
      refine⟨_,h1,.ms O.st.length 0 e 0 0 0 none (.inr ⟨0,e,[],HL,zJ _⟩) (zJ _) (λ_=>rfl) nofun λxs YY => ?_⟩
      rw[HL]at YY
      cases YY
      exact⟨zJ _,.inl ⟨rfl,rfl,rfl,by simp[KS.gm,<- hI.len]⟩⟩
     | false =>
      rw[ht,cond_false]at V
      obtain⟨v,h1,X⟩:=hR.get t d V
      exact⟨v,h1,X.mono U⟩
    obtain⟨E,h1,X,h3,h4,h5⟩:=tp r _ (O.gm e) (VE hI LU) hR'
    exact⟨E,h1,X,h3,U.trans h4,h5⟩
  ·exact tp r fr O hI hR
 | .cell b i e::r,fr,O,hI,hR=>by
  unfold gh
  split
  ·rename_i l B
   cases he:zO 0 e.size with
   | false=>rw[cond_false]; exact tp r fr O hI hR
   | true =>
    rw[cond_true]
    have LU:0<e.size:=zE he
    obtain⟨κ1,g1,g2,g3,g4⟩:=NB hI LU B
    obtain⟨E,h1,X,h3,h4,h5⟩:=tp r fr κ1 g3 ⟨hR.size,hR.defers,λt d V=>by
     obtain⟨v,q1,q2⟩:=hR.get t d V
     exact⟨v,q1,q2.mono g4⟩⟩
    rw[g2]at X h5
    exact⟨E,h1.trans g1,X,h3,g4.trans h4,h5⟩
  ·exact tp r fr O hI hR
 | .pcell t i e::r,fr,O,hI,hR=>by
  unfold gh
  split
  ·rename_i b off J
   split
   ·rename_i l B
    cases he:zO 0 e.size with
    | false=>rw[cond_false]; exact tp r fr O hI hR
    | true =>
     have LU:0<e.size:=zE he
     obtain⟨κ1,g1,g2,g3,g4⟩:=NB hI LU B
     obtain⟨E,h1,X,h3,h4,h5⟩:=tp r fr κ1 g3 ⟨hR.size,hR.defers,λt d V=>by
      obtain⟨v,q1,q2⟩:=hR.get t d V
      exact⟨v,q1,q2.mono g4⟩⟩
     rw[g2]at X h5
     exact⟨E,h1.trans g1,X,h3,g4.trans h4,h5⟩
   ·exact tp r fr O hI hR
  ·exact tp r fr O hI hR
end
end Go.AM
namespace Go.AM
def Qr(f:Nat->Option Nat)(d:D):Option D:=match d with
 | .ptr b off=>match f b with | some b'=>some (.ptr b' off) | none=>none
 | .eN b T=>match f b with | some b'=>some (.eN b' T) | none=>none
 | .gj b=>match f b with | some b'=>some (.gj b') | none=>none
 | .gW b v e i off=>match f b with | some b'=>some (.gW b' v e i off) | none=>none
 | .ms b v e off len=>match f b with | some b'=>some (.ms b' v e off len) | none=>none
 | .wj _ _=>none
 | .agg _=>none
 | .eZ _=>none
 | .iface _ _=>none
 | d=>some d
def Ij(f:Nat->Option Nat):List D->Option (List D)
 | []=>some []
 | d::r=>match Qr f d with
  | some d'=>match Ij f r with | some r'=>some (d'::r') | none=>none
  | none=>none
def su(f:Nat->Option Nat)(d:D):Option D:=match d with
 | .wj g l=>match Ij f l with | some l'=>some (.wj g l') | none=>none
 | .agg l=>match Ij f l with | some l'=>some (.agg l') | none=>none
 | d=>Qr f d
def XL(f:Nat->Option Nat):List D->Option (List D)
 | []=>some []
 | d::r=>match su f d with
  | some d'=>match XL f r with | some r'=>some (d'::r') | none=>none
  | none=>none
def VL(f:Nat->Option Nat):de->Option de
 | .var d=>match su f d with | some d'=>some (.var d') | none=>none
 | .arr v e xs=>some (.arr v e xs)
 | .dead=>some .dead
def oS(f:Nat->Option Nat):List de->Option (List de)
 | []=>some []
 | b::r=>match VL f b with
  | some b'=>match oS f r with | some r'=>some (b'::r') | none=>none
  | none=>none
def V0(f:Nat->Option Nat):Fr->Fr
 | []=>[]
 | (s,some d)::r=>(s,su f d)::V0 f r
 | (s,none)::r=>(s,none)::V0 f r
structure Tr(O E:KS)(f:Nat->Option Nat):Prop where
 w:E.w=O.w
 ok:E.ok=O.ok
 var:∀ (b b':Nat) (d:D),f b=some b'->O.st[b]? = some (.var d)->(∃ d',E.st[b']? = some (.var d'))/\E.ph[b']? = O.ph[b]?
 old:∀ (b b' vk:Nat),f b=some b'->Old O.st b vk->Old E.st b' vk
 row:∀ (b b' v:Nat) (e:Ty) (xs:List (den e)),f b=some b'->E.st[b']? = some (.arr v e xs)->O.st[b]? = some (.arr v e xs)/\E.ph[b']? = O.ph[b]?
section
variable {O E:KS} {f:Nat->Option Nat}
theorem Tr.same(h:Tr O E f):L6 O.w E.w O.ok E.ok:=λk hk=>⟨by rw[h.ok]; exact hk,by rw[h.w]⟩
theorem Tr.rd1(h:Tr O E f){d d':D}{v:Value}(V:RD O d v)(hr:Qr f d=some d'):RD E d' v:=by
 cases V with
 | qi τ y cs hc=>cases hr; exact .qi τ y cs (hc.mono h.same)
 | sT e l b v hc ht hf=>cases hr; exact .sT e l b v (hc.mono h.same) ht hf
 | vD e a=>cases hr; exact .vD e a
 | tight e l ne blk off g kB j9 hh hc=>cases hr; exact .tight e l ne blk off g kB (h.same _ j9).1 (λi hi=>(hh i hi).mono h.same) λi hi j v hv=>by rw[mm (h.same _ j9).2]; exact hc i hi j v hv
 | wH=>cases hr; exact .wH
 | br=>cases hr; exact .br
 | vb=>cases hr; exact .vb
 | gF=>cases hr; exact .gF
 | uX=>cases hr; exact .uX
 | V6 v h=>cases hr; exact .V6 v h
 | nw T=>cases hr; exact .nw T
 | nS b T d J =>
  simp only[Qr]at hr
  split at hr
  ·rename_i b' hf
   cases hr
   obtain⟨⟨d',h1⟩,X⟩:=h.var b b' d hf J
   exact .nS b' T d' h1
  ·cases hr
 | gj b blk n d J hp =>
  simp only[Qr]at hr
  split at hr
  ·rename_i b' hf
   cases hr
   obtain⟨⟨d',h1⟩,X⟩:=h.var b b' d hf J
   exact .gj b' blk n d' h1 (X.trans hp)
  ·cases hr
 | nT b T blk n d J hp =>
  simp only[Qr]at hr
  split at hr
  ·rename_i b' hf
   cases hr
   obtain⟨⟨d',h1⟩,X⟩:=h.var b b' d hf J
   exact .nT b' T blk n d' h1 (X.trans hp)
  ·cases hr
 | ptr b off blk n d J hp =>
  simp only[Qr]at hr
  split at hr
  ·rename_i b' hf
   cases hr
   obtain⟨⟨d',h1⟩,X⟩:=h.var b b' d hf J
   exact .ptr b' off blk n d' h1 (X.trans hp)
  ·cases hr
 | vE τ y cs blk off j9 hh hc=>cases hr; exact .vE τ y cs blk off (h.same _ j9).1 (hh.mono h.same) λj v hv=>by rw[mm (h.same _ j9).2]; exact hc j v hv
 | gW b vk e idx off blk o J hh =>
  simp only[Qr]at hr
  split at hr
  ·rename_i b' hf
   cases hr
   refine .gW b' vk e idx off blk o (h.old b b' vk hf J) λxs U hi => ?_
   obtain⟨h1,X⟩:=h.row b b' vk e xs hf U
   grind
  ·cases hr
 | ms b vk e off len cap a J jq ha WO hh =>
  simp only[Qr]at hr
  split at hr
  ·rename_i b' hf
   cases hr
   refine .ms b' vk e off len cap a (h.old b b' vk hf J) jq ha WO λxs U => ?_
   obtain⟨h1,X⟩:=h.row b b' vk e xs hf U
   have:=hh xs h1
   unfold No at this ⊢
   grind
  ·cases hr
 | wj g l vs B hh=>cases hr
 | agg l vs B ho hh=>cases hr
 | eZ l vs B hh=>cases hr
 | iface t d v hh=>cases hr
theorem z42{d d':D}(h:Qr f d=some d'):d'.one=d.one:=by
 cases d<;>simp only[Qr]at h<;>first | (cases h; rfl) | (split at h<;>cases h; rfl) | cases h
theorem Tr.rdL(h:Tr O E f):∀ {l l':List D} {vs:List Value},wQ O l vs->Ij f l=some l'->wQ E l' vs
 | [],l',vs,V,hr=>by cases hr; rw[V.wh]; exact .nil
 | d::r,l',vs,V,hr=>by
  simp only[Ij]at hr
  split at hr
  ·rename_i d' h1
   split at hr
   ·rename_i r' X
    cases hr
    obtain⟨v,us,rfl,g1,g2⟩:=V.cons_inv
    exact .cons (h.rd1 g1 h1) (h.rdL g2 X)
   ·cases hr
  ·cases hr
theorem GS:∀ {l l':List D},Ij f l=some l'->(∀ d∈l,d.one=true)->∀ d∈l',d.one=true
 | [],l',hr,_=>by cases hr; nofun
 | d::r,l',hr,ho=>by
  simp only[Ij]at hr
  split at hr
  ·rename_i d' h1
   split at hr
   ·rename_i r' X
    cases hr
    intro x U
    rcases zH.1 U with rfl | U
    ·rw[z42 h1]; exact ho d zQ
    ·exact GS X (λy hy=>ho y (zI _ hy)) x U
   ·cases hr
  ·cases hr
theorem Tr.rd(h:Tr O E f){d d':D}{v:Value}(V:RD O d v)(hr:su f d=some d'):RD E d' v:=by
 cases d with
 | wj g l =>
  simp only[su]at hr
  split at hr
  ·rename_i l' B
   cases hr
   cases V with
   | wj _ _ vs h1 X=>have:=h.rdL (⟨h1,X⟩:wQ O l vs) B; exact .wj g l' vs this.1 this.2
  ·cases hr
 | agg l =>
  simp only[su]at hr
  split at hr
  ·rename_i l' B
   cases hr
   cases V with
   | agg _ vs h1 ho X=>have:=h.rdL (⟨h1,X⟩:wQ O l vs) B; exact .agg l' vs this.1 (GS B ho) this.2
  ·cases hr
 | _=>exact h.rd1 V hr
theorem Tr.rds(h:Tr O E f):∀ {l l':List D} {vs:List Value},wQ O l vs->XL f l=some l'->wQ E l' vs
 | [],l',vs,V,hr=>by cases hr; rw[V.wh]; exact .nil
 | d::r,l',vs,V,hr=>by
  simp only[XL]at hr
  split at hr
  ·rename_i d' h1
   split at hr
   ·rename_i r' X
    cases hr
    obtain⟨v,us,rfl,g1,g2⟩:=V.cons_inv
    exact .cons (h.rd g1 h1) (h.rds g2 X)
   ·cases hr
  ·cases hr
theorem Tr.flat(h:Tr O E f){d d':D}{vs:List Value}(V:wQ O (wb d) vs)(ho:∀ x∈wb d,x.one=true)(hr:su f d=some d'):wQ E (wb d') vs/\∀ x∈wb d',x.one=true:=by
 have qi:∀ (τ:Ty) (x:den τ) (vs:List Value),wQ O (Go.AM.flat τ x) vs->wQ E (Go.AM.flat τ x) vs:=by
  intro τ x vs hh
  refine⟨hh.1,λi h1 X => ?_⟩
  have hm:=List.getElem_mem h1
  have:∃ σ z,(Go.AM.flat τ x)[i]=.qi σ z:=by
   generalize (Go.AM.flat τ x)[i]=y at hm
   clear hh h1 X
   induction τ with
   | cons a b ia ib =>
    simp only[Go.AM.flat,zN]at hm
    grind
   | nil=>simp[Go.AM.flat]at hm
   | expr=>simp[Go.AM.flat]at hm; rcases hm with rfl | rfl | rfl | rfl | rfl | rfl<;>exact⟨_,_,rfl⟩
   | _=>simp[Go.AM.flat]at hm; subst hm; exact⟨_,_,rfl⟩
  obtain⟨σ,z,e⟩:=this
  have h3:=hh.2 i h1 X
  rw[e]at h3 ⊢
  exact h.rd1 h3 rfl
 cases d with
 | qi τ x=>cases hr; exact⟨qi τ x vs V,ho⟩
 | agg l =>
  simp only[su]at hr
  split at hr
  ·rename_i l' B
   cases hr
   exact⟨h.rdL V B,GS B ho⟩
  ·cases hr
 | eZ l=>cases hr
 | wj g l =>
  obtain⟨v,r,rfl,h1,X⟩:=wQ.cons_inv (show wQ O [.wj g l] vs from V)
  rw[X.wh]
  have D6:=hr
  simp only[su]at hr
  split at hr
  ·cases hr; exact⟨.cons (h.rd h1 D6) .nil,λx U=>by simp only[wb,zL]at U; subst U; rfl⟩
  ·cases hr
 | iface t x=>cases hr
 | ptr b off =>
  obtain⟨v,r,rfl,h1,X⟩:=wQ.cons_inv (show wQ O [.ptr b off] vs from V)
  rw[X.wh]
  have D6:=hr
  simp only[su,Qr]at hr
  split at hr
  ·cases hr; exact⟨.cons (h.rd1 h1 D6) .nil,λx U=>by simp only[wb,zL]at U; subst U; rfl⟩
  ·cases hr
 | gj b =>
  obtain⟨v,r,rfl,h1,X⟩:=wQ.cons_inv (show wQ O [.gj b] vs from V)
  rw[X.wh]
  have D6:=hr
  simp only[su,Qr]at hr
  split at hr
  ·cases hr; exact⟨.cons (h.rd1 h1 D6) .nil,λx U=>by simp only[wb,zL]at U; subst U; rfl⟩
  ·cases hr
 | eN b T =>
  obtain⟨v,r,rfl,h1,X⟩:=wQ.cons_inv (show wQ O [.eN b T] vs from V)
  rw[X.wh]
  have D6:=hr
  simp only[su,Qr]at hr
  split at hr
  ·cases hr; exact⟨.cons (h.rd1 h1 D6) .nil,λx U=>by simp only[wb,zL]at U; subst U; rfl⟩
  ·cases hr
 | gW b vk e idx off =>
  obtain⟨v,r,rfl,h1,X⟩:=wQ.cons_inv (show wQ O [.gW b vk e idx off] vs from V)
  rw[X.wh]
  have D6:=hr
  simp only[su,Qr]at hr
  split at hr
  ·cases hr; exact⟨.cons (h.rd1 h1 D6) .nil,λx U=>by simp only[wb,zL]at U; subst U; rfl⟩
  ·cases hr
 | ms b vk e off len =>
  obtain⟨v,r,rfl,h1,X⟩:=wQ.cons_inv (show wQ O [.ms b vk e off len] vs from V)
  rw[X.wh]
  have D6:=hr
  simp only[su,Qr]at hr
  split at hr
  ·cases hr; exact⟨.cons (h.rd1 h1 D6) .nil,λx U=>by simp only[wb,zL]at U; subst U; rfl⟩
  ·cases hr
 | BU l=>cases hr; exact⟨⟨V.1,λi h1=>by cases h1⟩,ho⟩
 | _ =>
  cases hr
  obtain⟨v,r,rfl,h1,X⟩:=wQ.cons_inv V
  rw[X.wh]
  exact⟨.cons (h.rd1 h1 rfl) .nil,ho⟩
theorem ML{f:Nat->Option Nat}{d d':D}{tt:Nat}(h:su f d=some d')(ht:d'.typed=some tt):d.typed=some tt:=by
 cases d with
 | agg l =>
  simp only[su]at h
  split at h
  ·rename_i l' B
   cases h
   cases l with
   | nil=>cases B; cases ht
   | cons x r =>
    simp only[Ij]at B
    split at B
    ·rename_i x' U
     split at B
     ·cases B
      cases x<;>simp only[Qr]at U<;>first
       | (cases U; exact ht)
       | (split at U<;>first | (cases U; exact ht) | cases U)
       | cases U
     ·cases B
    ·cases B
  ·cases h
 | wj g l =>
  simp only[su]at h
  split at h
  ·cases h; cases ht
  ·cases h
 | _ =>
  simp only[su,Qr]at h
  first
   | (cases h; cases ht)
   | (split at h<;>first | (cases h; cases ht) | cases h)
   | cases h
theorem Tr.blk[WI](h:Tr O E f){b b':Nat}(hp:E.ph[b']? = O.ph[b]?){y y':de}(hy:pX O b y)(hr:VL f y=some y'):pX E b' y':=by
 cases y with
 | dead=>cases hr; trivial
 | var d =>
  simp only[VL]at hr
  split at hr
  ·rename_i d' V
   cases hr
   refine yf.elim hy (λhm ⟨blk,n,cs,t,h1,X,h3,h4,h5⟩ => ?_) λl e ⟨blk,o,h1,X⟩ => ?_
   rotate_left
   ·subst e
    cases V
    exact⟨blk,o,hp.trans h1,by rw[h.w]; exact X⟩
   have hm':d'.G2=false:=by
    cases d<;>simp only[su,Qr]at V<;>first | (cases hm; done) | (cases V; rfl) | (split at V<;>first | (cases V; rfl) | cases V) | cases V | cases hm
   obtain⟨g1,g2⟩:=h.flat h4 h5.1 V
   exact .mk hm' ⟨blk,n,cs,t,hp.trans h1,by rw[h.w]; exact X,h3,g1,g2,λT hT=>h5.2 T (ML V hT)⟩
  ·cases hr
 | arr vk e xs =>
  cases hr
  obtain⟨h0,hh⟩:=hy
  refine⟨h0,so hh (λh=>⟨h.1,hp.trans h.2⟩) ?_⟩
  rintro⟨blk,n,cs,t,h1,X,h3,h4,hr,g,h5⟩
  exact⟨blk,n,cs,t,hp.trans h1,by rw[h.w]; exact X,h3,h4,hr,g,λi hi=>⟨(h5 i hi).1.mono h.same,(h5 i hi).2⟩⟩
theorem Wx{f:Nat->Option Nat}:∀ {fr:Fr} {s:Nat} {d':D},(V0 f fr).get s=some d'->∃ d,fr.get s=some d/\su f d=some d'
 | [],s,d',h=>by cases h
 | (t,some d)::r,s,d',h=>by
  simp only[V0,Fr.get]at h ⊢
  cases ht:W t s with
  | true=>grind
  | false=>rw[ht,cond_false]at h; simp; exact Wx h
 | (t,none)::r,s,d',h=>by
  simp only[V0,Fr.get]at h ⊢
  cases ht:W t s with
  | true=>grind
  | false=>rw[ht,cond_false]at h; simp; exact Wx h
end
def pos:List Nat->Nat->Option Nat
 | [],_=>none
 | b::r,i=>bif W b i then some 0 else match pos r i with | some j=>some (j+1) | none=>none
def cZ:List Nat->Bool
 | []=>true
 | b::r=>(match pos r b with | none=>true | some _=>false)&&cZ r
theorem tC:∀ {mp:List Nat} {i j:Nat},pos mp i=some j->mp[j]? = some i
 | [],i,j,h=>by cases h
 | b::r,i,j,h=>by
  simp only[pos]at h
  cases J:W b i with
  | true=>rw[J,cond_true]at h; cases h; rw[zA J]; rfl
  | false =>
   rw[J,cond_false]at h
   split at h
   ·rename_i k hk; cases h; simpa using tC hk
   ·cases h
theorem pq:∀ {mp:List Nat} {i j:Nat},cZ mp=true->mp[j]? = some i->pos mp i=some j
 | [],i,j,_,h=>by simp at h
 | b::r,i,j,hn,h=>by
  simp only[cZ,I]at hn
  cases j with
  | zero=>simp at h; subst h; simp only[pos]; rw[qS]; rfl
  | succ j =>
   have h':r[j]? = some i:=by simpa using h
   have hp:=pq hn.2 h'
   have kB:W b i=false:=by
    cases J:W b i with
    | false=>rfl
    | true =>
     have:=zA J
     grind
   simp only[pos,kB,cond_false,hp]
def ly{α:Type}(l:List α):List Nat->Option (List α)
 | []=>some []
 | b::r=>match l[b]? with
  | some x=>match ly l r with | some y=>some (x::y) | none=>none
  | none=>none
theorem JU{α:Type}{l:List α}:∀ {mp:List Nat} {r:List α},ly l mp=some r->r.length=mp.length/\∀ (j b:Nat),mp[j]? = some b->r[j]? = l[b]? /\ b<l.length
 | [],r,h=>by cases h; exact⟨rfl,λj b hj=>wa⟩
 | b::mp,r,h=>by
  simp only[ly]at h
  split at h
  ·rename_i x U
   split at h
   ·rename_i y hy
    obtain⟨h1,X⟩:=JU hy
    grind
   ·cases h
  ·cases h
theorem JV{f:Nat->Option Nat}:∀ {l r:List de},oS f l=some r->r.length=l.length/\∀ (j:Nat) (x:de),l[j]? = some x->∃ y,r[j]? = some y/\VL f x=some y
 | [],r,h=>by cases h; exact⟨rfl,λj x hj=>wa⟩
 | b::l,r,h=>by
  simp only[oS]at h
  split at h
  ·rename_i b' J
   split at h
   ·rename_i r' hr
    obtain⟨h1,X⟩:=JV hr
    grind
   ·cases h
  ·cases h
def o7{α:Type}(mp:List Nat)(new:List α):Nat->List α->List α
 | _,[]=>[]
 | i,x::r=>(match pos mp i with | some j=>(match new[j]? with | some y=>y | none=>x) | none=>x)::o7 mp new (i+1) r
def jm{α:Type}(mp:List Nat)(old new:List α):List α:=o7 mp new 0 old++new.drop mp.length
theorem bh{α:Type}(mp:List Nat)(new:List α):∀ (l:List α) (i:Nat),(o7 mp new i l).length=l.length
 | [],_=>rfl
 | x::r,i=>by simp[o7,bh mp new r (i+1)]
theorem Vc{α:Type}(mp:List Nat)(new:List α):∀ (l:List α) (i k:Nat),(o7 mp new i l)[k]? = (l[k]?).map λx=>match pos mp (i+k)with | some j=>(match new[j]? with | some y=>y | none=>x) | none=>x
 | [],i,k=>by simp[o7]
 | x::r,i,0=>by simp[o7]
 | x::r,i,k+1=>by
  have:=Vc mp new r (i+1) k
  simp only[o7]
  grind
def fwd(mp:List Nat)(n:Nat)(j:Nat):Nat:=match mp[j]? with | some b=>b | none=>n+(j-mp.length)
theorem mj{α:Type}{mp:List Nat}{old new:List α}{i:Nat}(hi:i<old.length)(hp:pos mp i=none):(jm mp old new)[i]? = old[i]? := by
 unfold jm
 rw[zK (by rw[bh]; exact hi),Vc,qD,hp]
 simp
theorem EB{α:Type}{mp:List Nat}{old new:List α}(hn:cZ mp=true)(wO:∀ (j b:Nat),mp[j]? = some b->b<old.length)(hlen:mp.length<=new.length){j:Nat}(hj:j<new.length):(jm mp old new)[fwd mp old.length j]? = new[j]? := by
 unfold jm fwd
 cases hm:mp[j]? with
 | some b =>
  have J:=wO j b hm
  rw[zK (by rw[bh]; exact J),Vc,qD,pq hn hm]
  grind
 | none =>
  simp only
  rw[List.getElem?_append_right (by rw[bh]; omega),bh,List.getElem?_drop]
  grind
theorem Ld{α:Type}{mp:List Nat}{old new:List α}(wO:∀ (j b:Nat),mp[j]? = some b->b<old.length)(hlen:mp.length<=new.length){i:Nat}(hi:i<(jm mp old new).length) :
  (i<old.length/\pos mp i=none)\/∃ j,j<new.length/\i=fwd mp old.length j:=by
 by_cases h:i<old.length
 ·cases hp:pos mp i with
  | none=>grind
  | some j =>
   have:=tC hp
   have hj:=(Y.1 this).1
   exact .inr ⟨j,Z,by unfold fwd; rw[this]⟩
 ·have B:i<old.length+(new.length-mp.length):=by simpa[jm,bh]using hi
  refine .inr ⟨mp.length+(i-old.length),Z,?_⟩
  unfold fwd
  grind
end Go.AM
namespace Go.AM
set_option linter.unusedSectionVars false
variable [gB]
open Go.RowKit
section
variable {O:KS} {mp:List Nat}
theorem DP{dY l:List de}{p1:List (Option (Nat×Nat))}(hI:Inv O)(hn:cZ mp=true)(hp:ly O.ph mp=some p1)(B:ly O.st mp=some l)(hr:oS (pos mp) l=some dY) :
  Inv ⟨O.w,O.ok,p1,dY⟩/\Tr O ⟨O.w,O.ok,p1,dY⟩ (pos mp)/\dY.length=mp.length/\p1.length=mp.length/\∀ (j b:Nat),mp[j]? = some b->p1[j]? = O.ph[b]? /\ ∃ x y:de,O.st[b]? = some x/\VL (pos mp) x=some y/\dY[j]? = some y:=by
 obtain⟨a1,a2⟩:=JU hp
 obtain⟨b1,b2⟩:=JU B
 obtain⟨c1,c2⟩:=JV hr
 have key:∀ (j b:Nat),mp[j]? = some b->p1[j]? = O.ph[b]? /\ ∃ x y:de,O.st[b]? = some x/\VL (pos mp) x=some y/\dY[j]? = some y:=by
  grind
 have at':∀ {j:Nat} {y:de},dY[j]? = some y->∃ b,mp[j]? = some b:=λh=>by
  have:=(Y.1 h).1
  exact⟨_,zG (Z)⟩
 have hT:Tr O ⟨O.w,O.ok,p1,dY⟩ (pos mp):=by
  refine⟨rfl,rfl,λb j d hf J => ?_,λb j vk hf ho => ?_,λb j v e xs hf J => ?_⟩
  ·obtain⟨h1,x,y,X,h3,h4⟩:=key j b (tC hf)
   rw[J]at X
   cases X
   simp only[VL]at h3
   grind
  ·obtain⟨h1,x,y,X,h3,h4⟩:=key j b (tC hf)
   rcases ho with ho | ⟨v0,e0,VU,ho,hv⟩
   ·rw[ho]at X; cases X; cases h3; exact .inl h4
   ·rw[ho]at X; cases X; cases h3; exact .inr ⟨v0,e0,VU,h4,hv⟩
  ·obtain⟨h1,x,y,X,h3,h4⟩:=key j b (tC hf)
   rw[show dY[j]? = some (.arr v e xs)from J]at h4
   cases h4
   cases x with
   | dead=>cases h3
   | var d=>simp only[VL]at h3; split at h3<;>cases h3
   | arr v0 e0 VU=>cases h3; exact⟨X,h1⟩
 refine⟨⟨by show p1.length=dY.length; omega,hI.cq,λj blk n h => ?_,λj j' blk n n' h h' => ?_,λj y h => ?_,hI.gl⟩,hT,Z,a1,key⟩
 ·obtain⟨b,J⟩:∃ b,mp[j]? = some b:=⟨_,zG (by have:j<p1.length:=(Y.1 h).1; omega)⟩
  exact hI.apart b blk n ((a2 j b J).1.symm.trans h)
 ·obtain⟨b,J⟩:∃ b,mp[j]? = some b:=⟨_,zG (by have:j<p1.length:=(Y.1 h).1; omega)⟩
  obtain⟨b',KN⟩:∃ b,mp[j']? = some b:=⟨_,zG (by have:j'<p1.length:=(Y.1 h').1; omega)⟩
  have:=hI.inj b b' blk n n' ((a2 j b J).1.symm.trans h) ((a2 j' b' KN).1.symm.trans h')
  subst this
  exact Option.some.inj ((pq hn J).symm.trans (pq hn KN))
 ·obtain⟨b,J⟩:=at' h
  obtain⟨h1,x,y',X,h3,h4⟩:=key j b J
  rw[show dY[j]? = some y from h]at h4
  cases h4
  exact hT.blk h1 (hI.blk b x X) h3
theorem Y1{κ1:KS}{dY gC l:List de}{p1:List (Option (Nat×Nat))}(hI:Inv O)(hn:cZ mp=true)(hp:ly O.ph mp=some p1)(B:ly O.st mp=some l)(hr:oS (pos mp) l=some dY)
  (VZ:Inv κ1) (U:Ext ⟨O.w,O.ok,p1,dY⟩ κ1) (hr2:oS (λj=>some (fwd mp O.st.length j)) κ1.st=some gC) :
  ∃ E:KS,E.w=κ1.w/\E.st=jm mp O.st gC/\Inv E/\Ext O E/\Tr κ1 E (λj=>some (fwd mp O.st.length j)):=by
 obtain⟨hIs,hTs,s1,s2,key⟩:=DP hI hn hp B hr
 obtain⟨r1,r2⟩:=JV hr2
 have wO:∀ (j b:Nat),mp[j]? = some b->b<O.st.length:=λj b hj=>by obtain⟨_,x,_,h,_⟩:=key j b hj; exact(Y.1 h).1
 have zoM:∀ (j b:Nat),mp[j]? = some b->b<O.ph.length:=λj b hj=>by rw[hI.len]; exact wO j b hj
 have hm1:mp.length<=κ1.st.length:=by have:=U.Iq; simp only at this; omega
 have hm2:mp.length<=gC.length:=Z
 have KO:mp.length<=κ1.ph.length:=by rw[VZ.len]; exact hm1
 let fw:=fwd mp O.st.length
 have hlen:(jm mp O.ph κ1.ph).length=(jm mp O.st gC).length:=by simp[jm,bh,hI.len,VZ.len,r1]
 -- what lies where
 have cst:∀ {j:Nat} {x:de},κ1.st[j]? = some x->∃ y,(jm mp O.st gC)[fw j]? = some y/\VL (λj=>some (fw j)) x=some y:=by
  intro j x hj
  obtain⟨y,h1,X⟩:=r2 j x hj
  exact⟨y,by rw[EB hn wO hm2 (by rw[r1]; exact(Y.1 hj).1)]; exact h1,X⟩
 have cph:∀ {j:Nat},j<κ1.st.length->(jm mp O.ph κ1.ph)[fw j]? = κ1.ph[j]? := by
  intro j hj
  have:=EB (old:=O.ph) (new:=κ1.ph) hn zoM KO (j:=j) (by rw[VZ.len]; exact hj)
  rw[hI.len]at this
  exact this
 have ust:∀ {i:Nat},i<O.st.length->pos mp i=none->(jm mp O.st gC)[i]? = O.st[i]? := λhi h=>mj hi h
 have uph:∀ {i:Nat},i<O.st.length->pos mp i=none->(jm mp O.ph κ1.ph)[i]? = O.ph[i]? := λhi h=>mj (by rw[hI.len]; exact hi) h
 have Jq:∀ {i:Nat},i<(jm mp O.st gC).length->(i<O.st.length/\pos mp i=none)\/∃ j,j<κ1.st.length/\i=fw j:=by
  intro i hi
  rcases Ld wO hm2 hi with h | ⟨j,h1,X⟩
  ·grind
  ·grind
 have Sv:∀ {j b:Nat},mp[j]? = some b->fw j=b:=λh=>by simp only[fw,fwd,h]
 have zsH:∀ {j:Nat},mp[j]? = none->O.st.length<=fw j:=λh=>by simp only[fw,fwd,h]; omega
 -- the part's own blocks
 have sph:∀ {j:Nat} {q:Nat×Nat},p1[j]? = some (some q)->∃ b,mp[j]? = some b/\O.ph[b]? = some (some q):=by
  intro j q h
  have hj:=(Y.1 h).1
  obtain⟨b,J⟩:∃ b,mp[j]? = some b:=⟨_,zG (Z)⟩
  grind
 have hT:Tr κ1 ⟨κ1.w,κ1.ok,jm mp O.ph κ1.ph,jm mp O.st gC⟩ (λj=>some (fw j)):=by
  refine⟨rfl,rfl,λj b d hf hj => ?_,λj b vk hf ho => ?_,λj b v e xs hf J => ?_⟩
  ·cases hf
   obtain⟨y,h1,X⟩:=cst hj
   simp only[VL]at X
   grind
  ·cases hf
   rcases ho with ho | ⟨v0,e0,VU,ho,hv⟩
   ·obtain⟨y,h1,X⟩:=cst ho; cases X; exact .inl h1
   ·obtain⟨y,h1,X⟩:=cst ho; cases X; exact .inr ⟨v0,e0,VU,h1,hv⟩
  ·cases hf
   have J:(jm mp O.st gC)[fw j]? = some (.arr v e xs):=J
   have Ke:=(Y.1 J).1
   have hj:j<κ1.st.length:=by
    by_cases hj:j<κ1.st.length
    ·exact hj
    ·exfalso
     cases hm:mp[j]? with
     | some c=>have:=(Y.1 hm).1; omega
     | none =>
      have h3:fw j=O.st.length+(j-mp.length):=by simp only[fw,fwd,hm]
      have h4:(jm mp O.st gC).length=O.st.length+(gC.length-mp.length):=by simp[jm,bh]
      omega
   obtain⟨y,h1,X⟩:=cst (zG hj)
   rw[J]at h1
   cases h1
   refine⟨?_,cph hj⟩
   rw[zG hj]
   generalize κ1.st[j]=x at X
   cases x with
   | dead=>cases X
   | var d=>simp only[VL]at X; split at X<;>cases X
   | arr v0 e0 VU=>cases X; rfl
 -- Cl blocks lie as they lay
 have Cl:∀ {i blk n:Nat},pos mp i=none->O.ph[i]? = some (some (blk,n))->κ1.w.heap[blk]? = O.w.heap[blk]? := by
  intro i blk n hi h
  obtain⟨g1,g2⟩:=hI.apart i blk n h
  refine U.frame blk g1 λj m hj => ?_
  obtain⟨b,IU,Fk⟩:=sph hj
  have:=hI.inj i b blk n m h Fk
  subst this
  rw[pq hn IU]at hi
  cases hi
 have hE:Ext O ⟨κ1.w,κ1.ok,jm mp O.ph κ1.ph,jm mp O.st gC⟩:=by
  refine⟨U.os,U.tape,U.output,U.size,U.same,λk hk => ?_,λi blk n h => ?_,λi d hi => ?_,λi v0 e VU hi => ?_,λi hi => ?_,?_,λk hk TZ => ?_⟩
  ·rcases U.fresh k hk with h | h | ⟨j,n,h⟩
   ·exact .inl h
   ·exact .inr (.inl h)
   ·obtain⟨b,_,J⟩:=sph h; exact .inr (.inr ⟨b,n,J⟩)
  ·have h:(jm mp O.ph κ1.ph)[i]? = some (some (blk,n)):=h
   have HJ:i<(jm mp O.st gC).length:=by rw[<- hlen]; exact(Y.1 h).1
   rcases Jq HJ with⟨h1,X⟩ | ⟨j,h1,rfl⟩
   ·rw[uph h1 X]at h; exact .inl h
   ·rw[cph h1]at h
    rcases U.phs j blk n h with h3 | h3
    ·obtain⟨b,IU,Fk⟩:=sph h3
     rw[Sv IU]; exact .inl Fk
    ·exact .inr h3
  ·have SF:=(Y.1 hi).1
   cases Ed:pos mp i with
   | none=>exact⟨⟨d,(ust SF Ed).trans hi⟩,uph SF Ed⟩
   | some j =>
    have hmj:=tC Ed
    obtain⟨k1,x,y,k2,k3,k4⟩:=key j i hmj
    rw[hi]at k2
    cases k2
    simp only[VL]at k3
    split at k3
    ·cases k3
     obtain⟨⟨d',g1⟩,g2⟩:=U.var j _ k4
     obtain⟨⟨d'',q1⟩,q2⟩:=hT.var j (fw j) d' rfl g1
     rw[Sv hmj]at q1 q2
     exact⟨⟨d'',q1⟩,q2.trans (g2.trans k1)⟩
    ·cases k3
  ·have SF:=(Y.1 hi).1
   cases Ed:pos mp i with
   | none=>exact .inr ⟨v0,VU,(ust SF Ed).trans hi,zJ _,λ_=>⟨uph SF Ed,rfl⟩⟩
   | some j =>
    have hmj:=tC Ed
    obtain⟨k1,x,y,k2,k3,k4⟩:=key j i hmj
    rw[hi]at k2
    cases k2
    cases k3
    rcases U.arr j v0 e VU k4 with g | ⟨v1,xs1,g1,g2,g3⟩
    ·obtain⟨y,q1,q2⟩:=cst g
     cases q2
     rw[Sv hmj]at q1
     exact .inl q1
    ·obtain⟨y,q1,q2⟩:=cst g1
     cases q2
     rw[Sv hmj]at q1
     refine .inr ⟨v1,xs1,q1,g2,λhe=>⟨?_,(g3 he).2⟩⟩
     have h4:=cph (Y.1 g1).1
     rw[Sv hmj]at h4
     exact h4.trans ((g3 he).1.trans k1)
  ·have SF:=(Y.1 hi).1
   cases Ed:pos mp i with
   | none=>exact(ust SF Ed).trans hi
   | some j =>
    have hmj:=tC Ed
    obtain⟨k1,x,y,k2,k3,k4⟩:=key j i hmj
    rw[hi]at k2
    cases k2
    cases k3
    obtain⟨y,q1,q2⟩:=cst (U.dead j k4)
    cases q2
    rw[Sv hmj]at q1
    exact q1
  ·show O.st.length<=(jm mp O.st gC).length
   simp[jm,bh]
  ·exact U.frame k hk λj n hj=>by obtain⟨b,_,J⟩:=sph hj; exact TZ b n J
 refine⟨⟨κ1.w,κ1.ok,jm mp O.ph κ1.ph,jm mp O.st gC⟩,rfl,rfl,⟨hlen,VZ.cq,λi blk n h => ?_,λi i' blk n n' h h' => ?_,λi y h => ?_,VZ.gl⟩,hE,hT⟩
 ·have h:(jm mp O.ph κ1.ph)[i]? = some (some (blk,n)):=h
  have HJ:i<(jm mp O.st gC).length:=by rw[<- hlen]; exact(Y.1 h).1
  rcases Jq HJ with⟨h1,X⟩ | ⟨j,h1,rfl⟩
  ·rw[uph h1 X]at h
   obtain⟨g1,g2⟩:=hI.apart i blk n h
   refine⟨Nat.lt_of_lt_of_le g1 U.size,λhk => ?_⟩
   rcases U.fresh blk hk with hk | hk | ⟨j,m,hj⟩
   ·exact g2 hk
   ·simp only at hk; omega
   ·obtain⟨b,IU,Fk⟩:=sph hj
    have:=hI.inj i b blk n m h Fk
    subst this
    rw[pq hn IU]at X
    cases X
  ·rw[cph h1]at h
   exact VZ.apart j blk n h
 ·have h:(jm mp O.ph κ1.ph)[i]? = some (some (blk,n)):=h
  have h':(jm mp O.ph κ1.ph)[i']? = some (some (blk,n')):=h'
  have z1E:i<(jm mp O.st gC).length:=by rw[<- hlen]; exact(Y.1 h).1
  have M1:i'<(jm mp O.st gC).length:=by rw[<- hlen]; exact(Y.1 h').1
  have mixed:∀ {i j n n':Nat},i<O.st.length->pos mp i=none->j<κ1.st.length->O.ph[i]? = some (some (blk,n))->κ1.ph[j]? = some (some (blk,n'))->False:=by
   intro i j n n' h1 X h3 h4 h5
   rcases U.phs j blk n' h5 with h6 | h6
   ·obtain⟨b,IU,Fk⟩:=sph h6
    have:=hI.inj i b blk n n' h4 Fk
    subst this
    rw[pq hn IU]at X
    cases X
   ·have:=(hI.apart i blk n h4).1
    simp only at h6
    omega
  rcases Jq z1E with⟨h1,X⟩ | ⟨j,h1,rfl⟩
  ·rw[uph h1 X]at h
   rcases Jq M1 with⟨h3,h4⟩ | ⟨j',h3,rfl⟩
   ·rw[uph h3 h4]at h'; exact hI.inj i i' blk n n' h h'
   ·rw[cph h3]at h'; exact(mixed h1 X h3 h h').elim
  ·rw[cph h1]at h
   rcases Jq M1 with⟨h3,h4⟩ | ⟨j',h3,rfl⟩
   ·rw[uph h3 h4]at h'; exact(mixed h3 h4 h1 h' h).elim
   ·rw[cph h3]at h'
    rw[VZ.inj j j' blk n n' h h']
 ·have h:(jm mp O.st gC)[i]? = some y:=h
  rcases Jq (Y.1 h).1 with⟨h1,X⟩ | ⟨j,h1,rfl⟩
  ·rw[ust h1 X]at h
   exact(hI.blk i y h).mono hE (uph h1 X) λblk n J=>Cl X J
  ·obtain⟨z,q1,q2⟩:=cst (zG h1)
   rw[h]at q1
   cases q1
   exact hT.blk (cph h1) (VZ.blk j _ (zG h1)) q2
end
end Go.AM
namespace Go.AM
set_option linter.unusedSectionVars false
variable [gB]
open Go.RowKit
inductive AK where
 | any | cur | sub | ptr | wj (f:Nat) | agg
structure bC where
 ks:List AK
 sh:uz
 dR:List Gh
 out:uz
 nr:Nat
 F:sh.den->T out.den
def BX(fr:Fr):Nat->Nat->Option (List D)
 | 0,_=>some []
 | n+1,i=>match fr.get i with
  | some d=>match BX fr n (i+1)with | some r=>some (d::r) | none=>none
  | none=>none
def pD(nr:Nat)(fr:Fr):Option (List D):=BX fr nr 0
def z3r:List (Nat×Nat)->List D->Nat->Option Nat
 | p::r,.ptr b' _::ds,b=>bif W p.1 b then some b' else z3r r ds b
 | _,_,_=>none
def ziq(b:Nat):Ck->D->Option Nat
 | .ptr c _,.ptr b' _=>bif W c b then some b' else none
 | .cur c _,.ms b' _ _ _ _=>bif W c b then some b' else none
 | .wj _ l,.wj _ ds=>z3r l ds b
 | .gj c,.gj b'=>bif W c b then some b' else none
 | _,_=>none
def ze8(fr:Fr)(b:Nat):List (Nat×Ck)->Option Nat
 | []=>none
 | (s,k)::r=>match fr.get s with
  | some d=>match ziq b k d with | some b'=>some b' | none=>ze8 fr b r
  | none=>ze8 fr b r
def I4(b:Nat):List Mc->List D->Option Nat
 | .pt c::r,.ptr b' _::ds=>bif W c b then some b' else I4 b r ds
 | .pt _::r,_::ds=>I4 b r ds
 | .im _::r,_::ds=>I4 b r ds
 | .rp _::r,_::ds=>I4 b r ds
 | _,_=>none
def UT(b:Nat):List Sk->List D->Option Nat
 | .im τ::r,ds=>UT b r (ds.drop τ.size)
 | .row c _::r,.ms b' _ _ _ _::ds=>bif W c b then some b' else UT b r ds
 | .row _ _::r,_::ds=>UT b r ds
 | .op c _::r,.eN b' _::ds=>bif W c b then some b' else UT b r ds
 | .op _ _::r,_::ds=>UT b r ds
 | .un::r,_::ds=>UT b r ds
 | .nl::r,_::ds=>UT b r ds
 | _,_=>none
def Kq(fr:Fr)(b:Nat):List It->Option Nat
 | []=>none
 | .s s (.mclo _ ms)::r=>match fr.get s with
  | some (.wj _ l)=>match I4 b ms l with | some b'=>some b' | none=>Kq fr b r
  | _=>Kq fr b r
 | .s s (.sub c _)::r=>match fr.get s with
  | some (.ms b' _ _ _ _)=>bif W c b then some b' else Kq fr b r
  | _=>Kq fr b r
 | .s s (.st ks)::r=>match fr.get s with
  | some d=>match UT b ks (wb d)with | some b'=>some b' | none=>Kq fr b r
  | none=>Kq fr b r
 | _::r=>Kq fr b r
def Ti(st:St)(b:Nat):List Bk->List (Option Nat)->Option Nat
 | .cvar k::r,some p::ps=>match st[p]? with
  | some (.var d)=>match ziq b k d with | some b'=>some b' | none=>Ti st b r ps
  | _=>Ti st b r ps
 | .var (.st ks)::r,some p::ps=>match st[p]? with
  | some (.var d)=>match UT b ks (wb d)with | some b'=>some b' | none=>Ti st b r ps
  | _=>Ti st b r ps
 | _::r,_::ps=>Ti st b r ps
 | _,_=>none
def Te(sh:uz)(fr:Fr):Nat->List Bk->List (Option Nat)
 | _,[]=>[]
 | b,_::r=>(match ze8 fr b sh.cs with | some b'=>some b' | none=>Kq fr b sh.gy)::Te sh fr (b+1) r
def Tf(sh:uz)(st:St)(m:List (Option Nat)):Nat->List (Option Nat)->List (Option Nat)
 | _,[]=>[]
 | b,some b'::r=>some b'::Tf sh st m (b+1) r
 | b,none::r=>Ti st b sh.bs m::Tf sh st m (b+1) r
def Ep:List (Option Nat)->Option (List Nat)
 | []=>some []
 | some b::r=>match Ep r with | some l=>some (b::l) | none=>none
 | none::_=>none
def mapOf(sh:uz)(fr:Fr)(st:St):Option (List Nat):=let m:=Te sh fr 0 sh.bs
 let m:=Tf sh st m 0 m
 Ep (Tf sh st m 0 m)
def bC.back(d:bC)(mp:List Nat)(st:St)(y:d.out.den):T (Hj×St):=match pD d.nr (d.out.fr y),oS (λj=>some (fwd mp st.length j)) (d.out.st y)with
 | some ds,some gC=>match XL (λj=>some (fwd mp st.length j)) ds with
  | some CR=>.ret (.ret CR,jm mp st gC)
  | none=>.fail
 | _,_=>.fail
def bC.inner(d:bC)(mp:List Nat)(fr:Fr)(st:St):T (Hj×St):=match ly st mp with
 | none=>.fail
 | some l=>match oS (pos mp) l with
  | none=>.fail
  | some dY=>(d.sh.un (V0 (pos mp) fr) dY).bind λx=>(d.F x).bind λy=>d.back mp st y
def bC.S(d:bC)(args:List D)(st:St):T (Hj×St) :=
 match mapOf d.sh (gh d.dR (yK args 0) st).1 (gh d.dR (yK args 0) st).2 with
 | none=>.fail
 | some mp=>bif cZ mp&&zM mp.length d.sh.bs.length&&W args.length d.ks.length then d.inner mp (gh d.dR (yK args 0) st).1 (gh d.dR (yK args 0) st).2 else .fail
def bC.QB{α:Type}(d:bC)(mp:List Nat)(st:St)(y:d.out.den)(k:List D->St->T α):T α:=match pD d.nr (d.out.fr y),oS (λj=>some (fwd mp st.length j)) (d.out.st y)with
 | some ds,some gC=>match XL (λj=>some (fwd mp st.length j)) ds with
  | some CR=>k CR (jm mp st gC)
  | none=>.fail
 | _,_=>.fail
def bC.Xs{α:Type}(d:bC)(mp:List Nat)(fr:Fr)(st:St)(k:List D->St->T α):T α:=match ly st mp with
 | none=>.fail
 | some l=>match oS (pos mp) l with
  | none=>.fail
  | some dY=>(d.sh.un (V0 (pos mp) fr) dY).bind λx=>(d.F x).bind λy=>d.QB mp st y k
def bC.K{α:Type}(d:bC)(args:List D)(st:St)(k:List D->St->T α):T α :=
 match mapOf d.sh (gh d.dR (yK args 0) st).1 (gh d.dR (yK args 0) st).2 with
 | none=>.fail
 | some mp=>bif cZ mp&&zM mp.length d.sh.bs.length&&W args.length d.ks.length then d.Xs mp (gh d.dR (yK args 0) st).1 (gh d.dR (yK args 0) st).2 k else .fail
theorem bC.z0a{α:Type}{d:bC}{args:List D}{st:St}{k:List D->St->T α}{r:α}(h:(d.K args st k).leads r):∃ ds qm,(d.S args st).leads (.ret ds,qm)/\(k ds qm).leads r:=by
 unfold bC.K at h
 unfold bC.S
 split at h
 ·exact h.elim
 ·rename_i mp KO
  cases hc:cZ mp&&zM mp.length d.sh.bs.length&&W args.length d.ks.length with
  | false=>rw[hc]at h; exact h.elim
  | true =>
   rw[hc,cond_true]at h
   unfold bC.Xs at h
   unfold bC.inner
   split at h
   ·exact h.elim
   ·rename_i l B
    split at h
    ·exact h.elim
    ·rename_i dY hst1
     obtain⟨x,h1,h⟩:=T.zg.1 h
     obtain⟨y,X,h⟩:=T.zg.1 h
     unfold bC.QB at h
     split at h
     ·rename_i ds gC e1 e2
      split at h
      ·rename_i CR e3
       refine⟨CR,_,T.zg.2 ⟨x,h1,T.zg.2 ⟨y,X,?_⟩⟩,h⟩
       unfold bC.back
       simp only[e1,e2,e3]
       rfl
      ·exact h.elim
     ·exact h.elim
def cV(Dr:z08)(g:Nat)(d:bC):Prop:=∀ (O:KS) (x:d.sh.den) (xa:List Value) (y:d.out.den),O.st=d.sh.st x->(d.F x).leads y->Inv O->xa.length=d.ks.length ->
 Rel O xa.length (d.sh.fr x).get { tmps:=xa.toArray,defers:=[] } ->
 Dr g xa.toArray O.w λe w'=>∃ (E:KS) (ds:List D),E.w=w'/\E.st=d.out.st y/\Inv E/\Ext O E/\pD d.nr (d.out.fr y)=some ds/\jl E (.ret ds) e
def xx(P:Program)(g:Nat)(d:bC):Prop:=∀ (O:KS) (x:d.sh.den) (xa:List Value) (y:d.out.den),O.st=d.sh.st x->(d.F x).leads y->Inv O->xa.length=d.ks.length ->
 Rel O xa.length (d.sh.fr x).get { tmps:=xa.toArray,defers:=[] } ->
 gO P g xa.toArray O.w λe w'=>∃ (E:KS) (ds:List D),E.w=w'/\E.st=d.out.st y/\Inv E/\Ext O E/\pD d.nr (d.out.fr y)=some ds/\jl E (.ret ds) e
theorem DT{O E:KS}{f:Nat->Option Nat}(h:Tr O E f){ds CR:List D}{v:Value}(V:RD O (ft ds) v)(hr:XL f ds=some CR):RD E (ft CR) v:=by
 match ds,hr with
 | [],hr =>
  cases hr
  cases V with
  | eZ _ vs B hh =>
   obtain rfl:vs=[]:=zY B.symm
   exact .eZ [] [] rfl (λi h=>absurd h (qN i))
 | [d],hr =>
  simp only[XL]at hr
  split at hr
  ·rename_i d' h1
   cases hr
   exact h.rd V h1
  ·cases hr
 | d::e::r,hr =>
  cases V with
  | eZ _ vs B hh =>
   have hR:=h.rds (⟨B,hh⟩:wQ O (d::e::r) vs) hr
   simp only[XL]at hr
   split at hr
   ·split at hr
    ·rename_i r' X
     cases hr
     split at X
     ·split at X
      ·cases X; exact .eZ _ vs hR.1 hR.2
      ·cases X
     ·cases X
    ·cases hr
   ·cases hr
theorem Qm{α β:Type}{l:List α}{m:List β}(h:l.length=m.length):∀ {mp:List Nat} {r:List α},ly l mp=some r->∃ q,ly m mp=some q
 | [],_,_=>⟨[],rfl⟩
 | b::mp,r,hr=>by
  simp only[ly]at hr
  split at hr
  ·rename_i x U
   split at hr
   ·rename_i y hy
    obtain⟨q,hq⟩:=Qm h hy
    have J:b<m.length:=by have:=(Y.1 U).1; omega
    exact⟨m[b]::q,by simp only[ly,zG J,hq]⟩
   ·cases hr
  ·cases hr
theorem bC.zet{Dr:z08}(zhr:∀ {g a w} {oE R':Ending->World->Prop},Dr g a w oE->(∀ e w',oE e w'->R' e w')->Dr g a w R'){g:Nat}{d:bC}(h:cV Dr g d):znh Dr g d.S:=by
 intro O args xa rs qm B hI ha
 have hR0:Rel O xa.length (yK args 0).get { tmps:=xa.toArray,defers:=[] }:=by
  have:=Y0 (n:=xa.length) ha (by rw[ha.1]; exact zJ _)
  simpa[show(B8.df:List Deferred)=[]from rfl]using this
 obtain⟨κ0,w1,w2,w3,w4,w5⟩:=tp d.dR (yK args 0) O hI hR0
 unfold bC.S at B
 rw[<- w2]at B
 split at B
 ·exact B.elim
 ·rename_i mp KO
  cases hc:cZ mp&&zM mp.length d.sh.bs.length&&W args.length d.ks.length with
  | false=>rw[hc]at B; exact B.elim
  | true =>
   rw[hc,cond_true]at B
   simp only[I]at hc
   obtain⟨⟨hn,hle⟩,hlen⟩:=hc
   unfold bC.inner at B
   split at B
   ·exact B.elim
   ·rename_i l YX
    split at B
    ·exact B.elim
    ·rename_i dY hst1
     obtain⟨x,h1,B⟩:=T.zg.1 B
     obtain⟨y,X,B⟩:=T.zg.1 B
     obtain⟨p1,hpp⟩:=Qm (m:=κ0.ph) w3.len.symm YX
     obtain⟨s1,s2,s3,s4,s5⟩:=DP w3 hn hpp YX hst1
     have Bv:Rel ⟨κ0.w,κ0.ok,p1,dY⟩ xa.length (V0 (pos mp) (gh d.dR (yK args 0) O.st).1).get { tmps:=xa.toArray,defers:=[] } :=
      ⟨w5.size,w5.defers,λs d' V=>by
       obtain⟨d0,q1,q2⟩:=Wx V
       obtain⟨v,q3,q4⟩:=w5.get s d0 q1
       exact⟨v,q3,s2.rd q4 q2⟩⟩
     obtain⟨κ2,u1,u2,u3,u4,u5,_⟩:=d.sh.KD (κ0:=⟨κ0.w,κ0.ok,p1,dY⟩) (O:=⟨κ0.w,κ0.ok,p1,dY⟩) (Ext.refl _) s1 Bv (by show dY.length<=_; rw[s3]; exact zE hle) h1
     have hw:κ2.w=O.w:=u1.trans w1
     have hdo:=h κ2 x xa y u2 X u3 (by rw[<- ha.1]; exact zA hlen) u5
     rw[hw]at hdo
     refine zhr hdo ?_
     rintro e w' ⟨κ3,ds,rfl,g1,g2,g3,g4,v,rfl,g5⟩
     unfold bC.back at B
     rw[g4,<- g1]at B
     split at B
     ·rename_i ds0 gC e1 e2
      cases e1
      split at B
      ·rename_i CR hds'
       cases B
       obtain⟨E,k1,k2,k3,k4,k5⟩:=Y1 w3 hn hpp YX hst1 g2 (u4.trans g3) e2
       exact⟨E,k1,k2,k3,w4.trans k4,v,rfl,DT k5 g5 hds'⟩
      ·exact B.elim
     ·exact B.elim
theorem bC.snd{P:Program}{g:Nat}{d:bC}(h:xx P g d):E8 P g d.S:=bC.zet (Dr:=gO P) gO.mono h
structure me where
 ks:List AK
 sh:uz
 dR:List Gh
 out:uz
 nr:Nat
 pt:Nat
 bE:uz
 two:Option Nat
 F:sh.den->T (out.den⊕bE.den)
abbrev me.s(d:me):bC:=⟨d.ks,d.sh,d.dR,d.out,d.nr,λ_=>.fail⟩
abbrev me.s2(d:me)(n:Nat):bC:=⟨d.ks,d.sh,d.dR,d.bE,n,λ_=>.fail⟩
def me.z3Q{α:Type}(d:me)(mp:List Nat)(st:St)(z:d.bE.den)(kp:D->St->T α):T α:=match(d.bE.fr z).get 0,oS (λj=>some (fwd mp st.length j)) (d.bE.st z)with
 | some (.qi τ x),some gC=>kp (.iface d.pt (.qi τ x)) (jm mp st gC)
 | _,_=>.fail
def me.N5{α:Type}(d:me)(mp:List Nat)(st:St)(z:d.bE.den)(k:List D->St->T α)(kp:D->St->T α):T α:=match d.two with
 | none=>d.z3Q mp st z kp
 | some n=>(d.s2 n).QB mp st z k
def me.Xs{α:Type}(d:me)(mp:List Nat)(fr:Fr)(st:St)(k:List D->St->T α)(kp:D->St->T α):T α:=match ly st mp with
 | none=>.fail
 | some l=>match oS (pos mp) l with
  | none=>.fail
  | some dY=>(d.sh.un (V0 (pos mp) fr) dY).bind λx=>(d.F x).bind (Sum.elim (λy=>d.s.QB mp st y k) (λz=>d.N5 mp st z k kp))
def me.K{α:Type}(d:me)(args:List D)(st:St)(k:List D->St->T α)(kp:D->St->T α):T α :=
 match mapOf d.sh (gh d.dR (yK args 0) st).1 (gh d.dR (yK args 0) st).2 with
 | none=>.fail
 | some mp=>bif cZ mp&&zM mp.length d.sh.bs.length&&W args.length d.ks.length then d.Xs mp (gh d.dR (yK args 0) st).1 (gh d.dR (yK args 0) st).2 k kp else .fail
def me.S(d:me)(args:List D)(st:St):T (Hj×St):=d.K args st (λds qm=>.ret (.ret ds,qm)) (λp qm=>.ret (.bE p,qm))
theorem me.z0a{α:Type}{d:me}{args:List D}{st:St}{k:List D->St->T α}{kp:D->St->T α}{r:α}(h:(d.K args st k kp).leads r) :
  (∃ ds qm,(d.S args st).leads (.ret ds,qm)/\(k ds qm).leads r)\/∃ p qm,(d.S args st).leads (.bE p,qm)/\(kp p qm).leads r:=by
 unfold me.K at h
 unfold me.S me.K
 split at h
 ·exact h.elim
 ·rename_i mp KO
  cases hc:cZ mp&&zM mp.length d.sh.bs.length&&W args.length d.ks.length with
  | false=>rw[hc]at h; exact h.elim
  | true =>
   rw[hc,cond_true]at h
   unfold me.Xs at h
   unfold me.Xs
   split at h
   ·exact h.elim
   ·rename_i l B
    split at h
    ·exact h.elim
    ·rename_i dY hst1
     obtain⟨x,h1,h⟩:=T.zg.1 h
     obtain⟨y,X,h⟩:=T.zg.1 h
     cases y with
     | inl y =>
      simp at h
      unfold bC.QB at h
      split at h
      ·rename_i ds gC e1 e2
       split at h
       ·rename_i CR e3
        refine .inl ⟨CR,_,T.zg.2 ⟨x,h1,T.zg.2 ⟨.inl y,X,?_⟩⟩,h⟩
        simp
        unfold bC.QB
        simp only[e1,e2,e3]
        rfl
       ·exact h.elim
      ·exact h.elim
     | inr z =>
      simp at h
      unfold me.N5 at h
      split at h
      ·rename_i h0
       unfold me.z3Q at h
       split at h
       ·rename_i τ p gC e1 e2
        refine .inr ⟨_,_,T.zg.2 ⟨x,h1,T.zg.2 ⟨.inr z,X,?_⟩⟩,h⟩
        simp
        unfold me.N5 me.z3Q
        simp only[h0,e1,e2]
        rfl
       ·exact h.elim
      ·rename_i n h0
       unfold bC.QB at h
       split at h
       ·rename_i ds gC e1 e2
        split at h
        ·rename_i CR e3
         refine .inl ⟨CR,_,T.zg.2 ⟨x,h1,T.zg.2 ⟨.inr z,X,?_⟩⟩,h⟩
         simp
         unfold me.N5 bC.QB
         simp only[h0,e1,e2,e3]
         rfl
        ·exact h.elim
       ·exact h.elim
def jK(P:Program)(g:Nat)(d:me):Prop:=∀ (O:KS) (x:d.sh.den) (xa:List Value) (r:d.out.den⊕d.bE.den),O.st=d.sh.st x->(d.F x).leads r->Inv O->xa.length=d.ks.length ->
 Rel O xa.length (d.sh.fr x).get { tmps:=xa.toArray,defers:=[] } ->
 gO P g xa.toArray O.w λe w'=>∃ E:KS,E.w=w'/\Inv E/\Ext O E /\
  ((∃ (y:d.out.den) (ds:List D),r=.inl y/\E.st=d.out.st y/\pD d.nr (d.out.fr y)=some ds/\jl E (.ret ds) e) \/
   (d.two=none/\∃ (z:d.bE.den) (p:D),r=.inr z/\E.st=d.bE.st z/\(d.bE.fr z).get 0=some p/\jl E (.bE (.iface d.pt p)) e) \/
   ∃ (n:Nat) (z:d.bE.den) (ds:List D),d.two=some n/\r=.inr z/\E.st=d.bE.st z/\pD n (d.bE.fr z)=some ds/\jl E (.ret ds) e)
theorem me.snd{P:Program}{g:Nat}{d:me}(h:jK P g d):E8 P g d.S:=by
 intro O args xa rs qm B hI ha
 have hR0:Rel O xa.length (yK args 0).get { tmps:=xa.toArray,defers:=[] }:=by
  have:=Y0 (n:=xa.length) ha (by rw[ha.1]; exact zJ _)
  simpa[show(B8.df:List Deferred)=[]from rfl]using this
 obtain⟨κ0,w1,w2,w3,w4,w5⟩:=tp d.dR (yK args 0) O hI hR0
 unfold me.S me.K at B
 rw[<- w2]at B
 split at B
 ·exact B.elim
 ·rename_i mp KO
  cases hc:cZ mp&&zM mp.length d.sh.bs.length&&W args.length d.ks.length with
  | false=>rw[hc]at B; exact B.elim
  | true =>
   rw[hc,cond_true]at B
   simp only[I]at hc
   obtain⟨⟨hn,hle⟩,hlen⟩:=hc
   unfold me.Xs at B
   split at B
   ·exact B.elim
   ·rename_i l YX
    split at B
    ·exact B.elim
    ·rename_i dY hst1
     obtain⟨x,h1,B⟩:=T.zg.1 B
     obtain⟨y,X,B⟩:=T.zg.1 B
     obtain⟨p1,hpp⟩:=Qm (m:=κ0.ph) w3.len.symm YX
     obtain⟨s1,s2,s3,s4,s5⟩:=DP w3 hn hpp YX hst1
     have Bv:Rel ⟨κ0.w,κ0.ok,p1,dY⟩ xa.length (V0 (pos mp) (gh d.dR (yK args 0) O.st).1).get { tmps:=xa.toArray,defers:=[] } :=
      ⟨w5.size,w5.defers,λs d' V=>by
       obtain⟨d0,q1,q2⟩:=Wx V
       obtain⟨v,q3,q4⟩:=w5.get s d0 q1
       exact⟨v,q3,s2.rd q4 q2⟩⟩
     obtain⟨κ2,u1,u2,u3,u4,u5,_⟩:=d.sh.KD (κ0:=⟨κ0.w,κ0.ok,p1,dY⟩) (O:=⟨κ0.w,κ0.ok,p1,dY⟩) (Ext.refl _) s1 Bv (by show dY.length<=_; rw[s3]; exact zE hle) h1
     have hw:κ2.w=O.w:=u1.trans w1
     have hdo:=h κ2 x xa y u2 X u3 (by rw[<- ha.1]; exact zA hlen) u5
     rw[hw]at hdo
     refine hdo.mono ?_
     rintro e w' ⟨κ3,rfl,g2,g3,⟨y,ds,rfl,g1,g4,v,rfl,g5⟩ | ⟨g0,z,p,rfl,g1,g4,v,rfl,g5⟩ | ⟨n2,z,ds,g0,rfl,g1,g4,v,rfl,g5⟩⟩
     ·simp only[Sum.elim_inl]at B
      unfold bC.QB at B
      rw[show pD d.s.nr (d.s.out.fr y)=some ds from g4,show d.s.out.st y=κ3.st from g1.symm]at B
      split at B
      ·rename_i ds0 gC e1 e2
       cases e1
       split at B
       ·rename_i CR hds'
        cases B
        obtain⟨E,k1,k2,k3,k4,k5⟩:=Y1 w3 hn hpp YX hst1 g2 (u4.trans g3) e2
        exact⟨E,k1,k2,k3,w4.trans k4,v,rfl,DT k5 g5 hds'⟩
       ·exact B.elim
      ·exact B.elim
     ·simp only[Sum.elim_inr]at B
      unfold me.N5 at B
      rw[g0]at B
      simp only at B
      unfold me.z3Q at B
      rw[g4,<- g1]at B
      split at B
      ·rename_i τ q gC e1 e2
       cases e1
       cases B
       obtain⟨E,k1,k2,k3,k4,k5⟩:=Y1 w3 hn hpp YX hst1 g2 (u4.trans g3) e2
       refine⟨E,k1,k2,k3,w4.trans k4,v,rfl,?_⟩
       cases g5 with
       | iface _ _ u hu=>exact .iface _ _ u (k5.rd hu rfl)
      ·exact B.elim
     ·simp only[Sum.elim_inr]at B
      unfold me.N5 at B
      rw[g0]at B
      simp only at B
      unfold bC.QB at B
      rw[show pD (d.s2 n2).nr ((d.s2 n2).out.fr z)=some ds from g4,show(d.s2 n2).out.st z=κ3.st from g1.symm]at B
      split at B
      ·rename_i ds0 gC e1 e2
       cases e1
       split at B
       ·rename_i CR hds'
        cases B
        obtain⟨E,k1,k2,k3,k4,k5⟩:=Y1 w3 hn hpp YX hst1 g2 (u4.trans g3) e2
        exact⟨E,k1,k2,k3,w4.trans k4,v,rfl,DT k5 g5 hds'⟩
       ·exact B.elim
      ·exact B.elim
end Go.AM
namespace Go.AM
def CZ(sh:uz)(dR:List Gh)(args:List D)(st:St):List Nat:=bif dR.isEmpty then match mapOf sh (yK args 0) st with | some mp=>others st.length mp | none=>[]else[]
def bC.free(d:bC)(args:List D)(st:St):List Nat:=CZ d.sh d.dR args st
def me.free(d:me)(args:List D)(st:St):List Nat:=CZ d.sh d.dR args st
theorem FY{m b:Nat}{l:List Nat}(h:b∈others m l):b<m/\∀ x∈l,b≠x:=by
 simp only[others,List.mem_filter,List.mem_range,qF,List.any_eq_false]at h
 exact⟨h.1,λx U e=>by subst e; exact h.2 b U (qS _)⟩
theorem J1:∀ {mp:List Nat} {b:Nat},(∀ x∈mp,b≠x)->pos mp b=none
 | [],_,_=>rfl
 | x::r,b,h=>by
  simp only[pos]
  rw[show W x b=false from by cases J:W x b with | false=>rfl | true=>exact absurd (zA J).symm (h x zQ),cond_false,J1 λy hy=>h y (zI _ hy)]
theorem YU{sh:uz}{dR:List Gh}{args:List D}{st:St}{b:Nat}(J:b∈CZ sh dR args st):dR=[]/\∃ mp,mapOf sh (yK args 0) st=some mp/\b<st.length/\pos mp b=none:=by
 unfold CZ at J
 cases hn:dR.isEmpty with
 | false=>grind
 | true =>
  rw[hn,cond_true]at J
  refine⟨zW.1 hn,?_⟩
  split at J
  ·rename_i mp KO
   obtain⟨h1,X⟩:=FY J
   exact⟨mp,KO,h1,J1 X⟩
  ·cases J
theorem bC.Ut{d:bC}{args:List D}{st qm:St}{rs:Hj}{b:Nat}(h:(d.S args st).leads (rs,qm))(J:b∈d.free args st):qm[b]? = st[b]? := by
 obtain⟨hn,mp,KO,wO,WN⟩:=YU J
 unfold bC.S at h
 rw[hn]at h
 simp only[gh,KO]at h
 cases hc:cZ mp&&zM mp.length d.sh.bs.length&&W args.length d.ks.length with
 | false=>rw[hc]at h; exact h.elim
 | true =>
  rw[hc,cond_true]at h
  unfold bC.inner at h
  split at h
  ·exact h.elim
  ·split at h
   ·exact h.elim
   ·obtain⟨x,_,h⟩:=T.zg.1 h
    obtain⟨y,_,h⟩:=T.zg.1 h
    unfold bC.back at h
    split at h
    ·split at h
     ·cases h; exact mj wO WN
     ·exact h.elim
    ·exact h.elim
theorem me.Ut{d:me}{args:List D}{st qm:St}{rs:Hj}{b:Nat}(h:(d.S args st).leads (rs,qm))(J:b∈d.free args st):qm[b]? = st[b]? := by
 obtain⟨hn,mp,KO,wO,WN⟩:=YU J
 unfold me.S me.K at h
 rw[hn]at h
 simp only[gh,KO]at h
 cases hc:cZ mp&&zM mp.length d.sh.bs.length&&W args.length d.ks.length with
 | false=>rw[hc]at h; exact h.elim
 | true =>
  rw[hc,cond_true]at h
  unfold me.Xs at h
  split at h
  ·exact h.elim
  ·split at h
   ·exact h.elim
   ·obtain⟨x,_,h⟩:=T.zg.1 h
    obtain⟨y,_,h⟩:=T.zg.1 h
    cases y with
    | inl y =>
     simp at h
     unfold bC.QB at h
     split at h
     ·split at h
      ·cases h; exact mj wO WN
      ·exact h.elim
     ·exact h.elim
    | inr z =>
     simp at h
     unfold me.N5 at h
     split at h
     ·unfold me.z3Q at h
      split at h
      ·cases h; exact mj wO WN
      ·exact h.elim
     ·unfold bC.QB at h
      split at h
      ·split at h
       ·cases h; exact mj wO WN
       ·exact h.elim
      ·exact h.elim
def pE:It->Bool
 | .s _ (.qi _)=>true
 | .a _=>true
 | _=>false
def Ws:Bk->Bool
 | .arr _=>true
 | _=>false
def GM(o:uz):Bool:=o.cs.isEmpty&&o.gy.all pE&&o.bs.all Ws
def bC.QN(d:bC)(args:List D):Option (List Nat):=bif d.dR.isEmpty&&GM d.out&&zM d.out.bs.length d.sh.bs.length then Ep (Te d.sh (yK args 0) 0 d.sh.bs)else none
theorem FU(sh:uz)(st:St)(m':List (Option Nat)):∀ (m:List (Option Nat)) (b:Nat) (l:List Nat),Ep m=some l->Tf sh st m' b m=m
 | [],_,_,_=>rfl
 | some x::r,b,l,h=>by
  simp only[Ep]at h
  split at h
  ·rename_i l' B; simp only[Tf,FU sh st m' r (b+1) l' B]
  ·cases h
 | none::_,_,_,h=>by cases h
theorem z3c{sh:uz}{fr:Fr}{st:St}{l:List Nat}(h:Ep (Te sh fr 0 sh.bs)=some l):mapOf sh fr st=some l:=by
 simp only[mapOf,FU sh st _ _ 0 l h]
 exact h
theorem Er:∀ {m:List (Option Nat)} {l:List Nat},Ep m=some l->l.length=m.length
 | [],_,h=>by cases h; rfl
 | some x::r,_,h=>by
  simp only[Ep]at h
  split at h
  ·rename_i l' B; cases h; simp[Er B]
  ·cases h
 | none::_,_,h=>by cases h
theorem FT(sh:uz)(fr:Fr):∀ (bs:List Bk) (b:Nat),(Te sh fr b bs).length=bs.length
 | [],_=>rfl
 | _::r,b=>by simp only[Te,qK,FT sh fr r (b+1)]
theorem VI{α:Type}{l:List α}(x:α):∀ {mp:List Nat} {r:List α},ly l mp=some r->ly (l++[x]) mp=some r/\∀ b∈mp,b<l.length
 | [],_,h=>⟨h,λb J=>by cases J⟩
 | b::mp,r,h=>by
  simp only[ly]at h
  split at h
  ·rename_i y hy
   split at h
   ·rename_i z hz
    cases h
    obtain⟨h1,X⟩:=VI x hz
    have J:=(Y.1 hy).1
    refine⟨?_,λc hc=>(zH.1 hc).elim (λe=>e▸J) (X c)⟩
    simp only[ly,zK J,hy,h1]
   ·cases h
  ·cases h
theorem K3{α:Type}(mp:List Nat)(new:List α)(x:α):∀ (l:List α) (i:Nat),pos mp (i+l.length)=none->o7 mp new i (l++[x])=o7 mp new i l++[x]
 | [],i,h=>by simp only[List.length_nil,Nat.add_zero]at h; simp[o7,h]
 | y::r,i,h=>by
  have:=K3 mp new x r (i+1) (by rw[<- h]; congr 1; simp; omega)
  simp[o7,this]
theorem BT(st0:St):∀ (bs:List Bk) (l:List Bd),bs.all Ws=true->∀ b∈jN st0 bs l,∀ f,VL f b=some b
 | [],_,_,b,J,_=>by cases J
 | .arr e::r,l,ha,b,J,f=>by
  simp only[zF,I]at ha
  cases l with
  | nil=>simp[jN]at J
  | cons z l =>
   cases z with
   | a e' xs =>
    rcases zH.1 (show b∈de.arr xs.length e' xs::jN st0 r l from J)with rfl | J
    ·rfl
    ·exact BT st0 r l ha.2 b J f
   | v k y=>simp[jN]at J
 | .var _::r,_,ha,_,_,_=>by simp[Ws]at ha
 | .cvar _::r,_,ha,_,_,_=>by simp[Ws]at ha
 | .dead::r,_,ha,_,_,_=>by simp[Ws]at ha
theorem Ii:∀ (l:List de) (f:Nat->Option Nat),(∀ b∈l,VL f b=some b)->oS f l=some l
 | [],_,_=>rfl
 | b::r,f,h=>by simp only[oS,h b zQ,Ii r f λx U=>h x (zI _ U)]
theorem Gu(st:St):∀ (gy:List It) (x:kc gy),gy.all pE=true->∀ s d,(nO st gy x).get s=some d->∀ f,su f d=some d
 | [],_,_,s,d,h,_=>by cases h
 | [i],x,ha,s,d,h,f=>by
  cases i with
  | s t k =>
   cases k with
   | qi τ =>
    simp only[nO,QT,Fr.get]at h
    cases J:W t s with
    | true=>rw[J]at h; cases h; rfl
    | false=>rw[J]at h; cases h
   | _=>simp[pE]at ha
  | v k=>simp[pE]at ha
  | a e=>cases h
 | i::j::r,x,ha,s,d,h,f=>by
  have ha':pE i=true/\(j::r).all pE=true:=by simpa using ha
  cases i with
  | s t k =>
   cases k with
   | qi τ =>
    simp only[nO,QT,Fr.get]at h
    cases J:W t s with
    | true=>rw[J]at h; cases h; rfl
    | false=>rw[J]at h; exact Gu st (j::r) x.2 ha'.2 s d h f
   | _=>simp[pE]at ha'
  | v k=>simp[pE]at ha'
  | a e=>exact Gu st (j::r) x.2 ha'.2 s d h f
theorem GI{fr:Fr}(hf:∀ s d,fr.get s=some d->∀ f,su f d=some d):∀ (n i:Nat) (ds:List D),BX fr n i=some ds->∀ f,XL f ds=some ds
 | 0,_,ds,h,f=>by cases h; rfl
 | n+1,i,ds,h,f=>by
  simp only[BX]at h
  split at h
  ·rename_i d V
   split at h
   ·rename_i r hr
    cases h
    simp only[XL,hf i d V f,GI hf n (i+1) r hr f]
   ·cases h
  ·cases h
theorem Gw(st0:St):∀ (bs:List Bk) (l:List Bd),(jN st0 bs l).length<=bs.length
 | [],l=>by simp[jN]
 | b::r,l=>by
  cases b<;>cases l<;>(try (rename_i z _; cases z))<;>simp only[jN,qK,List.length_nil]<;>first | omega | (have:=Gw st0 r; grind)
theorem bC.H7{d:bC}{args:List D}{hx:List Nat}(ht:d.QN args=some hx){st qm:St}{rs:Hj}(h:(d.S args st).leads (rs,qm)) :
  qm.length=st.length/\(∀ b,b<st.length->b ∉ hx->qm[b]? = st[b]?)/\∀ x,(d.S args (st++[x])).leads (rs,qm++[x]):=by
 unfold bC.QN at ht
 cases J:d.dR.isEmpty&&GM d.out&&zM d.out.bs.length d.sh.bs.length with
 | false=>rw[J]at ht; cases ht
 | true =>
  rw[J,cond_true]at ht
  simp only[I]at J
  obtain⟨⟨hn,hp⟩,hle⟩:=J
  have hn:=zW.1 hn
  have hle:=zE hle
  have hm:∀ s:St,mapOf d.sh (yK args 0) s=some hx:=λs=>z3c ht
  have hTl:hx.length=d.sh.bs.length:=(Er ht).trans (FT ..)
  unfold bC.S at h ⊢
  rw[hn]at h
  simp only[gh,hm]at h
  cases hc:cZ hx&&zM hx.length d.sh.bs.length&&W args.length d.ks.length with
  | false=>rw[hc]at h; exact h.elim
  | true =>
   rw[hc,cond_true]at h
   unfold bC.inner at h
   split at h
   ·exact h.elim
   ·rename_i l B
    split at h
    ·exact h.elim
    ·rename_i dY hst1
     obtain⟨x,h1,h⟩:=T.zg.1 h
     obtain⟨y,X,h⟩:=T.zg.1 h
     have hpo:d.out.cs.isEmpty=true/\d.out.gy.all pE=true/\d.out.bs.all Ws=true:=by
      unfold GM at hp; simp only[I]at hp; exact⟨hp.1.1,hp.1.2,hp.2⟩
     have ud:∀ f,oS f (d.out.st y)=some (d.out.st y):=λf=>Ii _ f λb J=>BT _ _ _ hpo.2.2 b J f
     have hfr:∀ s e,(d.out.fr y).get s=some e->∀ f,su f e=some e:=λs e he f=>by
      unfold uz.fr at he
      rw[zW.1 hpo.1,show z9f (d.out.st y) []=[]from rfl,zT]at he
      exact Gu _ _ y hpo.2.1 s e he f
     have hlen:(d.out.st y).length<=hx.length:=by rw[hTl]; exact zV (Gw _ _ _) hle
     unfold bC.back at h
     split at h
     ·rename_i ds gC hds hst2
      rw[ud]at hst2
      cases hst2
      rw[GI hfr _ _ _ hds]at h
      cases h
      obtain⟨hl0,wO⟩:=VI (.dead:de) B
      have WN:pos hx st.length=none:=J1 λb J e=>by have:=wO b J; omega
      have Fo:(d.out.st y).drop hx.length=[]:=List.drop_eq_nil_of_le hlen
      refine⟨?_,λb J hbt=>mj J (J1 λc hc e=>hbt (e▸hc)),λz => ?_⟩
      ·simp[jm,bh,Fo]
      ·rw[hn]
       simp only[gh,hm]
       rw[hc,cond_true]
       unfold bC.inner
       rw[(VI z B).1]
       simp only[hst1]
       refine T.zg.2 ⟨x,h1,T.zg.2 ⟨y,X,?_⟩⟩
       unfold bC.back
       rw[hds,ud]
       simp only[GI hfr _ _ _ hds]
       show _=_
       simp only[jm,Fo,zT]
       rw[K3 hx _ z st 0 (by rw[qD]; exact WN)]
     ·exact h.elim
end Go.AM
namespace Go.AM
def VX.den:VX->Type
 | .ty τ=>AM.den τ
 | .rp τ=>AM.den τ
 | .wj _ caps=>iF caps
def eG:List VX->Type
 | []=>Unit
 | [p]=>p.den
 | p::q::r=>p.den×eG (q::r)
def mkP:(p:VX)->p.den->D
 | .ty τ,x=>.qi τ x
 | .rp τ,x=>.vE τ x
 | .wj f caps,x=>.wj f (Qb caps x)
def JO:(l:List VX)->eG l->List D
 | [],_=>[]
 | [p],x=>[mkP p x]
 | p::q::r,x=>mkP p x.1::JO (q::r) x.2
def UH:(l:List Ty)->E9 l->List D
 | [],_=>[]
 | [τ],x=>[.qi τ x]
 | τ::σ::r,x=>.qi τ x.1::UH (σ::r) x.2
def rpX(st:St)(τ:Ty):D->T (den τ)
 | .vE _ x=>match(jY x:Option (den τ))with | some y=>.ret y | none=>.fail
 | .ptr b off=>match st[b]? with
  | some (.var d)=>match bif W off 0 then p9 τ d else none with | some y=>.ret y | none=>.fail
  | _=>.fail
 | _=>.fail
def z6q(st:St):(p:Jn)->D->T (den p.ty)
 | .im τ,d=>Ua st τ d
 | .rp τ,d=>rpX st τ d
def NA(st:St):(l:List Jn)->List D->T (iF l)
 | [],[]=>.ret ()
 | [p],[d]=>z6q st p d
 | p::q::r,d::ds=>(z6q st p d).bind λx=>(NA st (q::r) ds).bind λy=>.ret (x,y)
 | _,_=>.fail
def unP(st:St):(p:VX)->D->T p.den
 | .ty τ,d=>Ua st τ d
 | .rp τ,d=>rpX st τ d
 | .wj f caps,d=>match d with
  | .wj f' l=>bif W f f' then NA st caps l else .fail
  | _=>.fail
def IC(st:St):(l:List VX)->List D->T (eG l)
 | [],[]=>.ret ()
 | [p],[d]=>unP st p d
 | p::q::r,d::ds=>(unP st p d).bind λx=>(IC st (q::r) ds).bind λy=>.ret (x,y)
 | _,_=>.fail
def z4x(st:St):(l:List Ty)->List D->T (E9 l)
 | [],[]=>.ret ()
 | [τ],[d]=>Ua st τ d
 | τ::σ::r,d::ds=>(Ua st τ d).bind λx=>(z4x st (σ::r) ds).bind λy=>.ret (x,y)
 | _,_=>.fail
structure Ek where
 ps:List VX
 rs:List Ty
 F:eG ps->T (E9 rs)
def zck:VX->D->Bool
 | .wj f _,d=>match d with | .wj f' _=>W f f' | _=>false
 | _,d=>match d with | .wj _ _=>false | _=>true
def fits:List VX->List D->Bool
 | [],[]=>true
 | p::ps,d::ds=>zck p d&&fits ps ds
 | _,_=>false
def zcl:AK->D->Bool
 | .any,d=>match d with | .wj _ _=>false | _=>true
 | .cur,d=>match d with | .ms .. => true | .wH=>true | _=>false
 | .sub,d=>match d with | .ms .. => true | _=>false
 | .ptr,d=>match d with | .ptr .. => true | _=>false
 | .wj f,d=>match d with | .wj f' _=>W f f' | _=>false
 | .agg,d=>match d with | .agg _=>true | _=>false
def QJ:List AK->List D->Bool
 | [],[]=>true
 | p::ps,d::ds=>zcl p d&&QJ ps ds
 | _,_=>false
inductive FnE where
 | d (x:Ek)
 | s (x:bC)
 | p (x:me)
def FnE.fits:FnE->List D->Bool
 | .d x,l=>AM.fits x.ps l
 | .s x,l=>QJ x.ks l
 | .p x,l=>QJ x.ks l
abbrev mf:=List (Nat×FnE)
def mf.find:mf->Nat->List D->Option FnE
 | [],_,_=>none
 | (g',d)::r,g,args=>bif W g' g&&d.fits args then some d else mf.find r g args
abbrev Sm:=List D->St->T (Hj×St)
def Ek.S(d:Ek):Sm:=λargs st=>match st with
 | []=>(IC [] d.ps args).bind λx=>(d.F x).bind λy=>.ret (.ret (UH d.rs y),[])
 | _=>.fail
def mf.call(tab:mf)(g:Nat)(args:List D)(st:St):T (Hj×St):=match tab.find g args with | some (.d d)=>d.S args st | some (.s d)=>d.S args st | some (.p d)=>d.S args st | none=>.fail
def mf.free(tab:mf)(g:Nat)(args:List D)(st:St):List Nat:=match tab.find g args with | some (.s d)=>d.free args st | some (.p d)=>d.free args st | _=>[]
theorem mf.Ut(tab:mf)(g:Nat)(args:List D)(st:St)(rs:Hj)(qm:St)(b:Nat)(h:(tab.call g args st).leads (rs,qm))(J:b∈tab.free g args st):qm[b]? = st[b]? := by
 unfold mf.call at h
 unfold mf.free at J
 split at J
 ·rename_i d V; rw[V]at h; exact bC.Ut h J
 ·rename_i d V; rw[V]at h; exact me.Ut h J
 ·cases J
def mf.QN(tab:mf)(g:Nat)(args:List D):Option (List Nat):=match tab.find g args with | some (.s d)=>d.QN args | _=>none
theorem mf.H7(tab:mf)(g:Nat)(args:List D)(hx:List Nat)(st:St)(rs:Hj)(qm:St)(ht:tab.QN g args=some hx)(h:(tab.call g args st).leads (rs,qm)) :
  qm.length=st.length/\(∀ b,b<st.length->b ∉ hx->qm[b]? = st[b]?)/\∀ x,(tab.call g args (st++[x])).leads (rs,qm++[x]):=by
 unfold mf.QN at ht
 unfold mf.call at h ⊢
 split at ht
 ·rename_i d V
  rw[V]at h ⊢
  exact bC.H7 ht h
 ·cases ht
def bg(P:Program)(xid:Nat)(tab:mf)(ro:Nat->Bool):Ctx :=
 { P,xid,ro,sig:=λg args=>match tab.find g args with | some (.d d)=>some ⟨d.ps,d.rs⟩ | _=>none,fn:=tab.call,free:=tab.free,z0W:=tab.Ut,QN:=tab.QN,Rs:=tab.H7 }
def zal{α:Type}(tab:mf)(g:Nat)(args:List D)(st:St)(k:Nat->Option D->St->T α)(kp:D->St->T α):T α:=match tab.find g args with
 | none=>.fail
 | some (.d d)=>bif !(args.any JQ)then(IC [] d.ps args).bind λx=>(d.F x).bind λy=>k 0 (some (ft (UH d.rs y))) st
  else(IC st d.ps args).bind λx=>(d.F x).bind λy=>bif (UH d.rs y).all WB then k 1 (some (ft (UH d.rs y))) st else .fail
 | some (.s d)=>d.K args st λds qm=>k 2 (some (ft ds)) qm
 | some (.p d)=>d.K args st (λds qm=>k 2 (some (ft ds)) qm) kp
def CH{α:Type}(tab:mf)(f:Option D)(args:List (Option D))(st:St)(k:Nat->Option D->St->T α)(kp:D->St->T α):T α:=match f,gQ args with
 | some (.wj g caps),some l=>zal tab (eM g) (cm g l caps) st k kp
 | _,_=>.fail
def oR(l:List Nat):Fr:=l.map λs=>(s,none)
def dstsOf:List Oper->List Nat
 | []=>[]
 | o::r=>match o.dst with | some t=>t::dstsOf r | none=>dstsOf r
def wJ:Code->List Nat
 | .region _ ops _=>dstsOf ops.toList
 | .seq a b=>wJ a++wJ b
 | .cond _ a b=>wJ a++wJ b
 | .block _ a=>wJ a
 | .loop a=>wJ a
 | _=>[]
structure q8 where
 gh:List Gh
 ps:List It
 sh:uz
 ws:List Way
 F:kc ps->sh.den->T (iG ws)
inductive z6f where
 | flat (gy:List It)
 | ways (ws:List Way)
 | HT
structure Hints where
 loop:Nat->Option q8
 cut:Nat->Nat->Option z6f
 frz:Nat->List Nat
def rQ:Code->Option Nat
 | .region id _ _=>some id
 | .seq a b=>match rQ a with | some n=>some n | none=>rQ b
 | .cond _ a b=>match rQ a with | some n=>some n | none=>rQ b
 | .block _ a=>rQ a
 | .loop a=>rQ a
 | _=>none
def keyOf(x:Code):Nat×Nat:=(match x with | .region .. => 0 | .cond .. => 1 | .block .. => 2 | _=>3,match rQ x with | some n=>n | none=>0)
def zbh(l:List Nat)(s:Nat):Bool := !(l.any (W s))
def Yj:Dk->Bool
 | .sub _ _=>false
 | .st _=>false
 | .mclo _ _=>false
 | _=>true
def MF(ps:List It)(ws:List Nat):Bool:=ps.all λi=>match i with
 | .s t k=>Yj k&&zbh ws t
 | _=>false
def CX{α:Type}:T α->Option α
 | .ret a=>some a
 | .ite _ t e=>match CX t with | some a=>some a | none=>CX e
 | .zl _ t=>CX t
 | .fail=>none
def FX{α β:Type}(f:α->β):T α->T β
 | .ret a=>.ret (f a)
 | .ite b t e=>.ite b (FX f t) (FX f e)
 | .zl p t=>.zl p (FX f t)
 | .fail=>.fail
def TN:(l:List It)->kc l->T (kc l)->kc l
 | [],_,_=>()
 | [_],d,t=>T.val d t
 | _::j::r,d,t=>(T.val d.1 (FX Prod.fst t),TN (j::r) d.2 (FX Prod.snd t))
def z0U(l:List It)(t:T (kc l)):T (kc l):=match CX t with
 | some d=>match t.J2 with
  | none=>.ret (TN l d t)
  | some p=>.zl p (.ret (TN l d t))
 | none=>.fail
def C3(l:List It):Bool:=l.all λi=>match i with
 | .s _ k=>Yj k
 | _=>false
structure L3 where
 ex:Ex
 fr:Fr
 kn:Kn
 st:St
 q:Bool      -- the store has not been written
def quiet(ks:List Nat):Bool:=ks.all λk => !(W k 2)
structure zfj where
 e:Ty
 l:List (den e)
 m:Nat
 s:Nat
 c:Nat
 eq:Bool
def z3n:BinOp->Option Bool
 | .eql=>some true
 | .neq=>some false
 | _=>none
def M6:Operand->Bool
 | .const (.slice none 0 0)=>true
 | _=>false
def Ds(c:Ctx)(n:Nat)(ops:Array Oper)(fr:Fr):Option zfj:=match ops.toList with
 | [o1,o2]=>match o1.dst,o1.op,o1.guard with
  | some m,.move (.tmp s),none=>match o2.dst,o2.op,o2.guard with
   | some cc,.binOp op t (.tmp m') y _,none=>match z3n op,fr.get s,nD c t with
    | some b,some (.qi (.sl e) l),some _=>bif W m m'&&M6 y&&zO m n&&zO cc n then some ⟨e,l,m,s,cc,b⟩else none
    | _,_,_=>none
   | _,_,_=>none
  | _,_,_=>none
 | _=>none
def opsOf:Code->Option (Array Oper)
 | .region _ ops false=>some ops
 | _=>none
section
variable (c:Ctx) (tab:mf)
variable [WI]
def WE{α:Type}(n:Nat)(o:Oper)(s:oX)(k:oX->T α)(kp:D->St->T α):T α :=
 bif gD n o.dst then match o.op with
  | .call cl=>match cl.callee with
   | .value f=>CH tab (bO s.fr f) (cl.args.toList.map (bO s.fr)) s.st (λkd d qm=>k ⟨s.fr.put o.dst d,HW s.kn o.dst none,qm,kd::s.ks,vx c (bO s.fr) s.st o::s.bk⟩) kp
   | _=>let cl:=QI c s.kn s.fr o
    (qt cl s.st).bind λr=>k ⟨s.fr.put o.dst r.1,HW s.kn o.dst (HP s.kn o.op),r.2,cl.kind::s.ks,vx c (bO s.fr) s.st o::s.bk⟩
  | .panic x=>match bO s.fr x with
   | some (.iface t d)=>kp (.iface t d) s.st
   | _=>.fail
  | _=>let cl:=QI c s.kn s.fr o
   (qt cl s.st).bind λr=>k ⟨s.fr.put o.dst r.1,HW s.kn o.dst (HP s.kn o.op),r.2,cl.kind::s.ks,vx c (bO s.fr) s.st o::s.bk⟩
 else .fail
def MU{α:Type}(n:Nat)(ops:Array Oper)(o:Oper)(s:oX)(k:oX->T α)(kp:D->St->T α):T α:=match o.guard with
 | none=>WE c tab n o s k kp
 | some (j,want)=>match bR ops j with
  | none=>.fail
  | some t=>match s.kn.get t with
   | some b=>bif b==want then WE c tab n o s k kp else bif gD n o.dst then k (da o s)else .fail
   | none=>match s.fr.get t with
    | some (.qi .bool x)=>bif gD n o.dst then
      .ite x (bif want then WE c tab n o (s.lT t true) k kp else k (da o (s.lT t true)))
          (bif want then k (da o (s.lT t false))else WE c tab n o (s.lT t false) k kp)
     else .fail
    | some (.eZ [])=>bif gD n o.dst then k (da o s)else .fail
    | _=>.fail
def Yl{α:Type}(n:Nat)(ops:Array Oper):List Oper->oX->(oX->T α)->(D->St->T α)->T α
 | [],s,k,_=>k s
 | o::l,s,k,kp=>MU c tab n ops o s (λs'=>Yl n ops l s' k kp) kp
def GU{α:Type}(n:Nat)(ops:Array Oper)(draw:Bool)(fr:Fr)(kn:Kn)(st:St)(k:oX->T α)(kp:D->St->T α):T α :=
 Yl c tab n ops ops.toList ⟨fr,kn,st,[],[]⟩ (λs=>bif !draw||Vi ops s.ks.reverse s.bk.reverse then k s else .fail) (λd qm=>bif draw then .fail else kp d qm)
def VY(n:Nat)(H:Hints):Code->Fr->Kn->St->{α:Type}->(L3->T α)->T α
 | .skip,fr,kn,st,_,k=>k ⟨.normal,fr,kn,st,true⟩
 | .region id ops draw,fr,kn,st,_,k=>(frz (H.frz id) fr st).bind λz=>GU c tab n ops draw z.1 kn z.2 (λs=>k ⟨.normal,s.fr,s.kn,s.st,quiet s.ks&&(H.frz id).isEmpty⟩) (λd qm=>k ⟨.bE d,[],[],qm,false⟩)
 | .seq a b,fr,kn,st,_,k=>match H.cut (keyOf a).1 (keyOf a).2 with
  | none=>VY n H a fr kn st λr=>match r.ex with
   | .normal=>VY n H b r.fr r.kn r.st λo=>k { o with q:=r.q&&o.q }
   | _=>k r
  | some (.flat gy)=>bif C3 gy then
    (z0U gy (VY n H a fr kn st λo=>match o.ex with
     | .normal=>bif o.q then Ci o.fr o.st gy []else .fail
     | _=>.fail)).bind λx=>VY n H b (nO st gy x++(oR (wJ a)++fr)) [] st k
   else .fail
  | some .HT=>match opsOf a with
   | none=>.fail
   | some ops=>match Ds c n ops fr with
    | none=>.fail
    | some p =>
     let non:=VY n H b ((p.c,some (.qi .bool (!p.eq)))::(p.m,some (.qi (.sl p.e) p.l))::fr) [(p.c,some (!p.eq))] st k
     .zl (p.l=[]->∀ r,non.leads r->(VY n H b ((p.c,some (.qi .bool p.eq))::(p.m,some .wH)::(p.s,some .wH)::fr) [(p.c,some p.eq)] st k).leads r) non
  | some (.ways ws)=>bif ws.all λw=>zM st.length w.sh.bs.length then
    (VY n H a fr kn st λo=>Dd ws o.ex (HB o.ex o.fr) o.st).bind λr=>NK ws r λex out qm=>match F3 ex out with
     | none=>.fail
     | some z=>match z.1 with
      | .normal=>VY n H b (z.2++(oR (wJ a)++fr)) [] qm λo=>k { o with q:=false }
      | e=>k ⟨e,z.2++(oR (wJ a)++fr),[],qm,false⟩
   else .fail
 | .cond x a b,fr,kn,st,_,k=>match rV kn x with
  | some true=>VY n H a fr kn st k
  | some false=>VY n H b fr kn st k
  | none=>match x with
   | .tmp t=>match fr.get t with
    | some (.qi .bool v)=>.ite v (VY n H a fr ((t,some true)::kn) st k) (VY n H b fr ((t,some false)::kn) st k)
    | _=>.fail
   | _=>.fail
 | .block id (.loop b),fr,_,st,_,k=>match H.loop id with
  | none=>.fail
  | some l=>let g:=gh l.gh fr st
   bif zM g.2.length l.sh.bs.length&&MF l.ps (wJ b)&&l.ws.all λw=>zM l.sh.bs.length w.sh.bs.length then
    (Ci g.1 g.2 l.ps []).bind λp=>(l.sh.un g.1 g.2).bind λs=>(l.F p s).bind λr=>NK l.ws r λex out qm=>match F3 ex out with
     | none=>.fail
     | some z=>match z.1 with
      | .exit id'=>bif W id' id then k ⟨.normal,z.2++(oR (wJ b)++g.1),[],qm,false⟩else k ⟨.exit id',z.2++(oR (wJ b)++g.1),[],qm,false⟩
      | .normal=>.fail
      | e=>k ⟨e,z.2++(oR (wJ b)++g.1),[],qm,false⟩
   else .fail
 | .block id a,fr,kn,st,_,k=>VY n H a fr kn st λr=>match r.ex with
  | .exit id'=>bif W id' id then k { r with ex:=.normal } else k r
  | _=>k r
 | .exit id,fr,kn,st,_,k=>k ⟨.exit id,fr,kn,st,true⟩
 | .ret,fr,kn,st,_,k=>k ⟨.ret,fr,kn,st,true⟩
 | _,_,_,_,_,_=>.fail
def z48(n:Nat)(H:Hints)(l:q8)(b:Code)(p:kc l.ps)(s:l.sh.den):T (l.sh.den⊕iG l.ws) :=
 VY c tab n H b (l.sh.fr s++nO (l.sh.st s) l.ps p) [] (l.sh.st s) λo=>match o.ex with
  | .normal=>(l.sh.un o.fr o.st).bind λs'=>.ret (.inl s')
  | e=>(Dd l.ws e (HB e o.fr) o.st).bind λr=>.ret (.inr r)
def z0S(H:Hints)(fn:Func)(code:Code)(d:Ek)(x:eG d.ps):T (E9 d.rs) :=
 bif zM (JO d.ps x).length fn.ntmps then
  VY c tab fn.ntmps H code (yK (JO d.ps x) 0) [] [] λo=>match o.ex with
   | .normal=>(nU c o.fr o.st fn.results.toList).bind λds=>z4x o.st d.rs ds
   | .ret=>(nU c o.fr o.st fn.results.toList).bind λds=>z4x o.st d.rs ds
   | _=>.fail
 else .fail
def z3L:List (Nat×Ck)->List Gh
 | []=>[]
 | (s,.cur _ e)::r=>.slot s e::z3L r
 | _::r=>z3L r
def msB:D->Option Nat
 | .ms b _ _ _ _=>some b
 | _=>none
def zqS:Option de->List D
 | some (.var d)=>wb d
 | _=>[]
def Tv(st:St):List D->List Nat
 | []=>[]
 | .ms b _ _ _ _::r=>b::Tv st r
 | .ptr b _::r=>b::((zqS st[b]?).filterMap msB++Tv st r)
 | .agg l::r=>l.filterMap msB++Tv st r
 | _::r=>Tv st r
def z9h(m:Nat):List Nat->List Nat->List Nat
 | seen,[]=>seen
 | seen,b::r=>bif zM m b&&(match pos seen b with | none=>true | some _=>false)then z9h m (seen++[b]) r else z9h m seen r
def canon(m:Nat)(ds:List D)(st:St):List D×St :=
 let mp:=zX m++z9h m [] (Tv st ds)
 match ly st mp with
 | some l=>match oS (pos mp) l,XL (pos mp) ds with
  | some dY,some ds1=>bif cZ mp then(ds1,dY)else(ds,st)
  | _,_=>(ds,st)
 | none=>(ds,st)
def kD:List Sk->List D->St->List D×St
 | .row _ e::ks,.wH::l,st=>bif zO 0 e.size then((.ms st.length 0 e 0 0)::(kD ks l (st++[.arr 0 e []])).1,(kD ks l (st++[.arr 0 e []])).2)
  else(.wH::(kD ks l st).1,(kD ks l st).2)
 | _::ks,d::l,st=>(d::(kD ks l st).1,(kD ks l st).2)
 | _,l,st=>(l,st)
def TD:List It->Nat->List Sk
 | [],_=>[]
 | .s t (.st ks)::r,i=>bif W t i then ks else TD r i
 | _::r,i=>TD r i
def tU(gy:List It):Nat->List D->St->List D×St
 | _,[],st=>([],st)
 | i,.agg l::ds,st=>(.agg (kD (TD gy i) l st).1::(tU gy (i+1) ds (kD (TD gy i) l st).2).1,(tU gy (i+1) ds (kD (TD gy i) l st).2).2)
 | i,d::ds,st=>(d::(tU gy (i+1) ds st).1,(tU gy (i+1) ds st).2)
def DJ(out:uz)(m:Nat)(ds:List D)(st:St):List D×St :=
 bif (out.gy.all λ| .s _ (.st _)=>false | _=>true)&&(out.cs.all λ| (_,.ptr _ _)=>false | (_,.cur _ _)=>false | _=>true)then(ds,st)
 else canon m (tU out.gy 0 (canon m ds st).1 (canon m ds st).2).1 (tU out.gy 0 (canon m ds st).1 (canon m ds st).2).2
def V5(out:uz)(m nr:Nat)(ds:List D)(st:St):T out.den :=
 bif W ds.length nr then(out.un (gh (z3L out.cs) (yK (DJ out m ds st).1 0) (DJ out m ds st).2).1 (gh (z3L out.cs) (yK (DJ out m ds st).1 0) (DJ out m ds st).2).2).bind λy =>
  bif (pD nr (out.fr y)).isSome then .ret y else .fail else .fail
def LG(H:Hints)(fn:Func)(code:Code)(d:bC)(x:d.sh.den):T d.out.den :=
 bif zM d.ks.length fn.ntmps&&zM d.sh.bs.length d.out.bs.length then
  VY c tab fn.ntmps H code (d.sh.fr x) [] (d.sh.st x) λo=>match o.ex with
   | .normal=>(nU c o.fr o.st fn.results.toList).bind λds=>V5 d.out (d.sh.st x).length d.nr ds o.st
   | .ret=>(nU c o.fr o.st fn.results.toList).bind λds=>V5 d.out (d.sh.st x).length d.nr ds o.st
   | _=>.fail
 else .fail
def zaL:List D->Bool
 | .br::_=>true
 | .wH::_=>true
 | .agg (.wH::_)::_=>true
 | _=>false
def z9E(d:me)(m:Nat)(ds:List D)(st:St):T (d.out.den⊕d.bE.den):=match d.two with
 | some n=>bif zaL ds then(V5 d.bE m n ds st).bind λz=>.ret (.inr z)else(V5 d.out m d.nr ds st).bind λy=>.ret (.inl y)
 | none=>(V5 d.out m d.nr ds st).bind λy=>.ret (.inl y)
def LF(H:Hints)(fn:Func)(code:Code)(d:me)(x:d.sh.den):T (d.out.den⊕d.bE.den) :=
 bif zM d.ks.length fn.ntmps&&zM d.sh.bs.length d.out.bs.length&&zM d.sh.bs.length d.bE.bs.length then
  VY c tab fn.ntmps H code (d.sh.fr x) [] (d.sh.st x) λo=>match o.ex with
   | .normal=>(nU c o.fr o.st fn.results.toList).bind λds=>z9E d (d.sh.st x).length ds o.st
   | .ret=>(nU c o.fr o.st fn.results.toList).bind λds=>z9E d (d.sh.st x).length ds o.st
   | .bE p=>match p with
    | .iface t v=>bif W t d.pt&&d.two.isNone then(d.bE.un [(0,some v)] o.st).bind λz=>match(d.bE.fr z).get 0 with | some _=>.ret (.inr z) | none=>.fail else .fail
    | _=>.fail
   | _=>.fail
 else .fail
end
end Go.AM
namespace Go.AM
set_option linter.unusedSectionVars false
variable [gB]
open Go.RowKit
section
variable {n:Nat}
theorem z4b{st:St}{τ:Ty}{d:D}{x:den τ}(h:(rpX st τ d).leads x):(QD st τ d).leads (.vE τ x):=by
 cases d with
 | vE σ y =>
  simp only[rpX]at h
  simp only[QD]
  cases hy:(jY y:Option (den τ))with
  | none=>rw[hy]at h; exact h.elim
  | some z=>rw[hy]at h; cases h; rfl
 | ptr b off =>
  simp only[rpX]at h
  simp only[QD]
  cases J:st[b]? with
  | none=>rw[J]at h; exact h.elim
  | some hl =>
   rw[J]at h
   cases hl with
   | var d =>
    simp only at h ⊢
    cases hy:(bif W off 0 then p9 τ d else none)with
    | none=>rw[hy]at h; exact h.elim
    | some z=>rw[hy]at h; cases h; rfl
   | _=>exact h.elim
 | _=>exact h.elim
theorem Nz{st:St}{p:Jn}{d:D}{x:den p.ty}(h:(z6q st p d).leads x):(Xa st p d).leads (BR p x):=by
 cases p with
 | rp τ=>exact z4b h
 | im τ=>exact T.zg.2 ⟨x,h,rfl⟩
theorem EH{st:St}:∀ (l:List Jn) (ds:List D) (x:iF l),(NA st l ds).leads x->(mW st l ds).leads (Qb l x)
 | [],[],x,h=>rfl
 | [],_::_,x,h=>h.elim
 | [p],[],x,h=>h.elim
 | [p],[d],x,h=>T.zg.2 ⟨_,Nz h,T.zg.2 ⟨[],rfl,rfl⟩⟩
 | [p],_::_::_,x,h=>h.elim
 | p::q::r,[],x,h=>h.elim
 | p::q::r,d::ds,x,h=>by
  obtain⟨y,h1,X⟩:=T.zg.1 h
  obtain⟨z,h3,h4⟩:=T.zg.1 X
  cases h4
  exact T.zg.2 ⟨_,Nz h1,T.zg.2 ⟨_,EH (q::r) ds z h3,rfl⟩⟩
theorem z4w{st:St}{p:VX}{d:D}{x:p.den}(h:(unP st p d).leads x):(EN st p d).leads (mkP p x):=by
 cases p with
 | ty τ=>cases d<;>exact T.zg.2 ⟨x,h,rfl⟩
 | rp τ =>
  have:=z4b h
  cases d<;>exact this
 | wj f caps =>
  cases d with
  | wj f' l =>
   simp only[unP]at h
   simp only[EN]
   cases J:W f f' with
   | false=>rw[J]at h; exact h.elim
   | true=>rw[J]at h; exact T.zg.2 ⟨_,EH caps l x h,rfl⟩
  | _=>exact h.elim
theorem Yp{st:St}:∀ (l:List VX) (ds:List D) (x:eG l),(IC st l ds).leads x->(QC st l ds).leads (JO l x)
 | [],[],x,h=>rfl
 | [],_::_,x,h=>h.elim
 | [p],[],x,h=>h.elim
 | [p],[d],x,h=>T.zg.2 ⟨_,z4w h,T.zg.2 ⟨[],rfl,rfl⟩⟩
 | [p],_::_::_,x,h=>h.elim
 | p::q::r,[],x,h=>h.elim
 | p::q::r,d::ds,x,h=>by
  obtain⟨y,h1,X⟩:=T.zg.1 h
  obtain⟨z,h3,h4⟩:=T.zg.1 X
  cases h4
  exact T.zg.2 ⟨_,z4w h1,T.zg.2 ⟨_,Yp (q::r) ds z h3,rfl⟩⟩
theorem EP(st:St)(τ:Ty)(x:den τ):(Ua st τ (.qi τ x)).leads x:=by
 refine T.zg.2 ⟨.qi τ x,rfl,?_⟩
 rw[T.yO]
 exact X7 x
theorem z4a(st:St)(τ:Ty)(x:den τ):(rpX st τ (.vE τ x)).leads x:=by
 simp only[rpX]; rw[X7]; rfl
theorem Ny(st:St)(p:Jn)(x:den p.ty):(z6q st p (BR p x)).leads x:=by
 cases p with
 | rp τ=>exact z4a st τ x
 | im τ=>exact EP st τ x
theorem EG(st:St):∀ (l:List Jn) (x:iF l),(NA st l (Qb l x)).leads x
 | [],_=>rfl
 | [p],x=>Ny st p x
 | p::q::r,x=>T.zg.2 ⟨x.1,Ny st p x.1,T.zg.2 ⟨x.2,EG st (q::r) x.2,rfl⟩⟩
theorem z4v(st:St)(p:VX)(x:p.den):(unP st p (mkP p x)).leads x:=by
 cases p with
 | ty τ=>exact EP st τ x
 | rp τ=>exact z4a st τ x
 | wj f caps=>simp only[unP,mkP]; rw[qS]; exact EG st caps x
theorem DZ(st:St):∀ (l:List VX) (x:eG l),(IC st l (JO l x)).leads x
 | [],_=>rfl
 | [p],x=>z4v st p x
 | p::q::r,x=>T.zg.2 ⟨x.1,z4v st p x.1,T.zg.2 ⟨x.2,DZ st (q::r) x.2,rfl⟩⟩
def eX:D->Option Nat | .wj f _=>some f | _=>none
theorem z6B(p:VX){d e:D}(h:eX d=eX e):zck p d=zck p e:=by
 cases d<;>cases e<;>simp only[eX]at h<;>first | (cases h; done) | (cases p<;>first | rfl | (cases h; rfl))
theorem NL:∀ (ps:List VX) {l m:List D},l.map eX=m.map eX->fits ps l=fits ps m
 | [],[],[],_=>rfl
 | [],_::_,_::_,_=>rfl
 | _,[],_::_,h=>by cases h
 | _,_::_,[],h=>by cases h
 | _::_,[],[],_=>rfl
 | p::ps,d::l,e::m,h=>by
  simp at h
  simp only[fits,z6B p h.1,NL ps h.2]
theorem z0F{st:St}{τ:Ty}{f:Nat}{l:List D}{x:den τ}(h:(Ua st τ (.wj f l)).leads x):False:=by
 obtain⟨y,h1,X⟩:=T.zg.1 h
 cases h1
 rw[T.yO]at X
 cases τ<;>simp[p9,D.isAgg,Ty.isAgg,wb,dc,rb]at X
theorem Cj{st:St}{p:VX}{d:D}{x:p.den}(h:(unP st p d).leads x):eX d=eX (mkP p x):=by
 cases p with
 | ty τ=>cases d<;>first | rfl | exact(z0F h).elim
 | rp τ=>cases d<;>first | rfl | exact h.elim
 | wj f caps =>
  cases d with
  | wj f' l =>
   simp only[unP]at h
   cases J:W f f' with
   | false=>rw[J]at h; exact h.elim
   | true=>rw[zA J]; rfl
  | _=>exact h.elim
theorem Hb{st:St}:∀ (l:List VX) (ds:List D) (x:eG l),(IC st l ds).leads x->ds.map eX=(JO l x).map eX
 | [],[],x,h=>rfl
 | [],_::_,x,h=>h.elim
 | [p],[],x,h=>h.elim
 | [p],[d],x,h=>by show[eX d]=[eX (mkP p x)]; rw[Cj h]
 | [p],_::_::_,x,h=>h.elim
 | p::q::r,[],x,h=>h.elim
 | p::q::r,d::ds,x,h=>by
  obtain⟨y,h1,X⟩:=T.zg.1 h
  obtain⟨z,h3,h4⟩:=T.zg.1 X
  cases h4
  show eX d::ds.map eX=eX (mkP p y)::(JO (q::r) z).map eX
  rw[Cj h1,Hb (q::r) ds z h3]
def dat(d:D):Bool:=match d with | .qi _ _=>true | .vE _ _=>true | .wj _ _=>true | _=>false
theorem PK(p:VX)(x:p.den):dat (mkP p x)=true:=by cases p<;>rfl
theorem I0:∀ (l:List VX) (x:eG l),∀ d∈JO l x,dat d=true
 | [],x,d,h=>by cases h
 | [p],x,d,h=>by have h:d∈[mkP p x]:=h; rw[zL]at h; subst h; exact PK p x
 | p::q::r,x,d,h=>by
  rcases zH.1 h with rfl | h
  ·exact PK p x.1
  ·exact I0 (q::r) x.2 d h
theorem z0T{a:AK}{d e:D}(h:eX d=eX e)(V:dat e=true)(hf:zcl a e=true):zcl a d=true:=by
 cases e with
 | qi τ x=>cases a<;>first | (cases hf; done) | (cases d<;>first | rfl | (cases h; done))
 | vE τ x=>cases a<;>first | (cases hf; done) | (cases d<;>first | rfl | (cases h; done))
 | wj f l=>cases a<;>first | (cases hf; done) | (cases d<;>first | (cases h; exact hf) | cases h)
 | _=>cases V
theorem JD:∀ {ks:List AK} {l m:List D},l.map eX=m.map eX->(∀ d∈m,dat d=true)->QJ ks m=true->QJ ks l=true
 | [],[],[],_,_,_=>rfl
 | [],_::_,[],h,_,_=>by cases h
 | [],_,_::_,_,_,hf=>by cases hf
 | _::_,_,[],_,_,hf=>by cases hf
 | k::ks,[],_::_,h,_,_=>by cases h
 | k::ks,d::l,e::m,h,V,hf=>by
  simp at h
  simp only[QJ,I]at hf ⊢
  exact⟨z0T h.1 (V e zQ) hf.1,JD h.2 (λx U=>V x (zI _ U)) hf.2⟩
theorem mf.find_eq:∀ (t:mf) (g:Nat) {l m:List D} {d:Ek},l.map eX=m.map eX->(∀ d∈m,dat d=true)->t.find g l=some (.d d)->t.find g m=some (.d d)
 | [],_,_,_,_,_,_,h=>h
 | (g',.d d')::r,g,l,m,d,h,hm,hf=>by
  simp only[mf.find,FnE.fits]at hf ⊢
  rw[<- NL d'.ps h]
  cases J:W g' g&&fits d'.ps l with
  | true=>grind
  | false=>rw[J,cond_false]at hf; rw[cond_false]; exact mf.find_eq r g h hm hf
 | (g',.s d')::r,g,l,m,d,h,hm,hf=>by
  simp only[mf.find,FnE.fits]at hf ⊢
  cases J:W g' g&&QJ d'.ks l with
  | true=>grind
  | false =>
   rw[J,cond_false]at hf
   have:(W g' g&&QJ d'.ks m)=false:=by
    cases hg:W g' g with
    | false=>rfl
    | true =>
     rw[hg]at J
     cases hk:QJ d'.ks m with
     | false=>rfl
     | true=>rw[JD h hm hk]at J; cases J
   rw[this,cond_false]
   exact mf.find_eq r g h hm hf
 | (g',.p d')::r,g,l,m,d,h,hm,hf=>by
  simp only[mf.find,FnE.fits]at hf ⊢
  cases J:W g' g&&QJ d'.ks l with
  | true=>grind
  | false =>
   rw[J,cond_false]at hf
   have:(W g' g&&QJ d'.ks m)=false:=by
    cases hg:W g' g with
    | false=>rfl
    | true =>
     rw[hg]at J
     cases hk:QJ d'.ks m with
     | false=>rfl
     | true=>rw[JD h hm hk]at J; cases J
   rw[this,cond_false]
   exact mf.find_eq r g h hm hf
theorem mf.Uq:∀ {t:mf} {g:Nat} {l:List D} {d:FnE},t.find g l=some d->(g,d)∈t
 | [],_,_,_,h=>by cases h
 | (g',d')::r,g,l,d,h=>by
  simp only[mf.find]at h
  cases J:W g' g&&d'.fits l with
  | true =>
   rw[J,cond_true]at h
   cases h
   simp only[I]at J
   rw[zA J.1]
   simp
  | false=>rw[J,cond_false]at h; exact zI _ (mf.Uq h)
def zy(P:Program)(g:Nat)(d:Ek):Prop:=∀ (O:KS) (x:eG d.ps) (xa:List Value) (y:E9 d.rs),O.st=[]->(d.F x).leads y->Inv O->wQ O (JO d.ps x) xa ->
 gO P g xa.toArray O.w λe w'=>∃ E:KS,E.w=w'/\E.st=[]/\Inv E/\Ext O E/\jl E (.ret (UH d.rs y)) e
def El(P:Program)(g:Nat):FnE->Prop
 | .d d=>zy P g d
 | .s d=>xx P g d
 | .p d=>jK P g d
def eQ(P:Program)(t:mf):Prop:=∀ p∈t,El P p.1 p.2
theorem TI(P:Program):eQ P []:=by nofun
theorem DR{P:Program}{g:Nat}{d:FnE}{t:mf}(h:El P g d)(ht:eQ P t):eQ P ((g,d)::t):=by
 intro p hp
 rcases zH.1 hp with rfl | hp
 ·exact h
 ·exact ht p hp
theorem N0{P:Program}{g:Nat}{d:Ek}{t:mf}(h:zy P g d)(ht:eQ P t):eQ P ((g,.d d)::t):=DR (d:=.d d) h ht
theorem Iw{P:Program}{g:Nat}{d:bC}{t:mf}(h:xx P g d)(ht:eQ P t):eQ P ((g,.s d)::t):=DR (d:=.s d) h ht
theorem Iv{P:Program}{g:Nat}{d:me}{t:mf}(h:jK P g d)(ht:eQ P t):eQ P ((g,.p d)::t):=DR (d:=.p d) h ht
theorem Ek.snd{P:Program}{g:Nat}{d:Ek}(h:zy P g d):E8 P g d.S:=by
 intro O args xa rs qm B hI ha
 unfold Ek.S at B
 split at B
 ·rename_i ud
  obtain⟨x,h1,X⟩:=T.zg.1 B
  obtain⟨y,h3,h4⟩:=T.zg.1 X
  cases h4
  exact h O x xa y ud h3 hI (Js ha (Yp _ _ _ h1))
 ·exact B.elim
theorem Dm{P:Program}{xid:Nat}{tab:mf}{ro:Nat->Bool}(h:eQ P tab):∀ g,E8 (bg P xid tab ro).P g ((bg P xid tab ro).fn g):=by
 intro g O args xa rs qm B hI ha
 simp only[bg,mf.call]at B
 split at B
 ·rename_i d V
  exact Ek.snd (h _ (mf.Uq V):El P g (.d d)) O args xa rs qm B hI ha
 ·rename_i d V
  exact bC.snd (h _ (mf.Uq V):El P g (.s d)) O args xa rs qm B hI ha
 ·rename_i d V
  exact me.snd (h _ (mf.Uq V):El P g (.p d)) O args xa rs qm B hI ha
 ·exact B.elim
section
variable {P:Program} {xid:Nat} {tab:mf} {ro:Nat->Bool} {α:Type}
def Nq(c:Ctx)(f:Option D)(args:List (Option D))(st:St)(d:D)(qm:St):Prop :=
 ∃ g caps l,f=some (.wj g caps)/\gQ args=some l/\(c.fn (eM g) (cm g l caps) st).leads (.bE d,qm)
def Nr(c:Ctx)(o:Oper)(s:oX)(d:D)(qm:St):Prop :=
 (∃ x t e,o.op=.panic x/\bO s.fr x=some d/\d=.iface t e/\qm=s.st) \/
 ∃ f args sV,o.op=.call ⟨.value f,args,sV⟩/\Nq c (bO s.fr f) (args.toList.map (bO s.fr)) s.st d qm
theorem Lt{f:Option D}{args:List (Option D)}{st:St}{k:Nat->Option D->St->T α}{kp:D->St->T α}{r:α}(h:(CH tab f args st k kp).leads r) :
  (∃ d qm,(qt (fx (bg P xid tab ro) f args) st).leads (d,qm)/\(k (fx (bg P xid tab ro) f args).kind d qm).leads r) \/
  ∃ d qm,Nq (bg P xid tab ro) f args st d qm/\(kp d qm).leads r:=by
 unfold CH at h
 split at h
 ·rename_i g caps l B
  unfold zal at h
  split at h
  ·exact h.elim
  ·rename_i d V
   have SI:(bg P xid tab ro).sig (eM g) (cm g l caps)=some ⟨d.ps,d.rs⟩:=by simp only[bg]; rw[V]
   have z1u:fx (bg P xid tab ro) (some (.wj g caps)) args=eR (bg P xid tab ro) (eM g) ⟨d.ps,d.rs⟩ (cm g l caps):=by simp only[fx,B,SI]
   rw[z1u]
   have hfn:∀ {st0:St} (x:eG d.ps) (y:E9 d.rs),(IC st0 d.ps (cm g l caps)).leads x->(d.F x).leads y->((bg P xid tab ro).fn (eM g) (JO d.ps x) []).leads (.ret (UH d.rs y),[]):=by
    intro st0 x y U hy
    simp only[bg,mf.call]
    rw[mf.find_eq tab (eM g) (Hb _ _ _ U) (I0 d.ps x) V]
    exact T.zg.2 ⟨x,DZ [] d.ps x,T.zg.2 ⟨y,hy,rfl⟩⟩
   cases hn : !((cm g l caps).any JQ)with
   | true =>
    rw[hn,cond_true]at h
    obtain⟨x,h1,X⟩:=T.zg.1 h
    obtain⟨y,h3,h4⟩:=T.zg.1 X
    have hc:eR (bg P xid tab ro) (eM g) ⟨d.ps,d.rs⟩ (cm g l caps)=.val ((QC [] d.ps (cm g l caps)).bind λl=>((bg P xid tab ro).fn (eM g) l []).bind z45):=by
     unfold eR; rw[hn]; rfl
    rw[hc]
    refine .inl ⟨_,_,T.zg.2 ⟨_,T.zg.2 ⟨_,Yp _ _ _ h1,T.zg.2 ⟨_,hfn x y h1 h3,rfl⟩⟩,rfl⟩,h4⟩
   | false =>
    rw[hn,cond_false]at h
    obtain⟨x,h1,X⟩:=T.zg.1 h
    obtain⟨y,h3,h4⟩:=T.zg.1 X
    have hc:eR (bg P xid tab ro) (eM g) ⟨d.ps,d.rs⟩ (cm g l caps)=.rd λst=>(QC st d.ps (cm g l caps)).bind λl=>((bg P xid tab ro).fn (eM g) l []).bind Wy:=by
     unfold eR; rw[hn]; rfl
    rw[hc]
    cases hs:(UH d.rs y).all WB with
    | false=>rw[hs]at h4; exact h4.elim
    | true =>
     rw[hs]at h4
     refine .inl ⟨_,_,T.zg.2 ⟨_,T.zg.2 ⟨_,Yp _ _ _ h1,T.zg.2 ⟨_,hfn x y h1 h3,?_⟩⟩,rfl⟩,h4⟩
     simp only[Wy,hs,cond_true]
     rfl
  ·rename_i d V
   have SI:(bg P xid tab ro).sig (eM g) (cm g l caps)=none:=by simp only[bg]; rw[V]
   have z1u:fx (bg P xid tab ro) (some (.wj g caps)) args=sY (bg P xid tab ro) (eM g) (cm g l caps):=by simp only[fx,B,SI]
   rw[z1u]
   obtain⟨ds,qm,h1,X⟩:=bC.z0a h
   refine .inl ⟨_,qm,T.zg.2 ⟨(.ret ds,qm),?_,rfl⟩,X⟩
   simp only[bg,mf.call]
   grind
  ·rename_i d V
   have SI:(bg P xid tab ro).sig (eM g) (cm g l caps)=none:=by simp only[bg]; rw[V]
   have z1u:fx (bg P xid tab ro) (some (.wj g caps)) args=sY (bg P xid tab ro) (eM g) (cm g l caps):=by simp only[fx,B,SI]
   rw[z1u]
   rcases me.z0a h with⟨ds,qm,h1,X⟩ | ⟨p,qm,h1,X⟩
   ·refine .inl ⟨_,qm,T.zg.2 ⟨(.ret ds,qm),?_,rfl⟩,X⟩
    simp only[bg,mf.call]
    grind
   ·refine .inr ⟨p,qm,⟨g,caps,l,rfl,B,?_⟩,X⟩
    simp only[bg,mf.call]
    grind
 ·exact h.elim
theorem Qv{o:Oper}{s:oX}{k:oX->T α}{kp:D->St->T α}{r:α}(h:(WE (bg P xid tab ro) tab n o s k kp).leads r) :
  (∃ s',(lO (bg P xid tab ro) n o s).leads s'/\(k s').leads r)\/∃ d qm,Nr (bg P xid tab ro) o s d qm/\(kp d qm).leads r:=by
 unfold WE at h
 unfold lO
 cases V:gD n o.dst with
 | false=>rw[V]at h; exact h.elim
 | true =>
  rw[V,cond_true]at h
  rw[cond_true]
  obtain⟨dst,op,ty,pos,after,guard⟩:=o
  have gen:((qt (QI (bg P xid tab ro) s.kn s.fr ⟨dst,op,ty,pos,after,guard⟩) s.st).bind λr=>k ⟨s.fr.put dst r.1,HW s.kn dst (HP s.kn op),r.2,(QI (bg P xid tab ro) s.kn s.fr ⟨dst,op,ty,pos,after,guard⟩).kind::s.ks,vx (bg P xid tab ro) (bO s.fr) s.st ⟨dst,op,ty,pos,after,guard⟩::s.bk⟩).leads r ->
    ∃ s',(let cl:=QI (bg P xid tab ro) s.kn s.fr ⟨dst,op,ty,pos,after,guard⟩; (qt cl s.st).bind λr=>T.ret (⟨s.fr.put dst r.1,HW s.kn dst (HP s.kn op),r.2,cl.kind::s.ks,vx (bg P xid tab ro) (bO s.fr) s.st ⟨dst,op,ty,pos,after,guard⟩::s.bk⟩:oX)).leads s'/\(k s').leads r:=by
   intro h
   obtain⟨x,h1,X⟩:=T.zg.1 h
   exact⟨_,T.zg.2 ⟨x,h1,rfl⟩,X⟩
  cases op with
  | call cl =>
   obtain⟨callee,args,sV⟩:=cl
   cases callee with
   | value f =>
    rcases Lt (P:=P) (xid:=xid) (ro:=ro) h with⟨d,qm,h1,X⟩ | ⟨d,qm,h1,X⟩
    ·exact .inl ⟨_,T.zg.2 ⟨(d,qm),h1,rfl⟩,X⟩
    ·exact .inr ⟨d,qm,.inr ⟨f,args,sV,rfl,h1⟩,X⟩
   | _=>grind
  | panic x =>
   simp only at h
   split at h
   ·rename_i t e U
    exact .inr ⟨_,_,.inl ⟨x,t,e,rfl,U,rfl,rfl⟩,h⟩
   ·exact h.elim
  | _=>grind
theorem TE{ops:Array Oper}{o:Oper}{s:oX}{k:oX->T α}{kp:D->St->T α}{r:α}(hkn:yV s.kn s.fr.get)(h:(MU (bg P xid tab ro) tab n ops o s k kp).leads r) :
  (∃ s',(stepG (bg P xid tab ro) n ops o s).leads s'/\(k s').leads r)\/∃ d qm,jO ops s.fr.get o=some true/\Nr (bg P xid tab ro) o s d qm/\(kp d qm).leads r:=by
 obtain⟨dst,op,ty,pos,after,guard⟩:=o
 cases guard with
 | none =>
  rcases Qv h with h | ⟨d,qm,h1,X⟩
  ·exact .inl h
  ·exact .inr ⟨d,qm,rfl,h1,X⟩
 | some jw =>
  obtain⟨j,want⟩:=jw
  simp only[MU]at h
  simp only[stepG]
  cases hg:bR ops j with
  | none=>rw[hg]at h; exact h.elim
  | some t =>
   rw[hg]at h
   simp only at h ⊢
   cases hk:s.kn.get t with
   | some b =>
    rw[hk]at h
    simp only at h ⊢
    have hw:jO ops s.fr.get ⟨dst,op,ty,pos,after,some (j,want)⟩=some (b==want):=by simp[jO,hg,hkn t b hk]
    cases J:b==want with
    | true =>
     rw[J,cond_true]at h; rw[cond_true]
     rcases Qv h with h | ⟨d,qm,h1,X⟩
     ·grind
     ·grind
    | false =>
     rw[J,cond_false]at h; rw[cond_false]
     cases V:gD n dst with
     | true=>rw[V,cond_true]at h; exact .inl ⟨_,rfl,h⟩
     | false=>rw[V,cond_false]at h; exact h.elim
   | none =>
    rw[hk]at h
    simp only at h ⊢
    split at h
    ·rename_i x hf
     rw[hf]
     simp only
     have hw:jO ops s.fr.get ⟨dst,op,ty,pos,after,some (j,want)⟩=some (x==want):=by simp[jO,hg,hf]
     cases V:gD n dst with
     | false=>rw[V]at h; exact h.elim
     | true =>
      rw[V,cond_true]at h; rw[cond_true]
      rcases h with⟨U,h⟩ | ⟨U,h⟩
      ·subst U
       cases want with
       | true =>
        rw[cond_true]at h
        rcases Qv h with⟨s',h1,X⟩ | ⟨d,qm,h1,X⟩
        ·exact .inl ⟨s',.inl ⟨rfl,h1⟩,X⟩
        ·exact .inr ⟨d,qm,hw,h1,X⟩
       | false=>rw[cond_false]at h; exact .inl ⟨_,.inl ⟨rfl,rfl⟩,h⟩
      ·subst U
       cases want with
       | true=>rw[cond_true]at h; exact .inl ⟨_,.inr ⟨rfl,rfl⟩,h⟩
       | false =>
        rw[cond_false]at h
        rcases Qv h with⟨s',h1,X⟩ | ⟨d,qm,h1,X⟩
        ·exact .inl ⟨s',.inr ⟨rfl,h1⟩,X⟩
        ·exact .inr ⟨d,qm,hw,h1,X⟩
    ·rename_i hf
     rw[hf]
     simp only
     cases V:gD n dst with
     | true=>rw[V,cond_true]at h; exact .inl ⟨_,rfl,h⟩
     | false=>rw[V,cond_false]at h; exact h.elim
    ·exact h.elim
def L4(c:Ctx)(n:Nat)(ops:Array Oper)(l:List Oper)(s:oX)(d:D)(qm:St):Prop :=
 ∃ pre o post s1,l=pre++o::post/\(tX c n ops pre s).leads s1/\jO ops s1.fr.get o=some true/\Nr c o s1 d qm
theorem VN{ops:Array Oper}:∀ (l:List Oper) {s:oX} {k:oX->T α} {kp:D->St->T α} {r:α},yV s.kn s.fr.get->(∀ o∈l,∃ i:Nat,ops[i]? = some o)->(Yl (bg P xid tab ro) tab n ops l s k kp).leads r ->
  (∃ s',(tX (bg P xid tab ro) n ops l s).leads s'/\(k s').leads r)\/∃ d qm,L4 (bg P xid tab ro) n ops l s d qm/\(kp d qm).leads r
 | [],s,k,kp,r,_,_,h=>.inl ⟨s,rfl,h⟩
 | o::l,s,k,kp,r,hk,B,h=>by
  rcases TE hk h with⟨s1,h1,X⟩ | ⟨d,qm,h1,X,h3⟩
  ·obtain⟨i,hi⟩:=B o zQ
   obtain⟨_,_,hk1,_⟩:=C9 hi hk h1
   rcases VN l hk1 (λo' ho=>B o' (zI _ ho)) X with⟨s2,h3,h4⟩ | ⟨d,qm,⟨pre,o',post,s2,e,g1,g2,g3⟩,h4⟩
   ·exact .inl ⟨s2,T.zg.2 ⟨s1,h1,h3⟩,h4⟩
   ·exact .inr ⟨d,qm,⟨o::pre,o',post,s2,wa,T.zg.2 ⟨s1,h1,g1⟩,g2,g3⟩,h4⟩
  ·exact .inr ⟨d,qm,⟨[],o,l,s,rfl,rfl,h1,X⟩,h3⟩
theorem HY{ops:Array Oper}{draw:Bool}{fr:Fr}{kn:Kn}{st:St}{k:oX->T α}{kp:D->St->T α}{r:α}(hk:yV kn fr.get)(h:(GU (bg P xid tab ro) tab n ops draw fr kn st k kp).leads r) :
  (∃ s',(pW (bg P xid tab ro) n ops draw fr kn st).leads s'/\(k s').leads r)\/∃ d qm,draw=false/\L4 (bg P xid tab ro) n ops ops.toList ⟨fr,kn,st,[],[]⟩ d qm/\(kp d qm).leads r:=by
 rcases VN _ hk (λo ho=>by obtain⟨i,hi,he⟩:=List.getElem_of_mem ho; exact⟨i,wa⟩) h with⟨s',h1,X⟩ | ⟨d,qm,h1,X⟩
 ·cases V : !draw||Vi ops s'.ks.reverse s'.bk.reverse with
  | false=>rw[V]at X; exact X.elim
  | true =>
   rw[V,cond_true]at X
   refine .inl ⟨s',T.zg.2 ⟨s',h1,?_⟩,X⟩
   rw[V]; rfl
 ·cases draw with
  | true=>exact X.elim
  | false=>grind
end
end
end Go.AM
namespace Go.AM
set_option linter.unusedSectionVars false
variable [gB] [B8]
open Go.RowKit
theorem Gn{α β:Type}{f:α->β}{t:T α}{x:α}(h:t.leads x):(FX f t).leads (f x):=by
 induction t with
 | ret a=>exact congrArg f h
 | ite b p q ip iq=>exact so h (λh=>⟨h.1,ip h.2⟩) (λh=>⟨h.1,iq h.2⟩)
 | zl p t ih=>exact⟨h.1,ih h.2⟩
 | fail=>exact h.elim
theorem Rv:∀ (l:List It) (d:kc l) (t:T (kc l)) (x:kc l),t.leads x->TN l d t=x
 | [],_,_,_,_=>rfl
 | [_],d,t,x,h=>((T.GO d t x).1 h).2
 | i::j::r,d,t,x,h=>by
  have h1:=((T.GO d.1 _ _).1 (Gn (f:=Prod.fst) h)).2
  have X:=Rv (j::r) d.2 _ _ (Gn (f:=Prod.snd) h)
  show(T.val d.1 (FX Prod.fst t),TN (j::r) d.2 (FX Prod.snd t))=x
  rw[h1,X]
  exact rfl
theorem Ts{α:Type}(t:T α)(h:t.KV):∃ x,t.leads x:=by
 induction t with
 | ret a=>exact⟨a,rfl⟩
 | ite b p q ip iq =>
  unfold T.KV at h ip iq
  simp only[T.J2]at h
  cases b with
  | true =>
   obtain⟨x,U⟩:=ip (wa)
   exact⟨x,.inl ⟨rfl,U⟩⟩
  | false =>
   obtain⟨x,U⟩:=iq (wa)
   exact⟨x,.inr ⟨rfl,U⟩⟩
 | zl p t ih =>
  unfold T.KV at h ih
  simp only[T.J2]at h
  cases ht:t.J2 with
  | none=>rw[ht]at h ih; obtain⟨x,U⟩:=ih trivial; exact⟨x,h,U⟩
  | some q=>rw[ht]at h ih; obtain⟨x,U⟩:=ih h.2; exact⟨x,h.1,U⟩
 | fail=>exact h.elim
theorem F8{l:List It}{t:T (kc l)}{x:kc l}(h:(z0U l t).leads x):t.leads x:=by
 unfold z0U at h
 split at h
 ·rename_i d V
  have key:t.KV->TN l d t=x->t.leads x:=by
   intro hp hv
   obtain⟨y,hy⟩:=Ts t hp
   rw[<- hv,Rv l d t y hy]; exact hy
  split at h
  ·rename_i hn; exact key (by unfold T.KV; rw[hn]; trivial) h
  ·rename_i p hn; exact key (by unfold T.KV; rw[hn]; exact h.1) h.2
 ·exact h.elim
def RIs(ws:List Way)(r:iG ws)(w:Way)(x:w.sh.den):Prop:=∀ {α:Type} (k:Ex->Fr->St->T α),NK ws r k=k w.ex (w.sh.fr x) (w.sh.st x)
theorem De:∀ (ws:List Way) (ex:Ex) (fr:Fr) (st:St) (r:iG ws),(Dd ws ex fr st).leads r->∃ w,w∈ws/\∃ x:w.sh.den,RIs ws r w x/\XP w.ex ex=true/\(w.sh.un fr st).leads x
 | [],_,_,_,_,h=>h.elim
 | [w],ex,fr,st,r,h=>by
  have h:(bif XP w.ex ex then w.sh.un fr st else .fail:T w.sh.den).leads r:=h
  cases hs:XP w.ex ex with
  | false=>rw[hs]at h; exact h.elim
  | true=>rw[hs]at h; exact⟨w,qu,r,λk=>rfl,hs,h⟩
 | w::v::ws,ex,fr,st,r,h=>by
  have h:(bif XP w.ex ex then(w.sh.un fr st).bind λx=>T.ret (qR x:w.sh.den⊕iG (v::ws))else(Dd (v::ws) ex fr st).bind λy=>T.ret (qM y)).leads r:=h
  cases hs:XP w.ex ex with
  | true =>
   rw[hs]at h
   obtain⟨x,h1,X⟩:=T.zg.1 h
   subst X
   exact⟨w,qu,x,λk=>rfl,hs,h1⟩
  | false =>
   rw[hs]at h
   obtain⟨y,h1,X⟩:=T.zg.1 h
   subst X
   obtain⟨w',k1,x,k2,k3,k4⟩:=De (v::ws) ex fr st y h1
   exact⟨w',zI _ k1,x,λk=>k2 k,k3,k4⟩
def zc0(O:KS)(n:Nat)(w:Way)(z:w.sh.den)(a:Act)(tk:Exit):Prop:=∀ q,F3 w.ex (w.sh.fr z)=some q->Rel O n q.2.get a/\Ej O q.1 tk
theorem z4z{κ0 O:KS}{n:Nat}{a:Act}{w:Way}{z:w.sh.den}{oex:Ex}{ofr:Fr}{tk:Exit}(U:Ext κ0 O)(hI:Inv O)(hR:Rel O n ofr.get a)(he:Ej O oex tk)(hs:XP w.ex oex=true)(B:κ0.st.length<=w.sh.bs.length)
  (h:(w.sh.un (HB oex ofr) O.st).leads z):∃ κ1:KS,κ1.w=O.w/\κ1.st=w.sh.st z/\Inv κ1/\Ext κ0 κ1/\zc0 κ1 n w z a tk:=by
 have plain:HB oex ofr=ofr->(∀ q,F3 w.ex (w.sh.fr z)=some q->q.2=w.sh.fr z/\∀ κ1:KS,Ej κ1 q.1 tk)->∃ κ1:KS,κ1.w=O.w/\κ1.st=w.sh.st z/\Inv κ1/\Ext κ0 κ1/\zc0 κ1 n w z a tk:=by
  intro e1 e2
  rw[e1]at h
  obtain⟨κ1,q1,q2,q3,q4,q5,_⟩:=w.sh.KD (n:=n) U hI hR B h
  exact⟨κ1,q1,q2,q3,q4,λq hq=>by obtain⟨g1,g2⟩:=e2 q hq; rw[g1]; exact⟨q5,g2 κ1⟩⟩
 cases hw:w.ex with
 | normal =>
  rw[hw]at hs
  cases oex<;>first | (cases hs; done) | skip
  exact plain rfl λq hq=>by rw[hw]at hq; cases hq; exact⟨rfl,λ_=>he⟩
 | ret =>
  rw[hw]at hs
  cases oex<;>first | (cases hs; done) | skip
  exact plain rfl λq hq=>by rw[hw]at hq; cases hq; exact⟨rfl,λ_=>he⟩
 | exit id =>
  rw[hw]at hs
  cases oex<;>first | (cases hs; done) | skip
  rename_i id'
  have:id=id':=zA hs
  subst this
  exact plain rfl λq hq=>by rw[hw]at hq; cases hq; exact⟨rfl,λ_=>he⟩
 | bE p =>
  rw[hw]at hs
  cases p<;>first | (cases hs; done) | skip
  rename_i t p
  cases oex<;>first | (cases hs; done) | skip
  rename_i p'
  cases p'<;>first | (cases hs; done) | skip
  rename_i t' d
  have:t=t':=zA hs
  subst this
  obtain⟨v,rfl,hv⟩:=he
  cases hv with
  | iface _ _ u hu =>
   have Bv:Rel O 1 (HB (.bE (.iface t d)) ofr).get { tmps := #[u],defers:=B8.df }:=by
    refine⟨rfl,rfl,λs d' V => ?_⟩
    simp only[HB,Fr.get]at V
    cases J:W 0 s with
    | true =>
     have:=zA J
     grind
    | false=>grind
   obtain⟨κ1,q1,q2,q3,q4,q5,_⟩:=w.sh.KD (n:=1) U hI Bv B h
   refine⟨κ1,q1,q2,q3,q4,λq hq => ?_⟩
   rw[hw]at hq
   simp only[F3]at hq
   split at hq
   ·rename_i d' dM
    cases hq
    obtain⟨v',g1,g2⟩:=q5.get 0 d' dM
    cases g1
    exact⟨⟨hR.size,hR.defers,λs d V=>by cases V⟩,_,rfl,.iface t d' _ g2⟩
   ·cases hq
theorem Zp(st:St):∀ (bs:List Bk) (bd:List Bd),(jN st bs bd).length<=bs.length
 | [],_=>by simp[jN]
 | .arr _::r,[]=>by simp[jN]
 | .arr _::r,.v _ _::_=>by simp[jN]
 | .arr _::r,.a _ _::d=>by have:=Zp st r d; simp[jN]; exact this
 | .var _::r,[]=>by simp[jN]
 | .var _::r,.a _ _::_=>by simp[jN]
 | .var _::r,.v _ _::d=>by have:=Zp st r d; simp[jN]; exact this
 | .cvar _::r,d=>by have:=Zp st r d; cases d<;>(simp[jN]; exact this)
 | .dead::r,d=>by have:=Zp st r d; cases d<;>(simp[jN]; exact this)
theorem uz.XR(s:uz)(x:s.den):(s.st x).length<=s.bs.length:=Zp _ _ _
theorem Kb{l m:Fr}{s:Nat}{d:D}(h:(l++m).get s=some d):l.get s=some d\/m.get s=some d:=by
 induction l with
 | nil=>grind
 | cons p r ih =>
  simp only[qJ,Fr.get]at h ⊢
  grind
theorem Th{l:List Nat}{fr:Fr}{s:Nat}{d:D}(h:(oR l++fr).get s=some d):s ∉ l/\fr.get s=some d:=by
 induction l with
 | nil=>exact⟨qu,h⟩
 | cons t r ih =>
  simp only[oR,qI,qJ,Fr.get]at h
  cases ht:W t s with
  | true=>grind
  | false =>
   rw[ht,cond_false]at h
   obtain⟨h1,X⟩:=ih h
   refine⟨?_,X⟩
   simp
   exact⟨λe=>by subst e; simp at ht,h1⟩
theorem Um{o:Oper}{s:Nat}:∀ {l:List Oper},o∈l->o.dst=some s->s∈dstsOf l
 | p::r,h,hs=>by
  simp only[dstsOf]
  rcases zH.1 h with rfl | h
  ·grind
  ·split
   ·exact zI _ (Um h hs)
   ·exact Um h hs
def Kept(code:Code)(a a':Act):Prop:=∀ s:Nat,s ∉ wJ code->a'.tmps[s]? = a.tmps[s]?
section
variable {P:Program} {xid:Nat} {tab:mf} {ro:Nat->Bool} {n:Nat} {H:Hints}
theorem Ww{O E:KS}{fr out:Fr}{a a':Act}{ws:List Nat}(hR:Rel O n fr.get a)(U:Ext O E)(ho:Rel E n out.get a')(hk:∀ s:Nat,s ∉ ws->a'.tmps[s]? = a.tmps[s]?):Rel E n (out++(oR ws++fr)).get a':=by
 refine⟨ho.size,ho.defers,λs d V => ?_⟩
 rcases Kb V with h | h
 ·exact ho.get s d h
 ·obtain⟨h1,X⟩:=Th h
  obtain⟨v,g1,g2⟩:=hR.get s d X
  exact⟨v,(hk s h1).trans g1,g2.mono U⟩
theorem DM{c:Ctx}{ops:Array Oper}:∀ (l:List Oper) (s s':oX),(tX c n ops l s).leads s'->quiet s'.ks=true->s'.st=s.st/\quiet s.ks=true:=by
 have hq:∀ {k:Nat} {ks:List Nat},quiet (k::ks)=true->W k 2=false/\quiet ks=true:=by
  intro k ks h
  simp only[quiet,zF,I,qF]at h
  exact⟨h.1,by unfold quiet; exact h.2⟩
 have one:∀ (o:Oper) (s s1:oX),(lO c n o s).leads s1->quiet s1.ks=true->s1.st=s.st/\quiet s.ks=true:=by
  intro o s s1 h hk
  unfold lO at h
  cases V:gD n o.dst with
  | false=>rw[V]at h; exact h.elim
  | true =>
   rw[V,cond_true]at h
   obtain⟨r,h1,X⟩:=T.zg.1 h
   cases X
   obtain⟨g1,g2⟩:=hq hk
   refine⟨?_,g2⟩
   show r.2=s.st
   generalize QI c s.kn s.fr o=cl at h1 g1
   cases cl with
   | val t=>obtain⟨d,_,h3⟩:=T.zg.1 h1; cases h3; rfl
   | rd k=>obtain⟨d,_,h3⟩:=T.zg.1 h1; cases h3; rfl
   | wr k=>cases g1
 have skp:∀ (o:Oper) (s:oX),quiet (da o s).ks=true->(da o s).st=s.st/\quiet s.ks=true:=λo s h=>⟨rfl,(hq h).2⟩
 have gd:∀ (o:Oper) (s s1:oX),(stepG c n ops o s).leads s1->quiet s1.ks=true->s1.st=s.st/\quiet s.ks=true:=by
  intro o s s1 h hk
  obtain⟨dst,op,ty,pos,after,guard⟩:=o
  cases guard with
  | none=>exact one _ s s1 h hk
  | some jw =>
   obtain⟨j,want⟩:=jw
   simp only[stepG]at h
   cases hg:bR ops j with
   | none=>rw[hg]at h; exact h.elim
   | some t =>
    rw[hg]at h
    simp only at h
    cases hkn:s.kn.get t with
    | some b =>
     rw[hkn]at h
     simp only at h
     cases J:b==want with
     | true=>grind
     | false =>
      rw[J,cond_false]at h
      cases V:gD n dst with
      | false=>rw[V]at h; exact h.elim
      | true=>rw[V,cond_true]at h; cases h; exact skp _ s hk
    | none =>
     rw[hkn]at h
     simp only at h
     split at h
     ·cases V:gD n dst with
      | false=>rw[V]at h; exact h.elim
      | true =>
       rw[V,cond_true]at h
       rcases h with⟨_,h⟩ | ⟨_,h⟩
       ·cases want with
        | true=>rw[cond_true]at h; exact one _ (s.lT t true) s1 h hk
        | false=>rw[cond_false]at h; cases h; exact skp _ (s.lT t true) hk
       ·cases want with
        | true=>rw[cond_true]at h; cases h; exact skp _ (s.lT t false) hk
        | false=>rw[cond_false]at h; exact one _ (s.lT t false) s1 h hk
     ·cases V:gD n dst with
      | false=>rw[V]at h; exact h.elim
      | true=>rw[V,cond_true]at h; cases h; exact skp _ s hk
     ·exact h.elim
 intro l
 induction l with
 | nil=>intro s s' h hk; cases h; exact⟨rfl,hk⟩
 | cons o l ih =>
  intro s s' h hk
  obtain⟨s1,h1,X⟩:=T.zg.1 h
  obtain⟨g1,g2⟩:=ih s1 s' X hk
  obtain⟨k1,k2⟩:=gd o s s1 h1 g2
  exact⟨g1.trans k1,k2⟩
theorem DG{c:Ctx}{ops:Array Oper}{draw:Bool}{fr:Fr}{kn:Kn}{st:St}{s':oX}(h:(pW c n ops draw fr kn st).leads s')(hq:quiet s'.ks=true):s'.st=st:=by
 obtain⟨s1,h1,X⟩:=T.zg.1 h
 cases V:(!draw||Vi ops s1.ks.reverse s1.bk.reverse)with
 | false=>rw[V]at X; exact X.elim
 | true=>rw[V,cond_true]at X; cases X; exact(DM _ _ _ h1 hq).1
theorem z0x{c:Ctx}{O:KS}{a:Act}{o:Oper}{g:Nat}{args:Array Value}{oE:Ending->World->Prop}(jV:(execOp a.eval o).run c.P O.w=(callFunc g args).run c.P O.w)
  (h:gO c.P g args O.w oE) {K:Act->World->Prop} {Q:Exit->Act->World->Prop} (hR:∀ e w',oE e w'->∃ ch,e=.panicked ch/\Q (.panic ch) a w'):o.wp c.P a O.w K Q:=by
 unfold Oper.wp
 rw[jV]
 rcases h with⟨h1,X⟩ | ⟨v,w',h1,X⟩
 ·rw[h1]
  refine X.mono λe w' he => ?_
  grind
 ·grind
theorem z3R{c:Ctx}{O:KS}{n:Nat}{a:Act}{o:Oper}{s:oX}{d:D}{qm:St}(hC:∀ g,E8 c.P g (c.fn g))(hI:Inv O)(hR:Rel O n s.fr.get a)(ud:O.st=s.st)(h:Nr c o s d qm){K:Act->World->Prop}{Q:Exit->Act->World->Prop}
  (hQ:∀ (v:Value) (E:KS),E.st=qm->Inv E->Ext O E->RD E d v->Q (.panic [{ v,recovered:=false }]) a E.w):o.wp c.P a O.w K Q:=by
 have lX:∀ (x:Operand) (z:D),bO s.fr x=some z->RD O z (a.eval x):=λx z hz=>hR.eval (by rw[<- iS]; exact hz)
 obtain⟨dst,op,ty,pos,after,guard⟩:=o
 rcases h with⟨x,t,e,rfl,U,rfl,rfl⟩ | ⟨f,args,sV,rfl,g,caps,l,hp,B,hc⟩
 ·have hv:=lX x _ U
  generalize Fv:a.eval x=pv at hv
  cases hv with
  | iface _ _ u hu =>
   have jV:(execOp a.eval ⟨dst,.panic x,ty,pos,after,guard⟩).run c.P O.w=.halt (.panic (.iface t u)) O.w:=by
    simp[execOp,Fv,Instr.panic]
   unfold Oper.wp
   rw[jV]
   exact hQ _ O ud hI (Ext.refl O) (.iface t e u hu)
 ·have hpv:=lX f _ hp
  have hr:=ig (O:=O) (vs:=args.toList.map a.eval) B (qu) (λi d v V hv=>by
      simp only[List.getElem?_map]at V hv
      cases hi:args.toList[i]? with
      | none=>grind
      | some x=>rw[hi]at V hv; simp at V hv; subst hv; exact lX x d V)
  generalize Fv:a.eval f=pv at hpv
  cases hpv with
  | wj _ _ us Q7 hh2 =>
   have Q6:=YH g hr (⟨Q7,hh2⟩:wQ O caps us)
   rw[<- ud]at hc
   refine z0x (c:=c) (O:=O) (g:=eM g) (args:=(cm g (args.toList.map a.eval) us).toArray) ?_ (hC (eM g) O _ _ _ _ hc hI Q6) ?_
   ·exact EE Fv
   ·rintro e w' ⟨E,rfl,h1,X,h3,v,rfl,h4⟩
    grind
theorem To{c:Ctx}{O:KS}{n:Nat}{a:Act}{id:Nat}{ops:Array Oper}{fr:Fr}{kn:Kn}{d:D}{qm:St}(hC:∀ g,E8 c.P g (c.fn g))(hI:Inv O)(hR:Rel O n fr.get a)(hk:yV kn fr.get)
  (h:L4 c n ops ops.toList ⟨fr,kn,O.st,[],[]⟩ d qm) {Q:Exit->Act->World->Prop}
  (hQ:∀ (v:Value) (a':Act) (E:KS),E.st=qm->Inv E->Ext O E->Rel E n (Fr.get []) a'->pY ops a a'->RD E d v->Q (.panic [{ v,recovered:=false }]) a' E.w):(Code.region id ops false).wp c.P Q a O.w:=by
 obtain⟨pre,o,post,s1,e,h1,X,h3⟩:=h
 have SE:∀ j:Nat,ops[j]? = (pre++o::post)[j]? := λj=>by rw[<- e]; simp
 obtain⟨ks,g1,g2,_⟩:=sx pre 0 ⟨fr,kn,O.st,[],[]⟩ s1 (λj=>by
  by_cases hj:j<pre.length
  ·grind
  ·right; omega) hk h1
 have cp:zX ops.size=List.range' 0 pre.length++pre.length::List.range' (pre.length+1) post.length:=by
  have:ops.size=pre.length+(post.length+1):=by rw[<- qB,e]; simp
  rw[this,List.range_eq_range',<- List.range'_append_1,qD,List.range'_succ]
 refine wp_region ?_
 rw[cp]
 refine JT hC _ _ hI hR rfl g1 λa' E e1 e2 e3 e4 e5 => ?_
 rw[wpOps_cons]
 unfold wpOp
 have ho:ops[pre.length]? = some o:=by rw[SE]; simp
 rw[ho]
 simp only
 rw[if_pos (ZB e4 X)]
 exact .inl (z3R hC e2 e4 e1 h3 λv TQ f1 f2 f3 f4=>hQ v a' TQ f1 f2 (e3.trans f3) ⟨e4.size,e4.defers,λs d V=>by cases V⟩ e5 f4)
def U0(P:Program)(n:Nat)(l:q8)(b:Code):Prop:=∀ (O:KS) (a:Act) (p:kc l.ps) (s:l.sh.den) (r:iG l.ws),(l.F p s).leads r->O.st=l.sh.st s->Inv O ->
 Rel O n (l.sh.fr s).get a->Rel O n (nO (l.sh.st s) l.ps p).get a->MF l.ps (wJ b)=true->(∀ w∈l.ws,l.sh.bs.length<=w.sh.bs.length) ->
 ∀ Q:Exit->Act->World->Prop,(∀ (w:Way) (x:w.sh.den) (tk:Exit) (a':Act) (E:KS),w∈l.ws->RIs l.ws r w x->E.st=w.sh.st x->Inv E->Ext O E->zc0 E n w x a' tk->Kept b a a'->Q tk a' E.w) ->
  (Code.loop b).wp P Q a O.w
def gP(P:Program)(n:Nat)(H:Hints)(code:Code):Prop:=∀ p∈uh code,∀ l,H.loop p.1=some l->U0 P n l p.2
theorem z0Y{kn:Kn}:∀ (l:List Nat) {fr:Fr} {st:St} {r:Fr×St},(frz l fr st).leads r->yV kn fr.get->yV kn r.1.get
 | [],fr,st,r,h,hk=>by cases h; exact hk
 | s::l,fr,st,r,h,hk=>by
  obtain⟨x,h1,X⟩:=T.zg.1 h
  refine z0Y l X λt b J => ?_
  have hf:=hk t b J
  unfold z6J at h1
  cases hW:zM 1000000 s with
  | true =>
   rw[hW,cond_true]at h1
   have hfr:x.1=fr:=by
    unfold z6H at h1
    split at h1
    ·split at h1
     ·split at h1
      ·split at h1
       ·obtain⟨_,h1⟩:=h1; cases h1; rfl
       ·exact h1.elim
      ·exact h1.elim
     ·cases h1; rfl
    ·cases h1; rfl
   grind
  | false =>
  rw[hW,cond_false]at h1
  unfold z6F at h1
  split at h1
  ·rename_i b' vk e off len hs
   split at h1
   ·split at h1
    ·obtain⟨_,h1⟩:=h1
     cases h1
     simp only[Fr.get]
     cases ht:W s t with
     | true=>rw[<- zA ht,hs]at hf; cases hf
     | false=>grind
    ·exact h1.elim
   ·exact h1.elim
  ·cases h1; exact hf
theorem z4d{c:Ctx}{t e:Nat}(hu:c.P.underlying t=some (.slice e)){op:BinOp}{b:Bool}(hop:z3n op=some b)(px py:Operand)(w:World)(x:Option Addr)(l k:Nat) :
  (do eqGuard op t px py (.slice x l k) (.slice none 0 0); binOp op t (.slice x l k) (.slice none 0 0):Sem Value).run c.P w=.ok (.bool (if b=true then x.isNone else !x.isNone)) w:=by
 cases op<;>simp only[z3n]at hop<;>cases hop
 ·have:=run_eql_slice_nil (P:=c.P) w t e x l k hu
  simp only[eqGuard]
  simpa using this
 ·have:=run_neq_slice_nil (P:=c.P) w t e x l k hu
  simp only[eqGuard]
  simpa using this
theorem Mn{ops:Array Oper}{fr:Fr}{p:zfj}(hp:Ds (bg P xid tab ro) n ops fr=some p){O:KS}{a:Act}{kn:Kn}(hI:Inv O)(hR:Rel O n fr.get a)(hk:yV kn fr.get){id:Nat}(Q:Exit->Act->World->Prop)
  (hQ:∀ a':Act,Kept (.region id ops false) a a' ->
   ((p.l=[]/\Rel O n (Fr.get ((p.c,some (.qi .bool p.eq))::(p.m,some .wH)::(p.s,some .wH)::fr)) a')\/Rel O n (Fr.get ((p.c,some (.qi .bool (!p.eq)))::(p.m,some (.qi (.sl p.e) p.l))::fr)) a')->Q .normal a' O.w) :
  (Code.region id ops false).wp P Q a O.w:=by
 unfold Ds at hp
 split at hp
 ·rename_i o1 o2 hops
  split at hp
  ·rename_i m s hd1 ho1 TU
   split at hp
   ·rename_i cc op t m' y ty' hd2 ho2 hg2
    split at hp
    ·rename_i b e l et hop hs hel
     cases hc:W m m'&&M6 y&&zO m n&&zO cc n with
     | false=>grind
     | true =>
      rw[hc,cond_true]at hp
      cases hp
      simp only[I]at hc
      obtain⟨⟨⟨hmm,hy⟩,hmn⟩,hcn⟩:=hc
      have:=zA hmm
      subst this
      have hy':y=.const (.slice none 0 0):=by
       unfold M6 at hy
       grind
      subst hy'
      obtain⟨v,hv,dM⟩:=hR.get s _ hs
      obtain⟨x,k,hvs⟩:∃ (x:Option Addr) (k:Nat),v=.slice x l.length k/\(x=none->l=[]/\k=0):=by
       rcases(dM.jQ rfl).tY with⟨rfl,a0,he⟩ | ⟨blk,off,cap,f,he,j9,jq,h1,X⟩
       ·grind
       ·grind
      obtain⟨rfl,hvn⟩:=hvs
      have cp:ops.size=2:=by rw[<- qB,hops]; rfl
      have e0:ops[0]? = some o1:=by rw[<- qO,hops]; rfl
      have e1:ops[1]? = some o2:=by rw[<- qO,hops]; rfl
      have zoR:m<n:=zE hmn
      have ztt:cc<n:=zE hcn
      have hsl:a.tmps.getD s undef=.slice x l.length k:=by simp[qC,hv]
      have wan:∀ (o:Oper) (ys:Nat->Option Value),o.guard=none->True:=λ_ _ _=>trivial
      refine wp_region ?_
      rw[cp,show zX 2=[0,1]from rfl,wpOps_cons]
      unfold wpOp
      rw[e0]
      simp only
      rw[if_pos (by unfold Region.wanted; rw[TU])]
      refine .inl ?_
      obtain⟨d1,op1,ty1,zeg,af1,gu1⟩:=o1
      obtain⟨d2,op2,Cg,z9I,af2,gu2⟩:=o2
      simp only at hd1 ho1 TU hd2 ho2 hg2
      subst hd1 ho1 TU hd2 ho2 hg2
      have hx1:(execOp a.eval ⟨some m,.move (.tmp s),ty1,zeg,af1,none⟩).run P O.w=.ok (.value (.slice x l.length k)) O.w:=by
       simp[execOp,Act.eval,hsl]
      unfold Oper.wp
      rw[hx1,Oper.upon_value,wpOps_cons]
      unfold wpOp
      rw[e1]
      simp only
      rw[if_pos (by unfold Region.wanted; rfl)]
      refine .inl ?_
      have lX:(a.put (some m) (.slice x l.length k)).eval (.tmp m)=.slice x l.length k:=by
       have:=hR.size
       simp[Act.eval,Act.put,qC,qA,this,zoR]
      have hu:=ga hel
      have jV:=z4d (c:=bg P xid tab ro) hu hop (.tmp m) (.const (.slice none 0 0)) O.w x l.length k
      have Da:(execOp (a.put (some m) (.slice x l.length k)).eval ⟨some cc,.binOp op t (.tmp m) (.const (.slice none 0 0)) ty',Cg,z9I,af2,none⟩).run P O.w=.ok (.value (.bool (if b=true then x.isNone else !x.isNone))) O.w:=by
       have hex:execOp (a.put (some m) (.slice x l.length k)).eval ⟨some cc,.binOp op t (.tmp m) (.const (.slice none 0 0)) ty',Cg,z9I,af2,none⟩ =
        (do Pure.pure (.value (<- (do eqGuard op t (.tmp m) (.const (.slice none 0 0)) ((a.put (some m) (.slice x l.length k)).eval (.tmp m)) (.slice none 0 0); binOp op t ((a.put (some m) (.slice x l.length k)).eval (.tmp m)) (.slice none 0 0))))):=rfl
       rw[hex,lX,Sem.run_bind]
       rw[show(do eqGuard op t (.tmp m) (.const (.slice none 0 0)) (.slice x l.length k) (.slice none 0 0); binOp op t (.slice x l.length k) (.slice none 0 0):Sem Value).run P O.w=_ from jV]
       rfl
      unfold Oper.wp
      rw[Da,Oper.upon_value]
      have zhC:∀ (q:Nat) (u:Value) (a1:Act) (t:Nat),(a1.put (some q) u).tmps[t]? = if q=t then(if q<a1.tmps.size then some u else none)else a1.tmps[t]? := by
       intro q u a1 t
       simp only[Act.put,qA]
      have hs1:(a.put (some m) (.slice x l.length k)).tmps.size=n:=by simp[Act.put,hR.size]
      have hs2:((a.put (some m) (.slice x l.length k)).put (some cc) (.bool (if b=true then x.isNone else !x.isNone))).tmps.size=n:=by simp[Act.put,hR.size]
      refine hQ _ (λt ht => ?_) ?_
      ·have hw:wJ (.region id ops false)=[m,cc]:=by simp only[wJ,hops,dstsOf]
       grind
      ·have get:∀ (t:Nat),((a.put (some m) (.slice x l.length k)).put (some cc) (.bool (if b=true then x.isNone else !x.isNone))).tmps[t]? = if cc=t then some (.bool (if b=true then x.isNone else !x.isNone))else if m=t then some (.slice x l.length k)else a.tmps[t]? := by
        grind
       have z9g:∀ {i j:Nat},W i j=false->i≠j:=λh e=>by subst e; simp at h
       cases x with
       | none =>
        obtain⟨B,Eb⟩:=hvn rfl
        subst B Eb
        refine .inl ⟨rfl,hs2,hR.defers,λt d V => ?_⟩
        rw[get]
        simp only[Fr.get]at V
        cases h1:W cc t with
        | true =>
         rw[h1,cond_true]at V; cases V
         rw[if_pos (zA h1)]
         refine⟨_,rfl,?_⟩
         cases b<;>exact .bool
        | false =>
         rw[h1,cond_false]at V
         rw[if_neg (z9g h1)]
         cases X:W m t with
         | true=>rw[X,cond_true]at V; cases V; rw[if_pos (zA X)]; exact⟨_,rfl,.wH⟩
         | false =>
          rw[X,cond_false]at V
          rw[if_neg (z9g X)]
          cases h3:W s t with
          | true=>rw[h3,cond_true]at V; cases V; rw[<- zA h3]; exact⟨_,hv,.wH⟩
          | false=>rw[h3,cond_false]at V; exact hR.get t d V
       | some x =>
        refine .inr ⟨hs2,hR.defers,λt d V => ?_⟩
        rw[get]
        simp only[Fr.get]at V
        cases h1:W cc t with
        | true =>
         rw[h1,cond_true]at V; cases V
         rw[if_pos (zA h1)]
         refine⟨_,rfl,?_⟩
         cases b<;>exact .bool
        | false =>
         rw[h1,cond_false]at V
         rw[if_neg (z9g h1)]
         cases X:W m t with
         | true=>rw[X,cond_true]at V; cases V; rw[if_pos (zA X)]; exact⟨_,rfl,dM⟩
         | false=>rw[X,cond_false]at V; rw[if_neg (z9g X)]; exact hR.get t d V
    ·cases hp
   ·cases hp
  ·cases hp
 ·cases hp
theorem Sn{id:Nat}{b:Code}(J:∀ b',b≠.loop b')(fr:Fr)(kn:Kn)(st:St){α:Type}(k:L3->T α):VY (bg P xid tab ro) tab n H (.block id b) fr kn st k=VY (bg P xid tab ro) tab n H b fr kn st λr=>match r.ex with
  | .exit id'=>bif W id' id then k { r with ex:=.normal } else k r
  | _=>k r:=by
 cases b<;>first | rfl | exact absurd rfl (J _)
theorem Xm(hm:(bg P xid tab ro).P.follows .mixedOrders=true)(hT:eQ P tab):∀ (code:Code),gP P n H code->∀ {fr:Fr} {kn:Kn} {O:KS} {a:Act} {α:Type} {k:L3->T α} {r:α},
  (VY (bg P xid tab ro) tab n H code fr kn O.st k).leads r->Inv O->Rel O n fr.get a->yV kn fr.get ->
  ∀ Q:Exit->Act->World->Prop,(∀ (o:L3) (tk:Exit) (a':Act) (E:KS),(k o).leads r->E.st=o.st->Inv E->Ext O E->Rel E n o.fr.get a'->yV o.kn o.fr.get->Kept code a a'->(o.q=true->o.st=O.st)->Ej E o.ex tk->Q tk a' E.w) ->
   code.wp P Q a O.w:=by
 intro code
 induction code with
 | skip=>intro _ fr kn O a α k r h hI hR hk Q hQ; exact wp_skip (hQ _ _ a O h rfl hI (Ext.refl O) hR hk (λ_ _=>rfl) (λ_=>rfl) rfl)
 | exit id=>intro _ fr kn O a α k r h hI hR hk Q hQ; exact wp_exit (hQ _ _ a O h rfl hI (Ext.refl O) hR hk (λ_ _=>rfl) (λ_=>rfl) rfl)
 | ret=>intro _ fr kn O a α k r h hI hR hk Q hQ; exact wp_ret (hQ _ _ a O h rfl hI (Ext.refl O) hR hk (λ_ _=>rfl) (λ_=>rfl) rfl)
 | region id ops draw =>
  intro _ fr kn O a α k r h hI hR hk Q hQ
  simp only[VY]at h
  obtain⟨z,h0,h⟩:=T.zg.1 h
  obtain⟨κ0,w1,w2,w3,w4,w5⟩:=z0Z _ h0 hI hR
  have Eb:=z0Y _ h0 hk
  rcases HY Eb h with⟨s,h1,X⟩ | ⟨d,qm,rfl,h1,X⟩
  rotate_left
  ·rw[<- w2]at h1
   rw[<- w1]
   exact To (Dm hT) w3 w5 Eb h1 λv a' E e1 e2 e3 e4 e5 e6=>hQ ⟨.bE d,[],[],qm,false⟩ _ a' E X e1 e2 (w4.trans e3) e4 (nK _) (λt ht=>e5 t λo ho he=>ht (Um ho he)) (λhq=>by cases hq) ⟨v,rfl,e6⟩
  rw[<- w2]at h1
  have Yb:=Tz Eb h1
  rw[<- w1]
  refine(TA hm (Dm hT) w3 w5 Eb h1 λa' E e1 e2 e3 e4 e5=>hQ ⟨.normal,s.fr,s.kn,s.st,quiet s.ks&&(H.frz id).isEmpty⟩ _ a' E X e1 e2 (w4.trans e3) e4 Yb (λt ht=>e5 t λo ho he=>ht (Um ho he)) (λhq => ?_) rfl).1
  simp only[I]at hq
  have he:H.frz id=[]:=zW.1 hq.2
  rw[he]at h0
  cases h0
  exact(DG h1 hq.1).trans w2
 | seq x y ix iy =>
  intro B fr kn O a α k r h hI hR hk Q hQ
  have hlx:gP P n H x:=λp hp=>B p (by simp only[uh,zN]; exact .inl hp)
  have hly:gP P n H y:=λp hp=>B p (by simp only[uh,zN]; exact .inr hp)
  have kx:∀ {a a':Act},Kept x a a'->Kept (.seq x y) a a':=λh s hs=>h s λe=>hs (by simp only[wJ,zN]; exact .inl e)
  have ky:∀ {a a':Act},Kept y a a'->Kept (.seq x y) a a':=λh s hs=>h s λe=>hs (by simp only[wJ,zN]; exact .inr e)
  simp only[VY]at h
  split at h
  ·refine wp_seq (ix hlx h hI hR hk _ λo tk a' E e0 e1 e2 e3 e4 TR e5 e5q e6 => ?_)
   cases hex:o.ex<;>rw[hex]at e0 e6<;>simp only at e0
   ·cases e6
    refine iy hly (O:=E) (e1▸e0) e2 e4 TR Q λo' CT a'' TQ f0 f1 f2 f3 f4 Bp f5 IT f6=>hQ { o' with q:=o.q&&o'.q } CT a'' TQ f0 f1 f2 (e3.trans f3) f4 Bp (λs hs=>(ky f5 s hs).trans (kx e5 s hs)) ?_ f6
    grind
   ·cases e6; exact hQ o _ a' E e0 e1 e2 e3 e4 TR (kx e5) e5q (by rw[hex]; rfl)
   ·cases e6; exact hQ o _ a' E e0 e1 e2 e3 e4 TR (kx e5) e5q (by rw[hex]; rfl)
   ·obtain⟨v,rfl,hv⟩:=e6
    exact hQ o _ a' E e0 e1 e2 e3 e4 TR (kx e5) e5q (by rw[hex]; exact⟨v,rfl,hv⟩)
  ·rename_i gy hcu
   cases hw:C3 gy with
   | false=>rw[hw]at h; exact h.elim
   | true =>
    rw[hw,cond_true]at h
    obtain⟨z,h1,X⟩:=T.zg.1 h
    have h1:=F8 h1
    refine wp_seq (ix hlx h1 hI hR hk _ λo tk a' E e0 e1 e2 e3 e4 TR e5 e5q e6 => ?_)
    cases hex:o.ex<;>rw[hex]at e0 e6<;>simp only at e0
    ·cases e6
     cases hq:o.q with
     | false=>rw[hq]at e0; exact e0.elim
     | true =>
      rw[hq,cond_true]at e0
      have ud:o.st=O.st:=e5q hq
      have hRz:Rel E n (nO O.st gy z).get a':=by
       refine⟨e4.size,e4.defers,λt d V => ?_⟩
       obtain⟨k',y',d0,g0,g1,g2,g3⟩:=(Je (p:=λ_=>true) (qm:=O.st) gy [] z (λ_ _=>rfl) e0).2 _ (get_mem V)
       cases g3
       obtain⟨v,q1,q2⟩:=e4.get _ _ g1
       have YX:=zP.1 hw _ g0
       have YX:Yj k'=true:=YX
       have hwk:Wk E E:=⟨rfl,rfl,rfl,rfl,λb d h=>⟨d,h⟩,λb v e xs h=>.inl h,λb v e xs h=>h,λb h=>h⟩
       have j9:I7 [] k'=true:=by cases k'<;>first | rfl | cases YX
       rw[<- e1]at g2
       have:=DY hwk (bs:=[]) j9 (λ_ _=>rfl) (qm:=E.st) (λ_ _=>rfl) (λ_ h=>by simp[rowAt]at h) g2 q2
       grind
      have Bv:=Ww hR e3 hRz e5
      refine iy hly (O:=E) (by rw[e1,ud]; exact X) e2 Bv (nK _) Q λo' CT a'' TQ f0 f1 f2 f3 f4 Bp f5 IT f6=>hQ o' CT a'' TQ f0 f1 f2 (e3.trans f3) f4 Bp (λs hs=>(ky f5 s hs).trans (kx e5 s hs)) (λhq=>(IT hq).trans (e1.trans ud)) f6
    ·exact e0.elim
    ·exact e0.elim
    ·exact e0.elim
  ·rename_i hcu
   cases hop:opsOf x with
   | none=>rw[hop]at h; exact h.elim
   | some ops =>
    rw[hop]at h
    simp only at h
    cases hp:Ds (bg P xid tab ro) n ops fr with
    | none=>rw[hp]at h; exact h.elim
    | some p =>
     rw[hp]at h
     obtain⟨YW,zhu⟩:=h
     obtain⟨id,rfl⟩:∃ id,x=.region id ops false:=by
      cases x with
      | region id ops' draw =>
       cases draw with
       | true=>cases hop
       | false=>cases hop; exact⟨id,rfl⟩
      | _=>cases hop
     refine wp_seq (Mn hp hI hR hk _ ?_)
     intro a' hk1 zh2
     rcases zh2 with⟨B,Bv⟩ | Bv
     ·refine iy hly (O:=O) (YW B _ zhu) hI Bv (λt b J => ?_) Q λo' CT a'' TQ f0 f1 f2 f3 f4 Bp f5 IT f6=>hQ o' CT a'' TQ f0 f1 f2 f3 f4 Bp (λs hs=>(ky f5 s hs).trans (kx hk1 s hs)) IT f6
      simp only[Kn.get]at J
      simp only[Fr.get]
      grind
     ·refine iy hly (O:=O) zhu hI Bv (λt b J => ?_) Q λo' CT a'' TQ f0 f1 f2 f3 f4 Bp f5 IT f6=>hQ o' CT a'' TQ f0 f1 f2 f3 f4 Bp (λs hs=>(ky f5 s hs).trans (kx hk1 s hs)) IT f6
      simp only[Kn.get]at J
      simp only[Fr.get]
      cases ht:W p.c t with
      | true=>rw[ht,cond_true]at J; rw[cond_true]; cases J; rfl
      | false=>rw[ht,cond_false]at J; cases J
  ·rename_i ws hcu
   cases hw:ws.all λw=>zM O.st.length w.sh.bs.length with
   | false=>rw[hw]at h; exact h.elim
   | true =>
    rw[hw,cond_true]at h
    obtain⟨rr,Hk,X⟩:=T.zg.1 h
    refine wp_seq (ix hlx Hk hI hR hk _ λo tk a' E e0 e1 e2 e3 e4 TR e5 _ e6 => ?_)
    obtain⟨w,g1,z,g2,g3,g4⟩:=De _ _ _ _ _ e0
    have hwl:=zP.1 hw w g1
    obtain⟨κ1,q1,q2,q3,q4,q5⟩:=z4z (n:=n) e3 e2 e4 e6 g3 (zE hwl) (by rw[e1]; exact g4)
    rw[g2]at X
    split at X
    ·exact X.elim
    rename_i zz hzz
    obtain⟨q5,z1x⟩:=q5 zz hzz
    have Bv:=Ww hR q4 q5 e5
    rw[<- q1]
    cases hex:zz.1<;>rw[hex]at X z1x<;>simp only at X
    ·cases z1x
     exact iy hly (O:=κ1) (by rw[q2]; exact X) q3 Bv (nK _) Q λo' CT a'' TQ f0 f1 f2 f3 f4 Bp f5 _ f6=>hQ { o' with q:=false } CT a'' TQ f0 f1 f2 (q4.trans f3) f4 Bp (λs hs=>(ky f5 s hs).trans (kx e5 s hs)) (λhq=>by cases hq) f6
    ·cases z1x; exact hQ _ _ a' κ1 X q2 q3 q4 Bv (nK _) (kx e5) (λhq=>by cases hq) rfl
    ·cases z1x; exact hQ _ _ a' κ1 X q2 q3 q4 Bv (nK _) (kx e5) (λhq=>by cases hq) rfl
    ·obtain⟨v,rfl,hv⟩:=z1x
     exact hQ _ _ a' κ1 X q2 q3 q4 Bv (nK _) (kx e5) (λhq=>by cases hq) ⟨v,rfl,hv⟩
 | cond x p q ip iq =>
  intro B fr kn O a α k r h hI hR hk Q hQ
  have hlp:gP P n H p:=λz hz=>B z (by simp only[uh,zN]; exact .inl hz)
  have SG:gP P n H q:=λz hz=>B z (by simp only[uh,zN]; exact .inr hz)
  have kp:∀ {a a':Act},Kept p a a'->Kept (.cond x p q) a a':=λh s hs=>h s λe=>hs (by simp only[wJ,zN]; exact .inl e)
  have kq:∀ {a a':Act},Kept q a a'->Kept (.cond x p q) a a':=λh s hs=>h s λe=>hs (by simp only[wJ,zN]; exact .inr e)
  have hQp:=λ(o:L3) (tk:Exit) (a':Act) (E:KS) f0 f1 f2 f3 f4 Bp (f5:Kept p a a') IT f6=>hQ o tk a' E f0 f1 f2 f3 f4 Bp (kp f5) IT f6
  have hQq:=λ(o:L3) (tk:Exit) (a':Act) (E:KS) f0 f1 f2 f3 f4 Bp (f5:Kept q a a') IT f6=>hQ o tk a' E f0 f1 f2 f3 f4 Bp (kq f5) IT f6
  simp only[VY]at h
  split at h
  ·rename_i U
   have hv:wD fr.get x=some (.qi .bool true):=mG hk U
   exact wp_cond_true (hR.eval hv).cL (ip hlp h hI hR hk Q hQp)
  ·rename_i U
   have hv:wD fr.get x=some (.qi .bool false):=mG hk U
   exact wp_cond_false (hR.eval hv).cL (iq SG h hI hR hk Q hQq)
  ·split at h
   ·split at h
    ·rename_i v hv
     have he:=hv
     rw[show ∀ t,fr.get t=wD fr.get (.tmp t)from λ_=>rfl]at he
     rcases h with⟨rfl,h⟩ | ⟨rfl,h⟩
     ·exact wp_cond_true (hR.eval he).cL (ip hlp h hI hR (Wj hk hv) Q hQp)
     ·exact wp_cond_false (hR.eval he).cL (iq SG h hI hR (Wj hk hv) Q hQq)
    ·exact h.elim
   ·exact h.elim
 | block id b ib =>
  intro B fr kn O a α k r h hI hR hk Q hQ
  by_cases J:∃ b',b=.loop b'
  ·obtain⟨b,rfl⟩:=J
   simp only[VY]at h
   split at h
   ·exact h.elim
   ·rename_i l hll
    cases hc:zM (gh l.gh fr O.st).2.length l.sh.bs.length&&MF l.ps (wJ b)&&l.ws.all λw=>zM l.sh.bs.length w.sh.bs.length with
    | false=>rw[hc]at h; exact h.elim
    | true =>
     rw[hc,cond_true]at h
     simp only[I,zP]at hc
     obtain⟨⟨SC,hc2⟩,hc3⟩:=hc
     obtain⟨p,h1,h⟩:=T.zg.1 h
     obtain⟨s,X,h⟩:=T.zg.1 h
     obtain⟨rr,h3,h4⟩:=T.zg.1 h
     obtain⟨κ1,w1,w2,w3,w4,w5⟩:=tp l.gh fr O hI hR
     rw[<- w2]at h1 X SC
     obtain⟨κ2,q1,q2,q3,q4,q5,_⟩:=l.sh.KD (n:=n) (Ext.refl κ1) w3 w5 (zE SC) X
     -- the loop's parameters
     have hps:Rel κ2 n (nO (l.sh.st s) l.ps p).get a:=by
      refine⟨w5.size,w5.defers,λt d V => ?_⟩
      obtain⟨k',y,d0,g0,g1,g2,g3⟩:=(Je (p:=λ_=>true) (qm:=l.sh.st s) l.ps [] p (λ_ _=>rfl) h1).2 _ (get_mem V)
      cases g3
      obtain⟨v,e1,e2⟩:=w5.get _ _ g1
      have YX:=zP.1 hc2 _ g0
      simp only[I]at YX
      have hwk:Wk κ1 κ1:=⟨rfl,rfl,rfl,rfl,λb d h=>⟨d,h⟩,λb v e xs h=>.inl h,λb v e xs h=>h,λb h=>h⟩
      have j9:I7 [] k'=true:=by cases k'<;>first | rfl | cases YX.1
      have:=DY hwk (bs:=[]) j9 (λ_ _=>rfl) (qm:=κ1.st) (λ_ _=>rfl) (λ_ h=>by simp[rowAt]at h) g2 e2
      have he:QT κ1.st k' y=QT (l.sh.st s) k' y:=by cases k'<;>first | rfl | cases YX.1
      rw[he]at this
      exact⟨v,e1,this.mono q4⟩
     have z7d:Ext O κ2:=w4.trans q4
     have Ux:κ2.w=O.w:=q1.trans w1
     rw[<- Ux]
     refine wp_block (B (id,b) (by simp[uh]) l hll κ2 a p s rr h3 q2 q3 q5 hps hc2 (λw hw=>zE (hc3 w hw)) _ λw x tk a' E f1 f2 f3 f4 f5 f6 f7 => ?_)
     rw[f2]at h4
     split at h4
     ·exact h4.elim
     rename_i zz hzz
     obtain⟨f6,f8⟩:=f6 zz hzz
     have hR':Rel E n (zz.2++(oR (wJ b)++(gh l.gh fr O.st).1)).get a':=Ww w5 (q4.trans f5) f6 f7
     have hkk:Kept (.block id (.loop b)) a a':=f7
     cases hwx:zz.1<;>rw[hwx]at h4 f8<;>simp only at h4
     ·exact h4.elim
     ·rename_i id'
      cases f8
      simp only[Exit.inBlock]
      cases KN:W id' id with
      | true =>
       rw[KN,cond_true]at h4
       have:=zA KN
       subst this
       rw[if_pos rfl]
       exact hQ _ _ a' E h4 f3 f4 (z7d.trans f5) hR' (nK _) hkk (λhq=>by cases hq) rfl
      | false =>
       rw[KN,cond_false]at h4
       rw[if_neg (λe=>by subst e; simp at KN)]
       exact hQ _ _ a' E h4 f3 f4 (z7d.trans f5) hR' (nK _) hkk (λhq=>by cases hq) rfl
     ·cases f8
      exact hQ _ _ a' E h4 f3 f4 (z7d.trans f5) hR' (nK _) hkk (λhq=>by cases hq) rfl
     ·obtain⟨v,rfl,hv⟩:=f8
      exact hQ _ _ a' E h4 f3 f4 (z7d.trans f5) hR' (nK _) hkk (λhq=>by cases hq) ⟨v,rfl,hv⟩
  ·have KN:∀ b',b≠.loop b':=λb' e=>J ⟨b',e⟩
   rw[Sn KN]at h
   refine wp_block (ib (λz hz=>B z (by rw[FE KN]; exact hz)) h hI hR hk _ λo tk a' E f0 f1 f2 f3 f4 Bp f5 IT f6 => ?_)
   have hkk:Kept (.block id b) a a':=f5
   cases Hl:o.ex<;>rw[Hl]at f0 f6<;>simp only at f0
   ·cases f6; exact hQ o _ a' E f0 f1 f2 f3 f4 Bp hkk IT (by rw[Hl]; rfl)
   ·rename_i id'
    cases f6
    simp only[Exit.inBlock]
    cases hbq:W id' id with
    | true =>
     rw[hbq,cond_true]at f0
     have:=zA hbq
     subst this
     rw[if_pos rfl]
     exact hQ _ _ a' E f0 f1 f2 f3 f4 Bp hkk IT rfl
    | false =>
     rw[hbq,cond_false]at f0
     rw[if_neg (λe=>by subst e; simp at hbq)]
     exact hQ o _ a' E f0 f1 f2 f3 f4 Bp hkk IT (by rw[Hl]; rfl)
   ·cases f6; exact hQ o _ a' E f0 f1 f2 f3 f4 Bp hkk IT (by rw[Hl]; rfl)
   ·obtain⟨v,rfl,hv⟩:=f6
    exact hQ o _ a' E f0 f1 f2 f3 f4 Bp hkk IT (by rw[Hl]; exact⟨v,rfl,hv⟩)
 | _=>intro _ fr kn O a α k r h; simp only[VY]at h; exact h.elim
end
end Go.AM
namespace Go.AM
set_option linter.unusedSectionVars false
variable [gB]
open Go.RowKit
section
variable [B8]
variable {P:Program} {xid:Nat} {tab:mf} {ro:Nat->Bool} {n:Nat} {H:Hints}
theorem Rb{b:Code}{st qm:St}:∀ (gy:List It) (z:kc gy),MF gy (wJ b)=true->nO st gy z=nO qm gy z/\∀ q∈nO st gy z,q.1 ∉ wJ b:=by
 intro gy
 induction gy with
 | nil=>intro z _; exact⟨rfl,λq hq=>by cases hq⟩
 | cons i r ih =>
  intro z h
  have hi:∀ y:i.den,HD st i y=HD qm i y/\∀ q∈HD st i y,q.1 ∉ wJ b:=by
   intro y
   simp only[MF,zF,I]at h
   cases i with
   | s t k =>
    obtain⟨h1,_⟩:=h
    simp at h1
    refine⟨by cases k<;>first | rfl | (simp[Yj]at h1),λq hq => ?_⟩
    simp only[HD,zL]at hq
    subst hq
    intro hm
    have:=h1.2
    simp only[zbh,qF,List.any_eq_false]at this
    exact this t hm (qu)
   | _=>grind
  cases r with
  | nil =>
   have e1:=Gv st i z
   have e2:=Gv qm i z
   grind
  | cons j r =>
   have e1:=JN st i j r z
   have e2:=JN qm i j r z
   have hr:MF (j::r) (wJ b)=true:=by
    unfold MF at h ⊢
    grind
   grind
theorem z9d(hm:(bg P xid tab ro).P.follows .mixedOrders=true)(hT:eQ P tab){l:q8}{b:Code}(hL:gP P n H b)(oE:kc l.ps->l.sh.den->T (l.sh.den⊕iG l.ws))
  (round:∀ p s,z48 (bg P xid tab ro) tab n H l b p s=oE p s) (hF:∀ p s,l.F p s=T.loop (oE p) s):U0 P n l b:=by
 intro O a p s r hr ud hI hR hRp hps hws Q hQ
 rw[hF,T.fE]at hr
 obtain⟨m,hm'⟩:=hr
 have zoZ:=λ(st qm:St)=>(Rb (b:=b) (st:=st) (qm:=qm) l.ps p hps).1
 have zd1:∀ (st:St) (t:Nat) (d:D),(nO st l.ps p).get t=some d->t ∉ wJ b:=λst t d V=>(Rb (b:=b) (st:=st) (qm:=st) l.ps p hps).2 _ (get_mem V)
 refine wp_loop_ghost (λm a' w'=>∃ s',T.Iter (oE p) m s' r/\∃ E:KS,E.w=w'/\E.st=l.sh.st s'/\Inv E/\Ext O E/\Rel E n (l.sh.fr s').get a'/\Rel E n (nO (l.sh.st s) l.ps p).get a'/\Kept b a a') m
  ⟨s,hm',O,rfl,ud,hI,Ext.refl O,hR,hRp,λ_ _=>rfl⟩ ?_
 rintro m a1 w1 ⟨s1,hit,κ1,rfl,g4,g5,g6,g7a,g7b,g8⟩
 have g7:Rel κ1 n (l.sh.fr s1++nO (l.sh.st s1) l.ps p).get a1:=⟨g7a.size,g7a.defers,λt d V=>by
  rcases Kb V with V | V
  ·exact g7a.get t d V
  ·rw[zoZ _ (l.sh.st s)]at V; exact g7b.get t d V⟩
 cases hit with
 | done h1 =>
  rw[<- round]at h1
  refine Xm hm hT b hL (O:=κ1) (by rw[g4]; exact h1) g5 g7 (nK _) _ λo tk a' E e0 e1 e2 e3 e4 TR e5 _ e6 => ?_
  have fin:∀ exo,Ej E exo tk->(Dd l.ws exo (HB exo o.fr) o.st).leads r->Q tk a' E.w:=λexo e6 e0=>by
   obtain⟨w,k1,x,k2,k3,k4⟩:=De _ _ _ _ _ e0
   have hlen:κ1.st.length<=w.sh.bs.length:=by rw[g4]; exact zV (uz.XR _ _) (hws w k1)
   obtain⟨κ2,q1,q2,q3,q4,q5⟩:=z4z (n:=n) e3 e2 e4 e6 k3 hlen (by rw[e1]; exact k4)
   have:=hQ w x tk a' κ2 k1 k2 q2 q3 (g6.trans q4) q5 (λt ht=>(e5 t ht).trans (g8 t ht))
   grind
  have PO:∀ {z:l.sh.den⊕iG l.ws},((Dd l.ws o.ex (HB o.ex o.fr) o.st).bind λr=>T.ret (qM r:l.sh.den⊕iG l.ws)).leads z->z=qM r->(Dd l.ws o.ex (HB o.ex o.fr) o.st).leads r:=by
   intro z h hz
   obtain⟨y,h1,X⟩:=T.zg.1 h
   have X:(qM y:l.sh.den⊕iG l.ws)=z:=X
   grind
  cases Hl:o.ex<;>rw[Hl]at e0 e6 PO<;>simp only at e0
  ·obtain⟨y,_,X⟩:=T.zg.1 e0
   have X:(qR y:l.sh.den⊕iG l.ws)=qM r:=X
   cases X
  ·have q:=fin _ e6 (PO e0 rfl); cases e6; exact q
  ·have q:=fin _ e6 (PO e0 rfl); cases e6; exact q
  ·have q:=fin _ e6 (PO e0 rfl); obtain⟨v,rfl,hv⟩:=e6; exact q
 | step h1 hit =>
  rename_i m s2
  rw[<- round]at h1
  refine Xm hm hT b hL (O:=κ1) (by rw[g4]; exact h1) g5 g7 (nK _) _ λo tk a' E e0 e1 e2 e3 e4 TR e5 _ e6 => ?_
  have PS:((Dd l.ws o.ex (HB o.ex o.fr) o.st).bind λr=>T.ret (qM r:l.sh.den⊕iG l.ws)).leads (qR s2)->False:=by
   intro h
   obtain⟨y,h1,X⟩:=T.zg.1 h
   have X:(qM y:l.sh.den⊕iG l.ws)=qR s2:=X
   cases X
  cases Hl:o.ex<;>rw[Hl]at e0 e6 PS<;>simp only at e0
  ·cases e6
   obtain⟨y,h1,X⟩:=T.zg.1 e0
   have X:(qR y:l.sh.den⊕iG l.ws)=qR s2:=X
   cases X
   have hlen:κ1.st.length<=l.sh.bs.length:=by rw[g4]; exact uz.XR _ _
   obtain⟨κ2,q1,q2,q3,q4,q5,_⟩:=l.sh.KD (n:=n) e3 e2 e4 hlen (by rw[e1]; exact h1)
   refine⟨m,Nat.lt_succ_self _,s2,hit,κ2,q1,q2,q3,g6.trans q4,q5,⟨q5.size,q5.defers,λt d V => ?_⟩,λt ht=>(e5 t ht).trans (g8 t ht)⟩
   obtain⟨v,r1,r2⟩:=g7b.get t d V
   exact⟨v,(e5 t (zd1 _ t d V)).trans r1,r2.mono q4⟩
  ·exact(PS e0).elim
  ·exact(PS e0).elim
  ·exact(PS e0).elim
end
section
variable {P:Program} {xid:Nat} {tab:mf} {ro:Nat->Bool} {n:Nat} {H:Hints}
theorem Kj{O:KS}(hI:Inv O):∀ (rs:List Ty) (ds:List D) (x:E9 rs) (vs:List Value),(z4x O.st rs ds).leads x->wQ O ds vs->wQ O.all (UH rs x) vs/\∀ d∈UH rs x,K7 d=true
 | [],[],x,vs,h,V=>by rw[V.wh]; exact⟨.nil,λd V=>by cases V⟩
 | [],_::_,x,vs,h,V=>h.elim
 | [τ],[],x,vs,h,V=>h.elim
 | [τ],[d],x,vs,h,V=>by
  obtain⟨v,us,rfl,h1,X⟩:=V.cons_inv
  rw[X.wh]
  refine⟨.cons (Ub hI h1 h) .nil,λd V => ?_⟩
  have V:d∈[D.qi τ x]:=V
  rw[zL]at V
  subst V; rfl
 | [τ],_::_::_,x,vs,h,V=>h.elim
 | τ::σ::r,[],x,vs,h,V=>h.elim
 | τ::σ::r,d::ds,x,vs,h,V=>by
  obtain⟨y,h1,X⟩:=T.zg.1 h
  obtain⟨z,h3,h4⟩:=T.zg.1 X
  cases h4
  obtain⟨v,us,rfl,k1,k2⟩:=V.cons_inv
  obtain⟨g1,g2⟩:=Kj hI (σ::r) ds z us h3 k2
  refine⟨.cons (Ub hI k1 h1) g1,λd V => ?_⟩
  rcases zH.1 V with rfl | V
  ·rfl
  ·grind
theorem zfI(hm:(bg P xid tab ro).P.follows .mixedOrders=true)(hT:eQ P tab){f:Nat}{fn:Func}{code:Code}(hf:P.funcs[f]? = some fn)(J:fn.body=some code)
  (hn:(fn.name == "runtime.NumGoroutine")=false) (hL:gP P fn.ntmps H code) {d:Ek} (h:∀ x,z0S (bg P xid tab ro) tab H fn code d x=d.F x):zy P f d:=by
 intro O x xa y ud hy hI ha
 rw[<- h]at hy
 unfold z0S at hy
 cases hle:zM (JO d.ps x).length fn.ntmps with
 | false=>rw[hle]at hy; exact hy.elim
 | true =>
  rw[hle,cond_true]at hy
  have HH:=zE hle
  refine .inl ⟨uW hf hn (wa) O.w,calls_of_wp hf J ?_⟩
  have hR:=Y0 ha HH
  refine Xm hm hT code hL (O:=O) (by rw[ud]; exact hy) hI hR (nK _) _ λo tk a' κe e0 e1 e2 e3 e4 _ _ _ e6 => ?_
  have fin:(tk=.normal\/tk=.ret)->((nU (bg P xid tab ro) o.fr o.st fn.results.toList).bind λds=>z4x o.st d.rs ds).leads y ->
    bodyPost P fn (λe w'=>∃ E:KS,E.w=w'/\E.st=[]/\Inv E/\Ext O E/\jl E (.ret (UH d.rs y)) e) tk a' κe.w:=by
   intro hex X
   obtain⟨ds,g1,g2⟩:=T.zg.1 X
   rw[<- e1]at g1 g2
   obtain⟨vs,k1,k2⟩:=J6 e2 e4 g1
   obtain⟨q1,q2⟩:=Tt hI ud e2 e3
   obtain⟨B,hdat⟩:=Kj e2 d.rs ds y vs g2 k2
   have M0:wQ (κe.bare (okS κe)) (UH d.rs y) vs:=⟨B.1,λi h1 X=>ZM (hdat _ (List.getElem_mem h1)) (B.2 i h1 X)⟩
   have Kg:a'.defers=[]/\∃ v,(results fn a'.tmps).run P κe.w=.ok v κe.w/\∃ E:KS,E.w=κe.w/\E.st=[]/\Inv E/\Ext O E/\jl E (.ret (UH d.rs y)) (.returned v) :=
    ⟨e4.defers,_,k1,κe.bare (okS κe),rfl,rfl,q1,q2,_,rfl,GK M0⟩
   rcases hex with rfl | rfl
   ·exact Kg
   ·exact Kg
  cases Hl:o.ex<;>rw[Hl]at e0 e6<;>simp only at e0
  ·exact fin (.inl e6) e0
  ·exact e0.elim
  ·exact fin (.inr e6) e0
  ·exact e0.elim
theorem YT{d:Ek}{f:Nat}(b:(eG d.ps->T (E9 d.rs))->eG d.ps->T (E9 d.rs))(hF:∀ x,d.F x=T.fix b x)(h:∀ F:eG d.ps->T (E9 d.rs),zy P f ⟨d.ps,d.rs,F⟩->zy P f ⟨d.ps,d.rs,b F⟩):zy P f d:=by
 have hN:∀ m,zy P f ⟨d.ps,d.rs,T.WM b m⟩:=by
  intro m
  induction m with
  | zero=>nofun
  | succ m ih=>exact h _ ih
 intro O x xa y ud hy hI ha
 rw[hF,T.mF]at hy
 obtain⟨m,hm⟩:=hy
 exact hN m O x xa y ud (hm m (zJ _)) hI ha
theorem BY{fr:Fr}:∀ {n i:Nat} {ds:List D},BX fr n i=some ds->ds.length=n/\∀ j d,ds[j]? = some d->fr.get (i+j)=some d
 | 0,i,ds,h=>by cases h; exact⟨rfl,λj d hj=>wa⟩
 | n+1,i,ds,h=>by
  simp only[BX]at h
  split at h
  ·rename_i d V
   split at h
   ·rename_i r hr
    obtain⟨h1,X⟩:=BY hr
    grind
   ·cases h
  ·cases h
theorem EF{O κe:KS}{ds:List D}{vs:List Value}(hO:Inv O)(hI:Inv κe)(U:Ext O κe)(h:wQ κe ds vs) :
  ∃ κ1:KS,κ1.w=κe.w/\κ1.st=(canon O.st.length ds κe.st).2/\Inv κ1/\Ext O κ1/\wQ κ1 (canon O.st.length ds κe.st).1 vs:=by
 have zdb:∃ κ1:KS,κ1.w=κe.w/\κ1.st=κe.st/\Inv κ1/\Ext O κ1/\wQ κ1 ds vs:=⟨κe,rfl,rfl,hI,U,h⟩
 unfold canon
 generalize KO:z9h O.st.length [] (Tv κe.st ds)=nb
 simp only
 split
 ·rename_i l B
  split
  ·rename_i dY ds1 hr V
   cases hn:cZ (zX O.st.length++nb)with
   | false=>exact zdb
   | true =>
    obtain⟨p1,hp⟩:=Qm hI.len.symm B
    obtain⟨g1,g2,g3,g4,g5⟩:=DP hI hn hp B hr
    have z7f:∀ b,b<O.st.length->(zX O.st.length++nb)[b]? = some b:=λb J=>by
     rw[zK (by simpa using J)]; simp[J]
    have LQ:∀ b x,O.st[b]? = some x->b<O.st.length:=λb x h=>(Y.1 h).1
    refine⟨⟨κe.w,κe.ok,p1,dY⟩,rfl,rfl,g1,⟨U.os,U.tape,U.output,U.size,U.same,U.fresh,λj blk n h => ?_,λb d h => ?_,λb v0 e xs h => ?_,λb h => ?_,?_,U.frame⟩,g2.rds h V⟩
    ·have hj:j<(zX O.st.length++nb).length:=by have:=(Y.1 h).1; simp only at this; omega
     have J:=zG hj
     generalize (zX O.st.length++nb)[j]=b at J
     have h':=(g5 j b J).1.symm.trans h
     rcases U.phs b blk n h' with h1 | h1
     ·have wO:b<O.st.length:=Nat.lt_of_not_le λhle=>by
       have:=(Y.1 h1).1
       have:=hO.len
       omega
      have:=Option.some.inj ((pq hn J).symm.trans (pq hn (z7f b wO)))
      subst this
      exact .inl h1
     ·exact .inr h1
    ·obtain⟨⟨d',h1⟩,X⟩:=U.var b d h
     obtain⟨k1,x,y,k2,k3,k4⟩:=g5 b b (z7f b (LQ b _ h))
     rw[h1]at k2; cases k2
     simp only[VL]at k3
     split at k3
     ·cases k3; exact⟨⟨_,k4⟩,k1.trans X⟩
     ·cases k3
    ·obtain⟨k1,x,y,k2,k3,k4⟩:=g5 b b (z7f b (LQ b _ h))
     rcases U.arr b v0 e xs h with h1 | ⟨v1,x1,h1,X,h3⟩
     ·rw[h1]at k2; cases k2; cases k3; exact .inl k4
     ·rw[h1]at k2; cases k2; cases k3; exact .inr ⟨v1,x1,k4,X,λhe=>⟨k1.trans (h3 he).1,(h3 he).2⟩⟩
    ·obtain⟨k1,x,y,k2,k3,k4⟩:=g5 b b (z7f b (LQ b _ h))
     rw[U.dead b h]at k2; cases k2; cases k3; exact k4
    ·show O.st.length<=dY.length
     rw[g3]; simp
  ·exact zdb
 ·exact zdb
theorem ze4{O:KS}(hI:Inv O)(e:Ty):RD (O.gm e) (.ms O.st.length 0 e 0 0) (.slice none 0 0):=by
 have HL:(O.gm e).st[O.st.length]? = some (.arr 0 e []):=by simp[KS.gm]
 refine .ms O.st.length 0 e 0 0 0 none (.inr ⟨0,e,[],HL,zJ _⟩) (zJ _) (λ_=>rfl) nofun λxs YY => ?_
 rw[HL]at YY
 cases YY
 exact⟨zJ _,.inl ⟨rfl,rfl,rfl,by simp[KS.gm,<- hI.len]⟩⟩
theorem J4{O:KS}{d:D}{l:List D}{v:Value}{vs:List Value}(h:RD O d v)(hr:wQ O l vs):wQ O (d::l) (v::vs) :=
 ⟨by simp[hr.1],λi h1 X=>by cases i with | zero=>exact h | succ i=>exact hr.2 i (by simpa using h1) (by simpa using X)⟩
theorem LI:∀ (ks:List Sk) (l:List D) (O:KS) (vs:List Value),Inv O->wQ O l vs->∃ κ1:KS,κ1.w=O.w/\κ1.st=(kD ks l O.st).2/\Inv κ1/\Ext O κ1/\wQ κ1 (kD ks l O.st).1 vs:=by
 intro ks
 induction ks with
 | nil=>intro l O vs hI h; exact⟨O,rfl,by unfold kD; rfl,hI,Ext.refl O,by unfold kD; exact h⟩
 | cons k ks ih =>
  intro l O vs hI h
  cases l with
  | nil=>exact⟨O,rfl,by cases k<;>rfl,hI,Ext.refl O,by cases k<;>exact h⟩
  | cons d l =>
   obtain⟨v,r,rfl,h0,h1⟩:=h.cons_inv
   have go:∃ κ1:KS,κ1.w=O.w/\κ1.st=(kD ks l O.st).2/\Inv κ1/\Ext O κ1/\wQ κ1 (d::(kD ks l O.st).1) (v::r):=by
    obtain⟨κ1,q1,q2,q3,q4,q5⟩:=ih l O r hI h1
    exact⟨κ1,q1,q2,q3,q4,J4 (h0.mono q4) q5⟩
   cases k with
   | row b e =>
    cases d with
    | wH =>
     unfold kD
     cases he:zO 0 e.size with
     | false=>exact go
     | true =>
      cases h0
      obtain⟨κ1,q1,q2,q3,q4,q5⟩:=ih l (O.gm e) r (VE hI (zE he)) (h1.mono (sk hI e))
      exact⟨κ1,q1,q2,q3,(sk hI e).trans q4,J4 ((ze4 hI e).mono q4) q5⟩
    | _=>exact go
   | _=>exact go
theorem Fb:∀ (ks:List Sk) (l:List D) (st:St),(∀ d∈l,d.one=true)->∀ d∈(kD ks l st).1,d.one=true:=by
 intro ks
 induction ks with
 | nil=>intro l st h; unfold kD; exact h
 | cons k ks ih =>
  intro l st h
  cases l with
  | nil=>cases k<;>exact h
  | cons d l =>
   have go:∀ qm,∀ x∈d::(kD ks l qm).1,x.one=true:=λqm x U=>by
    rcases zH.1 U with rfl | U
    ·exact h _ zQ
    ·exact ih l qm (λy hy=>h y (zI _ hy)) x U
   cases k with
   | row b e =>
    cases d with
    | wH =>
     unfold kD
     cases zO 0 e.size with
     | false=>exact go st
     | true =>
      intro x U
      rcases zH.1 (show x∈D.ms st.length 0 e 0 0::(kD ks l (st++[.arr 0 e []])).1 from U)with rfl | U
      ·rfl
      ·exact ih l _ (λy hy=>h y (zI _ hy)) x U
    | _=>exact go st
   | _=>exact go st
theorem Sw(gy:List It):∀ (ds:List D) (i:Nat) (O:KS) (vs:List Value),Inv O->wQ O ds vs->∃ κ1:KS,κ1.w=O.w/\κ1.st=(tU gy i ds O.st).2/\Inv κ1/\Ext O κ1/\wQ κ1 (tU gy i ds O.st).1 vs:=by
 intro ds
 induction ds with
 | nil=>intro i O vs hI h; exact⟨O,rfl,rfl,hI,Ext.refl O,h⟩
 | cons d ds ih =>
  intro i O vs hI h
  obtain⟨v,r,rfl,h0,h1⟩:=h.cons_inv
  have go:∃ κ1:KS,κ1.w=O.w/\κ1.st=(tU gy (i+1) ds O.st).2/\Inv κ1/\Ext O κ1/\wQ κ1 (d::(tU gy (i+1) ds O.st).1) (v::r):=by
   obtain⟨κ1,q1,q2,q3,q4,q5⟩:=ih (i+1) O r hI h1
   exact⟨κ1,q1,q2,q3,q4,J4 (h0.mono q4) q5⟩
  cases d with
  | agg l =>
   cases h0 with
   | agg _ vs0 B ho hr =>
    obtain⟨κ1,q1,q2,q3,q4,q5⟩:=LI (TD gy i) l O vs0 hI ⟨B,hr⟩
    obtain⟨κ2,p1,p2,p3,p4,p5⟩:=ih (i+1) κ1 r q3 (h1.mono q4)
    rw[q2]at p2 p5
    exact⟨κ2,p1.trans q1,p2,p3,q4.trans p4,J4 ((RD.agg _ vs0 q5.1 (Fb _ _ _ ho) q5.2).mono p4) p5⟩
  | _=>exact go
theorem z9R{O κe:KS}{ds:List D}{vs:List Value}(out:uz)(hO:Inv O)(hI:Inv κe)(U:Ext O κe)(h:wQ κe ds vs) :
  ∃ κ1:KS,κ1.w=κe.w/\κ1.st=(DJ out O.st.length ds κe.st).2/\Inv κ1/\Ext O κ1/\wQ κ1 (DJ out O.st.length ds κe.st).1 vs:=by
 unfold DJ
 cases(out.gy.all λ| .s _ (.st _)=>false | _=>true)&&(out.cs.all λ| (_,.ptr _ _)=>false | (_,.cur _ _)=>false | _=>true)with
 | true=>exact⟨κe,rfl,rfl,hI,U,h⟩
 | false =>
  obtain⟨κ1,q1,q2,q3,q4,q5⟩:=EF hO hI U h
  obtain⟨κ2,p1,p2,p3,p4,p5⟩:=Sw out.gy _ 0 κ1 vs q3 q5
  rw[q2]at p2 p5
  obtain⟨κ3,r1,r2,r3,r4,r5⟩:=EF hO p3 (q4.trans p4) p5
  rw[p2]at r2 r5
  exact⟨κ3,r1.trans (p1.trans q1),r2,r3,r4,r5⟩
theorem GJ{O κe:KS}{a':Act}{fn:Func}{o:L3}{nr:Nat}{out:uz}{y:out.den}(hO:Inv O)(e1:κe.st=o.st)(e2:Inv κe)(e3:Ext O κe)(e4:Rel κe fn.ntmps o.fr.get a')(hlen:O.st.length<=out.bs.length)
  (h:((nU (bg P xid tab ro) o.fr o.st fn.results.toList).bind λds=>V5 out O.st.length nr ds o.st).leads y) :
  ∃ v,(results fn a'.tmps).run P κe.w=.ok v κe.w/\∃ (E:KS) (ds:List D),E.w=κe.w/\E.st=out.st y/\Inv E/\Ext O E/\pD nr (out.fr y)=some ds/\jl E (.ret ds) (.returned v):=by
 obtain⟨ds,g1,g2⟩:=T.zg.1 h
 unfold V5 at g2
 cases hnr:W ds.length nr with
 | false=>rw[hnr]at g2; exact g2.elim
 | true =>
  rw[hnr,cond_true]at g2
  obtain⟨y',g5,g3⟩:=T.zg.1 g2
  cases hsome:pD nr (out.fr y')with
  | none=>rw[hsome]at g3; exact g3.elim
  | some CR =>
   rw[hsome]at g3
   have hyy:y'=y:=g3
   subst hyy
   rw[<- e1]at g1 g5
   obtain⟨vs,k1,k2⟩:=J6 e2 e4 g1
   obtain⟨κr,z1,z2,z3,z4,z5⟩:=z9R out hO e2 e3 k2
   have hRr:Rel κr vs.length (yK (DJ out O.st.length ds κe.st).1 0).get { tmps:=vs.toArray,defers:=[] }:=by
    have:=Y0 (n:=vs.length) z5 (by rw[z5.1]; exact zJ _)
    simpa[show(B8.df:List Deferred)=[]from rfl]using this
   obtain⟨κ0,w1,w2,w3,w4,w5⟩:=tp (z3L out.cs) (yK (DJ out O.st.length ds κe.st).1 0) κr z3 hRr
   rw[z2]at w2 w5
   rw[<- w2]at g5
   obtain⟨κ2,q1,q2,q3,q4,q5,_⟩:=out.KD (κ0:=O) (z4.trans w4) w3 w5 hlen g5
   obtain⟨l1,l2⟩:=BY hsome
   have hds:wQ κ2 CR vs:=by
    refine⟨by rw[l1,<- k2.1]; exact(zA hnr).symm,λi h1 X => ?_⟩
    have:=l2 i CR[i] (zG h1)
    rw[qD]at this
    obtain⟨v,r1,r2⟩:=q5.get i _ this
    grind
   exact⟨_,k1,κ2,CR,q1.trans (w1.trans z1),q2,q3,q4,hsome,_,rfl,GK hds⟩
theorem zco(hm:(bg P xid tab ro).P.follows .mixedOrders=true)(hT:eQ P tab){f:Nat}{fn:Func}{code:Code}(hf:P.funcs[f]? = some fn)(J:fn.body=some code)
  (hn:(fn.name == "runtime.NumGoroutine")=false) (hL:gP P fn.ntmps H code) {d:bC} (h:∀ x,LG (bg P xid tab ro) tab H fn code d x=d.F x):xx P f d:=by
 intro O x xa y ud hy hI hlen hR0
 rw[<- h]at hy
 unfold LG at hy
 cases hle:zM d.ks.length fn.ntmps&&zM d.sh.bs.length d.out.bs.length with
 | false=>rw[hle]at hy; exact hy.elim
 | true =>
  rw[hle,cond_true]at hy
  simp only[I]at hle
  have zhk:=zE hle.1
  have z1D:=zE hle.2
  refine .inl ⟨uW hf hn (by rw[J]; rfl) O.w,calls_of_wp hf J ?_⟩
  rw[<- ud]at hy
  have hR:Rel O fn.ntmps (d.sh.fr x).get { tmps:=xa.toArray++Array.replicate (fn.ntmps-xa.toArray.size) undef,defers:=[] }:=by
   refine⟨by simp; omega,rfl,λs e hs => ?_⟩
   obtain⟨v,h1,X⟩:=hR0.get s e hs
   grind
  refine Xm hm hT code hL (O:=O) hy hI hR (nK _) _ λo tk a' κe e0 e1 e2 e3 e4 _ _ _ e6 => ?_
  have fin:(tk=.normal\/tk=.ret)->((nU (bg P xid tab ro) o.fr o.st fn.results.toList).bind λds=>V5 d.out O.st.length d.nr ds o.st).leads y ->
    bodyPost P fn (λe w'=>∃ (E:KS) (ds:List D),E.w=w'/\E.st=d.out.st y/\Inv E/\Ext O E/\pD d.nr (d.out.fr y)=some ds/\jl E (.ret ds) e) tk a' κe.w:=by
   intro hex X
   obtain⟨v,k1,k2⟩:=GJ hI e1 e2 e3 e4 (by rw[ud]; exact zV (uz.XR _ _) z1D) X
   rcases hex with rfl | rfl
   ·exact⟨e4.defers,v,k1,k2⟩
   ·exact⟨e4.defers,v,k1,k2⟩
  cases Hl:o.ex<;>rw[Hl]at e0 e6<;>simp only at e0
  ·exact fin (.inl e6) e0
  ·exact e0.elim
  ·exact fin (.inr e6) e0
  ·exact e0.elim
theorem Y7{d:bC}{f:Nat}(b:(d.sh.den->T d.out.den)->d.sh.den->T d.out.den)(hF:∀ x,d.F x=T.fix b x)(h:∀ F:d.sh.den->T d.out.den,xx P f ⟨d.ks,d.sh,d.dR,d.out,d.nr,F⟩->xx P f ⟨d.ks,d.sh,d.dR,d.out,d.nr,b F⟩):xx P f d:=by
 have hN:∀ m,xx P f ⟨d.ks,d.sh,d.dR,d.out,d.nr,T.WM b m⟩:=by
  intro m
  induction m with
  | zero=>nofun
  | succ m ih=>exact h _ ih
 intro O x xa y ud hy hI B ha
 rw[hF,T.mF]at hy
 obtain⟨m,hm⟩:=hy
 exact hN m O x xa y ud (hm m (zJ _)) hI B ha
theorem zee{O κe:KS}{bE:uz}{z:bE.den}{st:St}{t:Nat}{d:D}{u:Value}(e1:κe.st=st)(e2:Inv κe)(e3:Ext O κe)(hlen:O.st.length<=bE.bs.length)(hu:RD κe d u)
  (h:((bE.un [(0,some d)] st).bind λz=>match(bE.fr z).get 0 with | some _=>T.ret z | none=>.fail).leads z) :
  ∃ (E:KS) (p:D),E.w=κe.w/\E.st=bE.st z/\Inv E/\Ext O E/\(bE.fr z).get 0=some p/\jl E (.bE (.iface t p)) (.panicked [{ v:=.iface t u,recovered:=false }]):=by
 obtain⟨z',g1,g2⟩:=T.zg.1 h
 split at g2
 ·rename_i p hp
  have hzz:z'=z:=g2
  subst hzz
  have Bv:Rel κe 1 (Fr.get [(0,some d)]) { tmps := #[u],defers:=[] }:=by
   refine⟨rfl,rfl,λs d' V => ?_⟩
   simp only[Fr.get]at V
   cases J:W 0 s with
   | true =>
    have:=zA J
    grind
   | false=>grind
  rw[<- e1]at g1
  obtain⟨κ2,q1,q2,q3,q4,q5,_⟩:=bE.KD (κ0:=O) e3 e2 Bv hlen g1
  obtain⟨v',r1,r2⟩:=q5.get 0 p hp
  cases r1
  exact⟨κ2,p,q1,q2,q3,q4,hp,_,rfl,.iface t p _ r2⟩
 ·exact g2.elim
theorem zcn(hm:(bg P xid tab ro).P.follows .mixedOrders=true)(hT:eQ P tab){f:Nat}{fn:Func}{code:Code}(hf:P.funcs[f]? = some fn)(J:fn.body=some code)
  (hn:(fn.name == "runtime.NumGoroutine")=false) (hL:gP P fn.ntmps H code) {d:me} (h:∀ x,LF (bg P xid tab ro) tab H fn code d x=d.F x):jK P f d:=by
 intro O x xa y ud hy hI hlen hR0
 rw[<- h]at hy
 unfold LF at hy
 cases hle:zM d.ks.length fn.ntmps&&zM d.sh.bs.length d.out.bs.length&&zM d.sh.bs.length d.bE.bs.length with
 | false=>rw[hle]at hy; exact hy.elim
 | true =>
  rw[hle,cond_true]at hy
  simp only[I]at hle
  have zhk:=zE hle.1.1
  have z1D:=zE hle.1.2
  have zhl:=zE hle.2
  refine .inl ⟨uW hf hn (by rw[J]; rfl) O.w,calls_of_wp hf J ?_⟩
  rw[<- ud]at hy
  have hR:Rel O fn.ntmps (d.sh.fr x).get { tmps:=xa.toArray++Array.replicate (fn.ntmps-xa.toArray.size) undef,defers:=[] }:=by
   refine⟨by simp; omega,rfl,λs e hs => ?_⟩
   obtain⟨v,h1,X⟩:=hR0.get s e hs
   grind
  refine Xm hm hT code hL (O:=O) hy hI hR (nK _) _ λo tk a' κe e0 e1 e2 e3 e4 _ _ _ e6 => ?_
  have fin:(tk=.normal\/tk=.ret)->((nU (bg P xid tab ro) o.fr o.st fn.results.toList).bind λds=>z9E d O.st.length ds o.st).leads y ->
    bodyPost P fn (λe w'=>∃ E:KS,E.w=w'/\Inv E/\Ext O E/\((∃ (y':d.out.den) (ds:List D),y=.inl y'/\E.st=d.out.st y'/\pD d.nr (d.out.fr y')=some ds/\jl E (.ret ds) e) \/
     (d.two=none/\∃ (z:d.bE.den) (p:D),y=.inr z/\E.st=d.bE.st z/\(d.bE.fr z).get 0=some p/\jl E (.bE (.iface d.pt p)) e) \/
     ∃ (n:Nat) (z:d.bE.den) (ds:List D),d.two=some n/\y=.inr z/\E.st=d.bE.st z/\pD n (d.bE.fr z)=some ds/\jl E (.ret ds) e)) tk a' κe.w:=by
   intro hex X
   obtain⟨ds,g1,g2⟩:=T.zg.1 X
   have one:((V5 d.out O.st.length d.nr ds o.st).bind λy=>T.ret (qR y:d.out.den⊕d.bE.den)).leads y ->
     ∃ v,(results fn a'.tmps).run P κe.w=.ok v κe.w/\∃ E:KS,E.w=κe.w/\Inv E/\Ext O E/\∃ (y':d.out.den) (ds:List D),y=.inl y'/\E.st=d.out.st y'/\pD d.nr (d.out.fr y')=some ds/\jl E (.ret ds) (.returned v):=λg=>by
    obtain⟨y',hy2,rfl⟩:=T.zg.1 g
    obtain⟨v,k1,E,ds,q1,q2,q3,q4,q5,q6⟩:=GJ hI e1 e2 e3 e4 (by rw[ud]; exact zV (uz.XR _ _) z1D) (T.zg.2 ⟨ds,g1,hy2⟩)
    exact⟨v,k1,E,q1,q3,q4,y',ds,rfl,q2,q5,q6⟩
   have Kg:a'.defers=[]/\∃ v,(results fn a'.tmps).run P κe.w=.ok v κe.w/\∃ E:KS,E.w=κe.w/\Inv E/\Ext O E/\((∃ (y':d.out.den) (ds:List D),y=.inl y'/\E.st=d.out.st y'/\pD d.nr (d.out.fr y')=some ds/\jl E (.ret ds) (.returned v)) \/
     (d.two=none/\∃ (z:d.bE.den) (p:D),y=.inr z/\E.st=d.bE.st z/\(d.bE.fr z).get 0=some p/\jl E (.bE (.iface d.pt p)) (.returned v)) \/
     ∃ (n:Nat) (z:d.bE.den) (ds:List D),d.two=some n/\y=.inr z/\E.st=d.bE.st z/\pD n (d.bE.fr z)=some ds/\jl E (.ret ds) (.returned v)):=by
    unfold z9E at g2
    split at g2
    ·rename_i n h0
     cases hh:zaL ds with
     | true =>
      rw[hh,cond_true]at g2
      obtain⟨z,hz,rfl⟩:=T.zg.1 g2
      obtain⟨v,k1,E,ds,q1,q2,q3,q4,q5,q6⟩:=GJ hI e1 e2 e3 e4 (by rw[ud]; exact zV (uz.XR _ _) zhl) (T.zg.2 ⟨ds,g1,hz⟩)
      exact⟨e4.defers,v,k1,E,q1,q3,q4,.inr (.inr ⟨n,z,ds,h0,rfl,q2,q5,q6⟩)⟩
     | false =>
      rw[hh,cond_false]at g2
      obtain⟨v,k1,E,q1,q2,q3,q4⟩:=one g2
      exact⟨e4.defers,v,k1,E,q1,q2,q3,.inl q4⟩
    ·obtain⟨v,k1,E,q1,q2,q3,q4⟩:=one g2
     exact⟨e4.defers,v,k1,E,q1,q2,q3,.inl q4⟩
   rcases hex with rfl | rfl
   ·exact Kg
   ·exact Kg
  cases Hl:o.ex<;>rw[Hl]at e0 e6<;>simp only at e0
  ·exact fin (.inl e6) e0
  ·exact e0.elim
  ·exact fin (.inr e6) e0
  ·rename_i p
   cases p<;>simp only at e0<;>first | exact e0.elim | skip
   rename_i t v
   cases ht:W t d.pt&&d.two.isNone with
   | false=>rw[ht]at e0; exact e0.elim
   | true =>
    rw[ht,cond_true]at e0
    rw[I,Option.isNone_iff_eq_none]at ht
    have:=zA ht.1
    subst this
    obtain⟨u,rfl,hv⟩:=e6
    cases hv with
    | iface _ _ u hu =>
     have:∃ z,y=.inr z/\((d.bE.un [(0,some v)] o.st).bind λz=>match(d.bE.fr z).get 0 with | some _=>T.ret z | none=>.fail).leads z:=by
      obtain⟨z,g1,g2⟩:=T.zg.1 e0
      split at g2
      ·rename_i p hp
       have g2:qM z=y:=g2
       refine⟨z,g2.symm,T.zg.2 ⟨z,g1,?_⟩⟩
       rw[hp]; rfl
      ·exact g2.elim
     obtain⟨z,rfl,hz2⟩:=this
     obtain⟨E,p,q1,q2,q3,q4,q5,q6⟩:=zee (t:=d.pt) e1 e2 e3 (by rw[ud]; exact zV (uz.XR _ _) zhl) hu hz2
     exact⟨e4.defers,E,q1,q3,q4,.inr (.inl ⟨ht.2,z,p,rfl,q2,q5,q6⟩)⟩
theorem NM{d:me}{f:Nat}(b:(d.sh.den->T (d.out.den⊕d.bE.den))->d.sh.den->T (d.out.den⊕d.bE.den))(hF:∀ x,d.F x=T.fix b x)(h:∀ F:d.sh.den->T (d.out.den⊕d.bE.den),jK P f ⟨d.ks,d.sh,d.dR,d.out,d.nr,d.pt,d.bE,d.two,F⟩->jK P f ⟨d.ks,d.sh,d.dR,d.out,d.nr,d.pt,d.bE,d.two,b F⟩):jK P f d:=by
 have hN:∀ m,jK P f ⟨d.ks,d.sh,d.dR,d.out,d.nr,d.pt,d.bE,d.two,T.WM b m⟩:=by
  intro m
  induction m with
  | zero=>nofun
  | succ m ih=>exact h _ ih
 intro O x xa y ud hy hI B ha
 rw[hF,T.mF]at hy
 obtain⟨m,hm⟩:=hy
 exact hN m O x xa y ud (hm m (zJ _)) hI B ha
end
noncomputable def Vr:Nat->Code->Option Code
 | k,.block id (.loop b)=>if k=id then some b else Vr k b
 | k,.seq a b=>match Vr k a with | some x=>some x | none=>Vr k b
 | k,.cond _ a b=>match Vr k a with | some x=>some x | none=>Vr k b
 | k,.block _ a=>Vr k a
 | _,_=>none
def Cv(P:Program)(n:Nat)(H:Hints):List (Nat×Code)->Prop
 | []=>True
 | p::r=>(∀ l,H.loop p.1=some l->U0 P n l p.2)/\Cv P n H r
theorem zh{P:Program}{n:Nat}{H:Hints}:Cv P n H []:=trivial
theorem qf{P:Program}{n:Nat}{H:Hints}{id:Nat}{b:Code}{r:List (Nat×Code)}{l:q8}(B:H.loop id=some l)(h:U0 P n l b)(t:Cv P n H r):Cv P n H ((id,b)::r) :=
 ⟨λl' M0=>(Option.some.inj (B.symm.trans M0))▸h,t⟩
theorem UE{P:Program}{n:Nat}{H:Hints}{code:Code}{L:List (Nat×Code)}(h:uh code=L)(ha:Cv P n H L):gP P n H code:=by
 intro p hp
 rw[h]at hp
 clear h
 induction L with
 | nil=>cases hp
 | cons q r ih =>
  rcases zH.1 hp with rfl | hp
  ·exact ha.1
  ·exact ih ha.2 hp
end Go.AM
namespace Go.AM
set_option linter.unusedSectionVars false
variable [gB]
open Go.RowKit Go.ChangeShapes
def TL:(τs:List Ty)->YM τs->eG (τs.map .ty)
 | [],_=>()
 | [_],x=>x.1
 | _::σ::r,x=>(x.1,TL (σ::r) x.2)
theorem BS:∀ (τs:List Ty) (x:YM τs),JO (τs.map .ty) (TL τs x)=mkD τs x
 | [],_=>rfl
 | [_],_=>rfl
 | τ::σ::r,x=>congrArg (D.qi τ x.1 :: ·) (BS (σ::r) x.2)
section
variable {H:Type} {enc:TypeId×Value->H} {P:Program} {xid m n:Nat}
theorem zdc{f:Nat}{fn:Func}(τs:List Ty){F:eG (τs.map .ty)->T (E9 [.bool])}(hS:zy P f ⟨τs.map .ty,[.bool],F⟩)(hf:P.funcs[f]? = some fn)(hbd:fn.body.isNone=false) (hnm:(fn.name == "runtime.NumGoroutine")=false)
  (B:laidOutB P=true) (xid m n:Nat) (hts:UX P fn.params.toList=true) (hτ:fn.params.toList.map (Cg P xid n)=τs.map some) (U:N8 P xid m=true)
  {bt:TypeId} (hr:fn.resultTypes = #[bt]) (hbt:P.underlying bt=some .bool) {s:ChangeSpec} (hv:s.vars=[]) (hs:∀ ds:List (DataW H),ds.length=τs.length->s.fn H ds={ results:=[.lit (.bool true)],args:=ds })
  (hl:RW H) {lim:Nat} (law:∀ x:YM τs,wfL τs x->bkL τs x<=lim->(F (TL τs x)).run=some true)
  {fresh handsOn:Bool} {zD:World} {base:Nat} {args:Array Value} {ds gs:List (DataW H)} {before:List MemPlace}
  (hval:∀ (j:Nat) t v,fn.params[j]? = some t->args[j]? = some v->zR P zD .any base t v)
  (hW:DataW.Whole enc P fn.params.toList s.vars false zD args.toList ds gs before) (hk:hl.bs (ds++gs)<=lim) (hG:V9 zD λk=>k<zD.heap.size) :
  Calls P f args zD λe W'=>∃ v,e=.returned v/\s.post enc P fn false fresh handsOn false zD args v W':=by
 refine SU (Ek.snd hS) hf hbd hnm B xid m n τs hts hτ U hr hbt hv hs hl (λx hw J => ?_) hval hW hk hG
 have h:=T.yT.1 (law x hw J)
 rw[<- BS τs x]
 exact T.zg.2 ⟨TL τs x,DZ [] _ _,T.zg.2 ⟨true,h,rfl⟩⟩
end
end Go.AM