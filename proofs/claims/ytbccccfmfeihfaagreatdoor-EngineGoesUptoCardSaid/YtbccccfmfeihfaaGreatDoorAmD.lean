/-
  The abstract machine, part D: texts of our own, the same for each claim.
-/
import Derived.Test.YtbccccfmfeihfaaGreatDoorAmA
import Derived.Lib.LaidTab
import Derived.Shelf.Vars
import Derived.Test.YtbccccfmfeihfaaGreatDoorAmC
import Derived.OpenShut
import Derived.Test.YtbccccfmfeihfaaGreatDoorAmB
import Derived.Lib.LazyBuf
set_option linter.unusedVariables false
open Nat renaming eq_of_beq_eq_true -> zA, beq -> U, le_of_ble_eq_true -> zE, le_refl -> zJ, ble -> zM, blt -> zO, ble_eq -> zU, le_trans -> zV, zero_add -> qD, not_lt_zero -> qN, beq_refl -> qS
open List renaming getElem?_eq_some_iff -> Y, all_cons -> zF, getElem?_eq_getElem -> zG, mem_cons -> zH, mem_cons_of_mem -> zI, getElem?_append_left -> zK, mem_singleton -> zL, mem_append -> zN, all_eq_true -> zP, mem_cons_self -> zQ, append_nil -> zT, isEmpty_iff -> zW, range -> zX, eq_nil_of_length_eq_zero -> zY, length -> zZ, map_cons -> qI, cons_append -> qJ, length_cons -> qK
open Bool renaming and_eq_true -> M, not_eq_true' -> qF
open Go.Value renaming okWide -> zR, cells -> qH
open Go.DataW renaming TrodAll -> zS, LaidVars -> qP
open Array renaming getElem?_setIfInBounds -> qA, length_toList -> qB, getD_eq_getD_getElem? -> qC, getElem?_eq_some_iff -> qE, getElem?_toList -> qO
open Go.Cell renaming okWide -> qG
open Option renaming bind_eq_some_iff -> qL
open Sum renaming inr -> qM, inl -> qR
open Go.Lib renaming TabIs -> qQ
open Go.World renaming cell? -> qT
namespace Go.AM
def FU(k:IntKind)(zs:List Int)(o:Obj):Prop:=∃ t fr,o=.cells (zs.map λz=>Value.int k z).toArray t fr
def DH(k:IntKind)(o:Obj):Prop:=∃ m t fr,o=.cells #[.int k m] t fr
theorem z4G{P:Program}{w:World}{name:String}{k:IntKind}{zs:List Int}{g:Nat}(hg:P.globalNamed name=some g)(h:qQ P w name k zs) :
  g<w.heap.size/\∃ o,w.heap[g]? = some o/\FU k zs o:=by
 unfold qQ World.var? at h
 rw[hg]at h
 simp at h
 split at h
 ·rename_i cs t fr ho
  cases h
  exact⟨(qE.1 ho).1,_,ho,t,fr,rfl⟩
 ·cases h
theorem zf1{P:Program}{w:World}{name:String}{k:IntKind}{zs:List Int}{g:Nat}(hg:P.globalNamed name=some g)(h:∃ o,w.heap[g]? = some o/\FU k zs o):qQ P w name k zs:=by
 obtain⟨o,ho,t,fr,rfl⟩:=h
 unfold qQ World.var?
 grind
theorem Tl{w:World}{k:IntKind}{g:Nat}(h:∃ o,w.heap[g]? = some o/\DH k o):∃ m,w.cell? ⟨g,0,none⟩=some (.int k m):=by
 obtain⟨o,ho,m,t,fr,rfl⟩:=h
 exact⟨m,by simp[qT,ho]⟩
theorem Tm{P:Program}{w:World}{g:Nat}{t:TypeId}{zero:Array Value}{k:IntKind}
  (h:w.ShapedOpen P) (hg:g<P.globals.size)
  (h0:((begin P (λ_ _=>0) default).world.heap[g]?).bind Obj.row? = some (zero,t)) (hz:zero.size=1)
  (I:P.buildable t=true) (hc:P.cellTypes P.depth t=some [t]) (hu:P.underlying t=some (.int k)):g<w.heap.size/\∃ o,w.heap[g]? = some o/\DH k o:=by
 obtain⟨m,hm⟩:=Go.Proofs.cell_of_shapedOpen_int h hg h0 hz I hc hu
 obtain⟨cs,hh,hs,_⟩:=h.1 g zero t hg h0
 have R:cs.size=1:=hs.trans hz
 refine⟨(qE.1 hh).1,_,hh,m,t,(0,0),?_⟩
 have h1:w.cell? ⟨g,0,none⟩=some cs[0]:=by simp[qT,hh]
 have:cs = #[.int k m]:=by
  grind
 rw[this]
theorem Tp{P:Program}{zl:World}{name:String}{k:IntKind}{zs:List Int}{rest:List (String×DataW Unit)}{ps:List MemPlace}{g:Nat}{t e:TypeId}{n:Nat}
  (hg:P.globalNamed name=some g) (NY:(P.globals[g]?).map (·.type)=some t) (ht:P.underlying t=some (.array n e)) (he:P.underlying e=some (.int k)) (hce:P.cellsOf e=1) (hct:P.cellsOf t=n)
  (h:qP P zl ((name,Lib.tabData k zs)::rest) ps):g<zl.heap.size/\∃ o,zl.heap[g]? = some o/\FU k zs o:=by
 obtain⟨g',t',cs,fuel,p,q,hg',ht',ziy,J,_,_⟩:=h
 refine z4G hg ?_
 obtain rfl:=Option.some.inj (hg.symm.trans hg')
 obtain rfl:=Option.some.inj (NY.symm.trans ht')
 unfold qQ
 rw[ziy,<- Lib.cells_of_tab ht he hce hct J]
theorem BW{P:Program}{zl:World}{x:String×DataW Unit}{rest:List (String×DataW Unit)}{ps:List MemPlace}(h:qP P zl (x::rest) ps):∃ q,qP P zl rest q:=by
 obtain⟨g',t',cs,fuel,p,q,hg',ht',ziy,J,h1,_⟩:=h
 grind
end Go.AM
namespace Go.AM
open Go.RowKit
mutual
def bkE:Expr->Nat
 | .mk _ n s l=>1+((1+((zZ n.2.1+1)+((zZ n.2.2.1+1)+1)))+((zZ s+1)+((bkEs l+1)+1)))
def bkEs:List Expr->Nat
 | []=>0
 | e::r=>bkE e+bkEs r
end
def We{α:Type}(f:α->Nat):List α->Nat
 | []=>0
 | x::r=>f x+We f r
def bk:(τ:Ty)->den τ->Nat
 | .int _,_=>1
 | .bool,_=>1
 | .str,s=>zZ s+1
 | .sl e,l=>We (bk e) l+1
 | .nil,_=>1
 | .cons a b,x=>bk a x.1+bk b x.2
 | .expr,x=>bkE x
theorem Hu{α:Type}(l:List α):We (λ_=>1) l=l.length:=by induction l with | nil=>rfl | cons x r ih=>simp[We]; omega
theorem NF(l:List Expr):bkEs l=We (bk .expr) l:=by induction l with | nil=>rfl | cons x r ih=>simp[bkEs,We,ih,bk]
theorem z6J(x:Expr):bk Kx x.z1h=bk .expr x:=by
 cases x with | mk k n s l =>
 simp only[bk,Expr.z1h,bkE,NF,Expr.num,Expr.name,Expr.kids,Hu]
mutual
def wfE:Expr->Prop
 | .mk k n s l=>(IntKind.i64.min<=k/\k<=IntKind.i64.max)/\((True/\((∀ x∈n.2.1,IntKind.u32.min<=x/\x<=IntKind.u32.max)/\((∀ x∈n.2.2.1,IntKind.u32.min<=x/\x<=IntKind.u32.max)/\True)))/\(zZ s<=maxLen/\(wfEs l/\True)))
def wfEs:List Expr->Prop
 | []=>True
 | e::r=>wfE e/\wfEs r
end
def wf:(τ:Ty)->den τ->Prop
 | .int k,n=>k.min<=n/\n<=k.max
 | .bool,_=>True
 | .str,s=>zZ s<=maxLen
 | .sl e,l=>∀ x∈l,wf e x
 | .nil,_=>True
 | .cons a b,x=>wf a x.1/\wf b x.2
 | .expr,x=>wfE x
theorem S4(l:List Expr):wfEs l↔∀ x∈l,wf .expr x:=by induction l with | nil=>simp[wfEs] | cons x r ih=>simp[wfEs,ih,wf]
theorem zaK(x:Expr):wf Kx x.z1h↔wf .expr x:=by
 cases x with | mk k n s l=>simp only[wf,Expr.z1h,wfE,S4,Expr.kind,Expr.num,Expr.name,Expr.kids]
structure Sv(H:Type) where
 b:DataW H->Nat
 bs:List (DataW H)->Nat
 str:∀ s,b (.lit (.string s))=s.length+1
 bool:∀ x,b (.lit (.bool x))=1
 int:∀ k n,b (.lit (.int k n))=1
 nil:b .nil=1
 slice:∀ x y,b (.slice x y)=bs x+bs y+1
 agg:∀ x,b (.agg x)=bs x+1
 zero:bs []=0
 cons:∀ x r,bs (x::r)=b x+bs r
section
variable (P:Program) (xid:Nat)
def KQ:Nat->List Field->Bool
 | _,[]=>true
 | o,f::r=>U f.offset o&&KQ (o+P.cellsOf f.type) r
def Kw:Nat->List Field->Nat
 | o,[]=>o
 | o,f::r=>Kw (o+P.cellsOf f.type) r
def CG:Nat->Nat->Option Ty
 | 0,_=>none
 | n+1,t=>bif U t xid then some .expr else
  match P.underlying t with
  | some (.int k)=>some (.int k)
  | some .bool=>some .bool
  | some .string=>some .str
  | some (.slice e)=>match CG n e with | some a=>bif U (P.cellsOf e) a.size&&zO 0 a.size then some (.sl a)else none | none=>none
  | some (.struct fs)=>bif KQ P 0 fs.toList&&U (Kw P 0 fs.toList) (P.cellsOf t)then oB (fs.toList.map λf=>CG n f.type)else none
  | _=>none
def Nd(m:Nat):Bool:=match P.underlying xid with
 | some (.struct fs)=>KQ P 0 fs.toList&&U (Kw P 0 fs.toList) (P.cellsOf xid)&&decide (oB (fs.toList.map λf=>CG P xid m f.type)=some Kx)
 | some _=>false
 | none=>true
end
section
variable {H:Type} {enc:TypeId×Value->H} {P:Program} {w:World} {xid m:Nat} (B:Sv H)
def YN(w:World)(B:Sv H)(τ:Ty)(cs:List Value)(k:Nat):Prop:=∃ x:den τ,Rc w (λk=>k<w.heap.size) τ x cs/\wf τ x/\bk τ x<=k
theorem KU{fuel:Nat}{cs:List Value}(ih:∀ n t τ cs d ps,CG P xid n t=some τ->DataW.trod enc P w 0 (λ_=>true) true fuel t cs=some (d,ps)->YN w B τ cs (B.b d)){n:Nat} :
  ∀ (fs:List Field) (o:Nat) (τ:Ty) (xs:List (DataW H×List MemPlace)),oB (fs.map λf=>CG P xid n f.type)=some τ->KQ P o fs=true->Kw P o fs=cs.length->xs.length=fs.length ->
   (∀ (i:Nat) (f:Field),fs[i]? = some f->DataW.trod enc P w 0 (λ_=>true) true fuel f.type ((cs.drop f.offset).take (P.cellsOf f.type))=xs[i]?)->YN w B τ (cs.drop o) (B.bs (xs.map (·.1))+1)
 | [],o,τ,xs,ht,_,he,R,_=>by
  cases ht
  simp only[Kw]at he
  obtain rfl:xs=[]:=zY R
  refine⟨(),?_,trivial,by simp[bk]⟩
  rw[he,List.drop_length]; exact .nil
 | f::r,o,τ,xs,ht,ho,he,R,N=>by
  cases xs with
  | nil=>simp at R
  | cons x xs =>
  simp only[KQ,M]at ho
  have ho1:f.offset=o:=zA ho.1
  simp only[qI]at ht
  cases h1:CG P xid n f.type with
  | none=>rw[h1]at ht; cases ht
  | some a =>
   rw[h1]at ht
   simp only[oB]at ht
   cases X:oB (r.map λf=>CG P xid n f.type)with
   | none=>grind
   | some b =>
    rw[X]at ht
    cases ht
    obtain⟨x1,p1,p2,p3⟩:=ih n f.type a _ x.1 x.2 h1 (by have:=N 0 f rfl; simpa using this)
    obtain⟨x2,q1,q2,q3⟩:=KU ih r (o+P.cellsOf f.type) b xs X ho.2 he (by simpa using R) (λi g hg=>by have:=N (i+1) g (by simpa using hg); simpa using this)
    refine⟨(x1,x2),?_,⟨p2,q2⟩,?_⟩
    ·have e:cs.drop o=(cs.drop o).take (P.cellsOf f.type)++cs.drop (o+P.cellsOf f.type):=by
      conv=>lhs; rw[<- List.take_append_drop (P.cellsOf f.type) (cs.drop o)]
      simp
     rw[e]
     rw[ho1]at p1
     exact .cons _ _ _ _ _ _ p1 q1
    ·simp only[bk,qI,B.cons]; omega
theorem Ci{e:Ty}(k:Nat):∀ (n:Nat) (elems:List (DataW H×List MemPlace)) (g:Nat->List Value),elems.length=n->(∀ i,i<n->∃ d,elems[i]? = some d/\YN w B e (g i) (B.b d.1)) ->
  ∃ l:List (den e),l.length=n/\(∀ i (hi:i<l.length),Rc w (λk=>k<w.heap.size) e l[i] (g i))/\(∀ x∈l,wf e x)/\We (bk e) l<=B.bs (elems.map (·.1))
 | 0,elems,g,R,_=>by
  exact⟨[],rfl,λi hi=>absurd hi (qN i),qp,by simp[We]⟩
 | n+1,elems,g,R,h=>by
  cases elems with
  | nil=>simp at R
  | cons y ys =>
   obtain⟨d,h1,x,X,h3,h4⟩:=h 0 (Z)
   simp at h1
   subst h1
   obtain⟨l,l1,l2,l3,l4⟩:=Ci k n ys (λi=>g (i+1)) (wb) λi hi=>by
    obtain⟨d,h1,X⟩:=h (i+1) (Z)
    exact⟨d,wb,X⟩
   refine⟨x::l,wb,λi hi => ?_,λz hz => ?_,?_⟩
   ·grind
   ·grind
   ·simp only[We,qI,B.cons]; omega
theorem TS(N:Nd P xid m=true):∀ (fuel n t:Nat) (τ:Ty) (cs:List Value) (d:DataW H) (ps:List MemPlace),CG P xid n t=some τ->DataW.trod enc P w 0 (λ_=>true) true fuel t cs=some (d,ps)->YN w B τ cs (B.b d):=by
 intro fuel
 induction fuel with
 | zero=>nofun
 | succ fuel ih =>
  intro n t τ cs d ps ht h
  have struct:∀ (fs:Array Field) (k:Nat) (σ:Ty),P.underlying t=some (.struct fs)->(KQ P 0 fs.toList&&U (Kw P 0 fs.toList) (P.cellsOf t))=true->oB (fs.toList.map λf=>CG P xid k f.type)=some σ->YN w B σ cs (B.b d):=by
   intro fs k σ hu ho hc
   simp only[M]at ho
   obtain⟨xs,n',hn,J,R,hlx,Yx⟩:=DataW.trod_struct hu h
   cases hn
   cases J
   have:=KU B (cs:=cs) (ih:=ih) fs.toList 0 σ xs hc ho.1 (by rw[zA ho.2,R]) (by simpa using hlx) (λi f hf=>Yx i f (by simpa using hf))
   rw[B.agg]
   grind
  cases n with
  | zero=>cases ht
  | succ n =>
   unfold CG at ht
   cases I:U t xid with
   | true =>
    rw[I,cond_true]at ht
    cases ht
    have:=zA I
    subst this
    unfold Nd at N
    split at N
    ·rename_i fs hu
     simp only[M,decide_eq_true_eq]at N
     obtain⟨x,h1,X,h3⟩:=struct fs m Kx hu (by simp[N.1.1,N.1.2]) N.2
     refine⟨Expr.MC x,.expr _ _ _ _ _ h1,?_,?_⟩
     ·exact(zaK (Expr.MC x)).1 X
     ·rw[<- z6J (Expr.MC x)]; exact h3
    ·cases N
    ·rename_i hu
     rw[DataW.trod_step]at h
     simp[DataW.trodStep,hu]at h
   | false =>
    rw[I,cond_false]at ht
    split at ht
    ·rename_i k hu
     cases ht
     obtain⟨n',rfl,X,h3⟩:=DataW.trod_int hu h
     cases X
     simp only[Lit.wf,M,decide_eq_true_eq]at h3
     exact⟨n',.int k n',h3,by simp[bk,B.int]⟩
    ·rename_i hu
     cases ht
     obtain⟨b,rfl,X⟩:=DataW.trod_bool hu h
     cases X
     exact⟨b,.bool b,trivial,by simp[bk,B.bool]⟩
    ·rename_i hu
     cases ht
     obtain⟨s,rfl,X,h3⟩:=DataW.trod_string hu h
     cases X
     refine⟨s.data.toList,?_,?_,?_⟩
     ·have:s=⟨s.data.toList.toArray⟩:=by cases s; simp
      exact .str _
     ·simp only[wf,qB]; exact h3
     ·simp[bk,B.str]
    ·rename_i e hu
     split at ht
     ·rename_i a ha
      cases hc:U (P.cellsOf e) a.size&&zO 0 a.size with
      | false=>grind
      | true =>
       rw[hc,cond_true]at ht
       cases ht
       simp only[M]at hc
       have bR:P.cellsOf e=a.size:=zA hc.1
       have V9:0<a.size:=zE hc.2
       rcases DataW.trod_slice hu h with⟨rfl,X⟩ | ⟨p,len,cap,elems,rest,n',hn,rfl,J,_,js,_,hlen,hel,hre,_⟩
       ·cases X
        exact⟨[],.lK a none,by simp[wf],by simp[bk,We,B.nil]⟩
       ·cases hn
        cases J
        by_cases h0:cap=0
        ·subst h0
         have:len=0:=Z
         subst this
         exact⟨[],.lK a (some p),by simp[wf],by simp[bk,We,B.slice]⟩
        ·rw[bR]at hel hre
         have zdy:p.block<w.heap.size/\p.spot=none:=by
          have first:∃ x,(w.cells? 0 p a.size)=some x:=by
           by_cases R:len=0
           ·have:=(hre rfl).2 0 (Z)
            cases hcc:w.cells? 0 p a.size with
            | some x=>simp
            | none =>
             have e0:p.add ((0+0)*a.size)=p:=by simp[Addr.add]
             grind
           ·have:=hel 0 (Z)
            cases hcc:w.cells? 0 p a.size with
            | some x=>simp
            | none =>
             have e0:p.add (0*a.size)=p:=by simp[Addr.add]
             grind
          obtain⟨x,N⟩:=first
          refine⟨World.cells?_block N V9,?_⟩
          have X:=(World.cells?_some N).2
          have h3:=X.2 0 V9
          have e0:p.add 0=p:=rfl
          cases hs:p.spot with
          | none=>rfl
          | some q =>
           unfold qT at h3
           grind
         obtain⟨blk,off,sp⟩:=p
         obtain⟨z1O,Va⟩:=zdy
         subst Va
         have hg:∀ i,∃ c:List Value,i<len->∃ d,elems[i]? = some d/\YN w B a c (B.b d.1)/\w.cells? 0 ⟨blk,off+i*a.size,none⟩ a.size=some c:=by
          intro i
          by_cases hi:i<len
          ·have:=hel i hi
           rw[addr_add]at this
           cases hcc:w.cells? 0 ⟨blk,off+i*a.size,none⟩ a.size with
           | none =>
            grind
           | some c =>
            refine⟨c,λ_=>⟨elems[i]'(Z),qp,?_,rfl⟩⟩
            grind
          ·exact⟨[],λh=>absurd h hi⟩
         let g:Nat->List Value:=λi=>Classical.choose (hg i)
         have hg':∀ i,i<len->∃ d,elems[i]? = some d/\YN w B a (g i) (B.b d.1)/\w.cells? 0 ⟨blk,off+i*a.size,none⟩ a.size=some (g i):=λi hi=>Classical.choose_spec (hg i) hi
         obtain⟨l,l1,l2,l3,l4⟩:=Ci B (w:=w) (e:=a) 0 len elems g hlen λi hi=>by
          grind
         refine⟨l,?_,l3,?_⟩
         ·have:=Rc.sl (w:=w) (ok:=λk=>k<w.heap.size) a l blk off cap g z1O (Z) l2 λi hi j v hj=>by
           obtain⟨d,_,_,h3⟩:=hg' i (Z)
           obtain⟨_,k2,k3⟩:=World.cells?_some h3
           have hjl:j<(g i).length:=(Y.1 hj).1
           have:=k3 j (Z)
           rw[addr_add,hj]at this
           exact this
          grind
         ·simp only[bk,B.slice]; omega
     ·cases ht
    ·rename_i fs hu
     cases hc:KQ P 0 fs.toList&&U (Kw P 0 fs.toList) (P.cellsOf t)with
     | false=>grind
     | true =>
      rw[hc,cond_true]at ht
      exact struct fs n τ hu hc ht
    ·cases ht
end
end Go.AM
namespace Go.AM
set_option linter.unusedSectionVars false
variable [gp]
open Go.RowKit Go.ChangeShapes
def G6:List Ty->Type
 | []=>Unit
 | τ::r=>den τ×G6 r
def mkD:(τs:List Ty)->G6 τs->List D
 | [],_=>[]
 | τ::r,x=>.qs τ x.1::mkD r x.2
def wfL:(τs:List Ty)->G6 τs->Prop
 | [],_=>True
 | τ::r,x=>wf τ x.1/\wfL r x.2
def bkL:(τs:List Ty)->G6 τs->Nat
 | [],_=>0
 | τ::r,x=>bk τ x.1+bkL r x.2
def Jg(P:Program)(ts:List Nat):Bool:=ts.all λt=>P.readableRec t&&decide (t<P.types.size)
section
variable {H:Type} {enc:TypeId×Value->H} {P:Program} {xid m n:Nat} {w:World}
theorem zcD{t:Nat}{τ:Ty}{v:Value}{base:Nat}(ht:CG P xid n t=some τ)(N:Nd P xid m=true)(h:zR P w .any base t v):pk τ v.cells.toList=v:=by
 cases n with
 | zero=>cases ht
 | succ n =>
  have agg:∀ fs:Array Field,P.underlying t=some (.struct fs)->τ.isAgg=true->pk τ v.cells.toList=v:=by
   intro fs hu ha
   unfold zR at h
   rw[hu]at h
   obtain⟨cs,rfl,_⟩:=h
   simp[pk,ha,qH]
  unfold CG at ht
  cases I:U t xid with
  | true =>
   rw[I,cond_true]at ht
   cases ht
   have:=zA I
   subst this
   unfold Nd at N
   split at N
   ·rename_i fs hu; exact agg fs hu rfl
   ·cases N
   ·rename_i hu
    unfold zR at h
    rw[hu]at h
    simp[qG,Cell.ok,hu]at h
  | false =>
   rw[I,cond_false]at ht
   split at ht
   ·rename_i k hu
    cases ht
    unfold zR at h
    rw[hu]at h
    simp only[qG,hu,Cell.ok]at h
    split at h<;>simp_all [pk,Ty.isAgg,qH]
   ·rename_i hu
    cases ht
    unfold zR at h
    rw[hu]at h
    simp only[qG,hu,Cell.ok]at h
    split at h<;>simp_all [pk,Ty.isAgg,qH]
   ·rename_i hu
    cases ht
    unfold zR at h
    rw[hu]at h
    simp only[qG,hu,Cell.ok]at h
    split at h<;>simp_all [pk,Ty.isAgg,qH]
   ·rename_i e hu
    have h1:τ.isAgg=false:=by
     split at ht
     ·rename_i a ha
      cases hc:U (P.cellsOf e) a.size&&zO 0 a.size with
      | false=>grind
      | true=>rw[hc,cond_true]at ht; cases ht; rfl
     ·cases ht
    unfold zR at h
    rw[hu]at h
    simp only[qG,hu,Cell.ok]at h
    split at h<;>simp_all [pk,qH]
   ·rename_i fs hu
    refine agg fs hu ?_
    cases hc:KQ P 0 fs.toList&&U (Kw P 0 fs.toList) (P.cellsOf t)with
    | false=>grind
    | true =>
     rw[hc,cond_true]at ht
     have key:∀ (l:List (Option Ty)),oB l=some τ->τ.isAgg=true:=by
      intro l R
      cases l with
      | nil=>cases R; rfl
      | cons a r =>
       cases a with
       | none=>cases R
       | some a =>
        simp only[oB]at R
        cases X:oB r with
        | none=>grind
        | some b=>rw[X]at R; cases R; rfl
     grind
   ·cases ht
theorem Iq(B:Sv H)(N:Nd P xid m=true){base:Nat}:∀ (ts:List TypeId) (τs:List Ty) (vs:List Value) (ds:List (DataW H)) (ps:List MemPlace),ts.map (CG P xid n)=τs.map some ->
  zS enc P w 0 (λ_=>true) true ts vs ds ps->(∀ (j:Nat) t v,ts[j]? = some t->vs[j]? = some v->zR P w .any base t v) ->
  ∃ x:G6 τs,wQ ⟨w,λk=>k<w.heap.size,[],[]⟩ (mkD τs x) vs/\wfL τs x/\bkL τs x<=B.bs ds/\ds.length=τs.length
 | [],τs,vs,ds,ps,ht,h,_=>by
  cases τs with
  | cons=>cases ht
  | nil =>
   cases vs<;>cases ds<;>simp only[zS]at h
   exact⟨(),⟨rfl,λi h1=>absurd h1 (qN i)⟩,trivial,Nat.zero_le _,rfl⟩
 | t::ts,τs,vs,ds,ps,ht,h,hv=>by
  cases τs with
  | nil=>cases ht
  | cons τ τs =>
   simp at ht
   cases vs with
   | nil=>simp[zS]at h
   | cons v vs =>
    cases ds with
    | nil=>simp[zS]at h
    | cons d ds =>
     obtain⟨p,q,⟨fuel,h1⟩,X,_⟩:=h
     obtain⟨x,k1,k2,k3⟩:=TS B N fuel n t τ _ d p ht.1 h1
     obtain⟨y,g1,g2,g3,g4⟩:=Iq B N ts τs vs ds q ht.2 X λj t v a b=>hv (j+1) t v (wb) (wb)
     refine⟨(x,y),⟨by simp only[mkD,qK]; rw[g1.1],λi h1 X => ?_⟩,⟨k2,g2⟩,?_,wb⟩
     ·cases i with
      | zero =>
       have:=RD.qs (O:=⟨w,λk=>k<w.heap.size,[],[]⟩) τ x _ k1
       rw[zcD ht.1 N (hv 0 t v rfl rfl)]at this
       exact this
      | succ i=>exact g1.2 i (by simpa[mkD]using h1) (wb)
     ·simp only[bkL,B.cons]; omega
theorem BC(R:laidOutB P=true){zl W':World}(I:Below zl.heap.size zl W'):∀ (ts:List TypeId) (vs:List Value) (ds:List (DataW H)) (ps:List MemPlace),Jg P ts=true ->
  zS enc P zl 0 (λ_=>true) true ts vs ds ps->(∀ x∈ps,x.block<zl.heap.size)->zS enc P W' 0 (λb=>decide (b<zl.heap.size)) true ts vs ds ps
 | [],vs,ds,ps,_,h,_=>by cases vs<;>cases ds<;>simp_all [zS]
 | t::ts,vs,ds,ps,ht,h,wO=>by
  cases vs with
  | nil=>simp[zS]at h
  | cons v vs =>
   cases ds with
   | nil=>simp[zS]at h
   | cons d ds =>
    obtain⟨p,q,h1,X,rfl⟩:=h
    simp only[Jg,zF,M,decide_eq_true_eq]at ht
    exact⟨p,q,Below.trod R ht.1.1 ht.1.2 h1 I λx N=>wO x (wb),BC R I ts vs ds q (by simpa[Jg]using ht.2) X λx N=>wO x (wb),rfl⟩
end
theorem Tq{H:Type}{enc:TypeId×Value->H}{P:Program}{f:Nat}{fn:Func}{S:List D->St->T (HM×St)}(hS:Es P f S)(hf:P.funcs[f]? = some fn)(hbd:fn.body.isNone=false) (hnm:(fn.name == "runtime.NumGoroutine")=false)
  (R:laidOutB P=true) (xid m n:Nat) (τs:List Ty) (hts:Jg P fn.params.toList=true) (hτ:fn.params.toList.map (CG P xid n)=τs.map some) (N:Nd P xid m=true)
  {bt:TypeId} (hr:fn.resultTypes = #[bt]) (hbt:P.underlying bt=some .bool) {s:ChangeSpec} (hv:s.vars=[]) (hs:∀ ds:List (DataW H),ds.length=τs.length->s.fn H ds={ results:=[.lit (.bool true)],args:=ds })
  (B:Sv H) {lim:Nat} (law:∀ x:G6 τs,wfL τs x->bkL τs x<=lim->(S (mkD τs x) []).leads (.ret [.qs .bool true],[]))
  {fresh handsOn:Bool} {zl:World} {base:Nat} {args:Array Value} {ds gs:List (DataW H)} {before:List MemPlace}
  (hval:∀ (j:Nat) t v,fn.params[j]? = some t->args[j]? = some v->zR P zl .any base t v)
  (hW:DataW.Whole enc P fn.params.toList s.vars false zl args.toList ds gs before) (hk:B.bs (ds++gs)<=lim) (hG:Vy zl λk=>k<zl.heap.size) :
  Calls P f args zl λe W'=>∃ v,e=.returned v/\s.post enc P fn false fresh handsOn false zl args v W':=by
 have hW':=hW
 obtain⟨p,q,hA,hV,rfl,hfz,hnd⟩:=hW
 rw[hv]at hV
 obtain⟨rfl,rfl⟩:=trodVars_none hV
 simp only[zT]at hk hW'
 obtain⟨x,h1,X,h3,h4⟩:=Iq (n:=n) B N fn.params.toList τs args.toList ds p hτ hA λj t v a b=>hval j t v (wb) (wb)
 have hI:Inv ⟨zl,λk=>k<zl.heap.size,[],[]⟩ :=
  ⟨rfl,λk hk=>hk,λb blk n h=>wb,λb b' blk n n' h=>by simp at h,λb x h=>by simp at h,hG⟩
 have zbf:=hS ⟨zl,λk=>k<zl.heap.size,[],[]⟩ (mkD τs x) args.toList _ _ (law x X (zV h3 hk)) hI h1
 rw[Array.toArray_toList]at zbf
 have key:Calls P f args zl λe w'=>∃ E:KS,E.w=w'/\E.st=[]/\Inv E/\Ext ⟨zl,λk=>k<zl.heap.size,[],[]⟩ E/\jo E (.ret [.qs .bool true]) e:=by
  rcases zbf with⟨_,h⟩ | ⟨v,w',h,_⟩
  ·exact h
  ·have:=uY (args:=args) hf hnm hbd zl
   grind
 refine key.mono λe W' ⟨E,e1,_,_,e4,v,e5,e6⟩ => ?_
 subst e1
 have I:Below zl.heap.size zl E.w:=⟨e4.os,e4.tape,e4.output,e4.size,λk hk=>e4.frame k hk λb n h=>by simp at h⟩
 have hv':v=.bool true:=by
  obtain⟨cs,g1,g2⟩:=RD.cY (show RD E (.qs .bool true) v from e6)
  rw[g1.cA]at g2
  exact g2
 subst hv'
 have wO:∀ x∈p,x.block<zl.heap.size:=λx N=>by simpa using hW'.lt x N
 refine⟨_,e5,ds,[],p,[],p,[],hW',?_,?_,?_,I.frame _,λh=>by cases h⟩
 ·rw[zT,hs ds h4,hr]
  exact trodAll_cons_mk (shut_bool hbt _) trodAll_mk0
 ·rw[zT,hs ds h4]
  exact BC R I _ _ _ _ hts hA wO
 ·rw[zT,hs ds h4,hv]
  rfl
end Go.AM
namespace Go.AM
def Et:List Ty->Type
 | []=>Unit
 | [τ]=>den τ
 | τ::σ::r=>den τ×Et (σ::r)
def JO.ty:JO->Ty | .rp τ=>τ | .im τ=>τ
def fY:List JO->Type
 | []=>Unit
 | [p]=>den p.ty
 | p::q::r=>den p.ty×fY (q::r)
def Cd:(p:JO)->den p.ty->D
 | .rp τ,x=>.vH τ x
 | .im τ,x=>.qs τ x
def Qg:(l:List JO)->fY l->List D
 | [],_=>[]
 | [p],x=>[Cd p x]
 | p::q::r,x=>Cd p x.1::Qg (q::r) x.2
def Fg:(l:List JO)->fY l
 | []=>()
 | [p]=>zb p.ty
 | p::q::r=>(zb p.ty,Fg (q::r))
inductive Sk where
 | im (τ:Ty) | row (b:Nat) (e:Ty) | op (b T:Nat) | un | nl
def lY:List Sk->Type
 | []=>Unit
 | .im τ::r=>den τ×lY r
 | .row _ _::r=>lY r
 | .op _ _::r=>lY r
 | .un::r=>lY r
 | .nl::r=>lY r
def Wu:(l:List Sk)->lY l
 | []=>()
 | .im τ::r=>(zb τ,Wu r)
 | .row _ _::r=>Wu r
 | .op _ _::r=>Wu r
 | .un::r=>Wu r
 | .nl::r=>Wu r
inductive Mc where
 | im (τ:Ty) | rp (τ:Ty) | pt (b:Nat)
def ZS:List Mc->Type
 | []=>Unit
 | .im τ::r=>den τ×ZS r
 | .rp τ::r=>den τ×ZS r
 | .pt _::r=>ZS r
def Yo:(l:List Mc)->ZS l
 | []=>()
 | .im τ::r=>(zb τ,Yo r)
 | .rp τ::r=>(zb τ,Yo r)
 | .pt _::r=>Yo r
def Vf:(l:List Mc)->ZS l->List D
 | [],_=>[]
 | .im τ::r,x=>.qs τ x.1::Vf r x.2
 | .rp τ::r,x=>.vH τ x.1::Vf r x.2
 | .pt b::r,x=>.ptr b 0::Vf r x
inductive Dk where
 | qs (τ:Ty) | vH (τ:Ty) | sub (b:Nat) (e:Ty) | wo (f:Nat) (caps:List JO) | st (ks:List Sk) | mclo (f:Nat) (ms:List Mc) | mp | sQ (e:Ty) | tight (e:Ty)
inductive Ck where
 | ptr (b off:Nat) | cur (b:Nat) (e:Ty) | wJ | gx | ve | wo (f:Nat) (l:List (Nat×Nat)) | yR (b:Nat) | uZ
inductive Bk where
 | var (k:Dk) | cvar (k:Ck) | arr (e:Ty) | dead
def Dk.den:Dk->Type
 | .qs τ=>AM.den τ
 | .vH τ=>AM.den τ
 | .sub _ _=>Nat×Nat
 | .wo _ caps=>fY caps
 | .st ks=>lY ks
 | .mclo _ ms=>ZS ms
 | .mp=>List Int
 | .sQ e=>List (AM.den e)×Bool
 | .tight e=>List (AM.den e)
def Dk.zb:(k:Dk)->k.den
 | .qs τ=>AM.zb τ
 | .vH τ=>AM.zb τ
 | .sub _ _=>(0,0)
 | .wo _ caps=>Fg caps
 | .st ks=>Wu ks
 | .mclo _ ms=>Yo ms
 | .mp=>[]
 | .sQ _=>([],false)
 | .tight _=>[]
inductive It where
 | s (t:Nat) (k:Dk) | v (k:Dk) | a (e:Ty)
def It.den:It->Type
 | .s _ k=>k.den
 | .v k=>k.den
 | .a e=>List (AM.den e)
def It.zb:(i:It)->i.den
 | .s _ k=>k.zb
 | .v k=>k.zb
 | .a _=>[]
def jX:List It->Type
 | []=>Unit
 | [i]=>i.den
 | i::j::r=>i.den×jX (j::r)
def znb:cU->Nat
 | .arr v _ _=>v
 | _=>0
def jE(st:St)(b:Nat):Nat:=match st[b]? with | some x=>znb x | none=>0
def jr(st:St):(l:List Sk)->lY l->List D
 | [],_=>[]
 | .im τ::r,x=>AM.flat τ x.1++jr st r x.2
 | .row b e::r,x=>.ms b (jE st b) e 0 (jE st b)::jr st r x
 | .op b T::r,x=>.eF b T::jr st r x
 | .un::r,x=>.Vv::jr st r x
 | .nl::r,x=>.wJ::jr st r x
def X3(st:St):(k:Dk)->k.den->D
 | .qs τ,x=>.qs τ x
 | .vH τ,x=>.vH τ x
 | .sub b e,x=>.ms b (jE st b) e x.1 x.2
 | .wo f caps,x=>.wo f (Qg caps x)
 | .st ks,x=>.agg (jr st ks x)
 | .mclo f ms,x=>.wo f (Vf ms x)
 | .mp,x=>.Cg x
 | .sQ e,x=>.sQ e x.1 x.2
 | .tight e,x=>.tight e x false
def Ie(st:St):Ck->D
 | .ptr b off=>.ptr b off
 | .cur b e=>.ms b (jE st b) e 0 (jE st b)
 | .wJ=>.wJ
 | .gx=>.gx
 | .ve=>.ve
 | .wo f l=>.wo f (l.map λp=>.ptr p.1 p.2)
 | .yR b=>.yR b
 | .uZ=>.uZ
def nD(st:St):(l:List It)->jX l->Fr
 | [],_=>[]
 | [.s t k],x=>[(t,some (X3 st k x))]
 | [.v _],_=>[]
 | [.a _],_=>[]
 | .s t k::j::r,x=>(t,some (X3 st k x.1))::nD st (j::r) x.2
 | .v _::j::r,x=>nD st (j::r) x.2
 | .a _::j::r,x=>nD st (j::r) x.2
def z9V(st:St)(l:List (Nat×Ck)):Fr:=l.map λp=>(p.1,some (Ie st p.2))
inductive Bd where
 | v (k:Dk) (x:k.den) | a (e:Ty) (x:List (AM.den e))
def Zr:(l:List It)->jX l->List Bd
 | [],_=>[]
 | [.s _ _],_=>[]
 | [.v k],x=>[.v k x]
 | [.a e],x=>[.a e x]
 | .s _ _::j::r,x=>Zr (j::r) x.2
 | .v k::j::r,x=>.v k x.1::Zr (j::r) x.2
 | .a e::j::r,x=>.a e x.1::Zr (j::r) x.2
def fI:List Bk->List Bd->St
 | [],_=>[]
 | .arr _::r,.a e x::d=>.arr x.length e x::fI r d
 | .var _::r,_::d=>.dead::fI r d
 | .cvar _::r,d=>.dead::fI r d
 | .dead::r,d=>.dead::fI r d
 | _::_,_=>[]
def jK(st:St):List Bk->List Bd->St
 | [],_=>[]
 | .arr _::r,.a e x::d=>.arr x.length e x::jK st r d
 | .var _::r,.v k x::d=>.var (X3 st k x)::jK st r d
 | .cvar c::r,d=>.var (Ie st c)::jK st r d
 | .dead::r,d=>.dead::jK st r d
 | _::_,_=>[]
def zpP(bs:List Bk)(d:List Bd):St:=jK (fI bs d) bs d
structure uh where
 fH:List It
 cs:List (Nat×Ck)
 bs:List Bk
def uh.den(s:uh):Type:=jX s.fH
def uh.st(s:uh)(x:s.den):St:=zpP s.bs (Zr s.fH x)
def uh.fr(s:uh)(x:s.den):Fr:=nD (s.st x) s.fH x++z9V (s.st x) s.cs
def S0:(p:JO)->D->Option (den p.ty)
 | .rp τ,d=>match d with | .vH _ x=>jV x | _=>none
 | .im τ,d=>oQ τ d
def N9:(l:List JO)->List D->Option (fY l)
 | [],[]=>some ()
 | [p],[d]=>S0 p d
 | p::q::r,d::ds=>(S0 p d).bind λx=>(N9 (q::r) ds).bind λy=>some (x,y)
 | _,_=>none
def lJ(st:St)(b:Nat):Nat:=match st[b]? with | some (.arr _ _ xs)=>xs.length | _=>0
def z47(st:St)(b T:Nat)(ds:List D):Option (List D):=match st[b]? with
 | some (.var _)=>match ds with
  | .nh T'::ds=>bif U T T' then some ds else none
  | .eF b' T'::ds=>bif U b b'&&U T T' then some ds else none
  | _=>none
 | _=>none
def zf7(ds:List D):Option (List D):=match ds with
 | d::ds=>bif d.one then some ds else none
 | _=>none
def zeC(ds:List D):Option (List D):=match ds with
 | .wJ::ds=>some ds
 | _=>none
def oH(st:St):(l:List Sk)->List D->T (lY l)
 | [],ds=>match ds with | []=>.ret () | _=>.fail
 | .im τ::r,ds=>match cT τ ds with | some p=>(oH st r p.2).bind λy=>.ret (p.1,y) | none=>.fail
 | .row b e::r,ds=>match ds with
  | .ms b' vp e' off len::ds=>bif U b b'&&decide (e=e')then .W (zu vp off len (lJ st b)) (oH st r ds)else .fail
  | _=>.fail
 | .op b T::r,ds=>match z47 st b T ds with | some q=>oH st r q | none=>.fail
 | .un::r,ds=>match zf7 ds with | some q=>oH st r q | none=>.fail
 | .nl::r,ds=>match zeC ds with | some q=>oH st r q | none=>.fail
def Y4:(l:List Mc)->List D->T (ZS l)
 | [],ds=>match ds with | []=>.ret () | _=>.fail
 | .im τ::r,ds=>match ds with
  | d::ds=>match oQ τ d with | some y=>(Y4 r ds).bind λz=>.ret (y,z) | none=>.fail
  | _=>.fail
 | .rp τ::r,ds=>match ds with
  | .vH _ x::ds=>match(jV x:Option (AM.den τ))with | some y=>(Y4 r ds).bind λz=>.ret (y,z) | none=>.fail
  | _=>.fail
 | .pt b::r,ds=>match ds with
  | .ptr b' off::ds=>bif U b b'&&U off 0 then Y4 r ds else .fail
  | _=>.fail
def X6(st:St):(k:Dk)->D->T k.den
 | .qs τ,d=>.H2 (oQ τ d)
 | .vH τ,d=>match d with | .vH _ x=>.H2 (jV x) | _=>.fail
 | .sub b e,d=>match d with
  | .ms b' vp e' off len=>bif U b b'&&decide (e=e')then .W (vp=jE st b) (.ret (off,len))else .fail
  | _=>.fail
 | .wo f caps,d=>match d with
  | .wo f' l=>bif U f f' then .H2 (N9 caps l)else .fail
  | _=>.fail
 | .st ks,d=>bif d.cQ then oH st ks (we d)else .fail
 | .mclo f ms,d=>match d with
  | .wo f' l=>bif U f f' then Y4 ms l else .fail
  | _=>.fail
 | .mp,d=>match d with | .Cg l=>.ret l | _=>.fail
 | .sQ e,d=>match d with
  | .wJ=>.ret ([],false)
  | .sQ e' l b=>match(jV (a:=.sl e') (b:=.sl e) l:Option (List (AM.den e)))with | some l=>.ret (l,b) | none=>.fail
  | _=>.fail
 | .tight e,d=>match d with
  | .wJ=>.ret []
  | .tight e' l _=>.H2 (jV (a:=.sl e') (b:=.sl e) l)
  | _=>.fail
def Ub:List (Nat×Nat)->List D->Bool
 | [],[]=>true
 | p::r,.ptr b off::ds=>U p.1 b&&U p.2 off&&Ub r ds
 | _,_=>false
def JC(st:St):Ck->D->T Unit
 | .ptr b off,d=>match d with | .ptr b' off'=>bif U b b'&&U off off' then .ret ()else .fail | _=>.fail
 | .cur b e,d=>match d with
  | .ms b' vp e' off len=>bif U b b'&&decide (e=e')then .W (zu vp off len (lJ st b)) (.ret ())else .fail
  | _=>.fail
 | .wJ,d=>match d with | .wJ=>.ret () | _=>.fail
 | .gx,d=>match d with | .gx=>.ret () | _=>.fail
 | .ve,d=>match d with | .ve=>.ret () | _=>.fail
 | .wo f l,d=>match d with | .wo f' l'=>bif U f f'&&Ub l l' then .ret ()else .fail | _=>.fail
 | .yR b,d=>match d with | .yR b'=>bif U b b' then .ret ()else .fail | _=>.fail
 | .uZ,d=>match d with | .uZ=>.ret () | _=>.fail
def zaH(fr:Fr)(st:St):List (Nat×Ck)->T Unit
 | []=>.ret ()
 | p::r=>match fr.get p.1 with
  | some d=>(JC st p.2 d).bind λ_=>zaH fr st r
  | none=>.fail
def z3A(e:Ty)(b:cU):T (List (den e)):=match b with
 | .arr vp _ xs=>match(jV (a:=.sl _) (b:=.sl e) xs:Option (List (den e)))with
  | some ys=>.W (vp=ys.length) (.ret ys)
  | none=>.fail
 | _=>.fail
def Dk.plain:Dk->Bool
 | .qs _=>true
 | .vH _=>true
 | .st _=>true
 | .mp=>true
 | _=>false
def z3C(st:St)(k:Dk)(b:cU):T k.den:=match b with
 | .var d=>bif k.plain then X6 st k d else .fail
 | _=>.fail
def Mj:cU->Bool | .var _=>true | _=>false
def Bq(st:St):List Bk->List cU->T (List cU)
 | [],_=>.ret []
 | .arr _::r,b::bl=>(Bq st r bl).bind λl=>.ret (b::l)
 | .var _::r,b::bl=>(Bq st r bl).bind λl=>.ret (b::l)
 | .cvar c::r,.var d::bl=>(JC st c d).bind λ_=>Bq st r bl
 | .dead::r,b::bl=>bif Mj b then .fail else Bq st r bl
 | _,_=>.fail
def IQ(fr:Fr)(st:St)(bl:List cU):(i:It)->T (i.den×List cU)
 | .s t k=>match fr.get t with | some d=>(X6 st k d).bind λx=>.ret (x,bl) | none=>.fail
 | .v k=>match bl with | b::r=>(z3C st k b).bind λx=>.ret (x,r) | []=>.fail
 | .a e=>match bl with | b::r=>(z3A e b).bind λx=>.ret (x,r) | []=>.fail
def Fj{α:Type}(x:α×List cU):T α:=match x.2 with | []=>.ret x.1 | _=>.fail
def CH(fr:Fr)(st:St):(l:List It)->List cU->T (jX l)
 | [],bl=>Fj ((),bl)
 | [i],bl=>(IQ fr st bl i).bind Fj
 | i::j::r,bl=>(IQ fr st bl i).bind λx=>(CH fr st (j::r) x.2).bind λy=>.ret (x.1,y)
def rowAt(bs:List Bk)(b:Nat):Bool:=match bs[b]? with | some (.arr _)=>true | _=>false
def JH(bs:List Bk)(b:Nat):Bool:=match bs[b]? with | some (.var _)=>true | some (.cvar _)=>true | _=>false
def zah(bs:List Bk):Sk->Bool
 | .row b _=>rowAt bs b
 | .op b _=>JH bs b
 | _=>true
def zmU(bs:List Bk):Mc->Bool
 | .pt b=>JH bs b
 | _=>true
def Io(bs:List Bk):Dk->Bool
 | .mclo _ ms=>ms.all (zmU bs)
 | .sub b _=>rowAt bs b
 | .st ks=>ks.all (zah bs)
 | _=>true
def TR(bs:List Bk):Ck->Bool
 | .ptr b _=>JH bs b
 | .cur b _=>rowAt bs b
 | .wo _ l=>l.all λp=>JH bs p.1
 | .yR b=>JH bs b
 | _=>true
def zrc(bs:List Bk):It->Bool
 | .s _ k=>Io bs k
 | .v k=>Io bs k
 | .a _=>true
def zrb(bs:List Bk):Bk->Bool
 | .cvar c=>TR bs c
 | _=>true
def kinds:List It->List Bool
 | []=>[]
 | .s _ _::r=>kinds r
 | .v _::r=>false::kinds r
 | .a _::r=>true::kinds r
def fk:List Bk->List Bool->Bool
 | [],[]=>true
 | .arr _::bs,b::r=>b&&fk bs r
 | .var _::bs,b::r => !b&&fk bs r
 | .cvar _::bs,l=>fk bs l
 | .dead::bs,l=>fk bs l
 | _,_=>false
def uh.ok(s:uh):Bool:=fk s.bs (kinds s.fH)&&s.fH.all (zrc s.bs)&&s.cs.all (λp=>TR s.bs p.2)&&s.bs.all (zrb s.bs)
def uh.un(s:uh)(fr:Fr)(st:St):T s.den :=
 bif s.ok&&(st.take s.bs.length).all (D4 s.bs.length)then(zaH fr st s.cs).bind λ_=>(Bq st s.bs st).bind λbl=>CH fr st s.fH bl
 else .fail
structure Way where
 ex:Ex
 sh:uh
def fZ:List Way->Type
 | []=>Empty
 | [w]=>w.sh.den
 | w::v::r=>w.sh.den⊕fZ (v::r)
def NQ{α:Type}:(l:List Way)->fZ l->(Ex->Fr->St->T α)->T α
 | [],x,_=>nomatch x
 | [w],x,k=>k w.ex (w.sh.fr x) (w.sh.st x)
 | w::v::r,x,k=>Sum.elim (λa=>k w.ex (w.sh.fr a) (w.sh.st a)) (λb=>NQ (v::r) b k) x
def Wa:Ex->Ex->Bool
 | .normal,.normal=>true
 | .ret,.ret=>true
 | .exit a,.exit b=>U a b
 | .bh (.iface t _),.bh (.iface t' _)=>U t t'
 | _,_=>false
def HZ:Ex->Fr->Fr
 | .bh (.iface _ d),_=>[(0,some d)]
 | _,fr=>fr
def Fo:Ex->Fr->Option (Ex×Fr)
 | .bh (.iface t _),fr=>match fr.get 0 with | some d=>some (.bh (.iface t d),[]) | none=>none
 | .bh _,_=>none
 | e,fr=>some (e,fr)
def DC:(l:List Way)->Ex->Fr->St->T (fZ l)
 | [],_,_,_=>.fail
 | [w],ex,fr,st=>bif Wa w.ex ex then w.sh.un fr st else .fail
 | w::v::r,ex,fr,st=>bif Wa w.ex ex then(w.sh.un fr st).bind λx=>.ret (.inl x)else(DC (v::r) ex fr st).bind λy=>.ret (.inr y)
end Go.AM
namespace Go.AM
set_option linter.unusedSectionVars false
variable [gp] [Bw]
section
variable {c:Ctx} {n:Nat}
theorem get_mem:∀ {l:Fr} {s:Nat} {d:D},l.get s=some d->(s,some d)∈l
 | [],s,d,h=>by cases h
 | (t,d')::r,s,d,h=>by
  simp only[Fr.get]at h
  cases ht:U t s with
  | true =>
   rw[ht,cond_true]at h
   rw[zA ht,h]
   simp
  | false=>rw[ht,cond_false]at h; exact zI _ (get_mem h)
theorem get_append{l m:Fr}{s:Nat}{d:D}(h:(l++m).get s=some d):(s,some d)∈l\/m.get s=some d:=by
 induction l with
 | nil=>grind
 | cons p r ih =>
  obtain⟨t,d'⟩:=p
  simp only[qJ,Fr.get]at h
  cases ht:U t s with
  | true=>rw[ht,cond_true]at h; rw[zA ht,h]; exact .inl zQ
  | false=>grind
structure Wk(O E:KS):Prop where
 w:E.w=O.w
 ok:E.ok=O.ok
 ph:E.ph=O.ph
 len:E.st.length=O.st.length
 var:∀ (b:Nat) (d:D),O.st[b]? = some (cU.var d)->∃ d',E.st[b]? = some (cU.var d')
 arr:∀ (b v:Nat) (e:Ty) (xs:List (den e)),O.st[b]? = some (cU.arr v e xs)->E.st[b]? = some (cU.arr v e xs)\/E.st[b]? = some cU.dead
 arr':∀ (b v:Nat) (e:Ty) (xs:List (den e)),E.st[b]? = some (cU.arr v e xs)->O.st[b]? = some (cU.arr v e xs)
 dead:∀ (b:Nat),O.st[b]? = some cU.dead->E.st[b]? = some cU.dead
theorem Wk.ext{O E:KS}(h:Wk O E):Ext O E:=by
 refine⟨by rw[h.w],by rw[h.w],by rw[h.w],by rw[h.w]; exact zJ _,λk hk=>⟨by rw[h.ok]; exact hk,by rw[h.w]⟩,λk hk=>.inl (by rw[<- h.ok]; exact hk),
  λb blk m I=>.inl (by rw[<- h.ph]; exact I),λb d J=>⟨h.var b d J,by rw[h.ph]⟩,λb v0 e xs I => ?_,h.dead,by rw[h.len]; exact zJ _,λk _ _=>by rw[h.w]⟩
 rcases h.arr b v0 e xs I with g | g
 ·exact .inr ⟨v0,xs,g,zJ _,λ_=>⟨by rw[h.ph],rfl⟩⟩
 ·grind
theorem Wk.rd{O E:KS}(h:Wk O E){d:D}{v:Value}(J:RD O d v):RD E d v:=J.mono h.ext
theorem Wk.inv{O E:KS}(h:Wk O E)(hI:Inv O)(hv:∀ (b:Nat) (d:D),E.st[b]? = some (cU.var d)->pP E b (.var d)):Inv E:=by
 refine⟨by rw[h.ph,h.len]; exact hI.len,λk hk=>by rw[h.w]; exact hI.bT k (by rw[<- h.ok]; exact hk),λb blk m I => ?_,λb b' blk m m' I Yc=>hI.inj b b' blk m m' (by rw[<- h.ph]; exact I) (by rw[<- h.ph]; exact Yc),λb x N => ?_,hI.gl.mono h.ext.same⟩
 ·obtain⟨g1,g2⟩:=hI.apart b blk m (by rw[<- h.ph]; exact I)
  exact⟨by rw[h.w]; exact g1,λhk=>g2 (by rw[<- h.ok]; exact hk)⟩
 ·cases x with
  | dead=>trivial
  | var d=>grind
  | arr v e xs=>exact(hI.blk b _ (h.arr' b v e xs N)).mono h.ext (by rw[h.ph]) λblk m _=>by rw[h.w]
theorem HD{p:JO}{d:D}{x:den p.ty}(h:S0 p d=some x){O:KS}{v:Value}(J:RD O d v):RD O (Cd p x) v:=by
 cases p with
 | rp τ =>
  cases d<;>simp only[S0]at h<;>try (cases h; done)
  obtain⟨e,N⟩:=wk h
  cases e
  cases N
  exact J
 | im τ=>exact mG J h
theorem Y3{O:KS}:∀ (l:List JO) (ds:List D) (x:fY l) (vs:List Value),N9 l ds=some x->wQ O ds vs->wQ O (Qg l x) vs
 | [],[],x,vs,_,J=>by rw[J.wj]; exact .nil
 | [],_::_,_,_,h,_=>nomatch h
 | [p],[],_,_,h,_=>nomatch h
 | [p],[d],x,vs,h,J=>by
  obtain⟨v,us,rfl,h1,X⟩:=J.cons_inv
  rw[X.wj]
  exact .cons (HD h h1) .nil
 | [p],_::_::_,_,_,h,_=>nomatch h
 | p::q::r,[],_,_,h,_=>nomatch h
 | p::q::r,d::ds,x,vs,h,J=>by
  obtain⟨y,hy,h⟩:=qL.1 h
  obtain⟨z,hz,h⟩:=qL.1 h
  cases h
  obtain⟨v,us,rfl,h1,X⟩:=J.cons_inv
  exact .cons (HD hy h1) (Y3 (q::r) ds z us hz X)
theorem z0D{O:KS}{d:D}{v:Value}(J:RD O d v)(ha:d.cQ=true):∃ c,v=.agg c:=by
 cases J with
 | qs τ x cs h=>exact⟨cs.toArray,by unfold pk; rw[show τ.isAgg=true from ha]; rfl⟩
 | agg l vs R ho h=>simp
 | _=>cases ha
theorem zai{O:KS}{b T:Nat}{ds q:List D}{vs:List Value}(J:wQ O ds vs)(h:z47 O.st b T ds=some q):∃ v us,vs=v::us/\RD O (.eF b T) v/\wQ O q us:=by
 unfold z47 at h
 split at h
 ·rename_i d0 T7
  split at h
  ·rename_i T' ds
   cases I:U T T' with
   | false=>grind
   | true =>
    rw[I]at h
    cases h
    obtain⟨v,us,rfl,g1,g2⟩:=J.cons_inv
    exact⟨v,us,rfl,by cases g1; exact .nG b T d0 T7,g2⟩
  ·rename_i b' T' ds
   cases I:U b b'&&U T T' with
   | false=>grind
   | true =>
    simp only[M]at I
    have e1:=zA I.1
    have e2:=zA I.2
    obtain⟨v,us,rfl,g1,g2⟩:=J.cons_inv
    grind
  ·cases h
 ·cases h
theorem MF{st:St}{b T:Nat}{ds q:List D}(h:z47 st b T ds=some q):lB ds=some T:=by
 unfold z47 at h
 split at h
 ·split at h
  ·rename_i T' ds
   cases I:U T T' with
   | false=>grind
   | true=>rw[zA I]; rfl
  ·rename_i b' T' ds
   cases I:U b b'&&U T T' with
   | false=>grind
   | true =>
    simp only[M]at I
    rw[zA I.2]; rfl
  ·cases h
 ·cases h
theorem z9Y{O:KS}{ds q:List D}{vs:List Value}(J:wQ O ds vs)(h:zeC ds=some q):∃ v us,vs=v::us/\RD O .wJ v/\wQ O q us:=by
 unfold zeC at h
 split at h
 ·cases h; exact J.cons_inv
 ·cases h
theorem zaI{O:KS}{ds q:List D}{vs:List Value}(J:wQ O ds vs)(h:zf7 ds=some q):∃ v us,vs=v::us/\RD O .Vv v/\wQ O q us:=by
 unfold zf7 at h
 split at h
 ·rename_i d ds
  cases I:d.one with
  | false=>grind
  | true =>
   rw[I]at h
   cases h
   obtain⟨v,us,rfl,g1,g2⟩:=J.cons_inv
   exact⟨v,us,rfl,.Vv v (g1.YC I),g2⟩
 ·cases h
theorem mC{O:KS}{qt:St}{bs:List Bk}(p8:∀ b,rowAt bs b=true->jE qt b=lJ O.st b):∀ (ks:List Sk) (ds:List D) (x:lY ks) (vs:List Value),ks.all (zah bs)=true->(oH O.st ks ds).leads x->wQ O ds vs ->
  wQ O (jr qt ks x) vs/\∀ d∈jr qt ks x,d.one=true
 | [],ds,x,vs,_,h,J=>by
  cases ds with
  | nil=>exact⟨J,λd hm=>by cases hm⟩
  | cons d r=>exact h.elim
 | .im τ::r,ds,x,vs,ho,h,J=>by
  simp only[oH]at h
  split at h
  ·rename_i p hp
   obtain⟨y,h1,X⟩:=T.zi.1 h
   cases X
   obtain⟨c1,c2,rfl,g1,g2⟩:=V3 τ J hp
   simp only[zF,M]at ho
   obtain⟨k1,k2⟩:=mC p8 r p.2 y c2 ho.2 h1 g2
   refine⟨(Xw g1).append k1,λd hm => ?_⟩
   rcases zN.1 (show d∈flat τ p.1++jr qt r y from hm)with hm | hm
   ·exact rH τ _ d hm
   ·grind
  ·exact h.elim
 | .row b e::r,ds,x,vs,ho,h,J=>by
  cases ds with
  | nil=>exact h.elim
  | cons d ds =>
   cases d<;>simp only[oH]at h<;>try (exact h.elim)
   rename_i b' vp e' off len
   cases I:U b b'&&decide (e=e')with
   | false=>rw[I]at h; exact h.elim
   | true =>
    rw[I,cond_true]at h
    simp only[M,decide_eq_true_eq]at I
    obtain⟨⟨h1,X,h3⟩,h⟩:=h
    have:=zA I.1
    obtain⟨-,rfl⟩:=I
    subst this
    obtain⟨v,us,rfl,g1,g2⟩:=J.cons_inv
    simp only[zF,M]at ho
    obtain⟨k1,k2⟩:=mC p8 r ds x us ho.2 h g2
    have e1:jr qt (.row b e::r) x=.ms b vp e off len::jr qt r x:=by
     show D.ms b (jE qt b) e 0 (jE qt b)::_=_
     rw[p8 b ho.1,h1,X,h3]
    rw[e1]
    refine⟨.cons g1 k1,λd hm => ?_⟩
    rcases zH.1 hm with rfl | hm
    ·rfl
    ·grind
 | .op b T::r,ds,x,vs,ho,h,J=>by
  simp only[zF,M]at ho
  simp only[oH]at h
  split at h
  ·rename_i q hq
   obtain⟨v,us,rfl,g0,g2⟩:=zai J hq
   obtain⟨k1,k2⟩:=mC p8 r q x us ho.2 h g2
   refine⟨show wQ O (D.eF b T::jr qt r x) (v::us)from .cons g0 k1,λd hm => ?_⟩
   rcases zH.1 (show d∈D.eF b T::jr qt r x from hm)with rfl | hm
   ·rfl
   ·grind
  ·exact h.elim
 | .un::r,ds,x,vs,ho,h,J=>by
  simp only[zF,M]at ho
  simp only[oH]at h
  split at h
  ·rename_i q hq
   obtain⟨v,us,rfl,g0,g2⟩:=zaI J hq
   obtain⟨k1,k2⟩:=mC p8 r q x us ho.2 h g2
   refine⟨show wQ O (D.Vv::jr qt r x) (v::us)from .cons g0 k1,λd hm => ?_⟩
   rcases zH.1 (show d∈D.Vv::jr qt r x from hm)with rfl | hm
   ·rfl
   ·grind
  ·exact h.elim
 | .nl::r,ds,x,vs,ho,h,J=>by
  simp only[zF,M]at ho
  simp only[oH]at h
  split at h
  ·rename_i q hq
   obtain⟨v,us,rfl,g0,g2⟩:=z9Y J hq
   obtain⟨k1,k2⟩:=mC p8 r q x us ho.2 h g2
   refine⟨show wQ O (D.wJ::jr qt r x) (v::us)from .cons g0 k1,λd hm => ?_⟩
   rcases zH.1 (show d∈D.wJ::jr qt r x from hm)with rfl | hm
   ·rfl
   ·grind
  ·exact h.elim
theorem Zs{st qt:St}{bs:List Bk}(h:∀ b,rowAt bs b=true->jE st b=jE qt b):∀ (ks:List Sk) (x:lY ks),ks.all (zah bs)=true->jr st ks x=jr qt ks x
 | [],_,_=>rfl
 | .im τ::r,x,ho=>by
  simp only[zF,M]at ho
  show flat τ x.1++jr st r x.2=flat τ x.1++jr qt r x.2
  rw[Zs h r x.2 ho.2]
 | .row b e::r,x,ho=>by
  simp only[zF,M]at ho
  show D.ms b (jE st b) e 0 (jE st b)::jr st r x=D.ms b (jE qt b) e 0 (jE qt b)::jr qt r x
  rw[Zs h r x ho.2,h b ho.1]
 | .op b T::r,x,ho=>by
  simp only[zF,M]at ho
  show D.eF b T::jr st r x=D.eF b T::jr qt r x
  rw[Zs h r x ho.2]
 | .un::r,x,ho=>by
  simp only[zF,M]at ho
  show D.Vv::jr st r x=D.Vv::jr qt r x
  rw[Zs h r x ho.2]
 | .nl::r,x,ho=>by
  simp only[zF,M]at ho
  show D.wJ::jr st r x=D.wJ::jr qt r x
  rw[Zs h r x ho.2]
theorem Gb:∀ (τ:Ty) (x:den τ),∀ y∈flat τ x,∃ σ z,y=.qs σ z:=by
 intro τ x y hy
 induction τ with
 | cons a b ia ib =>
  simp only[flat]at hy
  grind
 | nil=>simp[flat]at hy
 | expr=>simp[flat]at hy; rcases hy with rfl | rfl | rfl | rfl | rfl | rfl<;>exact⟨_,_,rfl⟩
 | _=>simp[flat]at hy; subst hy; exact⟨_,_,rfl⟩
theorem Ek:∀ (τ:Ty) {ds:List D} {p:den τ×List D},cT τ ds=some p->τ.size=0->p.2=ds:=by
 intro τ
 induction τ with
 | nil=>intro ds p h _; simp only[cT,Option.some.injEq]at h; subst h; rfl
 | cons a b ia ib =>
  intro ds p h hz
  simp only[Ty.size]at hz
  simp only[cT]at h
  grind
 | _=>nofun
theorem KI{st qt:St}{tt:Nat}:∀ (ks:List Sk) (ds:List D) (x:lY ks),(oH st ks ds).leads x->lB (jr qt ks x)=some tt->lB ds=some tt
 | [],ds,x,h,ht=>by cases ht
 | .im τ::r,ds,x,h,ht=>by
  simp only[oH]at h
  split at h
  ·rename_i p hp
   obtain⟨y,h1,X⟩:=T.zi.1 h
   cases X
   have ht':lB (flat τ p.1++jr qt r y)=some tt:=ht
   cases hf:flat τ p.1 with
   | nil =>
    rw[hf]at ht'
    have hz:τ.size=0:=by rw[<- UL τ p.1,hf]; rfl
    have:=Ek τ hp hz
    rw[<- this]
    exact KI r p.2 y h1 ht'
   | cons z zs =>
    rw[hf]at ht'
    obtain⟨σ,w,e⟩:=Gb τ p.1 z (wb)
    rw[e]at ht'
    cases ht'
  ·exact h.elim
 | .row b e::r,ds,x,h,ht=>by cases ht
 | .op b T'::r,ds,x,h,ht=>by
  simp only[oH]at h
  split at h
  ·rename_i q hq
   cases ht
   exact MF hq
  ·exact h.elim
 | .un::r,ds,x,h,ht=>by cases ht
 | .nl::r,ds,x,h,ht=>by cases ht
theorem Y2{d:D}{T:Nat}(ha:d.cQ=true)(h:lB (we d)=some T):d.typed=some T:=by
 cases d with
 | qs τ x =>
  simp only[we]at h
  cases hf:flat τ x with
  | nil=>rw[hf]at h; cases h
  | cons z zs =>
   obtain⟨σ,w,e⟩:=Gb τ x z (wb)
   rw[hf,e]at h
   cases h
 | agg l=>exact h
 | _=>cases ha
theorem Dl{m:Nat}(τ:Ty)(x:den τ):∀ d∈flat τ x,yh m d=true:=λd J=>by
 obtain⟨σ,z,rfl⟩:=Gb τ x d J
 rfl
theorem cp{m:Nat}{st:St}{bs:List Bk}(I:∀ b,rowAt bs b=true->b<m)(T8:∀ b,JH bs b=true->b<m):∀ (ks:List Sk) (x:lY ks),ks.all (zah bs)=true->∀ d∈jr st ks x,yh m d=true
 | [],_,_,d,J=>by cases J
 | .im τ::r,x,ho,d,J=>by
  simp only[zF,M]at ho
  rcases zN.1 (show d∈flat τ x.1++jr st r x.2 from J)with J | J
  ·exact Dl τ _ d J
  ·exact cp I T8 r x.2 ho.2 d J
 | .row b e::r,x,ho,d,J=>by
  simp only[zF,M]at ho
  rcases zH.1 (show d∈D.ms b (jE st b) e 0 (jE st b)::jr st r x from J)with rfl | J
  ·have:=I b ho.1
   simp only[yh,zO,zU]; exact this
  ·exact cp I T8 r x ho.2 d J
 | .op b T::r,x,ho,d,J=>by
  simp only[zF,M]at ho
  rcases zH.1 (show d∈D.eF b T::jr st r x from J)with rfl | J
  ·have:=T8 b ho.1
   simp only[yh,zO,zU]; exact this
  ·exact cp I T8 r x ho.2 d J
 | .un::r,x,ho,d,J=>by
  simp only[zF,M]at ho
  rcases zH.1 (show d∈D.Vv::jr st r x from J)with rfl | J
  ·rfl
  ·exact cp I T8 r x ho.2 d J
 | .nl::r,x,ho,d,J=>by
  simp only[zF,M]at ho
  rcases zH.1 (show d∈D.wJ::jr st r x from J)with rfl | J
  ·rfl
  ·exact cp I T8 r x ho.2 d J
theorem V1{O:KS}:∀ (ms:List Mc) (ds:List D) (x:ZS ms) (vs:List Value),(Y4 ms ds).leads x->wQ O ds vs->wQ O (Vf ms x) vs
 | [],ds,x,vs,h,J=>by
  cases ds with
  | nil=>exact J
  | cons d r=>exact h.elim
 | .im τ::r,ds,x,vs,h,J=>by
  cases ds with
  | nil=>exact h.elim
  | cons d ds =>
   simp only[Y4]at h
   split at h
   ·rename_i y hy
    obtain⟨z,h1,X⟩:=T.zi.1 h
    cases X
    obtain⟨v,us,rfl,g1,g2⟩:=J.cons_inv
    exact .cons (mG g1 hy) (V1 r ds z us h1 g2)
   ·exact h.elim
 | .rp τ::r,ds,x,vs,h,J=>by
  cases ds with
  | nil=>exact h.elim
  | cons d ds =>
   cases d<;>simp only[Y4]at h<;>try (exact h.elim)
   split at h
   ·rename_i y hy
    obtain⟨e,N⟩:=wk hy
    cases e
    cases N
    obtain⟨z,h1,X⟩:=T.zi.1 h
    cases X
    obtain⟨v,us,rfl,g1,g2⟩:=J.cons_inv
    exact .cons g1 (V1 r ds z us h1 g2)
   ·exact h.elim
 | .pt b::r,ds,x,vs,h,J=>by
  cases ds with
  | nil=>exact h.elim
  | cons d ds =>
   cases d<;>simp only[Y4]at h<;>try (exact h.elim)
   rename_i b' off
   cases I:U b b'&&U off 0 with
   | false=>rw[I]at h; exact h.elim
   | true =>
    rw[I]at h
    simp only[M]at I
    have e1:=zA I.1
    have e2:=zA I.2
    subst e1 e2
    obtain⟨v,us,rfl,g1,g2⟩:=J.cons_inv
    exact .cons g1 (V1 r ds x us h g2)
theorem p9{m:Nat}{bs:List Bk}(I:∀ b,JH bs b=true->b<m):∀ (ms:List Mc) (x:ZS ms),ms.all (zmU bs)=true->∀ d∈Vf ms x,yh m d=true
 | [],_,_,d,J=>by cases J
 | .im τ::r,x,ho,d,J=>by
  simp only[zF,M]at ho
  rcases zH.1 (show d∈D.qs τ x.1::Vf r x.2 from J)with rfl | J
  ·rfl
  ·exact p9 I r x.2 ho.2 d J
 | .rp τ::r,x,ho,d,J=>by
  simp only[zF,M]at ho
  rcases zH.1 (show d∈D.vH τ x.1::Vf r x.2 from J)with rfl | J
  ·rfl
  ·exact p9 I r x.2 ho.2 d J
 | .pt b::r,x,ho,d,J=>by
  simp only[zF,M]at ho
  rcases zH.1 (show d∈D.ptr b 0::Vf r x from J)with rfl | J
  ·have:=I b ho.1
   simp only[yh,zO,zU]; exact this
  ·exact p9 I r x ho.2 d J
theorem Eh{O E:KS}(hw:Wk O E){k:Dk}{d:D}{x:k.den}{v:Value}{bs:List Bk}(ja:Io bs k=true)(p8:∀ b,rowAt bs b=true->jE E.st b=jE O.st b)
  {qt:St} (ud:∀ b,rowAt bs b=true->jE qt b=jE E.st b) (hlen:∀ b,rowAt bs b=true->jE O.st b=lJ O.st b) (h:(X6 O.st k d).leads x) (J:RD O d v):RD E (X3 qt k x) v:=by
 cases k with
 | mp=>cases d<;>first | exact h.elim | exact absurd J.z3G nofun
 | sQ e =>
  cases d<;>simp only[X6]at h<;>try (exact h.elim)
  ·split at h
   ·rename_i e' l b l' R
    cases h
    obtain⟨he,N⟩:=wk R
    cases he
    cases N
    exact hw.rd J
   ·exact h.elim
  ·cases h
   cases J
   exact .sQ e [] false _ (.lK e none) nofun λ_=>rfl
 | tight e =>
  cases d<;>simp only[X6]at h<;>try (exact h.elim)
  ·rename_i e' l ne
   obtain⟨he,N⟩:=wk (T.yA.1 h)
   cases he
   cases N
   cases hw.rd J with
   | vF e a=>exact .vF e a
   | tight e l ne blk off f ki ja h1 hc=>exact .tight e l false blk off f nofun ja h1 hc
  ·cases h
   cases J
   exact .vF e none
 | qs τ=>exact hw.rd (mG J (T.yA.1 h))
 | vH τ =>
  cases d<;>simp only[X6]at h<;>try (exact h.elim)
  obtain⟨e,N⟩:=wk (T.yA.1 h)
  cases e
  cases N
  exact hw.rd J
 | sub b e =>
  cases d<;>simp only[X6]at h<;>try (exact h.elim)
  rename_i b' vp e' off len
  cases I:U b b'&&decide (e=e')with
  | false=>rw[I]at h; exact h.elim
  | true =>
   rw[I,cond_true]at h
   simp only[M,decide_eq_true_eq]at I
   obtain⟨hv,h⟩:=h
   cases h
   have:=zA I.1
   obtain⟨-,rfl⟩:=I
   subst this
   simp only[X3]
   rw[ud b ja,p8 b ja,<- hv]
   exact hw.rd J
 | wo f caps =>
  cases d<;>simp only[X6]at h<;>try (exact h.elim)
  rename_i f' l
  cases I:U f f' with
  | false=>rw[I]at h; exact h.elim
  | true =>
   rw[I,cond_true]at h
   have:=zA I
   subst this
   have N:=T.yA.1 h
   cases J with
   | wo _ _ vs R hh =>
    have:=Y3 caps l x vs N (⟨R,hh⟩:wQ O l vs)
    exact hw.rd (.wo f _ vs this.1 this.2)
 | st ks =>
  simp only[X6]at h
  cases ha:d.cQ with
  | false=>rw[ha]at h; exact h.elim
  | true =>
   rw[ha]at h
   have ht:d.bF=false:=by cases d<;>first | rfl | (simp[D.cQ]at ha)
   obtain⟨g1,g2⟩:=mC (qt:=qt) (λb I=>(ud b I).trans ((p8 b I).trans (hlen b I))) ks (we d) x _ ja h (cI J ht)
   obtain⟨c,hc⟩:=z0D J ha
   subst hc
   have g1':wQ O (jr qt ks x) c.toList:=g1
   have:=RD.agg (O:=O) _ c.toList g1'.1 g2 g1'.2
   exact hw.rd (show RD O (.agg (jr qt ks x)) (.agg c) by simpa using this)
 | mclo f ms =>
  cases d<;>simp only[X6]at h<;>try (exact h.elim)
  rename_i f' l
  cases I:U f f' with
  | false=>rw[I]at h; exact h.elim
  | true =>
   rw[I]at h
   have:=zA I
   subst this
   cases J with
   | wo _ _ vs R hh =>
    have:=V1 ms l x vs h (⟨R,hh⟩:wQ O l vs)
    exact hw.rd (show RD O (.wo f (Vf ms x)) _ from .wo f _ vs this.1 this.2)
theorem Cq:∀ {l:List (Nat×Nat)} {ds:List D},Ub l ds=true->ds=l.map λp=>.ptr p.1 p.2
 | [],[],_=>rfl
 | [],_::_,h=>by simp[Ub]at h
 | p::r,[],h=>by simp[Ub]at h
 | p::r,d::ds,h=>by
  cases d<;>simp only[Ub]at h<;>try (cases h; done)
  simp only[M]at h
  rw[Cq h.2,<- zA h.1.1,<- zA h.1.2]
  rfl
theorem zaG{st qt:St}{ck:Ck}{d:D}{bs:List Bk}(ja:TR bs ck=true)(p8:∀ b,rowAt bs b=true->jE qt b=lJ st b)(h:(JC st ck d).leads ()):Ie qt ck=d:=by
 cases ck with
 | ptr b off =>
  cases d<;>simp only[JC]at h<;>try (exact h.elim)
  rename_i b' off'
  cases I:U b b'&&U off off' with
  | false=>rw[I]at h; exact h.elim
  | true =>
   simp only[M]at I
   rw[<- zA I.1,<- zA I.2]
   rfl
 | cur b e =>
  cases d<;>simp only[JC]at h<;>try (exact h.elim)
  rename_i b' vp e' off len
  cases I:U b b'&&decide (e=e')with
  | false=>rw[I]at h; exact h.elim
  | true =>
   rw[I,cond_true]at h
   simp only[M,decide_eq_true_eq]at I
   obtain⟨⟨h1,X,h3⟩,_⟩:=h
   have:=zA I.1
   obtain⟨-,rfl⟩:=I
   subst this
   simp only[Ie]
   rw[p8 b ja,h1,X,h3]
 | wJ=>cases d<;>simp only[JC]at h<;>first | rfl | exact h.elim
 | gx=>cases d<;>simp only[JC]at h<;>first | rfl | exact h.elim
 | ve=>cases d<;>simp only[JC]at h<;>first | rfl | exact h.elim
 | uZ=>cases d<;>simp only[JC]at h<;>first | rfl | exact h.elim
 | yR b =>
  cases d<;>simp only[JC]at h<;>try (exact h.elim)
  rename_i b'
  cases I:U b b' with
  | false=>rw[I]at h; exact h.elim
  | true=>rw[<- zA I]; rfl
 | wo f l =>
  cases d<;>simp only[JC]at h<;>try (exact h.elim)
  rename_i f' l'
  cases I:U f f'&&Ub l l' with
  | false=>rw[I]at h; exact h.elim
  | true =>
   simp only[M]at I
   rw[<- zA I.1,Cq I.2]
   rfl
theorem IP{fr:Fr}{st:St}:∀ {cs:List (Nat×Ck)},(zaH fr st cs).leads ()->∀ p∈cs,∃ d,fr.get p.1=some d/\(JC st p.2 d).leads ()
 | [],_,p,hp=>by cases hp
 | q::r,h,p,hp=>by
  simp only[zaH]at h
  split at h
  ·rename_i d J
   simp only[T.xh]at h
   obtain⟨⟨⟩,h1,X⟩:=h
   rcases zH.1 hp with rfl | hp
   ·grind
   ·exact IP X p hp
  ·exact h.elim
def Su(p:Dk->Bool)(st:St):List cU->List Bd->Prop
 | [],[]=>True
 | b::bl,.a e xs::r=>b=.arr xs.length e xs/\Su p st bl r
 | b::bl,.v k x::r=>(∃ d,b=.var d/\(k.plain=true/\p k=true)/\(X6 st k d).leads x)/\Su p st bl r
 | _,_=>False
theorem z3B{e:Ty}{b:cU}{x:List (den e)}(h:(z3A e b).leads x):b=.arr x.length e x:=by
 unfold z3A at h
 split at h
 ·split at h
  ·rename_i ys hy
   obtain⟨h1,X⟩:=h
   cases X
   obtain⟨he,N⟩:=wk hy
   grind
  ·exact h.elim
 ·exact h.elim
theorem z3D{st:St}{k:Dk}{b:cU}{x:k.den}(h:(z3C st k b).leads x):∃ d,b=.var d/\k.plain=true/\(X6 st k d).leads x:=by
 cases b with
 | var d =>
  simp only[z3C]at h
  cases hp:k.plain with
  | false=>rw[hp]at h; exact h.elim
  | true=>grind
 | _=>exact h.elim
def B0(st:St):(i:It)->i.den->Fr
 | .s t k,x=>[(t,some (X3 st k x))]
 | .v _,_=>[]
 | .a _,_=>[]
def z0I:(i:It)->i.den->List Bd
 | .s _ _,_=>[]
 | .v k,x=>[.v k x]
 | .a e,x=>[.a e x]
theorem GV(st:St)(i:It)(x:i.den):nD st [i] x=B0 st i x:=by cases i<;>rfl
theorem Kd(st:St)(i j:It)(r:List It)(x:i.den×jX (j::r)):nD st (i::j::r) x=B0 st i x.1++nD st (j::r) x.2:=by cases i<;>rfl
theorem z3x(i:It)(x:i.den):Zr [i] x=z0I i x:=by cases i<;>rfl
theorem TO(i j:It)(r:List It)(x:i.den×jX (j::r)):Zr (i::j::r) x=z0I i x.1++Zr (j::r) x.2:=by cases i<;>rfl
def zfK(fr:Fr)(st qt:St)(l:List It)(p:Nat×Option D):Prop:=∃ (k:Dk) (y:k.den) (d:D),(It.s p.1 k)∈l/\fr.get p.1=some d/\(X6 st k d).leads y/\p.2=some (X3 qt k y)
theorem S1{p:Dk->Bool}{fr:Fr}{st qt:St}{bl:List cU}{i:It}{x:i.den×List cU}(hp:∀ k,i=.v k->p k=true)(h:(IQ fr st bl i).leads x) :
  (∀ bd,Su p st x.2 bd->Su p st bl (z0I i x.1++bd))/\∀ p∈B0 qt i x.1,zfK fr st qt [i] p:=by
 cases i with
 | s t k =>
  simp only[IQ]at h
  split at h
  ·rename_i d J
   rw[T.xh]at h
   obtain⟨y,h1,rfl⟩:=h
   refine⟨λbd I=>I,λp hp => ?_⟩
   simp only[B0,zL]at hp
   subst hp
   exact⟨k,y,d,qp,J,h1,rfl⟩
  ·exact h.elim
 | v k =>
  cases bl with
  | nil=>exact h.elim
  | cons b r =>
   simp only[IQ]at h
   rw[T.xh]at h
   obtain⟨y,h1,rfl⟩:=h
   obtain⟨d,q1,q2,q3⟩:=z3D h1
   exact⟨λbd I=>⟨⟨d,q1,⟨q2,hp k rfl⟩,q3⟩,I⟩,λp hp=>by cases hp⟩
 | a e =>
  cases bl with
  | nil=>exact h.elim
  | cons b r =>
   simp only[IQ]at h
   rw[T.xh]at h
   obtain⟨y,h1,rfl⟩:=h
   exact⟨λbd I=>⟨z3B h1,I⟩,λp hp=>by cases hp⟩
theorem Fk{α:Type}{x:α×List cU}{y:α}(h:(Fj x).leads y):x=(y,[]):=by
 obtain⟨a,bl⟩:=x
 cases bl with
 | nil=>cases h; rfl
 | cons=>exact h.elim
theorem JD{p:Dk->Bool}{fr:Fr}{st qt:St}:∀ (l:List It) (bl:List cU) (x:jX l),(∀ k,It.v k∈l->p k=true)->(CH fr st l bl).leads x ->
  Su p st bl (Zr l x)/\∀ p∈nD qt l x,zfK fr st qt l p
 | [],bl,x,_,h=>by
  have h':(Fj ((),bl)).leads x:=h
  have:=Fk h'
  cases this
  exact⟨trivial,λp hp=>by cases hp⟩
 | [i],bl,x,hp,h=>by
  have h':((IQ fr st bl i).bind Fj).leads x:=h
  obtain⟨y,h1,X⟩:=T.zi.1 h'
  have:=Fk X
  subst this
  obtain⟨g1,g2⟩:=S1 (p:=p) (qt:=qt) (λk hk=>hp k (wb)) h1
  have e1:Zr [i] x=z0I i x:=z3x i x
  have e2:nD qt [i] x=B0 qt i x:=GV qt i x
  have:=g1 [] trivial
  grind
 | i::j::r,bl,x,hp,h=>by
  have h':((IQ fr st bl i).bind λx=>(CH fr st (j::r) x.2).bind λy=>T.ret (x.1,y)).leads x:=h
  obtain⟨y,h1,X⟩:=T.zi.1 h'
  obtain⟨z,h3,h4⟩:=T.zi.1 X
  cases h4
  obtain⟨g1,g2⟩:=S1 (p:=p) (qt:=qt) (λk hk=>hp k (wb)) h1
  obtain⟨k1,k2⟩:=JD (p:=p) (qt:=qt) (j::r) y.2 z (λk hk=>hp k (zI _ hk)) h3
  have e1:Zr (i::j::r) (y.1,z)=z0I i y.1++Zr (j::r) z:=TO i j r (y.1,z)
  have e2:nD qt (i::j::r) (y.1,z)=B0 qt i y.1++nD qt (j::r) z:=Kd qt i j r (y.1,z)
  rw[e1,e2]
  refine⟨g1 _ k1,λp hp => ?_⟩
  rcases zN.1 hp with hp | hp
  ·obtain⟨k,w,d,q1,q2⟩:=g2 p hp
   exact⟨k,w,d,wb,q2⟩
  ·obtain⟨k,w,d,q1,q2⟩:=k2 p hp
   exact⟨k,w,d,zI _ q1,q2⟩
inductive Bv(p:Dk->Bool)(st qt:St):Bk->cU->cU->Prop
 | arr (e e':Ty) (xs:List (den e)):Bv p st qt (.arr e') (.arr xs.length e xs) (.arr xs.length e xs)
 | var (k k':Dk) (d:D) (x:k.den) (hp:k.plain=true/\p k=true) (h:(X6 st k d).leads x):Bv p st qt (.var k') (.var d) (.var (X3 qt k x))
 | cvar (ck:Ck) (d:D) (h:(JC st ck d).leads ()):Bv p st qt (.cvar ck) (.var d) (.var (Ie qt ck))
 | dead (b:cU) (h:Mj b=false):Bv p st qt .dead b .dead
def mE:List Bd->List Bool
 | []=>[]
 | .v _ _::r=>false::mE r
 | .a _ _::r=>true::mE r
theorem Qf:∀ (l:List It) (x:jX l),mE (Zr l x)=kinds l
 | [],_=>rfl
 | [.s _ _],_=>rfl
 | [.v _],_=>rfl
 | [.a _],_=>rfl
 | .s _ _::j::r,x=>Qf (j::r) x.2
 | .v _::j::r,x=>congrArg (false :: ·) (Qf (j::r) x.2)
 | .a _::j::r,x=>congrArg (true :: ·) (Qf (j::r) x.2)
theorem JB{p:Dk->Bool}{st st0:St}:∀ {bs:List Bk} {blocks bl:List cU} {bd:List Bd},(Bq st bs blocks).leads bl->Su p st bl bd->fk bs (mE bd)=true ->
  (jK st0 bs bd).length=bs.length/\(∀ b,rowAt bs b=true->jE (fI bs bd) b=lJ blocks b/\jE (jK st0 bs bd) b=lJ blocks b/\jE blocks b=lJ blocks b) /\
  ∀ (i:Nat) (k:Bk),bs[i]? = some k->∃ B B',blocks[i]? = some B/\(jK st0 bs bd)[i]? = some B'/\Bv p st st0 k B B'
 | [],blocks,bl,bd,h,I,ho=>by
  refine⟨by simp[jK],λb I=>by simp[rowAt]at I,λi k hk=>by simp at hk⟩
 | k::r,[],bl,bd,h,I,ho=>by cases k<;>exact h.elim
 | .arr e::r,b::blocks,bl,bd,h,I,ho=>by
  simp only[Bq,T.xh]at h
  obtain⟨l,h1,rfl⟩:=h
  cases bd with
  | nil=>exact I.elim
  | cons q bd =>
   cases q with
   | v k x=>simp[mE,fk]at ho
   | a e' xs =>
    obtain⟨rfl,FD⟩:=I
    simp only[mE,fk,Bool.true_and]at ho
    obtain⟨g1,g2,g3⟩:=JB (st0:=st0) h1 FD ho
    refine⟨by simp[jK,g1],λb I => ?_,λi k hk => ?_⟩
    ·cases b with
     | zero=>simp[fI,jK,jE,znb,lJ]
     | succ b=>have:=g2 b (by simpa[rowAt]using I); simpa[fI,jK,jE,lJ]using this
    ·cases i with
     | zero=>simp at hk; subst hk; exact⟨_,_,rfl,rfl,.arr e' e xs⟩
     | succ i=>simpa[jK]using g3 i k (by simpa using hk)
 | .var k0::r,b::blocks,bl,bd,h,I,ho=>by
  simp only[Bq,T.xh]at h
  obtain⟨l,h1,rfl⟩:=h
  cases bd with
  | nil=>exact I.elim
  | cons q bd =>
   cases q with
   | a e' xs=>simp[mE,fk]at ho
   | v k x =>
    obtain⟨⟨d,rfl,hp,J⟩,FD⟩:=I
    simp only[mE,fk,Bool.not_false,Bool.true_and]at ho
    obtain⟨g1,g2,g3⟩:=JB (st0:=st0) h1 FD ho
    refine⟨by simp[jK,g1],λb I => ?_,λi k hk => ?_⟩
    ·cases b with
     | zero=>simp[rowAt]at I
     | succ b=>have:=g2 b (by simpa[rowAt]using I); simpa[fI,jK,jE,lJ]using this
    ·cases i with
     | zero=>simp at hk; subst hk; exact⟨_,_,rfl,rfl,.var k k0 d x hp J⟩
     | succ i=>simpa[jK]using g3 i k (by simpa using hk)
 | .cvar ck::r,b::blocks,bl,bd,h,I,ho=>by
  cases b with
  | var d =>
   simp only[Bq,T.xh]at h
   obtain⟨⟨⟩,h0,h1⟩:=h
   have ho':fk r (mE bd)=true:=by cases bd<;>simpa[fk]using ho
   obtain⟨g1,g2,g3⟩:=JB (st0:=st0) h1 I ho'
   have e1:jK st0 (.cvar ck::r) bd=.var (Ie st0 ck)::jK st0 r bd:=by cases bd<;>rfl
   have e0:fI (.cvar ck::r) bd=.dead::fI r bd:=by cases bd<;>rfl
   rw[e0,e1]
   refine⟨by simp[g1],λb I => ?_,λi k hk => ?_⟩
   ·cases b with
    | zero=>simp[rowAt]at I
    | succ b=>have:=g2 b (by simpa[rowAt]using I); simpa[jE,lJ]using this
   ·cases i with
    | zero=>simp at hk; subst hk; exact⟨_,_,rfl,rfl,.cvar ck d h0⟩
    | succ i=>grind
  | _=>exact h.elim
 | .dead::r,b::blocks,bl,bd,h,I,ho=>by
  simp only[Bq]at h
  cases hv:Mj b with
  | true=>rw[hv]at h; exact h.elim
  | false =>
   rw[hv,cond_false]at h
   have ho':fk r (mE bd)=true:=by cases bd<;>simpa[fk]using ho
   obtain⟨g1,g2,g3⟩:=JB (st0:=st0) h I ho'
   have e1:jK st0 (.dead::r) bd=.dead::jK st0 r bd:=by cases bd<;>rfl
   have e0:fI (.dead::r) bd=.dead::fI r bd:=by cases bd<;>rfl
   rw[e0,e1]
   refine⟨by simp[g1],λb I => ?_,λi k hk => ?_⟩
   ·cases b with
    | zero=>simp[rowAt]at I
    | succ b=>have:=g2 b (by simpa[rowAt]using I); simpa[jE,lJ]using this
   ·cases i with
    | zero=>simp at hk; subst hk; exact⟨_,_,rfl,rfl,.dead b hv⟩
    | succ i=>grind
inductive Refs(m:Nat):D->Prop
 | qs (τ:Ty) (x:AM.den τ):Refs m (.qs τ x)
 | tight (e:Ty) (l:List (AM.den e)) (ne:Bool):Refs m (.tight e l ne)
 | sQ (e:Ty) (l:List (AM.den e)) (b:Bool):Refs m (.sQ e l b)
 | wJ:Refs m .wJ
 | gx:Refs m .gx
 | ve:Refs m .ve
 | gw:Refs m .gw
 | uZ:Refs m .uZ
 | Vv:Refs m .Vv
 | nh (T:Nat):Refs m (.nh T)
 | eF (b T:Nat) (h:b<m):Refs m (.eF b T)
 | yR (b:Nat) (h:b<m):Refs m (.yR b)
 | ptr (b off:Nat) (h:b<m):Refs m (.ptr b off)
 | vH (τ:Ty) (x:AM.den τ):Refs m (.vH τ x)
 | gP (b vp:Nat) (e:Ty) (idx off:Nat) (h:b<m):Refs m (.gP b vp e idx off)
 | ms (b vp:Nat) (e:Ty) (off len:Nat) (h:b<m):Refs m (.ms b vp e off len)
 | wo (f:Nat) (l:List D) (h:∀ i (hi:i<l.length),Refs m l[i]):Refs m (.wo f l)
 | agg (l:List D) (h:∀ i (hi:i<l.length),Refs m l[i]):Refs m (.agg l)
 | eO (l:List D) (h:∀ i (hi:i<l.length),Refs m l[i]):Refs m (.eO l)
 | iface (t:Nat) (d:D) (h:Refs m d):Refs m (.iface t d)
theorem Refs.mono{m m':Nat}(hm:m<=m'){d:D}(h:Refs m d):Refs m' d:=by
 induction h with
 | ptr b off h=>exact .ptr b off (Z)
 | eF b T h=>exact .eF b T (Z)
 | yR b h=>exact .yR b (Z)
 | gP b vp e idx off h=>exact .gP b vp e idx off (Z)
 | ms b vp e off len h=>exact .ms b vp e off len (Z)
 | wo f l h ih=>exact .wo f l ih
 | agg l h ih=>exact .agg l ih
 | eO l h ih=>exact .eO l ih
 | iface t d h ih=>exact .iface t d ih
 | _=>constructor
theorem zar{O:KS}{m:Nat}{d:D}{v:Value}(h:RD O d v)(hr:Refs m d):RD (O.cut m) d v:=by
 induction h with
 | qs τ y cs h=>exact .qs τ y cs h
 | sQ e l b v h ht hf=>exact .sQ e l b v h ht hf
 | vF e a=>exact .vF e a
 | tight e l ne blk off f ki ja h hc=>exact .tight e l ne blk off f ki ja h hc
 | wJ=>exact .wJ
 | gx=>exact .gx
 | ve=>exact .ve
 | gw=>exact .gw
 | uZ=>exact .uZ
 | Vv v h=>exact .Vv v h
 | nh T=>exact .nh T
 | nG b T d I=>cases hr with | eF _ _ wO=>exact mU (.nG b T d I) (by simp only[yh,zO,zU]; exact wO)
 | yR b blk n d I h=>cases hr with | yR _ wO=>exact mU (.yR b blk n d I h) (by simp only[yh,zO,zU]; exact wO)
 | nH b T blk n d I h=>cases hr with | eF _ _ wO=>exact mU (.nH b T blk n d I h) (by simp only[yh,zO,zU]; exact wO)
 | ptr b off blk n d I h=>cases hr with | ptr _ _ wO=>exact mU (.ptr b off blk n d I h) (by simp only[yh,zO,zU]; exact wO)
 | vH τ y cs blk off ja h hc=>exact .vH τ y cs blk off ja h hc
 | gP b vp e idx off blk o I h=>cases hr with | gP _ _ _ _ _ wO=>exact mU (.gP b vp e idx off blk o I h) (by simp only[yh,zO,zU]; exact wO)
 | ms b vp e off len cap a I js ha Va h=>cases hr with | ms _ _ _ _ _ wO=>exact mU (.ms b vp e off len cap a I js ha Va h) (by simp only[yh,zO,zU]; exact wO)
 | wo f l vs R h ih=>cases hr with | wo _ _ hh=>exact .wo f l vs R λi h1 X=>ih i h1 X (hh i h1)
 | agg l vs R ho h ih=>cases hr with | agg _ hh=>exact .agg l vs R ho λi h1 X=>ih i h1 X (hh i h1)
 | eO l vs R h ih=>cases hr with | eO _ hh=>exact .eO l vs R λi h1 X=>ih i h1 X (hh i h1)
 | iface t d v h ih=>cases hr with | iface _ _ hh=>exact .iface t d v (ih hh)
theorem YY{a b:Nat}(h:a<b):zO a b=true:=by
 simp; exact h
theorem z13{O κe:KS}{m:Nat}(N:Ext O κe)(hm:O.st.length<=m):Ext O (κe.cut m):=by
 have wO:∀ b x,O.st[b]? = some x->b<m:=λb x h=>Nat.lt_of_lt_of_le (Y.1 h).1 hm
 have HQ:∀ b,b<m->(κe.cut m).ph[b]? = κe.ph[b]? := λb I=>by simp only[KS.cut]; rw[List.getElem?_take,if_pos I]
 refine⟨N.os,N.tape,N.output,N.size,N.same,N.fresh,λb blk n h=>N.phs b blk n (lA h).1,λb d h => ?_,λb v0 e xs h => ?_,λb h=>xz (N.dead b h) (wO b _ h),?_,N.frame⟩
 ·obtain⟨⟨d',h1⟩,X⟩:=N.var b d h
  exact⟨⟨d',xz h1 (wO b _ h)⟩,(HQ b (wO b _ h)).trans X⟩
 ·rcases N.arr b v0 e xs h with h1 | ⟨v1,x1,h1,X,h3⟩
  ·exact .inl (xz h1 (wO b _ h))
  ·exact .inr ⟨v1,x1,xz h1 (wO b _ h),X,λhe=>⟨(HQ b (wO b _ h)).trans (h3 he).1,(h3 he).2⟩⟩
 ·have:=N.II
  simp[KS.cut]; omega
theorem uh.Y5{κ0 O:KS}{fr:Fr}{a:Act}{sh:uh}{x:sh.den}(N:Ext κ0 O)(hI:Inv O)(hR:Rel O n fr.get a)(R:κ0.st.length<=sh.bs.length)(h:(sh.un fr O.st).leads x) :
  ∃ E:KS,E.w=O.w/\E.st=sh.st x/\Inv E/\Ext κ0 E/\Rel E n (sh.fr x).get a/\∀ (d:D) (v:Value),Refs sh.bs.length d->RD O d v->RD E d v:=by
 unfold uh.un at h
 cases hc:sh.ok&&(O.st.take sh.bs.length).all (D4 sh.bs.length)with
 | false=>rw[hc]at h; exact h.elim
 | true =>
  rw[hc,cond_true]at h
  simp only[M,uh.ok,zP]at hc
  obtain⟨⟨⟨⟨zpB,zhZ⟩,X7⟩,hbs⟩,KC⟩:=hc
  obtain⟨⟨⟩,h1,h⟩:=T.zi.1 h
  obtain⟨bl,X,h3⟩:=T.zi.1 h
  have hIc:=z6Q hI KC
  -- the store cut
  let m:=sh.bs.length
  obtain⟨g1,g2⟩:=JD (p:=Io sh.bs) (qt:=sh.st x) sh.fH bl x (λk hk=>zhZ _ hk) h3
  obtain⟨k1,k2,k3⟩:=JB (st0:=fI sh.bs (Zr sh.fH x)) X g1 ((congrArg (fk sh.bs) (Qf sh.fH x)).trans zpB)
  have ud:sh.st x=jK (fI sh.bs (Zr sh.fH x)) sh.bs (Zr sh.fH x):=rfl
  rw[<- ud]at k1 k2 k3
  let E:KS:={ O.cut m with st:=sh.st x }
  have hm:m<=O.st.length:=by
   rcases Nat.eq_zero_or_pos m with h0 | h0
   ·omega
   ·obtain⟨B,B',q1,_⟩:=k3 (m-1) (sh.bs[m-1]'(by show m-1<m; omega)) (qp)
    grind
  have zp4:∀ i B,O.st[i]? = some B->i<m->(O.cut m).st[i]? = some B:=λi B hB hi=>xz hB hi
  have Ta:(O.cut m).st.length=m:=by simp[KS.cut]; omega
  have pair:∀ i,i<m->∃ k B B',sh.bs[i]? = some k/\(O.cut m).st[i]? = some B/\E.st[i]? = some B'/\Bv (Io sh.bs) O.st (fI sh.bs (Zr sh.fH x)) k B B':=by
   intro i hi
   obtain⟨B,B',q1,q2,q3⟩:=k3 i (sh.bs[i]'hi) (qp)
   grind
  have lt:∀ {i:Nat} {B:cU},(O.cut m).st[i]? = some B->i<m:=λhB=>by have:=(Y.1 hB).1; omega
  have lt':∀ {i:Nat} {B:cU},E.st[i]? = some B->i<m:=λhB=>by have:=(Y.1 hB).1; have e:E.st.length=m:=k1; omega
  have hw:Wk (O.cut m) E:=by
   refine⟨rfl,rfl,rfl,by show(sh.st x).length=_; rw[k1,Ta],λb d I => ?_,λb v e xs I => ?_,λb v e xs I => ?_,λb I => ?_⟩
   ·obtain⟨k,B,B',q0,q1,q2,q3⟩:=pair b (lt I)
    rw[I]at q1; cases q1
    cases q3 with
    | var k' _ _ y _ hy=>grind
    | cvar ck _ hy=>grind
    | dead _ hv=>cases hv
   ·obtain⟨k,B,B',q0,q1,q2,q3⟩:=pair b (lt I)
    rw[I]at q1; cases q1
    cases q3 with
    | arr=>grind
    | dead=>grind
   ·obtain⟨k,B,B',q0,q1,q2,q3⟩:=pair b (lt' I)
    rw[I]at q2; cases q2
    cases q3 with
    | arr=>exact q1
   ·obtain⟨k,B,B',q0,q1,q2,q3⟩:=pair b (lt I)
    rw[I]at q1; cases q1
    cases q3 with
    | dead=>exact q2
  have Dy:∀ b,rowAt sh.bs b=true->jE E.st b=lJ O.st b/\jE (fI sh.bs (Zr sh.fH x)) b=lJ O.st b/\jE O.st b=lJ O.st b :=
   λb I=>⟨(k2 b I).2.1,(k2 b I).1,(k2 b I).2.2⟩
  have znq:∀ b,rowAt sh.bs b=true->jE (O.cut m).st b=jE O.st b:=by
   intro b I
   have hbm:b<m:=by
    unfold rowAt at I
    split at I
    ·rename_i hh; exact(Y.1 hh).1
    ·cases I
   unfold jE
   simp only[KS.cut]
   rw[List.getElem?_take,if_pos hbm]
  have hbm:∀ b,rowAt sh.bs b=true->b<m:=by
   intro b I
   unfold rowAt at I
   split at I
   ·rename_i hh; exact(Y.1 hh).1
   ·cases I
  have T8:∀ b,JH sh.bs b=true->b<m:=by
   intro b I
   unfold JH at I
   split at I
   ·rename_i hh; exact(Y.1 hh).1
   ·rename_i hh; exact(Y.1 hh).1
   ·cases I
  have dk:∀ (k:Dk) (y:k.den) (d:D) (v:Value) (qt:St),Io sh.bs k=true->(∀ b,rowAt sh.bs b=true->jE qt b=lJ O.st b)->(X6 O.st k d).leads y->RD O d v->RD E (X3 qt k y) v:=by
   intro k y d v qt ho hv hy J
   have hwk:Wk O O:=⟨rfl,rfl,rfl,rfl,λb d h=>⟨d,h⟩,λb v e xs h=>.inl h,λb v e xs h=>h,λb h=>h⟩
   have h0:=Eh hwk ho (λ_ _=>rfl) (qt:=O.st) (λ_ _=>rfl) (λb I=>(Dy b I).2.2) hy J
   have zp2:fV m (X3 O.st k y)=true:=by
    cases k with
    | sub b e=>exact YY (hbm b ho)
    | wo f caps =>
     have:∀ (l:List JO) (z:fY l),(Qg l z).all (yh m)=true:=by
      intro l
      induction l with
      | nil=>intro z; rfl
      | cons p r ih =>
       intro z
       have hp:∀ w:AM.den p.ty,yh m (Cd p w)=true:=λw=>by cases p<;>rfl
       cases r with
       | nil=>simp only[Qg,zF,List.all_nil,Bool.and_true]; exact hp z
       | cons q r=>simp only[Qg,zF,M]; exact⟨hp z.1,by simpa using ih z.2⟩
     exact this caps y
    | st ks=>exact zP.2 (cp hbm T8 ks y ho)
    | mclo f ms=>exact zP.2 (p9 T8 ms y ho)
    | _=>rfl
   have h1:=hw.rd (MO h0 zp2)
   have he:X3 O.st k y=X3 qt k y:=by
    cases k with
    | sub b e=>simp only[X3]; rw[hv b ho,(Dy b ho).2.2]
    | st ks=>simp only[X3]; rw[Zs (λb I=>(Dy b I).2.2.trans (hv b I).symm) ks y ho]
    | _=>rfl
   rwa [he]at h1
  have ck:∀ (q:Ck) (d:D) (v:Value) (qt:St),TR sh.bs q=true->(∀ b,rowAt sh.bs b=true->jE qt b=lJ O.st b)->(JC O.st q d).leads ()->Ie qt q=d/\(RD O d v->RD E d v):=by
   intro q d v qt ho hv hy
   have he:=zaG ho hv hy
   refine⟨he,λJ=>hw.rd (MO J ?_)⟩
   rw[<- he]
   cases q with
   | ptr b off=>exact YY (T8 b ho)
   | cur b e=>exact YY (hbm b ho)
   | wJ=>rfl
   | gx=>rfl
   | ve=>rfl
   | uZ=>rfl
   | yR b=>exact YY (T8 b ho)
   | wo f l =>
    simp only[TR,zP]at ho
    simp only[Ie,fV,zP,List.mem_map]
    rintro _ ⟨p,hp,rfl⟩
    exact YY (T8 p.1 (ho p hp))
  have hI':Inv E:=by
   refine hw.inv hIc λb d' I => ?_
   obtain⟨k,B,B',q0,q1,q2,q3⟩:=pair b (lt' I)
   rw[I]at q2
   cases q2
   cases q3 with
   | var kk k' d y hp hy =>
    refine kX.elim (hIc.blk b _ q1:kX _ _ _) (λYd eM => ?_) λl e zi8 => ?_
    rotate_left
    ·subst e
     cases kk with
     | mp=>cases hy; obtain⟨blk,o,e1,e2⟩:=zi8; exact⟨blk,o,e1,e2⟩
     | qs τ=>simp[X6,oQ]at hy; exact hy.elim
     | vH τ=>exact hy.elim
     | sub b e=>exact hy.elim
     | wo f caps=>exact hy.elim
     | st ks=>exact hy.elim
     | mclo f ms=>exact hy.elim
     | sQ e=>exact hy.elim
     | tight e=>exact hy.elim
    obtain⟨blk,n',cs,t,e1,e2,e3,e4,e5⟩:=eM
    cases kk with
    | qs τ =>
     have hco:oQ τ d=some y:=T.yA.1 hy
     have ht:d.bF=false:=by
      cases d with
      | eO l=>simp[oQ,D.bF]at hco
      | _=>rfl
     have EA:=XV hco e4 e5.1 ht
     exact kX.mk (O:=E) (b:=b) (d:=.qs τ y) rfl ⟨blk,n',cs,t,e1,e2,e3,(Xw EA).mono hw.ext,rH τ y,nofun⟩
    | vH τ =>
     cases d<;>simp only[X6]at hy<;>try (exact hy.elim)
     obtain⟨e,hyy⟩:=wk (T.yA.1 hy)
     cases e
     cases hyy
     exact kX.mk (O:=E) (b:=b) (d:=.vH τ _) rfl ⟨blk,n',cs,t,e1,e2,e3,e4.mono hw.ext,e5.1,nofun⟩
    | st ks =>
     simp only[X6]at hy
     cases ha:d.cQ with
     | false=>rw[ha]at hy; exact hy.elim
     | true =>
      rw[ha]at hy
      replace hy:(oH O.st ks (we d)).leads y:=hy
      have ztX:b<m:=lt' I
      have T7:O.st[b]? = some (.var d):=(lA q1).1
      obtain⟨zo0,n2,cs2,t2,f1,f2,f3,f4,f5⟩:=(hI.blk b _ T7:kX O b d).cells Yd
      have hp1:=(lA e1).1
      rw[f1]at hp1
      cases hp1
      have e2':=e2
      rw[show(O.cut m).w=O.w from rfl,f2]at e2
      cases e2
      obtain⟨g1,g2⟩:=mC (O:=O) (qt:=fI sh.bs (Zr sh.fH x)) (bs:=sh.bs) (λb I=>(Dy b I).2.1) ks (we d) y _ hp.2 hy f4
      refine kX.mk (O:=E) (b:=b) (d:=.agg (jr (fI sh.bs (Zr sh.fH x)) ks y)) rfl ⟨blk,n',cs,t,e1,e2',e3,(RP g1 λz hz => ?_).mono hw.ext,g2,λT hT => ?_⟩
      rotate_left
      ·exact f5.2 T (Y2 ha (KI ks (we d) y hy hT))
      have:=cp (m:=m) hbm T8 ks y hp.2 z hz
      cases z<;>first | exact this | cases this
    | mp=>cases d<;>first | exact hy.elim | cases Yd
    | _=>cases hp.1
   | cvar q d hy =>
    have hoq:TR sh.bs q=true:=hbs _ (List.mem_of_getElem? q0)
    obtain⟨g,_⟩:=ck q d undef (fI sh.bs (Zr sh.fH x)) hoq (λb I=>(Dy b I).2.1) hy
    rw[g]
    refine kX.elim (hIc.blk b _ q1:kX _ _ _) (λYd ⟨blk,n',cs,t,e1,e2,e3,e4,e5⟩=>.mk Yd ⟨blk,n',cs,t,e1,e2,e3,e4.mono hw.ext,e5⟩) λl e ⟨blk,o,e1,e2⟩ => ?_
    subst e
    exact⟨blk,o,e1,e2⟩
  refine⟨E,rfl,rfl,hI',?_,⟨hR.size,hR.defers,λs d J => ?_⟩,λd v hr J=>hw.rd (zar J hr)⟩
  ·have wO:κ0.st.length<=m:=R
   have c1:=z13 N wO
   exact c1.trans hw.ext
  ·rcases get_append (l:=nD (sh.st x) sh.fH x) (m:=z9V (sh.st x) sh.cs) J with hp | hp0
   ·obtain⟨k,y,d0,q0,q1,q2,q3⟩:=g2 _ hp
    cases q3
    obtain⟨v,r1,r2⟩:=hR.get _ _ q1
    exact⟨v,r1,dk k y d0 v (sh.st x) (zhZ _ q0) (λb I=>(Dy b I).1) q2 r2⟩
   ·have B8:=get_mem hp0
    unfold z9V at B8
    obtain⟨p,hp,he⟩:=List.mem_map.1 B8
    cases he
    obtain⟨d0,q1,q2⟩:=IP h1 p hp
    obtain⟨v,r1,r2⟩:=hR.get _ _ q1
    obtain⟨g,gg⟩:=ck p.2 d0 v (sh.st x) (X7 p hp) (λb I=>(Dy b I).1) q2
    rw[g]
    exact⟨v,r1,gg r2⟩
end
end Go.AM
namespace Go.AM
set_option linter.unusedSectionVars false
variable [gp] [Bw]
open Go.RowKit
inductive Gh where
 | slot (s:Nat) (e:Ty) | cell (b i:Nat) (e:Ty) | pcell (s i:Nat) (e:Ty)
def YA(st:St)(b i:Nat):Option (List D):=match st[b]? with
 | some (.var d)=>bif d.cQ then match(we d)[i]? with | some .wJ=>some (we d) | _=>none else none
 | _=>none
def gh:List Gh->Fr->St->Fr×St
 | [],fr,st=>(fr,st)
 | .slot s e::r,fr,st=>match fr.get s with
  | some .wJ=>bif zO 0 e.size then gh r ((s,some (.ms st.length 0 e 0 0))::fr) (st++[.arr 0 e []])else gh r fr st
  | _=>gh r fr st
 | .cell b i e::r,fr,st=>match YA st b i with
  | some l=>bif zO 0 e.size then gh r fr ((st++[cU.arr 0 e []]).set b (.var (.agg (l.set i (.ms st.length 0 e 0 0)))))else gh r fr st
  | none=>gh r fr st
 | .pcell t i e::r,fr,st=>match fr.get t with
  | some (.ptr b _)=>match YA st b i with
   | some l=>bif zO 0 e.size then gh r fr ((st++[cU.arr 0 e []]).set b (.var (.agg (l.set i (.ms st.length 0 e 0 0)))))else gh r fr st
   | none=>gh r fr st
  | _=>gh r fr st
section
variable {c:Ctx} {O:KS}
def KS.yS(O:KS)(e:Ty):KS:={ O with ph:=O.ph++[none],st:=O.st++[.arr 0 e []] }
theorem rZ(hI:Inv O)(e:Ty):Ext O (O.yS e):=by
 have ud:∀ b y,O.st[b]? = some y->(O.st++[.arr 0 e []])[b]? = some y:=λb y h=>by rw[zK (Y.1 h).1]; exact h
 have HQ:∀ b y,O.st[b]? = some y->(O.ph++[none])[b]? = O.ph[b]? := λb y h=>by
  rw[zK]; rw[hI.len]; exact(Y.1 h).1
 refine⟨rfl,rfl,rfl,zJ _,λk hk=>⟨hk,rfl⟩,λk hk=>.inl hk,?_,λb d h=>⟨⟨d,ud b _ h⟩,HQ b _ h⟩,
  λb v0 e xs h=>.inr ⟨v0,xs,ud b _ h,zJ _,λ_=>⟨HQ b _ h,rfl⟩⟩,λb h=>ud b _ h,by simp[KS.yS],λk hk _=>rfl⟩
 intro b blk m h
 simp only[KS.yS]at h
 grind
theorem VZ(hI:Inv O){e:Ty}(he:0<e.size):Inv (O.yS e):=by
 have hold:∀ (b blk m:Nat),(O.ph++[none])[b]? = some (some (blk,m))->O.ph[b]? = some (some (blk,m)):=by
  grind
 refine⟨by simp[KS.yS,hI.len],hI.bT,λb blk m h=>hI.apart b blk m (hold b blk m h),λb b' blk m m' h h'=>hI.inj b b' blk m m' (hold _ _ _ h) (hold _ _ _ h'),?_,hI.gl⟩
 intro b y hy
 simp only[KS.yS]at hy
 by_cases I:b<O.st.length
 ·rw[zK I]at hy
  exact(hI.blk b y hy).mono (rZ hI e) (by show(O.ph++[none])[b]? = O.ph[b]?; rw[zK (by rw[hI.len]; exact I)]) λblk n h=>rfl
 ·have Yc:=(Y.1 hy).1
  simp at Yc
  have:b=O.st.length:=Z
  subst this
  simp at hy
  subst hy
  exact⟨he,.inl ⟨rfl,by simp[KS.yS,<- hI.len]⟩⟩
theorem N8{l:List D}{i b v len off:Nat}{e:Ty}{tt:Nat}(h:(D.agg (l.set i (.ms b v e off len))).typed=some tt):lB l=some tt:=by
 cases l with
 | nil=>exact h
 | cons x r=>cases i with
  | zero=>cases h
  | succ i=>cases x<;>exact h
theorem zat{O κ2:KS}{l:List D}{vs:List Value}{i:Nat}{d':D}(h:wQ O l vs)(hw:∀ d v,RD O d v->RD κ2 d v)(hi:∀ v,vs[i]? = some v->RD κ2 d' v):wQ κ2 (l.set i d') vs:=by
 refine⟨by rw[List.length_set]; exact h.1,λk h1 X => ?_⟩
 rw[List.getElem_set]
 split
 ·grind
 ·exact hw _ _ (h.2 k (wb) X)
theorem NJ(hI:Inv O){e:Ty}(he:0<e.size){b i:Nat}{l:List D}(h:YA O.st b i=some l) :
  ∃ E:KS,E.w=O.w/\E.st=(O.st++[cU.arr 0 e []]).set b (.var (.agg (l.set i (.ms O.st.length 0 e 0 0))))/\Inv E/\Ext O E:=by
 unfold YA at h
 split at h
 ·rename_i d J
  cases ha:d.cQ with
  | false=>grind
  | true =>
   rw[ha,cond_true]at h
   split at h
   ·rename_i hi
    cases h
    have N:=rZ hI e
    have Uk:=VZ hI he
    have ztW:b<O.st.length:=(Y.1 J).1
    let κ2:KS:={ O.yS e with st:=(O.yS e).st.set b (.var (.agg ((we d).set i (.ms O.st.length 0 e 0 0)))) }
    have La:(O.yS e).st[b]? = some (.var d):=by
     show(O.st++[_])[b]? = _
     grind
    have ki:∀ j,j≠b->κ2.st[j]? = (O.yS e).st[j]? := λj hj=>by
     grind
    have zis:κ2.st[b]? = some (.var (.agg ((we d).set i (.ms O.st.length 0 e 0 0)))):=by
     grind
    have hw:Wk (O.yS e) κ2:=by
     refine⟨rfl,rfl,rfl,by simp[κ2],λj d' hj => ?_,λj v e' xs hj => ?_,λj v e' xs hj => ?_,λj hj => ?_⟩
     ·grind
     ·grind
     ·grind
     ·by_cases c:j=b
      ·subst c; rw[La]at hj; cases hj
      ·rw[ki j c]; exact hj
    have B9:κ2.st[O.st.length]? = some (.arr 0 e []):=by
     rw[ki _ (Z)]
     simp[KS.yS]
    have hI2:Inv κ2:=by
     refine hw.inv Uk λj d' hj => ?_
     by_cases c:j=b
     ·subst c
      rw[zis]at hj
      cases hj
      obtain⟨blk,m,cs,t,q1,q2,q3,q4,q5⟩:=(Uk.blk j _ La:kX _ _ _).cells (by cases d<;>first | rfl | cases ha)
      refine kX.mk (O:=κ2) (b:=j) (d:=.agg ((we d).set i (.ms O.st.length 0 e 0 0))) rfl ⟨blk,m,cs,t,q1,q2,q3,zat q4 (λ_ _ h=>hw.rd h) λv hv => ?_,λx hxm => ?_,λT hT => ?_⟩
      ·obtain⟨v',h1,X⟩:=q4.get hi
       rw[hv]at h1
       cases h1
       cases X
       refine .ms O.st.length 0 e 0 0 0 none (.inr ⟨0,e,[],B9,zJ _⟩) (zJ _) (λ_=>rfl) nofun λxs Yx => ?_
       rw[B9]at Yx
       cases Yx
       exact⟨zJ _,.inl ⟨rfl,rfl,rfl,by show(O.ph++[none])[O.st.length]? = _; simp[<- hI.len]⟩⟩
      ·rcases List.mem_or_eq_of_mem_set (show x∈(we d).set i (.ms O.st.length 0 e 0 0)from hxm)with h' | h'
       ·exact q5.1 x h'
       ·subst h'; rfl
      ·exact q5.2 T (Y2 ha (N8 hT))
     ·rw[ki j c]at hj
      exact(Uk.blk j _ hj).mono hw.ext rfl λ_ _ _=>rfl
    exact⟨κ2,rfl,rfl,hI2,N.trans hw.ext⟩
   ·cases h
 ·cases h
theorem th{n:Nat}{a:Act}:∀ (l:List Gh) (fr:Fr) (O:KS),Inv O->Rel O n fr.get a->∃ E:KS,E.w=O.w/\E.st=(gh l fr O.st).2/\Inv E/\Ext O E/\Rel E n (gh l fr O.st).1.get a
 | [],fr,O,hI,hR=>⟨O,rfl,rfl,hI,Ext.refl O,hR⟩
 | .slot s e::r,fr,O,hI,hR=>by
  unfold gh
  split
  ·rename_i hs
   cases he:zO 0 e.size with
   | false=>rw[cond_false]; exact th r fr O hI hR
   | true =>
    rw[cond_true]
    have M6:0<e.size:=zE he
    have N:=rZ hI e
    have hR':Rel (O.yS e) n (Fr.get ((s,some (.ms O.st.length 0 e 0 0))::fr)) a:=by
     refine⟨hR.size,hR.defers,λt d J => ?_⟩
     simp only[Fr.get]at J
     cases ht:U s t with
     | true =>
      rw[ht,cond_true]at J
      cases J
      have:=zA ht
      subst this
      obtain⟨v,h1,X⟩:=hR.get s _ hs
      cases X
      have B9:(O.yS e).st[O.st.length]? = some (.arr 0 e []):=by simp[KS.yS]
      refine⟨_,h1,.ms O.st.length 0 e 0 0 0 none (.inr ⟨0,e,[],B9,zJ _⟩) (zJ _) (λ_=>rfl) nofun λxs Yx => ?_⟩
      rw[B9]at Yx
      cases Yx
      exact⟨zJ _,.inl ⟨rfl,rfl,rfl,by simp[KS.yS,<- hI.len]⟩⟩
     | false =>
      rw[ht,cond_false]at J
      obtain⟨v,h1,X⟩:=hR.get t d J
      exact⟨v,h1,X.mono N⟩
    obtain⟨E,h1,X,h3,h4,h5⟩:=th r _ (O.yS e) (VZ hI M6) hR'
    exact⟨E,h1,X,h3,N.trans h4,h5⟩
  ·exact th r fr O hI hR
 | .cell b i e::r,fr,O,hI,hR=>by
  unfold gh
  split
  ·rename_i l R
   cases he:zO 0 e.size with
   | false=>rw[cond_false]; exact th r fr O hI hR
   | true =>
    rw[cond_true]
    have M6:0<e.size:=zE he
    obtain⟨κ1,g1,g2,g3,g4⟩:=NJ hI M6 R
    obtain⟨E,h1,X,h3,h4,h5⟩:=th r fr κ1 g3 ⟨hR.size,hR.defers,λt d J=>by
     obtain⟨v,q1,q2⟩:=hR.get t d J
     exact⟨v,q1,q2.mono g4⟩⟩
    rw[g2]at X h5
    exact⟨E,h1.trans g1,X,h3,g4.trans h4,h5⟩
  ·exact th r fr O hI hR
 | .pcell t i e::r,fr,O,hI,hR=>by
  unfold gh
  split
  ·rename_i b off I
   split
   ·rename_i l R
    cases he:zO 0 e.size with
    | false=>rw[cond_false]; exact th r fr O hI hR
    | true =>
     have M6:0<e.size:=zE he
     obtain⟨κ1,g1,g2,g3,g4⟩:=NJ hI M6 R
     obtain⟨E,h1,X,h3,h4,h5⟩:=th r fr κ1 g3 ⟨hR.size,hR.defers,λt d J=>by
      obtain⟨v,q1,q2⟩:=hR.get t d J
      exact⟨v,q1,q2.mono g4⟩⟩
     rw[g2]at X h5
     exact⟨E,h1.trans g1,X,h3,g4.trans h4,h5⟩
   ·exact th r fr O hI hR
  ·exact th r fr O hI hR
end
end Go.AM
namespace Go.AM
def QB(f:Nat->Option Nat)(d:D):Option D:=match d with
 | .ptr b off=>match f b with | some b'=>some (.ptr b' off) | none=>none
 | .eF b T=>match f b with | some b'=>some (.eF b' T) | none=>none
 | .yR b=>match f b with | some b'=>some (.yR b') | none=>none
 | .gP b v e i off=>match f b with | some b'=>some (.gP b' v e i off) | none=>none
 | .ms b v e off len=>match f b with | some b'=>some (.ms b' v e off len) | none=>none
 | .wo _ _=>none
 | .agg _=>none
 | .eO _=>none
 | .iface _ _=>none
 | d=>some d
def IB(f:Nat->Option Nat):List D->Option (List D)
 | []=>some []
 | d::r=>match QB f d with
  | some d'=>match IB f r with | some r'=>some (d'::r') | none=>none
  | none=>none
def sj(f:Nat->Option Nat)(d:D):Option D:=match d with
 | .wo g l=>match IB f l with | some l'=>some (.wo g l') | none=>none
 | .agg l=>match IB f l with | some l'=>some (.agg l') | none=>none
 | d=>QB f d
def W6(f:Nat->Option Nat):List D->Option (List D)
 | []=>some []
 | d::r=>match sj f d with
  | some d'=>match W6 f r with | some r'=>some (d'::r') | none=>none
  | none=>none
def U7(f:Nat->Option Nat):cU->Option cU
 | .var d=>match sj f d with | some d'=>some (.var d') | none=>none
 | .arr v e xs=>some (.arr v e xs)
 | .dead=>some .dead
def oG(f:Nat->Option Nat):List cU->Option (List cU)
 | []=>some []
 | b::r=>match U7 f b with
  | some b'=>match oG f r with | some r'=>some (b'::r') | none=>none
  | none=>none
def Vr(f:Nat->Option Nat):Fr->Fr
 | []=>[]
 | (s,some d)::r=>(s,sj f d)::Vr f r
 | (s,none)::r=>(s,none)::Vr f r
structure Tr(O E:KS)(f:Nat->Option Nat):Prop where
 w:E.w=O.w
 ok:E.ok=O.ok
 var:∀ (b b':Nat) (d:D),f b=some b'->O.st[b]? = some (.var d)->(∃ d',E.st[b']? = some (.var d'))/\E.ph[b']? = O.ph[b]?
 old:∀ (b b' vp:Nat),f b=some b'->Old O.st b vp->Old E.st b' vp
 row:∀ (b b' v:Nat) (e:Ty) (xs:List (den e)),f b=some b'->E.st[b']? = some (.arr v e xs)->O.st[b]? = some (.arr v e xs)/\E.ph[b']? = O.ph[b]?
section
variable {O E:KS} {f:Nat->Option Nat}
theorem Tr.same(h:Tr O E f):Lj O.w E.w O.ok E.ok:=λk hk=>⟨by rw[h.ok]; exact hk,by rw[h.w]⟩
theorem Tr.rd1(h:Tr O E f){d d':D}{v:Value}(J:RD O d v)(hr:QB f d=some d'):RD E d' v:=by
 cases J with
 | qs τ y cs hc=>cases hr; exact .qs τ y cs (hc.mono h.same)
 | sQ e l b v hc ht hf=>cases hr; exact .sQ e l b v (hc.mono h.same) ht hf
 | vF e a=>cases hr; exact .vF e a
 | tight e l ne blk off g ki ja hh hc=>cases hr; exact .tight e l ne blk off g ki (h.same _ ja).1 (λi hi=>(hh i hi).mono h.same) λi hi j v hv=>by rw[lT (h.same _ ja).2]; exact hc i hi j v hv
 | wJ=>cases hr; exact .wJ
 | gx=>cases hr; exact .gx
 | ve=>cases hr; exact .ve
 | gw=>cases hr; exact .gw
 | uZ=>cases hr; exact .uZ
 | Vv v h=>cases hr; exact .Vv v h
 | nh T=>cases hr; exact .nh T
 | nG b T d I =>
  simp only[QB]at hr
  split at hr
  ·rename_i b' hf
   cases hr
   obtain⟨⟨d',h1⟩,X⟩:=h.var b b' d hf I
   exact .nG b' T d' h1
  ·cases hr
 | yR b blk n d I hp =>
  simp only[QB]at hr
  split at hr
  ·rename_i b' hf
   cases hr
   obtain⟨⟨d',h1⟩,X⟩:=h.var b b' d hf I
   exact .yR b' blk n d' h1 (X.trans hp)
  ·cases hr
 | nH b T blk n d I hp =>
  simp only[QB]at hr
  split at hr
  ·rename_i b' hf
   cases hr
   obtain⟨⟨d',h1⟩,X⟩:=h.var b b' d hf I
   exact .nH b' T blk n d' h1 (X.trans hp)
  ·cases hr
 | ptr b off blk n d I hp =>
  simp only[QB]at hr
  split at hr
  ·rename_i b' hf
   cases hr
   obtain⟨⟨d',h1⟩,X⟩:=h.var b b' d hf I
   exact .ptr b' off blk n d' h1 (X.trans hp)
  ·cases hr
 | vH τ y cs blk off ja hh hc=>cases hr; exact .vH τ y cs blk off (h.same _ ja).1 (hh.mono h.same) λj v hv=>by rw[lT (h.same _ ja).2]; exact hc j v hv
 | gP b vp e idx off blk o I hh =>
  simp only[QB]at hr
  split at hr
  ·rename_i b' hf
   cases hr
   refine .gP b' vp e idx off blk o (h.old b b' vp hf I) λxs N hi => ?_
   obtain⟨h1,X⟩:=h.row b b' vp e xs hf N
   grind
  ·cases hr
 | ms b vp e off len cap a I js ha Va hh =>
  simp only[QB]at hr
  split at hr
  ·rename_i b' hf
   cases hr
   refine .ms b' vp e off len cap a (h.old b b' vp hf I) js ha Va λxs N => ?_
   obtain⟨h1,X⟩:=h.row b b' vp e xs hf N
   have:=hh xs h1
   unfold Nu at this ⊢
   grind
  ·cases hr
 | wo g l vs R hh=>cases hr
 | agg l vs R ho hh=>cases hr
 | eO l vs R hh=>cases hr
 | iface t d v hh=>cases hr
theorem z4l{d d':D}(h:QB f d=some d'):d'.one=d.one:=by
 cases d<;>simp only[QB]at h<;>first | (cases h; rfl) | (split at h<;>cases h; rfl) | cases h
theorem Tr.rdL(h:Tr O E f):∀ {l l':List D} {vs:List Value},wQ O l vs->IB f l=some l'->wQ E l' vs
 | [],l',vs,J,hr=>by cases hr; rw[J.wj]; exact .nil
 | d::r,l',vs,J,hr=>by
  simp only[IB]at hr
  split at hr
  ·rename_i d' h1
   split at hr
   ·rename_i r' X
    cases hr
    obtain⟨v,us,rfl,g1,g2⟩:=J.cons_inv
    exact .cons (h.rd1 g1 h1) (h.rdL g2 X)
   ·cases hr
  ·cases hr
theorem Hj:∀ {l l':List D},IB f l=some l'->(∀ d∈l,d.one=true)->∀ d∈l',d.one=true
 | [],l',hr,_=>by cases hr; nofun
 | d::r,l',hr,ho=>by
  simp only[IB]at hr
  split at hr
  ·rename_i d' h1
   split at hr
   ·rename_i r' X
    cases hr
    intro x N
    rcases zH.1 N with rfl | N
    ·rw[z4l h1]; exact ho d zQ
    ·exact Hj X (λy hy=>ho y (zI _ hy)) x N
   ·cases hr
  ·cases hr
theorem Tr.rd(h:Tr O E f){d d':D}{v:Value}(J:RD O d v)(hr:sj f d=some d'):RD E d' v:=by
 cases d with
 | wo g l =>
  simp only[sj]at hr
  split at hr
  ·rename_i l' R
   cases hr
   cases J with
   | wo _ _ vs h1 X=>have:=h.rdL (⟨h1,X⟩:wQ O l vs) R; exact .wo g l' vs this.1 this.2
  ·cases hr
 | agg l =>
  simp only[sj]at hr
  split at hr
  ·rename_i l' R
   cases hr
   cases J with
   | agg _ vs h1 ho X=>have:=h.rdL (⟨h1,X⟩:wQ O l vs) R; exact .agg l' vs this.1 (Hj R ho) this.2
  ·cases hr
 | _=>exact h.rd1 J hr
theorem Tr.rds(h:Tr O E f):∀ {l l':List D} {vs:List Value},wQ O l vs->W6 f l=some l'->wQ E l' vs
 | [],l',vs,J,hr=>by cases hr; rw[J.wj]; exact .nil
 | d::r,l',vs,J,hr=>by
  simp only[W6]at hr
  split at hr
  ·rename_i d' h1
   split at hr
   ·rename_i r' X
    cases hr
    obtain⟨v,us,rfl,g1,g2⟩:=J.cons_inv
    exact .cons (h.rd g1 h1) (h.rds g2 X)
   ·cases hr
  ·cases hr
theorem Tr.flat(h:Tr O E f){d d':D}{vs:List Value}(J:wQ O (we d) vs)(ho:∀ x∈we d,x.one=true)(hr:sj f d=some d'):wQ E (we d') vs/\∀ x∈we d',x.one=true:=by
 have qs:∀ (τ:Ty) (x:den τ) (vs:List Value),wQ O (Go.AM.flat τ x) vs->wQ E (Go.AM.flat τ x) vs:=by
  intro τ x vs hh
  refine⟨hh.1,λi h1 X => ?_⟩
  have hm:=List.getElem_mem h1
  have:∃ σ z,(Go.AM.flat τ x)[i]=.qs σ z:=by
   generalize (Go.AM.flat τ x)[i]=y at hm
   clear hh h1 X
   induction τ with
   | cons a b ia ib =>
    simp only[Go.AM.flat,zN]at hm
    grind
   | nil=>simp[Go.AM.flat]at hm
   | expr=>simp[Go.AM.flat]at hm; rcases hm with rfl | rfl | rfl | rfl | rfl | rfl<;>exact⟨_,_,rfl⟩
   | _=>simp[Go.AM.flat]at hm; subst hm; exact⟨_,_,rfl⟩
  obtain⟨σ,z,e⟩:=this
  have h3:=hh.2 i h1 X
  rw[e]at h3 ⊢
  exact h.rd1 h3 rfl
 cases d with
 | qs τ x=>cases hr; exact⟨qs τ x vs J,ho⟩
 | agg l =>
  simp only[sj]at hr
  split at hr
  ·rename_i l' R
   cases hr
   exact⟨h.rdL J R,Hj R ho⟩
  ·cases hr
 | eO l=>cases hr
 | wo g l =>
  obtain⟨v,r,rfl,h1,X⟩:=wQ.cons_inv (show wQ O [.wo g l] vs from J)
  rw[X.wj]
  have Ez:=hr
  simp only[sj]at hr
  split at hr
  ·cases hr; exact⟨.cons (h.rd h1 Ez) .nil,λx N=>by simp only[we,zL]at N; subst N; rfl⟩
  ·cases hr
 | iface t x=>cases hr
 | ptr b off =>
  obtain⟨v,r,rfl,h1,X⟩:=wQ.cons_inv (show wQ O [.ptr b off] vs from J)
  rw[X.wj]
  have Ez:=hr
  simp only[sj,QB]at hr
  split at hr
  ·cases hr; exact⟨.cons (h.rd1 h1 Ez) .nil,λx N=>by simp only[we,zL]at N; subst N; rfl⟩
  ·cases hr
 | yR b =>
  obtain⟨v,r,rfl,h1,X⟩:=wQ.cons_inv (show wQ O [.yR b] vs from J)
  rw[X.wj]
  have Ez:=hr
  simp only[sj,QB]at hr
  split at hr
  ·cases hr; exact⟨.cons (h.rd1 h1 Ez) .nil,λx N=>by simp only[we,zL]at N; subst N; rfl⟩
  ·cases hr
 | eF b T =>
  obtain⟨v,r,rfl,h1,X⟩:=wQ.cons_inv (show wQ O [.eF b T] vs from J)
  rw[X.wj]
  have Ez:=hr
  simp only[sj,QB]at hr
  split at hr
  ·cases hr; exact⟨.cons (h.rd1 h1 Ez) .nil,λx N=>by simp only[we,zL]at N; subst N; rfl⟩
  ·cases hr
 | gP b vp e idx off =>
  obtain⟨v,r,rfl,h1,X⟩:=wQ.cons_inv (show wQ O [.gP b vp e idx off] vs from J)
  rw[X.wj]
  have Ez:=hr
  simp only[sj,QB]at hr
  split at hr
  ·cases hr; exact⟨.cons (h.rd1 h1 Ez) .nil,λx N=>by simp only[we,zL]at N; subst N; rfl⟩
  ·cases hr
 | ms b vp e off len =>
  obtain⟨v,r,rfl,h1,X⟩:=wQ.cons_inv (show wQ O [.ms b vp e off len] vs from J)
  rw[X.wj]
  have Ez:=hr
  simp only[sj,QB]at hr
  split at hr
  ·cases hr; exact⟨.cons (h.rd1 h1 Ez) .nil,λx N=>by simp only[we,zL]at N; subst N; rfl⟩
  ·cases hr
 | Cg l=>cases hr; exact⟨⟨J.1,λi h1=>by cases h1⟩,ho⟩
 | _ =>
  cases hr
  obtain⟨v,r,rfl,h1,X⟩:=wQ.cons_inv J
  rw[X.wj]
  exact⟨.cons (h.rd1 h1 rfl) .nil,ho⟩
theorem MS{f:Nat->Option Nat}{d d':D}{tt:Nat}(h:sj f d=some d')(ht:d'.typed=some tt):d.typed=some tt:=by
 cases d with
 | agg l =>
  simp only[sj]at h
  split at h
  ·rename_i l' R
   cases h
   cases l with
   | nil=>cases R; cases ht
   | cons x r =>
    simp only[IB]at R
    split at R
    ·rename_i x' N
     split at R
     ·cases R
      cases x<;>simp only[QB]at N<;>first
       | (cases N; exact ht)
       | (split at N<;>first | (cases N; exact ht) | cases N)
       | cases N
     ·cases R
    ·cases R
  ·cases h
 | wo g l =>
  simp only[sj]at h
  split at h
  ·cases h; cases ht
  ·cases h
 | _ =>
  simp only[sj,QB]at h
  first
   | (cases h; cases ht)
   | (split at h<;>first | (cases h; cases ht) | cases h)
   | cases h
theorem Tr.blk[V4](h:Tr O E f){b b':Nat}(hp:E.ph[b']? = O.ph[b]?){y y':cU}(hy:pP O b y)(hr:U7 f y=some y'):pP E b' y':=by
 cases y with
 | dead=>cases hr; trivial
 | var d =>
  simp only[U7]at hr
  split at hr
  ·rename_i d' J
   cases hr
   refine kX.elim hy (λhm ⟨blk,n,cs,t,h1,X,h3,h4,h5⟩ => ?_) λl e ⟨blk,o,h1,X⟩ => ?_
   rotate_left
   ·subst e
    cases J
    exact⟨blk,o,hp.trans h1,by rw[h.w]; exact X⟩
   have hm':d'.Gq=false:=by
    cases d<;>simp only[sj,QB]at J<;>first | (cases hm; done) | (cases J; rfl) | (split at J<;>first | (cases J; rfl) | cases J) | cases J | cases hm
   obtain⟨g1,g2⟩:=h.flat h4 h5.1 J
   exact .mk hm' ⟨blk,n,cs,t,hp.trans h1,by rw[h.w]; exact X,h3,g1,g2,λT hT=>h5.2 T (MS J hT)⟩
  ·cases hr
 | arr vp e xs =>
  cases hr
  obtain⟨h0,hh⟩:=hy
  refine⟨h0,s7 hh (λh=>⟨h.1,hp.trans h.2⟩) ?_⟩
  rintro⟨blk,n,cs,t,h1,X,h3,h4,hr,g,h5⟩
  exact⟨blk,n,cs,t,hp.trans h1,by rw[h.w]; exact X,h3,h4,hr,g,λi hi=>⟨(h5 i hi).1.mono h.same,(h5 i hi).2⟩⟩
theorem WT{f:Nat->Option Nat}:∀ {fr:Fr} {s:Nat} {d':D},(Vr f fr).get s=some d'->∃ d,fr.get s=some d/\sj f d=some d'
 | [],s,d',h=>by cases h
 | (t,some d)::r,s,d',h=>by
  simp only[Vr,Fr.get]at h ⊢
  cases ht:U t s with
  | true=>grind
  | false=>rw[ht,cond_false]at h; simp; exact WT h
 | (t,none)::r,s,d',h=>by
  simp only[Vr,Fr.get]at h ⊢
  cases ht:U t s with
  | true=>grind
  | false=>rw[ht,cond_false]at h; simp; exact WT h
end
def pos:List Nat->Nat->Option Nat
 | [],_=>none
 | b::r,i=>bif U b i then some 0 else match pos r i with | some j=>some (j+1) | none=>none
def cR:List Nat->Bool
 | []=>true
 | b::r=>(match pos r b with | none=>true | some _=>false)&&cR r
theorem tz:∀ {mp:List Nat} {i j:Nat},pos mp i=some j->mp[j]? = some i
 | [],i,j,h=>by cases h
 | b::r,i,j,h=>by
  simp only[pos]at h
  cases I:U b i with
  | true=>rw[I,cond_true]at h; cases h; rw[zA I]; rfl
  | false =>
   rw[I,cond_false]at h
   split at h
   ·rename_i k hk; cases h; simpa using tz hk
   ·cases h
theorem oX:∀ {mp:List Nat} {i j:Nat},cR mp=true->mp[j]? = some i->pos mp i=some j
 | [],i,j,_,h=>by simp at h
 | b::r,i,j,hn,h=>by
  simp only[cR,M]at hn
  cases j with
  | zero=>simp at h; subst h; simp only[pos]; rw[qS]; rfl
  | succ j =>
   have h':r[j]? = some i:=by simpa using h
   have hp:=oX hn.2 h'
   have ki:U b i=false:=by
    cases I:U b i with
    | false=>rfl
    | true =>
     have:=zA I
     grind
   simp only[pos,ki,cond_false,hp]
def iV{α:Type}(l:List α):List Nat->Option (List α)
 | []=>some []
 | b::r=>match l[b]? with
  | some x=>match iV l r with | some y=>some (x::y) | none=>none
  | none=>none
theorem Kj{α:Type}{l:List α}:∀ {mp:List Nat} {r:List α},iV l mp=some r->r.length=mp.length/\∀ (j b:Nat),mp[j]? = some b->r[j]? = l[b]? /\ b<l.length
 | [],r,h=>by cases h; exact⟨rfl,λj b hj=>wb⟩
 | b::mp,r,h=>by
  simp only[iV]at h
  split at h
  ·rename_i x N
   split at h
   ·rename_i y hy
    obtain⟨h1,X⟩:=Kj hy
    grind
   ·cases h
  ·cases h
theorem Kk{f:Nat->Option Nat}:∀ {l r:List cU},oG f l=some r->r.length=l.length/\∀ (j:Nat) (x:cU),l[j]? = some x->∃ y,r[j]? = some y/\U7 f x=some y
 | [],r,h=>by cases h; exact⟨rfl,λj x hj=>wb⟩
 | b::l,r,h=>by
  simp only[oG]at h
  split at h
  ·rename_i b' I
   split at h
   ·rename_i r' hr
    obtain⟨h1,X⟩:=Kk hr
    grind
   ·cases h
  ·cases h
def nV{α:Type}(mp:List Nat)(new:List α):Nat->List α->List α
 | _,[]=>[]
 | i,x::r=>(match pos mp i with | some j=>(match new[j]? with | some y=>y | none=>x) | none=>x)::nV mp new (i+1) r
def jq{α:Type}(mp:List Nat)(old new:List α):List α:=nV mp new 0 old++new.drop mp.length
theorem gX{α:Type}(mp:List Nat)(new:List α):∀ (l:List α) (i:Nat),(nV mp new i l).length=l.length
 | [],_=>rfl
 | x::r,i=>by simp[nV,gX mp new r (i+1)]
theorem VB{α:Type}(mp:List Nat)(new:List α):∀ (l:List α) (i k:Nat),(nV mp new i l)[k]? = (l[k]?).map λx=>match pos mp (i+k)with | some j=>(match new[j]? with | some y=>y | none=>x) | none=>x
 | [],i,k=>by simp[nV]
 | x::r,i,0=>by simp[nV]
 | x::r,i,k+1=>by
  have:=VB mp new r (i+1) k
  simp only[nV]
  grind
def fwd(mp:List Nat)(n:Nat)(j:Nat):Nat:=match mp[j]? with | some b=>b | none=>n+(j-mp.length)
theorem lR{α:Type}{mp:List Nat}{old new:List α}{i:Nat}(hi:i<old.length)(hp:pos mp i=none):(jq mp old new)[i]? = old[i]? := by
 unfold jq
 rw[zK (by rw[gX]; exact hi),VB,qD,hp]
 simp
theorem EV{α:Type}{mp:List Nat}{old new:List α}(hn:cR mp=true)(wO:∀ (j b:Nat),mp[j]? = some b->b<old.length)(hlen:mp.length<=new.length){j:Nat}(hj:j<new.length):(jq mp old new)[fwd mp old.length j]? = new[j]? := by
 unfold jq fwd
 cases hm:mp[j]? with
 | some b =>
  have I:=wO j b hm
  rw[zK (by rw[gX]; exact I),VB,qD,oX hn hm]
  grind
 | none =>
  simp only
  rw[List.getElem?_append_right (by rw[gX]; omega),gX,List.getElem?_drop]
  grind
theorem Lq{α:Type}{mp:List Nat}{old new:List α}(wO:∀ (j b:Nat),mp[j]? = some b->b<old.length)(hlen:mp.length<=new.length){i:Nat}(hi:i<(jq mp old new).length) :
  (i<old.length/\pos mp i=none)\/∃ j,j<new.length/\i=fwd mp old.length j:=by
 by_cases h:i<old.length
 ·cases hp:pos mp i with
  | none=>grind
  | some j =>
   have:=tz hp
   have hj:=(Y.1 this).1
   exact .inr ⟨j,Z,by unfold fwd; rw[this]⟩
 ·have R:i<old.length+(new.length-mp.length):=by simpa[jq,gX]using hi
  refine .inr ⟨mp.length+(i-old.length),Z,?_⟩
  unfold fwd
  grind
end Go.AM
namespace Go.AM
set_option linter.unusedSectionVars false
variable [gp]
open Go.RowKit
section
variable {O:KS} {mp:List Nat}
theorem Ec{dN l:List cU}{p1:List (Option (Nat×Nat))}(hI:Inv O)(hn:cR mp=true)(hp:iV O.ph mp=some p1)(R:iV O.st mp=some l)(hr:oG (pos mp) l=some dN) :
  Inv ⟨O.w,O.ok,p1,dN⟩/\Tr O ⟨O.w,O.ok,p1,dN⟩ (pos mp)/\dN.length=mp.length/\p1.length=mp.length/\∀ (j b:Nat),mp[j]? = some b->p1[j]? = O.ph[b]? /\ ∃ x y:cU,O.st[b]? = some x/\U7 (pos mp) x=some y/\dN[j]? = some y:=by
 obtain⟨a1,a2⟩:=Kj hp
 obtain⟨b1,b2⟩:=Kj R
 obtain⟨c1,c2⟩:=Kk hr
 have key:∀ (j b:Nat),mp[j]? = some b->p1[j]? = O.ph[b]? /\ ∃ x y:cU,O.st[b]? = some x/\U7 (pos mp) x=some y/\dN[j]? = some y:=by
  grind
 have at':∀ {j:Nat} {y:cU},dN[j]? = some y->∃ b,mp[j]? = some b:=λh=>by
  have:=(Y.1 h).1
  exact⟨_,zG (Z)⟩
 have hT:Tr O ⟨O.w,O.ok,p1,dN⟩ (pos mp):=by
  refine⟨rfl,rfl,λb j d hf I => ?_,λb j vp hf ho => ?_,λb j v e xs hf I => ?_⟩
  ·obtain⟨h1,x,y,X,h3,h4⟩:=key j b (tz hf)
   rw[I]at X
   cases X
   simp only[U7]at h3
   grind
  ·obtain⟨h1,x,y,X,h3,h4⟩:=key j b (tz hf)
   rcases ho with ho | ⟨v0,e0,Uf,ho,hv⟩
   ·rw[ho]at X; cases X; cases h3; exact .inl h4
   ·rw[ho]at X; cases X; cases h3; exact .inr ⟨v0,e0,Uf,h4,hv⟩
  ·obtain⟨h1,x,y,X,h3,h4⟩:=key j b (tz hf)
   rw[show dN[j]? = some (.arr v e xs)from I]at h4
   cases h4
   cases x with
   | dead=>cases h3
   | var d=>simp only[U7]at h3; split at h3<;>cases h3
   | arr v0 e0 Uf=>cases h3; exact⟨X,h1⟩
 refine⟨⟨by show p1.length=dN.length; omega,hI.bT,λj blk n h => ?_,λj j' blk n n' h h' => ?_,λj y h => ?_,hI.gl⟩,hT,Z,a1,key⟩
 ·obtain⟨b,I⟩:∃ b,mp[j]? = some b:=⟨_,zG (by have:j<p1.length:=(Y.1 h).1; omega)⟩
  exact hI.apart b blk n ((a2 j b I).1.symm.trans h)
 ·obtain⟨b,I⟩:∃ b,mp[j]? = some b:=⟨_,zG (by have:j<p1.length:=(Y.1 h).1; omega)⟩
  obtain⟨b',Yc⟩:∃ b,mp[j']? = some b:=⟨_,zG (by have:j'<p1.length:=(Y.1 h').1; omega)⟩
  have:=hI.inj b b' blk n n' ((a2 j b I).1.symm.trans h) ((a2 j' b' Yc).1.symm.trans h')
  subst this
  exact Option.some.inj ((oX hn I).symm.trans (oX hn Yc))
 ·obtain⟨b,I⟩:=at' h
  obtain⟨h1,x,y',X,h3,h4⟩:=key j b I
  rw[show dN[j]? = some y from h]at h4
  cases h4
  exact hT.blk h1 (hI.blk b x X) h3
theorem Ym{κ1:KS}{dN gq l:List cU}{p1:List (Option (Nat×Nat))}(hI:Inv O)(hn:cR mp=true)(hp:iV O.ph mp=some p1)(R:iV O.st mp=some l)(hr:oG (pos mp) l=some dN)
  (Uk:Inv κ1) (N:Ext ⟨O.w,O.ok,p1,dN⟩ κ1) (hr2:oG (λj=>some (fwd mp O.st.length j)) κ1.st=some gq) :
  ∃ E:KS,E.w=κ1.w/\E.st=jq mp O.st gq/\Inv E/\Ext O E/\Tr κ1 E (λj=>some (fwd mp O.st.length j)):=by
 obtain⟨hIs,hTs,s1,s2,key⟩:=Ec hI hn hp R hr
 obtain⟨r1,r2⟩:=Kk hr2
 have wO:∀ (j b:Nat),mp[j]? = some b->b<O.st.length:=λj b hj=>by obtain⟨_,x,_,h,_⟩:=key j b hj; exact(Y.1 h).1
 have zpk:∀ (j b:Nat),mp[j]? = some b->b<O.ph.length:=λj b hj=>by rw[hI.len]; exact wO j b hj
 have hm1:mp.length<=κ1.st.length:=by have:=N.II; simp only at this; omega
 have hm2:mp.length<=gq.length:=Z
 have Yd:mp.length<=κ1.ph.length:=by rw[Uk.len]; exact hm1
 let fw:=fwd mp O.st.length
 have hlen:(jq mp O.ph κ1.ph).length=(jq mp O.st gq).length:=by simp[jq,gX,hI.len,Uk.len,r1]
 -- what lies where
 have cst:∀ {j:Nat} {x:cU},κ1.st[j]? = some x->∃ y,(jq mp O.st gq)[fw j]? = some y/\U7 (λj=>some (fw j)) x=some y:=by
  intro j x hj
  obtain⟨y,h1,X⟩:=r2 j x hj
  exact⟨y,by rw[EV hn wO hm2 (by rw[r1]; exact(Y.1 hj).1)]; exact h1,X⟩
 have cph:∀ {j:Nat},j<κ1.st.length->(jq mp O.ph κ1.ph)[fw j]? = κ1.ph[j]? := by
  intro j hj
  have:=EV (old:=O.ph) (new:=κ1.ph) hn zpk Yd (j:=j) (by rw[Uk.len]; exact hj)
  rw[hI.len]at this
  exact this
 have ust:∀ {i:Nat},i<O.st.length->pos mp i=none->(jq mp O.st gq)[i]? = O.st[i]? := λhi h=>lR hi h
 have uph:∀ {i:Nat},i<O.st.length->pos mp i=none->(jq mp O.ph κ1.ph)[i]? = O.ph[i]? := λhi h=>lR (by rw[hI.len]; exact hi) h
 have JR:∀ {i:Nat},i<(jq mp O.st gq).length->(i<O.st.length/\pos mp i=none)\/∃ j,j<κ1.st.length/\i=fw j:=by
  intro i hi
  rcases Lq wO hm2 hi with h | ⟨j,h1,X⟩
  ·grind
  ·grind
 have T0:∀ {j b:Nat},mp[j]? = some b->fw j=b:=λh=>by simp only[fw,fwd,h]
 have ztc:∀ {j:Nat},mp[j]? = none->O.st.length<=fw j:=λh=>by simp only[fw,fwd,h]; omega
 -- the part's own blocks
 have sph:∀ {j:Nat} {q:Nat×Nat},p1[j]? = some (some q)->∃ b,mp[j]? = some b/\O.ph[b]? = some (some q):=by
  intro j q h
  have hj:=(Y.1 h).1
  obtain⟨b,I⟩:∃ b,mp[j]? = some b:=⟨_,zG (Z)⟩
  grind
 have hT:Tr κ1 ⟨κ1.w,κ1.ok,jq mp O.ph κ1.ph,jq mp O.st gq⟩ (λj=>some (fw j)):=by
  refine⟨rfl,rfl,λj b d hf hj => ?_,λj b vp hf ho => ?_,λj b v e xs hf I => ?_⟩
  ·cases hf
   obtain⟨y,h1,X⟩:=cst hj
   simp only[U7]at X
   grind
  ·cases hf
   rcases ho with ho | ⟨v0,e0,Uf,ho,hv⟩
   ·obtain⟨y,h1,X⟩:=cst ho; cases X; exact .inl h1
   ·obtain⟨y,h1,X⟩:=cst ho; cases X; exact .inr ⟨v0,e0,Uf,h1,hv⟩
  ·cases hf
   have I:(jq mp O.st gq)[fw j]? = some (.arr v e xs):=I
   have KD:=(Y.1 I).1
   have hj:j<κ1.st.length:=by
    by_cases hj:j<κ1.st.length
    ·exact hj
    ·exfalso
     cases hm:mp[j]? with
     | some c=>have:=(Y.1 hm).1; omega
     | none =>
      have h3:fw j=O.st.length+(j-mp.length):=by simp only[fw,fwd,hm]
      have h4:(jq mp O.st gq).length=O.st.length+(gq.length-mp.length):=by simp[jq,gX]
      omega
   obtain⟨y,h1,X⟩:=cst (zG hj)
   rw[I]at h1
   cases h1
   refine⟨?_,cph hj⟩
   rw[zG hj]
   generalize κ1.st[j]=x at X
   cases x with
   | dead=>cases X
   | var d=>simp only[U7]at X; split at X<;>cases X
   | arr v0 e0 Uf=>cases X; rfl
 -- CJ blocks lie as they lay
 have CJ:∀ {i blk n:Nat},pos mp i=none->O.ph[i]? = some (some (blk,n))->κ1.w.heap[blk]? = O.w.heap[blk]? := by
  intro i blk n hi h
  obtain⟨g1,g2⟩:=hI.apart i blk n h
  refine N.frame blk g1 λj m hj => ?_
  obtain⟨b,La,FD⟩:=sph hj
  have:=hI.inj i b blk n m h FD
  subst this
  rw[oX hn La]at hi
  cases hi
 have hE:Ext O ⟨κ1.w,κ1.ok,jq mp O.ph κ1.ph,jq mp O.st gq⟩:=by
  refine⟨N.os,N.tape,N.output,N.size,N.same,λk hk => ?_,λi blk n h => ?_,λi d hi => ?_,λi v0 e Uf hi => ?_,λi hi => ?_,?_,λk hk hno => ?_⟩
  ·rcases N.fresh k hk with h | h | ⟨j,n,h⟩
   ·exact .inl h
   ·exact .inr (.inl h)
   ·obtain⟨b,_,I⟩:=sph h; exact .inr (.inr ⟨b,n,I⟩)
  ·have h:(jq mp O.ph κ1.ph)[i]? = some (some (blk,n)):=h
   have B7:i<(jq mp O.st gq).length:=by rw[<- hlen]; exact(Y.1 h).1
   rcases JR B7 with⟨h1,X⟩ | ⟨j,h1,rfl⟩
   ·rw[uph h1 X]at h; exact .inl h
   ·rw[cph h1]at h
    rcases N.phs j blk n h with h3 | h3
    ·obtain⟨b,La,FD⟩:=sph h3
     rw[T0 La]; exact .inl FD
    ·exact .inr h3
  ·have Td:=(Y.1 hi).1
   cases Ey:pos mp i with
   | none=>exact⟨⟨d,(ust Td Ey).trans hi⟩,uph Td Ey⟩
   | some j =>
    have hmj:=tz Ey
    obtain⟨k1,x,y,k2,k3,k4⟩:=key j i hmj
    rw[hi]at k2
    cases k2
    simp only[U7]at k3
    split at k3
    ·cases k3
     obtain⟨⟨d',g1⟩,g2⟩:=N.var j _ k4
     obtain⟨⟨d'',q1⟩,q2⟩:=hT.var j (fw j) d' rfl g1
     rw[T0 hmj]at q1 q2
     exact⟨⟨d'',q1⟩,q2.trans (g2.trans k1)⟩
    ·cases k3
  ·have Td:=(Y.1 hi).1
   cases Ey:pos mp i with
   | none=>exact .inr ⟨v0,Uf,(ust Td Ey).trans hi,zJ _,λ_=>⟨uph Td Ey,rfl⟩⟩
   | some j =>
    have hmj:=tz Ey
    obtain⟨k1,x,y,k2,k3,k4⟩:=key j i hmj
    rw[hi]at k2
    cases k2
    cases k3
    rcases N.arr j v0 e Uf k4 with g | ⟨v1,xs1,g1,g2,g3⟩
    ·obtain⟨y,q1,q2⟩:=cst g
     cases q2
     rw[T0 hmj]at q1
     exact .inl q1
    ·obtain⟨y,q1,q2⟩:=cst g1
     cases q2
     rw[T0 hmj]at q1
     refine .inr ⟨v1,xs1,q1,g2,λhe=>⟨?_,(g3 he).2⟩⟩
     have h4:=cph (Y.1 g1).1
     rw[T0 hmj]at h4
     exact h4.trans ((g3 he).1.trans k1)
  ·have Td:=(Y.1 hi).1
   cases Ey:pos mp i with
   | none=>exact(ust Td Ey).trans hi
   | some j =>
    have hmj:=tz Ey
    obtain⟨k1,x,y,k2,k3,k4⟩:=key j i hmj
    rw[hi]at k2
    cases k2
    cases k3
    obtain⟨y,q1,q2⟩:=cst (N.dead j k4)
    cases q2
    rw[T0 hmj]at q1
    exact q1
  ·show O.st.length<=(jq mp O.st gq).length
   simp[jq,gX]
  ·exact N.frame k hk λj n hj=>by obtain⟨b,_,I⟩:=sph hj; exact hno b n I
 refine⟨⟨κ1.w,κ1.ok,jq mp O.ph κ1.ph,jq mp O.st gq⟩,rfl,rfl,⟨hlen,Uk.bT,λi blk n h => ?_,λi i' blk n n' h h' => ?_,λi y h => ?_,Uk.gl⟩,hE,hT⟩
 ·have h:(jq mp O.ph κ1.ph)[i]? = some (some (blk,n)):=h
  have B7:i<(jq mp O.st gq).length:=by rw[<- hlen]; exact(Y.1 h).1
  rcases JR B7 with⟨h1,X⟩ | ⟨j,h1,rfl⟩
  ·rw[uph h1 X]at h
   obtain⟨g1,g2⟩:=hI.apart i blk n h
   refine⟨Nat.lt_of_lt_of_le g1 N.size,λhk => ?_⟩
   rcases N.fresh blk hk with hk | hk | ⟨j,m,hj⟩
   ·exact g2 hk
   ·simp only at hk; omega
   ·obtain⟨b,La,FD⟩:=sph hj
    have:=hI.inj i b blk n m h FD
    subst this
    rw[oX hn La]at X
    cases X
  ·rw[cph h1]at h
   exact Uk.apart j blk n h
 ·have h:(jq mp O.ph κ1.ph)[i]? = some (some (blk,n)):=h
  have h':(jq mp O.ph κ1.ph)[i']? = some (some (blk,n')):=h'
  have z2a:i<(jq mp O.st gq).length:=by rw[<- hlen]; exact(Y.1 h).1
  have FL:i'<(jq mp O.st gq).length:=by rw[<- hlen]; exact(Y.1 h').1
  have mixed:∀ {i j n n':Nat},i<O.st.length->pos mp i=none->j<κ1.st.length->O.ph[i]? = some (some (blk,n))->κ1.ph[j]? = some (some (blk,n'))->False:=by
   intro i j n n' h1 X h3 h4 h5
   rcases N.phs j blk n' h5 with h6 | h6
   ·obtain⟨b,La,FD⟩:=sph h6
    have:=hI.inj i b blk n n' h4 FD
    subst this
    rw[oX hn La]at X
    cases X
   ·have:=(hI.apart i blk n h4).1
    simp only at h6
    omega
  rcases JR z2a with⟨h1,X⟩ | ⟨j,h1,rfl⟩
  ·rw[uph h1 X]at h
   rcases JR FL with⟨h3,h4⟩ | ⟨j',h3,rfl⟩
   ·rw[uph h3 h4]at h'; exact hI.inj i i' blk n n' h h'
   ·rw[cph h3]at h'; exact(mixed h1 X h3 h h').elim
  ·rw[cph h1]at h
   rcases JR FL with⟨h3,h4⟩ | ⟨j',h3,rfl⟩
   ·rw[uph h3 h4]at h'; exact(mixed h3 h4 h1 h' h).elim
   ·rw[cph h3]at h'
    rw[Uk.inj j j' blk n n' h h']
 ·have h:(jq mp O.st gq)[i]? = some y:=h
  rcases JR (Y.1 h).1 with⟨h1,X⟩ | ⟨j,h1,rfl⟩
  ·rw[ust h1 X]at h
   exact(hI.blk i y h).mono hE (uph h1 X) λblk n I=>CJ X I
  ·obtain⟨z,q1,q2⟩:=cst (zG h1)
   rw[h]at q1
   cases q1
   exact hT.blk (cph h1) (Uk.blk j _ (zG h1)) q2
end
end Go.AM
namespace Go.AM
set_option linter.unusedSectionVars false
variable [gp]
open Go.RowKit
inductive AK where
 | any | cur | sub | ptr | wo (f:Nat) | agg
structure ba where
 ks:List AK
 sh:uh
 dJ:List Gh
 out:uh
 nr:Nat
 F:sh.den->T out.den
def Cl(fr:Fr):Nat->Nat->Option (List D)
 | 0,_=>some []
 | n+1,i=>match fr.get i with
  | some d=>match Cl fr n (i+1)with | some r=>some (d::r) | none=>none
  | none=>none
def pe(nr:Nat)(fr:Fr):Option (List D):=Cl fr nr 0
def z3I:List (Nat×Nat)->List D->Nat->Option Nat
 | p::r,.ptr b' _::ds,b=>bif U p.1 b then some b' else z3I r ds b
 | _,_,_=>none
def zj0(b:Nat):Ck->D->Option Nat
 | .ptr c _,.ptr b' _=>bif U c b then some b' else none
 | .cur c _,.ms b' _ _ _ _=>bif U c b then some b' else none
 | .wo _ l,.wo _ ds=>z3I l ds b
 | .yR c,.yR b'=>bif U c b then some b' else none
 | _,_=>none
def zeF(fr:Fr)(b:Nat):List (Nat×Ck)->Option Nat
 | []=>none
 | (s,k)::r=>match fr.get s with
  | some d=>match zj0 b k d with | some b'=>some b' | none=>zeF fr b r
  | none=>zeF fr b r
def Ik(b:Nat):List Mc->List D->Option Nat
 | .pt c::r,.ptr b' _::ds=>bif U c b then some b' else Ik b r ds
 | .pt _::r,_::ds=>Ik b r ds
 | .im _::r,_::ds=>Ik b r ds
 | .rp _::r,_::ds=>Ik b r ds
 | _,_=>none
def Jd(b:Nat):List Sk->List D->Option Nat
 | .im τ::r,ds=>Jd b r (ds.drop τ.size)
 | .row c _::r,.ms b' _ _ _ _::ds=>bif U c b then some b' else Jd b r ds
 | .row _ _::r,_::ds=>Jd b r ds
 | .op c _::r,.eF b' _::ds=>bif U c b then some b' else Jd b r ds
 | .op _ _::r,_::ds=>Jd b r ds
 | .un::r,_::ds=>Jd b r ds
 | .nl::r,_::ds=>Jd b r ds
 | _,_=>none
def KO(fr:Fr)(b:Nat):List It->Option Nat
 | []=>none
 | .s s (.mclo _ ms)::r=>match fr.get s with
  | some (.wo _ l)=>match Ik b ms l with | some b'=>some b' | none=>KO fr b r
  | _=>KO fr b r
 | .s s (.sub c _)::r=>match fr.get s with
  | some (.ms b' _ _ _ _)=>bif U c b then some b' else KO fr b r
  | _=>KO fr b r
 | .s s (.st ks)::r=>match fr.get s with
  | some d=>match Jd b ks (we d)with | some b'=>some b' | none=>KO fr b r
  | none=>KO fr b r
 | _::r=>KO fr b r
def TQ(st:St)(b:Nat):List Bk->List (Option Nat)->Option Nat
 | .cvar k::r,some p::ps=>match st[p]? with
  | some (.var d)=>match zj0 b k d with | some b'=>some b' | none=>TQ st b r ps
  | _=>TQ st b r ps
 | .var (.st ks)::r,some p::ps=>match st[p]? with
  | some (.var d)=>match Jd b ks (we d)with | some b'=>some b' | none=>TQ st b r ps
  | _=>TQ st b r ps
 | _::r,_::ps=>TQ st b r ps
 | _,_=>none
def TM(sh:uh)(fr:Fr):Nat->List Bk->List (Option Nat)
 | _,[]=>[]
 | b,_::r=>(match zeF fr b sh.cs with | some b'=>some b' | none=>KO fr b sh.fH)::TM sh fr (b+1) r
def TN(sh:uh)(st:St)(m:List (Option Nat)):Nat->List (Option Nat)->List (Option Nat)
 | _,[]=>[]
 | b,some b'::r=>some b'::TN sh st m (b+1) r
 | b,none::r=>TQ st b sh.bs m::TN sh st m (b+1) r
def EH:List (Option Nat)->Option (List Nat)
 | []=>some []
 | some b::r=>match EH r with | some l=>some (b::l) | none=>none
 | none::_=>none
def mapOf(sh:uh)(fr:Fr)(st:St):Option (List Nat):=let m:=TM sh fr 0 sh.bs
 let m:=TN sh st m 0 m
 EH (TN sh st m 0 m)
def ba.back(d:ba)(mp:List Nat)(st:St)(y:d.out.den):T (HM×St):=match pe d.nr (d.out.fr y),oG (λj=>some (fwd mp st.length j)) (d.out.st y)with
 | some ds,some gq=>match W6 (λj=>some (fwd mp st.length j)) ds with
  | some Dd=>.ret (.ret Dd,jq mp st gq)
  | none=>.fail
 | _,_=>.fail
def ba.inner(d:ba)(mp:List Nat)(fr:Fr)(st:St):T (HM×St):=match iV st mp with
 | none=>.fail
 | some l=>match oG (pos mp) l with
  | none=>.fail
  | some dN=>(d.sh.un (Vr (pos mp) fr) dN).bind λx=>(d.F x).bind λy=>d.back mp st y
def ba.S(d:ba)(args:List D)(st:St):T (HM×St) :=
 match mapOf d.sh (gh d.dJ (yw args 0) st).1 (gh d.dJ (yw args 0) st).2 with
 | none=>.fail
 | some mp=>bif cR mp&&zM mp.length d.sh.bs.length&&U args.length d.ks.length then d.inner mp (gh d.dJ (yw args 0) st).1 (gh d.dJ (yw args 0) st).2 else .fail
def ba.QL{α:Type}(d:ba)(mp:List Nat)(st:St)(y:d.out.den)(k:List D->St->T α):T α:=match pe d.nr (d.out.fr y),oG (λj=>some (fwd mp st.length j)) (d.out.st y)with
 | some ds,some gq=>match W6 (λj=>some (fwd mp st.length j)) ds with
  | some Dd=>k Dd (jq mp st gq)
  | none=>.fail
 | _,_=>.fail
def ba.XA{α:Type}(d:ba)(mp:List Nat)(fr:Fr)(st:St)(k:List D->St->T α):T α:=match iV st mp with
 | none=>.fail
 | some l=>match oG (pos mp) l with
  | none=>.fail
  | some dN=>(d.sh.un (Vr (pos mp) fr) dN).bind λx=>(d.F x).bind λy=>d.QL mp st y k
def ba.K{α:Type}(d:ba)(args:List D)(st:St)(k:List D->St->T α):T α :=
 match mapOf d.sh (gh d.dJ (yw args 0) st).1 (gh d.dJ (yw args 0) st).2 with
 | none=>.fail
 | some mp=>bif cR mp&&zM mp.length d.sh.bs.length&&U args.length d.ks.length then d.XA mp (gh d.dJ (yw args 0) st).1 (gh d.dJ (yw args 0) st).2 k else .fail
theorem ba.z0v{α:Type}{d:ba}{args:List D}{st:St}{k:List D->St->T α}{r:α}(h:(d.K args st k).leads r):∃ ds qt,(d.S args st).leads (.ret ds,qt)/\(k ds qt).leads r:=by
 unfold ba.K at h
 unfold ba.S
 split at h
 ·exact h.elim
 ·rename_i mp Yd
  cases hc:cR mp&&zM mp.length d.sh.bs.length&&U args.length d.ks.length with
  | false=>rw[hc]at h; exact h.elim
  | true =>
   rw[hc,cond_true]at h
   unfold ba.XA at h
   unfold ba.inner
   split at h
   ·exact h.elim
   ·rename_i l R
    split at h
    ·exact h.elim
    ·rename_i dN hst1
     obtain⟨x,h1,h⟩:=T.zi.1 h
     obtain⟨y,X,h⟩:=T.zi.1 h
     unfold ba.QL at h
     split at h
     ·rename_i ds gq e1 e2
      split at h
      ·rename_i Dd e3
       refine⟨Dd,_,T.zi.2 ⟨x,h1,T.zi.2 ⟨y,X,?_⟩⟩,h⟩
       unfold ba.back
       simp only[e1,e2,e3]
       rfl
      ·exact h.elim
     ·exact h.elim
def cM(Dr:z0t)(g:Nat)(d:ba):Prop:=∀ (O:KS) (x:d.sh.den) (xc:List Value) (y:d.out.den),O.st=d.sh.st x->(d.F x).leads y->Inv O->xc.length=d.ks.length ->
 Rel O xc.length (d.sh.fr x).get { tmps:=xc.toArray,defers:=[] } ->
 Dr g xc.toArray O.w λe w'=>∃ (E:KS) (ds:List D),E.w=w'/\E.st=d.out.st y/\Inv E/\Ext O E/\pe d.nr (d.out.fr y)=some ds/\jo E (.ret ds) e
def xw(P:Program)(g:Nat)(d:ba):Prop:=∀ (O:KS) (x:d.sh.den) (xc:List Value) (y:d.out.den),O.st=d.sh.st x->(d.F x).leads y->Inv O->xc.length=d.ks.length ->
 Rel O xc.length (d.sh.fr x).get { tmps:=xc.toArray,defers:=[] } ->
 gH P g xc.toArray O.w λe w'=>∃ (E:KS) (ds:List D),E.w=w'/\E.st=d.out.st y/\Inv E/\Ext O E/\pe d.nr (d.out.fr y)=some ds/\jo E (.ret ds) e
theorem Ee{O E:KS}{f:Nat->Option Nat}(h:Tr O E f){ds Dd:List D}{v:Value}(J:RD O (eW ds) v)(hr:W6 f ds=some Dd):RD E (eW Dd) v:=by
 match ds,hr with
 | [],hr =>
  cases hr
  cases J with
  | eO _ vs R hh =>
   obtain rfl:vs=[]:=zY R.symm
   exact .eO [] [] rfl (λi h=>absurd h (qN i))
 | [d],hr =>
  simp only[W6]at hr
  split at hr
  ·rename_i d' h1
   cases hr
   exact h.rd J h1
  ·cases hr
 | d::e::r,hr =>
  cases J with
  | eO _ vs R hh =>
   have hR:=h.rds (⟨R,hh⟩:wQ O (d::e::r) vs) hr
   simp only[W6]at hr
   split at hr
   ·split at hr
    ·rename_i r' X
     cases hr
     split at X
     ·split at X
      ·cases X; exact .eO _ vs hR.1 hR.2
      ·cases X
     ·cases X
    ·cases hr
   ·cases hr
theorem Qs{α β:Type}{l:List α}{m:List β}(h:l.length=m.length):∀ {mp:List Nat} {r:List α},iV l mp=some r->∃ q,iV m mp=some q
 | [],_,_=>⟨[],rfl⟩
 | b::mp,r,hr=>by
  simp only[iV]at hr
  split at hr
  ·rename_i x N
   split at hr
   ·rename_i y hy
    obtain⟨q,hq⟩:=Qs h hy
    have I:b<m.length:=by have:=(Y.1 N).1; omega
    exact⟨m[b]::q,by simp only[iV,zG I,hq]⟩
   ·cases hr
  ·cases hr
theorem ba.zeZ{Dr:z0t}(zi9:∀ {g a w} {hl R':Ending->World->Prop},Dr g a w hl->(∀ e w',hl e w'->R' e w')->Dr g a w R'){g:Nat}{d:ba}(h:cM Dr g d):znY Dr g d.S:=by
 intro O args xc rs qt R hI ha
 have hR0:Rel O xc.length (yw args 0).get { tmps:=xc.toArray,defers:=[] }:=by
  have:=Yl (n:=xc.length) ha (by rw[ha.1]; exact zJ _)
  simpa[show(Bw.df:List Deferred)=[]from rfl]using this
 obtain⟨κ0,w1,w2,w3,w4,w5⟩:=th d.dJ (yw args 0) O hI hR0
 unfold ba.S at R
 rw[<- w2]at R
 split at R
 ·exact R.elim
 ·rename_i mp Yd
  cases hc:cR mp&&zM mp.length d.sh.bs.length&&U args.length d.ks.length with
  | false=>rw[hc]at R; exact R.elim
  | true =>
   rw[hc,cond_true]at R
   simp only[M]at hc
   obtain⟨⟨hn,hle⟩,hlen⟩:=hc
   unfold ba.inner at R
   split at R
   ·exact R.elim
   ·rename_i l Gk
    split at R
    ·exact R.elim
    ·rename_i dN hst1
     obtain⟨x,h1,R⟩:=T.zi.1 R
     obtain⟨y,X,R⟩:=T.zi.1 R
     obtain⟨p1,hpp⟩:=Qs (m:=κ0.ph) w3.len.symm Gk
     obtain⟨s1,s2,s3,s4,s5⟩:=Ec w3 hn hpp Gk hst1
     have BQ:Rel ⟨κ0.w,κ0.ok,p1,dN⟩ xc.length (Vr (pos mp) (gh d.dJ (yw args 0) O.st).1).get { tmps:=xc.toArray,defers:=[] } :=
      ⟨w5.size,w5.defers,λs d' J=>by
       obtain⟨d0,q1,q2⟩:=WT J
       obtain⟨v,q3,q4⟩:=w5.get s d0 q1
       exact⟨v,q3,s2.rd q4 q2⟩⟩
     obtain⟨κ2,u1,u2,u3,u4,u5,_⟩:=d.sh.Y5 (κ0:=⟨κ0.w,κ0.ok,p1,dN⟩) (O:=⟨κ0.w,κ0.ok,p1,dN⟩) (Ext.refl _) s1 BQ (by show dN.length<=_; rw[s3]; exact zE hle) h1
     have hw:κ2.w=O.w:=u1.trans w1
     have hdo:=h κ2 x xc y u2 X u3 (by rw[<- ha.1]; exact zA hlen) u5
     rw[hw]at hdo
     refine zi9 hdo ?_
     rintro e w' ⟨κ3,ds,rfl,g1,g2,g3,g4,v,rfl,g5⟩
     unfold ba.back at R
     rw[g4,<- g1]at R
     split at R
     ·rename_i ds0 gq e1 e2
      cases e1
      split at R
      ·rename_i Dd hds'
       cases R
       obtain⟨E,k1,k2,k3,k4,k5⟩:=Ym w3 hn hpp Gk hst1 g2 (u4.trans g3) e2
       exact⟨E,k1,k2,k3,w4.trans k4,v,rfl,Ee k5 g5 hds'⟩
      ·exact R.elim
     ·exact R.elim
theorem ba.snd{P:Program}{g:Nat}{d:ba}(h:xw P g d):Es P g d.S:=ba.zeZ (Dr:=gH P) gH.mono h
structure lN where
 ks:List AK
 sh:uh
 dJ:List Gh
 out:uh
 nr:Nat
 pt:Nat
 bh:uh
 two:Option Nat
 F:sh.den->T (out.den⊕bh.den)
abbrev lN.s(d:lN):ba:=⟨d.ks,d.sh,d.dJ,d.out,d.nr,λ_=>.fail⟩
abbrev lN.s2(d:lN)(n:Nat):ba:=⟨d.ks,d.sh,d.dJ,d.bh,n,λ_=>.fail⟩
def lN.z4b{α:Type}(d:lN)(mp:List Nat)(st:St)(z:d.bh.den)(kp:D->St->T α):T α:=match(d.bh.fr z).get 0,oG (λj=>some (fwd mp st.length j)) (d.bh.st z)with
 | some (.qs τ x),some gq=>kp (.iface d.pt (.qs τ x)) (jq mp st gq)
 | _,_=>.fail
def lN.Na{α:Type}(d:lN)(mp:List Nat)(st:St)(z:d.bh.den)(k:List D->St->T α)(kp:D->St->T α):T α:=match d.two with
 | none=>d.z4b mp st z kp
 | some n=>(d.s2 n).QL mp st z k
def lN.XA{α:Type}(d:lN)(mp:List Nat)(fr:Fr)(st:St)(k:List D->St->T α)(kp:D->St->T α):T α:=match iV st mp with
 | none=>.fail
 | some l=>match oG (pos mp) l with
  | none=>.fail
  | some dN=>(d.sh.un (Vr (pos mp) fr) dN).bind λx=>(d.F x).bind (Sum.elim (λy=>d.s.QL mp st y k) (λz=>d.Na mp st z k kp))
def lN.K{α:Type}(d:lN)(args:List D)(st:St)(k:List D->St->T α)(kp:D->St->T α):T α :=
 match mapOf d.sh (gh d.dJ (yw args 0) st).1 (gh d.dJ (yw args 0) st).2 with
 | none=>.fail
 | some mp=>bif cR mp&&zM mp.length d.sh.bs.length&&U args.length d.ks.length then d.XA mp (gh d.dJ (yw args 0) st).1 (gh d.dJ (yw args 0) st).2 k kp else .fail
def lN.S(d:lN)(args:List D)(st:St):T (HM×St):=d.K args st (λds qt=>.ret (.ret ds,qt)) (λp qt=>.ret (.bh p,qt))
theorem lN.z0v{α:Type}{d:lN}{args:List D}{st:St}{k:List D->St->T α}{kp:D->St->T α}{r:α}(h:(d.K args st k kp).leads r) :
  (∃ ds qt,(d.S args st).leads (.ret ds,qt)/\(k ds qt).leads r)\/∃ p qt,(d.S args st).leads (.bh p,qt)/\(kp p qt).leads r:=by
 unfold lN.K at h
 unfold lN.S lN.K
 split at h
 ·exact h.elim
 ·rename_i mp Yd
  cases hc:cR mp&&zM mp.length d.sh.bs.length&&U args.length d.ks.length with
  | false=>rw[hc]at h; exact h.elim
  | true =>
   rw[hc,cond_true]at h
   unfold lN.XA at h
   unfold lN.XA
   split at h
   ·exact h.elim
   ·rename_i l R
    split at h
    ·exact h.elim
    ·rename_i dN hst1
     obtain⟨x,h1,h⟩:=T.zi.1 h
     obtain⟨y,X,h⟩:=T.zi.1 h
     cases y with
     | inl y =>
      simp at h
      unfold ba.QL at h
      split at h
      ·rename_i ds gq e1 e2
       split at h
       ·rename_i Dd e3
        refine .inl ⟨Dd,_,T.zi.2 ⟨x,h1,T.zi.2 ⟨.inl y,X,?_⟩⟩,h⟩
        simp
        unfold ba.QL
        simp only[e1,e2,e3]
        rfl
       ·exact h.elim
      ·exact h.elim
     | inr z =>
      simp at h
      unfold lN.Na at h
      split at h
      ·rename_i h0
       unfold lN.z4b at h
       split at h
       ·rename_i τ p gq e1 e2
        refine .inr ⟨_,_,T.zi.2 ⟨x,h1,T.zi.2 ⟨.inr z,X,?_⟩⟩,h⟩
        simp
        unfold lN.Na lN.z4b
        simp only[h0,e1,e2]
        rfl
       ·exact h.elim
      ·rename_i n h0
       unfold ba.QL at h
       split at h
       ·rename_i ds gq e1 e2
        split at h
        ·rename_i Dd e3
         refine .inl ⟨Dd,_,T.zi.2 ⟨x,h1,T.zi.2 ⟨.inr z,X,?_⟩⟩,h⟩
         simp
         unfold lN.Na ba.QL
         simp only[h0,e1,e2,e3]
         rfl
        ·exact h.elim
       ·exact h.elim
def jI(P:Program)(g:Nat)(d:lN):Prop:=∀ (O:KS) (x:d.sh.den) (xc:List Value) (r:d.out.den⊕d.bh.den),O.st=d.sh.st x->(d.F x).leads r->Inv O->xc.length=d.ks.length ->
 Rel O xc.length (d.sh.fr x).get { tmps:=xc.toArray,defers:=[] } ->
 gH P g xc.toArray O.w λe w'=>∃ E:KS,E.w=w'/\Inv E/\Ext O E /\
  ((∃ (y:d.out.den) (ds:List D),r=.inl y/\E.st=d.out.st y/\pe d.nr (d.out.fr y)=some ds/\jo E (.ret ds) e) \/
   (d.two=none/\∃ (z:d.bh.den) (p:D),r=.inr z/\E.st=d.bh.st z/\(d.bh.fr z).get 0=some p/\jo E (.bh (.iface d.pt p)) e) \/
   ∃ (n:Nat) (z:d.bh.den) (ds:List D),d.two=some n/\r=.inr z/\E.st=d.bh.st z/\pe n (d.bh.fr z)=some ds/\jo E (.ret ds) e)
theorem lN.snd{P:Program}{g:Nat}{d:lN}(h:jI P g d):Es P g d.S:=by
 intro O args xc rs qt R hI ha
 have hR0:Rel O xc.length (yw args 0).get { tmps:=xc.toArray,defers:=[] }:=by
  have:=Yl (n:=xc.length) ha (by rw[ha.1]; exact zJ _)
  simpa[show(Bw.df:List Deferred)=[]from rfl]using this
 obtain⟨κ0,w1,w2,w3,w4,w5⟩:=th d.dJ (yw args 0) O hI hR0
 unfold lN.S lN.K at R
 rw[<- w2]at R
 split at R
 ·exact R.elim
 ·rename_i mp Yd
  cases hc:cR mp&&zM mp.length d.sh.bs.length&&U args.length d.ks.length with
  | false=>rw[hc]at R; exact R.elim
  | true =>
   rw[hc,cond_true]at R
   simp only[M]at hc
   obtain⟨⟨hn,hle⟩,hlen⟩:=hc
   unfold lN.XA at R
   split at R
   ·exact R.elim
   ·rename_i l Gk
    split at R
    ·exact R.elim
    ·rename_i dN hst1
     obtain⟨x,h1,R⟩:=T.zi.1 R
     obtain⟨y,X,R⟩:=T.zi.1 R
     obtain⟨p1,hpp⟩:=Qs (m:=κ0.ph) w3.len.symm Gk
     obtain⟨s1,s2,s3,s4,s5⟩:=Ec w3 hn hpp Gk hst1
     have BQ:Rel ⟨κ0.w,κ0.ok,p1,dN⟩ xc.length (Vr (pos mp) (gh d.dJ (yw args 0) O.st).1).get { tmps:=xc.toArray,defers:=[] } :=
      ⟨w5.size,w5.defers,λs d' J=>by
       obtain⟨d0,q1,q2⟩:=WT J
       obtain⟨v,q3,q4⟩:=w5.get s d0 q1
       exact⟨v,q3,s2.rd q4 q2⟩⟩
     obtain⟨κ2,u1,u2,u3,u4,u5,_⟩:=d.sh.Y5 (κ0:=⟨κ0.w,κ0.ok,p1,dN⟩) (O:=⟨κ0.w,κ0.ok,p1,dN⟩) (Ext.refl _) s1 BQ (by show dN.length<=_; rw[s3]; exact zE hle) h1
     have hw:κ2.w=O.w:=u1.trans w1
     have hdo:=h κ2 x xc y u2 X u3 (by rw[<- ha.1]; exact zA hlen) u5
     rw[hw]at hdo
     refine hdo.mono ?_
     rintro e w' ⟨κ3,rfl,g2,g3,⟨y,ds,rfl,g1,g4,v,rfl,g5⟩ | ⟨g0,z,p,rfl,g1,g4,v,rfl,g5⟩ | ⟨n2,z,ds,g0,rfl,g1,g4,v,rfl,g5⟩⟩
     ·simp only[Sum.elim_inl]at R
      unfold ba.QL at R
      rw[show pe d.s.nr (d.s.out.fr y)=some ds from g4,show d.s.out.st y=κ3.st from g1.symm]at R
      split at R
      ·rename_i ds0 gq e1 e2
       cases e1
       split at R
       ·rename_i Dd hds'
        cases R
        obtain⟨E,k1,k2,k3,k4,k5⟩:=Ym w3 hn hpp Gk hst1 g2 (u4.trans g3) e2
        exact⟨E,k1,k2,k3,w4.trans k4,v,rfl,Ee k5 g5 hds'⟩
       ·exact R.elim
      ·exact R.elim
     ·simp only[Sum.elim_inr]at R
      unfold lN.Na at R
      rw[g0]at R
      simp only at R
      unfold lN.z4b at R
      rw[g4,<- g1]at R
      split at R
      ·rename_i τ q gq e1 e2
       cases e1
       cases R
       obtain⟨E,k1,k2,k3,k4,k5⟩:=Ym w3 hn hpp Gk hst1 g2 (u4.trans g3) e2
       refine⟨E,k1,k2,k3,w4.trans k4,v,rfl,?_⟩
       cases g5 with
       | iface _ _ u hu=>exact .iface _ _ u (k5.rd hu rfl)
      ·exact R.elim
     ·simp only[Sum.elim_inr]at R
      unfold lN.Na at R
      rw[g0]at R
      simp only at R
      unfold ba.QL at R
      rw[show pe (d.s2 n2).nr ((d.s2 n2).out.fr z)=some ds from g4,show(d.s2 n2).out.st z=κ3.st from g1.symm]at R
      split at R
      ·rename_i ds0 gq e1 e2
       cases e1
       split at R
       ·rename_i Dd hds'
        cases R
        obtain⟨E,k1,k2,k3,k4,k5⟩:=Ym w3 hn hpp Gk hst1 g2 (u4.trans g3) e2
        exact⟨E,k1,k2,k3,w4.trans k4,v,rfl,Ee k5 g5 hds'⟩
       ·exact R.elim
      ·exact R.elim
end Go.AM
namespace Go.AM
def Dm(sh:uh)(dJ:List Gh)(args:List D)(st:St):List Nat:=bif dJ.isEmpty then match mapOf sh (yw args 0) st with | some mp=>others st.length mp | none=>[]else[]
def ba.free(d:ba)(args:List D)(st:St):List Nat:=Dm d.sh d.dJ args st
def lN.free(d:lN)(args:List D)(st:St):List Nat:=Dm d.sh d.dJ args st
theorem Ic{m b:Nat}{l:List Nat}(h:b∈others m l):b<m/\∀ x∈l,b≠x:=by
 simp only[others,List.mem_filter,List.mem_range,qF,List.any_eq_false]at h
 exact⟨h.1,λx N e=>by subst e; exact h.2 b N (qS _)⟩
theorem Jl:∀ {mp:List Nat} {b:Nat},(∀ x∈mp,b≠x)->pos mp b=none
 | [],_,_=>rfl
 | x::r,b,h=>by
  simp only[pos]
  rw[show U x b=false from by cases I:U x b with | false=>rfl | true=>exact absurd (zA I).symm (h x zQ),cond_false,Jl λy hy=>h y (zI _ hy)]
theorem Ge{sh:uh}{dJ:List Gh}{args:List D}{st:St}{b:Nat}(I:b∈Dm sh dJ args st):dJ=[]/\∃ mp,mapOf sh (yw args 0) st=some mp/\b<st.length/\pos mp b=none:=by
 unfold Dm at I
 cases hn:dJ.isEmpty with
 | false=>grind
 | true =>
  rw[hn,cond_true]at I
  refine⟨zW.1 hn,?_⟩
  split at I
  ·rename_i mp Yd
   obtain⟨h1,X⟩:=Ic I
   exact⟨mp,Yd,h1,Jl X⟩
  ·cases I
theorem ba.UN{d:ba}{args:List D}{st qt:St}{rs:HM}{b:Nat}(h:(d.S args st).leads (rs,qt))(I:b∈d.free args st):qt[b]? = st[b]? := by
 obtain⟨hn,mp,Yd,wO,V9⟩:=Ge I
 unfold ba.S at h
 rw[hn]at h
 simp only[gh,Yd]at h
 cases hc:cR mp&&zM mp.length d.sh.bs.length&&U args.length d.ks.length with
 | false=>rw[hc]at h; exact h.elim
 | true =>
  rw[hc,cond_true]at h
  unfold ba.inner at h
  split at h
  ·exact h.elim
  ·split at h
   ·exact h.elim
   ·obtain⟨x,_,h⟩:=T.zi.1 h
    obtain⟨y,_,h⟩:=T.zi.1 h
    unfold ba.back at h
    split at h
    ·split at h
     ·cases h; exact lR wO V9
     ·exact h.elim
    ·exact h.elim
theorem lN.UN{d:lN}{args:List D}{st qt:St}{rs:HM}{b:Nat}(h:(d.S args st).leads (rs,qt))(I:b∈d.free args st):qt[b]? = st[b]? := by
 obtain⟨hn,mp,Yd,wO,V9⟩:=Ge I
 unfold lN.S lN.K at h
 rw[hn]at h
 simp only[gh,Yd]at h
 cases hc:cR mp&&zM mp.length d.sh.bs.length&&U args.length d.ks.length with
 | false=>rw[hc]at h; exact h.elim
 | true =>
  rw[hc,cond_true]at h
  unfold lN.XA at h
  split at h
  ·exact h.elim
  ·split at h
   ·exact h.elim
   ·obtain⟨x,_,h⟩:=T.zi.1 h
    obtain⟨y,_,h⟩:=T.zi.1 h
    cases y with
    | inl y =>
     simp at h
     unfold ba.QL at h
     split at h
     ·split at h
      ·cases h; exact lR wO V9
      ·exact h.elim
     ·exact h.elim
    | inr z =>
     simp at h
     unfold lN.Na at h
     split at h
     ·unfold lN.z4b at h
      split at h
      ·cases h; exact lR wO V9
      ·exact h.elim
     ·unfold ba.QL at h
      split at h
      ·split at h
       ·cases h; exact lR wO V9
       ·exact h.elim
      ·exact h.elim
def pg:It->Bool
 | .s _ (.qs _)=>true
 | .a _=>true
 | _=>false
def WM:Bk->Bool
 | .arr _=>true
 | _=>false
def Hc(o:uh):Bool:=o.cs.isEmpty&&o.fH.all pg&&o.bs.all WM
def ba.QY(d:ba)(args:List D):Option (List Nat):=bif d.dJ.isEmpty&&Hc d.out&&zM d.out.bs.length d.sh.bs.length then EH (TM d.sh (yw args 0) 0 d.sh.bs)else none
theorem Ia(sh:uh)(st:St)(m':List (Option Nat)):∀ (m:List (Option Nat)) (b:Nat) (l:List Nat),EH m=some l->TN sh st m' b m=m
 | [],_,_,_=>rfl
 | some x::r,b,l,h=>by
  simp only[EH]at h
  split at h
  ·rename_i l' R; simp only[TN,Ia sh st m' r (b+1) l' R]
  ·cases h
 | none::_,_,_,h=>by cases h
theorem z3u{sh:uh}{fr:Fr}{st:St}{l:List Nat}(h:EH (TM sh fr 0 sh.bs)=some l):mapOf sh fr st=some l:=by
 simp only[mapOf,Ia sh st _ _ 0 l h]
 exact h
theorem EI:∀ {m:List (Option Nat)} {l:List Nat},EH m=some l->l.length=m.length
 | [],_,h=>by cases h; rfl
 | some x::r,_,h=>by
  simp only[EH]at h
  split at h
  ·rename_i l' R; cases h; simp[EI R]
  ·cases h
 | none::_,_,h=>by cases h
theorem I9(sh:uh)(fr:Fr):∀ (bs:List Bk) (b:Nat),(TM sh fr b bs).length=bs.length
 | [],_=>rfl
 | _::r,b=>by simp only[TM,qK,I9 sh fr r (b+1)]
theorem U2{α:Type}{l:List α}(x:α):∀ {mp:List Nat} {r:List α},iV l mp=some r->iV (l++[x]) mp=some r/\∀ b∈mp,b<l.length
 | [],_,h=>⟨h,λb I=>by cases I⟩
 | b::mp,r,h=>by
  simp only[iV]at h
  split at h
  ·rename_i y hy
   split at h
   ·rename_i z hz
    cases h
    obtain⟨h1,X⟩:=U2 x hz
    have I:=(Y.1 hy).1
    refine⟨?_,λc hc=>(zH.1 hc).elim (λe=>e▸I) (X c)⟩
    simp only[iV,zK I,hy,h1]
   ·cases h
  ·cases h
theorem Kr{α:Type}(mp:List Nat)(new:List α)(x:α):∀ (l:List α) (i:Nat),pos mp (i+l.length)=none->nV mp new i (l++[x])=nV mp new i l++[x]
 | [],i,h=>by simp only[List.length_nil,Nat.add_zero]at h; simp[nV,h]
 | y::r,i,h=>by
  have:=Kr mp new x r (i+1) (by rw[<- h]; congr 1; simp; omega)
  simp[nV,this]
theorem Cf(st0:St):∀ (bs:List Bk) (l:List Bd),bs.all WM=true->∀ b∈jK st0 bs l,∀ f,U7 f b=some b
 | [],_,_,b,I,_=>by cases I
 | .arr e::r,l,ha,b,I,f=>by
  simp only[zF,M]at ha
  cases l with
  | nil=>simp[jK]at I
  | cons z l =>
   cases z with
   | a e' xs =>
    rcases zH.1 (show b∈cU.arr xs.length e' xs::jK st0 r l from I)with rfl | I
    ·rfl
    ·exact Cf st0 r l ha.2 b I f
   | v k y=>simp[jK]at I
 | .var _::r,_,ha,_,_,_=>by simp[WM]at ha
 | .cvar _::r,_,ha,_,_,_=>by simp[WM]at ha
 | .dead::r,_,ha,_,_,_=>by simp[WM]at ha
theorem IA:∀ (l:List cU) (f:Nat->Option Nat),(∀ b∈l,U7 f b=some b)->oG f l=some l
 | [],_,_=>rfl
 | b::r,f,h=>by simp only[oG,h b zQ,IA r f λx N=>h x (zI _ N)]
theorem GU(st:St):∀ (fH:List It) (x:jX fH),fH.all pg=true->∀ s d,(nD st fH x).get s=some d->∀ f,sj f d=some d
 | [],_,_,s,d,h,_=>by cases h
 | [i],x,ha,s,d,h,f=>by
  cases i with
  | s t k =>
   cases k with
   | qs τ =>
    simp only[nD,X3,Fr.get]at h
    cases I:U t s with
    | true=>rw[I]at h; cases h; rfl
    | false=>rw[I]at h; cases h
   | _=>simp[pg]at ha
  | v k=>simp[pg]at ha
  | a e=>cases h
 | i::j::r,x,ha,s,d,h,f=>by
  have ha':pg i=true/\(j::r).all pg=true:=by simpa using ha
  cases i with
  | s t k =>
   cases k with
   | qs τ =>
    simp only[nD,X3,Fr.get]at h
    cases I:U t s with
    | true=>rw[I]at h; cases h; rfl
    | false=>rw[I]at h; exact GU st (j::r) x.2 ha'.2 s d h f
   | _=>simp[pg]at ha'
  | v k=>simp[pg]at ha'
  | a e=>exact GU st (j::r) x.2 ha'.2 s d h f
theorem H8{fr:Fr}(hf:∀ s d,fr.get s=some d->∀ f,sj f d=some d):∀ (n i:Nat) (ds:List D),Cl fr n i=some ds->∀ f,W6 f ds=some ds
 | 0,_,ds,h,f=>by cases h; rfl
 | n+1,i,ds,h,f=>by
  simp only[Cl]at h
  split at h
  ·rename_i d J
   split at h
   ·rename_i r hr
    cases h
    simp only[W6,hf i d J f,H8 hf n (i+1) r hr f]
   ·cases h
  ·cases h
theorem GW(st0:St):∀ (bs:List Bk) (l:List Bd),(jK st0 bs l).length<=bs.length
 | [],l=>by simp[jK]
 | b::r,l=>by
  cases b<;>cases l<;>(try (rename_i z _; cases z))<;>simp only[jK,qK,List.length_nil]<;>first | omega | (have:=GW st0 r; grind)
theorem ba.Hy{d:ba}{args:List D}{zD:List Nat}(ht:d.QY args=some zD){st qt:St}{rs:HM}(h:(d.S args st).leads (rs,qt)) :
  qt.length=st.length/\(∀ b,b<st.length->b ∉ zD->qt[b]? = st[b]?)/\∀ x,(d.S args (st++[x])).leads (rs,qt++[x]):=by
 unfold ba.QY at ht
 cases I:d.dJ.isEmpty&&Hc d.out&&zM d.out.bs.length d.sh.bs.length with
 | false=>rw[I]at ht; cases ht
 | true =>
  rw[I,cond_true]at ht
  simp only[M]at I
  obtain⟨⟨hn,hp⟩,hle⟩:=I
  have hn:=zW.1 hn
  have hle:=zE hle
  have hm:∀ s:St,mapOf d.sh (yw args 0) s=some zD:=λs=>z3u ht
  have hTl:zD.length=d.sh.bs.length:=(EI ht).trans (I9 ..)
  unfold ba.S at h ⊢
  rw[hn]at h
  simp only[gh,hm]at h
  cases hc:cR zD&&zM zD.length d.sh.bs.length&&U args.length d.ks.length with
  | false=>rw[hc]at h; exact h.elim
  | true =>
   rw[hc,cond_true]at h
   unfold ba.inner at h
   split at h
   ·exact h.elim
   ·rename_i l R
    split at h
    ·exact h.elim
    ·rename_i dN hst1
     obtain⟨x,h1,h⟩:=T.zi.1 h
     obtain⟨y,X,h⟩:=T.zi.1 h
     have hpo:d.out.cs.isEmpty=true/\d.out.fH.all pg=true/\d.out.bs.all WM=true:=by
      unfold Hc at hp; simp only[M]at hp; exact⟨hp.1.1,hp.1.2,hp.2⟩
     have ud:∀ f,oG f (d.out.st y)=some (d.out.st y):=λf=>IA _ f λb I=>Cf _ _ _ hpo.2.2 b I f
     have hfr:∀ s e,(d.out.fr y).get s=some e->∀ f,sj f e=some e:=λs e he f=>by
      unfold uh.fr at he
      rw[zW.1 hpo.1,show z9V (d.out.st y) []=[]from rfl,zT]at he
      exact GU _ _ y hpo.2.1 s e he f
     have hlen:(d.out.st y).length<=zD.length:=by rw[hTl]; exact zV (GW _ _ _) hle
     unfold ba.back at h
     split at h
     ·rename_i ds gq hds hst2
      rw[ud]at hst2
      cases hst2
      rw[H8 hfr _ _ _ hds]at h
      cases h
      obtain⟨hl0,wO⟩:=U2 (.dead:cU) R
      have V9:pos zD st.length=none:=Jl λb I e=>by have:=wO b I; omega
      have FG:(d.out.st y).drop zD.length=[]:=List.drop_eq_nil_of_le hlen
      refine⟨?_,λb I hbt=>lR I (Jl λc hc e=>hbt (e▸hc)),λz => ?_⟩
      ·simp[jq,gX,FG]
      ·rw[hn]
       simp only[gh,hm]
       rw[hc,cond_true]
       unfold ba.inner
       rw[(U2 z R).1]
       simp only[hst1]
       refine T.zi.2 ⟨x,h1,T.zi.2 ⟨y,X,?_⟩⟩
       unfold ba.back
       rw[hds,ud]
       simp only[H8 hfr _ _ _ hds]
       show _=_
       simp only[jq,FG,zT]
       rw[Kr zD _ z st 0 (by rw[qD]; exact V9)]
     ·exact h.elim
end Go.AM
namespace Go.AM
def Ui.den:Ui->Type
 | .ty τ=>AM.den τ
 | .rp τ=>AM.den τ
 | .wo _ caps=>fY caps
def eo:List Ui->Type
 | []=>Unit
 | [p]=>p.den
 | p::q::r=>p.den×eo (q::r)
def mkP:(p:Ui)->p.den->D
 | .ty τ,x=>.qs τ x
 | .rp τ,x=>.vH τ x
 | .wo f caps,x=>.wo f (Qg caps x)
def Ke:(l:List Ui)->eo l->List D
 | [],_=>[]
 | [p],x=>[mkP p x]
 | p::q::r,x=>mkP p x.1::Ke (q::r) x.2
def J0:(l:List Ty)->Et l->List D
 | [],_=>[]
 | [τ],x=>[.qs τ x]
 | τ::σ::r,x=>.qs τ x.1::J0 (σ::r) x.2
def rpX(st:St)(τ:Ty):D->T (den τ)
 | .vH _ x=>match(jV x:Option (den τ))with | some y=>.ret y | none=>.fail
 | .ptr b off=>match st[b]? with
  | some (.var d)=>match bif U off 0 then oQ τ d else none with | some y=>.ret y | none=>.fail
  | _=>.fail
 | _=>.fail
def z6N(st:St):(p:JO)->D->T (den p.ty)
 | .im τ,d=>Ux st τ d
 | .rp τ,d=>rpX st τ d
def NI(st:St):(l:List JO)->List D->T (fY l)
 | [],[]=>.ret ()
 | [p],[d]=>z6N st p d
 | p::q::r,d::ds=>(z6N st p d).bind λx=>(NI st (q::r) ds).bind λy=>.ret (x,y)
 | _,_=>.fail
def unP(st:St):(p:Ui)->D->T p.den
 | .ty τ,d=>Ux st τ d
 | .rp τ,d=>rpX st τ d
 | .wo f caps,d=>match d with
  | .wo f' l=>bif U f f' then NI st caps l else .fail
  | _=>.fail
def IS(st:St):(l:List Ui)->List D->T (eo l)
 | [],[]=>.ret ()
 | [p],[d]=>unP st p d
 | p::q::r,d::ds=>(unP st p d).bind λx=>(IS st (q::r) ds).bind λy=>.ret (x,y)
 | _,_=>.fail
def z4O(st:St):(l:List Ty)->List D->T (Et l)
 | [],[]=>.ret ()
 | [τ],[d]=>Ux st τ d
 | τ::σ::r,d::ds=>(Ux st τ d).bind λx=>(z4O st (σ::r) ds).bind λy=>.ret (x,y)
 | _,_=>.fail
structure EE where
 ps:List Ui
 rs:List Ty
 F:eo ps->T (Et rs)
def zcQ:Ui->D->Bool
 | .wo f _,d=>match d with | .wo f' _=>U f f' | _=>false
 | _,d=>match d with | .wo _ _=>false | _=>true
def fits:List Ui->List D->Bool
 | [],[]=>true
 | p::ps,d::ds=>zcQ p d&&fits ps ds
 | _,_=>false
def zcR:AK->D->Bool
 | .any,d=>match d with | .wo _ _=>false | _=>true
 | .cur,d=>match d with | .ms .. => true | .wJ=>true | _=>false
 | .sub,d=>match d with | .ms .. => true | _=>false
 | .ptr,d=>match d with | .ptr .. => true | _=>false
 | .wo f,d=>match d with | .wo f' _=>U f f' | _=>false
 | .agg,d=>match d with | .agg _=>true | _=>false
def QT:List AK->List D->Bool
 | [],[]=>true
 | p::ps,d::ds=>zcR p d&&QT ps ds
 | _,_=>false
inductive FnE where
 | d (x:EE)
 | s (x:ba)
 | p (x:lN)
def FnE.fits:FnE->List D->Bool
 | .d x,l=>AM.fits x.ps l
 | .s x,l=>QT x.ks l
 | .p x,l=>QT x.ks l
abbrev lO:=List (Nat×FnE)
def lO.find:lO->Nat->List D->Option FnE
 | [],_,_=>none
 | (g',d)::r,g,args=>bif U g' g&&d.fits args then some d else lO.find r g args
abbrev Sm:=List D->St->T (HM×St)
def EE.S(d:EE):Sm:=λargs st=>match st with
 | []=>(IS [] d.ps args).bind λx=>(d.F x).bind λy=>.ret (.ret (J0 d.rs y),[])
 | _=>.fail
def lO.call(tab:lO)(g:Nat)(args:List D)(st:St):T (HM×St):=match tab.find g args with | some (.d d)=>d.S args st | some (.s d)=>d.S args st | some (.p d)=>d.S args st | none=>.fail
def lO.free(tab:lO)(g:Nat)(args:List D)(st:St):List Nat:=match tab.find g args with | some (.s d)=>d.free args st | some (.p d)=>d.free args st | _=>[]
theorem lO.UN(tab:lO)(g:Nat)(args:List D)(st:St)(rs:HM)(qt:St)(b:Nat)(h:(tab.call g args st).leads (rs,qt))(I:b∈tab.free g args st):qt[b]? = st[b]? := by
 unfold lO.call at h
 unfold lO.free at I
 split at I
 ·rename_i d J; rw[J]at h; exact ba.UN h I
 ·rename_i d J; rw[J]at h; exact lN.UN h I
 ·cases I
def lO.QY(tab:lO)(g:Nat)(args:List D):Option (List Nat):=match tab.find g args with | some (.s d)=>d.QY args | _=>none
theorem lO.Hy(tab:lO)(g:Nat)(args:List D)(zD:List Nat)(st:St)(rs:HM)(qt:St)(ht:tab.QY g args=some zD)(h:(tab.call g args st).leads (rs,qt)) :
  qt.length=st.length/\(∀ b,b<st.length->b ∉ zD->qt[b]? = st[b]?)/\∀ x,(tab.call g args (st++[x])).leads (rs,qt++[x]):=by
 unfold lO.QY at ht
 unfold lO.call at h ⊢
 split at ht
 ·rename_i d J
  rw[J]at h ⊢
  exact ba.Hy ht h
 ·cases ht
def gW(P:Program)(xid:Nat)(tab:lO)(ro:Nat->Bool):Ctx :=
 { P,xid,ro,sig:=λg args=>match tab.find g args with | some (.d d)=>some ⟨d.ps,d.rs⟩ | _=>none,fn:=tab.call,free:=tab.free,z1i:=tab.UN,QY:=tab.QY,RZ:=tab.Hy }
def zaV{α:Type}(tab:lO)(g:Nat)(args:List D)(st:St)(k:Nat->Option D->St->T α)(kp:D->St->T α):T α:=match tab.find g args with
 | none=>.fail
 | some (.d d)=>bif !(args.any Kg)then(IS [] d.ps args).bind λx=>(d.F x).bind λy=>k 0 (some (eW (J0 d.rs y))) st
  else(IS st d.ps args).bind λx=>(d.F x).bind λy=>bif (J0 d.rs y).all WX then k 1 (some (eW (J0 d.rs y))) st else .fail
 | some (.s d)=>d.K args st λds qt=>k 2 (some (eW ds)) qt
 | some (.p d)=>d.K args st (λds qt=>k 2 (some (eW ds)) qt) kp
def D2{α:Type}(tab:lO)(f:Option D)(args:List (Option D))(st:St)(k:Nat->Option D->St->T α)(kp:D->St->T α):T α:=match f,gJ args with
 | some (.wo g caps),some l=>zaV tab (eD g) (bQ g l caps) st k kp
 | _,_=>.fail
def oF(l:List Nat):Fr:=l.map λs=>(s,none)
def dstsOf:List Oper->List Nat
 | []=>[]
 | o::r=>match o.dst with | some t=>t::dstsOf r | none=>dstsOf r
def wK:Code->List Nat
 | .region _ ops _=>dstsOf ops.toList
 | .seq a b=>wK a++wK b
 | .cond _ a b=>wK a++wK b
 | .block _ a=>wK a
 | .loop a=>wK a
 | _=>[]
structure q8 where
 gh:List Gh
 ps:List It
 sh:uh
 ws:List Way
 F:jX ps->sh.den->T (fZ ws)
inductive z6A where
 | flat (fH:List It)
 | ways (ws:List Way)
 | Bg
structure Hints where
 loop:Nat->Option q8
 cut:Nat->Nat->Option z6A
 frz:Nat->List Nat
def rG:Code->Option Nat
 | .region id _ _=>some id
 | .seq a b=>match rG a with | some n=>some n | none=>rG b
 | .cond _ a b=>match rG a with | some n=>some n | none=>rG b
 | .block _ a=>rG a
 | .loop a=>rG a
 | _=>none
def keyOf(x:Code):Nat×Nat:=(match x with | .region .. => 0 | .cond .. => 1 | .block .. => 2 | _=>3,match rG x with | some n=>n | none=>0)
def zbP(l:List Nat)(s:Nat):Bool := !(l.any (U s))
def YD:Dk->Bool
 | .sub _ _=>false
 | .st _=>false
 | .mclo _ _=>false
 | _=>true
def MM(ps:List It)(ws:List Nat):Bool:=ps.all λi=>match i with
 | .s t k=>YD k&&zbP ws t
 | _=>false
def Dj{α:Type}:T α->Option α
 | .ret a=>some a
 | .ite _ t e=>match Dj t with | some a=>some a | none=>Dj e
 | .W _ t=>Dj t
 | .fail=>none
def Ib{α β:Type}(f:α->β):T α->T β
 | .ret a=>.ret (f a)
 | .ite b t e=>.ite b (Ib f t) (Ib f e)
 | .W p t=>.W p (Ib f t)
 | .fail=>.fail
def z0e:(l:List It)->jX l->T (jX l)->jX l
 | [],_,_=>()
 | [_],d,t=>T.val d t
 | _::j::r,d,t=>(T.val d.1 (Ib Prod.fst t),z0e (j::r) d.2 (Ib Prod.snd t))
def z1g(l:List It)(t:T (jX l)):T (jX l):=match Dj t with
 | some d=>match t.Jm with
  | none=>.ret (z0e l d t)
  | some p=>.W p (.ret (z0e l d t))
 | none=>.fail
def Cr(l:List It):Bool:=l.all λi=>match i with
 | .s _ k=>YD k
 | _=>false
structure Lg where
 ex:Ex
 fr:Fr
 kn:Kn
 st:St
 q:Bool      -- the store has not been written
def quiet(ks:List Nat):Bool:=ks.all λk => !(U k 2)
structure zfL where
 e:Ty
 l:List (den e)
 m:Nat
 s:Nat
 c:Nat
 eq:Bool
def z3E:BinOp->Option Bool
 | .eql=>some true
 | .neq=>some false
 | _=>none
def Mh:Operand->Bool
 | .const (.slice none 0 0)=>true
 | _=>false
def DO(c:Ctx)(n:Nat)(ops:Array Oper)(fr:Fr):Option zfL:=match ops.toList with
 | [o1,o2]=>match o1.dst,o1.op,o1.guard with
  | some m,.move (.tmp s),none=>match o2.dst,o2.op,o2.guard with
   | some cc,.binOp op t (.tmp m') y _,none=>match z3E op,fr.get s,np c t with
    | some b,some (.qs (.sl e) l),some _=>bif U m m'&&Mh y&&zO m n&&zO cc n then some ⟨e,l,m,s,cc,b⟩else none
    | _,_,_=>none
   | _,_,_=>none
  | _,_,_=>none
 | _=>none
def opsOf:Code->Option (Array Oper)
 | .region _ ops false=>some ops
 | _=>none
section
variable (c:Ctx) (tab:lO)
variable [V4]
def V0{α:Type}(n:Nat)(o:Oper)(s:oL)(k:oL->T α)(kp:D->St->T α):T α :=
 bif gu n o.dst then match o.op with
  | .call cl=>match cl.callee with
   | .value f=>D2 tab (bB s.fr f) (cl.args.toList.map (bB s.fr)) s.st (λkd d qt=>k ⟨s.fr.put o.dst d,Bi s.kn o.dst none,qt,kd::s.ks,vA c (bB s.fr) s.st o::s.bk⟩) kp
   | _=>let cl:=QS c s.kn s.fr o
    (qx cl s.st).bind λr=>k ⟨s.fr.put o.dst r.1,Bi s.kn o.dst (Bc s.kn o.op),r.2,cl.kind::s.ks,vA c (bB s.fr) s.st o::s.bk⟩
  | .panic x=>match bB s.fr x with
   | some (.iface t d)=>kp (.iface t d) s.st
   | _=>.fail
  | _=>let cl:=QS c s.kn s.fr o
   (qx cl s.st).bind λr=>k ⟨s.fr.put o.dst r.1,Bi s.kn o.dst (Bc s.kn o.op),r.2,cl.kind::s.ks,vA c (bB s.fr) s.st o::s.bk⟩
 else .fail
def N0{α:Type}(n:Nat)(ops:Array Oper)(o:Oper)(s:oL)(k:oL->T α)(kp:D->St->T α):T α:=match o.guard with
 | none=>V0 c tab n o s k kp
 | some (j,want)=>match bE ops j with
  | none=>.fail
  | some t=>match s.kn.get t with
   | some b=>bif b==want then V0 c tab n o s k kp else bif gu n o.dst then k (cS o s)else .fail
   | none=>match s.fr.get t with
    | some (.qs .bool x)=>bif gu n o.dst then
      .ite x (bif want then V0 c tab n o (s.lE t true) k kp else k (cS o (s.lE t true)))
          (bif want then k (cS o (s.lE t false))else V0 c tab n o (s.lE t false) k kp)
     else .fail
    | some (.eO [])=>bif gu n o.dst then k (cS o s)else .fail
    | _=>.fail
def YF{α:Type}(n:Nat)(ops:Array Oper):List Oper->oL->(oL->T α)->(D->St->T α)->T α
 | [],s,k,_=>k s
 | o::l,s,k,kp=>N0 c tab n ops o s (λs'=>YF n ops l s' k kp) kp
def Hk{α:Type}(n:Nat)(ops:Array Oper)(draw:Bool)(fr:Fr)(kn:Kn)(st:St)(k:oL->T α)(kp:D->St->T α):T α :=
 YF c tab n ops ops.toList ⟨fr,kn,st,[],[]⟩ (λs=>bif !draw||VH ops s.ks.reverse s.bk.reverse then k s else .fail) (λd qt=>bif draw then .fail else kp d qt)
def Uj(n:Nat)(H:Hints):Code->Fr->Kn->St->{α:Type}->(Lg->T α)->T α
 | .skip,fr,kn,st,_,k=>k ⟨.normal,fr,kn,st,true⟩
 | .region id ops draw,fr,kn,st,_,k=>(frz (H.frz id) fr st).bind λz=>Hk c tab n ops draw z.1 kn z.2 (λs=>k ⟨.normal,s.fr,s.kn,s.st,quiet s.ks&&(H.frz id).isEmpty⟩) (λd qt=>k ⟨.bh d,[],[],qt,false⟩)
 | .seq a b,fr,kn,st,_,k=>match H.cut (keyOf a).1 (keyOf a).2 with
  | none=>Uj n H a fr kn st λr=>match r.ex with
   | .normal=>Uj n H b r.fr r.kn r.st λo=>k { o with q:=r.q&&o.q }
   | _=>k r
  | some (.flat fH)=>bif Cr fH then
    (z1g fH (Uj n H a fr kn st λo=>match o.ex with
     | .normal=>bif o.q then CH o.fr o.st fH []else .fail
     | _=>.fail)).bind λx=>Uj n H b (nD st fH x++(oF (wK a)++fr)) [] st k
   else .fail
  | some .Bg=>match opsOf a with
   | none=>.fail
   | some ops=>match DO c n ops fr with
    | none=>.fail
    | some p =>
     let non:=Uj n H b ((p.c,some (.qs .bool (!p.eq)))::(p.m,some (.qs (.sl p.e) p.l))::fr) [(p.c,some (!p.eq))] st k
     .W (p.l=[]->∀ r,non.leads r->(Uj n H b ((p.c,some (.qs .bool p.eq))::(p.m,some .wJ)::(p.s,some .wJ)::fr) [(p.c,some p.eq)] st k).leads r) non
  | some (.ways ws)=>bif ws.all λw=>zM st.length w.sh.bs.length then
    (Uj n H a fr kn st λo=>DC ws o.ex (HZ o.ex o.fr) o.st).bind λr=>NQ ws r λex out qt=>match Fo ex out with
     | none=>.fail
     | some z=>match z.1 with
      | .normal=>Uj n H b (z.2++(oF (wK a)++fr)) [] qt λo=>k { o with q:=false }
      | e=>k ⟨e,z.2++(oF (wK a)++fr),[],qt,false⟩
   else .fail
 | .cond x a b,fr,kn,st,_,k=>match rL kn x with
  | some true=>Uj n H a fr kn st k
  | some false=>Uj n H b fr kn st k
  | none=>match x with
   | .tmp t=>match fr.get t with
    | some (.qs .bool v)=>.ite v (Uj n H a fr ((t,some true)::kn) st k) (Uj n H b fr ((t,some false)::kn) st k)
    | _=>.fail
   | _=>.fail
 | .block id (.loop b),fr,_,st,_,k=>match H.loop id with
  | none=>.fail
  | some l=>let g:=gh l.gh fr st
   bif zM g.2.length l.sh.bs.length&&MM l.ps (wK b)&&l.ws.all λw=>zM l.sh.bs.length w.sh.bs.length then
    (CH g.1 g.2 l.ps []).bind λp=>(l.sh.un g.1 g.2).bind λs=>(l.F p s).bind λr=>NQ l.ws r λex out qt=>match Fo ex out with
     | none=>.fail
     | some z=>match z.1 with
      | .exit id'=>bif U id' id then k ⟨.normal,z.2++(oF (wK b)++g.1),[],qt,false⟩else k ⟨.exit id',z.2++(oF (wK b)++g.1),[],qt,false⟩
      | .normal=>.fail
      | e=>k ⟨e,z.2++(oF (wK b)++g.1),[],qt,false⟩
   else .fail
 | .block id a,fr,kn,st,_,k=>Uj n H a fr kn st λr=>match r.ex with
  | .exit id'=>bif U id' id then k { r with ex:=.normal } else k r
  | _=>k r
 | .exit id,fr,kn,st,_,k=>k ⟨.exit id,fr,kn,st,true⟩
 | .ret,fr,kn,st,_,k=>k ⟨.ret,fr,kn,st,true⟩
 | _,_,_,_,_,_=>.fail
def z4p(n:Nat)(H:Hints)(l:q8)(b:Code)(p:jX l.ps)(s:l.sh.den):T (l.sh.den⊕fZ l.ws) :=
 Uj c tab n H b (l.sh.fr s++nD (l.sh.st s) l.ps p) [] (l.sh.st s) λo=>match o.ex with
  | .normal=>(l.sh.un o.fr o.st).bind λs'=>.ret (.inl s')
  | e=>(DC l.ws e (HZ e o.fr) o.st).bind λr=>.ret (.inr r)
def z1e(H:Hints)(fn:Func)(code:Code)(d:EE)(x:eo d.ps):T (Et d.rs) :=
 bif zM (Ke d.ps x).length fn.ntmps then
  Uj c tab fn.ntmps H code (yw (Ke d.ps x) 0) [] [] λo=>match o.ex with
   | .normal=>(nK c o.fr o.st fn.results.toList).bind λds=>z4O o.st d.rs ds
   | .ret=>(nK c o.fr o.st fn.results.toList).bind λds=>z4O o.st d.rs ds
   | _=>.fail
 else .fail
def z45:List (Nat×Ck)->List Gh
 | []=>[]
 | (s,.cur _ e)::r=>.slot s e::z45 r
 | _::r=>z45 r
def msB:D->Option Nat
 | .ms b _ _ _ _=>some b
 | _=>none
def zrr:Option cU->List D
 | some (.var d)=>we d
 | _=>[]
def z01(st:St):List D->List Nat
 | []=>[]
 | .ms b _ _ _ _::r=>b::z01 st r
 | .ptr b _::r=>b::((zrr st[b]?).filterMap msB++z01 st r)
 | .agg l::r=>l.filterMap msB++z01 st r
 | _::r=>z01 st r
def z9X(m:Nat):List Nat->List Nat->List Nat
 | seen,[]=>seen
 | seen,b::r=>bif zM m b&&(match pos seen b with | none=>true | some _=>false)then z9X m (seen++[b]) r else z9X m seen r
def canon(m:Nat)(ds:List D)(st:St):List D×St :=
 let mp:=zX m++z9X m [] (z01 st ds)
 match iV st mp with
 | some l=>match oG (pos mp) l,W6 (pos mp) ds with
  | some dN,some ds1=>bif cR mp then(ds1,dN)else(ds,st)
  | _,_=>(ds,st)
 | none=>(ds,st)
def kt:List Sk->List D->St->List D×St
 | .row _ e::ks,.wJ::l,st=>bif zO 0 e.size then((.ms st.length 0 e 0 0)::(kt ks l (st++[.arr 0 e []])).1,(kt ks l (st++[.arr 0 e []])).2)
  else(.wJ::(kt ks l st).1,(kt ks l st).2)
 | _::ks,d::l,st=>(d::(kt ks l st).1,(kt ks l st).2)
 | _,l,st=>(l,st)
def z06:List It->Nat->List Sk
 | [],_=>[]
 | .s t (.st ks)::r,i=>bif U t i then ks else z06 r i
 | _::r,i=>z06 r i
def tS(fH:List It):Nat->List D->St->List D×St
 | _,[],st=>([],st)
 | i,.agg l::ds,st=>(.agg (kt (z06 fH i) l st).1::(tS fH (i+1) ds (kt (z06 fH i) l st).2).1,(tS fH (i+1) ds (kt (z06 fH i) l st).2).2)
 | i,d::ds,st=>(d::(tS fH (i+1) ds st).1,(tS fH (i+1) ds st).2)
def E4(out:uh)(m:Nat)(ds:List D)(st:St):List D×St :=
 bif (out.fH.all λ| .s _ (.st _)=>false | _=>true)&&(out.cs.all λ| (_,.ptr _ _)=>false | (_,.cur _ _)=>false | _=>true)then(ds,st)
 else canon m (tS out.fH 0 (canon m ds st).1 (canon m ds st).2).1 (tS out.fH 0 (canon m ds st).1 (canon m ds st).2).2
def Vu(out:uh)(m nr:Nat)(ds:List D)(st:St):T out.den :=
 bif U ds.length nr then(out.un (gh (z45 out.cs) (yw (E4 out m ds st).1 0) (E4 out m ds st).2).1 (gh (z45 out.cs) (yw (E4 out m ds st).1 0) (E4 out m ds st).2).2).bind λy =>
  bif (pe nr (out.fr y)).isSome then .ret y else .fail else .fail
def LS(H:Hints)(fn:Func)(code:Code)(d:ba)(x:d.sh.den):T d.out.den :=
 bif zM d.ks.length fn.ntmps&&zM d.sh.bs.length d.out.bs.length then
  Uj c tab fn.ntmps H code (d.sh.fr x) [] (d.sh.st x) λo=>match o.ex with
   | .normal=>(nK c o.fr o.st fn.results.toList).bind λds=>Vu d.out (d.sh.st x).length d.nr ds o.st
   | .ret=>(nK c o.fr o.st fn.results.toList).bind λds=>Vu d.out (d.sh.st x).length d.nr ds o.st
   | _=>.fail
 else .fail
def zbi:List D->Bool
 | .gx::_=>true
 | .wJ::_=>true
 | .agg (.wJ::_)::_=>true
 | _=>false
def zaj(d:lN)(m:Nat)(ds:List D)(st:St):T (d.out.den⊕d.bh.den):=match d.two with
 | some n=>bif zbi ds then(Vu d.bh m n ds st).bind λz=>.ret (.inr z)else(Vu d.out m d.nr ds st).bind λy=>.ret (.inl y)
 | none=>(Vu d.out m d.nr ds st).bind λy=>.ret (.inl y)
def LR(H:Hints)(fn:Func)(code:Code)(d:lN)(x:d.sh.den):T (d.out.den⊕d.bh.den) :=
 bif zM d.ks.length fn.ntmps&&zM d.sh.bs.length d.out.bs.length&&zM d.sh.bs.length d.bh.bs.length then
  Uj c tab fn.ntmps H code (d.sh.fr x) [] (d.sh.st x) λo=>match o.ex with
   | .normal=>(nK c o.fr o.st fn.results.toList).bind λds=>zaj d (d.sh.st x).length ds o.st
   | .ret=>(nK c o.fr o.st fn.results.toList).bind λds=>zaj d (d.sh.st x).length ds o.st
   | .bh p=>match p with
    | .iface t v=>bif U t d.pt&&d.two.isNone then(d.bh.un [(0,some v)] o.st).bind λz=>match(d.bh.fr z).get 0 with | some _=>.ret (.inr z) | none=>.fail else .fail
    | _=>.fail
   | _=>.fail
 else .fail
end
end Go.AM
namespace Go.AM
set_option linter.unusedSectionVars false
variable [gp]
open Go.RowKit
section
variable {n:Nat}
theorem z4r{st:St}{τ:Ty}{d:D}{x:den τ}(h:(rpX st τ d).leads x):(QN st τ d).leads (.vH τ x):=by
 cases d with
 | vH σ y =>
  simp only[rpX]at h
  simp only[QN]
  cases hy:(jV y:Option (den τ))with
  | none=>rw[hy]at h; exact h.elim
  | some z=>rw[hy]at h; cases h; rfl
 | ptr b off =>
  simp only[rpX]at h
  simp only[QN]
  cases I:st[b]? with
  | none=>rw[I]at h; exact h.elim
  | some B =>
   rw[I]at h
   cases B with
   | var d =>
    simp only at h ⊢
    cases hy:(bif U off 0 then oQ τ d else none)with
    | none=>rw[hy]at h; exact h.elim
    | some z=>rw[hy]at h; cases h; rfl
   | _=>exact h.elim
 | _=>exact h.elim
theorem NH{st:St}{p:JO}{d:D}{x:den p.ty}(h:(z6N st p d).leads x):(Xi st p d).leads (Cd p x):=by
 cases p with
 | rp τ=>exact z4r h
 | im τ=>exact T.zi.2 ⟨x,h,rfl⟩
theorem F4{st:St}:∀ (l:List JO) (ds:List D) (x:fY l),(NI st l ds).leads x->(mH st l ds).leads (Qg l x)
 | [],[],x,h=>rfl
 | [],_::_,x,h=>h.elim
 | [p],[],x,h=>h.elim
 | [p],[d],x,h=>T.zi.2 ⟨_,NH h,T.zi.2 ⟨[],rfl,rfl⟩⟩
 | [p],_::_::_,x,h=>h.elim
 | p::q::r,[],x,h=>h.elim
 | p::q::r,d::ds,x,h=>by
  obtain⟨y,h1,X⟩:=T.zi.1 h
  obtain⟨z,h3,h4⟩:=T.zi.1 X
  cases h4
  exact T.zi.2 ⟨_,NH h1,T.zi.2 ⟨_,F4 (q::r) ds z h3,rfl⟩⟩
theorem z4N{st:St}{p:Ui}{d:D}{x:p.den}(h:(unP st p d).leads x):(F8 st p d).leads (mkP p x):=by
 cases p with
 | ty τ=>cases d<;>exact T.zi.2 ⟨x,h,rfl⟩
 | rp τ =>
  have:=z4r h
  cases d<;>exact this
 | wo f caps =>
  cases d with
  | wo f' l =>
   simp only[unP]at h
   simp only[F8]
   cases I:U f f' with
   | false=>rw[I]at h; exact h.elim
   | true=>rw[I]at h; exact T.zi.2 ⟨_,F4 caps l x h,rfl⟩
  | _=>exact h.elim
theorem YJ{st:St}:∀ (l:List Ui) (ds:List D) (x:eo l),(IS st l ds).leads x->(QM st l ds).leads (Ke l x)
 | [],[],x,h=>rfl
 | [],_::_,x,h=>h.elim
 | [p],[],x,h=>h.elim
 | [p],[d],x,h=>T.zi.2 ⟨_,z4N h,T.zi.2 ⟨[],rfl,rfl⟩⟩
 | [p],_::_::_,x,h=>h.elim
 | p::q::r,[],x,h=>h.elim
 | p::q::r,d::ds,x,h=>by
  obtain⟨y,h1,X⟩:=T.zi.1 h
  obtain⟨z,h3,h4⟩:=T.zi.1 X
  cases h4
  exact T.zi.2 ⟨_,z4N h1,T.zi.2 ⟨_,YJ (q::r) ds z h3,rfl⟩⟩
theorem Fa(st:St)(τ:Ty)(x:den τ):(Ux st τ (.qs τ x)).leads x:=by
 refine T.zi.2 ⟨.qs τ x,rfl,?_⟩
 rw[T.yA]
 exact Xf x
theorem z4q(st:St)(τ:Ty)(x:den τ):(rpX st τ (.vH τ x)).leads x:=by
 simp only[rpX]; rw[Xf]; rfl
theorem NG(st:St)(p:JO)(x:den p.ty):(z6N st p (Cd p x)).leads x:=by
 cases p with
 | rp τ=>exact z4q st τ x
 | im τ=>exact Fa st τ x
theorem F3(st:St):∀ (l:List JO) (x:fY l),(NI st l (Qg l x)).leads x
 | [],_=>rfl
 | [p],x=>NG st p x
 | p::q::r,x=>T.zi.2 ⟨x.1,NG st p x.1,T.zi.2 ⟨x.2,F3 st (q::r) x.2,rfl⟩⟩
theorem z4M(st:St)(p:Ui)(x:p.den):(unP st p (mkP p x)).leads x:=by
 cases p with
 | ty τ=>exact Fa st τ x
 | rp τ=>exact z4q st τ x
 | wo f caps=>simp only[unP,mkP]; rw[qS]; exact F3 st caps x
theorem Ej(st:St):∀ (l:List Ui) (x:eo l),(IS st l (Ke l x)).leads x
 | [],_=>rfl
 | [p],x=>z4M st p x
 | p::q::r,x=>T.zi.2 ⟨x.1,z4M st p x.1,T.zi.2 ⟨x.2,Ej st (q::r) x.2,rfl⟩⟩
def eN:D->Option Nat | .wo f _=>some f | _=>none
theorem z6X(p:Ui){d e:D}(h:eN d=eN e):zcQ p d=zcQ p e:=by
 cases d<;>cases e<;>simp only[eN]at h<;>first | (cases h; done) | (cases p<;>first | rfl | (cases h; rfl))
theorem NR:∀ (ps:List Ui) {l m:List D},l.map eN=m.map eN->fits ps l=fits ps m
 | [],[],[],_=>rfl
 | [],_::_,_::_,_=>rfl
 | _,[],_::_,h=>by cases h
 | _,_::_,[],h=>by cases h
 | _::_,[],[],_=>rfl
 | p::ps,d::l,e::m,h=>by
  simp at h
  simp only[fits,z6X p h.1,NR ps h.2]
theorem z0Y{st:St}{τ:Ty}{f:Nat}{l:List D}{x:den τ}(h:(Ux st τ (.wo f l)).leads x):False:=by
 obtain⟨y,h1,X⟩:=T.zi.1 h
 cases h1
 rw[T.yA]at X
 cases τ<;>simp[oQ,D.isAgg,Ty.isAgg,we,cT,pU]at X
theorem CI{st:St}{p:Ui}{d:D}{x:p.den}(h:(unP st p d).leads x):eN d=eN (mkP p x):=by
 cases p with
 | ty τ=>cases d<;>first | rfl | exact(z0Y h).elim
 | rp τ=>cases d<;>first | rfl | exact h.elim
 | wo f caps =>
  cases d with
  | wo f' l =>
   simp only[unP]at h
   cases I:U f f' with
   | false=>rw[I]at h; exact h.elim
   | true=>rw[zA I]; rfl
  | _=>exact h.elim
theorem HE{st:St}:∀ (l:List Ui) (ds:List D) (x:eo l),(IS st l ds).leads x->ds.map eN=(Ke l x).map eN
 | [],[],x,h=>rfl
 | [],_::_,x,h=>h.elim
 | [p],[],x,h=>h.elim
 | [p],[d],x,h=>by show[eN d]=[eN (mkP p x)]; rw[CI h]
 | [p],_::_::_,x,h=>h.elim
 | p::q::r,[],x,h=>h.elim
 | p::q::r,d::ds,x,h=>by
  obtain⟨y,h1,X⟩:=T.zi.1 h
  obtain⟨z,h3,h4⟩:=T.zi.1 X
  cases h4
  show eN d::ds.map eN=eN (mkP p y)::(Ke (q::r) z).map eN
  rw[CI h1,HE (q::r) ds z h3]
def dat(d:D):Bool:=match d with | .qs _ _=>true | .vH _ _=>true | .wo _ _=>true | _=>false
theorem Rf(p:Ui)(x:p.den):dat (mkP p x)=true:=by cases p<;>rfl
theorem Ig:∀ (l:List Ui) (x:eo l),∀ d∈Ke l x,dat d=true
 | [],x,d,h=>by cases h
 | [p],x,d,h=>by have h:d∈[mkP p x]:=h; rw[zL]at h; subst h; exact Rf p x
 | p::q::r,x,d,h=>by
  rcases zH.1 h with rfl | h
  ·exact Rf p x.1
  ·exact Ig (q::r) x.2 d h
theorem z1f{a:AK}{d e:D}(h:eN d=eN e)(J:dat e=true)(hf:zcR a e=true):zcR a d=true:=by
 cases e with
 | qs τ x=>cases a<;>first | (cases hf; done) | (cases d<;>first | rfl | (cases h; done))
 | vH τ x=>cases a<;>first | (cases hf; done) | (cases d<;>first | rfl | (cases h; done))
 | wo f l=>cases a<;>first | (cases hf; done) | (cases d<;>first | (cases h; exact hf) | cases h)
 | _=>cases J
theorem K3:∀ {ks:List AK} {l m:List D},l.map eN=m.map eN->(∀ d∈m,dat d=true)->QT ks m=true->QT ks l=true
 | [],[],[],_,_,_=>rfl
 | [],_::_,[],h,_,_=>by cases h
 | [],_,_::_,_,_,hf=>by cases hf
 | _::_,_,[],_,_,hf=>by cases hf
 | k::ks,[],_::_,h,_,_=>by cases h
 | k::ks,d::l,e::m,h,J,hf=>by
  simp at h
  simp only[QT,M]at hf ⊢
  exact⟨z1f h.1 (J e zQ) hf.1,K3 h.2 (λx N=>J x (zI _ N)) hf.2⟩
theorem lO.find_eq:∀ (t:lO) (g:Nat) {l m:List D} {d:EE},l.map eN=m.map eN->(∀ d∈m,dat d=true)->t.find g l=some (.d d)->t.find g m=some (.d d)
 | [],_,_,_,_,_,_,h=>h
 | (g',.d d')::r,g,l,m,d,h,hm,hf=>by
  simp only[lO.find,FnE.fits]at hf ⊢
  rw[<- NR d'.ps h]
  cases I:U g' g&&fits d'.ps l with
  | true=>grind
  | false=>rw[I,cond_false]at hf; rw[cond_false]; exact lO.find_eq r g h hm hf
 | (g',.s d')::r,g,l,m,d,h,hm,hf=>by
  simp only[lO.find,FnE.fits]at hf ⊢
  cases I:U g' g&&QT d'.ks l with
  | true=>grind
  | false =>
   rw[I,cond_false]at hf
   have:(U g' g&&QT d'.ks m)=false:=by
    cases hg:U g' g with
    | false=>rfl
    | true =>
     rw[hg]at I
     cases hk:QT d'.ks m with
     | false=>rfl
     | true=>rw[K3 h hm hk]at I; cases I
   rw[this,cond_false]
   exact lO.find_eq r g h hm hf
 | (g',.p d')::r,g,l,m,d,h,hm,hf=>by
  simp only[lO.find,FnE.fits]at hf ⊢
  cases I:U g' g&&QT d'.ks l with
  | true=>grind
  | false =>
   rw[I,cond_false]at hf
   have:(U g' g&&QT d'.ks m)=false:=by
    cases hg:U g' g with
    | false=>rfl
    | true =>
     rw[hg]at I
     cases hk:QT d'.ks m with
     | false=>rfl
     | true=>rw[K3 h hm hk]at I; cases I
   rw[this,cond_false]
   exact lO.find_eq r g h hm hf
theorem lO.UK:∀ {t:lO} {g:Nat} {l:List D} {d:FnE},t.find g l=some d->(g,d)∈t
 | [],_,_,_,h=>by cases h
 | (g',d')::r,g,l,d,h=>by
  simp only[lO.find]at h
  cases I:U g' g&&d'.fits l with
  | true =>
   rw[I,cond_true]at h
   cases h
   simp only[M]at I
   rw[zA I.1]
   simp
  | false=>rw[I,cond_false]at h; exact zI _ (lO.UK h)
def zy(P:Program)(g:Nat)(d:EE):Prop:=∀ (O:KS) (x:eo d.ps) (xc:List Value) (y:Et d.rs),O.st=[]->(d.F x).leads y->Inv O->wQ O (Ke d.ps x) xc ->
 gH P g xc.toArray O.w λe w'=>∃ E:KS,E.w=w'/\E.st=[]/\Inv E/\Ext O E/\jo E (.ret (J0 d.rs y)) e
def EF(P:Program)(g:Nat):FnE->Prop
 | .d d=>zy P g d
 | .s d=>xw P g d
 | .p d=>jI P g d
def eG(P:Program)(t:lO):Prop:=∀ p∈t,EF P p.1 p.2
theorem z0b(P:Program):eG P []:=by nofun
theorem Ed{P:Program}{g:Nat}{d:FnE}{t:lO}(h:EF P g d)(ht:eG P t):eG P ((g,d)::t):=by
 intro p hp
 rcases zH.1 hp with rfl | hp
 ·exact h
 ·exact ht p hp
theorem N6{P:Program}{g:Nat}{d:EE}{t:lO}(h:zy P g d)(ht:eG P t):eG P ((g,.d d)::t):=Ed (d:=.d d) h ht
theorem IN{P:Program}{g:Nat}{d:ba}{t:lO}(h:xw P g d)(ht:eG P t):eG P ((g,.s d)::t):=Ed (d:=.s d) h ht
theorem IM{P:Program}{g:Nat}{d:lN}{t:lO}(h:jI P g d)(ht:eG P t):eG P ((g,.p d)::t):=Ed (d:=.p d) h ht
theorem EE.snd{P:Program}{g:Nat}{d:EE}(h:zy P g d):Es P g d.S:=by
 intro O args xc rs qt R hI ha
 unfold EE.S at R
 split at R
 ·rename_i ud
  obtain⟨x,h1,X⟩:=T.zi.1 R
  obtain⟨y,h3,h4⟩:=T.zi.1 X
  cases h4
  exact h O x xc y ud h3 hI (JT ha (YJ _ _ _ h1))
 ·exact R.elim
theorem DK{P:Program}{xid:Nat}{tab:lO}{ro:Nat->Bool}(h:eG P tab):∀ g,Es (gW P xid tab ro).P g ((gW P xid tab ro).fn g):=by
 intro g O args xc rs qt R hI ha
 simp only[gW,lO.call]at R
 split at R
 ·rename_i d J
  exact EE.snd (h _ (lO.UK J):EF P g (.d d)) O args xc rs qt R hI ha
 ·rename_i d J
  exact ba.snd (h _ (lO.UK J):EF P g (.s d)) O args xc rs qt R hI ha
 ·rename_i d J
  exact lN.snd (h _ (lO.UK J):EF P g (.p d)) O args xc rs qt R hI ha
 ·exact R.elim
section
variable {P:Program} {xid:Nat} {tab:lO} {ro:Nat->Bool} {α:Type}
def Nx(c:Ctx)(f:Option D)(args:List (Option D))(st:St)(d:D)(qt:St):Prop :=
 ∃ g caps l,f=some (.wo g caps)/\gJ args=some l/\(c.fn (eD g) (bQ g l caps) st).leads (.bh d,qt)
def Ny(c:Ctx)(o:Oper)(s:oL)(d:D)(qt:St):Prop :=
 (∃ x t e,o.op=.panic x/\bB s.fr x=some d/\d=.iface t e/\qt=s.st) \/
 ∃ f args sS,o.op=.call ⟨.value f,args,sS⟩/\Nx c (bB s.fr f) (args.toList.map (bB s.fr)) s.st d qt
theorem LG{f:Option D}{args:List (Option D)}{st:St}{k:Nat->Option D->St->T α}{kp:D->St->T α}{r:α}(h:(D2 tab f args st k kp).leads r) :
  (∃ d qt,(qx (eZ (gW P xid tab ro) f args) st).leads (d,qt)/\(k (eZ (gW P xid tab ro) f args).kind d qt).leads r) \/
  ∃ d qt,Nx (gW P xid tab ro) f args st d qt/\(kp d qt).leads r:=by
 unfold D2 at h
 split at h
 ·rename_i g caps l R
  unfold zaV at h
  split at h
  ·exact h.elim
  ·rename_i d J
   have Tg:(gW P xid tab ro).sig (eD g) (bQ g l caps)=some ⟨d.ps,d.rs⟩:=by simp only[gW]; rw[J]
   have z1R:eZ (gW P xid tab ro) (some (.wo g caps)) args=eH (gW P xid tab ro) (eD g) ⟨d.ps,d.rs⟩ (bQ g l caps):=by simp only[eZ,R,Tg]
   rw[z1R]
   have hfn:∀ {st0:St} (x:eo d.ps) (y:Et d.rs),(IS st0 d.ps (bQ g l caps)).leads x->(d.F x).leads y->((gW P xid tab ro).fn (eD g) (Ke d.ps x) []).leads (.ret (J0 d.rs y),[]):=by
    intro st0 x y N hy
    simp only[gW,lO.call]
    rw[lO.find_eq tab (eD g) (HE _ _ _ N) (Ig d.ps x) J]
    exact T.zi.2 ⟨x,Ej [] d.ps x,T.zi.2 ⟨y,hy,rfl⟩⟩
   cases hn : !((bQ g l caps).any Kg)with
   | true =>
    rw[hn,cond_true]at h
    obtain⟨x,h1,X⟩:=T.zi.1 h
    obtain⟨y,h3,h4⟩:=T.zi.1 X
    have hc:eH (gW P xid tab ro) (eD g) ⟨d.ps,d.rs⟩ (bQ g l caps)=.val ((QM [] d.ps (bQ g l caps)).bind λl=>((gW P xid tab ro).fn (eD g) l []).bind z4n):=by
     unfold eH; rw[hn]; rfl
    rw[hc]
    refine .inl ⟨_,_,T.zi.2 ⟨_,T.zi.2 ⟨_,YJ _ _ _ h1,T.zi.2 ⟨_,hfn x y h1 h3,rfl⟩⟩,rfl⟩,h4⟩
   | false =>
    rw[hn,cond_false]at h
    obtain⟨x,h1,X⟩:=T.zi.1 h
    obtain⟨y,h3,h4⟩:=T.zi.1 X
    have hc:eH (gW P xid tab ro) (eD g) ⟨d.ps,d.rs⟩ (bQ g l caps)=.rd λst=>(QM st d.ps (bQ g l caps)).bind λl=>((gW P xid tab ro).fn (eD g) l []).bind WU:=by
     unfold eH; rw[hn]; rfl
    rw[hc]
    cases hs:(J0 d.rs y).all WX with
    | false=>rw[hs]at h4; exact h4.elim
    | true =>
     rw[hs]at h4
     refine .inl ⟨_,_,T.zi.2 ⟨_,T.zi.2 ⟨_,YJ _ _ _ h1,T.zi.2 ⟨_,hfn x y h1 h3,?_⟩⟩,rfl⟩,h4⟩
     simp only[WU,hs,cond_true]
     rfl
  ·rename_i d J
   have Tg:(gW P xid tab ro).sig (eD g) (bQ g l caps)=none:=by simp only[gW]; rw[J]
   have z1R:eZ (gW P xid tab ro) (some (.wo g caps)) args=sV (gW P xid tab ro) (eD g) (bQ g l caps):=by simp only[eZ,R,Tg]
   rw[z1R]
   obtain⟨ds,qt,h1,X⟩:=ba.z0v h
   refine .inl ⟨_,qt,T.zi.2 ⟨(.ret ds,qt),?_,rfl⟩,X⟩
   simp only[gW,lO.call]
   grind
  ·rename_i d J
   have Tg:(gW P xid tab ro).sig (eD g) (bQ g l caps)=none:=by simp only[gW]; rw[J]
   have z1R:eZ (gW P xid tab ro) (some (.wo g caps)) args=sV (gW P xid tab ro) (eD g) (bQ g l caps):=by simp only[eZ,R,Tg]
   rw[z1R]
   rcases lN.z0v h with⟨ds,qt,h1,X⟩ | ⟨p,qt,h1,X⟩
   ·refine .inl ⟨_,qt,T.zi.2 ⟨(.ret ds,qt),?_,rfl⟩,X⟩
    simp only[gW,lO.call]
    grind
   ·refine .inr ⟨p,qt,⟨g,caps,l,rfl,R,?_⟩,X⟩
    simp only[gW,lO.call]
    grind
 ·exact h.elim
theorem QF{o:Oper}{s:oL}{k:oL->T α}{kp:D->St->T α}{r:α}(h:(V0 (gW P xid tab ro) tab n o s k kp).leads r) :
  (∃ s',(ly (gW P xid tab ro) n o s).leads s'/\(k s').leads r)\/∃ d qt,Ny (gW P xid tab ro) o s d qt/\(kp d qt).leads r:=by
 unfold V0 at h
 unfold ly
 cases J:gu n o.dst with
 | false=>rw[J]at h; exact h.elim
 | true =>
  rw[J,cond_true]at h
  rw[cond_true]
  obtain⟨dst,op,ty,pos,after,guard⟩:=o
  have gen:((qx (QS (gW P xid tab ro) s.kn s.fr ⟨dst,op,ty,pos,after,guard⟩) s.st).bind λr=>k ⟨s.fr.put dst r.1,Bi s.kn dst (Bc s.kn op),r.2,(QS (gW P xid tab ro) s.kn s.fr ⟨dst,op,ty,pos,after,guard⟩).kind::s.ks,vA (gW P xid tab ro) (bB s.fr) s.st ⟨dst,op,ty,pos,after,guard⟩::s.bk⟩).leads r ->
    ∃ s',(let cl:=QS (gW P xid tab ro) s.kn s.fr ⟨dst,op,ty,pos,after,guard⟩; (qx cl s.st).bind λr=>T.ret (⟨s.fr.put dst r.1,Bi s.kn dst (Bc s.kn op),r.2,cl.kind::s.ks,vA (gW P xid tab ro) (bB s.fr) s.st ⟨dst,op,ty,pos,after,guard⟩::s.bk⟩:oL)).leads s'/\(k s').leads r:=by
   intro h
   obtain⟨x,h1,X⟩:=T.zi.1 h
   exact⟨_,T.zi.2 ⟨x,h1,rfl⟩,X⟩
  cases op with
  | call cl =>
   obtain⟨callee,args,sS⟩:=cl
   cases callee with
   | value f =>
    rcases LG (P:=P) (xid:=xid) (ro:=ro) h with⟨d,qt,h1,X⟩ | ⟨d,qt,h1,X⟩
    ·exact .inl ⟨_,T.zi.2 ⟨(d,qt),h1,rfl⟩,X⟩
    ·exact .inr ⟨d,qt,.inr ⟨f,args,sS,rfl,h1⟩,X⟩
   | _=>grind
  | panic x =>
   simp only at h
   split at h
   ·rename_i t e N
    exact .inr ⟨_,_,.inl ⟨x,t,e,rfl,N,rfl,rfl⟩,h⟩
   ·exact h.elim
  | _=>grind
theorem z07{ops:Array Oper}{o:Oper}{s:oL}{k:oL->T α}{kp:D->St->T α}{r:α}(hkn:yI s.kn s.fr.get)(h:(N0 (gW P xid tab ro) tab n ops o s k kp).leads r) :
  (∃ s',(stepG (gW P xid tab ro) n ops o s).leads s'/\(k s').leads r)\/∃ d qt,jM ops s.fr.get o=some true/\Ny (gW P xid tab ro) o s d qt/\(kp d qt).leads r:=by
 obtain⟨dst,op,ty,pos,after,guard⟩:=o
 cases guard with
 | none =>
  rcases QF h with h | ⟨d,qt,h1,X⟩
  ·exact .inl h
  ·exact .inr ⟨d,qt,rfl,h1,X⟩
 | some jw =>
  obtain⟨j,want⟩:=jw
  simp only[N0]at h
  simp only[stepG]
  cases hg:bE ops j with
  | none=>rw[hg]at h; exact h.elim
  | some t =>
   rw[hg]at h
   simp only at h ⊢
   cases hk:s.kn.get t with
   | some b =>
    rw[hk]at h
    simp only at h ⊢
    have hw:jM ops s.fr.get ⟨dst,op,ty,pos,after,some (j,want)⟩=some (b==want):=by simp[jM,hg,hkn t b hk]
    cases I:b==want with
    | true =>
     rw[I,cond_true]at h; rw[cond_true]
     rcases QF h with h | ⟨d,qt,h1,X⟩
     ·grind
     ·grind
    | false =>
     rw[I,cond_false]at h; rw[cond_false]
     cases J:gu n dst with
     | true=>rw[J,cond_true]at h; exact .inl ⟨_,rfl,h⟩
     | false=>rw[J,cond_false]at h; exact h.elim
   | none =>
    rw[hk]at h
    simp only at h ⊢
    split at h
    ·rename_i x hf
     rw[hf]
     simp only
     have hw:jM ops s.fr.get ⟨dst,op,ty,pos,after,some (j,want)⟩=some (x==want):=by simp[jM,hg,hf]
     cases J:gu n dst with
     | false=>rw[J]at h; exact h.elim
     | true =>
      rw[J,cond_true]at h; rw[cond_true]
      rcases h with⟨N,h⟩ | ⟨N,h⟩
      ·subst N
       cases want with
       | true =>
        rw[cond_true]at h
        rcases QF h with⟨s',h1,X⟩ | ⟨d,qt,h1,X⟩
        ·exact .inl ⟨s',.inl ⟨rfl,h1⟩,X⟩
        ·exact .inr ⟨d,qt,hw,h1,X⟩
       | false=>rw[cond_false]at h; exact .inl ⟨_,.inl ⟨rfl,rfl⟩,h⟩
      ·subst N
       cases want with
       | true=>rw[cond_true]at h; exact .inl ⟨_,.inr ⟨rfl,rfl⟩,h⟩
       | false =>
        rw[cond_false]at h
        rcases QF h with⟨s',h1,X⟩ | ⟨d,qt,h1,X⟩
        ·exact .inl ⟨s',.inr ⟨rfl,h1⟩,X⟩
        ·exact .inr ⟨d,qt,hw,h1,X⟩
    ·rename_i hf
     rw[hf]
     simp only
     cases J:gu n dst with
     | true=>rw[J,cond_true]at h; exact .inl ⟨_,rfl,h⟩
     | false=>rw[J,cond_false]at h; exact h.elim
    ·exact h.elim
def Lh(c:Ctx)(n:Nat)(ops:Array Oper)(l:List Oper)(s:oL)(d:D)(qt:St):Prop :=
 ∃ pre o post s1,l=pre++o::post/\(tY c n ops pre s).leads s1/\jM ops s1.fr.get o=some true/\Ny c o s1 d qt
theorem U9{ops:Array Oper}:∀ (l:List Oper) {s:oL} {k:oL->T α} {kp:D->St->T α} {r:α},yI s.kn s.fr.get->(∀ o∈l,∃ i:Nat,ops[i]? = some o)->(YF (gW P xid tab ro) tab n ops l s k kp).leads r ->
  (∃ s',(tY (gW P xid tab ro) n ops l s).leads s'/\(k s').leads r)\/∃ d qt,Lh (gW P xid tab ro) n ops l s d qt/\(kp d qt).leads r
 | [],s,k,kp,r,_,_,h=>.inl ⟨s,rfl,h⟩
 | o::l,s,k,kp,r,hk,R,h=>by
  rcases z07 hk h with⟨s1,h1,X⟩ | ⟨d,qt,h1,X,h3⟩
  ·obtain⟨i,hi⟩:=R o zQ
   obtain⟨_,_,hk1,_⟩:=Cz hi hk h1
   rcases U9 l hk1 (λo' ho=>R o' (zI _ ho)) X with⟨s2,h3,h4⟩ | ⟨d,qt,⟨pre,o',post,s2,e,g1,g2,g3⟩,h4⟩
   ·exact .inl ⟨s2,T.zi.2 ⟨s1,h1,h3⟩,h4⟩
   ·exact .inr ⟨d,qt,⟨o::pre,o',post,s2,wb,T.zi.2 ⟨s1,h1,g1⟩,g2,g3⟩,h4⟩
  ·exact .inr ⟨d,qt,⟨[],o,l,s,rfl,rfl,h1,X⟩,h3⟩
theorem Bl{ops:Array Oper}{draw:Bool}{fr:Fr}{kn:Kn}{st:St}{k:oL->T α}{kp:D->St->T α}{r:α}(hk:yI kn fr.get)(h:(Hk (gW P xid tab ro) tab n ops draw fr kn st k kp).leads r) :
  (∃ s',(pO (gW P xid tab ro) n ops draw fr kn st).leads s'/\(k s').leads r)\/∃ d qt,draw=false/\Lh (gW P xid tab ro) n ops ops.toList ⟨fr,kn,st,[],[]⟩ d qt/\(kp d qt).leads r:=by
 rcases U9 _ hk (λo ho=>by obtain⟨i,hi,he⟩:=List.getElem_of_mem ho; exact⟨i,wb⟩) h with⟨s',h1,X⟩ | ⟨d,qt,h1,X⟩
 ·cases J : !draw||VH ops s'.ks.reverse s'.bk.reverse with
  | false=>rw[J]at X; exact X.elim
  | true =>
   rw[J,cond_true]at X
   refine .inl ⟨s',T.zi.2 ⟨s',h1,?_⟩,X⟩
   rw[J]; rfl
 ·cases draw with
  | true=>exact X.elim
  | false=>grind
end
end
end Go.AM
namespace Go.AM
set_option linter.unusedSectionVars false
variable [gp] [Bw]
open Go.RowKit
theorem GN{α β:Type}{f:α->β}{t:T α}{x:α}(h:t.leads x):(Ib f t).leads (f x):=by
 induction t with
 | ret a=>exact congrArg f h
 | ite b p q ip iq=>exact s7 h (λh=>⟨h.1,ip h.2⟩) (λh=>⟨h.1,iq h.2⟩)
 | W p t ih=>exact⟨h.1,ih h.2⟩
 | fail=>exact h.elim
theorem S2:∀ (l:List It) (d:jX l) (t:T (jX l)) (x:jX l),t.leads x->z0e l d t=x
 | [],_,_,_,_=>rfl
 | [_],d,t,x,h=>((T.He d t x).1 h).2
 | i::j::r,d,t,x,h=>by
  have h1:=((T.He d.1 _ _).1 (GN (f:=Prod.fst) h)).2
  have X:=S2 (j::r) d.2 _ _ (GN (f:=Prod.snd) h)
  show(T.val d.1 (Ib Prod.fst t),z0e (j::r) d.2 (Ib Prod.snd t))=x
  rw[h1,X]
  exact rfl
theorem TY{α:Type}(t:T α)(h:t.Yh):∃ x,t.leads x:=by
 induction t with
 | ret a=>exact⟨a,rfl⟩
 | ite b p q ip iq =>
  unfold T.Yh at h ip iq
  simp only[T.Jm]at h
  cases b with
  | true =>
   obtain⟨x,N⟩:=ip (wb)
   exact⟨x,.inl ⟨rfl,N⟩⟩
  | false =>
   obtain⟨x,N⟩:=iq (wb)
   exact⟨x,.inr ⟨rfl,N⟩⟩
 | W p t ih =>
  unfold T.Yh at h ih
  simp only[T.Jm]at h
  cases ht:t.Jm with
  | none=>rw[ht]at h ih; obtain⟨x,N⟩:=ih trivial; exact⟨x,h,N⟩
  | some q=>rw[ht]at h ih; obtain⟨x,N⟩:=ih h.2; exact⟨x,h.1,N⟩
 | fail=>exact h.elim
theorem Fu{l:List It}{t:T (jX l)}{x:jX l}(h:(z1g l t).leads x):t.leads x:=by
 unfold z1g at h
 split at h
 ·rename_i d J
  have key:t.Yh->z0e l d t=x->t.leads x:=by
   intro hp hv
   obtain⟨y,hy⟩:=TY t hp
   rw[<- hv,S2 l d t y hy]; exact hy
  split at h
  ·rename_i hn; exact key (by unfold T.Yh; rw[hn]; trivial) h
  ·rename_i p hn; exact key (by unfold T.Yh; rw[hn]; exact h.1) h.2
 ·exact h.elim
def RIs(ws:List Way)(r:fZ ws)(w:Way)(x:w.sh.den):Prop:=∀ {α:Type} (k:Ex->Fr->St->T α),NQ ws r k=k w.ex (w.sh.fr x) (w.sh.st x)
theorem DD:∀ (ws:List Way) (ex:Ex) (fr:Fr) (st:St) (r:fZ ws),(DC ws ex fr st).leads r->∃ w,w∈ws/\∃ x:w.sh.den,RIs ws r w x/\Wa w.ex ex=true/\(w.sh.un fr st).leads x
 | [],_,_,_,_,h=>h.elim
 | [w],ex,fr,st,r,h=>by
  have h:(bif Wa w.ex ex then w.sh.un fr st else .fail:T w.sh.den).leads r:=h
  cases hs:Wa w.ex ex with
  | false=>rw[hs]at h; exact h.elim
  | true=>rw[hs]at h; exact⟨w,qp,r,λk=>rfl,hs,h⟩
 | w::v::ws,ex,fr,st,r,h=>by
  have h:(bif Wa w.ex ex then(w.sh.un fr st).bind λx=>T.ret (qR x:w.sh.den⊕fZ (v::ws))else(DC (v::ws) ex fr st).bind λy=>T.ret (qM y)).leads r:=h
  cases hs:Wa w.ex ex with
  | true =>
   rw[hs]at h
   obtain⟨x,h1,X⟩:=T.zi.1 h
   subst X
   exact⟨w,qp,x,λk=>rfl,hs,h1⟩
  | false =>
   rw[hs]at h
   obtain⟨y,h1,X⟩:=T.zi.1 h
   subst X
   obtain⟨w',k1,x,k2,k3,k4⟩:=DD (v::ws) ex fr st y h1
   exact⟨w',zI _ k1,x,λk=>k2 k,k3,k4⟩
def zcy(O:KS)(n:Nat)(w:Way)(z:w.sh.den)(a:Act)(te:Exit):Prop:=∀ q,Fo w.ex (w.sh.fr z)=some q->Rel O n q.2.get a/\ED O q.1 te
theorem z4Q{κ0 O:KS}{n:Nat}{a:Act}{w:Way}{z:w.sh.den}{oex:Ex}{ofr:Fr}{te:Exit}(N:Ext κ0 O)(hI:Inv O)(hR:Rel O n ofr.get a)(he:ED O oex te)(hs:Wa w.ex oex=true)(R:κ0.st.length<=w.sh.bs.length)
  (h:(w.sh.un (HZ oex ofr) O.st).leads z):∃ κ1:KS,κ1.w=O.w/\κ1.st=w.sh.st z/\Inv κ1/\Ext κ0 κ1/\zcy κ1 n w z a te:=by
 have plain:HZ oex ofr=ofr->(∀ q,Fo w.ex (w.sh.fr z)=some q->q.2=w.sh.fr z/\∀ κ1:KS,ED κ1 q.1 te)->∃ κ1:KS,κ1.w=O.w/\κ1.st=w.sh.st z/\Inv κ1/\Ext κ0 κ1/\zcy κ1 n w z a te:=by
  intro e1 e2
  rw[e1]at h
  obtain⟨κ1,q1,q2,q3,q4,q5,_⟩:=w.sh.Y5 (n:=n) N hI hR R h
  exact⟨κ1,q1,q2,q3,q4,λq hq=>by obtain⟨g1,g2⟩:=e2 q hq; rw[g1]; exact⟨q5,g2 κ1⟩⟩
 cases hw:w.ex with
 | normal =>
  rw[hw]at hs
  cases oex<;>first | (cases hs; done) | skip
  exact plain rfl λq hq=>by rw[hw]at hq; cases hq; exact⟨rfl,λ_=>he⟩
 | ret =>
  rw[hw]at hs
  cases oex<;>first | (cases hs; done) | skip
  exact plain rfl λq hq=>by rw[hw]at hq; cases hq; exact⟨rfl,λ_=>he⟩
 | exit id =>
  rw[hw]at hs
  cases oex<;>first | (cases hs; done) | skip
  rename_i id'
  have:id=id':=zA hs
  subst this
  exact plain rfl λq hq=>by rw[hw]at hq; cases hq; exact⟨rfl,λ_=>he⟩
 | bh p =>
  rw[hw]at hs
  cases p<;>first | (cases hs; done) | skip
  rename_i t p
  cases oex<;>first | (cases hs; done) | skip
  rename_i p'
  cases p'<;>first | (cases hs; done) | skip
  rename_i t' d
  have:t=t':=zA hs
  subst this
  obtain⟨v,rfl,hv⟩:=he
  cases hv with
  | iface _ _ u hu =>
   have BQ:Rel O 1 (HZ (.bh (.iface t d)) ofr).get { tmps := #[u],defers:=Bw.df }:=by
    refine⟨rfl,rfl,λs d' J => ?_⟩
    simp only[HZ,Fr.get]at J
    cases I:U 0 s with
    | true =>
     have:=zA I
     grind
    | false=>grind
   obtain⟨κ1,q1,q2,q3,q4,q5,_⟩:=w.sh.Y5 (n:=1) N hI BQ R h
   refine⟨κ1,q1,q2,q3,q4,λq hq => ?_⟩
   rw[hw]at hq
   simp only[Fo]at hq
   split at hq
   ·rename_i d' eE
    cases hq
    obtain⟨v',g1,g2⟩:=q5.get 0 d' eE
    cases g1
    exact⟨⟨hR.size,hR.defers,λs d J=>by cases J⟩,_,rfl,.iface t d' _ g2⟩
   ·cases hq
theorem Zt(st:St):∀ (bs:List Bk) (bd:List Bd),(jK st bs bd).length<=bs.length
 | [],_=>by simp[jK]
 | .arr _::r,[]=>by simp[jK]
 | .arr _::r,.v _ _::_=>by simp[jK]
 | .arr _::r,.a _ _::d=>by have:=Zt st r d; simp[jK]; exact this
 | .var _::r,[]=>by simp[jK]
 | .var _::r,.a _ _::_=>by simp[jK]
 | .var _::r,.v _ _::d=>by have:=Zt st r d; simp[jK]; exact this
 | .cvar _::r,d=>by have:=Zt st r d; cases d<;>(simp[jK]; exact this)
 | .dead::r,d=>by have:=Zt st r d; cases d<;>(simp[jK]; exact this)
theorem uh.Wc(s:uh)(x:s.den):(s.st x).length<=s.bs.length:=Zt _ _ _
theorem Kz{l m:Fr}{s:Nat}{d:D}(h:(l++m).get s=some d):l.get s=some d\/m.get s=some d:=by
 induction l with
 | nil=>grind
 | cons p r ih =>
  simp only[qJ,Fr.get]at h ⊢
  grind
theorem TP{l:List Nat}{fr:Fr}{s:Nat}{d:D}(h:(oF l++fr).get s=some d):s ∉ l/\fr.get s=some d:=by
 induction l with
 | nil=>exact⟨qp,h⟩
 | cons t r ih =>
  simp only[oF,qI,qJ,Fr.get]at h
  cases ht:U t s with
  | true=>grind
  | false =>
   rw[ht,cond_false]at h
   obtain⟨h1,X⟩:=ih h
   refine⟨?_,X⟩
   simp
   exact⟨λe=>by subst e; simp at ht,h1⟩
theorem UI{o:Oper}{s:Nat}:∀ {l:List Oper},o∈l->o.dst=some s->s∈dstsOf l
 | p::r,h,hs=>by
  simp only[dstsOf]
  rcases zH.1 h with rfl | h
  ·grind
  ·split
   ·exact zI _ (UI h hs)
   ·exact UI h hs
def Kept(code:Code)(a a':Act):Prop:=∀ s:Nat,s ∉ wK code->a'.tmps[s]? = a.tmps[s]?
section
variable {P:Program} {xid:Nat} {tab:lO} {ro:Nat->Bool} {n:Nat} {H:Hints}
theorem WS{O E:KS}{fr out:Fr}{a a':Act}{ws:List Nat}(hR:Rel O n fr.get a)(N:Ext O E)(ho:Rel E n out.get a')(hk:∀ s:Nat,s ∉ ws->a'.tmps[s]? = a.tmps[s]?):Rel E n (out++(oF ws++fr)).get a':=by
 refine⟨ho.size,ho.defers,λs d J => ?_⟩
 rcases Kz J with h | h
 ·exact ho.get s d h
 ·obtain⟨h1,X⟩:=TP h
  obtain⟨v,g1,g2⟩:=hR.get s d X
  exact⟨v,(hk s h1).trans g1,g2.mono N⟩
theorem E8{c:Ctx}{ops:Array Oper}:∀ (l:List Oper) (s s':oL),(tY c n ops l s).leads s'->quiet s'.ks=true->s'.st=s.st/\quiet s.ks=true:=by
 have hq:∀ {k:Nat} {ks:List Nat},quiet (k::ks)=true->U k 2=false/\quiet ks=true:=by
  intro k ks h
  simp only[quiet,zF,M,qF]at h
  exact⟨h.1,by unfold quiet; exact h.2⟩
 have one:∀ (o:Oper) (s s1:oL),(ly c n o s).leads s1->quiet s1.ks=true->s1.st=s.st/\quiet s.ks=true:=by
  intro o s s1 h hk
  unfold ly at h
  cases J:gu n o.dst with
  | false=>rw[J]at h; exact h.elim
  | true =>
   rw[J,cond_true]at h
   obtain⟨r,h1,X⟩:=T.zi.1 h
   cases X
   obtain⟨g1,g2⟩:=hq hk
   refine⟨?_,g2⟩
   show r.2=s.st
   generalize QS c s.kn s.fr o=cl at h1 g1
   cases cl with
   | val t=>obtain⟨d,_,h3⟩:=T.zi.1 h1; cases h3; rfl
   | rd k=>obtain⟨d,_,h3⟩:=T.zi.1 h1; cases h3; rfl
   | wr k=>cases g1
 have skp:∀ (o:Oper) (s:oL),quiet (cS o s).ks=true->(cS o s).st=s.st/\quiet s.ks=true:=λo s h=>⟨rfl,(hq h).2⟩
 have gd:∀ (o:Oper) (s s1:oL),(stepG c n ops o s).leads s1->quiet s1.ks=true->s1.st=s.st/\quiet s.ks=true:=by
  intro o s s1 h hk
  obtain⟨dst,op,ty,pos,after,guard⟩:=o
  cases guard with
  | none=>exact one _ s s1 h hk
  | some jw =>
   obtain⟨j,want⟩:=jw
   simp only[stepG]at h
   cases hg:bE ops j with
   | none=>rw[hg]at h; exact h.elim
   | some t =>
    rw[hg]at h
    simp only at h
    cases hkn:s.kn.get t with
    | some b =>
     rw[hkn]at h
     simp only at h
     cases I:b==want with
     | true=>grind
     | false =>
      rw[I,cond_false]at h
      cases J:gu n dst with
      | false=>rw[J]at h; exact h.elim
      | true=>rw[J,cond_true]at h; cases h; exact skp _ s hk
    | none =>
     rw[hkn]at h
     simp only at h
     split at h
     ·cases J:gu n dst with
      | false=>rw[J]at h; exact h.elim
      | true =>
       rw[J,cond_true]at h
       rcases h with⟨_,h⟩ | ⟨_,h⟩
       ·cases want with
        | true=>rw[cond_true]at h; exact one _ (s.lE t true) s1 h hk
        | false=>rw[cond_false]at h; cases h; exact skp _ (s.lE t true) hk
       ·cases want with
        | true=>rw[cond_true]at h; cases h; exact skp _ (s.lE t false) hk
        | false=>rw[cond_false]at h; exact one _ (s.lE t false) s1 h hk
     ·cases J:gu n dst with
      | false=>rw[J]at h; exact h.elim
      | true=>rw[J,cond_true]at h; cases h; exact skp _ s hk
     ·exact h.elim
 intro l
 induction l with
 | nil=>intro s s' h hk; cases h; exact⟨rfl,hk⟩
 | cons o l ih =>
  intro s s' h hk
  obtain⟨s1,h1,X⟩:=T.zi.1 h
  obtain⟨g1,g2⟩:=ih s1 s' X hk
  obtain⟨k1,k2⟩:=gd o s s1 h1 g2
  exact⟨g1.trans k1,k2⟩
theorem E1{c:Ctx}{ops:Array Oper}{draw:Bool}{fr:Fr}{kn:Kn}{st:St}{s':oL}(h:(pO c n ops draw fr kn st).leads s')(hq:quiet s'.ks=true):s'.st=st:=by
 obtain⟨s1,h1,X⟩:=T.zi.1 h
 cases J:(!draw||VH ops s1.ks.reverse s1.bk.reverse)with
 | false=>rw[J]at X; exact X.elim
 | true=>rw[J,cond_true]at X; cases X; exact(E8 _ _ _ h1 hq).1
theorem z0R{c:Ctx}{O:KS}{a:Act}{o:Oper}{g:Nat}{args:Array Value}{hl:Ending->World->Prop}(jR:(execOp a.eval o).run c.P O.w=(callFunc g args).run c.P O.w)
  (h:gH c.P g args O.w hl) {K:Act->World->Prop} {Q:Exit->Act->World->Prop} (hR:∀ e w',hl e w'->∃ ch,e=.panicked ch/\Q (.panic ch) a w'):o.wp c.P a O.w K Q:=by
 unfold Oper.wp
 rw[jR]
 rcases h with⟨h1,X⟩ | ⟨v,w',h1,X⟩
 ·rw[h1]
  refine X.mono λe w' he => ?_
  grind
 ·grind
theorem z4c{c:Ctx}{O:KS}{n:Nat}{a:Act}{o:Oper}{s:oL}{d:D}{qt:St}(hC:∀ g,Es c.P g (c.fn g))(hI:Inv O)(hR:Rel O n s.fr.get a)(ud:O.st=s.st)(h:Ny c o s d qt){K:Act->World->Prop}{Q:Exit->Act->World->Prop}
  (hQ:∀ (v:Value) (E:KS),E.st=qt->Inv E->Ext O E->RD E d v->Q (.panic [{ v,recovered:=false }]) a E.w):o.wp c.P a O.w K Q:=by
 have lI:∀ (x:Operand) (z:D),bB s.fr x=some z->RD O z (a.eval x):=λx z hz=>hR.eval (by rw[<- iD]; exact hz)
 obtain⟨dst,op,ty,pos,after,guard⟩:=o
 rcases h with⟨x,t,e,rfl,N,rfl,rfl⟩ | ⟨f,args,sS,rfl,g,caps,l,hp,R,hc⟩
 ·have hv:=lI x _ N
  generalize FM:a.eval x=pv at hv
  cases hv with
  | iface _ _ u hu =>
   have jR:(execOp a.eval ⟨dst,.panic x,ty,pos,after,guard⟩).run c.P O.w=.halt (.panic (.iface t u)) O.w:=by
    simp[execOp,FM,Instr.panic]
   unfold Oper.wp
   rw[jR]
   exact hQ _ O ud hI (Ext.refl O) (.iface t e u hu)
 ·have hpv:=lI f _ hp
  have hr:=fN (O:=O) (vs:=args.toList.map a.eval) R (qp) (λi d v J hv=>by
      simp only[List.getElem?_map]at J hv
      cases hi:args.toList[i]? with
      | none=>grind
      | some x=>rw[hi]at J hv; simp at J hv; subst hv; exact lI x d J)
  generalize FM:a.eval f=pv at hpv
  cases hpv with
  | wo _ _ us Zm hh2 =>
   have Q9:=G1 g hr (⟨Zm,hh2⟩:wQ O caps us)
   rw[<- ud]at hc
   refine z0R (c:=c) (O:=O) (g:=eD g) (args:=(bQ g (args.toList.map a.eval) us).toArray) ?_ (hC (eD g) O _ _ _ _ hc hI Q9) ?_
   ·exact F1 FM
   ·rintro e w' ⟨E,rfl,h1,X,h3,v,rfl,h4⟩
    grind
theorem TV{c:Ctx}{O:KS}{n:Nat}{a:Act}{id:Nat}{ops:Array Oper}{fr:Fr}{kn:Kn}{d:D}{qt:St}(hC:∀ g,Es c.P g (c.fn g))(hI:Inv O)(hR:Rel O n fr.get a)(hk:yI kn fr.get)
  (h:Lh c n ops ops.toList ⟨fr,kn,O.st,[],[]⟩ d qt) {Q:Exit->Act->World->Prop}
  (hQ:∀ (v:Value) (a':Act) (E:KS),E.st=qt->Inv E->Ext O E->Rel E n (Fr.get []) a'->pQ ops a a'->RD E d v->Q (.panic [{ v,recovered:=false }]) a' E.w):(Code.region id ops false).wp c.P Q a O.w:=by
 obtain⟨pre,o,post,s1,e,h1,X,h3⟩:=h
 have Tc:∀ j:Nat,ops[j]? = (pre++o::post)[j]? := λj=>by rw[<- e]; simp
 obtain⟨ks,g1,g2,_⟩:=sk pre 0 ⟨fr,kn,O.st,[],[]⟩ s1 (λj=>by
  by_cases hj:j<pre.length
  ·grind
  ·right; omega) hk h1
 have bR:zX ops.size=List.range' 0 pre.length++pre.length::List.range' (pre.length+1) post.length:=by
  have:ops.size=pre.length+(post.length+1):=by rw[<- qB,e]; simp
  rw[this,List.range_eq_range',<- List.range'_append_1,qD,List.range'_succ]
 refine wp_region ?_
 rw[bR]
 refine Ki hC _ _ hI hR rfl g1 λa' E e1 e2 e3 e4 e5 => ?_
 rw[wpOps_cons]
 unfold wpOp
 have ho:ops[pre.length]? = some o:=by rw[Tc]; simp
 rw[ho]
 simp only
 rw[if_pos (ZH e4 X)]
 exact .inl (z4c hC e2 e4 e1 h3 λv κ'' f1 f2 f3 f4=>hQ v a' κ'' f1 f2 (e3.trans f3) ⟨e4.size,e4.defers,λs d J=>by cases J⟩ e5 f4)
def Uo(P:Program)(n:Nat)(l:q8)(b:Code):Prop:=∀ (O:KS) (a:Act) (p:jX l.ps) (s:l.sh.den) (r:fZ l.ws),(l.F p s).leads r->O.st=l.sh.st s->Inv O ->
 Rel O n (l.sh.fr s).get a->Rel O n (nD (l.sh.st s) l.ps p).get a->MM l.ps (wK b)=true->(∀ w∈l.ws,l.sh.bs.length<=w.sh.bs.length) ->
 ∀ Q:Exit->Act->World->Prop,(∀ (w:Way) (x:w.sh.den) (te:Exit) (a':Act) (E:KS),w∈l.ws->RIs l.ws r w x->E.st=w.sh.st x->Inv E->Ext O E->zcy E n w x a' te->Kept b a a'->Q te a' E.w) ->
  (Code.loop b).wp P Q a O.w
def gI(P:Program)(n:Nat)(H:Hints)(code:Code):Prop:=∀ p∈uj code,∀ l,H.loop p.1=some l->Uo P n l p.2
theorem z1k{kn:Kn}:∀ (l:List Nat) {fr:Fr} {st:St} {r:Fr×St},(frz l fr st).leads r->yI kn fr.get->yI kn r.1.get
 | [],fr,st,r,h,hk=>by cases h; exact hk
 | s::l,fr,st,r,h,hk=>by
  obtain⟨x,h1,X⟩:=T.zi.1 h
  refine z1k l X λt b I => ?_
  have hf:=hk t b I
  unfold z7c at h1
  cases hW:zM 1000000 s with
  | true =>
   rw[hW,cond_true]at h1
   have hfr:x.1=fr:=by
    unfold z7a at h1
    split at h1
    ·split at h1
     ·split at h1
      ·split at h1
       ·obtain⟨_,h1⟩:=h1; cases h1; rfl
       ·exact h1.elim
      ·exact h1.elim
     ·cases h1; rfl
    ·cases h1; rfl
   grind
  | false =>
  rw[hW,cond_false]at h1
  unfold z73 at h1
  split at h1
  ·rename_i b' vp e off len hs
   split at h1
   ·split at h1
    ·obtain⟨_,h1⟩:=h1
     cases h1
     simp only[Fr.get]
     cases ht:U s t with
     | true=>rw[<- zA ht,hs]at hf; cases hf
     | false=>grind
    ·exact h1.elim
   ·exact h1.elim
  ·cases h1; exact hf
theorem z4t{c:Ctx}{t e:Nat}(hu:c.P.underlying t=some (.slice e)){op:BinOp}{b:Bool}(hop:z3E op=some b)(px py:Operand)(w:World)(x:Option Addr)(l k:Nat) :
  (do eqGuard op t px py (.slice x l k) (.slice none 0 0); binOp op t (.slice x l k) (.slice none 0 0):Sem Value).run c.P w=.ok (.bool (if b=true then x.isNone else !x.isNone)) w:=by
 cases op<;>simp only[z3E]at hop<;>cases hop
 ·have:=run_eql_slice_nil (P:=c.P) w t e x l k hu
  simp only[eqGuard]
  simpa using this
 ·have:=run_neq_slice_nil (P:=c.P) w t e x l k hu
  simp only[eqGuard]
  simpa using this
theorem My{ops:Array Oper}{fr:Fr}{p:zfL}(hp:DO (gW P xid tab ro) n ops fr=some p){O:KS}{a:Act}{kn:Kn}(hI:Inv O)(hR:Rel O n fr.get a)(hk:yI kn fr.get){id:Nat}(Q:Exit->Act->World->Prop)
  (hQ:∀ a':Act,Kept (.region id ops false) a a' ->
   ((p.l=[]/\Rel O n (Fr.get ((p.c,some (.qs .bool p.eq))::(p.m,some .wJ)::(p.s,some .wJ)::fr)) a')\/Rel O n (Fr.get ((p.c,some (.qs .bool (!p.eq)))::(p.m,some (.qs (.sl p.e) p.l))::fr)) a')->Q .normal a' O.w) :
  (Code.region id ops false).wp P Q a O.w:=by
 unfold DO at hp
 split at hp
 ·rename_i o1 o2 hops
  split at hp
  ·rename_i m s hd1 ho1 hg1
   split at hp
   ·rename_i cc op t m' y ty' hd2 ho2 hg2
    split at hp
    ·rename_i b e l et hop hs hel
     cases hc:U m m'&&Mh y&&zO m n&&zO cc n with
     | false=>grind
     | true =>
      rw[hc,cond_true]at hp
      cases hp
      simp only[M]at hc
      obtain⟨⟨⟨hmm,hy⟩,hmn⟩,hcn⟩:=hc
      have:=zA hmm
      subst this
      have hy':y=.const (.slice none 0 0):=by
       unfold Mh at hy
       grind
      subst hy'
      obtain⟨v,hv,eE⟩:=hR.get s _ hs
      obtain⟨x,k,hvs⟩:∃ (x:Option Addr) (k:Nat),v=.slice x l.length k/\(x=none->l=[]/\k=0):=by
       rcases(eE.jN rfl).tZ with⟨rfl,a0,he⟩ | ⟨blk,off,cap,f,he,ja,js,h1,X⟩
       ·grind
       ·grind
      obtain⟨rfl,hvn⟩:=hvs
      have bR:ops.size=2:=by rw[<- qB,hops]; rfl
      have e0:ops[0]? = some o1:=by rw[<- qO,hops]; rfl
      have e1:ops[1]? = some o2:=by rw[<- qO,hops]; rfl
      have zpp:m<n:=zE hmn
      have zu1:cc<n:=zE hcn
      have hsl:a.tmps.getD s undef=.slice x l.length k:=by simp[qC,hv]
      have wan:∀ (o:Oper) (ys:Nat->Option Value),o.guard=none->True:=λ_ _ _=>trivial
      refine wp_region ?_
      rw[bR,show zX 2=[0,1]from rfl,wpOps_cons]
      unfold wpOp
      rw[e0]
      simp only
      rw[if_pos (by unfold Region.wanted; rw[hg1])]
      refine .inl ?_
      obtain⟨d1,op1,ty1,zeM,af1,gu1⟩:=o1
      obtain⟨d2,op2,CG,zal,af2,gu2⟩:=o2
      simp only at hd1 ho1 hg1 hd2 ho2 hg2
      subst hd1 ho1 hg1 hd2 ho2 hg2
      have hx1:(execOp a.eval ⟨some m,.move (.tmp s),ty1,zeM,af1,none⟩).run P O.w=.ok (.value (.slice x l.length k)) O.w:=by
       simp[execOp,Act.eval,hsl]
      unfold Oper.wp
      rw[hx1,Oper.upon_value,wpOps_cons]
      unfold wpOp
      rw[e1]
      simp only
      rw[if_pos (by unfold Region.wanted; rfl)]
      refine .inl ?_
      have lI:(a.put (some m) (.slice x l.length k)).eval (.tmp m)=.slice x l.length k:=by
       have:=hR.size
       simp[Act.eval,Act.put,qC,qA,this,zpp]
      have hu:=yP hel
      have jR:=z4t (c:=gW P xid tab ro) hu hop (.tmp m) (.const (.slice none 0 0)) O.w x l.length k
      have O0:(execOp (a.put (some m) (.slice x l.length k)).eval ⟨some cc,.binOp op t (.tmp m) (.const (.slice none 0 0)) ty',CG,zal,af2,none⟩).run P O.w=.ok (.value (.bool (if b=true then x.isNone else !x.isNone))) O.w:=by
       have hex:execOp (a.put (some m) (.slice x l.length k)).eval ⟨some cc,.binOp op t (.tmp m) (.const (.slice none 0 0)) ty',CG,zal,af2,none⟩ =
        (do Pure.pure (.value (<- (do eqGuard op t (.tmp m) (.const (.slice none 0 0)) ((a.put (some m) (.slice x l.length k)).eval (.tmp m)) (.slice none 0 0); binOp op t ((a.put (some m) (.slice x l.length k)).eval (.tmp m)) (.slice none 0 0))))):=rfl
       rw[hex,lI,Sem.run_bind]
       rw[show(do eqGuard op t (.tmp m) (.const (.slice none 0 0)) (.slice x l.length k) (.slice none 0 0); binOp op t (.slice x l.length k) (.slice none 0 0):Sem Value).run P O.w=_ from jR]
       rfl
      unfold Oper.wp
      rw[O0,Oper.upon_value]
      have zik:∀ (q:Nat) (u:Value) (a1:Act) (t:Nat),(a1.put (some q) u).tmps[t]? = if q=t then(if q<a1.tmps.size then some u else none)else a1.tmps[t]? := by
       intro q u a1 t
       simp only[Act.put,qA]
      have hs1:(a.put (some m) (.slice x l.length k)).tmps.size=n:=by simp[Act.put,hR.size]
      have hs2:((a.put (some m) (.slice x l.length k)).put (some cc) (.bool (if b=true then x.isNone else !x.isNone))).tmps.size=n:=by simp[Act.put,hR.size]
      refine hQ _ (λt ht => ?_) ?_
      ·have hw:wK (.region id ops false)=[m,cc]:=by simp only[wK,hops,dstsOf]
       grind
      ·have get:∀ (t:Nat),((a.put (some m) (.slice x l.length k)).put (some cc) (.bool (if b=true then x.isNone else !x.isNone))).tmps[t]? = if cc=t then some (.bool (if b=true then x.isNone else !x.isNone))else if m=t then some (.slice x l.length k)else a.tmps[t]? := by
        grind
       have z9W:∀ {i j:Nat},U i j=false->i≠j:=λh e=>by subst e; simp at h
       cases x with
       | none =>
        obtain⟨R,Ev⟩:=hvn rfl
        subst R Ev
        refine .inl ⟨rfl,hs2,hR.defers,λt d J => ?_⟩
        rw[get]
        simp only[Fr.get]at J
        cases h1:U cc t with
        | true =>
         rw[h1,cond_true]at J; cases J
         rw[if_pos (zA h1)]
         refine⟨_,rfl,?_⟩
         cases b<;>exact .bool
        | false =>
         rw[h1,cond_false]at J
         rw[if_neg (z9W h1)]
         cases X:U m t with
         | true=>rw[X,cond_true]at J; cases J; rw[if_pos (zA X)]; exact⟨_,rfl,.wJ⟩
         | false =>
          rw[X,cond_false]at J
          rw[if_neg (z9W X)]
          cases h3:U s t with
          | true=>rw[h3,cond_true]at J; cases J; rw[<- zA h3]; exact⟨_,hv,.wJ⟩
          | false=>rw[h3,cond_false]at J; exact hR.get t d J
       | some x =>
        refine .inr ⟨hs2,hR.defers,λt d J => ?_⟩
        rw[get]
        simp only[Fr.get]at J
        cases h1:U cc t with
        | true =>
         rw[h1,cond_true]at J; cases J
         rw[if_pos (zA h1)]
         refine⟨_,rfl,?_⟩
         cases b<;>exact .bool
        | false =>
         rw[h1,cond_false]at J
         rw[if_neg (z9W h1)]
         cases X:U m t with
         | true=>rw[X,cond_true]at J; cases J; rw[if_pos (zA X)]; exact⟨_,rfl,eE⟩
         | false=>rw[X,cond_false]at J; rw[if_neg (z9W X)]; exact hR.get t d J
    ·cases hp
   ·cases hp
  ·cases hp
 ·cases hp
theorem SV{id:Nat}{b:Code}(I:∀ b',b≠.loop b')(fr:Fr)(kn:Kn)(st:St){α:Type}(k:Lg->T α):Uj (gW P xid tab ro) tab n H (.block id b) fr kn st k=Uj (gW P xid tab ro) tab n H b fr kn st λr=>match r.ex with
  | .exit id'=>bif U id' id then k { r with ex:=.normal } else k r
  | _=>k r:=by
 cases b<;>first | rfl | exact absurd rfl (I _)
theorem Xu(hm:(gW P xid tab ro).P.follows .mixedOrders=true)(hT:eG P tab):∀ (code:Code),gI P n H code->∀ {fr:Fr} {kn:Kn} {O:KS} {a:Act} {α:Type} {k:Lg->T α} {r:α},
  (Uj (gW P xid tab ro) tab n H code fr kn O.st k).leads r->Inv O->Rel O n fr.get a->yI kn fr.get ->
  ∀ Q:Exit->Act->World->Prop,(∀ (o:Lg) (te:Exit) (a':Act) (E:KS),(k o).leads r->E.st=o.st->Inv E->Ext O E->Rel E n o.fr.get a'->yI o.kn o.fr.get->Kept code a a'->(o.q=true->o.st=O.st)->ED E o.ex te->Q te a' E.w) ->
   code.wp P Q a O.w:=by
 intro code
 induction code with
 | skip=>intro _ fr kn O a α k r h hI hR hk Q hQ; exact wp_skip (hQ _ _ a O h rfl hI (Ext.refl O) hR hk (λ_ _=>rfl) (λ_=>rfl) rfl)
 | exit id=>intro _ fr kn O a α k r h hI hR hk Q hQ; exact wp_exit (hQ _ _ a O h rfl hI (Ext.refl O) hR hk (λ_ _=>rfl) (λ_=>rfl) rfl)
 | ret=>intro _ fr kn O a α k r h hI hR hk Q hQ; exact wp_ret (hQ _ _ a O h rfl hI (Ext.refl O) hR hk (λ_ _=>rfl) (λ_=>rfl) rfl)
 | region id ops draw =>
  intro _ fr kn O a α k r h hI hR hk Q hQ
  simp only[Uj]at h
  obtain⟨z,h0,h⟩:=T.zi.1 h
  obtain⟨κ0,w1,w2,w3,w4,w5⟩:=z1l _ h0 hI hR
  have Ev:=z1k _ h0 hk
  rcases Bl Ev h with⟨s,h1,X⟩ | ⟨d,qt,rfl,h1,X⟩
  rotate_left
  ·rw[<- w2]at h1
   rw[<- w1]
   exact TV (DK hT) w3 w5 Ev h1 λv a' E e1 e2 e3 e4 e5 e6=>hQ ⟨.bh d,[],[],qt,false⟩ _ a' E X e1 e2 (w4.trans e3) e4 (nB _) (λt ht=>e5 t λo ho he=>ht (UI ho he)) (λhq=>by cases hq) ⟨v,rfl,e6⟩
  rw[<- w2]at h1
  have Yv:=z02 Ev h1
  rw[<- w1]
  refine(z03 hm (DK hT) w3 w5 Ev h1 λa' E e1 e2 e3 e4 e5=>hQ ⟨.normal,s.fr,s.kn,s.st,quiet s.ks&&(H.frz id).isEmpty⟩ _ a' E X e1 e2 (w4.trans e3) e4 Yv (λt ht=>e5 t λo ho he=>ht (UI ho he)) (λhq => ?_) rfl).1
  simp only[M]at hq
  have he:H.frz id=[]:=zW.1 hq.2
  rw[he]at h0
  cases h0
  exact(E1 h1 hq.1).trans w2
 | seq x y ix iy =>
  intro R fr kn O a α k r h hI hR hk Q hQ
  have hlx:gI P n H x:=λp hp=>R p (by simp only[uj,zN]; exact .inl hp)
  have hly:gI P n H y:=λp hp=>R p (by simp only[uj,zN]; exact .inr hp)
  have kx:∀ {a a':Act},Kept x a a'->Kept (.seq x y) a a':=λh s hs=>h s λe=>hs (by simp only[wK,zN]; exact .inl e)
  have ky:∀ {a a':Act},Kept y a a'->Kept (.seq x y) a a':=λh s hs=>h s λe=>hs (by simp only[wK,zN]; exact .inr e)
  simp only[Uj]at h
  split at h
  ·refine wp_seq (ix hlx h hI hR hk _ λo te a' E e0 e1 e2 e3 e4 e4' e5 e5q e6 => ?_)
   cases hex:o.ex<;>rw[hex]at e0 e6<;>simp only at e0
   ·cases e6
    refine iy hly (O:=E) (e1▸e0) e2 e4 e4' Q λo' Df a'' κ'' f0 f1 f2 f3 f4 BM f5 L9 f6=>hQ { o' with q:=o.q&&o'.q } Df a'' κ'' f0 f1 f2 (e3.trans f3) f4 BM (λs hs=>(ky f5 s hs).trans (kx e5 s hs)) ?_ f6
    grind
   ·cases e6; exact hQ o _ a' E e0 e1 e2 e3 e4 e4' (kx e5) e5q (by rw[hex]; rfl)
   ·cases e6; exact hQ o _ a' E e0 e1 e2 e3 e4 e4' (kx e5) e5q (by rw[hex]; rfl)
   ·obtain⟨v,rfl,hv⟩:=e6
    exact hQ o _ a' E e0 e1 e2 e3 e4 e4' (kx e5) e5q (by rw[hex]; exact⟨v,rfl,hv⟩)
  ·rename_i fH hcu
   cases hw:Cr fH with
   | false=>rw[hw]at h; exact h.elim
   | true =>
    rw[hw,cond_true]at h
    obtain⟨z,h1,X⟩:=T.zi.1 h
    have h1:=Fu h1
    refine wp_seq (ix hlx h1 hI hR hk _ λo te a' E e0 e1 e2 e3 e4 e4' e5 e5q e6 => ?_)
    cases hex:o.ex<;>rw[hex]at e0 e6<;>simp only at e0
    ·cases e6
     cases hq:o.q with
     | false=>rw[hq]at e0; exact e0.elim
     | true =>
      rw[hq,cond_true]at e0
      have ud:o.st=O.st:=e5q hq
      have hRz:Rel E n (nD O.st fH z).get a':=by
       refine⟨e4.size,e4.defers,λt d J => ?_⟩
       obtain⟨k',y',d0,g0,g1,g2,g3⟩:=(JD (p:=λ_=>true) (qt:=O.st) fH [] z (λ_ _=>rfl) e0).2 _ (get_mem J)
       cases g3
       obtain⟨v,q1,q2⟩:=e4.get _ _ g1
       have Gk:=zP.1 hw _ g0
       have Gk:YD k'=true:=Gk
       have hwk:Wk E E:=⟨rfl,rfl,rfl,rfl,λb d h=>⟨d,h⟩,λb v e xs h=>.inl h,λb v e xs h=>h,λb h=>h⟩
       have ja:Io [] k'=true:=by cases k'<;>first | rfl | cases Gk
       rw[<- e1]at g2
       have:=Eh hwk (bs:=[]) ja (λ_ _=>rfl) (qt:=E.st) (λ_ _=>rfl) (λ_ h=>by simp[rowAt]at h) g2 q2
       grind
      have BQ:=WS hR e3 hRz e5
      refine iy hly (O:=E) (by rw[e1,ud]; exact X) e2 BQ (nB _) Q λo' Df a'' κ'' f0 f1 f2 f3 f4 BM f5 L9 f6=>hQ o' Df a'' κ'' f0 f1 f2 (e3.trans f3) f4 BM (λs hs=>(ky f5 s hs).trans (kx e5 s hs)) (λhq=>(L9 hq).trans (e1.trans ud)) f6
    ·exact e0.elim
    ·exact e0.elim
    ·exact e0.elim
  ·rename_i hcu
   cases hop:opsOf x with
   | none=>rw[hop]at h; exact h.elim
   | some ops =>
    rw[hop]at h
    simp only at h
    cases hp:DO (gW P xid tab ro) n ops fr with
    | none=>rw[hp]at h; exact h.elim
    | some p =>
     rw[hp]at h
     obtain⟨Gj,zic⟩:=h
     obtain⟨id,rfl⟩:∃ id,x=.region id ops false:=by
      cases x with
      | region id ops' draw =>
       cases draw with
       | true=>cases hop
       | false=>cases hop; exact⟨id,rfl⟩
      | _=>cases hop
     refine wp_seq (My hp hI hR hk _ ?_)
     intro a' hk1 zhK
     rcases zhK with⟨R,BQ⟩ | BQ
     ·refine iy hly (O:=O) (Gj R _ zic) hI BQ (λt b I => ?_) Q λo' Df a'' κ'' f0 f1 f2 f3 f4 BM f5 L9 f6=>hQ o' Df a'' κ'' f0 f1 f2 f3 f4 BM (λs hs=>(ky f5 s hs).trans (kx hk1 s hs)) L9 f6
      simp only[Kn.get]at I
      simp only[Fr.get]
      grind
     ·refine iy hly (O:=O) zic hI BQ (λt b I => ?_) Q λo' Df a'' κ'' f0 f1 f2 f3 f4 BM f5 L9 f6=>hQ o' Df a'' κ'' f0 f1 f2 f3 f4 BM (λs hs=>(ky f5 s hs).trans (kx hk1 s hs)) L9 f6
      simp only[Kn.get]at I
      simp only[Fr.get]
      cases ht:U p.c t with
      | true=>rw[ht,cond_true]at I; rw[cond_true]; cases I; rfl
      | false=>rw[ht,cond_false]at I; cases I
  ·rename_i ws hcu
   cases hw:ws.all λw=>zM O.st.length w.sh.bs.length with
   | false=>rw[hw]at h; exact h.elim
   | true =>
    rw[hw,cond_true]at h
    obtain⟨rr,HO,X⟩:=T.zi.1 h
    refine wp_seq (ix hlx HO hI hR hk _ λo te a' E e0 e1 e2 e3 e4 e4' e5 _ e6 => ?_)
    obtain⟨w,g1,z,g2,g3,g4⟩:=DD _ _ _ _ _ e0
    have hwl:=zP.1 hw w g1
    obtain⟨κ1,q1,q2,q3,q4,q5⟩:=z4Q (n:=n) e3 e2 e4 e6 g3 (zE hwl) (by rw[e1]; exact g4)
    rw[g2]at X
    split at X
    ·exact X.elim
    rename_i zz hzz
    obtain⟨q5,z1U⟩:=q5 zz hzz
    have BQ:=WS hR q4 q5 e5
    rw[<- q1]
    cases hex:zz.1<;>rw[hex]at X z1U<;>simp only at X
    ·cases z1U
     exact iy hly (O:=κ1) (by rw[q2]; exact X) q3 BQ (nB _) Q λo' Df a'' κ'' f0 f1 f2 f3 f4 BM f5 _ f6=>hQ { o' with q:=false } Df a'' κ'' f0 f1 f2 (q4.trans f3) f4 BM (λs hs=>(ky f5 s hs).trans (kx e5 s hs)) (λhq=>by cases hq) f6
    ·cases z1U; exact hQ _ _ a' κ1 X q2 q3 q4 BQ (nB _) (kx e5) (λhq=>by cases hq) rfl
    ·cases z1U; exact hQ _ _ a' κ1 X q2 q3 q4 BQ (nB _) (kx e5) (λhq=>by cases hq) rfl
    ·obtain⟨v,rfl,hv⟩:=z1U
     exact hQ _ _ a' κ1 X q2 q3 q4 BQ (nB _) (kx e5) (λhq=>by cases hq) ⟨v,rfl,hv⟩
 | cond x p q ip iq =>
  intro R fr kn O a α k r h hI hR hk Q hQ
  have hlp:gI P n H p:=λz hz=>R z (by simp only[uj,zN]; exact .inl hz)
  have Te:gI P n H q:=λz hz=>R z (by simp only[uj,zN]; exact .inr hz)
  have kp:∀ {a a':Act},Kept p a a'->Kept (.cond x p q) a a':=λh s hs=>h s λe=>hs (by simp only[wK,zN]; exact .inl e)
  have kq:∀ {a a':Act},Kept q a a'->Kept (.cond x p q) a a':=λh s hs=>h s λe=>hs (by simp only[wK,zN]; exact .inr e)
  have hQp:=λ(o:Lg) (te:Exit) (a':Act) (E:KS) f0 f1 f2 f3 f4 BM (f5:Kept p a a') L9 f6=>hQ o te a' E f0 f1 f2 f3 f4 BM (kp f5) L9 f6
  have hQq:=λ(o:Lg) (te:Exit) (a':Act) (E:KS) f0 f1 f2 f3 f4 BM (f5:Kept q a a') L9 f6=>hQ o te a' E f0 f1 f2 f3 f4 BM (kq f5) L9 f6
  simp only[Uj]at h
  split at h
  ·rename_i N
   have hv:wC fr.get x=some (.qs .bool true):=ml hk N
   exact wp_cond_true (hR.eval hv).cA (ip hlp h hI hR hk Q hQp)
  ·rename_i N
   have hv:wC fr.get x=some (.qs .bool false):=ml hk N
   exact wp_cond_false (hR.eval hv).cA (iq Te h hI hR hk Q hQq)
  ·split at h
   ·split at h
    ·rename_i v hv
     have he:=hv
     rw[show ∀ t,fr.get t=wC fr.get (.tmp t)from λ_=>rfl]at he
     rcases h with⟨rfl,h⟩ | ⟨rfl,h⟩
     ·exact wp_cond_true (hR.eval he).cA (ip hlp h hI hR (WD hk hv) Q hQp)
     ·exact wp_cond_false (hR.eval he).cA (iq Te h hI hR (WD hk hv) Q hQq)
    ·exact h.elim
   ·exact h.elim
 | block id b ib =>
  intro R fr kn O a α k r h hI hR hk Q hQ
  by_cases I:∃ b',b=.loop b'
  ·obtain⟨b,rfl⟩:=I
   simp only[Uj]at h
   split at h
   ·exact h.elim
   ·rename_i l hll
    cases hc:zM (gh l.gh fr O.st).2.length l.sh.bs.length&&MM l.ps (wK b)&&l.ws.all λw=>zM l.sh.bs.length w.sh.bs.length with
    | false=>rw[hc]at h; exact h.elim
    | true =>
     rw[hc,cond_true]at h
     simp only[M,zP]at hc
     obtain⟨⟨T9,hc2⟩,hc3⟩:=hc
     obtain⟨p,h1,h⟩:=T.zi.1 h
     obtain⟨s,X,h⟩:=T.zi.1 h
     obtain⟨rr,h3,h4⟩:=T.zi.1 h
     obtain⟨κ1,w1,w2,w3,w4,w5⟩:=th l.gh fr O hI hR
     rw[<- w2]at h1 X T9
     obtain⟨κ2,q1,q2,q3,q4,q5,_⟩:=l.sh.Y5 (n:=n) (Ext.refl κ1) w3 w5 (zE T9) X
     -- the loop's parameters
     have hps:Rel κ2 n (nD (l.sh.st s) l.ps p).get a:=by
      refine⟨w5.size,w5.defers,λt d J => ?_⟩
      obtain⟨k',y,d0,g0,g1,g2,g3⟩:=(JD (p:=λ_=>true) (qt:=l.sh.st s) l.ps [] p (λ_ _=>rfl) h1).2 _ (get_mem J)
      cases g3
      obtain⟨v,e1,e2⟩:=w5.get _ _ g1
      have Gk:=zP.1 hc2 _ g0
      simp only[M]at Gk
      have hwk:Wk κ1 κ1:=⟨rfl,rfl,rfl,rfl,λb d h=>⟨d,h⟩,λb v e xs h=>.inl h,λb v e xs h=>h,λb h=>h⟩
      have ja:Io [] k'=true:=by cases k'<;>first | rfl | cases Gk.1
      have:=Eh hwk (bs:=[]) ja (λ_ _=>rfl) (qt:=κ1.st) (λ_ _=>rfl) (λ_ h=>by simp[rowAt]at h) g2 e2
      have he:X3 κ1.st k' y=X3 (l.sh.st s) k' y:=by cases k'<;>first | rfl | cases Gk.1
      rw[he]at this
      exact⟨v,e1,this.mono q4⟩
     have z7B:Ext O κ2:=w4.trans q4
     have Ye:κ2.w=O.w:=q1.trans w1
     rw[<- Ye]
     refine wp_block (R (id,b) (by simp[uj]) l hll κ2 a p s rr h3 q2 q3 q5 hps hc2 (λw hw=>zE (hc3 w hw)) _ λw x te a' E f1 f2 f3 f4 f5 f6 f7 => ?_)
     rw[f2]at h4
     split at h4
     ·exact h4.elim
     rename_i zz hzz
     obtain⟨f6,f8⟩:=f6 zz hzz
     have hR':Rel E n (zz.2++(oF (wK b)++(gh l.gh fr O.st).1)).get a':=WS w5 (q4.trans f5) f6 f7
     have hkk:Kept (.block id (.loop b)) a a':=f7
     cases hwx:zz.1<;>rw[hwx]at h4 f8<;>simp only at h4
     ·exact h4.elim
     ·rename_i id'
      cases f8
      simp only[Exit.inBlock]
      cases Yc:U id' id with
      | true =>
       rw[Yc,cond_true]at h4
       have:=zA Yc
       subst this
       rw[if_pos rfl]
       exact hQ _ _ a' E h4 f3 f4 (z7B.trans f5) hR' (nB _) hkk (λhq=>by cases hq) rfl
      | false =>
       rw[Yc,cond_false]at h4
       rw[if_neg (λe=>by subst e; simp at Yc)]
       exact hQ _ _ a' E h4 f3 f4 (z7B.trans f5) hR' (nB _) hkk (λhq=>by cases hq) rfl
     ·cases f8
      exact hQ _ _ a' E h4 f3 f4 (z7B.trans f5) hR' (nB _) hkk (λhq=>by cases hq) rfl
     ·obtain⟨v,rfl,hv⟩:=f8
      exact hQ _ _ a' E h4 f3 f4 (z7B.trans f5) hR' (nB _) hkk (λhq=>by cases hq) ⟨v,rfl,hv⟩
  ·have Yc:∀ b',b≠.loop b':=λb' e=>I ⟨b',e⟩
   rw[SV Yc]at h
   refine wp_block (ib (λz hz=>R z (by rw[I0 Yc]; exact hz)) h hI hR hk _ λo te a' E f0 f1 f2 f3 f4 BM f5 L9 f6 => ?_)
   have hkk:Kept (.block id b) a a':=f5
   cases HP:o.ex<;>rw[HP]at f0 f6<;>simp only at f0
   ·cases f6; exact hQ o _ a' E f0 f1 f2 f3 f4 BM hkk L9 (by rw[HP]; rfl)
   ·rename_i id'
    cases f6
    simp only[Exit.inBlock]
    cases hbq:U id' id with
    | true =>
     rw[hbq,cond_true]at f0
     have:=zA hbq
     subst this
     rw[if_pos rfl]
     exact hQ _ _ a' E f0 f1 f2 f3 f4 BM hkk L9 rfl
    | false =>
     rw[hbq,cond_false]at f0
     rw[if_neg (λe=>by subst e; simp at hbq)]
     exact hQ o _ a' E f0 f1 f2 f3 f4 BM hkk L9 (by rw[HP]; rfl)
   ·cases f6; exact hQ o _ a' E f0 f1 f2 f3 f4 BM hkk L9 (by rw[HP]; rfl)
   ·obtain⟨v,rfl,hv⟩:=f6
    exact hQ o _ a' E f0 f1 f2 f3 f4 BM hkk L9 (by rw[HP]; exact⟨v,rfl,hv⟩)
 | _=>intro _ fr kn O a α k r h; simp only[Uj]at h; exact h.elim
end
end Go.AM
namespace Go.AM
set_option linter.unusedSectionVars false
variable [gp]
open Go.RowKit
section
variable [Bw]
variable {P:Program} {xid:Nat} {tab:lO} {ro:Nat->Bool} {n:Nat} {H:Hints}
theorem RI{b:Code}{st qt:St}:∀ (fH:List It) (z:jX fH),MM fH (wK b)=true->nD st fH z=nD qt fH z/\∀ q∈nD st fH z,q.1 ∉ wK b:=by
 intro fH
 induction fH with
 | nil=>intro z _; exact⟨rfl,λq hq=>by cases hq⟩
 | cons i r ih =>
  intro z h
  have hi:∀ y:i.den,B0 st i y=B0 qt i y/\∀ q∈B0 st i y,q.1 ∉ wK b:=by
   intro y
   simp only[MM,zF,M]at h
   cases i with
   | s t k =>
    obtain⟨h1,_⟩:=h
    simp at h1
    refine⟨by cases k<;>first | rfl | (simp[YD]at h1),λq hq => ?_⟩
    simp only[B0,zL]at hq
    subst hq
    intro hm
    have:=h1.2
    simp only[zbP,qF,List.any_eq_false]at this
    exact this t hm (qp)
   | _=>grind
  cases r with
  | nil =>
   have e1:=GV st i z
   have e2:=GV qt i z
   grind
  | cons j r =>
   have e1:=Kd st i j r z
   have e2:=Kd qt i j r z
   have hr:MM (j::r) (wK b)=true:=by
    unfold MM at h ⊢
    grind
   grind
theorem z9T(hm:(gW P xid tab ro).P.follows .mixedOrders=true)(hT:eG P tab){l:q8}{b:Code}(hL:gI P n H b)(hl:jX l.ps->l.sh.den->T (l.sh.den⊕fZ l.ws))
  (round:∀ p s,z4p (gW P xid tab ro) tab n H l b p s=hl p s) (hF:∀ p s,l.F p s=T.loop (hl p) s):Uo P n l b:=by
 intro O a p s r hr ud hI hR hRp hps hws Q hQ
 rw[hF,T.fj]at hr
 obtain⟨m,hm'⟩:=hr
 have zpx:=λ(st qt:St)=>(RI (b:=b) (st:=st) (qt:=qt) l.ps p hps).1
 have zdD:∀ (st:St) (t:Nat) (d:D),(nD st l.ps p).get t=some d->t ∉ wK b:=λst t d J=>(RI (b:=b) (st:=st) (qt:=st) l.ps p hps).2 _ (get_mem J)
 refine wp_loop_ghost (λm a' w'=>∃ s',T.Iter (hl p) m s' r/\∃ E:KS,E.w=w'/\E.st=l.sh.st s'/\Inv E/\Ext O E/\Rel E n (l.sh.fr s').get a'/\Rel E n (nD (l.sh.st s) l.ps p).get a'/\Kept b a a') m
  ⟨s,hm',O,rfl,ud,hI,Ext.refl O,hR,hRp,λ_ _=>rfl⟩ ?_
 rintro m a1 w1 ⟨s1,hit,κ1,rfl,g4,g5,g6,g7a,g7b,g8⟩
 have g7:Rel κ1 n (l.sh.fr s1++nD (l.sh.st s1) l.ps p).get a1:=⟨g7a.size,g7a.defers,λt d J=>by
  rcases Kz J with J | J
  ·exact g7a.get t d J
  ·rw[zpx _ (l.sh.st s)]at J; exact g7b.get t d J⟩
 cases hit with
 | done h1 =>
  rw[<- round]at h1
  refine Xu hm hT b hL (O:=κ1) (by rw[g4]; exact h1) g5 g7 (nB _) _ λo te a' E e0 e1 e2 e3 e4 e4' e5 _ e6 => ?_
  have fin:∀ exo,ED E exo te->(DC l.ws exo (HZ exo o.fr) o.st).leads r->Q te a' E.w:=λexo e6 e0=>by
   obtain⟨w,k1,x,k2,k3,k4⟩:=DD _ _ _ _ _ e0
   have hlen:κ1.st.length<=w.sh.bs.length:=by rw[g4]; exact zV (uh.Wc _ _) (hws w k1)
   obtain⟨κ2,q1,q2,q3,q4,q5⟩:=z4Q (n:=n) e3 e2 e4 e6 k3 hlen (by rw[e1]; exact k4)
   have:=hQ w x te a' κ2 k1 k2 q2 q3 (g6.trans q4) q5 (λt ht=>(e5 t ht).trans (g8 t ht))
   grind
  have Ri:∀ {z:l.sh.den⊕fZ l.ws},((DC l.ws o.ex (HZ o.ex o.fr) o.st).bind λr=>T.ret (qM r:l.sh.den⊕fZ l.ws)).leads z->z=qM r->(DC l.ws o.ex (HZ o.ex o.fr) o.st).leads r:=by
   intro z h hz
   obtain⟨y,h1,X⟩:=T.zi.1 h
   have X:(qM y:l.sh.den⊕fZ l.ws)=z:=X
   grind
  cases HP:o.ex<;>rw[HP]at e0 e6 Ri<;>simp only at e0
  ·obtain⟨y,_,X⟩:=T.zi.1 e0
   have X:(qR y:l.sh.den⊕fZ l.ws)=qM r:=X
   cases X
  ·have q:=fin _ e6 (Ri e0 rfl); cases e6; exact q
  ·have q:=fin _ e6 (Ri e0 rfl); cases e6; exact q
  ·have q:=fin _ e6 (Ri e0 rfl); obtain⟨v,rfl,hv⟩:=e6; exact q
 | step h1 hit =>
  rename_i m s2
  rw[<- round]at h1
  refine Xu hm hT b hL (O:=κ1) (by rw[g4]; exact h1) g5 g7 (nB _) _ λo te a' E e0 e1 e2 e3 e4 e4' e5 _ e6 => ?_
  have Rj:((DC l.ws o.ex (HZ o.ex o.fr) o.st).bind λr=>T.ret (qM r:l.sh.den⊕fZ l.ws)).leads (qR s2)->False:=by
   intro h
   obtain⟨y,h1,X⟩:=T.zi.1 h
   have X:(qM y:l.sh.den⊕fZ l.ws)=qR s2:=X
   cases X
  cases HP:o.ex<;>rw[HP]at e0 e6 Rj<;>simp only at e0
  ·cases e6
   obtain⟨y,h1,X⟩:=T.zi.1 e0
   have X:(qR y:l.sh.den⊕fZ l.ws)=qR s2:=X
   cases X
   have hlen:κ1.st.length<=l.sh.bs.length:=by rw[g4]; exact uh.Wc _ _
   obtain⟨κ2,q1,q2,q3,q4,q5,_⟩:=l.sh.Y5 (n:=n) e3 e2 e4 hlen (by rw[e1]; exact h1)
   refine⟨m,Nat.lt_succ_self _,s2,hit,κ2,q1,q2,q3,g6.trans q4,q5,⟨q5.size,q5.defers,λt d J => ?_⟩,λt ht=>(e5 t ht).trans (g8 t ht)⟩
   obtain⟨v,r1,r2⟩:=g7b.get t d J
   exact⟨v,(e5 t (zdD _ t d J)).trans r1,r2.mono q4⟩
  ·exact(Rj e0).elim
  ·exact(Rj e0).elim
  ·exact(Rj e0).elim
end
section
variable {P:Program} {xid:Nat} {tab:lO} {ro:Nat->Bool} {n:Nat} {H:Hints}
theorem KH{O:KS}(hI:Inv O):∀ (rs:List Ty) (ds:List D) (x:Et rs) (vs:List Value),(z4O O.st rs ds).leads x->wQ O ds vs->wQ O.all (J0 rs x) vs/\∀ d∈J0 rs x,Kv d=true
 | [],[],x,vs,h,J=>by rw[J.wj]; exact⟨.nil,λd J=>by cases J⟩
 | [],_::_,x,vs,h,J=>h.elim
 | [τ],[],x,vs,h,J=>h.elim
 | [τ],[d],x,vs,h,J=>by
  obtain⟨v,us,rfl,h1,X⟩:=J.cons_inv
  rw[X.wj]
  refine⟨.cons (Uy hI h1 h) .nil,λd J => ?_⟩
  have J:d∈[D.qs τ x]:=J
  rw[zL]at J
  subst J; rfl
 | [τ],_::_::_,x,vs,h,J=>h.elim
 | τ::σ::r,[],x,vs,h,J=>h.elim
 | τ::σ::r,d::ds,x,vs,h,J=>by
  obtain⟨y,h1,X⟩:=T.zi.1 h
  obtain⟨z,h3,h4⟩:=T.zi.1 X
  cases h4
  obtain⟨v,us,rfl,k1,k2⟩:=J.cons_inv
  obtain⟨g1,g2⟩:=KH hI (σ::r) ds z us h3 k2
  refine⟨.cons (Uy hI k1 h1) g1,λd J => ?_⟩
  rcases zH.1 J with rfl | J
  ·rfl
  ·grind
theorem zgc(hm:(gW P xid tab ro).P.follows .mixedOrders=true)(hT:eG P tab){f:Nat}{fn:Func}{code:Code}(hf:P.funcs[f]? = some fn)(I:fn.body=some code)
  (hn:(fn.name == "runtime.NumGoroutine")=false) (hL:gI P fn.ntmps H code) {d:EE} (h:∀ x,z1e (gW P xid tab ro) tab H fn code d x=d.F x):zy P f d:=by
 intro O x xc y ud hy hI ha
 rw[<- h]at hy
 unfold z1e at hy
 cases hle:zM (Ke d.ps x).length fn.ntmps with
 | false=>rw[hle]at hy; exact hy.elim
 | true =>
  rw[hle,cond_true]at hy
  have B5:=zE hle
  refine .inl ⟨uY hf hn (wb) O.w,calls_of_wp hf I ?_⟩
  have hR:=Yl ha B5
  refine Xu hm hT code hL (O:=O) (by rw[ud]; exact hy) hI hR (nB _) _ λo te a' κe e0 e1 e2 e3 e4 _ _ _ e6 => ?_
  have fin:(te=.normal\/te=.ret)->((nK (gW P xid tab ro) o.fr o.st fn.results.toList).bind λds=>z4O o.st d.rs ds).leads y ->
    bodyPost P fn (λe w'=>∃ E:KS,E.w=w'/\E.st=[]/\Inv E/\Ext O E/\jo E (.ret (J0 d.rs y)) e) te a' κe.w:=by
   intro hex X
   obtain⟨ds,g1,g2⟩:=T.zi.1 X
   rw[<- e1]at g1 g2
   obtain⟨vs,k1,k2⟩:=Jw e2 e4 g1
   obtain⟨q1,q2⟩:=TZ hI ud e2 e3
   obtain⟨R,hdat⟩:=KH e2 d.rs ds y vs g2 k2
   have Me:wQ (κe.bare (okS κe)) (J0 d.rs y) vs:=⟨R.1,λi h1 X=>ZP (hdat _ (List.getElem_mem h1)) (R.2 i h1 X)⟩
   have KF:a'.defers=[]/\∃ v,(results fn a'.tmps).run P κe.w=.ok v κe.w/\∃ E:KS,E.w=κe.w/\E.st=[]/\Inv E/\Ext O E/\jo E (.ret (J0 d.rs y)) (.returned v) :=
    ⟨e4.defers,_,k1,κe.bare (okS κe),rfl,rfl,q1,q2,_,rfl,Ha Me⟩
   rcases hex with rfl | rfl
   ·exact KF
   ·exact KF
  cases HP:o.ex<;>rw[HP]at e0 e6<;>simp only at e0
  ·exact fin (.inl e6) e0
  ·exact e0.elim
  ·exact fin (.inr e6) e0
  ·exact e0.elim
theorem Gd{d:EE}{f:Nat}(b:(eo d.ps->T (Et d.rs))->eo d.ps->T (Et d.rs))(hF:∀ x,d.F x=T.fix b x)(h:∀ F:eo d.ps->T (Et d.rs),zy P f ⟨d.ps,d.rs,F⟩->zy P f ⟨d.ps,d.rs,b F⟩):zy P f d:=by
 have hN:∀ m,zy P f ⟨d.ps,d.rs,T.V8 b m⟩:=by
  intro m
  induction m with
  | zero=>nofun
  | succ m ih=>exact h _ ih
 intro O x xc y ud hy hI ha
 rw[hF,T.mj]at hy
 obtain⟨m,hm⟩:=hy
 exact hN m O x xc y ud (hm m (zJ _)) hI ha
theorem Cm{fr:Fr}:∀ {n i:Nat} {ds:List D},Cl fr n i=some ds->ds.length=n/\∀ j d,ds[j]? = some d->fr.get (i+j)=some d
 | 0,i,ds,h=>by cases h; exact⟨rfl,λj d hj=>wb⟩
 | n+1,i,ds,h=>by
  simp only[Cl]at h
  split at h
  ·rename_i d J
   split at h
   ·rename_i r hr
    obtain⟨h1,X⟩:=Cm hr
    grind
   ·cases h
  ·cases h
theorem F2{O κe:KS}{ds:List D}{vs:List Value}(hO:Inv O)(hI:Inv κe)(N:Ext O κe)(h:wQ κe ds vs) :
  ∃ κ1:KS,κ1.w=κe.w/\κ1.st=(canon O.st.length ds κe.st).2/\Inv κ1/\Ext O κ1/\wQ κ1 (canon O.st.length ds κe.st).1 vs:=by
 have zdM:∃ κ1:KS,κ1.w=κe.w/\κ1.st=κe.st/\Inv κ1/\Ext O κ1/\wQ κ1 ds vs:=⟨κe,rfl,rfl,hI,N,h⟩
 unfold canon
 generalize Yd:z9X O.st.length [] (z01 κe.st ds)=nb
 simp only
 split
 ·rename_i l R
  split
  ·rename_i dN ds1 hr J
   cases hn:cR (zX O.st.length++nb)with
   | false=>exact zdM
   | true =>
    obtain⟨p1,hp⟩:=Qs hI.len.symm R
    obtain⟨g1,g2,g3,g4,g5⟩:=Ec hI hn hp R hr
    have z7D:∀ b,b<O.st.length->(zX O.st.length++nb)[b]? = some b:=λb I=>by
     rw[zK (by simpa using I)]; simp[I]
    have M1:∀ b x,O.st[b]? = some x->b<O.st.length:=λb x h=>(Y.1 h).1
    refine⟨⟨κe.w,κe.ok,p1,dN⟩,rfl,rfl,g1,⟨N.os,N.tape,N.output,N.size,N.same,N.fresh,λj blk n h => ?_,λb d h => ?_,λb v0 e xs h => ?_,λb h => ?_,?_,N.frame⟩,g2.rds h J⟩
    ·have hj:j<(zX O.st.length++nb).length:=by have:=(Y.1 h).1; simp only at this; omega
     have I:=zG hj
     generalize (zX O.st.length++nb)[j]=b at I
     have h':=(g5 j b I).1.symm.trans h
     rcases N.phs b blk n h' with h1 | h1
     ·have wO:b<O.st.length:=Nat.lt_of_not_le λhle=>by
       have:=(Y.1 h1).1
       have:=hO.len
       omega
      have:=Option.some.inj ((oX hn I).symm.trans (oX hn (z7D b wO)))
      subst this
      exact .inl h1
     ·exact .inr h1
    ·obtain⟨⟨d',h1⟩,X⟩:=N.var b d h
     obtain⟨k1,x,y,k2,k3,k4⟩:=g5 b b (z7D b (M1 b _ h))
     rw[h1]at k2; cases k2
     simp only[U7]at k3
     split at k3
     ·cases k3; exact⟨⟨_,k4⟩,k1.trans X⟩
     ·cases k3
    ·obtain⟨k1,x,y,k2,k3,k4⟩:=g5 b b (z7D b (M1 b _ h))
     rcases N.arr b v0 e xs h with h1 | ⟨v1,x1,h1,X,h3⟩
     ·rw[h1]at k2; cases k2; cases k3; exact .inl k4
     ·rw[h1]at k2; cases k2; cases k3; exact .inr ⟨v1,x1,k4,X,λhe=>⟨k1.trans (h3 he).1,(h3 he).2⟩⟩
    ·obtain⟨k1,x,y,k2,k3,k4⟩:=g5 b b (z7D b (M1 b _ h))
     rw[N.dead b h]at k2; cases k2; cases k3; exact k4
    ·show O.st.length<=dN.length
     rw[g3]; simp
  ·exact zdM
 ·exact zdM
theorem zeB{O:KS}(hI:Inv O)(e:Ty):RD (O.yS e) (.ms O.st.length 0 e 0 0) (.slice none 0 0):=by
 have B9:(O.yS e).st[O.st.length]? = some (.arr 0 e []):=by simp[KS.yS]
 refine .ms O.st.length 0 e 0 0 0 none (.inr ⟨0,e,[],B9,zJ _⟩) (zJ _) (λ_=>rfl) nofun λxs Yx => ?_
 rw[B9]at Yx
 cases Yx
 exact⟨zJ _,.inl ⟨rfl,rfl,rfl,by simp[KS.yS,<- hI.len]⟩⟩
theorem Jo{O:KS}{d:D}{l:List D}{v:Value}{vs:List Value}(h:RD O d v)(hr:wQ O l vs):wQ O (d::l) (v::vs) :=
 ⟨by simp[hr.1],λi h1 X=>by cases i with | zero=>exact h | succ i=>exact hr.2 i (by simpa using h1) (by simpa using X)⟩
theorem LV:∀ (ks:List Sk) (l:List D) (O:KS) (vs:List Value),Inv O->wQ O l vs->∃ κ1:KS,κ1.w=O.w/\κ1.st=(kt ks l O.st).2/\Inv κ1/\Ext O κ1/\wQ κ1 (kt ks l O.st).1 vs:=by
 intro ks
 induction ks with
 | nil=>intro l O vs hI h; exact⟨O,rfl,by unfold kt; rfl,hI,Ext.refl O,by unfold kt; exact h⟩
 | cons k ks ih =>
  intro l O vs hI h
  cases l with
  | nil=>exact⟨O,rfl,by cases k<;>rfl,hI,Ext.refl O,by cases k<;>exact h⟩
  | cons d l =>
   obtain⟨v,r,rfl,h0,h1⟩:=h.cons_inv
   have go:∃ κ1:KS,κ1.w=O.w/\κ1.st=(kt ks l O.st).2/\Inv κ1/\Ext O κ1/\wQ κ1 (d::(kt ks l O.st).1) (v::r):=by
    obtain⟨κ1,q1,q2,q3,q4,q5⟩:=ih l O r hI h1
    exact⟨κ1,q1,q2,q3,q4,Jo (h0.mono q4) q5⟩
   cases k with
   | row b e =>
    cases d with
    | wJ =>
     unfold kt
     cases he:zO 0 e.size with
     | false=>exact go
     | true =>
      cases h0
      obtain⟨κ1,q1,q2,q3,q4,q5⟩:=ih l (O.yS e) r (VZ hI (zE he)) (h1.mono (rZ hI e))
      exact⟨κ1,q1,q2,q3,(rZ hI e).trans q4,Jo ((zeB hI e).mono q4) q5⟩
    | _=>exact go
   | _=>exact go
theorem Fw:∀ (ks:List Sk) (l:List D) (st:St),(∀ d∈l,d.one=true)->∀ d∈(kt ks l st).1,d.one=true:=by
 intro ks
 induction ks with
 | nil=>intro l st h; unfold kt; exact h
 | cons k ks ih =>
  intro l st h
  cases l with
  | nil=>cases k<;>exact h
  | cons d l =>
   have go:∀ qt,∀ x∈d::(kt ks l qt).1,x.one=true:=λqt x N=>by
    rcases zH.1 N with rfl | N
    ·exact h _ zQ
    ·exact ih l qt (λy hy=>h y (zI _ hy)) x N
   cases k with
   | row b e =>
    cases d with
    | wJ =>
     unfold kt
     cases zO 0 e.size with
     | false=>exact go st
     | true =>
      intro x N
      rcases zH.1 (show x∈D.ms st.length 0 e 0 0::(kt ks l (st++[.arr 0 e []])).1 from N)with rfl | N
      ·rfl
      ·exact ih l _ (λy hy=>h y (zI _ hy)) x N
    | _=>exact go st
   | _=>exact go st
theorem T1(fH:List It):∀ (ds:List D) (i:Nat) (O:KS) (vs:List Value),Inv O->wQ O ds vs->∃ κ1:KS,κ1.w=O.w/\κ1.st=(tS fH i ds O.st).2/\Inv κ1/\Ext O κ1/\wQ κ1 (tS fH i ds O.st).1 vs:=by
 intro ds
 induction ds with
 | nil=>intro i O vs hI h; exact⟨O,rfl,rfl,hI,Ext.refl O,h⟩
 | cons d ds ih =>
  intro i O vs hI h
  obtain⟨v,r,rfl,h0,h1⟩:=h.cons_inv
  have go:∃ κ1:KS,κ1.w=O.w/\κ1.st=(tS fH (i+1) ds O.st).2/\Inv κ1/\Ext O κ1/\wQ κ1 (d::(tS fH (i+1) ds O.st).1) (v::r):=by
   obtain⟨κ1,q1,q2,q3,q4,q5⟩:=ih (i+1) O r hI h1
   exact⟨κ1,q1,q2,q3,q4,Jo (h0.mono q4) q5⟩
  cases d with
  | agg l =>
   cases h0 with
   | agg _ vs0 R ho hr =>
    obtain⟨κ1,q1,q2,q3,q4,q5⟩:=LV (z06 fH i) l O vs0 hI ⟨R,hr⟩
    obtain⟨κ2,p1,p2,p3,p4,p5⟩:=ih (i+1) κ1 r q3 (h1.mono q4)
    rw[q2]at p2 p5
    exact⟨κ2,p1.trans q1,p2,p3,q4.trans p4,Jo ((RD.agg _ vs0 q5.1 (Fw _ _ _ ho) q5.2).mono p4) p5⟩
  | _=>exact go
theorem zau{O κe:KS}{ds:List D}{vs:List Value}(out:uh)(hO:Inv O)(hI:Inv κe)(N:Ext O κe)(h:wQ κe ds vs) :
  ∃ κ1:KS,κ1.w=κe.w/\κ1.st=(E4 out O.st.length ds κe.st).2/\Inv κ1/\Ext O κ1/\wQ κ1 (E4 out O.st.length ds κe.st).1 vs:=by
 unfold E4
 cases(out.fH.all λ| .s _ (.st _)=>false | _=>true)&&(out.cs.all λ| (_,.ptr _ _)=>false | (_,.cur _ _)=>false | _=>true)with
 | true=>exact⟨κe,rfl,rfl,hI,N,h⟩
 | false =>
  obtain⟨κ1,q1,q2,q3,q4,q5⟩:=F2 hO hI N h
  obtain⟨κ2,p1,p2,p3,p4,p5⟩:=T1 out.fH _ 0 κ1 vs q3 q5
  rw[q2]at p2 p5
  obtain⟨κ3,r1,r2,r3,r4,r5⟩:=F2 hO p3 (q4.trans p4) p5
  rw[p2]at r2 r5
  exact⟨κ3,r1.trans (p1.trans q1),r2,r3,r4,r5⟩
theorem H9{O κe:KS}{a':Act}{fn:Func}{o:Lg}{nr:Nat}{out:uh}{y:out.den}(hO:Inv O)(e1:κe.st=o.st)(e2:Inv κe)(e3:Ext O κe)(e4:Rel κe fn.ntmps o.fr.get a')(hlen:O.st.length<=out.bs.length)
  (h:((nK (gW P xid tab ro) o.fr o.st fn.results.toList).bind λds=>Vu out O.st.length nr ds o.st).leads y) :
  ∃ v,(results fn a'.tmps).run P κe.w=.ok v κe.w/\∃ (E:KS) (ds:List D),E.w=κe.w/\E.st=out.st y/\Inv E/\Ext O E/\pe nr (out.fr y)=some ds/\jo E (.ret ds) (.returned v):=by
 obtain⟨ds,g1,g2⟩:=T.zi.1 h
 unfold Vu at g2
 cases hnr:U ds.length nr with
 | false=>rw[hnr]at g2; exact g2.elim
 | true =>
  rw[hnr,cond_true]at g2
  obtain⟨y',g5,g3⟩:=T.zi.1 g2
  cases hsome:pe nr (out.fr y')with
  | none=>rw[hsome]at g3; exact g3.elim
  | some Dd =>
   rw[hsome]at g3
   have hyy:y'=y:=g3
   subst hyy
   rw[<- e1]at g1 g5
   obtain⟨vs,k1,k2⟩:=Jw e2 e4 g1
   obtain⟨κr,z1,z2,z3,z4,z5⟩:=zau out hO e2 e3 k2
   have hRr:Rel κr vs.length (yw (E4 out O.st.length ds κe.st).1 0).get { tmps:=vs.toArray,defers:=[] }:=by
    have:=Yl (n:=vs.length) z5 (by rw[z5.1]; exact zJ _)
    simpa[show(Bw.df:List Deferred)=[]from rfl]using this
   obtain⟨κ0,w1,w2,w3,w4,w5⟩:=th (z45 out.cs) (yw (E4 out O.st.length ds κe.st).1 0) κr z3 hRr
   rw[z2]at w2 w5
   rw[<- w2]at g5
   obtain⟨κ2,q1,q2,q3,q4,q5,_⟩:=out.Y5 (κ0:=O) (z4.trans w4) w3 w5 hlen g5
   obtain⟨l1,l2⟩:=Cm hsome
   have hds:wQ κ2 Dd vs:=by
    refine⟨by rw[l1,<- k2.1]; exact(zA hnr).symm,λi h1 X => ?_⟩
    have:=l2 i Dd[i] (zG h1)
    rw[qD]at this
    obtain⟨v,r1,r2⟩:=q5.get i _ this
    grind
   exact⟨_,k1,κ2,Dd,q1.trans (w1.trans z1),q2,q3,q4,hsome,_,rfl,Ha hds⟩
theorem zcU(hm:(gW P xid tab ro).P.follows .mixedOrders=true)(hT:eG P tab){f:Nat}{fn:Func}{code:Code}(hf:P.funcs[f]? = some fn)(I:fn.body=some code)
  (hn:(fn.name == "runtime.NumGoroutine")=false) (hL:gI P fn.ntmps H code) {d:ba} (h:∀ x,LS (gW P xid tab ro) tab H fn code d x=d.F x):xw P f d:=by
 intro O x xc y ud hy hI hlen hR0
 rw[<- h]at hy
 unfold LS at hy
 cases hle:zM d.ks.length fn.ntmps&&zM d.sh.bs.length d.out.bs.length with
 | false=>rw[hle]at hy; exact hy.elim
 | true =>
  rw[hle,cond_true]at hy
  simp only[M]at hle
  have zi2:=zE hle.1
  have z29:=zE hle.2
  refine .inl ⟨uY hf hn (by rw[I]; rfl) O.w,calls_of_wp hf I ?_⟩
  rw[<- ud]at hy
  have hR:Rel O fn.ntmps (d.sh.fr x).get { tmps:=xc.toArray++Array.replicate (fn.ntmps-xc.toArray.size) undef,defers:=[] }:=by
   refine⟨by simp; omega,rfl,λs e hs => ?_⟩
   obtain⟨v,h1,X⟩:=hR0.get s e hs
   grind
  refine Xu hm hT code hL (O:=O) hy hI hR (nB _) _ λo te a' κe e0 e1 e2 e3 e4 _ _ _ e6 => ?_
  have fin:(te=.normal\/te=.ret)->((nK (gW P xid tab ro) o.fr o.st fn.results.toList).bind λds=>Vu d.out O.st.length d.nr ds o.st).leads y ->
    bodyPost P fn (λe w'=>∃ (E:KS) (ds:List D),E.w=w'/\E.st=d.out.st y/\Inv E/\Ext O E/\pe d.nr (d.out.fr y)=some ds/\jo E (.ret ds) e) te a' κe.w:=by
   intro hex X
   obtain⟨v,k1,k2⟩:=H9 hI e1 e2 e3 e4 (by rw[ud]; exact zV (uh.Wc _ _) z29) X
   rcases hex with rfl | rfl
   ·exact⟨e4.defers,v,k1,k2⟩
   ·exact⟨e4.defers,v,k1,k2⟩
  cases HP:o.ex<;>rw[HP]at e0 e6<;>simp only at e0
  ·exact fin (.inl e6) e0
  ·exact e0.elim
  ·exact fin (.inr e6) e0
  ·exact e0.elim
theorem Ys{d:ba}{f:Nat}(b:(d.sh.den->T d.out.den)->d.sh.den->T d.out.den)(hF:∀ x,d.F x=T.fix b x)(h:∀ F:d.sh.den->T d.out.den,xw P f ⟨d.ks,d.sh,d.dJ,d.out,d.nr,F⟩->xw P f ⟨d.ks,d.sh,d.dJ,d.out,d.nr,b F⟩):xw P f d:=by
 have hN:∀ m,xw P f ⟨d.ks,d.sh,d.dJ,d.out,d.nr,T.V8 b m⟩:=by
  intro m
  induction m with
  | zero=>nofun
  | succ m ih=>exact h _ ih
 intro O x xc y ud hy hI R ha
 rw[hF,T.mj]at hy
 obtain⟨m,hm⟩:=hy
 exact hN m O x xc y ud (hm m (zJ _)) hI R ha
theorem zeK{O κe:KS}{bh:uh}{z:bh.den}{st:St}{t:Nat}{d:D}{u:Value}(e1:κe.st=st)(e2:Inv κe)(e3:Ext O κe)(hlen:O.st.length<=bh.bs.length)(hu:RD κe d u)
  (h:((bh.un [(0,some d)] st).bind λz=>match(bh.fr z).get 0 with | some _=>T.ret z | none=>.fail).leads z) :
  ∃ (E:KS) (p:D),E.w=κe.w/\E.st=bh.st z/\Inv E/\Ext O E/\(bh.fr z).get 0=some p/\jo E (.bh (.iface t p)) (.panicked [{ v:=.iface t u,recovered:=false }]):=by
 obtain⟨z',g1,g2⟩:=T.zi.1 h
 split at g2
 ·rename_i p hp
  have hzz:z'=z:=g2
  subst hzz
  have BQ:Rel κe 1 (Fr.get [(0,some d)]) { tmps := #[u],defers:=[] }:=by
   refine⟨rfl,rfl,λs d' J => ?_⟩
   simp only[Fr.get]at J
   cases I:U 0 s with
   | true =>
    have:=zA I
    grind
   | false=>grind
  rw[<- e1]at g1
  obtain⟨κ2,q1,q2,q3,q4,q5,_⟩:=bh.Y5 (κ0:=O) e3 e2 BQ hlen g1
  obtain⟨v',r1,r2⟩:=q5.get 0 p hp
  cases r1
  exact⟨κ2,p,q1,q2,q3,q4,hp,_,rfl,.iface t p _ r2⟩
 ·exact g2.elim
theorem zcT(hm:(gW P xid tab ro).P.follows .mixedOrders=true)(hT:eG P tab){f:Nat}{fn:Func}{code:Code}(hf:P.funcs[f]? = some fn)(I:fn.body=some code)
  (hn:(fn.name == "runtime.NumGoroutine")=false) (hL:gI P fn.ntmps H code) {d:lN} (h:∀ x,LR (gW P xid tab ro) tab H fn code d x=d.F x):jI P f d:=by
 intro O x xc y ud hy hI hlen hR0
 rw[<- h]at hy
 unfold LR at hy
 cases hle:zM d.ks.length fn.ntmps&&zM d.sh.bs.length d.out.bs.length&&zM d.sh.bs.length d.bh.bs.length with
 | false=>rw[hle]at hy; exact hy.elim
 | true =>
  rw[hle,cond_true]at hy
  simp only[M]at hle
  have zi2:=zE hle.1.1
  have z29:=zE hle.1.2
  have zi3:=zE hle.2
  refine .inl ⟨uY hf hn (by rw[I]; rfl) O.w,calls_of_wp hf I ?_⟩
  rw[<- ud]at hy
  have hR:Rel O fn.ntmps (d.sh.fr x).get { tmps:=xc.toArray++Array.replicate (fn.ntmps-xc.toArray.size) undef,defers:=[] }:=by
   refine⟨by simp; omega,rfl,λs e hs => ?_⟩
   obtain⟨v,h1,X⟩:=hR0.get s e hs
   grind
  refine Xu hm hT code hL (O:=O) hy hI hR (nB _) _ λo te a' κe e0 e1 e2 e3 e4 _ _ _ e6 => ?_
  have fin:(te=.normal\/te=.ret)->((nK (gW P xid tab ro) o.fr o.st fn.results.toList).bind λds=>zaj d O.st.length ds o.st).leads y ->
    bodyPost P fn (λe w'=>∃ E:KS,E.w=w'/\Inv E/\Ext O E/\((∃ (y':d.out.den) (ds:List D),y=.inl y'/\E.st=d.out.st y'/\pe d.nr (d.out.fr y')=some ds/\jo E (.ret ds) e) \/
     (d.two=none/\∃ (z:d.bh.den) (p:D),y=.inr z/\E.st=d.bh.st z/\(d.bh.fr z).get 0=some p/\jo E (.bh (.iface d.pt p)) e) \/
     ∃ (n:Nat) (z:d.bh.den) (ds:List D),d.two=some n/\y=.inr z/\E.st=d.bh.st z/\pe n (d.bh.fr z)=some ds/\jo E (.ret ds) e)) te a' κe.w:=by
   intro hex X
   obtain⟨ds,g1,g2⟩:=T.zi.1 X
   have one:((Vu d.out O.st.length d.nr ds o.st).bind λy=>T.ret (qR y:d.out.den⊕d.bh.den)).leads y ->
     ∃ v,(results fn a'.tmps).run P κe.w=.ok v κe.w/\∃ E:KS,E.w=κe.w/\Inv E/\Ext O E/\∃ (y':d.out.den) (ds:List D),y=.inl y'/\E.st=d.out.st y'/\pe d.nr (d.out.fr y')=some ds/\jo E (.ret ds) (.returned v):=λg=>by
    obtain⟨y',hy2,rfl⟩:=T.zi.1 g
    obtain⟨v,k1,E,ds,q1,q2,q3,q4,q5,q6⟩:=H9 hI e1 e2 e3 e4 (by rw[ud]; exact zV (uh.Wc _ _) z29) (T.zi.2 ⟨ds,g1,hy2⟩)
    exact⟨v,k1,E,q1,q3,q4,y',ds,rfl,q2,q5,q6⟩
   have KF:a'.defers=[]/\∃ v,(results fn a'.tmps).run P κe.w=.ok v κe.w/\∃ E:KS,E.w=κe.w/\Inv E/\Ext O E/\((∃ (y':d.out.den) (ds:List D),y=.inl y'/\E.st=d.out.st y'/\pe d.nr (d.out.fr y')=some ds/\jo E (.ret ds) (.returned v)) \/
     (d.two=none/\∃ (z:d.bh.den) (p:D),y=.inr z/\E.st=d.bh.st z/\(d.bh.fr z).get 0=some p/\jo E (.bh (.iface d.pt p)) (.returned v)) \/
     ∃ (n:Nat) (z:d.bh.den) (ds:List D),d.two=some n/\y=.inr z/\E.st=d.bh.st z/\pe n (d.bh.fr z)=some ds/\jo E (.ret ds) (.returned v)):=by
    unfold zaj at g2
    split at g2
    ·rename_i n h0
     cases hh:zbi ds with
     | true =>
      rw[hh,cond_true]at g2
      obtain⟨z,hz,rfl⟩:=T.zi.1 g2
      obtain⟨v,k1,E,ds,q1,q2,q3,q4,q5,q6⟩:=H9 hI e1 e2 e3 e4 (by rw[ud]; exact zV (uh.Wc _ _) zi3) (T.zi.2 ⟨ds,g1,hz⟩)
      exact⟨e4.defers,v,k1,E,q1,q3,q4,.inr (.inr ⟨n,z,ds,h0,rfl,q2,q5,q6⟩)⟩
     | false =>
      rw[hh,cond_false]at g2
      obtain⟨v,k1,E,q1,q2,q3,q4⟩:=one g2
      exact⟨e4.defers,v,k1,E,q1,q2,q3,.inl q4⟩
    ·obtain⟨v,k1,E,q1,q2,q3,q4⟩:=one g2
     exact⟨e4.defers,v,k1,E,q1,q2,q3,.inl q4⟩
   rcases hex with rfl | rfl
   ·exact KF
   ·exact KF
  cases HP:o.ex<;>rw[HP]at e0 e6<;>simp only at e0
  ·exact fin (.inl e6) e0
  ·exact e0.elim
  ·exact fin (.inr e6) e0
  ·rename_i p
   cases p<;>simp only at e0<;>first | exact e0.elim | skip
   rename_i t v
   cases ht:U t d.pt&&d.two.isNone with
   | false=>rw[ht]at e0; exact e0.elim
   | true =>
    rw[ht,cond_true]at e0
    rw[M,Option.isNone_iff_eq_none]at ht
    have:=zA ht.1
    subst this
    obtain⟨u,rfl,hv⟩:=e6
    cases hv with
    | iface _ _ u hu =>
     have:∃ z,y=.inr z/\((d.bh.un [(0,some v)] o.st).bind λz=>match(d.bh.fr z).get 0 with | some _=>T.ret z | none=>.fail).leads z:=by
      obtain⟨z,g1,g2⟩:=T.zi.1 e0
      split at g2
      ·rename_i p hp
       have g2:qM z=y:=g2
       refine⟨z,g2.symm,T.zi.2 ⟨z,g1,?_⟩⟩
       rw[hp]; rfl
      ·exact g2.elim
     obtain⟨z,rfl,hz2⟩:=this
     obtain⟨E,p,q1,q2,q3,q4,q5,q6⟩:=zeK (t:=d.pt) e1 e2 e3 (by rw[ud]; exact zV (uh.Wc _ _) zi3) hu hz2
     exact⟨e4.defers,E,q1,q3,q4,.inr (.inl ⟨ht.2,z,p,rfl,q2,q5,q6⟩)⟩
theorem NS{d:lN}{f:Nat}(b:(d.sh.den->T (d.out.den⊕d.bh.den))->d.sh.den->T (d.out.den⊕d.bh.den))(hF:∀ x,d.F x=T.fix b x)(h:∀ F:d.sh.den->T (d.out.den⊕d.bh.den),jI P f ⟨d.ks,d.sh,d.dJ,d.out,d.nr,d.pt,d.bh,d.two,F⟩->jI P f ⟨d.ks,d.sh,d.dJ,d.out,d.nr,d.pt,d.bh,d.two,b F⟩):jI P f d:=by
 have hN:∀ m,jI P f ⟨d.ks,d.sh,d.dJ,d.out,d.nr,d.pt,d.bh,d.two,T.V8 b m⟩:=by
  intro m
  induction m with
  | zero=>nofun
  | succ m ih=>exact h _ ih
 intro O x xc y ud hy hI R ha
 rw[hF,T.mj]at hy
 obtain⟨m,hm⟩:=hy
 exact hN m O x xc y ud (hm m (zJ _)) hI R ha
end
noncomputable def VO:Nat->Code->Option Code
 | k,.block id (.loop b)=>if k=id then some b else VO k b
 | k,.seq a b=>match VO k a with | some x=>some x | none=>VO k b
 | k,.cond _ a b=>match VO k a with | some x=>some x | none=>VO k b
 | k,.block _ a=>VO k a
 | _,_=>none
def CS(P:Program)(n:Nat)(H:Hints):List (Nat×Code)->Prop
 | []=>True
 | p::r=>(∀ l,H.loop p.1=some l->Uo P n l p.2)/\CS P n H r
theorem zf{P:Program}{n:Nat}{H:Hints}:CS P n H []:=trivial
theorem qe{P:Program}{n:Nat}{H:Hints}{id:Nat}{b:Code}{r:List (Nat×Code)}{l:q8}(R:H.loop id=some l)(h:Uo P n l b)(t:CS P n H r):CS P n H ((id,b)::r) :=
 ⟨λl' Me=>(Option.some.inj (R.symm.trans Me))▸h,t⟩
theorem UY{P:Program}{n:Nat}{H:Hints}{code:Code}{L:List (Nat×Code)}(h:uj code=L)(ha:CS P n H L):gI P n H code:=by
 intro p hp
 rw[h]at hp
 clear h
 induction L with
 | nil=>cases hp
 | cons q r ih =>
  rcases zH.1 hp with rfl | hp
  ·exact ha.1
  ·exact ih ha.2 hp
end Go.AM
namespace Go.AM
set_option linter.unusedSectionVars false
variable [gp]
open Go.RowKit Go.ChangeShapes
def N7:(τs:List Ty)->G6 τs->eo (τs.map .ty)
 | [],_=>()
 | [_],x=>x.1
 | _::σ::r,x=>(x.1,N7 (σ::r) x.2)
theorem Ce:∀ (τs:List Ty) (x:G6 τs),Ke (τs.map .ty) (N7 τs x)=mkD τs x
 | [],_=>rfl
 | [_],_=>rfl
 | τ::σ::r,x=>congrArg (D.qs τ x.1 :: ·) (Ce (σ::r) x.2)
section
variable {H:Type} {enc:TypeId×Value->H} {P:Program} {xid m n:Nat}
theorem zdN{f:Nat}{fn:Func}(τs:List Ty){F:eo (τs.map .ty)->T (Et [.bool])}(hS:zy P f ⟨τs.map .ty,[.bool],F⟩)(hf:P.funcs[f]? = some fn)(hbd:fn.body.isNone=false) (hnm:(fn.name == "runtime.NumGoroutine")=false)
  (R:laidOutB P=true) (xid m n:Nat) (hts:Jg P fn.params.toList=true) (hτ:fn.params.toList.map (CG P xid n)=τs.map some) (N:Nd P xid m=true)
  {bt:TypeId} (hr:fn.resultTypes = #[bt]) (hbt:P.underlying bt=some .bool) {s:ChangeSpec} (hv:s.vars=[]) (hs:∀ ds:List (DataW H),ds.length=τs.length->s.fn H ds={ results:=[.lit (.bool true)],args:=ds })
  (B:Sv H) {lim:Nat} (law:∀ x:G6 τs,wfL τs x->bkL τs x<=lim->(F (N7 τs x)).run=some true)
  {fresh handsOn:Bool} {zl:World} {base:Nat} {args:Array Value} {ds gs:List (DataW H)} {before:List MemPlace}
  (hval:∀ (j:Nat) t v,fn.params[j]? = some t->args[j]? = some v->zR P zl .any base t v)
  (hW:DataW.Whole enc P fn.params.toList s.vars false zl args.toList ds gs before) (hk:B.bs (ds++gs)<=lim) (hG:Vy zl λk=>k<zl.heap.size) :
  Calls P f args zl λe W'=>∃ v,e=.returned v/\s.post enc P fn false fresh handsOn false zl args v W':=by
 refine Tq (EE.snd hS) hf hbd hnm R xid m n τs hts hτ N hr hbt hv hs B (λx hw I => ?_) hval hW hk hG
 have h:=T.yG.1 (law x hw I)
 rw[<- Ce τs x]
 exact T.zi.2 ⟨N7 τs x,Ej [] _ _,T.zi.2 ⟨true,h,rfl⟩⟩
end
end Go.AM