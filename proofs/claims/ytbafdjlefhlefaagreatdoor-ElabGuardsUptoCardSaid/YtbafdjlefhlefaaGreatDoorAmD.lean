/-
  The abstract machine, part D: texts of our own, the same for each claim.
-/
import Derived.Test.YtbafdjlefhlefaaGreatDoorAmA
import Derived.Lib.LaidTab
import Derived.Shelf.Vars
import Derived.Test.YtbafdjlefhlefaaGreatDoorAmC
import Derived.OpenShut
import Derived.Test.YtbafdjlefhlefaaGreatDoorAmB
import Derived.Lib.LazyBuf
import Derived.Below
import Derived.Lib.Repeat
import Derived.Lib.ItoaNum
import Derived.Lib.IndexMore
import Derived.Lib.AsciiSet
import Derived.Lib.Strings
import Derived.Sort.Grow
import Derived.Deep.Draws
import Derived.Lib.Builder
set_option linter.unusedVariables false
namespace Go.AM
def CP(k:IntKind)(zs:List Int)(o:Obj):Prop:=∃ t fr,o=.cells (zs.map fun z=>Value.int k z).toArray t fr
theorem PA{P:Program}{w:World}{name:String}{k:IntKind}{zs:List Int}{g:Nat}(hg:P.globalNamed name=some g)(h:Lib.TabIs P w name k zs) :
  g<w.heap.size∧∃ o,w.heap[g]? = some o∧CP k zs o:=by
 unfold Lib.TabIs World.var? at h
 rw[hg]at h
 simp only[Option.bind_some]at h
 split at h
 ·rename_i cs t fr ho
  cases h
  exact⟨(Array.getElem?_eq_some_iff.1 ho).1,_,ho,t,fr,rfl⟩
 ·cases h
theorem z5Q{P:Program}{w:World}{name:String}{k:IntKind}{zs:List Int}{g:Nat}(hg:P.globalNamed name=some g)(h:∃ o,w.heap[g]? = some o∧CP k zs o):Lib.TabIs P w name k zs:=by
 obtain⟨o,ho,t,fr,rfl⟩:=h
 unfold Lib.TabIs World.var?
 rw[hg]
 simp only[Option.bind_some,ho]
theorem N2{P:Program}{W:World}{name:String}{k:IntKind}{zs:List Int}{rest:List (String×DataW Unit)}{ps:List MemPlace}{g:Nat}{t e:TypeId}{n:Nat}
  (hg:P.globalNamed name=some g) (LL:(P.globals[g]?).map (·.type)=some t) (ht:P.underlying t=some (.array n e)) (he:P.underlying e=some (.int k)) (hce:P.cellsOf e=1) (hct:P.cellsOf t=n)
  (h:DataW.LaidVars P W ((name,Lib.tabData k zs)::rest) ps):g<W.heap.size∧∃ o,W.heap[g]? = some o∧CP k zs o:=by
 obtain⟨g',t',cs,fuel,p,q,hg',ht',zcE,hd,_,_⟩:=h
 refine PA hg ?_
 obtain rfl:=Option.some.inj (hg.symm.trans hg')
 obtain rfl:=Option.some.inj (LL.symm.trans ht')
 unfold Lib.TabIs
 rw[zcE,← Lib.cells_of_tab ht he hce hct hd]
theorem YN{P:Program}{W:World}{x:String×DataW Unit}{rest:List (String×DataW Unit)}{ps:List MemPlace}(h:DataW.LaidVars P W (x::rest) ps):∃ q,DataW.LaidVars P W rest q:=by
 obtain⟨n,d⟩:=x
 obtain⟨g',t',cs,fuel,p,q,hg',ht',zcE,hd,h1,_⟩:=h
 exact⟨q,h1⟩
end Go.AM
namespace Go.AM
open Go.RowKit
mutual
def bkE:Expr→Nat
 | .mk _ n s l=>1+((1+((List.length n.2.1+1)+((List.length n.2.2.1+1)+1)))+((List.length s+1)+((bkEs l+1)+1)))
def bkEs:List Expr→Nat
 | []=>0
 | e::r=>bkE e+bkEs r
end
def cq{α:Type}(f:α→Nat):List α→Nat
 | []=>0
 | x::r=>f x+cq f r
def bk:(τ:Ty)→den τ→Nat
 | .int _,_=>1
 | .bool,_=>1
 | .str,s=>List.length s+1
 | .sl e,l=>cq (bk e) l+1
 | .nil,_=>1
 | .cons a b,x=>bk a x.1+bk b x.2
 | .expr,x=>bkE x
theorem BC{α:Type}(l:List α):cq (fun _=>1) l=l.length:=by induction l with | nil=>rfl | cons x r ih=>simp[cq,ih]; omega
theorem z2I(l:List Expr):bkEs l=cq (bk .expr) l:=by induction l with | nil=>rfl | cons x r ih=>simp[bkEs,cq,ih,bk]
theorem z2k(x:Expr):bk Xe x.O0=bk .expr x:=by
 cases x with | mk k n s l =>
 simp only[bk,Expr.O0,bkE,z2I,Expr.kind,Expr.num,Expr.name,Expr.kids,BC]
mutual
def wfE:Expr→Prop
 | .mk k n s l=>(IntKind.i64.min≤k∧k≤IntKind.i64.max)∧((True∧((∀ x∈n.2.1,IntKind.u32.min≤x∧x≤IntKind.u32.max)∧((∀ x∈n.2.2.1,IntKind.u32.min≤x∧x≤IntKind.u32.max)∧True)))∧(List.length s≤maxLen∧(wfEs l∧True)))
def wfEs:List Expr→Prop
 | []=>True
 | e::r=>wfE e∧wfEs r
end
def wf:(τ:Ty)→den τ→Prop
 | .int k,n=>k.min≤n∧n≤k.max
 | .bool,_=>True
 | .str,s=>List.length s≤maxLen
 | .sl e,l=>∀ x∈l,wf e x
 | .nil,_=>True
 | .cons a b,x=>wf a x.1∧wf b x.2
 | .expr,x=>wfE x
theorem z3k(l:List Expr):wfEs l↔∀ x∈l,wf .expr x:=by induction l with | nil=>simp[wfEs] | cons x r ih=>simp[wfEs,ih,wf]
theorem L5(x:Expr):wf Xe x.O0↔wf .expr x:=by
 cases x with | mk k n s l=>simp only[wf,Expr.O0,wfE,z3k,Expr.kind,Expr.num,Expr.name,Expr.kids]
structure O5(H:Type) where
 b:DataW H→Nat
 bs:List (DataW H)→Nat
 str:∀ s,b (.lit (.string s))=s.length+1
 bool:∀ x,b (.lit (.bool x))=1
 int:∀ k n,b (.lit (.int k n))=1
 nil:b .nil=1
 slice:∀ x y,b (.slice x y)=bs x+bs y+1
 agg:∀ x,b (.agg x)=bs x+1
 zero:bs []=0
 cons:∀ x r,bs (x::r)=b x+bs r
section
variable (P:Program) (xid:Nat)
def Vr:Nat→List Field→Bool
 | _,[]=>true
 | o,f::r=>Nat.beq f.offset o&&Vr (o+P.cellsOf f.type) r
def Vj:Nat→List Field→Nat
 | o,[]=>o
 | o,f::r=>Vj (o+P.cellsOf f.type) r
def B5:Nat→Nat→Option Ty
 | 0,_=>none
 | n+1,t=>bif Nat.beq t xid then some .expr else
  match P.underlying t with
  | some (.int k)=>some (.int k)
  | some .bool=>some .bool
  | some .string=>some .str
  | some (.slice e)=>match B5 n e with | some a=>bif Nat.beq (P.cellsOf e) a.size&&Nat.blt 0 a.size then some (.sl a)else none | none=>none
  | some (.struct fs)=>bif Vr P 0 fs.toList&&Nat.beq (Vj P 0 fs.toList) (P.cellsOf t)then dU (fs.toList.map fun f=>B5 n f.type)else none
  | _=>none
def Fc(m:Nat):Bool:=match P.underlying xid with
 | some (.struct fs)=>Vr P 0 fs.toList&&Nat.beq (Vj P 0 fs.toList) (P.cellsOf xid)&&decide (dU (fs.toList.map fun f=>B5 P xid m f.type)=some Xe)
 | some _=>false
 | none=>true
end
section
variable {H:Type} {enc:TypeId×Value→H} {P:Program} {w:World} {xid m:Nat} (B:O5 H)
def Jv(w:World)(B:O5 H)(τ:Ty)(cs:List Value)(k:Nat):Prop:=∃ x:den τ,Rc w (fun k=>k<w.heap.size) τ x cs∧wf τ x∧bk τ x≤k
theorem WI{fuel:Nat}{cs:List Value}(ih:∀ n t τ cs d ps,B5 P xid n t=some τ→DataW.trod enc P w 0 (fun _=>true) true fuel t cs=some (d,ps)→Jv w B τ cs (B.b d)){n:Nat} :
  ∀ (fs:List Field) (o:Nat) (τ:Ty) (xs:List (DataW H×List MemPlace)),dU (fs.map fun f=>B5 P xid n f.type)=some τ→Vr P o fs=true→Vj P o fs=cs.length→xs.length=fs.length →
   (∀ (i:Nat) (f:Field),fs[i]? = some f→DataW.trod enc P w 0 (fun _=>true) true fuel f.type ((cs.drop f.offset).take (P.cellsOf f.type))=xs[i]?)→Jv w B τ (cs.drop o) (B.bs (xs.map (·.1))+1)
 | [],o,τ,xs,ht,_,he,hl,_=>by
  cases ht
  simp only[Vj]at he
  obtain rfl:xs=[]:=List.eq_nil_of_length_eq_zero hl
  refine⟨(),?_,trivial,by simp[bk]⟩
  rw[he,List.drop_length]; exact .nil
 | f::r,o,τ,xs,ht,ho,he,hl,hx=>by
  cases xs with
  | nil=>simp at hl
  | cons x xs =>
  simp only[Vr,Bool.and_eq_true]at ho
  have ho1:f.offset=o:=Nat.eq_of_beq_eq_true ho.1
  simp only[List.map_cons]at ht
  cases h1:B5 P xid n f.type with
  | none=>rw[h1]at ht; cases ht
  | some a =>
   rw[h1]at ht
   simp only[dU]at ht
   cases h2:dU (r.map fun f=>B5 P xid n f.type)with
   | none=>rw[h2]at ht; cases ht
   | some b =>
    rw[h2]at ht
    cases ht
    obtain⟨x1,p1,p2,p3⟩:=ih n f.type a _ x.1 x.2 h1 (by have:=hx 0 f rfl; simpa using this)
    obtain⟨x2,q1,q2,q3⟩:=WI ih r (o+P.cellsOf f.type) b xs h2 ho.2 he (by simpa using hl) (fun i g hg=>by have:=hx (i+1) g (by simpa using hg); simpa using this)
    refine⟨(x1,x2),?_,⟨p2,q2⟩,?_⟩
    ·have e:cs.drop o=(cs.drop o).take (P.cellsOf f.type)++cs.drop (o+P.cellsOf f.type):=by
      conv=>lhs; rw[← List.take_append_drop (P.cellsOf f.type) (cs.drop o)]
      rw[List.drop_drop]
     rw[e]
     rw[ho1]at p1
     exact .cons _ _ _ _ _ _ p1 q1
    ·simp only[bk,List.map_cons,B.cons]; omega
theorem YL{e:Ty}(k:Nat):∀ (n:Nat) (elems:List (DataW H×List MemPlace)) (g:Nat→List Value),elems.length=n→(∀ i,i<n→∃ d,elems[i]? = some d∧Jv w B e (g i) (B.b d.1)) →
  ∃ l:List (den e),l.length=n∧(∀ i (hi:i<l.length),Rc w (fun k=>k<w.heap.size) e l[i] (g i))∧(∀ x∈l,wf e x)∧cq (bk e) l≤B.bs (elems.map (·.1))
 | 0,elems,g,hl,_=>by
  obtain rfl:elems=[]:=List.eq_nil_of_length_eq_zero hl
  exact⟨[],rfl,fun i hi=>absurd hi (Nat.not_lt_zero i),by simp,by simp[cq]⟩
 | n+1,elems,g,hl,h=>by
  cases elems with
  | nil=>simp at hl
  | cons y ys =>
   obtain⟨d,h1,x,h2,h3,h4⟩:=h 0 (by omega)
   simp at h1
   subst h1
   obtain⟨l,l1,l2,l3,l4⟩:=YL k n ys (fun i=>g (i+1)) (by simpa using hl) fun i hi=>by
    obtain⟨d,h1,h2⟩:=h (i+1) (by omega)
    exact⟨d,by simpa using h1,h2⟩
   refine⟨x::l,by simp[l1],fun i hi => ?_,fun z hz => ?_,?_⟩
   ·cases i with
    | zero=>exact h2
    | succ i=>exact l2 i (by simpa using hi)
   ·rcases List.mem_cons.1 hz with rfl | hz
    ·exact h3
    ·exact l3 z hz
   ·simp only[cq,List.map_cons,B.cons]; omega
theorem MC(hx:Fc P xid m=true):∀ (fuel n t:Nat) (τ:Ty) (cs:List Value) (d:DataW H) (ps:List MemPlace),B5 P xid n t=some τ→DataW.trod enc P w 0 (fun _=>true) true fuel t cs=some (d,ps)→Jv w B τ cs (B.b d):=by
 intro fuel
 induction fuel with
 | zero=>intro n t τ cs d ps _ h; simp[DataW.trod]at h
 | succ fuel ih =>
  intro n t τ cs d ps ht h
  have struct:∀ (fs:Array Field) (k:Nat) (σ:Ty),P.underlying t=some (.struct fs)→(Vr P 0 fs.toList&&Nat.beq (Vj P 0 fs.toList) (P.cellsOf t))=true→dU (fs.toList.map fun f=>B5 P xid k f.type)=some σ→Jv w B σ cs (B.b d):=by
   intro fs k σ hu ho hc
   simp only[Bool.and_eq_true]at ho
   obtain⟨xs,n',hn,hd,hl,hlx,Vp⟩:=DataW.trod_struct hu h
   cases hn
   cases hd
   have:=WI B (cs:=cs) (ih:=ih) fs.toList 0 σ xs hc ho.1 (by rw[Nat.eq_of_beq_eq_true ho.2,hl]) (by simpa using hlx) (fun i f hf=>Vp i f (by simpa using hf))
   rw[B.agg]
   simpa using this
  cases n with
  | zero=>cases ht
  | succ n =>
   unfold B5 at ht
   cases hb:Nat.beq t xid with
   | true =>
    rw[hb,cond_true]at ht
    cases ht
    have:=Nat.eq_of_beq_eq_true hb
    subst this
    unfold Fc at hx
    split at hx
    ·rename_i fs hu
     simp only[Bool.and_eq_true,decide_eq_true_eq]at hx
     obtain⟨x,h1,h2,h3⟩:=struct fs m Xe hu (by simp[hx.1.1,hx.1.2]) hx.2
     refine⟨Expr.Fs x,.expr _ _ _ _ _ h1,?_,?_⟩
     ·exact(L5 (Expr.Fs x)).1 h2
     ·rw[← z2k (Expr.Fs x)]; exact h3
    ·cases hx
    ·rename_i hu
     rw[DataW.trod_step]at h
     simp[DataW.trodStep,hu]at h
   | false =>
    rw[hb,cond_false]at ht
    split at ht
    ·rename_i k hu
     cases ht
     obtain⟨n',rfl,h2,h3⟩:=DataW.trod_int hu h
     cases h2
     simp only[Lit.wf,Bool.and_eq_true,decide_eq_true_eq]at h3
     exact⟨n',.int k n',h3,by simp[bk,B.int]⟩
    ·rename_i hu
     cases ht
     obtain⟨b,rfl,h2⟩:=DataW.trod_bool hu h
     cases h2
     exact⟨b,.bool b,trivial,by simp[bk,B.bool]⟩
    ·rename_i hu
     cases ht
     obtain⟨s,rfl,h2,h3⟩:=DataW.trod_string hu h
     cases h2
     refine⟨s.data.toList,?_,?_,?_⟩
     ·have:s=⟨s.data.toList.toArray⟩:=by cases s; simp
      conv=>arg 4; rw[this]
      exact .str _
     ·simp only[wf,Array.length_toList]; exact h3
     ·simp[bk,B.str]
    ·rename_i e hu
     split at ht
     ·rename_i a ha
      cases hc:Nat.beq (P.cellsOf e) a.size&&Nat.blt 0 a.size with
      | false=>rw[hc]at ht; cases ht
      | true =>
       rw[hc,cond_true]at ht
       cases ht
       simp only[Bool.and_eq_true]at hc
       have jk:P.cellsOf e=a.size:=Nat.eq_of_beq_eq_true hc.1
       have Wa:0<a.size:=Nat.le_of_ble_eq_true hc.2
       rcases DataW.trod_slice hu h with⟨rfl,h2⟩ | ⟨p,len,cap,elems,rest,n',hn,rfl,hd,_,wD,_,hlen,hel,NL,_⟩
       ·cases h2
        exact⟨[],.iE a none,by simp[wf],by simp[bk,cq,B.nil]⟩
       ·cases hn
        cases hd
        by_cases h0:cap=0
        ·subst h0
         have:len=0:=by omega
         subst this
         exact⟨[],.iE a (some p),by simp[wf],by simp[bk,cq,B.slice]⟩
        ·rw[jk]at hel NL
         -- the place lies in the heap
         have z5c:p.block<w.heap.size∧p.spot=none:=by
          have first:∃ x,(w.cells? 0 p a.size)=some x:=by
           by_cases hl:len=0
           ·have:=(NL rfl).2 0 (by omega)
            rw[hl]at this
            have hr:(rest[0]?).isSome=true:=by simp[(NL rfl).1]; omega
            cases hcc:w.cells? 0 p a.size with
            | some x=>exact⟨x,rfl⟩
            | none =>
             have e0:p.add ((0+0)*a.size)=p:=by simp[Addr.add]
             rw[e0,hcc]at this
             rw[← this]at hr
             simp at hr
           ·have:=hel 0 (by omega)
            have hr:(elems[0]?).isSome=true:=by simp; omega
            cases hcc:w.cells? 0 p a.size with
            | some x=>exact⟨x,rfl⟩
            | none =>
             have e0:p.add (0*a.size)=p:=by simp[Addr.add]
             rw[e0,hcc]at this
             rw[← this]at hr
             simp at hr
          obtain⟨x,hx⟩:=first
          refine⟨World.cells?_block hx Wa,?_⟩
          have h2:=(World.cells?_some hx).2
          have h3:=h2.2 0 Wa
          rw[List.getElem?_eq_getElem (by omega)]at h3
          have e0:p.add 0=p:=rfl
          rw[e0]at h3
          cases hs:p.spot with
          | none=>rfl
          | some q =>
           unfold World.cell? at h3
           split at h3
           ·rw[hs]at h3; simp at h3
           ·cases h3
         obtain⟨blk,off,sp⟩:=p
         obtain⟨MB,tq⟩:=z5c
         simp only at tq MB
         subst tq
         have hg:∀ i,∃ c:List Value,i<len→∃ d,elems[i]? = some d∧Jv w B a c (B.b d.1)∧w.cells? 0 ⟨blk,off+i*a.size,none⟩ a.size=some c:=by
          intro i
          by_cases hi:i<len
          ·have:=hel i hi
           rw[vB]at this
           cases hcc:w.cells? 0 ⟨blk,off+i*a.size,none⟩ a.size with
           | none =>
            rw[hcc]at this
            have hr:(elems[i]?).isSome=true:=by simp; omega
            rw[← this]at hr
            simp at hr
           | some c =>
            rw[hcc]at this
            simp only[Option.bind_some]at this
            refine⟨c,fun _=>⟨elems[i]'(by omega),by simp,?_,rfl⟩⟩
            exact ih n e a c _ _ ha (this.trans (by rw[List.getElem?_eq_getElem (by omega)]))
          ·exact⟨[],fun h=>absurd h hi⟩
         let g:Nat→List Value:=fun i=>Classical.choose (hg i)
         have hg':∀ i,i<len→∃ d,elems[i]? = some d∧Jv w B a (g i) (B.b d.1)∧w.cells? 0 ⟨blk,off+i*a.size,none⟩ a.size=some (g i):=fun i hi=>Classical.choose_spec (hg i) hi
         obtain⟨l,l1,l2,l3,l4⟩:=YL B (w:=w) (e:=a) 0 len elems g hlen fun i hi=>by
          obtain⟨d,h1,h2,_⟩:=hg' i hi
          exact⟨d,h1,h2⟩
         refine⟨l,?_,l3,?_⟩
         ·have:=Rc.sl (w:=w) (ok:=fun k=>k<w.heap.size) a l blk off cap g MB (by omega) l2 fun i hi j v hj=>by
           obtain⟨d,_,_,h3⟩:=hg' i (by omega)
           obtain⟨_,k2,k3⟩:=World.cells?_some h3
           have Mw:j<(g i).length:=(List.getElem?_eq_some_iff.1 hj).1
           have:=k3 j (by omega)
           rw[vB,hj]at this
           exact this
          rwa [l1]at this
         ·simp only[bk,B.slice]; omega
     ·cases ht
    ·rename_i fs hu
     cases hc:Vr P 0 fs.toList&&Nat.beq (Vj P 0 fs.toList) (P.cellsOf t)with
     | false=>rw[hc]at ht; cases ht
     | true =>
      rw[hc,cond_true]at ht
      exact struct fs n τ hu hc ht
    ·cases ht
end
end Go.AM
namespace Go.AM
set_option linter.unusedSectionVars false
variable [uz]
open Go.RowKit Go.ChangeShapes
def Y5:List Ty→Type
 | []=>Unit
 | τ::r=>den τ×Y5 r
def mkD:(τs:List Ty)→Y5 τs→List D
 | [],_=>[]
 | τ::r,x=>.zW τ x.1::mkD r x.2
def wfL:(τs:List Ty)→Y5 τs→Prop
 | [],_=>True
 | τ::r,x=>wf τ x.1∧wfL r x.2
def bkL:(τs:List Ty)→Y5 τs→Nat
 | [],_=>0
 | τ::r,x=>bk τ x.1+bkL r x.2
def QC(P:Program)(ts:List Nat):Bool:=ts.all fun t=>P.readableRec t&&decide (t<P.types.size)
section
variable {H:Type} {enc:TypeId×Value→H} {P:Program} {xid m n:Nat} {w:World}
theorem z6t{t:Nat}{τ:Ty}{v:Value}{base:Nat}(ht:B5 P xid n t=some τ)(hx:Fc P xid m=true)(h:Value.okWide P w .any base t v):pk τ v.cells.toList=v:=by
 cases n with
 | zero=>cases ht
 | succ n =>
  have agg:∀ fs:Array Field,P.underlying t=some (.struct fs)→τ.isAgg=true→pk τ v.cells.toList=v:=by
   intro fs hu ha
   unfold Value.okWide at h
   rw[hu]at h
   obtain⟨cs,rfl,_⟩:=h
   simp[pk,ha,Value.cells]
  unfold B5 at ht
  cases hb:Nat.beq t xid with
  | true =>
   rw[hb,cond_true]at ht
   cases ht
   have:=Nat.eq_of_beq_eq_true hb
   subst this
   unfold Fc at hx
   split at hx
   ·rename_i fs hu; exact agg fs hu rfl
   ·cases hx
   ·rename_i hu
    unfold Value.okWide at h
    rw[hu]at h
    simp[Cell.okWide,Cell.ok,hu]at h
  | false =>
   rw[hb,cond_false]at ht
   split at ht
   ·rename_i k hu
    cases ht
    unfold Value.okWide at h
    rw[hu]at h
    simp only[Cell.okWide,hu,Cell.ok]at h
    split at h<;>simp_all [pk,Ty.isAgg,Value.cells]
   ·rename_i hu
    cases ht
    unfold Value.okWide at h
    rw[hu]at h
    simp only[Cell.okWide,hu,Cell.ok]at h
    split at h<;>simp_all [pk,Ty.isAgg,Value.cells]
   ·rename_i hu
    cases ht
    unfold Value.okWide at h
    rw[hu]at h
    simp only[Cell.okWide,hu,Cell.ok]at h
    split at h<;>simp_all [pk,Ty.isAgg,Value.cells]
   ·rename_i e hu
    have h1:τ.isAgg=false:=by
     split at ht
     ·rename_i a ha
      cases hc:Nat.beq (P.cellsOf e) a.size&&Nat.blt 0 a.size with
      | false=>rw[hc]at ht; cases ht
      | true=>rw[hc,cond_true]at ht; cases ht; rfl
     ·cases ht
    unfold Value.okWide at h
    rw[hu]at h
    simp only[Cell.okWide,hu,Cell.ok]at h
    split at h<;>simp_all [pk,Value.cells]
   ·rename_i fs hu
    refine agg fs hu ?_
    cases hc:Vr P 0 fs.toList&&Nat.beq (Vj P 0 fs.toList) (P.cellsOf t)with
    | false=>rw[hc]at ht; cases ht
    | true =>
     rw[hc,cond_true]at ht
     have key:∀ (l:List (Option Ty)),dU l=some τ→τ.isAgg=true:=by
      intro l hl
      cases l with
      | nil=>cases hl; rfl
      | cons a r =>
       cases a with
       | none=>cases hl
       | some a =>
        simp only[dU]at hl
        cases h2:dU r with
        | none=>rw[h2]at hl; cases hl
        | some b=>rw[h2]at hl; cases hl; rfl
     exact key _ ht
   ·cases ht
theorem C0(B:O5 H)(hx:Fc P xid m=true){base:Nat}:∀ (ts:List TypeId) (τs:List Ty) (vs:List Value) (ds:List (DataW H)) (ps:List MemPlace),ts.map (B5 P xid n)=τs.map some →
  DataW.TrodAll enc P w 0 (fun _=>true) true ts vs ds ps→(∀ (j:Nat) t v,ts[j]? = some t→vs[j]? = some v→Value.okWide P w .any base t v) →
  ∃ x:Y5 τs,xv ⟨w,fun k=>k<w.heap.size,[],[]⟩ (mkD τs x) vs∧wfL τs x∧bkL τs x≤B.bs ds∧ds.length=τs.length
 | [],τs,vs,ds,ps,ht,h,_=>by
  cases τs with
  | cons=>cases ht
  | nil =>
   cases vs<;>cases ds<;>simp only[DataW.TrodAll]at h
   exact⟨(),⟨rfl,fun i h1=>absurd h1 (Nat.not_lt_zero i)⟩,trivial,Nat.zero_le _,rfl⟩
 | t::ts,τs,vs,ds,ps,ht,h,hv=>by
  cases τs with
  | nil=>cases ht
  | cons τ τs =>
   simp only[List.map_cons,List.cons.injEq]at ht
   cases vs with
   | nil=>simp[DataW.TrodAll]at h
   | cons v vs =>
    cases ds with
    | nil=>simp[DataW.TrodAll]at h
    | cons d ds =>
     simp only[DataW.TrodAll]at h
     obtain⟨p,q,⟨fuel,h1⟩,h2,_⟩:=h
     obtain⟨x,k1,k2,k3⟩:=MC B hx fuel n t τ _ d p ht.1 h1
     obtain⟨y,g1,g2,g3,g4⟩:=C0 B hx ts τs vs ds q ht.2 h2 fun j t v a b=>hv (j+1) t v (by simpa using a) (by simpa using b)
     refine⟨(x,y),⟨by simp only[mkD,List.length_cons]; rw[g1.1],fun i h1 h2 => ?_⟩,⟨k2,g2⟩,?_,by simp[g4]⟩
     ·cases i with
      | zero =>
       have:=RD.zW (κ:=⟨w,fun k=>k<w.heap.size,[],[]⟩) τ x _ k1
       rw[z6t ht.1 hx (hv 0 t v rfl rfl)]at this
       exact this
      | succ i=>exact g1.2 i (by simpa[mkD]using h1) (by simpa using h2)
     ·simp only[bkL,B.cons]; omega
theorem Gk(hl:laidOutB P=true){W W':World}(hb:Below W.heap.size W W'):∀ (ts:List TypeId) (vs:List Value) (ds:List (DataW H)) (ps:List MemPlace),QC P ts=true →
  DataW.TrodAll enc P W 0 (fun _=>true) true ts vs ds ps→(∀ x∈ps,x.block<W.heap.size)→DataW.TrodAll enc P W' 0 (fun b=>decide (b<W.heap.size)) true ts vs ds ps
 | [],vs,ds,ps,_,h,_=>by cases vs<;>cases ds<;>simp_all [DataW.TrodAll]
 | t::ts,vs,ds,ps,ht,h,qp=>by
  cases vs with
  | nil=>simp[DataW.TrodAll]at h
  | cons v vs =>
   cases ds with
   | nil=>simp[DataW.TrodAll]at h
   | cons d ds =>
    simp only[DataW.TrodAll]at h ⊢
    obtain⟨p,q,h1,h2,rfl⟩:=h
    simp only[QC,List.all_cons,Bool.and_eq_true,decide_eq_true_eq]at ht
    exact⟨p,q,Below.trod hl ht.1.1 ht.1.2 h1 hb fun x hx=>qp x (by simp[hx]),Gk hl hb ts vs ds q (by simpa[QC]using ht.2) h2 fun x hx=>qp x (by simp[hx]),rfl⟩
end
theorem O7{H:Type}{enc:TypeId×Value→H}{P:Program}{f:Nat}{fn:Func}{S:List D→St→T (GV×St)}(hS:By P f S)(hf:P.funcs[f]? = some fn)(hbd:fn.body.isNone=false) (Lm:(fn.name == "runtime.NumGoroutine")=false)
  (hl:laidOutB P=true) (xid m n:Nat) (τs:List Ty) (hts:QC P fn.params.toList=true) (hτ:fn.params.toList.map (B5 P xid n)=τs.map some) (hx:Fc P xid m=true)
  {bt:TypeId} (hr:fn.resultTypes = #[bt]) (hbt:P.underlying bt=some .bool) {s:ChangeSpec} (hv:s.vars=[]) (hs:∀ ds:List (DataW H),ds.length=τs.length→s.fn H ds={ results:=[.lit (.bool true)],args:=ds })
  (B:O5 H) {lim:Nat} (law:∀ x:Y5 τs,wfL τs x→bkL τs x≤lim→(S (mkD τs x) []).leads (.ret [.zW .bool true],[]))
  {fresh handsOn:Bool} {W:World} {base:Nat} {args:Array Value} {ds gs:List (DataW H)} {before:List MemPlace}
  (Y9:∀ (j:Nat) t v,fn.params[j]? = some t→args[j]? = some v→Value.okWide P W .any base t v)
  (hW:DataW.Whole enc P fn.params.toList s.vars false W args.toList ds gs before) (hk:B.bs (ds++gs)≤lim) (hG:ZV W fun k=>k<W.heap.size) :
  Calls P f args W fun e W'=>∃ v,e=.returned v∧s.post enc P fn false fresh handsOn false W args v W':=by
 have hW':=hW
 obtain⟨p,q,hA,hV,rfl,hfz,Fv⟩:=hW
 rw[hv]at hV
 obtain⟨rfl,rfl⟩:=trodVars_none hV
 simp only[List.append_nil]at hk hW'
 obtain⟨x,h1,h2,h3,h4⟩:=C0 (n:=n) B hx fn.params.toList τs args.toList ds p hτ hA fun j t v a b=>Y9 j t v (by simpa using a) (by simpa using b)
 have hI:Inv ⟨W,fun k=>k<W.heap.size,[],[]⟩ :=
  ⟨rfl,fun k hk=>hk,fun b blk n h=>by simp at h,fun b b' blk n n' h=>by simp at h,fun b x h=>by simp at h,hG⟩
 have z47:=hS ⟨W,fun k=>k<W.heap.size,[],[]⟩ (mkD τs x) args.toList _ _ (law x h2 (Nat.le_trans h3 hk)) hI h1
 rw[Array.toArray_toList]at z47
 have key:Calls P f args W fun e w'=>∃ κ':KS,κ'.w=w'∧κ'.st=[]∧Inv κ'∧Ext ⟨W,fun k=>k<W.heap.size,[],[]⟩ κ'∧vt κ' (.ret [.zW .bool true]) e:=by
  rcases z47 with⟨_,h⟩ | ⟨v,w',h,_⟩
  ·exact h
  ·have:=jO (args:=args) hf Lm hbd W
   simp only at h
   rw[this]at h
   cases h
 refine key.mono fun e W' ⟨κ',e1,_,_,e4,v,e5,e6⟩ => ?_
 subst e1
 have hb:Below W.heap.size W κ'.w:=⟨e4.os,e4.tape,e4.output,e4.size,fun k hk=>e4.frame k hk fun b n h=>by simp at h⟩
 have Li:v=.bool true:=by
  obtain⟨cs,g1,g2⟩:=RD.b7 (show RD κ' (.zW .bool true) v from e6)
  rw[g1.gS]at g2
  exact g2
 subst Li
 have qp:∀ x∈p,x.block<W.heap.size:=fun x hx=>by simpa using hW'.lt x hx
 refine⟨_,e5,ds,[],p,[],p,[],hW',?_,?_,?_,hb.frame _,fun h=>by cases h⟩
 ·rw[List.append_nil,hs ds h4,hr]
  exact trodAll_cons_mk (shut_bool hbt _) trodAll_mk0
 ·rw[List.append_nil,hs ds h4]
  exact Gk hl hb _ _ _ _ hts hA qp
 ·rw[List.append_nil,hs ds h4,hv]
  rfl
end Go.AM
namespace Go.AM
def UC:List Ty→Type
 | []=>Unit
 | [τ]=>den τ
 | τ::σ::r=>den τ×UC (σ::r)
def W8.ty:W8→Ty | .rp τ=>τ | .im τ=>τ
def gM:List W8→Type
 | []=>Unit
 | [p]=>den p.ty
 | p::q::r=>den p.ty×gM (q::r)
def Ym:(p:W8)→den p.ty→D
 | .rp τ,x=>.xo τ x
 | .im τ,x=>.zW τ x
def ow:(l:List W8)→gM l→List D
 | [],_=>[]
 | [p],x=>[Ym p x]
 | p::q::r,x=>Ym p x.1::ow (q::r) x.2
def Bx:(l:List W8)→gM l
 | []=>()
 | [p]=>zb p.ty
 | p::q::r=>(zb p.ty,Bx (q::r))
inductive Sk where
 | im (τ:Ty) | row (b:Nat) (e:Ty) | op (b T:Nat) | un
def dT:List Sk→Type
 | []=>Unit
 | .im τ::r=>den τ×dT r
 | .row _ _::r=>dT r
 | .op _ _::r=>dT r
 | .un::r=>dT r
def Qt:(l:List Sk)→dT l
 | []=>()
 | .im τ::r=>(zb τ,Qt r)
 | .row _ _::r=>Qt r
 | .op _ _::r=>Qt r
 | .un::r=>Qt r
inductive Mc where
 | im (τ:Ty) | rp (τ:Ty) | pt (b:Nat)
def nG:List Mc→Type
 | []=>Unit
 | .im τ::r=>den τ×nG r
 | .rp τ::r=>den τ×nG r
 | .pt _::r=>nG r
def U2:(l:List Mc)→nG l
 | []=>()
 | .im τ::r=>(zb τ,U2 r)
 | .rp τ::r=>(zb τ,U2 r)
 | .pt _::r=>U2 r
def Zi:(l:List Mc)→nG l→List D
 | [],_=>[]
 | .im τ::r,x=>.zW τ x.1::Zi r x.2
 | .rp τ::r,x=>.xo τ x.1::Zi r x.2
 | .pt b::r,x=>.ptr b 0::Zi r x
inductive Dk where
 | zW (τ:Ty) | xo (τ:Ty) | sub (b:Nat) (e:Ty) | xk (f:Nat) (caps:List W8) | st (ks:List Sk) | mclo (f:Nat) (ms:List Mc)
inductive Ck where
 | ptr (b off:Nat) | cur (b:Nat) (e:Ty) | xm | yA | xX | xk (f:Nat) (l:List (Nat×Nat))
inductive Bk where
 | var (k:Dk) | cvar (k:Ck) | arr (e:Ty) | dead
def Dk.den:Dk→Type
 | .zW τ=>AM.den τ
 | .xo τ=>AM.den τ
 | .sub _ _=>Nat×Nat
 | .xk _ caps=>gM caps
 | .st ks=>dT ks
 | .mclo _ ms=>nG ms
def Dk.zb:(k:Dk)→k.den
 | .zW τ=>AM.zb τ
 | .xo τ=>AM.zb τ
 | .sub _ _=>(0,0)
 | .xk _ caps=>Bx caps
 | .st ks=>Qt ks
 | .mclo _ ms=>U2 ms
inductive It where
 | s (t:Nat) (k:Dk) | v (k:Dk) | a (e:Ty)
def It.den:It→Type
 | .s _ k=>k.den
 | .v k=>k.den
 | .a e=>List (AM.den e)
def It.zb:(i:It)→i.den
 | .s _ k=>k.zb
 | .v k=>k.zb
 | .a _=>[]
def wS:List It→Type
 | []=>Unit
 | [i]=>i.den
 | i::j::r=>i.den×wS (j::r)
def zcv:yd→Nat
 | .arr v _ _=>v
 | _=>0
def wk(st:St)(b:Nat):Nat:=match st[b]? with | some x=>zcv x | none=>0
def ve(st:St):(l:List Sk)→dT l→List D
 | [],_=>[]
 | .im τ::r,x=>AM.flat τ x.1++ve st r x.2
 | .row b e::r,x=>.ms b (wk st b) e 0 (wk st b)::ve st r x
 | .op b T::r,x=>.yf b T::ve st r x
 | .un::r,x=>.Zh::ve st r x
def pG(st:St):(k:Dk)→k.den→D
 | .zW τ,x=>.zW τ x
 | .xo τ,x=>.xo τ x
 | .sub b e,x=>.ms b (wk st b) e x.1 x.2
 | .xk f caps,x=>.xk f (ow caps x)
 | .st ks,x=>.agg (ve st ks x)
 | .mclo f ms,x=>.xk f (Zi ms x)
def CR(st:St):Ck→D
 | .ptr b off=>.ptr b off
 | .cur b e=>.ms b (wk st b) e 0 (wk st b)
 | .xm=>.xm
 | .yA=>.yA
 | .xX=>.xX
 | .xk f l=>.xk f (l.map fun p=>.ptr p.1 p.2)
def fY(st:St):(l:List It)→wS l→Fr
 | [],_=>[]
 | [.s t k],x=>[(t,some (pG st k x))]
 | [.v _],_=>[]
 | [.a _],_=>[]
 | .s t k::j::r,x=>(t,some (pG st k x.1))::fY st (j::r) x.2
 | .v _::j::r,x=>fY st (j::r) x.2
 | .a _::j::r,x=>fY st (j::r) x.2
def z6f(st:St)(l:List (Nat×Ck)):Fr:=l.map fun p=>(p.1,some (CR st p.2))
inductive Bd where
 | v (k:Dk) (x:k.den) | a (e:Ty) (x:List (AM.den e))
def oh:(l:List It)→wS l→List Bd
 | [],_=>[]
 | [.s _ _],_=>[]
 | [.v k],x=>[.v k x]
 | [.a e],x=>[.a e x]
 | .s _ _::j::r,x=>oh (j::r) x.2
 | .v k::j::r,x=>.v k x.1::oh (j::r) x.2
 | .a e::j::r,x=>.a e x.1::oh (j::r) x.2
def bC:List Bk→List Bd→St
 | [],_=>[]
 | .arr _::r,.a e x::d=>.arr x.length e x::bC r d
 | .var _::r,_::d=>.dead::bC r d
 | .cvar _::r,d=>.dead::bC r d
 | .dead::r,d=>.dead::bC r d
 | _::_,_=>[]
def vv(st:St):List Bk→List Bd→St
 | [],_=>[]
 | .arr _::r,.a e x::d=>.arr x.length e x::vv st r d
 | .var _::r,.v k x::d=>.var (pG st k x)::vv st r d
 | .cvar c::r,d=>.var (CR st c)::vv st r d
 | .dead::r,d=>.dead::vv st r d
 | _::_,_=>[]
def zdG(bs:List Bk)(d:List Bd):St:=vv (bC bs d) bs d
structure mm where
 pK:List It
 cs:List (Nat×Ck)
 bs:List Bk
def mm.den(s:mm):Type:=wS s.pK
def mm.st(s:mm)(x:s.den):St:=zdG s.bs (oh s.pK x)
def mm.fr(s:mm)(x:s.den):Fr:=fY (s.st x) s.pK x++z6f (s.st x) s.cs
def IA:(p:W8)→D→Option (den p.ty)
 | .rp τ,d=>match d with | .xo _ x=>vQ x | _=>none
 | .im τ,d=>dM τ d
def F8:(l:List W8)→List D→Option (gM l)
 | [],[]=>some ()
 | [p],[d]=>IA p d
 | p::q::r,d::ds=>(IA p d).bind fun x=>(F8 (q::r) ds).bind fun y=>some (x,y)
 | _,_=>none
def bV(st:St)(b:Nat):Nat:=match st[b]? with | some (.arr _ _ xs)=>xs.length | _=>0
def SP(st:St)(b T:Nat)(ds:List D):Option (List D):=match st[b]? with
 | some (.var _)=>match ds with
  | .dL T'::ds=>bif Nat.beq T T' then some ds else none
  | .yf b' T'::ds=>bif Nat.beq b b'&&Nat.beq T T' then some ds else none
  | _=>none
 | _=>none
def z64(ds:List D):Option (List D):=match ds with
 | d::ds=>bif d.one then some ds else none
 | _=>none
def fA(st:St):(l:List Sk)→List D→T (dT l)
 | [],ds=>match ds with | []=>.ret () | _=>.fail
 | .im τ::r,ds=>match jx τ ds with | some p=>(fA st r p.2).bind fun y=>.ret (p.1,y) | none=>.fail
 | .row b e::r,ds=>match ds with
  | .ms b' qR e' off len::ds=>bif Nat.beq b b'&&decide (e=e')then .zd (zh qR off len (bV st b)) (fA st r ds)else .fail
  | _=>.fail
 | .op b T::r,ds=>match SP st b T ds with | some q=>fA st r q | none=>.fail
 | .un::r,ds=>match z64 ds with | some q=>fA st r q | none=>.fail
def Z6:(l:List Mc)→List D→T (nG l)
 | [],ds=>match ds with | []=>.ret () | _=>.fail
 | .im τ::r,ds=>match ds with
  | d::ds=>match dM τ d with | some y=>(Z6 r ds).bind fun z=>.ret (y,z) | none=>.fail
  | _=>.fail
 | .rp τ::r,ds=>match ds with
  | .xo _ x::ds=>match(vQ x:Option (AM.den τ))with | some y=>(Z6 r ds).bind fun z=>.ret (y,z) | none=>.fail
  | _=>.fail
 | .pt b::r,ds=>match ds with
  | .ptr b' off::ds=>bif Nat.beq b b'&&Nat.beq off 0 then Z6 r ds else .fail
  | _=>.fail
def ZE(st:St):(k:Dk)→D→T k.den
 | .zW τ,d=>.V4 (dM τ d)
 | .xo τ,d=>match d with | .xo _ x=>.V4 (vQ x) | _=>.fail
 | .sub b e,d=>match d with
  | .ms b' qR e' off len=>bif Nat.beq b b'&&decide (e=e')then .zd (qR=wk st b) (.ret (off,len))else .fail
  | _=>.fail
 | .xk f caps,d=>match d with
  | .xk f' l=>bif Nat.beq f f' then .V4 (F8 caps l)else .fail
  | _=>.fail
 | .st ks,d=>bif d.dY then fA st ks (qq d)else .fail
 | .mclo f ms,d=>match d with
  | .xk f' l=>bif Nat.beq f f' then Z6 ms l else .fail
  | _=>.fail
def Zy:List (Nat×Nat)→List D→Bool
 | [],[]=>true
 | p::r,.ptr b off::ds=>Nat.beq p.1 b&&Nat.beq p.2 off&&Zy r ds
 | _,_=>false
def VO(st:St):Ck→D→T Unit
 | .ptr b off,d=>match d with | .ptr b' off'=>bif Nat.beq b b'&&Nat.beq off off' then .ret ()else .fail | _=>.fail
 | .cur b e,d=>match d with
  | .ms b' qR e' off len=>bif Nat.beq b b'&&decide (e=e')then .zd (zh qR off len (bV st b)) (.ret ())else .fail
  | _=>.fail
 | .xm,d=>match d with | .xm=>.ret () | _=>.fail
 | .yA,d=>match d with | .yA=>.ret () | _=>.fail
 | .xX,d=>match d with | .xX=>.ret () | _=>.fail
 | .xk f l,d=>match d with | .xk f' l'=>bif Nat.beq f f'&&Zy l l' then .ret ()else .fail | _=>.fail
def z1W(fr:Fr)(st:St):List (Nat×Ck)→T Unit
 | []=>.ret ()
 | p::r=>match fr.get p.1 with
  | some d=>(VO st p.2 d).bind fun _=>z1W fr st r
  | none=>.fail
def Rb(e:Ty)(b:yd):T (List (den e)):=match b with
 | .arr qR _ xs=>match(vQ (a:=.sl _) (b:=.sl e) xs:Option (List (den e)))with
  | some ys=>.zd (qR=ys.length) (.ret ys)
  | none=>.fail
 | _=>.fail
def Dk.plain:Dk→Bool
 | .zW _=>true
 | .xo _=>true
 | .st _=>true
 | _=>false
def Si(st:St)(k:Dk)(b:yd):T k.den:=match b with
 | .var d=>bif k.plain then ZE st k d else .fail
 | _=>.fail
def FM:yd→Bool | .var _=>true | _=>false
def KW(st:St):List Bk→List yd→T (List yd)
 | [],_=>.ret []
 | .arr _::r,b::bl=>(KW st r bl).bind fun l=>.ret (b::l)
 | .var _::r,b::bl=>(KW st r bl).bind fun l=>.ret (b::l)
 | .cvar c::r,.var d::bl=>(VO st c d).bind fun _=>KW st r bl
 | .dead::r,b::bl=>bif FM b then .fail else KW st r bl
 | _,_=>.fail
def Dt(fr:Fr)(st:St)(bl:List yd):(i:It)→T (i.den×List yd)
 | .s t k=>match fr.get t with | some d=>(ZE st k d).bind fun x=>.ret (x,bl) | none=>.fail
 | .v k=>match bl with | b::r=>(Si st k b).bind fun x=>.ret (x,r) | []=>.fail
 | .a e=>match bl with | b::r=>(Rb e b).bind fun x=>.ret (x,r) | []=>.fail
def CE{α:Type}(x:α×List yd):T α:=match x.2 with | []=>.ret x.1 | _=>.fail
def YD(fr:Fr)(st:St):(l:List It)→List yd→T (wS l)
 | [],bl=>CE ((),bl)
 | [i],bl=>(Dt fr st bl i).bind CE
 | i::j::r,bl=>(Dt fr st bl i).bind fun x=>(YD fr st (j::r) x.2).bind fun y=>.ret (x.1,y)
def rowAt(bs:List Bk)(b:Nat):Bool:=match bs[b]? with | some (.arr _)=>true | _=>false
def WY(bs:List Bk)(b:Nat):Bool:=match bs[b]? with | some (.var _)=>true | some (.cvar _)=>true | _=>false
def z22(bs:List Bk):Sk→Bool
 | .row b _=>rowAt bs b
 | .op b _=>WY bs b
 | _=>true
def zb0(bs:List Bk):Mc→Bool
 | .pt b=>WY bs b
 | _=>true
def BL(bs:List Bk):Dk→Bool
 | .mclo _ ms=>ms.all (zb0 bs)
 | .sub b _=>rowAt bs b
 | .st ks=>ks.all (z22 bs)
 | _=>true
def ME(bs:List Bk):Ck→Bool
 | .ptr b _=>WY bs b
 | .cur b _=>rowAt bs b
 | .xk _ l=>l.all fun p=>WY bs p.1
 | _=>true
def zgE(bs:List Bk):It→Bool
 | .s _ k=>BL bs k
 | .v k=>BL bs k
 | .a _=>true
def zgA(bs:List Bk):Bk→Bool
 | .cvar c=>ME bs c
 | _=>true
def kinds:List It→List Bool
 | []=>[]
 | .s _ _::r=>kinds r
 | .v _::r=>false::kinds r
 | .a _::r=>true::kinds r
def gk:List Bk→List Bool→Bool
 | [],[]=>true
 | .arr _::bs,b::r=>b&&gk bs r
 | .var _::bs,b::r => !b&&gk bs r
 | .cvar _::bs,l=>gk bs l
 | .dead::bs,l=>gk bs l
 | _,_=>false
def mm.ok(s:mm):Bool:=gk s.bs (kinds s.pK)&&s.pK.all (zgE s.bs)&&s.cs.all (fun p=>ME s.bs p.2)&&s.bs.all (zgA s.bs)
def mm.un(s:mm)(fr:Fr)(st:St):T s.den :=
 bif s.ok&&(st.take s.bs.length).all (Hp s.bs.length)then(z1W fr st s.cs).bind fun _=>(KW st s.bs st).bind fun bl=>YD fr st s.pK bl
 else .fail
structure Way where
 ex:Ex
 sh:mm
def yt:List Way→Type
 | []=>Empty
 | [w]=>w.sh.den
 | w::v::r=>w.sh.den⊕yt (v::r)
def I4{α:Type}:(l:List Way)→yt l→(Ex→Fr→St→T α)→T α
 | [],x,_=>nomatch x
 | [w],x,k=>k w.ex (w.sh.fr x) (w.sh.st x)
 | w::v::r,x,k=>Sum.elim (fun a=>k w.ex (w.sh.fr a) (w.sh.st a)) (fun b=>I4 (v::r) b k) x
def sD:Ex→Ex→Bool
 | .normal,.normal=>true
 | .ret,.ret=>true
 | .exit a,.exit b=>Nat.beq a b
 | .bU (.iface t _),.bU (.iface t' _)=>Nat.beq t t'
 | _,_=>false
def Y6:Ex→Fr→Fr
 | .bU (.iface _ d),_=>[(0,some d)]
 | _,fr=>fr
def Cf:Ex→Fr→Option (Ex×Fr)
 | .bU (.iface t _),fr=>match fr.get 0 with | some d=>some (.bU (.iface t d),[]) | none=>none
 | .bU _,_=>none
 | e,fr=>some (e,fr)
def GG:(l:List Way)→Ex→Fr→St→T (yt l)
 | [],_,_,_=>.fail
 | [w],ex,fr,st=>bif sD w.ex ex then w.sh.un fr st else .fail
 | w::v::r,ex,fr,st=>bif sD w.ex ex then(w.sh.un fr st).bind fun x=>.ret (.inl x)else(GG (v::r) ex fr st).bind fun y=>.ret (.inr y)
end Go.AM
namespace Go.AM
set_option linter.unusedSectionVars false
variable [uz] [B9]
section
variable {c:Ctx} {n:Nat}
theorem get_mem:∀ {l:Fr} {s:Nat} {d:D},l.get s=some d→(s,some d)∈l
 | [],s,d,h=>by cases h
 | (t,d')::r,s,d,h=>by
  simp only[Fr.get]at h
  cases ht:Nat.beq t s with
  | true =>
   rw[ht,cond_true]at h
   rw[Nat.eq_of_beq_eq_true ht,h]
   exact List.mem_cons_self
  | false=>rw[ht,cond_false]at h; exact List.mem_cons_of_mem _ (get_mem h)
theorem get_append{l m:Fr}{s:Nat}{d:D}(h:(l++m).get s=some d):(s,some d)∈l∨m.get s=some d:=by
 induction l with
 | nil=>exact .inr h
 | cons p r ih =>
  obtain⟨t,d'⟩:=p
  simp only[List.cons_append,Fr.get]at h
  cases ht:Nat.beq t s with
  | true=>rw[ht,cond_true]at h; rw[Nat.eq_of_beq_eq_true ht,h]; exact .inl List.mem_cons_self
  | false=>rw[ht,cond_false]at h; exact bW (ih h) (List.mem_cons_of_mem _) id
structure Wk(κ κ':KS):Prop where
 w:κ'.w=κ.w
 ok:κ'.ok=κ.ok
 ph:κ'.ph=κ.ph
 len:κ'.st.length=κ.st.length
 var:∀ (b:Nat) (d:D),κ.st[b]? = some (yd.var d)→∃ d',κ'.st[b]? = some (yd.var d')
 arr:∀ (b v:Nat) (e:Ty) (xs:List (den e)),κ.st[b]? = some (yd.arr v e xs)→κ'.st[b]? = some (yd.arr v e xs)∨κ'.st[b]? = some yd.dead
 arr':∀ (b v:Nat) (e:Ty) (xs:List (den e)),κ'.st[b]? = some (yd.arr v e xs)→κ.st[b]? = some (yd.arr v e xs)
 dead:∀ (b:Nat),κ.st[b]? = some yd.dead→κ'.st[b]? = some yd.dead
theorem Wk.ext{κ κ':KS}(h:Wk κ κ'):Ext κ κ':=by
 refine⟨by rw[h.w],by rw[h.w],by rw[h.w],by rw[h.w]; exact Nat.le_refl _,fun k hk=>⟨by rw[h.ok]; exact hk,by rw[h.w]⟩,fun k hk=>.inl (by rw[← h.ok]; exact hk),
  fun b blk m hb=>.inl (by rw[← h.ph]; exact hb),fun b d hd=>⟨h.var b d hd,by rw[h.ph]⟩,fun b v0 e xs hb => ?_,h.dead,by rw[h.len]; exact Nat.le_refl _,fun k _ _=>by rw[h.w]⟩
 rcases h.arr b v0 e xs hb with g | g
 ·exact .inr ⟨v0,xs,g,Nat.le_refl _,fun _=>⟨by rw[h.ph],rfl⟩⟩
 ·exact .inl g
theorem Wk.rd{κ κ':KS}(h:Wk κ κ'){d:D}{v:Value}(hd:RD κ d v):RD κ' d v:=hd.mono h.ext
theorem Wk.inv{κ κ':KS}(h:Wk κ κ')(hI:Inv κ)(hv:∀ (b:Nat) (d:D),κ'.st[b]? = some (yd.var d)→iH κ' b (.var d)):Inv κ':=by
 refine⟨by rw[h.ph,h.len]; exact hI.len,fun k hk=>by rw[h.w]; exact hI.y5 k (by rw[← h.ok]; exact hk),fun b blk m hb => ?_,fun b b' blk m m' hb Zm=>hI.inj b b' blk m m' (by rw[← h.ph]; exact hb) (by rw[← h.ph]; exact Zm),fun b x hx => ?_,hI.gl.mono h.ext.same⟩
 ·obtain⟨g1,g2⟩:=hI.apart b blk m (by rw[← h.ph]; exact hb)
  exact⟨by rw[h.w]; exact g1,fun hk=>g2 (by rw[← h.ok]; exact hk)⟩
 ·cases x with
  | dead=>trivial
  | var d=>exact hv b d hx
  | arr v e xs=>exact(hI.blk b _ (h.arr' b v e xs hx)).mono h.ext (by rw[h.ph]) fun blk m _=>by rw[h.w]
theorem Kx{p:W8}{d:D}{x:den p.ty}(h:IA p d=some x){κ:KS}{v:Value}(hd:RD κ d v):RD κ (Ym p x) v:=by
 cases p with
 | rp τ =>
  cases d<;>simp only[IA]at h<;>try (cases h; done)
  obtain⟨e,hx⟩:=qz h
  cases e
  cases hx
  exact hd
 | im τ=>exact cE hd h
theorem Vo{κ:KS}:∀ (l:List W8) (ds:List D) (x:gM l) (vs:List Value),F8 l ds=some x→xv κ ds vs→xv κ (ow l x) vs
 | [],[],x,vs,_,hd=>by rw[hd.qG]; exact .nil
 | [],_::_,_,_,h,_=>nomatch h
 | [p],[],_,_,h,_=>nomatch h
 | [p],[d],x,vs,h,hd=>by
  obtain⟨v,us,rfl,h1,h2⟩:=hd.cons_inv
  rw[h2.qG]
  exact .cons (Kx h h1) .nil
 | [p],_::_::_,_,_,h,_=>nomatch h
 | p::q::r,[],_,_,h,_=>nomatch h
 | p::q::r,d::ds,x,vs,h,hd=>by
  obtain⟨y,hy,h⟩:=Option.bind_eq_some_iff.1 h
  obtain⟨z,hz,h⟩:=Option.bind_eq_some_iff.1 h
  cases h
  obtain⟨v,us,rfl,h1,h2⟩:=hd.cons_inv
  exact .cons (Kx hy h1) (Vo (q::r) ds z us hz h2)
theorem SU{κ:KS}{d:D}{v:Value}(hd:RD κ d v)(ha:d.dY=true):∃ c,v=.agg c:=by
 cases hd with
 | zW τ x cs h=>exact⟨cs.toArray,by unfold pk; rw[show τ.isAgg=true from ha]; rfl⟩
 | agg l vs hl ho h=>exact⟨_,rfl⟩
 | _=>cases ha
theorem z1G{κ:KS}{b T:Nat}{ds q:List D}{vs:List Value}(hd:xv κ ds vs)(h:SP κ.st b T ds=some q):∃ v us,vs=v::us∧RD κ (.yf b T) v∧xv κ q us:=by
 unfold SP at h
 split at h
 ·rename_i d0 H7
  split at h
  ·rename_i T' ds
   cases hb:Nat.beq T T' with
   | false=>rw[hb]at h; cases h
   | true =>
    rw[hb]at h
    cases h
    obtain⟨v,us,rfl,g1,g2⟩:=hd.cons_inv
    exact⟨v,us,rfl,by cases g1; exact .dv b T d0 H7,g2⟩
  ·rename_i b' T' ds
   cases hb:Nat.beq b b'&&Nat.beq T T' with
   | false=>rw[hb]at h; cases h
   | true =>
    rw[hb]at h
    cases h
    simp only[Bool.and_eq_true]at hb
    have e1:=Nat.eq_of_beq_eq_true hb.1
    have e2:=Nat.eq_of_beq_eq_true hb.2
    subst e1 e2
    obtain⟨v,us,rfl,g1,g2⟩:=hd.cons_inv
    exact⟨v,us,rfl,g1,g2⟩
  ·cases h
 ·cases h
theorem EK{st:St}{b T:Nat}{ds q:List D}(h:SP st b T ds=some q):gX ds=some T:=by
 unfold SP at h
 split at h
 ·split at h
  ·rename_i T' ds
   cases hb:Nat.beq T T' with
   | false=>rw[hb]at h; cases h
   | true=>rw[Nat.eq_of_beq_eq_true hb]; rfl
  ·rename_i b' T' ds
   cases hb:Nat.beq b b'&&Nat.beq T T' with
   | false=>rw[hb]at h; cases h
   | true =>
    simp only[Bool.and_eq_true]at hb
    rw[Nat.eq_of_beq_eq_true hb.2]; rfl
  ·cases h
 ·cases h
theorem z1d{κ:KS}{ds q:List D}{vs:List Value}(hd:xv κ ds vs)(h:z64 ds=some q):∃ v us,vs=v::us∧RD κ .Zh v∧xv κ q us:=by
 unfold z64 at h
 split at h
 ·rename_i d ds
  cases hb:d.one with
  | false=>rw[hb]at h; cases h
  | true =>
   rw[hb]at h
   cases h
   obtain⟨v,us,rfl,g1,g2⟩:=hd.cons_inv
   exact⟨v,us,rfl,.Zh v (g1.Ur hb),g2⟩
 ·cases h
theorem fk{κ:KS}{zL:St}{bs:List Bk}(fE:∀ b,rowAt bs b=true→wk zL b=bV κ.st b):∀ (ks:List Sk) (ds:List D) (x:dT ks) (vs:List Value),ks.all (z22 bs)=true→(fA κ.st ks ds).leads x→xv κ ds vs →
  xv κ (ve zL ks x) vs∧∀ d∈ve zL ks x,d.one=true
 | [],ds,x,vs,_,h,hd=>by
  cases ds with
  | nil=>exact⟨hd,fun d hm=>by cases hm⟩
  | cons d r=>exact h.elim
 | .im τ::r,ds,x,vs,ho,h,hd=>by
  simp only[fA]at h
  split at h
  ·rename_i p hp
   obtain⟨y,h1,h2⟩:=T.zg.1 h
   cases h2
   obtain⟨c1,c2,rfl,g1,g2⟩:=tK τ hd hp
   simp only[List.all_cons,Bool.and_eq_true]at ho
   obtain⟨k1,k2⟩:=fk fE r p.2 y c2 ho.2 h1 g2
   refine⟨(sK g1).append k1,fun d hm => ?_⟩
   rcases List.mem_append.1 (show d∈flat τ p.1++ve zL r y from hm)with hm | hm
   ·exact dJ τ _ d hm
   ·exact k2 d hm
  ·exact h.elim
 | .row b e::r,ds,x,vs,ho,h,hd=>by
  cases ds with
  | nil=>exact h.elim
  | cons d ds =>
   cases d<;>simp only[fA]at h<;>try (exact h.elim)
   rename_i b' qR e' off len
   cases hb:Nat.beq b b'&&decide (e=e')with
   | false=>rw[hb]at h; exact h.elim
   | true =>
    rw[hb,cond_true]at h
    simp only[Bool.and_eq_true,decide_eq_true_eq]at hb
    obtain⟨⟨h1,h2,h3⟩,h⟩:=h
    have:=Nat.eq_of_beq_eq_true hb.1
    obtain⟨-,rfl⟩:=hb
    subst this
    obtain⟨v,us,rfl,g1,g2⟩:=hd.cons_inv
    simp only[List.all_cons,Bool.and_eq_true]at ho
    obtain⟨k1,k2⟩:=fk fE r ds x us ho.2 h g2
    have e1:ve zL (.row b e::r) x=.ms b qR e off len::ve zL r x:=by
     show D.ms b (wk zL b) e 0 (wk zL b)::_=_
     rw[fE b ho.1,h1,h2,h3]
    rw[e1]
    refine⟨.cons g1 k1,fun d hm => ?_⟩
    rcases List.mem_cons.1 hm with rfl | hm
    ·rfl
    ·exact k2 d hm
 | .op b T::r,ds,x,vs,ho,h,hd=>by
  simp only[List.all_cons,Bool.and_eq_true]at ho
  simp only[fA]at h
  split at h
  ·rename_i q hq
   obtain⟨v,us,rfl,g0,g2⟩:=z1G hd hq
   obtain⟨k1,k2⟩:=fk fE r q x us ho.2 h g2
   refine⟨show xv κ (D.yf b T::ve zL r x) (v::us)from .cons g0 k1,fun d hm => ?_⟩
   rcases List.mem_cons.1 (show d∈D.yf b T::ve zL r x from hm)with rfl | hm
   ·rfl
   ·exact k2 d hm
  ·exact h.elim
 | .un::r,ds,x,vs,ho,h,hd=>by
  simp only[List.all_cons,Bool.and_eq_true]at ho
  simp only[fA]at h
  split at h
  ·rename_i q hq
   obtain⟨v,us,rfl,g0,g2⟩:=z1d hd hq
   obtain⟨k1,k2⟩:=fk fE r q x us ho.2 h g2
   refine⟨show xv κ (D.Zh::ve zL r x) (v::us)from .cons g0 k1,fun d hm => ?_⟩
   rcases List.mem_cons.1 (show d∈D.Zh::ve zL r x from hm)with rfl | hm
   ·rfl
   ·exact k2 d hm
  ·exact h.elim
theorem so{st zL:St}{bs:List Bk}(h:∀ b,rowAt bs b=true→wk st b=wk zL b):∀ (ks:List Sk) (x:dT ks),ks.all (z22 bs)=true→ve st ks x=ve zL ks x
 | [],_,_=>rfl
 | .im τ::r,x,ho=>by
  simp only[List.all_cons,Bool.and_eq_true]at ho
  show flat τ x.1++ve st r x.2=flat τ x.1++ve zL r x.2
  rw[so h r x.2 ho.2]
 | .row b e::r,x,ho=>by
  simp only[List.all_cons,Bool.and_eq_true]at ho
  show D.ms b (wk st b) e 0 (wk st b)::ve st r x=D.ms b (wk zL b) e 0 (wk zL b)::ve zL r x
  rw[so h r x ho.2,h b ho.1]
 | .op b T::r,x,ho=>by
  simp only[List.all_cons,Bool.and_eq_true]at ho
  show D.yf b T::ve st r x=D.yf b T::ve zL r x
  rw[so h r x ho.2]
 | .un::r,x,ho=>by
  simp only[List.all_cons,Bool.and_eq_true]at ho
  show D.Zh::ve st r x=D.Zh::ve zL r x
  rw[so h r x ho.2]
theorem JG:∀ (τ:Ty) (x:den τ),∀ y∈flat τ x,∃ σ z,y=.zW σ z:=by
 intro τ x y hy
 induction τ with
 | cons a b ia ib =>
  simp only[flat,List.mem_append]at hy
  rcases hy with hy | hy
  ·exact ia _ hy
  ·exact ib _ hy
 | nil=>simp[flat]at hy
 | expr=>simp[flat]at hy; rcases hy with rfl | rfl | rfl | rfl | rfl | rfl<;>exact⟨_,_,rfl⟩
 | _=>simp[flat]at hy; subst hy; exact⟨_,_,rfl⟩
theorem GD:∀ (τ:Ty) {ds:List D} {p:den τ×List D},jx τ ds=some p→τ.size=0→p.2=ds:=by
 intro τ
 induction τ with
 | nil=>intro ds p h _; simp only[jx,Option.some.injEq]at h; subst h; rfl
 | cons a b ia ib =>
  intro ds p h hz
  simp only[Ty.size]at hz
  simp only[jx]at h
  split at h
  ·rename_i q hq
   split at h
   ·rename_i q' hq'
    cases h
    have h1:=ia hq (by omega)
    have h2:=ib hq' (by omega)
    simp only at h1 h2 ⊢
    rw[h2,h1]
   ·cases h
  ·cases h
 | _=>intro ds p h hz; simp[Ty.size]at hz
theorem WD{st zL:St}{tt:Nat}:∀ (ks:List Sk) (ds:List D) (x:dT ks),(fA st ks ds).leads x→gX (ve zL ks x)=some tt→gX ds=some tt
 | [],ds,x,h,ht=>by cases ht
 | .im τ::r,ds,x,h,ht=>by
  simp only[fA]at h
  split at h
  ·rename_i p hp
   obtain⟨y,h1,h2⟩:=T.zg.1 h
   cases h2
   have ht':gX (flat τ p.1++ve zL r y)=some tt:=ht
   cases hf:flat τ p.1 with
   | nil =>
    rw[hf]at ht'
    have hz:τ.size=0:=by rw[← jY τ p.1,hf]; rfl
    have:=GD τ hp hz
    rw[← this]
    exact WD r p.2 y h1 ht'
   | cons z zs =>
    rw[hf]at ht'
    obtain⟨σ,w,e⟩:=JG τ p.1 z (by rw[hf]; simp)
    rw[e]at ht'
    cases ht'
  ·exact h.elim
 | .row b e::r,ds,x,h,ht=>by cases ht
 | .op b T'::r,ds,x,h,ht=>by
  simp only[fA]at h
  split at h
  ·rename_i q hq
   cases ht
   exact EK hq
  ·exact h.elim
 | .un::r,ds,x,h,ht=>by cases ht
theorem WW{d:D}{T:Nat}(ha:d.dY=true)(h:gX (qq d)=some T):d.typed=some T:=by
 cases d with
 | zW τ x =>
  exfalso
  simp only[qq]at h
  cases hf:flat τ x with
  | nil=>rw[hf]at h; cases h
  | cons z zs =>
   obtain⟨σ,w,e⟩:=JG τ x z (by rw[hf]; simp)
   rw[hf,e]at h
   cases h
 | agg l=>exact h
 | _=>cases ha
theorem HY{m:Nat}(τ:Ty)(x:den τ):∀ d∈flat τ x,vJ m d=true:=fun d hd=>by
 obtain⟨σ,z,rfl⟩:=JG τ x d hd
 rfl
theorem kY{m:Nat}{st:St}{bs:List Bk}(hb:∀ b,rowAt bs b=true→b<m)(Py:∀ b,WY bs b=true→b<m):∀ (ks:List Sk) (x:dT ks),ks.all (z22 bs)=true→∀ d∈ve st ks x,vJ m d=true
 | [],_,_,d,hd=>by cases hd
 | .im τ::r,x,ho,d,hd=>by
  simp only[List.all_cons,Bool.and_eq_true]at ho
  rcases List.mem_append.1 (show d∈flat τ x.1++ve st r x.2 from hd)with hd | hd
  ·exact HY τ _ d hd
  ·exact kY hb Py r x.2 ho.2 d hd
 | .row b e::r,x,ho,d,hd=>by
  simp only[List.all_cons,Bool.and_eq_true]at ho
  rcases List.mem_cons.1 (show d∈D.ms b (wk st b) e 0 (wk st b)::ve st r x from hd)with rfl | hd
  ·have:=hb b ho.1
   simp only[vJ,Nat.blt,Nat.ble_eq]; exact this
  ·exact kY hb Py r x ho.2 d hd
 | .op b T::r,x,ho,d,hd=>by
  simp only[List.all_cons,Bool.and_eq_true]at ho
  rcases List.mem_cons.1 (show d∈D.yf b T::ve st r x from hd)with rfl | hd
  ·have:=Py b ho.1
   simp only[vJ,Nat.blt,Nat.ble_eq]; exact this
  ·exact kY hb Py r x ho.2 d hd
 | .un::r,x,ho,d,hd=>by
  simp only[List.all_cons,Bool.and_eq_true]at ho
  rcases List.mem_cons.1 (show d∈D.Zh::ve st r x from hd)with rfl | hd
  ·rfl
  ·exact kY hb Py r x ho.2 d hd
theorem td{κ:KS}:∀ (ms:List Mc) (ds:List D) (x:nG ms) (vs:List Value),(Z6 ms ds).leads x→xv κ ds vs→xv κ (Zi ms x) vs
 | [],ds,x,vs,h,hd=>by
  cases ds with
  | nil=>exact hd
  | cons d r=>exact h.elim
 | .im τ::r,ds,x,vs,h,hd=>by
  cases ds with
  | nil=>exact h.elim
  | cons d ds =>
   simp only[Z6]at h
   split at h
   ·rename_i y hy
    obtain⟨z,h1,h2⟩:=T.zg.1 h
    cases h2
    obtain⟨v,us,rfl,g1,g2⟩:=hd.cons_inv
    exact .cons (cE g1 hy) (td r ds z us h1 g2)
   ·exact h.elim
 | .rp τ::r,ds,x,vs,h,hd=>by
  cases ds with
  | nil=>exact h.elim
  | cons d ds =>
   cases d<;>simp only[Z6]at h<;>try (exact h.elim)
   split at h
   ·rename_i y hy
    obtain⟨e,hx⟩:=qz hy
    cases e
    cases hx
    obtain⟨z,h1,h2⟩:=T.zg.1 h
    cases h2
    obtain⟨v,us,rfl,g1,g2⟩:=hd.cons_inv
    exact .cons g1 (td r ds z us h1 g2)
   ·exact h.elim
 | .pt b::r,ds,x,vs,h,hd=>by
  cases ds with
  | nil=>exact h.elim
  | cons d ds =>
   cases d<;>simp only[Z6]at h<;>try (exact h.elim)
   rename_i b' off
   cases hb:Nat.beq b b'&&Nat.beq off 0 with
   | false=>rw[hb]at h; exact h.elim
   | true =>
    rw[hb]at h
    replace h:(Z6 r ds).leads x:=h
    simp only[Bool.and_eq_true]at hb
    have e1:=Nat.eq_of_beq_eq_true hb.1
    have e2:=Nat.eq_of_beq_eq_true hb.2
    subst e1 e2
    obtain⟨v,us,rfl,g1,g2⟩:=hd.cons_inv
    exact .cons g1 (td r ds x us h g2)
theorem eP{m:Nat}{bs:List Bk}(hb:∀ b,WY bs b=true→b<m):∀ (ms:List Mc) (x:nG ms),ms.all (zb0 bs)=true→∀ d∈Zi ms x,vJ m d=true
 | [],_,_,d,hd=>by cases hd
 | .im τ::r,x,ho,d,hd=>by
  simp only[List.all_cons,Bool.and_eq_true]at ho
  rcases List.mem_cons.1 (show d∈D.zW τ x.1::Zi r x.2 from hd)with rfl | hd
  ·rfl
  ·exact eP hb r x.2 ho.2 d hd
 | .rp τ::r,x,ho,d,hd=>by
  simp only[List.all_cons,Bool.and_eq_true]at ho
  rcases List.mem_cons.1 (show d∈D.xo τ x.1::Zi r x.2 from hd)with rfl | hd
  ·rfl
  ·exact eP hb r x.2 ho.2 d hd
 | .pt b::r,x,ho,d,hd=>by
  simp only[List.all_cons,Bool.and_eq_true]at ho
  rcases List.mem_cons.1 (show d∈D.ptr b 0::Zi r x from hd)with rfl | hd
  ·have:=hb b ho.1
   simp only[vJ,Nat.blt,Nat.ble_eq]; exact this
  ·exact eP hb r x ho.2 d hd
theorem GB{κ κ':KS}(hw:Wk κ κ'){k:Dk}{d:D}{x:k.den}{v:Value}{bs:List Bk}(wg:BL bs k=true)(fE:∀ b,rowAt bs b=true→wk κ'.st b=wk κ.st b)
  {zL:St} (xN:∀ b,rowAt bs b=true→wk zL b=wk κ'.st b) (hlen:∀ b,rowAt bs b=true→wk κ.st b=bV κ.st b) (h:(ZE κ.st k d).leads x) (hd:RD κ d v):RD κ' (pG zL k x) v:=by
 cases k with
 | zW τ=>exact hw.rd (cE hd (T.ue.1 h))
 | xo τ =>
  cases d<;>simp only[ZE]at h<;>try (exact h.elim)
  obtain⟨e,hx⟩:=qz (T.ue.1 h)
  cases e
  cases hx
  exact hw.rd hd
 | sub b e =>
  cases d<;>simp only[ZE]at h<;>try (exact h.elim)
  rename_i b' qR e' off len
  cases hb:Nat.beq b b'&&decide (e=e')with
  | false=>rw[hb]at h; exact h.elim
  | true =>
   rw[hb,cond_true]at h
   simp only[Bool.and_eq_true,decide_eq_true_eq]at hb
   obtain⟨hv,h⟩:=h
   cases h
   have:=Nat.eq_of_beq_eq_true hb.1
   obtain⟨-,rfl⟩:=hb
   subst this
   simp only[pG]
   rw[xN b wg,fE b wg,← hv]
   exact hw.rd hd
 | xk f caps =>
  cases d<;>simp only[ZE]at h<;>try (exact h.elim)
  rename_i f' l
  cases hb:Nat.beq f f' with
  | false=>rw[hb]at h; exact h.elim
  | true =>
   rw[hb,cond_true]at h
   have:=Nat.eq_of_beq_eq_true hb
   subst this
   have hx:=T.ue.1 h
   cases hd with
   | xk _ _ vs hl hh =>
    have:=Vo caps l x vs hx (⟨hl,hh⟩:xv κ l vs)
    exact hw.rd (.xk f _ vs this.1 this.2)
 | st ks =>
  simp only[ZE]at h
  cases ha:d.dY with
  | false=>rw[ha]at h; exact h.elim
  | true =>
   rw[ha]at h
   replace h:(fA κ.st ks (qq d)).leads x:=h
   have ht:d.uy=false:=by cases d<;>first | rfl | (simp[D.dY]at ha)
   obtain⟨g1,g2⟩:=fk (zL:=zL) (fun b hb=>(xN b hb).trans ((fE b hb).trans (hlen b hb))) ks (qq d) x _ wg h (jq hd ht)
   obtain⟨c,hc⟩:=SU hd ha
   subst hc
   have g1':xv κ (ve zL ks x) c.toList:=g1
   have:=RD.agg (κ:=κ) _ c.toList g1'.1 g2 g1'.2
   exact hw.rd (show RD κ (.agg (ve zL ks x)) (.agg c) by simpa using this)
 | mclo f ms =>
  cases d<;>simp only[ZE]at h<;>try (exact h.elim)
  rename_i f' l
  cases hb:Nat.beq f f' with
  | false=>rw[hb]at h; exact h.elim
  | true =>
   rw[hb]at h
   replace h:(Z6 ms l).leads x:=h
   have:=Nat.eq_of_beq_eq_true hb
   subst this
   cases hd with
   | xk _ _ vs hl hh =>
    have:=td ms l x vs h (⟨hl,hh⟩:xv κ l vs)
    exact hw.rd (show RD κ (.xk f (Zi ms x)) _ from .xk f _ vs this.1 this.2)
theorem YY:∀ {l:List (Nat×Nat)} {ds:List D},Zy l ds=true→ds=l.map fun p=>.ptr p.1 p.2
 | [],[],_=>rfl
 | [],_::_,h=>by simp[Zy]at h
 | p::r,[],h=>by simp[Zy]at h
 | p::r,d::ds,h=>by
  cases d<;>simp only[Zy]at h<;>try (cases h; done)
  simp only[Bool.and_eq_true]at h
  rw[YY h.2,← Nat.eq_of_beq_eq_true h.1.1,← Nat.eq_of_beq_eq_true h.1.2]
  rfl
theorem z0T{st zL:St}{ck:Ck}{d:D}{bs:List Bk}(wg:ME bs ck=true)(fE:∀ b,rowAt bs b=true→wk zL b=bV st b)(h:(VO st ck d).leads ()):CR zL ck=d:=by
 cases ck with
 | ptr b off =>
  cases d<;>simp only[VO]at h<;>try (exact h.elim)
  rename_i b' off'
  cases hb:Nat.beq b b'&&Nat.beq off off' with
  | false=>rw[hb]at h; exact h.elim
  | true =>
   simp only[Bool.and_eq_true]at hb
   rw[← Nat.eq_of_beq_eq_true hb.1,← Nat.eq_of_beq_eq_true hb.2]
   rfl
 | cur b e =>
  cases d<;>simp only[VO]at h<;>try (exact h.elim)
  rename_i b' qR e' off len
  cases hb:Nat.beq b b'&&decide (e=e')with
  | false=>rw[hb]at h; exact h.elim
  | true =>
   rw[hb,cond_true]at h
   simp only[Bool.and_eq_true,decide_eq_true_eq]at hb
   obtain⟨⟨h1,h2,h3⟩,_⟩:=h
   have:=Nat.eq_of_beq_eq_true hb.1
   obtain⟨-,rfl⟩:=hb
   subst this
   simp only[CR]
   rw[fE b wg,h1,h2,h3]
 | xm=>cases d<;>simp only[VO]at h<;>first | rfl | exact h.elim
 | yA=>cases d<;>simp only[VO]at h<;>first | rfl | exact h.elim
 | xX=>cases d<;>simp only[VO]at h<;>first | rfl | exact h.elim
 | xk f l =>
  cases d<;>simp only[VO]at h<;>try (exact h.elim)
  rename_i f' l'
  cases hb:Nat.beq f f'&&Zy l l' with
  | false=>rw[hb]at h; exact h.elim
  | true =>
   simp only[Bool.and_eq_true]at hb
   rw[← Nat.eq_of_beq_eq_true hb.1,YY hb.2]
   rfl
theorem CN{fr:Fr}{st:St}:∀ {cs:List (Nat×Ck)},(z1W fr st cs).leads ()→∀ p∈cs,∃ d,fr.get p.1=some d∧(VO st p.2 d).leads ()
 | [],_,p,hp=>by cases hp
 | q::r,h,p,hp=>by
  simp only[z1W]at h
  split at h
  ·rename_i d hd
   simp only[T.zS]at h
   obtain⟨⟨⟩,h1,h2⟩:=h
   rcases List.mem_cons.1 hp with rfl | hp
   ·exact⟨d,hd,h1⟩
   ·exact CN h2 p hp
  ·exact h.elim
def O2(p:Dk→Bool)(st:St):List yd→List Bd→Prop
 | [],[]=>True
 | b::bl,.a e xs::r=>b=.arr xs.length e xs∧O2 p st bl r
 | b::bl,.v k x::r=>(∃ d,b=.var d∧(k.plain=true∧p k=true)∧(ZE st k d).leads x)∧O2 p st bl r
 | _,_=>False
theorem Pt{e:Ty}{b:yd}{x:List (den e)}(h:(Rb e b).leads x):b=.arr x.length e x:=by
 unfold Rb at h
 split at h
 ·split at h
  ·rename_i ys hy
   obtain⟨h1,h2⟩:=h
   cases h2
   obtain⟨he,hx⟩:=qz hy
   cases he
   cases hx
   rw[h1]
  ·exact h.elim
 ·exact h.elim
theorem z06{st:St}{k:Dk}{b:yd}{x:k.den}(h:(Si st k b).leads x):∃ d,b=.var d∧k.plain=true∧(ZE st k d).leads x:=by
 cases b with
 | var d =>
  simp only[Si]at h
  cases hp:k.plain with
  | false=>rw[hp]at h; exact h.elim
  | true=>rw[hp]at h; exact⟨d,rfl,rfl,h⟩
 | _=>exact h.elim
def KV(st:St):(i:It)→i.den→Fr
 | .s t k,x=>[(t,some (pG st k x))]
 | .v _,_=>[]
 | .a _,_=>[]
def SK:(i:It)→i.den→List Bd
 | .s _ _,_=>[]
 | .v k,x=>[.v k x]
 | .a e,x=>[.a e x]
theorem Kr(st:St)(i:It)(x:i.den):fY st [i] x=KV st i x:=by cases i<;>rfl
theorem XZ(st:St)(i j:It)(r:List It)(x:i.den×wS (j::r)):fY st (i::j::r) x=KV st i x.1++fY st (j::r) x.2:=by cases i<;>rfl
theorem Ru(i:It)(x:i.den):oh [i] x=SK i x:=by cases i<;>rfl
theorem MQ(i j:It)(r:List It)(x:i.den×wS (j::r)):oh (i::j::r) x=SK i x.1++oh (j::r) x.2:=by cases i<;>rfl
def zc4(fr:Fr)(st zL:St)(l:List It)(p:Nat×Option D):Prop:=∃ (k:Dk) (y:k.den) (d:D),(It.s p.1 k)∈l∧fr.get p.1=some d∧(ZE st k d).leads y∧p.2=some (pG zL k y)
theorem LQ{p:Dk→Bool}{fr:Fr}{st zL:St}{bl:List yd}{i:It}{x:i.den×List yd}(hp:∀ k,i=.v k→p k=true)(h:(Dt fr st bl i).leads x) :
  (∀ bd,O2 p st x.2 bd→O2 p st bl (SK i x.1++bd))∧∀ p∈KV zL i x.1,zc4 fr st zL [i] p:=by
 cases i with
 | s t k =>
  simp only[Dt]at h
  split at h
  ·rename_i d hd
   rw[T.zS]at h
   obtain⟨y,h1,rfl⟩:=h
   refine⟨fun bd hb=>hb,fun p hp => ?_⟩
   simp only[KV,List.mem_singleton]at hp
   subst hp
   exact⟨k,y,d,by simp,hd,h1,rfl⟩
  ·exact h.elim
 | v k =>
  cases bl with
  | nil=>exact h.elim
  | cons b r =>
   simp only[Dt]at h
   rw[T.zS]at h
   obtain⟨y,h1,rfl⟩:=h
   obtain⟨d,q1,q2,q3⟩:=z06 h1
   exact⟨fun bd hb=>⟨⟨d,q1,⟨q2,hp k rfl⟩,q3⟩,hb⟩,fun p hp=>by cases hp⟩
 | a e =>
  cases bl with
  | nil=>exact h.elim
  | cons b r =>
   simp only[Dt]at h
   rw[T.zS]at h
   obtain⟨y,h1,rfl⟩:=h
   exact⟨fun bd hb=>⟨Pt h1,hb⟩,fun p hp=>by cases hp⟩
theorem CD{α:Type}{x:α×List yd}{y:α}(h:(CE x).leads y):x=(y,[]):=by
 obtain⟨a,bl⟩:=x
 cases bl with
 | nil=>cases h; rfl
 | cons=>exact h.elim
theorem X5{p:Dk→Bool}{fr:Fr}{st zL:St}:∀ (l:List It) (bl:List yd) (x:wS l),(∀ k,It.v k∈l→p k=true)→(YD fr st l bl).leads x →
  O2 p st bl (oh l x)∧∀ p∈fY zL l x,zc4 fr st zL l p
 | [],bl,x,_,h=>by
  have h':(CE ((),bl)).leads x:=h
  have:=CD h'
  cases this
  exact⟨trivial,fun p hp=>by cases hp⟩
 | [i],bl,x,hp,h=>by
  have h':((Dt fr st bl i).bind CE).leads x:=h
  obtain⟨y,h1,h2⟩:=T.zg.1 h'
  have:=CD h2
  subst this
  obtain⟨g1,g2⟩:=LQ (p:=p) (zL:=zL) (fun k hk=>hp k (by simp[hk])) h1
  have e1:oh [i] x=SK i x:=Ru i x
  have e2:fY zL [i] x=KV zL i x:=Kr zL i x
  rw[e1,e2]
  refine⟨?_,g2⟩
  have:=g1 [] trivial
  rwa [List.append_nil]at this
 | i::j::r,bl,x,hp,h=>by
  have h':((Dt fr st bl i).bind fun x=>(YD fr st (j::r) x.2).bind fun y=>T.ret (x.1,y)).leads x:=h
  obtain⟨y,h1,h2⟩:=T.zg.1 h'
  obtain⟨z,h3,h4⟩:=T.zg.1 h2
  cases h4
  obtain⟨g1,g2⟩:=LQ (p:=p) (zL:=zL) (fun k hk=>hp k (by simp[hk])) h1
  obtain⟨k1,k2⟩:=X5 (p:=p) (zL:=zL) (j::r) y.2 z (fun k hk=>hp k (List.mem_cons_of_mem _ hk)) h3
  have e1:oh (i::j::r) (y.1,z)=SK i y.1++oh (j::r) z:=MQ i j r (y.1,z)
  have e2:fY zL (i::j::r) (y.1,z)=KV zL i y.1++fY zL (j::r) z:=XZ zL i j r (y.1,z)
  rw[e1,e2]
  refine⟨g1 _ k1,fun p hp => ?_⟩
  rcases List.mem_append.1 hp with hp | hp
  ·obtain⟨k,w,d,q1,q2⟩:=g2 p hp
   exact⟨k,w,d,by simp at q1; simp[q1],q2⟩
  ·obtain⟨k,w,d,q1,q2⟩:=k2 p hp
   exact⟨k,w,d,List.mem_cons_of_mem _ q1,q2⟩
inductive G9(p:Dk→Bool)(st zL:St):Bk→yd→yd→Prop
 | arr (e e':Ty) (xs:List (den e)):G9 p st zL (.arr e') (.arr xs.length e xs) (.arr xs.length e xs)
 | var (k k':Dk) (d:D) (x:k.den) (hp:k.plain=true∧p k=true) (h:(ZE st k d).leads x):G9 p st zL (.var k') (.var d) (.var (pG zL k x))
 | cvar (ck:Ck) (d:D) (h:(VO st ck d).leads ()):G9 p st zL (.cvar ck) (.var d) (.var (CR zL ck))
 | dead (b:yd) (h:FM b=false):G9 p st zL .dead b .dead
def cH:List Bd→List Bool
 | []=>[]
 | .v _ _::r=>false::cH r
 | .a _ _::r=>true::cH r
theorem o7:∀ (l:List It) (x:wS l),cH (oh l x)=kinds l
 | [],_=>rfl
 | [.s _ _],_=>rfl
 | [.v _],_=>rfl
 | [.a _],_=>rfl
 | .s _ _::j::r,x=>o7 (j::r) x.2
 | .v _::j::r,x=>congrArg (false :: ·) (o7 (j::r) x.2)
 | .a _::j::r,x=>congrArg (true :: ·) (o7 (j::r) x.2)
theorem Qc{p:Dk→Bool}{st st0:St}:∀ {bs:List Bk} {blocks bl:List yd} {bd:List Bd},(KW st bs blocks).leads bl→O2 p st bl bd→gk bs (cH bd)=true →
  (vv st0 bs bd).length=bs.length∧(∀ b,rowAt bs b=true→wk (bC bs bd) b=bV blocks b∧wk (vv st0 bs bd) b=bV blocks b∧wk blocks b=bV blocks b) ∧
  ∀ (i:Nat) (k:Bk),bs[i]? = some k→∃ B B',blocks[i]? = some B∧(vv st0 bs bd)[i]? = some B'∧G9 p st st0 k B B'
 | [],blocks,bl,bd,h,hb,ho=>by
  refine⟨by simp[vv],fun b hb=>by simp[rowAt]at hb,fun i k hk=>by simp at hk⟩
 | k::r,[],bl,bd,h,hb,ho=>by cases k<;>exact h.elim
 | .arr e::r,b::blocks,bl,bd,h,hb,ho=>by
  simp only[KW,T.zS]at h
  obtain⟨l,h1,rfl⟩:=h
  cases bd with
  | nil=>exact hb.elim
  | cons q bd =>
   cases q with
   | v k x=>simp[cH,gk]at ho
   | a e' xs =>
    obtain⟨rfl,BY⟩:=hb
    simp only[cH,gk,Bool.true_and]at ho
    obtain⟨g1,g2,g3⟩:=Qc (st0:=st0) h1 BY ho
    refine⟨by simp[vv,g1],fun b hb => ?_,fun i k hk => ?_⟩
    ·cases b with
     | zero=>simp[bC,vv,wk,zcv,bV]
     | succ b=>have:=g2 b (by simpa[rowAt]using hb); simpa[bC,vv,wk,bV]using this
    ·cases i with
     | zero=>simp at hk; subst hk; exact⟨_,_,rfl,rfl,.arr e' e xs⟩
     | succ i=>simpa[vv]using g3 i k (by simpa using hk)
 | .var k0::r,b::blocks,bl,bd,h,hb,ho=>by
  simp only[KW,T.zS]at h
  obtain⟨l,h1,rfl⟩:=h
  cases bd with
  | nil=>exact hb.elim
  | cons q bd =>
   cases q with
   | a e' xs=>simp[cH,gk]at ho
   | v k x =>
    obtain⟨⟨d,rfl,hp,hd⟩,BY⟩:=hb
    simp only[cH,gk,Bool.not_false,Bool.true_and]at ho
    obtain⟨g1,g2,g3⟩:=Qc (st0:=st0) h1 BY ho
    refine⟨by simp[vv,g1],fun b hb => ?_,fun i k hk => ?_⟩
    ·cases b with
     | zero=>simp[rowAt]at hb
     | succ b=>have:=g2 b (by simpa[rowAt]using hb); simpa[bC,vv,wk,bV]using this
    ·cases i with
     | zero=>simp at hk; subst hk; exact⟨_,_,rfl,rfl,.var k k0 d x hp hd⟩
     | succ i=>simpa[vv]using g3 i k (by simpa using hk)
 | .cvar ck::r,b::blocks,bl,bd,h,hb,ho=>by
  cases b with
  | var d =>
   simp only[KW,T.zS]at h
   obtain⟨⟨⟩,h0,h1⟩:=h
   have ho':gk r (cH bd)=true:=by cases bd<;>simpa[gk]using ho
   obtain⟨g1,g2,g3⟩:=Qc (st0:=st0) h1 hb ho'
   have e1:vv st0 (.cvar ck::r) bd=.var (CR st0 ck)::vv st0 r bd:=by cases bd<;>rfl
   have e0:bC (.cvar ck::r) bd=.dead::bC r bd:=by cases bd<;>rfl
   rw[e0,e1]
   refine⟨by simp[g1],fun b hb => ?_,fun i k hk => ?_⟩
   ·cases b with
    | zero=>simp[rowAt]at hb
    | succ b=>have:=g2 b (by simpa[rowAt]using hb); simpa[wk,bV]using this
   ·cases i with
    | zero=>simp at hk; subst hk; exact⟨_,_,rfl,rfl,.cvar ck d h0⟩
    | succ i=>simpa using g3 i k (by simpa using hk)
  | _=>exact h.elim
 | .dead::r,b::blocks,bl,bd,h,hb,ho=>by
  simp only[KW]at h
  cases hv:FM b with
  | true=>rw[hv]at h; exact h.elim
  | false =>
   rw[hv,cond_false]at h
   have ho':gk r (cH bd)=true:=by cases bd<;>simpa[gk]using ho
   obtain⟨g1,g2,g3⟩:=Qc (st0:=st0) h hb ho'
   have e1:vv st0 (.dead::r) bd=.dead::vv st0 r bd:=by cases bd<;>rfl
   have e0:bC (.dead::r) bd=.dead::bC r bd:=by cases bd<;>rfl
   rw[e0,e1]
   refine⟨by simp[g1],fun b hb => ?_,fun i k hk => ?_⟩
   ·cases b with
    | zero=>simp[rowAt]at hb
    | succ b=>have:=g2 b (by simpa[rowAt]using hb); simpa[wk,bV]using this
   ·cases i with
    | zero=>simp at hk; subst hk; exact⟨_,_,rfl,rfl,.dead b hv⟩
    | succ i=>simpa using g3 i k (by simpa using hk)
inductive Refs(m:Nat):D→Prop
 | zW (τ:Ty) (x:AM.den τ):Refs m (.zW τ x)
 | tight (e:Ty) (l:List (AM.den e)) (ne:Bool):Refs m (.tight e l ne)
 | xm:Refs m .xm
 | yA:Refs m .yA
 | xX:Refs m .xX
 | vO:Refs m .vO
 | vP:Refs m .vP
 | Zh:Refs m .Zh
 | dL (T:Nat):Refs m (.dL T)
 | yf (b T:Nat) (h:b<m):Refs m (.yf b T)
 | ptr (b off:Nat) (h:b<m):Refs m (.ptr b off)
 | xo (τ:Ty) (x:AM.den τ):Refs m (.xo τ x)
 | uo (b qR:Nat) (e:Ty) (idx off:Nat) (h:b<m):Refs m (.uo b qR e idx off)
 | ms (b qR:Nat) (e:Ty) (off len:Nat) (h:b<m):Refs m (.ms b qR e off len)
 | xk (f:Nat) (l:List D) (h:∀ i (hi:i<l.length),Refs m l[i]):Refs m (.xk f l)
 | agg (l:List D) (h:∀ i (hi:i<l.length),Refs m l[i]):Refs m (.agg l)
 | gB (l:List D) (h:∀ i (hi:i<l.length),Refs m l[i]):Refs m (.gB l)
 | iface (t:Nat) (d:D) (h:Refs m d):Refs m (.iface t d)
theorem Refs.mono{m m':Nat}(hm:m≤m'){d:D}(h:Refs m d):Refs m' d:=by
 induction h with
 | ptr b off h=>exact .ptr b off (by omega)
 | yf b T h=>exact .yf b T (by omega)
 | uo b qR e idx off h=>exact .uo b qR e idx off (by omega)
 | ms b qR e off len h=>exact .ms b qR e off len (by omega)
 | xk f l h ih=>exact .xk f l ih
 | agg l h ih=>exact .agg l ih
 | gB l h ih=>exact .gB l ih
 | iface t d h ih=>exact .iface t d ih
 | _=>constructor
theorem z2l{κ:KS}{m:Nat}{d:D}{v:Value}(h:RD κ d v)(hr:Refs m d):RD (κ.cut m) d v:=by
 induction h with
 | zW τ y cs h=>exact .zW τ y cs h
 | xG e a=>exact .xG e a
 | tight e l ne blk off f uj wg h hc=>exact .tight e l ne blk off f uj wg h hc
 | xm=>exact .xm
 | yA=>exact .yA
 | xX=>exact .xX
 | vO=>exact .vO
 | vP=>exact .vP
 | Zh v h=>exact .Zh v h
 | dL T=>exact .dL T
 | dv b T d hb=>cases hr with | yf _ _ qp=>exact eY (.dv b T d hb) (by simp only[vJ,Nat.blt,Nat.ble_eq]; exact qp)
 | cY b T blk n d hb h=>cases hr with | yf _ _ qp=>exact eY (.cY b T blk n d hb h) (by simp only[vJ,Nat.blt,Nat.ble_eq]; exact qp)
 | ptr b off blk n d hb h=>cases hr with | ptr _ _ qp=>exact eY (.ptr b off blk n d hb h) (by simp only[vJ,Nat.blt,Nat.ble_eq]; exact qp)
 | xo τ y cs blk off wg h hc=>exact .xo τ y cs blk off wg h hc
 | uo b qR e idx off blk o hb h=>cases hr with | uo _ _ _ _ _ qp=>exact eY (.uo b qR e idx off blk o hb h) (by simp only[vJ,Nat.blt,Nat.ble_eq]; exact qp)
 | ms b qR e off len cap a hb wD ha tq h=>cases hr with | ms _ _ _ _ _ qp=>exact eY (.ms b qR e off len cap a hb wD ha tq h) (by simp only[vJ,Nat.blt,Nat.ble_eq]; exact qp)
 | xk f l vs hl h ih=>cases hr with | xk _ _ hh=>exact .xk f l vs hl fun i h1 h2=>ih i h1 h2 (hh i h1)
 | agg l vs hl ho h ih=>cases hr with | agg _ hh=>exact .agg l vs hl ho fun i h1 h2=>ih i h1 h2 (hh i h1)
 | gB l vs hl h ih=>cases hr with | gB _ hh=>exact .gB l vs hl fun i h1 h2=>ih i h1 h2 (hh i h1)
 | iface t d v h ih=>cases hr with | iface _ _ hh=>exact .iface t d v (ih hh)
theorem Hn{a b:Nat}(h:a<b):Nat.blt a b=true:=by
 simp only[Nat.blt,Nat.ble_eq]; exact h
theorem SI{κ κe:KS}{m:Nat}(hx:Ext κ κe)(hm:κ.st.length≤m):Ext κ (κe.cut m):=by
 have qp:∀ b x,κ.st[b]? = some x→b<m:=fun b x h=>Nat.lt_of_lt_of_le (List.getElem?_eq_some_iff.1 h).1 hm
 have V8:∀ b,b<m→(κe.cut m).ph[b]? = κe.ph[b]? := fun b hb=>by simp only[KS.cut]; rw[List.getElem?_take,if_pos hb]
 refine⟨hx.os,hx.tape,hx.output,hx.size,hx.same,hx.fresh,fun b blk n h=>hx.phs b blk n (bB h).1,fun b d h => ?_,fun b v0 e xs h => ?_,fun b h=>qo (hx.dead b h) (qp b _ h),?_,hx.frame⟩
 ·obtain⟨⟨d',h1⟩,h2⟩:=hx.var b d h
  exact⟨⟨d',qo h1 (qp b _ h)⟩,(V8 b (qp b _ h)).trans h2⟩
 ·rcases hx.arr b v0 e xs h with h1 | ⟨v1,x1,h1,h2,h3⟩
  ·exact .inl (qo h1 (qp b _ h))
  ·exact .inr ⟨v1,x1,qo h1 (qp b _ h),h2,fun he=>⟨(V8 b (qp b _ h)).trans (h3 he).1,(h3 he).2⟩⟩
 ·have:=hx.Dy
  simp[KS.cut]; omega
theorem mm.Qm{κ0 κ:KS}{fr:Fr}{a:Act}{sh:mm}{x:sh.den}(hx:Ext κ0 κ)(hI:Inv κ)(hR:Rel κ n fr.get a)(hl:κ0.st.length≤sh.bs.length)(h:(sh.un fr κ.st).leads x) :
  ∃ κ':KS,κ'.w=κ.w∧κ'.st=sh.st x∧Inv κ'∧Ext κ0 κ'∧Rel κ' n (sh.fr x).get a∧∀ (d:D) (v:Value),Refs sh.bs.length d→RD κ d v→RD κ' d v:=by
 unfold mm.un at h
 cases hc:sh.ok&&(κ.st.take sh.bs.length).all (Hp sh.bs.length)with
 | false=>rw[hc]at h; exact h.elim
 | true =>
  rw[hc,cond_true]at h
  simp only[Bool.and_eq_true,mm.ok,List.all_eq_true]at hc
  obtain⟨⟨⟨⟨zg7,z9N⟩,Kh⟩,hbs⟩,U0⟩:=hc
  obtain⟨⟨⟩,h1,h⟩:=T.zg.1 h
  obtain⟨bl,h2,h3⟩:=T.zg.1 h
  have hIc:=z0u hI U0
  -- the store cut
  let m:=sh.bs.length
  obtain⟨g1,g2⟩:=X5 (p:=BL sh.bs) (zL:=sh.st x) sh.pK bl x (fun k hk=>z9N _ hk) h3
  obtain⟨k1,k2,k3⟩:=Qc (st0:=bC sh.bs (oh sh.pK x)) h2 g1 ((congrArg (gk sh.bs) (o7 sh.pK x)).trans zg7)
  have xN:sh.st x=vv (bC sh.bs (oh sh.pK x)) sh.bs (oh sh.pK x):=rfl
  rw[← xN]at k1 k2 k3
  let κ':KS:={ κ.cut m with st:=sh.st x }
  have hm:m≤κ.st.length:=by
   rcases Nat.eq_zero_or_pos m with h0 | h0
   ·omega
   ·obtain⟨B,B',q1,_⟩:=k3 (m-1) (sh.bs[m-1]'(by show m-1<m; omega)) (by simp)
    have:=(List.getElem?_eq_some_iff.1 q1).1
    omega
  have z5W:∀ i B,κ.st[i]? = some B→i<m→(κ.cut m).st[i]? = some B:=fun i B hB hi=>qo hB hi
  have N3:(κ.cut m).st.length=m:=by simp[KS.cut]; omega
  have pair:∀ i,i<m→∃ k B B',sh.bs[i]? = some k∧(κ.cut m).st[i]? = some B∧κ'.st[i]? = some B'∧G9 (BL sh.bs) κ.st (bC sh.bs (oh sh.pK x)) k B B':=by
   intro i hi
   obtain⟨B,B',q1,q2,q3⟩:=k3 i (sh.bs[i]'hi) (by simp)
   exact⟨_,B,B',by simp,z5W i B q1 hi,q2,q3⟩
  have lt:∀ {i:Nat} {B:yd},(κ.cut m).st[i]? = some B→i<m:=fun hB=>by have:=(List.getElem?_eq_some_iff.1 hB).1; omega
  have lt':∀ {i:Nat} {B:yd},κ'.st[i]? = some B→i<m:=fun hB=>by have:=(List.getElem?_eq_some_iff.1 hB).1; have e:κ'.st.length=m:=k1; omega
  have hw:Wk (κ.cut m) κ':=by
   refine⟨rfl,rfl,rfl,by show(sh.st x).length=_; rw[k1,N3],fun b d hb => ?_,fun b v e xs hb => ?_,fun b v e xs hb => ?_,fun b hb => ?_⟩
   ·obtain⟨k,B,B',q0,q1,q2,q3⟩:=pair b (lt hb)
    rw[hb]at q1; cases q1
    cases q3 with
    | var k' _ _ y _ hy=>exact⟨_,q2⟩
    | cvar ck _ hy=>exact⟨_,q2⟩
    | dead _ hv=>cases hv
   ·obtain⟨k,B,B',q0,q1,q2,q3⟩:=pair b (lt hb)
    rw[hb]at q1; cases q1
    cases q3 with
    | arr=>exact .inl q2
    | dead=>exact .inr q2
   ·obtain⟨k,B,B',q0,q1,q2,q3⟩:=pair b (lt' hb)
    rw[hb]at q2; cases q2
    cases q3 with
    | arr=>exact q1
   ·obtain⟨k,B,B',q0,q1,q2,q3⟩:=pair b (lt hb)
    rw[hb]at q1; cases q1
    cases q3 with
    | dead=>exact q2
  have HR:∀ b,rowAt sh.bs b=true→wk κ'.st b=bV κ.st b∧wk (bC sh.bs (oh sh.pK x)) b=bV κ.st b∧wk κ.st b=bV κ.st b :=
   fun b hb=>⟨(k2 b hb).2.1,(k2 b hb).1,(k2 b hb).2.2⟩
  have zdc:∀ b,rowAt sh.bs b=true→wk (κ.cut m).st b=wk κ.st b:=by
   intro b hb
   have hbm:b<m:=by
    unfold rowAt at hb
    split at hb
    ·rename_i hh; exact(List.getElem?_eq_some_iff.1 hh).1
    ·cases hb
   unfold wk
   simp only[KS.cut]
   rw[List.getElem?_take,if_pos hbm]
  have hbm:∀ b,rowAt sh.bs b=true→b<m:=by
   intro b hb
   unfold rowAt at hb
   split at hb
   ·rename_i hh; exact(List.getElem?_eq_some_iff.1 hh).1
   ·cases hb
  have Py:∀ b,WY sh.bs b=true→b<m:=by
   intro b hb
   unfold WY at hb
   split at hb
   ·rename_i hh; exact(List.getElem?_eq_some_iff.1 hh).1
   ·rename_i hh; exact(List.getElem?_eq_some_iff.1 hh).1
   ·cases hb
  have dk:∀ (k:Dk) (y:k.den) (d:D) (v:Value) (zL:St),BL sh.bs k=true→(∀ b,rowAt sh.bs b=true→wk zL b=bV κ.st b)→(ZE κ.st k d).leads y→RD κ d v→RD κ' (pG zL k y) v:=by
   intro k y d v zL ho hv hy hd
   have hwk:Wk κ κ:=⟨rfl,rfl,rfl,rfl,fun b d h=>⟨d,h⟩,fun b v e xs h=>.inl h,fun b v e xs h=>h,fun b h=>h⟩
   have h0:=GB hwk ho (fun _ _=>rfl) (zL:=κ.st) (fun _ _=>rfl) (fun b hb=>(HR b hb).2.2) hy hd
   have zgC:bF m (pG κ.st k y)=true:=by
    cases k with
    | sub b e=>exact Hn (hbm b ho)
    | xk f caps =>
     have:∀ (l:List W8) (z:gM l),(ow l z).all (vJ m)=true:=by
      intro l
      induction l with
      | nil=>intro z; rfl
      | cons p r ih =>
       intro z
       have hp:∀ w:AM.den p.ty,vJ m (Ym p w)=true:=fun w=>by cases p<;>rfl
       cases r with
       | nil=>simp only[ow,List.all_cons,List.all_nil,Bool.and_true]; exact hp z
       | cons q r=>simp only[ow,List.all_cons,Bool.and_eq_true]; exact⟨hp z.1,by simpa using ih z.2⟩
     exact this caps y
    | st ks=>exact List.all_eq_true.2 (kY hbm Py ks y ho)
    | mclo f ms=>exact List.all_eq_true.2 (eP Py ms y ho)
    | _=>rfl
   have h1:=hw.rd (FF h0 zgC)
   have he:pG κ.st k y=pG zL k y:=by
    cases k with
    | sub b e=>simp only[pG]; rw[hv b ho,(HR b ho).2.2]
    | st ks=>simp only[pG]; rw[so (fun b hb=>(HR b hb).2.2.trans (hv b hb).symm) ks y ho]
    | _=>rfl
   rwa [he]at h1
  have ck:∀ (q:Ck) (d:D) (v:Value) (zL:St),ME sh.bs q=true→(∀ b,rowAt sh.bs b=true→wk zL b=bV κ.st b)→(VO κ.st q d).leads ()→CR zL q=d∧(RD κ d v→RD κ' d v):=by
   intro q d v zL ho hv hy
   have he:=z0T ho hv hy
   refine⟨he,fun hd=>hw.rd (FF hd ?_)⟩
   rw[← he]
   cases q with
   | ptr b off=>exact Hn (Py b ho)
   | cur b e=>exact Hn (hbm b ho)
   | xm=>rfl
   | yA=>rfl
   | xX=>rfl
   | xk f l =>
    simp only[ME,List.all_eq_true]at ho
    simp only[CR,bF,List.all_eq_true,List.mem_map]
    rintro _ ⟨p,hp,rfl⟩
    exact Hn (Py p.1 (ho p hp))
  have hI':Inv κ':=by
   refine hw.inv hIc fun b d' hb => ?_
   obtain⟨k,B,B',q0,q1,q2,q3⟩:=pair b (lt' hb)
   rw[hb]at q2
   cases q2
   cases q3 with
   | var kk k' d y hp hy =>
    obtain⟨blk,n',cs,t,e1,e2,e3,e4,e5⟩:=hIc.blk b _ q1
    refine⟨blk,n',cs,t,e1,e2,e3,?_⟩
    cases kk with
    | zW τ =>
     have hco:dM τ d=some y:=T.ue.1 hy
     have ht:d.uy=false:=by
      cases d with
      | gB l=>simp[dM,D.uy]at hco
      | _=>rfl
     have hrc:=sn hco e4 e5.1 ht
     exact⟨(sK hrc).mono hw.ext,dJ τ y,nofun⟩
    | xo τ =>
     cases d<;>simp only[ZE]at hy<;>try (exact hy.elim)
     obtain⟨e,hyy⟩:=qz (T.ue.1 hy)
     cases e
     cases hyy
     exact⟨e4.mono hw.ext,e5.1,nofun⟩
    | st ks =>
     simp only[ZE]at hy
     cases ha:d.dY with
     | false=>rw[ha]at hy; exact hy.elim
     | true =>
      rw[ha]at hy
      replace hy:(fA κ.st ks (qq d)).leads y:=hy
      have zii:b<m:=lt' hb
      have H7:κ.st[b]? = some (.var d):=(bB q1).1
      obtain⟨zfY,n2,cs2,t2,f1,f2,f3,f4,f5⟩:=hI.blk b _ H7
      have hp1:=(bB e1).1
      rw[f1]at hp1
      cases hp1
      rw[show(κ.cut m).w=κ.w from rfl,f2]at e2
      cases e2
      obtain⟨g1,g2⟩:=fk (κ:=κ) (zL:=bC sh.bs (oh sh.pK x)) (bs:=sh.bs) (fun b hb=>(HR b hb).2.1) ks (qq d) y _ hp.2 hy f4
      refine⟨(IH g1 fun z hz => ?_).mono hw.ext,g2,fun T hT => ?_⟩
      rotate_left
      ·exact f5.2 T (WW ha (WD ks (qq d) y hy hT))
      have:=kY (m:=m) hbm Py ks y hp.2 z hz
      cases z<;>first | exact this | cases this
    | _=>cases hp.1
   | cvar q d hy =>
    obtain⟨blk,n',cs,t,e1,e2,e3,e4,e5⟩:=hIc.blk b _ q1
    have hoq:ME sh.bs q=true:=hbs _ (List.mem_of_getElem? q0)
    obtain⟨g,_⟩:=ck q d undef (bC sh.bs (oh sh.pK x)) hoq (fun b hb=>(HR b hb).2.1) hy
    rw[g]
    exact⟨blk,n',cs,t,e1,e2,e3,e4.mono hw.ext,e5⟩
  refine⟨κ',rfl,rfl,hI',?_,⟨hR.size,hR.defers,fun s d hd => ?_⟩,fun d v hr hd=>hw.rd (z2l hd hr)⟩
  ·have qp:κ0.st.length≤m:=hl
   have c1:=SI hx qp
   exact c1.trans hw.ext
  ·rcases get_append (l:=fY (sh.st x) sh.pK x) (m:=z6f (sh.st x) sh.cs) hd with hp | hp0
   ·obtain⟨k,y,d0,q0,q1,q2,q3⟩:=g2 _ hp
    cases q3
    obtain⟨v,r1,r2⟩:=hR.get _ _ q1
    exact⟨v,r1,dk k y d0 v (sh.st x) (z9N _ q0) (fun b hb=>(HR b hb).1) q2 r2⟩
   ·have VP:=get_mem hp0
    unfold z6f at VP
    obtain⟨p,hp,he⟩:=List.mem_map.1 VP
    cases he
    obtain⟨d0,q1,q2⟩:=CN h1 p hp
    obtain⟨v,r1,r2⟩:=hR.get _ _ q1
    obtain⟨g,gg⟩:=ck p.2 d0 v (sh.st x) (Kh p hp) (fun b hb=>(HR b hb).1) q2
    rw[g]
    exact⟨v,r1,gg r2⟩
end
end Go.AM
namespace Go.AM
set_option linter.unusedSectionVars false
variable [uz] [B9]
open Go.RowKit
inductive Gh where
 | slot (s:Nat) (e:Ty) | cell (b i:Nat) (e:Ty) | pcell (s i:Nat) (e:Ty)
def Uj(st:St)(b i:Nat):Option (List D):=match st[b]? with
 | some (.var d)=>bif d.dY then match(qq d)[i]? with | some .xm=>some (qq d) | _=>none else none
 | _=>none
def gh:List Gh→Fr→St→Fr×St
 | [],fr,st=>(fr,st)
 | .slot s e::r,fr,st=>match fr.get s with
  | some .xm=>bif Nat.blt 0 e.size then gh r ((s,some (.ms st.length 0 e 0 0))::fr) (st++[.arr 0 e []])else gh r fr st
  | _=>gh r fr st
 | .cell b i e::r,fr,st=>match Uj st b i with
  | some l=>bif Nat.blt 0 e.size then gh r fr ((st++[yd.arr 0 e []]).set b (.var (.agg (l.set i (.ms st.length 0 e 0 0)))))else gh r fr st
  | none=>gh r fr st
 | .pcell t i e::r,fr,st=>match fr.get t with
  | some (.ptr b _)=>match Uj st b i with
   | some l=>bif Nat.blt 0 e.size then gh r fr ((st++[yd.arr 0 e []]).set b (.var (.agg (l.set i (.ms st.length 0 e 0 0)))))else gh r fr st
   | none=>gh r fr st
  | _=>gh r fr st
section
variable {c:Ctx} {κ:KS}
def KS.uJ(κ:KS)(e:Ty):KS:={ κ with ph:=κ.ph++[none],st:=κ.st++[.arr 0 e []] }
theorem ZR(hI:Inv κ)(e:Ty):Ext κ (κ.uJ e):=by
 have xN:∀ b y,κ.st[b]? = some y→(κ.st++[.arr 0 e []])[b]? = some y:=fun b y h=>by rw[List.getElem?_append_left (List.getElem?_eq_some_iff.1 h).1]; exact h
 have V8:∀ b y,κ.st[b]? = some y→(κ.ph++[none])[b]? = κ.ph[b]? := fun b y h=>by
  rw[List.getElem?_append_left]; rw[hI.len]; exact(List.getElem?_eq_some_iff.1 h).1
 refine⟨rfl,rfl,rfl,Nat.le_refl _,fun k hk=>⟨hk,rfl⟩,fun k hk=>.inl hk,?_,fun b d h=>⟨⟨d,xN b _ h⟩,V8 b _ h⟩,
  fun b v0 e xs h=>.inr ⟨v0,xs,xN b _ h,Nat.le_refl _,fun _=>⟨V8 b _ h,rfl⟩⟩,fun b h=>xN b _ h,by simp[KS.uJ],fun k hk _=>rfl⟩
 intro b blk m h
 simp only[KS.uJ]at h
 by_cases hb:b<κ.ph.length
 ·rw[List.getElem?_append_left hb]at h; exact .inl h
 ·rw[List.getElem?_append_right (by omega)]at h
  have:=List.mem_of_getElem? h
  simp at this
theorem JK(hI:Inv κ){e:Ty}(he:0<e.size):Inv (κ.uJ e):=by
 have hold:∀ (b blk m:Nat),(κ.ph++[none])[b]? = some (some (blk,m))→κ.ph[b]? = some (some (blk,m)):=by
  intro b blk m h
  by_cases hb:b<κ.ph.length
  ·rw[List.getElem?_append_left hb]at h; exact h
  ·rw[List.getElem?_append_right (by omega)]at h
   have:=List.mem_of_getElem? h
   simp at this
 refine⟨by simp[KS.uJ,hI.len],hI.y5,fun b blk m h=>hI.apart b blk m (hold b blk m h),fun b b' blk m m' h h'=>hI.inj b b' blk m m' (hold _ _ _ h) (hold _ _ _ h'),?_,hI.gl⟩
 intro b y hy
 simp only[KS.uJ]at hy
 by_cases hb:b<κ.st.length
 ·rw[List.getElem?_append_left hb]at hy
  exact(hI.blk b y hy).mono (ZR hI e) (by show(κ.ph++[none])[b]? = κ.ph[b]?; rw[List.getElem?_append_left (by rw[hI.len]; exact hb)]) fun blk n h=>rfl
 ·have Zm:=(List.getElem?_eq_some_iff.1 hy).1
  simp at Zm
  have:b=κ.st.length:=by omega
  subst this
  simp at hy
  subst hy
  exact⟨he,.inl ⟨rfl,by simp[KS.uJ,← hI.len]⟩⟩
theorem EE{l:List D}{i b v len off:Nat}{e:Ty}{tt:Nat}(h:(D.agg (l.set i (.ms b v e off len))).typed=some tt):gX l=some tt:=by
 cases l with
 | nil=>exact h
 | cons x r=>cases i with
  | zero=>cases h
  | succ i=>cases x<;>exact h
theorem z2f{κ κ2:KS}{l:List D}{vs:List Value}{i:Nat}{d':D}(h:xv κ l vs)(hw:∀ d v,RD κ d v→RD κ2 d v)(hi:∀ v,vs[i]? = some v→RD κ2 d' v):xv κ2 (l.set i d') vs:=by
 refine⟨by rw[List.length_set]; exact h.1,fun k h1 h2 => ?_⟩
 rw[List.getElem_set]
 split
 ·rename_i e; subst e; exact hi _ (by simp[h2])
 ·exact hw _ _ (h.2 k (by rw[List.length_set]at h1; exact h1) h2)
theorem L4(hI:Inv κ){e:Ty}(he:0<e.size){b i:Nat}{l:List D}(h:Uj κ.st b i=some l) :
  ∃ κ':KS,κ'.w=κ.w∧κ'.st=(κ.st++[yd.arr 0 e []]).set b (.var (.agg (l.set i (.ms κ.st.length 0 e 0 0))))∧Inv κ'∧Ext κ κ':=by
 unfold Uj at h
 split at h
 ·rename_i d hd
  cases ha:d.dY with
  | false=>rw[ha]at h; cases h
  | true =>
   rw[ha,cond_true]at h
   split at h
   ·rename_i hi
    cases h
    have hx:=ZR hI e
    have XV:=JK hI he
    have zf3:b<κ.st.length:=(List.getElem?_eq_some_iff.1 hd).1
    let κ2:KS:={ κ.uJ e with st:=(κ.uJ e).st.set b (.var (.agg ((qq d).set i (.ms κ.st.length 0 e 0 0)))) }
    have Bc:(κ.uJ e).st[b]? = some (.var d):=by
     show(κ.st++[_])[b]? = _
     rw[List.getElem?_append_left zf3]; exact hd
    have uj:∀ j,j≠b→κ2.st[j]? = (κ.uJ e).st[j]? := fun j hj=>by
     show((κ.uJ e).st.set b _)[j]? = _
     rw[List.getElem?_set_ne (fun z=>hj z.symm)]
    have S4:κ2.st[b]? = some (.var (.agg ((qq d).set i (.ms κ.st.length 0 e 0 0)))):=by
     show((κ.uJ e).st.set b _)[b]? = _
     rw[List.getElem?_set_self (List.getElem?_eq_some_iff.1 Bc).1]
    have hw:Wk (κ.uJ e) κ2:=by
     refine⟨rfl,rfl,rfl,by simp[κ2],fun j d' hj => ?_,fun j v e' xs hj => ?_,fun j v e' xs hj => ?_,fun j hj => ?_⟩
     ·by_cases c:j=b
      ·subst c; exact⟨_,S4⟩
      ·exact⟨d',by rw[uj j c]; exact hj⟩
     ·by_cases c:j=b
      ·subst c; rw[Bc]at hj; cases hj
      ·exact .inl (by rw[uj j c]; exact hj)
     ·by_cases c:j=b
      ·subst c; rw[S4]at hj; cases hj
      ·rw[← uj j c]; exact hj
     ·by_cases c:j=b
      ·subst c; rw[Bc]at hj; cases hj
      ·rw[uj j c]; exact hj
    have To:κ2.st[κ.st.length]? = some (.arr 0 e []):=by
     rw[uj _ (by omega)]
     simp[KS.uJ]
    have hI2:Inv κ2:=by
     refine hw.inv XV fun j d' hj => ?_
     by_cases c:j=b
     ·subst c
      rw[S4]at hj
      cases hj
      obtain⟨blk,m,cs,t,q1,q2,q3,q4,q5⟩:=XV.blk j _ Bc
      refine⟨blk,m,cs,t,q1,q2,q3,z2f q4 (fun _ _ h=>hw.rd h) fun v hv => ?_,fun x hxm => ?_,fun T hT => ?_⟩
      ·obtain⟨v',h1,h2⟩:=q4.get hi
       rw[hv]at h1
       cases h1
       cases h2
       refine .ms κ.st.length 0 e 0 0 0 none (.inr ⟨0,e,[],To,Nat.le_refl _⟩) (Nat.le_refl _) (fun _=>rfl) nofun fun xs Vp => ?_
       rw[To]at Vp
       cases Vp
       exact⟨Nat.le_refl _,.inl ⟨rfl,rfl,rfl,by show(κ.ph++[none])[κ.st.length]? = _; simp[← hI.len]⟩⟩
      ·rcases List.mem_or_eq_of_mem_set (show x∈(qq d).set i (.ms κ.st.length 0 e 0 0)from hxm)with h' | h'
       ·exact q5.1 x h'
       ·subst h'; rfl
      ·exact q5.2 T (WW ha (EE hT))
     ·rw[uj j c]at hj
      exact(XV.blk j _ hj).mono hw.ext rfl fun _ _ _=>rfl
    exact⟨κ2,rfl,rfl,hI2,hx.trans hw.ext⟩
   ·cases h
 ·cases h
theorem ng{n:Nat}{a:Act}:∀ (l:List Gh) (fr:Fr) (κ:KS),Inv κ→Rel κ n fr.get a→∃ κ':KS,κ'.w=κ.w∧κ'.st=(gh l fr κ.st).2∧Inv κ'∧Ext κ κ'∧Rel κ' n (gh l fr κ.st).1.get a
 | [],fr,κ,hI,hR=>⟨κ,rfl,rfl,hI,Ext.refl κ,hR⟩
 | .slot s e::r,fr,κ,hI,hR=>by
  unfold gh
  split
  ·rename_i hs
   cases he:Nat.blt 0 e.size with
   | false=>rw[cond_false]; exact ng r fr κ hI hR
   | true =>
    rw[cond_true]
    have RP:0<e.size:=Nat.le_of_ble_eq_true he
    have hx:=ZR hI e
    have hR':Rel (κ.uJ e) n (Fr.get ((s,some (.ms κ.st.length 0 e 0 0))::fr)) a:=by
     refine⟨hR.size,hR.defers,fun t d hd => ?_⟩
     simp only[Fr.get]at hd
     cases ht:Nat.beq s t with
     | true =>
      rw[ht,cond_true]at hd
      cases hd
      have:=Nat.eq_of_beq_eq_true ht
      subst this
      obtain⟨v,h1,h2⟩:=hR.get s _ hs
      cases h2
      have To:(κ.uJ e).st[κ.st.length]? = some (.arr 0 e []):=by simp[KS.uJ]
      refine⟨_,h1,.ms κ.st.length 0 e 0 0 0 none (.inr ⟨0,e,[],To,Nat.le_refl _⟩) (Nat.le_refl _) (fun _=>rfl) nofun fun xs Vp => ?_⟩
      rw[To]at Vp
      cases Vp
      exact⟨Nat.le_refl _,.inl ⟨rfl,rfl,rfl,by simp[KS.uJ,← hI.len]⟩⟩
     | false =>
      rw[ht,cond_false]at hd
      obtain⟨v,h1,h2⟩:=hR.get t d hd
      exact⟨v,h1,h2.mono hx⟩
    obtain⟨κ',h1,h2,h3,h4,h5⟩:=ng r _ (κ.uJ e) (JK hI RP) hR'
    exact⟨κ',h1,h2,h3,hx.trans h4,h5⟩
  ·exact ng r fr κ hI hR
 | .cell b i e::r,fr,κ,hI,hR=>by
  unfold gh
  split
  ·rename_i l hl
   cases he:Nat.blt 0 e.size with
   | false=>rw[cond_false]; exact ng r fr κ hI hR
   | true =>
    rw[cond_true]
    have RP:0<e.size:=Nat.le_of_ble_eq_true he
    obtain⟨κ1,g1,g2,g3,g4⟩:=L4 hI RP hl
    obtain⟨κ',h1,h2,h3,h4,h5⟩:=ng r fr κ1 g3 ⟨hR.size,hR.defers,fun t d hd=>by
     obtain⟨v,q1,q2⟩:=hR.get t d hd
     exact⟨v,q1,q2.mono g4⟩⟩
    rw[g2]at h2 h5
    exact⟨κ',h1.trans g1,h2,h3,g4.trans h4,h5⟩
  ·exact ng r fr κ hI hR
 | .pcell t i e::r,fr,κ,hI,hR=>by
  unfold gh
  split
  ·rename_i b off hb
   split
   ·rename_i l hl
    cases he:Nat.blt 0 e.size with
    | false=>rw[cond_false]; exact ng r fr κ hI hR
    | true =>
     rw[cond_true]
     have RP:0<e.size:=Nat.le_of_ble_eq_true he
     obtain⟨κ1,g1,g2,g3,g4⟩:=L4 hI RP hl
     obtain⟨κ',h1,h2,h3,h4,h5⟩:=ng r fr κ1 g3 ⟨hR.size,hR.defers,fun t d hd=>by
      obtain⟨v,q1,q2⟩:=hR.get t d hd
      exact⟨v,q1,q2.mono g4⟩⟩
     rw[g2]at h2 h5
     exact⟨κ',h1.trans g1,h2,h3,g4.trans h4,h5⟩
   ·exact ng r fr κ hI hR
  ·exact ng r fr κ hI hR
end
end Go.AM
namespace Go.AM
def tO(f:Nat→Option Nat)(d:D):Option D:=match d with
 | .ptr b off=>match f b with | some b'=>some (.ptr b' off) | none=>none
 | .yf b T=>match f b with | some b'=>some (.yf b' T) | none=>none
 | .uo b v e i off=>match f b with | some b'=>some (.uo b' v e i off) | none=>none
 | .ms b v e off len=>match f b with | some b'=>some (.ms b' v e off len) | none=>none
 | .xk _ _=>none
 | .agg _=>none
 | .gB _=>none
 | .iface _ _=>none
 | d=>some d
def Bh(f:Nat→Option Nat):List D→Option (List D)
 | []=>some []
 | d::r=>match tO f d with
  | some d'=>match Bh f r with | some r'=>some (d'::r') | none=>none
  | none=>none
def pI(f:Nat→Option Nat)(d:D):Option D:=match d with
 | .xk g l=>match Bh f l with | some l'=>some (.xk g l') | none=>none
 | .agg l=>match Bh f l with | some l'=>some (.agg l') | none=>none
 | d=>tO f d
def WC(f:Nat→Option Nat):List D→Option (List D)
 | []=>some []
 | d::r=>match pI f d with
  | some d'=>match WC f r with | some r'=>some (d'::r') | none=>none
  | none=>none
def VV(f:Nat→Option Nat):yd→Option yd
 | .var d=>match pI f d with | some d'=>some (.var d') | none=>none
 | .arr v e xs=>some (.arr v e xs)
 | .dead=>some .dead
def p8(f:Nat→Option Nat):List yd→Option (List yd)
 | []=>some []
 | b::r=>match VV f b with
  | some b'=>match p8 f r with | some r'=>some (b'::r') | none=>none
  | none=>none
def tX(f:Nat→Option Nat):Fr→Fr
 | []=>[]
 | (s,some d)::r=>(s,pI f d)::tX f r
 | (s,none)::r=>(s,none)::tX f r
structure Tr(κ κ':KS)(f:Nat→Option Nat):Prop where
 w:κ'.w=κ.w
 ok:κ'.ok=κ.ok
 var:∀ (b b':Nat) (d:D),f b=some b'→κ.st[b]? = some (.var d)→(∃ d',κ'.st[b']? = some (.var d'))∧κ'.ph[b']? = κ.ph[b]?
 old:∀ (b b' qR:Nat),f b=some b'→Old κ.st b qR→Old κ'.st b' qR
 row:∀ (b b' v:Nat) (e:Ty) (xs:List (den e)),f b=some b'→κ'.st[b']? = some (.arr v e xs)→κ.st[b]? = some (.arr v e xs)∧κ'.ph[b']? = κ.ph[b]?
section
variable {κ κ':KS} {f:Nat→Option Nat}
theorem Tr.same(h:Tr κ κ' f):Eb κ.w κ'.w κ.ok κ'.ok:=fun k hk=>⟨by rw[h.ok]; exact hk,by rw[h.w]⟩
theorem Tr.rd1(h:Tr κ κ' f){d d':D}{v:Value}(hd:RD κ d v)(hr:tO f d=some d'):RD κ' d' v:=by
 cases hd with
 | zW τ y cs hc=>cases hr; exact .zW τ y cs (hc.mono h.same)
 | xG e a=>cases hr; exact .xG e a
 | tight e l ne blk off g uj wg hh hc=>cases hr; exact .tight e l ne blk off g uj (h.same _ wg).1 (fun i hi=>(hh i hi).mono h.same) fun i hi j v hv=>by rw[cd (h.same _ wg).2]; exact hc i hi j v hv
 | xm=>cases hr; exact .xm
 | yA=>cases hr; exact .yA
 | xX=>cases hr; exact .xX
 | vO=>cases hr; exact .vO
 | vP=>cases hr; exact .vP
 | Zh v h=>cases hr; exact .Zh v h
 | dL T=>cases hr; exact .dL T
 | dv b T d hb =>
  simp only[tO]at hr
  split at hr
  ·rename_i b' hf
   cases hr
   obtain⟨⟨d',h1⟩,h2⟩:=h.var b b' d hf hb
   exact .dv b' T d' h1
  ·cases hr
 | cY b T blk n d hb hp =>
  simp only[tO]at hr
  split at hr
  ·rename_i b' hf
   cases hr
   obtain⟨⟨d',h1⟩,h2⟩:=h.var b b' d hf hb
   exact .cY b' T blk n d' h1 (h2.trans hp)
  ·cases hr
 | ptr b off blk n d hb hp =>
  simp only[tO]at hr
  split at hr
  ·rename_i b' hf
   cases hr
   obtain⟨⟨d',h1⟩,h2⟩:=h.var b b' d hf hb
   exact .ptr b' off blk n d' h1 (h2.trans hp)
  ·cases hr
 | xo τ y cs blk off wg hh hc=>cases hr; exact .xo τ y cs blk off (h.same _ wg).1 (hh.mono h.same) fun j v hv=>by rw[cd (h.same _ wg).2]; exact hc j v hv
 | uo b qR e idx off blk o hb hh =>
  simp only[tO]at hr
  split at hr
  ·rename_i b' hf
   cases hr
   refine .uo b' qR e idx off blk o (h.old b b' qR hf hb) fun xs hx hi => ?_
   obtain⟨h1,h2⟩:=h.row b b' qR e xs hf hx
   rw[h2]
   exact hh xs h1 hi
  ·cases hr
 | ms b qR e off len cap a hb wD ha tq hh =>
  simp only[tO]at hr
  split at hr
  ·rename_i b' hf
   cases hr
   refine .ms b' qR e off len cap a (h.old b b' qR hf hb) wD ha tq fun xs hx => ?_
   obtain⟨h1,h2⟩:=h.row b b' qR e xs hf hx
   have:=hh xs h1
   unfold Mh at this ⊢
   rw[h2]
   exact this
  ·cases hr
 | xk g l vs hl hh=>cases hr
 | agg l vs hl ho hh=>cases hr
 | gB l vs hl hh=>cases hr
 | iface t d v hh=>cases hr
theorem Ss{d d':D}(h:tO f d=some d'):d'.one=d.one:=by
 cases d<;>simp only[tO]at h<;>first | (cases h; rfl) | (split at h<;>cases h; rfl) | cases h
theorem Tr.rdL(h:Tr κ κ' f):∀ {l l':List D} {vs:List Value},xv κ l vs→Bh f l=some l'→xv κ' l' vs
 | [],l',vs,hd,hr=>by cases hr; rw[hd.qG]; exact .nil
 | d::r,l',vs,hd,hr=>by
  simp only[Bh]at hr
  split at hr
  ·rename_i d' h1
   split at hr
   ·rename_i r' h2
    cases hr
    obtain⟨v,us,rfl,g1,g2⟩:=hd.cons_inv
    exact .cons (h.rd1 g1 h1) (h.rdL g2 h2)
   ·cases hr
  ·cases hr
theorem J8:∀ {l l':List D},Bh f l=some l'→(∀ d∈l,d.one=true)→∀ d∈l',d.one=true
 | [],l',hr,_=>by cases hr; nofun
 | d::r,l',hr,ho=>by
  simp only[Bh]at hr
  split at hr
  ·rename_i d' h1
   split at hr
   ·rename_i r' h2
    cases hr
    intro x hx
    rcases List.mem_cons.1 hx with rfl | hx
    ·rw[Ss h1]; exact ho d List.mem_cons_self
    ·exact J8 h2 (fun y hy=>ho y (List.mem_cons_of_mem _ hy)) x hx
   ·cases hr
  ·cases hr
theorem Tr.rd(h:Tr κ κ' f){d d':D}{v:Value}(hd:RD κ d v)(hr:pI f d=some d'):RD κ' d' v:=by
 cases d with
 | xk g l =>
  simp only[pI]at hr
  split at hr
  ·rename_i l' hl
   cases hr
   cases hd with
   | xk _ _ vs h1 h2=>have:=h.rdL (⟨h1,h2⟩:xv κ l vs) hl; exact .xk g l' vs this.1 this.2
  ·cases hr
 | agg l =>
  simp only[pI]at hr
  split at hr
  ·rename_i l' hl
   cases hr
   cases hd with
   | agg _ vs h1 ho h2=>have:=h.rdL (⟨h1,h2⟩:xv κ l vs) hl; exact .agg l' vs this.1 (J8 hl ho) this.2
  ·cases hr
 | _=>exact h.rd1 hd hr
theorem Tr.rds(h:Tr κ κ' f):∀ {l l':List D} {vs:List Value},xv κ l vs→WC f l=some l'→xv κ' l' vs
 | [],l',vs,hd,hr=>by cases hr; rw[hd.qG]; exact .nil
 | d::r,l',vs,hd,hr=>by
  simp only[WC]at hr
  split at hr
  ·rename_i d' h1
   split at hr
   ·rename_i r' h2
    cases hr
    obtain⟨v,us,rfl,g1,g2⟩:=hd.cons_inv
    exact .cons (h.rd g1 h1) (h.rds g2 h2)
   ·cases hr
  ·cases hr
theorem Tr.flat(h:Tr κ κ' f){d d':D}{vs:List Value}(hd:xv κ (qq d) vs)(ho:∀ x∈qq d,x.one=true)(hr:pI f d=some d'):xv κ' (qq d') vs∧∀ x∈qq d',x.one=true:=by
 have zW:∀ (τ:Ty) (x:den τ) (vs:List Value),xv κ (Go.AM.flat τ x) vs→xv κ' (Go.AM.flat τ x) vs:=by
  intro τ x vs hh
  refine⟨hh.1,fun i h1 h2 => ?_⟩
  have hm:=List.getElem_mem h1
  have:∃ σ z,(Go.AM.flat τ x)[i]=.zW σ z:=by
   generalize (Go.AM.flat τ x)[i]=y at hm
   clear hh h1 h2
   induction τ with
   | cons a b ia ib =>
    simp only[Go.AM.flat,List.mem_append]at hm
    rcases hm with hm | hm
    ·exact ia _ hm
    ·exact ib _ hm
   | nil=>simp[Go.AM.flat]at hm
   | expr=>simp[Go.AM.flat]at hm; rcases hm with rfl | rfl | rfl | rfl | rfl | rfl<;>exact⟨_,_,rfl⟩
   | _=>simp[Go.AM.flat]at hm; subst hm; exact⟨_,_,rfl⟩
  obtain⟨σ,z,e⟩:=this
  have h3:=hh.2 i h1 h2
  rw[e]at h3 ⊢
  exact h.rd1 h3 rfl
 cases d with
 | zW τ x=>cases hr; exact⟨zW τ x vs hd,ho⟩
 | agg l =>
  simp only[pI]at hr
  split at hr
  ·rename_i l' hl
   cases hr
   exact⟨h.rdL hd hl,J8 hl ho⟩
  ·cases hr
 | gB l=>cases hr
 | xk g l =>
  obtain⟨v,r,rfl,h1,h2⟩:=xv.cons_inv (show xv κ [.xk g l] vs from hd)
  rw[h2.qG]
  have hr':=hr
  simp only[pI]at hr
  split at hr
  ·cases hr; exact⟨.cons (h.rd h1 hr') .nil,fun x hx=>by simp only[qq,List.mem_singleton]at hx; subst hx; rfl⟩
  ·cases hr
 | iface t x=>cases hr
 | ptr b off =>
  obtain⟨v,r,rfl,h1,h2⟩:=xv.cons_inv (show xv κ [.ptr b off] vs from hd)
  rw[h2.qG]
  have hr':=hr
  simp only[pI,tO]at hr
  split at hr
  ·cases hr; exact⟨.cons (h.rd1 h1 hr') .nil,fun x hx=>by simp only[qq,List.mem_singleton]at hx; subst hx; rfl⟩
  ·cases hr
 | yf b T =>
  obtain⟨v,r,rfl,h1,h2⟩:=xv.cons_inv (show xv κ [.yf b T] vs from hd)
  rw[h2.qG]
  have hr':=hr
  simp only[pI,tO]at hr
  split at hr
  ·cases hr; exact⟨.cons (h.rd1 h1 hr') .nil,fun x hx=>by simp only[qq,List.mem_singleton]at hx; subst hx; rfl⟩
  ·cases hr
 | uo b qR e idx off =>
  obtain⟨v,r,rfl,h1,h2⟩:=xv.cons_inv (show xv κ [.uo b qR e idx off] vs from hd)
  rw[h2.qG]
  have hr':=hr
  simp only[pI,tO]at hr
  split at hr
  ·cases hr; exact⟨.cons (h.rd1 h1 hr') .nil,fun x hx=>by simp only[qq,List.mem_singleton]at hx; subst hx; rfl⟩
  ·cases hr
 | ms b qR e off len =>
  obtain⟨v,r,rfl,h1,h2⟩:=xv.cons_inv (show xv κ [.ms b qR e off len] vs from hd)
  rw[h2.qG]
  have hr':=hr
  simp only[pI,tO]at hr
  split at hr
  ·cases hr; exact⟨.cons (h.rd1 h1 hr') .nil,fun x hx=>by simp only[qq,List.mem_singleton]at hx; subst hx; rfl⟩
  ·cases hr
 | _ =>
  cases hr
  obtain⟨v,r,rfl,h1,h2⟩:=xv.cons_inv hd
  rw[h2.qG]
  exact⟨.cons (h.rd1 h1 rfl) .nil,ho⟩
theorem EA{f:Nat→Option Nat}{d d':D}{tt:Nat}(h:pI f d=some d')(ht:d'.typed=some tt):d.typed=some tt:=by
 cases d with
 | agg l =>
  simp only[pI]at h
  split at h
  ·rename_i l' hl
   cases h
   cases l with
   | nil=>cases hl; cases ht
   | cons x r =>
    simp only[Bh]at hl
    split at hl
    ·rename_i x' hx
     split at hl
     ·cases hl
      cases x<;>simp only[tO]at hx<;>first
       | (cases hx; exact ht)
       | (split at hx<;>first | (cases hx; exact ht) | cases hx)
       | cases hx
     ·cases hl
    ·cases hl
  ·cases h
 | xk g l =>
  simp only[pI]at h
  split at h
  ·cases h; cases ht
  ·cases h
 | _ =>
  simp only[pI,tO]at h
  first
   | (cases h; cases ht)
   | (split at h<;>first | (cases h; cases ht) | cases h)
   | cases h
theorem Tr.blk[tN](h:Tr κ κ' f){b b':Nat}(hp:κ'.ph[b']? = κ.ph[b]?){y y':yd}(hy:iH κ b y)(hr:VV f y=some y'):iH κ' b' y':=by
 cases y with
 | dead=>cases hr; trivial
 | var d =>
  simp only[VV]at hr
  split at hr
  ·rename_i d' hd
   cases hr
   obtain⟨blk,n,cs,t,h1,h2,h3,h4,h5⟩:=hy
   obtain⟨g1,g2⟩:=h.flat h4 h5.1 hd
   exact⟨blk,n,cs,t,hp.trans h1,by rw[h.w]; exact h2,h3,g1,g2,fun T hT=>h5.2 T (EA hd hT)⟩
  ·cases hr
 | arr qR e xs =>
  cases hr
  obtain⟨h0,hh⟩:=hy
  refine⟨h0,bW hh (fun h=>⟨h.1,hp.trans h.2⟩) ?_⟩
  rintro⟨blk,n,cs,t,h1,h2,h3,h4,hr,g,h5⟩
  exact⟨blk,n,cs,t,hp.trans h1,by rw[h.w]; exact h2,h3,h4,hr,g,fun i hi=>⟨(h5 i hi).1.mono h.same,(h5 i hi).2⟩⟩
theorem tG{f:Nat→Option Nat}:∀ {fr:Fr} {s:Nat} {d':D},(tX f fr).get s=some d'→∃ d,fr.get s=some d∧pI f d=some d'
 | [],s,d',h=>by cases h
 | (t,some d)::r,s,d',h=>by
  simp only[tX,Fr.get]at h ⊢
  cases ht:Nat.beq t s with
  | true=>rw[ht,cond_true]at h; exact⟨d,rfl,h⟩
  | false=>rw[ht,cond_false]at h; simp only[cond_false]; exact tG h
 | (t,none)::r,s,d',h=>by
  simp only[tX,Fr.get]at h ⊢
  cases ht:Nat.beq t s with
  | true=>rw[ht,cond_true]at h; cases h
  | false=>rw[ht,cond_false]at h; simp only[cond_false]; exact tG h
end
def pos:List Nat→Nat→Option Nat
 | [],_=>none
 | b::r,i=>bif Nat.beq b i then some 0 else match pos r i with | some j=>some (j+1) | none=>none
def gj:List Nat→Bool
 | []=>true
 | b::r=>(match pos r b with | none=>true | some _=>false)&&gj r
theorem iT:∀ {mp:List Nat} {i j:Nat},pos mp i=some j→mp[j]? = some i
 | [],i,j,h=>by cases h
 | b::r,i,j,h=>by
  simp only[pos]at h
  cases hb:Nat.beq b i with
  | true=>rw[hb,cond_true]at h; cases h; rw[Nat.eq_of_beq_eq_true hb]; rfl
  | false =>
   rw[hb,cond_false]at h
   split at h
   ·rename_i k hk; cases h; simpa using iT hk
   ·cases h
theorem o8:∀ {mp:List Nat} {i j:Nat},gj mp=true→mp[j]? = some i→pos mp i=some j
 | [],i,j,_,h=>by simp at h
 | b::r,i,j,hn,h=>by
  simp only[gj,Bool.and_eq_true]at hn
  cases j with
  | zero=>simp at h; subst h; simp only[pos]; rw[Nat.beq_refl]; rfl
  | succ j =>
   have h':r[j]? = some i:=by simpa using h
   have hp:=o8 hn.2 h'
   have uj:Nat.beq b i=false:=by
    cases hb:Nat.beq b i with
    | false=>rfl
    | true =>
     have:=Nat.eq_of_beq_eq_true hb
     subst this
     rw[hp]at hn
     cases hn.1
   simp only[pos,uj,cond_false,hp]
def iY{α:Type}(l:List α):List Nat→Option (List α)
 | []=>some []
 | b::r=>match l[b]? with
  | some x=>match iY l r with | some y=>some (x::y) | none=>none
  | none=>none
theorem W6{α:Type}{l:List α}:∀ {mp:List Nat} {r:List α},iY l mp=some r→r.length=mp.length∧∀ (j b:Nat),mp[j]? = some b→r[j]? = l[b]? ∧ b<l.length
 | [],r,h=>by cases h; exact⟨rfl,fun j b hj=>by simp at hj⟩
 | b::mp,r,h=>by
  simp only[iY]at h
  split at h
  ·rename_i x hx
   split at h
   ·rename_i y hy
    cases h
    obtain⟨h1,h2⟩:=W6 hy
    refine⟨by simp[h1],fun j c hj => ?_⟩
    cases j with
    | zero=>simp at hj; subst hj; exact⟨by simp[hx],(List.getElem?_eq_some_iff.1 hx).1⟩
    | succ j=>have:=h2 j c (by simpa using hj); simpa using this
   ·cases h
  ·cases h
theorem Wl{f:Nat→Option Nat}:∀ {l r:List yd},p8 f l=some r→r.length=l.length∧∀ (j:Nat) (x:yd),l[j]? = some x→∃ y,r[j]? = some y∧VV f x=some y
 | [],r,h=>by cases h; exact⟨rfl,fun j x hj=>by simp at hj⟩
 | b::l,r,h=>by
  simp only[p8]at h
  split at h
  ·rename_i b' hb
   split at h
   ·rename_i r' hr
    cases h
    obtain⟨h1,h2⟩:=Wl hr
    refine⟨by simp[h1],fun j x hj => ?_⟩
    cases j with
    | zero=>simp at hj; subst hj; exact⟨b',rfl,hb⟩
    | succ j=>have:=h2 j x (by simpa using hj); simpa using this
   ·cases h
  ·cases h
def rh{α:Type}(mp:List Nat)(new:List α):Nat→List α→List α
 | _,[]=>[]
 | i,x::r=>(match pos mp i with | some j=>(match new[j]? with | some y=>y | none=>x) | none=>x)::rh mp new (i+1) r
def wv{α:Type}(mp:List Nat)(old new:List α):List α:=rh mp new 0 old++new.drop mp.length
theorem j4{α:Type}(mp:List Nat)(new:List α):∀ (l:List α) (i:Nat),(rh mp new i l).length=l.length
 | [],_=>rfl
 | x::r,i=>by simp[rh,j4 mp new r (i+1)]
theorem Q2{α:Type}(mp:List Nat)(new:List α):∀ (l:List α) (i k:Nat),(rh mp new i l)[k]? = (l[k]?).map fun x=>match pos mp (i+k)with | some j=>(match new[j]? with | some y=>y | none=>x) | none=>x
 | [],i,k=>by simp[rh]
 | x::r,i,0=>by simp[rh]
 | x::r,i,k+1=>by
  have:=Q2 mp new r (i+1) k
  simp only[rh,List.getElem?_cons_succ,this]
  rw[show i+1+k=i+(k+1) by omega]
def fwd(mp:List Nat)(n:Nat)(j:Nat):Nat:=match mp[j]? with | some b=>b | none=>n+(j-mp.length)
theorem mX{α:Type}{mp:List Nat}{old new:List α}{i:Nat}(hi:i<old.length)(hp:pos mp i=none):(wv mp old new)[i]? = old[i]? := by
 unfold wv
 rw[List.getElem?_append_left (by rw[j4]; exact hi),Q2,Nat.zero_add,hp]
 simp
theorem BS{α:Type}{mp:List Nat}{old new:List α}(hn:gj mp=true)(qp:∀ (j b:Nat),mp[j]? = some b→b<old.length)(hlen:mp.length≤new.length){j:Nat}(hj:j<new.length):(wv mp old new)[fwd mp old.length j]? = new[j]? := by
 unfold wv fwd
 cases hm:mp[j]? with
 | some b =>
  have hb:=qp j b hm
  simp only
  rw[List.getElem?_append_left (by rw[j4]; exact hb),Q2,Nat.zero_add,o8 hn hm]
  simp[hb,List.getElem?_eq_getElem hj]
 | none =>
  have:mp.length≤j:=by simpa using hm
  simp only
  rw[List.getElem?_append_right (by rw[j4]; omega),j4,List.getElem?_drop]
  congr 1
  omega
theorem Eh{α:Type}{mp:List Nat}{old new:List α}(qp:∀ (j b:Nat),mp[j]? = some b→b<old.length)(hlen:mp.length≤new.length){i:Nat}(hi:i<(wv mp old new).length) :
  (i<old.length∧pos mp i=none)∨∃ j,j<new.length∧i=fwd mp old.length j:=by
 by_cases h:i<old.length
 ·cases hp:pos mp i with
  | none=>exact .inl ⟨h,rfl⟩
  | some j =>
   have:=iT hp
   have hj:=(List.getElem?_eq_some_iff.1 this).1
   exact .inr ⟨j,by omega,by unfold fwd; rw[this]⟩
 ·have hl:i<old.length+(new.length-mp.length):=by simpa[wv,j4]using hi
  refine .inr ⟨mp.length+(i-old.length),by omega,?_⟩
  unfold fwd
  rw[List.getElem?_eq_none (by omega)]
  simp only
  omega
end Go.AM
namespace Go.AM
set_option linter.unusedSectionVars false
variable [uz]
open Go.RowKit
section
variable {κ:KS} {mp:List Nat}
theorem El{bG l:List yd}{p1:List (Option (Nat×Nat))}(hI:Inv κ)(hn:gj mp=true)(hp:iY κ.ph mp=some p1)(hl:iY κ.st mp=some l)(hr:p8 (pos mp) l=some bG) :
  Inv ⟨κ.w,κ.ok,p1,bG⟩∧Tr κ ⟨κ.w,κ.ok,p1,bG⟩ (pos mp)∧bG.length=mp.length∧p1.length=mp.length∧∀ (j b:Nat),mp[j]? = some b→p1[j]? = κ.ph[b]? ∧ ∃ x y:yd,κ.st[b]? = some x∧VV (pos mp) x=some y∧bG[j]? = some y:=by
 obtain⟨a1,a2⟩:=W6 hp
 obtain⟨b1,b2⟩:=W6 hl
 obtain⟨c1,c2⟩:=Wl hr
 have key:∀ (j b:Nat),mp[j]? = some b→p1[j]? = κ.ph[b]? ∧ ∃ x y:yd,κ.st[b]? = some x∧VV (pos mp) x=some y∧bG[j]? = some y:=by
  intro j b hj
  refine⟨(a2 j b hj).1,?_⟩
  obtain⟨h1,h2⟩:=b2 j b hj
  have hx:l[j]? = some (κ.st[b]'h2):=by rw[h1,List.getElem?_eq_getElem h2]
  obtain⟨y,g1,g2⟩:=c2 j _ hx
  exact⟨_,y,List.getElem?_eq_getElem h2,g2,g1⟩
 have at':∀ {j:Nat} {y:yd},bG[j]? = some y→∃ b,mp[j]? = some b:=fun h=>by
  have:=(List.getElem?_eq_some_iff.1 h).1
  exact⟨_,List.getElem?_eq_getElem (by omega)⟩
 have hT:Tr κ ⟨κ.w,κ.ok,p1,bG⟩ (pos mp):=by
  refine⟨rfl,rfl,fun b j d hf hb => ?_,fun b j qR hf ho => ?_,fun b j v e xs hf hb => ?_⟩
  ·obtain⟨h1,x,y,h2,h3,h4⟩:=key j b (iT hf)
   rw[hb]at h2
   cases h2
   simp only[VV]at h3
   split at h3
   ·cases h3; exact⟨⟨_,h4⟩,h1⟩
   ·cases h3
  ·obtain⟨h1,x,y,h2,h3,h4⟩:=key j b (iT hf)
   rcases ho with ho | ⟨v0,e0,oW,ho,hv⟩
   ·rw[ho]at h2; cases h2; cases h3; exact .inl h4
   ·rw[ho]at h2; cases h2; cases h3; exact .inr ⟨v0,e0,oW,h4,hv⟩
  ·obtain⟨h1,x,y,h2,h3,h4⟩:=key j b (iT hf)
   rw[show bG[j]? = some (.arr v e xs)from hb]at h4
   cases h4
   cases x with
   | dead=>cases h3
   | var d=>simp only[VV]at h3; split at h3<;>cases h3
   | arr v0 e0 oW=>cases h3; exact⟨h2,h1⟩
 refine⟨⟨by show p1.length=bG.length; omega,hI.y5,fun j blk n h => ?_,fun j j' blk n n' h h' => ?_,fun j y h => ?_,hI.gl⟩,hT,by omega,a1,key⟩
 ·obtain⟨b,hb⟩:∃ b,mp[j]? = some b:=⟨_,List.getElem?_eq_getElem (by have:j<p1.length:=(List.getElem?_eq_some_iff.1 h).1; omega)⟩
  exact hI.apart b blk n ((a2 j b hb).1.symm.trans h)
 ·obtain⟨b,hb⟩:∃ b,mp[j]? = some b:=⟨_,List.getElem?_eq_getElem (by have:j<p1.length:=(List.getElem?_eq_some_iff.1 h).1; omega)⟩
  obtain⟨b',Zm⟩:∃ b,mp[j']? = some b:=⟨_,List.getElem?_eq_getElem (by have:j'<p1.length:=(List.getElem?_eq_some_iff.1 h').1; omega)⟩
  have:=hI.inj b b' blk n n' ((a2 j b hb).1.symm.trans h) ((a2 j' b' Zm).1.symm.trans h')
  subst this
  exact Option.some.inj ((o8 hn hb).symm.trans (o8 hn Zm))
 ·obtain⟨b,hb⟩:=at' h
  obtain⟨h1,x,y',h2,h3,h4⟩:=key j b hb
  rw[show bG[j]? = some y from h]at h4
  cases h4
  exact hT.blk h1 (hI.blk b x h2) h3
theorem HQ{κ1:KS}{bG ju l:List yd}{p1:List (Option (Nat×Nat))}(hI:Inv κ)(hn:gj mp=true)(hp:iY κ.ph mp=some p1)(hl:iY κ.st mp=some l)(hr:p8 (pos mp) l=some bG)
  (XV:Inv κ1) (hx:Ext ⟨κ.w,κ.ok,p1,bG⟩ κ1) (hr2:p8 (fun j=>some (fwd mp κ.st.length j)) κ1.st=some ju) :
  ∃ κ':KS,κ'.w=κ1.w∧κ'.st=wv mp κ.st ju∧Inv κ'∧Ext κ κ'∧Tr κ1 κ' (fun j=>some (fwd mp κ.st.length j)):=by
 obtain⟨hIs,hTs,s1,s2,key⟩:=El hI hn hp hl hr
 obtain⟨r1,r2⟩:=Wl hr2
 have qp:∀ (j b:Nat),mp[j]? = some b→b<κ.st.length:=fun j b hj=>by obtain⟨_,x,_,h,_⟩:=key j b hj; exact(List.getElem?_eq_some_iff.1 h).1
 have zdU:∀ (j b:Nat),mp[j]? = some b→b<κ.ph.length:=fun j b hj=>by rw[hI.len]; exact qp j b hj
 have hm1:mp.length≤κ1.st.length:=by have:=hx.Dy; simp only at this; omega
 have NR:mp.length≤ju.length:=by omega
 have Oq:mp.length≤κ1.ph.length:=by rw[XV.len]; exact hm1
 let fw:=fwd mp κ.st.length
 have hlen:(wv mp κ.ph κ1.ph).length=(wv mp κ.st ju).length:=by simp[wv,j4,hI.len,XV.len,r1]
 -- what lies where
 have cst:∀ {j:Nat} {x:yd},κ1.st[j]? = some x→∃ y,(wv mp κ.st ju)[fw j]? = some y∧VV (fun j=>some (fw j)) x=some y:=by
  intro j x hj
  obtain⟨y,h1,h2⟩:=r2 j x hj
  exact⟨y,by rw[BS hn qp NR (by rw[r1]; exact(List.getElem?_eq_some_iff.1 hj).1)]; exact h1,h2⟩
 have cph:∀ {j:Nat},j<κ1.st.length→(wv mp κ.ph κ1.ph)[fw j]? = κ1.ph[j]? := by
  intro j hj
  have:=BS (old:=κ.ph) (new:=κ1.ph) hn zdU Oq (j:=j) (by rw[XV.len]; exact hj)
  rw[hI.len]at this
  exact this
 have ust:∀ {i:Nat},i<κ.st.length→pos mp i=none→(wv mp κ.st ju)[i]? = κ.st[i]? := fun hi h=>mX hi h
 have uph:∀ {i:Nat},i<κ.st.length→pos mp i=none→(wv mp κ.ph κ1.ph)[i]? = κ.ph[i]? := fun hi h=>mX (by rw[hI.len]; exact hi) h
 have Wv:∀ {i:Nat},i<(wv mp κ.st ju).length→(i<κ.st.length∧pos mp i=none)∨∃ j,j<κ1.st.length∧i=fw j:=by
  intro i hi
  rcases Eh qp NR hi with h | ⟨j,h1,h2⟩
  ·exact .inl h
  ·exact .inr ⟨j,by omega,h2⟩
 have NP:∀ {j b:Nat},mp[j]? = some b→fw j=b:=fun h=>by simp only[fw,fwd,h]
 have zit:∀ {j:Nat},mp[j]? = none→κ.st.length≤fw j:=fun h=>by simp only[fw,fwd,h]; omega
 -- the part's own blocks
 have sph:∀ {j:Nat} {q:Nat×Nat},p1[j]? = some (some q)→∃ b,mp[j]? = some b∧κ.ph[b]? = some (some q):=by
  intro j q h
  have hj:=(List.getElem?_eq_some_iff.1 h).1
  obtain⟨b,hb⟩:∃ b,mp[j]? = some b:=⟨_,List.getElem?_eq_getElem (by omega)⟩
  exact⟨b,hb,(key j b hb).1.symm.trans h⟩
 have hT:Tr κ1 ⟨κ1.w,κ1.ok,wv mp κ.ph κ1.ph,wv mp κ.st ju⟩ (fun j=>some (fw j)):=by
  refine⟨rfl,rfl,fun j b d hf hj => ?_,fun j b qR hf ho => ?_,fun j b v e xs hf hb => ?_⟩
  ·cases hf
   obtain⟨y,h1,h2⟩:=cst hj
   simp only[VV]at h2
   split at h2
   ·cases h2; exact⟨⟨_,h1⟩,cph (List.getElem?_eq_some_iff.1 hj).1⟩
   ·cases h2
  ·cases hf
   rcases ho with ho | ⟨v0,e0,oW,ho,hv⟩
   ·obtain⟨y,h1,h2⟩:=cst ho; cases h2; exact .inl h1
   ·obtain⟨y,h1,h2⟩:=cst ho; cases h2; exact .inr ⟨v0,e0,oW,h1,hv⟩
  ·cases hf
   have hb:(wv mp κ.st ju)[fw j]? = some (.arr v e xs):=hb
   have XU:=(List.getElem?_eq_some_iff.1 hb).1
   have hj:j<κ1.st.length:=by
    by_cases hj:j<κ1.st.length
    ·exact hj
    ·exfalso
     cases hm:mp[j]? with
     | some c=>have:=(List.getElem?_eq_some_iff.1 hm).1; omega
     | none =>
      have h3:fw j=κ.st.length+(j-mp.length):=by simp only[fw,fwd,hm]
      have h4:(wv mp κ.st ju).length=κ.st.length+(ju.length-mp.length):=by simp[wv,j4]
      omega
   obtain⟨y,h1,h2⟩:=cst (List.getElem?_eq_getElem hj)
   rw[hb]at h1
   cases h1
   refine⟨?_,cph hj⟩
   rw[List.getElem?_eq_getElem hj]
   generalize κ1.st[j]=x at h2
   cases x with
   | dead=>cases h2
   | var d=>simp only[VV]at h2; split at h2<;>cases h2
   | arr v0 e0 oW=>cases h2; rfl
 -- Yp blocks lie as they lay
 have Yp:∀ {i blk n:Nat},pos mp i=none→κ.ph[i]? = some (some (blk,n))→κ1.w.heap[blk]? = κ.w.heap[blk]? := by
  intro i blk n hi h
  obtain⟨g1,g2⟩:=hI.apart i blk n h
  refine hx.frame blk g1 fun j m hj => ?_
  obtain⟨b,Bc,BY⟩:=sph hj
  have:=hI.inj i b blk n m h BY
  subst this
  rw[o8 hn Bc]at hi
  cases hi
 have hE:Ext κ ⟨κ1.w,κ1.ok,wv mp κ.ph κ1.ph,wv mp κ.st ju⟩:=by
  refine⟨hx.os,hx.tape,hx.output,hx.size,hx.same,fun k hk => ?_,fun i blk n h => ?_,fun i d hi => ?_,fun i v0 e oW hi => ?_,fun i hi => ?_,?_,fun k hk Ba => ?_⟩
  ·rcases hx.fresh k hk with h | h | ⟨j,n,h⟩
   ·exact .inl h
   ·exact .inr (.inl h)
   ·obtain⟨b,_,hb⟩:=sph h; exact .inr (.inr ⟨b,n,hb⟩)
  ·have h:(wv mp κ.ph κ1.ph)[i]? = some (some (blk,n)):=h
   have VU:i<(wv mp κ.st ju).length:=by rw[← hlen]; exact(List.getElem?_eq_some_iff.1 h).1
   rcases Wv VU with⟨h1,h2⟩ | ⟨j,h1,rfl⟩
   ·rw[uph h1 h2]at h; exact .inl h
   ·rw[cph h1]at h
    rcases hx.phs j blk n h with h3 | h3
    ·obtain⟨b,Bc,BY⟩:=sph h3
     rw[NP Bc]; exact .inl BY
    ·exact .inr h3
  ·have DY:=(List.getElem?_eq_some_iff.1 hi).1
   cases B8:pos mp i with
   | none=>exact⟨⟨d,(ust DY B8).trans hi⟩,uph DY B8⟩
   | some j =>
    have hmj:=iT B8
    obtain⟨k1,x,y,k2,k3,k4⟩:=key j i hmj
    rw[hi]at k2
    cases k2
    simp only[VV]at k3
    split at k3
    ·cases k3
     obtain⟨⟨d',g1⟩,g2⟩:=hx.var j _ k4
     obtain⟨⟨d'',q1⟩,q2⟩:=hT.var j (fw j) d' rfl g1
     rw[NP hmj]at q1 q2
     exact⟨⟨d'',q1⟩,q2.trans (g2.trans k1)⟩
    ·cases k3
  ·have DY:=(List.getElem?_eq_some_iff.1 hi).1
   cases B8:pos mp i with
   | none=>exact .inr ⟨v0,oW,(ust DY B8).trans hi,Nat.le_refl _,fun _=>⟨uph DY B8,rfl⟩⟩
   | some j =>
    have hmj:=iT B8
    obtain⟨k1,x,y,k2,k3,k4⟩:=key j i hmj
    rw[hi]at k2
    cases k2
    cases k3
    rcases hx.arr j v0 e oW k4 with g | ⟨v1,zy,g1,g2,g3⟩
    ·obtain⟨y,q1,q2⟩:=cst g
     cases q2
     rw[NP hmj]at q1
     exact .inl q1
    ·obtain⟨y,q1,q2⟩:=cst g1
     cases q2
     rw[NP hmj]at q1
     refine .inr ⟨v1,zy,q1,g2,fun he=>⟨?_,(g3 he).2⟩⟩
     have h4:=cph (List.getElem?_eq_some_iff.1 g1).1
     rw[NP hmj]at h4
     exact h4.trans ((g3 he).1.trans k1)
  ·have DY:=(List.getElem?_eq_some_iff.1 hi).1
   cases B8:pos mp i with
   | none=>exact(ust DY B8).trans hi
   | some j =>
    have hmj:=iT B8
    obtain⟨k1,x,y,k2,k3,k4⟩:=key j i hmj
    rw[hi]at k2
    cases k2
    cases k3
    obtain⟨y,q1,q2⟩:=cst (hx.dead j k4)
    cases q2
    rw[NP hmj]at q1
    exact q1
  ·show κ.st.length≤(wv mp κ.st ju).length
   simp[wv,j4]
  ·exact hx.frame k hk fun j n hj=>by obtain⟨b,_,hb⟩:=sph hj; exact Ba b n hb
 refine⟨⟨κ1.w,κ1.ok,wv mp κ.ph κ1.ph,wv mp κ.st ju⟩,rfl,rfl,⟨hlen,XV.y5,fun i blk n h => ?_,fun i i' blk n n' h h' => ?_,fun i y h => ?_,XV.gl⟩,hE,hT⟩
 ·have h:(wv mp κ.ph κ1.ph)[i]? = some (some (blk,n)):=h
  have VU:i<(wv mp κ.st ju).length:=by rw[← hlen]; exact(List.getElem?_eq_some_iff.1 h).1
  rcases Wv VU with⟨h1,h2⟩ | ⟨j,h1,rfl⟩
  ·rw[uph h1 h2]at h
   obtain⟨g1,g2⟩:=hI.apart i blk n h
   refine⟨Nat.lt_of_lt_of_le g1 hx.size,fun hk => ?_⟩
   rcases hx.fresh blk hk with hk | hk | ⟨j,m,hj⟩
   ·exact g2 hk
   ·simp only at hk; omega
   ·obtain⟨b,Bc,BY⟩:=sph hj
    have:=hI.inj i b blk n m h BY
    subst this
    rw[o8 hn Bc]at h2
    cases h2
  ·rw[cph h1]at h
   exact XV.apart j blk n h
 ·have h:(wv mp κ.ph κ1.ph)[i]? = some (some (blk,n)):=h
  have h':(wv mp κ.ph κ1.ph)[i']? = some (some (blk,n')):=h'
  have Ps:i<(wv mp κ.st ju).length:=by rw[← hlen]; exact(List.getElem?_eq_some_iff.1 h).1
  have GX:i'<(wv mp κ.st ju).length:=by rw[← hlen]; exact(List.getElem?_eq_some_iff.1 h').1
  have mixed:∀ {i j n n':Nat},i<κ.st.length→pos mp i=none→j<κ1.st.length→κ.ph[i]? = some (some (blk,n))→κ1.ph[j]? = some (some (blk,n'))→False:=by
   intro i j n n' h1 h2 h3 h4 h5
   rcases hx.phs j blk n' h5 with h6 | h6
   ·obtain⟨b,Bc,BY⟩:=sph h6
    have:=hI.inj i b blk n n' h4 BY
    subst this
    rw[o8 hn Bc]at h2
    cases h2
   ·have:=(hI.apart i blk n h4).1
    simp only at h6
    omega
  rcases Wv Ps with⟨h1,h2⟩ | ⟨j,h1,rfl⟩
  ·rw[uph h1 h2]at h
   rcases Wv GX with⟨h3,h4⟩ | ⟨j',h3,rfl⟩
   ·rw[uph h3 h4]at h'; exact hI.inj i i' blk n n' h h'
   ·rw[cph h3]at h'; exact(mixed h1 h2 h3 h h').elim
  ·rw[cph h1]at h
   rcases Wv GX with⟨h3,h4⟩ | ⟨j',h3,rfl⟩
   ·rw[uph h3 h4]at h'; exact(mixed h3 h4 h1 h' h).elim
   ·rw[cph h3]at h'
    rw[XV.inj j j' blk n n' h h']
 ·have h:(wv mp κ.st ju)[i]? = some y:=h
  rcases Wv (List.getElem?_eq_some_iff.1 h).1 with⟨h1,h2⟩ | ⟨j,h1,rfl⟩
  ·rw[ust h1 h2]at h
   exact(hI.blk i y h).mono hE (uph h1 h2) fun blk n hb=>Yp h2 hb
  ·obtain⟨z,q1,q2⟩:=cst (List.getElem?_eq_getElem h1)
   rw[h]at q1
   cases q1
   exact hT.blk (cph h1) (XV.blk j _ (List.getElem?_eq_getElem h1)) q2
end
end Go.AM
namespace Go.AM
set_option linter.unusedSectionVars false
variable [uz]
open Go.RowKit
inductive AK where
 | any | cur | sub | ptr | xk (f:Nat)
structure cI where
 ks:List AK
 sh:mm
 bg:List Gh
 out:mm
 nr:Nat
 F:sh.den→T out.den
def Ir(fr:Fr):Nat→Nat→Option (List D)
 | 0,_=>some []
 | n+1,i=>match fr.get i with
  | some d=>match Ir fr n (i+1)with | some r=>some (d::r) | none=>none
  | none=>none
def dO(nr:Nat)(fr:Fr):Option (List D):=Ir fr nr 0
def OA:List (Nat×Nat)→List D→Nat→Option Nat
 | p::r,.ptr b' _::ds,b=>bif Nat.beq p.1 b then some b' else OA r ds b
 | _,_,_=>none
def z9U(b:Nat):Ck→D→Option Nat
 | .ptr c _,.ptr b' _=>bif Nat.beq c b then some b' else none
 | .cur c _,.ms b' _ _ _ _=>bif Nat.beq c b then some b' else none
 | .xk _ l,.xk _ ds=>OA l ds b
 | _,_=>none
def z79(fr:Fr)(b:Nat):List (Nat×Ck)→Option Nat
 | []=>none
 | (s,k)::r=>match fr.get s with
  | some d=>match z9U b k d with | some b'=>some b' | none=>z79 fr b r
  | none=>z79 fr b r
def Di(b:Nat):List Mc→List D→Option Nat
 | .pt c::r,.ptr b' _::ds=>bif Nat.beq c b then some b' else Di b r ds
 | .pt _::r,_::ds=>Di b r ds
 | .im _::r,_::ds=>Di b r ds
 | .rp _::r,_::ds=>Di b r ds
 | _,_=>none
def Kb(b:Nat):List Sk→List D→Option Nat
 | .im τ::r,ds=>Kb b r (ds.drop τ.size)
 | .row c _::r,.ms b' _ _ _ _::ds=>bif Nat.beq c b then some b' else Kb b r ds
 | .row _ _::r,_::ds=>Kb b r ds
 | .op c _::r,.yf b' _::ds=>bif Nat.beq c b then some b' else Kb b r ds
 | .op _ _::r,_::ds=>Kb b r ds
 | .un::r,_::ds=>Kb b r ds
 | _,_=>none
def G5(fr:Fr)(b:Nat):List It→Option Nat
 | []=>none
 | .s s (.mclo _ ms)::r=>match fr.get s with
  | some (.xk _ l)=>match Di b ms l with | some b'=>some b' | none=>G5 fr b r
  | _=>G5 fr b r
 | .s s (.sub c _)::r=>match fr.get s with
  | some (.ms b' _ _ _ _)=>bif Nat.beq c b then some b' else G5 fr b r
  | _=>G5 fr b r
 | _::r=>G5 fr b r
def MU(st:St)(b:Nat):List Bk→List (Option Nat)→Option Nat
 | .cvar k::r,some p::ps=>match st[p]? with
  | some (.var d)=>match z9U b k d with | some b'=>some b' | none=>MU st b r ps
  | _=>MU st b r ps
 | .var (.st ks)::r,some p::ps=>match st[p]? with
  | some (.var d)=>match Kb b ks (qq d)with | some b'=>some b' | none=>MU st b r ps
  | _=>MU st b r ps
 | _::r,_::ps=>MU st b r ps
 | _,_=>none
def z8Z(sh:mm)(fr:Fr):Nat→List Bk→List (Option Nat)
 | _,[]=>[]
 | b,_::r=>(match z79 fr b sh.cs with | some b'=>some b' | none=>G5 fr b sh.pK)::z8Z sh fr (b+1) r
def z1l(sh:mm)(st:St)(m:List (Option Nat)):Nat→List (Option Nat)→List (Option Nat)
 | _,[]=>[]
 | b,some b'::r=>some b'::z1l sh st m (b+1) r
 | b,none::r=>MU st b sh.bs m::z1l sh st m (b+1) r
def z8X:List (Option Nat)→Option (List Nat)
 | []=>some []
 | some b::r=>match z8X r with | some l=>some (b::l) | none=>none
 | none::_=>none
def mapOf(sh:mm)(fr:Fr)(st:St):Option (List Nat):=let m:=z8Z sh fr 0 sh.bs
 let m:=z1l sh st m 0 m
 z8X (z1l sh st m 0 m)
def cI.back(d:cI)(mp:List Nat)(st:St)(y:d.out.den):T (GV×St):=match dO d.nr (d.out.fr y),p8 (fun j=>some (fwd mp st.length j)) (d.out.st y)with
 | some ds,some ju=>match WC (fun j=>some (fwd mp st.length j)) ds with
  | some Y8=>.ret (.ret Y8,wv mp st ju)
  | none=>.fail
 | _,_=>.fail
def cI.inner(d:cI)(mp:List Nat)(fr:Fr)(st:St):T (GV×St):=match iY st mp with
 | none=>.fail
 | some l=>match p8 (pos mp) l with
  | none=>.fail
  | some bG=>(d.sh.un (tX (pos mp) fr) bG).bind fun x=>(d.F x).bind fun y=>d.back mp st y
def cI.S(d:cI)(args:List D)(st:St):T (GV×St) :=
 match mapOf d.sh (gh d.bg (wG args 0) st).1 (gh d.bg (wG args 0) st).2 with
 | none=>.fail
 | some mp=>bif gj mp&&Nat.ble mp.length d.sh.bs.length&&Nat.beq args.length d.ks.length then d.inner mp (gh d.bg (wG args 0) st).1 (gh d.bg (wG args 0) st).2 else .fail
def cI.KL{α:Type}(d:cI)(mp:List Nat)(st:St)(y:d.out.den)(k:List D→St→T α):T α:=match dO d.nr (d.out.fr y),p8 (fun j=>some (fwd mp st.length j)) (d.out.st y)with
 | some ds,some ju=>match WC (fun j=>some (fwd mp st.length j)) ds with
  | some Y8=>k Y8 (wv mp st ju)
  | none=>.fail
 | _,_=>.fail
def cI.rP{α:Type}(d:cI)(mp:List Nat)(fr:Fr)(st:St)(k:List D→St→T α):T α:=match iY st mp with
 | none=>.fail
 | some l=>match p8 (pos mp) l with
  | none=>.fail
  | some bG=>(d.sh.un (tX (pos mp) fr) bG).bind fun x=>(d.F x).bind fun y=>d.KL mp st y k
def cI.K{α:Type}(d:cI)(args:List D)(st:St)(k:List D→St→T α):T α :=
 match mapOf d.sh (gh d.bg (wG args 0) st).1 (gh d.bg (wG args 0) st).2 with
 | none=>.fail
 | some mp=>bif gj mp&&Nat.ble mp.length d.sh.bs.length&&Nat.beq args.length d.ks.length then d.rP mp (gh d.bg (wG args 0) st).1 (gh d.bg (wG args 0) st).2 k else .fail
theorem cI.z5s{α:Type}{d:cI}{args:List D}{st:St}{k:List D→St→T α}{r:α}(h:(d.K args st k).leads r):∃ ds zL,(d.S args st).leads (.ret ds,zL)∧(k ds zL).leads r:=by
 unfold cI.K at h
 unfold cI.S
 split at h
 ·exact h.elim
 ·rename_i mp Oq
  cases hc:gj mp&&Nat.ble mp.length d.sh.bs.length&&Nat.beq args.length d.ks.length with
  | false=>rw[hc]at h; exact h.elim
  | true =>
   rw[hc,cond_true]at h
   rw[cond_true]
   unfold cI.rP at h
   unfold cI.inner
   split at h
   ·exact h.elim
   ·rename_i l hl
    split at h
    ·exact h.elim
    ·rename_i bG hst1
     obtain⟨x,h1,h⟩:=T.zg.1 h
     obtain⟨y,h2,h⟩:=T.zg.1 h
     unfold cI.KL at h
     split at h
     ·rename_i ds ju e1 e2
      split at h
      ·rename_i Y8 e3
       refine⟨Y8,_,T.zg.2 ⟨x,h1,T.zg.2 ⟨y,h2,?_⟩⟩,h⟩
       unfold cI.back
       simp only[e1,e2,e3]
       rfl
      ·exact h.elim
     ·exact h.elim
def z6u(Dr:z6j)(g:Nat)(d:cI):Prop:=∀ (κ:KS) (x:d.sh.den) (qi:List Value) (y:d.out.den),κ.st=d.sh.st x→(d.F x).leads y→Inv κ→qi.length=d.ks.length →
 Rel κ qi.length (d.sh.fr x).get { tmps:=qi.toArray,defers:=[] } →
 Dr g qi.toArray κ.w fun e w'=>∃ (κ':KS) (ds:List D),κ'.w=w'∧κ'.st=d.out.st y∧Inv κ'∧Ext κ κ'∧dO d.nr (d.out.fr y)=some ds∧vt κ' (.ret ds) e
def vL(P:Program)(g:Nat)(d:cI):Prop:=∀ (κ:KS) (x:d.sh.den) (qi:List Value) (y:d.out.den),κ.st=d.sh.st x→(d.F x).leads y→Inv κ→qi.length=d.ks.length →
 Rel κ qi.length (d.sh.fr x).get { tmps:=qi.toArray,defers:=[] } →
 uE P g qi.toArray κ.w fun e w'=>∃ (κ':KS) (ds:List D),κ'.w=w'∧κ'.st=d.out.st y∧Inv κ'∧Ext κ κ'∧dO d.nr (d.out.fr y)=some ds∧vt κ' (.ret ds) e
theorem IK{κ κ':KS}{f:Nat→Option Nat}(h:Tr κ κ' f){ds Y8:List D}{v:Value}(hd:RD κ (yW ds) v)(hr:WC f ds=some Y8):RD κ' (yW Y8) v:=by
 match ds,hr with
 | [],hr =>
  cases hr
  cases hd with
  | gB _ vs hl hh =>
   obtain rfl:vs=[]:=List.eq_nil_of_length_eq_zero hl.symm
   exact .gB [] [] rfl (fun i h=>absurd h (Nat.not_lt_zero i))
 | [d],hr =>
  simp only[WC]at hr
  split at hr
  ·rename_i d' h1
   cases hr
   exact h.rd hd h1
  ·cases hr
 | d::e::r,hr =>
  have hd:RD κ (.gB (d::e::r)) v:=hd
  cases hd with
  | gB _ vs hl hh =>
   have hR:=h.rds (⟨hl,hh⟩:xv κ (d::e::r) vs) hr
   simp only[WC]at hr
   split at hr
   ·split at hr
    ·rename_i r' h2
     cases hr
     split at h2
     ·split at h2
      ·cases h2; exact .gB _ vs hR.1 hR.2
      ·cases h2
     ·cases h2
    ·cases hr
   ·cases hr
theorem Q9{α β:Type}{l:List α}{m:List β}(h:l.length=m.length):∀ {mp:List Nat} {r:List α},iY l mp=some r→∃ q,iY m mp=some q
 | [],_,_=>⟨[],rfl⟩
 | b::mp,r,hr=>by
  simp only[iY]at hr
  split at hr
  ·rename_i x hx
   split at hr
   ·rename_i y hy
    obtain⟨q,hq⟩:=Q9 h hy
    have hb:b<m.length:=by have:=(List.getElem?_eq_some_iff.1 hx).1; omega
    exact⟨m[b]::q,by simp only[iY,List.getElem?_eq_getElem hb,hq]⟩
   ·cases hr
  ·cases hr
theorem cI.ze7{Dr:z6j}(zan:∀ {g a w} {R R':Ending→World→Prop},Dr g a w R→(∀ e w',R e w'→R' e w')→Dr g a w R'){g:Nat}{d:cI}(h:z6u Dr g d):zfH Dr g d.S:=by
 intro κ args qi rs zL hl hI ha
 have hR0:Rel κ qi.length (wG args 0).get { tmps:=qi.toArray,defers:=[] }:=by
  have:=XE (n:=qi.length) ha (by rw[ha.1]; exact Nat.le_refl _)
  simpa[show(B9.df:List Deferred)=[]from rfl]using this
 obtain⟨κ0,w1,w2,w3,w4,w5⟩:=ng d.bg (wG args 0) κ hI hR0
 unfold cI.S at hl
 rw[← w2]at hl
 split at hl
 ·exact hl.elim
 ·rename_i mp Oq
  cases hc:gj mp&&Nat.ble mp.length d.sh.bs.length&&Nat.beq args.length d.ks.length with
  | false=>rw[hc]at hl; exact hl.elim
  | true =>
   rw[hc,cond_true]at hl
   simp only[Bool.and_eq_true]at hc
   obtain⟨⟨hn,hle⟩,hlen⟩:=hc
   unfold cI.inner at hl
   split at hl
   ·exact hl.elim
   ·rename_i l QA
    split at hl
    ·exact hl.elim
    ·rename_i bG hst1
     obtain⟨x,h1,hl⟩:=T.zg.1 hl
     obtain⟨y,h2,hl⟩:=T.zg.1 hl
     obtain⟨p1,hpp⟩:=Q9 (m:=κ0.ph) w3.len.symm QA
     obtain⟨s1,s2,s3,s4,s5⟩:=El w3 hn hpp QA hst1
     have B6:Rel ⟨κ0.w,κ0.ok,p1,bG⟩ qi.length (tX (pos mp) (gh d.bg (wG args 0) κ.st).1).get { tmps:=qi.toArray,defers:=[] } :=
      ⟨w5.size,w5.defers,fun s d' hd=>by
       obtain⟨d0,q1,q2⟩:=tG hd
       obtain⟨v,q3,q4⟩:=w5.get s d0 q1
       exact⟨v,q3,s2.rd q4 q2⟩⟩
     obtain⟨κ2,u1,u2,u3,u4,u5,_⟩:=d.sh.Qm (κ0:=⟨κ0.w,κ0.ok,p1,bG⟩) (κ:=⟨κ0.w,κ0.ok,p1,bG⟩) (Ext.refl _) s1 B6 (by show bG.length≤_; rw[s3]; exact Nat.le_of_ble_eq_true hle) h1
     have hw:κ2.w=κ.w:=u1.trans w1
     have hdo:=h κ2 x qi y u2 h2 u3 (by rw[← ha.1]; exact Nat.eq_of_beq_eq_true hlen) u5
     rw[hw]at hdo
     refine zan hdo ?_
     rintro e w' ⟨κ3,ds,rfl,g1,g2,g3,g4,v,rfl,g5⟩
     unfold cI.back at hl
     rw[g4,← g1]at hl
     split at hl
     ·rename_i ds0 ju e1 e2
      cases e1
      split at hl
      ·rename_i Y8 hds'
       cases hl
       obtain⟨κ',k1,k2,k3,k4,k5⟩:=HQ w3 hn hpp QA hst1 g2 (u4.trans g3) e2
       exact⟨κ',k1,k2,k3,w4.trans k4,v,rfl,IK k5 g5 hds'⟩
      ·exact hl.elim
     ·exact hl.elim
theorem cI.snd{P:Program}{g:Nat}{d:cI}(h:vL P g d):By P g d.S:=cI.ze7 (Dr:=uE P) uE.mono h
structure me where
 ks:List AK
 sh:mm
 bg:List Gh
 out:mm
 nr:Nat
 pt:Nat
 bU:mm
 F:sh.den→T (out.den⊕bU.den)
abbrev me.s(d:me):cI:=⟨d.ks,d.sh,d.bg,d.out,d.nr,fun _=>.fail⟩
def me.RN{α:Type}(d:me)(mp:List Nat)(st:St)(z:d.bU.den)(kp:D→St→T α):T α:=match(d.bU.fr z).get 0,p8 (fun j=>some (fwd mp st.length j)) (d.bU.st z)with
 | some (.zW τ x),some ju=>kp (.iface d.pt (.zW τ x)) (wv mp st ju)
 | _,_=>.fail
def me.rP{α:Type}(d:me)(mp:List Nat)(fr:Fr)(st:St)(k:List D→St→T α)(kp:D→St→T α):T α:=match iY st mp with
 | none=>.fail
 | some l=>match p8 (pos mp) l with
  | none=>.fail
  | some bG=>(d.sh.un (tX (pos mp) fr) bG).bind fun x=>(d.F x).bind (Sum.elim (fun y=>d.s.KL mp st y k) (fun z=>d.RN mp st z kp))
def me.K{α:Type}(d:me)(args:List D)(st:St)(k:List D→St→T α)(kp:D→St→T α):T α :=
 match mapOf d.sh (gh d.bg (wG args 0) st).1 (gh d.bg (wG args 0) st).2 with
 | none=>.fail
 | some mp=>bif gj mp&&Nat.ble mp.length d.sh.bs.length&&Nat.beq args.length d.ks.length then d.rP mp (gh d.bg (wG args 0) st).1 (gh d.bg (wG args 0) st).2 k kp else .fail
def me.S(d:me)(args:List D)(st:St):T (GV×St):=d.K args st (fun ds zL=>.ret (.ret ds,zL)) (fun p zL=>.ret (.bU p,zL))
theorem me.z5s{α:Type}{d:me}{args:List D}{st:St}{k:List D→St→T α}{kp:D→St→T α}{r:α}(h:(d.K args st k kp).leads r) :
  (∃ ds zL,(d.S args st).leads (.ret ds,zL)∧(k ds zL).leads r)∨∃ p zL,(d.S args st).leads (.bU p,zL)∧(kp p zL).leads r:=by
 unfold me.K at h
 unfold me.S me.K
 split at h
 ·exact h.elim
 ·rename_i mp Oq
  cases hc:gj mp&&Nat.ble mp.length d.sh.bs.length&&Nat.beq args.length d.ks.length with
  | false=>rw[hc]at h; exact h.elim
  | true =>
   rw[hc,cond_true]at h
   simp only[Oq,hc,cond_true]
   unfold me.rP at h
   unfold me.rP
   split at h
   ·exact h.elim
   ·rename_i l hl
    split at h
    ·exact h.elim
    ·rename_i bG hst1
     obtain⟨x,h1,h⟩:=T.zg.1 h
     obtain⟨y,h2,h⟩:=T.zg.1 h
     cases y with
     | inl y =>
      simp only[Sum.elim_inl]at h
      unfold cI.KL at h
      split at h
      ·rename_i ds ju e1 e2
       split at h
       ·rename_i Y8 e3
        refine .inl ⟨Y8,_,T.zg.2 ⟨x,h1,T.zg.2 ⟨.inl y,h2,?_⟩⟩,h⟩
        simp only[Sum.elim_inl]
        unfold cI.KL
        simp only[e1,e2,e3]
        rfl
       ·exact h.elim
      ·exact h.elim
     | inr z =>
      simp only[Sum.elim_inr]at h
      unfold me.RN at h
      split at h
      ·rename_i τ p ju e1 e2
       refine .inr ⟨_,_,T.zg.2 ⟨x,h1,T.zg.2 ⟨.inr z,h2,?_⟩⟩,h⟩
       simp only[Sum.elim_inr]
       unfold me.RN
       simp only[e1,e2]
       rfl
      ·exact h.elim
def Ge(P:Program)(g:Nat)(d:me):Prop:=∀ (κ:KS) (x:d.sh.den) (qi:List Value) (r:d.out.den⊕d.bU.den),κ.st=d.sh.st x→(d.F x).leads r→Inv κ→qi.length=d.ks.length →
 Rel κ qi.length (d.sh.fr x).get { tmps:=qi.toArray,defers:=[] } →
 uE P g qi.toArray κ.w fun e w'=>∃ κ':KS,κ'.w=w'∧Inv κ'∧Ext κ κ' ∧
  ((∃ (y:d.out.den) (ds:List D),r=.inl y∧κ'.st=d.out.st y∧dO d.nr (d.out.fr y)=some ds∧vt κ' (.ret ds) e) ∨
   ∃ (z:d.bU.den) (p:D),r=.inr z∧κ'.st=d.bU.st z∧(d.bU.fr z).get 0=some p∧vt κ' (.bU (.iface d.pt p)) e)
theorem me.snd{P:Program}{g:Nat}{d:me}(h:Ge P g d):By P g d.S:=by
 intro κ args qi rs zL hl hI ha
 have hR0:Rel κ qi.length (wG args 0).get { tmps:=qi.toArray,defers:=[] }:=by
  have:=XE (n:=qi.length) ha (by rw[ha.1]; exact Nat.le_refl _)
  simpa[show(B9.df:List Deferred)=[]from rfl]using this
 obtain⟨κ0,w1,w2,w3,w4,w5⟩:=ng d.bg (wG args 0) κ hI hR0
 unfold me.S me.K at hl
 rw[← w2]at hl
 split at hl
 ·exact hl.elim
 ·rename_i mp Oq
  cases hc:gj mp&&Nat.ble mp.length d.sh.bs.length&&Nat.beq args.length d.ks.length with
  | false=>rw[hc]at hl; exact hl.elim
  | true =>
   rw[hc,cond_true]at hl
   simp only[Bool.and_eq_true]at hc
   obtain⟨⟨hn,hle⟩,hlen⟩:=hc
   unfold me.rP at hl
   split at hl
   ·exact hl.elim
   ·rename_i l QA
    split at hl
    ·exact hl.elim
    ·rename_i bG hst1
     obtain⟨x,h1,hl⟩:=T.zg.1 hl
     obtain⟨y,h2,hl⟩:=T.zg.1 hl
     obtain⟨p1,hpp⟩:=Q9 (m:=κ0.ph) w3.len.symm QA
     obtain⟨s1,s2,s3,s4,s5⟩:=El w3 hn hpp QA hst1
     have B6:Rel ⟨κ0.w,κ0.ok,p1,bG⟩ qi.length (tX (pos mp) (gh d.bg (wG args 0) κ.st).1).get { tmps:=qi.toArray,defers:=[] } :=
      ⟨w5.size,w5.defers,fun s d' hd=>by
       obtain⟨d0,q1,q2⟩:=tG hd
       obtain⟨v,q3,q4⟩:=w5.get s d0 q1
       exact⟨v,q3,s2.rd q4 q2⟩⟩
     obtain⟨κ2,u1,u2,u3,u4,u5,_⟩:=d.sh.Qm (κ0:=⟨κ0.w,κ0.ok,p1,bG⟩) (κ:=⟨κ0.w,κ0.ok,p1,bG⟩) (Ext.refl _) s1 B6 (by show bG.length≤_; rw[s3]; exact Nat.le_of_ble_eq_true hle) h1
     have hw:κ2.w=κ.w:=u1.trans w1
     have hdo:=h κ2 x qi y u2 h2 u3 (by rw[← ha.1]; exact Nat.eq_of_beq_eq_true hlen) u5
     rw[hw]at hdo
     refine hdo.mono ?_
     rintro e w' ⟨κ3,rfl,g2,g3,⟨y,ds,rfl,g1,g4,v,rfl,g5⟩ | ⟨z,p,rfl,g1,g4,v,rfl,g5⟩⟩
     ·simp only[Sum.elim_inl]at hl
      unfold cI.KL at hl
      rw[show dO d.s.nr (d.s.out.fr y)=some ds from g4,show d.s.out.st y=κ3.st from g1.symm]at hl
      split at hl
      ·rename_i ds0 ju e1 e2
       cases e1
       split at hl
       ·rename_i Y8 hds'
        cases hl
        obtain⟨κ',k1,k2,k3,k4,k5⟩:=HQ w3 hn hpp QA hst1 g2 (u4.trans g3) e2
        exact⟨κ',k1,k2,k3,w4.trans k4,v,rfl,IK k5 g5 hds'⟩
       ·exact hl.elim
      ·exact hl.elim
     ·simp only[Sum.elim_inr]at hl
      unfold me.RN at hl
      rw[g4,← g1]at hl
      split at hl
      ·rename_i τ q ju e1 e2
       cases e1
       cases hl
       obtain⟨κ',k1,k2,k3,k4,k5⟩:=HQ w3 hn hpp QA hst1 g2 (u4.trans g3) e2
       refine⟨κ',k1,k2,k3,w4.trans k4,v,rfl,?_⟩
       cases g5 with
       | iface _ _ u hu=>exact .iface _ _ u (k5.rd hu rfl)
      ·exact hl.elim
end Go.AM
namespace Go.AM
def Hs(sh:mm)(bg:List Gh)(args:List D)(st:St):List Nat:=bif bg.isEmpty then match mapOf sh (wG args 0) st with | some mp=>others st.length mp | none=>[]else[]
def cI.free(d:cI)(args:List D)(st:St):List Nat:=Hs d.sh d.bg args st
def me.free(d:me)(args:List D)(st:St):List Nat:=Hs d.sh d.bg args st
theorem Bi{m b:Nat}{l:List Nat}(h:b∈others m l):b<m∧∀ x∈l,b≠x:=by
 simp only[others,List.mem_filter,List.mem_range,Bool.not_eq_true',List.any_eq_false]at h
 exact⟨h.1,fun x hx e=>by subst e; exact h.2 b hx (Nat.beq_refl _)⟩
theorem BW:∀ {mp:List Nat} {b:Nat},(∀ x∈mp,b≠x)→pos mp b=none
 | [],_,_=>rfl
 | x::r,b,h=>by
  simp only[pos]
  rw[show Nat.beq x b=false from by cases hb:Nat.beq x b with | false=>rfl | true=>exact absurd (Nat.eq_of_beq_eq_true hb).symm (h x List.mem_cons_self),cond_false,BW fun y hy=>h y (List.mem_cons_of_mem _ hy)]
theorem Jd{sh:mm}{bg:List Gh}{args:List D}{st:St}{b:Nat}(hb:b∈Hs sh bg args st):bg=[]∧∃ mp,mapOf sh (wG args 0) st=some mp∧b<st.length∧pos mp b=none:=by
 unfold Hs at hb
 cases hn:bg.isEmpty with
 | false=>rw[hn]at hb; cases hb
 | true =>
  rw[hn,cond_true]at hb
  refine⟨List.isEmpty_iff.1 hn,?_⟩
  split at hb
  ·rename_i mp Oq
   obtain⟨h1,h2⟩:=Bi hb
   exact⟨mp,Oq,h1,BW h2⟩
  ·cases hb
theorem cI.QQ{d:cI}{args:List D}{st zL:St}{rs:GV}{b:Nat}(h:(d.S args st).leads (rs,zL))(hb:b∈d.free args st):zL[b]? = st[b]? := by
 obtain⟨hn,mp,Oq,qp,Wa⟩:=Jd hb
 unfold cI.S at h
 rw[hn]at h
 simp only[gh,Oq]at h
 cases hc:gj mp&&Nat.ble mp.length d.sh.bs.length&&Nat.beq args.length d.ks.length with
 | false=>rw[hc]at h; exact h.elim
 | true =>
  rw[hc,cond_true]at h
  unfold cI.inner at h
  split at h
  ·exact h.elim
  ·split at h
   ·exact h.elim
   ·obtain⟨x,_,h⟩:=T.zg.1 h
    obtain⟨y,_,h⟩:=T.zg.1 h
    unfold cI.back at h
    split at h
    ·split at h
     ·cases h; exact mX qp Wa
     ·exact h.elim
    ·exact h.elim
theorem me.QQ{d:me}{args:List D}{st zL:St}{rs:GV}{b:Nat}(h:(d.S args st).leads (rs,zL))(hb:b∈d.free args st):zL[b]? = st[b]? := by
 obtain⟨hn,mp,Oq,qp,Wa⟩:=Jd hb
 unfold me.S me.K at h
 rw[hn]at h
 simp only[gh,Oq]at h
 cases hc:gj mp&&Nat.ble mp.length d.sh.bs.length&&Nat.beq args.length d.ks.length with
 | false=>rw[hc]at h; exact h.elim
 | true =>
  rw[hc,cond_true]at h
  unfold me.rP at h
  split at h
  ·exact h.elim
  ·split at h
   ·exact h.elim
   ·obtain⟨x,_,h⟩:=T.zg.1 h
    obtain⟨y,_,h⟩:=T.zg.1 h
    cases y with
    | inl y =>
     simp only[Sum.elim_inl]at h
     unfold cI.KL at h
     split at h
     ·split at h
      ·cases h; exact mX qp Wa
      ·exact h.elim
     ·exact h.elim
    | inr z =>
     simp only[Sum.elim_inr]at h
     unfold me.RN at h
     split at h
     ·cases h; exact mX qp Wa
     ·exact h.elim
end Go.AM
namespace Go.AM
def Qa.den:Qa→Type
 | .ty τ=>AM.den τ
 | .rp τ=>AM.den τ
 | .xk _ caps=>gM caps
def uN:List Qa→Type
 | []=>Unit
 | [p]=>p.den
 | p::q::r=>p.den×uN (q::r)
def mkP:(p:Qa)→p.den→D
 | .ty τ,x=>.zW τ x
 | .rp τ,x=>.xo τ x
 | .xk f caps,x=>.xk f (ow caps x)
def W5:(l:List Qa)→uN l→List D
 | [],_=>[]
 | [p],x=>[mkP p x]
 | p::q::r,x=>mkP p x.1::W5 (q::r) x.2
def Qd:(l:List Ty)→UC l→List D
 | [],_=>[]
 | [τ],x=>[.zW τ x]
 | τ::σ::r,x=>.zW τ x.1::Qd (σ::r) x.2
def rpX(st:St)(τ:Ty):D→T (den τ)
 | .xo _ x=>match(vQ x:Option (den τ))with | some y=>.ret y | none=>.fail
 | .ptr b off=>match st[b]? with
  | some (.var d)=>match bif Nat.beq off 0 then dM τ d else none with | some y=>.ret y | none=>.fail
  | _=>.fail
 | _=>.fail
def z2c(st:St):(p:W8)→D→T (den p.ty)
 | .im τ,d=>Qs st τ d
 | .rp τ,d=>rpX st τ d
def M6(st:St):(l:List W8)→List D→T (gM l)
 | [],[]=>.ret ()
 | [p],[d]=>z2c st p d
 | p::q::r,d::ds=>(z2c st p d).bind fun x=>(M6 st (q::r) ds).bind fun y=>.ret (x,y)
 | _,_=>.fail
def unP(st:St):(p:Qa)→D→T p.den
 | .ty τ,d=>Qs st τ d
 | .rp τ,d=>rpX st τ d
 | .xk f caps,d=>match d with
  | .xk f' l=>bif Nat.beq f f' then M6 st caps l else .fail
  | _=>.fail
def BP(st:St):(l:List Qa)→List D→T (uN l)
 | [],[]=>.ret ()
 | [p],[d]=>unP st p d
 | p::q::r,d::ds=>(unP st p d).bind fun x=>(BP st (q::r) ds).bind fun y=>.ret (x,y)
 | _,_=>.fail
def Rs(st:St):(l:List Ty)→List D→T (UC l)
 | [],[]=>.ret ()
 | [τ],[d]=>Qs st τ d
 | τ::σ::r,d::ds=>(Qs st τ d).bind fun x=>(Rs st (σ::r) ds).bind fun y=>.ret (x,y)
 | _,_=>.fail
structure Bb where
 ps:List Qa
 rs:List Ty
 F:uN ps→T (UC rs)
def z5Z:Qa→D→Bool
 | .xk f _,d=>match d with | .xk f' _=>Nat.beq f f' | _=>false
 | _,d=>match d with | .xk _ _=>false | _=>true
def fits:List Qa→List D→Bool
 | [],[]=>true
 | p::ps,d::ds=>z5Z p d&&fits ps ds
 | _,_=>false
def z6G:AK→D→Bool
 | .any,d=>match d with | .xk _ _=>false | _=>true
 | .cur,d=>match d with | .ms .. => true | .xm=>true | _=>false
 | .sub,d=>match d with | .ms .. => true | _=>false
 | .ptr,d=>match d with | .ptr .. => true | _=>false
 | .xk f,d=>match d with | .xk f' _=>Nat.beq f f' | _=>false
def pq:List AK→List D→Bool
 | [],[]=>true
 | p::ps,d::ds=>z6G p d&&pq ps ds
 | _,_=>false
inductive FnE where
 | d (x:Bb)
 | s (x:cI)
 | p (x:me)
def FnE.fits:FnE→List D→Bool
 | .d x,l=>AM.fits x.ps l
 | .s x,l=>pq x.ks l
 | .p x,l=>pq x.ks l
abbrev fX:=List (Nat×FnE)
def fX.find:fX→Nat→List D→Option FnE
 | [],_,_=>none
 | (g',d)::r,g,args=>bif Nat.beq g' g&&d.fits args then some d else fX.find r g args
abbrev Sm:=List D→St→T (GV×St)
def Bb.S(d:Bb):Sm:=fun args st=>match st with
 | []=>(BP [] d.ps args).bind fun x=>(d.F x).bind fun y=>.ret (.ret (Qd d.rs y),[])
 | _=>.fail
def fX.call(tab:fX)(g:Nat)(args:List D)(st:St):T (GV×St):=match tab.find g args with | some (.d d)=>d.S args st | some (.s d)=>d.S args st | some (.p d)=>d.S args st | none=>.fail
def fX.free(tab:fX)(g:Nat)(args:List D)(st:St):List Nat:=match tab.find g args with | some (.s d)=>d.free args st | some (.p d)=>d.free args st | _=>[]
theorem fX.QQ(tab:fX)(g:Nat)(args:List D)(st:St)(rs:GV)(zL:St)(b:Nat)(h:(tab.call g args st).leads (rs,zL))(hb:b∈tab.free g args st):zL[b]? = st[b]? := by
 unfold fX.call at h
 unfold fX.free at hb
 split at hb
 ·rename_i d hd; rw[hd]at h; exact cI.QQ h hb
 ·rename_i d hd; rw[hd]at h; exact me.QQ h hb
 ·cases hb
def y9(P:Program)(xid:Nat)(tab:fX)(ro:Nat→Bool):Ctx :=
 { P,xid,ro,sig:=fun g args=>match tab.find g args with | some (.d d)=>some ⟨d.ps,d.rs⟩ | _=>none,fn:=tab.call,free:=tab.free,RO:=tab.QQ }
def z4m{α:Type}(tab:fX)(g:Nat)(args:List D)(st:St)(k:Nat→Option D→St→T α)(kp:D→St→T α):T α:=match tab.find g args with
 | none=>.fail
 | some (.d d)=>bif !(args.any Kj)then(BP [] d.ps args).bind fun x=>(d.F x).bind fun y=>k 0 (some (yW (Qd d.rs y))) st
  else(BP st d.ps args).bind fun x=>(d.F x).bind fun y=>bif (Qd d.rs y).all sS then k 1 (some (yW (Qd d.rs y))) st else .fail
 | some (.s d)=>d.K args st fun ds zL=>k 2 (some (yW ds)) zL
 | some (.p d)=>d.K args st (fun ds zL=>k 2 (some (yW ds)) zL) kp
def Hy{α:Type}(tab:fX)(f:Option D)(args:List (Option D))(st:St)(k:Nat→Option D→St→T α)(kp:D→St→T α):T α:=match f,jC args with
 | some (.xk g caps),some l=>z4m tab (dQ g) (c9 g l caps) st k kp
 | _,_=>.fail
def tZ(l:List Nat):Fr:=l.map fun s=>(s,none)
def dstsOf:List Oper→List Nat
 | []=>[]
 | o::r=>match o.dst with | some t=>t::dstsOf r | none=>dstsOf r
def qX:Code→List Nat
 | .region _ ops _=>dstsOf ops.toList
 | .seq a b=>qX a++qX b
 | .cond _ a b=>qX a++qX b
 | .block _ a=>qX a
 | .loop a=>qX a
 | _=>[]
structure zE where
 gh:List Gh
 ps:List It
 sh:mm
 ws:List Way
 F:wS ps→sh.den→T (yt ws)
inductive z2L where
 | flat (pK:List It)
 | ways (ws:List Way)
 | z4I
structure Hints where
 loop:Nat→Option zE
 cut:Nat→Nat→Option z2L
 frz:Nat→List Nat
def ik:Code→Option Nat
 | .region id _ _=>some id
 | .seq a b=>match ik a with | some n=>some n | none=>ik b
 | .cond _ a b=>match ik a with | some n=>some n | none=>ik b
 | .block _ a=>ik a
 | .loop a=>ik a
 | _=>none
def keyOf(x:Code):Nat×Nat:=(match x with | .region .. => 0 | .cond .. => 1 | .block .. => 2 | _=>3,match ik x with | some n=>n | none=>0)
def Se(l:List Nat)(s:Nat):Bool := !(l.any (Nat.beq s))
def XO:Dk→Bool
 | .sub _ _=>false
 | .st _=>false
 | .mclo _ _=>false
 | _=>true
def FY(ps:List It)(ws:List Nat):Bool:=ps.all fun i=>match i with
 | .s t k=>XO k&&Se ws t
 | _=>false
def Ht{α:Type}:T α→Option α
 | .ret a=>some a
 | .ite _ t e=>match Ht t with | some a=>some a | none=>Ht e
 | .zd _ t=>Ht t
 | .fail=>none
def Bj{α β:Type}(f:α→β):T α→T β
 | .ret a=>.ret (f a)
 | .ite b t e=>.ite b (Bj f t) (Bj f e)
 | .zd p t=>.zd p (Bj f t)
 | .fail=>.fail
def N0:(l:List It)→wS l→T (wS l)→wS l
 | [],_,_=>()
 | [_],d,t=>T.val d t
 | _::j::r,d,t=>(T.val d.1 (Bj Prod.fst t),N0 (j::r) d.2 (Bj Prod.snd t))
def So(l:List It)(t:T (wS l)):T (wS l):=match Ht t with
 | some d=>match t.fI with
  | none=>.ret (N0 l d t)
  | some p=>.zd p (.ret (N0 l d t))
 | none=>.fail
def G0(l:List It):Bool:=l.all fun i=>match i with
 | .s _ k=>XO k
 | _=>false
structure Ef where
 ex:Ex
 fr:Fr
 kn:Kn
 st:St
 q:Bool      -- the store has not been written
def quiet(ks:List Nat):Bool:=ks.all fun k => !(Nat.beq k 2)
structure zaQ where
 e:Ty
 l:List (den e)
 m:Nat
 s:Nat
 c:Nat
 eq:Bool
def RA:BinOp→Option Bool
 | .eql=>some true
 | .neq=>some false
 | _=>none
def Ed:Operand→Bool
 | .const (.slice none 0 0)=>true
 | _=>false
def Hc(c:Ctx)(n:Nat)(ops:Array Oper)(fr:Fr):Option zaQ:=match ops.toList with
 | [o1,o2]=>match o1.dst,o1.op,o1.guard with
  | some m,.move (.tmp s),none=>match o2.dst,o2.op,o2.guard with
   | some cc,.binOp op t (.tmp m') y _,none=>match RA op,fr.get s,iW c t with
    | some b,some (.zW (.sl e) l),some _=>bif Nat.beq m m'&&Ed y&&Nat.blt m n&&Nat.blt cc n then some ⟨e,l,m,s,cc,b⟩else none
    | _,_,_=>none
   | _,_,_=>none
  | _,_,_=>none
 | _=>none
def opsOf:Code→Option (Array Oper)
 | .region _ ops false=>some ops
 | _=>none
section
variable (c:Ctx) (tab:fX)
variable [tN]
def ta{α:Type}(n:Nat)(o:Oper)(s:fg)(k:fg→T α)(kp:D→St→T α):T α :=
 bif vM n o.dst then match o.op with
  | .call cl=>match cl.callee with
   | .value f=>Hy tab (yb s.fr f) (cl.args.toList.map (yb s.fr)) s.st (fun kd d zL=>k ⟨s.fr.put o.dst d,Jx s.kn o.dst none,zL,kd::s.ks,wx c (yb s.fr) s.st o::s.bk⟩) kp
   | _=>let cl:=pn c s.kn s.fr o
    (zU cl s.st).bind fun r=>k ⟨s.fr.put o.dst r.1,Jx s.kn o.dst (Ja s.kn o.op),r.2,cl.kind::s.ks,wx c (yb s.fr) s.st o::s.bk⟩
  | .panic x=>match yb s.fr x with
   | some (.iface t d)=>kp (.iface t d) s.st
   | _=>.fail
  | _=>let cl:=pn c s.kn s.fr o
   (zU cl s.st).bind fun r=>k ⟨s.fr.put o.dst r.1,Jx s.kn o.dst (Ja s.kn o.op),r.2,cl.kind::s.ks,wx c (yb s.fr) s.st o::s.bk⟩
 else .fail
def Ey{α:Type}(n:Nat)(ops:Array Oper)(o:Oper)(s:fg)(k:fg→T α)(kp:D→St→T α):T α:=match o.guard with
 | none=>ta c tab n o s k kp
 | some (j,want)=>match uP ops j with
  | none=>.fail
  | some t=>match s.kn.get t with
   | some b=>bif b==want then ta c tab n o s k kp else bif vM n o.dst then k (jv o s)else .fail
   | none=>match s.fr.get t with
    | some (.zW .bool x)=>bif vM n o.dst then
      .ite x (bif want then ta c tab n o (s.bT t true) k kp else k (jv o (s.bT t true)))
          (bif want then k (jv o (s.bT t false))else ta c tab n o (s.bT t false) k kp)
     else .fail
    | some (.gB [])=>bif vM n o.dst then k (jv o s)else .fail
    | _=>.fail
def HD{α:Type}(n:Nat)(ops:Array Oper):List Oper→fg→(fg→T α)→(D→St→T α)→T α
 | [],s,k,_=>k s
 | o::l,s,k,kp=>Ey c tab n ops o s (fun s'=>HD n ops l s' k kp) kp
def Jc{α:Type}(n:Nat)(ops:Array Oper)(draw:Bool)(fr:Fr)(kn:Kn)(st:St)(k:fg→T α)(kp:D→St→T α):T α :=
 HD c tab n ops ops.toList ⟨fr,kn,st,[],[]⟩ (fun s=>bif !draw||Q1 ops s.ks.reverse s.bk.reverse then k s else .fail) (fun d zL=>bif draw then .fail else kp d zL)
def VG(n:Nat)(H:Hints):Code→Fr→Kn→St→{α:Type}→(Ef→T α)→T α
 | .skip,fr,kn,st,_,k=>k ⟨.normal,fr,kn,st,true⟩
 | .region id ops draw,fr,kn,st,_,k=>(frz (H.frz id) fr st).bind fun z=>Jc c tab n ops draw z.1 kn z.2 (fun s=>k ⟨.normal,s.fr,s.kn,s.st,quiet s.ks&&(H.frz id).isEmpty⟩) (fun d zL=>k ⟨.bU d,[],[],zL,false⟩)
 | .seq a b,fr,kn,st,_,k=>match H.cut (keyOf a).1 (keyOf a).2 with
  | none=>VG n H a fr kn st fun r=>match r.ex with
   | .normal=>VG n H b r.fr r.kn r.st fun o=>k { o with q:=r.q&&o.q }
   | _=>k r
  | some (.flat pK)=>bif G0 pK then
    (So pK (VG n H a fr kn st fun o=>match o.ex with
     | .normal=>bif o.q then YD o.fr o.st pK []else .fail
     | _=>.fail)).bind fun x=>VG n H b (fY st pK x++(tZ (qX a)++fr)) [] st k
   else .fail
  | some .z4I=>match opsOf a with
   | none=>.fail
   | some ops=>match Hc c n ops fr with
    | none=>.fail
    | some p =>
     let non:=VG n H b ((p.c,some (.zW .bool (!p.eq)))::(p.m,some (.zW (.sl p.e) p.l))::fr) [(p.c,some (!p.eq))] st k
     .zd (p.l=[]→∀ r,non.leads r→(VG n H b ((p.c,some (.zW .bool p.eq))::(p.m,some .xm)::(p.s,some .xm)::fr) [(p.c,some p.eq)] st k).leads r) non
  | some (.ways ws)=>bif ws.all fun w=>Nat.ble st.length w.sh.bs.length then
    (VG n H a fr kn st fun o=>GG ws o.ex (Y6 o.ex o.fr) o.st).bind fun r=>I4 ws r fun ex out zL=>match Cf ex out with
     | none=>.fail
     | some z=>match z.1 with
      | .normal=>VG n H b (z.2++(tZ (qX a)++fr)) [] zL fun o=>k { o with q:=false }
      | e=>k ⟨e,z.2++(tZ (qX a)++fr),[],zL,false⟩
   else .fail
 | .cond x a b,fr,kn,st,_,k=>match ez kn x with
  | some true=>VG n H a fr kn st k
  | some false=>VG n H b fr kn st k
  | none=>match x with
   | .tmp t=>match fr.get t with
    | some (.zW .bool v)=>.ite v (VG n H a fr ((t,some true)::kn) st k) (VG n H b fr ((t,some false)::kn) st k)
    | _=>.fail
   | _=>.fail
 | .block id (.loop b),fr,_,st,_,k=>match H.loop id with
  | none=>.fail
  | some l=>let g:=gh l.gh fr st
   bif Nat.ble g.2.length l.sh.bs.length&&FY l.ps (qX b)&&l.ws.all fun w=>Nat.ble l.sh.bs.length w.sh.bs.length then
    (YD g.1 g.2 l.ps []).bind fun p=>(l.sh.un g.1 g.2).bind fun s=>(l.F p s).bind fun r=>I4 l.ws r fun ex out zL=>match Cf ex out with
     | none=>.fail
     | some z=>match z.1 with
      | .exit id'=>bif Nat.beq id' id then k ⟨.normal,z.2++(tZ (qX b)++g.1),[],zL,false⟩else k ⟨.exit id',z.2++(tZ (qX b)++g.1),[],zL,false⟩
      | .normal=>.fail
      | e=>k ⟨e,z.2++(tZ (qX b)++g.1),[],zL,false⟩
   else .fail
 | .block id a,fr,kn,st,_,k=>VG n H a fr kn st fun r=>match r.ex with
  | .exit id'=>bif Nat.beq id' id then k { r with ex:=.normal } else k r
  | _=>k r
 | .exit id,fr,kn,st,_,k=>k ⟨.exit id,fr,kn,st,true⟩
 | .ret,fr,kn,st,_,k=>k ⟨.ret,fr,kn,st,true⟩
 | _,_,_,_,_,_=>.fail
def RB(n:Nat)(H:Hints)(l:zE)(b:Code)(p:wS l.ps)(s:l.sh.den):T (l.sh.den⊕yt l.ws) :=
 VG c tab n H b (l.sh.fr s++fY (l.sh.st s) l.ps p) [] (l.sh.st s) fun o=>match o.ex with
  | .normal=>(l.sh.un o.fr o.st).bind fun s'=>.ret (.inl s')
  | e=>(GG l.ws e (Y6 e o.fr) o.st).bind fun r=>.ret (.inr r)
def PG(H:Hints)(fn:Func)(code:Code)(d:Bb)(x:uN d.ps):T (UC d.rs) :=
 bif Nat.ble (W5 d.ps x).length fn.ntmps then
  VG c tab fn.ntmps H code (wG (W5 d.ps x) 0) [] [] fun o=>match o.ex with
   | .normal=>(da c o.fr o.st fn.results.toList).bind fun ds=>Rs o.st d.rs ds
   | .ret=>(da c o.fr o.st fn.results.toList).bind fun ds=>Rs o.st d.rs ds
   | _=>.fail
 else .fail
def EP(H:Hints)(fn:Func)(code:Code)(d:cI)(x:d.sh.den):T d.out.den :=
 bif Nat.ble d.ks.length fn.ntmps&&Nat.ble d.sh.bs.length d.out.bs.length then
  VG c tab fn.ntmps H code (d.sh.fr x) [] (d.sh.st x) fun o=>match o.ex with
   | .normal=>(da c o.fr o.st fn.results.toList).bind fun ds=>bif Nat.beq ds.length d.nr then(d.out.un (wG ds 0) o.st).bind fun y=>bif (dO d.nr (d.out.fr y)).isSome then .ret y else .fail else .fail
   | .ret=>(da c o.fr o.st fn.results.toList).bind fun ds=>bif Nat.beq ds.length d.nr then(d.out.un (wG ds 0) o.st).bind fun y=>bif (dO d.nr (d.out.fr y)).isSome then .ret y else .fail else .fail
   | _=>.fail
 else .fail
def FK(H:Hints)(fn:Func)(code:Code)(d:me)(x:d.sh.den):T (d.out.den⊕d.bU.den) :=
 bif Nat.ble d.ks.length fn.ntmps&&Nat.ble d.sh.bs.length d.out.bs.length&&Nat.ble d.sh.bs.length d.bU.bs.length then
  VG c tab fn.ntmps H code (d.sh.fr x) [] (d.sh.st x) fun o=>match o.ex with
   | .normal=>(da c o.fr o.st fn.results.toList).bind fun ds=>bif Nat.beq ds.length d.nr then(d.out.un (wG ds 0) o.st).bind fun y=>bif (dO d.nr (d.out.fr y)).isSome then .ret (.inl y)else .fail else .fail
   | .ret=>(da c o.fr o.st fn.results.toList).bind fun ds=>bif Nat.beq ds.length d.nr then(d.out.un (wG ds 0) o.st).bind fun y=>bif (dO d.nr (d.out.fr y)).isSome then .ret (.inl y)else .fail else .fail
   | .bU p=>match p with
    | .iface t v=>bif Nat.beq t d.pt then(d.bU.un [(0,some v)] o.st).bind fun z=>match(d.bU.fr z).get 0 with | some _=>.ret (.inr z) | none=>.fail else .fail
    | _=>.fail
   | _=>.fail
 else .fail
end
end Go.AM
namespace Go.AM
set_option linter.unusedSectionVars false
variable [uz]
open Go.RowKit
section
variable {n:Nat}
theorem T5{st:St}{τ:Ty}{d:D}{x:den τ}(h:(rpX st τ d).leads x):(pA st τ d).leads (.xo τ x):=by
 cases d with
 | xo σ y =>
  simp only[rpX]at h
  simp only[pA]
  cases hy:(vQ y:Option (den τ))with
  | none=>rw[hy]at h; exact h.elim
  | some z=>rw[hy]at h; cases h; rfl
 | ptr b off =>
  simp only[rpX]at h
  simp only[pA]
  cases hb:st[b]? with
  | none=>rw[hb]at h; exact h.elim
  | some B =>
   rw[hb]at h
   cases B with
   | var d =>
    simp only at h ⊢
    cases hy:(bif Nat.beq off 0 then dM τ d else none)with
    | none=>rw[hy]at h; exact h.elim
    | some z=>rw[hy]at h; cases h; rfl
   | _=>exact h.elim
 | _=>exact h.elim
theorem Lo{st:St}{p:W8}{d:D}{x:den p.ty}(h:(z2c st p d).leads x):(rN st p d).leads (Ym p x):=by
 cases p with
 | rp τ=>exact T5 h
 | im τ=>exact T.zg.2 ⟨x,h,rfl⟩
theorem Dq{st:St}:∀ (l:List W8) (ds:List D) (x:gM l),(M6 st l ds).leads x→(cL st l ds).leads (ow l x)
 | [],[],x,h=>rfl
 | [],_::_,x,h=>h.elim
 | [p],[],x,h=>h.elim
 | [p],[d],x,h=>T.zg.2 ⟨_,Lo h,T.zg.2 ⟨[],rfl,rfl⟩⟩
 | [p],_::_::_,x,h=>h.elim
 | p::q::r,[],x,h=>h.elim
 | p::q::r,d::ds,x,h=>by
  obtain⟨y,h1,h2⟩:=T.zg.1 h
  obtain⟨z,h3,h4⟩:=T.zg.1 h2
  cases h4
  exact T.zg.2 ⟨_,Lo h1,T.zg.2 ⟨_,Dq (q::r) ds z h3,rfl⟩⟩
theorem TN{st:St}{p:Qa}{d:D}{x:p.den}(h:(unP st p d).leads x):(D4 st p d).leads (mkP p x):=by
 cases p with
 | ty τ=>cases d<;>exact T.zg.2 ⟨x,h,rfl⟩
 | rp τ =>
  have h:(rpX st τ d).leads x:=h
  have:=T5 h
  cases d<;>exact this
 | xk f caps =>
  cases d with
  | xk f' l =>
   simp only[unP]at h
   simp only[D4]
   cases hb:Nat.beq f f' with
   | false=>rw[hb]at h; exact h.elim
   | true=>rw[hb]at h; exact T.zg.2 ⟨_,Dq caps l x h,rfl⟩
  | _=>exact h.elim
theorem VZ{st:St}:∀ (l:List Qa) (ds:List D) (x:uN l),(BP st l ds).leads x→(pj st l ds).leads (W5 l x)
 | [],[],x,h=>rfl
 | [],_::_,x,h=>h.elim
 | [p],[],x,h=>h.elim
 | [p],[d],x,h=>T.zg.2 ⟨_,TN h,T.zg.2 ⟨[],rfl,rfl⟩⟩
 | [p],_::_::_,x,h=>h.elim
 | p::q::r,[],x,h=>h.elim
 | p::q::r,d::ds,x,h=>by
  obtain⟨y,h1,h2⟩:=T.zg.1 h
  obtain⟨z,h3,h4⟩:=T.zg.1 h2
  cases h4
  exact T.zg.2 ⟨_,TN h1,T.zg.2 ⟨_,VZ (q::r) ds z h3,rfl⟩⟩
theorem CJ(st:St)(τ:Ty)(x:den τ):(Qs st τ (.zW τ x)).leads x:=by
 refine T.zg.2 ⟨.zW τ x,rfl,?_⟩
 show(T.V4 (dM τ (.zW τ x))).leads x
 rw[T.ue]
 exact rE x
theorem z09(st:St)(τ:Ty)(x:den τ):(rpX st τ (.xo τ x)).leads x:=by
 simp only[rpX]; rw[rE]; rfl
theorem IW(st:St)(p:W8)(x:den p.ty):(z2c st p (Ym p x)).leads x:=by
 cases p with
 | rp τ=>exact z09 st τ x
 | im τ=>exact CJ st τ x
theorem Df(st:St):∀ (l:List W8) (x:gM l),(M6 st l (ow l x)).leads x
 | [],_=>rfl
 | [p],x=>IW st p x
 | p::q::r,x=>T.zg.2 ⟨x.1,IW st p x.1,T.zg.2 ⟨x.2,Df st (q::r) x.2,rfl⟩⟩
theorem PX(st:St)(p:Qa)(x:p.den):(unP st p (mkP p x)).leads x:=by
 cases p with
 | ty τ=>exact CJ st τ x
 | rp τ=>exact z09 st τ x
 | xk f caps=>simp only[unP,mkP]; rw[Nat.beq_refl]; exact Df st caps x
theorem Hk(st:St):∀ (l:List Qa) (x:uN l),(BP st l (W5 l x)).leads x
 | [],_=>rfl
 | [p],x=>PX st p x
 | p::q::r,x=>T.zg.2 ⟨x.1,PX st p x.1,T.zg.2 ⟨x.2,Hk st (q::r) x.2,rfl⟩⟩
def yG:D→Option Nat | .xk f _=>some f | _=>none
theorem z2u(p:Qa){d e:D}(h:yG d=yG e):z5Z p d=z5Z p e:=by
 cases d<;>cases e<;>simp only[yG]at h<;>first | (cases h; done) | (cases p<;>first | rfl | (cases h; rfl))
theorem Mj:∀ (ps:List Qa) {l m:List D},l.map yG=m.map yG→fits ps l=fits ps m
 | [],[],[],_=>rfl
 | [],_::_,_::_,_=>rfl
 | _,[],_::_,h=>by cases h
 | _,_::_,[],h=>by cases h
 | _::_,[],[],_=>rfl
 | p::ps,d::l,e::m,h=>by
  simp only[List.map_cons,List.cons.injEq]at h
  simp only[fits,z2u p h.1,Mj ps h.2]
theorem TM{st:St}{τ:Ty}{f:Nat}{l:List D}{x:den τ}(h:(Qs st τ (.xk f l)).leads x):False:=by
 obtain⟨y,h1,h2⟩:=T.zg.1 h
 cases h1
 have h2:(T.V4 (dM τ (.xk f l))).leads x:=h2
 rw[T.ue]at h2
 cases τ<;>simp[dM,D.isAgg,Ty.isAgg,D.uy,qq,jx,ic]at h2
theorem YW{st:St}{p:Qa}{d:D}{x:p.den}(h:(unP st p d).leads x):yG d=yG (mkP p x):=by
 cases p with
 | ty τ=>cases d<;>first | rfl | exact(TM h).elim
 | rp τ=>cases d<;>first | rfl | exact h.elim
 | xk f caps =>
  cases d with
  | xk f' l =>
   simp only[unP]at h
   cases hb:Nat.beq f f' with
   | false=>rw[hb]at h; exact h.elim
   | true=>rw[Nat.eq_of_beq_eq_true hb]; rfl
  | _=>exact h.elim
theorem JL{st:St}:∀ (l:List Qa) (ds:List D) (x:uN l),(BP st l ds).leads x→ds.map yG=(W5 l x).map yG
 | [],[],x,h=>rfl
 | [],_::_,x,h=>h.elim
 | [p],[],x,h=>h.elim
 | [p],[d],x,h=>by show[yG d]=[yG (mkP p x)]; rw[YW h]
 | [p],_::_::_,x,h=>h.elim
 | p::q::r,[],x,h=>h.elim
 | p::q::r,d::ds,x,h=>by
  obtain⟨y,h1,h2⟩:=T.zg.1 h
  obtain⟨z,h3,h4⟩:=T.zg.1 h2
  cases h4
  show yG d::ds.map yG=yG (mkP p y)::(W5 (q::r) z).map yG
  rw[YW h1,JL (q::r) ds z h3]
def dat(d:D):Bool:=match d with | .zW _ _=>true | .xo _ _=>true | .xk _ _=>true | _=>false
theorem L6(p:Qa)(x:p.den):dat (mkP p x)=true:=by cases p<;>rfl
theorem D8:∀ (l:List Qa) (x:uN l),∀ d∈W5 l x,dat d=true
 | [],x,d,h=>by cases h
 | [p],x,d,h=>by have h:d∈[mkP p x]:=h; rw[List.mem_singleton]at h; subst h; exact L6 p x
 | p::q::r,x,d,h=>by
  rcases List.mem_cons.1 h with rfl | h
  ·exact L6 p x.1
  ·exact D8 (q::r) x.2 d h
theorem OJ{a:AK}{d e:D}(h:yG d=yG e)(hd:dat e=true)(hf:z6G a e=true):z6G a d=true:=by
 cases e with
 | zW τ x=>cases a<;>first | (cases hf; done) | (cases d<;>first | rfl | (cases h; done))
 | xo τ x=>cases a<;>first | (cases hf; done) | (cases d<;>first | rfl | (cases h; done))
 | xk f l=>cases a<;>first | (cases hf; done) | (cases d<;>first | (cases h; exact hf) | cases h)
 | _=>cases hd
theorem W3:∀ {ks:List AK} {l m:List D},l.map yG=m.map yG→(∀ d∈m,dat d=true)→pq ks m=true→pq ks l=true
 | [],[],[],_,_,_=>rfl
 | [],_::_,[],h,_,_=>by cases h
 | [],_,_::_,_,_,hf=>by cases hf
 | _::_,_,[],_,_,hf=>by cases hf
 | k::ks,[],_::_,h,_,_=>by cases h
 | k::ks,d::l,e::m,h,hd,hf=>by
  simp only[List.map_cons,List.cons.injEq]at h
  simp only[pq,Bool.and_eq_true]at hf ⊢
  exact⟨OJ h.1 (hd e List.mem_cons_self) hf.1,W3 h.2 (fun x hx=>hd x (List.mem_cons_of_mem _ hx)) hf.2⟩
theorem fX.find_eq:∀ (t:fX) (g:Nat) {l m:List D} {d:Bb},l.map yG=m.map yG→(∀ d∈m,dat d=true)→t.find g l=some (.d d)→t.find g m=some (.d d)
 | [],_,_,_,_,_,_,h=>h
 | (g',.d d')::r,g,l,m,d,h,hm,hf=>by
  simp only[fX.find,FnE.fits]at hf ⊢
  rw[← Mj d'.ps h]
  cases hb:Nat.beq g' g&&fits d'.ps l with
  | true=>rw[hb,cond_true]at hf; rw[cond_true]; exact hf
  | false=>rw[hb,cond_false]at hf; rw[cond_false]; exact fX.find_eq r g h hm hf
 | (g',.s d')::r,g,l,m,d,h,hm,hf=>by
  simp only[fX.find,FnE.fits]at hf ⊢
  cases hb:Nat.beq g' g&&pq d'.ks l with
  | true=>rw[hb,cond_true]at hf; cases hf
  | false =>
   rw[hb,cond_false]at hf
   have:(Nat.beq g' g&&pq d'.ks m)=false:=by
    cases hg:Nat.beq g' g with
    | false=>rfl
    | true =>
     rw[hg]at hb
     cases hk:pq d'.ks m with
     | false=>rfl
     | true=>rw[W3 h hm hk]at hb; cases hb
   rw[this,cond_false]
   exact fX.find_eq r g h hm hf
 | (g',.p d')::r,g,l,m,d,h,hm,hf=>by
  simp only[fX.find,FnE.fits]at hf ⊢
  cases hb:Nat.beq g' g&&pq d'.ks l with
  | true=>rw[hb,cond_true]at hf; cases hf
  | false =>
   rw[hb,cond_false]at hf
   have:(Nat.beq g' g&&pq d'.ks m)=false:=by
    cases hg:Nat.beq g' g with
    | false=>rfl
    | true =>
     rw[hg]at hb
     cases hk:pq d'.ks m with
     | false=>rfl
     | true=>rw[W3 h hm hk]at hb; cases hb
   rw[this,cond_false]
   exact fX.find_eq r g h hm hf
theorem fX.Xh:∀ {t:fX} {g:Nat} {l:List D} {d:FnE},t.find g l=some d→(g,d)∈t
 | [],_,_,_,h=>by cases h
 | (g',d')::r,g,l,d,h=>by
  simp only[fX.find]at h
  cases hb:Nat.beq g' g&&d'.fits l with
  | true =>
   rw[hb,cond_true]at h
   cases h
   simp only[Bool.and_eq_true]at hb
   rw[Nat.eq_of_beq_eq_true hb.1]
   exact List.mem_cons_self
  | false=>rw[hb,cond_false]at h; exact List.mem_cons_of_mem _ (fX.Xh h)
def zB(P:Program)(g:Nat)(d:Bb):Prop:=∀ (κ:KS) (x:uN d.ps) (qi:List Value) (y:UC d.rs),κ.st=[]→(d.F x).leads y→Inv κ→xv κ (W5 d.ps x) qi →
 uE P g qi.toArray κ.w fun e w'=>∃ κ':KS,κ'.w=w'∧κ'.st=[]∧Inv κ'∧Ext κ κ'∧vt κ' (.ret (Qd d.rs y)) e
def BQ(P:Program)(g:Nat):FnE→Prop
 | .d d=>zB P g d
 | .s d=>vL P g d
 | .p d=>Ge P g d
def eE(P:Program)(t:fX):Prop:=∀ p∈t,BQ P p.1 p.2
theorem Nf(P:Program):eE P []:=fun p hp=>by cases hp
theorem Hw{P:Program}{g:Nat}{d:FnE}{t:fX}(h:BQ P g d)(ht:eE P t):eE P ((g,d)::t):=by
 intro p hp
 rcases List.mem_cons.1 hp with rfl | hp
 ·exact h
 ·exact ht p hp
theorem Ff{P:Program}{g:Nat}{d:Bb}{t:fX}(h:zB P g d)(ht:eE P t):eE P ((g,.d d)::t):=Hw (d:=.d d) h ht
theorem BB{P:Program}{g:Nat}{d:cI}{t:fX}(h:vL P g d)(ht:eE P t):eE P ((g,.s d)::t):=Hw (d:=.s d) h ht
theorem Bv{P:Program}{g:Nat}{d:me}{t:fX}(h:Ge P g d)(ht:eE P t):eE P ((g,.p d)::t):=Hw (d:=.p d) h ht
theorem Bb.snd{P:Program}{g:Nat}{d:Bb}(h:zB P g d):By P g d.S:=by
 intro κ args qi rs zL hl hI ha
 unfold Bb.S at hl
 split at hl
 ·rename_i xN
  obtain⟨x,h1,h2⟩:=T.zg.1 hl
  obtain⟨y,h3,h4⟩:=T.zg.1 h2
  cases h4
  exact h κ x qi y xN h3 hI (W0 ha (VZ _ _ _ h1))
 ·exact hl.elim
theorem Mf{P:Program}{xid:Nat}{tab:fX}{ro:Nat→Bool}(h:eE P tab):∀ g,By (y9 P xid tab ro).P g ((y9 P xid tab ro).fn g):=by
 intro g κ args qi rs zL hl hI ha
 simp only[y9,fX.call]at hl
 split at hl
 ·rename_i d hd
  exact Bb.snd (h _ (fX.Xh hd):BQ P g (.d d)) κ args qi rs zL hl hI ha
 ·rename_i d hd
  exact cI.snd (h _ (fX.Xh hd):BQ P g (.s d)) κ args qi rs zL hl hI ha
 ·rename_i d hd
  exact me.snd (h _ (fX.Xh hd):BQ P g (.p d)) κ args qi rs zL hl hI ha
 ·exact hl.elim
section
variable {P:Program} {xid:Nat} {tab:fX} {ro:Nat→Bool} {α:Type}
def I7(c:Ctx)(f:Option D)(args:List (Option D))(st:St)(d:D)(zL:St):Prop :=
 ∃ g caps l,f=some (.xk g caps)∧jC args=some l∧(c.fn (dQ g) (c9 g l caps) st).leads (.bU d,zL)
def LI(c:Ctx)(o:Oper)(s:fg)(d:D)(zL:St):Prop :=
 (∃ x t e,o.op=.panic x∧yb s.fr x=some d∧d=.iface t e∧zL=s.st) ∨
 ∃ f args Xx,o.op=.call ⟨.value f,args,Xx⟩∧I7 c (yb s.fr f) (args.toList.map (yb s.fr)) s.st d zL
theorem EI{f:Option D}{args:List (Option D)}{st:St}{k:Nat→Option D→St→T α}{kp:D→St→T α}{r:α}(h:(Hy tab f args st k kp).leads r) :
  (∃ d zL,(zU (dR (y9 P xid tab ro) f args) st).leads (d,zL)∧(k (dR (y9 P xid tab ro) f args).kind d zL).leads r) ∨
  ∃ d zL,I7 (y9 P xid tab ro) f args st d zL∧(kp d zL).leads r:=by
 unfold Hy at h
 split at h
 ·rename_i g caps l hl
  unfold z4m at h
  split at h
  ·exact h.elim
  ·rename_i d hd
   have Nr:(y9 P xid tab ro).sig (dQ g) (c9 g l caps)=some ⟨d.ps,d.rs⟩:=by simp only[y9]; rw[hd]
   have RQ:dR (y9 P xid tab ro) (some (.xk g caps)) args=bM (y9 P xid tab ro) (dQ g) ⟨d.ps,d.rs⟩ (c9 g l caps):=by simp only[dR,hl,Nr]
   rw[RQ]
   have hfn:∀ {st0:St} (x:uN d.ps) (y:UC d.rs),(BP st0 d.ps (c9 g l caps)).leads x→(d.F x).leads y→((y9 P xid tab ro).fn (dQ g) (W5 d.ps x) []).leads (.ret (Qd d.rs y),[]):=by
    intro st0 x y hx hy
    simp only[y9,fX.call]
    rw[fX.find_eq tab (dQ g) (JL _ _ _ hx) (D8 d.ps x) hd]
    exact T.zg.2 ⟨x,Hk [] d.ps x,T.zg.2 ⟨y,hy,rfl⟩⟩
   cases hn : !((c9 g l caps).any Kj)with
   | true =>
    rw[hn,cond_true]at h
    obtain⟨x,h1,h2⟩:=T.zg.1 h
    obtain⟨y,h3,h4⟩:=T.zg.1 h2
    have hc:bM (y9 P xid tab ro) (dQ g) ⟨d.ps,d.rs⟩ (c9 g l caps)=.val ((pj [] d.ps (c9 g l caps)).bind fun l=>((y9 P xid tab ro).fn (dQ g) l []).bind SL):=by
     unfold bM; rw[hn]; rfl
    rw[hc]
    refine .inl ⟨_,_,T.zg.2 ⟨_,T.zg.2 ⟨_,VZ _ _ _ h1,T.zg.2 ⟨_,hfn x y h1 h3,rfl⟩⟩,rfl⟩,h4⟩
   | false =>
    rw[hn,cond_false]at h
    obtain⟨x,h1,h2⟩:=T.zg.1 h
    obtain⟨y,h3,h4⟩:=T.zg.1 h2
    have hc:bM (y9 P xid tab ro) (dQ g) ⟨d.ps,d.rs⟩ (c9 g l caps)=.rd fun st=>(pj st d.ps (c9 g l caps)).bind fun l=>((y9 P xid tab ro).fn (dQ g) l []).bind tc:=by
     unfold bM; rw[hn]; rfl
    rw[hc]
    cases hs:(Qd d.rs y).all sS with
    | false=>rw[hs]at h4; exact h4.elim
    | true =>
     rw[hs]at h4
     refine .inl ⟨_,_,T.zg.2 ⟨_,T.zg.2 ⟨_,VZ _ _ _ h1,T.zg.2 ⟨_,hfn x y h1 h3,?_⟩⟩,rfl⟩,h4⟩
     simp only[tc,hs,cond_true]
     rfl
  ·rename_i d hd
   have Nr:(y9 P xid tab ro).sig (dQ g) (c9 g l caps)=none:=by simp only[y9]; rw[hd]
   have RQ:dR (y9 P xid tab ro) (some (.xk g caps)) args=tE (y9 P xid tab ro) (dQ g) (c9 g l caps):=by simp only[dR,hl,Nr]
   rw[RQ]
   obtain⟨ds,zL,h1,h2⟩:=cI.z5s h
   refine .inl ⟨_,zL,T.zg.2 ⟨(.ret ds,zL),?_,rfl⟩,h2⟩
   simp only[y9,fX.call]
   rw[hd]
   exact h1
  ·rename_i d hd
   have Nr:(y9 P xid tab ro).sig (dQ g) (c9 g l caps)=none:=by simp only[y9]; rw[hd]
   have RQ:dR (y9 P xid tab ro) (some (.xk g caps)) args=tE (y9 P xid tab ro) (dQ g) (c9 g l caps):=by simp only[dR,hl,Nr]
   rw[RQ]
   rcases me.z5s h with⟨ds,zL,h1,h2⟩ | ⟨p,zL,h1,h2⟩
   ·refine .inl ⟨_,zL,T.zg.2 ⟨(.ret ds,zL),?_,rfl⟩,h2⟩
    simp only[y9,fX.call]
    rw[hd]
    exact h1
   ·refine .inr ⟨p,zL,⟨g,caps,l,rfl,hl,?_⟩,h2⟩
    simp only[y9,fX.call]
    rw[hd]
    exact h1
 ·exact h.elim
theorem nz{o:Oper}{s:fg}{k:fg→T α}{kp:D→St→T α}{r:α}(h:(ta (y9 P xid tab ro) tab n o s k kp).leads r) :
  (∃ s',(gQ (y9 P xid tab ro) n o s).leads s'∧(k s').leads r)∨∃ d zL,LI (y9 P xid tab ro) o s d zL∧(kp d zL).leads r:=by
 unfold ta at h
 unfold gQ
 cases hd:vM n o.dst with
 | false=>rw[hd]at h; exact h.elim
 | true =>
  rw[hd,cond_true]at h
  rw[cond_true]
  obtain⟨dst,op,ty,pos,after,guard⟩:=o
  have gen:((zU (pn (y9 P xid tab ro) s.kn s.fr ⟨dst,op,ty,pos,after,guard⟩) s.st).bind fun r=>k ⟨s.fr.put dst r.1,Jx s.kn dst (Ja s.kn op),r.2,(pn (y9 P xid tab ro) s.kn s.fr ⟨dst,op,ty,pos,after,guard⟩).kind::s.ks,wx (y9 P xid tab ro) (yb s.fr) s.st ⟨dst,op,ty,pos,after,guard⟩::s.bk⟩).leads r →
    ∃ s',(let cl:=pn (y9 P xid tab ro) s.kn s.fr ⟨dst,op,ty,pos,after,guard⟩; (zU cl s.st).bind fun r=>T.ret (⟨s.fr.put dst r.1,Jx s.kn dst (Ja s.kn op),r.2,cl.kind::s.ks,wx (y9 P xid tab ro) (yb s.fr) s.st ⟨dst,op,ty,pos,after,guard⟩::s.bk⟩:fg)).leads s'∧(k s').leads r:=by
   intro h
   obtain⟨x,h1,h2⟩:=T.zg.1 h
   exact⟨_,T.zg.2 ⟨x,h1,rfl⟩,h2⟩
  cases op with
  | call cl =>
   obtain⟨callee,args,Xx⟩:=cl
   cases callee with
   | value f =>
    simp only at h
    rcases EI (P:=P) (xid:=xid) (ro:=ro) h with⟨d,zL,h1,h2⟩ | ⟨d,zL,h1,h2⟩
    ·exact .inl ⟨_,T.zg.2 ⟨(d,zL),h1,rfl⟩,h2⟩
    ·exact .inr ⟨d,zL,.inr ⟨f,args,Xx,rfl,h1⟩,h2⟩
   | _=>exact .inl (gen h)
  | panic x =>
   simp only at h
   split at h
   ·rename_i t e hx
    exact .inr ⟨_,_,.inl ⟨x,t,e,rfl,hx,rfl,rfl⟩,h⟩
   ·exact h.elim
  | _=>exact .inl (gen h)
theorem N9{ops:Array Oper}{o:Oper}{s:fg}{k:fg→T α}{kp:D→St→T α}{r:α}(hkn:vN s.kn s.fr.get)(h:(Ey (y9 P xid tab ro) tab n ops o s k kp).leads r) :
  (∃ s',(stepG (y9 P xid tab ro) n ops o s).leads s'∧(k s').leads r)∨∃ d zL,wz ops s.fr.get o=some true∧LI (y9 P xid tab ro) o s d zL∧(kp d zL).leads r:=by
 obtain⟨dst,op,ty,pos,after,guard⟩:=o
 cases guard with
 | none =>
  rcases nz h with h | ⟨d,zL,h1,h2⟩
  ·exact .inl h
  ·exact .inr ⟨d,zL,rfl,h1,h2⟩
 | some jw =>
  obtain⟨j,want⟩:=jw
  simp only[Ey]at h
  simp only[stepG]
  cases hg:uP ops j with
  | none=>rw[hg]at h; exact h.elim
  | some t =>
   rw[hg]at h
   simp only at h ⊢
   cases hk:s.kn.get t with
   | some b =>
    rw[hk]at h
    simp only at h ⊢
    have hw:wz ops s.fr.get ⟨dst,op,ty,pos,after,some (j,want)⟩=some (b==want):=by simp[wz,hg,hkn t b hk]
    cases hb:b==want with
    | true =>
     rw[hb,cond_true]at h; rw[cond_true]
     rcases nz h with h | ⟨d,zL,h1,h2⟩
     ·exact .inl h
     ·exact .inr ⟨d,zL,by rw[hw,hb],h1,h2⟩
    | false =>
     rw[hb,cond_false]at h; rw[cond_false]
     cases hd:vM n dst with
     | true=>rw[hd,cond_true]at h; exact .inl ⟨_,rfl,h⟩
     | false=>rw[hd,cond_false]at h; exact h.elim
   | none =>
    rw[hk]at h
    simp only at h ⊢
    split at h
    ·rename_i x hf
     rw[hf]
     simp only
     have hw:wz ops s.fr.get ⟨dst,op,ty,pos,after,some (j,want)⟩=some (x==want):=by simp[wz,hg,hf]
     cases hd:vM n dst with
     | false=>rw[hd]at h; exact h.elim
     | true =>
      rw[hd,cond_true]at h; rw[cond_true]
      rcases h with⟨hx,h⟩ | ⟨hx,h⟩
      ·subst hx
       cases want with
       | true =>
        rw[cond_true]at h
        rcases nz h with⟨s',h1,h2⟩ | ⟨d,zL,h1,h2⟩
        ·exact .inl ⟨s',.inl ⟨rfl,h1⟩,h2⟩
        ·exact .inr ⟨d,zL,hw,h1,h2⟩
       | false=>rw[cond_false]at h; exact .inl ⟨_,.inl ⟨rfl,rfl⟩,h⟩
      ·subst hx
       cases want with
       | true=>rw[cond_true]at h; exact .inl ⟨_,.inr ⟨rfl,rfl⟩,h⟩
       | false =>
        rw[cond_false]at h
        rcases nz h with⟨s',h1,h2⟩ | ⟨d,zL,h1,h2⟩
        ·exact .inl ⟨s',.inr ⟨rfl,h1⟩,h2⟩
        ·exact .inr ⟨d,zL,hw,h1,h2⟩
    ·rename_i hf
     rw[hf]
     simp only
     cases hd:vM n dst with
     | true=>rw[hd,cond_true]at h; exact .inl ⟨_,rfl,h⟩
     | false=>rw[hd,cond_false]at h; exact h.elim
    ·exact h.elim
def FV(c:Ctx)(n:Nat)(ops:Array Oper)(l:List Oper)(s:fg)(d:D)(zL:St):Prop :=
 ∃ pre o post s1,l=pre++o::post∧(nI c n ops pre s).leads s1∧wz ops s1.fr.get o=some true∧LI c o s1 d zL
theorem JA{ops:Array Oper}:∀ (l:List Oper) {s:fg} {k:fg→T α} {kp:D→St→T α} {r:α},vN s.kn s.fr.get→(∀ o∈l,∃ i:Nat,ops[i]? = some o)→(HD (y9 P xid tab ro) tab n ops l s k kp).leads r →
  (∃ s',(nI (y9 P xid tab ro) n ops l s).leads s'∧(k s').leads r)∨∃ d zL,FV (y9 P xid tab ro) n ops l s d zL∧(kp d zL).leads r
 | [],s,k,kp,r,_,_,h=>.inl ⟨s,rfl,h⟩
 | o::l,s,k,kp,r,hk,hl,h=>by
  rcases N9 hk h with⟨s1,h1,h2⟩ | ⟨d,zL,h1,h2,h3⟩
  ·obtain⟨i,hi⟩:=hl o List.mem_cons_self
   obtain⟨_,_,X8,_⟩:=YJ hi hk h1
   rcases JA l X8 (fun o' ho=>hl o' (List.mem_cons_of_mem _ ho)) h2 with⟨s2,h3,h4⟩ | ⟨d,zL,⟨pre,o',post,s2,e,g1,g2,g3⟩,h4⟩
   ·exact .inl ⟨s2,T.zg.2 ⟨s1,h1,h3⟩,h4⟩
   ·exact .inr ⟨d,zL,⟨o::pre,o',post,s2,by rw[e]; rfl,T.zg.2 ⟨s1,h1,g1⟩,g2,g3⟩,h4⟩
  ·exact .inr ⟨d,zL,⟨[],o,l,s,rfl,rfl,h1,h2⟩,h3⟩
theorem Ye{ops:Array Oper}{draw:Bool}{fr:Fr}{kn:Kn}{st:St}{k:fg→T α}{kp:D→St→T α}{r:α}(hk:vN kn fr.get)(h:(Jc (y9 P xid tab ro) tab n ops draw fr kn st k kp).leads r) :
  (∃ s',(cm (y9 P xid tab ro) n ops draw fr kn st).leads s'∧(k s').leads r)∨∃ d zL,draw=false∧FV (y9 P xid tab ro) n ops ops.toList ⟨fr,kn,st,[],[]⟩ d zL∧(kp d zL).leads r:=by
 rcases JA _ hk (fun o ho=>by obtain⟨i,hi,he⟩:=List.getElem_of_mem ho; exact⟨i,by rw[← he]; simp at hi; simp[hi]⟩) h with⟨s',h1,h2⟩ | ⟨d,zL,h1,h2⟩
 ·cases hd : !draw||Q1 ops s'.ks.reverse s'.bk.reverse with
  | false=>rw[hd]at h2; exact h2.elim
  | true =>
   rw[hd,cond_true]at h2
   refine .inl ⟨s',T.zg.2 ⟨s',h1,?_⟩,h2⟩
   rw[hd]; rfl
 ·cases draw with
  | true=>exact h2.elim
  | false=>exact .inr ⟨d,zL,rfl,h1,h2⟩
end
end
end Go.AM
namespace Go.AM
set_option linter.unusedSectionVars false
variable [uz] [B9]
open Go.RowKit
theorem UQ{α β:Type}{f:α→β}{t:T α}{x:α}(h:t.leads x):(Bj f t).leads (f x):=by
 induction t with
 | ret a=>exact congrArg f h
 | ite b p q ip iq=>exact bW h (fun h=>⟨h.1,ip h.2⟩) (fun h=>⟨h.1,iq h.2⟩)
 | zd p t ih=>exact⟨h.1,ih h.2⟩
 | fail=>exact h.elim
theorem L7:∀ (l:List It) (d:wS l) (t:T (wS l)) (x:wS l),t.leads x→N0 l d t=x
 | [],_,_,_,_=>rfl
 | [_],d,t,x,h=>((T.UY d t x).1 h).2
 | i::j::r,d,t,x,h=>by
  have h1:=((T.UY d.1 _ _).1 (UQ (f:=Prod.fst) h)).2
  have h2:=L7 (j::r) d.2 _ _ (UQ (f:=Prod.snd) h)
  show(T.val d.1 (Bj Prod.fst t),N0 (j::r) d.2 (Bj Prod.snd t))=x
  rw[h1,h2]
  exact rfl
theorem MX{α:Type}(t:T α)(h:t.VK):∃ x,t.leads x:=by
 induction t with
 | ret a=>exact⟨a,rfl⟩
 | ite b p q ip iq =>
  unfold T.VK at h ip iq
  simp only[T.fI]at h
  cases b with
  | true =>
   obtain⟨x,hx⟩:=ip (by cases hp:p.fI<;>cases hq:q.fI<;>simp_all)
   exact⟨x,.inl ⟨rfl,hx⟩⟩
  | false =>
   obtain⟨x,hx⟩:=iq (by cases hp:p.fI<;>cases hq:q.fI<;>simp_all)
   exact⟨x,.inr ⟨rfl,hx⟩⟩
 | zd p t ih =>
  unfold T.VK at h ih
  simp only[T.fI]at h
  cases ht:t.fI with
  | none=>rw[ht]at h ih; obtain⟨x,hx⟩:=ih trivial; exact⟨x,h,hx⟩
  | some q=>rw[ht]at h ih; obtain⟨x,hx⟩:=ih h.2; exact⟨x,h.1,hx⟩
 | fail=>exact h.elim
theorem Cj{l:List It}{t:T (wS l)}{x:wS l}(h:(So l t).leads x):t.leads x:=by
 unfold So at h
 split at h
 ·rename_i d hd
  have key:t.VK→N0 l d t=x→t.leads x:=by
   intro hp hv
   obtain⟨y,hy⟩:=MX t hp
   rw[← hv,L7 l d t y hy]; exact hy
  split at h
  ·rename_i hn; exact key (by unfold T.VK; rw[hn]; trivial) h
  ·rename_i p hn; exact key (by unfold T.VK; rw[hn]; exact h.1) h.2
 ·exact h.elim
def RIs(ws:List Way)(r:yt ws)(w:Way)(x:w.sh.den):Prop:=∀ {α:Type} (k:Ex→Fr→St→T α),I4 ws r k=k w.ex (w.sh.fr x) (w.sh.st x)
theorem Hj:∀ (ws:List Way) (ex:Ex) (fr:Fr) (st:St) (r:yt ws),(GG ws ex fr st).leads r→∃ w,w∈ws∧∃ x:w.sh.den,RIs ws r w x∧sD w.ex ex=true∧(w.sh.un fr st).leads x
 | [],_,_,_,_,h=>h.elim
 | [w],ex,fr,st,r,h=>by
  have h:(bif sD w.ex ex then w.sh.un fr st else .fail:T w.sh.den).leads r:=h
  cases hs:sD w.ex ex with
  | false=>rw[hs]at h; exact h.elim
  | true=>rw[hs]at h; exact⟨w,by simp,r,fun k=>rfl,hs,h⟩
 | w::v::ws,ex,fr,st,r,h=>by
  have h:(bif sD w.ex ex then(w.sh.un fr st).bind fun x=>T.ret (Sum.inl x:w.sh.den⊕yt (v::ws))else(GG (v::ws) ex fr st).bind fun y=>T.ret (Sum.inr y)).leads r:=h
  cases hs:sD w.ex ex with
  | true =>
   rw[hs]at h
   obtain⟨x,h1,h2⟩:=T.zg.1 h
   have h2:(Sum.inl x:w.sh.den⊕yt (v::ws))=r:=h2
   subst h2
   exact⟨w,by simp,x,fun k=>rfl,hs,h1⟩
  | false =>
   rw[hs]at h
   obtain⟨y,h1,h2⟩:=T.zg.1 h
   have h2:(Sum.inr y:w.sh.den⊕yt (v::ws))=r:=h2
   subst h2
   obtain⟨w',k1,x,k2,k3,k4⟩:=Hj (v::ws) ex fr st y h1
   exact⟨w',List.mem_cons_of_mem _ k1,x,fun k=>k2 k,k3,k4⟩
def z6L(κ:KS)(n:Nat)(w:Way)(z:w.sh.den)(a:Act)(pe:Exit):Prop:=∀ q,Cf w.ex (w.sh.fr z)=some q→Rel κ n q.2.get a∧Dl κ q.1 pe
theorem Sq{κ0 κ:KS}{n:Nat}{a:Act}{w:Way}{z:w.sh.den}{oex:Ex}{ofr:Fr}{pe:Exit}(hx:Ext κ0 κ)(hI:Inv κ)(hR:Rel κ n ofr.get a)(he:Dl κ oex pe)(hs:sD w.ex oex=true)(hl:κ0.st.length≤w.sh.bs.length)
  (h:(w.sh.un (Y6 oex ofr) κ.st).leads z):∃ κ1:KS,κ1.w=κ.w∧κ1.st=w.sh.st z∧Inv κ1∧Ext κ0 κ1∧z6L κ1 n w z a pe:=by
 have plain:Y6 oex ofr=ofr→(∀ q,Cf w.ex (w.sh.fr z)=some q→q.2=w.sh.fr z∧∀ κ1:KS,Dl κ1 q.1 pe)→∃ κ1:KS,κ1.w=κ.w∧κ1.st=w.sh.st z∧Inv κ1∧Ext κ0 κ1∧z6L κ1 n w z a pe:=by
  intro e1 e2
  rw[e1]at h
  obtain⟨κ1,q1,q2,q3,q4,q5,_⟩:=w.sh.Qm (n:=n) hx hI hR hl h
  exact⟨κ1,q1,q2,q3,q4,fun q hq=>by obtain⟨g1,g2⟩:=e2 q hq; rw[g1]; exact⟨q5,g2 κ1⟩⟩
 cases hw:w.ex with
 | normal =>
  rw[hw]at hs
  cases oex<;>first | (cases hs; done) | skip
  exact plain rfl fun q hq=>by rw[hw]at hq; cases hq; exact⟨rfl,fun _=>he⟩
 | ret =>
  rw[hw]at hs
  cases oex<;>first | (cases hs; done) | skip
  exact plain rfl fun q hq=>by rw[hw]at hq; cases hq; exact⟨rfl,fun _=>he⟩
 | exit id =>
  rw[hw]at hs
  cases oex<;>first | (cases hs; done) | skip
  rename_i id'
  have:id=id':=Nat.eq_of_beq_eq_true hs
  subst this
  exact plain rfl fun q hq=>by rw[hw]at hq; cases hq; exact⟨rfl,fun _=>he⟩
 | bU p =>
  rw[hw]at hs
  cases p<;>first | (cases hs; done) | skip
  rename_i t p
  cases oex<;>first | (cases hs; done) | skip
  rename_i p'
  cases p'<;>first | (cases hs; done) | skip
  rename_i t' d
  have:t=t':=Nat.eq_of_beq_eq_true hs
  subst this
  obtain⟨v,rfl,hv⟩:=he
  cases hv with
  | iface _ _ u hu =>
   have B6:Rel κ 1 (Y6 (.bU (.iface t d)) ofr).get { tmps := #[u],defers:=B9.df }:=by
    refine⟨rfl,rfl,fun s d' hd => ?_⟩
    simp only[Y6,Fr.get]at hd
    cases hb:Nat.beq 0 s with
    | true =>
     rw[hb,cond_true]at hd
     cases hd
     have:=Nat.eq_of_beq_eq_true hb
     subst this
     exact⟨u,rfl,hu⟩
    | false=>rw[hb,cond_false]at hd; cases hd
   obtain⟨κ1,q1,q2,q3,q4,q5,_⟩:=w.sh.Qm (n:=1) hx hI B6 hl h
   refine⟨κ1,q1,q2,q3,q4,fun q hq => ?_⟩
   rw[hw]at hq
   simp only[Cf]at hq
   split at hq
   ·rename_i d' yv
    cases hq
    obtain⟨v',g1,g2⟩:=q5.get 0 d' yv
    cases g1
    exact⟨⟨hR.size,hR.defers,fun s d hd=>by cases hd⟩,_,rfl,.iface t d' _ g2⟩
   ·cases hq
theorem mJ(st:St):∀ (bs:List Bk) (bd:List Bd),(vv st bs bd).length≤bs.length
 | [],_=>by simp[vv]
 | .arr _::r,[]=>by simp[vv]
 | .arr _::r,.v _ _::_=>by simp[vv]
 | .arr _::r,.a _ _::d=>by have:=mJ st r d; simp[vv]; exact this
 | .var _::r,[]=>by simp[vv]
 | .var _::r,.a _ _::_=>by simp[vv]
 | .var _::r,.v _ _::d=>by have:=mJ st r d; simp[vv]; exact this
 | .cvar _::r,d=>by have:=mJ st r d; cases d<;>(simp[vv]; exact this)
 | .dead::r,d=>by have:=mJ st r d; cases d<;>(simp[vv]; exact this)
theorem mm.UW(s:mm)(x:s.den):(s.st x).length≤s.bs.length:=mJ _ _ _
theorem WR{l m:Fr}{s:Nat}{d:D}(h:(l++m).get s=some d):l.get s=some d∨m.get s=some d:=by
 induction l with
 | nil=>exact .inr h
 | cons p r ih =>
  obtain⟨t,d'⟩:=p
  simp only[List.cons_append,Fr.get]at h ⊢
  cases ht:Nat.beq t s with
  | true=>rw[ht,cond_true]at h; rw[cond_true]; exact .inl h
  | false=>rw[ht,cond_false]at h; rw[cond_false]; exact ih h
theorem NU{l:List Nat}{fr:Fr}{s:Nat}{d:D}(h:(tZ l++fr).get s=some d):s ∉ l∧fr.get s=some d:=by
 induction l with
 | nil=>exact⟨by simp,h⟩
 | cons t r ih =>
  simp only[tZ,List.map_cons,List.cons_append,Fr.get]at h
  cases ht:Nat.beq t s with
  | true=>rw[ht,cond_true]at h; cases h
  | false =>
   rw[ht,cond_false]at h
   obtain⟨h1,h2⟩:=ih h
   refine⟨?_,h2⟩
   simp only[List.mem_cons,not_or]
   exact⟨fun e=>by subst e; simp at ht,h1⟩
theorem Ql{o:Oper}{s:Nat}:∀ {l:List Oper},o∈l→o.dst=some s→s∈dstsOf l
 | p::r,h,hs=>by
  simp only[dstsOf]
  rcases List.mem_cons.1 h with rfl | h
  ·rw[hs]; exact List.mem_cons_self
  ·split
   ·exact List.mem_cons_of_mem _ (Ql h hs)
   ·exact Ql h hs
def Kept(code:Code)(a a':Act):Prop:=∀ s:Nat,s ∉ qX code→a'.tmps[s]? = a.tmps[s]?
section
variable {P:Program} {xid:Nat} {tab:fX} {ro:Nat→Bool} {n:Nat} {H:Hints}
theorem Wf{κ κ':KS}{fr out:Fr}{a a':Act}{ws:List Nat}(hR:Rel κ n fr.get a)(hx:Ext κ κ')(ho:Rel κ' n out.get a')(hk:∀ s:Nat,s ∉ ws→a'.tmps[s]? = a.tmps[s]?):Rel κ' n (out++(tZ ws++fr)).get a':=by
 refine⟨ho.size,ho.defers,fun s d hd => ?_⟩
 rcases WR hd with h | h
 ·exact ho.get s d h
 ·obtain⟨h1,h2⟩:=NU h
  obtain⟨v,g1,g2⟩:=hR.get s d h2
  exact⟨v,(hk s h1).trans g1,g2.mono hx⟩
theorem H2{c:Ctx}{ops:Array Oper}:∀ (l:List Oper) (s s':fg),(nI c n ops l s).leads s'→quiet s'.ks=true→s'.st=s.st∧quiet s.ks=true:=by
 have hq:∀ {k:Nat} {ks:List Nat},quiet (k::ks)=true→Nat.beq k 2=false∧quiet ks=true:=by
  intro k ks h
  simp only[quiet,List.all_cons,Bool.and_eq_true,Bool.not_eq_true']at h
  exact⟨h.1,by unfold quiet; exact h.2⟩
 have one:∀ (o:Oper) (s s1:fg),(gQ c n o s).leads s1→quiet s1.ks=true→s1.st=s.st∧quiet s.ks=true:=by
  intro o s s1 h hk
  unfold gQ at h
  cases hd:vM n o.dst with
  | false=>rw[hd]at h; exact h.elim
  | true =>
   rw[hd,cond_true]at h
   obtain⟨r,h1,h2⟩:=T.zg.1 h
   cases h2
   obtain⟨g1,g2⟩:=hq hk
   refine⟨?_,g2⟩
   show r.2=s.st
   generalize pn c s.kn s.fr o=cl at h1 g1
   cases cl with
   | val t=>obtain⟨d,_,h3⟩:=T.zg.1 h1; cases h3; rfl
   | rd k=>obtain⟨d,_,h3⟩:=T.zg.1 h1; cases h3; rfl
   | wr k=>cases g1
 have skp:∀ (o:Oper) (s:fg),quiet (jv o s).ks=true→(jv o s).st=s.st∧quiet s.ks=true:=fun o s h=>⟨rfl,(hq h).2⟩
 have gd:∀ (o:Oper) (s s1:fg),(stepG c n ops o s).leads s1→quiet s1.ks=true→s1.st=s.st∧quiet s.ks=true:=by
  intro o s s1 h hk
  obtain⟨dst,op,ty,pos,after,guard⟩:=o
  cases guard with
  | none=>exact one _ s s1 h hk
  | some jw =>
   obtain⟨j,want⟩:=jw
   simp only[stepG]at h
   cases hg:uP ops j with
   | none=>rw[hg]at h; exact h.elim
   | some t =>
    rw[hg]at h
    simp only at h
    cases hkn:s.kn.get t with
    | some b =>
     rw[hkn]at h
     simp only at h
     cases hb:b==want with
     | true=>rw[hb,cond_true]at h; exact one _ s s1 h hk
     | false =>
      rw[hb,cond_false]at h
      cases hd:vM n dst with
      | false=>rw[hd]at h; exact h.elim
      | true=>rw[hd,cond_true]at h; cases h; exact skp _ s hk
    | none =>
     rw[hkn]at h
     simp only at h
     split at h
     ·cases hd:vM n dst with
      | false=>rw[hd]at h; exact h.elim
      | true =>
       rw[hd,cond_true]at h
       rcases h with⟨_,h⟩ | ⟨_,h⟩
       ·cases want with
        | true=>rw[cond_true]at h; exact one _ (s.bT t true) s1 h hk
        | false=>rw[cond_false]at h; cases h; exact skp _ (s.bT t true) hk
       ·cases want with
        | true=>rw[cond_true]at h; cases h; exact skp _ (s.bT t false) hk
        | false=>rw[cond_false]at h; exact one _ (s.bT t false) s1 h hk
     ·cases hd:vM n dst with
      | false=>rw[hd]at h; exact h.elim
      | true=>rw[hd,cond_true]at h; cases h; exact skp _ s hk
     ·exact h.elim
 intro l
 induction l with
 | nil=>intro s s' h hk; cases h; exact⟨rfl,hk⟩
 | cons o l ih =>
  intro s s' h hk
  obtain⟨s1,h1,h2⟩:=T.zg.1 h
  obtain⟨g1,g2⟩:=ih s1 s' h2 hk
  obtain⟨k1,k2⟩:=gd o s s1 h1 g2
  exact⟨g1.trans k1,k2⟩
theorem HH{c:Ctx}{ops:Array Oper}{draw:Bool}{fr:Fr}{kn:Kn}{st:St}{s':fg}(h:(cm c n ops draw fr kn st).leads s')(hq:quiet s'.ks=true):s'.st=st:=by
 obtain⟨s1,h1,h2⟩:=T.zg.1 h
 cases hd:(!draw||Q1 ops s1.ks.reverse s1.bk.reverse)with
 | false=>rw[hd]at h2; exact h2.elim
 | true=>rw[hd,cond_true]at h2; cases h2; exact(H2 _ _ _ h1 hq).1
theorem Tz{c:Ctx}{κ:KS}{a:Act}{o:Oper}{g:Nat}{args:Array Value}{R:Ending→World→Prop}(vR:(execOp a.eval o).run c.P κ.w=(callFunc g args).run c.P κ.w)
  (h:uE c.P g args κ.w R) {K:Act→World→Prop} {Q:Exit→Act→World→Prop} (hR:∀ e w',R e w'→∃ ch,e=.panicked ch∧Q (.panic ch) a w'):o.wp c.P a κ.w K Q:=by
 unfold Oper.wp
 rw[vR]
 rcases h with⟨h1,h2⟩ | ⟨v,w',h1,h2⟩
 ·rw[h1]
  refine h2.mono fun e w' he => ?_
  obtain⟨ch,rfl,hk⟩:=hR e w' he
  exact hk
 ·obtain⟨u,hu,_⟩:=hR _ _ h2
  cases hu
theorem TA{c:Ctx}{κ:KS}{n:Nat}{a:Act}{o:Oper}{s:fg}{d:D}{zL:St}(hC:∀ g,By c.P g (c.fn g))(hI:Inv κ)(hR:Rel κ n s.fr.get a)(xN:κ.st=s.st)(h:LI c o s d zL){K:Act→World→Prop}{Q:Exit→Act→World→Prop}
  (hQ:∀ (v:Value) (κ':KS),κ'.st=zL→Inv κ'→Ext κ κ'→RD κ' d v→Q (.panic [{ v,recovered:=false }]) a κ'.w):o.wp c.P a κ.w K Q:=by
 have ml:∀ (x:Operand) (z:D),yb s.fr x=some z→RD κ z (a.eval x):=fun x z hz=>hR.eval (by rw[← dH]; exact hz)
 obtain⟨dst,op,ty,pos,after,guard⟩:=o
 rcases h with⟨x,t,e,rfl,hx,rfl,rfl⟩ | ⟨f,args,Xx,rfl,g,caps,l,hp,hl,hc⟩
 ·have hv:=ml x _ hx
  generalize MP:a.eval x=pv at hv
  cases hv with
  | iface _ _ u hu =>
   have vR:(execOp a.eval ⟨dst,.panic x,ty,pos,after,guard⟩).run c.P κ.w=.halt (.panic (.iface t u)) κ.w:=by
    simp[execOp,MP,Instr.panic,goPanic]
   unfold Oper.wp
   rw[vR]
   exact hQ _ κ xN hI (Ext.refl κ) (.iface t e u hu)
 ·have hpv:=ml f _ hp
  have hr:=cW (κ:=κ) (vs:=args.toList.map a.eval) hl (by simp) (fun i d v hd hv=>by
      simp only[List.getElem?_map]at hd hv
      cases hi:args.toList[i]? with
      | none=>rw[hi]at hd; cases hd
      | some x=>rw[hi]at hd hv; simp at hd hv; subst hv; exact ml x d hd)
  generalize MP:a.eval f=pv at hpv
  cases hpv with
  | xk _ _ us iM hh2 =>
   have mY:=CS g hr (⟨iM,hh2⟩:xv κ caps us)
   rw[← xN]at hc
   refine Tz (c:=c) (κ:=κ) (g:=dQ g) (args:=(c9 g (args.toList.map a.eval) us).toArray) ?_ (hC (dQ g) κ _ _ _ _ hc hI mY) ?_
   ·exact BD MP
   ·rintro e w' ⟨κ',rfl,h1,h2,h3,v,rfl,h4⟩
    exact⟨_,rfl,hQ v κ' h1 h2 h3 h4⟩
theorem Nl{c:Ctx}{κ:KS}{n:Nat}{a:Act}{id:Nat}{ops:Array Oper}{fr:Fr}{kn:Kn}{d:D}{zL:St}(hC:∀ g,By c.P g (c.fn g))(hI:Inv κ)(hR:Rel κ n fr.get a)(hk:vN kn fr.get)
  (h:FV c n ops ops.toList ⟨fr,kn,κ.st,[],[]⟩ d zL) {Q:Exit→Act→World→Prop}
  (hQ:∀ (v:Value) (a':Act) (κ':KS),κ'.st=zL→Inv κ'→Ext κ κ'→Rel κ' n (Fr.get []) a'→iN ops a a'→RD κ' d v→Q (.panic [{ v,recovered:=false }]) a' κ'.w):(Code.region id ops false).wp c.P Q a κ.w:=by
 obtain⟨pre,o,post,s1,e,h1,h2,h3⟩:=h
 have MZ:∀ j:Nat,ops[j]? = (pre++o::post)[j]? := fun j=>by rw[← e]; simp
 obtain⟨ks,g1,g2,_⟩:=nP pre 0 ⟨fr,kn,κ.st,[],[]⟩ s1 (fun j=>by
  by_cases hj:j<pre.length
  ·left; rw[Nat.zero_add,MZ,List.getElem?_append_left hj]
  ·right; omega) hk h1
 have jk:List.range ops.size=List.range' 0 pre.length++pre.length::List.range' (pre.length+1) post.length:=by
  have:ops.size=pre.length+(post.length+1):=by rw[← Array.length_toList,e]; simp
  rw[this,List.range_eq_range',← List.range'_append_1,Nat.zero_add,List.range'_succ]
 refine wp_region ?_
 rw[jk]
 refine YT hC _ _ hI hR rfl g1 fun a' κ' e1 e2 e3 e4 e5 => ?_
 rw[wpOps_cons]
 unfold wpOp
 have ho:ops[pre.length]? = some o:=by rw[MZ]; simp
 rw[ho]
 simp only
 rw[if_pos (mI e4 h2)]
 exact .inl (TA hC e2 e4 e1 h3 fun v Nw f1 f2 f3 f4=>hQ v a' Nw f1 f2 (e3.trans f3) ⟨e4.size,e4.defers,fun s d hd=>by cases hd⟩ e5 f4)
def Qb(P:Program)(n:Nat)(l:zE)(b:Code):Prop:=∀ (κ:KS) (a:Act) (p:wS l.ps) (s:l.sh.den) (r:yt l.ws),(l.F p s).leads r→κ.st=l.sh.st s→Inv κ →
 Rel κ n (l.sh.fr s).get a→Rel κ n (fY (l.sh.st s) l.ps p).get a→FY l.ps (qX b)=true→(∀ w∈l.ws,l.sh.bs.length≤w.sh.bs.length) →
 ∀ Q:Exit→Act→World→Prop,(∀ (w:Way) (x:w.sh.den) (pe:Exit) (a':Act) (κ':KS),w∈l.ws→RIs l.ws r w x→κ'.st=w.sh.st x→Inv κ'→Ext κ κ'→z6L κ' n w x a' pe→Kept b a a'→Q pe a' κ'.w) →
  (Code.loop b).wp P Q a κ.w
def yw(P:Program)(n:Nat)(H:Hints)(code:Code):Prop:=∀ p∈vH code,∀ l,H.loop p.1=some l→Qb P n l p.2
theorem SQ{kn:Kn}:∀ (l:List Nat) {fr:Fr} {st:St} {r:Fr×St},(frz l fr st).leads r→vN kn fr.get→vN kn r.1.get
 | [],fr,st,r,h,hk=>by cases h; exact hk
 | s::l,fr,st,r,h,hk=>by
  obtain⟨x,h1,h2⟩:=T.zg.1 h
  refine SQ l h2 fun t b hb => ?_
  have hf:=hk t b hb
  unfold z0P at h1
  cases hW:Nat.ble 1000000 s with
  | true =>
   rw[hW,cond_true]at h1
   have hfr:x.1=fr:=by
    unfold z0X at h1
    split at h1
    ·split at h1
     ·split at h1
      ·split at h1
       ·obtain⟨_,h1⟩:=h1; cases h1; rfl
       ·exact h1.elim
      ·exact h1.elim
     ·cases h1; rfl
    ·cases h1; rfl
   rw[hfr]; exact hf
  | false =>
  rw[hW,cond_false]at h1
  unfold z0y at h1
  split at h1
  ·rename_i b' qR e off len hs
   split at h1
   ·split at h1
    ·obtain⟨_,h1⟩:=h1
     cases h1
     simp only[Fr.get]
     cases ht:Nat.beq s t with
     | true=>rw[← Nat.eq_of_beq_eq_true ht,hs]at hf; cases hf
     | false=>rw[cond_false]; exact hf
    ·exact h1.elim
   ·exact h1.elim
  ·cases h1; exact hf
theorem OK{c:Ctx}{t e:Nat}(hu:c.P.underlying t=some (.slice e)){op:BinOp}{b:Bool}(hop:RA op=some b)(px py:Operand)(w:World)(x:Option Addr)(l k:Nat) :
  (do eqGuard op t px py (.slice x l k) (.slice none 0 0); binOp op t (.slice x l k) (.slice none 0 0):Sem Value).run c.P w=.ok (.bool (if b=true then x.isNone else !x.isNone)) w:=by
 cases op<;>simp only[RA]at hop<;>cases hop
 ·have:=run_eql_slice_nil (P:=c.P) w t e x l k hu
  simp only[Sem.run_bind,eqGuard,Sem.run_pure]
  simpa using this
 ·have:=run_neq_slice_nil (P:=c.P) w t e x l k hu
  simp only[Sem.run_bind,eqGuard,Sem.run_pure]
  simpa using this
theorem E1{ops:Array Oper}{fr:Fr}{p:zaQ}(hp:Hc (y9 P xid tab ro) n ops fr=some p){κ:KS}{a:Act}{kn:Kn}(hI:Inv κ)(hR:Rel κ n fr.get a)(hk:vN kn fr.get){id:Nat}(Q:Exit→Act→World→Prop)
  (hQ:∀ a':Act,Kept (.region id ops false) a a' →
   ((p.l=[]∧Rel κ n (Fr.get ((p.c,some (.zW .bool p.eq))::(p.m,some .xm)::(p.s,some .xm)::fr)) a')∨Rel κ n (Fr.get ((p.c,some (.zW .bool (!p.eq)))::(p.m,some (.zW (.sl p.e) p.l))::fr)) a')→Q .normal a' κ.w) :
  (Code.region id ops false).wp P Q a κ.w:=by
 unfold Hc at hp
 split at hp
 ·rename_i o1 o2 hops
  split at hp
  ·rename_i m s Np ho1 hg1
   split at hp
   ·rename_i cc op t m' y ty' hd2 ho2 hg2
    split at hp
    ·rename_i b e l et hop hs hel
     cases hc:Nat.beq m m'&&Ed y&&Nat.blt m n&&Nat.blt cc n with
     | false=>rw[hc]at hp; cases hp
     | true =>
      rw[hc,cond_true]at hp
      cases hp
      simp only[Bool.and_eq_true]at hc
      obtain⟨⟨⟨hmm,hy⟩,hmn⟩,hcn⟩:=hc
      have:=Nat.eq_of_beq_eq_true hmm
      subst this
      have hy':y=.const (.slice none 0 0):=by
       unfold Ed at hy
       split at hy
       ·rfl
       ·cases hy
      subst hy'
      obtain⟨v,hv,yv⟩:=hR.get s _ hs
      obtain⟨x,k,hvs⟩:∃ (x:Option Addr) (k:Nat),v=.slice x l.length k∧(x=none→l=[]∧k=0):=by
       rcases(yv.wJ rfl).ny with⟨rfl,a0,he⟩ | ⟨blk,off,cap,f,he,wg,wD,h1,h2⟩
       ·cases he; exact⟨a0,0,rfl,fun _=>⟨rfl,rfl⟩⟩
       ·cases he; exact⟨_,cap,rfl,nofun⟩
      obtain⟨rfl,hvn⟩:=hvs
      have jk:ops.size=2:=by rw[← Array.length_toList,hops]; rfl
      have e0:ops[0]? = some o1:=by rw[← Array.getElem?_toList,hops]; rfl
      have e1:ops[1]? = some o2:=by rw[← Array.getElem?_toList,hops]; rfl
      have z8s:m<n:=Nat.le_of_ble_eq_true hmn
      have zfA:cc<n:=Nat.le_of_ble_eq_true hcn
      have hsl:a.tmps.getD s undef=.slice x l.length k:=by simp[Array.getD_eq_getD_getElem?,hv]
      have wan:∀ (o:Oper) (ys:Nat→Option Value),o.guard=none→True:=fun _ _ _=>trivial
      refine wp_region ?_
      rw[jk,show List.range 2=[0,1]from rfl,wpOps_cons]
      unfold wpOp
      rw[e0]
      simp only
      rw[if_pos (by unfold Region.wanted; rw[hg1])]
      refine .inl ?_
      obtain⟨d1,op1,ty1,zeY,af1,gu1⟩:=o1
      obtain⟨d2,op2,B5,zbZ,af2,gu2⟩:=o2
      simp only at Np ho1 hg1 hd2 ho2 hg2
      subst Np ho1 hg1 hd2 ho2 hg2
      have hx1:(execOp a.eval ⟨some m,.move (.tmp s),ty1,zeY,af1,none⟩).run P κ.w=.ok (.value (.slice x l.length k)) κ.w:=by
       simp[execOp,Act.eval,hsl]
      unfold Oper.wp
      rw[hx1,Oper.upon_value,wpOps_cons]
      unfold wpOp
      rw[e1]
      simp only
      rw[if_pos (by unfold Region.wanted; rfl)]
      refine .inl ?_
      have ml:(a.put (some m) (.slice x l.length k)).eval (.tmp m)=.slice x l.length k:=by
       have:=hR.size
       simp[Act.eval,Act.put,Array.getD_eq_getD_getElem?,Array.getElem?_setIfInBounds,this,z8s]
      have hu:=uu hel
      have vR:=OK (c:=y9 P xid tab ro) hu hop (.tmp m) (.const (.slice none 0 0)) κ.w x l.length k
      have DI:(execOp (a.put (some m) (.slice x l.length k)).eval ⟨some cc,.binOp op t (.tmp m) (.const (.slice none 0 0)) ty',B5,zbZ,af2,none⟩).run P κ.w=.ok (.value (.bool (if b=true then x.isNone else !x.isNone))) κ.w:=by
       have hex:execOp (a.put (some m) (.slice x l.length k)).eval ⟨some cc,.binOp op t (.tmp m) (.const (.slice none 0 0)) ty',B5,zbZ,af2,none⟩ =
        (do Pure.pure (.value (← (do eqGuard op t (.tmp m) (.const (.slice none 0 0)) ((a.put (some m) (.slice x l.length k)).eval (.tmp m)) (.slice none 0 0); binOp op t ((a.put (some m) (.slice x l.length k)).eval (.tmp m)) (.slice none 0 0))))):=rfl
       rw[hex,ml,Sem.run_bind]
       rw[show(do eqGuard op t (.tmp m) (.const (.slice none 0 0)) (.slice x l.length k) (.slice none 0 0); binOp op t (.slice x l.length k) (.slice none 0 0):Sem Value).run P κ.w=_ from vR]
       rfl
      unfold Oper.wp
      rw[DI,Oper.upon_value]
      have Fk:∀ (q:Nat) (u:Value) (a1:Act) (t:Nat),(a1.put (some q) u).tmps[t]? = if q=t then(if q<a1.tmps.size then some u else none)else a1.tmps[t]? := by
       intro q u a1 t
       simp only[Act.put,Array.getElem?_setIfInBounds]
      have Ov:(a.put (some m) (.slice x l.length k)).tmps.size=n:=by simp[Act.put,hR.size]
      have hs2:((a.put (some m) (.slice x l.length k)).put (some cc) (.bool (if b=true then x.isNone else !x.isNone))).tmps.size=n:=by simp[Act.put,hR.size]
      refine hQ _ (fun t ht => ?_) ?_
      ·have hw:qX (.region id ops false)=[m,cc]:=by simp only[qX,hops,dstsOf]
       rw[hw]at ht
       simp only[List.mem_cons,List.not_mem_nil,or_false,not_or]at ht
       rw[Fk,if_neg (fun e=>ht.2 e.symm),Fk,if_neg (fun e=>ht.1 e.symm)]
      ·have get:∀ (t:Nat),((a.put (some m) (.slice x l.length k)).put (some cc) (.bool (if b=true then x.isNone else !x.isNone))).tmps[t]? = if cc=t then some (.bool (if b=true then x.isNone else !x.isNone))else if m=t then some (.slice x l.length k)else a.tmps[t]? := by
        intro t
        rw[Fk,Fk,Ov,if_pos zfA,hR.size,if_pos z8s]
       have z2S:∀ {i j:Nat},Nat.beq i j=false→i≠j:=fun h e=>by subst e; simp at h
       cases x with
       | none =>
        obtain⟨hl,HT⟩:=hvn rfl
        subst hl HT
        refine .inl ⟨rfl,hs2,hR.defers,fun t d hd => ?_⟩
        rw[get]
        simp only[Fr.get]at hd
        cases h1:Nat.beq cc t with
        | true =>
         rw[h1,cond_true]at hd; cases hd
         rw[if_pos (Nat.eq_of_beq_eq_true h1)]
         refine⟨_,rfl,?_⟩
         cases b<;>exact .bool
        | false =>
         rw[h1,cond_false]at hd
         rw[if_neg (z2S h1)]
         cases h2:Nat.beq m t with
         | true=>rw[h2,cond_true]at hd; cases hd; rw[if_pos (Nat.eq_of_beq_eq_true h2)]; exact⟨_,rfl,.xm⟩
         | false =>
          rw[h2,cond_false]at hd
          rw[if_neg (z2S h2)]
          cases h3:Nat.beq s t with
          | true=>rw[h3,cond_true]at hd; cases hd; rw[← Nat.eq_of_beq_eq_true h3]; exact⟨_,hv,.xm⟩
          | false=>rw[h3,cond_false]at hd; exact hR.get t d hd
       | some x =>
        refine .inr ⟨hs2,hR.defers,fun t d hd => ?_⟩
        rw[get]
        simp only[Fr.get]at hd
        cases h1:Nat.beq cc t with
        | true =>
         rw[h1,cond_true]at hd; cases hd
         rw[if_pos (Nat.eq_of_beq_eq_true h1)]
         refine⟨_,rfl,?_⟩
         cases b<;>exact .bool
        | false =>
         rw[h1,cond_false]at hd
         rw[if_neg (z2S h1)]
         cases h2:Nat.beq m t with
         | true=>rw[h2,cond_true]at hd; cases hd; rw[if_pos (Nat.eq_of_beq_eq_true h2)]; exact⟨_,rfl,yv⟩
         | false=>rw[h2,cond_false]at hd; rw[if_neg (z2S h2)]; exact hR.get t d hd
    ·cases hp
   ·cases hp
  ·cases hp
 ·cases hp
theorem N1{id:Nat}{b:Code}(hb:∀ b',b≠.loop b')(fr:Fr)(kn:Kn)(st:St){α:Type}(k:Ef→T α):VG (y9 P xid tab ro) tab n H (.block id b) fr kn st k=VG (y9 P xid tab ro) tab n H b fr kn st fun r=>match r.ex with
  | .exit id'=>bif Nat.beq id' id then k { r with ex:=.normal } else k r
  | _=>k r:=by
 cases b<;>first | rfl | exact absurd rfl (hb _)
theorem Kz(hm:(y9 P xid tab ro).P.follows .mixedOrders=true)(hT:eE P tab):∀ (code:Code),yw P n H code→∀ {fr:Fr} {kn:Kn} {κ:KS} {a:Act} {α:Type} {k:Ef→T α} {r:α},
  (VG (y9 P xid tab ro) tab n H code fr kn κ.st k).leads r→Inv κ→Rel κ n fr.get a→vN kn fr.get →
  ∀ Q:Exit→Act→World→Prop,(∀ (o:Ef) (pe:Exit) (a':Act) (κ':KS),(k o).leads r→κ'.st=o.st→Inv κ'→Ext κ κ'→Rel κ' n o.fr.get a'→vN o.kn o.fr.get→Kept code a a'→(o.q=true→o.st=κ.st)→Dl κ' o.ex pe→Q pe a' κ'.w) →
   code.wp P Q a κ.w:=by
 intro code
 induction code with
 | skip=>intro _ fr kn κ a α k r h hI hR hk Q hQ; exact wp_skip (hQ _ _ a κ h rfl hI (Ext.refl κ) hR hk (fun _ _=>rfl) (fun _=>rfl) rfl)
 | exit id=>intro _ fr kn κ a α k r h hI hR hk Q hQ; exact wp_exit (hQ _ _ a κ h rfl hI (Ext.refl κ) hR hk (fun _ _=>rfl) (fun _=>rfl) rfl)
 | ret=>intro _ fr kn κ a α k r h hI hR hk Q hQ; exact wp_ret (hQ _ _ a κ h rfl hI (Ext.refl κ) hR hk (fun _ _=>rfl) (fun _=>rfl) rfl)
 | region id ops draw =>
  intro _ fr kn κ a α k r h hI hR hk Q hQ
  simp only[VG]at h
  obtain⟨z,h0,h⟩:=T.zg.1 h
  obtain⟨κ0,w1,w2,w3,w4,w5⟩:=S8 _ h0 hI hR
  have HT:=SQ _ h0 hk
  rcases Ye HT h with⟨s,h1,h2⟩ | ⟨d,zL,rfl,h1,h2⟩
  rotate_left
  ·rw[← w2]at h1
   rw[← w1]
   exact Nl (Mf hT) w3 w5 HT h1 fun v a' κ' e1 e2 e3 e4 e5 e6=>hQ ⟨.bU d,[],[],zL,false⟩ _ a' κ' h2 e1 e2 (w4.trans e3) e4 (fS _) (fun t ht=>e5 t fun o ho he=>ht (Ql ho he)) (fun hq=>by cases hq) ⟨v,rfl,e6⟩
  rw[← w2]at h1
  have Dj:=N4 HT h1
  rw[← w1]
  refine(Nb hm (Mf hT) w3 w5 HT h1 fun a' κ' e1 e2 e3 e4 e5=>hQ ⟨.normal,s.fr,s.kn,s.st,quiet s.ks&&(H.frz id).isEmpty⟩ _ a' κ' h2 e1 e2 (w4.trans e3) e4 Dj (fun t ht=>e5 t fun o ho he=>ht (Ql ho he)) (fun hq => ?_) rfl).1
  simp only[Bool.and_eq_true]at hq
  have he:H.frz id=[]:=List.isEmpty_iff.1 hq.2
  rw[he]at h0
  cases h0
  exact(HH h1 hq.1).trans w2
 | seq x y ix iy =>
  intro hl fr kn κ a α k r h hI hR hk Q hQ
  have hlx:yw P n H x:=fun p hp=>hl p (by simp only[vH,List.mem_append]; exact .inl hp)
  have hly:yw P n H y:=fun p hp=>hl p (by simp only[vH,List.mem_append]; exact .inr hp)
  have kx:∀ {a a':Act},Kept x a a'→Kept (.seq x y) a a':=fun h s hs=>h s fun e=>hs (by simp only[qX,List.mem_append]; exact .inl e)
  have ky:∀ {a a':Act},Kept y a a'→Kept (.seq x y) a a':=fun h s hs=>h s fun e=>hs (by simp only[qX,List.mem_append]; exact .inr e)
  simp only[VG]at h
  split at h
  ·refine wp_seq (ix hlx h hI hR hk _ fun o pe a' κ' e0 e1 e2 e3 e4 e4' e5 e5q e6 => ?_)
   cases hex:o.ex<;>rw[hex]at e0 e6<;>simp only at e0
   ·cases e6
    refine iy hly (κ:=κ') (e1▸e0) e2 e4 e4' Q fun o' Hl a'' Nw f0 f1 f2 f3 f4 HP f5 Bz f6=>hQ { o' with q:=o.q&&o'.q } Hl a'' Nw f0 f1 f2 (e3.trans f3) f4 HP (fun s hs=>(ky f5 s hs).trans (kx e5 s hs)) ?_ f6
    intro hq
    simp only[Bool.and_eq_true]at hq
    exact(Bz hq.2).trans (e1.trans (e5q hq.1))
   ·cases e6; exact hQ o _ a' κ' e0 e1 e2 e3 e4 e4' (kx e5) e5q (by rw[hex]; rfl)
   ·cases e6; exact hQ o _ a' κ' e0 e1 e2 e3 e4 e4' (kx e5) e5q (by rw[hex]; rfl)
   ·obtain⟨v,rfl,hv⟩:=e6
    exact hQ o _ a' κ' e0 e1 e2 e3 e4 e4' (kx e5) e5q (by rw[hex]; exact⟨v,rfl,hv⟩)
  ·rename_i pK hcu
   cases hw:G0 pK with
   | false=>rw[hw]at h; exact h.elim
   | true =>
    rw[hw,cond_true]at h
    obtain⟨z,h1,h2⟩:=T.zg.1 h
    have h1:=Cj h1
    refine wp_seq (ix hlx h1 hI hR hk _ fun o pe a' κ' e0 e1 e2 e3 e4 e4' e5 e5q e6 => ?_)
    cases hex:o.ex<;>rw[hex]at e0 e6<;>simp only at e0
    ·cases e6
     cases hq:o.q with
     | false=>rw[hq]at e0; exact e0.elim
     | true =>
      rw[hq,cond_true]at e0
      have xN:o.st=κ.st:=e5q hq
      have hRz:Rel κ' n (fY κ.st pK z).get a':=by
       refine⟨e4.size,e4.defers,fun t d hd => ?_⟩
       obtain⟨k',y',d0,g0,g1,g2,g3⟩:=(X5 (p:=fun _=>true) (zL:=κ.st) pK [] z (fun _ _=>rfl) e0).2 _ (get_mem hd)
       cases g3
       obtain⟨v,q1,q2⟩:=e4.get _ _ g1
       have QA:=List.all_eq_true.1 hw _ g0
       have QA:XO k'=true:=QA
       have hwk:Wk κ' κ':=⟨rfl,rfl,rfl,rfl,fun b d h=>⟨d,h⟩,fun b v e xs h=>.inl h,fun b v e xs h=>h,fun b h=>h⟩
       have wg:BL [] k'=true:=by cases k'<;>first | rfl | cases QA
       rw[← e1]at g2
       have:=GB hwk (bs:=[]) wg (fun _ _=>rfl) (zL:=κ'.st) (fun _ _=>rfl) (fun _ h=>by simp[rowAt]at h) g2 q2
       have he:pG κ'.st k' y'=pG κ.st k' y':=by cases k'<;>first | rfl | cases QA
       rw[he]at this
       exact⟨v,q1,this⟩
      have B6:=Wf hR e3 hRz e5
      refine iy hly (κ:=κ') (by rw[e1,xN]; exact h2) e2 B6 (fS _) Q fun o' Hl a'' Nw f0 f1 f2 f3 f4 HP f5 Bz f6=>hQ o' Hl a'' Nw f0 f1 f2 (e3.trans f3) f4 HP (fun s hs=>(ky f5 s hs).trans (kx e5 s hs)) (fun hq=>(Bz hq).trans (e1.trans xN)) f6
    ·exact e0.elim
    ·exact e0.elim
    ·exact e0.elim
  ·rename_i hcu
   cases hop:opsOf x with
   | none=>rw[hop]at h; exact h.elim
   | some ops =>
    rw[hop]at h
    simp only at h
    cases hp:Hc (y9 P xid tab ro) n ops fr with
    | none=>rw[hp]at h; exact h.elim
    | some p =>
     rw[hp]at h
     obtain⟨Xy,zcz⟩:=h
     obtain⟨id,rfl⟩:∃ id,x=.region id ops false:=by
      cases x with
      | region id ops' draw =>
       cases draw with
       | true=>cases hop
       | false=>cases hop; exact⟨id,rfl⟩
      | _=>cases hop
     refine wp_seq (E1 hp hI hR hk _ ?_)
     intro a' X8 zc1
     rcases zc1 with⟨hl,B6⟩ | B6
     ·refine iy hly (κ:=κ) (Xy hl _ zcz) hI B6 (fun t b hb => ?_) Q fun o' Hl a'' Nw f0 f1 f2 f3 f4 HP f5 Bz f6=>hQ o' Hl a'' Nw f0 f1 f2 f3 f4 HP (fun s hs=>(ky f5 s hs).trans (kx X8 s hs)) Bz f6
      simp only[Kn.get]at hb
      simp only[Fr.get]
      cases ht:Nat.beq p.c t with
      | true=>rw[ht,cond_true]at hb; rw[cond_true]; cases hb; rfl
      | false=>rw[ht,cond_false]at hb; cases hb
     ·refine iy hly (κ:=κ) zcz hI B6 (fun t b hb => ?_) Q fun o' Hl a'' Nw f0 f1 f2 f3 f4 HP f5 Bz f6=>hQ o' Hl a'' Nw f0 f1 f2 f3 f4 HP (fun s hs=>(ky f5 s hs).trans (kx X8 s hs)) Bz f6
      simp only[Kn.get]at hb
      simp only[Fr.get]
      cases ht:Nat.beq p.c t with
      | true=>rw[ht,cond_true]at hb; rw[cond_true]; cases hb; rfl
      | false=>rw[ht,cond_false]at hb; cases hb
  ·rename_i ws hcu
   cases hw:ws.all fun w=>Nat.ble κ.st.length w.sh.bs.length with
   | false=>rw[hw]at h; exact h.elim
   | true =>
    rw[hw,cond_true]at h
    obtain⟨rr,pJ,h2⟩:=T.zg.1 h
    refine wp_seq (ix hlx pJ hI hR hk _ fun o pe a' κ' e0 e1 e2 e3 e4 e4' e5 _ e6 => ?_)
    obtain⟨w,g1,z,g2,g3,g4⟩:=Hj _ _ _ _ _ e0
    have hwl:=List.all_eq_true.1 hw w g1
    obtain⟨κ1,q1,q2,q3,q4,q5⟩:=Sq (n:=n) e3 e2 e4 e6 g3 (Nat.le_of_ble_eq_true hwl) (by rw[e1]; exact g4)
    rw[g2]at h2
    split at h2
    ·exact h2.elim
    rename_i zz hzz
    obtain⟨q5,PO⟩:=q5 zz hzz
    have B6:=Wf hR q4 q5 e5
    rw[← q1]
    cases hex:zz.1<;>rw[hex]at h2 PO<;>simp only at h2
    ·cases PO
     exact iy hly (κ:=κ1) (by rw[q2]; exact h2) q3 B6 (fS _) Q fun o' Hl a'' Nw f0 f1 f2 f3 f4 HP f5 _ f6=>hQ { o' with q:=false } Hl a'' Nw f0 f1 f2 (q4.trans f3) f4 HP (fun s hs=>(ky f5 s hs).trans (kx e5 s hs)) (fun hq=>by cases hq) f6
    ·cases PO; exact hQ _ _ a' κ1 h2 q2 q3 q4 B6 (fS _) (kx e5) (fun hq=>by cases hq) rfl
    ·cases PO; exact hQ _ _ a' κ1 h2 q2 q3 q4 B6 (fS _) (kx e5) (fun hq=>by cases hq) rfl
    ·obtain⟨v,rfl,hv⟩:=PO
     exact hQ _ _ a' κ1 h2 q2 q3 q4 B6 (fS _) (kx e5) (fun hq=>by cases hq) ⟨v,rfl,hv⟩
 | cond x p q ip iq =>
  intro hl fr kn κ a α k r h hI hR hk Q hQ
  have hlp:yw P n H p:=fun z hz=>hl z (by simp only[vH,List.mem_append]; exact .inl hz)
  have Na:yw P n H q:=fun z hz=>hl z (by simp only[vH,List.mem_append]; exact .inr hz)
  have kp:∀ {a a':Act},Kept p a a'→Kept (.cond x p q) a a':=fun h s hs=>h s fun e=>hs (by simp only[qX,List.mem_append]; exact .inl e)
  have kq:∀ {a a':Act},Kept q a a'→Kept (.cond x p q) a a':=fun h s hs=>h s fun e=>hs (by simp only[qX,List.mem_append]; exact .inr e)
  have hQp:=fun(o:Ef) (pe:Exit) (a':Act) (κ':KS) f0 f1 f2 f3 f4 HP (f5:Kept p a a') Bz f6=>hQ o pe a' κ' f0 f1 f2 f3 f4 HP (kp f5) Bz f6
  have hQq:=fun(o:Ef) (pe:Exit) (a':Act) (κ':KS) f0 f1 f2 f3 f4 HP (f5:Kept q a a') Bz f6=>hQ o pe a' κ' f0 f1 f2 f3 f4 HP (kq f5) Bz f6
  simp only[VG]at h
  split at h
  ·rename_i hx
   have hv:qy fr.get x=some (.zW .bool true):=cn hk hx
   exact wp_cond_true (hR.eval hv).gS (ip hlp h hI hR hk Q hQp)
  ·rename_i hx
   have hv:qy fr.get x=some (.zW .bool false):=cn hk hx
   exact wp_cond_false (hR.eval hv).gS (iq Na h hI hR hk Q hQq)
  ·split at h
   ·split at h
    ·rename_i v hv
     have he:=hv
     rw[show ∀ t,fr.get t=qy fr.get (.tmp t)from fun _=>rfl]at he
     rcases h with⟨rfl,h⟩ | ⟨rfl,h⟩
     ·exact wp_cond_true (hR.eval he).gS (ip hlp h hI hR (sY hk hv) Q hQp)
     ·exact wp_cond_false (hR.eval he).gS (iq Na h hI hR (sY hk hv) Q hQq)
    ·exact h.elim
   ·exact h.elim
 | block id b ib =>
  intro hl fr kn κ a α k r h hI hR hk Q hQ
  by_cases hb:∃ b',b=.loop b'
  ·obtain⟨b,rfl⟩:=hb
   simp only[VG]at h
   split at h
   ·exact h.elim
   ·rename_i l hll
    cases hc:Nat.ble (gh l.gh fr κ.st).2.length l.sh.bs.length&&FY l.ps (qX b)&&l.ws.all fun w=>Nat.ble l.sh.bs.length w.sh.bs.length with
    | false=>rw[hc]at h; exact h.elim
    | true =>
     rw[hc,cond_true]at h
     simp only[Bool.and_eq_true,List.all_eq_true]at hc
     obtain⟨⟨EC,RT⟩,hc3⟩:=hc
     obtain⟨p,h1,h⟩:=T.zg.1 h
     obtain⟨s,h2,h⟩:=T.zg.1 h
     obtain⟨rr,h3,h4⟩:=T.zg.1 h
     obtain⟨κ1,w1,w2,w3,w4,w5⟩:=ng l.gh fr κ hI hR
     rw[← w2]at h1 h2 EC
     obtain⟨κ2,q1,q2,q3,q4,q5,_⟩:=l.sh.Qm (n:=n) (Ext.refl κ1) w3 w5 (Nat.le_of_ble_eq_true EC) h2
     -- the loop's parameters
     have CA:Rel κ2 n (fY (l.sh.st s) l.ps p).get a:=by
      refine⟨w5.size,w5.defers,fun t d hd => ?_⟩
      obtain⟨k',y,d0,g0,g1,g2,g3⟩:=(X5 (p:=fun _=>true) (zL:=l.sh.st s) l.ps [] p (fun _ _=>rfl) h1).2 _ (get_mem hd)
      cases g3
      obtain⟨v,e1,e2⟩:=w5.get _ _ g1
      have QA:=List.all_eq_true.1 RT _ g0
      simp only[Bool.and_eq_true]at QA
      have hwk:Wk κ1 κ1:=⟨rfl,rfl,rfl,rfl,fun b d h=>⟨d,h⟩,fun b v e xs h=>.inl h,fun b v e xs h=>h,fun b h=>h⟩
      have wg:BL [] k'=true:=by cases k'<;>first | rfl | cases QA.1
      have:=GB hwk (bs:=[]) wg (fun _ _=>rfl) (zL:=κ1.st) (fun _ _=>rfl) (fun _ h=>by simp[rowAt]at h) g2 e2
      have he:pG κ1.st k' y=pG (l.sh.st s) k' y:=by cases k'<;>first | rfl | cases QA.1
      rw[he]at this
      exact⟨v,e1,this.mono q4⟩
     have z2M:Ext κ κ2:=w4.trans q4
     have VR:κ2.w=κ.w:=q1.trans w1
     rw[← VR]
     refine wp_block (hl (id,b) (by simp[vH]) l hll κ2 a p s rr h3 q2 q3 q5 CA RT (fun w hw=>Nat.le_of_ble_eq_true (hc3 w hw)) _ fun w x pe a' κ' f1 f2 f3 f4 f5 f6 f7 => ?_)
     rw[f2]at h4
     split at h4
     ·exact h4.elim
     rename_i zz hzz
     obtain⟨f6,f8⟩:=f6 zz hzz
     have hR':Rel κ' n (zz.2++(tZ (qX b)++(gh l.gh fr κ.st).1)).get a':=Wf w5 (q4.trans f5) f6 f7
     have Jt:Kept (.block id (.loop b)) a a':=f7
     cases hwx:zz.1<;>rw[hwx]at h4 f8<;>simp only at h4
     ·exact h4.elim
     ·rename_i id'
      cases f8
      simp only[Exit.inBlock]
      cases Zm:Nat.beq id' id with
      | true =>
       rw[Zm,cond_true]at h4
       have:=Nat.eq_of_beq_eq_true Zm
       subst this
       rw[if_pos rfl]
       exact hQ _ _ a' κ' h4 f3 f4 (z2M.trans f5) hR' (fS _) Jt (fun hq=>by cases hq) rfl
      | false =>
       rw[Zm,cond_false]at h4
       rw[if_neg (fun e=>by subst e; simp at Zm)]
       exact hQ _ _ a' κ' h4 f3 f4 (z2M.trans f5) hR' (fS _) Jt (fun hq=>by cases hq) rfl
     ·cases f8
      exact hQ _ _ a' κ' h4 f3 f4 (z2M.trans f5) hR' (fS _) Jt (fun hq=>by cases hq) rfl
     ·obtain⟨v,rfl,hv⟩:=f8
      exact hQ _ _ a' κ' h4 f3 f4 (z2M.trans f5) hR' (fS _) Jt (fun hq=>by cases hq) ⟨v,rfl,hv⟩
  ·have Zm:∀ b',b≠.loop b':=fun b' e=>hb ⟨b',e⟩
   rw[N1 Zm]at h
   refine wp_block (ib (fun z hz=>hl z (by rw[CL Zm]; exact hz)) h hI hR hk _ fun o pe a' κ' f0 f1 f2 f3 f4 HP f5 Bz f6 => ?_)
   have Jt:Kept (.block id b) a a':=f5
   cases hox:o.ex<;>rw[hox]at f0 f6<;>simp only at f0
   ·cases f6; exact hQ o _ a' κ' f0 f1 f2 f3 f4 HP Jt Bz (by rw[hox]; rfl)
   ·rename_i id'
    cases f6
    simp only[Exit.inBlock]
    cases hbq:Nat.beq id' id with
    | true =>
     rw[hbq,cond_true]at f0
     have:=Nat.eq_of_beq_eq_true hbq
     subst this
     rw[if_pos rfl]
     exact hQ _ _ a' κ' f0 f1 f2 f3 f4 HP Jt Bz rfl
    | false =>
     rw[hbq,cond_false]at f0
     rw[if_neg (fun e=>by subst e; simp at hbq)]
     exact hQ o _ a' κ' f0 f1 f2 f3 f4 HP Jt Bz (by rw[hox]; rfl)
   ·cases f6; exact hQ o _ a' κ' f0 f1 f2 f3 f4 HP Jt Bz (by rw[hox]; rfl)
   ·obtain⟨v,rfl,hv⟩:=f6
    exact hQ o _ a' κ' f0 f1 f2 f3 f4 HP Jt Bz (by rw[hox]; exact⟨v,rfl,hv⟩)
 | _=>intro _ fr kn κ a α k r h; simp only[VG]at h; exact h.elim
end
end Go.AM
namespace Go.AM
set_option linter.unusedSectionVars false
variable [uz]
open Go.RowKit
section
variable [B9]
variable {P:Program} {xid:Nat} {tab:fX} {ro:Nat→Bool} {n:Nat} {H:Hints}
theorem Ls{b:Code}{st zL:St}:∀ (pK:List It) (z:wS pK),FY pK (qX b)=true→fY st pK z=fY zL pK z∧∀ q∈fY st pK z,q.1 ∉ qX b:=by
 intro pK
 induction pK with
 | nil=>intro z _; exact⟨rfl,fun q hq=>by cases hq⟩
 | cons i r ih =>
  intro z h
  have hi:∀ y:i.den,KV st i y=KV zL i y∧∀ q∈KV st i y,q.1 ∉ qX b:=by
   intro y
   simp only[FY,List.all_cons,Bool.and_eq_true]at h
   cases i with
   | s t k =>
    obtain⟨h1,_⟩:=h
    have h1:(XO k&&Se (qX b) t)=true:=h1
    simp only[Bool.and_eq_true]at h1
    refine⟨by cases k<;>first | rfl | (simp[XO]at h1),fun q hq => ?_⟩
    simp only[KV,List.mem_singleton]at hq
    subst hq
    intro hm
    have:=h1.2
    simp only[Se,Bool.not_eq_true',List.any_eq_false]at this
    exact this t hm (by simp)
   | _=>exact⟨rfl,fun q hq=>by cases hq⟩
  cases r with
  | nil =>
   have e1:=Kr st i z
   have e2:=Kr zL i z
   exact⟨e1.trans ((hi z).1.trans e2.symm),fun q hq=>(hi z).2 q (by rw[e1]at hq; exact hq)⟩
  | cons j r =>
   have e1:=XZ st i j r z
   have e2:=XZ zL i j r z
   have hr:FY (j::r) (qX b)=true:=by
    unfold FY at h ⊢
    rw[List.all_cons,Bool.and_eq_true]at h
    exact h.2
   obtain⟨k1,k2⟩:=ih z.2 hr
   obtain⟨g1,g2⟩:=hi z.1
   refine⟨by rw[e1,e2,g1,k1],fun q hq => ?_⟩
   rw[e1]at hq
   rcases List.mem_append.1 hq with hq | hq
   ·exact g2 q hq
   ·exact k2 q hq
theorem z2E(hm:(y9 P xid tab ro).P.follows .mixedOrders=true)(hT:eE P tab){l:zE}{b:Code}(hL:yw P n H b)(R:wS l.ps→l.sh.den→T (l.sh.den⊕yt l.ws))
  (round:∀ p s,RB (y9 P xid tab ro) tab n H l b p s=R p s) (hF:∀ p s,l.F p s=T.loop (R p) s):Qb P n l b:=by
 intro κ a p s r hr xN hI hR hRp CA hws Q hQ
 rw[hF,T.iG]at hr
 obtain⟨m,hm'⟩:=hr
 have zeb:=fun(st zL:St)=>(Ls (b:=b) (st:=st) (zL:=zL) l.ps p CA).1
 have z6c:∀ (st:St) (t:Nat) (d:D),(fY st l.ps p).get t=some d→t ∉ qX b:=fun st t d hd=>(Ls (b:=b) (st:=st) (zL:=st) l.ps p CA).2 _ (get_mem hd)
 refine wp_loop_ghost (fun m a' w'=>∃ s',T.Iter (R p) m s' r∧∃ κ':KS,κ'.w=w'∧κ'.st=l.sh.st s'∧Inv κ'∧Ext κ κ'∧Rel κ' n (l.sh.fr s').get a'∧Rel κ' n (fY (l.sh.st s) l.ps p).get a'∧Kept b a a') m
  ⟨s,hm',κ,rfl,xN,hI,Ext.refl κ,hR,hRp,fun _ _=>rfl⟩ ?_
 rintro m a1 w1 ⟨s1,hit,κ1,rfl,g4,g5,g6,g7a,g7b,g8⟩
 have g7:Rel κ1 n (l.sh.fr s1++fY (l.sh.st s1) l.ps p).get a1:=⟨g7a.size,g7a.defers,fun t d hd=>by
  rcases WR hd with hd | hd
  ·exact g7a.get t d hd
  ·rw[zeb _ (l.sh.st s)]at hd; exact g7b.get t d hd⟩
 cases hit with
 | done h1 =>
  rw[← round]at h1
  refine Kz hm hT b hL (κ:=κ1) (by rw[g4]; exact h1) g5 g7 (fS _) _ fun o pe a' κ' e0 e1 e2 e3 e4 e4' e5 _ e6 => ?_
  have fin:∀ exo,Dl κ' exo pe→(GG l.ws exo (Y6 exo o.fr) o.st).leads r→Q pe a' κ'.w:=fun exo e6 e0=>by
   obtain⟨w,k1,x,k2,k3,k4⟩:=Hj _ _ _ _ _ e0
   have hlen:κ1.st.length≤w.sh.bs.length:=by rw[g4]; exact Nat.le_trans (mm.UW _ _) (hws w k1)
   obtain⟨κ2,q1,q2,q3,q4,q5⟩:=Sq (n:=n) e3 e2 e4 e6 k3 hlen (by rw[e1]; exact k4)
   have:=hQ w x pe a' κ2 k1 k2 q2 q3 (g6.trans q4) q5 (fun t ht=>(e5 t ht).trans (g8 t ht))
   rw[q1]at this
   exact this
  have Lt:∀ {z:l.sh.den⊕yt l.ws},((GG l.ws o.ex (Y6 o.ex o.fr) o.st).bind fun r=>T.ret (Sum.inr r:l.sh.den⊕yt l.ws)).leads z→z=Sum.inr r→(GG l.ws o.ex (Y6 o.ex o.fr) o.st).leads r:=by
   intro z h hz
   obtain⟨y,h1,h2⟩:=T.zg.1 h
   have h2:(Sum.inr y:l.sh.den⊕yt l.ws)=z:=h2
   rw[hz]at h2
   cases h2
   exact h1
  cases hox:o.ex<;>rw[hox]at e0 e6 Lt<;>simp only at e0
  ·obtain⟨y,_,h2⟩:=T.zg.1 e0
   have h2:(Sum.inl y:l.sh.den⊕yt l.ws)=Sum.inr r:=h2
   cases h2
  ·have q:=fin _ e6 (Lt e0 rfl); cases e6; exact q
  ·have q:=fin _ e6 (Lt e0 rfl); cases e6; exact q
  ·have q:=fin _ e6 (Lt e0 rfl); obtain⟨v,rfl,hv⟩:=e6; exact q
 | step h1 hit =>
  rename_i m s2
  rw[← round]at h1
  refine Kz hm hT b hL (κ:=κ1) (by rw[g4]; exact h1) g5 g7 (fS _) _ fun o pe a' κ' e0 e1 e2 e3 e4 e4' e5 _ e6 => ?_
  have LH:((GG l.ws o.ex (Y6 o.ex o.fr) o.st).bind fun r=>T.ret (Sum.inr r:l.sh.den⊕yt l.ws)).leads (Sum.inl s2)→False:=by
   intro h
   obtain⟨y,h1,h2⟩:=T.zg.1 h
   have h2:(Sum.inr y:l.sh.den⊕yt l.ws)=Sum.inl s2:=h2
   cases h2
  cases hox:o.ex<;>rw[hox]at e0 e6 LH<;>simp only at e0
  ·cases e6
   obtain⟨y,h1,h2⟩:=T.zg.1 e0
   have h2:(Sum.inl y:l.sh.den⊕yt l.ws)=Sum.inl s2:=h2
   cases h2
   have hlen:κ1.st.length≤l.sh.bs.length:=by rw[g4]; exact mm.UW _ _
   obtain⟨κ2,q1,q2,q3,q4,q5,_⟩:=l.sh.Qm (n:=n) e3 e2 e4 hlen (by rw[e1]; exact h1)
   refine⟨m,Nat.lt_succ_self _,s2,hit,κ2,q1,q2,q3,g6.trans q4,q5,⟨q5.size,q5.defers,fun t d hd => ?_⟩,fun t ht=>(e5 t ht).trans (g8 t ht)⟩
   obtain⟨v,r1,r2⟩:=g7b.get t d hd
   exact⟨v,(e5 t (z6c _ t d hd)).trans r1,r2.mono q4⟩
  ·exact(LH e0).elim
  ·exact(LH e0).elim
  ·exact(LH e0).elim
end
section
variable {P:Program} {xid:Nat} {tab:fX} {ro:Nat→Bool} {n:Nat} {H:Hints}
theorem WS{κ:KS}(hI:Inv κ):∀ (rs:List Ty) (ds:List D) (x:UC rs) (vs:List Value),(Rs κ.st rs ds).leads x→xv κ ds vs→xv κ.all (Qd rs x) vs∧∀ d∈Qd rs x,Vz d=true
 | [],[],x,vs,h,hd=>by rw[hd.qG]; exact⟨.nil,fun d hd=>by cases hd⟩
 | [],_::_,x,vs,h,hd=>h.elim
 | [τ],[],x,vs,h,hd=>h.elim
 | [τ],[d],x,vs,h,hd=>by
  obtain⟨v,us,rfl,h1,h2⟩:=hd.cons_inv
  rw[h2.qG]
  refine⟨.cons (Xq hI h1 h) .nil,fun d hd => ?_⟩
  have hd:d∈[D.zW τ x]:=hd
  rw[List.mem_singleton]at hd
  subst hd; rfl
 | [τ],_::_::_,x,vs,h,hd=>h.elim
 | τ::σ::r,[],x,vs,h,hd=>h.elim
 | τ::σ::r,d::ds,x,vs,h,hd=>by
  obtain⟨y,h1,h2⟩:=T.zg.1 h
  obtain⟨z,h3,h4⟩:=T.zg.1 h2
  cases h4
  obtain⟨v,us,rfl,k1,k2⟩:=hd.cons_inv
  obtain⟨g1,g2⟩:=WS hI (σ::r) ds z us h3 k2
  refine⟨.cons (Xq hI k1 h1) g1,fun d hd => ?_⟩
  rcases List.mem_cons.1 hd with rfl | hd
  ·rfl
  ·exact g2 d hd
theorem zaK(hm:(y9 P xid tab ro).P.follows .mixedOrders=true)(hT:eE P tab){f:Nat}{fn:Func}{code:Code}(hf:P.funcs[f]? = some fn)(hb:fn.body=some code)
  (hn:(fn.name == "runtime.NumGoroutine")=false) (hL:yw P fn.ntmps H code) {d:Bb} (h:∀ x,PG (y9 P xid tab ro) tab H fn code d x=d.F x):zB P f d:=by
 intro κ x qi y xN hy hI ha
 rw[← h]at hy
 unfold PG at hy
 cases hle:Nat.ble (W5 d.ps x).length fn.ntmps with
 | false=>rw[hle]at hy; exact hy.elim
 | true =>
  rw[hle,cond_true]at hy
  have Yf:=Nat.le_of_ble_eq_true hle
  refine .inl ⟨jO hf hn (by rw[hb]; rfl) κ.w,calls_of_wp hf hb ?_⟩
  have hR:=XE ha Yf
  refine Kz hm hT code hL (κ:=κ) (by rw[xN]; exact hy) hI hR (fS _) _ fun o pe a' κe e0 e1 e2 e3 e4 _ _ _ e6 => ?_
  have fin:(pe=.normal∨pe=.ret)→((da (y9 P xid tab ro) o.fr o.st fn.results.toList).bind fun ds=>Rs o.st d.rs ds).leads y →
    bodyPost P fn (fun e w'=>∃ κ':KS,κ'.w=w'∧κ'.st=[]∧Inv κ'∧Ext κ κ'∧vt κ' (.ret (Qd d.rs y)) e) pe a' κe.w:=by
   intro hex h2
   obtain⟨ds,g1,g2⟩:=T.zg.1 h2
   rw[← e1]at g1 g2
   obtain⟨vs,k1,k2⟩:=oE e2 e4 g1
   obtain⟨q1,q2⟩:=Nu hI xN e2 e3
   obtain⟨hl,zeZ⟩:=WS e2 d.rs ds y vs g2 k2
   have LP:xv (κe.bare (Om κe)) (Qd d.rs y) vs:=⟨hl.1,fun i h1 h2=>o6 (zeZ _ (List.getElem_mem h1)) (hl.2 i h1 h2)⟩
   have V9:a'.defers=[]∧∃ v,(results fn a'.tmps).run P κe.w=.ok v κe.w∧∃ κ':KS,κ'.w=κe.w∧κ'.st=[]∧Inv κ'∧Ext κ κ'∧vt κ' (.ret (Qd d.rs y)) (.returned v) :=
    ⟨e4.defers,_,k1,κe.bare (Om κe),rfl,rfl,q1,q2,_,rfl,ZJ LP⟩
   rcases hex with rfl | rfl
   ·exact V9
   ·exact V9
  cases hox:o.ex<;>rw[hox]at e0 e6<;>simp only at e0
  ·exact fin (.inl e6) e0
  ·exact e0.elim
  ·exact fin (.inr e6) e0
  ·exact e0.elim
theorem mb{d:Bb}{f:Nat}(b:(uN d.ps→T (UC d.rs))→uN d.ps→T (UC d.rs))(hF:∀ x,d.F x=T.fix b x)(h:∀ F:uN d.ps→T (UC d.rs),zB P f ⟨d.ps,d.rs,F⟩→zB P f ⟨d.ps,d.rs,b F⟩):zB P f d:=by
 have hN:∀ m,zB P f ⟨d.ps,d.rs,T.N5 b m⟩:=by
  intro m
  induction m with
  | zero=>intro κ x qi y _ hy; exact hy.elim
  | succ m ih=>exact h _ ih
 intro κ x qi y xN hy hI ha
 rw[hF,T.Wb]at hy
 obtain⟨m,hm⟩:=hy
 exact hN m κ x qi y xN (hm m (Nat.le_refl _)) hI ha
theorem Wh{fr:Fr}:∀ {n i:Nat} {ds:List D},Ir fr n i=some ds→ds.length=n∧∀ j d,ds[j]? = some d→fr.get (i+j)=some d
 | 0,i,ds,h=>by cases h; exact⟨rfl,fun j d hj=>by simp at hj⟩
 | n+1,i,ds,h=>by
  simp only[Ir]at h
  split at h
  ·rename_i d hd
   split at h
   ·rename_i r hr
    cases h
    obtain⟨h1,h2⟩:=Wh hr
    refine⟨by simp[h1],fun j e hj => ?_⟩
    cases j with
    | zero=>simp at hj; subst hj; exact hd
    | succ j=>have:=h2 j e (by simpa using hj); rw[show i+(j+1)=i+1+j by omega]; exact this
   ·cases h
  ·cases h
theorem z5X(hm:(y9 P xid tab ro).P.follows .mixedOrders=true)(hT:eE P tab){f:Nat}{fn:Func}{code:Code}(hf:P.funcs[f]? = some fn)(hb:fn.body=some code)
  (hn:(fn.name == "runtime.NumGoroutine")=false) (hL:yw P fn.ntmps H code) {d:cI} (h:∀ x,EP (y9 P xid tab ro) tab H fn code d x=d.F x):vL P f d:=by
 intro κ x qi y xN hy hI hlen hR0
 rw[← h]at hy
 unfold EP at hy
 cases hle:Nat.ble d.ks.length fn.ntmps&&Nat.ble d.sh.bs.length d.out.bs.length with
 | false=>rw[hle]at hy; exact hy.elim
 | true =>
  rw[hle,cond_true]at hy
  simp only[Bool.and_eq_true]at hle
  have RZ:=Nat.le_of_ble_eq_true hle.1
  have z5G:=Nat.le_of_ble_eq_true hle.2
  refine .inl ⟨jO hf hn (by rw[hb]; rfl) κ.w,calls_of_wp hf hb ?_⟩
  have hR:Rel κ fn.ntmps (d.sh.fr x).get { tmps:=qi.toArray++Array.replicate (fn.ntmps-qi.toArray.size) undef,defers:=[] }:=by
   refine⟨by simp; omega,rfl,fun s e hs => ?_⟩
   obtain⟨v,h1,h2⟩:=hR0.get s e hs
   refine⟨v,?_,h2⟩
   have qp:=(Array.getElem?_eq_some_iff.1 h1).1
   rw[Array.getElem?_append_left qp]
   exact h1
  refine Kz hm hT code hL (κ:=κ) (by rw[xN]; exact hy) hI hR (fS _) _ fun o pe a' κe e0 e1 e2 e3 e4 _ _ _ e6 => ?_
  have fin:(pe=.normal∨pe=.ret)→((da (y9 P xid tab ro) o.fr o.st fn.results.toList).bind fun ds=>bif Nat.beq ds.length d.nr then(d.out.un (wG ds 0) o.st).bind fun y=>bif (dO d.nr (d.out.fr y)).isSome then T.ret y else .fail else .fail).leads y →
    bodyPost P fn (fun e w'=>∃ (κ':KS) (ds:List D),κ'.w=w'∧κ'.st=d.out.st y∧Inv κ'∧Ext κ κ'∧dO d.nr (d.out.fr y)=some ds∧vt κ' (.ret ds) e) pe a' κe.w:=by
   intro hex h2
   obtain⟨ds,g1,g2⟩:=T.zg.1 h2
   cases hnr:Nat.beq ds.length d.nr with
   | false=>rw[hnr]at g2; exact g2.elim
   | true =>
    rw[hnr,cond_true]at g2
    obtain⟨y',g5,g3⟩:=T.zg.1 g2
    cases mV:dO d.nr (d.out.fr y')with
    | none=>rw[mV]at g3; exact g3.elim
    | some Y8 =>
     rw[mV]at g3
     have hyy:y'=y:=g3
     subst hyy
     rw[← e1]at g1 g5
     obtain⟨vs,k1,k2⟩:=oE e2 e4 g1
     have hRr:Rel κe vs.length (wG ds 0).get { tmps:=vs.toArray,defers:=[] }:=by
      have:=XE (n:=vs.length) k2 (by rw[k2.1]; exact Nat.le_refl _)
      simpa[show(B9.df:List Deferred)=[]from rfl]using this
     obtain⟨κ2,q1,q2,q3,q4,q5,_⟩:=d.out.Qm (κ0:=κ) e3 e2 hRr (by rw[xN]; exact Nat.le_trans (mm.UW _ _) z5G) g5
     obtain⟨l1,l2⟩:=Wh mV
     have hds:xv κ2 Y8 vs:=by
      refine⟨by rw[l1,← k2.1]; exact(Nat.eq_of_beq_eq_true hnr).symm,fun i h1 h2 => ?_⟩
      have:=l2 i Y8[i] (List.getElem?_eq_getElem h1)
      rw[Nat.zero_add]at this
      obtain⟨v,r1,r2⟩:=q5.get i _ this
      have r1:vs.toArray[i]? = some v:=r1
      have:vs[i]? = some v:=by simpa using r1
      rw[List.getElem?_eq_getElem h2]at this
      cases this
      exact r2
     have V9:a'.defers=[]∧∃ v,(results fn a'.tmps).run P κe.w=.ok v κe.w∧∃ (κ':KS) (ds:List D),κ'.w=κe.w∧κ'.st=d.out.st y'∧Inv κ'∧Ext κ κ'∧dO d.nr (d.out.fr y')=some ds∧vt κ' (.ret ds) (.returned v) :=
      ⟨e4.defers,_,k1,κ2,Y8,q1,q2,q3,q4,mV,_,rfl,ZJ hds⟩
     rcases hex with rfl | rfl
     ·exact V9
     ·exact V9
  cases hox:o.ex<;>rw[hox]at e0 e6<;>simp only at e0
  ·exact fin (.inl e6) e0
  ·exact e0.elim
  ·exact fin (.inr e6) e0
  ·exact e0.elim
theorem IB{d:cI}{f:Nat}(b:(d.sh.den→T d.out.den)→d.sh.den→T d.out.den)(hF:∀ x,d.F x=T.fix b x)(h:∀ F:d.sh.den→T d.out.den,vL P f ⟨d.ks,d.sh,d.bg,d.out,d.nr,F⟩→vL P f ⟨d.ks,d.sh,d.bg,d.out,d.nr,b F⟩):vL P f d:=by
 have hN:∀ m,vL P f ⟨d.ks,d.sh,d.bg,d.out,d.nr,T.N5 b m⟩:=by
  intro m
  induction m with
  | zero=>intro κ x qi y _ hy; exact hy.elim
  | succ m ih=>exact h _ ih
 intro κ x qi y xN hy hI hl ha
 rw[hF,T.Wb]at hy
 obtain⟨m,hm⟩:=hy
 exact hN m κ x qi y xN (hm m (Nat.le_refl _)) hI hl ha
theorem z6o{κ κe:KS}{a':Act}{fn:Func}{o:Ef}{nr:Nat}{out:mm}{y:out.den}(e1:κe.st=o.st)(e2:Inv κe)(e3:Ext κ κe)(e4:Rel κe fn.ntmps o.fr.get a')(hlen:κ.st.length≤out.bs.length)
  (h:((da (y9 P xid tab ro) o.fr o.st fn.results.toList).bind fun ds=>bif Nat.beq ds.length nr then(out.un (wG ds 0) o.st).bind fun y=>bif (dO nr (out.fr y)).isSome then T.ret y else .fail else .fail).leads y) :
  ∃ v,(results fn a'.tmps).run P κe.w=.ok v κe.w∧∃ (κ':KS) (ds:List D),κ'.w=κe.w∧κ'.st=out.st y∧Inv κ'∧Ext κ κ'∧dO nr (out.fr y)=some ds∧vt κ' (.ret ds) (.returned v):=by
 obtain⟨ds,g1,g2⟩:=T.zg.1 h
 cases hnr:Nat.beq ds.length nr with
 | false=>rw[hnr]at g2; exact g2.elim
 | true =>
  rw[hnr,cond_true]at g2
  obtain⟨y',g5,g3⟩:=T.zg.1 g2
  cases mV:dO nr (out.fr y')with
  | none=>rw[mV]at g3; exact g3.elim
  | some Y8 =>
   rw[mV]at g3
   have hyy:y'=y:=g3
   subst hyy
   rw[← e1]at g1 g5
   obtain⟨vs,k1,k2⟩:=oE e2 e4 g1
   have hRr:Rel κe vs.length (wG ds 0).get { tmps:=vs.toArray,defers:=[] }:=by
    have:=XE (n:=vs.length) k2 (by rw[k2.1]; exact Nat.le_refl _)
    simpa[show(B9.df:List Deferred)=[]from rfl]using this
   obtain⟨κ2,q1,q2,q3,q4,q5,_⟩:=out.Qm (κ0:=κ) e3 e2 hRr hlen g5
   obtain⟨l1,l2⟩:=Wh mV
   have hds:xv κ2 Y8 vs:=by
    refine⟨by rw[l1,← k2.1]; exact(Nat.eq_of_beq_eq_true hnr).symm,fun i h1 h2 => ?_⟩
    have:=l2 i Y8[i] (List.getElem?_eq_getElem h1)
    rw[Nat.zero_add]at this
    obtain⟨v,r1,r2⟩:=q5.get i _ this
    have r1:vs.toArray[i]? = some v:=r1
    have:vs[i]? = some v:=by simpa using r1
    rw[List.getElem?_eq_getElem h2]at this
    cases this
    exact r2
   exact⟨_,k1,κ2,Y8,q1,q2,q3,q4,mV,_,rfl,ZJ hds⟩
theorem z56{κ κe:KS}{bU:mm}{z:bU.den}{st:St}{t:Nat}{d:D}{u:Value}(e1:κe.st=st)(e2:Inv κe)(e3:Ext κ κe)(hlen:κ.st.length≤bU.bs.length)(hu:RD κe d u)
  (h:((bU.un [(0,some d)] st).bind fun z=>match(bU.fr z).get 0 with | some _=>T.ret z | none=>.fail).leads z) :
  ∃ (κ':KS) (p:D),κ'.w=κe.w∧κ'.st=bU.st z∧Inv κ'∧Ext κ κ'∧(bU.fr z).get 0=some p∧vt κ' (.bU (.iface t p)) (.panicked [{ v:=.iface t u,recovered:=false }]):=by
 obtain⟨z',g1,g2⟩:=T.zg.1 h
 split at g2
 ·rename_i p hp
  have hzz:z'=z:=g2
  subst hzz
  have B6:Rel κe 1 (Fr.get [(0,some d)]) { tmps := #[u],defers:=[] }:=by
   refine⟨rfl,rfl,fun s d' hd => ?_⟩
   simp only[Fr.get]at hd
   cases hb:Nat.beq 0 s with
   | true =>
    rw[hb,cond_true]at hd
    cases hd
    have:=Nat.eq_of_beq_eq_true hb
    subst this
    exact⟨u,rfl,hu⟩
   | false=>rw[hb,cond_false]at hd; cases hd
  rw[← e1]at g1
  obtain⟨κ2,q1,q2,q3,q4,q5,_⟩:=bU.Qm (κ0:=κ) e3 e2 B6 hlen g1
  obtain⟨v',r1,r2⟩:=q5.get 0 p hp
  cases r1
  exact⟨κ2,p,q1,q2,q3,q4,hp,_,rfl,.iface t p _ r2⟩
 ·exact g2.elim
theorem z6O(hm:(y9 P xid tab ro).P.follows .mixedOrders=true)(hT:eE P tab){f:Nat}{fn:Func}{code:Code}(hf:P.funcs[f]? = some fn)(hb:fn.body=some code)
  (hn:(fn.name == "runtime.NumGoroutine")=false) (hL:yw P fn.ntmps H code) {d:me} (h:∀ x,FK (y9 P xid tab ro) tab H fn code d x=d.F x):Ge P f d:=by
 intro κ x qi y xN hy hI hlen hR0
 rw[← h]at hy
 unfold FK at hy
 cases hle:Nat.ble d.ks.length fn.ntmps&&Nat.ble d.sh.bs.length d.out.bs.length&&Nat.ble d.sh.bs.length d.bU.bs.length with
 | false=>rw[hle]at hy; exact hy.elim
 | true =>
  rw[hle,cond_true]at hy
  simp only[Bool.and_eq_true]at hle
  have RZ:=Nat.le_of_ble_eq_true hle.1.1
  have z5G:=Nat.le_of_ble_eq_true hle.1.2
  have zdS:=Nat.le_of_ble_eq_true hle.2
  refine .inl ⟨jO hf hn (by rw[hb]; rfl) κ.w,calls_of_wp hf hb ?_⟩
  have hR:Rel κ fn.ntmps (d.sh.fr x).get { tmps:=qi.toArray++Array.replicate (fn.ntmps-qi.toArray.size) undef,defers:=[] }:=by
   refine⟨by simp; omega,rfl,fun s e hs => ?_⟩
   obtain⟨v,h1,h2⟩:=hR0.get s e hs
   refine⟨v,?_,h2⟩
   have qp:=(Array.getElem?_eq_some_iff.1 h1).1
   rw[Array.getElem?_append_left qp]
   exact h1
  refine Kz hm hT code hL (κ:=κ) (by rw[xN]; exact hy) hI hR (fS _) _ fun o pe a' κe e0 e1 e2 e3 e4 _ _ _ e6 => ?_
  have fin:(pe=.normal∨pe=.ret)→((da (y9 P xid tab ro) o.fr o.st fn.results.toList).bind fun ds=>bif Nat.beq ds.length d.nr then(d.out.un (wG ds 0) o.st).bind fun y=>bif (dO d.nr (d.out.fr y)).isSome then T.ret (Sum.inl y:d.out.den⊕d.bU.den)else .fail else .fail).leads y →
    bodyPost P fn (fun e w'=>∃ κ':KS,κ'.w=w'∧Inv κ'∧Ext κ κ'∧((∃ (y':d.out.den) (ds:List D),y=.inl y'∧κ'.st=d.out.st y'∧dO d.nr (d.out.fr y')=some ds∧vt κ' (.ret ds) e) ∨
     ∃ (z:d.bU.den) (p:D),y=.inr z∧κ'.st=d.bU.st z∧(d.bU.fr z).get 0=some p∧vt κ' (.bU (.iface d.pt p)) e)) pe a' κe.w:=by
   intro hex h2
   have:∃ y',y=.inl y'∧((da (y9 P xid tab ro) o.fr o.st fn.results.toList).bind fun ds=>bif Nat.beq ds.length d.nr then(d.out.un (wG ds 0) o.st).bind fun y=>bif (dO d.nr (d.out.fr y)).isSome then T.ret y else .fail else .fail).leads y':=by
    obtain⟨ds,g1,g2⟩:=T.zg.1 h2
    cases hnr:Nat.beq ds.length d.nr with
    | false=>rw[hnr]at g2; exact g2.elim
    | true =>
     rw[hnr,cond_true]at g2
     obtain⟨y',g5,g3⟩:=T.zg.1 g2
     cases mV:dO d.nr (d.out.fr y')with
     | none=>rw[mV]at g3; exact g3.elim
     | some Y8 =>
      rw[mV]at g3
      have g3:Sum.inl y'=y:=g3
      refine⟨y',g3.symm,T.zg.2 ⟨ds,g1,?_⟩⟩
      rw[hnr,cond_true]
      refine T.zg.2 ⟨y',g5,?_⟩
      rw[mV]; rfl
   obtain⟨y',rfl,hy2⟩:=this
   obtain⟨v,k1,κ',ds,q1,q2,q3,q4,q5,q6⟩:=z6o e1 e2 e3 e4 (by rw[xN]; exact Nat.le_trans (mm.UW _ _) z5G) hy2
   have V9:a'.defers=[]∧∃ v,(results fn a'.tmps).run P κe.w=.ok v κe.w∧∃ κ':KS,κ'.w=κe.w∧Inv κ'∧Ext κ κ'∧((∃ (y'':d.out.den) (ds:List D),(Sum.inl y':d.out.den⊕d.bU.den)=.inl y''∧κ'.st=d.out.st y''∧dO d.nr (d.out.fr y'')=some ds∧vt κ' (.ret ds) (.returned v)) ∨
     ∃ (z:d.bU.den) (p:D),(Sum.inl y':d.out.den⊕d.bU.den)=.inr z∧κ'.st=d.bU.st z∧(d.bU.fr z).get 0=some p∧vt κ' (.bU (.iface d.pt p)) (.returned v)) :=
    ⟨e4.defers,v,k1,κ',q1,q3,q4,.inl ⟨y',ds,rfl,q2,q5,q6⟩⟩
   rcases hex with rfl | rfl
   ·exact V9
   ·exact V9
  cases hox:o.ex<;>rw[hox]at e0 e6<;>simp only at e0
  ·exact fin (.inl e6) e0
  ·exact e0.elim
  ·exact fin (.inr e6) e0
  ·rename_i p
   cases p<;>simp only at e0<;>first | exact e0.elim | skip
   rename_i t v
   cases ht:Nat.beq t d.pt with
   | false=>rw[ht]at e0; exact e0.elim
   | true =>
    rw[ht,cond_true]at e0
    have:=Nat.eq_of_beq_eq_true ht
    subst this
    obtain⟨u,rfl,hv⟩:=e6
    cases hv with
    | iface _ _ u hu =>
     have:∃ z,y=.inr z∧((d.bU.un [(0,some v)] o.st).bind fun z=>match(d.bU.fr z).get 0 with | some _=>T.ret z | none=>.fail).leads z:=by
      obtain⟨z,g1,g2⟩:=T.zg.1 e0
      split at g2
      ·rename_i p hp
       have g2:Sum.inr z=y:=g2
       refine⟨z,g2.symm,T.zg.2 ⟨z,g1,?_⟩⟩
       rw[hp]; rfl
      ·exact g2.elim
     obtain⟨z,rfl,hz2⟩:=this
     obtain⟨κ',p,q1,q2,q3,q4,q5,q6⟩:=z56 (t:=d.pt) e1 e2 e3 (by rw[xN]; exact Nat.le_trans (mm.UW _ _) zdS) hu hz2
     exact⟨e4.defers,κ',q1,q3,q4,.inr ⟨z,p,rfl,q2,q5,q6⟩⟩
end
noncomputable def ZN:Nat→Code→Option Code
 | k,.block id (.loop b)=>if k=id then some b else ZN k b
 | k,.seq a b=>match ZN k a with | some x=>some x | none=>ZN k b
 | k,.cond _ a b=>match ZN k a with | some x=>some x | none=>ZN k b
 | k,.block _ a=>ZN k a
 | _,_=>none
def GH(P:Program)(n:Nat)(H:Hints):List (Nat×Code)→Prop
 | []=>True
 | p::r=>(∀ l,H.loop p.1=some l→Qb P n l p.2)∧GH P n H r
theorem zl{P:Program}{n:Nat}{H:Hints}:GH P n H []:=trivial
theorem zK{P:Program}{n:Nat}{H:Hints}{id:Nat}{b:Code}{r:List (Nat×Code)}{l:zE}(hl:H.loop id=some l)(h:Qb P n l b)(t:GH P n H r):GH P n H ((id,b)::r) :=
 ⟨fun l' LP=>(Option.some.inj (hl.symm.trans LP))▸h,t⟩
theorem QT{P:Program}{n:Nat}{H:Hints}{code:Code}{L:List (Nat×Code)}(h:vH code=L)(ha:GH P n H L):yw P n H code:=by
 intro p hp
 rw[h]at hp
 clear h
 induction L with
 | nil=>cases hp
 | cons q r ih =>
  rcases List.mem_cons.1 hp with rfl | hp
  ·exact ha.1
  ·exact ih ha.2 hp
end Go.AM
namespace Go.AM
set_option linter.unusedSectionVars false
variable [uz]
open Go.RowKit Go.ChangeShapes
def Bl:(τs:List Ty)→Y5 τs→uN (τs.map .ty)
 | [],_=>()
 | [_],x=>x.1
 | _::σ::r,x=>(x.1,Bl (σ::r) x.2)
theorem Yt:∀ (τs:List Ty) (x:Y5 τs),W5 (τs.map .ty) (Bl τs x)=mkD τs x
 | [],_=>rfl
 | [_],_=>rfl
 | τ::σ::r,x=>congrArg (D.zW τ x.1 :: ·) (Yt (σ::r) x.2)
section
variable {H:Type} {enc:TypeId×Value→H} {P:Program} {xid m n:Nat}
theorem z7l{f:Nat}{fn:Func}(τs:List Ty){F:uN (τs.map .ty)→T (UC [.bool])}(hS:zB P f ⟨τs.map .ty,[.bool],F⟩)(hf:P.funcs[f]? = some fn)(hbd:fn.body.isNone=false) (Lm:(fn.name == "runtime.NumGoroutine")=false)
  (hl:laidOutB P=true) (xid m n:Nat) (hts:QC P fn.params.toList=true) (hτ:fn.params.toList.map (B5 P xid n)=τs.map some) (hx:Fc P xid m=true)
  {bt:TypeId} (hr:fn.resultTypes = #[bt]) (hbt:P.underlying bt=some .bool) {s:ChangeSpec} (hv:s.vars=[]) (hs:∀ ds:List (DataW H),ds.length=τs.length→s.fn H ds={ results:=[.lit (.bool true)],args:=ds })
  (B:O5 H) {lim:Nat} (law:∀ x:Y5 τs,wfL τs x→bkL τs x≤lim→(F (Bl τs x)).run=some true)
  {fresh handsOn:Bool} {W:World} {base:Nat} {args:Array Value} {ds gs:List (DataW H)} {before:List MemPlace}
  (Y9:∀ (j:Nat) t v,fn.params[j]? = some t→args[j]? = some v→Value.okWide P W .any base t v)
  (hW:DataW.Whole enc P fn.params.toList s.vars false W args.toList ds gs before) (hk:B.bs (ds++gs)≤lim) (hG:ZV W fun k=>k<W.heap.size) :
  Calls P f args W fun e W'=>∃ v,e=.returned v∧s.post enc P fn false fresh handsOn false W args v W':=by
 refine O7 (Bb.snd hS) hf hbd Lm hl xid m n τs hts hτ hx hr hbt hv hs B (fun x hw hb => ?_) Y9 hW hk hG
 have h:=T.vX.1 (law x hw hb)
 show(Bb.S _ (mkD τs x) []).leads _
 rw[← Yt τs x]
 exact T.zg.2 ⟨Bl τs x,Hk [] _ _,T.zg.2 ⟨true,h,rfl⟩⟩
end
end Go.AM
namespace Go.AM
set_option linter.unusedSectionVars false
variable [uz]
open Go.RowKit
theorem VW{P:Program}{g:Nat}{fn:Func}{args:Array Value}(hf:P.funcs[g]? = some fn) (hn:(fn.name == "runtime.NumGoroutine")=false) (hb:fn.body.isNone=false) (w:World) :
  (callFunc g args).run P w=.ok (.enter g args) w:=jO hf hn hb w
def KS.grown(κ:KS)(w':World):KS:={ κ with w:=w',ok:=fun k=>κ.ok k∨(κ.w.heap.size≤k∧k<w'.heap.size) }
theorem lj{P:Program}{g:Nat}{fn:Func}{d:Bb}(hf:P.funcs[g]? = some fn) (hn:(fn.name == "runtime.NumGoroutine")=false) (hb:fn.body.isNone=false)
  (H:∀ (κ:KS) (x:uN d.ps) (qi:List Value) (y:UC d.rs),(d.F x).leads y→Inv κ→xv κ (W5 d.ps x) qi →
   Calls P g qi.toArray κ.w fun e w'=>Below κ.w.heap.size κ.w w'∧(Ext κ (κ.grown w')→vt (κ.grown w') (.ret (Qd d.rs y)) e)):zB P g d:=by
 intro κ x qi y xN hy hI ha
 refine .inl ⟨VW hf hn hb κ.w,(H κ x qi y hy hI ha).mono ?_⟩
 rintro e w' ⟨hB,he⟩
 have V8:κ.ph=[]:=List.eq_nil_of_length_eq_zero (by rw[hI.len,xN]; rfl)
 have hx:Ext κ (κ.grown w'):=⟨hB.os,hB.tape,hB.output,hB.size,fun k hk=>⟨.inl hk,hB.block k (hI.y5 k hk)⟩,fun k hk=>hk.elim .inl fun h=>.inr (.inl h.1),fun _ _ _ h=>.inl h,fun b d h=>by rw[xN]at h; simp at h,
   fun b v0 e xs h=>by rw[xN]at h; simp at h,fun b h=>by rw[xN]at h; simp at h,Nat.le_refl _,fun k hk _=>hB.block k hk⟩
 refine⟨κ.grown w',rfl,xN,⟨hI.len,fun k hk=>hk.elim (fun h=>Nat.lt_of_lt_of_le (hI.y5 k h) hB.size) (·.2),fun b blk n hb => ?_,hI.inj,fun b x hb => ?_,hI.gl.mono hx.same⟩,hx,he hx⟩
 ·have:κ.ph[b]? = some (some (blk,n)):=hb
  rw[V8]at this; simp at this
 ·have:κ.st[b]? = some x:=hb
  rw[xN]at this; simp at this
theorem I6(u:Nat):Lib.decDigits u=KB u:=by
 induction u using Nat.strongRecOn with
 | _ u ih =>
  rw[Lib.decDigits,KB]
  split
  ·rfl
  ·rw[ih _ (by omega)]
theorem T9(n:Int):Lib.itoa n=pC n:=by
 unfold Lib.itoa pC
 rw[I6,I6]
theorem DN(w:World)(k:Nat)(os:Array Obj):RowKit.Below w.heap.size w (Go.Sort.grow (w.drewN k) os):=by
 refine⟨rfl,rfl,rfl,?_,fun b hb => ?_⟩
 ·simp[Go.Sort.grow,World.drewN]
 ·show(w.heap++os)[b]? = w.heap[b]?
  rw[Array.getElem?_append_left hb]
theorem RD.zaq{κ:KS}{a b:D}{u v:Value}(h:RD κ a u)(k:RD κ b v):RD κ (.gB [a,b]) (.tuple #[u,v]):=by
 have:=xv.cons h (xv.cons k xv.nil)
 exact .gB [a,b] [u,v] this.1 this.2
theorem Ma(l:List UInt8):∀ c,Lib.repeatL l c=jL l c
 | 0=>rfl
 | c+1=>by simp[Lib.repeatL,jL,Ma l c]
end Go.AM
namespace Go.AM
set_option linter.unusedSectionVars false
variable [uz]
open Go.RowKit
theorem CO{w:World}{blk:Nat}{cs:Array Value}{t:TypeId}{fz:Nat×Nat}{v:Value}(h:w.heap[blk]? = some (.cells cs t fz)):w.setCell ⟨blk,0,none⟩ v=w.setRow blk (cs.setIfInBounds 0 v):=by
 unfold World.setCell World.setRow
 congr 1
 apply Array.ext_getElem?
 intro i
 rw[Array.getElem?_modify,Array.getElem?_modify]
 split
 ·rename_i e
  subst e
  rw[h]
  rfl
 ·rfl
def Fx(t:Nat):List It:=[.v (.st [.op 0 t,.row 1 (.int .u8)]),.a (.int .u8)]
def PT(t:Nat):List Bk:=[.var (.st [.op 0 t,.row 1 (.int .u8)]),.arr (.int .u8)]
def ccD(t:Nat):cI:=⟨[.ptr],⟨Fx t,[(0,.ptr 0 0)],PT t⟩,[],⟨Fx t,[],PT t⟩,0,fun x=>.ret x⟩
theorem HM{P:Program}{g t:Nat}(KC:∀ args w,(callFunc g args).run P w=.ok (.enter g args) w)
  (zbD:∀ (b:Nat) (w:World),w.cell? ⟨b,0,none⟩=some (.pointer (some ⟨b,0,none⟩))→Calls P g #[.pointer (some ⟨b,0,none⟩)] w fun e w'=>e=.returned (.tuple #[])∧w'=w)
  (z6l:∀ (b:Nat) (w:World),w.cell? ⟨b,0,none⟩=some (.pointer none)→w.shape? b=some (t,2)→w.frozen? ⟨b,0,none⟩=false →
   Calls P g #[.pointer (some ⟨b,0,none⟩)] w fun e w'=>e=.returned (.tuple #[])∧w'=w.setCell ⟨b,0,none⟩ (.pointer (some ⟨b,0,none⟩))):vL P g (ccD t):=by
 intro κ x qi y xN hy hI hlen hR
 cases hy
 have h0:κ.st[0]? = some (.var (.agg [.yf 0 t,.ms 1 (List.length x.2) (.int .u8) 0 (List.length x.2)])):=by rw[xN]; rfl
 obtain⟨blk,n,cs,t',p1,p2,p3,p4,p5⟩:=hI.blk 0 _ h0
 obtain rfl:t'=t:=p5.2 t rfl
 obtain⟨v0,hv0,Fg⟩:=hR.get 0 (.ptr 0 0) rfl
 have hv:v0=.pointer (some ⟨blk,0,none⟩):=by
  cases Fg with
  | ptr _ _ lZ n' d hd hp=>rw[p1]at hp; cases hp; rfl
 have eA:qi.toArray = #[.pointer (some ⟨blk,0,none⟩)]:=by
  match qi,hlen with
  | [a],_ =>
   simp only[List.getElem?_toArray,List.getElem?_cons_zero,Option.some.injEq]at hv0
   rw[hv0,hv]
 obtain⟨pv,us,Kh,g1,g2⟩:=xv.cons_inv p4
 obtain⟨bv,us',hus,g3,g4⟩:=xv.cons_inv g2
 have:=g4.qG
 subst this
 subst hus
 have KU:cs = #[pv,bv]:=by rw[← Array.toArray_toList (xs:=cs),Kh]
 subst KU
 have UR:∀ κ':KS,vt κ' (.ret []) (.returned (.tuple #[])):=fun κ'=>⟨.tuple #[],rfl,.gB [] [] rfl (fun i h=>absurd h (Nat.not_lt_zero i))⟩
 refine .inl ⟨KC _ _,?_⟩
 rw[eA]
 have used:pv=.pointer (some ⟨blk,0,none⟩)→Calls P g #[.pointer (some ⟨blk,0,none⟩)] κ.w fun e w'=>∃ (κ':KS) (ds:List D),κ'.w=w'∧κ'.st=(ccD t').out.st x∧Inv κ'∧Ext κ κ'∧dO 0 ((ccD t').out.fr x)=some ds∧vt κ' (.ret ds) e:=by
  intro hpv
  refine(zbD blk κ.w (by rw[Lib.cell_of_heap p2,hpv]; rfl)).mono ?_
  rintro e w' ⟨rfl,rfl⟩
  exact⟨κ,[],rfl,xN,hI,Ext.refl κ,rfl,UR κ⟩
 cases g1 with
 | cY _ _ lZ n' d hd hp=>rw[p1]at hp; cases hp; exact used rfl
 | dv _ _ d hd =>
  refine(z6l blk κ.w (by rw[Lib.cell_of_heap p2]; rfl) (by simp[World.shape?,p2]) (by simp[World.frozen?,p2])).mono ?_
  rintro e w' ⟨rfl,rfl⟩
  rw[CO p2]
  have hex:=nV (cs := #[.pointer (some ⟨blk,0,none⟩),bv]) (x:=.var (.agg [.yf 0 t',.ms 1 (List.length x.2) (.int .u8) 0 (List.length x.2)])) hI p1 h0 trivial
  refine⟨κ.B3 0 blk #[.pointer (some ⟨blk,0,none⟩),bv] (.var (.agg [.yf 0 t',.ms 1 (List.length x.2) (.int .u8) 0 (List.length x.2)])),[],rfl,?_,QF hI p1 h0 trivial ?_,hex,rfl,UR _⟩
  ·show κ.st.set 0 _=_
   rw[JF h0]; exact xN
  ·refine⟨blk,n,_,t',p1,setRow_heap _ _ _ _ _ _ p2,p3,?_,p5⟩
   refine .cons (.cY 0 t' blk n _ (by show(κ.st.set 0 _)[0]? = _; rw[JF h0]; exact h0) p1) (.cons (g3.mono hex) .nil)
def Pq(t:Nat):cI:=⟨[.ptr],⟨Fx t,[(0,.ptr 0 0)],PT t⟩,[],⟨[.s 0 (.zW .str),.v (.st [.op 0 t,.un])],[],[.var (.st [.op 0 t,.un]),.dead]⟩,1,
 fun x=>z0R x.2⟩
theorem SS{κ:KS}{w':World}{t:Nat}{xs:List Int}(xN:κ.st=[.var (.agg [.yf 0 t,.ms 1 xs.length (.int .u8) 0 xs.length]),.arr xs.length (.int .u8) xs])(hI:Inv κ)
  (h1:w'.os=κ.w.os) (h2:w'.tape=κ.w.tape) (h3:w'.output=κ.w.output) (h4:κ.w.heap.size≤w'.heap.size)
  (h5:∀ k,k<κ.w.heap.size→(∀ n:Nat,κ.ph[1]? ≠ some (some (k,n)))→w'.heap[k]? = κ.w.heap[k]?) :
  ∃ κ':KS,κ'.w=w'∧κ'.st=[.var (.agg [.yf 0 t,.Zh]),.dead]∧Inv κ'∧Ext κ κ':=by
 have b0:κ.st[0]? = some (.var (.agg [.yf 0 t,.ms 1 xs.length (.int .u8) 0 xs.length])):=by rw[xN]; rfl
 have b1:κ.st[1]? = some (.arr xs.length (.int .u8) xs):=by rw[xN]; rfl
 have hlen:κ.st.length=2:=by rw[xN]; rfl
 let κ':KS:={ κ with w:=w',st:=[.var (.agg [.yf 0 t,.Zh]),.dead] }
 have hk:∀ k,κ.ok k→w'.heap[k]? = κ.w.heap[k]? := fun k hk=>h5 k (hI.y5 k hk) fun n h=>(hI.apart 1 k n h).2 hk
 have V7:Eb κ.w w' κ.ok κ.ok:=fun k h=>⟨h,hk k h⟩
 have hx:Ext κ κ':=by
  refine⟨h1,h2,h3,h4,V7,fun k h=>.inl h,fun _ _ _ h=>.inl h,fun b d h=>⟨?_,rfl⟩,fun b v0 e oW h=>.inl ?_,fun b h => ?_,by show κ.st.length≤2; omega,fun k hk hn=>h5 k hk (hn 1)⟩
  ·rw[xN]at h
   match b,h with
   | 0,h=>exact⟨_,rfl⟩
   | 1,h=>cases h
   | b+2,h=>simp at h
  ·rw[xN]at h
   match b,h with
   | 0,h=>cases h
   | 1,h=>rfl
   | b+2,h=>simp at h
  ·rw[xN]at h
   match b,h with
   | 0,h=>cases h
   | 1,h=>cases h
   | b+2,h=>simp at h
 refine⟨κ',rfl,rfl,⟨by show κ.ph.length=2; rw[hI.len,hlen],fun k h=>Nat.lt_of_lt_of_le (hI.y5 k h) h4,fun b blk n h=>⟨Nat.lt_of_lt_of_le (hI.apart b blk n h).1 h4,(hI.apart b blk n h).2⟩,hI.inj,fun b y hb => ?_,hI.gl.mono V7⟩,hx⟩
 match b,hb with
 | 0,hb =>
  cases hb
  obtain⟨blk,n,cs,t',p1,p2,p3,p4,p5⟩:=hI.blk 0 _ b0
  have uj:∀ m:Nat,κ.ph[1]? ≠ some (some (blk,m)):=fun m h=>by
   have:=hI.inj 0 1 blk n m p1 h
   omega
  refine⟨blk,n,cs,t',p1,(h5 blk (hI.apart 0 blk n p1).1 uj).trans p2,p3,?_,?_,fun T hT=>p5.2 T hT⟩
  ·obtain⟨pv,us,Kh,g1,g2⟩:=xv.cons_inv p4
   obtain⟨bv,us',hus,g3,g4⟩:=xv.cons_inv g2
   have:=g4.qG
   subst this
   subst hus
   rw[Kh]
   refine .cons (g1.mono hx) (.cons (.Zh bv (g3.Ur rfl)) .nil)
  ·intro x E5
   simp only[qq,List.mem_cons,List.not_mem_nil,or_false]at E5
   rcases E5 with rfl | rfl<;>rfl
 | 1,hb=>cases hb; trivial
 | b+2,hb=>simp[κ']at hb
theorem MM{n:Int}(h0:0≤n)(h1:n<256):(((byteOf n).toNat:Nat):Int)=n:=by
 unfold byteOf
 have:(UInt8.ofNat n.toNat).toNat=n.toNat:=by
  rw[UInt8.toNat_ofNat']
  omega
 rw[this]; omega
theorem FD{P:Program}{g t:Nat}(KC:∀ args w,(callFunc g args).run P w=.ok (.enter g args) w)
  (Xy:∀ (b:Nat) (p:Value) (w:World),w.heap[b]? = some (.cells #[p,.slice none 0 0] t (0,0))→Calls P g #[.pointer (some ⟨b,0,none⟩)] w fun e w'=>e=.returned (.string ⟨#[]⟩)∧w'=w.drew)
  (oV:∀ (b g' o cap:Nat) (p:Value) (w:World),cap≠0→w.heap[b]? = some (.cells #[p,.slice (some ⟨g',o,none⟩) 0 cap] t (0,0))→Calls P g #[.pointer (some ⟨b,0,none⟩)] w fun e w'=>e=.returned (.string ⟨#[]⟩)∧w'=w.drew)
  (OO:∀ (b g' cap:Nat) (p:Value) (cur:Array Value) (l:List UInt8) (w:World),l≠[]→l.length≤cap→l.length≤140737488355328→w.heap[b]? = some (.cells #[p,.slice (some ⟨g',0,none⟩) l.length cap] t (0,0)) →
   w.heap[g']? = some (.cells cur tN.u8 (0,0))→l.length≤cur.size→(∀ j x,l[j]? = some x→w.cell? ⟨g',j,none⟩=some (.int .u8 x.toNat)) →
   Calls P g #[.pointer (some ⟨b,0,none⟩)] w fun e w'=>e=.returned (.string ⟨l.toArray⟩)∧w'=w.drew.freeze ⟨g',0,none⟩ l.length)
  (HS:∀ (b g' o:Nat) (p:Value) (cur:Array Value) (w:World),w.heap[b]? = some (.cells #[p,.slice (some ⟨g',o,none⟩) 0 0] t (0,0))→w.heap[g']? = some (.cells cur tN.u8 (0,0)) →
   Calls P g #[.pointer (some ⟨b,0,none⟩)] w fun e w'=>e=.returned (.string ⟨#[]⟩)∧w'=w.drew.alloc (.view ⟨g',o,none⟩ tN.u8)) 
  {κ:KS} {qi:List Value} {xs:List Int} (z6i:κ.st=[.var (.agg [.yf 0 t,.ms 1 xs.length (.int .u8) 0 xs.length]),.arr xs.length (.int .u8) xs])
  (DF:∀ n∈xs,(0:Int)≤n∧n<256) (PQ:xs.length≤140737488355328) (hI:Inv κ) (hlen:qi.length=1) (hd:∃ v,qi.toArray[0]? = some v∧RD κ (.ptr 0 0) v) :
  uE P g qi.toArray κ.w fun e w'=>∃ (κ':KS) (ds:List D),κ'.w=w'∧κ'.st=(Pq t).out.st (qO xs,())∧Inv κ'∧Ext κ κ'∧dO 1 ((Pq t).out.fr (qO xs,()))=some ds∧vt κ' (.ret ds) e:=by
 have h0:κ.st[0]? = some (.var (.agg [.yf 0 t,.ms 1 (xs.length) (.int .u8) 0 (xs.length)])):=by rw[z6i]; rfl
 have h1:κ.st[1]? = some (.arr (xs.length) (.int .u8) xs):=by rw[z6i]; rfl
 obtain⟨blk,n,cs,t',p1,p2,p3,p4,p5⟩:=hI.blk 0 _ h0
 obtain rfl:t'=t:=p5.2 t rfl
 obtain⟨v0,hv0,Fg⟩:=hd
 have hv:v0=.pointer (some ⟨blk,0,none⟩):=by
  cases Fg with
  | ptr _ _ lZ n' d hd hp=>rw[p1]at hp; cases hp; rfl
 have eA:qi.toArray = #[.pointer (some ⟨blk,0,none⟩)]:=by
  match qi,hlen with
  | [a],_ =>
   simp only[List.getElem?_toArray,List.getElem?_cons_zero,Option.some.injEq]at hv0
   rw[hv0,hv]
 obtain⟨pv,us,Kh,g1,g2⟩:=xv.cons_inv p4
 obtain⟨bv,us',hus,g3,g4⟩:=xv.cons_inv g2
 have:=g4.qG
 subst this
 subst hus
 have KU:cs = #[pv,bv]:=by rw[← Array.toArray_toList (xs:=cs),Kh]
 subst KU
 refine .inl ⟨KC _ _,?_⟩
 rw[eA]
 have fin:∀ (w':World) (s:zf),s=qO xs→w'.os=κ.w.os→w'.tape=κ.w.tape→w'.output=κ.w.output→κ.w.heap.size≤w'.heap.size →
   (∀ k,k<κ.w.heap.size→(∀ n:Nat,κ.ph[1]? ≠ some (some (k,n)))→w'.heap[k]? = κ.w.heap[k]?) →
   ∃ (κ':KS) (ds:List D),κ'.w=w'∧κ'.st=(Pq t').out.st (qO xs,())∧Inv κ'∧Ext κ κ'∧dO 1 ((Pq t').out.fr (qO xs,()))=some ds∧vt κ' (.ret ds) (.returned (.string ⟨s.toArray⟩)):=by
  intro w' s hs q1 q2 q3 q4 q5
  subst hs
  obtain⟨κ',k1,k2,k3,k4⟩:=SS z6i hI q1 q2 q3 q4 q5
  exact⟨κ',[.zW .str (qO xs)],k1,k2,k3,k4,rfl,_,rfl,RD.str⟩
 have hnn:(qO xs).length=xs.length:=List.length_map _
 cases g3 with
 | ms _ _ _ _ _ cap a hb wD ha tq hm =>
  obtain⟨hle,hm⟩:=hm xs h1
  rcases hm with⟨hz,_,Li,hp⟩ | ⟨z3a,n1,o,VT,hp,Li,z8v,jk,ho⟩
  ·rw[Li]at p2
   have U6:xs=[]:=List.eq_nil_of_length_eq_zero hz
   refine(Xy blk pv κ.w p2).mono ?_
   rintro e w' ⟨rfl,rfl⟩
   exact fin _ [] (by rw[U6]; rfl) rfl rfl rfl (Nat.le_refl _) (fun _ _ _=>rfl)
  ·cases Li
   obtain⟨_,⟨FP,Ou⟩ | ⟨zfY,n2,cs2,T2,r1,r2,r3,r4,r5,f,r6⟩⟩:=hI.blk 1 _ h1
   ·rw[hp]at Ou; cases Ou
   ·rw[hp]at r1
    cases r1
    have hT:=r5 rfl
    subst hT
    by_cases hc0:cap=0
    ·subst hc0
     have hz:xs.length=0:=by omega
     have U6:xs=[]:=List.eq_nil_of_length_eq_zero hz
     rw[hz]at p2
     refine(HS blk z3a o pv cs2 κ.w p2 r2).mono ?_
     rintro e w' ⟨rfl,rfl⟩
     refine fin _ [] (by rw[U6]; rfl) rfl rfl rfl (by simp) (fun k hk _ => ?_)
     exact Lib.alloc_old κ.w.drew _ k hk
    ·by_cases hz:xs.length=0
     ·have U6:xs=[]:=List.eq_nil_of_length_eq_zero hz
      rw[hz]at p2
      refine(oV blk z3a o cap pv κ.w hc0 p2).mono ?_
      rintro e w' ⟨rfl,rfl⟩
      exact fin _ [] (by rw[U6]; rfl) rfl rfl rfl (Nat.le_refl _) (fun _ _ _=>rfl)
     ·have ho':o=0:=by
       rcases ho with ho | ho
       ·exact absurd ho hc0
       ·simpa using ho
      subst ho'
      have uj:qO xs≠[]:=fun e=>hz (by rw[← hnn,e]; rfl)
      have z42:xs.length≤cs2.size:=by
       have:=r4
       simp only[Ty.size,Nat.mul_one]at this
       omega
      refine(OO blk z3a cap pv cs2 (qO xs) κ.w uj (by rw[hnn]; exact wD) (by rw[hnn]; exact PQ) (by rw[hnn]; exact p2) r2 (by rw[hnn]; exact z42) ?_).mono ?_
      ·intro j c hj
       have hj':j<xs.length:=by rw[← hnn]; exact(List.getElem?_eq_some_iff.1 hj).1
       obtain⟨q1,q2⟩:=r6 j hj'
       have:=q2 0 (.int .u8 xs[j]) (by rw[q1.eV]; rfl)
       simp only[Ty.size,Nat.mul_one,Nat.add_zero]at this
       have hc:c=byteOf xs[j]:=by
        unfold qO at hj
        rw[List.getElem?_map,List.getElem?_eq_getElem hj']at hj
        exact(Option.some.inj hj).symm
       obtain⟨b0,b1⟩:=DF xs[j] (List.getElem_mem hj')
       rw[Lib.cell_of_heap r2,hc,MM b0 b1]
       exact this
      ·rintro e w' ⟨rfl,rfl⟩
       refine fin _ _ rfl ?_ ?_ ?_ ?_ ?_
       ·unfold World.freeze; split<;>rfl
       ·unfold World.freeze; split<;>rfl
       ·unfold World.freeze; split<;>rfl
       ·unfold World.freeze
        split
        ·exact Nat.le_refl _
        ·show κ.w.heap.size≤(Array.modify _ _ _).size
         rw[Array.size_modify]; exact Nat.le_refl _
       ·intro k hk hn
        have zeH:k≠z3a:=fun e=>hn n1 (e▸hp)
        unfold World.freeze
        split
        ·rfl
        ·show(Array.modify _ _ _)[k]? = _
         rw[Array.getElem?_modify,if_neg (fun e=>zeH e.symm)]
         rfl
theorem Oa{P:Program}{g t:Nat}(KC:∀ args w,(callFunc g args).run P w=.ok (.enter g args) w)
  (Xy:∀ (b:Nat) (p:Value) (w:World),w.heap[b]? = some (.cells #[p,.slice none 0 0] t (0,0))→Calls P g #[.pointer (some ⟨b,0,none⟩)] w fun e w'=>e=.returned (.string ⟨#[]⟩)∧w'=w.drew)
  (oV:∀ (b g' o cap:Nat) (p:Value) (w:World),cap≠0→w.heap[b]? = some (.cells #[p,.slice (some ⟨g',o,none⟩) 0 cap] t (0,0))→Calls P g #[.pointer (some ⟨b,0,none⟩)] w fun e w'=>e=.returned (.string ⟨#[]⟩)∧w'=w.drew)
  (OO:∀ (b g' cap:Nat) (p:Value) (cur:Array Value) (l:List UInt8) (w:World),l≠[]→l.length≤cap→l.length≤140737488355328→w.heap[b]? = some (.cells #[p,.slice (some ⟨g',0,none⟩) l.length cap] t (0,0)) →
   w.heap[g']? = some (.cells cur tN.u8 (0,0))→l.length≤cur.size→(∀ j x,l[j]? = some x→w.cell? ⟨g',j,none⟩=some (.int .u8 x.toNat)) →
   Calls P g #[.pointer (some ⟨b,0,none⟩)] w fun e w'=>e=.returned (.string ⟨l.toArray⟩)∧w'=w.drew.freeze ⟨g',0,none⟩ l.length)
  (HS:∀ (b g' o:Nat) (p:Value) (cur:Array Value) (w:World),w.heap[b]? = some (.cells #[p,.slice (some ⟨g',o,none⟩) 0 0] t (0,0))→w.heap[g']? = some (.cells cur tN.u8 (0,0)) →
   Calls P g #[.pointer (some ⟨b,0,none⟩)] w fun e w'=>e=.returned (.string ⟨#[]⟩)∧w'=w.drew.alloc (.view ⟨g',o,none⟩ tN.u8)):vL P g (Pq t):=by
 intro κ x qi y xN hy hI hlen hR
 obtain⟨⟨DF,PQ⟩,hy⟩:=(show(z0R x.2).leads y from hy)
 have hy':(qO x.2,())=y:=hy
 subst hy'
 exact FD KC Xy oV OO HS (xs:=x.2) xN DF PQ hI hlen (hR.get 0 (.ptr 0 0) rfl)
end Go.AM