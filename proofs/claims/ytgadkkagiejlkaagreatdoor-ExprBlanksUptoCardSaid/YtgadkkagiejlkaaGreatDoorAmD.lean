/-
  The abstract machine, part D: texts of our own, the same for each claim.
-/
import Derived.Test.YtgadkkagiejlkaaGreatDoorAmA
import Derived.Lib.LaidTab
import Derived.Shelf.Vars
import Derived.Test.YtgadkkagiejlkaaGreatDoorAmC
import Derived.OpenShut
import Derived.Test.YtgadkkagiejlkaaGreatDoorAmB
import Derived.Lib.LazyBuf
import Derived.Below
import Derived.Lib.Repeat
import Derived.Lib.ItoaNum
import Derived.Lib.IndexMore
import Derived.Lib.AsciiSet
import Derived.Lib.Strings
import Derived.Sort.Grow
import Derived.Deep.Draws
import Derived.Recover
set_option linter.unusedVariables false
namespace Go.AM
def Vf(k:IntKind)(o:Obj):Prop:=∃ m t fr,o=.cells #[.int k m] t fr
theorem Dc{w:World}{k:IntKind}{g:Nat}(h:∃ o,w.heap[g]? = some o∧Vf k o):∃ m,w.cell? ⟨g,0,none⟩=some (.int k m):=by
 obtain⟨o,ho,m,t,fr,rfl⟩:=h
 exact⟨m,by simp[World.cell?,ho]⟩
theorem CK{P:Program}{w:World}{g:Nat}{t:TypeId}{zero:Array Value}{k:IntKind}
  (h:w.ShapedOpen P) (hg:g<P.globals.size)
  (h0:((begin P (fun _ _=>0) default).world.heap[g]?).bind Obj.row? = some (zero,t)) (hz:zero.size=1)
  (hb:P.buildable t=true) (hc:P.cellTypes P.depth t=some [t]) (hu:P.underlying t=some (.int k)):g<w.heap.size∧∃ o,w.heap[g]? = some o∧Vf k o:=by
 obtain⟨m,hm⟩:=Go.Proofs.cell_of_shapedOpen_int h hg h0 hz hb hc hu
 obtain⟨cs,hh,hs,_⟩:=h.1 g zero t hg h0
 have hl:cs.size=1:=hs.trans hz
 refine⟨(Array.getElem?_eq_some_iff.1 hh).1,_,hh,m,t,(0,0),?_⟩
 have h1:w.cell? ⟨g,0,none⟩=some cs[0]:=by simp[World.cell?,hh,hl]
 rw[hm]at h1
 have h2:cs[0]=.int k m:=(Option.some.inj h1).symm
 have:cs = #[.int k m]:=by
  apply Array.ext
  ·simpa using hl
  ·intro i hi hj
   have:i=0:=by omega
   subst this
   simpa using h2
 rw[this]
end Go.AM
namespace Go.AM
open Go.RowKit
mutual
def bkE:Expr→Nat
 | .mk _ n s l=>1+((1+((List.length n.2.1+1)+((List.length n.2.2.1+1)+1)))+((List.length s+1)+((bkEs l+1)+1)))
def bkEs:List Expr→Nat
 | []=>0
 | e::r=>bkE e+bkEs r
end
def Zg{α:Type}(f:α→Nat):List α→Nat
 | []=>0
 | x::r=>f x+Zg f r
def bk:(τ:Ty)→den τ→Nat
 | .int _,_=>1
 | .bool,_=>1
 | .str,s=>List.length s+1
 | .sl e,l=>Zg (bk e) l+1
 | .nil,_=>1
 | .cons a b,x=>bk a x.1+bk b x.2
 | .expr,x=>bkE x
theorem Ii{α:Type}(l:List α):Zg (fun _=>1) l=l.length:=by induction l with | nil=>rfl | cons x r ih=>simp[Zg,ih]; omega
theorem LU(l:List Expr):bkEs l=Zg (bk .expr) l:=by induction l with | nil=>rfl | cons x r ih=>simp[bkEs,Zg,ih,bk]
theorem NG(x:Expr):bk pW x.DE=bk .expr x:=by
 cases x with | mk k n s l =>
 simp only[bk,Expr.DE,bkE,LU,Expr.kind,Expr.num,Expr.name,Expr.kids,Ii]
mutual
def wfE:Expr→Prop
 | .mk k n s l=>(IntKind.i64.min≤k∧k≤IntKind.i64.max)∧((True∧((∀ x∈n.2.1,IntKind.u32.min≤x∧x≤IntKind.u32.max)∧((∀ x∈n.2.2.1,IntKind.u32.min≤x∧x≤IntKind.u32.max)∧True)))∧(List.length s≤maxLen∧(wfEs l∧True)))
def wfEs:List Expr→Prop
 | []=>True
 | e::r=>wfE e∧wfEs r
end
def wf:(τ:Ty)→den τ→Prop
 | .int k,n=>k.min≤n∧n≤k.max
 | .bool,_=>True
 | .str,s=>List.length s≤maxLen
 | .sl e,l=>∀ x∈l,wf e x
 | .nil,_=>True
 | .cons a b,x=>wf a x.1∧wf b x.2
 | .expr,x=>wfE x
theorem NJ(l:List Expr):wfEs l↔∀ x∈l,wf .expr x:=by induction l with | nil=>simp[wfEs] | cons x r ih=>simp[wfEs,ih,wf]
theorem BB(x:Expr):wf pW x.DE↔wf .expr x:=by
 cases x with | mk k n s l=>simp only[wf,Expr.DE,wfE,NJ,Expr.kind,Expr.num,Expr.name,Expr.kids]
structure Cn(H:Type) where
 b:DataW H→Nat
 bs:List (DataW H)→Nat
 str:∀ s,b (.lit (.string s))=s.length+1
 bool:∀ x,b (.lit (.bool x))=1
 int:∀ k n,b (.lit (.int k n))=1
 nil:b .nil=1
 slice:∀ x y,b (.slice x y)=bs x+bs y+1
 agg:∀ x,b (.agg x)=bs x+1
 zero:bs []=0
 cons:∀ x r,bs (x::r)=b x+bs r
section
variable (P:Program) (xid:Nat)
def sT:Nat→List Field→Bool
 | _,[]=>true
 | o,f::r=>Nat.beq f.offset o&&sT (o+P.cellsOf f.type) r
def tk:Nat→List Field→Nat
 | o,[]=>o
 | o,f::r=>tk (o+P.cellsOf f.type) r
def WS:Nat→Nat→Option Ty
 | 0,_=>none
 | n+1,t=>bif Nat.beq t xid then some .expr else
  match P.underlying t with
  | some (.int k)=>some (.int k)
  | some .bool=>some .bool
  | some .string=>some .str
  | some (.slice e)=>match WS n e with | some a=>bif Nat.beq (P.cellsOf e) a.size&&Nat.blt 0 a.size then some (.sl a)else none | none=>none
  | some (.struct fs)=>bif sT P 0 fs.toList&&Nat.beq (tk P 0 fs.toList) (P.cellsOf t)then gQ (fs.toList.map fun f=>WS n f.type)else none
  | _=>none
def Gs(m:Nat):Bool:=match P.underlying xid with
 | some (.struct fs)=>sT P 0 fs.toList&&Nat.beq (tk P 0 fs.toList) (P.cellsOf xid)&&decide (gQ (fs.toList.map fun f=>WS P xid m f.type)=some pW)
 | some _=>false
 | none=>true
end
section
variable {H:Type} {enc:TypeId×Value→H} {P:Program} {w:World} {xid m:Nat} (B:Cn H)
def Qi(w:World)(B:Cn H)(τ:Ty)(cs:List Value)(k:Nat):Prop:=∃ x:den τ,Rc w (fun k=>k<w.heap.size) τ x cs∧wf τ x∧bk τ x≤k
theorem sI{fuel:Nat}{cs:List Value}(ih:∀ n t τ cs d ps,WS P xid n t=some τ→DataW.trod enc P w 0 (fun _=>true) true fuel t cs=some (d,ps)→Qi w B τ cs (B.b d)){n:Nat} :
  ∀ (fs:List Field) (o:Nat) (τ:Ty) (xs:List (DataW H×List MemPlace)),gQ (fs.map fun f=>WS P xid n f.type)=some τ→sT P o fs=true→tk P o fs=cs.length→xs.length=fs.length →
   (∀ (i:Nat) (f:Field),fs[i]? = some f→DataW.trod enc P w 0 (fun _=>true) true fuel f.type ((cs.drop f.offset).take (P.cellsOf f.type))=xs[i]?)→Qi w B τ (cs.drop o) (B.bs (xs.map (·.1))+1)
 | [],o,τ,xs,ht,_,he,hl,_=>by
  cases ht
  simp only[tk]at he
  obtain rfl:xs=[]:=List.eq_nil_of_length_eq_zero hl
  refine⟨(),?_,trivial,by simp[bk]⟩
  rw[he,List.drop_length]; exact .nil
 | f::r,o,τ,xs,ht,ho,he,hl,hx=>by
  cases xs with
  | nil=>simp at hl
  | cons x xs =>
  simp only[sT,Bool.and_eq_true]at ho
  have D7:f.offset=o:=Nat.eq_of_beq_eq_true ho.1
  simp only[List.map_cons]at ht
  cases h1:WS P xid n f.type with
  | none=>rw[h1]at ht; cases ht
  | some a =>
   rw[h1]at ht
   simp only[gQ]at ht
   cases h2:gQ (r.map fun f=>WS P xid n f.type)with
   | none=>rw[h2]at ht; cases ht
   | some b =>
    rw[h2]at ht
    cases ht
    obtain⟨x1,p1,p2,p3⟩:=ih n f.type a _ x.1 x.2 h1 (by have:=hx 0 f rfl; simpa using this)
    obtain⟨x2,q1,q2,q3⟩:=sI ih r (o+P.cellsOf f.type) b xs h2 ho.2 he (by simpa using hl) (fun i g hg=>by have:=hx (i+1) g (by simpa using hg); simpa using this)
    refine⟨(x1,x2),?_,⟨p2,q2⟩,?_⟩
    ·have e:cs.drop o=(cs.drop o).take (P.cellsOf f.type)++cs.drop (o+P.cellsOf f.type):=by
      conv=>lhs; rw[← List.take_append_drop (P.cellsOf f.type) (cs.drop o)]
      rw[List.drop_drop]
     rw[e]
     rw[D7]at p1
     exact .cons _ _ _ _ _ _ p1 q1
    ·simp only[bk,List.map_cons,B.cons]; omega
theorem Wd{e:Ty}(k:Nat):∀ (n:Nat) (elems:List (DataW H×List MemPlace)) (g:Nat→List Value),elems.length=n→(∀ i,i<n→∃ d,elems[i]? = some d∧Qi w B e (g i) (B.b d.1)) →
  ∃ l:List (den e),l.length=n∧(∀ i (hi:i<l.length),Rc w (fun k=>k<w.heap.size) e l[i] (g i))∧(∀ x∈l,wf e x)∧Zg (bk e) l≤B.bs (elems.map (·.1))
 | 0,elems,g,hl,_=>by
  obtain rfl:elems=[]:=List.eq_nil_of_length_eq_zero hl
  exact⟨[],rfl,fun i hi=>absurd hi (Nat.not_lt_zero i),by simp,by simp[Zg]⟩
 | n+1,elems,g,hl,h=>by
  cases elems with
  | nil=>simp at hl
  | cons y ys =>
   obtain⟨d,h1,x,h2,h3,h4⟩:=h 0 (by omega)
   simp at h1
   subst h1
   obtain⟨l,l1,l2,l3,l4⟩:=Wd k n ys (fun i=>g (i+1)) (by simpa using hl) fun i hi=>by
    obtain⟨d,h1,h2⟩:=h (i+1) (by omega)
    exact⟨d,by simpa using h1,h2⟩
   refine⟨x::l,by simp[l1],fun i hi => ?_,fun z hz => ?_,?_⟩
   ·cases i with
    | zero=>exact h2
    | succ i=>exact l2 i (by simpa using hi)
   ·rcases List.mem_cons.1 hz with rfl | hz
    ·exact h3
    ·exact l3 z hz
   ·simp only[Zg,List.map_cons,B.cons]; omega
theorem Ch(hx:Gs P xid m=true):∀ (fuel n t:Nat) (τ:Ty) (cs:List Value) (d:DataW H) (ps:List MemPlace),WS P xid n t=some τ→DataW.trod enc P w 0 (fun _=>true) true fuel t cs=some (d,ps)→Qi w B τ cs (B.b d):=by
 intro fuel
 induction fuel with
 | zero=>intro n t τ cs d ps _ h; simp[DataW.trod]at h
 | succ fuel ih =>
  intro n t τ cs d ps ht h
  have struct:∀ (fs:Array Field) (k:Nat) (σ:Ty),P.underlying t=some (.struct fs)→(sT P 0 fs.toList&&Nat.beq (tk P 0 fs.toList) (P.cellsOf t))=true→gQ (fs.toList.map fun f=>WS P xid k f.type)=some σ→Qi w B σ cs (B.b d):=by
   intro fs k σ hu ho hc
   simp only[Bool.and_eq_true]at ho
   obtain⟨xs,n',hn,hd,hl,Lt,tU⟩:=DataW.trod_struct hu h
   cases hn
   cases hd
   have:=sI B (cs:=cs) (ih:=ih) fs.toList 0 σ xs hc ho.1 (by rw[Nat.eq_of_beq_eq_true ho.2,hl]) (by simpa using Lt) (fun i f hf=>tU i f (by simpa using hf))
   rw[B.agg]
   simpa using this
  cases n with
  | zero=>cases ht
  | succ n =>
   unfold WS at ht
   cases hb:Nat.beq t xid with
   | true =>
    rw[hb,cond_true]at ht
    cases ht
    have:=Nat.eq_of_beq_eq_true hb
    subst this
    unfold Gs at hx
    split at hx
    ·rename_i fs hu
     simp only[Bool.and_eq_true,decide_eq_true_eq]at hx
     obtain⟨x,h1,h2,h3⟩:=struct fs m pW hu (by simp[hx.1.1,hx.1.2]) hx.2
     refine⟨Expr.YN x,.expr _ _ _ _ _ h1,?_,?_⟩
     ·exact(BB (Expr.YN x)).1 h2
     ·rw[← NG (Expr.YN x)]; exact h3
    ·cases hx
    ·rename_i hu
     rw[DataW.trod_step]at h
     simp[DataW.trodStep,hu]at h
   | false =>
    rw[hb,cond_false]at ht
    split at ht
    ·rename_i k hu
     cases ht
     obtain⟨n',rfl,h2,h3⟩:=DataW.trod_int hu h
     cases h2
     simp only[Lit.wf,Bool.and_eq_true,decide_eq_true_eq]at h3
     exact⟨n',.int k n',h3,by simp[bk,B.int]⟩
    ·rename_i hu
     cases ht
     obtain⟨b,rfl,h2⟩:=DataW.trod_bool hu h
     cases h2
     exact⟨b,.bool b,trivial,by simp[bk,B.bool]⟩
    ·rename_i hu
     cases ht
     obtain⟨s,rfl,h2,h3⟩:=DataW.trod_string hu h
     cases h2
     refine⟨s.data.toList,?_,?_,?_⟩
     ·have:s=⟨s.data.toList.toArray⟩:=by cases s; simp
      conv=>arg 4; rw[this]
      exact .str _
     ·simp only[wf,Array.length_toList]; exact h3
     ·simp[bk,B.str]
    ·rename_i e hu
     split at ht
     ·rename_i a ha
      cases hc:Nat.beq (P.cellsOf e) a.size&&Nat.blt 0 a.size with
      | false=>rw[hc]at ht; cases ht
      | true =>
       rw[hc,cond_true]at ht
       cases ht
       simp only[Bool.and_eq_true]at hc
       have uj:P.cellsOf e=a.size:=Nat.eq_of_beq_eq_true hc.1
       have nW:0<a.size:=Nat.le_of_ble_eq_true hc.2
       rcases DataW.trod_slice hu h with⟨rfl,h2⟩ | ⟨p,len,cap,elems,rest,n',hn,rfl,hd,_,vx,_,hlen,Ov,CG,_⟩
       ·cases h2
        exact⟨[],.cI a none,by simp[wf],by simp[bk,Zg,B.nil]⟩
       ·cases hn
        cases hd
        by_cases h0:cap=0
        ·subst h0
         have:len=0:=by omega
         subst this
         exact⟨[],.cI a (some p),by simp[wf],by simp[bk,Zg,B.slice]⟩
        ·rw[uj]at Ov CG
         -- the place lies in the heap
         have RW:p.block<w.heap.size∧p.spot=none:=by
          have first:∃ x,(w.cells? 0 p a.size)=some x:=by
           by_cases hl:len=0
           ·have:=(CG rfl).2 0 (by omega)
            rw[hl]at this
            have hr:(rest[0]?).isSome=true:=by simp[(CG rfl).1]; omega
            cases Yb:w.cells? 0 p a.size with
            | some x=>exact⟨x,rfl⟩
            | none =>
             have e0:p.add ((0+0)*a.size)=p:=by simp[Addr.add]
             rw[e0,Yb]at this
             rw[← this]at hr
             simp at hr
           ·have:=Ov 0 (by omega)
            have hr:(elems[0]?).isSome=true:=by simp; omega
            cases Yb:w.cells? 0 p a.size with
            | some x=>exact⟨x,rfl⟩
            | none =>
             have e0:p.add (0*a.size)=p:=by simp[Addr.add]
             rw[e0,Yb]at this
             rw[← this]at hr
             simp at hr
          obtain⟨x,hx⟩:=first
          refine⟨World.cells?_block hx nW,?_⟩
          have h2:=(World.cells?_some hx).2
          have h3:=h2.2 0 nW
          rw[List.getElem?_eq_getElem (by omega)]at h3
          have e0:p.add 0=p:=rfl
          rw[e0]at h3
          cases hs:p.spot with
          | none=>rfl
          | some q =>
           unfold World.cell? at h3
           split at h3
           ·rw[hs]at h3; simp at h3
           ·cases h3
         obtain⟨blk,off,sp⟩:=p
         obtain⟨Ca,mZ⟩:=RW
         simp only at mZ Ca
         subst mZ
         have hg:∀ i,∃ c:List Value,i<len→∃ d,elems[i]? = some d∧Qi w B a c (B.b d.1)∧w.cells? 0 ⟨blk,off+i*a.size,none⟩ a.size=some c:=by
          intro i
          by_cases hi:i<len
          ·have:=Ov i hi
           rw[ve]at this
           cases Yb:w.cells? 0 ⟨blk,off+i*a.size,none⟩ a.size with
           | none =>
            rw[Yb]at this
            have hr:(elems[i]?).isSome=true:=by simp; omega
            rw[← this]at hr
            simp at hr
           | some c =>
            rw[Yb]at this
            simp only[Option.bind_some]at this
            refine⟨c,fun _=>⟨elems[i]'(by omega),by simp,?_,rfl⟩⟩
            exact ih n e a c _ _ ha (this.trans (by rw[List.getElem?_eq_getElem (by omega)]))
          ·exact⟨[],fun h=>absurd h hi⟩
         let g:Nat→List Value:=fun i=>Classical.choose (hg i)
         have hg':∀ i,i<len→∃ d,elems[i]? = some d∧Qi w B a (g i) (B.b d.1)∧w.cells? 0 ⟨blk,off+i*a.size,none⟩ a.size=some (g i):=fun i hi=>Classical.choose_spec (hg i) hi
         obtain⟨l,l1,l2,l3,l4⟩:=Wd B (w:=w) (e:=a) 0 len elems g hlen fun i hi=>by
          obtain⟨d,h1,h2,_⟩:=hg' i hi
          exact⟨d,h1,h2⟩
         refine⟨l,?_,l3,?_⟩
         ·have:=Rc.sl (w:=w) (ok:=fun k=>k<w.heap.size) a l blk off cap g Ca (by omega) l2 fun i hi j v hj=>by
           obtain⟨d,_,_,h3⟩:=hg' i (by omega)
           obtain⟨_,k2,k3⟩:=World.cells?_some h3
           have Hg:j<(g i).length:=(List.getElem?_eq_some_iff.1 hj).1
           have:=k3 j (by omega)
           rw[ve,hj]at this
           exact this
          rwa [l1]at this
         ·simp only[bk,B.slice]; omega
     ·cases ht
    ·rename_i fs hu
     cases hc:sT P 0 fs.toList&&Nat.beq (tk P 0 fs.toList) (P.cellsOf t)with
     | false=>rw[hc]at ht; cases ht
     | true =>
      rw[hc,cond_true]at ht
      exact struct fs n τ hu hc ht
    ·cases ht
end
end Go.AM
namespace Go.AM
set_option linter.unusedSectionVars false
variable [vP]
open Go.RowKit Go.ChangeShapes
def XA:List Ty→Type
 | []=>Unit
 | τ::r=>den τ×XA r
def OO:(τs:List Ty)→XA τs→List D
 | [],_=>[]
 | τ::r,x=>.zi τ x.1::OO r x.2
def Tf:(τs:List Ty)→XA τs→Prop
 | [],_=>True
 | τ::r,x=>wf τ x.1∧Tf r x.2
def S7:(τs:List Ty)→XA τs→Nat
 | [],_=>0
 | τ::r,x=>bk τ x.1+S7 r x.2
def oB(P:Program)(ts:List Nat):Bool:=ts.all fun t=>P.readableRec t&&decide (t<P.types.size)
section
variable {H:Type} {enc:TypeId×Value→H} {P:Program} {xid m n:Nat} {w:World}
theorem Rt{t:Nat}{τ:Ty}{v:Value}{base:Nat}(ht:WS P xid n t=some τ)(hx:Gs P xid m=true)(h:Value.okWide P w .any base t v):pk τ v.cells.toList=v:=by
 cases n with
 | zero=>cases ht
 | succ n =>
  have agg:∀ fs:Array Field,P.underlying t=some (.struct fs)→τ.isAgg=true→pk τ v.cells.toList=v:=by
   intro fs hu ha
   unfold Value.okWide at h
   rw[hu]at h
   obtain⟨cs,rfl,_⟩:=h
   simp[pk,ha,Value.cells]
  unfold WS at ht
  cases hb:Nat.beq t xid with
  | true =>
   rw[hb,cond_true]at ht
   cases ht
   have:=Nat.eq_of_beq_eq_true hb
   subst this
   unfold Gs at hx
   split at hx
   ·rename_i fs hu; exact agg fs hu rfl
   ·cases hx
   ·rename_i hu
    unfold Value.okWide at h
    rw[hu]at h
    simp[Cell.okWide,Cell.ok,hu]at h
  | false =>
   rw[hb,cond_false]at ht
   split at ht
   ·rename_i k hu
    cases ht
    unfold Value.okWide at h
    rw[hu]at h
    simp only[Cell.okWide,hu,Cell.ok]at h
    split at h<;>simp_all [pk,Ty.isAgg,Value.cells]
   ·rename_i hu
    cases ht
    unfold Value.okWide at h
    rw[hu]at h
    simp only[Cell.okWide,hu,Cell.ok]at h
    split at h<;>simp_all [pk,Ty.isAgg,Value.cells]
   ·rename_i hu
    cases ht
    unfold Value.okWide at h
    rw[hu]at h
    simp only[Cell.okWide,hu,Cell.ok]at h
    split at h<;>simp_all [pk,Ty.isAgg,Value.cells]
   ·rename_i e hu
    have h1:τ.isAgg=false:=by
     split at ht
     ·rename_i a ha
      cases hc:Nat.beq (P.cellsOf e) a.size&&Nat.blt 0 a.size with
      | false=>rw[hc]at ht; cases ht
      | true=>rw[hc,cond_true]at ht; cases ht; rfl
     ·cases ht
    unfold Value.okWide at h
    rw[hu]at h
    simp only[Cell.okWide,hu,Cell.ok]at h
    split at h<;>simp_all [pk,Value.cells]
   ·rename_i fs hu
    refine agg fs hu ?_
    cases hc:sT P 0 fs.toList&&Nat.beq (tk P 0 fs.toList) (P.cellsOf t)with
    | false=>rw[hc]at ht; cases ht
    | true =>
     rw[hc,cond_true]at ht
     have key:∀ (l:List (Option Ty)),gQ l=some τ→τ.isAgg=true:=by
      intro l hl
      cases l with
      | nil=>cases hl; rfl
      | cons a r =>
       cases a with
       | none=>cases hl
       | some a =>
        simp only[gQ]at hl
        cases h2:gQ r with
        | none=>rw[h2]at hl; cases hl
        | some b=>rw[h2]at hl; cases hl; rfl
     exact key _ ht
   ·cases ht
theorem Kh(B:Cn H)(hx:Gs P xid m=true){base:Nat}:∀ (ts:List TypeId) (τs:List Ty) (vs:List Value) (ds:List (DataW H)) (ps:List MemPlace),ts.map (WS P xid n)=τs.map some →
  DataW.TrodAll enc P w 0 (fun _=>true) true ts vs ds ps→(∀ (j:Nat) t v,ts[j]? = some t→vs[j]? = some v→Value.okWide P w .any base t v) →
  ∃ x:XA τs,qG ⟨w,fun k=>k<w.heap.size,[],[]⟩ (OO τs x) vs∧Tf τs x∧S7 τs x≤B.bs ds∧ds.length=τs.length
 | [],τs,vs,ds,ps,ht,h,_=>by
  cases τs with
  | cons=>cases ht
  | nil =>
   cases vs<;>cases ds<;>simp only[DataW.TrodAll]at h
   exact⟨(),⟨rfl,fun i h1=>absurd h1 (Nat.not_lt_zero i)⟩,trivial,Nat.zero_le _,rfl⟩
 | t::ts,τs,vs,ds,ps,ht,h,hv=>by
  cases τs with
  | nil=>cases ht
  | cons τ τs =>
   simp only[List.map_cons,List.cons.injEq]at ht
   cases vs with
   | nil=>simp[DataW.TrodAll]at h
   | cons v vs =>
    cases ds with
    | nil=>simp[DataW.TrodAll]at h
    | cons d ds =>
     simp only[DataW.TrodAll]at h
     obtain⟨p,q,⟨fuel,h1⟩,h2,_⟩:=h
     obtain⟨x,k1,k2,k3⟩:=Ch B hx fuel n t τ _ d p ht.1 h1
     obtain⟨y,g1,g2,g3,g4⟩:=Kh B hx ts τs vs ds q ht.2 h2 fun j t v a b=>hv (j+1) t v (by simpa using a) (by simpa using b)
     refine⟨(x,y),⟨by simp only[OO,List.length_cons]; rw[g1.1],fun i h1 h2 => ?_⟩,⟨k2,g2⟩,?_,by simp[g4]⟩
     ·cases i with
      | zero =>
       have:=RD.zi (κ:=⟨w,fun k=>k<w.heap.size,[],[]⟩) τ x _ k1
       rw[Rt ht.1 hx (hv 0 t v rfl rfl)]at this
       exact this
      | succ i=>exact g1.2 i (by simpa[OO]using h1) (by simpa using h2)
     ·simp only[S7,B.cons]; omega
theorem Wv(hl:laidOutB P=true){W W':World}(hb:Below W.heap.size W W'):∀ (ts:List TypeId) (vs:List Value) (ds:List (DataW H)) (ps:List MemPlace),oB P ts=true →
  DataW.TrodAll enc P W 0 (fun _=>true) true ts vs ds ps→(∀ x∈ps,x.block<W.heap.size)→DataW.TrodAll enc P W' 0 (fun b=>decide (b<W.heap.size)) true ts vs ds ps
 | [],vs,ds,ps,_,h,_=>by cases vs<;>cases ds<;>simp_all [DataW.TrodAll]
 | t::ts,vs,ds,ps,ht,h,qh=>by
  cases vs with
  | nil=>simp[DataW.TrodAll]at h
  | cons v vs =>
   cases ds with
   | nil=>simp[DataW.TrodAll]at h
   | cons d ds =>
    simp only[DataW.TrodAll]at h ⊢
    obtain⟨p,q,h1,h2,rfl⟩:=h
    simp only[oB,List.all_cons,Bool.and_eq_true,decide_eq_true_eq]at ht
    exact⟨p,q,Below.trod hl ht.1.1 ht.1.2 h1 hb fun x hx=>qh x (by simp[hx]),Wv hl hb ts vs ds q (by simpa[oB]using ht.2) h2 fun x hx=>qh x (by simp[hx]),rfl⟩
end
theorem DI{H:Type}{enc:TypeId×Value→H}{P:Program}{f:Nat}{fn:Func}{S:List D→St→T (V6×St)}(hS:Uu P f S)(hf:P.funcs[f]? = some fn)(hbd:fn.body.isNone=false) (Sh:(fn.name == "runtime.NumGoroutine")=false)
  (hl:laidOutB P=true) (xid m n:Nat) (τs:List Ty) (hts:oB P fn.params.toList=true) (hτ:fn.params.toList.map (WS P xid n)=τs.map some) (hx:Gs P xid m=true)
  {bt:TypeId} (hr:fn.resultTypes = #[bt]) (hbt:P.underlying bt=some .bool) {s:ChangeSpec} (hv:s.vars=[]) (hs:∀ ds:List (DataW H),ds.length=τs.length→s.fn H ds={ results:=[.lit (.bool true)],args:=ds })
  (B:Cn H) {lim:Nat} (law:∀ x:XA τs,Tf τs x→S7 τs x≤lim→(S (OO τs x) []).leads (.ret [.zi .bool true],[]))
  {fresh handsOn:Bool} {W:World} {base:Nat} {args:Array Value} {ds gs:List (DataW H)} {before:List MemPlace}
  (Xa:∀ (j:Nat) t v,fn.params[j]? = some t→args[j]? = some v→Value.okWide P W .any base t v)
  (hW:DataW.Whole enc P fn.params.toList s.vars false W args.toList ds gs before) (hk:B.bs (ds++gs)≤lim) (hG:nY W fun k=>k<W.heap.size) :
  Calls P f args W fun e W'=>∃ v,e=.returned v∧s.post enc P fn false fresh handsOn false W args v W':=by
 have hW':=hW
 obtain⟨p,q,hA,hV,rfl,hfz,Lp⟩:=hW
 rw[hv]at hV
 obtain⟨rfl,rfl⟩:=trodVars_none hV
 simp only[List.append_nil]at hk hW'
 obtain⟨x,h1,h2,h3,h4⟩:=Kh (n:=n) B hx fn.params.toList τs args.toList ds p hτ hA fun j t v a b=>Xa j t v (by simpa using a) (by simpa using b)
 have hI:Inv ⟨W,fun k=>k<W.heap.size,[],[]⟩ :=
  ⟨rfl,fun k hk=>hk,fun b blk n h=>by simp at h,fun b b' blk n n' h=>by simp at h,fun b x h=>by simp at h,hG⟩
 have Ol:=hS ⟨W,fun k=>k<W.heap.size,[],[]⟩ (OO τs x) args.toList _ _ (law x h2 (Nat.le_trans h3 hk)) hI h1
 rw[Array.toArray_toList]at Ol
 have key:Calls P f args W fun e w'=>∃ κ':KS,κ'.w=w'∧κ'.st=[]∧Inv κ'∧Ext ⟨W,fun k=>k<W.heap.size,[],[]⟩ κ'∧vd κ' (.ret [.zi .bool true]) e:=by
  rcases Ol with⟨_,h⟩ | ⟨v,w',h,_⟩
  ·exact h
  ·have:=wx (args:=args) hf Sh hbd W
   simp only at h
   rw[this]at h
   cases h
 refine key.mono fun e W' ⟨κ',e1,_,_,e4,v,e5,e6⟩ => ?_
 subst e1
 have hb:Below W.heap.size W κ'.w:=⟨e4.os,e4.tape,e4.output,e4.size,fun k hk=>e4.frame k hk fun b n h=>by simp at h⟩
 have hv':v=.bool true:=by
  obtain⟨cs,g1,g2⟩:=RD.yh (show RD κ' (.zi .bool true) v from e6)
  rw[g1.ya]at g2
  exact g2
 subst hv'
 have qh:∀ x∈p,x.block<W.heap.size:=fun x hx=>by simpa using hW'.lt x hx
 refine⟨_,e5,ds,[],p,[],p,[],hW',?_,?_,?_,hb.frame _,fun h=>by cases h⟩
 ·rw[List.append_nil,hs ds h4,hr]
  exact trodAll_cons_mk (shut_bool hbt _) trodAll_mk0
 ·rw[List.append_nil,hs ds h4]
  exact Wv hl hb _ _ _ _ hts hA qh
 ·rw[List.append_nil,hs ds h4,hv]
  rfl
end Go.AM
namespace Go.AM
def Uj:List Ty→Type
 | []=>Unit
 | [τ]=>den τ
 | τ::σ::r=>den τ×Uj (σ::r)
def rT.ty:rT→Ty | .rp τ=>τ | .im τ=>τ
def kW:List rT→Type
 | []=>Unit
 | [p]=>den p.ty
 | p::q::r=>den p.ty×kW (q::r)
def WD:(p:rT)→den p.ty→D
 | .rp τ,x=>.qK τ x
 | .im τ,x=>.zi τ x
def eE:(l:List rT)→kW l→List D
 | [],_=>[]
 | [p],x=>[WD p x]
 | p::q::r,x=>WD p x.1::eE (q::r) x.2
def Y3:(l:List rT)→kW l
 | []=>()
 | [p]=>zA p.ty
 | p::q::r=>(zA p.ty,Y3 (q::r))
inductive Sk where
 | im (τ:Ty) | row (b:Nat) (e:Ty) | op (b T:Nat) | un
def gN:List Sk→Type
 | []=>Unit
 | .im τ::r=>den τ×gN r
 | .row _ _::r=>gN r
 | .op _ _::r=>gN r
 | .un::r=>gN r
def pD:(l:List Sk)→gN l
 | []=>()
 | .im τ::r=>(zA τ,pD r)
 | .row _ _::r=>pD r
 | .op _ _::r=>pD r
 | .un::r=>pD r
inductive Mc where
 | im (τ:Ty) | rp (τ:Ty) | pt (b:Nat)
def eB:List Mc→Type
 | []=>Unit
 | .im τ::r=>den τ×eB r
 | .rp τ::r=>den τ×eB r
 | .pt _::r=>eB r
def tN:(l:List Mc)→eB l
 | []=>()
 | .im τ::r=>(zA τ,tN r)
 | .rp τ::r=>(zA τ,tN r)
 | .pt _::r=>tN r
def nf:(l:List Mc)→eB l→List D
 | [],_=>[]
 | .im τ::r,x=>.zi τ x.1::nf r x.2
 | .rp τ::r,x=>.qK τ x.1::nf r x.2
 | .pt b::r,x=>.ptr b 0::nf r x
inductive Dk where
 | zi (τ:Ty) | qK (τ:Ty) | sub (b:Nat) (e:Ty) | xg (f:Nat) (caps:List rT) | st (ks:List Sk) | mclo (f:Nat) (ms:List Mc)
inductive Ck where
 | ptr (b off:Nat) | cur (b:Nat) (e:Ty) | xb | jE | qQ | xg (f:Nat) (l:List (Nat×Nat))
inductive Bk where
 | var (k:Dk) | cvar (k:Ck) | arr (e:Ty) | dead
def Dk.den:Dk→Type
 | .zi τ=>AM.den τ
 | .qK τ=>AM.den τ
 | .sub _ _=>Nat×Nat
 | .xg _ caps=>kW caps
 | .st ks=>gN ks
 | .mclo _ ms=>eB ms
def Dk.zA:(k:Dk)→k.den
 | .zi τ=>AM.zA τ
 | .qK τ=>AM.zA τ
 | .sub _ _=>(0,0)
 | .xg _ caps=>Y3 caps
 | .st ks=>pD ks
 | .mclo _ ms=>tN ms
inductive It where
 | s (t:Nat) (k:Dk) | v (k:Dk) | a (e:Ty)
def It.den:It→Type
 | .s _ k=>k.den
 | .v k=>k.den
 | .a e=>List (AM.den e)
def It.zA:(i:It)→i.den
 | .s _ k=>k.zA
 | .v k=>k.zA
 | .a _=>[]
def wv:List It→Type
 | []=>Unit
 | [i]=>i.den
 | i::j::r=>i.den×wv (j::r)
def TG:ju→Nat
 | .arr v _ _=>v
 | _=>0
def xO(st:St)(b:Nat):Nat:=match st[b]? with | some x=>TG x | none=>0
def wL(st:St):(l:List Sk)→gN l→List D
 | [],_=>[]
 | .im τ::r,x=>AM.flat τ x.1++wL st r x.2
 | .row b e::r,x=>.ms b (xO st b) e 0 (xO st b)::wL st r x
 | .op b T::r,x=>.b6 b T::wL st r x
 | .un::r,x=>.pn::wL st r x
def il(st:St):(k:Dk)→k.den→D
 | .zi τ,x=>.zi τ x
 | .qK τ,x=>.qK τ x
 | .sub b e,x=>.ms b (xO st b) e x.1 x.2
 | .xg f caps,x=>.xg f (eE caps x)
 | .st ks,x=>.agg (wL st ks x)
 | .mclo f ms,x=>.xg f (nf ms x)
def Jn(st:St):Ck→D
 | .ptr b off=>.ptr b off
 | .cur b e=>.ms b (xO st b) e 0 (xO st b)
 | .xb=>.xb
 | .jE=>.jE
 | .qQ=>.qQ
 | .xg f l=>.xg f (l.map fun p=>.ptr p.1 p.2)
def bw(st:St):(l:List It)→wv l→Fr
 | [],_=>[]
 | [.s t k],x=>[(t,some (il st k x))]
 | [.v _],_=>[]
 | [.a _],_=>[]
 | .s t k::j::r,x=>(t,some (il st k x.1))::bw st (j::r) x.2
 | .v _::j::r,x=>bw st (j::r) x.2
 | .a _::j::r,x=>bw st (j::r) x.2
def Rw(st:St)(l:List (Nat×Ck)):Fr:=l.map fun p=>(p.1,some (Jn st p.2))
inductive Bd where
 | v (k:Dk) (x:k.den) | a (e:Ty) (x:List (AM.den e))
def eO:(l:List It)→wv l→List Bd
 | [],_=>[]
 | [.s _ _],_=>[]
 | [.v k],x=>[.v k x]
 | [.a e],x=>[.a e x]
 | .s _ _::j::r,x=>eO (j::r) x.2
 | .v k::j::r,x=>.v k x.1::eO (j::r) x.2
 | .a e::j::r,x=>.a e x.1::eO (j::r) x.2
def yn:List Bk→List Bd→St
 | [],_=>[]
 | .arr _::r,.a e x::d=>.arr x.length e x::yn r d
 | .var _::r,_::d=>.dead::yn r d
 | .cvar _::r,d=>.dead::yn r d
 | .dead::r,d=>.dead::yn r d
 | _::_,_=>[]
def vb(st:St):List Bk→List Bd→St
 | [],_=>[]
 | .arr _::r,.a e x::d=>.arr x.length e x::vb st r d
 | .var _::r,.v k x::d=>.var (il st k x)::vb st r d
 | .cvar c::r,d=>.var (Jn st c)::vb st r d
 | .dead::r,d=>.dead::vb st r d
 | _::_,_=>[]
def z3P(bs:List Bk)(d:List Bd):St:=vb (yn bs d) bs d
structure yx where
 iB:List It
 cs:List (Nat×Ck)
 bs:List Bk
def yx.den(s:yx):Type:=wv s.iB
def yx.st(s:yx)(x:s.den):St:=z3P s.bs (eO s.iB x)
def yx.fr(s:yx)(x:s.den):Fr:=bw (s.st x) s.iB x++Rw (s.st x) s.cs
def GY:(p:rT)→D→Option (den p.ty)
 | .rp τ,d=>match d with | .qK _ x=>wS x | _=>none
 | .im τ,d=>gP τ d
def Yz:(l:List rT)→List D→Option (kW l)
 | [],[]=>some ()
 | [p],[d]=>GY p d
 | p::q::r,d::ds=>(GY p d).bind fun x=>(Yz (q::r) ds).bind fun y=>some (x,y)
 | _,_=>none
def yB(st:St)(b:Nat):Nat:=match st[b]? with | some (.arr _ _ xs)=>xs.length | _=>0
def L2(st:St)(b T:Nat)(ds:List D):Option (List D):=match st[b]? with
 | some (.var _)=>match ds with
  | .gz T'::ds=>bif Nat.beq T T' then some ds else none
  | .b6 b' T'::ds=>bif Nat.beq b b'&&Nat.beq T T' then some ds else none
  | _=>none
 | _=>none
def PS(ds:List D):Option (List D):=match ds with
 | d::ds=>bif d.one then some ds else none
 | _=>none
def bu(st:St):(l:List Sk)→List D→T (gN l)
 | [],ds=>match ds with | []=>.ret () | _=>.fail
 | .im τ::r,ds=>match uJ τ ds with | some p=>(bu st r p.2).bind fun y=>.ret (p.1,y) | none=>.fail
 | .row b e::r,ds=>match ds with
  | .ms b' qs e' off len::ds=>bif Nat.beq b b'&&decide (e=e')then .zj (q8 qs off len (yB st b)) (bu st r ds)else .fail
  | _=>.fail
 | .op b T::r,ds=>match L2 st b T ds with | some q=>bu st r q | none=>.fail
 | .un::r,ds=>match PS ds with | some q=>bu st r q | none=>.fail
def nj:(l:List Mc)→List D→T (eB l)
 | [],ds=>match ds with | []=>.ret () | _=>.fail
 | .im τ::r,ds=>match ds with
  | d::ds=>match gP τ d with | some y=>(nj r ds).bind fun z=>.ret (y,z) | none=>.fail
  | _=>.fail
 | .rp τ::r,ds=>match ds with
  | .qK _ x::ds=>match(wS x:Option (AM.den τ))with | some y=>(nj r ds).bind fun z=>.ret (y,z) | none=>.fail
  | _=>.fail
 | .pt b::r,ds=>match ds with
  | .ptr b' off::ds=>bif Nat.beq b b'&&Nat.beq off 0 then nj r ds else .fail
  | _=>.fail
def nX(st:St):(k:Dk)→D→T k.den
 | .zi τ,d=>.tc (gP τ d)
 | .qK τ,d=>match d with | .qK _ x=>.tc (wS x) | _=>.fail
 | .sub b e,d=>match d with
  | .ms b' qs e' off len=>bif Nat.beq b b'&&decide (e=e')then .zj (qs=xO st b) (.ret (off,len))else .fail
  | _=>.fail
 | .xg f caps,d=>match d with
  | .xg f' l=>bif Nat.beq f f' then .tc (Yz caps l)else .fail
  | _=>.fail
 | .st ks,d=>bif d.gU then bu st ks (zW d)else .fail
 | .mclo f ms,d=>match d with
  | .xg f' l=>bif Nat.beq f f' then nj ms l else .fail
  | _=>.fail
def oh:List (Nat×Nat)→List D→Bool
 | [],[]=>true
 | p::r,.ptr b off::ds=>Nat.beq p.1 b&&Nat.beq p.2 off&&oh r ds
 | _,_=>false
def tI(st:St):Ck→D→T Unit
 | .ptr b off,d=>match d with | .ptr b' off'=>bif Nat.beq b b'&&Nat.beq off off' then .ret ()else .fail | _=>.fail
 | .cur b e,d=>match d with
  | .ms b' qs e' off len=>bif Nat.beq b b'&&decide (e=e')then .zj (q8 qs off len (yB st b)) (.ret ())else .fail
  | _=>.fail
 | .xb,d=>match d with | .xb=>.ret () | _=>.fail
 | .jE,d=>match d with | .jE=>.ret () | _=>.fail
 | .qQ,d=>match d with | .qQ=>.ret () | _=>.fail
 | .xg f l,d=>match d with | .xg f' l'=>bif Nat.beq f f'&&oh l l' then .ret ()else .fail | _=>.fail
def MF(fr:Fr)(st:St):List (Nat×Ck)→T Unit
 | []=>.ret ()
 | p::r=>match fr.get p.1 with
  | some d=>(tI st p.2 d).bind fun _=>MF fr st r
  | none=>.fail
def Fj(e:Ty)(b:ju):T (List (den e)):=match b with
 | .arr qs _ xs=>match(wS (a:=.sl _) (b:=.sl e) xs:Option (List (den e)))with
  | some ys=>.zj (qs=ys.length) (.ret ys)
  | none=>.fail
 | _=>.fail
def Dk.plain:Dk→Bool
 | .zi _=>true
 | .qK _=>true
 | .st _=>true
 | _=>false
def Io(st:St)(k:Dk)(b:ju):T k.den:=match b with
 | .var d=>bif k.plain then nX st k d else .fail
 | _=>.fail
def Gz:ju→Bool | .var _=>true | _=>false
def Xy(st:St):List Bk→List ju→T (List ju)
 | [],_=>.ret []
 | .arr _::r,b::bl=>(Xy st r bl).bind fun l=>.ret (b::l)
 | .var _::r,b::bl=>(Xy st r bl).bind fun l=>.ret (b::l)
 | .cvar c::r,.var d::bl=>(tI st c d).bind fun _=>Xy st r bl
 | .dead::r,b::bl=>bif Gz b then .fail else Xy st r bl
 | _,_=>.fail
def Kw(fr:Fr)(st:St)(bl:List ju):(i:It)→T (i.den×List ju)
 | .s t k=>match fr.get t with | some d=>(nX st k d).bind fun x=>.ret (x,bl) | none=>.fail
 | .v k=>match bl with | b::r=>(Io st k b).bind fun x=>.ret (x,r) | []=>.fail
 | .a e=>match bl with | b::r=>(Fj e b).bind fun x=>.ret (x,r) | []=>.fail
def Kl{α:Type}(x:α×List ju):T α:=match x.2 with | []=>.ret x.1 | _=>.fail
def WR(fr:Fr)(st:St):(l:List It)→List ju→T (wv l)
 | [],bl=>Kl ((),bl)
 | [i],bl=>(Kw fr st bl i).bind Kl
 | i::j::r,bl=>(Kw fr st bl i).bind fun x=>(WR fr st (j::r) x.2).bind fun y=>.ret (x.1,y)
def rowAt(bs:List Bk)(b:Nat):Bool:=match bs[b]? with | some (.arr _)=>true | _=>false
def tn(bs:List Bk)(b:Nat):Bool:=match bs[b]? with | some (.var _)=>true | some (.cvar _)=>true | _=>false
def Mo(bs:List Bk):Sk→Bool
 | .row b _=>rowAt bs b
 | .op b _=>tn bs b
 | _=>true
def SI(bs:List Bk):Mc→Bool
 | .pt b=>tn bs b
 | _=>true
def Ki(bs:List Bk):Dk→Bool
 | .mclo _ ms=>ms.all (SI bs)
 | .sub b _=>rowAt bs b
 | .st ks=>ks.all (Mo bs)
 | _=>true
def CH(bs:List Bk):Ck→Bool
 | .ptr b _=>tn bs b
 | .cur b _=>rowAt bs b
 | .xg _ l=>l.all fun p=>tn bs p.1
 | _=>true
def z58(bs:List Bk):It→Bool
 | .s _ k=>Ki bs k
 | .v k=>Ki bs k
 | .a _=>true
def z60(bs:List Bk):Bk→Bool
 | .cvar c=>CH bs c
 | _=>true
def kinds:List It→List Bool
 | []=>[]
 | .s _ _::r=>kinds r
 | .v _::r=>false::kinds r
 | .a _::r=>true::kinds r
def kl:List Bk→List Bool→Bool
 | [],[]=>true
 | .arr _::bs,b::r=>b&&kl bs r
 | .var _::bs,b::r => !b&&kl bs r
 | .cvar _::bs,l=>kl bs l
 | .dead::bs,l=>kl bs l
 | _,_=>false
def yx.ok(s:yx):Bool:=kl s.bs (kinds s.iB)&&s.iB.all (z58 s.bs)&&s.cs.all (fun p=>CH s.bs p.2)&&s.bs.all (z60 s.bs)
def yx.un(s:yx)(fr:Fr)(st:St):T s.den :=
 bif s.ok&&(st.take s.bs.length).all (Vx s.bs.length)then(MF fr st s.cs).bind fun _=>(Xy st s.bs st).bind fun bl=>WR fr st s.iB bl
 else .fail
structure Way where
 ex:Ex
 sh:yx
def jA:List Way→Type
 | []=>Empty
 | [w]=>w.sh.den
 | w::v::r=>w.sh.den⊕jA (v::r)
def Hs{α:Type}:(l:List Way)→jA l→(Ex→Fr→St→T α)→T α
 | [],x,_=>nomatch x
 | [w],x,k=>k w.ex (w.sh.fr x) (w.sh.st x)
 | w::v::r,x,k=>Sum.elim (fun a=>k w.ex (w.sh.fr a) (w.sh.st a)) (fun b=>Hs (v::r) b k) x
def lv:Ex→Ex→Bool
 | .normal,.normal=>true
 | .ret,.ret=>true
 | .exit a,.exit b=>Nat.beq a b
 | .jq (.iface t _),.jq (.iface t' _)=>Nat.beq t t'
 | _,_=>false
def Xu:Ex→Fr→Fr
 | .jq (.iface _ d),_=>[(0,some d)]
 | _,fr=>fr
def KM:Ex→Fr→Option (Ex×Fr)
 | .jq (.iface t _),fr=>match fr.get 0 with | some d=>some (.jq (.iface t d),[]) | none=>none
 | .jq _,_=>none
 | e,fr=>some (e,fr)
def Ve:(l:List Way)→Ex→Fr→St→T (jA l)
 | [],_,_,_=>.fail
 | [w],ex,fr,st=>bif lv w.ex ex then w.sh.un fr st else .fail
 | w::v::r,ex,fr,st=>bif lv w.ex ex then(w.sh.un fr st).bind fun x=>.ret (.inl x)else(Ve (v::r) ex fr st).bind fun y=>.ret (.inr y)
end Go.AM
namespace Go.AM
set_option linter.unusedSectionVars false
variable [vP] [Xl]
section
variable {c:Ctx} {n:Nat}
theorem get_mem:∀ {l:Fr} {s:Nat} {d:D},l.get s=some d→(s,some d)∈l
 | [],s,d,h=>by cases h
 | (t,d')::r,s,d,h=>by
  simp only[Fr.get]at h
  cases ht:Nat.beq t s with
  | true =>
   rw[ht,cond_true]at h
   rw[Nat.eq_of_beq_eq_true ht,h]
   exact List.mem_cons_self
  | false=>rw[ht,cond_false]at h; exact List.mem_cons_of_mem _ (get_mem h)
theorem get_append{l m:Fr}{s:Nat}{d:D}(h:(l++m).get s=some d):(s,some d)∈l∨m.get s=some d:=by
 induction l with
 | nil=>exact .inr h
 | cons p r ih =>
  obtain⟨t,d'⟩:=p
  simp only[List.cons_append,Fr.get]at h
  cases ht:Nat.beq t s with
  | true=>rw[ht,cond_true]at h; rw[Nat.eq_of_beq_eq_true ht,h]; exact .inl List.mem_cons_self
  | false=>rw[ht,cond_false]at h; exact yE (ih h) (List.mem_cons_of_mem _) id
structure Wk(κ κ':KS):Prop where
 w:κ'.w=κ.w
 ok:κ'.ok=κ.ok
 ph:κ'.ph=κ.ph
 len:κ'.st.length=κ.st.length
 var:∀ (b:Nat) (d:D),κ.st[b]? = some (ju.var d)→∃ d',κ'.st[b]? = some (ju.var d')
 arr:∀ (b v:Nat) (e:Ty) (xs:List (den e)),κ.st[b]? = some (ju.arr v e xs)→κ'.st[b]? = some (ju.arr v e xs)∨κ'.st[b]? = some ju.dead
 arr':∀ (b v:Nat) (e:Ty) (xs:List (den e)),κ'.st[b]? = some (ju.arr v e xs)→κ.st[b]? = some (ju.arr v e xs)
 dead:∀ (b:Nat),κ.st[b]? = some ju.dead→κ'.st[b]? = some ju.dead
theorem Wk.ext{κ κ':KS}(h:Wk κ κ'):Ext κ κ':=by
 refine⟨by rw[h.w],by rw[h.w],by rw[h.w],by rw[h.w]; exact Nat.le_refl _,fun k hk=>⟨by rw[h.ok]; exact hk,by rw[h.w]⟩,fun k hk=>.inl (by rw[← h.ok]; exact hk),
  fun b blk m hb=>.inl (by rw[← h.ph]; exact hb),fun b d hd=>⟨h.var b d hd,by rw[h.ph]⟩,fun b v0 e xs hb => ?_,h.dead,by rw[h.len]; exact Nat.le_refl _,fun k _ _=>by rw[h.w]⟩
 rcases h.arr b v0 e xs hb with g | g
 ·exact .inr ⟨v0,xs,g,Nat.le_refl _,fun _=>⟨by rw[h.ph],rfl⟩⟩
 ·exact .inl g
theorem Wk.rd{κ κ':KS}(h:Wk κ κ'){d:D}{v:Value}(hd:RD κ d v):RD κ' d v:=hd.mono h.ext
theorem Wk.inv{κ κ':KS}(h:Wk κ κ')(hI:Inv κ)(hv:∀ (b:Nat) (d:D),κ'.st[b]? = some (ju.var d)→de κ' b (.var d)):Inv κ':=by
 refine⟨by rw[h.ph,h.len]; exact hI.len,fun k hk=>by rw[h.w]; exact hI.kY k (by rw[← h.ok]; exact hk),fun b blk m hb => ?_,fun b b' blk m m' hb X3=>hI.inj b b' blk m m' (by rw[← h.ph]; exact hb) (by rw[← h.ph]; exact X3),fun b x hx => ?_,hI.gl.mono h.ext.same⟩
 ·obtain⟨g1,g2⟩:=hI.apart b blk m (by rw[← h.ph]; exact hb)
  exact⟨by rw[h.w]; exact g1,fun hk=>g2 (by rw[← h.ok]; exact hk)⟩
 ·cases x with
  | dead=>trivial
  | var d=>exact hv b d hx
  | arr v e xs=>exact(hI.blk b _ (h.arr' b v e xs hx)).mono h.ext (by rw[h.ph]) fun blk m _=>by rw[h.w]
theorem Zt{p:rT}{d:D}{x:den p.ty}(h:GY p d=some x){κ:KS}{v:Value}(hd:RD κ d v):RD κ (WD p x) v:=by
 cases p with
 | rp τ =>
  cases d<;>simp only[GY]at h<;>try (cases h; done)
  obtain⟨e,hx⟩:=qe h
  cases e
  cases hx
  exact hd
 | im τ=>exact yZ hd h
theorem sx{κ:KS}:∀ (l:List rT) (ds:List D) (x:kW l) (vs:List Value),Yz l ds=some x→qG κ ds vs→qG κ (eE l x) vs
 | [],[],x,vs,_,hd=>by rw[hd.qo]; exact .nil
 | [],_::_,_,_,h,_=>nomatch h
 | [p],[],_,_,h,_=>nomatch h
 | [p],[d],x,vs,h,hd=>by
  obtain⟨v,us,rfl,h1,h2⟩:=hd.cons_inv
  rw[h2.qo]
  exact .cons (Zt h h1) .nil
 | [p],_::_::_,_,_,h,_=>nomatch h
 | p::q::r,[],_,_,h,_=>nomatch h
 | p::q::r,d::ds,x,vs,h,hd=>by
  obtain⟨y,hy,h⟩:=Option.bind_eq_some_iff.1 h
  obtain⟨z,hz,h⟩:=Option.bind_eq_some_iff.1 h
  cases h
  obtain⟨v,us,rfl,h1,h2⟩:=hd.cons_inv
  exact .cons (Zt hy h1) (sx (q::r) ds z us hz h2)
theorem L7{κ:KS}{d:D}{v:Value}(hd:RD κ d v)(ha:d.gU=true):∃ c,v=.agg c:=by
 cases hd with
 | zi τ x cs h=>exact⟨cs.toArray,by unfold pk; rw[show τ.isAgg=true from ha]; rfl⟩
 | agg l vs hl ho h=>exact⟨_,rfl⟩
 | _=>cases ha
theorem Lv{κ:KS}{b T:Nat}{ds q:List D}{vs:List Value}(hd:qG κ ds vs)(h:L2 κ.st b T ds=some q):∃ v us,vs=v::us∧RD κ (.b6 b T) v∧qG κ q us:=by
 unfold L2 at h
 split at h
 ·rename_i d0 QZ
  split at h
  ·rename_i T' ds
   cases hb:Nat.beq T T' with
   | false=>rw[hb]at h; cases h
   | true =>
    rw[hb]at h
    cases h
    obtain⟨v,us,rfl,g1,g2⟩:=hd.cons_inv
    exact⟨v,us,rfl,by cases g1; exact .h9 b T d0 QZ,g2⟩
  ·rename_i b' T' ds
   cases hb:Nat.beq b b'&&Nat.beq T T' with
   | false=>rw[hb]at h; cases h
   | true =>
    rw[hb]at h
    cases h
    simp only[Bool.and_eq_true]at hb
    have e1:=Nat.eq_of_beq_eq_true hb.1
    have e2:=Nat.eq_of_beq_eq_true hb.2
    subst e1 e2
    obtain⟨v,us,rfl,g1,g2⟩:=hd.cons_inv
    exact⟨v,us,rfl,g1,g2⟩
  ·cases h
 ·cases h
theorem Yt{st:St}{b T:Nat}{ds q:List D}(h:L2 st b T ds=some q):y5 ds=some T:=by
 unfold L2 at h
 split at h
 ·split at h
  ·rename_i T' ds
   cases hb:Nat.beq T T' with
   | false=>rw[hb]at h; cases h
   | true=>rw[Nat.eq_of_beq_eq_true hb]; rfl
  ·rename_i b' T' ds
   cases hb:Nat.beq b b'&&Nat.beq T T' with
   | false=>rw[hb]at h; cases h
   | true =>
    simp only[Bool.and_eq_true]at hb
    rw[Nat.eq_of_beq_eq_true hb.2]; rfl
  ·cases h
 ·cases h
theorem M1{κ:KS}{ds q:List D}{vs:List Value}(hd:qG κ ds vs)(h:PS ds=some q):∃ v us,vs=v::us∧RD κ .pn v∧qG κ q us:=by
 unfold PS at h
 split at h
 ·rename_i d ds
  cases hb:d.one with
  | false=>rw[hb]at h; cases h
  | true =>
   rw[hb]at h
   cases h
   obtain⟨v,us,rfl,g1,g2⟩:=hd.cons_inv
   exact⟨v,us,rfl,.pn v (g1.Vu hb),g2⟩
 ·cases h
theorem bh{κ:KS}{zu:St}{bs:List Bk}(XC:∀ b,rowAt bs b=true→xO zu b=yB κ.st b):∀ (ks:List Sk) (ds:List D) (x:gN ks) (vs:List Value),ks.all (Mo bs)=true→(bu κ.st ks ds).leads x→qG κ ds vs →
  qG κ (wL zu ks x) vs∧∀ d∈wL zu ks x,d.one=true
 | [],ds,x,vs,_,h,hd=>by
  cases ds with
  | nil=>exact⟨hd,fun d hm=>by cases hm⟩
  | cons d r=>exact h.elim
 | .im τ::r,ds,x,vs,ho,h,hd=>by
  simp only[bu]at h
  split at h
  ·rename_i p hp
   obtain⟨y,h1,h2⟩:=T.ze.1 h
   cases h2
   obtain⟨c1,c2,rfl,g1,g2⟩:=mu τ hd hp
   simp only[List.all_cons,Bool.and_eq_true]at ho
   obtain⟨k1,k2⟩:=bh XC r p.2 y c2 ho.2 h1 g2
   refine⟨(lj g1).append k1,fun d hm => ?_⟩
   rcases List.mem_append.1 (show d∈flat τ p.1++wL zu r y from hm)with hm | hm
   ·exact gH τ _ d hm
   ·exact k2 d hm
  ·exact h.elim
 | .row b e::r,ds,x,vs,ho,h,hd=>by
  cases ds with
  | nil=>exact h.elim
  | cons d ds =>
   cases d<;>simp only[bu]at h<;>try (exact h.elim)
   rename_i b' qs e' off len
   cases hb:Nat.beq b b'&&decide (e=e')with
   | false=>rw[hb]at h; exact h.elim
   | true =>
    rw[hb,cond_true]at h
    simp only[Bool.and_eq_true,decide_eq_true_eq]at hb
    obtain⟨⟨h1,h2,h3⟩,h⟩:=h
    have:=Nat.eq_of_beq_eq_true hb.1
    obtain⟨-,rfl⟩:=hb
    subst this
    obtain⟨v,us,rfl,g1,g2⟩:=hd.cons_inv
    simp only[List.all_cons,Bool.and_eq_true]at ho
    obtain⟨k1,k2⟩:=bh XC r ds x us ho.2 h g2
    have e1:wL zu (.row b e::r) x=.ms b qs e off len::wL zu r x:=by
     show D.ms b (xO zu b) e 0 (xO zu b)::_=_
     rw[XC b ho.1,h1,h2,h3]
    rw[e1]
    refine⟨.cons g1 k1,fun d hm => ?_⟩
    rcases List.mem_cons.1 hm with rfl | hm
    ·rfl
    ·exact k2 d hm
 | .op b T::r,ds,x,vs,ho,h,hd=>by
  simp only[List.all_cons,Bool.and_eq_true]at ho
  simp only[bu]at h
  split at h
  ·rename_i q hq
   obtain⟨v,us,rfl,g0,g2⟩:=Lv hd hq
   obtain⟨k1,k2⟩:=bh XC r q x us ho.2 h g2
   refine⟨show qG κ (D.b6 b T::wL zu r x) (v::us)from .cons g0 k1,fun d hm => ?_⟩
   rcases List.mem_cons.1 (show d∈D.b6 b T::wL zu r x from hm)with rfl | hm
   ·rfl
   ·exact k2 d hm
  ·exact h.elim
 | .un::r,ds,x,vs,ho,h,hd=>by
  simp only[List.all_cons,Bool.and_eq_true]at ho
  simp only[bu]at h
  split at h
  ·rename_i q hq
   obtain⟨v,us,rfl,g0,g2⟩:=M1 hd hq
   obtain⟨k1,k2⟩:=bh XC r q x us ho.2 h g2
   refine⟨show qG κ (D.pn::wL zu r x) (v::us)from .cons g0 k1,fun d hm => ?_⟩
   rcases List.mem_cons.1 (show d∈D.pn::wL zu r x from hm)with rfl | hm
   ·rfl
   ·exact k2 d hm
  ·exact h.elim
theorem lP{st zu:St}{bs:List Bk}(h:∀ b,rowAt bs b=true→xO st b=xO zu b):∀ (ks:List Sk) (x:gN ks),ks.all (Mo bs)=true→wL st ks x=wL zu ks x
 | [],_,_=>rfl
 | .im τ::r,x,ho=>by
  simp only[List.all_cons,Bool.and_eq_true]at ho
  show flat τ x.1++wL st r x.2=flat τ x.1++wL zu r x.2
  rw[lP h r x.2 ho.2]
 | .row b e::r,x,ho=>by
  simp only[List.all_cons,Bool.and_eq_true]at ho
  show D.ms b (xO st b) e 0 (xO st b)::wL st r x=D.ms b (xO zu b) e 0 (xO zu b)::wL zu r x
  rw[lP h r x ho.2,h b ho.1]
 | .op b T::r,x,ho=>by
  simp only[List.all_cons,Bool.and_eq_true]at ho
  show D.b6 b T::wL st r x=D.b6 b T::wL zu r x
  rw[lP h r x ho.2]
 | .un::r,x,ho=>by
  simp only[List.all_cons,Bool.and_eq_true]at ho
  show D.pn::wL st r x=D.pn::wL zu r x
  rw[lP h r x ho.2]
theorem ZM:∀ (τ:Ty) (x:den τ),∀ y∈flat τ x,∃ σ z,y=.zi σ z:=by
 intro τ x y hy
 induction τ with
 | cons a b ia ib =>
  simp only[flat,List.mem_append]at hy
  rcases hy with hy | hy
  ·exact ia _ hy
  ·exact ib _ hy
 | nil=>simp[flat]at hy
 | expr=>simp[flat]at hy; rcases hy with rfl | rfl | rfl | rfl | rfl | rfl<;>exact⟨_,_,rfl⟩
 | _=>simp[flat]at hy; subst hy; exact⟨_,_,rfl⟩
theorem U9:∀ (τ:Ty) {ds:List D} {p:den τ×List D},uJ τ ds=some p→τ.size=0→p.2=ds:=by
 intro τ
 induction τ with
 | nil=>intro ds p h _; simp only[uJ,Option.some.injEq]at h; subst h; rfl
 | cons a b ia ib =>
  intro ds p h hz
  simp only[Ty.size]at hz
  simp only[uJ]at h
  split at h
  ·rename_i q hq
   split at h
   ·rename_i q' hq'
    cases h
    have h1:=ia hq (by omega)
    have h2:=ib hq' (by omega)
    simp only at h1 h2 ⊢
    rw[h2,h1]
   ·cases h
  ·cases h
 | _=>intro ds p h hz; simp[Ty.size]at hz
theorem sX{st zu:St}{tt:Nat}:∀ (ks:List Sk) (ds:List D) (x:gN ks),(bu st ks ds).leads x→y5 (wL zu ks x)=some tt→y5 ds=some tt
 | [],ds,x,h,ht=>by cases ht
 | .im τ::r,ds,x,h,ht=>by
  simp only[bu]at h
  split at h
  ·rename_i p hp
   obtain⟨y,h1,h2⟩:=T.ze.1 h
   cases h2
   have ht':y5 (flat τ p.1++wL zu r y)=some tt:=ht
   cases hf:flat τ p.1 with
   | nil =>
    rw[hf]at ht'
    have hz:τ.size=0:=by rw[← pe τ p.1,hf]; rfl
    have:=U9 τ hp hz
    rw[← this]
    exact sX r p.2 y h1 ht'
   | cons z zs =>
    rw[hf]at ht'
    obtain⟨σ,w,e⟩:=ZM τ p.1 z (by rw[hf]; simp)
    rw[e]at ht'
    cases ht'
  ·exact h.elim
 | .row b e::r,ds,x,h,ht=>by cases ht
 | .op b T'::r,ds,x,h,ht=>by
  simp only[bu]at h
  split at h
  ·rename_i q hq
   cases ht
   exact Yt hq
  ·exact h.elim
 | .un::r,ds,x,h,ht=>by cases ht
theorem tx{d:D}{T:Nat}(ha:d.gU=true)(h:y5 (zW d)=some T):d.typed=some T:=by
 cases d with
 | zi τ x =>
  exfalso
  simp only[zW]at h
  cases hf:flat τ x with
  | nil=>rw[hf]at h; cases h
  | cons z zs =>
   obtain⟨σ,w,e⟩:=ZM τ x z (by rw[hf]; simp)
   rw[hf,e]at h
   cases h
 | agg l=>exact h
 | _=>cases ha
theorem Vn{m:Nat}(τ:Ty)(x:den τ):∀ d∈flat τ x,vj m d=true:=fun d hd=>by
 obtain⟨σ,z,rfl⟩:=ZM τ x d hd
 rfl
theorem jd{m:Nat}{st:St}{bs:List Bk}(hb:∀ b,rowAt bs b=true→b<m)(I3:∀ b,tn bs b=true→b<m):∀ (ks:List Sk) (x:gN ks),ks.all (Mo bs)=true→∀ d∈wL st ks x,vj m d=true
 | [],_,_,d,hd=>by cases hd
 | .im τ::r,x,ho,d,hd=>by
  simp only[List.all_cons,Bool.and_eq_true]at ho
  rcases List.mem_append.1 (show d∈flat τ x.1++wL st r x.2 from hd)with hd | hd
  ·exact Vn τ _ d hd
  ·exact jd hb I3 r x.2 ho.2 d hd
 | .row b e::r,x,ho,d,hd=>by
  simp only[List.all_cons,Bool.and_eq_true]at ho
  rcases List.mem_cons.1 (show d∈D.ms b (xO st b) e 0 (xO st b)::wL st r x from hd)with rfl | hd
  ·have:=hb b ho.1
   simp only[vj,Nat.blt,Nat.ble_eq]; exact this
  ·exact jd hb I3 r x ho.2 d hd
 | .op b T::r,x,ho,d,hd=>by
  simp only[List.all_cons,Bool.and_eq_true]at ho
  rcases List.mem_cons.1 (show d∈D.b6 b T::wL st r x from hd)with rfl | hd
  ·have:=I3 b ho.1
   simp only[vj,Nat.blt,Nat.ble_eq]; exact this
  ·exact jd hb I3 r x ho.2 d hd
 | .un::r,x,ho,d,hd=>by
  simp only[List.all_cons,Bool.and_eq_true]at ho
  rcases List.mem_cons.1 (show d∈D.pn::wL st r x from hd)with rfl | hd
  ·rfl
  ·exact jd hb I3 r x ho.2 d hd
theorem mg{κ:KS}:∀ (ms:List Mc) (ds:List D) (x:eB ms) (vs:List Value),(nj ms ds).leads x→qG κ ds vs→qG κ (nf ms x) vs
 | [],ds,x,vs,h,hd=>by
  cases ds with
  | nil=>exact hd
  | cons d r=>exact h.elim
 | .im τ::r,ds,x,vs,h,hd=>by
  cases ds with
  | nil=>exact h.elim
  | cons d ds =>
   simp only[nj]at h
   split at h
   ·rename_i y hy
    obtain⟨z,h1,h2⟩:=T.ze.1 h
    cases h2
    obtain⟨v,us,rfl,g1,g2⟩:=hd.cons_inv
    exact .cons (yZ g1 hy) (mg r ds z us h1 g2)
   ·exact h.elim
 | .rp τ::r,ds,x,vs,h,hd=>by
  cases ds with
  | nil=>exact h.elim
  | cons d ds =>
   cases d<;>simp only[nj]at h<;>try (exact h.elim)
   split at h
   ·rename_i y hy
    obtain⟨e,hx⟩:=qe hy
    cases e
    cases hx
    obtain⟨z,h1,h2⟩:=T.ze.1 h
    cases h2
    obtain⟨v,us,rfl,g1,g2⟩:=hd.cons_inv
    exact .cons g1 (mg r ds z us h1 g2)
   ·exact h.elim
 | .pt b::r,ds,x,vs,h,hd=>by
  cases ds with
  | nil=>exact h.elim
  | cons d ds =>
   cases d<;>simp only[nj]at h<;>try (exact h.elim)
   rename_i b' off
   cases hb:Nat.beq b b'&&Nat.beq off 0 with
   | false=>rw[hb]at h; exact h.elim
   | true =>
    rw[hb]at h
    replace h:(nj r ds).leads x:=h
    simp only[Bool.and_eq_true]at hb
    have e1:=Nat.eq_of_beq_eq_true hb.1
    have e2:=Nat.eq_of_beq_eq_true hb.2
    subst e1 e2
    obtain⟨v,us,rfl,g1,g2⟩:=hd.cons_inv
    exact .cons g1 (mg r ds x us h g2)
theorem hZ{m:Nat}{bs:List Bk}(hb:∀ b,tn bs b=true→b<m):∀ (ms:List Mc) (x:eB ms),ms.all (SI bs)=true→∀ d∈nf ms x,vj m d=true
 | [],_,_,d,hd=>by cases hd
 | .im τ::r,x,ho,d,hd=>by
  simp only[List.all_cons,Bool.and_eq_true]at ho
  rcases List.mem_cons.1 (show d∈D.zi τ x.1::nf r x.2 from hd)with rfl | hd
  ·rfl
  ·exact hZ hb r x.2 ho.2 d hd
 | .rp τ::r,x,ho,d,hd=>by
  simp only[List.all_cons,Bool.and_eq_true]at ho
  rcases List.mem_cons.1 (show d∈D.qK τ x.1::nf r x.2 from hd)with rfl | hd
  ·rfl
  ·exact hZ hb r x.2 ho.2 d hd
 | .pt b::r,x,ho,d,hd=>by
  simp only[List.all_cons,Bool.and_eq_true]at ho
  rcases List.mem_cons.1 (show d∈D.ptr b 0::nf r x from hd)with rfl | hd
  ·have:=hb b ho.1
   simp only[vj,Nat.blt,Nat.ble_eq]; exact this
  ·exact hZ hb r x ho.2 d hd
theorem Vg{κ κ':KS}(hw:Wk κ κ'){k:Dk}{d:D}{x:k.den}{v:Value}{bs:List Bk}(w8:Ki bs k=true)(XC:∀ b,rowAt bs b=true→xO κ'.st b=xO κ.st b)
  {zu:St} (xh:∀ b,rowAt bs b=true→xO zu b=xO κ'.st b) (hlen:∀ b,rowAt bs b=true→xO κ.st b=yB κ.st b) (h:(nX κ.st k d).leads x) (hd:RD κ d v):RD κ' (il zu k x) v:=by
 cases k with
 | zi τ=>exact hw.rd (yZ hd (T.vC.1 h))
 | qK τ =>
  cases d<;>simp only[nX]at h<;>try (exact h.elim)
  obtain⟨e,hx⟩:=qe (T.vC.1 h)
  cases e
  cases hx
  exact hw.rd hd
 | sub b e =>
  cases d<;>simp only[nX]at h<;>try (exact h.elim)
  rename_i b' qs e' off len
  cases hb:Nat.beq b b'&&decide (e=e')with
  | false=>rw[hb]at h; exact h.elim
  | true =>
   rw[hb,cond_true]at h
   simp only[Bool.and_eq_true,decide_eq_true_eq]at hb
   obtain⟨hv,h⟩:=h
   cases h
   have:=Nat.eq_of_beq_eq_true hb.1
   obtain⟨-,rfl⟩:=hb
   subst this
   simp only[il]
   rw[xh b w8,XC b w8,← hv]
   exact hw.rd hd
 | xg f caps =>
  cases d<;>simp only[nX]at h<;>try (exact h.elim)
  rename_i f' l
  cases hb:Nat.beq f f' with
  | false=>rw[hb]at h; exact h.elim
  | true =>
   rw[hb,cond_true]at h
   have:=Nat.eq_of_beq_eq_true hb
   subst this
   have hx:=T.vC.1 h
   cases hd with
   | xg _ _ vs hl hh =>
    have:=sx caps l x vs hx (⟨hl,hh⟩:qG κ l vs)
    exact hw.rd (.xg f _ vs this.1 this.2)
 | st ks =>
  simp only[nX]at h
  cases ha:d.gU with
  | false=>rw[ha]at h; exact h.elim
  | true =>
   rw[ha]at h
   replace h:(bu κ.st ks (zW d)).leads x:=h
   have ht:d.vN=false:=by cases d<;>first | rfl | (simp[D.gU]at ha)
   obtain⟨g1,g2⟩:=bh (zu:=zu) (fun b hb=>(xh b hb).trans ((XC b hb).trans (hlen b hb))) ks (zW d) x _ w8 h (uD hd ht)
   obtain⟨c,hc⟩:=L7 hd ha
   subst hc
   have g1':qG κ (wL zu ks x) c.toList:=g1
   have:=RD.agg (κ:=κ) _ c.toList g1'.1 g2 g1'.2
   exact hw.rd (show RD κ (.agg (wL zu ks x)) (.agg c) by simpa using this)
 | mclo f ms =>
  cases d<;>simp only[nX]at h<;>try (exact h.elim)
  rename_i f' l
  cases hb:Nat.beq f f' with
  | false=>rw[hb]at h; exact h.elim
  | true =>
   rw[hb]at h
   replace h:(nj ms l).leads x:=h
   have:=Nat.eq_of_beq_eq_true hb
   subst this
   cases hd with
   | xg _ _ vs hl hh =>
    have:=mg ms l x vs h (⟨hl,hh⟩:qG κ l vs)
    exact hw.rd (show RD κ (.xg f (nf ms x)) _ from .xg f _ vs this.1 this.2)
theorem Wi:∀ {l:List (Nat×Nat)} {ds:List D},oh l ds=true→ds=l.map fun p=>.ptr p.1 p.2
 | [],[],_=>rfl
 | [],_::_,h=>by simp[oh]at h
 | p::r,[],h=>by simp[oh]at h
 | p::r,d::ds,h=>by
  cases d<;>simp only[oh]at h<;>try (cases h; done)
  simp only[Bool.and_eq_true]at h
  rw[Wi h.2,← Nat.eq_of_beq_eq_true h.1.1,← Nat.eq_of_beq_eq_true h.1.2]
  rfl
theorem O0{st zu:St}{ck:Ck}{d:D}{bs:List Bk}(w8:CH bs ck=true)(XC:∀ b,rowAt bs b=true→xO zu b=yB st b)(h:(tI st ck d).leads ()):Jn zu ck=d:=by
 cases ck with
 | ptr b off =>
  cases d<;>simp only[tI]at h<;>try (exact h.elim)
  rename_i b' off'
  cases hb:Nat.beq b b'&&Nat.beq off off' with
  | false=>rw[hb]at h; exact h.elim
  | true =>
   simp only[Bool.and_eq_true]at hb
   rw[← Nat.eq_of_beq_eq_true hb.1,← Nat.eq_of_beq_eq_true hb.2]
   rfl
 | cur b e =>
  cases d<;>simp only[tI]at h<;>try (exact h.elim)
  rename_i b' qs e' off len
  cases hb:Nat.beq b b'&&decide (e=e')with
  | false=>rw[hb]at h; exact h.elim
  | true =>
   rw[hb,cond_true]at h
   simp only[Bool.and_eq_true,decide_eq_true_eq]at hb
   obtain⟨⟨h1,h2,h3⟩,_⟩:=h
   have:=Nat.eq_of_beq_eq_true hb.1
   obtain⟨-,rfl⟩:=hb
   subst this
   simp only[Jn]
   rw[XC b w8,h1,h2,h3]
 | xb=>cases d<;>simp only[tI]at h<;>first | rfl | exact h.elim
 | jE=>cases d<;>simp only[tI]at h<;>first | rfl | exact h.elim
 | qQ=>cases d<;>simp only[tI]at h<;>first | rfl | exact h.elim
 | xg f l =>
  cases d<;>simp only[tI]at h<;>try (exact h.elim)
  rename_i f' l'
  cases hb:Nat.beq f f'&&oh l l' with
  | false=>rw[hb]at h; exact h.elim
  | true =>
   simp only[Bool.and_eq_true]at hb
   rw[← Nat.eq_of_beq_eq_true hb.1,Wi hb.2]
   rfl
theorem KI{fr:Fr}{st:St}:∀ {cs:List (Nat×Ck)},(MF fr st cs).leads ()→∀ p∈cs,∃ d,fr.get p.1=some d∧(tI st p.2 d).leads ()
 | [],_,p,hp=>by cases hp
 | q::r,h,p,hp=>by
  simp only[MF]at h
  split at h
  ·rename_i d hd
   simp only[T.zH]at h
   obtain⟨⟨⟩,h1,h2⟩:=h
   rcases List.mem_cons.1 hp with rfl | hp
   ·exact⟨d,hd,h1⟩
   ·exact KI h2 p hp
  ·exact h.elim
def CJ(p:Dk→Bool)(st:St):List ju→List Bd→Prop
 | [],[]=>True
 | b::bl,.a e xs::r=>b=.arr xs.length e xs∧CJ p st bl r
 | b::bl,.v k x::r=>(∃ d,b=.var d∧(k.plain=true∧p k=true)∧(nX st k d).leads x)∧CJ p st bl r
 | _,_=>False
theorem FX{e:Ty}{b:ju}{x:List (den e)}(h:(Fj e b).leads x):b=.arr x.length e x:=by
 unfold Fj at h
 split at h
 ·split at h
  ·rename_i ys hy
   obtain⟨h1,h2⟩:=h
   cases h2
   obtain⟨he,hx⟩:=qe hy
   cases he
   cases hx
   rw[h1]
  ·exact h.elim
 ·exact h.elim
theorem Ft{st:St}{k:Dk}{b:ju}{x:k.den}(h:(Io st k b).leads x):∃ d,b=.var d∧k.plain=true∧(nX st k d).leads x:=by
 cases b with
 | var d =>
  simp only[Io]at h
  cases hp:k.plain with
  | false=>rw[hp]at h; exact h.elim
  | true=>rw[hp]at h; exact⟨d,rfl,rfl,h⟩
 | _=>exact h.elim
def Xp(st:St):(i:It)→i.den→Fr
 | .s t k,x=>[(t,some (il st k x))]
 | .v _,_=>[]
 | .a _,_=>[]
def DY:(i:It)→i.den→List Bd
 | .s _ _,_=>[]
 | .v k,x=>[.v k x]
 | .a e,x=>[.a e x]
theorem Qq(st:St)(i:It)(x:i.den):bw st [i] x=Xp st i x:=by cases i<;>rfl
theorem s6(st:St)(i j:It)(r:List It)(x:i.den×wv (j::r)):bw st (i::j::r) x=Xp st i x.1++bw st (j::r) x.2:=by cases i<;>rfl
theorem Es(i:It)(x:i.den):eO [i] x=DY i x:=by cases i<;>rfl
theorem CE(i j:It)(r:List It)(x:i.den×wv (j::r)):eO (i::j::r) x=DY i x.1++eO (j::r) x.2:=by cases i<;>rfl
def SE(fr:Fr)(st zu:St)(l:List It)(p:Nat×Option D):Prop:=∃ (k:Dk) (y:k.den) (d:D),(It.s p.1 k)∈l∧fr.get p.1=some d∧(nX st k d).leads y∧p.2=some (il zu k y)
theorem Bg{p:Dk→Bool}{fr:Fr}{st zu:St}{bl:List ju}{i:It}{x:i.den×List ju}(hp:∀ k,i=.v k→p k=true)(h:(Kw fr st bl i).leads x) :
  (∀ bd,CJ p st x.2 bd→CJ p st bl (DY i x.1++bd))∧∀ p∈Xp zu i x.1,SE fr st zu [i] p:=by
 cases i with
 | s t k =>
  simp only[Kw]at h
  split at h
  ·rename_i d hd
   rw[T.zH]at h
   obtain⟨y,h1,rfl⟩:=h
   refine⟨fun bd hb=>hb,fun p hp => ?_⟩
   simp only[Xp,List.mem_singleton]at hp
   subst hp
   exact⟨k,y,d,by simp,hd,h1,rfl⟩
  ·exact h.elim
 | v k =>
  cases bl with
  | nil=>exact h.elim
  | cons b r =>
   simp only[Kw]at h
   rw[T.zH]at h
   obtain⟨y,h1,rfl⟩:=h
   obtain⟨d,q1,q2,q3⟩:=Ft h1
   exact⟨fun bd hb=>⟨⟨d,q1,⟨q2,hp k rfl⟩,q3⟩,hb⟩,fun p hp=>by cases hp⟩
 | a e =>
  cases bl with
  | nil=>exact h.elim
  | cons b r =>
   simp only[Kw]at h
   rw[T.zH]at h
   obtain⟨y,h1,rfl⟩:=h
   exact⟨fun bd hb=>⟨FX h1,hb⟩,fun p hp=>by cases hp⟩
theorem Jl{α:Type}{x:α×List ju}{y:α}(h:(Kl x).leads y):x=(y,[]):=by
 obtain⟨a,bl⟩:=x
 cases bl with
 | nil=>cases h; rfl
 | cons=>exact h.elim
theorem pC{p:Dk→Bool}{fr:Fr}{st zu:St}:∀ (l:List It) (bl:List ju) (x:wv l),(∀ k,It.v k∈l→p k=true)→(WR fr st l bl).leads x →
  CJ p st bl (eO l x)∧∀ p∈bw zu l x,SE fr st zu l p
 | [],bl,x,_,h=>by
  have h':(Kl ((),bl)).leads x:=h
  have:=Jl h'
  cases this
  exact⟨trivial,fun p hp=>by cases hp⟩
 | [i],bl,x,hp,h=>by
  have h':((Kw fr st bl i).bind Kl).leads x:=h
  obtain⟨y,h1,h2⟩:=T.ze.1 h'
  have:=Jl h2
  subst this
  obtain⟨g1,g2⟩:=Bg (p:=p) (zu:=zu) (fun k hk=>hp k (by simp[hk])) h1
  have e1:eO [i] x=DY i x:=Es i x
  have e2:bw zu [i] x=Xp zu i x:=Qq zu i x
  rw[e1,e2]
  refine⟨?_,g2⟩
  have:=g1 [] trivial
  rwa [List.append_nil]at this
 | i::j::r,bl,x,hp,h=>by
  have h':((Kw fr st bl i).bind fun x=>(WR fr st (j::r) x.2).bind fun y=>T.ret (x.1,y)).leads x:=h
  obtain⟨y,h1,h2⟩:=T.ze.1 h'
  obtain⟨z,h3,h4⟩:=T.ze.1 h2
  cases h4
  obtain⟨g1,g2⟩:=Bg (p:=p) (zu:=zu) (fun k hk=>hp k (by simp[hk])) h1
  obtain⟨k1,k2⟩:=pC (p:=p) (zu:=zu) (j::r) y.2 z (fun k hk=>hp k (List.mem_cons_of_mem _ hk)) h3
  have e1:eO (i::j::r) (y.1,z)=DY i y.1++eO (j::r) z:=CE i j r (y.1,z)
  have e2:bw zu (i::j::r) (y.1,z)=Xp zu i y.1++bw zu (j::r) z:=s6 zu i j r (y.1,z)
  rw[e1,e2]
  refine⟨g1 _ k1,fun p hp => ?_⟩
  rcases List.mem_append.1 hp with hp | hp
  ·obtain⟨k,w,d,q1,q2⟩:=g2 p hp
   exact⟨k,w,d,by simp at q1; simp[q1],q2⟩
  ·obtain⟨k,w,d,q1,q2⟩:=k2 p hp
   exact⟨k,w,d,List.mem_cons_of_mem _ q1,q2⟩
inductive WQ(p:Dk→Bool)(st zu:St):Bk→ju→ju→Prop
 | arr (e e':Ty) (xs:List (den e)):WQ p st zu (.arr e') (.arr xs.length e xs) (.arr xs.length e xs)
 | var (k k':Dk) (d:D) (x:k.den) (hp:k.plain=true∧p k=true) (h:(nX st k d).leads x):WQ p st zu (.var k') (.var d) (.var (il zu k x))
 | cvar (ck:Ck) (d:D) (h:(tI st ck d).leads ()):WQ p st zu (.cvar ck) (.var d) (.var (Jn zu ck))
 | dead (b:ju) (h:Gz b=false):WQ p st zu .dead b .dead
def gk:List Bd→List Bool
 | []=>[]
 | .v _ _::r=>false::gk r
 | .a _ _::r=>true::gk r
theorem fb:∀ (l:List It) (x:wv l),gk (eO l x)=kinds l
 | [],_=>rfl
 | [.s _ _],_=>rfl
 | [.v _],_=>rfl
 | [.a _],_=>rfl
 | .s _ _::j::r,x=>fb (j::r) x.2
 | .v _::j::r,x=>congrArg (false :: ·) (fb (j::r) x.2)
 | .a _::j::r,x=>congrArg (true :: ·) (fb (j::r) x.2)
theorem ou{p:Dk→Bool}{st st0:St}:∀ {bs:List Bk} {blocks bl:List ju} {bd:List Bd},(Xy st bs blocks).leads bl→CJ p st bl bd→kl bs (gk bd)=true →
  (vb st0 bs bd).length=bs.length∧(∀ b,rowAt bs b=true→xO (yn bs bd) b=yB blocks b∧xO (vb st0 bs bd) b=yB blocks b∧xO blocks b=yB blocks b) ∧
  ∀ (i:Nat) (k:Bk),bs[i]? = some k→∃ B B',blocks[i]? = some B∧(vb st0 bs bd)[i]? = some B'∧WQ p st st0 k B B'
 | [],blocks,bl,bd,h,hb,ho=>by
  refine⟨by simp[vb],fun b hb=>by simp[rowAt]at hb,fun i k hk=>by simp at hk⟩
 | k::r,[],bl,bd,h,hb,ho=>by cases k<;>exact h.elim
 | .arr e::r,b::blocks,bl,bd,h,hb,ho=>by
  simp only[Xy,T.zH]at h
  obtain⟨l,h1,rfl⟩:=h
  cases bd with
  | nil=>exact hb.elim
  | cons q bd =>
   cases q with
   | v k x=>simp[gk,kl]at ho
   | a e' xs =>
    obtain⟨rfl,Uq⟩:=hb
    simp only[gk,kl,Bool.true_and]at ho
    obtain⟨g1,g2,g3⟩:=ou (st0:=st0) h1 Uq ho
    refine⟨by simp[vb,g1],fun b hb => ?_,fun i k hk => ?_⟩
    ·cases b with
     | zero=>simp[yn,vb,xO,TG,yB]
     | succ b=>have:=g2 b (by simpa[rowAt]using hb); simpa[yn,vb,xO,yB]using this
    ·cases i with
     | zero=>simp at hk; subst hk; exact⟨_,_,rfl,rfl,.arr e' e xs⟩
     | succ i=>simpa[vb]using g3 i k (by simpa using hk)
 | .var k0::r,b::blocks,bl,bd,h,hb,ho=>by
  simp only[Xy,T.zH]at h
  obtain⟨l,h1,rfl⟩:=h
  cases bd with
  | nil=>exact hb.elim
  | cons q bd =>
   cases q with
   | a e' xs=>simp[gk,kl]at ho
   | v k x =>
    obtain⟨⟨d,rfl,hp,hd⟩,Uq⟩:=hb
    simp only[gk,kl,Bool.not_false,Bool.true_and]at ho
    obtain⟨g1,g2,g3⟩:=ou (st0:=st0) h1 Uq ho
    refine⟨by simp[vb,g1],fun b hb => ?_,fun i k hk => ?_⟩
    ·cases b with
     | zero=>simp[rowAt]at hb
     | succ b=>have:=g2 b (by simpa[rowAt]using hb); simpa[yn,vb,xO,yB]using this
    ·cases i with
     | zero=>simp at hk; subst hk; exact⟨_,_,rfl,rfl,.var k k0 d x hp hd⟩
     | succ i=>simpa[vb]using g3 i k (by simpa using hk)
 | .cvar ck::r,b::blocks,bl,bd,h,hb,ho=>by
  cases b with
  | var d =>
   simp only[Xy,T.zH]at h
   obtain⟨⟨⟩,h0,h1⟩:=h
   have Sc:kl r (gk bd)=true:=by cases bd<;>simpa[kl]using ho
   obtain⟨g1,g2,g3⟩:=ou (st0:=st0) h1 hb Sc
   have e1:vb st0 (.cvar ck::r) bd=.var (Jn st0 ck)::vb st0 r bd:=by cases bd<;>rfl
   have e0:yn (.cvar ck::r) bd=.dead::yn r bd:=by cases bd<;>rfl
   rw[e0,e1]
   refine⟨by simp[g1],fun b hb => ?_,fun i k hk => ?_⟩
   ·cases b with
    | zero=>simp[rowAt]at hb
    | succ b=>have:=g2 b (by simpa[rowAt]using hb); simpa[xO,yB]using this
   ·cases i with
    | zero=>simp at hk; subst hk; exact⟨_,_,rfl,rfl,.cvar ck d h0⟩
    | succ i=>simpa using g3 i k (by simpa using hk)
  | _=>exact h.elim
 | .dead::r,b::blocks,bl,bd,h,hb,ho=>by
  simp only[Xy]at h
  cases hv:Gz b with
  | true=>rw[hv]at h; exact h.elim
  | false =>
   rw[hv,cond_false]at h
   have Sc:kl r (gk bd)=true:=by cases bd<;>simpa[kl]using ho
   obtain⟨g1,g2,g3⟩:=ou (st0:=st0) h hb Sc
   have e1:vb st0 (.dead::r) bd=.dead::vb st0 r bd:=by cases bd<;>rfl
   have e0:yn (.dead::r) bd=.dead::yn r bd:=by cases bd<;>rfl
   rw[e0,e1]
   refine⟨by simp[g1],fun b hb => ?_,fun i k hk => ?_⟩
   ·cases b with
    | zero=>simp[rowAt]at hb
    | succ b=>have:=g2 b (by simpa[rowAt]using hb); simpa[xO,yB]using this
   ·cases i with
    | zero=>simp at hk; subst hk; exact⟨_,_,rfl,rfl,.dead b hv⟩
    | succ i=>simpa using g3 i k (by simpa using hk)
inductive Refs(m:Nat):D→Prop
 | zi (τ:Ty) (x:AM.den τ):Refs m (.zi τ x)
 | tight (e:Ty) (l:List (AM.den e)) (ne:Bool):Refs m (.tight e l ne)
 | xb:Refs m .xb
 | jE:Refs m .jE
 | qQ:Refs m .qQ
 | vr:Refs m .vr
 | vq:Refs m .vq
 | pn:Refs m .pn
 | gz (T:Nat):Refs m (.gz T)
 | b6 (b T:Nat) (h:b<m):Refs m (.b6 b T)
 | ptr (b off:Nat) (h:b<m):Refs m (.ptr b off)
 | qK (τ:Ty) (x:AM.den τ):Refs m (.qK τ x)
 | vM (b qs:Nat) (e:Ty) (idx off:Nat) (h:b<m):Refs m (.vM b qs e idx off)
 | ms (b qs:Nat) (e:Ty) (off len:Nat) (h:b<m):Refs m (.ms b qs e off len)
 | xg (f:Nat) (l:List D) (h:∀ i (hi:i<l.length),Refs m l[i]):Refs m (.xg f l)
 | agg (l:List D) (h:∀ i (hi:i<l.length),Refs m l[i]):Refs m (.agg l)
 | jY (l:List D) (h:∀ i (hi:i<l.length),Refs m l[i]):Refs m (.jY l)
 | iface (t:Nat) (d:D) (h:Refs m d):Refs m (.iface t d)
theorem Refs.mono{m m':Nat}(hm:m≤m'){d:D}(h:Refs m d):Refs m' d:=by
 induction h with
 | ptr b off h=>exact .ptr b off (by omega)
 | b6 b T h=>exact .b6 b T (by omega)
 | vM b qs e idx off h=>exact .vM b qs e idx off (by omega)
 | ms b qs e off len h=>exact .ms b qs e off len (by omega)
 | xg f l h ih=>exact .xg f l ih
 | agg l h ih=>exact .agg l ih
 | jY l h ih=>exact .jY l ih
 | iface t d h ih=>exact .iface t d ih
 | _=>constructor
theorem M6{κ:KS}{m:Nat}{d:D}{v:Value}(h:RD κ d v)(hr:Refs m d):RD (κ.cut m) d v:=by
 induction h with
 | zi τ y cs h=>exact .zi τ y cs h
 | qW e a=>exact .qW e a
 | tight e l ne blk off f u7 w8 h hc=>exact .tight e l ne blk off f u7 w8 h hc
 | xb=>exact .xb
 | jE=>exact .jE
 | qQ=>exact .qQ
 | vr=>exact .vr
 | vq=>exact .vq
 | pn v h=>exact .pn v h
 | gz T=>exact .gz T
 | h9 b T d hb=>cases hr with | b6 _ _ qh=>exact b5 (.h9 b T d hb) (by simp only[vj,Nat.blt,Nat.ble_eq]; exact qh)
 | bC b T blk n d hb h=>cases hr with | b6 _ _ qh=>exact b5 (.bC b T blk n d hb h) (by simp only[vj,Nat.blt,Nat.ble_eq]; exact qh)
 | ptr b off blk n d hb h=>cases hr with | ptr _ _ qh=>exact b5 (.ptr b off blk n d hb h) (by simp only[vj,Nat.blt,Nat.ble_eq]; exact qh)
 | qK τ y cs blk off w8 h hc=>exact .qK τ y cs blk off w8 h hc
 | vM b qs e idx off blk o hb h=>cases hr with | vM _ _ _ _ _ qh=>exact b5 (.vM b qs e idx off blk o hb h) (by simp only[vj,Nat.blt,Nat.ble_eq]; exact qh)
 | ms b qs e off len cap a hb vx ha mZ h=>cases hr with | ms _ _ _ _ _ qh=>exact b5 (.ms b qs e off len cap a hb vx ha mZ h) (by simp only[vj,Nat.blt,Nat.ble_eq]; exact qh)
 | xg f l vs hl h ih=>cases hr with | xg _ _ hh=>exact .xg f l vs hl fun i h1 h2=>ih i h1 h2 (hh i h1)
 | agg l vs hl ho h ih=>cases hr with | agg _ hh=>exact .agg l vs hl ho fun i h1 h2=>ih i h1 h2 (hh i h1)
 | jY l vs hl h ih=>cases hr with | jY _ hh=>exact .jY l vs hl fun i h1 h2=>ih i h1 h2 (hh i h1)
 | iface t d v h ih=>cases hr with | iface _ _ hh=>exact .iface t d v (ih hh)
theorem Ul{a b:Nat}(h:a<b):Nat.blt a b=true:=by
 simp only[Nat.blt,Nat.ble_eq]; exact h
theorem EU{κ κe:KS}{m:Nat}(hx:Ext κ κe)(hm:κ.st.length≤m):Ext κ (κe.cut m):=by
 have qh:∀ b x,κ.st[b]? = some x→b<m:=fun b x h=>Nat.lt_of_lt_of_le (List.getElem?_eq_some_iff.1 h).1 hm
 have sP:∀ b,b<m→(κe.cut m).ph[b]? = κe.ph[b]? := fun b hb=>by simp only[KS.cut]; rw[List.getElem?_take,if_pos hb]
 refine⟨hx.os,hx.tape,hx.output,hx.size,hx.same,hx.fresh,fun b blk n h=>hx.Li b blk n (yp h).1,fun b d h => ?_,fun b v0 e xs h => ?_,fun b h=>zV (hx.dead b h) (qh b _ h),?_,hx.frame⟩
 ·obtain⟨⟨d',h1⟩,h2⟩:=hx.var b d h
  exact⟨⟨d',zV h1 (qh b _ h)⟩,(sP b (qh b _ h)).trans h2⟩
 ·rcases hx.arr b v0 e xs h with h1 | ⟨v1,x1,h1,h2,h3⟩
  ·exact .inl (zV h1 (qh b _ h))
  ·exact .inr ⟨v1,x1,zV h1 (qh b _ h),h2,fun he=>⟨(sP b (qh b _ h)).trans (h3 he).1,(h3 he).2⟩⟩
 ·have:=hx.Jk
  simp[KS.cut]; omega
theorem yx.oE{κ0 κ:KS}{fr:Fr}{a:Act}{sh:yx}{x:sh.den}(hx:Ext κ0 κ)(hI:Inv κ)(hR:Rel κ n fr.get a)(hl:κ0.st.length≤sh.bs.length)(h:(sh.un fr κ.st).leads x) :
  ∃ κ':KS,κ'.w=κ.w∧κ'.st=sh.st x∧Inv κ'∧Ext κ0 κ'∧Rel κ' n (sh.fr x).get a∧∀ (d:D) (v:Value),Refs sh.bs.length d→RD κ d v→RD κ' d v:=by
 unfold yx.un at h
 cases hc:sh.ok&&(κ.st.take sh.bs.length).all (Vx sh.bs.length)with
 | false=>rw[hc]at h; exact h.elim
 | true =>
  rw[hc,cond_true]at h
  simp only[Bool.and_eq_true,yx.ok,List.all_eq_true]at hc
  obtain⟨⟨⟨⟨z5x,z0O⟩,Y8⟩,hbs⟩,Z1⟩:=hc
  obtain⟨⟨⟩,h1,h⟩:=T.ze.1 h
  obtain⟨bl,h2,h3⟩:=T.ze.1 h
  have hIc:=Nc hI Z1
  -- the store cut
  let m:=sh.bs.length
  obtain⟨g1,g2⟩:=pC (p:=Ki sh.bs) (zu:=sh.st x) sh.iB bl x (fun k hk=>z0O _ hk) h3
  obtain⟨k1,k2,k3⟩:=ou (st0:=yn sh.bs (eO sh.iB x)) h2 g1 ((congrArg (kl sh.bs) (fb sh.iB x)).trans z5x)
  have xh:sh.st x=vb (yn sh.bs (eO sh.iB x)) sh.bs (eO sh.iB x):=rfl
  rw[← xh]at k1 k2 k3
  let κ':KS:={ κ.cut m with st:=sh.st x }
  have hm:m≤κ.st.length:=by
   rcases Nat.eq_zero_or_pos m with h0 | h0
   ·omega
   ·obtain⟨B,B',q1,_⟩:=k3 (m-1) (sh.bs[m-1]'(by show m-1<m; omega)) (by simp)
    have:=(List.getElem?_eq_some_iff.1 q1).1
    omega
  have S2:∀ i B,κ.st[i]? = some B→i<m→(κ.cut m).st[i]? = some B:=fun i B hB hi=>zV hB hi
  have CM:(κ.cut m).st.length=m:=by simp[KS.cut]; omega
  have pair:∀ i,i<m→∃ k B B',sh.bs[i]? = some k∧(κ.cut m).st[i]? = some B∧κ'.st[i]? = some B'∧WQ (Ki sh.bs) κ.st (yn sh.bs (eO sh.iB x)) k B B':=by
   intro i hi
   obtain⟨B,B',q1,q2,q3⟩:=k3 i (sh.bs[i]'hi) (by simp)
   exact⟨_,B,B',by simp,S2 i B q1 hi,q2,q3⟩
  have lt:∀ {i:Nat} {B:ju},(κ.cut m).st[i]? = some B→i<m:=fun hB=>by have:=(List.getElem?_eq_some_iff.1 hB).1; omega
  have lt':∀ {i:Nat} {B:ju},κ'.st[i]? = some B→i<m:=fun hB=>by have:=(List.getElem?_eq_some_iff.1 hB).1; have e:κ'.st.length=m:=k1; omega
  have hw:Wk (κ.cut m) κ':=by
   refine⟨rfl,rfl,rfl,by show(sh.st x).length=_; rw[k1,CM],fun b d hb => ?_,fun b v e xs hb => ?_,fun b v e xs hb => ?_,fun b hb => ?_⟩
   ·obtain⟨k,B,B',q0,q1,q2,q3⟩:=pair b (lt hb)
    rw[hb]at q1; cases q1
    cases q3 with
    | var k' _ _ y _ hy=>exact⟨_,q2⟩
    | cvar ck _ hy=>exact⟨_,q2⟩
    | dead _ hv=>cases hv
   ·obtain⟨k,B,B',q0,q1,q2,q3⟩:=pair b (lt hb)
    rw[hb]at q1; cases q1
    cases q3 with
    | arr=>exact .inl q2
    | dead=>exact .inr q2
   ·obtain⟨k,B,B',q0,q1,q2,q3⟩:=pair b (lt' hb)
    rw[hb]at q2; cases q2
    cases q3 with
    | arr=>exact q1
   ·obtain⟨k,B,B',q0,q1,q2,q3⟩:=pair b (lt hb)
    rw[hb]at q1; cases q1
    cases q3 with
    | dead=>exact q2
  have Vr:∀ b,rowAt sh.bs b=true→xO κ'.st b=yB κ.st b∧xO (yn sh.bs (eO sh.iB x)) b=yB κ.st b∧xO κ.st b=yB κ.st b :=
   fun b hb=>⟨(k2 b hb).2.1,(k2 b hb).1,(k2 b hb).2.2⟩
  have z2X:∀ b,rowAt sh.bs b=true→xO (κ.cut m).st b=xO κ.st b:=by
   intro b hb
   have Ob:b<m:=by
    unfold rowAt at hb
    split at hb
    ·rename_i hh; exact(List.getElem?_eq_some_iff.1 hh).1
    ·cases hb
   unfold xO
   simp only[KS.cut]
   rw[List.getElem?_take,if_pos Ob]
  have Ob:∀ b,rowAt sh.bs b=true→b<m:=by
   intro b hb
   unfold rowAt at hb
   split at hb
   ·rename_i hh; exact(List.getElem?_eq_some_iff.1 hh).1
   ·cases hb
  have I3:∀ b,tn sh.bs b=true→b<m:=by
   intro b hb
   unfold tn at hb
   split at hb
   ·rename_i hh; exact(List.getElem?_eq_some_iff.1 hh).1
   ·rename_i hh; exact(List.getElem?_eq_some_iff.1 hh).1
   ·cases hb
  have dk:∀ (k:Dk) (y:k.den) (d:D) (v:Value) (zu:St),Ki sh.bs k=true→(∀ b,rowAt sh.bs b=true→xO zu b=yB κ.st b)→(nX κ.st k d).leads y→RD κ d v→RD κ' (il zu k y) v:=by
   intro k y d v zu ho hv hy hd
   have hwk:Wk κ κ:=⟨rfl,rfl,rfl,rfl,fun b d h=>⟨d,h⟩,fun b v e xs h=>.inl h,fun b v e xs h=>h,fun b h=>h⟩
   have h0:=Vg hwk ho (fun _ _=>rfl) (zu:=κ.st) (fun _ _=>rfl) (fun b hb=>(Vr b hb).2.2) hy hd
   have z4b:kV m (il κ.st k y)=true:=by
    cases k with
    | sub b e=>exact Ul (Ob b ho)
    | xg f caps =>
     have:∀ (l:List rT) (z:kW l),(eE l z).all (vj m)=true:=by
      intro l
      induction l with
      | nil=>intro z; rfl
      | cons p r ih =>
       intro z
       have hp:∀ w:AM.den p.ty,vj m (WD p w)=true:=fun w=>by cases p<;>rfl
       cases r with
       | nil=>simp only[eE,List.all_cons,List.all_nil,Bool.and_true]; exact hp z
       | cons q r=>simp only[eE,List.all_cons,Bool.and_eq_true]; exact⟨hp z.1,by simpa using ih z.2⟩
     exact this caps y
    | st ks=>exact List.all_eq_true.2 (jd Ob I3 ks y ho)
    | mclo f ms=>exact List.all_eq_true.2 (hZ I3 ms y ho)
    | _=>rfl
   have h1:=hw.rd (YD h0 z4b)
   have he:il κ.st k y=il zu k y:=by
    cases k with
    | sub b e=>simp only[il]; rw[hv b ho,(Vr b ho).2.2]
    | st ks=>simp only[il]; rw[lP (fun b hb=>(Vr b hb).2.2.trans (hv b hb).symm) ks y ho]
    | _=>rfl
   rwa [he]at h1
  have ck:∀ (q:Ck) (d:D) (v:Value) (zu:St),CH sh.bs q=true→(∀ b,rowAt sh.bs b=true→xO zu b=yB κ.st b)→(tI κ.st q d).leads ()→Jn zu q=d∧(RD κ d v→RD κ' d v):=by
   intro q d v zu ho hv hy
   have he:=O0 ho hv hy
   refine⟨he,fun hd=>hw.rd (YD hd ?_)⟩
   rw[← he]
   cases q with
   | ptr b off=>exact Ul (I3 b ho)
   | cur b e=>exact Ul (Ob b ho)
   | xb=>rfl
   | jE=>rfl
   | qQ=>rfl
   | xg f l =>
    simp only[CH,List.all_eq_true]at ho
    simp only[Jn,kV,List.all_eq_true,List.mem_map]
    rintro _ ⟨p,hp,rfl⟩
    exact Ul (I3 p.1 (ho p hp))
  have MM:Inv κ':=by
   refine hw.inv hIc fun b d' hb => ?_
   obtain⟨k,B,B',q0,q1,q2,q3⟩:=pair b (lt' hb)
   rw[hb]at q2
   cases q2
   cases q3 with
   | var kk k' d y hp hy =>
    obtain⟨blk,n',cs,t,e1,e2,e3,e4,e5⟩:=hIc.blk b _ q1
    refine⟨blk,n',cs,t,e1,e2,e3,?_⟩
    cases kk with
    | zi τ =>
     have hco:gP τ d=some y:=T.vC.1 hy
     have ht:d.vN=false:=by
      cases d with
      | jY l=>simp[gP,D.vN]at hco
      | _=>rfl
     have Y9:=iX hco e4 e5.1 ht
     exact⟨(lj Y9).mono hw.ext,gH τ y,nofun⟩
    | qK τ =>
     cases d<;>simp only[nX]at hy<;>try (exact hy.elim)
     obtain⟨e,hyy⟩:=qe (T.vC.1 hy)
     cases e
     cases hyy
     exact⟨e4.mono hw.ext,e5.1,nofun⟩
    | st ks =>
     simp only[nX]at hy
     cases ha:d.gU with
     | false=>rw[ha]at hy; exact hy.elim
     | true =>
      rw[ha]at hy
      replace hy:(bu κ.st ks (zW d)).leads y:=hy
      have z7W:b<m:=lt' hb
      have QZ:κ.st[b]? = some (.var d):=(yp q1).1
      obtain⟨z8P,n2,cs2,t2,f1,f2,f3,f4,f5⟩:=hI.blk b _ QZ
      have hp1:=(yp e1).1
      rw[f1]at hp1
      cases hp1
      rw[show(κ.cut m).w=κ.w from rfl,f2]at e2
      cases e2
      obtain⟨g1,g2⟩:=bh (κ:=κ) (zu:=yn sh.bs (eO sh.iB x)) (bs:=sh.bs) (fun b hb=>(Vr b hb).2.1) ks (zW d) y _ hp.2 hy f4
      refine⟨(H2 g1 fun z hz => ?_).mono hw.ext,g2,fun T hT => ?_⟩
      rotate_left
      ·exact f5.2 T (tx ha (sX ks (zW d) y hy hT))
      have:=jd (m:=m) Ob I3 ks y hp.2 z hz
      cases z<;>first | exact this | cases this
    | _=>cases hp.1
   | cvar q d hy =>
    obtain⟨blk,n',cs,t,e1,e2,e3,e4,e5⟩:=hIc.blk b _ q1
    have hoq:CH sh.bs q=true:=hbs _ (List.mem_of_getElem? q0)
    obtain⟨g,_⟩:=ck q d undef (yn sh.bs (eO sh.iB x)) hoq (fun b hb=>(Vr b hb).2.1) hy
    rw[g]
    exact⟨blk,n',cs,t,e1,e2,e3,e4.mono hw.ext,e5⟩
  refine⟨κ',rfl,rfl,MM,?_,⟨hR.size,hR.defers,fun s d hd => ?_⟩,fun d v hr hd=>hw.rd (M6 hd hr)⟩
  ·have qh:κ0.st.length≤m:=hl
   have c1:=EU hx qh
   exact c1.trans hw.ext
  ·rcases get_append (l:=bw (sh.st x) sh.iB x) (m:=Rw (sh.st x) sh.cs) hd with hp | hp0
   ·obtain⟨k,y,d0,q0,q1,q2,q3⟩:=g2 _ hp
    cases q3
    obtain⟨v,r1,r2⟩:=hR.get _ _ q1
    exact⟨v,r1,dk k y d0 v (sh.st x) (z0O _ q0) (fun b hb=>(Vr b hb).1) q2 r2⟩
   ·have tF:=get_mem hp0
    unfold Rw at tF
    obtain⟨p,hp,he⟩:=List.mem_map.1 tF
    cases he
    obtain⟨d0,q1,q2⟩:=KI h1 p hp
    obtain⟨v,r1,r2⟩:=hR.get _ _ q1
    obtain⟨g,gg⟩:=ck p.2 d0 v (sh.st x) (Y8 p hp) (fun b hb=>(Vr b hb).1) q2
    rw[g]
    exact⟨v,r1,gg r2⟩
end
end Go.AM
namespace Go.AM
set_option linter.unusedSectionVars false
variable [vP] [Xl]
open Go.RowKit
inductive Gh where
 | slot (s:Nat) (e:Ty) | cell (b i:Nat) (e:Ty) | pcell (s i:Nat) (e:Ty)
def Z4(st:St)(b i:Nat):Option (List D):=match st[b]? with
 | some (.var d)=>bif d.gU then match(zW d)[i]? with | some .xb=>some (zW d) | _=>none else none
 | _=>none
def gh:List Gh→Fr→St→Fr×St
 | [],fr,st=>(fr,st)
 | .slot s e::r,fr,st=>match fr.get s with
  | some .xb=>bif Nat.blt 0 e.size then gh r ((s,some (.ms st.length 0 e 0 0))::fr) (st++[.arr 0 e []])else gh r fr st
  | _=>gh r fr st
 | .cell b i e::r,fr,st=>match Z4 st b i with
  | some l=>bif Nat.blt 0 e.size then gh r fr ((st++[ju.arr 0 e []]).set b (.var (.agg (l.set i (.ms st.length 0 e 0 0)))))else gh r fr st
  | none=>gh r fr st
 | .pcell t i e::r,fr,st=>match fr.get t with
  | some (.ptr b _)=>match Z4 st b i with
   | some l=>bif Nat.blt 0 e.size then gh r fr ((st++[ju.arr 0 e []]).set b (.var (.agg (l.set i (.ms st.length 0 e 0 0)))))else gh r fr st
   | none=>gh r fr st
  | _=>gh r fr st
section
variable {c:Ctx} {κ:KS}
def KS.vX(κ:KS)(e:Ty):KS:={ κ with ph:=κ.ph++[none],st:=κ.st++[.arr 0 e []] }
theorem o8(hI:Inv κ)(e:Ty):Ext κ (κ.vX e):=by
 have xh:∀ b y,κ.st[b]? = some y→(κ.st++[.arr 0 e []])[b]? = some y:=fun b y h=>by rw[List.getElem?_append_left (List.getElem?_eq_some_iff.1 h).1]; exact h
 have sP:∀ b y,κ.st[b]? = some y→(κ.ph++[none])[b]? = κ.ph[b]? := fun b y h=>by
  rw[List.getElem?_append_left]; rw[hI.len]; exact(List.getElem?_eq_some_iff.1 h).1
 refine⟨rfl,rfl,rfl,Nat.le_refl _,fun k hk=>⟨hk,rfl⟩,fun k hk=>.inl hk,?_,fun b d h=>⟨⟨d,xh b _ h⟩,sP b _ h⟩,
  fun b v0 e xs h=>.inr ⟨v0,xs,xh b _ h,Nat.le_refl _,fun _=>⟨sP b _ h,rfl⟩⟩,fun b h=>xh b _ h,by simp[KS.vX],fun k hk _=>rfl⟩
 intro b blk m h
 simp only[KS.vX]at h
 by_cases hb:b<κ.ph.length
 ·rw[List.getElem?_append_left hb]at h; exact .inl h
 ·rw[List.getElem?_append_right (by omega)]at h
  have:=List.mem_of_getElem? h
  simp at this
theorem Qt(hI:Inv κ){e:Ty}(he:0<e.size):Inv (κ.vX e):=by
 have hold:∀ (b blk m:Nat),(κ.ph++[none])[b]? = some (some (blk,m))→κ.ph[b]? = some (some (blk,m)):=by
  intro b blk m h
  by_cases hb:b<κ.ph.length
  ·rw[List.getElem?_append_left hb]at h; exact h
  ·rw[List.getElem?_append_right (by omega)]at h
   have:=List.mem_of_getElem? h
   simp at this
 refine⟨by simp[KS.vX,hI.len],hI.kY,fun b blk m h=>hI.apart b blk m (hold b blk m h),fun b b' blk m m' h h'=>hI.inj b b' blk m m' (hold _ _ _ h) (hold _ _ _ h'),?_,hI.gl⟩
 intro b y hy
 simp only[KS.vX]at hy
 by_cases hb:b<κ.st.length
 ·rw[List.getElem?_append_left hb]at hy
  exact(hI.blk b y hy).mono (o8 hI e) (by show(κ.ph++[none])[b]? = κ.ph[b]?; rw[List.getElem?_append_left (by rw[hI.len]; exact hb)]) fun blk n h=>rfl
 ·have X3:=(List.getElem?_eq_some_iff.1 hy).1
  simp at X3
  have:b=κ.st.length:=by omega
  subst this
  simp at hy
  subst hy
  exact⟨he,.inl ⟨rfl,by simp[KS.vX,← hI.len]⟩⟩
theorem Gq{l:List D}{i b v len off:Nat}{e:Ty}{tt:Nat}(h:(D.agg (l.set i (.ms b v e off len))).typed=some tt):y5 l=some tt:=by
 cases l with
 | nil=>exact h
 | cons x r=>cases i with
  | zero=>cases h
  | succ i=>cases x<;>exact h
theorem N7{κ κ2:KS}{l:List D}{vs:List Value}{i:Nat}{d':D}(h:qG κ l vs)(hw:∀ d v,RD κ d v→RD κ2 d v)(hi:∀ v,vs[i]? = some v→RD κ2 d' v):qG κ2 (l.set i d') vs:=by
 refine⟨by rw[List.length_set]; exact h.1,fun k h1 h2 => ?_⟩
 rw[List.getElem_set]
 split
 ·rename_i e; subst e; exact hi _ (by simp[h2])
 ·exact hw _ _ (h.2 k (by rw[List.length_set]at h1; exact h1) h2)
theorem HW(hI:Inv κ){e:Ty}(he:0<e.size){b i:Nat}{l:List D}(h:Z4 κ.st b i=some l) :
  ∃ κ':KS,κ'.w=κ.w∧κ'.st=(κ.st++[ju.arr 0 e []]).set b (.var (.agg (l.set i (.ms κ.st.length 0 e 0 0))))∧Inv κ'∧Ext κ κ':=by
 unfold Z4 at h
 split at h
 ·rename_i d hd
  cases ha:d.gU with
  | false=>rw[ha]at h; cases h
  | true =>
   rw[ha,cond_true]at h
   split at h
   ·rename_i hi
    cases h
    have hx:=o8 hI e
    have ry:=Qt hI he
    have z64:b<κ.st.length:=(List.getElem?_eq_some_iff.1 hd).1
    let κ2:KS:={ κ.vX e with st:=(κ.vX e).st.set b (.var (.agg ((zW d).set i (.ms κ.st.length 0 e 0 0)))) }
    have Hn:(κ.vX e).st[b]? = some (.var d):=by
     show(κ.st++[_])[b]? = _
     rw[List.getElem?_append_left z64]; exact hd
    have u7:∀ j,j≠b→κ2.st[j]? = (κ.vX e).st[j]? := fun j hj=>by
     show((κ.vX e).st.set b _)[j]? = _
     rw[List.getElem?_set_ne (fun z=>hj z.symm)]
    have I1:κ2.st[b]? = some (.var (.agg ((zW d).set i (.ms κ.st.length 0 e 0 0)))):=by
     show((κ.vX e).st.set b _)[b]? = _
     rw[List.getElem?_set_self (List.getElem?_eq_some_iff.1 Hn).1]
    have hw:Wk (κ.vX e) κ2:=by
     refine⟨rfl,rfl,rfl,by simp[κ2],fun j d' hj => ?_,fun j v e' xs hj => ?_,fun j v e' xs hj => ?_,fun j hj => ?_⟩
     ·by_cases c:j=b
      ·subst c; exact⟨_,I1⟩
      ·exact⟨d',by rw[u7 j c]; exact hj⟩
     ·by_cases c:j=b
      ·subst c; rw[Hn]at hj; cases hj
      ·exact .inl (by rw[u7 j c]; exact hj)
     ·by_cases c:j=b
      ·subst c; rw[I1]at hj; cases hj
      ·rw[← u7 j c]; exact hj
     ·by_cases c:j=b
      ·subst c; rw[Hn]at hj; cases hj
      ·rw[u7 j c]; exact hj
    have Fv:κ2.st[κ.st.length]? = some (.arr 0 e []):=by
     rw[u7 _ (by omega)]
     simp[KS.vX]
    have hI2:Inv κ2:=by
     refine hw.inv ry fun j d' hj => ?_
     by_cases c:j=b
     ·subst c
      rw[I1]at hj
      cases hj
      obtain⟨blk,m,cs,t,q1,q2,q3,q4,q5⟩:=ry.blk j _ Hn
      refine⟨blk,m,cs,t,q1,q2,q3,N7 q4 (fun _ _ h=>hw.rd h) fun v hv => ?_,fun x hxm => ?_,fun T hT => ?_⟩
      ·obtain⟨v',h1,h2⟩:=q4.get hi
       rw[hv]at h1
       cases h1
       cases h2
       refine .ms κ.st.length 0 e 0 0 0 none (.inr ⟨0,e,[],Fv,Nat.le_refl _⟩) (Nat.le_refl _) (fun _=>rfl) nofun fun xs tU => ?_
       rw[Fv]at tU
       cases tU
       exact⟨Nat.le_refl _,.inl ⟨rfl,rfl,rfl,by show(κ.ph++[none])[κ.st.length]? = _; simp[← hI.len]⟩⟩
      ·rcases List.mem_or_eq_of_mem_set (show x∈(zW d).set i (.ms κ.st.length 0 e 0 0)from hxm)with h' | h'
       ·exact q5.1 x h'
       ·subst h'; rfl
      ·exact q5.2 T (tx ha (Gq hT))
     ·rw[u7 j c]at hj
      exact(ry.blk j _ hj).mono hw.ext rfl fun _ _ _=>rfl
    exact⟨κ2,rfl,rfl,hI2,hx.trans hw.ext⟩
   ·cases h
 ·cases h
theorem dx{n:Nat}{a:Act}:∀ (l:List Gh) (fr:Fr) (κ:KS),Inv κ→Rel κ n fr.get a→∃ κ':KS,κ'.w=κ.w∧κ'.st=(gh l fr κ.st).2∧Inv κ'∧Ext κ κ'∧Rel κ' n (gh l fr κ.st).1.get a
 | [],fr,κ,hI,hR=>⟨κ,rfl,rfl,hI,Ext.refl κ,hR⟩
 | .slot s e::r,fr,κ,hI,hR=>by
  unfold gh
  split
  ·rename_i hs
   cases he:Nat.blt 0 e.size with
   | false=>rw[cond_false]; exact dx r fr κ hI hR
   | true =>
    rw[cond_true]
    have Ea:0<e.size:=Nat.le_of_ble_eq_true he
    have hx:=o8 hI e
    have Nr:Rel (κ.vX e) n (Fr.get ((s,some (.ms κ.st.length 0 e 0 0))::fr)) a:=by
     refine⟨hR.size,hR.defers,fun t d hd => ?_⟩
     simp only[Fr.get]at hd
     cases ht:Nat.beq s t with
     | true =>
      rw[ht,cond_true]at hd
      cases hd
      have:=Nat.eq_of_beq_eq_true ht
      subst this
      obtain⟨v,h1,h2⟩:=hR.get s _ hs
      cases h2
      have Fv:(κ.vX e).st[κ.st.length]? = some (.arr 0 e []):=by simp[KS.vX]
      refine⟨_,h1,.ms κ.st.length 0 e 0 0 0 none (.inr ⟨0,e,[],Fv,Nat.le_refl _⟩) (Nat.le_refl _) (fun _=>rfl) nofun fun xs tU => ?_⟩
      rw[Fv]at tU
      cases tU
      exact⟨Nat.le_refl _,.inl ⟨rfl,rfl,rfl,by simp[KS.vX,← hI.len]⟩⟩
     | false =>
      rw[ht,cond_false]at hd
      obtain⟨v,h1,h2⟩:=hR.get t d hd
      exact⟨v,h1,h2.mono hx⟩
    obtain⟨κ',h1,h2,h3,h4,h5⟩:=dx r _ (κ.vX e) (Qt hI Ea) Nr
    exact⟨κ',h1,h2,h3,hx.trans h4,h5⟩
  ·exact dx r fr κ hI hR
 | .cell b i e::r,fr,κ,hI,hR=>by
  unfold gh
  split
  ·rename_i l hl
   cases he:Nat.blt 0 e.size with
   | false=>rw[cond_false]; exact dx r fr κ hI hR
   | true =>
    rw[cond_true]
    have Ea:0<e.size:=Nat.le_of_ble_eq_true he
    obtain⟨κ1,g1,g2,g3,g4⟩:=HW hI Ea hl
    obtain⟨κ',h1,h2,h3,h4,h5⟩:=dx r fr κ1 g3 ⟨hR.size,hR.defers,fun t d hd=>by
     obtain⟨v,q1,q2⟩:=hR.get t d hd
     exact⟨v,q1,q2.mono g4⟩⟩
    rw[g2]at h2 h5
    exact⟨κ',h1.trans g1,h2,h3,g4.trans h4,h5⟩
  ·exact dx r fr κ hI hR
 | .pcell t i e::r,fr,κ,hI,hR=>by
  unfold gh
  split
  ·rename_i b off hb
   split
   ·rename_i l hl
    cases he:Nat.blt 0 e.size with
    | false=>rw[cond_false]; exact dx r fr κ hI hR
    | true =>
     rw[cond_true]
     have Ea:0<e.size:=Nat.le_of_ble_eq_true he
     obtain⟨κ1,g1,g2,g3,g4⟩:=HW hI Ea hl
     obtain⟨κ',h1,h2,h3,h4,h5⟩:=dx r fr κ1 g3 ⟨hR.size,hR.defers,fun t d hd=>by
      obtain⟨v,q1,q2⟩:=hR.get t d hd
      exact⟨v,q1,q2.mono g4⟩⟩
     rw[g2]at h2 h5
     exact⟨κ',h1.trans g1,h2,h3,g4.trans h4,h5⟩
   ·exact dx r fr κ hI hR
  ·exact dx r fr κ hI hR
end
end Go.AM
namespace Go.AM
def n4(f:Nat→Option Nat)(d:D):Option D:=match d with
 | .ptr b off=>match f b with | some b'=>some (.ptr b' off) | none=>none
 | .b6 b T=>match f b with | some b'=>some (.b6 b' T) | none=>none
 | .vM b v e i off=>match f b with | some b'=>some (.vM b' v e i off) | none=>none
 | .ms b v e off len=>match f b with | some b'=>some (.ms b' v e off len) | none=>none
 | .xg _ _=>none
 | .agg _=>none
 | .jY _=>none
 | .iface _ _=>none
 | d=>some d
def Y4(f:Nat→Option Nat):List D→Option (List D)
 | []=>some []
 | d::r=>match n4 f d with
  | some d'=>match Y4 f r with | some r'=>some (d'::r') | none=>none
  | none=>none
def iv(f:Nat→Option Nat)(d:D):Option D:=match d with
 | .xg g l=>match Y4 f l with | some l'=>some (.xg g l') | none=>none
 | .agg l=>match Y4 f l with | some l'=>some (.agg l') | none=>none
 | d=>n4 f d
def td(f:Nat→Option Nat):List D→Option (List D)
 | []=>some []
 | d::r=>match iv f d with
  | some d'=>match td f r with | some r'=>some (d'::r') | none=>none
  | none=>none
def tE(f:Nat→Option Nat):ju→Option ju
 | .var d=>match iv f d with | some d'=>some (.var d') | none=>none
 | .arr v e xs=>some (.arr v e xs)
 | .dead=>some .dead
def fS(f:Nat→Option Nat):List ju→Option (List ju)
 | []=>some []
 | b::r=>match tE f b with
  | some b'=>match fS f r with | some r'=>some (b'::r') | none=>none
  | none=>none
def nw(f:Nat→Option Nat):Fr→Fr
 | []=>[]
 | (s,some d)::r=>(s,iv f d)::nw f r
 | (s,none)::r=>(s,none)::nw f r
structure Tr(κ κ':KS)(f:Nat→Option Nat):Prop where
 w:κ'.w=κ.w
 ok:κ'.ok=κ.ok
 var:∀ (b b':Nat) (d:D),f b=some b'→κ.st[b]? = some (.var d)→(∃ d',κ'.st[b']? = some (.var d'))∧κ'.ph[b']? = κ.ph[b]?
 old:∀ (b b' qs:Nat),f b=some b'→Old κ.st b qs→Old κ'.st b' qs
 row:∀ (b b' v:Nat) (e:Ty) (xs:List (den e)),f b=some b'→κ'.st[b']? = some (.arr v e xs)→κ.st[b]? = some (.arr v e xs)∧κ'.ph[b']? = κ.ph[b]?
section
variable {κ κ':KS} {f:Nat→Option Nat}
theorem Tr.same(h:Tr κ κ' f):Dl κ.w κ'.w κ.ok κ'.ok:=fun k hk=>⟨by rw[h.ok]; exact hk,by rw[h.w]⟩
theorem Tr.OD(h:Tr κ κ' f){d d':D}{v:Value}(hd:RD κ d v)(hr:n4 f d=some d'):RD κ' d' v:=by
 cases hd with
 | zi τ y cs hc=>cases hr; exact .zi τ y cs (hc.mono h.same)
 | qW e a=>cases hr; exact .qW e a
 | tight e l ne blk off g u7 w8 hh hc=>cases hr; exact .tight e l ne blk off g u7 (h.same _ w8).1 (fun i hi=>(hh i hi).mono h.same) fun i hi j v hv=>by rw[yL (h.same _ w8).2]; exact hc i hi j v hv
 | xb=>cases hr; exact .xb
 | jE=>cases hr; exact .jE
 | qQ=>cases hr; exact .qQ
 | vr=>cases hr; exact .vr
 | vq=>cases hr; exact .vq
 | pn v h=>cases hr; exact .pn v h
 | gz T=>cases hr; exact .gz T
 | h9 b T d hb =>
  simp only[n4]at hr
  split at hr
  ·rename_i b' hf
   cases hr
   obtain⟨⟨d',h1⟩,h2⟩:=h.var b b' d hf hb
   exact .h9 b' T d' h1
  ·cases hr
 | bC b T blk n d hb hp =>
  simp only[n4]at hr
  split at hr
  ·rename_i b' hf
   cases hr
   obtain⟨⟨d',h1⟩,h2⟩:=h.var b b' d hf hb
   exact .bC b' T blk n d' h1 (h2.trans hp)
  ·cases hr
 | ptr b off blk n d hb hp =>
  simp only[n4]at hr
  split at hr
  ·rename_i b' hf
   cases hr
   obtain⟨⟨d',h1⟩,h2⟩:=h.var b b' d hf hb
   exact .ptr b' off blk n d' h1 (h2.trans hp)
  ·cases hr
 | qK τ y cs blk off w8 hh hc=>cases hr; exact .qK τ y cs blk off (h.same _ w8).1 (hh.mono h.same) fun j v hv=>by rw[yL (h.same _ w8).2]; exact hc j v hv
 | vM b qs e idx off blk o hb hh =>
  simp only[n4]at hr
  split at hr
  ·rename_i b' hf
   cases hr
   refine .vM b' qs e idx off blk o (h.old b b' qs hf hb) fun xs hx hi => ?_
   obtain⟨h1,h2⟩:=h.row b b' qs e xs hf hx
   rw[h2]
   exact hh xs h1 hi
  ·cases hr
 | ms b qs e off len cap a hb vx ha mZ hh =>
  simp only[n4]at hr
  split at hr
  ·rename_i b' hf
   cases hr
   refine .ms b' qs e off len cap a (h.old b b' qs hf hb) vx ha mZ fun xs hx => ?_
   obtain⟨h1,h2⟩:=h.row b b' qs e xs hf hx
   have:=hh xs h1
   unfold Hm at this ⊢
   rw[h2]
   exact this
  ·cases hr
 | xg g l vs hl hh=>cases hr
 | agg l vs hl ho hh=>cases hr
 | jY l vs hl hh=>cases hr
 | iface t d v hh=>cases hr
theorem E4{d d':D}(h:n4 f d=some d'):d'.one=d.one:=by
 cases d<;>simp only[n4]at h<;>first | (cases h; rfl) | (split at h<;>cases h; rfl) | cases h
theorem Tr.rdL(h:Tr κ κ' f):∀ {l l':List D} {vs:List Value},qG κ l vs→Y4 f l=some l'→qG κ' l' vs
 | [],l',vs,hd,hr=>by cases hr; rw[hd.qo]; exact .nil
 | d::r,l',vs,hd,hr=>by
  simp only[Y4]at hr
  split at hr
  ·rename_i d' h1
   split at hr
   ·rename_i r' h2
    cases hr
    obtain⟨v,us,rfl,g1,g2⟩:=hd.cons_inv
    exact .cons (h.OD g1 h1) (h.rdL g2 h2)
   ·cases hr
  ·cases hr
theorem Q5:∀ {l l':List D},Y4 f l=some l'→(∀ d∈l,d.one=true)→∀ d∈l',d.one=true
 | [],l',hr,_=>by cases hr; nofun
 | d::r,l',hr,ho=>by
  simp only[Y4]at hr
  split at hr
  ·rename_i d' h1
   split at hr
   ·rename_i r' h2
    cases hr
    intro x hx
    rcases List.mem_cons.1 hx with rfl | hx
    ·rw[E4 h1]; exact ho d List.mem_cons_self
    ·exact Q5 h2 (fun y hy=>ho y (List.mem_cons_of_mem _ hy)) x hx
   ·cases hr
  ·cases hr
theorem Tr.rd(h:Tr κ κ' f){d d':D}{v:Value}(hd:RD κ d v)(hr:iv f d=some d'):RD κ' d' v:=by
 cases d with
 | xg g l =>
  simp only[iv]at hr
  split at hr
  ·rename_i l' hl
   cases hr
   cases hd with
   | xg _ _ vs h1 h2=>have:=h.rdL (⟨h1,h2⟩:qG κ l vs) hl; exact .xg g l' vs this.1 this.2
  ·cases hr
 | agg l =>
  simp only[iv]at hr
  split at hr
  ·rename_i l' hl
   cases hr
   cases hd with
   | agg _ vs h1 ho h2=>have:=h.rdL (⟨h1,h2⟩:qG κ l vs) hl; exact .agg l' vs this.1 (Q5 hl ho) this.2
  ·cases hr
 | _=>exact h.OD hd hr
theorem Tr.rds(h:Tr κ κ' f):∀ {l l':List D} {vs:List Value},qG κ l vs→td f l=some l'→qG κ' l' vs
 | [],l',vs,hd,hr=>by cases hr; rw[hd.qo]; exact .nil
 | d::r,l',vs,hd,hr=>by
  simp only[td]at hr
  split at hr
  ·rename_i d' h1
   split at hr
   ·rename_i r' h2
    cases hr
    obtain⟨v,us,rfl,g1,g2⟩:=hd.cons_inv
    exact .cons (h.rd g1 h1) (h.rds g2 h2)
   ·cases hr
  ·cases hr
theorem Tr.flat(h:Tr κ κ' f){d d':D}{vs:List Value}(hd:qG κ (zW d) vs)(ho:∀ x∈zW d,x.one=true)(hr:iv f d=some d'):qG κ' (zW d') vs∧∀ x∈zW d',x.one=true:=by
 have zi:∀ (τ:Ty) (x:den τ) (vs:List Value),qG κ (Go.AM.flat τ x) vs→qG κ' (Go.AM.flat τ x) vs:=by
  intro τ x vs hh
  refine⟨hh.1,fun i h1 h2 => ?_⟩
  have hm:=List.getElem_mem h1
  have:∃ σ z,(Go.AM.flat τ x)[i]=.zi σ z:=by
   generalize (Go.AM.flat τ x)[i]=y at hm
   clear hh h1 h2
   induction τ with
   | cons a b ia ib =>
    simp only[Go.AM.flat,List.mem_append]at hm
    rcases hm with hm | hm
    ·exact ia _ hm
    ·exact ib _ hm
   | nil=>simp[Go.AM.flat]at hm
   | expr=>simp[Go.AM.flat]at hm; rcases hm with rfl | rfl | rfl | rfl | rfl | rfl<;>exact⟨_,_,rfl⟩
   | _=>simp[Go.AM.flat]at hm; subst hm; exact⟨_,_,rfl⟩
  obtain⟨σ,z,e⟩:=this
  have h3:=hh.2 i h1 h2
  rw[e]at h3 ⊢
  exact h.OD h3 rfl
 cases d with
 | zi τ x=>cases hr; exact⟨zi τ x vs hd,ho⟩
 | agg l =>
  simp only[iv]at hr
  split at hr
  ·rename_i l' hl
   cases hr
   exact⟨h.rdL hd hl,Q5 hl ho⟩
  ·cases hr
 | jY l=>cases hr
 | xg g l =>
  obtain⟨v,r,rfl,h1,h2⟩:=qG.cons_inv (show qG κ [.xg g l] vs from hd)
  rw[h2.qo]
  have NI:=hr
  simp only[iv]at hr
  split at hr
  ·cases hr; exact⟨.cons (h.rd h1 NI) .nil,fun x hx=>by simp only[zW,List.mem_singleton]at hx; subst hx; rfl⟩
  ·cases hr
 | iface t x=>cases hr
 | ptr b off =>
  obtain⟨v,r,rfl,h1,h2⟩:=qG.cons_inv (show qG κ [.ptr b off] vs from hd)
  rw[h2.qo]
  have NI:=hr
  simp only[iv,n4]at hr
  split at hr
  ·cases hr; exact⟨.cons (h.OD h1 NI) .nil,fun x hx=>by simp only[zW,List.mem_singleton]at hx; subst hx; rfl⟩
  ·cases hr
 | b6 b T =>
  obtain⟨v,r,rfl,h1,h2⟩:=qG.cons_inv (show qG κ [.b6 b T] vs from hd)
  rw[h2.qo]
  have NI:=hr
  simp only[iv,n4]at hr
  split at hr
  ·cases hr; exact⟨.cons (h.OD h1 NI) .nil,fun x hx=>by simp only[zW,List.mem_singleton]at hx; subst hx; rfl⟩
  ·cases hr
 | vM b qs e idx off =>
  obtain⟨v,r,rfl,h1,h2⟩:=qG.cons_inv (show qG κ [.vM b qs e idx off] vs from hd)
  rw[h2.qo]
  have NI:=hr
  simp only[iv,n4]at hr
  split at hr
  ·cases hr; exact⟨.cons (h.OD h1 NI) .nil,fun x hx=>by simp only[zW,List.mem_singleton]at hx; subst hx; rfl⟩
  ·cases hr
 | ms b qs e off len =>
  obtain⟨v,r,rfl,h1,h2⟩:=qG.cons_inv (show qG κ [.ms b qs e off len] vs from hd)
  rw[h2.qo]
  have NI:=hr
  simp only[iv,n4]at hr
  split at hr
  ·cases hr; exact⟨.cons (h.OD h1 NI) .nil,fun x hx=>by simp only[zW,List.mem_singleton]at hx; subst hx; rfl⟩
  ·cases hr
 | _ =>
  cases hr
  obtain⟨v,r,rfl,h1,h2⟩:=qG.cons_inv hd
  rw[h2.qo]
  exact⟨.cons (h.OD h1 rfl) .nil,ho⟩
theorem Gt{f:Nat→Option Nat}{d d':D}{tt:Nat}(h:iv f d=some d')(ht:d'.typed=some tt):d.typed=some tt:=by
 cases d with
 | agg l =>
  simp only[iv]at h
  split at h
  ·rename_i l' hl
   cases h
   cases l with
   | nil=>cases hl; cases ht
   | cons x r =>
    simp only[Y4]at hl
    split at hl
    ·rename_i x' hx
     split at hl
     ·cases hl
      cases x<;>simp only[n4]at hx<;>first
       | (cases hx; exact ht)
       | (split at hx<;>first | (cases hx; exact ht) | cases hx)
       | cases hx
     ·cases hl
    ·cases hl
  ·cases h
 | xg g l =>
  simp only[iv]at h
  split at h
  ·cases h; cases ht
  ·cases h
 | _ =>
  simp only[iv,n4]at h
  first
   | (cases h; cases ht)
   | (split at h<;>first | (cases h; cases ht) | cases h)
   | cases h
theorem Tr.blk[Xt](h:Tr κ κ' f){b b':Nat}(hp:κ'.ph[b']? = κ.ph[b]?){y y':ju}(hy:de κ b y)(hr:tE f y=some y'):de κ' b' y':=by
 cases y with
 | dead=>cases hr; trivial
 | var d =>
  simp only[tE]at hr
  split at hr
  ·rename_i d' hd
   cases hr
   obtain⟨blk,n,cs,t,h1,h2,h3,h4,h5⟩:=hy
   obtain⟨g1,g2⟩:=h.flat h4 h5.1 hd
   exact⟨blk,n,cs,t,hp.trans h1,by rw[h.w]; exact h2,h3,g1,g2,fun T hT=>h5.2 T (Gt hd hT)⟩
  ·cases hr
 | arr qs e xs =>
  cases hr
  obtain⟨h0,hh⟩:=hy
  refine⟨h0,yE hh (fun h=>⟨h.1,hp.trans h.2⟩) ?_⟩
  rintro⟨blk,n,cs,t,h1,h2,h3,h4,hr,g,h5⟩
  exact⟨blk,n,cs,t,hp.trans h1,by rw[h.w]; exact h2,h3,h4,hr,g,fun i hi=>⟨(h5 i hi).1.mono h.same,(h5 i hi).2⟩⟩
theorem mS{f:Nat→Option Nat}:∀ {fr:Fr} {s:Nat} {d':D},(nw f fr).get s=some d'→∃ d,fr.get s=some d∧iv f d=some d'
 | [],s,d',h=>by cases h
 | (t,some d)::r,s,d',h=>by
  simp only[nw,Fr.get]at h ⊢
  cases ht:Nat.beq t s with
  | true=>rw[ht,cond_true]at h; exact⟨d,rfl,h⟩
  | false=>rw[ht,cond_false]at h; simp only[cond_false]; exact mS h
 | (t,none)::r,s,d',h=>by
  simp only[nw,Fr.get]at h ⊢
  cases ht:Nat.beq t s with
  | true=>rw[ht,cond_true]at h; cases h
  | false=>rw[ht,cond_false]at h; simp only[cond_false]; exact mS h
end
def pos:List Nat→Nat→Option Nat
 | [],_=>none
 | b::r,i=>bif Nat.beq b i then some 0 else match pos r i with | some j=>some (j+1) | none=>none
def ku:List Nat→Bool
 | []=>true
 | b::r=>(match pos r b with | none=>true | some _=>false)&&ku r
theorem cP:∀ {mp:List Nat} {i j:Nat},pos mp i=some j→mp[j]? = some i
 | [],i,j,h=>by cases h
 | b::r,i,j,h=>by
  simp only[pos]at h
  cases hb:Nat.beq b i with
  | true=>rw[hb,cond_true]at h; cases h; rw[Nat.eq_of_beq_eq_true hb]; rfl
  | false =>
   rw[hb,cond_false]at h
   split at h
   ·rename_i k hk; cases h; simpa using cP hk
   ·cases h
theorem eT:∀ {mp:List Nat} {i j:Nat},ku mp=true→mp[j]? = some i→pos mp i=some j
 | [],i,j,_,h=>by simp at h
 | b::r,i,j,hn,h=>by
  simp only[ku,Bool.and_eq_true]at hn
  cases j with
  | zero=>simp at h; subst h; simp only[pos]; rw[Nat.beq_refl]; rfl
  | succ j =>
   have h':r[j]? = some i:=by simpa using h
   have hp:=eT hn.2 h'
   have u7:Nat.beq b i=false:=by
    cases hb:Nat.beq b i with
    | false=>rfl
    | true =>
     have:=Nat.eq_of_beq_eq_true hb
     subst this
     rw[hp]at hn
     cases hn.1
   simp only[pos,u7,cond_false,hp]
def cE{α:Type}(l:List α):List Nat→Option (List α)
 | []=>some []
 | b::r=>match l[b]? with
  | some x=>match cE l r with | some y=>some (x::y) | none=>none
  | none=>none
theorem rW{α:Type}{l:List α}:∀ {mp:List Nat} {r:List α},cE l mp=some r→r.length=mp.length∧∀ (j b:Nat),mp[j]? = some b→r[j]? = l[b]? ∧ b<l.length
 | [],r,h=>by cases h; exact⟨rfl,fun j b hj=>by simp at hj⟩
 | b::mp,r,h=>by
  simp only[cE]at h
  split at h
  ·rename_i x hx
   split at h
   ·rename_i y hy
    cases h
    obtain⟨h1,h2⟩:=rW hy
    refine⟨by simp[h1],fun j c hj => ?_⟩
    cases j with
    | zero=>simp at hj; subst hj; exact⟨by simp[hx],(List.getElem?_eq_some_iff.1 hx).1⟩
    | succ j=>have:=h2 j c (by simpa using hj); simpa using this
   ·cases h
  ·cases h
theorem rS{f:Nat→Option Nat}:∀ {l r:List ju},fS f l=some r→r.length=l.length∧∀ (j:Nat) (x:ju),l[j]? = some x→∃ y,r[j]? = some y∧tE f x=some y
 | [],r,h=>by cases h; exact⟨rfl,fun j x hj=>by simp at hj⟩
 | b::l,r,h=>by
  simp only[fS]at h
  split at h
  ·rename_i b' hb
   split at h
   ·rename_i r' hr
    cases h
    obtain⟨h1,h2⟩:=rS hr
    refine⟨by simp[h1],fun j x hj => ?_⟩
    cases j with
    | zero=>simp at hj; subst hj; exact⟨b',rfl,hb⟩
    | succ j=>have:=h2 j x (by simpa using hj); simpa using this
   ·cases h
  ·cases h
def lD{α:Type}(mp:List Nat)(new:List α):Nat→List α→List α
 | _,[]=>[]
 | i,x::r=>(match pos mp i with | some j=>(match new[j]? with | some y=>y | none=>x) | none=>x)::lD mp new (i+1) r
def xZ{α:Type}(mp:List Nat)(old new:List α):List α:=lD mp new 0 old++new.drop mp.length
theorem ub{α:Type}(mp:List Nat)(new:List α):∀ (l:List α) (i:Nat),(lD mp new i l).length=l.length
 | [],_=>rfl
 | x::r,i=>by simp[lD,ub mp new r (i+1)]
theorem nS{α:Type}(mp:List Nat)(new:List α):∀ (l:List α) (i k:Nat),(lD mp new i l)[k]? = (l[k]?).map fun x=>match pos mp (i+k)with | some j=>(match new[j]? with | some y=>y | none=>x) | none=>x
 | [],i,k=>by simp[lD]
 | x::r,i,0=>by simp[lD]
 | x::r,i,k+1=>by
  have:=nS mp new r (i+1) k
  simp only[lD,List.getElem?_cons_succ,this]
  rw[show i+1+k=i+(k+1) by omega]
def fwd(mp:List Nat)(n:Nat)(j:Nat):Nat:=match mp[j]? with | some b=>b | none=>n+(j-mp.length)
theorem dy{α:Type}{mp:List Nat}{old new:List α}{i:Nat}(hi:i<old.length)(hp:pos mp i=none):(xZ mp old new)[i]? = old[i]? := by
 unfold xZ
 rw[List.getElem?_append_left (by rw[ub]; exact hi),nS,Nat.zero_add,hp]
 simp
theorem Jt{α:Type}{mp:List Nat}{old new:List α}(hn:ku mp=true)(qh:∀ (j b:Nat),mp[j]? = some b→b<old.length)(hlen:mp.length≤new.length){j:Nat}(hj:j<new.length):(xZ mp old new)[fwd mp old.length j]? = new[j]? := by
 unfold xZ fwd
 cases hm:mp[j]? with
 | some b =>
  have hb:=qh j b hm
  simp only
  rw[List.getElem?_append_left (by rw[ub]; exact hb),nS,Nat.zero_add,eT hn hm]
  simp[hb,List.getElem?_eq_getElem hj]
 | none =>
  have:mp.length≤j:=by simpa using hm
  simp only
  rw[List.getElem?_append_right (by rw[ub]; omega),ub,List.getElem?_drop]
  congr 1
  omega
theorem Gk{α:Type}{mp:List Nat}{old new:List α}(qh:∀ (j b:Nat),mp[j]? = some b→b<old.length)(hlen:mp.length≤new.length){i:Nat}(hi:i<(xZ mp old new).length) :
  (i<old.length∧pos mp i=none)∨∃ j,j<new.length∧i=fwd mp old.length j:=by
 by_cases h:i<old.length
 ·cases hp:pos mp i with
  | none=>exact .inl ⟨h,rfl⟩
  | some j =>
   have:=cP hp
   have hj:=(List.getElem?_eq_some_iff.1 this).1
   exact .inr ⟨j,by omega,by unfold fwd; rw[this]⟩
 ·have hl:i<old.length+(new.length-mp.length):=by simpa[xZ,ub]using hi
  refine .inr ⟨mp.length+(i-old.length),by omega,?_⟩
  unfold fwd
  rw[List.getElem?_eq_none (by omega)]
  simp only
  omega
end Go.AM
namespace Go.AM
set_option linter.unusedSectionVars false
variable [vP]
open Go.RowKit
section
variable {κ:KS} {mp:List Nat}
theorem YE{y9 l:List ju}{p1:List (Option (Nat×Nat))}(hI:Inv κ)(hn:ku mp=true)(hp:cE κ.ph mp=some p1)(hl:cE κ.st mp=some l)(hr:fS (pos mp) l=some y9) :
  Inv ⟨κ.w,κ.ok,p1,y9⟩∧Tr κ ⟨κ.w,κ.ok,p1,y9⟩ (pos mp)∧y9.length=mp.length∧p1.length=mp.length∧∀ (j b:Nat),mp[j]? = some b→p1[j]? = κ.ph[b]? ∧ ∃ x y:ju,κ.st[b]? = some x∧tE (pos mp) x=some y∧y9[j]? = some y:=by
 obtain⟨a1,a2⟩:=rW hp
 obtain⟨b1,b2⟩:=rW hl
 obtain⟨c1,c2⟩:=rS hr
 have key:∀ (j b:Nat),mp[j]? = some b→p1[j]? = κ.ph[b]? ∧ ∃ x y:ju,κ.st[b]? = some x∧tE (pos mp) x=some y∧y9[j]? = some y:=by
  intro j b hj
  refine⟨(a2 j b hj).1,?_⟩
  obtain⟨h1,h2⟩:=b2 j b hj
  have hx:l[j]? = some (κ.st[b]'h2):=by rw[h1,List.getElem?_eq_getElem h2]
  obtain⟨y,g1,g2⟩:=c2 j _ hx
  exact⟨_,y,List.getElem?_eq_getElem h2,g2,g1⟩
 have at':∀ {j:Nat} {y:ju},y9[j]? = some y→∃ b,mp[j]? = some b:=fun h=>by
  have:=(List.getElem?_eq_some_iff.1 h).1
  exact⟨_,List.getElem?_eq_getElem (by omega)⟩
 have hT:Tr κ ⟨κ.w,κ.ok,p1,y9⟩ (pos mp):=by
  refine⟨rfl,rfl,fun b j d hf hb => ?_,fun b j qs hf ho => ?_,fun b j v e xs hf hb => ?_⟩
  ·obtain⟨h1,x,y,h2,h3,h4⟩:=key j b (cP hf)
   rw[hb]at h2
   cases h2
   simp only[tE]at h3
   split at h3
   ·cases h3; exact⟨⟨_,h4⟩,h1⟩
   ·cases h3
  ·obtain⟨h1,x,y,h2,h3,h4⟩:=key j b (cP hf)
   rcases ho with ho | ⟨v0,e0,iA,ho,hv⟩
   ·rw[ho]at h2; cases h2; cases h3; exact .inl h4
   ·rw[ho]at h2; cases h2; cases h3; exact .inr ⟨v0,e0,iA,h4,hv⟩
  ·obtain⟨h1,x,y,h2,h3,h4⟩:=key j b (cP hf)
   rw[show y9[j]? = some (.arr v e xs)from hb]at h4
   cases h4
   cases x with
   | dead=>cases h3
   | var d=>simp only[tE]at h3; split at h3<;>cases h3
   | arr v0 e0 iA=>cases h3; exact⟨h2,h1⟩
 refine⟨⟨by show p1.length=y9.length; omega,hI.kY,fun j blk n h => ?_,fun j j' blk n n' h h' => ?_,fun j y h => ?_,hI.gl⟩,hT,by omega,a1,key⟩
 ·obtain⟨b,hb⟩:∃ b,mp[j]? = some b:=⟨_,List.getElem?_eq_getElem (by have:j<p1.length:=(List.getElem?_eq_some_iff.1 h).1; omega)⟩
  exact hI.apart b blk n ((a2 j b hb).1.symm.trans h)
 ·obtain⟨b,hb⟩:∃ b,mp[j]? = some b:=⟨_,List.getElem?_eq_getElem (by have:j<p1.length:=(List.getElem?_eq_some_iff.1 h).1; omega)⟩
  obtain⟨b',X3⟩:∃ b,mp[j']? = some b:=⟨_,List.getElem?_eq_getElem (by have:j'<p1.length:=(List.getElem?_eq_some_iff.1 h').1; omega)⟩
  have:=hI.inj b b' blk n n' ((a2 j b hb).1.symm.trans h) ((a2 j' b' X3).1.symm.trans h')
  subst this
  exact Option.some.inj ((eT hn hb).symm.trans (eT hn X3))
 ·obtain⟨b,hb⟩:=at' h
  obtain⟨h1,x,y',h2,h3,h4⟩:=key j b hb
  rw[show y9[j]? = some y from h]at h4
  cases h4
  exact hT.blk h1 (hI.blk b x h2) h3
theorem Ug{κ1:KS}{y9 uF l:List ju}{p1:List (Option (Nat×Nat))}(hI:Inv κ)(hn:ku mp=true)(hp:cE κ.ph mp=some p1)(hl:cE κ.st mp=some l)(hr:fS (pos mp) l=some y9)
  (ry:Inv κ1) (hx:Ext ⟨κ.w,κ.ok,p1,y9⟩ κ1) (hr2:fS (fun j=>some (fwd mp κ.st.length j)) κ1.st=some uF) :
  ∃ κ':KS,κ'.w=κ1.w∧κ'.st=xZ mp κ.st uF∧Inv κ'∧Ext κ κ'∧Tr κ1 κ' (fun j=>some (fwd mp κ.st.length j)):=by
 obtain⟨hIs,hTs,s1,s2,key⟩:=YE hI hn hp hl hr
 obtain⟨r1,r2⟩:=rS hr2
 have qh:∀ (j b:Nat),mp[j]? = some b→b<κ.st.length:=fun j b hj=>by obtain⟨_,x,_,h,_⟩:=key j b hj; exact(List.getElem?_eq_some_iff.1 h).1
 have z5p:∀ (j b:Nat),mp[j]? = some b→b<κ.ph.length:=fun j b hj=>by rw[hI.len]; exact qh j b hj
 have HX:mp.length≤κ1.st.length:=by have:=hx.Jk; simp only at this; omega
 have tW:mp.length≤uF.length:=by omega
 have DT:mp.length≤κ1.ph.length:=by rw[ry.len]; exact HX
 let fw:=fwd mp κ.st.length
 have hlen:(xZ mp κ.ph κ1.ph).length=(xZ mp κ.st uF).length:=by simp[xZ,ub,hI.len,ry.len,r1]
 -- what lies where
 have OU:∀ {j:Nat} {x:ju},κ1.st[j]? = some x→∃ y,(xZ mp κ.st uF)[fw j]? = some y∧tE (fun j=>some (fw j)) x=some y:=by
  intro j x hj
  obtain⟨y,h1,h2⟩:=r2 j x hj
  exact⟨y,by rw[Jt hn qh tW (by rw[r1]; exact(List.getElem?_eq_some_iff.1 hj).1)]; exact h1,h2⟩
 have N2:∀ {j:Nat},j<κ1.st.length→(xZ mp κ.ph κ1.ph)[fw j]? = κ1.ph[j]? := by
  intro j hj
  have:=Jt (old:=κ.ph) (new:=κ1.ph) hn z5p DT (j:=j) (by rw[ry.len]; exact hj)
  rw[hI.len]at this
  exact this
 have ust:∀ {i:Nat},i<κ.st.length→pos mp i=none→(xZ mp κ.st uF)[i]? = κ.st[i]? := fun hi h=>dy hi h
 have OY:∀ {i:Nat},i<κ.st.length→pos mp i=none→(xZ mp κ.ph κ1.ph)[i]? = κ.ph[i]? := fun hi h=>dy (by rw[hI.len]; exact hi) h
 have rG:∀ {i:Nat},i<(xZ mp κ.st uF).length→(i<κ.st.length∧pos mp i=none)∨∃ j,j<κ1.st.length∧i=fw j:=by
  intro i hi
  rcases Gk qh tW hi with h | ⟨j,h1,h2⟩
  ·exact .inl h
  ·exact .inr ⟨j,by omega,h2⟩
 have Dx:∀ {j b:Nat},mp[j]? = some b→fw j=b:=fun h=>by simp only[fw,fwd,h]
 have z8T:∀ {j:Nat},mp[j]? = none→κ.st.length≤fw j:=fun h=>by simp only[fw,fwd,h]; omega
 -- the part's own blocks
 have S8:∀ {j:Nat} {q:Nat×Nat},p1[j]? = some (some q)→∃ b,mp[j]? = some b∧κ.ph[b]? = some (some q):=by
  intro j q h
  have hj:=(List.getElem?_eq_some_iff.1 h).1
  obtain⟨b,hb⟩:∃ b,mp[j]? = some b:=⟨_,List.getElem?_eq_getElem (by omega)⟩
  exact⟨b,hb,(key j b hb).1.symm.trans h⟩
 have hT:Tr κ1 ⟨κ1.w,κ1.ok,xZ mp κ.ph κ1.ph,xZ mp κ.st uF⟩ (fun j=>some (fw j)):=by
  refine⟨rfl,rfl,fun j b d hf hj => ?_,fun j b qs hf ho => ?_,fun j b v e xs hf hb => ?_⟩
  ·cases hf
   obtain⟨y,h1,h2⟩:=OU hj
   simp only[tE]at h2
   split at h2
   ·cases h2; exact⟨⟨_,h1⟩,N2 (List.getElem?_eq_some_iff.1 hj).1⟩
   ·cases h2
  ·cases hf
   rcases ho with ho | ⟨v0,e0,iA,ho,hv⟩
   ·obtain⟨y,h1,h2⟩:=OU ho; cases h2; exact .inl h1
   ·obtain⟨y,h1,h2⟩:=OU ho; cases h2; exact .inr ⟨v0,e0,iA,h1,hv⟩
  ·cases hf
   have hb:(xZ mp κ.st uF)[fw j]? = some (.arr v e xs):=hb
   have Uw:=(List.getElem?_eq_some_iff.1 hb).1
   have hj:j<κ1.st.length:=by
    by_cases hj:j<κ1.st.length
    ·exact hj
    ·exfalso
     cases hm:mp[j]? with
     | some c=>have:=(List.getElem?_eq_some_iff.1 hm).1; omega
     | none =>
      have h3:fw j=κ.st.length+(j-mp.length):=by simp only[fw,fwd,hm]
      have h4:(xZ mp κ.st uF).length=κ.st.length+(uF.length-mp.length):=by simp[xZ,ub]
      omega
   obtain⟨y,h1,h2⟩:=OU (List.getElem?_eq_getElem hj)
   rw[hb]at h1
   cases h1
   refine⟨?_,N2 hj⟩
   rw[List.getElem?_eq_getElem hj]
   generalize κ1.st[j]=x at h2
   cases x with
   | dead=>cases h2
   | var d=>simp only[tE]at h2; split at h2<;>cases h2
   | arr v0 e0 iA=>cases h2; rfl
 -- WI blocks lie as they lay
 have WI:∀ {i blk n:Nat},pos mp i=none→κ.ph[i]? = some (some (blk,n))→κ1.w.heap[blk]? = κ.w.heap[blk]? := by
  intro i blk n hi h
  obtain⟨g1,g2⟩:=hI.apart i blk n h
  refine hx.frame blk g1 fun j m hj => ?_
  obtain⟨b,Hn,Uq⟩:=S8 hj
  have:=hI.inj i b blk n m h Uq
  subst this
  rw[eT hn Hn]at hi
  cases hi
 have hE:Ext κ ⟨κ1.w,κ1.ok,xZ mp κ.ph κ1.ph,xZ mp κ.st uF⟩:=by
  refine⟨hx.os,hx.tape,hx.output,hx.size,hx.same,fun k hk => ?_,fun i blk n h => ?_,fun i d hi => ?_,fun i v0 e iA hi => ?_,fun i hi => ?_,?_,fun k hk uq => ?_⟩
  ·rcases hx.fresh k hk with h | h | ⟨j,n,h⟩
   ·exact .inl h
   ·exact .inr (.inl h)
   ·obtain⟨b,_,hb⟩:=S8 h; exact .inr (.inr ⟨b,n,hb⟩)
  ·have h:(xZ mp κ.ph κ1.ph)[i]? = some (some (blk,n)):=h
   have tK:i<(xZ mp κ.st uF).length:=by rw[← hlen]; exact(List.getElem?_eq_some_iff.1 h).1
   rcases rG tK with⟨h1,h2⟩ | ⟨j,h1,rfl⟩
   ·rw[OY h1 h2]at h; exact .inl h
   ·rw[N2 h1]at h
    rcases hx.Li j blk n h with h3 | h3
    ·obtain⟨b,Hn,Uq⟩:=S8 h3
     rw[Dx Hn]; exact .inl Uq
    ·exact .inr h3
  ·have YU:=(List.getElem?_eq_some_iff.1 hi).1
   cases Uz:pos mp i with
   | none=>exact⟨⟨d,(ust YU Uz).trans hi⟩,OY YU Uz⟩
   | some j =>
    have Lg:=cP Uz
    obtain⟨k1,x,y,k2,k3,k4⟩:=key j i Lg
    rw[hi]at k2
    cases k2
    simp only[tE]at k3
    split at k3
    ·cases k3
     obtain⟨⟨d',g1⟩,g2⟩:=hx.var j _ k4
     obtain⟨⟨d'',q1⟩,q2⟩:=hT.var j (fw j) d' rfl g1
     rw[Dx Lg]at q1 q2
     exact⟨⟨d'',q1⟩,q2.trans (g2.trans k1)⟩
    ·cases k3
  ·have YU:=(List.getElem?_eq_some_iff.1 hi).1
   cases Uz:pos mp i with
   | none=>exact .inr ⟨v0,iA,(ust YU Uz).trans hi,Nat.le_refl _,fun _=>⟨OY YU Uz,rfl⟩⟩
   | some j =>
    have Lg:=cP Uz
    obtain⟨k1,x,y,k2,k3,k4⟩:=key j i Lg
    rw[hi]at k2
    cases k2
    cases k3
    rcases hx.arr j v0 e iA k4 with g | ⟨v1,qp,g1,g2,g3⟩
    ·obtain⟨y,q1,q2⟩:=OU g
     cases q2
     rw[Dx Lg]at q1
     exact .inl q1
    ·obtain⟨y,q1,q2⟩:=OU g1
     cases q2
     rw[Dx Lg]at q1
     refine .inr ⟨v1,qp,q1,g2,fun he=>⟨?_,(g3 he).2⟩⟩
     have h4:=N2 (List.getElem?_eq_some_iff.1 g1).1
     rw[Dx Lg]at h4
     exact h4.trans ((g3 he).1.trans k1)
  ·have YU:=(List.getElem?_eq_some_iff.1 hi).1
   cases Uz:pos mp i with
   | none=>exact(ust YU Uz).trans hi
   | some j =>
    have Lg:=cP Uz
    obtain⟨k1,x,y,k2,k3,k4⟩:=key j i Lg
    rw[hi]at k2
    cases k2
    cases k3
    obtain⟨y,q1,q2⟩:=OU (hx.dead j k4)
    cases q2
    rw[Dx Lg]at q1
    exact q1
  ·show κ.st.length≤(xZ mp κ.st uF).length
   simp[xZ,ub]
  ·exact hx.frame k hk fun j n hj=>by obtain⟨b,_,hb⟩:=S8 hj; exact uq b n hb
 refine⟨⟨κ1.w,κ1.ok,xZ mp κ.ph κ1.ph,xZ mp κ.st uF⟩,rfl,rfl,⟨hlen,ry.kY,fun i blk n h => ?_,fun i i' blk n n' h h' => ?_,fun i y h => ?_,ry.gl⟩,hE,hT⟩
 ·have h:(xZ mp κ.ph κ1.ph)[i]? = some (some (blk,n)):=h
  have tK:i<(xZ mp κ.st uF).length:=by rw[← hlen]; exact(List.getElem?_eq_some_iff.1 h).1
  rcases rG tK with⟨h1,h2⟩ | ⟨j,h1,rfl⟩
  ·rw[OY h1 h2]at h
   obtain⟨g1,g2⟩:=hI.apart i blk n h
   refine⟨Nat.lt_of_lt_of_le g1 hx.size,fun hk => ?_⟩
   rcases hx.fresh blk hk with hk | hk | ⟨j,m,hj⟩
   ·exact g2 hk
   ·simp only at hk; omega
   ·obtain⟨b,Hn,Uq⟩:=S8 hj
    have:=hI.inj i b blk n m h Uq
    subst this
    rw[eT hn Hn]at h2
    cases h2
  ·rw[N2 h1]at h
   exact ry.apart j blk n h
 ·have h:(xZ mp κ.ph κ1.ph)[i]? = some (some (blk,n)):=h
  have h':(xZ mp κ.ph κ1.ph)[i']? = some (some (blk,n')):=h'
  have FE:i<(xZ mp κ.st uF).length:=by rw[← hlen]; exact(List.getElem?_eq_some_iff.1 h).1
  have P2:i'<(xZ mp κ.st uF).length:=by rw[← hlen]; exact(List.getElem?_eq_some_iff.1 h').1
  have mixed:∀ {i j n n':Nat},i<κ.st.length→pos mp i=none→j<κ1.st.length→κ.ph[i]? = some (some (blk,n))→κ1.ph[j]? = some (some (blk,n'))→False:=by
   intro i j n n' h1 h2 h3 h4 h5
   rcases hx.Li j blk n' h5 with h6 | h6
   ·obtain⟨b,Hn,Uq⟩:=S8 h6
    have:=hI.inj i b blk n n' h4 Uq
    subst this
    rw[eT hn Hn]at h2
    cases h2
   ·have:=(hI.apart i blk n h4).1
    simp only at h6
    omega
  rcases rG FE with⟨h1,h2⟩ | ⟨j,h1,rfl⟩
  ·rw[OY h1 h2]at h
   rcases rG P2 with⟨h3,h4⟩ | ⟨j',h3,rfl⟩
   ·rw[OY h3 h4]at h'; exact hI.inj i i' blk n n' h h'
   ·rw[N2 h3]at h'; exact(mixed h1 h2 h3 h h').elim
  ·rw[N2 h1]at h
   rcases rG P2 with⟨h3,h4⟩ | ⟨j',h3,rfl⟩
   ·rw[OY h3 h4]at h'; exact(mixed h3 h4 h1 h' h).elim
   ·rw[N2 h3]at h'
    rw[ry.inj j j' blk n n' h h']
 ·have h:(xZ mp κ.st uF)[i]? = some y:=h
  rcases rG (List.getElem?_eq_some_iff.1 h).1 with⟨h1,h2⟩ | ⟨j,h1,rfl⟩
  ·rw[ust h1 h2]at h
   exact(hI.blk i y h).mono hE (OY h1 h2) fun blk n hb=>WI h2 hb
  ·obtain⟨z,q1,q2⟩:=OU (List.getElem?_eq_getElem h1)
   rw[h]at q1
   cases q1
   exact hT.blk (N2 h1) (ry.blk j _ (List.getElem?_eq_getElem h1)) q2
end
end Go.AM
namespace Go.AM
set_option linter.unusedSectionVars false
variable [vP]
open Go.RowKit
inductive AK where
 | any | cur | sub | ptr | xg (f:Nat)
structure js where
 ks:List AK
 sh:yx
 jK:List Gh
 out:yx
 nr:Nat
 F:sh.den→T out.den
def BR(fr:Fr):Nat→Nat→Option (List D)
 | 0,_=>some []
 | n+1,i=>match fr.get i with
  | some d=>match BR fr n (i+1)with | some r=>some (d::r) | none=>none
  | none=>none
def yK(nr:Nat)(fr:Fr):Option (List D):=BR fr nr 0
def EX:List (Nat×Nat)→List D→Nat→Option Nat
 | p::r,.ptr b' _::ds,b=>bif Nat.beq p.1 b then some b' else EX r ds b
 | _,_,_=>none
def z1C(b:Nat):Ck→D→Option Nat
 | .ptr c _,.ptr b' _=>bif Nat.beq c b then some b' else none
 | .cur c _,.ms b' _ _ _ _=>bif Nat.beq c b then some b' else none
 | .xg _ l,.xg _ ds=>EX l ds b
 | _,_=>none
def Pl(fr:Fr)(b:Nat):List (Nat×Ck)→Option Nat
 | []=>none
 | (s,k)::r=>match fr.get s with
  | some d=>match z1C b k d with | some b'=>some b' | none=>Pl fr b r
  | none=>Pl fr b r
def KO(b:Nat):List Mc→List D→Option Nat
 | .pt c::r,.ptr b' _::ds=>bif Nat.beq c b then some b' else KO b r ds
 | .pt _::r,_::ds=>KO b r ds
 | .im _::r,_::ds=>KO b r ds
 | .rp _::r,_::ds=>KO b r ds
 | _,_=>none
def ZE(b:Nat):List Sk→List D→Option Nat
 | .im τ::r,ds=>ZE b r (ds.drop τ.size)
 | .row c _::r,.ms b' _ _ _ _::ds=>bif Nat.beq c b then some b' else ZE b r ds
 | .row _ _::r,_::ds=>ZE b r ds
 | .op c _::r,.b6 b' _::ds=>bif Nat.beq c b then some b' else ZE b r ds
 | .op _ _::r,_::ds=>ZE b r ds
 | .un::r,_::ds=>ZE b r ds
 | _,_=>none
def XM(fr:Fr)(b:Nat):List It→Option Nat
 | []=>none
 | .s s (.mclo _ ms)::r=>match fr.get s with
  | some (.xg _ l)=>match KO b ms l with | some b'=>some b' | none=>XM fr b r
  | _=>XM fr b r
 | .s s (.sub c _)::r=>match fr.get s with
  | some (.ms b' _ _ _ _)=>bif Nat.beq c b then some b' else XM fr b r
  | _=>XM fr b r
 | _::r=>XM fr b r
def Ct(st:St)(b:Nat):List Bk→List (Option Nat)→Option Nat
 | .cvar k::r,some p::ps=>match st[p]? with
  | some (.var d)=>match z1C b k d with | some b'=>some b' | none=>Ct st b r ps
  | _=>Ct st b r ps
 | .var (.st ks)::r,some p::ps=>match st[p]? with
  | some (.var d)=>match ZE b ks (zW d)with | some b'=>some b' | none=>Ct st b r ps
  | _=>Ct st b r ps
 | _::r,_::ps=>Ct st b r ps
 | _,_=>none
def z1I(sh:yx)(fr:Fr):Nat→List Bk→List (Option Nat)
 | _,[]=>[]
 | b,_::r=>(match Pl fr b sh.cs with | some b'=>some b' | none=>XM fr b sh.iB)::z1I sh fr (b+1) r
def LV(sh:yx)(st:St)(m:List (Option Nat)):Nat→List (Option Nat)→List (Option Nat)
 | _,[]=>[]
 | b,some b'::r=>some b'::LV sh st m (b+1) r
 | b,none::r=>Ct st b sh.bs m::LV sh st m (b+1) r
def To:List (Option Nat)→Option (List Nat)
 | []=>some []
 | some b::r=>match To r with | some l=>some (b::l) | none=>none
 | none::_=>none
def mapOf(sh:yx)(fr:Fr)(st:St):Option (List Nat):=let m:=z1I sh fr 0 sh.bs
 let m:=LV sh st m 0 m
 To (LV sh st m 0 m)
def js.back(d:js)(mp:List Nat)(st:St)(y:d.out.den):T (V6×St):=match yK d.nr (d.out.fr y),fS (fun j=>some (fwd mp st.length j)) (d.out.st y)with
 | some ds,some uF=>match td (fun j=>some (fwd mp st.length j)) ds with
  | some Xc=>.ret (.ret Xc,xZ mp st uF)
  | none=>.fail
 | _,_=>.fail
def js.inner(d:js)(mp:List Nat)(fr:Fr)(st:St):T (V6×St):=match cE st mp with
 | none=>.fail
 | some l=>match fS (pos mp) l with
  | none=>.fail
  | some y9=>(d.sh.un (nw (pos mp) fr) y9).bind fun x=>(d.F x).bind fun y=>d.back mp st y
def js.S(d:js)(args:List D)(st:St):T (V6×St) :=
 match mapOf d.sh (gh d.jK (w9 args 0) st).1 (gh d.jK (w9 args 0) st).2 with
 | none=>.fail
 | some mp=>bif ku mp&&Nat.ble mp.length d.sh.bs.length&&Nat.beq args.length d.ks.length then d.inner mp (gh d.jK (w9 args 0) st).1 (gh d.jK (w9 args 0) st).2 else .fail
def js.ZP{α:Type}(d:js)(mp:List Nat)(st:St)(y:d.out.den)(k:List D→St→T α):T α:=match yK d.nr (d.out.fr y),fS (fun j=>some (fwd mp st.length j)) (d.out.st y)with
 | some ds,some uF=>match td (fun j=>some (fwd mp st.length j)) ds with
  | some Xc=>k Xc (xZ mp st uF)
  | none=>.fail
 | _,_=>.fail
def js.iG{α:Type}(d:js)(mp:List Nat)(fr:Fr)(st:St)(k:List D→St→T α):T α:=match cE st mp with
 | none=>.fail
 | some l=>match fS (pos mp) l with
  | none=>.fail
  | some y9=>(d.sh.un (nw (pos mp) fr) y9).bind fun x=>(d.F x).bind fun y=>d.ZP mp st y k
def js.K{α:Type}(d:js)(args:List D)(st:St)(k:List D→St→T α):T α :=
 match mapOf d.sh (gh d.jK (w9 args 0) st).1 (gh d.jK (w9 args 0) st).2 with
 | none=>.fail
 | some mp=>bif ku mp&&Nat.ble mp.length d.sh.bs.length&&Nat.beq args.length d.ks.length then d.iG mp (gh d.jK (w9 args 0) st).1 (gh d.jK (w9 args 0) st).2 k else .fail
theorem js.Ev{α:Type}{d:js}{args:List D}{st:St}{k:List D→St→T α}{r:α}(h:(d.K args st k).leads r):∃ ds zu,(d.S args st).leads (.ret ds,zu)∧(k ds zu).leads r:=by
 unfold js.K at h
 unfold js.S
 split at h
 ·exact h.elim
 ·rename_i mp DT
  cases hc:ku mp&&Nat.ble mp.length d.sh.bs.length&&Nat.beq args.length d.ks.length with
  | false=>rw[hc]at h; exact h.elim
  | true =>
   rw[hc,cond_true]at h
   rw[cond_true]
   unfold js.iG at h
   unfold js.inner
   split at h
   ·exact h.elim
   ·rename_i l hl
    split at h
    ·exact h.elim
    ·rename_i y9 hst1
     obtain⟨x,h1,h⟩:=T.ze.1 h
     obtain⟨y,h2,h⟩:=T.ze.1 h
     unfold js.ZP at h
     split at h
     ·rename_i ds uF e1 e2
      split at h
      ·rename_i Xc e3
       refine⟨Xc,_,T.ze.2 ⟨x,h1,T.ze.2 ⟨y,h2,?_⟩⟩,h⟩
       unfold js.back
       simp only[e1,e2,e3]
       rfl
      ·exact h.elim
     ·exact h.elim
def jZ(Dr:L8)(g:Nat)(d:js):Prop:=∀ (κ:KS) (x:d.sh.den) (zM:List Value) (y:d.out.den),κ.st=d.sh.st x→(d.F x).leads y→Inv κ→zM.length=d.ks.length →
 Rel κ zM.length (d.sh.fr x).get { tmps:=zM.toArray,defers:=[] } →
 Dr g zM.toArray κ.w fun e w'=>∃ (κ':KS) (ds:List D),κ'.w=w'∧κ'.st=d.out.st y∧Inv κ'∧Ext κ κ'∧yK d.nr (d.out.fr y)=some ds∧vd κ' (.ret ds) e
def xB(P:Program)(g:Nat)(d:js):Prop:=∀ (κ:KS) (x:d.sh.den) (zM:List Value) (y:d.out.den),κ.st=d.sh.st x→(d.F x).leads y→Inv κ→zM.length=d.ks.length →
 Rel κ zM.length (d.sh.fr x).get { tmps:=zM.toArray,defers:=[] } →
 um P g zM.toArray κ.w fun e w'=>∃ (κ':KS) (ds:List D),κ'.w=w'∧κ'.st=d.out.st y∧Inv κ'∧Ext κ κ'∧yK d.nr (d.out.fr y)=some ds∧vd κ' (.ret ds) e
theorem HC{κ κ':KS}{f:Nat→Option Nat}(h:Tr κ κ' f){ds Xc:List D}{v:Value}(hd:RD κ (jU ds) v)(hr:td f ds=some Xc):RD κ' (jU Xc) v:=by
 match ds,hr with
 | [],hr =>
  cases hr
  cases hd with
  | jY _ vs hl hh =>
   obtain rfl:vs=[]:=List.eq_nil_of_length_eq_zero hl.symm
   exact .jY [] [] rfl (fun i h=>absurd h (Nat.not_lt_zero i))
 | [d],hr =>
  simp only[td]at hr
  split at hr
  ·rename_i d' h1
   cases hr
   exact h.rd hd h1
  ·cases hr
 | d::e::r,hr =>
  have hd:RD κ (.jY (d::e::r)) v:=hd
  cases hd with
  | jY _ vs hl hh =>
   have hR:=h.rds (⟨hl,hh⟩:qG κ (d::e::r) vs) hr
   simp only[td]at hr
   split at hr
   ·split at hr
    ·rename_i r' h2
     cases hr
     split at h2
     ·split at h2
      ·cases h2; exact .jY _ vs hR.1 hR.2
      ·cases h2
     ·cases h2
    ·cases hr
   ·cases hr
theorem nN{α β:Type}{l:List α}{m:List β}(h:l.length=m.length):∀ {mp:List Nat} {r:List α},cE l mp=some r→∃ q,cE m mp=some q
 | [],_,_=>⟨[],rfl⟩
 | b::mp,r,hr=>by
  simp only[cE]at hr
  split at hr
  ·rename_i x hx
   split at hr
   ·rename_i y hy
    obtain⟨q,hq⟩:=nN h hy
    have hb:b<m.length:=by have:=(List.getElem?_eq_some_iff.1 hx).1; omega
    exact⟨m[b]::q,by simp only[cE,List.getElem?_eq_getElem hb,hq]⟩
   ·cases hr
  ·cases hr
theorem js.Rs{Dr:L8}(SK:∀ {g a w} {R R':Ending→World→Prop},Dr g a w R→(∀ e w',R e w'→R' e w')→Dr g a w R'){g:Nat}{d:js}(h:jZ Dr g d):z4O Dr g d.S:=by
 intro κ args zM rs zu hl hI ha
 have Ie:Rel κ zM.length (w9 args 0).get { tmps:=zM.toArray,defers:=[] }:=by
  have:=ox (n:=zM.length) ha (by rw[ha.1]; exact Nat.le_refl _)
  simpa[show(Xl.df:List Deferred)=[]from rfl]using this
 obtain⟨κ0,w1,w2,w3,w4,w5⟩:=dx d.jK (w9 args 0) κ hI Ie
 unfold js.S at hl
 rw[← w2]at hl
 split at hl
 ·exact hl.elim
 ·rename_i mp DT
  cases hc:ku mp&&Nat.ble mp.length d.sh.bs.length&&Nat.beq args.length d.ks.length with
  | false=>rw[hc]at hl; exact hl.elim
  | true =>
   rw[hc,cond_true]at hl
   simp only[Bool.and_eq_true]at hc
   obtain⟨⟨hn,hle⟩,hlen⟩:=hc
   unfold js.inner at hl
   split at hl
   ·exact hl.elim
   ·rename_i l rD
    split at hl
    ·exact hl.elim
    ·rename_i y9 hst1
     obtain⟨x,h1,hl⟩:=T.ze.1 hl
     obtain⟨y,h2,hl⟩:=T.ze.1 hl
     obtain⟨p1,PJ⟩:=nN (m:=κ0.ph) w3.len.symm rD
     obtain⟨s1,s2,s3,s4,s5⟩:=YE w3 hn PJ rD hst1
     have W6:Rel ⟨κ0.w,κ0.ok,p1,y9⟩ zM.length (nw (pos mp) (gh d.jK (w9 args 0) κ.st).1).get { tmps:=zM.toArray,defers:=[] } :=
      ⟨w5.size,w5.defers,fun s d' hd=>by
       obtain⟨d0,q1,q2⟩:=mS hd
       obtain⟨v,q3,q4⟩:=w5.get s d0 q1
       exact⟨v,q3,s2.rd q4 q2⟩⟩
     obtain⟨κ2,u1,u2,u3,u4,u5,_⟩:=d.sh.oE (κ0:=⟨κ0.w,κ0.ok,p1,y9⟩) (κ:=⟨κ0.w,κ0.ok,p1,y9⟩) (Ext.refl _) s1 W6 (by show y9.length≤_; rw[s3]; exact Nat.le_of_ble_eq_true hle) h1
     have hw:κ2.w=κ.w:=u1.trans w1
     have hdo:=h κ2 x zM y u2 h2 u3 (by rw[← ha.1]; exact Nat.eq_of_beq_eq_true hlen) u5
     rw[hw]at hdo
     refine SK hdo ?_
     rintro e w' ⟨κ3,ds,rfl,g1,g2,g3,g4,v,rfl,g5⟩
     unfold js.back at hl
     rw[g4,← g1]at hl
     split at hl
     ·rename_i ds0 uF e1 e2
      cases e1
      split at hl
      ·rename_i Xc hds'
       cases hl
       obtain⟨κ',k1,k2,k3,k4,k5⟩:=Ug w3 hn PJ rD hst1 g2 (u4.trans g3) e2
       exact⟨κ',k1,k2,k3,w4.trans k4,v,rfl,HC k5 g5 hds'⟩
      ·exact hl.elim
     ·exact hl.elim
theorem js.snd{P:Program}{g:Nat}{d:js}(h:xB P g d):Uu P g d.S:=js.Rs (Dr:=um P) um.mono h
structure cJ where
 ks:List AK
 sh:yx
 jK:List Gh
 out:yx
 nr:Nat
 pt:Nat
 jq:yx
 F:sh.den→T (out.den⊕jq.den)
abbrev cJ.s(d:cJ):js:=⟨d.ks,d.sh,d.jK,d.out,d.nr,fun _=>.fail⟩
def cJ.EE{α:Type}(d:cJ)(mp:List Nat)(st:St)(z:d.jq.den)(kp:D→St→T α):T α:=match(d.jq.fr z).get 0,fS (fun j=>some (fwd mp st.length j)) (d.jq.st z)with
 | some (.zi τ x),some uF=>kp (.iface d.pt (.zi τ x)) (xZ mp st uF)
 | _,_=>.fail
def cJ.iG{α:Type}(d:cJ)(mp:List Nat)(fr:Fr)(st:St)(k:List D→St→T α)(kp:D→St→T α):T α:=match cE st mp with
 | none=>.fail
 | some l=>match fS (pos mp) l with
  | none=>.fail
  | some y9=>(d.sh.un (nw (pos mp) fr) y9).bind fun x=>(d.F x).bind (Sum.elim (fun y=>d.s.ZP mp st y k) (fun z=>d.EE mp st z kp))
def cJ.K{α:Type}(d:cJ)(args:List D)(st:St)(k:List D→St→T α)(kp:D→St→T α):T α :=
 match mapOf d.sh (gh d.jK (w9 args 0) st).1 (gh d.jK (w9 args 0) st).2 with
 | none=>.fail
 | some mp=>bif ku mp&&Nat.ble mp.length d.sh.bs.length&&Nat.beq args.length d.ks.length then d.iG mp (gh d.jK (w9 args 0) st).1 (gh d.jK (w9 args 0) st).2 k kp else .fail
def cJ.S(d:cJ)(args:List D)(st:St):T (V6×St):=d.K args st (fun ds zu=>.ret (.ret ds,zu)) (fun p zu=>.ret (.jq p,zu))
theorem cJ.Ev{α:Type}{d:cJ}{args:List D}{st:St}{k:List D→St→T α}{kp:D→St→T α}{r:α}(h:(d.K args st k kp).leads r) :
  (∃ ds zu,(d.S args st).leads (.ret ds,zu)∧(k ds zu).leads r)∨∃ p zu,(d.S args st).leads (.jq p,zu)∧(kp p zu).leads r:=by
 unfold cJ.K at h
 unfold cJ.S cJ.K
 split at h
 ·exact h.elim
 ·rename_i mp DT
  cases hc:ku mp&&Nat.ble mp.length d.sh.bs.length&&Nat.beq args.length d.ks.length with
  | false=>rw[hc]at h; exact h.elim
  | true =>
   rw[hc,cond_true]at h
   simp only[DT,hc,cond_true]
   unfold cJ.iG at h
   unfold cJ.iG
   split at h
   ·exact h.elim
   ·rename_i l hl
    split at h
    ·exact h.elim
    ·rename_i y9 hst1
     obtain⟨x,h1,h⟩:=T.ze.1 h
     obtain⟨y,h2,h⟩:=T.ze.1 h
     cases y with
     | inl y =>
      simp only[Sum.elim_inl]at h
      unfold js.ZP at h
      split at h
      ·rename_i ds uF e1 e2
       split at h
       ·rename_i Xc e3
        refine .inl ⟨Xc,_,T.ze.2 ⟨x,h1,T.ze.2 ⟨.inl y,h2,?_⟩⟩,h⟩
        simp only[Sum.elim_inl]
        unfold js.ZP
        simp only[e1,e2,e3]
        rfl
       ·exact h.elim
      ·exact h.elim
     | inr z =>
      simp only[Sum.elim_inr]at h
      unfold cJ.EE at h
      split at h
      ·rename_i τ p uF e1 e2
       refine .inr ⟨_,_,T.ze.2 ⟨x,h1,T.ze.2 ⟨.inr z,h2,?_⟩⟩,h⟩
       simp only[Sum.elim_inr]
       unfold cJ.EE
       simp only[e1,e2]
       rfl
      ·exact h.elim
def jm(P:Program)(g:Nat)(d:cJ):Prop:=∀ (κ:KS) (x:d.sh.den) (zM:List Value) (r:d.out.den⊕d.jq.den),κ.st=d.sh.st x→(d.F x).leads r→Inv κ→zM.length=d.ks.length →
 Rel κ zM.length (d.sh.fr x).get { tmps:=zM.toArray,defers:=[] } →
 um P g zM.toArray κ.w fun e w'=>∃ κ':KS,κ'.w=w'∧Inv κ'∧Ext κ κ' ∧
  ((∃ (y:d.out.den) (ds:List D),r=.inl y∧κ'.st=d.out.st y∧yK d.nr (d.out.fr y)=some ds∧vd κ' (.ret ds) e) ∨
   ∃ (z:d.jq.den) (p:D),r=.inr z∧κ'.st=d.jq.st z∧(d.jq.fr z).get 0=some p∧vd κ' (.jq (.iface d.pt p)) e)
theorem cJ.snd{P:Program}{g:Nat}{d:cJ}(h:jm P g d):Uu P g d.S:=by
 intro κ args zM rs zu hl hI ha
 have Ie:Rel κ zM.length (w9 args 0).get { tmps:=zM.toArray,defers:=[] }:=by
  have:=ox (n:=zM.length) ha (by rw[ha.1]; exact Nat.le_refl _)
  simpa[show(Xl.df:List Deferred)=[]from rfl]using this
 obtain⟨κ0,w1,w2,w3,w4,w5⟩:=dx d.jK (w9 args 0) κ hI Ie
 unfold cJ.S cJ.K at hl
 rw[← w2]at hl
 split at hl
 ·exact hl.elim
 ·rename_i mp DT
  cases hc:ku mp&&Nat.ble mp.length d.sh.bs.length&&Nat.beq args.length d.ks.length with
  | false=>rw[hc]at hl; exact hl.elim
  | true =>
   rw[hc,cond_true]at hl
   simp only[Bool.and_eq_true]at hc
   obtain⟨⟨hn,hle⟩,hlen⟩:=hc
   unfold cJ.iG at hl
   split at hl
   ·exact hl.elim
   ·rename_i l rD
    split at hl
    ·exact hl.elim
    ·rename_i y9 hst1
     obtain⟨x,h1,hl⟩:=T.ze.1 hl
     obtain⟨y,h2,hl⟩:=T.ze.1 hl
     obtain⟨p1,PJ⟩:=nN (m:=κ0.ph) w3.len.symm rD
     obtain⟨s1,s2,s3,s4,s5⟩:=YE w3 hn PJ rD hst1
     have W6:Rel ⟨κ0.w,κ0.ok,p1,y9⟩ zM.length (nw (pos mp) (gh d.jK (w9 args 0) κ.st).1).get { tmps:=zM.toArray,defers:=[] } :=
      ⟨w5.size,w5.defers,fun s d' hd=>by
       obtain⟨d0,q1,q2⟩:=mS hd
       obtain⟨v,q3,q4⟩:=w5.get s d0 q1
       exact⟨v,q3,s2.rd q4 q2⟩⟩
     obtain⟨κ2,u1,u2,u3,u4,u5,_⟩:=d.sh.oE (κ0:=⟨κ0.w,κ0.ok,p1,y9⟩) (κ:=⟨κ0.w,κ0.ok,p1,y9⟩) (Ext.refl _) s1 W6 (by show y9.length≤_; rw[s3]; exact Nat.le_of_ble_eq_true hle) h1
     have hw:κ2.w=κ.w:=u1.trans w1
     have hdo:=h κ2 x zM y u2 h2 u3 (by rw[← ha.1]; exact Nat.eq_of_beq_eq_true hlen) u5
     rw[hw]at hdo
     refine hdo.mono ?_
     rintro e w' ⟨κ3,rfl,g2,g3,⟨y,ds,rfl,g1,g4,v,rfl,g5⟩ | ⟨z,p,rfl,g1,g4,v,rfl,g5⟩⟩
     ·simp only[Sum.elim_inl]at hl
      unfold js.ZP at hl
      rw[show yK d.s.nr (d.s.out.fr y)=some ds from g4,show d.s.out.st y=κ3.st from g1.symm]at hl
      split at hl
      ·rename_i ds0 uF e1 e2
       cases e1
       split at hl
       ·rename_i Xc hds'
        cases hl
        obtain⟨κ',k1,k2,k3,k4,k5⟩:=Ug w3 hn PJ rD hst1 g2 (u4.trans g3) e2
        exact⟨κ',k1,k2,k3,w4.trans k4,v,rfl,HC k5 g5 hds'⟩
       ·exact hl.elim
      ·exact hl.elim
     ·simp only[Sum.elim_inr]at hl
      unfold cJ.EE at hl
      rw[g4,← g1]at hl
      split at hl
      ·rename_i τ q uF e1 e2
       cases e1
       cases hl
       obtain⟨κ',k1,k2,k3,k4,k5⟩:=Ug w3 hn PJ rD hst1 g2 (u4.trans g3) e2
       refine⟨κ',k1,k2,k3,w4.trans k4,v,rfl,?_⟩
       cases g5 with
       | iface _ _ u hu=>exact .iface _ _ u (k5.rd hu rfl)
      ·exact hl.elim
end Go.AM
namespace Go.AM
def Vd(sh:yx)(jK:List Gh)(args:List D)(st:St):List Nat:=bif jK.isEmpty then match mapOf sh (w9 args 0) st with | some mp=>others st.length mp | none=>[]else[]
def js.free(d:js)(args:List D)(st:St):List Nat:=Vd d.sh d.jK args st
def cJ.free(d:cJ)(args:List D)(st:St):List Nat:=Vd d.sh d.jK args st
theorem KB{m b:Nat}{l:List Nat}(h:b∈others m l):b<m∧∀ x∈l,b≠x:=by
 simp only[others,List.mem_filter,List.mem_range,Bool.not_eq_true',List.any_eq_false]at h
 exact⟨h.1,fun x hx e=>by subst e; exact h.2 b hx (Nat.beq_refl _)⟩
theorem UU:∀ {mp:List Nat} {b:Nat},(∀ x∈mp,b≠x)→pos mp b=none
 | [],_,_=>rfl
 | x::r,b,h=>by
  simp only[pos]
  rw[show Nat.beq x b=false from by cases hb:Nat.beq x b with | false=>rfl | true=>exact absurd (Nat.eq_of_beq_eq_true hb).symm (h x List.mem_cons_self),cond_false,UU fun y hy=>h y (List.mem_cons_of_mem _ hy)]
theorem QB{sh:yx}{jK:List Gh}{args:List D}{st:St}{b:Nat}(hb:b∈Vd sh jK args st):jK=[]∧∃ mp,mapOf sh (w9 args 0) st=some mp∧b<st.length∧pos mp b=none:=by
 unfold Vd at hb
 cases hn:jK.isEmpty with
 | false=>rw[hn]at hb; cases hb
 | true =>
  rw[hn,cond_true]at hb
  refine⟨List.isEmpty_iff.1 hn,?_⟩
  split at hb
  ·rename_i mp DT
   obtain⟨h1,h2⟩:=KB hb
   exact⟨mp,DT,h1,UU h2⟩
  ·cases hb
theorem js.rk{d:js}{args:List D}{st zu:St}{rs:V6}{b:Nat}(h:(d.S args st).leads (rs,zu))(hb:b∈d.free args st):zu[b]? = st[b]? := by
 obtain⟨hn,mp,DT,qh,nW⟩:=QB hb
 unfold js.S at h
 rw[hn]at h
 simp only[gh,DT]at h
 cases hc:ku mp&&Nat.ble mp.length d.sh.bs.length&&Nat.beq args.length d.ks.length with
 | false=>rw[hc]at h; exact h.elim
 | true =>
  rw[hc,cond_true]at h
  unfold js.inner at h
  split at h
  ·exact h.elim
  ·split at h
   ·exact h.elim
   ·obtain⟨x,_,h⟩:=T.ze.1 h
    obtain⟨y,_,h⟩:=T.ze.1 h
    unfold js.back at h
    split at h
    ·split at h
     ·cases h; exact dy qh nW
     ·exact h.elim
    ·exact h.elim
theorem cJ.rk{d:cJ}{args:List D}{st zu:St}{rs:V6}{b:Nat}(h:(d.S args st).leads (rs,zu))(hb:b∈d.free args st):zu[b]? = st[b]? := by
 obtain⟨hn,mp,DT,qh,nW⟩:=QB hb
 unfold cJ.S cJ.K at h
 rw[hn]at h
 simp only[gh,DT]at h
 cases hc:ku mp&&Nat.ble mp.length d.sh.bs.length&&Nat.beq args.length d.ks.length with
 | false=>rw[hc]at h; exact h.elim
 | true =>
  rw[hc,cond_true]at h
  unfold cJ.iG at h
  split at h
  ·exact h.elim
  ·split at h
   ·exact h.elim
   ·obtain⟨x,_,h⟩:=T.ze.1 h
    obtain⟨y,_,h⟩:=T.ze.1 h
    cases y with
    | inl y =>
     simp only[Sum.elim_inl]at h
     unfold js.ZP at h
     split at h
     ·split at h
      ·cases h; exact dy qh nW
      ·exact h.elim
     ·exact h.elim
    | inr z =>
     simp only[Sum.elim_inr]at h
     unfold cJ.EE at h
     split at h
     ·cases h; exact dy qh nW
     ·exact h.elim
end Go.AM
namespace Go.AM
def om.den:om→Type
 | .ty τ=>AM.den τ
 | .rp τ=>AM.den τ
 | .xg _ caps=>kW caps
def uX:List om→Type
 | []=>Unit
 | [p]=>p.den
 | p::q::r=>p.den×uX (q::r)
def Lo:(p:om)→p.den→D
 | .ty τ,x=>.zi τ x
 | .rp τ,x=>.qK τ x
 | .xg f caps,x=>.xg f (eE caps x)
def sj:(l:List om)→uX l→List D
 | [],_=>[]
 | [p],x=>[Lo p x]
 | p::q::r,x=>Lo p x.1::sj (q::r) x.2
def pR:(l:List Ty)→Uj l→List D
 | [],_=>[]
 | [τ],x=>[.zi τ x]
 | τ::σ::r,x=>.zi τ x.1::pR (σ::r) x.2
def On(st:St)(τ:Ty):D→T (den τ)
 | .qK _ x=>match(wS x:Option (den τ))with | some y=>.ret y | none=>.fail
 | .ptr b off=>match st[b]? with
  | some (.var d)=>match bif Nat.beq off 0 then gP τ d else none with | some y=>.ret y | none=>.fail
  | _=>.fail
 | _=>.fail
def LK(st:St):(p:rT)→D→T (den p.ty)
 | .im τ,d=>pY st τ d
 | .rp τ,d=>On st τ d
def HY(st:St):(l:List rT)→List D→T (kW l)
 | [],[]=>.ret ()
 | [p],[d]=>LK st p d
 | p::q::r,d::ds=>(LK st p d).bind fun x=>(HY st (q::r) ds).bind fun y=>.ret (x,y)
 | _,_=>.fail
def OH(st:St):(p:om)→D→T p.den
 | .ty τ,d=>pY st τ d
 | .rp τ,d=>On st τ d
 | .xg f caps,d=>match d with
  | .xg f' l=>bif Nat.beq f f' then HY st caps l else .fail
  | _=>.fail
def KX(st:St):(l:List om)→List D→T (uX l)
 | [],[]=>.ret ()
 | [p],[d]=>OH st p d
 | p::q::r,d::ds=>(OH st p d).bind fun x=>(KX st (q::r) ds).bind fun y=>.ret (x,y)
 | _,_=>.fail
def Ib(st:St):(l:List Ty)→List D→T (Uj l)
 | [],[]=>.ret ()
 | [τ],[d]=>pY st τ d
 | τ::σ::r,d::ds=>(pY st τ d).bind fun x=>(Ib st (σ::r) ds).bind fun y=>.ret (x,y)
 | _,_=>.fail
structure Ux where
 ps:List om
 rs:List Ty
 F:uX ps→T (Uj rs)
def PG:om→D→Bool
 | .xg f _,d=>match d with | .xg f' _=>Nat.beq f f' | _=>false
 | _,d=>match d with | .xg _ _=>false | _=>true
def fits:List om→List D→Bool
 | [],[]=>true
 | p::ps,d::ds=>PG p d&&fits ps ds
 | _,_=>false
def PD:AK→D→Bool
 | .any,d=>match d with | .xg _ _=>false | _=>true
 | .cur,d=>match d with | .ms .. => true | .xb=>true | _=>false
 | .sub,d=>match d with | .ms .. => true | _=>false
 | .ptr,d=>match d with | .ptr .. => true | _=>false
 | .xg f,d=>match d with | .xg f' _=>Nat.beq f f' | _=>false
def fT:List AK→List D→Bool
 | [],[]=>true
 | p::ps,d::ds=>PD p d&&fT ps ds
 | _,_=>false
inductive Ll where
 | d (x:Ux)
 | s (x:js)
 | p (x:cJ)
def Ll.fits:Ll→List D→Bool
 | .d x,l=>AM.fits x.ps l
 | .s x,l=>fT x.ks l
 | .p x,l=>fT x.ks l
abbrev b8:=List (Nat×Ll)
def b8.find:b8→Nat→List D→Option Ll
 | [],_,_=>none
 | (g',d)::r,g,args=>bif Nat.beq g' g&&d.fits args then some d else b8.find r g args
abbrev Sm:=List D→St→T (V6×St)
def Ux.S(d:Ux):Sm:=fun args st=>match st with
 | []=>(KX [] d.ps args).bind fun x=>(d.F x).bind fun y=>.ret (.ret (pR d.rs y),[])
 | _=>.fail
def b8.call(tab:b8)(g:Nat)(args:List D)(st:St):T (V6×St):=match tab.find g args with | some (.d d)=>d.S args st | some (.s d)=>d.S args st | some (.p d)=>d.S args st | none=>.fail
def b8.free(tab:b8)(g:Nat)(args:List D)(st:St):List Nat:=match tab.find g args with | some (.s d)=>d.free args st | some (.p d)=>d.free args st | _=>[]
theorem b8.rk(tab:b8)(g:Nat)(args:List D)(st:St)(rs:V6)(zu:St)(b:Nat)(h:(tab.call g args st).leads (rs,zu))(hb:b∈tab.free g args st):zu[b]? = st[b]? := by
 unfold b8.call at h
 unfold b8.free at hb
 split at hb
 ·rename_i d hd; rw[hd]at h; exact js.rk h hb
 ·rename_i d hd; rw[hd]at h; exact cJ.rk h hb
 ·cases hb
def vy(P:Program)(xid:Nat)(tab:b8)(ro:Nat→Bool):Ctx :=
 { P,xid,ro,sig:=fun g args=>match tab.find g args with | some (.d d)=>some ⟨d.ps,d.rs⟩ | _=>none,fn:=tab.call,free:=tab.free,IH:=tab.rk }
def OK{α:Type}(tab:b8)(g:Nat)(args:List D)(st:St)(k:Nat→Option D→St→T α)(kp:D→St→T α):T α:=match tab.find g args with
 | none=>.fail
 | some (.d d)=>bif !(args.any ZH)then(KX [] d.ps args).bind fun x=>(d.F x).bind fun y=>k 0 (some (jU (pR d.rs y))) st
  else(KX st d.ps args).bind fun x=>(d.F x).bind fun y=>bif (pR d.rs y).all mn then k 1 (some (jU (pR d.rs y))) st else .fail
 | some (.s d)=>d.K args st fun ds zu=>k 2 (some (jU ds)) zu
 | some (.p d)=>d.K args st (fun ds zu=>k 2 (some (jU ds)) zu) kp
def Vw{α:Type}(tab:b8)(f:Option D)(args:List (Option D))(st:St)(k:Nat→Option D→St→T α)(kp:D→St→T α):T α:=match f,vR args with
 | some (.xg g caps),some l=>OK tab (kg g) (uK g l caps) st k kp
 | _,_=>.fail
def gZ(l:List Nat):Fr:=l.map fun s=>(s,none)
def dstsOf:List Oper→List Nat
 | []=>[]
 | o::r=>match o.dst with | some t=>t::dstsOf r | none=>dstsOf r
def zY:Code→List Nat
 | .region _ ops _=>dstsOf ops.toList
 | .seq a b=>zY a++zY b
 | .cond _ a b=>zY a++zY b
 | .block _ a=>zY a
 | .loop a=>zY a
 | _=>[]
structure zZ where
 gh:List Gh
 ps:List It
 sh:yx
 ws:List Way
 F:wv ps→sh.den→T (jA ws)
inductive Nx where
 | flat (iB:List It)
 | ways (ws:List Way)
 | Sz
structure Hints where
 loop:Nat→Option zZ
 cut:Nat→Nat→Option Nx
 Lb:Nat→List Nat
def bz:Code→Option Nat
 | .region id _ _=>some id
 | .seq a b=>match bz a with | some n=>some n | none=>bz b
 | .cond _ a b=>match bz a with | some n=>some n | none=>bz b
 | .block _ a=>bz a
 | .loop a=>bz a
 | _=>none
def keyOf(x:Code):Nat×Nat:=(match x with | .region .. => 0 | .cond .. => 1 | .block .. => 2 | _=>3,match bz x with | some n=>n | none=>0)
def L3(l:List Nat)(s:Nat):Bool := !(l.any (Nat.beq s))
def oP:Dk→Bool
 | .sub _ _=>false
 | .st _=>false
 | .mclo _ _=>false
 | _=>true
def Yu(ps:List It)(ws:List Nat):Bool:=ps.all fun i=>match i with
 | .s t k=>oP k&&L3 ws t
 | _=>false
def Uh{α:Type}:T α→Option α
 | .ret a=>some a
 | .ite _ t e=>match Uh t with | some a=>some a | none=>Uh e
 | .zj _ t=>Uh t
 | .fail=>none
def JW{α β:Type}(f:α→β):T α→T β
 | .ret a=>.ret (f a)
 | .ite b t e=>.ite b (JW f t) (JW f e)
 | .zj p t=>.zj p (JW f t)
 | .fail=>.fail
def Cz:(l:List It)→wv l→T (wv l)→wv l
 | [],_,_=>()
 | [_],d,t=>T.val d t
 | _::j::r,d,t=>(T.val d.1 (JW Prod.fst t),Cz (j::r) d.2 (JW Prod.snd t))
def EV(l:List It)(t:T (wv l)):T (wv l):=match Uh t with
 | some d=>match t.c7 with
  | none=>.ret (Cz l d t)
  | some p=>.zj p (.ret (Cz l d t))
 | none=>.fail
def WE(l:List It):Bool:=l.all fun i=>match i with
 | .s _ k=>oP k
 | _=>false
structure YC where
 ex:Ex
 fr:Fr
 kn:Kn
 st:St
 q:Bool      -- the store has not been written
def quiet(ks:List Nat):Bool:=ks.all fun k => !(Nat.beq k 2)
structure z2G where
 e:Ty
 l:List (den e)
 m:Nat
 s:Nat
 c:Nat
 eq:Bool
def L6:BinOp→Option Bool
 | .eql=>some true
 | .neq=>some false
 | _=>none
def G7:Operand→Bool
 | .const (.slice none 0 0)=>true
 | _=>false
def Vp(c:Ctx)(n:Nat)(ops:Array Oper)(fr:Fr):Option z2G:=match ops.toList with
 | [o1,o2]=>match o1.dst,o1.op,o1.guard with
  | some m,.move (.tmp s),none=>match o2.dst,o2.op,o2.guard with
   | some cc,.binOp op t (.tmp m') y _,none=>match L6 op,fr.get s,cu c t with
    | some b,some (.zi (.sl e) l),some _=>bif Nat.beq m m'&&G7 y&&Nat.blt m n&&Nat.blt cc n then some ⟨e,l,m,s,cc,b⟩else none
    | _,_,_=>none
   | _,_,_=>none
  | _,_,_=>none
 | _=>none
def opsOf:Code→Option (Array Oper)
 | .region _ ops false=>some ops
 | _=>none
section
variable (c:Ctx) (tab:b8)
variable [Xt]
def mI{α:Type}(n:Nat)(o:Oper)(s:b4)(k:b4→T α)(kp:D→St→T α):T α :=
 bif vn n o.dst then match o.op with
  | .call cl=>match cl.callee with
   | .value f=>Vw tab (vZ s.fr f) (cl.args.toList.map (vZ s.fr)) s.st (fun kd d zu=>k ⟨s.fr.put o.dst d,QD s.kn o.dst none,zu,kd::s.ks,w7 c (vZ s.fr) s.st o::s.bk⟩) kp
   | _=>let cl:=fW c s.kn s.fr o
    (zG cl s.st).bind fun r=>k ⟨s.fr.put o.dst r.1,QD s.kn o.dst (Zi s.kn o.op),r.2,cl.kind::s.ks,w7 c (vZ s.fr) s.st o::s.bk⟩
  | .panic x=>match vZ s.fr x with
   | some (.iface t d)=>kp (.iface t d) s.st
   | _=>.fail
  | _=>let cl:=fW c s.kn s.fr o
   (zG cl s.st).bind fun r=>k ⟨s.fr.put o.dst r.1,QD s.kn o.dst (Zi s.kn o.op),r.2,cl.kind::s.ks,w7 c (vZ s.fr) s.st o::s.bk⟩
 else .fail
def GU{α:Type}(n:Nat)(ops:Array Oper)(o:Oper)(s:b4)(k:b4→T α)(kp:D→St→T α):T α:=match o.guard with
 | none=>mI c tab n o s k kp
 | some (j,want)=>match vW ops j with
  | none=>.fail
  | some t=>match s.kn.get t with
   | some b=>bif b==want then mI c tab n o s k kp else bif vn n o.dst then k (uL o s)else .fail
   | none=>match s.fr.get t with
    | some (.zi .bool x)=>bif vn n o.dst then
      .ite x (bif want then mI c tab n o (s.yA t true) k kp else k (uL o (s.yA t true)))
          (bif want then k (uL o (s.yA t false))else mI c tab n o (s.yA t false) k kp)
     else .fail
    | some (.jY [])=>bif vn n o.dst then k (uL o s)else .fail
    | _=>.fail
def tT{α:Type}(n:Nat)(ops:Array Oper):List Oper→b4→(b4→T α)→(D→St→T α)→T α
 | [],s,k,_=>k s
 | o::l,s,k,kp=>GU c tab n ops o s (fun s'=>tT n ops l s' k kp) kp
def ZV{α:Type}(n:Nat)(ops:Array Oper)(draw:Bool)(fr:Fr)(kn:Kn)(st:St)(k:b4→T α)(kp:D→St→T α):T α :=
 tT c tab n ops ops.toList ⟨fr,kn,st,[],[]⟩ (fun s=>bif !draw||oc ops s.ks.reverse s.bk.reverse then k s else .fail) (fun d zu=>bif draw then .fail else kp d zu)
def oo(n:Nat)(H:Hints):Code→Fr→Kn→St→{α:Type}→(YC→T α)→T α
 | .skip,fr,kn,st,_,k=>k ⟨.normal,fr,kn,st,true⟩
 | .region id ops draw,fr,kn,st,_,k=>(Lb (H.Lb id) fr st).bind fun z=>ZV c tab n ops draw z.1 kn z.2 (fun s=>k ⟨.normal,s.fr,s.kn,s.st,quiet s.ks&&(H.Lb id).isEmpty⟩) (fun d zu=>k ⟨.jq d,[],[],zu,false⟩)
 | .seq a b,fr,kn,st,_,k=>match H.cut (keyOf a).1 (keyOf a).2 with
  | none=>oo n H a fr kn st fun r=>match r.ex with
   | .normal=>oo n H b r.fr r.kn r.st fun o=>k { o with q:=r.q&&o.q }
   | _=>k r
  | some (.flat iB)=>bif WE iB then
    (EV iB (oo n H a fr kn st fun o=>match o.ex with
     | .normal=>bif o.q then WR o.fr o.st iB []else .fail
     | _=>.fail)).bind fun x=>oo n H b (bw st iB x++(gZ (zY a)++fr)) [] st k
   else .fail
  | some .Sz=>match opsOf a with
   | none=>.fail
   | some ops=>match Vp c n ops fr with
    | none=>.fail
    | some p =>
     let non:=oo n H b ((p.c,some (.zi .bool (!p.eq)))::(p.m,some (.zi (.sl p.e) p.l))::fr) [(p.c,some (!p.eq))] st k
     .zj (p.l=[]→∀ r,non.leads r→(oo n H b ((p.c,some (.zi .bool p.eq))::(p.m,some .xb)::(p.s,some .xb)::fr) [(p.c,some p.eq)] st k).leads r) non
  | some (.ways ws)=>bif ws.all fun w=>Nat.ble st.length w.sh.bs.length then
    (oo n H a fr kn st fun o=>Ve ws o.ex (Xu o.ex o.fr) o.st).bind fun r=>Hs ws r fun ex out zu=>match KM ex out with
     | none=>.fail
     | some z=>match z.1 with
      | .normal=>oo n H b (z.2++(gZ (zY a)++fr)) [] zu fun o=>k { o with q:=false }
      | e=>k ⟨e,z.2++(gZ (zY a)++fr),[],zu,false⟩
   else .fail
 | .cond x a b,fr,kn,st,_,k=>match gW kn x with
  | some true=>oo n H a fr kn st k
  | some false=>oo n H b fr kn st k
  | none=>match x with
   | .tmp t=>match fr.get t with
    | some (.zi .bool v)=>.ite v (oo n H a fr ((t,some true)::kn) st k) (oo n H b fr ((t,some false)::kn) st k)
    | _=>.fail
   | _=>.fail
 | .block id (.loop b),fr,_,st,_,k=>match H.loop id with
  | none=>.fail
  | some l=>let g:=gh l.gh fr st
   bif Nat.ble g.2.length l.sh.bs.length&&Yu l.ps (zY b)&&l.ws.all fun w=>Nat.ble l.sh.bs.length w.sh.bs.length then
    (WR g.1 g.2 l.ps []).bind fun p=>(l.sh.un g.1 g.2).bind fun s=>(l.F p s).bind fun r=>Hs l.ws r fun ex out zu=>match KM ex out with
     | none=>.fail
     | some z=>match z.1 with
      | .exit id'=>bif Nat.beq id' id then k ⟨.normal,z.2++(gZ (zY b)++g.1),[],zu,false⟩else k ⟨.exit id',z.2++(gZ (zY b)++g.1),[],zu,false⟩
      | .normal=>.fail
      | e=>k ⟨e,z.2++(gZ (zY b)++g.1),[],zu,false⟩
   else .fail
 | .block id a,fr,kn,st,_,k=>oo n H a fr kn st fun r=>match r.ex with
  | .exit id'=>bif Nat.beq id' id then k { r with ex:=.normal } else k r
  | _=>k r
 | .exit id,fr,kn,st,_,k=>k ⟨.exit id,fr,kn,st,true⟩
 | .ret,fr,kn,st,_,k=>k ⟨.ret,fr,kn,st,true⟩
 | _,_,_,_,_,_=>.fail
def EF(n:Nat)(H:Hints)(l:zZ)(b:Code)(p:wv l.ps)(s:l.sh.den):T (l.sh.den⊕jA l.ws) :=
 oo c tab n H b (l.sh.fr s++bw (l.sh.st s) l.ps p) [] (l.sh.st s) fun o=>match o.ex with
  | .normal=>(l.sh.un o.fr o.st).bind fun s'=>.ret (.inl s')
  | e=>(Ve l.ws e (Xu e o.fr) o.st).bind fun r=>.ret (.inr r)
def IZ(H:Hints)(fn:Func)(code:Code)(d:Ux)(x:uX d.ps):T (Uj d.rs) :=
 bif Nat.ble (sj d.ps x).length fn.ntmps then
  oo c tab fn.ntmps H code (w9 (sj d.ps x) 0) [] [] fun o=>match o.ex with
   | .normal=>(yD c o.fr o.st fn.results.toList).bind fun ds=>Ib o.st d.rs ds
   | .ret=>(yD c o.fr o.st fn.results.toList).bind fun ds=>Ib o.st d.rs ds
   | _=>.fail
 else .fail
def Gf(H:Hints)(fn:Func)(code:Code)(d:js)(x:d.sh.den):T d.out.den :=
 bif Nat.ble d.ks.length fn.ntmps&&Nat.ble d.sh.bs.length d.out.bs.length then
  oo c tab fn.ntmps H code (d.sh.fr x) [] (d.sh.st x) fun o=>match o.ex with
   | .normal=>(yD c o.fr o.st fn.results.toList).bind fun ds=>bif Nat.beq ds.length d.nr then(d.out.un (w9 ds 0) o.st).bind fun y=>bif (yK d.nr (d.out.fr y)).isSome then .ret y else .fail else .fail
   | .ret=>(yD c o.fr o.st fn.results.toList).bind fun ds=>bif Nat.beq ds.length d.nr then(d.out.un (w9 ds 0) o.st).bind fun y=>bif (yK d.nr (d.out.fr y)).isSome then .ret y else .fail else .fail
   | _=>.fail
 else .fail
def Yj(H:Hints)(fn:Func)(code:Code)(d:cJ)(x:d.sh.den):T (d.out.den⊕d.jq.den) :=
 bif Nat.ble d.ks.length fn.ntmps&&Nat.ble d.sh.bs.length d.out.bs.length&&Nat.ble d.sh.bs.length d.jq.bs.length then
  oo c tab fn.ntmps H code (d.sh.fr x) [] (d.sh.st x) fun o=>match o.ex with
   | .normal=>(yD c o.fr o.st fn.results.toList).bind fun ds=>bif Nat.beq ds.length d.nr then(d.out.un (w9 ds 0) o.st).bind fun y=>bif (yK d.nr (d.out.fr y)).isSome then .ret (.inl y)else .fail else .fail
   | .ret=>(yD c o.fr o.st fn.results.toList).bind fun ds=>bif Nat.beq ds.length d.nr then(d.out.un (w9 ds 0) o.st).bind fun y=>bif (yK d.nr (d.out.fr y)).isSome then .ret (.inl y)else .fail else .fail
   | .jq p=>match p with
    | .iface t v=>bif Nat.beq t d.pt then(d.jq.un [(0,some v)] o.st).bind fun z=>match(d.jq.fr z).get 0 with | some _=>.ret (.inr z) | none=>.fail else .fail
    | _=>.fail
   | _=>.fail
 else .fail
end
end Go.AM
namespace Go.AM
set_option linter.unusedSectionVars false
variable [vP]
open Go.RowKit
section
variable {n:Nat}
theorem IA{st:St}{τ:Ty}{d:D}{x:den τ}(h:(On st τ d).leads x):(fU st τ d).leads (.qK τ x):=by
 cases d with
 | qK σ y =>
  simp only[On]at h
  simp only[fU]
  cases hy:(wS y:Option (den τ))with
  | none=>rw[hy]at h; exact h.elim
  | some z=>rw[hy]at h; cases h; rfl
 | ptr b off =>
  simp only[On]at h
  simp only[fU]
  cases hb:st[b]? with
  | none=>rw[hb]at h; exact h.elim
  | some B =>
   rw[hb]at h
   cases B with
   | var d =>
    simp only at h ⊢
    cases hy:(bif Nat.beq off 0 then gP τ d else none)with
    | none=>rw[hy]at h; exact h.elim
    | some z=>rw[hy]at h; cases h; rfl
   | _=>exact h.elim
 | _=>exact h.elim
theorem H4{st:St}{p:rT}{d:D}{x:den p.ty}(h:(LK st p d).leads x):(lI st p d).leads (WD p x):=by
 cases p with
 | rp τ=>exact IA h
 | im τ=>exact T.ze.2 ⟨x,h,rfl⟩
theorem Jb{st:St}:∀ (l:List rT) (ds:List D) (x:kW l),(HY st l ds).leads x→(yX st l ds).leads (eE l x)
 | [],[],x,h=>rfl
 | [],_::_,x,h=>h.elim
 | [p],[],x,h=>h.elim
 | [p],[d],x,h=>T.ze.2 ⟨_,H4 h,T.ze.2 ⟨[],rfl,rfl⟩⟩
 | [p],_::_::_,x,h=>h.elim
 | p::q::r,[],x,h=>h.elim
 | p::q::r,d::ds,x,h=>by
  obtain⟨y,h1,h2⟩:=T.ze.1 h
  obtain⟨z,h3,h4⟩:=T.ze.1 h2
  cases h4
  exact T.ze.2 ⟨_,H4 h1,T.ze.2 ⟨_,Jb (q::r) ds z h3,rfl⟩⟩
theorem Ew{st:St}{p:om}{d:D}{x:p.den}(h:(OH st p d).leads x):(JM st p d).leads (Lo p x):=by
 cases p with
 | ty τ=>cases d<;>exact T.ze.2 ⟨x,h,rfl⟩
 | rp τ =>
  have h:(On st τ d).leads x:=h
  have:=IA h
  cases d<;>exact this
 | xg f caps =>
  cases d with
  | xg f' l =>
   simp only[OH]at h
   simp only[JM]
   cases hb:Nat.beq f f' with
   | false=>rw[hb]at h; exact h.elim
   | true=>rw[hb]at h; exact T.ze.2 ⟨_,Jb caps l x h,rfl⟩
  | _=>exact h.elim
theorem Z8{st:St}:∀ (l:List om) (ds:List D) (x:uX l),(KX st l ds).leads x→(fX st l ds).leads (sj l x)
 | [],[],x,h=>rfl
 | [],_::_,x,h=>h.elim
 | [p],[],x,h=>h.elim
 | [p],[d],x,h=>T.ze.2 ⟨_,Ew h,T.ze.2 ⟨[],rfl,rfl⟩⟩
 | [p],_::_::_,x,h=>h.elim
 | p::q::r,[],x,h=>h.elim
 | p::q::r,d::ds,x,h=>by
  obtain⟨y,h1,h2⟩:=T.ze.1 h
  obtain⟨z,h3,h4⟩:=T.ze.1 h2
  cases h4
  exact T.ze.2 ⟨_,Ew h1,T.ze.2 ⟨_,Z8 (q::r) ds z h3,rfl⟩⟩
theorem JH(st:St)(τ:Ty)(x:den τ):(pY st τ (.zi τ x)).leads x:=by
 refine T.ze.2 ⟨.zi τ x,rfl,?_⟩
 show(T.tc (gP τ (.zi τ x))).leads x
 rw[T.vC]
 exact lY x
theorem FH(st:St)(τ:Ty)(x:den τ):(On st τ (.qK τ x)).leads x:=by
 simp only[On]; rw[lY]; rfl
theorem Bx(st:St)(p:rT)(x:den p.ty):(LK st p (WD p x)).leads x:=by
 cases p with
 | rp τ=>exact FH st τ x
 | im τ=>exact JH st τ x
theorem Jh(st:St):∀ (l:List rT) (x:kW l),(HY st l (eE l x)).leads x
 | [],_=>rfl
 | [p],x=>Bx st p x
 | p::q::r,x=>T.ze.2 ⟨x.1,Bx st p x.1,T.ze.2 ⟨x.2,Jh st (q::r) x.2,rfl⟩⟩
theorem EN(st:St)(p:om)(x:p.den):(OH st p (Lo p x)).leads x:=by
 cases p with
 | ty τ=>exact JH st τ x
 | rp τ=>exact FH st τ x
 | xg f caps=>simp only[OH,Lo]; rw[Nat.beq_refl]; exact Jh st caps x
theorem VY(st:St):∀ (l:List om) (x:uX l),(KX st l (sj l x)).leads x
 | [],_=>rfl
 | [p],x=>EN st p x
 | p::q::r,x=>T.ze.2 ⟨x.1,EN st p x.1,T.ze.2 ⟨x.2,VY st (q::r) x.2,rfl⟩⟩
def jy:D→Option Nat | .xg f _=>some f | _=>none
theorem Ly(p:om){d e:D}(h:jy d=jy e):PG p d=PG p e:=by
 cases d<;>cases e<;>simp only[jy]at h<;>first | (cases h; done) | (cases p<;>first | rfl | (cases h; rfl))
theorem BY:∀ (ps:List om) {l m:List D},l.map jy=m.map jy→fits ps l=fits ps m
 | [],[],[],_=>rfl
 | [],_::_,_::_,_=>rfl
 | _,[],_::_,h=>by cases h
 | _,_::_,[],h=>by cases h
 | _::_,[],[],_=>rfl
 | p::ps,d::l,e::m,h=>by
  simp only[List.map_cons,List.cons.injEq]at h
  simp only[fits,Ly p h.1,BY ps h.2]
theorem IF{st:St}{τ:Ty}{f:Nat}{l:List D}{x:den τ}(h:(pY st τ (.xg f l)).leads x):False:=by
 obtain⟨y,h1,h2⟩:=T.ze.1 h
 cases h1
 have h2:(T.tc (gP τ (.xg f l))).leads x:=h2
 rw[T.vC]at h2
 cases τ<;>simp[gP,D.isAgg,Ty.isAgg,D.vN,zW,uJ,bM]at h2
theorem W5{st:St}{p:om}{d:D}{x:p.den}(h:(OH st p d).leads x):jy d=jy (Lo p x):=by
 cases p with
 | ty τ=>cases d<;>first | rfl | exact(IF h).elim
 | rp τ=>cases d<;>first | rfl | exact h.elim
 | xg f caps =>
  cases d with
  | xg f' l =>
   simp only[OH]at h
   cases hb:Nat.beq f f' with
   | false=>rw[hb]at h; exact h.elim
   | true=>rw[Nat.eq_of_beq_eq_true hb]; rfl
  | _=>exact h.elim
theorem Zp{st:St}:∀ (l:List om) (ds:List D) (x:uX l),(KX st l ds).leads x→ds.map jy=(sj l x).map jy
 | [],[],x,h=>rfl
 | [],_::_,x,h=>h.elim
 | [p],[],x,h=>h.elim
 | [p],[d],x,h=>by show[jy d]=[jy (Lo p x)]; rw[W5 h]
 | [p],_::_::_,x,h=>h.elim
 | p::q::r,[],x,h=>h.elim
 | p::q::r,d::ds,x,h=>by
  obtain⟨y,h1,h2⟩:=T.ze.1 h
  obtain⟨z,h3,h4⟩:=T.ze.1 h2
  cases h4
  show jy d::ds.map jy=jy (Lo p y)::(sj (q::r) z).map jy
  rw[W5 h1,Zp (q::r) ds z h3]
def T2(d:D):Bool:=match d with | .zi _ _=>true | .qK _ _=>true | .xg _ _=>true | _=>false
theorem Bj(p:om)(x:p.den):T2 (Lo p x)=true:=by cases p<;>rfl
theorem Ju:∀ (l:List om) (x:uX l),∀ d∈sj l x,T2 d=true
 | [],x,d,h=>by cases h
 | [p],x,d,h=>by have h:d∈[Lo p x]:=h; rw[List.mem_singleton]at h; subst h; exact Bj p x
 | p::q::r,x,d,h=>by
  rcases List.mem_cons.1 h with rfl | h
  ·exact Bj p x.1
  ·exact Ju (q::r) x.2 d h
theorem Fk{a:AK}{d e:D}(h:jy d=jy e)(hd:T2 e=true)(hf:PD a e=true):PD a d=true:=by
 cases e with
 | zi τ x=>cases a<;>first | (cases hf; done) | (cases d<;>first | rfl | (cases h; done))
 | qK τ x=>cases a<;>first | (cases hf; done) | (cases d<;>first | rfl | (cases h; done))
 | xg f l=>cases a<;>first | (cases hf; done) | (cases d<;>first | (cases h; exact hf) | cases h)
 | _=>cases hd
theorem rV:∀ {ks:List AK} {l m:List D},l.map jy=m.map jy→(∀ d∈m,T2 d=true)→fT ks m=true→fT ks l=true
 | [],[],[],_,_,_=>rfl
 | [],_::_,[],h,_,_=>by cases h
 | [],_,_::_,_,_,hf=>by cases hf
 | _::_,_,[],_,_,hf=>by cases hf
 | k::ks,[],_::_,h,_,_=>by cases h
 | k::ks,d::l,e::m,h,hd,hf=>by
  simp only[List.map_cons,List.cons.injEq]at h
  simp only[fT,Bool.and_eq_true]at hf ⊢
  exact⟨Fk h.1 (hd e List.mem_cons_self) hf.1,rV h.2 (fun x hx=>hd x (List.mem_cons_of_mem _ hx)) hf.2⟩
theorem b8.find_eq:∀ (t:b8) (g:Nat) {l m:List D} {d:Ux},l.map jy=m.map jy→(∀ d∈m,T2 d=true)→t.find g l=some (.d d)→t.find g m=some (.d d)
 | [],_,_,_,_,_,_,h=>h
 | (g',.d d')::r,g,l,m,d,h,hm,hf=>by
  simp only[b8.find,Ll.fits]at hf ⊢
  rw[← BY d'.ps h]
  cases hb:Nat.beq g' g&&fits d'.ps l with
  | true=>rw[hb,cond_true]at hf; rw[cond_true]; exact hf
  | false=>rw[hb,cond_false]at hf; rw[cond_false]; exact b8.find_eq r g h hm hf
 | (g',.s d')::r,g,l,m,d,h,hm,hf=>by
  simp only[b8.find,Ll.fits]at hf ⊢
  cases hb:Nat.beq g' g&&fT d'.ks l with
  | true=>rw[hb,cond_true]at hf; cases hf
  | false =>
   rw[hb,cond_false]at hf
   have:(Nat.beq g' g&&fT d'.ks m)=false:=by
    cases hg:Nat.beq g' g with
    | false=>rfl
    | true =>
     rw[hg]at hb
     cases hk:fT d'.ks m with
     | false=>rfl
     | true=>rw[rV h hm hk]at hb; cases hb
   rw[this,cond_false]
   exact b8.find_eq r g h hm hf
 | (g',.p d')::r,g,l,m,d,h,hm,hf=>by
  simp only[b8.find,Ll.fits]at hf ⊢
  cases hb:Nat.beq g' g&&fT d'.ks l with
  | true=>rw[hb,cond_true]at hf; cases hf
  | false =>
   rw[hb,cond_false]at hf
   have:(Nat.beq g' g&&fT d'.ks m)=false:=by
    cases hg:Nat.beq g' g with
    | false=>rfl
    | true =>
     rw[hg]at hb
     cases hk:fT d'.ks m with
     | false=>rfl
     | true=>rw[rV h hm hk]at hb; cases hb
   rw[this,cond_false]
   exact b8.find_eq r g h hm hf
theorem b8.oO:∀ {t:b8} {g:Nat} {l:List D} {d:Ll},t.find g l=some d→(g,d)∈t
 | [],_,_,_,h=>by cases h
 | (g',d')::r,g,l,d,h=>by
  simp only[b8.find]at h
  cases hb:Nat.beq g' g&&d'.fits l with
  | true =>
   rw[hb,cond_true]at h
   cases h
   simp only[Bool.and_eq_true]at hb
   rw[Nat.eq_of_beq_eq_true hb.1]
   exact List.mem_cons_self
  | false=>rw[hb,cond_false]at h; exact List.mem_cons_of_mem _ (b8.oO h)
def zT(P:Program)(g:Nat)(d:Ux):Prop:=∀ (κ:KS) (x:uX d.ps) (zM:List Value) (y:Uj d.rs),κ.st=[]→(d.F x).leads y→Inv κ→qG κ (sj d.ps x) zM →
 um P g zM.toArray κ.w fun e w'=>∃ κ':KS,κ'.w=w'∧κ'.st=[]∧Inv κ'∧Ext κ κ'∧vd κ' (.ret (pR d.rs y)) e
def UR(P:Program)(g:Nat):Ll→Prop
 | .d d=>zT P g d
 | .s d=>xB P g d
 | .p d=>jm P g d
def jI(P:Program)(t:b8):Prop:=∀ p∈t,UR P p.1 p.2
theorem Cj(P:Program):jI P []:=fun p hp=>by cases hp
theorem VZ{P:Program}{g:Nat}{d:Ll}{t:b8}(h:UR P g d)(ht:jI P t):jI P ((g,d)::t):=by
 intro p hp
 rcases List.mem_cons.1 hp with rfl | hp
 ·exact h
 ·exact ht p hp
theorem G4{P:Program}{g:Nat}{d:Ux}{t:b8}(h:zT P g d)(ht:jI P t):jI P ((g,.d d)::t):=VZ (d:=.d d) h ht
theorem Jj{P:Program}{g:Nat}{d:js}{t:b8}(h:xB P g d)(ht:jI P t):jI P ((g,.s d)::t):=VZ (d:=.s d) h ht
theorem JD{P:Program}{g:Nat}{d:cJ}{t:b8}(h:jm P g d)(ht:jI P t):jI P ((g,.p d)::t):=VZ (d:=.p d) h ht
theorem Ux.snd{P:Program}{g:Nat}{d:Ux}(h:zT P g d):Uu P g d.S:=by
 intro κ args zM rs zu hl hI ha
 unfold Ux.S at hl
 split at hl
 ·rename_i xh
  obtain⟨x,h1,h2⟩:=T.ze.1 hl
  obtain⟨y,h3,h4⟩:=T.ze.1 h2
  cases h4
  exact h κ x zM y xh h3 hI (rZ ha (Z8 _ _ _ h1))
 ·exact hl.elim
theorem VT{P:Program}{xid:Nat}{tab:b8}{ro:Nat→Bool}(h:jI P tab):∀ g,Uu (vy P xid tab ro).P g ((vy P xid tab ro).fn g):=by
 intro g κ args zM rs zu hl hI ha
 simp only[vy,b8.call]at hl
 split at hl
 ·rename_i d hd
  exact Ux.snd (h _ (b8.oO hd):UR P g (.d d)) κ args zM rs zu hl hI ha
 ·rename_i d hd
  exact js.snd (h _ (b8.oO hd):UR P g (.s d)) κ args zM rs zu hl hI ha
 ·rename_i d hd
  exact cJ.snd (h _ (b8.oO hd):UR P g (.p d)) κ args zM rs zu hl hI ha
 ·exact hl.elim
section
variable {P:Program} {xid:Nat} {tab:b8} {ro:Nat→Bool} {α:Type}
def Bu(c:Ctx)(f:Option D)(args:List (Option D))(st:St)(d:D)(zu:St):Prop :=
 ∃ g caps l,f=some (.xg g caps)∧vR args=some l∧(c.fn (kg g) (uK g l caps) st).leads (.jq d,zu)
def BJ(c:Ctx)(o:Oper)(s:b4)(d:D)(zu:St):Prop :=
 (∃ x t e,o.op=.panic x∧vZ s.fr x=some d∧d=.iface t e∧zu=s.st) ∨
 ∃ f args dG,o.op=.call ⟨.value f,args,dG⟩∧Bu c (vZ s.fr f) (args.toList.map (vZ s.fr)) s.st d zu
theorem GK{f:Option D}{args:List (Option D)}{st:St}{k:Nat→Option D→St→T α}{kp:D→St→T α}{r:α}(h:(Vw tab f args st k kp).leads r) :
  (∃ d zu,(zG (gM (vy P xid tab ro) f args) st).leads (d,zu)∧(k (gM (vy P xid tab ro) f args).kind d zu).leads r) ∨
  ∃ d zu,Bu (vy P xid tab ro) f args st d zu∧(kp d zu).leads r:=by
 unfold Vw at h
 split at h
 ·rename_i g caps l hl
  unfold OK at h
  split at h
  ·exact h.elim
  ·rename_i d hd
   have Dn:(vy P xid tab ro).sig (kg g) (uK g l caps)=some ⟨d.ps,d.rs⟩:=by simp only[vy]; rw[hd]
   have IP:gM (vy P xid tab ro) (some (.xg g caps)) args=kX (vy P xid tab ro) (kg g) ⟨d.ps,d.rs⟩ (uK g l caps):=by simp only[gM,hl,Dn]
   rw[IP]
   have hfn:∀ {st0:St} (x:uX d.ps) (y:Uj d.rs),(KX st0 d.ps (uK g l caps)).leads x→(d.F x).leads y→((vy P xid tab ro).fn (kg g) (sj d.ps x) []).leads (.ret (pR d.rs y),[]):=by
    intro st0 x y hx hy
    simp only[vy,b8.call]
    rw[b8.find_eq tab (kg g) (Zp _ _ _ hx) (Ju d.ps x) hd]
    exact T.ze.2 ⟨x,VY [] d.ps x,T.ze.2 ⟨y,hy,rfl⟩⟩
   cases hn : !((uK g l caps).any ZH)with
   | true =>
    rw[hn,cond_true]at h
    obtain⟨x,h1,h2⟩:=T.ze.1 h
    obtain⟨y,h3,h4⟩:=T.ze.1 h2
    have hc:kX (vy P xid tab ro) (kg g) ⟨d.ps,d.rs⟩ (uK g l caps)=.val ((fX [] d.ps (uK g l caps)).bind fun l=>((vy P xid tab ro).fn (kg g) l []).bind L9):=by
     unfold kX; rw[hn]; rfl
    rw[hc]
    refine .inl ⟨_,_,T.ze.2 ⟨_,T.ze.2 ⟨_,Z8 _ _ _ h1,T.ze.2 ⟨_,hfn x y h1 h3,rfl⟩⟩,rfl⟩,h4⟩
   | false =>
    rw[hn,cond_false]at h
    obtain⟨x,h1,h2⟩:=T.ze.1 h
    obtain⟨y,h3,h4⟩:=T.ze.1 h2
    have hc:kX (vy P xid tab ro) (kg g) ⟨d.ps,d.rs⟩ (uK g l caps)=.rd fun st=>(fX st d.ps (uK g l caps)).bind fun l=>((vy P xid tab ro).fn (kg g) l []).bind mr:=by
     unfold kX; rw[hn]; rfl
    rw[hc]
    cases hs:(pR d.rs y).all mn with
    | false=>rw[hs]at h4; exact h4.elim
    | true =>
     rw[hs]at h4
     refine .inl ⟨_,_,T.ze.2 ⟨_,T.ze.2 ⟨_,Z8 _ _ _ h1,T.ze.2 ⟨_,hfn x y h1 h3,?_⟩⟩,rfl⟩,h4⟩
     simp only[mr,hs,cond_true]
     rfl
  ·rename_i d hd
   have Dn:(vy P xid tab ro).sig (kg g) (uK g l caps)=none:=by simp only[vy]; rw[hd]
   have IP:gM (vy P xid tab ro) (some (.xg g caps)) args=mw (vy P xid tab ro) (kg g) (uK g l caps):=by simp only[gM,hl,Dn]
   rw[IP]
   obtain⟨ds,zu,h1,h2⟩:=js.Ev h
   refine .inl ⟨_,zu,T.ze.2 ⟨(.ret ds,zu),?_,rfl⟩,h2⟩
   simp only[vy,b8.call]
   rw[hd]
   exact h1
  ·rename_i d hd
   have Dn:(vy P xid tab ro).sig (kg g) (uK g l caps)=none:=by simp only[vy]; rw[hd]
   have IP:gM (vy P xid tab ro) (some (.xg g caps)) args=mw (vy P xid tab ro) (kg g) (uK g l caps):=by simp only[gM,hl,Dn]
   rw[IP]
   rcases cJ.Ev h with⟨ds,zu,h1,h2⟩ | ⟨p,zu,h1,h2⟩
   ·refine .inl ⟨_,zu,T.ze.2 ⟨(.ret ds,zu),?_,rfl⟩,h2⟩
    simp only[vy,b8.call]
    rw[hd]
    exact h1
   ·refine .inr ⟨p,zu,⟨g,caps,l,rfl,hl,?_⟩,h2⟩
    simp only[vy,b8.call]
    rw[hd]
    exact h1
 ·exact h.elim
theorem eX{o:Oper}{s:b4}{k:b4→T α}{kp:D→St→T α}{r:α}(h:(mI (vy P xid tab ro) tab n o s k kp).leads r) :
  (∃ s',(y6 (vy P xid tab ro) n o s).leads s'∧(k s').leads r)∨∃ d zu,BJ (vy P xid tab ro) o s d zu∧(kp d zu).leads r:=by
 unfold mI at h
 unfold y6
 cases hd:vn n o.dst with
 | false=>rw[hd]at h; exact h.elim
 | true =>
  rw[hd,cond_true]at h
  rw[cond_true]
  obtain⟨dst,op,ty,pos,after,guard⟩:=o
  have gen:((zG (fW (vy P xid tab ro) s.kn s.fr ⟨dst,op,ty,pos,after,guard⟩) s.st).bind fun r=>k ⟨s.fr.put dst r.1,QD s.kn dst (Zi s.kn op),r.2,(fW (vy P xid tab ro) s.kn s.fr ⟨dst,op,ty,pos,after,guard⟩).kind::s.ks,w7 (vy P xid tab ro) (vZ s.fr) s.st ⟨dst,op,ty,pos,after,guard⟩::s.bk⟩).leads r →
    ∃ s',(let cl:=fW (vy P xid tab ro) s.kn s.fr ⟨dst,op,ty,pos,after,guard⟩; (zG cl s.st).bind fun r=>T.ret (⟨s.fr.put dst r.1,QD s.kn dst (Zi s.kn op),r.2,cl.kind::s.ks,w7 (vy P xid tab ro) (vZ s.fr) s.st ⟨dst,op,ty,pos,after,guard⟩::s.bk⟩:b4)).leads s'∧(k s').leads r:=by
   intro h
   obtain⟨x,h1,h2⟩:=T.ze.1 h
   exact⟨_,T.ze.2 ⟨x,h1,rfl⟩,h2⟩
  cases op with
  | call cl =>
   obtain⟨callee,args,dG⟩:=cl
   cases callee with
   | value f =>
    simp only at h
    rcases GK (P:=P) (xid:=xid) (ro:=ro) h with⟨d,zu,h1,h2⟩ | ⟨d,zu,h1,h2⟩
    ·exact .inl ⟨_,T.ze.2 ⟨(d,zu),h1,rfl⟩,h2⟩
    ·exact .inr ⟨d,zu,.inr ⟨f,args,dG,rfl,h1⟩,h2⟩
   | _=>exact .inl (gen h)
  | panic x =>
   simp only at h
   split at h
   ·rename_i t e hx
    exact .inr ⟨_,_,.inl ⟨x,t,e,rfl,hx,rfl,rfl⟩,h⟩
   ·exact h.elim
  | _=>exact .inl (gen h)
theorem C4{ops:Array Oper}{o:Oper}{s:b4}{k:b4→T α}{kp:D→St→T α}{r:α}(hkn:wW s.kn s.fr.get)(h:(GU (vy P xid tab ro) tab n ops o s k kp).leads r) :
  (∃ s',(stepG (vy P xid tab ro) n ops o s).leads s'∧(k s').leads r)∨∃ d zu,w6 ops s.fr.get o=some true∧BJ (vy P xid tab ro) o s d zu∧(kp d zu).leads r:=by
 obtain⟨dst,op,ty,pos,after,guard⟩:=o
 cases guard with
 | none =>
  rcases eX h with h | ⟨d,zu,h1,h2⟩
  ·exact .inl h
  ·exact .inr ⟨d,zu,rfl,h1,h2⟩
 | some jw =>
  obtain⟨j,want⟩:=jw
  simp only[GU]at h
  simp only[stepG]
  cases hg:vW ops j with
  | none=>rw[hg]at h; exact h.elim
  | some t =>
   rw[hg]at h
   simp only at h ⊢
   cases hk:s.kn.get t with
   | some b =>
    rw[hk]at h
    simp only at h ⊢
    have hw:w6 ops s.fr.get ⟨dst,op,ty,pos,after,some (j,want)⟩=some (b==want):=by simp[w6,hg,hkn t b hk]
    cases hb:b==want with
    | true =>
     rw[hb,cond_true]at h; rw[cond_true]
     rcases eX h with h | ⟨d,zu,h1,h2⟩
     ·exact .inl h
     ·exact .inr ⟨d,zu,by rw[hw,hb],h1,h2⟩
    | false =>
     rw[hb,cond_false]at h; rw[cond_false]
     cases hd:vn n dst with
     | true=>rw[hd,cond_true]at h; exact .inl ⟨_,rfl,h⟩
     | false=>rw[hd,cond_false]at h; exact h.elim
   | none =>
    rw[hk]at h
    simp only at h ⊢
    split at h
    ·rename_i x hf
     rw[hf]
     simp only
     have hw:w6 ops s.fr.get ⟨dst,op,ty,pos,after,some (j,want)⟩=some (x==want):=by simp[w6,hg,hf]
     cases hd:vn n dst with
     | false=>rw[hd]at h; exact h.elim
     | true =>
      rw[hd,cond_true]at h; rw[cond_true]
      rcases h with⟨hx,h⟩ | ⟨hx,h⟩
      ·subst hx
       cases want with
       | true =>
        rw[cond_true]at h
        rcases eX h with⟨s',h1,h2⟩ | ⟨d,zu,h1,h2⟩
        ·exact .inl ⟨s',.inl ⟨rfl,h1⟩,h2⟩
        ·exact .inr ⟨d,zu,hw,h1,h2⟩
       | false=>rw[cond_false]at h; exact .inl ⟨_,.inl ⟨rfl,rfl⟩,h⟩
      ·subst hx
       cases want with
       | true=>rw[cond_true]at h; exact .inl ⟨_,.inr ⟨rfl,rfl⟩,h⟩
       | false =>
        rw[cond_false]at h
        rcases eX h with⟨s',h1,h2⟩ | ⟨d,zu,h1,h2⟩
        ·exact .inl ⟨s',.inr ⟨rfl,h1⟩,h2⟩
        ·exact .inr ⟨d,zu,hw,h1,h2⟩
    ·rename_i hf
     rw[hf]
     simp only
     cases hd:vn n dst with
     | true=>rw[hd,cond_true]at h; exact .inl ⟨_,rfl,h⟩
     | false=>rw[hd,cond_false]at h; exact h.elim
    ·exact h.elim
def GW(c:Ctx)(n:Nat)(ops:Array Oper)(l:List Oper)(s:b4)(d:D)(zu:St):Prop :=
 ∃ pre o post s1,l=pre++o::post∧(cS c n ops pre s).leads s1∧w6 ops s1.fr.get o=some true∧BJ c o s1 d zu
theorem oe{ops:Array Oper}:∀ (l:List Oper) {s:b4} {k:b4→T α} {kp:D→St→T α} {r:α},wW s.kn s.fr.get→(∀ o∈l,∃ i:Nat,ops[i]? = some o)→(tT (vy P xid tab ro) tab n ops l s k kp).leads r →
  (∃ s',(cS (vy P xid tab ro) n ops l s).leads s'∧(k s').leads r)∨∃ d zu,GW (vy P xid tab ro) n ops l s d zu∧(kp d zu).leads r
 | [],s,k,kp,r,_,_,h=>.inl ⟨s,rfl,h⟩
 | o::l,s,k,kp,r,hk,hl,h=>by
  rcases C4 hk h with⟨s1,h1,h2⟩ | ⟨d,zu,h1,h2,h3⟩
  ·obtain⟨i,hi⟩:=hl o List.mem_cons_self
   obtain⟨_,_,hk1,_⟩:=WX hi hk h1
   rcases oe l hk1 (fun o' ho=>hl o' (List.mem_cons_of_mem _ ho)) h2 with⟨s2,h3,h4⟩ | ⟨d,zu,⟨pre,o',post,s2,e,g1,g2,g3⟩,h4⟩
   ·exact .inl ⟨s2,T.ze.2 ⟨s1,h1,h3⟩,h4⟩
   ·exact .inr ⟨d,zu,⟨o::pre,o',post,s2,by rw[e]; rfl,T.ze.2 ⟨s1,h1,g1⟩,g2,g3⟩,h4⟩
  ·exact .inr ⟨d,zu,⟨[],o,l,s,rfl,rfl,h1,h2⟩,h3⟩
theorem Xf{ops:Array Oper}{draw:Bool}{fr:Fr}{kn:Kn}{st:St}{k:b4→T α}{kp:D→St→T α}{r:α}(hk:wW kn fr.get)(h:(ZV (vy P xid tab ro) tab n ops draw fr kn st k kp).leads r) :
  (∃ s',(yO (vy P xid tab ro) n ops draw fr kn st).leads s'∧(k s').leads r)∨∃ d zu,draw=false∧GW (vy P xid tab ro) n ops ops.toList ⟨fr,kn,st,[],[]⟩ d zu∧(kp d zu).leads r:=by
 rcases oe _ hk (fun o ho=>by obtain⟨i,hi,he⟩:=List.getElem_of_mem ho; exact⟨i,by rw[← he]; simp at hi; simp[hi]⟩) h with⟨s',h1,h2⟩ | ⟨d,zu,h1,h2⟩
 ·cases hd : !draw||oc ops s'.ks.reverse s'.bk.reverse with
  | false=>rw[hd]at h2; exact h2.elim
  | true =>
   rw[hd,cond_true]at h2
   refine .inl ⟨s',T.ze.2 ⟨s',h1,?_⟩,h2⟩
   rw[hd]; rfl
 ·cases draw with
  | true=>exact h2.elim
  | false=>exact .inr ⟨d,zu,rfl,h1,h2⟩
end
end
end Go.AM
namespace Go.AM
set_option linter.unusedSectionVars false
variable [vP] [Xl]
open Go.RowKit
theorem ZU{α β:Type}{f:α→β}{t:T α}{x:α}(h:t.leads x):(JW f t).leads (f x):=by
 induction t with
 | ret a=>exact congrArg f h
 | ite b p q ip iq=>exact yE h (fun h=>⟨h.1,ip h.2⟩) (fun h=>⟨h.1,iq h.2⟩)
 | zj p t ih=>exact⟨h.1,ih h.2⟩
 | fail=>exact h.elim
theorem Hu:∀ (l:List It) (d:wv l) (t:T (wv l)) (x:wv l),t.leads x→Cz l d t=x
 | [],_,_,_,_=>rfl
 | [_],d,t,x,h=>((T.Q2 d t x).1 h).2
 | i::j::r,d,t,x,h=>by
  have h1:=((T.Q2 d.1 _ _).1 (ZU (f:=Prod.fst) h)).2
  have h2:=Hu (j::r) d.2 _ _ (ZU (f:=Prod.snd) h)
  show(T.val d.1 (JW Prod.fst t),Cz (j::r) d.2 (JW Prod.snd t))=x
  rw[h1,h2]
  exact rfl
theorem Ds{α:Type}(t:T α)(h:t.tG):∃ x,t.leads x:=by
 induction t with
 | ret a=>exact⟨a,rfl⟩
 | ite b p q ip iq =>
  unfold T.tG at h ip iq
  simp only[T.c7]at h
  cases b with
  | true =>
   obtain⟨x,hx⟩:=ip (by cases hp:p.c7<;>cases hq:q.c7<;>simp_all)
   exact⟨x,.inl ⟨rfl,hx⟩⟩
  | false =>
   obtain⟨x,hx⟩:=iq (by cases hp:p.c7<;>cases hq:q.c7<;>simp_all)
   exact⟨x,.inr ⟨rfl,hx⟩⟩
 | zj p t ih =>
  unfold T.tG at h ih
  simp only[T.c7]at h
  cases ht:t.c7 with
  | none=>rw[ht]at h ih; obtain⟨x,hx⟩:=ih trivial; exact⟨x,h,hx⟩
  | some q=>rw[ht]at h ih; obtain⟨x,hx⟩:=ih h.2; exact⟨x,h.1,hx⟩
 | fail=>exact h.elim
theorem J2{l:List It}{t:T (wv l)}{x:wv l}(h:(EV l t).leads x):t.leads x:=by
 unfold EV at h
 split at h
 ·rename_i d hd
  have key:t.tG→Cz l d t=x→t.leads x:=by
   intro hp hv
   obtain⟨y,hy⟩:=Ds t hp
   rw[← hv,Hu l d t y hy]; exact hy
  split at h
  ·rename_i hn; exact key (by unfold T.tG; rw[hn]; trivial) h
  ·rename_i p hn; exact key (by unfold T.tG; rw[hn]; exact h.1) h.2
 ·exact h.elim
def RIs(ws:List Way)(r:jA ws)(w:Way)(x:w.sh.den):Prop:=∀ {α:Type} (k:Ex→Fr→St→T α),Hs ws r k=k w.ex (w.sh.fr x) (w.sh.st x)
theorem Uf:∀ (ws:List Way) (ex:Ex) (fr:Fr) (st:St) (r:jA ws),(Ve ws ex fr st).leads r→∃ w,w∈ws∧∃ x:w.sh.den,RIs ws r w x∧lv w.ex ex=true∧(w.sh.un fr st).leads x
 | [],_,_,_,_,h=>h.elim
 | [w],ex,fr,st,r,h=>by
  have h:(bif lv w.ex ex then w.sh.un fr st else .fail:T w.sh.den).leads r:=h
  cases hs:lv w.ex ex with
  | false=>rw[hs]at h; exact h.elim
  | true=>rw[hs]at h; exact⟨w,by simp,r,fun k=>rfl,hs,h⟩
 | w::v::ws,ex,fr,st,r,h=>by
  have h:(bif lv w.ex ex then(w.sh.un fr st).bind fun x=>T.ret (Sum.inl x:w.sh.den⊕jA (v::ws))else(Ve (v::ws) ex fr st).bind fun y=>T.ret (Sum.inr y)).leads r:=h
  cases hs:lv w.ex ex with
  | true =>
   rw[hs]at h
   obtain⟨x,h1,h2⟩:=T.ze.1 h
   have h2:(Sum.inl x:w.sh.den⊕jA (v::ws))=r:=h2
   subst h2
   exact⟨w,by simp,x,fun k=>rfl,hs,h1⟩
  | false =>
   rw[hs]at h
   obtain⟨y,h1,h2⟩:=T.ze.1 h
   have h2:(Sum.inr y:w.sh.den⊕jA (v::ws))=r:=h2
   subst h2
   obtain⟨w',k1,x,k2,k3,k4⟩:=Uf (v::ws) ex fr st y h1
   exact⟨w',List.mem_cons_of_mem _ k1,x,fun k=>k2 k,k3,k4⟩
def P4(κ:KS)(n:Nat)(w:Way)(z:w.sh.den)(a:Act)(cG:Exit):Prop:=∀ q,KM w.ex (w.sh.fr z)=some q→Rel κ n q.2.get a∧KF κ q.1 cG
theorem I0{κ0 κ:KS}{n:Nat}{a:Act}{w:Way}{z:w.sh.den}{OF:Ex}{Tu:Fr}{cG:Exit}(hx:Ext κ0 κ)(hI:Inv κ)(hR:Rel κ n Tu.get a)(he:KF κ OF cG)(hs:lv w.ex OF=true)(hl:κ0.st.length≤w.sh.bs.length)
  (h:(w.sh.un (Xu OF Tu) κ.st).leads z):∃ κ1:KS,κ1.w=κ.w∧κ1.st=w.sh.st z∧Inv κ1∧Ext κ0 κ1∧P4 κ1 n w z a cG:=by
 have plain:Xu OF Tu=Tu→(∀ q,KM w.ex (w.sh.fr z)=some q→q.2=w.sh.fr z∧∀ κ1:KS,KF κ1 q.1 cG)→∃ κ1:KS,κ1.w=κ.w∧κ1.st=w.sh.st z∧Inv κ1∧Ext κ0 κ1∧P4 κ1 n w z a cG:=by
  intro e1 e2
  rw[e1]at h
  obtain⟨κ1,q1,q2,q3,q4,q5,_⟩:=w.sh.oE (n:=n) hx hI hR hl h
  exact⟨κ1,q1,q2,q3,q4,fun q hq=>by obtain⟨g1,g2⟩:=e2 q hq; rw[g1]; exact⟨q5,g2 κ1⟩⟩
 cases hw:w.ex with
 | normal =>
  rw[hw]at hs
  cases OF<;>first | (cases hs; done) | skip
  exact plain rfl fun q hq=>by rw[hw]at hq; cases hq; exact⟨rfl,fun _=>he⟩
 | ret =>
  rw[hw]at hs
  cases OF<;>first | (cases hs; done) | skip
  exact plain rfl fun q hq=>by rw[hw]at hq; cases hq; exact⟨rfl,fun _=>he⟩
 | exit id =>
  rw[hw]at hs
  cases OF<;>first | (cases hs; done) | skip
  rename_i id'
  have:id=id':=Nat.eq_of_beq_eq_true hs
  subst this
  exact plain rfl fun q hq=>by rw[hw]at hq; cases hq; exact⟨rfl,fun _=>he⟩
 | jq p =>
  rw[hw]at hs
  cases p<;>first | (cases hs; done) | skip
  rename_i t p
  cases OF<;>first | (cases hs; done) | skip
  rename_i p'
  cases p'<;>first | (cases hs; done) | skip
  rename_i t' d
  have:t=t':=Nat.eq_of_beq_eq_true hs
  subst this
  obtain⟨v,rfl,hv⟩:=he
  cases hv with
  | iface _ _ u hu =>
   have W6:Rel κ 1 (Xu (.jq (.iface t d)) Tu).get { tmps := #[u],defers:=Xl.df }:=by
    refine⟨rfl,rfl,fun s d' hd => ?_⟩
    simp only[Xu,Fr.get]at hd
    cases hb:Nat.beq 0 s with
    | true =>
     rw[hb,cond_true]at hd
     cases hd
     have:=Nat.eq_of_beq_eq_true hb
     subst this
     exact⟨u,rfl,hu⟩
    | false=>rw[hb,cond_false]at hd; cases hd
   obtain⟨κ1,q1,q2,q3,q4,q5,_⟩:=w.sh.oE (n:=1) hx hI W6 hl h
   refine⟨κ1,q1,q2,q3,q4,fun q hq => ?_⟩
   rw[hw]at hq
   simp only[KM]at hq
   split at hq
   ·rename_i d' j9
    cases hq
    obtain⟨v',g1,g2⟩:=q5.get 0 d' j9
    cases g1
    exact⟨⟨hR.size,hR.defers,fun s d hd=>by cases hd⟩,_,rfl,.iface t d' _ g2⟩
   ·cases hq
theorem dE(st:St):∀ (bs:List Bk) (bd:List Bd),(vb st bs bd).length≤bs.length
 | [],_=>by simp[vb]
 | .arr _::r,[]=>by simp[vb]
 | .arr _::r,.v _ _::_=>by simp[vb]
 | .arr _::r,.a _ _::d=>by have:=dE st r d; simp[vb]; exact this
 | .var _::r,[]=>by simp[vb]
 | .var _::r,.a _ _::_=>by simp[vb]
 | .var _::r,.v _ _::d=>by have:=dE st r d; simp[vb]; exact this
 | .cvar _::r,d=>by have:=dE st r d; cases d<;>(simp[vb]; exact this)
 | .dead::r,d=>by have:=dE st r d; cases d<;>(simp[vb]; exact this)
theorem yx.oj(s:yx)(x:s.den):(s.st x).length≤s.bs.length:=dE _ _ _
theorem tz{l m:Fr}{s:Nat}{d:D}(h:(l++m).get s=some d):l.get s=some d∨m.get s=some d:=by
 induction l with
 | nil=>exact .inr h
 | cons p r ih =>
  obtain⟨t,d'⟩:=p
  simp only[List.cons_append,Fr.get]at h ⊢
  cases ht:Nat.beq t s with
  | true=>rw[ht,cond_true]at h; rw[cond_true]; exact .inl h
  | false=>rw[ht,cond_false]at h; rw[cond_false]; exact ih h
theorem D2{l:List Nat}{fr:Fr}{s:Nat}{d:D}(h:(gZ l++fr).get s=some d):s ∉ l∧fr.get s=some d:=by
 induction l with
 | nil=>exact⟨by simp,h⟩
 | cons t r ih =>
  simp only[gZ,List.map_cons,List.cons_append,Fr.get]at h
  cases ht:Nat.beq t s with
  | true=>rw[ht,cond_true]at h; cases h
  | false =>
   rw[ht,cond_false]at h
   obtain⟨h1,h2⟩:=ih h
   refine⟨?_,h2⟩
   simp only[List.mem_cons,not_or]
   exact⟨fun e=>by subst e; simp at ht,h1⟩
theorem oM{o:Oper}{s:Nat}:∀ {l:List Oper},o∈l→o.dst=some s→s∈dstsOf l
 | p::r,h,hs=>by
  simp only[dstsOf]
  rcases List.mem_cons.1 h with rfl | h
  ·rw[hs]; exact List.mem_cons_self
  ·split
   ·exact List.mem_cons_of_mem _ (oM h hs)
   ·exact oM h hs
def Kept(code:Code)(a a':Act):Prop:=∀ s:Nat,s ∉ zY code→a'.tmps[s]? = a.tmps[s]?
section
variable {P:Program} {xid:Nat} {tab:b8} {ro:Nat→Bool} {n:Nat} {H:Hints}
theorem mT{κ κ':KS}{fr out:Fr}{a a':Act}{ws:List Nat}(hR:Rel κ n fr.get a)(hx:Ext κ κ')(ho:Rel κ' n out.get a')(hk:∀ s:Nat,s ∉ ws→a'.tmps[s]? = a.tmps[s]?):Rel κ' n (out++(gZ ws++fr)).get a':=by
 refine⟨ho.size,ho.defers,fun s d hd => ?_⟩
 rcases tz hd with h | h
 ·exact ho.get s d h
 ·obtain⟨h1,h2⟩:=D2 h
  obtain⟨v,g1,g2⟩:=hR.get s d h2
  exact⟨v,(hk s h1).trans g1,g2.mono hx⟩
theorem VN{c:Ctx}{ops:Array Oper}:∀ (l:List Oper) (s s':b4),(cS c n ops l s).leads s'→quiet s'.ks=true→s'.st=s.st∧quiet s.ks=true:=by
 have hq:∀ {k:Nat} {ks:List Nat},quiet (k::ks)=true→Nat.beq k 2=false∧quiet ks=true:=by
  intro k ks h
  simp only[quiet,List.all_cons,Bool.and_eq_true,Bool.not_eq_true']at h
  exact⟨h.1,by unfold quiet; exact h.2⟩
 have one:∀ (o:Oper) (s s1:b4),(y6 c n o s).leads s1→quiet s1.ks=true→s1.st=s.st∧quiet s.ks=true:=by
  intro o s s1 h hk
  unfold y6 at h
  cases hd:vn n o.dst with
  | false=>rw[hd]at h; exact h.elim
  | true =>
   rw[hd,cond_true]at h
   obtain⟨r,h1,h2⟩:=T.ze.1 h
   cases h2
   obtain⟨g1,g2⟩:=hq hk
   refine⟨?_,g2⟩
   show r.2=s.st
   generalize fW c s.kn s.fr o=cl at h1 g1
   cases cl with
   | val t=>obtain⟨d,_,h3⟩:=T.ze.1 h1; cases h3; rfl
   | rd k=>obtain⟨d,_,h3⟩:=T.ze.1 h1; cases h3; rfl
   | wr k=>cases g1
 have skp:∀ (o:Oper) (s:b4),quiet (uL o s).ks=true→(uL o s).st=s.st∧quiet s.ks=true:=fun o s h=>⟨rfl,(hq h).2⟩
 have gd:∀ (o:Oper) (s s1:b4),(stepG c n ops o s).leads s1→quiet s1.ks=true→s1.st=s.st∧quiet s.ks=true:=by
  intro o s s1 h hk
  obtain⟨dst,op,ty,pos,after,guard⟩:=o
  cases guard with
  | none=>exact one _ s s1 h hk
  | some jw =>
   obtain⟨j,want⟩:=jw
   simp only[stepG]at h
   cases hg:vW ops j with
   | none=>rw[hg]at h; exact h.elim
   | some t =>
    rw[hg]at h
    simp only at h
    cases hkn:s.kn.get t with
    | some b =>
     rw[hkn]at h
     simp only at h
     cases hb:b==want with
     | true=>rw[hb,cond_true]at h; exact one _ s s1 h hk
     | false =>
      rw[hb,cond_false]at h
      cases hd:vn n dst with
      | false=>rw[hd]at h; exact h.elim
      | true=>rw[hd,cond_true]at h; cases h; exact skp _ s hk
    | none =>
     rw[hkn]at h
     simp only at h
     split at h
     ·cases hd:vn n dst with
      | false=>rw[hd]at h; exact h.elim
      | true =>
       rw[hd,cond_true]at h
       rcases h with⟨_,h⟩ | ⟨_,h⟩
       ·cases want with
        | true=>rw[cond_true]at h; exact one _ (s.yA t true) s1 h hk
        | false=>rw[cond_false]at h; cases h; exact skp _ (s.yA t true) hk
       ·cases want with
        | true=>rw[cond_true]at h; cases h; exact skp _ (s.yA t false) hk
        | false=>rw[cond_false]at h; exact one _ (s.yA t false) s1 h hk
     ·cases hd:vn n dst with
      | false=>rw[hd]at h; exact h.elim
      | true=>rw[hd,cond_true]at h; cases h; exact skp _ s hk
     ·exact h.elim
 intro l
 induction l with
 | nil=>intro s s' h hk; cases h; exact⟨rfl,hk⟩
 | cons o l ih =>
  intro s s' h hk
  obtain⟨s1,h1,h2⟩:=T.ze.1 h
  obtain⟨g1,g2⟩:=ih s1 s' h2 hk
  obtain⟨k1,k2⟩:=gd o s s1 h1 g2
  exact⟨g1.trans k1,k2⟩
theorem V3{c:Ctx}{ops:Array Oper}{draw:Bool}{fr:Fr}{kn:Kn}{st:St}{s':b4}(h:(yO c n ops draw fr kn st).leads s')(hq:quiet s'.ks=true):s'.st=st:=by
 obtain⟨s1,h1,h2⟩:=T.ze.1 h
 cases hd:(!draw||oc ops s1.ks.reverse s1.bk.reverse)with
 | false=>rw[hd]at h2; exact h2.elim
 | true=>rw[hd,cond_true]at h2; cases h2; exact(VN _ _ _ h1 hq).1
theorem ED{c:Ctx}{κ:KS}{a:Act}{o:Oper}{g:Nat}{args:Array Value}{R:Ending→World→Prop}(xQ:(execOp a.eval o).run c.P κ.w=(callFunc g args).run c.P κ.w)
  (h:um c.P g args κ.w R) {K:Act→World→Prop} {Q:Exit→Act→World→Prop} (hR:∀ e w',R e w'→∃ ch,e=.panicked ch∧Q (.panic ch) a w'):o.wp c.P a κ.w K Q:=by
 unfold Oper.wp
 rw[xQ]
 rcases h with⟨h1,h2⟩ | ⟨v,w',h1,h2⟩
 ·rw[h1]
  refine h2.mono fun e w' he => ?_
  obtain⟨ch,rfl,hk⟩:=hR e w' he
  exact hk
 ·obtain⟨u,hu,_⟩:=hR _ _ h2
  cases hu
theorem FD{c:Ctx}{κ:KS}{n:Nat}{a:Act}{o:Oper}{s:b4}{d:D}{zu:St}(hC:∀ g,Uu c.P g (c.fn g))(hI:Inv κ)(hR:Rel κ n s.fr.get a)(xh:κ.st=s.st)(h:BJ c o s d zu){K:Act→World→Prop}{Q:Exit→Act→World→Prop}
  (hQ:∀ (v:Value) (κ':KS),κ'.st=zu→Inv κ'→Ext κ κ'→RD κ' d v→Q (.panic [{ v,recovered:=false }]) a κ'.w):o.wp c.P a κ.w K Q:=by
 have cp:∀ (x:Operand) (z:D),vZ s.fr x=some z→RD κ z (a.eval x):=fun x z hz=>hR.eval (by rw[← yo]; exact hz)
 obtain⟨dst,op,ty,pos,after,guard⟩:=o
 rcases h with⟨x,t,e,rfl,hx,rfl,rfl⟩ | ⟨f,args,dG,rfl,g,caps,l,hp,hl,hc⟩
 ·have hv:=cp x _ hx
  generalize UG:a.eval x=pv at hv
  cases hv with
  | iface _ _ u hu =>
   have xQ:(execOp a.eval ⟨dst,.panic x,ty,pos,after,guard⟩).run c.P κ.w=.halt (.panic (.iface t u)) κ.w:=by
    simp[execOp,UG,Instr.panic,goPanic]
   unfold Oper.wp
   rw[xQ]
   exact hQ _ κ xh hI (Ext.refl κ) (.iface t e u hu)
 ·have OV:=cp f _ hp
  have hr:=kJ (κ:=κ) (vs:=args.toList.map a.eval) hl (by simp) (fun i d v hd hv=>by
      simp only[List.getElem?_map]at hd hv
      cases hi:args.toList[i]? with
      | none=>rw[hi]at hd; cases hd
      | some x=>rw[hi]at hd hv; simp at hd hv; subst hv; exact cp x d hd)
  generalize UG:a.eval f=pv at OV
  cases OV with
  | xg _ _ us cx hh2 =>
   have lz:=Ze g hr (⟨cx,hh2⟩:qG κ caps us)
   rw[← xh]at hc
   refine ED (c:=c) (κ:=κ) (g:=kg g) (args:=(uK g (args.toList.map a.eval) us).toArray) ?_ (hC (kg g) κ _ _ _ _ hc hI lz) ?_
   ·exact J0 UG
   ·rintro e w' ⟨κ',rfl,h1,h2,h3,v,rfl,h4⟩
    exact⟨_,rfl,hQ v κ' h1 h2 h3 h4⟩
theorem D6{c:Ctx}{κ:KS}{n:Nat}{a:Act}{id:Nat}{ops:Array Oper}{fr:Fr}{kn:Kn}{d:D}{zu:St}(hC:∀ g,Uu c.P g (c.fn g))(hI:Inv κ)(hR:Rel κ n fr.get a)(hk:wW kn fr.get)
  (h:GW c n ops ops.toList ⟨fr,kn,κ.st,[],[]⟩ d zu) {Q:Exit→Act→World→Prop}
  (hQ:∀ (v:Value) (a':Act) (κ':KS),κ'.st=zu→Inv κ'→Ext κ κ'→Rel κ' n (Fr.get []) a'→c8 ops a a'→RD κ' d v→Q (.panic [{ v,recovered:=false }]) a' κ'.w):(Code.region id ops false).wp c.P Q a κ.w:=by
 obtain⟨pre,o,post,s1,e,h1,h2,h3⟩:=h
 have VI:∀ j:Nat,ops[j]? = (pre++o::post)[j]? := fun j=>by rw[← e]; simp
 obtain⟨ks,g1,g2,_⟩:=c9 pre 0 ⟨fr,kn,κ.st,[],[]⟩ s1 (fun j=>by
  by_cases hj:j<pre.length
  ·left; rw[Nat.zero_add,VI,List.getElem?_append_left hj]
  ·right; omega) hk h1
 have uj:List.range ops.size=List.range' 0 pre.length++pre.length::List.range' (pre.length+1) post.length:=by
  have:ops.size=pre.length+(post.length+1):=by rw[← Array.length_toList,e]; simp
  rw[this,List.range_eq_range',← List.range'_append_1,Nat.zero_add,List.range'_succ]
 refine wp_region ?_
 rw[uj]
 refine rI hC _ _ hI hR rfl g1 fun a' κ' e1 e2 e3 e4 e5 => ?_
 rw[wpOps_cons]
 unfold wpOp
 have ho:ops[pre.length]? = some o:=by rw[VI]; simp
 rw[ho]
 simp only
 rw[if_pos (dI e4 h2)]
 exact .inl (FD hC e2 e4 e1 h3 fun v Cg f1 f2 f3 f4=>hQ v a' Cg f1 f2 (e3.trans f3) ⟨e4.size,e4.defers,fun s d hd=>by cases hd⟩ e5 f4)
def pH(P:Program)(n:Nat)(l:zZ)(b:Code):Prop:=∀ (κ:KS) (a:Act) (p:wv l.ps) (s:l.sh.den) (r:jA l.ws),(l.F p s).leads r→κ.st=l.sh.st s→Inv κ →
 Rel κ n (l.sh.fr s).get a→Rel κ n (bw (l.sh.st s) l.ps p).get a→Yu l.ps (zY b)=true→(∀ w∈l.ws,l.sh.bs.length≤w.sh.bs.length) →
 ∀ Q:Exit→Act→World→Prop,(∀ (w:Way) (x:w.sh.den) (cG:Exit) (a':Act) (κ':KS),w∈l.ws→RIs l.ws r w x→κ'.st=w.sh.st x→Inv κ'→Ext κ κ'→P4 κ' n w x a' cG→Kept b a a'→Q cG a' κ'.w) →
  (Code.loop b).wp P Q a κ.w
def vB(P:Program)(n:Nat)(H:Hints)(code:Code):Prop:=∀ p∈qY code,∀ l,H.loop p.1=some l→pH P n l p.2
theorem F1{kn:Kn}:∀ (l:List Nat) {fr:Fr} {st:St} {r:Fr×St},(Lb l fr st).leads r→wW kn fr.get→wW kn r.1.get
 | [],fr,st,r,h,hk=>by cases h; exact hk
 | s::l,fr,st,r,h,hk=>by
  obtain⟨x,h1,h2⟩:=T.ze.1 h
  refine F1 l h2 fun t b hb => ?_
  have hf:=hk t b hb
  unfold NV at h1
  cases hW:Nat.ble 1000000 s with
  | true =>
   rw[hW,cond_true]at h1
   have SH:x.1=fr:=by
    unfold MY at h1
    split at h1
    ·split at h1
     ·split at h1
      ·split at h1
       ·obtain⟨_,h1⟩:=h1; cases h1; rfl
       ·exact h1.elim
      ·exact h1.elim
     ·cases h1; rfl
    ·cases h1; rfl
   rw[SH]; exact hf
  | false =>
  rw[hW,cond_false]at h1
  unfold N5 at h1
  split at h1
  ·rename_i b' qs e off len hs
   split at h1
   ·split at h1
    ·obtain⟨_,h1⟩:=h1
     cases h1
     simp only[Fr.get]
     cases ht:Nat.beq s t with
     | true=>rw[← Nat.eq_of_beq_eq_true ht,hs]at hf; cases hf
     | false=>rw[cond_false]; exact hf
    ·exact h1.elim
   ·exact h1.elim
  ·cases h1; exact hf
theorem F2{c:Ctx}{t e:Nat}(hu:c.P.underlying t=some (.slice e)){op:BinOp}{b:Bool}(Lc:L6 op=some b)(px py:Operand)(w:World)(x:Option Addr)(l k:Nat) :
  (do eqGuard op t px py (.slice x l k) (.slice none 0 0); binOp op t (.slice x l k) (.slice none 0 0):Sem Value).run c.P w=.ok (.bool (if b=true then x.isNone else !x.isNone)) w:=by
 cases op<;>simp only[L6]at Lc<;>cases Lc
 ·have:=run_eql_slice_nil (P:=c.P) w t e x l k hu
  simp only[Sem.run_bind,eqGuard,Sem.run_pure]
  simpa using this
 ·have:=run_neq_slice_nil (P:=c.P) w t e x l k hu
  simp only[Sem.run_bind,eqGuard,Sem.run_pure]
  simpa using this
theorem YL{ops:Array Oper}{fr:Fr}{p:z2G}(hp:Vp (vy P xid tab ro) n ops fr=some p){κ:KS}{a:Act}{kn:Kn}(hI:Inv κ)(hR:Rel κ n fr.get a)(hk:wW kn fr.get){id:Nat}(Q:Exit→Act→World→Prop)
  (hQ:∀ a':Act,Kept (.region id ops false) a a' →
   ((p.l=[]∧Rel κ n (Fr.get ((p.c,some (.zi .bool p.eq))::(p.m,some .xb)::(p.s,some .xb)::fr)) a')∨Rel κ n (Fr.get ((p.c,some (.zi .bool (!p.eq)))::(p.m,some (.zi (.sl p.e) p.l))::fr)) a')→Q .normal a' κ.w) :
  (Code.region id ops false).wp P Q a κ.w:=by
 unfold Vp at hp
 split at hp
 ·rename_i o1 o2 hops
  split at hp
  ·rename_i m s Hk D7 hg1
   split at hp
   ·rename_i cc op t m' y ty' L4 ID NM
    split at hp
    ·rename_i b e l et Lc hs Ov
     cases hc:Nat.beq m m'&&G7 y&&Nat.blt m n&&Nat.blt cc n with
     | false=>rw[hc]at hp; cases hp
     | true =>
      rw[hc,cond_true]at hp
      cases hp
      simp only[Bool.and_eq_true]at hc
      obtain⟨⟨⟨hmm,hy⟩,hmn⟩,hcn⟩:=hc
      have:=Nat.eq_of_beq_eq_true hmm
      subst this
      have RL:y=.const (.slice none 0 0):=by
       unfold G7 at hy
       split at hy
       ·rfl
       ·cases hy
      subst RL
      obtain⟨v,hv,j9⟩:=hR.get s _ hs
      obtain⟨x,k,hvs⟩:∃ (x:Option Addr) (k:Nat),v=.slice x l.length k∧(x=none→l=[]∧k=0):=by
       rcases(j9.wU rfl).rX with⟨rfl,a0,he⟩ | ⟨blk,off,cap,f,he,w8,vx,h1,h2⟩
       ·cases he; exact⟨a0,0,rfl,fun _=>⟨rfl,rfl⟩⟩
       ·cases he; exact⟨_,cap,rfl,nofun⟩
      obtain⟨rfl,hvn⟩:=hvs
      have uj:ops.size=2:=by rw[← Array.length_toList,hops]; rfl
      have e0:ops[0]? = some o1:=by rw[← Array.getElem?_toList,hops]; rfl
      have e1:ops[1]? = some o2:=by rw[← Array.getElem?_toList,hops]; rfl
      have TD:m<n:=Nat.le_of_ble_eq_true hmn
      have z5z:cc<n:=Nat.le_of_ble_eq_true hcn
      have hsl:a.tmps.getD s undef=.slice x l.length k:=by simp[Array.getD_eq_getD_getElem?,hv]
      have wan:∀ (o:Oper) (ys:Nat→Option Value),o.guard=none→True:=fun _ _ _=>trivial
      refine wp_region ?_
      rw[uj,show List.range 2=[0,1]from rfl,wpOps_cons]
      unfold wpOp
      rw[e0]
      simp only
      rw[if_pos (by unfold Region.wanted; rw[hg1])]
      refine .inl ?_
      obtain⟨d1,op1,ty1,Ng,af1,gu1⟩:=o1
      obtain⟨d2,op2,WS,M0,af2,gu2⟩:=o2
      simp only at Hk D7 hg1 L4 ID NM
      subst Hk D7 hg1 L4 ID NM
      have Oo:(execOp a.eval ⟨some m,.move (.tmp s),ty1,Ng,af1,none⟩).run P κ.w=.ok (.value (.slice x l.length k)) κ.w:=by
       simp[execOp,Act.eval,hsl]
      unfold Oper.wp
      rw[Oo,Oper.upon_value,wpOps_cons]
      unfold wpOp
      rw[e1]
      simp only
      rw[if_pos (by unfold Region.wanted; rfl)]
      refine .inl ?_
      have cp:(a.put (some m) (.slice x l.length k)).eval (.tmp m)=.slice x l.length k:=by
       have:=hR.size
       simp[Act.eval,Act.put,Array.getD_eq_getD_getElem?,Array.getElem?_setIfInBounds,this,TD]
      have hu:=vI Ov
      have xQ:=F2 (c:=vy P xid tab ro) hu Lc (.tmp m) (.const (.slice none 0 0)) κ.w x l.length k
      have Cv:(execOp (a.put (some m) (.slice x l.length k)).eval ⟨some cc,.binOp op t (.tmp m) (.const (.slice none 0 0)) ty',WS,M0,af2,none⟩).run P κ.w=.ok (.value (.bool (if b=true then x.isNone else !x.isNone))) κ.w:=by
       have hex:execOp (a.put (some m) (.slice x l.length k)).eval ⟨some cc,.binOp op t (.tmp m) (.const (.slice none 0 0)) ty',WS,M0,af2,none⟩ =
        (do Pure.pure (.value (← (do eqGuard op t (.tmp m) (.const (.slice none 0 0)) ((a.put (some m) (.slice x l.length k)).eval (.tmp m)) (.slice none 0 0); binOp op t ((a.put (some m) (.slice x l.length k)).eval (.tmp m)) (.slice none 0 0))))):=rfl
       rw[hex,cp,Sem.run_bind]
       rw[show(do eqGuard op t (.tmp m) (.const (.slice none 0 0)) (.slice x l.length k) (.slice none 0 0); binOp op t (.slice x l.length k) (.slice none 0 0):Sem Value).run P κ.w=_ from xQ]
       rfl
      unfold Oper.wp
      rw[Cv,Oper.upon_value]
      have GA:∀ (q:Nat) (u:Value) (a1:Act) (t:Nat),(a1.put (some q) u).tmps[t]? = if q=t then(if q<a1.tmps.size then some u else none)else a1.tmps[t]? := by
       intro q u a1 t
       simp only[Act.put,Array.getElem?_setIfInBounds]
      have DO:(a.put (some m) (.slice x l.length k)).tmps.size=n:=by simp[Act.put,hR.size]
      have hs2:((a.put (some m) (.slice x l.length k)).put (some cc) (.bool (if b=true then x.isNone else !x.isNone))).tmps.size=n:=by simp[Act.put,hR.size]
      refine hQ _ (fun t ht => ?_) ?_
      ·have hw:zY (.region id ops false)=[m,cc]:=by simp only[zY,hops,dstsOf]
       rw[hw]at ht
       simp only[List.mem_cons,List.not_mem_nil,or_false,not_or]at ht
       rw[GA,if_neg (fun e=>ht.2 e.symm),GA,if_neg (fun e=>ht.1 e.symm)]
      ·have get:∀ (t:Nat),((a.put (some m) (.slice x l.length k)).put (some cc) (.bool (if b=true then x.isNone else !x.isNone))).tmps[t]? = if cc=t then some (.bool (if b=true then x.isNone else !x.isNone))else if m=t then some (.slice x l.length k)else a.tmps[t]? := by
        intro t
        rw[GA,GA,DO,if_pos z5z,hR.size,if_pos TD]
       have LM:∀ {i j:Nat},Nat.beq i j=false→i≠j:=fun h e=>by subst e; simp at h
       cases x with
       | none =>
        obtain⟨hl,VJ⟩:=hvn rfl
        subst hl VJ
        refine .inl ⟨rfl,hs2,hR.defers,fun t d hd => ?_⟩
        rw[get]
        simp only[Fr.get]at hd
        cases h1:Nat.beq cc t with
        | true =>
         rw[h1,cond_true]at hd; cases hd
         rw[if_pos (Nat.eq_of_beq_eq_true h1)]
         refine⟨_,rfl,?_⟩
         cases b<;>exact .bool
        | false =>
         rw[h1,cond_false]at hd
         rw[if_neg (LM h1)]
         cases h2:Nat.beq m t with
         | true=>rw[h2,cond_true]at hd; cases hd; rw[if_pos (Nat.eq_of_beq_eq_true h2)]; exact⟨_,rfl,.xb⟩
         | false =>
          rw[h2,cond_false]at hd
          rw[if_neg (LM h2)]
          cases h3:Nat.beq s t with
          | true=>rw[h3,cond_true]at hd; cases hd; rw[← Nat.eq_of_beq_eq_true h3]; exact⟨_,hv,.xb⟩
          | false=>rw[h3,cond_false]at hd; exact hR.get t d hd
       | some x =>
        refine .inr ⟨hs2,hR.defers,fun t d hd => ?_⟩
        rw[get]
        simp only[Fr.get]at hd
        cases h1:Nat.beq cc t with
        | true =>
         rw[h1,cond_true]at hd; cases hd
         rw[if_pos (Nat.eq_of_beq_eq_true h1)]
         refine⟨_,rfl,?_⟩
         cases b<;>exact .bool
        | false =>
         rw[h1,cond_false]at hd
         rw[if_neg (LM h1)]
         cases h2:Nat.beq m t with
         | true=>rw[h2,cond_true]at hd; cases hd; rw[if_pos (Nat.eq_of_beq_eq_true h2)]; exact⟨_,rfl,j9⟩
         | false=>rw[h2,cond_false]at hd; rw[if_neg (LM h2)]; exact hR.get t d hd
    ·cases hp
   ·cases hp
  ·cases hp
 ·cases hp
theorem Cm{id:Nat}{b:Code}(hb:∀ b',b≠.loop b')(fr:Fr)(kn:Kn)(st:St){α:Type}(k:YC→T α):oo (vy P xid tab ro) tab n H (.block id b) fr kn st k=oo (vy P xid tab ro) tab n H b fr kn st fun r=>match r.ex with
  | .exit id'=>bif Nat.beq id' id then k { r with ex:=.normal } else k r
  | _=>k r:=by
 cases b<;>first | rfl | exact absurd rfl (hb _)
theorem lE(hm:(vy P xid tab ro).P.follows .mixedOrders=true)(hT:jI P tab):∀ (code:Code),vB P n H code→∀ {fr:Fr} {kn:Kn} {κ:KS} {a:Act} {α:Type} {k:YC→T α} {r:α},
  (oo (vy P xid tab ro) tab n H code fr kn κ.st k).leads r→Inv κ→Rel κ n fr.get a→wW kn fr.get →
  ∀ Q:Exit→Act→World→Prop,(∀ (o:YC) (cG:Exit) (a':Act) (κ':KS),(k o).leads r→κ'.st=o.st→Inv κ'→Ext κ κ'→Rel κ' n o.fr.get a'→wW o.kn o.fr.get→Kept code a a'→(o.q=true→o.st=κ.st)→KF κ' o.ex cG→Q cG a' κ'.w) →
   code.wp P Q a κ.w:=by
 intro code
 induction code with
 | skip=>intro _ fr kn κ a α k r h hI hR hk Q hQ; exact wp_skip (hQ _ _ a κ h rfl hI (Ext.refl κ) hR hk (fun _ _=>rfl) (fun _=>rfl) rfl)
 | exit id=>intro _ fr kn κ a α k r h hI hR hk Q hQ; exact wp_exit (hQ _ _ a κ h rfl hI (Ext.refl κ) hR hk (fun _ _=>rfl) (fun _=>rfl) rfl)
 | ret=>intro _ fr kn κ a α k r h hI hR hk Q hQ; exact wp_ret (hQ _ _ a κ h rfl hI (Ext.refl κ) hR hk (fun _ _=>rfl) (fun _=>rfl) rfl)
 | region id ops draw =>
  intro _ fr kn κ a α k r h hI hR hk Q hQ
  simp only[oo]at h
  obtain⟨z,h0,h⟩:=T.ze.1 h
  obtain⟨κ0,w1,w2,w3,w4,w5⟩:=Fq _ h0 hI hR
  have VJ:=F1 _ h0 hk
  rcases Xf VJ h with⟨s,h1,h2⟩ | ⟨d,zu,rfl,h1,h2⟩
  rotate_left
  ·rw[← w2]at h1
   rw[← w1]
   exact D6 (VT hT) w3 w5 VJ h1 fun v a' κ' e1 e2 e3 e4 e5 e6=>hQ ⟨.jq d,[],[],zu,false⟩ _ a' κ' h2 e1 e2 (w4.trans e3) e4 (gx _) (fun t ht=>e5 t fun o ho he=>ht (oM ho he)) (fun hq=>by cases hq) ⟨v,rfl,e6⟩
  rw[← w2]at h1
  have Wz:=Cx VJ h1
  rw[← w1]
  refine(Cd hm (VT hT) w3 w5 VJ h1 fun a' κ' e1 e2 e3 e4 e5=>hQ ⟨.normal,s.fr,s.kn,s.st,quiet s.ks&&(H.Lb id).isEmpty⟩ _ a' κ' h2 e1 e2 (w4.trans e3) e4 Wz (fun t ht=>e5 t fun o ho he=>ht (oM ho he)) (fun hq => ?_) rfl).1
  simp only[Bool.and_eq_true]at hq
  have he:H.Lb id=[]:=List.isEmpty_iff.1 hq.2
  rw[he]at h0
  cases h0
  exact(V3 h1 hq.1).trans w2
 | seq x y ix iy =>
  intro hl fr kn κ a α k r h hI hR hk Q hQ
  have Lt:vB P n H x:=fun p hp=>hl p (by simp only[qY,List.mem_append]; exact .inl hp)
  have hly:vB P n H y:=fun p hp=>hl p (by simp only[qY,List.mem_append]; exact .inr hp)
  have kx:∀ {a a':Act},Kept x a a'→Kept (.seq x y) a a':=fun h s hs=>h s fun e=>hs (by simp only[zY,List.mem_append]; exact .inl e)
  have ky:∀ {a a':Act},Kept y a a'→Kept (.seq x y) a a':=fun h s hs=>h s fun e=>hs (by simp only[zY,List.mem_append]; exact .inr e)
  simp only[oo]at h
  split at h
  ·refine wp_seq (ix Lt h hI hR hk _ fun o cG a' κ' e0 e1 e2 e3 e4 DW e5 Sa e6 => ?_)
   cases hex:o.ex<;>rw[hex]at e0 e6<;>simp only at e0
   ·cases e6
    refine iy hly (κ:=κ') (e1▸e0) e2 e4 DW Q fun o' Uc Nn Cg f0 f1 f2 f3 f4 WT f5 UA f6=>hQ { o' with q:=o.q&&o'.q } Uc Nn Cg f0 f1 f2 (e3.trans f3) f4 WT (fun s hs=>(ky f5 s hs).trans (kx e5 s hs)) ?_ f6
    intro hq
    simp only[Bool.and_eq_true]at hq
    exact(UA hq.2).trans (e1.trans (Sa hq.1))
   ·cases e6; exact hQ o _ a' κ' e0 e1 e2 e3 e4 DW (kx e5) Sa (by rw[hex]; rfl)
   ·cases e6; exact hQ o _ a' κ' e0 e1 e2 e3 e4 DW (kx e5) Sa (by rw[hex]; rfl)
   ·obtain⟨v,rfl,hv⟩:=e6
    exact hQ o _ a' κ' e0 e1 e2 e3 e4 DW (kx e5) Sa (by rw[hex]; exact⟨v,rfl,hv⟩)
  ·rename_i iB hcu
   cases hw:WE iB with
   | false=>rw[hw]at h; exact h.elim
   | true =>
    rw[hw,cond_true]at h
    obtain⟨z,h1,h2⟩:=T.ze.1 h
    have h1:=J2 h1
    refine wp_seq (ix Lt h1 hI hR hk _ fun o cG a' κ' e0 e1 e2 e3 e4 DW e5 Sa e6 => ?_)
    cases hex:o.ex<;>rw[hex]at e0 e6<;>simp only at e0
    ·cases e6
     cases hq:o.q with
     | false=>rw[hq]at e0; exact e0.elim
     | true =>
      rw[hq,cond_true]at e0
      have xh:o.st=κ.st:=Sa hq
      have hRz:Rel κ' n (bw κ.st iB z).get a':=by
       refine⟨e4.size,e4.defers,fun t d hd => ?_⟩
       obtain⟨k',y',d0,g0,g1,g2,g3⟩:=(pC (p:=fun _=>true) (zu:=κ.st) iB [] z (fun _ _=>rfl) e0).2 _ (get_mem hd)
       cases g3
       obtain⟨v,q1,q2⟩:=e4.get _ _ g1
       have rD:=List.all_eq_true.1 hw _ g0
       have rD:oP k'=true:=rD
       have hwk:Wk κ' κ':=⟨rfl,rfl,rfl,rfl,fun b d h=>⟨d,h⟩,fun b v e xs h=>.inl h,fun b v e xs h=>h,fun b h=>h⟩
       have w8:Ki [] k'=true:=by cases k'<;>first | rfl | cases rD
       rw[← e1]at g2
       have:=Vg hwk (bs:=[]) w8 (fun _ _=>rfl) (zu:=κ'.st) (fun _ _=>rfl) (fun _ h=>by simp[rowAt]at h) g2 q2
       have he:il κ'.st k' y'=il κ.st k' y':=by cases k'<;>first | rfl | cases rD
       rw[he]at this
       exact⟨v,q1,this⟩
      have W6:=mT hR e3 hRz e5
      refine iy hly (κ:=κ') (by rw[e1,xh]; exact h2) e2 W6 (gx _) Q fun o' Uc Nn Cg f0 f1 f2 f3 f4 WT f5 UA f6=>hQ o' Uc Nn Cg f0 f1 f2 (e3.trans f3) f4 WT (fun s hs=>(ky f5 s hs).trans (kx e5 s hs)) (fun hq=>(UA hq).trans (e1.trans xh)) f6
    ·exact e0.elim
    ·exact e0.elim
    ·exact e0.elim
  ·rename_i hcu
   cases Lc:opsOf x with
   | none=>rw[Lc]at h; exact h.elim
   | some ops =>
    rw[Lc]at h
    simp only at h
    cases hp:Vp (vy P xid tab ro) n ops fr with
    | none=>rw[hp]at h; exact h.elim
    | some p =>
     rw[hp]at h
     obtain⟨X6,z0v⟩:=h
     obtain⟨id,rfl⟩:∃ id,x=.region id ops false:=by
      cases x with
      | region id ops' draw =>
       cases draw with
       | true=>cases Lc
       | false=>cases Lc; exact⟨id,rfl⟩
      | _=>cases Lc
     refine wp_seq (YL hp hI hR hk _ ?_)
     intro a' hk1 Tm
     rcases Tm with⟨hl,W6⟩ | W6
     ·refine iy hly (κ:=κ) (X6 hl _ z0v) hI W6 (fun t b hb => ?_) Q fun o' Uc Nn Cg f0 f1 f2 f3 f4 WT f5 UA f6=>hQ o' Uc Nn Cg f0 f1 f2 f3 f4 WT (fun s hs=>(ky f5 s hs).trans (kx hk1 s hs)) UA f6
      simp only[Kn.get]at hb
      simp only[Fr.get]
      cases ht:Nat.beq p.c t with
      | true=>rw[ht,cond_true]at hb; rw[cond_true]; cases hb; rfl
      | false=>rw[ht,cond_false]at hb; cases hb
     ·refine iy hly (κ:=κ) z0v hI W6 (fun t b hb => ?_) Q fun o' Uc Nn Cg f0 f1 f2 f3 f4 WT f5 UA f6=>hQ o' Uc Nn Cg f0 f1 f2 f3 f4 WT (fun s hs=>(ky f5 s hs).trans (kx hk1 s hs)) UA f6
      simp only[Kn.get]at hb
      simp only[Fr.get]
      cases ht:Nat.beq p.c t with
      | true=>rw[ht,cond_true]at hb; rw[cond_true]; cases hb; rfl
      | false=>rw[ht,cond_false]at hb; cases hb
  ·rename_i ws hcu
   cases hw:ws.all fun w=>Nat.ble κ.st.length w.sh.bs.length with
   | false=>rw[hw]at h; exact h.elim
   | true =>
    rw[hw,cond_true]at h
    obtain⟨rr,sF,h2⟩:=T.ze.1 h
    refine wp_seq (ix Lt sF hI hR hk _ fun o cG a' κ' e0 e1 e2 e3 e4 DW e5 _ e6 => ?_)
    obtain⟨w,g1,z,g2,g3,g4⟩:=Uf _ _ _ _ _ e0
    have hwl:=List.all_eq_true.1 hw w g1
    obtain⟨κ1,q1,q2,q3,q4,q5⟩:=I0 (n:=n) e3 e2 e4 e6 g3 (Nat.le_of_ble_eq_true hwl) (by rw[e1]; exact g4)
    rw[g2]at h2
    split at h2
    ·exact h2.elim
    rename_i zz Tl
    obtain⟨q5,IB⟩:=q5 zz Tl
    have W6:=mT hR q4 q5 e5
    rw[← q1]
    cases hex:zz.1<;>rw[hex]at h2 IB<;>simp only at h2
    ·cases IB
     exact iy hly (κ:=κ1) (by rw[q2]; exact h2) q3 W6 (gx _) Q fun o' Uc Nn Cg f0 f1 f2 f3 f4 WT f5 _ f6=>hQ { o' with q:=false } Uc Nn Cg f0 f1 f2 (q4.trans f3) f4 WT (fun s hs=>(ky f5 s hs).trans (kx e5 s hs)) (fun hq=>by cases hq) f6
    ·cases IB; exact hQ _ _ a' κ1 h2 q2 q3 q4 W6 (gx _) (kx e5) (fun hq=>by cases hq) rfl
    ·cases IB; exact hQ _ _ a' κ1 h2 q2 q3 q4 W6 (gx _) (kx e5) (fun hq=>by cases hq) rfl
    ·obtain⟨v,rfl,hv⟩:=IB
     exact hQ _ _ a' κ1 h2 q2 q3 q4 W6 (gx _) (kx e5) (fun hq=>by cases hq) ⟨v,rfl,hv⟩
 | cond x p q ip iq =>
  intro hl fr kn κ a α k r h hI hR hk Q hQ
  have hlp:vB P n H p:=fun z hz=>hl z (by simp only[qY,List.mem_append]; exact .inl hz)
  have Ci:vB P n H q:=fun z hz=>hl z (by simp only[qY,List.mem_append]; exact .inr hz)
  have kp:∀ {a a':Act},Kept p a a'→Kept (.cond x p q) a a':=fun h s hs=>h s fun e=>hs (by simp only[zY,List.mem_append]; exact .inl e)
  have kq:∀ {a a':Act},Kept q a a'→Kept (.cond x p q) a a':=fun h s hs=>h s fun e=>hs (by simp only[zY,List.mem_append]; exact .inr e)
  have hQp:=fun(o:YC) (cG:Exit) (a':Act) (κ':KS) f0 f1 f2 f3 f4 WT (f5:Kept p a a') UA f6=>hQ o cG a' κ' f0 f1 f2 f3 f4 WT (kp f5) UA f6
  have hQq:=fun(o:YC) (cG:Exit) (a':Act) (κ':KS) f0 f1 f2 f3 f4 WT (f5:Kept q a a') UA f6=>hQ o cG a' κ' f0 f1 f2 f3 f4 WT (kq f5) UA f6
  simp only[oo]at h
  split at h
  ·rename_i hx
   have hv:q7 fr.get x=some (.zi .bool true):=yN hk hx
   exact wp_cond_true (hR.eval hv).ya (ip hlp h hI hR hk Q hQp)
  ·rename_i hx
   have hv:q7 fr.get x=some (.zi .bool false):=yN hk hx
   exact wp_cond_false (hR.eval hv).ya (iq Ci h hI hR hk Q hQq)
  ·split at h
   ·split at h
    ·rename_i v hv
     have he:=hv
     rw[show ∀ t,fr.get t=q7 fr.get (.tmp t)from fun _=>rfl]at he
     rcases h with⟨rfl,h⟩ | ⟨rfl,h⟩
     ·exact wp_cond_true (hR.eval he).ya (ip hlp h hI hR (mf hk hv) Q hQp)
     ·exact wp_cond_false (hR.eval he).ya (iq Ci h hI hR (mf hk hv) Q hQq)
    ·exact h.elim
   ·exact h.elim
 | block id b ib =>
  intro hl fr kn κ a α k r h hI hR hk Q hQ
  by_cases hb:∃ b',b=.loop b'
  ·obtain⟨b,rfl⟩:=hb
   simp only[oo]at h
   split at h
   ·exact h.elim
   ·rename_i l hll
    cases hc:Nat.ble (gh l.gh fr κ.st).2.length l.sh.bs.length&&Yu l.ps (zY b)&&l.ws.all fun w=>Nat.ble l.sh.bs.length w.sh.bs.length with
    | false=>rw[hc]at h; exact h.elim
    | true =>
     rw[hc,cond_true]at h
     simp only[Bool.and_eq_true,List.all_eq_true]at hc
     obtain⟨⟨Ce,Da⟩,hc3⟩:=hc
     obtain⟨p,h1,h⟩:=T.ze.1 h
     obtain⟨s,h2,h⟩:=T.ze.1 h
     obtain⟨rr,h3,h4⟩:=T.ze.1 h
     obtain⟨κ1,w1,w2,w3,w4,w5⟩:=dx l.gh fr κ hI hR
     rw[← w2]at h1 h2 Ce
     obtain⟨κ2,q1,q2,q3,q4,q5,_⟩:=l.sh.oE (n:=n) (Ext.refl κ1) w3 w5 (Nat.le_of_ble_eq_true Ce) h2
     -- the loop's parameters
     have hps:Rel κ2 n (bw (l.sh.st s) l.ps p).get a:=by
      refine⟨w5.size,w5.defers,fun t d hd => ?_⟩
      obtain⟨k',y,d0,g0,g1,g2,g3⟩:=(pC (p:=fun _=>true) (zu:=l.sh.st s) l.ps [] p (fun _ _=>rfl) h1).2 _ (get_mem hd)
      cases g3
      obtain⟨v,e1,e2⟩:=w5.get _ _ g1
      have rD:=List.all_eq_true.1 Da _ g0
      simp only[Bool.and_eq_true]at rD
      have hwk:Wk κ1 κ1:=⟨rfl,rfl,rfl,rfl,fun b d h=>⟨d,h⟩,fun b v e xs h=>.inl h,fun b v e xs h=>h,fun b h=>h⟩
      have w8:Ki [] k'=true:=by cases k'<;>first | rfl | cases rD.1
      have:=Vg hwk (bs:=[]) w8 (fun _ _=>rfl) (zu:=κ1.st) (fun _ _=>rfl) (fun _ h=>by simp[rowAt]at h) g2 e2
      have he:il κ1.st k' y=il (l.sh.st s) k' y:=by cases k'<;>first | rfl | cases rD.1
      rw[he]at this
      exact⟨v,e1,this.mono q4⟩
     have Mu:Ext κ κ2:=w4.trans q4
     have mW:κ2.w=κ.w:=q1.trans w1
     rw[← mW]
     refine wp_block (hl (id,b) (by simp[qY]) l hll κ2 a p s rr h3 q2 q3 q5 hps Da (fun w hw=>Nat.le_of_ble_eq_true (hc3 w hw)) _ fun w x cG a' κ' f1 f2 f3 f4 f5 f6 f7 => ?_)
     rw[f2]at h4
     split at h4
     ·exact h4.elim
     rename_i zz Tl
     obtain⟨f6,f8⟩:=f6 zz Tl
     have Nr:Rel κ' n (zz.2++(gZ (zY b)++(gh l.gh fr κ.st).1)).get a':=mT w5 (q4.trans f5) f6 f7
     have Hy:Kept (.block id (.loop b)) a a':=f7
     cases hwx:zz.1<;>rw[hwx]at h4 f8<;>simp only at h4
     ·exact h4.elim
     ·rename_i id'
      cases f8
      simp only[Exit.inBlock]
      cases X3:Nat.beq id' id with
      | true =>
       rw[X3,cond_true]at h4
       have:=Nat.eq_of_beq_eq_true X3
       subst this
       rw[if_pos rfl]
       exact hQ _ _ a' κ' h4 f3 f4 (Mu.trans f5) Nr (gx _) Hy (fun hq=>by cases hq) rfl
      | false =>
       rw[X3,cond_false]at h4
       rw[if_neg (fun e=>by subst e; simp at X3)]
       exact hQ _ _ a' κ' h4 f3 f4 (Mu.trans f5) Nr (gx _) Hy (fun hq=>by cases hq) rfl
     ·cases f8
      exact hQ _ _ a' κ' h4 f3 f4 (Mu.trans f5) Nr (gx _) Hy (fun hq=>by cases hq) rfl
     ·obtain⟨v,rfl,hv⟩:=f8
      exact hQ _ _ a' κ' h4 f3 f4 (Mu.trans f5) Nr (gx _) Hy (fun hq=>by cases hq) ⟨v,rfl,hv⟩
  ·have X3:∀ b',b≠.loop b':=fun b' e=>hb ⟨b',e⟩
   rw[Cm X3]at h
   refine wp_block (ib (fun z hz=>hl z (by rw[Kq X3]; exact hz)) h hI hR hk _ fun o cG a' κ' f0 f1 f2 f3 f4 WT f5 UA f6 => ?_)
   have Hy:Kept (.block id b) a a':=f5
   cases hox:o.ex<;>rw[hox]at f0 f6<;>simp only at f0
   ·cases f6; exact hQ o _ a' κ' f0 f1 f2 f3 f4 WT Hy UA (by rw[hox]; rfl)
   ·rename_i id'
    cases f6
    simp only[Exit.inBlock]
    cases hbq:Nat.beq id' id with
    | true =>
     rw[hbq,cond_true]at f0
     have:=Nat.eq_of_beq_eq_true hbq
     subst this
     rw[if_pos rfl]
     exact hQ _ _ a' κ' f0 f1 f2 f3 f4 WT Hy UA rfl
    | false =>
     rw[hbq,cond_false]at f0
     rw[if_neg (fun e=>by subst e; simp at hbq)]
     exact hQ o _ a' κ' f0 f1 f2 f3 f4 WT Hy UA (by rw[hox]; rfl)
   ·cases f6; exact hQ o _ a' κ' f0 f1 f2 f3 f4 WT Hy UA (by rw[hox]; rfl)
   ·obtain⟨v,rfl,hv⟩:=f6
    exact hQ o _ a' κ' f0 f1 f2 f3 f4 WT Hy UA (by rw[hox]; exact⟨v,rfl,hv⟩)
 | _=>intro _ fr kn κ a α k r h; simp only[oo]at h; exact h.elim
end
end Go.AM
namespace Go.AM
set_option linter.unusedSectionVars false
variable [vP]
open Go.RowKit
section
variable [Xl]
variable {P:Program} {xid:Nat} {tab:b8} {ro:Nat→Bool} {n:Nat} {H:Hints}
theorem BI{b:Code}{st zu:St}:∀ (iB:List It) (z:wv iB),Yu iB (zY b)=true→bw st iB z=bw zu iB z∧∀ q∈bw st iB z,q.1 ∉ zY b:=by
 intro iB
 induction iB with
 | nil=>intro z _; exact⟨rfl,fun q hq=>by cases hq⟩
 | cons i r ih =>
  intro z h
  have hi:∀ y:i.den,Xp st i y=Xp zu i y∧∀ q∈Xp st i y,q.1 ∉ zY b:=by
   intro y
   simp only[Yu,List.all_cons,Bool.and_eq_true]at h
   cases i with
   | s t k =>
    obtain⟨h1,_⟩:=h
    have h1:(oP k&&L3 (zY b) t)=true:=h1
    simp only[Bool.and_eq_true]at h1
    refine⟨by cases k<;>first | rfl | (simp[oP]at h1),fun q hq => ?_⟩
    simp only[Xp,List.mem_singleton]at hq
    subst hq
    intro hm
    have:=h1.2
    simp only[L3,Bool.not_eq_true',List.any_eq_false]at this
    exact this t hm (by simp)
   | _=>exact⟨rfl,fun q hq=>by cases hq⟩
  cases r with
  | nil =>
   have e1:=Qq st i z
   have e2:=Qq zu i z
   exact⟨e1.trans ((hi z).1.trans e2.symm),fun q hq=>(hi z).2 q (by rw[e1]at hq; exact hq)⟩
  | cons j r =>
   have e1:=s6 st i j r z
   have e2:=s6 zu i j r z
   have hr:Yu (j::r) (zY b)=true:=by
    unfold Yu at h ⊢
    rw[List.all_cons,Bool.and_eq_true]at h
    exact h.2
   obtain⟨k1,k2⟩:=ih z.2 hr
   obtain⟨g1,g2⟩:=hi z.1
   refine⟨by rw[e1,e2,g1,k1],fun q hq => ?_⟩
   rw[e1]at hq
   rcases List.mem_append.1 hq with hq | hq
   ·exact g2 q hq
   ·exact k2 q hq
theorem Md(hm:(vy P xid tab ro).P.follows .mixedOrders=true)(hT:jI P tab){l:zZ}{b:Code}(hL:vB P n H b)(R:wv l.ps→l.sh.den→T (l.sh.den⊕jA l.ws))
  (round:∀ p s,EF (vy P xid tab ro) tab n H l b p s=R p s) (hF:∀ p s,l.F p s=T.loop (R p) s):pH P n l b:=by
 intro κ a p s r hr xh hI hR hRp hps hws Q hQ
 rw[hF,T.bF]at hr
 obtain⟨m,hm'⟩:=hr
 have z44:=fun(st zu:St)=>(BI (b:=b) (st:=st) (zu:=zu) l.ps p hps).1
 have R0:∀ (st:St) (t:Nat) (d:D),(bw st l.ps p).get t=some d→t ∉ zY b:=fun st t d hd=>(BI (b:=b) (st:=st) (zu:=st) l.ps p hps).2 _ (get_mem hd)
 refine wp_loop_ghost (fun m a' w'=>∃ s',T.Iter (R p) m s' r∧∃ κ':KS,κ'.w=w'∧κ'.st=l.sh.st s'∧Inv κ'∧Ext κ κ'∧Rel κ' n (l.sh.fr s').get a'∧Rel κ' n (bw (l.sh.st s) l.ps p).get a'∧Kept b a a') m
  ⟨s,hm',κ,rfl,xh,hI,Ext.refl κ,hR,hRp,fun _ _=>rfl⟩ ?_
 rintro m a1 w1 ⟨s1,hit,κ1,rfl,g4,g5,g6,g7a,g7b,g8⟩
 have g7:Rel κ1 n (l.sh.fr s1++bw (l.sh.st s1) l.ps p).get a1:=⟨g7a.size,g7a.defers,fun t d hd=>by
  rcases tz hd with hd | hd
  ·exact g7a.get t d hd
  ·rw[z44 _ (l.sh.st s)]at hd; exact g7b.get t d hd⟩
 cases hit with
 | done h1 =>
  rw[← round]at h1
  refine lE hm hT b hL (κ:=κ1) (by rw[g4]; exact h1) g5 g7 (gx _) _ fun o cG a' κ' e0 e1 e2 e3 e4 DW e5 _ e6 => ?_
  have fin:∀ exo,KF κ' exo cG→(Ve l.ws exo (Xu exo o.fr) o.st).leads r→Q cG a' κ'.w:=fun exo e6 e0=>by
   obtain⟨w,k1,x,k2,k3,k4⟩:=Uf _ _ _ _ _ e0
   have hlen:κ1.st.length≤w.sh.bs.length:=by rw[g4]; exact Nat.le_trans (yx.oj _ _) (hws w k1)
   obtain⟨κ2,q1,q2,q3,q4,q5⟩:=I0 (n:=n) e3 e2 e4 e6 k3 hlen (by rw[e1]; exact k4)
   have:=hQ w x cG a' κ2 k1 k2 q2 q3 (g6.trans q4) q5 (fun t ht=>(e5 t ht).trans (g8 t ht))
   rw[q1]at this
   exact this
  have C2:∀ {z:l.sh.den⊕jA l.ws},((Ve l.ws o.ex (Xu o.ex o.fr) o.st).bind fun r=>T.ret (Sum.inr r:l.sh.den⊕jA l.ws)).leads z→z=Sum.inr r→(Ve l.ws o.ex (Xu o.ex o.fr) o.st).leads r:=by
   intro z h hz
   obtain⟨y,h1,h2⟩:=T.ze.1 h
   have h2:(Sum.inr y:l.sh.den⊕jA l.ws)=z:=h2
   rw[hz]at h2
   cases h2
   exact h1
  cases hox:o.ex<;>rw[hox]at e0 e6 C2<;>simp only at e0
  ·obtain⟨y,_,h2⟩:=T.ze.1 e0
   have h2:(Sum.inl y:l.sh.den⊕jA l.ws)=Sum.inr r:=h2
   cases h2
  ·have q:=fin _ e6 (C2 e0 rfl); cases e6; exact q
  ·have q:=fin _ e6 (C2 e0 rfl); cases e6; exact q
  ·have q:=fin _ e6 (C2 e0 rfl); obtain⟨v,rfl,hv⟩:=e6; exact q
 | step h1 hit =>
  rename_i m s2
  rw[← round]at h1
  refine lE hm hT b hL (κ:=κ1) (by rw[g4]; exact h1) g5 g7 (gx _) _ fun o cG a' κ' e0 e1 e2 e3 e4 DW e5 _ e6 => ?_
  have By:((Ve l.ws o.ex (Xu o.ex o.fr) o.st).bind fun r=>T.ret (Sum.inr r:l.sh.den⊕jA l.ws)).leads (Sum.inl s2)→False:=by
   intro h
   obtain⟨y,h1,h2⟩:=T.ze.1 h
   have h2:(Sum.inr y:l.sh.den⊕jA l.ws)=Sum.inl s2:=h2
   cases h2
  cases hox:o.ex<;>rw[hox]at e0 e6 By<;>simp only at e0
  ·cases e6
   obtain⟨y,h1,h2⟩:=T.ze.1 e0
   have h2:(Sum.inl y:l.sh.den⊕jA l.ws)=Sum.inl s2:=h2
   cases h2
   have hlen:κ1.st.length≤l.sh.bs.length:=by rw[g4]; exact yx.oj _ _
   obtain⟨κ2,q1,q2,q3,q4,q5,_⟩:=l.sh.oE (n:=n) e3 e2 e4 hlen (by rw[e1]; exact h1)
   refine⟨m,Nat.lt_succ_self _,s2,hit,κ2,q1,q2,q3,g6.trans q4,q5,⟨q5.size,q5.defers,fun t d hd => ?_⟩,fun t ht=>(e5 t ht).trans (g8 t ht)⟩
   obtain⟨v,r1,r2⟩:=g7b.get t d hd
   exact⟨v,(e5 t (R0 _ t d hd)).trans r1,r2.mono q4⟩
  ·exact(By e0).elim
  ·exact(By e0).elim
  ·exact(By e0).elim
end
section
variable {P:Program} {xid:Nat} {tab:b8} {ro:Nat→Bool} {n:Nat} {H:Hints}
theorem tw{κ:KS}(hI:Inv κ):∀ (rs:List Ty) (ds:List D) (x:Uj rs) (vs:List Value),(Ib κ.st rs ds).leads x→qG κ ds vs→qG κ.all (pR rs x) vs∧∀ d∈pR rs x,tr d=true
 | [],[],x,vs,h,hd=>by rw[hd.qo]; exact⟨.nil,fun d hd=>by cases hd⟩
 | [],_::_,x,vs,h,hd=>h.elim
 | [τ],[],x,vs,h,hd=>h.elim
 | [τ],[d],x,vs,h,hd=>by
  obtain⟨v,us,rfl,h1,h2⟩:=hd.cons_inv
  rw[h2.qo]
  refine⟨.cons (pN hI h1 h) .nil,fun d hd => ?_⟩
  have hd:d∈[D.zi τ x]:=hd
  rw[List.mem_singleton]at hd
  subst hd; rfl
 | [τ],_::_::_,x,vs,h,hd=>h.elim
 | τ::σ::r,[],x,vs,h,hd=>h.elim
 | τ::σ::r,d::ds,x,vs,h,hd=>by
  obtain⟨y,h1,h2⟩:=T.ze.1 h
  obtain⟨z,h3,h4⟩:=T.ze.1 h2
  cases h4
  obtain⟨v,us,rfl,k1,k2⟩:=hd.cons_inv
  obtain⟨g1,g2⟩:=tw hI (σ::r) ds z us h3 k2
  refine⟨.cons (pN hI k1 h1) g1,fun d hd => ?_⟩
  rcases List.mem_cons.1 hd with rfl | hd
  ·rfl
  ·exact g2 d hd
theorem z2x(hm:(vy P xid tab ro).P.follows .mixedOrders=true)(hT:jI P tab){f:Nat}{fn:Func}{code:Code}(hf:P.funcs[f]? = some fn)(hb:fn.body=some code)
  (hn:(fn.name == "runtime.NumGoroutine")=false) (hL:vB P fn.ntmps H code) {d:Ux} (h:∀ x,IZ (vy P xid tab ro) tab H fn code d x=d.F x):zT P f d:=by
 intro κ x zM y xh hy hI ha
 rw[← h]at hy
 unfold IZ at hy
 cases hle:Nat.ble (sj d.ps x).length fn.ntmps with
 | false=>rw[hle]at hy; exact hy.elim
 | true =>
  rw[hle,cond_true]at hy
  have Xz:=Nat.le_of_ble_eq_true hle
  refine .inl ⟨wx hf hn (by rw[hb]; rfl) κ.w,calls_of_wp hf hb ?_⟩
  have hR:=ox ha Xz
  refine lE hm hT code hL (κ:=κ) (by rw[xh]; exact hy) hI hR (gx _) _ fun o cG a' κe e0 e1 e2 e3 e4 _ _ _ e6 => ?_
  have fin:(cG=.normal∨cG=.ret)→((yD (vy P xid tab ro) o.fr o.st fn.results.toList).bind fun ds=>Ib o.st d.rs ds).leads y →
    bodyPost P fn (fun e w'=>∃ κ':KS,κ'.w=w'∧κ'.st=[]∧Inv κ'∧Ext κ κ'∧vd κ' (.ret (pR d.rs y)) e) cG a' κe.w:=by
   intro hex h2
   obtain⟨ds,g1,g2⟩:=T.ze.1 h2
   rw[← e1]at g1 g2
   obtain⟨vs,k1,k2⟩:=fE e2 e4 g1
   obtain⟨q1,q2⟩:=CB hI xh e2 e3
   obtain⟨hl,z3r⟩:=tw e2 d.rs ds y vs g2 k2
   have Cb:qG (κe.bare (DQ κe)) (pR d.rs y) vs:=⟨hl.1,fun i h1 h2=>eW (z3r _ (List.getElem_mem h1)) (hl.2 i h1 h2)⟩
   have lL:a'.defers=[]∧∃ v,(results fn a'.tmps).run P κe.w=.ok v κe.w∧∃ κ':KS,κ'.w=κe.w∧κ'.st=[]∧Inv κ'∧Ext κ κ'∧vd κ' (.ret (pR d.rs y)) (.returned v) :=
    ⟨e4.defers,_,k1,κe.bare (DQ κe),rfl,rfl,q1,q2,_,rfl,o7 Cb⟩
   rcases hex with rfl | rfl
   ·exact lL
   ·exact lL
  cases hox:o.ex<;>rw[hox]at e0 e6<;>simp only at e0
  ·exact fin (.inl e6) e0
  ·exact e0.elim
  ·exact fin (.inr e6) e0
  ·exact e0.elim
theorem rO{d:Ux}{f:Nat}(b:(uX d.ps→T (Uj d.rs))→uX d.ps→T (Uj d.rs))(hF:∀ x,d.F x=T.fix b x)(h:∀ F:uX d.ps→T (Uj d.rs),zT P f ⟨d.ps,d.rs,F⟩→zT P f ⟨d.ps,d.rs,b F⟩):zT P f d:=by
 have hN:∀ m,zT P f ⟨d.ps,d.rs,T.KU b m⟩:=by
  intro m
  induction m with
  | zero=>intro κ x zM y _ hy; exact hy.elim
  | succ m ih=>exact h _ ih
 intro κ x zM y xh hy hI ha
 rw[hF,T.dM]at hy
 obtain⟨m,hm⟩:=hy
 exact hN m κ x zM y xh (hm m (Nat.le_refl _)) hI ha
theorem rC{fr:Fr}:∀ {n i:Nat} {ds:List D},BR fr n i=some ds→ds.length=n∧∀ j d,ds[j]? = some d→fr.get (i+j)=some d
 | 0,i,ds,h=>by cases h; exact⟨rfl,fun j d hj=>by simp at hj⟩
 | n+1,i,ds,h=>by
  simp only[BR]at h
  split at h
  ·rename_i d hd
   split at h
   ·rename_i r hr
    cases h
    obtain⟨h1,h2⟩:=rC hr
    refine⟨by simp[h1],fun j e hj => ?_⟩
    cases j with
    | zero=>simp at hj; subst hj; exact hd
    | succ j=>have:=h2 j e (by simpa using hj); rw[show i+(j+1)=i+1+j by omega]; exact this
   ·cases h
  ·cases h
theorem RU(hm:(vy P xid tab ro).P.follows .mixedOrders=true)(hT:jI P tab){f:Nat}{fn:Func}{code:Code}(hf:P.funcs[f]? = some fn)(hb:fn.body=some code)
  (hn:(fn.name == "runtime.NumGoroutine")=false) (hL:vB P fn.ntmps H code) {d:js} (h:∀ x,Gf (vy P xid tab ro) tab H fn code d x=d.F x):xB P f d:=by
 intro κ x zM y xh hy hI hlen Ie
 rw[← h]at hy
 unfold Gf at hy
 cases hle:Nat.ble d.ks.length fn.ntmps&&Nat.ble d.sh.bs.length d.out.bs.length with
 | false=>rw[hle]at hy; exact hy.elim
 | true =>
  rw[hle,cond_true]at hy
  simp only[Bool.and_eq_true]at hle
  have FP:=Nat.le_of_ble_eq_true hle.1
  have El:=Nat.le_of_ble_eq_true hle.2
  refine .inl ⟨wx hf hn (by rw[hb]; rfl) κ.w,calls_of_wp hf hb ?_⟩
  have hR:Rel κ fn.ntmps (d.sh.fr x).get { tmps:=zM.toArray++Array.replicate (fn.ntmps-zM.toArray.size) undef,defers:=[] }:=by
   refine⟨by simp; omega,rfl,fun s e hs => ?_⟩
   obtain⟨v,h1,h2⟩:=Ie.get s e hs
   refine⟨v,?_,h2⟩
   have qh:=(Array.getElem?_eq_some_iff.1 h1).1
   rw[Array.getElem?_append_left qh]
   exact h1
  refine lE hm hT code hL (κ:=κ) (by rw[xh]; exact hy) hI hR (gx _) _ fun o cG a' κe e0 e1 e2 e3 e4 _ _ _ e6 => ?_
  have fin:(cG=.normal∨cG=.ret)→((yD (vy P xid tab ro) o.fr o.st fn.results.toList).bind fun ds=>bif Nat.beq ds.length d.nr then(d.out.un (w9 ds 0) o.st).bind fun y=>bif (yK d.nr (d.out.fr y)).isSome then T.ret y else .fail else .fail).leads y →
    bodyPost P fn (fun e w'=>∃ (κ':KS) (ds:List D),κ'.w=w'∧κ'.st=d.out.st y∧Inv κ'∧Ext κ κ'∧yK d.nr (d.out.fr y)=some ds∧vd κ' (.ret ds) e) cG a' κe.w:=by
   intro hex h2
   obtain⟨ds,g1,g2⟩:=T.ze.1 h2
   cases hnr:Nat.beq ds.length d.nr with
   | false=>rw[hnr]at g2; exact g2.elim
   | true =>
    rw[hnr,cond_true]at g2
    obtain⟨y',g5,g3⟩:=T.ze.1 g2
    cases hH:yK d.nr (d.out.fr y')with
    | none=>rw[hH]at g3; exact g3.elim
    | some Xc =>
     rw[hH]at g3
     have hyy:y'=y:=g3
     subst hyy
     rw[← e1]at g1 g5
     obtain⟨vs,k1,k2⟩:=fE e2 e4 g1
     have hRr:Rel κe vs.length (w9 ds 0).get { tmps:=vs.toArray,defers:=[] }:=by
      have:=ox (n:=vs.length) k2 (by rw[k2.1]; exact Nat.le_refl _)
      simpa[show(Xl.df:List Deferred)=[]from rfl]using this
     obtain⟨κ2,q1,q2,q3,q4,q5,_⟩:=d.out.oE (κ0:=κ) e3 e2 hRr (by rw[xh]; exact Nat.le_trans (yx.oj _ _) El) g5
     obtain⟨l1,l2⟩:=rC hH
     have R9:qG κ2 Xc vs:=by
      refine⟨by rw[l1,← k2.1]; exact(Nat.eq_of_beq_eq_true hnr).symm,fun i h1 h2 => ?_⟩
      have:=l2 i Xc[i] (List.getElem?_eq_getElem h1)
      rw[Nat.zero_add]at this
      obtain⟨v,r1,r2⟩:=q5.get i _ this
      have r1:vs.toArray[i]? = some v:=r1
      have:vs[i]? = some v:=by simpa using r1
      rw[List.getElem?_eq_getElem h2]at this
      cases this
      exact r2
     have lL:a'.defers=[]∧∃ v,(results fn a'.tmps).run P κe.w=.ok v κe.w∧∃ (κ':KS) (ds:List D),κ'.w=κe.w∧κ'.st=d.out.st y'∧Inv κ'∧Ext κ κ'∧yK d.nr (d.out.fr y')=some ds∧vd κ' (.ret ds) (.returned v) :=
      ⟨e4.defers,_,k1,κ2,Xc,q1,q2,q3,q4,hH,_,rfl,o7 R9⟩
     rcases hex with rfl | rfl
     ·exact lL
     ·exact lL
  cases hox:o.ex<;>rw[hox]at e0 e6<;>simp only at e0
  ·exact fin (.inl e6) e0
  ·exact e0.elim
  ·exact fin (.inr e6) e0
  ·exact e0.elim
theorem Vy{d:js}{f:Nat}(b:(d.sh.den→T d.out.den)→d.sh.den→T d.out.den)(hF:∀ x,d.F x=T.fix b x)(h:∀ F:d.sh.den→T d.out.den,xB P f ⟨d.ks,d.sh,d.jK,d.out,d.nr,F⟩→xB P f ⟨d.ks,d.sh,d.jK,d.out,d.nr,b F⟩):xB P f d:=by
 have hN:∀ m,xB P f ⟨d.ks,d.sh,d.jK,d.out,d.nr,T.KU b m⟩:=by
  intro m
  induction m with
  | zero=>intro κ x zM y _ hy; exact hy.elim
  | succ m ih=>exact h _ ih
 intro κ x zM y xh hy hI hl ha
 rw[hF,T.dM]at hy
 obtain⟨m,hm⟩:=hy
 exact hN m κ x zM y xh (hm m (Nat.le_refl _)) hI hl ha
theorem G3{κ κe:KS}{a':Act}{fn:Func}{o:YC}{nr:Nat}{out:yx}{y:out.den}(e1:κe.st=o.st)(e2:Inv κe)(e3:Ext κ κe)(e4:Rel κe fn.ntmps o.fr.get a')(hlen:κ.st.length≤out.bs.length)
  (h:((yD (vy P xid tab ro) o.fr o.st fn.results.toList).bind fun ds=>bif Nat.beq ds.length nr then(out.un (w9 ds 0) o.st).bind fun y=>bif (yK nr (out.fr y)).isSome then T.ret y else .fail else .fail).leads y) :
  ∃ v,(results fn a'.tmps).run P κe.w=.ok v κe.w∧∃ (κ':KS) (ds:List D),κ'.w=κe.w∧κ'.st=out.st y∧Inv κ'∧Ext κ κ'∧yK nr (out.fr y)=some ds∧vd κ' (.ret ds) (.returned v):=by
 obtain⟨ds,g1,g2⟩:=T.ze.1 h
 cases hnr:Nat.beq ds.length nr with
 | false=>rw[hnr]at g2; exact g2.elim
 | true =>
  rw[hnr,cond_true]at g2
  obtain⟨y',g5,g3⟩:=T.ze.1 g2
  cases hH:yK nr (out.fr y')with
  | none=>rw[hH]at g3; exact g3.elim
  | some Xc =>
   rw[hH]at g3
   have hyy:y'=y:=g3
   subst hyy
   rw[← e1]at g1 g5
   obtain⟨vs,k1,k2⟩:=fE e2 e4 g1
   have hRr:Rel κe vs.length (w9 ds 0).get { tmps:=vs.toArray,defers:=[] }:=by
    have:=ox (n:=vs.length) k2 (by rw[k2.1]; exact Nat.le_refl _)
    simpa[show(Xl.df:List Deferred)=[]from rfl]using this
   obtain⟨κ2,q1,q2,q3,q4,q5,_⟩:=out.oE (κ0:=κ) e3 e2 hRr hlen g5
   obtain⟨l1,l2⟩:=rC hH
   have R9:qG κ2 Xc vs:=by
    refine⟨by rw[l1,← k2.1]; exact(Nat.eq_of_beq_eq_true hnr).symm,fun i h1 h2 => ?_⟩
    have:=l2 i Xc[i] (List.getElem?_eq_getElem h1)
    rw[Nat.zero_add]at this
    obtain⟨v,r1,r2⟩:=q5.get i _ this
    have r1:vs.toArray[i]? = some v:=r1
    have:vs[i]? = some v:=by simpa using r1
    rw[List.getElem?_eq_getElem h2]at this
    cases this
    exact r2
   exact⟨_,k1,κ2,Xc,q1,q2,q3,q4,hH,_,rfl,o7 R9⟩
theorem RT{κ κe:KS}{jq:yx}{z:jq.den}{st:St}{t:Nat}{d:D}{u:Value}(e1:κe.st=st)(e2:Inv κe)(e3:Ext κ κe)(hlen:κ.st.length≤jq.bs.length)(hu:RD κe d u)
  (h:((jq.un [(0,some d)] st).bind fun z=>match(jq.fr z).get 0 with | some _=>T.ret z | none=>.fail).leads z) :
  ∃ (κ':KS) (p:D),κ'.w=κe.w∧κ'.st=jq.st z∧Inv κ'∧Ext κ κ'∧(jq.fr z).get 0=some p∧vd κ' (.jq (.iface t p)) (.panicked [{ v:=.iface t u,recovered:=false }]):=by
 obtain⟨z',g1,g2⟩:=T.ze.1 h
 split at g2
 ·rename_i p hp
  have Tl:z'=z:=g2
  subst Tl
  have W6:Rel κe 1 (Fr.get [(0,some d)]) { tmps := #[u],defers:=[] }:=by
   refine⟨rfl,rfl,fun s d' hd => ?_⟩
   simp only[Fr.get]at hd
   cases hb:Nat.beq 0 s with
   | true =>
    rw[hb,cond_true]at hd
    cases hd
    have:=Nat.eq_of_beq_eq_true hb
    subst this
    exact⟨u,rfl,hu⟩
   | false=>rw[hb,cond_false]at hd; cases hd
  rw[← e1]at g1
  obtain⟨κ2,q1,q2,q3,q4,q5,_⟩:=jq.oE (κ0:=κ) e3 e2 W6 hlen g1
  obtain⟨v',r1,r2⟩:=q5.get 0 p hp
  cases r1
  exact⟨κ2,p,q1,q2,q3,q4,hp,_,rfl,.iface t p _ r2⟩
 ·exact g2.elim
theorem RQ(hm:(vy P xid tab ro).P.follows .mixedOrders=true)(hT:jI P tab){f:Nat}{fn:Func}{code:Code}(hf:P.funcs[f]? = some fn)(hb:fn.body=some code)
  (hn:(fn.name == "runtime.NumGoroutine")=false) (hL:vB P fn.ntmps H code) {d:cJ} (h:∀ x,Yj (vy P xid tab ro) tab H fn code d x=d.F x):jm P f d:=by
 intro κ x zM y xh hy hI hlen Ie
 rw[← h]at hy
 unfold Yj at hy
 cases hle:Nat.ble d.ks.length fn.ntmps&&Nat.ble d.sh.bs.length d.out.bs.length&&Nat.ble d.sh.bs.length d.jq.bs.length with
 | false=>rw[hle]at hy; exact hy.elim
 | true =>
  rw[hle,cond_true]at hy
  simp only[Bool.and_eq_true]at hle
  have FP:=Nat.le_of_ble_eq_true hle.1.1
  have El:=Nat.le_of_ble_eq_true hle.1.2
  have z3R:=Nat.le_of_ble_eq_true hle.2
  refine .inl ⟨wx hf hn (by rw[hb]; rfl) κ.w,calls_of_wp hf hb ?_⟩
  have hR:Rel κ fn.ntmps (d.sh.fr x).get { tmps:=zM.toArray++Array.replicate (fn.ntmps-zM.toArray.size) undef,defers:=[] }:=by
   refine⟨by simp; omega,rfl,fun s e hs => ?_⟩
   obtain⟨v,h1,h2⟩:=Ie.get s e hs
   refine⟨v,?_,h2⟩
   have qh:=(Array.getElem?_eq_some_iff.1 h1).1
   rw[Array.getElem?_append_left qh]
   exact h1
  refine lE hm hT code hL (κ:=κ) (by rw[xh]; exact hy) hI hR (gx _) _ fun o cG a' κe e0 e1 e2 e3 e4 _ _ _ e6 => ?_
  have fin:(cG=.normal∨cG=.ret)→((yD (vy P xid tab ro) o.fr o.st fn.results.toList).bind fun ds=>bif Nat.beq ds.length d.nr then(d.out.un (w9 ds 0) o.st).bind fun y=>bif (yK d.nr (d.out.fr y)).isSome then T.ret (Sum.inl y:d.out.den⊕d.jq.den)else .fail else .fail).leads y →
    bodyPost P fn (fun e w'=>∃ κ':KS,κ'.w=w'∧Inv κ'∧Ext κ κ'∧((∃ (y':d.out.den) (ds:List D),y=.inl y'∧κ'.st=d.out.st y'∧yK d.nr (d.out.fr y')=some ds∧vd κ' (.ret ds) e) ∨
     ∃ (z:d.jq.den) (p:D),y=.inr z∧κ'.st=d.jq.st z∧(d.jq.fr z).get 0=some p∧vd κ' (.jq (.iface d.pt p)) e)) cG a' κe.w:=by
   intro hex h2
   have:∃ y',y=.inl y'∧((yD (vy P xid tab ro) o.fr o.st fn.results.toList).bind fun ds=>bif Nat.beq ds.length d.nr then(d.out.un (w9 ds 0) o.st).bind fun y=>bif (yK d.nr (d.out.fr y)).isSome then T.ret y else .fail else .fail).leads y':=by
    obtain⟨ds,g1,g2⟩:=T.ze.1 h2
    cases hnr:Nat.beq ds.length d.nr with
    | false=>rw[hnr]at g2; exact g2.elim
    | true =>
     rw[hnr,cond_true]at g2
     obtain⟨y',g5,g3⟩:=T.ze.1 g2
     cases hH:yK d.nr (d.out.fr y')with
     | none=>rw[hH]at g3; exact g3.elim
     | some Xc =>
      rw[hH]at g3
      have g3:Sum.inl y'=y:=g3
      refine⟨y',g3.symm,T.ze.2 ⟨ds,g1,?_⟩⟩
      rw[hnr,cond_true]
      refine T.ze.2 ⟨y',g5,?_⟩
      rw[hH]; rfl
   obtain⟨y',rfl,Lk⟩:=this
   obtain⟨v,k1,κ',ds,q1,q2,q3,q4,q5,q6⟩:=G3 e1 e2 e3 e4 (by rw[xh]; exact Nat.le_trans (yx.oj _ _) El) Lk
   have lL:a'.defers=[]∧∃ v,(results fn a'.tmps).run P κe.w=.ok v κe.w∧∃ κ':KS,κ'.w=κe.w∧Inv κ'∧Ext κ κ'∧((∃ (y'':d.out.den) (ds:List D),(Sum.inl y':d.out.den⊕d.jq.den)=.inl y''∧κ'.st=d.out.st y''∧yK d.nr (d.out.fr y'')=some ds∧vd κ' (.ret ds) (.returned v)) ∨
     ∃ (z:d.jq.den) (p:D),(Sum.inl y':d.out.den⊕d.jq.den)=.inr z∧κ'.st=d.jq.st z∧(d.jq.fr z).get 0=some p∧vd κ' (.jq (.iface d.pt p)) (.returned v)) :=
    ⟨e4.defers,v,k1,κ',q1,q3,q4,.inl ⟨y',ds,rfl,q2,q5,q6⟩⟩
   rcases hex with rfl | rfl
   ·exact lL
   ·exact lL
  cases hox:o.ex<;>rw[hox]at e0 e6<;>simp only at e0
  ·exact fin (.inl e6) e0
  ·exact e0.elim
  ·exact fin (.inr e6) e0
  ·rename_i p
   cases p<;>simp only at e0<;>first | exact e0.elim | skip
   rename_i t v
   cases ht:Nat.beq t d.pt with
   | false=>rw[ht]at e0; exact e0.elim
   | true =>
    rw[ht,cond_true]at e0
    have:=Nat.eq_of_beq_eq_true ht
    subst this
    obtain⟨u,rfl,hv⟩:=e6
    cases hv with
    | iface _ _ u hu =>
     have:∃ z,y=.inr z∧((d.jq.un [(0,some v)] o.st).bind fun z=>match(d.jq.fr z).get 0 with | some _=>T.ret z | none=>.fail).leads z:=by
      obtain⟨z,g1,g2⟩:=T.ze.1 e0
      split at g2
      ·rename_i p hp
       have g2:Sum.inr z=y:=g2
       refine⟨z,g2.symm,T.ze.2 ⟨z,g1,?_⟩⟩
       rw[hp]; rfl
      ·exact g2.elim
     obtain⟨z,rfl,hz2⟩:=this
     obtain⟨κ',p,q1,q2,q3,q4,q5,q6⟩:=RT (t:=d.pt) e1 e2 e3 (by rw[xh]; exact Nat.le_trans (yx.oj _ _) z3R) hu hz2
     exact⟨e4.defers,κ',q1,q3,q4,.inr ⟨z,p,rfl,q2,q5,q6⟩⟩
theorem Bs{d:cJ}{f:Nat}(b:(d.sh.den→T (d.out.den⊕d.jq.den))→d.sh.den→T (d.out.den⊕d.jq.den))(hF:∀ x,d.F x=T.fix b x)(h:∀ F:d.sh.den→T (d.out.den⊕d.jq.den),jm P f ⟨d.ks,d.sh,d.jK,d.out,d.nr,d.pt,d.jq,F⟩→jm P f ⟨d.ks,d.sh,d.jK,d.out,d.nr,d.pt,d.jq,b F⟩):jm P f d:=by
 have hN:∀ m,jm P f ⟨d.ks,d.sh,d.jK,d.out,d.nr,d.pt,d.jq,T.KU b m⟩:=by
  intro m
  induction m with
  | zero=>intro κ x zM y _ hy; exact hy.elim
  | succ m ih=>exact h _ ih
 intro κ x zM y xh hy hI hl ha
 rw[hF,T.dM]at hy
 obtain⟨m,hm⟩:=hy
 exact hN m κ x zM y xh (hm m (Nat.le_refl _)) hI hl ha
end
noncomputable def o0:Nat→Code→Option Code
 | k,.block id (.loop b)=>if k=id then some b else o0 k b
 | k,.seq a b=>match o0 k a with | some x=>some x | none=>o0 k b
 | k,.cond _ a b=>match o0 k a with | some x=>some x | none=>o0 k b
 | k,.block _ a=>o0 k a
 | _,_=>none
def VR(P:Program)(n:Nat)(H:Hints):List (Nat×Code)→Prop
 | []=>True
 | p::r=>(∀ l,H.loop p.1=some l→pH P n l p.2)∧VR P n H r
theorem zB{P:Program}{n:Nat}{H:Hints}:VR P n H []:=trivial
theorem qq{P:Program}{n:Nat}{H:Hints}{id:Nat}{b:Code}{r:List (Nat×Code)}{l:zZ}(hl:H.loop id=some l)(h:pH P n l b)(t:VR P n H r):VR P n H ((id,b)::r) :=
 ⟨fun l' Cb=>(Option.some.inj (hl.symm.trans Cb))▸h,t⟩
theorem pG{P:Program}{n:Nat}{H:Hints}{code:Code}{L:List (Nat×Code)}(h:qY code=L)(ha:VR P n H L):vB P n H code:=by
 intro p hp
 rw[h]at hp
 clear h
 induction L with
 | nil=>cases hp
 | cons q r ih =>
  rcases List.mem_cons.1 hp with rfl | hp
  ·exact ha.1
  ·exact ih ha.2 hp
end Go.AM
namespace Go.AM
set_option linter.unusedSectionVars false
variable [vP]
open Go.RowKit Go.ChangeShapes
def Yn:(τs:List Ty)→XA τs→uX (τs.map .ty)
 | [],_=>()
 | [_],x=>x.1
 | _::σ::r,x=>(x.1,Yn (σ::r) x.2)
theorem XV:∀ (τs:List Ty) (x:XA τs),sj (τs.map .ty) (Yn τs x)=OO τs x
 | [],_=>rfl
 | [_],_=>rfl
 | τ::σ::r,x=>congrArg (D.zi τ x.1 :: ·) (XV (σ::r) x.2)
section
variable {H:Type} {enc:TypeId×Value→H} {P:Program} {xid m n:Nat}
theorem Pp{f:Nat}{fn:Func}(τs:List Ty){F:uX (τs.map .ty)→T (Uj [.bool])}(hS:zT P f ⟨τs.map .ty,[.bool],F⟩)(hf:P.funcs[f]? = some fn)(hbd:fn.body.isNone=false) (Sh:(fn.name == "runtime.NumGoroutine")=false)
  (hl:laidOutB P=true) (xid m n:Nat) (hts:oB P fn.params.toList=true) (hτ:fn.params.toList.map (WS P xid n)=τs.map some) (hx:Gs P xid m=true)
  {bt:TypeId} (hr:fn.resultTypes = #[bt]) (hbt:P.underlying bt=some .bool) {s:ChangeSpec} (hv:s.vars=[]) (hs:∀ ds:List (DataW H),ds.length=τs.length→s.fn H ds={ results:=[.lit (.bool true)],args:=ds })
  (B:Cn H) {lim:Nat} (law:∀ x:XA τs,Tf τs x→S7 τs x≤lim→(F (Yn τs x)).run=some true)
  {fresh handsOn:Bool} {W:World} {base:Nat} {args:Array Value} {ds gs:List (DataW H)} {before:List MemPlace}
  (Xa:∀ (j:Nat) t v,fn.params[j]? = some t→args[j]? = some v→Value.okWide P W .any base t v)
  (hW:DataW.Whole enc P fn.params.toList s.vars false W args.toList ds gs before) (hk:B.bs (ds++gs)≤lim) (hG:nY W fun k=>k<W.heap.size) :
  Calls P f args W fun e W'=>∃ v,e=.returned v∧s.post enc P fn false fresh handsOn false W args v W':=by
 refine DI (Ux.snd hS) hf hbd Sh hl xid m n τs hts hτ hx hr hbt hv hs B (fun x hw hb => ?_) Xa hW hk hG
 have h:=T.wg.1 (law x hw hb)
 show(Ux.S _ (OO τs x) []).leads _
 rw[← XV τs x]
 exact T.ze.2 ⟨Yn τs x,VY [] _ _,T.ze.2 ⟨true,h,rfl⟩⟩
end
end Go.AM
namespace Go.AM
set_option linter.unusedSectionVars false
variable [vP]
open Go.RowKit
theorem tM{P:Program}{g:Nat}{fn:Func}{args:Array Value}(hf:P.funcs[g]? = some fn) (hn:(fn.name == "runtime.NumGoroutine")=false) (hb:fn.body.isNone=false) (w:World) :
  (callFunc g args).run P w=.ok (.enter g args) w:=wx hf hn hb w
def KS.grown(κ:KS)(w':World):KS:={ κ with w:=w',ok:=fun k=>κ.ok k∨(κ.w.heap.size≤k∧k<w'.heap.size) }
theorem gu{P:Program}{g:Nat}{fn:Func}{d:Ux}(hf:P.funcs[g]? = some fn) (hn:(fn.name == "runtime.NumGoroutine")=false) (hb:fn.body.isNone=false)
  (H:∀ (κ:KS) (x:uX d.ps) (zM:List Value) (y:Uj d.rs),(d.F x).leads y→Inv κ→qG κ (sj d.ps x) zM →
   Calls P g zM.toArray κ.w fun e w'=>Below κ.w.heap.size κ.w w'∧(Ext κ (κ.grown w')→vd (κ.grown w') (.ret (pR d.rs y)) e)):zT P g d:=by
 intro κ x zM y xh hy hI ha
 refine .inl ⟨tM hf hn hb κ.w,(H κ x zM y hy hI ha).mono ?_⟩
 rintro e w' ⟨hB,he⟩
 have sP:κ.ph=[]:=List.eq_nil_of_length_eq_zero (by rw[hI.len,xh]; rfl)
 have hx:Ext κ (κ.grown w'):=⟨hB.os,hB.tape,hB.output,hB.size,fun k hk=>⟨.inl hk,hB.block k (hI.kY k hk)⟩,fun k hk=>hk.elim .inl fun h=>.inr (.inl h.1),fun _ _ _ h=>.inl h,fun b d h=>by rw[xh]at h; simp at h,
   fun b v0 e xs h=>by rw[xh]at h; simp at h,fun b h=>by rw[xh]at h; simp at h,Nat.le_refl _,fun k hk _=>hB.block k hk⟩
 refine⟨κ.grown w',rfl,xh,⟨hI.len,fun k hk=>hk.elim (fun h=>Nat.lt_of_lt_of_le (hI.kY k h) hB.size) (·.2),fun b blk n hb => ?_,hI.inj,fun b x hb => ?_,hI.gl.mono hx.same⟩,hx,he hx⟩
 ·have:κ.ph[b]? = some (some (blk,n)):=hb
  rw[sP]at this; simp at this
 ·have:κ.st[b]? = some x:=hb
  rw[xh]at this; simp at this
theorem JU(w:World)(k:Nat):RowKit.Below w.heap.size w (w.drewN k):=⟨rfl,rfl,rfl,Nat.le_refl _,fun _ _=>rfl⟩
theorem Q8(w:World):RowKit.Below w.heap.size w w:=⟨rfl,rfl,rfl,Nat.le_refl _,fun _ _=>rfl⟩
theorem K1(w:World)(o:Obj):RowKit.Below w.heap.size w (w.alloc o):=by
 refine⟨rfl,rfl,rfl,?_,fun b hb => ?_⟩
 ·show w.heap.size≤(w.heap.push o).size
  rw[Array.size_push]; omega
 ·show(w.heap.push o)[b]? = w.heap[b]?
  rw[Array.getElem?_push,if_neg (by omega)]
theorem Mq(s sub:zh):Lib.index s sub=tL s sub:=by
 induction s with
 | nil=>rfl
 | cons b l ih=>simp only[Lib.index,tL,ih]
theorem LS(s:zh)(c:UInt8):Lib.indexByte s c=iw s c:=by
 induction s with
 | nil=>rfl
 | cons b l ih=>simp only[Lib.indexByte,iw,ih]
theorem F3(s sep:zh):Lib.cut s sep=oH s sep:=by
 unfold Lib.cut oH
 rw[Mq]
theorem HE{w:World}{ok:Nat→Prop}(f:Nat→Bool):∀ (n k:Nat),Rc w ok (hO .bool n) (Dh (e:=.bool) f n k) ((List.range' k n).map fun j=>Value.bool (f j))
 | 0,_=>.nil
 | n+1,k=>by
  rw[List.range'_succ,List.map_cons]
  exact Rc.cons .bool (hO .bool n) (f k) (Dh (e:=.bool) f n (k+1)) [Value.bool (f k)] _ (.bool _) (HE f n (k+1))
theorem I2{κ:KS}(s:zh):RD κ (.zi (hO .bool 256) (gV s)) (.agg (Lib.setCells s)):=by
 have h:=RD.zi (κ:=κ) (hO .bool 256) (gV s) _ (HE (fun j=>s.contains (UInt8.ofNat j)) 256 0)
 have e:pk (hO .bool 256) ((List.range' 0 256).map fun j=>Value.bool (s.contains (UInt8.ofNat j)))=.agg (Lib.setCells s):=by
  unfold pk
  rw[show(hO .bool 256).isAgg=true from rfl,Lib.setCells_eq]
  show Value.agg (List.toArray _)=_
  congr 1
  apply Array.ext'
  rw[Array.toList_map,Array.toList_range,List.range_eq_range']
 rwa [e]at h
theorem RD.z0U{κ:KS}{a b:D}{u v:Value}(h:RD κ a u)(k:RD κ b v):RD κ (.jY [a,b]) (.tuple #[u,v]):=by
 have:=qG.cons h (qG.cons k qG.nil)
 exact .jY [a,b] [u,v] this.1 this.2
theorem RD.z4K{κ:KS}{a b c:D}{u v z:Value}(h:RD κ a u)(k:RD κ b v)(l:RD κ c z):RD κ (.jY [a,b,c]) (.tuple #[u,v,z]):=by
 have:=qG.cons h (qG.cons k (qG.cons l qG.nil))
 exact .jY [a,b,c] [u,v,z] this.1 this.2
theorem B5(l:List UInt8):∀ c,Lib.repeatL l c=j2 l c
 | 0=>rfl
 | c+1=>by simp[Lib.repeatL,j2,B5 l c]
end Go.AM
namespace Go.AM
set_option linter.unusedSectionVars false
variable [vP]
open Go.RowKit
def DU(P:Program):L8:=fun g args w R=>(callFunc g args).run P w=.ok (.enter g args) w∧CallsD P g args .returning w fun e u' w'=>settle u'=.returning∧R e w'
def DV(P:Program)(t:Nat):L8:=fun g args w R=>∀ (as:List Value) (v:Value),args=(as++[v]).toArray→(callFunc g as.toArray).run P w=.ok (.enter g as.toArray) w ∧
 CallsD P g as.toArray (.panicking [{ v:=.iface t v,recovered:=false }]) w fun e u' w'=>settle u'=.returning∧R e w'
theorem DU.mono{P:Program}{g:Nat}{a:Array Value}{w:World}{R R':Ending→World→Prop}(h:DU P g a w R)(hr:∀ e w',R e w'→R' e w'):DU P g a w R' :=
 ⟨h.1,h.2.mono fun e u' w' hh=>⟨hh.1,hr e w' hh.2⟩⟩
theorem DV.mono{P:Program}{t g:Nat}{a:Array Value}{w:World}{R R':Ending→World→Prop}(h:DV P t g a w R)(hr:∀ e w',R e w'→R' e w'):DV P t g a w R' :=
 fun as v e=>⟨(h as v e).1,(h as v e).2.mono fun e u' w' hh=>⟨hh.1,hr e w' hh.2⟩⟩
def ZL(ops:Array Oper):Option (Nat×Nat):=match ops.toList with
 | [o1,o2]=>match o1.dst,o1.op,o1.guard with
  | some t1,.call ⟨.builtin .recover,_,_⟩,none=>match o2.dst,o2.op,o2.guard with
   | some t2,.assign (.tmp t),none=>bif Nat.beq t t1 then some (t1,t2)else none
   | _,_,_=>none
  | _,_,_=>none
 | _=>none
def z0g(t:Option Nat)(n:Nat):Nat:=match t with | none=>n | some _=>n+1
def R3(t:Option Nat)(n:Nat)(fr:Fr):Option D:=match t with
 | none=>some .qQ
 | some t=>match fr.get n with | some p=>some (.iface t p) | none=>none
section
variable (c:Ctx) (tab:b8)
def tA(fn:Func)(out:yx)(nr:Nat)(fr:Fr)(st:St):T out.den :=
 (yD c fr st fn.results.toList).bind fun ds=>bif Nat.beq ds.length nr then(out.un (w9 ds 0) st).bind fun y=>bif (yK nr (out.fr y)).isSome then .ret y else .fail else .fail
def S6(H:Hints)(fn:Func)(ops:Array Oper)(b:Code)(d:js)(n:Nat)(t:Option Nat)(x:d.sh.den):T d.out.den :=
 bif Nat.ble n fn.ntmps&&Nat.ble d.sh.bs.length d.out.bs.length&&Nat.beq d.ks.length (z0g t n)then match ZL ops,R3 t n (d.sh.fr x)with
  | some (t1,t2),some rc=>bif Nat.blt t1 fn.ntmps&&Nat.blt t2 fn.ntmps then
    oo c tab fn.ntmps H b ((t2,some rc)::(t1,some rc)::(n,none)::d.sh.fr x) [] (d.sh.st x) fun o=>match o.ex with
     | .normal=>tA c fn d.out d.nr o.fr o.st
     | .ret=>tA c fn d.out d.nr o.fr o.st
     | _=>.fail
   else .fail
  | _,_=>.fail
 else .fail
def rP:List Oper→Option (List Oper×Operand×List Operand)
 | []=>none
 | [o]=>match o.op,o.guard,o.dst with
  | .defer ⟨.value f,args,_⟩,none,none=>some ([],f,args.toList)
  | _,_,_=>none
 | o::r=>match rP r with | some (l,z)=>some (o::l,z) | none=>none
structure Dfd where
 g:Nat
 d0:js
 pt:Nat
 d1:js
def Sf(n:Nat)(H:Hints)(h:Dfd)(fn:Func)(out:yx)(nr:Nat):Code→Fr→Kn→St→T out.den
 | .seq a b,fr,kn,st=>match opsOf a with
  | some ops=>match rP ops.toList with
   | some (pre,f,args)=>tT c tab n ops pre ⟨fr,kn,st,[],[]⟩ (fun s=>match vZ s.fr f,vR (args.map (vZ s.fr))with
     | some (.xg g caps),some l=>bif Nat.beq (kg g) h.g then
       oo c tab n H b s.fr s.kn s.st fun o=>match o.ex with
        | .normal=>h.d0.K (uK g l caps) o.st fun _ zu=>tA c fn out nr (o.fr++(gZ (zY b)++s.fr)) zu
        | .ret=>h.d0.K (uK g l caps) o.st fun _ zu=>tA c fn out nr (o.fr++(gZ (zY b)++s.fr)) zu
        | .jq (.iface t p)=>bif Nat.beq t h.pt then h.d1.K (uK g l caps++[p]) o.st fun _ zu=>tA c fn out nr (o.fr++(gZ (zY b)++s.fr)) zu else .fail
        | _=>.fail
      else .fail
     | _,_=>.fail) (fun _ _=>.fail)
   | none=>oo c tab n H a fr kn st fun r=>match r.ex with
    | .normal=>Sf n H h fn out nr b r.fr r.kn r.st
    | .ret=>tA c fn out nr r.fr r.st
    | _=>.fail
  | none=>oo c tab n H a fr kn st fun r=>match r.ex with
   | .normal=>Sf n H h fn out nr b r.fr r.kn r.st
   | .ret=>tA c fn out nr r.fr r.st
   | _=>.fail
 | _,_,_,_=>.fail
def Ee(H:Hints)(h:Dfd)(fn:Func)(code:Code)(d:js)(x:d.sh.den):T d.out.den :=
 bif Nat.ble d.ks.length fn.ntmps&&Nat.ble d.sh.bs.length d.out.bs.length then Sf c tab fn.ntmps H h fn d.out d.nr code (d.sh.fr x) [] (d.sh.st x)else .fail
end
section
variable {P:Program} {xid:Nat} {tab:b8} {ro:Nat→Bool} {n:Nat} {H:Hints}
theorem GR{ops:Array Oper}{t1 t2:Nat}(hr:ZL ops=some (t1,t2)){Q:Exit→Act→List Frame→World→Prop}{a:Act}{cs:List Frame}{w:World}{id:Nat}(h1:t1<a.tmps.size)
  (h:Q .normal ((a.put (some t1) ((recoverD cs).elim .nilIface (·.1))).put (some t2) ((recoverD cs).elim .nilIface (·.1))) ((recoverD cs).elim cs (·.2)) w):(Code.region id ops false).wpS P Q a cs w:=by
 unfold ZL at hr
 split at hr
 ·rename_i o1 o2 hops
  split at hr
  ·rename_i t1' args dG Hk D7 hg1
   split at hr
   ·rename_i t2' t L4 ID NM
    cases hb:Nat.beq t t1' with
    | false=>rw[hb]at hr; cases hr
    | true =>
     rw[hb,cond_true]at hr
     cases hr
     have:=Nat.eq_of_beq_eq_true hb
     subst this
     obtain⟨d1,op1,ty1,Ng,FZ,g1⟩:=o1
     obtain⟨d2,op2,WS,M0,S5,g2⟩:=o2
     simp only at Hk D7 hg1 L4 ID NM
     subst Hk D7 hg1 L4 ID NM
     have uj:ops.size=2:=by rw[← Array.length_toList,hops]; rfl
     have e0:ops[0]? = some ⟨some t,.call ⟨.builtin .recover,args,dG⟩,ty1,Ng,FZ,none⟩:=by rw[← Array.getElem?_toList,hops]; rfl
     have e1:ops[1]? = some ⟨some t2,.assign (.tmp t),WS,M0,S5,none⟩:=by rw[← Array.getElem?_toList,hops]; rfl
     have RB:List.range 2=[0,1]:=rfl
     have ev1:∀ v,((a.put (some t) v).eval (.tmp t))=v:=fun v=>by simp[Act.eval,Act.put,Array.getD_eq_getD_getElem?,h1]
     refine wpS_region ?_
     rw[uj,RB]
     simp only[wpOpsS,e0,e1,Region.wanted,if_true]
     have hx:∀ ρ,(execOp ρ ⟨some t,.call ⟨.builtin .recover,args,dG⟩,ty1,Ng,FZ,none⟩).run P w=.ok .recover w:=fun ρ=>by simp[execOp,resolve,invoke,builtin]
     rw[hx]
     simp only
     cases J1:recoverD cs with
     | none =>
      rw[J1]at h
      simp only[Option.elim]at h
      simp only[execOp,Sem.run_pure,Oper.upon,ev1]
      exact h
     | some z =>
      obtain⟨v,cg⟩:=z
      rw[J1]at h
      simp only[Option.elim]at h
      simp only[execOp,Sem.run_pure,Oper.upon,ev1]
      exact h
   ·cases hr
  ·cases hr
 ·cases hr
theorem F5(hm:(vy P xid tab ro).P.follows .mixedOrders=true)(hT:jI P tab){f:Nat}{fn:Func}{id:Nat}{ops:Array Oper}{b:Code}(hf:P.funcs[f]? = some fn)(hb:fn.body=some (.seq (.region id ops false) b))
  (hL:vB P fn.ntmps H b) {d:js} {k:Nat} {t:Option Nat} {x:d.sh.den} {y:d.out.den} (hy:(S6 (vy P xid tab ro) tab H fn ops b d k t x).leads y) {κ:KS} (xh:κ.st=d.sh.st x) (hI:Inv κ)
  {as:List Value} (hk:as.length=k) {u:FrameMode} {rv:Value} (hrv:∀ rc,R3 t k (d.sh.fr x)=some rc→RD κ rc rv)
  (hu:∀ (c₀:Frame) (cs:List Frame),c₀.mode=u→(recoverD (c₀::cs)).elim .nilIface (·.1)=rv∧∃ u',(recoverD (c₀::cs)).elim (c₀::cs) (·.2)={ c₀ with mode:=u' }::cs∧settle u'=.returning)
  (hR:∀ s dd,(d.sh.fr x).get s=some dd→s≠k→∃ v,as[s]? = some v∧RD κ dd v) :
  CallsD P f as.toArray u κ.w fun e u' w'=>settle u'=.returning∧∃ (κ':KS) (ds:List D),κ'.w=w'∧κ'.st=d.out.st y∧Inv κ'∧Ext κ κ'∧yK d.nr (d.out.fr y)=some ds∧vd κ' (.ret ds) e:=by
 unfold S6 at hy
 cases hc:Nat.ble k fn.ntmps&&Nat.ble d.sh.bs.length d.out.bs.length&&Nat.beq d.ks.length (z0g t k)with
 | false=>rw[hc]at hy; exact False.elim hy
 | true =>
 rw[hc,cond_true]at hy
 simp only[Bool.and_eq_true]at hc
 have Ce:=Nat.le_of_ble_eq_true hc.1.1
 have Da:=Nat.le_of_ble_eq_true hc.1.2
 split at hy
 ·rename_i t1 t2 rc hrs Y9
  cases Yb:Nat.blt t1 fn.ntmps&&Nat.blt t2 fn.ntmps with
  | false=>rw[Yb]at hy; exact False.elim hy
  | true =>
  rw[Yb,cond_true]at hy
  simp only[Bool.and_eq_true]at Yb
  have z1c:=hrv rc Y9
  refine callsD_of_wpS hf hb fun c₀ cs hc₀ => ?_
  obtain⟨hv,u',Y8,yy⟩:=hu c₀ cs hc₀
  have h1:t1<fn.ntmps:=Nat.le_of_ble_eq_true Yb.1
  have h2:t2<fn.ntmps:=Nat.le_of_ble_eq_true Yb.2
  have E3:as.length+(fn.ntmps-as.length)=fn.ntmps:=by omega
  let a0:Act:={ tmps:=as.toArray++Array.replicate (fn.ntmps-as.toArray.size) undef,defers:=[] }
  have Ie:Rel κ fn.ntmps (Fr.get ((k,none)::d.sh.fr x)) a0:=by
   refine⟨by simp[a0]; omega,rfl,fun s dd hs => ?_⟩
   simp only[Fr.get]at hs
   cases hks:Nat.beq k s with
   | true=>rw[hks,cond_true]at hs; cases hs
   | false =>
    rw[hks,cond_false]at hs
    obtain⟨v,g1,g2⟩:=hR s dd hs (fun e=>by subst e; simp at hks)
    refine⟨v,?_,g2⟩
    have qh:=(List.getElem?_eq_some_iff.1 g1).1
    show(as.toArray++Array.replicate (fn.ntmps-as.toArray.size) undef)[s]? = some v
    rw[Array.getElem?_append_left (by simpa using qh)]
    simpa using g1
  have W6:Rel κ fn.ntmps (Fr.get ((t2,some rc)::(t1,some rc)::(k,none)::d.sh.fr x)) ((a0.put (some t1) rv).put (some t2) rv):=by
   have g1:=Ie.put (dst:=some t1) (d:=some rc) (v:=rv) Yb.1 (fun d' j9=>by cases j9; exact z1c)
   have g2:=g1.put (dst:=some t2) (d:=some rc) (v:=rv) Yb.2 (fun d' j9=>by cases j9; exact z1c)
   have e1:=fh ((k,none)::d.sh.fr x) (some t1) (some rc)
   have e2:=fh ((t1,some rc)::(k,none)::d.sh.fr x) (some t2) (some rc)
   rw[← e1]at g2
   have g3:Rel κ fn.ntmps (ja (Fr.get ((t1,some rc)::(k,none)::d.sh.fr x)) (some t2) (some rc)) ((a0.put (some t1) rv).put (some t2) rv):=g2
   rw[← e2]at g3
   exact g3
  refine wpS_seq (GR hrs (by simp; omega) ?_)
  rw[hv,Y8]
  show b.wpS P _ _ _ _
  refine wpS_of_wp ?_
  rw[← xh]at hy
  refine lE hm hT b hL (κ:=κ) hy hI W6 (gx _) _ fun o cG a' κe e0 e1 e2 e3 e4 _ _ _ e6 => ?_
  have fin:(cG=.normal∨cG=.ret)→(tA (vy P xid tab ro) fn d.out d.nr o.fr o.st).leads y →
    bodyPostS P fn c₀ cs (fun e u' w'=>settle u'=.returning∧∃ (κ':KS) (ds:List D),κ'.w=w'∧κ'.st=d.out.st y∧Inv κ'∧Ext κ κ'∧yK d.nr (d.out.fr y)=some ds∧vd κ' (.ret ds) e) cG a' ({ c₀ with mode:=u' }::cs) κe.w:=by
   intro hex Px
   obtain⟨v,k1,κ',ds,q1,q2,q3,q4,q5,q6⟩:=G3 e1 e2 e3 e4 (by rw[xh]; exact Nat.le_trans (yx.oj _ _) Da) Px
   have lL:a'.defers=[]∧∃ u'',({ c₀ with mode:=u' }::cs:List Frame)={ c₀ with mode:=u'' }::cs∧∃ v,(results fn a'.tmps).run P κe.w=.ok v κe.w∧settle u''=.returning ∧
     ∃ (κ':KS) (ds:List D),κ'.w=κe.w∧κ'.st=d.out.st y∧Inv κ'∧Ext κ κ'∧yK d.nr (d.out.fr y)=some ds∧vd κ' (.ret ds) (.returned v) :=
    ⟨e4.defers,u',rfl,v,k1,yy,κ',ds,q1,q2,q3,q4,q5,q6⟩
   rcases hex with rfl | rfl
   ·exact lL
   ·exact lL
  cases hox:o.ex<;>rw[hox]at e0 e6<;>simp only at e0
  ·exact fin (.inl e6) e0
  ·exact False.elim e0
  ·exact fin (.inr e6) e0
  ·exact False.elim e0
 ·exact False.elim hy
theorem O4(hm:(vy P xid tab ro).P.follows .mixedOrders=true)(hT:jI P tab){f:Nat}{fn:Func}{id:Nat}{ops:Array Oper}{b:Code}(hf:P.funcs[f]? = some fn)(hb:fn.body=some (.seq (.region id ops false) b))
  (hn:(fn.name == "runtime.NumGoroutine")=false) (hL:vB P fn.ntmps H b) {d:js} (h:∀ x,S6 (vy P xid tab ro) tab H fn ops b d d.ks.length none x=d.F x):jZ (DU P) f d:=by
 intro κ x zM y xh hy hI hlen hR
 rw[← h]at hy
 refine⟨wx hf hn (by rw[hb]; rfl) κ.w,F5 hm hT hf hb hL hy xh hI hlen (u:=.returning) (rv:=.nilIface) (fun rc Y9=>by cases Y9; exact .qQ) (fun c₀ cs hc => ?_) fun s dd hs _ => ?_⟩
 ·have:recoverD (c₀::cs)=none:=by simp only[recoverD,hc]
  rw[this]
  exact⟨rfl,.returning,by rw[← hc]; rfl,rfl⟩
 ·obtain⟨v,h1,h2⟩:=hR.get s dd hs
  exact⟨v,by simpa using h1,h2⟩
theorem LF(hm:(vy P xid tab ro).P.follows .mixedOrders=true)(hT:jI P tab){f:Nat}{fn:Func}{id:Nat}{ops:Array Oper}{b:Code}(hf:P.funcs[f]? = some fn)(hb:fn.body=some (.seq (.region id ops false) b))
  (hn:(fn.name == "runtime.NumGoroutine")=false) (hL:vB P fn.ntmps H b) {d:js} {k t:Nat} (hk:d.ks.length=k+1) (h:∀ x,S6 (vy P xid tab ro) tab H fn ops b d k (some t) x=d.F x):jZ (DV P t) f d:=by
 intro κ x zM y xh hy hI hlen hR as v hc
 have hc:zM=as++[v]:=by simpa using hc
 subst hc
 rw[← h]at hy
 have Wz:as.length=k:=by simp at hlen; omega
 refine⟨wx hf hn (by rw[hb]; rfl) κ.w,F5 hm hT hf hb hL hy xh hI Wz (rv:=.iface t v) (fun rc Y9 => ?_) (fun c₀ cs hc => ?_) fun s dd hs EH => ?_⟩
 ·simp only[R3]at Y9
  split at Y9
  ·rename_i p hp
   cases Y9
   obtain⟨u,h1,h2⟩:=hR.get k p hp
   have:u=v:=by
    have h1:(as++[v]).toArray[k]? = some u:=h1
    simp[← Wz]at h1
    exact h1.symm
   subst this
   exact .iface t p u h2
  ·cases Y9
 ·have:recoverD (c₀::cs)=some (.iface t v,{ c₀ with mode:=.panicking [{ v:=.iface t v,recovered:=true }] }::cs):=by simp only[recoverD,hc]
  rw[this]
  exact⟨rfl,_,rfl,rfl⟩
 ·obtain⟨u,h1,h2⟩:=hR.get s dd hs
  refine⟨u,?_,h2⟩
  have h1:(as++[v]).toArray[s]? = some u:=h1
  have qh:=(Array.getElem?_eq_some_iff.1 h1).1
  simp at qh
  simp at h1
  rwa [List.getElem?_append_left (by omega)]at h1
theorem JY{p:Value}{g:Nat}{us vs:List Value}{w:World}(UG:p=ik g us):∃ (fv:Fn) (cap as:Array Value),(Deferred.ofValue p vs.toArray).run P w=.ok ⟨.fn fv cap,as⟩ w ∧
  (invoke (.fn fv cap) as).run P w=(callFunc (kg g) (uK g vs us).toArray).run P w∧∀ w',(invoke (.fn fv cap) as).run P w'=(callFunc (kg g) (uK g vs us).toArray).run P w':=by
 subst UG
 unfold ik kg uK
 cases hb:Nat.ble 1000000 g with
 | true =>
  have key:∀ w',(invoke (.fn (.func (g % 1000000)) #[]) (us.toArray++vs.toArray)).run P w'=(callFunc (g % 1000000) (us++vs).toArray).run P w':=fun w'=>by simp[invoke]
  exact⟨.func (g % 1000000),#[],us.toArray++vs.toArray,by simp[Deferred.ofValue],key w,key⟩
 | false =>
  have key:∀ w',(invoke (.fn (.func g) us.toArray) vs.toArray).run P w'=(callFunc g (vs++us).toArray).run P w':=fun w'=>by simp[invoke]
  exact⟨.func g,us.toArray,vs.toArray,by simp[Deferred.ofValue],key w,key⟩
theorem lR:∀ {l:List Oper} {pre:List Oper} {f:Operand} {args:List Operand},rP l=some (pre,f,args)→∃ o as dG,l=pre++[o]∧o.op=.defer ⟨.value f,as,dG⟩∧as.toList=args∧o.guard=none∧o.dst=none
 | [],pre,f,args,h=>by cases h
 | [o],pre,f,args,h=>by
  simp only[rP]at h
  split at h
  ·rename_i f' as dG h1 h2 h3
   cases h
   exact⟨o,as,dG,rfl,h1,rfl,h2,h3⟩
  ·cases h
 | o::p::r,pre,f,args,h=>by
  simp only[rP]at h
  split at h
  ·rename_i l z hz
   cases h
   obtain⟨o',as,dG,e,g1,g2,g3,g4⟩:=lR hz
   exact⟨o',as,dG,by rw[e]; rfl,g1,g2,g3,g4⟩
  ·cases h
theorem K3{c:Ctx}{κ:KS}{a:Act}{id:Nat}{ops:Array Oper}{pre:List Oper}{f:Operand}{args:List Operand}{fr:Fr}{kn:Kn}{s1:b4}{g:Nat}{caps l:List D}(hC:∀ g,Uu c.P g (c.fn g))(hI:Inv κ)(hR:Rel κ n fr.get a)(hk:wW kn fr.get)
  (hd:rP ops.toList=some (pre,f,args)) (xQ:(cS c n ops pre ⟨fr,kn,κ.st,[],[]⟩).leads s1) (hf:vZ s1.fr f=some (.xg g caps)) (hl:vR (args.map (vZ s1.fr))=some l) {Q:Exit→Act→World→Prop}
  (hQ:∀ (a':Act) (κ':KS) (fv:Fn) (cap as:Array Value) (zM:List Value),κ'.st=s1.st→Inv κ'→Ext κ κ'→Rel κ' n s1.fr.get a'→wW s1.kn s1.fr.get→c8 ops a a'→qG κ' (uK g l caps) zM →
   (∀ w',(invoke (.fn fv cap) as).run c.P w'=(callFunc (kg g) zM.toArray).run c.P w')→Q .normal { a' with defers:=⟨.fn fv cap,as⟩::a'.defers } κ'.w):(Code.region id ops false).wp c.P Q a κ.w:=by
 obtain⟨o,RY,dG,e,ho,bL,hg,ND⟩:=lR hd
 have VI:∀ j:Nat,ops[j]? = (pre++[o])[j]? := fun j=>by rw[← e]; simp
 obtain⟨ks,g1,g2,_⟩:=c9 pre 0 ⟨fr,kn,κ.st,[],[]⟩ s1 (fun j=>by
  by_cases hj:j<pre.length
  ·left; rw[Nat.zero_add,VI,List.getElem?_append_left hj]
  ·right; omega) hk xQ
 have uj:List.range ops.size=List.range' 0 pre.length++[pre.length]:=by
  have:ops.size=pre.length+1:=by rw[← Array.length_toList,e]; simp
  rw[this,List.range_eq_range',← List.range'_append_1,Nat.zero_add]; rfl
 refine wp_region ?_
 rw[uj]
 refine rI hC _ _ hI hR rfl g1 fun a' κ' e1 e2 e3 e4 e5 => ?_
 rw[wpOps_cons]
 unfold wpOp
 have hoi:ops[pre.length]? = some o:=by rw[VI]; simp
 rw[hoi]
 obtain⟨dst,op,ty,pos,after,guard⟩:=o
 simp only at ho hg ND
 subst ho hg ND
 simp only[Region.wanted,if_true]
 have cp:∀ (x:Operand) (z:D),vZ s1.fr x=some z→RD κ' z (a'.eval x):=fun x z hz=>e4.eval (by rw[← yo]; exact hz)
 have OV:=cp f _ hf
 have hr:=kJ (κ:=κ') (vs:=RY.toList.map a'.eval) hl (by simp[← bL]) (fun i d v hd hv=>by
      rw[← bL]at hd
      simp only[List.getElem?_map]at hd hv
      cases hi:RY.toList[i]? with
      | none=>rw[hi]at hd; cases hd
      | some x=>rw[hi]at hd hv; simp at hd hv; subst hv; exact cp x d hd)
 generalize UG:a'.eval f=pv at OV
 cases OV with
 | xg _ _ us cx hh2 =>
  obtain⟨fv,cap,as,k1,k2,k3⟩:=JY (P:=c.P) (vs:=RY.toList.map a'.eval) (w:=κ'.w) (rfl:ik g us=ik g us)
  refine .inl ?_
  unfold Oper.wp
  have hx:(execOp a'.eval ⟨none,.defer ⟨.value f,RY,dG⟩,ty,pos,after,none⟩).run c.P κ'.w=.ok (.defer ⟨.fn fv cap,as⟩) κ'.w:=by
   have e9:RY.map a'.eval=(RY.toList.map a'.eval).toArray:=by apply Array.ext'; simp
   simp only[execOp,resolve,UG,e9,Sem.run_bind,k1,Result.andThen_ok,Sem.run_pure]
  rw[hx]
  exact hQ a' κ' fv cap as _ e1 e2 e3 e4 g2 e5 (Ze g hr (⟨cx,hh2⟩:qG κ' caps us)) k3
def BX(κ0:KS)(out:yx)(nr:Nat)(y:out.den):Ending→World→Prop:=fun e w'=>∃ (κ':KS) (ds:List D),κ'.w=w'∧κ'.st=out.st y∧Inv κ'∧Ext κ0 κ'∧yK nr (out.fr y)=some ds∧vd κ' (.ret ds) e
theorem nU{κ0 κ2:KS}{fn:Func}{out:yx}{nr:Nat}{y:out.den}{fr:Fr}{zu:St}{tm:Array Value}(e1:κ2.st=zu)(e2:Inv κ2)(e3:Ext κ0 κ2)(e4:Rel κ2 fn.ntmps fr.get { tmps:=tm,defers:=[] })(hlen:κ0.st.length≤out.bs.length)
  (h:(tA (vy P xid tab ro) fn out nr fr zu).leads y):Leaves P fn tm (BX κ0 out nr y) [] .returning κ2.w:=by
 obtain⟨v,k1,κ',ds,q1,q2,q3,q4,q5,q6⟩:=G3 (o:=⟨.ret,fr,[],zu,false⟩) e1 e2 e3 e4 hlen h
 exact⟨v,k1,κ',ds,q1,q2,q3,q4,q5,q6⟩
theorem Z3{code:Code}(h:qY code=[])[Xl]:vB P n H code:=fun p hp=>by rw[h]at hp; cases hp
theorem Ej{κ:KS}{f:F}{a:Act}(D:Xl)(h : @Rel D κ n f a) : @Rel Zz κ n f { tmps:=a.tmps,defers:=[] } := @Rel.mk Zz κ n f _ (@Rel.size D κ n f a h) rfl (@Rel.get D κ n f a h)
theorem XR{κ κ':KS}{f:F}{a:Act}(x:Ext κ κ')(h : @Rel Zz κ n f a) : @Rel Zz κ' n f a:=h.mono x
theorem Po{κ:KS}{f:F}{a:Act}(h : @Rel Zz κ n f a)(l:List Deferred) : @Rel ⟨l⟩ κ n f { a with defers:=l } := @Rel.mk ⟨l⟩ κ n f _ h.size rfl h.get
theorem P6(hm:(vy P xid tab ro).P.follows .mixedOrders=true)(hT:jI P tab){h:Dfd}(h0:jZ (DU P) h.g h.d0)(h1:jZ (DV P h.pt) h.g h.d1){fn:Func}{out:yx}{nr:Nat}{y:out.den}{κ0:KS}(hlen:κ0.st.length≤out.bs.length) :
  ∀ (code:Code),qY code=[]→∀ {fr:Fr} {kn:Kn} {κ:KS} {a:Act},(Sf (vy P xid tab ro) tab fn.ntmps H h fn out nr code fr kn κ.st).leads y→Inv κ→Ext κ0 κ→Rel κ fn.ntmps fr.get a→wW kn fr.get →
   code.wp P (bodyPostD P fn (BX κ0 out nr y)) a κ.w:=by
 intro code
 induction code with
 | seq x b ix ib =>
  intro hl fr kn κ a hy hI hx hR hk
  have Lt:qY x=[]:=by simp only[qY,List.append_eq_nil_iff]at hl; exact hl.1
  have hlb:qY b=[]:=by simp only[qY,List.append_eq_nil_iff]at hl; exact hl.2
  have plain:(oo (vy P xid tab ro) tab fn.ntmps H x fr kn κ.st fun r=>match r.ex with
    | .normal=>Sf (vy P xid tab ro) tab fn.ntmps H h fn out nr b r.fr r.kn r.st
    | .ret=>tA (vy P xid tab ro) fn out nr r.fr r.st
    | _=>.fail).leads y→(Code.seq x b).wp P (bodyPostD P fn (BX κ0 out nr y)) a κ.w:=by
   intro hy
   refine wp_seq (lE hm hT x (Z3 Lt) (κ:=κ) hy hI hR hk _ fun o cG a' κ' e0 e1 e2 e3 e4 DW _ _ e6 => ?_)
   cases hex:o.ex<;>rw[hex]at e0 e6<;>simp only at e0
   ·cases e6
    exact ib hlb (κ:=κ') (e1▸e0) e2 (hx.trans e3) e4 DW
   ·exact e0.elim
   ·cases e6
    show Leaves P fn a'.tmps _ a'.defers .returning κ'.w
    rw[show a'.defers=[]from e4.defers]
    exact nU e1 e2 (hx.trans e3) (Ej Zz e4) hlen e0
   ·exact e0.elim
  simp only[Sf]at hy
  split at hy
  ·rename_i ops hops
   obtain⟨id,rfl⟩:∃ id,x=.region id ops false:=by
    cases x with
    | region id ops' draw =>
     cases draw with
     | true=>cases hops
     | false=>cases hops; exact⟨id,rfl⟩
    | _=>cases hops
   split at hy
   ·rename_i pre f args hd
    have tF:∀ o∈pre,∃ i:Nat,ops[i]? = some o:=fun o ho=>by
     obtain⟨o',RY,dG,e,_⟩:=lR hd
     have:o∈ops.toList:=by rw[e]; exact List.mem_append_left _ ho
     obtain⟨i,hi,he⟩:=List.getElem_of_mem this
     exact⟨i,by rw[← he]; simp at hi; simp[hi]⟩
    rcases oe pre hk tF hy with⟨s1,xQ,hy⟩ | ⟨_,_,_,hy⟩
    rotate_left
    ·exact hy.elim
    split at hy
    ·rename_i g caps l hf hl
     cases hg:Nat.beq (kg g) h.g with
     | false=>rw[hg]at hy; exact hy.elim
     | true =>
     rw[hg,cond_true]at hy
     have hgg:=Nat.eq_of_beq_eq_true hg
     refine wp_seq (K3 (c:=vy P xid tab ro) (VT hT) hI hR hk hd xQ hf hl fun a' κ1 fv cap as zM e1 e2 e3 e4 DW e5 e6 e7 => ?_)
     show b.wp P _ _ κ1.w
     have hdf:a'.defers=[]:=e4.defers
     rw[hdf]
     let D:Xl:=⟨[⟨.fn fv cap,as⟩]⟩
     have hRD : @Rel D κ1 fn.ntmps s1.fr.get { a' with defers:=[⟨.fn fv cap,as⟩] }:=Po e4 _
     rw[← e1]at hy
     refine @lE _ D P xid tab ro fn.ntmps H hm hT b (@Z3 _ P fn.ntmps H b hlb D) s1.fr s1.kn κ1 _ _ _ y hy e2 hRD DW _ fun o cG a2 κe f0 f1 f2 f3 f4 WT f5 _ f6 => ?_
     have Sy:a2.defers=[⟨.fn fv cap,as⟩] := @Rel.defers D κe fn.ntmps _ a2 f4
     have hRa : @Rel Zz κe fn.ntmps (Fr.get (o.fr++(gZ (zY b)++s1.fr))) { tmps:=a2.tmps,defers:=[] }:=Ej D (@mT _ D fn.ntmps κ1 κe s1.fr o.fr _ a2 (zY b) hRD f3 f4 f5)
     have ET:qG κe (uK g l caps) zM:=qG.mono f3 e6
     have z1v:∀ (cs:Array Value) (w':World),cs=zM.toArray→(callFunc h.g cs).run P w'=.ok (.enter h.g cs) w'→(invoke (.fn fv cap) as).run P w'=.ok (.enter h.g cs) w':=fun cs w' Y8 hc=>by
      refine(e7 w').trans ?_
      rw[hgg,← Y8]; exact hc
     have TH:(h.d0.K (uK g l caps) o.st fun _ zu=>tA (vy P xid tab ro) fn out nr (o.fr++(gZ (zY b)++s1.fr)) zu).leads y→Leaves P fn a2.tmps (BX κ0 out nr y) a2.defers .returning κe.w:=by
      intro hK
      obtain⟨ds,zu,k1,k2⟩:=js.Ev hK
      rw[← f1]at k1
      obtain⟨d1,d2⟩:=js.Rs (Dr:=DU P) DU.mono h0 κe _ zM _ _ k1 f2 ET
      rw[Sy]
      refine leaves_cons (by nofun) (z1v _ _ rfl d1) (d2.mono ?_)
      rintro e u' w' ⟨yy,κ2,rfl,g2,g3,g4,v,rfl,_⟩
      show Leaves P fn a2.tmps _ [] (settle u') κ2.w
      rw[yy]
      exact nU g2 g3 ((hx.trans (e3.trans f3)).trans g4) (XR g4 hRa) hlen k2
     cases hox:o.ex<;>rw[hox]at f0 f6
     ·cases f6; exact TH f0
     ·exact f0.elim
     ·cases f6; exact TH f0
     ·rename_i pd
      obtain⟨v,rfl,hv⟩:=f6
      cases pd<;>first | exact False.elim f0 | skip
      rename_i t p
      have f00:(bif Nat.beq t h.pt then h.d1.K (uK g l caps++[p]) o.st fun _ zu=>tA (vy P xid tab ro) fn out nr (o.fr++(gZ (zY b)++s1.fr)) zu else .fail).leads y:=f0
      clear f0
      cases ht:Nat.beq t h.pt with
      | false=>rw[ht]at f00; exact f00.elim
      | true =>
      rw[ht,cond_true]at f00
      have:=Nat.eq_of_beq_eq_true ht
      subst this
      cases hv with
      | iface _ _ u hu =>
       obtain⟨ds,zu,k1,k2⟩:=js.Ev f00
       rw[← f1]at k1
       obtain⟨d1,d2⟩:=js.Rs (Dr:=DV P h.pt) DV.mono h1 κe _ (zM++[u]) _ _ k1 f2 (ET.append (qG.cons hu qG.nil)) zM u rfl
       show Leaves P fn a2.tmps _ a2.defers _ κe.w
       rw[Sy]
       refine leaves_cons (by nofun) (z1v _ _ rfl d1) (d2.mono ?_)
       rintro e u' w' ⟨yy,κ2,rfl,g2,g3,g4,v,rfl,_⟩
       show Leaves P fn a2.tmps _ [] (settle u') κ2.w
       rw[yy]
       exact nU g2 g3 ((hx.trans (e3.trans f3)).trans g4) (XR g4 hRa) hlen k2
    ·exact hy.elim
   ·exact plain hy
  ·exact plain hy
 | _=>intro _ fr kn κ a hy; exact hy.elim
theorem Ra(hm:(vy P xid tab ro).P.follows .mixedOrders=true)(hT:jI P tab){h:Dfd}(h0:jZ (DU P) h.g h.d0)(h1:jZ (DV P h.pt) h.g h.d1){f:Nat}{fn:Func}{code:Code}(hf:P.funcs[f]? = some fn)(hb:fn.body=some code)
  (hn:(fn.name == "runtime.NumGoroutine")=false) (hL:qY code=[]) {d:js} (he:∀ x,Ee (vy P xid tab ro) tab H h fn code d x=d.F x):xB P f d:=by
 intro κ x zM y xh hy hI hlen Ie
 rw[← he]at hy
 unfold Ee at hy
 cases hle:Nat.ble d.ks.length fn.ntmps&&Nat.ble d.sh.bs.length d.out.bs.length with
 | false=>rw[hle]at hy; exact hy.elim
 | true =>
  rw[hle,cond_true]at hy
  simp only[Bool.and_eq_true]at hle
  have FP:=Nat.le_of_ble_eq_true hle.1
  have El:=Nat.le_of_ble_eq_true hle.2
  refine .inl ⟨wx hf hn (by rw[hb]; rfl) κ.w,calls_of_wp_defers hf hb ?_⟩
  have hR:Rel κ fn.ntmps (d.sh.fr x).get { tmps:=zM.toArray++Array.replicate (fn.ntmps-zM.toArray.size) undef,defers:=[] }:=by
   refine⟨by simp; omega,rfl,fun s e hs => ?_⟩
   obtain⟨v,h1,h2⟩:=Ie.get s e hs
   refine⟨v,?_,h2⟩
   have qh:=(Array.getElem?_eq_some_iff.1 h1).1
   rw[Array.getElem?_append_left qh]
   exact h1
  exact P6 hm hT h0 h1 (κ0:=κ) (by rw[xh]; exact Nat.le_trans (yx.oj _ _) El) code hL (κ:=κ) (by rw[xh]; exact hy) hI (Ext.refl κ) hR (gx _)
end
end Go.AM