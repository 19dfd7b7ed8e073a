/-
  The abstract machine, part D: texts of our own, the same for each claim.
-/
import Derived.Test.YtbafdjlefhlefaaGreatDoorAmA
import Derived.Lib.LaidTab
import Derived.Shelf.Vars
import Derived.Test.YtbafdjlefhlefaaGreatDoorAmC
import Derived.OpenShut
import Derived.Test.YtbafdjlefhlefaaGreatDoorAmB
import Derived.Lib.LazyBuf
import Derived.Below
import Derived.Lib.Repeat
import Derived.Lib.ItoaNum
import Derived.Lib.IndexMore
import Derived.Lib.AsciiSet
import Derived.Lib.Strings
import Derived.Sort.Grow
import Derived.Deep.Draws
import Derived.Lib.Builder
set_option linter.unusedVariables false
namespace Go.AM
def Cg(k:IntKind)(zs:List Int)(o:Obj):Prop:=∃ t fr,o=.cells (zs.map fun z=>Value.int k z).toArray t fr
theorem Tk{P:Program}{w:World}{name:String}{k:IntKind}{zs:List Int}{g:Nat}(hg:P.globalNamed name=some g)(h:Lib.TabIs P w name k zs) :
  g<w.heap.size∧∃ o,w.heap[g]? = some o∧Cg k zs o:=by
 unfold Lib.TabIs World.var? at h
 rw[hg]at h
 simp only[Option.bind_some]at h
 split at h
 ·rename_i cs t fr ho
  cases h
  exact⟨(Array.getElem?_eq_some_iff.1 ho).1,_,ho,t,fr,rfl⟩
 ·cases h
theorem z7P{P:Program}{w:World}{name:String}{k:IntKind}{zs:List Int}{g:Nat}(hg:P.globalNamed name=some g)(h:∃ o,w.heap[g]? = some o∧Cg k zs o):Lib.TabIs P w name k zs:=by
 obtain⟨o,ho,t,fr,rfl⟩:=h
 unfold Lib.TabIs World.var?
 rw[hg]
 simp only[Option.bind_some,ho]
theorem OA{P:Program}{W:World}{name:String}{k:IntKind}{zs:List Int}{rest:List (String×DataW Unit)}{ps:List MemPlace}{g:Nat}{t e:TypeId}{n:Nat}
  (hg:P.globalNamed name=some g) (MA:(P.globals[g]?).map (·.type)=some t) (ht:P.underlying t=some (.array n e)) (he:P.underlying e=some (.int k)) (hce:P.cellsOf e=1) (hct:P.cellsOf t=n)
  (h:DataW.LaidVars P W ((name,Lib.tabData k zs)::rest) ps):g<W.heap.size∧∃ o,W.heap[g]? = some o∧Cg k zs o:=by
 obtain⟨g',t',cs,fuel,p,q,hg',ht',zaj,hd,_,_⟩:=h
 refine Tk hg ?_
 obtain rfl:=Option.some.inj (hg.symm.trans hg')
 obtain rfl:=Option.some.inj (MA.symm.trans ht')
 unfold Lib.TabIs
 rw[zaj,← Lib.cells_of_tab ht he hce hct hd]
theorem Gr{P:Program}{W:World}{x:String×DataW Unit}{rest:List (String×DataW Unit)}{ps:List MemPlace}(h:DataW.LaidVars P W (x::rest) ps):∃ q,DataW.LaidVars P W rest q:=by
 obtain⟨n,d⟩:=x
 obtain⟨g',t',cs,fuel,p,q,hg',ht',zaj,hd,h1,_⟩:=h
 exact⟨q,h1⟩
end Go.AM
namespace Go.AM
open Go.RowKit
mutual
def bkE:Expr→Nat
 | .mk _ n s l=>1+((1+((List.length n.2.1+1)+((List.length n.2.2.1+1)+1)))+((List.length s+1)+((bkEs l+1)+1)))
def bkEs:List Expr→Nat
 | []=>0
 | e::r=>bkE e+bkEs r
end
def cj{α:Type}(f:α→Nat):List α→Nat
 | []=>0
 | x::r=>f x+cj f r
def bk:(τ:Ty)→den τ→Nat
 | .int _,_=>1
 | .bool,_=>1
 | .str,s=>List.length s+1
 | .sl e,l=>cj (bk e) l+1
 | .nil,_=>1
 | .cons a b,x=>bk a x.1+bk b x.2
 | .expr,x=>bkE x
theorem C9{α:Type}(l:List α):cj (fun _=>1) l=l.length:=by induction l with | nil=>rfl | cons x r ih=>simp[cj,ih]; omega
theorem z2r(l:List Expr):bkEs l=cj (bk .expr) l:=by induction l with | nil=>rfl | cons x r ih=>simp[bkEs,cj,ih,bk]
theorem z2Z(x:Expr):bk XN x.NL=bk .expr x:=by
 cases x with | mk k n s l =>
 simp only[bk,Expr.NL,bkE,z2r,Expr.kind,Expr.num,Expr.name,Expr.kids,C9]
mutual
def wfE:Expr→Prop
 | .mk k n s l=>(IntKind.i64.min≤k∧k≤IntKind.i64.max)∧((True∧((∀ x∈n.2.1,IntKind.u32.min≤x∧x≤IntKind.u32.max)∧((∀ x∈n.2.2.1,IntKind.u32.min≤x∧x≤IntKind.u32.max)∧True)))∧(List.length s≤maxLen∧(wfEs l∧True)))
def wfEs:List Expr→Prop
 | []=>True
 | e::r=>wfE e∧wfEs r
end
def wf:(τ:Ty)→den τ→Prop
 | .int k,n=>k.min≤n∧n≤k.max
 | .bool,_=>True
 | .str,s=>List.length s≤maxLen
 | .sl e,l=>∀ x∈l,wf e x
 | .nil,_=>True
 | .cons a b,x=>wf a x.1∧wf b x.2
 | .expr,x=>wfE x
theorem z23(l:List Expr):wfEs l↔∀ x∈l,wf .expr x:=by induction l with | nil=>simp[wfEs] | cons x r ih=>simp[wfEs,ih,wf]
theorem M9(x:Expr):wf XN x.NL↔wf .expr x:=by
 cases x with | mk k n s l=>simp only[wf,Expr.NL,wfE,z23,Expr.kind,Expr.num,Expr.name,Expr.kids]
structure Og(H:Type) where
 b:DataW H→Nat
 bs:List (DataW H)→Nat
 str:∀ s,b (.lit (.string s))=s.length+1
 bool:∀ x,b (.lit (.bool x))=1
 int:∀ k n,b (.lit (.int k n))=1
 nil:b .nil=1
 slice:∀ x y,b (.slice x y)=bs x+bs y+1
 agg:∀ x,b (.agg x)=bs x+1
 zero:bs []=0
 cons:∀ x r,bs (x::r)=b x+bs r
section
variable (P:Program) (xid:Nat)
def VZ:Nat→List Field→Bool
 | _,[]=>true
 | o,f::r=>Nat.beq f.offset o&&VZ (o+P.cellsOf f.type) r
def U0:Nat→List Field→Nat
 | o,[]=>o
 | o,f::r=>U0 (o+P.cellsOf f.type) r
def BO:Nat→Nat→Option Ty
 | 0,_=>none
 | n+1,t=>bif Nat.beq t xid then some .expr else
  match P.underlying t with
  | some (.int k)=>some (.int k)
  | some .bool=>some .bool
  | some .string=>some .str
  | some (.slice e)=>match BO n e with | some a=>bif Nat.beq (P.cellsOf e) a.size&&Nat.blt 0 a.size then some (.sl a)else none | none=>none
  | some (.struct fs)=>bif VZ P 0 fs.toList&&Nat.beq (U0 P 0 fs.toList) (P.cellsOf t)then ep (fs.toList.map fun f=>BO n f.type)else none
  | _=>none
def FH(m:Nat):Bool:=match P.underlying xid with
 | some (.struct fs)=>VZ P 0 fs.toList&&Nat.beq (U0 P 0 fs.toList) (P.cellsOf xid)&&decide (ep (fs.toList.map fun f=>BO P xid m f.type)=some XN)
 | some _=>false
 | none=>true
end
section
variable {H:Type} {enc:TypeId×Value→H} {P:Program} {w:World} {xid m:Nat} (B:Og H)
def Ju(w:World)(B:Og H)(τ:Ty)(cs:List Value)(k:Nat):Prop:=∃ x:den τ,Rc w (fun k=>k<w.heap.size) τ x cs∧wf τ x∧bk τ x≤k
theorem Vh{fuel:Nat}{cs:List Value}(ih:∀ n t τ cs d ps,BO P xid n t=some τ→DataW.trod enc P w 0 (fun _=>true) true fuel t cs=some (d,ps)→Ju w B τ cs (B.b d)){n:Nat} :
  ∀ (fs:List Field) (o:Nat) (τ:Ty) (xs:List (DataW H×List MemPlace)),ep (fs.map fun f=>BO P xid n f.type)=some τ→VZ P o fs=true→U0 P o fs=cs.length→xs.length=fs.length →
   (∀ (i:Nat) (f:Field),fs[i]? = some f→DataW.trod enc P w 0 (fun _=>true) true fuel f.type ((cs.drop f.offset).take (P.cellsOf f.type))=xs[i]?)→Ju w B τ (cs.drop o) (B.bs (xs.map (·.1))+1)
 | [],o,τ,xs,ht,_,he,hl,_=>by
  cases ht
  simp only[U0]at he
  obtain rfl:xs=[]:=List.eq_nil_of_length_eq_zero hl
  refine⟨(),?_,trivial,by simp[bk]⟩
  rw[he,List.drop_length]; exact .nil
 | f::r,o,τ,xs,ht,ho,he,hl,hx=>by
  cases xs with
  | nil=>simp at hl
  | cons x xs =>
  simp only[VZ,Bool.and_eq_true]at ho
  have ho1:f.offset=o:=Nat.eq_of_beq_eq_true ho.1
  simp only[List.map_cons]at ht
  cases h1:BO P xid n f.type with
  | none=>rw[h1]at ht; cases ht
  | some a =>
   rw[h1]at ht
   simp only[ep]at ht
   cases h2:ep (r.map fun f=>BO P xid n f.type)with
   | none=>rw[h2]at ht; cases ht
   | some b =>
    rw[h2]at ht
    cases ht
    obtain⟨x1,p1,p2,p3⟩:=ih n f.type a _ x.1 x.2 h1 (by have:=hx 0 f rfl; simpa using this)
    obtain⟨x2,q1,q2,q3⟩:=Vh ih r (o+P.cellsOf f.type) b xs h2 ho.2 he (by simpa using hl) (fun i g hg=>by have:=hx (i+1) g (by simpa using hg); simpa using this)
    refine⟨(x1,x2),?_,⟨p2,q2⟩,?_⟩
    ·have e:cs.drop o=(cs.drop o).take (P.cellsOf f.type)++cs.drop (o+P.cellsOf f.type):=by
      conv=>lhs; rw[← List.take_append_drop (P.cellsOf f.type) (cs.drop o)]
      rw[List.drop_drop]
     rw[e]
     rw[ho1]at p1
     exact .cons _ _ _ _ _ _ p1 q1
    ·simp only[bk,List.map_cons,B.cons]; omega
theorem Gb{e:Ty}(k:Nat):∀ (n:Nat) (elems:List (DataW H×List MemPlace)) (g:Nat→List Value),elems.length=n→(∀ i,i<n→∃ d,elems[i]? = some d∧Ju w B e (g i) (B.b d.1)) →
  ∃ l:List (den e),l.length=n∧(∀ i (hi:i<l.length),Rc w (fun k=>k<w.heap.size) e l[i] (g i))∧(∀ x∈l,wf e x)∧cj (bk e) l≤B.bs (elems.map (·.1))
 | 0,elems,g,hl,_=>by
  obtain rfl:elems=[]:=List.eq_nil_of_length_eq_zero hl
  exact⟨[],rfl,fun i hi=>absurd hi (Nat.not_lt_zero i),by simp,by simp[cj]⟩
 | n+1,elems,g,hl,h=>by
  cases elems with
  | nil=>simp at hl
  | cons y ys =>
   obtain⟨d,h1,x,h2,h3,h4⟩:=h 0 (by omega)
   simp at h1
   subst h1
   obtain⟨l,l1,l2,l3,l4⟩:=Gb k n ys (fun i=>g (i+1)) (by simpa using hl) fun i hi=>by
    obtain⟨d,h1,h2⟩:=h (i+1) (by omega)
    exact⟨d,by simpa using h1,h2⟩
   refine⟨x::l,by simp[l1],fun i hi => ?_,fun z hz => ?_,?_⟩
   ·cases i with
    | zero=>exact h2
    | succ i=>exact l2 i (by simpa using hi)
   ·rcases List.mem_cons.1 hz with rfl | hz
    ·exact h3
    ·exact l3 z hz
   ·simp only[cj,List.map_cons,B.cons]; omega
theorem OL(hx:FH P xid m=true):∀ (fuel n t:Nat) (τ:Ty) (cs:List Value) (d:DataW H) (ps:List MemPlace),BO P xid n t=some τ→DataW.trod enc P w 0 (fun _=>true) true fuel t cs=some (d,ps)→Ju w B τ cs (B.b d):=by
 intro fuel
 induction fuel with
 | zero=>intro n t τ cs d ps _ h; simp[DataW.trod]at h
 | succ fuel ih =>
  intro n t τ cs d ps ht h
  have struct:∀ (fs:Array Field) (k:Nat) (σ:Ty),P.underlying t=some (.struct fs)→(VZ P 0 fs.toList&&Nat.beq (U0 P 0 fs.toList) (P.cellsOf t))=true→ep (fs.toList.map fun f=>BO P xid k f.type)=some σ→Ju w B σ cs (B.b d):=by
   intro fs k σ hu ho hc
   simp only[Bool.and_eq_true]at ho
   obtain⟨xs,n',hn,hd,hl,hlx,VN⟩:=DataW.trod_struct hu h
   cases hn
   cases hd
   have:=Vh B (cs:=cs) (ih:=ih) fs.toList 0 σ xs hc ho.1 (by rw[Nat.eq_of_beq_eq_true ho.2,hl]) (by simpa using hlx) (fun i f hf=>VN i f (by simpa using hf))
   rw[B.agg]
   simpa using this
  cases n with
  | zero=>cases ht
  | succ n =>
   unfold BO at ht
   cases hb:Nat.beq t xid with
   | true =>
    rw[hb,cond_true]at ht
    cases ht
    have:=Nat.eq_of_beq_eq_true hb
    subst this
    unfold FH at hx
    split at hx
    ·rename_i fs hu
     simp only[Bool.and_eq_true,decide_eq_true_eq]at hx
     obtain⟨x,h1,h2,h3⟩:=struct fs m XN hu (by simp[hx.1.1,hx.1.2]) hx.2
     refine⟨Expr.ED x,.expr _ _ _ _ _ h1,?_,?_⟩
     ·exact(M9 (Expr.ED x)).1 h2
     ·rw[← z2Z (Expr.ED x)]; exact h3
    ·cases hx
    ·rename_i hu
     rw[DataW.trod_step]at h
     simp[DataW.trodStep,hu]at h
   | false =>
    rw[hb,cond_false]at ht
    split at ht
    ·rename_i k hu
     cases ht
     obtain⟨n',rfl,h2,h3⟩:=DataW.trod_int hu h
     cases h2
     simp only[Lit.wf,Bool.and_eq_true,decide_eq_true_eq]at h3
     exact⟨n',.int k n',h3,by simp[bk,B.int]⟩
    ·rename_i hu
     cases ht
     obtain⟨b,rfl,h2⟩:=DataW.trod_bool hu h
     cases h2
     exact⟨b,.bool b,trivial,by simp[bk,B.bool]⟩
    ·rename_i hu
     cases ht
     obtain⟨s,rfl,h2,h3⟩:=DataW.trod_string hu h
     cases h2
     refine⟨s.data.toList,?_,?_,?_⟩
     ·have:s=⟨s.data.toList.toArray⟩:=by cases s; simp
      conv=>arg 4; rw[this]
      exact .str _
     ·simp only[wf,Array.length_toList]; exact h3
     ·simp[bk,B.str]
    ·rename_i e hu
     split at ht
     ·rename_i a ha
      cases hc:Nat.beq (P.cellsOf e) a.size&&Nat.blt 0 a.size with
      | false=>rw[hc]at ht; cases ht
      | true =>
       rw[hc,cond_true]at ht
       cases ht
       simp only[Bool.and_eq_true]at hc
       have jm:P.cellsOf e=a.size:=Nat.eq_of_beq_eq_true hc.1
       have Va:0<a.size:=Nat.le_of_ble_eq_true hc.2
       rcases DataW.trod_slice hu h with⟨rfl,h2⟩ | ⟨p,len,cap,elems,rest,n',hn,rfl,hd,_,wH,_,hlen,hel,OI,_⟩
       ·cases h2
        exact⟨[],.iG a none,by simp[wf],by simp[bk,cj,B.nil]⟩
       ·cases hn
        cases hd
        by_cases h0:cap=0
        ·subst h0
         have:len=0:=by omega
         subst this
         exact⟨[],.iG a (some p),by simp[wf],by simp[bk,cj,B.slice]⟩
        ·rw[jm]at hel OI
         -- the place lies in the heap
         have z7T:p.block<w.heap.size∧p.spot=none:=by
          have first:∃ x,(w.cells? 0 p a.size)=some x:=by
           by_cases hl:len=0
           ·have:=(OI rfl).2 0 (by omega)
            rw[hl]at this
            have hr:(rest[0]?).isSome=true:=by simp[(OI rfl).1]; omega
            cases hcc:w.cells? 0 p a.size with
            | some x=>exact⟨x,rfl⟩
            | none =>
             have e0:p.add ((0+0)*a.size)=p:=by simp[Addr.add]
             rw[e0,hcc]at this
             rw[← this]at hr
             simp at hr
           ·have:=hel 0 (by omega)
            have hr:(elems[0]?).isSome=true:=by simp; omega
            cases hcc:w.cells? 0 p a.size with
            | some x=>exact⟨x,rfl⟩
            | none =>
             have e0:p.add (0*a.size)=p:=by simp[Addr.add]
             rw[e0,hcc]at this
             rw[← this]at hr
             simp at hr
          obtain⟨x,hx⟩:=first
          refine⟨World.cells?_block hx Va,?_⟩
          have h2:=(World.cells?_some hx).2
          have h3:=h2.2 0 Va
          rw[List.getElem?_eq_getElem (by omega)]at h3
          have e0:p.add 0=p:=rfl
          rw[e0]at h3
          cases hs:p.spot with
          | none=>rfl
          | some q =>
           unfold World.cell? at h3
           split at h3
           ·rw[hs]at h3; simp at h3
           ·cases h3
         obtain⟨blk,off,sp⟩:=p
         obtain⟨Nt,Z1⟩:=z7T
         simp only at Z1 Nt
         subst Z1
         have hg:∀ i,∃ c:List Value,i<len→∃ d,elems[i]? = some d∧Ju w B a c (B.b d.1)∧w.cells? 0 ⟨blk,off+i*a.size,none⟩ a.size=some c:=by
          intro i
          by_cases hi:i<len
          ·have:=hel i hi
           rw[vB]at this
           cases hcc:w.cells? 0 ⟨blk,off+i*a.size,none⟩ a.size with
           | none =>
            rw[hcc]at this
            have hr:(elems[i]?).isSome=true:=by simp; omega
            rw[← this]at hr
            simp at hr
           | some c =>
            rw[hcc]at this
            simp only[Option.bind_some]at this
            refine⟨c,fun _=>⟨elems[i]'(by omega),by simp,?_,rfl⟩⟩
            exact ih n e a c _ _ ha (this.trans (by rw[List.getElem?_eq_getElem (by omega)]))
          ·exact⟨[],fun h=>absurd h hi⟩
         let g:Nat→List Value:=fun i=>Classical.choose (hg i)
         have hg':∀ i,i<len→∃ d,elems[i]? = some d∧Ju w B a (g i) (B.b d.1)∧w.cells? 0 ⟨blk,off+i*a.size,none⟩ a.size=some (g i):=fun i hi=>Classical.choose_spec (hg i) hi
         obtain⟨l,l1,l2,l3,l4⟩:=Gb B (w:=w) (e:=a) 0 len elems g hlen fun i hi=>by
          obtain⟨d,h1,h2,_⟩:=hg' i hi
          exact⟨d,h1,h2⟩
         refine⟨l,?_,l3,?_⟩
         ·have:=Rc.sl (w:=w) (ok:=fun k=>k<w.heap.size) a l blk off cap g Nt (by omega) l2 fun i hi j v hj=>by
           obtain⟨d,_,_,h3⟩:=hg' i (by omega)
           obtain⟨_,k2,k3⟩:=World.cells?_some h3
           have MV:j<(g i).length:=(List.getElem?_eq_some_iff.1 hj).1
           have:=k3 j (by omega)
           rw[vB,hj]at this
           exact this
          rwa [l1]at this
         ·simp only[bk,B.slice]; omega
     ·cases ht
    ·rename_i fs hu
     cases hc:VZ P 0 fs.toList&&Nat.beq (U0 P 0 fs.toList) (P.cellsOf t)with
     | false=>rw[hc]at ht; cases ht
     | true =>
      rw[hc,cond_true]at ht
      exact struct fs n τ hu hc ht
    ·cases ht
end
end Go.AM
namespace Go.AM
set_option linter.unusedSectionVars false
variable [uH]
open Go.RowKit Go.ChangeShapes
def Yv:List Ty→Type
 | []=>Unit
 | τ::r=>den τ×Yv r
def mkD:(τs:List Ty)→Yv τs→List D
 | [],_=>[]
 | τ::r,x=>.zU τ x.1::mkD r x.2
def wfL:(τs:List Ty)→Yv τs→Prop
 | [],_=>True
 | τ::r,x=>wf τ x.1∧wfL r x.2
def bkL:(τs:List Ty)→Yv τs→Nat
 | [],_=>0
 | τ::r,x=>bk τ x.1+bkL r x.2
def Wn(P:Program)(ts:List Nat):Bool:=ts.all fun t=>P.readableRec t&&decide (t<P.types.size)
section
variable {H:Type} {enc:TypeId×Value→H} {P:Program} {xid m n:Nat} {w:World}
theorem z7D{t:Nat}{τ:Ty}{v:Value}{base:Nat}(ht:BO P xid n t=some τ)(hx:FH P xid m=true)(h:Value.okWide P w .any base t v):pk τ v.cells.toList=v:=by
 cases n with
 | zero=>cases ht
 | succ n =>
  have agg:∀ fs:Array Field,P.underlying t=some (.struct fs)→τ.isAgg=true→pk τ v.cells.toList=v:=by
   intro fs hu ha
   unfold Value.okWide at h
   rw[hu]at h
   obtain⟨cs,rfl,_⟩:=h
   simp[pk,ha,Value.cells]
  unfold BO at ht
  cases hb:Nat.beq t xid with
  | true =>
   rw[hb,cond_true]at ht
   cases ht
   have:=Nat.eq_of_beq_eq_true hb
   subst this
   unfold FH at hx
   split at hx
   ·rename_i fs hu; exact agg fs hu rfl
   ·cases hx
   ·rename_i hu
    unfold Value.okWide at h
    rw[hu]at h
    simp[Cell.okWide,Cell.ok,hu]at h
  | false =>
   rw[hb,cond_false]at ht
   split at ht
   ·rename_i k hu
    cases ht
    unfold Value.okWide at h
    rw[hu]at h
    simp only[Cell.okWide,hu,Cell.ok]at h
    split at h<;>simp_all [pk,Ty.isAgg,Value.cells]
   ·rename_i hu
    cases ht
    unfold Value.okWide at h
    rw[hu]at h
    simp only[Cell.okWide,hu,Cell.ok]at h
    split at h<;>simp_all [pk,Ty.isAgg,Value.cells]
   ·rename_i hu
    cases ht
    unfold Value.okWide at h
    rw[hu]at h
    simp only[Cell.okWide,hu,Cell.ok]at h
    split at h<;>simp_all [pk,Ty.isAgg,Value.cells]
   ·rename_i e hu
    have h1:τ.isAgg=false:=by
     split at ht
     ·rename_i a ha
      cases hc:Nat.beq (P.cellsOf e) a.size&&Nat.blt 0 a.size with
      | false=>rw[hc]at ht; cases ht
      | true=>rw[hc,cond_true]at ht; cases ht; rfl
     ·cases ht
    unfold Value.okWide at h
    rw[hu]at h
    simp only[Cell.okWide,hu,Cell.ok]at h
    split at h<;>simp_all [pk,Value.cells]
   ·rename_i fs hu
    refine agg fs hu ?_
    cases hc:VZ P 0 fs.toList&&Nat.beq (U0 P 0 fs.toList) (P.cellsOf t)with
    | false=>rw[hc]at ht; cases ht
    | true =>
     rw[hc,cond_true]at ht
     have key:∀ (l:List (Option Ty)),ep l=some τ→τ.isAgg=true:=by
      intro l hl
      cases l with
      | nil=>cases hl; rfl
      | cons a r =>
       cases a with
       | none=>cases hl
       | some a =>
        simp only[ep]at hl
        cases h2:ep r with
        | none=>rw[h2]at hl; cases hl
        | some b=>rw[h2]at hl; cases hl; rfl
     exact key _ ht
   ·cases ht
theorem Ct(B:Og H)(hx:FH P xid m=true){base:Nat}:∀ (ts:List TypeId) (τs:List Ty) (vs:List Value) (ds:List (DataW H)) (ps:List MemPlace),ts.map (BO P xid n)=τs.map some →
  DataW.TrodAll enc P w 0 (fun _=>true) true ts vs ds ps→(∀ (j:Nat) t v,ts[j]? = some t→vs[j]? = some v→Value.okWide P w .any base t v) →
  ∃ x:Yv τs,xz ⟨w,fun k=>k<w.heap.size,[],[]⟩ (mkD τs x) vs∧wfL τs x∧bkL τs x≤B.bs ds∧ds.length=τs.length
 | [],τs,vs,ds,ps,ht,h,_=>by
  cases τs with
  | cons=>cases ht
  | nil =>
   cases vs<;>cases ds<;>simp only[DataW.TrodAll]at h
   exact⟨(),⟨rfl,fun i h1=>absurd h1 (Nat.not_lt_zero i)⟩,trivial,Nat.zero_le _,rfl⟩
 | t::ts,τs,vs,ds,ps,ht,h,hv=>by
  cases τs with
  | nil=>cases ht
  | cons τ τs =>
   simp only[List.map_cons,List.cons.injEq]at ht
   cases vs with
   | nil=>simp[DataW.TrodAll]at h
   | cons v vs =>
    cases ds with
    | nil=>simp[DataW.TrodAll]at h
    | cons d ds =>
     simp only[DataW.TrodAll]at h
     obtain⟨p,q,⟨fuel,h1⟩,h2,_⟩:=h
     obtain⟨x,k1,k2,k3⟩:=OL B hx fuel n t τ _ d p ht.1 h1
     obtain⟨y,g1,g2,g3,g4⟩:=Ct B hx ts τs vs ds q ht.2 h2 fun j t v a b=>hv (j+1) t v (by simpa using a) (by simpa using b)
     refine⟨(x,y),⟨by simp only[mkD,List.length_cons]; rw[g1.1],fun i h1 h2 => ?_⟩,⟨k2,g2⟩,?_,by simp[g4]⟩
     ·cases i with
      | zero =>
       have:=RD.zU (κ:=⟨w,fun k=>k<w.heap.size,[],[]⟩) τ x _ k1
       rw[z7D ht.1 hx (hv 0 t v rfl rfl)]at this
       exact this
      | succ i=>exact g1.2 i (by simpa[mkD]using h1) (by simpa using h2)
     ·simp only[bkL,B.cons]; omega
theorem G0(hl:laidOutB P=true){W W':World}(hb:Below W.heap.size W W'):∀ (ts:List TypeId) (vs:List Value) (ds:List (DataW H)) (ps:List MemPlace),Wn P ts=true →
  DataW.TrodAll enc P W 0 (fun _=>true) true ts vs ds ps→(∀ x∈ps,x.block<W.heap.size)→DataW.TrodAll enc P W' 0 (fun b=>decide (b<W.heap.size)) true ts vs ds ps
 | [],vs,ds,ps,_,h,_=>by cases vs<;>cases ds<;>simp_all [DataW.TrodAll]
 | t::ts,vs,ds,ps,ht,h,qu=>by
  cases vs with
  | nil=>simp[DataW.TrodAll]at h
  | cons v vs =>
   cases ds with
   | nil=>simp[DataW.TrodAll]at h
   | cons d ds =>
    simp only[DataW.TrodAll]at h ⊢
    obtain⟨p,q,h1,h2,rfl⟩:=h
    simp only[Wn,List.all_cons,Bool.and_eq_true,decide_eq_true_eq]at ht
    exact⟨p,q,Below.trod hl ht.1.1 ht.1.2 h1 hb fun x hx=>qu x (by simp[hx]),G0 hl hb ts vs ds q (by simpa[Wn]using ht.2) h2 fun x hx=>qu x (by simp[hx]),rfl⟩
end
theorem Nb{H:Type}{enc:TypeId×Value→H}{P:Program}{f:Nat}{fn:Func}{S:List D→St→T (HV×St)}(hS:Dl P f S)(hf:P.funcs[f]? = some fn)(hbd:fn.body.isNone=false) (N3:(fn.name == "runtime.NumGoroutine")=false)
  (hl:laidOutB P=true) (xid m n:Nat) (τs:List Ty) (hts:Wn P fn.params.toList=true) (hτ:fn.params.toList.map (BO P xid n)=τs.map some) (hx:FH P xid m=true)
  {bt:TypeId} (hr:fn.resultTypes = #[bt]) (hbt:P.underlying bt=some .bool) {s:ChangeSpec} (hv:s.vars=[]) (hs:∀ ds:List (DataW H),ds.length=τs.length→s.fn H ds={ results:=[.lit (.bool true)],args:=ds })
  (B:Og H) {lim:Nat} (law:∀ x:Yv τs,wfL τs x→bkL τs x≤lim→(S (mkD τs x) []).leads (.ret [.zU .bool true],[]))
  {fresh handsOn:Bool} {W:World} {base:Nat} {args:Array Value} {ds gs:List (DataW H)} {before:List MemPlace}
  (Yx:∀ (j:Nat) t v,fn.params[j]? = some t→args[j]? = some v→Value.okWide P W .any base t v)
  (hW:DataW.Whole enc P fn.params.toList s.vars false W args.toList ds gs before) (hk:B.bs (ds++gs)≤lim) (hG:QF W fun k=>k<W.heap.size) :
  Calls P f args W fun e W'=>∃ v,e=.returned v∧s.post enc P fn false fresh handsOn false W args v W':=by
 have hW':=hW
 obtain⟨p,q,hA,hV,rfl,hfz,Nh⟩:=hW
 rw[hv]at hV
 obtain⟨rfl,rfl⟩:=trodVars_none hV
 simp only[List.append_nil]at hk hW'
 obtain⟨x,h1,h2,h3,h4⟩:=Ct (n:=n) B hx fn.params.toList τs args.toList ds p hτ hA fun j t v a b=>Yx j t v (by simpa using a) (by simpa using b)
 have hI:Inv ⟨W,fun k=>k<W.heap.size,[],[]⟩ :=
  ⟨rfl,fun k hk=>hk,fun b blk n h=>by simp at h,fun b b' blk n n' h=>by simp at h,fun b x h=>by simp at h,hG⟩
 have z5k:=hS ⟨W,fun k=>k<W.heap.size,[],[]⟩ (mkD τs x) args.toList _ _ (law x h2 (Nat.le_trans h3 hk)) hI h1
 rw[Array.toArray_toList]at z5k
 have key:Calls P f args W fun e w'=>∃ κ':KS,κ'.w=w'∧κ'.st=[]∧Inv κ'∧Ext ⟨W,fun k=>k<W.heap.size,[],[]⟩ κ'∧vH κ' (.ret [.zU .bool true]) e:=by
  rcases z5k with⟨_,h⟩ | ⟨v,w',h,_⟩
  ·exact h
  ·have:=k9 (args:=args) hf N3 hbd W
   simp only at h
   rw[this]at h
   cases h
 refine key.mono fun e W' ⟨κ',e1,_,_,e4,v,e5,e6⟩ => ?_
 subst e1
 have hb:Below W.heap.size W κ'.w:=⟨e4.os,e4.tape,e4.output,e4.size,fun k hk=>e4.frame k hk fun b n h=>by simp at h⟩
 have E2:v=.bool true:=by
  obtain⟨cs,g1,g2⟩:=RD.gX (show RD κ' (.zU .bool true) v from e6)
  rw[g1.bm]at g2
  exact g2
 subst E2
 have qu:∀ x∈p,x.block<W.heap.size:=fun x hx=>by simpa using hW'.lt x hx
 refine⟨_,e5,ds,[],p,[],p,[],hW',?_,?_,?_,hb.frame _,fun h=>by cases h⟩
 ·rw[List.append_nil,hs ds h4,hr]
  exact trodAll_cons_mk (shut_bool hbt _) trodAll_mk0
 ·rw[List.append_nil,hs ds h4]
  exact G0 hl hb _ _ _ _ hts hA qu
 ·rw[List.append_nil,hs ds h4,hv]
  rfl
end Go.AM
namespace Go.AM
def UI:List Ty→Type
 | []=>Unit
 | [τ]=>den τ
 | τ::σ::r=>den τ×UI (σ::r)
def WB.ty:WB→Ty | .rp τ=>τ | .im τ=>τ
def bH:List WB→Type
 | []=>Unit
 | [p]=>den p.ty
 | p::q::r=>den p.ty×bH (q::r)
def GP:(p:WB)→den p.ty→D
 | .rp τ,x=>.xx τ x
 | .im τ,x=>.zU τ x
def nO:(l:List WB)→bH l→List D
 | [],_=>[]
 | [p],x=>[GP p x]
 | p::q::r,x=>GP p x.1::nO (q::r) x.2
def E8:(l:List WB)→bH l
 | []=>()
 | [p]=>zb p.ty
 | p::q::r=>(zb p.ty,E8 (q::r))
inductive Sk where
 | im (τ:Ty) | row (b:Nat) (e:Ty) | op (b T:Nat) | un
def eK:List Sk→Type
 | []=>Unit
 | .im τ::r=>den τ×eK r
 | .row _ _::r=>eK r
 | .op _ _::r=>eK r
 | .un::r=>eK r
def XL:(l:List Sk)→eK l
 | []=>()
 | .im τ::r=>(zb τ,XL r)
 | .row _ _::r=>XL r
 | .op _ _::r=>XL r
 | .un::r=>XL r
inductive Mc where
 | im (τ:Ty) | rp (τ:Ty) | pt (b:Nat)
def ov:List Mc→Type
 | []=>Unit
 | .im τ::r=>den τ×ov r
 | .rp τ::r=>den τ×ov r
 | .pt _::r=>ov r
def UG:(l:List Mc)→ov l
 | []=>()
 | .im τ::r=>(zb τ,UG r)
 | .rp τ::r=>(zb τ,UG r)
 | .pt _::r=>UG r
def ZB:(l:List Mc)→ov l→List D
 | [],_=>[]
 | .im τ::r,x=>.zU τ x.1::ZB r x.2
 | .rp τ::r,x=>.xx τ x.1::ZB r x.2
 | .pt b::r,x=>.ptr b 0::ZB r x
inductive Dk where
 | zU (τ:Ty) | xx (τ:Ty) | sub (b:Nat) (e:Ty) | xr (f:Nat) (caps:List WB) | st (ks:List Sk) | mclo (f:Nat) (ms:List Mc)
inductive Ck where
 | ptr (b off:Nat) | cur (b:Nat) (e:Ty) | xw | yI | wb | xr (f:Nat) (l:List (Nat×Nat))
inductive Bk where
 | var (k:Dk) | cvar (k:Ck) | arr (e:Ty) | dead
def Dk.den:Dk→Type
 | .zU τ=>AM.den τ
 | .xx τ=>AM.den τ
 | .sub _ _=>Nat×Nat
 | .xr _ caps=>bH caps
 | .st ks=>eK ks
 | .mclo _ ms=>ov ms
def Dk.zb:(k:Dk)→k.den
 | .zU τ=>AM.zb τ
 | .xx τ=>AM.zb τ
 | .sub _ _=>(0,0)
 | .xr _ caps=>E8 caps
 | .st ks=>XL ks
 | .mclo _ ms=>UG ms
inductive It where
 | s (t:Nat) (k:Dk) | v (k:Dk) | a (e:Ty)
def It.den:It→Type
 | .s _ k=>k.den
 | .v k=>k.den
 | .a e=>List (AM.den e)
def It.zb:(i:It)→i.den
 | .s _ k=>k.zb
 | .v k=>k.zb
 | .a _=>[]
def wY:List It→Type
 | []=>Unit
 | [i]=>i.den
 | i::j::r=>i.den×wY (j::r)
def zbo:yp→Nat
 | .arr v _ _=>v
 | _=>0
def wo(st:St)(b:Nat):Nat:=match st[b]? with | some x=>zbo x | none=>0
def vo(st:St):(l:List Sk)→eK l→List D
 | [],_=>[]
 | .im τ::r,x=>AM.flat τ x.1++vo st r x.2
 | .row b e::r,x=>.ms b (wo st b) e 0 (wo st b)::vo st r x
 | .op b T::r,x=>.yr b T::vo st r x
 | .un::r,x=>.ZV::vo st r x
def ru(st:St):(k:Dk)→k.den→D
 | .zU τ,x=>.zU τ x
 | .xx τ,x=>.xx τ x
 | .sub b e,x=>.ms b (wo st b) e x.1 x.2
 | .xr f caps,x=>.xr f (nO caps x)
 | .st ks,x=>.agg (vo st ks x)
 | .mclo f ms,x=>.xr f (ZB ms x)
def D3(st:St):Ck→D
 | .ptr b off=>.ptr b off
 | .cur b e=>.ms b (wo st b) e 0 (wo st b)
 | .xw=>.xw
 | .yI=>.yI
 | .wb=>.wb
 | .xr f l=>.xr f (l.map fun p=>.ptr p.1 p.2)
def iB(st:St):(l:List It)→wY l→Fr
 | [],_=>[]
 | [.s t k],x=>[(t,some (ru st k x))]
 | [.v _],_=>[]
 | [.a _],_=>[]
 | .s t k::j::r,x=>(t,some (ru st k x.1))::iB st (j::r) x.2
 | .v _::j::r,x=>iB st (j::r) x.2
 | .a _::j::r,x=>iB st (j::r) x.2
def z7p(st:St)(l:List (Nat×Ck)):Fr:=l.map fun p=>(p.1,some (D3 st p.2))
inductive Bd where
 | v (k:Dk) (x:k.den) | a (e:Ty) (x:List (AM.den e))
def nM:(l:List It)→wY l→List Bd
 | [],_=>[]
 | [.s _ _],_=>[]
 | [.v k],x=>[.v k x]
 | [.a e],x=>[.a e x]
 | .s _ _::j::r,x=>nM (j::r) x.2
 | .v k::j::r,x=>.v k x.1::nM (j::r) x.2
 | .a e::j::r,x=>.a e x.1::nM (j::r) x.2
def bI:List Bk→List Bd→St
 | [],_=>[]
 | .arr _::r,.a e x::d=>.arr x.length e x::bI r d
 | .var _::r,_::d=>.dead::bI r d
 | .cvar _::r,d=>.dead::bI r d
 | .dead::r,d=>.dead::bI r d
 | _::_,_=>[]
def vM(st:St):List Bk→List Bd→St
 | [],_=>[]
 | .arr _::r,.a e x::d=>.arr x.length e x::vM st r d
 | .var _::r,.v k x::d=>.var (ru st k x)::vM st r d
 | .cvar c::r,d=>.var (D3 st c)::vM st r d
 | .dead::r,d=>.dead::vM st r d
 | _::_,_=>[]
def zgt(bs:List Bk)(d:List Bd):St:=vM (bI bs d) bs d
structure mH where
 ry:List It
 cs:List (Nat×Ck)
 bs:List Bk
def mH.den(s:mH):Type:=wY s.ry
def mH.st(s:mH)(x:s.den):St:=zgt s.bs (nM s.ry x)
def mH.fr(s:mH)(x:s.den):Fr:=iB (s.st x) s.ry x++z7p (s.st x) s.cs
def Lg:(p:WB)→D→Option (den p.ty)
 | .rp τ,d=>match d with | .xx _ x=>vW x | _=>none
 | .im τ,d=>dX τ d
def Fh:(l:List WB)→List D→Option (bH l)
 | [],[]=>some ()
 | [p],[d]=>Lg p d
 | p::q::r,d::ds=>(Lg p d).bind fun x=>(Fh (q::r) ds).bind fun y=>some (x,y)
 | _,_=>none
def cm(st:St)(b:Nat):Nat:=match st[b]? with | some (.arr _ _ xs)=>xs.length | _=>0
def PE(st:St)(b T:Nat)(ds:List D):Option (List D):=match st[b]? with
 | some (.var _)=>match ds with
  | .dp T'::ds=>bif Nat.beq T T' then some ds else none
  | .yr b' T'::ds=>bif Nat.beq b b'&&Nat.beq T T' then some ds else none
  | _=>none
 | _=>none
def z6i(ds:List D):Option (List D):=match ds with
 | d::ds=>bif d.one then some ds else none
 | _=>none
def fN(st:St):(l:List Sk)→List D→T (eK l)
 | [],ds=>match ds with | []=>.ret () | _=>.fail
 | .im τ::r,ds=>match jE τ ds with | some p=>(fN st r p.2).bind fun y=>.ret (p.1,y) | none=>.fail
 | .row b e::r,ds=>match ds with
  | .ms b' qY e' off len::ds=>bif Nat.beq b b'&&decide (e=e')then .zd (zh qY off len (cm st b)) (fN st r ds)else .fail
  | _=>.fail
 | .op b T::r,ds=>match PE st b T ds with | some q=>fN st r q | none=>.fail
 | .un::r,ds=>match z6i ds with | some q=>fN st r q | none=>.fail
def Zp:(l:List Mc)→List D→T (ov l)
 | [],ds=>match ds with | []=>.ret () | _=>.fail
 | .im τ::r,ds=>match ds with
  | d::ds=>match dX τ d with | some y=>(Zp r ds).bind fun z=>.ret (y,z) | none=>.fail
  | _=>.fail
 | .rp τ::r,ds=>match ds with
  | .xx _ x::ds=>match(vW x:Option (AM.den τ))with | some y=>(Zp r ds).bind fun z=>.ret (y,z) | none=>.fail
  | _=>.fail
 | .pt b::r,ds=>match ds with
  | .ptr b' off::ds=>bif Nat.beq b b'&&Nat.beq off 0 then Zp r ds else .fail
  | _=>.fail
def Qz(st:St):(k:Dk)→D→T k.den
 | .zU τ,d=>.U7 (dX τ d)
 | .xx τ,d=>match d with | .xx _ x=>.U7 (vW x) | _=>.fail
 | .sub b e,d=>match d with
  | .ms b' qY e' off len=>bif Nat.beq b b'&&decide (e=e')then .zd (qY=wo st b) (.ret (off,len))else .fail
  | _=>.fail
 | .xr f caps,d=>match d with
  | .xr f' l=>bif Nat.beq f f' then .U7 (Fh caps l)else .fail
  | _=>.fail
 | .st ks,d=>bif d.eH then fN st ks (qt d)else .fail
 | .mclo f ms,d=>match d with
  | .xr f' l=>bif Nat.beq f f' then Zp ms l else .fail
  | _=>.fail
def Qc:List (Nat×Nat)→List D→Bool
 | [],[]=>true
 | p::r,.ptr b off::ds=>Nat.beq p.1 b&&Nat.beq p.2 off&&Qc r ds
 | _,_=>false
def UA(st:St):Ck→D→T Unit
 | .ptr b off,d=>match d with | .ptr b' off'=>bif Nat.beq b b'&&Nat.beq off off' then .ret ()else .fail | _=>.fail
 | .cur b e,d=>match d with
  | .ms b' qY e' off len=>bif Nat.beq b b'&&decide (e=e')then .zd (zh qY off len (cm st b)) (.ret ())else .fail
  | _=>.fail
 | .xw,d=>match d with | .xw=>.ret () | _=>.fail
 | .yI,d=>match d with | .yI=>.ret () | _=>.fail
 | .wb,d=>match d with | .wb=>.ret () | _=>.fail
 | .xr f l,d=>match d with | .xr f' l'=>bif Nat.beq f f'&&Qc l l' then .ret ()else .fail | _=>.fail
def z2Q(fr:Fr)(st:St):List (Nat×Ck)→T Unit
 | []=>.ret ()
 | p::r=>match fr.get p.1 with
  | some d=>(UA st p.2 d).bind fun _=>z2Q fr st r
  | none=>.fail
def Tl(e:Ty)(b:yp):T (List (den e)):=match b with
 | .arr qY _ xs=>match(vW (a:=.sl _) (b:=.sl e) xs:Option (List (den e)))with
  | some ys=>.zd (qY=ys.length) (.ret ys)
  | none=>.fail
 | _=>.fail
def Dk.plain:Dk→Bool
 | .zU _=>true
 | .xx _=>true
 | .st _=>true
 | _=>false
def RM(st:St)(k:Dk)(b:yp):T k.den:=match b with
 | .var d=>bif k.plain then Qz st k d else .fail
 | _=>.fail
def I7:yp→Bool | .var _=>true | _=>false
def Yu(st:St):List Bk→List yp→T (List yp)
 | [],_=>.ret []
 | .arr _::r,b::bl=>(Yu st r bl).bind fun l=>.ret (b::l)
 | .var _::r,b::bl=>(Yu st r bl).bind fun l=>.ret (b::l)
 | .cvar c::r,.var d::bl=>(UA st c d).bind fun _=>Yu st r bl
 | .dead::r,b::bl=>bif I7 b then .fail else Yu st r bl
 | _,_=>.fail
def DE(fr:Fr)(st:St)(bl:List yp):(i:It)→T (i.den×List yp)
 | .s t k=>match fr.get t with | some d=>(Qz st k d).bind fun x=>.ret (x,bl) | none=>.fail
 | .v k=>match bl with | b::r=>(RM st k b).bind fun x=>.ret (x,r) | []=>.fail
 | .a e=>match bl with | b::r=>(Tl e b).bind fun x=>.ret (x,r) | []=>.fail
def D5{α:Type}(x:α×List yp):T α:=match x.2 with | []=>.ret x.1 | _=>.fail
def GU(fr:Fr)(st:St):(l:List It)→List yp→T (wY l)
 | [],bl=>D5 ((),bl)
 | [i],bl=>(DE fr st bl i).bind D5
 | i::j::r,bl=>(DE fr st bl i).bind fun x=>(GU fr st (j::r) x.2).bind fun y=>.ret (x.1,y)
def rowAt(bs:List Bk)(b:Nat):Bool:=match bs[b]? with | some (.arr _)=>true | _=>false
def Vm(bs:List Bk)(b:Nat):Bool:=match bs[b]? with | some (.var _)=>true | some (.cvar _)=>true | _=>false
def z1E(bs:List Bk):Sk→Bool
 | .row b _=>rowAt bs b
 | .op b _=>Vm bs b
 | _=>true
def zch(bs:List Bk):Mc→Bool
 | .pt b=>Vm bs b
 | _=>true
def Eb(bs:List Bk):Dk→Bool
 | .mclo _ ms=>ms.all (zch bs)
 | .sub b _=>rowAt bs b
 | .st ks=>ks.all (z1E bs)
 | _=>true
def OM(bs:List Bk):Ck→Bool
 | .ptr b _=>Vm bs b
 | .cur b _=>rowAt bs b
 | .xr _ l=>l.all fun p=>Vm bs p.1
 | _=>true
def zf3(bs:List Bk):It→Bool
 | .s _ k=>Eb bs k
 | .v k=>Eb bs k
 | .a _=>true
def zgS(bs:List Bk):Bk→Bool
 | .cvar c=>OM bs c
 | _=>true
def kinds:List It→List Bool
 | []=>[]
 | .s _ _::r=>kinds r
 | .v _::r=>false::kinds r
 | .a _::r=>true::kinds r
def gy:List Bk→List Bool→Bool
 | [],[]=>true
 | .arr _::bs,b::r=>b&&gy bs r
 | .var _::bs,b::r => !b&&gy bs r
 | .cvar _::bs,l=>gy bs l
 | .dead::bs,l=>gy bs l
 | _,_=>false
def mH.ok(s:mH):Bool:=gy s.bs (kinds s.ry)&&s.ry.all (zf3 s.bs)&&s.cs.all (fun p=>OM s.bs p.2)&&s.bs.all (zgS s.bs)
def mH.un(s:mH)(fr:Fr)(st:St):T s.den :=
 bif s.ok&&(st.take s.bs.length).all (Hk s.bs.length)then(z2Q fr st s.cs).bind fun _=>(Yu st s.bs st).bind fun bl=>GU fr st s.ry bl
 else .fail
structure Way where
 ex:Ex
 sh:mH
def yv:List Way→Type
 | []=>Empty
 | [w]=>w.sh.den
 | w::v::r=>w.sh.den⊕yv (v::r)
def L1{α:Type}:(l:List Way)→yv l→(Ex→Fr→St→T α)→T α
 | [],x,_=>nomatch x
 | [w],x,k=>k w.ex (w.sh.fr x) (w.sh.st x)
 | w::v::r,x,k=>Sum.elim (fun a=>k w.ex (w.sh.fr a) (w.sh.st a)) (fun b=>L1 (v::r) b k) x
def rF:Ex→Ex→Bool
 | .normal,.normal=>true
 | .ret,.ret=>true
 | .exit a,.exit b=>Nat.beq a b
 | .cg (.iface t _),.cg (.iface t' _)=>Nat.beq t t'
 | _,_=>false
def Ys:Ex→Fr→Fr
 | .cg (.iface _ d),_=>[(0,some d)]
 | _,fr=>fr
def Di:Ex→Fr→Option (Ex×Fr)
 | .cg (.iface t _),fr=>match fr.get 0 with | some d=>some (.cg (.iface t d),[]) | none=>none
 | .cg _,_=>none
 | e,fr=>some (e,fr)
def Hn:(l:List Way)→Ex→Fr→St→T (yv l)
 | [],_,_,_=>.fail
 | [w],ex,fr,st=>bif rF w.ex ex then w.sh.un fr st else .fail
 | w::v::r,ex,fr,st=>bif rF w.ex ex then(w.sh.un fr st).bind fun x=>.ret (.inl x)else(Hn (v::r) ex fr st).bind fun y=>.ret (.inr y)
end Go.AM
namespace Go.AM
set_option linter.unusedSectionVars false
variable [uH] [BK]
section
variable {c:Ctx} {n:Nat}
theorem get_mem:∀ {l:Fr} {s:Nat} {d:D},l.get s=some d→(s,some d)∈l
 | [],s,d,h=>by cases h
 | (t,d')::r,s,d,h=>by
  simp only[Fr.get]at h
  cases ht:Nat.beq t s with
  | true =>
   rw[ht,cond_true]at h
   rw[Nat.eq_of_beq_eq_true ht,h]
   exact List.mem_cons_self
  | false=>rw[ht,cond_false]at h; exact List.mem_cons_of_mem _ (get_mem h)
theorem get_append{l m:Fr}{s:Nat}{d:D}(h:(l++m).get s=some d):(s,some d)∈l∨m.get s=some d:=by
 induction l with
 | nil=>exact .inr h
 | cons p r ih =>
  obtain⟨t,d'⟩:=p
  simp only[List.cons_append,Fr.get]at h
  cases ht:Nat.beq t s with
  | true=>rw[ht,cond_true]at h; rw[Nat.eq_of_beq_eq_true ht,h]; exact .inl List.mem_cons_self
  | false=>rw[ht,cond_false]at h; exact cp (ih h) (List.mem_cons_of_mem _) id
structure Wk(κ κ':KS):Prop where
 w:κ'.w=κ.w
 ok:κ'.ok=κ.ok
 ph:κ'.ph=κ.ph
 len:κ'.st.length=κ.st.length
 var:∀ (b:Nat) (d:D),κ.st[b]? = some (yp.var d)→∃ d',κ'.st[b]? = some (yp.var d')
 arr:∀ (b v:Nat) (e:Ty) (xs:List (den e)),κ.st[b]? = some (yp.arr v e xs)→κ'.st[b]? = some (yp.arr v e xs)∨κ'.st[b]? = some yp.dead
 arr':∀ (b v:Nat) (e:Ty) (xs:List (den e)),κ'.st[b]? = some (yp.arr v e xs)→κ.st[b]? = some (yp.arr v e xs)
 dead:∀ (b:Nat),κ.st[b]? = some yp.dead→κ'.st[b]? = some yp.dead
theorem Wk.ext{κ κ':KS}(h:Wk κ κ'):Ext κ κ':=by
 refine⟨by rw[h.w],by rw[h.w],by rw[h.w],by rw[h.w]; exact Nat.le_refl _,fun k hk=>⟨by rw[h.ok]; exact hk,by rw[h.w]⟩,fun k hk=>.inl (by rw[← h.ok]; exact hk),
  fun b blk m hb=>.inl (by rw[← h.ph]; exact hb),fun b d hd=>⟨h.var b d hd,by rw[h.ph]⟩,fun b v0 e xs hb => ?_,h.dead,by rw[h.len]; exact Nat.le_refl _,fun k _ _=>by rw[h.w]⟩
 rcases h.arr b v0 e xs hb with g | g
 ·exact .inr ⟨v0,xs,g,Nat.le_refl _,fun _=>⟨by rw[h.ph],rfl⟩⟩
 ·exact .inl g
theorem Wk.rd{κ κ':KS}(h:Wk κ κ'){d:D}{v:Value}(hd:RD κ d v):RD κ' d v:=hd.mono h.ext
theorem Wk.inv{κ κ':KS}(h:Wk κ κ')(hI:Inv κ)(hv:∀ (b:Nat) (d:D),κ'.st[b]? = some (yp.var d)→fP κ' b (.var d)):Inv κ':=by
 refine⟨by rw[h.ph,h.len]; exact hI.len,fun k hk=>by rw[h.w]; exact hI.yi k (by rw[← h.ok]; exact hk),fun b blk m hb => ?_,fun b b' blk m m' hb ZI=>hI.inj b b' blk m m' (by rw[← h.ph]; exact hb) (by rw[← h.ph]; exact ZI),fun b x hx => ?_,hI.gl.mono h.ext.same⟩
 ·obtain⟨g1,g2⟩:=hI.apart b blk m (by rw[← h.ph]; exact hb)
  exact⟨by rw[h.w]; exact g1,fun hk=>g2 (by rw[← h.ok]; exact hk)⟩
 ·cases x with
  | dead=>trivial
  | var d=>exact hv b d hx
  | arr v e xs=>exact(hI.blk b _ (h.arr' b v e xs hx)).mono h.ext (by rw[h.ph]) fun blk m _=>by rw[h.w]
theorem KF{p:WB}{d:D}{x:den p.ty}(h:Lg p d=some x){κ:KS}{v:Value}(hd:RD κ d v):RD κ (GP p x) v:=by
 cases p with
 | rp τ =>
  cases d<;>simp only[Lg]at h<;>try (cases h; done)
  obtain⟨e,hx⟩:=qE h
  cases e
  cases hx
  exact hd
 | im τ=>exact cL hd h
theorem Vn{κ:KS}:∀ (l:List WB) (ds:List D) (x:bH l) (vs:List Value),Fh l ds=some x→xz κ ds vs→xz κ (nO l x) vs
 | [],[],x,vs,_,hd=>by rw[hd.qI]; exact .nil
 | [],_::_,_,_,h,_=>nomatch h
 | [p],[],_,_,h,_=>nomatch h
 | [p],[d],x,vs,h,hd=>by
  obtain⟨v,us,rfl,h1,h2⟩:=hd.cons_inv
  rw[h2.qI]
  exact .cons (KF h h1) .nil
 | [p],_::_::_,_,_,h,_=>nomatch h
 | p::q::r,[],_,_,h,_=>nomatch h
 | p::q::r,d::ds,x,vs,h,hd=>by
  obtain⟨y,hy,h⟩:=Option.bind_eq_some_iff.1 h
  obtain⟨z,hz,h⟩:=Option.bind_eq_some_iff.1 h
  cases h
  obtain⟨v,us,rfl,h1,h2⟩:=hd.cons_inv
  exact .cons (KF hy h1) (Vn (q::r) ds z us hz h2)
theorem z0J{κ:KS}{d:D}{v:Value}(hd:RD κ d v)(ha:d.eH=true):∃ c,v=.agg c:=by
 cases hd with
 | zU τ x cs h=>exact⟨cs.toArray,by unfold pk; rw[show τ.isAgg=true from ha]; rfl⟩
 | agg l vs hl ho h=>exact⟨_,rfl⟩
 | _=>cases ha
theorem z3m{κ:KS}{b T:Nat}{ds q:List D}{vs:List Value}(hd:xz κ ds vs)(h:PE κ.st b T ds=some q):∃ v us,vs=v::us∧RD κ (.yr b T) v∧xz κ q us:=by
 unfold PE at h
 split at h
 ·rename_i d0 HI
  split at h
  ·rename_i T' ds
   cases hb:Nat.beq T T' with
   | false=>rw[hb]at h; cases h
   | true =>
    rw[hb]at h
    cases h
    obtain⟨v,us,rfl,g1,g2⟩:=hd.cons_inv
    exact⟨v,us,rfl,by cases g1; exact .dU b T d0 HI,g2⟩
  ·rename_i b' T' ds
   cases hb:Nat.beq b b'&&Nat.beq T T' with
   | false=>rw[hb]at h; cases h
   | true =>
    rw[hb]at h
    cases h
    simp only[Bool.and_eq_true]at hb
    have e1:=Nat.eq_of_beq_eq_true hb.1
    have e2:=Nat.eq_of_beq_eq_true hb.2
    subst e1 e2
    obtain⟨v,us,rfl,g1,g2⟩:=hd.cons_inv
    exact⟨v,us,rfl,g1,g2⟩
  ·cases h
 ·cases h
theorem Ih{st:St}{b T:Nat}{ds q:List D}(h:PE st b T ds=some q):b7 ds=some T:=by
 unfold PE at h
 split at h
 ·split at h
  ·rename_i T' ds
   cases hb:Nat.beq T T' with
   | false=>rw[hb]at h; cases h
   | true=>rw[Nat.eq_of_beq_eq_true hb]; rfl
  ·rename_i b' T' ds
   cases hb:Nat.beq b b'&&Nat.beq T T' with
   | false=>rw[hb]at h; cases h
   | true =>
    simp only[Bool.and_eq_true]at hb
    rw[Nat.eq_of_beq_eq_true hb.2]; rfl
  ·cases h
 ·cases h
theorem z2W{κ:KS}{ds q:List D}{vs:List Value}(hd:xz κ ds vs)(h:z6i ds=some q):∃ v us,vs=v::us∧RD κ .ZV v∧xz κ q us:=by
 unfold z6i at h
 split at h
 ·rename_i d ds
  cases hb:d.one with
  | false=>rw[hb]at h; cases h
  | true =>
   rw[hb]at h
   cases h
   obtain⟨v,us,rfl,g1,g2⟩:=hd.cons_inv
   exact⟨v,us,rfl,.ZV v (g1.J4 hb),g2⟩
 ·cases h
theorem fB{κ:KS}{zO:St}{bs:List Bk}(iE:∀ b,rowAt bs b=true→wo zO b=cm κ.st b):∀ (ks:List Sk) (ds:List D) (x:eK ks) (vs:List Value),ks.all (z1E bs)=true→(fN κ.st ks ds).leads x→xz κ ds vs →
  xz κ (vo zO ks x) vs∧∀ d∈vo zO ks x,d.one=true
 | [],ds,x,vs,_,h,hd=>by
  cases ds with
  | nil=>exact⟨hd,fun d hm=>by cases hm⟩
  | cons d r=>exact h.elim
 | .im τ::r,ds,x,vs,ho,h,hd=>by
  simp only[fN]at h
  split at h
  ·rename_i p hp
   obtain⟨y,h1,h2⟩:=T.zg.1 h
   cases h2
   obtain⟨c1,c2,rfl,g1,g2⟩:=tH τ hd hp
   simp only[List.all_cons,Bool.and_eq_true]at ho
   obtain⟨k1,k2⟩:=fB iE r p.2 y c2 ho.2 h1 g2
   refine⟨(sa g1).append k1,fun d hm => ?_⟩
   rcases List.mem_append.1 (show d∈flat τ p.1++vo zO r y from hm)with hm | hm
   ·exact dK τ _ d hm
   ·exact k2 d hm
  ·exact h.elim
 | .row b e::r,ds,x,vs,ho,h,hd=>by
  cases ds with
  | nil=>exact h.elim
  | cons d ds =>
   cases d<;>simp only[fN]at h<;>try (exact h.elim)
   rename_i b' qY e' off len
   cases hb:Nat.beq b b'&&decide (e=e')with
   | false=>rw[hb]at h; exact h.elim
   | true =>
    rw[hb,cond_true]at h
    simp only[Bool.and_eq_true,decide_eq_true_eq]at hb
    obtain⟨⟨h1,h2,h3⟩,h⟩:=h
    have:=Nat.eq_of_beq_eq_true hb.1
    obtain⟨-,rfl⟩:=hb
    subst this
    obtain⟨v,us,rfl,g1,g2⟩:=hd.cons_inv
    simp only[List.all_cons,Bool.and_eq_true]at ho
    obtain⟨k1,k2⟩:=fB iE r ds x us ho.2 h g2
    have e1:vo zO (.row b e::r) x=.ms b qY e off len::vo zO r x:=by
     show D.ms b (wo zO b) e 0 (wo zO b)::_=_
     rw[iE b ho.1,h1,h2,h3]
    rw[e1]
    refine⟨.cons g1 k1,fun d hm => ?_⟩
    rcases List.mem_cons.1 hm with rfl | hm
    ·rfl
    ·exact k2 d hm
 | .op b T::r,ds,x,vs,ho,h,hd=>by
  simp only[List.all_cons,Bool.and_eq_true]at ho
  simp only[fN]at h
  split at h
  ·rename_i q hq
   obtain⟨v,us,rfl,g0,g2⟩:=z3m hd hq
   obtain⟨k1,k2⟩:=fB iE r q x us ho.2 h g2
   refine⟨show xz κ (D.yr b T::vo zO r x) (v::us)from .cons g0 k1,fun d hm => ?_⟩
   rcases List.mem_cons.1 (show d∈D.yr b T::vo zO r x from hm)with rfl | hm
   ·rfl
   ·exact k2 d hm
  ·exact h.elim
 | .un::r,ds,x,vs,ho,h,hd=>by
  simp only[List.all_cons,Bool.and_eq_true]at ho
  simp only[fN]at h
  split at h
  ·rename_i q hq
   obtain⟨v,us,rfl,g0,g2⟩:=z2W hd hq
   obtain⟨k1,k2⟩:=fB iE r q x us ho.2 h g2
   refine⟨show xz κ (D.ZV::vo zO r x) (v::us)from .cons g0 k1,fun d hm => ?_⟩
   rcases List.mem_cons.1 (show d∈D.ZV::vo zO r x from hm)with rfl | hm
   ·rfl
   ·exact k2 d hm
  ·exact h.elim
theorem sr{st zO:St}{bs:List Bk}(h:∀ b,rowAt bs b=true→wo st b=wo zO b):∀ (ks:List Sk) (x:eK ks),ks.all (z1E bs)=true→vo st ks x=vo zO ks x
 | [],_,_=>rfl
 | .im τ::r,x,ho=>by
  simp only[List.all_cons,Bool.and_eq_true]at ho
  show flat τ x.1++vo st r x.2=flat τ x.1++vo zO r x.2
  rw[sr h r x.2 ho.2]
 | .row b e::r,x,ho=>by
  simp only[List.all_cons,Bool.and_eq_true]at ho
  show D.ms b (wo st b) e 0 (wo st b)::vo st r x=D.ms b (wo zO b) e 0 (wo zO b)::vo zO r x
  rw[sr h r x ho.2,h b ho.1]
 | .op b T::r,x,ho=>by
  simp only[List.all_cons,Bool.and_eq_true]at ho
  show D.yr b T::vo st r x=D.yr b T::vo zO r x
  rw[sr h r x ho.2]
 | .un::r,x,ho=>by
  simp only[List.all_cons,Bool.and_eq_true]at ho
  show D.ZV::vo st r x=D.ZV::vo zO r x
  rw[sr h r x ho.2]
theorem Ka:∀ (τ:Ty) (x:den τ),∀ y∈flat τ x,∃ σ z,y=.zU σ z:=by
 intro τ x y hy
 induction τ with
 | cons a b ia ib =>
  simp only[flat,List.mem_append]at hy
  rcases hy with hy | hy
  ·exact ia _ hy
  ·exact ib _ hy
 | nil=>simp[flat]at hy
 | expr=>simp[flat]at hy; rcases hy with rfl | rfl | rfl | rfl | rfl | rfl<;>exact⟨_,_,rfl⟩
 | _=>simp[flat]at hy; subst hy; exact⟨_,_,rfl⟩
theorem Be:∀ (τ:Ty) {ds:List D} {p:den τ×List D},jE τ ds=some p→τ.size=0→p.2=ds:=by
 intro τ
 induction τ with
 | nil=>intro ds p h _; simp only[jE,Option.some.injEq]at h; subst h; rfl
 | cons a b ia ib =>
  intro ds p h hz
  simp only[Ty.size]at hz
  simp only[jE]at h
  split at h
  ·rename_i q hq
   split at h
   ·rename_i q' hq'
    cases h
    have h1:=ia hq (by omega)
    have h2:=ib hq' (by omega)
    simp only at h1 h2 ⊢
    rw[h2,h1]
   ·cases h
  ·cases h
 | _=>intro ds p h hz; simp[Ty.size]at hz
theorem Vg{st zO:St}{tt:Nat}:∀ (ks:List Sk) (ds:List D) (x:eK ks),(fN st ks ds).leads x→b7 (vo zO ks x)=some tt→b7 ds=some tt
 | [],ds,x,h,ht=>by cases ht
 | .im τ::r,ds,x,h,ht=>by
  simp only[fN]at h
  split at h
  ·rename_i p hp
   obtain⟨y,h1,h2⟩:=T.zg.1 h
   cases h2
   have ht':b7 (flat τ p.1++vo zO r y)=some tt:=ht
   cases hf:flat τ p.1 with
   | nil =>
    rw[hf]at ht'
    have hz:τ.size=0:=by rw[← kO τ p.1,hf]; rfl
    have:=Be τ hp hz
    rw[← this]
    exact Vg r p.2 y h1 ht'
   | cons z zs =>
    rw[hf]at ht'
    obtain⟨σ,w,e⟩:=Ka τ p.1 z (by rw[hf]; simp)
    rw[e]at ht'
    cases ht'
  ·exact h.elim
 | .row b e::r,ds,x,h,ht=>by cases ht
 | .op b T'::r,ds,x,h,ht=>by
  simp only[fN]at h
  split at h
  ·rename_i q hq
   cases ht
   exact Ih hq
  ·exact h.elim
 | .un::r,ds,x,h,ht=>by cases ht
theorem Ug{d:D}{T:Nat}(ha:d.eH=true)(h:b7 (qt d)=some T):d.typed=some T:=by
 cases d with
 | zU τ x =>
  exfalso
  simp only[qt]at h
  cases hf:flat τ x with
  | nil=>rw[hf]at h; cases h
  | cons z zs =>
   obtain⟨σ,w,e⟩:=Ka τ x z (by rw[hf]; simp)
   rw[hf,e]at h
   cases h
 | agg l=>exact h
 | _=>cases ha
theorem Hp{m:Nat}(τ:Ty)(x:den τ):∀ d∈flat τ x,vN m d=true:=fun d hd=>by
 obtain⟨σ,z,rfl⟩:=Ka τ x d hd
 rfl
theorem yf{m:Nat}{st:St}{bs:List Bk}(hb:∀ b,rowAt bs b=true→b<m)(T4:∀ b,Vm bs b=true→b<m):∀ (ks:List Sk) (x:eK ks),ks.all (z1E bs)=true→∀ d∈vo st ks x,vN m d=true
 | [],_,_,d,hd=>by cases hd
 | .im τ::r,x,ho,d,hd=>by
  simp only[List.all_cons,Bool.and_eq_true]at ho
  rcases List.mem_append.1 (show d∈flat τ x.1++vo st r x.2 from hd)with hd | hd
  ·exact Hp τ _ d hd
  ·exact yf hb T4 r x.2 ho.2 d hd
 | .row b e::r,x,ho,d,hd=>by
  simp only[List.all_cons,Bool.and_eq_true]at ho
  rcases List.mem_cons.1 (show d∈D.ms b (wo st b) e 0 (wo st b)::vo st r x from hd)with rfl | hd
  ·have:=hb b ho.1
   simp only[vN,Nat.blt,Nat.ble_eq]; exact this
  ·exact yf hb T4 r x ho.2 d hd
 | .op b T::r,x,ho,d,hd=>by
  simp only[List.all_cons,Bool.and_eq_true]at ho
  rcases List.mem_cons.1 (show d∈D.yr b T::vo st r x from hd)with rfl | hd
  ·have:=T4 b ho.1
   simp only[vN,Nat.blt,Nat.ble_eq]; exact this
  ·exact yf hb T4 r x ho.2 d hd
 | .un::r,x,ho,d,hd=>by
  simp only[List.all_cons,Bool.and_eq_true]at ho
  rcases List.mem_cons.1 (show d∈D.ZV::vo st r x from hd)with rfl | hd
  ·rfl
  ·exact yf hb T4 r x ho.2 d hd
theorem tY{κ:KS}:∀ (ms:List Mc) (ds:List D) (x:ov ms) (vs:List Value),(Zp ms ds).leads x→xz κ ds vs→xz κ (ZB ms x) vs
 | [],ds,x,vs,h,hd=>by
  cases ds with
  | nil=>exact hd
  | cons d r=>exact h.elim
 | .im τ::r,ds,x,vs,h,hd=>by
  cases ds with
  | nil=>exact h.elim
  | cons d ds =>
   simp only[Zp]at h
   split at h
   ·rename_i y hy
    obtain⟨z,h1,h2⟩:=T.zg.1 h
    cases h2
    obtain⟨v,us,rfl,g1,g2⟩:=hd.cons_inv
    exact .cons (cL g1 hy) (tY r ds z us h1 g2)
   ·exact h.elim
 | .rp τ::r,ds,x,vs,h,hd=>by
  cases ds with
  | nil=>exact h.elim
  | cons d ds =>
   cases d<;>simp only[Zp]at h<;>try (exact h.elim)
   split at h
   ·rename_i y hy
    obtain⟨e,hx⟩:=qE hy
    cases e
    cases hx
    obtain⟨z,h1,h2⟩:=T.zg.1 h
    cases h2
    obtain⟨v,us,rfl,g1,g2⟩:=hd.cons_inv
    exact .cons g1 (tY r ds z us h1 g2)
   ·exact h.elim
 | .pt b::r,ds,x,vs,h,hd=>by
  cases ds with
  | nil=>exact h.elim
  | cons d ds =>
   cases d<;>simp only[Zp]at h<;>try (exact h.elim)
   rename_i b' off
   cases hb:Nat.beq b b'&&Nat.beq off 0 with
   | false=>rw[hb]at h; exact h.elim
   | true =>
    rw[hb]at h
    replace h:(Zp r ds).leads x:=h
    simp only[Bool.and_eq_true]at hb
    have e1:=Nat.eq_of_beq_eq_true hb.1
    have e2:=Nat.eq_of_beq_eq_true hb.2
    subst e1 e2
    obtain⟨v,us,rfl,g1,g2⟩:=hd.cons_inv
    exact .cons g1 (tY r ds x us h g2)
theorem eZ{m:Nat}{bs:List Bk}(hb:∀ b,Vm bs b=true→b<m):∀ (ms:List Mc) (x:ov ms),ms.all (zch bs)=true→∀ d∈ZB ms x,vN m d=true
 | [],_,_,d,hd=>by cases hd
 | .im τ::r,x,ho,d,hd=>by
  simp only[List.all_cons,Bool.and_eq_true]at ho
  rcases List.mem_cons.1 (show d∈D.zU τ x.1::ZB r x.2 from hd)with rfl | hd
  ·rfl
  ·exact eZ hb r x.2 ho.2 d hd
 | .rp τ::r,x,ho,d,hd=>by
  simp only[List.all_cons,Bool.and_eq_true]at ho
  rcases List.mem_cons.1 (show d∈D.xx τ x.1::ZB r x.2 from hd)with rfl | hd
  ·rfl
  ·exact eZ hb r x.2 ho.2 d hd
 | .pt b::r,x,ho,d,hd=>by
  simp only[List.all_cons,Bool.and_eq_true]at ho
  rcases List.mem_cons.1 (show d∈D.ptr b 0::ZB r x from hd)with rfl | hd
  ·have:=hb b ho.1
   simp only[vN,Nat.blt,Nat.ble_eq]; exact this
  ·exact eZ hb r x ho.2 d hd
theorem Hr{κ κ':KS}(hw:Wk κ κ'){k:Dk}{d:D}{x:k.den}{v:Value}{bs:List Bk}(wm:Eb bs k=true)(iE:∀ b,rowAt bs b=true→wo κ'.st b=wo κ.st b)
  {zO:St} (xR:∀ b,rowAt bs b=true→wo zO b=wo κ'.st b) (hlen:∀ b,rowAt bs b=true→wo κ.st b=cm κ.st b) (h:(Qz κ.st k d).leads x) (hd:RD κ d v):RD κ' (ru zO k x) v:=by
 cases k with
 | zU τ=>exact hw.rd (cL hd (T.uh.1 h))
 | xx τ =>
  cases d<;>simp only[Qz]at h<;>try (exact h.elim)
  obtain⟨e,hx⟩:=qE (T.uh.1 h)
  cases e
  cases hx
  exact hw.rd hd
 | sub b e =>
  cases d<;>simp only[Qz]at h<;>try (exact h.elim)
  rename_i b' qY e' off len
  cases hb:Nat.beq b b'&&decide (e=e')with
  | false=>rw[hb]at h; exact h.elim
  | true =>
   rw[hb,cond_true]at h
   simp only[Bool.and_eq_true,decide_eq_true_eq]at hb
   obtain⟨hv,h⟩:=h
   cases h
   have:=Nat.eq_of_beq_eq_true hb.1
   obtain⟨-,rfl⟩:=hb
   subst this
   simp only[ru]
   rw[xR b wm,iE b wm,← hv]
   exact hw.rd hd
 | xr f caps =>
  cases d<;>simp only[Qz]at h<;>try (exact h.elim)
  rename_i f' l
  cases hb:Nat.beq f f' with
  | false=>rw[hb]at h; exact h.elim
  | true =>
   rw[hb,cond_true]at h
   have:=Nat.eq_of_beq_eq_true hb
   subst this
   have hx:=T.uh.1 h
   cases hd with
   | xr _ _ vs hl hh =>
    have:=Vn caps l x vs hx (⟨hl,hh⟩:xz κ l vs)
    exact hw.rd (.xr f _ vs this.1 this.2)
 | st ks =>
  simp only[Qz]at h
  cases ha:d.eH with
  | false=>rw[ha]at h; exact h.elim
  | true =>
   rw[ha]at h
   replace h:(fN κ.st ks (qt d)).leads x:=h
   have ht:d.uE=false:=by cases d<;>first | rfl | (simp[D.eH]at ha)
   obtain⟨g1,g2⟩:=fB (zO:=zO) (fun b hb=>(xR b hb).trans ((iE b hb).trans (hlen b hb))) ks (qt d) x _ wm h (jz hd ht)
   obtain⟨c,hc⟩:=z0J hd ha
   subst hc
   have g1':xz κ (vo zO ks x) c.toList:=g1
   have:=RD.agg (κ:=κ) _ c.toList g1'.1 g2 g1'.2
   exact hw.rd (show RD κ (.agg (vo zO ks x)) (.agg c) by simpa using this)
 | mclo f ms =>
  cases d<;>simp only[Qz]at h<;>try (exact h.elim)
  rename_i f' l
  cases hb:Nat.beq f f' with
  | false=>rw[hb]at h; exact h.elim
  | true =>
   rw[hb]at h
   replace h:(Zp ms l).leads x:=h
   have:=Nat.eq_of_beq_eq_true hb
   subst this
   cases hd with
   | xr _ _ vs hl hh =>
    have:=tY ms l x vs h (⟨hl,hh⟩:xz κ l vs)
    exact hw.rd (show RD κ (.xr f (ZB ms x)) _ from .xr f _ vs this.1 this.2)
theorem H8:∀ {l:List (Nat×Nat)} {ds:List D},Qc l ds=true→ds=l.map fun p=>.ptr p.1 p.2
 | [],[],_=>rfl
 | [],_::_,h=>by simp[Qc]at h
 | p::r,[],h=>by simp[Qc]at h
 | p::r,d::ds,h=>by
  cases d<;>simp only[Qc]at h<;>try (cases h; done)
  simp only[Bool.and_eq_true]at h
  rw[H8 h.2,← Nat.eq_of_beq_eq_true h.1.1,← Nat.eq_of_beq_eq_true h.1.2]
  rfl
theorem z11{st zO:St}{ck:Ck}{d:D}{bs:List Bk}(wm:OM bs ck=true)(iE:∀ b,rowAt bs b=true→wo zO b=cm st b)(h:(UA st ck d).leads ()):D3 zO ck=d:=by
 cases ck with
 | ptr b off =>
  cases d<;>simp only[UA]at h<;>try (exact h.elim)
  rename_i b' off'
  cases hb:Nat.beq b b'&&Nat.beq off off' with
  | false=>rw[hb]at h; exact h.elim
  | true =>
   simp only[Bool.and_eq_true]at hb
   rw[← Nat.eq_of_beq_eq_true hb.1,← Nat.eq_of_beq_eq_true hb.2]
   rfl
 | cur b e =>
  cases d<;>simp only[UA]at h<;>try (exact h.elim)
  rename_i b' qY e' off len
  cases hb:Nat.beq b b'&&decide (e=e')with
  | false=>rw[hb]at h; exact h.elim
  | true =>
   rw[hb,cond_true]at h
   simp only[Bool.and_eq_true,decide_eq_true_eq]at hb
   obtain⟨⟨h1,h2,h3⟩,_⟩:=h
   have:=Nat.eq_of_beq_eq_true hb.1
   obtain⟨-,rfl⟩:=hb
   subst this
   simp only[D3]
   rw[iE b wm,h1,h2,h3]
 | xw=>cases d<;>simp only[UA]at h<;>first | rfl | exact h.elim
 | yI=>cases d<;>simp only[UA]at h<;>first | rfl | exact h.elim
 | wb=>cases d<;>simp only[UA]at h<;>first | rfl | exact h.elim
 | xr f l =>
  cases d<;>simp only[UA]at h<;>try (exact h.elim)
  rename_i f' l'
  cases hb:Nat.beq f f'&&Qc l l' with
  | false=>rw[hb]at h; exact h.elim
  | true =>
   simp only[Bool.and_eq_true]at hb
   rw[← Nat.eq_of_beq_eq_true hb.1,H8 hb.2]
   rfl
theorem Cw{fr:Fr}{st:St}:∀ {cs:List (Nat×Ck)},(z2Q fr st cs).leads ()→∀ p∈cs,∃ d,fr.get p.1=some d∧(UA st p.2 d).leads ()
 | [],_,p,hp=>by cases hp
 | q::r,h,p,hp=>by
  simp only[z2Q]at h
  split at h
  ·rename_i d hd
   simp only[T.zY]at h
   obtain⟨⟨⟩,h1,h2⟩:=h
   rcases List.mem_cons.1 hp with rfl | hp
   ·exact⟨d,hd,h1⟩
   ·exact Cw h2 p hp
  ·exact h.elim
def Ng(p:Dk→Bool)(st:St):List yp→List Bd→Prop
 | [],[]=>True
 | b::bl,.a e xs::r=>b=.arr xs.length e xs∧Ng p st bl r
 | b::bl,.v k x::r=>(∃ d,b=.var d∧(k.plain=true∧p k=true)∧(Qz st k d).leads x)∧Ng p st bl r
 | _,_=>False
theorem Ti{e:Ty}{b:yp}{x:List (den e)}(h:(Tl e b).leads x):b=.arr x.length e x:=by
 unfold Tl at h
 split at h
 ·split at h
  ·rename_i ys hy
   obtain⟨h1,h2⟩:=h
   cases h2
   obtain⟨he,hx⟩:=qE hy
   cases he
   cases hx
   rw[h1]
  ·exact h.elim
 ·exact h.elim
theorem R4{st:St}{k:Dk}{b:yp}{x:k.den}(h:(RM st k b).leads x):∃ d,b=.var d∧k.plain=true∧(Qz st k d).leads x:=by
 cases b with
 | var d =>
  simp only[RM]at h
  cases hp:k.plain with
  | false=>rw[hp]at h; exact h.elim
  | true=>rw[hp]at h; exact⟨d,rfl,rfl,h⟩
 | _=>exact h.elim
def YS(st:St):(i:It)→i.den→Fr
 | .s t k,x=>[(t,some (ru st k x))]
 | .v _,_=>[]
 | .a _,_=>[]
def Sv:(i:It)→i.den→List Bd
 | .s _ _,_=>[]
 | .v k,x=>[.v k x]
 | .a e,x=>[.a e x]
theorem Jr(st:St)(i:It)(x:i.den):iB st [i] x=YS st i x:=by cases i<;>rfl
theorem WS(st:St)(i j:It)(r:List It)(x:i.den×wY (j::r)):iB st (i::j::r) x=YS st i x.1++iB st (j::r) x.2:=by cases i<;>rfl
theorem Rl(i:It)(x:i.den):nM [i] x=Sv i x:=by cases i<;>rfl
theorem NP(i j:It)(r:List It)(x:i.den×wY (j::r)):nM (i::j::r) x=Sv i x.1++nM (j::r) x.2:=by cases i<;>rfl
def z9N(fr:Fr)(st zO:St)(l:List It)(p:Nat×Option D):Prop:=∃ (k:Dk) (y:k.den) (d:D),(It.s p.1 k)∈l∧fr.get p.1=some d∧(Qz st k d).leads y∧p.2=some (ru zO k y)
theorem Mp{p:Dk→Bool}{fr:Fr}{st zO:St}{bl:List yp}{i:It}{x:i.den×List yp}(hp:∀ k,i=.v k→p k=true)(h:(DE fr st bl i).leads x) :
  (∀ bd,Ng p st x.2 bd→Ng p st bl (Sv i x.1++bd))∧∀ p∈YS zO i x.1,z9N fr st zO [i] p:=by
 cases i with
 | s t k =>
  simp only[DE]at h
  split at h
  ·rename_i d hd
   rw[T.zY]at h
   obtain⟨y,h1,rfl⟩:=h
   refine⟨fun bd hb=>hb,fun p hp => ?_⟩
   simp only[YS,List.mem_singleton]at hp
   subst hp
   exact⟨k,y,d,by simp,hd,h1,rfl⟩
  ·exact h.elim
 | v k =>
  cases bl with
  | nil=>exact h.elim
  | cons b r =>
   simp only[DE]at h
   rw[T.zY]at h
   obtain⟨y,h1,rfl⟩:=h
   obtain⟨d,q1,q2,q3⟩:=R4 h1
   exact⟨fun bd hb=>⟨⟨d,q1,⟨q2,hp k rfl⟩,q3⟩,hb⟩,fun p hp=>by cases hp⟩
 | a e =>
  cases bl with
  | nil=>exact h.elim
  | cons b r =>
   simp only[DE]at h
   rw[T.zY]at h
   obtain⟨y,h1,rfl⟩:=h
   exact⟨fun bd hb=>⟨Ti h1,hb⟩,fun p hp=>by cases hp⟩
theorem CN{α:Type}{x:α×List yp}{y:α}(h:(D5 x).leads y):x=(y,[]):=by
 obtain⟨a,bl⟩:=x
 cases bl with
 | nil=>cases h; rfl
 | cons=>exact h.elim
theorem Wt{p:Dk→Bool}{fr:Fr}{st zO:St}:∀ (l:List It) (bl:List yp) (x:wY l),(∀ k,It.v k∈l→p k=true)→(GU fr st l bl).leads x →
  Ng p st bl (nM l x)∧∀ p∈iB zO l x,z9N fr st zO l p
 | [],bl,x,_,h=>by
  have h':(D5 ((),bl)).leads x:=h
  have:=CN h'
  cases this
  exact⟨trivial,fun p hp=>by cases hp⟩
 | [i],bl,x,hp,h=>by
  have h':((DE fr st bl i).bind D5).leads x:=h
  obtain⟨y,h1,h2⟩:=T.zg.1 h'
  have:=CN h2
  subst this
  obtain⟨g1,g2⟩:=Mp (p:=p) (zO:=zO) (fun k hk=>hp k (by simp[hk])) h1
  have e1:nM [i] x=Sv i x:=Rl i x
  have e2:iB zO [i] x=YS zO i x:=Jr zO i x
  rw[e1,e2]
  refine⟨?_,g2⟩
  have:=g1 [] trivial
  rwa [List.append_nil]at this
 | i::j::r,bl,x,hp,h=>by
  have h':((DE fr st bl i).bind fun x=>(GU fr st (j::r) x.2).bind fun y=>T.ret (x.1,y)).leads x:=h
  obtain⟨y,h1,h2⟩:=T.zg.1 h'
  obtain⟨z,h3,h4⟩:=T.zg.1 h2
  cases h4
  obtain⟨g1,g2⟩:=Mp (p:=p) (zO:=zO) (fun k hk=>hp k (by simp[hk])) h1
  obtain⟨k1,k2⟩:=Wt (p:=p) (zO:=zO) (j::r) y.2 z (fun k hk=>hp k (List.mem_cons_of_mem _ hk)) h3
  have e1:nM (i::j::r) (y.1,z)=Sv i y.1++nM (j::r) z:=NP i j r (y.1,z)
  have e2:iB zO (i::j::r) (y.1,z)=YS zO i y.1++iB zO (j::r) z:=WS zO i j r (y.1,z)
  rw[e1,e2]
  refine⟨g1 _ k1,fun p hp => ?_⟩
  rcases List.mem_append.1 hp with hp | hp
  ·obtain⟨k,w,d,q1,q2⟩:=g2 p hp
   exact⟨k,w,d,by simp at q1; simp[q1],q2⟩
  ·obtain⟨k,w,d,q1,q2⟩:=k2 p hp
   exact⟨k,w,d,List.mem_cons_of_mem _ q1,q2⟩
inductive G6(p:Dk→Bool)(st zO:St):Bk→yp→yp→Prop
 | arr (e e':Ty) (xs:List (den e)):G6 p st zO (.arr e') (.arr xs.length e xs) (.arr xs.length e xs)
 | var (k k':Dk) (d:D) (x:k.den) (hp:k.plain=true∧p k=true) (h:(Qz st k d).leads x):G6 p st zO (.var k') (.var d) (.var (ru zO k x))
 | cvar (ck:Ck) (d:D) (h:(UA st ck d).leads ()):G6 p st zO (.cvar ck) (.var d) (.var (D3 zO ck))
 | dead (b:yp) (h:I7 b=false):G6 p st zO .dead b .dead
def cM:List Bd→List Bool
 | []=>[]
 | .v _ _::r=>false::cM r
 | .a _ _::r=>true::cM r
theorem pE:∀ (l:List It) (x:wY l),cM (nM l x)=kinds l
 | [],_=>rfl
 | [.s _ _],_=>rfl
 | [.v _],_=>rfl
 | [.a _],_=>rfl
 | .s _ _::j::r,x=>pE (j::r) x.2
 | .v _::j::r,x=>congrArg (false :: ·) (pE (j::r) x.2)
 | .a _::j::r,x=>congrArg (true :: ·) (pE (j::r) x.2)
theorem XT{p:Dk→Bool}{st st0:St}:∀ {bs:List Bk} {blocks bl:List yp} {bd:List Bd},(Yu st bs blocks).leads bl→Ng p st bl bd→gy bs (cM bd)=true →
  (vM st0 bs bd).length=bs.length∧(∀ b,rowAt bs b=true→wo (bI bs bd) b=cm blocks b∧wo (vM st0 bs bd) b=cm blocks b∧wo blocks b=cm blocks b) ∧
  ∀ (i:Nat) (k:Bk),bs[i]? = some k→∃ B B',blocks[i]? = some B∧(vM st0 bs bd)[i]? = some B'∧G6 p st st0 k B B'
 | [],blocks,bl,bd,h,hb,ho=>by
  refine⟨by simp[vM],fun b hb=>by simp[rowAt]at hb,fun i k hk=>by simp at hk⟩
 | k::r,[],bl,bd,h,hb,ho=>by cases k<;>exact h.elim
 | .arr e::r,b::blocks,bl,bd,h,hb,ho=>by
  simp only[Yu,T.zY]at h
  obtain⟨l,h1,rfl⟩:=h
  cases bd with
  | nil=>exact hb.elim
  | cons q bd =>
   cases q with
   | v k x=>simp[cM,gy]at ho
   | a e' xs =>
    obtain⟨rfl,BW⟩:=hb
    simp only[cM,gy,Bool.true_and]at ho
    obtain⟨g1,g2,g3⟩:=XT (st0:=st0) h1 BW ho
    refine⟨by simp[vM,g1],fun b hb => ?_,fun i k hk => ?_⟩
    ·cases b with
     | zero=>simp[bI,vM,wo,zbo,cm]
     | succ b=>have:=g2 b (by simpa[rowAt]using hb); simpa[bI,vM,wo,cm]using this
    ·cases i with
     | zero=>simp at hk; subst hk; exact⟨_,_,rfl,rfl,.arr e' e xs⟩
     | succ i=>simpa[vM]using g3 i k (by simpa using hk)
 | .var k0::r,b::blocks,bl,bd,h,hb,ho=>by
  simp only[Yu,T.zY]at h
  obtain⟨l,h1,rfl⟩:=h
  cases bd with
  | nil=>exact hb.elim
  | cons q bd =>
   cases q with
   | a e' xs=>simp[cM,gy]at ho
   | v k x =>
    obtain⟨⟨d,rfl,hp,hd⟩,BW⟩:=hb
    simp only[cM,gy,Bool.not_false,Bool.true_and]at ho
    obtain⟨g1,g2,g3⟩:=XT (st0:=st0) h1 BW ho
    refine⟨by simp[vM,g1],fun b hb => ?_,fun i k hk => ?_⟩
    ·cases b with
     | zero=>simp[rowAt]at hb
     | succ b=>have:=g2 b (by simpa[rowAt]using hb); simpa[bI,vM,wo,cm]using this
    ·cases i with
     | zero=>simp at hk; subst hk; exact⟨_,_,rfl,rfl,.var k k0 d x hp hd⟩
     | succ i=>simpa[vM]using g3 i k (by simpa using hk)
 | .cvar ck::r,b::blocks,bl,bd,h,hb,ho=>by
  cases b with
  | var d =>
   simp only[Yu,T.zY]at h
   obtain⟨⟨⟩,h0,h1⟩:=h
   have ho':gy r (cM bd)=true:=by cases bd<;>simpa[gy]using ho
   obtain⟨g1,g2,g3⟩:=XT (st0:=st0) h1 hb ho'
   have e1:vM st0 (.cvar ck::r) bd=.var (D3 st0 ck)::vM st0 r bd:=by cases bd<;>rfl
   have e0:bI (.cvar ck::r) bd=.dead::bI r bd:=by cases bd<;>rfl
   rw[e0,e1]
   refine⟨by simp[g1],fun b hb => ?_,fun i k hk => ?_⟩
   ·cases b with
    | zero=>simp[rowAt]at hb
    | succ b=>have:=g2 b (by simpa[rowAt]using hb); simpa[wo,cm]using this
   ·cases i with
    | zero=>simp at hk; subst hk; exact⟨_,_,rfl,rfl,.cvar ck d h0⟩
    | succ i=>simpa using g3 i k (by simpa using hk)
  | _=>exact h.elim
 | .dead::r,b::blocks,bl,bd,h,hb,ho=>by
  simp only[Yu]at h
  cases hv:I7 b with
  | true=>rw[hv]at h; exact h.elim
  | false =>
   rw[hv,cond_false]at h
   have ho':gy r (cM bd)=true:=by cases bd<;>simpa[gy]using ho
   obtain⟨g1,g2,g3⟩:=XT (st0:=st0) h hb ho'
   have e1:vM st0 (.dead::r) bd=.dead::vM st0 r bd:=by cases bd<;>rfl
   have e0:bI (.dead::r) bd=.dead::bI r bd:=by cases bd<;>rfl
   rw[e0,e1]
   refine⟨by simp[g1],fun b hb => ?_,fun i k hk => ?_⟩
   ·cases b with
    | zero=>simp[rowAt]at hb
    | succ b=>have:=g2 b (by simpa[rowAt]using hb); simpa[wo,cm]using this
   ·cases i with
    | zero=>simp at hk; subst hk; exact⟨_,_,rfl,rfl,.dead b hv⟩
    | succ i=>simpa using g3 i k (by simpa using hk)
inductive Refs(m:Nat):D→Prop
 | zU (τ:Ty) (x:AM.den τ):Refs m (.zU τ x)
 | tight (e:Ty) (l:List (AM.den e)) (ne:Bool):Refs m (.tight e l ne)
 | xw:Refs m .xw
 | yI:Refs m .yI
 | wb:Refs m .wb
 | u9:Refs m .u9
 | vX:Refs m .vX
 | ZV:Refs m .ZV
 | dp (T:Nat):Refs m (.dp T)
 | yr (b T:Nat) (h:b<m):Refs m (.yr b T)
 | ptr (b off:Nat) (h:b<m):Refs m (.ptr b off)
 | xx (τ:Ty) (x:AM.den τ):Refs m (.xx τ x)
 | uC (b qY:Nat) (e:Ty) (idx off:Nat) (h:b<m):Refs m (.uC b qY e idx off)
 | ms (b qY:Nat) (e:Ty) (off len:Nat) (h:b<m):Refs m (.ms b qY e off len)
 | xr (f:Nat) (l:List D) (h:∀ i (hi:i<l.length),Refs m l[i]):Refs m (.xr f l)
 | agg (l:List D) (h:∀ i (hi:i<l.length),Refs m l[i]):Refs m (.agg l)
 | gK (l:List D) (h:∀ i (hi:i<l.length),Refs m l[i]):Refs m (.gK l)
 | iface (t:Nat) (d:D) (h:Refs m d):Refs m (.iface t d)
theorem Refs.mono{m m':Nat}(hm:m≤m'){d:D}(h:Refs m d):Refs m' d:=by
 induction h with
 | ptr b off h=>exact .ptr b off (by omega)
 | yr b T h=>exact .yr b T (by omega)
 | uC b qY e idx off h=>exact .uC b qY e idx off (by omega)
 | ms b qY e off len h=>exact .ms b qY e off len (by omega)
 | xr f l h ih=>exact .xr f l ih
 | agg l h ih=>exact .agg l ih
 | gK l h ih=>exact .gK l ih
 | iface t d h ih=>exact .iface t d ih
 | _=>constructor
theorem z3B{κ:KS}{m:Nat}{d:D}{v:Value}(h:RD κ d v)(hr:Refs m d):RD (κ.cut m) d v:=by
 induction h with
 | zU τ y cs h=>exact .zU τ y cs h
 | xJ e a=>exact .xJ e a
 | tight e l ne blk off f uv wm h hc=>exact .tight e l ne blk off f uv wm h hc
 | xw=>exact .xw
 | yI=>exact .yI
 | wb=>exact .wb
 | u9=>exact .u9
 | vX=>exact .vX
 | ZV v h=>exact .ZV v h
 | dp T=>exact .dp T
 | dU b T d hb=>cases hr with | yr _ _ qu=>exact fb (.dU b T d hb) (by simp only[vN,Nat.blt,Nat.ble_eq]; exact qu)
 | dD b T blk n d hb h=>cases hr with | yr _ _ qu=>exact fb (.dD b T blk n d hb h) (by simp only[vN,Nat.blt,Nat.ble_eq]; exact qu)
 | ptr b off blk n d hb h=>cases hr with | ptr _ _ qu=>exact fb (.ptr b off blk n d hb h) (by simp only[vN,Nat.blt,Nat.ble_eq]; exact qu)
 | xx τ y cs blk off wm h hc=>exact .xx τ y cs blk off wm h hc
 | uC b qY e idx off blk o hb h=>cases hr with | uC _ _ _ _ _ qu=>exact fb (.uC b qY e idx off blk o hb h) (by simp only[vN,Nat.blt,Nat.ble_eq]; exact qu)
 | ms b qY e off len cap a hb wH ha Z1 h=>cases hr with | ms _ _ _ _ _ qu=>exact fb (.ms b qY e off len cap a hb wH ha Z1 h) (by simp only[vN,Nat.blt,Nat.ble_eq]; exact qu)
 | xr f l vs hl h ih=>cases hr with | xr _ _ hh=>exact .xr f l vs hl fun i h1 h2=>ih i h1 h2 (hh i h1)
 | agg l vs hl ho h ih=>cases hr with | agg _ hh=>exact .agg l vs hl ho fun i h1 h2=>ih i h1 h2 (hh i h1)
 | gK l vs hl h ih=>cases hr with | gK _ hh=>exact .gK l vs hl fun i h1 h2=>ih i h1 h2 (hh i h1)
 | iface t d v h ih=>cases hr with | iface _ _ hh=>exact .iface t d v (ih hh)
theorem Bg{a b:Nat}(h:a<b):Nat.blt a b=true:=by
 simp only[Nat.blt,Nat.ble_eq]; exact h
theorem z0b{κ κe:KS}{m:Nat}(hx:Ext κ κe)(hm:κ.st.length≤m):Ext κ (κe.cut m):=by
 have qu:∀ b x,κ.st[b]? = some x→b<m:=fun b x h=>Nat.lt_of_lt_of_le (List.getElem?_eq_some_iff.1 h).1 hm
 have VL:∀ b,b<m→(κe.cut m).ph[b]? = κe.ph[b]? := fun b hb=>by simp only[KS.cut]; rw[List.getElem?_take,if_pos hb]
 refine⟨hx.os,hx.tape,hx.output,hx.size,hx.same,hx.fresh,fun b blk n h=>hx.phs b blk n (br h).1,fun b d h => ?_,fun b v0 e xs h => ?_,fun b h=>qs (hx.dead b h) (qu b _ h),?_,hx.frame⟩
 ·obtain⟨⟨d',h1⟩,h2⟩:=hx.var b d h
  exact⟨⟨d',qs h1 (qu b _ h)⟩,(VL b (qu b _ h)).trans h2⟩
 ·rcases hx.arr b v0 e xs h with h1 | ⟨v1,x1,h1,h2,h3⟩
  ·exact .inl (qs h1 (qu b _ h))
  ·exact .inr ⟨v1,x1,qs h1 (qu b _ h),h2,fun he=>⟨(VL b (qu b _ h)).trans (h3 he).1,(h3 he).2⟩⟩
 ·have:=hx.E6
  simp[KS.cut]; omega
theorem mH.Xi{κ0 κ:KS}{fr:Fr}{a:Act}{sh:mH}{x:sh.den}(hx:Ext κ0 κ)(hI:Inv κ)(hR:Rel κ n fr.get a)(hl:κ0.st.length≤sh.bs.length)(h:(sh.un fr κ.st).leads x) :
  ∃ κ':KS,κ'.w=κ.w∧κ'.st=sh.st x∧Inv κ'∧Ext κ0 κ'∧Rel κ' n (sh.fr x).get a∧∀ (d:D) (v:Value),Refs sh.bs.length d→RD κ d v→RD κ' d v:=by
 unfold mH.un at h
 cases hc:sh.ok&&(κ.st.take sh.bs.length).all (Hk sh.bs.length)with
 | false=>rw[hc]at h; exact h.elim
 | true =>
  rw[hc,cond_true]at h
  simp only[Bool.and_eq_true,mH.ok,List.all_eq_true]at hc
  obtain⟨⟨⟨⟨zeX,z9T⟩,Kw⟩,hbs⟩,J8⟩:=hc
  obtain⟨⟨⟩,h1,h⟩:=T.zg.1 h
  obtain⟨bl,h2,h3⟩:=T.zg.1 h
  have hIc:=z2b hI J8
  -- the store cut
  let m:=sh.bs.length
  obtain⟨g1,g2⟩:=Wt (p:=Eb sh.bs) (zO:=sh.st x) sh.ry bl x (fun k hk=>z9T _ hk) h3
  obtain⟨k1,k2,k3⟩:=XT (st0:=bI sh.bs (nM sh.ry x)) h2 g1 ((congrArg (gy sh.bs) (pE sh.ry x)).trans zeX)
  have xR:sh.st x=vM (bI sh.bs (nM sh.ry x)) sh.bs (nM sh.ry x):=rfl
  rw[← xR]at k1 k2 k3
  let κ':KS:={ κ.cut m with st:=sh.st x }
  have hm:m≤κ.st.length:=by
   rcases Nat.eq_zero_or_pos m with h0 | h0
   ·omega
   ·obtain⟨B,B',q1,_⟩:=k3 (m-1) (sh.bs[m-1]'(by show m-1<m; omega)) (by simp)
    have:=(List.getElem?_eq_some_iff.1 q1).1
    omega
  have z5y:∀ i B,κ.st[i]? = some B→i<m→(κ.cut m).st[i]? = some B:=fun i B hB hi=>qs hB hi
  have Oa:(κ.cut m).st.length=m:=by simp[KS.cut]; omega
  have pair:∀ i,i<m→∃ k B B',sh.bs[i]? = some k∧(κ.cut m).st[i]? = some B∧κ'.st[i]? = some B'∧G6 (Eb sh.bs) κ.st (bI sh.bs (nM sh.ry x)) k B B':=by
   intro i hi
   obtain⟨B,B',q1,q2,q3⟩:=k3 i (sh.bs[i]'hi) (by simp)
   exact⟨_,B,B',by simp,z5y i B q1 hi,q2,q3⟩
  have lt:∀ {i:Nat} {B:yp},(κ.cut m).st[i]? = some B→i<m:=fun hB=>by have:=(List.getElem?_eq_some_iff.1 hB).1; omega
  have lt':∀ {i:Nat} {B:yp},κ'.st[i]? = some B→i<m:=fun hB=>by have:=(List.getElem?_eq_some_iff.1 hB).1; have e:κ'.st.length=m:=k1; omega
  have hw:Wk (κ.cut m) κ':=by
   refine⟨rfl,rfl,rfl,by show(sh.st x).length=_; rw[k1,Oa],fun b d hb => ?_,fun b v e xs hb => ?_,fun b v e xs hb => ?_,fun b hb => ?_⟩
   ·obtain⟨k,B,B',q0,q1,q2,q3⟩:=pair b (lt hb)
    rw[hb]at q1; cases q1
    cases q3 with
    | var k' _ _ y _ hy=>exact⟨_,q2⟩
    | cvar ck _ hy=>exact⟨_,q2⟩
    | dead _ hv=>cases hv
   ·obtain⟨k,B,B',q0,q1,q2,q3⟩:=pair b (lt hb)
    rw[hb]at q1; cases q1
    cases q3 with
    | arr=>exact .inl q2
    | dead=>exact .inr q2
   ·obtain⟨k,B,B',q0,q1,q2,q3⟩:=pair b (lt' hb)
    rw[hb]at q2; cases q2
    cases q3 with
    | arr=>exact q1
   ·obtain⟨k,B,B',q0,q1,q2,q3⟩:=pair b (lt hb)
    rw[hb]at q1; cases q1
    cases q3 with
    | dead=>exact q2
  have HJ:∀ b,rowAt sh.bs b=true→wo κ'.st b=cm κ.st b∧wo (bI sh.bs (nM sh.ry x)) b=cm κ.st b∧wo κ.st b=cm κ.st b :=
   fun b hb=>⟨(k2 b hb).2.1,(k2 b hb).1,(k2 b hb).2.2⟩
  have zdE:∀ b,rowAt sh.bs b=true→wo (κ.cut m).st b=wo κ.st b:=by
   intro b hb
   have hbm:b<m:=by
    unfold rowAt at hb
    split at hb
    ·rename_i hh; exact(List.getElem?_eq_some_iff.1 hh).1
    ·cases hb
   unfold wo
   simp only[KS.cut]
   rw[List.getElem?_take,if_pos hbm]
  have hbm:∀ b,rowAt sh.bs b=true→b<m:=by
   intro b hb
   unfold rowAt at hb
   split at hb
   ·rename_i hh; exact(List.getElem?_eq_some_iff.1 hh).1
   ·cases hb
  have T4:∀ b,Vm sh.bs b=true→b<m:=by
   intro b hb
   unfold Vm at hb
   split at hb
   ·rename_i hh; exact(List.getElem?_eq_some_iff.1 hh).1
   ·rename_i hh; exact(List.getElem?_eq_some_iff.1 hh).1
   ·cases hb
  have dk:∀ (k:Dk) (y:k.den) (d:D) (v:Value) (zO:St),Eb sh.bs k=true→(∀ b,rowAt sh.bs b=true→wo zO b=cm κ.st b)→(Qz κ.st k d).leads y→RD κ d v→RD κ' (ru zO k y) v:=by
   intro k y d v zO ho hv hy hd
   have hwk:Wk κ κ:=⟨rfl,rfl,rfl,rfl,fun b d h=>⟨d,h⟩,fun b v e xs h=>.inl h,fun b v e xs h=>h,fun b h=>h⟩
   have h0:=Hr hwk ho (fun _ _=>rfl) (zO:=κ.st) (fun _ _=>rfl) (fun b hb=>(HJ b hb).2.2) hy hd
   have zfX:bO m (ru κ.st k y)=true:=by
    cases k with
    | sub b e=>exact Bg (hbm b ho)
    | xr f caps =>
     have:∀ (l:List WB) (z:bH l),(nO l z).all (vN m)=true:=by
      intro l
      induction l with
      | nil=>intro z; rfl
      | cons p r ih =>
       intro z
       have hp:∀ w:AM.den p.ty,vN m (GP p w)=true:=fun w=>by cases p<;>rfl
       cases r with
       | nil=>simp only[nO,List.all_cons,List.all_nil,Bool.and_true]; exact hp z
       | cons q r=>simp only[nO,List.all_cons,Bool.and_eq_true]; exact⟨hp z.1,by simpa using ih z.2⟩
     exact this caps y
    | st ks=>exact List.all_eq_true.2 (yf hbm T4 ks y ho)
    | mclo f ms=>exact List.all_eq_true.2 (eZ T4 ms y ho)
    | _=>rfl
   have h1:=hw.rd (F4 h0 zfX)
   have he:ru κ.st k y=ru zO k y:=by
    cases k with
    | sub b e=>simp only[ru]; rw[hv b ho,(HJ b ho).2.2]
    | st ks=>simp only[ru]; rw[sr (fun b hb=>(HJ b hb).2.2.trans (hv b hb).symm) ks y ho]
    | _=>rfl
   rwa [he]at h1
  have ck:∀ (q:Ck) (d:D) (v:Value) (zO:St),OM sh.bs q=true→(∀ b,rowAt sh.bs b=true→wo zO b=cm κ.st b)→(UA κ.st q d).leads ()→D3 zO q=d∧(RD κ d v→RD κ' d v):=by
   intro q d v zO ho hv hy
   have he:=z11 ho hv hy
   refine⟨he,fun hd=>hw.rd (F4 hd ?_)⟩
   rw[← he]
   cases q with
   | ptr b off=>exact Bg (T4 b ho)
   | cur b e=>exact Bg (hbm b ho)
   | xw=>rfl
   | yI=>rfl
   | wb=>rfl
   | xr f l =>
    simp only[OM,List.all_eq_true]at ho
    simp only[D3,bO,List.all_eq_true,List.mem_map]
    rintro _ ⟨p,hp,rfl⟩
    exact Bg (T4 p.1 (ho p hp))
  have hI':Inv κ':=by
   refine hw.inv hIc fun b d' hb => ?_
   obtain⟨k,B,B',q0,q1,q2,q3⟩:=pair b (lt' hb)
   rw[hb]at q2
   cases q2
   cases q3 with
   | var kk k' d y hp hy =>
    obtain⟨blk,n',cs,t,e1,e2,e3,e4,e5⟩:=hIc.blk b _ q1
    refine⟨blk,n',cs,t,e1,e2,e3,?_⟩
    cases kk with
    | zU τ =>
     have hco:dX τ d=some y:=T.uh.1 hy
     have ht:d.uE=false:=by
      cases d with
      | gK l=>simp[dX,D.uE]at hco
      | _=>rfl
     have hrc:=rO hco e4 e5.1 ht
     exact⟨(sa hrc).mono hw.ext,dK τ y,nofun⟩
    | xx τ =>
     cases d<;>simp only[Qz]at hy<;>try (exact hy.elim)
     obtain⟨e,hyy⟩:=qE (T.uh.1 hy)
     cases e
     cases hyy
     exact⟨e4.mono hw.ext,e5.1,nofun⟩
    | st ks =>
     simp only[Qz]at hy
     cases ha:d.eH with
     | false=>rw[ha]at hy; exact hy.elim
     | true =>
      rw[ha]at hy
      replace hy:(fN κ.st ks (qt d)).leads y:=hy
      have zjg:b<m:=lt' hb
      have HI:κ.st[b]? = some (.var d):=(br q1).1
      obtain⟨zgg,n2,cs2,t2,f1,f2,f3,f4,f5⟩:=hI.blk b _ HI
      have hp1:=(br e1).1
      rw[f1]at hp1
      cases hp1
      rw[show(κ.cut m).w=κ.w from rfl,f2]at e2
      cases e2
      obtain⟨g1,g2⟩:=fB (κ:=κ) (zO:=bI sh.bs (nM sh.ry x)) (bs:=sh.bs) (fun b hb=>(HJ b hb).2.1) ks (qt d) y _ hp.2 hy f4
      refine⟨(LG g1 fun z hz => ?_).mono hw.ext,g2,fun T hT => ?_⟩
      rotate_left
      ·exact f5.2 T (Ug ha (Vg ks (qt d) y hy hT))
      have:=yf (m:=m) hbm T4 ks y hp.2 z hz
      cases z<;>first | exact this | cases this
    | _=>cases hp.1
   | cvar q d hy =>
    obtain⟨blk,n',cs,t,e1,e2,e3,e4,e5⟩:=hIc.blk b _ q1
    have hoq:OM sh.bs q=true:=hbs _ (List.mem_of_getElem? q0)
    obtain⟨g,_⟩:=ck q d undef (bI sh.bs (nM sh.ry x)) hoq (fun b hb=>(HJ b hb).2.1) hy
    rw[g]
    exact⟨blk,n',cs,t,e1,e2,e3,e4.mono hw.ext,e5⟩
  refine⟨κ',rfl,rfl,hI',?_,⟨hR.size,hR.defers,fun s d hd => ?_⟩,fun d v hr hd=>hw.rd (z3B hd hr)⟩
  ·have qu:κ0.st.length≤m:=hl
   have c1:=z0b hx qu
   exact c1.trans hw.ext
  ·rcases get_append (l:=iB (sh.st x) sh.ry x) (m:=z7p (sh.st x) sh.cs) hd with hp | hp0
   ·obtain⟨k,y,d0,q0,q1,q2,q3⟩:=g2 _ hp
    cases q3
    obtain⟨v,r1,r2⟩:=hR.get _ _ q1
    exact⟨v,r1,dk k y d0 v (sh.st x) (z9T _ q0) (fun b hb=>(HJ b hb).1) q2 r2⟩
   ·have Ul:=get_mem hp0
    unfold z7p at Ul
    obtain⟨p,hp,he⟩:=List.mem_map.1 Ul
    cases he
    obtain⟨d0,q1,q2⟩:=Cw h1 p hp
    obtain⟨v,r1,r2⟩:=hR.get _ _ q1
    obtain⟨g,gg⟩:=ck p.2 d0 v (sh.st x) (Kw p hp) (fun b hb=>(HJ b hb).1) q2
    rw[g]
    exact⟨v,r1,gg r2⟩
end
end Go.AM
namespace Go.AM
set_option linter.unusedSectionVars false
variable [uH] [BK]
open Go.RowKit
inductive Gh where
 | slot (s:Nat) (e:Ty) | cell (b i:Nat) (e:Ty) | pcell (s i:Nat) (e:Ty)
def J7(st:St)(b i:Nat):Option (List D):=match st[b]? with
 | some (.var d)=>bif d.eH then match(qt d)[i]? with | some .xw=>some (qt d) | _=>none else none
 | _=>none
def gh:List Gh→Fr→St→Fr×St
 | [],fr,st=>(fr,st)
 | .slot s e::r,fr,st=>match fr.get s with
  | some .xw=>bif Nat.blt 0 e.size then gh r ((s,some (.ms st.length 0 e 0 0))::fr) (st++[.arr 0 e []])else gh r fr st
  | _=>gh r fr st
 | .cell b i e::r,fr,st=>match J7 st b i with
  | some l=>bif Nat.blt 0 e.size then gh r fr ((st++[yp.arr 0 e []]).set b (.var (.agg (l.set i (.ms st.length 0 e 0 0)))))else gh r fr st
  | none=>gh r fr st
 | .pcell t i e::r,fr,st=>match fr.get t with
  | some (.ptr b _)=>match J7 st b i with
   | some l=>bif Nat.blt 0 e.size then gh r fr ((st++[yp.arr 0 e []]).set b (.var (.agg (l.set i (.ms st.length 0 e 0 0)))))else gh r fr st
   | none=>gh r fr st
  | _=>gh r fr st
section
variable {c:Ctx} {κ:KS}
def KS.uQ(κ:KS)(e:Ty):KS:={ κ with ph:=κ.ph++[none],st:=κ.st++[.arr 0 e []] }
theorem Qt(hI:Inv κ)(e:Ty):Ext κ (κ.uQ e):=by
 have xR:∀ b y,κ.st[b]? = some y→(κ.st++[.arr 0 e []])[b]? = some y:=fun b y h=>by rw[List.getElem?_append_left (List.getElem?_eq_some_iff.1 h).1]; exact h
 have VL:∀ b y,κ.st[b]? = some y→(κ.ph++[none])[b]? = κ.ph[b]? := fun b y h=>by
  rw[List.getElem?_append_left]; rw[hI.len]; exact(List.getElem?_eq_some_iff.1 h).1
 refine⟨rfl,rfl,rfl,Nat.le_refl _,fun k hk=>⟨hk,rfl⟩,fun k hk=>.inl hk,?_,fun b d h=>⟨⟨d,xR b _ h⟩,VL b _ h⟩,
  fun b v0 e xs h=>.inr ⟨v0,xs,xR b _ h,Nat.le_refl _,fun _=>⟨VL b _ h,rfl⟩⟩,fun b h=>xR b _ h,by simp[KS.uQ],fun k hk _=>rfl⟩
 intro b blk m h
 simp only[KS.uQ]at h
 by_cases hb:b<κ.ph.length
 ·rw[List.getElem?_append_left hb]at h; exact .inl h
 ·rw[List.getElem?_append_right (by omega)]at h
  have:=List.mem_of_getElem? h
  simp at this
theorem K9(hI:Inv κ){e:Ty}(he:0<e.size):Inv (κ.uQ e):=by
 have hold:∀ (b blk m:Nat),(κ.ph++[none])[b]? = some (some (blk,m))→κ.ph[b]? = some (some (blk,m)):=by
  intro b blk m h
  by_cases hb:b<κ.ph.length
  ·rw[List.getElem?_append_left hb]at h; exact h
  ·rw[List.getElem?_append_right (by omega)]at h
   have:=List.mem_of_getElem? h
   simp at this
 refine⟨by simp[KS.uQ,hI.len],hI.yi,fun b blk m h=>hI.apart b blk m (hold b blk m h),fun b b' blk m m' h h'=>hI.inj b b' blk m m' (hold _ _ _ h) (hold _ _ _ h'),?_,hI.gl⟩
 intro b y hy
 simp only[KS.uQ]at hy
 by_cases hb:b<κ.st.length
 ·rw[List.getElem?_append_left hb]at hy
  exact(hI.blk b y hy).mono (Qt hI e) (by show(κ.ph++[none])[b]? = κ.ph[b]?; rw[List.getElem?_append_left (by rw[hI.len]; exact hb)]) fun blk n h=>rfl
 ·have ZI:=(List.getElem?_eq_some_iff.1 hy).1
  simp at ZI
  have:b=κ.st.length:=by omega
  subst this
  simp at hy
  subst hy
  exact⟨he,.inl ⟨rfl,by simp[KS.uQ,← hI.len]⟩⟩
theorem Fz{l:List D}{i b v len off:Nat}{e:Ty}{tt:Nat}(h:(D.agg (l.set i (.ms b v e off len))).typed=some tt):b7 l=some tt:=by
 cases l with
 | nil=>exact h
 | cons x r=>cases i with
  | zero=>cases h
  | succ i=>cases x<;>exact h
theorem z1B{κ κ2:KS}{l:List D}{vs:List Value}{i:Nat}{d':D}(h:xz κ l vs)(hw:∀ d v,RD κ d v→RD κ2 d v)(hi:∀ v,vs[i]? = some v→RD κ2 d' v):xz κ2 (l.set i d') vs:=by
 refine⟨by rw[List.length_set]; exact h.1,fun k h1 h2 => ?_⟩
 rw[List.getElem_set]
 split
 ·rename_i e; subst e; exact hi _ (by simp[h2])
 ·exact hw _ _ (h.2 k (by rw[List.length_set]at h1; exact h1) h2)
theorem LU(hI:Inv κ){e:Ty}(he:0<e.size){b i:Nat}{l:List D}(h:J7 κ.st b i=some l) :
  ∃ κ':KS,κ'.w=κ.w∧κ'.st=(κ.st++[yp.arr 0 e []]).set b (.var (.agg (l.set i (.ms κ.st.length 0 e 0 0))))∧Inv κ'∧Ext κ κ':=by
 unfold J7 at h
 split at h
 ·rename_i d hd
  cases ha:d.eH with
  | false=>rw[ha]at h; cases h
  | true =>
   rw[ha,cond_true]at h
   split at h
   ·rename_i hi
    cases h
    have hx:=Qt hI e
    have Wy:=K9 hI he
    have zgl:b<κ.st.length:=(List.getElem?_eq_some_iff.1 hd).1
    let κ2:KS:={ κ.uQ e with st:=(κ.uQ e).st.set b (.var (.agg ((qt d).set i (.ms κ.st.length 0 e 0 0)))) }
    have BN:(κ.uQ e).st[b]? = some (.var d):=by
     show(κ.st++[_])[b]? = _
     rw[List.getElem?_append_left zgl]; exact hd
    have uv:∀ j,j≠b→κ2.st[j]? = (κ.uQ e).st[j]? := fun j hj=>by
     show((κ.uQ e).st.set b _)[j]? = _
     rw[List.getElem?_set_ne (fun z=>hj z.symm)]
    have S9:κ2.st[b]? = some (.var (.agg ((qt d).set i (.ms κ.st.length 0 e 0 0)))):=by
     show((κ.uQ e).st.set b _)[b]? = _
     rw[List.getElem?_set_self (List.getElem?_eq_some_iff.1 BN).1]
    have hw:Wk (κ.uQ e) κ2:=by
     refine⟨rfl,rfl,rfl,by simp[κ2],fun j d' hj => ?_,fun j v e' xs hj => ?_,fun j v e' xs hj => ?_,fun j hj => ?_⟩
     ·by_cases c:j=b
      ·subst c; exact⟨_,S9⟩
      ·exact⟨d',by rw[uv j c]; exact hj⟩
     ·by_cases c:j=b
      ·subst c; rw[BN]at hj; cases hj
      ·exact .inl (by rw[uv j c]; exact hj)
     ·by_cases c:j=b
      ·subst c; rw[S9]at hj; cases hj
      ·rw[← uv j c]; exact hj
     ·by_cases c:j=b
      ·subst c; rw[BN]at hj; cases hj
      ·rw[uv j c]; exact hj
    have Tj:κ2.st[κ.st.length]? = some (.arr 0 e []):=by
     rw[uv _ (by omega)]
     simp[KS.uQ]
    have hI2:Inv κ2:=by
     refine hw.inv Wy fun j d' hj => ?_
     by_cases c:j=b
     ·subst c
      rw[S9]at hj
      cases hj
      obtain⟨blk,m,cs,t,q1,q2,q3,q4,q5⟩:=Wy.blk j _ BN
      refine⟨blk,m,cs,t,q1,q2,q3,z1B q4 (fun _ _ h=>hw.rd h) fun v hv => ?_,fun x hxm => ?_,fun T hT => ?_⟩
      ·obtain⟨v',h1,h2⟩:=q4.get hi
       rw[hv]at h1
       cases h1
       cases h2
       refine .ms κ.st.length 0 e 0 0 0 none (.inr ⟨0,e,[],Tj,Nat.le_refl _⟩) (Nat.le_refl _) (fun _=>rfl) nofun fun xs VN => ?_
       rw[Tj]at VN
       cases VN
       exact⟨Nat.le_refl _,.inl ⟨rfl,rfl,rfl,by show(κ.ph++[none])[κ.st.length]? = _; simp[← hI.len]⟩⟩
      ·rcases List.mem_or_eq_of_mem_set (show x∈(qt d).set i (.ms κ.st.length 0 e 0 0)from hxm)with h' | h'
       ·exact q5.1 x h'
       ·subst h'; rfl
      ·exact q5.2 T (Ug ha (Fz hT))
     ·rw[uv j c]at hj
      exact(Wy.blk j _ hj).mono hw.ext rfl fun _ _ _=>rfl
    exact⟨κ2,rfl,rfl,hI2,hx.trans hw.ext⟩
   ·cases h
 ·cases h
theorem nh{n:Nat}{a:Act}:∀ (l:List Gh) (fr:Fr) (κ:KS),Inv κ→Rel κ n fr.get a→∃ κ':KS,κ'.w=κ.w∧κ'.st=(gh l fr κ.st).2∧Inv κ'∧Ext κ κ'∧Rel κ' n (gh l fr κ.st).1.get a
 | [],fr,κ,hI,hR=>⟨κ,rfl,rfl,hI,Ext.refl κ,hR⟩
 | .slot s e::r,fr,κ,hI,hR=>by
  unfold gh
  split
  ·rename_i hs
   cases he:Nat.blt 0 e.size with
   | false=>rw[cond_false]; exact nh r fr κ hI hR
   | true =>
    rw[cond_true]
    have Tc:0<e.size:=Nat.le_of_ble_eq_true he
    have hx:=Qt hI e
    have hR':Rel (κ.uQ e) n (Fr.get ((s,some (.ms κ.st.length 0 e 0 0))::fr)) a:=by
     refine⟨hR.size,hR.defers,fun t d hd => ?_⟩
     simp only[Fr.get]at hd
     cases ht:Nat.beq s t with
     | true =>
      rw[ht,cond_true]at hd
      cases hd
      have:=Nat.eq_of_beq_eq_true ht
      subst this
      obtain⟨v,h1,h2⟩:=hR.get s _ hs
      cases h2
      have Tj:(κ.uQ e).st[κ.st.length]? = some (.arr 0 e []):=by simp[KS.uQ]
      refine⟨_,h1,.ms κ.st.length 0 e 0 0 0 none (.inr ⟨0,e,[],Tj,Nat.le_refl _⟩) (Nat.le_refl _) (fun _=>rfl) nofun fun xs VN => ?_⟩
      rw[Tj]at VN
      cases VN
      exact⟨Nat.le_refl _,.inl ⟨rfl,rfl,rfl,by simp[KS.uQ,← hI.len]⟩⟩
     | false =>
      rw[ht,cond_false]at hd
      obtain⟨v,h1,h2⟩:=hR.get t d hd
      exact⟨v,h1,h2.mono hx⟩
    obtain⟨κ',h1,h2,h3,h4,h5⟩:=nh r _ (κ.uQ e) (K9 hI Tc) hR'
    exact⟨κ',h1,h2,h3,hx.trans h4,h5⟩
  ·exact nh r fr κ hI hR
 | .cell b i e::r,fr,κ,hI,hR=>by
  unfold gh
  split
  ·rename_i l hl
   cases he:Nat.blt 0 e.size with
   | false=>rw[cond_false]; exact nh r fr κ hI hR
   | true =>
    rw[cond_true]
    have Tc:0<e.size:=Nat.le_of_ble_eq_true he
    obtain⟨κ1,g1,g2,g3,g4⟩:=LU hI Tc hl
    obtain⟨κ',h1,h2,h3,h4,h5⟩:=nh r fr κ1 g3 ⟨hR.size,hR.defers,fun t d hd=>by
     obtain⟨v,q1,q2⟩:=hR.get t d hd
     exact⟨v,q1,q2.mono g4⟩⟩
    rw[g2]at h2 h5
    exact⟨κ',h1.trans g1,h2,h3,g4.trans h4,h5⟩
  ·exact nh r fr κ hI hR
 | .pcell t i e::r,fr,κ,hI,hR=>by
  unfold gh
  split
  ·rename_i b off hb
   split
   ·rename_i l hl
    cases he:Nat.blt 0 e.size with
    | false=>rw[cond_false]; exact nh r fr κ hI hR
    | true =>
     rw[cond_true]
     have Tc:0<e.size:=Nat.le_of_ble_eq_true he
     obtain⟨κ1,g1,g2,g3,g4⟩:=LU hI Tc hl
     obtain⟨κ',h1,h2,h3,h4,h5⟩:=nh r fr κ1 g3 ⟨hR.size,hR.defers,fun t d hd=>by
      obtain⟨v,q1,q2⟩:=hR.get t d hd
      exact⟨v,q1,q2.mono g4⟩⟩
     rw[g2]at h2 h5
     exact⟨κ',h1.trans g1,h2,h3,g4.trans h4,h5⟩
   ·exact nh r fr κ hI hR
  ·exact nh r fr κ hI hR
end
end Go.AM
namespace Go.AM
def Zj(f:Nat→Option Nat)(d:D):Option D:=match d with
 | .ptr b off=>match f b with | some b'=>some (.ptr b' off) | none=>none
 | .yr b T=>match f b with | some b'=>some (.yr b' T) | none=>none
 | .uC b v e i off=>match f b with | some b'=>some (.uC b' v e i off) | none=>none
 | .ms b v e off len=>match f b with | some b'=>some (.ms b' v e off len) | none=>none
 | .xr _ _=>none
 | .agg _=>none
 | .gK _=>none
 | .iface _ _=>none
 | d=>some d
def BQ(f:Nat→Option Nat):List D→Option (List D)
 | []=>some []
 | d::r=>match Zj f d with
  | some d'=>match BQ f r with | some r'=>some (d'::r') | none=>none
  | none=>none
def rq(f:Nat→Option Nat)(d:D):Option D:=match d with
 | .xr g l=>match BQ f l with | some l'=>some (.xr g l') | none=>none
 | .agg l=>match BQ f l with | some l'=>some (.agg l') | none=>none
 | d=>Zj f d
def Vy(f:Nat→Option Nat):List D→Option (List D)
 | []=>some []
 | d::r=>match rq f d with
  | some d'=>match Vy f r with | some r'=>some (d'::r') | none=>none
  | none=>none
def Uq(f:Nat→Option Nat):yp→Option yp
 | .var d=>match rq f d with | some d'=>some (.var d') | none=>none
 | .arr v e xs=>some (.arr v e xs)
 | .dead=>some .dead
def pP(f:Nat→Option Nat):List yp→Option (List yp)
 | []=>some []
 | b::r=>match Uq f b with
  | some b'=>match pP f r with | some r'=>some (b'::r') | none=>none
  | none=>none
def ZQ(f:Nat→Option Nat):Fr→Fr
 | []=>[]
 | (s,some d)::r=>(s,rq f d)::ZQ f r
 | (s,none)::r=>(s,none)::ZQ f r
structure Tr(κ κ':KS)(f:Nat→Option Nat):Prop where
 w:κ'.w=κ.w
 ok:κ'.ok=κ.ok
 var:∀ (b b':Nat) (d:D),f b=some b'→κ.st[b]? = some (.var d)→(∃ d',κ'.st[b']? = some (.var d'))∧κ'.ph[b']? = κ.ph[b]?
 old:∀ (b b' qY:Nat),f b=some b'→Old κ.st b qY→Old κ'.st b' qY
 row:∀ (b b' v:Nat) (e:Ty) (xs:List (den e)),f b=some b'→κ'.st[b']? = some (.arr v e xs)→κ.st[b]? = some (.arr v e xs)∧κ'.ph[b']? = κ.ph[b]?
section
variable {κ κ':KS} {f:Nat→Option Nat}
theorem Tr.same(h:Tr κ κ' f):F1 κ.w κ'.w κ.ok κ'.ok:=fun k hk=>⟨by rw[h.ok]; exact hk,by rw[h.w]⟩
theorem Tr.rd1(h:Tr κ κ' f){d d':D}{v:Value}(hd:RD κ d v)(hr:Zj f d=some d'):RD κ' d' v:=by
 cases hd with
 | zU τ y cs hc=>cases hr; exact .zU τ y cs (hc.mono h.same)
 | xJ e a=>cases hr; exact .xJ e a
 | tight e l ne blk off g uv wm hh hc=>cases hr; exact .tight e l ne blk off g uv (h.same _ wm).1 (fun i hi=>(hh i hi).mono h.same) fun i hi j v hv=>by rw[cv (h.same _ wm).2]; exact hc i hi j v hv
 | xw=>cases hr; exact .xw
 | yI=>cases hr; exact .yI
 | wb=>cases hr; exact .wb
 | u9=>cases hr; exact .u9
 | vX=>cases hr; exact .vX
 | ZV v h=>cases hr; exact .ZV v h
 | dp T=>cases hr; exact .dp T
 | dU b T d hb =>
  simp only[Zj]at hr
  split at hr
  ·rename_i b' hf
   cases hr
   obtain⟨⟨d',h1⟩,h2⟩:=h.var b b' d hf hb
   exact .dU b' T d' h1
  ·cases hr
 | dD b T blk n d hb hp =>
  simp only[Zj]at hr
  split at hr
  ·rename_i b' hf
   cases hr
   obtain⟨⟨d',h1⟩,h2⟩:=h.var b b' d hf hb
   exact .dD b' T blk n d' h1 (h2.trans hp)
  ·cases hr
 | ptr b off blk n d hb hp =>
  simp only[Zj]at hr
  split at hr
  ·rename_i b' hf
   cases hr
   obtain⟨⟨d',h1⟩,h2⟩:=h.var b b' d hf hb
   exact .ptr b' off blk n d' h1 (h2.trans hp)
  ·cases hr
 | xx τ y cs blk off wm hh hc=>cases hr; exact .xx τ y cs blk off (h.same _ wm).1 (hh.mono h.same) fun j v hv=>by rw[cv (h.same _ wm).2]; exact hc j v hv
 | uC b qY e idx off blk o hb hh =>
  simp only[Zj]at hr
  split at hr
  ·rename_i b' hf
   cases hr
   refine .uC b' qY e idx off blk o (h.old b b' qY hf hb) fun xs hx hi => ?_
   obtain⟨h1,h2⟩:=h.row b b' qY e xs hf hx
   rw[h2]
   exact hh xs h1 hi
  ·cases hr
 | ms b qY e off len cap a hb wH ha Z1 hh =>
  simp only[Zj]at hr
  split at hr
  ·rename_i b' hf
   cases hr
   refine .ms b' qY e off len cap a (h.old b b' qY hf hb) wH ha Z1 fun xs hx => ?_
   obtain⟨h1,h2⟩:=h.row b b' qY e xs hf hx
   have:=hh xs h1
   unfold LW at this ⊢
   rw[h2]
   exact this
  ·cases hr
 | xr g l vs hl hh=>cases hr
 | agg l vs hl ho hh=>cases hr
 | gK l vs hl hh=>cases hr
 | iface t d v hh=>cases hr
theorem Sw{d d':D}(h:Zj f d=some d'):d'.one=d.one:=by
 cases d<;>simp only[Zj]at h<;>first | (cases h; rfl) | (split at h<;>cases h; rfl) | cases h
theorem Tr.rdL(h:Tr κ κ' f):∀ {l l':List D} {vs:List Value},xz κ l vs→BQ f l=some l'→xz κ' l' vs
 | [],l',vs,hd,hr=>by cases hr; rw[hd.qI]; exact .nil
 | d::r,l',vs,hd,hr=>by
  simp only[BQ]at hr
  split at hr
  ·rename_i d' h1
   split at hr
   ·rename_i r' h2
    cases hr
    obtain⟨v,us,rfl,g1,g2⟩:=hd.cons_inv
    exact .cons (h.rd1 g1 h1) (h.rdL g2 h2)
   ·cases hr
  ·cases hr
theorem KB:∀ {l l':List D},BQ f l=some l'→(∀ d∈l,d.one=true)→∀ d∈l',d.one=true
 | [],l',hr,_=>by cases hr; nofun
 | d::r,l',hr,ho=>by
  simp only[BQ]at hr
  split at hr
  ·rename_i d' h1
   split at hr
   ·rename_i r' h2
    cases hr
    intro x hx
    rcases List.mem_cons.1 hx with rfl | hx
    ·rw[Sw h1]; exact ho d List.mem_cons_self
    ·exact KB h2 (fun y hy=>ho y (List.mem_cons_of_mem _ hy)) x hx
   ·cases hr
  ·cases hr
theorem Tr.rd(h:Tr κ κ' f){d d':D}{v:Value}(hd:RD κ d v)(hr:rq f d=some d'):RD κ' d' v:=by
 cases d with
 | xr g l =>
  simp only[rq]at hr
  split at hr
  ·rename_i l' hl
   cases hr
   cases hd with
   | xr _ _ vs h1 h2=>have:=h.rdL (⟨h1,h2⟩:xz κ l vs) hl; exact .xr g l' vs this.1 this.2
  ·cases hr
 | agg l =>
  simp only[rq]at hr
  split at hr
  ·rename_i l' hl
   cases hr
   cases hd with
   | agg _ vs h1 ho h2=>have:=h.rdL (⟨h1,h2⟩:xz κ l vs) hl; exact .agg l' vs this.1 (KB hl ho) this.2
  ·cases hr
 | _=>exact h.rd1 hd hr
theorem Tr.rds(h:Tr κ κ' f):∀ {l l':List D} {vs:List Value},xz κ l vs→Vy f l=some l'→xz κ' l' vs
 | [],l',vs,hd,hr=>by cases hr; rw[hd.qI]; exact .nil
 | d::r,l',vs,hd,hr=>by
  simp only[Vy]at hr
  split at hr
  ·rename_i d' h1
   split at hr
   ·rename_i r' h2
    cases hr
    obtain⟨v,us,rfl,g1,g2⟩:=hd.cons_inv
    exact .cons (h.rd g1 h1) (h.rds g2 h2)
   ·cases hr
  ·cases hr
theorem Tr.flat(h:Tr κ κ' f){d d':D}{vs:List Value}(hd:xz κ (qt d) vs)(ho:∀ x∈qt d,x.one=true)(hr:rq f d=some d'):xz κ' (qt d') vs∧∀ x∈qt d',x.one=true:=by
 have zU:∀ (τ:Ty) (x:den τ) (vs:List Value),xz κ (Go.AM.flat τ x) vs→xz κ' (Go.AM.flat τ x) vs:=by
  intro τ x vs hh
  refine⟨hh.1,fun i h1 h2 => ?_⟩
  have hm:=List.getElem_mem h1
  have:∃ σ z,(Go.AM.flat τ x)[i]=.zU σ z:=by
   generalize (Go.AM.flat τ x)[i]=y at hm
   clear hh h1 h2
   induction τ with
   | cons a b ia ib =>
    simp only[Go.AM.flat,List.mem_append]at hm
    rcases hm with hm | hm
    ·exact ia _ hm
    ·exact ib _ hm
   | nil=>simp[Go.AM.flat]at hm
   | expr=>simp[Go.AM.flat]at hm; rcases hm with rfl | rfl | rfl | rfl | rfl | rfl<;>exact⟨_,_,rfl⟩
   | _=>simp[Go.AM.flat]at hm; subst hm; exact⟨_,_,rfl⟩
  obtain⟨σ,z,e⟩:=this
  have h3:=hh.2 i h1 h2
  rw[e]at h3 ⊢
  exact h.rd1 h3 rfl
 cases d with
 | zU τ x=>cases hr; exact⟨zU τ x vs hd,ho⟩
 | agg l =>
  simp only[rq]at hr
  split at hr
  ·rename_i l' hl
   cases hr
   exact⟨h.rdL hd hl,KB hl ho⟩
  ·cases hr
 | gK l=>cases hr
 | xr g l =>
  obtain⟨v,r,rfl,h1,h2⟩:=xz.cons_inv (show xz κ [.xr g l] vs from hd)
  rw[h2.qI]
  have hr':=hr
  simp only[rq]at hr
  split at hr
  ·cases hr; exact⟨.cons (h.rd h1 hr') .nil,fun x hx=>by simp only[qt,List.mem_singleton]at hx; subst hx; rfl⟩
  ·cases hr
 | iface t x=>cases hr
 | ptr b off =>
  obtain⟨v,r,rfl,h1,h2⟩:=xz.cons_inv (show xz κ [.ptr b off] vs from hd)
  rw[h2.qI]
  have hr':=hr
  simp only[rq,Zj]at hr
  split at hr
  ·cases hr; exact⟨.cons (h.rd1 h1 hr') .nil,fun x hx=>by simp only[qt,List.mem_singleton]at hx; subst hx; rfl⟩
  ·cases hr
 | yr b T =>
  obtain⟨v,r,rfl,h1,h2⟩:=xz.cons_inv (show xz κ [.yr b T] vs from hd)
  rw[h2.qI]
  have hr':=hr
  simp only[rq,Zj]at hr
  split at hr
  ·cases hr; exact⟨.cons (h.rd1 h1 hr') .nil,fun x hx=>by simp only[qt,List.mem_singleton]at hx; subst hx; rfl⟩
  ·cases hr
 | uC b qY e idx off =>
  obtain⟨v,r,rfl,h1,h2⟩:=xz.cons_inv (show xz κ [.uC b qY e idx off] vs from hd)
  rw[h2.qI]
  have hr':=hr
  simp only[rq,Zj]at hr
  split at hr
  ·cases hr; exact⟨.cons (h.rd1 h1 hr') .nil,fun x hx=>by simp only[qt,List.mem_singleton]at hx; subst hx; rfl⟩
  ·cases hr
 | ms b qY e off len =>
  obtain⟨v,r,rfl,h1,h2⟩:=xz.cons_inv (show xz κ [.ms b qY e off len] vs from hd)
  rw[h2.qI]
  have hr':=hr
  simp only[rq,Zj]at hr
  split at hr
  ·cases hr; exact⟨.cons (h.rd1 h1 hr') .nil,fun x hx=>by simp only[qt,List.mem_singleton]at hx; subst hx; rfl⟩
  ·cases hr
 | _ =>
  cases hr
  obtain⟨v,r,rfl,h1,h2⟩:=xz.cons_inv hd
  rw[h2.qI]
  exact⟨.cons (h.rd1 h1 rfl) .nil,ho⟩
theorem Ik{f:Nat→Option Nat}{d d':D}{tt:Nat}(h:rq f d=some d')(ht:d'.typed=some tt):d.typed=some tt:=by
 cases d with
 | agg l =>
  simp only[rq]at h
  split at h
  ·rename_i l' hl
   cases h
   cases l with
   | nil=>cases hl; cases ht
   | cons x r =>
    simp only[BQ]at hl
    split at hl
    ·rename_i x' hx
     split at hl
     ·cases hl
      cases x<;>simp only[Zj]at hx<;>first
       | (cases hx; exact ht)
       | (split at hx<;>first | (cases hx; exact ht) | cases hx)
       | cases hx
     ·cases hl
    ·cases hl
  ·cases h
 | xr g l =>
  simp only[rq]at h
  split at h
  ·cases h; cases ht
  ·cases h
 | _ =>
  simp only[rq,Zj]at h
  first
   | (cases h; cases ht)
   | (split at h<;>first | (cases h; cases ht) | cases h)
   | cases h
theorem Tr.blk[Zk](h:Tr κ κ' f){b b':Nat}(hp:κ'.ph[b']? = κ.ph[b]?){y y':yp}(hy:fP κ b y)(hr:Uq f y=some y'):fP κ' b' y':=by
 cases y with
 | dead=>cases hr; trivial
 | var d =>
  simp only[Uq]at hr
  split at hr
  ·rename_i d' hd
   cases hr
   obtain⟨blk,n,cs,t,h1,h2,h3,h4,h5⟩:=hy
   obtain⟨g1,g2⟩:=h.flat h4 h5.1 hd
   exact⟨blk,n,cs,t,hp.trans h1,by rw[h.w]; exact h2,h3,g1,g2,fun T hT=>h5.2 T (Ik hd hT)⟩
  ·cases hr
 | arr qY e xs =>
  cases hr
  obtain⟨h0,hh⟩:=hy
  refine⟨h0,cp hh (fun h=>⟨h.1,hp.trans h.2⟩) ?_⟩
  rintro⟨blk,n,cs,t,h1,h2,h3,h4,hr,g,h5⟩
  exact⟨blk,n,cs,t,hp.trans h1,by rw[h.w]; exact h2,h3,h4,hr,g,fun i hi=>⟨(h5 i hi).1.mono h.same,(h5 i hi).2⟩⟩
theorem Zf{f:Nat→Option Nat}:∀ {fr:Fr} {s:Nat} {d':D},(ZQ f fr).get s=some d'→∃ d,fr.get s=some d∧rq f d=some d'
 | [],s,d',h=>by cases h
 | (t,some d)::r,s,d',h=>by
  simp only[ZQ,Fr.get]at h ⊢
  cases ht:Nat.beq t s with
  | true=>rw[ht,cond_true]at h; exact⟨d,rfl,h⟩
  | false=>rw[ht,cond_false]at h; simp only[cond_false]; exact Zf h
 | (t,none)::r,s,d',h=>by
  simp only[ZQ,Fr.get]at h ⊢
  cases ht:Nat.beq t s with
  | true=>rw[ht,cond_true]at h; cases h
  | false=>rw[ht,cond_false]at h; simp only[cond_false]; exact Zf h
end
def pos:List Nat→Nat→Option Nat
 | [],_=>none
 | b::r,i=>bif Nat.beq b i then some 0 else match pos r i with | some j=>some (j+1) | none=>none
def gA:List Nat→Bool
 | []=>true
 | b::r=>(match pos r b with | none=>true | some _=>false)&&gA r
theorem lH:∀ {mp:List Nat} {i j:Nat},pos mp i=some j→mp[j]? = some i
 | [],i,j,h=>by cases h
 | b::r,i,j,h=>by
  simp only[pos]at h
  cases hb:Nat.beq b i with
  | true=>rw[hb,cond_true]at h; cases h; rw[Nat.eq_of_beq_eq_true hb]; rfl
  | false =>
   rw[hb,cond_false]at h
   split at h
   ·rename_i k hk; cases h; simpa using lH hk
   ·cases h
theorem oQ:∀ {mp:List Nat} {i j:Nat},gA mp=true→mp[j]? = some i→pos mp i=some j
 | [],i,j,_,h=>by simp at h
 | b::r,i,j,hn,h=>by
  simp only[gA,Bool.and_eq_true]at hn
  cases j with
  | zero=>simp at h; subst h; simp only[pos]; rw[Nat.beq_refl]; rfl
  | succ j =>
   have h':r[j]? = some i:=by simpa using h
   have hp:=oQ hn.2 h'
   have uv:Nat.beq b i=false:=by
    cases hb:Nat.beq b i with
    | false=>rfl
    | true =>
     have:=Nat.eq_of_beq_eq_true hb
     subst this
     rw[hp]at hn
     cases hn.1
   simp only[pos,uv,cond_false,hp]
def lP{α:Type}(l:List α):List Nat→Option (List α)
 | []=>some []
 | b::r=>match l[b]? with
  | some x=>match lP l r with | some y=>some (x::y) | none=>none
  | none=>none
theorem V9{α:Type}{l:List α}:∀ {mp:List Nat} {r:List α},lP l mp=some r→r.length=mp.length∧∀ (j b:Nat),mp[j]? = some b→r[j]? = l[b]? ∧ b<l.length
 | [],r,h=>by cases h; exact⟨rfl,fun j b hj=>by simp at hj⟩
 | b::mp,r,h=>by
  simp only[lP]at h
  split at h
  ·rename_i x hx
   split at h
   ·rename_i y hy
    cases h
    obtain⟨h1,h2⟩:=V9 hy
    refine⟨by simp[h1],fun j c hj => ?_⟩
    cases j with
    | zero=>simp at hj; subst hj; exact⟨by simp[hx],(List.getElem?_eq_some_iff.1 hx).1⟩
    | succ j=>have:=h2 j c (by simpa using hj); simpa using this
   ·cases h
  ·cases h
theorem WZ{f:Nat→Option Nat}:∀ {l r:List yp},pP f l=some r→r.length=l.length∧∀ (j:Nat) (x:yp),l[j]? = some x→∃ y,r[j]? = some y∧Uq f x=some y
 | [],r,h=>by cases h; exact⟨rfl,fun j x hj=>by simp at hj⟩
 | b::l,r,h=>by
  simp only[pP]at h
  split at h
  ·rename_i b' hb
   split at h
   ·rename_i r' hr
    cases h
    obtain⟨h1,h2⟩:=WZ hr
    refine⟨by simp[h1],fun j x hj => ?_⟩
    cases j with
    | zero=>simp at hj; subst hj; exact⟨b',rfl,hb⟩
    | succ j=>have:=h2 j x (by simpa using hj); simpa using this
   ·cases h
  ·cases h
def sN{α:Type}(mp:List Nat)(new:List α):Nat→List α→List α
 | _,[]=>[]
 | i,x::r=>(match pos mp i with | some j=>(match new[j]? with | some y=>y | none=>x) | none=>x)::sN mp new (i+1) r
def wB{α:Type}(mp:List Nat)(old new:List α):List α:=sN mp new 0 old++new.drop mp.length
theorem ja{α:Type}(mp:List Nat)(new:List α):∀ (l:List α) (i:Nat),(sN mp new i l).length=l.length
 | [],_=>rfl
 | x::r,i=>by simp[sN,ja mp new r (i+1)]
theorem Qy{α:Type}(mp:List Nat)(new:List α):∀ (l:List α) (i k:Nat),(sN mp new i l)[k]? = (l[k]?).map fun x=>match pos mp (i+k)with | some j=>(match new[j]? with | some y=>y | none=>x) | none=>x
 | [],i,k=>by simp[sN]
 | x::r,i,0=>by simp[sN]
 | x::r,i,k+1=>by
  have:=Qy mp new r (i+1) k
  simp only[sN,List.getElem?_cons_succ,this]
  rw[show i+1+k=i+(k+1) by omega]
def fwd(mp:List Nat)(n:Nat)(j:Nat):Nat:=match mp[j]? with | some b=>b | none=>n+(j-mp.length)
theorem mJ{α:Type}{mp:List Nat}{old new:List α}{i:Nat}(hi:i<old.length)(hp:pos mp i=none):(wB mp old new)[i]? = old[i]? := by
 unfold wB
 rw[List.getElem?_append_left (by rw[ja]; exact hi),Qy,Nat.zero_add,hp]
 simp
theorem D7{α:Type}{mp:List Nat}{old new:List α}(hn:gA mp=true)(qu:∀ (j b:Nat),mp[j]? = some b→b<old.length)(hlen:mp.length≤new.length){j:Nat}(hj:j<new.length):(wB mp old new)[fwd mp old.length j]? = new[j]? := by
 unfold wB fwd
 cases hm:mp[j]? with
 | some b =>
  have hb:=qu j b hm
  simp only
  rw[List.getElem?_append_left (by rw[ja]; exact hb),Qy,Nat.zero_add,oQ hn hm]
  simp[hb,List.getElem?_eq_getElem hj]
 | none =>
  have:mp.length≤j:=by simpa using hm
  simp only
  rw[List.getElem?_append_right (by rw[ja]; omega),ja,List.getElem?_drop]
  congr 1
  omega
theorem Ev{α:Type}{mp:List Nat}{old new:List α}(qu:∀ (j b:Nat),mp[j]? = some b→b<old.length)(hlen:mp.length≤new.length){i:Nat}(hi:i<(wB mp old new).length) :
  (i<old.length∧pos mp i=none)∨∃ j,j<new.length∧i=fwd mp old.length j:=by
 by_cases h:i<old.length
 ·cases hp:pos mp i with
  | none=>exact .inl ⟨h,rfl⟩
  | some j =>
   have:=lH hp
   have hj:=(List.getElem?_eq_some_iff.1 this).1
   exact .inr ⟨j,by omega,by unfold fwd; rw[this]⟩
 ·have hl:i<old.length+(new.length-mp.length):=by simpa[wB,ja]using hi
  refine .inr ⟨mp.length+(i-old.length),by omega,?_⟩
  unfold fwd
  rw[List.getElem?_eq_none (by omega)]
  simp only
  omega
end Go.AM
namespace Go.AM
set_option linter.unusedSectionVars false
variable [uH]
open Go.RowKit
section
variable {κ:KS} {mp:List Nat}
theorem Fs{bP l:List yp}{p1:List (Option (Nat×Nat))}(hI:Inv κ)(hn:gA mp=true)(hp:lP κ.ph mp=some p1)(hl:lP κ.st mp=some l)(hr:pP (pos mp) l=some bP) :
  Inv ⟨κ.w,κ.ok,p1,bP⟩∧Tr κ ⟨κ.w,κ.ok,p1,bP⟩ (pos mp)∧bP.length=mp.length∧p1.length=mp.length∧∀ (j b:Nat),mp[j]? = some b→p1[j]? = κ.ph[b]? ∧ ∃ x y:yp,κ.st[b]? = some x∧Uq (pos mp) x=some y∧bP[j]? = some y:=by
 obtain⟨a1,a2⟩:=V9 hp
 obtain⟨b1,b2⟩:=V9 hl
 obtain⟨c1,c2⟩:=WZ hr
 have key:∀ (j b:Nat),mp[j]? = some b→p1[j]? = κ.ph[b]? ∧ ∃ x y:yp,κ.st[b]? = some x∧Uq (pos mp) x=some y∧bP[j]? = some y:=by
  intro j b hj
  refine⟨(a2 j b hj).1,?_⟩
  obtain⟨h1,h2⟩:=b2 j b hj
  have hx:l[j]? = some (κ.st[b]'h2):=by rw[h1,List.getElem?_eq_getElem h2]
  obtain⟨y,g1,g2⟩:=c2 j _ hx
  exact⟨_,y,List.getElem?_eq_getElem h2,g2,g1⟩
 have at':∀ {j:Nat} {y:yp},bP[j]? = some y→∃ b,mp[j]? = some b:=fun h=>by
  have:=(List.getElem?_eq_some_iff.1 h).1
  exact⟨_,List.getElem?_eq_getElem (by omega)⟩
 have hT:Tr κ ⟨κ.w,κ.ok,p1,bP⟩ (pos mp):=by
  refine⟨rfl,rfl,fun b j d hf hb => ?_,fun b j qY hf ho => ?_,fun b j v e xs hf hb => ?_⟩
  ·obtain⟨h1,x,y,h2,h3,h4⟩:=key j b (lH hf)
   rw[hb]at h2
   cases h2
   simp only[Uq]at h3
   split at h3
   ·cases h3; exact⟨⟨_,h4⟩,h1⟩
   ·cases h3
  ·obtain⟨h1,x,y,h2,h3,h4⟩:=key j b (lH hf)
   rcases ho with ho | ⟨v0,e0,ri,ho,hv⟩
   ·rw[ho]at h2; cases h2; cases h3; exact .inl h4
   ·rw[ho]at h2; cases h2; cases h3; exact .inr ⟨v0,e0,ri,h4,hv⟩
  ·obtain⟨h1,x,y,h2,h3,h4⟩:=key j b (lH hf)
   rw[show bP[j]? = some (.arr v e xs)from hb]at h4
   cases h4
   cases x with
   | dead=>cases h3
   | var d=>simp only[Uq]at h3; split at h3<;>cases h3
   | arr v0 e0 ri=>cases h3; exact⟨h2,h1⟩
 refine⟨⟨by show p1.length=bP.length; omega,hI.yi,fun j blk n h => ?_,fun j j' blk n n' h h' => ?_,fun j y h => ?_,hI.gl⟩,hT,by omega,a1,key⟩
 ·obtain⟨b,hb⟩:∃ b,mp[j]? = some b:=⟨_,List.getElem?_eq_getElem (by have:j<p1.length:=(List.getElem?_eq_some_iff.1 h).1; omega)⟩
  exact hI.apart b blk n ((a2 j b hb).1.symm.trans h)
 ·obtain⟨b,hb⟩:∃ b,mp[j]? = some b:=⟨_,List.getElem?_eq_getElem (by have:j<p1.length:=(List.getElem?_eq_some_iff.1 h).1; omega)⟩
  obtain⟨b',ZI⟩:∃ b,mp[j']? = some b:=⟨_,List.getElem?_eq_getElem (by have:j'<p1.length:=(List.getElem?_eq_some_iff.1 h').1; omega)⟩
  have:=hI.inj b b' blk n n' ((a2 j b hb).1.symm.trans h) ((a2 j' b' ZI).1.symm.trans h')
  subst this
  exact Option.some.inj ((oQ hn hb).symm.trans (oQ hn ZI))
 ·obtain⟨b,hb⟩:=at' h
  obtain⟨h1,x,y',h2,h3,h4⟩:=key j b hb
  rw[show bP[j]? = some y from h]at h4
  cases h4
  exact hT.blk h1 (hI.blk b x h2) h3
theorem HD{κ1:KS}{bP jD l:List yp}{p1:List (Option (Nat×Nat))}(hI:Inv κ)(hn:gA mp=true)(hp:lP κ.ph mp=some p1)(hl:lP κ.st mp=some l)(hr:pP (pos mp) l=some bP)
  (Wy:Inv κ1) (hx:Ext ⟨κ.w,κ.ok,p1,bP⟩ κ1) (hr2:pP (fun j=>some (fwd mp κ.st.length j)) κ1.st=some jD) :
  ∃ κ':KS,κ'.w=κ1.w∧κ'.st=wB mp κ.st jD∧Inv κ'∧Ext κ κ'∧Tr κ1 κ' (fun j=>some (fwd mp κ.st.length j)):=by
 obtain⟨hIs,hTs,s1,s2,key⟩:=Fs hI hn hp hl hr
 obtain⟨r1,r2⟩:=WZ hr2
 have qu:∀ (j b:Nat),mp[j]? = some b→b<κ.st.length:=fun j b hj=>by obtain⟨_,x,_,h,_⟩:=key j b hj; exact(List.getElem?_eq_some_iff.1 h).1
 have zf2:∀ (j b:Nat),mp[j]? = some b→b<κ.ph.length:=fun j b hj=>by rw[hI.len]; exact qu j b hj
 have hm1:mp.length≤κ1.st.length:=by have:=hx.E6; simp only at this; omega
 have NH:mp.length≤jD.length:=by omega
 have Pg:mp.length≤κ1.ph.length:=by rw[Wy.len]; exact hm1
 let fw:=fwd mp κ.st.length
 have hlen:(wB mp κ.ph κ1.ph).length=(wB mp κ.st jD).length:=by simp[wB,ja,hI.len,Wy.len,r1]
 -- what lies where
 have cst:∀ {j:Nat} {x:yp},κ1.st[j]? = some x→∃ y,(wB mp κ.st jD)[fw j]? = some y∧Uq (fun j=>some (fw j)) x=some y:=by
  intro j x hj
  obtain⟨y,h1,h2⟩:=r2 j x hj
  exact⟨y,by rw[D7 hn qu NH (by rw[r1]; exact(List.getElem?_eq_some_iff.1 hj).1)]; exact h1,h2⟩
 have cph:∀ {j:Nat},j<κ1.st.length→(wB mp κ.ph κ1.ph)[fw j]? = κ1.ph[j]? := by
  intro j hj
  have:=D7 (old:=κ.ph) (new:=κ1.ph) hn zf2 Pg (j:=j) (by rw[Wy.len]; exact hj)
  rw[hI.len]at this
  exact this
 have ust:∀ {i:Nat},i<κ.st.length→pos mp i=none→(wB mp κ.st jD)[i]? = κ.st[i]? := fun hi h=>mJ hi h
 have uph:∀ {i:Nat},i<κ.st.length→pos mp i=none→(wB mp κ.ph κ1.ph)[i]? = κ.ph[i]? := fun hi h=>mJ (by rw[hI.len]; exact hi) h
 have Wz:∀ {i:Nat},i<(wB mp κ.st jD).length→(i<κ.st.length∧pos mp i=none)∨∃ j,j<κ1.st.length∧i=fw j:=by
  intro i hi
  rcases Ev qu NH hi with h | ⟨j,h1,h2⟩
  ·exact .inl h
  ·exact .inr ⟨j,by omega,h2⟩
 have NQ:∀ {j b:Nat},mp[j]? = some b→fw j=b:=fun h=>by simp only[fw,fwd,h]
 have zkI:∀ {j:Nat},mp[j]? = none→κ.st.length≤fw j:=fun h=>by simp only[fw,fwd,h]; omega
 -- the part's own blocks
 have sph:∀ {j:Nat} {q:Nat×Nat},p1[j]? = some (some q)→∃ b,mp[j]? = some b∧κ.ph[b]? = some (some q):=by
  intro j q h
  have hj:=(List.getElem?_eq_some_iff.1 h).1
  obtain⟨b,hb⟩:∃ b,mp[j]? = some b:=⟨_,List.getElem?_eq_getElem (by omega)⟩
  exact⟨b,hb,(key j b hb).1.symm.trans h⟩
 have hT:Tr κ1 ⟨κ1.w,κ1.ok,wB mp κ.ph κ1.ph,wB mp κ.st jD⟩ (fun j=>some (fw j)):=by
  refine⟨rfl,rfl,fun j b d hf hj => ?_,fun j b qY hf ho => ?_,fun j b v e xs hf hb => ?_⟩
  ·cases hf
   obtain⟨y,h1,h2⟩:=cst hj
   simp only[Uq]at h2
   split at h2
   ·cases h2; exact⟨⟨_,h1⟩,cph (List.getElem?_eq_some_iff.1 hj).1⟩
   ·cases h2
  ·cases hf
   rcases ho with ho | ⟨v0,e0,ri,ho,hv⟩
   ·obtain⟨y,h1,h2⟩:=cst ho; cases h2; exact .inl h1
   ·obtain⟨y,h1,h2⟩:=cst ho; cases h2; exact .inr ⟨v0,e0,ri,h1,hv⟩
  ·cases hf
   have hb:(wB mp κ.st jD)[fw j]? = some (.arr v e xs):=hb
   have Wx:=(List.getElem?_eq_some_iff.1 hb).1
   have hj:j<κ1.st.length:=by
    by_cases hj:j<κ1.st.length
    ·exact hj
    ·exfalso
     cases hm:mp[j]? with
     | some c=>have:=(List.getElem?_eq_some_iff.1 hm).1; omega
     | none =>
      have h3:fw j=κ.st.length+(j-mp.length):=by simp only[fw,fwd,hm]
      have h4:(wB mp κ.st jD).length=κ.st.length+(jD.length-mp.length):=by simp[wB,ja]
      omega
   obtain⟨y,h1,h2⟩:=cst (List.getElem?_eq_getElem hj)
   rw[hb]at h1
   cases h1
   refine⟨?_,cph hj⟩
   rw[List.getElem?_eq_getElem hj]
   generalize κ1.st[j]=x at h2
   cases x with
   | dead=>cases h2
   | var d=>simp only[Uq]at h2; split at h2<;>cases h2
   | arr v0 e0 ri=>cases h2; rfl
 -- GK blocks lie as they lay
 have GK:∀ {i blk n:Nat},pos mp i=none→κ.ph[i]? = some (some (blk,n))→κ1.w.heap[blk]? = κ.w.heap[blk]? := by
  intro i blk n hi h
  obtain⟨g1,g2⟩:=hI.apart i blk n h
  refine hx.frame blk g1 fun j m hj => ?_
  obtain⟨b,BN,BW⟩:=sph hj
  have:=hI.inj i b blk n m h BW
  subst this
  rw[oQ hn BN]at hi
  cases hi
 have hE:Ext κ ⟨κ1.w,κ1.ok,wB mp κ.ph κ1.ph,wB mp κ.st jD⟩:=by
  refine⟨hx.os,hx.tape,hx.output,hx.size,hx.same,fun k hk => ?_,fun i blk n h => ?_,fun i d hi => ?_,fun i v0 e ri hi => ?_,fun i hi => ?_,?_,fun k hk BL => ?_⟩
  ·rcases hx.fresh k hk with h | h | ⟨j,n,h⟩
   ·exact .inl h
   ·exact .inr (.inl h)
   ·obtain⟨b,_,hb⟩:=sph h; exact .inr (.inr ⟨b,n,hb⟩)
  ·have h:(wB mp κ.ph κ1.ph)[i]? = some (some (blk,n)):=h
   have Uj:i<(wB mp κ.st jD).length:=by rw[← hlen]; exact(List.getElem?_eq_some_iff.1 h).1
   rcases Wz Uj with⟨h1,h2⟩ | ⟨j,h1,rfl⟩
   ·rw[uph h1 h2]at h; exact .inl h
   ·rw[cph h1]at h
    rcases hx.phs j blk n h with h3 | h3
    ·obtain⟨b,BN,BW⟩:=sph h3
     rw[NQ BN]; exact .inl BW
    ·exact .inr h3
  ·have Iu:=(List.getElem?_eq_some_iff.1 hi).1
   cases BJ:pos mp i with
   | none=>exact⟨⟨d,(ust Iu BJ).trans hi⟩,uph Iu BJ⟩
   | some j =>
    have hmj:=lH BJ
    obtain⟨k1,x,y,k2,k3,k4⟩:=key j i hmj
    rw[hi]at k2
    cases k2
    simp only[Uq]at k3
    split at k3
    ·cases k3
     obtain⟨⟨d',g1⟩,g2⟩:=hx.var j _ k4
     obtain⟨⟨d'',q1⟩,q2⟩:=hT.var j (fw j) d' rfl g1
     rw[NQ hmj]at q1 q2
     exact⟨⟨d'',q1⟩,q2.trans (g2.trans k1)⟩
    ·cases k3
  ·have Iu:=(List.getElem?_eq_some_iff.1 hi).1
   cases BJ:pos mp i with
   | none=>exact .inr ⟨v0,ri,(ust Iu BJ).trans hi,Nat.le_refl _,fun _=>⟨uph Iu BJ,rfl⟩⟩
   | some j =>
    have hmj:=lH BJ
    obtain⟨k1,x,y,k2,k3,k4⟩:=key j i hmj
    rw[hi]at k2
    cases k2
    cases k3
    rcases hx.arr j v0 e ri k4 with g | ⟨v1,zE,g1,g2,g3⟩
    ·obtain⟨y,q1,q2⟩:=cst g
     cases q2
     rw[NQ hmj]at q1
     exact .inl q1
    ·obtain⟨y,q1,q2⟩:=cst g1
     cases q2
     rw[NQ hmj]at q1
     refine .inr ⟨v1,zE,q1,g2,fun he=>⟨?_,(g3 he).2⟩⟩
     have h4:=cph (List.getElem?_eq_some_iff.1 g1).1
     rw[NQ hmj]at h4
     exact h4.trans ((g3 he).1.trans k1)
  ·have Iu:=(List.getElem?_eq_some_iff.1 hi).1
   cases BJ:pos mp i with
   | none=>exact(ust Iu BJ).trans hi
   | some j =>
    have hmj:=lH BJ
    obtain⟨k1,x,y,k2,k3,k4⟩:=key j i hmj
    rw[hi]at k2
    cases k2
    cases k3
    obtain⟨y,q1,q2⟩:=cst (hx.dead j k4)
    cases q2
    rw[NQ hmj]at q1
    exact q1
  ·show κ.st.length≤(wB mp κ.st jD).length
   simp[wB,ja]
  ·exact hx.frame k hk fun j n hj=>by obtain⟨b,_,hb⟩:=sph hj; exact BL b n hb
 refine⟨⟨κ1.w,κ1.ok,wB mp κ.ph κ1.ph,wB mp κ.st jD⟩,rfl,rfl,⟨hlen,Wy.yi,fun i blk n h => ?_,fun i i' blk n n' h h' => ?_,fun i y h => ?_,Wy.gl⟩,hE,hT⟩
 ·have h:(wB mp κ.ph κ1.ph)[i]? = some (some (blk,n)):=h
  have Uj:i<(wB mp κ.st jD).length:=by rw[← hlen]; exact(List.getElem?_eq_some_iff.1 h).1
  rcases Wz Uj with⟨h1,h2⟩ | ⟨j,h1,rfl⟩
  ·rw[uph h1 h2]at h
   obtain⟨g1,g2⟩:=hI.apart i blk n h
   refine⟨Nat.lt_of_lt_of_le g1 hx.size,fun hk => ?_⟩
   rcases hx.fresh blk hk with hk | hk | ⟨j,m,hj⟩
   ·exact g2 hk
   ·simp only at hk; omega
   ·obtain⟨b,BN,BW⟩:=sph hj
    have:=hI.inj i b blk n m h BW
    subst this
    rw[oQ hn BN]at h2
    cases h2
  ·rw[cph h1]at h
   exact Wy.apart j blk n h
 ·have h:(wB mp κ.ph κ1.ph)[i]? = some (some (blk,n)):=h
  have h':(wB mp κ.ph κ1.ph)[i']? = some (some (blk,n')):=h'
  have Tw:i<(wB mp κ.st jD).length:=by rw[← hlen]; exact(List.getElem?_eq_some_iff.1 h).1
  have HL:i'<(wB mp κ.st jD).length:=by rw[← hlen]; exact(List.getElem?_eq_some_iff.1 h').1
  have mixed:∀ {i j n n':Nat},i<κ.st.length→pos mp i=none→j<κ1.st.length→κ.ph[i]? = some (some (blk,n))→κ1.ph[j]? = some (some (blk,n'))→False:=by
   intro i j n n' h1 h2 h3 h4 h5
   rcases hx.phs j blk n' h5 with h6 | h6
   ·obtain⟨b,BN,BW⟩:=sph h6
    have:=hI.inj i b blk n n' h4 BW
    subst this
    rw[oQ hn BN]at h2
    cases h2
   ·have:=(hI.apart i blk n h4).1
    simp only at h6
    omega
  rcases Wz Tw with⟨h1,h2⟩ | ⟨j,h1,rfl⟩
  ·rw[uph h1 h2]at h
   rcases Wz HL with⟨h3,h4⟩ | ⟨j',h3,rfl⟩
   ·rw[uph h3 h4]at h'; exact hI.inj i i' blk n n' h h'
   ·rw[cph h3]at h'; exact(mixed h1 h2 h3 h h').elim
  ·rw[cph h1]at h
   rcases Wz HL with⟨h3,h4⟩ | ⟨j',h3,rfl⟩
   ·rw[uph h3 h4]at h'; exact(mixed h3 h4 h1 h' h).elim
   ·rw[cph h3]at h'
    rw[Wy.inj j j' blk n n' h h']
 ·have h:(wB mp κ.st jD)[i]? = some y:=h
  rcases Wz (List.getElem?_eq_some_iff.1 h).1 with⟨h1,h2⟩ | ⟨j,h1,rfl⟩
  ·rw[ust h1 h2]at h
   exact(hI.blk i y h).mono hE (uph h1 h2) fun blk n hb=>GK h2 hb
  ·obtain⟨z,q1,q2⟩:=cst (List.getElem?_eq_getElem h1)
   rw[h]at q1
   cases q1
   exact hT.blk (cph h1) (Wy.blk j _ (List.getElem?_eq_getElem h1)) q2
end
end Go.AM
namespace Go.AM
set_option linter.unusedSectionVars false
variable [uH]
open Go.RowKit
inductive AK where
 | any | cur | sub | ptr | xr (f:Nat)
structure cP where
 ks:List AK
 sh:mH
 gZ:List Gh
 out:mH
 nr:Nat
 F:sh.den→T out.den
def Lj(fr:Fr):Nat→Nat→Option (List D)
 | 0,_=>some []
 | n+1,i=>match fr.get i with
  | some d=>match Lj fr n (i+1)with | some r=>some (d::r) | none=>none
  | none=>none
def eE(nr:Nat)(fr:Fr):Option (List D):=Lj fr nr 0
def SX:List (Nat×Nat)→List D→Nat→Option Nat
 | p::r,.ptr b' _::ds,b=>bif Nat.beq p.1 b then some b' else SX r ds b
 | _,_,_=>none
def z9b(b:Nat):Ck→D→Option Nat
 | .ptr c _,.ptr b' _=>bif Nat.beq c b then some b' else none
 | .cur c _,.ms b' _ _ _ _=>bif Nat.beq c b then some b' else none
 | .xr _ l,.xr _ ds=>SX l ds b
 | _,_=>none
def z5Y(fr:Fr)(b:Nat):List (Nat×Ck)→Option Nat
 | []=>none
 | (s,k)::r=>match fr.get s with
  | some d=>match z9b b k d with | some b'=>some b' | none=>z5Y fr b r
  | none=>z5Y fr b r
def DG(b:Nat):List Mc→List D→Option Nat
 | .pt c::r,.ptr b' _::ds=>bif Nat.beq c b then some b' else DG b r ds
 | .pt _::r,_::ds=>DG b r ds
 | .im _::r,_::ds=>DG b r ds
 | .rp _::r,_::ds=>DG b r ds
 | _,_=>none
def KU(b:Nat):List Sk→List D→Option Nat
 | .im τ::r,ds=>KU b r (ds.drop τ.size)
 | .row c _::r,.ms b' _ _ _ _::ds=>bif Nat.beq c b then some b' else KU b r ds
 | .row _ _::r,_::ds=>KU b r ds
 | .op c _::r,.yr b' _::ds=>bif Nat.beq c b then some b' else KU b r ds
 | .op _ _::r,_::ds=>KU b r ds
 | .un::r,_::ds=>KU b r ds
 | _,_=>none
def YV(fr:Fr)(b:Nat):List It→Option Nat
 | []=>none
 | .s s (.mclo _ ms)::r=>match fr.get s with
  | some (.xr _ l)=>match DG b ms l with | some b'=>some b' | none=>YV fr b r
  | _=>YV fr b r
 | .s s (.sub c _)::r=>match fr.get s with
  | some (.ms b' _ _ _ _)=>bif Nat.beq c b then some b' else YV fr b r
  | _=>YV fr b r
 | _::r=>YV fr b r
def NU(st:St)(b:Nat):List Bk→List (Option Nat)→Option Nat
 | .cvar k::r,some p::ps=>match st[p]? with
  | some (.var d)=>match z9b b k d with | some b'=>some b' | none=>NU st b r ps
  | _=>NU st b r ps
 | .var (.st ks)::r,some p::ps=>match st[p]? with
  | some (.var d)=>match KU b ks (qt d)with | some b'=>some b' | none=>NU st b r ps
  | _=>NU st b r ps
 | _::r,_::ps=>NU st b r ps
 | _,_=>none
def z9l(sh:mH)(fr:Fr):Nat→List Bk→List (Option Nat)
 | _,[]=>[]
 | b,_::r=>(match z5Y fr b sh.cs with | some b'=>some b' | none=>YV fr b sh.ry)::z9l sh fr (b+1) r
def z36(sh:mH)(st:St)(m:List (Option Nat)):Nat→List (Option Nat)→List (Option Nat)
 | _,[]=>[]
 | b,some b'::r=>some b'::z36 sh st m (b+1) r
 | b,none::r=>NU st b sh.bs m::z36 sh st m (b+1) r
def zaV:List (Option Nat)→Option (List Nat)
 | []=>some []
 | some b::r=>match zaV r with | some l=>some (b::l) | none=>none
 | none::_=>none
def mapOf(sh:mH)(fr:Fr)(st:St):Option (List Nat):=let m:=z9l sh fr 0 sh.bs
 let m:=z36 sh st m 0 m
 zaV (z36 sh st m 0 m)
def cP.back(d:cP)(mp:List Nat)(st:St)(y:d.out.den):T (HV×St):=match eE d.nr (d.out.fr y),pP (fun j=>some (fwd mp st.length j)) (d.out.st y)with
 | some ds,some jD=>match Vy (fun j=>some (fwd mp st.length j)) ds with
  | some Yr=>.ret (.ret Yr,wB mp st jD)
  | none=>.fail
 | _,_=>.fail
def cP.inner(d:cP)(mp:List Nat)(fr:Fr)(st:St):T (HV×St):=match lP st mp with
 | none=>.fail
 | some l=>match pP (pos mp) l with
  | none=>.fail
  | some bP=>(d.sh.un (ZQ (pos mp) fr) bP).bind fun x=>(d.F x).bind fun y=>d.back mp st y
def cP.S(d:cP)(args:List D)(st:St):T (HV×St) :=
 match mapOf d.sh (gh d.gZ (wL args 0) st).1 (gh d.gZ (wL args 0) st).2 with
 | none=>.fail
 | some mp=>bif gA mp&&Nat.ble mp.length d.sh.bs.length&&Nat.beq args.length d.ks.length then d.inner mp (gh d.gZ (wL args 0) st).1 (gh d.gZ (wL args 0) st).2 else .fail
def cP.Y8{α:Type}(d:cP)(mp:List Nat)(st:St)(y:d.out.den)(k:List D→St→T α):T α:=match eE d.nr (d.out.fr y),pP (fun j=>some (fwd mp st.length j)) (d.out.st y)with
 | some ds,some jD=>match Vy (fun j=>some (fwd mp st.length j)) ds with
  | some Yr=>k Yr (wB mp st jD)
  | none=>.fail
 | _,_=>.fail
def cP.sq{α:Type}(d:cP)(mp:List Nat)(fr:Fr)(st:St)(k:List D→St→T α):T α:=match lP st mp with
 | none=>.fail
 | some l=>match pP (pos mp) l with
  | none=>.fail
  | some bP=>(d.sh.un (ZQ (pos mp) fr) bP).bind fun x=>(d.F x).bind fun y=>d.Y8 mp st y k
def cP.K{α:Type}(d:cP)(args:List D)(st:St)(k:List D→St→T α):T α :=
 match mapOf d.sh (gh d.gZ (wL args 0) st).1 (gh d.gZ (wL args 0) st).2 with
 | none=>.fail
 | some mp=>bif gA mp&&Nat.ble mp.length d.sh.bs.length&&Nat.beq args.length d.ks.length then d.sq mp (gh d.gZ (wL args 0) st).1 (gh d.gZ (wL args 0) st).2 k else .fail
theorem cP.z6G{α:Type}{d:cP}{args:List D}{st:St}{k:List D→St→T α}{r:α}(h:(d.K args st k).leads r):∃ ds zO,(d.S args st).leads (.ret ds,zO)∧(k ds zO).leads r:=by
 unfold cP.K at h
 unfold cP.S
 split at h
 ·exact h.elim
 ·rename_i mp Pg
  cases hc:gA mp&&Nat.ble mp.length d.sh.bs.length&&Nat.beq args.length d.ks.length with
  | false=>rw[hc]at h; exact h.elim
  | true =>
   rw[hc,cond_true]at h
   rw[cond_true]
   unfold cP.sq at h
   unfold cP.inner
   split at h
   ·exact h.elim
   ·rename_i l hl
    split at h
    ·exact h.elim
    ·rename_i bP hst1
     obtain⟨x,h1,h⟩:=T.zg.1 h
     obtain⟨y,h2,h⟩:=T.zg.1 h
     unfold cP.Y8 at h
     split at h
     ·rename_i ds jD e1 e2
      split at h
      ·rename_i Yr e3
       refine⟨Yr,_,T.zg.2 ⟨x,h1,T.zg.2 ⟨y,h2,?_⟩⟩,h⟩
       unfold cP.back
       simp only[e1,e2,e3]
       rfl
      ·exact h.elim
     ·exact h.elim
def z5r(Dr:z6w)(g:Nat)(d:cP):Prop:=∀ (κ:KS) (x:d.sh.den) (qj:List Value) (y:d.out.den),κ.st=d.sh.st x→(d.F x).leads y→Inv κ→qj.length=d.ks.length →
 Rel κ qj.length (d.sh.fr x).get { tmps:=qj.toArray,defers:=[] } →
 Dr g qj.toArray κ.w fun e w'=>∃ (κ':KS) (ds:List D),κ'.w=w'∧κ'.st=d.out.st y∧Inv κ'∧Ext κ κ'∧eE d.nr (d.out.fr y)=some ds∧vH κ' (.ret ds) e
def vT(P:Program)(g:Nat)(d:cP):Prop:=∀ (κ:KS) (x:d.sh.den) (qj:List Value) (y:d.out.den),κ.st=d.sh.st x→(d.F x).leads y→Inv κ→qj.length=d.ks.length →
 Rel κ qj.length (d.sh.fr x).get { tmps:=qj.toArray,defers:=[] } →
 uU P g qj.toArray κ.w fun e w'=>∃ (κ':KS) (ds:List D),κ'.w=w'∧κ'.st=d.out.st y∧Inv κ'∧Ext κ κ'∧eE d.nr (d.out.fr y)=some ds∧vH κ' (.ret ds) e
theorem M4{κ κ':KS}{f:Nat→Option Nat}(h:Tr κ κ' f){ds Yr:List D}{v:Value}(hd:RD κ (gq ds) v)(hr:Vy f ds=some Yr):RD κ' (gq Yr) v:=by
 match ds,hr with
 | [],hr =>
  cases hr
  cases hd with
  | gK _ vs hl hh =>
   obtain rfl:vs=[]:=List.eq_nil_of_length_eq_zero hl.symm
   exact .gK [] [] rfl (fun i h=>absurd h (Nat.not_lt_zero i))
 | [d],hr =>
  simp only[Vy]at hr
  split at hr
  ·rename_i d' h1
   cases hr
   exact h.rd hd h1
  ·cases hr
 | d::e::r,hr =>
  have hd:RD κ (.gK (d::e::r)) v:=hd
  cases hd with
  | gK _ vs hl hh =>
   have hR:=h.rds (⟨hl,hh⟩:xz κ (d::e::r) vs) hr
   simp only[Vy]at hr
   split at hr
   ·split at hr
    ·rename_i r' h2
     cases hr
     split at h2
     ·split at h2
      ·cases h2; exact .gK _ vs hR.1 hR.2
      ·cases h2
     ·cases h2
    ·cases hr
   ·cases hr
theorem QA{α β:Type}{l:List α}{m:List β}(h:l.length=m.length):∀ {mp:List Nat} {r:List α},lP l mp=some r→∃ q,lP m mp=some q
 | [],_,_=>⟨[],rfl⟩
 | b::mp,r,hr=>by
  simp only[lP]at hr
  split at hr
  ·rename_i x hx
   split at hr
   ·rename_i y hy
    obtain⟨q,hq⟩:=QA h hy
    have hb:b<m.length:=by have:=(List.getElem?_eq_some_iff.1 hx).1; omega
    exact⟨m[b]::q,by simp only[lP,List.getElem?_eq_getElem hb,hq]⟩
   ·cases hr
  ·cases hr
theorem cP.zhk{Dr:z6w}(zak:∀ {g a w} {R R':Ending→World→Prop},Dr g a w R→(∀ e w',R e w'→R' e w')→Dr g a w R'){g:Nat}{d:cP}(h:z5r Dr g d):zg4 Dr g d.S:=by
 intro κ args qj rs zO hl hI ha
 have hR0:Rel κ qj.length (wL args 0).get { tmps:=qj.toArray,defers:=[] }:=by
  have:=Wd (n:=qj.length) ha (by rw[ha.1]; exact Nat.le_refl _)
  simpa[show(BK.df:List Deferred)=[]from rfl]using this
 obtain⟨κ0,w1,w2,w3,w4,w5⟩:=nh d.gZ (wL args 0) κ hI hR0
 unfold cP.S at hl
 rw[← w2]at hl
 split at hl
 ·exact hl.elim
 ·rename_i mp Pg
  cases hc:gA mp&&Nat.ble mp.length d.sh.bs.length&&Nat.beq args.length d.ks.length with
  | false=>rw[hc]at hl; exact hl.elim
  | true =>
   rw[hc,cond_true]at hl
   simp only[Bool.and_eq_true]at hc
   obtain⟨⟨hn,hle⟩,hlen⟩:=hc
   unfold cP.inner at hl
   split at hl
   ·exact hl.elim
   ·rename_i l XA
    split at hl
    ·exact hl.elim
    ·rename_i bP hst1
     obtain⟨x,h1,hl⟩:=T.zg.1 hl
     obtain⟨y,h2,hl⟩:=T.zg.1 hl
     obtain⟨p1,hpp⟩:=QA (m:=κ0.ph) w3.len.symm XA
     obtain⟨s1,s2,s3,s4,s5⟩:=Fs w3 hn hpp XA hst1
     have BI:Rel ⟨κ0.w,κ0.ok,p1,bP⟩ qj.length (ZQ (pos mp) (gh d.gZ (wL args 0) κ.st).1).get { tmps:=qj.toArray,defers:=[] } :=
      ⟨w5.size,w5.defers,fun s d' hd=>by
       obtain⟨d0,q1,q2⟩:=Zf hd
       obtain⟨v,q3,q4⟩:=w5.get s d0 q1
       exact⟨v,q3,s2.rd q4 q2⟩⟩
     obtain⟨κ2,u1,u2,u3,u4,u5,_⟩:=d.sh.Xi (κ0:=⟨κ0.w,κ0.ok,p1,bP⟩) (κ:=⟨κ0.w,κ0.ok,p1,bP⟩) (Ext.refl _) s1 BI (by show bP.length≤_; rw[s3]; exact Nat.le_of_ble_eq_true hle) h1
     have hw:κ2.w=κ.w:=u1.trans w1
     have hdo:=h κ2 x qj y u2 h2 u3 (by rw[← ha.1]; exact Nat.eq_of_beq_eq_true hlen) u5
     rw[hw]at hdo
     refine zak hdo ?_
     rintro e w' ⟨κ3,ds,rfl,g1,g2,g3,g4,v,rfl,g5⟩
     unfold cP.back at hl
     rw[g4,← g1]at hl
     split at hl
     ·rename_i ds0 jD e1 e2
      cases e1
      split at hl
      ·rename_i Yr hds'
       cases hl
       obtain⟨κ',k1,k2,k3,k4,k5⟩:=HD w3 hn hpp XA hst1 g2 (u4.trans g3) e2
       exact⟨κ',k1,k2,k3,w4.trans k4,v,rfl,M4 k5 g5 hds'⟩
      ·exact hl.elim
     ·exact hl.elim
theorem cP.snd{P:Program}{g:Nat}{d:cP}(h:vT P g d):Dl P g d.S:=cP.zhk (Dr:=uU P) uU.mono h
structure mB where
 ks:List AK
 sh:mH
 gZ:List Gh
 out:mH
 nr:Nat
 pt:Nat
 cg:mH
 F:sh.den→T (out.den⊕cg.den)
abbrev mB.s(d:mB):cP:=⟨d.ks,d.sh,d.gZ,d.out,d.nr,fun _=>.fail⟩
def mB.PS{α:Type}(d:mB)(mp:List Nat)(st:St)(z:d.cg.den)(kp:D→St→T α):T α:=match(d.cg.fr z).get 0,pP (fun j=>some (fwd mp st.length j)) (d.cg.st z)with
 | some (.zU τ x),some jD=>kp (.iface d.pt (.zU τ x)) (wB mp st jD)
 | _,_=>.fail
def mB.sq{α:Type}(d:mB)(mp:List Nat)(fr:Fr)(st:St)(k:List D→St→T α)(kp:D→St→T α):T α:=match lP st mp with
 | none=>.fail
 | some l=>match pP (pos mp) l with
  | none=>.fail
  | some bP=>(d.sh.un (ZQ (pos mp) fr) bP).bind fun x=>(d.F x).bind (Sum.elim (fun y=>d.s.Y8 mp st y k) (fun z=>d.PS mp st z kp))
def mB.K{α:Type}(d:mB)(args:List D)(st:St)(k:List D→St→T α)(kp:D→St→T α):T α :=
 match mapOf d.sh (gh d.gZ (wL args 0) st).1 (gh d.gZ (wL args 0) st).2 with
 | none=>.fail
 | some mp=>bif gA mp&&Nat.ble mp.length d.sh.bs.length&&Nat.beq args.length d.ks.length then d.sq mp (gh d.gZ (wL args 0) st).1 (gh d.gZ (wL args 0) st).2 k kp else .fail
def mB.S(d:mB)(args:List D)(st:St):T (HV×St):=d.K args st (fun ds zO=>.ret (.ret ds,zO)) (fun p zO=>.ret (.cg p,zO))
theorem mB.z6G{α:Type}{d:mB}{args:List D}{st:St}{k:List D→St→T α}{kp:D→St→T α}{r:α}(h:(d.K args st k kp).leads r) :
  (∃ ds zO,(d.S args st).leads (.ret ds,zO)∧(k ds zO).leads r)∨∃ p zO,(d.S args st).leads (.cg p,zO)∧(kp p zO).leads r:=by
 unfold mB.K at h
 unfold mB.S mB.K
 split at h
 ·exact h.elim
 ·rename_i mp Pg
  cases hc:gA mp&&Nat.ble mp.length d.sh.bs.length&&Nat.beq args.length d.ks.length with
  | false=>rw[hc]at h; exact h.elim
  | true =>
   rw[hc,cond_true]at h
   simp only[Pg,hc,cond_true]
   unfold mB.sq at h
   unfold mB.sq
   split at h
   ·exact h.elim
   ·rename_i l hl
    split at h
    ·exact h.elim
    ·rename_i bP hst1
     obtain⟨x,h1,h⟩:=T.zg.1 h
     obtain⟨y,h2,h⟩:=T.zg.1 h
     cases y with
     | inl y =>
      simp only[Sum.elim_inl]at h
      unfold cP.Y8 at h
      split at h
      ·rename_i ds jD e1 e2
       split at h
       ·rename_i Yr e3
        refine .inl ⟨Yr,_,T.zg.2 ⟨x,h1,T.zg.2 ⟨.inl y,h2,?_⟩⟩,h⟩
        simp only[Sum.elim_inl]
        unfold cP.Y8
        simp only[e1,e2,e3]
        rfl
       ·exact h.elim
      ·exact h.elim
     | inr z =>
      simp only[Sum.elim_inr]at h
      unfold mB.PS at h
      split at h
      ·rename_i τ p jD e1 e2
       refine .inr ⟨_,_,T.zg.2 ⟨x,h1,T.zg.2 ⟨.inr z,h2,?_⟩⟩,h⟩
       simp only[Sum.elim_inr]
       unfold mB.PS
       simp only[e1,e2]
       rfl
      ·exact h.elim
def Gx(P:Program)(g:Nat)(d:mB):Prop:=∀ (κ:KS) (x:d.sh.den) (qj:List Value) (r:d.out.den⊕d.cg.den),κ.st=d.sh.st x→(d.F x).leads r→Inv κ→qj.length=d.ks.length →
 Rel κ qj.length (d.sh.fr x).get { tmps:=qj.toArray,defers:=[] } →
 uU P g qj.toArray κ.w fun e w'=>∃ κ':KS,κ'.w=w'∧Inv κ'∧Ext κ κ' ∧
  ((∃ (y:d.out.den) (ds:List D),r=.inl y∧κ'.st=d.out.st y∧eE d.nr (d.out.fr y)=some ds∧vH κ' (.ret ds) e) ∨
   ∃ (z:d.cg.den) (p:D),r=.inr z∧κ'.st=d.cg.st z∧(d.cg.fr z).get 0=some p∧vH κ' (.cg (.iface d.pt p)) e)
theorem mB.snd{P:Program}{g:Nat}{d:mB}(h:Gx P g d):Dl P g d.S:=by
 intro κ args qj rs zO hl hI ha
 have hR0:Rel κ qj.length (wL args 0).get { tmps:=qj.toArray,defers:=[] }:=by
  have:=Wd (n:=qj.length) ha (by rw[ha.1]; exact Nat.le_refl _)
  simpa[show(BK.df:List Deferred)=[]from rfl]using this
 obtain⟨κ0,w1,w2,w3,w4,w5⟩:=nh d.gZ (wL args 0) κ hI hR0
 unfold mB.S mB.K at hl
 rw[← w2]at hl
 split at hl
 ·exact hl.elim
 ·rename_i mp Pg
  cases hc:gA mp&&Nat.ble mp.length d.sh.bs.length&&Nat.beq args.length d.ks.length with
  | false=>rw[hc]at hl; exact hl.elim
  | true =>
   rw[hc,cond_true]at hl
   simp only[Bool.and_eq_true]at hc
   obtain⟨⟨hn,hle⟩,hlen⟩:=hc
   unfold mB.sq at hl
   split at hl
   ·exact hl.elim
   ·rename_i l XA
    split at hl
    ·exact hl.elim
    ·rename_i bP hst1
     obtain⟨x,h1,hl⟩:=T.zg.1 hl
     obtain⟨y,h2,hl⟩:=T.zg.1 hl
     obtain⟨p1,hpp⟩:=QA (m:=κ0.ph) w3.len.symm XA
     obtain⟨s1,s2,s3,s4,s5⟩:=Fs w3 hn hpp XA hst1
     have BI:Rel ⟨κ0.w,κ0.ok,p1,bP⟩ qj.length (ZQ (pos mp) (gh d.gZ (wL args 0) κ.st).1).get { tmps:=qj.toArray,defers:=[] } :=
      ⟨w5.size,w5.defers,fun s d' hd=>by
       obtain⟨d0,q1,q2⟩:=Zf hd
       obtain⟨v,q3,q4⟩:=w5.get s d0 q1
       exact⟨v,q3,s2.rd q4 q2⟩⟩
     obtain⟨κ2,u1,u2,u3,u4,u5,_⟩:=d.sh.Xi (κ0:=⟨κ0.w,κ0.ok,p1,bP⟩) (κ:=⟨κ0.w,κ0.ok,p1,bP⟩) (Ext.refl _) s1 BI (by show bP.length≤_; rw[s3]; exact Nat.le_of_ble_eq_true hle) h1
     have hw:κ2.w=κ.w:=u1.trans w1
     have hdo:=h κ2 x qj y u2 h2 u3 (by rw[← ha.1]; exact Nat.eq_of_beq_eq_true hlen) u5
     rw[hw]at hdo
     refine hdo.mono ?_
     rintro e w' ⟨κ3,rfl,g2,g3,⟨y,ds,rfl,g1,g4,v,rfl,g5⟩ | ⟨z,p,rfl,g1,g4,v,rfl,g5⟩⟩
     ·simp only[Sum.elim_inl]at hl
      unfold cP.Y8 at hl
      rw[show eE d.s.nr (d.s.out.fr y)=some ds from g4,show d.s.out.st y=κ3.st from g1.symm]at hl
      split at hl
      ·rename_i ds0 jD e1 e2
       cases e1
       split at hl
       ·rename_i Yr hds'
        cases hl
        obtain⟨κ',k1,k2,k3,k4,k5⟩:=HD w3 hn hpp XA hst1 g2 (u4.trans g3) e2
        exact⟨κ',k1,k2,k3,w4.trans k4,v,rfl,M4 k5 g5 hds'⟩
       ·exact hl.elim
      ·exact hl.elim
     ·simp only[Sum.elim_inr]at hl
      unfold mB.PS at hl
      rw[g4,← g1]at hl
      split at hl
      ·rename_i τ q jD e1 e2
       cases e1
       cases hl
       obtain⟨κ',k1,k2,k3,k4,k5⟩:=HD w3 hn hpp XA hst1 g2 (u4.trans g3) e2
       refine⟨κ',k1,k2,k3,w4.trans k4,v,rfl,?_⟩
       cases g5 with
       | iface _ _ u hu=>exact .iface _ _ u (k5.rd hu rfl)
      ·exact hl.elim
end Go.AM
namespace Go.AM
def HR(sh:mH)(gZ:List Gh)(args:List D)(st:St):List Nat:=bif gZ.isEmpty then match mapOf sh (wL args 0) st with | some mp=>others st.length mp | none=>[]else[]
def cP.free(d:cP)(args:List D)(st:St):List Nat:=HR d.sh d.gZ args st
def mB.free(d:mB)(args:List D)(st:St):List Nat:=HR d.sh d.gZ args st
theorem Dj{m b:Nat}{l:List Nat}(h:b∈others m l):b<m∧∀ x∈l,b≠x:=by
 simp only[others,List.mem_filter,List.mem_range,Bool.not_eq_true',List.any_eq_false]at h
 exact⟨h.1,fun x hx e=>by subst e; exact h.2 b hx (Nat.beq_refl _)⟩
theorem Ea:∀ {mp:List Nat} {b:Nat},(∀ x∈mp,b≠x)→pos mp b=none
 | [],_,_=>rfl
 | x::r,b,h=>by
  simp only[pos]
  rw[show Nat.beq x b=false from by cases hb:Nat.beq x b with | false=>rfl | true=>exact absurd (Nat.eq_of_beq_eq_true hb).symm (h x List.mem_cons_self),cond_false,Ea fun y hy=>h y (List.mem_cons_of_mem _ hy)]
theorem Kz{sh:mH}{gZ:List Gh}{args:List D}{st:St}{b:Nat}(hb:b∈HR sh gZ args st):gZ=[]∧∃ mp,mapOf sh (wL args 0) st=some mp∧b<st.length∧pos mp b=none:=by
 unfold HR at hb
 cases hn:gZ.isEmpty with
 | false=>rw[hn]at hb; cases hb
 | true =>
  rw[hn,cond_true]at hb
  refine⟨List.isEmpty_iff.1 hn,?_⟩
  split at hb
  ·rename_i mp Pg
   obtain⟨h1,h2⟩:=Dj hb
   exact⟨mp,Pg,h1,Ea h2⟩
  ·cases hb
theorem cP.Wv{d:cP}{args:List D}{st zO:St}{rs:HV}{b:Nat}(h:(d.S args st).leads (rs,zO))(hb:b∈d.free args st):zO[b]? = st[b]? := by
 obtain⟨hn,mp,Pg,qu,Va⟩:=Kz hb
 unfold cP.S at h
 rw[hn]at h
 simp only[gh,Pg]at h
 cases hc:gA mp&&Nat.ble mp.length d.sh.bs.length&&Nat.beq args.length d.ks.length with
 | false=>rw[hc]at h; exact h.elim
 | true =>
  rw[hc,cond_true]at h
  unfold cP.inner at h
  split at h
  ·exact h.elim
  ·split at h
   ·exact h.elim
   ·obtain⟨x,_,h⟩:=T.zg.1 h
    obtain⟨y,_,h⟩:=T.zg.1 h
    unfold cP.back at h
    split at h
    ·split at h
     ·cases h; exact mJ qu Va
     ·exact h.elim
    ·exact h.elim
theorem mB.Wv{d:mB}{args:List D}{st zO:St}{rs:HV}{b:Nat}(h:(d.S args st).leads (rs,zO))(hb:b∈d.free args st):zO[b]? = st[b]? := by
 obtain⟨hn,mp,Pg,qu,Va⟩:=Kz hb
 unfold mB.S mB.K at h
 rw[hn]at h
 simp only[gh,Pg]at h
 cases hc:gA mp&&Nat.ble mp.length d.sh.bs.length&&Nat.beq args.length d.ks.length with
 | false=>rw[hc]at h; exact h.elim
 | true =>
  rw[hc,cond_true]at h
  unfold mB.sq at h
  split at h
  ·exact h.elim
  ·split at h
   ·exact h.elim
   ·obtain⟨x,_,h⟩:=T.zg.1 h
    obtain⟨y,_,h⟩:=T.zg.1 h
    cases y with
    | inl y =>
     simp only[Sum.elim_inl]at h
     unfold cP.Y8 at h
     split at h
     ·split at h
      ·cases h; exact mJ qu Va
      ·exact h.elim
     ·exact h.elim
    | inr z =>
     simp only[Sum.elim_inr]at h
     unfold mB.PS at h
     split at h
     ·cases h; exact mJ qu Va
     ·exact h.elim
end Go.AM
namespace Go.AM
def QL.den:QL→Type
 | .ty τ=>AM.den τ
 | .rp τ=>AM.den τ
 | .xr _ caps=>bH caps
def uD:List QL→Type
 | []=>Unit
 | [p]=>p.den
 | p::q::r=>p.den×uD (q::r)
def mkP:(p:QL)→p.den→D
 | .ty τ,x=>.zU τ x
 | .rp τ,x=>.xx τ x
 | .xr f caps,x=>.xr f (nO caps x)
def V0:(l:List QL)→uD l→List D
 | [],_=>[]
 | [p],x=>[mkP p x]
 | p::q::r,x=>mkP p x.1::V0 (q::r) x.2
def QP:(l:List Ty)→UI l→List D
 | [],_=>[]
 | [τ],x=>[.zU τ x]
 | τ::σ::r,x=>.zU τ x.1::QP (σ::r) x.2
def rpX(st:St)(τ:Ty):D→T (den τ)
 | .xx _ x=>match(vW x:Option (den τ))with | some y=>.ret y | none=>.fail
 | .ptr b off=>match st[b]? with
  | some (.var d)=>match bif Nat.beq off 0 then dX τ d else none with | some y=>.ret y | none=>.fail
  | _=>.fail
 | _=>.fail
def z2a(st:St):(p:WB)→D→T (den p.ty)
 | .im τ,d=>QQ st τ d
 | .rp τ,d=>rpX st τ d
def II(st:St):(l:List WB)→List D→T (bH l)
 | [],[]=>.ret ()
 | [p],[d]=>z2a st p d
 | p::q::r,d::ds=>(z2a st p d).bind fun x=>(II st (q::r) ds).bind fun y=>.ret (x,y)
 | _,_=>.fail
def unP(st:St):(p:QL)→D→T p.den
 | .ty τ,d=>QQ st τ d
 | .rp τ,d=>rpX st τ d
 | .xr f caps,d=>match d with
  | .xr f' l=>bif Nat.beq f f' then II st caps l else .fail
  | _=>.fail
def D1(st:St):(l:List QL)→List D→T (uD l)
 | [],[]=>.ret ()
 | [p],[d]=>unP st p d
 | p::q::r,d::ds=>(unP st p d).bind fun x=>(D1 st (q::r) ds).bind fun y=>.ret (x,y)
 | _,_=>.fail
def Pl(st:St):(l:List Ty)→List D→T (UI l)
 | [],[]=>.ret ()
 | [τ],[d]=>QQ st τ d
 | τ::σ::r,d::ds=>(QQ st τ d).bind fun x=>(Pl st (σ::r) ds).bind fun y=>.ret (x,y)
 | _,_=>.fail
structure BM where
 ps:List QL
 rs:List Ty
 F:uD ps→T (UI rs)
def z6d:QL→D→Bool
 | .xr f _,d=>match d with | .xr f' _=>Nat.beq f f' | _=>false
 | _,d=>match d with | .xr _ _=>false | _=>true
def fits:List QL→List D→Bool
 | [],[]=>true
 | p::ps,d::ds=>z6d p d&&fits ps ds
 | _,_=>false
def z7h:AK→D→Bool
 | .any,d=>match d with | .xr _ _=>false | _=>true
 | .cur,d=>match d with | .ms .. => true | .xw=>true | _=>false
 | .sub,d=>match d with | .ms .. => true | _=>false
 | .ptr,d=>match d with | .ptr .. => true | _=>false
 | .xr f,d=>match d with | .xr f' _=>Nat.beq f f' | _=>false
def pG:List AK→List D→Bool
 | [],[]=>true
 | p::ps,d::ds=>z7h p d&&pG ps ds
 | _,_=>false
inductive FnE where
 | d (x:BM)
 | s (x:cP)
 | p (x:mB)
def FnE.fits:FnE→List D→Bool
 | .d x,l=>AM.fits x.ps l
 | .s x,l=>pG x.ks l
 | .p x,l=>pG x.ks l
abbrev iw:=List (Nat×FnE)
def iw.find:iw→Nat→List D→Option FnE
 | [],_,_=>none
 | (g',d)::r,g,args=>bif Nat.beq g' g&&d.fits args then some d else iw.find r g args
abbrev Sm:=List D→St→T (HV×St)
def BM.S(d:BM):Sm:=fun args st=>match st with
 | []=>(D1 [] d.ps args).bind fun x=>(d.F x).bind fun y=>.ret (.ret (QP d.rs y),[])
 | _=>.fail
def iw.call(tab:iw)(g:Nat)(args:List D)(st:St):T (HV×St):=match tab.find g args with | some (.d d)=>d.S args st | some (.s d)=>d.S args st | some (.p d)=>d.S args st | none=>.fail
def iw.free(tab:iw)(g:Nat)(args:List D)(st:St):List Nat:=match tab.find g args with | some (.s d)=>d.free args st | some (.p d)=>d.free args st | _=>[]
theorem iw.Wv(tab:iw)(g:Nat)(args:List D)(st:St)(rs:HV)(zO:St)(b:Nat)(h:(tab.call g args st).leads (rs,zO))(hb:b∈tab.free g args st):zO[b]? = st[b]? := by
 unfold iw.call at h
 unfold iw.free at hb
 split at hb
 ·rename_i d hd; rw[hd]at h; exact cP.Wv h hb
 ·rename_i d hd; rw[hd]at h; exact mB.Wv h hb
 ·cases hb
def yo(P:Program)(xid:Nat)(tab:iw)(ro:Nat→Bool):Ctx :=
 { P,xid,ro,sig:=fun g args=>match tab.find g args with | some (.d d)=>some ⟨d.ps,d.rs⟩ | _=>none,fn:=tab.call,free:=tab.free,TA:=tab.Wv }
def z4V{α:Type}(tab:iw)(g:Nat)(args:List D)(st:St)(k:Nat→Option D→St→T α)(kp:D→St→T α):T α:=match tab.find g args with
 | none=>.fail
 | some (.d d)=>bif !(args.any Kt)then(D1 [] d.ps args).bind fun x=>(d.F x).bind fun y=>k 0 (some (gq (QP d.rs y))) st
  else(D1 st d.ps args).bind fun x=>(d.F x).bind fun y=>bif (QP d.rs y).all tV then k 1 (some (gq (QP d.rs y))) st else .fail
 | some (.s d)=>d.K args st fun ds zO=>k 2 (some (gq ds)) zO
 | some (.p d)=>d.K args st (fun ds zO=>k 2 (some (gq ds)) zO) kp
def Bs{α:Type}(tab:iw)(f:Option D)(args:List (Option D))(st:St)(k:Nat→Option D→St→T α)(kp:D→St→T α):T α:=match f,jJ args with
 | some (.xr g caps),some l=>z4V tab (eP g) (cw g l caps) st k kp
 | _,_=>.fail
def ZE(l:List Nat):Fr:=l.map fun s=>(s,none)
def dstsOf:List Oper→List Nat
 | []=>[]
 | o::r=>match o.dst with | some t=>t::dstsOf r | none=>dstsOf r
def xd:Code→List Nat
 | .region _ ops _=>dstsOf ops.toList
 | .seq a b=>xd a++xd b
 | .cond _ a b=>xd a++xd b
 | .block _ a=>xd a
 | .loop a=>xd a
 | _=>[]
structure zI where
 gh:List Gh
 ps:List It
 sh:mH
 ws:List Way
 F:wY ps→sh.den→T (yv ws)
inductive z1M where
 | flat (ry:List It)
 | ways (ws:List Way)
 | z7I
structure Hints where
 loop:Nat→Option zI
 cut:Nat→Nat→Option z1M
 frz:Nat→List Nat
def fJ:Code→Option Nat
 | .region id _ _=>some id
 | .seq a b=>match fJ a with | some n=>some n | none=>fJ b
 | .cond _ a b=>match fJ a with | some n=>some n | none=>fJ b
 | .block _ a=>fJ a
 | .loop a=>fJ a
 | _=>none
def keyOf(x:Code):Nat×Nat:=(match x with | .region .. => 0 | .cond .. => 1 | .block .. => 2 | _=>3,match fJ x with | some n=>n | none=>0)
def TT(l:List Nat)(s:Nat):Bool := !(l.any (Nat.beq s))
def QO:Dk→Bool
 | .sub _ _=>false
 | .st _=>false
 | .mclo _ _=>false
 | _=>true
def EA(ps:List It)(ws:List Nat):Bool:=ps.all fun i=>match i with
 | .s t k=>QO k&&TT ws t
 | _=>false
def Br{α:Type}:T α→Option α
 | .ret a=>some a
 | .ite _ t e=>match Br t with | some a=>some a | none=>Br e
 | .zd _ t=>Br t
 | .fail=>none
def Cp{α β:Type}(f:α→β):T α→T β
 | .ret a=>.ret (f a)
 | .ite b t e=>.ite b (Cp f t) (Cp f e)
 | .zd p t=>.zd p (Cp f t)
 | .fail=>.fail
def O4:(l:List It)→wY l→T (wY l)→wY l
 | [],_,_=>()
 | [_],d,t=>T.val d t
 | _::j::r,d,t=>(T.val d.1 (Cp Prod.fst t),O4 (j::r) d.2 (Cp Prod.snd t))
def R9(l:List It)(t:T (wY l)):T (wY l):=match Br t with
 | some d=>match t.iN with
  | none=>.ret (O4 l d t)
  | some p=>.zd p (.ret (O4 l d t))
 | none=>.fail
def GJ(l:List It):Bool:=l.all fun i=>match i with
 | .s _ k=>QO k
 | _=>false
structure EF where
 ex:Ex
 fr:Fr
 kn:Kn
 st:St
 q:Bool      -- the store has not been written
def quiet(ks:List Nat):Bool:=ks.all fun k => !(Nat.beq k 2)
structure zaC where
 e:Ty
 l:List (den e)
 m:Nat
 s:Nat
 c:Nat
 eq:Bool
def PD:BinOp→Option Bool
 | .eql=>some true
 | .neq=>some false
 | _=>none
def Fo:Operand→Bool
 | .const (.slice none 0 0)=>true
 | _=>false
def HP(c:Ctx)(n:Nat)(ops:Array Oper)(fr:Fr):Option zaC:=match ops.toList with
 | [o1,o2]=>match o1.dst,o1.op,o1.guard with
  | some m,.move (.tmp s),none=>match o2.dst,o2.op,o2.guard with
   | some cc,.binOp op t (.tmp m') y _,none=>match PD op,fr.get s,lR c t with
    | some b,some (.zU (.sl e) l),some _=>bif Nat.beq m m'&&Fo y&&Nat.blt m n&&Nat.blt cc n then some ⟨e,l,m,s,cc,b⟩else none
    | _,_,_=>none
   | _,_,_=>none
  | _,_,_=>none
 | _=>none
def opsOf:Code→Option (Array Oper)
 | .region _ ops false=>some ops
 | _=>none
section
variable (c:Ctx) (tab:iw)
variable [Zk]
def tG{α:Type}(n:Nat)(o:Oper)(s:fE)(k:fE→T α)(kp:D→St→T α):T α :=
 bif vV n o.dst then match o.op with
  | .call cl=>match cl.callee with
   | .value f=>Bs tab (yn s.fr f) (cl.args.toList.map (yn s.fr)) s.st (fun kd d zO=>k ⟨s.fr.put o.dst d,K4 s.kn o.dst none,zO,kd::s.ks,wA c (yn s.fr) s.st o::s.bk⟩) kp
   | _=>let cl:=pT c s.kn s.fr o
    (zX cl s.st).bind fun r=>k ⟨s.fr.put o.dst r.1,K4 s.kn o.dst (Jz s.kn o.op),r.2,cl.kind::s.ks,wA c (yn s.fr) s.st o::s.bk⟩
  | .panic x=>match yn s.fr x with
   | some (.iface t d)=>kp (.iface t d) s.st
   | _=>.fail
  | _=>let cl:=pT c s.kn s.fr o
   (zX cl s.st).bind fun r=>k ⟨s.fr.put o.dst r.1,K4 s.kn o.dst (Jz s.kn o.op),r.2,cl.kind::s.ks,wA c (yn s.fr) s.st o::s.bk⟩
 else .fail
def Fj{α:Type}(n:Nat)(ops:Array Oper)(o:Oper)(s:fE)(k:fE→T α)(kp:D→St→T α):T α:=match o.guard with
 | none=>tG c tab n o s k kp
 | some (j,want)=>match uS ops j with
  | none=>.fail
  | some t=>match s.kn.get t with
   | some b=>bif b==want then tG c tab n o s k kp else bif vV n o.dst then k (jC o s)else .fail
   | none=>match s.fr.get t with
    | some (.zU .bool x)=>bif vV n o.dst then
      .ite x (bif want then tG c tab n o (s.cf t true) k kp else k (jC o (s.cf t true)))
          (bif want then k (jC o (s.cf t false))else tG c tab n o (s.cf t false) k kp)
     else .fail
    | some (.gK [])=>bif vV n o.dst then k (jC o s)else .fail
    | _=>.fail
def Bc{α:Type}(n:Nat)(ops:Array Oper):List Oper→fE→(fE→T α)→(D→St→T α)→T α
 | [],s,k,_=>k s
 | o::l,s,k,kp=>Fj c tab n ops o s (fun s'=>Bc n ops l s' k kp) kp
def K2{α:Type}(n:Nat)(ops:Array Oper)(draw:Bool)(fr:Fr)(kn:Kn)(st:St)(k:fE→T α)(kp:D→St→T α):T α :=
 Bc c tab n ops ops.toList ⟨fr,kn,st,[],[]⟩ (fun s=>bif !draw||Q8 ops s.ks.reverse s.bk.reverse then k s else .fail) (fun d zO=>bif draw then .fail else kp d zO)
def UB(n:Nat)(H:Hints):Code→Fr→Kn→St→{α:Type}→(EF→T α)→T α
 | .skip,fr,kn,st,_,k=>k ⟨.normal,fr,kn,st,true⟩
 | .region id ops draw,fr,kn,st,_,k=>(frz (H.frz id) fr st).bind fun z=>K2 c tab n ops draw z.1 kn z.2 (fun s=>k ⟨.normal,s.fr,s.kn,s.st,quiet s.ks&&(H.frz id).isEmpty⟩) (fun d zO=>k ⟨.cg d,[],[],zO,false⟩)
 | .seq a b,fr,kn,st,_,k=>match H.cut (keyOf a).1 (keyOf a).2 with
  | none=>UB n H a fr kn st fun r=>match r.ex with
   | .normal=>UB n H b r.fr r.kn r.st fun o=>k { o with q:=r.q&&o.q }
   | _=>k r
  | some (.flat ry)=>bif GJ ry then
    (R9 ry (UB n H a fr kn st fun o=>match o.ex with
     | .normal=>bif o.q then GU o.fr o.st ry []else .fail
     | _=>.fail)).bind fun x=>UB n H b (iB st ry x++(ZE (xd a)++fr)) [] st k
   else .fail
  | some .z7I=>match opsOf a with
   | none=>.fail
   | some ops=>match HP c n ops fr with
    | none=>.fail
    | some p =>
     let non:=UB n H b ((p.c,some (.zU .bool (!p.eq)))::(p.m,some (.zU (.sl p.e) p.l))::fr) [(p.c,some (!p.eq))] st k
     .zd (p.l=[]→∀ r,non.leads r→(UB n H b ((p.c,some (.zU .bool p.eq))::(p.m,some .xw)::(p.s,some .xw)::fr) [(p.c,some p.eq)] st k).leads r) non
  | some (.ways ws)=>bif ws.all fun w=>Nat.ble st.length w.sh.bs.length then
    (UB n H a fr kn st fun o=>Hn ws o.ex (Ys o.ex o.fr) o.st).bind fun r=>L1 ws r fun ex out zO=>match Di ex out with
     | none=>.fail
     | some z=>match z.1 with
      | .normal=>UB n H b (z.2++(ZE (xd a)++fr)) [] zO fun o=>k { o with q:=false }
      | e=>k ⟨e,z.2++(ZE (xd a)++fr),[],zO,false⟩
   else .fail
 | .cond x a b,fr,kn,st,_,k=>match dZ kn x with
  | some true=>UB n H a fr kn st k
  | some false=>UB n H b fr kn st k
  | none=>match x with
   | .tmp t=>match fr.get t with
    | some (.zU .bool v)=>.ite v (UB n H a fr ((t,some true)::kn) st k) (UB n H b fr ((t,some false)::kn) st k)
    | _=>.fail
   | _=>.fail
 | .block id (.loop b),fr,_,st,_,k=>match H.loop id with
  | none=>.fail
  | some l=>let g:=gh l.gh fr st
   bif Nat.ble g.2.length l.sh.bs.length&&EA l.ps (xd b)&&l.ws.all fun w=>Nat.ble l.sh.bs.length w.sh.bs.length then
    (GU g.1 g.2 l.ps []).bind fun p=>(l.sh.un g.1 g.2).bind fun s=>(l.F p s).bind fun r=>L1 l.ws r fun ex out zO=>match Di ex out with
     | none=>.fail
     | some z=>match z.1 with
      | .exit id'=>bif Nat.beq id' id then k ⟨.normal,z.2++(ZE (xd b)++g.1),[],zO,false⟩else k ⟨.exit id',z.2++(ZE (xd b)++g.1),[],zO,false⟩
      | .normal=>.fail
      | e=>k ⟨e,z.2++(ZE (xd b)++g.1),[],zO,false⟩
   else .fail
 | .block id a,fr,kn,st,_,k=>UB n H a fr kn st fun r=>match r.ex with
  | .exit id'=>bif Nat.beq id' id then k { r with ex:=.normal } else k r
  | _=>k r
 | .exit id,fr,kn,st,_,k=>k ⟨.exit id,fr,kn,st,true⟩
 | .ret,fr,kn,st,_,k=>k ⟨.ret,fr,kn,st,true⟩
 | _,_,_,_,_,_=>.fail
def PT(n:Nat)(H:Hints)(l:zI)(b:Code)(p:wY l.ps)(s:l.sh.den):T (l.sh.den⊕yv l.ws) :=
 UB c tab n H b (l.sh.fr s++iB (l.sh.st s) l.ps p) [] (l.sh.st s) fun o=>match o.ex with
  | .normal=>(l.sh.un o.fr o.st).bind fun s'=>.ret (.inl s')
  | e=>(Hn l.ws e (Ys e o.fr) o.st).bind fun r=>.ret (.inr r)
def Ri(H:Hints)(fn:Func)(code:Code)(d:BM)(x:uD d.ps):T (UI d.rs) :=
 bif Nat.ble (V0 d.ps x).length fn.ntmps then
  UB c tab fn.ntmps H code (wL (V0 d.ps x) 0) [] [] fun o=>match o.ex with
   | .normal=>(dw c o.fr o.st fn.results.toList).bind fun ds=>Pl o.st d.rs ds
   | .ret=>(dw c o.fr o.st fn.results.toList).bind fun ds=>Pl o.st d.rs ds
   | _=>.fail
 else .fail
def I1(H:Hints)(fn:Func)(code:Code)(d:cP)(x:d.sh.den):T d.out.den :=
 bif Nat.ble d.ks.length fn.ntmps&&Nat.ble d.sh.bs.length d.out.bs.length then
  UB c tab fn.ntmps H code (d.sh.fr x) [] (d.sh.st x) fun o=>match o.ex with
   | .normal=>(dw c o.fr o.st fn.results.toList).bind fun ds=>bif Nat.beq ds.length d.nr then(d.out.un (wL ds 0) o.st).bind fun y=>bif (eE d.nr (d.out.fr y)).isSome then .ret y else .fail else .fail
   | .ret=>(dw c o.fr o.st fn.results.toList).bind fun ds=>bif Nat.beq ds.length d.nr then(d.out.un (wL ds 0) o.st).bind fun y=>bif (eE d.nr (d.out.fr y)).isSome then .ret y else .fail else .fail
   | _=>.fail
 else .fail
def EU(H:Hints)(fn:Func)(code:Code)(d:mB)(x:d.sh.den):T (d.out.den⊕d.cg.den) :=
 bif Nat.ble d.ks.length fn.ntmps&&Nat.ble d.sh.bs.length d.out.bs.length&&Nat.ble d.sh.bs.length d.cg.bs.length then
  UB c tab fn.ntmps H code (d.sh.fr x) [] (d.sh.st x) fun o=>match o.ex with
   | .normal=>(dw c o.fr o.st fn.results.toList).bind fun ds=>bif Nat.beq ds.length d.nr then(d.out.un (wL ds 0) o.st).bind fun y=>bif (eE d.nr (d.out.fr y)).isSome then .ret (.inl y)else .fail else .fail
   | .ret=>(dw c o.fr o.st fn.results.toList).bind fun ds=>bif Nat.beq ds.length d.nr then(d.out.un (wL ds 0) o.st).bind fun y=>bif (eE d.nr (d.out.fr y)).isSome then .ret (.inl y)else .fail else .fail
   | .cg p=>match p with
    | .iface t v=>bif Nat.beq t d.pt then(d.cg.un [(0,some v)] o.st).bind fun z=>match(d.cg.fr z).get 0 with | some _=>.ret (.inr z) | none=>.fail else .fail
    | _=>.fail
   | _=>.fail
 else .fail
end
end Go.AM
namespace Go.AM
set_option linter.unusedSectionVars false
variable [uH]
open Go.RowKit
section
variable {n:Nat}
theorem Sl{st:St}{τ:Ty}{d:D}{x:den τ}(h:(rpX st τ d).leads x):(pS st τ d).leads (.xx τ x):=by
 cases d with
 | xx σ y =>
  simp only[rpX]at h
  simp only[pS]
  cases hy:(vW y:Option (den τ))with
  | none=>rw[hy]at h; exact h.elim
  | some z=>rw[hy]at h; cases h; rfl
 | ptr b off =>
  simp only[rpX]at h
  simp only[pS]
  cases hb:st[b]? with
  | none=>rw[hb]at h; exact h.elim
  | some B =>
   rw[hb]at h
   cases B with
   | var d =>
    simp only at h ⊢
    cases hy:(bif Nat.beq off 0 then dX τ d else none)with
    | none=>rw[hy]at h; exact h.elim
    | some z=>rw[hy]at h; cases h; rfl
   | _=>exact h.elim
 | _=>exact h.elim
theorem Ln{st:St}{p:WB}{d:D}{x:den p.ty}(h:(z2a st p d).leads x):(tg st p d).leads (GP p x):=by
 cases p with
 | rp τ=>exact Sl h
 | im τ=>exact T.zg.2 ⟨x,h,rfl⟩
theorem C1{st:St}:∀ (l:List WB) (ds:List D) (x:bH l),(II st l ds).leads x→(cV st l ds).leads (nO l x)
 | [],[],x,h=>rfl
 | [],_::_,x,h=>h.elim
 | [p],[],x,h=>h.elim
 | [p],[d],x,h=>T.zg.2 ⟨_,Ln h,T.zg.2 ⟨[],rfl,rfl⟩⟩
 | [p],_::_::_,x,h=>h.elim
 | p::q::r,[],x,h=>h.elim
 | p::q::r,d::ds,x,h=>by
  obtain⟨y,h1,h2⟩:=T.zg.1 h
  obtain⟨z,h3,h4⟩:=T.zg.1 h2
  cases h4
  exact T.zg.2 ⟨_,Ln h1,T.zg.2 ⟨_,C1 (q::r) ds z h3,rfl⟩⟩
theorem SS{st:St}{p:QL}{d:D}{x:p.den}(h:(unP st p d).leads x):(C4 st p d).leads (mkP p x):=by
 cases p with
 | ty τ=>cases d<;>exact T.zg.2 ⟨x,h,rfl⟩
 | rp τ =>
  have h:(rpX st τ d).leads x:=h
  have:=Sl h
  cases d<;>exact this
 | xr f caps =>
  cases d with
  | xr f' l =>
   simp only[unP]at h
   simp only[C4]
   cases hb:Nat.beq f f' with
   | false=>rw[hb]at h; exact h.elim
   | true=>rw[hb]at h; exact T.zg.2 ⟨_,C1 caps l x h,rfl⟩
  | _=>exact h.elim
theorem UL{st:St}:∀ (l:List QL) (ds:List D) (x:uD l),(D1 st l ds).leads x→(pJ st l ds).leads (V0 l x)
 | [],[],x,h=>rfl
 | [],_::_,x,h=>h.elim
 | [p],[],x,h=>h.elim
 | [p],[d],x,h=>T.zg.2 ⟨_,SS h,T.zg.2 ⟨[],rfl,rfl⟩⟩
 | [p],_::_::_,x,h=>h.elim
 | p::q::r,[],x,h=>h.elim
 | p::q::r,d::ds,x,h=>by
  obtain⟨y,h1,h2⟩:=T.zg.1 h
  obtain⟨z,h3,h4⟩:=T.zg.1 h2
  cases h4
  exact T.zg.2 ⟨_,SS h1,T.zg.2 ⟨_,UL (q::r) ds z h3,rfl⟩⟩
theorem BV(st:St)(τ:Ty)(x:den τ):(QQ st τ (.zU τ x)).leads x:=by
 refine T.zg.2 ⟨.zU τ x,rfl,?_⟩
 show(T.U7 (dX τ (.zU τ x))).leads x
 rw[T.uh]
 exact sY x
theorem SU(st:St)(τ:Ty)(x:den τ):(rpX st τ (.xx τ x)).leads x:=by
 simp only[rpX]; rw[sY]; rfl
theorem LD(st:St)(p:WB)(x:den p.ty):(z2a st p (GP p x)).leads x:=by
 cases p with
 | rp τ=>exact SU st τ x
 | im τ=>exact BV st τ x
theorem Cl(st:St):∀ (l:List WB) (x:bH l),(II st l (nO l x)).leads x
 | [],_=>rfl
 | [p],x=>LD st p x
 | p::q::r,x=>T.zg.2 ⟨x.1,LD st p x.1,T.zg.2 ⟨x.2,Cl st (q::r) x.2,rfl⟩⟩
theorem Sz(st:St)(p:QL)(x:p.den):(unP st p (mkP p x)).leads x:=by
 cases p with
 | ty τ=>exact BV st τ x
 | rp τ=>exact SU st τ x
 | xr f caps=>simp only[unP,mkP]; rw[Nat.beq_refl]; exact Cl st caps x
theorem HZ(st:St):∀ (l:List QL) (x:uD l),(D1 st l (V0 l x)).leads x
 | [],_=>rfl
 | [p],x=>Sz st p x
 | p::q::r,x=>T.zg.2 ⟨x.1,Sz st p x.1,T.zg.2 ⟨x.2,HZ st (q::r) x.2,rfl⟩⟩
def yQ:D→Option Nat | .xr f _=>some f | _=>none
theorem z1Q(p:QL){d e:D}(h:yQ d=yQ e):z6d p d=z6d p e:=by
 cases d<;>cases e<;>simp only[yQ]at h<;>first | (cases h; done) | (cases p<;>first | rfl | (cases h; rfl))
theorem L3:∀ (ps:List QL) {l m:List D},l.map yQ=m.map yQ→fits ps l=fits ps m
 | [],[],[],_=>rfl
 | [],_::_,_::_,_=>rfl
 | _,[],_::_,h=>by cases h
 | _,_::_,[],h=>by cases h
 | _::_,[],[],_=>rfl
 | p::ps,d::l,e::m,h=>by
  simp only[List.map_cons,List.cons.injEq]at h
  simp only[fits,z1Q p h.1,L3 ps h.2]
theorem z0G{st:St}{τ:Ty}{f:Nat}{l:List D}{x:den τ}(h:(QQ st τ (.xr f l)).leads x):False:=by
 obtain⟨y,h1,h2⟩:=T.zg.1 h
 cases h1
 have h2:(T.U7 (dX τ (.xr f l))).leads x:=h2
 rw[T.uh]at h2
 cases τ<;>simp[dX,D.isAgg,Ty.isAgg,D.uE,qt,jE,fW]at h2
theorem G8{st:St}{p:QL}{d:D}{x:p.den}(h:(unP st p d).leads x):yQ d=yQ (mkP p x):=by
 cases p with
 | ty τ=>cases d<;>first | rfl | exact(z0G h).elim
 | rp τ=>cases d<;>first | rfl | exact h.elim
 | xr f caps =>
  cases d with
  | xr f' l =>
   simp only[unP]at h
   cases hb:Nat.beq f f' with
   | false=>rw[hb]at h; exact h.elim
   | true=>rw[Nat.eq_of_beq_eq_true hb]; rfl
  | _=>exact h.elim
theorem Yl{st:St}:∀ (l:List QL) (ds:List D) (x:uD l),(D1 st l ds).leads x→ds.map yQ=(V0 l x).map yQ
 | [],[],x,h=>rfl
 | [],_::_,x,h=>h.elim
 | [p],[],x,h=>h.elim
 | [p],[d],x,h=>by show[yQ d]=[yQ (mkP p x)]; rw[G8 h]
 | [p],_::_::_,x,h=>h.elim
 | p::q::r,[],x,h=>h.elim
 | p::q::r,d::ds,x,h=>by
  obtain⟨y,h1,h2⟩:=T.zg.1 h
  obtain⟨z,h3,h4⟩:=T.zg.1 h2
  cases h4
  show yQ d::ds.map yQ=yQ (mkP p y)::(V0 (q::r) z).map yQ
  rw[G8 h1,Yl (q::r) ds z h3]
def dat(d:D):Bool:=match d with | .zU _ _=>true | .xx _ _=>true | .xr _ _=>true | _=>false
theorem M6(p:QL)(x:p.den):dat (mkP p x)=true:=by cases p<;>rfl
theorem E9:∀ (l:List QL) (x:uD l),∀ d∈V0 l x,dat d=true
 | [],x,d,h=>by cases h
 | [p],x,d,h=>by have h:d∈[mkP p x]:=h; rw[List.mem_singleton]at h; subst h; exact M6 p x
 | p::q::r,x,d,h=>by
  rcases List.mem_cons.1 h with rfl | h
  ·exact M6 p x.1
  ·exact E9 (q::r) x.2 d h
theorem RG{a:AK}{d e:D}(h:yQ d=yQ e)(hd:dat e=true)(hf:z7h a e=true):z7h a d=true:=by
 cases e with
 | zU τ x=>cases a<;>first | (cases hf; done) | (cases d<;>first | rfl | (cases h; done))
 | xx τ x=>cases a<;>first | (cases hf; done) | (cases d<;>first | rfl | (cases h; done))
 | xr f l=>cases a<;>first | (cases hf; done) | (cases d<;>first | (cases h; exact hf) | cases h)
 | _=>cases hd
theorem WK:∀ {ks:List AK} {l m:List D},l.map yQ=m.map yQ→(∀ d∈m,dat d=true)→pG ks m=true→pG ks l=true
 | [],[],[],_,_,_=>rfl
 | [],_::_,[],h,_,_=>by cases h
 | [],_,_::_,_,_,hf=>by cases hf
 | _::_,_,[],_,_,hf=>by cases hf
 | k::ks,[],_::_,h,_,_=>by cases h
 | k::ks,d::l,e::m,h,hd,hf=>by
  simp only[List.map_cons,List.cons.injEq]at h
  simp only[pG,Bool.and_eq_true]at hf ⊢
  exact⟨RG h.1 (hd e List.mem_cons_self) hf.1,WK h.2 (fun x hx=>hd x (List.mem_cons_of_mem _ hx)) hf.2⟩
theorem iw.find_eq:∀ (t:iw) (g:Nat) {l m:List D} {d:BM},l.map yQ=m.map yQ→(∀ d∈m,dat d=true)→t.find g l=some (.d d)→t.find g m=some (.d d)
 | [],_,_,_,_,_,_,h=>h
 | (g',.d d')::r,g,l,m,d,h,hm,hf=>by
  simp only[iw.find,FnE.fits]at hf ⊢
  rw[← L3 d'.ps h]
  cases hb:Nat.beq g' g&&fits d'.ps l with
  | true=>rw[hb,cond_true]at hf; rw[cond_true]; exact hf
  | false=>rw[hb,cond_false]at hf; rw[cond_false]; exact iw.find_eq r g h hm hf
 | (g',.s d')::r,g,l,m,d,h,hm,hf=>by
  simp only[iw.find,FnE.fits]at hf ⊢
  cases hb:Nat.beq g' g&&pG d'.ks l with
  | true=>rw[hb,cond_true]at hf; cases hf
  | false =>
   rw[hb,cond_false]at hf
   have:(Nat.beq g' g&&pG d'.ks m)=false:=by
    cases hg:Nat.beq g' g with
    | false=>rfl
    | true =>
     rw[hg]at hb
     cases hk:pG d'.ks m with
     | false=>rfl
     | true=>rw[WK h hm hk]at hb; cases hb
   rw[this,cond_false]
   exact iw.find_eq r g h hm hf
 | (g',.p d')::r,g,l,m,d,h,hm,hf=>by
  simp only[iw.find,FnE.fits]at hf ⊢
  cases hb:Nat.beq g' g&&pG d'.ks l with
  | true=>rw[hb,cond_true]at hf; cases hf
  | false =>
   rw[hb,cond_false]at hf
   have:(Nat.beq g' g&&pG d'.ks m)=false:=by
    cases hg:Nat.beq g' g with
    | false=>rfl
    | true =>
     rw[hg]at hb
     cases hk:pG d'.ks m with
     | false=>rfl
     | true=>rw[WK h hm hk]at hb; cases hb
   rw[this,cond_false]
   exact iw.find_eq r g h hm hf
theorem iw.Xd:∀ {t:iw} {g:Nat} {l:List D} {d:FnE},t.find g l=some d→(g,d)∈t
 | [],_,_,_,h=>by cases h
 | (g',d')::r,g,l,d,h=>by
  simp only[iw.find]at h
  cases hb:Nat.beq g' g&&d'.fits l with
  | true =>
   rw[hb,cond_true]at h
   cases h
   simp only[Bool.and_eq_true]at hb
   rw[Nat.eq_of_beq_eq_true hb.1]
   exact List.mem_cons_self
  | false=>rw[hb,cond_false]at h; exact List.mem_cons_of_mem _ (iw.Xd h)
def zF(P:Program)(g:Nat)(d:BM):Prop:=∀ (κ:KS) (x:uD d.ps) (qj:List Value) (y:UI d.rs),κ.st=[]→(d.F x).leads y→Inv κ→xz κ (V0 d.ps x) qj →
 uU P g qj.toArray κ.w fun e w'=>∃ κ':KS,κ'.w=w'∧κ'.st=[]∧Inv κ'∧Ext κ κ'∧vH κ' (.ret (QP d.rs y)) e
def Cd(P:Program)(g:Nat):FnE→Prop
 | .d d=>zF P g d
 | .s d=>vT P g d
 | .p d=>Gx P g d
def eR(P:Program)(t:iw):Prop:=∀ p∈t,Cd P p.1 p.2
theorem OS(P:Program):eR P []:=fun p hp=>by cases hp
theorem B9{P:Program}{g:Nat}{d:FnE}{t:iw}(h:Cd P g d)(ht:eR P t):eR P ((g,d)::t):=by
 intro p hp
 rcases List.mem_cons.1 hp with rfl | hp
 ·exact h
 ·exact ht p hp
theorem FC{P:Program}{g:Nat}{d:BM}{t:iw}(h:zF P g d)(ht:eR P t):eR P ((g,.d d)::t):=B9 (d:=.d d) h ht
theorem C8{P:Program}{g:Nat}{d:cP}{t:iw}(h:vT P g d)(ht:eR P t):eR P ((g,.s d)::t):=B9 (d:=.s d) h ht
theorem Db{P:Program}{g:Nat}{d:mB}{t:iw}(h:Gx P g d)(ht:eR P t):eR P ((g,.p d)::t):=B9 (d:=.p d) h ht
theorem BM.snd{P:Program}{g:Nat}{d:BM}(h:zF P g d):Dl P g d.S:=by
 intro κ args qj rs zO hl hI ha
 unfold BM.S at hl
 split at hl
 ·rename_i xR
  obtain⟨x,h1,h2⟩:=T.zg.1 hl
  obtain⟨y,h3,h4⟩:=T.zg.1 h2
  cases h4
  exact h κ x qj y xR h3 hI (WQ ha (UL _ _ _ h1))
 ·exact hl.elim
theorem IS{P:Program}{xid:Nat}{tab:iw}{ro:Nat→Bool}(h:eR P tab):∀ g,Dl (yo P xid tab ro).P g ((yo P xid tab ro).fn g):=by
 intro g κ args qj rs zO hl hI ha
 simp only[yo,iw.call]at hl
 split at hl
 ·rename_i d hd
  exact BM.snd (h _ (iw.Xd hd):Cd P g (.d d)) κ args qj rs zO hl hI ha
 ·rename_i d hd
  exact cP.snd (h _ (iw.Xd hd):Cd P g (.s d)) κ args qj rs zO hl hI ha
 ·rename_i d hd
  exact mB.snd (h _ (iw.Xd hd):Cd P g (.p d)) κ args qj rs zO hl hI ha
 ·exact hl.elim
section
variable {P:Program} {xid:Nat} {tab:iw} {ro:Nat→Bool} {α:Type}
def La(c:Ctx)(f:Option D)(args:List (Option D))(st:St)(d:D)(zO:St):Prop :=
 ∃ g caps l,f=some (.xr g caps)∧jJ args=some l∧(c.fn (eP g) (cw g l caps) st).leads (.cg d,zO)
def N1(c:Ctx)(o:Oper)(s:fE)(d:D)(zO:St):Prop :=
 (∃ x t e,o.op=.panic x∧yn s.fr x=some d∧d=.iface t e∧zO=s.st) ∨
 ∃ f args W9,o.op=.call ⟨.value f,args,W9⟩∧La c (yn s.fr f) (args.toList.map (yn s.fr)) s.st d zO
theorem EB{f:Option D}{args:List (Option D)}{st:St}{k:Nat→Option D→St→T α}{kp:D→St→T α}{r:α}(h:(Bs tab f args st k kp).leads r) :
  (∃ d zO,(zX (eF (yo P xid tab ro) f args) st).leads (d,zO)∧(k (eF (yo P xid tab ro) f args).kind d zO).leads r) ∨
  ∃ d zO,La (yo P xid tab ro) f args st d zO∧(kp d zO).leads r:=by
 unfold Bs at h
 split at h
 ·rename_i g caps l hl
  unfold z4V at h
  split at h
  ·exact h.elim
  ·rename_i d hd
   have OP:(yo P xid tab ro).sig (eP g) (cw g l caps)=some ⟨d.ps,d.rs⟩:=by simp only[yo]; rw[hd]
   have SL:eF (yo P xid tab ro) (some (.xr g caps)) args=bq (yo P xid tab ro) (eP g) ⟨d.ps,d.rs⟩ (cw g l caps):=by simp only[eF,hl,OP]
   rw[SL]
   have hfn:∀ {st0:St} (x:uD d.ps) (y:UI d.rs),(D1 st0 d.ps (cw g l caps)).leads x→(d.F x).leads y→((yo P xid tab ro).fn (eP g) (V0 d.ps x) []).leads (.ret (QP d.rs y),[]):=by
    intro st0 x y hx hy
    simp only[yo,iw.call]
    rw[iw.find_eq tab (eP g) (Yl _ _ _ hx) (E9 d.ps x) hd]
    exact T.zg.2 ⟨x,HZ [] d.ps x,T.zg.2 ⟨y,hy,rfl⟩⟩
   cases hn : !((cw g l caps).any Kt)with
   | true =>
    rw[hn,cond_true]at h
    obtain⟨x,h1,h2⟩:=T.zg.1 h
    obtain⟨y,h3,h4⟩:=T.zg.1 h2
    have hc:bq (yo P xid tab ro) (eP g) ⟨d.ps,d.rs⟩ (cw g l caps)=.val ((pJ [] d.ps (cw g l caps)).bind fun l=>((yo P xid tab ro).fn (eP g) l []).bind Rq):=by
     unfold bq; rw[hn]; rfl
    rw[hc]
    refine .inl ⟨_,_,T.zg.2 ⟨_,T.zg.2 ⟨_,UL _ _ _ h1,T.zg.2 ⟨_,hfn x y h1 h3,rfl⟩⟩,rfl⟩,h4⟩
   | false =>
    rw[hn,cond_false]at h
    obtain⟨x,h1,h2⟩:=T.zg.1 h
    obtain⟨y,h3,h4⟩:=T.zg.1 h2
    have hc:bq (yo P xid tab ro) (eP g) ⟨d.ps,d.rs⟩ (cw g l caps)=.rd fun st=>(pJ st d.ps (cw g l caps)).bind fun l=>((yo P xid tab ro).fn (eP g) l []).bind tK:=by
     unfold bq; rw[hn]; rfl
    rw[hc]
    cases hs:(QP d.rs y).all tV with
    | false=>rw[hs]at h4; exact h4.elim
    | true =>
     rw[hs]at h4
     refine .inl ⟨_,_,T.zg.2 ⟨_,T.zg.2 ⟨_,UL _ _ _ h1,T.zg.2 ⟨_,hfn x y h1 h3,?_⟩⟩,rfl⟩,h4⟩
     simp only[tK,hs,cond_true]
     rfl
  ·rename_i d hd
   have OP:(yo P xid tab ro).sig (eP g) (cw g l caps)=none:=by simp only[yo]; rw[hd]
   have SL:eF (yo P xid tab ro) (some (.xr g caps)) args=Z8 (yo P xid tab ro) (eP g) (cw g l caps):=by simp only[eF,hl,OP]
   rw[SL]
   obtain⟨ds,zO,h1,h2⟩:=cP.z6G h
   refine .inl ⟨_,zO,T.zg.2 ⟨(.ret ds,zO),?_,rfl⟩,h2⟩
   simp only[yo,iw.call]
   rw[hd]
   exact h1
  ·rename_i d hd
   have OP:(yo P xid tab ro).sig (eP g) (cw g l caps)=none:=by simp only[yo]; rw[hd]
   have SL:eF (yo P xid tab ro) (some (.xr g caps)) args=Z8 (yo P xid tab ro) (eP g) (cw g l caps):=by simp only[eF,hl,OP]
   rw[SL]
   rcases mB.z6G h with⟨ds,zO,h1,h2⟩ | ⟨p,zO,h1,h2⟩
   ·refine .inl ⟨_,zO,T.zg.2 ⟨(.ret ds,zO),?_,rfl⟩,h2⟩
    simp only[yo,iw.call]
    rw[hd]
    exact h1
   ·refine .inr ⟨p,zO,⟨g,caps,l,rfl,hl,?_⟩,h2⟩
    simp only[yo,iw.call]
    rw[hd]
    exact h1
 ·exact h.elim
theorem oA{o:Oper}{s:fE}{k:fE→T α}{kp:D→St→T α}{r:α}(h:(tG (yo P xid tab ro) tab n o s k kp).leads r) :
  (∃ s',(gW (yo P xid tab ro) n o s).leads s'∧(k s').leads r)∨∃ d zO,N1 (yo P xid tab ro) o s d zO∧(kp d zO).leads r:=by
 unfold tG at h
 unfold gW
 cases hd:vV n o.dst with
 | false=>rw[hd]at h; exact h.elim
 | true =>
  rw[hd,cond_true]at h
  rw[cond_true]
  obtain⟨dst,op,ty,pos,after,guard⟩:=o
  have gen:((zX (pT (yo P xid tab ro) s.kn s.fr ⟨dst,op,ty,pos,after,guard⟩) s.st).bind fun r=>k ⟨s.fr.put dst r.1,K4 s.kn dst (Jz s.kn op),r.2,(pT (yo P xid tab ro) s.kn s.fr ⟨dst,op,ty,pos,after,guard⟩).kind::s.ks,wA (yo P xid tab ro) (yn s.fr) s.st ⟨dst,op,ty,pos,after,guard⟩::s.bk⟩).leads r →
    ∃ s',(let cl:=pT (yo P xid tab ro) s.kn s.fr ⟨dst,op,ty,pos,after,guard⟩; (zX cl s.st).bind fun r=>T.ret (⟨s.fr.put dst r.1,K4 s.kn dst (Jz s.kn op),r.2,cl.kind::s.ks,wA (yo P xid tab ro) (yn s.fr) s.st ⟨dst,op,ty,pos,after,guard⟩::s.bk⟩:fE)).leads s'∧(k s').leads r:=by
   intro h
   obtain⟨x,h1,h2⟩:=T.zg.1 h
   exact⟨_,T.zg.2 ⟨x,h1,rfl⟩,h2⟩
  cases op with
  | call cl =>
   obtain⟨callee,args,W9⟩:=cl
   cases callee with
   | value f =>
    simp only at h
    rcases EB (P:=P) (xid:=xid) (ro:=ro) h with⟨d,zO,h1,h2⟩ | ⟨d,zO,h1,h2⟩
    ·exact .inl ⟨_,T.zg.2 ⟨(d,zO),h1,rfl⟩,h2⟩
    ·exact .inr ⟨d,zO,.inr ⟨f,args,W9,rfl,h1⟩,h2⟩
   | _=>exact .inl (gen h)
  | panic x =>
   simp only at h
   split at h
   ·rename_i t e hx
    exact .inr ⟨_,_,.inl ⟨x,t,e,rfl,hx,rfl,rfl⟩,h⟩
   ·exact h.elim
  | _=>exact .inl (gen h)
theorem NT{ops:Array Oper}{o:Oper}{s:fE}{k:fE→T α}{kp:D→St→T α}{r:α}(hkn:u7 s.kn s.fr.get)(h:(Fj (yo P xid tab ro) tab n ops o s k kp).leads r) :
  (∃ s',(stepG (yo P xid tab ro) n ops o s).leads s'∧(k s').leads r)∨∃ d zO,wD ops s.fr.get o=some true∧N1 (yo P xid tab ro) o s d zO∧(kp d zO).leads r:=by
 obtain⟨dst,op,ty,pos,after,guard⟩:=o
 cases guard with
 | none =>
  rcases oA h with h | ⟨d,zO,h1,h2⟩
  ·exact .inl h
  ·exact .inr ⟨d,zO,rfl,h1,h2⟩
 | some jw =>
  obtain⟨j,want⟩:=jw
  simp only[Fj]at h
  simp only[stepG]
  cases hg:uS ops j with
  | none=>rw[hg]at h; exact h.elim
  | some t =>
   rw[hg]at h
   simp only at h ⊢
   cases hk:s.kn.get t with
   | some b =>
    rw[hk]at h
    simp only at h ⊢
    have hw:wD ops s.fr.get ⟨dst,op,ty,pos,after,some (j,want)⟩=some (b==want):=by simp[wD,hg,hkn t b hk]
    cases hb:b==want with
    | true =>
     rw[hb,cond_true]at h; rw[cond_true]
     rcases oA h with h | ⟨d,zO,h1,h2⟩
     ·exact .inl h
     ·exact .inr ⟨d,zO,by rw[hw,hb],h1,h2⟩
    | false =>
     rw[hb,cond_false]at h; rw[cond_false]
     cases hd:vV n dst with
     | true=>rw[hd,cond_true]at h; exact .inl ⟨_,rfl,h⟩
     | false=>rw[hd,cond_false]at h; exact h.elim
   | none =>
    rw[hk]at h
    simp only at h ⊢
    split at h
    ·rename_i x hf
     rw[hf]
     simp only
     have hw:wD ops s.fr.get ⟨dst,op,ty,pos,after,some (j,want)⟩=some (x==want):=by simp[wD,hg,hf]
     cases hd:vV n dst with
     | false=>rw[hd]at h; exact h.elim
     | true =>
      rw[hd,cond_true]at h; rw[cond_true]
      rcases h with⟨hx,h⟩ | ⟨hx,h⟩
      ·subst hx
       cases want with
       | true =>
        rw[cond_true]at h
        rcases oA h with⟨s',h1,h2⟩ | ⟨d,zO,h1,h2⟩
        ·exact .inl ⟨s',.inl ⟨rfl,h1⟩,h2⟩
        ·exact .inr ⟨d,zO,hw,h1,h2⟩
       | false=>rw[cond_false]at h; exact .inl ⟨_,.inl ⟨rfl,rfl⟩,h⟩
      ·subst hx
       cases want with
       | true=>rw[cond_true]at h; exact .inl ⟨_,.inr ⟨rfl,rfl⟩,h⟩
       | false =>
        rw[cond_false]at h
        rcases oA h with⟨s',h1,h2⟩ | ⟨d,zO,h1,h2⟩
        ·exact .inl ⟨s',.inr ⟨rfl,h1⟩,h2⟩
        ·exact .inr ⟨d,zO,hw,h1,h2⟩
    ·rename_i hf
     rw[hf]
     simp only
     cases hd:vV n dst with
     | true=>rw[hd,cond_true]at h; exact .inl ⟨_,rfl,h⟩
     | false=>rw[hd,cond_false]at h; exact h.elim
    ·exact h.elim
def FD(c:Ctx)(n:Nat)(ops:Array Oper)(l:List Oper)(s:fE)(d:D)(zO:St):Prop :=
 ∃ pre o post s1,l=pre++o::post∧(nK c n ops pre s).leads s1∧wD ops s1.fr.get o=some true∧N1 c o s1 d zO
theorem KD{ops:Array Oper}:∀ (l:List Oper) {s:fE} {k:fE→T α} {kp:D→St→T α} {r:α},u7 s.kn s.fr.get→(∀ o∈l,∃ i:Nat,ops[i]? = some o)→(Bc (yo P xid tab ro) tab n ops l s k kp).leads r →
  (∃ s',(nK (yo P xid tab ro) n ops l s).leads s'∧(k s').leads r)∨∃ d zO,FD (yo P xid tab ro) n ops l s d zO∧(kp d zO).leads r
 | [],s,k,kp,r,_,_,h=>.inl ⟨s,rfl,h⟩
 | o::l,s,k,kp,r,hk,hl,h=>by
  rcases NT hk h with⟨s1,h1,h2⟩ | ⟨d,zO,h1,h2,h3⟩
  ·obtain⟨i,hi⟩:=hl o List.mem_cons_self
   obtain⟨_,_,X6,_⟩:=Gs hi hk h1
   rcases KD l X6 (fun o' ho=>hl o' (List.mem_cons_of_mem _ ho)) h2 with⟨s2,h3,h4⟩ | ⟨d,zO,⟨pre,o',post,s2,e,g1,g2,g3⟩,h4⟩
   ·exact .inl ⟨s2,T.zg.2 ⟨s1,h1,h3⟩,h4⟩
   ·exact .inr ⟨d,zO,⟨o::pre,o',post,s2,by rw[e]; rfl,T.zg.2 ⟨s1,h1,g1⟩,g2,g3⟩,h4⟩
  ·exact .inr ⟨d,zO,⟨[],o,l,s,rfl,rfl,h1,h2⟩,h3⟩
theorem YJ{ops:Array Oper}{draw:Bool}{fr:Fr}{kn:Kn}{st:St}{k:fE→T α}{kp:D→St→T α}{r:α}(hk:u7 kn fr.get)(h:(K2 (yo P xid tab ro) tab n ops draw fr kn st k kp).leads r) :
  (∃ s',(ct (yo P xid tab ro) n ops draw fr kn st).leads s'∧(k s').leads r)∨∃ d zO,draw=false∧FD (yo P xid tab ro) n ops ops.toList ⟨fr,kn,st,[],[]⟩ d zO∧(kp d zO).leads r:=by
 rcases KD _ hk (fun o ho=>by obtain⟨i,hi,he⟩:=List.getElem_of_mem ho; exact⟨i,by rw[← he]; simp at hi; simp[hi]⟩) h with⟨s',h1,h2⟩ | ⟨d,zO,h1,h2⟩
 ·cases hd : !draw||Q8 ops s'.ks.reverse s'.bk.reverse with
  | false=>rw[hd]at h2; exact h2.elim
  | true =>
   rw[hd,cond_true]at h2
   refine .inl ⟨s',T.zg.2 ⟨s',h1,?_⟩,h2⟩
   rw[hd]; rfl
 ·cases draw with
  | true=>exact h2.elim
  | false=>exact .inr ⟨d,zO,rfl,h1,h2⟩
end
end
end Go.AM
namespace Go.AM
set_option linter.unusedSectionVars false
variable [uH] [BK]
open Go.RowKit
theorem Jl{α β:Type}{f:α→β}{t:T α}{x:α}(h:t.leads x):(Cp f t).leads (f x):=by
 induction t with
 | ret a=>exact congrArg f h
 | ite b p q ip iq=>exact cp h (fun h=>⟨h.1,ip h.2⟩) (fun h=>⟨h.1,iq h.2⟩)
 | zd p t ih=>exact⟨h.1,ih h.2⟩
 | fail=>exact h.elim
theorem Md:∀ (l:List It) (d:wY l) (t:T (wY l)) (x:wY l),t.leads x→O4 l d t=x
 | [],_,_,_,_=>rfl
 | [_],d,t,x,h=>((T.Ki d t x).1 h).2
 | i::j::r,d,t,x,h=>by
  have h1:=((T.Ki d.1 _ _).1 (Jl (f:=Prod.fst) h)).2
  have h2:=Md (j::r) d.2 _ _ (Jl (f:=Prod.snd) h)
  show(T.val d.1 (Cp Prod.fst t),O4 (j::r) d.2 (Cp Prod.snd t))=x
  rw[h1,h2]
  exact rfl
theorem NG{α:Type}(t:T α)(h:t.Uz):∃ x,t.leads x:=by
 induction t with
 | ret a=>exact⟨a,rfl⟩
 | ite b p q ip iq =>
  unfold T.Uz at h ip iq
  simp only[T.iN]at h
  cases b with
  | true =>
   obtain⟨x,hx⟩:=ip (by cases hp:p.iN<;>cases hq:q.iN<;>simp_all)
   exact⟨x,.inl ⟨rfl,hx⟩⟩
  | false =>
   obtain⟨x,hx⟩:=iq (by cases hp:p.iN<;>cases hq:q.iN<;>simp_all)
   exact⟨x,.inr ⟨rfl,hx⟩⟩
 | zd p t ih =>
  unfold T.Uz at h ih
  simp only[T.iN]at h
  cases ht:t.iN with
  | none=>rw[ht]at h ih; obtain⟨x,hx⟩:=ih trivial; exact⟨x,h,hx⟩
  | some q=>rw[ht]at h ih; obtain⟨x,hx⟩:=ih h.2; exact⟨x,h.1,hx⟩
 | fail=>exact h.elim
theorem DF{l:List It}{t:T (wY l)}{x:wY l}(h:(R9 l t).leads x):t.leads x:=by
 unfold R9 at h
 split at h
 ·rename_i d hd
  have key:t.Uz→O4 l d t=x→t.leads x:=by
   intro hp hv
   obtain⟨y,hy⟩:=NG t hp
   rw[← hv,Md l d t y hy]; exact hy
  split at h
  ·rename_i hn; exact key (by unfold T.Uz; rw[hn]; trivial) h
  ·rename_i p hn; exact key (by unfold T.Uz; rw[hn]; exact h.1) h.2
 ·exact h.elim
def RIs(ws:List Way)(r:yv ws)(w:Way)(x:w.sh.den):Prop:=∀ {α:Type} (k:Ex→Fr→St→T α),L1 ws r k=k w.ex (w.sh.fr x) (w.sh.st x)
theorem Hd:∀ (ws:List Way) (ex:Ex) (fr:Fr) (st:St) (r:yv ws),(Hn ws ex fr st).leads r→∃ w,w∈ws∧∃ x:w.sh.den,RIs ws r w x∧rF w.ex ex=true∧(w.sh.un fr st).leads x
 | [],_,_,_,_,h=>h.elim
 | [w],ex,fr,st,r,h=>by
  have h:(bif rF w.ex ex then w.sh.un fr st else .fail:T w.sh.den).leads r:=h
  cases hs:rF w.ex ex with
  | false=>rw[hs]at h; exact h.elim
  | true=>rw[hs]at h; exact⟨w,by simp,r,fun k=>rfl,hs,h⟩
 | w::v::ws,ex,fr,st,r,h=>by
  have h:(bif rF w.ex ex then(w.sh.un fr st).bind fun x=>T.ret (Sum.inl x:w.sh.den⊕yv (v::ws))else(Hn (v::ws) ex fr st).bind fun y=>T.ret (Sum.inr y)).leads r:=h
  cases hs:rF w.ex ex with
  | true =>
   rw[hs]at h
   obtain⟨x,h1,h2⟩:=T.zg.1 h
   have h2:(Sum.inl x:w.sh.den⊕yv (v::ws))=r:=h2
   subst h2
   exact⟨w,by simp,x,fun k=>rfl,hs,h1⟩
  | false =>
   rw[hs]at h
   obtain⟨y,h1,h2⟩:=T.zg.1 h
   have h2:(Sum.inr y:w.sh.den⊕yv (v::ws))=r:=h2
   subst h2
   obtain⟨w',k1,x,k2,k3,k4⟩:=Hd (v::ws) ex fr st y h1
   exact⟨w',List.mem_cons_of_mem _ k1,x,fun k=>k2 k,k3,k4⟩
def z6x(κ:KS)(n:Nat)(w:Way)(z:w.sh.den)(a:Act)(pV:Exit):Prop:=∀ q,Di w.ex (w.sh.fr z)=some q→Rel κ n q.2.get a∧DR κ q.1 pV
theorem z0D{κ0 κ:KS}{n:Nat}{a:Act}{w:Way}{z:w.sh.den}{oex:Ex}{ofr:Fr}{pV:Exit}(hx:Ext κ0 κ)(hI:Inv κ)(hR:Rel κ n ofr.get a)(he:DR κ oex pV)(hs:rF w.ex oex=true)(hl:κ0.st.length≤w.sh.bs.length)
  (h:(w.sh.un (Ys oex ofr) κ.st).leads z):∃ κ1:KS,κ1.w=κ.w∧κ1.st=w.sh.st z∧Inv κ1∧Ext κ0 κ1∧z6x κ1 n w z a pV:=by
 have plain:Ys oex ofr=ofr→(∀ q,Di w.ex (w.sh.fr z)=some q→q.2=w.sh.fr z∧∀ κ1:KS,DR κ1 q.1 pV)→∃ κ1:KS,κ1.w=κ.w∧κ1.st=w.sh.st z∧Inv κ1∧Ext κ0 κ1∧z6x κ1 n w z a pV:=by
  intro e1 e2
  rw[e1]at h
  obtain⟨κ1,q1,q2,q3,q4,q5,_⟩:=w.sh.Xi (n:=n) hx hI hR hl h
  exact⟨κ1,q1,q2,q3,q4,fun q hq=>by obtain⟨g1,g2⟩:=e2 q hq; rw[g1]; exact⟨q5,g2 κ1⟩⟩
 cases hw:w.ex with
 | normal =>
  rw[hw]at hs
  cases oex<;>first | (cases hs; done) | skip
  exact plain rfl fun q hq=>by rw[hw]at hq; cases hq; exact⟨rfl,fun _=>he⟩
 | ret =>
  rw[hw]at hs
  cases oex<;>first | (cases hs; done) | skip
  exact plain rfl fun q hq=>by rw[hw]at hq; cases hq; exact⟨rfl,fun _=>he⟩
 | exit id =>
  rw[hw]at hs
  cases oex<;>first | (cases hs; done) | skip
  rename_i id'
  have:id=id':=Nat.eq_of_beq_eq_true hs
  subst this
  exact plain rfl fun q hq=>by rw[hw]at hq; cases hq; exact⟨rfl,fun _=>he⟩
 | cg p =>
  rw[hw]at hs
  cases p<;>first | (cases hs; done) | skip
  rename_i t p
  cases oex<;>first | (cases hs; done) | skip
  rename_i p'
  cases p'<;>first | (cases hs; done) | skip
  rename_i t' d
  have:t=t':=Nat.eq_of_beq_eq_true hs
  subst this
  obtain⟨v,rfl,hv⟩:=he
  cases hv with
  | iface _ _ u hu =>
   have BI:Rel κ 1 (Ys (.cg (.iface t d)) ofr).get { tmps := #[u],defers:=BK.df }:=by
    refine⟨rfl,rfl,fun s d' hd => ?_⟩
    simp only[Ys,Fr.get]at hd
    cases hb:Nat.beq 0 s with
    | true =>
     rw[hb,cond_true]at hd
     cases hd
     have:=Nat.eq_of_beq_eq_true hb
     subst this
     exact⟨u,rfl,hu⟩
    | false=>rw[hb,cond_false]at hd; cases hd
   obtain⟨κ1,q1,q2,q3,q4,q5,_⟩:=w.sh.Xi (n:=1) hx hI BI hl h
   refine⟨κ1,q1,q2,q3,q4,fun q hq => ?_⟩
   rw[hw]at hq
   simp only[Di]at hq
   split at hq
   ·rename_i d' yZ
    cases hq
    obtain⟨v',g1,g2⟩:=q5.get 0 d' yZ
    cases g1
    exact⟨⟨hR.size,hR.defers,fun s d hd=>by cases hd⟩,_,rfl,.iface t d' _ g2⟩
   ·cases hq
theorem nd(st:St):∀ (bs:List Bk) (bd:List Bd),(vM st bs bd).length≤bs.length
 | [],_=>by simp[vM]
 | .arr _::r,[]=>by simp[vM]
 | .arr _::r,.v _ _::_=>by simp[vM]
 | .arr _::r,.a _ _::d=>by have:=nd st r d; simp[vM]; exact this
 | .var _::r,[]=>by simp[vM]
 | .var _::r,.a _ _::_=>by simp[vM]
 | .var _::r,.v _ _::d=>by have:=nd st r d; simp[vM]; exact this
 | .cvar _::r,d=>by have:=nd st r d; cases d<;>(simp[vM]; exact this)
 | .dead::r,d=>by have:=nd st r d; cases d<;>(simp[vM]; exact this)
theorem mH.KT(s:mH)(x:s.den):(s.st x).length≤s.bs.length:=nd _ _ _
theorem Vs{l m:Fr}{s:Nat}{d:D}(h:(l++m).get s=some d):l.get s=some d∨m.get s=some d:=by
 induction l with
 | nil=>exact .inr h
 | cons p r ih =>
  obtain⟨t,d'⟩:=p
  simp only[List.cons_append,Fr.get]at h ⊢
  cases ht:Nat.beq t s with
  | true=>rw[ht,cond_true]at h; rw[cond_true]; exact .inl h
  | false=>rw[ht,cond_false]at h; rw[cond_false]; exact ih h
theorem Nv{l:List Nat}{fr:Fr}{s:Nat}{d:D}(h:(ZE l++fr).get s=some d):s ∉ l∧fr.get s=some d:=by
 induction l with
 | nil=>exact⟨by simp,h⟩
 | cons t r ih =>
  simp only[ZE,List.map_cons,List.cons_append,Fr.get]at h
  cases ht:Nat.beq t s with
  | true=>rw[ht,cond_true]at h; cases h
  | false =>
   rw[ht,cond_false]at h
   obtain⟨h1,h2⟩:=ih h
   refine⟨?_,h2⟩
   simp only[List.mem_cons,not_or]
   exact⟨fun e=>by subst e; simp at ht,h1⟩
theorem Xt{o:Oper}{s:Nat}:∀ {l:List Oper},o∈l→o.dst=some s→s∈dstsOf l
 | p::r,h,hs=>by
  simp only[dstsOf]
  rcases List.mem_cons.1 h with rfl | h
  ·rw[hs]; exact List.mem_cons_self
  ·split
   ·exact List.mem_cons_of_mem _ (Xt h hs)
   ·exact Xt h hs
def Kept(code:Code)(a a':Act):Prop:=∀ s:Nat,s ∉ xd code→a'.tmps[s]? = a.tmps[s]?
section
variable {P:Program} {xid:Nat} {tab:iw} {ro:Nat→Bool} {n:Nat} {H:Hints}
theorem Vb{κ κ':KS}{fr out:Fr}{a a':Act}{ws:List Nat}(hR:Rel κ n fr.get a)(hx:Ext κ κ')(ho:Rel κ' n out.get a')(hk:∀ s:Nat,s ∉ ws→a'.tmps[s]? = a.tmps[s]?):Rel κ' n (out++(ZE ws++fr)).get a':=by
 refine⟨ho.size,ho.defers,fun s d hd => ?_⟩
 rcases Vs hd with h | h
 ·exact ho.get s d h
 ·obtain⟨h1,h2⟩:=Nv h
  obtain⟨v,g1,g2⟩:=hR.get s d h2
  exact⟨v,(hk s h1).trans g1,g2.mono hx⟩
theorem Bb{c:Ctx}{ops:Array Oper}:∀ (l:List Oper) (s s':fE),(nK c n ops l s).leads s'→quiet s'.ks=true→s'.st=s.st∧quiet s.ks=true:=by
 have hq:∀ {k:Nat} {ks:List Nat},quiet (k::ks)=true→Nat.beq k 2=false∧quiet ks=true:=by
  intro k ks h
  simp only[quiet,List.all_cons,Bool.and_eq_true,Bool.not_eq_true']at h
  exact⟨h.1,by unfold quiet; exact h.2⟩
 have one:∀ (o:Oper) (s s1:fE),(gW c n o s).leads s1→quiet s1.ks=true→s1.st=s.st∧quiet s.ks=true:=by
  intro o s s1 h hk
  unfold gW at h
  cases hd:vV n o.dst with
  | false=>rw[hd]at h; exact h.elim
  | true =>
   rw[hd,cond_true]at h
   obtain⟨r,h1,h2⟩:=T.zg.1 h
   cases h2
   obtain⟨g1,g2⟩:=hq hk
   refine⟨?_,g2⟩
   show r.2=s.st
   generalize pT c s.kn s.fr o=cl at h1 g1
   cases cl with
   | val t=>obtain⟨d,_,h3⟩:=T.zg.1 h1; cases h3; rfl
   | rd k=>obtain⟨d,_,h3⟩:=T.zg.1 h1; cases h3; rfl
   | wr k=>cases g1
 have skp:∀ (o:Oper) (s:fE),quiet (jC o s).ks=true→(jC o s).st=s.st∧quiet s.ks=true:=fun o s h=>⟨rfl,(hq h).2⟩
 have gd:∀ (o:Oper) (s s1:fE),(stepG c n ops o s).leads s1→quiet s1.ks=true→s1.st=s.st∧quiet s.ks=true:=by
  intro o s s1 h hk
  obtain⟨dst,op,ty,pos,after,guard⟩:=o
  cases guard with
  | none=>exact one _ s s1 h hk
  | some jw =>
   obtain⟨j,want⟩:=jw
   simp only[stepG]at h
   cases hg:uS ops j with
   | none=>rw[hg]at h; exact h.elim
   | some t =>
    rw[hg]at h
    simp only at h
    cases hkn:s.kn.get t with
    | some b =>
     rw[hkn]at h
     simp only at h
     cases hb:b==want with
     | true=>rw[hb,cond_true]at h; exact one _ s s1 h hk
     | false =>
      rw[hb,cond_false]at h
      cases hd:vV n dst with
      | false=>rw[hd]at h; exact h.elim
      | true=>rw[hd,cond_true]at h; cases h; exact skp _ s hk
    | none =>
     rw[hkn]at h
     simp only at h
     split at h
     ·cases hd:vV n dst with
      | false=>rw[hd]at h; exact h.elim
      | true =>
       rw[hd,cond_true]at h
       rcases h with⟨_,h⟩ | ⟨_,h⟩
       ·cases want with
        | true=>rw[cond_true]at h; exact one _ (s.cf t true) s1 h hk
        | false=>rw[cond_false]at h; cases h; exact skp _ (s.cf t true) hk
       ·cases want with
        | true=>rw[cond_true]at h; cases h; exact skp _ (s.cf t false) hk
        | false=>rw[cond_false]at h; exact one _ (s.cf t false) s1 h hk
     ·cases hd:vV n dst with
      | false=>rw[hd]at h; exact h.elim
      | true=>rw[hd,cond_true]at h; cases h; exact skp _ s hk
     ·exact h.elim
 intro l
 induction l with
 | nil=>intro s s' h hk; cases h; exact⟨rfl,hk⟩
 | cons o l ih =>
  intro s s' h hk
  obtain⟨s1,h1,h2⟩:=T.zg.1 h
  obtain⟨g1,g2⟩:=ih s1 s' h2 hk
  obtain⟨k1,k2⟩:=gd o s s1 h1 g2
  exact⟨g1.trans k1,k2⟩
theorem Ho{c:Ctx}{ops:Array Oper}{draw:Bool}{fr:Fr}{kn:Kn}{st:St}{s':fE}(h:(ct c n ops draw fr kn st).leads s')(hq:quiet s'.ks=true):s'.st=st:=by
 obtain⟨s1,h1,h2⟩:=T.zg.1 h
 cases hd:(!draw||Q8 ops s1.ks.reverse s1.bk.reverse)with
 | false=>rw[hd]at h2; exact h2.elim
 | true=>rw[hd,cond_true]at h2; cases h2; exact(Bb _ _ _ h1 hq).1
theorem z0y{c:Ctx}{κ:KS}{a:Act}{o:Oper}{g:Nat}{args:Array Value}{R:Ending→World→Prop}(vZ:(execOp a.eval o).run c.P κ.w=(callFunc g args).run c.P κ.w)
  (h:uU c.P g args κ.w R) {K:Act→World→Prop} {Q:Exit→Act→World→Prop} (hR:∀ e w',R e w'→∃ ch,e=.panicked ch∧Q (.panic ch) a w'):o.wp c.P a κ.w K Q:=by
 unfold Oper.wp
 rw[vZ]
 rcases h with⟨h1,h2⟩ | ⟨v,w',h1,h2⟩
 ·rw[h1]
  refine h2.mono fun e w' he => ?_
  obtain⟨ch,rfl,hk⟩:=hR e w' he
  exact hk
 ·obtain⟨u,hu,_⟩:=hR _ _ h2
  cases hu
theorem Pn{c:Ctx}{κ:KS}{n:Nat}{a:Act}{o:Oper}{s:fE}{d:D}{zO:St}(hC:∀ g,Dl c.P g (c.fn g))(hI:Inv κ)(hR:Rel κ n s.fr.get a)(xR:κ.st=s.st)(h:N1 c o s d zO){K:Act→World→Prop}{Q:Exit→Act→World→Prop}
  (hQ:∀ (v:Value) (κ':KS),κ'.st=zO→Inv κ'→Ext κ κ'→RD κ' d v→Q (.panic [{ v,recovered:=false }]) a κ'.w):o.wp c.P a κ.w K Q:=by
 have mI:∀ (x:Operand) (z:D),yn s.fr x=some z→RD κ z (a.eval x):=fun x z hz=>hR.eval (by rw[← dI]; exact hz)
 obtain⟨dst,op,ty,pos,after,guard⟩:=o
 rcases h with⟨x,t,e,rfl,hx,rfl,rfl⟩ | ⟨f,args,W9,rfl,g,caps,l,hp,hl,hc⟩
 ·have hv:=mI x _ hx
  generalize Ob:a.eval x=pv at hv
  cases hv with
  | iface _ _ u hu =>
   have vZ:(execOp a.eval ⟨dst,.panic x,ty,pos,after,guard⟩).run c.P κ.w=.halt (.panic (.iface t u)) κ.w:=by
    simp[execOp,Ob,Instr.panic,goPanic]
   unfold Oper.wp
   rw[vZ]
   exact hQ _ κ xR hI (Ext.refl κ) (.iface t e u hu)
 ·have hpv:=mI f _ hp
  have hr:=dT (κ:=κ) (vs:=args.toList.map a.eval) hl (by simp) (fun i d v hd hv=>by
      simp only[List.getElem?_map]at hd hv
      cases hi:args.toList[i]? with
      | none=>rw[hi]at hd; cases hd
      | some x=>rw[hi]at hd hv; simp at hd hv; subst hv; exact mI x d hd)
  generalize Ob:a.eval f=pv at hpv
  cases hpv with
  | xr _ _ us iI hh2 =>
   have na:=DL g hr (⟨iI,hh2⟩:xz κ caps us)
   rw[← xR]at hc
   refine z0y (c:=c) (κ:=κ) (g:=eP g) (args:=(cw g (args.toList.map a.eval) us).toArray) ?_ (hC (eP g) κ _ _ _ _ hc hI na) ?_
   ·exact BS Ob
   ·rintro e w' ⟨κ',rfl,h1,h2,h3,v,rfl,h4⟩
    exact⟨_,rfl,hQ v κ' h1 h2 h3 h4⟩
theorem Ns{c:Ctx}{κ:KS}{n:Nat}{a:Act}{id:Nat}{ops:Array Oper}{fr:Fr}{kn:Kn}{d:D}{zO:St}(hC:∀ g,Dl c.P g (c.fn g))(hI:Inv κ)(hR:Rel κ n fr.get a)(hk:u7 kn fr.get)
  (h:FD c n ops ops.toList ⟨fr,kn,κ.st,[],[]⟩ d zO) {Q:Exit→Act→World→Prop}
  (hQ:∀ (v:Value) (a':Act) (κ':KS),κ'.st=zO→Inv κ'→Ext κ κ'→Rel κ' n (Fr.get []) a'→lq ops a a'→RD κ' d v→Q (.panic [{ v,recovered:=false }]) a' κ'.w):(Code.region id ops false).wp c.P Q a κ.w:=by
 obtain⟨pre,o,post,s1,e,h1,h2,h3⟩:=h
 have NS:∀ j:Nat,ops[j]? = (pre++o::post)[j]? := fun j=>by rw[← e]; simp
 obtain⟨ks,g1,g2,_⟩:=pn pre 0 ⟨fr,kn,κ.st,[],[]⟩ s1 (fun j=>by
  by_cases hj:j<pre.length
  ·left; rw[Nat.zero_add,NS,List.getElem?_append_left hj]
  ·right; omega) hk h1
 have jm:List.range ops.size=List.range' 0 pre.length++pre.length::List.range' (pre.length+1) post.length:=by
  have:ops.size=pre.length+(post.length+1):=by rw[← Array.length_toList,e]; simp
  rw[this,List.range_eq_range',← List.range'_append_1,Nat.zero_add,List.range'_succ]
 refine wp_region ?_
 rw[jm]
 refine GN hC _ _ hI hR rfl g1 fun a' κ' e1 e2 e3 e4 e5 => ?_
 rw[wpOps_cons]
 unfold wpOp
 have ho:ops[pre.length]? = some o:=by rw[NS]; simp
 rw[ho]
 simp only
 rw[if_pos (nF e4 h2)]
 exact .inl (Pn hC e2 e4 e1 h3 fun v Ol f1 f2 f3 f4=>hQ v a' Ol f1 f2 (e3.trans f3) ⟨e4.size,e4.defers,fun s d hd=>by cases hd⟩ e5 f4)
def Wf(P:Program)(n:Nat)(l:zI)(b:Code):Prop:=∀ (κ:KS) (a:Act) (p:wY l.ps) (s:l.sh.den) (r:yv l.ws),(l.F p s).leads r→κ.st=l.sh.st s→Inv κ →
 Rel κ n (l.sh.fr s).get a→Rel κ n (iB (l.sh.st s) l.ps p).get a→EA l.ps (xd b)=true→(∀ w∈l.ws,l.sh.bs.length≤w.sh.bs.length) →
 ∀ Q:Exit→Act→World→Prop,(∀ (w:Way) (x:w.sh.den) (pV:Exit) (a':Act) (κ':KS),w∈l.ws→RIs l.ws r w x→κ'.st=w.sh.st x→Inv κ'→Ext κ κ'→z6x κ' n w x a' pV→Kept b a a'→Q pV a' κ'.w) →
  (Code.loop b).wp P Q a κ.w
def yM(P:Program)(n:Nat)(H:Hints)(code:Code):Prop:=∀ p∈vQ code,∀ l,H.loop p.1=some l→Wf P n l p.2
theorem PV{kn:Kn}:∀ (l:List Nat) {fr:Fr} {st:St} {r:Fr×St},(frz l fr st).leads r→u7 kn fr.get→u7 kn r.1.get
 | [],fr,st,r,h,hk=>by cases h; exact hk
 | s::l,fr,st,r,h,hk=>by
  obtain⟨x,h1,h2⟩:=T.zg.1 h
  refine PV l h2 fun t b hb => ?_
  have hf:=hk t b hb
  unfold z2o at h1
  cases hW:Nat.ble 1000000 s with
  | true =>
   rw[hW,cond_true]at h1
   have hfr:x.1=fr:=by
    unfold z2N at h1
    split at h1
    ·split at h1
     ·split at h1
      ·split at h1
       ·obtain⟨_,h1⟩:=h1; cases h1; rfl
       ·exact h1.elim
      ·exact h1.elim
     ·cases h1; rfl
    ·cases h1; rfl
   rw[hfr]; exact hf
  | false =>
  rw[hW,cond_false]at h1
  unfold z2g at h1
  split at h1
  ·rename_i b' qY e off len hs
   split at h1
   ·split at h1
    ·obtain⟨_,h1⟩:=h1
     cases h1
     simp only[Fr.get]
     cases ht:Nat.beq s t with
     | true=>rw[← Nat.eq_of_beq_eq_true ht,hs]at hf; cases hf
     | false=>rw[cond_false]; exact hf
    ·exact h1.elim
   ·exact h1.elim
  ·cases h1; exact hf
theorem z0x{c:Ctx}{t e:Nat}(hu:c.P.underlying t=some (.slice e)){op:BinOp}{b:Bool}(hop:PD op=some b)(px py:Operand)(w:World)(x:Option Addr)(l k:Nat) :
  (do eqGuard op t px py (.slice x l k) (.slice none 0 0); binOp op t (.slice x l k) (.slice none 0 0):Sem Value).run c.P w=.ok (.bool (if b=true then x.isNone else !x.isNone)) w:=by
 cases op<;>simp only[PD]at hop<;>cases hop
 ·have:=run_eql_slice_nil (P:=c.P) w t e x l k hu
  simp only[Sem.run_bind,eqGuard,Sem.run_pure]
  simpa using this
 ·have:=run_neq_slice_nil (P:=c.P) w t e x l k hu
  simp only[Sem.run_bind,eqGuard,Sem.run_pure]
  simpa using this
theorem Io{ops:Array Oper}{fr:Fr}{p:zaC}(hp:HP (yo P xid tab ro) n ops fr=some p){κ:KS}{a:Act}{kn:Kn}(hI:Inv κ)(hR:Rel κ n fr.get a)(hk:u7 kn fr.get){id:Nat}(Q:Exit→Act→World→Prop)
  (hQ:∀ a':Act,Kept (.region id ops false) a a' →
   ((p.l=[]∧Rel κ n (Fr.get ((p.c,some (.zU .bool p.eq))::(p.m,some .xw)::(p.s,some .xw)::fr)) a')∨Rel κ n (Fr.get ((p.c,some (.zU .bool (!p.eq)))::(p.m,some (.zU (.sl p.e) p.l))::fr)) a')→Q .normal a' κ.w) :
  (Code.region id ops false).wp P Q a κ.w:=by
 unfold HP at hp
 split at hp
 ·rename_i o1 o2 hops
  split at hp
  ·rename_i m s O3 ho1 hg1
   split at hp
   ·rename_i cc op t m' y ty' hd2 ho2 hg2
    split at hp
    ·rename_i b e l et hop hs hel
     cases hc:Nat.beq m m'&&Fo y&&Nat.blt m n&&Nat.blt cc n with
     | false=>rw[hc]at hp; cases hp
     | true =>
      rw[hc,cond_true]at hp
      cases hp
      simp only[Bool.and_eq_true]at hc
      obtain⟨⟨⟨hmm,hy⟩,hmn⟩,hcn⟩:=hc
      have:=Nat.eq_of_beq_eq_true hmm
      subst this
      have hy':y=.const (.slice none 0 0):=by
       unfold Fo at hy
       split at hy
       ·rfl
       ·cases hy
      subst hy'
      obtain⟨v,hv,yZ⟩:=hR.get s _ hs
      obtain⟨x,k,hvs⟩:∃ (x:Option Addr) (k:Nat),v=.slice x l.length k∧(x=none→l=[]∧k=0):=by
       rcases(yZ.wO rfl).og with⟨rfl,a0,he⟩ | ⟨blk,off,cap,f,he,wm,wH,h1,h2⟩
       ·cases he; exact⟨a0,0,rfl,fun _=>⟨rfl,rfl⟩⟩
       ·cases he; exact⟨_,cap,rfl,nofun⟩
      obtain⟨rfl,hvn⟩:=hvs
      have jm:ops.size=2:=by rw[← Array.length_toList,hops]; rfl
      have e0:ops[0]? = some o1:=by rw[← Array.getElem?_toList,hops]; rfl
      have e1:ops[1]? = some o2:=by rw[← Array.getElem?_toList,hops]; rfl
      have za0:m<n:=Nat.le_of_ble_eq_true hmn
      have zeF:cc<n:=Nat.le_of_ble_eq_true hcn
      have hsl:a.tmps.getD s undef=.slice x l.length k:=by simp[Array.getD_eq_getD_getElem?,hv]
      have wan:∀ (o:Oper) (ys:Nat→Option Value),o.guard=none→True:=fun _ _ _=>trivial
      refine wp_region ?_
      rw[jm,show List.range 2=[0,1]from rfl,wpOps_cons]
      unfold wpOp
      rw[e0]
      simp only
      rw[if_pos (by unfold Region.wanted; rw[hg1])]
      refine .inl ?_
      obtain⟨d1,op1,ty1,zh9,af1,gu1⟩:=o1
      obtain⟨d2,op2,BO,zaW,af2,gu2⟩:=o2
      simp only at O3 ho1 hg1 hd2 ho2 hg2
      subst O3 ho1 hg1 hd2 ho2 hg2
      have hx1:(execOp a.eval ⟨some m,.move (.tmp s),ty1,zh9,af1,none⟩).run P κ.w=.ok (.value (.slice x l.length k)) κ.w:=by
       simp[execOp,Act.eval,hsl]
      unfold Oper.wp
      rw[hx1,Oper.upon_value,wpOps_cons]
      unfold wpOp
      rw[e1]
      simp only
      rw[if_pos (by unfold Region.wanted; rfl)]
      refine .inl ?_
      have mI:(a.put (some m) (.slice x l.length k)).eval (.tmp m)=.slice x l.length k:=by
       have:=hR.size
       simp[Act.eval,Act.put,Array.getD_eq_getD_getElem?,Array.getElem?_setIfInBounds,this,za0]
      have hu:=ux hel
      have vZ:=z0x (c:=yo P xid tab ro) hu hop (.tmp m) (.const (.slice none 0 0)) κ.w x l.length k
      have Ef:(execOp (a.put (some m) (.slice x l.length k)).eval ⟨some cc,.binOp op t (.tmp m) (.const (.slice none 0 0)) ty',BO,zaW,af2,none⟩).run P κ.w=.ok (.value (.bool (if b=true then x.isNone else !x.isNone))) κ.w:=by
       have hex:execOp (a.put (some m) (.slice x l.length k)).eval ⟨some cc,.binOp op t (.tmp m) (.const (.slice none 0 0)) ty',BO,zaW,af2,none⟩ =
        (do Pure.pure (.value (← (do eqGuard op t (.tmp m) (.const (.slice none 0 0)) ((a.put (some m) (.slice x l.length k)).eval (.tmp m)) (.slice none 0 0); binOp op t ((a.put (some m) (.slice x l.length k)).eval (.tmp m)) (.slice none 0 0))))):=rfl
       rw[hex,mI,Sem.run_bind]
       rw[show(do eqGuard op t (.tmp m) (.const (.slice none 0 0)) (.slice x l.length k) (.slice none 0 0); binOp op t (.slice x l.length k) (.slice none 0 0):Sem Value).run P κ.w=_ from vZ]
       rfl
      unfold Oper.wp
      rw[Ef,Oper.upon_value]
      have IF:∀ (q:Nat) (u:Value) (a1:Act) (t:Nat),(a1.put (some q) u).tmps[t]? = if q=t then(if q<a1.tmps.size then some u else none)else a1.tmps[t]? := by
       intro q u a1 t
       simp only[Act.put,Array.getElem?_setIfInBounds]
      have OZ:(a.put (some m) (.slice x l.length k)).tmps.size=n:=by simp[Act.put,hR.size]
      have hs2:((a.put (some m) (.slice x l.length k)).put (some cc) (.bool (if b=true then x.isNone else !x.isNone))).tmps.size=n:=by simp[Act.put,hR.size]
      refine hQ _ (fun t ht => ?_) ?_
      ·have hw:xd (.region id ops false)=[m,cc]:=by simp only[xd,hops,dstsOf]
       rw[hw]at ht
       simp only[List.mem_cons,List.not_mem_nil,or_false,not_or]at ht
       rw[IF,if_neg (fun e=>ht.2 e.symm),IF,if_neg (fun e=>ht.1 e.symm)]
      ·have get:∀ (t:Nat),((a.put (some m) (.slice x l.length k)).put (some cc) (.bool (if b=true then x.isNone else !x.isNone))).tmps[t]? = if cc=t then some (.bool (if b=true then x.isNone else !x.isNone))else if m=t then some (.slice x l.length k)else a.tmps[t]? := by
        intro t
        rw[IF,IF,OZ,if_pos zeF,hR.size,if_pos za0]
       have z1P:∀ {i j:Nat},Nat.beq i j=false→i≠j:=fun h e=>by subst e; simp at h
       cases x with
       | none =>
        obtain⟨hl,Bw⟩:=hvn rfl
        subst hl Bw
        refine .inl ⟨rfl,hs2,hR.defers,fun t d hd => ?_⟩
        rw[get]
        simp only[Fr.get]at hd
        cases h1:Nat.beq cc t with
        | true =>
         rw[h1,cond_true]at hd; cases hd
         rw[if_pos (Nat.eq_of_beq_eq_true h1)]
         refine⟨_,rfl,?_⟩
         cases b<;>exact .bool
        | false =>
         rw[h1,cond_false]at hd
         rw[if_neg (z1P h1)]
         cases h2:Nat.beq m t with
         | true=>rw[h2,cond_true]at hd; cases hd; rw[if_pos (Nat.eq_of_beq_eq_true h2)]; exact⟨_,rfl,.xw⟩
         | false =>
          rw[h2,cond_false]at hd
          rw[if_neg (z1P h2)]
          cases h3:Nat.beq s t with
          | true=>rw[h3,cond_true]at hd; cases hd; rw[← Nat.eq_of_beq_eq_true h3]; exact⟨_,hv,.xw⟩
          | false=>rw[h3,cond_false]at hd; exact hR.get t d hd
       | some x =>
        refine .inr ⟨hs2,hR.defers,fun t d hd => ?_⟩
        rw[get]
        simp only[Fr.get]at hd
        cases h1:Nat.beq cc t with
        | true =>
         rw[h1,cond_true]at hd; cases hd
         rw[if_pos (Nat.eq_of_beq_eq_true h1)]
         refine⟨_,rfl,?_⟩
         cases b<;>exact .bool
        | false =>
         rw[h1,cond_false]at hd
         rw[if_neg (z1P h1)]
         cases h2:Nat.beq m t with
         | true=>rw[h2,cond_true]at hd; cases hd; rw[if_pos (Nat.eq_of_beq_eq_true h2)]; exact⟨_,rfl,yZ⟩
         | false=>rw[h2,cond_false]at hd; rw[if_neg (z1P h2)]; exact hR.get t d hd
    ·cases hp
   ·cases hp
  ·cases hp
 ·cases hp
theorem N7{id:Nat}{b:Code}(hb:∀ b',b≠.loop b')(fr:Fr)(kn:Kn)(st:St){α:Type}(k:EF→T α):UB (yo P xid tab ro) tab n H (.block id b) fr kn st k=UB (yo P xid tab ro) tab n H b fr kn st fun r=>match r.ex with
  | .exit id'=>bif Nat.beq id' id then k { r with ex:=.normal } else k r
  | _=>k r:=by
 cases b<;>first | rfl | exact absurd rfl (hb _)
theorem Yf(hm:(yo P xid tab ro).P.follows .mixedOrders=true)(hT:eR P tab):∀ (code:Code),yM P n H code→∀ {fr:Fr} {kn:Kn} {κ:KS} {a:Act} {α:Type} {k:EF→T α} {r:α},
  (UB (yo P xid tab ro) tab n H code fr kn κ.st k).leads r→Inv κ→Rel κ n fr.get a→u7 kn fr.get →
  ∀ Q:Exit→Act→World→Prop,(∀ (o:EF) (pV:Exit) (a':Act) (κ':KS),(k o).leads r→κ'.st=o.st→Inv κ'→Ext κ κ'→Rel κ' n o.fr.get a'→u7 o.kn o.fr.get→Kept code a a'→(o.q=true→o.st=κ.st)→DR κ' o.ex pV→Q pV a' κ'.w) →
   code.wp P Q a κ.w:=by
 intro code
 induction code with
 | skip=>intro _ fr kn κ a α k r h hI hR hk Q hQ; exact wp_skip (hQ _ _ a κ h rfl hI (Ext.refl κ) hR hk (fun _ _=>rfl) (fun _=>rfl) rfl)
 | exit id=>intro _ fr kn κ a α k r h hI hR hk Q hQ; exact wp_exit (hQ _ _ a κ h rfl hI (Ext.refl κ) hR hk (fun _ _=>rfl) (fun _=>rfl) rfl)
 | ret=>intro _ fr kn κ a α k r h hI hR hk Q hQ; exact wp_ret (hQ _ _ a κ h rfl hI (Ext.refl κ) hR hk (fun _ _=>rfl) (fun _=>rfl) rfl)
 | region id ops draw =>
  intro _ fr kn κ a α k r h hI hR hk Q hQ
  simp only[UB]at h
  obtain⟨z,h0,h⟩:=T.zg.1 h
  obtain⟨κ0,w1,w2,w3,w4,w5⟩:=T0 _ h0 hI hR
  have Bw:=PV _ h0 hk
  rcases YJ Bw h with⟨s,h1,h2⟩ | ⟨d,zO,rfl,h1,h2⟩
  rotate_left
  ·rw[← w2]at h1
   rw[← w1]
   exact Ns (IS hT) w3 w5 Bw h1 fun v a' κ' e1 e2 e3 e4 e5 e6=>hQ ⟨.cg d,[],[],zO,false⟩ _ a' κ' h2 e1 e2 (w4.trans e3) e4 (iF _) (fun t ht=>e5 t fun o ho he=>ht (Xt ho he)) (fun hq=>by cases hq) ⟨v,rfl,e6⟩
  rw[← w2]at h1
  have CT:=Oy Bw h1
  rw[← w1]
  refine(Nk hm (IS hT) w3 w5 Bw h1 fun a' κ' e1 e2 e3 e4 e5=>hQ ⟨.normal,s.fr,s.kn,s.st,quiet s.ks&&(H.frz id).isEmpty⟩ _ a' κ' h2 e1 e2 (w4.trans e3) e4 CT (fun t ht=>e5 t fun o ho he=>ht (Xt ho he)) (fun hq => ?_) rfl).1
  simp only[Bool.and_eq_true]at hq
  have he:H.frz id=[]:=List.isEmpty_iff.1 hq.2
  rw[he]at h0
  cases h0
  exact(Ho h1 hq.1).trans w2
 | seq x y ix iy =>
  intro hl fr kn κ a α k r h hI hR hk Q hQ
  have hlx:yM P n H x:=fun p hp=>hl p (by simp only[vQ,List.mem_append]; exact .inl hp)
  have hly:yM P n H y:=fun p hp=>hl p (by simp only[vQ,List.mem_append]; exact .inr hp)
  have kx:∀ {a a':Act},Kept x a a'→Kept (.seq x y) a a':=fun h s hs=>h s fun e=>hs (by simp only[xd,List.mem_append]; exact .inl e)
  have ky:∀ {a a':Act},Kept y a a'→Kept (.seq x y) a a':=fun h s hs=>h s fun e=>hs (by simp only[xd,List.mem_append]; exact .inr e)
  simp only[UB]at h
  split at h
  ·refine wp_seq (ix hlx h hI hR hk _ fun o pV a' κ' e0 e1 e2 e3 e4 e4' e5 e5q e6 => ?_)
   cases hex:o.ex<;>rw[hex]at e0 e6<;>simp only at e0
   ·cases e6
    refine iy hly (κ:=κ') (e1▸e0) e2 e4 e4' Q fun o' HU a'' Ol f0 f1 f2 f3 f4 He f5 Dy f6=>hQ { o' with q:=o.q&&o'.q } HU a'' Ol f0 f1 f2 (e3.trans f3) f4 He (fun s hs=>(ky f5 s hs).trans (kx e5 s hs)) ?_ f6
    intro hq
    simp only[Bool.and_eq_true]at hq
    exact(Dy hq.2).trans (e1.trans (e5q hq.1))
   ·cases e6; exact hQ o _ a' κ' e0 e1 e2 e3 e4 e4' (kx e5) e5q (by rw[hex]; rfl)
   ·cases e6; exact hQ o _ a' κ' e0 e1 e2 e3 e4 e4' (kx e5) e5q (by rw[hex]; rfl)
   ·obtain⟨v,rfl,hv⟩:=e6
    exact hQ o _ a' κ' e0 e1 e2 e3 e4 e4' (kx e5) e5q (by rw[hex]; exact⟨v,rfl,hv⟩)
  ·rename_i ry hcu
   cases hw:GJ ry with
   | false=>rw[hw]at h; exact h.elim
   | true =>
    rw[hw,cond_true]at h
    obtain⟨z,h1,h2⟩:=T.zg.1 h
    have h1:=DF h1
    refine wp_seq (ix hlx h1 hI hR hk _ fun o pV a' κ' e0 e1 e2 e3 e4 e4' e5 e5q e6 => ?_)
    cases hex:o.ex<;>rw[hex]at e0 e6<;>simp only at e0
    ·cases e6
     cases hq:o.q with
     | false=>rw[hq]at e0; exact e0.elim
     | true =>
      rw[hq,cond_true]at e0
      have xR:o.st=κ.st:=e5q hq
      have hRz:Rel κ' n (iB κ.st ry z).get a':=by
       refine⟨e4.size,e4.defers,fun t d hd => ?_⟩
       obtain⟨k',y',d0,g0,g1,g2,g3⟩:=(Wt (p:=fun _=>true) (zO:=κ.st) ry [] z (fun _ _=>rfl) e0).2 _ (get_mem hd)
       cases g3
       obtain⟨v,q1,q2⟩:=e4.get _ _ g1
       have XA:=List.all_eq_true.1 hw _ g0
       have XA:QO k'=true:=XA
       have hwk:Wk κ' κ':=⟨rfl,rfl,rfl,rfl,fun b d h=>⟨d,h⟩,fun b v e xs h=>.inl h,fun b v e xs h=>h,fun b h=>h⟩
       have wm:Eb [] k'=true:=by cases k'<;>first | rfl | cases XA
       rw[← e1]at g2
       have:=Hr hwk (bs:=[]) wm (fun _ _=>rfl) (zO:=κ'.st) (fun _ _=>rfl) (fun _ h=>by simp[rowAt]at h) g2 q2
       have he:ru κ'.st k' y'=ru κ.st k' y':=by cases k'<;>first | rfl | cases XA
       rw[he]at this
       exact⟨v,q1,this⟩
      have BI:=Vb hR e3 hRz e5
      refine iy hly (κ:=κ') (by rw[e1,xR]; exact h2) e2 BI (iF _) Q fun o' HU a'' Ol f0 f1 f2 f3 f4 He f5 Dy f6=>hQ o' HU a'' Ol f0 f1 f2 (e3.trans f3) f4 He (fun s hs=>(ky f5 s hs).trans (kx e5 s hs)) (fun hq=>(Dy hq).trans (e1.trans xR)) f6
    ·exact e0.elim
    ·exact e0.elim
    ·exact e0.elim
  ·rename_i hcu
   cases hop:opsOf x with
   | none=>rw[hop]at h; exact h.elim
   | some ops =>
    rw[hop]at h
    simp only at h
    cases hp:HP (yo P xid tab ro) n ops fr with
    | none=>rw[hp]at h; exact h.elim
    | some p =>
     rw[hp]at h
     obtain⟨XV,zaA⟩:=h
     obtain⟨id,rfl⟩:∃ id,x=.region id ops false:=by
      cases x with
      | region id ops' draw =>
       cases draw with
       | true=>cases hop
       | false=>cases hop; exact⟨id,rfl⟩
      | _=>cases hop
     refine wp_seq (Io hp hI hR hk _ ?_)
     intro a' X6 zbM
     rcases zbM with⟨hl,BI⟩ | BI
     ·refine iy hly (κ:=κ) (XV hl _ zaA) hI BI (fun t b hb => ?_) Q fun o' HU a'' Ol f0 f1 f2 f3 f4 He f5 Dy f6=>hQ o' HU a'' Ol f0 f1 f2 f3 f4 He (fun s hs=>(ky f5 s hs).trans (kx X6 s hs)) Dy f6
      simp only[Kn.get]at hb
      simp only[Fr.get]
      cases ht:Nat.beq p.c t with
      | true=>rw[ht,cond_true]at hb; rw[cond_true]; cases hb; rfl
      | false=>rw[ht,cond_false]at hb; cases hb
     ·refine iy hly (κ:=κ) zaA hI BI (fun t b hb => ?_) Q fun o' HU a'' Ol f0 f1 f2 f3 f4 He f5 Dy f6=>hQ o' HU a'' Ol f0 f1 f2 f3 f4 He (fun s hs=>(ky f5 s hs).trans (kx X6 s hs)) Dy f6
      simp only[Kn.get]at hb
      simp only[Fr.get]
      cases ht:Nat.beq p.c t with
      | true=>rw[ht,cond_true]at hb; rw[cond_true]; cases hb; rfl
      | false=>rw[ht,cond_false]at hb; cases hb
  ·rename_i ws hcu
   cases hw:ws.all fun w=>Nat.ble κ.st.length w.sh.bs.length with
   | false=>rw[hw]at h; exact h.elim
   | true =>
    rw[hw,cond_true]at h
    obtain⟨rr,nG,h2⟩:=T.zg.1 h
    refine wp_seq (ix hlx nG hI hR hk _ fun o pV a' κ' e0 e1 e2 e3 e4 e4' e5 _ e6 => ?_)
    obtain⟨w,g1,z,g2,g3,g4⟩:=Hd _ _ _ _ _ e0
    have hwl:=List.all_eq_true.1 hw w g1
    obtain⟨κ1,q1,q2,q3,q4,q5⟩:=z0D (n:=n) e3 e2 e4 e6 g3 (Nat.le_of_ble_eq_true hwl) (by rw[e1]; exact g4)
    rw[g2]at h2
    split at h2
    ·exact h2.elim
    rename_i zz hzz
    obtain⟨q5,RY⟩:=q5 zz hzz
    have BI:=Vb hR q4 q5 e5
    rw[← q1]
    cases hex:zz.1<;>rw[hex]at h2 RY<;>simp only at h2
    ·cases RY
     exact iy hly (κ:=κ1) (by rw[q2]; exact h2) q3 BI (iF _) Q fun o' HU a'' Ol f0 f1 f2 f3 f4 He f5 _ f6=>hQ { o' with q:=false } HU a'' Ol f0 f1 f2 (q4.trans f3) f4 He (fun s hs=>(ky f5 s hs).trans (kx e5 s hs)) (fun hq=>by cases hq) f6
    ·cases RY; exact hQ _ _ a' κ1 h2 q2 q3 q4 BI (iF _) (kx e5) (fun hq=>by cases hq) rfl
    ·cases RY; exact hQ _ _ a' κ1 h2 q2 q3 q4 BI (iF _) (kx e5) (fun hq=>by cases hq) rfl
    ·obtain⟨v,rfl,hv⟩:=RY
     exact hQ _ _ a' κ1 h2 q2 q3 q4 BI (iF _) (kx e5) (fun hq=>by cases hq) ⟨v,rfl,hv⟩
 | cond x p q ip iq =>
  intro hl fr kn κ a α k r h hI hR hk Q hQ
  have hlp:yM P n H p:=fun z hz=>hl z (by simp only[vQ,List.mem_append]; exact .inl hz)
  have O6:yM P n H q:=fun z hz=>hl z (by simp only[vQ,List.mem_append]; exact .inr hz)
  have kp:∀ {a a':Act},Kept p a a'→Kept (.cond x p q) a a':=fun h s hs=>h s fun e=>hs (by simp only[xd,List.mem_append]; exact .inl e)
  have kq:∀ {a a':Act},Kept q a a'→Kept (.cond x p q) a a':=fun h s hs=>h s fun e=>hs (by simp only[xd,List.mem_append]; exact .inr e)
  have hQp:=fun(o:EF) (pV:Exit) (a':Act) (κ':KS) f0 f1 f2 f3 f4 He (f5:Kept p a a') Dy f6=>hQ o pV a' κ' f0 f1 f2 f3 f4 He (kp f5) Dy f6
  have hQq:=fun(o:EF) (pV:Exit) (a':Act) (κ':KS) f0 f1 f2 f3 f4 He (f5:Kept q a a') Dy f6=>hQ o pV a' κ' f0 f1 f2 f3 f4 He (kq f5) Dy f6
  simp only[UB]at h
  split at h
  ·rename_i hx
   have hv:qC fr.get x=some (.zU .bool true):=cq hk hx
   exact wp_cond_true (hR.eval hv).bm (ip hlp h hI hR hk Q hQp)
  ·rename_i hx
   have hv:qC fr.get x=some (.zU .bool false):=cq hk hx
   exact wp_cond_false (hR.eval hv).bm (iq O6 h hI hR hk Q hQq)
  ·split at h
   ·split at h
    ·rename_i v hv
     have he:=hv
     rw[show ∀ t,fr.get t=qC fr.get (.tmp t)from fun _=>rfl]at he
     rcases h with⟨rfl,h⟩ | ⟨rfl,h⟩
     ·exact wp_cond_true (hR.eval he).bm (ip hlp h hI hR (tS hk hv) Q hQp)
     ·exact wp_cond_false (hR.eval he).bm (iq O6 h hI hR (tS hk hv) Q hQq)
    ·exact h.elim
   ·exact h.elim
 | block id b ib =>
  intro hl fr kn κ a α k r h hI hR hk Q hQ
  by_cases hb:∃ b',b=.loop b'
  ·obtain⟨b,rfl⟩:=hb
   simp only[UB]at h
   split at h
   ·exact h.elim
   ·rename_i l hll
    cases hc:Nat.ble (gh l.gh fr κ.st).2.length l.sh.bs.length&&EA l.ps (xd b)&&l.ws.all fun w=>Nat.ble l.sh.bs.length w.sh.bs.length with
    | false=>rw[hc]at h; exact h.elim
    | true =>
     rw[hc,cond_true]at h
     simp only[Bool.and_eq_true,List.all_eq_true]at hc
     obtain⟨⟨FI,RW⟩,hc3⟩:=hc
     obtain⟨p,h1,h⟩:=T.zg.1 h
     obtain⟨s,h2,h⟩:=T.zg.1 h
     obtain⟨rr,h3,h4⟩:=T.zg.1 h
     obtain⟨κ1,w1,w2,w3,w4,w5⟩:=nh l.gh fr κ hI hR
     rw[← w2]at h1 h2 FI
     obtain⟨κ2,q1,q2,q3,q4,q5,_⟩:=l.sh.Xi (n:=n) (Ext.refl κ1) w3 w5 (Nat.le_of_ble_eq_true FI) h2
     -- the loop's parameters
     have Eh:Rel κ2 n (iB (l.sh.st s) l.ps p).get a:=by
      refine⟨w5.size,w5.defers,fun t d hd => ?_⟩
      obtain⟨k',y,d0,g0,g1,g2,g3⟩:=(Wt (p:=fun _=>true) (zO:=l.sh.st s) l.ps [] p (fun _ _=>rfl) h1).2 _ (get_mem hd)
      cases g3
      obtain⟨v,e1,e2⟩:=w5.get _ _ g1
      have XA:=List.all_eq_true.1 RW _ g0
      simp only[Bool.and_eq_true]at XA
      have hwk:Wk κ1 κ1:=⟨rfl,rfl,rfl,rfl,fun b d h=>⟨d,h⟩,fun b v e xs h=>.inl h,fun b v e xs h=>h,fun b h=>h⟩
      have wm:Eb [] k'=true:=by cases k'<;>first | rfl | cases XA.1
      have:=Hr hwk (bs:=[]) wm (fun _ _=>rfl) (zO:=κ1.st) (fun _ _=>rfl) (fun _ h=>by simp[rowAt]at h) g2 e2
      have he:ru κ1.st k' y=ru (l.sh.st s) k' y:=by cases k'<;>first | rfl | cases XA.1
      rw[he]at this
      exact⟨v,e1,this.mono q4⟩
     have z1O:Ext κ κ2:=w4.trans q4
     have Uk:κ2.w=κ.w:=q1.trans w1
     rw[← Uk]
     refine wp_block (hl (id,b) (by simp[vQ]) l hll κ2 a p s rr h3 q2 q3 q5 Eh RW (fun w hw=>Nat.le_of_ble_eq_true (hc3 w hw)) _ fun w x pV a' κ' f1 f2 f3 f4 f5 f6 f7 => ?_)
     rw[f2]at h4
     split at h4
     ·exact h4.elim
     rename_i zz hzz
     obtain⟨f6,f8⟩:=f6 zz hzz
     have hR':Rel κ' n (zz.2++(ZE (xd b)++(gh l.gh fr κ.st).1)).get a':=Vb w5 (q4.trans f5) f6 f7
     have Y4:Kept (.block id (.loop b)) a a':=f7
     cases hwx:zz.1<;>rw[hwx]at h4 f8<;>simp only at h4
     ·exact h4.elim
     ·rename_i id'
      cases f8
      simp only[Exit.inBlock]
      cases ZI:Nat.beq id' id with
      | true =>
       rw[ZI,cond_true]at h4
       have:=Nat.eq_of_beq_eq_true ZI
       subst this
       rw[if_pos rfl]
       exact hQ _ _ a' κ' h4 f3 f4 (z1O.trans f5) hR' (iF _) Y4 (fun hq=>by cases hq) rfl
      | false =>
       rw[ZI,cond_false]at h4
       rw[if_neg (fun e=>by subst e; simp at ZI)]
       exact hQ _ _ a' κ' h4 f3 f4 (z1O.trans f5) hR' (iF _) Y4 (fun hq=>by cases hq) rfl
     ·cases f8
      exact hQ _ _ a' κ' h4 f3 f4 (z1O.trans f5) hR' (iF _) Y4 (fun hq=>by cases hq) rfl
     ·obtain⟨v,rfl,hv⟩:=f8
      exact hQ _ _ a' κ' h4 f3 f4 (z1O.trans f5) hR' (iF _) Y4 (fun hq=>by cases hq) ⟨v,rfl,hv⟩
  ·have ZI:∀ b',b≠.loop b':=fun b' e=>hb ⟨b',e⟩
   rw[N7 ZI]at h
   refine wp_block (ib (fun z hz=>hl z (by rw[CE ZI]; exact hz)) h hI hR hk _ fun o pV a' κ' f0 f1 f2 f3 f4 He f5 Dy f6 => ?_)
   have Y4:Kept (.block id b) a a':=f5
   cases hox:o.ex<;>rw[hox]at f0 f6<;>simp only at f0
   ·cases f6; exact hQ o _ a' κ' f0 f1 f2 f3 f4 He Y4 Dy (by rw[hox]; rfl)
   ·rename_i id'
    cases f6
    simp only[Exit.inBlock]
    cases hbq:Nat.beq id' id with
    | true =>
     rw[hbq,cond_true]at f0
     have:=Nat.eq_of_beq_eq_true hbq
     subst this
     rw[if_pos rfl]
     exact hQ _ _ a' κ' f0 f1 f2 f3 f4 He Y4 Dy rfl
    | false =>
     rw[hbq,cond_false]at f0
     rw[if_neg (fun e=>by subst e; simp at hbq)]
     exact hQ o _ a' κ' f0 f1 f2 f3 f4 He Y4 Dy (by rw[hox]; rfl)
   ·cases f6; exact hQ o _ a' κ' f0 f1 f2 f3 f4 He Y4 Dy (by rw[hox]; rfl)
   ·obtain⟨v,rfl,hv⟩:=f6
    exact hQ o _ a' κ' f0 f1 f2 f3 f4 He Y4 Dy (by rw[hox]; exact⟨v,rfl,hv⟩)
 | _=>intro _ fr kn κ a α k r h; simp only[UB]at h; exact h.elim
end
end Go.AM
namespace Go.AM
set_option linter.unusedSectionVars false
variable [uH]
open Go.RowKit
section
variable [BK]
variable {P:Program} {xid:Nat} {tab:iw} {ro:Nat→Bool} {n:Nat} {H:Hints}
theorem IQ{b:Code}{st zO:St}:∀ (ry:List It) (z:wY ry),EA ry (xd b)=true→iB st ry z=iB zO ry z∧∀ q∈iB st ry z,q.1 ∉ xd b:=by
 intro ry
 induction ry with
 | nil=>intro z _; exact⟨rfl,fun q hq=>by cases hq⟩
 | cons i r ih =>
  intro z h
  have hi:∀ y:i.den,YS st i y=YS zO i y∧∀ q∈YS st i y,q.1 ∉ xd b:=by
   intro y
   simp only[EA,List.all_cons,Bool.and_eq_true]at h
   cases i with
   | s t k =>
    obtain⟨h1,_⟩:=h
    have h1:(QO k&&TT (xd b) t)=true:=h1
    simp only[Bool.and_eq_true]at h1
    refine⟨by cases k<;>first | rfl | (simp[QO]at h1),fun q hq => ?_⟩
    simp only[YS,List.mem_singleton]at hq
    subst hq
    intro hm
    have:=h1.2
    simp only[TT,Bool.not_eq_true',List.any_eq_false]at this
    exact this t hm (by simp)
   | _=>exact⟨rfl,fun q hq=>by cases hq⟩
  cases r with
  | nil =>
   have e1:=Jr st i z
   have e2:=Jr zO i z
   exact⟨e1.trans ((hi z).1.trans e2.symm),fun q hq=>(hi z).2 q (by rw[e1]at hq; exact hq)⟩
  | cons j r =>
   have e1:=WS st i j r z
   have e2:=WS zO i j r z
   have hr:EA (j::r) (xd b)=true:=by
    unfold EA at h ⊢
    rw[List.all_cons,Bool.and_eq_true]at h
    exact h.2
   obtain⟨k1,k2⟩:=ih z.2 hr
   obtain⟨g1,g2⟩:=hi z.1
   refine⟨by rw[e1,e2,g1,k1],fun q hq => ?_⟩
   rw[e1]at hq
   rcases List.mem_append.1 hq with hq | hq
   ·exact g2 q hq
   ·exact k2 q hq
theorem z3W(hm:(yo P xid tab ro).P.follows .mixedOrders=true)(hT:eR P tab){l:zI}{b:Code}(hL:yM P n H b)(R:wY l.ps→l.sh.den→T (l.sh.den⊕yv l.ws))
  (round:∀ p s,PT (yo P xid tab ro) tab n H l b p s=R p s) (hF:∀ p s,l.F p s=T.loop (R p) s):Wf P n l b:=by
 intro κ a p s r hr xR hI hR hRp Eh hws Q hQ
 rw[hF,T.fT]at hr
 obtain⟨m,hm'⟩:=hr
 have zel:=fun(st zO:St)=>(IQ (b:=b) (st:=st) (zO:=zO) l.ps p Eh).1
 have z83:∀ (st:St) (t:Nat) (d:D),(iB st l.ps p).get t=some d→t ∉ xd b:=fun st t d hd=>(IQ (b:=b) (st:=st) (zO:=st) l.ps p Eh).2 _ (get_mem hd)
 refine wp_loop_ghost (fun m a' w'=>∃ s',T.Iter (R p) m s' r∧∃ κ':KS,κ'.w=w'∧κ'.st=l.sh.st s'∧Inv κ'∧Ext κ κ'∧Rel κ' n (l.sh.fr s').get a'∧Rel κ' n (iB (l.sh.st s) l.ps p).get a'∧Kept b a a') m
  ⟨s,hm',κ,rfl,xR,hI,Ext.refl κ,hR,hRp,fun _ _=>rfl⟩ ?_
 rintro m a1 w1 ⟨s1,hit,κ1,rfl,g4,g5,g6,g7a,g7b,g8⟩
 have g7:Rel κ1 n (l.sh.fr s1++iB (l.sh.st s1) l.ps p).get a1:=⟨g7a.size,g7a.defers,fun t d hd=>by
  rcases Vs hd with hd | hd
  ·exact g7a.get t d hd
  ·rw[zel _ (l.sh.st s)]at hd; exact g7b.get t d hd⟩
 cases hit with
 | done h1 =>
  rw[← round]at h1
  refine Yf hm hT b hL (κ:=κ1) (by rw[g4]; exact h1) g5 g7 (iF _) _ fun o pV a' κ' e0 e1 e2 e3 e4 e4' e5 _ e6 => ?_
  have fin:∀ exo,DR κ' exo pV→(Hn l.ws exo (Ys exo o.fr) o.st).leads r→Q pV a' κ'.w:=fun exo e6 e0=>by
   obtain⟨w,k1,x,k2,k3,k4⟩:=Hd _ _ _ _ _ e0
   have hlen:κ1.st.length≤w.sh.bs.length:=by rw[g4]; exact Nat.le_trans (mH.KT _ _) (hws w k1)
   obtain⟨κ2,q1,q2,q3,q4,q5⟩:=z0D (n:=n) e3 e2 e4 e6 k3 hlen (by rw[e1]; exact k4)
   have:=hQ w x pV a' κ2 k1 k2 q2 q3 (g6.trans q4) q5 (fun t ht=>(e5 t ht).trans (g8 t ht))
   rw[q1]at this
   exact this
  have LQ:∀ {z:l.sh.den⊕yv l.ws},((Hn l.ws o.ex (Ys o.ex o.fr) o.st).bind fun r=>T.ret (Sum.inr r:l.sh.den⊕yv l.ws)).leads z→z=Sum.inr r→(Hn l.ws o.ex (Ys o.ex o.fr) o.st).leads r:=by
   intro z h hz
   obtain⟨y,h1,h2⟩:=T.zg.1 h
   have h2:(Sum.inr y:l.sh.den⊕yv l.ws)=z:=h2
   rw[hz]at h2
   cases h2
   exact h1
  cases hox:o.ex<;>rw[hox]at e0 e6 LQ<;>simp only at e0
  ·obtain⟨y,_,h2⟩:=T.zg.1 e0
   have h2:(Sum.inl y:l.sh.den⊕yv l.ws)=Sum.inr r:=h2
   cases h2
  ·have q:=fin _ e6 (LQ e0 rfl); cases e6; exact q
  ·have q:=fin _ e6 (LQ e0 rfl); cases e6; exact q
  ·have q:=fin _ e6 (LQ e0 rfl); obtain⟨v,rfl,hv⟩:=e6; exact q
 | step h1 hit =>
  rename_i m s2
  rw[← round]at h1
  refine Yf hm hT b hL (κ:=κ1) (by rw[g4]; exact h1) g5 g7 (iF _) _ fun o pV a' κ' e0 e1 e2 e3 e4 e4' e5 _ e6 => ?_
  have MD:((Hn l.ws o.ex (Ys o.ex o.fr) o.st).bind fun r=>T.ret (Sum.inr r:l.sh.den⊕yv l.ws)).leads (Sum.inl s2)→False:=by
   intro h
   obtain⟨y,h1,h2⟩:=T.zg.1 h
   have h2:(Sum.inr y:l.sh.den⊕yv l.ws)=Sum.inl s2:=h2
   cases h2
  cases hox:o.ex<;>rw[hox]at e0 e6 MD<;>simp only at e0
  ·cases e6
   obtain⟨y,h1,h2⟩:=T.zg.1 e0
   have h2:(Sum.inl y:l.sh.den⊕yv l.ws)=Sum.inl s2:=h2
   cases h2
   have hlen:κ1.st.length≤l.sh.bs.length:=by rw[g4]; exact mH.KT _ _
   obtain⟨κ2,q1,q2,q3,q4,q5,_⟩:=l.sh.Xi (n:=n) e3 e2 e4 hlen (by rw[e1]; exact h1)
   refine⟨m,Nat.lt_succ_self _,s2,hit,κ2,q1,q2,q3,g6.trans q4,q5,⟨q5.size,q5.defers,fun t d hd => ?_⟩,fun t ht=>(e5 t ht).trans (g8 t ht)⟩
   obtain⟨v,r1,r2⟩:=g7b.get t d hd
   exact⟨v,(e5 t (z83 _ t d hd)).trans r1,r2.mono q4⟩
  ·exact(MD e0).elim
  ·exact(MD e0).elim
  ·exact(MD e0).elim
end
section
variable {P:Program} {xid:Nat} {tab:iw} {ro:Nat→Bool} {n:Nat} {H:Hints}
theorem Vk{κ:KS}(hI:Inv κ):∀ (rs:List Ty) (ds:List D) (x:UI rs) (vs:List Value),(Pl κ.st rs ds).leads x→xz κ ds vs→xz κ.all (QP rs x) vs∧∀ d∈QP rs x,VO d=true
 | [],[],x,vs,h,hd=>by rw[hd.qI]; exact⟨.nil,fun d hd=>by cases hd⟩
 | [],_::_,x,vs,h,hd=>h.elim
 | [τ],[],x,vs,h,hd=>h.elim
 | [τ],[d],x,vs,h,hd=>by
  obtain⟨v,us,rfl,h1,h2⟩:=hd.cons_inv
  rw[h2.qI]
  refine⟨.cons (Xs hI h1 h) .nil,fun d hd => ?_⟩
  have hd:d∈[D.zU τ x]:=hd
  rw[List.mem_singleton]at hd
  subst hd; rfl
 | [τ],_::_::_,x,vs,h,hd=>h.elim
 | τ::σ::r,[],x,vs,h,hd=>h.elim
 | τ::σ::r,d::ds,x,vs,h,hd=>by
  obtain⟨y,h1,h2⟩:=T.zg.1 h
  obtain⟨z,h3,h4⟩:=T.zg.1 h2
  cases h4
  obtain⟨v,us,rfl,k1,k2⟩:=hd.cons_inv
  obtain⟨g1,g2⟩:=Vk hI (σ::r) ds z us h3 k2
  refine⟨.cons (Xs hI k1 h1) g1,fun d hd => ?_⟩
  rcases List.mem_cons.1 hd with rfl | hd
  ·rfl
  ·exact g2 d hd
theorem zcV(hm:(yo P xid tab ro).P.follows .mixedOrders=true)(hT:eR P tab){f:Nat}{fn:Func}{code:Code}(hf:P.funcs[f]? = some fn)(hb:fn.body=some code)
  (hn:(fn.name == "runtime.NumGoroutine")=false) (hL:yM P fn.ntmps H code) {d:BM} (h:∀ x,Ri (yo P xid tab ro) tab H fn code d x=d.F x):zF P f d:=by
 intro κ x qj y xR hy hI ha
 rw[← h]at hy
 unfold Ri at hy
 cases hle:Nat.ble (V0 d.ps x).length fn.ntmps with
 | false=>rw[hle]at hy; exact hy.elim
 | true =>
  rw[hle,cond_true]at hy
  have YL:=Nat.le_of_ble_eq_true hle
  refine .inl ⟨k9 hf hn (by rw[hb]; rfl) κ.w,calls_of_wp hf hb ?_⟩
  have hR:=Wd ha YL
  refine Yf hm hT code hL (κ:=κ) (by rw[xR]; exact hy) hI hR (iF _) _ fun o pV a' κe e0 e1 e2 e3 e4 _ _ _ e6 => ?_
  have fin:(pV=.normal∨pV=.ret)→((dw (yo P xid tab ro) o.fr o.st fn.results.toList).bind fun ds=>Pl o.st d.rs ds).leads y →
    bodyPost P fn (fun e w'=>∃ κ':KS,κ'.w=w'∧κ'.st=[]∧Inv κ'∧Ext κ κ'∧vH κ' (.ret (QP d.rs y)) e) pV a' κe.w:=by
   intro hex h2
   obtain⟨ds,g1,g2⟩:=T.zg.1 h2
   rw[← e1]at g1 g2
   obtain⟨vs,k1,k2⟩:=nX e2 e4 g1
   obtain⟨q1,q2⟩:=OW hI xR e2 e3
   obtain⟨hl,zfl⟩:=Vk e2 d.rs ds y vs g2 k2
   have M5:xz (κe.bare (P9 κe)) (QP d.rs y) vs:=⟨hl.1,fun i h1 h2=>pq (zfl _ (List.getElem_mem h1)) (hl.2 i h1 h2)⟩
   have Ud:a'.defers=[]∧∃ v,(results fn a'.tmps).run P κe.w=.ok v κe.w∧∃ κ':KS,κ'.w=κe.w∧κ'.st=[]∧Inv κ'∧Ext κ κ'∧vH κ' (.ret (QP d.rs y)) (.returned v) :=
    ⟨e4.defers,_,k1,κe.bare (P9 κe),rfl,rfl,q1,q2,_,rfl,Q7 M5⟩
   rcases hex with rfl | rfl
   ·exact Ud
   ·exact Ud
  cases hox:o.ex<;>rw[hox]at e0 e6<;>simp only at e0
  ·exact fin (.inl e6) e0
  ·exact e0.elim
  ·exact fin (.inr e6) e0
  ·exact e0.elim
theorem fM{d:BM}{f:Nat}(b:(uD d.ps→T (UI d.rs))→uD d.ps→T (UI d.rs))(hF:∀ x,d.F x=T.fix b x)(h:∀ F:uD d.ps→T (UI d.rs),zF P f ⟨d.ps,d.rs,F⟩→zF P f ⟨d.ps,d.rs,b F⟩):zF P f d:=by
 have hN:∀ m,zF P f ⟨d.ps,d.rs,T.OH b m⟩:=by
  intro m
  induction m with
  | zero=>intro κ x qj y _ hy; exact hy.elim
  | succ m ih=>exact h _ ih
 intro κ x qj y xR hy hI ha
 rw[hF,T.WH]at hy
 obtain⟨m,hm⟩:=hy
 exact hN m κ x qj y xR (hm m (Nat.le_refl _)) hI ha
theorem WM{fr:Fr}:∀ {n i:Nat} {ds:List D},Lj fr n i=some ds→ds.length=n∧∀ j d,ds[j]? = some d→fr.get (i+j)=some d
 | 0,i,ds,h=>by cases h; exact⟨rfl,fun j d hj=>by simp at hj⟩
 | n+1,i,ds,h=>by
  simp only[Lj]at h
  split at h
  ·rename_i d hd
   split at h
   ·rename_i r hr
    cases h
    obtain⟨h1,h2⟩:=WM hr
    refine⟨by simp[h1],fun j e hj => ?_⟩
    cases j with
    | zero=>simp at hj; subst hj; exact hd
    | succ j=>have:=h2 j e (by simpa using hj); rw[show i+(j+1)=i+1+j by omega]; exact this
   ·cases h
  ·cases h
theorem z6r(hm:(yo P xid tab ro).P.follows .mixedOrders=true)(hT:eR P tab){f:Nat}{fn:Func}{code:Code}(hf:P.funcs[f]? = some fn)(hb:fn.body=some code)
  (hn:(fn.name == "runtime.NumGoroutine")=false) (hL:yM P fn.ntmps H code) {d:cP} (h:∀ x,I1 (yo P xid tab ro) tab H fn code d x=d.F x):vT P f d:=by
 intro κ x qj y xR hy hI hlen hR0
 rw[← h]at hy
 unfold I1 at hy
 cases hle:Nat.ble d.ks.length fn.ntmps&&Nat.ble d.sh.bs.length d.out.bs.length with
 | false=>rw[hle]at hy; exact hy.elim
 | true =>
  rw[hle,cond_true]at hy
  simp only[Bool.and_eq_true]at hle
  have R0:=Nat.le_of_ble_eq_true hle.1
  have z8i:=Nat.le_of_ble_eq_true hle.2
  refine .inl ⟨k9 hf hn (by rw[hb]; rfl) κ.w,calls_of_wp hf hb ?_⟩
  have hR:Rel κ fn.ntmps (d.sh.fr x).get { tmps:=qj.toArray++Array.replicate (fn.ntmps-qj.toArray.size) undef,defers:=[] }:=by
   refine⟨by simp; omega,rfl,fun s e hs => ?_⟩
   obtain⟨v,h1,h2⟩:=hR0.get s e hs
   refine⟨v,?_,h2⟩
   have qu:=(Array.getElem?_eq_some_iff.1 h1).1
   rw[Array.getElem?_append_left qu]
   exact h1
  refine Yf hm hT code hL (κ:=κ) (by rw[xR]; exact hy) hI hR (iF _) _ fun o pV a' κe e0 e1 e2 e3 e4 _ _ _ e6 => ?_
  have fin:(pV=.normal∨pV=.ret)→((dw (yo P xid tab ro) o.fr o.st fn.results.toList).bind fun ds=>bif Nat.beq ds.length d.nr then(d.out.un (wL ds 0) o.st).bind fun y=>bif (eE d.nr (d.out.fr y)).isSome then T.ret y else .fail else .fail).leads y →
    bodyPost P fn (fun e w'=>∃ (κ':KS) (ds:List D),κ'.w=w'∧κ'.st=d.out.st y∧Inv κ'∧Ext κ κ'∧eE d.nr (d.out.fr y)=some ds∧vH κ' (.ret ds) e) pV a' κe.w:=by
   intro hex h2
   obtain⟨ds,g1,g2⟩:=T.zg.1 h2
   cases hnr:Nat.beq ds.length d.nr with
   | false=>rw[hnr]at g2; exact g2.elim
   | true =>
    rw[hnr,cond_true]at g2
    obtain⟨y',g5,g3⟩:=T.zg.1 g2
    cases nk:eE d.nr (d.out.fr y')with
    | none=>rw[nk]at g3; exact g3.elim
    | some Yr =>
     rw[nk]at g3
     have hyy:y'=y:=g3
     subst hyy
     rw[← e1]at g1 g5
     obtain⟨vs,k1,k2⟩:=nX e2 e4 g1
     have hRr:Rel κe vs.length (wL ds 0).get { tmps:=vs.toArray,defers:=[] }:=by
      have:=Wd (n:=vs.length) k2 (by rw[k2.1]; exact Nat.le_refl _)
      simpa[show(BK.df:List Deferred)=[]from rfl]using this
     obtain⟨κ2,q1,q2,q3,q4,q5,_⟩:=d.out.Xi (κ0:=κ) e3 e2 hRr (by rw[xR]; exact Nat.le_trans (mH.KT _ _) z8i) g5
     obtain⟨l1,l2⟩:=WM nk
     have hds:xz κ2 Yr vs:=by
      refine⟨by rw[l1,← k2.1]; exact(Nat.eq_of_beq_eq_true hnr).symm,fun i h1 h2 => ?_⟩
      have:=l2 i Yr[i] (List.getElem?_eq_getElem h1)
      rw[Nat.zero_add]at this
      obtain⟨v,r1,r2⟩:=q5.get i _ this
      have r1:vs.toArray[i]? = some v:=r1
      have:vs[i]? = some v:=by simpa using r1
      rw[List.getElem?_eq_getElem h2]at this
      cases this
      exact r2
     have Ud:a'.defers=[]∧∃ v,(results fn a'.tmps).run P κe.w=.ok v κe.w∧∃ (κ':KS) (ds:List D),κ'.w=κe.w∧κ'.st=d.out.st y'∧Inv κ'∧Ext κ κ'∧eE d.nr (d.out.fr y')=some ds∧vH κ' (.ret ds) (.returned v) :=
      ⟨e4.defers,_,k1,κ2,Yr,q1,q2,q3,q4,nk,_,rfl,Q7 hds⟩
     rcases hex with rfl | rfl
     ·exact Ud
     ·exact Ud
  cases hox:o.ex<;>rw[hox]at e0 e6<;>simp only at e0
  ·exact fin (.inl e6) e0
  ·exact e0.elim
  ·exact fin (.inr e6) e0
  ·exact e0.elim
theorem LM{d:cP}{f:Nat}(b:(d.sh.den→T d.out.den)→d.sh.den→T d.out.den)(hF:∀ x,d.F x=T.fix b x)(h:∀ F:d.sh.den→T d.out.den,vT P f ⟨d.ks,d.sh,d.gZ,d.out,d.nr,F⟩→vT P f ⟨d.ks,d.sh,d.gZ,d.out,d.nr,b F⟩):vT P f d:=by
 have hN:∀ m,vT P f ⟨d.ks,d.sh,d.gZ,d.out,d.nr,T.OH b m⟩:=by
  intro m
  induction m with
  | zero=>intro κ x qj y _ hy; exact hy.elim
  | succ m ih=>exact h _ ih
 intro κ x qj y xR hy hI hl ha
 rw[hF,T.WH]at hy
 obtain⟨m,hm⟩:=hy
 exact hN m κ x qj y xR (hm m (Nat.le_refl _)) hI hl ha
theorem z6g{κ κe:KS}{a':Act}{fn:Func}{o:EF}{nr:Nat}{out:mH}{y:out.den}(e1:κe.st=o.st)(e2:Inv κe)(e3:Ext κ κe)(e4:Rel κe fn.ntmps o.fr.get a')(hlen:κ.st.length≤out.bs.length)
  (h:((dw (yo P xid tab ro) o.fr o.st fn.results.toList).bind fun ds=>bif Nat.beq ds.length nr then(out.un (wL ds 0) o.st).bind fun y=>bif (eE nr (out.fr y)).isSome then T.ret y else .fail else .fail).leads y) :
  ∃ v,(results fn a'.tmps).run P κe.w=.ok v κe.w∧∃ (κ':KS) (ds:List D),κ'.w=κe.w∧κ'.st=out.st y∧Inv κ'∧Ext κ κ'∧eE nr (out.fr y)=some ds∧vH κ' (.ret ds) (.returned v):=by
 obtain⟨ds,g1,g2⟩:=T.zg.1 h
 cases hnr:Nat.beq ds.length nr with
 | false=>rw[hnr]at g2; exact g2.elim
 | true =>
  rw[hnr,cond_true]at g2
  obtain⟨y',g5,g3⟩:=T.zg.1 g2
  cases nk:eE nr (out.fr y')with
  | none=>rw[nk]at g3; exact g3.elim
  | some Yr =>
   rw[nk]at g3
   have hyy:y'=y:=g3
   subst hyy
   rw[← e1]at g1 g5
   obtain⟨vs,k1,k2⟩:=nX e2 e4 g1
   have hRr:Rel κe vs.length (wL ds 0).get { tmps:=vs.toArray,defers:=[] }:=by
    have:=Wd (n:=vs.length) k2 (by rw[k2.1]; exact Nat.le_refl _)
    simpa[show(BK.df:List Deferred)=[]from rfl]using this
   obtain⟨κ2,q1,q2,q3,q4,q5,_⟩:=out.Xi (κ0:=κ) e3 e2 hRr hlen g5
   obtain⟨l1,l2⟩:=WM nk
   have hds:xz κ2 Yr vs:=by
    refine⟨by rw[l1,← k2.1]; exact(Nat.eq_of_beq_eq_true hnr).symm,fun i h1 h2 => ?_⟩
    have:=l2 i Yr[i] (List.getElem?_eq_getElem h1)
    rw[Nat.zero_add]at this
    obtain⟨v,r1,r2⟩:=q5.get i _ this
    have r1:vs.toArray[i]? = some v:=r1
    have:vs[i]? = some v:=by simpa using r1
    rw[List.getElem?_eq_getElem h2]at this
    cases this
    exact r2
   exact⟨_,k1,κ2,Yr,q1,q2,q3,q4,nk,_,rfl,Q7 hds⟩
theorem z6o{κ κe:KS}{cg:mH}{z:cg.den}{st:St}{t:Nat}{d:D}{u:Value}(e1:κe.st=st)(e2:Inv κe)(e3:Ext κ κe)(hlen:κ.st.length≤cg.bs.length)(hu:RD κe d u)
  (h:((cg.un [(0,some d)] st).bind fun z=>match(cg.fr z).get 0 with | some _=>T.ret z | none=>.fail).leads z) :
  ∃ (κ':KS) (p:D),κ'.w=κe.w∧κ'.st=cg.st z∧Inv κ'∧Ext κ κ'∧(cg.fr z).get 0=some p∧vH κ' (.cg (.iface t p)) (.panicked [{ v:=.iface t u,recovered:=false }]):=by
 obtain⟨z',g1,g2⟩:=T.zg.1 h
 split at g2
 ·rename_i p hp
  have hzz:z'=z:=g2
  subst hzz
  have BI:Rel κe 1 (Fr.get [(0,some d)]) { tmps := #[u],defers:=[] }:=by
   refine⟨rfl,rfl,fun s d' hd => ?_⟩
   simp only[Fr.get]at hd
   cases hb:Nat.beq 0 s with
   | true =>
    rw[hb,cond_true]at hd
    cases hd
    have:=Nat.eq_of_beq_eq_true hb
    subst this
    exact⟨u,rfl,hu⟩
   | false=>rw[hb,cond_false]at hd; cases hd
  rw[← e1]at g1
  obtain⟨κ2,q1,q2,q3,q4,q5,_⟩:=cg.Xi (κ0:=κ) e3 e2 BI hlen g1
  obtain⟨v',r1,r2⟩:=q5.get 0 p hp
  cases r1
  exact⟨κ2,p,q1,q2,q3,q4,hp,_,rfl,.iface t p _ r2⟩
 ·exact g2.elim
theorem z5C(hm:(yo P xid tab ro).P.follows .mixedOrders=true)(hT:eR P tab){f:Nat}{fn:Func}{code:Code}(hf:P.funcs[f]? = some fn)(hb:fn.body=some code)
  (hn:(fn.name == "runtime.NumGoroutine")=false) (hL:yM P fn.ntmps H code) {d:mB} (h:∀ x,EU (yo P xid tab ro) tab H fn code d x=d.F x):Gx P f d:=by
 intro κ x qj y xR hy hI hlen hR0
 rw[← h]at hy
 unfold EU at hy
 cases hle:Nat.ble d.ks.length fn.ntmps&&Nat.ble d.sh.bs.length d.out.bs.length&&Nat.ble d.sh.bs.length d.cg.bs.length with
 | false=>rw[hle]at hy; exact hy.elim
 | true =>
  rw[hle,cond_true]at hy
  simp only[Bool.and_eq_true]at hle
  have R0:=Nat.le_of_ble_eq_true hle.1.1
  have z8i:=Nat.le_of_ble_eq_true hle.1.2
  have zfh:=Nat.le_of_ble_eq_true hle.2
  refine .inl ⟨k9 hf hn (by rw[hb]; rfl) κ.w,calls_of_wp hf hb ?_⟩
  have hR:Rel κ fn.ntmps (d.sh.fr x).get { tmps:=qj.toArray++Array.replicate (fn.ntmps-qj.toArray.size) undef,defers:=[] }:=by
   refine⟨by simp; omega,rfl,fun s e hs => ?_⟩
   obtain⟨v,h1,h2⟩:=hR0.get s e hs
   refine⟨v,?_,h2⟩
   have qu:=(Array.getElem?_eq_some_iff.1 h1).1
   rw[Array.getElem?_append_left qu]
   exact h1
  refine Yf hm hT code hL (κ:=κ) (by rw[xR]; exact hy) hI hR (iF _) _ fun o pV a' κe e0 e1 e2 e3 e4 _ _ _ e6 => ?_
  have fin:(pV=.normal∨pV=.ret)→((dw (yo P xid tab ro) o.fr o.st fn.results.toList).bind fun ds=>bif Nat.beq ds.length d.nr then(d.out.un (wL ds 0) o.st).bind fun y=>bif (eE d.nr (d.out.fr y)).isSome then T.ret (Sum.inl y:d.out.den⊕d.cg.den)else .fail else .fail).leads y →
    bodyPost P fn (fun e w'=>∃ κ':KS,κ'.w=w'∧Inv κ'∧Ext κ κ'∧((∃ (y':d.out.den) (ds:List D),y=.inl y'∧κ'.st=d.out.st y'∧eE d.nr (d.out.fr y')=some ds∧vH κ' (.ret ds) e) ∨
     ∃ (z:d.cg.den) (p:D),y=.inr z∧κ'.st=d.cg.st z∧(d.cg.fr z).get 0=some p∧vH κ' (.cg (.iface d.pt p)) e)) pV a' κe.w:=by
   intro hex h2
   have:∃ y',y=.inl y'∧((dw (yo P xid tab ro) o.fr o.st fn.results.toList).bind fun ds=>bif Nat.beq ds.length d.nr then(d.out.un (wL ds 0) o.st).bind fun y=>bif (eE d.nr (d.out.fr y)).isSome then T.ret y else .fail else .fail).leads y':=by
    obtain⟨ds,g1,g2⟩:=T.zg.1 h2
    cases hnr:Nat.beq ds.length d.nr with
    | false=>rw[hnr]at g2; exact g2.elim
    | true =>
     rw[hnr,cond_true]at g2
     obtain⟨y',g5,g3⟩:=T.zg.1 g2
     cases nk:eE d.nr (d.out.fr y')with
     | none=>rw[nk]at g3; exact g3.elim
     | some Yr =>
      rw[nk]at g3
      have g3:Sum.inl y'=y:=g3
      refine⟨y',g3.symm,T.zg.2 ⟨ds,g1,?_⟩⟩
      rw[hnr,cond_true]
      refine T.zg.2 ⟨y',g5,?_⟩
      rw[nk]; rfl
   obtain⟨y',rfl,hy2⟩:=this
   obtain⟨v,k1,κ',ds,q1,q2,q3,q4,q5,q6⟩:=z6g e1 e2 e3 e4 (by rw[xR]; exact Nat.le_trans (mH.KT _ _) z8i) hy2
   have Ud:a'.defers=[]∧∃ v,(results fn a'.tmps).run P κe.w=.ok v κe.w∧∃ κ':KS,κ'.w=κe.w∧Inv κ'∧Ext κ κ'∧((∃ (y'':d.out.den) (ds:List D),(Sum.inl y':d.out.den⊕d.cg.den)=.inl y''∧κ'.st=d.out.st y''∧eE d.nr (d.out.fr y'')=some ds∧vH κ' (.ret ds) (.returned v)) ∨
     ∃ (z:d.cg.den) (p:D),(Sum.inl y':d.out.den⊕d.cg.den)=.inr z∧κ'.st=d.cg.st z∧(d.cg.fr z).get 0=some p∧vH κ' (.cg (.iface d.pt p)) (.returned v)) :=
    ⟨e4.defers,v,k1,κ',q1,q3,q4,.inl ⟨y',ds,rfl,q2,q5,q6⟩⟩
   rcases hex with rfl | rfl
   ·exact Ud
   ·exact Ud
  cases hox:o.ex<;>rw[hox]at e0 e6<;>simp only at e0
  ·exact fin (.inl e6) e0
  ·exact e0.elim
  ·exact fin (.inr e6) e0
  ·rename_i p
   cases p<;>simp only at e0<;>first | exact e0.elim | skip
   rename_i t v
   cases ht:Nat.beq t d.pt with
   | false=>rw[ht]at e0; exact e0.elim
   | true =>
    rw[ht,cond_true]at e0
    have:=Nat.eq_of_beq_eq_true ht
    subst this
    obtain⟨u,rfl,hv⟩:=e6
    cases hv with
    | iface _ _ u hu =>
     have:∃ z,y=.inr z∧((d.cg.un [(0,some v)] o.st).bind fun z=>match(d.cg.fr z).get 0 with | some _=>T.ret z | none=>.fail).leads z:=by
      obtain⟨z,g1,g2⟩:=T.zg.1 e0
      split at g2
      ·rename_i p hp
       have g2:Sum.inr z=y:=g2
       refine⟨z,g2.symm,T.zg.2 ⟨z,g1,?_⟩⟩
       rw[hp]; rfl
      ·exact g2.elim
     obtain⟨z,rfl,hz2⟩:=this
     obtain⟨κ',p,q1,q2,q3,q4,q5,q6⟩:=z6o (t:=d.pt) e1 e2 e3 (by rw[xR]; exact Nat.le_trans (mH.KT _ _) zfh) hu hz2
     exact⟨e4.defers,κ',q1,q3,q4,.inr ⟨z,p,rfl,q2,q5,q6⟩⟩
end
noncomputable def QE:Nat→Code→Option Code
 | k,.block id (.loop b)=>if k=id then some b else QE k b
 | k,.seq a b=>match QE k a with | some x=>some x | none=>QE k b
 | k,.cond _ a b=>match QE k a with | some x=>some x | none=>QE k b
 | k,.block _ a=>QE k a
 | _,_=>none
def BC(P:Program)(n:Nat)(H:Hints):List (Nat×Code)→Prop
 | []=>True
 | p::r=>(∀ l,H.loop p.1=some l→Wf P n l p.2)∧BC P n H r
theorem zm{P:Program}{n:Nat}{H:Hints}:BC P n H []:=trivial
theorem zN{P:Program}{n:Nat}{H:Hints}{id:Nat}{b:Code}{r:List (Nat×Code)}{l:zI}(hl:H.loop id=some l)(h:Wf P n l b)(t:BC P n H r):BC P n H ((id,b)::r) :=
 ⟨fun l' M5=>(Option.some.inj (hl.symm.trans M5))▸h,t⟩
theorem W2{P:Program}{n:Nat}{H:Hints}{code:Code}{L:List (Nat×Code)}(h:vQ code=L)(ha:BC P n H L):yM P n H code:=by
 intro p hp
 rw[h]at hp
 clear h
 induction L with
 | nil=>cases hp
 | cons q r ih =>
  rcases List.mem_cons.1 hp with rfl | hp
  ·exact ha.1
  ·exact ih ha.2 hp
end Go.AM
namespace Go.AM
set_option linter.unusedSectionVars false
variable [uH]
open Go.RowKit Go.ChangeShapes
def D4:(τs:List Ty)→Yv τs→uD (τs.map .ty)
 | [],_=>()
 | [_],x=>x.1
 | _::σ::r,x=>(x.1,D4 (σ::r) x.2)
theorem Ge:∀ (τs:List Ty) (x:Yv τs),V0 (τs.map .ty) (D4 τs x)=mkD τs x
 | [],_=>rfl
 | [_],_=>rfl
 | τ::σ::r,x=>congrArg (D.zU τ x.1 :: ·) (Ge (σ::r) x.2)
section
variable {H:Type} {enc:TypeId×Value→H} {P:Program} {xid m n:Nat}
theorem z6C{f:Nat}{fn:Func}(τs:List Ty){F:uD (τs.map .ty)→T (UI [.bool])}(hS:zF P f ⟨τs.map .ty,[.bool],F⟩)(hf:P.funcs[f]? = some fn)(hbd:fn.body.isNone=false) (N3:(fn.name == "runtime.NumGoroutine")=false)
  (hl:laidOutB P=true) (xid m n:Nat) (hts:Wn P fn.params.toList=true) (hτ:fn.params.toList.map (BO P xid n)=τs.map some) (hx:FH P xid m=true)
  {bt:TypeId} (hr:fn.resultTypes = #[bt]) (hbt:P.underlying bt=some .bool) {s:ChangeSpec} (hv:s.vars=[]) (hs:∀ ds:List (DataW H),ds.length=τs.length→s.fn H ds={ results:=[.lit (.bool true)],args:=ds })
  (B:Og H) {lim:Nat} (law:∀ x:Yv τs,wfL τs x→bkL τs x≤lim→(F (D4 τs x)).run=some true)
  {fresh handsOn:Bool} {W:World} {base:Nat} {args:Array Value} {ds gs:List (DataW H)} {before:List MemPlace}
  (Yx:∀ (j:Nat) t v,fn.params[j]? = some t→args[j]? = some v→Value.okWide P W .any base t v)
  (hW:DataW.Whole enc P fn.params.toList s.vars false W args.toList ds gs before) (hk:B.bs (ds++gs)≤lim) (hG:QF W fun k=>k<W.heap.size) :
  Calls P f args W fun e W'=>∃ v,e=.returned v∧s.post enc P fn false fresh handsOn false W args v W':=by
 refine Nb (BM.snd hS) hf hbd N3 hl xid m n τs hts hτ hx hr hbt hv hs B (fun x hw hb => ?_) Yx hW hk hG
 have h:=T.ud.1 (law x hw hb)
 show(BM.S _ (mkD τs x) []).leads _
 rw[← Ge τs x]
 exact T.zg.2 ⟨D4 τs x,HZ [] _ _,T.zg.2 ⟨true,h,rfl⟩⟩
end
end Go.AM
namespace Go.AM
set_option linter.unusedSectionVars false
variable [uH]
open Go.RowKit
theorem Un{P:Program}{g:Nat}{fn:Func}{args:Array Value}(hf:P.funcs[g]? = some fn) (hn:(fn.name == "runtime.NumGoroutine")=false) (hb:fn.body.isNone=false) (w:World) :
  (callFunc g args).run P w=.ok (.enter g args) w:=k9 hf hn hb w
def KS.grown(κ:KS)(w':World):KS:={ κ with w:=w',ok:=fun k=>κ.ok k∨(κ.w.heap.size≤k∧k<w'.heap.size) }
theorem lE{P:Program}{g:Nat}{fn:Func}{d:BM}(hf:P.funcs[g]? = some fn) (hn:(fn.name == "runtime.NumGoroutine")=false) (hb:fn.body.isNone=false)
  (H:∀ (κ:KS) (x:uD d.ps) (qj:List Value) (y:UI d.rs),(d.F x).leads y→Inv κ→xz κ (V0 d.ps x) qj →
   Calls P g qj.toArray κ.w fun e w'=>Below κ.w.heap.size κ.w w'∧(Ext κ (κ.grown w')→vH (κ.grown w') (.ret (QP d.rs y)) e)):zF P g d:=by
 intro κ x qj y xR hy hI ha
 refine .inl ⟨Un hf hn hb κ.w,(H κ x qj y hy hI ha).mono ?_⟩
 rintro e w' ⟨hB,he⟩
 have VL:κ.ph=[]:=List.eq_nil_of_length_eq_zero (by rw[hI.len,xR]; rfl)
 have hx:Ext κ (κ.grown w'):=⟨hB.os,hB.tape,hB.output,hB.size,fun k hk=>⟨.inl hk,hB.block k (hI.yi k hk)⟩,fun k hk=>hk.elim .inl fun h=>.inr (.inl h.1),fun _ _ _ h=>.inl h,fun b d h=>by rw[xR]at h; simp at h,
   fun b v0 e xs h=>by rw[xR]at h; simp at h,fun b h=>by rw[xR]at h; simp at h,Nat.le_refl _,fun k hk _=>hB.block k hk⟩
 refine⟨κ.grown w',rfl,xR,⟨hI.len,fun k hk=>hk.elim (fun h=>Nat.lt_of_lt_of_le (hI.yi k h) hB.size) (·.2),fun b blk n hb => ?_,hI.inj,fun b x hb => ?_,hI.gl.mono hx.same⟩,hx,he hx⟩
 ·have:κ.ph[b]? = some (some (blk,n)):=hb
  rw[VL]at this; simp at this
 ·have:κ.st[b]? = some x:=hb
  rw[xR]at this; simp at this
theorem IT(u:Nat):Lib.decDigits u=Jd u:=by
 induction u using Nat.strongRecOn with
 | _ u ih =>
  rw[Lib.decDigits,Jd]
  split
  ·rfl
  ·rw[ih _ (by omega)]
theorem PQ(n:Int):Lib.itoa n=pO n:=by
 unfold Lib.itoa pO
 rw[IT,IT]
theorem Es(w:World)(k:Nat)(os:Array Obj):RowKit.Below w.heap.size w (Go.Sort.grow (w.drewN k) os):=by
 refine⟨rfl,rfl,rfl,?_,fun b hb => ?_⟩
 ·simp[Go.Sort.grow,World.drewN]
 ·show(w.heap++os)[b]? = w.heap[b]?
  rw[Array.getElem?_append_left hb]
theorem RD.zau{κ:KS}{a b:D}{u v:Value}(h:RD κ a u)(k:RD κ b v):RD κ (.gK [a,b]) (.tuple #[u,v]):=by
 have:=xz.cons h (xz.cons k xz.nil)
 exact .gK [a,b] [u,v] this.1 this.2
theorem LA(l:List UInt8):∀ c,Lib.repeatL l c=kC l c
 | 0=>rfl
 | c+1=>by simp[Lib.repeatL,kC,LA l c]
end Go.AM
namespace Go.AM
set_option linter.unusedSectionVars false
variable [uH]
open Go.RowKit
theorem CK{w:World}{blk:Nat}{cs:Array Value}{t:TypeId}{fz:Nat×Nat}{v:Value}(h:w.heap[blk]? = some (.cells cs t fz)):w.setCell ⟨blk,0,none⟩ v=w.setRow blk (cs.setIfInBounds 0 v):=by
 unfold World.setCell World.setRow
 congr 1
 apply Array.ext_getElem?
 intro i
 rw[Array.getElem?_modify,Array.getElem?_modify]
 split
 ·rename_i e
  subst e
  rw[h]
  rfl
 ·rfl
def FV(t:Nat):List It:=[.v (.st [.op 0 t,.row 1 (.int .u8)]),.a (.int .u8)]
def Pt(t:Nat):List Bk:=[.var (.st [.op 0 t,.row 1 (.int .u8)]),.arr (.int .u8)]
def ccD(t:Nat):cP:=⟨[.ptr],⟨FV t,[(0,.ptr 0 0)],Pt t⟩,[],⟨FV t,[],Pt t⟩,0,fun x=>.ret x⟩
theorem Hh{P:Program}{g t:Nat}(Ke:∀ args w,(callFunc g args).run P w=.ok (.enter g args) w)
  (zcm:∀ (b:Nat) (w:World),w.cell? ⟨b,0,none⟩=some (.pointer (some ⟨b,0,none⟩))→Calls P g #[.pointer (some ⟨b,0,none⟩)] w fun e w'=>e=.returned (.tuple #[])∧w'=w)
  (z5R:∀ (b:Nat) (w:World),w.cell? ⟨b,0,none⟩=some (.pointer none)→w.shape? b=some (t,2)→w.frozen? ⟨b,0,none⟩=false →
   Calls P g #[.pointer (some ⟨b,0,none⟩)] w fun e w'=>e=.returned (.tuple #[])∧w'=w.setCell ⟨b,0,none⟩ (.pointer (some ⟨b,0,none⟩))):vT P g (ccD t):=by
 intro κ x qj y xR hy hI hlen hR
 cases hy
 have h0:κ.st[0]? = some (.var (.agg [.yr 0 t,.ms 1 (List.length x.2) (.int .u8) 0 (List.length x.2)])):=by rw[xR]; rfl
 obtain⟨blk,n,cs,t',p1,p2,p3,p4,p5⟩:=hI.blk 0 _ h0
 obtain rfl:t'=t:=p5.2 t rfl
 obtain⟨v0,hv0,F5⟩:=hR.get 0 (.ptr 0 0) rfl
 have hv:v0=.pointer (some ⟨blk,0,none⟩):=by
  cases F5 with
  | ptr _ _ mr n' d hd hp=>rw[p1]at hp; cases hp; rfl
 have eS:qj.toArray = #[.pointer (some ⟨blk,0,none⟩)]:=by
  match qj,hlen with
  | [a],_ =>
   simp only[List.getElem?_toArray,List.getElem?_cons_zero,Option.some.injEq]at hv0
   rw[hv0,hv]
 obtain⟨pv,us,Kw,g1,g2⟩:=xz.cons_inv p4
 obtain⟨bv,us',hus,g3,g4⟩:=xz.cons_inv g2
 have:=g4.qI
 subst this
 subst hus
 have Yy:cs = #[pv,bv]:=by rw[← Array.toArray_toList (xs:=cs),Kw]
 subst Yy
 have Ji:∀ κ':KS,vH κ' (.ret []) (.returned (.tuple #[])):=fun κ'=>⟨.tuple #[],rfl,.gK [] [] rfl (fun i h=>absurd h (Nat.not_lt_zero i))⟩
 refine .inl ⟨Ke _ _,?_⟩
 rw[eS]
 have used:pv=.pointer (some ⟨blk,0,none⟩)→Calls P g #[.pointer (some ⟨blk,0,none⟩)] κ.w fun e w'=>∃ (κ':KS) (ds:List D),κ'.w=w'∧κ'.st=(ccD t').out.st x∧Inv κ'∧Ext κ κ'∧eE 0 ((ccD t').out.fr x)=some ds∧vH κ' (.ret ds) e:=by
  intro hpv
  refine(zcm blk κ.w (by rw[Lib.cell_of_heap p2,hpv]; rfl)).mono ?_
  rintro e w' ⟨rfl,rfl⟩
  exact⟨κ,[],rfl,xR,hI,Ext.refl κ,rfl,Ji κ⟩
 cases g1 with
 | dD _ _ mr n' d hd hp=>rw[p1]at hp; cases hp; exact used rfl
 | dU _ _ d hd =>
  refine(z5R blk κ.w (by rw[Lib.cell_of_heap p2]; rfl) (by simp[World.shape?,p2]) (by simp[World.frozen?,p2])).mono ?_
  rintro e w' ⟨rfl,rfl⟩
  rw[CK p2]
  have hex:=nP (cs := #[.pointer (some ⟨blk,0,none⟩),bv]) (x:=.var (.agg [.yr 0 t',.ms 1 (List.length x.2) (.int .u8) 0 (List.length x.2)])) hI p1 h0 trivial
  refine⟨κ.BH 0 blk #[.pointer (some ⟨blk,0,none⟩),bv] (.var (.agg [.yr 0 t',.ms 1 (List.length x.2) (.int .u8) 0 (List.length x.2)])),[],rfl,?_,W8 hI p1 h0 trivial ?_,hex,rfl,Ji _⟩
  ·show κ.st.set 0 _=_
   rw[JI h0]; exact xR
  ·refine⟨blk,n,_,t',p1,setRow_heap _ _ _ _ _ _ p2,p3,?_,p5⟩
   refine .cons (.dD 0 t' blk n _ (by show(κ.st.set 0 _)[0]? = _; rw[JI h0]; exact h0) p1) (.cons (g3.mono hex) .nil)
def TD(t:Nat):cP:=⟨[.ptr],⟨FV t,[(0,.ptr 0 0)],Pt t⟩,[],⟨[.s 0 (.zU .str),.v (.st [.op 0 t,.un])],[],[.var (.st [.op 0 t,.un]),.dead]⟩,1,
 fun x=>z1R x.2⟩
theorem Su{κ:KS}{w':World}{t:Nat}{xs:List Int}(xR:κ.st=[.var (.agg [.yr 0 t,.ms 1 xs.length (.int .u8) 0 xs.length]),.arr xs.length (.int .u8) xs])(hI:Inv κ)
  (h1:w'.os=κ.w.os) (h2:w'.tape=κ.w.tape) (h3:w'.output=κ.w.output) (h4:κ.w.heap.size≤w'.heap.size)
  (h5:∀ k,k<κ.w.heap.size→(∀ n:Nat,κ.ph[1]? ≠ some (some (k,n)))→w'.heap[k]? = κ.w.heap[k]?) :
  ∃ κ':KS,κ'.w=w'∧κ'.st=[.var (.agg [.yr 0 t,.ZV]),.dead]∧Inv κ'∧Ext κ κ':=by
 have b0:κ.st[0]? = some (.var (.agg [.yr 0 t,.ms 1 xs.length (.int .u8) 0 xs.length])):=by rw[xR]; rfl
 have b1:κ.st[1]? = some (.arr xs.length (.int .u8) xs):=by rw[xR]; rfl
 have hlen:κ.st.length=2:=by rw[xR]; rfl
 let κ':KS:={ κ with w:=w',st:=[.var (.agg [.yr 0 t,.ZV]),.dead] }
 have hk:∀ k,κ.ok k→w'.heap[k]? = κ.w.heap[k]? := fun k hk=>h5 k (hI.yi k hk) fun n h=>(hI.apart 1 k n h).2 hk
 have Vf:F1 κ.w w' κ.ok κ.ok:=fun k h=>⟨h,hk k h⟩
 have hx:Ext κ κ':=by
  refine⟨h1,h2,h3,h4,Vf,fun k h=>.inl h,fun _ _ _ h=>.inl h,fun b d h=>⟨?_,rfl⟩,fun b v0 e ri h=>.inl ?_,fun b h => ?_,by show κ.st.length≤2; omega,fun k hk hn=>h5 k hk (hn 1)⟩
  ·rw[xR]at h
   match b,h with
   | 0,h=>exact⟨_,rfl⟩
   | 1,h=>cases h
   | b+2,h=>simp at h
  ·rw[xR]at h
   match b,h with
   | 0,h=>cases h
   | 1,h=>rfl
   | b+2,h=>simp at h
  ·rw[xR]at h
   match b,h with
   | 0,h=>cases h
   | 1,h=>cases h
   | b+2,h=>simp at h
 refine⟨κ',rfl,rfl,⟨by show κ.ph.length=2; rw[hI.len,hlen],fun k h=>Nat.lt_of_lt_of_le (hI.yi k h) h4,fun b blk n h=>⟨Nat.lt_of_lt_of_le (hI.apart b blk n h).1 h4,(hI.apart b blk n h).2⟩,hI.inj,fun b y hb => ?_,hI.gl.mono Vf⟩,hx⟩
 match b,hb with
 | 0,hb =>
  cases hb
  obtain⟨blk,n,cs,t',p1,p2,p3,p4,p5⟩:=hI.blk 0 _ b0
  have uv:∀ m:Nat,κ.ph[1]? ≠ some (some (blk,m)):=fun m h=>by
   have:=hI.inj 0 1 blk n m p1 h
   omega
  refine⟨blk,n,cs,t',p1,(h5 blk (hI.apart 0 blk n p1).1 uv).trans p2,p3,?_,?_,fun T hT=>p5.2 T hT⟩
  ·obtain⟨pv,us,Kw,g1,g2⟩:=xz.cons_inv p4
   obtain⟨bv,us',hus,g3,g4⟩:=xz.cons_inv g2
   have:=g4.qI
   subst this
   subst hus
   rw[Kw]
   refine .cons (g1.mono hx) (.cons (.ZV bv (g3.J4 rfl)) .nil)
  ·intro x Fi
   simp only[qt,List.mem_cons,List.not_mem_nil,or_false]at Fi
   rcases Fi with rfl | rfl<;>rfl
 | 1,hb=>cases hb; trivial
 | b+2,hb=>simp[κ']at hb
theorem Nu{n:Int}(h0:0≤n)(h1:n<256):(((byteOf n).toNat:Nat):Int)=n:=by
 unfold byteOf
 have:(UInt8.ofNat n.toNat).toNat=n.toNat:=by
  rw[UInt8.toNat_ofNat']
  omega
 rw[this]; omega
theorem FZ{P:Program}{g t:Nat}(Ke:∀ args w,(callFunc g args).run P w=.ok (.enter g args) w)
  (XV:∀ (b:Nat) (p:Value) (w:World),w.heap[b]? = some (.cells #[p,.slice none 0 0] t (0,0))→Calls P g #[.pointer (some ⟨b,0,none⟩)] w fun e w'=>e=.returned (.string ⟨#[]⟩)∧w'=w.drew)
  (pW:∀ (b g' o cap:Nat) (p:Value) (w:World),cap≠0→w.heap[b]? = some (.cells #[p,.slice (some ⟨g',o,none⟩) 0 cap] t (0,0))→Calls P g #[.pointer (some ⟨b,0,none⟩)] w fun e w'=>e=.returned (.string ⟨#[]⟩)∧w'=w.drew)
  (Rg:∀ (b g' cap:Nat) (p:Value) (cur:Array Value) (l:List UInt8) (w:World),l≠[]→l.length≤cap→l.length≤140737488355328→w.heap[b]? = some (.cells #[p,.slice (some ⟨g',0,none⟩) l.length cap] t (0,0)) →
   w.heap[g']? = some (.cells cur Zk.u8 (0,0))→l.length≤cur.size→(∀ j x,l[j]? = some x→w.cell? ⟨g',j,none⟩=some (.int .u8 x.toNat)) →
   Calls P g #[.pointer (some ⟨b,0,none⟩)] w fun e w'=>e=.returned (.string ⟨l.toArray⟩)∧w'=w.drew.freeze ⟨g',0,none⟩ l.length)
  (By:∀ (b g' o:Nat) (p:Value) (cur:Array Value) (w:World),w.heap[b]? = some (.cells #[p,.slice (some ⟨g',o,none⟩) 0 0] t (0,0))→w.heap[g']? = some (.cells cur Zk.u8 (0,0)) →
   Calls P g #[.pointer (some ⟨b,0,none⟩)] w fun e w'=>e=.returned (.string ⟨#[]⟩)∧w'=w.drew.alloc (.view ⟨g',o,none⟩ Zk.u8)) 
  {κ:KS} {qj:List Value} {xs:List Int} (z5X:κ.st=[.var (.agg [.yr 0 t,.ms 1 xs.length (.int .u8) 0 xs.length]),.arr xs.length (.int .u8) xs])
  (Eg:∀ n∈xs,(0:Int)≤n∧n<256) (Rw:xs.length≤140737488355328) (hI:Inv κ) (hlen:qj.length=1) (hd:∃ v,qj.toArray[0]? = some v∧RD κ (.ptr 0 0) v) :
  uU P g qj.toArray κ.w fun e w'=>∃ (κ':KS) (ds:List D),κ'.w=w'∧κ'.st=(TD t).out.st (qV xs,())∧Inv κ'∧Ext κ κ'∧eE 1 ((TD t).out.fr (qV xs,()))=some ds∧vH κ' (.ret ds) e:=by
 have h0:κ.st[0]? = some (.var (.agg [.yr 0 t,.ms 1 (xs.length) (.int .u8) 0 (xs.length)])):=by rw[z5X]; rfl
 have h1:κ.st[1]? = some (.arr (xs.length) (.int .u8) xs):=by rw[z5X]; rfl
 obtain⟨blk,n,cs,t',p1,p2,p3,p4,p5⟩:=hI.blk 0 _ h0
 obtain rfl:t'=t:=p5.2 t rfl
 obtain⟨v0,hv0,F5⟩:=hd
 have hv:v0=.pointer (some ⟨blk,0,none⟩):=by
  cases F5 with
  | ptr _ _ mr n' d hd hp=>rw[p1]at hp; cases hp; rfl
 have eS:qj.toArray = #[.pointer (some ⟨blk,0,none⟩)]:=by
  match qj,hlen with
  | [a],_ =>
   simp only[List.getElem?_toArray,List.getElem?_cons_zero,Option.some.injEq]at hv0
   rw[hv0,hv]
 obtain⟨pv,us,Kw,g1,g2⟩:=xz.cons_inv p4
 obtain⟨bv,us',hus,g3,g4⟩:=xz.cons_inv g2
 have:=g4.qI
 subst this
 subst hus
 have Yy:cs = #[pv,bv]:=by rw[← Array.toArray_toList (xs:=cs),Kw]
 subst Yy
 refine .inl ⟨Ke _ _,?_⟩
 rw[eS]
 have fin:∀ (w':World) (s:zf),s=qV xs→w'.os=κ.w.os→w'.tape=κ.w.tape→w'.output=κ.w.output→κ.w.heap.size≤w'.heap.size →
   (∀ k,k<κ.w.heap.size→(∀ n:Nat,κ.ph[1]? ≠ some (some (k,n)))→w'.heap[k]? = κ.w.heap[k]?) →
   ∃ (κ':KS) (ds:List D),κ'.w=w'∧κ'.st=(TD t').out.st (qV xs,())∧Inv κ'∧Ext κ κ'∧eE 1 ((TD t').out.fr (qV xs,()))=some ds∧vH κ' (.ret ds) (.returned (.string ⟨s.toArray⟩)):=by
  intro w' s hs q1 q2 q3 q4 q5
  subst hs
  obtain⟨κ',k1,k2,k3,k4⟩:=Su z5X hI q1 q2 q3 q4 q5
  exact⟨κ',[.zU .str (qV xs)],k1,k2,k3,k4,rfl,_,rfl,RD.str⟩
 have hnn:(qV xs).length=xs.length:=List.length_map _
 cases g3 with
 | ms _ _ _ _ _ cap a hb wH ha Z1 hm =>
  obtain⟨hle,hm⟩:=hm xs h1
  rcases hm with⟨hz,_,E2,hp⟩ | ⟨z32,n1,o,Uy,hp,E2,zb3,jm,ho⟩
  ·rw[E2]at p2
   have J5:xs=[]:=List.eq_nil_of_length_eq_zero hz
   refine(XV blk pv κ.w p2).mono ?_
   rintro e w' ⟨rfl,rfl⟩
   exact fin _ [] (by rw[J5]; rfl) rfl rfl rfl (Nat.le_refl _) (fun _ _ _=>rfl)
  ·cases E2
   obtain⟨_,⟨Ic,Pe⟩ | ⟨zgg,n2,cs2,T2,r1,r2,r3,r4,r5,f,r6⟩⟩:=hI.blk 1 _ h1
   ·rw[hp]at Pe; cases Pe
   ·rw[hp]at r1
    cases r1
    have hT:=r5 rfl
    subst hT
    by_cases hc0:cap=0
    ·subst hc0
     have hz:xs.length=0:=by omega
     have J5:xs=[]:=List.eq_nil_of_length_eq_zero hz
     rw[hz]at p2
     refine(By blk z32 o pv cs2 κ.w p2 r2).mono ?_
     rintro e w' ⟨rfl,rfl⟩
     refine fin _ [] (by rw[J5]; rfl) rfl rfl rfl (by simp) (fun k hk _ => ?_)
     exact Lib.alloc_old κ.w.drew _ k hk
    ·by_cases hz:xs.length=0
     ·have J5:xs=[]:=List.eq_nil_of_length_eq_zero hz
      rw[hz]at p2
      refine(pW blk z32 o cap pv κ.w hc0 p2).mono ?_
      rintro e w' ⟨rfl,rfl⟩
      exact fin _ [] (by rw[J5]; rfl) rfl rfl rfl (Nat.le_refl _) (fun _ _ _=>rfl)
     ·have ho':o=0:=by
       rcases ho with ho | ho
       ·exact absurd ho hc0
       ·simpa using ho
      subst ho'
      have uv:qV xs≠[]:=fun e=>hz (by rw[← hnn,e]; rfl)
      have zd2:xs.length≤cs2.size:=by
       have:=r4
       simp only[Ty.size,Nat.mul_one]at this
       omega
      refine(Rg blk z32 cap pv cs2 (qV xs) κ.w uv (by rw[hnn]; exact wH) (by rw[hnn]; exact Rw) (by rw[hnn]; exact p2) r2 (by rw[hnn]; exact zd2) ?_).mono ?_
      ·intro j c hj
       have hj':j<xs.length:=by rw[← hnn]; exact(List.getElem?_eq_some_iff.1 hj).1
       obtain⟨q1,q2⟩:=r6 j hj'
       have:=q2 0 (.int .u8 xs[j]) (by rw[q1.fu]; rfl)
       simp only[Ty.size,Nat.mul_one,Nat.add_zero]at this
       have hc:c=byteOf xs[j]:=by
        unfold qV at hj
        rw[List.getElem?_map,List.getElem?_eq_getElem hj']at hj
        exact(Option.some.inj hj).symm
       obtain⟨b0,b1⟩:=Eg xs[j] (List.getElem_mem hj')
       rw[Lib.cell_of_heap r2,hc,Nu b0 b1]
       exact this
      ·rintro e w' ⟨rfl,rfl⟩
       refine fin _ _ rfl ?_ ?_ ?_ ?_ ?_
       ·unfold World.freeze; split<;>rfl
       ·unfold World.freeze; split<;>rfl
       ·unfold World.freeze; split<;>rfl
       ·unfold World.freeze
        split
        ·exact Nat.le_refl _
        ·show κ.w.heap.size≤(Array.modify _ _ _).size
         rw[Array.size_modify]; exact Nat.le_refl _
       ·intro k hk hn
        have zhb:k≠z32:=fun e=>hn n1 (e▸hp)
        unfold World.freeze
        split
        ·rfl
        ·show(Array.modify _ _ _)[k]? = _
         rw[Array.getElem?_modify,if_neg (fun e=>zhb e.symm)]
         rfl
theorem Np{P:Program}{g t:Nat}(Ke:∀ args w,(callFunc g args).run P w=.ok (.enter g args) w)
  (XV:∀ (b:Nat) (p:Value) (w:World),w.heap[b]? = some (.cells #[p,.slice none 0 0] t (0,0))→Calls P g #[.pointer (some ⟨b,0,none⟩)] w fun e w'=>e=.returned (.string ⟨#[]⟩)∧w'=w.drew)
  (pW:∀ (b g' o cap:Nat) (p:Value) (w:World),cap≠0→w.heap[b]? = some (.cells #[p,.slice (some ⟨g',o,none⟩) 0 cap] t (0,0))→Calls P g #[.pointer (some ⟨b,0,none⟩)] w fun e w'=>e=.returned (.string ⟨#[]⟩)∧w'=w.drew)
  (Rg:∀ (b g' cap:Nat) (p:Value) (cur:Array Value) (l:List UInt8) (w:World),l≠[]→l.length≤cap→l.length≤140737488355328→w.heap[b]? = some (.cells #[p,.slice (some ⟨g',0,none⟩) l.length cap] t (0,0)) →
   w.heap[g']? = some (.cells cur Zk.u8 (0,0))→l.length≤cur.size→(∀ j x,l[j]? = some x→w.cell? ⟨g',j,none⟩=some (.int .u8 x.toNat)) →
   Calls P g #[.pointer (some ⟨b,0,none⟩)] w fun e w'=>e=.returned (.string ⟨l.toArray⟩)∧w'=w.drew.freeze ⟨g',0,none⟩ l.length)
  (By:∀ (b g' o:Nat) (p:Value) (cur:Array Value) (w:World),w.heap[b]? = some (.cells #[p,.slice (some ⟨g',o,none⟩) 0 0] t (0,0))→w.heap[g']? = some (.cells cur Zk.u8 (0,0)) →
   Calls P g #[.pointer (some ⟨b,0,none⟩)] w fun e w'=>e=.returned (.string ⟨#[]⟩)∧w'=w.drew.alloc (.view ⟨g',o,none⟩ Zk.u8)):vT P g (TD t):=by
 intro κ x qj y xR hy hI hlen hR
 obtain⟨⟨Eg,Rw⟩,hy⟩:=(show(z1R x.2).leads y from hy)
 have hy':(qV x.2,())=y:=hy
 subst hy'
 exact FZ Ke XV pW Rg By (xs:=x.2) xR Eg Rw hI hlen (hR.get 0 (.ptr 0 0) rfl)
end Go.AM