/-
  The walk, part 0: each function of the program is the tree that the lifted text says; printed by a program of ours.
-/
import Derived.Test.YtbccccfmfeihfaaGreatDoorProg
import Derived.KernelRfl
import Derived.Test.YtbccccfmfeihfaaGreatDoorAmE
import Derived.Test.YtbccccfmfeihfaaGreatDoorLf1
import Derived.Lib.Builder
import Derived.Shelf.Strings.Builder1
import Derived.WalkKit
import Derived.TacticsInMore
import Derived.Maps.OwnOps
import Derived.Maps.AppendAt
import Derived.StringKeys
import Derived.Maps.Views
import Derived.Shelf.Strings.FieldsFuncAny
import Derived.RangeFuncBox
import Derived.RangeFuncLeaves
import Derived.RangeFuncNested
import Derived.Shelf.Abstract
import Derived.OwnWalkIn
import Derived.LoopNIn
import Derived.LoopIn
import Derived.Lib.AtoiAll
import Derived.Lib.ConvBytes
import Derived.Test.YtbccccfmfeihfaaGreatDoorSh
set_option linter.unusedVariables false
open Go.Obj renaming cells -> zA
open List renaming size_toArray -> Y, length -> zH, length_cons -> zK, append_toArray -> zS, getElem?_eq_getElem -> zT, push_toArray -> zV, take_succ_eq_append_getElem -> zW, cons_append -> zX, eq_nil_of_length_eq_zero -> zY, length_nil -> zZ, nil_append -> qA, mem_cons_self -> qC, mem_cons_of_mem -> qJ
open Go.Value renaming int -> M, pointer -> zG, bool -> zM, slice -> qM, agg -> qR
open Nat renaming le_refl -> U, lt_of_lt_of_le -> zI, reduceAdd -> qE, reduceSub -> qF, zero_le -> qK
open Option renaming none -> zE, map_eq_some_iff -> qG
open ByteArray renaming size -> zF
open Go.Builtin renaming unsafeSliceData_ -> zJ, append_ -> zU, zeroCells -> qD, unsafeString_ -> qI, firstCells -> qN
open Go.World renaming size_alloc -> zL
open Go.Oper renaming semAt_some -> zN, upon_value -> qH
open Array renaming replicate_succ -> zO, replicate_zero -> zP
open Go.Lib renaming cell_of_heap -> zQ, run_unsafeSliceData_row -> qB, parseUint10 -> qO, pow10Tab -> qP
open Go.KeepsOthers renaming setCell -> zR
open Go.Result renaming andThen -> qL
open Go.Boxed renaming new -> qQ
set_option maxRecDepth 100000
noncomputable section
namespace Go.AM.Lf
open Go.Proofs Go.Proofs.Tryz
abbrev Lk:Nat:=75
noncomputable abbrev Pz:Program:=Tryz.prog
def kY(f:Func):Code:=match f.body with | some c=>c | none=>.skip
def lb(k:Nat)(f:Func):Code:=match VO k (kY f)with | some c=>c | none=>.skip
theorem mixed:Pz.follows .mixedOrders=true:=by kernel_rfl
instance:gp:={ u8:=5,tab:=[(4,FU .u64 qP),(0,DH .i64)] }
theorem fR{O:KS}(hI:Inv O):Lib.TabIs Tryz.prog O.w "internal/strconv.uint64pow10" .u64 qP :=
 zf1 (g:=4) (by kernel_rfl) (hI.gl (4,FU .u64 qP) (by simp[gp.tab])).2
theorem y6{O:KS}(hI:Inv O):∃ m,O.w.cell? ⟨0,0,none⟩=some (.int .i64 m) :=
 Tl (hI.gl (0,DH .i64) (by simp[gp.tab])).2
structure Tb where
 t:lO
 ok:eG Pz t
def Tb.d(T:Tb){g:Nat}{d:EE}(h:zy Pz g d):Tb:=⟨(g,.d d)::T.t,N6 h T.ok⟩
def Tb.s(T:Tb){g:Nat}{d:ba}(h:xw Pz g d):Tb:=⟨(g,.s d)::T.t,IN h T.ok⟩
def Tb.p(T:Tb){g:Nat}{d:lN}(h:jI Pz g d):Tb:=⟨(g,.p d)::T.t,IM h T.ok⟩
def t0:Tb:=⟨[],z0b _⟩
def fL:List (Nat×q8)->Nat->Option q8
 | [],_=>none
 | x::r,n=>bif Nat.beq x.1 n then some x.2 else fL r n
def fC:List (Nat×Nat×z6A)->Nat->Nat->Option z6A
 | [],_,_=>none
 | x::r,k,n=>bif Nat.beq x.1 k&&Nat.beq x.2.1 n then some x.2.2 else fC r k n
def fF:List (Nat×List Nat)->Nat->List Nat
 | [],_=>[]
 | x::r,n=>bif Nat.beq x.1 n then x.2 else fF r n
def Hz(l:List (Nat×q8))(c:List (Nat×Nat×z6A))(f:List (Nat×List Nat)):Hints:=⟨fL l,fC c,fF f⟩
def hN:Hints:=Hz [] [] []
def rz(l:List Nat)(s:Nat):Bool:=l.any (Nat.beq s)
def rn(_:Nat):Bool:=false
def Lz(gh:List Gh)(ps:List It)(sh:uh)(ws:List Way)(hl:jX ps->sh.den->T (sh.den⊕fZ ws)):q8:=⟨gh,ps,sh,ws,λp s=>T.loop (hl p) s⟩
abbrev LO(f:Func)(l:q8)(i:Nat):Prop:=Uo Pz f.ntmps l (lb i f)
def ls(f:Func):List Nat->List (Nat×Code)
 | []=>[]
 | i::r=>(i,lb i f)::ls f r
abbrev Mi(n:Nat):It:=.s n (.qs i64)
abbrev Mb(n:Nat):It:=.s n (.qs .bool)
abbrev Ms(n:Nat):It:=.s n (.qs .str)
abbrev Mm(n:Nat)(t:Ty):It:=.s n (.qs t)
abbrev Mr(n:Nat)(t:Ty):It:=.s n (.vH t)
abbrev Sh0(l:List It):uh:=⟨l,[],[]⟩
theorem lk{f:Func}{i:Nat}{gh:List Gh}{ps:List It}{sh:uh}{ws:List Way}{hl:jX ps->sh.den->T (sh.den⊕fZ ws)}(T:Tb)(ro:Nat->Bool)(H:Hints)(L:List Nat)(ha:CS Pz f.ntmps H (ls f L))
  (h:∀ p s,z4p (gW Pz Lk T.t ro) T.t f.ntmps H (Lz gh ps sh ws hl) (lb i f) p s=hl p s:=by intro p s; kernel_rfl) (R:uj (lb i f)=ls f L:=by kernel_rfl):LO f (Lz gh ps sh ws hl) i :=
 z9T (xid:=Lk) (ro:=ro) (H:=H) mixed T.ok (UY R ha) hl h λ_ _=>rfl
theorem wi{f:Nat}{fn:Func}{d:EE}(T:Tb)(ro:Nat->Bool)(H:Hints)(hf:Pz.funcs[f]? = some fn)(L:List Nat)(ha:CS Pz fn.ntmps H (ls fn L))
  (h:∀ x,z1e (gW Pz Lk T.t ro) T.t H fn (kY fn) d x=d.F x:=by intro x; kernel_rfl) (I:fn.body=some (kY fn):=by rfl) (hn:(fn.name == "runtime.NumGoroutine")=false:=by kernel_rfl) (R:uj (kY fn)=ls fn L:=by kernel_rfl):zy Pz f d :=
 zgc (xid:=Lk) (ro:=ro) (H:=H) mixed T.ok hf I hn (UY R ha) h
theorem dW{f:Nat}{fn:Func}{d:ba}(T:Tb)(ro:Nat->Bool)(H:Hints)(hf:Pz.funcs[f]? = some fn)(L:List Nat)(ha:CS Pz fn.ntmps H (ls fn L))
  (h:∀ x,LS (gW Pz Lk T.t ro) T.t H fn (kY fn) d x=d.F x:=by intro x; kernel_rfl) (I:fn.body=some (kY fn):=by rfl) (hn:(fn.name == "runtime.NumGoroutine")=false:=by kernel_rfl) (R:uj (kY fn)=ls fn L:=by kernel_rfl):xw Pz f d :=
 zcU (xid:=Lk) (ro:=ro) (H:=H) mixed T.ok hf I hn (UY R ha) h
def hdB(c:Code):Code:=match c with | .seq _ b=>b | _=>.skip
def hdO(c:Code):Array Oper:=match c with | .seq (.region _ ops _) _=>ops | _ => #[]
def hdI(c:Code):Nat:=match c with | .seq (.region id _ _) _=>id | _=>0
theorem fkr{f:Nat}{fn:Func}{d:ba}(T:Tb)(ro:Nat->Bool)(H:Hints)(hf:Pz.funcs[f]? = some fn)
  (h:∀ x,evH (gW Pz Lk T.t ro) T.t H fn (hdO (kY fn)) (hdB (kY fn)) d d.ks.length none x=d.F x:=by intro x; kernel_rfl) (I:fn.body=some (.seq (.region (hdI (kY fn)) (hdO (kY fn)) false) (hdB (kY fn))):=by kernel_rfl) (hn:(fn.name == "runtime.NumGoroutine")=false:=by kernel_rfl) (R:uj (hdB (kY fn))=[]:=by kernel_rfl):cM (Nt Pz) f d :=
 z7w (xid:=Lk) (ro:=ro) (H:=H) mixed T.ok hf I hn (YB R) h
theorem fkh{f t:Nat}{fn:Func}{d:ba}(T:Tb)(ro:Nat->Bool)(H:Hints)(hf:Pz.funcs[f]? = some fn)(k:Nat)
  (h:∀ x,evH (gW Pz Lk T.t ro) T.t H fn (hdO (kY fn)) (hdB (kY fn)) d k (some t) x=d.F x:=by intro x; kernel_rfl) (hk:d.ks.length=k+1:=by kernel_rfl) (I:fn.body=some (.seq (.region (hdI (kY fn)) (hdO (kY fn)) false) (hdB (kY fn))):=by kernel_rfl) (hn:(fn.name == "runtime.NumGoroutine")=false:=by kernel_rfl) (R:uj (hdB (kY fn))=[]:=by kernel_rfl):cM (Sw Pz t) f d :=
 z7v (xid:=Lk) (ro:=ro) (H:=H) mixed T.ok hf I hn (YB R) hk h
theorem zb3{g:Nat}{d:ba}(_:cM (Nt Pz) g d):cM (Sw Pz 0) g { d with F:=λ_=>.fail }:=λ_ _ _ _ _ hy=>hy.elim
theorem fkf{f g pt:Nat}{fn:Func}{d d0 d1:ba}(T:Tb)(ro:Nat->Bool)(H:Hints)(h0:cM (Nt Pz) g d0)(h1:cM (Sw Pz pt) g d1)(hf:Pz.funcs[f]? = some fn)
  (h:∀ x,z1d (gW Pz Lk T.t ro) T.t H ⟨g,d0,pt,d1⟩ fn (kY fn) d x=d.F x:=by intro x; kernel_rfl) (I:fn.body=some (kY fn):=by rfl) (hn:(fn.name == "runtime.NumGoroutine")=false:=by kernel_rfl) (R:uj (kY fn)=[]:=by kernel_rfl):xw Pz f d :=
 zcS (xid:=Lk) (ro:=ro) (H:=H) mixed T.ok (h:=⟨g,d0,pt,d1⟩) h0 h1 hf I hn R h
theorem Yq{f:Nat}{fn:Func}{d:lN}(T:Tb)(ro:Nat->Bool)(H:Hints)(hf:Pz.funcs[f]? = some fn)(L:List Nat)(ha:CS Pz fn.ntmps H (ls fn L))
  (h:∀ x,LR (gW Pz Lk T.t ro) T.t H fn (kY fn) d x=d.F x:=by intro x; kernel_rfl) (I:fn.body=some (kY fn):=by rfl) (hn:(fn.name == "runtime.NumGoroutine")=false:=by kernel_rfl) (R:uj (kY fn)=ls fn L:=by kernel_rfl):jI Pz f d :=
 zcT (xid:=Lk) (ro:=ro) (H:=H) mixed T.ok hf I hn (UY R ha) h
abbrev Uh:Dk:=.st [.row 1 qw,.row 2 ql,.row 3 xy,.row 4 qy,.row 5 xp,.row 6 xm]
abbrev Yj:Dk:=.st [.im (.sl qw),.im (.sl ql),.im (.sl xy),.im (.sl qy),.im (.sl xp),.im (.sl xm),.row 1 zw,.row 2 i64,.row 3 i64]
abbrev sT:Dk:=.st [.im (.sl zw),.row 1 i64,.row 2 i64]
abbrev z4X:List Bk:=[.var (.st [.row 10 zm,.row 2 .bool,.row 11 zm,.row 8 i64,.row 6 zk,.row 3 .bool]),.var (.st [.row 12 zm,.row 4 .bool,.row 13 zm,.row 9 i64,.row 7 zk,.row 5 .bool]),.arr .bool,.arr .bool,.arr .bool,.arr .bool,.arr zk,.arr zk,.arr i64,.arr i64,.arr zm,.arr zm,.arr zm,.arr zm]
abbrev Bu:List Bk:=[.var Uh,.arr qw,.arr ql,.arr xy,.arr qy,.arr xp,.arr xm]
abbrev Ug:List Bk:=[.var (.qs xn)]
abbrev Km:Dk:=.st [.op 0 171,.row 1 (.int .u8)]
abbrev zaO:Dk:=.st [.im (.sl qw),.im (.sl ql),.im (.sl xy),.im (.sl qy),.im (.sl xp),.im (.sl xm),.row 0 zw,.row 4 i64,.row 1 i64]
abbrev zaP:Dk:=.st [.im (.sl qw),.im (.sl ql),.im (.sl xy),.im (.sl qy),.im (.sl xp),.im (.sl xm),.row 2 zw,.row 6 i64,.row 3 i64]
abbrev nT:Way:=⟨.ret,⟨[Mi 4],[],[]⟩⟩
abbrev Se:uh:=⟨[.v (.st [.row 10 zm,.row 2 .bool,.row 11 zm,.row 8 i64,.row 6 zk,.row 3 .bool]),.v (.st [.row 12 zm,.row 4 .bool,.row 13 zm,.row 9 i64,.row 7 zk,.row 5 .bool]),.a .bool,.a .bool,.a .bool,.a .bool,.a zk,.a zk,.a i64,.a i64,.a zm,.a zm,.a zm,.a zm],[],z4X⟩
abbrev jF:Way:=⟨.exit 0,⟨[],[],[]⟩⟩
abbrev jU:List Bk:=[.arr i64]
abbrev IZ:Dk:=.st [.im (.sl zm),.im (.sl .bool),.im (.sl zm),.row 0 i64,.im (.sl zk),.im (.sl .bool)]
abbrev CL:Dk:=.st [.im (.sl qw),.im (.sl ql),.im (.sl xy),.im (.sl qy),.im (.sl xp),.im (.sl xm),.row 13 zw,.row 14 i64,.row 15 i64]
abbrev CM:Dk:=.st [.im (.sl qw),.im (.sl ql),.im (.sl xy),.im (.sl qy),.im (.sl xp),.im (.sl xm),.row 9 zw,.row 10 i64,.row 11 i64]
abbrev tM:uh:=⟨[Mm 0 uB,.v (.qs xn)],[],Ug⟩
abbrev CR:uh:=⟨[.s 0 (.sub 0 i64),Mi 1,Mi 2,Mi 3,.s 4 (.wo 253 [.rp (.sl zw)]),.a i64],[],jU⟩
abbrev cF:uh:=⟨[Mi 8],[],[]⟩
abbrev CN:Dk:=.st [.im i64,.row 2 qq,.im .bool,.im (.sl u32),.im (.sl u32)]
abbrev CO:Dk:=.st [.im i64,.row 3 qq,.im .bool,.im (.sl u32),.im (.sl u32)]
abbrev oJ:uh:=⟨[.v (.qs xn)],[(0,.ptr 0 0)],Ug⟩
abbrev z4W:List Bk:=[.var (.qs uH),.var (.st [.row 3 zm,.row 4 .bool,.im (.sl zm),.row 6 i64,.row 7 zk,.row 8 .bool]),.var (.qs qg),.arr zm,.arr .bool,.arr zm,.arr i64,.arr zk,.arr .bool]
abbrev JL:uh:=⟨[Mm 0 wG,.v (.qs xa)],[],[.var (.qs xa)]⟩
abbrev JJ:List Bk:=[.var sT,.arr i64,.arr i64]
abbrev X0:uh:=⟨[Mm 0 .expr,.v (.qs xn)],[],Ug⟩
abbrev JK:List Bk:=[.var Yj,.arr zw,.arr i64,.arr i64]
abbrev S5:List Bk:=[.var (.st [.nl,.nl]),.var (.st [.row 3 zw,.row 4 i64]),.var (.qs wM),.arr zw,.arr i64]
abbrev CP:Dk:=.st [.im (.sl zm),.im (.sl .bool),.im (.sl zm),.row 3 i64,.im (.sl zk),.im (.sl .bool)]
abbrev gV:List Bk:=[.arr u32]
abbrev L3:Dk:=.st [.row 7 qw,.row 9 ql,.row 11 xy,.row 13 qy,.row 5 xp,.row 3 xm]
abbrev X1:uh:=⟨[Ms 0],[],[]⟩
abbrev QZ:List Bk:=[.var Km,.arr (.int .u8)]
abbrev S6:List Bk:=[.var (.qs xn),.var (.qs .expr),.var (.qs .expr)]
abbrev CQ:Dk:=.st [.im (.sl zw),.row 0 i64,.row 1 i64]
abbrev L4:Dk:=.st [.im (.sl zw),.row 2 i64,.row 3 i64]
abbrev Wm:Way:=⟨.ret,⟨[Mb 4],[],[]⟩⟩
abbrev Vw:uh:=⟨[.a .str],[(0,.cur 0 .str)],[.arr .str]⟩
abbrev Sf:uh:=⟨[Mm 1 (.sl .str),.v Uh,.a qw,.a ql,.a xy,.a qy,.a xp,.a xm],[(0,.ptr 0 0)],Bu⟩
abbrev tN:uh:=⟨[.a i64],[],jU⟩
abbrev CK:List Bk:=[.var sT,.arr i64,.arr i64,.arr i64]
abbrev L5:uh:=⟨[Mi 1,.v sT,.a i64,.a i64],[(0,.ptr 0 0)],JJ⟩
abbrev Wi:List Bk:=[.var (.qs xa)]
abbrev Sh:uh:=⟨[Mm 0 .expr,Mi 1,.v (.qs i64)],[(2,.ptr 0 0)],[.var (.qs i64)]⟩
abbrev z57:Dk:=.st [.im (.sl zm),.im (.sl .bool),.im (.sl zm),.im (.sl i64),.row 2 zk,.im (.sl .bool)]
abbrev z5a:Dk:=.st [.im (.sl zm),.im (.sl .bool),.im (.sl zm),.im (.sl i64),.row 3 zk,.im (.sl .bool)]
abbrev Si:uh:=⟨[.v sT,.a i64,.a i64,.v .mp],[],[.var sT,.arr i64,.arr i64,.var .mp]⟩
abbrev Sj:uh:=⟨[Mb 0,.v Uh,.a qw,.a ql,.a xy,.a qy,.a xp,.a xm],[],Bu⟩
abbrev z4Y:List Bk:=[.arr i64,.var IZ,.arr zw,.arr i64,.var (.st [.un,.un]),.var zaP,.arr i64]
abbrev L6:uh:=⟨[Mi 0,.v sT,.a i64,.a i64],[],JJ⟩
abbrev z5b:Dk:=.st [.row 3 zm,.row 4 .bool,.im (.sl zm),.row 6 i64,.row 7 zk,.row 8 .bool]
abbrev Sa:Dk:=.st [.row 10 zm,.row 2 .bool,.row 11 zm,.row 8 i64,.row 6 zk,.row 3 .bool]
abbrev Sc:Dk:=.st [.row 12 zm,.row 4 .bool,.row 13 zm,.row 9 i64,.row 7 zk,.row 5 .bool]
abbrev z5c:Dk:=.st [.row 6 qw,.row 8 ql,.row 10 xy,.row 12 qy,.row 4 xp,.row 2 xm]
abbrev zc7:uh:=⟨[.s 0 (.st [.row 0 zm,.row 1 .bool,.im (.sl zm),.row 2 i64,.row 3 zk,.row 4 .bool]),.s 1 (.tight .str),Mi 2,.a zm,.a .bool,.a i64,.a zk,.a .bool],[],[.arr zm,.arr .bool,.arr i64,.arr zk,.arr .bool]⟩
abbrev HK:uh:=⟨[.v Km,.a (.int .u8)],[],QZ⟩
abbrev JM:uh:=⟨[Mi 3],[],[]⟩
abbrev Wj:uh:=⟨[Mm 0 .nil],[],[]⟩
abbrev HL:uh:=⟨[.a .str],[(3,.cur 0 .str)],[.arr .str]⟩
abbrev zcc:Way:=⟨.normal,⟨[Mm 1 (.sl .str),.v Uh,.a qw,.a ql,.a xy,.a qy,.a xp,.a xm,.v (.qs qy)],[],[.var Uh,.arr qw,.arr ql,.arr xy,.arr qy,.arr xp,.arr xm,.var (.qs qy)]⟩⟩
abbrev L7:uh:=⟨[Mm 1 .expr,.a .str],[(0,.cur 0 .str)],[.arr .str]⟩
abbrev z4Z:List Bk:=[.arr zw,.arr i64,.var (.st [.un,.un]),.var zaO,.arr i64]
abbrev Sl:uh:=⟨[Mb 0,.v (.qs i64)],[],[.var (.qs i64)]⟩
abbrev z5Q:uh:=⟨[Mi 0,.v Uh,.a qw,.a ql,.a xy,.a qy,.a xp,.a xm],[],Bu⟩
abbrev z5R:uh:=⟨[Mm 0 uB,.v (.qs xn),.v (.qs .expr),.v (.qs .expr)],[],S6⟩
abbrev z50:List Bk:=[.var (.qs .expr),.var (.qs i64),.var (.qs i64)]
abbrev z5d:Dk:=.st [.row 0 zm,.row 1 .bool,.row 2 zm,.row 3 i64,.row 4 zk,.row 5 .bool]
abbrev Sn:uh:=⟨[.v (.qs xn)],[],Ug⟩
abbrev Sd:Dk:=.st [.row 3 zw,.row 4 i64]
abbrev zc5:List Bk:=[.var z5c,.var L3,.arr xm,.arr xm,.arr xp,.arr xp,.arr qw,.arr qw,.arr ql,.arr ql,.arr xy,.arr xy,.arr qy,.arr qy]
abbrev z5S:uh:=⟨[Mb 0,.a i64],[],[.cvar (.cur 1 i64),.arr i64]⟩
abbrev z5T:uh:=⟨[.v (.qs wM),.a .str],[(5,.cur 1 .str)],[.var (.qs wM),.arr .str]⟩
abbrev zc6:Dk:=.st [.im (.sl qw),.im (.sl ql),.im (.sl xy),.im (.sl qy),.im (.sl xp),.im (.sl xm),.row 2 zw,.row 3 i64,.row 4 i64]
abbrev z5U:uh:=⟨[.s 0 (.sub 0 i64),Mi 10,.a i64],[],jU⟩
abbrev zc8:uh:=⟨[Mm 0 (.sl qq),.s 1 (.mclo 317 [.rp (.sl i64),.rp i64,.pt 0]),.a i64],[],[.cvar (.cur 1 i64),.arr i64]⟩
abbrev S7:List Bk:=[.var L4,.var .mp,.arr i64,.arr i64]
abbrev Sq:uh:=⟨[Ms 0,Mi 11],[],[]⟩
abbrev z52:List Bk:=[.arr zm,.arr .bool,.arr zm,.arr i64,.arr zk,.arr .bool]
abbrev S8:List Bk:=[.var (.qs j6),.var (.qs i64)]
abbrev z5e:Dk:=.st [.im (.sl .str),.row 4 .str,.im (.sl zm)]
abbrev zc9:uh:=⟨[Mm 0 (.sl .expr),.s 1 (.mclo 218 [.rp i64,.pt 0]),.v (.qs i64)],[],[.cvar (.ptr 1 0),.var (.qs i64)]⟩
abbrev z5V:uh:=⟨[.v (.qs xn),.v (.qs .expr),.v (.qs .expr)],[],S6⟩
abbrev zca:uh:=⟨[Mm 1 (.sl .str),Ms 2,.v Uh,.a qw,.a ql,.a xy,.a qy,.a xp,.a xm],[(0,.ptr 0 0)],Bu⟩
abbrev zcd:Way:=⟨.ret,⟨[Ms 7,Mi 8,.v (.st [.nl,.nl]),.v Sd,.v (.qs wM),.a zw,.a i64],[],S5⟩⟩
abbrev nS:List Bk:=[.arr .str]
abbrev L8:uh:=⟨[Mi 5],[],[]⟩
abbrev IX:List Bk:=[.var (.qs .expr),.var (.qs .expr)]
abbrev zcb:uh:=⟨[.v (.qs uH),.v z5b,.v (.qs qg),.a zm,.a .bool,.a zm,.a i64,.a zk,.a .bool],[],z4W⟩
abbrev z5f:Dk:=.st [.row 2 .str,.row 3 .str,.im (.sl zm)]
abbrev z55:List Bk:=[.var CN,.var CO,.arr qq,.arr qq]
abbrev z6a:Way:=⟨.exit 0,⟨[.a u32],[(7,.cur 0 u32)],gV⟩⟩
abbrev S9:List Bk:=[.var (.qs xn),.var (.qs .expr)]
abbrev IY:List Bk:=[.var (.qs jC)]
abbrev lM:List AK:=[.ptr,.any]
abbrev z5W:uh:=⟨[.v Yj,.a zw,.a i64,.a i64],[],JK⟩
abbrev HJ:List Bk:=[.arr (.int .u8)]
abbrev zce:Way:=⟨.normal,⟨[Mb 16,.v Uh,.a qw,.a ql,.a xy,.a qy,.a xp,.a xm],[],Bu⟩⟩
abbrev Sr:Way:=⟨.ret,⟨[Mb 2],[],[]⟩⟩
abbrev z5X:uh:=⟨[Mi 3,Mi 9],[],[]⟩
abbrev z5Y:uh:=⟨[.s 0 (.sub 0 i64),.a i64],[],jU⟩
abbrev Wl:Way:=⟨.exit 0,X1⟩
abbrev z5g:uh:=⟨[.s 0 (.sub 0 i64),Mi 10,Mi 11,.a i64],[],jU⟩
abbrev z5h:uh:=⟨[.a i64,.v IZ,.a zw,.a i64,.v (.st [.un,.un]),.v zaP,.a i64],[],z4Y⟩
abbrev z5i:uh:=⟨[.s 0 (.sub 0 i64),Mi 7,Mi 8,.a i64],[],jU⟩
abbrev No:uh:=⟨[.v (.qs xa)],[(0,.ptr 0 0)],Wi⟩
abbrev Np:uh:=⟨[.a i64],[(0,.cur 0 i64)],jU⟩
abbrev z5j:uh:=⟨[Mm 7 (.int .u64),Mi 8,.a u32],[(6,.cur 0 u32)],gV⟩
abbrev QJ:List AK:=[.ptr,.any,.any]
abbrev z56:Dk:=.st [.row 1 zm,.row 2 .bool,.row 3 zm,.row 4 i64,.row 5 zk,.row 6 .bool]
abbrev z5k:uh:=⟨[Mb 0,.v (.qs i64)],[],[.cvar (.ptr 1 0),.var (.qs i64)]⟩
abbrev z5l:uh:=⟨[.v sT,.a i64,.a i64,.a i64],[(10,.cur 3 i64)],CK⟩
abbrev Z3:List Bk:=[.arr zm]
abbrev HI:List Bk:=[.var (.qs uH)]
abbrev z5Z:Way:=⟨.ret,⟨[Mb 4,.v Yj,.a zw,.a i64,.a i64],[],JK⟩⟩
abbrev z5m:uh:=⟨[.v (.st [.nl,.nl]),.v Sd,.v (.qs wM),.a zw,.a i64],[],S5⟩
abbrev Ng:List Bk:=[.arr i64,.arr i64,.var CQ]
abbrev z5n:uh:=⟨[Mm 14 (.sl u32),.a u32],[(13,.cur 0 u32)],gV⟩
abbrev Nq:uh:=⟨[Mm 0 (.sl u32)],[],[]⟩
abbrev z5o:uh:=⟨[.a zw,.a i64,.v (.st [.un,.un]),.v zaO,.a i64],[],z4Z⟩
abbrev Nh:List Bk:=[.var (.qs xa),.arr wG]
abbrev z5p:uh:=⟨[.s 0 (.sub 0 i64),Mi 1,.a i64],[],jU⟩
abbrev z5q:uh:=⟨[.s 0 (.sub 0 i64),Mi 7,.a i64],[],jU⟩
abbrev z5r:uh:=⟨[.v (.qs zm),.v (.qs zm)],[],[.var (.qs zm),.var (.qs zm)]⟩
abbrev z5s:uh:=⟨[Mi 15,.a u32],[(7,.cur 0 u32)],gV⟩
abbrev z5t:uh:=⟨[.v (.qs .expr),.v (.qs i64),.v (.qs i64)],[],z50⟩
abbrev z61:Way:=⟨.normal,⟨[Mb 16,.a .str],[(0,.cur 0 .str)],nS⟩⟩
abbrev z62:Way:=⟨.normal,⟨[Mb 44,.v (.qs xn)],[],Ug⟩⟩
abbrev z5u:uh:=⟨[Mm 1 gU,.v (.qs xa)],[(0,.ptr 0 0)],Wi⟩
abbrev z63:Way:=⟨.exit 0,⟨[.v CN,.v CO,.a qq,.a qq],[],z55⟩⟩
abbrev Ni:List Bk:=[.arr i64,.var (.qs zw)]
abbrev z65:Way:=⟨.exit 0,⟨[.a u32],[(5,.cur 0 u32)],gV⟩⟩
abbrev z68:Way:=⟨.exit 0,⟨[.a u32],[(6,.cur 0 u32)],gV⟩⟩
abbrev Nj:List Bk:=[.var (.qs i64)]
abbrev z4S:List Bk:=[.arr zm,.var (.qs zm),.var (.qs zm),.var (.qs zm)]
abbrev z5v:uh:=⟨[.a zk],[(0,.cur 0 zk)],[.arr zk]⟩
abbrev z5w:uh:=⟨[Mi 25,.a .str],[(0,.cur 0 .str)],nS⟩
abbrev z69:Way:=⟨.exit 0,⟨[.a .bool],[(5,.cur 0 .bool)],[.arr .bool]⟩⟩
abbrev Nk:List Bk:=[.var (.qs wM),.arr .str]
abbrev z5x:uh:=⟨[Mm 0 .nil,.v (.qs jC)],[],IY⟩
abbrev z4T:List Bk:=[.var z57,.var z5a,.arr zk,.arr zk]
abbrev z5y:uh:=⟨[Ms 0,.v (.qs xn)],[],Ug⟩
abbrev z5z:uh:=⟨[Mm 0 qz,Mm 1 qg],[],[]⟩
abbrev z5A:uh:=⟨[.s 3 (.sub 0 (.int .u8)),.a (.int .u8)],[],HJ⟩
abbrev Ko:uh:=⟨[],[],[]⟩
abbrev z4U:List Bk:=[.var sT,.arr i64,.arr i64,.var .mp]
abbrev z4V:List Bk:=[.var z5f,.var z5e,.arr .str,.arr .str,.arr .str]
abbrev z5B:uh:=⟨[.a (.int .u8)],[(3,.cur 0 (.int .u8))],HJ⟩
abbrev z5C:uh:=⟨[.v Km,.a (.int .u8)],[(0,.ptr 0 0)],QZ⟩
abbrev z5D:uh:=⟨[.a .bool],[(0,.cur 0 .bool)],[.arr .bool]⟩
abbrev z5E:uh:=⟨[.a zm],[(9,.cur 0 zm)],Z3⟩
abbrev z5F:uh:=⟨[.a zm],[(0,.cur 0 zm)],Z3⟩
abbrev En:List AK:=[.any,.any,.ptr]
abbrev z5G:uh:=⟨[.a .str],[(4,.cur 0 .str)],nS⟩
abbrev z5H:uh:=⟨[.v (.qs i64)],[],Nj⟩
abbrev z5I:uh:=⟨[Mi 13],[],[]⟩
abbrev Eo:Dk:=.st [.nl,.nl]
abbrev Ep:Dk:=.st [.un,.un]
abbrev z5J:uh:=⟨[Mm 0 qg],[],[]⟩
abbrev z5K:uh:=⟨[Mi 0],[],[]⟩
abbrev z5L:uh:=⟨[Mi 7],[],[]⟩
abbrev z5M:uh:=⟨[Mm 6 (.sl .str)],[],[]⟩
abbrev Nl:List Bk:=[.var (.qs zm)]
abbrev Nr:Way:=⟨.exit 0,HK⟩
abbrev Ns:Way:=⟨.exit 0,Sn⟩
abbrev HH:List AK:=[.any,.any]
abbrev z5N:uh:=⟨[Mm 0 qz],[],[]⟩
abbrev Nn:List Bk:=[.arr zk]
abbrev z5O:uh:=⟨[Mb 0],[],[]⟩
abbrev z5P:uh:=⟨[.a (.int .u8)],[],HJ⟩
def zoc:Hints:=Hz [] [(0,1,.flat [Mb 2])] []
theorem zjP:zy Pz 157 ⟨[.ty (.int .u8)],[.bool],λx=>cG x⟩:=wi t0 rn zoc func157 [] zf
def t1:=t0.d zjP
def zop:Hints:=Hz [] [(0,1,.flat [Mb 2])] []
theorem zkI:zy Pz 216 ⟨[.ty (.int .u8)],[.bool],λx=>ko x⟩:=wi t1 rn zop func216 [] zf
def t2:=t1.d zkI
theorem zjQ:zy Pz 158 ⟨[.ty (.int .u8)],[.bool],λx=>cf x⟩:=wi t2 rn hN func158 [] zf
def t3:=t2.d zjQ
def z3r:q8:=Lz [] [Ms 0,Mi 18] ⟨[Mi 19],[],[]⟩ [jF,Sr] λp s=>Q3 p.1 p.2 s
def h89:Hints:=Hz [(0,z3r)] [(0,1,.ways [⟨.normal,⟨[Mb 16],[],[]⟩⟩])] []
theorem zex:LO Tryz.f89 z3r 0:=lk t3 rn h89 [] zf
theorem zr0:zy Pz 89 ⟨[.ty .str],[.bool],λx=>uX x⟩:=wi t3 rn h89 func89 [0] (qe rfl zex zf)
def t4:=t3.d zr0
theorem zqZ:zy Pz 88 ⟨[.ty qw],[.bool],λx=>yU x⟩:=wi t4 (rz [1]) hN func88 [] zf
def t5:=t4.d zqZ
def z3n:q8:=Lz [] [Mm 0 (.sl qw),.s 1 (.wo 88 []),Mi 7] cF [jF,nT] λp s=>vb p.1 (λz0=>yU z0) p.2.2 s
def h70:Hints:=Hz [(0,z3n)] [] []
theorem zet:LO Tryz.f70 z3n 0:=lk t5 rn h70 [] zf
theorem zqJ:zy Pz 70 ⟨[.ty (.sl qw),.wo 88 []],[i64],λx=>wh x.1 (λz0=>yU z0)⟩:=wi t5 rn h70 func70 [0] (qe rfl zet zf)
def t6:=t5.d zqJ
theorem zqt:zy Pz 52 ⟨[.ty (.sl qw),.wo 88 []],[.bool],λx=>vO x.1 (λz0=>yU z0)⟩:=wi t6 rn hN func52 [] zf
def t7:=t6.d zqt
def zod:Hints:=Hz [] [(0,1,.flat [Mb 2])] []
theorem zjR:zy Pz 159 ⟨[.ty (.sl u32)],[.bool],λx=>Qh x⟩:=wi t7 rn zod func159 [] zf
def t8:=t7.d zjR
def Oi:q8:=Lz [] [] Nq [⟨.exit 0,Nq⟩] λp s=>tw  s
def zgq:Hints:=Hz [(0,Oi)] [] []
theorem z8e:LO Tryz.f127 Oi 0:=lk t8 rn zgq [] zf
theorem zjn:zy Pz 127 ⟨[.ty (.sl u32)],[(.sl u32)],λx=>ue x⟩:=wi t8 rn zgq func127 [0] (qe rfl z8e zf)
def t9:=t8.d zjn
def zok:Hints:=Hz [] [(0,1,.Bg)] []
theorem zk6:zy Pz 178 ⟨[.ty (.sl u32)],[(.sl u32)],λx=>yl x⟩:=wi t9 rn zok func178 [] zf
def t10:=t9.d zk6
theorem zjk:zy Pz 124 ⟨[.ty (.sl u32)],[(.sl u32)],λx=>iQ x⟩:=wi t10 rn hN func124 [] zf
def t11:=t10.d zjk
def OG:q8:=Lz [] [Mm 0 (.sl u32),Mm 1 (.sl u32)] L8 [jF,nT] λp s=>rW p.1 p.2 s
def zgB:Hints:=Hz [(0,OG)] [] []
theorem z8y:LO Tryz.f160 OG 0:=lk t11 rn zgB [] zf
theorem zjS:zy Pz 160 ⟨[.ty (.sl u32),.ty (.sl u32)],[i64],λx=>tq x.1 x.2⟩:=wi t11 rn zgB func160 [0] (qe rfl z8y zf)
def t12:=t11.d zjS
def zos:Hints:=Hz [] [(0,1,.flat [Mb 15])] []
theorem zkV:zy Pz 234 ⟨[.ty u32,.ty u32,.ty u32],[u32,u32],λx=>eU x.1 x.2.1 x.2.2⟩:=wi t12 rn zos func234 [] zf
def t13:=t12.d zkV
def OL:q8:=Lz [] [Mm 0 (.sl u32),Mm 1 u32] ⟨[Mm 7 u32,Mi 8,.a u32],[(6,.cur 0 u32)],gV⟩ [⟨.exit 0,⟨[Mm 7 u32,.a u32],[(6,.cur 0 u32)],gV⟩⟩] λp s=>pc p.1 p.2 s
def zgE:Hints:=Hz [(0,OL)] [] [(7,[6])]
theorem z8D:LO Tryz.f179 OL 0:=lk t13 rn zgE [] zf
theorem zk7:zy Pz 179 ⟨[.ty (.sl u32),.ty u32],[(.sl u32),u32],λx=>pK x.1 x.2⟩:=wi t13 rn zgE func179 [0] (qe rfl z8D zf)
def t14:=t13.d zk7
theorem zqG:zy Pz 66 ⟨[.ty (.int .u64)],[(.sl u32)],λx=>iL x⟩:=wi t14 rn hN func66 [] zf
def t15:=t14.d zqG
def zoB:Hints:=Hz [] [(3,1,.flat [Mm 0 u32,Mi 2]),(3,4,.flat [Mm 0 u32,Mi 2])] []
theorem zlQ:zy Pz 301 ⟨[.ty u32],[i64],λx=>eV x⟩:=wi t15 rn zoB func301 [] zf
def t16:=t15.d zlQ
theorem zkW:zy Pz 235 ⟨[.ty u32],[i64],λx=>ku x⟩:=wi t16 rn hN func235 [] zf
def t17:=t16.d zkW
def P3:q8:=Lz [] [Mm 1 (.int .u64),Mi 2,Mm 13 (.sl u32),Mi 14] z5s [z6a] λp s=>Vh p.1 p.2.1 p.2.2.1 p.2.2.2 s
def zgR:Hints:=Hz [(0,P3)] [] []
theorem z8V:LO Tryz.f236 P3 0:=lk t17 rn zgR [] zf
theorem zbT:xw Pz 236 ⟨[.any,.any,.any],⟨[Mm 0 (.sl u32),Mm 1 (.int .u64),Mi 2],[],[]⟩,[],⟨[.a u32],[(0,.cur 0 u32)],gV⟩,1,λx=>rY x.1 x.2.1 x.2.2⟩:=dW t17 rn zgR func236 [0] (qe rfl z8V zf)
def t18:=t17.s zbT
def P4:q8:=Lz [] [Mm 2 u32,Mm 3 u32,Mm 4 u32] ⟨[Mm 12 (.int .u64),Mm 13 (.int .u64)],[],[]⟩ [⟨.exit 0,⟨[Mm 12 (.int .u64)],[],[]⟩⟩] λp s=>iR p.1 p.2.1 p.2.2 s
def zgS:Hints:=Hz [(0,P4)] [(0,3,.flat [Mb 42])] []
theorem z8W:LO Tryz.f237 P4 0:=lk t18 rn zgS [] zf
theorem zkX:zy Pz 237 ⟨[.ty u32,.ty u32,.ty u32,.ty u32,.ty u32],[(.int .u64)],λx=>pJ x.1 x.2.1 x.2.2.1 x.2.2.2.1 x.2.2.2.2⟩:=wi t18 rn zgS func237 [0] (qe rfl z8W zf)
def t19:=t18.d zkX
theorem zlR:zy Pz 302 ⟨[.ty u32,.ty u32,.ty u32],[u32,u32],λx=>y7 x.1 x.2.1 x.2.2⟩:=wi t19 rn hN func302 [] zf
def t20:=t19.d zlR
theorem zlS:zy Pz 303 ⟨[.ty u32,.ty u32,.ty u32],[u32,u32],λx=>eT x.1 x.2.1 x.2.2⟩:=wi t20 rn hN func303 [] zf
def t21:=t20.d zlS
def P5:q8:=Lz [] [Mm 1 (.sl u32),Mm 2 (.int .u64),Mm 14 (.sl u32),Mi 15] ⟨[.s 0 (.sub 0 u32),Mm 7 (.int .u64),Mm 8 u32,Mi 16,.a u32],[],gV⟩ [⟨.exit 0,⟨[.s 0 (.sub 0 u32),Mm 7 (.int .u64),Mm 8 u32,.a u32],[],gV⟩⟩] λp s=>iS p.1 p.2.1 p.2.2.1 p.2.2.2 s
def P6:q8:=Lz [] [Mm 1 (.sl u32),Mm 62 (.sl u32),Mi 63] ⟨[.s 0 (.sub 0 u32),Mm 11 u32,Mi 64,.a u32],[],gV⟩ [⟨.exit 2,⟨[.s 0 (.sub 0 u32),Mm 11 u32,.a u32],[],gV⟩⟩] λp s=>iT p.1 p.2.1 p.2.2 s
def zd9:Hints:=Hz [(0,P5),(2,P6)] [] []
theorem z8X:LO Tryz.f238 P5 0:=lk t21 rn zd9 [] zf
theorem z8Y:LO Tryz.f238 P6 2:=lk t21 rn zd9 [] zf
theorem zkY:xw Pz 238 ⟨[.sub,.any,.any],⟨[.s 0 (.sub 0 u32),Mm 1 (.sl u32),Mm 2 (.int .u64),.a u32],[],gV⟩,[],⟨[Mb 0,.a u32],[],gV⟩,1,λx=>tv x.1 x.2.1 x.2.2.1 x.2.2.2⟩:=dW t21 rn zd9 func238 [0,2] (qe rfl z8X (qe rfl z8Y zf))
def t22:=t21.s zkY
def C4:q8:=Lz [] [Mm 1 (.int .u64),Mi 2,Mm 13 (.sl u32),Mi 14] z5s [z6a] λp s=>nE p.1 p.2.1 p.2.2.1 p.2.2.2 s
def z1w:Hints:=Hz [(0,C4)] [] []
theorem TB:LO Tryz.f236 C4 0:=lk t22 rn z1w [] zf
theorem Rw:zy Pz 236 ⟨[.ty (.sl u32),.ty (.int .u64),.ty i64],[(.sl u32)],λx=>J7 x.1 x.2.1 x.2.2⟩:=wi t22 rn z1w func236 [0] (qe rfl TB zf)
def t23:=t22.d Rw
def zfT:Tb:=t23.d Rw
def P7:q8:=Lz [] [Mm 6 (.int .u64),Mm 38 (.sl u32),Mi 39] ⟨[Mi 40,.a u32],[(7,.cur 0 u32)],gV⟩ [z6a] λp s=>iP p.1 p.2.1 p.2.2 s
def zgT:Hints:=Hz [(0,P7)] [] [(17,[7]),(21,[12])]
theorem z8Z:LO Tryz.f239 P7 0:=lk zfT rn zgT [] zf
theorem zkZ:zy Pz 239 ⟨[.ty (.sl u32),.ty i64],[(.sl u32)],λx=>mr x.1 x.2⟩:=wi zfT rn zgT func239 [0] (qe rfl z8Z zf)
def t24:=t23.d zkZ
def zfS:Tb:=t24.s zbT
def OM:q8:=Lz [] [Mm 6 (.int .u64),Mm 8 (.sl u32),Mi 9] ⟨[Mi 10,.a u32,.a u32],[(4,.cur 2 u32),(7,.cur 0 u32)],[.arr u32,.dead,.arr u32]⟩ [⟨.exit 0,⟨[.a u32,.a u32],[(4,.cur 2 u32),(7,.cur 0 u32)],[.arr u32,.dead,.arr u32]⟩⟩] λp s=>nF p.1 p.2.1 p.2.2 s
def zgF:Hints:=Hz [(0,OM)] [(3,9,.ways [⟨.normal,⟨[Mm 11 (.int .u64),.a u32,.a u32],[(4,.cur 2 u32),(7,.cur 0 u32)],[.arr u32,.dead,.arr u32]⟩⟩])] [(5,[8]),(12,[4,7])]
theorem z8E:LO Tryz.f180 OM 0:=lk zfS rn zgF [] zf
theorem zk8:zy Pz 180 ⟨[.ty (.sl u32),.ty (.sl u32)],[(.sl u32),(.sl u32)],λx=>J8 x.1 x.2⟩:=wi zfS rn zgF func180 [0] (qe rfl z8E zf)
def t25:=t24.d zk8
theorem zjm:zy Pz 126 ⟨[.ty (.sl u32),.ty (.sl u32)],[(.sl u32),(.sl u32),.bool],λx=>dI x.1 x.2⟩:=wi t25 rn hN func126 [] zf
def t26:=t25.d zjm
def Oh:q8:=Lz [] [] ⟨[Mm 0 (.sl u32),Mm 1 (.sl u32)],[],[]⟩ [⟨.exit 0,Nq⟩] λp s=>rX  s
def zgp:Hints:=Hz [(0,Oh)] [] []
theorem z8d:LO Tryz.f125 Oh 0:=lk t26 rn zgp [] zf
theorem zjl:zy Pz 125 ⟨[.ty (.sl u32),.ty (.sl u32)],[(.sl u32)],λx=>WG x.1 x.2⟩:=wi t26 rn zgp func125 [0] (qe rfl z8d zf)
def t27:=t26.d zjl
def h91:Hints:=Hz [] [(0,1,.ways [⟨.normal,⟨[Mb 28],[],[]⟩⟩])] []
theorem zr2:zy Pz 91 ⟨[.ty zm],[.bool],λx=>tU x⟩:=wi t27 (rz [1]) h91 func91 [] zf
def t28:=t27.d zr2
def h65:Hints:=Hz [] [(0,2,.flat [Mb 19])] []
theorem zqF:zy Pz 65 ⟨[.ty .bool,.ty (.sl u32),.ty (.sl u32)],[zm],λx=>sa x.1 x.2.1 x.2.2⟩:=wi t28 rn h65 func65 [] zf
def t29:=t28.d zqF
theorem zqc:zy Pz 32 ⟨[.ty zm],[zm],λx=>vN x⟩:=wi t29 (rz [1]) hN func32 [] zf
def t30:=t29.d zqc
def h92:Hints:=Hz [] [(0,2,.flat [Mb 2])] []
theorem zr3:zy Pz 92 ⟨[.ty zm],[.bool],λx=>cK x⟩:=wi t30 rn h92 func92 [] zf
def t31:=t30.d zr3
theorem zr1:zy Pz 90 ⟨[.ty ql],[.bool],λx=>yV x⟩:=wi t31 (rz [1]) hN func90 [] zf
def t32:=t31.d zr1
def Of:q8:=Lz [] [Mm 0 (.sl ql),.s 1 (.wo 90 []),Mi 7] cF [jF,nT] λp s=>j9 p.1 (λz0=>yV z0) p.2.2 s
def zgm:Hints:=Hz [(0,Of)] [] []
theorem z8b:LO Tryz.f111 Of 0:=lk t32 rn zgm [] zf
theorem zjd:zy Pz 111 ⟨[.ty (.sl ql),.wo 90 []],[i64],λx=>vQ x.1 (λz0=>yV z0)⟩:=wi t32 rn zgm func111 [0] (qe rfl z8b zf)
def t33:=t32.d zjd
theorem zqz:zy Pz 58 ⟨[.ty (.sl ql),.wo 90 []],[.bool],λx=>vW x.1 (λz0=>yV z0)⟩:=wi t33 rn hN func58 [] zf
def t34:=t33.d zqz
theorem zr6:zy Pz 95 ⟨[.ty .str],[.bool],λx=>lr x⟩:=wi t34 rn hN func95 [] zf
def t35:=t34.d zr6
theorem zr5:zy Pz 94 ⟨[.ty xy],[.bool],λx=>yW x⟩:=wi t35 (rz [1]) hN func94 [] zf
def t36:=t35.d zr5
def Oq:q8:=Lz [] [Mm 0 (.sl xy),.s 1 (.wo 94 []),Mi 7] cF [jF,nT] λp s=>yp p.1 (λz0=>yW z0) p.2.2 s
def zgt:Hints:=Hz [(0,Oq)] [] []
theorem z8l:LO Tryz.f142 Oq 0:=lk t36 rn zgt [] zf
theorem zjB:zy Pz 142 ⟨[.ty (.sl xy),.wo 94 []],[i64],λx=>j4 x.1 (λz0=>yW z0)⟩:=wi t36 rn zgt func142 [0] (qe rfl z8l zf)
def t37:=t36.d zjB
theorem zr4:zy Pz 93 ⟨[.ty (.sl xy),.wo 94 []],[.bool],λx=>ym x.1 (λz0=>yW z0)⟩:=wi t37 rn hN func93 [] zf
def t38:=t37.d zr4
theorem zqn:zy Pz 46 ⟨[.ty qz],[.bool],λx=>tH x⟩:=wi t38 (rz [1]) hN func46 [] zf
def t39:=t38.d zqn
def h96:Hints:=Hz [] [(0,1,.flat [Mb 6])] []
theorem zr7:zy Pz 96 ⟨[.ty i64,.ty i64,.ty i64],[.bool],λx=>lq x.1 x.2.1 x.2.2⟩:=wi t39 rn h96 func96 [] zf
def t40:=t39.d zr7
def z3b:q8:=Lz [] [Mr 1 qz,Mm 7 (.sl qy),Mi 8] z5X [jF,Sr] λp s=>oq p.1 p.2.1 p.2.2 s
def h47:Hints:=Hz [(0,z3b)] [(0,5,.ways [⟨.normal,⟨[Mb 36,.v (.qs qy)],[],[.var (.qs qy)]⟩⟩])] []
theorem zeh:LO Tryz.f47 z3b 0:=lk t40 (rz [1]) h47 [] zf
theorem zqo:zy Pz 47 ⟨[.ty qz],[.bool],λx=>pz x⟩:=wi t40 (rz [1]) h47 func47 [0] (qe rfl zeh zf)
def t41:=t40.d zqo
theorem zr8:zy Pz 97 ⟨[],[(.sl .str)],λ_=>bJ⟩:=wi t41 rn hN func97 [] zf
def t42:=t41.d zr8
def zou:Hints:=Hz [] [(3,2,.flat [Mb 4])] []
theorem zlD:zy Pz 279 ⟨[.ty i64],[i64],λx=>Wy x⟩:=wi t42 rn zou func279 [] zf
def t43:=t42.d zlD
def PD:q8:=Lz [] [Mm 1 (.sl u32),Mi 6,Mm 7 u32,Mm 21 (.sl u32),Mi 22,Mi 23,Mm 28 (.sl u32),Mi 29] ⟨[Mm 8 (.int .u64),Mi 30,.a u32],[(5,.cur 0 u32)],gV⟩ [⟨.exit 2,⟨[Mm 8 (.int .u64),.a u32],[(5,.cur 0 u32)],gV⟩⟩] λp s=>VU p.1 p.2.1 p.2.2.1 p.2.2.2.1 p.2.2.2.2.1 p.2.2.2.2.2.1 p.2.2.2.2.2.2.1 p.2.2.2.2.2.2.2 s
def PC:q8:=Lz [] [Mm 1 (.sl u32),Mm 21 (.sl u32),Mi 22] ⟨[Mi 23,.a u32],[(5,.cur 0 u32)],gV⟩ [z65] λp s=>VT p.1 p.2.1 p.2.2 s
def zdc:Hints:=Hz [(2,PD),(0,PC)] [] [(16,[5])]
theorem z9q:LO Tryz.f300 PD 2:=lk t43 rn zdc [] zf
theorem z9p:LO Tryz.f300 PC 0:=lk t43 rn zdc [2] (qe rfl z9q zf)
theorem zlP:zy Pz 300 ⟨[.ty (.sl u32),.ty (.sl u32)],[(.sl u32)],λx=>iK x.1 x.2⟩:=wi t43 rn zdc func300 [0] (qe rfl z9p zf)
def t44:=t43.d zlP
def P2:q8:=Lz [] [Mi 5] ⟨[Mm 3 (.sl u32),Mi 6],[],[]⟩ [⟨.exit 0,⟨[Mm 3 (.sl u32)],[],[]⟩⟩] λp s=>VG p s
def zgQ:Hints:=Hz [(0,P2)] [] []
theorem z8U:LO Tryz.f233 P2 0:=lk t44 rn zgQ [] zf
theorem zkU:zy Pz 233 ⟨[.ty i64],[(.sl u32)],λx=>UB x⟩:=wi t44 rn zgQ func233 [0] (qe rfl z8U zf)
def t45:=t44.d zkU
theorem zjW:zy Pz 164 ⟨[.ty zm],[.str],λx=>Xk x⟩:=wi t45 (rz [1]) hN func164 [] zf
def t46:=t45.d zjW
def P0:q8:=Lz [] [] ⟨[.s 0 (.sub 0 (.int .u8)),Mi 2,Mi 3,.a (.int .u8)],[],HJ⟩ [⟨.exit 0,z5P⟩] λp s=>jk  s
def zgO:Hints:=Hz [(0,P0)] [] []
theorem z8S:LO Tryz.f220 P0 0:=lk t46 rn zgO [] zf
theorem zkL:xw Pz 220 ⟨[.sub],⟨[.s 0 (.sub 0 (.int .u8)),.a (.int .u8)],[],HJ⟩,[],z5P,0,λx=>kA x.1 x.2⟩:=dW t46 rn zgO func220 [0] (qe rfl z8S zf)
def t47:=t46.s zkL
def OJ:q8:=Lz [] [Mm 4 (.sl u32)] ⟨[Mm 5 u32,Mi 19,.a (.int .u8)],[(3,.cur 0 (.int .u8))],HJ⟩ [⟨.exit 2,z5B⟩] λp s=>iN p s
def OI:q8:=Lz [.slot 3 (.int .u8)] [] ⟨[Mm 0 (.sl u32),.a (.int .u8)],[(3,.cur 0 (.int .u8))],HJ⟩ [⟨.exit 0,z5B⟩] λp s=>iM  s
def OK:q8:=Lz [] [] z5A [⟨.exit 4,z5A⟩] λp s=>iO  s
def z7h:Hints:=Hz [(2,OJ),(0,OI),(4,OK)] [(0,13,.flat [Mb 42])] []
theorem z8B:LO Tryz.f165 OJ 2:=lk t47 rn z7h [] zf
theorem z8A:LO Tryz.f165 OI 0:=lk t47 rn z7h [2] (qe rfl z8B zf)
theorem z8C:LO Tryz.f165 OK 4:=lk t47 rn z7h [] zf
theorem zjX:zy Pz 165 ⟨[.ty (.sl u32)],[.str],λx=>mq x⟩:=wi t47 rn z7h func165 [0,4] (qe rfl z8A (qe rfl z8C zf))
def t48:=t47.d zjX
theorem zmC:zy Tryz.prog 358 ⟨[.ty .str,.ty i64],[.str],λx=>strings_Repeat x.1 x.2⟩:=by
 refine jJ Tryz.func358 (by kernel_rfl) rfl λO x xc y hy hI ha => ?_
 obtain⟨s,n⟩:=x
 obtain⟨⟨h0,h1,X⟩,hy⟩:=hy
 cases hy
 obtain⟨v0,r,rfl,Yt,ha⟩:=wQ.cons_inv (show wQ O [.qs .str s,.qs i64 n] xc from ha)
 obtain⟨v1,r,rfl,M0,ha⟩:=ha.cons_inv
 rw[ha.wj,Yt.jl,M0.dX]
 obtain⟨m,rfl⟩:=Int.eq_ofNat_of_zero_le h0
 refine(Go.Proofs.Tryz.strings_Repeat ⟨s.toArray⟩ m O.w (by simp only at h1; omega) (by rw[show(zF ⟨s.toArray⟩)=zH s from Y]; simpa using X)).mono ?_
 rintro e w' ⟨rfl,hB⟩
 refine⟨hB,λ_=>⟨_,rfl,?_⟩⟩
 have e1:Lib.repeatL s m=E3 s m:=RQ s m
 have e2:(Int.toNat (m:Int))=m:=by omega
 show RD _ (.qs .str (E3 s (Int.toNat (m:Int)))) _
 rw[e2,<- e1]
 exact RD.str
def t49:=t48.d zmC
theorem zmf:zy Pz 327 ⟨[.ty .str,.ty i64],[.str],λx=>sY x.1 x.2⟩:=wi t49 rn hN func327 [] zf
def t50:=t49.d zmf
def Py:q8:=Lz [] [] ⟨[Mi 10,.v (.qs zm)],[(1,.ptr 0 0)],Nl⟩ [⟨.exit 0,⟨[.v (.qs zm)],[],Nl⟩⟩,⟨.ret,⟨[Ms 2,Mb 3,.v (.qs zm)],[],Nl⟩⟩] λp s=>ZR  s
def zh9:Hints:=Hz [(0,Py)] [] []
theorem z9n:LO Tryz.f283 Py 0:=lk t50 rn zh9 [] zf
theorem zlG:zy Pz 283 ⟨[.ty zm],[.str,.bool],λx=>Zb x⟩:=wi t50 rn zh9 func283 [0] (qe rfl z9n zf)
def t51:=t50.d zlG
def zow:Hints:=Hz [] [(0,1,.ways [⟨.normal,⟨[Mb 15],[],[]⟩⟩])] []
theorem zlE:zy Pz 280 ⟨[.ty zm],[.bool],λx=>Q4 x⟩:=wi t51 (rz [1]) zow func280 [] zf
def t52:=t51.d zlE
theorem zlF:zy Pz 281 ⟨[.ty zm],[.bool],λx=>nu x⟩:=wi t52 (rz [1]) hN func281 [] zf
def t53:=t52.d zlF
theorem zkJ:zy Pz 217 ⟨[.ty .expr],[.bool],λx=>nt x⟩:=wi t53 (rz [1]) hN func217 [] zf
def t54:=t53.d zkJ
abbrev HW:=uh.den Sh->T (uh.den Sl)
abbrev Sx(F:HW):=xw Pz 161 ⟨En,Sh,[],Sl,1,F⟩
theorem zkK(yH:HW)(tk:Sx yH):xw Pz 218 ⟨En,⟨[Mm 0 .expr,Mr 1 i64,.v (.qs i64)],[(2,.ptr 0 0)],[.cvar (.ptr 1 0),.var (.qs i64)]⟩,[],z5k,1,λx=>mQ (λy0 y1 y2=>yH (y0,y1,y2)) x.1 x.2.1 x.2.2⟩:=dW (t54.s tk) (rz [3]) hN func218 [] zf
def zfQ(yH:HW)(tk:Sx yH):Tb:=t54.s (zkK _ tk)
def Og(yH:HW):q8:=Lz [] [Mm 0 (.sl .expr),Mi 7] ⟨[.s 1 (.mclo 218 [.rp i64,.pt 0]),Mi 8,.v (.qs i64)],[],[.cvar (.ptr 1 0),.var (.qs i64)]⟩ [⟨.exit 0,⟨[.v (.qs i64)],[],[.cvar (.ptr 1 0),.var (.qs i64)]⟩⟩,⟨.ret,⟨[Mi 4,.v (.qs i64)],[],[.cvar (.ptr 1 0),.var (.qs i64)]⟩⟩] λp s=>wX (λy0 y1 y2=>yH (y0,y1,y2)) p.1 p.2 s
def zgn(yH:HW):Hints:=Hz [(0,Og yH)] [] []
theorem z8c(yH:HW)(tk:Sx yH):LO Tryz.f114 (Og yH) 0:=lk (zfQ yH tk) rn (zgn yH) [] zf
theorem zjg(yH:HW)(tk:Sx yH):xw Pz 114 ⟨[.any,.wo 218],zc9,[],⟨[Mi 0,.v (.qs i64)],[],[.cvar (.ptr 1 0),.var (.qs i64)]⟩,1,λx=>vq (λy0 y1 y2=>yH (y0,y1,y2)) x.1 x.2.1 x.2.2⟩:=dW (zfQ yH tk) rn (zgn yH) func114 [0] (qe rfl (z8c yH tk) zf)
theorem zqC(yH:HW)(tk:Sx yH):xw Pz 61 ⟨[.any,.wo 218],zc9,[],z5k,1,λx=>wW (λy0 y1 y2=>yH (y0,y1,y2)) x.1 x.2.1 x.2.2⟩:=dW (t54.s (zjg _ tk)) rn hN func61 [] zf
def zoe(yH:HW):Hints:=Hz [] [(0,2,.ways [⟨.normal,⟨[Mb 24,.v (.qs i64)],[],[.var (.qs i64),.cvar (.ptr 0 0)]⟩⟩])] []
theorem za4(yH:HW)(tk:Sx yH):xw Pz 161 ⟨En,Sh,[],Sl,1,λx=>iF (λy0 y1 y2=>yH (y0,y1,y2)) x.1 x.2.1 x.2.2⟩:=dW (t54.s (zqC _ tk)) (rz [3,4]) (zoe yH) func161 [] zf
theorem zjT:xw Pz 161 ⟨En,Sh,[],Sl,1,λx=>Q5 x.1 x.2.1 x.2.2⟩:=Ys (λyH x=>iF (λy0 y1 y2=>yH (y0,y1,y2)) x.1 x.2.1 x.2.2) (λx=>rfl) (λyH tk=>za4 yH tk)
def t55:=t54.s zjT
theorem zr9:zy Pz 98 ⟨[.ty .expr],[.bool],λx=>iE x⟩:=wi t55 (rz [1]) hN func98 [] zf
def t56:=t55.d zr9
theorem zj4:zy Pz 101 ⟨[],[(.sl .str)],λ_=>y9⟩:=wi t56 rn hN func101 [] zf
def t57:=t56.d zj4
theorem zj3:zy Pz 100 ⟨[.ty xp],[.bool],λx=>y8 x⟩:=wi t57 (rz [1]) hN func100 [] zf
def t58:=t57.d zj3
def OH:q8:=Lz [] [Mm 0 (.sl xp),.s 1 (.wo 100 []),Mi 7] cF [jF,nT] λp s=>de p.1 (λz0=>y8 z0) p.2.2 s
def zgC:Hints:=Hz [(0,OH)] [] []
theorem z8z:LO Tryz.f162 OH 0:=lk t58 rn zgC [] zf
theorem zjU:zy Pz 162 ⟨[.ty (.sl xp),.wo 100 []],[i64],λx=>hZ x.1 (λz0=>y8 z0)⟩:=wi t58 rn zgC func162 [0] (qe rfl z8z zf)
def t59:=t58.d zjU
theorem zra:zy Pz 99 ⟨[.ty (.sl xp),.wo 100 []],[.bool],λx=>yn x.1 (λz0=>y8 z0)⟩:=wi t59 rn hN func99 [] zf
def t60:=t59.d zra
def z3c:q8:=Lz [] [Mr 1 qz,Mm 7 (.sl xm),Mi 8] z5X [jF,Sr] λp s=>om p.1 p.2.1 p.2.2 s
def h48:Hints:=Hz [(0,z3c)] [(0,5,.ways [⟨.normal,⟨[Mb 50,.v (.qs xm)],[],[.var (.qs xm)]⟩⟩])] []
theorem zei:LO Tryz.f48 z3c 0:=lk t60 (rz [1]) h48 [] zf
theorem zqp:zy Pz 48 ⟨[.ty qz],[.bool],λx=>pw x⟩:=wi t60 (rz [1]) h48 func48 [0] (qe rfl zei zf)
def t61:=t60.d zqp
end Go.AM.Lf
namespace Go.Proofs
section
open Go.RowKit
attribute [local go_sem] zN
set_option maxRecDepth 100000
set_option maxHeartbeats 2000000
theorem X8.size:(Tryz.prog.info? 171).map (·.size)=some 2:=by kernel_rfl
theorem X8.pt:Tryz.prog.underlying 168=some (.pointer 171):=by kernel_rfl
theorem X8.up:Tryz.prog.underlying 295=some .unsafePointer:=by kernel_rfl
theorem X8.used(b:Nat)(w:World)(h0:w.cell? ⟨b,0,none⟩=some (.pointer (some ⟨b,0,none⟩))) :
  Calls Tryz.prog 163 #[.pointer (some ⟨b,0,none⟩)] w λe w'=>e=.returned (.tuple #[])/\w'=w:=by
 obtain⟨j,hj,hjs⟩:=qG.1 X8.size
 go_enter Tryz.func163,Tryz.ntmps163
 go_wp2
 rw[Lib.run_neq_ptr_same w _ X8.pt hj]
 go_wp2
 go_end0
 exact⟨rfl,rfl⟩
theorem X8.fresh(b:Nat)(w:World)(h0:w.cell? ⟨b,0,none⟩=some (.pointer none))(hsh:w.shape? b=some (171,2))(hfz:w.frozen? ⟨b,0,none⟩=false) :
  Calls Tryz.prog 163 #[.pointer (some ⟨b,0,none⟩)] w λe w'=>e=.returned (.tuple #[])/\w'=w.setCell ⟨b,0,none⟩ (.pointer (some ⟨b,0,none⟩)):=by
 obtain⟨j,hj,hjs⟩:=qG.1 X8.size
 go_enter Tryz.func163,Tryz.ntmps163
 go_wp2
 rw[Lib.run_to_unsafe w ⟨b,0,none⟩ X8.pt X8.up hj (by rw[hjs]; decide) hsh (Nat.zero_lt_succ 1)]
 simp only[qL]
 rw[qH]
 go_wp2
 rw[run_callFunc_extern Tryz.func219 (by kernel_rfl) (by kernel_rfl) (by kernel_rfl) (e:=Extern.AbiNoEscape.same) (by kernel_rfl)]
 rw[Lib.run_noEscape]
 simp only[qL]
 rw[qH]
 go_wp2
 rw[Lib.run_from_unsafe w ⟨b,0,none⟩ X8.up X8.pt hj hsh (by kernel_rfl)]
 simp only[qL]
 rw[qH]
 go_wp2
 go_end0
 exact⟨rfl,rfl⟩
end
end Go.Proofs

namespace Go.AM.Lf
open Go.Proofs Go.Proofs.Tryz
theorem zjV:xw Tryz.prog 163 ⟨[.ptr],z5C,[],HK,0,λx=>tP x.1 x.2⟩:=D7 (P:=Tryz.prog) (g:=163) (t:=171) (enters_of Tryz.func163 (by kernel_rfl) rfl) X8.used X8.fresh
def t62:=t61.s zjV
theorem zj5:xw Pz 102 ⟨lM,⟨[Ms 1,.v Km,.a (.int .u8)],[(0,.ptr 0 0)],QZ⟩,[.pcell 0 1 (.int .u8)],⟨[Mi 0,.v Km,.a (.int .u8)],[(1,.ve)],QZ⟩,2,λx=>xx x.1 x.2.1 x.2.2⟩:=dW t62 rn hN func102 [] zf
def t63:=t62.s zj5
theorem zj6:zy Pz 103 ⟨[.ty zm],[.str],λx=>gE x⟩:=wi t63 rn hN func103 [] zf
def t64:=t63.d zj6
theorem zj8:zy Pz 105 ⟨[.ty .str],[.str],λx=>sD x⟩:=wi t64 rn hN func105 [] zf
def t65:=t64.d zj8
theorem zkM:zy Tryz.prog 221 ⟨[.ty i64],[.str],λx=>strconv_Itoa x⟩:=by
 refine jJ Tryz.func221 (by kernel_rfl) rfl λO n xc y hy hI ha => ?_
 obtain⟨⟨h0,h1⟩,hy⟩:=hy
 cases hy
 obtain⟨v0,r,rfl,Yt,ha⟩:=wQ.cons_inv (show wQ O [.qs i64 n] xc from ha)
 rw[ha.wj,Yt.dX]
 refine(Go.Proofs.Tryz.strconv_Itoa n h0 h1 O.w (fR hI)).mono ?_
 rintro e w' ⟨rfl,k,os,rfl⟩
 refine⟨Ls _ _ _,λ_=>⟨_,rfl,?_⟩⟩
 have e1:Lib.itoa n=Gs n:=z2l n
 show RD _ (.qs .str (Gs n)) _
 rw[<- e1]
 exact RD.str
def t66:=t65.d zkM
def zof:Hints:=Hz [] [(3,2,.flat [Ms 3])] []
theorem zjY:zy Pz 166 ⟨[.ty qy],[.str],λx=>tG x⟩:=wi t66 (rz [1]) zof func166 [] zf
def t67:=t66.d zjY
def zox:Hints:=Hz [] [(3,2,.flat [Mb 5]),(3,5,.flat [Mb 8])] []
theorem zlI:zy Pz 285 ⟨[.ty .expr],[i64],λx=>mf x⟩:=wi t67 (rz [1]) zox func285 [] zf
def t68:=t67.d zlI
abbrev z6F:=eo [.ty .expr]->T (Et [.str])
abbrev zfJ(F:z6F):=zy Pz 222 ⟨[.ty .expr],[.str],F⟩
theorem zlH(X9:z6F)(FC:zfJ X9):zy Pz 284 ⟨[.ty .expr,.ty i64],[.str],λx=>dB (λy0=>X9 (y0)) x.1 x.2⟩:=wi (t68.d FC) (rz [2]) hN func284 [] zf
def zoq(X9:z6F):Hints:=Hz [] [(3,2,.ways [⟨.normal,⟨[Ms 3],[],[]⟩⟩,⟨.ret,⟨[Ms 2],[],[]⟩⟩])] []
theorem za5(X9:z6F)(FC:zfJ X9):zy Pz 222 ⟨[.ty .expr],[.str],λx=>gR (λy0=>X9 (y0)) x⟩:=wi (t68.d (zlH _ FC)) (rz [1]) (zoq X9) func222 [] zf
theorem zkN:zy Pz 222 ⟨[.ty .expr],[.str],λx=>Q6 x⟩:=Gd (λX9 x=>gR (λy0=>X9 (y0)) x) (λx=>rfl) (λX9 FC=>za5 X9 FC)
def t69:=t68.d zkN
theorem zjZ:zy Pz 167 ⟨[.ty .expr],[.str],λx=>rF x⟩:=wi t69 (rz [1]) hN func167 [] zf
def t70:=t69.d zjZ
theorem zj9:zy Pz 106 ⟨[.ty .expr,.ty .str,.ty .expr],[.str],λx=>nP x.1 x.2.1 x.2.2⟩:=wi t70 (rz [3,5]) hN func106 [] zf
def t71:=t70.d zj9
def Ob:q8:=Lz [] [Mi 2,Mr 4 qz,Mm 29 (.sl qy),Mi 30] ⟨[Mi 31,.v Km,.a (.int .u8)],[(0,.ptr 0 0)],QZ⟩ [Nr] λp s=>ow p.1 p.2.1 p.2.2.1 p.2.2.2 s
def Oc:q8:=Lz [] [Mi 2,Mm 45 (.sl xm),Mi 46] ⟨[Mi 47,.v Km,.a (.int .u8)],[(0,.ptr 0 0)],QZ⟩ [⟨.exit 2,HK⟩] λp s=>ox p.1 p.2.1 p.2.2 s
def zcY:Hints:=Hz [(0,Ob),(2,Oc)] [] []
theorem z86:LO Tryz.f104 Ob 0:=lk t71 (rz [4]) zcY [] zf
theorem z88:LO Tryz.f104 Oc 2:=lk t71 (rz [4]) zcY [] zf
theorem zj7:xw Pz 104 ⟨QJ,⟨[Mm 1 qz,Mi 2,.v Km,.a (.int .u8)],[(0,.ptr 0 0)],QZ⟩,[.pcell 0 1 (.int .u8)],HK,0,λx=>pA x.1 x.2.1 x.2.2.1 x.2.2.2⟩:=dW t71 (rz [4]) zcY func104 [0,2] (qe rfl z86 (qe rfl z88 zf))
def t72:=t71.s zj7
end Go.AM.Lf
namespace Go.Proofs
section
open Go.RowKit
attribute [local go_sem] zN
set_option maxRecDepth 100000
set_option maxHeartbeats 2000000
theorem X8.mixed:Tryz.prog.follows .mixedOrders=true:=by kernel_rfl
theorem X8.pb:Tryz.prog.underlying 241=some (.pointer 5):=by kernel_rfl
theorem X8.c5:Tryz.prog.cellsOf 5=1:=by kernel_rfl
theorem X8.z3F(zl:World)(q:Option Addr):(qI #[241,3] 9 #[.pointer q,.int .i64 0]).run Tryz.prog zl=.ok (.string .empty) zl:=Lib.run_unsafeString_none zl _ _ _ q
theorem X8.nil(b:Nat)(p:Value)(w:World)(hbk:w.heap[b]? = some (.cells #[p,.slice none 0 0] 171 (0,0))) :
  Calls Tryz.prog 107 #[.pointer (some ⟨b,0,none⟩)] w λe w'=>e=.returned (.string ⟨#[]⟩)/\w'=w.drew:=by
 have hUS:=X8.z3F
 have c1:w.drew.cell? ⟨b,1,none⟩=some (.slice none 0 0):=by
  have:w.drew.heap[b]? = some (.cells #[p,.slice none 0 0] 171 (0,0)):=hbk
  rw[zQ this]; rfl
 have hSD:(zJ #[169] 241 #[.slice none 0 0]).run Tryz.prog w.drew=.ok (.pointer none) w.drew:=rfl
 have mixed:Tryz.prog.follows .mixedOrders=true:=X8.mixed
 go_enter Tryz.func107,Tryz.ntmps107
 go_wp2
 go_region_o
 all_goals (go_wp2; go_ret; exact⟨rfl,rfl⟩)
theorem X8.room(b g o cap:Nat)(p:Value)(w:World)(hc0:cap≠0)(hbk:w.heap[b]? = some (.cells #[p,.slice (some ⟨g,o,none⟩) 0 cap] 171 (0,0))) :
  Calls Tryz.prog 107 #[.pointer (some ⟨b,0,none⟩)] w λe w'=>e=.returned (.string ⟨#[]⟩)/\w'=w.drew:=by
 have hUS:=X8.z3F
 have c1:w.drew.cell? ⟨b,1,none⟩=some (.slice (some ⟨g,o,none⟩) 0 cap):=by
  have:w.drew.heap[b]? = some (.cells #[p,.slice (some ⟨g,o,none⟩) 0 cap] 171 (0,0)):=hbk
  rw[zQ this]; rfl
 have hSD:(zJ #[169] 241 #[.slice (some ⟨g,o,none⟩) 0 cap]).run Tryz.prog w.drew=.ok (.pointer (some ⟨g,o,none⟩)) w.drew :=
  qB _ _ _ _ _ _ hc0
 clear hc0
 have mixed:Tryz.prog.follows .mixedOrders=true:=X8.mixed
 go_enter Tryz.func107,Tryz.ntmps107
 go_wp2
 go_region_o
 all_goals (go_wp2; go_ret; exact⟨rfl,rfl⟩)
theorem X8.full(b g cap:Nat)(p:Value)(cur:Array Value)(l:List UInt8)(w:World)(h0:l≠[])(js:l.length<=cap)(hmax:l.length<=140737488355328)(hbk:w.heap[b]? = some (.cells #[p,.slice (some ⟨g,0,none⟩) l.length cap] 171 (0,0)))
  (hg:w.heap[g]? = some (.cells cur 5 (0,0))) (zdj:l.length<=cur.size) (eM:∀ j x,l[j]? = some x->w.cell? ⟨g,j,none⟩=some (.int .u8 x.toNat)) :
  Calls Tryz.prog 107 #[.pointer (some ⟨b,0,none⟩)] w λe w'=>e=.returned (.string ⟨l.toArray⟩)/\w'=w.drew.freeze ⟨g,0,none⟩ l.length:=by
 have hl0:l.length≠0:=by simpa using h0
 have c1:w.drew.cell? ⟨b,1,none⟩=some (.slice (some ⟨g,0,none⟩) l.length cap):=by
  have:w.drew.heap[b]? = some (.cells #[p,.slice (some ⟨g,0,none⟩) l.length cap] 171 (0,0)):=hbk
  rw[zQ this]; rfl
 have hSD:(zJ #[169] 241 #[.slice (some ⟨g,0,none⟩) l.length cap]).run Tryz.prog w.drew=.ok (.pointer (some ⟨g,0,none⟩)) w.drew :=
  qB _ _ _ _ _ _ (by omega)
 have hUS:(qI #[241,3] 9 #[.pointer (some ⟨g,0,none⟩),.int .i64 l.length]).run Tryz.prog w.drew=.ok (.string ⟨l.toArray⟩) (w.drew.freeze ⟨g,0,none⟩ l.length):=by
  refine Lib.run_unsafeString_row w.drew 241 3 9 5 X8.pb X8.c5 g cur.size (by have hg':w.drew.heap[g]? = some (.cells cur 5 (0,0)):=hg; simp[World.shape?,hg']) l h0 (by omega) (by omega) ?_
  intro j x N
  have e:(⟨g,0,none⟩:Addr).add j=⟨g,j,none⟩:=by unfold Addr.add; split<;>simp_all
  rw[e]
  exact eM j x N
 have mixed:Tryz.prog.follows .mixedOrders=true:=X8.mixed
 go_enter Tryz.func107,Tryz.ntmps107
 go_wp2
 go_region_o
 all_goals (go_wp2; go_ret; exact⟨rfl,rfl⟩)
theorem X8.zeD(b g o:Nat)(p:Value)(cur:Array Value)(w:World)(hbk:w.heap[b]? = some (.cells #[p,.slice (some ⟨g,o,none⟩) 0 0] 171 (0,0)))(hg:w.heap[g]? = some (.cells cur 5 (0,0))) :
  Calls Tryz.prog 107 #[.pointer (some ⟨b,0,none⟩)] w λe w'=>e=.returned (.string ⟨#[]⟩)/\w'=w.drew.alloc (.view ⟨g,o,none⟩ 5):=by
 have hUS:=X8.z3F
 have wO:b<w.heap.size:=by
  rcases Nat.lt_or_ge b w.heap.size with h' | h'
  ·exact h'
  ·simp[Array.getElem?_eq_none h']at hbk
 have c1:w.drew.cell? ⟨b,1,none⟩=some (.slice (some ⟨g,o,none⟩) 0 0):=by
  have:w.drew.heap[b]? = some (.cells #[p,.slice (some ⟨g,o,none⟩) 0 0] 171 (0,0)):=hbk
  rw[zQ this]; rfl
 have hSD:(zJ #[169] 241 #[.slice (some ⟨g,o,none⟩) 0 0]).run Tryz.prog w.drew=.ok (.pointer (some ⟨w.drew.heap.size,0,none⟩)) (w.drew.alloc (.view ⟨g,o,none⟩ 5)) :=
  Lib.run_unsafeSliceData_zero w.drew _ _ 5 X8.pb ⟨g,o,none⟩ 0 (5,cur.size) (by have hg':w.drew.heap[g]? = some (.cells cur 5 (0,0)):=hg; simp[World.shape?,hg'])
 have c2:(w.drew.alloc (.view ⟨g,o,none⟩ 5)).cell? ⟨b,1,none⟩=some (.slice (some ⟨g,o,none⟩) 0 0):=by
  have:(w.drew.alloc (.view ⟨g,o,none⟩ 5)).heap[b]? = _:=(Lib.alloc_old w.drew _ b wO).trans hbk
  rw[zQ this]; rfl
 have c3:(w.alloc (.view ⟨g,o,none⟩ 5)).drew.cell? ⟨b,1,none⟩=some (.slice (some ⟨g,o,none⟩) 0 0):=c2
 have c0:w.cell? ⟨b,1,none⟩=some (.slice (some ⟨g,o,none⟩) 0 0):=c1
 have mixed:Tryz.prog.follows .mixedOrders=true:=X8.mixed
 go_enter Tryz.func107,Tryz.ntmps107
 go_wp2
 go_region_o
 all_goals (go_wp2; go_ret; exact⟨rfl,rfl⟩)
end
end Go.Proofs

namespace Go.AM.Lf
open Go.Proofs Go.Proofs.Tryz
theorem zja:xw Tryz.prog 107 ⟨[.ptr],z5C,[],⟨[Ms 0,.v (.st [.op 0 171,.un])],[],[.var (.st [.op 0 171,.un]),.dead]⟩,1,λx=>pR x.1 x.2⟩:=z08 (P:=Tryz.prog) (g:=107) (t:=171) (enters_of Tryz.func107 (by kernel_rfl) rfl) X8.nil X8.room X8.full X8.zeD
def t73:=t72.s zja
def z3d:q8:=Lz [.cell 0 1 (.int .u8)] [Mr 1 qz,Mm 13 (.sl qw),Mi 14] ⟨[Mi 15,.v Km,.a (.int .u8)],[(3,.ptr 0 0)],QZ⟩ [Nr] λp s=>sy p.1 p.2.1 p.2.2 s
def z3e:q8:=Lz [] [Mr 1 qz,Mm 29 (.sl ql),Mi 30] ⟨[Mi 31,.v Km,.a (.int .u8)],[(3,.ptr 0 0)],QZ⟩ [⟨.exit 2,HK⟩] λp s=>sA p.1 p.2.1 p.2.2 s
def z3f:q8:=Lz [] [Mr 1 qz,Mi 48] ⟨[Mi 49,.v Km,.a (.int .u8)],[(3,.ptr 0 0)],QZ⟩ [⟨.exit 4,HK⟩] λp s=>sB p.1 p.2 s
def z3g:q8:=Lz [] [Mm 57 (.sl xp),Mi 58] ⟨[Mi 59,.v Km,.a (.int .u8)],[(3,.ptr 0 0)],QZ⟩ [⟨.exit 6,HK⟩] λp s=>sC p.1 p.2 s
def h49:Hints:=Hz [(0,z3d),(2,z3e),(4,z3f),(6,z3g)] [(3,6,.flat [Ms 6])] []
theorem zej:LO Tryz.f49 z3d 0:=lk t73 (rz [1]) h49 [] zf
theorem zek:LO Tryz.f49 z3e 2:=lk t73 (rz [1]) h49 [] zf
theorem zel:LO Tryz.f49 z3f 4:=lk t73 (rz [1]) h49 [] zf
theorem zem:LO Tryz.f49 z3g 6:=lk t73 (rz [1]) h49 [] zf
theorem zqq:zy Pz 49 ⟨[.ty qz],[.str],λx=>nO x⟩:=wi t73 (rz [1]) h49 func49 [0,2,4,6] (qe rfl zej (qe rfl zek (qe rfl zel (qe rfl zem zf))))
def t74:=t73.d zqq
theorem zq4:zy Pz 24 ⟨[.ty qz],[.bool],λx=>ZB x⟩:=wi t74 (rz [1]) hN func24 [] zf
def t75:=t74.d zq4
def z2T:q8:=Lz [.slot 3 .str] [Mr 1 qz,Mm 17 (.sl qw),Mi 18] ⟨[Mi 19,.a .str],[(3,.cur 0 .str)],nS⟩ [⟨.exit 0,HL⟩] λp s=>r9 p.1 p.2.1 p.2.2 s
def z2U:q8:=Lz [] [Mr 1 qz,Mm 30 (.sl ql),Mi 31] ⟨[Mi 32,.a .str],[(3,.cur 0 .str)],nS⟩ [⟨.exit 2,HL⟩] λp s=>rb p.1 p.2.1 p.2.2 s
def z2V:q8:=Lz [] [Mr 1 qz,Mm 43 (.sl xy),Mi 44] ⟨[Mi 45,.a .str],[(3,.cur 0 .str)],nS⟩ [⟨.exit 4,HL⟩] λp s=>rf p.1 p.2.1 p.2.2 s
def z2W:q8:=Lz [] [Mr 1 qz,Mm 56 (.sl qy),Mi 57] ⟨[Mi 58,.a .str],[(3,.cur 0 .str)],nS⟩ [⟨.exit 6,HL⟩] λp s=>rh p.1 p.2.1 p.2.2 s
def z2X:q8:=Lz [] [Mr 1 qz,Mm 69 (.sl xp),Mi 70] ⟨[Mi 71,.a .str],[(3,.cur 0 .str)],nS⟩ [⟨.exit 8,HL⟩] λp s=>ri p.1 p.2.1 p.2.2 s
def Pt:q8:=Lz [] [Mm 82 (.sl xm),Mi 83] ⟨[Mi 84,.a .str],[(3,.cur 0 .str)],nS⟩ [⟨.exit 10,HL⟩] λp s=>rj p.1 p.2 s
def h26:Hints:=Hz [(0,z2T),(2,z2U),(4,z2V),(6,z2W),(8,z2X),(10,Pt)] [] []
theorem ze4:LO Tryz.f26 z2T 0:=lk t75 (rz [1]) h26 [] zf
theorem ze5:LO Tryz.f26 z2U 2:=lk t75 (rz [1]) h26 [] zf
theorem ze6:LO Tryz.f26 z2V 4:=lk t75 (rz [1]) h26 [] zf
theorem ze7:LO Tryz.f26 z2W 6:=lk t75 (rz [1]) h26 [] zf
theorem ze8:LO Tryz.f26 z2X 8:=lk t75 (rz [1]) h26 [] zf
theorem z9j:LO Tryz.f26 Pt 10:=lk t75 (rz [1]) h26 [] zf
theorem zq6:zy Pz 26 ⟨[.ty qz],[(.sl .str)],λx=>sW x⟩:=wi t75 (rz [1]) h26 func26 [0,2,4,6,8,10] (qe rfl ze4 (qe rfl ze5 (qe rfl ze6 (qe rfl ze7 (qe rfl ze8 (qe rfl z9j zf))))))
def t76:=t75.d zq6
end Go.AM.Lf
namespace Go.Proofs
section
open Go.RowKit Go.Maps Go.WideMaps
attribute [local go_sem] zN
set_option maxRecDepth 100000
set_option maxHeartbeats 2000000
/-- What a map reads as when texts,all different,came. -/
def TW.Seen(D:DataW Unit)(l:List (List UInt8)):Prop:=IsMap D/\∀ s:List UInt8,D.atKey (.string s) (.lit (.int .i64 0))=.lit (.int .i64 (if s∈l then 1 else 0))
theorem TW.zn3:TW.Seen (.map []) []:=⟨⟨_,rfl⟩,λs=>by simp only[List.not_mem_nil,if_false]; rfl⟩
theorem TW.step{D:DataW Unit}{l:List (List UInt8)}{s:List UInt8}(h:TW.Seen D l)(hk:WideAt.IsKeyLit (.string s)):TW.Seen (D.put (.string s) (.lit (.int .i64 1))) (l++[s]):=by
 refine⟨h.1.put _ _,λx => ?_⟩
 by_cases c:x=s
 ·subst c
  rw[atKey_put_same h.1 hk,if_pos (by simp)]
 ·rw[atKey_put_other (λe=>c (by cases e; rfl)),h.2 x]
  congr 3
  simp[c]
theorem TW.cOf{D:DataW Unit}{l:List (List UInt8)}{s:List UInt8}{c:Int}(h:TW.Seen D l)(M1:D.atKey (.string s) (.lit (.int .i64 0))=.lit (.int .i64 c)):c=if s∈l then 1 else 0:=by
 rw[h.2 s]at M1
 cases M1; rfl
theorem TW.key:Keyed Tryz.prog 9:=string_keyed Tryz.underlying9
theorem TW.Ss(w:World):(zeroValue 3).run Tryz.prog w=.ok (.int .i64 0) w:=by kernel_rfl
theorem TW.zero(a:Option Addr)(cap:Nat)(w:World):Calls Tryz.prog 25 #[.slice a 0 cap] w λe w'=>e=.returned (.tuple #[.string ⟨#[]⟩,.bool false])/\Below w.heap.size w w':=by
 have hmm := @run_makeMap Tryz.prog
 go_enter Tryz.func25,Tryz.ntmps25
 go_wp2
 refine wp_loop_rounds 1 ?_
 rw[rounds_succ]
 go_wp2
 go_ret2
 exact⟨rfl,(Below.refl _ _).alloc (U _) _⟩
theorem TW.more(b off cap:Nat)(l:List (List UInt8))(w:World)(K5:l.length*16<=140737488351232)(I:b<w.heap.size)
  (hc:∀ j (hj:j<l.length),w.cell? ⟨b,off+j,none⟩=some (.string ⟨l[j].toArray⟩)) (bR:∀ s∈l,s.length<=maxLen) :
  Calls Tryz.prog 25 #[.slice (some ⟨b,off,none⟩) l.length cap] w λe w'=>e=.returned (.tuple #[.string ⟨(Go.AM.Lf.twR [] l).1.toArray⟩,.bool (Go.AM.Lf.twR [] l).2])/\Below w.heap.size w w':=by
 have hmm := @run_makeMap Tryz.prog
 go_enter Tryz.func25,Tryz.ntmps25
 go_wp2
 go_loopw [10] (λi wr=>∃ (k:Nat) (D:DataW Unit),k<=l.length/\i=.int .i64 k/\wr.ownsMap Tryz.prog 9 (plainElem Tryz.prog 3) w.heap.size k D/\TW.Seen D (l.take k)/\Go.AM.Lf.twR [] l=Go.AM.Lf.twR (l.take k) (l.drop k)/\Below w.heap.size w wr)
  (λi _=>l.length-(intOf i).toNat)
 case atStart=>exact⟨0,.map [],qK _,rfl,World.ownsMap_made _ _ _ _,TW.zn3,rfl,(Below.refl _ _).alloc (U _) _⟩
 case round =>
  obtain⟨k,D,hk,rfl,hown,FP,htw,Ew⟩:=hrel
  obtain⟨s,hs⟩:∃ s:List UInt8,s=l.getD k []:=⟨_,rfl⟩
  have hse:∀ wO:k<l.length,s=l[k]:=λwO=>by rw[hs]; simp[wO]
  have hcx:k<l.length->wr.cell? ⟨b,off+k,none⟩=some (.string ⟨s.toArray⟩):=λwO=>by rw[hse wO]; exact(Ew.cell (by exact I)).trans (hc k wO)
  have hlen:s.length<=maxLen:=by
   by_cases wO:k<l.length
   ·rw[hse wO]; exact bR _ (List.getElem_mem wO)
   ·rw[hs]; simp[wO]
  have Md:keyOf Tryz.prog 9 (.string ⟨s.toArray⟩)=some (.string s):=keyOf_string_mk Tryz.underlying9 (by exact hlen)
  have hkl:WideAt.IsKeyLit (.string s):=TW.key.key Md
  have FG:∀ wO:k<l.length,l.drop k=s::l.drop (k+1):=λwO=>by rw[hse wO]; exact List.drop_eq_getElem_cons wO
  have BS:∀ wO:k<l.length,l.take (k+1)=l.take k++[s]:=λwO=>by rw[hse wO]; exact zW wO
  clear hse hs
  by_cases K4:s∈l.take k
  ·have z1V:∀ wO:k<l.length,Go.AM.Lf.twR [] l=(s,true):=λwO=>by rw[htw,FG wO]; unfold Go.AM.Lf.twR; rw[if_pos K4]
   go_wp2_with (first
    | (at_lookup; refine wpList_lookup_own_int _ rfl _ _ 119 rfl 9 3 .i64 TW.key Tryz.underlying119 Tryz.underlying3 (TW.Ss _) w.heap.size k _ rfl hown _ _ rfl Md ?_; intro c M1 hwc; obtain rfl:c=1:=by rw[TW.cOf FP M1,if_pos K4])
    | (at_mapUpdate; refine wpList_mapUpdate_own _ rfl _ _ _ 119 rfl 9 3 TW.key Tryz.underlying119 _ w.heap.size k _ rfl hown (by unfold maxLen; omega) _ _ _ rfl rfl Md _ [] (plainElem_int (a:=2) Tryz.underlying3 rfl) ?_; intro w1 NX M9)
    | (at_lookup; refine wpList_lookup_own_int _ rfl _ _ 119 rfl 9 3 .i64 TW.key Tryz.underlying119 Tryz.underlying3 (TW.Ss _) w.heap.size (k+1) _ rfl NX _ _ rfl Md ?_; intro c2 z1M zpH; obtain rfl:c2=2:=by rw[atKey_put_same FP.1 hkl]at z1M; cases z1M; rfl)
    | go_in)
   ·have wO:k<l.length:=by assumption
    go_ret2
    rw[z1V wO]
    exact⟨rfl,Ew.grown M9 Ew.size (λj hj=>by cases hj; exact U _)⟩
   ·have:k=l.length:=by omega
    subst this
    rw[List.drop_length]at htw
    go_ret2
    rw[htw]
    exact⟨rfl,Ew⟩
  ·have hgo:∀ wO:k<l.length,Go.AM.Lf.twR [] l=Go.AM.Lf.twR (l.take (k+1)) (l.drop (k+1)):=λwO=>by
    rw[htw,FG wO,BS wO]
    conv=>lhs; unfold Go.AM.Lf.twR
    rw[if_neg K4]
   go_wp2_with (first
    | (at_lookup; refine wpList_lookup_own_int _ rfl _ _ 119 rfl 9 3 .i64 TW.key Tryz.underlying119 Tryz.underlying3 (TW.Ss _) w.heap.size k _ rfl hown _ _ rfl Md ?_; intro c M1 hwc; obtain rfl:c=0:=by rw[TW.cOf FP M1,if_neg K4])
    | (at_mapUpdate; refine wpList_mapUpdate_own _ rfl _ _ _ 119 rfl 9 3 TW.key Tryz.underlying119 _ w.heap.size k _ rfl hown (by unfold maxLen; omega) _ _ _ rfl rfl Md _ [] (plainElem_int (a:=1) Tryz.underlying3 rfl) ?_; intro w1 NX M9)
    | (at_lookup; refine wpList_lookup_own_int _ rfl _ _ 119 rfl 9 3 .i64 TW.key Tryz.underlying119 Tryz.underlying3 (TW.Ss _) w.heap.size (k+1) _ rfl NX _ _ rfl Md ?_; intro c2 z1M zpH; obtain rfl:c2=1:=by rw[atKey_put_same FP.1 hkl]at z1M; cases z1M; rfl)
    | go_in)
   ·have wO:k<l.length:=by assumption
    go_roundw
    case rel=>exact⟨k+1,_,by omega,by go_num,NX,(BS wO).symm▸TW.step FP hkl,hgo wO,Ew.grown M9 Ew.size (λj hj=>by cases hj; exact U _)⟩
    case measure=>simp[intOf]; omega
   ·have:k=l.length:=by omega
    subst this
    rw[List.drop_length]at htw
    go_ret2
    rw[htw]
    exact⟨rfl,Ew⟩
end
end Go.Proofs
namespace Go.AM.Lf
open Go.Proofs Go.Proofs.Tryz
theorem zq5:zy Tryz.prog 25 ⟨[.ty (.sl .str)],[.str,.bool],λx=>sX x⟩:=by
 refine jJ Tryz.func25 (by kernel_rfl) rfl λO (l:List q9) xc y hy hI ha => ?_
 obtain⟨⟨h0,h1⟩,hy⟩:=hy
 cases hy
 obtain⟨v0,r,rfl,Yt,ha⟩:=wQ.cons_inv (show wQ O [.qs (.sl .str) l] xc from ha)
 rw[ha.wj]
 have hv:=RD.jN (O:=O) (τ:=.sl .str) (x:=l) Yt rfl
 rcases hv.tZ with⟨rfl,a,e⟩ | ⟨blk,off,cap,g,e,ja,js,hg,hc⟩
 ·cases e
  refine(TW.zero a 0 O.w).mono ?_
  rintro e w' ⟨rfl,hB⟩
  exact⟨hB,λ_=>⟨_,rfl,RD.zaF RD.str RD.bool⟩⟩
 ·cases e
  refine(TW.more blk off cap l O.w h0 (hI.bT blk ja) (λj hj => ?_) h1).mono ?_
  ·have h3:=hc j hj 0 (.string ⟨l[j].toArray⟩) (by rw[(hg j hj).jl]; rfl)
   simpa[Ty.size]using h3
  ·rintro e w' ⟨rfl,hB⟩
   exact⟨hB,λ_=>⟨_,rfl,RD.zaF RD.str RD.bool⟩⟩
end Go.AM.Lf

namespace Go.AM.Lf
open Go.Proofs Go.Proofs.Tryz
def t77:=t76.d zq5
theorem zqu:zy Pz 53 ⟨[.ty qw,.rp .str],[.bool],λx=>vZ x.1 x.2⟩:=wi t77 (rz [2]) hN func53 [] zf
def t78:=t77.d zqu
def I5:q8:=Lz [] [Mm 0 (.sl qw),.s 1 (.wo 53 [.rp .str]),Mi 7] cF [jF,nT] λp s=>vb p.1 (λz0=>vZ z0 p.2.1) p.2.2 s
def zb8:Hints:=Hz [(0,I5)] [] []
theorem z2B:LO Tryz.f70 I5 0:=lk t78 rn zb8 [] zf
theorem z3T:zy Pz 70 ⟨[.ty (.sl qw),.wo 53 [.rp .str]],[i64],λx=>wh x.1 (λz0=>vZ z0 x.2)⟩:=wi t78 rn zb8 func70 [0] (qe rfl z2B zf)
def t79:=t78.d z3T
theorem z3Q:zy Pz 52 ⟨[.ty (.sl qw),.wo 53 [.rp .str]],[.bool],λx=>vO x.1 (λz0=>vZ z0 x.2)⟩:=wi (t79.d z3T) rn hN func52 [] zf
def t80:=t79.d z3Q
theorem zqs:zy Pz 51 ⟨[.ty .str,.rp qz],[.bool],λx=>jW x.1 x.2⟩:=wi (t80.d z3Q) (rz [2]) hN func51 [] zf
def t81:=t80.d zqs
def z3i:q8:=Lz [] [Mm 0 (.sl .str),.s 1 (.wo 51 [.rp qz]),Mi 7] cF [jF,nT] λp s=>uV p.1 (λz0=>jW z0 p.2.1) p.2.2 s
def h50:Hints:=Hz [(0,z3i)] [] []
theorem zeo:LO Tryz.f50 z3i 0:=lk t81 rn h50 [] zf
theorem zqr:zy Pz 50 ⟨[.ty (.sl .str),.wo 51 [.rp qz]],[i64],λx=>wY x.1 (λz0=>jW z0 x.2)⟩:=wi t81 rn h50 func50 [0] (qe rfl zeo zf)
def t82:=t81.d zqr
def z2Y:q8:=Lz [.slot 4 .str] [Mr 1 qz,Mm 11 (.sl xy),Mi 12] ⟨[Mi 13,.a .str],[(4,.cur 0 .str)],nS⟩ [⟨.exit 0,z5G⟩] λp s=>fg p.1 p.2.1 p.2.2 s
def z2Z:q8:=Lz [] [Mr 1 qz,Mm 24 (.sl xp),Mi 25] ⟨[Mi 26,.a .str],[(4,.cur 0 .str)],nS⟩ [⟨.exit 2,z5G⟩] λp s=>fh p.1 p.2.1 p.2.2 s
def h27:Hints:=Hz [(0,z2Y),(2,z2Z)] [] []
theorem ze9:LO Tryz.f27 z2Y 0:=lk t82 (rz [1]) h27 [] zf
theorem zea:LO Tryz.f27 z2Z 2:=lk t82 (rz [1]) h27 [] zf
theorem zq7:zy Pz 27 ⟨[.ty qz],[.str,.bool],λx=>eP x⟩:=wi t82 (rz [1]) h27 func27 [0,2] (qe rfl ze9 (qe rfl zea zf))
def t83:=t82.d zq7
def Oe:q8:=Lz [] [Mm 0 (.sl .str),Ms 1,Mi 7] cF [jF,nT] λp s=>gB p.1 p.2.1 p.2.2 s
def zgl:Hints:=Hz [(0,Oe)] [] []
theorem z8a:LO Tryz.f110 Oe 0:=lk t83 rn zgl [] zf
theorem zjc:zy Pz 110 ⟨[.ty (.sl .str),.ty .str],[i64],λx=>wI x.1 x.2⟩:=wi t83 rn zgl func110 [0] (qe rfl z8a zf)
def t84:=t83.d zjc
theorem zqy:zy Pz 57 ⟨[.ty (.sl .str),.ty .str],[.bool],λx=>wN x.1 x.2⟩:=wi t84 rn hN func57 [] zf
def t85:=t84.d zqy
abbrev SB:=uh.den L7->T (uh.den Vw)
abbrev zck(F:SB):=xw Pz 109 ⟨[.cur,.any],L7,[],Vw,1,F⟩
def zfP(fp:SB)(KA:zck fp):Tb:=t85.s KA
def Od(fp:SB):q8:=Lz [] [Mm 23 (.sl .expr),Mi 24] z5w [⟨.exit 0,Vw⟩] λp s=>eQ (λy0 y1=>fp (y0,y1)) p.1 p.2 s
def zgk(fp:SB):Hints:=Hz [(0,Od fp)] [(0,1,.ways [z61]),(3,1,.ways [⟨.normal,Vw⟩])] []
theorem z89(fp:SB)(KA:zck fp):LO Tryz.f109 (Od fp) 0:=lk (zfP fp KA) (rz [3]) (zgk fp) [] zf
theorem za2(fp:SB)(KA:zck fp):xw Pz 109 ⟨[.cur,.any],L7,[],Vw,1,λx=>dz (λy0 y1=>fp (y0,y1)) x.1 x.2⟩:=dW (zfP fp KA) (rz [3]) (zgk fp) func109 [0] (qe rfl (z89 fp KA) zf)
theorem zbR:xw Pz 109 ⟨[.cur,.any],L7,[],Vw,1,λx=>oU x.1 x.2⟩:=Ys (λfp x=>dz (λy0 y1=>fp (y0,y1)) x.1 x.2) (λx=>rfl) (λfp KA=>za2 fp KA)
def t86:=t85.s zbR
def z0z:Tb:=t86.s zbR
def BZ:q8:=Lz [] [Mm 23 (.sl .expr),Mi 24] z5w [⟨.exit 0,Vw⟩] λp s=>mh p.1 p.2 s
def z1q:Hints:=Hz [(0,BZ)] [(0,1,.ways [z61]),(3,1,.ways [⟨.normal,Vw⟩])] []
theorem Tv:LO Tryz.f109 BZ 0:=lk z0z (rz [3]) z1q [] zf
theorem Rm:xw Pz 109 ⟨[.cur,.any],L7,[.slot 0 .str],Vw,1,λx=>mR x.1 x.2⟩:=dW z0z (rz [3]) z1q func109 [0] (qe rfl Tv zf)
def t87:=t86.s Rm
theorem zqw:zy Pz 55 ⟨[.ty .expr],[(.sl .str)],λx=>dy x⟩:=wi (t87.s Rm) (rz [1]) hN func55 [] zf
def t88:=t87.d zqw
end Go.AM.Lf
namespace Go.Proofs
section
open Go.RowKit Go.Maps
attribute [local go_sem] zN
set_option maxRecDepth 100000
set_option maxHeartbeats 2000000
theorem CC.info:(Tryz.prog.info? 9).map (λi=>(i.zero,i.size,i.bytes))=some (some (.string ⟨#[]⟩),1,16):=by kernel_rfl
theorem CC.wp{ops:Array Oper}{rest:List Oper}{o:Oper}{a:Act}{Q:Exit->Act->World->Prop}(w:World)(hgd:o.guard=zE)(s x:Operand)(t u:TypeId)
  (ho:o.op=.call { callee:=.builtin .append,args := #[s,x],argTypes := #[t,u] }) (v':Value) (w':World)
  (hr:(zU #[t,u] o.type #[a.eval s,a.eval x]).run Tryz.prog w=.ok v' w') (h:wpList Tryz.prog ops Q rest (a.put o.dst v') w'):wpList Tryz.prog ops Q (o::rest) a w :=
 wpList_plain hgd λ_ hK=>by
  unfold Oper.wp execOp
  simp only[ho,resolve,invoke,builtin,Sem.run_bind,Sem.run_pure,Result.andThen_ok,List.map_toArray,List.map_cons,List.map_nil,hr]
  exact hK _ _ h
/-- An append of nothing. -/
theorem CC.ER{base:Option Addr}{n cap:Nat}{a:Option Addr}{ty:TypeId}(w:World)(js:n<=cap) :
  (zU #[51,51] ty #[.slice base n cap,.slice a 0 0]).run Tryz.prog w=.ok (.slice base n cap) w:=by
 obtain⟨i0,hi,Lb,hz1,hz2⟩:=info_parts CC.info
 have hu:=Tryz.underlying51
 cases a<;>cases base<;>simp[zU,run_underlying hu,sizeOf,typeInfo,hi,Builtin.lenOf,qN,loadCells,loadCellsFrom,storeCells,js]
theorem CC.EP{n:Nat}{ty:TypeId}(w:World)(hn:0<n)(I:n*16<=140737488355328) :
  ∃ cs:Array Value,cs.size=grownCap w n 0 9/\(zU #[51,3] ty #[.slice zE 0 0,.int .i64 (n:Int)]).run Tryz.prog w=.ok (.slice (some ⟨w.heap.size,0,zE⟩) n (grownCap w n 0 9)) (w.drew.alloc (.cells cs 9)):=by
 obtain⟨i0,hi,Lb,hz1,hz2⟩:=info_parts CC.info
 have hu:=Tryz.underlying51
 have he:=Tryz.underlying3
 have w1:IntKind.i64.wrap (n:Int)=n:=IntWalk.i64_in _ (by omega)
 have h5:IntKind.i64.max=9223372036854775807:=by decide
 have ai:∀ w,(Go.asInt (.int .i64 (n:Int))).run Tryz.prog w=.ok (n:Int) w:=λw=>by simp[Go.asInt,asIntOf]
 have g1:¬ ((n:Int)<0):=by omega
 have g2:¬ ((281474976710656:Int)<(n:Int)*16):=by omega
 have g3:¬ (n=0):=by omega
 have g4:¬ (281474976710656<Builtin.nextslicecap n 0*16):=by
  have:=growslice_fits (bytes:=16) (need:=n) (old:=0) (by omega) (by omega)
  omega
 have hge:=grownCap_ge w n 0 9
 refine⟨qD (Value.string ⟨#[]⟩).cells n++qD (Value.string ⟨#[]⟩).cells (grownCap w n 0 9-n),?_,?_⟩
 ·simp[qD,Value.cells]; omega
 ·simp[zU,run_underlying hu,run_underlying he,sizeOf,typeInfo,zeroValue,hi,Lb,hz1,hz2,ai,w1,Builtin.lenOf,qN,Question.forced,newRow,grownCap,g1,g2,g3,g4]
  intro h
  omega
theorem CC.grow(n:Nat)(w:World)(I:n*16<=140737488355328):Calls Tryz.prog 108 #[.slice zE 0 0,.int .i64 (n:Int)] w λe w'=>∃ v,e=.returned v/\w'.ownsRow w.heap.size 9 1 v 0 []/\Below w.heap.size w w':=by
 go_enter Tryz.func108,Tryz.ntmps108
 by_cases hn:0<n
 ·obtain⟨cs,X7,hr⟩:=CC.EP (ty:=51) w hn I
  go_wp2_with (first
   | (at_builtin; refine CC.wp _ rfl _ _ _ _ rfl _ _ hr ?_)
   | go_in)
  go_ret
  refine⟨_,rfl,⟨rfl,.inr ⟨w.heap.size,_,cs,rfl,U _,by show(w.heap.push (zA cs 9))[w.heap.size]? = _; exact Array.getElem?_push_size,qK _,grownCap_le_maxLen w n 0 9 (by unfold maxLen; omega),by rw[X7,Nat.mul_one],rfl⟩⟩,?_⟩
  have hB:Below w.heap.size w (w.alloc (.cells cs 9)):=(Below.refl _ _).alloc (U _) _
  exact⟨hB.os,hB.tape,hB.output,hB.size,hB.block⟩
 ·obtain rfl:n=0:=by omega
  go_wp2
  go_ret
  exact⟨_,rfl,World.ownsRow_nil _ _ _ _,Below.refl _ _⟩
/-- The texts of a slice whose block lies below n₀. -/
def CC.Strs(n₀:Nat)(zl:World)(sv:Value)(l:List (List UInt8)):Prop:=(∃ a,sv=.slice a 0 0/\l=[])\/∃ b off cap,sv=.slice (some ⟨b,off,zE⟩) l.length cap/\b<n₀/\∀ j (hj:j<l.length),zl.cell? ⟨b,off+j,zE⟩=some (.string ⟨l[j].toArray⟩)
def CC.cells(l:List (List UInt8)):List Value:=l.map λs=>.string ⟨s.toArray⟩
/-- How many texts the first k slices have; which. -/
def CC.fl(ls:List (List (List UInt8)))(k:Nat):Nat:=(ls.take k).flatten.length
def CC.out(ls:List (List (List UInt8)))(k:Nat):List Value:=CC.cells (ls.take k).flatten
def CC.at(ls:List (List (List UInt8)))(k:Nat):List (List UInt8):=ls.getD k []
theorem CC.take_succ{ls:List (List (List UInt8))}{k:Nat}(hk:k<ls.length):(ls.take (k+1)).flatten=(ls.take k).flatten++CC.at ls k:=by
 rw[zW hk,List.flatten_append,List.flatten_singleton]
 simp[CC.at,hk]
theorem CC.z6Y{ls:List (List (List UInt8))}{k:Nat}(hk:k<ls.length):CC.fl ls (k+1)=CC.fl ls k+(CC.at ls k).length:=by
 unfold CC.fl; rw[CC.take_succ hk,List.length_append]
theorem CC.z48{ls:List (List (List UInt8))}{k:Nat}(hk:k<ls.length):CC.out ls (k+1)=CC.out ls k++CC.cells (CC.at ls k):=by
 unfold CC.out CC.cells; rw[CC.take_succ hk,List.map_append]
theorem CC.zgb(ls:List (List (List UInt8)))(k:Nat):CC.fl ls k<=CC.fl ls ls.length:=by
 unfold CC.fl
 rw[List.take_length]
 conv=>rhs; rw[<- List.take_append_drop k ls,List.flatten_append,List.length_append]
 omega
theorem CC.concat(b off cap L:Nat)(svs:Nat->Value)(ls:List (List (List UInt8)))(w:World)(hL:L=ls.length)(K5:L*24<=140737488351232)(I:b<w.heap.size)
  (hc:∀ j,j<L->w.cell? ⟨b,off+j,zE⟩=some (svs j)) (hs:∀ j,j<L->CC.Strs w.heap.size w (svs j) (CC.at ls j)) (zpD:CC.fl ls L*16<=140737488355328) :
  Calls Tryz.prog 54 #[.slice (some ⟨b,off,zE⟩) L cap] w λe w'=>∃ v,e=.returned v/\w'.ownsRow w.heap.size 9 1 v (CC.fl ls L) (CC.out ls L)/\Below w.heap.size w w':=by
 obtain⟨i0,hi,Lb,hz1,hz2⟩:=info_parts CC.info
 have KD:∀ k,k<L->CC.fl ls (k+1)=CC.fl ls k+(CC.at ls k).length:=λk hk=>CC.z6Y (by omega)
 have hou:∀ k,k<L->CC.out ls (k+1)=CC.out ls k++CC.cells (CC.at ls k):=λk hk=>CC.z48 (by omega)
 have hle:∀ k,CC.fl ls k<=CC.fl ls L:=λk=>hL▸CC.zgb ls k
 have hf0:CC.fl ls 0=0:=rfl
 have ho0:CC.out ls 0=[]:=rfl
 generalize CC.fl ls=fl at *
 generalize CC.out ls=out at *
 generalize CC.at ls=at_ at *
 clear hL ls
 generalize hM:fl L=zC at *
 go_enter Tryz.func54,Tryz.ntmps54
 go_wp2
 go_loopw [3,11] (λsz i wr=>∃ k:Nat,k<=L/\i=.int .i64 k/\sz=.int .i64 (fl k:Int)/\w=wr) (λ_ i _=>L-(intOf i).toNat)
 case atStart=>exact⟨0,qK _,rfl,by rw[hf0]; rfl,rfl⟩
 case round =>
  obtain⟨k,hk,rfl,rfl,rfl⟩:=hrel
  by_cases wO:k<L
  ·have eM:=hc k wO
   have hS:=hs k wO
   have h1:=KD k wO
   have X:=hle (k+1)
   have hSq:∃ a c,svs k=.slice a (at_ k).length c:=by
    rcases hS with⟨a,e,he⟩ | ⟨b1,o1,c1,e,_,_⟩
    ·exact⟨a,0,by rw[e,he]; rfl⟩
    ·exact⟨_,c1,e⟩
   obtain⟨a1,c1,e1⟩:=hSq
   rw[e1]at eM
   clear hc hs hS KD hou hle e1
   generalize hq:(at_ k).length=q at *
   generalize hm:fl k=m at *
   generalize hm':fl (k+1)=m' at *
   go_wp2
   go_roundw
   case rel=>exact⟨k+1,by omega,by go_num,by rw[hm',h1]; go_num,by first | rfl | trivial⟩
   case measure=>simp[intOf]; omega
  ·have hkl:k=L:=by omega
   subst hkl
   rw[hM]
   have hg:=CC.grow zC w zpD
   go_wp2_with (first
    | (go_at_call 108; refine hg.mono ?_; rintro e w1 ⟨v1,rfl,p8,hB⟩)
    | go_in)
   clear hg
   go_loopw [6,27] (λo i wr'=>∃ j:Nat,j<=k/\i=.int .i64 j/\wr'.ownsRow w.heap.size 9 1 o (fl j) (out j)/\Below w.heap.size w wr') (λ_ i _=>k-(intOf i).toNat)
   case atStart=>exact⟨0,qK _,rfl,by rw[hf0,ho0]; exact p8,hB⟩
   case round =>
    obtain⟨j,hj,rfl,p8,hB⟩:=hrel
    by_cases FL:j<k
    ·have eM:wr.cell? ⟨b,off+j,zE⟩=some (svs j):=(hB.cell (p:=⟨b,off+j,zE⟩) I).trans (hc j FL)
     have h1:=KD j FL
     have X:=hle (j+1)
     have h3:=hou j FL
     rcases hs j FL with⟨a,e,he⟩ | ⟨b1,o1,c1,e,La,X7⟩
     ·rw[e]at eM
      rw[he]at h1 h3
      have e1:fl (j+1)=fl j:=by rw[h1]; rfl
      have e2:out (j+1)=out j:=by rw[h3]; simp[CC.cells]
      have hv:∃ base n cap,u6=.slice base n cap/\n<=cap:=by
       rcases p8.2 with⟨rfl,_⟩ | ⟨g,Uv,cur,rfl,_,_,js,_⟩
       ·exact⟨_,_,_,rfl,U _⟩
       ·exact⟨_,_,_,rfl,js⟩
      obtain⟨base,n,Uv,rfl,js⟩:=hv
      have hr:=CC.ER (base:=base) (n:=n) (cap:=Uv) (a:=a) (ty:=51) wr js
      clear hc hs KD hou hle hf0 ho0 he e
      go_wp2_with (first
       | (at_builtin; refine CC.wp _ rfl _ _ _ _ rfl _ _ hr ?_)
       | go_in)
      go_roundw
      case rel=>exact⟨j+1,by omega,by go_num,by rw[e1,e2]; exact p8,hB⟩
      case measure=>simp[intOf]; omega
     ·rw[e]at eM
      have hB1:=hB.size
      have R:(CC.cells (at_ j)).length=(at_ j).length*1:=by simp[CC.cells]
      have Qa:∀ u∈CC.cells (at_ j),u.oneCell'=true:=by
       intro u hu
       obtain⟨s,_,rfl⟩:=List.mem_map.1 hu
       rfl
      have zib:∀ i u,(CC.cells (at_ j))[i]? = some u->wr.cell? ((⟨b1,o1,zE⟩:Addr).add i)=some u:=by
       intro i u hu
       have Ul:i<(at_ j).length:=by
        have:=(List.getElem?_eq_some_iff.1 hu).1
        simpa[CC.cells]using this
       have zdg:(⟨b1,o1,zE⟩:Addr).add i=⟨b1,o1+i,zE⟩:=by unfold Addr.add; split<;>simp_all
       rw[zdg,(hB.cell (p:=⟨b1,o1+i,zE⟩) La),X7 i Ul,<- hu]
       simp[CC.cells,Ul]
      clear hc hs KD hou hle hf0 ho0 e X7
      generalize CC.cells (at_ j)=news at *
      generalize hq:(at_ j).length=q at *
      go_wp2_with (first
       | (at_builtin; refine wpList_append_own _ rfl _ _ 51 rfl w.heap.size 9 i0 (.string ⟨#[]⟩) 1 16 Tryz.underlying51 hi Lb hz1 hz2 rfl (by decide) _ _ _ rfl p8 ⟨b1,o1,zE⟩ q c1 news rfl R zib Qa (by unfold maxLen; omega) (by omega) hB1 ?_; intro v' w' zif zdo zss)
       | go_in)
      go_roundw
      case rel=>exact⟨j+1,by omega,by go_num,by rw[h1,h3]; exact zif,hB.grown zdo hB.size (λi hi=>(p8.lt i hi).1)⟩
      case measure=>simp[intOf]; omega
    ·have hjk:j=k:=by omega
     subst hjk
     clear hc hs KD hou hle
     go_wp2
     go_ret
     exact⟨_,rfl,by rw[hM]at p8; exact p8,hB⟩
end
end Go.Proofs
namespace Go.AM.Lf
open Go.Proofs Go.Proofs.Tryz
theorem zaE{O:KS}{l:List q9}{cs:List Value}(hI:Inv O)(h:Rc O.w O.ok (.sl .str) l cs):∃ v,cs=[v]/\CC.Strs O.w.heap.size O.w v l:=by
 rcases h.tZ with⟨rfl,a,e⟩ | ⟨blk,off,cap,g,e,ja,js,hg,hc⟩
 ·exact⟨_,e,.inl ⟨a,rfl,rfl⟩⟩
 ·refine⟨_,e,.inr ⟨blk,off,cap,rfl,hI.bT blk ja,λj hj => ?_⟩⟩
  have h3:=hc j hj 0 (.string ⟨l[j].toArray⟩) (by rw[(hg j hj).jl]; rfl)
  simpa[Ty.size]using h3
theorem zqv:zy Tryz.prog 54 ⟨[.ty (.sl (.sl .str))],[.sl .str],λx=>jg x⟩:=by
 refine jJ Tryz.func54 (by kernel_rfl) rfl λO (ls:List (List q9)) xc y hy hI ha => ?_
 obtain⟨⟨h0,h1,X⟩,hy⟩:=hy
 cases hy
 obtain⟨v0,r,rfl,Yt,ha⟩:=wQ.cons_inv (show wQ O [.qs (.sl (.sl .str)) ls] xc from ha)
 rw[ha.wj]
 have hv:=RD.jN (O:=O) (τ:=.sl (.sl .str)) (x:=ls) Yt rfl
 rcases hv.tZ with⟨rfl,a,e⟩ | ⟨blk,off,cap,g,e,ja,js,hg,hc⟩
 ·exact absurd rfl X
 ·cases e
  have Q9:∀ j (hj:j<ls.length),∃ v,g j=[v]/\CC.Strs O.w.heap.size O.w v ls[j]:=λj hj=>zaE hI (hg j hj)
  have eM:∀ j,j<ls.length->O.w.cell? ⟨blk,off+j,none⟩=some ((g j).headD (.bool false)):=λj hj=>by
   obtain⟨v,hv,_⟩:=Q9 j hj
   have h3:=hc j hj 0 v (by rw[hv]; rfl)
   rw[hv]
   simpa[Ty.size]using h3
  have KD:ls.flatten=(ls.take ls.length).flatten:=by rw[List.take_length]
  refine(CC.concat blk off cap ls.length (λj=>(g j).headD (.bool false)) ls O.w rfl h0 (hI.bT blk ja) eM (λj hj => ?_) (by unfold CC.fl; rw[<- KD]; exact h1)).mono ?_
  ·obtain⟨v,hv,hs⟩:=Q9 j hj
   rw[hv]
   have:CC.at ls j=ls[j]:=by simp[CC.at,hj]
   rw[this]; exact hs
  ·rintro e w' ⟨v,rfl,p8,hB⟩
   refine⟨hB,λ_=>⟨_,rfl,?_⟩⟩
   unfold CC.fl CC.out at p8
   rw[<- KD]at p8
   show RD _ (.qs (.sl .str) ls.flatten) v
   refine RD.Zn rfl ?_
   rcases p8.2 with⟨rfl,hn⟩ | ⟨gb,Uv,cur,rfl,hgb,zdj,hle,hmax,bR,htk⟩
   ·rw[zY hn]
    exact .lK .str none
   ·refine .sl .str _ gb 0 Uv (λi=>[.string ⟨(ls.flatten[i]?.getD []).toArray⟩]) (.inr ⟨hgb,(Array.getElem?_eq_some_iff.1 zdj).1⟩) hle (λi hi => ?_) (λi hi j u hu => ?_)
    ·rw[zT hi]
     exact .str _
    ·match j,hu with
     | 0,hu =>
      simp only[List.getElem?_cons_zero,Option.some.injEq]at hu
      have e0:(0:Nat)+i*Ty.size .str+0=i:=by show 0+i*1+0=i; omega
      show w'.cell? ⟨gb,0+i*Ty.size .str+0,none⟩=some u
      rw[e0,cell_of_row w' gb i cur _ (0,0) zdj,<- hu]
      have h4:(cur.toList.take (ls.flatten.length*1))[i]? = (CC.cells ls.flatten)[i]? := by rw[htk]
      rw[List.getElem?_take_of_lt (by omega)]at h4
      rw[<- Array.getElem?_toList,h4]
      unfold CC.cells
      rw[List.getElem?_map,zT hi]; rfl
end Go.AM.Lf

namespace Go.AM.Lf
open Go.Proofs Go.Proofs.Tryz
def t89:=t88.d zqv
theorem zqA:zy Pz 59 ⟨[.ty ql,.rp .str],[.bool],λx=>uL x.1 x.2⟩:=wi t89 (rz [2]) hN func59 [] zf
def t90:=t89.d zqA
def C0:q8:=Lz [] [Mm 0 (.sl ql),.s 1 (.wo 59 [.rp .str]),Mi 7] cF [jF,nT] λp s=>j9 p.1 (λz0=>uL z0 p.2.1) p.2.2 s
def z1r:Hints:=Hz [(0,C0)] [] []
theorem Tw:LO Tryz.f111 C0 0:=lk t90 rn z1r [] zf
theorem Rn:zy Pz 111 ⟨[.ty (.sl ql),.wo 59 [.rp .str]],[i64],λx=>vQ x.1 (λz0=>uL z0 x.2)⟩:=wi t90 rn z1r func111 [0] (qe rfl Tw zf)
def t91:=t90.d Rn
theorem z3R:zy Pz 58 ⟨[.ty (.sl ql),.wo 59 [.rp .str]],[.bool],λx=>vW x.1 (λz0=>uL z0 x.2)⟩:=wi (t91.d Rn) rn hN func58 [] zf
def t92:=t91.d z3R
theorem zqx:zy Pz 56 ⟨[.ty .str,.rp (.sl .str),.rp qz],[.bool],λx=>yC x.1 x.2.1 x.2.2⟩:=wi (t92.d z3R) (rz [3]) hN func56 [] zf
def t93:=t92.d zqx
def I1:q8:=Lz [] [Mm 0 (.sl .str),.s 1 (.wo 56 [.rp (.sl .str),.rp qz]),Mi 7] cF [jF,nT] λp s=>uV p.1 (λz0=>yC z0 p.2.1.1 p.2.1.2) p.2.2 s
def zb6:Hints:=Hz [(0,I1)] [] []
theorem z2x:LO Tryz.f50 I1 0:=lk t93 rn zb6 [] zf
theorem z3O:zy Pz 50 ⟨[.ty (.sl .str),.wo 56 [.rp (.sl .str),.rp qz]],[i64],λx=>wY x.1 (λz0=>yC z0 x.2.1 x.2.2)⟩:=wi t93 rn zb6 func50 [0] (qe rfl z2x zf)
def t94:=t93.d z3O
def T28:Tb:=t94.d z3O
def z30:q8:=Lz [] [Mr 2 qz,Mr 3 (.sl .str),Mm 13 (.sl xm),Mi 14] ⟨[Mm 6 (.sl .str),Mi 15],[],[]⟩ [⟨.exit 0,z5M⟩] λp s=>lW p.1 p.2.1 p.2.2.1 p.2.2.2 s
def z34:q8:=Lz [] [Mr 2 qz,Mr 3 (.sl .str),Mm 30 (.sl xp),Mi 31] ⟨[Mm 6 (.sl .str),Mi 32],[],[]⟩ [⟨.exit 2,z5M⟩] λp s=>lX p.1 p.2.1 p.2.2.1 p.2.2.2 s
def h28:Hints:=Hz [(0,z30),(2,z34)] [] []
theorem zeb:LO Tryz.f28 z30 0:=lk T28 (rz [2,3]) h28 [] zf
theorem zec:LO Tryz.f28 z34 2:=lk T28 (rz [2,3]) h28 [] zf
theorem zq8:zy Pz 28 ⟨[.ty qz,.ty (.sl .str)],[.str,.bool],λx=>mF x.1 x.2⟩:=wi T28 (rz [2,3]) h28 func28 [0,2] (qe rfl zeb (qe rfl zec zf))
def t95:=t94.d zq8
theorem zjf:zy Pz 113 ⟨[.ty .str,.rp (.sl .str)],[.bool],λx=>bX x.1 x.2⟩:=wi t95 rn hN func113 [] zf
def t96:=t95.d zjf
def I2:q8:=Lz [] [Mm 0 (.sl .str),.s 1 (.wo 113 [.rp (.sl .str)]),Mi 7] cF [jF,nT] λp s=>uV p.1 (λz0=>bX z0 p.2.1) p.2.2 s
def zb7:Hints:=Hz [(0,I2)] [] []
theorem z2y:LO Tryz.f50 I2 0:=lk t96 rn zb7 [] zf
theorem z3P:zy Pz 50 ⟨[.ty (.sl .str),.wo 113 [.rp (.sl .str)]],[i64],λx=>wY x.1 (λz0=>bX z0 x.2)⟩:=wi t96 rn zb7 func50 [0] (qe rfl z2y zf)
def t97:=t96.d z3P
theorem zje:zy Pz 112 ⟨[.ty (.sl .str),.wo 113 [.rp (.sl .str)]],[.bool],λx=>kJ x.1 (λz0=>bX z0 x.2)⟩:=wi (t97.d z3P) rn hN func112 [] zf
def t98:=t97.d zje
theorem zqB:zy Pz 60 ⟨[.ty .expr,.ty (.sl .str)],[.bool],λx=>Za x.1 x.2⟩:=wi t98 (rz [2,3]) hN func60 [] zf
def t99:=t98.d zqB
abbrev Y29:=eo [.ty .expr,.ty (.sl .str)]->T (Et [.bool])
abbrev H29(F:Y29):=zy Pz 29 ⟨[.ty .expr,.ty (.sl .str)],[.bool],F⟩
theorem zmP(dP:Y29)(VK:H29 dP):zy Pz 62 ⟨[.ty .expr,.rp (.sl .str)],[.bool],λx=>j7 (λy0 y1=>dP (y0,y1)) x.1 x.2⟩:=wi (t99.d VK) (rz [2]) hN func62 [] zf
def z0A(dP:Y29)(VK:H29 dP):Tb:=t99.d (zmP _ VK)
def C2(dP:Y29):q8:=Lz [] [Mm 0 (.sl .expr),.s 1 (.wo 62 [.rp (.sl .str)]),Mi 7] cF [jF,nT] λp s=>yo (λy0 y1=>dP (y0,y1)) p.1 (λz0=>(j7 (λy0 y1=>dP (y0,y1))) z0 p.2.1) p.2.2 s
def z1t(dP:Y29):Hints:=Hz [(0,C2 dP)] [] []
theorem Tz(dP:Y29)(VK:H29 dP):LO Tryz.f114 (C2 dP) 0:=lk (z0A dP VK) rn (z1t dP) [] zf
theorem za3(dP:Y29)(VK:H29 dP):zy Pz 114 ⟨[.ty (.sl .expr),.wo 62 [.rp (.sl .str)]],[i64],λx=>hJ (λy0 y1=>dP (y0,y1)) x.1 (λz0=>(j7 (λy0 y1=>dP (y0,y1))) z0 x.2)⟩:=wi (z0A dP VK) rn (z1t dP) func114 [0] (qe rfl (Tz dP VK) zf)
theorem zeI(dP:Y29)(VK:H29 dP):zy Pz 61 ⟨[.ty (.sl .expr),.wo 62 [.rp (.sl .str)]],[.bool],λx=>jj (λy0 y1=>dP (y0,y1)) x.1 (λz0=>(j7 (λy0 y1=>dP (y0,y1))) z0 x.2)⟩:=wi (t99.d (za3 _ VK)) rn hN func61 [] zf
def h29(dP:Y29):Hints:=Hz [] [(0,3,.ways [⟨.normal,⟨[Mb 41,.v (.qs .expr),.v (.qs .expr)],[],IX⟩⟩]),(3,1,.ways [⟨.normal,Ko⟩,Wm])] []
theorem zeH(dP:Y29)(VK:H29 dP):zy Pz 29 ⟨[.ty .expr,.ty (.sl .str)],[.bool],λx=>dq (λy0 y1=>dP (y0,y1)) x.1 x.2⟩:=wi ((t99.d (zeI _ VK)).d (zmP _ VK)) (rz [2,3]) (h29 dP) func29 [] zf
theorem zq9:zy Pz 29 ⟨[.ty .expr,.ty (.sl .str)],[.bool],λx=>fT x.1 x.2⟩:=Gd (λdP x=>dq (λy0 y1=>dP (y0,y1)) x.1 x.2) (λx=>rfl) (λdP VK=>zeH dP VK)
def t100:=t99.d zq9
def z2L:q8:=Lz [.slot 8 .str] [Mr 1 qz,Mm 46 (.sl qy),Mi 47] ⟨[Mi 48,.a .str],[(8,.cur 0 .str)],nS⟩ [⟨.exit 1,⟨[.a .str],[(8,.cur 0 .str)],nS⟩⟩] λp s=>o0 p.1 p.2.1 p.2.2 s
def z2M:q8:=Lz [] [Mm 67 (.sl xp),Mi 68] ⟨[Mi 69,.a .str],[(8,.cur 0 .str)],nS⟩ [⟨.exit 3,⟨[.a .str],[],nS⟩⟩,⟨.ret,⟨[Mi 2,Ms 3,.a .str],[],nS⟩⟩] λp s=>o5 p.1 p.2 s
def h15:Hints:=Hz [(1,z2L),(3,z2M)] [(0,3,.flat [Mb 19]),(0,23,.ways [⟨.normal,⟨[Mb 84,.a .str,.v (.qs xp)],[(8,.cur 0 .str)],[.arr .str,.var (.qs xp)]⟩⟩])] []
theorem zdW:LO Tryz.f15 z2L 1:=lk t100 (rz [1]) h15 [] zf
theorem zdX:LO Tryz.f15 z2M 3:=lk t100 (rz [1]) h15 [] zf
theorem zpV:zy Pz 15 ⟨[.ty qz],[i64,.str],λx=>fU x⟩:=wi t100 (rz [1]) h15 func15 [1,3] (qe rfl zdW (qe rfl zdX zf))
def t101:=t100.d zpV
theorem zqb:zy Pz 31 ⟨[.ty qz],[.str],λx=>tF x⟩:=wi t101 (rz [1]) hN func31 [] zf
def t102:=t101.d zqb
theorem zqD:zy Tryz.prog 63 ⟨[.ty .str,.ty .str],[.sl .str],λx=>strings_Split x.1 x.2⟩:=by
 refine jJ Tryz.func63 (by kernel_rfl) rfl λO x xc y hy hI ha => ?_
 obtain⟨s,sep⟩:=x
 obtain⟨⟨h0,h1⟩,hy⟩:=hy
 cases hy
 obtain⟨v0,r,rfl,Yt,ha⟩:=wQ.cons_inv (show wQ O [.qs .str s,.qs .str sep] xc from ha)
 obtain⟨v1,r,rfl,M0,ha⟩:=ha.cons_inv
 rw[ha.wj,Yt.jl,M0.jl]
 obtain⟨m,hm⟩:=y6 hI
 refine(Go.Proofs.Tryz.strings_Split ⟨s.toArray⟩ ⟨sep.toArray⟩ m O.w (by rw[show(zF ⟨s.toArray⟩)=zH s from Y]; exact h0) hm (by rw[show(zF ⟨sep.toArray⟩)=zH sep from Y]; simp only at h1; omega)).mono ?_
 rintro e w' ⟨rfl,rfl⟩
 refine⟨Ks _ _,λ_=>⟨_,rfl,?_⟩⟩
 exact z4z s sep h1 _
def t103:=t102.d zqD
theorem zjh:zy Tryz.prog 116 ⟨[.ty .str,.ty .str],[.str,.str,.bool],λx=>strings_Cut x.1 x.2⟩:=by
 refine jJ Tryz.func116 (by kernel_rfl) rfl λO x xc y hy hI ha => ?_
 obtain⟨s,sep⟩:=x
 obtain⟨h0,hy⟩:=hy
 cases hy
 obtain⟨v0,r,rfl,Yt,ha⟩:=wQ.cons_inv (show wQ O [.qs .str s,.qs .str sep] xc from ha)
 obtain⟨v1,r,rfl,M0,ha⟩:=ha.cons_inv
 rw[ha.wj,Yt.jl,M0.jl]
 obtain⟨m,hm⟩:=y6 hI
 refine(Go.Proofs.Tryz.strings_Cut ⟨s.toArray⟩ ⟨sep.toArray⟩ m O.w (by rw[show(zF ⟨s.toArray⟩)=zH s from Y]; exact h0) hm).mono ?_
 rintro e w' ⟨rfl,n,rfl⟩
 refine⟨below_drewN _ _,λ_=>⟨_,rfl,?_⟩⟩
 rw[show Lib.cut (⟨s.toArray⟩:ByteArray).data.toList (⟨sep.toArray⟩:ByteArray).data.toList=Fc s sep from z11 s sep]
 exact RD.zrp RD.str RD.str RD.bool
def t104:=t103.d zjh
theorem zk1:zy Pz 173 ⟨[.ty (.int .i32)],[.bool],λx=>sE x⟩:=wi t104 rn hN func173 [] zf
def t105:=t104.d zk1
theorem zan(w:World):Go.Proofs.PredAtRunes Tryz.prog 173 #[] (λn=>n==32) w:=λzl x N I=>by
 show Calls Tryz.prog 173 #[.int .i32 (x:Int)] zl _
 have hn:Tryz.f173.ntmps=5:=by kernel_rfl
 have J:((x:Int)==32)=(x==32):=by rw[Bool.eq_iff_iff,beq_iff_eq,beq_iff_eq]; omega
 go_enter Tryz.func173,hn
 go_wp2
 go_ret
 exact⟨by rw[<- J]; rfl,0,rfl⟩
theorem zk0:zy Tryz.prog 172 ⟨[.ty .str,.wo 173 []],[.sl .str],λx=>strings_FieldsFunc x.1 (λz0=>sE z0)⟩:=by
 refine jJ Tryz.func172 (by kernel_rfl) rfl λO x xc y hy hI ha => ?_
 obtain⟨s,c⟩:=x
 obtain⟨h0,hy⟩:=hy
 cases hy
 obtain⟨v0,r,rfl,Yt,ha⟩:=wQ.cons_inv (show wQ O [.qs .str s,.wo 173 []] xc from ha)
 obtain⟨v1,r,rfl,M0,ha⟩:=ha.cons_inv
 rw[ha.wj,Yt.jl,M0.z0T (by rfl)]
 refine(Go.Proofs.Tryz.strings_FieldsFunc_runes 173 #[] (λargs w=>nX Tryz.func173 (by kernel_rfl) rfl w) (λn=>n==32) ⟨s.toArray⟩ O.w (by rw[show(zF ⟨s.toArray⟩)=zH s from Y]; exact h0) (zan O.w)).mono ?_
 rintro e w' ⟨A,rfl,hA,ho,hB⟩
 refine⟨hB,λ_=>⟨_,rfl,?_⟩⟩
 exact SY s ho
def t106:=t105.d zk0
theorem zji:zy Pz 117 ⟨[.ty .str],[(.sl .str)],λx=>tI x⟩:=wi t106 rn hN func117 [] zf
def t107:=t106.d zji
theorem zkO:zy Tryz.prog 227 ⟨[.ty .str,.ty .str],[i64],λx=>strings_IndexAny x.1 x.2⟩:=by
 refine jJ Tryz.func227 (by kernel_rfl) rfl λO x xc y hy hI ha => ?_
 obtain⟨s,chars⟩:=x
 obtain⟨⟨h0,h1,X,h3⟩,hy⟩:=hy
 cases hy
 obtain⟨v0,r,rfl,Yt,ha⟩:=wQ.cons_inv (show wQ O [.qs .str s,.qs .str chars] xc from ha)
 obtain⟨v1,r,rfl,M0,ha⟩:=ha.cons_inv
 rw[ha.wj,Yt.jl,M0.jl]
 refine(Go.Proofs.Any.Wd Go.Proofs.Tryz.lays153 (λ_=>by kernel_rfl) (by kernel_rfl) ⟨s.toArray⟩ ⟨chars.toArray⟩ O.w (by rw[show(zF ⟨chars.toArray⟩)=zH chars from Y]; exact h1) (by rw[show(zF ⟨s.toArray⟩)=zH s from Y]; exact h0) (by rw[show(zF ⟨chars.toArray⟩)=zH chars from Y]; exact X) h3).mono ?_
 rintro e w' ⟨rfl,hB⟩
 refine⟨hB,λ_=>⟨_,rfl,?_⟩⟩
 have e1:Lib.indexAny s chars=rI s chars:=BT chars s
 show RD _ (.qs i64 (rI s chars)) _
 rw[<- e1]
 exact RD.int
def t108:=t107.d zkO
def zoy:Hints:=Hz [] [(0,1,.flat [Mb 4])] []
theorem zlL:zy Pz 295 ⟨[.ty .str,.ty .str],[.bool],λx=>kc x.1 x.2⟩:=wi t108 rn zoy func295 [] zf
def t109:=t108.d zlL
theorem zkP:zy Pz 228 ⟨[.ty .str,.ty .str],[.bool],λx=>strings_HasPrefix x.1 x.2⟩:=wi t109 rn hN func228 [] zf
def t110:=t109.d zkP
def Ra:q8:=Lz [] [] oJ [Ns] λp s=>bD  s
def zhq:Hints:=Hz [(0,Ra)] [(0,0,.flat [Mb 23])] []
theorem z9Q:LO Tryz.f388 Ra 0:=lk t110 rn zhq [] zf
theorem zmL:xw Pz 388 ⟨[.ptr],oJ,[],Sn,0,λx=>dA x⟩:=dW t110 rn zhq func388 [0] (qe rfl z9Q zf)
def t111:=t110.s zmL
theorem zmg:zy Tryz.prog 330 ⟨[.ty .str,.ty (.int .u8)],[i64],λx=>strings_IndexByte x.1 x.2⟩:=by
 refine jJ Tryz.func330 (by kernel_rfl) rfl λO x xc y hy hI ha => ?_
 obtain⟨s,c⟩:=x
 cases hy
 obtain⟨v0,r,rfl,Yt,ha⟩:=wQ.cons_inv (show wQ O [.qs .str s,.qs (.int .u8) c] xc from ha)
 obtain⟨v1,r,rfl,M0,ha⟩:=ha.cons_inv
 rw[ha.wj,Yt.jl,M0.dX]
 refine(Go.Proofs.Tryz.strings_IndexByte ⟨s.toArray⟩ c O.w).mono ?_
 rintro e w' ⟨rfl,rfl⟩
 refine⟨ZO _,λ_=>⟨_,rfl,?_⟩⟩
 have e1:Lib.indexByte s (byteOf c)=UR s (byteOf c):=z7U s (byteOf c)
 show RD _ (.qs i64 (UR s (byteOf c))) _
 rw[<- e1]
 exact RD.int
def t112:=t111.d zmg
def zoH:Hints:=Hz [] [(0,2,.ways [⟨.normal,⟨[Mb 30,.v (.qs xn)],[],Ug⟩⟩])] []
theorem zmI:xw Pz 376 ⟨lM,⟨[Ms 1,.v (.qs xn)],[(0,.ptr 0 0)],Ug⟩,[],⟨[Mm 0 (.int .u8),.v (.qs xn)],[],Ug⟩,1,λx=>uN x.1 x.2⟩:=dW t112 rn zoH func376 [] zf
def t113:=t112.s zmI
theorem zmj:jI Pz 334 ⟨QJ,⟨[Mi 1,Mi 2,.v (.qs xn)],[(0,.ptr 0 0)],Ug⟩,[],Sn,0,397,tM,none,λx=>vu x.1 x.2.1 x.2.2⟩:=Yq t113 rn hN func334 [] zf
def t114:=t113.p zmj
theorem zmM:jI Pz 389 ⟨[.ptr],oJ,[],Sn,0,397,tM,none,λx=>kG x⟩:=Yq t114 rn hN func389 [] zf
def t115:=t114.p zmM
def Rb:q8:=Lz [] [.s 1 (.wo 216 []),Mi 2,Mi 7] oJ [Ns] λp s=>yk (λz0=>ko z0) p.2.1 p.2.2 s
def zhr:Hints:=Hz [(0,Rb)] [(0,2,.ways [z62])] []
theorem z9R:LO Tryz.f391 Rb 0:=lk t115 rn zhr [] zf
theorem zmO:xw Pz 391 ⟨[.ptr,.wo 216,.any],⟨[.s 1 (.wo 216 []),Mi 2,.v (.qs xn)],[(0,.ptr 0 0)],Ug⟩,[],z5y,1,λx=>uO (λz0=>ko z0) x.2.1 x.2.2⟩:=dW t115 rn zhr func391 [0] (qe rfl z9R zf)
def t116:=t115.s zmO
theorem zkS:zy Tryz.prog 231 ⟨[.ty .str,.ty .str],[.str,.bool],λx=>strings_CutPrefix x.1 x.2⟩:=by
 refine jJ Tryz.func231 (by kernel_rfl) rfl λO x xc y hy hI ha => ?_
 obtain⟨s,p⟩:=x
 cases hy
 obtain⟨v0,r,rfl,Yt,ha⟩:=wQ.cons_inv (show wQ O [.qs .str s,.qs .str p] xc from ha)
 obtain⟨v1,r,rfl,M0,ha⟩:=ha.cons_inv
 rw[ha.wj,Yt.jl,M0.jl]
 refine(Go.Proofs.Tryz.strings_CutPrefix ⟨s.toArray⟩ ⟨p.toArray⟩ O.w).mono ?_
 rintro e w' ⟨rfl,rfl⟩
 refine⟨ZO _,λ_=>⟨_,rfl,?_⟩⟩
 exact RD.zaF RD.str RD.bool
def t117:=t116.d zkS
def PT:q8:=Lz [] [Mm 1 (.int .u8)] X1 [Wl] λp s=>b9 p s
def zhh:Hints:=Hz [(0,PT)] [(0,1,.flat [Mb 16])] []
theorem z9A:LO Tryz.f336 PT 0:=lk t117 rn zhh [] zf
theorem zml:zy Pz 336 ⟨[.ty .str,.ty (.int .u8)],[.str],λx=>strings_trimRightByte x.1 x.2⟩:=wi t117 rn zhh func336 [0] (qe rfl z9A zf)
def t118:=t117.d zml
def PS:q8:=Lz [] [Mm 1 (.int .u8)] X1 [Wl] λp s=>bO p s
def zhg:Hints:=Hz [(0,PS)] [(0,1,.flat [Mb 13])] []
theorem z9z:LO Tryz.f335 PS 0:=lk t118 rn zhg [] zf
theorem zmk:zy Pz 335 ⟨[.ty .str,.ty (.int .u8)],[.str],λx=>strings_trimLeftByte x.1 x.2⟩:=wi t118 rn zhg func335 [0] (qe rfl z9z zf)
def t119:=t118.d zmk
theorem zlJ:zy Tryz.prog 293 ⟨[.ty .str],[(ng .bool 256),.bool],λx=>strings_makeASCIISet x⟩:=by
 refine jJ Tryz.func293 (by kernel_rfl) rfl λO s xc y hy hI ha => ?_
 obtain⟨⟨h0,h1⟩,hy⟩:=hy
 cases hy
 obtain⟨v0,r,rfl,Yt,ha⟩:=wQ.cons_inv (show wQ O [.qs .str s] xc from ha)
 rw[ha.wj,Yt.jl]
 refine(Go.Proofs.Tryz.strings_makeASCIISet (λ_=>by kernel_rfl) ⟨s.toArray⟩ O.w (by rw[show(zF ⟨s.toArray⟩)=zH s from Y]; exact h0) (by simpa using h1)).mono ?_
 rintro e w' ⟨rfl,rfl⟩
 refine⟨Ks _ _,λ_=>⟨_,rfl,?_⟩⟩
 exact RD.zaF (z0E s) RD.bool
def t120:=t119.d zlJ
theorem zlK:zy Pz 294 ⟨[.rp (ng .bool 256),.ty (.int .u8)],[.bool],λx=>vn x.1 x.2⟩:=wi t120 rn hN func294 [] zf
def t121:=t120.d zlK
def PV:q8:=Lz [] [Mr 1 (ng .bool 256)] X1 [Wl] λp s=>uK p s
def zhj:Hints:=Hz [(0,PV)] [] []
theorem z9C:LO Tryz.f338 PV 0:=lk t121 rn zhj [] zf
theorem zmn:zy Pz 338 ⟨[.ty .str,.rp (ng .bool 256)],[.str],λx=>jB x.1 x.2⟩:=wi t121 rn zhj func338 [0] (qe rfl z9C zf)
def t122:=t121.d zmn
def PU:q8:=Lz [] [Mr 1 (ng .bool 256)] X1 [Wl] λp s=>j5 p s
def zhi:Hints:=Hz [(0,PU)] [] []
theorem z9B:LO Tryz.f337 PU 0:=lk t122 rn zhi [] zf
theorem zmm:zy Pz 337 ⟨[.ty .str,.rp (ng .bool 256)],[.str],λx=>jS x.1 x.2⟩:=wi t122 rn zhi func337 [0] (qe rfl z9B zf)
def t123:=t122.d zmm
def zoz:Hints:=Hz [] [(0,1,.flat [Mb 12]),(0,3,.flat [Mb 21])] []
theorem zlN:zy Pz 298 ⟨[.ty .str,.ty .str],[.str],λx=>cz x.1 x.2⟩:=wi t123 rn zoz func298 [] zf
def t124:=t123.d zlN
def PA:q8:=Lz [] [Mm 0 (.sl u32),Mm 1 (.sl u32),Mm 24 (.sl u32),Mi 25] ⟨[Mm 6 (.int .u64),Mi 26,.a u32],[(5,.cur 0 u32)],gV⟩ [⟨.exit 0,⟨[Mm 6 (.int .u64),.a u32],[(5,.cur 0 u32)],gV⟩⟩] λp s=>VQ p.1 p.2.1 p.2.2.1 p.2.2.2 s
def zha:Hints:=Hz [(0,PA)] [(3,2,.flat [Mm 0 (.sl u32),Mm 1 (.sl u32)]),(3,10,.flat [Mm 6 (.int .u64)])] [(16,[5])]
theorem z9o:LO Tryz.f299 PA 0:=lk t124 rn zha [] zf
theorem zlO:zy Pz 299 ⟨[.ty (.sl u32),.ty (.sl u32)],[(.sl u32)],λx=>J2 x.1 x.2⟩:=wi t124 rn zha func299 [0] (qe rfl z9o zf)
def t125:=t124.d zlO
def P1:q8:=Lz [] [Ms 0,Mi 19] ⟨[Mm 4 (.sl u32),Mi 20],[],[]⟩ [⟨.exit 0,⟨[Mm 4 (.sl u32)],[],[]⟩⟩] λp s=>Qj p.1 p.2 s
def zgP:Hints:=Hz [(0,P1)] [(0,1,.ways [⟨.normal,⟨[Mb 17],[],[]⟩⟩])] []
theorem z8T:LO Tryz.f232 P1 0:=lk t125 rn zgP [] zf
theorem zkT:zy Pz 232 ⟨[.ty .str],[(.sl u32),.bool],λx=>mo x⟩:=wi t125 rn zgP func232 [0] (qe rfl z8T zf)
def t126:=t125.d zkT
def zoi:Hints:=Hz [] [(0,9,.flat [Mb 58]),(3,13,.flat [Ms 14]),(0,17,.flat [Mb 94])] []
theorem zk4:zy Pz 176 ⟨[.ty .str],[zm,i64],λx=>pH x⟩:=wi t126 rn zoi func176 [] zf
def t127:=t126.d zk4
def zoJ:Hints:=Hz [] [(0,2,.flat [Mb 35]),(3,2,.ways [⟨.normal,⟨[Ms 3,.v (.qs xn),.v (.qs .expr)],[],S9⟩⟩,⟨.bh (.iface 397 .ve),⟨[Mm 0 uB,.v (.qs xn),.v (.qs .expr)],[],S9⟩⟩])] []
theorem zmN:jI Pz 390 ⟨[.ptr],oJ,[],X0,1,397,tM,none,λx=>kF x⟩:=Yq t127 rn zoJ func390 [] zf
def t128:=t127.p zmN
def Ca:q8:=Lz [] [.s 1 (.wo 158 []),Mi 2,Mi 7] oJ [Ns] λp s=>yk (λz0=>cf z0) p.2.1 p.2.2 s
def z1C:Hints:=Hz [(0,Ca)] [(0,2,.ways [z62])] []
theorem TH:LO Tryz.f391 Ca 0:=lk t128 rn z1C [] zf
theorem RE:xw Pz 391 ⟨[.ptr,.wo 158,.any],⟨[.s 1 (.wo 158 []),Mi 2,.v (.qs xn)],[(0,.ptr 0 0)],Ug⟩,[],z5y,1,λx=>uO (λz0=>cf z0) x.2.1 x.2.2⟩:=dW t128 rn z1C func391 [0] (qe rfl TH zf)
def t129:=t128.s RE
abbrev zcz:=uh.den oJ->T (uh.den X0⊕uh.den tM)
abbrev znX(F:zcz):=jI Pz 377 ⟨[.ptr],oJ,[],X0,1,397,tM,none,F⟩
abbrev V5:=uh.den oJ->T (uh.den X0⊕uh.den tM)
abbrev HT(F:V5):=jI Pz 333 ⟨[.ptr],oJ,[],X0,1,397,tM,none,F⟩
def zoI(Kp:zcz)(vL:V5):Hints:=Hz [] [(3,10,.ways [⟨.normal,z5V⟩,⟨.bh (.iface 397 .ve),z5R⟩]),(0,14,.ways [⟨.normal,⟨[Mb 46,.v (.qs xn),.v (.qs .expr)],[],S9⟩⟩]),(0,16,.ways [⟨.normal,⟨[Mb 71,.v (.qs xn),.v (.qs .expr)],[],S9⟩⟩])] []
theorem zae(Kp:zcz)(z1K:znX Kp)(vL:V5)(dC:HT vL):jI Pz 377 ⟨[.ptr],oJ,[],X0,1,397,tM,none,λx=>uE (λy0=>Kp (y0)) (λy0=>vL (y0)) x⟩:=Yq (((t129.s RE).p dC).p z1K) rn (zoI Kp vL) func377 [] zf
theorem zmJ(vL:V5)(dC:HT vL):jI Pz 377 ⟨[.ptr],oJ,[],X0,1,397,tM,none,λx=>vM (λy0=>vL (y0)) x⟩:=NS (λKp x=>uE (λy0=>Kp (y0)) (λy0=>vL (y0)) x) (λx=>rfl) (λKp z1K=>zae Kp z1K vL dC)
def zfW(vL:V5)(dC:HT vL):Tb:=t129.p (zmJ _ dC)
def R6(vL:V5):q8:=Lz [] [Ms 2,Mr 7 uB] ⟨[.v (.qs xn),.v (.qs .expr),.v (.qs .expr)],[(0,.ptr 0 0),(1,.wo 1000377 [(0,0)]),(8,.ptr 1 0),(9,.ptr 2 0)],S6⟩ [⟨.ret,z5V⟩,⟨.bh (.iface 397 .ve),z5R⟩] λp s=>vk (λy0=>vL (y0)) p.1 p.2 s
def zhn(vL:V5):Hints:=Hz [(0,R6 vL)] [] []
theorem z9N(vL:V5)(dC:HT vL):LO Tryz.f359 (R6 vL) 0:=lk (zfW vL dC) (rz [7]) (zhn vL) [] zf
theorem zmD(vL:V5)(dC:HT vL):jI Pz 359 ⟨[.ptr,.wo 1000377,.any,.any],⟨[.s 1 (.mclo 1000377 [.pt 0]),Ms 2,Mm 3 uB,.v (.qs xn)],[(0,.ptr 0 0)],Ug⟩,[],X0,1,397,tM,none,λx=>wy (λy0=>vL (y0)) x.1 x.2.1 x.2.2.1 x.2.2.2⟩:=Yq (zfW vL dC) (rz [7]) (zhn vL) func359 [0] (qe rfl (z9N vL dC) zf)
theorem zmE(vL:V5)(dC:HT vL):jI Pz 360 ⟨[.ptr],oJ,[],X0,1,397,tM,none,λx=>vz (λy0=>vL (y0)) x⟩:=Yq (t129.p (zmD _ dC)) rn hN func360 [] zf
def z0B(vL:V5)(dC:HT vL):Tb:=t129.p (zmE _ dC)
def C9(vL:V5):q8:=Lz [] [Ms 2,Mr 7 uB] ⟨[.v (.qs xn),.v (.qs .expr),.v (.qs .expr)],[(0,.ptr 0 0),(1,.wo 1000360 [(0,0)]),(8,.ptr 1 0),(9,.ptr 2 0)],S6⟩ [⟨.ret,z5V⟩,⟨.bh (.iface 397 .ve),z5R⟩] λp s=>v8 (λy0=>vL (y0)) p.1 p.2 s
def z1B(vL:V5):Hints:=Hz [(0,C9 vL)] [] []
theorem TG(vL:V5)(dC:HT vL):LO Tryz.f359 (C9 vL) 0:=lk (z0B vL dC) (rz [7]) (z1B vL) [] zf
theorem zad(vL:V5)(dC:HT vL):jI Pz 359 ⟨[.ptr,.wo 1000360,.any,.any],⟨[.s 1 (.mclo 1000360 [.pt 0]),Ms 2,Mm 3 uB,.v (.qs xn)],[(0,.ptr 0 0)],Ug⟩,[],X0,1,397,tM,none,λx=>wv (λy0=>vL (y0)) x.1 x.2.1 x.2.2.1 x.2.2.2⟩:=Yq (z0B vL dC) (rz [7]) (z1B vL) func359 [0] (qe rfl (TG vL dC) zf)
theorem zaa(vL:V5)(dC:HT vL):jI Pz 333 ⟨[.ptr],oJ,[],X0,1,397,tM,none,λx=>yc (λy0=>vL (y0)) x⟩:=Yq (t129.p (zad _ dC)) rn hN func333 [] zf
theorem zmi:jI Pz 333 ⟨[.ptr],oJ,[],X0,1,397,tM,none,λx=>cX x⟩:=NS (λvL x=>yc (λy0=>vL (y0)) x) (λx=>rfl) (λvL dC=>zaa vL dC)
def t130:=t129.p zmi
theorem zmh:cM (Nt Pz) 332 ⟨[.ptr,.ptr,.ptr],⟨[.v (.qs .expr),.v (.qs i64),.v (.qs i64)],[(0,.ptr 0 0),(1,.ptr 1 0),(2,.ptr 2 0)],z50⟩,[],z5t,0,λx=>gQ x.1 x.2.1 x.2.2⟩:=fkr t130 rn hN Tryz.func332
theorem za9:cM (Sw Pz 397) 332 ⟨[.ptr,.ptr,.ptr,.any],⟨[Mm 3 uB,.v (.qs .expr),.v (.qs i64),.v (.qs i64)],[(0,.ptr 0 0),(1,.ptr 1 0),(2,.ptr 2 0)],z50⟩,[],z5t,0,λx=>gj x.1 x.2.1 x.2.2.1 x.2.2.2⟩:=fkh t130 rn hN Tryz.func332 3
theorem zlM:xw Pz 296 ⟨[.ptr],oJ,[],⟨[Mm 0 .expr,Mi 1,Mi 2,.v (.qs xn)],[],Ug⟩,3,λx=>iG x⟩:=fkf t130 rn hN (g:=332) (pt:=397) zmh za9 Tryz.func296
def t131:=t130.s zlM
def zor:Hints:=Hz [] [(0,5,.ways [⟨.normal,⟨[Mb 31,.v (.qs .expr),.v (.qs xn),.v (.qs .expr)],[],[.var (.qs .expr),.var (.qs xn),.var (.qs .expr)]⟩⟩])] []
theorem zkQ:zy Pz 229 ⟨[.ty .str],[.expr,i64,i64],λx=>rE x⟩:=wi t131 rn zor func229 [] zf
def t132:=t131.d zkQ
theorem zkR:zy Tryz.prog 230 ⟨[.ty .str,.ty .str],[.bool],λx=>strings_Contains x.1 x.2⟩:=by
 refine jJ Tryz.func230 (by kernel_rfl) rfl λO x xc y hy hI ha => ?_
 obtain⟨s,sub⟩:=x
 obtain⟨h0,hy⟩:=hy
 cases hy
 obtain⟨v0,r,rfl,Yt,ha⟩:=wQ.cons_inv (show wQ O [.qs .str s,.qs .str sub] xc from ha)
 obtain⟨v1,r,rfl,M0,ha⟩:=ha.cons_inv
 rw[ha.wj,Yt.jl,M0.jl]
 obtain⟨m,hm⟩:=y6 hI
 refine(Go.Proofs.Tryz.strings_Contains ⟨s.toArray⟩ ⟨sub.toArray⟩ m O.w (by rw[show(zF ⟨s.toArray⟩)=zH s from Y]; exact h0) hm).mono ?_
 rintro e w' ⟨rfl,rfl⟩
 refine⟨ZO _,λ_=>⟨_,rfl,?_⟩⟩
 have e1:Lib.contains s sub=decide ((0:Int)<=Gl s sub):=contains_eq s sub
 show RD _ (.qs .bool (decide ((0:Int)<=Gl s sub))) _
 rw[<- e1]
 exact RD.bool
def t133:=t132.d zkR
def zog:Hints:=Hz [] [(0,6,.ways [⟨.normal,⟨[Mb 34,.v (.qs .expr),.v (.qs .expr)],[],IX⟩⟩]),(3,6,.ways [⟨.normal,⟨[Ms 6,Ms 10,.v (.qs .expr),.v (.qs .expr)],[],IX⟩⟩]),(0,12,.ways [⟨.normal,⟨[Mb 61,.v (.qs .expr),.v (.qs .expr)],[],IX⟩⟩]),(3,11,.ways [⟨.normal,⟨[Mi 7,.v (.qs .expr),.v (.qs .expr)],[],IX⟩⟩])] []
theorem zk2:zy Pz 174 ⟨[.ty .str,.ty .str],[.expr,.expr,.str,i64],λx=>dL x.1 x.2⟩:=wi t133 rn zog func174 [] zf
def t134:=t133.d zk2
def zoj:Hints:=Hz [] [(0,1,.flat [Mb 8])] []
theorem zk5:zy Pz 177 ⟨[.ty (.sl .str),.ty i64,.ty i64,.ty .str],[.bool],λx=>nN x.1 x.2.1 x.2.2.1 x.2.2.2⟩:=wi t134 rn zoj func177 [] zf
def t136:=t134.d zk5
def zoh:Hints:=Hz [] [(0,3,.ways [⟨.normal,⟨[Mb 11],[],[]⟩⟩])] []
theorem zk3:zy Pz 175 ⟨[.ty (.sl .str),.ty i64],[.str,.bool],λx=>nM x.1 x.2⟩:=wi t136 rn zoh func175 [] zf
def t137:=t136.d zk3
def zcZ:Hints:=Hz [] [(0,1,.ways [⟨.normal,⟨[Mb 29,.v Uh,.a qw,.a ql,.a xy,.a qy,.a xp,.a xm],[],Bu⟩⟩])] []
theorem Rp:xw Pz 118 ⟨QJ,zca,[],z5Q,1,λx=>br x.1 x.2.1 x.2.2.1 x.2.2.2.1 x.2.2.2.2.1 x.2.2.2.2.2.1 x.2.2.2.2.2.2.1 x.2.2.2.2.2.2.2.1 x.2.2.2.2.2.2.2.2⟩:=dW t137 rn zcZ func118 [] zf
def t152:=t137.s Rp
def zd0:Hints:=Hz [] [(0,1,.ways [⟨.normal,⟨[Mb 31,.v Uh,.a qw,.a ql,.a xy,.a qy,.a xp,.a xm],[],Bu⟩⟩])] []
theorem Rq:xw Pz 119 ⟨QJ,zca,[],z5Q,1,λx=>cx x.1 x.2.1 x.2.2.1 x.2.2.2.1 x.2.2.2.2.1 x.2.2.2.2.2.1 x.2.2.2.2.2.2.1 x.2.2.2.2.2.2.2.1 x.2.2.2.2.2.2.2.2⟩:=dW t152 rn zd0 func119 [] zf
def t153:=t152.s Rq
def zd1:Hints:=Hz [] [(0,1,.ways [⟨.normal,⟨[Mb 26,.v Uh,.a qw,.a ql,.a xy,.a qy,.a xp,.a xm],[],Bu⟩⟩])] []
theorem Rr:xw Pz 120 ⟨lM,Sf,[],Sj,1,λx=>cu x.1 x.2.1 x.2.2.1 x.2.2.2.1 x.2.2.2.2.1 x.2.2.2.2.2.1 x.2.2.2.2.2.2.1 x.2.2.2.2.2.2.2⟩:=dW t153 rn zd1 func120 [] zf
def t154:=t153.s Rr
def zd2:Hints:=Hz [] [(0,1,.ways [zce])] []
theorem Rs:xw Pz 121 ⟨lM,Sf,[],Sj,1,λx=>da x.1 x.2.1 x.2.2.1 x.2.2.2.1 x.2.2.2.2.1 x.2.2.2.2.2.1 x.2.2.2.2.2.2.1 x.2.2.2.2.2.2.2⟩:=dW t154 rn zd2 func121 [] zf
def t155:=t154.s Rs
def zd3:Hints:=Hz [] [(0,1,.ways [zce])] []
theorem Rt:xw Pz 122 ⟨lM,Sf,[],Sj,1,λx=>cv x.1 x.2.1 x.2.2.1 x.2.2.2.1 x.2.2.2.2.1 x.2.2.2.2.2.1 x.2.2.2.2.2.2.1 x.2.2.2.2.2.2.2⟩:=dW t155 rn zd3 func122 [] zf
def t156:=t155.s Rt
def zo9:Hints:=Hz [] [(0,1,.ways [⟨.normal,⟨[Mb 23,.v Uh,.a qw,.a ql,.a xy,.a qy,.a xp,.a xm],[],Bu⟩⟩]),(0,5,.flat [Mb 44]),(3,5,.ways [zcc]),(0,8,.ways [⟨.normal,⟨[Mb 68,.v Uh,.a qw,.a ql,.a xy,.a qy,.a xp,.a xm,.v (.qs qy)],[],[.var Uh,.arr qw,.arr ql,.arr xy,.arr qy,.arr xp,.arr xm,.var (.qs qy)]⟩⟩]),(3,8,.ways [zcc])] []
theorem zjj:xw Pz 123 ⟨lM,Sf,[],Sj,1,λx=>db x.1 x.2.1 x.2.2.1 x.2.2.2.1 x.2.2.2.2.1 x.2.2.2.2.2.1 x.2.2.2.2.2.2.1 x.2.2.2.2.2.2.2⟩:=dW t156 rn zo9 func123 [] zf
def t157:=t156.s zjj
def h64:Hints:=Hz [] [(0,3,.flat [Mb 36]),(0,7,.flat [Mb 41]),(0,9,.flat [Mb 53])] []
theorem zqE:xw Pz 64 ⟨lM,⟨[Ms 1,.v Uh,.a qw,.a ql,.a xy,.a qy,.a xp,.a xm],[(0,.ptr 0 0)],Bu⟩,[],z5Q,1,λx=>pB x.1 x.2.1 x.2.2.1 x.2.2.2.1 x.2.2.2.2.1 x.2.2.2.2.2.1 x.2.2.2.2.2.2.1 x.2.2.2.2.2.2.2⟩:=dW (((((t157.s Rt).s Rs).s Rr).s Rq).s Rp) rn h64 func64 [] zf
def t158:=t157.s zqE
def z36:q8:=Lz [.cell 0 5 xm,.cell 1 5 xm,.cell 0 4 xp,.cell 1 4 xp,.cell 0 0 qw,.cell 1 0 qw,.cell 0 1 ql,.cell 1 1 ql,.cell 0 2 xy,.cell 1 2 xy,.cell 0 3 qy,.cell 1 3 qy] [Mm 14 (.sl .str),Mi 15] ⟨[Mi 16,.v z5c,.v L3,.a xm,.a xm,.a xp,.a xp,.a qw,.a qw,.a ql,.a ql,.a xy,.a xy,.a qy,.a qy],[(2,.ptr 0 0),(5,.ptr 1 0)],zc5⟩ [⟨.exit 0,⟨[.v z5c,.v L3,.a xm,.a xm,.a xp,.a xp,.a qw,.a qw,.a ql,.a ql,.a xy,.a xy,.a qy,.a qy],[],zc5⟩⟩,⟨.ret,⟨[Mi 3,Mi 4,.v (.qs qz),.v L3,.a xm,.a xm,.a xp,.a xp,.a qw,.a qw,.a ql,.a ql,.a xy,.a xy,.a qy,.a qy],[],[.var (.qs qz),.var L3,.arr xm,.arr xm,.arr xp,.arr xp,.arr qw,.arr qw,.arr ql,.arr ql,.arr xy,.arr xy,.arr qy,.arr qy]⟩⟩] λp s=>ll p.1 p.2 s
def h30:Hints:=Hz [(0,z36)] [] []
theorem zed:LO Tryz.f30 z36 0:=lk t158 rn h30 [] zf
theorem zqa:zy Pz 30 ⟨[.ty .str],[qz,i64,i64],λx=>nL x⟩:=wi t158 rn h30 func30 [0] (qe rfl zed zf)
def t159:=t158.d zqa
theorem zpW:zy Pz 16 ⟨[.ty qz],[qz],λx=>Q1 x⟩:=wi t159 (rz [1]) hN func16 [] zf
def t160:=t159.d zpW
def h33:Hints:=Hz [] [(3,2,.flat [Mm 3 (.int .u64)])] []
theorem zqd:zy Pz 33 ⟨[.ty i64],[zm],λx=>gm x⟩:=wi t160 rn h33 func33 [] zf
def t161:=t160.d zqd
def z1u:Hints:=Hz [] [(0,2,.flat [Mb 4])] []
theorem zjo:zy Pz 128 ⟨[.ty qz,.ty qg],[.bool],λx=>Xp x.1 x.2⟩:=wi t161 (rz [2,3]) z1u func128 [] zf
def t162:=t161.d zjo
theorem zka:zy Pz 182 ⟨[.ty zm],[.bool],λx=>c8 x⟩:=wi t162 (rz [1]) hN func182 [] zf
def t163:=t162.d zka
def P8:q8:=Lz [] [Mm 0 (.sl zm),.s 1 (.wo 182 []),Mi 7] cF [jF,nT] λp s=>yY p.1 (λz0=>c8 z0) p.2.2 s
def zgU:Hints:=Hz [(0,P8)] [] []
theorem z90:LO Tryz.f240 P8 0:=lk t163 rn zgU [] zf
theorem zl0:zy Pz 240 ⟨[.ty (.sl zm),.wo 182 []],[i64],λx=>kW x.1 (λz0=>c8 z0)⟩:=wi t163 rn zgU func240 [0] (qe rfl z90 zf)
def t164:=t163.d zl0
theorem zk9:zy Pz 181 ⟨[.ty (.sl zm),.wo 182 []],[.bool],λx=>vD x.1 (λz0=>c8 z0)⟩:=wi t164 rn hN func181 [] zf
def t165:=t164.d zk9
def P9:q8:=Lz [.slot 3 .str] [Mm 7 (.sl qy),Mi 8] ⟨[Mi 9,.a .str],[(3,.cur 0 .str)],nS⟩ [⟨.exit 0,HL⟩] λp s=>rD p.1 p.2 s
def zgV:Hints:=Hz [(0,P9)] [] []
theorem z92:LO Tryz.f241 P9 0:=lk t165 (rz [1]) zgV [] zf
theorem zl1:zy Pz 241 ⟨[.ty qz],[(.sl .str)],λx=>td x⟩:=wi t165 (rz [1]) zgV func241 [0] (qe rfl z92 zf)
def t166:=t165.d zl1
def h40:Hints:=Hz [] [(0,1,.Bg)] []
theorem zqi:zy Pz 40 ⟨[.ty (.sl zm)],[(.sl zm)],λx=>bu x⟩:=wi t166 rn h40 func40 [] zf
def t167:=t166.d zqi
def ON:q8:=Lz [.cell 0 0 .str,.cell 0 1 .str,.cell 1 1 .str] [Mm 14 (.sl ql),Mi 15] ⟨[Mi 16,.v z5f,.v z5e,.a .str,.a .str,.a .str],[(4,.ptr 0 0),(5,.ptr 1 0)],z4V⟩ [⟨.exit 0,⟨[.v z5f,.v z5e,.a .str,.a .str,.a .str],[],z4V⟩⟩] λp s=>Xs p.1 p.2 s
def zgG:Hints:=Hz [(0,ON)] [] []
theorem z8F:LO Tryz.f183 ON 0:=lk t167 (rz [2]) zgG [] zf
theorem zkb:zy Pz 183 ⟨[.ty qz,.ty (.sl zm)],[wM],λx=>rB x.1 x.2⟩:=wi t167 (rz [2]) zgG func183 [0] (qe rfl z8F zf)
def t168:=t167.d zkb
theorem zl2:zy Pz 242 ⟨[.ty qw,.rp .str],[.bool],λx=>dV x.1 x.2⟩:=wi t168 (rz [2]) hN func242 [] zf
def t169:=t168.d zl2
def I6:q8:=Lz [] [Mm 0 (.sl qw),.s 1 (.wo 242 [.rp .str]),Mi 7] cF [jF,nT] λp s=>vb p.1 (λz0=>dV z0 p.2.1) p.2.2 s
def zb9:Hints:=Hz [(0,I6)] [] []
theorem z2C:LO Tryz.f70 I6 0:=lk t169 rn zb9 [] zf
theorem z3U:zy Pz 70 ⟨[.ty (.sl qw),.wo 242 [.rp .str]],[i64],λx=>wh x.1 (λz0=>dV z0 x.2)⟩:=wi t169 rn zb9 func70 [0] (qe rfl z2C zf)
def t170:=t169.d z3U
def zol:Hints:=Hz [] [(0,2,.flat [Mb 6])] []
theorem zkc:zy Pz 184 ⟨[.ty qz,.ty (.sl .bool),.ty .str],[.bool],λx=>Wx x.1 x.2.1 x.2.2⟩:=wi (t170.d z3U) (rz [3,5]) zol func184 [] zf
def t171:=t170.d zkc
def zoF:Hints:=Hz [] [(0,1,.flat [Mb 12])] []
theorem zmy:zy Pz 350 ⟨[.ty (.sl zm),.ty i64],[zm],λx=>lP x.1 x.2⟩:=wi t171 rn zoF func350 [] zf
def t172:=t171.d zmy
theorem zmo:zy Pz 341 ⟨[.ty .str,.ty wM],[zw,i64],λx=>Wq x.1 x.2⟩:=wi t172 (rz [3]) hN func341 [] zf
def t173:=t172.d zmo
theorem zlV:zy Pz 306 ⟨[.ty zm,.ty zm],[zm],λx=>pn x.1 x.2⟩:=wi t173 rn hN func306 [] zf
def t174:=t173.d zlV
theorem zlh:zy Pz 257 ⟨[.ty zm],[.bool],λx=>iW x⟩:=wi t174 (rz [1]) hN func257 [] zf
def t175:=t174.d zlh
def Pc:q8:=Lz [.cell 0 1 qq,.cell 1 1 qq] [Mr 3 zm,Mm 17 (.sl qq),Mi 18] ⟨[Mi 19,.v CN,.v CO,.a qq,.a qq],[(4,.ptr 0 0),(5,.ptr 1 0)],z55⟩ [z63] λp s=>ZK p.1 p.2.1 p.2.2 s
def zgX:Hints:=Hz [(0,Pc)] [] []
theorem z95:LO Tryz.f245 Pc 0:=lk t175 (rz [2,3]) zgX [] zf
theorem zl5:zy Pz 245 ⟨[.ty zw,.ty zm],[zw],λx=>dQ x.1 x.2⟩:=wi t175 (rz [2,3]) zgX func245 [0] (qe rfl z95 zf)
def t176:=t175.d zl5
def PW:q8:=Lz [] [Mm 1 (.sl u32),Mm 22 (.sl u32),Mi 23] ⟨[Mm 7 u32,Mi 24,.a u32],[(6,.cur 0 u32)],gV⟩ [z68] λp s=>VX p.1 p.2.1 p.2.2 s
def zhk:Hints:=Hz [(0,PW)] [(3,10,.flat [Mm 10 u32])] [(14,[6])]
theorem z9D:LO Tryz.f343 PW 0:=lk t176 rn zhk [] zf
theorem zmq:zy Pz 343 ⟨[.ty (.sl u32),.ty (.sl u32)],[(.sl u32),.bool],λx=>J5 x.1 x.2⟩:=wi t176 rn zhk func343 [0] (qe rfl z9D zf)
def t177:=t176.d zmq
theorem zlU:zy Pz 305 ⟨[.ty zm,.ty zm],[zm],λx=>pj x.1 x.2⟩:=wi t177 rn hN func305 [] zf
def t178:=t177.d zlU
def Pb:q8:=Lz [.cell 0 1 qq,.cell 1 1 qq] [] ⟨[Mm 6 (.sl qq),Mm 7 (.sl qq),.v CN,.v CO,.a qq,.a qq],[(4,.ptr 0 0),(5,.ptr 1 0)],z55⟩ [z63] λp s=>VA  s
def zgW:Hints:=Hz [(0,Pb)] [(0,6,.flat [Mb 46]),(0,8,.flat [Mb 78]),(2,6,.ways [⟨.normal,⟨[Mm 6 (.sl qq),Mm 7 (.sl qq),.v CN,.v CO,.a qq,.a qq,.v (.qs qq)],[],[.var CN,.var CO,.arr qq,.arr qq,.var (.qs qq)]⟩⟩])] []
theorem z94:LO Tryz.f244 Pb 0:=lk t178 (rz [2,3]) zgW [] zf
theorem zl4:zy Pz 244 ⟨[.ty zw,.ty zw],[zw],λx=>Wo x.1 x.2⟩:=wi t178 (rz [2,3]) zgW func244 [0] (qe rfl z94 zf)
def t179:=t178.d zl4
theorem zm7:zy Pz 318 ⟨[.ty zm,.ty zm],[zm,.bool],λx=>tA x.1 x.2⟩:=wi t179 (rz [2]) hN func318 [] zf
def t180:=t179.d zm7
def zoE:Hints:=Hz [] [(0,7,.flat [Mb 34])] []
theorem zmp:zy Pz 342 ⟨[.ty i64,.ty zw,.ty zw],[zw,i64],λx=>ZL x.1 x.2.1 x.2.2⟩:=wi t180 (rz [4,5]) zoE func342 [] zf
def t181:=t180.d zmp
abbrev zfY:=eo [.ty .expr,.ty wM]->T (Et [zw,i64])
abbrev znV(F:zfY):=zy Pz 304 ⟨[.ty .expr,.ty wM],[zw,i64],F⟩
theorem za7(Bx:zfY)(z1I:znV Bx):zy Pz 304 ⟨[.ty .expr,.ty wM],[zw,i64],λx=>dR (λy0 y1=>Bx (y0,y1)) x.1 x.2⟩:=wi (t181.d z1I) (rz [2,3]) hN func304 [] zf
theorem zlT:zy Pz 304 ⟨[.ty .expr,.ty wM],[zw,i64],λx=>Yk x.1 x.2⟩:=Gd (λBx x=>dR (λy0 y1=>Bx (y0,y1)) x.1 x.2) (λx=>rfl) (λBx z1I=>za7 Bx z1I)
def t182:=t181.d zlT
theorem zl3:zy Pz 243 ⟨[.ty .expr,.ty wM],[zw,i64],λx=>YO x.1 x.2⟩:=wi t182 (rz [2,3]) hN func243 [] zf
def t183:=t182.d zl3
theorem zkd:zy Pz 185 ⟨[.ty xp,.ty wM],[zw,i64],λx=>Q0 x.1 x.2⟩:=wi t183 (rz [2,3]) hN func185 [] zf
def t184:=t183.d zkd
theorem zl7:zy Pz 247 ⟨[.ty qq],[.bool],λx=>hH x⟩:=wi t184 (rz [1]) hN func247 [] zf
def t185:=t184.d zl7
def PE:q8:=Lz [] [Mm 0 (.sl qq),.s 1 (.wo 247 []),Mi 7] cF [jF,nT] λp s=>yq p.1 (λz0=>hH z0) p.2.2 s
def zhb:Hints:=Hz [(0,PE)] [] []
theorem z9r:LO Tryz.f307 PE 0:=lk t185 rn zhb [] zf
theorem zlW:zy Pz 307 ⟨[.ty (.sl qq),.wo 247 []],[i64],λx=>kz x.1 (λz0=>hH z0)⟩:=wi t185 rn zhb func307 [0] (qe rfl z9r zf)
def t186:=t185.d zlW
theorem zl6:zy Pz 246 ⟨[.ty (.sl qq),.wo 247 []],[.bool],λx=>ug x.1 (λz0=>hH z0)⟩:=wi t186 rn hN func246 [] zf
def t187:=t186.d zl6
theorem zke:zy Pz 186 ⟨[.ty zw],[.bool],λx=>ZZ x⟩:=wi t187 (rz [1]) hN func186 [] zf
def t188:=t187.d zke
def Oj:q8:=Lz [.cell 1 0 zw,.cell 1 1 i64] [Mm 2 (.sl .bool),Mr 3 qz,Mm 52 (.sl xp),Mi 53] ⟨[Mi 54,.v Eo,.v Sd,.v (.qs wM),.a zw,.a i64],[(6,.ptr 0 0),(11,.ptr 1 0),(12,.ptr 2 0)],S5⟩ [⟨.exit 0,z5m⟩,zcd] λp s=>iw p.1 p.2.1 p.2.2.1 p.2.2.2 s
def Ok:q8:=Lz [] [Mr 3 qz,Mi 92] ⟨[Mi 93,.v Eo,.v Sd,.v (.qs wM),.a zw,.a i64],[(6,.ptr 0 0),(11,.ptr 1 0),(91,.cur 3 zw)],S5⟩ [⟨.exit 2,z5m⟩,zcd] λp s=>iA p.1 p.2 s
def zd4:Hints:=Hz [(0,Oj),(2,Ok)] [(0,4,.ways [⟨.normal,⟨[Mb 46,.v Eo],[],[.var Eo]⟩⟩])] []
theorem z8f:LO Tryz.f129 Oj 0:=lk t188 (rz [3]) zd4 [] zf
theorem z8g:LO Tryz.f129 Ok 2:=lk t188 (rz [3]) zd4 [] zf
theorem zjp:xw Pz 129 ⟨[.any,.any,.any],⟨[Mm 0 qz,Mm 1 (.sl zm),Mm 2 (.sl .bool)],[],[]⟩,[],⟨[.s 0 (.st [.row 0 zw,.row 1 i64]),Ms 1,Mi 2,.a zw,.a i64],[],[.arr zw,.arr i64]⟩,3,λx=>nn x.1 x.2.1 x.2.2⟩:=dW t188 (rz [3]) zd4 func129 [0,2] (qe rfl z8f (qe rfl z8g zf))
def t189:=t188.s zjp
def zoC:Hints:=Hz [] [(0,1,.ways [⟨.normal,z5r⟩])] []
theorem zlX:zy Pz 308 ⟨[.ty .bool,.ty zm],[zm],λx=>U5 x.1 x.2⟩:=wi t189 rn zoC func308 [] zf
def t190:=t189.d zlX
theorem zl8:zy Pz 248 ⟨[.ty zm],[zm],λx=>Qt x⟩:=wi t190 rn hN func248 [] zf
def t191:=t190.d zl8
theorem zkf:zy Pz 187 ⟨[.ty i64,.ty zm],[zw],λx=>Dc x.1 x.2⟩:=wi t191 (rz [3]) hN func187 [] zf
def t192:=t191.d zkf
theorem zjq:xw Pz 130 ⟨[.ptr,.any,.any,.any],⟨[Mi 1,Mm 2 zm,Mi 3,.v Yj,.a zw,.a i64,.a i64],[(0,.ptr 0 0)],JK⟩,[],z5W,0,λx=>kT x.1 x.2.1 x.2.2.1 x.2.2.2.1 x.2.2.2.2.1 x.2.2.2.2.2.1 x.2.2.2.2.2.2⟩:=dW t192 (rz [6]) hN func130 [] zf
def t193:=t192.s zjq
def z3j:q8:=Lz [.cell 3 7 i64] [Mr 3 qg,Mi 53] ⟨[Mi 54,.a zw,.a i64,.v Ep,.v zaO,.a i64],[(10,.ptr 3 0),(52,.cur 1 i64)],z4Z⟩ [⟨.exit 1,z5o⟩] λp s=>rm p.1 p.2 s
def z3k:q8:=Lz [] [Mm 74 (.sl zk),Mi 75] ⟨[Mi 76,.a zw,.a i64,.v Ep,.v zaO,.a i64],[(10,.ptr 3 0)],z4Z⟩ [⟨.exit 3,z5o⟩] λp s=>rq p.1 p.2 s
def h67:Hints:=Hz [(1,z3j),(3,z3k)] [(0,4,.flat [Mb 30]),(3,19,.flat [Mi 15])] []
theorem zep:LO Tryz.f67 z3j 1:=lk t193 (rz [2,3]) h67 [] zf
theorem zeq:LO Tryz.f67 z3k 3:=lk t193 (rz [2,3]) h67 [] zf
theorem zmQ:jI Pz 67 ⟨HH,z5z,[],⟨[Mi 2,.v Yj,.a zw,.a i64,.a i64],[(0,.ptr 0 0),(1,.wJ)],JK⟩,3,0,⟨[.s 1 (.tight .str),Mi 2],[(0,.gx)],[]⟩,some 3,λx=>dt x.1 x.2⟩:=Yq t193 (rz [2,3]) h67 func67 [1,3] (qe rfl zep (qe rfl zeq zf))
def t194:=t193.p zmQ
def OO:q8:=Lz [] [Mi 1,Mm 23 (.sl qq),Mi 24] ⟨[Mi 5,Mi 25],[],[]⟩ [jF,Wm] λp s=>pF p.1 p.2.1 p.2.2 s
def zgH:Hints:=Hz [(0,OO)] [(0,1,.ways [⟨.normal,⟨[Mb 21],[],[]⟩⟩]),(0,7,.ways [⟨.normal,⟨[Mb 51,.v (.qs qq)],[],[.var (.qs qq)]⟩⟩])] []
theorem z8G:LO Tryz.f190 OO 0:=lk t194 (rz [2]) zgH [] zf
theorem zki:zy Pz 190 ⟨[.ty zw,.ty i64],[.bool],λx=>dn x.1 x.2⟩:=wi t194 (rz [2]) zgH func190 [0] (qe rfl z8G zf)
def t195:=t194.d zki
theorem zkh:zy Pz 189 ⟨[.ty zw,.rp i64],[.bool],λx=>yZ x.1 x.2⟩:=wi t195 (rz [2]) hN func189 [] zf
def t196:=t195.d zkh
def Pd:q8:=Lz [] [Mm 0 (.sl zw),.s 1 (.wo 189 [.rp i64]),Mi 7] cF [jF,nT] λp s=>dM p.1 (λz0=>yZ z0 p.2.1) p.2.2 s
def zgY:Hints:=Hz [(0,Pd)] [] []
theorem z96:LO Tryz.f249 Pd 0:=lk t196 rn zgY [] zf
theorem zl9:zy Pz 249 ⟨[.ty (.sl zw),.wo 189 [.rp i64]],[i64],λx=>bK x.1 (λz0=>yZ z0 x.2)⟩:=wi t196 rn zgY func249 [0] (qe rfl z96 zf)
def t197:=t196.d zl9
theorem zkg:zy Pz 188 ⟨[.ty (.sl zw),.wo 189 [.rp i64]],[.bool],λx=>yX x.1 (λz0=>yZ z0 x.2)⟩:=wi t197 rn hN func188 [] zf
def t198:=t197.d zkg
def PX:q8:=Lz [] [] z5p [⟨.exit 0,⟨[Mi 1,.a i64],[],jU⟩⟩] λp s=>cP  s
def zhl:Hints:=Hz [(0,PX)] [] []
theorem z9E:LO Tryz.f344 PX 0:=lk t198 rn zhl [] zf
theorem zmr:xw Pz 344 ⟨[.sub,.any],z5p,[],⟨[Mi 0,.a i64],[],jU⟩,1,λx=>yQ x.1 x.2.1 x.2.2⟩:=dW t198 rn zhl func344 [0] (qe rfl z9E zf)
def t199:=t198.s zmr
theorem zlY:xw Pz 309 ⟨[.sub,.any,.any],⟨[.s 0 (.sub 0 i64),Mi 1,Mi 2,.a i64],[],jU⟩,[],⟨[Mb 0,.a i64],[],jU⟩,1,λx=>bp x.1 x.2.1 x.2.2.1 x.2.2.2⟩:=dW t199 rn hN func309 [] zf
def t200:=t199.s zlY
def Pe:q8:=Lz [] [Mm 0 (.sl zw),Mi 1,Mi 18] ⟨[Mi 19,.a i64],[(6,.cur 0 i64)],jU⟩ [⟨.exit 0,⟨[.a i64],[(6,.cur 0 i64)],jU⟩⟩] λp s=>od p.1 p.2.1 p.2.2 s
def Pg:q8:=Lz [] [Mi 1,Mi 9,Mm 27 (.sl zw),Mi 28,Mi 29] ⟨[Mi 8,Mi 11,.a i64,.v (.qs zw)],[(6,.cur 0 i64),(10,.ptr 1 0)],Ni⟩ [⟨.exit 4,⟨[Mi 8,.a i64,.v (.qs zw)],[(6,.cur 0 i64)],Ni⟩⟩] λp s=>eR p.1 p.2.1 p.2.2.1 p.2.2.2.1 p.2.2.2.2 s
def Pf:q8:=Lz [] [Mi 1,Mm 27 (.sl zw),Mi 28] ⟨[Mi 8,Mi 29,.a i64],[(6,.cur 0 i64)],jU⟩ [⟨.exit 2,⟨[Mi 8,.a i64],[(6,.cur 0 i64)],jU⟩⟩] λp s=>oe p.1 p.2.1 p.2.2 s
def z7l:Hints:=Hz [(0,Pe),(4,Pg),(2,Pf)] [(0,16,.ways [⟨.normal,⟨[Mb 62,.a i64,.v (.qs zw)],[(6,.cur 0 i64)],Ni⟩⟩])] []
theorem z97:LO Tryz.f250 Pe 0:=lk t200 rn z7l [] zf
theorem z99:LO Tryz.f250 Pg 4:=lk t200 rn z7l [] zf
theorem z98:LO Tryz.f250 Pf 2:=lk t200 rn z7l [4] (qe rfl z99 zf)
theorem zla:zy Pz 250 ⟨[.ty (.sl zw),.ty i64],[(.sl i64),i64],λx=>Q8 x.1 x.2⟩:=wi t200 rn z7l func250 [0,2] (qe rfl z97 (qe rfl z98 zf))
def t201:=t200.d zla
theorem zkj:zy Pz 191 ⟨[.ty (.sl zw),.ty i64],[i64],λx=>nw x.1 x.2⟩:=wi t201 rn hN func191 [] zf
def t202:=t201.d zkj
def h42:Hints:=Hz [] [(0,1,.Bg)] []
theorem zag:xw Pz 42 ⟨[.any],⟨[Mm 0 (.sl i64)],[],[]⟩,[],Np,1,λx=>ub x⟩:=dW t202 rn h42 func42 [] zf
def t203:=t202.s zag
theorem zmF:zy Pz 364 ⟨[.ty (.int .u64),.ty (.int .u64)],[(.int .u64),(.int .u64)],λx=>oi x.1 x.2⟩:=wi t203 rn hN func364 [] zf
def t204:=t203.d zmF
theorem zms:zy Pz 345 ⟨[.ty (.int .u64),.ty (.int .u64)],[(.int .u64),(.int .u64)],λx=>mS x.1 x.2⟩:=wi t204 rn hN func345 [] zf
def t205:=t204.d zms
def PF:q8:=Lz [] [] ⟨[Mi 8,.a i64],[(7,.cur 0 i64)],jU⟩ [⟨.exit 0,⟨[.a i64],[(7,.cur 0 i64)],jU⟩⟩] λp s=>gC  s
def zhc:Hints:=Hz [(0,PF)] [(0,4,.flat [Mb 26])] []
theorem z9s:LO Tryz.f310 PF 0:=lk t205 rn zhc [] zf
theorem zlZ:xw Pz 310 ⟨HH,⟨[Mm 0 (.sl i64),Mi 1],[],[]⟩,[],Np,1,λx=>yv x.1 x.2⟩:=dW t205 rn zhc func310 [0] (qe rfl z9s zf)
def t206:=t205.s zlZ
theorem zmt:zy Pz 346 ⟨[.ty qq,.rp i64],[.bool],λx=>bY x.1 x.2⟩:=wi t206 (rz [2]) hN func346 [] zf
def t207:=t206.d zmt
def C6:q8:=Lz [] [Mm 0 (.sl qq),.s 1 (.wo 346 [.rp i64]),Mi 7] cF [jF,nT] λp s=>yq p.1 (λz0=>bY z0 p.2.1) p.2.2 s
def z1y:Hints:=Hz [(0,C6)] [] []
theorem TD:LO Tryz.f307 C6 0:=lk t207 rn z1y [] zf
theorem RA:zy Pz 307 ⟨[.ty (.sl qq),.wo 346 [.rp i64]],[i64],λx=>kz x.1 (λz0=>bY z0 x.2)⟩:=wi t207 rn z1y func307 [0] (qe rfl TD zf)
def t208:=t207.d RA
theorem Ry:zy Pz 246 ⟨[.ty (.sl qq),.wo 346 [.rp i64]],[.bool],λx=>ug x.1 (λz0=>bY z0 x.2)⟩:=wi (t208.d RA) rn hN func246 [] zf
def t209:=t208.d Ry
theorem zm0:zy Pz 311 ⟨[.ty zw,.ty i64],[.bool],λx=>Wt x.1 x.2⟩:=wi (t209.d Ry) (rz [2,3]) hN func311 [] zf
def t210:=t209.d zm0
theorem zm1:zy Pz 312 ⟨[.ty (.sl zw),.ty i64],[.bool],λx=>p7 x.1 x.2⟩:=wi t210 rn hN func312 [] zf
def t211:=t210.d zm1
def Ph:q8:=Lz [] [Mm 0 (.sl zw),Mm 1 (.sl i64),Mi 2,Mm 38 (.sl zw),Mi 39] ⟨[Mi 40,.a i64,.a i64,.v CQ],[(8,.ptr 2 0)],Ng⟩ [⟨.exit 0,⟨[.a i64,.a i64,.v CQ],[],Ng⟩⟩,⟨.ret,⟨[Mb 7,.a i64,.a i64,.v CQ],[(6,.gx)],Ng⟩⟩] λp s=>fX p.1 p.2.1 p.2.2.1 p.2.2.2.1 p.2.2.2.2 s
def zgZ:Hints:=Hz [(0,Ph)] [(0,1,.flat [Mb 29]),(0,11,.ways [⟨.normal,⟨[Mb 68,.a i64,.a i64,.v CQ,.v (.qs zw)],[],[.arr i64,.arr i64,.var CQ,.var (.qs zw)]⟩⟩])] []
theorem z9a:LO Tryz.f251 Ph 0:=lk t211 rn zgZ [] zf
theorem zlb:jI Pz 251 ⟨[.any,.any,.any],⟨[Mm 0 (.sl zw),Mm 1 (.sl i64),Mi 2],[],[]⟩,[],⟨[Mb 1,.v sT,.a i64,.a i64],[(0,.ptr 0 0)],JJ⟩,2,0,⟨[Mb 1],[(0,.gx)],[]⟩,some 2,λx=>bz x.1 x.2.1 x.2.2⟩:=Yq t211 rn zgZ func251 [0] (qe rfl z9a zf)
def t212:=t211.p zlb
def zht:Hints:=Hz [] [(0,1,.Bg)] []
theorem z3N:zy Pz 42 ⟨[.ty (.sl i64)],[(.sl i64)],λx=>yd x⟩:=wi t212 rn zht func42 [] zf
def t213:=t212.d z3N
theorem zm3:zy Pz 314 ⟨[.ty i64],[.bool],λx=>cmp_isNaN_int x⟩:=wi t213 rn hN func314 [] zf
def t214:=t213.d zm3
theorem zle:zy Pz 254 ⟨[.ty i64,.ty i64],[i64],λx=>cmp_Compare_int x.1 x.2⟩:=wi t214 rn hN func254 [] zf
def t215:=t214.d zle
theorem zld:zy Pz 253 ⟨[.ty i64,.ty i64,.rp (.sl zw)],[i64],λx=>wz x.1 x.2.1 x.2.2⟩:=wi t215 rn hN func253 [] zf
def t216:=t215.d zld
def PZ:q8:=Lz [] [Mi 1,Mi 2,.s 3 (.wo 253 [.rp (.sl zw)]),Mi 8] ⟨[.s 0 (.sub 0 i64),Mi 9,.a i64],[],jU⟩ [⟨.exit 2,z5Y⟩] λp s=>uS p.1 p.2.1 (λz0 z1=>wz z0 z1 p.2.2.1) p.2.2.2 s
def PY:q8:=Lz [] [Mi 1,Mi 2,.s 3 (.wo 253 [.rp (.sl zw)])] ⟨[.s 0 (.sub 0 i64),Mi 8,.a i64],[],jU⟩ [⟨.exit 0,tN⟩] λp s=>uR p.1 p.2.1 (λz0 z1=>wz z0 z1 p.2.2) s
def zdd:Hints:=Hz [(2,PZ),(0,PY)] [(0,4,.ways [⟨.normal,⟨[.s 0 (.sub 0 i64),Mb 34,.a i64],[],jU⟩⟩])] []
theorem z9G:LO Tryz.f347 PZ 2:=lk t216 rn zdd [] zf
theorem z9F:LO Tryz.f347 PY 0:=lk t216 rn zdd [2] (qe rfl z9G zf)
theorem zmu:xw Pz 347 ⟨[.sub,.any,.any,.wo 253],⟨[.s 0 (.sub 0 i64),Mi 1,Mi 2,.s 3 (.wo 253 [.rp (.sl zw)]),.a i64],[],jU⟩,[],tN,0,λx=>vi x.1 x.2.1 x.2.2.1 (λz0 z1=>wz z0 z1 x.2.2.2.1) x.2.2.2.2⟩:=dW t216 rn zdd func347 [0] (qe rfl z9F zf)
def t217:=t216.s zmu
def R9:q8:=Lz [] [Mi 1,Mi 2,Mi 3] z5U [⟨.exit 0,tN⟩] λp s=>jA p.1 p.2.1 p.2.2 s
def zhp:Hints:=Hz [(0,R9)] [] []
theorem z9P:LO Tryz.f379 R9 0:=lk t217 rn zhp [] zf
theorem zmK:xw Pz 379 ⟨[.sub,.any,.any,.any,.wo 253],CR,[],tN,0,λx=>vd x.1 x.2.1 x.2.2.1 x.2.2.2.1 (λz0 z1=>wz z0 z1 x.2.2.2.2.1) x.2.2.2.2.2⟩:=dW t217 rn zhp func379 [0] (qe rfl z9P zf)
def t218:=t217.s zmK
def R7:q8:=Lz [] [Mi 2,.s 4 (.wo 253 [.rp (.sl zw)])] z5g [⟨.exit 0,z5U⟩] λp s=>kL p.1 (λz0 z1=>wz z0 z1 p.2) s
def zho:Hints:=Hz [(0,R7)] [] []
theorem z9O:LO Tryz.f365 R7 0:=lk t218 rn zho [] zf
theorem zmG:xw Pz 365 ⟨[.sub,.any,.any,.any,.wo 253],CR,[],tN,0,λx=>jy x.1 x.2.1 x.2.2.1 x.2.2.2.1 (λz0 z1=>wz z0 z1 x.2.2.2.2.1) x.2.2.2.2.2⟩:=dW t218 rn zho func365 [0] (qe rfl z9O zf)
def t219:=t218.s zmG
abbrev Uq:=uh.den CR->T (uh.den tN)
abbrev Le(F:Uq):=xw Pz 348 ⟨[.sub,.any,.any,.any,.wo 253],CR,[],tN,0,F⟩
def SA(vy:Uq)(fE:Le vy):Tb:=t219.s fE
def R0(vy:Uq):q8:=Lz [] [Mi 1,.s 4 (.wo 253 [.rp (.sl zw)])] z5g [⟨.exit 0,z5U⟩] λp s=>uu (λy0 y1 y2 y3 y4 y5=>vy (y0,y1,y2,y3,y4,y5)) p.1 p.2 s
def R1(vy:Uq):q8:=Lz [] [Mi 10] ⟨[.s 0 (.sub 0 i64),Mi 13,.a i64],[],jU⟩ [⟨.exit 2,tN⟩] λp s=>uv (λy0 y1 y2 y3 y4 y5=>vy (y0,y1,y2,y3,y4,y5)) p s
def R2(vy:Uq):q8:=Lz [] [Mi 2,.s 4 (.wo 253 [.rp (.sl zw)])] ⟨[.s 0 (.sub 0 i64),Mi 14,Mi 15,.a i64],[],jU⟩ [⟨.exit 4,⟨[.s 0 (.sub 0 i64),Mi 14,.a i64],[],jU⟩⟩] λp s=>uw (λy0 y1 y2 y3 y4 y5=>vy (y0,y1,y2,y3,y4,y5)) p.1 p.2 s
def R3(vy:Uq):q8:=Lz [] [Mi 14] ⟨[.s 0 (.sub 0 i64),Mi 17,.a i64],[],jU⟩ [⟨.exit 6,tN⟩] λp s=>ux (λy0 y1 y2 y3 y4 y5=>vy (y0,y1,y2,y3,y4,y5)) p s
def R4(vy:Uq):q8:=Lz [] [Mi 1,Mi 2,Mi 3,.s 4 (.wo 253 [.rp (.sl zw)]),Mi 18,Mi 19,Mi 22] ⟨[.s 0 (.sub 0 i64),Mi 20,Mi 21,.a i64],[],jU⟩ [⟨.exit 8,⟨[.s 0 (.sub 0 i64),Mi 20,.a i64],[],jU⟩⟩] λp s=>uy (λy0 y1 y2 y3 y4 y5=>vy (y0,y1,y2,y3,y4,y5)) p.1 p.2.1 p.2.2.1 p.2.2.2.1 p.2.2.2.2.1 p.2.2.2.2.2.1 p.2.2.2.2.2.2 s
def T6(vy:Uq):Hints:=Hz [(0,R0 vy),(2,R1 vy),(4,R2 vy),(6,R3 vy),(8,R4 vy)] [(3,27,.flat [Mi 20,Mi 21]),(0,39,.flat [Mb 185]),(3,39,.ways [⟨.normal,z5Y⟩]),(0,41,.flat [Mb 199]),(3,41,.ways [⟨.normal,z5Y⟩]),(0,43,.flat [Mb 213])] []
theorem z9H(vy:Uq)(fE:Le vy):LO Tryz.f348 (R0 vy) 0:=lk (SA vy fE) rn (T6 vy) [] zf
theorem z9I(vy:Uq)(fE:Le vy):LO Tryz.f348 (R1 vy) 2:=lk (SA vy fE) rn (T6 vy) [] zf
theorem z9J(vy:Uq)(fE:Le vy):LO Tryz.f348 (R2 vy) 4:=lk (SA vy fE) rn (T6 vy) [] zf
theorem z9K(vy:Uq)(fE:Le vy):LO Tryz.f348 (R3 vy) 6:=lk (SA vy fE) rn (T6 vy) [] zf
theorem z9L(vy:Uq)(fE:Le vy):LO Tryz.f348 (R4 vy) 8:=lk (SA vy fE) rn (T6 vy) [] zf
theorem zab(vy:Uq)(fE:Le vy):xw Pz 348 ⟨[.sub,.any,.any,.any,.wo 253],CR,[],tN,0,λx=>vE (λy0 y1 y2 y3 y4 y5=>vy (y0,y1,y2,y3,y4,y5)) x.1 x.2.1 x.2.2.1 x.2.2.2.1 x.2.2.2.2.1 x.2.2.2.2.2⟩:=dW (SA vy fE) rn (T6 vy) func348 [0,2,4,6,8] (qe rfl (z9H vy fE) (qe rfl (z9I vy fE) (qe rfl (z9J vy fE) (qe rfl (z9K vy fE) (qe rfl (z9L vy fE) zf)))))
theorem zmv:xw Pz 348 ⟨[.sub,.any,.any,.any,.wo 253],CR,[],tN,0,λx=>vX x.1 x.2.1 x.2.2.1 x.2.2.2.1 x.2.2.2.2.1 x.2.2.2.2.2⟩:=Ys (λvy x=>vE (λy0 y1 y2 y3 y4 y5=>vy (y0,y1,y2,y3,y4,y5)) x.1 x.2.1 x.2.2.1 x.2.2.2.1 x.2.2.2.2.1 x.2.2.2.2.2) (λx=>rfl) (λvy fE=>zab vy fE)
def t220:=t219.s zmv
def PH:q8:=Lz [] [Mi 1,.s 2 (.wo 253 [.rp (.sl zw)]),Mi 6] z5i [⟨.exit 0,z5q⟩] λp s=>kP p.1 p.2.1 p.2.2 s
def PK:q8:=Lz [] [Mi 1,.s 2 (.wo 253 [.rp (.sl zw)]),Mi 6] z5i [⟨.exit 4,z5q⟩] λp s=>kR p.1 p.2.1 p.2.2 s
def PJ:q8:=Lz [] [Mi 1,.s 2 (.wo 253 [.rp (.sl zw)])] ⟨[.s 0 (.sub 0 i64),Mi 6,.a i64],[],jU⟩ [⟨.exit 2,tN⟩] λp s=>kQ p.1 p.2 s
def z7m:Hints:=Hz [(0,PH),(4,PK),(2,PJ)] [] []
theorem z9t:LO Tryz.f313 PH 0:=lk t220 rn z7m [] zf
theorem z9v:LO Tryz.f313 PK 4:=lk t220 rn z7m [] zf
theorem z9u:LO Tryz.f313 PJ 2:=lk t220 rn z7m [4] (qe rfl z9v zf)
theorem zm2:xw Pz 313 ⟨[.sub,.any,.wo 253],⟨[.s 0 (.sub 0 i64),Mi 1,.s 2 (.wo 253 [.rp (.sl zw)]),.a i64],[],jU⟩,[],tN,0,λx=>jz x.1 x.2.1 x.2.2.1 x.2.2.2⟩:=dW t220 rn z7m func313 [0,2] (qe rfl z9t (qe rfl z9u zf))
def t221:=t220.s zm2
theorem zlc:xw Pz 252 ⟨[.sub,.wo 253],⟨[.s 0 (.sub 0 i64),.s 1 (.wo 253 [.rp (.sl zw)]),.a i64],[],jU⟩,[],tN,0,λx=>uG x.1 x.2.1 x.2.2⟩:=dW t221 rn hN func252 [] zf
def t222:=t221.s zlc
def Pj:q8:=Lz [] [Mm 0 (.sl i64),Mm 1 (.sl i64),Mi 12] z5I [jF,Wm] λp s=>cy p.1 p.2.1 p.2.2 s
def zh0:Hints:=Hz [(0,Pj)] [] []
theorem z9b:LO Tryz.f255 Pj 0:=lk t222 rn zh0 [] zf
theorem zlf:zy Pz 255 ⟨[.ty (.sl i64),.ty (.sl i64)],[.bool],λx=>ye x.1 x.2⟩:=wi t222 rn zh0 func255 [0] (qe rfl z9b zf)
def t223:=t222.d zlf
abbrev SC:=uh.den L5->T (uh.den L6)
abbrev zcl(F:SC):=xw Pz 349 ⟨lM,L5,[],L6,1,F⟩
def zfV(fq:SC)(KB:zcl fq):Tb:=t223.s KB
def R5(fq:SC):q8:=Lz [] [Mi 1,Mm 33 (.sl qq),Mi 34] ⟨[Mi 6,Mi 35,.v sT,.a i64,.a i64],[(0,.ptr 0 0)],JJ⟩ [⟨.exit 0,⟨[Mi 6,.v sT,.a i64,.a i64],[],JJ⟩⟩] λp s=>kl (λy0 y1 y2 y3=>fq (y0,y1,y2,y3)) p.1 p.2.1 p.2.2 s
def zhm(fq:SC):Hints:=Hz [(0,R5 fq)] [] []
theorem z9M(fq:SC)(KB:zcl fq):LO Tryz.f349 (R5 fq) 0:=lk (zfV fq KB) rn (zhm fq) [] zf
theorem zac(fq:SC)(KB:zcl fq):xw Pz 349 ⟨lM,L5,[],L6,1,λx=>jc (λy0 y1 y2 y3=>fq (y0,y1,y2,y3)) x.1 x.2.1 x.2.2.1 x.2.2.2⟩:=dW (zfV fq KB) rn (zhm fq) func349 [0] (qe rfl (z9M fq KB) zf)
theorem zmw:xw Pz 349 ⟨lM,L5,[],L6,1,λx=>jP x.1 x.2.1 x.2.2.1 x.2.2.2⟩:=Ys (λfq x=>jc (λy0 y1 y2 y3=>fq (y0,y1,y2,y3)) x.1 x.2.1 x.2.2.1 x.2.2.2) (λx=>rfl) (λfq KB=>zac fq KB)
def t224:=t223.s zmw
def PM:q8:=Lz [] [Mm 27 (.sl qq),Mi 28] ⟨[Mi 7,Mi 8,Mi 29,.v L4,.v .mp,.a i64,.a i64],[(0,.ptr 0 0),(2,.yR 1)],S7⟩ [⟨.exit 0,⟨[Mi 7,.v L4,.v .mp,.a i64,.a i64],[],S7⟩⟩] λp s=>gv p.1 p.2 s
def zhd:Hints:=Hz [(0,PM)] [(0,6,.flat [Mb 46])] []
theorem z9w:LO Tryz.f315 PM 0:=lk t224 rn zhd [] zf
theorem zm4:xw Pz 315 ⟨QJ,⟨[Mi 1,.v L4,.v .mp,.a i64,.a i64],[(0,.ptr 0 0),(2,.yR 1)],S7⟩,[],⟨[Mi 0,.v L4,.v .mp,.a i64,.a i64],[],S7⟩,1,λx=>yi x.1 x.2.1 x.2.2.1 x.2.2.2.1 x.2.2.2.2⟩:=dW t224 rn zhd func315 [0] (qe rfl z9w zf)
def t225:=t224.s zm4
def Pl:q8:=Lz [] [Mi 6,Mm 54 (.sl qq),Mi 55] ⟨[Mi 56,.v sT,.a i64,.a i64,.v .mp],[(0,.ptr 0 0),(4,.yR 3)],z4U⟩ [⟨.exit 2,Si⟩] λp s=>yN p.1 p.2.1 p.2.2 s
def Pk:q8:=Lz [] [] ⟨[Mi 1,.v sT,.a i64,.a i64,.v .mp],[(0,.ptr 0 0),(4,.yR 3)],z4U⟩ [⟨.exit 0,Si⟩,⟨.ret,Si⟩] λp s=>yM  s
def zda:Hints:=Hz [(2,Pl),(0,Pk)] [(3,5,.ways [⟨.normal,Si⟩])] []
theorem z9d:LO Tryz.f256 Pl 2:=lk t225 rn zda [] zf
theorem z9c:LO Tryz.f256 Pk 0:=lk t225 rn zda [2] (qe rfl z9d zf)
theorem zlg:xw Pz 256 ⟨lM,L5,[],⟨[.v sT,.a i64,.a i64],[],JJ⟩,0,λx=>kS x.1 x.2.1 x.2.2.1 x.2.2.2⟩:=dW t225 rn zda func256 [0] (qe rfl z9c zf)
def t226:=t225.s zlg
def z6E:Tb:=t226.d z3N
def OP:q8:=Lz [.slot 10 i64] [Mr 3 (.sl zw),Mi 27] ⟨[Mi 28,.v sT,.a i64,.a i64,.a i64],[(8,.ptr 0 0),(10,.cur 3 i64)],CK⟩ [⟨.exit 0,z5l⟩] λp s=>o6 p.1 p.2 s
def OR:q8:=Lz [] [.s 12 (.sQ i64),Mi 57] ⟨[Mi 58,.v sT,.a i64,.a i64,.a i64],[(8,.ptr 0 0),(10,.cur 3 i64),(56,.cur 3 i64)],CK⟩ [⟨.exit 4,z5l⟩] λp s=>o8 p.1 p.2 s
def OQ:q8:=Lz [] [] ⟨[.s 12 (.sQ i64),.v sT,.a i64,.a i64,.a i64],[(8,.ptr 0 0),(10,.cur 3 i64)],CK⟩ [⟨.exit 2,⟨[.v sT,.a i64,.a i64,.a i64],[],CK⟩⟩] λp s=>o7  s
def z7i:Hints:=Hz [(0,OP),(4,OR),(2,OQ)] [(0,12,.ways [⟨.normal,⟨[Mb 49,.v sT,.a i64,.a i64,.a i64],[(10,.cur 3 i64)],CK⟩⟩])] []
theorem z8H:LO Tryz.f192 OP 0:=lk z6E (rz [3,50]) z7i [] zf
theorem z8J:LO Tryz.f192 OR 4:=lk z6E (rz [3,50]) z7i [] zf
theorem z8I:LO Tryz.f192 OQ 2:=lk z6E (rz [3,50]) z7i [4] (qe rfl z8J zf)
theorem zkk:zy Pz 192 ⟨[.ty (.sl zw),.ty (.sl i64),.ty i64],[(.sl i64),.bool],λx=>oR x.1 x.2.1 x.2.2⟩:=wi z6E (rz [3,50]) z7i func192 [0,2] (qe rfl z8H (qe rfl z8I zf))
def t227:=t226.d zkk
theorem zkl:zy Pz 193 ⟨[.ty zw],[.bool],λx=>QE x⟩:=wi t227 (rz [1]) hN func193 [] zf
def t228:=t227.d zkl
theorem zkB:zy Pz 209 ⟨[.ty (.sl zw),.ty (.sl i64),.ty i64],[.bool],λx=>Zc x.1 x.2.1 x.2.2⟩:=wi t228 rn hN func209 [] zf
def t229:=t228.d zkB
def OZ:q8:=Lz [] [Mm 0 (.sl i64),Mi 1,Mi 7] cF [jF,nT] λp s=>yu p.1 p.2.1 p.2.2 s
def zgN:Hints:=Hz [(0,OZ)] [] []
theorem z8R:LO Tryz.f211 OZ 0:=lk t229 rn zgN [] zf
theorem zkD:zy Pz 211 ⟨[.ty (.sl i64),.ty i64],[i64],λx=>uP x.1 x.2⟩:=wi t229 rn zgN func211 [0] (qe rfl z8R zf)
def t230:=t229.d zkD
theorem zkA:zy Pz 208 ⟨[.ty (.sl i64),.ty i64],[.bool],λx=>ju x.1 x.2⟩:=wi t230 rn hN func208 [] zf
def t231:=t230.d zkA
theorem zm6:xw Pz 317 ⟨[.any,.any,.any,.ptr],⟨[Mm 0 qq,Mr 1 (.sl i64),Mr 2 i64,.a i64],[(3,.ptr 0 0)],[.cvar (.cur 1 i64),.arr i64]⟩,[],z5S,1,λx=>cZ x.1 x.2.1 x.2.2.1 x.2.2.2⟩:=dW t231 (rz [4]) hN func317 [] zf
def t232:=t231.s zm6
def C7:q8:=Lz [] [Mm 0 (.sl qq),Mi 7] ⟨[.s 1 (.mclo 317 [.rp (.sl i64),.rp i64,.pt 0]),Mi 8,.a i64],[],[.cvar (.cur 1 i64),.arr i64]⟩ [⟨.exit 0,⟨[.a i64],[],[.cvar (.cur 1 i64),.arr i64]⟩⟩,⟨.ret,⟨[Mi 4,.a i64],[],[.cvar (.cur 1 i64),.arr i64]⟩⟩] λp s=>vw p.1 p.2 s
def z1z:Hints:=Hz [(0,C7)] [] []
theorem TE:LO Tryz.f307 C7 0:=lk t232 rn z1z [] zf
theorem RB:xw Pz 307 ⟨[.any,.wo 317],zc8,[],⟨[Mi 0,.a i64],[],[.cvar (.cur 1 i64),.arr i64]⟩,1,λx=>vU x.1 x.2.1 x.2.2⟩:=dW t232 rn z1z func307 [0] (qe rfl TE zf)
def t233:=t232.s RB
theorem Rz:xw Pz 246 ⟨[.any,.wo 317],zc8,[],z5S,1,λx=>wL x.1 x.2.1 x.2.2⟩:=dW (t233.s RB) rn hN func246 [] zf
def t234:=t233.s Rz
theorem zm5:xw Pz 316 ⟨[.any,.ptr,.any,.any],⟨[Mi 0,Mr 2 (.sl zw),Mr 3 (.sl i64),.a i64],[(1,.ptr 0 0)],[.cvar (.cur 1 i64),.arr i64]⟩,[],z5S,1,λx=>lg x.1 x.2.1 x.2.2.1 x.2.2.2⟩:=dW (t234.s Rz) (rz [4]) hN func316 [] zf
def t235:=t234.s zm5
def zfU:Tb:=t235.s zag
def Pm:q8:=Lz [.slot 9 i64] [Mr 3 (.sl zw)] ⟨[.s 8 (.mclo 316 [.pt 1,.rp (.sl zw),.rp (.sl i64)]),Mi 10,.a i64,.a i64],[(7,.ptr 1 0),(9,.cur 2 i64)],[.arr i64,.cvar (.cur 0 i64),.arr i64]⟩ [⟨.exit 0,⟨[.a i64,.a i64],[(9,.cur 2 i64)],[.arr i64,.cvar (.cur 0 i64),.arr i64]⟩⟩] λp s=>QC p s
def zh1:Hints:=Hz [(0,Pm)] [] []
theorem z9e:LO Tryz.f258 Pm 0:=lk zfU (rz [3,4]) zh1 [] zf
theorem zli:zy Pz 258 ⟨[.ty (.sl zw),.ty (.sl i64),.ty i64],[(.sl i64)],λx=>WV x.1 x.2.1 x.2.2⟩:=wi zfU (rz [3,4]) zh1 func258 [0] (qe rfl z9e zf)
def t236:=t235.d zli
def Po:q8:=Lz [] [Mi 1,Mm 18 (.sl qq),Mi 19] ⟨[Mi 20,.a zm,.v (.qs zm),.v (.qs zm),.v (.qs zm)],[(2,.cur 0 zm),(6,.ptr 1 0),(7,.ptr 2 0),(8,.ptr 3 0)],z4S⟩ [⟨.exit 0,⟨[.a zm,.v (.qs zm),.v (.qs zm),.v (.qs zm)],[],z4S⟩⟩] λp s=>lj p.1 p.2.1 p.2.2 s
def zh2:Hints:=Hz [(0,Po)] [] []
theorem z9f:LO Tryz.f259 Po 0:=lk t236 (rz [3]) zh2 [] zf
theorem zlj:xw Pz 259 ⟨[.any,.any,.cur],⟨[Mm 0 zw,Mi 1,.a zm],[(2,.cur 0 zm)],Z3⟩,[],⟨[Mm 0 zm,.a zm],[],Z3⟩,1,λx=>tE x.1 x.2.1 x.2.2⟩:=dW t236 (rz [3]) zh2 func259 [0] (qe rfl z9f zf)
def t237:=t236.s zlj
def OS:q8:=Lz [.slot 9 zm] [Mm 0 (.sl zw),Mm 1 (.sl i64),Mm 2 (.sl zm),Mm 21 (.sl zm),Mi 22] ⟨[Mi 23,.a zm],[(9,.cur 0 zm)],Z3⟩ [⟨.exit 0,z5E⟩] λp s=>Ua p.1 p.2.1 p.2.2.1 p.2.2.2.1 p.2.2.2.2 s
def OT:q8:=Lz [] [Mm 0 (.sl zw),Mm 1 (.sl i64),Mm 37 (.sl i64),Mi 38] ⟨[Mi 39,.a zm],[(9,.cur 0 zm)],Z3⟩ [⟨.exit 2,z5E⟩,⟨.ret,⟨[Mi 7,Mi 8,.a zm],[(6,.wJ)],Z3⟩⟩] λp s=>QD p.1 p.2.1 p.2.2.1 p.2.2.2 s
def zd8:Hints:=Hz [(0,OS),(2,OT)] [] []
theorem z8K:LO Tryz.f194 OS 0:=lk t237 rn zd8 [] zf
theorem z8L:LO Tryz.f194 OT 2:=lk t237 rn zd8 [] zf
theorem zkm:zy Pz 194 ⟨[.ty (.sl zw),.ty (.sl i64),.ty (.sl zm)],[(.sl zm),i64,i64],λx=>YG x.1 x.2.1 x.2.2⟩:=wi t237 rn zd8 func194 [0,2] (qe rfl z8K (qe rfl z8L zf))
def t238:=t237.d zkm
def Ol:q8:=Lz [] [Mm 0 (.sl zw),Mr 3 j6,Mm 9 (.sl i64),Mm 62 (.sl zw),Mi 63] ⟨[Mi 64,.v (.qs j6),.v (.qs i64)],[(4,.ptr 0 0)],S8⟩ [⟨.exit 0,⟨[.v (.qs j6),.v (.qs i64)],[],S8⟩⟩,⟨.ret,⟨[Mi 5,Mi 6,.v (.qs j6),.v (.qs i64)],[],S8⟩⟩] λp s=>sH p.1 p.2.1 p.2.2.1 p.2.2.2.1 p.2.2.2.2 s
def zgr:Hints:=Hz [(0,Ol)] [(0,2,.ways [⟨.normal,⟨[Mb 42,.v (.qs j6),.v (.qs i64)],[],S8⟩⟩]),(0,13,.ways [⟨.normal,⟨[Mb 83,.v (.qs j6),.v (.qs i64),.v (.qs zw)],[],[.var (.qs j6),.var (.qs i64),.var (.qs zw)]⟩⟩])] []
theorem z8h:LO Tryz.f131 Ol 0:=lk t238 (rz [3]) zgr [] zf
theorem zjr:zy Pz 131 ⟨[.ty (.sl zw),.ty j6],[j6,i64,i64],λx=>tK x.1 x.2⟩:=wi t238 (rz [3]) zgr func131 [0] (qe rfl z8h zf)
def t239:=t238.d zjr
theorem zjs:xw Pz 132 ⟨lM,⟨[Mi 1,.v (.qs uH)],[(0,.ptr 0 0)],HI⟩,[],⟨[.s 0 (.tight .str),.v (.qs uH)],[],HI⟩,1,λx=>cW x.1 x.2⟩:=dW t239 rn hN func132 [] zf
def t240:=t239.s zjs
theorem zqH:xw Pz 68 ⟨lM,⟨[Mm 1 (.sl zm),.v (.qs uH)],[(0,.ptr 0 0)],HI⟩,[],⟨[Mm 0 (.sl zm),.s 1 (.tight .str),Mi 2,.v (.qs uH)],[],HI⟩,3,λx=>jY x.1 x.2⟩:=dW t240 rn hN func68 [] zf
def t241:=t240.s zqH
def zhs:Hints:=Hz [] [(0,1,.Bg)] []
theorem ME:xw Pz 40 ⟨[.any],⟨[Mm 0 (.sl zm)],[],[]⟩,[],z5F,1,λx=>ua x⟩:=dW t241 rn zhs func40 [] zf
def t242:=t241.s ME
def h41:Hints:=Hz [] [(0,1,.Bg)] []
theorem zqj:xw Pz 41 ⟨[.any],⟨[Mm 0 (.sl .bool)],[],[]⟩,[],z5D,1,λx=>vT x⟩:=dW t242 rn h41 func41 [] zf
def t243:=t242.s zqj
def h43:Hints:=Hz [] [(0,1,.Bg)] []
theorem zqk:xw Pz 43 ⟨[.any],⟨[Mm 0 (.sl zk)],[],[]⟩,[],z5v,1,λx=>uJ x⟩:=dW t243 rn h43 func43 [] zf
def t244:=t243.s zqk
theorem zq0:xw Pz 20 ⟨[.any],z5J,[],⟨[.s 0 z5d,.a zm,.a .bool,.a zm,.a i64,.a zk,.a .bool],[],z52⟩,1,λx=>lZ x⟩:=dW ((t244.s zag).s ME) (rz [1]) hN func20 [] zf
def t245:=t244.s zq0
def z3l:q8:=Lz [] [Mi 17] ⟨[Mi 18,.v (.qs uH),.v z5b,.v (.qs qg),.a zm,.a .bool,.a zm,.a i64,.a zk,.a .bool],[(0,.ptr 0 0),(4,.ptr 1 0),(6,.ptr 2 0)],z4W⟩ [⟨.exit 0,zcb⟩] λp s=>du p s
def z3m:q8:=Lz [] [Mm 29 (.sl i64),Mi 30] ⟨[Mi 31,.v (.qs uH),.v z5b,.v (.qs qg),.a zm,.a .bool,.a zm,.a i64,.a zk,.a .bool],[(0,.ptr 0 0),(4,.ptr 1 0),(6,.ptr 2 0)],z4W⟩ [⟨.exit 2,zcb⟩] λp s=>dv p.1 p.2 s
def h69:Hints:=Hz [(0,z3l),(2,z3m)] [] []
theorem zer:LO Tryz.f69 z3l 0:=lk t245 rn h69 [] zf
theorem zes:LO Tryz.f69 z3m 2:=lk t245 rn h69 [] zf
theorem zqI:xw Pz 69 ⟨QJ,⟨[Mm 1 qg,Mm 2 (.sl zm),.v (.qs uH)],[(0,.ptr 0 0)],HI⟩,[],⟨[.s 0 (.st [.row 1 zm,.row 2 .bool,.im (.sl zm),.row 3 i64,.row 4 zk,.row 5 .bool]),.v (.qs uH),.a zm,.a .bool,.a i64,.a zk,.a .bool],[],[.var (.qs uH),.arr zm,.arr .bool,.arr i64,.arr zk,.arr .bool]⟩,1,λx=>gK x.1 x.2.1 x.2.2⟩:=dW t245 rn h69 func69 [0,2] (qe rfl zer (qe rfl zes zf))
def t246:=t245.s zqI
def h34:Hints:=Hz [] [] [(4,[1001006,1001007,1001008])]
theorem zqe:xw Pz 34 ⟨HH,z5z,[],zc7,3,λx=>dU x.1 x.2⟩:=dW t246 (rz [2,3]) h34 func34 [] zf
def t247:=t246.s zqe
def z2N:q8:=Lz [.cell 0 1 .bool,.cell 0 5 .bool,.cell 1 1 .bool,.cell 1 5 .bool,.cell 0 4 zk,.cell 1 4 zk,.cell 0 3 i64,.cell 1 3 i64,.cell 0 0 zm,.cell 0 2 zm,.cell 1 0 zm,.cell 1 2 zm] [Mr 1 qz,Mm 11 (.sl ql),Mi 12] ⟨[Mi 13,.v Sa,.v Sc,.a .bool,.a .bool,.a .bool,.a .bool,.a zk,.a zk,.a i64,.a i64,.a zm,.a zm,.a zm,.a zm],[(2,.ptr 0 0),(5,.ptr 1 0)],z4X⟩ [⟨.exit 0,Se⟩] λp s=>ZT p.1 p.2.1 p.2.2 s
def z2O:q8:=Lz [] [Mr 1 qz,Mm 27 (.sl qw),Mi 28] ⟨[Mi 29,.v Sa,.v Sc,.a .bool,.a .bool,.a .bool,.a .bool,.a zk,.a zk,.a i64,.a i64,.a zm,.a zm,.a zm,.a zm],[(2,.ptr 0 0),(5,.ptr 1 0)],z4X⟩ [⟨.exit 2,Se⟩] λp s=>ZU p.1 p.2.1 p.2.2 s
def z2P:q8:=Lz [] [Mr 1 qz,Mi 43] ⟨[Mi 44,.v Sa,.v Sc,.a .bool,.a .bool,.a .bool,.a .bool,.a zk,.a zk,.a i64,.a i64,.a zm,.a zm,.a zm,.a zm],[(2,.ptr 0 0),(5,.ptr 1 0)],z4X⟩ [⟨.exit 4,Se⟩] λp s=>ZV p.1 p.2 s
def z2Q:q8:=Lz [] [Mr 1 qz,Mi 67] ⟨[Mi 68,.v Sa,.v Sc,.a .bool,.a .bool,.a .bool,.a .bool,.a zk,.a zk,.a i64,.a i64,.a zm,.a zm,.a zm,.a zm],[(2,.ptr 0 0),(5,.ptr 1 0)],z4X⟩ [⟨.exit 6,Se⟩] λp s=>ZW p.1 p.2 s
def h17:Hints:=Hz [(0,z2N),(2,z2O),(4,z2P),(6,z2Q)] [] [(22,[1001000,1001001,1001002,1001003,1001004,1001005])]
theorem zdY:LO Tryz.f17 z2N 0:=lk t247 (rz [1]) h17 [] zf
theorem zdZ:LO Tryz.f17 z2O 2:=lk t247 (rz [1]) h17 [] zf
theorem ze0:LO Tryz.f17 z2P 4:=lk t247 (rz [1]) h17 [] zf
theorem ze1:LO Tryz.f17 z2Q 6:=lk t247 (rz [1]) h17 [] zf
theorem zpX:xw Pz 17 ⟨[.any],z5N,[],zc7,3,λx=>Ww x⟩:=dW t247 (rz [1]) h17 func17 [0,2,4,6] (qe rfl zdY (qe rfl zdZ (qe rfl ze0 (qe rfl ze1 zf))))
def t248:=t247.s zpX
theorem zqK:zy Pz 71 ⟨[.ty qw,.rp xy],[.bool],λx=>yF x.1 x.2⟩:=wi t248 (rz [2]) hN func71 [] zf
def t249:=t248.d zqK
def I7:q8:=Lz [] [Mm 0 (.sl qw),.s 1 (.wo 71 [.rp xy]),Mi 7] cF [jF,nT] λp s=>vb p.1 (λz0=>yF z0 p.2.1) p.2.2 s
def zba:Hints:=Hz [(0,I7)] [] []
theorem z2D:LO Tryz.f70 I7 0:=lk t249 rn zba [] zf
theorem z3V:zy Pz 70 ⟨[.ty (.sl qw),.wo 71 [.rp xy]],[i64],λx=>wh x.1 (λz0=>yF z0 x.2)⟩:=wi t249 rn zba func70 [0] (qe rfl z2D zf)
def t250:=t249.d z3V
def T35:Tb:=t250.d z3V
def z38:q8:=Lz [.slot 5 .bool] [Mm 1 (.sl .bool),Mr 2 qz,Mm 10 (.sl xy),Mi 11] ⟨[Mi 12,.a .bool],[(5,.cur 0 .bool)],[.arr .bool]⟩ [z69] λp s=>mw p.1 p.2.1 p.2.2.1 p.2.2.2 s
def h35:Hints:=Hz [(0,z38)] [] []
theorem zee:LO Tryz.f35 z38 0:=lk T35 (rz [2]) h35 [] zf
theorem zmx:zy Pz 35 ⟨[.ty qz,.ty (.sl .bool)],[(.sl .bool)],λx=>kv x.1 x.2⟩:=wi T35 (rz [2]) h35 func35 [0] (qe rfl zee zf)
def t251:=t250.d zmx
end Go.AM.Lf
namespace Go.Proofs
open Go.RowKit Go.Shelf

attribute [local go_sem] zN

def PB.upto{α:Type}(f:Nat->α)(k:Nat):List α:=(List.range k).map f
theorem PB.ZG{α:Type}(f:Nat->α)(k:Nat):PB.upto f (k+1)=PB.upto f k++[f k]:=by simp[PB.upto,List.range_succ]
theorem PB.IU{α:Type}(f:Nat->α)(k:Nat):(PB.upto f k).length=k:=by simp[PB.upto]
def PB.at(zs:List Bool)(len j:Nat):Nat×Bool:=(len-1-j,zs[len-1-j]?.getD false)

set_option maxRecDepth 100000 in
set_option maxHeartbeats 2000000 in
theorem PB.z0F(F:Fence)(n:Nat)(h24:F.fn 133)(Tf:F.round=none)(hn:1<=n)(l Bs n₀ b off len cap:Nat)(zs:List Bool)(K5:len*8<=140737488351232)(I:b<n₀)(hd Jx:List (Nat×Bool)->World->Prop)
  (hY:∀ pre x zl,hd pre zl->pre.length<len->YieldAt F (n-1) Tryz.prog l #[.int .i64 (x.1:Int),.bool x.2] zl λe W' =>
   (e=.returned (.bool true)/\hd (pre++[x]) W'/\Below n₀ zl W')\/(e=.returned (.bool false)/\Jx (pre++[x]) W'))
  (zl:World) (hBs:zl.cell? ⟨Bs,0,none⟩=some (.slice (some ⟨b,off,none⟩) len cap)) (zoM:Bs<n₀) (hc:∀ j,j<len->zl.cell? ⟨b,off+j,none⟩=some (.bool (zs[j]?.getD false))) (h0:hd [] zl) :
  CallsIn F n Tryz.prog 133 #[.func (.yield l) #[] #[],.pointer (some ⟨Bs,0,none⟩)] zl λe W'=>(∃ v,e=.returned v) /\
   ((∃ ys,ys=PB.upto (PB.at zs len) len/\hd ys W')\/(∃ pre,(∃ k,k<=len/\pre=PB.upto (PB.at zs len) k)/\Jx pre W')):=by
 refine callsIn_of_wp Tryz.func133 rfl h24 ?_ Tf
 simp only[Tryz.ntmps133,Y,zK,zZ,qE,qF,zO,zP,zV,zS,qA,zX]
 gi_wp2
 gi_loopw [3] (λi wr=>∃ m:Nat,m<=len/\i=.int .i64 ((m:Int)-1)/\hd (PB.upto (PB.at zs len) (len-m)) wr/\Below n₀ zl wr)
  (λi _=>(intOf i+1).toNat)
 case atStart=>exact⟨len,U _,by simp,by simpa[PB.upto]using h0,Below.refl _ _⟩
 case round =>
  obtain⟨m,hm,rfl,hJs,Ew⟩:=hrel
  have hbs:=(Ew.cell (p:=⟨Bs,0,none⟩) zoM).trans hBs
  cases m with
  | succ k =>
   have hcx:wr.cell? ⟨b,off+k,none⟩=some (.bool (zs[k]?.getD false)):=(Ew.cell (p:=⟨b,off+k,none⟩) I).trans (hc k (by omega))
   obtain⟨fn,tmps,assign,body,hy,hR⟩:=hY _ (k,zs[k]?.getD false) wr hJs (by rw[PB.IU]; omega)
   dsimp only at hy
   have hk1:((k+1:Nat):Int)-1=k:=by omega
   rw[hk1]
   have M1:PB.at zs len (len-(k+1))=(k,zs[k]?.getD false):=by
    have:len-1-(len-(k+1))=k:=by omega
    simp[PB.at,this]
   gi_wp2
   refine hR.mono ?_
   rintro e W3 (⟨rfl,hJ3,hk3⟩ | ⟨rfl,zoQ⟩)
   ·gi_wp2
    go_roundw
    case rel=>exact⟨k,by omega,by simp,by rw[show len-k=len-(k+1)+1 by omega,PB.ZG,M1]; exact hJ3,Ew.trans hk3⟩
    case measure=>simp[intOf]
   ·gi_wp2
    refine bodyPost_ret (results_none rfl _ _ _) rfl ?_
    exact⟨⟨_,rfl⟩,.inr ⟨_,⟨len-(k+1)+1,by omega,by rw[PB.ZG,M1]⟩,zoQ⟩⟩
  | zero =>
   gi_wp2
   go_end0
   exact⟨⟨_,rfl⟩,.inl ⟨_,rfl,hJs⟩⟩

/-- The bools of a slice,in a block below n₀; or there are none. -/
def PB.EB(n₀:Nat)(zl:World)(sv:Value)(zs:List Bool):Prop :=
 (∃ a,sv=.slice a 0 0/\zs=[])\/∃ b off cap,sv=.slice (some ⟨b,off,none⟩) zs.length cap/\b<n₀/\∀ j,j<zs.length->zl.cell? ⟨b,off+j,none⟩=some (.bool (zs[j]?.getD false))
theorem PB.EB.below{n₀:Nat}{A B:World}(h:Below n₀ A B){sv:Value}{zs:List Bool}:PB.EB n₀ A sv zs->PB.EB n₀ B sv zs
 | .inl e=>.inl e
 | .inr ⟨b,off,cap,e,I,hc⟩=>.inr ⟨b,off,cap,e,I,λj hj=>(h.cell (p:=⟨b,off+j,none⟩) I).trans (hc j hj)⟩

set_option maxRecDepth 100000 in
set_option maxHeartbeats 1000000 in
theorem PB.CW(F:Fence)(n:Nat)(h24:F.fn 133)(Tf:F.round=none)(l Bs:Nat)(a:Option Addr)(hd:List (Nat×Bool)->World->Prop)(zl:World)(hBs:zl.cell? ⟨Bs,0,none⟩=some (.slice a 0 0))(h0:hd [] zl) :
  CallsIn F n Tryz.prog 133 #[.func (.yield l) #[] #[],.pointer (some ⟨Bs,0,none⟩)] zl λe W'=>(∃ v,e=.returned v)/\hd [] W':=by
 refine callsIn_of_wp Tryz.func133 rfl h24 ?_ Tf
 simp only[Tryz.ntmps133,Y,zK,zZ,qE,qF,zO,zP,zV,zS,qA,zX]
 gi_wp2
 gi_loopw [3] (λi wr=>i=.int .i64 (-1)/\hd [] wr) (λ_ _=>0)
 case atStart=>exact⟨rfl,h0⟩
 case round =>
  obtain⟨rfl,hJs⟩:=hrel
  gi_wp2
  go_end0
  exact⟨⟨_,rfl⟩,hJs⟩

set_option maxHeartbeats 1000000 in
theorem PB.EX(F:Fence)(n:Nat)(h20:F.fn 72)(Tf:F.round=none)(a:Option Addr)(len cap:Nat)(w:World) :
  CallsIn F n Tryz.prog 72 #[.slice a len cap] w λe w'=>e=.returned (.func (.func 133) #[] #[.pointer (some ⟨w.heap.size,0,none⟩)])/\w'=w.alloc (.cells #[.slice a len cap] 41):=by
 refine callsIn_of_wp Tryz.func72 rfl h20 ?_ Tf
 simp only[Tryz.ntmps72,Y,zK,zZ,qE,qF,zO,zP,zV,zS,qA,zX]
 gi_wp2
 go_ret
 exact⟨rfl,rfl⟩

theorem PB.Lr(F:Fence)(n:Nat)(h24:F.fn 133)(Tf:F.round=none)(hn:1<=n)(Bs n₀:Nat)(sv:Value)(zs:List Bool)(K5:zs.length*8<=140737488351232)(w:World)(hBs:Bs<n₀)(hn₀:n₀<=w.heap.size)
  (hc:w.cell? ⟨Bs,0,none⟩=some sv) (hI:PB.EB n₀ w sv zs) :
  SeqStopsK F n Tryz.prog 133 #[.pointer (some ⟨Bs,0,none⟩)] (λx:Nat×Bool => #[M .i64 (x.1:Int),zM x.2]) (Below n₀) (λys=>ys=PB.upto (PB.at zs zs.length) zs.length)
   (λpre=>∃ k,k<=zs.length/\pre=PB.upto (PB.at zs zs.length) k) zs.length w:=λl hd Jx zl hW _ _ hY h0=>by
 have hc':=(hW.cell (p:=⟨Bs,0,none⟩) (zI hBs hn₀)).trans hc
 rcases hI.below (hW.mono hn₀)with⟨a,rfl,rfl⟩ | ⟨b,off,cap,rfl,I,X7⟩
 ·exact(PB.CW F n h24 Tf l Bs a hd zl hc' h0).mono λe W' ⟨he,hj⟩=>⟨he,.inl ⟨_,rfl,hj⟩⟩
 ·exact PB.z0F F n h24 Tf hn l Bs n₀ b off zs.length cap zs K5 I hd Jx hY zl hc' hBs X7 h0
end Go.Proofs

namespace Go.Proofs
open Go.RowKit Go.Shelf
attribute [local go_sem] zN

/-- None of the first k that came counts. -/
theorem PB.DV(l:List Bool)(at_:Int):∀ k m:Nat,m+k=l.length->(∀ p∈PB.upto (PB.at l l.length) k,¬ (p.2=true/\(p.1:Int)<at_))->Go.AM.Lf.nW l at_ l.length=Go.AM.Lf.nW l at_ m
 | 0,m,h,_=>by rw[show m=l.length by omega]
 | k+1,m,h,hp=>by
  rw[PB.DV l at_ k (m+1) (by omega) λp hq=>hp p (by rw[PB.ZG]; exact List.mem_append_left _ hq)]
  have:=hp (PB.at l l.length k) (by rw[PB.ZG]; simp)
  simp only[PB.at,show l.length-1-k=m by omega]at this
  simp only[Go.AM.Lf.nW,if_neg this]

set_option maxRecDepth 100000 in
set_option maxHeartbeats 4000000 in
theorem PB.z6z(F:Fence)(n:Nat)(h10:F.fn 36)(h7:F.fn 35)(h20:F.fn 72)(h24:F.fn 133)(Tf:F.round=none)(hn:3<=n)(c0 c1 c2 c3 c4 c5 vOn:Value)(at_:Int)(zs:List Bool)(w:World)(K5:zs.length*8<=140737488351232)
  (zoS:∀ zl,Below w.heap.size w zl->CallsIn F (n-1) Tryz.prog 35 #[.agg #[c0,c1,c2,c3,c4,c5],vOn] zl λe W'=>∃ a len cap,e=.returned (.slice a len cap)/\Below zl.heap.size zl W'/\PB.EB W'.heap.size W' (.slice a len cap) zs) :
  CallsIn F n Tryz.prog 36 #[.agg #[c0,c1,c2,c3,c4,c5],vOn,.int .i64 at_] w λe W'=>e=.returned (.tuple #[.int .i64 (Go.AM.Lf.nW zs at_ zs.length).1,.bool (Go.AM.Lf.nW zs at_ zs.length).2])/\Below w.heap.size w W':=by
 have h1:1<=n:=by omega
 refine callsIn_of_wp_marks Tryz.func36 rfl h10 ?_ Tf
 simp only[Tryz.ntmps36,Y,zK,zZ,qE,qF,zO,zP,zV,zS,qA,zX]
 gi_wp2_with (first
  | (gi_at_call 35; refine(zoS _ (((((Below.refl _ w).alloc (U _) _).alloc (by simp) _).alloc (by simp; omega) _).alloc (by simp; omega) _)).mono ?_; rintro e W1 ⟨a,len,cap,rfl,hB1,hZ1⟩)
  | (gi_at_call 72; refine(PB.EX F (n-1) h20 Tf _ _ _ _).mono ?_; rintro e w' ⟨rfl,rfl⟩))
 have hB0:Below w.heap.size w ((((w.alloc (zA #[c0,c1,c2,c3,c4,c5] 29)).alloc (zA #[M IntKind.i64 at_] 3)).alloc (zA #[M IntKind.i64 0] 3)).alloc (zA #[zM false] 4)) :=
  ((((Below.refl _ w).alloc (U _) _).alloc (by simp) _).alloc (by simp; omega) _).alloc (by simp; omega) _
 have k5:((((w.alloc (zA #[c0,c1,c2,c3,c4,c5] 29)).alloc (zA #[M IntKind.i64 at_] 3)).alloc (zA #[M IntKind.i64 0] 3)).alloc (zA #[zM false] 4)).heap[w.heap.size+1]? = some (zA #[M IntKind.i64 at_] 3):=by
  have:=((qQ (w.alloc (zA #[c0,c1,c2,c3,c4,c5] 29)) 3 (.int .i64 at_)).alloc (zA #[M IntKind.i64 0] 3)).alloc (zA #[zM false] 4)
  rw[zL]at this; exact this
 have k6:((((w.alloc (zA #[c0,c1,c2,c3,c4,c5] 29)).alloc (zA #[M IntKind.i64 at_] 3)).alloc (zA #[M IntKind.i64 0] 3)).alloc (zA #[zM false] 4)).heap[w.heap.size+1+1]? = some (zA #[M IntKind.i64 0] 3):=by
  have:=(qQ ((w.alloc (zA #[c0,c1,c2,c3,c4,c5] 29)).alloc (zA #[M IntKind.i64 at_] 3)) 3 (.int .i64 0)).alloc (zA #[zM false] 4)
  rw[zL,zL]at this; exact this
 have k7:((((w.alloc (zA #[c0,c1,c2,c3,c4,c5] 29)).alloc (zA #[M IntKind.i64 at_] 3)).alloc (zA #[M IntKind.i64 0] 3)).alloc (zA #[zM false] 4)).heap[w.heap.size+1+1+1]? = some (zA #[zM false] 4):=by
  have:=(qQ (((w.alloc (zA #[c0,c1,c2,c3,c4,c5] 29)).alloc (zA #[M IntKind.i64 at_] 3)).alloc (zA #[M IntKind.i64 0] 3)) 4 (.bool false))
  rw[zL,zL,zL]at this; exact this
 have bR:((((w.alloc (zA #[c0,c1,c2,c3,c4,c5] 29)).alloc (zA #[M IntKind.i64 at_] 3)).alloc (zA #[M IntKind.i64 0] 3)).alloc (zA #[zM false] 4)).heap.size=w.heap.size+1+1+1+1:=by simp
 generalize ((((w.alloc (zA #[c0,c1,c2,c3,c4,c5] 29)).alloc (zA #[M IntKind.i64 at_] 3)).alloc (zA #[M IntKind.i64 0] 3)).alloc (zA #[zM false] 4))=W0 at *
 have hs1:=hB1.size
 have b5:Boxed W1 (w.heap.size+1) 3 (.int .i64 at_):=(hB1.block _ (by omega)).trans k5
 have b6:Boxed W1 (w.heap.size+1+1) 3 (.int .i64 0):=(hB1.block _ (by omega)).trans k6
 have b7:Boxed W1 (w.heap.size+1+1+1) 4 (.bool false):=(hB1.block _ (by omega)).trans k7
 have bS:=qQ W1 41 (.slice a len cap)
 have hBw:Below w.heap.size w W1:=hB0.trans (hB1.mono (by omega))
 have hBa:Below w.heap.size w (W1.alloc (zA #[qM a len cap] 41)):=hBw.alloc (by omega) _
 have fin:∀ {W2:World} {D:Nat} {v6:Int} {v7:Bool},w.heap.size<=D->W2.heap[D]? = some (.deferred (some []))->Below w.heap.size w W2->Boxed W2 (w.heap.size+1+1) 3 (.int .i64 v6)->Boxed W2 (w.heap.size+1+1+1) 4 (.bool v7) ->
   ∀ {u:Value},bodyPostM F n Tryz.prog Tryz.f36 (λe W'=>e=.returned (.tuple #[.int .i64 v6,.bool v7])/\Below w.heap.size w W') Exit.ret
    { tmps := #[qR #[c0,c1,c2,c3,c4,c5],vOn,M IntKind.i64 at_,
     zG (some { block:=w.heap.size,off:=0 }),undef,
     zG (some { block:=w.heap.size+1,off:=0 }),
     zG (some { block:=w.heap.size+1+1,off:=0 }),
     zG (some { block:=w.heap.size+1+1+1,off:=0 }),undef,undef,
     qR #[c0,c1,c2,c3,c4,c5],vOn,qM a len cap,
     Value.func (Fn.func 133) #[] #[zG (some { block:=W1.heap.size,off:=0 })],undef,undef,undef,
     undef,undef,undef,undef,undef,undef,u],defers:=[{ target:=Target.collected D,args := #[] }] } W2:=by
  intro W2 D v6 v7 hD hK hB g6 g7 u
  refine⟨by simp,.inl ⟨_,_,rfl,run_takeDeferred hK,?_⟩⟩
  have c6:=(g6.kept (grownBy_putObj' _ D (.deferred none)) (λe=>by cases e; rw[show W2.heap[_]? = _ from g6]at hK; cases hK)).cell
  have c7:=(g7.kept (grownBy_putObj' _ D (.deferred none)) (λe=>by cases e; rw[show W2.heap[_]? = _ from g7]at hK; cases hK)).cell
  refine⟨.tuple #[.int .i64 v6,.bool v7],?_,rfl,hB.trans (belowK_b (w:=w) (U _) _ D _ _ hD hK rfl rfl)⟩
  simp[results,Tryz.f36,go_sem,c6,c7]
 refine wpIn_rangeFunc_ownG Tf h1 (gf:=133) (lb := #[.pointer (some ⟨W1.heap.size,0,none⟩)]) rfl h24 (enters_of Tryz.func133 (by kernel_rfl) rfl)
  (PB.Lr F (n-1) h24 Tf (by omega) W1.heap.size (W1.heap.size+1) _ zs K5 (W1.alloc (zA #[qM a len cap] 41)) (by omega) (by simp) bS.cell (by
   rcases hZ1 with h | ⟨b,off,Uv,e,I,hc⟩
   ·exact .inl h
   ·exact .inr ⟨b,off,Uv,e,by omega,λj hj=>(((Below.refl W1.heap.size W1).alloc (U _) _).cell (p:=⟨b,off+j,none⟩) I).trans (hc j hj)⟩)) belowK_t (belowK_b (by simp)) (Below.refl _ _) (λ_=>rfl)
  (λpre zl=>((∀ p∈pre,¬ (p.2=true/\(p.1:Int)<at_))/\Boxed zl (w.heap.size+1) 3 (.int .i64 at_)/\Boxed zl (w.heap.size+1+1) 3 (.int .i64 0)/\Boxed zl (w.heap.size+1+1+1) 4 (.bool false))/\Below w.heap.size w zl)
  (λc pre zl=>(c=.ret/\∃ (ini:List (Nat×Bool)) (last:Nat×Bool),pre=ini++[last]/\(∀ p∈ini,¬ (p.2=true/\(p.1:Int)<at_))/\(last.2=true/\(last.1:Int)<at_)/\Boxed zl (w.heap.size+1+1) 3 (.int .i64 (last.1:Int))/\Boxed zl (w.heap.size+1+1+1) 4 (.bool true))/\Below w.heap.size w zl)
  (OwnFrom.and (Own.from (λs A B row hs hg hr=>⟨hs.1,boxed_own (β:=Unit) _ _ (λ_=>_) () A B row hs.2.1 hg hr,boxed_own (β:=Unit) _ _ (λ_=>_) () A B row hs.2.2.1 hg hr,boxed_own (β:=Unit) _ _ (λ_=>_) () A B row hs.2.2.2 hg hr⟩) _) (ownFrom_below (U _) (by simp; omega)))
  (λc=>OwnFrom.and (Own.from (λs A B row hs hg hr=>by obtain⟨hc,ini,last,e1,e2,e3,e4,e5⟩:=hs; exact⟨hc,ini,last,e1,e2,e3,boxed_own (β:=Unit) _ _ (λ_=>_) () A B row e4 hg hr,boxed_own (β:=Unit) _ _ (λ_=>_) () A B row e5 hg hr⟩) _) (ownFrom_below (U _) (by simp; omega)))
  ⟨⟨by simp,b5.alloc _,b6.alloc _,b7.alloc _⟩,hBa⟩
  (λx=>{ tmps := #[qR #[c0,c1,c2,c3,c4,c5],vOn,M IntKind.i64 at_,
     zG (some { block:=w.heap.size,off:=0 }),undef,
     zG (some { block:=w.heap.size+1,off:=0 }),
     zG (some { block:=w.heap.size+1+1,off:=0 }),
     zG (some { block:=w.heap.size+1+1+1,off:=0 }),.int .i64 (x.1:Int),.bool x.2,
     qR #[c0,c1,c2,c3,c4,c5],vOn,qM a len cap,
     Value.func (Fn.func 133) #[] #[zG (some { block:=W1.heap.size,off:=0 })],.int .i64 (x.1:Int),.bool x.2,undef,
     undef,undef,undef,undef,undef,undef,undef],defers:=[] }) ?assign ?body ?done ?stop
 case assign =>
  intro l x zl K hK
  gi_wp2
  exact hK
 case body =>
  rintro l pre x zl ⟨⟨hp,h5,h6,h7'⟩,hB⟩ _
  have q5:=h5.cell; have q6:=h6.cell; have q7:=h7'.cell
  have f6:=h6.frozen; have f7:=h7'.frozen
  gi_wp2
  ·rename_i g1 g2
   exact⟨((zR _ _ _).trans (zR _ _ _)).from _,⟨rfl,pre,x,rfl,hp,⟨by simp_all,by simp_all⟩,(h6.set _).other (by omega) _,(h7'.other (by omega) _).set _⟩,
    (hB.setCell (p:=⟨w.heap.size+1+1,0,none⟩) (by show w.heap.size<=w.heap.size+1+1; omega) _).setCell (p:=⟨w.heap.size+1+1+1,0,none⟩) (by show w.heap.size<=w.heap.size+1+1+1; omega) _⟩
  ·rename_i g1 g2
   exact⟨KeepsFrom.refl _ _,Below.refl _ _,⟨λp hp'=>(List.mem_append.1 hp').elim (hp p) (λe=>by simp at e; subst e; intro hh; have:=hh.2; omega),h5,h6,h7'⟩,hB⟩
  ·rename_i g1
   exact⟨KeepsFrom.refl _ _,Below.refl _ _,⟨λp hp'=>(List.mem_append.1 hp').elim (hp p) (λe=>by simp at e; subst e; intro hh; simp_all),h5,h6,h7'⟩,hB⟩
 case done =>
  rintro D ys zl hD rfl ⟨⟨ki,h5,h6,h7'⟩,hB⟩ hK
  have q5:=h5.cell; have q6:=h6.cell; have q7:=h7'.cell
  have f6:=h6.frozen; have f7:=h7'.frozen
  have hv:Go.AM.Lf.nW zs at_ zs.length=(at_,false):=(PB.DV zs at_ zs.length 0 (by omega) ki).trans rfl
  gi_wp2
  have hK':((zl.setCell ⟨w.heap.size+1+1,0,none⟩ (.int .i64 at_)).setCell ⟨w.heap.size+1+1+1,0,none⟩ (.bool false)).heap[D]? = some (.deferred (some [])) :=
   ((zR _ _ _).trans (zR _ _ _)).same D _ hK rfl
  have g6:Boxed ((zl.setCell ⟨w.heap.size+1+1,0,none⟩ (.int .i64 at_)).setCell ⟨w.heap.size+1+1+1,0,none⟩ (.bool false)) (w.heap.size+1+1) 3 (.int .i64 at_):=(h6.set _).other (by omega) _
  have g7:Boxed ((zl.setCell ⟨w.heap.size+1+1,0,none⟩ (.int .i64 at_)).setCell ⟨w.heap.size+1+1+1,0,none⟩ (.bool false)) (w.heap.size+1+1+1) 4 (.bool false):=(h7'.other (by omega) _).set _
  have hB':Below w.heap.size w ((zl.setCell ⟨w.heap.size+1+1,0,none⟩ (.int .i64 at_)).setCell ⟨w.heap.size+1+1+1,0,none⟩ (.bool false)) :=
   (hB.setCell (p:=⟨w.heap.size+1+1,0,none⟩) (by show w.heap.size<=w.heap.size+1+1; omega) _).setCell (p:=⟨w.heap.size+1+1+1,0,none⟩) (by show w.heap.size<=w.heap.size+1+1+1; omega) _
  rw[hv]
  generalize (zl.setCell ⟨w.heap.size+1+1,0,none⟩ (.int .i64 at_)).setCell ⟨w.heap.size+1+1+1,0,none⟩ (.bool false)=W2 at *
  exact fin (by simp at hD; omega) hK' hB' g6 g7
 case stop =>
  rintro D c pre zl hD ⟨k,hk,rfl⟩ ⟨⟨rfl,ini,last,e1,e2,e3,h6,h7'⟩,hB⟩ hK
  gi_wp2
  obtain⟨k',rfl⟩:∃ k',k=k'+1:=by
   cases k with
   | zero=>simp[PB.upto]at e1
   | succ k'=>exact⟨k',rfl⟩
  rw[PB.ZG]at e1
  obtain⟨rfl,e5⟩:=List.append_inj' e1 rfl
  obtain rfl:PB.at zs zs.length k'=last:=by simpa using e5
  have hv:Go.AM.Lf.nW zs at_ zs.length=(((zs.length-1-k':Nat):Int),true):=by
   rw[PB.DV zs at_ k' (zs.length-1-k'+1) (by omega) e2]
   simp only[PB.at]at e3
   simp only[Go.AM.Lf.nW]
   rw[if_pos e3]
  rw[hv]
  exact fin (by simp at hD; omega) hK hB h6 h7'
end Go.Proofs

namespace Go.AM.Lf
open Go.Proofs Go.RowKit

theorem HY{P:Program}{g:Nat}{fn:Func}{args:Array Value}{w:World}{hl:Ending->World->Prop}(hf:P.funcs[g]? = some fn) (hn:(fn.name == "runtime.NumGoroutine")=false) (I:fn.body.isNone=false) (h:gH P g args w hl):Calls P g args w hl:=by
 rcases h with⟨_,h⟩ | ⟨v,w',h,_⟩
 ·exact h
 ·rw[uY hf hn I w]at h; cases h

theorem zqf:zy Tryz.prog 36 ⟨[.ty qz,.ty (.sl .bool),.ty i64],[i64,.bool],λx=>pL x.1 x.2.1 x.2.2⟩:=by
 intro O x xc y ud hy hI ha
 obtain⟨f,on,at_⟩:=x
 obtain⟨l,R,hlen,hy⟩:=T.zi.1 hy
 replace hlen:zH l*8<=140737488351232:=hlen
 cases hy
 obtain⟨v0,r,rfl,h0,ha⟩:=wQ.cons_inv (show wQ O [.qs qz f,.qs (.sl .bool) on,.qs i64 at_] xc from ha)
 obtain⟨v1,r,rfl,h1,ha⟩:=ha.cons_inv
 obtain⟨v2,r,rfl,X,ha⟩:=ha.cons_inv
 rw[ha.wj]
 obtain⟨cs,X7,rfl⟩:=RD.cY h0
 have zi5:=X7.len
 rw[RD.dX X]
 match cs,zi5 with
 | [c0,c1,c2,c3,c4,c5],_ =>
 refine .inl ⟨uY Tryz.func36 (by kernel_rfl) rfl O.w,?_⟩
 refine(callsIn_wide (n:=10)).1 ((PB.z6z Fence.wide 10 trivial trivial trivial trivial rfl (by omega) c0 c1 c2 c3 c4 c5 v1 at_ l O.w hlen λzl hW => ?_).mono ?_)
 ·have N:Ext O { O with w:=zl }:=⟨hW.os,hW.tape,hW.output,hW.size,λk hk=>⟨hk,hW.block k (hI.bT k hk)⟩,λk hk=>.inl hk,λ_ _ _ h=>.inl h,λb d h=>by rw[ud]at h; simp at h,
   λb v0 e xs h=>by rw[ud]at h; simp at h,λb h=>by rw[ud]at h; simp at h,U _,λk hk _=>hW.block k hk⟩
  have Uk:Inv { O with w:=zl }:=⟨hI.len,λk hk=>zI (hI.bT k hk) hW.size,λb blk n I=>⟨zI (hI.apart b blk n I).1 hW.size,(hI.apart b blk n I).2⟩,hI.inj,λb x I=>by rw[ud]at I; simp at I,hI.gl.mono N.same⟩
  refine callsIn_wide.2 (HY Tryz.func35 (by kernel_rfl) rfl ((zmx { O with w:=zl } (f,on) [pk qz [c0,c1,c2,c3,c4,c5],v1] l ud R Uk (.cons (h0.mono N) (.cons (h1.mono N) .nil))).mono ?_))
  rintro e W' ⟨E,rfl,z7N,hI',HR,v,rfl,hv⟩
  have HQ:O.ph=[]:=zY (by rw[hI.len,ud]; rfl)
  have hB:Below zl.heap.size zl E.w:=⟨HR.os,HR.tape,HR.output,HR.size,λk hk=>HR.frame k hk λb n h=>by simp[HQ]at h⟩
  have hv:=RD.jN (O:=E) (τ:=.sl .bool) (x:=l) hv rfl
  rcases hv.tZ with⟨rfl,a,e⟩ | ⟨blk,off,cap,g,e,ja,js,hg,hc⟩
  ·cases e
   exact⟨a,0,0,rfl,hB,.inl ⟨a,rfl,rfl⟩⟩
  ·cases e
   refine⟨some ⟨blk,off,none⟩,_,cap,rfl,hB,.inr ⟨blk,off,cap,rfl,hI'.bT blk ja,λj hj => ?_⟩⟩
   have h3:=hc j hj 0 (.bool l[j]) (by rw[(hg j hj).cA]; rfl)
   rw[zT hj]
   simpa[Ty.size]using h3
 ·rintro e W' ⟨rfl,hB⟩
  have N:Ext O { O with w:=W' }:=⟨hB.os,hB.tape,hB.output,hB.size,λk hk=>⟨hk,hB.block k (hI.bT k hk)⟩,λk hk=>.inl hk,λ_ _ _ h=>.inl h,λb d h=>by rw[ud]at h; simp at h,
   λb v0 e xs h=>by rw[ud]at h; simp at h,λb h=>by rw[ud]at h; simp at h,U _,λk hk _=>hB.block k hk⟩
  refine⟨{ O with w:=W' },rfl,ud,⟨hI.len,λk hk=>zI (hI.bT k hk) hB.size,λb blk n I=>⟨zI (hI.apart b blk n I).1 hB.size,(hI.apart b blk n I).2⟩,hI.inj,λb x I=>by rw[ud]at I; simp at I,hI.gl.mono N.same⟩,N,_,rfl,?_⟩
  refine .eO _ _ rfl λi h1 X => ?_
  match i with
  | 0=>exact RD.int
  | 1=>exact RD.bool
end Go.AM.Lf

namespace Go.AM.Lf
open Go.Proofs Go.Proofs.Tryz
def t252:=t251.d zqf
def z39:q8:=Lz [] [Mi 2,Mm 12 (.sl .bool),Mi 13] ⟨[Mi 14],[],[]⟩ [jF,⟨.ret,⟨[Mi 6,Mb 7],[],[]⟩⟩] λp s=>Qp p.1 p.2.1 p.2.2 s
def h37:Hints:=Hz [(0,z39)] [(0,4,.flat [Mb 24])] []
theorem zef:LO Tryz.f37 z39 0:=lk t252 (rz [3]) h37 [] zf
theorem zqg:zy Pz 37 ⟨[.ty qz,.ty (.sl .bool),.ty i64],[i64,.bool],λx=>pM x.1 x.2.1 x.2.2⟩:=wi t252 (rz [3]) h37 func37 [0] (qe rfl zef zf)
def t253:=t252.d zqg
def h18:Hints:=Hz [] [(0,2,.flat [Mb 28])] []
theorem zpY:zy Pz 18 ⟨[.ty qz,.ty (.sl .bool),.ty i64],[i64],λx=>Zv x.1 x.2.1 x.2.2⟩:=wi t253 (rz [3]) h18 func18 [] zf
def t254:=t253.d zpY
def h6:Hints:=Hz [] [] [(8,[1006000,1006001,1006003,1006004,1006005])]
theorem ok6:jI Pz 6 ⟨[.any],z5N,[],⟨[Ms 1,Mi 2,.v (.qs xa)],[(0,.ptr 0 0)],Wi⟩,3,0,⟨[Ms 1,Mi 2],[(0,.gx)],[]⟩,some 3,λx=>iC x⟩:=Yq t254 rn h6 func6 [] zf
def t255:=t254.p ok6
theorem zkv:zy Pz 203 ⟨[.ty qy,.rp .str],[.bool],λx=>dT x.1 x.2⟩:=wi t255 (rz [2]) hN func203 [] zf
def t256:=t255.d zkv
def OY:q8:=Lz [] [Mm 0 (.sl qy),.s 1 (.wo 203 [.rp .str]),Mi 7] cF [jF,nT] λp s=>cE p.1 (λz0=>dT z0 p.2.1) p.2.2 s
def zgM:Hints:=Hz [(0,OY)] [] []
theorem z8Q:LO Tryz.f202 OY 0:=lk t256 rn zgM [] zf
theorem zku:zy Pz 202 ⟨[.ty (.sl qy),.wo 203 [.rp .str]],[i64],λx=>gz x.1 (λz0=>dT z0 x.2)⟩:=wi t256 rn zgM func202 [0] (qe rfl z8Q zf)
def t257:=t256.d zku
theorem zjv:zy Pz 136 ⟨[.ty qz,.ty .str],[i64],λx=>Zf x.1 x.2⟩:=wi t257 (rz [2,3]) hN func136 [] zf
def t258:=t257.d zjv
theorem zjx:zy Pz 138 ⟨[.ty zm],[.bool],λx=>bZ x⟩:=wi t258 (rz [1]) hN func138 [] zf
def t259:=t258.d zjx
theorem zkw:zy Pz 204 ⟨[.ty zm],[.bool],λx=>fx x⟩:=wi t259 (rz [1]) hN func204 [] zf
def t260:=t259.d zkw
def C5:q8:=Lz [] [Mm 0 (.sl zm),.s 1 (.wo 204 []),Mi 7] cF [jF,nT] λp s=>yY p.1 (λz0=>fx z0) p.2.2 s
def z1x:Hints:=Hz [(0,C5)] [] []
theorem TC:LO Tryz.f240 C5 0:=lk t260 rn z1x [] zf
theorem Rx:zy Pz 240 ⟨[.ty (.sl zm),.wo 204 []],[i64],λx=>kW x.1 (λz0=>fx z0)⟩:=wi t260 rn z1x func240 [0] (qe rfl TC zf)
def t261:=t260.d Rx
theorem Rv:zy Pz 181 ⟨[.ty (.sl zm),.wo 204 []],[.bool],λx=>vD x.1 (λz0=>fx z0)⟩:=wi (t261.d Rx) rn hN func181 [] zf
def t262:=t261.d Rv
theorem zkz:zy Pz 207 ⟨[.ty zk],[.bool],λx=>JY x⟩:=wi t262 (rz [1]) hN func207 [] zf
def t263:=t262.d zkz
theorem zky:zy Pz 206 ⟨[.ty zk],[.bool],λx=>fy x⟩:=wi t263 (rz [1]) hN func206 [] zf
def t264:=t263.d zky
def Pp:q8:=Lz [] [Mm 0 (.sl zk),.s 1 (.wo 206 []),Mi 7] cF [jF,nT] λp s=>bM p.1 (λz0=>fy z0) p.2.2 s
def zh3:Hints:=Hz [(0,Pp)] [] []
theorem z9g:LO Tryz.f260 Pp 0:=lk t264 rn zh3 [] zf
theorem zlk:zy Pz 260 ⟨[.ty (.sl zk),.wo 206 []],[i64],λx=>yr x.1 (λz0=>fy z0)⟩:=wi t264 rn zh3 func260 [0] (qe rfl z9g zf)
def t265:=t264.d zlk
theorem zkx:zy Pz 205 ⟨[.ty (.sl zk),.wo 206 []],[.bool],λx=>uF x.1 (λz0=>fy z0)⟩:=wi t265 rn hN func205 [] zf
def t266:=t265.d zkx
def PN:q8:=Lz [] [Mm 1 (.sl zm),Mm 12 (.sl qq),Mi 13] ⟨[Mi 14,.v (.qs zm),.v (.qs zm)],[(4,.ptr 0 0),(5,.ptr 1 0)],[.var (.qs zm),.var (.qs zm)]⟩ [⟨.exit 0,z5r⟩] λp s=>Wp p.1 p.2.1 p.2.2 s
def zhe:Hints:=Hz [(0,PN)] [] []
theorem z9x:LO Tryz.f319 PN 0:=lk t266 (rz [2]) zhe [] zf
theorem zm8:zy Pz 319 ⟨[.ty zw,.ty (.sl zm)],[zm],λx=>CU x.1 x.2⟩:=wi t266 (rz [2]) zhe func319 [0] (qe rfl z9x zf)
def t267:=t266.d zm8
theorem zll:zy Pz 261 ⟨[.ty zw,.ty (.sl zm)],[.bool],λx=>tf x.1 x.2⟩:=wi t267 (rz [2]) hN func261 [] zf
def t268:=t267.d zll
def C8:q8:=Lz [] [Mm 27 (.sl qq),Mi 28] ⟨[Mi 7,Mi 8,Mi 29,.v sT,.a i64,.a i64],[(0,.ptr 0 0),(2,.uZ)],JJ⟩ [⟨.exit 0,⟨[Mi 7,.v sT,.a i64,.a i64],[],JJ⟩⟩] λp s=>yj p.1 p.2 s
def z1A:Hints:=Hz [(0,C8)] [(0,6,.flat [Mb 46])] []
theorem TF:LO Tryz.f315 C8 0:=lk t268 rn z1A [] zf
theorem RC:xw Pz 315 ⟨QJ,⟨[Mi 1,.v sT,.a i64,.a i64],[(0,.ptr 0 0),(2,.uZ)],JJ⟩,[],L6,1,λx=>gZ x.1 x.2.1 x.2.2.1 x.2.2.2⟩:=dW t268 rn z1A func315 [0] (qe rfl TF zf)
def t269:=t268.s RC
theorem zlm:zy Pz 262 ⟨[.ty (.sl zw),.ty (.sl i64),.ty i64,.ty i64],[.bool],λx=>mJ x.1 x.2.1 x.2.2.1 x.2.2.2⟩:=wi (t269.s RC) rn hN func262 [] zf
def t270:=t269.d zlm
def zon:Hints:=Hz [] [(0,4,.ways [⟨.normal,⟨[Mb 8,.v Yj,.a zw,.a i64,.a i64,.v (.qs zw)],[],[.var Yj,.arr zw,.arr i64,.arr i64,.var (.qs zw)]⟩⟩])] []
theorem zkC:xw Pz 210 ⟨QJ,⟨[Mi 1,Mm 2 (.sl zm),.v Yj,.a zw,.a i64,.a i64],[(0,.ptr 0 0)],JK⟩,[],⟨[Mb 0,.v Yj,.a zw,.a i64,.a i64],[],JK⟩,1,λx=>bj x.1 x.2.1 x.2.2.1 x.2.2.2.1 x.2.2.2.2.1 x.2.2.2.2.2⟩:=dW t270 rn zon func210 [] zf
def t271:=t270.s zkC
def zcx:Tb:=t271.d Rv
def Om:q8:=Lz [] [Mr 3 qg,Mm 31 (.sl i64),Mi 32] ⟨[Mi 33,.v Yj,.a zw,.a i64,.a i64],[(5,.ptr 0 0)],JK⟩ [⟨.exit 0,z5W⟩,z5Z] λp s=>JW p.1 p.2.1 p.2.2 s
def On:q8:=Lz [] [Mr 3 qg,Mi 67] ⟨[Mi 68,.v Yj,.a zw,.a i64,.a i64],[(5,.ptr 0 0)],JK⟩ [⟨.exit 2,z5W⟩,z5Z] λp s=>JX p.1 p.2 s
def zd5:Hints:=Hz [(0,Om),(2,On)] [(0,7,.ways [⟨.normal,⟨[Mb 48,.v Yj,.a zw,.a i64,.a i64],[],JK⟩⟩])] []
theorem z8i:LO Tryz.f137 Om 0:=lk zcx (rz [2,3]) zd5 [] zf
theorem z8j:LO Tryz.f137 On 2:=lk zcx (rz [2,3]) zd5 [] zf
theorem zjw:zy Pz 137 ⟨[.ty qz,.ty qg],[.bool],λx=>Xm x.1 x.2⟩:=wi zcx (rz [2,3]) zd5 func137 [0,2] (qe rfl z8i (qe rfl z8j zf))
def t272:=t271.d zjw
def h74:Hints:=Hz [] [] [(12,[1001006,1001007,1001008])]
theorem zqM:zy Pz 74 ⟨[.ty qz,.ty qg,.ty .str,.ty zm],[qg,(.sl .str),i64],λx=>UC x.1 x.2.1 x.2.2.1 x.2.2.2⟩:=wi t272 (rz [4,5,7]) h74 func74 [] zf
def t273:=t272.d zqM
def OU:q8:=Lz [] [.s 2 (.wo 103 []),Mm 9 (.sl zm),Mi 10] Sq [Wl] λp s=>Zg (λz0=>gE z0) p.2.1 p.2.2 s
def zgI:Hints:=Hz [(0,OU)] [] []
theorem z8M:LO Tryz.f195 OU 0:=lk t273 rn zgI [] zf
theorem zkn:zy Pz 195 ⟨[.ty .str,.ty (.sl zm),.wo 103 []],[.str],λx=>mP x.1 x.2.1 (λz0=>gE z0)⟩:=wi t273 rn zgI func195 [0] (qe rfl z8M zf)
def t274:=t273.d zkn
theorem zkp:zy Pz 197 ⟨[.ty .bool],[.str],λx=>fB x⟩:=wi t274 rn hN func197 [] zf
def t275:=t274.d zkp
def OV:q8:=Lz [] [.s 2 (.wo 197 []),Mm 9 (.sl .bool),Mi 10] Sq [Wl] λp s=>tc (λz0=>fB z0) p.2.1 p.2.2 s
def zgJ:Hints:=Hz [(0,OV)] [] []
theorem z8N:LO Tryz.f196 OV 0:=lk t275 rn zgJ [] zf
theorem zko:zy Pz 196 ⟨[.ty .str,.ty (.sl .bool),.wo 197 []],[.str],λx=>ir x.1 x.2.1 (λz0=>fB z0)⟩:=wi t275 rn zgJ func196 [0] (qe rfl z8N zf)
def t276:=t275.d zko
theorem zkr:zy Pz 199 ⟨[.ty i64],[.str],λx=>mc x⟩:=wi t276 rn hN func199 [] zf
def t277:=t276.d zkr
def OW:q8:=Lz [] [.s 2 (.wo 199 []),Mm 9 (.sl i64),Mi 10] Sq [Wl] λp s=>Zh (λz0=>mc z0) p.2.1 p.2.2 s
def zgK:Hints:=Hz [(0,OW)] [] []
theorem z8O:LO Tryz.f198 OW 0:=lk t277 rn zgK [] zf
theorem zkq:zy Pz 198 ⟨[.ty .str,.ty (.sl i64),.wo 199 []],[.str],λx=>tQ x.1 x.2.1 (λz0=>mc z0)⟩:=wi t277 rn zgK func198 [0] (qe rfl z8O zf)
def t278:=t277.d zkq
theorem zkt:zy Pz 201 ⟨[.ty zk],[.str],λx=>me x⟩:=wi t278 (rz [1]) hN func201 [] zf
def t279:=t278.d zkt
def OX:q8:=Lz [] [.s 2 (.wo 201 []),Mm 9 (.sl zk),Mi 10] Sq [Wl] λp s=>nk (λz0=>me z0) p.2.1 p.2.2 s
def zgL:Hints:=Hz [(0,OX)] [] []
theorem z8P:LO Tryz.f200 OX 0:=lk t279 rn zgL [] zf
theorem zks:zy Pz 200 ⟨[.ty .str,.ty (.sl zk),.wo 201 []],[.str],λx=>iu x.1 x.2.1 (λz0=>me z0)⟩:=wi t279 rn zgL func200 [0] (qe rfl z8P zf)
def t280:=t279.d zks
theorem zju:zy Pz 135 ⟨[.ty qg],[.str],λx=>fA x⟩:=wi t280 (rz [1]) hN func135 [] zf
def t281:=t280.d zju
def zoa:Hints:=Hz [] [(0,1,.Bg)] []
theorem zbS:xw Pz 145 ⟨[.any],⟨[Mm 0 (.sl .str)],[],[]⟩,[],Vw,1,λx=>wV x⟩:=dW t281 rn zoa func145 [] zf
def t282:=t281.s zbS
theorem zjt:zy Pz 134 ⟨[.ty jD,.ty .str],[jD],λx=>Wz x.1 x.2⟩:=wi t282 (rz [2]) hN func134 [] zf
def t283:=t282.d zjt
theorem zqL:xw Pz 73 ⟨[.ptr,.any,.any,.any],⟨[Mm 1 qg,Mm 2 (.sl .str),Mi 3,.v (.qs xa)],[(0,.ptr 0 0)],Wi⟩,[],JL,1,λx=>vB x.1 x.2.1 x.2.2.1 x.2.2.2⟩:=dW t283 (rz [5]) hN func73 [] zf
def t284:=t283.s zqL
def h75:Hints:=Hz [] [(0,6,.flat [Mb 26]),(0,8,.flat [Mb 37]),(3,12,.ways [⟨.normal,⟨[.v (.qs qg),.a zm,.a .bool,.a zm,.a i64,.a zk,.a .bool,.v z56],[],[.var (.qs qg),.arr zm,.arr .bool,.arr zm,.arr i64,.arr zk,.arr .bool,.var z56]⟩⟩])] [(14,[1007000,1007001,1007002,1007003,1007004,1007005])]
theorem zqN:zy Pz 75 ⟨[.ty qz,.ty qg,.ty .str,.ty .bool],[qg,(.sl .str),i64],λx=>ZX x.1 x.2.1 x.2.2.1 x.2.2.2⟩:=wi t284 (rz [4,5]) h75 func75 [] zf
def t285:=t284.d zqN
theorem zjy:zy Pz 139 ⟨[.ty ql,.rp .str],[.bool],λx=>gF x.1 x.2⟩:=wi t285 (rz [2]) hN func139 [] zf
def t286:=t285.d zjy
def C1:q8:=Lz [] [Mm 0 (.sl ql),.s 1 (.wo 139 [.rp .str]),Mi 7] cF [jF,nT] λp s=>j9 p.1 (λz0=>gF z0 p.2.1) p.2.2 s
def z1s:Hints:=Hz [(0,C1)] [] []
theorem Tx:LO Tryz.f111 C1 0:=lk t286 rn z1s [] zf
theorem Ro:zy Pz 111 ⟨[.ty (.sl ql),.wo 139 [.rp .str]],[i64],λx=>vQ x.1 (λz0=>gF z0 x.2)⟩:=wi t286 rn z1s func111 [0] (qe rfl Tx zf)
def t287:=t286.d Ro
def I3:q8:=Lz [.cell 5 7 i64] [Mi 53] ⟨[Mi 54,.a i64,.v IZ,.a zw,.a i64,.v Ep,.v zaP,.a i64],[(3,.ptr 1 0),(10,.ptr 5 0),(52,.cur 3 i64)],z4Y⟩ [⟨.exit 1,z5h⟩] λp s=>ma p s
def I4:q8:=Lz [] [Mm 74 (.sl zk),Mi 75] ⟨[Mi 76,.a i64,.v IZ,.a zw,.a i64,.v Ep,.v zaP,.a i64],[(10,.ptr 5 0)],z4Y⟩ [⟨.exit 3,z5h⟩] λp s=>mb p.1 p.2 s
def z1D:Hints:=Hz [(1,I3),(3,I4)] [(0,4,.flat [Mb 30]),(3,19,.flat [Mi 15])] []
theorem z2z:LO Tryz.f67 I3 1:=lk t287 (rz [2]) z1D [] zf
theorem z2A:LO Tryz.f67 I4 3:=lk t287 (rz [2]) z1D [] zf
theorem z3S:jI Pz 67 ⟨[.any,.agg],⟨[Mm 0 qz,.s 1 IZ,.a i64],[],jU⟩,[],⟨[Mi 2,.a i64,.v zc6,.a zw,.a i64,.a i64],[(0,.ptr 1 0),(1,.wJ)],[.arr i64,.var zc6,.arr zw,.arr i64,.arr i64]⟩,3,0,⟨[.s 1 (.tight .str),Mi 2,.a i64],[(0,.gx)],jU⟩,some 3,λx=>eJ x.1 x.2.1 x.2.2⟩:=Yq t287 (rz [2]) z1D func67 [1,3] (qe rfl z2z (qe rfl z2A zf))
def t288:=t287.p z3S
def PO:q8:=Lz [] [Mm 0 (.sl u32),Mm 1 (.sl u32),Mi 12] z5I [jF,Wm] λp s=>gy p.1 p.2.1 p.2.2 s
def zhf:Hints:=Hz [(0,PO)] [] []
theorem z9y:LO Tryz.f320 PO 0:=lk t288 rn zhf [] zf
theorem zm9:zy Pz 320 ⟨[.ty (.sl u32),.ty (.sl u32)],[.bool],λx=>jx x.1 x.2⟩:=wi t288 rn zhf func320 [0] (qe rfl z9y zf)
def t289:=t288.d zm9
theorem zln:zy Pz 263 ⟨[.ty zm,.ty zm],[.bool],λx=>XU x.1 x.2⟩:=wi t289 rn hN func263 [] zf
def t290:=t289.d zln
theorem zlp:zy Pz 265 ⟨[.ty qq,.ty qq],[.bool],λx=>nf x.1 x.2⟩:=wi t290 (rz [2,3]) hN func265 [] zf
def t291:=t290.d zlp
def Pq:q8:=Lz [] [Mm 1 (.sl qq),.s 2 (.wo 265 []),Mm 15 (.sl qq),Mi 16] ⟨[Mi 17],[],[]⟩ [jF,⟨.ret,⟨[Mb 6],[],[]⟩⟩] λp s=>j3 p.1 (λz0 z1=>nf z0 z1) p.2.2.1 p.2.2.2 s
def zh4:Hints:=Hz [(0,Pq)] [] []
theorem z9h:LO Tryz.f264 Pq 0:=lk t291 rn zh4 [] zf
theorem zlo:zy Pz 264 ⟨[.ty (.sl qq),.ty (.sl qq),.wo 265 []],[.bool],λx=>jv x.1 x.2.1 (λz0 z1=>nf z0 z1)⟩:=wi t291 rn zh4 func264 [0] (qe rfl z9h zf)
def t292:=t291.d zlo
theorem zkE:zy Pz 212 ⟨[.ty zw,.ty zw],[.bool],λx=>Us x.1 x.2⟩:=wi t292 (rz [2,3]) hN func212 [] zf
def t293:=t292.d zkE
def zfR:Tb:=(t293.p zmQ).p z3S
def Oo:q8:=Lz [] [Mr 3 qz,Mi 42] ⟨[Mi 43,.a i64,.v CP,.v (.qs qg),.v CM,.a zw,.a i64,.a i64,.v CL,.a zw,.a i64,.a i64],[(5,.ptr 6 0),(6,.ptr 7 0),(9,.ptr 8 0),(12,.ptr 12 0)],[.dead,.dead,.dead,.arr i64,.dead,.dead,.var CP,.var (.qs qg),.var CM,.arr zw,.arr i64,.arr i64,.var CL,.arr zw,.arr i64,.arr i64]⟩ [⟨.exit 0,⟨[.a i64,.v CP,.v (.qs qg),.v CM,.a zw,.a i64,.a i64,.v CL,.a zw,.a i64,.a i64],[],[.dead,.dead,.dead,.arr i64,.dead,.dead,.var CP,.var (.qs qg),.var CM,.arr zw,.arr i64,.arr i64,.var CL,.arr zw,.arr i64,.arr i64]⟩⟩] λp s=>o9 p.1 p.2 s
def zgs:Hints:=Hz [(0,Oo)] [(0,11,.ways [⟨.normal,⟨[Mb 81,.a i64,.v CP,.v (.qs qg),.v CM,.a zw,.a i64,.a i64,.v CL,.a zw,.a i64,.a i64],[],[.dead,.dead,.dead,.arr i64,.dead,.dead,.var CP,.var (.qs qg),.var CM,.arr zw,.arr i64,.arr i64,.var CL,.arr zw,.arr i64,.arr i64]⟩⟩])] [(4,[1006000,1006001,1006002,1006004,1006005]),(14,[1006003])]
theorem z8k:LO Tryz.f140 Oo 0:=lk zfR (rz [3,4]) zgs [] zf
theorem zjz:xw Pz 140 ⟨[.any,.any,.agg],⟨[Mm 0 qz,Mm 1 qg,.s 2 z5d,.a zm,.a .bool,.a zm,.a i64,.a zk,.a .bool],[],z52⟩,[],⟨[.s 0 (.st [.row 6 zm,.row 7 .bool,.im (.sl zm),.row 8 i64,.row 9 zk,.row 10 .bool]),Mm 1 (.sl .str),Mi 2,.a zm,.a .bool,.a i64,.a zk,.a .bool],[],[.dead,.dead,.dead,.dead,.dead,.dead,.arr zm,.arr .bool,.arr i64,.arr zk,.arr .bool]⟩,3,λx=>ig x.1 x.2.1 x.2.2.1 x.2.2.2.1 x.2.2.2.2.1 x.2.2.2.2.2.1 x.2.2.2.2.2.2.1 x.2.2.2.2.2.2.2.1 x.2.2.2.2.2.2.2.2⟩:=dW zfR (rz [3,4]) zgs func140 [0] (qe rfl z8k zf)
def t294:=t293.s zjz
theorem zqO:zy Pz 76 ⟨[.ty qz,.ty qg,.ty .str,.ty zm],[qg,(.sl .str),i64],λx=>oS x.1 x.2.1 x.2.2.1 x.2.2.2⟩:=wi (t294.d Ro) (rz [4,5,6,7]) hN func76 [] zf
def t295:=t294.d zqO
theorem zjA:zy Pz 141 ⟨[.ty qw,.rp .str],[.bool],λx=>yD x.1 x.2⟩:=wi t295 (rz [2]) hN func141 [] zf
def t296:=t295.d zjA
def I8:q8:=Lz [] [Mm 0 (.sl qw),.s 1 (.wo 141 [.rp .str]),Mi 7] cF [jF,nT] λp s=>vb p.1 (λz0=>yD z0 p.2.1) p.2.2 s
def zbb:Hints:=Hz [(0,I8)] [] []
theorem z2E:LO Tryz.f70 I8 0:=lk t296 rn zbb [] zf
theorem z3W:zy Pz 70 ⟨[.ty (.sl qw),.wo 141 [.rp .str]],[i64],λx=>wh x.1 (λz0=>yD z0 x.2)⟩:=wi t296 rn zbb func70 [0] (qe rfl z2E zf)
def t297:=t296.d z3W
theorem zqP:zy Pz 77 ⟨[.ty qz,.ty qg,.ty .str,.ty .bool],[qg,(.sl .str),i64],λx=>mK x.1 x.2.1 x.2.2.1 x.2.2.2⟩:=wi (t297.d z3W) (rz [4,5,6]) hN func77 [] zf
def t298:=t297.d zqP
theorem zqQ:xw Pz 79 ⟨QJ,⟨[Mi 1,Mi 2,.v (.qs xa)],[(0,.ptr 0 0)],Wi⟩,[],JL,1,λx=>jQ x.1 x.2.1 x.2.2⟩:=dW t298 rn hN func79 [] zf
def t299:=t298.s zqQ
theorem zmR:xw Pz 78 ⟨[.ptr,.wo 37],⟨[.s 1 (.wo 37 []),.v (.qs xa)],[(0,.ptr 0 0)],Wi⟩,[],JL,1,λx=>jd (λz0 z1 z2=>pM z0 z1 z2) x.2⟩:=dW t299 rn hN func78 [] zf
def t300:=t299.s zmR
theorem z3X:xw Pz 78 ⟨[.ptr,.wo 36],⟨[.s 1 (.wo 36 []),.v (.qs xa)],[(0,.ptr 0 0)],Wi⟩,[],JL,1,λx=>jd (λz0 z1 z2=>pL z0 z1 z2) x.2⟩:=dW t300 rn hN func78 [] zf
def t301:=t300.s z3X
theorem zjC:zy Pz 143 ⟨[.ty xy,.rp .str],[.bool],λx=>eb x.1 x.2⟩:=wi t301 (rz [2]) hN func143 [] zf
def t302:=t301.d zjC
def C3:q8:=Lz [] [Mm 0 (.sl xy),.s 1 (.wo 143 [.rp .str]),Mi 7] cF [jF,nT] λp s=>yp p.1 (λz0=>eb z0 p.2.1) p.2.2 s
def z1v:Hints:=Hz [(0,C3)] [] []
theorem TA:LO Tryz.f142 C3 0:=lk t302 rn z1v [] zf
theorem Ru:zy Pz 142 ⟨[.ty (.sl xy),.wo 143 [.rp .str]],[i64],λx=>j4 x.1 (λz0=>eb z0 x.2)⟩:=wi t302 rn z1v func142 [0] (qe rfl TA zf)
def t303:=t302.d Ru
theorem zqS:zy Pz 80 ⟨[.ty qz,.ty (.sl .bool),.ty .str],[i64,i64],λx=>WL x.1 x.2.1 x.2.2⟩:=wi (t303.d Ru) (rz [3,5]) hN func80 [] zf
def t304:=t303.d zqS
def zd6:Hints:=Hz [] [(0,1,.Bg)] []
theorem DW:zy Pz 145 ⟨[.ty (.sl .str)],[(.sl .str)],λx=>wT x⟩:=wi t304 rn zd6 func145 [] zf
def t305:=t304.d DW
theorem zjE:zy Pz 146 ⟨[.ty (.sl .str),.ty (.sl .str),.ty .str],[(.sl .str),(.sl .str),.str],λx=>Zl x.1 x.2.1 x.2.2⟩:=wi (t305.s zbS) rn hN func146 [] zf
def t306:=t305.d zjE
theorem zqT:zy Pz 82 ⟨[.ty jD,.ty .str],[jD,.str,.bool],λx=>Zk x.1 x.2⟩:=wi (t306.d DW) (rz [2]) hN func82 [] zf
def t307:=t306.d zqT
theorem zlA:jI Pz 276 ⟨[.any],z5O,[],Ko,0,387,Wj,none,λx=>uD x⟩:=Yq t307 rn hN func276 [] zf
def t308:=t307.p zlA
theorem zma:jI Pz 321 ⟨[.ptr],⟨[.v (.qs jC)],[(0,.ptr 0 0)],IY⟩,[],⟨[Ms 0,.v (.qs jC)],[],IY⟩,1,387,z5x,none,λx=>bn x⟩:=Yq t308 rn hN func321 [] zf
def t309:=t308.p zma
theorem zls:jI Pz 268 ⟨lM,⟨[Ms 1,.v (.qs jC)],[(0,.ptr 0 0)],IY⟩,[],⟨[Mm 0 (.sl .str),.v (.qs jC)],[],IY⟩,1,387,z5x,none,λx=>wR x.1 x.2⟩:=Yq t309 rn hN func268 [] zf
def t310:=t309.p zls
theorem zlt:jI Pz 269 ⟨[.any],X1,[],⟨[Mm 0 zm],[],[]⟩,1,387,Wj,none,λx=>dw x⟩:=Yq t310 rn hN func269 [] zf
def t311:=t310.p zlt
def Pr:q8:=Lz [.slot 5 zm] [Mm 8 (.sl .str),Mi 9] ⟨[Mi 10,.a zm],[(1,.wo 269 []),(5,.cur 0 zm)],Z3⟩ [⟨.exit 0,⟨[.a zm],[(5,.cur 0 zm)],Z3⟩⟩,⟨.bh (.iface 387 .ve),⟨[Mm 0 .nil,.a zm],[],Z3⟩⟩] λp s=>gL p.1 p.2 s
def zh5:Hints:=Hz [(0,Pr)] [] []
theorem z9i:LO Tryz.f267 Pr 0:=lk t311 rn zh5 [] zf
theorem zlr:jI Pz 267 ⟨[.any,.wo 269],⟨[Mm 0 (.sl .str),.s 1 (.mclo 269 [])],[],[]⟩,[],z5F,1,387,Wj,none,λx=>uT x.1 x.2⟩:=Yq t311 rn zh5 func267 [0] (qe rfl z9i zf)
def t312:=t311.p zlr
theorem zlv:jI Pz 271 ⟨[.any],X1,[],z5O,1,387,Wj,none,λx=>mM x⟩:=Yq t312 rn hN func271 [] zf
def t313:=t312.p zlv
def Pv:q8:=Lz [.slot 5 .bool] [Mm 8 (.sl .str),Mi 9] ⟨[Mi 10,.a .bool],[(1,.wo 271 []),(5,.cur 0 .bool)],[.arr .bool]⟩ [z69,⟨.bh (.iface 387 .ve),⟨[Mm 0 .nil,.a .bool],[],[.arr .bool]⟩⟩] λp s=>gM p.1 p.2 s
def zh6:Hints:=Hz [(0,Pv)] [] []
theorem z9k:LO Tryz.f270 Pv 0:=lk t313 rn zh6 [] zf
theorem zlu:jI Pz 270 ⟨[.any,.wo 271],⟨[Mm 0 (.sl .str),.s 1 (.mclo 271 [])],[],[]⟩,[],z5D,1,387,Wj,none,λx=>uU x.1 x.2⟩:=Yq t313 rn zh6 func270 [0] (qe rfl z9k zf)
def t314:=t313.p zlu
end Go.AM.Lf
namespace Go.AM
open Go.AM.Lf Go.RowKit Go.Proofs
theorem EY(w:World)(e:TypeId)(s:ByteArray):Below w.heap.size w (Go.Lib.bytesWorld w e s):=by
 refine⟨rfl,rfl,rfl,?_,λb I=>Go.Lib.bytesWorld_at_old w e s b I⟩
 simp[Go.Lib.bytesWorld,World.freeze,World.alloc,World.drew,-World.alloc_eq,-World.drew_eq]
theorem Fh:∀ (l:List UInt8) (acc k:Nat),l.length+k<=18->acc<10 ^ k->(∀ b∈l,48<=b.toNat/\b.toNat<=57)->qO acc l=.ok (l.foldl (λn b=>n*10+(b.toNat-48)) acc)
 | [],acc,_,_,_,_=>rfl
 | c::l,acc,k,hk,ha,J=>by
  have h1:=J c qC
  rw[zK]at hk
  have e:=Nat.pow_le_pow_right (show 0<10 by omega) (show k<=17 by omega)
  rw[qO,if_pos h1,if_neg (by omega),if_neg (by omega),Fh l _ (k+1) (by omega) (by rw[Nat.pow_succ]; omega) λb I=>J b (qJ _ I)]
  rfl
theorem zaZ:∀ (l:List UInt8) (acc k:Nat),acc<10 ^ k->(∀ b∈l,48<=b.toNat/\b.toNat<=57)->l.foldl (λn b=>n*10+(b.toNat-48)) acc<10 ^ (k+l.length)
 | [],acc,k,ha,_=>ha
 | c::l,acc,k,ha,J=>by
  have h1:=J c qC
  have:=zaZ l (acc*10+(c.toNat-48)) (k+1) (by rw[Nat.pow_succ]; omega) λb I=>J b (qJ _ I)
  rwa [zK,show k+(l.length+1)=k+1+l.length by omega]
theorem z6T{s:q9}(h0:s≠[])(h1:s.length<=18)(J:∀ b∈s,48<=b.toNat/\b.toNat<=57):Go.Lib.atoiAll s=.ok (dgV s:Int):=by
 cases s with
 | nil=>exact absurd rfl h0
 | cons c r =>
  have hc:=J c qC
  have hp:=Fh (c::r) 0 0 (by omega) (by omega) J
  have R:=zI (zaZ (c::r) 0 0 (by omega) J) (Nat.pow_le_pow_right (show 0<10 by omega) (show 0+(c::r).length<=18 by omega))
  unfold Go.Lib.atoiAll
  simp only[if_neg (show ¬ (c.toNat=43\/c.toNat=45) by omega),Go.Lib.parseMag,if_neg (List.cons_ne_nil c r),hp]
  have hn:¬ c.toNat=45:=by omega
  simp only[hn,not_false_eq_true,true_and,false_and,if_false]
  rw[if_neg (by omega)]
  rfl
theorem zmz:xw Tryz.prog 351 ⟨[.any],X1,[],⟨[.s 0 (.qs i64)],[(1,.ve)],[]⟩,2,λx=>strconv_Atoi x⟩:=by
 intro O x xc y ud hy hI hlen hR
 obtain⟨⟨⟨h0,h1⟩,X⟩,rfl⟩:=hy
 obtain⟨v0,hv0,hd0⟩:=hR.get 0 (.qs .str x) rfl
 have fG:xc.toArray = #[.string ⟨x.toArray⟩]:=by
  match xc,hlen with
  | [a],_ =>
   simp at hv0
   rw[hv0,hd0.jl]
 rw[fG]
 refine .inl ⟨nX Tryz.func351 (by kernel_rfl) rfl O.w,(Go.Proofs.Tryz.strconv_Atoi_ok ⟨x.toArray⟩ (by rw[show(zF ⟨x.toArray⟩)=zH x from Y]; omega) (dgV x:Int) (z6T h0 h1 X) O.w).mono ?_⟩
 rintro e w' ⟨rfl,hw⟩
 have hB:Below O.w.heap.size O.w w':=hw.elim (λh=>h▸ZO _) λ⟨t,h⟩=>h▸EY _ _ _
 obtain⟨g1,g2⟩:=Fz hI ud hB
 refine⟨O.grown w',[.qs i64 (dgV x:Int),.ve],rfl,ud,g1,g2,rfl,_,rfl,.eO _ _ rfl λi h1 X => ?_⟩
 match i with
 | 0=>exact RD.int
 | 1=>exact RD.ve

end Go.AM
namespace Go.AM.Lf
open Go.Proofs Go.Proofs.Tryz
def t315:=t314.s zmz
def zoD:Hints:=Hz [] [(0,1,.ways [⟨.normal,Ko⟩,⟨.bh (.iface 387 .ve),Wj⟩])] []
theorem zmb:jI Pz 322 ⟨[.any],X1,[],z5K,1,387,Wj,none,λx=>mL x⟩:=Yq t315 rn zoD func322 [] zf
def t316:=t315.p zmb
theorem zlx:jI Pz 273 ⟨[.any],X1,[],z5K,1,387,Wj,none,λx=>mN x⟩:=Yq t316 rn hN func273 [] zf
def t317:=t316.p zlx
def Pw:q8:=Lz [.slot 5 i64] [Mm 8 (.sl .str),Mi 9] ⟨[Mi 10,.a i64],[(1,.wo 273 []),(5,.cur 0 i64)],jU⟩ [⟨.exit 0,⟨[.a i64],[(5,.cur 0 i64)],jU⟩⟩,⟨.bh (.iface 387 .ve),⟨[Mm 0 .nil,.a i64],[],jU⟩⟩] λp s=>bf p.1 p.2 s
def zh7:Hints:=Hz [(0,Pw)] [] []
theorem z9l:LO Tryz.f272 Pw 0:=lk t317 rn zh7 [] zf
theorem zlw:jI Pz 272 ⟨[.any,.wo 273],⟨[Mm 0 (.sl .str),.s 1 (.mclo 273 [])],[],[]⟩,[],Np,1,387,Wj,none,λx=>kZ x.1 x.2⟩:=Yq t317 rn zh7 func272 [0] (qe rfl z9l zf)
def t318:=t317.p zlw
def zoG:Hints:=Hz [] [(0,1,.flat [Mb 4])] []
theorem zmH:zy Pz 368 ⟨[.ty .str,.ty .str],[.bool],λx=>ke x.1 x.2⟩:=wi t318 rn zoG func368 [] zf
def t319:=t318.d zmH
theorem zmA:zy Pz 352 ⟨[.ty .str,.ty .str],[.str,.bool],λx=>jZ x.1 x.2⟩:=wi t319 rn hN func352 [] zf
def t320:=t319.d zmA
theorem zmc:zy Pz 323 ⟨[.ty .str,.ty .str],[.str,.bool],λx=>strings_CutSuffix x.1 x.2⟩:=wi t320 rn hN func323 [] zf
def t321:=t320.d zmc
theorem zlz:jI Pz 275 ⟨[.any],X1,[],⟨[Mm 0 zk],[],[]⟩,1,387,Wj,none,λx=>mO x⟩:=Yq t321 rn hN func275 [] zf
def t322:=t321.p zlz
def Px:q8:=Lz [.slot 5 zk] [Mm 8 (.sl .str),Mi 9] ⟨[Mi 10,.a zk],[(1,.wo 275 []),(5,.cur 0 zk)],Nn⟩ [⟨.exit 0,⟨[.a zk],[(5,.cur 0 zk)],Nn⟩⟩,⟨.bh (.iface 387 .ve),⟨[Mm 0 .nil,.a zk],[],Nn⟩⟩] λp s=>yy p.1 p.2 s
def zh8:Hints:=Hz [(0,Px)] [] []
theorem z9m:LO Tryz.f274 Px 0:=lk t322 rn zh8 [] zf
theorem zly:jI Pz 274 ⟨[.any,.wo 275],⟨[Mm 0 (.sl .str),.s 1 (.mclo 275 [])],[],[]⟩,[],z5v,1,387,Wj,none,λx=>jt x.1 x.2⟩:=Yq t322 rn zh8 func274 [0] (qe rfl z9m zf)
def t323:=t322.p zly
theorem zlq:cM (Nt Pz) 266 ⟨[.ptr],⟨[.v (.qs i64)],[(0,.ptr 0 0)],Nj⟩,[],z5H,0,λx=>ij x⟩:=fkr t323 rn hN Tryz.func266
theorem za6:cM (Sw Pz 387) 266 ⟨lM,⟨[Mm 1 .nil,.v (.qs i64)],[(0,.ptr 0 0)],Nj⟩,[],z5H,0,λx=>wH x.1 x.2⟩:=fkh t323 rn hN Tryz.func266 1
theorem zkF:xw Pz 213 ⟨[.any],X1,[],⟨[.s 0 z5d,Mi 1,.a zm,.a .bool,.a zm,.a i64,.a zk,.a .bool],[],z52⟩,2,λx=>oT x⟩:=fkf t323 rn hN (g:=266) (pt:=387) zlq za6 Tryz.func213
def t324:=t323.s zkF
theorem zjD:zy Pz 144 ⟨[.ty qz,.ty .str],[qg,i64],λx=>ta x.1 x.2⟩:=wi t324 (rz [2]) hN func144 [] zf
def t325:=t324.d zjD
theorem zmS:xw Pz 81 ⟨[.ptr,.wo 82],⟨[.s 1 (.wo 82 []),.v (.qs xa)],[(0,.ptr 0 0)],Wi⟩,[],JL,1,λx=>uW (λz0 z1=>Zk z0 z1) x.2⟩:=dW t325 rn hN func81 [] zf
def t326:=t325.s zmS
theorem zqU:zy Pz 83 ⟨[.ty jD,.ty .str],[jD,.str,.bool],λx=>Zj x.1 x.2⟩:=wi (t326.d DW) (rz [2]) hN func83 [] zf
def t327:=t326.d zqU
theorem z3Y:xw Pz 81 ⟨[.ptr,.wo 83],⟨[.s 1 (.wo 83 []),.v (.qs xa)],[(0,.ptr 0 0)],Wi⟩,[],JL,1,λx=>uW (λz0 z1=>Zj z0 z1) x.2⟩:=dW t327 rn hN func81 [] zf
def t328:=t327.s z3Y
theorem zmB:zy Pz 353 ⟨[.ty .str,.ty wM,.ty (.sl zm)],[zm,i64],λx=>Ut x.1 x.2.1 x.2.2⟩:=wi t328 (rz [4]) hN func353 [] zf
def t329:=t328.d zmB
theorem zme:zy Pz 325 ⟨[.ty zm,.ty zm],[zm],λx=>Jn x.1 x.2⟩:=wi t329 (rz [2,3]) hN func325 [] zf
def t330:=t329.d zme
abbrev zfZ:=eo [.ty .expr,.ty wM,.ty (.sl zm)]->T (Et [zm,i64])
abbrev znW(F:zfZ):=zy Pz 324 ⟨[.ty .expr,.ty wM,.ty (.sl zm)],[zm,i64],F⟩
theorem za8(By:zfZ)(z1J:znW By):zy Pz 324 ⟨[.ty .expr,.ty wM,.ty (.sl zm)],[zm,i64],λx=>yg (λy0 y1 y2=>By (y0,y1,y2)) x.1 x.2.1 x.2.2⟩:=wi (t330.d z1J) (rz [3,4]) hN func324 [] zf
theorem zmd:zy Pz 324 ⟨[.ty .expr,.ty wM,.ty (.sl zm)],[zm,i64],λx=>ZM x.1 x.2.1 x.2.2⟩:=Gd (λBy x=>yg (λy0 y1 y2=>By (y0,y1,y2)) x.1 x.2.1 x.2.2) (λx=>rfl) (λBy z1J=>za8 By z1J)
def t331:=t330.d zmd
theorem zlB:zy Pz 277 ⟨[.ty .expr,.ty wM,.ty (.sl zm)],[zm,i64],λx=>Z7 x.1 x.2.1 x.2.2⟩:=wi t331 (rz [3,4]) hN func277 [] zf
def t332:=t331.d zlB
theorem zlC:zy Pz 278 ⟨[.ty zm,.ty zm],[i64],λx=>YE x.1 x.2⟩:=wi t332 (rz [2,3]) hN func278 [] zf
def t333:=t332.d zlC
def zoo:Hints:=Hz [] [(0,3,.flat [Mb 33])] []
theorem zkG:zy Pz 214 ⟨[.ty xm,.ty wM,.ty (.sl zm)],[.bool],λx=>pq x.1 x.2.1 x.2.2⟩:=wi t333 (rz [3,4]) zoo func214 [] zf
def t334:=t333.d zkG
def Ou:q8:=Lz [] [Mr 2 qz,Mr 3 qg,Mi 7,Mm 20 (.sl .bool),Mi 21,Mi 22,Mm 30 (.sl qy),Mi 31] ⟨[Mi 32,.v (.qs wM),.a .str],[(5,.cur 1 .str),(6,.ptr 0 0)],Nk⟩ [⟨.exit 2,z5T⟩] λp s=>l9 p.1 p.2.1 p.2.2.1 p.2.2.2.1 p.2.2.2.2.1 p.2.2.2.2.2.1 p.2.2.2.2.2.2.1 p.2.2.2.2.2.2.2 s
def Ow:q8:=Lz [] [Mr 2 qz,Mr 3 qg,Mi 7,Mm 20 (.sl .bool),Mi 21,Mi 22,Mm 67 (.sl xm),Mi 68] ⟨[Mi 69,.v (.qs wM),.a .str],[(5,.cur 1 .str),(6,.ptr 0 0)],Nk⟩ [⟨.exit 4,z5T⟩] λp s=>lf p.1 p.2.1 p.2.2.1 p.2.2.2.1 p.2.2.2.2.1 p.2.2.2.2.2.1 p.2.2.2.2.2.2.1 p.2.2.2.2.2.2.2 s
def Ot:q8:=Lz [.slot 5 .str] [Mr 2 qz,Mr 3 qg,Mm 20 (.sl .bool),Mi 21] ⟨[Mi 22,.v (.qs wM),.a .str],[(5,.cur 1 .str),(6,.ptr 0 0)],Nk⟩ [⟨.exit 0,z5T⟩] λp s=>l8 p.1 p.2.1 p.2.2.1 p.2.2.2 s
def z7g:Hints:=Hz [(2,Ou),(4,Ow),(0,Ot)] [(0,10,.flat [Mb 59]),(0,16,.ways [⟨.normal,⟨[Mb 83,.v (.qs wM),.a .str,.v (.qs xm)],[(5,.cur 1 .str)],[.var (.qs wM),.arr .str,.var (.qs xm)]⟩⟩])] []
theorem z8n:LO Tryz.f147 Ou 2:=lk t334 (rz [2,3]) z7g [] zf
theorem z8o:LO Tryz.f147 Ow 4:=lk t334 (rz [2,3]) z7g [] zf
theorem z8m:LO Tryz.f147 Ot 0:=lk t334 (rz [2,3]) z7g [2,4] (qe rfl z8n (qe rfl z8o zf))
theorem zjF:zy Pz 147 ⟨[.ty qz,.ty qg],[(.sl .str)],λx=>iX x.1 x.2⟩:=wi t334 (rz [2,3]) z7g func147 [0] (qe rfl z8m zf)
def t335:=t334.d zjF
def Oy:q8:=Lz [.slot 6 ql] [Mr 3 qg,Mm 5 (.sl .bool),Mm 15 (.sl qy),Mi 16] ⟨[Mi 17,.a ql],[(6,.cur 0 ql)],[.arr ql]⟩ [⟨.exit 0,⟨[.a ql],[(6,.cur 0 ql)],[.arr ql]⟩⟩] λp s=>Qw p.1 p.2.1 p.2.2.1 p.2.2.2 s
def zgv:Hints:=Hz [(0,Oy)] [(0,6,.flat [Mb 39]),(3,8,.ways [⟨.normal,⟨[.a ql,.v (.qs qy),.v (.qs zm)],[(6,.cur 0 ql)],[.arr ql,.var (.qs qy),.var (.qs zm)]⟩⟩])] []
theorem z8q:LO Tryz.f149 Oy 0:=lk t335 (rz [2,3]) zgv [] zf
theorem zjH:zy Pz 149 ⟨[.ty qz,.ty qg],[(.sl ql)],λx=>WQ x.1 x.2⟩:=wi t335 (rz [2,3]) zgv func149 [0] (qe rfl z8q zf)
def t336:=t335.d zjH
def Ox:q8:=Lz [.cell 0 1 (.int .u8)] [Mm 6 (.sl ql),Mi 7] ⟨[Mi 8,.v Km,.a (.int .u8)],[(3,.ptr 0 0)],QZ⟩ [Nr] λp s=>mz p.1 p.2 s
def zgu:Hints:=Hz [(0,Ox)] [] []
theorem z8p:LO Tryz.f148 Ox 0:=lk t336 rn zgu [] zf
theorem zjG:zy Pz 148 ⟨[.ty (.sl ql)],[.str],λx=>mV x⟩:=wi t336 rn zgu func148 [0] (qe rfl z8p zf)
def t337:=t336.d zjG
theorem zqV:xw Pz 84 ⟨[.ptr],No,[],JL,1,λx=>kU x⟩:=dW t337 rn hN func84 [] zf
def t338:=t337.s zqV
def h39:Hints:=Hz [] [(3,4,.flat [Mb 27])] []
theorem zqh:xw Pz 39 ⟨lM,z5u,[],JL,1,λx=>gO x.1 x.2⟩:=dW ((((t338.s z3Y).s zmS).s z3X).s zmR) (rz [3]) h39 func39 [] zf
def t339:=t338.s zqh
theorem zaf:cM (Nt Pz) 38 ⟨[.ptr,.ptr,.ptr],⟨[.v (.qs xa),.v (.qs wG),.v (.qs xa)],[(0,.ptr 0 0),(1,.ptr 1 0),(2,.ptr 2 0)],[.var (.qs xa),.cvar (.ptr 3 0),.var (.qs wG),.var (.qs xa)]⟩,[],⟨[.v (.qs xa),.v (.qs wG),.v (.qs xa)],[],[.var (.qs xa),.cvar (.ptr 3 0),.var (.qs wG),.var (.qs xa)]⟩,0,λx=>cN x.1 x.2.1 x.2.2⟩:=fkr t339 rn hN Tryz.func38
theorem zpZ:xw Pz 19 ⟨lM,z5u,[],JL,1,λx=>uA x.1 x.2⟩:=fkf t339 (rz [3]) hN (g:=38) (pt:=0) zaf (zb3 zaf) Tryz.func19
def t340:=t339.s zpZ
def zbJ:q8:=Lz [.slot 5 wG] [Mm 8 (.sl gU),Mi 9] ⟨[Mi 10,.v (.qs xa),.a wG],[(0,.ptr 0 0),(5,.cur 1 wG)],Nh⟩ [⟨.exit 0,⟨[.v (.qs xa),.a wG],[(5,.cur 1 wG)],Nh⟩⟩] λp s=>cd p.1 p.2 s
def h8:Hints:=Hz [(0,zbJ)] [] []
theorem ziU:LO Tryz.f8 zbJ 0:=lk t340 rn h8 [] zf
theorem ok8:xw Pz 8 ⟨lM,⟨[Mm 1 (.sl gU),.v (.qs xa)],[(0,.ptr 0 0)],Wi⟩,[],⟨[.v (.qs xa),.a wG],[(0,.cur 1 wG)],Nh⟩,1,λx=>jG x.1 x.2⟩:=dW t340 rn h8 func8 [0] (qe rfl ziU zf)
def t341:=t340.s ok8
theorem z3L:xw Pz 19 ⟨HH,⟨[Mm 1 gU],[(0,.gx)],[]⟩,[],⟨[Mm 0 wG],[],[]⟩,1,λx=>nq x⟩:=fkf t341 (rz [3]) hN (g:=38) (pt:=0) zaf (zb3 zaf) Tryz.func19
def t342:=t341.s z3L
def zfX:Tb:=t342.s z3L
def Rd:q8:=Lz [.slot 5 wG] [Mm 8 (.sl gU),Mi 9] ⟨[Mi 10,.a wG],[(0,.gx),(5,.cur 0 wG)],[.arr wG]⟩ [⟨.exit 0,⟨[.a wG],[(5,.cur 0 wG)],[.arr wG]⟩⟩] λp s=>eL p.1 p.2 s
def zhw:Hints:=Hz [(0,Rd)] [] []
theorem z9S:LO Tryz.f8 Rd 0:=lk zfX rn zhw [] zf
theorem z3Z:xw Pz 8 ⟨HH,⟨[Mm 1 (.sl gU)],[(0,.gx)],[]⟩,[],⟨[.a wG],[(0,.cur 0 wG)],[.arr wG]⟩,1,λx=>gi x⟩:=dW zfX rn zhw func8 [0] (qe rfl z9S zf)
def t343:=t342.s z3Z
def h7:Hints:=Hz [] [(0,3,.flat [Mb 22]),(0,6,.flat [Mb 0])] []
theorem ok7:zy Pz 7 ⟨[],[.bool],λ_=>yz⟩:=wi ((t343.s z3Z).s ok8) rn h7 func7 [] zf
def t344:=t343.d ok7
end Go.AM.Lf
