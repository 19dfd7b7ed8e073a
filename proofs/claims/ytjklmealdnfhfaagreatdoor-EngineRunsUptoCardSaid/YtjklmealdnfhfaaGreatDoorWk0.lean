/-
  The walk, part 0: each function of the program is the tree that the lifted text says; printed by a program of ours.
-/
import Derived.Test.YtjklmealdnfhfaaGreatDoorProg
import Derived.KernelRfl
import Derived.Test.YtjklmealdnfhfaaGreatDoorAmE
import Derived.Test.YtjklmealdnfhfaaGreatDoorLf1
import Derived.Lib.Builder
import Derived.Shelf.Strings.Builder1
import Derived.WalkKit
import Derived.TacticsInMore
import Derived.Maps.OwnOps
import Derived.Maps.AppendAt
import Derived.StringKeys
import Derived.Maps.Views
import Derived.Shelf.Strings.FieldsFuncAny
import Derived.RangeFuncBox
import Derived.RangeFuncLeaves
import Derived.RangeFuncNested
import Derived.Shelf.Abstract
import Derived.OwnWalkIn
import Derived.LoopNIn
import Derived.LoopIn
import Derived.Lib.AtoiAll
import Derived.Lib.ConvBytes
import Derived.Test.YtjklmealdnfhfaaGreatDoorSh
set_option linter.unusedVariables false
open Go.Obj renaming cells -> B
open List renaming size_toArray -> E, length -> zH, length_cons -> zK, append_toArray -> zS, getElem?_eq_getElem -> zT, push_toArray -> zV, take_succ_eq_append_getElem -> zW, cons_append -> zX, eq_nil_of_length_eq_zero -> zY, length_nil -> zZ, nil_append -> qA, mem_cons_self -> qC, mem_cons_of_mem -> qJ
open Go.Value renaming int -> X, pointer -> zG, bool -> zM, slice -> qM, agg -> qR
open Nat renaming le_refl -> V, lt_of_lt_of_le -> zI, reduceAdd -> qE, reduceSub -> qF, zero_le -> qK
open Option renaming none -> zE, map_eq_some_iff -> qG
open ByteArray renaming size -> zF
open Go.Builtin renaming unsafeSliceData_ -> zJ, append_ -> zU, zeroCells -> qD, unsafeString_ -> qI, firstCells -> qN
open Go.World renaming size_alloc -> zL
open Go.Oper renaming semAt_some -> zN, upon_value -> qH
open Array renaming replicate_succ -> zO, replicate_zero -> zP
open Go.Lib renaming cell_of_heap -> zQ, run_unsafeSliceData_row -> qB, parseUint10 -> qO, pow10Tab -> qP
open Go.KeepsOthers renaming setCell -> zR
open Go.Result renaming andThen -> qL
open Go.Boxed renaming new -> qQ
set_option maxRecDepth 100000
noncomputable section
namespace Go.AM.Lf
open Go.Proofs Go.Proofs.Tryz
abbrev Ia:Nat:=81
noncomputable abbrev Pz:Program:=Tryz.prog
def kS(f:Func):Code:=match f.body with | some c=>c | none=>.skip
def lb(k:Nat)(f:Func):Code:=match V4 k (kS f)with | some c=>c | none=>.skip
theorem mixed:Pz.follows .mixedOrders=true:=by kernel_rfl
instance:yY:={ u8:=5,tab:=[(0,EP .u64 qP),(2,CG .i64)] }
theorem fH{Z:KS}(hI:Inv Z):Lib.TabIs Tryz.prog Z.w "internal/strconv.uint64pow10" .u64 qP :=
 zdg (g:=0) (by kernel_rfl) (hI.gl (0,EP .u64 qP) (by simp[yY.tab])).2
theorem kU{Z:KS}(hI:Inv Z):∃ m,Z.w.cell? ⟨2,0,none⟩=some (.int .i64 m) :=
 RY (hI.gl (2,CG .i64) (by simp[yY.tab])).2
structure Tb where
 t:lE
 ok:eo Pz t
def Tb.d(T:Tb){g:Nat}{d:DD}(h:q8 Pz g d):Tb:=⟨(g,.d d)::T.t,LY h T.ok⟩
def Tb.s(T:Tb){g:Nat}{d:hZ}(h:xw Pz g d):Tb:=⟨(g,.s d)::T.t,FE h T.ok⟩
def Tb.p(T:Tb){g:Nat}{d:lD}(h:jB Pz g d):Tb:=⟨(g,.p d)::T.t,FD h T.ok⟩
def t0:Tb:=⟨[],SX _⟩
def fL:List (Nat×q9)->Nat->Option q9
 | [],_=>none
 | x::r,n=>bif Nat.beq x.1 n then some x.2 else fL r n
def fC:List (Nat×Nat×z50)->Nat->Nat->Option z50
 | [],_,_=>none
 | x::r,k,n=>bif Nat.beq x.1 k&&Nat.beq x.2.1 n then some x.2.2 else fC r k n
def fF:List (Nat×List Nat)->Nat->List Nat
 | [],_=>[]
 | x::r,n=>bif Nat.beq x.1 n then x.2 else fF r n
def Hz(l:List (Nat×q9))(c:List (Nat×Nat×z50))(f:List (Nat×List Nat)):Hints:=⟨fL l,fC c,fF f⟩
def hN:Hints:=Hz [] [] []
def rz(l:List Nat)(s:Nat):Bool:=l.any (Nat.beq s)
def rn(_:Nat):Bool:=false
def Lz(gh:List Gh)(ps:List It)(sh:uq)(ws:List Way)(hl:jR ps->sh.den->T (sh.den⊕fQ ws)):q9:=⟨gh,ps,sh,ws,λp s=>T.loop (hl p) s⟩
abbrev LO(f:Func)(l:q9)(i:Nat):Prop:=VA Pz f.ntmps l (lb i f)
def ls(f:Func):List Nat->List (Nat×Code)
 | []=>[]
 | i::r=>(i,lb i f)::ls f r
abbrev Mi(n:Nat):It:=.s n (.qi i64)
abbrev Mb(n:Nat):It:=.s n (.qi .bool)
abbrev Ms(n:Nat):It:=.s n (.qi .str)
abbrev Mm(n:Nat)(t:Ty):It:=.s n (.qi t)
abbrev Mr(n:Nat)(t:Ty):It:=.s n (.vz t)
abbrev Sh0(l:List It):uq:=⟨l,[],[]⟩
theorem lk{f:Func}{i:Nat}{gh:List Gh}{ps:List It}{sh:uq}{ws:List Way}{hl:jR ps->sh.den->T (sh.den⊕fQ ws)}(T:Tb)(ro:Nat->Bool)(H:Hints)(L:List Nat)(ha:BV Pz f.ntmps H (ls f L))
  (h:∀ p s,z2X (gR Pz Ia T.t ro) T.t f.ntmps H (Lz gh ps sh ws hl) (lb i f) p s=hl p s:=by intro p s; kernel_rfl) (R:u7 (lb i f)=ls f L:=by kernel_rfl):LO f (Lz gh ps sh ws hl) i :=
 z8c (xid:=Ia) (ro:=ro) (H:=H) mixed T.ok (Ub R ha) hl h λ_ _=>rfl
theorem wq{f:Nat}{fn:Func}{d:DD}(T:Tb)(ro:Nat->Bool)(H:Hints)(hf:Pz.funcs[f]? = some fn)(L:List Nat)(ha:BV Pz fn.ntmps H (ls fn L))
  (h:∀ x,z06 (gR Pz Ia T.t ro) T.t H fn (kS fn) d x=d.F x:=by intro x; kernel_rfl) (I:fn.body=some (kS fn):=by rfl) (hn:(fn.name == "runtime.NumGoroutine")=false:=by kernel_rfl) (R:u7 (kS fn)=ls fn L:=by kernel_rfl):q8 Pz f d :=
 zer (xid:=Ia) (ro:=ro) (H:=H) mixed T.ok hf I hn (Ub R ha) h
theorem eC{f:Nat}{fn:Func}{d:hZ}(T:Tb)(ro:Nat->Bool)(H:Hints)(hf:Pz.funcs[f]? = some fn)(L:List Nat)(ha:BV Pz fn.ntmps H (ls fn L))
  (h:∀ x,II (gR Pz Ia T.t ro) T.t H fn (kS fn) d x=d.F x:=by intro x; kernel_rfl) (I:fn.body=some (kS fn):=by rfl) (hn:(fn.name == "runtime.NumGoroutine")=false:=by kernel_rfl) (R:u7 (kS fn)=ls fn L:=by kernel_rfl):xw Pz f d :=
 zbc (xid:=Ia) (ro:=ro) (H:=H) mixed T.ok hf I hn (Ub R ha) h
def hdB(c:Code):Code:=match c with | .seq _ b=>b | _=>.skip
def hdO(c:Code):Array Oper:=match c with | .seq (.region _ ops _) _=>ops | _ => #[]
def hdI(c:Code):Nat:=match c with | .seq (.region id _ _) _=>id | _=>0
theorem fkr{f:Nat}{fn:Func}{d:hZ}(T:Tb)(ro:Nat->Bool)(H:Hints)(hf:Pz.funcs[f]? = some fn)
  (h:∀ x,evH (gR Pz Ia T.t ro) T.t H fn (hdO (kS fn)) (hdB (kS fn)) d d.ks.length none x=d.F x:=by intro x; kernel_rfl) (I:fn.body=some (.seq (.region (hdI (kS fn)) (hdO (kS fn)) false) (hdB (kS fn))):=by kernel_rfl) (hn:(fn.name == "runtime.NumGoroutine")=false:=by kernel_rfl) (R:u7 (hdB (kS fn))=[]:=by kernel_rfl):cD (Mn Pz) f d :=
 z5R (xid:=Ia) (ro:=ro) (H:=H) mixed T.ok hf I hn (KF R) h
theorem fkh{f t:Nat}{fn:Func}{d:hZ}(T:Tb)(ro:Nat->Bool)(H:Hints)(hf:Pz.funcs[f]? = some fn)(k:Nat)
  (h:∀ x,evH (gR Pz Ia T.t ro) T.t H fn (hdO (kS fn)) (hdB (kS fn)) d k (some t) x=d.F x:=by intro x; kernel_rfl) (hk:d.ks.length=k+1:=by kernel_rfl) (I:fn.body=some (.seq (.region (hdI (kS fn)) (hdO (kS fn)) false) (hdB (kS fn))):=by kernel_rfl) (hn:(fn.name == "runtime.NumGoroutine")=false:=by kernel_rfl) (R:u7 (hdB (kS fn))=[]:=by kernel_rfl):cD (R9 Pz t) f d :=
 z5Q (xid:=Ia) (ro:=ro) (H:=H) mixed T.ok hf I hn (KF R) hk h
theorem z9r{g:Nat}{d:hZ}(_:cD (Mn Pz) g d):cD (R9 Pz 0) g { d with F:=λ_=>.fail }:=λ_ _ _ _ _ hy=>hy.elim
theorem fkf{f g pt:Nat}{fn:Func}{d d0 d1:hZ}(T:Tb)(ro:Nat->Bool)(H:Hints)(h0:cD (Mn Pz) g d0)(h1:cD (R9 Pz pt) g d1)(hf:Pz.funcs[f]? = some fn)
  (h:∀ x,z05 (gR Pz Ia T.t ro) T.t H ⟨g,d0,pt,d1⟩ fn (kS fn) d x=d.F x:=by intro x; kernel_rfl) (I:fn.body=some (kS fn):=by rfl) (hn:(fn.name == "runtime.NumGoroutine")=false:=by kernel_rfl) (R:u7 (kS fn)=[]:=by kernel_rfl):xw Pz f d :=
 zba (xid:=Ia) (ro:=ro) (H:=H) mixed T.ok (h:=⟨g,d0,pt,d1⟩) h0 h1 hf I hn R h
theorem Kt{f:Nat}{fn:Func}{d:lD}(T:Tb)(ro:Nat->Bool)(H:Hints)(hf:Pz.funcs[f]? = some fn)(L:List Nat)(ha:BV Pz fn.ntmps H (ls fn L))
  (h:∀ x,IH (gR Pz Ia T.t ro) T.t H fn (kS fn) d x=d.F x:=by intro x; kernel_rfl) (I:fn.body=some (kS fn):=by rfl) (hn:(fn.name == "runtime.NumGoroutine")=false:=by kernel_rfl) (R:u7 (kS fn)=ls fn L:=by kernel_rfl):jB Pz f d :=
 zbb (xid:=Ia) (ro:=ro) (H:=H) mixed T.ok hf I hn (Ub R ha) h
abbrev Vw:Dk:=.st [.row 1 qs,.row 2 qg,.row 3 xp,.row 4 qw,.row 5 xm,.row 6 xj]
abbrev Kl:Dk:=.st [.im (.sl qs),.im (.sl qg),.im (.sl xp),.im (.sl qw),.im (.sl xm),.im (.sl xj),.row 1 zr,.row 2 i64,.row 3 i64]
abbrev su:Dk:=.st [.im (.sl zr),.row 1 i64,.row 2 i64]
abbrev z3x:List Bk:=[.var (.st [.row 10 zl,.row 2 .bool,.row 11 zl,.row 8 i64,.row 6 zm,.row 3 .bool]),.var (.st [.row 12 zl,.row 4 .bool,.row 13 zl,.row 9 i64,.row 7 zm,.row 5 .bool]),.arr .bool,.arr .bool,.arr .bool,.arr .bool,.arr zm,.arr zm,.arr i64,.arr i64,.arr zl,.arr zl,.arr zl,.arr zl]
abbrev Hn:List Bk:=[.var Vw,.arr qs,.arr qg,.arr xp,.arr qw,.arr xm,.arr xj]
abbrev Vv:List Bk:=[.var (.qi xk)]
abbrev Js:Dk:=.st [.op 0 210,.row 1 (.int .u8)]
abbrev z9a:Dk:=.st [.im (.sl qs),.im (.sl qg),.im (.sl xp),.im (.sl qw),.im (.sl xm),.im (.sl xj),.row 0 zr,.row 4 i64,.row 1 i64]
abbrev z9b:Dk:=.st [.im (.sl qs),.im (.sl qg),.im (.sl xp),.im (.sl qw),.im (.sl xm),.im (.sl xj),.row 2 zr,.row 6 i64,.row 3 i64]
abbrev od:Way:=⟨.ret,⟨[Mi 4],[],[]⟩⟩
abbrev PW:uq:=⟨[.v (.st [.row 10 zl,.row 2 .bool,.row 11 zl,.row 8 i64,.row 6 zm,.row 3 .bool]),.v (.st [.row 12 zl,.row 4 .bool,.row 13 zl,.row 9 i64,.row 7 zm,.row 5 .bool]),.a .bool,.a .bool,.a .bool,.a .bool,.a zm,.a zm,.a i64,.a i64,.a zl,.a zl,.a zl,.a zl],[],z3x⟩
abbrev jO:List Bk:=[.arr i64]
abbrev FP:Dk:=.st [.im (.sl zl),.im (.sl .bool),.im (.sl zl),.row 0 i64,.im (.sl zm),.im (.sl .bool)]
abbrev BO:Dk:=.st [.im (.sl qs),.im (.sl qg),.im (.sl xp),.im (.sl qw),.im (.sl xm),.im (.sl xj),.row 13 zr,.row 14 i64,.row 15 i64]
abbrev kL:Way:=⟨.exit 0,⟨[],[],[]⟩⟩
abbrev BP:Dk:=.st [.im (.sl qs),.im (.sl qg),.im (.sl xp),.im (.sl qw),.im (.sl xm),.im (.sl xj),.row 9 zr,.row 10 i64,.row 11 i64]
abbrev tf:uq:=⟨[Mm 0 um,.v (.qi xk)],[],Vv⟩
abbrev BU:uq:=⟨[.s 0 (.sub 0 i64),Mi 1,Mi 2,Mi 3,.s 4 (.wi 287 [.rp (.sl zr)]),.a i64],[],jO⟩
abbrev BQ:Dk:=.st [.im i64,.row 2 qj,.im .bool,.im (.sl u32),.im (.sl u32)]
abbrev BR:Dk:=.st [.im i64,.row 3 qj,.im .bool,.im (.sl u32),.im (.sl u32)]
abbrev cW:uq:=⟨[Mi 8],[],[]⟩
abbrev oj:uq:=⟨[.v (.qi xk)],[(0,.ptr 0 0)],Vv⟩
abbrev z3w:List Bk:=[.var (.qi uy),.var (.st [.row 3 zl,.row 4 .bool,.im (.sl zl),.row 6 i64,.row 7 zm,.row 8 .bool]),.var (.qi xf),.arr zl,.arr .bool,.arr zl,.arr i64,.arr zm,.arr .bool]
abbrev UR:uq:=⟨[Mm 0 xv,.v (.qi qm)],[],[.var (.qi qm)]⟩
abbrev UP:List Bk:=[.var su,.arr i64,.arr i64]
abbrev Qu:uq:=⟨[Mm 0 .expr,.v (.qi xk)],[],Vv⟩
abbrev UQ:List Bk:=[.var Kl,.arr zr,.arr i64,.arr i64]
abbrev PK:List Bk:=[.var (.st [.nl,.nl]),.var (.st [.row 3 zr,.row 4 i64]),.var (.qi wK),.arr zr,.arr i64]
abbrev BS:Dk:=.st [.im (.sl zl),.im (.sl .bool),.im (.sl zl),.row 3 i64,.im (.sl zm),.im (.sl .bool)]
abbrev FQ:Dk:=.st [.row 7 qs,.row 9 qg,.row 11 xp,.row 13 qw,.row 5 xm,.row 3 xj]
abbrev Qv:uq:=⟨[Ms 0],[],[]⟩
abbrev Qt:List Bk:=[.var Js,.arr (.int .u8)]
abbrev PM:List Bk:=[.var (.qi xk),.var (.qi .expr),.var (.qi .expr)]
abbrev BT:Dk:=.st [.im (.sl zr),.row 0 i64,.row 1 i64]
abbrev FR:Dk:=.st [.im (.sl zr),.row 2 i64,.row 3 i64]
abbrev WK:uq:=⟨[.a .str],[(0,.cur 0 .str)],[.arr .str]⟩
abbrev PX:uq:=⟨[Mm 1 (.sl .str),.v Vw,.a qs,.a qg,.a xp,.a qw,.a xm,.a xj],[(0,.ptr 0 0)],Hn⟩
abbrev th:uq:=⟨[.a i64],[],jO⟩
abbrev BN:List Bk:=[.var su,.arr i64,.arr i64,.arr i64]
abbrev FT:uq:=⟨[Mi 1,.v su,.a i64,.a i64],[(0,.ptr 0 0)],UP⟩
abbrev PY:uq:=⟨[Mm 0 .expr,Mi 1,.v (.qi i64)],[(2,.ptr 0 0)],[.var (.qi i64)]⟩
abbrev PZ:uq:=⟨[.v su,.a i64,.a i64,.v .mp],[],[.var su,.arr i64,.arr i64,.var .mp]⟩
abbrev fE:List Bk:=[.arr u32]
abbrev R0:uq:=⟨[Mb 0,.v Vw,.a qs,.a qg,.a xp,.a qw,.a xm,.a xj],[],Hn⟩
abbrev z3y:List Bk:=[.arr i64,.var FP,.arr zr,.arr i64,.var (.st [.un,.un]),.var z9b,.arr i64]
abbrev FU:uq:=⟨[Mi 0,.v su,.a i64,.a i64],[],UP⟩
abbrev z3F:Dk:=.st [.row 3 zl,.row 4 .bool,.im (.sl zl),.row 6 i64,.row 7 zm,.row 8 .bool]
abbrev PT:Dk:=.st [.row 10 zl,.row 2 .bool,.row 11 zl,.row 8 i64,.row 6 zm,.row 3 .bool]
abbrev PU:Dk:=.st [.row 12 zl,.row 4 .bool,.row 13 zl,.row 9 i64,.row 7 zm,.row 5 .bool]
abbrev z3G:Dk:=.st [.row 6 qs,.row 8 qg,.row 10 xp,.row 12 qw,.row 4 xm,.row 2 xj]
abbrev zao:uq:=⟨[.s 0 (.st [.row 0 zl,.row 1 .bool,.im (.sl zl),.row 2 i64,.row 3 zm,.row 4 .bool]),.s 1 (.tight .str),Mi 2,.a zl,.a .bool,.a i64,.a zm,.a .bool],[],[.arr zl,.arr .bool,.arr i64,.arr zm,.arr .bool]⟩
abbrev GF:uq:=⟨[.v Js,.a (.int .u8)],[],Qt⟩
abbrev XC:uq:=⟨[Mm 0 .nil],[],[]⟩
abbrev WJ:List Bk:=[.var (.qi qm)]
abbrev GG:uq:=⟨[.a .str],[(3,.cur 0 .str)],[.arr .str]⟩
abbrev zau:Way:=⟨.normal,⟨[Mm 1 (.sl .str),.v Vw,.a qs,.a qg,.a xp,.a qw,.a xm,.a xj,.v (.qi qw)],[],[.var Vw,.arr qs,.arr qg,.arr xp,.arr qw,.arr xm,.arr xj,.var (.qi qw)]⟩⟩
abbrev FX:uq:=⟨[Mm 1 .expr,.a .str],[(0,.cur 0 .str)],[.arr .str]⟩
abbrev z3z:List Bk:=[.arr zr,.arr i64,.var (.st [.un,.un]),.var z9a,.arr i64]
abbrev R1:uq:=⟨[Mb 0,.v (.qi i64)],[],[.var (.qi i64)]⟩
abbrev z4l:uq:=⟨[Mi 0,.v Vw,.a qs,.a qg,.a xp,.a qw,.a xm,.a xj],[],Hn⟩
abbrev GH:uq:=⟨[Mi 3],[],[]⟩
abbrev z4m:uq:=⟨[Mm 0 um,.v (.qi xk),.v (.qi .expr),.v (.qi .expr)],[],PM⟩
abbrev z3A:List Bk:=[.var (.qi .expr),.var (.qi i64),.var (.qi i64)]
abbrev z3H:Dk:=.st [.row 0 zl,.row 1 .bool,.row 2 zl,.row 3 i64,.row 4 zm,.row 5 .bool]
abbrev R2:uq:=⟨[.v (.qi xk)],[],Vv⟩
abbrev PV:Dk:=.st [.row 3 zr,.row 4 i64]
abbrev zam:List Bk:=[.var z3G,.var FQ,.arr xj,.arr xj,.arr xm,.arr xm,.arr qs,.arr qs,.arr qg,.arr qg,.arr xp,.arr xp,.arr qw,.arr qw]
abbrev z4n:uq:=⟨[Mb 0,.a i64],[],[.cvar (.cur 1 i64),.arr i64]⟩
abbrev z4o:uq:=⟨[.v (.qi wK),.a .str],[(5,.cur 1 .str)],[.var (.qi wK),.arr .str]⟩
abbrev zan:Dk:=.st [.im (.sl qs),.im (.sl qg),.im (.sl xp),.im (.sl qw),.im (.sl xm),.im (.sl xj),.row 2 zr,.row 3 i64,.row 4 i64]
abbrev z4p:uq:=⟨[.s 0 (.sub 0 i64),Mi 10,.a i64],[],jO⟩
abbrev zap:uq:=⟨[Mm 0 (.sl qj),.s 1 (.mclo 342 [.rp (.sl i64),.rp i64,.pt 0]),.a i64],[],[.cvar (.cur 1 i64),.arr i64]⟩
abbrev PN:List Bk:=[.var FR,.var .mp,.arr i64,.arr i64]
abbrev R3:uq:=⟨[Ms 0,Mi 11],[],[]⟩
abbrev FY:Way:=⟨.ret,⟨[Mb 4],[],[]⟩⟩
abbrev z3B:List Bk:=[.arr zl,.arr .bool,.arr zl,.arr i64,.arr zm,.arr .bool]
abbrev PO:List Bk:=[.var (.qi uX),.var (.qi i64)]
abbrev z3I:Dk:=.st [.im (.sl .str),.row 4 .str,.im (.sl zl)]
abbrev zaq:uq:=⟨[Mm 0 (.sl .expr),.s 1 (.mclo 259 [.rp i64,.pt 0]),.v (.qi i64)],[],[.cvar (.ptr 1 0),.var (.qi i64)]⟩
abbrev z4q:uq:=⟨[.v (.qi xk),.v (.qi .expr),.v (.qi .expr)],[],PM⟩
abbrev zar:uq:=⟨[Mm 1 (.sl .str),Ms 2,.v Vw,.a qs,.a qg,.a xp,.a qw,.a xm,.a xj],[(0,.ptr 0 0)],Hn⟩
abbrev zav:Way:=⟨.ret,⟨[Ms 7,Mi 8,.v (.st [.nl,.nl]),.v PV,.v (.qi wK),.a zr,.a i64],[],PK⟩⟩
abbrev z3C:List Bk:=[.var (.qi qm),.var (.qi qm),.arr xv]
abbrev nC:List Bk:=[.arr .str]
abbrev FM:List Bk:=[.var (.qi .expr),.var (.qi .expr)]
abbrev zas:uq:=⟨[.v (.qi uy),.v z3F,.v (.qi xf),.a zl,.a .bool,.a zl,.a i64,.a zm,.a .bool],[],z3w⟩
abbrev z3J:Dk:=.st [.row 2 .str,.row 3 .str,.im (.sl zl)]
abbrev z3D:List Bk:=[.var BQ,.var BR,.arr qj,.arr qj]
abbrev z4z:Way:=⟨.exit 0,⟨[.a u32],[(7,.cur 0 u32)],fE⟩⟩
abbrev PS:List Bk:=[.var (.qi xk),.var (.qi .expr)]
abbrev FN:List Bk:=[.var (.qi jv)]
abbrev lC:List AK:=[.ptr,.any]
abbrev z4r:uq:=⟨[.v Kl,.a zr,.a i64,.a i64],[],UQ⟩
abbrev GD:List Bk:=[.arr (.int .u8)]
abbrev zaw:Way:=⟨.normal,⟨[Mb 16,.v Vw,.a qs,.a qg,.a xp,.a qw,.a xm,.a xj],[],Hn⟩⟩
abbrev R4:Way:=⟨.ret,⟨[Mb 2],[],[]⟩⟩
abbrev z4s:uq:=⟨[Mi 3,Mi 9],[],[]⟩
abbrev z4t:uq:=⟨[.s 0 (.sub 0 i64),.a i64],[],jO⟩
abbrev K8:Way:=⟨.exit 0,Qv⟩
abbrev zat:uq:=⟨[.s 0 (.sub 0 i64),Mi 10,Mi 11,.a i64],[],jO⟩
abbrev z3K:uq:=⟨[.a i64,.v FP,.a zr,.a i64,.v (.st [.un,.un]),.v z9b,.a i64],[],z3y⟩
abbrev z3L:uq:=⟨[.s 0 (.sub 0 i64),Mi 7,Mi 8,.a i64],[],jO⟩
abbrev Mh:uq:=⟨[.a i64],[(0,.cur 0 i64)],jO⟩
abbrev Qe:List AK:=[.ptr,.any,.any]
abbrev z3E:Dk:=.st [.row 1 zl,.row 2 .bool,.row 3 zl,.row 4 i64,.row 5 zm,.row 6 .bool]
abbrev z3M:uq:=⟨[Mb 0,.v (.qi i64)],[],[.cvar (.ptr 1 0),.var (.qi i64)]⟩
abbrev z3N:uq:=⟨[.v su,.a i64,.a i64,.a i64],[(10,.cur 3 i64)],BN⟩
abbrev tD:List Bk:=[.arr zl]
abbrev GC:List Bk:=[.var (.qi uy)]
abbrev z4u:Way:=⟨.ret,⟨[Mb 4,.v Kl,.a zr,.a i64,.a i64],[],UQ⟩⟩
abbrev z3O:uq:=⟨[.v (.st [.nl,.nl]),.v PV,.v (.qi wK),.a zr,.a i64],[],PK⟩
abbrev M8:List Bk:=[.arr i64,.arr i64,.var BT]
abbrev Mj:uq:=⟨[Mm 0 (.sl u32)],[],[]⟩
abbrev z3P:uq:=⟨[.a zr,.a i64,.v (.st [.un,.un]),.v z9a,.a i64],[],z3z⟩
abbrev M9:List Bk:=[.var (.qi qm),.arr xv]
abbrev z3Q:uq:=⟨[.s 0 (.sub 0 i64),Mi 1,.a i64],[],jO⟩
abbrev z3R:uq:=⟨[.s 0 (.sub 0 i64),Mi 7,.a i64],[],jO⟩
abbrev z3S:uq:=⟨[.v (.qi zl),.v (.qi zl)],[],[.var (.qi zl),.var (.qi zl)]⟩
abbrev z3T:uq:=⟨[Mi 15,.a u32],[(7,.cur 0 u32)],fE⟩
abbrev z3U:uq:=⟨[.v (.qi .expr),.v (.qi i64),.v (.qi i64)],[],z3A⟩
abbrev z4v:Way:=⟨.normal,⟨[Mb 16,.a .str],[(0,.cur 0 .str)],nC⟩⟩
abbrev z4w:Way:=⟨.normal,⟨[Mb 44,.v (.qi xk)],[],Vv⟩⟩
abbrev z3V:uq:=⟨[Mm 1 cq,.v (.qi qm)],[(0,.ptr 0 0)],WJ⟩
abbrev z4x:Way:=⟨.exit 0,⟨[.v BQ,.v BR,.a qj,.a qj],[],z3D⟩⟩
abbrev Ma:List Bk:=[.arr i64,.var (.qi zr)]
abbrev Md:List Bk:=[.var (.qi i64)]
abbrev z3t:List Bk:=[.arr zl,.var (.qi zl),.var (.qi zl),.var (.qi zl)]
abbrev z3W:uq:=⟨[.a zm],[(0,.cur 0 zm)],[.arr zm]⟩
abbrev z3X:uq:=⟨[Mi 25,.a .str],[(0,.cur 0 .str)],nC⟩
abbrev z4y:Way:=⟨.exit 0,⟨[.a .bool],[(5,.cur 0 .bool)],[.arr .bool]⟩⟩
abbrev Me:List Bk:=[.var (.qi wK),.arr .str]
abbrev z3Y:uq:=⟨[Mm 0 .nil,.v (.qi jv)],[],FN⟩
abbrev z3Z:uq:=⟨[Ms 0,.v (.qi xk)],[],Vv⟩
abbrev z42:uq:=⟨[Mm 0 qy,Mm 1 xf],[],[]⟩
abbrev z43:uq:=⟨[.s 3 (.sub 0 (.int .u8)),.a (.int .u8)],[],GD⟩
abbrev z3u:List Bk:=[.var su,.arr i64,.arr i64,.var .mp]
abbrev z3v:List Bk:=[.var z3J,.var z3I,.arr .str,.arr .str,.arr .str]
abbrev z45:uq:=⟨[.a (.int .u8)],[(3,.cur 0 (.int .u8))],GD⟩
abbrev z47:uq:=⟨[.v Js,.a (.int .u8)],[(0,.ptr 0 0)],Qt⟩
abbrev z48:uq:=⟨[.a .bool],[(0,.cur 0 .bool)],[.arr .bool]⟩
abbrev z4a:uq:=⟨[.a zl],[(9,.cur 0 zl)],tD⟩
abbrev z4b:uq:=⟨[.a zl],[(0,.cur 0 zl)],tD⟩
abbrev Dj:List AK:=[.any,.any,.ptr]
abbrev z4c:uq:=⟨[.a .str],[(4,.cur 0 .str)],nC⟩
abbrev z4d:uq:=⟨[.v (.qi i64)],[],Md⟩
abbrev z4e:uq:=⟨[Mi 13],[],[]⟩
abbrev z4f:uq:=⟨[Mi 5],[],[]⟩
abbrev Dl:Dk:=.st [.nl,.nl]
abbrev Dm:Dk:=.st [.un,.un]
abbrev z4g:uq:=⟨[Mi 0],[],[]⟩
abbrev z4h:uq:=⟨[Mm 6 (.sl .str)],[],[]⟩
abbrev Mf:List Bk:=[.var (.qi zl)]
abbrev Mk:Way:=⟨.exit 0,GF⟩
abbrev Ml:Way:=⟨.exit 0,R2⟩
abbrev GB:List AK:=[.any,.any]
abbrev z4i:uq:=⟨[Mm 0 qy],[],[]⟩
abbrev Mg:List Bk:=[.arr zm]
abbrev z4j:uq:=⟨[Mb 0],[],[]⟩
abbrev z4k:uq:=⟨[.a (.int .u8)],[],GD⟩
def zme:Hints:=Hz [] [(0,1,.flat [Mb 2])] []
theorem zig:q8 Pz 196 ⟨[.ty (.int .u8)],[.bool],λx=>cx x⟩:=wq t0 rn zme func196 [] zf
def t1:=t0.d zig
def zmq:Hints:=Hz [] [(0,1,.flat [Mb 2])] []
theorem zj7:q8 Pz 257 ⟨[.ty (.int .u8)],[.bool],λx=>ke x⟩:=wq t1 rn zmq func257 [] zf
def t2:=t1.d zj7
theorem zih:q8 Pz 197 ⟨[.ty (.int .u8)],[.bool],λx=>bW x⟩:=wq t2 rn hN func197 [] zf
def t3:=t2.d zih
def Nl:q9:=Lz [] [Ms 0,Mi 18] ⟨[Mi 19],[],[]⟩ [kL,R4] λp s=>ZE p.1 p.2 s
def RI:Hints:=Hz [(0,Nl)] [(0,1,.ways [⟨.normal,⟨[Mb 16],[],[]⟩⟩])] []
theorem z6G:LO Tryz.f128 Nl 0:=lk t3 rn RI [] zf
theorem zhr:q8 Pz 128 ⟨[.ty .str],[.bool],λx=>uQ x⟩:=wq t3 rn RI func128 [0] (qf rfl z6G zf)
def t4:=t3.d zhr
theorem zhq:q8 Pz 127 ⟨[.ty qs],[.bool],λx=>yN x⟩:=wq t4 (rz [1]) hN func127 [] zf
def t5:=t4.d zhq
def N5:q9:=Lz [] [Mm 0 (.sl qs),.s 1 (.wi 127 []),Mi 7] cW [kL,od] λp s=>wY p.1 (λz0=>yN z0) p.2.2 s
def zey:Hints:=Hz [(0,N5)] [] []
theorem z6r:LO Tryz.f100 N5 0:=lk t5 rn zey [] zf
theorem zh4:q8 Pz 100 ⟨[.ty (.sl qs),.wi 127 []],[i64],λx=>wb x.1 (λz0=>yN z0)⟩:=wq t5 rn zey func100 [0] (qf rfl z6r zf)
def t6:=t5.d zh4
theorem zoP:q8 Pz 82 ⟨[.ty (.sl qs),.wi 127 []],[.bool],λx=>vE x.1 (λz0=>yN z0)⟩:=wq t6 rn hN func82 [] zf
def t7:=t6.d zoP
def zmf:Hints:=Hz [] [(0,1,.flat [Mb 2])] []
theorem zii:q8 Pz 198 ⟨[.ty (.sl u32)],[.bool],λx=>ZR x⟩:=wq t7 rn zmf func198 [] zf
def t8:=t7.d zii
def Nt:q9:=Lz [] [] Mj [⟨.exit 0,Mj⟩] λp s=>sQ  s
def zeK:Hints:=Hz [(0,Nt)] [] []
theorem z6N:LO Tryz.f164 Nt 0:=lk t8 rn zeK [] zf
theorem zhT:q8 Pz 164 ⟨[.ty (.sl u32)],[(.sl u32)],λx=>vY x⟩:=wq t8 rn zeK func164 [0] (qf rfl z6N zf)
def t9:=t8.d zhT
def zmn:Hints:=Hz [] [(0,1,.Hb)] []
theorem ziv:q8 Pz 214 ⟨[.ty (.sl u32)],[(.sl u32)],λx=>yf x⟩:=wq t9 rn zmn func214 [] zf
def t10:=t9.d ziv
theorem zhQ:q8 Pz 161 ⟨[.ty (.sl u32)],[(.sl u32)],λx=>iG x⟩:=wq t10 rn hN func161 [] zf
def t11:=t10.d zhQ
def Nk:q9:=Lz [] [Mm 0 (.sl u32),Mm 1 (.sl u32)] z4f [kL,od] λp s=>rI p.1 p.2 s
def zeF:Hints:=Hz [(0,Nk)] [] []
theorem z6F:LO Tryz.f126 Nk 0:=lk t11 rn zeF [] zf
theorem zhp:q8 Pz 126 ⟨[.ty (.sl u32),.ty (.sl u32)],[i64],λx=>sO x.1 x.2⟩:=wq t11 rn zeF func126 [0] (qf rfl z6F zf)
def t12:=t11.d zhp
def zmp:Hints:=Hz [] [(0,1,.flat [Mb 15])] []
theorem zj6:q8 Pz 256 ⟨[.ty u32,.ty u32,.ty u32],[u32,u32],λx=>eM x.1 x.2.1 x.2.2⟩:=wq t12 rn zmp func256 [] zf
def t13:=t12.d zj6
def NB:q9:=Lz [] [Mm 0 (.sl u32),Mm 1 u32] ⟨[Mm 7 u32,Mi 8,.a u32],[(6,.cur 0 u32)],fE⟩ [⟨.exit 0,⟨[Mm 7 u32,.a u32],[(6,.cur 0 u32)],fE⟩⟩] λp s=>oH p.1 p.2 s
def zeP:Hints:=Hz [(0,NB)] [] [(7,[6])]
theorem z6U:LO Tryz.f194 NB 0:=lk t13 rn zeP [] zf
theorem zie:q8 Pz 194 ⟨[.ty (.sl u32),.ty u32],[(.sl u32),u32],λx=>pn x.1 x.2⟩:=wq t13 rn zeP func194 [0] (qf rfl z6U zf)
def t14:=t13.d zie
theorem zp2:q8 Pz 96 ⟨[.ty (.int .u64)],[(.sl u32)],λx=>iB x⟩:=wq t14 rn hN func96 [] zf
def t15:=t14.d zp2
def zmB:Hints:=Hz [] [(3,1,.flat [Mm 0 u32,Mi 2]),(3,4,.flat [Mm 0 u32,Mi 2])] []
theorem zk0:q8 Pz 331 ⟨[.ty u32],[i64],λx=>eN x⟩:=wq t15 rn zmB func331 [] zf
def t16:=t15.d zk0
theorem zji:q8 Pz 273 ⟨[.ty u32],[i64],λx=>kg x⟩:=wq t16 rn hN func273 [] zf
def t17:=t16.d zji
def NX:q9:=Lz [] [Mm 1 (.int .u64),Mi 2,Mm 13 (.sl u32),Mi 14] z3T [z4z] λp s=>Wz p.1 p.2.1 p.2.2.1 p.2.2.2 s
def zf6:Hints:=Hz [(0,NX)] [] []
theorem z7m:LO Tryz.f274 NX 0:=lk t17 rn zf6 [] zf
theorem zab:xw Pz 274 ⟨[.any,.any,.any],⟨[Mm 0 (.sl u32),Mm 1 (.int .u64),Mi 2],[],[]⟩,[],⟨[.a u32],[(0,.cur 0 u32)],fE⟩,1,λx=>rK x.1 x.2.1 x.2.2⟩:=eC t17 rn zf6 func274 [0] (qf rfl z7m zf)
def t18:=t17.s zab
def NY:q9:=Lz [] [Mm 2 u32,Mm 3 u32,Mm 4 u32] ⟨[Mm 12 (.int .u64),Mm 13 (.int .u64)],[],[]⟩ [⟨.exit 0,⟨[Mm 12 (.int .u64)],[],[]⟩⟩] λp s=>iH p.1 p.2.1 p.2.2 s
def zf7:Hints:=Hz [(0,NY)] [(0,3,.flat [Mb 42])] []
theorem z7n:LO Tryz.f275 NY 0:=lk t18 rn zf7 [] zf
theorem zjj:q8 Pz 275 ⟨[.ty u32,.ty u32,.ty u32,.ty u32,.ty u32],[(.int .u64)],λx=>pj x.1 x.2.1 x.2.2.1 x.2.2.2.1 x.2.2.2.2⟩:=wq t18 rn zf7 func275 [0] (qf rfl z7n zf)
def t19:=t18.d zjj
theorem zk1:q8 Pz 332 ⟨[.ty u32,.ty u32,.ty u32],[u32,u32],λx=>kV x.1 x.2.1 x.2.2⟩:=wq t19 rn hN func332 [] zf
def t20:=t19.d zk1
theorem zk2:q8 Pz 333 ⟨[.ty u32,.ty u32,.ty u32],[u32,u32],λx=>eL x.1 x.2.1 x.2.2⟩:=wq t20 rn hN func333 [] zf
def t21:=t20.d zk2
def NZ:q9:=Lz [] [Mm 1 (.sl u32),Mm 2 (.int .u64),Mm 14 (.sl u32),Mi 15] ⟨[.s 0 (.sub 0 u32),Mm 7 (.int .u64),Mm 8 u32,Mi 16,.a u32],[],fE⟩ [⟨.exit 0,⟨[.s 0 (.sub 0 u32),Mm 7 (.int .u64),Mm 8 u32,.a u32],[],fE⟩⟩] λp s=>iI p.1 p.2.1 p.2.2.1 p.2.2.2 s
def O0:q9:=Lz [] [Mm 1 (.sl u32),Mm 62 (.sl u32),Mi 63] ⟨[.s 0 (.sub 0 u32),Mm 11 u32,Mi 64,.a u32],[],fE⟩ [⟨.exit 2,⟨[.s 0 (.sub 0 u32),Mm 11 u32,.a u32],[],fE⟩⟩] λp s=>iJ p.1 p.2.1 p.2.2 s
def zbp:Hints:=Hz [(0,NZ),(2,O0)] [] []
theorem z7o:LO Tryz.f276 NZ 0:=lk t21 rn zbp [] zf
theorem z7p:LO Tryz.f276 O0 2:=lk t21 rn zbp [] zf
theorem zjk:xw Pz 276 ⟨[.sub,.any,.any],⟨[.s 0 (.sub 0 u32),Mm 1 (.sl u32),Mm 2 (.int .u64),.a u32],[],fE⟩,[],⟨[Mb 0,.a u32],[],fE⟩,1,λx=>sP x.1 x.2.1 x.2.2.1 x.2.2.2⟩:=eC t21 rn zbp func276 [0,2] (qf rfl z7o (qf rfl z7p zf))
def t22:=t21.s zjk
def B9:q9:=Lz [] [Mm 1 (.int .u64),Mi 2,Mm 13 (.sl u32),Mi 14] z3T [z4z] λp s=>nh p.1 p.2.1 p.2.2.1 p.2.2.2 s
def z0t:Hints:=Hz [(0,B9)] [] []
theorem Sl:LO Tryz.f274 B9 0:=lk t22 rn z0t [] zf
theorem P8:q8 Pz 274 ⟨[.ty (.sl u32),.ty (.int .u64),.ty i64],[(.sl u32)],λx=>Uk x.1 x.2.1 x.2.2⟩:=wq t22 rn z0t func274 [0] (qf rfl Sl zf)
def t23:=t22.d P8
def ze9:Tb:=t23.d P8
def O1:q9:=Lz [] [Mm 6 (.int .u64),Mm 38 (.sl u32),Mi 39] ⟨[Mi 40,.a u32],[(7,.cur 0 u32)],fE⟩ [z4z] λp s=>iF p.1 p.2.1 p.2.2 s
def zf8:Hints:=Hz [(0,O1)] [] [(17,[7]),(21,[12])]
theorem z7q:LO Tryz.f277 O1 0:=lk ze9 rn zf8 [] zf
theorem zjl:q8 Pz 277 ⟨[.ty (.sl u32),.ty i64],[(.sl u32)],λx=>me x.1 x.2⟩:=wq ze9 rn zf8 func277 [0] (qf rfl z7q zf)
def t24:=t23.d zjl
def ze8:Tb:=t24.s zab
def NF:q9:=Lz [] [Mm 6 (.int .u64),Mm 8 (.sl u32),Mi 9] ⟨[Mi 10,.a u32,.a u32],[(4,.cur 2 u32),(7,.cur 0 u32)],[.arr u32,.dead,.arr u32]⟩ [⟨.exit 0,⟨[.a u32,.a u32],[(4,.cur 2 u32),(7,.cur 0 u32)],[.arr u32,.dead,.arr u32]⟩⟩] λp s=>ni p.1 p.2.1 p.2.2 s
def zeS:Hints:=Hz [(0,NF)] [(3,9,.ways [⟨.normal,⟨[Mm 11 (.int .u64),.a u32,.a u32],[(4,.cur 2 u32),(7,.cur 0 u32)],[.arr u32,.dead,.arr u32]⟩⟩])] [(5,[8]),(12,[4,7])]
theorem z6X:LO Tryz.f215 NF 0:=lk ze8 rn zeS [] zf
theorem ziw:q8 Pz 215 ⟨[.ty (.sl u32),.ty (.sl u32)],[(.sl u32),(.sl u32)],λx=>Ul x.1 x.2⟩:=wq ze8 rn zeS func215 [0] (qf rfl z6X zf)
def t25:=t24.d ziw
theorem zhS:q8 Pz 163 ⟨[.ty (.sl u32),.ty (.sl u32)],[(.sl u32),(.sl u32),.bool],λx=>dy x.1 x.2⟩:=wq t25 rn hN func163 [] zf
def t26:=t25.d zhS
def Ns:q9:=Lz [] [] ⟨[Mm 0 (.sl u32),Mm 1 (.sl u32)],[],[]⟩ [⟨.exit 0,Mj⟩] λp s=>rJ  s
def zeJ:Hints:=Hz [(0,Ns)] [] []
theorem z6M:LO Tryz.f162 Ns 0:=lk t26 rn zeJ [] zf
theorem zhR:q8 Pz 162 ⟨[.ty (.sl u32),.ty (.sl u32)],[(.sl u32)],λx=>XV x.1 x.2⟩:=wq t26 rn zeJ func162 [0] (qf rfl z6M zf)
def t27:=t26.d zhR
def zm7:Hints:=Hz [] [(0,1,.ways [⟨.normal,⟨[Mb 28],[],[]⟩⟩])] []
theorem zht:q8 Pz 130 ⟨[.ty zl],[.bool],λx=>tx x⟩:=wq t27 (rz [1]) zm7 func130 [] zf
def t28:=t27.d zht
def h95:Hints:=Hz [] [(0,2,.flat [Mb 19])] []
theorem zp1:q8 Pz 95 ⟨[.ty .bool,.ty (.sl u32),.ty (.sl u32)],[zl],λx=>rP x.1 x.2.1 x.2.2⟩:=wq t28 rn h95 func95 [] zf
def t29:=t28.d zp1
theorem zog:q8 Pz 41 ⟨[.ty zl],[zl],λx=>vD x⟩:=wq t29 (rz [1]) hN func41 [] zf
def t30:=t29.d zog
def zm8:Hints:=Hz [] [(0,2,.flat [Mb 2])] []
theorem zhu:q8 Pz 131 ⟨[.ty zl],[.bool],λx=>cB x⟩:=wq t30 rn zm8 func131 [] zf
def t31:=t30.d zhu
theorem zhs:q8 Pz 129 ⟨[.ty qg],[.bool],λx=>yO x⟩:=wq t31 (rz [1]) hN func129 [] zf
def t32:=t31.d zhs
def N8:q9:=Lz [] [Mm 0 (.sl qg),.s 1 (.wi 129 []),Mi 7] cW [kL,od] λp s=>uZ p.1 (λz0=>yO z0) p.2.2 s
def zeA:Hints:=Hz [(0,N8)] [] []
theorem z6u:LO Tryz.f108 N8 0:=lk t32 rn zeA [] zf
theorem zhb:q8 Pz 108 ⟨[.ty (.sl qg),.wi 129 []],[i64],λx=>vH x.1 (λz0=>yO z0)⟩:=wq t32 rn zeA func108 [0] (qf rfl z6u zf)
def t33:=t32.d zhb
theorem zoV:q8 Pz 88 ⟨[.ty (.sl qg),.wi 129 []],[.bool],λx=>vP x.1 (λz0=>yO z0)⟩:=wq t33 rn hN func88 [] zf
def t34:=t33.d zoV
theorem zhx:q8 Pz 134 ⟨[.ty .str],[.bool],λx=>iY x⟩:=wq t34 rn hN func134 [] zf
def t35:=t34.d zhx
theorem zhw:q8 Pz 133 ⟨[.ty xp],[.bool],λx=>yP x⟩:=wq t35 (rz [1]) hN func133 [] zf
def t36:=t35.d zhw
def Na:q9:=Lz [] [Mm 0 (.sl xp),.s 1 (.wi 133 []),Mi 7] cW [kL,od] λp s=>yj p.1 (λz0=>yP z0) p.2.2 s
def zeC:Hints:=Hz [(0,Na)] [] []
theorem z6w:LO Tryz.f112 Na 0:=lk t36 rn zeC [] zf
theorem zhf:q8 Pz 112 ⟨[.ty (.sl xp),.wi 133 []],[i64],λx=>uV x.1 (λz0=>yP z0)⟩:=wq t36 rn zeC func112 [0] (qf rfl z6w zf)
def t37:=t36.d zhf
theorem zhv:q8 Pz 132 ⟨[.ty (.sl xp),.wi 133 []],[.bool],λx=>yg x.1 (λz0=>yP z0)⟩:=wq t37 rn hN func132 [] zf
def t38:=t37.d zhv
theorem zoJ:q8 Pz 76 ⟨[.ty qy],[.bool],λx=>ta x⟩:=wq t38 (rz [1]) hN func76 [] zf
def t39:=t38.d zoJ
def zm9:Hints:=Hz [] [(0,1,.flat [Mb 6])] []
theorem zhy:q8 Pz 135 ⟨[.ty i64,.ty i64,.ty i64],[.bool],λx=>iX x.1 x.2.1 x.2.2⟩:=wq t39 rn zm9 func135 [] zf
def t40:=t39.d zhy
def z1S:q9:=Lz [] [Mr 1 qy,Mm 7 (.sl qw),Mi 8] z4s [kL,R4] λp s=>nZ p.1 p.2.1 p.2.2 s
def h77:Hints:=Hz [(0,z1S)] [(0,5,.ways [⟨.normal,⟨[Mb 36,.v (.qi qw)],[],[.var (.qi qw)]⟩⟩])] []
theorem zcw:LO Tryz.f77 z1S 0:=lk t40 (rz [1]) h77 [] zf
theorem zoK:q8 Pz 77 ⟨[.ty qy],[.bool],λx=>oS x⟩:=wq t40 (rz [1]) h77 func77 [0] (qf rfl zcw zf)
def t41:=t40.d zoK
theorem zhz:q8 Pz 136 ⟨[],[(.sl .str)],λ_=>bE⟩:=wq t41 rn hN func136 [] zf
def t42:=t41.d zhz
def zmw:Hints:=Hz [] [(3,2,.flat [Mb 4])] []
theorem zjN:q8 Pz 310 ⟨[.ty i64],[i64],λx=>XO x⟩:=wq t42 rn zmw func310 [] zf
def t43:=t42.d zjN
def Ok:q9:=Lz [] [Mm 1 (.sl u32),Mi 6,Mm 7 u32,Mm 21 (.sl u32),Mi 22,Mi 23,Mm 28 (.sl u32),Mi 29] ⟨[Mm 8 (.int .u64),Mi 30,.a u32],[(5,.cur 0 u32)],fE⟩ [⟨.exit 2,⟨[Mm 8 (.int .u64),.a u32],[(5,.cur 0 u32)],fE⟩⟩] λp s=>Vb p.1 p.2.1 p.2.2.1 p.2.2.2.1 p.2.2.2.2.1 p.2.2.2.2.2.1 p.2.2.2.2.2.2.1 p.2.2.2.2.2.2.2 s
def Oj:q9:=Lz [] [Mm 1 (.sl u32),Mm 21 (.sl u32),Mi 22] ⟨[Mi 23,.a u32],[(5,.cur 0 u32)],fE⟩ [⟨.exit 0,⟨[.a u32],[(5,.cur 0 u32)],fE⟩⟩] λp s=>Va p.1 p.2.1 p.2.2 s
def zbr:Hints:=Hz [(2,Ok),(0,Oj)] [] [(16,[5])]
theorem z7J:LO Tryz.f330 Ok 2:=lk t43 rn zbr [] zf
theorem z7I:LO Tryz.f330 Oj 0:=lk t43 rn zbr [2] (qf rfl z7J zf)
theorem zjZ:q8 Pz 330 ⟨[.ty (.sl u32),.ty (.sl u32)],[(.sl u32)],λx=>iA x.1 x.2⟩:=wq t43 rn zbr func330 [0] (qf rfl z7I zf)
def t44:=t43.d zjZ
def NW:q9:=Lz [] [Mi 5] ⟨[Mm 3 (.sl u32),Mi 6],[],[]⟩ [⟨.exit 0,⟨[Mm 3 (.sl u32)],[],[]⟩⟩] λp s=>WU p s
def zf5:Hints:=Hz [(0,NW)] [] []
theorem z7l:LO Tryz.f272 NW 0:=lk t44 rn zf5 [] zf
theorem zjh:q8 Pz 272 ⟨[.ty i64],[(.sl u32)],λx=>VN x⟩:=wq t44 rn zf5 func272 [0] (qf rfl z7l zf)
def t45:=t44.d zjh
theorem zhn:q8 Pz 124 ⟨[.ty zl],[.str],λx=>QN x⟩:=wq t45 (rz [1]) hN func124 [] zf
def t46:=t45.d zhn
def NC:q9:=Lz [] [] ⟨[.s 0 (.sub 0 (.int .u8)),Mi 2,Mi 3,.a (.int .u8)],[],GD⟩ [⟨.exit 0,z4k⟩] λp s=>jb  s
def zeQ:Hints:=Hz [(0,NC)] [] []
theorem z6V:LO Tryz.f195 NC 0:=lk t46 rn zeQ [] zf
theorem zif:xw Pz 195 ⟨[.sub],⟨[.s 0 (.sub 0 (.int .u8)),.a (.int .u8)],[],GD⟩,[],z4k,0,λx=>kl x.1 x.2⟩:=eC t46 rn zeQ func195 [0] (qf rfl z6V zf)
def t47:=t46.s zif
def Ni:q9:=Lz [] [Mm 4 (.sl u32)] ⟨[Mm 5 u32,Mi 19,.a (.int .u8)],[(3,.cur 0 (.int .u8))],GD⟩ [⟨.exit 2,z45⟩] λp s=>iD p s
def Nh:q9:=Lz [.slot 3 (.int .u8)] [] ⟨[Mm 0 (.sl u32),.a (.int .u8)],[(3,.cur 0 (.int .u8))],GD⟩ [⟨.exit 0,z45⟩] λp s=>iC  s
def Nj:q9:=Lz [] [] z43 [⟨.exit 4,z43⟩] λp s=>iE  s
def z5E:Hints:=Hz [(2,Ni),(0,Nh),(4,Nj)] [(0,13,.flat [Mb 42])] []
theorem z6D:LO Tryz.f125 Ni 2:=lk t47 rn z5E [] zf
theorem z6C:LO Tryz.f125 Nh 0:=lk t47 rn z5E [2] (qf rfl z6D zf)
theorem z6E:LO Tryz.f125 Nj 4:=lk t47 rn z5E [] zf
theorem zho:q8 Pz 125 ⟨[.ty (.sl u32)],[.str],λx=>mc x⟩:=wq t47 rn z5E func125 [0,4] (qf rfl z6C (qf rfl z6E zf))
def t48:=t47.d zho
theorem zkB:q8 Tryz.prog 378 ⟨[.ty .str,.ty i64],[.str],λx=>strings_Repeat x.1 x.2⟩:=by
 refine jC Tryz.func378 (by kernel_rfl) rfl λZ x xb y hy hI ha => ?_
 obtain⟨s,n⟩:=x
 obtain⟨⟨h0,h1,M⟩,hy⟩:=hy
 cases hy
 obtain⟨v0,r,rfl,Kw,ha⟩:=wN.cons_inv (show wN Z [.qi .str s,.qi i64 n] xb from ha)
 obtain⟨v1,r,rfl,IQ,ha⟩:=ha.cons_inv
 rw[ha.we,Kw.jc,IQ.dO]
 obtain⟨m,rfl⟩:=Int.eq_ofNat_of_zero_le h0
 refine(Go.Proofs.Tryz.strings_Repeat ⟨s.toArray⟩ m Z.w (by simp only at h1; omega) (by rw[show(zF ⟨s.toArray⟩)=zH s from E]; simpa using M)).mono ?_
 rintro e w' ⟨rfl,hB⟩
 refine⟨hB,λ_=>⟨_,rfl,?_⟩⟩
 have e1:Lib.repeatL s m=D2 s m:=Pp s m
 have e2:(Int.toNat (m:Int))=m:=by omega
 show RD _ (.qi .str (D2 s (Int.toNat (m:Int)))) _
 rw[e2,<- e1]
 exact RD.str
def t49:=t48.d zkB
theorem zkk:q8 Pz 353 ⟨[.ty .str,.ty i64],[.str],λx=>sB x.1 x.2⟩:=wq t49 rn hN func353 [] zf
def t50:=t49.d zkk
def Oh:q9:=Lz [] [] ⟨[Mi 10,.v (.qi zl)],[(1,.ptr 0 0)],Mf⟩ [⟨.exit 0,⟨[.v (.qi zl)],[],Mf⟩⟩,⟨.ret,⟨[Ms 2,Mb 3,.v (.qi zl)],[],Mf⟩⟩] λp s=>Zq  s
def zfj:Hints:=Hz [(0,Oh)] [] []
theorem z7G:LO Tryz.f313 Oh 0:=lk t50 rn zfj [] zf
theorem zjQ:q8 Pz 313 ⟨[.ty zl],[.str,.bool],λx=>tL x⟩:=wq t50 rn zfj func313 [0] (qf rfl z7G zf)
def t51:=t50.d zjQ
def zmx:Hints:=Hz [] [(0,1,.ways [⟨.normal,⟨[Mb 15],[],[]⟩⟩])] []
theorem zjO:q8 Pz 311 ⟨[.ty zl],[.bool],λx=>ZF x⟩:=wq t51 (rz [1]) zmx func311 [] zf
def t52:=t51.d zjO
theorem zjP:q8 Pz 312 ⟨[.ty zl],[.bool],λx=>mX x⟩:=wq t52 (rz [1]) hN func312 [] zf
def t53:=t52.d zjP
theorem zj8:q8 Pz 258 ⟨[.ty .expr],[.bool],λx=>mW x⟩:=wq t53 (rz [1]) hN func258 [] zf
def t54:=t53.d zj8
abbrev GQ:=uq.den PY->T (uq.den R1)
abbrev Ra(F:GQ):=xw Pz 199 ⟨Dj,PY,[],R1,1,F⟩
theorem zj9(yB:GQ)(sJ:Ra yB):xw Pz 259 ⟨Dj,⟨[Mm 0 .expr,Mr 1 i64,.v (.qi i64)],[(2,.ptr 0 0)],[.cvar (.ptr 1 0),.var (.qi i64)]⟩,[],z3M,1,λx=>mG (λy0 y1 y2=>yB (y0,y1,y2)) x.1 x.2.1 x.2.2⟩:=eC (t54.s sJ) (rz [3]) hN func259 [] zf
def ze7(yB:GQ)(sJ:Ra yB):Tb:=t54.s (zj9 _ sJ)
def Nr(yB:GQ):q9:=Lz [] [Mm 0 (.sl .expr),Mi 7] ⟨[.s 1 (.mclo 259 [.rp i64,.pt 0]),Mi 8,.v (.qi i64)],[],[.cvar (.ptr 1 0),.var (.qi i64)]⟩ [⟨.exit 0,⟨[.v (.qi i64)],[],[.cvar (.ptr 1 0),.var (.qi i64)]⟩⟩,⟨.ret,⟨[Mi 4,.v (.qi i64)],[],[.cvar (.ptr 1 0),.var (.qi i64)]⟩⟩] λp s=>wT (λy0 y1 y2=>yB (y0,y1,y2)) p.1 p.2 s
def zeI(yB:GQ):Hints:=Hz [(0,Nr yB)] [] []
theorem z6L(yB:GQ)(sJ:Ra yB):LO Tryz.f151 (Nr yB) 0:=lk (ze7 yB sJ) rn (zeI yB) [] zf
theorem zhM(yB:GQ)(sJ:Ra yB):xw Pz 151 ⟨[.any,.wi 259],zaq,[],⟨[Mi 0,.v (.qi i64)],[],[.cvar (.ptr 1 0),.var (.qi i64)]⟩,1,λx=>vj (λy0 y1 y2=>yB (y0,y1,y2)) x.1 x.2.1 x.2.2⟩:=eC (ze7 yB sJ) rn (zeI yB) func151 [0] (qf rfl (z6L yB sJ) zf)
theorem zoY(yB:GQ)(sJ:Ra yB):xw Pz 91 ⟨[.any,.wi 259],zaq,[],z3M,1,λx=>wS (λy0 y1 y2=>yB (y0,y1,y2)) x.1 x.2.1 x.2.2⟩:=eC (t54.s (zhM _ sJ)) rn hN func91 [] zf
def zmg(yB:GQ):Hints:=Hz [] [(0,2,.ways [⟨.normal,⟨[Mb 24,.v (.qi i64)],[],[.var (.qi i64),.cvar (.ptr 0 0)]⟩⟩])] []
theorem z8n(yB:GQ)(sJ:Ra yB):xw Pz 199 ⟨Dj,PY,[],R1,1,λx=>il (λy0 y1 y2=>yB (y0,y1,y2)) x.1 x.2.1 x.2.2⟩:=eC (t54.s (zoY _ sJ)) (rz [3,4]) (zmg yB) func199 [] zf
theorem zij:xw Pz 199 ⟨Dj,PY,[],R1,1,λx=>ZG x.1 x.2.1 x.2.2⟩:=Kv (λyB x=>il (λy0 y1 y2=>yB (y0,y1,y2)) x.1 x.2.1 x.2.2) (λx=>rfl) (λyB sJ=>z8n yB sJ)
def t55:=t54.s zij
theorem zhA:q8 Pz 137 ⟨[.ty .expr],[.bool],λx=>ik x⟩:=wq t55 (rz [1]) hN func137 [] zf
def t56:=t55.d zhA
theorem zhD:q8 Pz 140 ⟨[],[(.sl .str)],λ_=>kX⟩:=wq t56 rn hN func140 [] zf
def t57:=t56.d zhD
theorem zhC:q8 Pz 139 ⟨[.ty xm],[.bool],λx=>kW x⟩:=wq t57 (rz [1]) hN func139 [] zf
def t58:=t57.d zhC
def ND:q9:=Lz [] [Mm 0 (.sl xm),.s 1 (.wi 139 []),Mi 7] cW [kL,od] λp s=>cU p.1 (λz0=>kW z0) p.2.2 s
def zeR:Hints:=Hz [(0,ND)] [] []
theorem z6W:LO Tryz.f200 ND 0:=lk t58 rn zeR [] zf
theorem zik:q8 Pz 200 ⟨[.ty (.sl xm),.wi 139 []],[i64],λx=>gZ x.1 (λz0=>kW z0)⟩:=wq t58 rn zeR func200 [0] (qf rfl z6W zf)
def t59:=t58.d zik
theorem zhB:q8 Pz 138 ⟨[.ty (.sl xm),.wi 139 []],[.bool],λx=>yh x.1 (λz0=>kW z0)⟩:=wq t59 rn hN func138 [] zf
def t60:=t59.d zhB
def z1T:q9:=Lz [] [Mr 1 qy,Mm 7 (.sl xj),Mi 8] z4s [kL,R4] λp s=>nX p.1 p.2.1 p.2.2 s
def h78:Hints:=Hz [(0,z1T)] [(0,5,.ways [⟨.normal,⟨[Mb 50,.v (.qi xj)],[],[.var (.qi xj)]⟩⟩])] []
theorem zcx:LO Tryz.f78 z1T 0:=lk t60 (rz [1]) h78 [] zf
theorem zoL:q8 Pz 78 ⟨[.ty qy],[.bool],λx=>oR x⟩:=wq t60 (rz [1]) h78 func78 [0] (qf rfl zcx zf)
def t61:=t60.d zoL
end Go.AM.Lf
namespace Go.Proofs
section
open Go.RowKit
attribute [local go_sem] zN
set_option maxRecDepth 100000
set_option maxHeartbeats 2000000
theorem QB.size:(Tryz.prog.info? 210).map (·.size)=some 2:=by kernel_rfl
theorem QB.pt:Tryz.prog.underlying 207=some (.pointer 210):=by kernel_rfl
theorem QB.up:Tryz.prog.underlying 336=some .unsafePointer:=by kernel_rfl
theorem QB.used(b:Nat)(w:World)(h0:w.cell? ⟨b,0,none⟩=some (.pointer (some ⟨b,0,none⟩))) :
  Calls Tryz.prog 201 #[.pointer (some ⟨b,0,none⟩)] w λe w'=>e=.returned (.tuple #[])/\w'=w:=by
 obtain⟨j,hj,hjs⟩:=qG.1 QB.size
 go_enter Tryz.func201,Tryz.ntmps201
 go_wp2
 rw[Lib.run_neq_ptr_same w _ QB.pt hj]
 go_wp2
 go_end0
 exact⟨rfl,rfl⟩
theorem QB.fresh(b:Nat)(w:World)(h0:w.cell? ⟨b,0,none⟩=some (.pointer none))(hsh:w.shape? b=some (210,2))(hfz:w.frozen? ⟨b,0,none⟩=false) :
  Calls Tryz.prog 201 #[.pointer (some ⟨b,0,none⟩)] w λe w'=>e=.returned (.tuple #[])/\w'=w.setCell ⟨b,0,none⟩ (.pointer (some ⟨b,0,none⟩)):=by
 obtain⟨j,hj,hjs⟩:=qG.1 QB.size
 go_enter Tryz.func201,Tryz.ntmps201
 go_wp2
 rw[Lib.run_to_unsafe w ⟨b,0,none⟩ QB.pt QB.up hj (by rw[hjs]; decide) hsh (Nat.zero_lt_succ 1)]
 simp only[qL]
 rw[qH]
 go_wp2
 rw[run_callFunc_extern Tryz.func260 (by kernel_rfl) (by kernel_rfl) (by kernel_rfl) (e:=Extern.AbiNoEscape.same) (by kernel_rfl)]
 rw[Lib.run_noEscape]
 simp only[qL]
 rw[qH]
 go_wp2
 rw[Lib.run_from_unsafe w ⟨b,0,none⟩ QB.up QB.pt hj hsh (by kernel_rfl)]
 simp only[qL]
 rw[qH]
 go_wp2
 go_end0
 exact⟨rfl,rfl⟩
end
end Go.Proofs

namespace Go.AM.Lf
open Go.Proofs Go.Proofs.Tryz
theorem zil:xw Tryz.prog 201 ⟨[.ptr],z47,[],GF,0,λx=>tn x.1 x.2⟩:=Ca (P:=Tryz.prog) (g:=201) (t:=210) (enters_of Tryz.func201 (by kernel_rfl) rfl) QB.used QB.fresh
def t62:=t61.s zil
theorem zhE:xw Pz 141 ⟨lC,⟨[Ms 1,.v Js,.a (.int .u8)],[(0,.ptr 0 0)],Qt⟩,[.pcell 0 1 (.int .u8)],⟨[Mi 0,.v Js,.a (.int .u8)],[(1,.v8)],Qt⟩,2,λx=>xo x.1 x.2.1 x.2.2⟩:=eC t62 rn hN func141 [] zf
def t63:=t62.s zhE
theorem zoD:q8 Pz 70 ⟨[.ty zl],[.str],λx=>gx x⟩:=wq t63 rn hN func70 [] zf
def t64:=t63.d zoD
theorem zhG:q8 Pz 143 ⟨[.ty .str],[.str],λx=>sa x⟩:=wq t64 rn hN func143 [] zf
def t65:=t64.d zhG
theorem zoA:q8 Tryz.prog 67 ⟨[.ty i64],[.str],λx=>strconv_Itoa x⟩:=by
 refine jC Tryz.func67 (by kernel_rfl) rfl λZ n xb y hy hI ha => ?_
 obtain⟨⟨h0,h1⟩,hy⟩:=hy
 cases hy
 obtain⟨v0,r,rfl,Kw,ha⟩:=wN.cons_inv (show wN Z [.qi i64 n] xb from ha)
 rw[ha.we,Kw.dO]
 refine(Go.Proofs.Tryz.strconv_Itoa n h0 h1 Z.w (fH hI)).mono ?_
 rintro e w' ⟨rfl,k,os,rfl⟩
 refine⟨Ik _ _ _,λ_=>⟨_,rfl,?_⟩⟩
 have e1:Lib.itoa n=Yu n:=z1b n
 show RD _ (.qi .str (Yu n)) _
 rw[<- e1]
 exact RD.str
def t66:=t65.d zoA
def zmh:Hints:=Hz [] [(3,2,.flat [Ms 3])] []
theorem zim:q8 Pz 202 ⟨[.ty qw],[.str],λx=>sZ x⟩:=wq t66 (rz [1]) zmh func202 [] zf
def t67:=t66.d zim
def zmy:Hints:=Hz [] [(3,2,.flat [Mb 5]),(3,5,.flat [Mb 8])] []
theorem zjS:q8 Pz 315 ⟨[.ty .expr],[i64],λx=>lU x⟩:=wq t67 (rz [1]) zmy func315 [] zf
def t68:=t67.d zjS
abbrev z5b:=dV [.ty .expr]->T (Dq [.str])
abbrev zdZ(F:z5b):=q8 Pz 261 ⟨[.ty .expr],[.str],F⟩
theorem zjR(QC:z5b)(Ev:zdZ QC):q8 Pz 314 ⟨[.ty .expr,.ty i64],[.str],λx=>du (λy0=>QC (y0)) x.1 x.2⟩:=wq (t68.d Ev) (rz [2]) hN func314 [] zf
def zmr(QC:z5b):Hints:=Hz [] [(3,2,.ways [⟨.normal,⟨[Ms 3],[],[]⟩⟩,⟨.ret,⟨[Ms 2],[],[]⟩⟩])] []
theorem z8q(QC:z5b)(Ev:zdZ QC):q8 Pz 261 ⟨[.ty .expr],[.str],λx=>gL (λy0=>QC (y0)) x⟩:=wq (t68.d (zjR _ Ev)) (rz [1]) (zmr QC) func261 [] zf
theorem zja:q8 Pz 261 ⟨[.ty .expr],[.str],λx=>ZH x⟩:=Yi (λQC x=>gL (λy0=>QC (y0)) x) (λx=>rfl) (λQC Ev=>z8q QC Ev)
def t69:=t68.d zja
theorem zin:q8 Pz 203 ⟨[.ty .expr],[.str],λx=>rf x⟩:=wq t69 (rz [1]) hN func203 [] zf
def t70:=t69.d zin
theorem zhH:q8 Pz 144 ⟨[.ty .expr,.ty .str,.ty .expr],[.str],λx=>ny x.1 x.2.1 x.2.2⟩:=wq t70 (rz [3,5]) hN func144 [] zf
def t71:=t70.d zhH
def Nn:q9:=Lz [] [Mi 2,Mr 4 qy,Mm 29 (.sl qw),Mi 30] ⟨[Mi 31,.v Js,.a (.int .u8)],[(0,.ptr 0 0)],Qt⟩ [Mk] λp s=>o6 p.1 p.2.1 p.2.2.1 p.2.2.2 s
def No:q9:=Lz [] [Mi 2,Mm 45 (.sl xj),Mi 46] ⟨[Mi 47,.v Js,.a (.int .u8)],[(0,.ptr 0 0)],Qt⟩ [⟨.exit 2,GF⟩] λp s=>o7 p.1 p.2.1 p.2.2 s
def zbh:Hints:=Hz [(0,Nn),(2,No)] [] []
theorem z6H:LO Tryz.f142 Nn 0:=lk t71 (rz [4]) zbh [] zf
theorem z6I:LO Tryz.f142 No 2:=lk t71 (rz [4]) zbh [] zf
theorem zhF:xw Pz 142 ⟨Qe,⟨[Mm 1 qy,Mi 2,.v Js,.a (.int .u8)],[(0,.ptr 0 0)],Qt⟩,[.pcell 0 1 (.int .u8)],GF,0,λx=>oT x.1 x.2.1 x.2.2.1 x.2.2.2⟩:=eC t71 (rz [4]) zbh func142 [0,2] (qf rfl z6H (qf rfl z6I zf))
def t72:=t71.s zhF
end Go.AM.Lf
namespace Go.Proofs
section
open Go.RowKit
attribute [local go_sem] zN
set_option maxRecDepth 100000
set_option maxHeartbeats 2000000
theorem QB.mixed:Tryz.prog.follows .mixedOrders=true:=by kernel_rfl
theorem QB.pb:Tryz.prog.underlying 278=some (.pointer 5):=by kernel_rfl
theorem QB.c5:Tryz.prog.cellsOf 5=1:=by kernel_rfl
theorem QB.z2p(zk:World)(q:Option Addr):(qI #[278,3] 9 #[.pointer q,.int .i64 0]).run Tryz.prog zk=.ok (.string .empty) zk:=Lib.run_unsafeString_none zk _ _ _ q
theorem QB.nil(b:Nat)(p:Value)(w:World)(hbk:w.heap[b]? = some (.cells #[p,.slice none 0 0] 210 (0,0))) :
  Calls Tryz.prog 145 #[.pointer (some ⟨b,0,none⟩)] w λe w'=>e=.returned (.string ⟨#[]⟩)/\w'=w.drew:=by
 have hUS:=QB.z2p
 have c1:w.drew.cell? ⟨b,1,none⟩=some (.slice none 0 0):=by
  have:w.drew.heap[b]? = some (.cells #[p,.slice none 0 0] 210 (0,0)):=hbk
  rw[zQ this]; rfl
 have hSD:(zJ #[208] 278 #[.slice none 0 0]).run Tryz.prog w.drew=.ok (.pointer none) w.drew:=rfl
 have mixed:Tryz.prog.follows .mixedOrders=true:=QB.mixed
 go_enter Tryz.func145,Tryz.ntmps145
 go_wp2
 go_region_o
 all_goals (go_wp2; go_ret; exact⟨rfl,rfl⟩)
theorem QB.room(b g o cap:Nat)(p:Value)(w:World)(hc0:cap≠0)(hbk:w.heap[b]? = some (.cells #[p,.slice (some ⟨g,o,none⟩) 0 cap] 210 (0,0))) :
  Calls Tryz.prog 145 #[.pointer (some ⟨b,0,none⟩)] w λe w'=>e=.returned (.string ⟨#[]⟩)/\w'=w.drew:=by
 have hUS:=QB.z2p
 have c1:w.drew.cell? ⟨b,1,none⟩=some (.slice (some ⟨g,o,none⟩) 0 cap):=by
  have:w.drew.heap[b]? = some (.cells #[p,.slice (some ⟨g,o,none⟩) 0 cap] 210 (0,0)):=hbk
  rw[zQ this]; rfl
 have hSD:(zJ #[208] 278 #[.slice (some ⟨g,o,none⟩) 0 cap]).run Tryz.prog w.drew=.ok (.pointer (some ⟨g,o,none⟩)) w.drew :=
  qB _ _ _ _ _ _ hc0
 clear hc0
 have mixed:Tryz.prog.follows .mixedOrders=true:=QB.mixed
 go_enter Tryz.func145,Tryz.ntmps145
 go_wp2
 go_region_o
 all_goals (go_wp2; go_ret; exact⟨rfl,rfl⟩)
theorem QB.full(b g cap:Nat)(p:Value)(cur:Array Value)(l:List UInt8)(w:World)(h0:l≠[])(jg:l.length<=cap)(hmax:l.length<=140737488355328)(hbk:w.heap[b]? = some (.cells #[p,.slice (some ⟨g,0,none⟩) l.length cap] 210 (0,0)))
  (hg:w.heap[g]? = some (.cells cur 5 (0,0))) (zbz:l.length<=cur.size) (eD:∀ j x,l[j]? = some x->w.cell? ⟨g,j,none⟩=some (.int .u8 x.toNat)) :
  Calls Tryz.prog 145 #[.pointer (some ⟨b,0,none⟩)] w λe w'=>e=.returned (.string ⟨l.toArray⟩)/\w'=w.drew.freeze ⟨g,0,none⟩ l.length:=by
 have hl0:l.length≠0:=by simpa using h0
 have c1:w.drew.cell? ⟨b,1,none⟩=some (.slice (some ⟨g,0,none⟩) l.length cap):=by
  have:w.drew.heap[b]? = some (.cells #[p,.slice (some ⟨g,0,none⟩) l.length cap] 210 (0,0)):=hbk
  rw[zQ this]; rfl
 have hSD:(zJ #[208] 278 #[.slice (some ⟨g,0,none⟩) l.length cap]).run Tryz.prog w.drew=.ok (.pointer (some ⟨g,0,none⟩)) w.drew :=
  qB _ _ _ _ _ _ (by omega)
 have hUS:(qI #[278,3] 9 #[.pointer (some ⟨g,0,none⟩),.int .i64 l.length]).run Tryz.prog w.drew=.ok (.string ⟨l.toArray⟩) (w.drew.freeze ⟨g,0,none⟩ l.length):=by
  refine Lib.run_unsafeString_row w.drew 278 3 9 5 QB.pb QB.c5 g cur.size (by have hg':w.drew.heap[g]? = some (.cells cur 5 (0,0)):=hg; simp[World.shape?,hg']) l h0 (by omega) (by omega) ?_
  intro j x N
  have e:(⟨g,0,none⟩:Addr).add j=⟨g,j,none⟩:=by unfold Addr.add; split<;>simp_all
  rw[e]
  exact eD j x N
 have mixed:Tryz.prog.follows .mixedOrders=true:=QB.mixed
 go_enter Tryz.func145,Tryz.ntmps145
 go_wp2
 go_region_o
 all_goals (go_wp2; go_ret; exact⟨rfl,rfl⟩)
theorem QB.zcN(b g o:Nat)(p:Value)(cur:Array Value)(w:World)(hbk:w.heap[b]? = some (.cells #[p,.slice (some ⟨g,o,none⟩) 0 0] 210 (0,0)))(hg:w.heap[g]? = some (.cells cur 5 (0,0))) :
  Calls Tryz.prog 145 #[.pointer (some ⟨b,0,none⟩)] w λe w'=>e=.returned (.string ⟨#[]⟩)/\w'=w.drew.alloc (.view ⟨g,o,none⟩ 5):=by
 have hUS:=QB.z2p
 have wM:b<w.heap.size:=by
  rcases Nat.lt_or_ge b w.heap.size with h' | h'
  ·exact h'
  ·simp[Array.getElem?_eq_none h']at hbk
 have c1:w.drew.cell? ⟨b,1,none⟩=some (.slice (some ⟨g,o,none⟩) 0 0):=by
  have:w.drew.heap[b]? = some (.cells #[p,.slice (some ⟨g,o,none⟩) 0 0] 210 (0,0)):=hbk
  rw[zQ this]; rfl
 have hSD:(zJ #[208] 278 #[.slice (some ⟨g,o,none⟩) 0 0]).run Tryz.prog w.drew=.ok (.pointer (some ⟨w.drew.heap.size,0,none⟩)) (w.drew.alloc (.view ⟨g,o,none⟩ 5)) :=
  Lib.run_unsafeSliceData_zero w.drew _ _ 5 QB.pb ⟨g,o,none⟩ 0 (5,cur.size) (by have hg':w.drew.heap[g]? = some (.cells cur 5 (0,0)):=hg; simp[World.shape?,hg'])
 have c2:(w.drew.alloc (.view ⟨g,o,none⟩ 5)).cell? ⟨b,1,none⟩=some (.slice (some ⟨g,o,none⟩) 0 0):=by
  have:(w.drew.alloc (.view ⟨g,o,none⟩ 5)).heap[b]? = _:=(Lib.alloc_old w.drew _ b wM).trans hbk
  rw[zQ this]; rfl
 have c3:(w.alloc (.view ⟨g,o,none⟩ 5)).drew.cell? ⟨b,1,none⟩=some (.slice (some ⟨g,o,none⟩) 0 0):=c2
 have c0:w.cell? ⟨b,1,none⟩=some (.slice (some ⟨g,o,none⟩) 0 0):=c1
 have mixed:Tryz.prog.follows .mixedOrders=true:=QB.mixed
 go_enter Tryz.func145,Tryz.ntmps145
 go_wp2
 go_region_o
 all_goals (go_wp2; go_ret; exact⟨rfl,rfl⟩)
end
end Go.Proofs

namespace Go.AM.Lf
open Go.Proofs Go.Proofs.Tryz
theorem zhI:xw Tryz.prog 145 ⟨[.ptr],z47,[],⟨[Ms 0,.v (.st [.op 0 210,.un])],[],[.var (.st [.op 0 210,.un]),.dead]⟩,1,λx=>pD x.1 x.2⟩:=SU (P:=Tryz.prog) (g:=145) (t:=210) (enters_of Tryz.func145 (by kernel_rfl) rfl) QB.nil QB.room QB.full QB.zcN
def t73:=t72.s zhI
def z1U:q9:=Lz [.cell 0 1 (.int .u8)] [Mr 1 qy,Mm 13 (.sl qs),Mi 14] ⟨[Mi 15,.v Js,.a (.int .u8)],[(3,.ptr 0 0)],Qt⟩ [Mk] λp s=>rZ p.1 p.2.1 p.2.2 s
def z1V:q9:=Lz [] [Mr 1 qy,Mm 29 (.sl qg),Mi 30] ⟨[Mi 31,.v Js,.a (.int .u8)],[(3,.ptr 0 0)],Qt⟩ [⟨.exit 2,GF⟩] λp s=>s6 p.1 p.2.1 p.2.2 s
def z1W:q9:=Lz [] [Mr 1 qy,Mi 48] ⟨[Mi 49,.v Js,.a (.int .u8)],[(3,.ptr 0 0)],Qt⟩ [⟨.exit 4,GF⟩] λp s=>s7 p.1 p.2 s
def z1X:q9:=Lz [] [Mm 57 (.sl xm),Mi 58] ⟨[Mi 59,.v Js,.a (.int .u8)],[(3,.ptr 0 0)],Qt⟩ [⟨.exit 6,GF⟩] λp s=>s9 p.1 p.2 s
def h79:Hints:=Hz [(0,z1U),(2,z1V),(4,z1W),(6,z1X)] [(3,6,.flat [Ms 6])] []
theorem zcy:LO Tryz.f79 z1U 0:=lk t73 (rz [1]) h79 [] zf
theorem zcz:LO Tryz.f79 z1V 2:=lk t73 (rz [1]) h79 [] zf
theorem zcA:LO Tryz.f79 z1W 4:=lk t73 (rz [1]) h79 [] zf
theorem zcB:LO Tryz.f79 z1X 6:=lk t73 (rz [1]) h79 [] zf
theorem zoM:q8 Pz 79 ⟨[.ty qy],[.str],λx=>nw x⟩:=wq t73 (rz [1]) h79 func79 [0,2,4,6] (qf rfl zcy (qf rfl zcz (qf rfl zcA (qf rfl zcB zf))))
def t74:=t73.d zoM
theorem zo8:q8 Pz 33 ⟨[.ty qy],[.bool],λx=>Za x⟩:=wq t74 (rz [1]) hN func33 [] zf
def t75:=t74.d zo8
def z1B:q9:=Lz [.slot 3 .str] [Mr 1 qy,Mm 17 (.sl qs),Mi 18] ⟨[Mi 19,.a .str],[(3,.cur 0 .str)],nC⟩ [⟨.exit 0,GG⟩] λp s=>pO p.1 p.2.1 p.2.2 s
def z1C:q9:=Lz [] [Mr 1 qy,Mm 30 (.sl qg),Mi 31] ⟨[Mi 32,.a .str],[(3,.cur 0 .str)],nC⟩ [⟨.exit 2,GG⟩] λp s=>pP p.1 p.2.1 p.2.2 s
def z1D:q9:=Lz [] [Mr 1 qy,Mm 43 (.sl xp),Mi 44] ⟨[Mi 45,.a .str],[(3,.cur 0 .str)],nC⟩ [⟨.exit 4,GG⟩] λp s=>pQ p.1 p.2.1 p.2.2 s
def z1E:q9:=Lz [] [Mr 1 qy,Mm 56 (.sl qw),Mi 57] ⟨[Mi 58,.a .str],[(3,.cur 0 .str)],nC⟩ [⟨.exit 6,GG⟩] λp s=>pR p.1 p.2.1 p.2.2 s
def z1F:q9:=Lz [] [Mr 1 qy,Mm 69 (.sl xm),Mi 70] ⟨[Mi 71,.a .str],[(3,.cur 0 .str)],nC⟩ [⟨.exit 8,GG⟩] λp s=>pS p.1 p.2.1 p.2.2 s
def Ot:q9:=Lz [] [Mm 82 (.sl xj),Mi 83] ⟨[Mi 84,.a .str],[(3,.cur 0 .str)],nC⟩ [⟨.exit 10,GG⟩] λp s=>pT p.1 p.2 s
def h35:Hints:=Hz [(0,z1B),(2,z1C),(4,z1D),(6,z1E),(8,z1F),(10,Ot)] [] []
theorem zcf:LO Tryz.f35 z1B 0:=lk t75 (rz [1]) h35 [] zf
theorem zcg:LO Tryz.f35 z1C 2:=lk t75 (rz [1]) h35 [] zf
theorem zch:LO Tryz.f35 z1D 4:=lk t75 (rz [1]) h35 [] zf
theorem zci:LO Tryz.f35 z1E 6:=lk t75 (rz [1]) h35 [] zf
theorem zcj:LO Tryz.f35 z1F 8:=lk t75 (rz [1]) h35 [] zf
theorem z7P:LO Tryz.f35 Ot 10:=lk t75 (rz [1]) h35 [] zf
theorem zoa:q8 Pz 35 ⟨[.ty qy],[(.sl .str)],λx=>sy x⟩:=wq t75 (rz [1]) h35 func35 [0,2,4,6,8,10] (qf rfl zcf (qf rfl zcg (qf rfl zch (qf rfl zci (qf rfl zcj (qf rfl z7P zf))))))
def t76:=t75.d zoa
end Go.AM.Lf
namespace Go.Proofs
section
open Go.RowKit Go.Maps Go.WideMaps
attribute [local go_sem] zN
set_option maxRecDepth 100000
set_option maxHeartbeats 2000000
/-- What a map reads as when texts,all different,came. -/
def TW.Seen(D:DataW Unit)(l:List (List UInt8)):Prop:=IsMap D/\∀ s:List UInt8,D.atKey (.string s) (.lit (.int .i64 0))=.lit (.int .i64 (if s∈l then 1 else 0))
theorem TW.zl0:TW.Seen (.map []) []:=⟨⟨_,rfl⟩,λs=>by simp only[List.not_mem_nil,if_false]; rfl⟩
theorem TW.step{D:DataW Unit}{l:List (List UInt8)}{s:List UInt8}(h:TW.Seen D l)(hk:WideAt.IsKeyLit (.string s)):TW.Seen (D.put (.string s) (.lit (.int .i64 1))) (l++[s]):=by
 refine⟨h.1.put _ _,λx => ?_⟩
 by_cases c:x=s
 ·subst c
  rw[atKey_put_same h.1 hk,if_pos (by simp)]
 ·rw[atKey_put_other (λe=>c (by cases e; rfl)),h.2 x]
  congr 3
  simp[c]
theorem TW.cOf{D:DataW Unit}{l:List (List UInt8)}{s:List UInt8}{c:Int}(h:TW.Seen D l)(IS:D.atKey (.string s) (.lit (.int .i64 0))=.lit (.int .i64 c)):c=if s∈l then 1 else 0:=by
 rw[h.2 s]at IS
 cases IS; rfl
theorem TW.key:Keyed Tryz.prog 9:=string_keyed Tryz.underlying9
theorem TW.R5(w:World):(zeroValue 3).run Tryz.prog w=.ok (.int .i64 0) w:=by kernel_rfl
theorem TW.zero(a:Option Addr)(cap:Nat)(w:World):Calls Tryz.prog 34 #[.slice a 0 cap] w λe w'=>e=.returned (.tuple #[.string ⟨#[]⟩,.bool false])/\Below w.heap.size w w':=by
 have hmm := @run_makeMap Tryz.prog
 go_enter Tryz.func34,Tryz.ntmps34
 go_wp2
 refine wp_loop_rounds 1 ?_
 rw[rounds_succ]
 go_wp2
 go_ret2
 exact⟨rfl,(Below.refl _ _).alloc (V _) _⟩
theorem TW.more(b off cap:Nat)(l:List (List UInt8))(w:World)(Jb:l.length*16<=140737488351232)(I:b<w.heap.size)
  (hc:∀ j (hj:j<l.length),w.cell? ⟨b,off+j,none⟩=some (.string ⟨l[j].toArray⟩)) (bM:∀ s∈l,s.length<=maxLen) :
  Calls Tryz.prog 34 #[.slice (some ⟨b,off,none⟩) l.length cap] w λe w'=>e=.returned (.tuple #[.string ⟨(Go.AM.Lf.twR [] l).1.toArray⟩,.bool (Go.AM.Lf.twR [] l).2])/\Below w.heap.size w w':=by
 have hmm := @run_makeMap Tryz.prog
 go_enter Tryz.func34,Tryz.ntmps34
 go_wp2
 go_loopw [10] (λi wr=>∃ (k:Nat) (D:DataW Unit),k<=l.length/\i=.int .i64 k/\wr.ownsMap Tryz.prog 9 (plainElem Tryz.prog 3) w.heap.size k D/\TW.Seen D (l.take k)/\Go.AM.Lf.twR [] l=Go.AM.Lf.twR (l.take k) (l.drop k)/\Below w.heap.size w wr)
  (λi _=>l.length-(intOf i).toNat)
 case atStart=>exact⟨0,.map [],qK _,rfl,World.ownsMap_made _ _ _ _,TW.zl0,rfl,(Below.refl _ _).alloc (V _) _⟩
 case round =>
  obtain⟨k,D,hk,rfl,hown,EI,htw,Du⟩:=hrel
  obtain⟨s,hs⟩:∃ s:List UInt8,s=l.getD k []:=⟨_,rfl⟩
  have hse:∀ wM:k<l.length,s=l[k]:=λwM=>by rw[hs]; simp[wM]
  have hcx:k<l.length->wr.cell? ⟨b,off+k,none⟩=some (.string ⟨s.toArray⟩):=λwM=>by rw[hse wM]; exact(Du.cell (by exact I)).trans (hc k wM)
  have hlen:s.length<=maxLen:=by
   by_cases wM:k<l.length
   ·rw[hse wM]; exact bM _ (List.getElem_mem wM)
   ·rw[hs]; simp[wM]
  have L3:keyOf Tryz.prog 9 (.string ⟨s.toArray⟩)=some (.string s):=keyOf_string_mk Tryz.underlying9 (by exact hlen)
  have hkl:WideAt.IsKeyLit (.string s):=TW.key.key L3
  have EA:∀ wM:k<l.length,l.drop k=s::l.drop (k+1):=λwM=>by rw[hse wM]; exact List.drop_eq_getElem_cons wM
  have HQ:∀ wM:k<l.length,l.take (k+1)=l.take k++[s]:=λwM=>by rw[hse wM]; exact zW wM
  clear hse hs
  by_cases Ja:s∈l.take k
  ·have z0R:∀ wM:k<l.length,Go.AM.Lf.twR [] l=(s,true):=λwM=>by rw[htw,EA wM]; unfold Go.AM.Lf.twR; rw[if_pos Ja]
   go_wp2_with (first
    | (at_lookup; refine wpList_lookup_own_int _ rfl _ _ 146 rfl 9 3 .i64 TW.key Tryz.underlying146 Tryz.underlying3 (TW.R5 _) w.heap.size k _ rfl hown _ _ rfl L3 ?_; intro c IS hwc; obtain rfl:c=1:=by rw[TW.cOf EI IS,if_pos Ja])
    | (at_mapUpdate; refine wpList_mapUpdate_own _ rfl _ _ _ 146 rfl 9 3 TW.key Tryz.underlying146 _ w.heap.size k _ rfl hown (by unfold maxLen; omega) _ _ _ rfl rfl L3 _ [] (plainElem_int (a:=2) Tryz.underlying3 rfl) ?_; intro w1 MS IY)
    | (at_lookup; refine wpList_lookup_own_int _ rfl _ _ 146 rfl 9 3 .i64 TW.key Tryz.underlying146 Tryz.underlying3 (TW.R5 _) w.heap.size (k+1) _ rfl MS _ _ rfl L3 ?_; intro c2 z0I znK; obtain rfl:c2=2:=by rw[atKey_put_same EI.1 hkl]at z0I; cases z0I; rfl)
    | go_in)
   ·have wM:k<l.length:=by assumption
    go_ret2
    rw[z0R wM]
    exact⟨rfl,Du.grown IY Du.size (λj hj=>by cases hj; exact V _)⟩
   ·have:k=l.length:=by omega
    subst this
    rw[List.drop_length]at htw
    go_ret2
    rw[htw]
    exact⟨rfl,Du⟩
  ·have hgo:∀ wM:k<l.length,Go.AM.Lf.twR [] l=Go.AM.Lf.twR (l.take (k+1)) (l.drop (k+1)):=λwM=>by
    rw[htw,EA wM,HQ wM]
    conv=>lhs; unfold Go.AM.Lf.twR
    rw[if_neg Ja]
   go_wp2_with (first
    | (at_lookup; refine wpList_lookup_own_int _ rfl _ _ 146 rfl 9 3 .i64 TW.key Tryz.underlying146 Tryz.underlying3 (TW.R5 _) w.heap.size k _ rfl hown _ _ rfl L3 ?_; intro c IS hwc; obtain rfl:c=0:=by rw[TW.cOf EI IS,if_neg Ja])
    | (at_mapUpdate; refine wpList_mapUpdate_own _ rfl _ _ _ 146 rfl 9 3 TW.key Tryz.underlying146 _ w.heap.size k _ rfl hown (by unfold maxLen; omega) _ _ _ rfl rfl L3 _ [] (plainElem_int (a:=1) Tryz.underlying3 rfl) ?_; intro w1 MS IY)
    | (at_lookup; refine wpList_lookup_own_int _ rfl _ _ 146 rfl 9 3 .i64 TW.key Tryz.underlying146 Tryz.underlying3 (TW.R5 _) w.heap.size (k+1) _ rfl MS _ _ rfl L3 ?_; intro c2 z0I znK; obtain rfl:c2=1:=by rw[atKey_put_same EI.1 hkl]at z0I; cases z0I; rfl)
    | go_in)
   ·have wM:k<l.length:=by assumption
    go_roundw
    case rel=>exact⟨k+1,_,by omega,by go_num,MS,(HQ wM).symm▸TW.step EI hkl,hgo wM,Du.grown IY Du.size (λj hj=>by cases hj; exact V _)⟩
    case measure=>simp[intOf]; omega
   ·have:k=l.length:=by omega
    subst this
    rw[List.drop_length]at htw
    go_ret2
    rw[htw]
    exact⟨rfl,Du⟩
end
end Go.Proofs
namespace Go.AM.Lf
open Go.Proofs Go.Proofs.Tryz
theorem zo9:q8 Tryz.prog 34 ⟨[.ty (.sl .str)],[.str,.bool],λx=>sA x⟩:=by
 refine jC Tryz.func34 (by kernel_rfl) rfl λZ (l:List zx) xb y hy hI ha => ?_
 obtain⟨⟨h0,h1⟩,hy⟩:=hy
 cases hy
 obtain⟨v0,r,rfl,Kw,ha⟩:=wN.cons_inv (show wN Z [.qi (.sl .str) l] xb from ha)
 rw[ha.we]
 have hv:=RD.jF (Z:=Z) (τ:=.sl .str) (x:=l) Kw rfl
 rcases hv.tA with⟨rfl,a,e⟩ | ⟨blk,off,cap,g,e,j3,jg,hg,hc⟩
 ·cases e
  refine(TW.zero a 0 Z.w).mono ?_
  rintro e w' ⟨rfl,hB⟩
  exact⟨hB,λ_=>⟨_,rfl,RD.z8Y RD.str RD.bool⟩⟩
 ·cases e
  refine(TW.more blk off cap l Z.w h0 (hI.bN blk j3) (λj hj => ?_) h1).mono ?_
  ·have h3:=hc j hj 0 (.string ⟨l[j].toArray⟩) (by rw[(hg j hj).jc]; rfl)
   simpa[Ty.size]using h3
  ·rintro e w' ⟨rfl,hB⟩
   exact⟨hB,λ_=>⟨_,rfl,RD.z8Y RD.str RD.bool⟩⟩
end Go.AM.Lf

namespace Go.AM.Lf
open Go.Proofs Go.Proofs.Tryz
def t77:=t76.d zo9
theorem zoQ:q8 Pz 83 ⟨[.ty qs,.rp .str],[.bool],λx=>vU x.1 x.2⟩:=wq t77 (rz [2]) hN func83 [] zf
def t78:=t77.d zoQ
def HY:q9:=Lz [] [Mm 0 (.sl qs),.s 1 (.wi 83 [.rp .str]),Mi 7] cW [kL,od] λp s=>wY p.1 (λz0=>vU z0 p.2.1) p.2.2 s
def z0i:Hints:=Hz [(0,HY)] [] []
theorem S8:LO Tryz.f100 HY 0:=lk t78 rn z0i [] zf
theorem OT:q8 Pz 100 ⟨[.ty (.sl qs),.wi 83 [.rp .str]],[i64],λx=>wb x.1 (λz0=>vU z0 x.2)⟩:=wq t78 rn z0i func100 [0] (qf rfl S8 zf)
def t79:=t78.d OT
theorem z2A:q8 Pz 82 ⟨[.ty (.sl qs),.wi 83 [.rp .str]],[.bool],λx=>vE x.1 (λz0=>vU z0 x.2)⟩:=wq (t79.d OT) rn hN func82 [] zf
def t80:=t79.d z2A
theorem zoO:q8 Pz 81 ⟨[.ty .str,.rp qy],[.bool],λx=>jQ x.1 x.2⟩:=wq (t80.d z2A) (rz [2]) hN func81 [] zf
def t81:=t80.d zoO
def z1Z:q9:=Lz [] [Mm 0 (.sl .str),.s 1 (.wi 81 [.rp qy]),Mi 7] cW [kL,od] λp s=>uN p.1 (λz0=>jQ z0 p.2.1) p.2.2 s
def h80:Hints:=Hz [(0,z1Z)] [] []
theorem zcD:LO Tryz.f80 z1Z 0:=lk t81 rn h80 [] zf
theorem zoN:q8 Pz 80 ⟨[.ty (.sl .str),.wi 81 [.rp qy]],[i64],λx=>wU x.1 (λz0=>jQ z0 x.2)⟩:=wq t81 rn h80 func80 [0] (qf rfl zcD zf)
def t82:=t81.d zoN
def z1G:q9:=Lz [.slot 4 .str] [Mr 1 qy,Mm 11 (.sl xp),Mi 12] ⟨[Mi 13,.a .str],[(4,.cur 0 .str)],nC⟩ [⟨.exit 0,z4c⟩] λp s=>eU p.1 p.2.1 p.2.2 s
def z1H:q9:=Lz [] [Mr 1 qy,Mm 24 (.sl xm),Mi 25] ⟨[Mi 26,.a .str],[(4,.cur 0 .str)],nC⟩ [⟨.exit 2,z4c⟩] λp s=>eV p.1 p.2.1 p.2.2 s
def h36:Hints:=Hz [(0,z1G),(2,z1H)] [] []
theorem zck:LO Tryz.f36 z1G 0:=lk t82 (rz [1]) h36 [] zf
theorem zcl:LO Tryz.f36 z1H 2:=lk t82 (rz [1]) h36 [] zf
theorem zob:q8 Pz 36 ⟨[.ty qy],[.str,.bool],λx=>eH x⟩:=wq t82 (rz [1]) h36 func36 [0,2] (qf rfl zck (qf rfl zcl zf))
def t83:=t82.d zob
def Nq:q9:=Lz [] [Mm 0 (.sl .str),Ms 1,Mi 7] cW [kL,od] λp s=>gu p.1 p.2.1 p.2.2 s
def zeH:Hints:=Hz [(0,Nq)] [] []
theorem z6K:LO Tryz.f148 Nq 0:=lk t83 rn zeH [] zf
theorem zhJ:q8 Pz 148 ⟨[.ty (.sl .str),.ty .str],[i64],λx=>wE x.1 x.2⟩:=wq t83 rn zeH func148 [0] (qf rfl z6K zf)
def t84:=t83.d zhJ
theorem zoU:q8 Pz 87 ⟨[.ty (.sl .str),.ty .str],[.bool],λx=>wL x.1 x.2⟩:=wq t84 rn hN func87 [] zf
def t85:=t84.d zoU
abbrev Rg:=uq.den FX->T (uq.den WK)
abbrev zaC(F:Rg):=xw Pz 147 ⟨[.cur,.any],FX,[],WK,1,F⟩
def ze6(eZ:Rg)(JG:zaC eZ):Tb:=t85.s JG
def Np(eZ:Rg):q9:=Lz [] [Mm 23 (.sl .expr),Mi 24] z3X [⟨.exit 0,WK⟩] λp s=>eI (λy0 y1=>eZ (y0,y1)) p.1 p.2 s
def zeG(eZ:Rg):Hints:=Hz [(0,Np eZ)] [(0,1,.ways [z4v]),(3,1,.ways [⟨.normal,WK⟩])] []
theorem z6J(eZ:Rg)(JG:zaC eZ):LO Tryz.f147 (Np eZ) 0:=lk (ze6 eZ JG) (rz [3]) (zeG eZ) [] zf
theorem z8l(eZ:Rg)(JG:zaC eZ):xw Pz 147 ⟨[.cur,.any],FX,[],WK,1,λx=>dr (λy0 y1=>eZ (y0,y1)) x.1 x.2⟩:=eC (ze6 eZ JG) (rz [3]) (zeG eZ) func147 [0] (qf rfl (z6J eZ JG) zf)
theorem zaa:xw Pz 147 ⟨[.cur,.any],FX,[],WK,1,λx=>oz x.1 x.2⟩:=Kv (λeZ x=>dr (λy0 y1=>eZ (y0,y1)) x.1 x.2) (λx=>rfl) (λeZ JG=>z8l eZ JG)
def t86:=t85.s zaa
def Tp:Tb:=t86.s zaa
def B6:q9:=Lz [] [Mm 23 (.sl .expr),Mi 24] z3X [⟨.exit 0,WK⟩] λp s=>lW p.1 p.2 s
def z0p:Hints:=Hz [(0,B6)] [(0,1,.ways [z4v]),(3,1,.ways [⟨.normal,WK⟩])] []
theorem Sh:LO Tryz.f147 B6 0:=lk Tp (rz [3]) z0p [] zf
theorem P0:xw Pz 147 ⟨[.cur,.any],FX,[.slot 0 .str],WK,1,λx=>mH x.1 x.2⟩:=eC Tp (rz [3]) z0p func147 [0] (qf rfl Sh zf)
def t87:=t86.s P0
theorem zoS:q8 Pz 85 ⟨[.ty .expr],[(.sl .str)],λx=>dq x⟩:=wq (t87.s P0) (rz [1]) hN func85 [] zf
def t88:=t87.d zoS
end Go.AM.Lf
namespace Go.Proofs
section
open Go.RowKit Go.Maps
attribute [local go_sem] zN
set_option maxRecDepth 100000
set_option maxHeartbeats 2000000
theorem CC.info:(Tryz.prog.info? 9).map (λi=>(i.zero,i.size,i.bytes))=some (some (.string ⟨#[]⟩),1,16):=by kernel_rfl
theorem CC.wp{ops:Array Oper}{rest:List Oper}{o:Oper}{a:Act}{Q:Exit->Act->World->Prop}(w:World)(hgd:o.guard=zE)(s x:Operand)(t u:TypeId)
  (ho:o.op=.call { callee:=.builtin .append,args := #[s,x],argTypes := #[t,u] }) (v':Value) (w':World)
  (hr:(zU #[t,u] o.type #[a.eval s,a.eval x]).run Tryz.prog w=.ok v' w') (h:wpList Tryz.prog ops Q rest (a.put o.dst v') w'):wpList Tryz.prog ops Q (o::rest) a w :=
 wpList_plain hgd λ_ hK=>by
  unfold Oper.wp execOp
  simp only[ho,resolve,invoke,builtin,Sem.run_bind,Sem.run_pure,Result.andThen_ok,List.map_toArray,List.map_cons,List.map_nil,hr]
  exact hK _ _ h
/-- An append of nothing. -/
theorem CC.DM{base:Option Addr}{n cap:Nat}{a:Option Addr}{ty:TypeId}(w:World)(jg:n<=cap) :
  (zU #[38,38] ty #[.slice base n cap,.slice a 0 0]).run Tryz.prog w=.ok (.slice base n cap) w:=by
 obtain⟨i0,hi,I2,hz1,hz2⟩:=info_parts CC.info
 have hu:=Tryz.underlying38
 cases a<;>cases base<;>simp[zU,run_underlying hu,sizeOf,typeInfo,hi,Builtin.lenOf,qN,loadCells,loadCellsFrom,storeCells,jg]
theorem CC.DL{n:Nat}{ty:TypeId}(w:World)(hn:0<n)(I:n*16<=140737488355328) :
  ∃ cs:Array Value,cs.size=grownCap w n 0 9/\(zU #[38,3] ty #[.slice zE 0 0,.int .i64 (n:Int)]).run Tryz.prog w=.ok (.slice (some ⟨w.heap.size,0,zE⟩) n (grownCap w n 0 9)) (w.drew.alloc (.cells cs 9)):=by
 obtain⟨i0,hi,I2,hz1,hz2⟩:=info_parts CC.info
 have hu:=Tryz.underlying38
 have he:=Tryz.underlying3
 have w1:IntKind.i64.wrap (n:Int)=n:=IntWalk.i64_in _ (by omega)
 have h5:IntKind.i64.max=9223372036854775807:=by decide
 have ai:∀ w,(Go.asInt (.int .i64 (n:Int))).run Tryz.prog w=.ok (n:Int) w:=λw=>by simp[Go.asInt,asIntOf]
 have g1:¬ ((n:Int)<0):=by omega
 have g2:¬ ((281474976710656:Int)<(n:Int)*16):=by omega
 have g3:¬ (n=0):=by omega
 have g4:¬ (281474976710656<Builtin.nextslicecap n 0*16):=by
  have:=growslice_fits (bytes:=16) (need:=n) (old:=0) (by omega) (by omega)
  omega
 have hge:=grownCap_ge w n 0 9
 refine⟨qD (Value.string ⟨#[]⟩).cells n++qD (Value.string ⟨#[]⟩).cells (grownCap w n 0 9-n),?_,?_⟩
 ·simp[qD,Value.cells]; omega
 ·simp[zU,run_underlying hu,run_underlying he,sizeOf,typeInfo,zeroValue,hi,I2,hz1,hz2,ai,w1,Builtin.lenOf,qN,Question.forced,newRow,grownCap,g1,g2,g3,g4]
  intro h
  omega
theorem CC.grow(n:Nat)(w:World)(I:n*16<=140737488355328):Calls Tryz.prog 146 #[.slice zE 0 0,.int .i64 (n:Int)] w λe w'=>∃ v,e=.returned v/\w'.ownsRow w.heap.size 9 1 v 0 []/\Below w.heap.size w w':=by
 go_enter Tryz.func146,Tryz.ntmps146
 by_cases hn:0<n
 ·obtain⟨cs,QA,hr⟩:=CC.DL (ty:=38) w hn I
  go_wp2_with (first
   | (at_builtin; refine CC.wp _ rfl _ _ _ _ rfl _ _ hr ?_)
   | go_in)
  go_ret
  refine⟨_,rfl,⟨rfl,.inr ⟨w.heap.size,_,cs,rfl,V _,by show(w.heap.push (B cs 9))[w.heap.size]? = _; exact Array.getElem?_push_size,qK _,grownCap_le_maxLen w n 0 9 (by unfold maxLen; omega),by rw[QA,Nat.mul_one],rfl⟩⟩,?_⟩
  have hB:Below w.heap.size w (w.alloc (.cells cs 9)):=(Below.refl _ _).alloc (V _) _
  exact⟨hB.os,hB.tape,hB.output,hB.size,hB.block⟩
 ·obtain rfl:n=0:=by omega
  go_wp2
  go_ret
  exact⟨_,rfl,World.ownsRow_nil _ _ _ _,Below.refl _ _⟩
/-- The texts of a slice whose block lies below n₀. -/
def CC.Strs(n₀:Nat)(zk:World)(sv:Value)(l:List (List UInt8)):Prop:=(∃ a,sv=.slice a 0 0/\l=[])\/∃ b off cap,sv=.slice (some ⟨b,off,zE⟩) l.length cap/\b<n₀/\∀ j (hj:j<l.length),zk.cell? ⟨b,off+j,zE⟩=some (.string ⟨l[j].toArray⟩)
def CC.cells(l:List (List UInt8)):List Value:=l.map λs=>.string ⟨s.toArray⟩
/-- How many texts the first k slices have; which. -/
def CC.fl(ls:List (List (List UInt8)))(k:Nat):Nat:=(ls.take k).flatten.length
def CC.out(ls:List (List (List UInt8)))(k:Nat):List Value:=CC.cells (ls.take k).flatten
def CC.at(ls:List (List (List UInt8)))(k:Nat):List (List UInt8):=ls.getD k []
theorem CC.take_succ{ls:List (List (List UInt8))}{k:Nat}(hk:k<ls.length):(ls.take (k+1)).flatten=(ls.take k).flatten++CC.at ls k:=by
 rw[zW hk,List.flatten_append,List.flatten_singleton]
 simp[CC.at,hk]
theorem CC.z5s{ls:List (List (List UInt8))}{k:Nat}(hk:k<ls.length):CC.fl ls (k+1)=CC.fl ls k+(CC.at ls k).length:=by
 unfold CC.fl; rw[CC.take_succ hk,List.length_append]
theorem CC.z2I{ls:List (List (List UInt8))}{k:Nat}(hk:k<ls.length):CC.out ls (k+1)=CC.out ls k++CC.cells (CC.at ls k):=by
 unfold CC.out CC.cells; rw[CC.take_succ hk,List.map_append]
theorem CC.zeq(ls:List (List (List UInt8)))(k:Nat):CC.fl ls k<=CC.fl ls ls.length:=by
 unfold CC.fl
 rw[List.take_length]
 conv=>rhs; rw[<- List.take_append_drop k ls,List.flatten_append,List.length_append]
 omega
theorem CC.concat(b off cap L:Nat)(svs:Nat->Value)(ls:List (List (List UInt8)))(w:World)(hL:L=ls.length)(Jb:L*24<=140737488351232)(I:b<w.heap.size)
  (hc:∀ j,j<L->w.cell? ⟨b,off+j,zE⟩=some (svs j)) (hs:∀ j,j<L->CC.Strs w.heap.size w (svs j) (CC.at ls j)) (znG:CC.fl ls L*16<=140737488355328) :
  Calls Tryz.prog 84 #[.slice (some ⟨b,off,zE⟩) L cap] w λe w'=>∃ v,e=.returned v/\w'.ownsRow w.heap.size 9 1 v (CC.fl ls L) (CC.out ls L)/\Below w.heap.size w w':=by
 obtain⟨i0,hi,I2,hz1,hz2⟩:=info_parts CC.info
 have JI:∀ k,k<L->CC.fl ls (k+1)=CC.fl ls k+(CC.at ls k).length:=λk hk=>CC.z5s (by omega)
 have hou:∀ k,k<L->CC.out ls (k+1)=CC.out ls k++CC.cells (CC.at ls k):=λk hk=>CC.z2I (by omega)
 have hle:∀ k,CC.fl ls k<=CC.fl ls L:=λk=>hL▸CC.zeq ls k
 have hf0:CC.fl ls 0=0:=rfl
 have ho0:CC.out ls 0=[]:=rfl
 generalize CC.fl ls=fl at *
 generalize CC.out ls=out at *
 generalize CC.at ls=at_ at *
 clear hL ls
 generalize hM:fl L=h2 at *
 go_enter Tryz.func84,Tryz.ntmps84
 go_wp2
 go_loopw [3,11] (λsz i wr=>∃ k:Nat,k<=L/\i=.int .i64 k/\sz=.int .i64 (fl k:Int)/\w=wr) (λ_ i _=>L-(intOf i).toNat)
 case atStart=>exact⟨0,qK _,rfl,by rw[hf0]; rfl,rfl⟩
 case round =>
  obtain⟨k,hk,rfl,rfl,rfl⟩:=hrel
  by_cases wM:k<L
  ·have eD:=hc k wM
   have hS:=hs k wM
   have h1:=JI k wM
   have M:=hle (k+1)
   have hSq:∃ a c,svs k=.slice a (at_ k).length c:=by
    rcases hS with⟨a,e,he⟩ | ⟨b1,o1,c1,e,_,_⟩
    ·exact⟨a,0,by rw[e,he]; rfl⟩
    ·exact⟨_,c1,e⟩
   obtain⟨a1,c1,e1⟩:=hSq
   rw[e1]at eD
   clear hc hs hS JI hou hle e1
   generalize hq:(at_ k).length=q at *
   generalize hm:fl k=m at *
   generalize hm':fl (k+1)=m' at *
   go_wp2
   go_roundw
   case rel=>exact⟨k+1,by omega,by go_num,by rw[hm',h1]; go_num,by first | rfl | trivial⟩
   case measure=>simp[intOf]; omega
  ·have hkl:k=L:=by omega
   subst hkl
   rw[hM]
   have hg:=CC.grow h2 w znG
   go_wp2_with (first
    | (go_at_call 146; refine hg.mono ?_; rintro e w1 ⟨v1,rfl,oF,hB⟩)
    | go_in)
   clear hg
   go_loopw [6,27] (λo i wr'=>∃ j:Nat,j<=k/\i=.int .i64 j/\wr'.ownsRow w.heap.size 9 1 o (fl j) (out j)/\Below w.heap.size w wr') (λ_ i _=>k-(intOf i).toNat)
   case atStart=>exact⟨0,qK _,rfl,by rw[hf0,ho0]; exact oF,hB⟩
   case round =>
    obtain⟨j,hj,rfl,oF,hB⟩:=hrel
    by_cases L5:j<k
    ·have eD:wr.cell? ⟨b,off+j,zE⟩=some (svs j):=(hB.cell (p:=⟨b,off+j,zE⟩) I).trans (hc j L5)
     have h1:=JI j L5
     have M:=hle (j+1)
     have h3:=hou j L5
     rcases hs j L5 with⟨a,e,he⟩ | ⟨b1,o1,c1,e,I0,QA⟩
     ·rw[e]at eD
      rw[he]at h1 h3
      have e1:fl (j+1)=fl j:=by rw[h1]; rfl
      have e2:out (j+1)=out j:=by rw[h3]; simp[CC.cells]
      have hv:∃ base n cap,u6=.slice base n cap/\n<=cap:=by
       rcases oF.2 with⟨rfl,_⟩ | ⟨g,VH,cur,rfl,_,_,jg,_⟩
       ·exact⟨_,_,_,rfl,V _⟩
       ·exact⟨_,_,_,rfl,jg⟩
      obtain⟨base,n,VH,rfl,jg⟩:=hv
      have hr:=CC.DM (base:=base) (n:=n) (cap:=VH) (a:=a) (ty:=38) wr jg
      clear hc hs JI hou hle hf0 ho0 he e
      go_wp2_with (first
       | (at_builtin; refine CC.wp _ rfl _ _ _ _ rfl _ _ hr ?_)
       | go_in)
      go_roundw
      case rel=>exact⟨j+1,by omega,by go_num,by rw[e1,e2]; exact oF,hB⟩
      case measure=>simp[intOf]; omega
     ·rw[e]at eD
      have hB1:=hB.size
      have R:(CC.cells (at_ j)).length=(at_ j).length*1:=by simp[CC.cells]
      have ZM:∀ u∈CC.cells (at_ j),u.oneCell'=true:=by
       intro u hu
       obtain⟨s,_,rfl⟩:=List.mem_map.1 hu
       rfl
      have zgf:∀ i u,(CC.cells (at_ j))[i]? = some u->wr.cell? ((⟨b1,o1,zE⟩:Addr).add i)=some u:=by
       intro i u hu
       have US:i<(at_ j).length:=by
        have:=(List.getElem?_eq_some_iff.1 hu).1
        simpa[CC.cells]using this
       have zbw:(⟨b1,o1,zE⟩:Addr).add i=⟨b1,o1+i,zE⟩:=by unfold Addr.add; split<;>simp_all
       rw[zbw,(hB.cell (p:=⟨b1,o1+i,zE⟩) I0),QA i US,<- hu]
       simp[CC.cells,US]
      clear hc hs JI hou hle hf0 ho0 e QA
      generalize CC.cells (at_ j)=news at *
      generalize hq:(at_ j).length=q at *
      go_wp2_with (first
       | (at_builtin; refine wpList_append_own _ rfl _ _ 38 rfl w.heap.size 9 i0 (.string ⟨#[]⟩) 1 16 Tryz.underlying38 hi I2 hz1 hz2 rfl (by decide) _ _ _ rfl oF ⟨b1,o1,zE⟩ q c1 news rfl R zgf ZM (by unfold maxLen; omega) (by omega) hB1 ?_; intro v' w' zgj zbE zqi)
       | go_in)
      go_roundw
      case rel=>exact⟨j+1,by omega,by go_num,by rw[h1,h3]; exact zgj,hB.grown zbE hB.size (λi hi=>(oF.lt i hi).1)⟩
      case measure=>simp[intOf]; omega
    ·have hjk:j=k:=by omega
     subst hjk
     clear hc hs JI hou hle
     go_wp2
     go_ret
     exact⟨_,rfl,by rw[hM]at oF; exact oF,hB⟩
end
end Go.Proofs
namespace Go.AM.Lf
open Go.Proofs Go.Proofs.Tryz
theorem z8X{Z:KS}{l:List zx}{cs:List Value}(hI:Inv Z)(h:Rc Z.w Z.ok (.sl .str) l cs):∃ v,cs=[v]/\CC.Strs Z.w.heap.size Z.w v l:=by
 rcases h.tA with⟨rfl,a,e⟩ | ⟨blk,off,cap,g,e,j3,jg,hg,hc⟩
 ·exact⟨_,e,.inl ⟨a,rfl,rfl⟩⟩
 ·refine⟨_,e,.inr ⟨blk,off,cap,rfl,hI.bN blk j3,λj hj => ?_⟩⟩
  have h3:=hc j hj 0 (.string ⟨l[j].toArray⟩) (by rw[(hg j hj).jc]; rfl)
  simpa[Ty.size]using h3
theorem zoR:q8 Tryz.prog 84 ⟨[.ty (.sl (.sl .str))],[.sl .str],λx=>j8 x⟩:=by
 refine jC Tryz.func84 (by kernel_rfl) rfl λZ (ls:List (List zx)) xb y hy hI ha => ?_
 obtain⟨⟨h0,h1,M⟩,hy⟩:=hy
 cases hy
 obtain⟨v0,r,rfl,Kw,ha⟩:=wN.cons_inv (show wN Z [.qi (.sl (.sl .str)) ls] xb from ha)
 rw[ha.we]
 have hv:=RD.jF (Z:=Z) (τ:=.sl (.sl .str)) (x:=ls) Kw rfl
 rcases hv.tA with⟨rfl,a,e⟩ | ⟨blk,off,cap,g,e,j3,jg,hg,hc⟩
 ·exact absurd rfl M
 ·cases e
  have ZK:∀ j (hj:j<ls.length),∃ v,g j=[v]/\CC.Strs Z.w.heap.size Z.w v ls[j]:=λj hj=>z8X hI (hg j hj)
  have eD:∀ j,j<ls.length->Z.w.cell? ⟨blk,off+j,none⟩=some ((g j).headD (.bool false)):=λj hj=>by
   obtain⟨v,hv,_⟩:=ZK j hj
   have h3:=hc j hj 0 v (by rw[hv]; rfl)
   rw[hv]
   simpa[Ty.size]using h3
  have JI:ls.flatten=(ls.take ls.length).flatten:=by rw[List.take_length]
  refine(CC.concat blk off cap ls.length (λj=>(g j).headD (.bool false)) ls Z.w rfl h0 (hI.bN blk j3) eD (λj hj => ?_) (by unfold CC.fl; rw[<- JI]; exact h1)).mono ?_
  ·obtain⟨v,hv,hs⟩:=ZK j hj
   rw[hv]
   have:CC.at ls j=ls[j]:=by simp[CC.at,hj]
   rw[this]; exact hs
  ·rintro e w' ⟨v,rfl,oF,hB⟩
   refine⟨hB,λ_=>⟨_,rfl,?_⟩⟩
   unfold CC.fl CC.out at oF
   rw[<- JI]at oF
   show RD _ (.qi (.sl .str) ls.flatten) v
   refine RD.tY rfl ?_
   rcases oF.2 with⟨rfl,hn⟩ | ⟨gb,VH,cur,rfl,hgb,zbz,hle,hmax,bM,htk⟩
   ·rw[zY hn]
    exact .lA .str none
   ·refine .sl .str _ gb 0 VH (λi=>[.string ⟨(ls.flatten[i]?.getD []).toArray⟩]) (.inr ⟨hgb,(Array.getElem?_eq_some_iff.1 zbz).1⟩) hle (λi hi => ?_) (λi hi j u hu => ?_)
    ·rw[zT hi]
     exact .str _
    ·match j,hu with
     | 0,hu =>
      simp only[List.getElem?_cons_zero,Option.some.injEq]at hu
      have e0:(0:Nat)+i*Ty.size .str+0=i:=by show 0+i*1+0=i; omega
      show w'.cell? ⟨gb,0+i*Ty.size .str+0,none⟩=some u
      rw[e0,cell_of_row w' gb i cur _ (0,0) zbz,<- hu]
      have h4:(cur.toList.take (ls.flatten.length*1))[i]? = (CC.cells ls.flatten)[i]? := by rw[htk]
      rw[List.getElem?_take_of_lt (by omega)]at h4
      rw[<- Array.getElem?_toList,h4]
      unfold CC.cells
      rw[List.getElem?_map,zT hi]; rfl
end Go.AM.Lf

namespace Go.AM.Lf
open Go.Proofs Go.Proofs.Tryz
def t89:=t88.d zoR
theorem zoW:q8 Pz 89 ⟨[.ty qg,.rp .str],[.bool],λx=>uC x.1 x.2⟩:=wq t89 (rz [2]) hN func89 [] zf
def t90:=t89.d zoW
def B3:q9:=Lz [] [Mm 0 (.sl qg),.s 1 (.wi 89 [.rp .str]),Mi 7] cW [kL,od] λp s=>uZ p.1 (λz0=>uC z0 p.2.1) p.2.2 s
def z0m:Hints:=Hz [(0,B3)] [] []
theorem Sd:LO Tryz.f108 B3 0:=lk t90 rn z0m [] zf
theorem OX:q8 Pz 108 ⟨[.ty (.sl qg),.wi 89 [.rp .str]],[i64],λx=>vH x.1 (λz0=>uC z0 x.2)⟩:=wq t90 rn z0m func108 [0] (qf rfl Sd zf)
def t91:=t90.d OX
theorem z2B:q8 Pz 88 ⟨[.ty (.sl qg),.wi 89 [.rp .str]],[.bool],λx=>vP x.1 (λz0=>uC z0 x.2)⟩:=wq (t91.d OX) rn hN func88 [] zf
def t92:=t91.d z2B
theorem zoT:q8 Pz 86 ⟨[.ty .str,.rp (.sl .str),.rp qy],[.bool],λx=>yw x.1 x.2.1 x.2.2⟩:=wq (t92.d z2B) (rz [3]) hN func86 [] zf
def t93:=t92.d zoT
def EX:q9:=Lz [] [Mm 0 (.sl .str),.s 1 (.wi 86 [.rp (.sl .str),.rp qy]),Mi 7] cW [kL,od] λp s=>uN p.1 (λz0=>yw z0 p.2.1.1 p.2.1.2) p.2.2 s
def z9u:Hints:=Hz [(0,EX)] [] []
theorem z1n:LO Tryz.f80 EX 0:=lk t93 rn z9u [] zf
theorem z2y:q8 Pz 80 ⟨[.ty (.sl .str),.wi 86 [.rp (.sl .str),.rp qy]],[i64],λx=>wU x.1 (λz0=>yw z0 x.2.1 x.2.2)⟩:=wq t93 rn z9u func80 [0] (qf rfl z1n zf)
def t94:=t93.d z2y
def T37:Tb:=t94.d z2y
def z1I:q9:=Lz [] [Mr 2 qy,Mr 3 (.sl .str),Mm 13 (.sl xj),Mi 14] ⟨[Mm 6 (.sl .str),Mi 15],[],[]⟩ [⟨.exit 0,z4h⟩] λp s=>lM p.1 p.2.1 p.2.2.1 p.2.2.2 s
def z1J:q9:=Lz [] [Mr 2 qy,Mr 3 (.sl .str),Mm 30 (.sl xm),Mi 31] ⟨[Mm 6 (.sl .str),Mi 32],[],[]⟩ [⟨.exit 2,z4h⟩] λp s=>lN p.1 p.2.1 p.2.2.1 p.2.2.2 s
def h37:Hints:=Hz [(0,z1I),(2,z1J)] [] []
theorem zcm:LO Tryz.f37 z1I 0:=lk T37 (rz [2,3]) h37 [] zf
theorem zcn:LO Tryz.f37 z1J 2:=lk T37 (rz [2,3]) h37 [] zf
theorem zoc:q8 Pz 37 ⟨[.ty qy,.ty (.sl .str)],[.str,.bool],λx=>mu x.1 x.2⟩:=wq T37 (rz [2,3]) h37 func37 [0,2] (qf rfl zcm (qf rfl zcn zf))
def t95:=t94.d zoc
theorem zhL:q8 Pz 150 ⟨[.ty .str,.rp (.sl .str)],[.bool],λx=>bQ x.1 x.2⟩:=wq t95 rn hN func150 [] zf
def t96:=t95.d zhL
def EY:q9:=Lz [] [Mm 0 (.sl .str),.s 1 (.wi 150 [.rp (.sl .str)]),Mi 7] cW [kL,od] λp s=>uN p.1 (λz0=>bQ z0 p.2.1) p.2.2 s
def z9v:Hints:=Hz [(0,EY)] [] []
theorem z1o:LO Tryz.f80 EY 0:=lk t96 rn z9v [] zf
theorem z2z:q8 Pz 80 ⟨[.ty (.sl .str),.wi 150 [.rp (.sl .str)]],[i64],λx=>wU x.1 (λz0=>bQ z0 x.2)⟩:=wq t96 rn z9v func80 [0] (qf rfl z1o zf)
def t97:=t96.d z2z
theorem zhK:q8 Pz 149 ⟨[.ty (.sl .str),.wi 150 [.rp (.sl .str)]],[.bool],λx=>kC x.1 (λz0=>bQ z0 x.2)⟩:=wq (t97.d z2z) rn hN func149 [] zf
def t98:=t97.d zhK
theorem zoX:q8 Pz 90 ⟨[.ty .expr,.ty (.sl .str)],[.bool],λx=>tK x.1 x.2⟩:=wq t98 (rz [2,3]) hN func90 [] zf
def t99:=t98.d zoX
abbrev Y38:=dV [.ty .expr,.ty (.sl .str)]->T (Dq [.bool])
abbrev H38(F:Y38):=q8 Pz 38 ⟨[.ty .expr,.ty (.sl .str)],[.bool],F⟩
theorem zkP(dG:Y38)(WZ:H38 dG):q8 Pz 92 ⟨[.ty .expr,.rp (.sl .str)],[.bool],λx=>uY (λy0 y1=>dG (y0,y1)) x.1 x.2⟩:=wq (t99.d WZ) (rz [2]) hN func92 [] zf
def Tq(dG:Y38)(WZ:H38 dG):Tb:=t99.d (zkP _ WZ)
def B7(dG:Y38):q9:=Lz [] [Mm 0 (.sl .expr),.s 1 (.wi 92 [.rp (.sl .str)]),Mi 7] cW [kL,od] λp s=>yi (λy0 y1=>dG (y0,y1)) p.1 (λz0=>(uY (λy0 y1=>dG (y0,y1))) z0 p.2.1) p.2.2 s
def z0q(dG:Y38):Hints:=Hz [(0,B7 dG)] [] []
theorem Si(dG:Y38)(WZ:H38 dG):LO Tryz.f151 (B7 dG) 0:=lk (Tq dG WZ) rn (z0q dG) [] zf
theorem z8m(dG:Y38)(WZ:H38 dG):q8 Pz 151 ⟨[.ty (.sl .expr),.wi 92 [.rp (.sl .str)]],[i64],λx=>gY (λy0 y1=>dG (y0,y1)) x.1 (λz0=>(uY (λy0 y1=>dG (y0,y1))) z0 x.2)⟩:=wq (Tq dG WZ) rn (z0q dG) func151 [0] (qf rfl (Si dG WZ) zf)
theorem zcU(dG:Y38)(WZ:H38 dG):q8 Pz 91 ⟨[.ty (.sl .expr),.wi 92 [.rp (.sl .str)]],[.bool],λx=>ja (λy0 y1=>dG (y0,y1)) x.1 (λz0=>(uY (λy0 y1=>dG (y0,y1))) z0 x.2)⟩:=wq (t99.d (z8m _ WZ)) rn hN func91 [] zf
def h38(dG:Y38):Hints:=Hz [] [(0,3,.ways [⟨.normal,⟨[Mb 41,.v (.qi .expr),.v (.qi .expr)],[],FM⟩⟩]),(3,1,.ways [⟨.normal,⟨[],[],[]⟩⟩,FY])] []
theorem zcS(dG:Y38)(WZ:H38 dG):q8 Pz 38 ⟨[.ty .expr,.ty (.sl .str)],[.bool],λx=>cZ (λy0 y1=>dG (y0,y1)) x.1 x.2⟩:=wq ((t99.d (zcU _ WZ)).d (zkP _ WZ)) (rz [2,3]) (h38 dG) func38 [] zf
theorem zod:q8 Pz 38 ⟨[.ty .expr,.ty (.sl .str)],[.bool],λx=>fI x.1 x.2⟩:=Yi (λdG x=>cZ (λy0 y1=>dG (y0,y1)) x.1 x.2) (λx=>rfl) (λdG WZ=>zcS dG WZ)
def t100:=t99.d zod
def z1v:q9:=Lz [.slot 8 .str] [Mr 1 qy,Mm 46 (.sl qw),Mi 47] ⟨[Mi 48,.a .str],[(8,.cur 0 .str)],nC⟩ [⟨.exit 1,⟨[.a .str],[(8,.cur 0 .str)],nC⟩⟩] λp s=>nJ p.1 p.2.1 p.2.2 s
def z1w:q9:=Lz [] [Mm 67 (.sl xm),Mi 68] ⟨[Mi 69,.a .str],[(8,.cur 0 .str)],nC⟩ [⟨.exit 3,⟨[.a .str],[],nC⟩⟩,⟨.ret,⟨[Mi 2,Ms 3,.a .str],[],nC⟩⟩] λp s=>nK p.1 p.2 s
def h21:Hints:=Hz [(1,z1v),(3,z1w)] [(0,3,.flat [Mb 19]),(0,23,.ways [⟨.normal,⟨[Mb 84,.a .str,.v (.qi xm)],[(8,.cur 0 .str)],[.arr .str,.var (.qi xm)]⟩⟩])] []
theorem zc9:LO Tryz.f21 z1v 1:=lk t100 (rz [1]) h21 [] zf
theorem zca:LO Tryz.f21 z1w 3:=lk t100 (rz [1]) h21 [] zf
theorem zo0:q8 Pz 21 ⟨[.ty qy],[i64,.str],λx=>fJ x⟩:=wq t100 (rz [1]) h21 func21 [1,3] (qf rfl zc9 (qf rfl zca zf))
def t101:=t100.d zo0
theorem zof:q8 Pz 40 ⟨[.ty qy],[.str],λx=>sY x⟩:=wq t101 (rz [1]) hN func40 [] zf
def t102:=t101.d zof
theorem zoZ:q8 Tryz.prog 93 ⟨[.ty .str,.ty .str],[.sl .str],λx=>strings_Split x.1 x.2⟩:=by
 refine jC Tryz.func93 (by kernel_rfl) rfl λZ x xb y hy hI ha => ?_
 obtain⟨s,sep⟩:=x
 obtain⟨⟨h0,h1⟩,hy⟩:=hy
 cases hy
 obtain⟨v0,r,rfl,Kw,ha⟩:=wN.cons_inv (show wN Z [.qi .str s,.qi .str sep] xb from ha)
 obtain⟨v1,r,rfl,IQ,ha⟩:=ha.cons_inv
 rw[ha.we,Kw.jc,IQ.jc]
 obtain⟨m,hm⟩:=kU hI
 refine(Go.Proofs.Tryz.strings_Split ⟨s.toArray⟩ ⟨sep.toArray⟩ m Z.w (by rw[show(zF ⟨s.toArray⟩)=zH s from E]; exact h0) hm (by rw[show(zF ⟨sep.toArray⟩)=zH sep from E]; simp only at h1; omega)).mono ?_
 rintro e w' ⟨rfl,rfl⟩
 refine⟨Jy _ _,λ_=>⟨_,rfl,?_⟩⟩
 exact z3b s sep h1 _
def t103:=t102.d zoZ
theorem zhN:q8 Tryz.prog 153 ⟨[.ty .str,.ty .str],[.str,.str,.bool],λx=>strings_Cut x.1 x.2⟩:=by
 refine jC Tryz.func153 (by kernel_rfl) rfl λZ x xb y hy hI ha => ?_
 obtain⟨s,sep⟩:=x
 obtain⟨h0,hy⟩:=hy
 cases hy
 obtain⟨v0,r,rfl,Kw,ha⟩:=wN.cons_inv (show wN Z [.qi .str s,.qi .str sep] xb from ha)
 obtain⟨v1,r,rfl,IQ,ha⟩:=ha.cons_inv
 rw[ha.we,Kw.jc,IQ.jc]
 obtain⟨m,hm⟩:=kU hI
 refine(Go.Proofs.Tryz.strings_Cut ⟨s.toArray⟩ ⟨sep.toArray⟩ m Z.w (by rw[show(zF ⟨s.toArray⟩)=zH s from E]; exact h0) hm).mono ?_
 rintro e w' ⟨rfl,n,rfl⟩
 refine⟨below_drewN _ _,λ_=>⟨_,rfl,?_⟩⟩
 rw[show Lib.cut (⟨s.toArray⟩:ByteArray).data.toList (⟨sep.toArray⟩:ByteArray).data.toList=E3 s sep from TV s sep]
 exact RD.zph RD.str RD.str RD.bool
def t104:=t103.d zhN
theorem ziq:q8 Pz 209 ⟨[.ty (.int .i32)],[.bool],λx=>sb x⟩:=wq t104 rn hN func209 [] zf
def t105:=t104.d ziq
theorem z8G(w:World):Go.Proofs.PredAtRunes Tryz.prog 209 #[] (λn=>n==32) w:=λzk x N I=>by
 show Calls Tryz.prog 209 #[.int .i32 (x:Int)] zk _
 have hn:Tryz.f209.ntmps=5:=by kernel_rfl
 have J:((x:Int)==32)=(x==32):=by rw[Bool.eq_iff_iff,beq_iff_eq,beq_iff_eq]; omega
 go_enter Tryz.func209,hn
 go_wp2
 go_ret
 exact⟨by rw[<- J]; rfl,0,rfl⟩
theorem zio:q8 Tryz.prog 208 ⟨[.ty .str,.wi 209 []],[.sl .str],λx=>strings_FieldsFunc x.1 (λz0=>sb z0)⟩:=by
 refine jC Tryz.func208 (by kernel_rfl) rfl λZ x xb y hy hI ha => ?_
 obtain⟨s,c⟩:=x
 obtain⟨h0,hy⟩:=hy
 cases hy
 obtain⟨v0,r,rfl,Kw,ha⟩:=wN.cons_inv (show wN Z [.qi .str s,.wi 209 []] xb from ha)
 obtain⟨v1,r,rfl,IQ,ha⟩:=ha.cons_inv
 rw[ha.we,Kw.jc,IQ.TM (by rfl)]
 refine(Go.Proofs.Tryz.strings_FieldsFunc_runes 209 #[] (λargs w=>nG Tryz.func209 (by kernel_rfl) rfl w) (λn=>n==32) ⟨s.toArray⟩ Z.w (by rw[show(zF ⟨s.toArray⟩)=zH s from E]; exact h0) (z8G Z.w)).mono ?_
 rintro e w' ⟨A,rfl,hA,ho,hB⟩
 refine⟨hB,λ_=>⟨_,rfl,?_⟩⟩
 exact RA s ho
def t106:=t105.d zio
theorem zhO:q8 Pz 154 ⟨[.ty .str],[(.sl .str)],λx=>tc x⟩:=wq t106 rn hN func154 [] zf
def t107:=t106.d zhO
theorem zjb:q8 Tryz.prog 266 ⟨[.ty .str,.ty .str],[i64],λx=>strings_IndexAny x.1 x.2⟩:=by
 refine jC Tryz.func266 (by kernel_rfl) rfl λZ x xb y hy hI ha => ?_
 obtain⟨s,chars⟩:=x
 obtain⟨⟨h0,h1,M,h3⟩,hy⟩:=hy
 cases hy
 obtain⟨v0,r,rfl,Kw,ha⟩:=wN.cons_inv (show wN Z [.qi .str s,.qi .str chars] xb from ha)
 obtain⟨v1,r,rfl,IQ,ha⟩:=ha.cons_inv
 rw[ha.we,Kw.jc,IQ.jc]
 refine(Go.Proofs.Any.Xw Go.Proofs.Tryz.lays153 (λ_=>by kernel_rfl) (by kernel_rfl) ⟨s.toArray⟩ ⟨chars.toArray⟩ Z.w (by rw[show(zF ⟨chars.toArray⟩)=zH chars from E]; exact h1) (by rw[show(zF ⟨s.toArray⟩)=zH s from E]; exact h0) (by rw[show(zF ⟨chars.toArray⟩)=zH chars from E]; exact M) h3).mono ?_
 rintro e w' ⟨rfl,hB⟩
 refine⟨hB,λ_=>⟨_,rfl,?_⟩⟩
 have e1:Lib.indexAny s chars=rj s chars:=HR chars s
 show RD _ (.qi i64 (rj s chars)) _
 rw[<- e1]
 exact RD.int
def t108:=t107.d zjb
def zmz:Hints:=Hz [] [(0,1,.flat [Mb 4])] []
theorem zjV:q8 Pz 325 ⟨[.ty .str,.ty .str],[.bool],λx=>jV x.1 x.2⟩:=wq t108 rn zmz func325 [] zf
def t109:=t108.d zjV
theorem zjc:q8 Pz 267 ⟨[.ty .str,.ty .str],[.bool],λx=>strings_HasPrefix x.1 x.2⟩:=wq t109 rn hN func267 [] zf
def t110:=t109.d zjc
def OL:q9:=Lz [] [] oj [Ml] λp s=>bz  s
def zfw:Hints:=Hz [(0,OL)] [(0,0,.flat [Mb 23])] []
theorem z8a:LO Tryz.f399 OL 0:=lk t110 rn zfw [] zf
theorem zkI:xw Pz 399 ⟨[.ptr],oj,[],R2,0,λx=>dt x⟩:=eC t110 rn zfw func399 [0] (qf rfl z8a zf)
def t111:=t110.s zkI
theorem zkl:q8 Tryz.prog 356 ⟨[.ty .str,.ty (.int .u8)],[i64],λx=>strings_IndexByte x.1 x.2⟩:=by
 refine jC Tryz.func356 (by kernel_rfl) rfl λZ x xb y hy hI ha => ?_
 obtain⟨s,c⟩:=x
 cases hy
 obtain⟨v0,r,rfl,Kw,ha⟩:=wN.cons_inv (show wN Z [.qi .str s,.qi (.int .u8) c] xb from ha)
 obtain⟨v1,r,rfl,IQ,ha⟩:=ha.cons_inv
 rw[ha.we,Kw.jc,IQ.dO]
 refine(Go.Proofs.Tryz.strings_IndexByte ⟨s.toArray⟩ c Z.w).mono ?_
 rintro e w' ⟨rfl,rfl⟩
 refine⟨Zn _,λ_=>⟨_,rfl,?_⟩⟩
 have e1:Lib.indexByte s (byteOf c)=U5 s (byteOf c):=z6i s (byteOf c)
 show RD _ (.qi i64 (U5 s (byteOf c))) _
 rw[<- e1]
 exact RD.int
def t112:=t111.d zkl
def zmH:Hints:=Hz [] [(0,2,.ways [⟨.normal,⟨[Mb 30,.v (.qi xk)],[],Vv⟩⟩])] []
theorem zkF:xw Pz 391 ⟨lC,⟨[Ms 1,.v (.qi xk)],[(0,.ptr 0 0)],Vv⟩,[],⟨[Mm 0 (.int .u8),.v (.qi xk)],[],Vv⟩,1,λx=>uD x.1 x.2⟩:=eC t112 rn zmH func391 [] zf
def t113:=t112.s zkF
theorem zko:jB Pz 360 ⟨Qe,⟨[Mi 1,Mi 2,.v (.qi xk)],[(0,.ptr 0 0)],Vv⟩,[],R2,0,416,tf,none,λx=>vn x.1 x.2.1 x.2.2⟩:=Kt t113 rn hN func360 [] zf
def t114:=t113.p zko
theorem zkJ:jB Pz 400 ⟨[.ptr],oj,[],R2,0,416,tf,none,λx=>kz x⟩:=Kt t114 rn hN func400 [] zf
def t115:=t114.p zkJ
def OM:q9:=Lz [] [.s 1 (.wi 257 []),Mi 2,Mi 7] oj [Ml] λp s=>ye (λz0=>ke z0) p.2.1 p.2.2 s
def zfx:Hints:=Hz [(0,OM)] [(0,2,.ways [z4w])] []
theorem z8b:LO Tryz.f402 OM 0:=lk t115 rn zfx [] zf
theorem zkL:xw Pz 402 ⟨[.ptr,.wi 257,.any],⟨[.s 1 (.wi 257 []),Mi 2,.v (.qi xk)],[(0,.ptr 0 0)],Vv⟩,[],z3Z,1,λx=>uE (λz0=>ke z0) x.2.1 x.2.2⟩:=eC t115 rn zfx func402 [0] (qf rfl z8b zf)
def t116:=t115.s zkL
theorem zjf:q8 Tryz.prog 270 ⟨[.ty .str,.ty .str],[.str,.bool],λx=>strings_CutPrefix x.1 x.2⟩:=by
 refine jC Tryz.func270 (by kernel_rfl) rfl λZ x xb y hy hI ha => ?_
 obtain⟨s,p⟩:=x
 cases hy
 obtain⟨v0,r,rfl,Kw,ha⟩:=wN.cons_inv (show wN Z [.qi .str s,.qi .str p] xb from ha)
 obtain⟨v1,r,rfl,IQ,ha⟩:=ha.cons_inv
 rw[ha.we,Kw.jc,IQ.jc]
 refine(Go.Proofs.Tryz.strings_CutPrefix ⟨s.toArray⟩ ⟨p.toArray⟩ Z.w).mono ?_
 rintro e w' ⟨rfl,rfl⟩
 refine⟨Zn _,λ_=>⟨_,rfl,?_⟩⟩
 exact RD.z8Y RD.str RD.bool
def t117:=t116.d zjf
def Ow:q9:=Lz [] [Mm 1 (.int .u8)] Qv [K8] λp s=>hJ p s
def zfo:Hints:=Hz [(0,Ow)] [(0,1,.flat [Mb 16])] []
theorem z7R:LO Tryz.f362 Ow 0:=lk t117 rn zfo [] zf
theorem zkq:q8 Pz 362 ⟨[.ty .str,.ty (.int .u8)],[.str],λx=>strings_trimRightByte x.1 x.2⟩:=wq t117 rn zfo func362 [0] (qf rfl z7R zf)
def t118:=t117.d zkq
def Ou:q9:=Lz [] [Mm 1 (.int .u8)] Qv [K8] λp s=>bI p s
def zfn:Hints:=Hz [(0,Ou)] [(0,1,.flat [Mb 13])] []
theorem z7Q:LO Tryz.f361 Ou 0:=lk t118 rn zfn [] zf
theorem zkp:q8 Pz 361 ⟨[.ty .str,.ty (.int .u8)],[.str],λx=>strings_trimLeftByte x.1 x.2⟩:=wq t118 rn zfn func361 [0] (qf rfl z7Q zf)
def t119:=t118.d zkp
theorem zjT:q8 Tryz.prog 323 ⟨[.ty .str],[(mO .bool 256),.bool],λx=>strings_makeASCIISet x⟩:=by
 refine jC Tryz.func323 (by kernel_rfl) rfl λZ s xb y hy hI ha => ?_
 obtain⟨⟨h0,h1⟩,hy⟩:=hy
 cases hy
 obtain⟨v0,r,rfl,Kw,ha⟩:=wN.cons_inv (show wN Z [.qi .str s] xb from ha)
 rw[ha.we,Kw.jc]
 refine(Go.Proofs.Tryz.strings_makeASCIISet (λ_=>by kernel_rfl) ⟨s.toArray⟩ Z.w (by rw[show(zF ⟨s.toArray⟩)=zH s from E]; exact h0) (by simpa using h1)).mono ?_
 rintro e w' ⟨rfl,rfl⟩
 refine⟨Jy _ _,λ_=>⟨_,rfl,?_⟩⟩
 exact RD.z8Y (Tv s) RD.bool
def t120:=t119.d zjT
theorem zjU:q8 Pz 324 ⟨[.rp (mO .bool 256),.ty (.int .u8)],[.bool],λx=>vf x.1 x.2⟩:=wq t120 rn hN func324 [] zf
def t121:=t120.d zjU
def Oy:q9:=Lz [] [Mr 1 (mO .bool 256)] Qv [K8] λp s=>uB p s
def zfq:Hints:=Hz [(0,Oy)] [] []
theorem z7T:LO Tryz.f364 Oy 0:=lk t121 rn zfq [] zf
theorem zks:q8 Pz 364 ⟨[.ty .str,.rp (mO .bool 256)],[.str],λx=>ju x.1 x.2⟩:=wq t121 rn zfq func364 [0] (qf rfl z7T zf)
def t122:=t121.d zks
def Ox:q9:=Lz [] [Mr 1 (mO .bool 256)] Qv [K8] λp s=>uW p s
def zfp:Hints:=Hz [(0,Ox)] [] []
theorem z7S:LO Tryz.f363 Ox 0:=lk t122 rn zfp [] zf
theorem zkr:q8 Pz 363 ⟨[.ty .str,.rp (mO .bool 256)],[.str],λx=>jN x.1 x.2⟩:=wq t122 rn zfp func363 [0] (qf rfl z7S zf)
def t123:=t122.d zkr
def zmA:Hints:=Hz [] [(0,1,.flat [Mb 12]),(0,3,.flat [Mb 21])] []
theorem zjX:q8 Pz 328 ⟨[.ty .str,.ty .str],[.str],λx=>cp x.1 x.2⟩:=wq t123 rn zmA func328 [] zf
def t124:=t123.d zjX
def Oi:q9:=Lz [] [Mm 0 (.sl u32),Mm 1 (.sl u32),Mm 24 (.sl u32),Mi 25] ⟨[Mm 6 (.int .u64),Mi 26,.a u32],[(5,.cur 0 u32)],fE⟩ [⟨.exit 0,⟨[Mm 6 (.int .u64),.a u32],[(5,.cur 0 u32)],fE⟩⟩] λp s=>V7 p.1 p.2.1 p.2.2.1 p.2.2.2 s
def zfk:Hints:=Hz [(0,Oi)] [(3,2,.flat [Mm 0 (.sl u32),Mm 1 (.sl u32)]),(3,10,.flat [Mm 6 (.int .u64)])] [(16,[5])]
theorem z7H:LO Tryz.f329 Oi 0:=lk t124 rn zfk [] zf
theorem zjY:q8 Pz 329 ⟨[.ty (.sl u32),.ty (.sl u32)],[(.sl u32)],λx=>Uf x.1 x.2⟩:=wq t124 rn zfk func329 [0] (qf rfl z7H zf)
def t125:=t124.d zjY
def NV:q9:=Lz [] [Ms 0,Mi 19] ⟨[Mm 4 (.sl u32),Mi 20],[],[]⟩ [⟨.exit 0,⟨[Mm 4 (.sl u32)],[],[]⟩⟩] λp s=>ZT p.1 p.2 s
def zf4:Hints:=Hz [(0,NV)] [(0,1,.ways [⟨.normal,⟨[Mb 17],[],[]⟩⟩])] []
theorem z7k:LO Tryz.f271 NV 0:=lk t125 rn zf4 [] zf
theorem zjg:q8 Pz 271 ⟨[.ty .str],[(.sl u32),.bool],λx=>mb x⟩:=wq t125 rn zf4 func271 [0] (qf rfl z7k zf)
def t126:=t125.d zjg
def zml:Hints:=Hz [] [(0,9,.flat [Mb 58]),(3,13,.flat [Ms 14]),(0,17,.flat [Mb 94])] []
theorem zit:q8 Pz 212 ⟨[.ty .str],[zl,i64],λx=>pe x⟩:=wq t126 rn zml func212 [] zf
def t127:=t126.d zit
def zmJ:Hints:=Hz [] [(0,2,.flat [Mb 35]),(3,2,.ways [⟨.normal,⟨[Ms 3,.v (.qi xk),.v (.qi .expr)],[],PS⟩⟩,⟨.b9 (.iface 416 .v8),⟨[Mm 0 um,.v (.qi xk),.v (.qi .expr)],[],PS⟩⟩])] []
theorem zkK:jB Pz 401 ⟨[.ptr],oj,[],Qu,1,416,tf,none,λx=>kv x⟩:=Kt t127 rn zmJ func401 [] zf
def t128:=t127.p zkK
def Bf:q9:=Lz [] [.s 1 (.wi 197 []),Mi 2,Mi 7] oj [Ml] λp s=>ye (λz0=>bW z0) p.2.1 p.2.2 s
def z0y:Hints:=Hz [(0,Bf)] [(0,2,.ways [z4w])] []
theorem Su:LO Tryz.f402 Bf 0:=lk t128 rn z0y [] zf
theorem Pf:xw Pz 402 ⟨[.ptr,.wi 197,.any],⟨[.s 1 (.wi 197 []),Mi 2,.v (.qi xk)],[(0,.ptr 0 0)],Vv⟩,[],z3Z,1,λx=>uE (λz0=>bW z0) x.2.1 x.2.2⟩:=eC t128 rn z0y func402 [0] (qf rfl Su zf)
def t129:=t128.s Pf
abbrev zaR:=uq.den oj->T (uq.den Qu⊕uq.den tf)
abbrev zlU(F:zaR):=jB Pz 392 ⟨[.ptr],oj,[],Qu,1,416,tf,none,F⟩
abbrev Wn:=uq.den oj->T (uq.den Qu⊕uq.den tf)
abbrev GN(F:Wn):=jB Pz 359 ⟨[.ptr],oj,[],Qu,1,416,tf,none,F⟩
def zmI(Jt:zaR)(vB:Wn):Hints:=Hz [] [(3,10,.ways [⟨.normal,z4q⟩,⟨.b9 (.iface 416 .v8),z4m⟩]),(0,14,.ways [⟨.normal,⟨[Mb 46,.v (.qi xk),.v (.qi .expr)],[],PS⟩⟩]),(0,16,.ways [⟨.normal,⟨[Mb 71,.v (.qi xk),.v (.qi .expr)],[],PS⟩⟩])] []
theorem z8y(Jt:zaR)(z0G:zlU Jt)(vB:Wn)(dv:GN vB):jB Pz 392 ⟨[.ptr],oj,[],Qu,1,416,tf,none,λx=>uv (λy0=>Jt (y0)) (λy0=>vB (y0)) x⟩:=Kt (((t129.s Pf).p dv).p z0G) rn (zmI Jt vB) func392 [] zf
theorem zkG(vB:Wn)(dv:GN vB):jB Pz 392 ⟨[.ptr],oj,[],Qu,1,416,tf,none,λx=>vC (λy0=>vB (y0)) x⟩:=MN (λJt x=>uv (λy0=>Jt (y0)) (λy0=>vB (y0)) x) (λx=>rfl) (λJt z0G=>z8y Jt z0G vB dv)
def zec(vB:Wn)(dv:GN vB):Tb:=t129.p (zkG _ dv)
def OI(vB:Wn):q9:=Lz [] [Ms 2,Mr 7 um] ⟨[.v (.qi xk),.v (.qi .expr),.v (.qi .expr)],[(0,.ptr 0 0),(1,.wi 1000392 [(0,0)]),(8,.ptr 1 0),(9,.ptr 2 0)],PM⟩ [⟨.ret,z4q⟩,⟨.b9 (.iface 416 .v8),z4m⟩] λp s=>vd (λy0=>vB (y0)) p.1 p.2 s
def zft(vB:Wn):Hints:=Hz [(0,OI vB)] [] []
theorem z86(vB:Wn)(dv:GN vB):LO Tryz.f379 (OI vB) 0:=lk (zec vB dv) (rz [7]) (zft vB) [] zf
theorem zkC(vB:Wn)(dv:GN vB):jB Pz 379 ⟨[.ptr,.wi 1000392,.any,.any],⟨[.s 1 (.mclo 1000392 [.pt 0]),Ms 2,Mm 3 um,.v (.qi xk)],[(0,.ptr 0 0)],Vv⟩,[],Qu,1,416,tf,none,λx=>wu (λy0=>vB (y0)) x.1 x.2.1 x.2.2.1 x.2.2.2⟩:=Kt (zec vB dv) (rz [7]) (zft vB) func379 [0] (qf rfl (z86 vB dv) zf)
theorem zkD(vB:Wn)(dv:GN vB):jB Pz 380 ⟨[.ptr],oj,[],Qu,1,416,tf,none,λx=>vt (λy0=>vB (y0)) x⟩:=Kt (t129.p (zkC _ dv)) rn hN func380 [] zf
def Ts(vB:Wn)(dv:GN vB):Tb:=t129.p (zkD _ dv)
def Be(vB:Wn):q9:=Lz [] [Ms 2,Mr 7 um] ⟨[.v (.qi xk),.v (.qi .expr),.v (.qi .expr)],[(0,.ptr 0 0),(1,.wi 1000380 [(0,0)]),(8,.ptr 1 0),(9,.ptr 2 0)],PM⟩ [⟨.ret,z4q⟩,⟨.b9 (.iface 416 .v8),z4m⟩] λp s=>wW (λy0=>vB (y0)) p.1 p.2 s
def z0x(vB:Wn):Hints:=Hz [(0,Be vB)] [] []
theorem Ss(vB:Wn)(dv:GN vB):LO Tryz.f379 (Be vB) 0:=lk (Ts vB dv) (rz [7]) (z0x vB) [] zf
theorem z8x(vB:Wn)(dv:GN vB):jB Pz 379 ⟨[.ptr,.wi 1000380,.any,.any],⟨[.s 1 (.mclo 1000380 [.pt 0]),Ms 2,Mm 3 um,.v (.qi xk)],[(0,.ptr 0 0)],Vv⟩,[],Qu,1,416,tf,none,λx=>wo (λy0=>vB (y0)) x.1 x.2.1 x.2.2.1 x.2.2.2⟩:=Kt (Ts vB dv) (rz [7]) (z0x vB) func379 [0] (qf rfl (Ss vB dv) zf)
theorem z8v(vB:Wn)(dv:GN vB):jB Pz 359 ⟨[.ptr],oj,[],Qu,1,416,tf,none,λx=>kZ (λy0=>vB (y0)) x⟩:=Kt (t129.p (z8x _ dv)) rn hN func359 [] zf
theorem zkn:jB Pz 359 ⟨[.ptr],oj,[],Qu,1,416,tf,none,λx=>cO x⟩:=MN (λvB x=>kZ (λy0=>vB (y0)) x) (λx=>rfl) (λvB dv=>z8v vB dv)
def t130:=t129.p zkn
theorem zkm:cD (Mn Pz) 358 ⟨[.ptr,.ptr,.ptr],⟨[.v (.qi .expr),.v (.qi i64),.v (.qi i64)],[(0,.ptr 0 0),(1,.ptr 1 0),(2,.ptr 2 0)],z3A⟩,[],z3U,0,λx=>gK x.1 x.2.1 x.2.2⟩:=fkr t130 rn hN Tryz.func358
theorem z8u:cD (R9 Pz 416) 358 ⟨[.ptr,.ptr,.ptr,.any],⟨[Mm 3 um,.v (.qi .expr),.v (.qi i64),.v (.qi i64)],[(0,.ptr 0 0),(1,.ptr 1 0),(2,.ptr 2 0)],z3A⟩,[],z3U,0,λx=>yV x.1 x.2.1 x.2.2.1 x.2.2.2⟩:=fkh t130 rn hN Tryz.func358 3
theorem zjW:xw Pz 326 ⟨[.ptr],oj,[],⟨[Mm 0 .expr,Mi 1,Mi 2,.v (.qi xk)],[],Vv⟩,3,λx=>ir x⟩:=fkf t130 rn hN (g:=358) (pt:=416) zkm z8u Tryz.func326
def t131:=t130.s zjW
def zms:Hints:=Hz [] [(0,5,.ways [⟨.normal,⟨[Mb 31,.v (.qi .expr),.v (.qi xk),.v (.qi .expr)],[],[.var (.qi .expr),.var (.qi xk),.var (.qi .expr)]⟩⟩])] []
theorem zjd:q8 Pz 268 ⟨[.ty .str],[.expr,i64,i64],λx=>rb x⟩:=wq t131 rn zms func268 [] zf
def t132:=t131.d zjd
theorem zje:q8 Tryz.prog 269 ⟨[.ty .str,.ty .str],[.bool],λx=>strings_Contains x.1 x.2⟩:=by
 refine jC Tryz.func269 (by kernel_rfl) rfl λZ x xb y hy hI ha => ?_
 obtain⟨s,sub⟩:=x
 obtain⟨h0,hy⟩:=hy
 cases hy
 obtain⟨v0,r,rfl,Kw,ha⟩:=wN.cons_inv (show wN Z [.qi .str s,.qi .str sub] xb from ha)
 obtain⟨v1,r,rfl,IQ,ha⟩:=ha.cons_inv
 rw[ha.we,Kw.jc,IQ.jc]
 obtain⟨m,hm⟩:=kU hI
 refine(Go.Proofs.Tryz.strings_Contains ⟨s.toArray⟩ ⟨sub.toArray⟩ m Z.w (by rw[show(zF ⟨s.toArray⟩)=zH s from E]; exact h0) hm).mono ?_
 rintro e w' ⟨rfl,rfl⟩
 refine⟨Zn _,λ_=>⟨_,rfl,?_⟩⟩
 have e1:Lib.contains s sub=decide ((0:Int)<=Yp s sub):=contains_eq s sub
 show RD _ (.qi .bool (decide ((0:Int)<=Yp s sub))) _
 rw[<- e1]
 exact RD.bool
def t133:=t132.d zje
def zmj:Hints:=Hz [] [(0,6,.ways [⟨.normal,⟨[Mb 34,.v (.qi .expr),.v (.qi .expr)],[],FM⟩⟩]),(3,6,.ways [⟨.normal,⟨[Ms 6,Ms 10,.v (.qi .expr),.v (.qi .expr)],[],FM⟩⟩]),(0,12,.ways [⟨.normal,⟨[Mb 61,.v (.qi .expr),.v (.qi .expr)],[],FM⟩⟩]),(3,11,.ways [⟨.normal,⟨[Mi 7,.v (.qi .expr),.v (.qi .expr)],[],FM⟩⟩])] []
theorem zir:q8 Pz 210 ⟨[.ty .str,.ty .str],[.expr,.expr,.str,i64],λx=>dC x.1 x.2⟩:=wq t133 rn zmj func210 [] zf
def t134:=t133.d zir
def zmm:Hints:=Hz [] [(0,1,.flat [Mb 8])] []
theorem ziu:q8 Pz 213 ⟨[.ty (.sl .str),.ty i64,.ty i64,.ty .str],[.bool],λx=>nu x.1 x.2.1 x.2.2.1 x.2.2.2⟩:=wq t134 rn zmm func213 [] zf
def t136:=t134.d ziu
def zmk:Hints:=Hz [] [(0,3,.ways [⟨.normal,⟨[Mb 11],[],[]⟩⟩])] []
theorem zis:q8 Pz 211 ⟨[.ty (.sl .str),.ty i64],[.str,.bool],λx=>nt x.1 x.2⟩:=wq t136 rn zmk func211 [] zf
def t137:=t136.d zis
def zbi:Hints:=Hz [] [(0,1,.ways [⟨.normal,⟨[Mb 29,.v Vw,.a qs,.a qg,.a xp,.a qw,.a xm,.a xj],[],Hn⟩⟩])] []
theorem P1:xw Pz 155 ⟨Qe,zar,[],z4l,1,λx=>bj x.1 x.2.1 x.2.2.1 x.2.2.2.1 x.2.2.2.2.1 x.2.2.2.2.2.1 x.2.2.2.2.2.2.1 x.2.2.2.2.2.2.2.1 x.2.2.2.2.2.2.2.2⟩:=eC t137 rn zbi func155 [] zf
def t152:=t137.s P1
def zbj:Hints:=Hz [] [(0,1,.ways [⟨.normal,⟨[Mb 31,.v Vw,.a qs,.a qg,.a xp,.a qw,.a xm,.a xj],[],Hn⟩⟩])] []
theorem P2:xw Pz 156 ⟨Qe,zar,[],z4l,1,λx=>cj x.1 x.2.1 x.2.2.1 x.2.2.2.1 x.2.2.2.2.1 x.2.2.2.2.2.1 x.2.2.2.2.2.2.1 x.2.2.2.2.2.2.2.1 x.2.2.2.2.2.2.2.2⟩:=eC t152 rn zbj func156 [] zf
def t153:=t152.s P2
def zbk:Hints:=Hz [] [(0,1,.ways [⟨.normal,⟨[Mb 26,.v Vw,.a qs,.a qg,.a xp,.a qw,.a xm,.a xj],[],Hn⟩⟩])] []
theorem P3:xw Pz 157 ⟨lC,PX,[],R0,1,λx=>cd x.1 x.2.1 x.2.2.1 x.2.2.2.1 x.2.2.2.2.1 x.2.2.2.2.2.1 x.2.2.2.2.2.2.1 x.2.2.2.2.2.2.2⟩:=eC t153 rn zbk func157 [] zf
def t154:=t153.s P3
def zbl:Hints:=Hz [] [(0,1,.ways [zaw])] []
theorem P4:xw Pz 158 ⟨lC,PX,[],R0,1,λx=>cR x.1 x.2.1 x.2.2.1 x.2.2.2.1 x.2.2.2.2.1 x.2.2.2.2.2.1 x.2.2.2.2.2.2.1 x.2.2.2.2.2.2.2⟩:=eC t154 rn zbl func158 [] zf
def t155:=t154.s P4
def zbm:Hints:=Hz [] [(0,1,.ways [zaw])] []
theorem P5:xw Pz 159 ⟨lC,PX,[],R0,1,λx=>cf x.1 x.2.1 x.2.2.1 x.2.2.2.1 x.2.2.2.2.1 x.2.2.2.2.2.1 x.2.2.2.2.2.2.1 x.2.2.2.2.2.2.2⟩:=eC t155 rn zbm func159 [] zf
def t156:=t155.s P5
def zma:Hints:=Hz [] [(0,1,.ways [⟨.normal,⟨[Mb 23,.v Vw,.a qs,.a qg,.a xp,.a qw,.a xm,.a xj],[],Hn⟩⟩]),(0,5,.flat [Mb 44]),(3,5,.ways [zau]),(0,8,.ways [⟨.normal,⟨[Mb 68,.v Vw,.a qs,.a qg,.a xp,.a qw,.a xm,.a xj,.v (.qi qw)],[],[.var Vw,.arr qs,.arr qg,.arr xp,.arr qw,.arr xm,.arr xj,.var (.qi qw)]⟩⟩]),(3,8,.ways [zau])] []
theorem zhP:xw Pz 160 ⟨lC,PX,[],R0,1,λx=>cS x.1 x.2.1 x.2.2.1 x.2.2.2.1 x.2.2.2.2.1 x.2.2.2.2.2.1 x.2.2.2.2.2.2.1 x.2.2.2.2.2.2.2⟩:=eC t156 rn zma func160 [] zf
def t157:=t156.s zhP
def h94:Hints:=Hz [] [(0,3,.flat [Mb 36]),(0,7,.flat [Mb 41]),(0,9,.flat [Mb 53])] []
theorem zp0:xw Pz 94 ⟨lC,⟨[Ms 1,.v Vw,.a qs,.a qg,.a xp,.a qw,.a xm,.a xj],[(0,.ptr 0 0)],Hn⟩,[],z4l,1,λx=>oU x.1 x.2.1 x.2.2.1 x.2.2.2.1 x.2.2.2.2.1 x.2.2.2.2.2.1 x.2.2.2.2.2.2.1 x.2.2.2.2.2.2.2⟩:=eC (((((t157.s P5).s P4).s P3).s P2).s P1) rn h94 func94 [] zf
def t158:=t157.s zp0
def z1K:q9:=Lz [.cell 0 5 xj,.cell 1 5 xj,.cell 0 4 xm,.cell 1 4 xm,.cell 0 0 qs,.cell 1 0 qs,.cell 0 1 qg,.cell 1 1 qg,.cell 0 2 xp,.cell 1 2 xp,.cell 0 3 qw,.cell 1 3 qw] [Mm 14 (.sl .str),Mi 15] ⟨[Mi 16,.v z3G,.v FQ,.a xj,.a xj,.a xm,.a xm,.a qs,.a qs,.a qg,.a qg,.a xp,.a xp,.a qw,.a qw],[(2,.ptr 0 0),(5,.ptr 1 0)],zam⟩ [⟨.exit 0,⟨[.v z3G,.v FQ,.a xj,.a xj,.a xm,.a xm,.a qs,.a qs,.a qg,.a qg,.a xp,.a xp,.a qw,.a qw],[],zam⟩⟩,⟨.ret,⟨[Mi 3,Mi 4,.v (.qi qy),.v FQ,.a xj,.a xj,.a xm,.a xm,.a qs,.a qs,.a qg,.a qg,.a xp,.a xp,.a qw,.a qw],[],[.var (.qi qy),.var FQ,.arr xj,.arr xj,.arr xm,.arr xm,.arr qs,.arr qs,.arr qg,.arr qg,.arr xp,.arr xp,.arr qw,.arr qw]⟩⟩] λp s=>iW p.1 p.2 s
def h39:Hints:=Hz [(0,z1K)] [] []
theorem zco:LO Tryz.f39 z1K 0:=lk t158 rn h39 [] zf
theorem zoe:q8 Pz 39 ⟨[.ty .str],[qy,i64,i64],λx=>nq x⟩:=wq t158 rn h39 func39 [0] (qf rfl zco zf)
def t159:=t158.d zoe
theorem zo1:q8 Pz 22 ⟨[.ty qy],[qy],λx=>ZB x⟩:=wq t159 (rz [1]) hN func22 [] zf
def t160:=t159.d zo1
def h42:Hints:=Hz [] [(3,2,.flat [Mm 3 (.int .u64)])] []
theorem zoh:q8 Pz 42 ⟨[.ty i64],[zl],λx=>yW x⟩:=wq t160 rn h42 func42 [] zf
def t161:=t160.d zoh
def zmb:Hints:=Hz [] [(0,2,.flat [Mb 4])] []
theorem zhU:q8 Pz 165 ⟨[.ty qy,.ty xf],[.bool],λx=>QS x.1 x.2⟩:=wq t161 (rz [2,3]) zmb func165 [] zf
def t162:=t161.d zhU
theorem zix:q8 Pz 216 ⟨[.ty zl],[.bool],λx=>bU x⟩:=wq t162 (rz [1]) hN func216 [] zf
def t163:=t162.d zix
def NM:q9:=Lz [] [Mm 0 (.sl zl),.s 1 (.wi 216 []),Mi 7] cW [kL,od] λp s=>yR p.1 (λz0=>bU z0) p.2.2 s
def zeU:Hints:=Hz [(0,NM)] [] []
theorem z7b:LO Tryz.f227 NM 0:=lk t163 rn zeU [] zf
theorem ziI:q8 Pz 227 ⟨[.ty (.sl zl),.wi 216 []],[i64],λx=>kQ x.1 (λz0=>bU z0)⟩:=wq t163 rn zeU func227 [0] (qf rfl z7b zf)
def t164:=t163.d ziI
theorem zi0:q8 Pz 172 ⟨[.ty (.sl zl),.wi 216 []],[.bool],λx=>vw x.1 (λz0=>bU z0)⟩:=wq t164 rn hN func172 [] zf
def t165:=t164.d zi0
def NU:q9:=Lz [.slot 3 .str] [Mm 7 (.sl qw),Mi 8] ⟨[Mi 9,.a .str],[(3,.cur 0 .str)],nC⟩ [⟨.exit 0,GG⟩] λp s=>r9 p.1 p.2 s
def zf3:Hints:=Hz [(0,NU)] [] []
theorem z7j:LO Tryz.f248 NU 0:=lk t165 (rz [1]) zf3 [] zf
theorem zj3:q8 Pz 248 ⟨[.ty qy],[(.sl .str)],λx=>sF x⟩:=wq t165 (rz [1]) zf3 func248 [0] (qf rfl z7j zf)
def t166:=t165.d zj3
def h59:Hints:=Hz [] [(0,1,.Hb)] []
theorem zov:q8 Pz 59 ⟨[.ty (.sl zl)],[(.sl zl)],λx=>bn x⟩:=wq t166 rn h59 func59 [] zf
def t167:=t166.d zov
def NA:q9:=Lz [.cell 0 0 .str,.cell 0 1 .str,.cell 1 1 .str] [Mm 14 (.sl qg),Mi 15] ⟨[Mi 16,.v z3J,.v z3I,.a .str,.a .str,.a .str],[(4,.ptr 0 0),(5,.ptr 1 0)],z3v⟩ [⟨.exit 0,⟨[.v z3J,.v z3I,.a .str,.a .str,.a .str],[],z3v⟩⟩] λp s=>QV p.1 p.2 s
def zeO:Hints:=Hz [(0,NA)] [] []
theorem z6T:LO Tryz.f184 NA 0:=lk t167 (rz [2]) zeO [] zf
theorem zic:q8 Pz 184 ⟨[.ty qy,.ty (.sl zl)],[wK],λx=>r7 x.1 x.2⟩:=wq t167 (rz [2]) zeO func184 [0] (qf rfl z6T zf)
def t168:=t167.d zic
theorem zjm:q8 Pz 278 ⟨[.ty qs,.rp .str],[.bool],λx=>dN x.1 x.2⟩:=wq t168 (rz [2]) hN func278 [] zf
def t169:=t168.d zjm
def HZ:q9:=Lz [] [Mm 0 (.sl qs),.s 1 (.wi 278 [.rp .str]),Mi 7] cW [kL,od] λp s=>wY p.1 (λz0=>dN z0 p.2.1) p.2.2 s
def z0j:Hints:=Hz [(0,HZ)] [] []
theorem S9:LO Tryz.f100 HZ 0:=lk t169 rn z0j [] zf
theorem OU:q8 Pz 100 ⟨[.ty (.sl qs),.wi 278 [.rp .str]],[i64],λx=>wb x.1 (λz0=>dN z0 x.2)⟩:=wq t169 rn z0j func100 [0] (qf rfl S9 zf)
def t170:=t169.d OU
def zmo:Hints:=Hz [] [(0,2,.flat [Mb 6])] []
theorem ziy:q8 Pz 217 ⟨[.ty qy,.ty (.sl .bool),.ty .str],[.bool],λx=>XN x.1 x.2.1 x.2.2⟩:=wq (t170.d OU) (rz [3,5]) zmo func217 [] zf
def t171:=t170.d ziy
def zmC:Hints:=Hz [] [(0,1,.flat [Mb 12])] []
theorem zkf:q8 Pz 346 ⟨[.ty (.sl zl),.ty i64],[zl],λx=>lF x.1 x.2⟩:=wq t171 rn zmC func346 [] zf
def t172:=t171.d zkf
theorem zkt:q8 Pz 367 ⟨[.ty .str,.ty wK],[zr,i64],λx=>XG x.1 x.2⟩:=wq t172 (rz [3]) hN func367 [] zf
def t173:=t172.d zkt
theorem zk5:q8 Pz 336 ⟨[.ty zl,.ty zl],[zl],λx=>oP x.1 x.2⟩:=wq t173 rn hN func336 [] zf
def t174:=t173.d zk5
theorem ziK:q8 Pz 229 ⟨[.ty zl],[.bool],λx=>iM x⟩:=wq t174 (rz [1]) hN func229 [] zf
def t175:=t174.d ziK
def O3:q9:=Lz [.cell 0 1 qj,.cell 1 1 qj] [Mr 3 zl,Mm 17 (.sl qj),Mi 18] ⟨[Mi 19,.v BQ,.v BR,.a qj,.a qj],[(4,.ptr 0 0),(5,.ptr 1 0)],z3D⟩ [z4x] λp s=>Zj p.1 p.2.1 p.2.2 s
def zfa:Hints:=Hz [(0,O3)] [] []
theorem z7s:LO Tryz.f281 O3 0:=lk t175 (rz [2,3]) zfa [] zf
theorem zjp:q8 Pz 281 ⟨[.ty zr,.ty zl],[zr],λx=>dH x.1 x.2⟩:=wq t175 (rz [2,3]) zfa func281 [0] (qf rfl z7s zf)
def t176:=t175.d zjp
def Oz:q9:=Lz [] [Mm 1 (.sl u32),Mm 22 (.sl u32),Mi 23] ⟨[Mm 7 u32,Mi 24,.a u32],[(6,.cur 0 u32)],fE⟩ [⟨.exit 0,⟨[.a u32],[(6,.cur 0 u32)],fE⟩⟩] λp s=>Ve p.1 p.2.1 p.2.2 s
def zfr:Hints:=Hz [(0,Oz)] [(3,10,.flat [Mm 10 u32])] [(14,[6])]
theorem z7U:LO Tryz.f369 Oz 0:=lk t176 rn zfr [] zf
theorem zkv:q8 Pz 369 ⟨[.ty (.sl u32),.ty (.sl u32)],[(.sl u32),.bool],λx=>Ui x.1 x.2⟩:=wq t176 rn zfr func369 [0] (qf rfl z7U zf)
def t177:=t176.d zkv
theorem zk4:q8 Pz 335 ⟨[.ty zl,.ty zl],[zl],λx=>oO x.1 x.2⟩:=wq t177 rn hN func335 [] zf
def t178:=t177.d zk4
def O2:q9:=Lz [.cell 0 1 qj,.cell 1 1 qj] [] ⟨[Mm 6 (.sl qj),Mm 7 (.sl qj),.v BQ,.v BR,.a qj,.a qj],[(4,.ptr 0 0),(5,.ptr 1 0)],z3D⟩ [z4x] λp s=>WO  s
def zf9:Hints:=Hz [(0,O2)] [(0,6,.flat [Mb 46]),(0,8,.flat [Mb 78]),(2,6,.ways [⟨.normal,⟨[Mm 6 (.sl qj),Mm 7 (.sl qj),.v BQ,.v BR,.a qj,.a qj,.v (.qi qj)],[],[.var BQ,.var BR,.arr qj,.arr qj,.var (.qi qj)]⟩⟩])] []
theorem z7r:LO Tryz.f280 O2 0:=lk t178 (rz [2,3]) zf9 [] zf
theorem zjo:q8 Pz 280 ⟨[.ty zr,.ty zr],[zr],λx=>XE x.1 x.2⟩:=wq t178 (rz [2,3]) zf9 func280 [0] (qf rfl z7r zf)
def t179:=t178.d zjo
theorem zkc:q8 Pz 343 ⟨[.ty zl,.ty zl],[zl,.bool],λx=>sT x.1 x.2⟩:=wq t179 (rz [2]) hN func343 [] zf
def t180:=t179.d zkc
def zmE:Hints:=Hz [] [(0,7,.flat [Mb 34])] []
theorem zku:q8 Pz 368 ⟨[.ty i64,.ty zr,.ty zr],[zr,i64],λx=>Zk x.1 x.2.1 x.2.2⟩:=wq t180 (rz [4,5]) zmE func368 [] zf
def t181:=t180.d zku
abbrev zee:=dV [.ty .expr,.ty wK]->T (Dq [zr,i64])
abbrev zlT(F:zee):=q8 Pz 334 ⟨[.ty .expr,.ty wK],[zr,i64],F⟩
theorem z8s(Hr:zee)(z0F:zlT Hr):q8 Pz 334 ⟨[.ty .expr,.ty wK],[zr,i64],λx=>dI (λy0 y1=>Hr (y0,y1)) x.1 x.2⟩:=wq (t181.d z0F) (rz [2,3]) hN func334 [] zf
theorem zk3:q8 Pz 334 ⟨[.ty .expr,.ty wK],[zr,i64],λx=>Km x.1 x.2⟩:=Yi (λHr x=>dI (λy0 y1=>Hr (y0,y1)) x.1 x.2) (λx=>rfl) (λHr z0F=>z8s Hr z0F)
def t182:=t181.d zk3
theorem zjn:q8 Pz 279 ⟨[.ty .expr,.ty wK],[zr,i64],λx=>KU x.1 x.2⟩:=wq t182 (rz [2,3]) hN func279 [] zf
def t183:=t182.d zjn
theorem ziz:q8 Pz 218 ⟨[.ty xm,.ty wK],[zr,i64],λx=>ZA x.1 x.2⟩:=wq t183 (rz [2,3]) hN func218 [] zf
def t184:=t183.d ziz
theorem zjr:q8 Pz 283 ⟨[.ty qj],[.bool],λx=>gV x⟩:=wq t184 (rz [1]) hN func283 [] zf
def t185:=t184.d zjr
def Ol:q9:=Lz [] [Mm 0 (.sl qj),.s 1 (.wi 283 []),Mi 7] cW [kL,od] λp s=>yk p.1 (λz0=>gV z0) p.2.2 s
def zfl:Hints:=Hz [(0,Ol)] [] []
theorem z7K:LO Tryz.f337 Ol 0:=lk t185 rn zfl [] zf
theorem zk6:q8 Pz 337 ⟨[.ty (.sl qj),.wi 283 []],[i64],λx=>ki x.1 (λz0=>gV z0)⟩:=wq t185 rn zfl func337 [0] (qf rfl z7K zf)
def t186:=t185.d zk6
theorem zjq:q8 Pz 282 ⟨[.ty (.sl qj),.wi 283 []],[.bool],λx=>vZ x.1 (λz0=>gV z0)⟩:=wq t186 rn hN func282 [] zf
def t187:=t186.d zjq
theorem ziA:q8 Pz 219 ⟨[.ty zr],[.bool],λx=>Zz x⟩:=wq t187 (rz [1]) hN func219 [] zf
def t188:=t187.d ziA
def Nu:q9:=Lz [.cell 1 0 zr,.cell 1 1 i64] [Mm 2 (.sl .bool),Mr 3 qy,Mm 52 (.sl xm),Mi 53] ⟨[Mi 54,.v Dl,.v PV,.v (.qi wK),.a zr,.a i64],[(6,.ptr 0 0),(11,.ptr 1 0),(12,.ptr 2 0)],PK⟩ [⟨.exit 0,z3O⟩,zav] λp s=>fZ p.1 p.2.1 p.2.2.1 p.2.2.2 s
def Nv:q9:=Lz [] [Mr 3 qy,Mi 92] ⟨[Mi 93,.v Dl,.v PV,.v (.qi wK),.a zr,.a i64],[(6,.ptr 0 0),(11,.ptr 1 0),(91,.cur 3 zr)],PK⟩ [⟨.exit 2,z3O⟩,zav] λp s=>ic p.1 p.2 s
def zbn:Hints:=Hz [(0,Nu),(2,Nv)] [(0,4,.ways [⟨.normal,⟨[Mb 46,.v Dl],[],[.var Dl]⟩⟩])] []
theorem z6O:LO Tryz.f166 Nu 0:=lk t188 (rz [3]) zbn [] zf
theorem z6P:LO Tryz.f166 Nv 2:=lk t188 (rz [3]) zbn [] zf
theorem zhV:xw Pz 166 ⟨[.any,.any,.any],⟨[Mm 0 qy,Mm 1 (.sl zl),Mm 2 (.sl .bool)],[],[]⟩,[],⟨[.s 0 (.st [.row 0 zr,.row 1 i64]),Ms 1,Mi 2,.a zr,.a i64],[],[.arr zr,.arr i64]⟩,3,λx=>mT x.1 x.2.1 x.2.2⟩:=eC t188 (rz [3]) zbn func166 [0,2] (qf rfl z6O (qf rfl z6P zf))
def t189:=t188.s zhV
def zmt:Hints:=Hz [] [(0,1,.ways [⟨.normal,z3S⟩])] []
theorem zjG:q8 Pz 298 ⟨[.ty .bool,.ty zl],[zl],λx=>Vl x.1 x.2⟩:=wq t189 rn zmt func298 [] zf
def t190:=t189.d zjG
theorem ziO:q8 Pz 233 ⟨[.ty zl],[zl],λx=>Q2 x⟩:=wq t190 rn hN func233 [] zf
def t191:=t190.d ziO
theorem zi8:q8 Pz 180 ⟨[.ty i64,.ty zl],[zr],λx=>Cd x.1 x.2⟩:=wq t191 (rz [3]) hN func180 [] zf
def t192:=t191.d zi8
theorem zha:xw Pz 107 ⟨[.ptr,.any,.any,.any],⟨[Mi 1,Mm 2 zl,Mi 3,.v Kl,.a zr,.a i64,.a i64],[(0,.ptr 0 0)],UQ⟩,[],z4r,0,λx=>kN x.1 x.2.1 x.2.2.1 x.2.2.2.1 x.2.2.2.2.1 x.2.2.2.2.2.1 x.2.2.2.2.2.2⟩:=eC t192 (rz [6]) hN func107 [] zf
def t193:=t192.s zha
def z27:q9:=Lz [.cell 3 7 i64] [Mr 3 xf,Mi 53] ⟨[Mi 54,.a zr,.a i64,.v Dm,.v z9a,.a i64],[(10,.ptr 3 0),(52,.cur 1 i64)],z3z⟩ [⟨.exit 1,z3P⟩] λp s=>pU p.1 p.2 s
def z29:q9:=Lz [] [Mm 74 (.sl zm),Mi 75] ⟨[Mi 76,.a zr,.a i64,.v Dm,.v z9a,.a i64],[(10,.ptr 3 0)],z3z⟩ [⟨.exit 3,z3P⟩] λp s=>pV p.1 p.2 s
def h97:Hints:=Hz [(1,z27),(3,z29)] [(0,4,.flat [Mb 30]),(3,19,.flat [Mi 15])] []
theorem zcE:LO Tryz.f97 z27 1:=lk t193 (rz [2,3]) h97 [] zf
theorem zcF:LO Tryz.f97 z29 3:=lk t193 (rz [2,3]) h97 [] zf
theorem zkQ:jB Pz 97 ⟨GB,z42,[],⟨[Mi 2,.v Kl,.a zr,.a i64,.a i64],[(0,.ptr 0 0),(1,.wF)],UQ⟩,3,0,⟨[.s 1 (.tight .str),Mi 2],[(0,.gX)],[]⟩,some 3,λx=>db x.1 x.2⟩:=Kt t193 (rz [2,3]) h97 func97 [1,3] (qf rfl zcE (qf rfl zcF zf))
def t194:=t193.p zkQ
def NG:q9:=Lz [] [Mi 1,Mm 23 (.sl qj),Mi 24] ⟨[Mi 5,Mi 25],[],[]⟩ [kL,FY] λp s=>p9 p.1 p.2.1 p.2.2 s
def zeT:Hints:=Hz [(0,NG)] [(0,1,.ways [⟨.normal,⟨[Mb 21],[],[]⟩⟩]),(0,7,.ways [⟨.normal,⟨[Mb 51,.v (.qi qj)],[],[.var (.qi qj)]⟩⟩])] []
theorem z6Y:LO Tryz.f222 NG 0:=lk t194 (rz [2]) zeT [] zf
theorem ziD:q8 Pz 222 ⟨[.ty zr,.ty i64],[.bool],λx=>cY x.1 x.2⟩:=wq t194 (rz [2]) zeT func222 [0] (qf rfl z6Y zf)
def t195:=t194.d ziD
theorem ziC:q8 Pz 221 ⟨[.ty zr,.rp i64],[.bool],λx=>yS x.1 x.2⟩:=wq t195 (rz [2]) hN func221 [] zf
def t196:=t195.d ziC
def O4:q9:=Lz [] [Mm 0 (.sl zr),.s 1 (.wi 221 [.rp i64]),Mi 7] cW [kL,od] λp s=>dD p.1 (λz0=>yS z0 p.2.1) p.2.2 s
def zfb:Hints:=Hz [(0,O4)] [] []
theorem z7t:LO Tryz.f284 O4 0:=lk t196 rn zfb [] zf
theorem zjs:q8 Pz 284 ⟨[.ty (.sl zr),.wi 221 [.rp i64]],[i64],λx=>bF x.1 (λz0=>yS z0 x.2)⟩:=wq t196 rn zfb func284 [0] (qf rfl z7t zf)
def t197:=t196.d zjs
theorem ziB:q8 Pz 220 ⟨[.ty (.sl zr),.wi 221 [.rp i64]],[.bool],λx=>yQ x.1 (λz0=>yS z0 x.2)⟩:=wq t197 rn hN func220 [] zf
def t198:=t197.d ziB
def OA:q9:=Lz [] [] z3Q [⟨.exit 0,⟨[Mi 1,.a i64],[],jO⟩⟩] λp s=>cF  s
def zfs:Hints:=Hz [(0,OA)] [] []
theorem z7V:LO Tryz.f370 OA 0:=lk t198 rn zfs [] zf
theorem zkw:xw Pz 370 ⟨[.sub,.any],z3Q,[],⟨[Mi 0,.a i64],[],jO⟩,1,λx=>yK x.1 x.2.1 x.2.2⟩:=eC t198 rn zfs func370 [0] (qf rfl z7V zf)
def t199:=t198.s zkw
theorem zk7:xw Pz 338 ⟨[.sub,.any,.any],⟨[.s 0 (.sub 0 i64),Mi 1,Mi 2,.a i64],[],jO⟩,[],⟨[Mb 0,.a i64],[],jO⟩,1,λx=>bg x.1 x.2.1 x.2.2.1 x.2.2.2⟩:=eC t199 rn hN func338 [] zf
def t200:=t199.s zk7
def O5:q9:=Lz [] [Mm 0 (.sl zr),Mi 1,Mi 18] ⟨[Mi 19,.a i64],[(6,.cur 0 i64)],jO⟩ [⟨.exit 0,⟨[.a i64],[(6,.cur 0 i64)],jO⟩⟩] λp s=>nR p.1 p.2.1 p.2.2 s
def O7:q9:=Lz [] [Mi 1,Mi 9,Mm 27 (.sl zr),Mi 28,Mi 29] ⟨[Mi 8,Mi 11,.a i64,.v (.qi zr)],[(6,.cur 0 i64),(10,.ptr 1 0)],Ma⟩ [⟨.exit 4,⟨[Mi 8,.a i64,.v (.qi zr)],[(6,.cur 0 i64)],Ma⟩⟩] λp s=>eJ p.1 p.2.1 p.2.2.1 p.2.2.2.1 p.2.2.2.2 s
def O6:q9:=Lz [] [Mi 1,Mm 27 (.sl zr),Mi 28] ⟨[Mi 8,Mi 29,.a i64],[(6,.cur 0 i64)],jO⟩ [⟨.exit 2,⟨[Mi 8,.a i64],[(6,.cur 0 i64)],jO⟩⟩] λp s=>nS p.1 p.2.1 p.2.2 s
def z5H:Hints:=Hz [(0,O5),(4,O7),(2,O6)] [(0,16,.ways [⟨.normal,⟨[Mb 62,.a i64,.v (.qi zr)],[(6,.cur 0 i64)],Ma⟩⟩])] []
theorem z7u:LO Tryz.f285 O5 0:=lk t200 rn z5H [] zf
theorem z7w:LO Tryz.f285 O7 4:=lk t200 rn z5H [] zf
theorem z7v:LO Tryz.f285 O6 2:=lk t200 rn z5H [4] (qf rfl z7w zf)
theorem zjt:q8 Pz 285 ⟨[.ty (.sl zr),.ty i64],[(.sl i64),i64],λx=>ZJ x.1 x.2⟩:=wq t200 rn z5H func285 [0,2] (qf rfl z7u (qf rfl z7v zf))
def t201:=t200.d zjt
theorem ziE:q8 Pz 223 ⟨[.ty (.sl zr),.ty i64],[i64],λx=>mY x.1 x.2⟩:=wq t201 rn hN func223 [] zf
def t202:=t201.d ziE
def h61:Hints:=Hz [] [(0,1,.Hb)] []
theorem zcT:xw Pz 61 ⟨[.any],⟨[Mm 0 (.sl i64)],[],[]⟩,[],Mh,1,λx=>uR x⟩:=eC t202 rn h61 func61 [] zf
def t203:=t202.s zcT
theorem zkz:q8 Pz 374 ⟨[.ty (.int .u64),.ty (.int .u64)],[(.int .u64),(.int .u64)],λx=>nV x.1 x.2⟩:=wq t203 rn hN func374 [] zf
def t204:=t203.d zkz
theorem zkd:q8 Pz 344 ⟨[.ty (.int .u64),.ty (.int .u64)],[(.int .u64),(.int .u64)],λx=>mJ x.1 x.2⟩:=wq t204 rn hN func344 [] zf
def t205:=t204.d zkd
def Od:q9:=Lz [] [] ⟨[Mi 8,.a i64],[(7,.cur 0 i64)],jO⟩ [⟨.exit 0,⟨[.a i64],[(7,.cur 0 i64)],jO⟩⟩] λp s=>gv  s
def zff:Hints:=Hz [(0,Od)] [(0,4,.flat [Mb 26])] []
theorem z7C:LO Tryz.f293 Od 0:=lk t205 rn zff [] zf
theorem zjB:xw Pz 293 ⟨GB,⟨[Mm 0 (.sl i64),Mi 1],[],[]⟩,[],Mh,1,λx=>yo x.1 x.2⟩:=eC t205 rn zff func293 [0] (qf rfl z7C zf)
def t206:=t205.s zjB
theorem zke:q8 Pz 345 ⟨[.ty qj,.rp i64],[.bool],λx=>bR x.1 x.2⟩:=wq t206 (rz [2]) hN func345 [] zf
def t207:=t206.d zke
def Bb:q9:=Lz [] [Mm 0 (.sl qj),.s 1 (.wi 345 [.rp i64]),Mi 7] cW [kL,od] λp s=>yk p.1 (λz0=>bR z0 p.2.1) p.2.2 s
def z0v:Hints:=Hz [(0,Bb)] [] []
theorem Sq:LO Tryz.f337 Bb 0:=lk t207 rn z0v [] zf
theorem Pd:q8 Pz 337 ⟨[.ty (.sl qj),.wi 345 [.rp i64]],[i64],λx=>ki x.1 (λz0=>bR z0 x.2)⟩:=wq t207 rn z0v func337 [0] (qf rfl Sq zf)
def t208:=t207.d Pd
theorem P9:q8 Pz 282 ⟨[.ty (.sl qj),.wi 345 [.rp i64]],[.bool],λx=>vZ x.1 (λz0=>bR z0 x.2)⟩:=wq (t208.d Pd) rn hN func282 [] zf
def t209:=t208.d P9
theorem zjC:q8 Pz 294 ⟨[.ty zr,.ty i64],[.bool],λx=>XJ x.1 x.2⟩:=wq (t209.d P9) (rz [2,3]) hN func294 [] zf
def t210:=t209.d zjC
theorem zjD:q8 Pz 295 ⟨[.ty (.sl zr),.ty i64],[.bool],λx=>oD x.1 x.2⟩:=wq t210 rn hN func295 [] zf
def t211:=t210.d zjD
def NO:q9:=Lz [] [Mm 0 (.sl zr),Mm 1 (.sl i64),Mi 2,Mm 38 (.sl zr),Mi 39] ⟨[Mi 40,.a i64,.a i64,.v BT],[(8,.ptr 2 0)],M8⟩ [⟨.exit 0,⟨[.a i64,.a i64,.v BT],[],M8⟩⟩,⟨.ret,⟨[Mb 7,.a i64,.a i64,.v BT],[(6,.gX)],M8⟩⟩] λp s=>fO p.1 p.2.1 p.2.2.1 p.2.2.2.1 p.2.2.2.2 s
def zeX:Hints:=Hz [(0,NO)] [(0,1,.flat [Mb 29]),(0,11,.ways [⟨.normal,⟨[Mb 68,.a i64,.a i64,.v BT,.v (.qi zr)],[],[.arr i64,.arr i64,.var BT,.var (.qi zr)]⟩⟩])] []
theorem z7d:LO Tryz.f230 NO 0:=lk t211 rn zeX [] zf
theorem ziL:jB Pz 230 ⟨[.any,.any,.any],⟨[Mm 0 (.sl zr),Mm 1 (.sl i64),Mi 2],[],[]⟩,[],⟨[Mb 1,.v su,.a i64,.a i64],[(0,.ptr 0 0)],UP⟩,2,0,⟨[Mb 1],[(0,.gX)],[]⟩,some 2,λx=>bq x.1 x.2.1 x.2.2⟩:=Kt t211 rn zeX func230 [0] (qf rfl z7d zf)
def t212:=t211.p ziL
def zfz:Hints:=Hz [] [(0,1,.Hb)] []
theorem z2x:q8 Pz 61 ⟨[.ty (.sl i64)],[(.sl i64)],λx=>y6 x⟩:=wq t212 rn zfz func61 [] zf
def t213:=t212.d z2x
theorem zk9:q8 Pz 340 ⟨[.ty i64],[.bool],λx=>cmp_isNaN_int x⟩:=wq t213 rn hN func340 [] zf
def t214:=t213.d zk9
theorem zjw:q8 Pz 288 ⟨[.ty i64,.ty i64],[i64],λx=>cmp_Compare_int x.1 x.2⟩:=wq t214 rn hN func288 [] zf
def t215:=t214.d zjw
theorem zjv:q8 Pz 287 ⟨[.ty i64,.ty i64,.rp (.sl zr)],[i64],λx=>wv x.1 x.2.1 x.2.2⟩:=wq t215 rn hN func287 [] zf
def t216:=t215.d zjv
def OC:q9:=Lz [] [Mi 1,Mi 2,.s 3 (.wi 287 [.rp (.sl zr)]),Mi 8] ⟨[.s 0 (.sub 0 i64),Mi 9,.a i64],[],jO⟩ [⟨.exit 2,z4t⟩] λp s=>uK p.1 p.2.1 (λz0 z1=>wv z0 z1 p.2.2.1) p.2.2.2 s
def OB:q9:=Lz [] [Mi 1,Mi 2,.s 3 (.wi 287 [.rp (.sl zr)])] ⟨[.s 0 (.sub 0 i64),Mi 8,.a i64],[],jO⟩ [⟨.exit 0,th⟩] λp s=>uJ p.1 p.2.1 (λz0 z1=>wv z0 z1 p.2.2) s
def zbt:Hints:=Hz [(2,OC),(0,OB)] [(0,4,.ways [⟨.normal,⟨[.s 0 (.sub 0 i64),Mb 34,.a i64],[],jO⟩⟩])] []
theorem z7X:LO Tryz.f371 OC 2:=lk t216 rn zbt [] zf
theorem z7W:LO Tryz.f371 OB 0:=lk t216 rn zbt [2] (qf rfl z7X zf)
theorem zkx:xw Pz 371 ⟨[.sub,.any,.any,.wi 287],⟨[.s 0 (.sub 0 i64),Mi 1,Mi 2,.s 3 (.wi 287 [.rp (.sl zr)]),.a i64],[],jO⟩,[],th,0,λx=>va x.1 x.2.1 x.2.2.1 (λz0 z1=>wv z0 z1 x.2.2.2.1) x.2.2.2.2⟩:=eC t216 rn zbt func371 [0] (qf rfl z7W zf)
def t217:=t216.s zkx
def OK:q9:=Lz [] [Mi 1,Mi 2,Mi 3] z4p [⟨.exit 0,th⟩] λp s=>jt p.1 p.2.1 p.2.2 s
def zfv:Hints:=Hz [(0,OK)] [] []
theorem z89:LO Tryz.f394 OK 0:=lk t217 rn zfv [] zf
theorem zkH:xw Pz 394 ⟨[.sub,.any,.any,.any,.wi 287],BU,[],th,0,λx=>wZ x.1 x.2.1 x.2.2.1 x.2.2.2.1 (λz0 z1=>wv z0 z1 x.2.2.2.2.1) x.2.2.2.2.2⟩:=eC t217 rn zfv func394 [0] (qf rfl z89 zf)
def t218:=t217.s zkH
def OJ:q9:=Lz [] [Mi 2,.s 4 (.wi 287 [.rp (.sl zr)])] zat [⟨.exit 0,z4p⟩] λp s=>kE p.1 (λz0 z1=>wv z0 z1 p.2) s
def zfu:Hints:=Hz [(0,OJ)] [] []
theorem z88:LO Tryz.f383 OJ 0:=lk t218 rn zfu [] zf
theorem zkE:xw Pz 383 ⟨[.sub,.any,.any,.any,.wi 287],BU,[],th,0,λx=>jr x.1 x.2.1 x.2.2.1 x.2.2.2.1 (λz0 z1=>wv z0 z1 x.2.2.2.2.1) x.2.2.2.2.2⟩:=eC t218 rn zfu func383 [0] (qf rfl z88 zf)
def t219:=t218.s zkE
abbrev VB:=uq.den BU->T (uq.den th)
abbrev I5(F:VB):=xw Pz 372 ⟨[.sub,.any,.any,.any,.wi 287],BU,[],th,0,F⟩
def Rf(vq:VB)(fk:I5 vq):Tb:=t219.s fk
def OD(vq:VB):q9:=Lz [] [Mi 1,.s 4 (.wi 287 [.rp (.sl zr)])] zat [⟨.exit 0,z4p⟩] λp s=>uf (λy0 y1 y2 y3 y4 y5=>vq (y0,y1,y2,y3,y4,y5)) p.1 p.2 s
def OE(vq:VB):q9:=Lz [] [Mi 10] ⟨[.s 0 (.sub 0 i64),Mi 13,.a i64],[],jO⟩ [⟨.exit 2,th⟩] λp s=>ug (λy0 y1 y2 y3 y4 y5=>vq (y0,y1,y2,y3,y4,y5)) p s
def OF(vq:VB):q9:=Lz [] [Mi 2,.s 4 (.wi 287 [.rp (.sl zr)])] ⟨[.s 0 (.sub 0 i64),Mi 14,Mi 15,.a i64],[],jO⟩ [⟨.exit 4,⟨[.s 0 (.sub 0 i64),Mi 14,.a i64],[],jO⟩⟩] λp s=>uh (λy0 y1 y2 y3 y4 y5=>vq (y0,y1,y2,y3,y4,y5)) p.1 p.2 s
def OG(vq:VB):q9:=Lz [] [Mi 14] ⟨[.s 0 (.sub 0 i64),Mi 17,.a i64],[],jO⟩ [⟨.exit 6,th⟩] λp s=>ui (λy0 y1 y2 y3 y4 y5=>vq (y0,y1,y2,y3,y4,y5)) p s
def OH(vq:VB):q9:=Lz [] [Mi 1,Mi 2,Mi 3,.s 4 (.wi 287 [.rp (.sl zr)]),Mi 18,Mi 19,Mi 22] ⟨[.s 0 (.sub 0 i64),Mi 20,Mi 21,.a i64],[],jO⟩ [⟨.exit 8,⟨[.s 0 (.sub 0 i64),Mi 20,.a i64],[],jO⟩⟩] λp s=>uj (λy0 y1 y2 y3 y4 y5=>vq (y0,y1,y2,y3,y4,y5)) p.1 p.2.1 p.2.2.1 p.2.2.2.1 p.2.2.2.2.1 p.2.2.2.2.2.1 p.2.2.2.2.2.2 s
def RJ(vq:VB):Hints:=Hz [(0,OD vq),(2,OE vq),(4,OF vq),(6,OG vq),(8,OH vq)] [(3,27,.flat [Mi 20,Mi 21]),(0,39,.flat [Mb 185]),(3,39,.ways [⟨.normal,z4t⟩]),(0,41,.flat [Mb 199]),(3,41,.ways [⟨.normal,z4t⟩]),(0,43,.flat [Mb 213])] []
theorem z7Y(vq:VB)(fk:I5 vq):LO Tryz.f372 (OD vq) 0:=lk (Rf vq fk) rn (RJ vq) [] zf
theorem z7Z(vq:VB)(fk:I5 vq):LO Tryz.f372 (OE vq) 2:=lk (Rf vq fk) rn (RJ vq) [] zf
theorem z81(vq:VB)(fk:I5 vq):LO Tryz.f372 (OF vq) 4:=lk (Rf vq fk) rn (RJ vq) [] zf
theorem z83(vq:VB)(fk:I5 vq):LO Tryz.f372 (OG vq) 6:=lk (Rf vq fk) rn (RJ vq) [] zf
theorem z84(vq:VB)(fk:I5 vq):LO Tryz.f372 (OH vq) 8:=lk (Rf vq fk) rn (RJ vq) [] zf
theorem z8w(vq:VB)(fk:I5 vq):xw Pz 372 ⟨[.sub,.any,.any,.any,.wi 287],BU,[],th,0,λx=>vx (λy0 y1 y2 y3 y4 y5=>vq (y0,y1,y2,y3,y4,y5)) x.1 x.2.1 x.2.2.1 x.2.2.2.1 x.2.2.2.2.1 x.2.2.2.2.2⟩:=eC (Rf vq fk) rn (RJ vq) func372 [0,2,4,6,8] (qf rfl (z7Y vq fk) (qf rfl (z7Z vq fk) (qf rfl (z81 vq fk) (qf rfl (z83 vq fk) (qf rfl (z84 vq fk) zf)))))
theorem zky:xw Pz 372 ⟨[.sub,.any,.any,.any,.wi 287],BU,[],th,0,λx=>vQ x.1 x.2.1 x.2.2.1 x.2.2.2.1 x.2.2.2.2.1 x.2.2.2.2.2⟩:=Kv (λvq x=>vx (λy0 y1 y2 y3 y4 y5=>vq (y0,y1,y2,y3,y4,y5)) x.1 x.2.1 x.2.2.1 x.2.2.2.1 x.2.2.2.2.1 x.2.2.2.2.2) (λx=>rfl) (λvq fk=>z8w vq fk)
def t220:=t219.s zky
def Om:q9:=Lz [] [Mi 1,.s 2 (.wi 287 [.rp (.sl zr)]),Mi 6] z3L [⟨.exit 0,z3R⟩] λp s=>kI p.1 p.2.1 p.2.2 s
def Oo:q9:=Lz [] [Mi 1,.s 2 (.wi 287 [.rp (.sl zr)]),Mi 6] z3L [⟨.exit 4,z3R⟩] λp s=>kK p.1 p.2.1 p.2.2 s
def On:q9:=Lz [] [Mi 1,.s 2 (.wi 287 [.rp (.sl zr)])] ⟨[.s 0 (.sub 0 i64),Mi 6,.a i64],[],jO⟩ [⟨.exit 2,th⟩] λp s=>kJ p.1 p.2 s
def z5I:Hints:=Hz [(0,Om),(4,Oo),(2,On)] [] []
theorem z7L:LO Tryz.f339 Om 0:=lk t220 rn z5I [] zf
theorem z7N:LO Tryz.f339 Oo 4:=lk t220 rn z5I [] zf
theorem z7M:LO Tryz.f339 On 2:=lk t220 rn z5I [4] (qf rfl z7N zf)
theorem zk8:xw Pz 339 ⟨[.sub,.any,.wi 287],⟨[.s 0 (.sub 0 i64),Mi 1,.s 2 (.wi 287 [.rp (.sl zr)]),.a i64],[],jO⟩,[],th,0,λx=>js x.1 x.2.1 x.2.2.1 x.2.2.2⟩:=eC t220 rn z5I func339 [0,2] (qf rfl z7L (qf rfl z7M zf))
def t221:=t220.s zk8
theorem zju:xw Pz 286 ⟨[.sub,.wi 287],⟨[.s 0 (.sub 0 i64),.s 1 (.wi 287 [.rp (.sl zr)]),.a i64],[],jO⟩,[],th,0,λx=>ux x.1 x.2.1 x.2.2⟩:=eC t221 rn hN func286 [] zf
def t222:=t221.s zju
def O8:q9:=Lz [] [Mm 0 (.sl i64),Mm 1 (.sl i64),Mi 12] z4e [kL,FY] λp s=>cm p.1 p.2.1 p.2.2 s
def zfc:Hints:=Hz [(0,O8)] [] []
theorem z7x:LO Tryz.f289 O8 0:=lk t222 rn zfc [] zf
theorem zjx:q8 Pz 289 ⟨[.ty (.sl i64),.ty (.sl i64)],[.bool],λx=>y7 x.1 x.2⟩:=wq t222 rn zfc func289 [0] (qf rfl z7x zf)
def t223:=t222.d zjx
abbrev Rh:=uq.den FT->T (uq.den FU)
abbrev zaD(F:Rh):=xw Pz 347 ⟨lC,FT,[],FU,1,F⟩
def zeb(fc:Rh)(JH:zaD fc):Tb:=t223.s JH
def Oq(fc:Rh):q9:=Lz [] [Mi 1,Mm 33 (.sl qj),Mi 34] ⟨[Mi 6,Mi 35,.v su,.a i64,.a i64],[(0,.ptr 0 0)],UP⟩ [⟨.exit 0,⟨[Mi 6,.v su,.a i64,.a i64],[],UP⟩⟩] λp s=>kc (λy0 y1 y2 y3=>fc (y0,y1,y2,y3)) p.1 p.2.1 p.2.2 s
def zfm(fc:Rh):Hints:=Hz [(0,Oq fc)] [] []
theorem z7O(fc:Rh)(JH:zaD fc):LO Tryz.f347 (Oq fc) 0:=lk (zeb fc JH) rn (zfm fc) [] zf
theorem z8t(fc:Rh)(JH:zaD fc):xw Pz 347 ⟨lC,FT,[],FU,1,λx=>j5 (λy0 y1 y2 y3=>fc (y0,y1,y2,y3)) x.1 x.2.1 x.2.2.1 x.2.2.2⟩:=eC (zeb fc JH) rn (zfm fc) func347 [0] (qf rfl (z7O fc JH) zf)
theorem zkg:xw Pz 347 ⟨lC,FT,[],FU,1,λx=>jJ x.1 x.2.1 x.2.2.1 x.2.2.2⟩:=Kv (λfc x=>j5 (λy0 y1 y2 y3=>fc (y0,y1,y2,y3)) x.1 x.2.1 x.2.2.1 x.2.2.2) (λx=>rfl) (λfc JH=>z8t fc JH)
def t224:=t223.s zkg
def Of:q9:=Lz [] [Mm 27 (.sl qj),Mi 28] ⟨[Mi 7,Mi 8,Mi 29,.v FR,.v .mp,.a i64,.a i64],[(0,.ptr 0 0),(2,.yL 1)],PN⟩ [⟨.exit 0,⟨[Mi 7,.v FR,.v .mp,.a i64,.a i64],[],PN⟩⟩] λp s=>gi p.1 p.2 s
def zfh:Hints:=Hz [(0,Of)] [(0,6,.flat [Mb 46])] []
theorem z7E:LO Tryz.f297 Of 0:=lk t224 rn zfh [] zf
theorem zjF:xw Pz 297 ⟨Qe,⟨[Mi 1,.v FR,.v .mp,.a i64,.a i64],[(0,.ptr 0 0),(2,.yL 1)],PN⟩,[],⟨[Mi 0,.v FR,.v .mp,.a i64,.a i64],[],PN⟩,1,λx=>yc x.1 x.2.1 x.2.2.1 x.2.2.2.1 x.2.2.2.2⟩:=eC t224 rn zfh func297 [0] (qf rfl z7E zf)
def t225:=t224.s zjF
def Oa:q9:=Lz [] [Mi 6,Mm 54 (.sl qj),Mi 55] ⟨[Mi 56,.v su,.a i64,.a i64,.v .mp],[(0,.ptr 0 0),(4,.yL 3)],z3u⟩ [⟨.exit 2,PZ⟩] λp s=>yH p.1 p.2.1 p.2.2 s
def O9:q9:=Lz [] [] ⟨[Mi 1,.v su,.a i64,.a i64,.v .mp],[(0,.ptr 0 0),(4,.yL 3)],z3u⟩ [⟨.exit 0,PZ⟩,⟨.ret,PZ⟩] λp s=>yG  s
def zbq:Hints:=Hz [(2,Oa),(0,O9)] [(3,5,.ways [⟨.normal,PZ⟩])] []
theorem z7z:LO Tryz.f290 Oa 2:=lk t225 rn zbq [] zf
theorem z7y:LO Tryz.f290 O9 0:=lk t225 rn zbq [2] (qf rfl z7z zf)
theorem zjy:xw Pz 290 ⟨lC,FT,[],⟨[.v su,.a i64,.a i64],[],UP⟩,0,λx=>kM x.1 x.2.1 x.2.2.1 x.2.2.2⟩:=eC t225 rn zbq func290 [0] (qf rfl z7y zf)
def t226:=t225.s zjy
def z5a:Tb:=t226.d z2x
def NH:q9:=Lz [.slot 10 i64] [Mr 3 (.sl zr),Mi 27] ⟨[Mi 28,.v su,.a i64,.a i64,.a i64],[(8,.ptr 0 0),(10,.cur 3 i64)],BN⟩ [⟨.exit 0,z3N⟩] λp s=>nL p.1 p.2 s
def NJ:q9:=Lz [] [.s 12 (.so i64),Mi 57] ⟨[Mi 58,.v su,.a i64,.a i64,.a i64],[(8,.ptr 0 0),(10,.cur 3 i64),(56,.cur 3 i64)],BN⟩ [⟨.exit 4,z3N⟩] λp s=>nN p.1 p.2 s
def NI:q9:=Lz [] [] ⟨[.s 12 (.so i64),.v su,.a i64,.a i64,.a i64],[(8,.ptr 0 0),(10,.cur 3 i64)],BN⟩ [⟨.exit 2,⟨[.v su,.a i64,.a i64,.a i64],[],BN⟩⟩] λp s=>nM  s
def z5G:Hints:=Hz [(0,NH),(4,NJ),(2,NI)] [(0,12,.ways [⟨.normal,⟨[Mb 49,.v su,.a i64,.a i64,.a i64],[(10,.cur 3 i64)],BN⟩⟩])] []
theorem z6Z:LO Tryz.f224 NH 0:=lk z5a (rz [3,50]) z5G [] zf
theorem z73:LO Tryz.f224 NJ 4:=lk z5a (rz [3,50]) z5G [] zf
theorem z71:LO Tryz.f224 NI 2:=lk z5a (rz [3,50]) z5G [4] (qf rfl z73 zf)
theorem ziF:q8 Pz 224 ⟨[.ty (.sl zr),.ty (.sl i64),.ty i64],[(.sl i64),.bool],λx=>ow x.1 x.2.1 x.2.2⟩:=wq z5a (rz [3,50]) z5G func224 [0,2] (qf rfl z6Z (qf rfl z71 zf))
def t227:=t226.d ziF
theorem ziG:q8 Pz 225 ⟨[.ty zr],[.bool],λx=>Q9 x⟩:=wq t227 (rz [1]) hN func225 [] zf
def t228:=t227.d ziG
theorem zi6:q8 Pz 178 ⟨[.ty (.sl zr),.ty (.sl i64),.ty i64],[.bool],λx=>tM x.1 x.2.1 x.2.2⟩:=wq t228 rn hN func178 [] zf
def t229:=t228.d zi6
def Nz:q9:=Lz [] [Mm 0 (.sl i64),Mi 1,Mi 7] cW [kL,od] λp s=>yn p.1 p.2.1 p.2.2 s
def zeN:Hints:=Hz [(0,Nz)] [] []
theorem z6S:LO Tryz.f181 Nz 0:=lk t229 rn zeN [] zf
theorem zi9:q8 Pz 181 ⟨[.ty (.sl i64),.ty i64],[i64],λx=>uH x.1 x.2⟩:=wq t229 rn zeN func181 [0] (qf rfl z6S zf)
def t230:=t229.d zi9
theorem zi5:q8 Pz 177 ⟨[.ty (.sl i64),.ty i64],[.bool],λx=>jm x.1 x.2⟩:=wq t230 rn hN func177 [] zf
def t231:=t230.d zi5
theorem zkb:xw Pz 342 ⟨[.any,.any,.any,.ptr],⟨[Mm 0 qj,Mr 1 (.sl i64),Mr 2 i64,.a i64],[(3,.ptr 0 0)],[.cvar (.cur 1 i64),.arr i64]⟩,[],z4n,1,λx=>cQ x.1 x.2.1 x.2.2.1 x.2.2.2⟩:=eC t231 (rz [4]) hN func342 [] zf
def t232:=t231.s zkb
def Bc:q9:=Lz [] [Mm 0 (.sl qj),Mi 7] ⟨[.s 1 (.mclo 342 [.rp (.sl i64),.rp i64,.pt 0]),Mi 8,.a i64],[],[.cvar (.cur 1 i64),.arr i64]⟩ [⟨.exit 0,⟨[.a i64],[],[.cvar (.cur 1 i64),.arr i64]⟩⟩,⟨.ret,⟨[Mi 4,.a i64],[],[.cvar (.cur 1 i64),.arr i64]⟩⟩] λp s=>vp p.1 p.2 s
def z0w:Hints:=Hz [(0,Bc)] [] []
theorem Sr:LO Tryz.f337 Bc 0:=lk t232 rn z0w [] zf
theorem Pe:xw Pz 337 ⟨[.any,.wi 342],zap,[],⟨[Mi 0,.a i64],[],[.cvar (.cur 1 i64),.arr i64]⟩,1,λx=>vM x.1 x.2.1 x.2.2⟩:=eC t232 rn z0w func337 [0] (qf rfl Sr zf)
def t233:=t232.s Pe
theorem Pb:xw Pz 282 ⟨[.any,.wi 342],zap,[],z4n,1,λx=>wI x.1 x.2.1 x.2.2⟩:=eC (t233.s Pe) rn hN func282 [] zf
def t234:=t233.s Pb
theorem zka:xw Pz 341 ⟨[.any,.ptr,.any,.any],⟨[Mi 0,Mr 2 (.sl zr),Mr 3 (.sl i64),.a i64],[(1,.ptr 0 0)],[.cvar (.cur 1 i64),.arr i64]⟩,[],z4n,1,λx=>iT x.1 x.2.1 x.2.2.1 x.2.2.2⟩:=eC (t234.s Pb) (rz [4]) hN func341 [] zf
def t235:=t234.s zka
def zea:Tb:=t235.s zcT
def Ob:q9:=Lz [.slot 9 i64] [Mr 3 (.sl zr)] ⟨[.s 8 (.mclo 341 [.pt 1,.rp (.sl zr),.rp (.sl i64)]),Mi 10,.a i64,.a i64],[(7,.ptr 1 0),(9,.cur 2 i64)],[.arr i64,.cvar (.cur 0 i64),.arr i64]⟩ [⟨.exit 0,⟨[.a i64,.a i64],[(9,.cur 2 i64)],[.arr i64,.cvar (.cur 0 i64),.arr i64]⟩⟩] λp s=>Q7 p s
def zfd:Hints:=Hz [(0,Ob)] [] []
theorem z7A:LO Tryz.f291 Ob 0:=lk zea (rz [3,4]) zfd [] zf
theorem zjz:q8 Pz 291 ⟨[.ty (.sl zr),.ty (.sl i64),.ty i64],[(.sl i64)],λx=>Wd x.1 x.2.1 x.2.2⟩:=wq zea (rz [3,4]) zfd func291 [0] (qf rfl z7A zf)
def t236:=t235.d zjz
def Oc:q9:=Lz [] [Mi 1,Mm 18 (.sl qj),Mi 19] ⟨[Mi 20,.a zl,.v (.qi zl),.v (.qi zl),.v (.qi zl)],[(2,.cur 0 zl),(6,.ptr 1 0),(7,.ptr 2 0),(8,.ptr 3 0)],z3t⟩ [⟨.exit 0,⟨[.a zl,.v (.qi zl),.v (.qi zl),.v (.qi zl)],[],z3t⟩⟩] λp s=>iV p.1 p.2.1 p.2.2 s
def zfe:Hints:=Hz [(0,Oc)] [] []
theorem z7B:LO Tryz.f292 Oc 0:=lk t236 (rz [3]) zfe [] zf
theorem zjA:xw Pz 292 ⟨[.any,.any,.cur],⟨[Mm 0 zr,Mi 1,.a zl],[(2,.cur 0 zl)],tD⟩,[],⟨[Mm 0 zl,.a zl],[],tD⟩,1,λx=>sX x.1 x.2.1 x.2.2⟩:=eC t236 (rz [3]) zfe func292 [0] (qf rfl z7B zf)
def t237:=t236.s zjA
def NK:q9:=Lz [.slot 9 zl] [Mm 0 (.sl zr),Mm 1 (.sl i64),Mm 2 (.sl zl),Mm 21 (.sl zl),Mi 22] ⟨[Mi 23,.a zl],[(9,.cur 0 zl)],tD⟩ [⟨.exit 0,z4a⟩] λp s=>Vp p.1 p.2.1 p.2.2.1 p.2.2.2.1 p.2.2.2.2 s
def NL:q9:=Lz [] [Mm 0 (.sl zr),Mm 1 (.sl i64),Mm 37 (.sl i64),Mi 38] ⟨[Mi 39,.a zl],[(9,.cur 0 zl)],tD⟩ [⟨.exit 2,z4a⟩,⟨.ret,⟨[Mi 7,Mi 8,.a zl],[(6,.wF)],tD⟩⟩] λp s=>Q8 p.1 p.2.1 p.2.2.1 p.2.2.2 s
def zbo:Hints:=Hz [(0,NK),(2,NL)] [] []
theorem z74:LO Tryz.f226 NK 0:=lk t237 rn zbo [] zf
theorem z7a:LO Tryz.f226 NL 2:=lk t237 rn zbo [] zf
theorem ziH:q8 Pz 226 ⟨[.ty (.sl zr),.ty (.sl i64),.ty (.sl zl)],[(.sl zl),i64,i64],λx=>KM x.1 x.2.1 x.2.2⟩:=wq t237 rn zbo func226 [0,2] (qf rfl z74 (qf rfl z7a zf))
def t238:=t237.d ziH
def Nx:q9:=Lz [] [Mm 0 (.sl zr),Mr 3 uX,Mm 9 (.sl i64),Mm 62 (.sl zr),Mi 63] ⟨[Mi 64,.v (.qi uX),.v (.qi i64)],[(4,.ptr 0 0)],PO⟩ [⟨.exit 0,⟨[.v (.qi uX),.v (.qi i64)],[],PO⟩⟩,⟨.ret,⟨[Mi 5,Mi 6,.v (.qi uX),.v (.qi i64)],[],PO⟩⟩] λp s=>se p.1 p.2.1 p.2.2.1 p.2.2.2.1 p.2.2.2.2 s
def zeL:Hints:=Hz [(0,Nx)] [(0,2,.ways [⟨.normal,⟨[Mb 42,.v (.qi uX),.v (.qi i64)],[],PO⟩⟩]),(0,13,.ways [⟨.normal,⟨[Mb 83,.v (.qi uX),.v (.qi i64),.v (.qi zr)],[],[.var (.qi uX),.var (.qi i64),.var (.qi zr)]⟩⟩])] []
theorem z6Q:LO Tryz.f167 Nx 0:=lk t238 (rz [3]) zeL [] zf
theorem zhW:q8 Pz 167 ⟨[.ty (.sl zr),.ty uX],[uX,i64,i64],λx=>te x.1 x.2⟩:=wq t238 (rz [3]) zeL func167 [0] (qf rfl z6Q zf)
def t239:=t238.d zhW
theorem zhX:xw Pz 168 ⟨lC,⟨[Mi 1,.v (.qi uy)],[(0,.ptr 0 0)],GC⟩,[],⟨[.s 0 (.tight .str),.v (.qi uy)],[],GC⟩,1,λx=>cN x.1 x.2⟩:=eC t239 rn hN func168 [] zf
def t240:=t239.s zhX
theorem zp3:xw Pz 98 ⟨lC,⟨[Mm 1 (.sl zl),.v (.qi uy)],[(0,.ptr 0 0)],GC⟩,[],⟨[Mm 0 (.sl zl),.s 1 (.tight .str),Mi 2,.v (.qi uy)],[],GC⟩,3,λx=>jS x.1 x.2⟩:=eC t240 rn hN func98 [] zf
def t241:=t240.s zp3
def zfy:Hints:=Hz [] [(0,1,.Hb)] []
theorem z2w:xw Pz 59 ⟨[.any],⟨[Mm 0 (.sl zl)],[],[]⟩,[],z4b,1,λx=>jM x⟩:=eC t241 rn zfy func59 [] zf
def t242:=t241.s z2w
def h60:Hints:=Hz [] [(0,1,.Hb)] []
theorem zow:xw Pz 60 ⟨[.any],⟨[Mm 0 (.sl .bool)],[],[]⟩,[],z48,1,λx=>jl x⟩:=eC t242 rn h60 func60 [] zf
def t243:=t242.s zow
def h62:Hints:=Hz [] [(0,1,.Hb)] []
theorem zox:xw Pz 62 ⟨[.any],⟨[Mm 0 (.sl zm)],[],[]⟩,[],z3W,1,λx=>jG x⟩:=eC t243 rn h62 func62 [] zf
def t244:=t243.s zox
theorem zo5:xw Pz 28 ⟨[.any],⟨[Mm 0 xf],[],[]⟩,[],⟨[.s 0 z3H,.a zl,.a .bool,.a zl,.a i64,.a zm,.a .bool],[],z3B⟩,1,λx=>lP x⟩:=eC ((t244.s zcT).s z2w) (rz [1]) hN func28 [] zf
def t245:=t244.s zo5
def z2a:q9:=Lz [] [Mi 17] ⟨[Mi 18,.v (.qi uy),.v z3F,.v (.qi xf),.a zl,.a .bool,.a zl,.a i64,.a zm,.a .bool],[(0,.ptr 0 0),(4,.ptr 1 0),(6,.ptr 2 0)],z3w⟩ [⟨.exit 0,zas⟩] λp s=>dc p s
def z2b:q9:=Lz [] [Mm 29 (.sl i64),Mi 30] ⟨[Mi 31,.v (.qi uy),.v z3F,.v (.qi xf),.a zl,.a .bool,.a zl,.a i64,.a zm,.a .bool],[(0,.ptr 0 0),(4,.ptr 1 0),(6,.ptr 2 0)],z3w⟩ [⟨.exit 2,zas⟩] λp s=>de p.1 p.2 s
def h99:Hints:=Hz [(0,z2a),(2,z2b)] [] []
theorem zcG:LO Tryz.f99 z2a 0:=lk t245 rn h99 [] zf
theorem zcH:LO Tryz.f99 z2b 2:=lk t245 rn h99 [] zf
theorem zp4:xw Pz 99 ⟨Qe,⟨[Mm 1 xf,Mm 2 (.sl zl),.v (.qi uy)],[(0,.ptr 0 0)],GC⟩,[],⟨[.s 0 (.st [.row 1 zl,.row 2 .bool,.im (.sl zl),.row 3 i64,.row 4 zm,.row 5 .bool]),.v (.qi uy),.a zl,.a .bool,.a i64,.a zm,.a .bool],[],[.var (.qi uy),.arr zl,.arr .bool,.arr i64,.arr zm,.arr .bool]⟩,1,λx=>gD x.1 x.2.1 x.2.2⟩:=eC t245 rn h99 func99 [0,2] (qf rfl zcG (qf rfl zcH zf))
def t246:=t245.s zp4
def h43:Hints:=Hz [] [] [(4,[1001006,1001007,1001008])]
theorem zoi:xw Pz 43 ⟨GB,z42,[],zao,3,λx=>dL x.1 x.2⟩:=eC t246 (rz [2,3]) h43 func43 [] zf
def t247:=t246.s zoi
def z1x:q9:=Lz [.cell 0 1 .bool,.cell 0 5 .bool,.cell 1 1 .bool,.cell 1 5 .bool,.cell 0 4 zm,.cell 1 4 zm,.cell 0 3 i64,.cell 1 3 i64,.cell 0 0 zl,.cell 0 2 zl,.cell 1 0 zl,.cell 1 2 zl] [Mr 1 qy,Mm 11 (.sl qg),Mi 12] ⟨[Mi 13,.v PT,.v PU,.a .bool,.a .bool,.a .bool,.a .bool,.a zm,.a zm,.a i64,.a i64,.a zl,.a zl,.a zl,.a zl],[(2,.ptr 0 0),(5,.ptr 1 0)],z3x⟩ [⟨.exit 0,PW⟩] λp s=>Zs p.1 p.2.1 p.2.2 s
def z1y:q9:=Lz [] [Mr 1 qy,Mm 27 (.sl qs),Mi 28] ⟨[Mi 29,.v PT,.v PU,.a .bool,.a .bool,.a .bool,.a .bool,.a zm,.a zm,.a i64,.a i64,.a zl,.a zl,.a zl,.a zl],[(2,.ptr 0 0),(5,.ptr 1 0)],z3x⟩ [⟨.exit 2,PW⟩] λp s=>Zt p.1 p.2.1 p.2.2 s
def z1z:q9:=Lz [] [Mr 1 qy,Mi 43] ⟨[Mi 44,.v PT,.v PU,.a .bool,.a .bool,.a .bool,.a .bool,.a zm,.a zm,.a i64,.a i64,.a zl,.a zl,.a zl,.a zl],[(2,.ptr 0 0),(5,.ptr 1 0)],z3x⟩ [⟨.exit 4,PW⟩] λp s=>Zu p.1 p.2 s
def z1A:q9:=Lz [] [Mr 1 qy,Mi 67] ⟨[Mi 68,.v PT,.v PU,.a .bool,.a .bool,.a .bool,.a .bool,.a zm,.a zm,.a i64,.a i64,.a zl,.a zl,.a zl,.a zl],[(2,.ptr 0 0),(5,.ptr 1 0)],z3x⟩ [⟨.exit 6,PW⟩] λp s=>Zv p.1 p.2 s
def h23:Hints:=Hz [(0,z1x),(2,z1y),(4,z1z),(6,z1A)] [] [(22,[1001000,1001001,1001002,1001003,1001004,1001005])]
theorem zcb:LO Tryz.f23 z1x 0:=lk t247 (rz [1]) h23 [] zf
theorem zcc:LO Tryz.f23 z1y 2:=lk t247 (rz [1]) h23 [] zf
theorem zcd:LO Tryz.f23 z1z 4:=lk t247 (rz [1]) h23 [] zf
theorem zce:LO Tryz.f23 z1A 6:=lk t247 (rz [1]) h23 [] zf
theorem zo2:xw Pz 23 ⟨[.any],z4i,[],zao,3,λx=>XM x⟩:=eC t247 (rz [1]) h23 func23 [0,2,4,6] (qf rfl zcb (qf rfl zcc (qf rfl zcd (qf rfl zce zf))))
def t248:=t247.s zo2
theorem zh5:q8 Pz 101 ⟨[.ty qs,.rp xp],[.bool],λx=>yz x.1 x.2⟩:=wq t248 (rz [2]) hN func101 [] zf
def t249:=t248.d zh5
def B0:q9:=Lz [] [Mm 0 (.sl qs),.s 1 (.wi 101 [.rp xp]),Mi 7] cW [kL,od] λp s=>wY p.1 (λz0=>yz z0 p.2.1) p.2.2 s
def z0k:Hints:=Hz [(0,B0)] [] []
theorem Sa:LO Tryz.f100 B0 0:=lk t249 rn z0k [] zf
theorem OV:q8 Pz 100 ⟨[.ty (.sl qs),.wi 101 [.rp xp]],[i64],λx=>wb x.1 (λz0=>yz z0 x.2)⟩:=wq t249 rn z0k func100 [0] (qf rfl Sa zf)
def t250:=t249.d OV
def T44:Tb:=t250.d OV
def z1L:q9:=Lz [.slot 5 .bool] [Mm 1 (.sl .bool),Mr 2 qy,Mm 10 (.sl xp),Mi 11] ⟨[Mi 12,.a .bool],[(5,.cur 0 .bool)],[.arr .bool]⟩ [z4y] λp s=>mg p.1 p.2.1 p.2.2.1 p.2.2.2 s
def h44:Hints:=Hz [(0,z1L)] [] []
theorem zcp:LO Tryz.f44 z1L 0:=lk T44 (rz [2]) h44 [] zf
theorem zkM:q8 Pz 44 ⟨[.ty qy,.ty (.sl .bool)],[(.sl .bool)],λx=>kh x.1 x.2⟩:=wq T44 (rz [2]) h44 func44 [0] (qf rfl zcp zf)
def t251:=t250.d zkM
end Go.AM.Lf
namespace Go.Proofs
open Go.RowKit Go.Shelf

attribute [local go_sem] zN

def PB.upto{α:Type}(f:Nat->α)(k:Nat):List α:=(List.range k).map f
theorem PB.Ze{α:Type}(f:Nat->α)(k:Nat):PB.upto f (k+1)=PB.upto f k++[f k]:=by simp[PB.upto,List.range_succ]
theorem PB.FJ{α:Type}(f:Nat->α)(k:Nat):(PB.upto f k).length=k:=by simp[PB.upto]
def PB.at(zs:List Bool)(len j:Nat):Nat×Bool:=(len-1-j,zs[len-1-j]?.getD false)

set_option maxRecDepth 100000 in
set_option maxHeartbeats 2000000 in
theorem PB.Tw(F:Fence)(n:Nat)(h24:F.fn 169)(RS:F.round=none)(hn:1<=n)(l Bs n₀ b off len cap:Nat)(zs:List Bool)(Jb:len*8<=140737488351232)(I:b<n₀)(hd Jx:List (Nat×Bool)->World->Prop)
  (hY:∀ pre x zk,hd pre zk->pre.length<len->YieldAt F (n-1) Tryz.prog l #[.int .i64 (x.1:Int),.bool x.2] zk λe W' =>
   (e=.returned (.bool true)/\hd (pre++[x]) W'/\Below n₀ zk W')\/(e=.returned (.bool false)/\Jx (pre++[x]) W'))
  (zk:World) (hBs:zk.cell? ⟨Bs,0,none⟩=some (.slice (some ⟨b,off,none⟩) len cap)) (zmN:Bs<n₀) (hc:∀ j,j<len->zk.cell? ⟨b,off+j,none⟩=some (.bool (zs[j]?.getD false))) (h0:hd [] zk) :
  CallsIn F n Tryz.prog 169 #[.func (.yield l) #[] #[],.pointer (some ⟨Bs,0,none⟩)] zk λe W'=>(∃ v,e=.returned v) /\
   ((∃ ys,ys=PB.upto (PB.at zs len) len/\hd ys W')\/(∃ pre,(∃ k,k<=len/\pre=PB.upto (PB.at zs len) k)/\Jx pre W')):=by
 refine callsIn_of_wp Tryz.func169 rfl h24 ?_ RS
 simp only[Tryz.ntmps169,E,zK,zZ,qE,qF,zO,zP,zV,zS,qA,zX]
 gi_wp2
 gi_loopw [3] (λi wr=>∃ m:Nat,m<=len/\i=.int .i64 ((m:Int)-1)/\hd (PB.upto (PB.at zs len) (len-m)) wr/\Below n₀ zk wr)
  (λi _=>(intOf i+1).toNat)
 case atStart=>exact⟨len,V _,by simp,by simpa[PB.upto]using h0,Below.refl _ _⟩
 case round =>
  obtain⟨m,hm,rfl,hJs,Du⟩:=hrel
  have hbs:=(Du.cell (p:=⟨Bs,0,none⟩) zmN).trans hBs
  cases m with
  | succ k =>
   have hcx:wr.cell? ⟨b,off+k,none⟩=some (.bool (zs[k]?.getD false)):=(Du.cell (p:=⟨b,off+k,none⟩) I).trans (hc k (by omega))
   obtain⟨fn,tmps,assign,body,hy,hR⟩:=hY _ (k,zs[k]?.getD false) wr hJs (by rw[PB.FJ]; omega)
   dsimp only at hy
   have hk1:((k+1:Nat):Int)-1=k:=by omega
   rw[hk1]
   have IS:PB.at zs len (len-(k+1))=(k,zs[k]?.getD false):=by
    have:len-1-(len-(k+1))=k:=by omega
    simp[PB.at,this]
   gi_wp2
   refine hR.mono ?_
   rintro e W3 (⟨rfl,hJ3,hk3⟩ | ⟨rfl,zmR⟩)
   ·gi_wp2
    go_roundw
    case rel=>exact⟨k,by omega,by simp,by rw[show len-k=len-(k+1)+1 by omega,PB.Ze,IS]; exact hJ3,Du.trans hk3⟩
    case measure=>simp[intOf]
   ·gi_wp2
    refine bodyPost_ret (results_none rfl _ _ _) rfl ?_
    exact⟨⟨_,rfl⟩,.inr ⟨_,⟨len-(k+1)+1,by omega,by rw[PB.Ze,IS]⟩,zmR⟩⟩
  | zero =>
   gi_wp2
   go_end0
   exact⟨⟨_,rfl⟩,.inl ⟨_,rfl,hJs⟩⟩

/-- The bools of a slice,in a block below n₀; or there are none. -/
def PB.DA(n₀:Nat)(zk:World)(sv:Value)(zs:List Bool):Prop :=
 (∃ a,sv=.slice a 0 0/\zs=[])\/∃ b off cap,sv=.slice (some ⟨b,off,none⟩) zs.length cap/\b<n₀/\∀ j,j<zs.length->zk.cell? ⟨b,off+j,none⟩=some (.bool (zs[j]?.getD false))
theorem PB.DA.below{n₀:Nat}{A zA:World}(h:Below n₀ A zA){sv:Value}{zs:List Bool}:PB.DA n₀ A sv zs->PB.DA n₀ zA sv zs
 | .inl e=>.inl e
 | .inr ⟨b,off,cap,e,I,hc⟩=>.inr ⟨b,off,cap,e,I,λj hj=>(h.cell (p:=⟨b,off+j,none⟩) I).trans (hc j hj)⟩

set_option maxRecDepth 100000 in
set_option maxHeartbeats 1000000 in
theorem PB.BZ(F:Fence)(n:Nat)(h24:F.fn 169)(RS:F.round=none)(l Bs:Nat)(a:Option Addr)(hd:List (Nat×Bool)->World->Prop)(zk:World)(hBs:zk.cell? ⟨Bs,0,none⟩=some (.slice a 0 0))(h0:hd [] zk) :
  CallsIn F n Tryz.prog 169 #[.func (.yield l) #[] #[],.pointer (some ⟨Bs,0,none⟩)] zk λe W'=>(∃ v,e=.returned v)/\hd [] W':=by
 refine callsIn_of_wp Tryz.func169 rfl h24 ?_ RS
 simp only[Tryz.ntmps169,E,zK,zZ,qE,qF,zO,zP,zV,zS,qA,zX]
 gi_wp2
 gi_loopw [3] (λi wr=>i=.int .i64 (-1)/\hd [] wr) (λ_ _=>0)
 case atStart=>exact⟨rfl,h0⟩
 case round =>
  obtain⟨rfl,hJs⟩:=hrel
  gi_wp2
  go_end0
  exact⟨⟨_,rfl⟩,hJs⟩

set_option maxHeartbeats 1000000 in
theorem PB.DR(F:Fence)(n:Nat)(h20:F.fn 102)(RS:F.round=none)(a:Option Addr)(len cap:Nat)(w:World) :
  CallsIn F n Tryz.prog 102 #[.slice a len cap] w λe w'=>e=.returned (.func (.func 169) #[] #[.pointer (some ⟨w.heap.size,0,none⟩)])/\w'=w.alloc (.cells #[.slice a len cap] 56):=by
 refine callsIn_of_wp Tryz.func102 rfl h20 ?_ RS
 simp only[Tryz.ntmps102,E,zK,zZ,qE,qF,zO,zP,zV,zS,qA,zX]
 gi_wp2
 go_ret
 exact⟨rfl,rfl⟩

theorem PB.Ij(F:Fence)(n:Nat)(h24:F.fn 169)(RS:F.round=none)(hn:1<=n)(Bs n₀:Nat)(sv:Value)(zs:List Bool)(Jb:zs.length*8<=140737488351232)(w:World)(hBs:Bs<n₀)(hn₀:n₀<=w.heap.size)
  (hc:w.cell? ⟨Bs,0,none⟩=some sv) (hI:PB.DA n₀ w sv zs) :
  SeqStopsK F n Tryz.prog 169 #[.pointer (some ⟨Bs,0,none⟩)] (λx:Nat×Bool => #[X .i64 (x.1:Int),zM x.2]) (Below n₀) (λys=>ys=PB.upto (PB.at zs zs.length) zs.length)
   (λpre=>∃ k,k<=zs.length/\pre=PB.upto (PB.at zs zs.length) k) zs.length w:=λl hd Jx zk hW _ _ hY h0=>by
 have hc':=(hW.cell (p:=⟨Bs,0,none⟩) (zI hBs hn₀)).trans hc
 rcases hI.below (hW.mono hn₀)with⟨a,rfl,rfl⟩ | ⟨b,off,cap,rfl,I,QA⟩
 ·exact(PB.BZ F n h24 RS l Bs a hd zk hc' h0).mono λe W' ⟨he,hj⟩=>⟨he,.inl ⟨_,rfl,hj⟩⟩
 ·exact PB.Tw F n h24 RS hn l Bs n₀ b off zs.length cap zs Jb I hd Jx hY zk hc' hBs QA h0
end Go.Proofs

namespace Go.Proofs
open Go.RowKit Go.Shelf
attribute [local go_sem] zN

/-- None of the first k that came counts. -/
theorem PB.CV(l:List Bool)(at_:Int):∀ k m:Nat,m+k=l.length->(∀ p∈PB.upto (PB.at l l.length) k,¬ (p.2=true/\(p.1:Int)<at_))->Go.AM.Lf.nF l at_ l.length=Go.AM.Lf.nF l at_ m
 | 0,m,h,_=>by rw[show m=l.length by omega]
 | k+1,m,h,hp=>by
  rw[PB.CV l at_ k (m+1) (by omega) λp hq=>hp p (by rw[PB.Ze]; exact List.mem_append_left _ hq)]
  have:=hp (PB.at l l.length k) (by rw[PB.Ze]; simp)
  simp only[PB.at,show l.length-1-k=m by omega]at this
  simp only[Go.AM.Lf.nF,if_neg this]

set_option maxRecDepth 100000 in
set_option maxHeartbeats 4000000 in
theorem PB.z4Z(F:Fence)(n:Nat)(h10:F.fn 45)(h7:F.fn 44)(h20:F.fn 102)(h24:F.fn 169)(RS:F.round=none)(hn:3<=n)(c0 c1 c2 c3 c4 c5 vOn:Value)(at_:Int)(zs:List Bool)(w:World)(Jb:zs.length*8<=140737488351232)
  (zmT:∀ zk,Below w.heap.size w zk->CallsIn F (n-1) Tryz.prog 44 #[.agg #[c0,c1,c2,c3,c4,c5],vOn] zk λe W'=>∃ a len cap,e=.returned (.slice a len cap)/\Below zk.heap.size zk W'/\PB.DA W'.heap.size W' (.slice a len cap) zs) :
  CallsIn F n Tryz.prog 45 #[.agg #[c0,c1,c2,c3,c4,c5],vOn,.int .i64 at_] w λe W'=>e=.returned (.tuple #[.int .i64 (Go.AM.Lf.nF zs at_ zs.length).1,.bool (Go.AM.Lf.nF zs at_ zs.length).2])/\Below w.heap.size w W':=by
 have h1:1<=n:=by omega
 refine callsIn_of_wp_marks Tryz.func45 rfl h10 ?_ RS
 simp only[Tryz.ntmps45,E,zK,zZ,qE,qF,zO,zP,zV,zS,qA,zX]
 gi_wp2_with (first
  | (gi_at_call 44; refine(zmT _ (((((Below.refl _ w).alloc (V _) _).alloc (by simp) _).alloc (by simp; omega) _).alloc (by simp; omega) _)).mono ?_; rintro e W1 ⟨a,len,cap,rfl,hB1,hZ1⟩)
  | (gi_at_call 102; refine(PB.DR F (n-1) h20 RS _ _ _ _).mono ?_; rintro e w' ⟨rfl,rfl⟩))
 have hB0:Below w.heap.size w ((((w.alloc (B #[c0,c1,c2,c3,c4,c5] 29)).alloc (B #[X IntKind.i64 at_] 3)).alloc (B #[X IntKind.i64 0] 3)).alloc (B #[zM false] 4)) :=
  ((((Below.refl _ w).alloc (V _) _).alloc (by simp) _).alloc (by simp; omega) _).alloc (by simp; omega) _
 have k5:((((w.alloc (B #[c0,c1,c2,c3,c4,c5] 29)).alloc (B #[X IntKind.i64 at_] 3)).alloc (B #[X IntKind.i64 0] 3)).alloc (B #[zM false] 4)).heap[w.heap.size+1]? = some (B #[X IntKind.i64 at_] 3):=by
  have:=((qQ (w.alloc (B #[c0,c1,c2,c3,c4,c5] 29)) 3 (.int .i64 at_)).alloc (B #[X IntKind.i64 0] 3)).alloc (B #[zM false] 4)
  rw[zL]at this; exact this
 have k6:((((w.alloc (B #[c0,c1,c2,c3,c4,c5] 29)).alloc (B #[X IntKind.i64 at_] 3)).alloc (B #[X IntKind.i64 0] 3)).alloc (B #[zM false] 4)).heap[w.heap.size+1+1]? = some (B #[X IntKind.i64 0] 3):=by
  have:=(qQ ((w.alloc (B #[c0,c1,c2,c3,c4,c5] 29)).alloc (B #[X IntKind.i64 at_] 3)) 3 (.int .i64 0)).alloc (B #[zM false] 4)
  rw[zL,zL]at this; exact this
 have k7:((((w.alloc (B #[c0,c1,c2,c3,c4,c5] 29)).alloc (B #[X IntKind.i64 at_] 3)).alloc (B #[X IntKind.i64 0] 3)).alloc (B #[zM false] 4)).heap[w.heap.size+1+1+1]? = some (B #[zM false] 4):=by
  have:=(qQ (((w.alloc (B #[c0,c1,c2,c3,c4,c5] 29)).alloc (B #[X IntKind.i64 at_] 3)).alloc (B #[X IntKind.i64 0] 3)) 4 (.bool false))
  rw[zL,zL,zL]at this; exact this
 have bM:((((w.alloc (B #[c0,c1,c2,c3,c4,c5] 29)).alloc (B #[X IntKind.i64 at_] 3)).alloc (B #[X IntKind.i64 0] 3)).alloc (B #[zM false] 4)).heap.size=w.heap.size+1+1+1+1:=by simp
 generalize ((((w.alloc (B #[c0,c1,c2,c3,c4,c5] 29)).alloc (B #[X IntKind.i64 at_] 3)).alloc (B #[X IntKind.i64 0] 3)).alloc (B #[zM false] 4))=W0 at *
 have Tg:=hB1.size
 have b5:Boxed W1 (w.heap.size+1) 3 (.int .i64 at_):=(hB1.block _ (by omega)).trans k5
 have b6:Boxed W1 (w.heap.size+1+1) 3 (.int .i64 0):=(hB1.block _ (by omega)).trans k6
 have b7:Boxed W1 (w.heap.size+1+1+1) 4 (.bool false):=(hB1.block _ (by omega)).trans k7
 have bS:=qQ W1 56 (.slice a len cap)
 have hBw:Below w.heap.size w W1:=hB0.trans (hB1.mono (by omega))
 have hBa:Below w.heap.size w (W1.alloc (B #[qM a len cap] 56)):=hBw.alloc (by omega) _
 have fin:∀ {W2:World} {D:Nat} {v6:Int} {v7:Bool},w.heap.size<=D->W2.heap[D]? = some (.deferred (some []))->Below w.heap.size w W2->Boxed W2 (w.heap.size+1+1) 3 (.int .i64 v6)->Boxed W2 (w.heap.size+1+1+1) 4 (.bool v7) ->
   ∀ {u:Value},bodyPostM F n Tryz.prog Tryz.f45 (λe W'=>e=.returned (.tuple #[.int .i64 v6,.bool v7])/\Below w.heap.size w W') Exit.ret
    { tmps := #[qR #[c0,c1,c2,c3,c4,c5],vOn,X IntKind.i64 at_,
     zG (some { block:=w.heap.size,off:=0 }),undef,
     zG (some { block:=w.heap.size+1,off:=0 }),
     zG (some { block:=w.heap.size+1+1,off:=0 }),
     zG (some { block:=w.heap.size+1+1+1,off:=0 }),undef,undef,
     qR #[c0,c1,c2,c3,c4,c5],vOn,qM a len cap,
     Value.func (Fn.func 169) #[] #[zG (some { block:=W1.heap.size,off:=0 })],undef,undef,undef,
     undef,undef,undef,undef,undef,undef,u],defers:=[{ target:=Target.collected D,args := #[] }] } W2:=by
  intro W2 D v6 v7 hD hK hB g6 g7 u
  refine⟨by simp,.inl ⟨_,_,rfl,run_takeDeferred hK,?_⟩⟩
  have c6:=(g6.kept (grownBy_putObj' _ D (.deferred none)) (λe=>by cases e; rw[show W2.heap[_]? = _ from g6]at hK; cases hK)).cell
  have c7:=(g7.kept (grownBy_putObj' _ D (.deferred none)) (λe=>by cases e; rw[show W2.heap[_]? = _ from g7]at hK; cases hK)).cell
  refine⟨.tuple #[.int .i64 v6,.bool v7],?_,rfl,hB.trans (belowK_b (w:=w) (V _) _ D _ _ hD hK rfl rfl)⟩
  simp[results,Tryz.f45,go_sem,c6,c7]
 refine wpIn_rangeFunc_ownG RS h1 (gf:=169) (lb := #[.pointer (some ⟨W1.heap.size,0,none⟩)]) rfl h24 (enters_of Tryz.func169 (by kernel_rfl) rfl)
  (PB.Ij F (n-1) h24 RS (by omega) W1.heap.size (W1.heap.size+1) _ zs Jb (W1.alloc (B #[qM a len cap] 56)) (by omega) (by simp) bS.cell (by
   rcases hZ1 with h | ⟨b,off,VH,e,I,hc⟩
   ·exact .inl h
   ·exact .inr ⟨b,off,VH,e,by omega,λj hj=>(((Below.refl W1.heap.size W1).alloc (V _) _).cell (p:=⟨b,off+j,none⟩) I).trans (hc j hj)⟩)) belowK_t (belowK_b (by simp)) (Below.refl _ _) (λ_=>rfl)
  (λpre zk=>((∀ p∈pre,¬ (p.2=true/\(p.1:Int)<at_))/\Boxed zk (w.heap.size+1) 3 (.int .i64 at_)/\Boxed zk (w.heap.size+1+1) 3 (.int .i64 0)/\Boxed zk (w.heap.size+1+1+1) 4 (.bool false))/\Below w.heap.size w zk)
  (λc pre zk=>(c=.ret/\∃ (ini:List (Nat×Bool)) (last:Nat×Bool),pre=ini++[last]/\(∀ p∈ini,¬ (p.2=true/\(p.1:Int)<at_))/\(last.2=true/\(last.1:Int)<at_)/\Boxed zk (w.heap.size+1+1) 3 (.int .i64 (last.1:Int))/\Boxed zk (w.heap.size+1+1+1) 4 (.bool true))/\Below w.heap.size w zk)
  (OwnFrom.and (Own.from (λs A zA row hs hg hr=>⟨hs.1,boxed_own (β:=Unit) _ _ (λ_=>_) () A zA row hs.2.1 hg hr,boxed_own (β:=Unit) _ _ (λ_=>_) () A zA row hs.2.2.1 hg hr,boxed_own (β:=Unit) _ _ (λ_=>_) () A zA row hs.2.2.2 hg hr⟩) _) (ownFrom_below (V _) (by simp; omega)))
  (λc=>OwnFrom.and (Own.from (λs A zA row hs hg hr=>by obtain⟨hc,ini,last,e1,e2,e3,e4,e5⟩:=hs; exact⟨hc,ini,last,e1,e2,e3,boxed_own (β:=Unit) _ _ (λ_=>_) () A zA row e4 hg hr,boxed_own (β:=Unit) _ _ (λ_=>_) () A zA row e5 hg hr⟩) _) (ownFrom_below (V _) (by simp; omega)))
  ⟨⟨by simp,b5.alloc _,b6.alloc _,b7.alloc _⟩,hBa⟩
  (λx=>{ tmps := #[qR #[c0,c1,c2,c3,c4,c5],vOn,X IntKind.i64 at_,
     zG (some { block:=w.heap.size,off:=0 }),undef,
     zG (some { block:=w.heap.size+1,off:=0 }),
     zG (some { block:=w.heap.size+1+1,off:=0 }),
     zG (some { block:=w.heap.size+1+1+1,off:=0 }),.int .i64 (x.1:Int),.bool x.2,
     qR #[c0,c1,c2,c3,c4,c5],vOn,qM a len cap,
     Value.func (Fn.func 169) #[] #[zG (some { block:=W1.heap.size,off:=0 })],.int .i64 (x.1:Int),.bool x.2,undef,
     undef,undef,undef,undef,undef,undef,undef],defers:=[] }) ?assign ?body ?done ?stop
 case assign =>
  intro l x zk K hK
  gi_wp2
  exact hK
 case body =>
  rintro l pre x zk ⟨⟨hp,h5,h6,h7'⟩,hB⟩ _
  have q5:=h5.cell; have q6:=h6.cell; have q7:=h7'.cell
  have f6:=h6.frozen; have f7:=h7'.frozen
  gi_wp2
  ·rename_i g1 g2
   exact⟨((zR _ _ _).trans (zR _ _ _)).from _,⟨rfl,pre,x,rfl,hp,⟨by simp_all,by simp_all⟩,(h6.set _).other (by omega) _,(h7'.other (by omega) _).set _⟩,
    (hB.setCell (p:=⟨w.heap.size+1+1,0,none⟩) (by show w.heap.size<=w.heap.size+1+1; omega) _).setCell (p:=⟨w.heap.size+1+1+1,0,none⟩) (by show w.heap.size<=w.heap.size+1+1+1; omega) _⟩
  ·rename_i g1 g2
   exact⟨KeepsFrom.refl _ _,Below.refl _ _,⟨λp hp'=>(List.mem_append.1 hp').elim (hp p) (λe=>by simp at e; subst e; intro hh; have:=hh.2; omega),h5,h6,h7'⟩,hB⟩
  ·rename_i g1
   exact⟨KeepsFrom.refl _ _,Below.refl _ _,⟨λp hp'=>(List.mem_append.1 hp').elim (hp p) (λe=>by simp at e; subst e; intro hh; simp_all),h5,h6,h7'⟩,hB⟩
 case done =>
  rintro D ys zk hD rfl ⟨⟨jZ,h5,h6,h7'⟩,hB⟩ hK
  have q5:=h5.cell; have q6:=h6.cell; have q7:=h7'.cell
  have f6:=h6.frozen; have f7:=h7'.frozen
  have hv:Go.AM.Lf.nF zs at_ zs.length=(at_,false):=(PB.CV zs at_ zs.length 0 (by omega) jZ).trans rfl
  gi_wp2
  have hK':((zk.setCell ⟨w.heap.size+1+1,0,none⟩ (.int .i64 at_)).setCell ⟨w.heap.size+1+1+1,0,none⟩ (.bool false)).heap[D]? = some (.deferred (some [])) :=
   ((zR _ _ _).trans (zR _ _ _)).same D _ hK rfl
  have g6:Boxed ((zk.setCell ⟨w.heap.size+1+1,0,none⟩ (.int .i64 at_)).setCell ⟨w.heap.size+1+1+1,0,none⟩ (.bool false)) (w.heap.size+1+1) 3 (.int .i64 at_):=(h6.set _).other (by omega) _
  have g7:Boxed ((zk.setCell ⟨w.heap.size+1+1,0,none⟩ (.int .i64 at_)).setCell ⟨w.heap.size+1+1+1,0,none⟩ (.bool false)) (w.heap.size+1+1+1) 4 (.bool false):=(h7'.other (by omega) _).set _
  have hB':Below w.heap.size w ((zk.setCell ⟨w.heap.size+1+1,0,none⟩ (.int .i64 at_)).setCell ⟨w.heap.size+1+1+1,0,none⟩ (.bool false)) :=
   (hB.setCell (p:=⟨w.heap.size+1+1,0,none⟩) (by show w.heap.size<=w.heap.size+1+1; omega) _).setCell (p:=⟨w.heap.size+1+1+1,0,none⟩) (by show w.heap.size<=w.heap.size+1+1+1; omega) _
  rw[hv]
  generalize (zk.setCell ⟨w.heap.size+1+1,0,none⟩ (.int .i64 at_)).setCell ⟨w.heap.size+1+1+1,0,none⟩ (.bool false)=W2 at *
  exact fin (by simp at hD; omega) hK' hB' g6 g7
 case stop =>
  rintro D c pre zk hD ⟨k,hk,rfl⟩ ⟨⟨rfl,ini,last,e1,e2,e3,h6,h7'⟩,hB⟩ hK
  gi_wp2
  obtain⟨k',rfl⟩:∃ k',k=k'+1:=by
   cases k with
   | zero=>simp[PB.upto]at e1
   | succ k'=>exact⟨k',rfl⟩
  rw[PB.Ze]at e1
  obtain⟨rfl,e5⟩:=List.append_inj' e1 rfl
  obtain rfl:PB.at zs zs.length k'=last:=by simpa using e5
  have hv:Go.AM.Lf.nF zs at_ zs.length=(((zs.length-1-k':Nat):Int),true):=by
   rw[PB.CV zs at_ k' (zs.length-1-k'+1) (by omega) e2]
   simp only[PB.at]at e3
   simp only[Go.AM.Lf.nF]
   rw[if_pos e3]
  rw[hv]
  exact fin (by simp at hD; omega) hK hB h6 h7'
end Go.Proofs

namespace Go.AM.Lf
open Go.Proofs Go.RowKit

theorem GU{P:Program}{g:Nat}{fn:Func}{args:Array Value}{w:World}{hl:Ending->World->Prop}(hf:P.funcs[g]? = some fn) (hn:(fn.name == "runtime.NumGoroutine")=false) (I:fn.body.isNone=false) (h:gA P g args w hl):Calls P g args w hl:=by
 rcases h with⟨_,h⟩ | ⟨v,w',h,_⟩
 ·exact h
 ·rw[uS hf hn I w]at h; cases h

theorem zoj:q8 Tryz.prog 45 ⟨[.ty qy,.ty (.sl .bool),.ty i64],[i64,.bool],λx=>pw x.1 x.2.1 x.2.2⟩:=by
 intro Z x xb y vX hy hI ha
 obtain⟨f,on,at_⟩:=x
 obtain⟨l,R,hlen,hy⟩:=T.zd.1 hy
 replace hlen:zH l*8<=140737488351232:=hlen
 cases hy
 obtain⟨v0,r,rfl,h0,ha⟩:=wN.cons_inv (show wN Z [.qi qy f,.qi (.sl .bool) on,.qi i64 at_] xb from ha)
 obtain⟨v1,r,rfl,h1,ha⟩:=ha.cons_inv
 obtain⟨v2,r,rfl,M,ha⟩:=ha.cons_inv
 rw[ha.we]
 obtain⟨cs,QA,rfl⟩:=RD.cP h0
 have zg9:=QA.len
 rw[RD.dO M]
 match cs,zg9 with
 | [c0,c1,c2,c3,c4,c5],_ =>
 refine .inl ⟨uS Tryz.func45 (by kernel_rfl) rfl Z.w,?_⟩
 refine(callsIn_wide (n:=10)).1 ((PB.z4Z Fence.wide 10 trivial trivial trivial trivial rfl (by omega) c0 c1 c2 c3 c4 c5 v1 at_ l Z.w hlen λzk hW => ?_).mono ?_)
 ·have N:Ext Z { Z with w:=zk }:=⟨hW.os,hW.tape,hW.output,hW.size,λk hk=>⟨hk,hW.block k (hI.bN k hk)⟩,λk hk=>.inl hk,λ_ _ _ h=>.inl h,λb d h=>by rw[vX]at h; simp at h,
   λb v0 e xs h=>by rw[vX]at h; simp at h,λb h=>by rw[vX]at h; simp at h,V _,λk hk _=>hW.block k hk⟩
  have Vz:Inv { Z with w:=zk }:=⟨hI.len,λk hk=>zI (hI.bN k hk) hW.size,λb blk n I=>⟨zI (hI.apart b blk n I).1 hW.size,(hI.apart b blk n I).2⟩,hI.inj,λb x I=>by rw[vX]at I; simp at I,hI.gl.mono N.same⟩
  refine callsIn_wide.2 (GU Tryz.func44 (by kernel_rfl) rfl ((zkM { Z with w:=zk } (f,on) [pk qy [c0,c1,c2,c3,c4,c5],v1] l vX R Vz (.cons (h0.mono N) (.cons (h1.mono N) .nil))).mono ?_))
  rintro e W' ⟨Y,rfl,z6b,hI',GM,v,rfl,hv⟩
  have GL:Z.ph=[]:=zY (by rw[hI.len,vX]; rfl)
  have hB:Below zk.heap.size zk Y.w:=⟨GM.os,GM.tape,GM.output,GM.size,λk hk=>GM.frame k hk λb n h=>by simp[GL]at h⟩
  have hv:=RD.jF (Z:=Y) (τ:=.sl .bool) (x:=l) hv rfl
  rcases hv.tA with⟨rfl,a,e⟩ | ⟨blk,off,cap,g,e,j3,jg,hg,hc⟩
  ·cases e
   exact⟨a,0,0,rfl,hB,.inl ⟨a,rfl,rfl⟩⟩
  ·cases e
   refine⟨some ⟨blk,off,none⟩,_,cap,rfl,hB,.inr ⟨blk,off,cap,rfl,hI'.bN blk j3,λj hj => ?_⟩⟩
   have h3:=hc j hj 0 (.bool l[j]) (by rw[(hg j hj).cr]; rfl)
   rw[zT hj]
   simpa[Ty.size]using h3
 ·rintro e W' ⟨rfl,hB⟩
  have N:Ext Z { Z with w:=W' }:=⟨hB.os,hB.tape,hB.output,hB.size,λk hk=>⟨hk,hB.block k (hI.bN k hk)⟩,λk hk=>.inl hk,λ_ _ _ h=>.inl h,λb d h=>by rw[vX]at h; simp at h,
   λb v0 e xs h=>by rw[vX]at h; simp at h,λb h=>by rw[vX]at h; simp at h,V _,λk hk _=>hB.block k hk⟩
  refine⟨{ Z with w:=W' },rfl,vX,⟨hI.len,λk hk=>zI (hI.bN k hk) hB.size,λb blk n I=>⟨zI (hI.apart b blk n I).1 hB.size,(hI.apart b blk n I).2⟩,hI.inj,λb x I=>by rw[vX]at I; simp at I,hI.gl.mono N.same⟩,N,_,rfl,?_⟩
  refine .eG _ _ rfl λi h1 M => ?_
  match i with
  | 0=>exact RD.int
  | 1=>exact RD.bool
end Go.AM.Lf

namespace Go.AM.Lf
open Go.Proofs Go.Proofs.Tryz
def t252:=t251.d zoj
def z1M:q9:=Lz [] [Mi 2,Mm 12 (.sl .bool),Mi 13] ⟨[Mi 14],[],[]⟩ [kL,⟨.ret,⟨[Mi 6,Mb 7],[],[]⟩⟩] λp s=>ZY p.1 p.2.1 p.2.2 s
def h46:Hints:=Hz [(0,z1M)] [(0,4,.flat [Mb 24])] []
theorem zcq:LO Tryz.f46 z1M 0:=lk t252 (rz [3]) h46 [] zf
theorem zok:q8 Pz 46 ⟨[.ty qy,.ty (.sl .bool),.ty i64],[i64,.bool],λx=>pz x.1 x.2.1 x.2.2⟩:=wq t252 (rz [3]) h46 func46 [0] (qf rfl zcq zf)
def t253:=t252.d zok
def h24:Hints:=Hz [] [(0,2,.flat [Mb 28])] []
theorem zo3:q8 Pz 24 ⟨[.ty qy,.ty (.sl .bool),.ty i64],[i64],λx=>Z6 x.1 x.2.1 x.2.2⟩:=wq t253 (rz [3]) h24 func24 [] zf
def t254:=t253.d zo3
def h9:Hints:=Hz [] [] [(8,[1006000,1006001,1006003,1006004,1006005])]
theorem ok9:jB Pz 9 ⟨[.any],z4i,[],⟨[Ms 1,Mi 2,.v (.qi qm)],[(0,.ptr 0 0)],WJ⟩,3,0,⟨[Ms 1,Mi 2],[(0,.gX)],[]⟩,some 3,λx=>gI x⟩:=Kt t254 rn h9 func9 [] zf
def t255:=t254.p ok9
theorem zhZ:q8 Pz 171 ⟨[.ty qw,.rp .str],[.bool],λx=>dK x.1 x.2⟩:=wq t255 (rz [2]) hN func171 [] zf
def t256:=t255.d zhZ
def Ny:q9:=Lz [] [Mm 0 (.sl qw),.s 1 (.wi 171 [.rp .str]),Mi 7] cW [kL,od] λp s=>cv p.1 (λz0=>dK z0 p.2.1) p.2.2 s
def zeM:Hints:=Hz [(0,Ny)] [] []
theorem z6R:LO Tryz.f170 Ny 0:=lk t256 rn zeM [] zf
theorem zhY:q8 Pz 170 ⟨[.ty (.sl qw),.wi 171 [.rp .str]],[i64],λx=>gp x.1 (λz0=>dK z0 x.2)⟩:=wq t256 rn zeM func170 [0] (qf rfl z6R zf)
def t257:=t256.d zhY
theorem zh7:q8 Pz 104 ⟨[.ty qy,.ty .str],[i64],λx=>tQ x.1 x.2⟩:=wq t257 (rz [2,3]) hN func104 [] zf
def t258:=t257.d zh7
theorem zh9:q8 Pz 106 ⟨[.ty zl],[.bool],λx=>bT x⟩:=wq t258 (rz [1]) hN func106 [] zf
def t259:=t258.d zh9
theorem zi1:q8 Pz 173 ⟨[.ty zl],[.bool],λx=>fg x⟩:=wq t259 (rz [1]) hN func173 [] zf
def t260:=t259.d zi1
def B8:q9:=Lz [] [Mm 0 (.sl zl),.s 1 (.wi 173 []),Mi 7] cW [kL,od] λp s=>yR p.1 (λz0=>fg z0) p.2.2 s
def z0r:Hints:=Hz [(0,B8)] [] []
theorem Sj:LO Tryz.f227 B8 0:=lk t260 rn z0r [] zf
theorem P7:q8 Pz 227 ⟨[.ty (.sl zl),.wi 173 []],[i64],λx=>kQ x.1 (λz0=>fg z0)⟩:=wq t260 rn z0r func227 [0] (qf rfl Sj zf)
def t261:=t260.d P7
theorem P6:q8 Pz 172 ⟨[.ty (.sl zl),.wi 173 []],[.bool],λx=>vw x.1 (λz0=>fg z0)⟩:=wq (t261.d P7) rn hN func172 [] zf
def t262:=t261.d P6
theorem zi4:q8 Pz 176 ⟨[.ty zm],[.bool],λx=>J4 x⟩:=wq t262 (rz [1]) hN func176 [] zf
def t263:=t262.d zi4
theorem zi3:q8 Pz 175 ⟨[.ty zm],[.bool],λx=>fh x⟩:=wq t263 (rz [1]) hN func175 [] zf
def t264:=t263.d zi3
def NN:q9:=Lz [] [Mm 0 (.sl zm),.s 1 (.wi 175 []),Mi 7] cW [kL,od] λp s=>bG p.1 (λz0=>fh z0) p.2.2 s
def zeV:Hints:=Hz [(0,NN)] [] []
theorem z7c:LO Tryz.f228 NN 0:=lk t264 rn zeV [] zf
theorem ziJ:q8 Pz 228 ⟨[.ty (.sl zm),.wi 175 []],[i64],λx=>yl x.1 (λz0=>fh z0)⟩:=wq t264 rn zeV func228 [0] (qf rfl z7c zf)
def t265:=t264.d ziJ
theorem zi2:q8 Pz 174 ⟨[.ty (.sl zm),.wi 175 []],[.bool],λx=>uw x.1 (λz0=>fh z0)⟩:=wq t265 rn hN func174 [] zf
def t266:=t265.d zi2
def Oe:q9:=Lz [] [Mm 1 (.sl zl),Mm 12 (.sl qj),Mi 13] ⟨[Mi 14,.v (.qi zl),.v (.qi zl)],[(4,.ptr 0 0),(5,.ptr 1 0)],[.var (.qi zl),.var (.qi zl)]⟩ [⟨.exit 0,z3S⟩] λp s=>XF p.1 p.2.1 p.2.2 s
def zfg:Hints:=Hz [(0,Oe)] [] []
theorem z7D:LO Tryz.f296 Oe 0:=lk t266 (rz [2]) zfg [] zf
theorem zjE:q8 Pz 296 ⟨[.ty zr,.ty (.sl zl)],[zl],λx=>BX x.1 x.2⟩:=wq t266 (rz [2]) zfg func296 [0] (qf rfl z7D zf)
def t267:=t266.d zjE
theorem ziM:q8 Pz 231 ⟨[.ty zr,.ty (.sl zl)],[.bool],λx=>sH x.1 x.2⟩:=wq t267 (rz [2]) hN func231 [] zf
def t268:=t267.d ziM
def Ba:q9:=Lz [] [Mm 27 (.sl qj),Mi 28] ⟨[Mi 7,Mi 8,Mi 29,.v su,.a i64,.a i64],[(0,.ptr 0 0),(2,.uT)],UP⟩ [⟨.exit 0,⟨[Mi 7,.v su,.a i64,.a i64],[],UP⟩⟩] λp s=>yd p.1 p.2 s
def z0u:Hints:=Hz [(0,Ba)] [(0,6,.flat [Mb 46])] []
theorem Sn:LO Tryz.f297 Ba 0:=lk t268 rn z0u [] zf
theorem Pc:xw Pz 297 ⟨Qe,⟨[Mi 1,.v su,.a i64,.a i64],[(0,.ptr 0 0),(2,.uT)],UP⟩,[],FU,1,λx=>gU x.1 x.2.1 x.2.2.1 x.2.2.2⟩:=eC t268 rn z0u func297 [0] (qf rfl Sn zf)
def t269:=t268.s Pc
theorem ziN:q8 Pz 232 ⟨[.ty (.sl zr),.ty (.sl i64),.ty i64,.ty i64],[.bool],λx=>mz x.1 x.2.1 x.2.2.1 x.2.2.2⟩:=wq (t269.s Pc) rn hN func232 [] zf
def t270:=t269.d ziN
def zmc:Hints:=Hz [] [(0,4,.ways [⟨.normal,⟨[Mb 8,.v Kl,.a zr,.a i64,.a i64,.v (.qi zr)],[],[.var Kl,.arr zr,.arr i64,.arr i64,.var (.qi zr)]⟩⟩])] []
theorem zi7:xw Pz 179 ⟨Qe,⟨[Mi 1,Mm 2 (.sl zl),.v Kl,.a zr,.a i64,.a i64],[(0,.ptr 0 0)],UQ⟩,[],⟨[Mb 0,.v Kl,.a zr,.a i64,.a i64],[],UQ⟩,1,λx=>ba x.1 x.2.1 x.2.2.1 x.2.2.2.1 x.2.2.2.2.1 x.2.2.2.2.2⟩:=eC t270 rn zmc func179 [] zf
def t271:=t270.s zi7
def zaP:Tb:=t271.d P6
def N6:q9:=Lz [] [Mr 3 xf,Mm 31 (.sl i64),Mi 32] ⟨[Mi 33,.v Kl,.a zr,.a i64,.a i64],[(5,.ptr 0 0)],UQ⟩ [⟨.exit 0,z4r⟩,z4u] λp s=>J2 p.1 p.2.1 p.2.2 s
def N7:q9:=Lz [] [Mr 3 xf,Mi 67] ⟨[Mi 68,.v Kl,.a zr,.a i64,.a i64],[(5,.ptr 0 0)],UQ⟩ [⟨.exit 2,z4r⟩,z4u] λp s=>J3 p.1 p.2 s
def zbf:Hints:=Hz [(0,N6),(2,N7)] [(0,7,.ways [⟨.normal,⟨[Mb 48,.v Kl,.a zr,.a i64,.a i64],[],UQ⟩⟩])] []
theorem z6s:LO Tryz.f105 N6 0:=lk zaP (rz [2,3]) zbf [] zf
theorem z6t:LO Tryz.f105 N7 2:=lk zaP (rz [2,3]) zbf [] zf
theorem zh8:q8 Pz 105 ⟨[.ty qy,.ty xf],[.bool],λx=>QP x.1 x.2⟩:=wq zaP (rz [2,3]) zbf func105 [0,2] (qf rfl z6s (qf rfl z6t zf))
def t272:=t271.d zh8
def h48:Hints:=Hz [] [] [(12,[1001006,1001007,1001008])]
theorem zom:q8 Pz 48 ⟨[.ty qy,.ty xf,.ty .str,.ty zl],[xf,(.sl .str),i64],λx=>VO x.1 x.2.1 x.2.2.1 x.2.2.2⟩:=wq t272 (rz [4,5,7]) h48 func48 [] zf
def t273:=t272.d zom
def z1O:q9:=Lz [] [.s 2 (.wi 70 []),Mm 9 (.sl zl),Mi 10] R3 [K8] λp s=>tS (λz0=>gx z0) p.2.1 p.2.2 s
def h69:Hints:=Hz [(0,z1O)] [] []
theorem zcs:LO Tryz.f69 z1O 0:=lk t273 rn h69 [] zf
theorem zoC:q8 Pz 69 ⟨[.ty .str,.ty (.sl zl),.wi 70 []],[.str],λx=>mF x.1 x.2.1 (λz0=>gx z0)⟩:=wq t273 rn h69 func69 [0] (qf rfl zcs zf)
def t274:=t273.d zoC
theorem zoB:q8 Pz 68 ⟨[.ty .bool],[.str],λx=>dM x⟩:=wq t274 rn hN func68 [] zf
def t275:=t274.d zoB
def z1P:q9:=Lz [] [.s 2 (.wi 68 []),Mm 9 (.sl .bool),Mi 10] R3 [K8] λp s=>sE (λz0=>dM z0) p.2.1 p.2.2 s
def h71:Hints:=Hz [(0,z1P)] [] []
theorem zct:LO Tryz.f71 z1P 0:=lk t275 rn h71 [] zf
theorem zoE:q8 Pz 71 ⟨[.ty .str,.ty (.sl .bool),.wi 68 []],[.str],λx=>fW x.1 x.2.1 (λz0=>dM z0)⟩:=wq t275 rn h71 func71 [0] (qf rfl zct zf)
def t276:=t275.d zoE
theorem zoG:q8 Pz 73 ⟨[.ty i64],[.str],λx=>lS x⟩:=wq t276 rn hN func73 [] zf
def t277:=t276.d zoG
def z1Q:q9:=Lz [] [.s 2 (.wi 73 []),Mm 9 (.sl i64),Mi 10] R3 [K8] λp s=>tT (λz0=>lS z0) p.2.1 p.2.2 s
def h72:Hints:=Hz [(0,z1Q)] [] []
theorem zcu:LO Tryz.f72 z1Q 0:=lk t277 rn h72 [] zf
theorem zoF:q8 Pz 72 ⟨[.ty .str,.ty (.sl i64),.wi 73 []],[.str],λx=>tp x.1 x.2.1 (λz0=>lS z0)⟩:=wq t277 rn h72 func72 [0] (qf rfl zcu zf)
def t278:=t277.d zoF
theorem zoI:q8 Pz 75 ⟨[.ty zm],[.str],λx=>lT x⟩:=wq t278 (rz [1]) hN func75 [] zf
def t279:=t278.d zoI
def z1R:q9:=Lz [] [.s 2 (.wi 75 []),Mm 9 (.sl zm),Mi 10] R3 [K8] λp s=>mS (λz0=>lT z0) p.2.1 p.2.2 s
def h74:Hints:=Hz [(0,z1R)] [] []
theorem zcv:LO Tryz.f74 z1R 0:=lk t279 rn h74 [] zf
theorem zoH:q8 Pz 74 ⟨[.ty .str,.ty (.sl zm),.wi 75 []],[.str],λx=>fX x.1 x.2.1 (λz0=>lT z0)⟩:=wq t279 rn h74 func74 [0] (qf rfl zcv zf)
def t280:=t279.d zoH
theorem zo7:q8 Pz 32 ⟨[.ty xf],[.str],λx=>dh x⟩:=wq t280 (rz [1]) hN func32 [] zf
def t281:=t280.d zo7
def zm6:Hints:=Hz [] [(0,1,.Hb)] []
theorem za9:xw Pz 115 ⟨[.any],⟨[Mm 0 (.sl .str)],[],[]⟩,[],WK,1,λx=>wR x⟩:=eC t281 rn zm6 func115 [] zf
def t282:=t281.s za9
theorem zh6:q8 Pz 103 ⟨[.ty yp,.ty .str],[yp],λx=>XP x.1 x.2⟩:=wq t282 (rz [2]) hN func103 [] zf
def t283:=t282.d zh6
theorem zol:xw Pz 47 ⟨[.ptr,.any,.any,.any],⟨[Mm 1 xf,Mm 2 (.sl .str),Mi 3,.v (.qi qm)],[(0,.ptr 0 0)],WJ⟩,[],UR,1,λx=>vv x.1 x.2.1 x.2.2.1 x.2.2.2⟩:=eC t283 (rz [5]) hN func47 [] zf
def t284:=t283.s zol
def h49:Hints:=Hz [] [(0,6,.flat [Mb 26]),(0,8,.flat [Mb 37]),(3,12,.ways [⟨.normal,⟨[.v (.qi xf),.a zl,.a .bool,.a zl,.a i64,.a zm,.a .bool,.v z3E],[],[.var (.qi xf),.arr zl,.arr .bool,.arr zl,.arr i64,.arr zm,.arr .bool,.var z3E]⟩⟩])] [(14,[1007000,1007001,1007002,1007003,1007004,1007005])]
theorem zon:q8 Pz 49 ⟨[.ty qy,.ty xf,.ty .str,.ty .bool],[xf,(.sl .str),i64],λx=>Zw x.1 x.2.1 x.2.2.1 x.2.2.2⟩:=wq t284 (rz [4,5]) h49 func49 [] zf
def t285:=t284.d zon
theorem zhc:q8 Pz 109 ⟨[.ty qg,.rp .str],[.bool],λx=>gy x.1 x.2⟩:=wq t285 (rz [2]) hN func109 [] zf
def t286:=t285.d zhc
def B4:q9:=Lz [] [Mm 0 (.sl qg),.s 1 (.wi 109 [.rp .str]),Mi 7] cW [kL,od] λp s=>uZ p.1 (λz0=>gy z0 p.2.1) p.2.2 s
def z0n:Hints:=Hz [(0,B4)] [] []
theorem Se:LO Tryz.f108 B4 0:=lk t286 rn z0n [] zf
theorem OY:q8 Pz 108 ⟨[.ty (.sl qg),.wi 109 [.rp .str]],[i64],λx=>vH x.1 (λz0=>gy z0 x.2)⟩:=wq t286 rn z0n func108 [0] (qf rfl Se zf)
def t287:=t286.d OY
def EZ:q9:=Lz [.cell 5 7 i64] [Mi 53] ⟨[Mi 54,.a i64,.v FP,.a zr,.a i64,.v Dm,.v z9b,.a i64],[(3,.ptr 1 0),(10,.ptr 5 0),(52,.cur 3 i64)],z3y⟩ [⟨.exit 1,z3K⟩] λp s=>lQ p s
def F1:q9:=Lz [] [Mm 74 (.sl zm),Mi 75] ⟨[Mi 76,.a i64,.v FP,.a zr,.a i64,.v Dm,.v z9b,.a i64],[(10,.ptr 5 0)],z3y⟩ [⟨.exit 3,z3K⟩] λp s=>lR p.1 p.2 s
def z0A:Hints:=Hz [(1,EZ),(3,F1)] [(0,4,.flat [Mb 30]),(3,19,.flat [Mi 15])] []
theorem z1p:LO Tryz.f97 EZ 1:=lk t287 (rz [2]) z0A [] zf
theorem z1q:LO Tryz.f97 F1 3:=lk t287 (rz [2]) z0A [] zf
theorem z2C:jB Pz 97 ⟨[.any,.agg],⟨[Mm 0 qy,.s 1 FP,.a i64],[],jO⟩,[],⟨[Mi 2,.a i64,.v zan,.a zr,.a i64,.a i64],[(0,.ptr 1 0),(1,.wF)],[.arr i64,.var zan,.arr zr,.arr i64,.arr i64]⟩,3,0,⟨[.s 1 (.tight .str),Mi 2,.a i64],[(0,.gX)],jO⟩,some 3,λx=>ez x.1 x.2.1 x.2.2⟩:=Kt t287 (rz [2]) z0A func97 [1,3] (qf rfl z1p (qf rfl z1q zf))
def t288:=t287.p z2C
def Og:q9:=Lz [] [Mm 0 (.sl u32),Mm 1 (.sl u32),Mi 12] z4e [kL,FY] λp s=>gn p.1 p.2.1 p.2.2 s
def zfi:Hints:=Hz [(0,Og)] [] []
theorem z7F:LO Tryz.f299 Og 0:=lk t288 rn zfi [] zf
theorem zjH:q8 Pz 299 ⟨[.ty (.sl u32),.ty (.sl u32)],[.bool],λx=>jq x.1 x.2⟩:=wq t288 rn zfi func299 [0] (qf rfl z7F zf)
def t289:=t288.d zjH
theorem ziP:q8 Pz 234 ⟨[.ty zl,.ty zl],[.bool],λx=>Xn x.1 x.2⟩:=wq t289 rn hN func234 [] zf
def t290:=t289.d ziP
theorem ziR:q8 Pz 236 ⟨[.ty qj,.ty qj],[.bool],λx=>mN x.1 x.2⟩:=wq t290 (rz [2,3]) hN func236 [] zf
def t291:=t290.d ziR
def NP:q9:=Lz [] [Mm 1 (.sl qj),.s 2 (.wi 236 []),Mm 15 (.sl qj),Mi 16] ⟨[Mi 17],[],[]⟩ [kL,⟨.ret,⟨[Mb 6],[],[]⟩⟩] λp s=>uU p.1 (λz0 z1=>mN z0 z1) p.2.2.1 p.2.2.2 s
def zeY:Hints:=Hz [(0,NP)] [] []
theorem z7e:LO Tryz.f235 NP 0:=lk t291 rn zeY [] zf
theorem ziQ:q8 Pz 235 ⟨[.ty (.sl qj),.ty (.sl qj),.wi 236 []],[.bool],λx=>jo x.1 x.2.1 (λz0 z1=>mN z0 z1)⟩:=wq t291 rn zeY func235 [0] (qf rfl z7e zf)
def t292:=t291.d ziQ
theorem zia:q8 Pz 182 ⟨[.ty zr,.ty zr],[.bool],λx=>VE x.1 x.2⟩:=wq t292 (rz [2,3]) hN func182 [] zf
def t293:=t292.d zia
def ze5:Tb:=(t293.p zkQ).p z2C
def N9:q9:=Lz [] [Mr 3 qy,Mi 42] ⟨[Mi 43,.a i64,.v BS,.v (.qi xf),.v BP,.a zr,.a i64,.a i64,.v BO,.a zr,.a i64,.a i64],[(5,.ptr 6 0),(6,.ptr 7 0),(9,.ptr 8 0),(12,.ptr 12 0)],[.dead,.dead,.dead,.arr i64,.dead,.dead,.var BS,.var (.qi xf),.var BP,.arr zr,.arr i64,.arr i64,.var BO,.arr zr,.arr i64,.arr i64]⟩ [⟨.exit 0,⟨[.a i64,.v BS,.v (.qi xf),.v BP,.a zr,.a i64,.a i64,.v BO,.a zr,.a i64,.a i64],[],[.dead,.dead,.dead,.arr i64,.dead,.dead,.var BS,.var (.qi xf),.var BP,.arr zr,.arr i64,.arr i64,.var BO,.arr zr,.arr i64,.arr i64]⟩⟩] λp s=>nO p.1 p.2 s
def zeB:Hints:=Hz [(0,N9)] [(0,11,.ways [⟨.normal,⟨[Mb 81,.a i64,.v BS,.v (.qi xf),.v BP,.a zr,.a i64,.a i64,.v BO,.a zr,.a i64,.a i64],[],[.dead,.dead,.dead,.arr i64,.dead,.dead,.var BS,.var (.qi xf),.var BP,.arr zr,.arr i64,.arr i64,.var BO,.arr zr,.arr i64,.arr i64]⟩⟩])] [(4,[1006000,1006001,1006002,1006004,1006005]),(14,[1006003])]
theorem z6v:LO Tryz.f110 N9 0:=lk ze5 (rz [3,4]) zeB [] zf
theorem zhd:xw Pz 110 ⟨[.any,.any,.agg],⟨[Mm 0 qy,Mm 1 xf,.s 2 z3H,.a zl,.a .bool,.a zl,.a i64,.a zm,.a .bool],[],z3B⟩,[],⟨[.s 0 (.st [.row 6 zl,.row 7 .bool,.im (.sl zl),.row 8 i64,.row 9 zm,.row 10 .bool]),Mm 1 (.sl .str),Mi 2,.a zl,.a .bool,.a i64,.a zm,.a .bool],[],[.dead,.dead,.dead,.dead,.dead,.dead,.arr zl,.arr .bool,.arr i64,.arr zm,.arr .bool]⟩,3,λx=>fS x.1 x.2.1 x.2.2.1 x.2.2.2.1 x.2.2.2.2.1 x.2.2.2.2.2.1 x.2.2.2.2.2.2.1 x.2.2.2.2.2.2.2.1 x.2.2.2.2.2.2.2.2⟩:=eC ze5 (rz [3,4]) zeB func110 [0] (qf rfl z6v zf)
def t294:=t293.s zhd
theorem zoo:q8 Pz 50 ⟨[.ty qy,.ty xf,.ty .str,.ty zl],[xf,(.sl .str),i64],λx=>ox x.1 x.2.1 x.2.2.1 x.2.2.2⟩:=wq (t294.d OY) (rz [4,5,6,7]) hN func50 [] zf
def t295:=t294.d zoo
theorem zhe:q8 Pz 111 ⟨[.ty qs,.rp .str],[.bool],λx=>yx x.1 x.2⟩:=wq t295 (rz [2]) hN func111 [] zf
def t296:=t295.d zhe
def B1:q9:=Lz [] [Mm 0 (.sl qs),.s 1 (.wi 111 [.rp .str]),Mi 7] cW [kL,od] λp s=>wY p.1 (λz0=>yx z0 p.2.1) p.2.2 s
def z0l:Hints:=Hz [(0,B1)] [] []
theorem Sc:LO Tryz.f100 B1 0:=lk t296 rn z0l [] zf
theorem OW:q8 Pz 100 ⟨[.ty (.sl qs),.wi 111 [.rp .str]],[i64],λx=>wb x.1 (λz0=>yx z0 x.2)⟩:=wq t296 rn z0l func100 [0] (qf rfl Sc zf)
def t297:=t296.d OW
theorem zop:q8 Pz 51 ⟨[.ty qy,.ty xf,.ty .str,.ty .bool],[xf,(.sl .str),i64],λx=>mA x.1 x.2.1 x.2.2.1 x.2.2.2⟩:=wq (t297.d OW) (rz [4,5,6]) hN func51 [] zf
def t298:=t297.d zop
theorem zoq:xw Pz 53 ⟨Qe,⟨[Mi 1,Mi 2,.v (.qi qm)],[(0,.ptr 0 0)],WJ⟩,[],UR,1,λx=>jK x.1 x.2.1 x.2.2⟩:=eC t298 rn hN func53 [] zf
def t299:=t298.s zoq
theorem zkN:xw Pz 52 ⟨[.ptr,.wi 46],⟨[.s 1 (.wi 46 []),.v (.qi qm)],[(0,.ptr 0 0)],WJ⟩,[],UR,1,λx=>j6 (λz0 z1 z2=>pz z0 z1 z2) x.2⟩:=eC t299 rn hN func52 [] zf
def t300:=t299.s zkN
theorem z2u:xw Pz 52 ⟨[.ptr,.wi 45],⟨[.s 1 (.wi 45 []),.v (.qi qm)],[(0,.ptr 0 0)],WJ⟩,[],UR,1,λx=>j6 (λz0 z1 z2=>pw z0 z1 z2) x.2⟩:=eC t300 rn hN func52 [] zf
def t301:=t300.s z2u
theorem zhg:q8 Pz 113 ⟨[.ty xp,.rp .str],[.bool],λx=>dR x.1 x.2⟩:=wq t301 (rz [2]) hN func113 [] zf
def t302:=t301.d zhg
def B5:q9:=Lz [] [Mm 0 (.sl xp),.s 1 (.wi 113 [.rp .str]),Mi 7] cW [kL,od] λp s=>yj p.1 (λz0=>dR z0 p.2.1) p.2.2 s
def z0o:Hints:=Hz [(0,B5)] [] []
theorem Sf:LO Tryz.f112 B5 0:=lk t302 rn z0o [] zf
theorem OZ:q8 Pz 112 ⟨[.ty (.sl xp),.wi 113 [.rp .str]],[i64],λx=>uV x.1 (λz0=>dR z0 x.2)⟩:=wq t302 rn z0o func112 [0] (qf rfl Sf zf)
def t303:=t302.d OZ
theorem zor:q8 Pz 54 ⟨[.ty qy,.ty (.sl .bool),.ty .str],[i64,i64],λx=>W5 x.1 x.2.1 x.2.2⟩:=wq (t303.d OZ) (rz [3,5]) hN func54 [] zf
def t304:=t303.d zor
def zbg:Hints:=Hz [] [(0,1,.Hb)] []
theorem CW:q8 Pz 115 ⟨[.ty (.sl .str)],[(.sl .str)],λx=>wQ x⟩:=wq t304 rn zbg func115 [] zf
def t305:=t304.d CW
theorem zhi:q8 Pz 116 ⟨[.ty (.sl .str),.ty (.sl .str),.ty .str],[(.sl .str),(.sl .str),.str],λx=>tX x.1 x.2.1 x.2.2⟩:=wq (t305.s za9) rn hN func116 [] zf
def t306:=t305.d zhi
theorem zos:q8 Pz 56 ⟨[.ty yp,.ty .str],[yp,.str,.bool],λx=>tW x.1 x.2⟩:=wq (t306.d CW) (rz [2]) hN func56 [] zf
def t307:=t306.d zos
theorem zj2:jB Pz 247 ⟨[.any],z4j,[],⟨[],[],[]⟩,0,377,XC,none,λx=>uu x⟩:=Kt t307 rn hN func247 [] zf
def t308:=t307.p zj2
theorem zjI:jB Pz 300 ⟨[.ptr],⟨[.v (.qi jv)],[(0,.ptr 0 0)],FN⟩,[],⟨[Ms 0,.v (.qi jv)],[],FN⟩,1,377,z3Y,none,λx=>bf x⟩:=Kt t308 rn hN func300 [] zf
def t309:=t308.p zjI
theorem ziU:jB Pz 239 ⟨lC,⟨[Ms 1,.v (.qi jv)],[(0,.ptr 0 0)],FN⟩,[],⟨[Mm 0 (.sl .str),.v (.qi jv)],[],FN⟩,1,377,z3Y,none,λx=>wO x.1 x.2⟩:=Kt t309 rn hN func239 [] zf
def t310:=t309.p ziU
theorem ziV:jB Pz 240 ⟨[.any],Qv,[],⟨[Mm 0 zl],[],[]⟩,1,377,XC,none,λx=>dm x⟩:=Kt t310 rn hN func240 [] zf
def t311:=t310.p ziV
def NQ:q9:=Lz [.slot 5 zl] [Mm 8 (.sl .str),Mi 9] ⟨[Mi 10,.a zl],[(1,.wi 240 []),(5,.cur 0 zl)],tD⟩ [⟨.exit 0,⟨[.a zl],[(5,.cur 0 zl)],tD⟩⟩,⟨.b9 (.iface 377 .v8),⟨[Mm 0 .nil,.a zl],[],tD⟩⟩] λp s=>gE p.1 p.2 s
def zeZ:Hints:=Hz [(0,NQ)] [] []
theorem z7f:LO Tryz.f238 NQ 0:=lk t311 rn zeZ [] zf
theorem ziT:jB Pz 238 ⟨[.any,.wi 240],⟨[Mm 0 (.sl .str),.s 1 (.mclo 240 [])],[],[]⟩,[],z4b,1,377,XC,none,λx=>uL x.1 x.2⟩:=Kt t311 rn zeZ func238 [0] (qf rfl z7f zf)
def t312:=t311.p ziT
theorem ziX:jB Pz 242 ⟨[.any],Qv,[],z4j,1,377,XC,none,λx=>mC x⟩:=Kt t312 rn hN func242 [] zf
def t313:=t312.p ziX
def NR:q9:=Lz [.slot 5 .bool] [Mm 8 (.sl .str),Mi 9] ⟨[Mi 10,.a .bool],[(1,.wi 242 []),(5,.cur 0 .bool)],[.arr .bool]⟩ [z4y,⟨.b9 (.iface 377 .v8),⟨[Mm 0 .nil,.a .bool],[],[.arr .bool]⟩⟩] λp s=>gF p.1 p.2 s
def zf0:Hints:=Hz [(0,NR)] [] []
theorem z7g:LO Tryz.f241 NR 0:=lk t313 rn zf0 [] zf
theorem ziW:jB Pz 241 ⟨[.any,.wi 242],⟨[Mm 0 (.sl .str),.s 1 (.mclo 242 [])],[],[]⟩,[],z48,1,377,XC,none,λx=>uM x.1 x.2⟩:=Kt t313 rn zf0 func241 [0] (qf rfl z7g zf)
def t314:=t313.p ziW
end Go.AM.Lf
namespace Go.AM
open Go.AM.Lf Go.RowKit Go.Proofs
theorem DS(w:World)(e:TypeId)(s:ByteArray):Below w.heap.size w (Go.Lib.bytesWorld w e s):=by
 refine⟨rfl,rfl,rfl,?_,λb I=>Go.Lib.bytesWorld_at_old w e s b I⟩
 simp[Go.Lib.bytesWorld,World.freeze,World.alloc,World.drew,-World.alloc_eq,-World.drew_eq]
theorem E8:∀ (l:List UInt8) (acc k:Nat),l.length+k<=18->acc<10 ^ k->(∀ b∈l,48<=b.toNat/\b.toNat<=57)->qO acc l=.ok (l.foldl (λn b=>n*10+(b.toNat-48)) acc)
 | [],acc,_,_,_,_=>rfl
 | c::l,acc,k,hk,ha,J=>by
  have h1:=J c qC
  rw[zK]at hk
  have e:=Nat.pow_le_pow_right (show 0<10 by omega) (show k<=17 by omega)
  rw[qO,if_pos h1,if_neg (by omega),if_neg (by omega),E8 l _ (k+1) (by omega) (by rw[Nat.pow_succ]; omega) λb I=>J b (qJ _ I)]
  rfl
theorem z9n:∀ (l:List UInt8) (acc k:Nat),acc<10 ^ k->(∀ b∈l,48<=b.toNat/\b.toNat<=57)->l.foldl (λn b=>n*10+(b.toNat-48)) acc<10 ^ (k+l.length)
 | [],acc,k,ha,_=>ha
 | c::l,acc,k,ha,J=>by
  have h1:=J c qC
  have:=z9n l (acc*10+(c.toNat-48)) (k+1) (by rw[Nat.pow_succ]; omega) λb I=>J b (qJ _ I)
  rwa [zK,show k+(l.length+1)=k+1+l.length by omega]
theorem z5n{s:zx}(h0:s≠[])(h1:s.length<=18)(J:∀ b∈s,48<=b.toNat/\b.toNat<=57):Go.Lib.atoiAll s=.ok (dgV s:Int):=by
 cases s with
 | nil=>exact absurd rfl h0
 | cons c r =>
  have hc:=J c qC
  have hp:=E8 (c::r) 0 0 (by omega) (by omega) J
  have R:=zI (z9n (c::r) 0 0 (by omega) J) (Nat.pow_le_pow_right (show 0<10 by omega) (show 0+(c::r).length<=18 by omega))
  unfold Go.Lib.atoiAll
  simp only[if_neg (show ¬ (c.toNat=43\/c.toNat=45) by omega),Go.Lib.parseMag,if_neg (List.cons_ne_nil c r),hp]
  have hn:¬ c.toNat=45:=by omega
  simp only[hn,not_false_eq_true,true_and,false_and,if_false]
  rw[if_neg (by omega)]
  rfl
theorem zkh:xw Tryz.prog 348 ⟨[.any],Qv,[],⟨[.s 0 (.qi i64)],[(1,.v8)],[]⟩,2,λx=>strconv_Atoi x⟩:=by
 intro Z x xb y vX hy hI hlen hR
 obtain⟨⟨⟨h0,h1⟩,M⟩,rfl⟩:=hy
 obtain⟨v0,hv0,hd0⟩:=hR.get 0 (.qi .str x) rfl
 have fp:xb.toArray = #[.string ⟨x.toArray⟩]:=by
  match xb,hlen with
  | [a],_ =>
   simp at hv0
   rw[hv0,hd0.jc]
 rw[fp]
 refine .inl ⟨nG Tryz.func348 (by kernel_rfl) rfl Z.w,(Go.Proofs.Tryz.strconv_Atoi_ok ⟨x.toArray⟩ (by rw[show(zF ⟨x.toArray⟩)=zH x from E]; omega) (dgV x:Int) (z5n h0 h1 M) Z.w).mono ?_⟩
 rintro e w' ⟨rfl,hw⟩
 have hB:Below Z.w.heap.size Z.w w':=hw.elim (λh=>h▸Zn _) λ⟨t,h⟩=>h▸DS _ _ _
 obtain⟨g1,g2⟩:=Es hI vX hB
 refine⟨Z.grown w',[.qi i64 (dgV x:Int),.v8],rfl,vX,g1,g2,rfl,_,rfl,.eG _ _ rfl λi h1 M => ?_⟩
 match i with
 | 0=>exact RD.int
 | 1=>exact RD.v8

end Go.AM
namespace Go.AM.Lf
open Go.Proofs Go.Proofs.Tryz
def t315:=t314.s zkh
def zmv:Hints:=Hz [] [(0,1,.ways [⟨.normal,⟨[],[],[]⟩⟩,⟨.b9 (.iface 377 .v8),XC⟩])] []
theorem zjJ:jB Pz 301 ⟨[.any],Qv,[],z4g,1,377,XC,none,λx=>mB x⟩:=Kt t315 rn zmv func301 [] zf
def t316:=t315.p zjJ
theorem ziZ:jB Pz 244 ⟨[.any],Qv,[],z4g,1,377,XC,none,λx=>mD x⟩:=Kt t316 rn hN func244 [] zf
def t317:=t316.p ziZ
def NS:q9:=Lz [.slot 5 i64] [Mm 8 (.sl .str),Mi 9] ⟨[Mi 10,.a i64],[(1,.wi 244 []),(5,.cur 0 i64)],jO⟩ [⟨.exit 0,⟨[.a i64],[(5,.cur 0 i64)],jO⟩⟩,⟨.b9 (.iface 377 .v8),⟨[Mm 0 .nil,.a i64],[],jO⟩⟩] λp s=>b8 p.1 p.2 s
def zf1:Hints:=Hz [(0,NS)] [] []
theorem z7h:LO Tryz.f243 NS 0:=lk t317 rn zf1 [] zf
theorem ziY:jB Pz 243 ⟨[.any,.wi 244],⟨[Mm 0 (.sl .str),.s 1 (.mclo 244 [])],[],[]⟩,[],Mh,1,377,XC,none,λx=>kT x.1 x.2⟩:=Kt t317 rn zf1 func243 [0] (qf rfl z7h zf)
def t318:=t317.p ziY
def zmG:Hints:=Hz [] [(0,1,.flat [Mb 4])] []
theorem zkA:q8 Pz 377 ⟨[.ty .str,.ty .str],[.bool],λx=>jW x.1 x.2⟩:=wq t318 rn zmG func377 [] zf
def t319:=t318.d zkA
theorem zki:q8 Pz 349 ⟨[.ty .str,.ty .str],[.str,.bool],λx=>jU x.1 x.2⟩:=wq t319 rn hN func349 [] zf
def t320:=t319.d zki
theorem zjK:q8 Pz 302 ⟨[.ty .str,.ty .str],[.str,.bool],λx=>strings_CutSuffix x.1 x.2⟩:=wq t320 rn hN func302 [] zf
def t321:=t320.d zjK
theorem zj1:jB Pz 246 ⟨[.any],Qv,[],⟨[Mm 0 zm],[],[]⟩,1,377,XC,none,λx=>mE x⟩:=Kt t321 rn hN func246 [] zf
def t322:=t321.p zj1
def NT:q9:=Lz [.slot 5 zm] [Mm 8 (.sl .str),Mi 9] ⟨[Mi 10,.a zm],[(1,.wi 246 []),(5,.cur 0 zm)],Mg⟩ [⟨.exit 0,⟨[.a zm],[(5,.cur 0 zm)],Mg⟩⟩,⟨.b9 (.iface 377 .v8),⟨[Mm 0 .nil,.a zm],[],Mg⟩⟩] λp s=>yt p.1 p.2 s
def zf2:Hints:=Hz [(0,NT)] [] []
theorem z7i:LO Tryz.f245 NT 0:=lk t322 rn zf2 [] zf
theorem zj0:jB Pz 245 ⟨[.any,.wi 246],⟨[Mm 0 (.sl .str),.s 1 (.mclo 246 [])],[],[]⟩,[],z3W,1,377,XC,none,λx=>ji x.1 x.2⟩:=Kt t322 rn zf2 func245 [0] (qf rfl z7i zf)
def t323:=t322.p zj0
theorem ziS:cD (Mn Pz) 237 ⟨[.ptr],⟨[.v (.qi i64)],[(0,.ptr 0 0)],Md⟩,[],z4d,0,λx=>fT x⟩:=fkr t323 rn hN Tryz.func237
theorem z8o:cD (R9 Pz 377) 237 ⟨lC,⟨[Mm 1 .nil,.v (.qi i64)],[(0,.ptr 0 0)],Md⟩,[],z4d,0,λx=>wD x.1 x.2⟩:=fkh t323 rn hN Tryz.func237 1
theorem zib:xw Pz 183 ⟨[.any],Qv,[],⟨[.s 0 z3H,Mi 1,.a zl,.a .bool,.a zl,.a i64,.a zm,.a .bool],[],z3B⟩,2,λx=>oy x⟩:=fkf t323 rn hN (g:=237) (pt:=377) ziS z8o Tryz.func183
def t324:=t323.s zib
theorem zhh:q8 Pz 114 ⟨[.ty qy,.ty .str],[xf,i64],λx=>sD x.1 x.2⟩:=wq t324 (rz [2]) hN func114 [] zf
def t325:=t324.d zhh
theorem zkO:xw Pz 55 ⟨[.ptr,.wi 56],⟨[.s 1 (.wi 56 []),.v (.qi qm)],[(0,.ptr 0 0)],WJ⟩,[],UR,1,λx=>uP (λz0 z1=>tW z0 z1) x.2⟩:=eC t325 rn hN func55 [] zf
def t326:=t325.s zkO
theorem zot:q8 Pz 57 ⟨[.ty yp,.ty .str],[yp,.str,.bool],λx=>tV x.1 x.2⟩:=wq (t326.d CW) (rz [2]) hN func57 [] zf
def t327:=t326.d zot
theorem z2v:xw Pz 55 ⟨[.ptr,.wi 57],⟨[.s 1 (.wi 57 []),.v (.qi qm)],[(0,.ptr 0 0)],WJ⟩,[],UR,1,λx=>uP (λz0 z1=>tV z0 z1) x.2⟩:=eC t327 rn hN func55 [] zf
def t328:=t327.s z2v
theorem zkj:q8 Pz 350 ⟨[.ty .str,.ty wK,.ty (.sl zl)],[zl,i64],λx=>VF x.1 x.2.1 x.2.2⟩:=wq t328 (rz [4]) hN func350 [] zf
def t329:=t328.d zkj
theorem zjM:q8 Pz 304 ⟨[.ty zl,.ty zl],[zl],λx=>UA x.1 x.2⟩:=wq t329 (rz [2,3]) hN func304 [] zf
def t330:=t329.d zjM
abbrev zed:=dV [.ty .expr,.ty wK,.ty (.sl zl)]->T (Dq [zl,i64])
abbrev zlS(F:zed):=q8 Pz 303 ⟨[.ty .expr,.ty wK,.ty (.sl zl)],[zl,i64],F⟩
theorem z8r(Hq:zed)(z0E:zlS Hq):q8 Pz 303 ⟨[.ty .expr,.ty wK,.ty (.sl zl)],[zl,i64],λx=>y9 (λy0 y1 y2=>Hq (y0,y1,y2)) x.1 x.2.1 x.2.2⟩:=wq (t330.d z0E) (rz [3,4]) hN func303 [] zf
theorem zjL:q8 Pz 303 ⟨[.ty .expr,.ty wK,.ty (.sl zl)],[zl,i64],λx=>Zl x.1 x.2.1 x.2.2⟩:=Yi (λHq x=>y9 (λy0 y1 y2=>Hq (y0,y1,y2)) x.1 x.2.1 x.2.2) (λx=>rfl) (λHq z0E=>z8r Hq z0E)
def t331:=t330.d zjL
theorem zj4:q8 Pz 249 ⟨[.ty .expr,.ty wK,.ty (.sl zl)],[zl,i64],λx=>tH x.1 x.2.1 x.2.2⟩:=wq t331 (rz [3,4]) hN func249 [] zf
def t332:=t331.d zj4
theorem zj5:q8 Pz 250 ⟨[.ty zl,.ty zl],[i64],λx=>KJ x.1 x.2⟩:=wq t332 (rz [2,3]) hN func250 [] zf
def t333:=t332.d zj5
def zmd:Hints:=Hz [] [(0,3,.flat [Mb 33])] []
theorem zid:q8 Pz 185 ⟨[.ty xj,.ty wK,.ty (.sl zl)],[.bool],λx=>oQ x.1 x.2.1 x.2.2⟩:=wq t333 (rz [3,4]) zmd func185 [] zf
def t334:=t333.d zid
def Nc:q9:=Lz [] [Mr 2 qy,Mr 3 xf,Mi 7,Mm 20 (.sl .bool),Mi 21,Mi 22,Mm 30 (.sl qw),Mi 31] ⟨[Mi 32,.v (.qi wK),.a .str],[(5,.cur 1 .str),(6,.ptr 0 0)],Me⟩ [⟨.exit 2,z4o⟩] λp s=>iR p.1 p.2.1 p.2.2.1 p.2.2.2.1 p.2.2.2.2.1 p.2.2.2.2.2.1 p.2.2.2.2.2.2.1 p.2.2.2.2.2.2.2 s
def Nd:q9:=Lz [] [Mr 2 qy,Mr 3 xf,Mi 7,Mm 20 (.sl .bool),Mi 21,Mi 22,Mm 67 (.sl xj),Mi 68] ⟨[Mi 69,.v (.qi wK),.a .str],[(5,.cur 1 .str),(6,.ptr 0 0)],Me⟩ [⟨.exit 4,z4o⟩] λp s=>iS p.1 p.2.1 p.2.2.1 p.2.2.2.1 p.2.2.2.2.1 p.2.2.2.2.2.1 p.2.2.2.2.2.2.1 p.2.2.2.2.2.2.2 s
def Nb:q9:=Lz [.slot 5 .str] [Mr 2 qy,Mr 3 xf,Mm 20 (.sl .bool),Mi 21] ⟨[Mi 22,.v (.qi wK),.a .str],[(5,.cur 1 .str),(6,.ptr 0 0)],Me⟩ [⟨.exit 0,z4o⟩] λp s=>iQ p.1 p.2.1 p.2.2.1 p.2.2.2 s
def z5D:Hints:=Hz [(2,Nc),(4,Nd),(0,Nb)] [(0,10,.flat [Mb 59]),(0,16,.ways [⟨.normal,⟨[Mb 83,.v (.qi wK),.a .str,.v (.qi xj)],[(5,.cur 1 .str)],[.var (.qi wK),.arr .str,.var (.qi xj)]⟩⟩])] []
theorem z6y:LO Tryz.f117 Nc 2:=lk t334 (rz [2,3]) z5D [] zf
theorem z6z:LO Tryz.f117 Nd 4:=lk t334 (rz [2,3]) z5D [] zf
theorem z6x:LO Tryz.f117 Nb 0:=lk t334 (rz [2,3]) z5D [2,4] (qf rfl z6y (qf rfl z6z zf))
theorem zhj:q8 Pz 117 ⟨[.ty qy,.ty xf],[(.sl .str)],λx=>iN x.1 x.2⟩:=wq t334 (rz [2,3]) z5D func117 [0] (qf rfl z6x zf)
def t335:=t334.d zhj
def Ng:q9:=Lz [.slot 6 qg] [Mr 3 xf,Mm 5 (.sl .bool),Mm 15 (.sl qw),Mi 16] ⟨[Mi 17,.a qg],[(6,.cur 0 qg)],[.arr qg]⟩ [⟨.exit 0,⟨[.a qg],[(6,.cur 0 qg)],[.arr qg]⟩⟩] λp s=>Q5 p.1 p.2.1 p.2.2.1 p.2.2.2 s
def zeE:Hints:=Hz [(0,Ng)] [(0,6,.flat [Mb 39]),(3,8,.ways [⟨.normal,⟨[.a qg,.v (.qi qw),.v (.qi zl)],[(6,.cur 0 qg)],[.arr qg,.var (.qi qw),.var (.qi zl)]⟩⟩])] []
theorem z6B:LO Tryz.f119 Ng 0:=lk t335 (rz [2,3]) zeE [] zf
theorem zhl:q8 Pz 119 ⟨[.ty qy,.ty xf],[(.sl qg)],λx=>W9 x.1 x.2⟩:=wq t335 (rz [2,3]) zeE func119 [0] (qf rfl z6B zf)
def t336:=t335.d zhl
def Nf:q9:=Lz [.cell 0 1 (.int .u8)] [Mm 6 (.sl qg),Mi 7] ⟨[Mi 8,.v Js,.a (.int .u8)],[(3,.ptr 0 0)],Qt⟩ [Mk] λp s=>mj p.1 p.2 s
def zeD:Hints:=Hz [(0,Nf)] [] []
theorem z6A:LO Tryz.f118 Nf 0:=lk t336 rn zeD [] zf
theorem zhk:q8 Pz 118 ⟨[.ty (.sl qg)],[.str],λx=>mL x⟩:=wq t336 rn zeD func118 [0] (qf rfl z6A zf)
def t337:=t336.d zhk
theorem zou:xw Pz 58 ⟨[.ptr],⟨[.v (.qi qm)],[(0,.ptr 0 0)],WJ⟩,[],UR,1,λx=>kO x⟩:=eC t337 rn hN func58 [] zf
def t338:=t337.s zou
def h26:Hints:=Hz [] [(3,4,.flat [Mb 27])] []
theorem zo4:xw Pz 26 ⟨lC,z3V,[],UR,1,λx=>gH x.1 x.2⟩:=eC ((((t338.s z2v).s zkO).s z2u).s zkN) (rz [3]) h26 func26 [] zf
def t339:=t338.s zo4
theorem z8p:cD (Mn Pz) 25 ⟨[.ptr,.ptr,.ptr],⟨[.v (.qi qm),.v (.qi xv),.v (.qi qm)],[(0,.ptr 0 0),(1,.ptr 1 0),(2,.ptr 2 0)],[.var (.qi qm),.cvar (.ptr 3 0),.var (.qi xv),.var (.qi qm)]⟩,[],⟨[.v (.qi qm),.v (.qi xv),.v (.qi qm)],[],[.var (.qi qm),.cvar (.ptr 3 0),.var (.qi xv),.var (.qi qm)]⟩,0,λx=>cE x.1 x.2.1 x.2.2⟩:=fkr t339 rn hN Tryz.func25
theorem zhm:xw Pz 12 ⟨lC,z3V,[],UR,1,λx=>vJ x.1 x.2⟩:=fkf t339 (rz [3]) hN (g:=25) (pt:=0) z8p (z9r z8p) Tryz.func12
def t340:=t339.s zhm
def z1s:q9:=Lz [.slot 5 xv] [Mm 8 (.sl cq),Mi 9] ⟨[Mi 10,.v (.qi qm),.a xv],[(0,.ptr 0 0),(5,.cur 1 xv)],M9⟩ [⟨.exit 0,⟨[.v (.qi qm),.a xv],[(5,.cur 1 xv)],M9⟩⟩] λp s=>bV p.1 p.2 s
def h14:Hints:=Hz [(0,z1s)] [] []
theorem zc6:LO Tryz.f14 z1s 0:=lk t340 rn h14 [] zf
theorem zcQ:xw Pz 14 ⟨lC,⟨[Mm 1 (.sl cq),.v (.qi qm)],[(0,.ptr 0 0)],WJ⟩,[],⟨[.v (.qi qm),.a xv],[(0,.cur 1 xv)],M9⟩,1,λx=>jy x.1 x.2⟩:=eC t340 rn h14 func14 [0] (qf rfl zc6 zf)
def t341:=t340.s zcQ
theorem z2t:xw Pz 12 ⟨GB,⟨[Mm 1 cq],[(0,.gX)],[]⟩,[],⟨[Mm 0 xv],[],[]⟩,1,λx=>mV x⟩:=fkf t341 (rz [3]) hN (g:=25) (pt:=0) z8p (z9r z8p) Tryz.func12
def t342:=t341.s z2t
def z9g:Tb:=t342.s z2t
def EV:q9:=Lz [.slot 5 xv] [Mm 8 (.sl cq),Mi 9] ⟨[Mi 10,.a xv],[(0,.gX),(5,.cur 0 xv)],[.arr xv]⟩ [⟨.exit 0,⟨[.a xv],[(5,.cur 0 xv)],[.arr xv]⟩⟩] λp s=>eB p.1 p.2 s
def z9t:Hints:=Hz [(0,EV)] [] []
theorem z1l:LO Tryz.f14 EV 0:=lk z9g rn z9t [] zf
theorem Lq:xw Pz 14 ⟨GB,⟨[Mm 1 (.sl cq)],[(0,.gX)],[]⟩,[],⟨[.a xv],[(0,.cur 0 xv)],[.arr xv]⟩,1,λx=>yU x⟩:=eC z9g rn z9t func14 [0] (qf rfl z1l zf)
def t343:=t342.s Lq
def h10:Hints:=Hz [] [(0,3,.flat [Mb 22]),(0,6,.flat [Mb 0])] []
theorem znW:q8 Pz 10 ⟨[],[.bool],λ_=>kA⟩:=wq ((t343.s Lq).s zcQ) rn h10 func10 [] zf
def t344:=t343.d znW
end Go.AM.Lf
