/-
  The walk, part 0: each function of the program is the tree that the lifted text says; printed by a program of ours.
-/
import Derived.Test.YtjklmealdnfhfaaGreatDoorProg
import Derived.KernelRfl
import Derived.Test.YtjklmealdnfhfaaGreatDoorAmE
import Derived.Test.YtjklmealdnfhfaaGreatDoorLf1
import Derived.Lib.Builder
import Derived.Shelf.Strings.Builder1
import Derived.WalkKit
import Derived.TacticsInMore
import Derived.Maps.OwnOps
import Derived.Maps.AppendAt
import Derived.StringKeys
import Derived.Maps.Views
import Derived.Shelf.Strings.FieldsFuncAny
import Derived.RangeFuncBox
import Derived.RangeFuncLeaves
import Derived.RangeFuncNested
import Derived.Shelf.Abstract
import Derived.OwnWalkIn
import Derived.LoopNIn
import Derived.LoopIn
import Derived.Lib.AtoiAll
import Derived.Lib.ConvBytes
import Derived.Test.YtjklmealdnfhfaaGreatDoorSh
set_option linter.unusedVariables false
open Go.Obj renaming cells -> zA
open List renaming size_toArray -> Y, length -> zH, length_cons -> zK, append_toArray -> zS, getElem?_eq_getElem -> zT, push_toArray -> zV, take_succ_eq_append_getElem -> zW, cons_append -> zX, eq_nil_of_length_eq_zero -> zY, length_nil -> zZ, nil_append -> qA, mem_cons_self -> qC, mem_cons_of_mem -> qJ
open Go.Value renaming int -> X, pointer -> zG, bool -> zM, slice -> qM, agg -> qR
open Nat renaming le_refl -> V, lt_of_lt_of_le -> zI, reduceAdd -> qE, reduceSub -> qF, zero_le -> qK
open Option renaming none -> zE, map_eq_some_iff -> qG
open ByteArray renaming size -> zF
open Go.Builtin renaming unsafeSliceData_ -> zJ, append_ -> zU, zeroCells -> qD, unsafeString_ -> qI, firstCells -> qN
open Go.World renaming size_alloc -> zL
open Go.Oper renaming semAt_some -> zN, upon_value -> qH
open Array renaming replicate_succ -> zO, replicate_zero -> zP
open Go.Lib renaming cell_of_heap -> zQ, run_unsafeSliceData_row -> qB, parseUint10 -> qO, pow10Tab -> qP
open Go.KeepsOthers renaming setCell -> zR
open Go.Result renaming andThen -> qL
open Go.Boxed renaming new -> qQ
set_option maxRecDepth 100000
noncomputable section
namespace Go.AM.Lf
open Go.Proofs Go.Proofs.Tryz
abbrev I4:Nat:=81
noncomputable abbrev Pz:Program:=Tryz.prog
def kU(f:Func):Code:=match f.body with | some c=>c | none=>.skip
def lb(k:Nat)(f:Func):Code:=match V0 k (kU f)with | some c=>c | none=>.skip
theorem mixed:Pz.follows .mixedOrders=true:=by kernel_rfl
instance:yY:={ u8:=5,tab:=[(0,EG .u64 qP),(2,CA .i64)] }
theorem fG{O:KS}(B:Inv O):Lib.TabIs Tryz.prog O.w "internal/strconv.uint64pow10" .u64 qP :=
 zd5 (g:=0) (by kernel_rfl) (B.gl (0,EG .u64 qP) (by simp[yY.tab])).2
theorem kW{O:KS}(B:Inv O):∃ m,O.w.cell? ⟨2,0,none⟩=some (.int .i64 m) :=
 RR (B.gl (2,CA .i64) (by simp[yY.tab])).2
structure Tb where
 t:lF
 ok:ek Pz t
def Tb.d(T:Tb){g:Nat}{d:Dy}(h:q8 Pz g d):Tb:=⟨(g,.d d)::T.t,LQ h T.ok⟩
def Tb.s(T:Tb){g:Nat}{d:gZ}(h:xr Pz g d):Tb:=⟨(g,.s d)::T.t,Fy h T.ok⟩
def Tb.p(T:Tb){g:Nat}{d:lE}(h:jB Pz g d):Tb:=⟨(g,.p d)::T.t,Fx h T.ok⟩
def t0:Tb:=⟨[],SP _⟩
def fL:List (Nat×q9)->Nat->Option q9
 | [],_=>none
 | x::r,n=>bif Nat.beq x.1 n then some x.2 else fL r n
def fC:List (Nat×Nat×z4T)->Nat->Nat->Option z4T
 | [],_,_=>none
 | x::r,k,n=>bif Nat.beq x.1 k&&Nat.beq x.2.1 n then some x.2.2 else fC r k n
def fF:List (Nat×List Nat)->Nat->List Nat
 | [],_=>[]
 | x::r,n=>bif Nat.beq x.1 n then x.2 else fF r n
def Hz(l:List (Nat×q9))(c:List (Nat×Nat×z4T))(f:List (Nat×List Nat)):Hints:=⟨fL l,fC c,fF f⟩
def hN:Hints:=Hz [] [] []
def rz(l:List Nat)(s:Nat):Bool:=l.any (Nat.beq s)
def rn(_:Nat):Bool:=false
def Lz(gh:List Gh)(ps:List It)(sh:ur)(ws:List Way)(hl:jT ps->sh.den->T (sh.den⊕fP ws)):q9:=⟨gh,ps,sh,ws,λp s=>T.loop (hl p) s⟩
abbrev LO(f:Func)(l:q9)(i:Nat):Prop:=Vw Pz f.ntmps l (lb i f)
def ls(f:Func):List Nat->List (Nat×Code)
 | []=>[]
 | i::r=>(i,lb i f)::ls f r
abbrev Mi(n:Nat):It:=.s n (.qj i64)
abbrev Mb(n:Nat):It:=.s n (.qj .bool)
abbrev Ms(n:Nat):It:=.s n (.qj .str)
abbrev Mm(n:Nat)(t:Ty):It:=.s n (.qj t)
abbrev Mr(n:Nat)(t:Ty):It:=.s n (.vA t)
abbrev Sh0(l:List It):ur:=⟨l,[],[]⟩
theorem lk{f:Func}{i:Nat}{gh:List Gh}{ps:List It}{sh:ur}{ws:List Way}{hl:jT ps->sh.den->T (sh.den⊕fP ws)}(T:Tb)(ro:Nat->Bool)(H:Hints)(L:List Nat)(ha:BQ Pz f.ntmps H (ls f L))
  (h:∀ p s,z2R (gO Pz I4 T.t ro) T.t f.ntmps H (Lz gh ps sh ws hl) (lb i f) p s=hl p s:=by intro p s; kernel_rfl) (R:ua (lb i f)=ls f L:=by kernel_rfl):LO f (Lz gh ps sh ws hl) i :=
 z81 (xid:=I4) (ro:=ro) (H:=H) mixed T.ok (U6 R ha) hl h λ_ _=>rfl
theorem wq{f:Nat}{fn:Func}{d:Dy}(T:Tb)(ro:Nat->Bool)(H:Hints)(hf:Pz.funcs[f]? = some fn)(L:List Nat)(ha:BQ Pz fn.ntmps H (ls fn L))
  (h:∀ x,TZ (gO Pz I4 T.t ro) T.t H fn (kU fn) d x=d.F x:=by intro x; kernel_rfl) (I:fn.body=some (kU fn):=by rfl) (hn:(fn.name == "runtime.NumGoroutine")=false:=by kernel_rfl) (R:ua (kU fn)=ls fn L:=by kernel_rfl):q8 Pz f d :=
 zeg (xid:=I4) (ro:=ro) (H:=H) mixed T.ok hf I hn (U6 R ha) h
theorem ef{f:Nat}{fn:Func}{d:gZ}(T:Tb)(ro:Nat->Bool)(H:Hints)(hf:Pz.funcs[f]? = some fn)(L:List Nat)(ha:BQ Pz fn.ntmps H (ls fn L))
  (h:∀ x,IC (gO Pz I4 T.t ro) T.t H fn (kU fn) d x=d.F x:=by intro x; kernel_rfl) (I:fn.body=some (kU fn):=by rfl) (hn:(fn.name == "runtime.NumGoroutine")=false:=by kernel_rfl) (R:ua (kU fn)=ls fn L:=by kernel_rfl):xr Pz f d :=
 zb6 (xid:=I4) (ro:=ro) (H:=H) mixed T.ok hf I hn (U6 R ha) h
def hdB(c:Code):Code:=match c with | .seq _ b=>b | _=>.skip
def hdO(c:Code):Array Oper:=match c with | .seq (.region _ ops _) _=>ops | _ => #[]
def hdI(c:Code):Nat:=match c with | .seq (.region id _ _) _=>id | _=>0
theorem fkr{f:Nat}{fn:Func}{d:gZ}(T:Tb)(ro:Nat->Bool)(H:Hints)(hf:Pz.funcs[f]? = some fn)
  (h:∀ x,evH (gO Pz I4 T.t ro) T.t H fn (hdO (kU fn)) (hdB (kU fn)) d d.ks.length none x=d.F x:=by intro x; kernel_rfl) (I:fn.body=some (.seq (.region (hdI (kU fn)) (hdO (kU fn)) false) (hdB (kU fn))):=by kernel_rfl) (hn:(fn.name == "runtime.NumGoroutine")=false:=by kernel_rfl) (R:ua (hdB (kU fn))=[]:=by kernel_rfl):cB (Me Pz) f d :=
 z5J (xid:=I4) (ro:=ro) (H:=H) mixed T.ok hf I hn (KA R) h
theorem fkh{f t:Nat}{fn:Func}{d:gZ}(T:Tb)(ro:Nat->Bool)(H:Hints)(hf:Pz.funcs[f]? = some fn)(k:Nat)
  (h:∀ x,evH (gO Pz I4 T.t ro) T.t H fn (hdO (kU fn)) (hdB (kU fn)) d k (some t) x=d.F x:=by intro x; kernel_rfl) (hk:d.ks.length=k+1:=by kernel_rfl) (I:fn.body=some (.seq (.region (hdI (kU fn)) (hdO (kU fn)) false) (hdB (kU fn))):=by kernel_rfl) (hn:(fn.name == "runtime.NumGoroutine")=false:=by kernel_rfl) (R:ua (hdB (kU fn))=[]:=by kernel_rfl):cB (R1 Pz t) f d :=
 z5I (xid:=I4) (ro:=ro) (H:=H) mixed T.ok hf I hn (KA R) hk h
theorem z9l{g:Nat}{d:gZ}(_:cB (Me Pz) g d):cB (R1 Pz 0) g { d with F:=λ_=>.fail }:=λ_ _ _ _ _ hy=>hy.elim
theorem fkf{f g pt:Nat}{fn:Func}{d d0 d1:gZ}(T:Tb)(ro:Nat->Bool)(H:Hints)(h0:cB (Me Pz) g d0)(h1:cB (R1 Pz pt) g d1)(hf:Pz.funcs[f]? = some fn)
  (h:∀ x,TY (gO Pz I4 T.t ro) T.t H ⟨g,d0,pt,d1⟩ fn (kU fn) d x=d.F x:=by intro x; kernel_rfl) (I:fn.body=some (kU fn):=by rfl) (hn:(fn.name == "runtime.NumGoroutine")=false:=by kernel_rfl) (R:ua (kU fn)=[]:=by kernel_rfl):xr Pz f d :=
 zb4 (xid:=I4) (ro:=ro) (H:=H) mixed T.ok (h:=⟨g,d0,pt,d1⟩) h0 h1 hf I hn R h
theorem Ko{f:Nat}{fn:Func}{d:lE}(T:Tb)(ro:Nat->Bool)(H:Hints)(hf:Pz.funcs[f]? = some fn)(L:List Nat)(ha:BQ Pz fn.ntmps H (ls fn L))
  (h:∀ x,IB (gO Pz I4 T.t ro) T.t H fn (kU fn) d x=d.F x:=by intro x; kernel_rfl) (I:fn.body=some (kU fn):=by rfl) (hn:(fn.name == "runtime.NumGoroutine")=false:=by kernel_rfl) (R:ua (kU fn)=ls fn L:=by kernel_rfl):jB Pz f d :=
 zb5 (xid:=I4) (ro:=ro) (H:=H) mixed T.ok hf I hn (U6 R ha) h
abbrev Vs:Dk:=.st [.row 1 qs,.row 2 qf,.row 3 xp,.row 4 qv,.row 5 xl,.row 6 xj]
abbrev Kg:Dk:=.st [.im (.sl qs),.im (.sl qf),.im (.sl xp),.im (.sl qv),.im (.sl xl),.im (.sl xj),.row 1 zt,.row 2 i64,.row 3 i64]
abbrev sx:Dk:=.st [.im (.sl zt),.row 1 i64,.row 2 i64]
abbrev z3r:List Bk:=[.var (.st [.row 10 zm,.row 2 .bool,.row 11 zm,.row 8 i64,.row 6 zn,.row 3 .bool]),.var (.st [.row 12 zm,.row 4 .bool,.row 13 zm,.row 9 i64,.row 7 zn,.row 5 .bool]),.arr .bool,.arr .bool,.arr .bool,.arr .bool,.arr zn,.arr zn,.arr i64,.arr i64,.arr zm,.arr zm,.arr zm,.arr zm]
abbrev Hi:List Bk:=[.var Vs,.arr qs,.arr qf,.arr xp,.arr qv,.arr xl,.arr xj]
abbrev Vr:List Bk:=[.var (.qj xk)]
abbrev Jn:Dk:=.st [.op 0 210,.row 1 (.int .u8)]
abbrev z90:Dk:=.st [.im (.sl qs),.im (.sl qf),.im (.sl xp),.im (.sl qv),.im (.sl xl),.im (.sl xj),.row 0 zt,.row 4 i64,.row 1 i64]
abbrev z92:Dk:=.st [.im (.sl qs),.im (.sl qf),.im (.sl xp),.im (.sl qv),.im (.sl xl),.im (.sl xj),.row 2 zt,.row 6 i64,.row 3 i64]
abbrev og:Way:=⟨.ret,⟨[Mi 4],[],[]⟩⟩
abbrev PM:ur:=⟨[.v (.st [.row 10 zm,.row 2 .bool,.row 11 zm,.row 8 i64,.row 6 zn,.row 3 .bool]),.v (.st [.row 12 zm,.row 4 .bool,.row 13 zm,.row 9 i64,.row 7 zn,.row 5 .bool]),.a .bool,.a .bool,.a .bool,.a .bool,.a zn,.a zn,.a i64,.a i64,.a zm,.a zm,.a zm,.a zm],[],z3r⟩
abbrev jQ:List Bk:=[.arr i64]
abbrev FI:Dk:=.st [.im (.sl zm),.im (.sl .bool),.im (.sl zm),.row 0 i64,.im (.sl zn),.im (.sl .bool)]
abbrev BJ:Dk:=.st [.im (.sl qs),.im (.sl qf),.im (.sl xp),.im (.sl qv),.im (.sl xl),.im (.sl xj),.row 13 zt,.row 14 i64,.row 15 i64]
abbrev kN:Way:=⟨.exit 0,⟨[],[],[]⟩⟩
abbrev BK:Dk:=.st [.im (.sl qs),.im (.sl qf),.im (.sl xp),.im (.sl qv),.im (.sl xl),.im (.sl xj),.row 9 zt,.row 10 i64,.row 11 i64]
abbrev th:ur:=⟨[Mm 0 uq,.v (.qj xk)],[],Vr⟩
abbrev BP:ur:=⟨[.s 0 (.sub 0 i64),Mi 1,Mi 2,Mi 3,.s 4 (.wh 287 [.rp (.sl zt)]),.a i64],[],jQ⟩
abbrev BL:Dk:=.st [.im i64,.row 2 qk,.im .bool,.im (.sl u32),.im (.sl u32)]
abbrev BM:Dk:=.st [.im i64,.row 3 qk,.im .bool,.im (.sl u32),.im (.sl u32)]
abbrev cU:ur:=⟨[Mi 8],[],[]⟩
abbrev oo:ur:=⟨[.v (.qj xk)],[(0,.ptr 0 0)],Vr⟩
abbrev z3q:List Bk:=[.var (.qj uA),.var (.st [.row 3 zm,.row 4 .bool,.im (.sl zm),.row 6 i64,.row 7 zn,.row 8 .bool]),.var (.qj xf),.arr zm,.arr .bool,.arr zm,.arr i64,.arr zn,.arr .bool]
abbrev UM:ur:=⟨[Mm 0 wF,.v (.qj qw)],[],[.var (.qj qw)]⟩
abbrev UK:List Bk:=[.var sx,.arr i64,.arr i64]
abbrev Qv:ur:=⟨[Mm 0 .expr,.v (.qj xk)],[],Vr⟩
abbrev UL:List Bk:=[.var Kg,.arr zt,.arr i64,.arr i64]
abbrev PA:List Bk:=[.var (.st [.nl,.nl]),.var (.st [.row 3 zt,.row 4 i64]),.var (.qj wJ),.arr zt,.arr i64]
abbrev BN:Dk:=.st [.im (.sl zm),.im (.sl .bool),.im (.sl zm),.row 3 i64,.im (.sl zn),.im (.sl .bool)]
abbrev FJ:Dk:=.st [.row 7 qs,.row 9 qf,.row 11 xp,.row 13 qv,.row 5 xl,.row 3 xj]
abbrev Qw:ur:=⟨[Ms 0],[],[]⟩
abbrev Qu:List Bk:=[.var Jn,.arr (.int .u8)]
abbrev PC:List Bk:=[.var (.qj xk),.var (.qj .expr),.var (.qj .expr)]
abbrev BO:Dk:=.st [.im (.sl zt),.row 0 i64,.row 1 i64]
abbrev FK:Dk:=.st [.im (.sl zt),.row 2 i64,.row 3 i64]
abbrev WI:ur:=⟨[.a .str],[(0,.cur 0 .str)],[.arr .str]⟩
abbrev PN:ur:=⟨[Mm 1 (.sl .str),.v Vs,.a qs,.a qf,.a xp,.a qv,.a xl,.a xj],[(0,.ptr 0 0)],Hi⟩
abbrev tk:ur:=⟨[.a i64],[],jQ⟩
abbrev Zg:List Bk:=[.var (.qj qw)]
abbrev BI:List Bk:=[.var sx,.arr i64,.arr i64,.arr i64]
abbrev FL:ur:=⟨[Mi 1,.v sx,.a i64,.a i64],[(0,.ptr 0 0)],UK⟩
abbrev PO:ur:=⟨[Mm 0 .expr,Mi 1,.v (.qj i64)],[(2,.ptr 0 0)],[.var (.qj i64)]⟩
abbrev PS:ur:=⟨[.v sx,.a i64,.a i64,.v .mp],[],[.var sx,.arr i64,.arr i64,.var .mp]⟩
abbrev fD:List Bk:=[.arr u32]
abbrev PT:ur:=⟨[Mb 0,.v Vs,.a qs,.a qf,.a xp,.a qv,.a xl,.a xj],[],Hi⟩
abbrev z3s:List Bk:=[.arr i64,.var FI,.arr zt,.arr i64,.var (.st [.un,.un]),.var z92,.arr i64]
abbrev FM:ur:=⟨[Mi 0,.v sx,.a i64,.a i64],[],UK⟩
abbrev z3y:Dk:=.st [.row 3 zm,.row 4 .bool,.im (.sl zm),.row 6 i64,.row 7 zn,.row 8 .bool]
abbrev PH:Dk:=.st [.row 10 zm,.row 2 .bool,.row 11 zm,.row 8 i64,.row 6 zn,.row 3 .bool]
abbrev PJ:Dk:=.st [.row 12 zm,.row 4 .bool,.row 13 zm,.row 9 i64,.row 7 zn,.row 5 .bool]
abbrev z3z:Dk:=.st [.row 6 qs,.row 8 qf,.row 10 xp,.row 12 qv,.row 4 xl,.row 2 xj]
abbrev zai:ur:=⟨[.s 0 (.st [.row 0 zm,.row 1 .bool,.im (.sl zm),.row 2 i64,.row 3 zn,.row 4 .bool]),.s 1 (.tight .str),Mi 2,.a zm,.a .bool,.a i64,.a zn,.a .bool],[],[.arr zm,.arr .bool,.arr i64,.arr zn,.arr .bool]⟩
abbrev Gz:ur:=⟨[.v Jn,.a (.int .u8)],[],Qu⟩
abbrev XC:ur:=⟨[Mm 0 .nil],[],[]⟩
abbrev GA:ur:=⟨[.a .str],[(3,.cur 0 .str)],[.arr .str]⟩
abbrev zap:Way:=⟨.normal,⟨[Mm 1 (.sl .str),.v Vs,.a qs,.a qf,.a xp,.a qv,.a xl,.a xj,.v (.qj qv)],[],[.var Vs,.arr qs,.arr qf,.arr xp,.arr qv,.arr xl,.arr xj,.var (.qj qv)]⟩⟩
abbrev FN:ur:=⟨[Mm 1 .expr,.a .str],[(0,.cur 0 .str)],[.arr .str]⟩
abbrev z3t:List Bk:=[.arr zt,.arr i64,.var (.st [.un,.un]),.var z90,.arr i64]
abbrev PU:ur:=⟨[Mb 0,.v (.qj i64)],[],[.var (.qj i64)]⟩
abbrev z4e:ur:=⟨[Mi 0,.v Vs,.a qs,.a qf,.a xp,.a qv,.a xl,.a xj],[],Hi⟩
abbrev GB:ur:=⟨[Mi 3],[],[]⟩
abbrev z4f:ur:=⟨[Mm 0 uq,.v (.qj xk),.v (.qj .expr),.v (.qj .expr)],[],PC⟩
abbrev z3u:List Bk:=[.var (.qj .expr),.var (.qj i64),.var (.qj i64)]
abbrev z3A:Dk:=.st [.row 0 zm,.row 1 .bool,.row 2 zm,.row 3 i64,.row 4 zn,.row 5 .bool]
abbrev PV:ur:=⟨[.v (.qj xk)],[],Vr⟩
abbrev PK:Dk:=.st [.row 3 zt,.row 4 i64]
abbrev zag:List Bk:=[.var z3z,.var FJ,.arr xj,.arr xj,.arr xl,.arr xl,.arr qs,.arr qs,.arr qf,.arr qf,.arr xp,.arr xp,.arr qv,.arr qv]
abbrev z4g:ur:=⟨[Mb 0,.a i64],[],[.cvar (.cur 1 i64),.arr i64]⟩
abbrev z4h:ur:=⟨[.v (.qj wJ),.a .str],[(5,.cur 1 .str)],[.var (.qj wJ),.arr .str]⟩
abbrev zah:Dk:=.st [.im (.sl qs),.im (.sl qf),.im (.sl xp),.im (.sl qv),.im (.sl xl),.im (.sl xj),.row 2 zt,.row 3 i64,.row 4 i64]
abbrev z4i:ur:=⟨[.s 0 (.sub 0 i64),Mi 10,.a i64],[],jQ⟩
abbrev zaj:ur:=⟨[Mm 0 (.sl qk),.s 1 (.mclo 342 [.rp (.sl i64),.rp i64,.pt 0]),.a i64],[],[.cvar (.cur 1 i64),.arr i64]⟩
abbrev PD:List Bk:=[.var FK,.var .mp,.arr i64,.arr i64]
abbrev PW:ur:=⟨[Ms 0,Mi 11],[],[]⟩
abbrev FP:Way:=⟨.ret,⟨[Mb 4],[],[]⟩⟩
abbrev z3v:List Bk:=[.arr zm,.arr .bool,.arr zm,.arr i64,.arr zn,.arr .bool]
abbrev PE:List Bk:=[.var (.qj uX),.var (.qj i64)]
abbrev z3B:Dk:=.st [.im (.sl .str),.row 4 .str,.im (.sl zm)]
abbrev zak:ur:=⟨[Mm 0 (.sl .expr),.s 1 (.mclo 259 [.rp i64,.pt 0]),.v (.qj i64)],[],[.cvar (.ptr 1 0),.var (.qj i64)]⟩
abbrev z4j:ur:=⟨[.v (.qj xk),.v (.qj .expr),.v (.qj .expr)],[],PC⟩
abbrev zal:ur:=⟨[Mm 1 (.sl .str),Ms 2,.v Vs,.a qs,.a qf,.a xp,.a qv,.a xl,.a xj],[(0,.ptr 0 0)],Hi⟩
abbrev zaq:Way:=⟨.ret,⟨[Ms 7,Mi 8,.v (.st [.nl,.nl]),.v PK,.v (.qj wJ),.a zt,.a i64],[],PA⟩⟩
abbrev nD:List Bk:=[.arr .str]
abbrev FG:List Bk:=[.var (.qj .expr),.var (.qj .expr)]
abbrev zam:ur:=⟨[.v (.qj uA),.v z3y,.v (.qj xf),.a zm,.a .bool,.a zm,.a i64,.a zn,.a .bool],[],z3q⟩
abbrev z3C:Dk:=.st [.row 2 .str,.row 3 .str,.im (.sl zm)]
abbrev z3w:List Bk:=[.var BL,.var BM,.arr qk,.arr qk]
abbrev z4s:Way:=⟨.exit 0,⟨[.a u32],[(7,.cur 0 u32)],fD⟩⟩
abbrev PF:List Bk:=[.var (.qj xk),.var (.qj .expr)]
abbrev FH:List Bk:=[.var (.qj jv)]
abbrev lD:List AK:=[.ptr,.any]
abbrev z4k:ur:=⟨[.v Kg,.a zt,.a i64,.a i64],[],UL⟩
abbrev Gy:List Bk:=[.arr (.int .u8)]
abbrev zar:Way:=⟨.normal,⟨[Mb 16,.v Vs,.a qs,.a qf,.a xp,.a qv,.a xl,.a xj],[],Hi⟩⟩
abbrev PX:Way:=⟨.ret,⟨[Mb 2],[],[]⟩⟩
abbrev z4l:ur:=⟨[Mi 3,Mi 9],[],[]⟩
abbrev z4m:ur:=⟨[.s 0 (.sub 0 i64),.a i64],[],jQ⟩
abbrev K3:Way:=⟨.exit 0,Qw⟩
abbrev zan:ur:=⟨[.s 0 (.sub 0 i64),Mi 10,Mi 11,.a i64],[],jQ⟩
abbrev zao:ur:=⟨[.a i64,.v FI,.a zt,.a i64,.v (.st [.un,.un]),.v z92,.a i64],[],z3s⟩
abbrev z3D:ur:=⟨[.s 0 (.sub 0 i64),Mi 7,Mi 8,.a i64],[],jQ⟩
abbrev M8:ur:=⟨[.a i64],[(0,.cur 0 i64)],jQ⟩
abbrev Qf:List AK:=[.ptr,.any,.any]
abbrev z3x:Dk:=.st [.row 1 zm,.row 2 .bool,.row 3 zm,.row 4 i64,.row 5 zn,.row 6 .bool]
abbrev z3E:ur:=⟨[Mb 0,.v (.qj i64)],[],[.cvar (.ptr 1 0),.var (.qj i64)]⟩
abbrev z3F:ur:=⟨[.v sx,.a i64,.a i64,.a i64],[(10,.cur 3 i64)],BI⟩
abbrev tE:List Bk:=[.arr zm]
abbrev Gx:List Bk:=[.var (.qj uA)]
abbrev z4n:Way:=⟨.ret,⟨[Mb 4,.v Kg,.a zt,.a i64,.a i64],[],UL⟩⟩
abbrev z3G:ur:=⟨[.v (.st [.nl,.nl]),.v PK,.v (.qj wJ),.a zt,.a i64],[],PA⟩
abbrev LZ:List Bk:=[.arr i64,.arr i64,.var BO]
abbrev M9:ur:=⟨[Mm 0 (.sl u32)],[],[]⟩
abbrev z3H:ur:=⟨[.a zt,.a i64,.v (.st [.un,.un]),.v z90,.a i64],[],z3t⟩
abbrev M0:List Bk:=[.var (.qj qw),.arr wF]
abbrev z3I:ur:=⟨[.s 0 (.sub 0 i64),Mi 1,.a i64],[],jQ⟩
abbrev z3J:ur:=⟨[.s 0 (.sub 0 i64),Mi 7,.a i64],[],jQ⟩
abbrev z3K:ur:=⟨[.v (.qj zm),.v (.qj zm)],[],[.var (.qj zm),.var (.qj zm)]⟩
abbrev z3L:ur:=⟨[Mi 15,.a u32],[(7,.cur 0 u32)],fD⟩
abbrev z3M:ur:=⟨[.v (.qj .expr),.v (.qj i64),.v (.qj i64)],[],z3u⟩
abbrev z4o:Way:=⟨.normal,⟨[Mb 16,.a .str],[(0,.cur 0 .str)],nD⟩⟩
abbrev z4p:Way:=⟨.normal,⟨[Mb 44,.v (.qj xk)],[],Vr⟩⟩
abbrev z3N:ur:=⟨[Mm 1 bK,.v (.qj qw)],[(0,.ptr 0 0)],Zg⟩
abbrev z4q:Way:=⟨.exit 0,⟨[.v BL,.v BM,.a qk,.a qk],[],z3w⟩⟩
abbrev M1:List Bk:=[.arr i64,.var (.qj zt)]
abbrev M4:List Bk:=[.var (.qj i64)]
abbrev z3n:List Bk:=[.arr zm,.var (.qj zm),.var (.qj zm),.var (.qj zm)]
abbrev z3O:ur:=⟨[.a zn],[(0,.cur 0 zn)],[.arr zn]⟩
abbrev z3P:ur:=⟨[Mi 25,.a .str],[(0,.cur 0 .str)],nD⟩
abbrev z4r:Way:=⟨.exit 0,⟨[.a .bool],[(5,.cur 0 .bool)],[.arr .bool]⟩⟩
abbrev M5:List Bk:=[.var (.qj wJ),.arr .str]
abbrev z3Q:ur:=⟨[Mm 0 .nil,.v (.qj jv)],[],FH⟩
abbrev z3R:ur:=⟨[Ms 0,.v (.qj xk)],[],Vr⟩
abbrev z3S:ur:=⟨[Mm 0 qy,Mm 1 xf],[],[]⟩
abbrev z3T:ur:=⟨[.s 3 (.sub 0 (.int .u8)),.a (.int .u8)],[],Gy⟩
abbrev z3o:List Bk:=[.var sx,.arr i64,.arr i64,.var .mp]
abbrev z3U:ur:=⟨[.v (.qj qw)],[(0,.ptr 0 0)],Zg⟩
abbrev z3p:List Bk:=[.var z3C,.var z3B,.arr .str,.arr .str,.arr .str]
abbrev z3V:ur:=⟨[.a (.int .u8)],[(3,.cur 0 (.int .u8))],Gy⟩
abbrev z3W:ur:=⟨[.v Jn,.a (.int .u8)],[(0,.ptr 0 0)],Qu⟩
abbrev z3X:ur:=⟨[.a .bool],[(0,.cur 0 .bool)],[.arr .bool]⟩
abbrev z3Y:ur:=⟨[.a zm],[(9,.cur 0 zm)],tE⟩
abbrev z3Z:ur:=⟨[.a zm],[(0,.cur 0 zm)],tE⟩
abbrev De:List AK:=[.any,.any,.ptr]
abbrev z42:ur:=⟨[.a .str],[(4,.cur 0 .str)],nD⟩
abbrev z43:ur:=⟨[.v (.qj i64)],[],M4⟩
abbrev z45:ur:=⟨[Mi 13],[],[]⟩
abbrev z47:ur:=⟨[Mi 5],[],[]⟩
abbrev Df:Dk:=.st [.nl,.nl]
abbrev Dg:Dk:=.st [.un,.un]
abbrev z48:ur:=⟨[Mi 0],[],[]⟩
abbrev z4a:ur:=⟨[Mm 6 (.sl .str)],[],[]⟩
abbrev M6:List Bk:=[.var (.qj zm)]
abbrev Ma:Way:=⟨.exit 0,Gz⟩
abbrev Md:Way:=⟨.exit 0,PV⟩
abbrev Gw:List AK:=[.any,.any]
abbrev z4b:ur:=⟨[Mm 0 qy],[],[]⟩
abbrev M7:List Bk:=[.arr zn]
abbrev z4c:ur:=⟨[Mb 0],[],[]⟩
abbrev z4d:ur:=⟨[.a (.int .u8)],[],Gy⟩
def zm5:Hints:=Hz [] [(0,1,.flat [Mb 2])] []
theorem zi6:q8 Pz 196 ⟨[.ty (.int .u8)],[.bool],λx=>cu x⟩:=wq t0 rn zm5 func196 [] zg
def t1:=t0.d zi6
def zmh:Hints:=Hz [] [(0,1,.flat [Mb 2])] []
theorem ziX:q8 Pz 257 ⟨[.ty (.int .u8)],[.bool],λx=>kh x⟩:=wq t1 rn zmh func257 [] zg
def t2:=t1.d ziX
theorem zi7:q8 Pz 197 ⟨[.ty (.int .u8)],[.bool],λx=>bU x⟩:=wq t2 rn hN func197 [] zg
def t3:=t2.d zi7
def Nc:q9:=Lz [] [Ms 0,Mi 18] ⟨[Mi 19],[],[]⟩ [kN,PX] λp s=>ZE p.1 p.2 s
def RA:Hints:=Hz [(0,Nc)] [(0,1,.ways [⟨.normal,⟨[Mb 16],[],[]⟩⟩])] []
theorem z6y:LO Tryz.f128 Nc 0:=lk t3 rn RA [] zg
theorem zhg:q8 Pz 128 ⟨[.ty .str],[.bool],λx=>uQ x⟩:=wq t3 rn RA func128 [0] (qh rfl z6y zg)
def t4:=t3.d zhg
theorem zhf:q8 Pz 127 ⟨[.ty qs],[.bool],λx=>yN x⟩:=wq t4 (rz [1]) hN func127 [] zg
def t5:=t4.d zhf
def MX:q9:=Lz [] [Mm 0 (.sl qs),.s 1 (.wh 127 []),Mi 7] cU [kN,og] λp s=>wY p.1 (λz0=>yN z0) p.2.2 s
def zen:Hints:=Hz [(0,MX)] [] []
theorem z6j:LO Tryz.f100 MX 0:=lk t5 rn zen [] zg
theorem zgT:q8 Pz 100 ⟨[.ty (.sl qs),.wh 127 []],[i64],λx=>wa x.1 (λz0=>yN z0)⟩:=wq t5 rn zen func100 [0] (qh rfl z6j zg)
def t6:=t5.d zgT
theorem zoE:q8 Pz 82 ⟨[.ty (.sl qs),.wh 127 []],[.bool],λx=>vG x.1 (λz0=>yN z0)⟩:=wq t6 rn hN func82 [] zg
def t7:=t6.d zoE
def zm6:Hints:=Hz [] [(0,1,.flat [Mb 2])] []
theorem zi8:q8 Pz 198 ⟨[.ty (.sl u32)],[.bool],λx=>ZS x⟩:=wq t7 rn zm6 func198 [] zg
def t8:=t7.d zi8
def Nk:q9:=Lz [] [] M9 [⟨.exit 0,M9⟩] λp s=>sR  s
def zez:Hints:=Hz [(0,Nk)] [] []
theorem z6F:LO Tryz.f164 Nk 0:=lk t8 rn zez [] zg
theorem zhJ:q8 Pz 164 ⟨[.ty (.sl u32)],[(.sl u32)],λx=>vY x⟩:=wq t8 rn zez func164 [0] (qh rfl z6F zg)
def t9:=t8.d zhJ
def zme:Hints:=Hz [] [(0,1,.H6)] []
theorem zik:q8 Pz 214 ⟨[.ty (.sl u32)],[(.sl u32)],λx=>yg x⟩:=wq t9 rn zme func214 [] zg
def t10:=t9.d zik
theorem zhG:q8 Pz 161 ⟨[.ty (.sl u32)],[(.sl u32)],λx=>iF x⟩:=wq t10 rn hN func161 [] zg
def t11:=t10.d zhG
def Nb:q9:=Lz [] [Mm 0 (.sl u32),Mm 1 (.sl u32)] z47 [kN,og] λp s=>rK p.1 p.2 s
def zeu:Hints:=Hz [(0,Nb)] [] []
theorem z6x:LO Tryz.f126 Nb 0:=lk t11 rn zeu [] zg
theorem zhe:q8 Pz 126 ⟨[.ty (.sl u32),.ty (.sl u32)],[i64],λx=>sP x.1 x.2⟩:=wq t11 rn zeu func126 [0] (qh rfl z6x zg)
def t12:=t11.d zhe
def zmg:Hints:=Hz [] [(0,1,.flat [Mb 15])] []
theorem ziW:q8 Pz 256 ⟨[.ty u32,.ty u32,.ty u32],[u32,u32],λx=>eJ x.1 x.2.1 x.2.2⟩:=wq t12 rn zmg func256 [] zg
def t13:=t12.d ziW
def Ns:q9:=Lz [] [Mm 0 (.sl u32),Mm 1 u32] ⟨[Mm 7 u32,Mi 8,.a u32],[(6,.cur 0 u32)],fD⟩ [⟨.exit 0,⟨[Mm 7 u32,.a u32],[(6,.cur 0 u32)],fD⟩⟩] λp s=>oL p.1 p.2 s
def zeE:Hints:=Hz [(0,Ns)] [] [(7,[6])]
theorem z6M:LO Tryz.f194 Ns 0:=lk t13 rn zeE [] zg
theorem zi4:q8 Pz 194 ⟨[.ty (.sl u32),.ty u32],[(.sl u32),u32],λx=>pw x.1 x.2⟩:=wq t13 rn zeE func194 [0] (qh rfl z6M zg)
def t14:=t13.d zi4
theorem zoR:q8 Pz 96 ⟨[.ty (.int .u64)],[(.sl u32)],λx=>iA x⟩:=wq t14 rn hN func96 [] zg
def t15:=t14.d zoR
def zms:Hints:=Hz [] [(3,1,.flat [Mm 0 u32,Mi 2]),(3,4,.flat [Mm 0 u32,Mi 2])] []
theorem zjQ:q8 Pz 331 ⟨[.ty u32],[i64],λx=>eK x⟩:=wq t15 rn zms func331 [] zg
def t16:=t15.d zjQ
theorem zj8:q8 Pz 273 ⟨[.ty u32],[i64],λx=>kl x⟩:=wq t16 rn hN func273 [] zg
def t17:=t16.d zj8
def NP:q9:=Lz [] [Mm 1 (.int .u64),Mi 2,Mm 13 (.sl u32),Mi 14] z3L [z4s] λp s=>Wz p.1 p.2.1 p.2.2.1 p.2.2.2 s
def zeV:Hints:=Hz [(0,NP)] [] []
theorem z7e:LO Tryz.f274 NP 0:=lk t17 rn zeV [] zg
theorem za5:xr Pz 274 ⟨[.any,.any,.any],⟨[Mm 0 (.sl u32),Mm 1 (.int .u64),Mi 2],[],[]⟩,[],⟨[.a u32],[(0,.cur 0 u32)],fD⟩,1,λx=>rM x.1 x.2.1 x.2.2⟩:=ef t17 rn zeV func274 [0] (qh rfl z7e zg)
def t18:=t17.s za5
def NQ:q9:=Lz [] [Mm 2 u32,Mm 3 u32,Mm 4 u32] ⟨[Mm 12 (.int .u64),Mm 13 (.int .u64)],[],[]⟩ [⟨.exit 0,⟨[Mm 12 (.int .u64)],[],[]⟩⟩] λp s=>iG p.1 p.2.1 p.2.2 s
def zeW:Hints:=Hz [(0,NQ)] [(0,3,.flat [Mb 42])] []
theorem z7f:LO Tryz.f275 NQ 0:=lk t18 rn zeW [] zg
theorem zj9:q8 Pz 275 ⟨[.ty u32,.ty u32,.ty u32,.ty u32,.ty u32],[(.int .u64)],λx=>pq x.1 x.2.1 x.2.2.1 x.2.2.2.1 x.2.2.2.2⟩:=wq t18 rn zeW func275 [0] (qh rfl z7f zg)
def t19:=t18.d zj9
theorem zjR:q8 Pz 332 ⟨[.ty u32,.ty u32,.ty u32],[u32,u32],λx=>kX x.1 x.2.1 x.2.2⟩:=wq t19 rn hN func332 [] zg
def t20:=t19.d zjR
theorem zjS:q8 Pz 333 ⟨[.ty u32,.ty u32,.ty u32],[u32,u32],λx=>eI x.1 x.2.1 x.2.2⟩:=wq t20 rn hN func333 [] zg
def t21:=t20.d zjS
def NR:q9:=Lz [] [Mm 1 (.sl u32),Mm 2 (.int .u64),Mm 14 (.sl u32),Mi 15] ⟨[.s 0 (.sub 0 u32),Mm 7 (.int .u64),Mm 8 u32,Mi 16,.a u32],[],fD⟩ [⟨.exit 0,⟨[.s 0 (.sub 0 u32),Mm 7 (.int .u64),Mm 8 u32,.a u32],[],fD⟩⟩] λp s=>iH p.1 p.2.1 p.2.2.1 p.2.2.2 s
def NS:q9:=Lz [] [Mm 1 (.sl u32),Mm 62 (.sl u32),Mi 63] ⟨[.s 0 (.sub 0 u32),Mm 11 u32,Mi 64,.a u32],[],fD⟩ [⟨.exit 2,⟨[.s 0 (.sub 0 u32),Mm 11 u32,.a u32],[],fD⟩⟩] λp s=>iI p.1 p.2.1 p.2.2 s
def zbj:Hints:=Hz [(0,NR),(2,NS)] [] []
theorem z7g:LO Tryz.f276 NR 0:=lk t21 rn zbj [] zg
theorem z7h:LO Tryz.f276 NS 2:=lk t21 rn zbj [] zg
theorem zja:xr Pz 276 ⟨[.sub,.any,.any],⟨[.s 0 (.sub 0 u32),Mm 1 (.sl u32),Mm 2 (.int .u64),.a u32],[],fD⟩,[],⟨[Mb 0,.a u32],[],fD⟩,1,λx=>sQ x.1 x.2.1 x.2.2.1 x.2.2.2⟩:=ef t21 rn zbj func276 [0,2] (qh rfl z7g (qh rfl z7h zg))
def t22:=t21.s zja
def B4:q9:=Lz [] [Mm 1 (.int .u64),Mi 2,Mm 13 (.sl u32),Mi 14] z3L [z4s] λp s=>ni p.1 p.2.1 p.2.2.1 p.2.2.2 s
def z0m:Hints:=Hz [(0,B4)] [] []
theorem Sc:LO Tryz.f274 B4 0:=lk t22 rn z0m [] zg
theorem P0:q8 Pz 274 ⟨[.ty (.sl u32),.ty (.int .u64),.ty i64],[(.sl u32)],λx=>Uf x.1 x.2.1 x.2.2⟩:=wq t22 rn z0m func274 [0] (qh rfl Sc zg)
def t23:=t22.d P0
def zdZ:Tb:=t23.d P0
def NT:q9:=Lz [] [Mm 6 (.int .u64),Mm 38 (.sl u32),Mi 39] ⟨[Mi 40,.a u32],[(7,.cur 0 u32)],fD⟩ [z4s] λp s=>iE p.1 p.2.1 p.2.2 s
def zeX:Hints:=Hz [(0,NT)] [] [(17,[7]),(21,[12])]
theorem z7i:LO Tryz.f277 NT 0:=lk zdZ rn zeX [] zg
theorem zjb:q8 Pz 277 ⟨[.ty (.sl u32),.ty i64],[(.sl u32)],λx=>me x.1 x.2⟩:=wq zdZ rn zeX func277 [0] (qh rfl z7i zg)
def t24:=t23.d zjb
def zdY:Tb:=t24.s za5
def Nv:q9:=Lz [] [Mm 6 (.int .u64),Mm 8 (.sl u32),Mi 9] ⟨[Mi 10,.a u32,.a u32],[(4,.cur 2 u32),(7,.cur 0 u32)],[.arr u32,.dead,.arr u32]⟩ [⟨.exit 0,⟨[.a u32,.a u32],[(4,.cur 2 u32),(7,.cur 0 u32)],[.arr u32,.dead,.arr u32]⟩⟩] λp s=>nj p.1 p.2.1 p.2.2 s
def zeH:Hints:=Hz [(0,Nv)] [(3,9,.ways [⟨.normal,⟨[Mm 11 (.int .u64),.a u32,.a u32],[(4,.cur 2 u32),(7,.cur 0 u32)],[.arr u32,.dead,.arr u32]⟩⟩])] [(5,[8]),(12,[4,7])]
theorem z6P:LO Tryz.f215 Nv 0:=lk zdY rn zeH [] zg
theorem zil:q8 Pz 215 ⟨[.ty (.sl u32),.ty (.sl u32)],[(.sl u32),(.sl u32)],λx=>Ug x.1 x.2⟩:=wq zdY rn zeH func215 [0] (qh rfl z6P zg)
def t25:=t24.d zil
theorem zhI:q8 Pz 163 ⟨[.ty (.sl u32),.ty (.sl u32)],[(.sl u32),(.sl u32),.bool],λx=>dv x.1 x.2⟩:=wq t25 rn hN func163 [] zg
def t26:=t25.d zhI
def Nj:q9:=Lz [] [] ⟨[Mm 0 (.sl u32),Mm 1 (.sl u32)],[],[]⟩ [⟨.exit 0,M9⟩] λp s=>rL  s
def zey:Hints:=Hz [(0,Nj)] [] []
theorem z6E:LO Tryz.f162 Nj 0:=lk t26 rn zey [] zg
theorem zhH:q8 Pz 162 ⟨[.ty (.sl u32),.ty (.sl u32)],[(.sl u32)],λx=>XV x.1 x.2⟩:=wq t26 rn zey func162 [0] (qh rfl z6E zg)
def t27:=t26.d zhH
def zlY:Hints:=Hz [] [(0,1,.ways [⟨.normal,⟨[Mb 28],[],[]⟩⟩])] []
theorem zhi:q8 Pz 130 ⟨[.ty zm],[.bool],λx=>tz x⟩:=wq t27 (rz [1]) zlY func130 [] zg
def t28:=t27.d zhi
def h95:Hints:=Hz [] [(0,2,.flat [Mb 19])] []
theorem zoQ:q8 Pz 95 ⟨[.ty .bool,.ty (.sl u32),.ty (.sl u32)],[zm],λx=>rR x.1 x.2.1 x.2.2⟩:=wq t28 rn h95 func95 [] zg
def t29:=t28.d zoQ
theorem zo7:q8 Pz 41 ⟨[.ty zm],[zm],λx=>vF x⟩:=wq t29 (rz [1]) hN func41 [] zg
def t30:=t29.d zo7
def zlZ:Hints:=Hz [] [(0,2,.flat [Mb 2])] []
theorem zhj:q8 Pz 131 ⟨[.ty zm],[.bool],λx=>cz x⟩:=wq t30 rn zlZ func131 [] zg
def t31:=t30.d zhj
theorem zhh:q8 Pz 129 ⟨[.ty qf],[.bool],λx=>yO x⟩:=wq t31 (rz [1]) hN func129 [] zg
def t32:=t31.d zhh
def N0:q9:=Lz [] [Mm 0 (.sl qf),.s 1 (.wh 129 []),Mi 7] cU [kN,og] λp s=>uZ p.1 (λz0=>yO z0) p.2.2 s
def zep:Hints:=Hz [(0,N0)] [] []
theorem z6m:LO Tryz.f108 N0 0:=lk t32 rn zep [] zg
theorem zh0:q8 Pz 108 ⟨[.ty (.sl qf),.wh 129 []],[i64],λx=>vJ x.1 (λz0=>yO z0)⟩:=wq t32 rn zep func108 [0] (qh rfl z6m zg)
def t33:=t32.d zh0
theorem zoK:q8 Pz 88 ⟨[.ty (.sl qf),.wh 129 []],[.bool],λx=>vQ x.1 (λz0=>yO z0)⟩:=wq t33 rn hN func88 [] zg
def t34:=t33.d zoK
theorem zhm:q8 Pz 134 ⟨[.ty .str],[.bool],λx=>iY x⟩:=wq t34 rn hN func134 [] zg
def t35:=t34.d zhm
theorem zhl:q8 Pz 133 ⟨[.ty xp],[.bool],λx=>yP x⟩:=wq t35 (rz [1]) hN func133 [] zg
def t36:=t35.d zhl
def N2:q9:=Lz [] [Mm 0 (.sl xp),.s 1 (.wh 133 []),Mi 7] cU [kN,og] λp s=>yk p.1 (λz0=>yP z0) p.2.2 s
def zer:Hints:=Hz [(0,N2)] [] []
theorem z6o:LO Tryz.f112 N2 0:=lk t36 rn zer [] zg
theorem zh4:q8 Pz 112 ⟨[.ty (.sl xp),.wh 133 []],[i64],λx=>uV x.1 (λz0=>yP z0)⟩:=wq t36 rn zer func112 [0] (qh rfl z6o zg)
def t37:=t36.d zh4
theorem zhk:q8 Pz 132 ⟨[.ty (.sl xp),.wh 133 []],[.bool],λx=>yh x.1 (λz0=>yP z0)⟩:=wq t37 rn hN func132 [] zg
def t38:=t37.d zhk
theorem zoy:q8 Pz 76 ⟨[.ty qy],[.bool],λx=>tc x⟩:=wq t38 (rz [1]) hN func76 [] zg
def t39:=t38.d zoy
def zm0:Hints:=Hz [] [(0,1,.flat [Mb 6])] []
theorem zhn:q8 Pz 135 ⟨[.ty i64,.ty i64,.ty i64],[.bool],λx=>iX x.1 x.2.1 x.2.2⟩:=wq t39 rn zm0 func135 [] zg
def t40:=t39.d zhn
def z1K:q9:=Lz [] [Mr 1 qy,Mm 7 (.sl qv),Mi 8] z4l [kN,PX] λp s=>o0 p.1 p.2.1 p.2.2 s
def h77:Hints:=Hz [(0,z1K)] [(0,5,.ways [⟨.normal,⟨[Mb 36,.v (.qj qv)],[],[.var (.qj qv)]⟩⟩])] []
theorem zcp:LO Tryz.f77 z1K 0:=lk t40 (rz [1]) h77 [] zg
theorem zoz:q8 Pz 77 ⟨[.ty qy],[.bool],λx=>oU x⟩:=wq t40 (rz [1]) h77 func77 [0] (qh rfl zcp zg)
def t41:=t40.d zoz
theorem zho:q8 Pz 136 ⟨[],[(.sl .str)],λ_=>bB⟩:=wq t41 rn hN func136 [] zg
def t42:=t41.d zho
def zmn:Hints:=Hz [] [(3,2,.flat [Mb 4])] []
theorem zjD:q8 Pz 310 ⟨[.ty i64],[i64],λx=>XO x⟩:=wq t42 rn zmn func310 [] zg
def t43:=t42.d zjD
def Oc:q9:=Lz [] [Mm 1 (.sl u32),Mi 6,Mm 7 u32,Mm 21 (.sl u32),Mi 22,Mi 23,Mm 28 (.sl u32),Mi 29] ⟨[Mm 8 (.int .u64),Mi 30,.a u32],[(5,.cur 0 u32)],fD⟩ [⟨.exit 2,⟨[Mm 8 (.int .u64),.a u32],[(5,.cur 0 u32)],fD⟩⟩] λp s=>V7 p.1 p.2.1 p.2.2.1 p.2.2.2.1 p.2.2.2.2.1 p.2.2.2.2.2.1 p.2.2.2.2.2.2.1 p.2.2.2.2.2.2.2 s
def Ob:q9:=Lz [] [Mm 1 (.sl u32),Mm 21 (.sl u32),Mi 22] ⟨[Mi 23,.a u32],[(5,.cur 0 u32)],fD⟩ [⟨.exit 0,⟨[.a u32],[(5,.cur 0 u32)],fD⟩⟩] λp s=>V6 p.1 p.2.1 p.2.2 s
def zbl:Hints:=Hz [(2,Oc),(0,Ob)] [] [(16,[5])]
theorem z7B:LO Tryz.f330 Oc 2:=lk t43 rn zbl [] zg
theorem z7A:LO Tryz.f330 Ob 0:=lk t43 rn zbl [2] (qh rfl z7B zg)
theorem zjP:q8 Pz 330 ⟨[.ty (.sl u32),.ty (.sl u32)],[(.sl u32)],λx=>iw x.1 x.2⟩:=wq t43 rn zbl func330 [0] (qh rfl z7A zg)
def t44:=t43.d zjP
def NO:q9:=Lz [] [Mi 5] ⟨[Mm 3 (.sl u32),Mi 6],[],[]⟩ [⟨.exit 0,⟨[Mm 3 (.sl u32)],[],[]⟩⟩] λp s=>WS p s
def zeU:Hints:=Hz [(0,NO)] [] []
theorem z7d:LO Tryz.f272 NO 0:=lk t44 rn zeU [] zg
theorem zj7:q8 Pz 272 ⟨[.ty i64],[(.sl u32)],λx=>VJ x⟩:=wq t44 rn zeU func272 [0] (qh rfl z7d zg)
def t45:=t44.d zj7
theorem zhc:q8 Pz 124 ⟨[.ty zm],[.str],λx=>QO x⟩:=wq t45 (rz [1]) hN func124 [] zg
def t46:=t45.d zhc
def Nt:q9:=Lz [] [] ⟨[.s 0 (.sub 0 (.int .u8)),Mi 2,Mi 3,.a (.int .u8)],[],Gy⟩ [⟨.exit 0,z4d⟩] λp s=>jb  s
def zeF:Hints:=Hz [(0,Nt)] [] []
theorem z6N:LO Tryz.f195 Nt 0:=lk t46 rn zeF [] zg
theorem zi5:xr Pz 195 ⟨[.sub],⟨[.s 0 (.sub 0 (.int .u8)),.a (.int .u8)],[],Gy⟩,[],z4d,0,λx=>ku x.1 x.2⟩:=ef t46 rn zeF func195 [0] (qh rfl z6N zg)
def t47:=t46.s zi5
def N9:q9:=Lz [] [Mm 4 (.sl u32)] ⟨[Mm 5 u32,Mi 19,.a (.int .u8)],[(3,.cur 0 (.int .u8))],Gy⟩ [⟨.exit 2,z3V⟩] λp s=>iC p s
def N8:q9:=Lz [.slot 3 (.int .u8)] [] ⟨[Mm 0 (.sl u32),.a (.int .u8)],[(3,.cur 0 (.int .u8))],Gy⟩ [⟨.exit 0,z3V⟩] λp s=>iB  s
def Na:q9:=Lz [] [] z3T [⟨.exit 4,z3T⟩] λp s=>iD  s
def z5w:Hints:=Hz [(2,N9),(0,N8),(4,Na)] [(0,13,.flat [Mb 42])] []
theorem z6v:LO Tryz.f125 N9 2:=lk t47 rn z5w [] zg
theorem z6u:LO Tryz.f125 N8 0:=lk t47 rn z5w [2] (qh rfl z6v zg)
theorem z6w:LO Tryz.f125 Na 4:=lk t47 rn z5w [] zg
theorem zhd:q8 Pz 125 ⟨[.ty (.sl u32)],[.str],λx=>mc x⟩:=wq t47 rn z5w func125 [0,4] (qh rfl z6u (qh rfl z6w zg))
def t48:=t47.d zhd
theorem zkr:q8 Tryz.prog 378 ⟨[.ty .str,.ty i64],[.str],λx=>strings_Repeat x.1 x.2⟩:=by
 refine jC Tryz.func378 (by kernel_rfl) rfl λO x xb y hy B ha => ?_
 obtain⟨s,n⟩:=x
 obtain⟨⟨h0,h1,M⟩,hy⟩:=hy
 cases hy
 obtain⟨v0,r,rfl,Kr,ha⟩:=wN.cons_inv (show wN O [.qj .str s,.qj i64 n] xb from ha)
 obtain⟨v1,r,rfl,IJ,ha⟩:=ha.cons_inv
 rw[ha.wb,Kr.jc,IJ.dM]
 obtain⟨m,rfl⟩:=Int.eq_ofNat_of_zero_le h0
 refine(Go.Proofs.Tryz.strings_Repeat ⟨s.toArray⟩ m O.w (by simp only at h1; omega) (by rw[show(zF ⟨s.toArray⟩)=zH s from Y]; simpa using M)).mono ?_
 rintro e w' ⟨rfl,hB⟩
 refine⟨hB,λ_=>⟨_,rfl,?_⟩⟩
 have e1:Lib.repeatL s m=CX s m:=Pf s m
 have e2:(Int.toNat (m:Int))=m:=by omega
 show RD _ (.qj .str (CX s (Int.toNat (m:Int)))) _
 rw[e2,<- e1]
 exact RD.str
def t49:=t48.d zkr
theorem zka:q8 Pz 353 ⟨[.ty .str,.ty i64],[.str],λx=>sD x.1 x.2⟩:=wq t49 rn hN func353 [] zg
def t50:=t49.d zka
def O9:q9:=Lz [] [] ⟨[Mi 10,.v (.qj zm)],[(1,.ptr 0 0)],M6⟩ [⟨.exit 0,⟨[.v (.qj zm)],[],M6⟩⟩,⟨.ret,⟨[Ms 2,Mb 3,.v (.qj zm)],[],M6⟩⟩] λp s=>Zq  s
def zf8:Hints:=Hz [(0,O9)] [] []
theorem z7y:LO Tryz.f313 O9 0:=lk t50 rn zf8 [] zg
theorem zjG:q8 Pz 313 ⟨[.ty zm],[.str,.bool],λx=>tM x⟩:=wq t50 rn zf8 func313 [0] (qh rfl z7y zg)
def t51:=t50.d zjG
def zmo:Hints:=Hz [] [(0,1,.ways [⟨.normal,⟨[Mb 15],[],[]⟩⟩])] []
theorem zjE:q8 Pz 311 ⟨[.ty zm],[.bool],λx=>ZF x⟩:=wq t51 (rz [1]) zmo func311 [] zg
def t52:=t51.d zjE
theorem zjF:q8 Pz 312 ⟨[.ty zm],[.bool],λx=>mX x⟩:=wq t52 (rz [1]) hN func312 [] zg
def t53:=t52.d zjF
theorem ziY:q8 Pz 258 ⟨[.ty .expr],[.bool],λx=>mW x⟩:=wq t53 (rz [1]) hN func258 [] zg
def t54:=t53.d ziY
abbrev GL:=ur.den PO->T (ur.den PU)
abbrev R2(F:GL):=xr Pz 199 ⟨De,PO,[],PU,1,F⟩
theorem ziZ(yB:GL)(sM:R2 yB):xr Pz 259 ⟨De,⟨[Mm 0 .expr,Mr 1 i64,.v (.qj i64)],[(2,.ptr 0 0)],[.cvar (.ptr 1 0),.var (.qj i64)]⟩,[],z3E,1,λx=>mH (λy0 y1 y2=>yB (y0,y1,y2)) x.1 x.2.1 x.2.2⟩:=ef (t54.s sM) (rz [3]) hN func259 [] zg
def zdX(yB:GL)(sM:R2 yB):Tb:=t54.s (ziZ _ sM)
def Ni(yB:GL):q9:=Lz [] [Mm 0 (.sl .expr),Mi 7] ⟨[.s 1 (.mclo 259 [.rp i64,.pt 0]),Mi 8,.v (.qj i64)],[],[.cvar (.ptr 1 0),.var (.qj i64)]⟩ [⟨.exit 0,⟨[.v (.qj i64)],[],[.cvar (.ptr 1 0),.var (.qj i64)]⟩⟩,⟨.ret,⟨[Mi 4,.v (.qj i64)],[],[.cvar (.ptr 1 0),.var (.qj i64)]⟩⟩] λp s=>wT (λy0 y1 y2=>yB (y0,y1,y2)) p.1 p.2 s
def zex(yB:GL):Hints:=Hz [(0,Ni yB)] [] []
theorem z6D(yB:GL)(sM:R2 yB):LO Tryz.f151 (Ni yB) 0:=lk (zdX yB sM) rn (zex yB) [] zg
theorem zhC(yB:GL)(sM:R2 yB):xr Pz 151 ⟨[.any,.wh 259],zak,[],⟨[Mi 0,.v (.qj i64)],[],[.cvar (.ptr 1 0),.var (.qj i64)]⟩,1,λx=>vj (λy0 y1 y2=>yB (y0,y1,y2)) x.1 x.2.1 x.2.2⟩:=ef (zdX yB sM) rn (zex yB) func151 [0] (qh rfl (z6D yB sM) zg)
theorem zoN(yB:GL)(sM:R2 yB):xr Pz 91 ⟨[.any,.wh 259],zak,[],z3E,1,λx=>wS (λy0 y1 y2=>yB (y0,y1,y2)) x.1 x.2.1 x.2.2⟩:=ef (t54.s (zhC _ sM)) rn hN func91 [] zg
def zm7(yB:GL):Hints:=Hz [] [(0,2,.ways [⟨.normal,⟨[Mb 24,.v (.qj i64)],[],[.var (.qj i64),.cvar (.ptr 0 0)]⟩⟩])] []
theorem z8f(yB:GL)(sM:R2 yB):xr Pz 199 ⟨De,PO,[],PU,1,λx=>ik (λy0 y1 y2=>yB (y0,y1,y2)) x.1 x.2.1 x.2.2⟩:=ef (t54.s (zoN _ sM)) (rz [3,4]) (zm7 yB) func199 [] zg
theorem zi9:xr Pz 199 ⟨De,PO,[],PU,1,λx=>ZG x.1 x.2.1 x.2.2⟩:=Kq (λyB x=>ik (λy0 y1 y2=>yB (y0,y1,y2)) x.1 x.2.1 x.2.2) (λx=>rfl) (λyB sM=>z8f yB sM)
def t55:=t54.s zi9
theorem zhp:q8 Pz 137 ⟨[.ty .expr],[.bool],λx=>ij x⟩:=wq t55 (rz [1]) hN func137 [] zg
def t56:=t55.d zhp
theorem zht:q8 Pz 140 ⟨[],[(.sl .str)],λ_=>kZ⟩:=wq t56 rn hN func140 [] zg
def t57:=t56.d zht
theorem zhr:q8 Pz 139 ⟨[.ty xl],[.bool],λx=>kY x⟩:=wq t57 (rz [1]) hN func139 [] zg
def t58:=t57.d zhr
def Nu:q9:=Lz [] [Mm 0 (.sl xl),.s 1 (.wh 139 []),Mi 7] cU [kN,og] λp s=>cS p.1 (λz0=>kY z0) p.2.2 s
def zeG:Hints:=Hz [(0,Nu)] [] []
theorem z6O:LO Tryz.f200 Nu 0:=lk t58 rn zeG [] zg
theorem zia:q8 Pz 200 ⟨[.ty (.sl xl),.wh 139 []],[i64],λx=>gW x.1 (λz0=>kY z0)⟩:=wq t58 rn zeG func200 [0] (qh rfl z6O zg)
def t59:=t58.d zia
theorem zhq:q8 Pz 138 ⟨[.ty (.sl xl),.wh 139 []],[.bool],λx=>yi x.1 (λz0=>kY z0)⟩:=wq t59 rn hN func138 [] zg
def t60:=t59.d zhq
def z1L:q9:=Lz [] [Mr 1 qy,Mm 7 (.sl xj),Mi 8] z4l [kN,PX] λp s=>nY p.1 p.2.1 p.2.2 s
def h78:Hints:=Hz [(0,z1L)] [(0,5,.ways [⟨.normal,⟨[Mb 50,.v (.qj xj)],[],[.var (.qj xj)]⟩⟩])] []
theorem zcq:LO Tryz.f78 z1L 0:=lk t60 (rz [1]) h78 [] zg
theorem zoA:q8 Pz 78 ⟨[.ty qy],[.bool],λx=>oT x⟩:=wq t60 (rz [1]) h78 func78 [0] (qh rfl zcq zg)
def t61:=t60.d zoA
end Go.AM.Lf
namespace Go.Proofs
section
open Go.RowKit
attribute [local go_sem] zN
set_option maxRecDepth 100000
set_option maxHeartbeats 2000000
theorem QC.size:(Tryz.prog.info? 210).map (·.size)=some 2:=by kernel_rfl
theorem QC.pt:Tryz.prog.underlying 207=some (.pointer 210):=by kernel_rfl
theorem QC.up:Tryz.prog.underlying 336=some .unsafePointer:=by kernel_rfl
theorem QC.used(b:Nat)(w:World)(h0:w.cell? ⟨b,0,none⟩=some (.pointer (some ⟨b,0,none⟩))) :
  Calls Tryz.prog 201 #[.pointer (some ⟨b,0,none⟩)] w λe w'=>e=.returned (.tuple #[])/\w'=w:=by
 obtain⟨j,hj,hjs⟩:=qG.1 QC.size
 go_enter Tryz.func201,Tryz.ntmps201
 go_wp2
 rw[Lib.run_neq_ptr_same w _ QC.pt hj]
 go_wp2
 go_end0
 exact⟨rfl,rfl⟩
theorem QC.fresh(b:Nat)(w:World)(h0:w.cell? ⟨b,0,none⟩=some (.pointer none))(hsh:w.shape? b=some (210,2))(hfz:w.frozen? ⟨b,0,none⟩=false) :
  Calls Tryz.prog 201 #[.pointer (some ⟨b,0,none⟩)] w λe w'=>e=.returned (.tuple #[])/\w'=w.setCell ⟨b,0,none⟩ (.pointer (some ⟨b,0,none⟩)):=by
 obtain⟨j,hj,hjs⟩:=qG.1 QC.size
 go_enter Tryz.func201,Tryz.ntmps201
 go_wp2
 rw[Lib.run_to_unsafe w ⟨b,0,none⟩ QC.pt QC.up hj (by rw[hjs]; decide) hsh (Nat.zero_lt_succ 1)]
 simp only[qL]
 rw[qH]
 go_wp2
 rw[run_callFunc_extern Tryz.func260 (by kernel_rfl) (by kernel_rfl) (by kernel_rfl) (e:=Extern.AbiNoEscape.same) (by kernel_rfl)]
 rw[Lib.run_noEscape]
 simp only[qL]
 rw[qH]
 go_wp2
 rw[Lib.run_from_unsafe w ⟨b,0,none⟩ QC.up QC.pt hj hsh (by kernel_rfl)]
 simp only[qL]
 rw[qH]
 go_wp2
 go_end0
 exact⟨rfl,rfl⟩
end
end Go.Proofs

namespace Go.AM.Lf
open Go.Proofs Go.Proofs.Tryz
theorem zib:xr Tryz.prog 201 ⟨[.ptr],z3W,[],Gz,0,λx=>tp x.1 x.2⟩:=C5 (P:=Tryz.prog) (g:=201) (t:=210) (enters_of Tryz.func201 (by kernel_rfl) rfl) QC.used QC.fresh
def t62:=t61.s zib
theorem zhu:xr Pz 141 ⟨lD,⟨[Ms 1,.v Jn,.a (.int .u8)],[(0,.ptr 0 0)],Qu⟩,[.pcell 0 1 (.int .u8)],⟨[Mi 0,.v Jn,.a (.int .u8)],[(1,.v8)],Qu⟩,2,λx=>xo x.1 x.2.1 x.2.2⟩:=ef t62 rn hN func141 [] zg
def t63:=t62.s zhu
theorem zos:q8 Pz 70 ⟨[.ty zm],[.str],λx=>gv x⟩:=wq t63 rn hN func70 [] zg
def t64:=t63.d zos
theorem zhw:q8 Pz 143 ⟨[.ty .str],[.str],λx=>sc x⟩:=wq t64 rn hN func143 [] zg
def t65:=t64.d zhw
theorem zop:q8 Tryz.prog 67 ⟨[.ty i64],[.str],λx=>strconv_Itoa x⟩:=by
 refine jC Tryz.func67 (by kernel_rfl) rfl λO n xb y hy B ha => ?_
 obtain⟨⟨h0,h1⟩,hy⟩:=hy
 cases hy
 obtain⟨v0,r,rfl,Kr,ha⟩:=wN.cons_inv (show wN O [.qj i64 n] xb from ha)
 rw[ha.wb,Kr.dM]
 refine(Go.Proofs.Tryz.strconv_Itoa n h0 h1 O.w (fG B)).mono ?_
 rintro e w' ⟨rfl,k,os,rfl⟩
 refine⟨Ic _ _ _,λ_=>⟨_,rfl,?_⟩⟩
 have e1:Lib.itoa n=Yp n:=z13 n
 show RD _ (.qj .str (Yp n)) _
 rw[<- e1]
 exact RD.str
def t66:=t65.d zop
def zm8:Hints:=Hz [] [(3,2,.flat [Ms 3])] []
theorem zic:q8 Pz 202 ⟨[.ty qv],[.str],λx=>ta x⟩:=wq t66 (rz [1]) zm8 func202 [] zg
def t67:=t66.d zic
def zmp:Hints:=Hz [] [(3,2,.flat [Mb 5]),(3,5,.flat [Mb 8])] []
theorem zjI:q8 Pz 315 ⟨[.ty .expr],[i64],λx=>lV x⟩:=wq t67 (rz [1]) zmp func315 [] zg
def t68:=t67.d zjI
abbrev z4Y:=dT [.ty .expr]->T (Dj [.str])
abbrev zdP(F:z4Y):=q8 Pz 261 ⟨[.ty .expr],[.str],F⟩
theorem zjH(QD:z4Y)(Eo:zdP QD):q8 Pz 314 ⟨[.ty .expr,.ty i64],[.str],λx=>dq (λy0=>QD (y0)) x.1 x.2⟩:=wq (t68.d Eo) (rz [2]) hN func314 [] zg
def zmi(QD:z4Y):Hints:=Hz [] [(3,2,.ways [⟨.normal,⟨[Ms 3],[],[]⟩⟩,⟨.ret,⟨[Ms 2],[],[]⟩⟩])] []
theorem z8i(QD:z4Y)(Eo:zdP QD):q8 Pz 261 ⟨[.ty .expr],[.str],λx=>gI (λy0=>QD (y0)) x⟩:=wq (t68.d (zjH _ Eo)) (rz [1]) (zmi QD) func261 [] zg
theorem zj0:q8 Pz 261 ⟨[.ty .expr],[.str],λx=>ZH x⟩:=Yd (λQD x=>gI (λy0=>QD (y0)) x) (λx=>rfl) (λQD Eo=>z8i QD Eo)
def t69:=t68.d zj0
theorem zid:q8 Pz 203 ⟨[.ty .expr],[.str],λx=>rh x⟩:=wq t69 (rz [1]) hN func203 [] zg
def t70:=t69.d zid
theorem zhx:q8 Pz 144 ⟨[.ty .expr,.ty .str,.ty .expr],[.str],λx=>nA x.1 x.2.1 x.2.2⟩:=wq t70 (rz [3,5]) hN func144 [] zg
def t71:=t70.d zhx
def Nd:q9:=Lz [] [Mi 2,Mr 4 qy,Mm 29 (.sl qv),Mi 30] ⟨[Mi 31,.v Jn,.a (.int .u8)],[(0,.ptr 0 0)],Qu⟩ [Ma] λp s=>o7 p.1 p.2.1 p.2.2.1 p.2.2.2 s
def Nf:q9:=Lz [] [Mi 2,Mm 45 (.sl xj),Mi 46] ⟨[Mi 47,.v Jn,.a (.int .u8)],[(0,.ptr 0 0)],Qu⟩ [⟨.exit 2,Gz⟩] λp s=>o8 p.1 p.2.1 p.2.2 s
def zbb:Hints:=Hz [(0,Nd),(2,Nf)] [] []
theorem z6z:LO Tryz.f142 Nd 0:=lk t71 (rz [4]) zbb [] zg
theorem z6A:LO Tryz.f142 Nf 2:=lk t71 (rz [4]) zbb [] zg
theorem zhv:xr Pz 142 ⟨Qf,⟨[Mm 1 qy,Mi 2,.v Jn,.a (.int .u8)],[(0,.ptr 0 0)],Qu⟩,[.pcell 0 1 (.int .u8)],Gz,0,λx=>oX x.1 x.2.1 x.2.2.1 x.2.2.2⟩:=ef t71 (rz [4]) zbb func142 [0,2] (qh rfl z6z (qh rfl z6A zg))
def t72:=t71.s zhv
end Go.AM.Lf
namespace Go.Proofs
section
open Go.RowKit
attribute [local go_sem] zN
set_option maxRecDepth 100000
set_option maxHeartbeats 2000000
theorem QC.mixed:Tryz.prog.follows .mixedOrders=true:=by kernel_rfl
theorem QC.pb:Tryz.prog.underlying 278=some (.pointer 5):=by kernel_rfl
theorem QC.c5:Tryz.prog.cellsOf 5=1:=by kernel_rfl
theorem QC.z2h(zk:World)(q:Option Addr):(qI #[278,3] 9 #[.pointer q,.int .i64 0]).run Tryz.prog zk=.ok (.string .empty) zk:=Lib.run_unsafeString_none zk _ _ _ q
theorem QC.nil(b:Nat)(p:Value)(w:World)(hbk:w.heap[b]? = some (.cells #[p,.slice none 0 0] 210 (0,0))) :
  Calls Tryz.prog 145 #[.pointer (some ⟨b,0,none⟩)] w λe w'=>e=.returned (.string ⟨#[]⟩)/\w'=w.drew:=by
 have hUS:=QC.z2h
 have c1:w.drew.cell? ⟨b,1,none⟩=some (.slice none 0 0):=by
  have:w.drew.heap[b]? = some (.cells #[p,.slice none 0 0] 210 (0,0)):=hbk
  rw[zQ this]; rfl
 have hSD:(zJ #[208] 278 #[.slice none 0 0]).run Tryz.prog w.drew=.ok (.pointer none) w.drew:=rfl
 have mixed:Tryz.prog.follows .mixedOrders=true:=QC.mixed
 go_enter Tryz.func145,Tryz.ntmps145
 go_wp2
 go_region_o
 all_goals (go_wp2; go_ret; exact⟨rfl,rfl⟩)
theorem QC.room(b g o cap:Nat)(p:Value)(w:World)(hc0:cap≠0)(hbk:w.heap[b]? = some (.cells #[p,.slice (some ⟨g,o,none⟩) 0 cap] 210 (0,0))) :
  Calls Tryz.prog 145 #[.pointer (some ⟨b,0,none⟩)] w λe w'=>e=.returned (.string ⟨#[]⟩)/\w'=w.drew:=by
 have hUS:=QC.z2h
 have c1:w.drew.cell? ⟨b,1,none⟩=some (.slice (some ⟨g,o,none⟩) 0 cap):=by
  have:w.drew.heap[b]? = some (.cells #[p,.slice (some ⟨g,o,none⟩) 0 cap] 210 (0,0)):=hbk
  rw[zQ this]; rfl
 have hSD:(zJ #[208] 278 #[.slice (some ⟨g,o,none⟩) 0 cap]).run Tryz.prog w.drew=.ok (.pointer (some ⟨g,o,none⟩)) w.drew :=
  qB _ _ _ _ _ _ hc0
 clear hc0
 have mixed:Tryz.prog.follows .mixedOrders=true:=QC.mixed
 go_enter Tryz.func145,Tryz.ntmps145
 go_wp2
 go_region_o
 all_goals (go_wp2; go_ret; exact⟨rfl,rfl⟩)
theorem QC.full(b g cap:Nat)(p:Value)(cur:Array Value)(l:List UInt8)(w:World)(h0:l≠[])(jg:l.length<=cap)(hmax:l.length<=140737488355328)(hbk:w.heap[b]? = some (.cells #[p,.slice (some ⟨g,0,none⟩) l.length cap] 210 (0,0)))
  (hg:w.heap[g]? = some (.cells cur 5 (0,0))) (zbt:l.length<=cur.size) (eA:∀ j x,l[j]? = some x->w.cell? ⟨g,j,none⟩=some (.int .u8 x.toNat)) :
  Calls Tryz.prog 145 #[.pointer (some ⟨b,0,none⟩)] w λe w'=>e=.returned (.string ⟨l.toArray⟩)/\w'=w.drew.freeze ⟨g,0,none⟩ l.length:=by
 have hl0:l.length≠0:=by simpa using h0
 have c1:w.drew.cell? ⟨b,1,none⟩=some (.slice (some ⟨g,0,none⟩) l.length cap):=by
  have:w.drew.heap[b]? = some (.cells #[p,.slice (some ⟨g,0,none⟩) l.length cap] 210 (0,0)):=hbk
  rw[zQ this]; rfl
 have hSD:(zJ #[208] 278 #[.slice (some ⟨g,0,none⟩) l.length cap]).run Tryz.prog w.drew=.ok (.pointer (some ⟨g,0,none⟩)) w.drew :=
  qB _ _ _ _ _ _ (by omega)
 have hUS:(qI #[278,3] 9 #[.pointer (some ⟨g,0,none⟩),.int .i64 l.length]).run Tryz.prog w.drew=.ok (.string ⟨l.toArray⟩) (w.drew.freeze ⟨g,0,none⟩ l.length):=by
  refine Lib.run_unsafeString_row w.drew 278 3 9 5 QC.pb QC.c5 g cur.size (by have hg':w.drew.heap[g]? = some (.cells cur 5 (0,0)):=hg; simp[World.shape?,hg']) l h0 (by omega) (by omega) ?_
  intro j x N
  have e:(⟨g,0,none⟩:Addr).add j=⟨g,j,none⟩:=by unfold Addr.add; split<;>simp_all
  rw[e]
  exact eA j x N
 have mixed:Tryz.prog.follows .mixedOrders=true:=QC.mixed
 go_enter Tryz.func145,Tryz.ntmps145
 go_wp2
 go_region_o
 all_goals (go_wp2; go_ret; exact⟨rfl,rfl⟩)
theorem QC.zcG(b g o:Nat)(p:Value)(cur:Array Value)(w:World)(hbk:w.heap[b]? = some (.cells #[p,.slice (some ⟨g,o,none⟩) 0 0] 210 (0,0)))(hg:w.heap[g]? = some (.cells cur 5 (0,0))) :
  Calls Tryz.prog 145 #[.pointer (some ⟨b,0,none⟩)] w λe w'=>e=.returned (.string ⟨#[]⟩)/\w'=w.drew.alloc (.view ⟨g,o,none⟩ 5):=by
 have hUS:=QC.z2h
 have wM:b<w.heap.size:=by
  rcases Nat.lt_or_ge b w.heap.size with h' | h'
  ·exact h'
  ·simp[Array.getElem?_eq_none h']at hbk
 have c1:w.drew.cell? ⟨b,1,none⟩=some (.slice (some ⟨g,o,none⟩) 0 0):=by
  have:w.drew.heap[b]? = some (.cells #[p,.slice (some ⟨g,o,none⟩) 0 0] 210 (0,0)):=hbk
  rw[zQ this]; rfl
 have hSD:(zJ #[208] 278 #[.slice (some ⟨g,o,none⟩) 0 0]).run Tryz.prog w.drew=.ok (.pointer (some ⟨w.drew.heap.size,0,none⟩)) (w.drew.alloc (.view ⟨g,o,none⟩ 5)) :=
  Lib.run_unsafeSliceData_zero w.drew _ _ 5 QC.pb ⟨g,o,none⟩ 0 (5,cur.size) (by have hg':w.drew.heap[g]? = some (.cells cur 5 (0,0)):=hg; simp[World.shape?,hg'])
 have c2:(w.drew.alloc (.view ⟨g,o,none⟩ 5)).cell? ⟨b,1,none⟩=some (.slice (some ⟨g,o,none⟩) 0 0):=by
  have:(w.drew.alloc (.view ⟨g,o,none⟩ 5)).heap[b]? = _:=(Lib.alloc_old w.drew _ b wM).trans hbk
  rw[zQ this]; rfl
 have c3:(w.alloc (.view ⟨g,o,none⟩ 5)).drew.cell? ⟨b,1,none⟩=some (.slice (some ⟨g,o,none⟩) 0 0):=c2
 have c0:w.cell? ⟨b,1,none⟩=some (.slice (some ⟨g,o,none⟩) 0 0):=c1
 have mixed:Tryz.prog.follows .mixedOrders=true:=QC.mixed
 go_enter Tryz.func145,Tryz.ntmps145
 go_wp2
 go_region_o
 all_goals (go_wp2; go_ret; exact⟨rfl,rfl⟩)
end
end Go.Proofs

namespace Go.AM.Lf
open Go.Proofs Go.Proofs.Tryz
theorem zhy:xr Tryz.prog 145 ⟨[.ptr],z3W,[],⟨[Ms 0,.v (.st [.op 0 210,.un])],[],[.var (.st [.op 0 210,.un]),.dead]⟩,1,λx=>pF x.1 x.2⟩:=SM (P:=Tryz.prog) (g:=145) (t:=210) (enters_of Tryz.func145 (by kernel_rfl) rfl) QC.nil QC.room QC.full QC.zcG
def t73:=t72.s zhy
def z1M:q9:=Lz [.cell 0 1 (.int .u8)] [Mr 1 qy,Mm 13 (.sl qs),Mi 14] ⟨[Mi 15,.v Jn,.a (.int .u8)],[(3,.ptr 0 0)],Qu⟩ [Ma] λp s=>s7 p.1 p.2.1 p.2.2 s
def z1N:q9:=Lz [] [Mr 1 qy,Mm 29 (.sl qf),Mi 30] ⟨[Mi 31,.v Jn,.a (.int .u8)],[(3,.ptr 0 0)],Qu⟩ [⟨.exit 2,Gz⟩] λp s=>s9 p.1 p.2.1 p.2.2 s
def z1O:q9:=Lz [] [Mr 1 qy,Mi 48] ⟨[Mi 49,.v Jn,.a (.int .u8)],[(3,.ptr 0 0)],Qu⟩ [⟨.exit 4,Gz⟩] λp s=>sa p.1 p.2 s
def z1P:q9:=Lz [] [Mm 57 (.sl xl),Mi 58] ⟨[Mi 59,.v Jn,.a (.int .u8)],[(3,.ptr 0 0)],Qu⟩ [⟨.exit 6,Gz⟩] λp s=>sb p.1 p.2 s
def h79:Hints:=Hz [(0,z1M),(2,z1N),(4,z1O),(6,z1P)] [(3,6,.flat [Ms 6])] []
theorem zcr:LO Tryz.f79 z1M 0:=lk t73 (rz [1]) h79 [] zg
theorem zcs:LO Tryz.f79 z1N 2:=lk t73 (rz [1]) h79 [] zg
theorem zct:LO Tryz.f79 z1O 4:=lk t73 (rz [1]) h79 [] zg
theorem zcu:LO Tryz.f79 z1P 6:=lk t73 (rz [1]) h79 [] zg
theorem zoB:q8 Pz 79 ⟨[.ty qy],[.str],λx=>ny x⟩:=wq t73 (rz [1]) h79 func79 [0,2,4,6] (qh rfl zcr (qh rfl zcs (qh rfl zct (qh rfl zcu zg))))
def t74:=t73.d zoB
theorem znZ:q8 Pz 33 ⟨[.ty qy],[.bool],λx=>Z9 x⟩:=wq t74 (rz [1]) hN func33 [] zg
def t75:=t74.d znZ
def z1u:q9:=Lz [.slot 3 .str] [Mr 1 qy,Mm 17 (.sl qs),Mi 18] ⟨[Mi 19,.a .str],[(3,.cur 0 .str)],nD⟩ [⟨.exit 0,GA⟩] λp s=>pQ p.1 p.2.1 p.2.2 s
def z1v:q9:=Lz [] [Mr 1 qy,Mm 30 (.sl qf),Mi 31] ⟨[Mi 32,.a .str],[(3,.cur 0 .str)],nD⟩ [⟨.exit 2,GA⟩] λp s=>pR p.1 p.2.1 p.2.2 s
def z1w:q9:=Lz [] [Mr 1 qy,Mm 43 (.sl xp),Mi 44] ⟨[Mi 45,.a .str],[(3,.cur 0 .str)],nD⟩ [⟨.exit 4,GA⟩] λp s=>pS p.1 p.2.1 p.2.2 s
def z1x:q9:=Lz [] [Mr 1 qy,Mm 56 (.sl qv),Mi 57] ⟨[Mi 58,.a .str],[(3,.cur 0 .str)],nD⟩ [⟨.exit 6,GA⟩] λp s=>pT p.1 p.2.1 p.2.2 s
def z1y:q9:=Lz [] [Mr 1 qy,Mm 69 (.sl xl),Mi 70] ⟨[Mi 71,.a .str],[(3,.cur 0 .str)],nD⟩ [⟨.exit 8,GA⟩] λp s=>pU p.1 p.2.1 p.2.2 s
def Oi:q9:=Lz [] [Mm 82 (.sl xj),Mi 83] ⟨[Mi 84,.a .str],[(3,.cur 0 .str)],nD⟩ [⟨.exit 10,GA⟩] λp s=>pV p.1 p.2 s
def h35:Hints:=Hz [(0,z1u),(2,z1v),(4,z1w),(6,z1x),(8,z1y),(10,Oi)] [] []
theorem zc9:LO Tryz.f35 z1u 0:=lk t75 (rz [1]) h35 [] zg
theorem zca:LO Tryz.f35 z1v 2:=lk t75 (rz [1]) h35 [] zg
theorem zcb:LO Tryz.f35 z1w 4:=lk t75 (rz [1]) h35 [] zg
theorem zcc:LO Tryz.f35 z1x 6:=lk t75 (rz [1]) h35 [] zg
theorem zcd:LO Tryz.f35 z1y 8:=lk t75 (rz [1]) h35 [] zg
theorem z7H:LO Tryz.f35 Oi 10:=lk t75 (rz [1]) h35 [] zg
theorem zo1:q8 Pz 35 ⟨[.ty qy],[(.sl .str)],λx=>sB x⟩:=wq t75 (rz [1]) h35 func35 [0,2,4,6,8,10] (qh rfl zc9 (qh rfl zca (qh rfl zcb (qh rfl zcc (qh rfl zcd (qh rfl z7H zg))))))
def t76:=t75.d zo1
end Go.AM.Lf
namespace Go.Proofs
section
open Go.RowKit Go.Maps Go.WideMaps
attribute [local go_sem] zN
set_option maxRecDepth 100000
set_option maxHeartbeats 2000000
/-- What a map reads as when texts,all different,came. -/
def TW.Seen(D:DataW Unit)(l:List (List UInt8)):Prop:=IsMap D/\∀ s:List UInt8,D.atKey (.string s) (.lit (.int .i64 0))=.lit (.int .i64 (if s∈l then 1 else 0))
theorem TW.zkR:TW.Seen (.map []) []:=⟨⟨_,rfl⟩,λs=>by simp only[List.not_mem_nil,if_false]; rfl⟩
theorem TW.step{D:DataW Unit}{l:List (List UInt8)}{s:List UInt8}(h:TW.Seen D l)(hk:WideAt.IsKeyLit (.string s)):TW.Seen (D.put (.string s) (.lit (.int .i64 1))) (l++[s]):=by
 refine⟨h.1.put _ _,λx => ?_⟩
 by_cases c:x=s
 ·subst c
  rw[atKey_put_same h.1 hk,if_pos (by simp)]
 ·rw[atKey_put_other (λe=>c (by cases e; rfl)),h.2 x]
  congr 3
  simp[c]
theorem TW.cOf{D:DataW Unit}{l:List (List UInt8)}{s:List UInt8}{c:Int}(h:TW.Seen D l)(IK:D.atKey (.string s) (.lit (.int .i64 0))=.lit (.int .i64 c)):c=if s∈l then 1 else 0:=by
 rw[h.2 s]at IK
 cases IK; rfl
theorem TW.key:Keyed Tryz.prog 9:=string_keyed Tryz.underlying9
theorem TW.PY(w:World):(zeroValue 3).run Tryz.prog w=.ok (.int .i64 0) w:=by kernel_rfl
theorem TW.zero(a:Option Addr)(cap:Nat)(w:World):Calls Tryz.prog 34 #[.slice a 0 cap] w λe w'=>e=.returned (.tuple #[.string ⟨#[]⟩,.bool false])/\Below w.heap.size w w':=by
 have hmm := @run_makeMap Tryz.prog
 go_enter Tryz.func34,Tryz.ntmps34
 go_wp2
 refine wp_loop_rounds 1 ?_
 rw[rounds_succ]
 go_wp2
 go_ret2
 exact⟨rfl,(Below.refl _ _).alloc (V _) _⟩
theorem TW.more(b off cap:Nat)(l:List (List UInt8))(w:World)(J5:l.length*16<=140737488351232)(I:b<w.heap.size)
  (hc:∀ j (hj:j<l.length),w.cell? ⟨b,off+j,none⟩=some (.string ⟨l[j].toArray⟩)) (bI:∀ s∈l,s.length<=maxLen) :
  Calls Tryz.prog 34 #[.slice (some ⟨b,off,none⟩) l.length cap] w λe w'=>e=.returned (.tuple #[.string ⟨(Go.AM.Lf.twR [] l).1.toArray⟩,.bool (Go.AM.Lf.twR [] l).2])/\Below w.heap.size w w':=by
 have hmm := @run_makeMap Tryz.prog
 go_enter Tryz.func34,Tryz.ntmps34
 go_wp2
 go_loopw [10] (λi wr=>∃ (k:Nat) (D:DataW Unit),k<=l.length/\i=.int .i64 k/\wr.ownsMap Tryz.prog 9 (plainElem Tryz.prog 3) w.heap.size k D/\TW.Seen D (l.take k)/\Go.AM.Lf.twR [] l=Go.AM.Lf.twR (l.take k) (l.drop k)/\Below w.heap.size w wr)
  (λi _=>l.length-(intOf i).toNat)
 case atStart=>exact⟨0,.map [],qK _,rfl,World.ownsMap_made _ _ _ _,TW.zkR,rfl,(Below.refl _ _).alloc (V _) _⟩
 case round =>
  obtain⟨k,D,hk,rfl,hown,EC,htw,Dn⟩:=hrel
  obtain⟨s,hs⟩:∃ s:List UInt8,s=l.getD k []:=⟨_,rfl⟩
  have hse:∀ wM:k<l.length,s=l[k]:=λwM=>by rw[hs]; simp[wM]
  have hcx:k<l.length->wr.cell? ⟨b,off+k,none⟩=some (.string ⟨s.toArray⟩):=λwM=>by rw[hse wM]; exact(Dn.cell (by exact I)).trans (hc k wM)
  have hlen:s.length<=maxLen:=by
   by_cases wM:k<l.length
   ·rw[hse wM]; exact bI _ (List.getElem_mem wM)
   ·rw[hs]; simp[wM]
  have IU:keyOf Tryz.prog 9 (.string ⟨s.toArray⟩)=some (.string s):=keyOf_string_mk Tryz.underlying9 (by exact hlen)
  have hkl:WideAt.IsKeyLit (.string s):=TW.key.key IU
  have Et:∀ wM:k<l.length,l.drop k=s::l.drop (k+1):=λwM=>by rw[hse wM]; exact List.drop_eq_getElem_cons wM
  have HK:∀ wM:k<l.length,l.take (k+1)=l.take k++[s]:=λwM=>by rw[hse wM]; exact zW wM
  clear hse hs
  by_cases J4:s∈l.take k
  ·have z0K:∀ wM:k<l.length,Go.AM.Lf.twR [] l=(s,true):=λwM=>by rw[htw,Et wM]; unfold Go.AM.Lf.twR; rw[if_pos J4]
   go_wp2_with (first
    | (at_lookup; refine wpList_lookup_own_int _ rfl _ _ 146 rfl 9 3 .i64 TW.key Tryz.underlying146 Tryz.underlying3 (TW.PY _) w.heap.size k _ rfl hown _ _ rfl IU ?_; intro c IK hwc; obtain rfl:c=1:=by rw[TW.cOf EC IK,if_pos J4])
    | (at_mapUpdate; refine wpList_mapUpdate_own _ rfl _ _ _ 146 rfl 9 3 TW.key Tryz.underlying146 _ w.heap.size k _ rfl hown (by unfold maxLen; omega) _ _ _ rfl rfl IU _ [] (plainElem_int (a:=2) Tryz.underlying3 rfl) ?_; intro w1 MK IS)
    | (at_lookup; refine wpList_lookup_own_int _ rfl _ _ 146 rfl 9 3 .i64 TW.key Tryz.underlying146 Tryz.underlying3 (TW.PY _) w.heap.size (k+1) _ rfl MK _ _ rfl IU ?_; intro c2 z0B znB; obtain rfl:c2=2:=by rw[atKey_put_same EC.1 hkl]at z0B; cases z0B; rfl)
    | go_in)
   ·have wM:k<l.length:=by assumption
    go_ret2
    rw[z0K wM]
    exact⟨rfl,Dn.grown IS Dn.size (λj hj=>by cases hj; exact V _)⟩
   ·have:k=l.length:=by omega
    subst this
    rw[List.drop_length]at htw
    go_ret2
    rw[htw]
    exact⟨rfl,Dn⟩
  ·have hgo:∀ wM:k<l.length,Go.AM.Lf.twR [] l=Go.AM.Lf.twR (l.take (k+1)) (l.drop (k+1)):=λwM=>by
    rw[htw,Et wM,HK wM]
    conv=>lhs; unfold Go.AM.Lf.twR
    rw[if_neg J4]
   go_wp2_with (first
    | (at_lookup; refine wpList_lookup_own_int _ rfl _ _ 146 rfl 9 3 .i64 TW.key Tryz.underlying146 Tryz.underlying3 (TW.PY _) w.heap.size k _ rfl hown _ _ rfl IU ?_; intro c IK hwc; obtain rfl:c=0:=by rw[TW.cOf EC IK,if_neg J4])
    | (at_mapUpdate; refine wpList_mapUpdate_own _ rfl _ _ _ 146 rfl 9 3 TW.key Tryz.underlying146 _ w.heap.size k _ rfl hown (by unfold maxLen; omega) _ _ _ rfl rfl IU _ [] (plainElem_int (a:=1) Tryz.underlying3 rfl) ?_; intro w1 MK IS)
    | (at_lookup; refine wpList_lookup_own_int _ rfl _ _ 146 rfl 9 3 .i64 TW.key Tryz.underlying146 Tryz.underlying3 (TW.PY _) w.heap.size (k+1) _ rfl MK _ _ rfl IU ?_; intro c2 z0B znB; obtain rfl:c2=1:=by rw[atKey_put_same EC.1 hkl]at z0B; cases z0B; rfl)
    | go_in)
   ·have wM:k<l.length:=by assumption
    go_roundw
    case rel=>exact⟨k+1,_,by omega,by go_num,MK,(HK wM).symm▸TW.step EC hkl,hgo wM,Dn.grown IS Dn.size (λj hj=>by cases hj; exact V _)⟩
    case measure=>simp[intOf]; omega
   ·have:k=l.length:=by omega
    subst this
    rw[List.drop_length]at htw
    go_ret2
    rw[htw]
    exact⟨rfl,Dn⟩
end
end Go.Proofs
namespace Go.AM.Lf
open Go.Proofs Go.Proofs.Tryz
theorem zo0:q8 Tryz.prog 34 ⟨[.ty (.sl .str)],[.str,.bool],λx=>sC x⟩:=by
 refine jC Tryz.func34 (by kernel_rfl) rfl λO (l:List zx) xb y hy B ha => ?_
 obtain⟨⟨h0,h1⟩,hy⟩:=hy
 cases hy
 obtain⟨v0,r,rfl,Kr,ha⟩:=wN.cons_inv (show wN O [.qj (.sl .str) l] xb from ha)
 rw[ha.wb]
 have hv:=RD.jG (O:=O) (τ:=.sl .str) (x:=l) Kr rfl
 rcases hv.tB with⟨rfl,a,e⟩ | ⟨blk,off,cap,g,e,j3,jg,hg,hc⟩
 ·cases e
  refine(TW.zero a 0 O.w).mono ?_
  rintro e w' ⟨rfl,hB⟩
  exact⟨hB,λ_=>⟨_,rfl,RD.z8Q RD.str RD.bool⟩⟩
 ·cases e
  refine(TW.more blk off cap l O.w h0 (B.bJ blk j3) (λj hj => ?_) h1).mono ?_
  ·have h3:=hc j hj 0 (.string ⟨l[j].toArray⟩) (by rw[(hg j hj).jc]; rfl)
   simpa[Ty.size]using h3
  ·rintro e w' ⟨rfl,hB⟩
   exact⟨hB,λ_=>⟨_,rfl,RD.z8Q RD.str RD.bool⟩⟩
end Go.AM.Lf

namespace Go.AM.Lf
open Go.Proofs Go.Proofs.Tryz
def t77:=t76.d zo0
theorem zoF:q8 Pz 83 ⟨[.ty qs,.rp .str],[.bool],λx=>vT x.1 x.2⟩:=wq t77 (rz [2]) hN func83 [] zg
def t78:=t77.d zoF
def HT:q9:=Lz [] [Mm 0 (.sl qs),.s 1 (.wh 83 [.rp .str]),Mi 7] cU [kN,og] λp s=>wY p.1 (λz0=>vT z0 p.2.1) p.2.2 s
def z0b:Hints:=Hz [(0,HT)] [] []
theorem S1:LO Tryz.f100 HT 0:=lk t78 rn z0b [] zg
theorem OL:q8 Pz 100 ⟨[.ty (.sl qs),.wh 83 [.rp .str]],[i64],λx=>wa x.1 (λz0=>vT z0 x.2)⟩:=wq t78 rn z0b func100 [0] (qh rfl S1 zg)
def t79:=t78.d OL
theorem z2t:q8 Pz 82 ⟨[.ty (.sl qs),.wh 83 [.rp .str]],[.bool],λx=>vG x.1 (λz0=>vT z0 x.2)⟩:=wq (t79.d OL) rn hN func82 [] zg
def t80:=t79.d z2t
theorem zoD:q8 Pz 81 ⟨[.ty .str,.rp qy],[.bool],λx=>jS x.1 x.2⟩:=wq (t80.d z2t) (rz [2]) hN func81 [] zg
def t81:=t80.d zoD
def z1R:q9:=Lz [] [Mm 0 (.sl .str),.s 1 (.wh 81 [.rp qy]),Mi 7] cU [kN,og] λp s=>uN p.1 (λz0=>jS z0 p.2.1) p.2.2 s
def h80:Hints:=Hz [(0,z1R)] [] []
theorem zcw:LO Tryz.f80 z1R 0:=lk t81 rn h80 [] zg
theorem zoC:q8 Pz 80 ⟨[.ty (.sl .str),.wh 81 [.rp qy]],[i64],λx=>wU x.1 (λz0=>jS z0 x.2)⟩:=wq t81 rn h80 func80 [0] (qh rfl zcw zg)
def t82:=t81.d zoC
def z1z:q9:=Lz [.slot 4 .str] [Mr 1 qy,Mm 11 (.sl xp),Mi 12] ⟨[Mi 13,.a .str],[(4,.cur 0 .str)],nD⟩ [⟨.exit 0,z42⟩] λp s=>eR p.1 p.2.1 p.2.2 s
def z1A:q9:=Lz [] [Mr 1 qy,Mm 24 (.sl xl),Mi 25] ⟨[Mi 26,.a .str],[(4,.cur 0 .str)],nD⟩ [⟨.exit 2,z42⟩] λp s=>eS p.1 p.2.1 p.2.2 s
def h36:Hints:=Hz [(0,z1z),(2,z1A)] [] []
theorem zce:LO Tryz.f36 z1z 0:=lk t82 (rz [1]) h36 [] zg
theorem zcf:LO Tryz.f36 z1A 2:=lk t82 (rz [1]) h36 [] zg
theorem zo2:q8 Pz 36 ⟨[.ty qy],[.str,.bool],λx=>eE x⟩:=wq t82 (rz [1]) h36 func36 [0,2] (qh rfl zce (qh rfl zcf zg))
def t83:=t82.d zo2
def Nh:q9:=Lz [] [Mm 0 (.sl .str),Ms 1,Mi 7] cU [kN,og] λp s=>gq p.1 p.2.1 p.2.2 s
def zew:Hints:=Hz [(0,Nh)] [] []
theorem z6C:LO Tryz.f148 Nh 0:=lk t83 rn zew [] zg
theorem zhz:q8 Pz 148 ⟨[.ty (.sl .str),.ty .str],[i64],λx=>wD x.1 x.2⟩:=wq t83 rn zew func148 [0] (qh rfl z6C zg)
def t84:=t83.d zhz
theorem zoJ:q8 Pz 87 ⟨[.ty (.sl .str),.ty .str],[.bool],λx=>wK x.1 x.2⟩:=wq t84 rn hN func87 [] zg
def t85:=t84.d zoJ
abbrev R6:=ur.den FN->T (ur.den WI)
abbrev zax(F:R6):=xr Pz 147 ⟨[.cur,.any],FN,[],WI,1,F⟩
def zdW(eV:R6)(JB:zax eV):Tb:=t85.s JB
def Ng(eV:R6):q9:=Lz [] [Mm 23 (.sl .expr),Mi 24] z3P [⟨.exit 0,WI⟩] λp s=>eF (λy0 y1=>eV (y0,y1)) p.1 p.2 s
def zev(eV:R6):Hints:=Hz [(0,Ng eV)] [(0,1,.ways [z4o]),(3,1,.ways [⟨.normal,WI⟩])] []
theorem z6B(eV:R6)(JB:zax eV):LO Tryz.f147 (Ng eV) 0:=lk (zdW eV JB) (rz [3]) (zev eV) [] zg
theorem z8d(eV:R6)(JB:zax eV):xr Pz 147 ⟨[.cur,.any],FN,[],WI,1,λx=>dm (λy0 y1=>eV (y0,y1)) x.1 x.2⟩:=ef (zdW eV JB) (rz [3]) (zev eV) func147 [0] (qh rfl (z6B eV JB) zg)
theorem za4:xr Pz 147 ⟨[.cur,.any],FN,[],WI,1,λx=>oD x.1 x.2⟩:=Kq (λeV x=>dm (λy0 y1=>eV (y0,y1)) x.1 x.2) (λx=>rfl) (λeV JB=>z8d eV JB)
def t86:=t85.s za4
def Ti:Tb:=t86.s za4
def B0:q9:=Lz [] [Mm 23 (.sl .expr),Mi 24] z3P [⟨.exit 0,WI⟩] λp s=>lX p.1 p.2 s
def z0i:Hints:=Hz [(0,B0)] [(0,1,.ways [z4o]),(3,1,.ways [⟨.normal,WI⟩])] []
theorem S8:LO Tryz.f147 B0 0:=lk Ti (rz [3]) z0i [] zg
theorem OS:xr Pz 147 ⟨[.cur,.any],FN,[.slot 0 .str],WI,1,λx=>mI x.1 x.2⟩:=ef Ti (rz [3]) z0i func147 [0] (qh rfl S8 zg)
def t87:=t86.s OS
theorem zoH:q8 Pz 85 ⟨[.ty .expr],[(.sl .str)],λx=>dh x⟩:=wq (t87.s OS) (rz [1]) hN func85 [] zg
def t88:=t87.d zoH
end Go.AM.Lf
namespace Go.Proofs
section
open Go.RowKit Go.Maps
attribute [local go_sem] zN
set_option maxRecDepth 100000
set_option maxHeartbeats 2000000
theorem CC.info:(Tryz.prog.info? 9).map (λi=>(i.zero,i.size,i.bytes))=some (some (.string ⟨#[]⟩),1,16):=by kernel_rfl
theorem CC.wp{ops:Array Oper}{rest:List Oper}{o:Oper}{a:Act}{Q:Exit->Act->World->Prop}(w:World)(hgd:o.guard=zE)(s x:Operand)(t u:TypeId)
  (ho:o.op=.call { callee:=.builtin .append,args := #[s,x],argTypes := #[t,u] }) (v':Value) (w':World)
  (hr:(zU #[t,u] o.type #[a.eval s,a.eval x]).run Tryz.prog w=.ok v' w') (h:wpList Tryz.prog ops Q rest (a.put o.dst v') w'):wpList Tryz.prog ops Q (o::rest) a w :=
 wpList_plain hgd λ_ hK=>by
  unfold Oper.wp execOp
  simp only[ho,resolve,invoke,builtin,Sem.run_bind,Sem.run_pure,Result.andThen_ok,List.map_toArray,List.map_cons,List.map_nil,hr]
  exact hK _ _ h
/-- An append of nothing. -/
theorem CC.DH{base:Option Addr}{n cap:Nat}{a:Option Addr}{ty:TypeId}(w:World)(jg:n<=cap) :
  (zU #[38,38] ty #[.slice base n cap,.slice a 0 0]).run Tryz.prog w=.ok (.slice base n cap) w:=by
 obtain⟨i0,hi,FU,hz1,hz2⟩:=info_parts CC.info
 have hu:=Tryz.underlying38
 cases a<;>cases base<;>simp[zU,run_underlying hu,sizeOf,typeInfo,hi,Builtin.lenOf,qN,loadCells,loadCellsFrom,storeCells,jg]
theorem CC.DG{n:Nat}{ty:TypeId}(w:World)(hn:0<n)(I:n*16<=140737488355328) :
  ∃ cs:Array Value,cs.size=grownCap w n 0 9/\(zU #[38,3] ty #[.slice zE 0 0,.int .i64 (n:Int)]).run Tryz.prog w=.ok (.slice (some ⟨w.heap.size,0,zE⟩) n (grownCap w n 0 9)) (w.drew.alloc (.cells cs 9)):=by
 obtain⟨i0,hi,FU,hz1,hz2⟩:=info_parts CC.info
 have hu:=Tryz.underlying38
 have he:=Tryz.underlying3
 have w1:IntKind.i64.wrap (n:Int)=n:=IntWalk.i64_in _ (by omega)
 have h5:IntKind.i64.max=9223372036854775807:=by decide
 have ai:∀ w,(Go.asInt (.int .i64 (n:Int))).run Tryz.prog w=.ok (n:Int) w:=λw=>by simp[Go.asInt,asIntOf]
 have g1:¬ ((n:Int)<0):=by omega
 have g2:¬ ((281474976710656:Int)<(n:Int)*16):=by omega
 have g3:¬ (n=0):=by omega
 have g4:¬ (281474976710656<Builtin.nextslicecap n 0*16):=by
  have:=growslice_fits (bytes:=16) (need:=n) (old:=0) (by omega) (by omega)
  omega
 have hge:=grownCap_ge w n 0 9
 refine⟨qD (Value.string ⟨#[]⟩).cells n++qD (Value.string ⟨#[]⟩).cells (grownCap w n 0 9-n),?_,?_⟩
 ·simp[qD,Value.cells]; omega
 ·simp[zU,run_underlying hu,run_underlying he,sizeOf,typeInfo,zeroValue,hi,FU,hz1,hz2,ai,w1,Builtin.lenOf,qN,Question.forced,newRow,grownCap,g1,g2,g3,g4]
  intro h
  omega
theorem CC.grow(n:Nat)(w:World)(I:n*16<=140737488355328):Calls Tryz.prog 146 #[.slice zE 0 0,.int .i64 (n:Int)] w λe w'=>∃ v,e=.returned v/\w'.ownsRow w.heap.size 9 1 v 0 []/\Below w.heap.size w w':=by
 go_enter Tryz.func146,Tryz.ntmps146
 by_cases hn:0<n
 ·obtain⟨cs,QB,hr⟩:=CC.DG (ty:=38) w hn I
  go_wp2_with (first
   | (at_builtin; refine CC.wp _ rfl _ _ _ _ rfl _ _ hr ?_)
   | go_in)
  go_ret
  refine⟨_,rfl,⟨rfl,.inr ⟨w.heap.size,_,cs,rfl,V _,by show(w.heap.push (zA cs 9))[w.heap.size]? = _; exact Array.getElem?_push_size,qK _,grownCap_le_maxLen w n 0 9 (by unfold maxLen; omega),by rw[QB,Nat.mul_one],rfl⟩⟩,?_⟩
  have hB:Below w.heap.size w (w.alloc (.cells cs 9)):=(Below.refl _ _).alloc (V _) _
  exact⟨hB.os,hB.tape,hB.output,hB.size,hB.block⟩
 ·obtain rfl:n=0:=by omega
  go_wp2
  go_ret
  exact⟨_,rfl,World.ownsRow_nil _ _ _ _,Below.refl _ _⟩
/-- The texts of a slice whose block lies below n₀. -/
def CC.Strs(n₀:Nat)(zk:World)(sv:Value)(l:List (List UInt8)):Prop:=(∃ a,sv=.slice a 0 0/\l=[])\/∃ b off cap,sv=.slice (some ⟨b,off,zE⟩) l.length cap/\b<n₀/\∀ j (hj:j<l.length),zk.cell? ⟨b,off+j,zE⟩=some (.string ⟨l[j].toArray⟩)
def CC.cells(l:List (List UInt8)):List Value:=l.map λs=>.string ⟨s.toArray⟩
/-- How many texts the first k slices have; which. -/
def CC.fl(ls:List (List (List UInt8)))(k:Nat):Nat:=(ls.take k).flatten.length
def CC.out(ls:List (List (List UInt8)))(k:Nat):List Value:=CC.cells (ls.take k).flatten
def CC.at(ls:List (List (List UInt8)))(k:Nat):List (List UInt8):=ls.getD k []
theorem CC.take_succ{ls:List (List (List UInt8))}{k:Nat}(hk:k<ls.length):(ls.take (k+1)).flatten=(ls.take k).flatten++CC.at ls k:=by
 rw[zW hk,List.flatten_append,List.flatten_singleton]
 simp[CC.at,hk]
theorem CC.z5k{ls:List (List (List UInt8))}{k:Nat}(hk:k<ls.length):CC.fl ls (k+1)=CC.fl ls k+(CC.at ls k).length:=by
 unfold CC.fl; rw[CC.take_succ hk,List.length_append]
theorem CC.z2B{ls:List (List (List UInt8))}{k:Nat}(hk:k<ls.length):CC.out ls (k+1)=CC.out ls k++CC.cells (CC.at ls k):=by
 unfold CC.out CC.cells; rw[CC.take_succ hk,List.map_append]
theorem CC.zef(ls:List (List (List UInt8)))(k:Nat):CC.fl ls k<=CC.fl ls ls.length:=by
 unfold CC.fl
 rw[List.take_length]
 conv=>rhs; rw[<- List.take_append_drop k ls,List.flatten_append,List.length_append]
 omega
theorem CC.concat(b off cap L:Nat)(svs:Nat->Value)(ls:List (List (List UInt8)))(w:World)(hL:L=ls.length)(J5:L*24<=140737488351232)(I:b<w.heap.size)
  (hc:∀ j,j<L->w.cell? ⟨b,off+j,zE⟩=some (svs j)) (hs:∀ j,j<L->CC.Strs w.heap.size w (svs j) (CC.at ls j)) (znx:CC.fl ls L*16<=140737488355328) :
  Calls Tryz.prog 84 #[.slice (some ⟨b,off,zE⟩) L cap] w λe w'=>∃ v,e=.returned v/\w'.ownsRow w.heap.size 9 1 v (CC.fl ls L) (CC.out ls L)/\Below w.heap.size w w':=by
 obtain⟨i0,hi,FU,hz1,hz2⟩:=info_parts CC.info
 have JD:∀ k,k<L->CC.fl ls (k+1)=CC.fl ls k+(CC.at ls k).length:=λk hk=>CC.z5k (by omega)
 have hou:∀ k,k<L->CC.out ls (k+1)=CC.out ls k++CC.cells (CC.at ls k):=λk hk=>CC.z2B (by omega)
 have hle:∀ k,CC.fl ls k<=CC.fl ls L:=λk=>hL▸CC.zef ls k
 have hf0:CC.fl ls 0=0:=rfl
 have ho0:CC.out ls 0=[]:=rfl
 generalize CC.fl ls=fl at *
 generalize CC.out ls=out at *
 generalize CC.at ls=at_ at *
 clear hL ls
 generalize hM:fl L=h2 at *
 go_enter Tryz.func84,Tryz.ntmps84
 go_wp2
 go_loopw [3,11] (λsz i wr=>∃ k:Nat,k<=L/\i=.int .i64 k/\sz=.int .i64 (fl k:Int)/\w=wr) (λ_ i _=>L-(intOf i).toNat)
 case atStart=>exact⟨0,qK _,rfl,by rw[hf0]; rfl,rfl⟩
 case round =>
  obtain⟨k,hk,rfl,rfl,rfl⟩:=hrel
  by_cases wM:k<L
  ·have eA:=hc k wM
   have hS:=hs k wM
   have h1:=JD k wM
   have M:=hle (k+1)
   have hSq:∃ a c,svs k=.slice a (at_ k).length c:=by
    rcases hS with⟨a,e,he⟩ | ⟨b1,o1,c1,e,_,_⟩
    ·exact⟨a,0,by rw[e,he]; rfl⟩
    ·exact⟨_,c1,e⟩
   obtain⟨a1,c1,e1⟩:=hSq
   rw[e1]at eA
   clear hc hs hS JD hou hle e1
   generalize hq:(at_ k).length=q at *
   generalize hm:fl k=m at *
   generalize hm':fl (k+1)=m' at *
   go_wp2
   go_roundw
   case rel=>exact⟨k+1,by omega,by go_num,by rw[hm',h1]; go_num,by first | rfl | trivial⟩
   case measure=>simp[intOf]; omega
  ·have hkl:k=L:=by omega
   subst hkl
   rw[hM]
   have hg:=CC.grow h2 w znx
   go_wp2_with (first
    | (go_at_call 146; refine hg.mono ?_; rintro e w1 ⟨v1,rfl,oH,hB⟩)
    | go_in)
   clear hg
   go_loopw [6,27] (λo i wr'=>∃ j:Nat,j<=k/\i=.int .i64 j/\wr'.ownsRow w.heap.size 9 1 o (fl j) (out j)/\Below w.heap.size w wr') (λ_ i _=>k-(intOf i).toNat)
   case atStart=>exact⟨0,qK _,rfl,by rw[hf0,ho0]; exact oH,hB⟩
   case round =>
    obtain⟨j,hj,rfl,oH,hB⟩:=hrel
    by_cases IW:j<k
    ·have eA:wr.cell? ⟨b,off+j,zE⟩=some (svs j):=(hB.cell (p:=⟨b,off+j,zE⟩) I).trans (hc j IW)
     have h1:=JD j IW
     have M:=hle (j+1)
     have h3:=hou j IW
     rcases hs j IW with⟨a,e,he⟩ | ⟨b1,o1,c1,e,FR,QB⟩
     ·rw[e]at eA
      rw[he]at h1 h3
      have e1:fl (j+1)=fl j:=by rw[h1]; rfl
      have e2:out (j+1)=out j:=by rw[h3]; simp[CC.cells]
      have hv:∃ base n cap,u6=.slice base n cap/\n<=cap:=by
       rcases oH.2 with⟨rfl,_⟩ | ⟨g,VD,cur,rfl,_,_,jg,_⟩
       ·exact⟨_,_,_,rfl,V _⟩
       ·exact⟨_,_,_,rfl,jg⟩
      obtain⟨base,n,VD,rfl,jg⟩:=hv
      have hr:=CC.DH (base:=base) (n:=n) (cap:=VD) (a:=a) (ty:=38) wr jg
      clear hc hs JD hou hle hf0 ho0 he e
      go_wp2_with (first
       | (at_builtin; refine CC.wp _ rfl _ _ _ _ rfl _ _ hr ?_)
       | go_in)
      go_roundw
      case rel=>exact⟨j+1,by omega,by go_num,by rw[e1,e2]; exact oH,hB⟩
      case measure=>simp[intOf]; omega
     ·rw[e]at eA
      have hB1:=hB.size
      have R:(CC.cells (at_ j)).length=(at_ j).length*1:=by simp[CC.cells]
      have ZM:∀ u∈CC.cells (at_ j),u.oneCell'=true:=by
       intro u hu
       obtain⟨s,_,rfl⟩:=List.mem_map.1 hu
       rfl
      have zg4:∀ i u,(CC.cells (at_ j))[i]? = some u->wr.cell? ((⟨b1,o1,zE⟩:Addr).add i)=some u:=by
       intro i u hu
       have UN:i<(at_ j).length:=by
        have:=(List.getElem?_eq_some_iff.1 hu).1
        simpa[CC.cells]using this
       have zbq:(⟨b1,o1,zE⟩:Addr).add i=⟨b1,o1+i,zE⟩:=by unfold Addr.add; split<;>simp_all
       rw[zbq,(hB.cell (p:=⟨b1,o1+i,zE⟩) FR),QB i UN,<- hu]
       simp[CC.cells,UN]
      clear hc hs JD hou hle hf0 ho0 e QB
      generalize CC.cells (at_ j)=news at *
      generalize hq:(at_ j).length=q at *
      go_wp2_with (first
       | (at_builtin; refine wpList_append_own _ rfl _ _ 38 rfl w.heap.size 9 i0 (.string ⟨#[]⟩) 1 16 Tryz.underlying38 hi FU hz1 hz2 rfl (by decide) _ _ _ rfl oH ⟨b1,o1,zE⟩ q c1 news rfl R zg4 ZM (by unfold maxLen; omega) (by omega) hB1 ?_; intro v' w' zg8 zby zq6)
       | go_in)
      go_roundw
      case rel=>exact⟨j+1,by omega,by go_num,by rw[h1,h3]; exact zg8,hB.grown zby hB.size (λi hi=>(oH.lt i hi).1)⟩
      case measure=>simp[intOf]; omega
    ·have hjk:j=k:=by omega
     subst hjk
     clear hc hs JD hou hle
     go_wp2
     go_ret
     exact⟨_,rfl,by rw[hM]at oH; exact oH,hB⟩
end
end Go.Proofs
namespace Go.AM.Lf
open Go.Proofs Go.Proofs.Tryz
theorem z8P{O:KS}{l:List zx}{cs:List Value}(B:Inv O)(h:Rc O.w O.ok (.sl .str) l cs):∃ v,cs=[v]/\CC.Strs O.w.heap.size O.w v l:=by
 rcases h.tB with⟨rfl,a,e⟩ | ⟨blk,off,cap,g,e,j3,jg,hg,hc⟩
 ·exact⟨_,e,.inl ⟨a,rfl,rfl⟩⟩
 ·refine⟨_,e,.inr ⟨blk,off,cap,rfl,B.bJ blk j3,λj hj => ?_⟩⟩
  have h3:=hc j hj 0 (.string ⟨l[j].toArray⟩) (by rw[(hg j hj).jc]; rfl)
  simpa[Ty.size]using h3
theorem zoG:q8 Tryz.prog 84 ⟨[.ty (.sl (.sl .str))],[.sl .str],λx=>j8 x⟩:=by
 refine jC Tryz.func84 (by kernel_rfl) rfl λO (ls:List (List zx)) xb y hy B ha => ?_
 obtain⟨⟨h0,h1,M⟩,hy⟩:=hy
 cases hy
 obtain⟨v0,r,rfl,Kr,ha⟩:=wN.cons_inv (show wN O [.qj (.sl (.sl .str)) ls] xb from ha)
 rw[ha.wb]
 have hv:=RD.jG (O:=O) (τ:=.sl (.sl .str)) (x:=ls) Kr rfl
 rcases hv.tB with⟨rfl,a,e⟩ | ⟨blk,off,cap,g,e,j3,jg,hg,hc⟩
 ·exact absurd rfl M
 ·cases e
  have ZK:∀ j (hj:j<ls.length),∃ v,g j=[v]/\CC.Strs O.w.heap.size O.w v ls[j]:=λj hj=>z8P B (hg j hj)
  have eA:∀ j,j<ls.length->O.w.cell? ⟨blk,off+j,none⟩=some ((g j).headD (.bool false)):=λj hj=>by
   obtain⟨v,hv,_⟩:=ZK j hj
   have h3:=hc j hj 0 v (by rw[hv]; rfl)
   rw[hv]
   simpa[Ty.size]using h3
  have JD:ls.flatten=(ls.take ls.length).flatten:=by rw[List.take_length]
  refine(CC.concat blk off cap ls.length (λj=>(g j).headD (.bool false)) ls O.w rfl h0 (B.bJ blk j3) eA (λj hj => ?_) (by unfold CC.fl; rw[<- JD]; exact h1)).mono ?_
  ·obtain⟨v,hv,hs⟩:=ZK j hj
   rw[hv]
   have:CC.at ls j=ls[j]:=by simp[CC.at,hj]
   rw[this]; exact hs
  ·rintro e w' ⟨v,rfl,oH,hB⟩
   refine⟨hB,λ_=>⟨_,rfl,?_⟩⟩
   unfold CC.fl CC.out at oH
   rw[<- JD]at oH
   show RD _ (.qj (.sl .str) ls.flatten) v
   refine RD.tY rfl ?_
   rcases oH.2 with⟨rfl,hn⟩ | ⟨gb,VD,cur,rfl,hgb,zbt,hle,hmax,bI,htk⟩
   ·rw[zY hn]
    exact .lB .str none
   ·refine .sl .str _ gb 0 VD (λi=>[.string ⟨(ls.flatten[i]?.getD []).toArray⟩]) (.inr ⟨hgb,(Array.getElem?_eq_some_iff.1 zbt).1⟩) hle (λi hi => ?_) (λi hi j u hu => ?_)
    ·rw[zT hi]
     exact .str _
    ·match j,hu with
     | 0,hu =>
      simp only[List.getElem?_cons_zero,Option.some.injEq]at hu
      have e0:(0:Nat)+i*Ty.size .str+0=i:=by show 0+i*1+0=i; omega
      show w'.cell? ⟨gb,0+i*Ty.size .str+0,none⟩=some u
      rw[e0,cell_of_row w' gb i cur _ (0,0) zbt,<- hu]
      have h4:(cur.toList.take (ls.flatten.length*1))[i]? = (CC.cells ls.flatten)[i]? := by rw[htk]
      rw[List.getElem?_take_of_lt (by omega)]at h4
      rw[<- Array.getElem?_toList,h4]
      unfold CC.cells
      rw[List.getElem?_map,zT hi]; rfl
end Go.AM.Lf

namespace Go.AM.Lf
open Go.Proofs Go.Proofs.Tryz
def t89:=t88.d zoG
theorem zoL:q8 Pz 89 ⟨[.ty qf,.rp .str],[.bool],λx=>uD x.1 x.2⟩:=wq t89 (rz [2]) hN func89 [] zg
def t90:=t89.d zoL
def HX:q9:=Lz [] [Mm 0 (.sl qf),.s 1 (.wh 89 [.rp .str]),Mi 7] cU [kN,og] λp s=>uZ p.1 (λz0=>uD z0 p.2.1) p.2.2 s
def z0f:Hints:=Hz [(0,HX)] [] []
theorem S5:LO Tryz.f108 HX 0:=lk t90 rn z0f [] zg
theorem OP:q8 Pz 108 ⟨[.ty (.sl qf),.wh 89 [.rp .str]],[i64],λx=>vJ x.1 (λz0=>uD z0 x.2)⟩:=wq t90 rn z0f func108 [0] (qh rfl S5 zg)
def t91:=t90.d OP
theorem z2u:q8 Pz 88 ⟨[.ty (.sl qf),.wh 89 [.rp .str]],[.bool],λx=>vQ x.1 (λz0=>uD z0 x.2)⟩:=wq (t91.d OP) rn hN func88 [] zg
def t92:=t91.d z2u
theorem zoI:q8 Pz 86 ⟨[.ty .str,.rp (.sl .str),.rp qy],[.bool],λx=>yw x.1 x.2.1 x.2.2⟩:=wq (t92.d z2u) (rz [3]) hN func86 [] zg
def t93:=t92.d zoI
def EP:q9:=Lz [] [Mm 0 (.sl .str),.s 1 (.wh 86 [.rp (.sl .str),.rp qy]),Mi 7] cU [kN,og] λp s=>uN p.1 (λz0=>yw z0 p.2.1.1 p.2.1.2) p.2.2 s
def z9o:Hints:=Hz [(0,EP)] [] []
theorem z1g:LO Tryz.f80 EP 0:=lk t93 rn z9o [] zg
theorem z2r:q8 Pz 80 ⟨[.ty (.sl .str),.wh 86 [.rp (.sl .str),.rp qy]],[i64],λx=>wU x.1 (λz0=>yw z0 x.2.1 x.2.2)⟩:=wq t93 rn z9o func80 [0] (qh rfl z1g zg)
def t94:=t93.d z2r
def T37:Tb:=t94.d z2r
def z1B:q9:=Lz [] [Mr 2 qy,Mr 3 (.sl .str),Mm 13 (.sl xj),Mi 14] ⟨[Mm 6 (.sl .str),Mi 15],[],[]⟩ [⟨.exit 0,z4a⟩] λp s=>lN p.1 p.2.1 p.2.2.1 p.2.2.2 s
def z1C:q9:=Lz [] [Mr 2 qy,Mr 3 (.sl .str),Mm 30 (.sl xl),Mi 31] ⟨[Mm 6 (.sl .str),Mi 32],[],[]⟩ [⟨.exit 2,z4a⟩] λp s=>lO p.1 p.2.1 p.2.2.1 p.2.2.2 s
def h37:Hints:=Hz [(0,z1B),(2,z1C)] [] []
theorem zcg:LO Tryz.f37 z1B 0:=lk T37 (rz [2,3]) h37 [] zg
theorem zch:LO Tryz.f37 z1C 2:=lk T37 (rz [2,3]) h37 [] zg
theorem zo3:q8 Pz 37 ⟨[.ty qy,.ty (.sl .str)],[.str,.bool],λx=>mv x.1 x.2⟩:=wq T37 (rz [2,3]) h37 func37 [0,2] (qh rfl zcg (qh rfl zch zg))
def t95:=t94.d zo3
theorem zhB:q8 Pz 150 ⟨[.ty .str,.rp (.sl .str)],[.bool],λx=>bP x.1 x.2⟩:=wq t95 rn hN func150 [] zg
def t96:=t95.d zhB
def ER:q9:=Lz [] [Mm 0 (.sl .str),.s 1 (.wh 150 [.rp (.sl .str)]),Mi 7] cU [kN,og] λp s=>uN p.1 (λz0=>bP z0 p.2.1) p.2.2 s
def z9p:Hints:=Hz [(0,ER)] [] []
theorem z1h:LO Tryz.f80 ER 0:=lk t96 rn z9p [] zg
theorem z2s:q8 Pz 80 ⟨[.ty (.sl .str),.wh 150 [.rp (.sl .str)]],[i64],λx=>wU x.1 (λz0=>bP z0 x.2)⟩:=wq t96 rn z9p func80 [0] (qh rfl z1h zg)
def t97:=t96.d z2s
theorem zhA:q8 Pz 149 ⟨[.ty (.sl .str),.wh 150 [.rp (.sl .str)]],[.bool],λx=>kE x.1 (λz0=>bP z0 x.2)⟩:=wq (t97.d z2s) rn hN func149 [] zg
def t98:=t97.d zhA
theorem zoM:q8 Pz 90 ⟨[.ty .expr,.ty (.sl .str)],[.bool],λx=>tL x.1 x.2⟩:=wq t98 (rz [2,3]) hN func90 [] zg
def t99:=t98.d zoM
abbrev Y38:=dT [.ty .expr,.ty (.sl .str)]->T (Dj [.bool])
abbrev H38(F:Y38):=q8 Pz 38 ⟨[.ty .expr,.ty (.sl .str)],[.bool],F⟩
theorem zkF(dE:Y38)(WW:H38 dE):q8 Pz 92 ⟨[.ty .expr,.rp (.sl .str)],[.bool],λx=>uY (λy0 y1=>dE (y0,y1)) x.1 x.2⟩:=wq (t99.d WW) (rz [2]) hN func92 [] zg
def Tj(dE:Y38)(WW:H38 dE):Tb:=t99.d (zkF _ WW)
def B1(dE:Y38):q9:=Lz [] [Mm 0 (.sl .expr),.s 1 (.wh 92 [.rp (.sl .str)]),Mi 7] cU [kN,og] λp s=>yj (λy0 y1=>dE (y0,y1)) p.1 (λz0=>(uY (λy0 y1=>dE (y0,y1))) z0 p.2.1) p.2.2 s
def z0j(dE:Y38):Hints:=Hz [(0,B1 dE)] [] []
theorem S9(dE:Y38)(WW:H38 dE):LO Tryz.f151 (B1 dE) 0:=lk (Tj dE WW) rn (z0j dE) [] zg
theorem z8e(dE:Y38)(WW:H38 dE):q8 Pz 151 ⟨[.ty (.sl .expr),.wh 92 [.rp (.sl .str)]],[i64],λx=>gV (λy0 y1=>dE (y0,y1)) x.1 (λz0=>(uY (λy0 y1=>dE (y0,y1))) z0 x.2)⟩:=wq (Tj dE WW) rn (z0j dE) func151 [0] (qh rfl (S9 dE WW) zg)
theorem zcM(dE:Y38)(WW:H38 dE):q8 Pz 91 ⟨[.ty (.sl .expr),.wh 92 [.rp (.sl .str)]],[.bool],λx=>ja (λy0 y1=>dE (y0,y1)) x.1 (λz0=>(uY (λy0 y1=>dE (y0,y1))) z0 x.2)⟩:=wq (t99.d (z8e _ WW)) rn hN func91 [] zg
def h38(dE:Y38):Hints:=Hz [] [(0,3,.ways [⟨.normal,⟨[Mb 41,.v (.qj .expr),.v (.qj .expr)],[],FG⟩⟩]),(3,1,.ways [⟨.normal,⟨[],[],[]⟩⟩,FP])] []
theorem zcK(dE:Y38)(WW:H38 dE):q8 Pz 38 ⟨[.ty .expr,.ty (.sl .str)],[.bool],λx=>cX (λy0 y1=>dE (y0,y1)) x.1 x.2⟩:=wq ((t99.d (zcM _ WW)).d (zkF _ WW)) (rz [2,3]) (h38 dE) func38 [] zg
theorem zo4:q8 Pz 38 ⟨[.ty .expr,.ty (.sl .str)],[.bool],λx=>fH x.1 x.2⟩:=Yd (λdE x=>cX (λy0 y1=>dE (y0,y1)) x.1 x.2) (λx=>rfl) (λdE WW=>zcK dE WW)
def t100:=t99.d zo4
def z1n:q9:=Lz [.slot 8 .str] [Mr 1 qy,Mm 46 (.sl qv),Mi 47] ⟨[Mi 48,.a .str],[(8,.cur 0 .str)],nD⟩ [⟨.exit 1,⟨[.a .str],[(8,.cur 0 .str)],nD⟩⟩] λp s=>nK p.1 p.2.1 p.2.2 s
def z1o:q9:=Lz [] [Mm 67 (.sl xl),Mi 68] ⟨[Mi 69,.a .str],[(8,.cur 0 .str)],nD⟩ [⟨.exit 3,⟨[.a .str],[],nD⟩⟩,⟨.ret,⟨[Mi 2,Ms 3,.a .str],[],nD⟩⟩] λp s=>nL p.1 p.2 s
def h21:Hints:=Hz [(1,z1n),(3,z1o)] [(0,3,.flat [Mb 19]),(0,23,.ways [⟨.normal,⟨[Mb 84,.a .str,.v (.qj xl)],[(8,.cur 0 .str)],[.arr .str,.var (.qj xl)]⟩⟩])] []
theorem zc2:LO Tryz.f21 z1n 1:=lk t100 (rz [1]) h21 [] zg
theorem zc3:LO Tryz.f21 z1o 3:=lk t100 (rz [1]) h21 [] zg
theorem znR:q8 Pz 21 ⟨[.ty qy],[i64,.str],λx=>fI x⟩:=wq t100 (rz [1]) h21 func21 [1,3] (qh rfl zc2 (qh rfl zc3 zg))
def t101:=t100.d znR
theorem zo6:q8 Pz 40 ⟨[.ty qy],[.str],λx=>sZ x⟩:=wq t101 (rz [1]) hN func40 [] zg
def t102:=t101.d zo6
theorem zoO:q8 Tryz.prog 93 ⟨[.ty .str,.ty .str],[.sl .str],λx=>strings_Split x.1 x.2⟩:=by
 refine jC Tryz.func93 (by kernel_rfl) rfl λO x xb y hy B ha => ?_
 obtain⟨s,sep⟩:=x
 obtain⟨⟨h0,h1⟩,hy⟩:=hy
 cases hy
 obtain⟨v0,r,rfl,Kr,ha⟩:=wN.cons_inv (show wN O [.qj .str s,.qj .str sep] xb from ha)
 obtain⟨v1,r,rfl,IJ,ha⟩:=ha.cons_inv
 rw[ha.wb,Kr.jc,IJ.jc]
 obtain⟨m,hm⟩:=kW B
 refine(Go.Proofs.Tryz.strings_Split ⟨s.toArray⟩ ⟨sep.toArray⟩ m O.w (by rw[show(zF ⟨s.toArray⟩)=zH s from Y]; exact h0) hm (by rw[show(zF ⟨sep.toArray⟩)=zH sep from Y]; simp only at h1; omega)).mono ?_
 rintro e w' ⟨rfl,rfl⟩
 refine⟨Js _ _,λ_=>⟨_,rfl,?_⟩⟩
 exact z30 s sep h1 _
def t103:=t102.d zoO
theorem zhD:q8 Tryz.prog 153 ⟨[.ty .str,.ty .str],[.str,.str,.bool],λx=>strings_Cut x.1 x.2⟩:=by
 refine jC Tryz.func153 (by kernel_rfl) rfl λO x xb y hy B ha => ?_
 obtain⟨s,sep⟩:=x
 obtain⟨h0,hy⟩:=hy
 cases hy
 obtain⟨v0,r,rfl,Kr,ha⟩:=wN.cons_inv (show wN O [.qj .str s,.qj .str sep] xb from ha)
 obtain⟨v1,r,rfl,IJ,ha⟩:=ha.cons_inv
 rw[ha.wb,Kr.jc,IJ.jc]
 obtain⟨m,hm⟩:=kW B
 refine(Go.Proofs.Tryz.strings_Cut ⟨s.toArray⟩ ⟨sep.toArray⟩ m O.w (by rw[show(zF ⟨s.toArray⟩)=zH s from Y]; exact h0) hm).mono ?_
 rintro e w' ⟨rfl,n,rfl⟩
 refine⟨below_drewN _ _,λ_=>⟨_,rfl,?_⟩⟩
 rw[show Lib.cut (⟨s.toArray⟩:ByteArray).data.toList (⟨sep.toArray⟩:ByteArray).data.toList=DY s sep from TO s sep]
 exact RD.zp6 RD.str RD.str RD.bool
def t104:=t103.d zhD
theorem zif:q8 Pz 209 ⟨[.ty (.int .i32)],[.bool],λx=>sd x⟩:=wq t104 rn hN func209 [] zg
def t105:=t104.d zif
theorem z8y(w:World):Go.Proofs.PredAtRunes Tryz.prog 209 #[] (λn=>n==32) w:=λzk x N I=>by
 show Calls Tryz.prog 209 #[.int .i32 (x:Int)] zk _
 have hn:Tryz.f209.ntmps=5:=by kernel_rfl
 have J:((x:Int)==32)=(x==32):=by rw[Bool.eq_iff_iff,beq_iff_eq,beq_iff_eq]; omega
 go_enter Tryz.func209,hn
 go_wp2
 go_ret
 exact⟨by rw[<- J]; rfl,0,rfl⟩
theorem zie:q8 Tryz.prog 208 ⟨[.ty .str,.wh 209 []],[.sl .str],λx=>strings_FieldsFunc x.1 (λz0=>sd z0)⟩:=by
 refine jC Tryz.func208 (by kernel_rfl) rfl λO x xb y hy B ha => ?_
 obtain⟨s,c⟩:=x
 obtain⟨h0,hy⟩:=hy
 cases hy
 obtain⟨v0,r,rfl,Kr,ha⟩:=wN.cons_inv (show wN O [.qj .str s,.wh 209 []] xb from ha)
 obtain⟨v1,r,rfl,IJ,ha⟩:=ha.cons_inv
 rw[ha.wb,Kr.jc,IJ.TE (by rfl)]
 refine(Go.Proofs.Tryz.strings_FieldsFunc_runes 209 #[] (λargs w=>nH Tryz.func209 (by kernel_rfl) rfl w) (λn=>n==32) ⟨s.toArray⟩ O.w (by rw[show(zF ⟨s.toArray⟩)=zH s from Y]; exact h0) (z8y O.w)).mono ?_
 rintro e w' ⟨A,rfl,hA,ho,hB⟩
 refine⟨hB,λ_=>⟨_,rfl,?_⟩⟩
 exact Rt s ho
def t106:=t105.d zie
theorem zhE:q8 Pz 154 ⟨[.ty .str],[(.sl .str)],λx=>td x⟩:=wq t106 rn hN func154 [] zg
def t107:=t106.d zhE
theorem zj1:q8 Tryz.prog 266 ⟨[.ty .str,.ty .str],[i64],λx=>strings_IndexAny x.1 x.2⟩:=by
 refine jC Tryz.func266 (by kernel_rfl) rfl λO x xb y hy B ha => ?_
 obtain⟨s,chars⟩:=x
 obtain⟨⟨h0,h1,M,h3⟩,hy⟩:=hy
 cases hy
 obtain⟨v0,r,rfl,Kr,ha⟩:=wN.cons_inv (show wN O [.qj .str s,.qj .str chars] xb from ha)
 obtain⟨v1,r,rfl,IJ,ha⟩:=ha.cons_inv
 rw[ha.wb,Kr.jc,IJ.jc]
 refine(Go.Proofs.Any.Xw Go.Proofs.Tryz.lays153 (λ_=>by kernel_rfl) (by kernel_rfl) ⟨s.toArray⟩ ⟨chars.toArray⟩ O.w (by rw[show(zF ⟨chars.toArray⟩)=zH chars from Y]; exact h1) (by rw[show(zF ⟨s.toArray⟩)=zH s from Y]; exact h0) (by rw[show(zF ⟨chars.toArray⟩)=zH chars from Y]; exact M) h3).mono ?_
 rintro e w' ⟨rfl,hB⟩
 refine⟨hB,λ_=>⟨_,rfl,?_⟩⟩
 have e1:Lib.indexAny s chars=rm s chars:=HL chars s
 show RD _ (.qj i64 (rm s chars)) _
 rw[<- e1]
 exact RD.int
def t108:=t107.d zj1
def zmq:Hints:=Hz [] [(0,1,.flat [Mb 4])] []
theorem zjL:q8 Pz 325 ⟨[.ty .str,.ty .str],[.bool],λx=>jX x.1 x.2⟩:=wq t108 rn zmq func325 [] zg
def t109:=t108.d zjL
theorem zj2:q8 Pz 267 ⟨[.ty .str,.ty .str],[.bool],λx=>strings_HasPrefix x.1 x.2⟩:=wq t109 rn hN func267 [] zg
def t110:=t109.d zj2
def OD:q9:=Lz [] [] oo [Md] λp s=>bu  s
def zfl:Hints:=Hz [(0,OD)] [(0,0,.flat [Mb 23])] []
theorem z7Y:LO Tryz.f399 OD 0:=lk t110 rn zfl [] zg
theorem zky:xr Pz 399 ⟨[.ptr],oo,[],PV,0,λx=>dn x⟩:=ef t110 rn zfl func399 [0] (qh rfl z7Y zg)
def t111:=t110.s zky
theorem zkb:q8 Tryz.prog 356 ⟨[.ty .str,.ty (.int .u8)],[i64],λx=>strings_IndexByte x.1 x.2⟩:=by
 refine jC Tryz.func356 (by kernel_rfl) rfl λO x xb y hy B ha => ?_
 obtain⟨s,c⟩:=x
 cases hy
 obtain⟨v0,r,rfl,Kr,ha⟩:=wN.cons_inv (show wN O [.qj .str s,.qj (.int .u8) c] xb from ha)
 obtain⟨v1,r,rfl,IJ,ha⟩:=ha.cons_inv
 rw[ha.wb,Kr.jc,IJ.dM]
 refine(Go.Proofs.Tryz.strings_IndexByte ⟨s.toArray⟩ c O.w).mono ?_
 rintro e w' ⟨rfl,rfl⟩
 refine⟨Zn _,λ_=>⟨_,rfl,?_⟩⟩
 have e1:Lib.indexByte s (byteOf c)=VZ s (byteOf c):=z6a s (byteOf c)
 show RD _ (.qj i64 (VZ s (byteOf c))) _
 rw[<- e1]
 exact RD.int
def t112:=t111.d zkb
def zmy:Hints:=Hz [] [(0,2,.ways [⟨.normal,⟨[Mb 30,.v (.qj xk)],[],Vr⟩⟩])] []
theorem zkv:xr Pz 391 ⟨lD,⟨[Ms 1,.v (.qj xk)],[(0,.ptr 0 0)],Vr⟩,[],⟨[Mm 0 (.int .u8),.v (.qj xk)],[],Vr⟩,1,λx=>uE x.1 x.2⟩:=ef t112 rn zmy func391 [] zg
def t113:=t112.s zkv
theorem zke:jB Pz 360 ⟨Qf,⟨[Mi 1,Mi 2,.v (.qj xk)],[(0,.ptr 0 0)],Vr⟩,[],PV,0,416,th,none,λx=>vn x.1 x.2.1 x.2.2⟩:=Ko t113 rn hN func360 [] zg
def t114:=t113.p zke
theorem zkz:jB Pz 400 ⟨[.ptr],oo,[],PV,0,416,th,none,λx=>kC x⟩:=Ko t114 rn hN func400 [] zg
def t115:=t114.p zkz
def OE:q9:=Lz [] [.s 1 (.wh 257 []),Mi 2,Mi 7] oo [Md] λp s=>yf (λz0=>kh z0) p.2.1 p.2.2 s
def zfm:Hints:=Hz [(0,OE)] [(0,2,.ways [z4p])] []
theorem z7Z:LO Tryz.f402 OE 0:=lk t115 rn zfm [] zg
theorem zkB:xr Pz 402 ⟨[.ptr,.wh 257,.any],⟨[.s 1 (.wh 257 []),Mi 2,.v (.qj xk)],[(0,.ptr 0 0)],Vr⟩,[],z3R,1,λx=>uF (λz0=>kh z0) x.2.1 x.2.2⟩:=ef t115 rn zfm func402 [0] (qh rfl z7Z zg)
def t116:=t115.s zkB
theorem zj5:q8 Tryz.prog 270 ⟨[.ty .str,.ty .str],[.str,.bool],λx=>strings_CutPrefix x.1 x.2⟩:=by
 refine jC Tryz.func270 (by kernel_rfl) rfl λO x xb y hy B ha => ?_
 obtain⟨s,p⟩:=x
 cases hy
 obtain⟨v0,r,rfl,Kr,ha⟩:=wN.cons_inv (show wN O [.qj .str s,.qj .str p] xb from ha)
 obtain⟨v1,r,rfl,IJ,ha⟩:=ha.cons_inv
 rw[ha.wb,Kr.jc,IJ.jc]
 refine(Go.Proofs.Tryz.strings_CutPrefix ⟨s.toArray⟩ ⟨p.toArray⟩ O.w).mono ?_
 rintro e w' ⟨rfl,rfl⟩
 refine⟨Zn _,λ_=>⟨_,rfl,?_⟩⟩
 exact RD.z8Q RD.str RD.bool
def t117:=t116.d zj5
def Ok:q9:=Lz [] [Mm 1 (.int .u8)] Qw [K3] λp s=>gY p s
def zfd:Hints:=Hz [(0,Ok)] [(0,1,.flat [Mb 16])] []
theorem z7J:LO Tryz.f362 Ok 0:=lk t117 rn zfd [] zg
theorem zkg:q8 Pz 362 ⟨[.ty .str,.ty (.int .u8)],[.str],λx=>strings_trimRightByte x.1 x.2⟩:=wq t117 rn zfd func362 [0] (qh rfl z7J zg)
def t118:=t117.d zkg
def Oj:q9:=Lz [] [Mm 1 (.int .u8)] Qw [K3] λp s=>bF p s
def zfc:Hints:=Hz [(0,Oj)] [(0,1,.flat [Mb 13])] []
theorem z7I:LO Tryz.f361 Oj 0:=lk t118 rn zfc [] zg
theorem zkf:q8 Pz 361 ⟨[.ty .str,.ty (.int .u8)],[.str],λx=>strings_trimLeftByte x.1 x.2⟩:=wq t118 rn zfc func361 [0] (qh rfl z7I zg)
def t119:=t118.d zkf
theorem zjJ:q8 Tryz.prog 323 ⟨[.ty .str],[(mO .bool 256),.bool],λx=>strings_makeASCIISet x⟩:=by
 refine jC Tryz.func323 (by kernel_rfl) rfl λO s xb y hy B ha => ?_
 obtain⟨⟨h0,h1⟩,hy⟩:=hy
 cases hy
 obtain⟨v0,r,rfl,Kr,ha⟩:=wN.cons_inv (show wN O [.qj .str s] xb from ha)
 rw[ha.wb,Kr.jc]
 refine(Go.Proofs.Tryz.strings_makeASCIISet (λ_=>by kernel_rfl) ⟨s.toArray⟩ O.w (by rw[show(zF ⟨s.toArray⟩)=zH s from Y]; exact h0) (by simpa using h1)).mono ?_
 rintro e w' ⟨rfl,rfl⟩
 refine⟨Js _ _,λ_=>⟨_,rfl,?_⟩⟩
 exact RD.z8Q (Tn s) RD.bool
def t120:=t119.d zjJ
theorem zjK:q8 Pz 324 ⟨[.rp (mO .bool 256),.ty (.int .u8)],[.bool],λx=>vf x.1 x.2⟩:=wq t120 rn hN func324 [] zg
def t121:=t120.d zjK
def Om:q9:=Lz [] [Mr 1 (mO .bool 256)] Qw [K3] λp s=>uC p s
def zff:Hints:=Hz [(0,Om)] [] []
theorem z7L:LO Tryz.f364 Om 0:=lk t121 rn zff [] zg
theorem zki:q8 Pz 364 ⟨[.ty .str,.rp (mO .bool 256)],[.str],λx=>ju x.1 x.2⟩:=wq t121 rn zff func364 [0] (qh rfl z7L zg)
def t122:=t121.d zki
def Ol:q9:=Lz [] [Mr 1 (mO .bool 256)] Qw [K3] λp s=>uW p s
def zfe:Hints:=Hz [(0,Ol)] [] []
theorem z7K:LO Tryz.f363 Ol 0:=lk t122 rn zfe [] zg
theorem zkh:q8 Pz 363 ⟨[.ty .str,.rp (mO .bool 256)],[.str],λx=>jP x.1 x.2⟩:=wq t122 rn zfe func363 [0] (qh rfl z7K zg)
def t123:=t122.d zkh
def zmr:Hints:=Hz [] [(0,1,.flat [Mb 12]),(0,3,.flat [Mb 21])] []
theorem zjN:q8 Pz 328 ⟨[.ty .str,.ty .str],[.str],λx=>cj x.1 x.2⟩:=wq t123 rn zmr func328 [] zg
def t124:=t123.d zjN
def Oa:q9:=Lz [] [Mm 0 (.sl u32),Mm 1 (.sl u32),Mm 24 (.sl u32),Mi 25] ⟨[Mm 6 (.int .u64),Mi 26,.a u32],[(5,.cur 0 u32)],fD⟩ [⟨.exit 0,⟨[Mm 6 (.int .u64),.a u32],[(5,.cur 0 u32)],fD⟩⟩] λp s=>V3 p.1 p.2.1 p.2.2.1 p.2.2.2 s
def zf9:Hints:=Hz [(0,Oa)] [(3,2,.flat [Mm 0 (.sl u32),Mm 1 (.sl u32)]),(3,10,.flat [Mm 6 (.int .u64)])] [(16,[5])]
theorem z7z:LO Tryz.f329 Oa 0:=lk t124 rn zf9 [] zg
theorem zjO:q8 Pz 329 ⟨[.ty (.sl u32),.ty (.sl u32)],[(.sl u32)],λx=>Ua x.1 x.2⟩:=wq t124 rn zf9 func329 [0] (qh rfl z7z zg)
def t125:=t124.d zjO
def NN:q9:=Lz [] [Ms 0,Mi 19] ⟨[Mm 4 (.sl u32),Mi 20],[],[]⟩ [⟨.exit 0,⟨[Mm 4 (.sl u32)],[],[]⟩⟩] λp s=>ZU p.1 p.2 s
def zeT:Hints:=Hz [(0,NN)] [(0,1,.ways [⟨.normal,⟨[Mb 17],[],[]⟩⟩])] []
theorem z7c:LO Tryz.f271 NN 0:=lk t125 rn zeT [] zg
theorem zj6:q8 Pz 271 ⟨[.ty .str],[(.sl u32),.bool],λx=>mb x⟩:=wq t125 rn zeT func271 [0] (qh rfl z7c zg)
def t126:=t125.d zj6
def zmc:Hints:=Hz [] [(0,9,.flat [Mb 58]),(3,13,.flat [Ms 14]),(0,17,.flat [Mb 94])] []
theorem zii:q8 Pz 212 ⟨[.ty .str],[zm,i64],λx=>pj x⟩:=wq t126 rn zmc func212 [] zg
def t127:=t126.d zii
def zmA:Hints:=Hz [] [(0,2,.flat [Mb 35]),(3,2,.ways [⟨.normal,⟨[Ms 3,.v (.qj xk),.v (.qj .expr)],[],PF⟩⟩,⟨.hZ (.iface 416 .v8),⟨[Mm 0 uq,.v (.qj xk),.v (.qj .expr)],[],PF⟩⟩])] []
theorem zkA:jB Pz 401 ⟨[.ptr],oo,[],Qv,1,416,th,none,λx=>kB x⟩:=Ko t127 rn zmA func401 [] zg
def t128:=t127.p zkA
def B9:q9:=Lz [] [.s 1 (.wh 197 []),Mi 2,Mi 7] oo [Md] λp s=>yf (λz0=>bU z0) p.2.1 p.2.2 s
def z0r:Hints:=Hz [(0,B9)] [(0,2,.ways [z4p])] []
theorem Si:LO Tryz.f402 B9 0:=lk t128 rn z0r [] zg
theorem P6:xr Pz 402 ⟨[.ptr,.wh 197,.any],⟨[.s 1 (.wh 197 []),Mi 2,.v (.qj xk)],[(0,.ptr 0 0)],Vr⟩,[],z3R,1,λx=>uF (λz0=>bU z0) x.2.1 x.2.2⟩:=ef t128 rn z0r func402 [0] (qh rfl Si zg)
def t129:=t128.s P6
abbrev zaM:=ur.den oo->T (ur.den Qv⊕ur.den th)
abbrev zlL(F:zaM):=jB Pz 392 ⟨[.ptr],oo,[],Qv,1,416,th,none,F⟩
abbrev Wn:=ur.den oo->T (ur.den Qv⊕ur.den th)
abbrev GI(F:Wn):=jB Pz 359 ⟨[.ptr],oo,[],Qv,1,416,th,none,F⟩
def zmz(Jo:zaM)(vC:Wn):Hints:=Hz [] [(3,10,.ways [⟨.normal,z4j⟩,⟨.hZ (.iface 416 .v8),z4f⟩]),(0,14,.ways [⟨.normal,⟨[Mb 46,.v (.qj xk),.v (.qj .expr)],[],PF⟩⟩]),(0,16,.ways [⟨.normal,⟨[Mb 71,.v (.qj xk),.v (.qj .expr)],[],PF⟩⟩])] []
theorem z8q(Jo:zaM)(z0z:zlL Jo)(vC:Wn)(dr:GI vC):jB Pz 392 ⟨[.ptr],oo,[],Qv,1,416,th,none,λx=>ux (λy0=>Jo (y0)) (λy0=>vC (y0)) x⟩:=Ko (((t129.s P6).p dr).p z0z) rn (zmz Jo vC) func392 [] zg
theorem zkw(vC:Wn)(dr:GI vC):jB Pz 392 ⟨[.ptr],oo,[],Qv,1,416,th,none,λx=>vE (λy0=>vC (y0)) x⟩:=MF (λJo x=>ux (λy0=>Jo (y0)) (λy0=>vC (y0)) x) (λx=>rfl) (λJo z0z=>z8q Jo z0z vC dr)
def ze2(vC:Wn)(dr:GI vC):Tb:=t129.p (zkw _ dr)
def OA(vC:Wn):q9:=Lz [] [Ms 2,Mr 7 uq] ⟨[.v (.qj xk),.v (.qj .expr),.v (.qj .expr)],[(0,.ptr 0 0),(1,.wh 1000392 [(0,0)]),(8,.ptr 1 0),(9,.ptr 2 0)],PC⟩ [⟨.ret,z4j⟩,⟨.hZ (.iface 416 .v8),z4f⟩] λp s=>vd (λy0=>vC (y0)) p.1 p.2 s
def zfi(vC:Wn):Hints:=Hz [(0,OA vC)] [] []
theorem z7V(vC:Wn)(dr:GI vC):LO Tryz.f379 (OA vC) 0:=lk (ze2 vC dr) (rz [7]) (zfi vC) [] zg
theorem zks(vC:Wn)(dr:GI vC):jB Pz 379 ⟨[.ptr,.wh 1000392,.any,.any],⟨[.s 1 (.mclo 1000392 [.pt 0]),Ms 2,Mm 3 uq,.v (.qj xk)],[(0,.ptr 0 0)],Vr⟩,[],Qv,1,416,th,none,λx=>wo (λy0=>vC (y0)) x.1 x.2.1 x.2.2.1 x.2.2.2⟩:=Ko (ze2 vC dr) (rz [7]) (zfi vC) func379 [0] (qh rfl (z7V vC dr) zg)
theorem zkt(vC:Wn)(dr:GI vC):jB Pz 380 ⟨[.ptr],oo,[],Qv,1,416,th,none,λx=>vu (λy0=>vC (y0)) x⟩:=Ko (t129.p (zks _ dr)) rn hN func380 [] zg
def Tk(vC:Wn)(dr:GI vC):Tb:=t129.p (zkt _ dr)
def B8(vC:Wn):q9:=Lz [] [Ms 2,Mr 7 uq] ⟨[.v (.qj xk),.v (.qj .expr),.v (.qj .expr)],[(0,.ptr 0 0),(1,.wh 1000380 [(0,0)]),(8,.ptr 1 0),(9,.ptr 2 0)],PC⟩ [⟨.ret,z4j⟩,⟨.hZ (.iface 416 .v8),z4f⟩] λp s=>wW (λy0=>vC (y0)) p.1 p.2 s
def z0q(vC:Wn):Hints:=Hz [(0,B8 vC)] [] []
theorem Sh(vC:Wn)(dr:GI vC):LO Tryz.f379 (B8 vC) 0:=lk (Tk vC dr) (rz [7]) (z0q vC) [] zg
theorem z8p(vC:Wn)(dr:GI vC):jB Pz 379 ⟨[.ptr,.wh 1000380,.any,.any],⟨[.s 1 (.mclo 1000380 [.pt 0]),Ms 2,Mm 3 uq,.v (.qj xk)],[(0,.ptr 0 0)],Vr⟩,[],Qv,1,416,th,none,λx=>wm (λy0=>vC (y0)) x.1 x.2.1 x.2.2.1 x.2.2.2⟩:=Ko (Tk vC dr) (rz [7]) (z0q vC) func379 [0] (qh rfl (Sh vC dr) zg)
theorem z8n(vC:Wn)(dr:GI vC):jB Pz 359 ⟨[.ptr],oo,[],Qv,1,416,th,none,λx=>y6 (λy0=>vC (y0)) x⟩:=Ko (t129.p (z8p _ dr)) rn hN func359 [] zg
theorem zkd:jB Pz 359 ⟨[.ptr],oo,[],Qv,1,416,th,none,λx=>cM x⟩:=MF (λvC x=>y6 (λy0=>vC (y0)) x) (λx=>rfl) (λvC dr=>z8n vC dr)
def t130:=t129.p zkd
theorem zkc:cB (Me Pz) 358 ⟨[.ptr,.ptr,.ptr],⟨[.v (.qj .expr),.v (.qj i64),.v (.qj i64)],[(0,.ptr 0 0),(1,.ptr 1 0),(2,.ptr 2 0)],z3u⟩,[],z3M,0,λx=>gH x.1 x.2.1 x.2.2⟩:=fkr t130 rn hN Tryz.func358
theorem z8m:cB (R1 Pz 416) 358 ⟨[.ptr,.ptr,.ptr,.any],⟨[Mm 3 uq,.v (.qj .expr),.v (.qj i64),.v (.qj i64)],[(0,.ptr 0 0),(1,.ptr 1 0),(2,.ptr 2 0)],z3u⟩,[],z3M,0,λx=>yU x.1 x.2.1 x.2.2.1 x.2.2.2⟩:=fkh t130 rn hN Tryz.func358 3
theorem zjM:xr Pz 326 ⟨[.ptr],oo,[],⟨[Mm 0 .expr,Mi 1,Mi 2,.v (.qj xk)],[],Vr⟩,3,λx=>il x⟩:=fkf t130 rn hN (g:=358) (pt:=416) zkc z8m Tryz.func326
def t131:=t130.s zjM
def zmj:Hints:=Hz [] [(0,5,.ways [⟨.normal,⟨[Mb 31,.v (.qj .expr),.v (.qj xk),.v (.qj .expr)],[],[.var (.qj .expr),.var (.qj xk),.var (.qj .expr)]⟩⟩])] []
theorem zj3:q8 Pz 268 ⟨[.ty .str],[.expr,i64,i64],λx=>rf x⟩:=wq t131 rn zmj func268 [] zg
def t132:=t131.d zj3
theorem zj4:q8 Tryz.prog 269 ⟨[.ty .str,.ty .str],[.bool],λx=>strings_Contains x.1 x.2⟩:=by
 refine jC Tryz.func269 (by kernel_rfl) rfl λO x xb y hy B ha => ?_
 obtain⟨s,sub⟩:=x
 obtain⟨h0,hy⟩:=hy
 cases hy
 obtain⟨v0,r,rfl,Kr,ha⟩:=wN.cons_inv (show wN O [.qj .str s,.qj .str sub] xb from ha)
 obtain⟨v1,r,rfl,IJ,ha⟩:=ha.cons_inv
 rw[ha.wb,Kr.jc,IJ.jc]
 obtain⟨m,hm⟩:=kW B
 refine(Go.Proofs.Tryz.strings_Contains ⟨s.toArray⟩ ⟨sub.toArray⟩ m O.w (by rw[show(zF ⟨s.toArray⟩)=zH s from Y]; exact h0) hm).mono ?_
 rintro e w' ⟨rfl,rfl⟩
 refine⟨Zn _,λ_=>⟨_,rfl,?_⟩⟩
 have e1:Lib.contains s sub=decide ((0:Int)<=Yk s sub):=contains_eq s sub
 show RD _ (.qj .bool (decide ((0:Int)<=Yk s sub))) _
 rw[<- e1]
 exact RD.bool
def t133:=t132.d zj4
def zma:Hints:=Hz [] [(0,6,.ways [⟨.normal,⟨[Mb 34,.v (.qj .expr),.v (.qj .expr)],[],FG⟩⟩]),(3,6,.ways [⟨.normal,⟨[Ms 6,Ms 10,.v (.qj .expr),.v (.qj .expr)],[],FG⟩⟩]),(0,12,.ways [⟨.normal,⟨[Mb 61,.v (.qj .expr),.v (.qj .expr)],[],FG⟩⟩]),(3,11,.ways [⟨.normal,⟨[Mi 7,.v (.qj .expr),.v (.qj .expr)],[],FG⟩⟩])] []
theorem zig:q8 Pz 210 ⟨[.ty .str,.ty .str],[.expr,.expr,.str,i64],λx=>dA x.1 x.2⟩:=wq t133 rn zma func210 [] zg
def t134:=t133.d zig
def zmd:Hints:=Hz [] [(0,1,.flat [Mb 8])] []
theorem zij:q8 Pz 213 ⟨[.ty (.sl .str),.ty i64,.ty i64,.ty .str],[.bool],λx=>nw x.1 x.2.1 x.2.2.1 x.2.2.2⟩:=wq t134 rn zmd func213 [] zg
def t136:=t134.d zij
def zmb:Hints:=Hz [] [(0,3,.ways [⟨.normal,⟨[Mb 11],[],[]⟩⟩])] []
theorem zih:q8 Pz 211 ⟨[.ty (.sl .str),.ty i64],[.str,.bool],λx=>nu x.1 x.2⟩:=wq t136 rn zmb func211 [] zg
def t137:=t136.d zih
def zbc:Hints:=Hz [] [(0,1,.ways [⟨.normal,⟨[Mb 29,.v Vs,.a qs,.a qf,.a xp,.a qv,.a xl,.a xj],[],Hi⟩⟩])] []
theorem OT:xr Pz 155 ⟨Qf,zal,[],z4e,1,λx=>bg x.1 x.2.1 x.2.2.1 x.2.2.2.1 x.2.2.2.2.1 x.2.2.2.2.2.1 x.2.2.2.2.2.2.1 x.2.2.2.2.2.2.2.1 x.2.2.2.2.2.2.2.2⟩:=ef t137 rn zbc func155 [] zg
def t152:=t137.s OT
def zbd:Hints:=Hz [] [(0,1,.ways [⟨.normal,⟨[Mb 31,.v Vs,.a qs,.a qf,.a xp,.a qv,.a xl,.a xj],[],Hi⟩⟩])] []
theorem OU:xr Pz 156 ⟨Qf,zal,[],z4e,1,λx=>cd x.1 x.2.1 x.2.2.1 x.2.2.2.1 x.2.2.2.2.1 x.2.2.2.2.2.1 x.2.2.2.2.2.2.1 x.2.2.2.2.2.2.2.1 x.2.2.2.2.2.2.2.2⟩:=ef t152 rn zbd func156 [] zg
def t153:=t152.s OU
def zbe:Hints:=Hz [] [(0,1,.ways [⟨.normal,⟨[Mb 26,.v Vs,.a qs,.a qf,.a xp,.a qv,.a xl,.a xj],[],Hi⟩⟩])] []
theorem OV:xr Pz 157 ⟨lD,PN,[],PT,1,λx=>c8 x.1 x.2.1 x.2.2.1 x.2.2.2.1 x.2.2.2.2.1 x.2.2.2.2.2.1 x.2.2.2.2.2.2.1 x.2.2.2.2.2.2.2⟩:=ef t153 rn zbe func157 [] zg
def t154:=t153.s OV
def zbf:Hints:=Hz [] [(0,1,.ways [zar])] []
theorem OW:xr Pz 158 ⟨lD,PN,[],PT,1,λx=>cP x.1 x.2.1 x.2.2.1 x.2.2.2.1 x.2.2.2.2.1 x.2.2.2.2.2.1 x.2.2.2.2.2.2.1 x.2.2.2.2.2.2.2⟩:=ef t154 rn zbf func158 [] zg
def t155:=t154.s OW
def zbg:Hints:=Hz [] [(0,1,.ways [zar])] []
theorem OX:xr Pz 159 ⟨lD,PN,[],PT,1,λx=>ca x.1 x.2.1 x.2.2.1 x.2.2.2.1 x.2.2.2.2.1 x.2.2.2.2.2.1 x.2.2.2.2.2.2.1 x.2.2.2.2.2.2.2⟩:=ef t155 rn zbg func159 [] zg
def t156:=t155.s OX
def zm1:Hints:=Hz [] [(0,1,.ways [⟨.normal,⟨[Mb 23,.v Vs,.a qs,.a qf,.a xp,.a qv,.a xl,.a xj],[],Hi⟩⟩]),(0,5,.flat [Mb 44]),(3,5,.ways [zap]),(0,8,.ways [⟨.normal,⟨[Mb 68,.v Vs,.a qs,.a qf,.a xp,.a qv,.a xl,.a xj,.v (.qj qv)],[],[.var Vs,.arr qs,.arr qf,.arr xp,.arr qv,.arr xl,.arr xj,.var (.qj qv)]⟩⟩]),(3,8,.ways [zap])] []
theorem zhF:xr Pz 160 ⟨lD,PN,[],PT,1,λx=>cQ x.1 x.2.1 x.2.2.1 x.2.2.2.1 x.2.2.2.2.1 x.2.2.2.2.2.1 x.2.2.2.2.2.2.1 x.2.2.2.2.2.2.2⟩:=ef t156 rn zm1 func160 [] zg
def t157:=t156.s zhF
def h94:Hints:=Hz [] [(0,3,.flat [Mb 36]),(0,7,.flat [Mb 41]),(0,9,.flat [Mb 53])] []
theorem zoP:xr Pz 94 ⟨lD,⟨[Ms 1,.v Vs,.a qs,.a qf,.a xp,.a qv,.a xl,.a xj],[(0,.ptr 0 0)],Hi⟩,[],z4e,1,λx=>p7 x.1 x.2.1 x.2.2.1 x.2.2.2.1 x.2.2.2.2.1 x.2.2.2.2.2.1 x.2.2.2.2.2.2.1 x.2.2.2.2.2.2.2⟩:=ef (((((t157.s OX).s OW).s OV).s OU).s OT) rn h94 func94 [] zg
def t158:=t157.s zoP
def z1D:q9:=Lz [.cell 0 5 xj,.cell 1 5 xj,.cell 0 4 xl,.cell 1 4 xl,.cell 0 0 qs,.cell 1 0 qs,.cell 0 1 qf,.cell 1 1 qf,.cell 0 2 xp,.cell 1 2 xp,.cell 0 3 qv,.cell 1 3 qv] [Mm 14 (.sl .str),Mi 15] ⟨[Mi 16,.v z3z,.v FJ,.a xj,.a xj,.a xl,.a xl,.a qs,.a qs,.a qf,.a qf,.a xp,.a xp,.a qv,.a qv],[(2,.ptr 0 0),(5,.ptr 1 0)],zag⟩ [⟨.exit 0,⟨[.v z3z,.v FJ,.a xj,.a xj,.a xl,.a xl,.a qs,.a qs,.a qf,.a qf,.a xp,.a xp,.a qv,.a qv],[],zag⟩⟩,⟨.ret,⟨[Mi 3,Mi 4,.v (.qj qy),.v FJ,.a xj,.a xj,.a xl,.a xl,.a qs,.a qs,.a qf,.a qf,.a xp,.a xp,.a qv,.a qv],[],[.var (.qj qy),.var FJ,.arr xj,.arr xj,.arr xl,.arr xl,.arr qs,.arr qs,.arr qf,.arr qf,.arr xp,.arr xp,.arr qv,.arr qv]⟩⟩] λp s=>iW p.1 p.2 s
def h39:Hints:=Hz [(0,z1D)] [] []
theorem zci:LO Tryz.f39 z1D 0:=lk t158 rn h39 [] zg
theorem zo5:q8 Pz 39 ⟨[.ty .str],[qy,i64,i64],λx=>nt x⟩:=wq t158 rn h39 func39 [0] (qh rfl zci zg)
def t159:=t158.d zo5
theorem znS:q8 Pz 22 ⟨[.ty qy],[qy],λx=>ZB x⟩:=wq t159 (rz [1]) hN func22 [] zg
def t160:=t159.d znS
def h42:Hints:=Hz [] [(3,2,.flat [Mm 3 (.int .u64)])] []
theorem zo8:q8 Pz 42 ⟨[.ty i64],[zm],λx=>yW x⟩:=wq t160 rn h42 func42 [] zg
def t161:=t160.d zo8
def zm2:Hints:=Hz [] [(0,2,.flat [Mb 4])] []
theorem zhK:q8 Pz 165 ⟨[.ty qy,.ty xf],[.bool],λx=>QT x.1 x.2⟩:=wq t161 (rz [2,3]) zm2 func165 [] zg
def t162:=t161.d zhK
theorem zim:q8 Pz 216 ⟨[.ty zm],[.bool],λx=>bT x⟩:=wq t162 (rz [1]) hN func216 [] zg
def t163:=t162.d zim
def ND:q9:=Lz [] [Mm 0 (.sl zm),.s 1 (.wh 216 []),Mi 7] cU [kN,og] λp s=>yR p.1 (λz0=>bT z0) p.2.2 s
def zeJ:Hints:=Hz [(0,ND)] [] []
theorem z6W:LO Tryz.f227 ND 0:=lk t163 rn zeJ [] zg
theorem ziy:q8 Pz 227 ⟨[.ty (.sl zm),.wh 216 []],[i64],λx=>kS x.1 (λz0=>bT z0)⟩:=wq t163 rn zeJ func227 [0] (qh rfl z6W zg)
def t164:=t163.d ziy
theorem zhQ:q8 Pz 172 ⟨[.ty (.sl zm),.wh 216 []],[.bool],λx=>vx x.1 (λz0=>bT z0)⟩:=wq t164 rn hN func172 [] zg
def t165:=t164.d zhQ
def NM:q9:=Lz [.slot 3 .str] [Mm 7 (.sl qv),Mi 8] ⟨[Mi 9,.a .str],[(3,.cur 0 .str)],nD⟩ [⟨.exit 0,GA⟩] λp s=>rb p.1 p.2 s
def zeS:Hints:=Hz [(0,NM)] [] []
theorem z7b:LO Tryz.f248 NM 0:=lk t165 (rz [1]) zeS [] zg
theorem ziT:q8 Pz 248 ⟨[.ty qy],[(.sl .str)],λx=>sH x⟩:=wq t165 (rz [1]) zeS func248 [0] (qh rfl z7b zg)
def t166:=t165.d ziT
def h59:Hints:=Hz [] [(0,1,.H6)] []
theorem zom:q8 Pz 59 ⟨[.ty (.sl zm)],[(.sl zm)],λx=>bh x⟩:=wq t166 rn h59 func59 [] zg
def t167:=t166.d zom
def Nr:q9:=Lz [.cell 0 0 .str,.cell 0 1 .str,.cell 1 1 .str] [Mm 14 (.sl qf),Mi 15] ⟨[Mi 16,.v z3C,.v z3B,.a .str,.a .str,.a .str],[(4,.ptr 0 0),(5,.ptr 1 0)],z3p⟩ [⟨.exit 0,⟨[.v z3C,.v z3B,.a .str,.a .str,.a .str],[],z3p⟩⟩] λp s=>QW p.1 p.2 s
def zeD:Hints:=Hz [(0,Nr)] [] []
theorem z6L:LO Tryz.f184 Nr 0:=lk t167 (rz [2]) zeD [] zg
theorem zi2:q8 Pz 184 ⟨[.ty qy,.ty (.sl zm)],[wJ],λx=>r8 x.1 x.2⟩:=wq t167 (rz [2]) zeD func184 [0] (qh rfl z6L zg)
def t168:=t167.d zi2
theorem zjc:q8 Pz 278 ⟨[.ty qs,.rp .str],[.bool],λx=>dK x.1 x.2⟩:=wq t168 (rz [2]) hN func278 [] zg
def t169:=t168.d zjc
def HU:q9:=Lz [] [Mm 0 (.sl qs),.s 1 (.wh 278 [.rp .str]),Mi 7] cU [kN,og] λp s=>wY p.1 (λz0=>dK z0 p.2.1) p.2.2 s
def z0c:Hints:=Hz [(0,HU)] [] []
theorem S2:LO Tryz.f100 HU 0:=lk t169 rn z0c [] zg
theorem OM:q8 Pz 100 ⟨[.ty (.sl qs),.wh 278 [.rp .str]],[i64],λx=>wa x.1 (λz0=>dK z0 x.2)⟩:=wq t169 rn z0c func100 [0] (qh rfl S2 zg)
def t170:=t169.d OM
def zmf:Hints:=Hz [] [(0,2,.flat [Mb 6])] []
theorem zin:q8 Pz 217 ⟨[.ty qy,.ty (.sl .bool),.ty .str],[.bool],λx=>XN x.1 x.2.1 x.2.2⟩:=wq (t170.d OM) (rz [3,5]) zmf func217 [] zg
def t171:=t170.d zin
def zmt:Hints:=Hz [] [(0,1,.flat [Mb 12])] []
theorem zk5:q8 Pz 346 ⟨[.ty (.sl zm),.ty i64],[zm],λx=>lG x.1 x.2⟩:=wq t171 rn zmt func346 [] zg
def t172:=t171.d zk5
theorem zkj:q8 Pz 367 ⟨[.ty .str,.ty wJ],[zt,i64],λx=>XG x.1 x.2⟩:=wq t172 (rz [3]) hN func367 [] zg
def t173:=t172.d zkj
theorem zjV:q8 Pz 336 ⟨[.ty zm,.ty zm],[zm],λx=>oR x.1 x.2⟩:=wq t173 rn hN func336 [] zg
def t174:=t173.d zjV
theorem ziA:q8 Pz 229 ⟨[.ty zm],[.bool],λx=>iL x⟩:=wq t174 (rz [1]) hN func229 [] zg
def t175:=t174.d ziA
def NV:q9:=Lz [.cell 0 1 qk,.cell 1 1 qk] [Mr 3 zm,Mm 17 (.sl qk),Mi 18] ⟨[Mi 19,.v BL,.v BM,.a qk,.a qk],[(4,.ptr 0 0),(5,.ptr 1 0)],z3w⟩ [z4q] λp s=>Zj p.1 p.2.1 p.2.2 s
def zeZ:Hints:=Hz [(0,NV)] [] []
theorem z7k:LO Tryz.f281 NV 0:=lk t175 (rz [2,3]) zeZ [] zg
theorem zjf:q8 Pz 281 ⟨[.ty zt,.ty zm],[zt],λx=>dF x.1 x.2⟩:=wq t175 (rz [2,3]) zeZ func281 [0] (qh rfl z7k zg)
def t176:=t175.d zjf
def On:q9:=Lz [] [Mm 1 (.sl u32),Mm 22 (.sl u32),Mi 23] ⟨[Mm 7 u32,Mi 24,.a u32],[(6,.cur 0 u32)],fD⟩ [⟨.exit 0,⟨[.a u32],[(6,.cur 0 u32)],fD⟩⟩] λp s=>Va p.1 p.2.1 p.2.2 s
def zfg:Hints:=Hz [(0,On)] [(3,10,.flat [Mm 10 u32])] [(14,[6])]
theorem z7M:LO Tryz.f369 On 0:=lk t176 rn zfg [] zg
theorem zkl:q8 Pz 369 ⟨[.ty (.sl u32),.ty (.sl u32)],[(.sl u32),.bool],λx=>Ud x.1 x.2⟩:=wq t176 rn zfg func369 [0] (qh rfl z7M zg)
def t177:=t176.d zkl
theorem zjU:q8 Pz 335 ⟨[.ty zm,.ty zm],[zm],λx=>oQ x.1 x.2⟩:=wq t177 rn hN func335 [] zg
def t178:=t177.d zjU
def NU:q9:=Lz [.cell 0 1 qk,.cell 1 1 qk] [] ⟨[Mm 6 (.sl qk),Mm 7 (.sl qk),.v BL,.v BM,.a qk,.a qk],[(4,.ptr 0 0),(5,.ptr 1 0)],z3w⟩ [z4q] λp s=>WM  s
def zeY:Hints:=Hz [(0,NU)] [(0,6,.flat [Mb 46]),(0,8,.flat [Mb 78]),(2,6,.ways [⟨.normal,⟨[Mm 6 (.sl qk),Mm 7 (.sl qk),.v BL,.v BM,.a qk,.a qk,.v (.qj qk)],[],[.var BL,.var BM,.arr qk,.arr qk,.var (.qj qk)]⟩⟩])] []
theorem z7j:LO Tryz.f280 NU 0:=lk t178 (rz [2,3]) zeY [] zg
theorem zje:q8 Pz 280 ⟨[.ty zt,.ty zt],[zt],λx=>XE x.1 x.2⟩:=wq t178 (rz [2,3]) zeY func280 [0] (qh rfl z7j zg)
def t179:=t178.d zje
theorem zk2:q8 Pz 343 ⟨[.ty zm,.ty zm],[zm,.bool],λx=>sU x.1 x.2⟩:=wq t179 (rz [2]) hN func343 [] zg
def t180:=t179.d zk2
def zmv:Hints:=Hz [] [(0,7,.flat [Mb 34])] []
theorem zkk:q8 Pz 368 ⟨[.ty i64,.ty zt,.ty zt],[zt,i64],λx=>Zk x.1 x.2.1 x.2.2⟩:=wq t180 (rz [4,5]) zmv func368 [] zg
def t181:=t180.d zkk
abbrev ze4:=dT [.ty .expr,.ty wJ]->T (Dj [zt,i64])
abbrev zlK(F:ze4):=q8 Pz 334 ⟨[.ty .expr,.ty wJ],[zt,i64],F⟩
theorem z8k(Hm:ze4)(z0y:zlK Hm):q8 Pz 334 ⟨[.ty .expr,.ty wJ],[zt,i64],λx=>dG (λy0 y1=>Hm (y0,y1)) x.1 x.2⟩:=wq (t181.d z0y) (rz [2,3]) hN func334 [] zg
theorem zjT:q8 Pz 334 ⟨[.ty .expr,.ty wJ],[zt,i64],λx=>Kh x.1 x.2⟩:=Yd (λHm x=>dG (λy0 y1=>Hm (y0,y1)) x.1 x.2) (λx=>rfl) (λHm z0y=>z8k Hm z0y)
def t182:=t181.d zjT
theorem zjd:q8 Pz 279 ⟨[.ty .expr,.ty wJ],[zt,i64],λx=>KO x.1 x.2⟩:=wq t182 (rz [2,3]) hN func279 [] zg
def t183:=t182.d zjd
theorem zio:q8 Pz 218 ⟨[.ty xl,.ty wJ],[zt,i64],λx=>Zz x.1 x.2⟩:=wq t183 (rz [2,3]) hN func218 [] zg
def t184:=t183.d zio
theorem zjh:q8 Pz 283 ⟨[.ty qk],[.bool],λx=>gS x⟩:=wq t184 (rz [1]) hN func283 [] zg
def t185:=t184.d zjh
def Od:q9:=Lz [] [Mm 0 (.sl qk),.s 1 (.wh 283 []),Mi 7] cU [kN,og] λp s=>yl p.1 (λz0=>gS z0) p.2.2 s
def zfa:Hints:=Hz [(0,Od)] [] []
theorem z7C:LO Tryz.f337 Od 0:=lk t185 rn zfa [] zg
theorem zjW:q8 Pz 337 ⟨[.ty (.sl qk),.wh 283 []],[i64],λx=>kt x.1 (λz0=>gS z0)⟩:=wq t185 rn zfa func337 [0] (qh rfl z7C zg)
def t186:=t185.d zjW
theorem zjg:q8 Pz 282 ⟨[.ty (.sl qk),.wh 283 []],[.bool],λx=>vZ x.1 (λz0=>gS z0)⟩:=wq t186 rn hN func282 [] zg
def t187:=t186.d zjg
theorem ziq:q8 Pz 219 ⟨[.ty zt],[.bool],λx=>Zy x⟩:=wq t187 (rz [1]) hN func219 [] zg
def t188:=t187.d ziq
def Nl:q9:=Lz [.cell 1 0 zt,.cell 1 1 i64] [Mm 2 (.sl .bool),Mr 3 qy,Mm 52 (.sl xl),Mi 53] ⟨[Mi 54,.v Df,.v PK,.v (.qj wJ),.a zt,.a i64],[(6,.ptr 0 0),(11,.ptr 1 0),(12,.ptr 2 0)],PA⟩ [⟨.exit 0,z3G⟩,zaq] λp s=>fY p.1 p.2.1 p.2.2.1 p.2.2.2 s
def Nn:q9:=Lz [] [Mr 3 qy,Mi 92] ⟨[Mi 93,.v Df,.v PK,.v (.qj wJ),.a zt,.a i64],[(6,.ptr 0 0),(11,.ptr 1 0),(91,.cur 3 zt)],PA⟩ [⟨.exit 2,z3G⟩,zaq] λp s=>fZ p.1 p.2 s
def zbh:Hints:=Hz [(0,Nl),(2,Nn)] [(0,4,.ways [⟨.normal,⟨[Mb 46,.v Df],[],[.var Df]⟩⟩])] []
theorem z6G:LO Tryz.f166 Nl 0:=lk t188 (rz [3]) zbh [] zg
theorem z6H:LO Tryz.f166 Nn 2:=lk t188 (rz [3]) zbh [] zg
theorem zhL:xr Pz 166 ⟨[.any,.any,.any],⟨[Mm 0 qy,Mm 1 (.sl zm),Mm 2 (.sl .bool)],[],[]⟩,[],⟨[.s 0 (.st [.row 0 zt,.row 1 i64]),Ms 1,Mi 2,.a zt,.a i64],[],[.arr zt,.arr i64]⟩,3,λx=>mT x.1 x.2.1 x.2.2⟩:=ef t188 (rz [3]) zbh func166 [0,2] (qh rfl z6G (qh rfl z6H zg))
def t189:=t188.s zhL
def zmk:Hints:=Hz [] [(0,1,.ways [⟨.normal,z3K⟩])] []
theorem zjw:q8 Pz 298 ⟨[.ty .bool,.ty zm],[zm],λx=>Vh x.1 x.2⟩:=wq t189 rn zmk func298 [] zg
def t190:=t189.d zjw
theorem ziE:q8 Pz 233 ⟨[.ty zm],[zm],λx=>Q3 x⟩:=wq t190 rn hN func233 [] zg
def t191:=t190.d ziE
theorem zhY:q8 Pz 180 ⟨[.ty i64,.ty zm],[zt],λx=>C8 x.1 x.2⟩:=wq t191 (rz [3]) hN func180 [] zg
def t192:=t191.d zhY
theorem zgZ:xr Pz 107 ⟨[.ptr,.any,.any,.any],⟨[Mi 1,Mm 2 zm,Mi 3,.v Kg,.a zt,.a i64,.a i64],[(0,.ptr 0 0)],UL⟩,[],z4k,0,λx=>kP x.1 x.2.1 x.2.2.1 x.2.2.2.1 x.2.2.2.2.1 x.2.2.2.2.2.1 x.2.2.2.2.2.2⟩:=ef t192 (rz [6]) hN func107 [] zg
def t193:=t192.s zgZ
def z1S:q9:=Lz [.cell 3 7 i64] [Mr 3 xf,Mi 53] ⟨[Mi 54,.a zt,.a i64,.v Dg,.v z90,.a i64],[(10,.ptr 3 0),(52,.cur 1 i64)],z3t⟩ [⟨.exit 1,z3H⟩] λp s=>pW p.1 p.2 s
def z1T:q9:=Lz [] [Mm 74 (.sl zn),Mi 75] ⟨[Mi 76,.a zt,.a i64,.v Dg,.v z90,.a i64],[(10,.ptr 3 0)],z3t⟩ [⟨.exit 3,z3H⟩] λp s=>pX p.1 p.2 s
def h97:Hints:=Hz [(1,z1S),(3,z1T)] [(0,4,.flat [Mb 30]),(3,19,.flat [Mi 15])] []
theorem zcx:LO Tryz.f97 z1S 1:=lk t193 (rz [2,3]) h97 [] zg
theorem zcy:LO Tryz.f97 z1T 3:=lk t193 (rz [2,3]) h97 [] zg
theorem zkG:jB Pz 97 ⟨Gw,z3S,[],⟨[Mi 2,.v Kg,.a zt,.a i64,.a i64],[(0,.ptr 0 0),(1,.wE)],UL⟩,3,0,⟨[.s 1 (.tight .str),Mi 2],[(0,.gU)],[]⟩,some 3,λx=>cZ x.1 x.2⟩:=Ko t193 (rz [2,3]) h97 func97 [1,3] (qh rfl zcx (qh rfl zcy zg))
def t194:=t193.p zkG
def Nx:q9:=Lz [] [Mi 1,Mm 23 (.sl qk),Mi 24] ⟨[Mi 5,Mi 25],[],[]⟩ [kN,FP] λp s=>pe p.1 p.2.1 p.2.2 s
def zeI:Hints:=Hz [(0,Nx)] [(0,1,.ways [⟨.normal,⟨[Mb 21],[],[]⟩⟩]),(0,7,.ways [⟨.normal,⟨[Mb 51,.v (.qj qk)],[],[.var (.qj qk)]⟩⟩])] []
theorem z6Q:LO Tryz.f222 Nx 0:=lk t194 (rz [2]) zeI [] zg
theorem zit:q8 Pz 222 ⟨[.ty zt,.ty i64],[.bool],λx=>cW x.1 x.2⟩:=wq t194 (rz [2]) zeI func222 [0] (qh rfl z6Q zg)
def t195:=t194.d zit
theorem zis:q8 Pz 221 ⟨[.ty zt,.rp i64],[.bool],λx=>yS x.1 x.2⟩:=wq t195 (rz [2]) hN func221 [] zg
def t196:=t195.d zis
def NW:q9:=Lz [] [Mm 0 (.sl zt),.s 1 (.wh 221 [.rp i64]),Mi 7] cU [kN,og] λp s=>dB p.1 (λz0=>yS z0 p.2.1) p.2.2 s
def zf0:Hints:=Hz [(0,NW)] [] []
theorem z7l:LO Tryz.f284 NW 0:=lk t196 rn zf0 [] zg
theorem zji:q8 Pz 284 ⟨[.ty (.sl zt),.wh 221 [.rp i64]],[i64],λx=>bC x.1 (λz0=>yS z0 x.2)⟩:=wq t196 rn zf0 func284 [0] (qh rfl z7l zg)
def t197:=t196.d zji
theorem zir:q8 Pz 220 ⟨[.ty (.sl zt),.wh 221 [.rp i64]],[.bool],λx=>yQ x.1 (λz0=>yS z0 x.2)⟩:=wq t197 rn hN func220 [] zg
def t198:=t197.d zir
def Oo:q9:=Lz [] [] z3I [⟨.exit 0,⟨[Mi 1,.a i64],[],jQ⟩⟩] λp s=>cD  s
def zfh:Hints:=Hz [(0,Oo)] [] []
theorem z7N:LO Tryz.f370 Oo 0:=lk t198 rn zfh [] zg
theorem zkm:xr Pz 370 ⟨[.sub,.any],z3I,[],⟨[Mi 0,.a i64],[],jQ⟩,1,λx=>yK x.1 x.2.1 x.2.2⟩:=ef t198 rn zfh func370 [0] (qh rfl z7N zg)
def t199:=t198.s zkm
theorem zjX:xr Pz 338 ⟨[.sub,.any,.any],⟨[.s 0 (.sub 0 i64),Mi 1,Mi 2,.a i64],[],jQ⟩,[],⟨[Mb 0,.a i64],[],jQ⟩,1,λx=>ba x.1 x.2.1 x.2.2.1 x.2.2.2⟩:=ef t199 rn hN func338 [] zg
def t200:=t199.s zjX
def NX:q9:=Lz [] [Mm 0 (.sl zt),Mi 1,Mi 18] ⟨[Mi 19,.a i64],[(6,.cur 0 i64)],jQ⟩ [⟨.exit 0,⟨[.a i64],[(6,.cur 0 i64)],jQ⟩⟩] λp s=>nS p.1 p.2.1 p.2.2 s
def NZ:q9:=Lz [] [Mi 1,Mi 9,Mm 27 (.sl zt),Mi 28,Mi 29] ⟨[Mi 8,Mi 11,.a i64,.v (.qj zt)],[(6,.cur 0 i64),(10,.ptr 1 0)],M1⟩ [⟨.exit 4,⟨[Mi 8,.a i64,.v (.qj zt)],[(6,.cur 0 i64)],M1⟩⟩] λp s=>eG p.1 p.2.1 p.2.2.1 p.2.2.2.1 p.2.2.2.2 s
def NY:q9:=Lz [] [Mi 1,Mm 27 (.sl zt),Mi 28] ⟨[Mi 8,Mi 29,.a i64],[(6,.cur 0 i64)],jQ⟩ [⟨.exit 2,⟨[Mi 8,.a i64],[(6,.cur 0 i64)],jQ⟩⟩] λp s=>nT p.1 p.2.1 p.2.2 s
def z5z:Hints:=Hz [(0,NX),(4,NZ),(2,NY)] [(0,16,.ways [⟨.normal,⟨[Mb 62,.a i64,.v (.qj zt)],[(6,.cur 0 i64)],M1⟩⟩])] []
theorem z7m:LO Tryz.f285 NX 0:=lk t200 rn z5z [] zg
theorem z7o:LO Tryz.f285 NZ 4:=lk t200 rn z5z [] zg
theorem z7n:LO Tryz.f285 NY 2:=lk t200 rn z5z [4] (qh rfl z7o zg)
theorem zjj:q8 Pz 285 ⟨[.ty (.sl zt),.ty i64],[(.sl i64),i64],λx=>ZJ x.1 x.2⟩:=wq t200 rn z5z func285 [0,2] (qh rfl z7m (qh rfl z7n zg))
def t201:=t200.d zjj
theorem ziu:q8 Pz 223 ⟨[.ty (.sl zt),.ty i64],[i64],λx=>mY x.1 x.2⟩:=wq t201 rn hN func223 [] zg
def t202:=t201.d ziu
def h61:Hints:=Hz [] [(0,1,.H6)] []
theorem zcL:xr Pz 61 ⟨[.any],⟨[Mm 0 (.sl i64)],[],[]⟩,[],M8,1,λx=>uR x⟩:=ef t202 rn h61 func61 [] zg
def t203:=t202.s zcL
theorem zkp:q8 Pz 374 ⟨[.ty (.int .u64),.ty (.int .u64)],[(.int .u64),(.int .u64)],λx=>nW x.1 x.2⟩:=wq t203 rn hN func374 [] zg
def t204:=t203.d zkp
theorem zk3:q8 Pz 344 ⟨[.ty (.int .u64),.ty (.int .u64)],[(.int .u64),(.int .u64)],λx=>mJ x.1 x.2⟩:=wq t204 rn hN func344 [] zg
def t205:=t204.d zk3
def O5:q9:=Lz [] [] ⟨[Mi 8,.a i64],[(7,.cur 0 i64)],jQ⟩ [⟨.exit 0,⟨[.a i64],[(7,.cur 0 i64)],jQ⟩⟩] λp s=>gu  s
def zf4:Hints:=Hz [(0,O5)] [(0,4,.flat [Mb 26])] []
theorem z7u:LO Tryz.f293 O5 0:=lk t205 rn zf4 [] zg
theorem zjr:xr Pz 293 ⟨Gw,⟨[Mm 0 (.sl i64),Mi 1],[],[]⟩,[],M8,1,λx=>yp x.1 x.2⟩:=ef t205 rn zf4 func293 [0] (qh rfl z7u zg)
def t206:=t205.s zjr
theorem zk4:q8 Pz 345 ⟨[.ty qk,.rp i64],[.bool],λx=>bQ x.1 x.2⟩:=wq t206 (rz [2]) hN func345 [] zg
def t207:=t206.d zk4
def B6:q9:=Lz [] [Mm 0 (.sl qk),.s 1 (.wh 345 [.rp i64]),Mi 7] cU [kN,og] λp s=>yl p.1 (λz0=>bQ z0 p.2.1) p.2.2 s
def z0o:Hints:=Hz [(0,B6)] [] []
theorem Se:LO Tryz.f337 B6 0:=lk t207 rn z0o [] zg
theorem P4:q8 Pz 337 ⟨[.ty (.sl qk),.wh 345 [.rp i64]],[i64],λx=>kt x.1 (λz0=>bQ z0 x.2)⟩:=wq t207 rn z0o func337 [0] (qh rfl Se zg)
def t208:=t207.d P4
theorem P1:q8 Pz 282 ⟨[.ty (.sl qk),.wh 345 [.rp i64]],[.bool],λx=>vZ x.1 (λz0=>bQ z0 x.2)⟩:=wq (t208.d P4) rn hN func282 [] zg
def t209:=t208.d P1
theorem zjs:q8 Pz 294 ⟨[.ty zt,.ty i64],[.bool],λx=>XJ x.1 x.2⟩:=wq (t209.d P1) (rz [2,3]) hN func294 [] zg
def t210:=t209.d zjs
theorem zjt:q8 Pz 295 ⟨[.ty (.sl zt),.ty i64],[.bool],λx=>oG x.1 x.2⟩:=wq t210 rn hN func295 [] zg
def t211:=t210.d zjt
def NG:q9:=Lz [] [Mm 0 (.sl zt),Mm 1 (.sl i64),Mi 2,Mm 38 (.sl zt),Mi 39] ⟨[Mi 40,.a i64,.a i64,.v BO],[(8,.ptr 2 0)],LZ⟩ [⟨.exit 0,⟨[.a i64,.a i64,.v BO],[],LZ⟩⟩,⟨.ret,⟨[Mb 7,.a i64,.a i64,.v BO],[(6,.gU)],LZ⟩⟩] λp s=>fN p.1 p.2.1 p.2.2.1 p.2.2.2.1 p.2.2.2.2 s
def zeM:Hints:=Hz [(0,NG)] [(0,1,.flat [Mb 29]),(0,11,.ways [⟨.normal,⟨[Mb 68,.a i64,.a i64,.v BO,.v (.qj zt)],[],[.arr i64,.arr i64,.var BO,.var (.qj zt)]⟩⟩])] []
theorem z6Y:LO Tryz.f230 NG 0:=lk t211 rn zeM [] zg
theorem ziB:jB Pz 230 ⟨[.any,.any,.any],⟨[Mm 0 (.sl zt),Mm 1 (.sl i64),Mi 2],[],[]⟩,[],⟨[Mb 1,.v sx,.a i64,.a i64],[(0,.ptr 0 0)],UK⟩,2,0,⟨[Mb 1],[(0,.gU)],[]⟩,some 2,λx=>bn x.1 x.2.1 x.2.2⟩:=Ko t211 rn zeM func230 [0] (qh rfl z6Y zg)
def t212:=t211.p ziB
def zfo:Hints:=Hz [] [(0,1,.H6)] []
theorem z2q:q8 Pz 61 ⟨[.ty (.sl i64)],[(.sl i64)],λx=>y7 x⟩:=wq t212 rn zfo func61 [] zg
def t213:=t212.d z2q
theorem zjZ:q8 Pz 340 ⟨[.ty i64],[.bool],λx=>cmp_isNaN_int x⟩:=wq t213 rn hN func340 [] zg
def t214:=t213.d zjZ
theorem zjm:q8 Pz 288 ⟨[.ty i64,.ty i64],[i64],λx=>cmp_Compare_int x.1 x.2⟩:=wq t214 rn hN func288 [] zg
def t215:=t214.d zjm
theorem zjl:q8 Pz 287 ⟨[.ty i64,.ty i64,.rp (.sl zt)],[i64],λx=>wu x.1 x.2.1 x.2.2⟩:=wq t215 rn hN func287 [] zg
def t216:=t215.d zjl
def Ot:q9:=Lz [] [Mi 1,Mi 2,.s 3 (.wh 287 [.rp (.sl zt)]),Mi 8] ⟨[.s 0 (.sub 0 i64),Mi 9,.a i64],[],jQ⟩ [⟨.exit 2,z4m⟩] λp s=>uK p.1 p.2.1 (λz0 z1=>wu z0 z1 p.2.2.1) p.2.2.2 s
def Oq:q9:=Lz [] [Mi 1,Mi 2,.s 3 (.wh 287 [.rp (.sl zt)])] ⟨[.s 0 (.sub 0 i64),Mi 8,.a i64],[],jQ⟩ [⟨.exit 0,tk⟩] λp s=>uJ p.1 p.2.1 (λz0 z1=>wu z0 z1 p.2.2) s
def zbn:Hints:=Hz [(2,Ot),(0,Oq)] [(0,4,.ways [⟨.normal,⟨[.s 0 (.sub 0 i64),Mb 34,.a i64],[],jQ⟩⟩])] []
theorem z7P:LO Tryz.f371 Ot 2:=lk t216 rn zbn [] zg
theorem z7O:LO Tryz.f371 Oq 0:=lk t216 rn zbn [2] (qh rfl z7P zg)
theorem zkn:xr Pz 371 ⟨[.sub,.any,.any,.wh 287],⟨[.s 0 (.sub 0 i64),Mi 1,Mi 2,.s 3 (.wh 287 [.rp (.sl zt)]),.a i64],[],jQ⟩,[],tk,0,λx=>va x.1 x.2.1 x.2.2.1 (λz0 z1=>wu z0 z1 x.2.2.2.1) x.2.2.2.2⟩:=ef t216 rn zbn func371 [0] (qh rfl z7O zg)
def t217:=t216.s zkn
def OC:q9:=Lz [] [Mi 1,Mi 2,Mi 3] z4i [⟨.exit 0,tk⟩] λp s=>jt p.1 p.2.1 p.2.2 s
def zfk:Hints:=Hz [(0,OC)] [] []
theorem z7X:LO Tryz.f394 OC 0:=lk t217 rn zfk [] zg
theorem zkx:xr Pz 394 ⟨[.sub,.any,.any,.any,.wh 287],BP,[],tk,0,λx=>wZ x.1 x.2.1 x.2.2.1 x.2.2.2.1 (λz0 z1=>wu z0 z1 x.2.2.2.2.1) x.2.2.2.2.2⟩:=ef t217 rn zfk func394 [0] (qh rfl z7X zg)
def t218:=t217.s zkx
def OB:q9:=Lz [] [Mi 2,.s 4 (.wh 287 [.rp (.sl zt)])] zan [⟨.exit 0,z4i⟩] λp s=>kG p.1 (λz0 z1=>wu z0 z1 p.2) s
def zfj:Hints:=Hz [(0,OB)] [] []
theorem z7W:LO Tryz.f383 OB 0:=lk t218 rn zfj [] zg
theorem zku:xr Pz 383 ⟨[.sub,.any,.any,.any,.wh 287],BP,[],tk,0,λx=>jr x.1 x.2.1 x.2.2.1 x.2.2.2.1 (λz0 z1=>wu z0 z1 x.2.2.2.2.1) x.2.2.2.2.2⟩:=ef t218 rn zfj func383 [0] (qh rfl z7W zg)
def t219:=t218.s zku
abbrev Vx:=ur.den BP->T (ur.den tk)
abbrev FZ(F:Vx):=xr Pz 372 ⟨[.sub,.any,.any,.any,.wh 287],BP,[],tk,0,F⟩
def R5(vt:Vx)(fj:FZ vt):Tb:=t219.s fj
def Ou(vt:Vx):q9:=Lz [] [Mi 1,.s 4 (.wh 287 [.rp (.sl zt)])] zan [⟨.exit 0,z4i⟩] λp s=>ug (λy0 y1 y2 y3 y4 y5=>vt (y0,y1,y2,y3,y4,y5)) p.1 p.2 s
def Ow(vt:Vx):q9:=Lz [] [Mi 10] ⟨[.s 0 (.sub 0 i64),Mi 13,.a i64],[],jQ⟩ [⟨.exit 2,tk⟩] λp s=>uh (λy0 y1 y2 y3 y4 y5=>vt (y0,y1,y2,y3,y4,y5)) p s
def Ox(vt:Vx):q9:=Lz [] [Mi 2,.s 4 (.wh 287 [.rp (.sl zt)])] ⟨[.s 0 (.sub 0 i64),Mi 14,Mi 15,.a i64],[],jQ⟩ [⟨.exit 4,⟨[.s 0 (.sub 0 i64),Mi 14,.a i64],[],jQ⟩⟩] λp s=>ui (λy0 y1 y2 y3 y4 y5=>vt (y0,y1,y2,y3,y4,y5)) p.1 p.2 s
def Oy(vt:Vx):q9:=Lz [] [Mi 14] ⟨[.s 0 (.sub 0 i64),Mi 17,.a i64],[],jQ⟩ [⟨.exit 6,tk⟩] λp s=>uj (λy0 y1 y2 y3 y4 y5=>vt (y0,y1,y2,y3,y4,y5)) p s
def Oz(vt:Vx):q9:=Lz [] [Mi 1,Mi 2,Mi 3,.s 4 (.wh 287 [.rp (.sl zt)]),Mi 18,Mi 19,Mi 22] ⟨[.s 0 (.sub 0 i64),Mi 20,Mi 21,.a i64],[],jQ⟩ [⟨.exit 8,⟨[.s 0 (.sub 0 i64),Mi 20,.a i64],[],jQ⟩⟩] λp s=>uk (λy0 y1 y2 y3 y4 y5=>vt (y0,y1,y2,y3,y4,y5)) p.1 p.2.1 p.2.2.1 p.2.2.2.1 p.2.2.2.2.1 p.2.2.2.2.2.1 p.2.2.2.2.2.2 s
def RB(vt:Vx):Hints:=Hz [(0,Ou vt),(2,Ow vt),(4,Ox vt),(6,Oy vt),(8,Oz vt)] [(3,27,.flat [Mi 20,Mi 21]),(0,39,.flat [Mb 185]),(3,39,.ways [⟨.normal,z4m⟩]),(0,41,.flat [Mb 199]),(3,41,.ways [⟨.normal,z4m⟩]),(0,43,.flat [Mb 213])] []
theorem z7Q(vt:Vx)(fj:FZ vt):LO Tryz.f372 (Ou vt) 0:=lk (R5 vt fj) rn (RB vt) [] zg
theorem z7R(vt:Vx)(fj:FZ vt):LO Tryz.f372 (Ow vt) 2:=lk (R5 vt fj) rn (RB vt) [] zg
theorem z7S(vt:Vx)(fj:FZ vt):LO Tryz.f372 (Ox vt) 4:=lk (R5 vt fj) rn (RB vt) [] zg
theorem z7T(vt:Vx)(fj:FZ vt):LO Tryz.f372 (Oy vt) 6:=lk (R5 vt fj) rn (RB vt) [] zg
theorem z7U(vt:Vx)(fj:FZ vt):LO Tryz.f372 (Oz vt) 8:=lk (R5 vt fj) rn (RB vt) [] zg
theorem z8o(vt:Vx)(fj:FZ vt):xr Pz 372 ⟨[.sub,.any,.any,.any,.wh 287],BP,[],tk,0,λx=>vy (λy0 y1 y2 y3 y4 y5=>vt (y0,y1,y2,y3,y4,y5)) x.1 x.2.1 x.2.2.1 x.2.2.2.1 x.2.2.2.2.1 x.2.2.2.2.2⟩:=ef (R5 vt fj) rn (RB vt) func372 [0,2,4,6,8] (qh rfl (z7Q vt fj) (qh rfl (z7R vt fj) (qh rfl (z7S vt fj) (qh rfl (z7T vt fj) (qh rfl (z7U vt fj) zg)))))
theorem zko:xr Pz 372 ⟨[.sub,.any,.any,.any,.wh 287],BP,[],tk,0,λx=>vR x.1 x.2.1 x.2.2.1 x.2.2.2.1 x.2.2.2.2.1 x.2.2.2.2.2⟩:=Kq (λvt x=>vy (λy0 y1 y2 y3 y4 y5=>vt (y0,y1,y2,y3,y4,y5)) x.1 x.2.1 x.2.2.1 x.2.2.2.1 x.2.2.2.2.1 x.2.2.2.2.2) (λx=>rfl) (λvt fj=>z8o vt fj)
def t220:=t219.s zko
def Oe:q9:=Lz [] [Mi 1,.s 2 (.wh 287 [.rp (.sl zt)]),Mi 6] z3D [⟨.exit 0,z3J⟩] λp s=>kK p.1 p.2.1 p.2.2 s
def Og:q9:=Lz [] [Mi 1,.s 2 (.wh 287 [.rp (.sl zt)]),Mi 6] z3D [⟨.exit 4,z3J⟩] λp s=>kM p.1 p.2.1 p.2.2 s
def Of:q9:=Lz [] [Mi 1,.s 2 (.wh 287 [.rp (.sl zt)])] ⟨[.s 0 (.sub 0 i64),Mi 6,.a i64],[],jQ⟩ [⟨.exit 2,tk⟩] λp s=>kL p.1 p.2 s
def z5A:Hints:=Hz [(0,Oe),(4,Og),(2,Of)] [] []
theorem z7D:LO Tryz.f339 Oe 0:=lk t220 rn z5A [] zg
theorem z7F:LO Tryz.f339 Og 4:=lk t220 rn z5A [] zg
theorem z7E:LO Tryz.f339 Of 2:=lk t220 rn z5A [4] (qh rfl z7F zg)
theorem zjY:xr Pz 339 ⟨[.sub,.any,.wh 287],⟨[.s 0 (.sub 0 i64),Mi 1,.s 2 (.wh 287 [.rp (.sl zt)]),.a i64],[],jQ⟩,[],tk,0,λx=>js x.1 x.2.1 x.2.2.1 x.2.2.2⟩:=ef t220 rn z5A func339 [0,2] (qh rfl z7D (qh rfl z7E zg))
def t221:=t220.s zjY
theorem zjk:xr Pz 286 ⟨[.sub,.wh 287],⟨[.s 0 (.sub 0 i64),.s 1 (.wh 287 [.rp (.sl zt)]),.a i64],[],jQ⟩,[],tk,0,λx=>uz x.1 x.2.1 x.2.2⟩:=ef t221 rn hN func286 [] zg
def t222:=t221.s zjk
def O0:q9:=Lz [] [Mm 0 (.sl i64),Mm 1 (.sl i64),Mi 12] z45 [kN,FP] λp s=>cf p.1 p.2.1 p.2.2 s
def zf1:Hints:=Hz [(0,O0)] [] []
theorem z7p:LO Tryz.f289 O0 0:=lk t222 rn zf1 [] zg
theorem zjn:q8 Pz 289 ⟨[.ty (.sl i64),.ty (.sl i64)],[.bool],λx=>y8 x.1 x.2⟩:=wq t222 rn zf1 func289 [0] (qh rfl z7p zg)
def t223:=t222.d zjn
abbrev R7:=ur.den FL->T (ur.den FM)
abbrev zay(F:R7):=xr Pz 347 ⟨lD,FL,[],FM,1,F⟩
def ze1(eW:R7)(JC:zay eW):Tb:=t223.s JC
def Oh(eW:R7):q9:=Lz [] [Mi 1,Mm 33 (.sl qk),Mi 34] ⟨[Mi 6,Mi 35,.v sx,.a i64,.a i64],[(0,.ptr 0 0)],UK⟩ [⟨.exit 0,⟨[Mi 6,.v sx,.a i64,.a i64],[],UK⟩⟩] λp s=>kg (λy0 y1 y2 y3=>eW (y0,y1,y2,y3)) p.1 p.2.1 p.2.2 s
def zfb(eW:R7):Hints:=Hz [(0,Oh eW)] [] []
theorem z7G(eW:R7)(JC:zay eW):LO Tryz.f347 (Oh eW) 0:=lk (ze1 eW JC) rn (zfb eW) [] zg
theorem z8l(eW:R7)(JC:zay eW):xr Pz 347 ⟨lD,FL,[],FM,1,λx=>j5 (λy0 y1 y2 y3=>eW (y0,y1,y2,y3)) x.1 x.2.1 x.2.2.1 x.2.2.2⟩:=ef (ze1 eW JC) rn (zfb eW) func347 [0] (qh rfl (z7G eW JC) zg)
theorem zk6:xr Pz 347 ⟨lD,FL,[],FM,1,λx=>jK x.1 x.2.1 x.2.2.1 x.2.2.2⟩:=Kq (λeW x=>j5 (λy0 y1 y2 y3=>eW (y0,y1,y2,y3)) x.1 x.2.1 x.2.2.1 x.2.2.2) (λx=>rfl) (λeW JC=>z8l eW JC)
def t224:=t223.s zk6
def O7:q9:=Lz [] [Mm 27 (.sl qk),Mi 28] ⟨[Mi 7,Mi 8,Mi 29,.v FK,.v .mp,.a i64,.a i64],[(0,.ptr 0 0),(2,.yL 1)],PD⟩ [⟨.exit 0,⟨[Mi 7,.v FK,.v .mp,.a i64,.a i64],[],PD⟩⟩] λp s=>gi p.1 p.2 s
def zf6:Hints:=Hz [(0,O7)] [(0,6,.flat [Mb 46])] []
theorem z7w:LO Tryz.f297 O7 0:=lk t224 rn zf6 [] zg
theorem zjv:xr Pz 297 ⟨Qf,⟨[Mi 1,.v FK,.v .mp,.a i64,.a i64],[(0,.ptr 0 0),(2,.yL 1)],PD⟩,[],⟨[Mi 0,.v FK,.v .mp,.a i64,.a i64],[],PD⟩,1,λx=>yd x.1 x.2.1 x.2.2.1 x.2.2.2.1 x.2.2.2.2⟩:=ef t224 rn zf6 func297 [0] (qh rfl z7w zg)
def t225:=t224.s zjv
def O2:q9:=Lz [] [Mi 6,Mm 54 (.sl qk),Mi 55] ⟨[Mi 56,.v sx,.a i64,.a i64,.v .mp],[(0,.ptr 0 0),(4,.yL 3)],z3o⟩ [⟨.exit 2,PS⟩] λp s=>yH p.1 p.2.1 p.2.2 s
def O1:q9:=Lz [] [] ⟨[Mi 1,.v sx,.a i64,.a i64,.v .mp],[(0,.ptr 0 0),(4,.yL 3)],z3o⟩ [⟨.exit 0,PS⟩,⟨.ret,PS⟩] λp s=>yG  s
def zbk:Hints:=Hz [(2,O2),(0,O1)] [(3,5,.ways [⟨.normal,PS⟩])] []
theorem z7r:LO Tryz.f290 O2 2:=lk t225 rn zbk [] zg
theorem z7q:LO Tryz.f290 O1 0:=lk t225 rn zbk [2] (qh rfl z7r zg)
theorem zjo:xr Pz 290 ⟨lD,FL,[],⟨[.v sx,.a i64,.a i64],[],UK⟩,0,λx=>kO x.1 x.2.1 x.2.2.1 x.2.2.2⟩:=ef t225 rn zbk func290 [0] (qh rfl z7q zg)
def t226:=t225.s zjo
def z4X:Tb:=t226.d z2q
def Ny:q9:=Lz [.slot 10 i64] [Mr 3 (.sl zt),Mi 27] ⟨[Mi 28,.v sx,.a i64,.a i64,.a i64],[(8,.ptr 0 0),(10,.cur 3 i64)],BI⟩ [⟨.exit 0,z3F⟩] λp s=>nM p.1 p.2 s
def NA:q9:=Lz [] [.s 12 (.sr i64),Mi 57] ⟨[Mi 58,.v sx,.a i64,.a i64,.a i64],[(8,.ptr 0 0),(10,.cur 3 i64),(56,.cur 3 i64)],BI⟩ [⟨.exit 4,z3F⟩] λp s=>nO p.1 p.2 s
def Nz:q9:=Lz [] [] ⟨[.s 12 (.sr i64),.v sx,.a i64,.a i64,.a i64],[(8,.ptr 0 0),(10,.cur 3 i64)],BI⟩ [⟨.exit 2,⟨[.v sx,.a i64,.a i64,.a i64],[],BI⟩⟩] λp s=>nN  s
def z5y:Hints:=Hz [(0,Ny),(4,NA),(2,Nz)] [(0,12,.ways [⟨.normal,⟨[Mb 49,.v sx,.a i64,.a i64,.a i64],[(10,.cur 3 i64)],BI⟩⟩])] []
theorem z6R:LO Tryz.f224 Ny 0:=lk z4X (rz [3,50]) z5y [] zg
theorem z6T:LO Tryz.f224 NA 4:=lk z4X (rz [3,50]) z5y [] zg
theorem z6S:LO Tryz.f224 Nz 2:=lk z4X (rz [3,50]) z5y [4] (qh rfl z6T zg)
theorem ziv:q8 Pz 224 ⟨[.ty (.sl zt),.ty (.sl i64),.ty i64],[(.sl i64),.bool],λx=>oy x.1 x.2.1 x.2.2⟩:=wq z4X (rz [3,50]) z5y func224 [0,2] (qh rfl z6R (qh rfl z6S zg))
def t227:=t226.d ziv
theorem ziw:q8 Pz 225 ⟨[.ty zt],[.bool],λx=>Qa x⟩:=wq t227 (rz [1]) hN func225 [] zg
def t228:=t227.d ziw
theorem zhW:q8 Pz 178 ⟨[.ty (.sl zt),.ty (.sl i64),.ty i64],[.bool],λx=>tN x.1 x.2.1 x.2.2⟩:=wq t228 rn hN func178 [] zg
def t229:=t228.d zhW
def Nq:q9:=Lz [] [Mm 0 (.sl i64),Mi 1,Mi 7] cU [kN,og] λp s=>yo p.1 p.2.1 p.2.2 s
def zeC:Hints:=Hz [(0,Nq)] [] []
theorem z6K:LO Tryz.f181 Nq 0:=lk t229 rn zeC [] zg
theorem zhZ:q8 Pz 181 ⟨[.ty (.sl i64),.ty i64],[i64],λx=>uH x.1 x.2⟩:=wq t229 rn zeC func181 [0] (qh rfl z6K zg)
def t230:=t229.d zhZ
theorem zhV:q8 Pz 177 ⟨[.ty (.sl i64),.ty i64],[.bool],λx=>jm x.1 x.2⟩:=wq t230 rn hN func177 [] zg
def t231:=t230.d zhV
theorem zk1:xr Pz 342 ⟨[.any,.any,.any,.ptr],⟨[Mm 0 qk,Mr 1 (.sl i64),Mr 2 i64,.a i64],[(3,.ptr 0 0)],[.cvar (.cur 1 i64),.arr i64]⟩,[],z4g,1,λx=>cO x.1 x.2.1 x.2.2.1 x.2.2.2⟩:=ef t231 (rz [4]) hN func342 [] zg
def t232:=t231.s zk1
def B7:q9:=Lz [] [Mm 0 (.sl qk),Mi 7] ⟨[.s 1 (.mclo 342 [.rp (.sl i64),.rp i64,.pt 0]),Mi 8,.a i64],[],[.cvar (.cur 1 i64),.arr i64]⟩ [⟨.exit 0,⟨[.a i64],[],[.cvar (.cur 1 i64),.arr i64]⟩⟩,⟨.ret,⟨[Mi 4,.a i64],[],[.cvar (.cur 1 i64),.arr i64]⟩⟩] λp s=>vq p.1 p.2 s
def z0p:Hints:=Hz [(0,B7)] [] []
theorem Sf:LO Tryz.f337 B7 0:=lk t232 rn z0p [] zg
theorem P5:xr Pz 337 ⟨[.any,.wh 342],zaj,[],⟨[Mi 0,.a i64],[],[.cvar (.cur 1 i64),.arr i64]⟩,1,λx=>vN x.1 x.2.1 x.2.2⟩:=ef t232 rn z0p func337 [0] (qh rfl Sf zg)
def t233:=t232.s P5
theorem P2:xr Pz 282 ⟨[.any,.wh 342],zaj,[],z4g,1,λx=>wH x.1 x.2.1 x.2.2⟩:=ef (t233.s P5) rn hN func282 [] zg
def t234:=t233.s P2
theorem zk0:xr Pz 341 ⟨[.any,.ptr,.any,.any],⟨[Mi 0,Mr 2 (.sl zt),Mr 3 (.sl i64),.a i64],[(1,.ptr 0 0)],[.cvar (.cur 1 i64),.arr i64]⟩,[],z4g,1,λx=>iT x.1 x.2.1 x.2.2.1 x.2.2.2⟩:=ef (t234.s P2) (rz [4]) hN func341 [] zg
def t235:=t234.s zk0
def ze0:Tb:=t235.s zcL
def O3:q9:=Lz [.slot 9 i64] [Mr 3 (.sl zt)] ⟨[.s 8 (.mclo 341 [.pt 1,.rp (.sl zt),.rp (.sl i64)]),Mi 10,.a i64,.a i64],[(7,.ptr 1 0),(9,.cur 2 i64)],[.arr i64,.cvar (.cur 0 i64),.arr i64]⟩ [⟨.exit 0,⟨[.a i64,.a i64],[(9,.cur 2 i64)],[.arr i64,.cvar (.cur 0 i64),.arr i64]⟩⟩] λp s=>Q8 p s
def zf2:Hints:=Hz [(0,O3)] [] []
theorem z7s:LO Tryz.f291 O3 0:=lk ze0 (rz [3,4]) zf2 [] zg
theorem zjp:q8 Pz 291 ⟨[.ty (.sl zt),.ty (.sl i64),.ty i64],[(.sl i64)],λx=>Wd x.1 x.2.1 x.2.2⟩:=wq ze0 (rz [3,4]) zf2 func291 [0] (qh rfl z7s zg)
def t236:=t235.d zjp
def O4:q9:=Lz [] [Mi 1,Mm 18 (.sl qk),Mi 19] ⟨[Mi 20,.a zm,.v (.qj zm),.v (.qj zm),.v (.qj zm)],[(2,.cur 0 zm),(6,.ptr 1 0),(7,.ptr 2 0),(8,.ptr 3 0)],z3n⟩ [⟨.exit 0,⟨[.a zm,.v (.qj zm),.v (.qj zm),.v (.qj zm)],[],z3n⟩⟩] λp s=>iV p.1 p.2.1 p.2.2 s
def zf3:Hints:=Hz [(0,O4)] [] []
theorem z7t:LO Tryz.f292 O4 0:=lk t236 (rz [3]) zf3 [] zg
theorem zjq:xr Pz 292 ⟨[.any,.any,.cur],⟨[Mm 0 zt,Mi 1,.a zm],[(2,.cur 0 zm)],tE⟩,[],⟨[Mm 0 zm,.a zm],[],tE⟩,1,λx=>sY x.1 x.2.1 x.2.2⟩:=ef t236 (rz [3]) zf3 func292 [0] (qh rfl z7t zg)
def t237:=t236.s zjq
def NB:q9:=Lz [.slot 9 zm] [Mm 0 (.sl zt),Mm 1 (.sl i64),Mm 2 (.sl zm),Mm 21 (.sl zm),Mi 22] ⟨[Mi 23,.a zm],[(9,.cur 0 zm)],tE⟩ [⟨.exit 0,z3Y⟩] λp s=>Vl p.1 p.2.1 p.2.2.1 p.2.2.2.1 p.2.2.2.2 s
def NC:q9:=Lz [] [Mm 0 (.sl zt),Mm 1 (.sl i64),Mm 37 (.sl i64),Mi 38] ⟨[Mi 39,.a zm],[(9,.cur 0 zm)],tE⟩ [⟨.exit 2,z3Y⟩,⟨.ret,⟨[Mi 7,Mi 8,.a zm],[(6,.wE)],tE⟩⟩] λp s=>Q9 p.1 p.2.1 p.2.2.1 p.2.2.2 s
def zbi:Hints:=Hz [(0,NB),(2,NC)] [] []
theorem z6U:LO Tryz.f226 NB 0:=lk t237 rn zbi [] zg
theorem z6V:LO Tryz.f226 NC 2:=lk t237 rn zbi [] zg
theorem zix:q8 Pz 226 ⟨[.ty (.sl zt),.ty (.sl i64),.ty (.sl zm)],[(.sl zm),i64,i64],λx=>KG x.1 x.2.1 x.2.2⟩:=wq t237 rn zbi func226 [0,2] (qh rfl z6U (qh rfl z6V zg))
def t238:=t237.d zix
def No:q9:=Lz [] [Mm 0 (.sl zt),Mr 3 uX,Mm 9 (.sl i64),Mm 62 (.sl zt),Mi 63] ⟨[Mi 64,.v (.qj uX),.v (.qj i64)],[(4,.ptr 0 0)],PE⟩ [⟨.exit 0,⟨[.v (.qj uX),.v (.qj i64)],[],PE⟩⟩,⟨.ret,⟨[Mi 5,Mi 6,.v (.qj uX),.v (.qj i64)],[],PE⟩⟩] λp s=>sj p.1 p.2.1 p.2.2.1 p.2.2.2.1 p.2.2.2.2 s
def zeA:Hints:=Hz [(0,No)] [(0,2,.ways [⟨.normal,⟨[Mb 42,.v (.qj uX),.v (.qj i64)],[],PE⟩⟩]),(0,13,.ways [⟨.normal,⟨[Mb 83,.v (.qj uX),.v (.qj i64),.v (.qj zt)],[],[.var (.qj uX),.var (.qj i64),.var (.qj zt)]⟩⟩])] []
theorem z6I:LO Tryz.f167 No 0:=lk t238 (rz [3]) zeA [] zg
theorem zhM:q8 Pz 167 ⟨[.ty (.sl zt),.ty uX],[uX,i64,i64],λx=>tf x.1 x.2⟩:=wq t238 (rz [3]) zeA func167 [0] (qh rfl z6I zg)
def t239:=t238.d zhM
theorem zhN:xr Pz 168 ⟨lD,⟨[Mi 1,.v (.qj uA)],[(0,.ptr 0 0)],Gx⟩,[],⟨[.s 0 (.tight .str),.v (.qj uA)],[],Gx⟩,1,λx=>cL x.1 x.2⟩:=ef t239 rn hN func168 [] zg
def t240:=t239.s zhN
theorem zoS:xr Pz 98 ⟨lD,⟨[Mm 1 (.sl zm),.v (.qj uA)],[(0,.ptr 0 0)],Gx⟩,[],⟨[Mm 0 (.sl zm),.s 1 (.tight .str),Mi 2,.v (.qj uA)],[],Gx⟩,3,λx=>jU x.1 x.2⟩:=ef t240 rn hN func98 [] zg
def t241:=t240.s zoS
def zfn:Hints:=Hz [] [(0,1,.H6)] []
theorem z2p:xr Pz 59 ⟨[.any],⟨[Mm 0 (.sl zm)],[],[]⟩,[],z3Z,1,λx=>jO x⟩:=ef t241 rn zfn func59 [] zg
def t242:=t241.s z2p
def h60:Hints:=Hz [] [(0,1,.H6)] []
theorem zon:xr Pz 60 ⟨[.any],⟨[Mm 0 (.sl .bool)],[],[]⟩,[],z3X,1,λx=>jl x⟩:=ef t242 rn h60 func60 [] zg
def t243:=t242.s zon
def h62:Hints:=Hz [] [(0,1,.H6)] []
theorem zoo:xr Pz 62 ⟨[.any],⟨[Mm 0 (.sl zn)],[],[]⟩,[],z3O,1,λx=>jH x⟩:=ef t243 rn h62 func62 [] zg
def t244:=t243.s zoo
theorem znX:xr Pz 28 ⟨[.any],⟨[Mm 0 xf],[],[]⟩,[],⟨[.s 0 z3A,.a zm,.a .bool,.a zm,.a i64,.a zn,.a .bool],[],z3v⟩,1,λx=>lQ x⟩:=ef ((t244.s zcL).s z2p) (rz [1]) hN func28 [] zg
def t245:=t244.s znX
def z1U:q9:=Lz [] [Mi 17] ⟨[Mi 18,.v (.qj uA),.v z3y,.v (.qj xf),.a zm,.a .bool,.a zm,.a i64,.a zn,.a .bool],[(0,.ptr 0 0),(4,.ptr 1 0),(6,.ptr 2 0)],z3q⟩ [⟨.exit 0,zam⟩] λp s=>da p s
def z1V:q9:=Lz [] [Mm 29 (.sl i64),Mi 30] ⟨[Mi 31,.v (.qj uA),.v z3y,.v (.qj xf),.a zm,.a .bool,.a zm,.a i64,.a zn,.a .bool],[(0,.ptr 0 0),(4,.ptr 1 0),(6,.ptr 2 0)],z3q⟩ [⟨.exit 2,zam⟩] λp s=>db p.1 p.2 s
def h99:Hints:=Hz [(0,z1U),(2,z1V)] [] []
theorem zcz:LO Tryz.f99 z1U 0:=lk t245 rn h99 [] zg
theorem zcA:LO Tryz.f99 z1V 2:=lk t245 rn h99 [] zg
theorem zoT:xr Pz 99 ⟨Qf,⟨[Mm 1 xf,Mm 2 (.sl zm),.v (.qj uA)],[(0,.ptr 0 0)],Gx⟩,[],⟨[.s 0 (.st [.row 1 zm,.row 2 .bool,.im (.sl zm),.row 3 i64,.row 4 zn,.row 5 .bool]),.v (.qj uA),.a zm,.a .bool,.a i64,.a zn,.a .bool],[],[.var (.qj uA),.arr zm,.arr .bool,.arr i64,.arr zn,.arr .bool]⟩,1,λx=>gB x.1 x.2.1 x.2.2⟩:=ef t245 rn h99 func99 [0,2] (qh rfl zcz (qh rfl zcA zg))
def t246:=t245.s zoT
def h43:Hints:=Hz [] [] [(4,[1001006,1001007,1001008])]
theorem zo9:xr Pz 43 ⟨Gw,z3S,[],zai,3,λx=>dJ x.1 x.2⟩:=ef t246 (rz [2,3]) h43 func43 [] zg
def t247:=t246.s zo9
def z1p:q9:=Lz [.cell 0 1 .bool,.cell 0 5 .bool,.cell 1 1 .bool,.cell 1 5 .bool,.cell 0 4 zn,.cell 1 4 zn,.cell 0 3 i64,.cell 1 3 i64,.cell 0 0 zm,.cell 0 2 zm,.cell 1 0 zm,.cell 1 2 zm] [Mr 1 qy,Mm 11 (.sl qf),Mi 12] ⟨[Mi 13,.v PH,.v PJ,.a .bool,.a .bool,.a .bool,.a .bool,.a zn,.a zn,.a i64,.a i64,.a zm,.a zm,.a zm,.a zm],[(2,.ptr 0 0),(5,.ptr 1 0)],z3r⟩ [⟨.exit 0,PM⟩] λp s=>Zs p.1 p.2.1 p.2.2 s
def z1q:q9:=Lz [] [Mr 1 qy,Mm 27 (.sl qs),Mi 28] ⟨[Mi 29,.v PH,.v PJ,.a .bool,.a .bool,.a .bool,.a .bool,.a zn,.a zn,.a i64,.a i64,.a zm,.a zm,.a zm,.a zm],[(2,.ptr 0 0),(5,.ptr 1 0)],z3r⟩ [⟨.exit 2,PM⟩] λp s=>Zt p.1 p.2.1 p.2.2 s
def z1r:q9:=Lz [] [Mr 1 qy,Mi 43] ⟨[Mi 44,.v PH,.v PJ,.a .bool,.a .bool,.a .bool,.a .bool,.a zn,.a zn,.a i64,.a i64,.a zm,.a zm,.a zm,.a zm],[(2,.ptr 0 0),(5,.ptr 1 0)],z3r⟩ [⟨.exit 4,PM⟩] λp s=>Zu p.1 p.2 s
def z1s:q9:=Lz [] [Mr 1 qy,Mi 67] ⟨[Mi 68,.v PH,.v PJ,.a .bool,.a .bool,.a .bool,.a .bool,.a zn,.a zn,.a i64,.a i64,.a zm,.a zm,.a zm,.a zm],[(2,.ptr 0 0),(5,.ptr 1 0)],z3r⟩ [⟨.exit 6,PM⟩] λp s=>Zv p.1 p.2 s
def h23:Hints:=Hz [(0,z1p),(2,z1q),(4,z1r),(6,z1s)] [] [(22,[1001000,1001001,1001002,1001003,1001004,1001005])]
theorem zc4:LO Tryz.f23 z1p 0:=lk t247 (rz [1]) h23 [] zg
theorem zc5:LO Tryz.f23 z1q 2:=lk t247 (rz [1]) h23 [] zg
theorem zc6:LO Tryz.f23 z1r 4:=lk t247 (rz [1]) h23 [] zg
theorem zc7:LO Tryz.f23 z1s 6:=lk t247 (rz [1]) h23 [] zg
theorem znT:xr Pz 23 ⟨[.any],z4b,[],zai,3,λx=>XM x⟩:=ef t247 (rz [1]) h23 func23 [0,2,4,6] (qh rfl zc4 (qh rfl zc5 (qh rfl zc6 (qh rfl zc7 zg))))
def t248:=t247.s znT
theorem zgU:q8 Pz 101 ⟨[.ty qs,.rp xp],[.bool],λx=>yz x.1 x.2⟩:=wq t248 (rz [2]) hN func101 [] zg
def t249:=t248.d zgU
def HV:q9:=Lz [] [Mm 0 (.sl qs),.s 1 (.wh 101 [.rp xp]),Mi 7] cU [kN,og] λp s=>wY p.1 (λz0=>yz z0 p.2.1) p.2.2 s
def z0d:Hints:=Hz [(0,HV)] [] []
theorem S3:LO Tryz.f100 HV 0:=lk t249 rn z0d [] zg
theorem ON:q8 Pz 100 ⟨[.ty (.sl qs),.wh 101 [.rp xp]],[i64],λx=>wa x.1 (λz0=>yz z0 x.2)⟩:=wq t249 rn z0d func100 [0] (qh rfl S3 zg)
def t250:=t249.d ON
def T44:Tb:=t250.d ON
def z1E:q9:=Lz [.slot 5 .bool] [Mm 1 (.sl .bool),Mr 2 qy,Mm 10 (.sl xp),Mi 11] ⟨[Mi 12,.a .bool],[(5,.cur 0 .bool)],[.arr .bool]⟩ [z4r] λp s=>mg p.1 p.2.1 p.2.2.1 p.2.2.2 s
def h44:Hints:=Hz [(0,z1E)] [] []
theorem zcj:LO Tryz.f44 z1E 0:=lk T44 (rz [2]) h44 [] zg
theorem zkC:q8 Pz 44 ⟨[.ty qy,.ty (.sl .bool)],[(.sl .bool)],λx=>ko x.1 x.2⟩:=wq T44 (rz [2]) h44 func44 [0] (qh rfl zcj zg)
def t251:=t250.d zkC
end Go.AM.Lf
namespace Go.Proofs
open Go.RowKit Go.Shelf

attribute [local go_sem] zN

def PB.upto{α:Type}(f:Nat->α)(k:Nat):List α:=(List.range k).map f
theorem PB.Zd{α:Type}(f:Nat->α)(k:Nat):PB.upto f (k+1)=PB.upto f k++[f k]:=by simp[PB.upto,List.range_succ]
theorem PB.FD{α:Type}(f:Nat->α)(k:Nat):(PB.upto f k).length=k:=by simp[PB.upto]
def PB.at(zs:List Bool)(len j:Nat):Nat×Bool:=(len-1-j,zs[len-1-j]?.getD false)

set_option maxRecDepth 100000 in
set_option maxHeartbeats 2000000 in
theorem PB.To(F:Fence)(n:Nat)(h24:F.fn 169)(RJ:F.round=none)(hn:1<=n)(l Bs n₀ b off len cap:Nat)(zs:List Bool)(J5:len*8<=140737488351232)(I:b<n₀)(hd Jx:List (Nat×Bool)->World->Prop)
  (hY:∀ pre x zk,hd pre zk->pre.length<len->YieldAt F (n-1) Tryz.prog l #[.int .i64 (x.1:Int),.bool x.2] zk λe W' =>
   (e=.returned (.bool true)/\hd (pre++[x]) W'/\Below n₀ zk W')\/(e=.returned (.bool false)/\Jx (pre++[x]) W'))
  (zk:World) (hBs:zk.cell? ⟨Bs,0,none⟩=some (.slice (some ⟨b,off,none⟩) len cap)) (zmE:Bs<n₀) (hc:∀ j,j<len->zk.cell? ⟨b,off+j,none⟩=some (.bool (zs[j]?.getD false))) (h0:hd [] zk) :
  CallsIn F n Tryz.prog 169 #[.func (.yield l) #[] #[],.pointer (some ⟨Bs,0,none⟩)] zk λe W'=>(∃ v,e=.returned v) /\
   ((∃ ys,ys=PB.upto (PB.at zs len) len/\hd ys W')\/(∃ pre,(∃ k,k<=len/\pre=PB.upto (PB.at zs len) k)/\Jx pre W')):=by
 refine callsIn_of_wp Tryz.func169 rfl h24 ?_ RJ
 simp only[Tryz.ntmps169,Y,zK,zZ,qE,qF,zO,zP,zV,zS,qA,zX]
 gi_wp2
 gi_loopw [3] (λi wr=>∃ m:Nat,m<=len/\i=.int .i64 ((m:Int)-1)/\hd (PB.upto (PB.at zs len) (len-m)) wr/\Below n₀ zk wr)
  (λi _=>(intOf i+1).toNat)
 case atStart=>exact⟨len,V _,by simp,by simpa[PB.upto]using h0,Below.refl _ _⟩
 case round =>
  obtain⟨m,hm,rfl,hJs,Dn⟩:=hrel
  have hbs:=(Dn.cell (p:=⟨Bs,0,none⟩) zmE).trans hBs
  cases m with
  | succ k =>
   have hcx:wr.cell? ⟨b,off+k,none⟩=some (.bool (zs[k]?.getD false)):=(Dn.cell (p:=⟨b,off+k,none⟩) I).trans (hc k (by omega))
   obtain⟨fn,tmps,assign,body,hy,hR⟩:=hY _ (k,zs[k]?.getD false) wr hJs (by rw[PB.FD]; omega)
   dsimp only at hy
   have hk1:((k+1:Nat):Int)-1=k:=by omega
   rw[hk1]
   have IK:PB.at zs len (len-(k+1))=(k,zs[k]?.getD false):=by
    have:len-1-(len-(k+1))=k:=by omega
    simp[PB.at,this]
   gi_wp2
   refine hR.mono ?_
   rintro e W3 (⟨rfl,hJ3,hk3⟩ | ⟨rfl,zmI⟩)
   ·gi_wp2
    go_roundw
    case rel=>exact⟨k,by omega,by simp,by rw[show len-k=len-(k+1)+1 by omega,PB.Zd,IK]; exact hJ3,Dn.trans hk3⟩
    case measure=>simp[intOf]
   ·gi_wp2
    refine bodyPost_ret (results_none rfl _ _ _) rfl ?_
    exact⟨⟨_,rfl⟩,.inr ⟨_,⟨len-(k+1)+1,by omega,by rw[PB.Zd,IK]⟩,zmI⟩⟩
  | zero =>
   gi_wp2
   go_end0
   exact⟨⟨_,rfl⟩,.inl ⟨_,rfl,hJs⟩⟩

/-- The bools of a slice,in a block below n₀; or there are none. -/
def PB.Dt(n₀:Nat)(zk:World)(sv:Value)(zs:List Bool):Prop :=
 (∃ a,sv=.slice a 0 0/\zs=[])\/∃ b off cap,sv=.slice (some ⟨b,off,none⟩) zs.length cap/\b<n₀/\∀ j,j<zs.length->zk.cell? ⟨b,off+j,none⟩=some (.bool (zs[j]?.getD false))
theorem PB.Dt.below{n₀:Nat}{A hI:World}(h:Below n₀ A hI){sv:Value}{zs:List Bool}:PB.Dt n₀ A sv zs->PB.Dt n₀ hI sv zs
 | .inl e=>.inl e
 | .inr ⟨b,off,cap,e,I,hc⟩=>.inr ⟨b,off,cap,e,I,λj hj=>(h.cell (p:=⟨b,off+j,none⟩) I).trans (hc j hj)⟩

set_option maxRecDepth 100000 in
set_option maxHeartbeats 1000000 in
theorem PB.BU(F:Fence)(n:Nat)(h24:F.fn 169)(RJ:F.round=none)(l Bs:Nat)(a:Option Addr)(hd:List (Nat×Bool)->World->Prop)(zk:World)(hBs:zk.cell? ⟨Bs,0,none⟩=some (.slice a 0 0))(h0:hd [] zk) :
  CallsIn F n Tryz.prog 169 #[.func (.yield l) #[] #[],.pointer (some ⟨Bs,0,none⟩)] zk λe W'=>(∃ v,e=.returned v)/\hd [] W':=by
 refine callsIn_of_wp Tryz.func169 rfl h24 ?_ RJ
 simp only[Tryz.ntmps169,Y,zK,zZ,qE,qF,zO,zP,zV,zS,qA,zX]
 gi_wp2
 gi_loopw [3] (λi wr=>i=.int .i64 (-1)/\hd [] wr) (λ_ _=>0)
 case atStart=>exact⟨rfl,h0⟩
 case round =>
  obtain⟨rfl,hJs⟩:=hrel
  gi_wp2
  go_end0
  exact⟨⟨_,rfl⟩,hJs⟩

set_option maxHeartbeats 1000000 in
theorem PB.DM(F:Fence)(n:Nat)(h20:F.fn 102)(RJ:F.round=none)(a:Option Addr)(len cap:Nat)(w:World) :
  CallsIn F n Tryz.prog 102 #[.slice a len cap] w λe w'=>e=.returned (.func (.func 169) #[] #[.pointer (some ⟨w.heap.size,0,none⟩)])/\w'=w.alloc (.cells #[.slice a len cap] 56):=by
 refine callsIn_of_wp Tryz.func102 rfl h20 ?_ RJ
 simp only[Tryz.ntmps102,Y,zK,zZ,qE,qF,zO,zP,zV,zS,qA,zX]
 gi_wp2
 go_ret
 exact⟨rfl,rfl⟩

theorem PB.Ib(F:Fence)(n:Nat)(h24:F.fn 169)(RJ:F.round=none)(hn:1<=n)(Bs n₀:Nat)(sv:Value)(zs:List Bool)(J5:zs.length*8<=140737488351232)(w:World)(hBs:Bs<n₀)(hn₀:n₀<=w.heap.size)
  (hc:w.cell? ⟨Bs,0,none⟩=some sv) (B:PB.Dt n₀ w sv zs) :
  SeqStopsK F n Tryz.prog 169 #[.pointer (some ⟨Bs,0,none⟩)] (λx:Nat×Bool => #[X .i64 (x.1:Int),zM x.2]) (Below n₀) (λys=>ys=PB.upto (PB.at zs zs.length) zs.length)
   (λpre=>∃ k,k<=zs.length/\pre=PB.upto (PB.at zs zs.length) k) zs.length w:=λl hd Jx zk hW _ _ hY h0=>by
 have hc':=(hW.cell (p:=⟨Bs,0,none⟩) (zI hBs hn₀)).trans hc
 rcases B.below (hW.mono hn₀)with⟨a,rfl,rfl⟩ | ⟨b,off,cap,rfl,I,QB⟩
 ·exact(PB.BU F n h24 RJ l Bs a hd zk hc' h0).mono λe W' ⟨he,hj⟩=>⟨he,.inl ⟨_,rfl,hj⟩⟩
 ·exact PB.To F n h24 RJ hn l Bs n₀ b off zs.length cap zs J5 I hd Jx hY zk hc' hBs QB h0
end Go.Proofs

namespace Go.Proofs
open Go.RowKit Go.Shelf
attribute [local go_sem] zN

/-- None of the first k that came counts. -/
theorem PB.CQ(l:List Bool)(at_:Int):∀ k m:Nat,m+k=l.length->(∀ p∈PB.upto (PB.at l l.length) k,¬ (p.2=true/\(p.1:Int)<at_))->Go.AM.Lf.nG l at_ l.length=Go.AM.Lf.nG l at_ m
 | 0,m,h,_=>by rw[show m=l.length by omega]
 | k+1,m,h,hp=>by
  rw[PB.CQ l at_ k (m+1) (by omega) λp hq=>hp p (by rw[PB.Zd]; exact List.mem_append_left _ hq)]
  have:=hp (PB.at l l.length k) (by rw[PB.Zd]; simp)
  simp only[PB.at,show l.length-1-k=m by omega]at this
  simp only[Go.AM.Lf.nG,if_neg this]

set_option maxRecDepth 100000 in
set_option maxHeartbeats 4000000 in
theorem PB.z4S(F:Fence)(n:Nat)(h10:F.fn 45)(h7:F.fn 44)(h20:F.fn 102)(h24:F.fn 169)(RJ:F.round=none)(hn:3<=n)(c0 c1 c2 c3 c4 c5 vOn:Value)(at_:Int)(zs:List Bool)(w:World)(J5:zs.length*8<=140737488351232)
  (zmK:∀ zk,Below w.heap.size w zk->CallsIn F (n-1) Tryz.prog 44 #[.agg #[c0,c1,c2,c3,c4,c5],vOn] zk λe W'=>∃ a len cap,e=.returned (.slice a len cap)/\Below zk.heap.size zk W'/\PB.Dt W'.heap.size W' (.slice a len cap) zs) :
  CallsIn F n Tryz.prog 45 #[.agg #[c0,c1,c2,c3,c4,c5],vOn,.int .i64 at_] w λe W'=>e=.returned (.tuple #[.int .i64 (Go.AM.Lf.nG zs at_ zs.length).1,.bool (Go.AM.Lf.nG zs at_ zs.length).2])/\Below w.heap.size w W':=by
 have h1:1<=n:=by omega
 refine callsIn_of_wp_marks Tryz.func45 rfl h10 ?_ RJ
 simp only[Tryz.ntmps45,Y,zK,zZ,qE,qF,zO,zP,zV,zS,qA,zX]
 gi_wp2_with (first
  | (gi_at_call 44; refine(zmK _ (((((Below.refl _ w).alloc (V _) _).alloc (by simp) _).alloc (by simp; omega) _).alloc (by simp; omega) _)).mono ?_; rintro e W1 ⟨a,len,cap,rfl,hB1,hZ1⟩)
  | (gi_at_call 102; refine(PB.DM F (n-1) h20 RJ _ _ _ _).mono ?_; rintro e w' ⟨rfl,rfl⟩))
 have hB0:Below w.heap.size w ((((w.alloc (zA #[c0,c1,c2,c3,c4,c5] 29)).alloc (zA #[X IntKind.i64 at_] 3)).alloc (zA #[X IntKind.i64 0] 3)).alloc (zA #[zM false] 4)) :=
  ((((Below.refl _ w).alloc (V _) _).alloc (by simp) _).alloc (by simp; omega) _).alloc (by simp; omega) _
 have k5:((((w.alloc (zA #[c0,c1,c2,c3,c4,c5] 29)).alloc (zA #[X IntKind.i64 at_] 3)).alloc (zA #[X IntKind.i64 0] 3)).alloc (zA #[zM false] 4)).heap[w.heap.size+1]? = some (zA #[X IntKind.i64 at_] 3):=by
  have:=((qQ (w.alloc (zA #[c0,c1,c2,c3,c4,c5] 29)) 3 (.int .i64 at_)).alloc (zA #[X IntKind.i64 0] 3)).alloc (zA #[zM false] 4)
  rw[zL]at this; exact this
 have k6:((((w.alloc (zA #[c0,c1,c2,c3,c4,c5] 29)).alloc (zA #[X IntKind.i64 at_] 3)).alloc (zA #[X IntKind.i64 0] 3)).alloc (zA #[zM false] 4)).heap[w.heap.size+1+1]? = some (zA #[X IntKind.i64 0] 3):=by
  have:=(qQ ((w.alloc (zA #[c0,c1,c2,c3,c4,c5] 29)).alloc (zA #[X IntKind.i64 at_] 3)) 3 (.int .i64 0)).alloc (zA #[zM false] 4)
  rw[zL,zL]at this; exact this
 have k7:((((w.alloc (zA #[c0,c1,c2,c3,c4,c5] 29)).alloc (zA #[X IntKind.i64 at_] 3)).alloc (zA #[X IntKind.i64 0] 3)).alloc (zA #[zM false] 4)).heap[w.heap.size+1+1+1]? = some (zA #[zM false] 4):=by
  have:=(qQ (((w.alloc (zA #[c0,c1,c2,c3,c4,c5] 29)).alloc (zA #[X IntKind.i64 at_] 3)).alloc (zA #[X IntKind.i64 0] 3)) 4 (.bool false))
  rw[zL,zL,zL]at this; exact this
 have bI:((((w.alloc (zA #[c0,c1,c2,c3,c4,c5] 29)).alloc (zA #[X IntKind.i64 at_] 3)).alloc (zA #[X IntKind.i64 0] 3)).alloc (zA #[zM false] 4)).heap.size=w.heap.size+1+1+1+1:=by simp
 generalize ((((w.alloc (zA #[c0,c1,c2,c3,c4,c5] 29)).alloc (zA #[X IntKind.i64 at_] 3)).alloc (zA #[X IntKind.i64 0] 3)).alloc (zA #[zM false] 4))=W0 at *
 have T8:=hB1.size
 have b5:Boxed W1 (w.heap.size+1) 3 (.int .i64 at_):=(hB1.block _ (by omega)).trans k5
 have b6:Boxed W1 (w.heap.size+1+1) 3 (.int .i64 0):=(hB1.block _ (by omega)).trans k6
 have b7:Boxed W1 (w.heap.size+1+1+1) 4 (.bool false):=(hB1.block _ (by omega)).trans k7
 have bS:=qQ W1 56 (.slice a len cap)
 have hBw:Below w.heap.size w W1:=hB0.trans (hB1.mono (by omega))
 have hBa:Below w.heap.size w (W1.alloc (zA #[qM a len cap] 56)):=hBw.alloc (by omega) _
 have fin:∀ {W2:World} {D:Nat} {v6:Int} {v7:Bool},w.heap.size<=D->W2.heap[D]? = some (.deferred (some []))->Below w.heap.size w W2->Boxed W2 (w.heap.size+1+1) 3 (.int .i64 v6)->Boxed W2 (w.heap.size+1+1+1) 4 (.bool v7) ->
   ∀ {u:Value},bodyPostM F n Tryz.prog Tryz.f45 (λe W'=>e=.returned (.tuple #[.int .i64 v6,.bool v7])/\Below w.heap.size w W') Exit.ret
    { tmps := #[qR #[c0,c1,c2,c3,c4,c5],vOn,X IntKind.i64 at_,
     zG (some { block:=w.heap.size,off:=0 }),undef,
     zG (some { block:=w.heap.size+1,off:=0 }),
     zG (some { block:=w.heap.size+1+1,off:=0 }),
     zG (some { block:=w.heap.size+1+1+1,off:=0 }),undef,undef,
     qR #[c0,c1,c2,c3,c4,c5],vOn,qM a len cap,
     Value.func (Fn.func 169) #[] #[zG (some { block:=W1.heap.size,off:=0 })],undef,undef,undef,
     undef,undef,undef,undef,undef,undef,u],defers:=[{ target:=Target.collected D,args := #[] }] } W2:=by
  intro W2 D v6 v7 hD hK hB g6 g7 u
  refine⟨by simp,.inl ⟨_,_,rfl,run_takeDeferred hK,?_⟩⟩
  have c6:=(g6.kept (grownBy_putObj' _ D (.deferred none)) (λe=>by cases e; rw[show W2.heap[_]? = _ from g6]at hK; cases hK)).cell
  have c7:=(g7.kept (grownBy_putObj' _ D (.deferred none)) (λe=>by cases e; rw[show W2.heap[_]? = _ from g7]at hK; cases hK)).cell
  refine⟨.tuple #[.int .i64 v6,.bool v7],?_,rfl,hB.trans (belowK_b (w:=w) (V _) _ D _ _ hD hK rfl rfl)⟩
  simp[results,Tryz.f45,go_sem,c6,c7]
 refine wpIn_rangeFunc_ownG RJ h1 (gf:=169) (lb := #[.pointer (some ⟨W1.heap.size,0,none⟩)]) rfl h24 (enters_of Tryz.func169 (by kernel_rfl) rfl)
  (PB.Ib F (n-1) h24 RJ (by omega) W1.heap.size (W1.heap.size+1) _ zs J5 (W1.alloc (zA #[qM a len cap] 56)) (by omega) (by simp) bS.cell (by
   rcases hZ1 with h | ⟨b,off,VD,e,I,hc⟩
   ·exact .inl h
   ·exact .inr ⟨b,off,VD,e,by omega,λj hj=>(((Below.refl W1.heap.size W1).alloc (V _) _).cell (p:=⟨b,off+j,none⟩) I).trans (hc j hj)⟩)) belowK_t (belowK_b (by simp)) (Below.refl _ _) (λ_=>rfl)
  (λpre zk=>((∀ p∈pre,¬ (p.2=true/\(p.1:Int)<at_))/\Boxed zk (w.heap.size+1) 3 (.int .i64 at_)/\Boxed zk (w.heap.size+1+1) 3 (.int .i64 0)/\Boxed zk (w.heap.size+1+1+1) 4 (.bool false))/\Below w.heap.size w zk)
  (λc pre zk=>(c=.ret/\∃ (ini:List (Nat×Bool)) (last:Nat×Bool),pre=ini++[last]/\(∀ p∈ini,¬ (p.2=true/\(p.1:Int)<at_))/\(last.2=true/\(last.1:Int)<at_)/\Boxed zk (w.heap.size+1+1) 3 (.int .i64 (last.1:Int))/\Boxed zk (w.heap.size+1+1+1) 4 (.bool true))/\Below w.heap.size w zk)
  (OwnFrom.and (Own.from (λs A hI row hs hg hr=>⟨hs.1,boxed_own (β:=Unit) _ _ (λ_=>_) () A hI row hs.2.1 hg hr,boxed_own (β:=Unit) _ _ (λ_=>_) () A hI row hs.2.2.1 hg hr,boxed_own (β:=Unit) _ _ (λ_=>_) () A hI row hs.2.2.2 hg hr⟩) _) (ownFrom_below (V _) (by simp; omega)))
  (λc=>OwnFrom.and (Own.from (λs A hI row hs hg hr=>by obtain⟨hc,ini,last,e1,e2,e3,e4,e5⟩:=hs; exact⟨hc,ini,last,e1,e2,e3,boxed_own (β:=Unit) _ _ (λ_=>_) () A hI row e4 hg hr,boxed_own (β:=Unit) _ _ (λ_=>_) () A hI row e5 hg hr⟩) _) (ownFrom_below (V _) (by simp; omega)))
  ⟨⟨by simp,b5.alloc _,b6.alloc _,b7.alloc _⟩,hBa⟩
  (λx=>{ tmps := #[qR #[c0,c1,c2,c3,c4,c5],vOn,X IntKind.i64 at_,
     zG (some { block:=w.heap.size,off:=0 }),undef,
     zG (some { block:=w.heap.size+1,off:=0 }),
     zG (some { block:=w.heap.size+1+1,off:=0 }),
     zG (some { block:=w.heap.size+1+1+1,off:=0 }),.int .i64 (x.1:Int),.bool x.2,
     qR #[c0,c1,c2,c3,c4,c5],vOn,qM a len cap,
     Value.func (Fn.func 169) #[] #[zG (some { block:=W1.heap.size,off:=0 })],.int .i64 (x.1:Int),.bool x.2,undef,
     undef,undef,undef,undef,undef,undef,undef],defers:=[] }) ?assign ?body ?done ?stop
 case assign =>
  intro l x zk K hK
  gi_wp2
  exact hK
 case body =>
  rintro l pre x zk ⟨⟨hp,h5,h6,h7'⟩,hB⟩ _
  have q5:=h5.cell; have q6:=h6.cell; have q7:=h7'.cell
  have f6:=h6.frozen; have f7:=h7'.frozen
  gi_wp2
  ·rename_i g1 g2
   exact⟨((zR _ _ _).trans (zR _ _ _)).from _,⟨rfl,pre,x,rfl,hp,⟨by simp_all,by simp_all⟩,(h6.set _).other (by omega) _,(h7'.other (by omega) _).set _⟩,
    (hB.setCell (p:=⟨w.heap.size+1+1,0,none⟩) (by show w.heap.size<=w.heap.size+1+1; omega) _).setCell (p:=⟨w.heap.size+1+1+1,0,none⟩) (by show w.heap.size<=w.heap.size+1+1+1; omega) _⟩
  ·rename_i g1 g2
   exact⟨KeepsFrom.refl _ _,Below.refl _ _,⟨λp hp'=>(List.mem_append.1 hp').elim (hp p) (λe=>by simp at e; subst e; intro hh; have:=hh.2; omega),h5,h6,h7'⟩,hB⟩
  ·rename_i g1
   exact⟨KeepsFrom.refl _ _,Below.refl _ _,⟨λp hp'=>(List.mem_append.1 hp').elim (hp p) (λe=>by simp at e; subst e; intro hh; simp_all),h5,h6,h7'⟩,hB⟩
 case done =>
  rintro D ys zk hD rfl ⟨⟨kf,h5,h6,h7'⟩,hB⟩ hK
  have q5:=h5.cell; have q6:=h6.cell; have q7:=h7'.cell
  have f6:=h6.frozen; have f7:=h7'.frozen
  have hv:Go.AM.Lf.nG zs at_ zs.length=(at_,false):=(PB.CQ zs at_ zs.length 0 (by omega) kf).trans rfl
  gi_wp2
  have hK':((zk.setCell ⟨w.heap.size+1+1,0,none⟩ (.int .i64 at_)).setCell ⟨w.heap.size+1+1+1,0,none⟩ (.bool false)).heap[D]? = some (.deferred (some [])) :=
   ((zR _ _ _).trans (zR _ _ _)).same D _ hK rfl
  have g6:Boxed ((zk.setCell ⟨w.heap.size+1+1,0,none⟩ (.int .i64 at_)).setCell ⟨w.heap.size+1+1+1,0,none⟩ (.bool false)) (w.heap.size+1+1) 3 (.int .i64 at_):=(h6.set _).other (by omega) _
  have g7:Boxed ((zk.setCell ⟨w.heap.size+1+1,0,none⟩ (.int .i64 at_)).setCell ⟨w.heap.size+1+1+1,0,none⟩ (.bool false)) (w.heap.size+1+1+1) 4 (.bool false):=(h7'.other (by omega) _).set _
  have hB':Below w.heap.size w ((zk.setCell ⟨w.heap.size+1+1,0,none⟩ (.int .i64 at_)).setCell ⟨w.heap.size+1+1+1,0,none⟩ (.bool false)) :=
   (hB.setCell (p:=⟨w.heap.size+1+1,0,none⟩) (by show w.heap.size<=w.heap.size+1+1; omega) _).setCell (p:=⟨w.heap.size+1+1+1,0,none⟩) (by show w.heap.size<=w.heap.size+1+1+1; omega) _
  rw[hv]
  generalize (zk.setCell ⟨w.heap.size+1+1,0,none⟩ (.int .i64 at_)).setCell ⟨w.heap.size+1+1+1,0,none⟩ (.bool false)=W2 at *
  exact fin (by simp at hD; omega) hK' hB' g6 g7
 case stop =>
  rintro D c pre zk hD ⟨k,hk,rfl⟩ ⟨⟨rfl,ini,last,e1,e2,e3,h6,h7'⟩,hB⟩ hK
  gi_wp2
  obtain⟨k',rfl⟩:∃ k',k=k'+1:=by
   cases k with
   | zero=>simp[PB.upto]at e1
   | succ k'=>exact⟨k',rfl⟩
  rw[PB.Zd]at e1
  obtain⟨rfl,e5⟩:=List.append_inj' e1 rfl
  obtain rfl:PB.at zs zs.length k'=last:=by simpa using e5
  have hv:Go.AM.Lf.nG zs at_ zs.length=(((zs.length-1-k':Nat):Int),true):=by
   rw[PB.CQ zs at_ k' (zs.length-1-k'+1) (by omega) e2]
   simp only[PB.at]at e3
   simp only[Go.AM.Lf.nG]
   rw[if_pos e3]
  rw[hv]
  exact fin (by simp at hD; omega) hK hB h6 h7'
end Go.Proofs

namespace Go.AM.Lf
open Go.Proofs Go.RowKit

theorem GO{P:Program}{g:Nat}{fn:Func}{args:Array Value}{w:World}{hl:Ending->World->Prop}(hf:P.funcs[g]? = some fn) (hn:(fn.name == "runtime.NumGoroutine")=false) (I:fn.body.isNone=false) (h:gy P g args w hl):Calls P g args w hl:=by
 rcases h with⟨_,h⟩ | ⟨v,w',h,_⟩
 ·exact h
 ·rw[uS hf hn I w]at h; cases h

theorem zoa:q8 Tryz.prog 45 ⟨[.ty qy,.ty (.sl .bool),.ty i64],[i64,.bool],λx=>pA x.1 x.2.1 x.2.2⟩:=by
 intro O x xb y vX hy B ha
 obtain⟨f,on,at_⟩:=x
 obtain⟨l,R,hlen,hy⟩:=T.zd.1 hy
 replace hlen:zH l*8<=140737488351232:=hlen
 cases hy
 obtain⟨v0,r,rfl,h0,ha⟩:=wN.cons_inv (show wN O [.qj qy f,.qj (.sl .bool) on,.qj i64 at_] xb from ha)
 obtain⟨v1,r,rfl,h1,ha⟩:=ha.cons_inv
 obtain⟨v2,r,rfl,M,ha⟩:=ha.cons_inv
 rw[ha.wb]
 obtain⟨cs,QB,rfl⟩:=RD.cN h0
 have zfY:=QB.len
 rw[RD.dM M]
 match cs,zfY with
 | [c0,c1,c2,c3,c4,c5],_ =>
 refine .inl ⟨uS Tryz.func45 (by kernel_rfl) rfl O.w,?_⟩
 refine(callsIn_wide (n:=10)).1 ((PB.z4S Fence.wide 10 trivial trivial trivial trivial rfl (by omega) c0 c1 c2 c3 c4 c5 v1 at_ l O.w hlen λzk hW => ?_).mono ?_)
 ·have N:Ext O { O with w:=zk }:=⟨hW.os,hW.tape,hW.output,hW.size,λk hk=>⟨hk,hW.block k (B.bJ k hk)⟩,λk hk=>.inl hk,λ_ _ _ h=>.inl h,λb d h=>by rw[vX]at h; simp at h,
   λb v0 e xs h=>by rw[vX]at h; simp at h,λb h=>by rw[vX]at h; simp at h,V _,λk hk _=>hW.block k hk⟩
  have Vv:Inv { O with w:=zk }:=⟨B.len,λk hk=>zI (B.bJ k hk) hW.size,λb blk n I=>⟨zI (B.apart b blk n I).1 hW.size,(B.apart b blk n I).2⟩,B.inj,λb x I=>by rw[vX]at I; simp at I,B.gl.mono N.same⟩
  refine callsIn_wide.2 (GO Tryz.func44 (by kernel_rfl) rfl ((zkC { O with w:=zk } (f,on) [pk qy [c0,c1,c2,c3,c4,c5],v1] l vX R Vv (.cons (h0.mono N) (.cons (h1.mono N) .nil))).mono ?_))
  rintro e W' ⟨E,rfl,z5Z,hI',GH,v,rfl,hv⟩
  have GG:O.ph=[]:=zY (by rw[B.len,vX]; rfl)
  have hB:Below zk.heap.size zk E.w:=⟨GH.os,GH.tape,GH.output,GH.size,λk hk=>GH.frame k hk λb n h=>by simp[GG]at h⟩
  have hv:=RD.jG (O:=E) (τ:=.sl .bool) (x:=l) hv rfl
  rcases hv.tB with⟨rfl,a,e⟩ | ⟨blk,off,cap,g,e,j3,jg,hg,hc⟩
  ·cases e
   exact⟨a,0,0,rfl,hB,.inl ⟨a,rfl,rfl⟩⟩
  ·cases e
   refine⟨some ⟨blk,off,none⟩,_,cap,rfl,hB,.inr ⟨blk,off,cap,rfl,hI'.bJ blk j3,λj hj => ?_⟩⟩
   have h3:=hc j hj 0 (.bool l[j]) (by rw[(hg j hj).cp]; rfl)
   rw[zT hj]
   simpa[Ty.size]using h3
 ·rintro e W' ⟨rfl,hB⟩
  have N:Ext O { O with w:=W' }:=⟨hB.os,hB.tape,hB.output,hB.size,λk hk=>⟨hk,hB.block k (B.bJ k hk)⟩,λk hk=>.inl hk,λ_ _ _ h=>.inl h,λb d h=>by rw[vX]at h; simp at h,
   λb v0 e xs h=>by rw[vX]at h; simp at h,λb h=>by rw[vX]at h; simp at h,V _,λk hk _=>hB.block k hk⟩
  refine⟨{ O with w:=W' },rfl,vX,⟨B.len,λk hk=>zI (B.bJ k hk) hB.size,λb blk n I=>⟨zI (B.apart b blk n I).1 hB.size,(B.apart b blk n I).2⟩,B.inj,λb x I=>by rw[vX]at I; simp at I,B.gl.mono N.same⟩,N,_,rfl,?_⟩
  refine .eD _ _ rfl λi h1 M => ?_
  match i with
  | 0=>exact RD.int
  | 1=>exact RD.bool
end Go.AM.Lf

namespace Go.AM.Lf
open Go.Proofs Go.Proofs.Tryz
def t252:=t251.d zoa
def z1F:q9:=Lz [] [Mi 2,Mm 12 (.sl .bool),Mi 13] ⟨[Mi 14],[],[]⟩ [kN,⟨.ret,⟨[Mi 6,Mb 7],[],[]⟩⟩] λp s=>ZZ p.1 p.2.1 p.2.2 s
def h46:Hints:=Hz [(0,z1F)] [(0,4,.flat [Mb 24])] []
theorem zck:LO Tryz.f46 z1F 0:=lk t252 (rz [3]) h46 [] zg
theorem zob:q8 Pz 46 ⟨[.ty qy,.ty (.sl .bool),.ty i64],[i64,.bool],λx=>pB x.1 x.2.1 x.2.2⟩:=wq t252 (rz [3]) h46 func46 [0] (qh rfl zck zg)
def t253:=t252.d zob
def h24:Hints:=Hz [] [(0,2,.flat [Mb 28])] []
theorem znU:q8 Pz 24 ⟨[.ty qy,.ty (.sl .bool),.ty i64],[i64],λx=>Z5 x.1 x.2.1 x.2.2⟩:=wq t253 (rz [3]) h24 func24 [] zg
def t254:=t253.d znU
def h9:Hints:=Hz [] [] [(8,[1006000,1006001,1006003,1006004,1006005])]
theorem ok9:jB Pz 9 ⟨[.any],z4b,[],⟨[Ms 1,Mi 2,.v (.qj qw)],[(0,.ptr 0 0)],Zg⟩,3,0,⟨[Ms 1,Mi 2],[(0,.gU)],[]⟩,some 3,λx=>dL x⟩:=Ko t254 rn h9 func9 [] zg
def t255:=t254.p ok9
theorem zhP:q8 Pz 171 ⟨[.ty qv,.rp .str],[.bool],λx=>dI x.1 x.2⟩:=wq t255 (rz [2]) hN func171 [] zg
def t256:=t255.d zhP
def Np:q9:=Lz [] [Mm 0 (.sl qv),.s 1 (.wh 171 [.rp .str]),Mi 7] cU [kN,og] λp s=>ct p.1 (λz0=>dI z0 p.2.1) p.2.2 s
def zeB:Hints:=Hz [(0,Np)] [] []
theorem z6J:LO Tryz.f170 Np 0:=lk t256 rn zeB [] zg
theorem zhO:q8 Pz 170 ⟨[.ty (.sl qv),.wh 171 [.rp .str]],[i64],λx=>gn x.1 (λz0=>dI z0 x.2)⟩:=wq t256 rn zeB func170 [0] (qh rfl z6J zg)
def t257:=t256.d zhO
theorem zgW:q8 Pz 104 ⟨[.ty qy,.ty .str],[i64],λx=>tR x.1 x.2⟩:=wq t257 (rz [2,3]) hN func104 [] zg
def t258:=t257.d zgW
theorem zgY:q8 Pz 106 ⟨[.ty zm],[.bool],λx=>bR x⟩:=wq t258 (rz [1]) hN func106 [] zg
def t259:=t258.d zgY
theorem zhR:q8 Pz 173 ⟨[.ty zm],[.bool],λx=>eZ x⟩:=wq t259 (rz [1]) hN func173 [] zg
def t260:=t259.d zhR
def B3:q9:=Lz [] [Mm 0 (.sl zm),.s 1 (.wh 173 []),Mi 7] cU [kN,og] λp s=>yR p.1 (λz0=>eZ z0) p.2.2 s
def z0k:Hints:=Hz [(0,B3)] [] []
theorem Sa:LO Tryz.f227 B3 0:=lk t260 rn z0k [] zg
theorem OZ:q8 Pz 227 ⟨[.ty (.sl zm),.wh 173 []],[i64],λx=>kS x.1 (λz0=>eZ z0)⟩:=wq t260 rn z0k func227 [0] (qh rfl Sa zg)
def t261:=t260.d OZ
theorem OY:q8 Pz 172 ⟨[.ty (.sl zm),.wh 173 []],[.bool],λx=>vx x.1 (λz0=>eZ z0)⟩:=wq (t261.d OZ) rn hN func172 [] zg
def t262:=t261.d OY
theorem zhU:q8 Pz 176 ⟨[.ty zn],[.bool],λx=>UY x⟩:=wq t262 (rz [1]) hN func176 [] zg
def t263:=t262.d zhU
theorem zhT:q8 Pz 175 ⟨[.ty zn],[.bool],λx=>fc x⟩:=wq t263 (rz [1]) hN func175 [] zg
def t264:=t263.d zhT
def NF:q9:=Lz [] [Mm 0 (.sl zn),.s 1 (.wh 175 []),Mi 7] cU [kN,og] λp s=>bD p.1 (λz0=>fc z0) p.2.2 s
def zeK:Hints:=Hz [(0,NF)] [] []
theorem z6X:LO Tryz.f228 NF 0:=lk t264 rn zeK [] zg
theorem ziz:q8 Pz 228 ⟨[.ty (.sl zn),.wh 175 []],[i64],λx=>ym x.1 (λz0=>fc z0)⟩:=wq t264 rn zeK func228 [0] (qh rfl z6X zg)
def t265:=t264.d ziz
theorem zhS:q8 Pz 174 ⟨[.ty (.sl zn),.wh 175 []],[.bool],λx=>uy x.1 (λz0=>fc z0)⟩:=wq t265 rn hN func174 [] zg
def t266:=t265.d zhS
def O6:q9:=Lz [] [Mm 1 (.sl zm),Mm 12 (.sl qk),Mi 13] ⟨[Mi 14,.v (.qj zm),.v (.qj zm)],[(4,.ptr 0 0),(5,.ptr 1 0)],[.var (.qj zm),.var (.qj zm)]⟩ [⟨.exit 0,z3K⟩] λp s=>XF p.1 p.2.1 p.2.2 s
def zf5:Hints:=Hz [(0,O6)] [] []
theorem z7v:LO Tryz.f296 O6 0:=lk t266 (rz [2]) zf5 [] zg
theorem zju:q8 Pz 296 ⟨[.ty zt,.ty (.sl zm)],[zm],λx=>BS x.1 x.2⟩:=wq t266 (rz [2]) zf5 func296 [0] (qh rfl z7v zg)
def t267:=t266.d zju
theorem ziC:q8 Pz 231 ⟨[.ty zt,.ty (.sl zm)],[.bool],λx=>sJ x.1 x.2⟩:=wq t267 (rz [2]) hN func231 [] zg
def t268:=t267.d ziC
def B5:q9:=Lz [] [Mm 27 (.sl qk),Mi 28] ⟨[Mi 7,Mi 8,Mi 29,.v sx,.a i64,.a i64],[(0,.ptr 0 0),(2,.uT)],UK⟩ [⟨.exit 0,⟨[Mi 7,.v sx,.a i64,.a i64],[],UK⟩⟩] λp s=>ye p.1 p.2 s
def z0n:Hints:=Hz [(0,B5)] [(0,6,.flat [Mb 46])] []
theorem Sd:LO Tryz.f297 B5 0:=lk t268 rn z0n [] zg
theorem P3:xr Pz 297 ⟨Qf,⟨[Mi 1,.v sx,.a i64,.a i64],[(0,.ptr 0 0),(2,.uT)],UK⟩,[],FM,1,λx=>gR x.1 x.2.1 x.2.2.1 x.2.2.2⟩:=ef t268 rn z0n func297 [0] (qh rfl Sd zg)
def t269:=t268.s P3
theorem ziD:q8 Pz 232 ⟨[.ty (.sl zt),.ty (.sl i64),.ty i64,.ty i64],[.bool],λx=>mA x.1 x.2.1 x.2.2.1 x.2.2.2⟩:=wq (t269.s P3) rn hN func232 [] zg
def t270:=t269.d ziD
def zm3:Hints:=Hz [] [(0,4,.ways [⟨.normal,⟨[Mb 8,.v Kg,.a zt,.a i64,.a i64,.v (.qj zt)],[],[.var Kg,.arr zt,.arr i64,.arr i64,.var (.qj zt)]⟩⟩])] []
theorem zhX:xr Pz 179 ⟨Qf,⟨[Mi 1,Mm 2 (.sl zm),.v Kg,.a zt,.a i64,.a i64],[(0,.ptr 0 0)],UL⟩,[],⟨[Mb 0,.v Kg,.a zt,.a i64,.a i64],[],UL⟩,1,λx=>b8 x.1 x.2.1 x.2.2.1 x.2.2.2.1 x.2.2.2.2.1 x.2.2.2.2.2⟩:=ef t270 rn zm3 func179 [] zg
def t271:=t270.s zhX
def zaK:Tb:=t271.d OY
def MY:q9:=Lz [] [Mr 3 xf,Mm 31 (.sl i64),Mi 32] ⟨[Mi 33,.v Kg,.a zt,.a i64,.a i64],[(5,.ptr 0 0)],UL⟩ [⟨.exit 0,z4k⟩,z4n] λp s=>UW p.1 p.2.1 p.2.2 s
def MZ:q9:=Lz [] [Mr 3 xf,Mi 67] ⟨[Mi 68,.v Kg,.a zt,.a i64,.a i64],[(5,.ptr 0 0)],UL⟩ [⟨.exit 2,z4k⟩,z4n] λp s=>UX p.1 p.2 s
def zb9:Hints:=Hz [(0,MY),(2,MZ)] [(0,7,.ways [⟨.normal,⟨[Mb 48,.v Kg,.a zt,.a i64,.a i64],[],UL⟩⟩])] []
theorem z6k:LO Tryz.f105 MY 0:=lk zaK (rz [2,3]) zb9 [] zg
theorem z6l:LO Tryz.f105 MZ 2:=lk zaK (rz [2,3]) zb9 [] zg
theorem zgX:q8 Pz 105 ⟨[.ty qy,.ty xf],[.bool],λx=>QQ x.1 x.2⟩:=wq zaK (rz [2,3]) zb9 func105 [0,2] (qh rfl z6k (qh rfl z6l zg))
def t272:=t271.d zgX
def h48:Hints:=Hz [] [] [(12,[1001006,1001007,1001008])]
theorem zod:q8 Pz 48 ⟨[.ty qy,.ty xf,.ty .str,.ty zm],[xf,(.sl .str),i64],λx=>VK x.1 x.2.1 x.2.2.1 x.2.2.2⟩:=wq t272 (rz [4,5,7]) h48 func48 [] zg
def t273:=t272.d zod
def z1G:q9:=Lz [] [.s 2 (.wh 70 []),Mm 9 (.sl zm),Mi 10] PW [K3] λp s=>tS (λz0=>gv z0) p.2.1 p.2.2 s
def h69:Hints:=Hz [(0,z1G)] [] []
theorem zcl:LO Tryz.f69 z1G 0:=lk t273 rn h69 [] zg
theorem zor:q8 Pz 69 ⟨[.ty .str,.ty (.sl zm),.wh 70 []],[.str],λx=>mG x.1 x.2.1 (λz0=>gv z0)⟩:=wq t273 rn h69 func69 [0] (qh rfl zcl zg)
def t274:=t273.d zor
theorem zoq:q8 Pz 68 ⟨[.ty .bool],[.str],λx=>fg x⟩:=wq t274 rn hN func68 [] zg
def t275:=t274.d zoq
def z1H:q9:=Lz [] [.s 2 (.wh 68 []),Mm 9 (.sl .bool),Mi 10] PW [K3] λp s=>sG (λz0=>fg z0) p.2.1 p.2.2 s
def h71:Hints:=Hz [(0,z1H)] [] []
theorem zcm:LO Tryz.f71 z1H 0:=lk t275 rn h71 [] zg
theorem zot:q8 Pz 71 ⟨[.ty .str,.ty (.sl .bool),.wh 68 []],[.str],λx=>fV x.1 x.2.1 (λz0=>fg z0)⟩:=wq t275 rn h71 func71 [0] (qh rfl zcm zg)
def t276:=t275.d zot
theorem zov:q8 Pz 73 ⟨[.ty i64],[.str],λx=>lT x⟩:=wq t276 rn hN func73 [] zg
def t277:=t276.d zov
def z1I:q9:=Lz [] [.s 2 (.wh 73 []),Mm 9 (.sl i64),Mi 10] PW [K3] λp s=>tT (λz0=>lT z0) p.2.1 p.2.2 s
def h72:Hints:=Hz [(0,z1I)] [] []
theorem zcn:LO Tryz.f72 z1I 0:=lk t277 rn h72 [] zg
theorem zou:q8 Pz 72 ⟨[.ty .str,.ty (.sl i64),.wh 73 []],[.str],λx=>tq x.1 x.2.1 (λz0=>lT z0)⟩:=wq t277 rn h72 func72 [0] (qh rfl zcn zg)
def t278:=t277.d zou
theorem zox:q8 Pz 75 ⟨[.ty zn],[.str],λx=>lU x⟩:=wq t278 (rz [1]) hN func75 [] zg
def t279:=t278.d zox
def z1J:q9:=Lz [] [.s 2 (.wh 75 []),Mm 9 (.sl zn),Mi 10] PW [K3] λp s=>mS (λz0=>lU z0) p.2.1 p.2.2 s
def h74:Hints:=Hz [(0,z1J)] [] []
theorem zco:LO Tryz.f74 z1J 0:=lk t279 rn h74 [] zg
theorem zow:q8 Pz 74 ⟨[.ty .str,.ty (.sl zn),.wh 75 []],[.str],λx=>fW x.1 x.2.1 (λz0=>lU z0)⟩:=wq t279 rn h74 func74 [0] (qh rfl zco zg)
def t280:=t279.d zow
theorem znY:q8 Pz 32 ⟨[.ty xf],[.str],λx=>ff x⟩:=wq t280 (rz [1]) hN func32 [] zg
def t281:=t280.d znY
def zlX:Hints:=Hz [] [(0,1,.H6)] []
theorem za3:xr Pz 115 ⟨[.any],⟨[Mm 0 (.sl .str)],[],[]⟩,[],WI,1,λx=>wR x⟩:=ef t281 rn zlX func115 [] zg
def t282:=t281.s za3
theorem zgV:q8 Pz 103 ⟨[.ty jx,.ty .str],[jx],λx=>XP x.1 x.2⟩:=wq t282 (rz [2]) hN func103 [] zg
def t283:=t282.d zgV
theorem zoc:xr Pz 47 ⟨[.ptr,.any,.any,.any],⟨[Mm 1 xf,Mm 2 (.sl .str),Mi 3,.v (.qj qw)],[(0,.ptr 0 0)],Zg⟩,[],UM,1,λx=>vw x.1 x.2.1 x.2.2.1 x.2.2.2⟩:=ef t283 (rz [5]) hN func47 [] zg
def t284:=t283.s zoc
def h49:Hints:=Hz [] [(0,6,.flat [Mb 26]),(0,8,.flat [Mb 37]),(3,12,.ways [⟨.normal,⟨[.v (.qj xf),.a zm,.a .bool,.a zm,.a i64,.a zn,.a .bool,.v z3x],[],[.var (.qj xf),.arr zm,.arr .bool,.arr zm,.arr i64,.arr zn,.arr .bool,.var z3x]⟩⟩])] [(14,[1007000,1007001,1007002,1007003,1007004,1007005])]
theorem zoe:q8 Pz 49 ⟨[.ty qy,.ty xf,.ty .str,.ty .bool],[xf,(.sl .str),i64],λx=>Zw x.1 x.2.1 x.2.2.1 x.2.2.2⟩:=wq t284 (rz [4,5]) h49 func49 [] zg
def t285:=t284.d zoe
theorem zh1:q8 Pz 109 ⟨[.ty qf,.rp .str],[.bool],λx=>gw x.1 x.2⟩:=wq t285 (rz [2]) hN func109 [] zg
def t286:=t285.d zh1
def HY:q9:=Lz [] [Mm 0 (.sl qf),.s 1 (.wh 109 [.rp .str]),Mi 7] cU [kN,og] λp s=>uZ p.1 (λz0=>gw z0 p.2.1) p.2.2 s
def z0g:Hints:=Hz [(0,HY)] [] []
theorem S6:LO Tryz.f108 HY 0:=lk t286 rn z0g [] zg
theorem OQ:q8 Pz 108 ⟨[.ty (.sl qf),.wh 109 [.rp .str]],[i64],λx=>vJ x.1 (λz0=>gw z0 x.2)⟩:=wq t286 rn z0g func108 [0] (qh rfl S6 zg)
def t287:=t286.d OQ
def ES:q9:=Lz [.cell 5 7 i64] [Mi 53] ⟨[Mi 54,.a i64,.v FI,.a zt,.a i64,.v Dg,.v z92,.a i64],[(3,.ptr 1 0),(10,.ptr 5 0),(52,.cur 3 i64)],z3s⟩ [⟨.exit 1,zao⟩] λp s=>lR p s
def ET:q9:=Lz [] [Mm 74 (.sl zn),Mi 75] ⟨[Mi 76,.a i64,.v FI,.a zt,.a i64,.v Dg,.v z92,.a i64],[(10,.ptr 5 0)],z3s⟩ [⟨.exit 3,zao⟩] λp s=>lS p.1 p.2 s
def z0t:Hints:=Hz [(1,ES),(3,ET)] [(0,4,.flat [Mb 30]),(3,19,.flat [Mi 15])] []
theorem z1i:LO Tryz.f97 ES 1:=lk t287 (rz [2]) z0t [] zg
theorem z1j:LO Tryz.f97 ET 3:=lk t287 (rz [2]) z0t [] zg
theorem z2v:jB Pz 97 ⟨[.any,.agg],⟨[Mm 0 qy,.s 1 FI,.a i64],[],jQ⟩,[],⟨[Mi 2,.a i64,.v zah,.a zt,.a i64,.a i64],[(0,.ptr 1 0),(1,.wE)],[.arr i64,.var zah,.arr zt,.arr i64,.arr i64]⟩,3,0,⟨[.s 1 (.tight .str),Mi 2,.a i64],[(0,.gU)],jQ⟩,some 3,λx=>ep x.1 x.2.1 x.2.2⟩:=Ko t287 (rz [2]) z0t func97 [1,3] (qh rfl z1i (qh rfl z1j zg))
def t288:=t287.p z2v
def O8:q9:=Lz [] [Mm 0 (.sl u32),Mm 1 (.sl u32),Mi 12] z45 [kN,FP] λp s=>gm p.1 p.2.1 p.2.2 s
def zf7:Hints:=Hz [(0,O8)] [] []
theorem z7x:LO Tryz.f299 O8 0:=lk t288 rn zf7 [] zg
theorem zjx:q8 Pz 299 ⟨[.ty (.sl u32),.ty (.sl u32)],[.bool],λx=>jq x.1 x.2⟩:=wq t288 rn zf7 func299 [0] (qh rfl z7x zg)
def t289:=t288.d zjx
theorem ziF:q8 Pz 234 ⟨[.ty zm,.ty zm],[.bool],λx=>Xn x.1 x.2⟩:=wq t289 rn hN func234 [] zg
def t290:=t289.d ziF
theorem ziH:q8 Pz 236 ⟨[.ty qk,.ty qk],[.bool],λx=>mN x.1 x.2⟩:=wq t290 (rz [2,3]) hN func236 [] zg
def t291:=t290.d ziH
def NH:q9:=Lz [] [Mm 1 (.sl qk),.s 2 (.wh 236 []),Mm 15 (.sl qk),Mi 16] ⟨[Mi 17],[],[]⟩ [kN,⟨.ret,⟨[Mb 6],[],[]⟩⟩] λp s=>uU p.1 (λz0 z1=>mN z0 z1) p.2.2.1 p.2.2.2 s
def zeN:Hints:=Hz [(0,NH)] [] []
theorem z6Z:LO Tryz.f235 NH 0:=lk t291 rn zeN [] zg
theorem ziG:q8 Pz 235 ⟨[.ty (.sl qk),.ty (.sl qk),.wh 236 []],[.bool],λx=>jo x.1 x.2.1 (λz0 z1=>mN z0 z1)⟩:=wq t291 rn zeN func235 [0] (qh rfl z6Z zg)
def t292:=t291.d ziG
theorem zi0:q8 Pz 182 ⟨[.ty zt,.ty zt],[.bool],λx=>Vz x.1 x.2⟩:=wq t292 (rz [2,3]) hN func182 [] zg
def t293:=t292.d zi0
def zdV:Tb:=(t293.p zkG).p z2v
def N1:q9:=Lz [] [Mr 3 qy,Mi 42] ⟨[Mi 43,.a i64,.v BN,.v (.qj xf),.v BK,.a zt,.a i64,.a i64,.v BJ,.a zt,.a i64,.a i64],[(5,.ptr 6 0),(6,.ptr 7 0),(9,.ptr 8 0),(12,.ptr 12 0)],[.dead,.dead,.dead,.arr i64,.dead,.dead,.var BN,.var (.qj xf),.var BK,.arr zt,.arr i64,.arr i64,.var BJ,.arr zt,.arr i64,.arr i64]⟩ [⟨.exit 0,⟨[.a i64,.v BN,.v (.qj xf),.v BK,.a zt,.a i64,.a i64,.v BJ,.a zt,.a i64,.a i64],[],[.dead,.dead,.dead,.arr i64,.dead,.dead,.var BN,.var (.qj xf),.var BK,.arr zt,.arr i64,.arr i64,.var BJ,.arr zt,.arr i64,.arr i64]⟩⟩] λp s=>nP p.1 p.2 s
def zeq:Hints:=Hz [(0,N1)] [(0,11,.ways [⟨.normal,⟨[Mb 81,.a i64,.v BN,.v (.qj xf),.v BK,.a zt,.a i64,.a i64,.v BJ,.a zt,.a i64,.a i64],[],[.dead,.dead,.dead,.arr i64,.dead,.dead,.var BN,.var (.qj xf),.var BK,.arr zt,.arr i64,.arr i64,.var BJ,.arr zt,.arr i64,.arr i64]⟩⟩])] [(4,[1006000,1006001,1006002,1006004,1006005]),(14,[1006003])]
theorem z6n:LO Tryz.f110 N1 0:=lk zdV (rz [3,4]) zeq [] zg
theorem zh2:xr Pz 110 ⟨[.any,.any,.agg],⟨[Mm 0 qy,Mm 1 xf,.s 2 z3A,.a zm,.a .bool,.a zm,.a i64,.a zn,.a .bool],[],z3v⟩,[],⟨[.s 0 (.st [.row 6 zm,.row 7 .bool,.im (.sl zm),.row 8 i64,.row 9 zn,.row 10 .bool]),Mm 1 (.sl .str),Mi 2,.a zm,.a .bool,.a i64,.a zn,.a .bool],[],[.dead,.dead,.dead,.dead,.dead,.dead,.arr zm,.arr .bool,.arr i64,.arr zn,.arr .bool]⟩,3,λx=>fR x.1 x.2.1 x.2.2.1 x.2.2.2.1 x.2.2.2.2.1 x.2.2.2.2.2.1 x.2.2.2.2.2.2.1 x.2.2.2.2.2.2.2.1 x.2.2.2.2.2.2.2.2⟩:=ef zdV (rz [3,4]) zeq func110 [0] (qh rfl z6n zg)
def t294:=t293.s zh2
theorem zof:q8 Pz 50 ⟨[.ty qy,.ty xf,.ty .str,.ty zm],[xf,(.sl .str),i64],λx=>oz x.1 x.2.1 x.2.2.1 x.2.2.2⟩:=wq (t294.d OQ) (rz [4,5,6,7]) hN func50 [] zg
def t295:=t294.d zof
theorem zh3:q8 Pz 111 ⟨[.ty qs,.rp .str],[.bool],λx=>yx x.1 x.2⟩:=wq t295 (rz [2]) hN func111 [] zg
def t296:=t295.d zh3
def HW:q9:=Lz [] [Mm 0 (.sl qs),.s 1 (.wh 111 [.rp .str]),Mi 7] cU [kN,og] λp s=>wY p.1 (λz0=>yx z0 p.2.1) p.2.2 s
def z0e:Hints:=Hz [(0,HW)] [] []
theorem S4:LO Tryz.f100 HW 0:=lk t296 rn z0e [] zg
theorem OO:q8 Pz 100 ⟨[.ty (.sl qs),.wh 111 [.rp .str]],[i64],λx=>wa x.1 (λz0=>yx z0 x.2)⟩:=wq t296 rn z0e func100 [0] (qh rfl S4 zg)
def t297:=t296.d OO
theorem zog:q8 Pz 51 ⟨[.ty qy,.ty xf,.ty .str,.ty .bool],[xf,(.sl .str),i64],λx=>mB x.1 x.2.1 x.2.2.1 x.2.2.2⟩:=wq (t297.d OO) (rz [4,5,6]) hN func51 [] zg
def t298:=t297.d zog
theorem zoh:xr Pz 53 ⟨Qf,⟨[Mi 1,Mi 2,.v (.qj qw)],[(0,.ptr 0 0)],Zg⟩,[],UM,1,λx=>jL x.1 x.2.1 x.2.2⟩:=ef t298 rn hN func53 [] zg
def t299:=t298.s zoh
theorem zkD:xr Pz 52 ⟨[.ptr,.wh 46],⟨[.s 1 (.wh 46 []),.v (.qj qw)],[(0,.ptr 0 0)],Zg⟩,[],UM,1,λx=>j6 (λz0 z1 z2=>pB z0 z1 z2) x.2⟩:=ef t299 rn hN func52 [] zg
def t300:=t299.s zkD
theorem z2n:xr Pz 52 ⟨[.ptr,.wh 45],⟨[.s 1 (.wh 45 []),.v (.qj qw)],[(0,.ptr 0 0)],Zg⟩,[],UM,1,λx=>j6 (λz0 z1 z2=>pA z0 z1 z2) x.2⟩:=ef t300 rn hN func52 [] zg
def t301:=t300.s z2n
theorem zh5:q8 Pz 113 ⟨[.ty xp,.rp .str],[.bool],λx=>dP x.1 x.2⟩:=wq t301 (rz [2]) hN func113 [] zg
def t302:=t301.d zh5
def HZ:q9:=Lz [] [Mm 0 (.sl xp),.s 1 (.wh 113 [.rp .str]),Mi 7] cU [kN,og] λp s=>yk p.1 (λz0=>dP z0 p.2.1) p.2.2 s
def z0h:Hints:=Hz [(0,HZ)] [] []
theorem S7:LO Tryz.f112 HZ 0:=lk t302 rn z0h [] zg
theorem OR:q8 Pz 112 ⟨[.ty (.sl xp),.wh 113 [.rp .str]],[i64],λx=>uV x.1 (λz0=>dP z0 x.2)⟩:=wq t302 rn z0h func112 [0] (qh rfl S7 zg)
def t303:=t302.d OR
theorem zoi:q8 Pz 54 ⟨[.ty qy,.ty (.sl .bool),.ty .str],[i64,i64],λx=>W5 x.1 x.2.1 x.2.2⟩:=wq (t303.d OR) (rz [3,5]) hN func54 [] zg
def t304:=t303.d zoi
def zba:Hints:=Hz [] [(0,1,.H6)] []
theorem CR:q8 Pz 115 ⟨[.ty (.sl .str)],[(.sl .str)],λx=>wQ x⟩:=wq t304 rn zba func115 [] zg
def t305:=t304.d CR
theorem zh7:q8 Pz 116 ⟨[.ty (.sl .str),.ty (.sl .str),.ty .str],[(.sl .str),(.sl .str),.str],λx=>tX x.1 x.2.1 x.2.2⟩:=wq (t305.s za3) rn hN func116 [] zg
def t306:=t305.d zh7
theorem zoj:q8 Pz 56 ⟨[.ty jx,.ty .str],[jx,.str,.bool],λx=>tW x.1 x.2⟩:=wq (t306.d CR) (rz [2]) hN func56 [] zg
def t307:=t306.d zoj
theorem ziS:jB Pz 247 ⟨[.any],z4c,[],⟨[],[],[]⟩,0,377,XC,none,λx=>uw x⟩:=Ko t307 rn hN func247 [] zg
def t308:=t307.p ziS
theorem zjy:jB Pz 300 ⟨[.ptr],⟨[.v (.qj jv)],[(0,.ptr 0 0)],FH⟩,[],⟨[Ms 0,.v (.qj jv)],[],FH⟩,1,377,z3Q,none,λx=>b9 x⟩:=Ko t308 rn hN func300 [] zg
def t309:=t308.p zjy
theorem ziK:jB Pz 239 ⟨lD,⟨[Ms 1,.v (.qj jv)],[(0,.ptr 0 0)],FH⟩,[],⟨[Mm 0 (.sl .str),.v (.qj jv)],[],FH⟩,1,377,z3Q,none,λx=>wO x.1 x.2⟩:=Ko t309 rn hN func239 [] zg
def t310:=t309.p ziK
theorem ziL:jB Pz 240 ⟨[.any],Qw,[],⟨[Mm 0 zm],[],[]⟩,1,377,XC,none,λx=>dc x⟩:=Ko t310 rn hN func240 [] zg
def t311:=t310.p ziL
def NI:q9:=Lz [.slot 5 zm] [Mm 8 (.sl .str),Mi 9] ⟨[Mi 10,.a zm],[(1,.wh 240 []),(5,.cur 0 zm)],tE⟩ [⟨.exit 0,⟨[.a zm],[(5,.cur 0 zm)],tE⟩⟩,⟨.hZ (.iface 377 .v8),⟨[Mm 0 .nil,.a zm],[],tE⟩⟩] λp s=>gC p.1 p.2 s
def zeO:Hints:=Hz [(0,NI)] [] []
theorem z71:LO Tryz.f238 NI 0:=lk t311 rn zeO [] zg
theorem ziJ:jB Pz 238 ⟨[.any,.wh 240],⟨[Mm 0 (.sl .str),.s 1 (.mclo 240 [])],[],[]⟩,[],z3Z,1,377,XC,none,λx=>uL x.1 x.2⟩:=Ko t311 rn zeO func238 [0] (qh rfl z71 zg)
def t312:=t311.p ziJ
theorem ziN:jB Pz 242 ⟨[.any],Qw,[],z4c,1,377,XC,none,λx=>mD x⟩:=Ko t312 rn hN func242 [] zg
def t313:=t312.p ziN
def NJ:q9:=Lz [.slot 5 .bool] [Mm 8 (.sl .str),Mi 9] ⟨[Mi 10,.a .bool],[(1,.wh 242 []),(5,.cur 0 .bool)],[.arr .bool]⟩ [z4r,⟨.hZ (.iface 377 .v8),⟨[Mm 0 .nil,.a .bool],[],[.arr .bool]⟩⟩] λp s=>gD p.1 p.2 s
def zeP:Hints:=Hz [(0,NJ)] [] []
theorem z73:LO Tryz.f241 NJ 0:=lk t313 rn zeP [] zg
theorem ziM:jB Pz 241 ⟨[.any,.wh 242],⟨[Mm 0 (.sl .str),.s 1 (.mclo 242 [])],[],[]⟩,[],z3X,1,377,XC,none,λx=>uM x.1 x.2⟩:=Ko t313 rn zeP func241 [0] (qh rfl z73 zg)
def t314:=t313.p ziM
end Go.AM.Lf
namespace Go.AM
open Go.AM.Lf Go.RowKit Go.Proofs
theorem DN(w:World)(e:TypeId)(s:ByteArray):Below w.heap.size w (Go.Lib.bytesWorld w e s):=by
 refine⟨rfl,rfl,rfl,?_,λb I=>Go.Lib.bytesWorld_at_old w e s b I⟩
 simp[Go.Lib.bytesWorld,World.freeze,World.alloc,World.drew,-World.alloc_eq,-World.drew_eq]
theorem E2:∀ (l:List UInt8) (acc k:Nat),l.length+k<=18->acc<10 ^ k->(∀ b∈l,48<=b.toNat/\b.toNat<=57)->qO acc l=.ok (l.foldl (λn b=>n*10+(b.toNat-48)) acc)
 | [],acc,_,_,_,_=>rfl
 | c::l,acc,k,hk,ha,J=>by
  have h1:=J c qC
  rw[zK]at hk
  have e:=Nat.pow_le_pow_right (show 0<10 by omega) (show k<=17 by omega)
  rw[qO,if_pos h1,if_neg (by omega),if_neg (by omega),E2 l _ (k+1) (by omega) (by rw[Nat.pow_succ]; omega) λb I=>J b (qJ _ I)]
  rfl
theorem z9g:∀ (l:List UInt8) (acc k:Nat),acc<10 ^ k->(∀ b∈l,48<=b.toNat/\b.toNat<=57)->l.foldl (λn b=>n*10+(b.toNat-48)) acc<10 ^ (k+l.length)
 | [],acc,k,ha,_=>ha
 | c::l,acc,k,ha,J=>by
  have h1:=J c qC
  have:=z9g l (acc*10+(c.toNat-48)) (k+1) (by rw[Nat.pow_succ]; omega) λb I=>J b (qJ _ I)
  rwa [zK,show k+(l.length+1)=k+1+l.length by omega]
theorem z5f{s:zx}(h0:s≠[])(h1:s.length<=18)(J:∀ b∈s,48<=b.toNat/\b.toNat<=57):Go.Lib.atoiAll s=.ok (dgV s:Int):=by
 cases s with
 | nil=>exact absurd rfl h0
 | cons c r =>
  have hc:=J c qC
  have hp:=E2 (c::r) 0 0 (by omega) (by omega) J
  have R:=zI (z9g (c::r) 0 0 (by omega) J) (Nat.pow_le_pow_right (show 0<10 by omega) (show 0+(c::r).length<=18 by omega))
  unfold Go.Lib.atoiAll
  simp only[if_neg (show ¬ (c.toNat=43\/c.toNat=45) by omega),Go.Lib.parseMag,if_neg (List.cons_ne_nil c r),hp]
  have hn:¬ c.toNat=45:=by omega
  simp only[hn,not_false_eq_true,true_and,false_and,if_false]
  rw[if_neg (by omega)]
  rfl
theorem zk7:xr Tryz.prog 348 ⟨[.any],Qw,[],⟨[.s 0 (.qj i64)],[(1,.v8)],[]⟩,2,λx=>strconv_Atoi x⟩:=by
 intro O x xb y vX hy B hlen hR
 obtain⟨⟨⟨h0,h1⟩,M⟩,rfl⟩:=hy
 obtain⟨v0,hv0,hd0⟩:=hR.get 0 (.qj .str x) rfl
 have fk:xb.toArray = #[.string ⟨x.toArray⟩]:=by
  match xb,hlen with
  | [a],_ =>
   simp at hv0
   rw[hv0,hd0.jc]
 rw[fk]
 refine .inl ⟨nH Tryz.func348 (by kernel_rfl) rfl O.w,(Go.Proofs.Tryz.strconv_Atoi_ok ⟨x.toArray⟩ (by rw[show(zF ⟨x.toArray⟩)=zH x from Y]; omega) (dgV x:Int) (z5f h0 h1 M) O.w).mono ?_⟩
 rintro e w' ⟨rfl,hw⟩
 have hB:Below O.w.heap.size O.w w':=hw.elim (λh=>h▸Zn _) λ⟨t,h⟩=>h▸DN _ _ _
 obtain⟨g1,g2⟩:=Ek B vX hB
 refine⟨O.grown w',[.qj i64 (dgV x:Int),.v8],rfl,vX,g1,g2,rfl,_,rfl,.eD _ _ rfl λi h1 M => ?_⟩
 match i with
 | 0=>exact RD.int
 | 1=>exact RD.v8

end Go.AM
namespace Go.AM.Lf
open Go.Proofs Go.Proofs.Tryz
def t315:=t314.s zk7
def zmm:Hints:=Hz [] [(0,1,.ways [⟨.normal,⟨[],[],[]⟩⟩,⟨.hZ (.iface 377 .v8),XC⟩])] []
theorem zjz:jB Pz 301 ⟨[.any],Qw,[],z48,1,377,XC,none,λx=>mC x⟩:=Ko t315 rn zmm func301 [] zg
def t316:=t315.p zjz
theorem ziP:jB Pz 244 ⟨[.any],Qw,[],z48,1,377,XC,none,λx=>mE x⟩:=Ko t316 rn hN func244 [] zg
def t317:=t316.p ziP
def NK:q9:=Lz [.slot 5 i64] [Mm 8 (.sl .str),Mi 9] ⟨[Mi 10,.a i64],[(1,.wh 244 []),(5,.cur 0 i64)],jQ⟩ [⟨.exit 0,⟨[.a i64],[(5,.cur 0 i64)],jQ⟩⟩,⟨.hZ (.iface 377 .v8),⟨[Mm 0 .nil,.a i64],[],jQ⟩⟩] λp s=>hH p.1 p.2 s
def zeQ:Hints:=Hz [(0,NK)] [] []
theorem z74:LO Tryz.f243 NK 0:=lk t317 rn zeQ [] zg
theorem ziO:jB Pz 243 ⟨[.any,.wh 244],⟨[Mm 0 (.sl .str),.s 1 (.mclo 244 [])],[],[]⟩,[],M8,1,377,XC,none,λx=>kV x.1 x.2⟩:=Ko t317 rn zeQ func243 [0] (qh rfl z74 zg)
def t318:=t317.p ziO
def zmx:Hints:=Hz [] [(0,1,.flat [Mb 4])] []
theorem zkq:q8 Pz 377 ⟨[.ty .str,.ty .str],[.bool],λx=>jY x.1 x.2⟩:=wq t318 rn zmx func377 [] zg
def t319:=t318.d zkq
theorem zk8:q8 Pz 349 ⟨[.ty .str,.ty .str],[.str,.bool],λx=>jW x.1 x.2⟩:=wq t319 rn hN func349 [] zg
def t320:=t319.d zk8
theorem zjA:q8 Pz 302 ⟨[.ty .str,.ty .str],[.str,.bool],λx=>strings_CutSuffix x.1 x.2⟩:=wq t320 rn hN func302 [] zg
def t321:=t320.d zjA
theorem ziR:jB Pz 246 ⟨[.any],Qw,[],⟨[Mm 0 zn],[],[]⟩,1,377,XC,none,λx=>mF x⟩:=Ko t321 rn hN func246 [] zg
def t322:=t321.p ziR
def NL:q9:=Lz [.slot 5 zn] [Mm 8 (.sl .str),Mi 9] ⟨[Mi 10,.a zn],[(1,.wh 246 []),(5,.cur 0 zn)],M7⟩ [⟨.exit 0,⟨[.a zn],[(5,.cur 0 zn)],M7⟩⟩,⟨.hZ (.iface 377 .v8),⟨[Mm 0 .nil,.a zn],[],M7⟩⟩] λp s=>yt p.1 p.2 s
def zeR:Hints:=Hz [(0,NL)] [] []
theorem z7a:LO Tryz.f245 NL 0:=lk t322 rn zeR [] zg
theorem ziQ:jB Pz 245 ⟨[.any,.wh 246],⟨[Mm 0 (.sl .str),.s 1 (.mclo 246 [])],[],[]⟩,[],z3O,1,377,XC,none,λx=>ji x.1 x.2⟩:=Ko t322 rn zeR func245 [0] (qh rfl z7a zg)
def t323:=t322.p ziQ
theorem ziI:cB (Me Pz) 237 ⟨[.ptr],⟨[.v (.qj i64)],[(0,.ptr 0 0)],M4⟩,[],z43,0,λx=>fS x⟩:=fkr t323 rn hN Tryz.func237
theorem z8g:cB (R1 Pz 377) 237 ⟨lD,⟨[Mm 1 .nil,.v (.qj i64)],[(0,.ptr 0 0)],M4⟩,[],z43,0,λx=>wC x.1 x.2⟩:=fkh t323 rn hN Tryz.func237 1
theorem zi1:xr Pz 183 ⟨[.any],Qw,[],⟨[.s 0 z3A,Mi 1,.a zm,.a .bool,.a zm,.a i64,.a zn,.a .bool],[],z3v⟩,2,λx=>oB x⟩:=fkf t323 rn hN (g:=237) (pt:=377) ziI z8g Tryz.func183
def t324:=t323.s zi1
theorem zh6:q8 Pz 114 ⟨[.ty qy,.ty .str],[xf,i64],λx=>sF x.1 x.2⟩:=wq t324 (rz [2]) hN func114 [] zg
def t325:=t324.d zh6
theorem zkE:xr Pz 55 ⟨[.ptr,.wh 56],⟨[.s 1 (.wh 56 []),.v (.qj qw)],[(0,.ptr 0 0)],Zg⟩,[],UM,1,λx=>uP (λz0 z1=>tW z0 z1) x.2⟩:=ef t325 rn hN func55 [] zg
def t326:=t325.s zkE
theorem zok:q8 Pz 57 ⟨[.ty jx,.ty .str],[jx,.str,.bool],λx=>tV x.1 x.2⟩:=wq (t326.d CR) (rz [2]) hN func57 [] zg
def t327:=t326.d zok
theorem z2o:xr Pz 55 ⟨[.ptr,.wh 57],⟨[.s 1 (.wh 57 []),.v (.qj qw)],[(0,.ptr 0 0)],Zg⟩,[],UM,1,λx=>uP (λz0 z1=>tV z0 z1) x.2⟩:=ef t327 rn hN func55 [] zg
def t328:=t327.s z2o
theorem zk9:q8 Pz 350 ⟨[.ty .str,.ty wJ,.ty (.sl zm)],[zm,i64],λx=>VA x.1 x.2.1 x.2.2⟩:=wq t328 (rz [4]) hN func350 [] zg
def t329:=t328.d zk9
theorem zjC:q8 Pz 304 ⟨[.ty zm,.ty zm],[zm],λx=>Uv x.1 x.2⟩:=wq t329 (rz [2,3]) hN func304 [] zg
def t330:=t329.d zjC
abbrev ze3:=dT [.ty .expr,.ty wJ,.ty (.sl zm)]->T (Dj [zm,i64])
abbrev zlJ(F:ze3):=q8 Pz 303 ⟨[.ty .expr,.ty wJ,.ty (.sl zm)],[zm,i64],F⟩
theorem z8j(Hl:ze3)(z0x:zlJ Hl):q8 Pz 303 ⟨[.ty .expr,.ty wJ,.ty (.sl zm)],[zm,i64],λx=>ya (λy0 y1 y2=>Hl (y0,y1,y2)) x.1 x.2.1 x.2.2⟩:=wq (t330.d z0x) (rz [3,4]) hN func303 [] zg
theorem zjB:q8 Pz 303 ⟨[.ty .expr,.ty wJ,.ty (.sl zm)],[zm,i64],λx=>Zl x.1 x.2.1 x.2.2⟩:=Yd (λHl x=>ya (λy0 y1 y2=>Hl (y0,y1,y2)) x.1 x.2.1 x.2.2) (λx=>rfl) (λHl z0x=>z8j Hl z0x)
def t331:=t330.d zjB
theorem ziU:q8 Pz 249 ⟨[.ty .expr,.ty wJ,.ty (.sl zm)],[zm,i64],λx=>tI x.1 x.2.1 x.2.2⟩:=wq t331 (rz [3,4]) hN func249 [] zg
def t332:=t331.d ziU
theorem ziV:q8 Pz 250 ⟨[.ty zm,.ty zm],[i64],λx=>KE x.1 x.2⟩:=wq t332 (rz [2,3]) hN func250 [] zg
def t333:=t332.d ziV
def zm4:Hints:=Hz [] [(0,3,.flat [Mb 33])] []
theorem zi3:q8 Pz 185 ⟨[.ty xj,.ty wJ,.ty (.sl zm)],[.bool],λx=>oS x.1 x.2.1 x.2.2⟩:=wq t333 (rz [3,4]) zm4 func185 [] zg
def t334:=t333.d zi3
def N4:q9:=Lz [] [Mr 2 qy,Mr 3 xf,Mi 7,Mm 20 (.sl .bool),Mi 21,Mi 22,Mm 30 (.sl qv),Mi 31] ⟨[Mi 32,.v (.qj wJ),.a .str],[(5,.cur 1 .str),(6,.ptr 0 0)],M5⟩ [⟨.exit 2,z4h⟩] λp s=>iQ p.1 p.2.1 p.2.2.1 p.2.2.2.1 p.2.2.2.2.1 p.2.2.2.2.2.1 p.2.2.2.2.2.2.1 p.2.2.2.2.2.2.2 s
def N5:q9:=Lz [] [Mr 2 qy,Mr 3 xf,Mi 7,Mm 20 (.sl .bool),Mi 21,Mi 22,Mm 67 (.sl xj),Mi 68] ⟨[Mi 69,.v (.qj wJ),.a .str],[(5,.cur 1 .str),(6,.ptr 0 0)],M5⟩ [⟨.exit 4,z4h⟩] λp s=>iR p.1 p.2.1 p.2.2.1 p.2.2.2.1 p.2.2.2.2.1 p.2.2.2.2.2.1 p.2.2.2.2.2.2.1 p.2.2.2.2.2.2.2 s
def N3:q9:=Lz [.slot 5 .str] [Mr 2 qy,Mr 3 xf,Mm 20 (.sl .bool),Mi 21] ⟨[Mi 22,.v (.qj wJ),.a .str],[(5,.cur 1 .str),(6,.ptr 0 0)],M5⟩ [⟨.exit 0,z4h⟩] λp s=>iP p.1 p.2.1 p.2.2.1 p.2.2.2 s
def z5v:Hints:=Hz [(2,N4),(4,N5),(0,N3)] [(0,10,.flat [Mb 59]),(0,16,.ways [⟨.normal,⟨[Mb 83,.v (.qj wJ),.a .str,.v (.qj xj)],[(5,.cur 1 .str)],[.var (.qj wJ),.arr .str,.var (.qj xj)]⟩⟩])] []
theorem z6q:LO Tryz.f117 N4 2:=lk t334 (rz [2,3]) z5v [] zg
theorem z6r:LO Tryz.f117 N5 4:=lk t334 (rz [2,3]) z5v [] zg
theorem z6p:LO Tryz.f117 N3 0:=lk t334 (rz [2,3]) z5v [2,4] (qh rfl z6q (qh rfl z6r zg))
theorem zh8:q8 Pz 117 ⟨[.ty qy,.ty xf],[(.sl .str)],λx=>iM x.1 x.2⟩:=wq t334 (rz [2,3]) z5v func117 [0] (qh rfl z6p zg)
def t335:=t334.d zh8
def N7:q9:=Lz [.slot 6 qf] [Mr 3 xf,Mm 5 (.sl .bool),Mm 15 (.sl qv),Mi 16] ⟨[Mi 17,.a qf],[(6,.cur 0 qf)],[.arr qf]⟩ [⟨.exit 0,⟨[.a qf],[(6,.cur 0 qf)],[.arr qf]⟩⟩] λp s=>Q6 p.1 p.2.1 p.2.2.1 p.2.2.2 s
def zet:Hints:=Hz [(0,N7)] [(0,6,.flat [Mb 39]),(3,8,.ways [⟨.normal,⟨[.a qf,.v (.qj qv),.v (.qj zm)],[(6,.cur 0 qf)],[.arr qf,.var (.qj qv),.var (.qj zm)]⟩⟩])] []
theorem z6t:LO Tryz.f119 N7 0:=lk t335 (rz [2,3]) zet [] zg
theorem zha:q8 Pz 119 ⟨[.ty qy,.ty xf],[(.sl qf)],λx=>W9 x.1 x.2⟩:=wq t335 (rz [2,3]) zet func119 [0] (qh rfl z6t zg)
def t336:=t335.d zha
def N6:q9:=Lz [.cell 0 1 (.int .u8)] [Mm 6 (.sl qf),Mi 7] ⟨[Mi 8,.v Jn,.a (.int .u8)],[(3,.ptr 0 0)],Qu⟩ [Ma] λp s=>mj p.1 p.2 s
def zes:Hints:=Hz [(0,N6)] [] []
theorem z6s:LO Tryz.f118 N6 0:=lk t336 rn zes [] zg
theorem zh9:q8 Pz 118 ⟨[.ty (.sl qf)],[.str],λx=>mL x⟩:=wq t336 rn zes func118 [0] (qh rfl z6s zg)
def t337:=t336.d zh9
theorem zol:xr Pz 58 ⟨[.ptr],z3U,[],UM,1,λx=>kQ x⟩:=ef t337 rn hN func58 [] zg
def t338:=t337.s zol
def h26:Hints:=Hz [] [(3,4,.flat [Mb 27])] []
theorem znV:xr Pz 26 ⟨lD,z3N,[],UM,1,λx=>gF x.1 x.2⟩:=ef ((((t338.s z2o).s zkE).s z2n).s zkD) (rz [3]) h26 func26 [] zg
def t339:=t338.s znV
theorem z8h:cB (Me Pz) 25 ⟨[.ptr,.ptr,.ptr],⟨[.v (.qj qw),.v (.qj wF),.v (.qj qw)],[(0,.ptr 0 0),(1,.ptr 1 0),(2,.ptr 2 0)],[.var (.qj qw),.cvar (.ptr 3 0),.var (.qj wF),.var (.qj qw)]⟩,[],⟨[.v (.qj qw),.v (.qj wF),.v (.qj qw)],[],[.var (.qj qw),.cvar (.ptr 3 0),.var (.qj wF),.var (.qj qw)]⟩,0,λx=>cC x.1 x.2.1 x.2.2⟩:=fkr t339 rn hN Tryz.func25
theorem zhb:xr Pz 12 ⟨lD,z3N,[],UM,1,λx=>jV x.1 x.2⟩:=fkf t339 (rz [3]) hN (g:=25) (pt:=0) z8h (z9l z8h) Tryz.func12
def t340:=t339.s zhb
def z1l:q9:=Lz [.slot 5 wF] [Mm 8 (.sl bK),Mi 9] ⟨[Mi 10,.v (.qj qw),.a wF],[(0,.ptr 0 0),(5,.cur 1 wF)],M0⟩ [⟨.exit 0,⟨[.v (.qj qw),.a wF],[(5,.cur 1 wF)],M0⟩⟩] λp s=>ic p.1 p.2 s
def h14:Hints:=Hz [(0,z1l)] [] []
theorem zc0:LO Tryz.f14 z1l 0:=lk t340 rn h14 [] zg
theorem zhs:xr Pz 14 ⟨lD,⟨[Mm 1 (.sl bK),.v (.qj qw)],[(0,.ptr 0 0)],Zg⟩,[],⟨[.v (.qj qw),.a wF],[(0,.cur 1 wF)],M0⟩,1,λx=>oh x.1 x.2⟩:=ef t340 rn h14 func14 [0] (qh rfl zc0 zg)
def t341:=t340.s zhs
theorem z2l:xr Pz 12 ⟨Gw,⟨[Mm 1 bK],[(0,.gU)],[]⟩,[],⟨[Mm 0 wF],[],[]⟩,1,λx=>mV x⟩:=fkf t341 (rz [3]) hN (g:=25) (pt:=0) z8h (z9l z8h) Tryz.func12
def t342:=t341.s z2l
def z98:Tb:=t342.s z2l
def EN:q9:=Lz [.slot 5 wF] [Mm 8 (.sl bK),Mi 9] ⟨[Mi 10,.a wF],[(0,.gU),(5,.cur 0 wF)],[.arr wF]⟩ [⟨.exit 0,⟨[.a wF],[(5,.cur 0 wF)],[.arr wF]⟩⟩] λp s=>ez p.1 p.2 s
def z9n:Hints:=Hz [(0,EN)] [] []
theorem z1e:LO Tryz.f14 EN 0:=lk z98 rn z9n [] zg
theorem z2m:xr Pz 14 ⟨Gw,⟨[Mm 1 (.sl bK)],[(0,.gU)],[]⟩,[],⟨[.a wF],[(0,.cur 0 wF)],[.arr wF]⟩,1,λx=>ll x⟩:=ef z98 rn z9n func14 [0] (qh rfl z1e zg)
def t343:=t342.s z2m
def h10:Hints:=Hz [] [(0,3,.flat [Mb 22]),(0,6,.flat [Mb 0])] []
theorem znN:q8 Pz 10 ⟨[],[.bool],λ_=>jD⟩:=wq ((t343.s z2m).s zhs) rn h10 func10 [] zg
def t344:=t343.d znN
end Go.AM.Lf
