/-
  The walk, part 0: each function of the program is the tree that the lifted text says; printed by a program of ours.
-/
import Derived.Test.YtgnfpdlhibjeeaaGreatDoorProg
import Derived.KernelRfl
import Derived.Test.YtgnfpdlhibjeeaaGreatDoorAmE
import Derived.Test.YtgnfpdlhibjeeaaGreatDoorLf1
import Derived.Lib.Builder
import Derived.Shelf.Strings.Builder1
import Derived.WalkKit
import Derived.TacticsInMore
import Derived.Maps.OwnOps
import Derived.Maps.AppendAt
import Derived.StringKeys
import Derived.Maps.Views
import Derived.Shelf.Strings.FieldsFuncAny
import Derived.RangeFuncBox
import Derived.RangeFuncLeaves
import Derived.RangeFuncNested
import Derived.Shelf.Abstract
import Derived.OwnWalkIn
import Derived.LoopNIn
import Derived.LoopIn
import Derived.Lib.AtoiAll
import Derived.Lib.ConvBytes
import Derived.Test.YtgnfpdlhibjeeaaGreatDoorSh
set_option linter.unusedVariables false
open Go.Obj renaming cells -> zA
open List renaming size_toArray -> Y, length -> zH, length_cons -> zK, append_toArray -> zS, getElem?_eq_getElem -> zT, push_toArray -> zV, take_succ_eq_append_getElem -> zW, cons_append -> zX, eq_nil_of_length_eq_zero -> zY, length_nil -> zZ, nil_append -> qA, mem_cons_self -> qC, mem_cons_of_mem -> qJ
open Go.Value renaming int -> I, pointer -> zG, bool -> zM, slice -> qM, agg -> qR
open Nat renaming le_refl -> R, lt_of_lt_of_le -> zI, reduceAdd -> qE, reduceSub -> qF, zero_le -> qK
open Option renaming none -> zE, map_eq_some_iff -> qG
open ByteArray renaming size -> zF
open Go.Builtin renaming unsafeSliceData_ -> zJ, append_ -> zU, zeroCells -> qD, unsafeString_ -> qI, firstCells -> qN
open Go.World renaming size_alloc -> zL
open Go.Oper renaming semAt_some -> zN, upon_value -> qH
open Array renaming replicate_succ -> zO, replicate_zero -> zP
open Go.Lib renaming cell_of_heap -> zQ, run_unsafeSliceData_row -> qB, parseUint10 -> qO, pow10Tab -> qP
open Go.KeepsOthers renaming setCell -> zR
open Go.Result renaming andThen -> qL
open Go.Boxed renaming new -> qQ
set_option maxRecDepth 100000
noncomputable section
namespace Go.AM.Lf
open Go.Proofs Go.Proofs.Tryz
abbrev LD:Nat:=60
noncomputable abbrev Pz:Program:=Tryz.prog
def y8(f:Func):Code:=match f.body with | some c=>c | none=>.skip
def lb(k:Nat)(f:Func):Code:=match VL k (y8 f)with | some c=>c | none=>.skip
theorem mixed:Pz.follows .mixedOrders=true:=by kernel_rfl
instance:gy:={ u8:=5,tab:=[(0,I2 .u64 qP),(2,DM .i64)] }
theorem iw{O:KS}(hI:Inv O):Lib.TabIs Tryz.prog O.w "internal/strconv.uint64pow10" .u64 qP :=
 zfr (g:=0) (by kernel_rfl) (hI.gl (0,I2 .u64 qP) (by simp[gy.tab])).2
theorem ya{O:KS}(hI:Inv O):∃ m,O.w.cell? ⟨2,0,none⟩=some (.int .i64 m) :=
 TC (hI.gl (2,DM .i64) (by simp[gy.tab])).2
structure Tb where
 t:mj
 ok:eU Pz t
def Tb.d(T:Tb){g:Nat}{d:ER}(h:zw Pz g d):Tb:=⟨(g,.d d)::T.t,Nx h T.ok⟩
def Tb.s(T:Tb){g:Nat}{d:bA}(h:xw Pz g d):Tb:=⟨(g,.s d)::T.t,L4 h T.ok⟩
def Tb.p(T:Tb){g:Nat}{d:mh}(h:jx Pz g d):Tb:=⟨(g,.p d)::T.t,L3 h T.ok⟩
def t0:Tb:=⟨[],z0t _⟩
def fL:List (Nat×zy)->Nat->Option zy
 | [],_=>none
 | x::r,n=>bif Nat.beq x.1 n then some x.2 else fL r n
def fC:List (Nat×Nat×z71)->Nat->Nat->Option z71
 | [],_,_=>none
 | x::r,k,n=>bif Nat.beq x.1 k&&Nat.beq x.2.1 n then some x.2.2 else fC r k n
def fF:List (Nat×List Nat)->Nat->List Nat
 | [],_=>[]
 | x::r,n=>bif Nat.beq x.1 n then x.2 else fF r n
def Hz(l:List (Nat×zy))(c:List (Nat×Nat×z71))(f:List (Nat×List Nat)):Hints:=⟨fL l,fC c,fF f⟩
def hN:Hints:=Hz [] [] []
def rz(l:List Nat)(s:Nat):Bool:=l.any (Nat.beq s)
def rn(_:Nat):Bool:=false
def Lz(gh:List Gh)(ps:List It)(sh:ug)(ws:List Way)(zD:jZ ps->sh.den->T (sh.den⊕iF ws)):zy:=⟨gh,ps,sh,ws,λp s=>T.loop (zD p) s⟩
abbrev LO(f:Func)(l:zy)(i:Nat):Prop:=Ul Pz f.ntmps l (lb i f)
def ls(f:Func):List Nat->List (Nat×Code)
 | []=>[]
 | i::r=>(i,lb i f)::ls f r
abbrev Mi(n:Nat):It:=.s n (.qj i64)
abbrev Mb(n:Nat):It:=.s n (.qj .bool)
abbrev Ms(n:Nat):It:=.s n (.qj .str)
abbrev Mm(n:Nat)(t:Ty):It:=.s n (.qj t)
abbrev Mr(n:Nat)(t:Ty):It:=.s n (.vC t)
abbrev Sh0(l:List It):ug:=⟨l,[],[]⟩
theorem lk{f:Func}{i:Nat}{gh:List Gh}{ps:List It}{sh:ug}{ws:List Way}{zD:jZ ps->sh.den->T (sh.den⊕iF ws)}(T:Tb)(ro:Nat->Bool)(H:Hints)(L:List Nat)(ha:CX Pz f.ntmps H (ls f L))
  (h:∀ p s,z4R (bf Pz LD T.t ro) T.t f.ntmps H (Lz gh ps sh ws zD) (lb i f) p s=zD p s:=by intro p s; kernel_rfl) (B:uh (lb i f)=ls f L:=by kernel_rfl):LO f (Lz gh ps sh ws zD) i :=
 za4 (xid:=LD) (ro:=ro) (H:=H) mixed T.ok (UY B ha) zD h λ_ _=>rfl
theorem we{f:Nat}{fn:Func}{d:ER}(T:Tb)(ro:Nat->Bool)(H:Hints)(hf:Pz.funcs[f]? = some fn)(L:List Nat)(ha:CX Pz fn.ntmps H (ls fn L))
  (h:∀ x,z1C (bf Pz LD T.t ro) T.t H fn (y8 fn) d x=d.F x:=by intro x; kernel_rfl) (J:fn.body=some (y8 fn):=by rfl) (hn:(fn.name == "runtime.NumGoroutine")=false:=by kernel_rfl) (B:uh (y8 fn)=ls fn L:=by kernel_rfl):zw Pz f d :=
 zgE (xid:=LD) (ro:=ro) (H:=H) mixed T.ok hf J hn (UY B ha) h
theorem eZ{f:Nat}{fn:Func}{d:bA}(T:Tb)(ro:Nat->Bool)(H:Hints)(hf:Pz.funcs[f]? = some fn)(L:List Nat)(ha:CX Pz fn.ntmps H (ls fn L))
  (h:∀ x,Mf (bf Pz LD T.t ro) T.t H fn (y8 fn) d x=d.F x:=by intro x; kernel_rfl) (J:fn.body=some (y8 fn):=by rfl) (hn:(fn.name == "runtime.NumGoroutine")=false:=by kernel_rfl) (B:uh (y8 fn)=ls fn L:=by kernel_rfl):xw Pz f d :=
 zdb (xid:=LD) (ro:=ro) (H:=H) mixed T.ok hf J hn (UY B ha) h
def hdB(c:Code):Code:=match c with | .seq _ b=>b | _=>.skip
def hdO(c:Code):Array Oper:=match c with | .seq (.region _ ops _) _=>ops | _ => #[]
def hdI(c:Code):Nat:=match c with | .seq (.region id _ _) _=>id | _=>0
theorem fkr{f:Nat}{fn:Func}{d:bA}(T:Tb)(ro:Nat->Bool)(H:Hints)(hf:Pz.funcs[f]? = some fn)
  (h:∀ x,evH (bf Pz LD T.t ro) T.t H fn (hdO (y8 fn)) (hdB (y8 fn)) d d.ks.length none x=d.F x:=by intro x; kernel_rfl) (J:fn.body=some (.seq (.region (hdI (y8 fn)) (hdO (y8 fn)) false) (hdB (y8 fn))):=by kernel_rfl) (hn:(fn.name == "runtime.NumGoroutine")=false:=by kernel_rfl) (B:uh (hdB (y8 fn))=[]:=by kernel_rfl):cX (NV Pz) f d :=
 z7T (xid:=LD) (ro:=ro) (H:=H) mixed T.ok hf J hn (YG B) h
theorem fkh{f t:Nat}{fn:Func}{d:bA}(T:Tb)(ro:Nat->Bool)(H:Hints)(hf:Pz.funcs[f]? = some fn)(k:Nat)
  (h:∀ x,evH (bf Pz LD T.t ro) T.t H fn (hdO (y8 fn)) (hdB (y8 fn)) d k (some t) x=d.F x:=by intro x; kernel_rfl) (hk:d.ks.length=k+1:=by kernel_rfl) (J:fn.body=some (.seq (.region (hdI (y8 fn)) (hdO (y8 fn)) false) (hdB (y8 fn))):=by kernel_rfl) (hn:(fn.name == "runtime.NumGoroutine")=false:=by kernel_rfl) (B:uh (hdB (y8 fn))=[]:=by kernel_rfl):cX (SN Pz t) f d :=
 z7S (xid:=LD) (ro:=ro) (H:=H) mixed T.ok hf J hn (YG B) hk h
theorem zbi{g:Nat}{d:bA}(_:cX (NV Pz) g d):cX (SN Pz 0) g { d with F:=λ_=>.fail }:=λ_ _ _ _ _ hy=>hy.elim
theorem fkf{f g pt:Nat}{fn:Func}{d d0 d1:bA}(T:Tb)(ro:Nat->Bool)(H:Hints)(h0:cX (NV Pz) g d0)(h1:cX (SN Pz pt) g d1)(hf:Pz.funcs[f]? = some fn)
  (h:∀ x,z1B (bf Pz LD T.t ro) T.t H ⟨g,d0,pt,d1⟩ fn (y8 fn) d x=d.F x:=by intro x; kernel_rfl) (J:fn.body=some (y8 fn):=by rfl) (hn:(fn.name == "runtime.NumGoroutine")=false:=by kernel_rfl) (B:uh (y8 fn)=[]:=by kernel_rfl):xw Pz f d :=
 zd9 (xid:=LD) (ro:=ro) (H:=H) mixed T.ok (h:=⟨g,d0,pt,d1⟩) h0 h1 hf J hn B h
theorem Yg{f:Nat}{fn:Func}{d:mh}(T:Tb)(ro:Nat->Bool)(H:Hints)(hf:Pz.funcs[f]? = some fn)(L:List Nat)(ha:CX Pz fn.ntmps H (ls fn L))
  (h:∀ x,Me (bf Pz LD T.t ro) T.t H fn (y8 fn) d x=d.F x:=by intro x; kernel_rfl) (J:fn.body=some (y8 fn):=by rfl) (hn:(fn.name == "runtime.NumGoroutine")=false:=by kernel_rfl) (B:uh (y8 fn)=ls fn L:=by kernel_rfl):jx Pz f d :=
 zda (xid:=LD) (ro:=ro) (H:=H) mixed T.ok hf J hn (UY B ha) h
abbrev Uh:Dk:=.st [.row 1 ql,.row 2 qe,.row 3 xk,.row 4 qq,.row 5 xl,.row 6 xi]
abbrev Yp:Dk:=.st [.im (.sl ql),.im (.sl qe),.im (.sl xk),.im (.sl qq),.im (.sl xl),.im (.sl xi),.row 1 zq,.row 2 i64,.row 3 i64]
abbrev tf:Dk:=.st [.im (.sl zq),.row 1 i64,.row 2 i64]
abbrev z5t:List Bk:=[.var (.st [.row 10 zm,.row 2 .bool,.row 11 zm,.row 8 i64,.row 6 q8,.row 3 .bool]),.var (.st [.row 12 zm,.row 4 .bool,.row 13 zm,.row 9 i64,.row 7 q8,.row 5 .bool]),.arr .bool,.arr .bool,.arr .bool,.arr .bool,.arr q8,.arr q8,.arr i64,.arr i64,.arr zm,.arr zm,.arr zm,.arr zm]
abbrev Bz:List Bk:=[.var Uh,.arr ql,.arr qe,.arr xk,.arr qq,.arr xl,.arr xi]
abbrev Ug:List Bk:=[.var (.qj xm)]
abbrev Kp:Dk:=.st [.op 0 233,.row 1 (.int .u8)]
abbrev zb4:Dk:=.st [.im (.sl ql),.im (.sl qe),.im (.sl xk),.im (.sl qq),.im (.sl xl),.im (.sl xi),.row 0 zq,.row 4 i64,.row 1 i64]
abbrev zb5:Dk:=.st [.im (.sl ql),.im (.sl qe),.im (.sl xk),.im (.sl qq),.im (.sl xl),.im (.sl xi),.row 2 zq,.row 6 i64,.row 3 i64]
abbrev oe:Way:=⟨.ret,⟨[Mi 4],[],[]⟩⟩
abbrev SB:ug:=⟨[.v (.st [.row 10 zm,.row 2 .bool,.row 11 zm,.row 8 i64,.row 6 q8,.row 3 .bool]),.v (.st [.row 12 zm,.row 4 .bool,.row 13 zm,.row 9 i64,.row 7 q8,.row 5 .bool]),.a .bool,.a .bool,.a .bool,.a .bool,.a q8,.a q8,.a i64,.a i64,.a zm,.a zm,.a zm,.a zm],[],z5t⟩
abbrev jV:List Bk:=[.arr i64]
abbrev jW:Way:=⟨.exit 0,⟨[],[],[]⟩⟩
abbrev Lk:Dk:=.st [.im (.sl zm),.im (.sl .bool),.im (.sl zm),.row 0 i64,.im (.sl q8),.im (.sl .bool)]
abbrev CQ:Dk:=.st [.im (.sl ql),.im (.sl qe),.im (.sl xk),.im (.sl qq),.im (.sl xl),.im (.sl xi),.row 13 zq,.row 14 i64,.row 15 i64]
abbrev CR:Dk:=.st [.im (.sl ql),.im (.sl qe),.im (.sl xk),.im (.sl qq),.im (.sl xl),.im (.sl xi),.row 9 zq,.row 10 i64,.row 11 i64]
abbrev tX:ug:=⟨[Mm 0 uy,.v (.qj xm)],[],Ug⟩
abbrev CW:ug:=⟨[.s 0 (.sub 0 i64),Mi 1,Mi 2,Mi 3,.s 4 (.wi 270 [.rp (.sl zq)]),.a i64],[],jV⟩
abbrev cO:ug:=⟨[Mi 8],[],[]⟩
abbrev CS:Dk:=.st [.im i64,.row 2 qk,.im .bool,.im (.sl u32),.im (.sl u32)]
abbrev CT:Dk:=.st [.im i64,.row 3 qk,.im .bool,.im (.sl u32),.im (.sl u32)]
abbrev pj:ug:=⟨[.v (.qj xm)],[(0,.ptr 0 0)],Ug⟩
abbrev z5s:List Bk:=[.var (.qj uF),.var (.st [.row 3 zm,.row 4 .bool,.im (.sl zm),.row 6 i64,.row 7 q8,.row 8 .bool]),.var (.qj xn),.arr zm,.arr .bool,.arr zm,.arr i64,.arr q8,.arr .bool]
abbrev JF:ug:=⟨[Mm 0 ed,.v (.qj qy)],[],[.var (.qj qy)]⟩
abbrev JD:List Bk:=[.var tf,.arr i64,.arr i64]
abbrev X6:ug:=⟨[Mm 0 .expr,.v (.qj xm)],[],Ug⟩
abbrev JE:List Bk:=[.var Yp,.arr zq,.arr i64,.arr i64]
abbrev Ss:List Bk:=[.var (.st [.nl,.nl]),.var (.st [.row 3 zq,.row 4 i64]),.var (.qj wM),.arr zq,.arr i64]
abbrev CU:Dk:=.st [.im (.sl zm),.im (.sl .bool),.im (.sl zm),.row 3 i64,.im (.sl q8),.im (.sl .bool)]
abbrev ba:List Bk:=[.arr u32]
abbrev Ll:Dk:=.st [.row 7 ql,.row 9 qe,.row 11 xk,.row 13 qq,.row 5 xl,.row 3 xi]
abbrev X7:ug:=⟨[Ms 0],[],[]⟩
abbrev X4:List Bk:=[.var Kp,.arr (.int .u8)]
abbrev Su:List Bk:=[.var (.qj xm),.var (.qj .expr),.var (.qj .expr)]
abbrev CV:Dk:=.st [.im (.sl zq),.row 0 i64,.row 1 i64]
abbrev Lm:Dk:=.st [.im (.sl zq),.row 2 i64,.row 3 i64]
abbrev ZL:List Bk:=[.var (.qj qy)]
abbrev Vr:ug:=⟨[.a .str],[(0,.cur 0 .str)],[.arr .str]⟩
abbrev SC:ug:=⟨[Mm 1 (.sl .str),.v Uh,.a ql,.a qe,.a xk,.a qq,.a xl,.a xi],[(0,.ptr 0 0)],Bz⟩
abbrev tY:ug:=⟨[.a i64],[],jV⟩
abbrev CP:List Bk:=[.var tf,.arr i64,.arr i64,.arr i64]
abbrev Ln:ug:=⟨[Mi 1,.v tf,.a i64,.a i64],[(0,.ptr 0 0)],JD⟩
abbrev SD:ug:=⟨[Mm 0 .expr,Mi 1,.v (.qj i64)],[(2,.ptr 0 0)],[.var (.qj i64)]⟩
abbrev SE:ug:=⟨[.v tf,.a i64,.a i64,.v .mp],[],[.var tf,.arr i64,.arr i64,.var .mp]⟩
abbrev SF:ug:=⟨[Mb 0,.v Uh,.a ql,.a qe,.a xk,.a qq,.a xl,.a xi],[],Bz⟩
abbrev JH:Way:=⟨.ret,⟨[Mb 4],[],[]⟩⟩
abbrev z5u:List Bk:=[.arr i64,.var Lk,.arr zq,.arr i64,.var (.st [.un,.un]),.var zb5,.arr i64]
abbrev Lo:ug:=⟨[Mi 0,.v tf,.a i64,.a i64],[],JD⟩
abbrev z5A:Dk:=.st [.row 6 ql,.row 8 qe,.row 10 xk,.row 12 qq,.row 4 xl,.row 2 xi]
abbrev z5B:Dk:=.st [.row 3 zm,.row 4 .bool,.im (.sl zm),.row 6 i64,.row 7 q8,.row 8 .bool]
abbrev Sy:Dk:=.st [.row 10 zm,.row 2 .bool,.row 11 zm,.row 8 i64,.row 6 q8,.row 3 .bool]
abbrev Sz:Dk:=.st [.row 12 zm,.row 4 .bool,.row 13 zm,.row 9 i64,.row 7 q8,.row 5 .bool]
abbrev zcm:ug:=⟨[.s 0 (.st [.row 0 zm,.row 1 .bool,.im (.sl zm),.row 2 i64,.row 3 q8,.row 4 .bool]),.s 1 (.tight .str),Mi 2,.a zm,.a .bool,.a i64,.a q8,.a .bool],[],[.arr zm,.arr .bool,.arr i64,.arr q8,.arr .bool]⟩
abbrev HI:ug:=⟨[.v Kp,.a (.int .u8)],[],X4⟩
abbrev JG:ug:=⟨[Mi 3],[],[]⟩
abbrev Wh:ug:=⟨[Mm 0 .nil],[],[]⟩
abbrev HJ:ug:=⟨[.a .str],[(3,.cur 0 .str)],[.arr .str]⟩
abbrev zct:Way:=⟨.normal,⟨[Mm 1 (.sl .str),.v Uh,.a ql,.a qe,.a xk,.a qq,.a xl,.a xi,.v (.qj qq)],[],[.var Uh,.arr ql,.arr qe,.arr xk,.arr qq,.arr xl,.arr xi,.var (.qj qq)]⟩⟩
abbrev Lp:ug:=⟨[Mm 1 .expr,.a .str],[(0,.cur 0 .str)],[.arr .str]⟩
abbrev z5v:List Bk:=[.arr zq,.arr i64,.var (.st [.un,.un]),.var zb4,.arr i64]
abbrev SG:ug:=⟨[Mb 0,.v (.qj i64)],[],[.var (.qj i64)]⟩
abbrev z6g:ug:=⟨[Mi 0,.v Uh,.a ql,.a qe,.a xk,.a qq,.a xl,.a xi],[],Bz⟩
abbrev z6h:ug:=⟨[Mm 0 uy,.v (.qj xm),.v (.qj .expr),.v (.qj .expr)],[],Su⟩
abbrev z5w:List Bk:=[.var (.qj .expr),.var (.qj i64),.var (.qj i64)]
abbrev z5C:Dk:=.st [.row 0 zm,.row 1 .bool,.row 2 zm,.row 3 i64,.row 4 q8,.row 5 .bool]
abbrev SH:ug:=⟨[.v (.qj xm)],[],Ug⟩
abbrev SA:Dk:=.st [.row 3 zq,.row 4 i64]
abbrev zck:List Bk:=[.var z5A,.var Ll,.arr xi,.arr xi,.arr xl,.arr xl,.arr ql,.arr ql,.arr qe,.arr qe,.arr xk,.arr xk,.arr qq,.arr qq]
abbrev z6i:ug:=⟨[Mb 0,.a i64],[],[.cvar (.cur 1 i64),.arr i64]⟩
abbrev z6j:ug:=⟨[.v (.qj wM),.a .str],[(5,.cur 1 .str)],[.var (.qj wM),.arr .str]⟩
abbrev zcl:Dk:=.st [.im (.sl ql),.im (.sl qe),.im (.sl xk),.im (.sl qq),.im (.sl xl),.im (.sl xi),.row 2 zq,.row 3 i64,.row 4 i64]
abbrev z6k:ug:=⟨[.s 0 (.sub 0 i64),Mi 10,.a i64],[],jV⟩
abbrev zcn:ug:=⟨[Mm 0 (.sl qk),.s 1 (.mclo 317 [.rp (.sl i64),.rp i64,.pt 0]),.a i64],[],[.cvar (.cur 1 i64),.arr i64]⟩
abbrev Sv:List Bk:=[.var Lm,.var .mp,.arr i64,.arr i64]
abbrev SI:ug:=⟨[Ms 0,Mi 11],[],[]⟩
abbrev z5x:List Bk:=[.arr zm,.arr .bool,.arr zm,.arr i64,.arr q8,.arr .bool]
abbrev Sw:List Bk:=[.var (.qj j4),.var (.qj i64)]
abbrev z5D:Dk:=.st [.im (.sl .str),.row 4 .str,.im (.sl zm)]
abbrev zco:ug:=⟨[Mm 0 (.sl .expr),.s 1 (.mclo 285 [.rp i64,.pt 0]),.v (.qj i64)],[],[.cvar (.ptr 1 0),.var (.qj i64)]⟩
abbrev z6l:ug:=⟨[.v (.qj xm),.v (.qj .expr),.v (.qj .expr)],[],Su⟩
abbrev zcp:ug:=⟨[Mm 1 (.sl .str),Ms 2,.v Uh,.a ql,.a qe,.a xk,.a qq,.a xl,.a xi],[(0,.ptr 0 0)],Bz⟩
abbrev zcu:Way:=⟨.ret,⟨[Ms 7,Mi 8,.v (.st [.nl,.nl]),.v SA,.v (.qj wM),.a zq,.a i64],[],Ss⟩⟩
abbrev od:List Bk:=[.arr .str]
abbrev Lh:List Bk:=[.var (.qj .expr),.var (.qj .expr)]
abbrev z5E:Dk:=.st [.row 2 .str,.row 3 .str,.im (.sl zm)]
abbrev z5y:List Bk:=[.var CS,.var CT,.arr qk,.arr qk]
abbrev zcq:ug:=⟨[.v (.qj uF),.v z5B,.v (.qj xn),.a zm,.a .bool,.a zm,.a i64,.a q8,.a .bool],[],z5s⟩
abbrev z6x:Way:=⟨.exit 0,⟨[.a u32],[(7,.cur 0 u32)],ba⟩⟩
abbrev Sx:List Bk:=[.var (.qj xm),.var (.qj .expr)]
abbrev Lj:List Bk:=[.var (.qj jI)]
abbrev z6m:ug:=⟨[.v Yp,.a zq,.a i64,.a i64],[],JE⟩
abbrev HH:List Bk:=[.arr (.int .u8)]
abbrev zcv:Way:=⟨.normal,⟨[Mb 16,.v Uh,.a ql,.a qe,.a xk,.a qq,.a xl,.a xi],[],Bz⟩⟩
abbrev SJ:Way:=⟨.ret,⟨[Mb 2],[],[]⟩⟩
abbrev z6n:ug:=⟨[Mi 3,Mi 9],[],[]⟩
abbrev ob:List AK:=[.ptr,.any]
abbrev z6o:ug:=⟨[.s 0 (.sub 0 i64),.a i64],[],jV⟩
abbrev Yb:Way:=⟨.exit 0,X7⟩
abbrev zcr:ug:=⟨[.s 0 (.sub 0 i64),Mi 10,Mi 11,.a i64],[],jV⟩
abbrev zcs:ug:=⟨[.a i64,.v Lk,.a zq,.a i64,.v (.st [.un,.un]),.v zb5,.a i64],[],z5u⟩
abbrev z5F:ug:=⟨[.s 0 (.sub 0 i64),Mi 7,Mi 8,.a i64],[],jV⟩
abbrev NO:ug:=⟨[.v (.qj qy)],[(0,.ptr 0 0)],ZL⟩
abbrev NP:ug:=⟨[.a i64],[(0,.cur 0 i64)],jV⟩
abbrev z5G:ug:=⟨[Mm 7 (.int .u64),Mi 8,.a u32],[(6,.cur 0 u32)],ba⟩
abbrev QP:List AK:=[.ptr,.any,.any]
abbrev NI:List Bk:=[.var (.qj qy),.var (.qj ed)]
abbrev z5z:Dk:=.st [.row 1 zm,.row 2 .bool,.row 3 zm,.row 4 i64,.row 5 q8,.row 6 .bool]
abbrev z5H:ug:=⟨[Mb 0,.v (.qj i64)],[],[.cvar (.ptr 1 0),.var (.qj i64)]⟩
abbrev z5I:ug:=⟨[.v tf,.a i64,.a i64,.a i64],[(10,.cur 3 i64)],CP⟩
abbrev Z7:List Bk:=[.arr zm]
abbrev HG:List Bk:=[.var (.qj uF)]
abbrev z6p:Way:=⟨.ret,⟨[Mb 4,.v Yp,.a zq,.a i64,.a i64],[],JE⟩⟩
abbrev z5J:ug:=⟨[.v (.st [.nl,.nl]),.v SA,.v (.qj wM),.a zq,.a i64],[],Ss⟩
abbrev NJ:List Bk:=[.arr i64,.arr i64,.var CV]
abbrev z5K:ug:=⟨[Mm 14 (.sl u32),.a u32],[(13,.cur 0 u32)],ba⟩
abbrev NQ:ug:=⟨[Mm 0 (.sl u32)],[],[]⟩
abbrev z5L:ug:=⟨[.a zq,.a i64,.v (.st [.un,.un]),.v zb4,.a i64],[],z5v⟩
abbrev z5M:ug:=⟨[.s 0 (.sub 0 i64),Mi 1,.a i64],[],jV⟩
abbrev z5N:ug:=⟨[.s 0 (.sub 0 i64),Mi 7,.a i64],[],jV⟩
abbrev z5O:ug:=⟨[.v (.qj zm),.v (.qj zm)],[],[.var (.qj zm),.var (.qj zm)]⟩
abbrev z5P:ug:=⟨[Mi 15,.a u32],[(7,.cur 0 u32)],ba⟩
abbrev z5Q:ug:=⟨[.v (.qj .expr),.v (.qj i64),.v (.qj i64)],[],z5w⟩
abbrev z6q:Way:=⟨.normal,⟨[Mb 16,.a .str],[(0,.cur 0 .str)],od⟩⟩
abbrev z6r:Way:=⟨.normal,⟨[Mb 44,.v (.qj xm)],[],Ug⟩⟩
abbrev z5R:ug:=⟨[Mm 1 mU,.v (.qj qy)],[(0,.ptr 0 0)],ZL⟩
abbrev NR:ug:=⟨[Mi 5],[],[]⟩
abbrev z6s:Way:=⟨.exit 0,⟨[.v CS,.v CT,.a qk,.a qk],[],z5y⟩⟩
abbrev NK:List Bk:=[.arr i64,.var (.qj zq)]
abbrev z6t:Way:=⟨.exit 0,⟨[.a u32],[(5,.cur 0 u32)],ba⟩⟩
abbrev z6u:Way:=⟨.exit 0,⟨[.a u32],[(6,.cur 0 u32)],ba⟩⟩
abbrev NL:List Bk:=[.var (.qj i64)]
abbrev z5p:List Bk:=[.arr zm,.var (.qj zm),.var (.qj zm),.var (.qj zm)]
abbrev z5S:ug:=⟨[Mi 25,.a .str],[(0,.cur 0 .str)],od⟩
abbrev z6v:Way:=⟨.exit 0,⟨[.a .bool],[(5,.cur 0 .bool)],[.arr .bool]⟩⟩
abbrev NM:List Bk:=[.var (.qj wM),.arr .str]
abbrev z5T:ug:=⟨[.a q8],[(0,.cur 0 q8)],[.arr q8]⟩
abbrev NS:ug:=⟨[Mm 0 qv],[],[]⟩
abbrev z5U:ug:=⟨[Mm 0 .nil,.v (.qj jI)],[],Lj⟩
abbrev z5V:ug:=⟨[Ms 0,.v (.qj xm)],[],Ug⟩
abbrev z5W:ug:=⟨[.s 3 (.sub 0 (.int .u8)),.a (.int .u8)],[],HH⟩
abbrev Kq:ug:=⟨[],[],[]⟩
abbrev z5X:ug:=⟨[Mm 0 qv,Mm 1 xn],[],[]⟩
abbrev z5q:List Bk:=[.var tf,.arr i64,.arr i64,.var .mp]
abbrev z5r:List Bk:=[.var z5E,.var z5D,.arr .str,.arr .str,.arr .str]
abbrev z5Y:ug:=⟨[.a (.int .u8)],[(3,.cur 0 (.int .u8))],HH⟩
abbrev z5Z:ug:=⟨[.v Kp,.a (.int .u8)],[(0,.ptr 0 0)],X4⟩
abbrev z61:ug:=⟨[.a .bool],[(0,.cur 0 .bool)],[.arr .bool]⟩
abbrev z6w:Way:=⟨.normal,⟨[Mb 15],[],[]⟩⟩
abbrev z62:ug:=⟨[.a zm],[(9,.cur 0 zm)],Z7⟩
abbrev z63:ug:=⟨[.a zm],[(0,.cur 0 zm)],Z7⟩
abbrev Ey:List AK:=[.any,.any,.ptr]
abbrev z65:ug:=⟨[.a .str],[(4,.cur 0 .str)],od⟩
abbrev z68:ug:=⟨[.v (.qj i64)],[],NL⟩
abbrev z69:ug:=⟨[Mi 13],[],[]⟩
abbrev Ez:Dk:=.st [.nl,.nl]
abbrev EA:Dk:=.st [.un,.un]
abbrev z6a:ug:=⟨[Mi 7],[],[]⟩
abbrev z6b:ug:=⟨[Mi 0],[],[]⟩
abbrev z6c:ug:=⟨[Mm 6 (.sl .str)],[],[]⟩
abbrev z6d:ug:=⟨[Mm 0 xn],[],[]⟩
abbrev NN:List Bk:=[.var (.qj zm)]
abbrev NT:Way:=⟨.exit 0,HI⟩
abbrev NU:Way:=⟨.exit 0,SH⟩
abbrev z6e:ug:=⟨[Mb 0],[],[]⟩
abbrev z6f:ug:=⟨[.a (.int .u8)],[],HH⟩
def zoZ:Hints:=Hz [] [(0,1,.flat [Mb 2])] []
theorem zln:zw Pz 233 ⟨[.ty (.int .u8)],[.bool],λx=>yG x⟩:=we t0 rn zoZ func233 [] zg
def t1:=t0.d zln
def zp8:Hints:=Hz [] [(0,1,.flat [Mb 2])] []
theorem zm1:zw Pz 283 ⟨[.ty (.int .u8)],[.bool],λx=>jz x⟩:=we t1 rn zp8 func283 [] zg
def t2:=t1.d zm1
theorem zlo:zw Pz 234 ⟨[.ty (.int .u8)],[.bool],λx=>yq x⟩:=we t2 rn hN func234 [] zg
def t3:=t2.d zlo
def P4:zy:=Lz [] [Ms 0,Mi 18] ⟨[Mi 19],[],[]⟩ [jW,SJ] λp s=>Q6 p.1 p.2 s
def zgZ:Hints:=Hz [(0,P4)] [(0,1,.ways [⟨.normal,⟨[Mb 16],[],[]⟩⟩])] []
theorem z8Q:LO Tryz.f158 P4 0:=lk t3 rn zgZ [] zg
theorem zkm:zw Pz 158 ⟨[.ty .str],[.bool],λx=>uU x⟩:=we t3 rn zgZ func158 [0] (qc rfl z8Q zg)
def t4:=t3.d zkm
theorem zkl:zw Pz 157 ⟨[.ty ql],[.bool],λx=>gi x⟩:=we t4 (rz [1]) hN func157 [] zg
def t5:=t4.d zkl
def z3P:zy:=Lz [] [Mm 0 (.sl ql),.s 1 (.wi 157 []),Mi 7] cO [jW,oe] λp s=>v8 p.1 (λz0=>gi z0) p.2.2 s
def h89:Hints:=Hz [(0,z3P)] [] []
theorem zeP:LO Tryz.f89 z3P 0:=lk t5 rn h89 [] zg
theorem zrN:zw Pz 89 ⟨[.ty (.sl ql),.wi 157 []],[i64],λx=>wb x.1 (λz0=>gi z0)⟩:=we t5 rn h89 func89 [0] (qc rfl zeP zg)
def t6:=t5.d zrN
theorem zjy:zw Pz 106 ⟨[.ty (.sl ql),.wi 157 []],[.bool],λx=>vI x.1 (λz0=>gi z0)⟩:=we t6 rn hN func106 [] zg
def t7:=t6.d zjy
def zoX:Hints:=Hz [] [(0,1,.flat [Mb 2])] []
theorem zkM:zw Pz 196 ⟨[.ty (.sl u32)],[.bool],λx=>Qi x⟩:=we t7 rn zoX func196 [] zg
def t8:=t7.d zkM
def OX:zy:=Lz [] [] NQ [⟨.exit 0,NQ⟩] λp s=>tI  s
def zgU:Hints:=Hz [(0,OX)] [] []
theorem z8J:LO Tryz.f131 OX 0:=lk t8 rn zgU [] zg
theorem zjV:zw Pz 131 ⟨[.ty (.sl u32)],[(.sl u32)],λx=>ue x⟩:=we t8 rn zgU func131 [0] (qc rfl z8J zg)
def t9:=t8.d zjV
def zoV:Hints:=Hz [] [(0,1,.Bh)] []
theorem zkK:zw Pz 194 ⟨[.ty (.sl u32)],[(.sl u32)],λx=>yt x⟩:=we t9 rn zoV func194 [] zg
def t10:=t9.d zkK
theorem zjS:zw Pz 128 ⟨[.ty (.sl u32)],[(.sl u32)],λx=>lh x⟩:=we t10 rn hN func128 [] zg
def t11:=t10.d zjS
def z3G:zy:=Lz [] [Mm 0 (.sl u32),Mm 1 (.sl u32)] NR [jW,oe] λp s=>su p.1 p.2 s
def h76:Hints:=Hz [(0,z3G)] [] []
theorem zeG:LO Tryz.f76 z3G 0:=lk t11 rn h76 [] zg
theorem zrB:zw Pz 76 ⟨[.ty (.sl u32),.ty (.sl u32)],[i64],λx=>tG x.1 x.2⟩:=we t11 rn h76 func76 [0] (qc rfl zeG zg)
def t12:=t11.d zrB
def zoW:Hints:=Hz [] [(0,1,.flat [Mb 15])] []
theorem zkL:zw Pz 195 ⟨[.ty u32,.ty u32,.ty u32],[u32,u32],λx=>fu x.1 x.2.1 x.2.2⟩:=we t12 rn zoW func195 [] zg
def t13:=t12.d zkL
def OV:zy:=Lz [] [Mm 0 (.sl u32),Mm 1 u32] ⟨[Mm 7 u32,Mi 8,.a u32],[(6,.cur 0 u32)],ba⟩ [⟨.exit 0,⟨[Mm 7 u32,.a u32],[(6,.cur 0 u32)],ba⟩⟩] λp s=>pK p.1 p.2 s
def zgS:Hints:=Hz [(0,OV)] [] [(7,[6])]
theorem z8H:LO Tryz.f129 OV 0:=lk t13 rn zgS [] zg
theorem zjT:zw Pz 129 ⟨[.ty (.sl u32),.ty u32],[(.sl u32),u32],λx=>ri x.1 x.2⟩:=we t13 rn zgS func129 [0] (qc rfl z8H zg)
def t14:=t13.d zjT
theorem zrC:zw Pz 77 ⟨[.ty (.int .u64)],[(.sl u32)],λx=>iZ x⟩:=we t14 rn hN func77 [] zg
def t15:=t14.d zrC
def zpi:Hints:=Hz [] [(3,1,.flat [Mm 0 u32,Mi 2]),(3,4,.flat [Mm 0 u32,Mi 2])] []
theorem zmK:zw Pz 343 ⟨[.ty u32],[i64],λx=>fx x⟩:=we t15 rn zpi func343 [] zg
def t16:=t15.d zmK
theorem zmc:zw Pz 298 ⟨[.ty u32],[i64],λx=>kA x⟩:=we t16 rn hN func298 [] zg
def t17:=t16.d zmc
def PW:zy:=Lz [] [Mm 1 (.int .u64),Mi 2,Mm 13 (.sl u32),Mi 14] z5P [z6x] λp s=>Vf p.1 p.2.1 p.2.2.1 p.2.2.2 s
def zht:Hints:=Hz [(0,PW)] [] []
theorem z9x:LO Tryz.f299 PW 0:=lk t17 rn zht [] zg
theorem zc6:xw Pz 299 ⟨[.any,.any,.any],⟨[Mm 0 (.sl u32),Mm 1 (.int .u64),Mi 2],[],[]⟩,[],⟨[.a u32],[(0,.cur 0 u32)],ba⟩,1,λx=>sy x.1 x.2.1 x.2.2⟩:=eZ t17 rn zht func299 [0] (qc rfl z9x zg)
def t18:=t17.s zc6
def PX:zy:=Lz [] [Mm 2 u32,Mm 3 u32,Mm 4 u32] ⟨[Mm 12 (.int .u64),Mm 13 (.int .u64)],[],[]⟩ [⟨.exit 0,⟨[Mm 12 (.int .u64)],[],[]⟩⟩] λp s=>lj p.1 p.2.1 p.2.2 s
def zhu:Hints:=Hz [(0,PX)] [(0,3,.flat [Mb 42])] []
theorem z9y:LO Tryz.f300 PX 0:=lk t18 rn zhu [] zg
theorem zmd:zw Pz 300 ⟨[.ty u32,.ty u32,.ty u32,.ty u32,.ty u32],[(.int .u64)],λx=>rh x.1 x.2.1 x.2.2.1 x.2.2.2.1 x.2.2.2.2⟩:=we t18 rn zhu func300 [0] (qc rfl z9y zg)
def t19:=t18.d zmd
theorem zmL:zw Pz 344 ⟨[.ty u32,.ty u32,.ty u32],[u32,u32],λx=>yc x.1 x.2.1 x.2.2⟩:=we t19 rn hN func344 [] zg
def t20:=t19.d zmL
theorem zmM:zw Pz 345 ⟨[.ty u32,.ty u32,.ty u32],[u32,u32],λx=>ft x.1 x.2.1 x.2.2⟩:=we t20 rn hN func345 [] zg
def t21:=t20.d zmM
def PY:zy:=Lz [] [Mm 1 (.sl u32),Mm 2 (.int .u64),Mm 14 (.sl u32),Mi 15] ⟨[.s 0 (.sub 0 u32),Mm 7 (.int .u64),Mm 8 u32,Mi 16,.a u32],[],ba⟩ [⟨.exit 0,⟨[.s 0 (.sub 0 u32),Mm 7 (.int .u64),Mm 8 u32,.a u32],[],ba⟩⟩] λp s=>ll p.1 p.2.1 p.2.2.1 p.2.2.2 s
def PZ:zy:=Lz [] [Mm 1 (.sl u32),Mm 62 (.sl u32),Mi 63] ⟨[.s 0 (.sub 0 u32),Mm 11 u32,Mi 64,.a u32],[],ba⟩ [⟨.exit 2,⟨[.s 0 (.sub 0 u32),Mm 11 u32,.a u32],[],ba⟩⟩] λp s=>lq p.1 p.2.1 p.2.2 s
def zdp:Hints:=Hz [(0,PY),(2,PZ)] [] []
theorem z9z:LO Tryz.f301 PY 0:=lk t21 rn zdp [] zg
theorem z9A:LO Tryz.f301 PZ 2:=lk t21 rn zdp [] zg
theorem zme:xw Pz 301 ⟨[.sub,.any,.any],⟨[.s 0 (.sub 0 u32),Mm 1 (.sl u32),Mm 2 (.int .u64),.a u32],[],ba⟩,[],⟨[Mb 0,.a u32],[],ba⟩,1,λx=>tH x.1 x.2.1 x.2.2.1 x.2.2.2⟩:=eZ t21 rn zdp func301 [0,2] (qc rfl z9z (qc rfl z9A zg))
def t22:=t21.s zme
def Ca:zy:=Lz [] [Mm 1 (.int .u64),Mi 2,Mm 13 (.sl u32),Mi 14] z5P [z6x] λp s=>nS p.1 p.2.1 p.2.2.1 p.2.2.2 s
def z1V:Hints:=Hz [(0,Ca)] [] []
theorem TU:LO Tryz.f299 Ca 0:=lk t22 rn z1V [] zg
theorem RW:zw Pz 299 ⟨[.ty (.sl u32),.ty (.int .u64),.ty i64],[(.sl u32)],λx=>J8 x.1 x.2.1 x.2.2⟩:=we t22 rn z1V func299 [0] (qc rfl TU zg)
def t23:=t22.d RW
def zgn:Tb:=t23.d RW
def R0:zy:=Lz [] [Mm 6 (.int .u64),Mm 38 (.sl u32),Mi 39] ⟨[Mi 40,.a u32],[(7,.cur 0 u32)],ba⟩ [z6x] λp s=>lg p.1 p.2.1 p.2.2 s
def zhv:Hints:=Hz [(0,R0)] [] [(17,[7]),(21,[12])]
theorem z9B:LO Tryz.f302 R0 0:=lk zgn rn zhv [] zg
theorem zmf:zw Pz 302 ⟨[.ty (.sl u32),.ty i64],[(.sl u32)],λx=>mN x.1 x.2⟩:=we zgn rn zhv func302 [0] (qc rfl z9B zg)
def t24:=t23.d zmf
def zgl:Tb:=t24.s zc6
def Pw:zy:=Lz [] [Mm 6 (.int .u64),Mm 8 (.sl u32),Mi 9] ⟨[Mi 10,.a u32,.a u32],[(4,.cur 2 u32),(7,.cur 0 u32)],[.arr u32,.dead,.arr u32]⟩ [⟨.exit 0,⟨[.a u32,.a u32],[(4,.cur 2 u32),(7,.cur 0 u32)],[.arr u32,.dead,.arr u32]⟩⟩] λp s=>nT p.1 p.2.1 p.2.2 s
def zhg:Hints:=Hz [(0,Pw)] [(3,9,.ways [⟨.normal,⟨[Mm 11 (.int .u64),.a u32,.a u32],[(4,.cur 2 u32),(7,.cur 0 u32)],[.arr u32,.dead,.arr u32]⟩⟩])] [(5,[8]),(12,[4,7])]
theorem z9f:LO Tryz.f249 Pw 0:=lk zgl rn zhg [] zg
theorem zlz:zw Pz 249 ⟨[.ty (.sl u32),.ty (.sl u32)],[(.sl u32),(.sl u32)],λx=>J9 x.1 x.2⟩:=we zgl rn zhg func249 [0] (qc rfl z9f zg)
def t25:=t24.d zlz
theorem zkI:zw Pz 188 ⟨[.ty (.sl u32),.ty (.sl u32)],[(.sl u32),(.sl u32),.bool],λx=>dT x.1 x.2⟩:=we t25 rn hN func188 [] zg
def t26:=t25.d zkI
def Pb:zy:=Lz [] [] ⟨[Mm 0 (.sl u32),Mm 1 (.sl u32)],[],[]⟩ [⟨.exit 0,NQ⟩] λp s=>sx  s
def zh3:Hints:=Hz [(0,Pb)] [] []
theorem z8W:LO Tryz.f187 Pb 0:=lk t26 rn zh3 [] zg
theorem zkH:zw Pz 187 ⟨[.ty (.sl u32),.ty (.sl u32)],[(.sl u32)],λx=>WB x.1 x.2⟩:=we t26 rn zh3 func187 [0] (qc rfl z8W zg)
def t27:=t26.d zkH
def zoP:Hints:=Hz [] [(0,1,.ways [⟨.normal,⟨[Mb 28],[],[]⟩⟩])] []
theorem zk7:zw Pz 142 ⟨[.ty zm],[.bool],λx=>Z3 x⟩:=we t27 (rz [1]) zoP func142 [] zg
def t28:=t27.d zk7
def zoN:Hints:=Hz [] [(0,2,.flat [Mb 19])] []
theorem zjK:zw Pz 119 ⟨[.ty .bool,.ty (.sl u32),.ty (.sl u32)],[zm],λx=>sE x.1 x.2.1 x.2.2⟩:=we t28 rn zoN func119 [] zg
def t29:=t28.d zjK
theorem zrq:zw Pz 62 ⟨[.ty zm],[zm],λx=>vH x⟩:=we t29 (rz [1]) hN func62 [] zg
def t30:=t29.d zrq
def zoQ:Hints:=Hz [] [(0,2,.flat [Mb 2])] []
theorem zk8:zw Pz 143 ⟨[.ty zm],[.bool],λx=>cT x⟩:=we t30 rn zoQ func143 [] zg
def t31:=t30.d zk8
theorem zkn:zw Pz 159 ⟨[.ty qe],[.bool],λx=>gj x⟩:=we t31 (rz [1]) hN func159 [] zg
def t32:=t31.d zkn
def z3N:zy:=Lz [] [Mm 0 (.sl qe),.s 1 (.wi 159 []),Mi 7] cO [jW,oe] λp s=>j9 p.1 (λz0=>gj z0) p.2.2 s
def h86:Hints:=Hz [(0,z3N)] [] []
theorem zeN:LO Tryz.f86 z3N 0:=lk t32 rn h86 [] zg
theorem zrK:zw Pz 86 ⟨[.ty (.sl qe),.wi 159 []],[i64],λx=>vL x.1 (λz0=>gj z0)⟩:=we t32 rn h86 func86 [0] (qc rfl zeN zg)
def t33:=t32.d zrK
theorem zjE:zw Pz 112 ⟨[.ty (.sl qe),.wi 159 []],[.bool],λx=>vV x.1 (λz0=>gj z0)⟩:=we t33 rn hN func112 [] zg
def t34:=t33.d zjE
theorem zkq:zw Pz 162 ⟨[.ty .str],[.bool],λx=>lK x⟩:=we t34 rn hN func162 [] zg
def t35:=t34.d zkq
theorem zkp:zw Pz 161 ⟨[.ty xk],[.bool],λx=>gm x⟩:=we t35 (rz [1]) hN func161 [] zg
def t36:=t35.d zkp
def z3Q:zy:=Lz [] [Mm 0 (.sl xk),.s 1 (.wi 161 []),Mi 7] cO [jW,oe] λp s=>yx p.1 (λz0=>gm z0) p.2.2 s
def h92:Hints:=Hz [(0,z3Q)] [] []
theorem zeQ:LO Tryz.f92 z3Q 0:=lk t36 rn h92 [] zg
theorem zrQ:zw Pz 92 ⟨[.ty (.sl xk),.wi 161 []],[i64],λx=>uZ x.1 (λz0=>gm z0)⟩:=we t36 rn h92 func92 [0] (qc rfl zeQ zg)
def t37:=t36.d zrQ
theorem zko:zw Pz 160 ⟨[.ty (.sl xk),.wi 161 []],[.bool],λx=>yu x.1 (λz0=>gm z0)⟩:=we t37 rn hN func160 [] zg
def t38:=t37.d zko
theorem zjs:zw Pz 100 ⟨[.ty qv],[.bool],λx=>tT x⟩:=we t38 (rz [1]) hN func100 [] zg
def t39:=t38.d zjs
def zoT:Hints:=Hz [] [(0,1,.flat [Mb 6])] []
theorem zkr:zw Pz 163 ⟨[.ty i64,.ty i64,.ty i64],[.bool],λx=>lJ x.1 x.2.1 x.2.2⟩:=we t39 rn zoT func163 [] zg
def t40:=t39.d zkr
def OH:zy:=Lz [] [Mr 1 qv,Mm 7 (.sl qq),Mi 8] z6n [jW,SJ] λp s=>oQ p.1 p.2.1 p.2.2 s
def zgK:Hints:=Hz [(0,OH)] [(0,5,.ways [⟨.normal,⟨[Mb 36,.v (.qj qq)],[],[.var (.qj qq)]⟩⟩])] []
theorem z8t:LO Tryz.f101 OH 0:=lk t40 (rz [1]) zgK [] zg
theorem zjt:zw Pz 101 ⟨[.ty qv],[.bool],λx=>pS x⟩:=we t40 (rz [1]) zgK func101 [0] (qc rfl z8t zg)
def t41:=t40.d zjt
theorem zks:zw Pz 164 ⟨[],[(.sl .str)],λ_=>bV⟩:=we t41 rn hN func164 [] zg
def t42:=t41.d zks
def zpe:Hints:=Hz [] [(3,2,.flat [Mb 4])] []
theorem zmy:zw Pz 323 ⟨[.ty i64],[i64],λx=>Wu x⟩:=we t42 rn zpe func323 [] zg
def t43:=t42.d zmy
def Ra:zy:=Lz [] [Mm 1 (.sl u32),Mi 6,Mm 7 u32,Mm 21 (.sl u32),Mi 22,Mi 23,Mm 28 (.sl u32),Mi 29] ⟨[Mm 8 (.int .u64),Mi 30,.a u32],[(5,.cur 0 u32)],ba⟩ [⟨.exit 2,⟨[Mm 8 (.int .u64),.a u32],[(5,.cur 0 u32)],ba⟩⟩] λp s=>VR p.1 p.2.1 p.2.2.1 p.2.2.2.1 p.2.2.2.2.1 p.2.2.2.2.2.1 p.2.2.2.2.2.2.1 p.2.2.2.2.2.2.2 s
def R9:zy:=Lz [] [Mm 1 (.sl u32),Mm 21 (.sl u32),Mi 22] ⟨[Mi 23,.a u32],[(5,.cur 0 u32)],ba⟩ [z6t] λp s=>VQ p.1 p.2.1 p.2.2 s
def zdq:Hints:=Hz [(2,Ra),(0,R9)] [] [(16,[5])]
theorem z9K:LO Tryz.f342 Ra 2:=lk t43 rn zdq [] zg
theorem z9J:LO Tryz.f342 R9 0:=lk t43 rn zdq [2] (qc rfl z9K zg)
theorem zmJ:zw Pz 342 ⟨[.ty (.sl u32),.ty (.sl u32)],[(.sl u32)],λx=>iY x.1 x.2⟩:=we t43 rn zdq func342 [0] (qc rfl z9J zg)
def t44:=t43.d zmJ
def PV:zy:=Lz [] [Mi 5] ⟨[Mm 3 (.sl u32),Mi 6],[],[]⟩ [⟨.exit 0,⟨[Mm 3 (.sl u32)],[],[]⟩⟩] λp s=>VB p s
def zhs:Hints:=Hz [(0,PV)] [] []
theorem z9w:LO Tryz.f297 PV 0:=lk t44 rn zhs [] zg
theorem zmb:zw Pz 297 ⟨[.ty i64],[(.sl u32)],λx=>UA x⟩:=we t44 rn zhs func297 [0] (qc rfl z9w zg)
def t45:=t44.d zmb
theorem zrz:zw Pz 74 ⟨[.ty zm],[.str],λx=>Xp x⟩:=we t45 (rz [1]) hN func74 [] zg
def t46:=t45.d zrz
def OW:zy:=Lz [] [] ⟨[.s 0 (.sub 0 (.int .u8)),Mi 2,Mi 3,.a (.int .u8)],[],HH⟩ [⟨.exit 0,z6f⟩] λp s=>jo  s
def zgT:Hints:=Hz [(0,OW)] [] []
theorem z8I:LO Tryz.f130 OW 0:=lk t46 rn zgT [] zg
theorem zjU:xw Pz 130 ⟨[.sub],⟨[.s 0 (.sub 0 (.int .u8)),.a (.int .u8)],[],HH⟩,[],z6f,0,λx=>kD x.1 x.2⟩:=eZ t46 rn zgT func130 [0] (qc rfl z8I zg)
def t47:=t46.s zjU
def z3E:zy:=Lz [] [Mm 4 (.sl u32)] ⟨[Mm 5 u32,Mi 19,.a (.int .u8)],[(3,.cur 0 (.int .u8))],HH⟩ [⟨.exit 2,z5Y⟩] λp s=>l9 p s
def z3D:zy:=Lz [.slot 3 (.int .u8)] [] ⟨[Mm 0 (.sl u32),.a (.int .u8)],[(3,.cur 0 (.int .u8))],HH⟩ [⟨.exit 0,z5Y⟩] λp s=>l8  s
def z3F:zy:=Lz [] [] z5W [⟨.exit 4,z5W⟩] λp s=>lf  s
def h75:Hints:=Hz [(2,z3E),(0,z3D),(4,z3F)] [(0,13,.flat [Mb 42])] []
theorem zeE:LO Tryz.f75 z3E 2:=lk t47 rn h75 [] zg
theorem zeD:LO Tryz.f75 z3D 0:=lk t47 rn h75 [2] (qc rfl zeE zg)
theorem zeF:LO Tryz.f75 z3F 4:=lk t47 rn h75 [] zg
theorem zrA:zw Pz 75 ⟨[.ty (.sl u32)],[.str],λx=>mM x⟩:=we t47 rn h75 func75 [0,4] (qc rfl zeD (qc rfl zeF zg))
def t48:=t47.d zrA
theorem zn5:zw Tryz.prog 379 ⟨[.ty .str,.ty i64],[.str],λx=>strings_Repeat x.1 x.2⟩:=by
 refine jM Tryz.func379 (by kernel_rfl) rfl λO x xa y hy hI ha => ?_
 obtain⟨s,n⟩:=x
 obtain⟨⟨h0,h1,X⟩,hy⟩:=hy
 cases hy
 obtain⟨v0,r,rfl,Yy,ha⟩:=wP.cons_inv (show wP O [.qj .str s,.qj i64 n] xa from ha)
 obtain⟨v1,r,rfl,Mp,ha⟩:=ha.cons_inv
 rw[ha.wg,Yy.jq,Mp.eB]
 obtain⟨m,rfl⟩:=Int.eq_ofNat_of_zero_le h0
 refine(Go.Proofs.Tryz.strings_Repeat ⟨s.toArray⟩ m O.w (by simp only at h1; omega) (by rw[show(zF ⟨s.toArray⟩)=zH s from Y]; simpa using X)).mono ?_
 rintro e w' ⟨rfl,hB⟩
 refine⟨hB,λ_=>⟨_,rfl,?_⟩⟩
 have e1:Lib.repeatL s m=Bp s m:=S7 s m
 have e2:(Int.toNat (m:Int))=m:=by omega
 show RD _ (.qj .str (Bp s (Int.toNat (m:Int)))) _
 rw[e2,<- e1]
 exact RD.str
def t49:=t48.d zn5
theorem zmZ:zw Pz 363 ⟨[.ty .str,.ty i64],[.str],λx=>tq x.1 x.2⟩:=we t49 rn hN func363 [] zg
def t50:=t49.d zmZ
def R6:zy:=Lz [] [] ⟨[Mi 10,.v (.qj zm)],[(1,.ptr 0 0)],NN⟩ [⟨.exit 0,⟨[.v (.qj zm)],[],NN⟩⟩,⟨.ret,⟨[Ms 2,Mb 3,.v (.qj zm)],[],NN⟩⟩] λp s=>ZV  s
def zhy:Hints:=Hz [(0,R6)] [] []
theorem z9H:LO Tryz.f326 R6 0:=lk t50 rn zhy [] zg
theorem zmB:zw Pz 326 ⟨[.ty zm],[.str,.bool],λx=>Zf x⟩:=we t50 rn zhy func326 [0] (qc rfl z9H zg)
def t51:=t50.d zmB
def zpf:Hints:=Hz [] [(0,1,.ways [z6w])] []
theorem zmz:zw Pz 324 ⟨[.ty zm],[.bool],λx=>Q7 x⟩:=we t51 (rz [1]) zpf func324 [] zg
def t52:=t51.d zmz
theorem zmA:zw Pz 325 ⟨[.ty zm],[.bool],λx=>nK x⟩:=we t52 (rz [1]) hN func325 [] zg
def t53:=t52.d zmA
theorem zm2:zw Pz 284 ⟨[.ty .expr],[.bool],λx=>nJ x⟩:=we t53 (rz [1]) hN func284 [] zg
def t54:=t53.d zm2
abbrev HW:=ug.den SD->T (ug.den SG)
abbrev SO(F:HW):=xw Pz 235 ⟨Ey,SD,[],SG,1,F⟩
theorem zm3(yP:HW)(tE:SO yP):xw Pz 285 ⟨Ey,⟨[Mm 0 .expr,Mr 1 i64,.v (.qj i64)],[(2,.ptr 0 0)],[.cvar (.ptr 1 0),.var (.qj i64)]⟩,[],z5H,1,λx=>np (λy0 y1 y2=>yP (y0,y1,y2)) x.1 x.2.1 x.2.2⟩:=eZ (t54.s tE) (rz [3]) hN func285 [] zg
def zgk(yP:HW)(tE:SO yP):Tb:=t54.s (zm3 _ tE)
def P9(yP:HW):zy:=Lz [] [Mm 0 (.sl .expr),Mi 7] ⟨[.s 1 (.mclo 285 [.rp i64,.pt 0]),Mi 8,.v (.qj i64)],[],[.cvar (.ptr 1 0),.var (.qj i64)]⟩ [⟨.exit 0,⟨[.v (.qj i64)],[],[.cvar (.ptr 1 0),.var (.qj i64)]⟩⟩,⟨.ret,⟨[Mi 4,.v (.qj i64)],[],[.cvar (.ptr 1 0),.var (.qj i64)]⟩⟩] λp s=>wV (λy0 y1 y2=>yP (y0,y1,y2)) p.1 p.2 s
def zh2(yP:HW):Hints:=Hz [(0,P9 yP)] [] []
theorem z8V(yP:HW)(tE:SO yP):LO Tryz.f177 (P9 yP) 0:=lk (zgk yP tE) rn (zh2 yP) [] zg
theorem zkD(yP:HW)(tE:SO yP):xw Pz 177 ⟨[.any,.wi 285],zco,[],⟨[Mi 0,.v (.qj i64)],[],[.cvar (.ptr 1 0),.var (.qj i64)]⟩,1,λx=>vo (λy0 y1 y2=>yP (y0,y1,y2)) x.1 x.2.1 x.2.2⟩:=eZ (zgk yP tE) rn (zh2 yP) func177 [0] (qc rfl (z8V yP tE) zg)
theorem zjH(yP:HW)(tE:SO yP):xw Pz 115 ⟨[.any,.wi 285],zco,[],z5H,1,λx=>wU (λy0 y1 y2=>yP (y0,y1,y2)) x.1 x.2.1 x.2.2⟩:=eZ (t54.s (zkD _ tE)) rn hN func115 [] zg
def zp0(yP:HW):Hints:=Hz [] [(0,2,.ways [⟨.normal,⟨[Mb 24,.v (.qj i64)],[],[.var (.qj i64),.cvar (.ptr 0 0)]⟩⟩])] []
theorem zai(yP:HW)(tE:SO yP):xw Pz 235 ⟨Ey,SD,[],SG,1,λx=>iT (λy0 y1 y2=>yP (y0,y1,y2)) x.1 x.2.1 x.2.2⟩:=eZ (t54.s (zjH _ tE)) (rz [3,4]) (zp0 yP) func235 [] zg
theorem zlp:xw Pz 235 ⟨Ey,SD,[],SG,1,λx=>Q8 x.1 x.2.1 x.2.2⟩:=Yx (λyP x=>iT (λy0 y1 y2=>yP (y0,y1,y2)) x.1 x.2.1 x.2.2) (λx=>rfl) (λyP tE=>zai yP tE)
def t55:=t54.s zlp
theorem zkt:zw Pz 165 ⟨[.ty .expr],[.bool],λx=>iS x⟩:=we t55 (rz [1]) hN func165 [] zg
def t56:=t55.d zkt
theorem zkw:zw Pz 168 ⟨[],[(.sl .str)],λ_=>ye⟩:=we t56 rn hN func168 [] zg
def t57:=t56.d zkw
theorem zkv:zw Pz 167 ⟨[.ty xl],[.bool],λx=>yd x⟩:=we t57 (rz [1]) hN func167 [] zg
def t58:=t57.d zkv
def Pv:zy:=Lz [] [Mm 0 (.sl xl),.s 1 (.wi 167 []),Mi 7] cO [jW,oe] λp s=>dx p.1 (λz0=>yd z0) p.2.2 s
def zhf:Hints:=Hz [(0,Pv)] [] []
theorem z9e:LO Tryz.f236 Pv 0:=lk t58 rn zhf [] zg
theorem zlq:zw Pz 236 ⟨[.ty (.sl xl),.wi 167 []],[i64],λx=>bu x.1 (λz0=>yd z0)⟩:=we t58 rn zhf func236 [0] (qc rfl z9e zg)
def t59:=t58.d zlq
theorem zku:zw Pz 166 ⟨[.ty (.sl xl),.wi 167 []],[.bool],λx=>yv x.1 (λz0=>yd z0)⟩:=we t59 rn hN func166 [] zg
def t60:=t59.d zku
def OI:zy:=Lz [] [Mr 1 qv,Mm 7 (.sl xi),Mi 8] z6n [jW,SJ] λp s=>oO p.1 p.2.1 p.2.2 s
def zgL:Hints:=Hz [(0,OI)] [(0,5,.ways [⟨.normal,⟨[Mb 50,.v (.qj xi)],[],[.var (.qj xi)]⟩⟩])] []
theorem z8u:LO Tryz.f102 OI 0:=lk t60 (rz [1]) zgL [] zg
theorem zju:zw Pz 102 ⟨[.ty qv],[.bool],λx=>pR x⟩:=we t60 (rz [1]) zgL func102 [0] (qc rfl z8u zg)
def t61:=t60.d zju
end Go.AM.Lf
namespace Go.Proofs
section
open Go.RowKit
attribute [local go_sem] zN
set_option maxRecDepth 100000
set_option maxHeartbeats 2000000
theorem Xd.size:(Tryz.prog.info? 233).map (·.size)=some 2:=by kernel_rfl
theorem Xd.pt:Tryz.prog.underlying 231=some (.pointer 233):=by kernel_rfl
theorem Xd.up:Tryz.prog.underlying 355=some .unsafePointer:=by kernel_rfl
theorem Xd.used(b:Nat)(w:World)(h0:w.cell? ⟨b,0,none⟩=some (.pointer (some ⟨b,0,none⟩))) :
  Calls Tryz.prog 232 #[.pointer (some ⟨b,0,none⟩)] w λe w'=>e=.returned (.tuple #[])/\w'=w:=by
 obtain⟨j,hj,hjs⟩:=qG.1 Xd.size
 go_enter Tryz.func232,Tryz.ntmps232
 go_wp2
 rw[Lib.run_neq_ptr_same w _ Xd.pt hj]
 go_wp2
 go_end0
 exact⟨rfl,rfl⟩
theorem Xd.fresh(b:Nat)(w:World)(h0:w.cell? ⟨b,0,none⟩=some (.pointer none))(hsh:w.shape? b=some (233,2))(hfz:w.frozen? ⟨b,0,none⟩=false) :
  Calls Tryz.prog 232 #[.pointer (some ⟨b,0,none⟩)] w λe w'=>e=.returned (.tuple #[])/\w'=w.setCell ⟨b,0,none⟩ (.pointer (some ⟨b,0,none⟩)):=by
 obtain⟨j,hj,hjs⟩:=qG.1 Xd.size
 go_enter Tryz.func232,Tryz.ntmps232
 go_wp2
 rw[Lib.run_to_unsafe w ⟨b,0,none⟩ Xd.pt Xd.up hj (by rw[hjs]; decide) hsh (Nat.zero_lt_succ 1)]
 simp only[qL]
 rw[qH]
 go_wp2
 rw[run_callFunc_extern Tryz.func282 (by kernel_rfl) (by kernel_rfl) (by kernel_rfl) (e:=Extern.AbiNoEscape.same) (by kernel_rfl)]
 rw[Lib.run_noEscape]
 simp only[qL]
 rw[qH]
 go_wp2
 rw[Lib.run_from_unsafe w ⟨b,0,none⟩ Xd.up Xd.pt hj hsh (by kernel_rfl)]
 simp only[qL]
 rw[qH]
 go_wp2
 go_end0
 exact⟨rfl,rfl⟩
end
end Go.Proofs

namespace Go.AM.Lf
open Go.Proofs Go.Proofs.Tryz
theorem zlm:xw Tryz.prog 232 ⟨[.ptr],z5Z,[],HI,0,λx=>Z0 x.1 x.2⟩:=Dd (P:=Tryz.prog) (g:=232) (t:=233) (enters_of Tryz.func232 (by kernel_rfl) rfl) Xd.used Xd.fresh
def t62:=t61.s zlm
theorem zkj:xw Pz 155 ⟨ob,⟨[Ms 1,.v Kp,.a (.int .u8)],[(0,.ptr 0 0)],X4⟩,[.pcell 0 1 (.int .u8)],⟨[Mi 0,.v Kp,.a (.int .u8)],[(1,.vb)],X4⟩,2,λx=>xr x.1 x.2.1 x.2.2⟩:=eZ t62 rn hN func155 [] zg
def t63:=t62.s zkj
theorem zr0:zw Pz 34 ⟨[.ty zm],[.str],λx=>gJ x⟩:=we t63 rn hN func34 [] zg
def t64:=t63.d zr0
theorem zky:zw Pz 170 ⟨[.ty .str],[.str],λx=>sS x⟩:=we t64 rn hN func170 [] zg
def t65:=t64.d zky
theorem zqX:zw Tryz.prog 31 ⟨[.ty i64],[.str],λx=>strconv_Itoa x⟩:=by
 refine jM Tryz.func31 (by kernel_rfl) rfl λO n xa y hy hI ha => ?_
 obtain⟨⟨h0,h1⟩,hy⟩:=hy
 cases hy
 obtain⟨v0,r,rfl,Yy,ha⟩:=wP.cons_inv (show wP O [.qj i64 n] xa from ha)
 rw[ha.wg,Yy.eB]
 refine(Go.Proofs.Tryz.strconv_Itoa n h0 h1 O.w (iw hI)).mono ?_
 rintro e w' ⟨rfl,k,os,rfl⟩
 refine⟨LM _ _ _,λ_=>⟨_,rfl,?_⟩⟩
 have e1:Lib.itoa n=KH n:=z2H n
 show RD _ (.qj .str (KH n)) _
 rw[<- e1]
 exact RD.str
def t66:=t65.d zqX
def zp1:Hints:=Hz [] [(3,2,.flat [Ms 3])] []
theorem zlr:zw Pz 237 ⟨[.ty qq],[.str],λx=>tS x⟩:=we t66 (rz [1]) zp1 func237 [] zg
def t67:=t66.d zlr
def zpg:Hints:=Hz [] [(3,2,.flat [Mb 5]),(3,5,.flat [Mb 8])] []
theorem zmD:zw Pz 328 ⟨[.ty .expr],[i64],λx=>mF x⟩:=we t67 (rz [1]) zpg func328 [] zg
def t68:=t67.d zmD
abbrev z7c:=eJ [.ty .expr]->T (ED [.str])
abbrev zgd(F:z7c):=zw Pz 286 ⟨[.ty .expr],[.str],F⟩
theorem zmC(Xe:z7c)(FJ:zgd Xe):zw Pz 327 ⟨[.ty .expr,.ty i64],[.str],λx=>dO (λy0=>Xe (y0)) x.1 x.2⟩:=we (t68.d FJ) (rz [2]) hN func327 [] zg
def zp9(Xe:z7c):Hints:=Hz [] [(3,2,.ways [⟨.normal,⟨[Ms 3],[],[]⟩⟩,⟨.ret,⟨[Ms 2],[],[]⟩⟩])] []
theorem zak(Xe:z7c)(FJ:zgd Xe):zw Pz 286 ⟨[.ty .expr],[.str],λx=>gW (λy0=>Xe (y0)) x⟩:=we (t68.d (zmC _ FJ)) (rz [1]) (zp9 Xe) func286 [] zg
theorem zm4:zw Pz 286 ⟨[.ty .expr],[.str],λx=>Q9 x⟩:=Gl (λXe x=>gW (λy0=>Xe (y0)) x) (λx=>rfl) (λXe FJ=>zak Xe FJ)
def t69:=t68.d zm4
theorem zls:zw Pz 238 ⟨[.ty .expr],[.str],λx=>sc x⟩:=we t69 (rz [1]) hN func238 [] zg
def t70:=t69.d zls
theorem zkz:zw Pz 171 ⟨[.ty .expr,.ty .str,.ty .expr],[.str],λx=>o5 x.1 x.2.1 x.2.2⟩:=we t70 (rz [3,5]) hN func171 [] zg
def t71:=t70.d zkz
def P5:zy:=Lz [] [Mi 2,Mr 4 qv,Mm 29 (.sl qq),Mi 30] ⟨[Mi 31,.v Kp,.a (.int .u8)],[(0,.ptr 0 0)],X4⟩ [NT] λp s=>oT p.1 p.2.1 p.2.2.1 p.2.2.2 s
def P6:zy:=Lz [] [Mi 2,Mm 45 (.sl xi),Mi 46] ⟨[Mi 47,.v Kp,.a (.int .u8)],[(0,.ptr 0 0)],X4⟩ [⟨.exit 2,HI⟩] λp s=>fA p.1 p.2.1 p.2.2 s
def zdg:Hints:=Hz [(0,P5),(2,P6)] [] []
theorem z8R:LO Tryz.f169 P5 0:=lk t71 (rz [4]) zdg [] zg
theorem z8S:LO Tryz.f169 P6 2:=lk t71 (rz [4]) zdg [] zg
theorem zkx:xw Pz 169 ⟨QP,⟨[Mm 1 qv,Mi 2,.v Kp,.a (.int .u8)],[(0,.ptr 0 0)],X4⟩,[.pcell 0 1 (.int .u8)],HI,0,λx=>pT x.1 x.2.1 x.2.2.1 x.2.2.2⟩:=eZ t71 (rz [4]) zdg func169 [0,2] (qc rfl z8R (qc rfl z8S zg))
def t72:=t71.s zkx
end Go.AM.Lf
namespace Go.Proofs
section
open Go.RowKit
attribute [local go_sem] zN
set_option maxRecDepth 100000
set_option maxHeartbeats 2000000
theorem Xd.mixed:Tryz.prog.follows .mixedOrders=true:=by kernel_rfl
theorem Xd.pb:Tryz.prog.underlying 305=some (.pointer 5):=by kernel_rfl
theorem Xd.c5:Tryz.prog.cellsOf 5=1:=by kernel_rfl
theorem Xd.z4e(oE:World)(q:Option Addr):(qI #[305,3] 9 #[.pointer q,.int .i64 0]).run Tryz.prog oE=.ok (.string .empty) oE:=Lib.run_unsafeString_none oE _ _ _ q
theorem Xd.nil(b:Nat)(p:Value)(w:World)(hbk:w.heap[b]? = some (.cells #[p,.slice none 0 0] 233 (0,0))) :
  Calls Tryz.prog 156 #[.pointer (some ⟨b,0,none⟩)] w λe w'=>e=.returned (.string ⟨#[]⟩)/\w'=w.drew:=by
 have hUS:=Xd.z4e
 have c1:w.drew.cell? ⟨b,1,none⟩=some (.slice none 0 0):=by
  have:w.drew.heap[b]? = some (.cells #[p,.slice none 0 0] 233 (0,0)):=hbk
  rw[zQ this]; rfl
 have hSD:(zJ #[198] 305 #[.slice none 0 0]).run Tryz.prog w.drew=.ok (.pointer none) w.drew:=rfl
 have mixed:Tryz.prog.follows .mixedOrders=true:=Xd.mixed
 go_enter Tryz.func156,Tryz.ntmps156
 go_wp2
 go_region_o
 all_goals (go_wp2; go_ret; exact⟨rfl,rfl⟩)
theorem Xd.room(b g o cap:Nat)(p:Value)(w:World)(hc0:cap≠0)(hbk:w.heap[b]? = some (.cells #[p,.slice (some ⟨g,o,none⟩) 0 cap] 233 (0,0))) :
  Calls Tryz.prog 156 #[.pointer (some ⟨b,0,none⟩)] w λe w'=>e=.returned (.string ⟨#[]⟩)/\w'=w.drew:=by
 have hUS:=Xd.z4e
 have c1:w.drew.cell? ⟨b,1,none⟩=some (.slice (some ⟨g,o,none⟩) 0 cap):=by
  have:w.drew.heap[b]? = some (.cells #[p,.slice (some ⟨g,o,none⟩) 0 cap] 233 (0,0)):=hbk
  rw[zQ this]; rfl
 have hSD:(zJ #[198] 305 #[.slice (some ⟨g,o,none⟩) 0 cap]).run Tryz.prog w.drew=.ok (.pointer (some ⟨g,o,none⟩)) w.drew :=
  qB _ _ _ _ _ _ hc0
 clear hc0
 have mixed:Tryz.prog.follows .mixedOrders=true:=Xd.mixed
 go_enter Tryz.func156,Tryz.ntmps156
 go_wp2
 go_region_o
 all_goals (go_wp2; go_ret; exact⟨rfl,rfl⟩)
theorem Xd.full(b g cap:Nat)(p:Value)(cur:Array Value)(l:List UInt8)(w:World)(h0:l≠[])(ju:l.length<=cap)(hmax:l.length<=140737488355328)(hbk:w.heap[b]? = some (.cells #[p,.slice (some ⟨g,0,none⟩) l.length cap] 233 (0,0)))
  (hg:w.heap[g]? = some (.cells cur 5 (0,0))) (zdy:l.length<=cur.size) (fc:∀ j x,l[j]? = some x->w.cell? ⟨g,j,none⟩=some (.int .u8 x.toNat)) :
  Calls Tryz.prog 156 #[.pointer (some ⟨b,0,none⟩)] w λe w'=>e=.returned (.string ⟨l.toArray⟩)/\w'=w.drew.freeze ⟨g,0,none⟩ l.length:=by
 have hl0:l.length≠0:=by simpa using h0
 have c1:w.drew.cell? ⟨b,1,none⟩=some (.slice (some ⟨g,0,none⟩) l.length cap):=by
  have:w.drew.heap[b]? = some (.cells #[p,.slice (some ⟨g,0,none⟩) l.length cap] 233 (0,0)):=hbk
  rw[zQ this]; rfl
 have hSD:(zJ #[198] 305 #[.slice (some ⟨g,0,none⟩) l.length cap]).run Tryz.prog w.drew=.ok (.pointer (some ⟨g,0,none⟩)) w.drew :=
  qB _ _ _ _ _ _ (by omega)
 have hUS:(qI #[305,3] 9 #[.pointer (some ⟨g,0,none⟩),.int .i64 l.length]).run Tryz.prog w.drew=.ok (.string ⟨l.toArray⟩) (w.drew.freeze ⟨g,0,none⟩ l.length):=by
  refine Lib.run_unsafeString_row w.drew 305 3 9 5 Xd.pb Xd.c5 g cur.size (by have hg':w.drew.heap[g]? = some (.cells cur 5 (0,0)):=hg; simp[World.shape?,hg']) l h0 (by omega) (by omega) ?_
  intro j x U
  have e:(⟨g,0,none⟩:Addr).add j=⟨g,j,none⟩:=by unfold Addr.add; split<;>simp_all
  rw[e]
  exact fc j x U
 have mixed:Tryz.prog.follows .mixedOrders=true:=Xd.mixed
 go_enter Tryz.func156,Tryz.ntmps156
 go_wp2
 go_region_o
 all_goals (go_wp2; go_ret; exact⟨rfl,rfl⟩)
theorem Xd.zf1(b g o:Nat)(p:Value)(cur:Array Value)(w:World)(hbk:w.heap[b]? = some (.cells #[p,.slice (some ⟨g,o,none⟩) 0 0] 233 (0,0)))(hg:w.heap[g]? = some (.cells cur 5 (0,0))) :
  Calls Tryz.prog 156 #[.pointer (some ⟨b,0,none⟩)] w λe w'=>e=.returned (.string ⟨#[]⟩)/\w'=w.drew.alloc (.view ⟨g,o,none⟩ 5):=by
 have hUS:=Xd.z4e
 have wO:b<w.heap.size:=by
  rcases Nat.lt_or_ge b w.heap.size with h' | h'
  ·exact h'
  ·simp[Array.getElem?_eq_none h']at hbk
 have c1:w.drew.cell? ⟨b,1,none⟩=some (.slice (some ⟨g,o,none⟩) 0 0):=by
  have:w.drew.heap[b]? = some (.cells #[p,.slice (some ⟨g,o,none⟩) 0 0] 233 (0,0)):=hbk
  rw[zQ this]; rfl
 have hSD:(zJ #[198] 305 #[.slice (some ⟨g,o,none⟩) 0 0]).run Tryz.prog w.drew=.ok (.pointer (some ⟨w.drew.heap.size,0,none⟩)) (w.drew.alloc (.view ⟨g,o,none⟩ 5)) :=
  Lib.run_unsafeSliceData_zero w.drew _ _ 5 Xd.pb ⟨g,o,none⟩ 0 (5,cur.size) (by have hg':w.drew.heap[g]? = some (.cells cur 5 (0,0)):=hg; simp[World.shape?,hg'])
 have c2:(w.drew.alloc (.view ⟨g,o,none⟩ 5)).cell? ⟨b,1,none⟩=some (.slice (some ⟨g,o,none⟩) 0 0):=by
  have:(w.drew.alloc (.view ⟨g,o,none⟩ 5)).heap[b]? = _:=(Lib.alloc_old w.drew _ b wO).trans hbk
  rw[zQ this]; rfl
 have c3:(w.alloc (.view ⟨g,o,none⟩ 5)).drew.cell? ⟨b,1,none⟩=some (.slice (some ⟨g,o,none⟩) 0 0):=c2
 have c0:w.cell? ⟨b,1,none⟩=some (.slice (some ⟨g,o,none⟩) 0 0):=c1
 have mixed:Tryz.prog.follows .mixedOrders=true:=Xd.mixed
 go_enter Tryz.func156,Tryz.ntmps156
 go_wp2
 go_region_o
 all_goals (go_wp2; go_ret; exact⟨rfl,rfl⟩)
end
end Go.Proofs

namespace Go.AM.Lf
open Go.Proofs Go.Proofs.Tryz
theorem zkk:xw Tryz.prog 156 ⟨[.ptr],z5Z,[],⟨[Ms 0,.v (.st [.op 0 233,.un])],[],[.var (.st [.op 0 233,.un]),.dead]⟩,1,λx=>rE x.1 x.2⟩:=z0q (P:=Tryz.prog) (g:=156) (t:=233) (enters_of Tryz.func156 (by kernel_rfl) rfl) Xd.nil Xd.room Xd.full Xd.zf1
def t73:=t72.s zkk
def OJ:zy:=Lz [.cell 0 1 (.int .u8)] [Mr 1 qv,Mm 13 (.sl ql),Mi 14] ⟨[Mi 15,.v Kp,.a (.int .u8)],[(3,.ptr 0 0)],X4⟩ [NT] λp s=>sP p.1 p.2.1 p.2.2 s
def OK:zy:=Lz [] [Mr 1 qv,Mm 29 (.sl qe),Mi 30] ⟨[Mi 31,.v Kp,.a (.int .u8)],[(3,.ptr 0 0)],X4⟩ [⟨.exit 2,HI⟩] λp s=>sQ p.1 p.2.1 p.2.2 s
def OL:zy:=Lz [] [Mr 1 qv,Mi 48] ⟨[Mi 49,.v Kp,.a (.int .u8)],[(3,.ptr 0 0)],X4⟩ [⟨.exit 4,HI⟩] λp s=>sR p.1 p.2 s
def OM:zy:=Lz [] [Mm 57 (.sl xl),Mi 58] ⟨[Mi 59,.v Kp,.a (.int .u8)],[(3,.ptr 0 0)],X4⟩ [⟨.exit 6,HI⟩] λp s=>lL p.1 p.2 s
def z1O:Hints:=Hz [(0,OJ),(2,OK),(4,OL),(6,OM)] [(3,6,.flat [Ms 6])] []
theorem z8v:LO Tryz.f103 OJ 0:=lk t73 (rz [1]) z1O [] zg
theorem z8w:LO Tryz.f103 OK 2:=lk t73 (rz [1]) z1O [] zg
theorem z8x:LO Tryz.f103 OL 4:=lk t73 (rz [1]) z1O [] zg
theorem z8y:LO Tryz.f103 OM 6:=lk t73 (rz [1]) z1O [] zg
theorem zjv:zw Pz 103 ⟨[.ty qv],[.str],λx=>o0 x⟩:=we t73 (rz [1]) z1O func103 [0,2,4,6] (qc rfl z8v (qc rfl z8w (qc rfl z8x (qc rfl z8y zg))))
def t74:=t73.d zjv
theorem zri:zw Pz 54 ⟨[.ty qv],[.bool],λx=>ZE x⟩:=we t74 (rz [1]) hN func54 [] zg
def t75:=t74.d zri
def z3p:zy:=Lz [.slot 3 .str] [Mr 1 qv,Mm 17 (.sl ql),Mi 18] ⟨[Mi 19,.a .str],[(3,.cur 0 .str)],od⟩ [⟨.exit 0,HJ⟩] λp s=>rP p.1 p.2.1 p.2.2 s
def z3q:zy:=Lz [] [Mr 1 qv,Mm 30 (.sl qe),Mi 31] ⟨[Mi 32,.a .str],[(3,.cur 0 .str)],od⟩ [⟨.exit 2,HJ⟩] λp s=>rQ p.1 p.2.1 p.2.2 s
def z3r:zy:=Lz [] [Mr 1 qv,Mm 43 (.sl xk),Mi 44] ⟨[Mi 45,.a .str],[(3,.cur 0 .str)],od⟩ [⟨.exit 4,HJ⟩] λp s=>rR p.1 p.2.1 p.2.2 s
def z3s:zy:=Lz [] [Mr 1 qv,Mm 56 (.sl qq),Mi 57] ⟨[Mi 58,.a .str],[(3,.cur 0 .str)],od⟩ [⟨.exit 6,HJ⟩] λp s=>rS p.1 p.2.1 p.2.2 s
def z3t:zy:=Lz [] [Mr 1 qv,Mm 69 (.sl xl),Mi 70] ⟨[Mi 71,.a .str],[(3,.cur 0 .str)],od⟩ [⟨.exit 8,HJ⟩] λp s=>rT p.1 p.2.1 p.2.2 s
def Rx:zy:=Lz [] [Mm 82 (.sl xi),Mi 83] ⟨[Mi 84,.a .str],[(3,.cur 0 .str)],od⟩ [⟨.exit 10,HJ⟩] λp s=>rU p.1 p.2 s
def h56:Hints:=Hz [(0,z3p),(2,z3q),(4,z3r),(6,z3s),(8,z3t),(10,Rx)] [] []
theorem zep:LO Tryz.f56 z3p 0:=lk t75 (rz [1]) h56 [] zg
theorem zeq:LO Tryz.f56 z3q 2:=lk t75 (rz [1]) h56 [] zg
theorem zer:LO Tryz.f56 z3r 4:=lk t75 (rz [1]) h56 [] zg
theorem zes:LO Tryz.f56 z3s 6:=lk t75 (rz [1]) h56 [] zg
theorem zet:LO Tryz.f56 z3t 8:=lk t75 (rz [1]) h56 [] zg
theorem za3:LO Tryz.f56 Rx 10:=lk t75 (rz [1]) h56 [] zg
theorem zrk:zw Pz 56 ⟨[.ty qv],[(.sl .str)],λx=>tn x⟩:=we t75 (rz [1]) h56 func56 [0,2,4,6,8,10] (qc rfl zep (qc rfl zeq (qc rfl zer (qc rfl zes (qc rfl zet (qc rfl za3 zg))))))
def t76:=t75.d zrk
end Go.AM.Lf
namespace Go.Proofs
section
open Go.RowKit Go.Maps Go.WideMaps
attribute [local go_sem] zN
set_option maxRecDepth 100000
set_option maxHeartbeats 2000000
/-- What a map reads as when texts,all different,came. -/
def TW.Seen(D:DataW Unit)(l:List (List UInt8)):Prop:=IsMap D/\∀ s:List UInt8,D.atKey (.string s) (.lit (.int .i64 0))=.lit (.int .i64 (if s∈l then 1 else 0))
theorem TW.znw:TW.Seen (.map []) []:=⟨⟨_,rfl⟩,λs=>by simp only[List.not_mem_nil,if_false]; rfl⟩
theorem TW.step{D:DataW Unit}{l:List (List UInt8)}{s:List UInt8}(h:TW.Seen D l)(hk:WideAt.IsKeyLit (.string s)):TW.Seen (D.put (.string s) (.lit (.int .i64 1))) (l++[s]):=by
 refine⟨h.1.put _ _,λx => ?_⟩
 by_cases c:x=s
 ·subst c
  rw[atKey_put_same h.1 hk,if_pos (by simp)]
 ·rw[atKey_put_other (λe=>c (by cases e; rfl)),h.2 x]
  congr 3
  simp[c]
theorem TW.cOf{D:DataW Unit}{l:List (List UInt8)}{s:List UInt8}{c:Int}(h:TW.Seen D l)(Mq:D.atKey (.string s) (.lit (.int .i64 0))=.lit (.int .i64 c)):c=if s∈l then 1 else 0:=by
 rw[h.2 s]at Mq
 cases Mq; rfl
theorem TW.key:Keyed Tryz.prog 9:=string_keyed Tryz.underlying9
theorem TW.SK(w:World):(zeroValue 3).run Tryz.prog w=.ok (.int .i64 0) w:=by kernel_rfl
theorem TW.zero(a:Option Addr)(cap:Nat)(w:World):Calls Tryz.prog 55 #[.slice a 0 cap] w λe w'=>e=.returned (.tuple #[.string ⟨#[]⟩,.bool false])/\Below w.heap.size w w':=by
 have hmm := @run_makeMap Tryz.prog
 go_enter Tryz.func55,Tryz.ntmps55
 go_wp2
 refine wp_loop_rounds 1 ?_
 rw[rounds_succ]
 go_wp2
 go_ret2
 exact⟨rfl,(Below.refl _ _).alloc (R _) _⟩
theorem TW.more(b off cap:Nat)(l:List (List UInt8))(w:World)(K4:l.length*16<=140737488351232)(J:b<w.heap.size)
  (hc:∀ j (hj:j<l.length),w.cell? ⟨b,off+j,none⟩=some (.string ⟨l[j].toArray⟩)) (cm:∀ s∈l,s.length<=maxLen) :
  Calls Tryz.prog 55 #[.slice (some ⟨b,off,none⟩) l.length cap] w λe w'=>e=.returned (.tuple #[.string ⟨(Go.AM.Lf.twR [] l).1.toArray⟩,.bool (Go.AM.Lf.twR [] l).2])/\Below w.heap.size w w':=by
 have hmm := @run_makeMap Tryz.prog
 go_enter Tryz.func55,Tryz.ntmps55
 go_wp2
 go_loopw [10] (λi wr=>∃ (k:Nat) (D:DataW Unit),k<=l.length/\i=.int .i64 k/\wr.ownsMap Tryz.prog 9 (plainElem Tryz.prog 3) w.heap.size k D/\TW.Seen D (l.take k)/\Go.AM.Lf.twR [] l=Go.AM.Lf.twR (l.take k) (l.drop k)/\Below w.heap.size w wr)
  (λi _=>l.length-(intOf i).toNat)
 case atStart=>exact⟨0,.map [],qK _,rfl,World.ownsMap_made _ _ _ _,TW.znw,rfl,(Below.refl _ _).alloc (R _) _⟩
 case round =>
  obtain⟨k,D,hk,rfl,hown,FZ,htw,EG⟩:=hrel
  obtain⟨s,hs⟩:∃ s:List UInt8,s=l.getD k []:=⟨_,rfl⟩
  have hse:∀ wO:k<l.length,s=l[k]:=λwO=>by rw[hs]; simp[wO]
  have hcx:k<l.length->wr.cell? ⟨b,off+k,none⟩=some (.string ⟨s.toArray⟩):=λwO=>by rw[hse wO]; exact(EG.cell (by exact J)).trans (hc k wO)
  have hlen:s.length<=maxLen:=by
   by_cases wO:k<l.length
   ·rw[hse wO]; exact cm _ (List.getElem_mem wO)
   ·rw[hs]; simp[wO]
  have MA:keyOf Tryz.prog 9 (.string ⟨s.toArray⟩)=some (.string s):=keyOf_string_mk Tryz.underlying9 (by exact hlen)
  have hkl:WideAt.IsKeyLit (.string s):=TW.key.key MA
  have FN:∀ wO:k<l.length,l.drop k=s::l.drop (k+1):=λwO=>by rw[hse wO]; exact List.drop_eq_getElem_cons wO
  have BW:∀ wO:k<l.length,l.take (k+1)=l.take k++[s]:=λwO=>by rw[hse wO]; exact zW wO
  clear hse hs
  by_cases K3:s∈l.take k
  ·have z2q:∀ wO:k<l.length,Go.AM.Lf.twR [] l=(s,true):=λwO=>by rw[htw,FN wO]; unfold Go.AM.Lf.twR; rw[if_pos K3]
   go_wp2_with (first
    | (at_lookup; refine wpList_lookup_own_int _ rfl _ _ 177 rfl 9 3 .i64 TW.key Tryz.underlying177 Tryz.underlying3 (TW.SK _) w.heap.size k _ rfl hown _ _ rfl MA ?_; intro c Mq hwc; obtain rfl:c=1:=by rw[TW.cOf FZ Mq,if_pos K3])
    | (at_mapUpdate; refine wpList_mapUpdate_own _ rfl _ _ _ 177 rfl 9 3 TW.key Tryz.underlying177 _ w.heap.size k _ rfl hown (by unfold maxLen; omega) _ _ _ rfl rfl MA _ [] (plainElem_int (a:=2) Tryz.underlying3 rfl) ?_; intro w1 Ot My)
    | (at_lookup; refine wpList_lookup_own_int _ rfl _ _ 177 rfl 9 3 .i64 TW.key Tryz.underlying177 Tryz.underlying3 (TW.SK _) w.heap.size (k+1) _ rfl Ot _ _ rfl MA ?_; intro c2 z2h zqq; obtain rfl:c2=2:=by rw[atKey_put_same FZ.1 hkl]at z2h; cases z2h; rfl)
    | go_in)
   ·have wO:k<l.length:=by assumption
    go_ret2
    rw[z2q wO]
    exact⟨rfl,EG.grown My EG.size (λj hj=>by cases hj; exact R _)⟩
   ·have:k=l.length:=by omega
    subst this
    rw[List.drop_length]at htw
    go_ret2
    rw[htw]
    exact⟨rfl,EG⟩
  ·have hgo:∀ wO:k<l.length,Go.AM.Lf.twR [] l=Go.AM.Lf.twR (l.take (k+1)) (l.drop (k+1)):=λwO=>by
    rw[htw,FN wO,BW wO]
    conv=>lhs; unfold Go.AM.Lf.twR
    rw[if_neg K3]
   go_wp2_with (first
    | (at_lookup; refine wpList_lookup_own_int _ rfl _ _ 177 rfl 9 3 .i64 TW.key Tryz.underlying177 Tryz.underlying3 (TW.SK _) w.heap.size k _ rfl hown _ _ rfl MA ?_; intro c Mq hwc; obtain rfl:c=0:=by rw[TW.cOf FZ Mq,if_neg K3])
    | (at_mapUpdate; refine wpList_mapUpdate_own _ rfl _ _ _ 177 rfl 9 3 TW.key Tryz.underlying177 _ w.heap.size k _ rfl hown (by unfold maxLen; omega) _ _ _ rfl rfl MA _ [] (plainElem_int (a:=1) Tryz.underlying3 rfl) ?_; intro w1 Ot My)
    | (at_lookup; refine wpList_lookup_own_int _ rfl _ _ 177 rfl 9 3 .i64 TW.key Tryz.underlying177 Tryz.underlying3 (TW.SK _) w.heap.size (k+1) _ rfl Ot _ _ rfl MA ?_; intro c2 z2h zqq; obtain rfl:c2=1:=by rw[atKey_put_same FZ.1 hkl]at z2h; cases z2h; rfl)
    | go_in)
   ·have wO:k<l.length:=by assumption
    go_roundw
    case rel=>exact⟨k+1,_,by omega,by go_num,Ot,(BW wO).symm▸TW.step FZ hkl,hgo wO,EG.grown My EG.size (λj hj=>by cases hj; exact R _)⟩
    case measure=>simp[intOf]; omega
   ·have:k=l.length:=by omega
    subst this
    rw[List.drop_length]at htw
    go_ret2
    rw[htw]
    exact⟨rfl,EG⟩
end
end Go.Proofs
namespace Go.AM.Lf
open Go.Proofs Go.Proofs.Tryz
theorem zrj:zw Tryz.prog 55 ⟨[.ty (.sl .str)],[.str,.bool],λx=>tp x⟩:=by
 refine jM Tryz.func55 (by kernel_rfl) rfl λO (l:List zn) xa y hy hI ha => ?_
 obtain⟨⟨h0,h1⟩,hy⟩:=hy
 cases hy
 obtain⟨v0,r,rfl,Yy,ha⟩:=wP.cons_inv (show wP O [.qj (.sl .str) l] xa from ha)
 rw[ha.wg]
 have hv:=RD.jP (O:=O) (τ:=.sl .str) (x:=l) Yy rfl
 rcases hv.Z5 with⟨rfl,a,e⟩ | ⟨blk,off,cap,g,e,ja,ju,hg,hc⟩
 ·cases e
  refine(TW.zero a 0 O.w).mono ?_
  rintro e w' ⟨rfl,hB⟩
  exact⟨hB,λ_=>⟨_,rfl,RD.zaU RD.str RD.bool⟩⟩
 ·cases e
  refine(TW.more blk off cap l O.w h0 (hI.cp blk ja) (λj hj => ?_) h1).mono ?_
  ·have h3:=hc j hj 0 (.string ⟨l[j].toArray⟩) (by rw[(hg j hj).jq]; rfl)
   simpa[Ty.size]using h3
  ·rintro e w' ⟨rfl,hB⟩
   exact⟨hB,λ_=>⟨_,rfl,RD.zaU RD.str RD.bool⟩⟩
def t77:=t76.d zrj
theorem zjz:zw Pz 107 ⟨[.ty ql,.rp .str],[.bool],λx=>u7 x.1 x.2⟩:=we t77 (rz [2]) hN func107 [] zg
def t78:=t77.d zjz
def Ib:zy:=Lz [] [Mm 0 (.sl ql),.s 1 (.wi 107 [.rp .str]),Mi 7] cO [jW,oe] λp s=>v8 p.1 (λz0=>u7 z0 p.2.1) p.2.2 s
def zbm:Hints:=Hz [(0,Ib)] [] []
theorem z2V:LO Tryz.f89 Ib 0:=lk t78 rn zbm [] zg
theorem z4q:zw Pz 89 ⟨[.ty (.sl ql),.wi 107 [.rp .str]],[i64],λx=>wb x.1 (λz0=>u7 z0 x.2)⟩:=we t78 rn zbm func89 [0] (qc rfl z2V zg)
def t79:=t78.d z4q
theorem RH:zw Pz 106 ⟨[.ty (.sl ql),.wi 107 [.rp .str]],[.bool],λx=>vI x.1 (λz0=>u7 z0 x.2)⟩:=we (t79.d z4q) rn hN func106 [] zg
def t80:=t79.d RH
theorem zjx:zw Pz 105 ⟨[.ty .str,.rp qv],[.bool],λx=>jY x.1 x.2⟩:=we (t80.d RH) (rz [2]) hN func105 [] zg
def t81:=t80.d zjx
def ON:zy:=Lz [] [Mm 0 (.sl .str),.s 1 (.wi 105 [.rp qv]),Mi 7] cO [jW,oe] λp s=>uS p.1 (λz0=>jY z0 p.2.1) p.2.2 s
def zgM:Hints:=Hz [(0,ON)] [] []
theorem z8z:LO Tryz.f104 ON 0:=lk t81 rn zgM [] zg
theorem zjw:zw Pz 104 ⟨[.ty (.sl .str),.wi 105 [.rp qv]],[i64],λx=>wW x.1 (λz0=>jY z0 x.2)⟩:=we t81 rn zgM func104 [0] (qc rfl z8z zg)
def t82:=t81.d zjw
def z3u:zy:=Lz [.slot 4 .str] [Mr 1 qv,Mm 11 (.sl xk),Mi 12] ⟨[Mi 13,.a .str],[(4,.cur 0 .str)],od⟩ [⟨.exit 0,z65⟩] λp s=>fG p.1 p.2.1 p.2.2 s
def z3v:zy:=Lz [] [Mr 1 qv,Mm 24 (.sl xl),Mi 25] ⟨[Mi 26,.a .str],[(4,.cur 0 .str)],od⟩ [⟨.exit 2,z65⟩] λp s=>fH p.1 p.2.1 p.2.2 s
def h57:Hints:=Hz [(0,z3u),(2,z3v)] [] []
theorem zeu:LO Tryz.f57 z3u 0:=lk t82 (rz [1]) h57 [] zg
theorem zev:LO Tryz.f57 z3v 2:=lk t82 (rz [1]) h57 [] zg
theorem zrl:zw Pz 57 ⟨[.ty qv],[.str,.bool],λx=>fk x⟩:=we t82 (rz [1]) h57 func57 [0,2] (qc rfl zeu (qc rfl zev zg))
def t83:=t82.d zrl
def P8:zy:=Lz [] [Mm 0 (.sl .str),Ms 1,Mi 7] cO [jW,oe] λp s=>gG p.1 p.2.1 p.2.2 s
def zh1:Hints:=Hz [(0,P8)] [] []
theorem z8U:LO Tryz.f174 P8 0:=lk t83 rn zh1 [] zg
theorem zkA:zw Pz 174 ⟨[.ty (.sl .str),.ty .str],[i64],λx=>wE x.1 x.2⟩:=we t83 rn zh1 func174 [0] (qc rfl z8U zg)
def t84:=t83.d zkA
theorem zjD:zw Pz 111 ⟨[.ty (.sl .str),.ty .str],[.bool],λx=>wN x.1 x.2⟩:=we t84 rn hN func111 [] zg
def t85:=t84.d zjD
abbrev SS:=ug.den Lp->T (ug.den Vr)
abbrev zcB(F:SS):=xw Pz 173 ⟨[.cur,.any],Lp,[],Vr,1,F⟩
def zgj(fN:SS)(KC:zcB fN):Tb:=t85.s KC
def P7(fN:SS):zy:=Lz [] [Mm 23 (.sl .expr),Mi 24] z5S [⟨.exit 0,Vr⟩] λp s=>fp (λy0 y1=>fN (y0,y1)) p.1 p.2 s
def zh0(fN:SS):Hints:=Hz [(0,P7 fN)] [(0,1,.ways [z6q]),(3,1,.ways [⟨.normal,Vr⟩])] []
theorem z8T(fN:SS)(KC:zcB fN):LO Tryz.f173 (P7 fN) 0:=lk (zgj fN KC) (rz [3]) (zh0 fN) [] zg
theorem zae(fN:SS)(KC:zcB fN):xw Pz 173 ⟨[.cur,.any],Lp,[],Vr,1,λx=>dM (λy0 y1=>fN (y0,y1)) x.1 x.2⟩:=eZ (zgj fN KC) (rz [3]) (zh0 fN) func173 [0] (qc rfl (z8T fN KC) zg)
theorem zc5:xw Pz 173 ⟨[.cur,.any],Lp,[],Vr,1,λx=>pF x.1 x.2⟩:=Yx (λfN x=>dM (λy0 y1=>fN (y0,y1)) x.1 x.2) (λx=>rfl) (λfN KC=>zae fN KC)
def t86:=t85.s zc5
def z0X:Tb:=t86.s zc5
def C6:zy:=Lz [] [Mm 23 (.sl .expr),Mi 24] z5S [⟨.exit 0,Vr⟩] λp s=>mH p.1 p.2 s
def z1R:Hints:=Hz [(0,C6)] [(0,1,.ways [z6q]),(3,1,.ways [⟨.normal,Vr⟩])] []
theorem TQ:LO Tryz.f173 C6 0:=lk z0X (rz [3]) z1R [] zg
theorem RM:xw Pz 173 ⟨[.cur,.any],Lp,[.slot 0 .str],Vr,1,λx=>nq x.1 x.2⟩:=eZ z0X (rz [3]) z1R func173 [0] (qc rfl TQ zg)
def t87:=t86.s RM
theorem zjB:zw Pz 109 ⟨[.ty .expr],[(.sl .str)],λx=>dL x⟩:=we (t87.s RM) (rz [1]) hN func109 [] zg
def t88:=t87.d zjB
end Go.AM.Lf
namespace Go.Proofs
section
open Go.RowKit Go.Maps
attribute [local go_sem] zN
set_option maxRecDepth 100000
set_option maxHeartbeats 2000000
theorem CC.info:(Tryz.prog.info? 9).map (λi=>(i.zero,i.size,i.bytes))=some (some (.string ⟨#[]⟩),1,16):=by kernel_rfl
theorem CC.wp{ops:Array Oper}{rest:List Oper}{o:Oper}{a:Act}{Q:Exit->Act->World->Prop}(w:World)(hgd:o.guard=zE)(s x:Operand)(t u:TypeId)
  (ho:o.op=.call { callee:=.builtin .append,args := #[s,x],argTypes := #[t,u] }) (v':Value) (w':World)
  (hr:(zU #[t,u] o.type #[a.eval s,a.eval x]).run Tryz.prog w=.ok v' w') (h:wpList Tryz.prog ops Q rest (a.put o.dst v') w'):wpList Tryz.prog ops Q (o::rest) a w :=
 wpList_plain hgd λ_ hK=>by
  unfold Oper.wp execOp
  simp only[ho,resolve,invoke,builtin,Sem.run_bind,Sem.run_pure,Result.andThen_ok,List.map_toArray,List.map_cons,List.map_nil,hr]
  exact hK _ _ h
/-- An append of nothing. -/
theorem CC.F3{base:Option Addr}{n cap:Nat}{a:Option Addr}{ty:TypeId}(w:World)(ju:n<=cap) :
  (zU #[38,38] ty #[.slice base n cap,.slice a 0 0]).run Tryz.prog w=.ok (.slice base n cap) w:=by
 obtain⟨i0,hi,Lu,hz1,hz2⟩:=info_parts CC.info
 have hu:=Tryz.underlying38
 cases a<;>cases base<;>simp[zU,run_underlying hu,sizeOf,typeInfo,hi,Builtin.lenOf,qN,loadCells,loadCellsFrom,storeCells,ju]
theorem CC.F2{n:Nat}{ty:TypeId}(w:World)(hn:0<n)(J:n*16<=140737488355328) :
  ∃ cs:Array Value,cs.size=grownCap w n 0 9/\(zU #[38,3] ty #[.slice zE 0 0,.int .i64 (n:Int)]).run Tryz.prog w=.ok (.slice (some ⟨w.heap.size,0,zE⟩) n (grownCap w n 0 9)) (w.drew.alloc (.cells cs 9)):=by
 obtain⟨i0,hi,Lu,hz1,hz2⟩:=info_parts CC.info
 have hu:=Tryz.underlying38
 have he:=Tryz.underlying3
 have w1:IntKind.i64.wrap (n:Int)=n:=IntWalk.i64_in _ (by omega)
 have h5:IntKind.i64.max=9223372036854775807:=by decide
 have ai:∀ w,(Go.asInt (.int .i64 (n:Int))).run Tryz.prog w=.ok (n:Int) w:=λw=>by simp[Go.asInt,asIntOf]
 have g1:¬ ((n:Int)<0):=by omega
 have g2:¬ ((281474976710656:Int)<(n:Int)*16):=by omega
 have g3:¬ (n=0):=by omega
 have g4:¬ (281474976710656<Builtin.nextslicecap n 0*16):=by
  have:=growslice_fits (bytes:=16) (need:=n) (old:=0) (by omega) (by omega)
  omega
 have hge:=grownCap_ge w n 0 9
 refine⟨qD (Value.string ⟨#[]⟩).cells n++qD (Value.string ⟨#[]⟩).cells (grownCap w n 0 9-n),?_,?_⟩
 ·simp[qD,Value.cells]; omega
 ·simp[zU,run_underlying hu,run_underlying he,sizeOf,typeInfo,zeroValue,hi,Lu,hz1,hz2,ai,w1,Builtin.lenOf,qN,Question.forced,newRow,grownCap,g1,g2,g3,g4]
  intro h
  omega
theorem CC.grow(n:Nat)(w:World)(J:n*16<=140737488355328):Calls Tryz.prog 172 #[.slice zE 0 0,.int .i64 (n:Int)] w λe w'=>∃ v,e=.returned v/\w'.ownsRow w.heap.size 9 1 v 0 []/\Below w.heap.size w w':=by
 go_enter Tryz.func172,Tryz.ntmps172
 by_cases hn:0<n
 ·obtain⟨cs,Xc,hr⟩:=CC.F2 (ty:=38) w hn J
  go_wp2_with (first
   | (at_builtin; refine CC.wp _ rfl _ _ _ _ rfl _ _ hr ?_)
   | go_in)
  go_ret
  refine⟨_,rfl,⟨rfl,.inr ⟨w.heap.size,_,cs,rfl,R _,by show(w.heap.push (zA cs 9))[w.heap.size]? = _; exact Array.getElem?_push_size,qK _,grownCap_le_maxLen w n 0 9 (by unfold maxLen; omega),by rw[Xc,Nat.mul_one],rfl⟩⟩,?_⟩
  have hB:Below w.heap.size w (w.alloc (.cells cs 9)):=(Below.refl _ _).alloc (R _) _
  exact⟨hB.os,hB.tape,hB.output,hB.size,hB.block⟩
 ·obtain rfl:n=0:=by omega
  go_wp2
  go_ret
  exact⟨_,rfl,World.ownsRow_nil _ _ _ _,Below.refl _ _⟩
/-- The texts of a slice whose block lies below n₀. -/
def CC.Strs(n₀:Nat)(oE:World)(sv:Value)(l:List (List UInt8)):Prop:=(∃ a,sv=.slice a 0 0/\l=[])\/∃ b off cap,sv=.slice (some ⟨b,off,zE⟩) l.length cap/\b<n₀/\∀ j (hj:j<l.length),oE.cell? ⟨b,off+j,zE⟩=some (.string ⟨l[j].toArray⟩)
def CC.cells(l:List (List UInt8)):List Value:=l.map λs=>.string ⟨s.toArray⟩
/-- How many texts the first k slices have; which. -/
def CC.fl(ls:List (List (List UInt8)))(k:Nat):Nat:=(ls.take k).flatten.length
def CC.out(ls:List (List (List UInt8)))(k:Nat):List Value:=CC.cells (ls.take k).flatten
def CC.at(ls:List (List (List UInt8)))(k:Nat):List (List UInt8):=ls.getD k []
theorem CC.take_succ{ls:List (List (List UInt8))}{k:Nat}(hk:k<ls.length):(ls.take (k+1)).flatten=(ls.take k).flatten++CC.at ls k:=by
 rw[zW hk,List.flatten_append,List.flatten_singleton]
 simp[CC.at,hk]
theorem CC.z7u{ls:List (List (List UInt8))}{k:Nat}(hk:k<ls.length):CC.fl ls (k+1)=CC.fl ls k+(CC.at ls k).length:=by
 unfold CC.fl; rw[CC.take_succ hk,List.length_append]
theorem CC.z4A{ls:List (List (List UInt8))}{k:Nat}(hk:k<ls.length):CC.out ls (k+1)=CC.out ls k++CC.cells (CC.at ls k):=by
 unfold CC.out CC.cells; rw[CC.take_succ hk,List.map_append]
theorem CC.zgD(ls:List (List (List UInt8)))(k:Nat):CC.fl ls k<=CC.fl ls ls.length:=by
 unfold CC.fl
 rw[List.take_length]
 conv=>rhs; rw[<- List.take_append_drop k ls,List.flatten_append,List.length_append]
 omega
theorem CC.concat(b off cap L:Nat)(svs:Nat->Value)(ls:List (List (List UInt8)))(w:World)(hL:L=ls.length)(K4:L*24<=140737488351232)(J:b<w.heap.size)
  (hc:∀ j,j<L->w.cell? ⟨b,off+j,zE⟩=some (svs j)) (hs:∀ j,j<L->CC.Strs w.heap.size w (svs j) (CC.at ls j)) (zqm:CC.fl ls L*16<=140737488355328) :
  Calls Tryz.prog 108 #[.slice (some ⟨b,off,zE⟩) L cap] w λe w'=>∃ v,e=.returned v/\w'.ownsRow w.heap.size 9 1 v (CC.fl ls L) (CC.out ls L)/\Below w.heap.size w w':=by
 obtain⟨i0,hi,Lu,hz1,hz2⟩:=info_parts CC.info
 have KE:∀ k,k<L->CC.fl ls (k+1)=CC.fl ls k+(CC.at ls k).length:=λk hk=>CC.z7u (by omega)
 have hou:∀ k,k<L->CC.out ls (k+1)=CC.out ls k++CC.cells (CC.at ls k):=λk hk=>CC.z4A (by omega)
 have hle:∀ k,CC.fl ls k<=CC.fl ls L:=λk=>hL▸CC.zgD ls k
 have hf0:CC.fl ls 0=0:=rfl
 have ho0:CC.out ls 0=[]:=rfl
 generalize CC.fl ls=fl at *
 generalize CC.out ls=out at *
 generalize CC.at ls=at_ at *
 clear hL ls
 generalize hM:fl L=M at *
 go_enter Tryz.func108,Tryz.ntmps108
 go_wp2
 go_loopw [3,11] (λsz i wr=>∃ k:Nat,k<=L/\i=.int .i64 k/\sz=.int .i64 (fl k:Int)/\w=wr) (λ_ i _=>L-(intOf i).toNat)
 case atStart=>exact⟨0,qK _,rfl,by rw[hf0]; rfl,rfl⟩
 case round =>
  obtain⟨k,hk,rfl,rfl,rfl⟩:=hrel
  by_cases wO:k<L
  ·have fc:=hc k wO
   have hS:=hs k wO
   have h1:=KE k wO
   have X:=hle (k+1)
   have hSq:∃ a c,svs k=.slice a (at_ k).length c:=by
    rcases hS with⟨a,e,he⟩ | ⟨b1,o1,c1,e,_,_⟩
    ·exact⟨a,0,by rw[e,he]; rfl⟩
    ·exact⟨_,c1,e⟩
   obtain⟨a1,c1,e1⟩:=hSq
   rw[e1]at fc
   clear hc hs hS KE hou hle e1
   generalize hq:(at_ k).length=q at *
   generalize hm:fl k=m at *
   generalize hm':fl (k+1)=m' at *
   go_wp2
   go_roundw
   case rel=>exact⟨k+1,by omega,by go_num,by rw[hm',h1]; go_num,by first | rfl | trivial⟩
   case measure=>simp[intOf]; omega
  ·have hkl:k=L:=by omega
   subst hkl
   rw[hM]
   have hg:=CC.grow M w zqm
   go_wp2_with (first
    | (go_at_call 172; refine hg.mono ?_; rintro e w1 ⟨v1,rfl,pI,hB⟩)
    | go_in)
   clear hg
   go_loopw [6,27] (λo i wr'=>∃ j:Nat,j<=k/\i=.int .i64 j/\wr'.ownsRow w.heap.size 9 1 o (fl j) (out j)/\Below w.heap.size w wr') (λ_ i _=>k-(intOf i).toNat)
   case atStart=>exact⟨0,qK _,rfl,by rw[hf0,ho0]; exact pI,hB⟩
   case round =>
    obtain⟨j,hj,rfl,pI,hB⟩:=hrel
    by_cases MC:j<k
    ·have fc:wr.cell? ⟨b,off+j,zE⟩=some (svs j):=(hB.cell (p:=⟨b,off+j,zE⟩) J).trans (hc j MC)
     have h1:=KE j MC
     have X:=hle (j+1)
     have h3:=hou j MC
     rcases hs j MC with⟨a,e,he⟩ | ⟨b1,o1,c1,e,Ls,Xc⟩
     ·rw[e]at fc
      rw[he]at h1 h3
      have e1:fl (j+1)=fl j:=by rw[h1]; rfl
      have e2:out (j+1)=out j:=by rw[h3]; simp[CC.cells]
      have hv:∃ base n cap,u6=.slice base n cap/\n<=cap:=by
       rcases pI.2 with⟨rfl,_⟩ | ⟨g,Ut,cur,rfl,_,_,ju,_⟩
       ·exact⟨_,_,_,rfl,R _⟩
       ·exact⟨_,_,_,rfl,ju⟩
      obtain⟨base,n,Ut,rfl,ju⟩:=hv
      have hr:=CC.F3 (base:=base) (n:=n) (cap:=Ut) (a:=a) (ty:=38) wr ju
      clear hc hs KE hou hle hf0 ho0 he e
      go_wp2_with (first
       | (at_builtin; refine CC.wp _ rfl _ _ _ _ rfl _ _ hr ?_)
       | go_in)
      go_roundw
      case rel=>exact⟨j+1,by omega,by go_num,by rw[e1,e2]; exact pI,hB⟩
      case measure=>simp[intOf]; omega
     ·rw[e]at fc
      have hB1:=hB.size
      have B:(CC.cells (at_ j)).length=(at_ j).length*1:=by simp[CC.cells]
      have Qe:∀ u∈CC.cells (at_ j),u.oneCell'=true:=by
       intro u hu
       obtain⟨s,_,rfl⟩:=List.mem_map.1 hu
       rfl
      have ziv:∀ i u,(CC.cells (at_ j))[i]? = some u->wr.cell? ((⟨b1,o1,zE⟩:Addr).add i)=some u:=by
       intro i u hu
       have JI:i<(at_ j).length:=by
        have:=(List.getElem?_eq_some_iff.1 hu).1
        simpa[CC.cells]using this
       have zdv:(⟨b1,o1,zE⟩:Addr).add i=⟨b1,o1+i,zE⟩:=by unfold Addr.add; split<;>simp_all
       rw[zdv,(hB.cell (p:=⟨b1,o1+i,zE⟩) Ls),Xc i JI,<- hu]
       simp[CC.cells,JI]
      clear hc hs KE hou hle hf0 ho0 e Xc
      generalize CC.cells (at_ j)=news at *
      generalize hq:(at_ j).length=q at *
      go_wp2_with (first
       | (at_builtin; refine wpList_append_own _ rfl _ _ 38 rfl w.heap.size 9 i0 (.string ⟨#[]⟩) 1 16 Tryz.underlying38 hi Lu hz1 hz2 rfl (by decide) _ _ _ rfl pI ⟨b1,o1,zE⟩ q c1 news rfl B ziv Qe (by unfold maxLen; omega) (by omega) hB1 ?_; intro v' w' ziz zdC ztj)
       | go_in)
      go_roundw
      case rel=>exact⟨j+1,by omega,by go_num,by rw[h1,h3]; exact ziz,hB.grown zdC hB.size (λi hi=>(pI.lt i hi).1)⟩
      case measure=>simp[intOf]; omega
    ·have hjk:j=k:=by omega
     subst hjk
     clear hc hs KE hou hle
     go_wp2
     go_ret
     exact⟨_,rfl,by rw[hM]at pI; exact pI,hB⟩
end
end Go.Proofs
namespace Go.AM.Lf
open Go.Proofs Go.Proofs.Tryz
theorem zaR{O:KS}{l:List zn}{cs:List Value}(hI:Inv O)(h:Rc O.w O.ok (.sl .str) l cs):∃ v,cs=[v]/\CC.Strs O.w.heap.size O.w v l:=by
 rcases h.Z5 with⟨rfl,a,e⟩ | ⟨blk,off,cap,g,e,ja,ju,hg,hc⟩
 ·exact⟨_,e,.inl ⟨a,rfl,rfl⟩⟩
 ·refine⟨_,e,.inr ⟨blk,off,cap,rfl,hI.cp blk ja,λj hj => ?_⟩⟩
  have h3:=hc j hj 0 (.string ⟨l[j].toArray⟩) (by rw[(hg j hj).jq]; rfl)
  simpa[Ty.size]using h3
theorem zjA:zw Tryz.prog 108 ⟨[.ty (.sl (.sl .str))],[.sl .str],λx=>jj x⟩:=by
 refine jM Tryz.func108 (by kernel_rfl) rfl λO (ls:List (List zn)) xa y hy hI ha => ?_
 obtain⟨⟨h0,h1,X⟩,hy⟩:=hy
 cases hy
 obtain⟨v0,r,rfl,Yy,ha⟩:=wP.cons_inv (show wP O [.qj (.sl (.sl .str)) ls] xa from ha)
 rw[ha.wg]
 have hv:=RD.jP (O:=O) (τ:=.sl (.sl .str)) (x:=ls) Yy rfl
 rcases hv.Z5 with⟨rfl,a,e⟩ | ⟨blk,off,cap,g,e,ja,ju,hg,hc⟩
 ·exact absurd rfl X
 ·cases e
  have Qc:∀ j (hj:j<ls.length),∃ v,g j=[v]/\CC.Strs O.w.heap.size O.w v ls[j]:=λj hj=>zaR hI (hg j hj)
  have fc:∀ j,j<ls.length->O.w.cell? ⟨blk,off+j,none⟩=some ((g j).headD (.bool false)):=λj hj=>by
   obtain⟨v,hv,_⟩:=Qc j hj
   have h3:=hc j hj 0 v (by rw[hv]; rfl)
   rw[hv]
   simpa[Ty.size]using h3
  have KE:ls.flatten=(ls.take ls.length).flatten:=by rw[List.take_length]
  refine(CC.concat blk off cap ls.length (λj=>(g j).headD (.bool false)) ls O.w rfl h0 (hI.cp blk ja) fc (λj hj => ?_) (by unfold CC.fl; rw[<- KE]; exact h1)).mono ?_
  ·obtain⟨v,hv,hs⟩:=Qc j hj
   rw[hv]
   have:CC.at ls j=ls[j]:=by simp[CC.at,hj]
   rw[this]; exact hs
  ·rintro e w' ⟨v,rfl,pI,hB⟩
   refine⟨hB,λ_=>⟨_,rfl,?_⟩⟩
   unfold CC.fl CC.out at pI
   rw[<- KE]at pI
   show RD _ (.qj (.sl .str) ls.flatten) v
   refine RD.Zr rfl ?_
   rcases pI.2 with⟨rfl,hn⟩ | ⟨gb,Ut,cur,rfl,hgb,zdy,hle,hmax,cm,htk⟩
   ·rw[zY hn]
    exact .mf .str none
   ·refine .sl .str _ gb 0 Ut (λi=>[.string ⟨(ls.flatten[i]?.getD []).toArray⟩]) (.inr ⟨hgb,(Array.getElem?_eq_some_iff.1 zdy).1⟩) hle (λi hi => ?_) (λi hi j u hu => ?_)
    ·rw[zT hi]
     exact .str _
    ·match j,hu with
     | 0,hu =>
      simp only[List.getElem?_cons_zero,Option.some.injEq]at hu
      have e0:(0:Nat)+i*Ty.size .str+0=i:=by show 0+i*1+0=i; omega
      show w'.cell? ⟨gb,0+i*Ty.size .str+0,none⟩=some u
      rw[e0,cell_of_row w' gb i cur _ (0,0) zdy,<- hu]
      have h4:(cur.toList.take (ls.flatten.length*1))[i]? = (CC.cells ls.flatten)[i]? := by rw[htk]
      rw[List.getElem?_take_of_lt (by omega)]at h4
      rw[<- Array.getElem?_toList,h4]
      unfold CC.cells
      rw[List.getElem?_map,zT hi]; rfl
def t89:=t88.d zjA
theorem zjF:zw Pz 113 ⟨[.ty qe,.rp .str],[.bool],λx=>uI x.1 x.2⟩:=we t89 (rz [2]) hN func113 [] zg
def t90:=t89.d zjF
def I9:zy:=Lz [] [Mm 0 (.sl qe),.s 1 (.wi 113 [.rp .str]),Mi 7] cO [jW,oe] λp s=>j9 p.1 (λz0=>uI z0 p.2.1) p.2.2 s
def zbk:Hints:=Hz [(0,I9)] [] []
theorem z2T:LO Tryz.f86 I9 0:=lk t90 rn zbk [] zg
theorem z4o:zw Pz 86 ⟨[.ty (.sl qe),.wi 113 [.rp .str]],[i64],λx=>vL x.1 (λz0=>uI z0 x.2)⟩:=we t90 rn zbk func86 [0] (qc rfl z2T zg)
def t91:=t90.d z4o
theorem RI:zw Pz 112 ⟨[.ty (.sl qe),.wi 113 [.rp .str]],[.bool],λx=>vV x.1 (λz0=>uI z0 x.2)⟩:=we (t91.d z4o) rn hN func112 [] zg
def t92:=t91.d RI
theorem zjC:zw Pz 110 ⟨[.ty .str,.rp (.sl .str),.rp qv],[.bool],λx=>yJ x.1 x.2.1 x.2.2⟩:=we (t92.d RI) (rz [3]) hN func110 [] zg
def t93:=t92.d zjC
def C4:zy:=Lz [] [Mm 0 (.sl .str),.s 1 (.wi 110 [.rp (.sl .str),.rp qv]),Mi 7] cO [jW,oe] λp s=>uS p.1 (λz0=>yJ z0 p.2.1.1 p.2.1.2) p.2.2 s
def z1P:Hints:=Hz [(0,C4)] [] []
theorem TO:LO Tryz.f104 C4 0:=lk t93 rn z1P [] zg
theorem RF:zw Pz 104 ⟨[.ty (.sl .str),.wi 110 [.rp (.sl .str),.rp qv]],[i64],λx=>wW x.1 (λz0=>yJ z0 x.2.1 x.2.2)⟩:=we t93 rn z1P func104 [0] (qc rfl TO zg)
def t94:=t93.d RF
def T58:Tb:=t94.d RF
def z3w:zy:=Lz [] [Mr 2 qv,Mr 3 (.sl .str),Mm 13 (.sl xi),Mi 14] ⟨[Mm 6 (.sl .str),Mi 15],[],[]⟩ [⟨.exit 0,z6c⟩] λp s=>mv p.1 p.2.1 p.2.2.1 p.2.2.2 s
def z3x:zy:=Lz [] [Mr 2 qv,Mr 3 (.sl .str),Mm 30 (.sl xl),Mi 31] ⟨[Mm 6 (.sl .str),Mi 32],[],[]⟩ [⟨.exit 2,z6c⟩] λp s=>mw p.1 p.2.1 p.2.2.1 p.2.2.2 s
def h58:Hints:=Hz [(0,z3w),(2,z3x)] [] []
theorem zew:LO Tryz.f58 z3w 0:=lk T58 (rz [2,3]) h58 [] zg
theorem zex:LO Tryz.f58 z3x 2:=lk T58 (rz [2,3]) h58 [] zg
theorem zrm:zw Pz 58 ⟨[.ty qv,.ty (.sl .str)],[.str,.bool],λx=>mY x.1 x.2⟩:=we T58 (rz [2,3]) h58 func58 [0,2] (qc rfl zew (qc rfl zex zg))
def t95:=t94.d zrm
theorem zkC:zw Pz 176 ⟨[.ty .str,.rp (.sl .str)],[.bool],λx=>cv x.1 x.2⟩:=we t95 rn hN func176 [] zg
def t96:=t95.d zkC
def C5:zy:=Lz [] [Mm 0 (.sl .str),.s 1 (.wi 176 [.rp (.sl .str)]),Mi 7] cO [jW,oe] λp s=>uS p.1 (λz0=>cv z0 p.2.1) p.2.2 s
def z1Q:Hints:=Hz [(0,C5)] [] []
theorem TP:LO Tryz.f104 C5 0:=lk t96 rn z1Q [] zg
theorem RG:zw Pz 104 ⟨[.ty (.sl .str),.wi 176 [.rp (.sl .str)]],[i64],λx=>wW x.1 (λz0=>cv z0 x.2)⟩:=we t96 rn z1Q func104 [0] (qc rfl TP zg)
def t97:=t96.d RG
theorem zkB:zw Pz 175 ⟨[.ty (.sl .str),.wi 176 [.rp (.sl .str)]],[.bool],λx=>kJ x.1 (λz0=>cv z0 x.2)⟩:=we (t97.d RG) rn hN func175 [] zg
def t98:=t97.d zkB
theorem zjG:zw Pz 114 ⟨[.ty .expr,.ty (.sl .str)],[.bool],λx=>Ze x.1 x.2⟩:=we t98 (rz [2,3]) hN func114 [] zg
def t99:=t98.d zjG
abbrev Y59:=eJ [.ty .expr,.ty (.sl .str)]->T (ED [.bool])
abbrev H59(F:Y59):=zw Pz 59 ⟨[.ty .expr,.ty (.sl .str)],[.bool],F⟩
theorem zc4(ek:Y59)(VH:H59 ek):zw Pz 116 ⟨[.ty .expr,.rp (.sl .str)],[.bool],λx=>j5 (λy0 y1=>ek (y0,y1)) x.1 x.2⟩:=we (t99.d VH) (rz [2]) hN func116 [] zg
def z0Y(ek:Y59)(VH:H59 ek):Tb:=t99.d (zc4 _ VH)
def C7(ek:Y59):zy:=Lz [] [Mm 0 (.sl .expr),.s 1 (.wi 116 [.rp (.sl .str)]),Mi 7] cO [jW,oe] λp s=>yw (λy0 y1=>ek (y0,y1)) p.1 (λz0=>(j5 (λy0 y1=>ek (y0,y1))) z0 p.2.1) p.2.2 s
def z1S(ek:Y59):Hints:=Hz [(0,C7 ek)] [] []
theorem TR(ek:Y59)(VH:H59 ek):LO Tryz.f177 (C7 ek) 0:=lk (z0Y ek VH) rn (z1S ek) [] zg
theorem zaf(ek:Y59)(VH:H59 ek):zw Pz 177 ⟨[.ty (.sl .expr),.wi 116 [.rp (.sl .str)]],[i64],λx=>br (λy0 y1=>ek (y0,y1)) x.1 (λz0=>(j5 (λy0 y1=>ek (y0,y1))) z0 x.2)⟩:=we (z0Y ek VH) rn (z1S ek) func177 [0] (qc rfl (TR ek VH) zg)
theorem zad(ek:Y59)(VH:H59 ek):zw Pz 115 ⟨[.ty (.sl .expr),.wi 116 [.rp (.sl .str)]],[.bool],λx=>jm (λy0 y1=>ek (y0,y1)) x.1 (λz0=>(j5 (λy0 y1=>ek (y0,y1))) z0 x.2)⟩:=we (t99.d (zaf _ VH)) rn hN func115 [] zg
def h59(ek:Y59):Hints:=Hz [] [(0,3,.ways [⟨.normal,⟨[Mb 41,.v (.qj .expr),.v (.qj .expr)],[],Lh⟩⟩]),(3,1,.ways [⟨.normal,Kq⟩,JH])] []
theorem zf5(ek:Y59)(VH:H59 ek):zw Pz 59 ⟨[.ty .expr,.ty (.sl .str)],[.bool],λx=>dC (λy0 y1=>ek (y0,y1)) x.1 x.2⟩:=we ((t99.d (zad _ VH)).d (zc4 _ VH)) (rz [2,3]) (h59 ek) func59 [] zg
theorem zrn:zw Pz 59 ⟨[.ty .expr,.ty (.sl .str)],[.bool],λx=>iB x.1 x.2⟩:=Gl (λek x=>dC (λy0 y1=>ek (y0,y1)) x.1 x.2) (λx=>rfl) (λek VH=>zf5 ek VH)
def t100:=t99.d zrn
def z3b:zy:=Lz [.slot 8 .str] [Mr 1 qv,Mm 46 (.sl qq),Mi 47] ⟨[Mi 48,.a .str],[(8,.cur 0 .str)],od⟩ [⟨.exit 1,⟨[.a .str],[(8,.cur 0 .str)],od⟩⟩] λp s=>oq p.1 p.2.1 p.2.2 s
def z3c:zy:=Lz [] [Mm 67 (.sl xl),Mi 68] ⟨[Mi 69,.a .str],[(8,.cur 0 .str)],od⟩ [⟨.exit 3,⟨[.a .str],[],od⟩⟩,⟨.ret,⟨[Mi 2,Ms 3,.a .str],[],od⟩⟩] λp s=>ov p.1 p.2 s
def h20:Hints:=Hz [(1,z3b),(3,z3c)] [(0,3,.flat [Mb 19]),(0,23,.ways [⟨.normal,⟨[Mb 84,.a .str,.v (.qj xl)],[(8,.cur 0 .str)],[.arr .str,.var (.qj xl)]⟩⟩])] []
theorem zeb:LO Tryz.f20 z3b 1:=lk t100 (rz [1]) h20 [] zg
theorem zec:LO Tryz.f20 z3c 3:=lk t100 (rz [1]) h20 [] zg
theorem zqM:zw Pz 20 ⟨[.ty qv],[i64,.str],λx=>cx x⟩:=we t100 (rz [1]) h20 func20 [1,3] (qc rfl zeb (qc rfl zec zg))
def t101:=t100.d zqM
theorem zrp:zw Pz 61 ⟨[.ty qv],[.str],λx=>nY x⟩:=we t101 (rz [1]) hN func61 [] zg
def t102:=t101.d zrp
theorem zjI:zw Tryz.prog 117 ⟨[.ty .str,.ty .str],[.sl .str],λx=>strings_Split x.1 x.2⟩:=by
 refine jM Tryz.func117 (by kernel_rfl) rfl λO x xa y hy hI ha => ?_
 obtain⟨s,sep⟩:=x
 obtain⟨⟨h0,h1⟩,hy⟩:=hy
 cases hy
 obtain⟨v0,r,rfl,Yy,ha⟩:=wP.cons_inv (show wP O [.qj .str s,.qj .str sep] xa from ha)
 obtain⟨v1,r,rfl,Mp,ha⟩:=ha.cons_inv
 rw[ha.wg,Yy.jq,Mp.jq]
 obtain⟨m,hm⟩:=ya hI
 refine(Go.Proofs.Tryz.strings_Split ⟨s.toArray⟩ ⟨sep.toArray⟩ m O.w (by rw[show(zF ⟨s.toArray⟩)=zH s from Y]; exact h0) hm (by rw[show(zF ⟨sep.toArray⟩)=zH sep from Y]; simp only at h1; omega)).mono ?_
 rintro e w' ⟨rfl,rfl⟩
 refine⟨Ku _ _,λ_=>⟨_,rfl,?_⟩⟩
 exact z50 s sep h1 _
def t103:=t102.d zjI
theorem zkE:zw Tryz.prog 179 ⟨[.ty .str,.ty .str],[.str,.str,.bool],λx=>strings_Cut x.1 x.2⟩:=by
 refine jM Tryz.func179 (by kernel_rfl) rfl λO x xa y hy hI ha => ?_
 obtain⟨s,sep⟩:=x
 obtain⟨h0,hy⟩:=hy
 cases hy
 obtain⟨v0,r,rfl,Yy,ha⟩:=wP.cons_inv (show wP O [.qj .str s,.qj .str sep] xa from ha)
 obtain⟨v1,r,rfl,Mp,ha⟩:=ha.cons_inv
 rw[ha.wg,Yy.jq,Mp.jq]
 obtain⟨m,hm⟩:=ya hI
 refine(Go.Proofs.Tryz.strings_Cut ⟨s.toArray⟩ ⟨sep.toArray⟩ m O.w (by rw[show(zF ⟨s.toArray⟩)=zH s from Y]; exact h0) hm).mono ?_
 rintro e w' ⟨rfl,n,rfl⟩
 refine⟨below_drewN _ _,λ_=>⟨_,rfl,?_⟩⟩
 rw[show Lib.cut (⟨s.toArray⟩:ByteArray).data.toList (⟨sep.toArray⟩:ByteArray).data.toList=Uz s sep from z1s s sep]
 exact RD.zs9 RD.str RD.str RD.bool
def t104:=t103.d zkE
theorem zlu:zw Pz 244 ⟨[.ty (.int .i32)],[.bool],λx=>sT x⟩:=we t104 rn hN func244 [] zg
def t105:=t104.d zlu
theorem zaA(w:World):Go.Proofs.PredAtRunes Tryz.prog 244 #[] (λn=>n==32) w:=λoE x U J=>by
 show Calls Tryz.prog 244 #[.int .i32 (x:Int)] oE _
 have hn:Tryz.f244.ntmps=5:=by kernel_rfl
 have V:((x:Int)==32)=(x==32):=by rw[Bool.eq_iff_iff,beq_iff_eq,beq_iff_eq]; omega
 go_enter Tryz.func244,hn
 go_wp2
 go_ret
 exact⟨by rw[<- V]; rfl,0,rfl⟩
theorem zlt:zw Tryz.prog 243 ⟨[.ty .str,.wi 244 []],[.sl .str],λx=>strings_FieldsFunc x.1 (λz0=>sT z0)⟩:=by
 refine jM Tryz.func243 (by kernel_rfl) rfl λO x xa y hy hI ha => ?_
 obtain⟨s,c⟩:=x
 obtain⟨h0,hy⟩:=hy
 cases hy
 obtain⟨v0,r,rfl,Yy,ha⟩:=wP.cons_inv (show wP O [.qj .str s,.wi 244 []] xa from ha)
 obtain⟨v1,r,rfl,Mp,ha⟩:=ha.cons_inv
 rw[ha.wg,Yy.jq,Mp.z1j (by rfl)]
 refine(Go.Proofs.Tryz.strings_FieldsFunc_runes 244 #[] (λargs w=>oj Tryz.func244 (by kernel_rfl) rfl w) (λn=>n==32) ⟨s.toArray⟩ O.w (by rw[show(zF ⟨s.toArray⟩)=zH s from Y]; exact h0) (zaA O.w)).mono ?_
 rintro e w' ⟨A,rfl,hA,ho,hB⟩
 refine⟨hB,λ_=>⟨_,rfl,?_⟩⟩
 exact Tf s ho
def t106:=t105.d zlt
theorem zkF:zw Pz 180 ⟨[.ty .str],[(.sl .str)],λx=>ir x⟩:=we t106 rn hN func180 [] zg
def t107:=t106.d zkF
theorem zm5:zw Tryz.prog 291 ⟨[.ty .str,.ty .str],[i64],λx=>strings_IndexAny x.1 x.2⟩:=by
 refine jM Tryz.func291 (by kernel_rfl) rfl λO x xa y hy hI ha => ?_
 obtain⟨s,chars⟩:=x
 obtain⟨⟨h0,h1,X,h3⟩,hy⟩:=hy
 cases hy
 obtain⟨v0,r,rfl,Yy,ha⟩:=wP.cons_inv (show wP O [.qj .str s,.qj .str chars] xa from ha)
 obtain⟨v1,r,rfl,Mp,ha⟩:=ha.cons_inv
 rw[ha.wg,Yy.jq,Mp.jq]
 refine(Go.Proofs.Any.Wb Go.Proofs.Tryz.lays153 (λ_=>by kernel_rfl) (by kernel_rfl) ⟨s.toArray⟩ ⟨chars.toArray⟩ O.w (by rw[show(zF ⟨chars.toArray⟩)=zH chars from Y]; exact h1) (by rw[show(zF ⟨s.toArray⟩)=zH s from Y]; exact h0) (by rw[show(zF ⟨chars.toArray⟩)=zH chars from Y]; exact X) h3).mono ?_
 rintro e w' ⟨rfl,hB⟩
 refine⟨hB,λ_=>⟨_,rfl,?_⟩⟩
 have e1:Lib.indexAny s chars=si s chars:=BX chars s
 show RD _ (.qj i64 (si s chars)) _
 rw[<- e1]
 exact RD.int
def t108:=t107.d zm5
def zph:Hints:=Hz [] [(0,1,.flat [Mb 4])] []
theorem zmG:zw Pz 338 ⟨[.ty .str,.ty .str],[.bool],λx=>kf x.1 x.2⟩:=we t108 rn zph func338 [] zg
def t109:=t108.d zmG
theorem zm6:zw Pz 292 ⟨[.ty .str,.ty .str],[.bool],λx=>strings_HasPrefix x.1 x.2⟩:=we t109 rn hN func292 [] zg
def t110:=t109.d zm6
def Rv:zy:=Lz [] [] pj [NU] λp s=>bO  s
def zhJ:Hints:=Hz [(0,Rv)] [(0,0,.flat [Mb 23])] []
theorem za1:LO Tryz.f394 Rv 0:=lk t110 rn zhJ [] zg
theorem znb:xw Pz 394 ⟨[.ptr],pj,[],SH,0,λx=>dN x⟩:=eZ t110 rn zhJ func394 [0] (qc rfl za1 zg)
def t111:=t110.s znb
theorem zn0:zw Tryz.prog 366 ⟨[.ty .str,.ty (.int .u8)],[i64],λx=>strings_IndexByte x.1 x.2⟩:=by
 refine jM Tryz.func366 (by kernel_rfl) rfl λO x xa y hy hI ha => ?_
 obtain⟨s,c⟩:=x
 cases hy
 obtain⟨v0,r,rfl,Yy,ha⟩:=wP.cons_inv (show wP O [.qj .str s,.qj (.int .u8) c] xa from ha)
 obtain⟨v1,r,rfl,Mp,ha⟩:=ha.cons_inv
 rw[ha.wg,Yy.jq,Mp.eB]
 refine(Go.Proofs.Tryz.strings_IndexByte ⟨s.toArray⟩ c O.w).mono ?_
 rintro e w' ⟨rfl,rfl⟩
 refine⟨ZS _,λ_=>⟨_,rfl,?_⟩⟩
 have e1:Lib.indexByte s (byteOf c)=UR s (byteOf c):=z8k s (byteOf c)
 show RD _ (.qj i64 (UR s (byteOf c))) _
 rw[<- e1]
 exact RD.int
def t112:=t111.d zn0
def zpl:Hints:=Hz [] [(0,2,.ways [⟨.normal,⟨[Mb 30,.v (.qj xm)],[],Ug⟩⟩])] []
theorem zn9:xw Pz 389 ⟨ob,⟨[Ms 1,.v (.qj xm)],[(0,.ptr 0 0)],Ug⟩,[],⟨[Mm 0 (.int .u8),.v (.qj xm)],[],Ug⟩,1,λx=>uJ x.1 x.2⟩:=eZ t112 rn zpl func389 [] zg
def t113:=t112.s zn9
theorem zn3:jx Pz 370 ⟨QP,⟨[Mi 1,Mi 2,.v (.qj xm)],[(0,.ptr 0 0)],Ug⟩,[],SH,0,415,tX,none,λx=>vp x.1 x.2.1 x.2.2⟩:=Yg t113 rn hN func370 [] zg
def t114:=t113.p zn3
theorem znc:jx Pz 395 ⟨[.ptr],pj,[],SH,0,415,tX,none,λx=>kH x⟩:=Yg t114 rn hN func395 [] zg
def t115:=t114.p znc
def Rw:zy:=Lz [] [.s 1 (.wi 283 []),Mi 2,Mi 7] pj [NU] λp s=>yr (λz0=>jz z0) p.2.1 p.2.2 s
def zhK:Hints:=Hz [(0,Rw)] [(0,2,.ways [z6r])] []
theorem za2:LO Tryz.f397 Rw 0:=lk t115 rn zhK [] zg
theorem zne:xw Pz 397 ⟨[.ptr,.wi 283,.any],⟨[.s 1 (.wi 283 []),Mi 2,.v (.qj xm)],[(0,.ptr 0 0)],Ug⟩,[],z5V,1,λx=>uK (λz0=>jz z0) x.2.1 x.2.2⟩:=eZ t115 rn zhK func397 [0] (qc rfl za2 zg)
def t116:=t115.s zne
theorem zm9:zw Tryz.prog 295 ⟨[.ty .str,.ty .str],[.str,.bool],λx=>strings_CutPrefix x.1 x.2⟩:=by
 refine jM Tryz.func295 (by kernel_rfl) rfl λO x xa y hy hI ha => ?_
 obtain⟨s,p⟩:=x
 cases hy
 obtain⟨v0,r,rfl,Yy,ha⟩:=wP.cons_inv (show wP O [.qj .str s,.qj .str p] xa from ha)
 obtain⟨v1,r,rfl,Mp,ha⟩:=ha.cons_inv
 rw[ha.wg,Yy.jq,Mp.jq]
 refine(Go.Proofs.Tryz.strings_CutPrefix ⟨s.toArray⟩ ⟨p.toArray⟩ O.w).mono ?_
 rintro e w' ⟨rfl,rfl⟩
 refine⟨ZS _,λ_=>⟨_,rfl,?_⟩⟩
 exact RD.zaU RD.str RD.bool
def t117:=t116.d zm9
def Rp:zy:=Lz [] [Mm 1 (.int .u8)] X7 [Yb] λp s=>bz p s
def zhD:Hints:=Hz [(0,Rp)] [(0,1,.flat [Mb 16])] []
theorem z9V:LO Tryz.f355 Rp 0:=lk t117 rn zhD [] zg
theorem zmV:zw Pz 355 ⟨[.ty .str,.ty (.int .u8)],[.str],λx=>strings_trimRightByte x.1 x.2⟩:=we t117 rn zhD func355 [0] (qc rfl z9V zg)
def t118:=t117.d zmV
def Ro:zy:=Lz [] [Mm 1 (.int .u8)] X7 [Yb] λp s=>bZ p s
def zhC:Hints:=Hz [(0,Ro)] [(0,1,.flat [Mb 13])] []
theorem z9U:LO Tryz.f354 Ro 0:=lk t118 rn zhC [] zg
theorem zmU:zw Pz 354 ⟨[.ty .str,.ty (.int .u8)],[.str],λx=>strings_trimLeftByte x.1 x.2⟩:=we t118 rn zhC func354 [0] (qc rfl z9U zg)
def t119:=t118.d zmU
theorem zmE:zw Tryz.prog 336 ⟨[.ty .str],[(nC .bool 256),.bool],λx=>strings_makeASCIISet x⟩:=by
 refine jM Tryz.func336 (by kernel_rfl) rfl λO s xa y hy hI ha => ?_
 obtain⟨⟨h0,h1⟩,hy⟩:=hy
 cases hy
 obtain⟨v0,r,rfl,Yy,ha⟩:=wP.cons_inv (show wP O [.qj .str s] xa from ha)
 rw[ha.wg,Yy.jq]
 refine(Go.Proofs.Tryz.strings_makeASCIISet (λ_=>by kernel_rfl) ⟨s.toArray⟩ O.w (by rw[show(zF ⟨s.toArray⟩)=zH s from Y]; exact h0) (by simpa using h1)).mono ?_
 rintro e w' ⟨rfl,rfl⟩
 refine⟨Ku _ _,λ_=>⟨_,rfl,?_⟩⟩
 exact RD.zaU (z13 s) RD.bool
def t120:=t119.d zmE
theorem zmF:zw Pz 337 ⟨[.rp (nC .bool 256),.ty (.int .u8)],[.bool],λx=>vk x.1 x.2⟩:=we t120 rn hN func337 [] zg
def t121:=t120.d zmF
def Rr:zy:=Lz [] [Mr 1 (nC .bool 256)] X7 [Yb] λp s=>uH p s
def zhF:Hints:=Hz [(0,Rr)] [] []
theorem z9X:LO Tryz.f357 Rr 0:=lk t121 rn zhF [] zg
theorem zmX:zw Pz 357 ⟨[.ty .str,.rp (nC .bool 256)],[.str],λx=>jH x.1 x.2⟩:=we t121 rn zhF func357 [0] (qc rfl z9X zg)
def t122:=t121.d zmX
def Rq:zy:=Lz [] [Mr 1 (nC .bool 256)] X7 [Yb] λp s=>j3 p s
def zhE:Hints:=Hz [(0,Rq)] [] []
theorem z9W:LO Tryz.f356 Rq 0:=lk t122 rn zhE [] zg
theorem zmW:zw Pz 356 ⟨[.ty .str,.rp (nC .bool 256)],[.str],λx=>jU x.1 x.2⟩:=we t122 rn zhE func356 [0] (qc rfl z9W zg)
def t123:=t122.d zmW
def zpd:Hints:=Hz [] [(0,1,.flat [Mb 12]),(0,3,.flat [Mb 21])] []
theorem zmu:zw Pz 319 ⟨[.ty .str,.ty .str],[.str],λx=>cH x.1 x.2⟩:=we t123 rn zpd func319 [] zg
def t124:=t123.d zmu
def R7:zy:=Lz [] [Mm 0 (.sl u32),Mm 1 (.sl u32),Mm 24 (.sl u32),Mi 25] ⟨[Mm 6 (.int .u64),Mi 26,.a u32],[(5,.cur 0 u32)],ba⟩ [⟨.exit 0,⟨[Mm 6 (.int .u64),.a u32],[(5,.cur 0 u32)],ba⟩⟩] λp s=>VN p.1 p.2.1 p.2.2.1 p.2.2.2 s
def zhz:Hints:=Hz [(0,R7)] [(3,2,.flat [Mm 0 (.sl u32),Mm 1 (.sl u32)]),(3,10,.flat [Mm 6 (.int .u64)])] [(16,[5])]
theorem z9I:LO Tryz.f341 R7 0:=lk t124 rn zhz [] zg
theorem zmI:zw Pz 341 ⟨[.ty (.sl u32),.ty (.sl u32)],[(.sl u32)],λx=>J3 x.1 x.2⟩:=we t124 rn zhz func341 [0] (qc rfl z9I zg)
def t125:=t124.d zmI
def PU:zy:=Lz [] [Ms 0,Mi 19] ⟨[Mm 4 (.sl u32),Mi 20],[],[]⟩ [⟨.exit 0,⟨[Mm 4 (.sl u32)],[],[]⟩⟩] λp s=>Qk p.1 p.2 s
def zhr:Hints:=Hz [(0,PU)] [(0,1,.ways [⟨.normal,⟨[Mb 17],[],[]⟩⟩])] []
theorem z9v:LO Tryz.f296 PU 0:=lk t125 rn zhr [] zg
theorem zma:zw Pz 296 ⟨[.ty .str],[(.sl u32),.bool],λx=>mL x⟩:=we t125 rn zhr func296 [0] (qc rfl z9v zg)
def t126:=t125.d zma
def zp4:Hints:=Hz [] [(0,9,.flat [Mb 58]),(3,13,.flat [Ms 14]),(0,17,.flat [Mb 94])] []
theorem zlx:zw Pz 247 ⟨[.ty .str],[zm,i64],λx=>rb x⟩:=we t126 rn zp4 func247 [] zg
def t127:=t126.d zlx
def zpn:Hints:=Hz [] [(0,2,.flat [Mb 35]),(3,2,.ways [⟨.normal,⟨[Ms 3,.v (.qj xm),.v (.qj .expr)],[],Sx⟩⟩,⟨.bC (.iface 415 .vb),⟨[Mm 0 uy,.v (.qj xm),.v (.qj .expr)],[],Sx⟩⟩])] []
theorem znd:jx Pz 396 ⟨[.ptr],pj,[],X6,1,415,tX,none,λx=>kG x⟩:=Yg t127 rn zpn func396 [] zg
def t128:=t127.p znd
def Ce:zy:=Lz [] [.s 1 (.wi 234 []),Mi 2,Mi 7] pj [NU] λp s=>yr (λz0=>yq z0) p.2.1 p.2.2 s
def z1Z:Hints:=Hz [(0,Ce)] [(0,2,.ways [z6r])] []
theorem TZ:LO Tryz.f397 Ce 0:=lk t128 rn z1Z [] zg
theorem RZ:xw Pz 397 ⟨[.ptr,.wi 234,.any],⟨[.s 1 (.wi 234 []),Mi 2,.v (.qj xm)],[(0,.ptr 0 0)],Ug⟩,[],z5V,1,λx=>uK (λz0=>yq z0) x.2.1 x.2.2⟩:=eZ t128 rn z1Z func397 [0] (qc rfl TZ zg)
def t129:=t128.s RZ
abbrev zcP:=ug.den pj->T (ug.den X6⊕ug.den tX)
abbrev zoy(F:zcP):=jx Pz 390 ⟨[.ptr],pj,[],X6,1,415,tX,none,F⟩
abbrev V1:=ug.den pj->T (ug.den X6⊕ug.den tX)
abbrev HT(F:V1):=jx Pz 369 ⟨[.ptr],pj,[],X6,1,415,tX,none,F⟩
def zpm(Kr:zcP)(vF:V1):Hints:=Hz [] [(3,10,.ways [⟨.normal,z6l⟩,⟨.bC (.iface 415 .vb),z6h⟩]),(0,14,.ways [⟨.normal,⟨[Mb 46,.v (.qj xm),.v (.qj .expr)],[],Sx⟩⟩]),(0,16,.ways [⟨.normal,⟨[Mb 71,.v (.qj xm),.v (.qj .expr)],[],Sx⟩⟩])] []
theorem zar(Kr:zcP)(z2f:zoy Kr)(vF:V1)(dP:HT vF):jx Pz 390 ⟨[.ptr],pj,[],X6,1,415,tX,none,λx=>uB (λy0=>Kr (y0)) (λy0=>vF (y0)) x⟩:=Yg (((t129.s RZ).p dP).p z2f) rn (zpm Kr vF) func390 [] zg
theorem zna(vF:V1)(dP:HT vF):jx Pz 390 ⟨[.ptr],pj,[],X6,1,415,tX,none,λx=>vG (λy0=>vF (y0)) x⟩:=Ok (λKr x=>uB (λy0=>Kr (y0)) (λy0=>vF (y0)) x) (λx=>rfl) (λKr z2f=>zar Kr z2f vF dP)
def zgp(vF:V1)(dP:HT vF):Tb:=t129.p (zna _ dP)
def Rt(vF:V1):zy:=Lz [] [Ms 2,Mr 7 uy] ⟨[.v (.qj xm),.v (.qj .expr),.v (.qj .expr)],[(0,.ptr 0 0),(1,.wi 1000390 [(0,0)]),(8,.ptr 1 0),(9,.ptr 2 0)],Su⟩ [⟨.ret,z6l⟩,⟨.bC (.iface 415 .vb),z6h⟩] λp s=>vi (λy0=>vF (y0)) p.1 p.2 s
def zhH(vF:V1):Hints:=Hz [(0,Rt vF)] [] []
theorem z9Z(vF:V1)(dP:HT vF):LO Tryz.f380 (Rt vF) 0:=lk (zgp vF dP) (rz [7]) (zhH vF) [] zg
theorem zn6(vF:V1)(dP:HT vF):jx Pz 380 ⟨[.ptr,.wi 1000390,.any,.any],⟨[.s 1 (.mclo 1000390 [.pt 0]),Ms 2,Mm 3 uy,.v (.qj xm)],[(0,.ptr 0 0)],Ug⟩,[],X6,1,415,tX,none,λx=>wm (λy0=>vF (y0)) x.1 x.2.1 x.2.2.1 x.2.2.2⟩:=Yg (zgp vF dP) (rz [7]) (zhH vF) func380 [0] (qc rfl (z9Z vF dP) zg)
theorem zn7(vF:V1)(dP:HT vF):jx Pz 381 ⟨[.ptr],pj,[],X6,1,415,tX,none,λx=>vv (λy0=>vF (y0)) x⟩:=Yg (t129.p (zn6 _ dP)) rn hN func381 [] zg
def z0Z(vF:V1)(dP:HT vF):Tb:=t129.p (zn7 _ dP)
def Cd(vF:V1):zy:=Lz [] [Ms 2,Mr 7 uy] ⟨[.v (.qj xm),.v (.qj .expr),.v (.qj .expr)],[(0,.ptr 0 0),(1,.wi 1000381 [(0,0)]),(8,.ptr 1 0),(9,.ptr 2 0)],Su⟩ [⟨.ret,z6l⟩,⟨.bC (.iface 415 .vb),z6h⟩] λp s=>wY (λy0=>vF (y0)) p.1 p.2 s
def z1Y(vF:V1):Hints:=Hz [(0,Cd vF)] [] []
theorem TY(vF:V1)(dP:HT vF):LO Tryz.f380 (Cd vF) 0:=lk (z0Z vF dP) (rz [7]) (z1Y vF) [] zg
theorem zaq(vF:V1)(dP:HT vF):jx Pz 380 ⟨[.ptr,.wi 1000381,.any,.any],⟨[.s 1 (.mclo 1000381 [.pt 0]),Ms 2,Mm 3 uy,.v (.qj xm)],[(0,.ptr 0 0)],Ug⟩,[],X6,1,415,tX,none,λx=>wk (λy0=>vF (y0)) x.1 x.2.1 x.2.2.1 x.2.2.2⟩:=Yg (z0Z vF dP) (rz [7]) (z1Y vF) func380 [0] (qc rfl (TY vF dP) zg)
theorem zap(vF:V1)(dP:HT vF):jx Pz 369 ⟨[.ptr],pj,[],X6,1,415,tX,none,λx=>yh (λy0=>vF (y0)) x⟩:=Yg (t129.p (zaq _ dP)) rn hN func369 [] zg
theorem zn2:jx Pz 369 ⟨[.ptr],pj,[],X6,1,415,tX,none,λx=>dt x⟩:=Ok (λvF x=>yh (λy0=>vF (y0)) x) (λx=>rfl) (λvF dP=>zap vF dP)
def t130:=t129.p zn2
theorem zn1:cX (NV Pz) 368 ⟨[.ptr,.ptr,.ptr],⟨[.v (.qj .expr),.v (.qj i64),.v (.qj i64)],[(0,.ptr 0 0),(1,.ptr 1 0),(2,.ptr 2 0)],z5w⟩,[],z5Q,0,λx=>gV x.1 x.2.1 x.2.2⟩:=fkr t130 rn hN Tryz.func368
theorem zao:cX (SN Pz 415) 368 ⟨[.ptr,.ptr,.ptr,.any],⟨[Mm 3 uy,.v (.qj .expr),.v (.qj i64),.v (.qj i64)],[(0,.ptr 0 0),(1,.ptr 1 0),(2,.ptr 2 0)],z5w⟩,[],z5Q,0,λx=>gu x.1 x.2.1 x.2.2.1 x.2.2.2⟩:=fkh t130 rn hN Tryz.func368 3
theorem zmH:xw Pz 339 ⟨[.ptr],pj,[],⟨[Mm 0 .expr,Mi 1,Mi 2,.v (.qj xm)],[],Ug⟩,3,λx=>iU x⟩:=fkf t130 rn hN (g:=368) (pt:=415) zn1 zao Tryz.func339
def t131:=t130.s zmH
def zpa:Hints:=Hz [] [(0,5,.ways [⟨.normal,⟨[Mb 31,.v (.qj .expr),.v (.qj xm),.v (.qj .expr)],[],[.var (.qj .expr),.var (.qj xm),.var (.qj .expr)]⟩⟩])] []
theorem zm7:zw Pz 293 ⟨[.ty .str],[.expr,i64,i64],λx=>sb x⟩:=we t131 rn zpa func293 [] zg
def t132:=t131.d zm7
theorem zm8:zw Tryz.prog 294 ⟨[.ty .str,.ty .str],[.bool],λx=>strings_Contains x.1 x.2⟩:=by
 refine jM Tryz.func294 (by kernel_rfl) rfl λO x xa y hy hI ha => ?_
 obtain⟨s,sub⟩:=x
 obtain⟨h0,hy⟩:=hy
 cases hy
 obtain⟨v0,r,rfl,Yy,ha⟩:=wP.cons_inv (show wP O [.qj .str s,.qj .str sub] xa from ha)
 obtain⟨v1,r,rfl,Mp,ha⟩:=ha.cons_inv
 rw[ha.wg,Yy.jq,Mp.jq]
 obtain⟨m,hm⟩:=ya hI
 refine(Go.Proofs.Tryz.strings_Contains ⟨s.toArray⟩ ⟨sub.toArray⟩ m O.w (by rw[show(zF ⟨s.toArray⟩)=zH s from Y]; exact h0) hm).mono ?_
 rintro e w' ⟨rfl,rfl⟩
 refine⟨ZS _,λ_=>⟨_,rfl,?_⟩⟩
 have e1:Lib.contains s sub=decide ((0:Int)<=V8 s sub):=contains_eq s sub
 show RD _ (.qj .bool (decide ((0:Int)<=V8 s sub))) _
 rw[<- e1]
 exact RD.bool
def t133:=t132.d zm8
def zp2:Hints:=Hz [] [(0,6,.ways [⟨.normal,⟨[Mb 34,.v (.qj .expr),.v (.qj .expr)],[],Lh⟩⟩]),(3,6,.ways [⟨.normal,⟨[Ms 6,Ms 10,.v (.qj .expr),.v (.qj .expr)],[],Lh⟩⟩]),(0,12,.ways [⟨.normal,⟨[Mb 61,.v (.qj .expr),.v (.qj .expr)],[],Lh⟩⟩]),(3,11,.ways [⟨.normal,⟨[Mi 7,.v (.qj .expr),.v (.qj .expr)],[],Lh⟩⟩])] []
theorem zlv:zw Pz 245 ⟨[.ty .str,.ty .str],[.expr,.expr,.str,i64],λx=>dY x.1 x.2⟩:=we t133 rn zp2 func245 [] zg
def t134:=t133.d zlv
def zp5:Hints:=Hz [] [(0,1,.flat [Mb 8])] []
theorem zly:zw Pz 248 ⟨[.ty (.sl .str),.ty i64,.ty i64,.ty .str],[.bool],λx=>nZ x.1 x.2.1 x.2.2.1 x.2.2.2⟩:=we t134 rn zp5 func248 [] zg
def t136:=t134.d zly
def zp3:Hints:=Hz [] [(0,3,.ways [⟨.normal,⟨[Mb 11],[],[]⟩⟩])] []
theorem zlw:zw Pz 246 ⟨[.ty (.sl .str),.ty i64],[.str,.bool],λx=>dZ x.1 x.2⟩:=we t136 rn zp3 func246 [] zg
def t137:=t136.d zlw
def zdh:Hints:=Hz [] [(0,1,.ways [⟨.normal,⟨[Mb 29,.v Uh,.a ql,.a qe,.a xk,.a qq,.a xl,.a xi],[],Bz⟩⟩])] []
theorem RN:xw Pz 181 ⟨QP,zcp,[],z6g,1,λx=>jK x.1 x.2.1 x.2.2.1 x.2.2.2.1 x.2.2.2.2.1 x.2.2.2.2.2.1 x.2.2.2.2.2.2.1 x.2.2.2.2.2.2.2.1 x.2.2.2.2.2.2.2.2⟩:=eZ t137 rn zdh func181 [] zg
def t152:=t137.s RN
def zdi:Hints:=Hz [] [(0,1,.ways [⟨.normal,⟨[Mb 31,.v Uh,.a ql,.a qe,.a xk,.a qq,.a xl,.a xi],[],Bz⟩⟩])] []
theorem RO:xw Pz 182 ⟨QP,zcp,[],z6g,1,λx=>kt x.1 x.2.1 x.2.2.1 x.2.2.2.1 x.2.2.2.2.1 x.2.2.2.2.2.1 x.2.2.2.2.2.2.1 x.2.2.2.2.2.2.2.1 x.2.2.2.2.2.2.2.2⟩:=eZ t152 rn zdi func182 [] zg
def t153:=t152.s RO
def zdj:Hints:=Hz [] [(0,1,.ways [⟨.normal,⟨[Mb 26,.v Uh,.a ql,.a qe,.a xk,.a qq,.a xl,.a xi],[],Bz⟩⟩])] []
theorem RP:xw Pz 183 ⟨ob,SC,[],SF,1,λx=>kl x.1 x.2.1 x.2.2.1 x.2.2.2.1 x.2.2.2.2.1 x.2.2.2.2.2.1 x.2.2.2.2.2.2.1 x.2.2.2.2.2.2.2⟩:=eZ t153 rn zdj func183 [] zg
def t154:=t153.s RP
def zdk:Hints:=Hz [] [(0,1,.ways [zcv])] []
theorem RQ:xw Pz 184 ⟨ob,SC,[],SF,1,λx=>kY x.1 x.2.1 x.2.2.1 x.2.2.2.1 x.2.2.2.2.1 x.2.2.2.2.2.1 x.2.2.2.2.2.2.1 x.2.2.2.2.2.2.2⟩:=eZ t154 rn zdk func184 [] zg
def t155:=t154.s RQ
def zdl:Hints:=Hz [] [(0,1,.ways [zcv])] []
theorem RR:xw Pz 185 ⟨ob,SC,[],SF,1,λx=>ko x.1 x.2.1 x.2.2.1 x.2.2.2.1 x.2.2.2.2.1 x.2.2.2.2.2.1 x.2.2.2.2.2.2.1 x.2.2.2.2.2.2.2⟩:=eZ t155 rn zdl func185 [] zg
def t156:=t155.s RR
def zoU:Hints:=Hz [] [(0,1,.ways [⟨.normal,⟨[Mb 23,.v Uh,.a ql,.a qe,.a xk,.a qq,.a xl,.a xi],[],Bz⟩⟩]),(0,5,.flat [Mb 44]),(3,5,.ways [zct]),(0,8,.ways [⟨.normal,⟨[Mb 68,.v Uh,.a ql,.a qe,.a xk,.a qq,.a xl,.a xi,.v (.qj qq)],[],[.var Uh,.arr ql,.arr qe,.arr xk,.arr qq,.arr xl,.arr xi,.var (.qj qq)]⟩⟩]),(3,8,.ways [zct])] []
theorem zkG:xw Pz 186 ⟨ob,SC,[],SF,1,λx=>kZ x.1 x.2.1 x.2.2.1 x.2.2.2.1 x.2.2.2.2.1 x.2.2.2.2.2.1 x.2.2.2.2.2.2.1 x.2.2.2.2.2.2.2⟩:=eZ t156 rn zoU func186 [] zg
def t157:=t156.s zkG
def zoM:Hints:=Hz [] [(0,3,.flat [Mb 36]),(0,7,.flat [Mb 41]),(0,9,.flat [Mb 53])] []
theorem zjJ:xw Pz 118 ⟨ob,⟨[Ms 1,.v Uh,.a ql,.a qe,.a xk,.a qq,.a xl,.a xi],[(0,.ptr 0 0)],Bz⟩,[],z6g,1,λx=>j7 x.1 x.2.1 x.2.2.1 x.2.2.2.1 x.2.2.2.2.1 x.2.2.2.2.2.1 x.2.2.2.2.2.2.1 x.2.2.2.2.2.2.2⟩:=eZ (((((t157.s RR).s RQ).s RP).s RO).s RN) rn zoM func118 [] zg
def t158:=t157.s zjJ
def z3y:zy:=Lz [.cell 0 5 xi,.cell 1 5 xi,.cell 0 4 xl,.cell 1 4 xl,.cell 0 0 ql,.cell 1 0 ql,.cell 0 1 qe,.cell 1 1 qe,.cell 0 2 xk,.cell 1 2 xk,.cell 0 3 qq,.cell 1 3 qq] [Mm 14 (.sl .str),Mi 15] ⟨[Mi 16,.v z5A,.v Ll,.a xi,.a xi,.a xl,.a xl,.a ql,.a ql,.a qe,.a qe,.a xk,.a xk,.a qq,.a qq],[(2,.ptr 0 0),(5,.ptr 1 0)],zck⟩ [⟨.exit 0,⟨[.v z5A,.v Ll,.a xi,.a xi,.a xl,.a xl,.a ql,.a ql,.a qe,.a qe,.a xk,.a xk,.a qq,.a qq],[],zck⟩⟩,⟨.ret,⟨[Mi 3,Mi 4,.v (.qj qv),.v Ll,.a xi,.a xi,.a xl,.a xl,.a ql,.a ql,.a qe,.a qe,.a xk,.a xk,.a qq,.a qq],[],[.var (.qj qv),.var Ll,.arr xi,.arr xi,.arr xl,.arr xl,.arr ql,.arr ql,.arr qe,.arr qe,.arr xk,.arr xk,.arr qq,.arr qq]⟩⟩] λp s=>bU p.1 p.2 s
def h60:Hints:=Hz [(0,z3y)] [] []
theorem zey:LO Tryz.f60 z3y 0:=lk t158 rn h60 [] zg
theorem zro:zw Pz 60 ⟨[.ty .str],[qv,i64,i64],λx=>il x⟩:=we t158 rn h60 func60 [0] (qc rfl zey zg)
def t159:=t158.d zro
theorem zqN:zw Pz 21 ⟨[.ty qv],[qv],λx=>mE x⟩:=we t159 (rz [1]) hN func21 [] zg
def t160:=t159.d zqN
def h63:Hints:=Hz [] [(3,2,.flat [Mm 3 (.int .u64)])] []
theorem zrr:zw Pz 63 ⟨[.ty i64],[zm],λx=>gw x⟩:=we t160 rn h63 func63 [] zg
def t161:=t160.d zrr
def zoR:Hints:=Hz [] [(0,2,.flat [Mb 4])] []
theorem zk9:zw Pz 144 ⟨[.ty qv,.ty xn],[.bool],λx=>Xu x.1 x.2⟩:=we t161 (rz [2,3]) zoR func144 [] zg
def t162:=t161.d zk9
theorem zkT:zw Pz 203 ⟨[.ty zm],[.bool],λx=>cA x⟩:=we t162 (rz [1]) hN func203 [] zg
def t163:=t162.d zkT
def Pc:zy:=Lz [] [Mm 0 (.sl zm),.s 1 (.wi 203 []),Mi 7] cO [jW,oe] λp s=>gp p.1 (λz0=>cA z0) p.2.2 s
def zh4:Hints:=Hz [(0,Pc)] [] []
theorem z8X:LO Tryz.f197 Pc 0:=lk t163 rn zh4 [] zg
theorem zkN:zw Pz 197 ⟨[.ty (.sl zm),.wi 203 []],[i64],λx=>y6 x.1 (λz0=>cA z0)⟩:=we t163 rn zh4 func197 [0] (qc rfl z8X zg)
def t164:=t163.d zkN
theorem zjY:zw Pz 134 ⟨[.ty (.sl zm),.wi 203 []],[.bool],λx=>vz x.1 (λz0=>cA z0)⟩:=we t164 rn hN func134 [] zg
def t165:=t164.d zjY
def Pt:zy:=Lz [.slot 3 .str] [Mm 7 (.sl qq),Mi 8] ⟨[Mi 9,.a .str],[(3,.cur 0 .str)],od⟩ [⟨.exit 0,HJ⟩] λp s=>sa p.1 p.2 s
def zhe:Hints:=Hz [(0,Pt)] [] []
theorem z9d:LO Tryz.f229 Pt 0:=lk t165 (rz [1]) zhe [] zg
theorem zlj:zw Pz 229 ⟨[.ty qv],[(.sl .str)],λx=>tA x⟩:=we t165 (rz [1]) zhe func229 [0] (qc rfl z9d zg)
def t166:=t165.d zlj
def h67:Hints:=Hz [] [(0,1,.Bh)] []
theorem zru:zw Pz 67 ⟨[.ty (.sl zm)],[(.sl zm)],λx=>bH x⟩:=we t166 rn h67 func67 [] zg
def t167:=t166.d zru
def P3:zy:=Lz [.cell 0 0 .str,.cell 0 1 .str,.cell 1 1 .str] [Mm 14 (.sl qe),Mi 15] ⟨[Mi 16,.v z5E,.v z5D,.a .str,.a .str,.a .str],[(4,.ptr 0 0),(5,.ptr 1 0)],z5r⟩ [⟨.exit 0,⟨[.v z5E,.v z5D,.a .str,.a .str,.a .str],[],z5r⟩⟩] λp s=>Xy p.1 p.2 s
def zgY:Hints:=Hz [(0,P3)] [] []
theorem z8P:LO Tryz.f153 P3 0:=lk t167 (rz [2]) zgY [] zg
theorem zkh:zw Pz 153 ⟨[.ty qv,.ty (.sl zm)],[wM],λx=>s7 x.1 x.2⟩:=we t167 (rz [2]) zgY func153 [0] (qc rfl z8P zg)
def t168:=t167.d zkh
theorem zlF:zw Pz 260 ⟨[.ty ql,.rp .str],[.bool],λx=>eA x.1 x.2⟩:=we t168 (rz [2]) hN func260 [] zg
def t169:=t168.d zlF
def Ic:zy:=Lz [] [Mm 0 (.sl ql),.s 1 (.wi 260 [.rp .str]),Mi 7] cO [jW,oe] λp s=>v8 p.1 (λz0=>eA z0 p.2.1) p.2.2 s
def zbn:Hints:=Hz [(0,Ic)] [] []
theorem z2W:LO Tryz.f89 Ic 0:=lk t169 rn zbn [] zg
theorem z4r:zw Pz 89 ⟨[.ty (.sl ql),.wi 260 [.rp .str]],[i64],λx=>wb x.1 (λz0=>eA z0 x.2)⟩:=we t169 rn zbn func89 [0] (qc rfl z2W zg)
def t170:=t169.d z4r
def zoY:Hints:=Hz [] [(0,2,.flat [Mb 6])] []
theorem zkU:zw Pz 204 ⟨[.ty qv,.ty (.sl .bool),.ty .str],[.bool],λx=>Wt x.1 x.2.1 x.2.2⟩:=we (t170.d z4r) (rz [3,5]) zoY func204 [] zg
def t171:=t170.d zkU
def zpc:Hints:=Hz [] [(0,1,.flat [Mb 12])] []
theorem zmk:zw Pz 309 ⟨[.ty (.sl zm),.ty i64],[zm],λx=>ml x.1 x.2⟩:=we t171 rn zpc func309 [] zg
def t172:=t171.d zmk
theorem zmP:zw Pz 349 ⟨[.ty .str,.ty wM],[zq,i64],λx=>Wm x.1 x.2⟩:=we t172 (rz [3]) hN func349 [] zg
def t173:=t172.d zmP
theorem zmj:zw Pz 308 ⟨[.ty zm,.ty zm],[zm],λx=>pP x.1 x.2⟩:=we t173 rn hN func308 [] zg
def t174:=t173.d zmj
theorem zkP:zw Pz 199 ⟨[.ty zm],[.bool],λx=>ly x⟩:=we t174 (rz [1]) hN func199 [] zg
def t175:=t174.d zkP
def PD:zy:=Lz [.cell 0 1 qk,.cell 1 1 qk] [Mr 3 zm,Mm 17 (.sl qk),Mi 18] ⟨[Mi 19,.v CS,.v CT,.a qk,.a qk],[(4,.ptr 0 0),(5,.ptr 1 0)],z5y⟩ [z6s] λp s=>ZO p.1 p.2.1 p.2.2 s
def zhl:Hints:=Hz [(0,PD)] [] []
theorem z9k:LO Tryz.f263 PD 0:=lk t175 (rz [2,3]) zhl [] zg
theorem zlI:zw Pz 263 ⟨[.ty zq,.ty zm],[zq],λx=>en x.1 x.2⟩:=we t175 (rz [2,3]) zhl func263 [0] (qc rfl z9k zg)
def t176:=t175.d zlI
def Rb:zy:=Lz [] [Mm 1 (.sl u32),Mm 22 (.sl u32),Mi 23] ⟨[Mm 7 u32,Mi 24,.a u32],[(6,.cur 0 u32)],ba⟩ [z6u] λp s=>VU p.1 p.2.1 p.2.2 s
def zhA:Hints:=Hz [(0,Rb)] [(3,10,.flat [Mm 10 u32])] [(14,[6])]
theorem z9L:LO Tryz.f348 Rb 0:=lk t176 rn zhA [] zg
theorem zmO:zw Pz 348 ⟨[.ty (.sl u32),.ty (.sl u32)],[(.sl u32),.bool],λx=>J6 x.1 x.2⟩:=we t176 rn zhA func348 [0] (qc rfl z9L zg)
def t177:=t176.d zmO
theorem zmi:zw Pz 307 ⟨[.ty zm,.ty zm],[zm],λx=>pO x.1 x.2⟩:=we t177 rn hN func307 [] zg
def t178:=t177.d zmi
def PC:zy:=Lz [.cell 0 1 qk,.cell 1 1 qk] [] ⟨[Mm 6 (.sl qk),Mm 7 (.sl qk),.v CS,.v CT,.a qk,.a qk],[(4,.ptr 0 0),(5,.ptr 1 0)],z5y⟩ [z6s] λp s=>Vv  s
def zhk:Hints:=Hz [(0,PC)] [(0,6,.flat [Mb 46]),(0,8,.flat [Mb 78]),(2,6,.ways [⟨.normal,⟨[Mm 6 (.sl qk),Mm 7 (.sl qk),.v CS,.v CT,.a qk,.a qk,.v (.qj qk)],[],[.var CS,.var CT,.arr qk,.arr qk,.var (.qj qk)]⟩⟩])] []
theorem z9j:LO Tryz.f262 PC 0:=lk t178 (rz [2,3]) zhk [] zg
theorem zlH:zw Pz 262 ⟨[.ty zq,.ty zq],[zq],λx=>Wj x.1 x.2⟩:=we t178 (rz [2,3]) zhk func262 [0] (qc rfl z9j zg)
def t179:=t178.d zlH
theorem zmt:zw Pz 318 ⟨[.ty zm,.ty zm],[zm,.bool],λx=>tL x.1 x.2⟩:=we t179 (rz [2]) hN func318 [] zg
def t180:=t179.d zmt
def zpj:Hints:=Hz [] [(0,7,.flat [Mb 34])] []
theorem zmQ:zw Pz 350 ⟨[.ty i64,.ty zq,.ty zq],[zq,i64],λx=>ZP x.1 x.2.1 x.2.2⟩:=we t180 (rz [4,5]) zpj func350 [] zg
def t181:=t180.d zmQ
abbrev zgs:=eJ [.ty .expr,.ty wM]->T (ED [zq,i64])
abbrev zox(F:zgs):=zw Pz 311 ⟨[.ty .expr,.ty wM],[zq,i64],F⟩
theorem zam(BD:zgs)(z2e:zox BD):zw Pz 311 ⟨[.ty .expr,.ty wM],[zq,i64],λx=>eo (λy0 y1=>BD (y0,y1)) x.1 x.2⟩:=we (t181.d z2e) (rz [2,3]) hN func311 [] zg
theorem zmm:zw Pz 311 ⟨[.ty .expr,.ty wM],[zq,i64],λx=>Yq x.1 x.2⟩:=Gl (λBD x=>eo (λy0 y1=>BD (y0,y1)) x.1 x.2) (λx=>rfl) (λBD z2e=>zam BD z2e)
def t182:=t181.d zmm
theorem zlG:zw Pz 261 ⟨[.ty .expr,.ty wM],[zq,i64],λx=>YV x.1 x.2⟩:=we t182 (rz [2,3]) hN func261 [] zg
def t183:=t182.d zlG
theorem zkV:zw Pz 205 ⟨[.ty xl,.ty wM],[zq,i64],λx=>Q4 x.1 x.2⟩:=we t183 (rz [2,3]) hN func205 [] zg
def t184:=t183.d zkV
theorem zlK:zw Pz 265 ⟨[.ty qk],[.bool],λx=>bn x⟩:=we t184 (rz [1]) hN func265 [] zg
def t185:=t184.d zlK
def R2:zy:=Lz [] [Mm 0 (.sl qk),.s 1 (.wi 265 []),Mi 7] cO [jW,oe] λp s=>yy p.1 (λz0=>bn z0) p.2.2 s
def zhx:Hints:=Hz [(0,R2)] [] []
theorem z9D:LO Tryz.f312 R2 0:=lk t185 rn zhx [] zg
theorem zmn:zw Pz 312 ⟨[.ty (.sl qk),.wi 265 []],[i64],λx=>kC x.1 (λz0=>bn z0)⟩:=we t185 rn zhx func312 [0] (qc rfl z9D zg)
def t186:=t185.d zmn
theorem zlJ:zw Pz 264 ⟨[.ty (.sl qk),.wi 265 []],[.bool],λx=>uf x.1 (λz0=>bn z0)⟩:=we t186 rn hN func264 [] zg
def t187:=t186.d zlJ
theorem zkW:zw Pz 206 ⟨[.ty zq],[.bool],λx=>Q3 x⟩:=we t187 (rz [1]) hN func206 [] zg
def t188:=t187.d zkW
def OZ:zy:=Lz [.cell 1 0 zq,.cell 1 1 i64] [Mm 2 (.sl .bool),Mr 3 qv,Mm 52 (.sl xl),Mi 53] ⟨[Mi 54,.v Ez,.v SA,.v (.qj wM),.a zq,.a i64],[(6,.ptr 0 0),(11,.ptr 1 0),(12,.ptr 2 0)],Ss⟩ [⟨.exit 0,z5J⟩,zcu] λp s=>iP p.1 p.2.1 p.2.2.1 p.2.2.2 s
def P0:zy:=Lz [] [Mr 3 qv,Mi 92] ⟨[Mi 93,.v Ez,.v SA,.v (.qj wM),.a zq,.a i64],[(6,.ptr 0 0),(11,.ptr 1 0),(91,.cur 3 zq)],Ss⟩ [⟨.exit 2,z5J⟩,zcu] λp s=>iQ p.1 p.2 s
def zdf:Hints:=Hz [(0,OZ),(2,P0)] [(0,4,.ways [⟨.normal,⟨[Mb 46,.v Ez],[],[.var Ez]⟩⟩])] []
theorem z8L:LO Tryz.f145 OZ 0:=lk t188 (rz [3]) zdf [] zg
theorem z8M:LO Tryz.f145 P0 2:=lk t188 (rz [3]) zdf [] zg
theorem zka:xw Pz 145 ⟨[.any,.any,.any],⟨[Mm 0 qv,Mm 1 (.sl zm),Mm 2 (.sl .bool)],[],[]⟩,[],⟨[.s 0 (.st [.row 0 zq,.row 1 i64]),Ms 1,Mi 2,.a zq,.a i64],[],[.arr zq,.arr i64]⟩,3,λx=>nH x.1 x.2.1 x.2.2⟩:=eZ t188 (rz [3]) zdf func145 [0,2] (qc rfl z8L (qc rfl z8M zg))
def t189:=t188.s zka
def zp6:Hints:=Hz [] [(0,1,.ways [⟨.normal,z5O⟩])] []
theorem zlL:zw Pz 266 ⟨[.ty .bool,.ty zm],[zm],λx=>U2 x.1 x.2⟩:=we t189 rn zp6 func266 [] zg
def t190:=t189.d zlL
theorem zkX:zw Pz 207 ⟨[.ty zm],[zm],λx=>Qt x⟩:=we t190 rn hN func207 [] zg
def t191:=t190.d zkX
theorem zkb:zw Pz 146 ⟨[.ty i64,.ty zm],[zq],λx=>Dg x.1 x.2⟩:=we t191 (rz [3]) hN func146 [] zg
def t192:=t191.d zkb
theorem zrH:xw Pz 83 ⟨[.ptr,.any,.any,.any],⟨[Mi 1,Mm 2 zm,Mi 3,.v Yp,.a zq,.a i64,.a i64],[(0,.ptr 0 0)],JE⟩,[],z6m,0,λx=>kV x.1 x.2.1 x.2.2.1 x.2.2.2.1 x.2.2.2.2.1 x.2.2.2.2.2.1 x.2.2.2.2.2.2⟩:=eZ t192 (rz [6]) hN func83 [] zg
def t193:=t192.s zrH
def z3J:zy:=Lz [.cell 3 7 i64] [Mr 3 xn,Mi 53] ⟨[Mi 54,.a zq,.a i64,.v EA,.v zb4,.a i64],[(10,.ptr 3 0),(52,.cur 1 i64)],z5v⟩ [⟨.exit 1,z5L⟩] λp s=>rV p.1 p.2 s
def z3K:zy:=Lz [] [Mm 74 (.sl q8),Mi 75] ⟨[Mi 76,.a zq,.a i64,.v EA,.v zb4,.a i64],[(10,.ptr 3 0)],z5v⟩ [⟨.exit 3,z5L⟩] λp s=>rW p.1 p.2 s
def h82:Hints:=Hz [(1,z3J),(3,z3K)] [(0,4,.flat [Mb 30]),(3,19,.flat [Mi 15])] []
theorem zeJ:LO Tryz.f82 z3J 1:=lk t193 (rz [2,3]) h82 [] zg
theorem zeK:LO Tryz.f82 z3K 3:=lk t193 (rz [2,3]) h82 [] zg
theorem zni:jx Pz 82 ⟨[.any,.any],z5X,[],⟨[Mi 2,.v Yp,.a zq,.a i64,.a i64],[(0,.ptr 0 0),(1,.wF)],JE⟩,3,0,⟨[.s 1 (.tight .str),Mi 2],[(0,.bq)],[]⟩,some 3,λx=>dE x.1 x.2⟩:=Yg t193 (rz [2,3]) h82 func82 [1,3] (qc rfl zeJ (qc rfl zeK zg))
def t194:=t193.p zni
def Pf:zy:=Lz [] [Mi 1,Mm 23 (.sl qk),Mi 24] ⟨[Mi 5,Mi 25],[],[]⟩ [jW,JH] λp s=>r8 p.1 p.2.1 p.2.2 s
def zh7:Hints:=Hz [(0,Pf)] [(0,1,.ways [⟨.normal,⟨[Mb 21],[],[]⟩⟩]),(0,7,.ways [⟨.normal,⟨[Mb 51,.v (.qj qk)],[],[.var (.qj qk)]⟩⟩])] []
theorem z90:LO Tryz.f210 Pf 0:=lk t194 (rz [2]) zh7 [] zg
theorem zl0:zw Pz 210 ⟨[.ty zq,.ty i64],[.bool],λx=>dB x.1 x.2⟩:=we t194 (rz [2]) zh7 func210 [0] (qc rfl z90 zg)
def t195:=t194.d zl0
theorem zkZ:zw Pz 209 ⟨[.ty zq,.rp i64],[.bool],λx=>gq x.1 x.2⟩:=we t195 (rz [2]) hN func209 [] zg
def t196:=t195.d zkZ
def PE:zy:=Lz [] [Mm 0 (.sl zq),.s 1 (.wi 209 [.rp i64]),Mi 7] cO [jW,oe] λp s=>ea p.1 (λz0=>gq z0 p.2.1) p.2.2 s
def zhm:Hints:=Hz [(0,PE)] [] []
theorem z9l:LO Tryz.f267 PE 0:=lk t196 rn zhm [] zg
theorem zlM:zw Pz 267 ⟨[.ty (.sl zq),.wi 209 [.rp i64]],[i64],λx=>bW x.1 (λz0=>gq z0 x.2)⟩:=we t196 rn zhm func267 [0] (qc rfl z9l zg)
def t197:=t196.d zlM
theorem zkY:zw Pz 208 ⟨[.ty (.sl zq),.wi 209 [.rp i64]],[.bool],λx=>gn x.1 (λz0=>gq z0 x.2)⟩:=we t197 rn hN func208 [] zg
def t198:=t197.d zkY
def Rf:zy:=Lz [] [] z5M [⟨.exit 0,⟨[Mi 1,.a i64],[],jV⟩⟩] λp s=>da  s
def zhB:Hints:=Hz [(0,Rf)] [] []
theorem z9M:LO Tryz.f351 Rf 0:=lk t198 rn zhB [] zg
theorem zmR:xw Pz 351 ⟨[.sub,.any],z5M,[],⟨[Mi 0,.a i64],[],jV⟩,1,λx=>yX x.1 x.2.1 x.2.2⟩:=eZ t198 rn zhB func351 [0] (qc rfl z9M zg)
def t199:=t198.s zmR
theorem zmo:xw Pz 313 ⟨[.sub,.any,.any],⟨[.s 0 (.sub 0 i64),Mi 1,Mi 2,.a i64],[],jV⟩,[],⟨[Mb 0,.a i64],[],jV⟩,1,λx=>bF x.1 x.2.1 x.2.2.1 x.2.2.2⟩:=eZ t199 rn hN func313 [] zg
def t200:=t199.s zmo
def PF:zy:=Lz [] [Mm 0 (.sl zq),Mi 1,Mi 18] ⟨[Mi 19,.a i64],[(6,.cur 0 i64)],jV⟩ [⟨.exit 0,⟨[.a i64],[(6,.cur 0 i64)],jV⟩⟩] λp s=>oF p.1 p.2.1 p.2.2 s
def PJ:zy:=Lz [] [Mi 1,Mi 9,Mm 27 (.sl zq),Mi 28,Mi 29] ⟨[Mi 8,Mi 11,.a i64,.v (.qj zq)],[(6,.cur 0 i64),(10,.ptr 1 0)],NK⟩ [⟨.exit 4,⟨[Mi 8,.a i64,.v (.qj zq)],[(6,.cur 0 i64)],NK⟩⟩] λp s=>fq p.1 p.2.1 p.2.2.1 p.2.2.2.1 p.2.2.2.2 s
def PH:zy:=Lz [] [Mi 1,Mm 27 (.sl zq),Mi 28] ⟨[Mi 8,Mi 29,.a i64],[(6,.cur 0 i64)],jV⟩ [⟨.exit 2,⟨[Mi 8,.a i64],[(6,.cur 0 i64)],jV⟩⟩] λp s=>oG p.1 p.2.1 p.2.2 s
def z7J:Hints:=Hz [(0,PF),(4,PJ),(2,PH)] [(0,16,.ways [⟨.normal,⟨[Mb 62,.a i64,.v (.qj zq)],[(6,.cur 0 i64)],NK⟩⟩])] []
theorem z9m:LO Tryz.f268 PF 0:=lk t200 rn z7J [] zg
theorem z9o:LO Tryz.f268 PJ 4:=lk t200 rn z7J [] zg
theorem z9n:LO Tryz.f268 PH 2:=lk t200 rn z7J [4] (qc rfl z9o zg)
theorem zlN:zw Pz 268 ⟨[.ty (.sl zq),.ty i64],[(.sl i64),i64],λx=>Qb x.1 x.2⟩:=we t200 rn z7J func268 [0,2] (qc rfl z9m (qc rfl z9n zg))
def t201:=t200.d zlN
theorem zl1:zw Pz 211 ⟨[.ty (.sl zq),.ty i64],[i64],λx=>nM x.1 x.2⟩:=we t201 rn hN func211 [] zg
def t202:=t201.d zl1
def h69:Hints:=Hz [] [(0,1,.Bh)] []
theorem zas:xw Pz 69 ⟨[.any],⟨[Mm 0 (.sl i64)],[],[]⟩,[],NP,1,λx=>ub x⟩:=eZ t202 rn h69 func69 [] zg
def t203:=t202.s zas
theorem zmN:zw Pz 347 ⟨[.ty (.int .u64),.ty (.int .u64)],[(.int .u64),(.int .u64)],λx=>oJ x.1 x.2⟩:=we t203 rn hN func347 [] zg
def t204:=t203.d zmN
theorem zmg:zw Pz 305 ⟨[.ty (.int .u64),.ty (.int .u64)],[(.int .u64),(.int .u64)],λx=>nt x.1 x.2⟩:=we t204 rn hN func305 [] zg
def t205:=t204.d zmg
def Px:zy:=Lz [] [] ⟨[Mi 8,.a i64],[(7,.cur 0 i64)],jV⟩ [⟨.exit 0,⟨[.a i64],[(7,.cur 0 i64)],jV⟩⟩] λp s=>gH  s
def zhh:Hints:=Hz [(0,Px)] [(0,4,.flat [Mb 26])] []
theorem z9g:LO Tryz.f255 Px 0:=lk t205 rn zhh [] zg
theorem zlA:xw Pz 255 ⟨[.any,.any],⟨[Mm 0 (.sl i64),Mi 1],[],[]⟩,[],NP,1,λx=>yC x.1 x.2⟩:=eZ t205 rn zhh func255 [0] (qc rfl z9g zg)
def t206:=t205.s zlA
theorem zmh:zw Pz 306 ⟨[.ty qk,.rp i64],[.bool],λx=>cy x.1 x.2⟩:=we t206 (rz [2]) hN func306 [] zg
def t207:=t206.d zmh
def Cb:zy:=Lz [] [Mm 0 (.sl qk),.s 1 (.wi 306 [.rp i64]),Mi 7] cO [jW,oe] λp s=>yy p.1 (λz0=>cy z0 p.2.1) p.2.2 s
def z1W:Hints:=Hz [(0,Cb)] [] []
theorem TV:LO Tryz.f312 Cb 0:=lk t207 rn z1W [] zg
theorem RX:zw Pz 312 ⟨[.ty (.sl qk),.wi 306 [.rp i64]],[i64],λx=>kC x.1 (λz0=>cy z0 x.2)⟩:=we t207 rn z1W func312 [0] (qc rfl TV zg)
def t208:=t207.d RX
theorem RU:zw Pz 264 ⟨[.ty (.sl qk),.wi 306 [.rp i64]],[.bool],λx=>uf x.1 (λz0=>cy z0 x.2)⟩:=we (t208.d RX) rn hN func264 [] zg
def t209:=t208.d RU
theorem zlB:zw Pz 256 ⟨[.ty zq,.ty i64],[.bool],λx=>Wp x.1 x.2⟩:=we (t209.d RU) (rz [2,3]) hN func256 [] zg
def t210:=t209.d zlB
theorem zlC:zw Pz 257 ⟨[.ty (.sl zq),.ty i64],[.bool],λx=>pH x.1 x.2⟩:=we t210 rn hN func257 [] zg
def t211:=t210.d zlC
def Pe:zy:=Lz [] [Mm 0 (.sl zq),Mm 1 (.sl i64),Mi 2,Mm 38 (.sl zq),Mi 39] ⟨[Mi 40,.a i64,.a i64,.v CV],[(8,.ptr 2 0)],NJ⟩ [⟨.exit 0,⟨[.a i64,.a i64,.v CV],[],NJ⟩⟩,⟨.ret,⟨[Mb 7,.a i64,.a i64,.v CV],[(6,.bq)],NJ⟩⟩] λp s=>iD p.1 p.2.1 p.2.2.1 p.2.2.2.1 p.2.2.2.2 s
def zh6:Hints:=Hz [(0,Pe)] [(0,1,.flat [Mb 29]),(0,11,.ways [⟨.normal,⟨[Mb 68,.a i64,.a i64,.v CV,.v (.qj zq)],[],[.arr i64,.arr i64,.var CV,.var (.qj zq)]⟩⟩])] []
theorem z8Z:LO Tryz.f200 Pe 0:=lk t211 rn zh6 [] zg
theorem zkQ:jx Pz 200 ⟨[.any,.any,.any],⟨[Mm 0 (.sl zq),Mm 1 (.sl i64),Mi 2],[],[]⟩,[],⟨[Mb 1,.v tf,.a i64,.a i64],[(0,.ptr 0 0)],JD⟩,2,0,⟨[Mb 1],[(0,.bq)],[]⟩,some 2,λx=>bJ x.1 x.2.1 x.2.2⟩:=Yg t211 rn zh6 func200 [0] (qc rfl z8Z zg)
def t212:=t211.p zkQ
def zhO:Hints:=Hz [] [(0,1,.Bh)] []
theorem z4m:zw Pz 69 ⟨[.ty (.sl i64)],[(.sl i64)],λx=>yi x⟩:=we t212 rn zhO func69 [] zg
def t213:=t212.d z4m
theorem zmq:zw Pz 315 ⟨[.ty i64],[.bool],λx=>cmp_isNaN_int x⟩:=we t213 rn hN func315 [] zg
def t214:=t213.d zmq
theorem zlQ:zw Pz 271 ⟨[.ty i64,.ty i64],[i64],λx=>cmp_Compare_int x.1 x.2⟩:=we t214 rn hN func271 [] zg
def t215:=t214.d zlQ
theorem zlP:zw Pz 270 ⟨[.ty i64,.ty i64,.rp (.sl zq)],[i64],λx=>wu x.1 x.2.1 x.2.2⟩:=we t215 rn hN func270 [] zg
def t216:=t215.d zlP
def Rh:zy:=Lz [] [Mi 1,Mi 2,.s 3 (.wi 270 [.rp (.sl zq)]),Mi 8] ⟨[.s 0 (.sub 0 i64),Mi 9,.a i64],[],jV⟩ [⟨.exit 2,z6o⟩] λp s=>uP p.1 p.2.1 (λz0 z1=>wu z0 z1 p.2.2.1) p.2.2.2 s
def Rg:zy:=Lz [] [Mi 1,Mi 2,.s 3 (.wi 270 [.rp (.sl zq)])] ⟨[.s 0 (.sub 0 i64),Mi 8,.a i64],[],jV⟩ [⟨.exit 0,tY⟩] λp s=>uO p.1 p.2.1 (λz0 z1=>wu z0 z1 p.2.2) s
def zdr:Hints:=Hz [(2,Rh),(0,Rg)] [(0,4,.ways [⟨.normal,⟨[.s 0 (.sub 0 i64),Mb 34,.a i64],[],jV⟩⟩])] []
theorem z9O:LO Tryz.f352 Rh 2:=lk t216 rn zdr [] zg
theorem z9N:LO Tryz.f352 Rg 0:=lk t216 rn zdr [2] (qc rfl z9O zg)
theorem zmS:xw Pz 352 ⟨[.sub,.any,.any,.wi 270],⟨[.s 0 (.sub 0 i64),Mi 1,Mi 2,.s 3 (.wi 270 [.rp (.sl zq)]),.a i64],[],jV⟩,[],tY,0,λx=>vd x.1 x.2.1 x.2.2.1 (λz0 z1=>wu z0 z1 x.2.2.2.1) x.2.2.2.2⟩:=eZ t216 rn zdr func352 [0] (qc rfl z9N zg)
def t217:=t216.s zmS
def Ru:zy:=Lz [] [Mi 1,Mi 2,Mi 3] z6k [⟨.exit 0,tY⟩] λp s=>jG p.1 p.2.1 p.2.2 s
def zhI:Hints:=Hz [(0,Ru)] [] []
theorem za0:LO Tryz.f382 Ru 0:=lk t217 rn zhI [] zg
theorem zn8:xw Pz 382 ⟨[.sub,.any,.any,.any,.wi 270],CW,[],tY,0,λx=>va x.1 x.2.1 x.2.2.1 x.2.2.2.1 (λz0 z1=>wu z0 z1 x.2.2.2.2.1) x.2.2.2.2.2⟩:=eZ t217 rn zhI func382 [0] (qc rfl za0 zg)
def t218:=t217.s zn8
def Rs:zy:=Lz [] [Mi 2,.s 4 (.wi 270 [.rp (.sl zq)])] zcr [⟨.exit 0,z6k⟩] λp s=>kL p.1 (λz0 z1=>wu z0 z1 p.2) s
def zhG:Hints:=Hz [(0,Rs)] [] []
theorem z9Y:LO Tryz.f371 Rs 0:=lk t218 rn zhG [] zg
theorem zn4:xw Pz 371 ⟨[.sub,.any,.any,.any,.wi 270],CW,[],tY,0,λx=>jE x.1 x.2.1 x.2.2.1 x.2.2.2.1 (λz0 z1=>wu z0 z1 x.2.2.2.2.1) x.2.2.2.2.2⟩:=eZ t218 rn zhG func371 [0] (qc rfl z9Y zg)
def t219:=t218.s zn4
abbrev Um:=ug.den CW->T (ug.den tY)
abbrev Lx(F:Um):=xw Pz 353 ⟨[.sub,.any,.any,.any,.wi 270],CW,[],tY,0,F⟩
def SR(vu:Um)(fU:Lx vu):Tb:=t219.s fU
def Ri(vu:Um):zy:=Lz [] [Mi 1,.s 4 (.wi 270 [.rp (.sl zq)])] zcr [⟨.exit 0,z6k⟩] λp s=>uq (λy0 y1 y2 y3 y4 y5=>vu (y0,y1,y2,y3,y4,y5)) p.1 p.2 s
def Rj(vu:Um):zy:=Lz [] [Mi 10] ⟨[.s 0 (.sub 0 i64),Mi 13,.a i64],[],jV⟩ [⟨.exit 2,tY⟩] λp s=>ur (λy0 y1 y2 y3 y4 y5=>vu (y0,y1,y2,y3,y4,y5)) p s
def Rl(vu:Um):zy:=Lz [] [Mi 2,.s 4 (.wi 270 [.rp (.sl zq)])] ⟨[.s 0 (.sub 0 i64),Mi 14,Mi 15,.a i64],[],jV⟩ [⟨.exit 4,⟨[.s 0 (.sub 0 i64),Mi 14,.a i64],[],jV⟩⟩] λp s=>uu (λy0 y1 y2 y3 y4 y5=>vu (y0,y1,y2,y3,y4,y5)) p.1 p.2 s
def Rm(vu:Um):zy:=Lz [] [Mi 14] ⟨[.s 0 (.sub 0 i64),Mi 17,.a i64],[],jV⟩ [⟨.exit 6,tY⟩] λp s=>uv (λy0 y1 y2 y3 y4 y5=>vu (y0,y1,y2,y3,y4,y5)) p s
def Rn(vu:Um):zy:=Lz [] [Mi 1,Mi 2,Mi 3,.s 4 (.wi 270 [.rp (.sl zq)]),Mi 18,Mi 19,Mi 22] ⟨[.s 0 (.sub 0 i64),Mi 20,Mi 21,.a i64],[],jV⟩ [⟨.exit 8,⟨[.s 0 (.sub 0 i64),Mi 20,.a i64],[],jV⟩⟩] λp s=>uw (λy0 y1 y2 y3 y4 y5=>vu (y0,y1,y2,y3,y4,y5)) p.1 p.2.1 p.2.2.1 p.2.2.2.1 p.2.2.2.2.1 p.2.2.2.2.2.1 p.2.2.2.2.2.2 s
def Tm(vu:Um):Hints:=Hz [(0,Ri vu),(2,Rj vu),(4,Rl vu),(6,Rm vu),(8,Rn vu)] [(3,27,.flat [Mi 20,Mi 21]),(0,39,.flat [Mb 185]),(3,39,.ways [⟨.normal,z6o⟩]),(0,41,.flat [Mb 199]),(3,41,.ways [⟨.normal,z6o⟩]),(0,43,.flat [Mb 213])] []
theorem z9P(vu:Um)(fU:Lx vu):LO Tryz.f353 (Ri vu) 0:=lk (SR vu fU) rn (Tm vu) [] zg
theorem z9Q(vu:Um)(fU:Lx vu):LO Tryz.f353 (Rj vu) 2:=lk (SR vu fU) rn (Tm vu) [] zg
theorem z9R(vu:Um)(fU:Lx vu):LO Tryz.f353 (Rl vu) 4:=lk (SR vu fU) rn (Tm vu) [] zg
theorem z9S(vu:Um)(fU:Lx vu):LO Tryz.f353 (Rm vu) 6:=lk (SR vu fU) rn (Tm vu) [] zg
theorem z9T(vu:Um)(fU:Lx vu):LO Tryz.f353 (Rn vu) 8:=lk (SR vu fU) rn (Tm vu) [] zg
theorem zan(vu:Um)(fU:Lx vu):xw Pz 353 ⟨[.sub,.any,.any,.any,.wi 270],CW,[],tY,0,λx=>vA (λy0 y1 y2 y3 y4 y5=>vu (y0,y1,y2,y3,y4,y5)) x.1 x.2.1 x.2.2.1 x.2.2.2.1 x.2.2.2.2.1 x.2.2.2.2.2⟩:=eZ (SR vu fU) rn (Tm vu) func353 [0,2,4,6,8] (qc rfl (z9P vu fU) (qc rfl (z9Q vu fU) (qc rfl (z9R vu fU) (qc rfl (z9S vu fU) (qc rfl (z9T vu fU) zg)))))
theorem zmT:xw Pz 353 ⟨[.sub,.any,.any,.any,.wi 270],CW,[],tY,0,λx=>vW x.1 x.2.1 x.2.2.1 x.2.2.2.1 x.2.2.2.2.1 x.2.2.2.2.2⟩:=Yx (λvu x=>vA (λy0 y1 y2 y3 y4 y5=>vu (y0,y1,y2,y3,y4,y5)) x.1 x.2.1 x.2.2.1 x.2.2.2.1 x.2.2.2.2.1 x.2.2.2.2.2) (λx=>rfl) (λvu fU=>zan vu fU)
def t220:=t219.s zmT
def R3:zy:=Lz [] [Mi 1,.s 2 (.wi 270 [.rp (.sl zq)]),Mi 6] z5F [⟨.exit 0,z5N⟩] λp s=>kP p.1 p.2.1 p.2.2 s
def R5:zy:=Lz [] [Mi 1,.s 2 (.wi 270 [.rp (.sl zq)]),Mi 6] z5F [⟨.exit 4,z5N⟩] λp s=>kR p.1 p.2.1 p.2.2 s
def R4:zy:=Lz [] [Mi 1,.s 2 (.wi 270 [.rp (.sl zq)])] ⟨[.s 0 (.sub 0 i64),Mi 6,.a i64],[],jV⟩ [⟨.exit 2,tY⟩] λp s=>kQ p.1 p.2 s
def z7K:Hints:=Hz [(0,R3),(4,R5),(2,R4)] [] []
theorem z9E:LO Tryz.f314 R3 0:=lk t220 rn z7K [] zg
theorem z9G:LO Tryz.f314 R5 4:=lk t220 rn z7K [] zg
theorem z9F:LO Tryz.f314 R4 2:=lk t220 rn z7K [4] (qc rfl z9G zg)
theorem zmp:xw Pz 314 ⟨[.sub,.any,.wi 270],⟨[.s 0 (.sub 0 i64),Mi 1,.s 2 (.wi 270 [.rp (.sl zq)]),.a i64],[],jV⟩,[],tY,0,λx=>jF x.1 x.2.1 x.2.2.1 x.2.2.2⟩:=eZ t220 rn z7K func314 [0,2] (qc rfl z9E (qc rfl z9F zg))
def t221:=t220.s zmp
theorem zlO:xw Pz 269 ⟨[.sub,.wi 270],⟨[.s 0 (.sub 0 i64),.s 1 (.wi 270 [.rp (.sl zq)]),.a i64],[],jV⟩,[],tY,0,λx=>uE x.1 x.2.1 x.2.2⟩:=eZ t221 rn hN func269 [] zg
def t222:=t221.s zlO
def PK:zy:=Lz [] [Mm 0 (.sl i64),Mm 1 (.sl i64),Mi 12] z69 [jW,JH] λp s=>cG p.1 p.2.1 p.2.2 s
def zhn:Hints:=Hz [(0,PK)] [] []
theorem z9p:LO Tryz.f272 PK 0:=lk t222 rn zhn [] zg
theorem zlR:zw Pz 272 ⟨[.ty (.sl i64),.ty (.sl i64)],[.bool],λx=>yj x.1 x.2⟩:=we t222 rn zhn func272 [0] (qc rfl z9p zg)
def t223:=t222.d zlR
abbrev SU:=ug.den Ln->T (ug.den Lo)
abbrev zcC(F:SU):=xw Pz 310 ⟨ob,Ln,[],Lo,1,F⟩
def zgo(fO:SU)(KD:zcC fO):Tb:=t223.s KD
def R1(fO:SU):zy:=Lz [] [Mi 1,Mm 33 (.sl qk),Mi 34] ⟨[Mi 6,Mi 35,.v tf,.a i64,.a i64],[(0,.ptr 0 0)],JD⟩ [⟨.exit 0,⟨[Mi 6,.v tf,.a i64,.a i64],[],JD⟩⟩] λp s=>kv (λy0 y1 y2 y3=>fO (y0,y1,y2,y3)) p.1 p.2.1 p.2.2 s
def zhw(fO:SU):Hints:=Hz [(0,R1 fO)] [] []
theorem z9C(fO:SU)(KD:zcC fO):LO Tryz.f310 (R1 fO) 0:=lk (zgo fO KD) rn (zhw fO) [] zg
theorem zal(fO:SU)(KD:zcC fO):xw Pz 310 ⟨ob,Ln,[],Lo,1,λx=>jf (λy0 y1 y2 y3=>fO (y0,y1,y2,y3)) x.1 x.2.1 x.2.2.1 x.2.2.2⟩:=eZ (zgo fO KD) rn (zhw fO) func310 [0] (qc rfl (z9C fO KD) zg)
theorem zml:xw Pz 310 ⟨ob,Ln,[],Lo,1,λx=>jR x.1 x.2.1 x.2.2.1 x.2.2.2⟩:=Yx (λfO x=>jf (λy0 y1 y2 y3=>fO (y0,y1,y2,y3)) x.1 x.2.1 x.2.2.1 x.2.2.2) (λx=>rfl) (λfO KD=>zal fO KD)
def t224:=t223.s zml
def PA:zy:=Lz [] [Mm 27 (.sl qk),Mi 28] ⟨[Mi 7,Mi 8,Mi 29,.v Lm,.v .mp,.a i64,.a i64],[(0,.ptr 0 0),(2,.yY 1)],Sv⟩ [⟨.exit 0,⟨[Mi 7,.v Lm,.v .mp,.a i64,.a i64],[],Sv⟩⟩] λp s=>gB p.1 p.2 s
def zhj:Hints:=Hz [(0,PA)] [(0,6,.flat [Mb 46])] []
theorem z9i:LO Tryz.f259 PA 0:=lk t224 rn zhj [] zg
theorem zlE:xw Pz 259 ⟨QP,⟨[Mi 1,.v Lm,.v .mp,.a i64,.a i64],[(0,.ptr 0 0),(2,.yY 1)],Sv⟩,[],⟨[Mi 0,.v Lm,.v .mp,.a i64,.a i64],[],Sv⟩,1,λx=>yo x.1 x.2.1 x.2.2.1 x.2.2.2.1 x.2.2.2.2⟩:=eZ t224 rn zhj func259 [0] (qc rfl z9i zg)
def t225:=t224.s zlE
def PN:zy:=Lz [] [Mi 6,Mm 54 (.sl qk),Mi 55] ⟨[Mi 56,.v tf,.a i64,.a i64,.v .mp],[(0,.ptr 0 0),(4,.yY 3)],z5q⟩ [⟨.exit 2,SE⟩] λp s=>yV p.1 p.2.1 p.2.2 s
def PM:zy:=Lz [] [] ⟨[Mi 1,.v tf,.a i64,.a i64,.v .mp],[(0,.ptr 0 0),(4,.yY 3)],z5q⟩ [⟨.exit 0,SE⟩,⟨.ret,SE⟩] λp s=>yU  s
def zdo:Hints:=Hz [(2,PN),(0,PM)] [(3,5,.ways [⟨.normal,SE⟩])] []
theorem z9r:LO Tryz.f273 PN 2:=lk t225 rn zdo [] zg
theorem z9q:LO Tryz.f273 PM 0:=lk t225 rn zdo [2] (qc rfl z9r zg)
theorem zlS:xw Pz 273 ⟨ob,Ln,[],⟨[.v tf,.a i64,.a i64],[],JD⟩,0,λx=>kU x.1 x.2.1 x.2.2.1 x.2.2.2⟩:=eZ t225 rn zdo func273 [0] (qc rfl z9q zg)
def t226:=t225.s zlS
def z7b:Tb:=t226.d z4m
def Pg:zy:=Lz [.slot 10 i64] [Mr 3 (.sl zq),Mi 27] ⟨[Mi 28,.v tf,.a i64,.a i64,.a i64],[(8,.ptr 0 0),(10,.cur 3 i64)],CP⟩ [⟨.exit 0,z5I⟩] λp s=>ow p.1 p.2 s
def Pj:zy:=Lz [] [.s 12 (.tc i64),Mi 57] ⟨[Mi 58,.v tf,.a i64,.a i64,.a i64],[(8,.ptr 0 0),(10,.cur 3 i64),(56,.cur 3 i64)],CP⟩ [⟨.exit 4,z5I⟩] λp s=>oy p.1 p.2 s
def Ph:zy:=Lz [] [] ⟨[.s 12 (.tc i64),.v tf,.a i64,.a i64,.a i64],[(8,.ptr 0 0),(10,.cur 3 i64)],CP⟩ [⟨.exit 2,⟨[.v tf,.a i64,.a i64,.a i64],[],CP⟩⟩] λp s=>ox  s
def z7H:Hints:=Hz [(0,Pg),(4,Pj),(2,Ph)] [(0,12,.ways [⟨.normal,⟨[Mb 49,.v tf,.a i64,.a i64,.a i64],[(10,.cur 3 i64)],CP⟩⟩])] []
theorem z92:LO Tryz.f212 Pg 0:=lk z7b (rz [3,50]) z7H [] zg
theorem z95:LO Tryz.f212 Pj 4:=lk z7b (rz [3,50]) z7H [] zg
theorem z94:LO Tryz.f212 Ph 2:=lk z7b (rz [3,50]) z7H [4] (qc rfl z95 zg)
theorem zl2:zw Pz 212 ⟨[.ty (.sl zq),.ty (.sl i64),.ty i64],[(.sl i64),.bool],λx=>pB x.1 x.2.1 x.2.2⟩:=we z7b (rz [3,50]) z7H func212 [0,2] (qc rfl z92 (qc rfl z94 zg))
def t227:=t226.d zl2
theorem zl3:zw Pz 213 ⟨[.ty zq],[.bool],λx=>QA x⟩:=we t227 (rz [1]) hN func213 [] zg
def t228:=t227.d zl3
theorem zk5:zw Pz 140 ⟨[.ty (.sl zq),.ty (.sl i64),.ty i64],[.bool],λx=>Zg x.1 x.2.1 x.2.2⟩:=we t228 rn hN func140 [] zg
def t229:=t228.d zk5
def P2:zy:=Lz [] [Mm 0 (.sl i64),Mi 1,Mi 7] cO [jW,oe] λp s=>yB p.1 p.2.1 p.2.2 s
def zgX:Hints:=Hz [(0,P2)] [] []
theorem z8O:LO Tryz.f149 P2 0:=lk t229 rn zgX [] zg
theorem zke:zw Pz 149 ⟨[.ty (.sl i64),.ty i64],[i64],λx=>uM x.1 x.2⟩:=we t229 rn zgX func149 [0] (qc rfl z8O zg)
def t230:=t229.d zke
theorem zk3:zw Pz 139 ⟨[.ty (.sl i64),.ty i64],[.bool],λx=>jB x.1 x.2⟩:=we t230 rn hN func139 [] zg
def t231:=t230.d zk3
theorem zms:xw Pz 317 ⟨[.any,.any,.any,.ptr],⟨[Mm 0 qk,Mr 1 (.sl i64),Mr 2 i64,.a i64],[(3,.ptr 0 0)],[.cvar (.cur 1 i64),.arr i64]⟩,[],z6i,1,λx=>dv x.1 x.2.1 x.2.2.1 x.2.2.2⟩:=eZ t231 (rz [4]) hN func317 [] zg
def t232:=t231.s zms
def Cc:zy:=Lz [] [Mm 0 (.sl qk),Mi 7] ⟨[.s 1 (.mclo 317 [.rp (.sl i64),.rp i64,.pt 0]),Mi 8,.a i64],[],[.cvar (.cur 1 i64),.arr i64]⟩ [⟨.exit 0,⟨[.a i64],[],[.cvar (.cur 1 i64),.arr i64]⟩⟩,⟨.ret,⟨[Mi 4,.a i64],[],[.cvar (.cur 1 i64),.arr i64]⟩⟩] λp s=>vt p.1 p.2 s
def z1X:Hints:=Hz [(0,Cc)] [] []
theorem TX:LO Tryz.f312 Cc 0:=lk t232 rn z1X [] zg
theorem RY:xw Pz 312 ⟨[.any,.wi 317],zcn,[],⟨[Mi 0,.a i64],[],[.cvar (.cur 1 i64),.arr i64]⟩,1,λx=>vR x.1 x.2.1 x.2.2⟩:=eZ t232 rn z1X func312 [0] (qc rfl TX zg)
def t233:=t232.s RY
theorem RV:xw Pz 264 ⟨[.any,.wi 317],zcn,[],z6i,1,λx=>wI x.1 x.2.1 x.2.2⟩:=eZ (t233.s RY) rn hN func264 [] zg
def t234:=t233.s RV
theorem zmr:xw Pz 316 ⟨[.any,.ptr,.any,.any],⟨[Mi 0,Mr 2 (.sl zq),Mr 3 (.sl i64),.a i64],[(1,.ptr 0 0)],[.cvar (.cur 1 i64),.arr i64]⟩,[],z6i,1,λx=>lG x.1 x.2.1 x.2.2.1 x.2.2.2⟩:=eZ (t234.s RV) (rz [4]) hN func316 [] zg
def t235:=t234.s zmr
def zgm:Tb:=t235.s zas
def PO:zy:=Lz [.slot 9 i64] [Mr 3 (.sl zq)] ⟨[.s 8 (.mclo 316 [.pt 1,.rp (.sl zq),.rp (.sl i64)]),Mi 10,.a i64,.a i64],[(7,.ptr 1 0),(9,.cur 2 i64)],[.arr i64,.cvar (.cur 0 i64),.arr i64]⟩ [⟨.exit 0,⟨[.a i64,.a i64],[(9,.cur 2 i64)],[.arr i64,.cvar (.cur 0 i64),.arr i64]⟩⟩] λp s=>Qy p s
def zho:Hints:=Hz [(0,PO)] [] []
theorem z9s:LO Tryz.f274 PO 0:=lk zgm (rz [3,4]) zho [] zg
theorem zlT:zw Pz 274 ⟨[.ty (.sl zq),.ty (.sl i64),.ty i64],[(.sl i64)],λx=>WS x.1 x.2.1 x.2.2⟩:=we zgm (rz [3,4]) zho func274 [0] (qc rfl z9s zg)
def t236:=t235.d zlT
def PS:zy:=Lz [] [Mi 1,Mm 18 (.sl qk),Mi 19] ⟨[Mi 20,.a zm,.v (.qj zm),.v (.qj zm),.v (.qj zm)],[(2,.cur 0 zm),(6,.ptr 1 0),(7,.ptr 2 0),(8,.ptr 3 0)],z5p⟩ [⟨.exit 0,⟨[.a zm,.v (.qj zm),.v (.qj zm),.v (.qj zm)],[],z5p⟩⟩] λp s=>lI p.1 p.2.1 p.2.2 s
def zhp:Hints:=Hz [(0,PS)] [] []
theorem z9t:LO Tryz.f275 PS 0:=lk t236 (rz [3]) zhp [] zg
theorem zlU:xw Pz 275 ⟨[.any,.any,.cur],⟨[Mm 0 zq,Mi 1,.a zm],[(2,.cur 0 zm)],Z7⟩,[],⟨[Mm 0 zm,.a zm],[],Z7⟩,1,λx=>tR x.1 x.2.1 x.2.2⟩:=eZ t236 (rz [3]) zhp func275 [0] (qc rfl z9t zg)
def t237:=t236.s zlU
def Pk:zy:=Lz [.slot 9 zm] [Mm 0 (.sl zq),Mm 1 (.sl i64),Mm 2 (.sl zm),Mm 21 (.sl zm),Mi 22] ⟨[Mi 23,.a zm],[(9,.cur 0 zm)],Z7⟩ [⟨.exit 0,z62⟩] λp s=>U8 p.1 p.2.1 p.2.2.1 p.2.2.2.1 p.2.2.2.2 s
def Pl:zy:=Lz [] [Mm 0 (.sl zq),Mm 1 (.sl i64),Mm 37 (.sl i64),Mi 38] ⟨[Mi 39,.a zm],[(9,.cur 0 zm)],Z7⟩ [⟨.exit 2,z62⟩,⟨.ret,⟨[Mi 7,Mi 8,.a zm],[(6,.wF)],Z7⟩⟩] λp s=>Qz p.1 p.2.1 p.2.2.1 p.2.2.2 s
def zdn:Hints:=Hz [(0,Pk),(2,Pl)] [] []
theorem z96:LO Tryz.f214 Pk 0:=lk t237 rn zdn [] zg
theorem z97:LO Tryz.f214 Pl 2:=lk t237 rn zdn [] zg
theorem zl4:zw Pz 214 ⟨[.ty (.sl zq),.ty (.sl i64),.ty (.sl zm)],[(.sl zm),i64,i64],λx=>YN x.1 x.2.1 x.2.2⟩:=we t237 rn zdn func214 [0,2] (qc rfl z96 (qc rfl z97 zg))
def t238:=t237.d zl4
def P1:zy:=Lz [] [Mm 0 (.sl zq),Mr 3 j4,Mm 9 (.sl i64),Mm 62 (.sl zq),Mi 63] ⟨[Mi 64,.v (.qj j4),.v (.qj i64)],[(4,.ptr 0 0)],Sw⟩ [⟨.exit 0,⟨[.v (.qj j4),.v (.qj i64)],[],Sw⟩⟩,⟨.ret,⟨[Mi 5,Mi 6,.v (.qj j4),.v (.qj i64)],[],Sw⟩⟩] λp s=>sW p.1 p.2.1 p.2.2.1 p.2.2.2.1 p.2.2.2.2 s
def zgW:Hints:=Hz [(0,P1)] [(0,2,.ways [⟨.normal,⟨[Mb 42,.v (.qj j4),.v (.qj i64)],[],Sw⟩⟩]),(0,13,.ways [⟨.normal,⟨[Mb 83,.v (.qj j4),.v (.qj i64),.v (.qj zq)],[],[.var (.qj j4),.var (.qj i64),.var (.qj zq)]⟩⟩])] []
theorem z8N:LO Tryz.f147 P1 0:=lk t238 (rz [3]) zgW [] zg
theorem zkc:zw Pz 147 ⟨[.ty (.sl zq),.ty j4],[j4,i64,i64],λx=>tV x.1 x.2⟩:=we t238 (rz [3]) zgW func147 [0] (qc rfl z8N zg)
def t239:=t238.d zkc
theorem zkd:xw Pz 148 ⟨ob,⟨[Mi 1,.v (.qj uF)],[(0,.ptr 0 0)],HG⟩,[],⟨[.s 0 (.tight .str),.v (.qj uF)],[],HG⟩,1,λx=>dr x.1 x.2⟩:=eZ t239 rn hN func148 [] zg
def t240:=t239.s zkd
theorem zrI:xw Pz 84 ⟨ob,⟨[Mm 1 (.sl zm),.v (.qj uF)],[(0,.ptr 0 0)],HG⟩,[],⟨[Mm 0 (.sl zm),.s 1 (.tight .str),Mi 2,.v (.qj uF)],[],HG⟩,3,λx=>kc x.1 x.2⟩:=eZ t240 rn hN func84 [] zg
def t241:=t240.s zrI
def zhN:Hints:=Hz [] [(0,1,.Bh)] []
theorem MX:xw Pz 67 ⟨[.any],⟨[Mm 0 (.sl zm)],[],[]⟩,[],z63,1,λx=>ua x⟩:=eZ t241 rn zhN func67 [] zg
def t242:=t241.s MX
def h68:Hints:=Hz [] [(0,1,.Bh)] []
theorem zrv:xw Pz 68 ⟨[.any],⟨[Mm 0 (.sl .bool)],[],[]⟩,[],z61,1,λx=>vQ x⟩:=eZ t242 rn h68 func68 [] zg
def t243:=t242.s zrv
def h70:Hints:=Hz [] [(0,1,.Bh)] []
theorem zrw:xw Pz 70 ⟨[.any],⟨[Mm 0 (.sl q8)],[],[]⟩,[],z5T,1,λx=>uG x⟩:=eZ t243 rn h70 func70 [] zg
def t244:=t243.s zrw
theorem zqS:xw Pz 26 ⟨[.any],z6d,[],⟨[.s 0 z5C,.a zm,.a .bool,.a zm,.a i64,.a q8,.a .bool],[],z5x⟩,1,λx=>mz x⟩:=eZ ((t244.s zas).s MX) (rz [1]) hN func26 [] zg
def t245:=t244.s zqS
def z3L:zy:=Lz [] [Mi 17] ⟨[Mi 18,.v (.qj uF),.v z5B,.v (.qj xn),.a zm,.a .bool,.a zm,.a i64,.a q8,.a .bool],[(0,.ptr 0 0),(4,.ptr 1 0),(6,.ptr 2 0)],z5s⟩ [⟨.exit 0,zcq⟩] λp s=>dF p s
def z3M:zy:=Lz [] [Mm 29 (.sl i64),Mi 30] ⟨[Mi 31,.v (.qj uF),.v z5B,.v (.qj xn),.a zm,.a .bool,.a zm,.a i64,.a q8,.a .bool],[(0,.ptr 0 0),(4,.ptr 1 0),(6,.ptr 2 0)],z5s⟩ [⟨.exit 2,zcq⟩] λp s=>dG p.1 p.2 s
def h85:Hints:=Hz [(0,z3L),(2,z3M)] [] []
theorem zeL:LO Tryz.f85 z3L 0:=lk t245 rn h85 [] zg
theorem zeM:LO Tryz.f85 z3M 2:=lk t245 rn h85 [] zg
theorem zrJ:xw Pz 85 ⟨QP,⟨[Mm 1 xn,Mm 2 (.sl zm),.v (.qj uF)],[(0,.ptr 0 0)],HG⟩,[],⟨[.s 0 (.st [.row 1 zm,.row 2 .bool,.im (.sl zm),.row 3 i64,.row 4 q8,.row 5 .bool]),.v (.qj uF),.a zm,.a .bool,.a i64,.a q8,.a .bool],[],[.var (.qj uF),.arr zm,.arr .bool,.arr i64,.arr q8,.arr .bool]⟩,1,λx=>gP x.1 x.2.1 x.2.2⟩:=eZ t245 rn h85 func85 [0,2] (qc rfl zeL (qc rfl zeM zg))
def t246:=t245.s zrJ
def h64:Hints:=Hz [] [] [(4,[1001006,1001007,1001008])]
theorem zrs:xw Pz 64 ⟨[.any,.any],z5X,[],zcm,3,λx=>ez x.1 x.2⟩:=eZ t246 (rz [2,3]) h64 func64 [] zg
def t247:=t246.s zrs
def z3d:zy:=Lz [.cell 0 1 .bool,.cell 0 5 .bool,.cell 1 1 .bool,.cell 1 5 .bool,.cell 0 4 q8,.cell 1 4 q8,.cell 0 3 i64,.cell 1 3 i64,.cell 0 0 zm,.cell 0 2 zm,.cell 1 0 zm,.cell 1 2 zm] [Mr 1 qv,Mm 11 (.sl qe),Mi 12] ⟨[Mi 13,.v Sy,.v Sz,.a .bool,.a .bool,.a .bool,.a .bool,.a q8,.a q8,.a i64,.a i64,.a zm,.a zm,.a zm,.a zm],[(2,.ptr 0 0),(5,.ptr 1 0)],z5t⟩ [⟨.exit 0,SB⟩] λp s=>ZX p.1 p.2.1 p.2.2 s
def z3e:zy:=Lz [] [Mr 1 qv,Mm 27 (.sl ql),Mi 28] ⟨[Mi 29,.v Sy,.v Sz,.a .bool,.a .bool,.a .bool,.a .bool,.a q8,.a q8,.a i64,.a i64,.a zm,.a zm,.a zm,.a zm],[(2,.ptr 0 0),(5,.ptr 1 0)],z5t⟩ [⟨.exit 2,SB⟩] λp s=>ZY p.1 p.2.1 p.2.2 s
def z3f:zy:=Lz [] [Mr 1 qv,Mi 43] ⟨[Mi 44,.v Sy,.v Sz,.a .bool,.a .bool,.a .bool,.a .bool,.a q8,.a q8,.a i64,.a i64,.a zm,.a zm,.a zm,.a zm],[(2,.ptr 0 0),(5,.ptr 1 0)],z5t⟩ [⟨.exit 4,SB⟩] λp s=>ZZ p.1 p.2 s
def z3g:zy:=Lz [] [Mr 1 qv,Mi 67] ⟨[Mi 68,.v Sy,.v Sz,.a .bool,.a .bool,.a .bool,.a .bool,.a q8,.a q8,.a i64,.a i64,.a zm,.a zm,.a zm,.a zm],[(2,.ptr 0 0),(5,.ptr 1 0)],z5t⟩ [⟨.exit 6,SB⟩] λp s=>Q0 p.1 p.2 s
def h22:Hints:=Hz [(0,z3d),(2,z3e),(4,z3f),(6,z3g)] [] [(22,[1001000,1001001,1001002,1001003,1001004,1001005])]
theorem zed:LO Tryz.f22 z3d 0:=lk t247 (rz [1]) h22 [] zg
theorem zee:LO Tryz.f22 z3e 2:=lk t247 (rz [1]) h22 [] zg
theorem zef:LO Tryz.f22 z3f 4:=lk t247 (rz [1]) h22 [] zg
theorem zeg:LO Tryz.f22 z3g 6:=lk t247 (rz [1]) h22 [] zg
theorem zqO:xw Pz 22 ⟨[.any],NS,[],zcm,3,λx=>Ws x⟩:=eZ t247 (rz [1]) h22 func22 [0,2,4,6] (qc rfl zed (qc rfl zee (qc rfl zef (qc rfl zeg zg))))
def t248:=t247.s zqO
theorem zjL:zw Pz 120 ⟨[.ty ql,.rp xk],[.bool],λx=>yM x.1 x.2⟩:=we t248 (rz [2]) hN func120 [] zg
def t249:=t248.d zjL
def Ie:zy:=Lz [] [Mm 0 (.sl ql),.s 1 (.wi 120 [.rp xk]),Mi 7] cO [jW,oe] λp s=>v8 p.1 (λz0=>yM z0 p.2.1) p.2.2 s
def zbo:Hints:=Hz [(0,Ie)] [] []
theorem z2X:LO Tryz.f89 Ie 0:=lk t249 rn zbo [] zg
theorem z4s:zw Pz 89 ⟨[.ty (.sl ql),.wi 120 [.rp xk]],[i64],λx=>wb x.1 (λz0=>yM z0 x.2)⟩:=we t249 rn zbo func89 [0] (qc rfl z2X zg)
def t250:=t249.d z4s
def T65:Tb:=t250.d z4s
def z3z:zy:=Lz [.slot 5 .bool] [Mm 1 (.sl .bool),Mr 2 qv,Mm 10 (.sl xk),Mi 11] ⟨[Mi 12,.a .bool],[(5,.cur 0 .bool)],[.arr .bool]⟩ [z6v] λp s=>mP p.1 p.2.1 p.2.2.1 p.2.2.2 s
def h65:Hints:=Hz [(0,z3z)] [] []
theorem zez:LO Tryz.f65 z3z 0:=lk T65 (rz [2]) h65 [] zg
theorem znh:zw Pz 65 ⟨[.ty qv,.ty (.sl .bool)],[(.sl .bool)],λx=>kB x.1 x.2⟩:=we T65 (rz [2]) h65 func65 [0] (qc rfl zez zg)
def t251:=t250.d znh
end Go.AM.Lf
namespace Go.Proofs
open Go.RowKit Go.Shelf

attribute [local go_sem] zN

def PB.upto{α:Type}(f:Nat->α)(k:Nat):List α:=(List.range k).map f
theorem PB.ZI{α:Type}(f:Nat->α)(k:Nat):PB.upto f (k+1)=PB.upto f k++[f k]:=by simp[PB.upto,List.range_succ]
theorem PB.Lc{α:Type}(f:Nat->α)(k:Nat):(PB.upto f k).length=k:=by simp[PB.upto]
def PB.at(zs:List Bool)(len j:Nat):Nat×Bool:=(len-1-j,zs[len-1-j]?.getD false)

set_option maxRecDepth 100000 in
set_option maxHeartbeats 2000000 in
theorem PB.z14(F:Fence)(n:Nat)(h24:F.fn 151)(Tu:F.round=none)(hn:1<=n)(l Bs n₀ b off len cap:Nat)(zs:List Bool)(K4:len*8<=140737488351232)(J:b<n₀)(hb Jx:List (Nat×Bool)->World->Prop)
  (hY:∀ pre x oE,hb pre oE->pre.length<len->YieldAt F (n-1) Tryz.prog l #[.int .i64 (x.1:Int),.bool x.2] oE λe W' =>
   (e=.returned (.bool true)/\hb (pre++[x]) W'/\Below n₀ oE W')\/(e=.returned (.bool false)/\Jx (pre++[x]) W'))
  (oE:World) (hBs:oE.cell? ⟨Bs,0,none⟩=some (.slice (some ⟨b,off,none⟩) len cap)) (zpt:Bs<n₀) (hc:∀ j,j<len->oE.cell? ⟨b,off+j,none⟩=some (.bool (zs[j]?.getD false))) (h0:hb [] oE) :
  CallsIn F n Tryz.prog 151 #[.func (.yield l) #[] #[],.pointer (some ⟨Bs,0,none⟩)] oE λe W'=>(∃ v,e=.returned v) /\
   ((∃ ys,ys=PB.upto (PB.at zs len) len/\hb ys W')\/(∃ pre,(∃ k,k<=len/\pre=PB.upto (PB.at zs len) k)/\Jx pre W')):=by
 refine callsIn_of_wp Tryz.func151 rfl h24 ?_ Tu
 simp only[Tryz.ntmps151,Y,zK,zZ,qE,qF,zO,zP,zV,zS,qA,zX]
 gi_wp2
 gi_loopw [3] (λi wr=>∃ m:Nat,m<=len/\i=.int .i64 ((m:Int)-1)/\hb (PB.upto (PB.at zs len) (len-m)) wr/\Below n₀ oE wr)
  (λi _=>(intOf i+1).toNat)
 case atStart=>exact⟨len,R _,by simp,by simpa[PB.upto]using h0,Below.refl _ _⟩
 case round =>
  obtain⟨m,hm,rfl,hJs,EG⟩:=hrel
  have hbs:=(EG.cell (p:=⟨Bs,0,none⟩) zpt).trans hBs
  cases m with
  | succ k =>
   have hcx:wr.cell? ⟨b,off+k,none⟩=some (.bool (zs[k]?.getD false)):=(EG.cell (p:=⟨b,off+k,none⟩) J).trans (hc k (by omega))
   obtain⟨fn,tmps,assign,body,hy,hR⟩:=hY _ (k,zs[k]?.getD false) wr hJs (by rw[PB.Lc]; omega)
   dsimp only at hy
   have hk1:((k+1:Nat):Int)-1=k:=by omega
   rw[hk1]
   have Mq:PB.at zs len (len-(k+1))=(k,zs[k]?.getD false):=by
    have:len-1-(len-(k+1))=k:=by omega
    simp[PB.at,this]
   gi_wp2
   refine hR.mono ?_
   rintro e W3 (⟨rfl,hJ3,hk3⟩ | ⟨rfl,zpx⟩)
   ·gi_wp2
    go_roundw
    case rel=>exact⟨k,by omega,by simp,by rw[show len-k=len-(k+1)+1 by omega,PB.ZI,Mq]; exact hJ3,EG.trans hk3⟩
    case measure=>simp[intOf]
   ·gi_wp2
    refine bodyPost_ret (results_none rfl _ _ _) rfl ?_
    exact⟨⟨_,rfl⟩,.inr ⟨_,⟨len-(k+1)+1,by omega,by rw[PB.ZI,Mq]⟩,zpx⟩⟩
  | zero =>
   gi_wp2
   go_end0
   exact⟨⟨_,rfl⟩,.inl ⟨_,rfl,hJs⟩⟩

/-- The bools of a slice,in a block below n₀; or there are none. -/
def PB.EM(n₀:Nat)(oE:World)(sv:Value)(zs:List Bool):Prop :=
 (∃ a,sv=.slice a 0 0/\zs=[])\/∃ b off cap,sv=.slice (some ⟨b,off,none⟩) zs.length cap/\b<n₀/\∀ j,j<zs.length->oE.cell? ⟨b,off+j,none⟩=some (.bool (zs[j]?.getD false))
theorem PB.EM.below{n₀:Nat}{A hl:World}(h:Below n₀ A hl){sv:Value}{zs:List Bool}:PB.EM n₀ A sv zs->PB.EM n₀ hl sv zs
 | .inl e=>.inl e
 | .inr ⟨b,off,cap,e,J,hc⟩=>.inr ⟨b,off,cap,e,J,λj hj=>(h.cell (p:=⟨b,off+j,none⟩) J).trans (hc j hj)⟩

set_option maxRecDepth 100000 in
set_option maxHeartbeats 1000000 in
theorem PB.D1(F:Fence)(n:Nat)(h24:F.fn 151)(Tu:F.round=none)(l Bs:Nat)(a:Option Addr)(hb:List (Nat×Bool)->World->Prop)(oE:World)(hBs:oE.cell? ⟨Bs,0,none⟩=some (.slice a 0 0))(h0:hb [] oE) :
  CallsIn F n Tryz.prog 151 #[.func (.yield l) #[] #[],.pointer (some ⟨Bs,0,none⟩)] oE λe W'=>(∃ v,e=.returned v)/\hb [] W':=by
 refine callsIn_of_wp Tryz.func151 rfl h24 ?_ Tu
 simp only[Tryz.ntmps151,Y,zK,zZ,qE,qF,zO,zP,zV,zS,qA,zX]
 gi_wp2
 gi_loopw [3] (λi wr=>i=.int .i64 (-1)/\hb [] wr) (λ_ _=>0)
 case atStart=>exact⟨rfl,h0⟩
 case round =>
  obtain⟨rfl,hJs⟩:=hrel
  gi_wp2
  go_end0
  exact⟨⟨_,rfl⟩,hJs⟩

set_option maxHeartbeats 1000000 in
theorem PB.F8(F:Fence)(n:Nat)(h20:F.fn 91)(Tu:F.round=none)(a:Option Addr)(len cap:Nat)(w:World) :
  CallsIn F n Tryz.prog 91 #[.slice a len cap] w λe w'=>e=.returned (.func (.func 151) #[] #[.pointer (some ⟨w.heap.size,0,none⟩)])/\w'=w.alloc (.cells #[.slice a len cap] 69):=by
 refine callsIn_of_wp Tryz.func91 rfl h20 ?_ Tu
 simp only[Tryz.ntmps91,Y,zK,zZ,qE,qF,zO,zP,zV,zS,qA,zX]
 gi_wp2
 go_ret
 exact⟨rfl,rfl⟩

theorem PB.LL(F:Fence)(n:Nat)(h24:F.fn 151)(Tu:F.round=none)(hn:1<=n)(Bs n₀:Nat)(sv:Value)(zs:List Bool)(K4:zs.length*8<=140737488351232)(w:World)(hBs:Bs<n₀)(hn₀:n₀<=w.heap.size)
  (hc:w.cell? ⟨Bs,0,none⟩=some sv) (hI:PB.EM n₀ w sv zs) :
  SeqStopsK F n Tryz.prog 151 #[.pointer (some ⟨Bs,0,none⟩)] (λx:Nat×Bool => #[I .i64 (x.1:Int),zM x.2]) (Below n₀) (λys=>ys=PB.upto (PB.at zs zs.length) zs.length)
   (λpre=>∃ k,k<=zs.length/\pre=PB.upto (PB.at zs zs.length) k) zs.length w:=λl hb Jx oE hW _ _ hY h0=>by
 have hc':=(hW.cell (p:=⟨Bs,0,none⟩) (zI hBs hn₀)).trans hc
 rcases hI.below (hW.mono hn₀)with⟨a,rfl,rfl⟩ | ⟨b,off,cap,rfl,J,Xc⟩
 ·exact(PB.D1 F n h24 Tu l Bs a hb oE hc' h0).mono λe W' ⟨he,hj⟩=>⟨he,.inl ⟨_,rfl,hj⟩⟩
 ·exact PB.z14 F n h24 Tu hn l Bs n₀ b off zs.length cap zs K4 J hb Jx hY oE hc' hBs Xc h0

/-- None of the first k that came counts. -/
theorem PB.E1(l:List Bool)(at_:Int):∀ k m:Nat,m+k=l.length->(∀ p∈PB.upto (PB.at l l.length) k,¬ (p.2=true/\(p.1:Int)<at_))->Go.AM.Lf.oi l at_ l.length=Go.AM.Lf.oi l at_ m
 | 0,m,h,_=>by rw[show m=l.length by omega]
 | k+1,m,h,hp=>by
  rw[PB.E1 l at_ k (m+1) (by omega) λp hq=>hp p (by rw[PB.ZI]; exact List.mem_append_left _ hq)]
  have:=hp (PB.at l l.length k) (by rw[PB.ZI]; simp)
  simp only[PB.at,show l.length-1-k=m by omega]at this
  simp only[Go.AM.Lf.oi,if_neg this]

set_option maxRecDepth 100000 in
set_option maxHeartbeats 4000000 in
theorem PB.z6Z(F:Fence)(n:Nat)(Om:F.fn 47)(h7:F.fn 65)(h20:F.fn 91)(h24:F.fn 151)(Tu:F.round=none)(hn:3<=n)(c0 c1 c2 c3 c4 c5 vOn:Value)(at_:Int)(zs:List Bool)(w:World)(K4:zs.length*8<=140737488351232)
  (zpz:∀ oE,Below w.heap.size w oE->CallsIn F (n-1) Tryz.prog 65 #[.agg #[c0,c1,c2,c3,c4,c5],vOn] oE λe W'=>∃ a len cap,e=.returned (.slice a len cap)/\Below oE.heap.size oE W'/\PB.EM W'.heap.size W' (.slice a len cap) zs) :
  CallsIn F n Tryz.prog 47 #[.agg #[c0,c1,c2,c3,c4,c5],vOn,.int .i64 at_] w λe W'=>e=.returned (.tuple #[.int .i64 (Go.AM.Lf.oi zs at_ zs.length).1,.bool (Go.AM.Lf.oi zs at_ zs.length).2])/\Below w.heap.size w W':=by
 have h1:1<=n:=by omega
 refine callsIn_of_wp_marks Tryz.func47 rfl Om ?_ Tu
 simp only[Tryz.ntmps47,Y,zK,zZ,qE,qF,zO,zP,zV,zS,qA,zX]
 gi_wp2_with (first
  | (gi_at_call 65; refine(zpz _ (((((Below.refl _ w).alloc (R _) _).alloc (by simp) _).alloc (by simp; omega) _).alloc (by simp; omega) _)).mono ?_; rintro e W1 ⟨a,len,cap,rfl,hB1,hZ1⟩)
  | (gi_at_call 91; refine(PB.F8 F (n-1) h20 Tu _ _ _ _).mono ?_; rintro e w' ⟨rfl,rfl⟩))
 have hB0:Below w.heap.size w ((((w.alloc (zA #[c0,c1,c2,c3,c4,c5] 29)).alloc (zA #[I IntKind.i64 at_] 3)).alloc (zA #[I IntKind.i64 0] 3)).alloc (zA #[zM false] 4)) :=
  ((((Below.refl _ w).alloc (R _) _).alloc (by simp) _).alloc (by simp; omega) _).alloc (by simp; omega) _
 have k5:((((w.alloc (zA #[c0,c1,c2,c3,c4,c5] 29)).alloc (zA #[I IntKind.i64 at_] 3)).alloc (zA #[I IntKind.i64 0] 3)).alloc (zA #[zM false] 4)).heap[w.heap.size+1]? = some (zA #[I IntKind.i64 at_] 3):=by
  have:=((qQ (w.alloc (zA #[c0,c1,c2,c3,c4,c5] 29)) 3 (.int .i64 at_)).alloc (zA #[I IntKind.i64 0] 3)).alloc (zA #[zM false] 4)
  rw[zL]at this; exact this
 have k6:((((w.alloc (zA #[c0,c1,c2,c3,c4,c5] 29)).alloc (zA #[I IntKind.i64 at_] 3)).alloc (zA #[I IntKind.i64 0] 3)).alloc (zA #[zM false] 4)).heap[w.heap.size+1+1]? = some (zA #[I IntKind.i64 0] 3):=by
  have:=(qQ ((w.alloc (zA #[c0,c1,c2,c3,c4,c5] 29)).alloc (zA #[I IntKind.i64 at_] 3)) 3 (.int .i64 0)).alloc (zA #[zM false] 4)
  rw[zL,zL]at this; exact this
 have k7:((((w.alloc (zA #[c0,c1,c2,c3,c4,c5] 29)).alloc (zA #[I IntKind.i64 at_] 3)).alloc (zA #[I IntKind.i64 0] 3)).alloc (zA #[zM false] 4)).heap[w.heap.size+1+1+1]? = some (zA #[zM false] 4):=by
  have:=(qQ (((w.alloc (zA #[c0,c1,c2,c3,c4,c5] 29)).alloc (zA #[I IntKind.i64 at_] 3)).alloc (zA #[I IntKind.i64 0] 3)) 4 (.bool false))
  rw[zL,zL,zL]at this; exact this
 have cm:((((w.alloc (zA #[c0,c1,c2,c3,c4,c5] 29)).alloc (zA #[I IntKind.i64 at_] 3)).alloc (zA #[I IntKind.i64 0] 3)).alloc (zA #[zM false] 4)).heap.size=w.heap.size+1+1+1+1:=by simp
 generalize ((((w.alloc (zA #[c0,c1,c2,c3,c4,c5] 29)).alloc (zA #[I IntKind.i64 at_] 3)).alloc (zA #[I IntKind.i64 0] 3)).alloc (zA #[zM false] 4))=W0 at *
 have hs1:=hB1.size
 have b5:Boxed W1 (w.heap.size+1) 3 (.int .i64 at_):=(hB1.block _ (by omega)).trans k5
 have b6:Boxed W1 (w.heap.size+1+1) 3 (.int .i64 0):=(hB1.block _ (by omega)).trans k6
 have b7:Boxed W1 (w.heap.size+1+1+1) 4 (.bool false):=(hB1.block _ (by omega)).trans k7
 have bS:=qQ W1 69 (.slice a len cap)
 have hBw:Below w.heap.size w W1:=hB0.trans (hB1.mono (by omega))
 have hBa:Below w.heap.size w (W1.alloc (zA #[qM a len cap] 69)):=hBw.alloc (by omega) _
 have fin:∀ {W2:World} {D:Nat} {v6:Int} {v7:Bool},w.heap.size<=D->W2.heap[D]? = some (.deferred (some []))->Below w.heap.size w W2->Boxed W2 (w.heap.size+1+1) 3 (.int .i64 v6)->Boxed W2 (w.heap.size+1+1+1) 4 (.bool v7) ->
   ∀ {u:Value},bodyPostM F n Tryz.prog Tryz.f47 (λe W'=>e=.returned (.tuple #[.int .i64 v6,.bool v7])/\Below w.heap.size w W') Exit.ret
    { tmps := #[qR #[c0,c1,c2,c3,c4,c5],vOn,I IntKind.i64 at_,
     zG (some { block:=w.heap.size,off:=0 }),undef,
     zG (some { block:=w.heap.size+1,off:=0 }),
     zG (some { block:=w.heap.size+1+1,off:=0 }),
     zG (some { block:=w.heap.size+1+1+1,off:=0 }),undef,undef,
     qR #[c0,c1,c2,c3,c4,c5],vOn,qM a len cap,
     Value.func (Fn.func 151) #[] #[zG (some { block:=W1.heap.size,off:=0 })],undef,undef,undef,
     undef,undef,undef,undef,undef,undef,u],defers:=[{ target:=Target.collected D,args := #[] }] } W2:=by
  intro W2 D v6 v7 hD hK hB g6 g7 u
  refine⟨by simp,.inl ⟨_,_,rfl,run_takeDeferred hK,?_⟩⟩
  have c6:=(g6.kept (grownBy_putObj' _ D (.deferred none)) (λe=>by cases e; rw[show W2.heap[_]? = _ from g6]at hK; cases hK)).cell
  have c7:=(g7.kept (grownBy_putObj' _ D (.deferred none)) (λe=>by cases e; rw[show W2.heap[_]? = _ from g7]at hK; cases hK)).cell
  refine⟨.tuple #[.int .i64 v6,.bool v7],?_,rfl,hB.trans (belowK_b (w:=w) (R _) _ D _ _ hD hK rfl rfl)⟩
  simp[results,Tryz.f47,go_sem,c6,c7]
 refine wpIn_rangeFunc_ownG Tu h1 (gf:=151) (lb := #[.pointer (some ⟨W1.heap.size,0,none⟩)]) rfl h24 (enters_of Tryz.func151 (by kernel_rfl) rfl)
  (PB.LL F (n-1) h24 Tu (by omega) W1.heap.size (W1.heap.size+1) _ zs K4 (W1.alloc (zA #[qM a len cap] 69)) (by omega) (by simp) bS.cell (by
   rcases hZ1 with h | ⟨b,off,Ut,e,J,hc⟩
   ·exact .inl h
   ·exact .inr ⟨b,off,Ut,e,by omega,λj hj=>(((Below.refl W1.heap.size W1).alloc (R _) _).cell (p:=⟨b,off+j,none⟩) J).trans (hc j hj)⟩)) belowK_t (belowK_b (by simp)) (Below.refl _ _) (λ_=>rfl)
  (λpre oE=>((∀ p∈pre,¬ (p.2=true/\(p.1:Int)<at_))/\Boxed oE (w.heap.size+1) 3 (.int .i64 at_)/\Boxed oE (w.heap.size+1+1) 3 (.int .i64 0)/\Boxed oE (w.heap.size+1+1+1) 4 (.bool false))/\Below w.heap.size w oE)
  (λc pre oE=>(c=.ret/\∃ (ini:List (Nat×Bool)) (last:Nat×Bool),pre=ini++[last]/\(∀ p∈ini,¬ (p.2=true/\(p.1:Int)<at_))/\(last.2=true/\(last.1:Int)<at_)/\Boxed oE (w.heap.size+1+1) 3 (.int .i64 (last.1:Int))/\Boxed oE (w.heap.size+1+1+1) 4 (.bool true))/\Below w.heap.size w oE)
  (OwnFrom.and (Own.from (λs A hl row hs hg hr=>⟨hs.1,boxed_own (β:=Unit) _ _ (λ_=>_) () A hl row hs.2.1 hg hr,boxed_own (β:=Unit) _ _ (λ_=>_) () A hl row hs.2.2.1 hg hr,boxed_own (β:=Unit) _ _ (λ_=>_) () A hl row hs.2.2.2 hg hr⟩) _) (ownFrom_below (R _) (by simp; omega)))
  (λc=>OwnFrom.and (Own.from (λs A hl row hs hg hr=>by obtain⟨hc,ini,last,e1,e2,e3,e4,e5⟩:=hs; exact⟨hc,ini,last,e1,e2,e3,boxed_own (β:=Unit) _ _ (λ_=>_) () A hl row e4 hg hr,boxed_own (β:=Unit) _ _ (λ_=>_) () A hl row e5 hg hr⟩) _) (ownFrom_below (R _) (by simp; omega)))
  ⟨⟨by simp,b5.alloc _,b6.alloc _,b7.alloc _⟩,hBa⟩
  (λx=>{ tmps := #[qR #[c0,c1,c2,c3,c4,c5],vOn,I IntKind.i64 at_,
     zG (some { block:=w.heap.size,off:=0 }),undef,
     zG (some { block:=w.heap.size+1,off:=0 }),
     zG (some { block:=w.heap.size+1+1,off:=0 }),
     zG (some { block:=w.heap.size+1+1+1,off:=0 }),.int .i64 (x.1:Int),.bool x.2,
     qR #[c0,c1,c2,c3,c4,c5],vOn,qM a len cap,
     Value.func (Fn.func 151) #[] #[zG (some { block:=W1.heap.size,off:=0 })],.int .i64 (x.1:Int),.bool x.2,undef,
     undef,undef,undef,undef,undef,undef,undef],defers:=[] }) ?assign ?body ?done ?stop
 case assign =>
  intro l x oE K hK
  gi_wp2
  exact hK
 case body =>
  rintro l pre x oE ⟨⟨hp,h5,h6,h7'⟩,hB⟩ _
  have q5:=h5.cell; have q6:=h6.cell; have q7:=h7'.cell
  have f6:=h6.frozen; have f7:=h7'.frozen
  gi_wp2
  ·rename_i g1 g2
   exact⟨((zR _ _ _).trans (zR _ _ _)).from _,⟨rfl,pre,x,rfl,hp,⟨by simp_all,by simp_all⟩,(h6.set _).other (by omega) _,(h7'.other (by omega) _).set _⟩,
    (hB.setCell (p:=⟨w.heap.size+1+1,0,none⟩) (by show w.heap.size<=w.heap.size+1+1; omega) _).setCell (p:=⟨w.heap.size+1+1+1,0,none⟩) (by show w.heap.size<=w.heap.size+1+1+1; omega) _⟩
  ·rename_i g1 g2
   exact⟨KeepsFrom.refl _ _,Below.refl _ _,⟨λp hp'=>(List.mem_append.1 hp').elim (hp p) (λe=>by simp at e; subst e; intro hh; have:=hh.2; omega),h5,h6,h7'⟩,hB⟩
  ·rename_i g1
   exact⟨KeepsFrom.refl _ _,Below.refl _ _,⟨λp hp'=>(List.mem_append.1 hp').elim (hp p) (λe=>by simp at e; subst e; intro hh; simp_all),h5,h6,h7'⟩,hB⟩
 case done =>
  rintro D ys oE hD rfl ⟨⟨ku,h5,h6,h7'⟩,hB⟩ hK
  have q5:=h5.cell; have q6:=h6.cell; have q7:=h7'.cell
  have f6:=h6.frozen; have f7:=h7'.frozen
  have hv:Go.AM.Lf.oi zs at_ zs.length=(at_,false):=(PB.E1 zs at_ zs.length 0 (by omega) ku).trans rfl
  gi_wp2
  have hK':((oE.setCell ⟨w.heap.size+1+1,0,none⟩ (.int .i64 at_)).setCell ⟨w.heap.size+1+1+1,0,none⟩ (.bool false)).heap[D]? = some (.deferred (some [])) :=
   ((zR _ _ _).trans (zR _ _ _)).same D _ hK rfl
  have g6:Boxed ((oE.setCell ⟨w.heap.size+1+1,0,none⟩ (.int .i64 at_)).setCell ⟨w.heap.size+1+1+1,0,none⟩ (.bool false)) (w.heap.size+1+1) 3 (.int .i64 at_):=(h6.set _).other (by omega) _
  have g7:Boxed ((oE.setCell ⟨w.heap.size+1+1,0,none⟩ (.int .i64 at_)).setCell ⟨w.heap.size+1+1+1,0,none⟩ (.bool false)) (w.heap.size+1+1+1) 4 (.bool false):=(h7'.other (by omega) _).set _
  have hB':Below w.heap.size w ((oE.setCell ⟨w.heap.size+1+1,0,none⟩ (.int .i64 at_)).setCell ⟨w.heap.size+1+1+1,0,none⟩ (.bool false)) :=
   (hB.setCell (p:=⟨w.heap.size+1+1,0,none⟩) (by show w.heap.size<=w.heap.size+1+1; omega) _).setCell (p:=⟨w.heap.size+1+1+1,0,none⟩) (by show w.heap.size<=w.heap.size+1+1+1; omega) _
  rw[hv]
  generalize (oE.setCell ⟨w.heap.size+1+1,0,none⟩ (.int .i64 at_)).setCell ⟨w.heap.size+1+1+1,0,none⟩ (.bool false)=W2 at *
  exact fin (by simp at hD; omega) hK' hB' g6 g7
 case stop =>
  rintro D c pre oE hD ⟨k,hk,rfl⟩ ⟨⟨rfl,ini,last,e1,e2,e3,h6,h7'⟩,hB⟩ hK
  gi_wp2
  obtain⟨k',rfl⟩:∃ k',k=k'+1:=by
   cases k with
   | zero=>simp[PB.upto]at e1
   | succ k'=>exact⟨k',rfl⟩
  rw[PB.ZI]at e1
  obtain⟨rfl,e5⟩:=List.append_inj' e1 rfl
  obtain rfl:PB.at zs zs.length k'=last:=by simpa using e5
  have hv:Go.AM.Lf.oi zs at_ zs.length=(((zs.length-1-k':Nat):Int),true):=by
   rw[PB.E1 zs at_ k' (zs.length-1-k'+1) (by omega) e2]
   simp only[PB.at]at e3
   simp only[Go.AM.Lf.oi]
   rw[if_pos e3]
  rw[hv]
  exact fin (by simp at hD; omega) hK hB h6 h7'
end Go.Proofs

namespace Go.AM.Lf
open Go.Proofs Go.RowKit

theorem HY{P:Program}{g:Nat}{fn:Func}{args:Array Value}{w:World}{zD:Ending->World->Prop}(hf:P.funcs[g]? = some fn) (hn:(fn.name == "runtime.NumGoroutine")=false) (J:fn.body.isNone=false) (h:gM P g args w zD):Calls P g args w zD:=by
 rcases h with⟨_,h⟩ | ⟨v,w',h,_⟩
 ·exact h
 ·rw[uW hf hn J w]at h; cases h

theorem zrc:zw Tryz.prog 47 ⟨[.ty qv,.ty (.sl .bool),.ty i64],[i64,.bool],λx=>rm x.1 x.2.1 x.2.2⟩:=by
 intro O x xa y ud hy hI ha
 obtain⟨f,on,at_⟩:=x
 obtain⟨l,B,hlen,hy⟩:=T.zh.1 hy
 replace hlen:zH l*8<=140737488351232:=hlen
 cases hy
 obtain⟨v0,r,rfl,h0,ha⟩:=wP.cons_inv (show wP O [.qj qv f,.qj (.sl .bool) on,.qj i64 at_] xa from ha)
 obtain⟨v1,r,rfl,h1,ha⟩:=ha.cons_inv
 obtain⟨v2,r,rfl,X,ha⟩:=ha.cons_inv
 rw[ha.wg]
 obtain⟨cs,Xc,rfl⟩:=RD.du h0
 have zio:=Xc.len
 rw[RD.eB X]
 match cs,zio with
 | [c0,c1,c2,c3,c4,c5],_ =>
 refine .inl ⟨uW Tryz.func47 (by kernel_rfl) rfl O.w,?_⟩
 refine(callsIn_wide (n:=10)).1 ((PB.z6Z Fence.wide 10 trivial trivial trivial trivial rfl (by omega) c0 c1 c2 c3 c4 c5 v1 at_ l O.w hlen λoE hW => ?_).mono ?_)
 ·have U:Ext O { O with w:=oE }:=⟨hW.os,hW.tape,hW.output,hW.size,λk hk=>⟨hk,hW.block k (hI.cp k hk)⟩,λk hk=>.inl hk,λ_ _ _ h=>.inl h,λb d h=>by rw[ud]at h; simp at h,
   λb v0 e xs h=>by rw[ud]at h; simp at h,λb h=>by rw[ud]at h; simp at h,R _,λk hk _=>hW.block k hk⟩
  have Uk:Inv { O with w:=oE }:=⟨hI.len,λk hk=>zI (hI.cp k hk) hW.size,λb blk n J=>⟨zI (hI.apart b blk n J).1 hW.size,(hI.apart b blk n J).2⟩,hI.inj,λb x J=>by rw[ud]at J; simp at J,hI.gl.mono U.same⟩
  refine callsIn_wide.2 (HY Tryz.func65 (by kernel_rfl) rfl ((znh { O with w:=oE } (f,on) [pk qv [c0,c1,c2,c3,c4,c5],v1] l ud B Uk (.cons (h0.mono U) (.cons (h1.mono U) .nil))).mono ?_))
  rintro e W' ⟨E,rfl,z8d,hI',HQ,v,rfl,hv⟩
  have HO:O.ph=[]:=zY (by rw[hI.len,ud]; rfl)
  have hB:Below oE.heap.size oE E.w:=⟨HQ.os,HQ.tape,HQ.output,HQ.size,λk hk=>HQ.frame k hk λb n h=>by simp[HO]at h⟩
  have hv:=RD.jP (O:=E) (τ:=.sl .bool) (x:=l) hv rfl
  rcases hv.Z5 with⟨rfl,a,e⟩ | ⟨blk,off,cap,g,e,ja,ju,hg,hc⟩
  ·cases e
   exact⟨a,0,0,rfl,hB,.inl ⟨a,rfl,rfl⟩⟩
  ·cases e
   refine⟨some ⟨blk,off,none⟩,_,cap,rfl,hB,.inr ⟨blk,off,cap,rfl,hI'.cp blk ja,λj hj => ?_⟩⟩
   have h3:=hc j hj 0 (.bool l[j]) (by rw[(hg j hj).cK]; rfl)
   rw[zT hj]
   simpa[Ty.size]using h3
 ·rintro e W' ⟨rfl,hB⟩
  have U:Ext O { O with w:=W' }:=⟨hB.os,hB.tape,hB.output,hB.size,λk hk=>⟨hk,hB.block k (hI.cp k hk)⟩,λk hk=>.inl hk,λ_ _ _ h=>.inl h,λb d h=>by rw[ud]at h; simp at h,
   λb v0 e xs h=>by rw[ud]at h; simp at h,λb h=>by rw[ud]at h; simp at h,R _,λk hk _=>hB.block k hk⟩
  refine⟨{ O with w:=W' },rfl,ud,⟨hI.len,λk hk=>zI (hI.cp k hk) hB.size,λb blk n J=>⟨zI (hI.apart b blk n J).1 hB.size,(hI.apart b blk n J).2⟩,hI.inj,λb x J=>by rw[ud]at J; simp at J,hI.gl.mono U.same⟩,U,_,rfl,?_⟩
  refine .fj _ _ rfl λi h1 X => ?_
  match i with
  | 0=>exact RD.int
  | 1=>exact RD.bool
end Go.AM.Lf

namespace Go.AM.Lf
open Go.Proofs Go.Proofs.Tryz
def t252:=t251.d zrc
def z3n:zy:=Lz [] [Mi 2,Mm 12 (.sl .bool),Mi 13] ⟨[Mi 14],[],[]⟩ [jW,⟨.ret,⟨[Mi 6,Mb 7],[],[]⟩⟩] λp s=>Qp p.1 p.2.1 p.2.2 s
def h46:Hints:=Hz [(0,z3n)] [(0,4,.flat [Mb 24])] []
theorem zen:LO Tryz.f46 z3n 0:=lk t252 (rz [3]) h46 [] zg
theorem zrb:zw Pz 46 ⟨[.ty qv,.ty (.sl .bool),.ty i64],[i64,.bool],λx=>rq x.1 x.2.1 x.2.2⟩:=we t252 (rz [3]) h46 func46 [0] (qc rfl zen zg)
def t253:=t252.d zrb
def h23:Hints:=Hz [] [(0,2,.flat [Mb 28])] []
theorem zqP:zw Pz 23 ⟨[.ty qv,.ty (.sl .bool),.ty i64],[i64],λx=>Zx x.1 x.2.1 x.2.2⟩:=we t253 (rz [3]) h23 func23 [] zg
def t254:=t253.d zqP
def h12:Hints:=Hz [] [] [(8,[1006000,1006001,1006003,1006004,1006005])]
theorem zqG:jx Pz 12 ⟨[.any],NS,[],⟨[Ms 1,Mi 2,.v (.qj qy)],[(0,.ptr 0 0)],ZL⟩,3,0,⟨[Ms 1,Mi 2],[(0,.bq)],[]⟩,some 3,λx=>cB x⟩:=Yg t254 rn h12 func12 [] zg
def t255:=t254.p zqG
def z3A:zy:=Lz [] [Mm 0 (.sl u32)] JG [⟨.exit 0,JG⟩] λp s=>Jp p s
def h66:Hints:=Hz [(0,z3A)] [(0,2,.flat [Mb 15])] []
theorem zeA:LO Tryz.f66 z3A 0:=lk t255 rn h66 [] zg
theorem zrt:zw Pz 66 ⟨[.ty (.sl u32)],[(.sl u32)],λx=>uV x⟩:=we t255 rn h66 func66 [0] (qc rfl zeA zg)
def t256:=t255.d zrt
theorem zqR:zw Pz 25 ⟨[.ty (.int .u64)],[(.sl u32)],λx=>WN x⟩:=we t256 rn hN func25 [] zg
def t257:=t256.d zqR
def OO:zy:=Lz [] [Mm 4 (.sl u32)] ⟨[Mm 5 (.int .u64),Mi 6],[],[]⟩ [⟨.exit 0,⟨[Mm 5 (.int .u64)],[],[]⟩⟩] λp s=>Hh p s
def zgN:Hints:=Hz [(0,OO)] [] []
theorem z8A:LO Tryz.f121 OO 0:=lk t257 rn zgN [] zg
theorem zjM:zw Pz 121 ⟨[.ty (.sl u32)],[(.int .u64),.bool],λx=>E5 x⟩:=we t257 rn zgN func121 [0] (qc rfl z8A zg)
def t258:=t257.d zjM
def OP:zy:=Lz [] [Mm 0 (.sl u32),Mm 1 (.int .u64)] z5G [⟨.exit 0,⟨[Mm 7 (.int .u64),.a u32],[(6,.cur 0 u32)],ba⟩⟩] λp s=>Vj p.1 p.2 s
def zgO:Hints:=Hz [(0,OP)] [] [(9,[6])]
theorem z8B:LO Tryz.f122 OP 0:=lk t258 rn zgO [] zg
theorem zjN:zw Pz 122 ⟨[.ty (.sl u32),.ty (.int .u64)],[(.sl u32),(.int .u64)],λx=>Hi x.1 x.2⟩:=we t258 rn zgO func122 [0] (qc rfl z8B zg)
def t259:=t258.d zjN
theorem zkJ:zw Pz 189 ⟨[.ty (.sl u32),.ty i64],[(.int .u64)],λx=>tO x.1 x.2⟩:=we t259 rn hN func189 [] zg
def t260:=t259.d zkJ
def OQ:zy:=Lz [.slot 8 u32] [Mm 5 (.sl u32),Mm 7 (.int .u64)] ⟨[Mi 9,.a u32],[(8,.cur 0 u32)],ba⟩ [⟨.exit 0,⟨[.a u32],[(8,.cur 0 u32)],ba⟩⟩] λp s=>Vh p.1 p.2 s
def OR:zy:=Lz [] [Mm 5 (.sl u32),Mm 11 (.int .u64)] ⟨[Mm 12 (.int .u64),Mi 13,.a u32],[(10,.cur 0 u32)],ba⟩ [⟨.exit 2,⟨[.a u32],[(10,.cur 0 u32)],ba⟩⟩] λp s=>Vi p.1 p.2 s
def zde:Hints:=Hz [(0,OQ),(2,OR)] [] [(14,[8]),(24,[10])]
theorem z8C:LO Tryz.f123 OQ 0:=lk t260 rn zde [] zg
theorem z8D:LO Tryz.f123 OR 2:=lk t260 rn zde [] zg
theorem zjO:zw Pz 123 ⟨[.ty (.sl u32),.ty i64],[(.sl u32)],λx=>Hg x.1 x.2⟩:=we t260 rn zde func123 [0,2] (qc rfl z8C (qc rfl z8D zg))
def t261:=t260.d zjO
def OS:zy:=Lz [.slot 5 u32] [Mm 0 (.sl u32),Mm 1 (.sl u32)] ⟨[Mm 6 (.int .u64),Mi 7,.a u32],[(5,.cur 0 u32)],ba⟩ [z6t] λp s=>KY p.1 p.2 s
def zgP:Hints:=Hz [(0,OS)] [] [(9,[5])]
theorem z8E:LO Tryz.f124 OS 0:=lk t261 rn zgP [] zg
theorem zjP:zw Pz 124 ⟨[.ty (.sl u32),.ty (.sl u32)],[(.sl u32)],λx=>IF x.1 x.2⟩:=we t261 rn zgP func124 [0] (qc rfl z8E zg)
def t262:=t261.d zjP
def OT:zy:=Lz [] [Mm 5 (.sl u32),Mm 6 (.sl u32)] z6a [jW,oe] λp s=>KZ p.1 p.2 s
def zgQ:Hints:=Hz [(0,OT)] [] []
theorem z8F:LO Tryz.f125 OT 0:=lk t262 rn zgQ [] zg
theorem zjQ:zw Pz 125 ⟨[.ty (.sl u32),.ty (.sl u32)],[i64],λx=>He x.1 x.2⟩:=we t262 rn zgQ func125 [0] (qc rfl z8F zg)
def t263:=t262.d zjQ
def OU:zy:=Lz [.slot 6 u32] [Mm 0 (.sl u32),Mm 1 (.sl u32)] z5G [z6u] λp s=>Y1 p.1 p.2 s
def zgR:Hints:=Hz [(0,OU)] [(3,10,.flat [Mm 7 (.int .u64),Mm 9 (.int .u64)])] [(14,[6])]
theorem z8G:LO Tryz.f126 OU 0:=lk t263 rn zgR [] zg
theorem zjR:zw Pz 126 ⟨[.ty (.sl u32),.ty (.sl u32)],[(.sl u32),.bool],λx=>IK x.1 x.2⟩:=we t263 rn zgR func126 [0] (qc rfl z8G zg)
def t264:=t263.d zjR
def z3C:zy:=Lz [] [Mm 0 (.sl u32),Mm 1 (.sl u32)] ⟨[Mm 14 (.sl u32),Mi 15,.a u32],[(13,.cur 0 u32)],ba⟩ [⟨.exit 0,z5K⟩] λp s=>XZ p.1 p.2 s
def h72:Hints:=Hz [(0,z3C)] [(0,5,.flat [Mb 33]),(0,7,.flat [Mb 46]),(3,16,.ways [⟨.normal,z5K⟩])] [(21,[13])]
theorem zeC:LO Tryz.f72 z3C 0:=lk t264 rn h72 [] zg
theorem zry:zw Pz 72 ⟨[.ty (.sl u32),.ty (.sl u32)],[(.sl u32),(.sl u32),.bool],λx=>tN x.1 x.2⟩:=we t264 rn h72 func72 [0] (qc rfl zeC zg)
def t265:=t264.d zry
def z3B:zy:=Lz [] [] ⟨[Mm 5 (.sl u32),Mm 6 (.sl u32)],[],[]⟩ [⟨.exit 0,⟨[Mm 5 (.sl u32)],[],[]⟩⟩] λp s=>Y0  s
def h71:Hints:=Hz [(0,z3B)] [] []
theorem zeB:LO Tryz.f71 z3B 0:=lk t265 rn h71 [] zg
theorem zrx:zw Pz 71 ⟨[.ty (.sl u32),.ty (.sl u32)],[(.sl u32)],λx=>II x.1 x.2⟩:=we t265 rn h71 func71 [0] (qc rfl zeB zg)
def t266:=t265.d zrx
def h27:Hints:=Hz [] [(0,2,.flat [Mb 19])] []
theorem zqT:zw Pz 27 ⟨[.ty zm],[zm],λx=>ZB x⟩:=we t266 (rz [1]) h27 func27 [] zg
def t267:=t266.d zqT
theorem zqQ:zw Pz 24 ⟨[.ty .bool,.ty (.sl u32),.ty (.sl u32)],[zm],λx=>YL x.1 x.2.1 x.2.2⟩:=we t267 rn hN func24 [] zg
def t268:=t267.d zqQ
def h13:Hints:=Hz [] [(3,2,.flat [Mm 3 (.int .u64)])] []
theorem zqH:zw Pz 13 ⟨[.ty i64],[zm],λx=>fg x⟩:=we t268 rn h13 func13 [] zg
def t269:=t268.d zqH
theorem zjX:zw Pz 133 ⟨[.ty qq,.rp .str],[.bool],λx=>ev x.1 x.2⟩:=we t269 (rz [2]) hN func133 [] zg
def t270:=t269.d zjX
def OY:zy:=Lz [] [Mm 0 (.sl qq),.s 1 (.wi 133 [.rp .str]),Mi 7] cO [jW,oe] λp s=>cN p.1 (λz0=>ev z0 p.2.1) p.2.2 s
def zgV:Hints:=Hz [(0,OY)] [] []
theorem z8K:LO Tryz.f132 OY 0:=lk t270 rn zgV [] zg
theorem zjW:zw Pz 132 ⟨[.ty (.sl qq),.wi 133 [.rp .str]],[i64],λx=>gE x.1 (λz0=>ev z0 x.2)⟩:=we t270 rn zgV func132 [0] (qc rfl z8K zg)
def t271:=t270.d zjW
theorem zrE:zw Pz 79 ⟨[.ty qv,.ty .str],[i64],λx=>Zk x.1 x.2⟩:=we t271 (rz [2,3]) hN func79 [] zg
def t272:=t271.d zrE
theorem zrG:zw Pz 81 ⟨[.ty zm],[.bool],λx=>cz x⟩:=we t272 (rz [1]) hN func81 [] zg
def t273:=t272.d zrG
theorem zjZ:zw Pz 135 ⟨[.ty zm],[.bool],λx=>fQ x⟩:=we t273 (rz [1]) hN func135 [] zg
def t274:=t273.d zjZ
def C8:zy:=Lz [] [Mm 0 (.sl zm),.s 1 (.wi 135 []),Mi 7] cO [jW,oe] λp s=>gp p.1 (λz0=>fQ z0) p.2.2 s
def z1T:Hints:=Hz [(0,C8)] [] []
theorem TS:LO Tryz.f197 C8 0:=lk t274 rn z1T [] zg
theorem RS:zw Pz 197 ⟨[.ty (.sl zm),.wi 135 []],[i64],λx=>y6 x.1 (λz0=>fQ z0)⟩:=we t274 rn z1T func197 [0] (qc rfl TS zg)
def t275:=t274.d RS
theorem RJ:zw Pz 134 ⟨[.ty (.sl zm),.wi 135 []],[.bool],λx=>vz x.1 (λz0=>fQ z0)⟩:=we (t275.d RS) rn hN func134 [] zg
def t276:=t275.d RJ
theorem zk2:zw Pz 138 ⟨[.ty q8],[.bool],λx=>JU x⟩:=we t276 (rz [1]) hN func138 [] zg
def t277:=t276.d zk2
theorem zk1:zw Pz 137 ⟨[.ty q8],[.bool],λx=>fR x⟩:=we t277 (rz [1]) hN func137 [] zg
def t278:=t277.d zk1
def Pd:zy:=Lz [] [Mm 0 (.sl q8),.s 1 (.wi 137 []),Mi 7] cO [jW,oe] λp s=>bX p.1 (λz0=>fR z0) p.2.2 s
def zh5:Hints:=Hz [(0,Pd)] [] []
theorem z8Y:LO Tryz.f198 Pd 0:=lk t278 rn zh5 [] zg
theorem zkO:zw Pz 198 ⟨[.ty (.sl q8),.wi 137 []],[i64],λx=>yz x.1 (λz0=>fR z0)⟩:=we t278 rn zh5 func198 [0] (qc rfl z8Y zg)
def t279:=t278.d zkO
theorem zk0:zw Pz 136 ⟨[.ty (.sl q8),.wi 137 []],[.bool],λx=>uD x.1 (λz0=>fR z0)⟩:=we t279 rn hN func136 [] zg
def t280:=t279.d zk0
def Py:zy:=Lz [] [Mm 1 (.sl zm),Mm 12 (.sl qk),Mi 13] ⟨[Mi 14,.v (.qj zm),.v (.qj zm)],[(4,.ptr 0 0),(5,.ptr 1 0)],[.var (.qj zm),.var (.qj zm)]⟩ [⟨.exit 0,z5O⟩] λp s=>Wl p.1 p.2.1 p.2.2 s
def zhi:Hints:=Hz [(0,Py)] [] []
theorem z9h:LO Tryz.f258 Py 0:=lk t280 (rz [2]) zhi [] zg
theorem zlD:zw Pz 258 ⟨[.ty zq,.ty (.sl zm)],[zm],λx=>CZ x.1 x.2⟩:=we t280 (rz [2]) zhi func258 [0] (qc rfl z9h zg)
def t281:=t280.d zlD
theorem zkR:zw Pz 201 ⟨[.ty zq,.ty (.sl zm)],[.bool],λx=>tC x.1 x.2⟩:=we t281 (rz [2]) hN func201 [] zg
def t282:=t281.d zkR
def C9:zy:=Lz [] [Mm 27 (.sl qk),Mi 28] ⟨[Mi 7,Mi 8,Mi 29,.v tf,.a i64,.a i64],[(0,.ptr 0 0),(2,.uX)],JD⟩ [⟨.exit 0,⟨[Mi 7,.v tf,.a i64,.a i64],[],JD⟩⟩] λp s=>yp p.1 p.2 s
def z1U:Hints:=Hz [(0,C9)] [(0,6,.flat [Mb 46])] []
theorem TT:LO Tryz.f259 C9 0:=lk t282 rn z1U [] zg
theorem RT:xw Pz 259 ⟨QP,⟨[Mi 1,.v tf,.a i64,.a i64],[(0,.ptr 0 0),(2,.uX)],JD⟩,[],Lo,1,λx=>bj x.1 x.2.1 x.2.2.1 x.2.2.2⟩:=eZ t282 rn z1U func259 [0] (qc rfl TT zg)
def t283:=t282.s RT
theorem zkS:zw Pz 202 ⟨[.ty (.sl zq),.ty (.sl i64),.ty i64,.ty i64],[.bool],λx=>nf x.1 x.2.1 x.2.2.1 x.2.2.2⟩:=we (t283.s RT) rn hN func202 [] zg
def t284:=t283.d zkS
def zoO:Hints:=Hz [] [(0,4,.ways [⟨.normal,⟨[Mb 8,.v Yp,.a zq,.a i64,.a i64,.v (.qj zq)],[],[.var Yp,.arr zq,.arr i64,.arr i64,.var (.qj zq)]⟩⟩])] []
theorem zk6:xw Pz 141 ⟨QP,⟨[Mi 1,Mm 2 (.sl zm),.v Yp,.a zq,.a i64,.a i64],[(0,.ptr 0 0)],JE⟩,[],⟨[Mb 0,.v Yp,.a zq,.a i64,.a i64],[],JE⟩,1,λx=>bD x.1 x.2.1 x.2.2.1 x.2.2.2.1 x.2.2.2.2.1 x.2.2.2.2.2⟩:=eZ t284 rn zoO func141 [] zg
def t285:=t284.s zk6
def T80:Tb:=t285.d RJ
def z3H:zy:=Lz [] [Mr 3 xn,Mm 31 (.sl i64),Mi 32] ⟨[Mi 33,.v Yp,.a zq,.a i64,.a i64],[(5,.ptr 0 0)],JE⟩ [⟨.exit 0,z6m⟩,z6p] λp s=>JS p.1 p.2.1 p.2.2 s
def z3I:zy:=Lz [] [Mr 3 xn,Mi 67] ⟨[Mi 68,.v Yp,.a zq,.a i64,.a i64],[(5,.ptr 0 0)],JE⟩ [⟨.exit 2,z6m⟩,z6p] λp s=>JT p.1 p.2 s
def h80:Hints:=Hz [(0,z3H),(2,z3I)] [(0,7,.ways [⟨.normal,⟨[Mb 48,.v Yp,.a zq,.a i64,.a i64],[],JE⟩⟩])] []
theorem zeH:LO Tryz.f80 z3H 0:=lk T80 (rz [2,3]) h80 [] zg
theorem zeI:LO Tryz.f80 z3I 2:=lk T80 (rz [2,3]) h80 [] zg
theorem zrF:zw Pz 80 ⟨[.ty qv,.ty xn],[.bool],λx=>Xr x.1 x.2⟩:=we T80 (rz [2,3]) h80 func80 [0,2] (qc rfl zeH (qc rfl zeI zg))
def t286:=t285.d zrF
def h41:Hints:=Hz [] [] [(12,[1001006,1001007,1001008])]
theorem zr7:zw Pz 41 ⟨[.ty qv,.ty xn,.ty .str,.ty zm],[xn,(.sl .str),i64],λx=>UB x.1 x.2.1 x.2.2.1 x.2.2.2⟩:=we t286 (rz [4,5,7]) h41 func41 [] zg
def t287:=t286.d zr7
def z3j:zy:=Lz [] [.s 2 (.wi 34 []),Mm 9 (.sl zm),Mi 10] SI [Yb] λp s=>Zl (λz0=>gJ z0) p.2.1 p.2.2 s
def h33:Hints:=Hz [(0,z3j)] [] []
theorem zej:LO Tryz.f33 z3j 0:=lk t287 rn h33 [] zg
theorem zqZ:zw Pz 33 ⟨[.ty .str,.ty (.sl zm),.wi 34 []],[.str],λx=>nn x.1 x.2.1 (λz0=>gJ z0)⟩:=we t287 rn h33 func33 [0] (qc rfl zej zg)
def t288:=t287.d zqZ
theorem zqY:zw Pz 32 ⟨[.ty .bool],[.str],λx=>cP x⟩:=we t288 rn hN func32 [] zg
def t289:=t288.d zqY
def z3k:zy:=Lz [] [.s 2 (.wi 32 []),Mm 9 (.sl .bool),Mi 10] SI [Yb] λp s=>tz (λz0=>cP z0) p.2.1 p.2.2 s
def h35:Hints:=Hz [(0,z3k)] [] []
theorem zek:LO Tryz.f35 z3k 0:=lk t289 rn h35 [] zg
theorem zr1:zw Pz 35 ⟨[.ty .str,.ty (.sl .bool),.wi 32 []],[.str],λx=>iM x.1 x.2.1 (λz0=>cP z0)⟩:=we t289 rn h35 func35 [0] (qc rfl zek zg)
def t290:=t289.d zr1
theorem zr3:zw Pz 37 ⟨[.ty i64],[.str],λx=>mC x⟩:=we t290 rn hN func37 [] zg
def t291:=t290.d zr3
def z3l:zy:=Lz [] [.s 2 (.wi 37 []),Mm 9 (.sl i64),Mi 10] SI [Yb] λp s=>Zm (λz0=>mC z0) p.2.1 p.2.2 s
def h36:Hints:=Hz [(0,z3l)] [] []
theorem zel:LO Tryz.f36 z3l 0:=lk t291 rn h36 [] zg
theorem zr2:zw Pz 36 ⟨[.ty .str,.ty (.sl i64),.wi 37 []],[.str],λx=>Z1 x.1 x.2.1 (λz0=>mC z0)⟩:=we t291 rn h36 func36 [0] (qc rfl zel zg)
def t292:=t291.d zr2
theorem zr5:zw Pz 39 ⟨[.ty q8],[.str],λx=>mD x⟩:=we t292 (rz [1]) hN func39 [] zg
def t293:=t292.d zr5
def z3m:zy:=Lz [] [.s 2 (.wi 39 []),Mm 9 (.sl q8),Mi 10] SI [Yb] λp s=>nG (λz0=>mD z0) p.2.1 p.2.2 s
def h38:Hints:=Hz [(0,z3m)] [] []
theorem zem:LO Tryz.f38 z3m 0:=lk t293 rn h38 [] zg
theorem zr4:zw Pz 38 ⟨[.ty .str,.ty (.sl q8),.wi 39 []],[.str],λx=>iN x.1 x.2.1 (λz0=>mD z0)⟩:=we t293 rn h38 func38 [0] (qc rfl zem zg)
def t294:=t293.d zr4
theorem zqK:zw Pz 17 ⟨[.ty xn],[.str],λx=>cr x⟩:=we t294 (rz [1]) hN func17 [] zg
def t295:=t294.d zqK
def h95:Hints:=Hz [] [(0,1,.Bh)] []
theorem znj:xw Pz 95 ⟨[.any],⟨[Mm 0 (.sl .str)],[],[]⟩,[],Vr,1,λx=>wT x⟩:=eZ t295 rn h95 func95 [] zg
def t296:=t295.s znj
theorem zrD:zw Pz 78 ⟨[.ty kS,.ty .str],[kS],λx=>Wv x.1 x.2⟩:=we t296 (rz [2]) hN func78 [] zg
def t297:=t296.d zrD
theorem zr6:xw Pz 40 ⟨[.ptr,.any,.any,.any],⟨[Mm 1 xn,Mm 2 (.sl .str),Mi 3,.v (.qj qy)],[(0,.ptr 0 0)],ZL⟩,[],JF,1,λx=>vy x.1 x.2.1 x.2.2.1 x.2.2.2⟩:=eZ t297 (rz [5]) hN func40 [] zg
def t298:=t297.s zr6
def h42:Hints:=Hz [] [(0,6,.flat [Mb 26]),(0,8,.flat [Mb 37]),(3,12,.ways [⟨.normal,⟨[.v (.qj xn),.a zm,.a .bool,.a zm,.a i64,.a q8,.a .bool,.v z5z],[],[.var (.qj xn),.arr zm,.arr .bool,.arr zm,.arr i64,.arr q8,.arr .bool,.var z5z]⟩⟩])] [(14,[1007000,1007001,1007002,1007003,1007004,1007005])]
theorem zr8:zw Pz 42 ⟨[.ty qv,.ty xn,.ty .str,.ty .bool],[xn,(.sl .str),i64],λx=>Q1 x.1 x.2.1 x.2.2.1 x.2.2.2⟩:=we t298 (rz [4,5]) h42 func42 [] zg
def t299:=t298.d zr8
theorem zrL:zw Pz 87 ⟨[.ty qe,.rp .str],[.bool],λx=>gK x.1 x.2⟩:=we t299 (rz [2]) hN func87 [] zg
def t300:=t299.d zrL
def Ia:zy:=Lz [] [Mm 0 (.sl qe),.s 1 (.wi 87 [.rp .str]),Mi 7] cO [jW,oe] λp s=>j9 p.1 (λz0=>gK z0 p.2.1) p.2.2 s
def zbl:Hints:=Hz [(0,Ia)] [] []
theorem z2U:LO Tryz.f86 Ia 0:=lk t300 rn zbl [] zg
theorem z4p:zw Pz 86 ⟨[.ty (.sl qe),.wi 87 [.rp .str]],[i64],λx=>vL x.1 (λz0=>gK z0 x.2)⟩:=we t300 rn zbl func86 [0] (qc rfl z2U zg)
def t301:=t300.d z4p
def I7:zy:=Lz [.cell 5 7 i64] [Mi 53] ⟨[Mi 54,.a i64,.v Lk,.a zq,.a i64,.v EA,.v zb5,.a i64],[(3,.ptr 1 0),(10,.ptr 5 0),(52,.cur 3 i64)],z5u⟩ [⟨.exit 1,zcs⟩] λp s=>mA p s
def I8:zy:=Lz [] [Mm 74 (.sl q8),Mi 75] ⟨[Mi 76,.a i64,.v Lk,.a zq,.a i64,.v EA,.v zb5,.a i64],[(10,.ptr 5 0)],z5u⟩ [⟨.exit 3,zcs⟩] λp s=>mB p.1 p.2 s
def z29:Hints:=Hz [(1,I7),(3,I8)] [(0,4,.flat [Mb 30]),(3,19,.flat [Mi 15])] []
theorem z2R:LO Tryz.f82 I7 1:=lk t301 (rz [2]) z29 [] zg
theorem z2S:LO Tryz.f82 I8 3:=lk t301 (rz [2]) z29 [] zg
theorem z4n:jx Pz 82 ⟨[.any,.agg],⟨[Mm 0 qv,.s 1 Lk,.a i64],[],jV⟩,[],⟨[Mi 2,.a i64,.v zcl,.a zq,.a i64,.a i64],[(0,.ptr 1 0),(1,.wF)],[.arr i64,.var zcl,.arr zq,.arr i64,.arr i64]⟩,3,0,⟨[.s 1 (.tight .str),Mi 2,.a i64],[(0,.bq)],jV⟩,some 3,λx=>eX x.1 x.2.1 x.2.2⟩:=Yg t301 (rz [2]) z29 func82 [1,3] (qc rfl z2R (qc rfl z2S zg))
def t302:=t301.p z4n
def PT:zy:=Lz [] [Mm 0 (.sl u32),Mm 1 (.sl u32),Mi 12] z69 [jW,JH] λp s=>gD p.1 p.2.1 p.2.2 s
def zhq:Hints:=Hz [(0,PT)] [] []
theorem z9u:LO Tryz.f276 PT 0:=lk t302 rn zhq [] zg
theorem zlV:zw Pz 276 ⟨[.ty (.sl u32),.ty (.sl u32)],[.bool],λx=>jD x.1 x.2⟩:=we t302 rn zhq func276 [0] (qc rfl z9u zg)
def t303:=t302.d zlV
theorem zl5:zw Pz 215 ⟨[.ty zm,.ty zm],[.bool],λx=>XX x.1 x.2⟩:=we t303 rn hN func215 [] zg
def t304:=t303.d zl5
theorem zl7:zw Pz 217 ⟨[.ty qk,.ty qk],[.bool],λx=>nB x.1 x.2⟩:=we t304 (rz [2,3]) hN func217 [] zg
def t305:=t304.d zl7
def Pm:zy:=Lz [] [Mm 1 (.sl qk),.s 2 (.wi 217 []),Mm 15 (.sl qk),Mi 16] ⟨[Mi 17],[],[]⟩ [jW,⟨.ret,⟨[Mb 6],[],[]⟩⟩] λp s=>uY p.1 (λz0 z1=>nB z0 z1) p.2.2.1 p.2.2.2 s
def zh8:Hints:=Hz [(0,Pm)] [] []
theorem z98:LO Tryz.f216 Pm 0:=lk t305 rn zh8 [] zg
theorem zl6:zw Pz 216 ⟨[.ty (.sl qk),.ty (.sl qk),.wi 217 []],[.bool],λx=>jC x.1 x.2.1 (λz0 z1=>nB z0 z1)⟩:=we t305 rn zh8 func216 [0] (qc rfl z98 zg)
def t306:=t305.d zl6
theorem zkf:zw Pz 150 ⟨[.ty zq,.ty zq],[.bool],λx=>Uq x.1 x.2⟩:=we t306 (rz [2,3]) hN func150 [] zg
def t307:=t306.d zkf
def T88:Tb:=(t307.p zni).p z4n
def z3O:zy:=Lz [] [Mr 3 qv,Mi 42] ⟨[Mi 43,.a i64,.v CU,.v (.qj xn),.v CR,.a zq,.a i64,.a i64,.v CQ,.a zq,.a i64,.a i64],[(5,.ptr 6 0),(6,.ptr 7 0),(9,.ptr 8 0),(12,.ptr 12 0)],[.dead,.dead,.dead,.arr i64,.dead,.dead,.var CU,.var (.qj xn),.var CR,.arr zq,.arr i64,.arr i64,.var CQ,.arr zq,.arr i64,.arr i64]⟩ [⟨.exit 0,⟨[.a i64,.v CU,.v (.qj xn),.v CR,.a zq,.a i64,.a i64,.v CQ,.a zq,.a i64,.a i64],[],[.dead,.dead,.dead,.arr i64,.dead,.dead,.var CU,.var (.qj xn),.var CR,.arr zq,.arr i64,.arr i64,.var CQ,.arr zq,.arr i64,.arr i64]⟩⟩] λp s=>oz p.1 p.2 s
def h88:Hints:=Hz [(0,z3O)] [(0,11,.ways [⟨.normal,⟨[Mb 81,.a i64,.v CU,.v (.qj xn),.v CR,.a zq,.a i64,.a i64,.v CQ,.a zq,.a i64,.a i64],[],[.dead,.dead,.dead,.arr i64,.dead,.dead,.var CU,.var (.qj xn),.var CR,.arr zq,.arr i64,.arr i64,.var CQ,.arr zq,.arr i64,.arr i64]⟩⟩])] [(4,[1006000,1006001,1006002,1006004,1006005]),(14,[1006003])]
theorem zeO:LO Tryz.f88 z3O 0:=lk T88 (rz [3,4]) h88 [] zg
theorem zrM:xw Pz 88 ⟨[.any,.any,.agg],⟨[Mm 0 qv,Mm 1 xn,.s 2 z5C,.a zm,.a .bool,.a zm,.a i64,.a q8,.a .bool],[],z5x⟩,[],⟨[.s 0 (.st [.row 6 zm,.row 7 .bool,.im (.sl zm),.row 8 i64,.row 9 q8,.row 10 .bool]),Mm 1 (.sl .str),Mi 2,.a zm,.a .bool,.a i64,.a q8,.a .bool],[],[.dead,.dead,.dead,.dead,.dead,.dead,.arr zm,.arr .bool,.arr i64,.arr q8,.arr .bool]⟩,3,λx=>iH x.1 x.2.1 x.2.2.1 x.2.2.2.1 x.2.2.2.2.1 x.2.2.2.2.2.1 x.2.2.2.2.2.2.1 x.2.2.2.2.2.2.2.1 x.2.2.2.2.2.2.2.2⟩:=eZ T88 (rz [3,4]) h88 func88 [0] (qc rfl zeO zg)
def t308:=t307.s zrM
theorem zr9:zw Pz 43 ⟨[.ty qv,.ty xn,.ty .str,.ty zm],[xn,(.sl .str),i64],λx=>pC x.1 x.2.1 x.2.2.1 x.2.2.2⟩:=we (t308.d z4p) (rz [4,5,6,7]) hN func43 [] zg
def t309:=t308.d zr9
theorem zrP:zw Pz 90 ⟨[.ty ql,.rp .str],[.bool],λx=>yK x.1 x.2⟩:=we t309 (rz [2]) hN func90 [] zg
def t310:=t309.d zrP
def Ig:zy:=Lz [] [Mm 0 (.sl ql),.s 1 (.wi 90 [.rp .str]),Mi 7] cO [jW,oe] λp s=>v8 p.1 (λz0=>yK z0 p.2.1) p.2.2 s
def zbp:Hints:=Hz [(0,Ig)] [] []
theorem z2Y:LO Tryz.f89 Ig 0:=lk t310 rn zbp [] zg
theorem z4t:zw Pz 89 ⟨[.ty (.sl ql),.wi 90 [.rp .str]],[i64],λx=>wb x.1 (λz0=>yK z0 x.2)⟩:=we t310 rn zbp func89 [0] (qc rfl z2Y zg)
def t311:=t310.d z4t
theorem zra:zw Pz 44 ⟨[.ty qv,.ty xn,.ty .str,.ty .bool],[xn,(.sl .str),i64],λx=>ng x.1 x.2.1 x.2.2.1 x.2.2.2⟩:=we (t311.d z4t) (rz [4,5,6]) hN func44 [] zg
def t312:=t311.d zra
theorem zrd:xw Pz 48 ⟨QP,⟨[Mi 1,Mi 2,.v (.qj qy)],[(0,.ptr 0 0)],ZL⟩,[],JF,1,λx=>jS x.1 x.2.1 x.2.2⟩:=eZ t312 rn hN func48 [] zg
def t313:=t312.s zrd
theorem znf:xw Pz 45 ⟨[.ptr,.wi 46],⟨[.s 1 (.wi 46 []),.v (.qj qy)],[(0,.ptr 0 0)],ZL⟩,[],JF,1,λx=>jg (λz0 z1 z2=>rq z0 z1 z2) x.2⟩:=eZ t313 rn hN func45 [] zg
def t314:=t313.s znf
theorem z4k:xw Pz 45 ⟨[.ptr,.wi 47],⟨[.s 1 (.wi 47 []),.v (.qj qy)],[(0,.ptr 0 0)],ZL⟩,[],JF,1,λx=>jg (λz0 z1 z2=>rm z0 z1 z2) x.2⟩:=eZ t314 rn hN func45 [] zg
def t315:=t314.s z4k
theorem zrR:zw Pz 93 ⟨[.ty xk,.rp .str],[.bool],λx=>eF x.1 x.2⟩:=we t315 (rz [2]) hN func93 [] zg
def t316:=t315.d zrR
def Ih:zy:=Lz [] [Mm 0 (.sl xk),.s 1 (.wi 93 [.rp .str]),Mi 7] cO [jW,oe] λp s=>yx p.1 (λz0=>eF z0 p.2.1) p.2.2 s
def zbq:Hints:=Hz [(0,Ih)] [] []
theorem z2Z:LO Tryz.f92 Ih 0:=lk t316 rn zbq [] zg
theorem z4u:zw Pz 92 ⟨[.ty (.sl xk),.wi 93 [.rp .str]],[i64],λx=>uZ x.1 (λz0=>eF z0 x.2)⟩:=we t316 rn zbq func92 [0] (qc rfl z2Z zg)
def t317:=t316.d z4u
theorem zre:zw Pz 49 ⟨[.ty qv,.ty (.sl .bool),.ty .str],[i64,i64],λx=>WI x.1 x.2.1 x.2.2⟩:=we (t317.d z4u) (rz [3,5]) hN func49 [] zg
def t318:=t317.d zre
def zhP:Hints:=Hz [] [(0,1,.Bh)] []
theorem MY:zw Pz 95 ⟨[.ty (.sl .str)],[(.sl .str)],λx=>wS x⟩:=we t318 rn zhP func95 [] zg
def t319:=t318.d MY
theorem zrT:zw Pz 96 ⟨[.ty (.sl .str),.ty (.sl .str),.ty .str],[(.sl .str),(.sl .str),.str],λx=>Zq x.1 x.2.1 x.2.2⟩:=we (t319.s znj) rn hN func96 [] zg
def t320:=t319.d zrT
theorem zrf:zw Pz 51 ⟨[.ty kS,.ty .str],[kS,.str,.bool],λx=>Zp x.1 x.2⟩:=we (t320.d MY) (rz [2]) hN func51 [] zg
def t321:=t320.d zrf
theorem zli:jx Pz 228 ⟨[.any],z6e,[],Kq,0,352,Wh,none,λx=>uA x⟩:=Yg t321 rn hN func228 [] zg
def t322:=t321.p zli
theorem zlW:jx Pz 277 ⟨[.ptr],⟨[.v (.qj jI)],[(0,.ptr 0 0)],Lj⟩,[],⟨[Ms 0,.v (.qj jI)],[],Lj⟩,1,352,z5U,none,λx=>bE x⟩:=Yg t322 rn hN func277 [] zg
def t323:=t322.p zlW
theorem zla:jx Pz 220 ⟨ob,⟨[Ms 1,.v (.qj jI)],[(0,.ptr 0 0)],Lj⟩,[],⟨[Mm 0 (.sl .str),.v (.qj jI)],[],Lj⟩,1,352,z5U,none,λx=>wQ x.1 x.2⟩:=Yg t323 rn hN func220 [] zg
def t324:=t323.p zla
theorem zlb:jx Pz 221 ⟨[.any],X7,[],⟨[Mm 0 zm],[],[]⟩,1,352,Wh,none,λx=>dI x⟩:=Yg t324 rn hN func221 [] zg
def t325:=t324.p zlb
def Po:zy:=Lz [.slot 5 zm] [Mm 8 (.sl .str),Mi 9] ⟨[Mi 10,.a zm],[(1,.wi 221 []),(5,.cur 0 zm)],Z7⟩ [⟨.exit 0,⟨[.a zm],[(5,.cur 0 zm)],Z7⟩⟩,⟨.bC (.iface 352 .vb),⟨[Mm 0 .nil,.a zm],[],Z7⟩⟩] λp s=>gQ p.1 p.2 s
def zh9:Hints:=Hz [(0,Po)] [] []
theorem z99:LO Tryz.f219 Po 0:=lk t325 rn zh9 [] zg
theorem zl9:jx Pz 219 ⟨[.any,.wi 221],⟨[Mm 0 (.sl .str),.s 1 (.mclo 221 [])],[],[]⟩,[],z63,1,352,Wh,none,λx=>uQ x.1 x.2⟩:=Yg t325 rn zh9 func219 [0] (qc rfl z99 zg)
def t326:=t325.p zl9
theorem zld:jx Pz 223 ⟨[.any],X7,[],z6e,1,352,Wh,none,λx=>ni x⟩:=Yg t326 rn hN func223 [] zg
def t327:=t326.p zld
def Pp:zy:=Lz [.slot 5 .bool] [Mm 8 (.sl .str),Mi 9] ⟨[Mi 10,.a .bool],[(1,.wi 223 []),(5,.cur 0 .bool)],[.arr .bool]⟩ [z6v,⟨.bC (.iface 352 .vb),⟨[Mm 0 .nil,.a .bool],[],[.arr .bool]⟩⟩] λp s=>gR p.1 p.2 s
def zhb:Hints:=Hz [(0,Pp)] [] []
theorem z9a:LO Tryz.f222 Pp 0:=lk t327 rn zhb [] zg
theorem zlc:jx Pz 222 ⟨[.any,.wi 223],⟨[Mm 0 (.sl .str),.s 1 (.mclo 223 [])],[],[]⟩,[],z61,1,352,Wh,none,λx=>uR x.1 x.2⟩:=Yg t327 rn zhb func222 [0] (qc rfl z9a zg)
def t328:=t327.p zlc
end Go.AM.Lf
namespace Go.AM
open Go.AM.Lf Go.RowKit Go.Proofs
theorem Fa(w:World)(e:TypeId)(s:ByteArray):Below w.heap.size w (Go.Lib.bytesWorld w e s):=by
 refine⟨rfl,rfl,rfl,?_,λb J=>Go.Lib.bytesWorld_at_old w e s b J⟩
 simp[Go.Lib.bytesWorld,World.freeze,World.alloc,World.drew,-World.alloc_eq,-World.drew_eq]
theorem Fp:∀ (l:List UInt8) (acc k:Nat),l.length+k<=18->acc<10 ^ k->(∀ b∈l,48<=b.toNat/\b.toNat<=57)->qO acc l=.ok (l.foldl (λn b=>n*10+(b.toNat-48)) acc)
 | [],acc,_,_,_,_=>rfl
 | c::l,acc,k,hk,ha,V=>by
  have h1:=V c qC
  rw[zK]at hk
  have e:=Nat.pow_le_pow_right (show 0<10 by omega) (show k<=17 by omega)
  rw[qO,if_pos h1,if_neg (by omega),if_neg (by omega),Fp l _ (k+1) (by omega) (by rw[Nat.pow_succ]; omega) λb J=>V b (qJ _ J)]
  rfl
theorem zbf:∀ (l:List UInt8) (acc k:Nat),acc<10 ^ k->(∀ b∈l,48<=b.toNat/\b.toNat<=57)->l.foldl (λn b=>n*10+(b.toNat-48)) acc<10 ^ (k+l.length)
 | [],acc,k,ha,_=>ha
 | c::l,acc,k,ha,V=>by
  have h1:=V c qC
  have:=zbf l (acc*10+(c.toNat-48)) (k+1) (by rw[Nat.pow_succ]; omega) λb J=>V b (qJ _ J)
  rwa [zK,show k+(l.length+1)=k+1+l.length by omega]
theorem z7p{s:zn}(h0:s≠[])(h1:s.length<=18)(V:∀ b∈s,48<=b.toNat/\b.toNat<=57):Go.Lib.atoiAll s=.ok (dgV s:Int):=by
 cases s with
 | nil=>exact absurd rfl h0
 | cons c r =>
  have hc:=V c qC
  have hp:=Fp (c::r) 0 0 (by omega) (by omega) V
  have B:=zI (zbf (c::r) 0 0 (by omega) V) (Nat.pow_le_pow_right (show 0<10 by omega) (show 0+(c::r).length<=18 by omega))
  unfold Go.Lib.atoiAll
  simp only[if_neg (show ¬ (c.toNat=43\/c.toNat=45) by omega),Go.Lib.parseMag,if_neg (List.cons_ne_nil c r),hp]
  have hn:¬ c.toNat=45:=by omega
  simp only[hn,not_false_eq_true,true_and,false_and,if_false]
  rw[if_neg (by omega)]
  rfl
theorem zmv:xw Tryz.prog 320 ⟨[.any],X7,[],⟨[.s 0 (.qj i64)],[(1,.vb)],[]⟩,2,λx=>strconv_Atoi x⟩:=by
 intro O x xa y ud hy hI hlen hR
 obtain⟨⟨⟨h0,h1⟩,X⟩,rfl⟩:=hy
 obtain⟨v0,hv0,hd0⟩:=hR.get 0 (.qj .str x) rfl
 have fV:xa.toArray = #[.string ⟨x.toArray⟩]:=by
  match xa,hlen with
  | [a],_ =>
   simp at hv0
   rw[hv0,hd0.jq]
 rw[fV]
 refine .inl ⟨oj Tryz.func320 (by kernel_rfl) rfl O.w,(Go.Proofs.Tryz.strconv_Atoi_ok ⟨x.toArray⟩ (by rw[show(zF ⟨x.toArray⟩)=zH x from Y]; omega) (dgV x:Int) (z7p h0 h1 X) O.w).mono ?_⟩
 rintro e w' ⟨rfl,hw⟩
 have hB:Below O.w.heap.size O.w w':=hw.elim (λh=>h▸ZS _) λ⟨t,h⟩=>h▸Fa _ _ _
 obtain⟨g1,g2⟩:=FG hI ud hB
 refine⟨O.grown w',[.qj i64 (dgV x:Int),.vb],rfl,ud,g1,g2,rfl,_,rfl,.fj _ _ rfl λi h1 X => ?_⟩
 match i with
 | 0=>exact RD.int
 | 1=>exact RD.vb

end Go.AM
namespace Go.AM.Lf
open Go.Proofs Go.Proofs.Tryz
def t329:=t328.s zmv
def zp7:Hints:=Hz [] [(0,1,.ways [⟨.normal,Kq⟩,⟨.bC (.iface 352 .vb),Wh⟩])] []
theorem zlX:jx Pz 278 ⟨[.any],X7,[],z6b,1,352,Wh,none,λx=>nh x⟩:=Yg t329 rn zp7 func278 [] zg
def t330:=t329.p zlX
theorem zlf:jx Pz 225 ⟨[.any],X7,[],z6b,1,352,Wh,none,λx=>nj x⟩:=Yg t330 rn hN func225 [] zg
def t331:=t330.p zlf
def Pq:zy:=Lz [.slot 5 i64] [Mm 8 (.sl .str),Mi 9] ⟨[Mi 10,.a i64],[(1,.wi 225 []),(5,.cur 0 i64)],jV⟩ [⟨.exit 0,⟨[.a i64],[(5,.cur 0 i64)],jV⟩⟩,⟨.bC (.iface 352 .vb),⟨[Mm 0 .nil,.a i64],[],jV⟩⟩] λp s=>bB p.1 p.2 s
def zhc:Hints:=Hz [(0,Pq)] [] []
theorem z9b:LO Tryz.f224 Pq 0:=lk t331 rn zhc [] zg
theorem zle:jx Pz 224 ⟨[.any,.wi 225],⟨[Mm 0 (.sl .str),.s 1 (.mclo 225 [])],[],[]⟩,[],NP,1,352,Wh,none,λx=>y9 x.1 x.2⟩:=Yg t331 rn zhc func224 [0] (qc rfl z9b zg)
def t332:=t331.p zle
def zpk:Hints:=Hz [] [(0,1,.flat [Mb 4])] []
theorem zmY:zw Pz 362 ⟨[.ty .str,.ty .str],[.bool],λx=>kg x.1 x.2⟩:=we t332 rn zpk func362 [] zg
def t333:=t332.d zmY
theorem zmw:zw Pz 321 ⟨[.ty .str,.ty .str],[.str,.bool],λx=>ke x.1 x.2⟩:=we t333 rn hN func321 [] zg
def t334:=t333.d zmw
theorem zlY:zw Pz 279 ⟨[.ty .str,.ty .str],[.str,.bool],λx=>strings_CutSuffix x.1 x.2⟩:=we t334 rn hN func279 [] zg
def t335:=t334.d zlY
theorem zlh:jx Pz 227 ⟨[.any],X7,[],⟨[Mm 0 q8],[],[]⟩,1,352,Wh,none,λx=>nk x⟩:=Yg t335 rn hN func227 [] zg
def t336:=t335.p zlh
def Pr:zy:=Lz [.slot 5 q8] [Mm 8 (.sl .str),Mi 9] ⟨[Mi 10,.a q8],[(1,.wi 227 []),(5,.cur 0 q8)],[.arr q8]⟩ [⟨.exit 0,⟨[.a q8],[(5,.cur 0 q8)],[.arr q8]⟩⟩,⟨.bC (.iface 352 .vb),⟨[Mm 0 .nil,.a q8],[],[.arr q8]⟩⟩] λp s=>yF p.1 p.2 s
def zhd:Hints:=Hz [(0,Pr)] [] []
theorem z9c:LO Tryz.f226 Pr 0:=lk t336 rn zhd [] zg
theorem zlg:jx Pz 226 ⟨[.any,.wi 227],⟨[Mm 0 (.sl .str),.s 1 (.mclo 227 [])],[],[]⟩,[],z5T,1,352,Wh,none,λx=>jy x.1 x.2⟩:=Yg t336 rn zhd func226 [0] (qc rfl z9c zg)
def t337:=t336.p zlg
theorem zl8:cX (NV Pz) 218 ⟨[.ptr],⟨[.v (.qj i64)],[(0,.ptr 0 0)],NL⟩,[],z68,0,λx=>iJ x⟩:=fkr t337 rn hN Tryz.func218
theorem zah:cX (SN Pz 352) 218 ⟨ob,⟨[Mm 1 .nil,.v (.qj i64)],[(0,.ptr 0 0)],NL⟩,[],z68,0,λx=>wD x.1 x.2⟩:=fkh t337 rn hN Tryz.func218 1
theorem zkg:xw Pz 152 ⟨[.any],X7,[],⟨[.s 0 z5C,Mi 1,.a zm,.a .bool,.a zm,.a i64,.a q8,.a .bool],[],z5x⟩,2,λx=>pE x⟩:=fkf t337 rn hN (g:=218) (pt:=352) zl8 zah Tryz.func152
def t338:=t337.s zkg
theorem zrS:zw Pz 94 ⟨[.ty qv,.ty .str],[xn,i64],λx=>tw x.1 x.2⟩:=we t338 (rz [2]) hN func94 [] zg
def t339:=t338.d zrS
theorem zng:xw Pz 50 ⟨[.ptr,.wi 51],⟨[.s 1 (.wi 51 []),.v (.qj qy)],[(0,.ptr 0 0)],ZL⟩,[],JF,1,λx=>uT (λz0 z1=>Zp z0 z1) x.2⟩:=eZ t339 rn hN func50 [] zg
def t340:=t339.s zng
theorem zrg:zw Pz 52 ⟨[.ty kS,.ty .str],[kS,.str,.bool],λx=>Zo x.1 x.2⟩:=we (t340.d MY) (rz [2]) hN func52 [] zg
def t341:=t340.d zrg
theorem z4l:xw Pz 50 ⟨[.ptr,.wi 52],⟨[.s 1 (.wi 52 []),.v (.qj qy)],[(0,.ptr 0 0)],ZL⟩,[],JF,1,λx=>uT (λz0 z1=>Zo z0 z1) x.2⟩:=eZ t341 rn hN func50 [] zg
def t342:=t341.s z4l
theorem zmx:zw Pz 322 ⟨[.ty .str,.ty wM,.ty (.sl zm)],[zm,i64],λx=>Ur x.1 x.2.1 x.2.2⟩:=we t342 (rz [4]) hN func322 [] zg
def t343:=t342.d zmx
theorem zm0:zw Pz 281 ⟨[.ty zm,.ty zm],[zm],λx=>Jm x.1 x.2⟩:=we t343 (rz [2,3]) hN func281 [] zg
def t344:=t343.d zm0
abbrev zgr:=eJ [.ty .expr,.ty wM,.ty (.sl zm)]->T (ED [zm,i64])
abbrev zow(F:zgr):=zw Pz 280 ⟨[.ty .expr,.ty wM,.ty (.sl zm)],[zm,i64],F⟩
theorem zaj(BC:zgr)(z2d:zow BC):zw Pz 280 ⟨[.ty .expr,.ty wM,.ty (.sl zm)],[zm,i64],λx=>yl (λy0 y1 y2=>BC (y0,y1,y2)) x.1 x.2.1 x.2.2⟩:=we (t344.d z2d) (rz [3,4]) hN func280 [] zg
theorem zlZ:zw Pz 280 ⟨[.ty .expr,.ty wM,.ty (.sl zm)],[zm,i64],λx=>ZQ x.1 x.2.1 x.2.2⟩:=Gl (λBC x=>yl (λy0 y1 y2=>BC (y0,y1,y2)) x.1 x.2.1 x.2.2) (λx=>rfl) (λBC z2d=>zaj BC z2d)
def t345:=t344.d zlZ
theorem zlk:zw Pz 230 ⟨[.ty .expr,.ty wM,.ty (.sl zm)],[zm,i64],λx=>Zb x.1 x.2.1 x.2.2⟩:=we t345 (rz [3,4]) hN func230 [] zg
def t346:=t345.d zlk
theorem zll:zw Pz 231 ⟨[.ty zm,.ty zm],[i64],λx=>YK x.1 x.2⟩:=we t346 (rz [2,3]) hN func231 [] zg
def t347:=t346.d zll
def zoS:Hints:=Hz [] [(0,3,.flat [Mb 33])] []
theorem zki:zw Pz 154 ⟨[.ty xi,.ty wM,.ty (.sl zm)],[.bool],λx=>pQ x.1 x.2.1 x.2.2⟩:=we t347 (rz [3,4]) zoS func154 [] zg
def t348:=t347.d zki
end Go.AM.Lf
