/-
  The walk, part 0: each function of the program is the tree that the lifted text says; printed by a program of ours.
-/
import Derived.Test.YtgminpdghejlhaaGreatDoorProg
import Derived.KernelRfl
import Derived.Test.YtgminpdghejlhaaGreatDoorAmE
import Derived.Test.YtgminpdghejlhaaGreatDoorLf1
import Derived.Lib.Builder
import Derived.Shelf.Strings.Builder1
import Derived.WalkKit
import Derived.TacticsInMore
import Derived.Maps.OwnOps
import Derived.Maps.AppendAt
import Derived.StringKeys
import Derived.Maps.Views
import Derived.Shelf.Strings.FieldsFuncAny
import Derived.RangeFuncBox
import Derived.RangeFuncLeaves
import Derived.RangeFuncNested
import Derived.Shelf.Abstract
import Derived.OwnWalkIn
import Derived.LoopNIn
import Derived.LoopIn
import Derived.Lib.AtoiAll
import Derived.Lib.ConvBytes
import Derived.Test.YtgminpdghejlhaaGreatDoorSh
set_option linter.unusedVariables false
open Go.Obj renaming cells -> zA
open List renaming size_toArray -> Y, length -> zH, length_cons -> zK, append_toArray -> zS, getElem?_eq_getElem -> zT, push_toArray -> zV, take_succ_eq_append_getElem -> zW, cons_append -> zX, eq_nil_of_length_eq_zero -> zY, length_nil -> zZ, nil_append -> qA, mem_cons_self -> qC, mem_cons_of_mem -> qJ
open Go.Value renaming int -> I, pointer -> zG, bool -> zM, slice -> qM, agg -> qR
open Nat renaming le_refl -> W, lt_of_lt_of_le -> zI, reduceAdd -> qE, reduceSub -> qF, zero_le -> qK
open Option renaming none -> zE, map_eq_some_iff -> qG
open ByteArray renaming size -> zF
open Go.Builtin renaming unsafeSliceData_ -> zJ, append_ -> zU, zeroCells -> qD, unsafeString_ -> qI, firstCells -> qN
open Go.World renaming size_alloc -> zL
open Go.Oper renaming semAt_some -> zN, upon_value -> qH
open Array renaming replicate_succ -> zO, replicate_zero -> zP
open Go.Lib renaming cell_of_heap -> zQ, run_unsafeSliceData_row -> qB, parseUint10 -> qO, pow10Tab -> qP
open Go.KeepsOthers renaming setCell -> zR
open Go.Result renaming andThen -> qL
open Go.Boxed renaming new -> qQ
set_option maxRecDepth 100000
noncomputable section
namespace Go.AM.Lf
open Go.Proofs Go.Proofs.Tryz
abbrev L7:Nat:=68
noncomputable abbrev Pz:Program:=Tryz.prog
def yg(f:Func):Code:=match f.body with | some c=>c | none=>.skip
def lb(k:Nat)(f:Func):Code:=match Vr k (yg f)with | some c=>c | none=>.skip
theorem mixed:Pz.follows .mixedOrders=true:=by kernel_rfl
instance:gB:={ u8:=5,tab:=[(4,FA .u64 qP),(0,Di .i64)] }
theorem iw{O:KS}(hI:Inv O):Lib.TabIs Tryz.prog O.w "internal/strconv.uint64pow10" .u64 qP :=
 zex (g:=4) (by kernel_rfl) (hI.gl (4,FA .u64 qP) (by simp[gB.tab])).2
theorem yi{O:KS}(hI:Inv O):∃ m,O.w.cell? ⟨0,0,none⟩=some (.int .i64 m) :=
 SN (hI.gl (0,Di .i64) (by simp[gB.tab])).2
structure Tb where
 t:mf
 ok:eQ Pz t
def Tb.d(T:Tb){g:Nat}{d:Ek}(h:zy Pz g d):Tb:=⟨(g,.d d)::T.t,N0 h T.ok⟩
def Tb.s(T:Tb){g:Nat}{d:bC}(h:xx Pz g d):Tb:=⟨(g,.s d)::T.t,Iw h T.ok⟩
def Tb.p(T:Tb){g:Nat}{d:me}(h:jK Pz g d):Tb:=⟨(g,.p d)::T.t,Iv h T.ok⟩
def t0:Tb:=⟨[],TI _⟩
def fL:List (Nat×q8)->Nat->Option q8
 | [],_=>none
 | x::r,n=>bif Nat.beq x.1 n then some x.2 else fL r n
def fC:List (Nat×Nat×z6f)->Nat->Nat->Option z6f
 | [],_,_=>none
 | x::r,k,n=>bif Nat.beq x.1 k&&Nat.beq x.2.1 n then some x.2.2 else fC r k n
def fF:List (Nat×List Nat)->Nat->List Nat
 | [],_=>[]
 | x::r,n=>bif Nat.beq x.1 n then x.2 else fF r n
def Hz(l:List (Nat×q8))(c:List (Nat×Nat×z6f))(f:List (Nat×List Nat)):Hints:=⟨fL l,fC c,fF f⟩
def hN:Hints:=Hz [] [] []
def rz(l:List Nat)(s:Nat):Bool:=l.any (Nat.beq s)
def rn(_:Nat):Bool:=false
def Lz(gh:List Gh)(ps:List It)(sh:uz)(ws:List Way)(oE:kc ps->sh.den->T (sh.den⊕iG ws)):q8:=⟨gh,ps,sh,ws,λp s=>T.loop (oE p) s⟩
abbrev LO(f:Func)(l:q8)(i:Nat):Prop:=U0 Pz f.ntmps l (lb i f)
def ls(f:Func):List Nat->List (Nat×Code)
 | []=>[]
 | i::r=>(i,lb i f)::ls f r
abbrev Mi(n:Nat):It:=.s n (.qi i64)
abbrev Mb(n:Nat):It:=.s n (.qi .bool)
abbrev Ms(n:Nat):It:=.s n (.qi .str)
abbrev Mm(n:Nat)(t:Ty):It:=.s n (.qi t)
abbrev Mr(n:Nat)(t:Ty):It:=.s n (.vE t)
abbrev Sh0(l:List It):uz:=⟨l,[],[]⟩
theorem lk{f:Func}{i:Nat}{gh:List Gh}{ps:List It}{sh:uz}{ws:List Way}{oE:kc ps->sh.den->T (sh.den⊕iG ws)}(T:Tb)(ro:Nat->Bool)(H:Hints)(L:List Nat)(ha:Cv Pz f.ntmps H (ls f L))
  (h:∀ p s,z48 (bg Pz L7 T.t ro) T.t f.ntmps H (Lz gh ps sh ws oE) (lb i f) p s=oE p s:=by intro p s; kernel_rfl) (B:uh (lb i f)=ls f L:=by kernel_rfl):LO f (Lz gh ps sh ws oE) i :=
 z9d (xid:=L7) (ro:=ro) (H:=H) mixed T.ok (UE B ha) oE h λ_ _=>rfl
theorem wv{f:Nat}{fn:Func}{d:Ek}(T:Tb)(ro:Nat->Bool)(H:Hints)(hf:Pz.funcs[f]? = some fn)(L:List Nat)(ha:Cv Pz fn.ntmps H (ls fn L))
  (h:∀ x,z0S (bg Pz L7 T.t ro) T.t H fn (yg fn) d x=d.F x:=by intro x; kernel_rfl) (J:fn.body=some (yg fn):=by rfl) (hn:(fn.name == "runtime.NumGoroutine")=false:=by kernel_rfl) (B:uh (yg fn)=ls fn L:=by kernel_rfl):zy Pz f d :=
 zfI (xid:=L7) (ro:=ro) (H:=H) mixed T.ok hf J hn (UE B ha) h
theorem eP{f:Nat}{fn:Func}{d:bC}(T:Tb)(ro:Nat->Bool)(H:Hints)(hf:Pz.funcs[f]? = some fn)(L:List Nat)(ha:Cv Pz fn.ntmps H (ls fn L))
  (h:∀ x,LG (bg Pz L7 T.t ro) T.t H fn (yg fn) d x=d.F x:=by intro x; kernel_rfl) (J:fn.body=some (yg fn):=by rfl) (hn:(fn.name == "runtime.NumGoroutine")=false:=by kernel_rfl) (B:uh (yg fn)=ls fn L:=by kernel_rfl):xx Pz f d :=
 zco (xid:=L7) (ro:=ro) (H:=H) mixed T.ok hf J hn (UE B ha) h
def hdB(c:Code):Code:=match c with | .seq _ b=>b | _=>.skip
def hdO(c:Code):Array Oper:=match c with | .seq (.region _ ops _) _=>ops | _ => #[]
def hdI(c:Code):Nat:=match c with | .seq (.region id _ _) _=>id | _=>0
theorem fkr{f:Nat}{fn:Func}{d:bC}(T:Tb)(ro:Nat->Bool)(H:Hints)(hf:Pz.funcs[f]? = some fn)
  (h:∀ x,evH (bg Pz L7 T.t ro) T.t H fn (hdO (yg fn)) (hdB (yg fn)) d d.ks.length none x=d.F x:=by intro x; kernel_rfl) (J:fn.body=some (.seq (.region (hdI (yg fn)) (hdO (yg fn)) false) (hdB (yg fn))):=by kernel_rfl) (hn:(fn.name == "runtime.NumGoroutine")=false:=by kernel_rfl) (B:uh (hdB (yg fn))=[]:=by kernel_rfl):cV (Nn Pz) f d :=
 z73 (xid:=L7) (ro:=ro) (H:=H) mixed T.ok hf J hn (Yg B) h
theorem fkh{f t:Nat}{fn:Func}{d:bC}(T:Tb)(ro:Nat->Bool)(H:Hints)(hf:Pz.funcs[f]? = some fn)(k:Nat)
  (h:∀ x,evH (bg Pz L7 T.t ro) T.t H fn (hdO (yg fn)) (hdB (yg fn)) d k (some t) x=d.F x:=by intro x; kernel_rfl) (hk:d.ks.length=k+1:=by kernel_rfl) (J:fn.body=some (.seq (.region (hdI (yg fn)) (hdO (yg fn)) false) (hdB (yg fn))):=by kernel_rfl) (hn:(fn.name == "runtime.NumGoroutine")=false:=by kernel_rfl) (B:uh (hdB (yg fn))=[]:=by kernel_rfl):cV (RX Pz t) f d :=
 z71 (xid:=L7) (ro:=ro) (H:=H) mixed T.ok hf J hn (Yg B) hk h
theorem zas{g:Nat}{d:bC}(_:cV (Nn Pz) g d):cV (RX Pz 0) g { d with F:=λ_=>.fail }:=λ_ _ _ _ _ hy=>hy.elim
theorem fkf{f g pt:Nat}{fn:Func}{d d0 d1:bC}(T:Tb)(ro:Nat->Bool)(H:Hints)(h0:cV (Nn Pz) g d0)(h1:cV (RX Pz pt) g d1)(hf:Pz.funcs[f]? = some fn)
  (h:∀ x,z0R (bg Pz L7 T.t ro) T.t H ⟨g,d0,pt,d1⟩ fn (yg fn) d x=d.F x:=by intro x; kernel_rfl) (J:fn.body=some (yg fn):=by rfl) (hn:(fn.name == "runtime.NumGoroutine")=false:=by kernel_rfl) (B:uh (yg fn)=[]:=by kernel_rfl):xx Pz f d :=
 zcm (xid:=L7) (ro:=ro) (H:=H) mixed T.ok (h:=⟨g,d0,pt,d1⟩) h0 h1 hf J hn B h
theorem Y5{f:Nat}{fn:Func}{d:me}(T:Tb)(ro:Nat->Bool)(H:Hints)(hf:Pz.funcs[f]? = some fn)(L:List Nat)(ha:Cv Pz fn.ntmps H (ls fn L))
  (h:∀ x,LF (bg Pz L7 T.t ro) T.t H fn (yg fn) d x=d.F x:=by intro x; kernel_rfl) (J:fn.body=some (yg fn):=by rfl) (hn:(fn.name == "runtime.NumGoroutine")=false:=by kernel_rfl) (B:uh (yg fn)=ls fn L:=by kernel_rfl):jK Pz f d :=
 zcn (xid:=L7) (ro:=ro) (H:=H) mixed T.ok hf J hn (UE B ha) h
abbrev VW:Dk:=.st [.row 1 qe,.row 2 qg,.row 3 xi,.row 4 qw,.row 5 xn,.row 6 xk]
abbrev KY:Dk:=.st [.im (.sl qe),.im (.sl qg),.im (.sl xi),.im (.sl qw),.im (.sl xn),.im (.sl xk),.row 1 zp,.row 2 i64,.row 3 i64]
abbrev sW:Dk:=.st [.im (.sl zp),.row 1 i64,.row 2 i64]
abbrev z4H:List Bk:=[.var (.st [.row 10 zm,.row 2 .bool,.row 11 zm,.row 8 i64,.row 6 zx,.row 3 .bool]),.var (.st [.row 12 zm,.row 4 .bool,.row 13 zm,.row 9 i64,.row 7 zx,.row 5 .bool]),.arr .bool,.arr .bool,.arr .bool,.arr .bool,.arr zx,.arr zx,.arr i64,.arr i64,.arr zm,.arr zm,.arr zm,.arr zm]
abbrev B6:List Bk:=[.var VW,.arr qe,.arr qg,.arr xi,.arr qw,.arr xn,.arr xk]
abbrev VV:List Bk:=[.var (.qi xl)]
abbrev JX:Dk:=.st [.op 0 177,.row 1 (.int .u8)]
abbrev zad:Dk:=.st [.im (.sl qe),.im (.sl qg),.im (.sl xi),.im (.sl qw),.im (.sl xn),.im (.sl xk),.row 0 zp,.row 4 i64,.row 1 i64]
abbrev zae:Dk:=.st [.im (.sl qe),.im (.sl qg),.im (.sl xi),.im (.sl qw),.im (.sl xn),.im (.sl xk),.row 2 zp,.row 6 i64,.row 3 i64]
abbrev oP:Way:=⟨.ret,⟨[Mi 4],[],[]⟩⟩
abbrev RI:uz:=⟨[.v (.st [.row 10 zm,.row 2 .bool,.row 11 zm,.row 8 i64,.row 6 zx,.row 3 .bool]),.v (.st [.row 12 zm,.row 4 .bool,.row 13 zm,.row 9 i64,.row 7 zx,.row 5 .bool]),.a .bool,.a .bool,.a .bool,.a .bool,.a zx,.a zx,.a i64,.a i64,.a zm,.a zm,.a zm,.a zm],[],z4H⟩
abbrev jX:List Bk:=[.arr i64]
abbrev IK:Dk:=.st [.im (.sl zm),.im (.sl .bool),.im (.sl zm),.row 0 i64,.im (.sl zx),.im (.sl .bool)]
abbrev Co:Dk:=.st [.im (.sl qe),.im (.sl qg),.im (.sl xi),.im (.sl qw),.im (.sl xn),.im (.sl xk),.row 13 zp,.row 14 i64,.row 15 i64]
abbrev kZ:Way:=⟨.exit 0,⟨[],[],[]⟩⟩
abbrev Cp:Dk:=.st [.im (.sl qe),.im (.sl qg),.im (.sl xi),.im (.sl qw),.im (.sl xn),.im (.sl xk),.row 9 zp,.row 10 i64,.row 11 i64]
abbrev tO:uz:=⟨[Mm 0 uy,.v (.qi xl)],[],VV⟩
abbrev Cu:uz:=⟨[.s 0 (.sub 0 i64),Mi 1,Mi 2,Mi 3,.s 4 (.wj 256 [.rp (.sl zp)]),.a i64],[],jX⟩
abbrev Cq:Dk:=.st [.im i64,.row 2 qk,.im .bool,.im (.sl u32),.im (.sl u32)]
abbrev Cr:Dk:=.st [.im i64,.row 3 qk,.im .bool,.im (.sl u32),.im (.sl u32)]
abbrev dx:uz:=⟨[Mi 8],[],[]⟩
abbrev oU:uz:=⟨[.v (.qi xl)],[(0,.ptr 0 0)],VV⟩
abbrev z4G:List Bk:=[.var (.qi uE),.var (.st [.row 3 zm,.row 4 .bool,.im (.sl zm),.row 6 i64,.row 7 zx,.row 8 .bool]),.var (.qi xj),.arr zm,.arr .bool,.arr zm,.arr i64,.arr zx,.arr .bool]
abbrev Jl:uz:=⟨[Mm 0 wI,.v (.qi qo)],[],[.var (.qi qo)]⟩
abbrev Jj:List Bk:=[.var sW,.arr i64,.arr i64]
abbrev QP:uz:=⟨[Mm 0 .expr,.v (.qi xl)],[],VV⟩
abbrev Jk:List Bk:=[.var KY,.arr zp,.arr i64,.arr i64]
abbrev Rz:List Bk:=[.var (.st [.nl,.nl]),.var (.st [.row 3 zp,.row 4 i64]),.var (.qi wN),.arr zp,.arr i64]
abbrev Cs:Dk:=.st [.im (.sl zm),.im (.sl .bool),.im (.sl zm),.row 3 i64,.im (.sl zx),.im (.sl .bool)]
abbrev IL:Dk:=.st [.row 7 qe,.row 9 qg,.row 11 xi,.row 13 qw,.row 5 xn,.row 3 xk]
abbrev QQ:uz:=⟨[Ms 0],[],[]⟩
abbrev QO:List Bk:=[.var JX,.arr (.int .u8)]
abbrev RA:List Bk:=[.var (.qi xl),.var (.qi .expr),.var (.qi .expr)]
abbrev Ct:Dk:=.st [.im (.sl zp),.row 0 i64,.row 1 i64]
abbrev IM:Dk:=.st [.im (.sl zp),.row 2 i64,.row 3 i64]
abbrev tN:List Bk:=[.var (.qi qo)]
abbrev V7:uz:=⟨[.a .str],[(0,.cur 0 .str)],[.arr .str]⟩
abbrev RJ:uz:=⟨[Mm 1 (.sl .str),.v VW,.a qe,.a qg,.a xi,.a qw,.a xn,.a xk],[(0,.ptr 0 0)],B6⟩
abbrev tP:uz:=⟨[.a i64],[],jX⟩
abbrev Cn:List Bk:=[.var sW,.arr i64,.arr i64,.arr i64]
abbrev IN:uz:=⟨[Mi 1,.v sW,.a i64,.a i64],[(0,.ptr 0 0)],Jj⟩
abbrev RM:uz:=⟨[Mm 0 .expr,Mi 1,.v (.qi i64)],[(2,.ptr 0 0)],[.var (.qi i64)]⟩
abbrev RN:uz:=⟨[.v sW,.a i64,.a i64,.v .mp],[],[.var sW,.arr i64,.arr i64,.var .mp]⟩
abbrev ir:List Bk:=[.arr u32]
abbrev RO:uz:=⟨[Mb 0,.v VW,.a qe,.a qg,.a xi,.a qw,.a xn,.a xk],[],B6⟩
abbrev z4I:List Bk:=[.arr i64,.var IK,.arr zp,.arr i64,.var (.st [.un,.un]),.var zae,.arr i64]
abbrev IP:uz:=⟨[Mi 0,.v sW,.a i64,.a i64],[],Jj⟩
abbrev z4O:Dk:=.st [.row 6 qe,.row 8 qg,.row 10 xi,.row 12 qw,.row 4 xn,.row 2 xk]
abbrev z4P:Dk:=.st [.row 3 zm,.row 4 .bool,.im (.sl zm),.row 6 i64,.row 7 zx,.row 8 .bool]
abbrev RF:Dk:=.st [.row 10 zm,.row 2 .bool,.row 11 zm,.row 8 i64,.row 6 zx,.row 3 .bool]
abbrev RG:Dk:=.st [.row 12 zm,.row 4 .bool,.row 13 zm,.row 9 i64,.row 7 zx,.row 5 .bool]
abbrev zbz:uz:=⟨[.s 0 (.st [.row 0 zm,.row 1 .bool,.im (.sl zm),.row 2 i64,.row 3 zx,.row 4 .bool]),.s 1 (.tight .str),Mi 2,.a zm,.a .bool,.a i64,.a zx,.a .bool],[],[.arr zm,.arr .bool,.arr i64,.arr zx,.arr .bool]⟩
abbrev Hg:uz:=⟨[.v JX,.a (.int .u8)],[],QO⟩
abbrev XY:uz:=⟨[Mm 0 .nil],[],[]⟩
abbrev Hh:uz:=⟨[.a .str],[(3,.cur 0 .str)],[.arr .str]⟩
abbrev zbF:Way:=⟨.normal,⟨[Mm 1 (.sl .str),.v VW,.a qe,.a qg,.a xi,.a qw,.a xn,.a xk,.v (.qi qw)],[],[.var VW,.arr qe,.arr qg,.arr xi,.arr qw,.arr xn,.arr xk,.var (.qi qw)]⟩⟩
abbrev IQ:uz:=⟨[Mm 1 .expr,.a .str],[(0,.cur 0 .str)],[.arr .str]⟩
abbrev z4J:List Bk:=[.arr zp,.arr i64,.var (.st [.un,.un]),.var zad,.arr i64]
abbrev RP:uz:=⟨[Mb 0,.v (.qi i64)],[],[.var (.qi i64)]⟩
abbrev z5u:uz:=⟨[Mi 0,.v VW,.a qe,.a qg,.a xi,.a qw,.a xn,.a xk],[],B6⟩
abbrev Hi:uz:=⟨[Mi 3],[],[]⟩
abbrev z5v:uz:=⟨[Mm 0 uy,.v (.qi xl),.v (.qi .expr),.v (.qi .expr)],[],RA⟩
abbrev z4K:List Bk:=[.var (.qi .expr),.var (.qi i64),.var (.qi i64)]
abbrev z4Q:Dk:=.st [.row 0 zm,.row 1 .bool,.row 2 zm,.row 3 i64,.row 4 zx,.row 5 .bool]
abbrev RQ:uz:=⟨[.v (.qi xl)],[],VV⟩
abbrev RH:Dk:=.st [.row 3 zp,.row 4 i64]
abbrev zbx:List Bk:=[.var z4O,.var IL,.arr xk,.arr xk,.arr xn,.arr xn,.arr qe,.arr qe,.arr qg,.arr qg,.arr xi,.arr xi,.arr qw,.arr qw]
abbrev z5w:uz:=⟨[Mb 0,.a i64],[],[.cvar (.cur 1 i64),.arr i64]⟩
abbrev z5x:uz:=⟨[.v (.qi wN),.a .str],[(5,.cur 1 .str)],[.var (.qi wN),.arr .str]⟩
abbrev zby:Dk:=.st [.im (.sl qe),.im (.sl qg),.im (.sl xi),.im (.sl qw),.im (.sl xn),.im (.sl xk),.row 2 zp,.row 3 i64,.row 4 i64]
abbrev z5y:uz:=⟨[.s 0 (.sub 0 i64),Mi 10,.a i64],[],jX⟩
abbrev zbA:uz:=⟨[Mm 0 (.sl qk),.s 1 (.mclo 307 [.rp (.sl i64),.rp i64,.pt 0]),.a i64],[],[.cvar (.cur 1 i64),.arr i64]⟩
abbrev RB:List Bk:=[.var IM,.var .mp,.arr i64,.arr i64]
abbrev RR:uz:=⟨[Ms 0,Mi 11],[],[]⟩
abbrev z4L:List Bk:=[.arr zm,.arr .bool,.arr zm,.arr i64,.arr zx,.arr .bool]
abbrev RC:List Bk:=[.var (.qi j5),.var (.qi i64)]
abbrev z4R:Dk:=.st [.im (.sl .str),.row 4 .str,.im (.sl zm)]
abbrev zbB:uz:=⟨[Mm 0 (.sl .expr),.s 1 (.mclo 226 [.rp i64,.pt 0]),.v (.qi i64)],[],[.cvar (.ptr 1 0),.var (.qi i64)]⟩
abbrev z5z:uz:=⟨[.v (.qi xl),.v (.qi .expr),.v (.qi .expr)],[],RA⟩
abbrev zbC:uz:=⟨[Mm 1 (.sl .str),Ms 2,.v VW,.a qe,.a qg,.a xi,.a qw,.a xn,.a xk],[(0,.ptr 0 0)],B6⟩
abbrev zbG:Way:=⟨.ret,⟨[Ms 7,Mi 8,.v (.st [.nl,.nl]),.v RH,.v (.qi wN),.a zp,.a i64],[],Rz⟩⟩
abbrev o5:List Bk:=[.arr .str]
abbrev II:List Bk:=[.var (.qi .expr),.var (.qi .expr)]
abbrev z4S:Dk:=.st [.row 2 .str,.row 3 .str,.im (.sl zm)]
abbrev z4M:List Bk:=[.var Cq,.var Cr,.arr qk,.arr qk]
abbrev zbD:uz:=⟨[.v (.qi uE),.v z4P,.v (.qi xj),.a zm,.a .bool,.a zm,.a i64,.a zx,.a .bool],[],z4G⟩
abbrev z5I:Way:=⟨.exit 0,⟨[.a u32],[(7,.cur 0 u32)],ir⟩⟩
abbrev RE:List Bk:=[.var (.qi xl),.var (.qi .expr)]
abbrev IJ:List Bk:=[.var (.qi jF)]
abbrev mc:List AK:=[.ptr,.any]
abbrev z5A:uz:=⟨[.v KY,.a zp,.a i64,.a i64],[],Jk⟩
abbrev Hf:List Bk:=[.arr (.int .u8)]
abbrev zbH:Way:=⟨.normal,⟨[Mb 16,.v VW,.a qe,.a qg,.a xi,.a qw,.a xn,.a xk],[],B6⟩⟩
abbrev z5J:Way:=⟨.exit 0,⟨[.a .bool],[(5,.cur 0 .bool)],[.arr .bool]⟩⟩
abbrev RS:Way:=⟨.ret,⟨[Mb 2],[],[]⟩⟩
abbrev z5B:uz:=⟨[Mi 3,Mi 9],[],[]⟩
abbrev RT:Way:=⟨.ret,⟨[Mb 4],[],[]⟩⟩
abbrev z5C:uz:=⟨[.s 0 (.sub 0 i64),.a i64],[],jX⟩
abbrev KG:Way:=⟨.exit 0,QQ⟩
abbrev zbE:uz:=⟨[.s 0 (.sub 0 i64),Mi 10,Mi 11,.a i64],[],jX⟩
abbrev z4T:uz:=⟨[.a i64,.v IK,.a zp,.a i64,.v (.st [.un,.un]),.v zae,.a i64],[],z4I⟩
abbrev z4U:uz:=⟨[.s 0 (.sub 0 i64),Mi 7,Mi 8,.a i64],[],jX⟩
abbrev Ni:uz:=⟨[.a i64],[(0,.cur 0 i64)],jX⟩
abbrev Qz:List AK:=[.ptr,.any,.any]
abbrev Na:List Bk:=[.var (.qi qo),.var (.qi xj)]
abbrev z4N:Dk:=.st [.row 1 zm,.row 2 .bool,.row 3 zm,.row 4 i64,.row 5 zx,.row 6 .bool]
abbrev z4V:uz:=⟨[Mb 0,.v (.qi i64)],[],[.cvar (.ptr 1 0),.var (.qi i64)]⟩
abbrev z4W:uz:=⟨[.v sW,.a i64,.a i64,.a i64],[(10,.cur 3 i64)],Cn⟩
abbrev Z0:List Bk:=[.arr zm]
abbrev He:List Bk:=[.var (.qi uE)]
abbrev z5D:Way:=⟨.ret,⟨[Mb 4,.v KY,.a zp,.a i64,.a i64],[],Jk⟩⟩
abbrev z4X:uz:=⟨[.v (.st [.nl,.nl]),.v RH,.v (.qi wN),.a zp,.a i64],[],Rz⟩
abbrev Nb:List Bk:=[.arr i64,.arr i64,.var Ct]
abbrev Nj:uz:=⟨[Mm 0 (.sl u32)],[],[]⟩
abbrev z4Y:uz:=⟨[.a zp,.a i64,.v (.st [.un,.un]),.v zad,.a i64],[],z4J⟩
abbrev Nc:List Bk:=[.var (.qi qo),.arr wI]
abbrev z4Z:uz:=⟨[.s 0 (.sub 0 i64),Mi 1,.a i64],[],jX⟩
abbrev z50:uz:=⟨[.s 0 (.sub 0 i64),Mi 7,.a i64],[],jX⟩
abbrev z52:uz:=⟨[.v (.qi zm),.v (.qi zm)],[],[.var (.qi zm),.var (.qi zm)]⟩
abbrev z55:uz:=⟨[Mi 15,.a u32],[(7,.cur 0 u32)],ir⟩
abbrev z56:uz:=⟨[.v (.qi .expr),.v (.qi i64),.v (.qi i64)],[],z4K⟩
abbrev z5E:Way:=⟨.normal,⟨[Mb 16,.a .str],[(0,.cur 0 .str)],o5⟩⟩
abbrev z5F:Way:=⟨.normal,⟨[Mb 44,.v (.qi xl)],[],VV⟩⟩
abbrev z57:uz:=⟨[Mm 1 fc,.v (.qi qo)],[(0,.ptr 0 0)],tN⟩
abbrev z5G:Way:=⟨.exit 0,⟨[.v Cq,.v Cr,.a qk,.a qk],[],z4M⟩⟩
abbrev Nd:List Bk:=[.arr i64,.var (.qi zp)]
abbrev Nf:List Bk:=[.var (.qi i64)]
abbrev z4D:List Bk:=[.arr zm,.var (.qi zm),.var (.qi zm),.var (.qi zm)]
abbrev z5a:uz:=⟨[Mi 25,.a .str],[(0,.cur 0 .str)],o5⟩
abbrev Ng:List Bk:=[.var (.qi wN),.arr .str]
abbrev z5b:uz:=⟨[.a zx],[(0,.cur 0 zx)],[.arr zx]⟩
abbrev z5c:uz:=⟨[Mm 0 .nil,.v (.qi jF)],[],IJ⟩
abbrev z5d:uz:=⟨[Ms 0,.v (.qi xl)],[],VV⟩
abbrev z5e:uz:=⟨[.s 3 (.sub 0 (.int .u8)),.a (.int .u8)],[],Hf⟩
abbrev z5f:uz:=⟨[Mm 0 qx,Mm 1 xj],[],[]⟩
abbrev z4E:List Bk:=[.var sW,.arr i64,.arr i64,.var .mp]
abbrev z5g:uz:=⟨[.v (.qi qo)],[(0,.ptr 0 0)],tN⟩
abbrev z4F:List Bk:=[.var z4S,.var z4R,.arr .str,.arr .str,.arr .str]
abbrev z5h:uz:=⟨[.a (.int .u8)],[(3,.cur 0 (.int .u8))],Hf⟩
abbrev z5i:uz:=⟨[.v JX,.a (.int .u8)],[(0,.ptr 0 0)],QO⟩
abbrev z5j:uz:=⟨[.a .bool],[(0,.cur 0 .bool)],[.arr .bool]⟩
abbrev z5k:uz:=⟨[.a zm],[(9,.cur 0 zm)],Z0⟩
abbrev z5l:uz:=⟨[.a zm],[(0,.cur 0 zm)],Z0⟩
abbrev z5H:Way:=⟨.ret,⟨[Mb 6],[],[]⟩⟩
abbrev E3:List AK:=[.any,.any,.ptr]
abbrev z5m:uz:=⟨[.a .str],[(4,.cur 0 .str)],o5⟩
abbrev z5n:uz:=⟨[.v (.qi i64)],[],Nf⟩
abbrev z5o:uz:=⟨[Mi 13],[],[]⟩
abbrev E4:Dk:=.st [.nl,.nl]
abbrev E5:Dk:=.st [.un,.un]
abbrev z5p:uz:=⟨[Mi 0],[],[]⟩
abbrev z5q:uz:=⟨[Mm 6 (.sl .str)],[],[]⟩
abbrev Nh:List Bk:=[.var (.qi zm)]
abbrev Nk:Way:=⟨.exit 0,Hg⟩
abbrev Nl:Way:=⟨.exit 0,RQ⟩
abbrev Hd:List AK:=[.any,.any]
abbrev z5r:uz:=⟨[Mm 0 qx],[],[]⟩
abbrev z5s:uz:=⟨[Mb 0],[],[]⟩
abbrev z5t:uz:=⟨[.a (.int .u8)],[],Hf⟩
def znC:Hints:=Hz [] [(0,1,.flat [Mb 2])] []
theorem zjl:zy Pz 164 ⟨[.ty (.int .u8)],[.bool],λx=>yN x⟩:=wv t0 rn znC func164 [] zh
def t1:=t0.d zjl
def znN:Hints:=Hz [] [(0,1,.flat [Mb 2])] []
theorem zkg:zy Pz 224 ⟨[.ty (.int .u8)],[.bool],λx=>jt x⟩:=wv t1 rn znN func224 [] zh
def t2:=t1.d zkg
theorem zjm:zy Pz 165 ⟨[.ty (.int .u8)],[.bool],λx=>yy x⟩:=wv t2 rn hN func165 [] zh
def t3:=t2.d zjm
def z39:q8:=Lz [] [Ms 0,Mi 18] ⟨[Mi 19],[],[]⟩ [kZ,RS] λp s=>Q0 p.1 p.2 s
def h98:Hints:=Hz [(0,z39)] [(0,1,.ways [⟨.normal,⟨[Mb 16],[],[]⟩⟩])] []
theorem zdZ:LO Tryz.f98 z39 0:=lk t3 rn h98 [] zh
theorem zqC:zy Pz 98 ⟨[.ty .str],[.bool],λx=>uV x⟩:=wv t3 rn h98 func98 [0] (qf rfl zdZ zh)
def t4:=t3.d zqC
theorem zqB:zy Pz 97 ⟨[.ty qe],[.bool],λx=>gn x⟩:=wv t4 (rz [1]) hN func97 [] zh
def t5:=t4.d zqB
def z2T:q8:=Lz [] [Mm 0 (.sl qe),.s 1 (.wj 97 []),Mi 7] dx [kZ,oP] λp s=>xp p.1 (λz0=>gn z0) p.2.2 s
def h76:Hints:=Hz [(0,z2T)] [] []
theorem zdO:LO Tryz.f76 z2T 0:=lk t5 rn h76 [] zh
theorem zqi:zy Pz 76 ⟨[.ty (.sl qe),.wj 97 []],[i64],λx=>xm x.1 (λz0=>gn z0)⟩:=wv t5 rn h76 func76 [0] (qf rfl zdO zh)
def t6:=t5.d zqi
theorem zq2:zy Pz 58 ⟨[.ty (.sl qe),.wj 97 []],[.bool],λx=>vK x.1 (λz0=>gn z0)⟩:=wv t6 rn hN func58 [] zh
def t7:=t6.d zq2
def znD:Hints:=Hz [] [(0,1,.flat [Mb 2])] []
theorem zjn:zy Pz 166 ⟨[.ty (.sl u32)],[.bool],λx=>Qc x⟩:=wv t7 rn znD func166 [] zh
def t8:=t7.d zjn
def O9:q8:=Lz [] [] Nj [⟨.exit 0,Nj⟩] λp s=>tA  s
def zfS:Hints:=Hz [(0,O9)] [] []
theorem z7L:LO Tryz.f135 O9 0:=lk t8 rn zfS [] zh
theorem ziT:zy Pz 135 ⟨[.ty (.sl u32)],[(.sl u32)],λx=>ue x⟩:=wv t8 rn zfS func135 [0] (qf rfl z7L zh)
def t9:=t8.d ziT
def znK:Hints:=Hz [] [(0,1,.HT)] []
theorem zjD:zy Pz 185 ⟨[.ty (.sl u32)],[(.sl u32)],λx=>yA x⟩:=wv t9 rn znK func185 [] zh
def t10:=t9.d zjD
theorem ziQ:zy Pz 132 ⟨[.ty (.sl u32)],[(.sl u32)],λx=>lj x⟩:=wv t10 rn hN func132 [] zh
def t11:=t10.d ziQ
def Ok:q8:=Lz [] [Mm 0 (.sl u32),Mm 1 (.sl u32)] ⟨[Mi 5],[],[]⟩ [kZ,oP] λp s=>se p.1 p.2 s
def zg2:Hints:=Hz [(0,Ok)] [] []
theorem z7W:LO Tryz.f167 Ok 0:=lk t11 rn zg2 [] zh
theorem zjo:zy Pz 167 ⟨[.ty (.sl u32),.ty (.sl u32)],[i64],λx=>tw x.1 x.2⟩:=wv t11 rn zg2 func167 [0] (qf rfl z7W zh)
def t12:=t11.d zjo
def znQ:Hints:=Hz [] [(0,1,.flat [Mb 15])] []
theorem zks:zy Pz 241 ⟨[.ty u32,.ty u32,.ty u32],[u32,u32],λx=>fp x.1 x.2.1 x.2.2⟩:=wv t12 rn znQ func241 [] zh
def t13:=t12.d zks
def Oq:q8:=Lz [] [Mm 0 (.sl u32),Mm 1 u32] ⟨[Mm 7 u32,Mi 8,.a u32],[(6,.cur 0 u32)],ir⟩ [⟨.exit 0,⟨[Mm 7 u32,.a u32],[(6,.cur 0 u32)],ir⟩⟩] λp s=>pB p.1 p.2 s
def zg4:Hints:=Hz [(0,Oq)] [] [(7,[6])]
theorem z83:LO Tryz.f186 Oq 0:=lk t13 rn zg4 [] zh
theorem zjE:zy Pz 186 ⟨[.ty (.sl u32),.ty u32],[(.sl u32),u32],λx=>pS x.1 x.2⟩:=wv t13 rn zg4 func186 [0] (qf rfl z83 zh)
def t14:=t13.d zjE
theorem zqf:zy Pz 72 ⟨[.ty (.int .u64)],[(.sl u32)],λx=>l8 x⟩:=wv t14 rn hN func72 [] zh
def t15:=t14.d zqf
def zo0:Hints:=Hz [] [(3,1,.flat [Mm 0 u32,Mi 2]),(3,4,.flat [Mm 0 u32,Mi 2])] []
theorem zlb:zy Pz 296 ⟨[.ty u32],[i64],λx=>fq x⟩:=wv t15 rn zo0 func296 [] zh
def t16:=t15.d zlb
theorem zkt:zy Pz 242 ⟨[.ty u32],[i64],λx=>kE x⟩:=wv t16 rn hN func242 [] zh
def t17:=t16.d zkt
def OO:q8:=Lz [] [Mm 1 (.int .u64),Mi 2,Mm 13 (.sl u32),Mi 14] z55 [z5I] λp s=>WY p.1 p.2.1 p.2.2.1 p.2.2.2 s
def zgj:Hints:=Hz [(0,OO)] [] []
theorem z8p:LO Tryz.f243 OO 0:=lk t17 rn zgj [] zh
theorem zbk:xx Pz 243 ⟨[.any,.any,.any],⟨[Mm 0 (.sl u32),Mm 1 (.int .u64),Mi 2],[],[]⟩,[],⟨[.a u32],[(0,.cur 0 u32)],ir⟩,1,λx=>sj x.1 x.2.1 x.2.2⟩:=eP t17 rn zgj func243 [0] (qf rfl z8p zh)
def t18:=t17.s zbk
def OP:q8:=Lz [] [Mm 2 u32,Mm 3 u32,Mm 4 u32] ⟨[Mm 12 (.int .u64),Mm 13 (.int .u64)],[],[]⟩ [⟨.exit 0,⟨[Mm 12 (.int .u64)],[],[]⟩⟩] λp s=>ll p.1 p.2.1 p.2.2 s
def zgk:Hints:=Hz [(0,OP)] [(0,3,.flat [Mb 42])] []
theorem z8q:LO Tryz.f244 OP 0:=lk t18 rn zgk [] zh
theorem zku:zy Pz 244 ⟨[.ty u32,.ty u32,.ty u32,.ty u32,.ty u32],[(.int .u64)],λx=>pR x.1 x.2.1 x.2.2.1 x.2.2.2.1 x.2.2.2.2⟩:=wv t18 rn zgk func244 [0] (qf rfl z8q zh)
def t19:=t18.d zku
theorem zlc:zy Pz 297 ⟨[.ty u32,.ty u32,.ty u32],[u32,u32],λx=>yj x.1 x.2.1 x.2.2⟩:=wv t19 rn hN func297 [] zh
def t20:=t19.d zlc
theorem zld:zy Pz 298 ⟨[.ty u32,.ty u32,.ty u32],[u32,u32],λx=>fk x.1 x.2.1 x.2.2⟩:=wv t20 rn hN func298 [] zh
def t21:=t20.d zld
def OQ:q8:=Lz [] [Mm 1 (.sl u32),Mm 2 (.int .u64),Mm 14 (.sl u32),Mi 15] ⟨[.s 0 (.sub 0 u32),Mm 7 (.int .u64),Mm 8 u32,Mi 16,.a u32],[],ir⟩ [⟨.exit 0,⟨[.s 0 (.sub 0 u32),Mm 7 (.int .u64),Mm 8 u32,.a u32],[],ir⟩⟩] λp s=>lq p.1 p.2.1 p.2.2.1 p.2.2.2 s
def OR:q8:=Lz [] [Mm 1 (.sl u32),Mm 62 (.sl u32),Mi 63] ⟨[.s 0 (.sub 0 u32),Mm 11 u32,Mi 64,.a u32],[],ir⟩ [⟨.exit 2,⟨[.s 0 (.sub 0 u32),Mm 11 u32,.a u32],[],ir⟩⟩] λp s=>lr p.1 p.2.1 p.2.2 s
def zcz:Hints:=Hz [(0,OQ),(2,OR)] [] []
theorem z8r:LO Tryz.f245 OQ 0:=lk t21 rn zcz [] zh
theorem z8s:LO Tryz.f245 OR 2:=lk t21 rn zcz [] zh
theorem zkv:xx Pz 245 ⟨[.sub,.any,.any],⟨[.s 0 (.sub 0 u32),Mm 1 (.sl u32),Mm 2 (.int .u64),.a u32],[],ir⟩,[],⟨[Mb 0,.a u32],[],ir⟩,1,λx=>tz x.1 x.2.1 x.2.2.1 x.2.2.2⟩:=eP t21 rn zcz func245 [0,2] (qf rfl z8r (qf rfl z8s zh))
def t22:=t21.s zkv
def BJ:q8:=Lz [] [Mm 1 (.int .u64),Mi 2,Mm 13 (.sl u32),Mi 14] z55 [z5I] λp s=>nP p.1 p.2.1 p.2.2.1 p.2.2.2 s
def z1a:Hints:=Hz [(0,BJ)] [] []
theorem T4:LO Tryz.f243 BJ 0:=lk t22 rn z1a [] zh
theorem R2:zy Pz 243 ⟨[.ty (.sl u32),.ty (.int .u64),.ty i64],[(.sl u32)],λx=>UO x.1 x.2.1 x.2.2⟩:=wv t22 rn z1a func243 [0] (qf rfl T4 zh)
def t23:=t22.d R2
def zfq:Tb:=t23.d R2
def OS:q8:=Lz [] [Mm 6 (.int .u64),Mm 38 (.sl u32),Mi 39] ⟨[Mi 40,.a u32],[(7,.cur 0 u32)],ir⟩ [z5I] λp s=>lh p.1 p.2.1 p.2.2 s
def zgl:Hints:=Hz [(0,OS)] [] [(17,[7]),(21,[12])]
theorem z8t:LO Tryz.f246 OS 0:=lk zfq rn zgl [] zh
theorem zkw:zy Pz 246 ⟨[.ty (.sl u32),.ty i64],[(.sl u32)],λx=>mK x.1 x.2⟩:=wv zfq rn zgl func246 [0] (qf rfl z8t zh)
def t24:=t23.d zkw
def zfp:Tb:=t24.s zbk
def Ot:q8:=Lz [] [Mm 6 (.int .u64),Mm 8 (.sl u32),Mi 9] ⟨[Mi 10,.a u32,.a u32],[(4,.cur 2 u32),(7,.cur 0 u32)],[.arr u32,.dead,.arr u32]⟩ [⟨.exit 0,⟨[.a u32,.a u32],[(4,.cur 2 u32),(7,.cur 0 u32)],[.arr u32,.dead,.arr u32]⟩⟩] λp s=>nQ p.1 p.2.1 p.2.2 s
def zg5:Hints:=Hz [(0,Ot)] [(3,9,.ways [⟨.normal,⟨[Mm 11 (.int .u64),.a u32,.a u32],[(4,.cur 2 u32),(7,.cur 0 u32)],[.arr u32,.dead,.arr u32]⟩⟩])] [(5,[8]),(12,[4,7])]
theorem z84:LO Tryz.f187 Ot 0:=lk zfp rn zg5 [] zh
theorem zjF:zy Pz 187 ⟨[.ty (.sl u32),.ty (.sl u32)],[(.sl u32),(.sl u32)],λx=>UP x.1 x.2⟩:=wv zfp rn zg5 func187 [0] (qf rfl z84 zh)
def t25:=t24.d zjF
theorem ziS:zy Pz 134 ⟨[.ty (.sl u32),.ty (.sl u32)],[(.sl u32),(.sl u32),.bool],λx=>dQ x.1 x.2⟩:=wv t25 rn hN func134 [] zh
def t26:=t25.d ziS
def O8:q8:=Lz [] [] ⟨[Mm 0 (.sl u32),Mm 1 (.sl u32)],[],[]⟩ [⟨.exit 0,Nj⟩] λp s=>si  s
def zfR:Hints:=Hz [(0,O8)] [] []
theorem z7K:LO Tryz.f133 O8 0:=lk t26 rn zfR [] zh
theorem ziR:zy Pz 133 ⟨[.ty (.sl u32),.ty (.sl u32)],[(.sl u32)],λx=>Wl x.1 x.2⟩:=wv t26 rn zfR func133 [0] (qf rfl z7K zh)
def t27:=t26.d ziR
def znu:Hints:=Hz [] [(0,1,.ways [⟨.normal,⟨[Mb 28],[],[]⟩⟩])] []
theorem zis:zy Pz 100 ⟨[.ty zm],[.bool],λx=>tW x⟩:=wv t27 (rz [1]) znu func100 [] zh
def t28:=t27.d zis
def h71:Hints:=Hz [] [(0,2,.flat [Mb 19])] []
theorem zqe:zy Pz 71 ⟨[.ty .bool,.ty (.sl u32),.ty (.sl u32)],[zm],λx=>sr x.1 x.2.1 x.2.2⟩:=wv t28 rn h71 func71 [] zh
def t29:=t28.d zqe
theorem zpE:zy Pz 30 ⟨[.ty zm],[zm],λx=>vJ x⟩:=wv t29 (rz [1]) hN func30 [] zh
def t30:=t29.d zpE
def znv:Hints:=Hz [] [(0,2,.flat [Mb 2])] []
theorem zit:zy Pz 101 ⟨[.ty zm],[.bool],λx=>cS x⟩:=wv t30 rn znv func101 [] zh
def t31:=t30.d zit
theorem zqD:zy Pz 99 ⟨[.ty qg],[.bool],λx=>gp x⟩:=wv t31 (rz [1]) hN func99 [] zh
def t32:=t31.d zqD
def z2W:q8:=Lz [] [Mm 0 (.sl qg),.s 1 (.wj 99 []),Mi 7] dx [kZ,oP] λp s=>j8 p.1 (λz0=>gp z0) p.2.2 s
def h85:Hints:=Hz [(0,z2W)] [] []
theorem zdR:LO Tryz.f85 z2W 0:=lk t32 rn h85 [] zh
theorem zqq:zy Pz 85 ⟨[.ty (.sl qg),.wj 99 []],[i64],λx=>vN x.1 (λz0=>gp z0)⟩:=wv t32 rn h85 func85 [0] (qf rfl zdR zh)
def t33:=t32.d zqq
theorem zq8:zy Pz 64 ⟨[.ty (.sl qg),.wj 99 []],[.bool],λx=>vV x.1 (λz0=>gp z0)⟩:=wv t33 rn hN func64 [] zh
def t34:=t33.d zq8
theorem ziw:zy Pz 104 ⟨[.ty .str],[.bool],λx=>lL x⟩:=wv t34 rn hN func104 [] zh
def t35:=t34.d ziw
theorem ziv:zy Pz 103 ⟨[.ty xi],[.bool],λx=>gq x⟩:=wv t35 (rz [1]) hN func103 [] zh
def t36:=t35.d ziv
def z2Y:q8:=Lz [] [Mm 0 (.sl xi),.s 1 (.wj 103 []),Mi 7] dx [kZ,oP] λp s=>yE p.1 (λz0=>gq z0) p.2.2 s
def h89:Hints:=Hz [(0,z2Y)] [] []
theorem zdT:LO Tryz.f89 z2Y 0:=lk t36 rn h89 [] zh
theorem zqu:zy Pz 89 ⟨[.ty (.sl xi),.wj 103 []],[i64],λx=>j3 x.1 (λz0=>gq z0)⟩:=wv t36 rn h89 func89 [0] (qf rfl zdT zh)
def t37:=t36.d zqu
theorem ziu:zy Pz 102 ⟨[.ty (.sl xi),.wj 103 []],[.bool],λx=>yB x.1 (λz0=>gq z0)⟩:=wv t37 rn hN func102 [] zh
def t38:=t37.d ziu
theorem zpW:zy Pz 52 ⟨[.ty qx],[.bool],λx=>tK x⟩:=wv t38 (rz [1]) hN func52 [] zh
def t39:=t38.d zpW
def znw:Hints:=Hz [] [(0,1,.flat [Mb 6])] []
theorem zix:zy Pz 105 ⟨[.ty i64,.ty i64,.ty i64],[.bool],λx=>lK x.1 x.2.1 x.2.2⟩:=wv t39 rn znw func105 [] zh
def t40:=t39.d zix
def z2I:q8:=Lz [] [Mr 1 qx,Mm 7 (.sl qw),Mi 8] z5B [kZ,RS] λp s=>oD p.1 p.2.1 p.2.2 s
def h53:Hints:=Hz [(0,z2I)] [(0,5,.ways [⟨.normal,⟨[Mb 36,.v (.qi qw)],[],[.var (.qi qw)]⟩⟩])] []
theorem zdD:LO Tryz.f53 z2I 0:=lk t40 (rz [1]) h53 [] zh
theorem zpX:zy Pz 53 ⟨[.ty qx],[.bool],λx=>pJ x⟩:=wv t40 (rz [1]) h53 func53 [0] (qf rfl zdD zh)
def t41:=t40.d zpX
theorem ziy:zy Pz 106 ⟨[],[(.sl .str)],λ_=>bY⟩:=wv t41 rn hN func106 [] zh
def t42:=t41.d ziy
def znV:Hints:=Hz [] [(3,2,.flat [Mb 4])] []
theorem zkY:zy Pz 275 ⟨[.ty i64],[i64],λx=>We x⟩:=wv t42 rn znV func275 [] zh
def t43:=t42.d zkY
def Pd:q8:=Lz [] [Mm 1 (.sl u32),Mi 6,Mm 7 u32,Mm 21 (.sl u32),Mi 22,Mi 23,Mm 28 (.sl u32),Mi 29] ⟨[Mm 8 (.int .u64),Mi 30,.a u32],[(5,.cur 0 u32)],ir⟩ [⟨.exit 2,⟨[Mm 8 (.int .u64),.a u32],[(5,.cur 0 u32)],ir⟩⟩] λp s=>Vy p.1 p.2.1 p.2.2.1 p.2.2.2.1 p.2.2.2.2.1 p.2.2.2.2.2.1 p.2.2.2.2.2.2.1 p.2.2.2.2.2.2.2 s
def Pc:q8:=Lz [] [Mm 1 (.sl u32),Mm 21 (.sl u32),Mi 22] ⟨[Mi 23,.a u32],[(5,.cur 0 u32)],ir⟩ [⟨.exit 0,⟨[.a u32],[(5,.cur 0 u32)],ir⟩⟩] λp s=>Vx p.1 p.2.1 p.2.2 s
def zcB:Hints:=Hz [(2,Pd),(0,Pc)] [] [(16,[5])]
theorem z8N:LO Tryz.f295 Pd 2:=lk t43 rn zcB [] zh
theorem z8M:LO Tryz.f295 Pc 0:=lk t43 rn zcB [2] (qf rfl z8N zh)
theorem zla:zy Pz 295 ⟨[.ty (.sl u32),.ty (.sl u32)],[(.sl u32)],λx=>iZ x.1 x.2⟩:=wv t43 rn zcB func295 [0] (qf rfl z8M zh)
def t44:=t43.d zla
def ON:q8:=Lz [] [Mi 5] ⟨[Mm 3 (.sl u32),Mi 6],[],[]⟩ [⟨.exit 0,⟨[Mm 3 (.sl u32)],[],[]⟩⟩] λp s=>Vh p s
def zgi:Hints:=Hz [(0,ON)] [] []
theorem z8o:LO Tryz.f240 ON 0:=lk t44 rn zgi [] zh
theorem zkr:zy Pz 240 ⟨[.ty i64],[(.sl u32)],λx=>Uf x⟩:=wv t44 rn zgi func240 [0] (qf rfl z8o zh)
def t45:=t44.d zkr
theorem zjt:zy Pz 171 ⟨[.ty zm],[.str],λx=>Xc x⟩:=wv t45 (rz [1]) hN func171 [] zh
def t46:=t45.d zjt
def OL:q8:=Lz [] [] ⟨[.s 0 (.sub 0 (.int .u8)),Mi 2,Mi 3,.a (.int .u8)],[],Hf⟩ [⟨.exit 0,z5t⟩] λp s=>jj  s
def zgg:Hints:=Hz [(0,OL)] [] []
theorem z8m:LO Tryz.f228 OL 0:=lk t46 rn zgg [] zh
theorem zkj:xx Pz 228 ⟨[.sub],⟨[.s 0 (.sub 0 (.int .u8)),.a (.int .u8)],[],Hf⟩,[],z5t,0,λx=>kG x.1 x.2⟩:=eP t46 rn zgg func228 [0] (qf rfl z8m zh)
def t47:=t46.s zkj
def On:q8:=Lz [] [Mm 4 (.sl u32)] ⟨[Mm 5 u32,Mi 19,.a (.int .u8)],[(3,.cur 0 (.int .u8))],Hf⟩ [⟨.exit 2,z5h⟩] λp s=>lf p s
def Om:q8:=Lz [.slot 3 (.int .u8)] [] ⟨[Mm 0 (.sl u32),.a (.int .u8)],[(3,.cur 0 (.int .u8))],Hf⟩ [⟨.exit 0,z5h⟩] λp s=>l9  s
def Oo:q8:=Lz [] [] z5e [⟨.exit 4,z5e⟩] λp s=>lg  s
def z6O:Hints:=Hz [(2,On),(0,Om),(4,Oo)] [(0,13,.flat [Mb 42])] []
theorem z7Z:LO Tryz.f172 On 2:=lk t47 rn z6O [] zh
theorem z7Y:LO Tryz.f172 Om 0:=lk t47 rn z6O [2] (qf rfl z7Z zh)
theorem z81:LO Tryz.f172 Oo 4:=lk t47 rn z6O [] zh
theorem zju:zy Pz 172 ⟨[.ty (.sl u32)],[.str],λx=>mJ x⟩:=wv t47 rn z6O func172 [0,4] (qf rfl z7Y (qf rfl z81 zh))
def t48:=t47.d zju
theorem zlN:zy Tryz.prog 346 ⟨[.ty .str,.ty i64],[.str],λx=>strings_Repeat x.1 x.2⟩:=by
 refine jL Tryz.func346 (by kernel_rfl) rfl λO x xa y hy hI ha => ?_
 obtain⟨s,n⟩:=x
 obtain⟨⟨h0,h1,X⟩,hy⟩:=hy
 cases hy
 obtain⟨v0,r,rfl,Y8,ha⟩:=wQ.cons_inv (show wQ O [.qi .str s,.qi i64 n] xa from ha)
 obtain⟨v1,r,rfl,LP,ha⟩:=ha.cons_inv
 rw[ha.wh,Y8.jk,LP.ev]
 obtain⟨m,rfl⟩:=Int.eq_ofNat_of_zero_le h0
 refine(Go.Proofs.Tryz.strings_Repeat ⟨s.toArray⟩ m O.w (by simp only at h1; omega) (by rw[show(zF ⟨s.toArray⟩)=zH s from Y]; simpa using X)).mono ?_
 rintro e w' ⟨rfl,hB⟩
 refine⟨hB,λ_=>⟨_,rfl,?_⟩⟩
 have e1:Lib.repeatL s m=HX s m:=Rl s m
 have e2:(Int.toNat (m:Int))=m:=by omega
 show RD _ (.qi .str (HX s (Int.toNat (m:Int)))) _
 rw[e2,<- e1]
 exact RD.str
def t49:=t48.d zlN
theorem zlv:zy Pz 317 ⟨[.ty .str,.ty i64],[.str],λx=>tc x.1 x.2⟩:=wv t49 rn hN func317 [] zh
def t50:=t49.d zlv
def P9:q8:=Lz [] [] ⟨[Mi 10,.v (.qi zm)],[(1,.ptr 0 0)],Nh⟩ [⟨.exit 0,⟨[.v (.qi zm)],[],Nh⟩⟩,⟨.ret,⟨[Ms 2,Mb 3,.v (.qi zm)],[],Nh⟩⟩] λp s=>ZO  s
def zgw:Hints:=Hz [(0,P9)] [] []
theorem z8K:LO Tryz.f278 P9 0:=lk t50 rn zgw [] zh
theorem zl1:zy Pz 278 ⟨[.ty zm],[.str,.bool],λx=>Z8 x⟩:=wv t50 rn zgw func278 [0] (qf rfl z8K zh)
def t51:=t50.d zl1
def znW:Hints:=Hz [] [(0,1,.ways [⟨.normal,⟨[Mb 15],[],[]⟩⟩])] []
theorem zkZ:zy Pz 276 ⟨[.ty zm],[.bool],λx=>Q1 x⟩:=wv t51 (rz [1]) znW func276 [] zh
def t52:=t51.d zkZ
theorem zl0:zy Pz 277 ⟨[.ty zm],[.bool],λx=>nG x⟩:=wv t52 (rz [1]) hN func277 [] zh
def t53:=t52.d zl0
theorem zkh:zy Pz 225 ⟨[.ty .expr],[.bool],λx=>nF x⟩:=wv t53 (rz [1]) hN func225 [] zh
def t54:=t53.d zkh
abbrev Ht:=uz.den RM->T (uz.den RP)
abbrev RY(F:Ht):=xx Pz 168 ⟨E3,RM,[],RP,1,F⟩
theorem zki(yU:Ht)(tq:RY yU):xx Pz 226 ⟨E3,⟨[Mm 0 .expr,Mr 1 i64,.v (.qi i64)],[(2,.ptr 0 0)],[.cvar (.ptr 1 0),.var (.qi i64)]⟩,[],z4V,1,λx=>ni (λy0 y1 y2=>yU (y0,y1,y2)) x.1 x.2.1 x.2.2⟩:=eP (t54.s tq) (rz [3]) hN func226 [] zh
def zfo(yU:Ht)(tq:RY yU):Tb:=t54.s (zki _ tq)
def O7(yU:Ht):q8:=Lz [] [Mm 0 (.sl .expr),Mi 7] ⟨[.s 1 (.mclo 226 [.rp i64,.pt 0]),Mi 8,.v (.qi i64)],[],[.cvar (.ptr 1 0),.var (.qi i64)]⟩ [⟨.exit 0,⟨[.v (.qi i64)],[],[.cvar (.ptr 1 0),.var (.qi i64)]⟩⟩,⟨.ret,⟨[Mi 4,.v (.qi i64)],[],[.cvar (.ptr 1 0),.var (.qi i64)]⟩⟩] λp s=>wW (λy0 y1 y2=>yU (y0,y1,y2)) p.1 p.2 s
def zfQ(yU:Ht):Hints:=Hz [(0,O7 yU)] [] []
theorem z7J(yU:Ht)(tq:RY yU):LO Tryz.f122 (O7 yU) 0:=lk (zfo yU tq) rn (zfQ yU) [] zh
theorem ziM(yU:Ht)(tq:RY yU):xx Pz 122 ⟨[.any,.wj 226],zbB,[],⟨[Mi 0,.v (.qi i64)],[],[.cvar (.ptr 1 0),.var (.qi i64)]⟩,1,λx=>vo (λy0 y1 y2=>yU (y0,y1,y2)) x.1 x.2.1 x.2.2⟩:=eP (zfo yU tq) rn (zfQ yU) func122 [0] (qf rfl (z7J yU tq) zh)
theorem zqb(yU:Ht)(tq:RY yU):xx Pz 67 ⟨[.any,.wj 226],zbB,[],z4V,1,λx=>wV (λy0 y1 y2=>yU (y0,y1,y2)) x.1 x.2.1 x.2.2⟩:=eP (t54.s (ziM _ tq)) rn hN func67 [] zh
def znE(yU:Ht):Hints:=Hz [] [(0,2,.ways [⟨.normal,⟨[Mb 24,.v (.qi i64)],[],[.var (.qi i64),.cvar (.ptr 0 0)]⟩⟩])] []
theorem z9o(yU:Ht)(tq:RY yU):xx Pz 168 ⟨E3,RM,[],RP,1,λx=>iU (λy0 y1 y2=>yU (y0,y1,y2)) x.1 x.2.1 x.2.2⟩:=eP (t54.s (zqb _ tq)) (rz [3,4]) (znE yU) func168 [] zh
theorem zjp:xx Pz 168 ⟨E3,RM,[],RP,1,λx=>Q2 x.1 x.2.1 x.2.2⟩:=Y7 (λyU x=>iU (λy0 y1 y2=>yU (y0,y1,y2)) x.1 x.2.1 x.2.2) (λx=>rfl) (λyU tq=>z9o yU tq)
def t55:=t54.s zjp
theorem ziz:zy Pz 107 ⟨[.ty .expr],[.bool],λx=>iT x⟩:=wv t55 (rz [1]) hN func107 [] zh
def t56:=t55.d ziz
theorem ziC:zy Pz 110 ⟨[],[(.sl .str)],λ_=>yl⟩:=wv t56 rn hN func110 [] zh
def t57:=t56.d ziC
theorem ziB:zy Pz 109 ⟨[.ty xn],[.bool],λx=>yk x⟩:=wv t57 (rz [1]) hN func109 [] zh
def t58:=t57.d ziB
def Ol:q8:=Lz [] [Mm 0 (.sl xn),.s 1 (.wj 109 []),Mi 7] dx [kZ,oP] λp s=>dv p.1 (λz0=>yk z0) p.2.2 s
def zg3:Hints:=Hz [(0,Ol)] [] []
theorem z7X:LO Tryz.f169 Ol 0:=lk t58 rn zg3 [] zh
theorem zjq:zy Pz 169 ⟨[.ty (.sl xn),.wj 109 []],[i64],λx=>bw x.1 (λz0=>yk z0)⟩:=wv t58 rn zg3 func169 [0] (qf rfl z7X zh)
def t59:=t58.d zjq
theorem ziA:zy Pz 108 ⟨[.ty (.sl xn),.wj 109 []],[.bool],λx=>yC x.1 (λz0=>yk z0)⟩:=wv t59 rn hN func108 [] zh
def t60:=t59.d ziA
def z2J:q8:=Lz [] [Mr 1 qx,Mm 7 (.sl xk),Mi 8] z5B [kZ,RS] λp s=>oz p.1 p.2.1 p.2.2 s
def h54:Hints:=Hz [(0,z2J)] [(0,5,.ways [⟨.normal,⟨[Mb 50,.v (.qi xk)],[],[.var (.qi xk)]⟩⟩])] []
theorem zdE:LO Tryz.f54 z2J 0:=lk t60 (rz [1]) h54 [] zh
theorem zpY:zy Pz 54 ⟨[.ty qx],[.bool],λx=>pI x⟩:=wv t60 (rz [1]) h54 func54 [0] (qf rfl zdE zh)
def t61:=t60.d zpY
end Go.AM.Lf
namespace Go.Proofs
section
open Go.RowKit
attribute [local go_sem] zN
set_option maxRecDepth 100000
set_option maxHeartbeats 2000000
theorem QZ.size:(Tryz.prog.info? 177).map (·.size)=some 2:=by kernel_rfl
theorem QZ.pt:Tryz.prog.underlying 174=some (.pointer 177):=by kernel_rfl
theorem QZ.up:Tryz.prog.underlying 302=some .unsafePointer:=by kernel_rfl
theorem QZ.used(b:Nat)(w:World)(h0:w.cell? ⟨b,0,none⟩=some (.pointer (some ⟨b,0,none⟩))) :
  Calls Tryz.prog 170 #[.pointer (some ⟨b,0,none⟩)] w λe w'=>e=.returned (.tuple #[])/\w'=w:=by
 obtain⟨j,hj,hjs⟩:=qG.1 QZ.size
 go_enter Tryz.func170,Tryz.ntmps170
 go_wp2
 rw[Lib.run_neq_ptr_same w _ QZ.pt hj]
 go_wp2
 go_end0
 exact⟨rfl,rfl⟩
theorem QZ.fresh(b:Nat)(w:World)(h0:w.cell? ⟨b,0,none⟩=some (.pointer none))(hsh:w.shape? b=some (177,2))(hfz:w.frozen? ⟨b,0,none⟩=false) :
  Calls Tryz.prog 170 #[.pointer (some ⟨b,0,none⟩)] w λe w'=>e=.returned (.tuple #[])/\w'=w.setCell ⟨b,0,none⟩ (.pointer (some ⟨b,0,none⟩)):=by
 obtain⟨j,hj,hjs⟩:=qG.1 QZ.size
 go_enter Tryz.func170,Tryz.ntmps170
 go_wp2
 rw[Lib.run_to_unsafe w ⟨b,0,none⟩ QZ.pt QZ.up hj (by rw[hjs]; decide) hsh (Nat.zero_lt_succ 1)]
 simp only[qL]
 rw[qH]
 go_wp2
 rw[run_callFunc_extern Tryz.func227 (by kernel_rfl) (by kernel_rfl) (by kernel_rfl) (e:=Extern.AbiNoEscape.same) (by kernel_rfl)]
 rw[Lib.run_noEscape]
 simp only[qL]
 rw[qH]
 go_wp2
 rw[Lib.run_from_unsafe w ⟨b,0,none⟩ QZ.up QZ.pt hj hsh (by kernel_rfl)]
 simp only[qL]
 rw[qH]
 go_wp2
 go_end0
 exact⟨rfl,rfl⟩
end
end Go.Proofs

namespace Go.AM.Lf
open Go.Proofs Go.Proofs.Tryz
theorem zjs:xx Tryz.prog 170 ⟨[.ptr],z5i,[],Hg,0,λx=>tR x.1 x.2⟩:=CM (P:=Tryz.prog) (g:=170) (t:=177) (enters_of Tryz.func170 (by kernel_rfl) rfl) QZ.used QZ.fresh
def t62:=t61.s zjs
theorem ziD:xx Pz 111 ⟨mc,⟨[Ms 1,.v JX,.a (.int .u8)],[(0,.ptr 0 0)],QO⟩,[.pcell 0 1 (.int .u8)],⟨[Mi 0,.v JX,.a (.int .u8)],[(1,.vb)],QO⟩,2,λx=>xr x.1 x.2.1 x.2.2⟩:=eP t62 rn hN func111 [] zh
def t63:=t62.s ziD
theorem ziE:zy Pz 112 ⟨[.ty zm],[.str],λx=>gL x⟩:=wv t63 rn hN func112 [] zh
def t64:=t63.d ziE
theorem ziG:zy Pz 114 ⟨[.ty .str],[.str],λx=>sI x⟩:=wv t64 rn hN func114 [] zh
def t65:=t64.d ziG
theorem zjR:zy Tryz.prog 199 ⟨[.ty i64],[.str],λx=>strconv_Itoa x⟩:=by
 refine jL Tryz.func199 (by kernel_rfl) rfl λO n xa y hy hI ha => ?_
 obtain⟨⟨h0,h1⟩,hy⟩:=hy
 cases hy
 obtain⟨v0,r,rfl,Y8,ha⟩:=wQ.cons_inv (show wQ O [.qi i64 n] xa from ha)
 rw[ha.wh,Y8.ev]
 refine(Go.Proofs.Tryz.strconv_Itoa n h0 h1 O.w (iw hI)).mono ?_
 rintro e w' ⟨rfl,k,os,rfl⟩
 refine⟨Lg _ _ _,λ_=>⟨_,rfl,?_⟩⟩
 have e1:Lib.itoa n=Kh n:=z1P n
 show RD _ (.qi .str (Kh n)) _
 rw[<- e1]
 exact RD.str
def t66:=t65.d zjR
def znF:Hints:=Hz [] [(3,2,.flat [Ms 3])] []
theorem zjv:zy Pz 173 ⟨[.ty qw],[.str],λx=>tJ x⟩:=wv t66 (rz [1]) znF func173 [] zh
def t67:=t66.d zjv
def znX:Hints:=Hz [] [(3,2,.flat [Mb 5]),(3,5,.flat [Mb 8])] []
theorem zl3:zy Pz 280 ⟨[.ty .expr],[i64],λx=>mC x⟩:=wv t67 (rz [1]) znX func280 [] zh
def t68:=t67.d zl3
abbrev z6k:=eG [.ty .expr]->T (E9 [.str])
abbrev zfh(F:z6k):=zy Pz 229 ⟨[.ty .expr],[.str],F⟩
theorem zl2(X0:z6k)(Fj:zfh X0):zy Pz 279 ⟨[.ty .expr,.ty i64],[.str],λx=>dK (λy0=>X0 (y0)) x.1 x.2⟩:=wv (t68.d Fj) (rz [2]) hN func279 [] zh
def znO(X0:z6k):Hints:=Hz [] [(3,2,.ways [⟨.normal,⟨[Ms 3],[],[]⟩⟩,⟨.ret,⟨[Ms 2],[],[]⟩⟩])] []
theorem z9r(X0:z6k)(Fj:zfh X0):zy Pz 229 ⟨[.ty .expr],[.str],λx=>gY (λy0=>X0 (y0)) x⟩:=wv (t68.d (zl2 _ Fj)) (rz [1]) (znO X0) func229 [] zh
theorem zkk:zy Pz 229 ⟨[.ty .expr],[.str],λx=>Q3 x⟩:=YT (λX0 x=>gY (λy0=>X0 (y0)) x) (λx=>rfl) (λX0 Fj=>z9r X0 Fj)
def t69:=t68.d zkk
theorem zjw:zy Pz 174 ⟨[.ty .expr],[.str],λx=>rP x⟩:=wv t69 (rz [1]) hN func174 [] zh
def t70:=t69.d zjw
theorem ziH:zy Pz 115 ⟨[.ty .expr,.ty .str,.ty .expr],[.str],λx=>nY x.1 x.2.1 x.2.2⟩:=wv t70 (rz [3,5]) hN func115 [] zh
def t71:=t70.d ziH
def O3:q8:=Lz [] [Mi 2,Mr 4 qx,Mm 29 (.sl qw),Mi 30] ⟨[Mi 31,.v JX,.a (.int .u8)],[(0,.ptr 0 0)],QO⟩ [Nk] λp s=>oH p.1 p.2.1 p.2.2.1 p.2.2.2 s
def O4:q8:=Lz [] [Mi 2,Mm 45 (.sl xk),Mi 46] ⟨[Mi 47,.v JX,.a (.int .u8)],[(0,.ptr 0 0)],QO⟩ [⟨.exit 2,Hg⟩] λp s=>fu p.1 p.2.1 p.2.2 s
def zcr:Hints:=Hz [(0,O3),(2,O4)] [] []
theorem z7F:LO Tryz.f113 O3 0:=lk t71 (rz [4]) zcr [] zh
theorem z7G:LO Tryz.f113 O4 2:=lk t71 (rz [4]) zcr [] zh
theorem ziF:xx Pz 113 ⟨Qz,⟨[Mm 1 qx,Mi 2,.v JX,.a (.int .u8)],[(0,.ptr 0 0)],QO⟩,[.pcell 0 1 (.int .u8)],Hg,0,λx=>pK x.1 x.2.1 x.2.2.1 x.2.2.2⟩:=eP t71 (rz [4]) zcr func113 [0,2] (qf rfl z7F (qf rfl z7G zh))
def t72:=t71.s ziF
end Go.AM.Lf
namespace Go.Proofs
section
open Go.RowKit
attribute [local go_sem] zN
set_option maxRecDepth 100000
set_option maxHeartbeats 2000000
theorem QZ.mixed:Tryz.prog.follows .mixedOrders=true:=by kernel_rfl
theorem QZ.pb:Tryz.prog.underlying 250=some (.pointer 5):=by kernel_rfl
theorem QZ.c5:Tryz.prog.cellsOf 5=1:=by kernel_rfl
theorem QZ.z3o(zD:World)(q:Option Addr):(qI #[250,3] 9 #[.pointer q,.int .i64 0]).run Tryz.prog zD=.ok (.string .empty) zD:=Lib.run_unsafeString_none zD _ _ _ q
theorem QZ.nil(b:Nat)(p:Value)(w:World)(hbk:w.heap[b]? = some (.cells #[p,.slice none 0 0] 177 (0,0))) :
  Calls Tryz.prog 116 #[.pointer (some ⟨b,0,none⟩)] w λe w'=>e=.returned (.string ⟨#[]⟩)/\w'=w.drew:=by
 have hUS:=QZ.z3o
 have c1:w.drew.cell? ⟨b,1,none⟩=some (.slice none 0 0):=by
  have:w.drew.heap[b]? = some (.cells #[p,.slice none 0 0] 177 (0,0)):=hbk
  rw[zQ this]; rfl
 have hSD:(zJ #[175] 250 #[.slice none 0 0]).run Tryz.prog w.drew=.ok (.pointer none) w.drew:=rfl
 have mixed:Tryz.prog.follows .mixedOrders=true:=QZ.mixed
 go_enter Tryz.func116,Tryz.ntmps116
 go_wp2
 go_region_o
 all_goals (go_wp2; go_ret; exact⟨rfl,rfl⟩)
theorem QZ.room(b g o cap:Nat)(p:Value)(w:World)(hc0:cap≠0)(hbk:w.heap[b]? = some (.cells #[p,.slice (some ⟨g,o,none⟩) 0 cap] 177 (0,0))) :
  Calls Tryz.prog 116 #[.pointer (some ⟨b,0,none⟩)] w λe w'=>e=.returned (.string ⟨#[]⟩)/\w'=w.drew:=by
 have hUS:=QZ.z3o
 have c1:w.drew.cell? ⟨b,1,none⟩=some (.slice (some ⟨g,o,none⟩) 0 cap):=by
  have:w.drew.heap[b]? = some (.cells #[p,.slice (some ⟨g,o,none⟩) 0 cap] 177 (0,0)):=hbk
  rw[zQ this]; rfl
 have hSD:(zJ #[175] 250 #[.slice (some ⟨g,o,none⟩) 0 cap]).run Tryz.prog w.drew=.ok (.pointer (some ⟨g,o,none⟩)) w.drew :=
  qB _ _ _ _ _ _ hc0
 clear hc0
 have mixed:Tryz.prog.follows .mixedOrders=true:=QZ.mixed
 go_enter Tryz.func116,Tryz.ntmps116
 go_wp2
 go_region_o
 all_goals (go_wp2; go_ret; exact⟨rfl,rfl⟩)
theorem QZ.full(b g cap:Nat)(p:Value)(cur:Array Value)(l:List UInt8)(w:World)(h0:l≠[])(jq:l.length<=cap)(hmax:l.length<=140737488355328)(hbk:w.heap[b]? = some (.cells #[p,.slice (some ⟨g,0,none⟩) l.length cap] 177 (0,0)))
  (hg:w.heap[g]? = some (.cells cur 5 (0,0))) (zcI:l.length<=cur.size) (eW:∀ j x,l[j]? = some x->w.cell? ⟨g,j,none⟩=some (.int .u8 x.toNat)) :
  Calls Tryz.prog 116 #[.pointer (some ⟨b,0,none⟩)] w λe w'=>e=.returned (.string ⟨l.toArray⟩)/\w'=w.drew.freeze ⟨g,0,none⟩ l.length:=by
 have hl0:l.length≠0:=by simpa using h0
 have c1:w.drew.cell? ⟨b,1,none⟩=some (.slice (some ⟨g,0,none⟩) l.length cap):=by
  have:w.drew.heap[b]? = some (.cells #[p,.slice (some ⟨g,0,none⟩) l.length cap] 177 (0,0)):=hbk
  rw[zQ this]; rfl
 have hSD:(zJ #[175] 250 #[.slice (some ⟨g,0,none⟩) l.length cap]).run Tryz.prog w.drew=.ok (.pointer (some ⟨g,0,none⟩)) w.drew :=
  qB _ _ _ _ _ _ (by omega)
 have hUS:(qI #[250,3] 9 #[.pointer (some ⟨g,0,none⟩),.int .i64 l.length]).run Tryz.prog w.drew=.ok (.string ⟨l.toArray⟩) (w.drew.freeze ⟨g,0,none⟩ l.length):=by
  refine Lib.run_unsafeString_row w.drew 250 3 9 5 QZ.pb QZ.c5 g cur.size (by have hg':w.drew.heap[g]? = some (.cells cur 5 (0,0)):=hg; simp[World.shape?,hg']) l h0 (by omega) (by omega) ?_
  intro j x U
  have e:(⟨g,0,none⟩:Addr).add j=⟨g,j,none⟩:=by unfold Addr.add; split<;>simp_all
  rw[e]
  exact eW j x U
 have mixed:Tryz.prog.follows .mixedOrders=true:=QZ.mixed
 go_enter Tryz.func116,Tryz.ntmps116
 go_wp2
 go_region_o
 all_goals (go_wp2; go_ret; exact⟨rfl,rfl⟩)
theorem QZ.ze6(b g o:Nat)(p:Value)(cur:Array Value)(w:World)(hbk:w.heap[b]? = some (.cells #[p,.slice (some ⟨g,o,none⟩) 0 0] 177 (0,0)))(hg:w.heap[g]? = some (.cells cur 5 (0,0))) :
  Calls Tryz.prog 116 #[.pointer (some ⟨b,0,none⟩)] w λe w'=>e=.returned (.string ⟨#[]⟩)/\w'=w.drew.alloc (.view ⟨g,o,none⟩ 5):=by
 have hUS:=QZ.z3o
 have wO:b<w.heap.size:=by
  rcases Nat.lt_or_ge b w.heap.size with h' | h'
  ·exact h'
  ·simp[Array.getElem?_eq_none h']at hbk
 have c1:w.drew.cell? ⟨b,1,none⟩=some (.slice (some ⟨g,o,none⟩) 0 0):=by
  have:w.drew.heap[b]? = some (.cells #[p,.slice (some ⟨g,o,none⟩) 0 0] 177 (0,0)):=hbk
  rw[zQ this]; rfl
 have hSD:(zJ #[175] 250 #[.slice (some ⟨g,o,none⟩) 0 0]).run Tryz.prog w.drew=.ok (.pointer (some ⟨w.drew.heap.size,0,none⟩)) (w.drew.alloc (.view ⟨g,o,none⟩ 5)) :=
  Lib.run_unsafeSliceData_zero w.drew _ _ 5 QZ.pb ⟨g,o,none⟩ 0 (5,cur.size) (by have hg':w.drew.heap[g]? = some (.cells cur 5 (0,0)):=hg; simp[World.shape?,hg'])
 have c2:(w.drew.alloc (.view ⟨g,o,none⟩ 5)).cell? ⟨b,1,none⟩=some (.slice (some ⟨g,o,none⟩) 0 0):=by
  have:(w.drew.alloc (.view ⟨g,o,none⟩ 5)).heap[b]? = _:=(Lib.alloc_old w.drew _ b wO).trans hbk
  rw[zQ this]; rfl
 have c3:(w.alloc (.view ⟨g,o,none⟩ 5)).drew.cell? ⟨b,1,none⟩=some (.slice (some ⟨g,o,none⟩) 0 0):=c2
 have c0:w.cell? ⟨b,1,none⟩=some (.slice (some ⟨g,o,none⟩) 0 0):=c1
 have mixed:Tryz.prog.follows .mixedOrders=true:=QZ.mixed
 go_enter Tryz.func116,Tryz.ntmps116
 go_wp2
 go_region_o
 all_goals (go_wp2; go_ret; exact⟨rfl,rfl⟩)
end
end Go.Proofs

namespace Go.AM.Lf
open Go.Proofs Go.Proofs.Tryz
theorem ziI:xx Tryz.prog 116 ⟨[.ptr],z5i,[],⟨[Ms 0,.v (.st [.op 0 177,.un])],[],[.var (.st [.op 0 177,.un]),.dead]⟩,1,λx=>pZ x.1 x.2⟩:=TF (P:=Tryz.prog) (g:=116) (t:=177) (enters_of Tryz.func116 (by kernel_rfl) rfl) QZ.nil QZ.room QZ.full QZ.ze6
def t73:=t72.s ziI
def z2K:q8:=Lz [.cell 0 1 (.int .u8)] [Mr 1 qx,Mm 13 (.sl qe),Mi 14] ⟨[Mi 15,.v JX,.a (.int .u8)],[(3,.ptr 0 0)],QO⟩ [Nk] λp s=>sF p.1 p.2.1 p.2.2 s
def z2L:q8:=Lz [] [Mr 1 qx,Mm 29 (.sl qg),Mi 30] ⟨[Mi 31,.v JX,.a (.int .u8)],[(3,.ptr 0 0)],QO⟩ [⟨.exit 2,Hg⟩] λp s=>sG p.1 p.2.1 p.2.2 s
def z2M:q8:=Lz [] [Mr 1 qx,Mi 48] ⟨[Mi 49,.v JX,.a (.int .u8)],[(3,.ptr 0 0)],QO⟩ [⟨.exit 4,Hg⟩] λp s=>sH p.1 p.2 s
def z2N:q8:=Lz [] [Mm 57 (.sl xn),Mi 58] ⟨[Mi 59,.v JX,.a (.int .u8)],[(3,.ptr 0 0)],QO⟩ [⟨.exit 6,Hg⟩] λp s=>lM p.1 p.2 s
def h55:Hints:=Hz [(0,z2K),(2,z2L),(4,z2M),(6,z2N)] [(3,6,.flat [Ms 6])] []
theorem zdF:LO Tryz.f55 z2K 0:=lk t73 (rz [1]) h55 [] zh
theorem zdG:LO Tryz.f55 z2L 2:=lk t73 (rz [1]) h55 [] zh
theorem zdH:LO Tryz.f55 z2M 4:=lk t73 (rz [1]) h55 [] zh
theorem zdI:LO Tryz.f55 z2N 6:=lk t73 (rz [1]) h55 [] zh
theorem zpZ:zy Pz 55 ⟨[.ty qx],[.str],λx=>nX x⟩:=wv t73 (rz [1]) h55 func55 [0,2,4,6] (qf rfl zdF (qf rfl zdG (qf rfl zdH (qf rfl zdI zh))))
def t74:=t73.d zpZ
theorem zpw:zy Pz 22 ⟨[.ty qx],[.bool],λx=>Zw x⟩:=wv t74 (rz [1]) hN func22 [] zh
def t75:=t74.d zpw
def z2v:q8:=Lz [.slot 3 .str] [Mr 1 qx,Mm 17 (.sl qe),Mi 18] ⟨[Mi 19,.a .str],[(3,.cur 0 .str)],o5⟩ [⟨.exit 0,Hh⟩] λp s=>rA p.1 p.2.1 p.2.2 s
def z2w:q8:=Lz [] [Mr 1 qx,Mm 30 (.sl qg),Mi 31] ⟨[Mi 32,.a .str],[(3,.cur 0 .str)],o5⟩ [⟨.exit 2,Hh⟩] λp s=>rB p.1 p.2.1 p.2.2 s
def z2x:q8:=Lz [] [Mr 1 qx,Mm 43 (.sl xi),Mi 44] ⟨[Mi 45,.a .str],[(3,.cur 0 .str)],o5⟩ [⟨.exit 4,Hh⟩] λp s=>rC p.1 p.2.1 p.2.2 s
def z2y:q8:=Lz [] [Mr 1 qx,Mm 56 (.sl qw),Mi 57] ⟨[Mi 58,.a .str],[(3,.cur 0 .str)],o5⟩ [⟨.exit 6,Hh⟩] λp s=>rD p.1 p.2.1 p.2.2 s
def z2z:q8:=Lz [] [Mr 1 qx,Mm 69 (.sl xn),Mi 70] ⟨[Mi 71,.a .str],[(3,.cur 0 .str)],o5⟩ [⟨.exit 8,Hh⟩] λp s=>rE p.1 p.2.1 p.2.2 s
def OU:q8:=Lz [] [Mm 82 (.sl xk),Mi 83] ⟨[Mi 84,.a .str],[(3,.cur 0 .str)],o5⟩ [⟨.exit 10,Hh⟩] λp s=>rF p.1 p.2 s
def Fh:Hints:=Hz [(0,z2v),(2,z2w),(4,z2x),(6,z2y),(8,z2z),(10,OU)] [] []
theorem zdq:LO Tryz.f24 z2v 0:=lk t75 (rz [1]) Fh [] zh
theorem zdr:LO Tryz.f24 z2w 2:=lk t75 (rz [1]) Fh [] zh
theorem zds:LO Tryz.f24 z2x 4:=lk t75 (rz [1]) Fh [] zh
theorem zdt:LO Tryz.f24 z2y 6:=lk t75 (rz [1]) Fh [] zh
theorem zdu:LO Tryz.f24 z2z 8:=lk t75 (rz [1]) Fh [] zh
theorem z8v:LO Tryz.f24 OU 10:=lk t75 (rz [1]) Fh [] zh
theorem zpy:zy Pz 24 ⟨[.ty qx],[(.sl .str)],λx=>sZ x⟩:=wv t75 (rz [1]) Fh func24 [0,2,4,6,8,10] (qf rfl zdq (qf rfl zdr (qf rfl zds (qf rfl zdt (qf rfl zdu (qf rfl z8v zh))))))
def t76:=t75.d zpy
end Go.AM.Lf
namespace Go.Proofs
section
open Go.RowKit Go.Maps Go.WideMaps
attribute [local go_sem] zN
set_option maxRecDepth 100000
set_option maxHeartbeats 2000000
/-- What a map reads as when texts,all different,came. -/
def TW.Seen(D:DataW Unit)(l:List (List UInt8)):Prop:=IsMap D/\∀ s:List UInt8,D.atKey (.string s) (.lit (.int .i64 0))=.lit (.int .i64 (if s∈l then 1 else 0))
theorem TW.zmf:TW.Seen (.map []) []:=⟨⟨_,rfl⟩,λs=>by simp only[List.not_mem_nil,if_false]; rfl⟩
theorem TW.step{D:DataW Unit}{l:List (List UInt8)}{s:List UInt8}(h:TW.Seen D l)(hk:WideAt.IsKeyLit (.string s)):TW.Seen (D.put (.string s) (.lit (.int .i64 1))) (l++[s]):=by
 refine⟨h.1.put _ _,λx => ?_⟩
 by_cases c:x=s
 ·subst c
  rw[atKey_put_same h.1 hk,if_pos (by simp)]
 ·rw[atKey_put_other (λe=>c (by cases e; rfl)),h.2 x]
  congr 3
  simp[c]
theorem TW.cOf{D:DataW Unit}{l:List (List UInt8)}{s:List UInt8}{c:Int}(h:TW.Seen D l)(LQ:D.atKey (.string s) (.lit (.int .i64 0))=.lit (.int .i64 c)):c=if s∈l then 1 else 0:=by
 rw[h.2 s]at LQ
 cases LQ; rfl
theorem TW.key:Keyed Tryz.prog 9:=string_keyed Tryz.underlying9
theorem TW.RU(w:World):(zeroValue 3).run Tryz.prog w=.ok (.int .i64 0) w:=by kernel_rfl
theorem TW.zero(a:Option Addr)(cap:Nat)(w:World):Calls Tryz.prog 23 #[.slice a 0 cap] w λe w'=>e=.returned (.tuple #[.string ⟨#[]⟩,.bool false])/\Below w.heap.size w w':=by
 have hmm := @run_makeMap Tryz.prog
 go_enter Tryz.func23,Tryz.ntmps23
 go_wp2
 refine wp_loop_rounds 1 ?_
 rw[rounds_succ]
 go_wp2
 go_ret2
 exact⟨rfl,(Below.refl _ _).alloc (W _) _⟩
theorem TW.more(b off cap:Nat)(l:List (List UInt8))(w:World)(JF:l.length*16<=140737488351232)(J:b<w.heap.size)
  (hc:∀ j (hj:j<l.length),w.cell? ⟨b,off+j,none⟩=some (.string ⟨l[j].toArray⟩)) (cp:∀ s∈l,s.length<=maxLen) :
  Calls Tryz.prog 23 #[.slice (some ⟨b,off,none⟩) l.length cap] w λe w'=>e=.returned (.tuple #[.string ⟨(Go.AM.Lf.twR [] l).1.toArray⟩,.bool (Go.AM.Lf.twR [] l).2])/\Below w.heap.size w w':=by
 have hmm := @run_makeMap Tryz.prog
 go_enter Tryz.func23,Tryz.ntmps23
 go_wp2
 go_loopw [10] (λi wr=>∃ (k:Nat) (D:DataW Unit),k<=l.length/\i=.int .i64 k/\wr.ownsMap Tryz.prog 9 (plainElem Tryz.prog 3) w.heap.size k D/\TW.Seen D (l.take k)/\Go.AM.Lf.twR [] l=Go.AM.Lf.twR (l.take k) (l.drop k)/\Below w.heap.size w wr)
  (λi _=>l.length-(intOf i).toNat)
 case atStart=>exact⟨0,.map [],qK _,rfl,World.ownsMap_made _ _ _ _,TW.zmf,rfl,(Below.refl _ _).alloc (W _) _⟩
 case round =>
  obtain⟨k,D,hk,rfl,hown,Fx,htw,Ec⟩:=hrel
  obtain⟨s,hs⟩:∃ s:List UInt8,s=l.getD k []:=⟨_,rfl⟩
  have hse:∀ wO:k<l.length,s=l[k]:=λwO=>by rw[hs]; simp[wO]
  have hcx:k<l.length->wr.cell? ⟨b,off+k,none⟩=some (.string ⟨s.toArray⟩):=λwO=>by rw[hse wO]; exact(Ec.cell (by exact J)).trans (hc k wO)
  have hlen:s.length<=maxLen:=by
   by_cases wO:k<l.length
   ·rw[hse wO]; exact cp _ (List.getElem_mem wO)
   ·rw[hs]; simp[wO]
  have LZ:keyOf Tryz.prog 9 (.string ⟨s.toArray⟩)=some (.string s):=keyOf_string_mk Tryz.underlying9 (by exact hlen)
  have hkl:WideAt.IsKeyLit (.string s):=TW.key.key LZ
  have Fo:∀ wO:k<l.length,l.drop k=s::l.drop (k+1):=λwO=>by rw[hse wO]; exact List.drop_eq_getElem_cons wO
  have Bx:∀ wO:k<l.length,l.take (k+1)=l.take k++[s]:=λwO=>by rw[hse wO]; exact zW wO
  clear hse hs
  by_cases JE:s∈l.take k
  ·have z1y:∀ wO:k<l.length,Go.AM.Lf.twR [] l=(s,true):=λwO=>by rw[htw,Fo wO]; unfold Go.AM.Lf.twR; rw[if_pos JE]
   go_wp2_with (first
    | (at_lookup; refine wpList_lookup_own_int _ rfl _ _ 118 rfl 9 3 .i64 TW.key Tryz.underlying118 Tryz.underlying3 (TW.RU _) w.heap.size k _ rfl hown _ _ rfl LZ ?_; intro c LQ hwc; obtain rfl:c=1:=by rw[TW.cOf Fx LQ,if_pos JE])
    | (at_mapUpdate; refine wpList_mapUpdate_own _ rfl _ _ _ 118 rfl 9 3 TW.key Tryz.underlying118 _ w.heap.size k _ rfl hown (by unfold maxLen; omega) _ _ _ rfl rfl LZ _ [] (plainElem_int (a:=2) Tryz.underlying3 rfl) ?_; intro w1 NR LX)
    | (at_lookup; refine wpList_lookup_own_int _ rfl _ _ 118 rfl 9 3 .i64 TW.key Tryz.underlying118 Tryz.underlying3 (TW.RU _) w.heap.size (k+1) _ rfl NR _ _ rfl LZ ?_; intro c2 z1p zp8; obtain rfl:c2=2:=by rw[atKey_put_same Fx.1 hkl]at z1p; cases z1p; rfl)
    | go_in)
   ·have wO:k<l.length:=by assumption
    go_ret2
    rw[z1y wO]
    exact⟨rfl,Ec.grown LX Ec.size (λj hj=>by cases hj; exact W _)⟩
   ·have:k=l.length:=by omega
    subst this
    rw[List.drop_length]at htw
    go_ret2
    rw[htw]
    exact⟨rfl,Ec⟩
  ·have hgo:∀ wO:k<l.length,Go.AM.Lf.twR [] l=Go.AM.Lf.twR (l.take (k+1)) (l.drop (k+1)):=λwO=>by
    rw[htw,Fo wO,Bx wO]
    conv=>lhs; unfold Go.AM.Lf.twR
    rw[if_neg JE]
   go_wp2_with (first
    | (at_lookup; refine wpList_lookup_own_int _ rfl _ _ 118 rfl 9 3 .i64 TW.key Tryz.underlying118 Tryz.underlying3 (TW.RU _) w.heap.size k _ rfl hown _ _ rfl LZ ?_; intro c LQ hwc; obtain rfl:c=0:=by rw[TW.cOf Fx LQ,if_neg JE])
    | (at_mapUpdate; refine wpList_mapUpdate_own _ rfl _ _ _ 118 rfl 9 3 TW.key Tryz.underlying118 _ w.heap.size k _ rfl hown (by unfold maxLen; omega) _ _ _ rfl rfl LZ _ [] (plainElem_int (a:=1) Tryz.underlying3 rfl) ?_; intro w1 NR LX)
    | (at_lookup; refine wpList_lookup_own_int _ rfl _ _ 118 rfl 9 3 .i64 TW.key Tryz.underlying118 Tryz.underlying3 (TW.RU _) w.heap.size (k+1) _ rfl NR _ _ rfl LZ ?_; intro c2 z1p zp8; obtain rfl:c2=1:=by rw[atKey_put_same Fx.1 hkl]at z1p; cases z1p; rfl)
    | go_in)
   ·have wO:k<l.length:=by assumption
    go_roundw
    case rel=>exact⟨k+1,_,by omega,by go_num,NR,(Bx wO).symm▸TW.step Fx hkl,hgo wO,Ec.grown LX Ec.size (λj hj=>by cases hj; exact W _)⟩
    case measure=>simp[intOf]; omega
   ·have:k=l.length:=by omega
    subst this
    rw[List.drop_length]at htw
    go_ret2
    rw[htw]
    exact⟨rfl,Ec⟩
end
end Go.Proofs
namespace Go.AM.Lf
open Go.Proofs Go.Proofs.Tryz
theorem zpx:zy Tryz.prog 23 ⟨[.ty (.sl .str)],[.str,.bool],λx=>ta x⟩:=by
 refine jL Tryz.func23 (by kernel_rfl) rfl λO (l:List zo) xa y hy hI ha => ?_
 obtain⟨⟨h0,h1⟩,hy⟩:=hy
 cases hy
 obtain⟨v0,r,rfl,Y8,ha⟩:=wQ.cons_inv (show wQ O [.qi (.sl .str) l] xa from ha)
 rw[ha.wh]
 have hv:=RD.jQ (O:=O) (τ:=.sl .str) (x:=l) Y8 rfl
 rcases hv.tY with⟨rfl,a,e⟩ | ⟨blk,off,cap,g,e,j9,jq,hg,hc⟩
 ·cases e
  refine(TW.zero a 0 O.w).mono ?_
  rintro e w' ⟨rfl,hB⟩
  exact⟨hB,λ_=>⟨_,rfl,RD.za4 RD.str RD.bool⟩⟩
 ·cases e
  refine(TW.more blk off cap l O.w h0 (hI.cq blk j9) (λj hj => ?_) h1).mono ?_
  ·have h3:=hc j hj 0 (.string ⟨l[j].toArray⟩) (by rw[(hg j hj).jk]; rfl)
   simpa[Ty.size]using h3
  ·rintro e w' ⟨rfl,hB⟩
   exact⟨hB,λ_=>⟨_,rfl,RD.za4 RD.str RD.bool⟩⟩
end Go.AM.Lf

namespace Go.AM.Lf
open Go.Proofs Go.Proofs.Tryz
def t77:=t76.d zpx
theorem zq3:zy Pz 59 ⟨[.ty qe,.rp .str],[.bool],λx=>vZ x.1 x.2⟩:=wv t77 (rz [2]) hN func59 [] zh
def t78:=t77.d zq3
def FK:q8:=Lz [] [Mm 0 (.sl qe),.s 1 (.wj 59 [.rp .str]),Mi 7] dx [kZ,oP] λp s=>xp p.1 (λz0=>vZ z0 p.2.1) p.2.2 s
def zay:Hints:=Hz [(0,FK)] [] []
theorem z2d:LO Tryz.f76 FK 0:=lk t78 rn zay [] zh
theorem z3C:zy Pz 76 ⟨[.ty (.sl qe),.wj 59 [.rp .str]],[i64],λx=>xm x.1 (λz0=>vZ z0 x.2)⟩:=wv t78 rn zay func76 [0] (qf rfl z2d zh)
def t79:=t78.d z3C
theorem z3z:zy Pz 58 ⟨[.ty (.sl qe),.wj 59 [.rp .str]],[.bool],λx=>vK x.1 (λz0=>vZ z0 x.2)⟩:=wv (t79.d z3C) rn hN func58 [] zh
def t80:=t79.d z3z
theorem zq1:zy Pz 57 ⟨[.ty .str,.rp qx],[.bool],λx=>jZ x.1 x.2⟩:=wv (t80.d z3z) (rz [2]) hN func57 [] zh
def t81:=t80.d zq1
def z2O:q8:=Lz [] [Mm 0 (.sl .str),.s 1 (.wj 57 [.rp qx]),Mi 7] dx [kZ,oP] λp s=>uS p.1 (λz0=>jZ z0 p.2.1) p.2.2 s
def h56:Hints:=Hz [(0,z2O)] [] []
theorem zdJ:LO Tryz.f56 z2O 0:=lk t81 rn h56 [] zh
theorem zq0:zy Pz 56 ⟨[.ty (.sl .str),.wj 57 [.rp qx]],[i64],λx=>wX x.1 (λz0=>jZ z0 x.2)⟩:=wv t81 rn h56 func56 [0] (qf rfl zdJ zh)
def t82:=t81.d zq0
def z2A:q8:=Lz [.slot 4 .str] [Mr 1 qx,Mm 11 (.sl xi),Mi 12] ⟨[Mi 13,.a .str],[(4,.cur 0 .str)],o5⟩ [⟨.exit 0,z5m⟩] λp s=>fB p.1 p.2.1 p.2.2 s
def z2B:q8:=Lz [] [Mr 1 qx,Mm 24 (.sl xn),Mi 25] ⟨[Mi 26,.a .str],[(4,.cur 0 .str)],o5⟩ [⟨.exit 2,z5m⟩] λp s=>fD p.1 p.2.1 p.2.2 s
def h25:Hints:=Hz [(0,z2A),(2,z2B)] [] []
theorem zdv:LO Tryz.f25 z2A 0:=lk t82 (rz [1]) h25 [] zh
theorem zdw:LO Tryz.f25 z2B 2:=lk t82 (rz [1]) h25 [] zh
theorem zpz:zy Pz 25 ⟨[.ty qx],[.str,.bool],λx=>ff x⟩:=wv t82 (rz [1]) h25 func25 [0,2] (qf rfl zdv (qf rfl zdw zh))
def t83:=t82.d zpz
def O6:q8:=Lz [] [Mm 0 (.sl .str),Ms 1,Mi 7] dx [kZ,oP] λp s=>gJ p.1 p.2.1 p.2.2 s
def zfP:Hints:=Hz [(0,O6)] [] []
theorem z7I:LO Tryz.f119 O6 0:=lk t83 rn zfP [] zh
theorem ziJ:zy Pz 119 ⟨[.ty (.sl .str),.ty .str],[i64],λx=>wG x.1 x.2⟩:=wv t83 rn zfP func119 [0] (qf rfl z7I zh)
def t84:=t83.d ziJ
theorem zq7:zy Pz 63 ⟨[.ty (.sl .str),.ty .str],[.bool],λx=>wP x.1 x.2⟩:=wv t84 rn hN func63 [] zh
def t85:=t84.d zq7
abbrev S2:=uz.den IQ->T (uz.den V7)
abbrev zbN(F:S2):=xx Pz 118 ⟨[.cur,.any],IQ,[],V7,1,F⟩
def zfn(fH:S2)(Kc:zbN fH):Tb:=t85.s Kc
def O5(fH:S2):q8:=Lz [] [Mm 23 (.sl .expr),Mi 24] z5a [⟨.exit 0,V7⟩] λp s=>fg (λy0 y1=>fH (y0,y1)) p.1 p.2 s
def zfO(fH:S2):Hints:=Hz [(0,O5 fH)] [(0,1,.ways [z5E]),(3,1,.ways [⟨.normal,V7⟩])] []
theorem z7H(fH:S2)(Kc:zbN fH):LO Tryz.f118 (O5 fH) 0:=lk (zfn fH Kc) (rz [3]) (zfO fH) [] zh
theorem z9m(fH:S2)(Kc:zbN fH):xx Pz 118 ⟨[.cur,.any],IQ,[],V7,1,λx=>dI (λy0 y1=>fH (y0,y1)) x.1 x.2⟩:=eP (zfn fH Kc) (rz [3]) (zfO fH) func118 [0] (qf rfl (z7H fH Kc) zh)
theorem zbj:xx Pz 118 ⟨[.cur,.any],IQ,[],V7,1,λx=>pn x.1 x.2⟩:=Y7 (λfH x=>dI (λy0 y1=>fH (y0,y1)) x.1 x.2) (λx=>rfl) (λfH Kc=>z9m fH Kc)
def t86:=t85.s zbj
def z0e:Tb:=t86.s zbj
def BG:q8:=Lz [] [Mm 23 (.sl .expr),Mi 24] z5a [⟨.exit 0,V7⟩] λp s=>mE p.1 p.2 s
def z16:Hints:=Hz [(0,BG)] [(0,1,.ways [z5E]),(3,1,.ways [⟨.normal,V7⟩])] []
theorem SZ:LO Tryz.f118 BG 0:=lk z0e (rz [3]) z16 [] zh
theorem PU:xx Pz 118 ⟨[.cur,.any],IQ,[.slot 0 .str],V7,1,λx=>nj x.1 x.2⟩:=eP z0e (rz [3]) z16 func118 [0] (qf rfl SZ zh)
def t87:=t86.s PU
theorem zq5:zy Pz 61 ⟨[.ty .expr],[(.sl .str)],λx=>dH x⟩:=wv (t87.s PU) (rz [1]) hN func61 [] zh
def t88:=t87.d zq5
end Go.AM.Lf
namespace Go.Proofs
section
open Go.RowKit Go.Maps
attribute [local go_sem] zN
set_option maxRecDepth 100000
set_option maxHeartbeats 2000000
theorem CC.info:(Tryz.prog.info? 9).map (λi=>(i.zero,i.size,i.bytes))=some (some (.string ⟨#[]⟩),1,16):=by kernel_rfl
theorem CC.wp{ops:Array Oper}{rest:List Oper}{o:Oper}{a:Act}{Q:Exit->Act->World->Prop}(w:World)(hgd:o.guard=zE)(s x:Operand)(t u:TypeId)
  (ho:o.op=.call { callee:=.builtin .append,args := #[s,x],argTypes := #[t,u] }) (v':Value) (w':World)
  (hr:(zU #[t,u] o.type #[a.eval s,a.eval x]).run Tryz.prog w=.ok v' w') (h:wpList Tryz.prog ops Q rest (a.put o.dst v') w'):wpList Tryz.prog ops Q (o::rest) a w :=
 wpList_plain hgd λ_ hK=>by
  unfold Oper.wp execOp
  simp only[ho,resolve,invoke,builtin,Sem.run_bind,Sem.run_pure,Result.andThen_ok,List.map_toArray,List.map_cons,List.map_nil,hr]
  exact hK _ _ h
/-- An append of nothing. -/
theorem CC.Ew{base:Option Addr}{n cap:Nat}{a:Option Addr}{ty:TypeId}(w:World)(jq:n<=cap) :
  (zU #[38,38] ty #[.slice base n cap,.slice a 0 0]).run Tryz.prog w=.ok (.slice base n cap) w:=by
 obtain⟨i0,hi,IW,hz1,hz2⟩:=info_parts CC.info
 have hu:=Tryz.underlying38
 cases a<;>cases base<;>simp[zU,run_underlying hu,sizeOf,typeInfo,hi,Builtin.lenOf,qN,loadCells,loadCellsFrom,storeCells,jq]
theorem CC.Ev{n:Nat}{ty:TypeId}(w:World)(hn:0<n)(J:n*16<=140737488355328) :
  ∃ cs:Array Value,cs.size=grownCap w n 0 9/\(zU #[38,3] ty #[.slice zE 0 0,.int .i64 (n:Int)]).run Tryz.prog w=.ok (.slice (some ⟨w.heap.size,0,zE⟩) n (grownCap w n 0 9)) (w.drew.alloc (.cells cs 9)):=by
 obtain⟨i0,hi,IW,hz1,hz2⟩:=info_parts CC.info
 have hu:=Tryz.underlying38
 have he:=Tryz.underlying3
 have w1:IntKind.i64.wrap (n:Int)=n:=IntWalk.i64_in _ (by omega)
 have h5:IntKind.i64.max=9223372036854775807:=by decide
 have ai:∀ w,(Go.asInt (.int .i64 (n:Int))).run Tryz.prog w=.ok (n:Int) w:=λw=>by simp[Go.asInt,asIntOf]
 have g1:¬ ((n:Int)<0):=by omega
 have g2:¬ ((281474976710656:Int)<(n:Int)*16):=by omega
 have g3:¬ (n=0):=by omega
 have g4:¬ (281474976710656<Builtin.nextslicecap n 0*16):=by
  have:=growslice_fits (bytes:=16) (need:=n) (old:=0) (by omega) (by omega)
  omega
 have hge:=grownCap_ge w n 0 9
 refine⟨qD (Value.string ⟨#[]⟩).cells n++qD (Value.string ⟨#[]⟩).cells (grownCap w n 0 9-n),?_,?_⟩
 ·simp[qD,Value.cells]; omega
 ·simp[zU,run_underlying hu,run_underlying he,sizeOf,typeInfo,zeroValue,hi,IW,hz1,hz2,ai,w1,Builtin.lenOf,qN,Question.forced,newRow,grownCap,g1,g2,g3,g4]
  intro h
  omega
theorem CC.grow(n:Nat)(w:World)(J:n*16<=140737488355328):Calls Tryz.prog 117 #[.slice zE 0 0,.int .i64 (n:Int)] w λe w'=>∃ v,e=.returned v/\w'.ownsRow w.heap.size 9 1 v 0 []/\Below w.heap.size w w':=by
 go_enter Tryz.func117,Tryz.ntmps117
 by_cases hn:0<n
 ·obtain⟨cs,QY,hr⟩:=CC.Ev (ty:=38) w hn J
  go_wp2_with (first
   | (at_builtin; refine CC.wp _ rfl _ _ _ _ rfl _ _ hr ?_)
   | go_in)
  go_ret
  refine⟨_,rfl,⟨rfl,.inr ⟨w.heap.size,_,cs,rfl,W _,by show(w.heap.push (zA cs 9))[w.heap.size]? = _; exact Array.getElem?_push_size,qK _,grownCap_le_maxLen w n 0 9 (by unfold maxLen; omega),by rw[QY,Nat.mul_one],rfl⟩⟩,?_⟩
  have hB:Below w.heap.size w (w.alloc (.cells cs 9)):=(Below.refl _ _).alloc (W _) _
  exact⟨hB.os,hB.tape,hB.output,hB.size,hB.block⟩
 ·obtain rfl:n=0:=by omega
  go_wp2
  go_ret
  exact⟨_,rfl,World.ownsRow_nil _ _ _ _,Below.refl _ _⟩
/-- The texts of a slice whose block lies below n₀. -/
def CC.Strs(n₀:Nat)(zD:World)(sv:Value)(l:List (List UInt8)):Prop:=(∃ a,sv=.slice a 0 0/\l=[])\/∃ b off cap,sv=.slice (some ⟨b,off,zE⟩) l.length cap/\b<n₀/\∀ j (hj:j<l.length),zD.cell? ⟨b,off+j,zE⟩=some (.string ⟨l[j].toArray⟩)
def CC.cells(l:List (List UInt8)):List Value:=l.map λs=>.string ⟨s.toArray⟩
/-- How many texts the first k slices have; which. -/
def CC.fl(ls:List (List (List UInt8)))(k:Nat):Nat:=(ls.take k).flatten.length
def CC.out(ls:List (List (List UInt8)))(k:Nat):List Value:=CC.cells (ls.take k).flatten
def CC.at(ls:List (List (List UInt8)))(k:Nat):List (List UInt8):=ls.getD k []
theorem CC.take_succ{ls:List (List (List UInt8))}{k:Nat}(hk:k<ls.length):(ls.take (k+1)).flatten=(ls.take k).flatten++CC.at ls k:=by
 rw[zW hk,List.flatten_append,List.flatten_singleton]
 simp[CC.at,hk]
theorem CC.z6C{ls:List (List (List UInt8))}{k:Nat}(hk:k<ls.length):CC.fl ls (k+1)=CC.fl ls k+(CC.at ls k).length:=by
 unfold CC.fl; rw[CC.take_succ hk,List.length_append]
theorem CC.z3O{ls:List (List (List UInt8))}{k:Nat}(hk:k<ls.length):CC.out ls (k+1)=CC.out ls k++CC.cells (CC.at ls k):=by
 unfold CC.out CC.cells; rw[CC.take_succ hk,List.map_append]
theorem CC.zfH(ls:List (List (List UInt8)))(k:Nat):CC.fl ls k<=CC.fl ls ls.length:=by
 unfold CC.fl
 rw[List.take_length]
 conv=>rhs; rw[<- List.take_append_drop k ls,List.flatten_append,List.length_append]
 omega
theorem CC.concat(b off cap L:Nat)(svs:Nat->Value)(ls:List (List (List UInt8)))(w:World)(hL:L=ls.length)(JF:L*24<=140737488351232)(J:b<w.heap.size)
  (hc:∀ j,j<L->w.cell? ⟨b,off+j,zE⟩=some (svs j)) (hs:∀ j,j<L->CC.Strs w.heap.size w (svs j) (CC.at ls j)) (zp4:CC.fl ls L*16<=140737488355328) :
  Calls Tryz.prog 60 #[.slice (some ⟨b,off,zE⟩) L cap] w λe w'=>∃ v,e=.returned v/\w'.ownsRow w.heap.size 9 1 v (CC.fl ls L) (CC.out ls L)/\Below w.heap.size w w':=by
 obtain⟨i0,hi,IW,hz1,hz2⟩:=info_parts CC.info
 have Ke:∀ k,k<L->CC.fl ls (k+1)=CC.fl ls k+(CC.at ls k).length:=λk hk=>CC.z6C (by omega)
 have hou:∀ k,k<L->CC.out ls (k+1)=CC.out ls k++CC.cells (CC.at ls k):=λk hk=>CC.z3O (by omega)
 have hle:∀ k,CC.fl ls k<=CC.fl ls L:=λk=>hL▸CC.zfH ls k
 have hf0:CC.fl ls 0=0:=rfl
 have ho0:CC.out ls 0=[]:=rfl
 generalize CC.fl ls=fl at *
 generalize CC.out ls=out at *
 generalize CC.at ls=at_ at *
 clear hL ls
 generalize hM:fl L=M at *
 go_enter Tryz.func60,Tryz.ntmps60
 go_wp2
 go_loopw [3,11] (λsz i wr=>∃ k:Nat,k<=L/\i=.int .i64 k/\sz=.int .i64 (fl k:Int)/\w=wr) (λ_ i _=>L-(intOf i).toNat)
 case atStart=>exact⟨0,qK _,rfl,by rw[hf0]; rfl,rfl⟩
 case round =>
  obtain⟨k,hk,rfl,rfl,rfl⟩:=hrel
  by_cases wO:k<L
  ·have eW:=hc k wO
   have hS:=hs k wO
   have h1:=Ke k wO
   have X:=hle (k+1)
   have hSq:∃ a c,svs k=.slice a (at_ k).length c:=by
    rcases hS with⟨a,e,he⟩ | ⟨b1,o1,c1,e,_,_⟩
    ·exact⟨a,0,by rw[e,he]; rfl⟩
    ·exact⟨_,c1,e⟩
   obtain⟨a1,c1,e1⟩:=hSq
   rw[e1]at eW
   clear hc hs hS Ke hou hle e1
   generalize hq:(at_ k).length=q at *
   generalize hm:fl k=m at *
   generalize hm':fl (k+1)=m' at *
   go_wp2
   go_roundw
   case rel=>exact⟨k+1,by omega,by go_num,by rw[hm',h1]; go_num,by first | rfl | trivial⟩
   case measure=>simp[intOf]; omega
  ·have hkl:k=L:=by omega
   subst hkl
   rw[hM]
   have hg:=CC.grow M w zp4
   go_wp2_with (first
    | (go_at_call 117; refine hg.mono ?_; rintro e w1 ⟨v1,rfl,pz,hB⟩)
    | go_in)
   clear hg
   go_loopw [6,27] (λo i wr'=>∃ j:Nat,j<=k/\i=.int .i64 j/\wr'.ownsRow w.heap.size 9 1 o (fl j) (out j)/\Below w.heap.size w wr') (λ_ i _=>k-(intOf i).toNat)
   case atStart=>exact⟨0,qK _,rfl,by rw[hf0,ho0]; exact pz,hB⟩
   case round =>
    obtain⟨j,hj,rfl,pz,hB⟩:=hrel
    by_cases M1:j<k
    ·have eW:wr.cell? ⟨b,off+j,zE⟩=some (svs j):=(hB.cell (p:=⟨b,off+j,zE⟩) J).trans (hc j M1)
     have h1:=Ke j M1
     have X:=hle (j+1)
     have h3:=hou j M1
     rcases hs j M1 with⟨a,e,he⟩ | ⟨b1,o1,c1,e,IU,QY⟩
     ·rw[e]at eW
      rw[he]at h1 h3
      have e1:fl (j+1)=fl j:=by rw[h1]; rfl
      have e2:out (j+1)=out j:=by rw[h3]; simp[CC.cells]
      have hv:∃ base n cap,u6=.slice base n cap/\n<=cap:=by
       rcases pz.2 with⟨rfl,_⟩ | ⟨g,U8,cur,rfl,_,_,jq,_⟩
       ·exact⟨_,_,_,rfl,W _⟩
       ·exact⟨_,_,_,rfl,jq⟩
      obtain⟨base,n,U8,rfl,jq⟩:=hv
      have hr:=CC.Ew (base:=base) (n:=n) (cap:=U8) (a:=a) (ty:=38) wr jq
      clear hc hs Ke hou hle hf0 ho0 he e
      go_wp2_with (first
       | (at_builtin; refine CC.wp _ rfl _ _ _ _ rfl _ _ hr ?_)
       | go_in)
      go_roundw
      case rel=>exact⟨j+1,by omega,by go_num,by rw[e1,e2]; exact pz,hB⟩
      case measure=>simp[intOf]; omega
     ·rw[e]at eW
      have hB1:=hB.size
      have B:(CC.cells (at_ j)).length=(at_ j).length*1:=by simp[CC.cells]
      have Q8:∀ u∈CC.cells (at_ j),u.oneCell'=true:=by
       intro u hu
       obtain⟨s,_,rfl⟩:=List.mem_map.1 hu
       rfl
      have zht:∀ i u,(CC.cells (at_ j))[i]? = some u->wr.cell? ((⟨b1,o1,zE⟩:Addr).add i)=some u:=by
       intro i u hu
       have Jm:i<(at_ j).length:=by
        have:=(List.getElem?_eq_some_iff.1 hu).1
        simpa[CC.cells]using this
       have zcF:(⟨b1,o1,zE⟩:Addr).add i=⟨b1,o1+i,zE⟩:=by unfold Addr.add; split<;>simp_all
       rw[zcF,(hB.cell (p:=⟨b1,o1+i,zE⟩) IU),QY i Jm,<- hu]
       simp[CC.cells,Jm]
      clear hc hs Ke hou hle hf0 ho0 e QY
      generalize CC.cells (at_ j)=news at *
      generalize hq:(at_ j).length=q at *
      go_wp2_with (first
       | (at_builtin; refine wpList_append_own _ rfl _ _ 38 rfl w.heap.size 9 i0 (.string ⟨#[]⟩) 1 16 Tryz.underlying38 hi IW hz1 hz2 rfl (by decide) _ _ _ rfl pz ⟨b1,o1,zE⟩ q c1 news rfl B zht Q8 (by unfold maxLen; omega) (by omega) hB1 ?_; intro v' w' zhx zcN zrW)
       | go_in)
      go_roundw
      case rel=>exact⟨j+1,by omega,by go_num,by rw[h1,h3]; exact zhx,hB.grown zcN hB.size (λi hi=>(pz.lt i hi).1)⟩
      case measure=>simp[intOf]; omega
    ·have hjk:j=k:=by omega
     subst hjk
     clear hc hs Ke hou hle
     go_wp2
     go_ret
     exact⟨_,rfl,by rw[hM]at pz; exact pz,hB⟩
end
end Go.Proofs
namespace Go.AM.Lf
open Go.Proofs Go.Proofs.Tryz
theorem za1{O:KS}{l:List zo}{cs:List Value}(hI:Inv O)(h:Rc O.w O.ok (.sl .str) l cs):∃ v,cs=[v]/\CC.Strs O.w.heap.size O.w v l:=by
 rcases h.tY with⟨rfl,a,e⟩ | ⟨blk,off,cap,g,e,j9,jq,hg,hc⟩
 ·exact⟨_,e,.inl ⟨a,rfl,rfl⟩⟩
 ·refine⟨_,e,.inr ⟨blk,off,cap,rfl,hI.cq blk j9,λj hj => ?_⟩⟩
  have h3:=hc j hj 0 (.string ⟨l[j].toArray⟩) (by rw[(hg j hj).jk]; rfl)
  simpa[Ty.size]using h3
theorem zq4:zy Tryz.prog 60 ⟨[.ty (.sl (.sl .str))],[.sl .str],λx=>jf x⟩:=by
 refine jL Tryz.func60 (by kernel_rfl) rfl λO (ls:List (List zo)) xa y hy hI ha => ?_
 obtain⟨⟨h0,h1,X⟩,hy⟩:=hy
 cases hy
 obtain⟨v0,r,rfl,Y8,ha⟩:=wQ.cons_inv (show wQ O [.qi (.sl (.sl .str)) ls] xa from ha)
 rw[ha.wh]
 have hv:=RD.jQ (O:=O) (τ:=.sl (.sl .str)) (x:=ls) Y8 rfl
 rcases hv.tY with⟨rfl,a,e⟩ | ⟨blk,off,cap,g,e,j9,jq,hg,hc⟩
 ·exact absurd rfl X
 ·cases e
  have Q6:∀ j (hj:j<ls.length),∃ v,g j=[v]/\CC.Strs O.w.heap.size O.w v ls[j]:=λj hj=>za1 hI (hg j hj)
  have eW:∀ j,j<ls.length->O.w.cell? ⟨blk,off+j,none⟩=some ((g j).headD (.bool false)):=λj hj=>by
   obtain⟨v,hv,_⟩:=Q6 j hj
   have h3:=hc j hj 0 v (by rw[hv]; rfl)
   rw[hv]
   simpa[Ty.size]using h3
  have Ke:ls.flatten=(ls.take ls.length).flatten:=by rw[List.take_length]
  refine(CC.concat blk off cap ls.length (λj=>(g j).headD (.bool false)) ls O.w rfl h0 (hI.cq blk j9) eW (λj hj => ?_) (by unfold CC.fl; rw[<- Ke]; exact h1)).mono ?_
  ·obtain⟨v,hv,hs⟩:=Q6 j hj
   rw[hv]
   have:CC.at ls j=ls[j]:=by simp[CC.at,hj]
   rw[this]; exact hs
  ·rintro e w' ⟨v,rfl,pz,hB⟩
   refine⟨hB,λ_=>⟨_,rfl,?_⟩⟩
   unfold CC.fl CC.out at pz
   rw[<- Ke]at pz
   show RD _ (.qi (.sl .str) ls.flatten) v
   refine RD.Zk rfl ?_
   rcases pz.2 with⟨rfl,hn⟩ | ⟨gb,U8,cur,rfl,hgb,zcI,hle,hmax,cp,htk⟩
   ·rw[zY hn]
    exact .ma .str none
   ·refine .sl .str _ gb 0 U8 (λi=>[.string ⟨(ls.flatten[i]?.getD []).toArray⟩]) (.inr ⟨hgb,(Array.getElem?_eq_some_iff.1 zcI).1⟩) hle (λi hi => ?_) (λi hi j u hu => ?_)
    ·rw[zT hi]
     exact .str _
    ·match j,hu with
     | 0,hu =>
      simp only[List.getElem?_cons_zero,Option.some.injEq]at hu
      have e0:(0:Nat)+i*Ty.size .str+0=i:=by show 0+i*1+0=i; omega
      show w'.cell? ⟨gb,0+i*Ty.size .str+0,none⟩=some u
      rw[e0,cell_of_row w' gb i cur _ (0,0) zcI,<- hu]
      have h4:(cur.toList.take (ls.flatten.length*1))[i]? = (CC.cells ls.flatten)[i]? := by rw[htk]
      rw[List.getElem?_take_of_lt (by omega)]at h4
      rw[<- Array.getElem?_toList,h4]
      unfold CC.cells
      rw[List.getElem?_map,zT hi]; rfl
end Go.AM.Lf

namespace Go.AM.Lf
open Go.Proofs Go.Proofs.Tryz
def t89:=t88.d zq4
theorem zq9:zy Pz 65 ⟨[.ty qg,.rp .str],[.bool],λx=>uI x.1 x.2⟩:=wv t89 (rz [2]) hN func65 [] zh
def t90:=t89.d zq9
def FP:q8:=Lz [] [Mm 0 (.sl qg),.s 1 (.wj 65 [.rp .str]),Mi 7] dx [kZ,oP] λp s=>j8 p.1 (λz0=>uI z0 p.2.1) p.2.2 s
def zaC:Hints:=Hz [(0,FP)] [] []
theorem z2h:LO Tryz.f85 FP 0:=lk t90 rn zaC [] zh
theorem z3G:zy Pz 85 ⟨[.ty (.sl qg),.wj 65 [.rp .str]],[i64],λx=>vN x.1 (λz0=>uI z0 x.2)⟩:=wv t90 rn zaC func85 [0] (qf rfl z2h zh)
def t91:=t90.d z3G
theorem z3A:zy Pz 64 ⟨[.ty (.sl qg),.wj 65 [.rp .str]],[.bool],λx=>vV x.1 (λz0=>uI z0 x.2)⟩:=wv (t91.d z3G) rn hN func64 [] zh
def t92:=t91.d z3A
theorem zq6:zy Pz 62 ⟨[.ty .str,.rp (.sl .str),.rp qx],[.bool],λx=>yQ x.1 x.2.1 x.2.2⟩:=wv (t92.d z3A) (rz [3]) hN func62 [] zh
def t93:=t92.d zq6
def FG:q8:=Lz [] [Mm 0 (.sl .str),.s 1 (.wj 62 [.rp (.sl .str),.rp qx]),Mi 7] dx [kZ,oP] λp s=>uS p.1 (λz0=>yQ z0 p.2.1.1 p.2.1.2) p.2.2 s
def zaw:Hints:=Hz [(0,FG)] [] []
theorem z29:LO Tryz.f56 FG 0:=lk t93 rn zaw [] zh
theorem z3x:zy Pz 56 ⟨[.ty (.sl .str),.wj 62 [.rp (.sl .str),.rp qx]],[i64],λx=>wX x.1 (λz0=>yQ z0 x.2.1 x.2.2)⟩:=wv t93 rn zaw func56 [0] (qf rfl z29 zh)
def t94:=t93.d z3x
def T26:Tb:=t94.d z3x
def z2C:q8:=Lz [] [Mr 2 qx,Mr 3 (.sl .str),Mm 13 (.sl xk),Mi 14] ⟨[Mm 6 (.sl .str),Mi 15],[],[]⟩ [⟨.exit 0,z5q⟩] λp s=>mq p.1 p.2.1 p.2.2.1 p.2.2.2 s
def z2D:q8:=Lz [] [Mr 2 qx,Mr 3 (.sl .str),Mm 30 (.sl xn),Mi 31] ⟨[Mm 6 (.sl .str),Mi 32],[],[]⟩ [⟨.exit 2,z5q⟩] λp s=>mr p.1 p.2.1 p.2.2.1 p.2.2.2 s
def h26:Hints:=Hz [(0,z2C),(2,z2D)] [] []
theorem zdx:LO Tryz.f26 z2C 0:=lk T26 (rz [2,3]) h26 [] zh
theorem zdy:LO Tryz.f26 z2D 2:=lk T26 (rz [2,3]) h26 [] zh
theorem zpA:zy Pz 26 ⟨[.ty qx,.ty (.sl .str)],[.str,.bool],λx=>mU x.1 x.2⟩:=wv T26 (rz [2,3]) h26 func26 [0,2] (qf rfl zdx (qf rfl zdy zh))
def t95:=t94.d zpA
theorem ziL:zy Pz 121 ⟨[.ty .str,.rp (.sl .str)],[.bool],λx=>cz x.1 x.2⟩:=wv t95 rn hN func121 [] zh
def t96:=t95.d ziL
def FH:q8:=Lz [] [Mm 0 (.sl .str),.s 1 (.wj 121 [.rp (.sl .str)]),Mi 7] dx [kZ,oP] λp s=>uS p.1 (λz0=>cz z0 p.2.1) p.2.2 s
def zax:Hints:=Hz [(0,FH)] [] []
theorem z2a:LO Tryz.f56 FH 0:=lk t96 rn zax [] zh
theorem z3y:zy Pz 56 ⟨[.ty (.sl .str),.wj 121 [.rp (.sl .str)]],[i64],λx=>wX x.1 (λz0=>cz z0 x.2)⟩:=wv t96 rn zax func56 [0] (qf rfl z2a zh)
def t97:=t96.d z3y
theorem ziK:zy Pz 120 ⟨[.ty (.sl .str),.wj 121 [.rp (.sl .str)]],[.bool],λx=>kP x.1 (λz0=>cz z0 x.2)⟩:=wv (t97.d z3y) rn hN func120 [] zh
def t98:=t97.d ziK
theorem zqa:zy Pz 66 ⟨[.ty .expr,.ty (.sl .str)],[.bool],λx=>Z7 x.1 x.2⟩:=wv t98 (rz [2,3]) hN func66 [] zh
def t99:=t98.d zqa
abbrev Y27:=eG [.ty .expr,.ty (.sl .str)]->T (E9 [.bool])
abbrev H27(F:Y27):=zy Pz 27 ⟨[.ty .expr,.ty (.sl .str)],[.bool],F⟩
theorem zm0(ea:Y27)(Vm:H27 ea):zy Pz 68 ⟨[.ty .expr,.rp (.sl .str)],[.bool],λx=>j6 (λy0 y1=>ea (y0,y1)) x.1 x.2⟩:=wv (t99.d Vm) (rz [2]) hN func68 [] zh
def z0f(ea:Y27)(Vm:H27 ea):Tb:=t99.d (zm0 _ Vm)
def BH(ea:Y27):q8:=Lz [] [Mm 0 (.sl .expr),.s 1 (.wj 68 [.rp (.sl .str)]),Mi 7] dx [kZ,oP] λp s=>yD (λy0 y1=>ea (y0,y1)) p.1 (λz0=>(j6 (λy0 y1=>ea (y0,y1))) z0 p.2.1) p.2.2 s
def z18(ea:Y27):Hints:=Hz [(0,BH ea)] [] []
theorem T0(ea:Y27)(Vm:H27 ea):LO Tryz.f122 (BH ea) 0:=lk (z0f ea Vm) rn (z18 ea) [] zh
theorem z9n(ea:Y27)(Vm:H27 ea):zy Pz 122 ⟨[.ty (.sl .expr),.wj 68 [.rp (.sl .str)]],[i64],λx=>bu (λy0 y1=>ea (y0,y1)) x.1 (λz0=>(j6 (λy0 y1=>ea (y0,y1))) z0 x.2)⟩:=wv (z0f ea Vm) rn (z18 ea) func122 [0] (qf rfl (T0 ea Vm) zh)
theorem zeb(ea:Y27)(Vm:H27 ea):zy Pz 67 ⟨[.ty (.sl .expr),.wj 68 [.rp (.sl .str)]],[.bool],λx=>ji (λy0 y1=>ea (y0,y1)) x.1 (λz0=>(j6 (λy0 y1=>ea (y0,y1))) z0 x.2)⟩:=wv (t99.d (z9n _ Vm)) rn hN func67 [] zh
def h27(ea:Y27):Hints:=Hz [] [(0,3,.ways [⟨.normal,⟨[Mb 41,.v (.qi .expr),.v (.qi .expr)],[],II⟩⟩]),(3,1,.ways [⟨.normal,⟨[],[],[]⟩⟩,RT])] []
theorem zea(ea:Y27)(Vm:H27 ea):zy Pz 27 ⟨[.ty .expr,.ty (.sl .str)],[.bool],λx=>dA (λy0 y1=>ea (y0,y1)) x.1 x.2⟩:=wv ((t99.d (zeb _ Vm)).d (zm0 _ Vm)) (rz [2,3]) (h27 ea) func27 [] zh
theorem zpB:zy Pz 27 ⟨[.ty .expr,.ty (.sl .str)],[.bool],λx=>iB x.1 x.2⟩:=YT (λea x=>dA (λy0 y1=>ea (y0,y1)) x.1 x.2) (λx=>rfl) (λea Vm=>zea ea Vm)
def t100:=t99.d zpB
def z2n:q8:=Lz [.slot 8 .str] [Mr 1 qx,Mm 46 (.sl qw),Mi 47] ⟨[Mi 48,.a .str],[(8,.cur 0 .str)],o5⟩ [⟨.exit 1,⟨[.a .str],[(8,.cur 0 .str)],o5⟩⟩] λp s=>ob p.1 p.2.1 p.2.2 s
def z2o:q8:=Lz [] [Mm 67 (.sl xn),Mi 68] ⟨[Mi 69,.a .str],[(8,.cur 0 .str)],o5⟩ [⟨.exit 3,⟨[.a .str],[],o5⟩⟩,⟨.ret,⟨[Mi 2,Ms 3,.a .str],[],o5⟩⟩] λp s=>od p.1 p.2 s
def h13:Hints:=Hz [(1,z2n),(3,z2o)] [(0,3,.flat [Mb 19]),(0,23,.ways [⟨.normal,⟨[Mb 84,.a .str,.v (.qi xn)],[(8,.cur 0 .str)],[.arr .str,.var (.qi xn)]⟩⟩])] []
theorem zdi:LO Tryz.f13 z2n 1:=lk t100 (rz [1]) h13 [] zh
theorem zdj:LO Tryz.f13 z2o 3:=lk t100 (rz [1]) h13 [] zh
theorem zpp:zy Pz 13 ⟨[.ty qx],[i64,.str],λx=>iC x⟩:=wv t100 (rz [1]) h13 func13 [1,3] (qf rfl zdi (qf rfl zdj zh))
def t101:=t100.d zpp
theorem zpD:zy Pz 29 ⟨[.ty qx],[.str],λx=>nV x⟩:=wv t101 (rz [1]) hN func29 [] zh
def t102:=t101.d zpD
theorem zqc:zy Tryz.prog 69 ⟨[.ty .str,.ty .str],[.sl .str],λx=>strings_Split x.1 x.2⟩:=by
 refine jL Tryz.func69 (by kernel_rfl) rfl λO x xa y hy hI ha => ?_
 obtain⟨s,sep⟩:=x
 obtain⟨⟨h0,h1⟩,hy⟩:=hy
 cases hy
 obtain⟨v0,r,rfl,Y8,ha⟩:=wQ.cons_inv (show wQ O [.qi .str s,.qi .str sep] xa from ha)
 obtain⟨v1,r,rfl,LP,ha⟩:=ha.cons_inv
 rw[ha.wh,Y8.jk,LP.jk]
 obtain⟨m,hm⟩:=yi hI
 refine(Go.Proofs.Tryz.strings_Split ⟨s.toArray⟩ ⟨sep.toArray⟩ m O.w (by rw[show(zF ⟨s.toArray⟩)=zH s from Y]; exact h0) hm (by rw[show(zF ⟨sep.toArray⟩)=zH sep from Y]; simp only at h1; omega)).mono ?_
 rintro e w' ⟨rfl,rfl⟩
 refine⟨K4 _ _,λ_=>⟨_,rfl,?_⟩⟩
 exact z4i s sep h1 _
def t103:=t102.d zqc
theorem ziN:zy Tryz.prog 124 ⟨[.ty .str,.ty .str],[.str,.str,.bool],λx=>strings_Cut x.1 x.2⟩:=by
 refine jL Tryz.func124 (by kernel_rfl) rfl λO x xa y hy hI ha => ?_
 obtain⟨s,sep⟩:=x
 obtain⟨h0,hy⟩:=hy
 cases hy
 obtain⟨v0,r,rfl,Y8,ha⟩:=wQ.cons_inv (show wQ O [.qi .str s,.qi .str sep] xa from ha)
 obtain⟨v1,r,rfl,LP,ha⟩:=ha.cons_inv
 rw[ha.wh,Y8.jk,LP.jk]
 obtain⟨m,hm⟩:=yi hI
 refine(Go.Proofs.Tryz.strings_Cut ⟨s.toArray⟩ ⟨sep.toArray⟩ m O.w (by rw[show(zF ⟨s.toArray⟩)=zH s from Y]; exact h0) hm).mono ?_
 rintro e w' ⟨rfl,n,rfl⟩
 refine⟨below_drewN _ _,λ_=>⟨_,rfl,?_⟩⟩
 rw[show Lib.cut (⟨s.toArray⟩:ByteArray).data.toList (⟨sep.toArray⟩:ByteArray).data.toList=Ue s sep from z0I s sep]
 exact RD.zqQ RD.str RD.str RD.bool
def t104:=t103.d ziN
theorem zjy:zy Pz 180 ⟨[.ty (.int .i32)],[.bool],λx=>sJ x⟩:=wv t104 rn hN func180 [] zh
def t105:=t104.d zjy
theorem z9J(w:World):Go.Proofs.PredAtRunes Tryz.prog 180 #[] (λn=>n==32) w:=λzD x U J=>by
 show Calls Tryz.prog 180 #[.int .i32 (x:Int)] zD _
 have hn:Tryz.f180.ntmps=5:=by kernel_rfl
 have V:((x:Int)==32)=(x==32):=by rw[Bool.eq_iff_iff,beq_iff_eq,beq_iff_eq]; omega
 go_enter Tryz.func180,hn
 go_wp2
 go_ret
 exact⟨by rw[<- V]; rfl,0,rfl⟩
theorem zjx:zy Tryz.prog 179 ⟨[.ty .str,.wj 180 []],[.sl .str],λx=>strings_FieldsFunc x.1 (λz0=>sJ z0)⟩:=by
 refine jL Tryz.func179 (by kernel_rfl) rfl λO x xa y hy hI ha => ?_
 obtain⟨s,c⟩:=x
 obtain⟨h0,hy⟩:=hy
 cases hy
 obtain⟨v0,r,rfl,Y8,ha⟩:=wQ.cons_inv (show wQ O [.qi .str s,.wj 180 []] xa from ha)
 obtain⟨v1,r,rfl,LP,ha⟩:=ha.cons_inv
 rw[ha.wh,Y8.jk,LP.z0z (by rfl)]
 refine(Go.Proofs.Tryz.strings_FieldsFunc_runes 180 #[] (λargs w=>o8 Tryz.func180 (by kernel_rfl) rfl w) (λn=>n==32) ⟨s.toArray⟩ O.w (by rw[show(zF ⟨s.toArray⟩)=zH s from Y]; exact h0) (z9J O.w)).mono ?_
 rintro e w' ⟨A,rfl,hA,ho,hB⟩
 refine⟨hB,λ_=>⟨_,rfl,?_⟩⟩
 exact Ss s ho
def t106:=t105.d zjx
theorem ziO:zy Pz 125 ⟨[.ty .str],[(.sl .str)],λx=>il x⟩:=wv t106 rn hN func125 [] zh
def t107:=t106.d ziO
theorem zkl:zy Tryz.prog 234 ⟨[.ty .str,.ty .str],[i64],λx=>strings_IndexAny x.1 x.2⟩:=by
 refine jL Tryz.func234 (by kernel_rfl) rfl λO x xa y hy hI ha => ?_
 obtain⟨s,chars⟩:=x
 obtain⟨⟨h0,h1,X,h3⟩,hy⟩:=hy
 cases hy
 obtain⟨v0,r,rfl,Y8,ha⟩:=wQ.cons_inv (show wQ O [.qi .str s,.qi .str chars] xa from ha)
 obtain⟨v1,r,rfl,LP,ha⟩:=ha.cons_inv
 rw[ha.wh,Y8.jk,LP.jk]
 refine(Go.Proofs.Any.XS Go.Proofs.Tryz.lays153 (λ_=>by kernel_rfl) (by kernel_rfl) ⟨s.toArray⟩ ⟨chars.toArray⟩ O.w (by rw[show(zF ⟨chars.toArray⟩)=zH chars from Y]; exact h1) (by rw[show(zF ⟨s.toArray⟩)=zH s from Y]; exact h0) (by rw[show(zF ⟨chars.toArray⟩)=zH chars from Y]; exact X) h3).mono ?_
 rintro e w' ⟨rfl,hB⟩
 refine⟨hB,λ_=>⟨_,rfl,?_⟩⟩
 have e1:Lib.indexAny s chars=rS s chars:=By chars s
 show RD _ (.qi i64 (rS s chars)) _
 rw[<- e1]
 exact RD.int
def t108:=t107.d zkl
def znY:Hints:=Hz [] [(0,1,.flat [Mb 4])] []
theorem zl6:zy Pz 290 ⟨[.ty .str,.ty .str],[.bool],λx=>kh x.1 x.2⟩:=wv t108 rn znY func290 [] zh
def t109:=t108.d zl6
theorem zkm:zy Pz 235 ⟨[.ty .str,.ty .str],[.bool],λx=>strings_HasPrefix x.1 x.2⟩:=wv t109 rn hN func235 [] zh
def t110:=t109.d zkm
def PH:q8:=Lz [] [] oU [Nl] λp s=>bQ  s
def zgJ:Hints:=Hz [(0,PH)] [(0,0,.flat [Mb 23])] []
theorem z9b:LO Tryz.f374 PH 0:=lk t110 rn zgJ [] zh
theorem zlU:xx Pz 374 ⟨[.ptr],oU,[],RQ,0,λx=>dJ x⟩:=eP t110 rn zgJ func374 [0] (qf rfl z9b zh)
def t111:=t110.s zlU
theorem zlw:zy Tryz.prog 320 ⟨[.ty .str,.ty (.int .u8)],[i64],λx=>strings_IndexByte x.1 x.2⟩:=by
 refine jL Tryz.func320 (by kernel_rfl) rfl λO x xa y hy hI ha => ?_
 obtain⟨s,c⟩:=x
 cases hy
 obtain⟨v0,r,rfl,Y8,ha⟩:=wQ.cons_inv (show wQ O [.qi .str s,.qi (.int .u8) c] xa from ha)
 obtain⟨v1,r,rfl,LP,ha⟩:=ha.cons_inv
 rw[ha.wh,Y8.jk,LP.ev]
 refine(Go.Proofs.Tryz.strings_IndexByte ⟨s.toArray⟩ c O.w).mono ?_
 rintro e w' ⟨rfl,rfl⟩
 refine⟨ZK _,λ_=>⟨_,rfl,?_⟩⟩
 have e1:Lib.indexByte s (byteOf c)=Uy s (byteOf c):=z7v s (byteOf c)
 show RD _ (.qi i64 (Uy s (byteOf c))) _
 rw[<- e1]
 exact RD.int
def t112:=t111.d zlw
def zo5:Hints:=Hz [] [(0,2,.ways [⟨.normal,⟨[Mb 30,.v (.qi xl)],[],VV⟩⟩])] []
theorem zlR:xx Pz 364 ⟨mc,⟨[Ms 1,.v (.qi xl)],[(0,.ptr 0 0)],VV⟩,[],⟨[Mm 0 (.int .u8),.v (.qi xl)],[],VV⟩,1,λx=>uJ x.1 x.2⟩:=eP t112 rn zo5 func364 [] zh
def t113:=t112.s zlR
theorem zlz:jK Pz 324 ⟨Qz,⟨[Mi 1,Mi 2,.v (.qi xl)],[(0,.ptr 0 0)],VV⟩,[],RQ,0,385,tO,none,λx=>vp x.1 x.2.1 x.2.2⟩:=Y5 t113 rn hN func324 [] zh
def t114:=t113.p zlz
theorem zlV:jK Pz 375 ⟨[.ptr],oU,[],RQ,0,385,tO,none,λx=>kK x⟩:=Y5 t114 rn hN func375 [] zh
def t115:=t114.p zlV
def PJ:q8:=Lz [] [.s 1 (.wj 224 []),Mi 2,Mi 7] oU [Nl] λp s=>yz (λz0=>jt z0) p.2.1 p.2.2 s
def zgK:Hints:=Hz [(0,PJ)] [(0,2,.ways [z5F])] []
theorem z9c:LO Tryz.f377 PJ 0:=lk t115 rn zgK [] zh
theorem zlX:xx Pz 377 ⟨[.ptr,.wj 224,.any],⟨[.s 1 (.wj 224 []),Mi 2,.v (.qi xl)],[(0,.ptr 0 0)],VV⟩,[],z5d,1,λx=>uK (λz0=>jt z0) x.2.1 x.2.2⟩:=eP t115 rn zgK func377 [0] (qf rfl z9c zh)
def t116:=t115.s zlX
theorem zkp:zy Tryz.prog 238 ⟨[.ty .str,.ty .str],[.str,.bool],λx=>strings_CutPrefix x.1 x.2⟩:=by
 refine jL Tryz.func238 (by kernel_rfl) rfl λO x xa y hy hI ha => ?_
 obtain⟨s,p⟩:=x
 cases hy
 obtain⟨v0,r,rfl,Y8,ha⟩:=wQ.cons_inv (show wQ O [.qi .str s,.qi .str p] xa from ha)
 obtain⟨v1,r,rfl,LP,ha⟩:=ha.cons_inv
 rw[ha.wh,Y8.jk,LP.jk]
 refine(Go.Proofs.Tryz.strings_CutPrefix ⟨s.toArray⟩ ⟨p.toArray⟩ O.w).mono ?_
 rintro e w' ⟨rfl,rfl⟩
 refine⟨ZK _,λ_=>⟨_,rfl,?_⟩⟩
 exact RD.za4 RD.str RD.bool
def t117:=t116.d zkp
def Pm:q8:=Lz [] [Mm 1 (.int .u8)] QQ [KG] λp s=>bA p s
def zgB:Hints:=Hz [(0,Pm)] [(0,1,.flat [Mb 16])] []
theorem z8U:LO Tryz.f326 Pm 0:=lk t117 rn zgB [] zh
theorem zlB:zy Pz 326 ⟨[.ty .str,.ty (.int .u8)],[.str],λx=>strings_trimRightByte x.1 x.2⟩:=wv t117 rn zgB func326 [0] (qf rfl z8U zh)
def t118:=t117.d zlB
def Pl:q8:=Lz [] [Mm 1 (.int .u8)] QQ [KG] λp s=>cd p s
def zgA:Hints:=Hz [(0,Pl)] [(0,1,.flat [Mb 13])] []
theorem z8T:LO Tryz.f325 Pl 0:=lk t118 rn zgA [] zh
theorem zlA:zy Pz 325 ⟨[.ty .str,.ty (.int .u8)],[.str],λx=>strings_trimLeftByte x.1 x.2⟩:=wv t118 rn zgA func325 [0] (qf rfl z8T zh)
def t119:=t118.d zlA
theorem zl4:zy Tryz.prog 288 ⟨[.ty .str],[(nu .bool 256),.bool],λx=>strings_makeASCIISet x⟩:=by
 refine jL Tryz.func288 (by kernel_rfl) rfl λO s xa y hy hI ha => ?_
 obtain⟨⟨h0,h1⟩,hy⟩:=hy
 cases hy
 obtain⟨v0,r,rfl,Y8,ha⟩:=wQ.cons_inv (show wQ O [.qi .str s] xa from ha)
 rw[ha.wh,Y8.jk]
 refine(Go.Proofs.Tryz.strings_makeASCIISet (λ_=>by kernel_rfl) ⟨s.toArray⟩ O.w (by rw[show(zF ⟨s.toArray⟩)=zH s from Y]; exact h0) (by simpa using h1)).mono ?_
 rintro e w' ⟨rfl,rfl⟩
 refine⟨K4 _ _,λ_=>⟨_,rfl,?_⟩⟩
 exact RD.za4 (z0j s) RD.bool
def t120:=t119.d zl4
theorem zl5:zy Pz 289 ⟨[.rp (nu .bool 256),.ty (.int .u8)],[.bool],λx=>vj x.1 x.2⟩:=wv t120 rn hN func289 [] zh
def t121:=t120.d zl5
def Pp:q8:=Lz [] [Mr 1 (nu .bool 256)] QQ [KG] λp s=>uG p s
def zgD:Hints:=Hz [(0,Pp)] [] []
theorem z8W:LO Tryz.f328 Pp 0:=lk t121 rn zgD [] zh
theorem zlD:zy Pz 328 ⟨[.ty .str,.rp (nu .bool 256)],[.str],λx=>jE x.1 x.2⟩:=wv t121 rn zgD func328 [0] (qf rfl z8W zh)
def t122:=t121.d zlD
def Po:q8:=Lz [] [Mr 1 (nu .bool 256)] QQ [KG] λp s=>j4 p s
def zgC:Hints:=Hz [(0,Po)] [] []
theorem z8V:LO Tryz.f327 Po 0:=lk t122 rn zgC [] zh
theorem zlC:zy Pz 327 ⟨[.ty .str,.rp (nu .bool 256)],[.str],λx=>jW x.1 x.2⟩:=wv t122 rn zgC func327 [0] (qf rfl z8V zh)
def t123:=t122.d zlC
def znZ:Hints:=Hz [] [(0,1,.flat [Mb 12]),(0,3,.flat [Mb 21])] []
theorem zl8:zy Pz 293 ⟨[.ty .str,.ty .str],[.str],λx=>cJ x.1 x.2⟩:=wv t123 rn znZ func293 [] zh
def t124:=t123.d zl8
def Pb:q8:=Lz [] [Mm 0 (.sl u32),Mm 1 (.sl u32),Mm 24 (.sl u32),Mi 25] ⟨[Mm 6 (.int .u64),Mi 26,.a u32],[(5,.cur 0 u32)],ir⟩ [⟨.exit 0,⟨[Mm 6 (.int .u64),.a u32],[(5,.cur 0 u32)],ir⟩⟩] λp s=>Vu p.1 p.2.1 p.2.2.1 p.2.2.2 s
def zgx:Hints:=Hz [(0,Pb)] [(3,2,.flat [Mm 0 (.sl u32),Mm 1 (.sl u32)]),(3,10,.flat [Mm 6 (.int .u64)])] [(16,[5])]
theorem z8L:LO Tryz.f294 Pb 0:=lk t124 rn zgx [] zh
theorem zl9:zy Pz 294 ⟨[.ty (.sl u32),.ty (.sl u32)],[(.sl u32)],λx=>UJ x.1 x.2⟩:=wv t124 rn zgx func294 [0] (qf rfl z8L zh)
def t125:=t124.d zl9
def OM:q8:=Lz [] [Ms 0,Mi 19] ⟨[Mm 4 (.sl u32),Mi 20],[],[]⟩ [⟨.exit 0,⟨[Mm 4 (.sl u32)],[],[]⟩⟩] λp s=>Qe p.1 p.2 s
def zgh:Hints:=Hz [(0,OM)] [(0,1,.ways [⟨.normal,⟨[Mb 17],[],[]⟩⟩])] []
theorem z8n:LO Tryz.f239 OM 0:=lk t125 rn zgh [] zh
theorem zkq:zy Pz 239 ⟨[.ty .str],[(.sl u32),.bool],λx=>mI x⟩:=wv t125 rn zgh func239 [0] (qf rfl z8n zh)
def t126:=t125.d zkq
def znI:Hints:=Hz [] [(0,9,.flat [Mb 58]),(3,13,.flat [Ms 14]),(0,17,.flat [Mb 94])] []
theorem zjB:zy Pz 183 ⟨[.ty .str],[zm,i64],λx=>pQ x⟩:=wv t126 rn znI func183 [] zh
def t127:=t126.d zjB
def zo7:Hints:=Hz [] [(0,2,.flat [Mb 35]),(3,2,.ways [⟨.normal,⟨[Ms 3,.v (.qi xl),.v (.qi .expr)],[],RE⟩⟩,⟨.bE (.iface 385 .vb),⟨[Mm 0 uy,.v (.qi xl),.v (.qi .expr)],[],RE⟩⟩])] []
theorem zlW:jK Pz 376 ⟨[.ptr],oU,[],QP,1,385,tO,none,λx=>kJ x⟩:=Y5 t127 rn zo7 func376 [] zh
def t128:=t127.p zlW
def BO:q8:=Lz [] [.s 1 (.wj 165 []),Mi 2,Mi 7] oU [Nl] λp s=>yz (λz0=>yy z0) p.2.1 p.2.2 s
def z1f:Hints:=Hz [(0,BO)] [(0,2,.ways [z5F])] []
theorem T9:LO Tryz.f377 BO 0:=lk t128 rn z1f [] zh
theorem R9:xx Pz 377 ⟨[.ptr,.wj 165,.any],⟨[.s 1 (.wj 165 []),Mi 2,.v (.qi xl)],[(0,.ptr 0 0)],VV⟩,[],z5d,1,λx=>uK (λz0=>yy z0) x.2.1 x.2.2⟩:=eP t128 rn z1f func377 [0] (qf rfl T9 zh)
def t129:=t128.s R9
abbrev zc1:=uz.den oU->T (uz.den QP⊕uz.den tO)
abbrev zng(F:zc1):=jK Pz 365 ⟨[.ptr],oU,[],QP,1,385,tO,none,F⟩
abbrev WJ:=uz.den oU->T (uz.den QP⊕uz.den tO)
abbrev Hq(F:WJ):=jK Pz 323 ⟨[.ptr],oU,[],QP,1,385,tO,none,F⟩
def zo6(JY:zc1)(vH:WJ):Hints:=Hz [] [(3,10,.ways [⟨.normal,z5z⟩,⟨.bE (.iface 385 .vb),z5v⟩]),(0,14,.ways [⟨.normal,⟨[Mb 46,.v (.qi xl),.v (.qi .expr)],[],RE⟩⟩]),(0,16,.ways [⟨.normal,⟨[Mb 71,.v (.qi xl),.v (.qi .expr)],[],RE⟩⟩])] []
theorem z9z(JY:zc1)(z1n:zng JY)(vH:WJ)(dL:Hq vH):jK Pz 365 ⟨[.ptr],oU,[],QP,1,385,tO,none,λx=>uB (λy0=>JY (y0)) (λy0=>vH (y0)) x⟩:=Y5 (((t129.s R9).p dL).p z1n) rn (zo6 JY vH) func365 [] zh
theorem zlS(vH:WJ)(dL:Hq vH):jK Pz 365 ⟨[.ptr],oU,[],QP,1,385,tO,none,λx=>vI (λy0=>vH (y0)) x⟩:=NM (λJY x=>uB (λy0=>JY (y0)) (λy0=>vH (y0)) x) (λx=>rfl) (λJY z1n=>z9z JY z1n vH dL)
def zft(vH:WJ)(dL:Hq vH):Tb:=t129.p (zlS _ dL)
def PD(vH:WJ):q8:=Lz [] [Ms 2,Mr 7 uy] ⟨[.v (.qi xl),.v (.qi .expr),.v (.qi .expr)],[(0,.ptr 0 0),(1,.wj 1000365 [(0,0)]),(8,.ptr 1 0),(9,.ptr 2 0)],RA⟩ [⟨.ret,z5z⟩,⟨.bE (.iface 385 .vb),z5v⟩] λp s=>vf (λy0=>vH (y0)) p.1 p.2 s
def zgG(vH:WJ):Hints:=Hz [(0,PD vH)] [] []
theorem z98(vH:WJ)(dL:Hq vH):LO Tryz.f347 (PD vH) 0:=lk (zft vH dL) (rz [7]) (zgG vH) [] zh
theorem zlO(vH:WJ)(dL:Hq vH):jK Pz 347 ⟨[.ptr,.wj 1000365,.any,.any],⟨[.s 1 (.mclo 1000365 [.pt 0]),Ms 2,Mm 3 uy,.v (.qi xl)],[(0,.ptr 0 0)],VV⟩,[],QP,1,385,tO,none,λx=>wy (λy0=>vH (y0)) x.1 x.2.1 x.2.2.1 x.2.2.2⟩:=Y5 (zft vH dL) (rz [7]) (zgG vH) func347 [0] (qf rfl (z98 vH dL) zh)
theorem zlP(vH:WJ)(dL:Hq vH):jK Pz 348 ⟨[.ptr],oU,[],QP,1,385,tO,none,λx=>vw (λy0=>vH (y0)) x⟩:=Y5 (t129.p (zlO _ dL)) rn hN func348 [] zh
def z0g(vH:WJ)(dL:Hq vH):Tb:=t129.p (zlP _ dL)
def BN(vH:WJ):q8:=Lz [] [Ms 2,Mr 7 uy] ⟨[.v (.qi xl),.v (.qi .expr),.v (.qi .expr)],[(0,.ptr 0 0),(1,.wj 1000348 [(0,0)]),(8,.ptr 1 0),(9,.ptr 2 0)],RA⟩ [⟨.ret,z5z⟩,⟨.bE (.iface 385 .vb),z5v⟩] λp s=>wZ (λy0=>vH (y0)) p.1 p.2 s
def z1e(vH:WJ):Hints:=Hz [(0,BN vH)] [] []
theorem T8(vH:WJ)(dL:Hq vH):LO Tryz.f347 (BN vH) 0:=lk (z0g vH dL) (rz [7]) (z1e vH) [] zh
theorem z9y(vH:WJ)(dL:Hq vH):jK Pz 347 ⟨[.ptr,.wj 1000348,.any,.any],⟨[.s 1 (.mclo 1000348 [.pt 0]),Ms 2,Mm 3 uy,.v (.qi xl)],[(0,.ptr 0 0)],VV⟩,[],QP,1,385,tO,none,λx=>wu (λy0=>vH (y0)) x.1 x.2.1 x.2.2.1 x.2.2.2⟩:=Y5 (z0g vH dL) (rz [7]) (z1e vH) func347 [0] (qf rfl (T8 vH dL) zh)
theorem z9w(vH:WJ)(dL:Hq vH):jK Pz 323 ⟨[.ptr],oU,[],QP,1,385,tO,none,λx=>yo (λy0=>vH (y0)) x⟩:=Y5 (t129.p (z9y _ dL)) rn hN func323 [] zh
theorem zly:jK Pz 323 ⟨[.ptr],oU,[],QP,1,385,tO,none,λx=>dn x⟩:=NM (λvH x=>yo (λy0=>vH (y0)) x) (λx=>rfl) (λvH dL=>z9w vH dL)
def t130:=t129.p zly
theorem zlx:cV (Nn Pz) 322 ⟨[.ptr,.ptr,.ptr],⟨[.v (.qi .expr),.v (.qi i64),.v (.qi i64)],[(0,.ptr 0 0),(1,.ptr 1 0),(2,.ptr 2 0)],z4K⟩,[],z56,0,λx=>gX x.1 x.2.1 x.2.2⟩:=fkr t130 rn hN Tryz.func322
theorem z9v:cV (RX Pz 385) 322 ⟨[.ptr,.ptr,.ptr,.any],⟨[Mm 3 uy,.v (.qi .expr),.v (.qi i64),.v (.qi i64)],[(0,.ptr 0 0),(1,.ptr 1 0),(2,.ptr 2 0)],z4K⟩,[],z56,0,λx=>gx x.1 x.2.1 x.2.2.1 x.2.2.2⟩:=fkh t130 rn hN Tryz.func322 3
theorem zl7:xx Pz 291 ⟨[.ptr],oU,[],⟨[Mm 0 .expr,Mi 1,Mi 2,.v (.qi xl)],[],VV⟩,3,λx=>iV x⟩:=fkf t130 rn hN (g:=322) (pt:=385) zlx z9v Tryz.func291
def t131:=t130.s zl7
def znP:Hints:=Hz [] [(0,5,.ways [⟨.normal,⟨[Mb 31,.v (.qi .expr),.v (.qi xl),.v (.qi .expr)],[],[.var (.qi .expr),.var (.qi xl),.var (.qi .expr)]⟩⟩])] []
theorem zkn:zy Pz 236 ⟨[.ty .str],[.expr,i64,i64],λx=>rO x⟩:=wv t131 rn znP func236 [] zh
def t132:=t131.d zkn
theorem zko:zy Tryz.prog 237 ⟨[.ty .str,.ty .str],[.bool],λx=>strings_Contains x.1 x.2⟩:=by
 refine jL Tryz.func237 (by kernel_rfl) rfl λO x xa y hy hI ha => ?_
 obtain⟨s,sub⟩:=x
 obtain⟨h0,hy⟩:=hy
 cases hy
 obtain⟨v0,r,rfl,Y8,ha⟩:=wQ.cons_inv (show wQ O [.qi .str s,.qi .str sub] xa from ha)
 obtain⟨v1,r,rfl,LP,ha⟩:=ha.cons_inv
 rw[ha.wh,Y8.jk,LP.jk]
 obtain⟨m,hm⟩:=yi hI
 refine(Go.Proofs.Tryz.strings_Contains ⟨s.toArray⟩ ⟨sub.toArray⟩ m O.w (by rw[show(zF ⟨s.toArray⟩)=zH s from Y]; exact h0) hm).mono ?_
 rintro e w' ⟨rfl,rfl⟩
 refine⟨ZK _,λ_=>⟨_,rfl,?_⟩⟩
 have e1:Lib.contains s sub=decide ((0:Int)<=WQ s sub):=contains_eq s sub
 show RD _ (.qi .bool (decide ((0:Int)<=WQ s sub))) _
 rw[<- e1]
 exact RD.bool
def t133:=t132.d zko
def znG:Hints:=Hz [] [(0,6,.ways [⟨.normal,⟨[Mb 34,.v (.qi .expr),.v (.qi .expr)],[],II⟩⟩]),(3,6,.ways [⟨.normal,⟨[Ms 6,Ms 10,.v (.qi .expr),.v (.qi .expr)],[],II⟩⟩]),(0,12,.ways [⟨.normal,⟨[Mb 61,.v (.qi .expr),.v (.qi .expr)],[],II⟩⟩]),(3,11,.ways [⟨.normal,⟨[Mi 7,.v (.qi .expr),.v (.qi .expr)],[],II⟩⟩])] []
theorem zjz:zy Pz 181 ⟨[.ty .str,.ty .str],[.expr,.expr,.str,i64],λx=>dV x.1 x.2⟩:=wv t133 rn znG func181 [] zh
def t134:=t133.d zjz
def znJ:Hints:=Hz [] [(0,1,.flat [Mb 8])] []
theorem zjC:zy Pz 184 ⟨[.ty (.sl .str),.ty i64,.ty i64,.ty .str],[.bool],λx=>nW x.1 x.2.1 x.2.2.1 x.2.2.2⟩:=wv t134 rn znJ func184 [] zh
def t136:=t134.d zjC
def znH:Hints:=Hz [] [(0,3,.ways [⟨.normal,⟨[Mb 11],[],[]⟩⟩])] []
theorem zjA:zy Pz 182 ⟨[.ty (.sl .str),.ty i64],[.str,.bool],λx=>dW x.1 x.2⟩:=wv t136 rn znH func182 [] zh
def t137:=t136.d zjA
def zcs:Hints:=Hz [] [(0,1,.ways [⟨.normal,⟨[Mb 29,.v VW,.a qe,.a qg,.a xi,.a qw,.a xn,.a xk],[],B6⟩⟩])] []
theorem PV:xx Pz 126 ⟨Qz,zbC,[],z5u,1,λx=>jH x.1 x.2.1 x.2.2.1 x.2.2.2.1 x.2.2.2.2.1 x.2.2.2.2.2.1 x.2.2.2.2.2.2.1 x.2.2.2.2.2.2.2.1 x.2.2.2.2.2.2.2.2⟩:=eP t137 rn zcs func126 [] zh
def t152:=t137.s PV
def zct:Hints:=Hz [] [(0,1,.ways [⟨.normal,⟨[Mb 31,.v VW,.a qe,.a qg,.a xi,.a qw,.a xn,.a xk],[],B6⟩⟩])] []
theorem PW:xx Pz 127 ⟨Qz,zbC,[],z5u,1,λx=>kA x.1 x.2.1 x.2.2.1 x.2.2.2.1 x.2.2.2.2.1 x.2.2.2.2.2.1 x.2.2.2.2.2.2.1 x.2.2.2.2.2.2.2.1 x.2.2.2.2.2.2.2.2⟩:=eP t152 rn zct func127 [] zh
def t153:=t152.s PW
def zcu:Hints:=Hz [] [(0,1,.ways [⟨.normal,⟨[Mb 26,.v VW,.a qe,.a qg,.a xi,.a qw,.a xn,.a xk],[],B6⟩⟩])] []
theorem PX:xx Pz 128 ⟨mc,RJ,[],RO,1,λx=>kv x.1 x.2.1 x.2.2.1 x.2.2.2.1 x.2.2.2.2.1 x.2.2.2.2.2.1 x.2.2.2.2.2.2.1 x.2.2.2.2.2.2.2⟩:=eP t153 rn zcu func128 [] zh
def t154:=t153.s PX
def zcv:Hints:=Hz [] [(0,1,.ways [zbH])] []
theorem PY:xx Pz 129 ⟨mc,RJ,[],RO,1,λx=>yc x.1 x.2.1 x.2.2.1 x.2.2.2.1 x.2.2.2.2.1 x.2.2.2.2.2.1 x.2.2.2.2.2.2.1 x.2.2.2.2.2.2.2⟩:=eP t154 rn zcv func129 [] zh
def t155:=t154.s PY
def zcw:Hints:=Hz [] [(0,1,.ways [zbH])] []
theorem PZ:xx Pz 130 ⟨mc,RJ,[],RO,1,λx=>kz x.1 x.2.1 x.2.2.1 x.2.2.2.1 x.2.2.2.2.1 x.2.2.2.2.2.1 x.2.2.2.2.2.2.1 x.2.2.2.2.2.2.2⟩:=eP t155 rn zcw func130 [] zh
def t156:=t155.s PZ
def zny:Hints:=Hz [] [(0,1,.ways [⟨.normal,⟨[Mb 23,.v VW,.a qe,.a qg,.a xi,.a qw,.a xn,.a xk],[],B6⟩⟩]),(0,5,.flat [Mb 44]),(3,5,.ways [zbF]),(0,8,.ways [⟨.normal,⟨[Mb 68,.v VW,.a qe,.a qg,.a xi,.a qw,.a xn,.a xk,.v (.qi qw)],[],[.var VW,.arr qe,.arr qg,.arr xi,.arr qw,.arr xn,.arr xk,.var (.qi qw)]⟩⟩]),(3,8,.ways [zbF])] []
theorem ziP:xx Pz 131 ⟨mc,RJ,[],RO,1,λx=>yd x.1 x.2.1 x.2.2.1 x.2.2.2.1 x.2.2.2.2.1 x.2.2.2.2.2.1 x.2.2.2.2.2.2.1 x.2.2.2.2.2.2.2⟩:=eP t156 rn zny func131 [] zh
def t157:=t156.s ziP
def h70:Hints:=Hz [] [(0,3,.flat [Mb 36]),(0,7,.flat [Mb 41]),(0,9,.flat [Mb 53])] []
theorem zqd:xx Pz 70 ⟨mc,⟨[Ms 1,.v VW,.a qe,.a qg,.a xi,.a qw,.a xn,.a xk],[(0,.ptr 0 0)],B6⟩,[],z5u,1,λx=>j7 x.1 x.2.1 x.2.2.1 x.2.2.2.1 x.2.2.2.2.1 x.2.2.2.2.2.1 x.2.2.2.2.2.2.1 x.2.2.2.2.2.2.2⟩:=eP (((((t157.s PZ).s PY).s PX).s PW).s PV) rn h70 func70 [] zh
def t158:=t157.s zqd
def z2E:q8:=Lz [.cell 0 5 xk,.cell 1 5 xk,.cell 0 4 xn,.cell 1 4 xn,.cell 0 0 qe,.cell 1 0 qe,.cell 0 1 qg,.cell 1 1 qg,.cell 0 2 xi,.cell 1 2 xi,.cell 0 3 qw,.cell 1 3 qw] [Mm 14 (.sl .str),Mi 15] ⟨[Mi 16,.v z4O,.v IL,.a xk,.a xk,.a xn,.a xn,.a qe,.a qe,.a qg,.a qg,.a xi,.a xi,.a qw,.a qw],[(2,.ptr 0 0),(5,.ptr 1 0)],zbx⟩ [⟨.exit 0,⟨[.v z4O,.v IL,.a xk,.a xk,.a xn,.a xn,.a qe,.a qe,.a qg,.a qg,.a xi,.a xi,.a qw,.a qw],[],zbx⟩⟩,⟨.ret,⟨[Mi 3,Mi 4,.v (.qi qx),.v IL,.a xk,.a xk,.a xn,.a xn,.a qe,.a qe,.a qg,.a qg,.a xi,.a xi,.a qw,.a qw],[],[.var (.qi qx),.var IL,.arr xk,.arr xk,.arr xn,.arr xn,.arr qe,.arr qe,.arr qg,.arr qg,.arr xi,.arr xi,.arr qw,.arr qw]⟩⟩] λp s=>bX p.1 p.2 s
def h28:Hints:=Hz [(0,z2E)] [] []
theorem zdz:LO Tryz.f28 z2E 0:=lk t158 rn h28 [] zh
theorem zpC:zy Pz 28 ⟨[.ty .str],[qx,i64,i64],λx=>ik x⟩:=wv t158 rn h28 func28 [0] (qf rfl zdz zh)
def t159:=t158.d zpC
theorem zpq:zy Pz 14 ⟨[.ty qx],[qx],λx=>mB x⟩:=wv t159 (rz [1]) hN func14 [] zh
def t160:=t159.d zpq
def h31:Hints:=Hz [] [(3,2,.flat [Mm 3 (.int .u64)])] []
theorem zpF:zy Pz 31 ⟨[.ty i64],[zm],λx=>gz x⟩:=wv t160 rn h31 func31 [] zh
def t161:=t160.d zpF
def znz:Hints:=Hz [] [(0,2,.flat [Mb 4])] []
theorem ziU:zy Pz 136 ⟨[.ty qx,.ty xj],[.bool],λx=>Xh x.1 x.2⟩:=wv t161 (rz [2,3]) znz func136 [] zh
def t162:=t161.d ziU
theorem zjG:zy Pz 188 ⟨[.ty zm],[.bool],λx=>cC x⟩:=wv t162 (rz [1]) hN func188 [] zh
def t163:=t162.d zjG
def OC:q8:=Lz [] [Mm 0 (.sl zm),.s 1 (.wj 188 []),Mi 7] dx [kZ,oP] λp s=>gv p.1 (λz0=>cC z0) p.2.2 s
def zg7:Hints:=Hz [(0,OC)] [] []
theorem z8d:LO Tryz.f200 OC 0:=lk t163 rn zg7 [] zh
theorem zjS:zy Pz 200 ⟨[.ty (.sl zm),.wj 188 []],[i64],λx=>ye x.1 (λz0=>cC z0)⟩:=wv t163 rn zg7 func200 [0] (qf rfl z8d zh)
def t164:=t163.d zjS
theorem zj7:zy Pz 150 ⟨[.ty (.sl zm),.wj 188 []],[.bool],λx=>vB x.1 (λz0=>cC z0)⟩:=wv t164 rn hN func150 [] zh
def t165:=t164.d zj7
def OK:q8:=Lz [.slot 3 .str] [Mm 7 (.sl qw),Mi 8] ⟨[Mi 9,.a .str],[(3,.cur 0 .str)],o5⟩ [⟨.exit 0,Hh⟩] λp s=>rN p.1 p.2 s
def zgf:Hints:=Hz [(0,OK)] [] []
theorem z8l:LO Tryz.f221 OK 0:=lk t165 (rz [1]) zgf [] zh
theorem zkd:zy Pz 221 ⟨[.ty qx],[(.sl .str)],λx=>th x⟩:=wv t165 (rz [1]) zgf func221 [0] (qf rfl z8l zh)
def t166:=t165.d zkd
def h48:Hints:=Hz [] [(0,1,.HT)] []
theorem zpT:zy Pz 48 ⟨[.ty (.sl zm)],[(.sl zm)],λx=>bJ x⟩:=wv t166 rn h48 func48 [] zh
def t167:=t166.d zpT
def Oj:q8:=Lz [.cell 0 0 .str,.cell 0 1 .str,.cell 1 1 .str] [Mm 14 (.sl qg),Mi 15] ⟨[Mi 16,.v z4S,.v z4R,.a .str,.a .str,.a .str],[(4,.ptr 0 0),(5,.ptr 1 0)],z4F⟩ [⟨.exit 0,⟨[.v z4S,.v z4R,.a .str,.a .str,.a .str],[],z4F⟩⟩] λp s=>Xk p.1 p.2 s
def zg1:Hints:=Hz [(0,Oj)] [] []
theorem z7V:LO Tryz.f162 Oj 0:=lk t167 (rz [2]) zg1 [] zh
theorem zjj:zy Pz 162 ⟨[.ty qx,.ty (.sl zm)],[wN],λx=>rL x.1 x.2⟩:=wv t167 (rz [2]) zg1 func162 [0] (qf rfl z7V zh)
def t168:=t167.d zjj
theorem zkx:zy Pz 247 ⟨[.ty qe,.rp .str],[.bool],λx=>eo x.1 x.2⟩:=wv t168 (rz [2]) hN func247 [] zh
def t169:=t168.d zkx
def FL:q8:=Lz [] [Mm 0 (.sl qe),.s 1 (.wj 247 [.rp .str]),Mi 7] dx [kZ,oP] λp s=>xp p.1 (λz0=>eo z0 p.2.1) p.2.2 s
def zaz:Hints:=Hz [(0,FL)] [] []
theorem z2e:LO Tryz.f76 FL 0:=lk t169 rn zaz [] zh
theorem z3D:zy Pz 76 ⟨[.ty (.sl qe),.wj 247 [.rp .str]],[i64],λx=>xm x.1 (λz0=>eo z0 x.2)⟩:=wv t169 rn zaz func76 [0] (qf rfl z2e zh)
def t170:=t169.d z3D
def znL:Hints:=Hz [] [(0,2,.flat [Mb 6])] []
theorem zjH:zy Pz 189 ⟨[.ty qx,.ty (.sl .bool),.ty .str],[.bool],λx=>Wd x.1 x.2.1 x.2.2⟩:=wv (t170.d z3D) (rz [3,5]) znL func189 [] zh
def t171:=t170.d zjH
def zo2:Hints:=Hz [] [(0,1,.flat [Mb 12])] []
theorem zlq:zy Pz 312 ⟨[.ty (.sl zm),.ty i64],[zm],λx=>mg x.1 x.2⟩:=wv t171 rn zo2 func312 [] zh
def t172:=t171.d zlq
theorem zlF:zy Pz 331 ⟨[.ty .str,.ty wN],[zp,i64],λx=>W6 x.1 x.2⟩:=wv t172 (rz [3]) hN func331 [] zh
def t173:=t172.d zlF
theorem zlg:zy Pz 301 ⟨[.ty zm,.ty zm],[zm],λx=>pG x.1 x.2⟩:=wv t173 rn hN func301 [] zh
def t174:=t173.d zlg
theorem zjU:zy Pz 202 ⟨[.ty zm],[.bool],λx=>lA x⟩:=wv t174 (rz [1]) hN func202 [] zh
def t175:=t174.d zjU
def OV:q8:=Lz [.cell 0 1 qk,.cell 1 1 qk] [Mr 3 zm,Mm 17 (.sl qk),Mi 18] ⟨[Mi 19,.v Cq,.v Cr,.a qk,.a qk],[(4,.ptr 0 0),(5,.ptr 1 0)],z4M⟩ [z5G] λp s=>ZG p.1 p.2.1 p.2.2 s
def zgn:Hints:=Hz [(0,OV)] [] []
theorem z8w:LO Tryz.f250 OV 0:=lk t175 (rz [2,3]) zgn [] zh
theorem zkA:zy Pz 250 ⟨[.ty zp,.ty zm],[zp],λx=>eb x.1 x.2⟩:=wv t175 (rz [2,3]) zgn func250 [0] (qf rfl z8w zh)
def t176:=t175.d zkA
def Pq:q8:=Lz [] [Mm 1 (.sl u32),Mm 22 (.sl u32),Mi 23] ⟨[Mm 7 u32,Mi 24,.a u32],[(6,.cur 0 u32)],ir⟩ [⟨.exit 0,⟨[.a u32],[(6,.cur 0 u32)],ir⟩⟩] λp s=>VB p.1 p.2.1 p.2.2 s
def zgE:Hints:=Hz [(0,Pq)] [(3,10,.flat [Mm 10 u32])] [(14,[6])]
theorem z8X:LO Tryz.f333 Pq 0:=lk t176 rn zgE [] zh
theorem zlH:zy Pz 333 ⟨[.ty (.sl u32),.ty (.sl u32)],[(.sl u32),.bool],λx=>UM x.1 x.2⟩:=wv t176 rn zgE func333 [0] (qf rfl z8X zh)
def t177:=t176.d zlH
theorem zlf:zy Pz 300 ⟨[.ty zm,.ty zm],[zm],λx=>pF x.1 x.2⟩:=wv t177 rn hN func300 [] zh
def t178:=t177.d zlf
def OT:q8:=Lz [.cell 0 1 qk,.cell 1 1 qk] [] ⟨[Mm 6 (.sl qk),Mm 7 (.sl qk),.v Cq,.v Cr,.a qk,.a qk],[(4,.ptr 0 0),(5,.ptr 1 0)],z4M⟩ [z5G] λp s=>Vb  s
def zgm:Hints:=Hz [(0,OT)] [(0,6,.flat [Mb 46]),(0,8,.flat [Mb 78]),(2,6,.ways [⟨.normal,⟨[Mm 6 (.sl qk),Mm 7 (.sl qk),.v Cq,.v Cr,.a qk,.a qk,.v (.qi qk)],[],[.var Cq,.var Cr,.arr qk,.arr qk,.var (.qi qk)]⟩⟩])] []
theorem z8u:LO Tryz.f249 OT 0:=lk t178 (rz [2,3]) zgm [] zh
theorem zkz:zy Pz 249 ⟨[.ty zp,.ty zp],[zp],λx=>W4 x.1 x.2⟩:=wv t178 (rz [2,3]) zgm func249 [0] (qf rfl z8u zh)
def t179:=t178.d zkz
theorem zln:zy Pz 308 ⟨[.ty zm,.ty zm],[zm,.bool],λx=>tD x.1 x.2⟩:=wv t179 (rz [2]) hN func308 [] zh
def t180:=t179.d zln
def zo3:Hints:=Hz [] [(0,7,.flat [Mb 34])] []
theorem zlG:zy Pz 332 ⟨[.ty i64,.ty zp,.ty zp],[zp,i64],λx=>ZH x.1 x.2.1 x.2.2⟩:=wv t180 (rz [4,5]) zo3 func332 [] zh
def t181:=t180.d zlG
abbrev zfw:=eG [.ty .expr,.ty wN]->T (E9 [zp,i64])
abbrev znf(F:zfw):=zy Pz 299 ⟨[.ty .expr,.ty wN],[zp,i64],F⟩
theorem z9t(Ba:zfw)(z1m:znf Ba):zy Pz 299 ⟨[.ty .expr,.ty wN],[zp,i64],λx=>ed (λy0 y1=>Ba (y0,y1)) x.1 x.2⟩:=wv (t181.d z1m) (rz [2,3]) hN func299 [] zh
theorem zle:zy Pz 299 ⟨[.ty .expr,.ty wN],[zp,i64],λx=>KZ x.1 x.2⟩:=YT (λBa x=>ed (λy0 y1=>Ba (y0,y1)) x.1 x.2) (λx=>rfl) (λBa z1m=>z9t Ba z1m)
def t182:=t181.d zle
theorem zky:zy Pz 248 ⟨[.ty .expr,.ty wN],[zp,i64],λx=>Yu x.1 x.2⟩:=wv t182 (rz [2,3]) hN func248 [] zh
def t183:=t182.d zky
theorem zjI:zy Pz 190 ⟨[.ty xn,.ty wN],[zp,i64],λx=>ZX x.1 x.2⟩:=wv t183 (rz [2,3]) hN func190 [] zh
def t184:=t183.d zjI
theorem zkC:zy Pz 252 ⟨[.ty qk],[.bool],λx=>bp x⟩:=wv t184 (rz [1]) hN func252 [] zh
def t185:=t184.d zkC
def Pe:q8:=Lz [] [Mm 0 (.sl qk),.s 1 (.wj 252 []),Mi 7] dx [kZ,oP] λp s=>yF p.1 (λz0=>bp z0) p.2.2 s
def zgy:Hints:=Hz [(0,Pe)] [] []
theorem z8O:LO Tryz.f302 Pe 0:=lk t185 rn zgy [] zh
theorem zlh:zy Pz 302 ⟨[.ty (.sl qk),.wj 252 []],[i64],λx=>kF x.1 (λz0=>bp z0)⟩:=wv t185 rn zgy func302 [0] (qf rfl z8O zh)
def t186:=t185.d zlh
theorem zkB:zy Pz 251 ⟨[.ty (.sl qk),.wj 252 []],[.bool],λx=>uf x.1 (λz0=>bp z0)⟩:=wv t186 rn hN func251 [] zh
def t187:=t186.d zkB
theorem zjJ:zy Pz 191 ⟨[.ty zp],[.bool],λx=>ZW x⟩:=wv t187 (rz [1]) hN func191 [] zh
def t188:=t187.d zjJ
def Oa:q8:=Lz [.cell 1 0 zp,.cell 1 1 i64] [Mm 2 (.sl .bool),Mr 3 qx,Mm 52 (.sl xn),Mi 53] ⟨[Mi 54,.v E4,.v RH,.v (.qi wN),.a zp,.a i64],[(6,.ptr 0 0),(11,.ptr 1 0),(12,.ptr 2 0)],Rz⟩ [⟨.exit 0,z4X⟩,zbG] λp s=>iP p.1 p.2.1 p.2.2.1 p.2.2.2 s
def Ob:q8:=Lz [] [Mr 3 qx,Mi 92] ⟨[Mi 93,.v E4,.v RH,.v (.qi wN),.a zp,.a i64],[(6,.ptr 0 0),(11,.ptr 1 0),(91,.cur 3 zp)],Rz⟩ [⟨.exit 2,z4X⟩,zbG] λp s=>iQ p.1 p.2 s
def zcx:Hints:=Hz [(0,Oa),(2,Ob)] [(0,4,.ways [⟨.normal,⟨[Mb 46,.v E4],[],[.var E4]⟩⟩])] []
theorem z7M:LO Tryz.f137 Oa 0:=lk t188 (rz [3]) zcx [] zh
theorem z7N:LO Tryz.f137 Ob 2:=lk t188 (rz [3]) zcx [] zh
theorem ziV:xx Pz 137 ⟨[.any,.any,.any],⟨[Mm 0 qx,Mm 1 (.sl zm),Mm 2 (.sl .bool)],[],[]⟩,[],⟨[.s 0 (.st [.row 0 zp,.row 1 i64]),Ms 1,Mi 2,.a zp,.a i64],[],[.arr zp,.arr i64]⟩,3,λx=>nC x.1 x.2.1 x.2.2⟩:=eP t188 (rz [3]) zcx func137 [0,2] (qf rfl z7M (qf rfl z7N zh))
def t189:=t188.s ziV
def znT:Hints:=Hz [] [(0,1,.ways [⟨.normal,z52⟩])] []
theorem zkR:zy Pz 268 ⟨[.ty .bool,.ty zm],[zm],λx=>VK x.1 x.2⟩:=wv t189 rn znT func268 [] zh
def t190:=t189.d zkR
theorem zjY:zy Pz 206 ⟨[.ty zm],[zm],λx=>Qn x⟩:=wv t190 rn hN func206 [] zh
def t191:=t190.d zjY
theorem zjf:zy Pz 158 ⟨[.ty i64,.ty zm],[zp],λx=>CQ x.1 x.2⟩:=wv t191 (rz [3]) hN func158 [] zh
def t192:=t191.d zjf
theorem zqp:xx Pz 84 ⟨[.ptr,.any,.any,.any],⟨[Mi 1,Mm 2 zm,Mi 3,.v KY,.a zp,.a i64,.a i64],[(0,.ptr 0 0)],Jk⟩,[],z5A,0,λx=>y7 x.1 x.2.1 x.2.2.1 x.2.2.2.1 x.2.2.2.2.1 x.2.2.2.2.2.1 x.2.2.2.2.2.2⟩:=eP t192 (rz [6]) hN func84 [] zh
def t193:=t192.s zqp
def z2P:q8:=Lz [.cell 3 7 i64] [Mr 3 xj,Mi 53] ⟨[Mi 54,.a zp,.a i64,.v E5,.v zad,.a i64],[(10,.ptr 3 0),(52,.cur 1 i64)],z4J⟩ [⟨.exit 1,z4Y⟩] λp s=>rG p.1 p.2 s
def z2Q:q8:=Lz [] [Mm 74 (.sl zx),Mi 75] ⟨[Mi 76,.a zp,.a i64,.v E5,.v zad,.a i64],[(10,.ptr 3 0)],z4J⟩ [⟨.exit 3,z4Y⟩] λp s=>rH p.1 p.2 s
def h73:Hints:=Hz [(1,z2P),(3,z2Q)] [(0,4,.flat [Mb 30]),(3,19,.flat [Mi 15])] []
theorem zdK:LO Tryz.f73 z2P 1:=lk t193 (rz [2,3]) h73 [] zh
theorem zdL:LO Tryz.f73 z2Q 3:=lk t193 (rz [2,3]) h73 [] zh
theorem zm1:jK Pz 73 ⟨Hd,z5f,[],⟨[Mi 2,.v KY,.a zp,.a i64,.a i64],[(0,.ptr 0 0),(1,.wH)],Jk⟩,3,0,⟨[.s 1 (.tight .str),Mi 2],[(0,.br)],[]⟩,some 3,λx=>dC x.1 x.2⟩:=Y5 t193 (rz [2,3]) h73 func73 [1,3] (qf rfl zdK (qf rfl zdL zh))
def t194:=t193.p zm1
def Ou:q8:=Lz [] [Mi 1,Mm 23 (.sl qk),Mi 24] ⟨[Mi 5,Mi 25],[],[]⟩ [kZ,RT] λp s=>pO p.1 p.2.1 p.2.2 s
def zg6:Hints:=Hz [(0,Ou)] [(0,1,.ways [⟨.normal,⟨[Mb 21],[],[]⟩⟩]),(0,7,.ways [⟨.normal,⟨[Mb 51,.v (.qi qk)],[],[.var (.qi qk)]⟩⟩])] []
theorem z86:LO Tryz.f194 Ou 0:=lk t194 (rz [2]) zg6 [] zh
theorem zjM:zy Pz 194 ⟨[.ty zp,.ty i64],[.bool],λx=>dz x.1 x.2⟩:=wv t194 (rz [2]) zg6 func194 [0] (qf rfl z86 zh)
def t195:=t194.d zjM
theorem zjL:zy Pz 193 ⟨[.ty zp,.rp i64],[.bool],λx=>gw x.1 x.2⟩:=wv t195 (rz [2]) hN func193 [] zh
def t196:=t195.d zjL
def OW:q8:=Lz [] [Mm 0 (.sl zp),.s 1 (.wj 193 [.rp i64]),Mi 7] dx [kZ,oP] λp s=>dX p.1 (λz0=>gw z0 p.2.1) p.2.2 s
def zgo:Hints:=Hz [(0,OW)] [] []
theorem z8x:LO Tryz.f253 OW 0:=lk t196 rn zgo [] zh
theorem zkD:zy Pz 253 ⟨[.ty (.sl zp),.wj 193 [.rp i64]],[i64],λx=>bZ x.1 (λz0=>gw z0 x.2)⟩:=wv t196 rn zgo func253 [0] (qf rfl z8x zh)
def t197:=t196.d zkD
theorem zjK:zy Pz 192 ⟨[.ty (.sl zp),.wj 193 [.rp i64]],[.bool],λx=>gu x.1 (λz0=>gw z0 x.2)⟩:=wv t197 rn hN func192 [] zh
def t198:=t197.d zjK
def Pr:q8:=Lz [] [] z4Z [⟨.exit 0,⟨[Mi 1,.a i64],[],jX⟩⟩] λp s=>cX  s
def zgF:Hints:=Hz [(0,Pr)] [] []
theorem z8Y:LO Tryz.f334 Pr 0:=lk t198 rn zgF [] zh
theorem zlI:xx Pz 334 ⟨[.sub,.any],z4Z,[],⟨[Mi 0,.a i64],[],jX⟩,1,λx=>gi x.1 x.2.1 x.2.2⟩:=eP t198 rn zgF func334 [0] (qf rfl z8Y zh)
def t199:=t198.s zlI
theorem zli:xx Pz 303 ⟨[.sub,.any,.any],⟨[.s 0 (.sub 0 i64),Mi 1,Mi 2,.a i64],[],jX⟩,[],⟨[Mb 0,.a i64],[],jX⟩,1,λx=>bH x.1 x.2.1 x.2.2.1 x.2.2.2⟩:=eP t199 rn hN func303 [] zh
def t200:=t199.s zli
def OX:q8:=Lz [] [Mm 0 (.sl zp),Mi 1,Mi 18] ⟨[Mi 19,.a i64],[(6,.cur 0 i64)],jX⟩ [⟨.exit 0,⟨[.a i64],[(6,.cur 0 i64)],jX⟩⟩] λp s=>oo p.1 p.2.1 p.2.2 s
def OZ:q8:=Lz [] [Mi 1,Mi 9,Mm 27 (.sl zp),Mi 28,Mi 29] ⟨[Mi 8,Mi 11,.a i64,.v (.qi zp)],[(6,.cur 0 i64),(10,.ptr 1 0)],Nd⟩ [⟨.exit 4,⟨[Mi 8,.a i64,.v (.qi zp)],[(6,.cur 0 i64)],Nd⟩⟩] λp s=>fh p.1 p.2.1 p.2.2.1 p.2.2.2.1 p.2.2.2.2 s
def OY:q8:=Lz [] [Mi 1,Mm 27 (.sl zp),Mi 28] ⟨[Mi 8,Mi 29,.a i64],[(6,.cur 0 i64)],jX⟩ [⟨.exit 2,⟨[Mi 8,.a i64],[(6,.cur 0 i64)],jX⟩⟩] λp s=>oq p.1 p.2.1 p.2.2 s
def z6R:Hints:=Hz [(0,OX),(4,OZ),(2,OY)] [(0,16,.ways [⟨.normal,⟨[Mb 62,.a i64,.v (.qi zp)],[(6,.cur 0 i64)],Nd⟩⟩])] []
theorem z8y:LO Tryz.f254 OX 0:=lk t200 rn z6R [] zh
theorem z8A:LO Tryz.f254 OZ 4:=lk t200 rn z6R [] zh
theorem z8z:LO Tryz.f254 OY 2:=lk t200 rn z6R [4] (qf rfl z8A zh)
theorem zkE:zy Pz 254 ⟨[.ty (.sl zp),.ty i64],[(.sl i64),i64],λx=>Q5 x.1 x.2⟩:=wv t200 rn z6R func254 [0,2] (qf rfl z8y (qf rfl z8z zh))
def t201:=t200.d zkE
theorem zjN:zy Pz 195 ⟨[.ty (.sl zp),.ty i64],[i64],λx=>nH x.1 x.2⟩:=wv t201 rn hN func195 [] zh
def t202:=t201.d zjN
def h50:Hints:=Hz [] [(0,1,.HT)] []
theorem z9A:xx Pz 50 ⟨[.any],⟨[Mm 0 (.sl i64)],[],[]⟩,[],Ni,1,λx=>ua x⟩:=eP t202 rn h50 func50 [] zh
def t203:=t202.s z9A
theorem zlL:zy Pz 342 ⟨[.ty (.int .u64),.ty (.int .u64)],[(.int .u64),(.int .u64)],λx=>ox x.1 x.2⟩:=wv t203 rn hN func342 [] zh
def t204:=t203.d zlL
theorem zlo:zy Pz 310 ⟨[.ty (.int .u64),.ty (.int .u64)],[(.int .u64),(.int .u64)],λx=>nk x.1 x.2⟩:=wv t204 rn hN func310 [] zh
def t205:=t204.d zlo
def P5:q8:=Lz [] [] ⟨[Mi 8,.a i64],[(7,.cur 0 i64)],jX⟩ [⟨.exit 0,⟨[.a i64],[(7,.cur 0 i64)],jX⟩⟩] λp s=>gK  s
def zgs:Hints:=Hz [(0,P5)] [(0,4,.flat [Mb 26])] []
theorem z8G:LO Tryz.f263 P5 0:=lk t205 rn zgs [] zh
theorem zkM:xx Pz 263 ⟨Hd,⟨[Mm 0 (.sl i64),Mi 1],[],[]⟩,[],Ni,1,λx=>yJ x.1 x.2⟩:=eP t205 rn zgs func263 [0] (qf rfl z8G zh)
def t206:=t205.s zkM
theorem zlp:zy Pz 311 ⟨[.ty qk,.rp i64],[.bool],λx=>cA x.1 x.2⟩:=wv t206 (rz [2]) hN func311 [] zh
def t207:=t206.d zlp
def BL:q8:=Lz [] [Mm 0 (.sl qk),.s 1 (.wj 311 [.rp i64]),Mi 7] dx [kZ,oP] λp s=>yF p.1 (λz0=>cA z0 p.2.1) p.2.2 s
def z1c:Hints:=Hz [(0,BL)] [] []
theorem T6:LO Tryz.f302 BL 0:=lk t207 rn z1c [] zh
theorem R6:zy Pz 302 ⟨[.ty (.sl qk),.wj 311 [.rp i64]],[i64],λx=>kF x.1 (λz0=>cA z0 x.2)⟩:=wv t207 rn z1c func302 [0] (qf rfl T6 zh)
def t208:=t207.d R6
theorem R3:zy Pz 251 ⟨[.ty (.sl qk),.wj 311 [.rp i64]],[.bool],λx=>uf x.1 (λz0=>cA z0 x.2)⟩:=wv (t208.d R6) rn hN func251 [] zh
def t209:=t208.d R3
theorem zkN:zy Pz 264 ⟨[.ty zp,.ty i64],[.bool],λx=>W9 x.1 x.2⟩:=wv (t209.d R3) (rz [2,3]) hN func264 [] zh
def t210:=t209.d zkN
theorem zkO:zy Pz 265 ⟨[.ty (.sl zp),.ty i64],[.bool],λx=>pw x.1 x.2⟩:=wv t210 rn hN func265 [] zh
def t211:=t210.d zkO
def OE:q8:=Lz [] [Mm 0 (.sl zp),Mm 1 (.sl i64),Mi 2,Mm 38 (.sl zp),Mi 39] ⟨[Mi 40,.a i64,.a i64,.v Ct],[(8,.ptr 2 0)],Nb⟩ [⟨.exit 0,⟨[.a i64,.a i64,.v Ct],[],Nb⟩⟩,⟨.ret,⟨[Mb 7,.a i64,.a i64,.v Ct],[(6,.br)],Nb⟩⟩] λp s=>iE p.1 p.2.1 p.2.2.1 p.2.2.2.1 p.2.2.2.2 s
def zg9:Hints:=Hz [(0,OE)] [(0,1,.flat [Mb 29]),(0,11,.ways [⟨.normal,⟨[Mb 68,.a i64,.a i64,.v Ct,.v (.qi zp)],[],[.arr i64,.arr i64,.var Ct,.var (.qi zp)]⟩⟩])] []
theorem z8f:LO Tryz.f203 OE 0:=lk t211 rn zg9 [] zh
theorem zjV:jK Pz 203 ⟨[.any,.any,.any],⟨[Mm 0 (.sl zp),Mm 1 (.sl i64),Mi 2],[],[]⟩,[],⟨[Mb 1,.v sW,.a i64,.a i64],[(0,.ptr 0 0)],Jj⟩,2,0,⟨[Mb 1],[(0,.br)],[]⟩,some 2,λx=>bM x.1 x.2.1 x.2.2⟩:=Y5 t211 rn zg9 func203 [0] (qf rfl z8f zh)
def t212:=t211.p zjV
def zgM:Hints:=Hz [] [(0,1,.HT)] []
theorem z3w:zy Pz 50 ⟨[.ty (.sl i64)],[(.sl i64)],λx=>yp x⟩:=wv t212 rn zgM func50 [] zh
def t213:=t212.d z3w
theorem zlk:zy Pz 305 ⟨[.ty i64],[.bool],λx=>cmp_isNaN_int x⟩:=wv t213 rn hN func305 [] zh
def t214:=t213.d zlk
theorem zkH:zy Pz 257 ⟨[.ty i64,.ty i64],[i64],λx=>cmp_Compare_int x.1 x.2⟩:=wv t214 rn hN func257 [] zh
def t215:=t214.d zkH
theorem zkG:zy Pz 256 ⟨[.ty i64,.ty i64,.rp (.sl zp)],[i64],λx=>wA x.1 x.2.1 x.2.2⟩:=wv t215 rn hN func256 [] zh
def t216:=t215.d zkG
def Pv:q8:=Lz [] [Mi 1,Mi 2,.s 3 (.wj 256 [.rp (.sl zp)]),Mi 8] ⟨[.s 0 (.sub 0 i64),Mi 9,.a i64],[],jX⟩ [⟨.exit 2,z5C⟩] λp s=>uP p.1 p.2.1 (λz0 z1=>wA z0 z1 p.2.2.1) p.2.2.2 s
def Pt:q8:=Lz [] [Mi 1,Mi 2,.s 3 (.wj 256 [.rp (.sl zp)])] ⟨[.s 0 (.sub 0 i64),Mi 8,.a i64],[],jX⟩ [⟨.exit 0,tP⟩] λp s=>uO p.1 p.2.1 (λz0 z1=>wA z0 z1 p.2.2) s
def zcC:Hints:=Hz [(2,Pv),(0,Pt)] [(0,4,.ways [⟨.normal,⟨[.s 0 (.sub 0 i64),Mb 34,.a i64],[],jX⟩⟩])] []
theorem z90:LO Tryz.f335 Pv 2:=lk t216 rn zcC [] zh
theorem z8Z:LO Tryz.f335 Pt 0:=lk t216 rn zcC [2] (qf rfl z90 zh)
theorem zlJ:xx Pz 335 ⟨[.sub,.any,.any,.wj 256],⟨[.s 0 (.sub 0 i64),Mi 1,Mi 2,.s 3 (.wj 256 [.rp (.sl zp)]),.a i64],[],jX⟩,[],tP,0,λx=>vd x.1 x.2.1 x.2.2.1 (λz0 z1=>wA z0 z1 x.2.2.2.1) x.2.2.2.2⟩:=eP t216 rn zcC func335 [0] (qf rfl z8Z zh)
def t217:=t216.s zlJ
def PF:q8:=Lz [] [Mi 1,Mi 2,Mi 3] z5y [⟨.exit 0,tP⟩] λp s=>jD p.1 p.2.1 p.2.2 s
def zgI:Hints:=Hz [(0,PF)] [] []
theorem z9a:LO Tryz.f367 PF 0:=lk t217 rn zgI [] zh
theorem zlT:xx Pz 367 ⟨[.sub,.any,.any,.any,.wj 256],Cu,[],tP,0,λx=>va x.1 x.2.1 x.2.2.1 x.2.2.2.1 (λz0 z1=>wA z0 z1 x.2.2.2.2.1) x.2.2.2.2.2⟩:=eP t217 rn zgI func367 [0] (qf rfl z9a zh)
def t218:=t217.s zlT
def PE:q8:=Lz [] [Mi 2,.s 4 (.wj 256 [.rp (.sl zp)])] zbE [⟨.exit 0,z5y⟩] λp s=>kS p.1 (λz0 z1=>wA z0 z1 p.2) s
def zgH:Hints:=Hz [(0,PE)] [] []
theorem z99:LO Tryz.f351 PE 0:=lk t218 rn zgH [] zh
theorem zlQ:xx Pz 351 ⟨[.sub,.any,.any,.any,.wj 256],Cu,[],tP,0,λx=>jB x.1 x.2.1 x.2.2.1 x.2.2.2.1 (λz0 z1=>wA z0 z1 x.2.2.2.2.1) x.2.2.2.2.2⟩:=eP t218 rn zgH func351 [0] (qf rfl z99 zh)
def t219:=t218.s zlQ
abbrev U2:=uz.den Cu->T (uz.den tP)
abbrev IZ(F:U2):=xx Pz 336 ⟨[.sub,.any,.any,.any,.wj 256],Cu,[],tP,0,F⟩
def S1(vv:U2)(fS:IZ vv):Tb:=t219.s fS
def Pw(vv:U2):q8:=Lz [] [Mi 1,.s 4 (.wj 256 [.rp (.sl zp)])] zbE [⟨.exit 0,z5y⟩] λp s=>uq (λy0 y1 y2 y3 y4 y5=>vv (y0,y1,y2,y3,y4,y5)) p.1 p.2 s
def Px(vv:U2):q8:=Lz [] [Mi 10] ⟨[.s 0 (.sub 0 i64),Mi 13,.a i64],[],jX⟩ [⟨.exit 2,tP⟩] λp s=>ur (λy0 y1 y2 y3 y4 y5=>vv (y0,y1,y2,y3,y4,y5)) p s
def Py(vv:U2):q8:=Lz [] [Mi 2,.s 4 (.wj 256 [.rp (.sl zp)])] ⟨[.s 0 (.sub 0 i64),Mi 14,Mi 15,.a i64],[],jX⟩ [⟨.exit 4,⟨[.s 0 (.sub 0 i64),Mi 14,.a i64],[],jX⟩⟩] λp s=>uu (λy0 y1 y2 y3 y4 y5=>vv (y0,y1,y2,y3,y4,y5)) p.1 p.2 s
def PA(vv:U2):q8:=Lz [] [Mi 14] ⟨[.s 0 (.sub 0 i64),Mi 17,.a i64],[],jX⟩ [⟨.exit 6,tP⟩] λp s=>uv (λy0 y1 y2 y3 y4 y5=>vv (y0,y1,y2,y3,y4,y5)) p s
def PC(vv:U2):q8:=Lz [] [Mi 1,Mi 2,Mi 3,.s 4 (.wj 256 [.rp (.sl zp)]),Mi 18,Mi 19,Mi 22] ⟨[.s 0 (.sub 0 i64),Mi 20,Mi 21,.a i64],[],jX⟩ [⟨.exit 8,⟨[.s 0 (.sub 0 i64),Mi 20,.a i64],[],jX⟩⟩] λp s=>uw (λy0 y1 y2 y3 y4 y5=>vv (y0,y1,y2,y3,y4,y5)) p.1 p.2.1 p.2.2.1 p.2.2.2.1 p.2.2.2.2.1 p.2.2.2.2.2.1 p.2.2.2.2.2.2 s
def SA(vv:U2):Hints:=Hz [(0,Pw vv),(2,Px vv),(4,Py vv),(6,PA vv),(8,PC vv)] [(3,27,.flat [Mi 20,Mi 21]),(0,39,.flat [Mb 185]),(3,39,.ways [⟨.normal,z5C⟩]),(0,41,.flat [Mb 199]),(3,41,.ways [⟨.normal,z5C⟩]),(0,43,.flat [Mb 213])] []
theorem z92(vv:U2)(fS:IZ vv):LO Tryz.f336 (Pw vv) 0:=lk (S1 vv fS) rn (SA vv) [] zh
theorem z94(vv:U2)(fS:IZ vv):LO Tryz.f336 (Px vv) 2:=lk (S1 vv fS) rn (SA vv) [] zh
theorem z95(vv:U2)(fS:IZ vv):LO Tryz.f336 (Py vv) 4:=lk (S1 vv fS) rn (SA vv) [] zh
theorem z96(vv:U2)(fS:IZ vv):LO Tryz.f336 (PA vv) 6:=lk (S1 vv fS) rn (SA vv) [] zh
theorem z97(vv:U2)(fS:IZ vv):LO Tryz.f336 (PC vv) 8:=lk (S1 vv fS) rn (SA vv) [] zh
theorem z9x(vv:U2)(fS:IZ vv):xx Pz 336 ⟨[.sub,.any,.any,.any,.wj 256],Cu,[],tP,0,λx=>vC (λy0 y1 y2 y3 y4 y5=>vv (y0,y1,y2,y3,y4,y5)) x.1 x.2.1 x.2.2.1 x.2.2.2.1 x.2.2.2.2.1 x.2.2.2.2.2⟩:=eP (S1 vv fS) rn (SA vv) func336 [0,2,4,6,8] (qf rfl (z92 vv fS) (qf rfl (z94 vv fS) (qf rfl (z95 vv fS) (qf rfl (z96 vv fS) (qf rfl (z97 vv fS) zh)))))
theorem zlK:xx Pz 336 ⟨[.sub,.any,.any,.any,.wj 256],Cu,[],tP,0,λx=>vW x.1 x.2.1 x.2.2.1 x.2.2.2.1 x.2.2.2.2.1 x.2.2.2.2.2⟩:=Y7 (λvv x=>vC (λy0 y1 y2 y3 y4 y5=>vv (y0,y1,y2,y3,y4,y5)) x.1 x.2.1 x.2.2.1 x.2.2.2.1 x.2.2.2.2.1 x.2.2.2.2.2) (λx=>rfl) (λvv fS=>z9x vv fS)
def t220:=t219.s zlK
def Pf:q8:=Lz [] [Mi 1,.s 2 (.wj 256 [.rp (.sl zp)]),Mi 6] z4U [⟨.exit 0,z50⟩] λp s=>kW p.1 p.2.1 p.2.2 s
def Pj:q8:=Lz [] [Mi 1,.s 2 (.wj 256 [.rp (.sl zp)]),Mi 6] z4U [⟨.exit 4,z50⟩] λp s=>kY p.1 p.2.1 p.2.2 s
def Ph:q8:=Lz [] [Mi 1,.s 2 (.wj 256 [.rp (.sl zp)])] ⟨[.s 0 (.sub 0 i64),Mi 6,.a i64],[],jX⟩ [⟨.exit 2,tP⟩] λp s=>kX p.1 p.2 s
def z6S:Hints:=Hz [(0,Pf),(4,Pj),(2,Ph)] [] []
theorem z8P:LO Tryz.f304 Pf 0:=lk t220 rn z6S [] zh
theorem z8R:LO Tryz.f304 Pj 4:=lk t220 rn z6S [] zh
theorem z8Q:LO Tryz.f304 Ph 2:=lk t220 rn z6S [4] (qf rfl z8R zh)
theorem zlj:xx Pz 304 ⟨[.sub,.any,.wj 256],⟨[.s 0 (.sub 0 i64),Mi 1,.s 2 (.wj 256 [.rp (.sl zp)]),.a i64],[],jX⟩,[],tP,0,λx=>jC x.1 x.2.1 x.2.2.1 x.2.2.2⟩:=eP t220 rn z6S func304 [0,2] (qf rfl z8P (qf rfl z8Q zh))
def t221:=t220.s zlj
theorem zkF:xx Pz 255 ⟨[.sub,.wj 256],⟨[.s 0 (.sub 0 i64),.s 1 (.wj 256 [.rp (.sl zp)]),.a i64],[],jX⟩,[],tP,0,λx=>uD x.1 x.2.1 x.2.2⟩:=eP t221 rn hN func255 [] zh
def t222:=t221.s zkF
def P0:q8:=Lz [] [Mm 0 (.sl i64),Mm 1 (.sl i64),Mi 12] z5o [kZ,RT] λp s=>cI p.1 p.2.1 p.2.2 s
def zgp:Hints:=Hz [(0,P0)] [] []
theorem z8B:LO Tryz.f258 P0 0:=lk t222 rn zgp [] zh
theorem zkI:zy Pz 258 ⟨[.ty (.sl i64),.ty (.sl i64)],[.bool],λx=>yq x.1 x.2⟩:=wv t222 rn zgp func258 [0] (qf rfl z8B zh)
def t223:=t222.d zkI
abbrev S3:=uz.den IN->T (uz.den IP)
abbrev zbO(F:S3):=xx Pz 313 ⟨mc,IN,[],IP,1,F⟩
def zfs(fI:S3)(Kd:zbO fI):Tb:=t223.s Kd
def Pk(fI:S3):q8:=Lz [] [Mi 1,Mm 33 (.sl qk),Mi 34] ⟨[Mi 6,Mi 35,.v sW,.a i64,.a i64],[(0,.ptr 0 0)],Jj⟩ [⟨.exit 0,⟨[Mi 6,.v sW,.a i64,.a i64],[],Jj⟩⟩] λp s=>kC (λy0 y1 y2 y3=>fI (y0,y1,y2,y3)) p.1 p.2.1 p.2.2 s
def zgz(fI:S3):Hints:=Hz [(0,Pk fI)] [] []
theorem z8S(fI:S3)(Kd:zbO fI):LO Tryz.f313 (Pk fI) 0:=lk (zfs fI Kd) rn (zgz fI) [] zh
theorem z9u(fI:S3)(Kd:zbO fI):xx Pz 313 ⟨mc,IN,[],IP,1,λx=>jc (λy0 y1 y2 y3=>fI (y0,y1,y2,y3)) x.1 x.2.1 x.2.2.1 x.2.2.2⟩:=eP (zfs fI Kd) rn (zgz fI) func313 [0] (qf rfl (z8S fI Kd) zh)
theorem zlr:xx Pz 313 ⟨mc,IN,[],IP,1,λx=>jT x.1 x.2.1 x.2.2.1 x.2.2.2⟩:=Y7 (λfI x=>jc (λy0 y1 y2 y3=>fI (y0,y1,y2,y3)) x.1 x.2.1 x.2.2.1 x.2.2.2) (λx=>rfl) (λfI Kd=>z9u fI Kd)
def t224:=t223.s zlr
def P7:q8:=Lz [] [Mm 27 (.sl qk),Mi 28] ⟨[Mi 7,Mi 8,Mi 29,.v IM,.v .mp,.a i64,.a i64],[(0,.ptr 0 0),(2,.gj 1)],RB⟩ [⟨.exit 0,⟨[Mi 7,.v IM,.v .mp,.a i64,.a i64],[],RB⟩⟩] λp s=>gE p.1 p.2 s
def zgu:Hints:=Hz [(0,P7)] [(0,6,.flat [Mb 46])] []
theorem z8I:LO Tryz.f267 P7 0:=lk t224 rn zgu [] zh
theorem zkQ:xx Pz 267 ⟨Qz,⟨[Mi 1,.v IM,.v .mp,.a i64,.a i64],[(0,.ptr 0 0),(2,.gj 1)],RB⟩,[],⟨[Mi 0,.v IM,.v .mp,.a i64,.a i64],[],RB⟩,1,λx=>yw x.1 x.2.1 x.2.2.1 x.2.2.2.1 x.2.2.2.2⟩:=eP t224 rn zgu func267 [0] (qf rfl z8I zh)
def t225:=t224.s zkQ
def P2:q8:=Lz [] [Mi 6,Mm 54 (.sl qk),Mi 55] ⟨[Mi 56,.v sW,.a i64,.a i64,.v .mp],[(0,.ptr 0 0),(4,.gj 3)],z4E⟩ [⟨.exit 2,RN⟩] λp s=>yZ p.1 p.2.1 p.2.2 s
def P1:q8:=Lz [] [] ⟨[Mi 1,.v sW,.a i64,.a i64,.v .mp],[(0,.ptr 0 0),(4,.gj 3)],z4E⟩ [⟨.exit 0,RN⟩,⟨.ret,RN⟩] λp s=>yY  s
def zcA:Hints:=Hz [(2,P2),(0,P1)] [(3,5,.ways [⟨.normal,RN⟩])] []
theorem z8D:LO Tryz.f259 P2 2:=lk t225 rn zcA [] zh
theorem z8C:LO Tryz.f259 P1 0:=lk t225 rn zcA [2] (qf rfl z8D zh)
theorem zkJ:xx Pz 259 ⟨mc,IN,[],⟨[.v sW,.a i64,.a i64],[],Jj⟩,0,λx=>y6 x.1 x.2.1 x.2.2.1 x.2.2.2⟩:=eP t225 rn zcA func259 [0] (qf rfl z8C zh)
def t226:=t225.s zkJ
def z6j:Tb:=t226.d z3w
def Ox:q8:=Lz [.slot 10 i64] [Mr 3 (.sl zp),Mi 27] ⟨[Mi 28,.v sW,.a i64,.a i64,.a i64],[(8,.ptr 0 0),(10,.cur 3 i64)],Cn⟩ [⟨.exit 0,z4W⟩] λp s=>oe p.1 p.2 s
def Oz:q8:=Lz [] [.s 12 (.sT i64),Mi 57] ⟨[Mi 58,.v sW,.a i64,.a i64,.a i64],[(8,.ptr 0 0),(10,.cur 3 i64),(56,.cur 3 i64)],Cn⟩ [⟨.exit 4,z4W⟩] λp s=>oh p.1 p.2 s
def Oy:q8:=Lz [] [] ⟨[.s 12 (.sT i64),.v sW,.a i64,.a i64,.a i64],[(8,.ptr 0 0),(10,.cur 3 i64)],Cn⟩ [⟨.exit 2,⟨[.v sW,.a i64,.a i64,.a i64],[],Cn⟩⟩] λp s=>og  s
def z6P:Hints:=Hz [(0,Ox),(4,Oz),(2,Oy)] [(0,12,.ways [⟨.normal,⟨[Mb 49,.v sW,.a i64,.a i64,.a i64],[(10,.cur 3 i64)],Cn⟩⟩])] []
theorem z88:LO Tryz.f196 Ox 0:=lk z6j (rz [3,50]) z6P [] zh
theorem z8a:LO Tryz.f196 Oz 4:=lk z6j (rz [3,50]) z6P [] zh
theorem z89:LO Tryz.f196 Oy 2:=lk z6j (rz [3,50]) z6P [4] (qf rfl z8a zh)
theorem zjO:zy Pz 196 ⟨[.ty (.sl zp),.ty (.sl i64),.ty i64],[(.sl i64),.bool],λx=>pc x.1 x.2.1 x.2.2⟩:=wv z6j (rz [3,50]) z6P func196 [0,2] (qf rfl z88 (qf rfl z89 zh))
def t227:=t226.d zjO
theorem zjP:zy Pz 197 ⟨[.ty zp],[.bool],λx=>Qu x⟩:=wv t227 (rz [1]) hN func197 [] zh
def t228:=t227.d zjP
theorem zjd:zy Pz 156 ⟨[.ty (.sl zp),.ty (.sl i64),.ty i64],[.bool],λx=>Z9 x.1 x.2.1 x.2.2⟩:=wv t228 rn hN func156 [] zh
def t229:=t228.d zjd
def Oi:q8:=Lz [] [Mm 0 (.sl i64),Mi 1,Mi 7] dx [kZ,oP] λp s=>yI p.1 p.2.1 p.2.2 s
def zg0:Hints:=Hz [(0,Oi)] [] []
theorem z7U:LO Tryz.f159 Oi 0:=lk t229 rn zg0 [] zh
theorem zjg:zy Pz 159 ⟨[.ty (.sl i64),.ty i64],[i64],λx=>uM x.1 x.2⟩:=wv t229 rn zg0 func159 [0] (qf rfl z7U zh)
def t230:=t229.d zjg
theorem zjc:zy Pz 155 ⟨[.ty (.sl i64),.ty i64],[.bool],λx=>jy x.1 x.2⟩:=wv t230 rn hN func155 [] zh
def t231:=t230.d zjc
theorem zlm:xx Pz 307 ⟨[.any,.any,.any,.ptr],⟨[Mm 0 qk,Mr 1 (.sl i64),Mr 2 i64,.a i64],[(3,.ptr 0 0)],[.cvar (.cur 1 i64),.arr i64]⟩,[],z5w,1,λx=>dt x.1 x.2.1 x.2.2.1 x.2.2.2⟩:=eP t231 (rz [4]) hN func307 [] zh
def t232:=t231.s zlm
def BM:q8:=Lz [] [Mm 0 (.sl qk),Mi 7] ⟨[.s 1 (.mclo 307 [.rp (.sl i64),.rp i64,.pt 0]),Mi 8,.a i64],[],[.cvar (.cur 1 i64),.arr i64]⟩ [⟨.exit 0,⟨[.a i64],[],[.cvar (.cur 1 i64),.arr i64]⟩⟩,⟨.ret,⟨[Mi 4,.a i64],[],[.cvar (.cur 1 i64),.arr i64]⟩⟩] λp s=>vu p.1 p.2 s
def z1d:Hints:=Hz [(0,BM)] [] []
theorem T7:LO Tryz.f302 BM 0:=lk t232 rn z1d [] zh
theorem R7:xx Pz 302 ⟨[.any,.wj 307],zbA,[],⟨[Mi 0,.a i64],[],[.cvar (.cur 1 i64),.arr i64]⟩,1,λx=>vS x.1 x.2.1 x.2.2⟩:=eP t232 rn z1d func302 [0] (qf rfl T7 zh)
def t233:=t232.s R7
theorem R4:xx Pz 251 ⟨[.any,.wj 307],zbA,[],z5w,1,λx=>wK x.1 x.2.1 x.2.2⟩:=eP (t233.s R7) rn hN func251 [] zh
def t234:=t233.s R4
theorem zll:xx Pz 306 ⟨[.any,.ptr,.any,.any],⟨[Mi 0,Mr 2 (.sl zp),Mr 3 (.sl i64),.a i64],[(1,.ptr 0 0)],[.cvar (.cur 1 i64),.arr i64]⟩,[],z5w,1,λx=>lH x.1 x.2.1 x.2.2.1 x.2.2.2⟩:=eP (t234.s R4) (rz [4]) hN func306 [] zh
def t235:=t234.s zll
def zfr:Tb:=t235.s z9A
def P3:q8:=Lz [.slot 9 i64] [Mr 3 (.sl zp)] ⟨[.s 8 (.mclo 306 [.pt 1,.rp (.sl zp),.rp (.sl i64)]),Mi 10,.a i64,.a i64],[(7,.ptr 1 0),(9,.cur 2 i64)],[.arr i64,.cvar (.cur 0 i64),.arr i64]⟩ [⟨.exit 0,⟨[.a i64,.a i64],[(9,.cur 2 i64)],[.arr i64,.cvar (.cur 0 i64),.arr i64]⟩⟩] λp s=>Qs p s
def zgq:Hints:=Hz [(0,P3)] [] []
theorem z8E:LO Tryz.f260 P3 0:=lk zfr (rz [3,4]) zgq [] zh
theorem zkK:zy Pz 260 ⟨[.ty (.sl zp),.ty (.sl i64),.ty i64],[(.sl i64)],λx=>Wz x.1 x.2.1 x.2.2⟩:=wv zfr (rz [3,4]) zgq func260 [0] (qf rfl z8E zh)
def t236:=t235.d zkK
def P4:q8:=Lz [] [Mi 1,Mm 18 (.sl qk),Mi 19] ⟨[Mi 20,.a zm,.v (.qi zm),.v (.qi zm),.v (.qi zm)],[(2,.cur 0 zm),(6,.ptr 1 0),(7,.ptr 2 0),(8,.ptr 3 0)],z4D⟩ [⟨.exit 0,⟨[.a zm,.v (.qi zm),.v (.qi zm),.v (.qi zm)],[],z4D⟩⟩] λp s=>lJ p.1 p.2.1 p.2.2 s
def zgr:Hints:=Hz [(0,P4)] [] []
theorem z8F:LO Tryz.f261 P4 0:=lk t236 (rz [3]) zgr [] zh
theorem zkL:xx Pz 261 ⟨[.any,.any,.cur],⟨[Mm 0 zp,Mi 1,.a zm],[(2,.cur 0 zm)],Z0⟩,[],⟨[Mm 0 zm,.a zm],[],Z0⟩,1,λx=>tI x.1 x.2.1 x.2.2⟩:=eP t236 (rz [3]) zgr func261 [0] (qf rfl z8F zh)
def t237:=t236.s zkL
def OA:q8:=Lz [.slot 9 zm] [Mm 0 (.sl zp),Mm 1 (.sl i64),Mm 2 (.sl zm),Mm 21 (.sl zm),Mi 22] ⟨[Mi 23,.a zm],[(9,.cur 0 zm)],Z0⟩ [⟨.exit 0,z5k⟩] λp s=>VO p.1 p.2.1 p.2.2.1 p.2.2.2.1 p.2.2.2.2 s
def OB:q8:=Lz [] [Mm 0 (.sl zp),Mm 1 (.sl i64),Mm 37 (.sl i64),Mi 38] ⟨[Mi 39,.a zm],[(9,.cur 0 zm)],Z0⟩ [⟨.exit 2,z5k⟩,⟨.ret,⟨[Mi 7,Mi 8,.a zm],[(6,.wH)],Z0⟩⟩] λp s=>Qt p.1 p.2.1 p.2.2.1 p.2.2.2 s
def zcy:Hints:=Hz [(0,OA),(2,OB)] [] []
theorem z8b:LO Tryz.f198 OA 0:=lk t237 rn zcy [] zh
theorem z8c:LO Tryz.f198 OB 2:=lk t237 rn zcy [] zh
theorem zjQ:zy Pz 198 ⟨[.ty (.sl zp),.ty (.sl i64),.ty (.sl zm)],[(.sl zm),i64,i64],λx=>Ym x.1 x.2.1 x.2.2⟩:=wv t237 rn zcy func198 [0,2] (qf rfl z8b (qf rfl z8c zh))
def t238:=t237.d zjQ
def Oc:q8:=Lz [] [Mm 0 (.sl zp),Mr 3 j5,Mm 9 (.sl i64),Mm 62 (.sl zp),Mi 63] ⟨[Mi 64,.v (.qi j5),.v (.qi i64)],[(4,.ptr 0 0)],RC⟩ [⟨.exit 0,⟨[.v (.qi j5),.v (.qi i64)],[],RC⟩⟩,⟨.ret,⟨[Mi 5,Mi 6,.v (.qi j5),.v (.qi i64)],[],RC⟩⟩] λp s=>sO p.1 p.2.1 p.2.2.1 p.2.2.2.1 p.2.2.2.2 s
def zfT:Hints:=Hz [(0,Oc)] [(0,2,.ways [⟨.normal,⟨[Mb 42,.v (.qi j5),.v (.qi i64)],[],RC⟩⟩]),(0,13,.ways [⟨.normal,⟨[Mb 83,.v (.qi j5),.v (.qi i64),.v (.qi zp)],[],[.var (.qi j5),.var (.qi i64),.var (.qi zp)]⟩⟩])] []
theorem z7O:LO Tryz.f138 Oc 0:=lk t238 (rz [3]) zfT [] zh
theorem ziW:zy Pz 138 ⟨[.ty (.sl zp),.ty j5],[j5,i64,i64],λx=>tM x.1 x.2⟩:=wv t238 (rz [3]) zfT func138 [0] (qf rfl z7O zh)
def t239:=t238.d ziW
theorem ziX:xx Pz 139 ⟨mc,⟨[Mi 1,.v (.qi uE)],[(0,.ptr 0 0)],He⟩,[],⟨[.s 0 (.tight .str),.v (.qi uE)],[],He⟩,1,λx=>dm x.1 x.2⟩:=eP t239 rn hN func139 [] zh
def t240:=t239.s ziX
theorem zqg:xx Pz 74 ⟨mc,⟨[Mm 1 (.sl zm),.v (.qi uE)],[(0,.ptr 0 0)],He⟩,[],⟨[Mm 0 (.sl zm),.s 1 (.tight .str),Mi 2,.v (.qi uE)],[],He⟩,3,λx=>ke x.1 x.2⟩:=eP t240 rn hN func74 [] zh
def t241:=t240.s zqg
def zgL:Hints:=Hz [] [(0,1,.HT)] []
theorem Mu:xx Pz 48 ⟨[.any],⟨[Mm 0 (.sl zm)],[],[]⟩,[],z5l,1,λx=>u7 x⟩:=eP t241 rn zgL func48 [] zh
def t242:=t241.s Mu
def h49:Hints:=Hz [] [(0,1,.HT)] []
theorem zpU:xx Pz 49 ⟨[.any],⟨[Mm 0 (.sl .bool)],[],[]⟩,[],z5j,1,λx=>vR x⟩:=eP t242 rn h49 func49 [] zh
def t243:=t242.s zpU
def h51:Hints:=Hz [] [(0,1,.HT)] []
theorem zpV:xx Pz 51 ⟨[.any],⟨[Mm 0 (.sl zx)],[],[]⟩,[],z5b,1,λx=>uF x⟩:=eP t243 rn h51 func51 [] zh
def t244:=t243.s zpV
theorem zpu:xx Pz 20 ⟨[.any],⟨[Mm 0 xj],[],[]⟩,[],⟨[.s 0 z4Q,.a zm,.a .bool,.a zm,.a i64,.a zx,.a .bool],[],z4L⟩,1,λx=>mv x⟩:=eP ((t244.s z9A).s Mu) (rz [1]) hN func20 [] zh
def t245:=t244.s zpu
def z2R:q8:=Lz [] [Mi 17] ⟨[Mi 18,.v (.qi uE),.v z4P,.v (.qi xj),.a zm,.a .bool,.a zm,.a i64,.a zx,.a .bool],[(0,.ptr 0 0),(4,.ptr 1 0),(6,.ptr 2 0)],z4G⟩ [⟨.exit 0,zbD⟩] λp s=>dD p s
def z2S:q8:=Lz [] [Mm 29 (.sl i64),Mi 30] ⟨[Mi 31,.v (.qi uE),.v z4P,.v (.qi xj),.a zm,.a .bool,.a zm,.a i64,.a zx,.a .bool],[(0,.ptr 0 0),(4,.ptr 1 0),(6,.ptr 2 0)],z4G⟩ [⟨.exit 2,zbD⟩] λp s=>dE p.1 p.2 s
def h75:Hints:=Hz [(0,z2R),(2,z2S)] [] []
theorem zdM:LO Tryz.f75 z2R 0:=lk t245 rn h75 [] zh
theorem zdN:LO Tryz.f75 z2S 2:=lk t245 rn h75 [] zh
theorem zqh:xx Pz 75 ⟨Qz,⟨[Mm 1 xj,Mm 2 (.sl zm),.v (.qi uE)],[(0,.ptr 0 0)],He⟩,[],⟨[.s 0 (.st [.row 1 zm,.row 2 .bool,.im (.sl zm),.row 3 i64,.row 4 zx,.row 5 .bool]),.v (.qi uE),.a zm,.a .bool,.a i64,.a zx,.a .bool],[],[.var (.qi uE),.arr zm,.arr .bool,.arr i64,.arr zx,.arr .bool]⟩,1,λx=>gR x.1 x.2.1 x.2.2⟩:=eP t245 rn h75 func75 [0,2] (qf rfl zdM (qf rfl zdN zh))
def t246:=t245.s zqh
def h32:Hints:=Hz [] [] [(4,[1001006,1001007,1001008])]
theorem zpG:xx Pz 32 ⟨Hd,z5f,[],zbz,3,λx=>en x.1 x.2⟩:=eP t246 (rz [2,3]) h32 func32 [] zh
def t247:=t246.s zpG
def z2p:q8:=Lz [.cell 0 1 .bool,.cell 0 5 .bool,.cell 1 1 .bool,.cell 1 5 .bool,.cell 0 4 zx,.cell 1 4 zx,.cell 0 3 i64,.cell 1 3 i64,.cell 0 0 zm,.cell 0 2 zm,.cell 1 0 zm,.cell 1 2 zm] [Mr 1 qx,Mm 11 (.sl qg),Mi 12] ⟨[Mi 13,.v RF,.v RG,.a .bool,.a .bool,.a .bool,.a .bool,.a zx,.a zx,.a i64,.a i64,.a zm,.a zm,.a zm,.a zm],[(2,.ptr 0 0),(5,.ptr 1 0)],z4H⟩ [⟨.exit 0,RI⟩] λp s=>ZQ p.1 p.2.1 p.2.2 s
def z2q:q8:=Lz [] [Mr 1 qx,Mm 27 (.sl qe),Mi 28] ⟨[Mi 29,.v RF,.v RG,.a .bool,.a .bool,.a .bool,.a .bool,.a zx,.a zx,.a i64,.a i64,.a zm,.a zm,.a zm,.a zm],[(2,.ptr 0 0),(5,.ptr 1 0)],z4H⟩ [⟨.exit 2,RI⟩] λp s=>ZR p.1 p.2.1 p.2.2 s
def z2r:q8:=Lz [] [Mr 1 qx,Mi 43] ⟨[Mi 44,.v RF,.v RG,.a .bool,.a .bool,.a .bool,.a .bool,.a zx,.a zx,.a i64,.a i64,.a zm,.a zm,.a zm,.a zm],[(2,.ptr 0 0),(5,.ptr 1 0)],z4H⟩ [⟨.exit 4,RI⟩] λp s=>ZS p.1 p.2 s
def z2s:q8:=Lz [] [Mr 1 qx,Mi 67] ⟨[Mi 68,.v RF,.v RG,.a .bool,.a .bool,.a .bool,.a .bool,.a zx,.a zx,.a i64,.a i64,.a zm,.a zm,.a zm,.a zm],[(2,.ptr 0 0),(5,.ptr 1 0)],z4H⟩ [⟨.exit 6,RI⟩] λp s=>ZT p.1 p.2 s
def h15:Hints:=Hz [(0,z2p),(2,z2q),(4,z2r),(6,z2s)] [] [(22,[1001000,1001001,1001002,1001003,1001004,1001005])]
theorem zdk:LO Tryz.f15 z2p 0:=lk t247 (rz [1]) h15 [] zh
theorem zdl:LO Tryz.f15 z2q 2:=lk t247 (rz [1]) h15 [] zh
theorem zdm:LO Tryz.f15 z2r 4:=lk t247 (rz [1]) h15 [] zh
theorem zdn:LO Tryz.f15 z2s 6:=lk t247 (rz [1]) h15 [] zh
theorem zpr:xx Pz 15 ⟨[.any],z5r,[],zbz,3,λx=>Wc x⟩:=eP t247 (rz [1]) h15 func15 [0,2,4,6] (qf rfl zdk (qf rfl zdl (qf rfl zdm (qf rfl zdn zh))))
def t248:=t247.s zpr
theorem zqj:zy Pz 77 ⟨[.ty qe,.rp xi],[.bool],λx=>ku x.1 x.2⟩:=wv t248 (rz [2]) hN func77 [] zh
def t249:=t248.d zqj
def FM:q8:=Lz [] [Mm 0 (.sl qe),.s 1 (.wj 77 [.rp xi]),Mi 7] dx [kZ,oP] λp s=>xp p.1 (λz0=>ku z0 p.2.1) p.2.2 s
def zaA:Hints:=Hz [(0,FM)] [] []
theorem z2f:LO Tryz.f76 FM 0:=lk t249 rn zaA [] zh
theorem z3E:zy Pz 76 ⟨[.ty (.sl qe),.wj 77 [.rp xi]],[i64],λx=>xm x.1 (λz0=>ku z0 x.2)⟩:=wv t249 rn zaA func76 [0] (qf rfl z2f zh)
def t250:=t249.d z3E
def T33:Tb:=t250.d z3E
def z2F:q8:=Lz [.slot 5 .bool] [Mm 1 (.sl .bool),Mr 2 qx,Mm 10 (.sl xi),Mi 11] ⟨[Mi 12,.a .bool],[(5,.cur 0 .bool)],[.arr .bool]⟩ [z5J] λp s=>kt p.1 p.2.1 p.2.2.1 p.2.2.2 s
def h33:Hints:=Hz [(0,z2F)] [] []
theorem zdA:LO Tryz.f33 z2F 0:=lk T33 (rz [2]) h33 [] zh
theorem zlE:zy Pz 33 ⟨[.ty qx,.ty (.sl .bool)],[(.sl .bool)],λx=>jr x.1 x.2⟩:=wv T33 (rz [2]) h33 func33 [0] (qf rfl zdA zh)
def t251:=t250.d zlE
end Go.AM.Lf
namespace Go.Proofs
open Go.RowKit Go.Shelf

attribute [local go_sem] zN

def PB.upto{α:Type}(f:Nat->α)(k:Nat):List α:=(List.range k).map f
theorem PB.ZA{α:Type}(f:Nat->α)(k:Nat):PB.upto f (k+1)=PB.upto f k++[f k]:=by simp[PB.upto,List.range_succ]
theorem PB.IE{α:Type}(f:Nat->α)(k:Nat):(PB.upto f k).length=k:=by simp[PB.upto]
def PB.at(zs:List Bool)(len j:Nat):Nat×Bool:=(len-1-j,zs[len-1-j]?.getD false)

set_option maxRecDepth 100000 in
set_option maxHeartbeats 2000000 in
theorem PB.z0k(F:Fence)(n:Nat)(Fh:F.fn 140)(SH:F.round=none)(hn:1<=n)(l Bs n₀ b off len cap:Nat)(zs:List Bool)(JF:len*8<=140737488351232)(J:b<n₀)(hb Jx:List (Nat×Bool)->World->Prop)
  (hY:∀ pre x zD,hb pre zD->pre.length<len->YieldAt F (n-1) Tryz.prog l #[.int .i64 (x.1:Int),.bool x.2] zD λe W' =>
   (e=.returned (.bool true)/\hb (pre++[x]) W'/\Below n₀ zD W')\/(e=.returned (.bool false)/\Jx (pre++[x]) W'))
  (zD:World) (hBs:zD.cell? ⟨Bs,0,none⟩=some (.slice (some ⟨b,off,none⟩) len cap)) (zoc:Bs<n₀) (hc:∀ j,j<len->zD.cell? ⟨b,off+j,none⟩=some (.bool (zs[j]?.getD false))) (h0:hb [] zD) :
  CallsIn F n Tryz.prog 140 #[.func (.yield l) #[] #[],.pointer (some ⟨Bs,0,none⟩)] zD λe W'=>(∃ v,e=.returned v) /\
   ((∃ ys,ys=PB.upto (PB.at zs len) len/\hb ys W')\/(∃ pre,(∃ k,k<=len/\pre=PB.upto (PB.at zs len) k)/\Jx pre W')):=by
 refine callsIn_of_wp Tryz.func140 rfl Fh ?_ SH
 simp only[Tryz.ntmps140,Y,zK,zZ,qE,qF,zO,zP,zV,zS,qA,zX]
 gi_wp2
 gi_loopw [3] (λi wr=>∃ m:Nat,m<=len/\i=.int .i64 ((m:Int)-1)/\hb (PB.upto (PB.at zs len) (len-m)) wr/\Below n₀ zD wr)
  (λi _=>(intOf i+1).toNat)
 case atStart=>exact⟨len,W _,by simp,by simpa[PB.upto]using h0,Below.refl _ _⟩
 case round =>
  obtain⟨m,hm,rfl,hJs,Ec⟩:=hrel
  have hbs:=(Ec.cell (p:=⟨Bs,0,none⟩) zoc).trans hBs
  cases m with
  | succ k =>
   have hcx:wr.cell? ⟨b,off+k,none⟩=some (.bool (zs[k]?.getD false)):=(Ec.cell (p:=⟨b,off+k,none⟩) J).trans (hc k (by omega))
   obtain⟨fn,tmps,assign,body,hy,hR⟩:=hY _ (k,zs[k]?.getD false) wr hJs (by rw[PB.IE]; omega)
   dsimp only at hy
   have hk1:((k+1:Nat):Int)-1=k:=by omega
   rw[hk1]
   have LQ:PB.at zs len (len-(k+1))=(k,zs[k]?.getD false):=by
    have:len-1-(len-(k+1))=k:=by omega
    simp[PB.at,this]
   gi_wp2
   refine hR.mono ?_
   rintro e W3 (⟨rfl,hJ3,hk3⟩ | ⟨rfl,zog⟩)
   ·gi_wp2
    go_roundw
    case rel=>exact⟨k,by omega,by simp,by rw[show len-k=len-(k+1)+1 by omega,PB.ZA,LQ]; exact hJ3,Ec.trans hk3⟩
    case measure=>simp[intOf]
   ·gi_wp2
    refine bodyPost_ret (results_none rfl _ _ _) rfl ?_
    exact⟨⟨_,rfl⟩,.inr ⟨_,⟨len-(k+1)+1,by omega,by rw[PB.ZA,LQ]⟩,zog⟩⟩
  | zero =>
   gi_wp2
   go_end0
   exact⟨⟨_,rfl⟩,.inl ⟨_,rfl,hJs⟩⟩

/-- The bools of a slice,in a block below n₀; or there are none. -/
def PB.Eg(n₀:Nat)(zD:World)(sv:Value)(zs:List Bool):Prop :=
 (∃ a,sv=.slice a 0 0/\zs=[])\/∃ b off cap,sv=.slice (some ⟨b,off,none⟩) zs.length cap/\b<n₀/\∀ j,j<zs.length->zD.cell? ⟨b,off+j,none⟩=some (.bool (zs[j]?.getD false))
theorem PB.Eg.below{n₀:Nat}{A hl:World}(h:Below n₀ A hl){sv:Value}{zs:List Bool}:PB.Eg n₀ A sv zs->PB.Eg n₀ hl sv zs
 | .inl e=>.inl e
 | .inr ⟨b,off,cap,e,J,hc⟩=>.inr ⟨b,off,cap,e,J,λj hj=>(h.cell (p:=⟨b,off+j,none⟩) J).trans (hc j hj)⟩

set_option maxRecDepth 100000 in
set_option maxHeartbeats 1000000 in
theorem PB.CA(F:Fence)(n:Nat)(Fh:F.fn 140)(SH:F.round=none)(l Bs:Nat)(a:Option Addr)(hb:List (Nat×Bool)->World->Prop)(zD:World)(hBs:zD.cell? ⟨Bs,0,none⟩=some (.slice a 0 0))(h0:hb [] zD) :
  CallsIn F n Tryz.prog 140 #[.func (.yield l) #[] #[],.pointer (some ⟨Bs,0,none⟩)] zD λe W'=>(∃ v,e=.returned v)/\hb [] W':=by
 refine callsIn_of_wp Tryz.func140 rfl Fh ?_ SH
 simp only[Tryz.ntmps140,Y,zK,zZ,qE,qF,zO,zP,zV,zS,qA,zX]
 gi_wp2
 gi_loopw [3] (λi wr=>i=.int .i64 (-1)/\hb [] wr) (λ_ _=>0)
 case atStart=>exact⟨rfl,h0⟩
 case round =>
  obtain⟨rfl,hJs⟩:=hrel
  gi_wp2
  go_end0
  exact⟨⟨_,rfl⟩,hJs⟩

set_option maxHeartbeats 1000000 in
theorem PB.EC(F:Fence)(n:Nat)(h20:F.fn 78)(SH:F.round=none)(a:Option Addr)(len cap:Nat)(w:World) :
  CallsIn F n Tryz.prog 78 #[.slice a len cap] w λe w'=>e=.returned (.func (.func 140) #[] #[.pointer (some ⟨w.heap.size,0,none⟩)])/\w'=w.alloc (.cells #[.slice a len cap] 48):=by
 refine callsIn_of_wp Tryz.func78 rfl h20 ?_ SH
 simp only[Tryz.ntmps78,Y,zK,zZ,qE,qF,zO,zP,zV,zS,qA,zX]
 gi_wp2
 go_ret
 exact⟨rfl,rfl⟩

theorem PB.Le(F:Fence)(n:Nat)(Fh:F.fn 140)(SH:F.round=none)(hn:1<=n)(Bs n₀:Nat)(sv:Value)(zs:List Bool)(JF:zs.length*8<=140737488351232)(w:World)(hBs:Bs<n₀)(hn₀:n₀<=w.heap.size)
  (hc:w.cell? ⟨Bs,0,none⟩=some sv) (hI:PB.Eg n₀ w sv zs) :
  SeqStopsK F n Tryz.prog 140 #[.pointer (some ⟨Bs,0,none⟩)] (λx:Nat×Bool => #[I .i64 (x.1:Int),zM x.2]) (Below n₀) (λys=>ys=PB.upto (PB.at zs zs.length) zs.length)
   (λpre=>∃ k,k<=zs.length/\pre=PB.upto (PB.at zs zs.length) k) zs.length w:=λl hb Jx zD hW _ _ hY h0=>by
 have hc':=(hW.cell (p:=⟨Bs,0,none⟩) (zI hBs hn₀)).trans hc
 rcases hI.below (hW.mono hn₀)with⟨a,rfl,rfl⟩ | ⟨b,off,cap,rfl,J,QY⟩
 ·exact(PB.CA F n Fh SH l Bs a hb zD hc' h0).mono λe W' ⟨he,hj⟩=>⟨he,.inl ⟨_,rfl,hj⟩⟩
 ·exact PB.z0k F n Fh SH hn l Bs n₀ b off zs.length cap zs JF J hb Jx hY zD hc' hBs QY h0
end Go.Proofs

namespace Go.Proofs
open Go.RowKit Go.Shelf
attribute [local go_sem] zN

/-- None of the first k that came counts. -/
theorem PB.DC(l:List Bool)(at_:Int):∀ k m:Nat,m+k=l.length->(∀ p∈PB.upto (PB.at l l.length) k,¬ (p.2=true/\(p.1:Int)<at_))->Go.AM.Lf.iA l at_ l.length=Go.AM.Lf.iA l at_ m
 | 0,m,h,_=>by rw[show m=l.length by omega]
 | k+1,m,h,hp=>by
  rw[PB.DC l at_ k (m+1) (by omega) λp hq=>hp p (by rw[PB.ZA]; exact List.mem_append_left _ hq)]
  have:=hp (PB.at l l.length k) (by rw[PB.ZA]; simp)
  simp only[PB.at,show l.length-1-k=m by omega]at this
  simp only[Go.AM.Lf.iA,if_neg this]

set_option maxRecDepth 100000 in
set_option maxHeartbeats 4000000 in
theorem PB.z6e(F:Fence)(n:Nat)(h10:F.fn 34)(h7:F.fn 33)(h20:F.fn 78)(Fh:F.fn 140)(SH:F.round=none)(hn:3<=n)(c0 c1 c2 c3 c4 c5 vOn:Value)(at_:Int)(zs:List Bool)(w:World)(JF:zs.length*8<=140737488351232)
  (zoi:∀ zD,Below w.heap.size w zD->CallsIn F (n-1) Tryz.prog 33 #[.agg #[c0,c1,c2,c3,c4,c5],vOn] zD λe W'=>∃ a len cap,e=.returned (.slice a len cap)/\Below zD.heap.size zD W'/\PB.Eg W'.heap.size W' (.slice a len cap) zs) :
  CallsIn F n Tryz.prog 34 #[.agg #[c0,c1,c2,c3,c4,c5],vOn,.int .i64 at_] w λe W'=>e=.returned (.tuple #[.int .i64 (Go.AM.Lf.iA zs at_ zs.length).1,.bool (Go.AM.Lf.iA zs at_ zs.length).2])/\Below w.heap.size w W':=by
 have h1:1<=n:=by omega
 refine callsIn_of_wp_marks Tryz.func34 rfl h10 ?_ SH
 simp only[Tryz.ntmps34,Y,zK,zZ,qE,qF,zO,zP,zV,zS,qA,zX]
 gi_wp2_with (first
  | (gi_at_call 33; refine(zoi _ (((((Below.refl _ w).alloc (W _) _).alloc (by simp) _).alloc (by simp; omega) _).alloc (by simp; omega) _)).mono ?_; rintro e W1 ⟨a,len,cap,rfl,hB1,hZ1⟩)
  | (gi_at_call 78; refine(PB.EC F (n-1) h20 SH _ _ _ _).mono ?_; rintro e w' ⟨rfl,rfl⟩))
 have hB0:Below w.heap.size w ((((w.alloc (zA #[c0,c1,c2,c3,c4,c5] 29)).alloc (zA #[I IntKind.i64 at_] 3)).alloc (zA #[I IntKind.i64 0] 3)).alloc (zA #[zM false] 4)) :=
  ((((Below.refl _ w).alloc (W _) _).alloc (by simp) _).alloc (by simp; omega) _).alloc (by simp; omega) _
 have k5:((((w.alloc (zA #[c0,c1,c2,c3,c4,c5] 29)).alloc (zA #[I IntKind.i64 at_] 3)).alloc (zA #[I IntKind.i64 0] 3)).alloc (zA #[zM false] 4)).heap[w.heap.size+1]? = some (zA #[I IntKind.i64 at_] 3):=by
  have:=((qQ (w.alloc (zA #[c0,c1,c2,c3,c4,c5] 29)) 3 (.int .i64 at_)).alloc (zA #[I IntKind.i64 0] 3)).alloc (zA #[zM false] 4)
  rw[zL]at this; exact this
 have k6:((((w.alloc (zA #[c0,c1,c2,c3,c4,c5] 29)).alloc (zA #[I IntKind.i64 at_] 3)).alloc (zA #[I IntKind.i64 0] 3)).alloc (zA #[zM false] 4)).heap[w.heap.size+1+1]? = some (zA #[I IntKind.i64 0] 3):=by
  have:=(qQ ((w.alloc (zA #[c0,c1,c2,c3,c4,c5] 29)).alloc (zA #[I IntKind.i64 at_] 3)) 3 (.int .i64 0)).alloc (zA #[zM false] 4)
  rw[zL,zL]at this; exact this
 have k7:((((w.alloc (zA #[c0,c1,c2,c3,c4,c5] 29)).alloc (zA #[I IntKind.i64 at_] 3)).alloc (zA #[I IntKind.i64 0] 3)).alloc (zA #[zM false] 4)).heap[w.heap.size+1+1+1]? = some (zA #[zM false] 4):=by
  have:=(qQ (((w.alloc (zA #[c0,c1,c2,c3,c4,c5] 29)).alloc (zA #[I IntKind.i64 at_] 3)).alloc (zA #[I IntKind.i64 0] 3)) 4 (.bool false))
  rw[zL,zL,zL]at this; exact this
 have cp:((((w.alloc (zA #[c0,c1,c2,c3,c4,c5] 29)).alloc (zA #[I IntKind.i64 at_] 3)).alloc (zA #[I IntKind.i64 0] 3)).alloc (zA #[zM false] 4)).heap.size=w.heap.size+1+1+1+1:=by simp
 generalize ((((w.alloc (zA #[c0,c1,c2,c3,c4,c5] 29)).alloc (zA #[I IntKind.i64 at_] 3)).alloc (zA #[I IntKind.i64 0] 3)).alloc (zA #[zM false] 4))=W0 at *
 have hs1:=hB1.size
 have b5:Boxed W1 (w.heap.size+1) 3 (.int .i64 at_):=(hB1.block _ (by omega)).trans k5
 have b6:Boxed W1 (w.heap.size+1+1) 3 (.int .i64 0):=(hB1.block _ (by omega)).trans k6
 have b7:Boxed W1 (w.heap.size+1+1+1) 4 (.bool false):=(hB1.block _ (by omega)).trans k7
 have bS:=qQ W1 48 (.slice a len cap)
 have hBw:Below w.heap.size w W1:=hB0.trans (hB1.mono (by omega))
 have hBa:Below w.heap.size w (W1.alloc (zA #[qM a len cap] 48)):=hBw.alloc (by omega) _
 have fin:∀ {W2:World} {D:Nat} {v6:Int} {v7:Bool},w.heap.size<=D->W2.heap[D]? = some (.deferred (some []))->Below w.heap.size w W2->Boxed W2 (w.heap.size+1+1) 3 (.int .i64 v6)->Boxed W2 (w.heap.size+1+1+1) 4 (.bool v7) ->
   ∀ {u:Value},bodyPostM F n Tryz.prog Tryz.f34 (λe W'=>e=.returned (.tuple #[.int .i64 v6,.bool v7])/\Below w.heap.size w W') Exit.ret
    { tmps := #[qR #[c0,c1,c2,c3,c4,c5],vOn,I IntKind.i64 at_,
     zG (some { block:=w.heap.size,off:=0 }),undef,
     zG (some { block:=w.heap.size+1,off:=0 }),
     zG (some { block:=w.heap.size+1+1,off:=0 }),
     zG (some { block:=w.heap.size+1+1+1,off:=0 }),undef,undef,
     qR #[c0,c1,c2,c3,c4,c5],vOn,qM a len cap,
     Value.func (Fn.func 140) #[] #[zG (some { block:=W1.heap.size,off:=0 })],undef,undef,undef,
     undef,undef,undef,undef,undef,undef,u],defers:=[{ target:=Target.collected D,args := #[] }] } W2:=by
  intro W2 D v6 v7 hD hK hB g6 g7 u
  refine⟨by simp,.inl ⟨_,_,rfl,run_takeDeferred hK,?_⟩⟩
  have c6:=(g6.kept (grownBy_putObj' _ D (.deferred none)) (λe=>by cases e; rw[show W2.heap[_]? = _ from g6]at hK; cases hK)).cell
  have c7:=(g7.kept (grownBy_putObj' _ D (.deferred none)) (λe=>by cases e; rw[show W2.heap[_]? = _ from g7]at hK; cases hK)).cell
  refine⟨.tuple #[.int .i64 v6,.bool v7],?_,rfl,hB.trans (belowK_b (w:=w) (W _) _ D _ _ hD hK rfl rfl)⟩
  simp[results,Tryz.f34,go_sem,c6,c7]
 refine wpIn_rangeFunc_ownG SH h1 (gf:=140) (lb := #[.pointer (some ⟨W1.heap.size,0,none⟩)]) rfl Fh (enters_of Tryz.func140 (by kernel_rfl) rfl)
  (PB.Le F (n-1) Fh SH (by omega) W1.heap.size (W1.heap.size+1) _ zs JF (W1.alloc (zA #[qM a len cap] 48)) (by omega) (by simp) bS.cell (by
   rcases hZ1 with h | ⟨b,off,U8,e,J,hc⟩
   ·exact .inl h
   ·exact .inr ⟨b,off,U8,e,by omega,λj hj=>(((Below.refl W1.heap.size W1).alloc (W _) _).cell (p:=⟨b,off+j,none⟩) J).trans (hc j hj)⟩)) belowK_t (belowK_b (by simp)) (Below.refl _ _) (λ_=>rfl)
  (λpre zD=>((∀ p∈pre,¬ (p.2=true/\(p.1:Int)<at_))/\Boxed zD (w.heap.size+1) 3 (.int .i64 at_)/\Boxed zD (w.heap.size+1+1) 3 (.int .i64 0)/\Boxed zD (w.heap.size+1+1+1) 4 (.bool false))/\Below w.heap.size w zD)
  (λc pre zD=>(c=.ret/\∃ (ini:List (Nat×Bool)) (last:Nat×Bool),pre=ini++[last]/\(∀ p∈ini,¬ (p.2=true/\(p.1:Int)<at_))/\(last.2=true/\(last.1:Int)<at_)/\Boxed zD (w.heap.size+1+1) 3 (.int .i64 (last.1:Int))/\Boxed zD (w.heap.size+1+1+1) 4 (.bool true))/\Below w.heap.size w zD)
  (OwnFrom.and (Own.from (λs A hl row hs hg hr=>⟨hs.1,boxed_own (β:=Unit) _ _ (λ_=>_) () A hl row hs.2.1 hg hr,boxed_own (β:=Unit) _ _ (λ_=>_) () A hl row hs.2.2.1 hg hr,boxed_own (β:=Unit) _ _ (λ_=>_) () A hl row hs.2.2.2 hg hr⟩) _) (ownFrom_below (W _) (by simp; omega)))
  (λc=>OwnFrom.and (Own.from (λs A hl row hs hg hr=>by obtain⟨hc,ini,last,e1,e2,e3,e4,e5⟩:=hs; exact⟨hc,ini,last,e1,e2,e3,boxed_own (β:=Unit) _ _ (λ_=>_) () A hl row e4 hg hr,boxed_own (β:=Unit) _ _ (λ_=>_) () A hl row e5 hg hr⟩) _) (ownFrom_below (W _) (by simp; omega)))
  ⟨⟨by simp,b5.alloc _,b6.alloc _,b7.alloc _⟩,hBa⟩
  (λx=>{ tmps := #[qR #[c0,c1,c2,c3,c4,c5],vOn,I IntKind.i64 at_,
     zG (some { block:=w.heap.size,off:=0 }),undef,
     zG (some { block:=w.heap.size+1,off:=0 }),
     zG (some { block:=w.heap.size+1+1,off:=0 }),
     zG (some { block:=w.heap.size+1+1+1,off:=0 }),.int .i64 (x.1:Int),.bool x.2,
     qR #[c0,c1,c2,c3,c4,c5],vOn,qM a len cap,
     Value.func (Fn.func 140) #[] #[zG (some { block:=W1.heap.size,off:=0 })],.int .i64 (x.1:Int),.bool x.2,undef,
     undef,undef,undef,undef,undef,undef,undef],defers:=[] }) ?assign ?body ?done ?stop
 case assign =>
  intro l x zD K hK
  gi_wp2
  exact hK
 case body =>
  rintro l pre x zD ⟨⟨hp,h5,h6,h7'⟩,hB⟩ _
  have q5:=h5.cell; have q6:=h6.cell; have q7:=h7'.cell
  have f6:=h6.frozen; have f7:=h7'.frozen
  gi_wp2
  ·rename_i g1 g2
   exact⟨((zR _ _ _).trans (zR _ _ _)).from _,⟨rfl,pre,x,rfl,hp,⟨by simp_all,by simp_all⟩,(h6.set _).other (by omega) _,(h7'.other (by omega) _).set _⟩,
    (hB.setCell (p:=⟨w.heap.size+1+1,0,none⟩) (by show w.heap.size<=w.heap.size+1+1; omega) _).setCell (p:=⟨w.heap.size+1+1+1,0,none⟩) (by show w.heap.size<=w.heap.size+1+1+1; omega) _⟩
  ·rename_i g1 g2
   exact⟨KeepsFrom.refl _ _,Below.refl _ _,⟨λp hp'=>(List.mem_append.1 hp').elim (hp p) (λe=>by simp at e; subst e; intro hh; have:=hh.2; omega),h5,h6,h7'⟩,hB⟩
  ·rename_i g1
   exact⟨KeepsFrom.refl _ _,Below.refl _ _,⟨λp hp'=>(List.mem_append.1 hp').elim (hp p) (λe=>by simp at e; subst e; intro hh; simp_all),h5,h6,h7'⟩,hB⟩
 case done =>
  rintro D ys zD hD rfl ⟨⟨kB,h5,h6,h7'⟩,hB⟩ hK
  have q5:=h5.cell; have q6:=h6.cell; have q7:=h7'.cell
  have f6:=h6.frozen; have f7:=h7'.frozen
  have hv:Go.AM.Lf.iA zs at_ zs.length=(at_,false):=(PB.DC zs at_ zs.length 0 (by omega) kB).trans rfl
  gi_wp2
  have hK':((zD.setCell ⟨w.heap.size+1+1,0,none⟩ (.int .i64 at_)).setCell ⟨w.heap.size+1+1+1,0,none⟩ (.bool false)).heap[D]? = some (.deferred (some [])) :=
   ((zR _ _ _).trans (zR _ _ _)).same D _ hK rfl
  have g6:Boxed ((zD.setCell ⟨w.heap.size+1+1,0,none⟩ (.int .i64 at_)).setCell ⟨w.heap.size+1+1+1,0,none⟩ (.bool false)) (w.heap.size+1+1) 3 (.int .i64 at_):=(h6.set _).other (by omega) _
  have g7:Boxed ((zD.setCell ⟨w.heap.size+1+1,0,none⟩ (.int .i64 at_)).setCell ⟨w.heap.size+1+1+1,0,none⟩ (.bool false)) (w.heap.size+1+1+1) 4 (.bool false):=(h7'.other (by omega) _).set _
  have hB':Below w.heap.size w ((zD.setCell ⟨w.heap.size+1+1,0,none⟩ (.int .i64 at_)).setCell ⟨w.heap.size+1+1+1,0,none⟩ (.bool false)) :=
   (hB.setCell (p:=⟨w.heap.size+1+1,0,none⟩) (by show w.heap.size<=w.heap.size+1+1; omega) _).setCell (p:=⟨w.heap.size+1+1+1,0,none⟩) (by show w.heap.size<=w.heap.size+1+1+1; omega) _
  rw[hv]
  generalize (zD.setCell ⟨w.heap.size+1+1,0,none⟩ (.int .i64 at_)).setCell ⟨w.heap.size+1+1+1,0,none⟩ (.bool false)=W2 at *
  exact fin (by simp at hD; omega) hK' hB' g6 g7
 case stop =>
  rintro D c pre zD hD ⟨k,hk,rfl⟩ ⟨⟨rfl,ini,last,e1,e2,e3,h6,h7'⟩,hB⟩ hK
  gi_wp2
  obtain⟨k',rfl⟩:∃ k',k=k'+1:=by
   cases k with
   | zero=>simp[PB.upto]at e1
   | succ k'=>exact⟨k',rfl⟩
  rw[PB.ZA]at e1
  obtain⟨rfl,e5⟩:=List.append_inj' e1 rfl
  obtain rfl:PB.at zs zs.length k'=last:=by simpa using e5
  have hv:Go.AM.Lf.iA zs at_ zs.length=(((zs.length-1-k':Nat):Int),true):=by
   rw[PB.DC zs at_ k' (zs.length-1-k'+1) (by omega) e2]
   simp only[PB.at]at e3
   simp only[Go.AM.Lf.iA]
   rw[if_pos e3]
  rw[hv]
  exact fin (by simp at hD; omega) hK hB h6 h7'
end Go.Proofs

namespace Go.AM.Lf
open Go.Proofs Go.RowKit

theorem Hy{P:Program}{g:Nat}{fn:Func}{args:Array Value}{w:World}{oE:Ending->World->Prop}(hf:P.funcs[g]? = some fn) (hn:(fn.name == "runtime.NumGoroutine")=false) (J:fn.body.isNone=false) (h:gO P g args w oE):Calls P g args w oE:=by
 rcases h with⟨_,h⟩ | ⟨v,w',h,_⟩
 ·exact h
 ·rw[uW hf hn J w]at h; cases h

theorem zpH:zy Tryz.prog 34 ⟨[.ty qx,.ty (.sl .bool),.ty i64],[i64,.bool],λx=>pU x.1 x.2.1 x.2.2⟩:=by
 intro O x xa y ud hy hI ha
 obtain⟨f,on,at_⟩:=x
 obtain⟨l,B,hlen,hy⟩:=T.zg.1 hy
 replace hlen:zH l*8<=140737488351232:=hlen
 cases hy
 obtain⟨v0,r,rfl,h0,ha⟩:=wQ.cons_inv (show wQ O [.qi qx f,.qi (.sl .bool) on,.qi i64 at_] xa from ha)
 obtain⟨v1,r,rfl,h1,ha⟩:=ha.cons_inv
 obtain⟨v2,r,rfl,X,ha⟩:=ha.cons_inv
 rw[ha.wh]
 obtain⟨cs,QY,rfl⟩:=RD.dq h0
 have zhn:=QY.len
 rw[RD.ev X]
 match cs,zhn with
 | [c0,c1,c2,c3,c4,c5],_ =>
 refine .inl ⟨uW Tryz.func34 (by kernel_rfl) rfl O.w,?_⟩
 refine(callsIn_wide (n:=10)).1 ((PB.z6e Fence.wide 10 trivial trivial trivial trivial rfl (by omega) c0 c1 c2 c3 c4 c5 v1 at_ l O.w hlen λzD hW => ?_).mono ?_)
 ·have U:Ext O { O with w:=zD }:=⟨hW.os,hW.tape,hW.output,hW.size,λk hk=>⟨hk,hW.block k (hI.cq k hk)⟩,λk hk=>.inl hk,λ_ _ _ h=>.inl h,λb d h=>by rw[ud]at h; simp at h,
   λb v0 e xs h=>by rw[ud]at h; simp at h,λb h=>by rw[ud]at h; simp at h,W _,λk hk _=>hW.block k hk⟩
  have VZ:Inv { O with w:=zD }:=⟨hI.len,λk hk=>zI (hI.cq k hk) hW.size,λb blk n J=>⟨zI (hI.apart b blk n J).1 hW.size,(hI.apart b blk n J).2⟩,hI.inj,λb x J=>by rw[ud]at J; simp at J,hI.gl.mono U.same⟩
  refine callsIn_wide.2 (Hy Tryz.func33 (by kernel_rfl) rfl ((zlE { O with w:=zD } (f,on) [pk qx [c0,c1,c2,c3,c4,c5],v1] l ud B VZ (.cons (h0.mono U) (.cons (h1.mono U) .nil))).mono ?_))
  rintro e W' ⟨E,rfl,z7o,hI',Ho,v,rfl,hv⟩
  have Hm:O.ph=[]:=zY (by rw[hI.len,ud]; rfl)
  have hB:Below zD.heap.size zD E.w:=⟨Ho.os,Ho.tape,Ho.output,Ho.size,λk hk=>Ho.frame k hk λb n h=>by simp[Hm]at h⟩
  have hv:=RD.jQ (O:=E) (τ:=.sl .bool) (x:=l) hv rfl
  rcases hv.tY with⟨rfl,a,e⟩ | ⟨blk,off,cap,g,e,j9,jq,hg,hc⟩
  ·cases e
   exact⟨a,0,0,rfl,hB,.inl ⟨a,rfl,rfl⟩⟩
  ·cases e
   refine⟨some ⟨blk,off,none⟩,_,cap,rfl,hB,.inr ⟨blk,off,cap,rfl,hI'.cq blk j9,λj hj => ?_⟩⟩
   have h3:=hc j hj 0 (.bool l[j]) (by rw[(hg j hj).cL]; rfl)
   rw[zT hj]
   simpa[Ty.size]using h3
 ·rintro e W' ⟨rfl,hB⟩
  have U:Ext O { O with w:=W' }:=⟨hB.os,hB.tape,hB.output,hB.size,λk hk=>⟨hk,hB.block k (hI.cq k hk)⟩,λk hk=>.inl hk,λ_ _ _ h=>.inl h,λb d h=>by rw[ud]at h; simp at h,
   λb v0 e xs h=>by rw[ud]at h; simp at h,λb h=>by rw[ud]at h; simp at h,W _,λk hk _=>hB.block k hk⟩
  refine⟨{ O with w:=W' },rfl,ud,⟨hI.len,λk hk=>zI (hI.cq k hk) hB.size,λb blk n J=>⟨zI (hI.apart b blk n J).1 hB.size,(hI.apart b blk n J).2⟩,hI.inj,λb x J=>by rw[ud]at J; simp at J,hI.gl.mono U.same⟩,U,_,rfl,?_⟩
  refine .eZ _ _ rfl λi h1 X => ?_
  match i with
  | 0=>exact RD.int
  | 1=>exact RD.bool
end Go.AM.Lf

namespace Go.AM.Lf
open Go.Proofs Go.Proofs.Tryz
def t252:=t251.d zpH
def z2G:q8:=Lz [] [Mi 2,Mm 12 (.sl .bool),Mi 13] ⟨[Mi 14],[],[]⟩ [kZ,⟨.ret,⟨[Mi 6,Mb 7],[],[]⟩⟩] λp s=>Qj p.1 p.2.1 p.2.2 s
def h35:Hints:=Hz [(0,z2G)] [(0,4,.flat [Mb 24])] []
theorem zdB:LO Tryz.f35 z2G 0:=lk t252 (rz [3]) h35 [] zh
theorem zpI:zy Pz 35 ⟨[.ty qx,.ty (.sl .bool),.ty i64],[i64,.bool],λx=>pV x.1 x.2.1 x.2.2⟩:=wv t252 (rz [3]) h35 func35 [0] (qf rfl zdB zh)
def t253:=t252.d zpI
def h16:Hints:=Hz [] [(0,2,.flat [Mb 28])] []
theorem zps:zy Pz 16 ⟨[.ty qx,.ty (.sl .bool),.ty i64],[i64],λx=>Zr x.1 x.2.1 x.2.2⟩:=wv t253 (rz [3]) h16 func16 [] zh
def t254:=t253.d zps
def h6:Hints:=Hz [] [] [(8,[1006000,1006001,1006003,1006004,1006005])]
theorem ok6:jK Pz 6 ⟨[.any],z5r,[],⟨[Ms 1,Mi 2,.v (.qi qo)],[(0,.ptr 0 0)],tN⟩,3,0,⟨[Ms 1,Mi 2],[(0,.br)],[]⟩,some 3,λx=>ep x⟩:=Y5 t254 rn h6 func6 [] zh
def t255:=t254.p ok6
theorem zj6:zy Pz 149 ⟨[.ty qw,.rp .str],[.bool],λx=>ek x.1 x.2⟩:=wv t255 (rz [2]) hN func149 [] zh
def t256:=t255.d zj6
def Oh:q8:=Lz [] [Mm 0 (.sl qw),.s 1 (.wj 149 [.rp .str]),Mi 7] dx [kZ,oP] λp s=>cO p.1 (λz0=>ek z0 p.2.1) p.2.2 s
def zfY:Hints:=Hz [(0,Oh)] [] []
theorem z7T:LO Tryz.f148 Oh 0:=lk t256 rn zfY [] zh
theorem zj5:zy Pz 148 ⟨[.ty (.sl qw),.wj 149 [.rp .str]],[i64],λx=>gH x.1 (λz0=>ek z0 x.2)⟩:=wv t256 rn zfY func148 [0] (qf rfl z7T zh)
def t257:=t256.d zj5
theorem zqm:zy Pz 81 ⟨[.ty qx,.ty .str],[i64],λx=>Zd x.1 x.2⟩:=wv t257 (rz [2,3]) hN func81 [] zh
def t258:=t257.d zqm
theorem zqo:zy Pz 83 ⟨[.ty zm],[.bool],λx=>cB x⟩:=wv t258 (rz [1]) hN func83 [] zh
def t259:=t258.d zqo
theorem zj8:zy Pz 151 ⟨[.ty zm],[.bool],λx=>fN x⟩:=wv t259 (rz [1]) hN func151 [] zh
def t260:=t259.d zj8
def BI:q8:=Lz [] [Mm 0 (.sl zm),.s 1 (.wj 151 []),Mi 7] dx [kZ,oP] λp s=>gv p.1 (λz0=>fN z0) p.2.2 s
def z19:Hints:=Hz [(0,BI)] [] []
theorem T1:LO Tryz.f200 BI 0:=lk t260 rn z19 [] zh
theorem R1:zy Pz 200 ⟨[.ty (.sl zm),.wj 151 []],[i64],λx=>ye x.1 (λz0=>fN z0)⟩:=wv t260 rn z19 func200 [0] (qf rfl T1 zh)
def t261:=t260.d R1
theorem R0:zy Pz 150 ⟨[.ty (.sl zm),.wj 151 []],[.bool],λx=>vB x.1 (λz0=>fN z0)⟩:=wv (t261.d R1) rn hN func150 [] zh
def t262:=t261.d R0
theorem zjb:zy Pz 154 ⟨[.ty zx],[.bool],λx=>Jy x⟩:=wv t262 (rz [1]) hN func154 [] zh
def t263:=t262.d zjb
theorem zja:zy Pz 153 ⟨[.ty zx],[.bool],λx=>fO x⟩:=wv t263 (rz [1]) hN func153 [] zh
def t264:=t263.d zja
def OD:q8:=Lz [] [Mm 0 (.sl zx),.s 1 (.wj 153 []),Mi 7] dx [kZ,oP] λp s=>c8 p.1 (λz0=>fO z0) p.2.2 s
def zg8:Hints:=Hz [(0,OD)] [] []
theorem z8e:LO Tryz.f201 OD 0:=lk t264 rn zg8 [] zh
theorem zjT:zy Pz 201 ⟨[.ty (.sl zx),.wj 153 []],[i64],λx=>yG x.1 (λz0=>fO z0)⟩:=wv t264 rn zg8 func201 [0] (qf rfl z8e zh)
def t265:=t264.d zjT
theorem zj9:zy Pz 152 ⟨[.ty (.sl zx),.wj 153 []],[.bool],λx=>uC x.1 (λz0=>fO z0)⟩:=wv t265 rn hN func152 [] zh
def t266:=t265.d zj9
def P6:q8:=Lz [] [Mm 1 (.sl zm),Mm 12 (.sl qk),Mi 13] ⟨[Mi 14,.v (.qi zm),.v (.qi zm)],[(4,.ptr 0 0),(5,.ptr 1 0)],[.var (.qi zm),.var (.qi zm)]⟩ [⟨.exit 0,z52⟩] λp s=>W5 p.1 p.2.1 p.2.2 s
def zgt:Hints:=Hz [(0,P6)] [] []
theorem z8H:LO Tryz.f266 P6 0:=lk t266 (rz [2]) zgt [] zh
theorem zkP:zy Pz 266 ⟨[.ty zp,.ty (.sl zm)],[zm],λx=>Cy x.1 x.2⟩:=wv t266 (rz [2]) zgt func266 [0] (qf rfl z8H zh)
def t267:=t266.d zkP
theorem zjW:zy Pz 204 ⟨[.ty zp,.ty (.sl zm)],[.bool],λx=>tn x.1 x.2⟩:=wv t267 (rz [2]) hN func204 [] zh
def t268:=t267.d zjW
def BK:q8:=Lz [] [Mm 27 (.sl qk),Mi 28] ⟨[Mi 7,Mi 8,Mi 29,.v sW,.a i64,.a i64],[(0,.ptr 0 0),(2,.uX)],Jj⟩ [⟨.exit 0,⟨[Mi 7,.v sW,.a i64,.a i64],[],Jj⟩⟩] λp s=>yx p.1 p.2 s
def z1b:Hints:=Hz [(0,BK)] [(0,6,.flat [Mb 46])] []
theorem T5:LO Tryz.f267 BK 0:=lk t268 rn z1b [] zh
theorem R5:xx Pz 267 ⟨Qz,⟨[Mi 1,.v sW,.a i64,.a i64],[(0,.ptr 0 0),(2,.uX)],Jj⟩,[],IP,1,λx=>bn x.1 x.2.1 x.2.2.1 x.2.2.2⟩:=eP t268 rn z1b func267 [0] (qf rfl T5 zh)
def t269:=t268.s R5
theorem zjX:zy Pz 205 ⟨[.ty (.sl zp),.ty (.sl i64),.ty i64,.ty i64],[.bool],λx=>mY x.1 x.2.1 x.2.2.1 x.2.2.2⟩:=wv (t269.s R5) rn hN func205 [] zh
def t270:=t269.d zjX
def znA:Hints:=Hz [] [(0,4,.ways [⟨.normal,⟨[Mb 8,.v KY,.a zp,.a i64,.a i64,.v (.qi zp)],[],[.var KY,.arr zp,.arr i64,.arr i64,.var (.qi zp)]⟩⟩])] []
theorem zje:xx Pz 157 ⟨Qz,⟨[Mi 1,Mm 2 (.sl zm),.v KY,.a zp,.a i64,.a i64],[(0,.ptr 0 0)],Jk⟩,[],⟨[Mb 0,.v KY,.a zp,.a i64,.a i64],[],Jk⟩,1,λx=>bF x.1 x.2.1 x.2.2.1 x.2.2.2.1 x.2.2.2.2.1 x.2.2.2.2.2⟩:=eP t270 rn znA func157 [] zh
def t271:=t270.s zje
def T82:Tb:=t271.d R0
def z2U:q8:=Lz [] [Mr 3 xj,Mm 31 (.sl i64),Mi 32] ⟨[Mi 33,.v KY,.a zp,.a i64,.a i64],[(5,.ptr 0 0)],Jk⟩ [⟨.exit 0,z5A⟩,z5D] λp s=>Jv p.1 p.2.1 p.2.2 s
def z2V:q8:=Lz [] [Mr 3 xj,Mi 67] ⟨[Mi 68,.v KY,.a zp,.a i64,.a i64],[(5,.ptr 0 0)],Jk⟩ [⟨.exit 2,z5A⟩,z5D] λp s=>Jw p.1 p.2 s
def h82:Hints:=Hz [(0,z2U),(2,z2V)] [(0,7,.ways [⟨.normal,⟨[Mb 48,.v KY,.a zp,.a i64,.a i64],[],Jk⟩⟩])] []
theorem zdP:LO Tryz.f82 z2U 0:=lk T82 (rz [2,3]) h82 [] zh
theorem zdQ:LO Tryz.f82 z2V 2:=lk T82 (rz [2,3]) h82 [] zh
theorem zqn:zy Pz 82 ⟨[.ty qx,.ty xj],[.bool],λx=>Xe x.1 x.2⟩:=wv T82 (rz [2,3]) h82 func82 [0,2] (qf rfl zdP (qf rfl zdQ zh))
def t272:=t271.d zqn
def h37:Hints:=Hz [] [] [(12,[1001006,1001007,1001008])]
theorem zpK:zy Pz 37 ⟨[.ty qx,.ty xj,.ty .str,.ty zm],[xj,(.sl .str),i64],λx=>Ug x.1 x.2.1 x.2.2.1 x.2.2.2⟩:=wv t272 (rz [4,5,7]) h37 func37 [] zh
def t273:=t272.d zpK
def Od:q8:=Lz [] [.s 2 (.wj 112 []),Mm 9 (.sl zm),Mi 10] RR [KG] λp s=>Ze (λz0=>gL z0) p.2.1 p.2.2 s
def zfU:Hints:=Hz [(0,Od)] [] []
theorem z7P:LO Tryz.f141 Od 0:=lk t273 rn zfU [] zh
theorem ziY:zy Pz 141 ⟨[.ty .str,.ty (.sl zm),.wj 112 []],[.str],λx=>nh x.1 x.2.1 (λz0=>gL z0)⟩:=wv t273 rn zfU func141 [0] (qf rfl z7P zh)
def t274:=t273.d ziY
theorem zj0:zy Pz 143 ⟨[.ty .bool],[.str],λx=>fQ x⟩:=wv t274 rn hN func143 [] zh
def t275:=t274.d zj0
def Oe:q8:=Lz [] [.s 2 (.wj 143 []),Mm 9 (.sl .bool),Mi 10] RR [KG] λp s=>tf (λz0=>fQ z0) p.2.1 p.2.2 s
def zfV:Hints:=Hz [(0,Oe)] [] []
theorem z7Q:LO Tryz.f142 Oe 0:=lk t275 rn zfV [] zh
theorem ziZ:zy Pz 142 ⟨[.ty .str,.ty (.sl .bool),.wj 143 []],[.str],λx=>iM x.1 x.2.1 (λz0=>fQ z0)⟩:=wv t275 rn zfV func142 [0] (qf rfl z7Q zh)
def t276:=t275.d ziZ
theorem zj2:zy Pz 145 ⟨[.ty i64],[.str],λx=>mz x⟩:=wv t276 rn hN func145 [] zh
def t277:=t276.d zj2
def Of:q8:=Lz [] [.s 2 (.wj 145 []),Mm 9 (.sl i64),Mi 10] RR [KG] λp s=>Zf (λz0=>mz z0) p.2.1 p.2.2 s
def zfW:Hints:=Hz [(0,Of)] [] []
theorem z7R:LO Tryz.f144 Of 0:=lk t277 rn zfW [] zh
theorem zj1:zy Pz 144 ⟨[.ty .str,.ty (.sl i64),.wj 145 []],[.str],λx=>tS x.1 x.2.1 (λz0=>mz z0)⟩:=wv t277 rn zfW func144 [0] (qf rfl z7R zh)
def t278:=t277.d zj1
theorem zj4:zy Pz 147 ⟨[.ty zx],[.str],λx=>mA x⟩:=wv t278 (rz [1]) hN func147 [] zh
def t279:=t278.d zj4
def Og:q8:=Lz [] [.s 2 (.wj 147 []),Mm 9 (.sl zx),Mi 10] RR [KG] λp s=>nB (λz0=>mA z0) p.2.1 p.2.2 s
def zfX:Hints:=Hz [(0,Og)] [] []
theorem z7S:LO Tryz.f146 Og 0:=lk t279 rn zfX [] zh
theorem zj3:zy Pz 146 ⟨[.ty .str,.ty (.sl zx),.wj 147 []],[.str],λx=>iN x.1 x.2.1 (λz0=>mA z0)⟩:=wv t279 rn zfX func146 [0] (qf rfl z7S zh)
def t280:=t279.d zj3
theorem zql:zy Pz 80 ⟨[.ty xj],[.str],λx=>fP x⟩:=wv t280 (rz [1]) hN func80 [] zh
def t281:=t280.d zql
def h92:Hints:=Hz [] [(0,1,.HT)] []
theorem zm2:xx Pz 92 ⟨[.any],⟨[Mm 0 (.sl .str)],[],[]⟩,[],V7,1,λx=>wU x⟩:=eP t281 rn h92 func92 [] zh
def t282:=t281.s zm2
theorem zqk:zy Pz 79 ⟨[.ty cu,.ty .str],[cu],λx=>Wf x.1 x.2⟩:=wv t282 (rz [2]) hN func79 [] zh
def t283:=t282.d zqk
theorem zpJ:xx Pz 36 ⟨[.ptr,.any,.any,.any],⟨[Mm 1 xj,Mm 2 (.sl .str),Mi 3,.v (.qi qo)],[(0,.ptr 0 0)],tN⟩,[],Jl,1,λx=>vA x.1 x.2.1 x.2.2.1 x.2.2.2⟩:=eP t283 (rz [5]) hN func36 [] zh
def t284:=t283.s zpJ
def h38:Hints:=Hz [] [(0,6,.flat [Mb 26]),(0,8,.flat [Mb 37]),(3,12,.ways [⟨.normal,⟨[.v (.qi xj),.a zm,.a .bool,.a zm,.a i64,.a zx,.a .bool,.v z4N],[],[.var (.qi xj),.arr zm,.arr .bool,.arr zm,.arr i64,.arr zx,.arr .bool,.var z4N]⟩⟩])] [(14,[1007000,1007001,1007002,1007003,1007004,1007005])]
theorem zpL:zy Pz 38 ⟨[.ty qx,.ty xj,.ty .str,.ty .bool],[xj,(.sl .str),i64],λx=>ZU x.1 x.2.1 x.2.2.1 x.2.2.2⟩:=wv t284 (rz [4,5]) h38 func38 [] zh
def t285:=t284.d zpL
theorem zqr:zy Pz 86 ⟨[.ty qg,.rp .str],[.bool],λx=>gM x.1 x.2⟩:=wv t285 (rz [2]) hN func86 [] zh
def t286:=t285.d zqr
def FQ:q8:=Lz [] [Mm 0 (.sl qg),.s 1 (.wj 86 [.rp .str]),Mi 7] dx [kZ,oP] λp s=>j8 p.1 (λz0=>gM z0 p.2.1) p.2.2 s
def zaD:Hints:=Hz [(0,FQ)] [] []
theorem z2i:LO Tryz.f85 FQ 0:=lk t286 rn zaD [] zh
theorem z3H:zy Pz 85 ⟨[.ty (.sl qg),.wj 86 [.rp .str]],[i64],λx=>vN x.1 (λz0=>gM z0 x.2)⟩:=wv t286 rn zaD func85 [0] (qf rfl z2i zh)
def t287:=t286.d z3H
def FI:q8:=Lz [.cell 5 7 i64] [Mi 53] ⟨[Mi 54,.a i64,.v IK,.a zp,.a i64,.v E5,.v zae,.a i64],[(3,.ptr 1 0),(10,.ptr 5 0),(52,.cur 3 i64)],z4I⟩ [⟨.exit 1,z4T⟩] λp s=>mw p s
def FJ:q8:=Lz [] [Mm 74 (.sl zx),Mi 75] ⟨[Mi 76,.a i64,.v IK,.a zp,.a i64,.v E5,.v zae,.a i64],[(10,.ptr 5 0)],z4I⟩ [⟨.exit 3,z4T⟩] λp s=>my p.1 p.2 s
def z1h:Hints:=Hz [(1,FI),(3,FJ)] [(0,4,.flat [Mb 30]),(3,19,.flat [Mi 15])] []
theorem z2b:LO Tryz.f73 FI 1:=lk t287 (rz [2]) z1h [] zh
theorem z2c:LO Tryz.f73 FJ 3:=lk t287 (rz [2]) z1h [] zh
theorem z3B:jK Pz 73 ⟨[.any,.agg],⟨[Mm 0 qx,.s 1 IK,.a i64],[],jX⟩,[],⟨[Mi 2,.a i64,.v zby,.a zp,.a i64,.a i64],[(0,.ptr 1 0),(1,.wH)],[.arr i64,.var zby,.arr zp,.arr i64,.arr i64]⟩,3,0,⟨[.s 1 (.tight .str),Mi 2,.a i64],[(0,.br)],jX⟩,some 3,λx=>eT x.1 x.2.1 x.2.2⟩:=Y5 t287 (rz [2]) z1h func73 [1,3] (qf rfl z2b (qf rfl z2c zh))
def t288:=t287.p z3B
def P8:q8:=Lz [] [Mm 0 (.sl u32),Mm 1 (.sl u32),Mi 12] z5o [kZ,RT] λp s=>gG p.1 p.2.1 p.2.2 s
def zgv:Hints:=Hz [(0,P8)] [] []
theorem z8J:LO Tryz.f269 P8 0:=lk t288 rn zgv [] zh
theorem zkS:zy Pz 269 ⟨[.ty (.sl u32),.ty (.sl u32)],[.bool],λx=>jA x.1 x.2⟩:=wv t288 rn zgv func269 [0] (qf rfl z8J zh)
def t289:=t288.d zkS
theorem zjZ:zy Pz 207 ⟨[.ty zm,.ty zm],[.bool],λx=>XI x.1 x.2⟩:=wv t289 rn hN func207 [] zh
def t290:=t289.d zjZ
theorem zk1:zy Pz 209 ⟨[.ty qk,.ty qk],[.bool],λx=>nt x.1 x.2⟩:=wv t290 (rz [2,3]) hN func209 [] zh
def t291:=t290.d zk1
def OF:q8:=Lz [] [Mm 1 (.sl qk),.s 2 (.wj 209 []),Mm 15 (.sl qk),Mi 16] ⟨[Mi 17],[],[]⟩ [kZ,z5H] λp s=>uZ p.1 (λz0 z1=>nt z0 z1) p.2.2.1 p.2.2.2 s
def zga:Hints:=Hz [(0,OF)] [] []
theorem z8g:LO Tryz.f208 OF 0:=lk t291 rn zga [] zh
theorem zk0:zy Pz 208 ⟨[.ty (.sl qk),.ty (.sl qk),.wj 209 []],[.bool],λx=>jz x.1 x.2.1 (λz0 z1=>nt z0 z1)⟩:=wv t291 rn zga func208 [0] (qf rfl z8g zh)
def t292:=t291.d zk0
theorem zjh:zy Pz 160 ⟨[.ty zp,.ty zp],[.bool],λx=>U5 x.1 x.2⟩:=wv t292 (rz [2,3]) hN func160 [] zh
def t293:=t292.d zjh
def T87:Tb:=(t293.p zm1).p z3B
def z2X:q8:=Lz [] [Mr 3 qx,Mi 42] ⟨[Mi 43,.a i64,.v Cs,.v (.qi xj),.v Cp,.a zp,.a i64,.a i64,.v Co,.a zp,.a i64,.a i64],[(5,.ptr 6 0),(6,.ptr 7 0),(9,.ptr 8 0),(12,.ptr 12 0)],[.dead,.dead,.dead,.arr i64,.dead,.dead,.var Cs,.var (.qi xj),.var Cp,.arr zp,.arr i64,.arr i64,.var Co,.arr zp,.arr i64,.arr i64]⟩ [⟨.exit 0,⟨[.a i64,.v Cs,.v (.qi xj),.v Cp,.a zp,.a i64,.a i64,.v Co,.a zp,.a i64,.a i64],[],[.dead,.dead,.dead,.arr i64,.dead,.dead,.var Cs,.var (.qi xj),.var Cp,.arr zp,.arr i64,.arr i64,.var Co,.arr zp,.arr i64,.arr i64]⟩⟩] λp s=>oi p.1 p.2 s
def h87:Hints:=Hz [(0,z2X)] [(0,11,.ways [⟨.normal,⟨[Mb 81,.a i64,.v Cs,.v (.qi xj),.v Cp,.a zp,.a i64,.a i64,.v Co,.a zp,.a i64,.a i64],[],[.dead,.dead,.dead,.arr i64,.dead,.dead,.var Cs,.var (.qi xj),.var Cp,.arr zp,.arr i64,.arr i64,.var Co,.arr zp,.arr i64,.arr i64]⟩⟩])] [(4,[1006000,1006001,1006002,1006004,1006005]),(14,[1006003])]
theorem zdS:LO Tryz.f87 z2X 0:=lk T87 (rz [3,4]) h87 [] zh
theorem zqs:xx Pz 87 ⟨[.any,.any,.agg],⟨[Mm 0 qx,Mm 1 xj,.s 2 z4Q,.a zm,.a .bool,.a zm,.a i64,.a zx,.a .bool],[],z4L⟩,[],⟨[.s 0 (.st [.row 6 zm,.row 7 .bool,.im (.sl zm),.row 8 i64,.row 9 zx,.row 10 .bool]),Mm 1 (.sl .str),Mi 2,.a zm,.a .bool,.a i64,.a zx,.a .bool],[],[.dead,.dead,.dead,.dead,.dead,.dead,.arr zm,.arr .bool,.arr i64,.arr zx,.arr .bool]⟩,3,λx=>iI x.1 x.2.1 x.2.2.1 x.2.2.2.1 x.2.2.2.2.1 x.2.2.2.2.2.1 x.2.2.2.2.2.2.1 x.2.2.2.2.2.2.2.1 x.2.2.2.2.2.2.2.2⟩:=eP T87 (rz [3,4]) h87 func87 [0] (qf rfl zdS zh)
def t294:=t293.s zqs
theorem zpM:zy Pz 39 ⟨[.ty qx,.ty xj,.ty .str,.ty zm],[xj,(.sl .str),i64],λx=>pe x.1 x.2.1 x.2.2.1 x.2.2.2⟩:=wv (t294.d z3H) (rz [4,5,6,7]) hN func39 [] zh
def t295:=t294.d zpM
theorem zqt:zy Pz 88 ⟨[.ty qe,.rp .str],[.bool],λx=>yR x.1 x.2⟩:=wv t295 (rz [2]) hN func88 [] zh
def t296:=t295.d zqt
def FN:q8:=Lz [] [Mm 0 (.sl qe),.s 1 (.wj 88 [.rp .str]),Mi 7] dx [kZ,oP] λp s=>xp p.1 (λz0=>yR z0 p.2.1) p.2.2 s
def zaB:Hints:=Hz [(0,FN)] [] []
theorem z2g:LO Tryz.f76 FN 0:=lk t296 rn zaB [] zh
theorem z3F:zy Pz 76 ⟨[.ty (.sl qe),.wj 88 [.rp .str]],[i64],λx=>xm x.1 (λz0=>yR z0 x.2)⟩:=wv t296 rn zaB func76 [0] (qf rfl z2g zh)
def t297:=t296.d z3F
theorem zpN:zy Pz 40 ⟨[.ty qx,.ty xj,.ty .str,.ty .bool],[xj,(.sl .str),i64],λx=>mZ x.1 x.2.1 x.2.2.1 x.2.2.2⟩:=wv (t297.d z3F) (rz [4,5,6]) hN func40 [] zh
def t298:=t297.d zpN
theorem zpO:xx Pz 42 ⟨Qz,⟨[Mi 1,Mi 2,.v (.qi qo)],[(0,.ptr 0 0)],tN⟩,[],Jl,1,λx=>jU x.1 x.2.1 x.2.2⟩:=eP t298 rn hN func42 [] zh
def t299:=t298.s zpO
theorem zlY:xx Pz 41 ⟨[.ptr,.wj 35],⟨[.s 1 (.wj 35 []),.v (.qi qo)],[(0,.ptr 0 0)],tN⟩,[],Jl,1,λx=>jd (λz0 z1 z2=>pV z0 z1 z2) x.2⟩:=eP t299 rn hN func41 [] zh
def t300:=t299.s zlY
theorem z3u:xx Pz 41 ⟨[.ptr,.wj 34],⟨[.s 1 (.wj 34 []),.v (.qi qo)],[(0,.ptr 0 0)],tN⟩,[],Jl,1,λx=>jd (λz0 z1 z2=>pU z0 z1 z2) x.2⟩:=eP t300 rn hN func41 [] zh
def t301:=t300.s z3u
theorem zqv:zy Pz 90 ⟨[.ty xi,.rp .str],[.bool],λx=>eC x.1 x.2⟩:=wv t301 (rz [2]) hN func90 [] zh
def t302:=t301.d zqv
def FR:q8:=Lz [] [Mm 0 (.sl xi),.s 1 (.wj 90 [.rp .str]),Mi 7] dx [kZ,oP] λp s=>yE p.1 (λz0=>eC z0 p.2.1) p.2.2 s
def zaE:Hints:=Hz [(0,FR)] [] []
theorem z2j:LO Tryz.f89 FR 0:=lk t302 rn zaE [] zh
theorem z3I:zy Pz 89 ⟨[.ty (.sl xi),.wj 90 [.rp .str]],[i64],λx=>j3 x.1 (λz0=>eC z0 x.2)⟩:=wv t302 rn zaE func89 [0] (qf rfl z2j zh)
def t303:=t302.d z3I
theorem zpP:zy Pz 43 ⟨[.ty qx,.ty (.sl .bool),.ty .str],[i64,i64],λx=>Wr x.1 x.2.1 x.2.2⟩:=wv (t303.d z3I) (rz [3,5]) hN func43 [] zh
def t304:=t303.d zpP
def zgO:Hints:=Hz [] [(0,1,.HT)] []
theorem Mv:zy Pz 92 ⟨[.ty (.sl .str)],[(.sl .str)],λx=>wT x⟩:=wv t304 rn zgO func92 [] zh
def t305:=t304.d Mv
theorem zqx:zy Pz 93 ⟨[.ty (.sl .str),.ty (.sl .str),.ty .str],[(.sl .str),(.sl .str),.str],λx=>Zj x.1 x.2.1 x.2.2⟩:=wv (t305.s zm2) rn hN func93 [] zh
def t306:=t305.d zqx
theorem zpQ:zy Pz 45 ⟨[.ty cu,.ty .str],[cu,.str,.bool],λx=>Zi x.1 x.2⟩:=wv (t306.d Mv) (rz [2]) hN func45 [] zh
def t307:=t306.d zpQ
theorem zkc:jK Pz 220 ⟨[.any],z5s,[],⟨[],[],[]⟩,0,349,XY,none,λx=>uA x⟩:=Y5 t307 rn hN func220 [] zh
def t308:=t307.p zkc
theorem zkT:jK Pz 270 ⟨[.ptr],⟨[.v (.qi jF)],[(0,.ptr 0 0)],IJ⟩,[],⟨[Ms 0,.v (.qi jF)],[],IJ⟩,1,349,z5c,none,λx=>bG x⟩:=Y5 t308 rn hN func270 [] zh
def t309:=t308.p zkT
theorem zk4:jK Pz 212 ⟨mc,⟨[Ms 1,.v (.qi jF)],[(0,.ptr 0 0)],IJ⟩,[],⟨[Mm 0 (.sl .str),.v (.qi jF)],[],IJ⟩,1,349,z5c,none,λx=>wR x.1 x.2⟩:=Y5 t309 rn hN func212 [] zh
def t310:=t309.p zk4
theorem zk5:jK Pz 213 ⟨[.any],QQ,[],⟨[Mm 0 zm],[],[]⟩,1,349,XY,none,λx=>dF x⟩:=Y5 t310 rn hN func213 [] zh
def t311:=t310.p zk5
def OG:q8:=Lz [.slot 5 zm] [Mm 8 (.sl .str),Mi 9] ⟨[Mi 10,.a zm],[(1,.wj 213 []),(5,.cur 0 zm)],Z0⟩ [⟨.exit 0,⟨[.a zm],[(5,.cur 0 zm)],Z0⟩⟩,⟨.bE (.iface 349 .vb),⟨[Mm 0 .nil,.a zm],[],Z0⟩⟩] λp s=>gS p.1 p.2 s
def zgb:Hints:=Hz [(0,OG)] [] []
theorem z8h:LO Tryz.f211 OG 0:=lk t311 rn zgb [] zh
theorem zk3:jK Pz 211 ⟨[.any,.wj 213],⟨[Mm 0 (.sl .str),.s 1 (.mclo 213 [])],[],[]⟩,[],z5l,1,349,XY,none,λx=>uQ x.1 x.2⟩:=Y5 t311 rn zgb func211 [0] (qf rfl z8h zh)
def t312:=t311.p zk3
theorem zk7:jK Pz 215 ⟨[.any],QQ,[],z5s,1,349,XY,none,λx=>nd x⟩:=Y5 t312 rn hN func215 [] zh
def t313:=t312.p zk7
def OH:q8:=Lz [.slot 5 .bool] [Mm 8 (.sl .str),Mi 9] ⟨[Mi 10,.a .bool],[(1,.wj 215 []),(5,.cur 0 .bool)],[.arr .bool]⟩ [z5J,⟨.bE (.iface 349 .vb),⟨[Mm 0 .nil,.a .bool],[],[.arr .bool]⟩⟩] λp s=>gT p.1 p.2 s
def zgc:Hints:=Hz [(0,OH)] [] []
theorem z8i:LO Tryz.f214 OH 0:=lk t313 rn zgc [] zh
theorem zk6:jK Pz 214 ⟨[.any,.wj 215],⟨[Mm 0 (.sl .str),.s 1 (.mclo 215 [])],[],[]⟩,[],z5j,1,349,XY,none,λx=>uR x.1 x.2⟩:=Y5 t313 rn zgc func214 [0] (qf rfl z8i zh)
def t314:=t313.p zk6
end Go.AM.Lf
namespace Go.AM
open Go.AM.Lf Go.RowKit Go.Proofs
theorem ED(w:World)(e:TypeId)(s:ByteArray):Below w.heap.size w (Go.Lib.bytesWorld w e s):=by
 refine⟨rfl,rfl,rfl,?_,λb J=>Go.Lib.bytesWorld_at_old w e s b J⟩
 simp[Go.Lib.bytesWorld,World.freeze,World.alloc,World.drew,-World.alloc_eq,-World.drew_eq]
theorem EU:∀ (l:List UInt8) (acc k:Nat),l.length+k<=18->acc<10 ^ k->(∀ b∈l,48<=b.toNat/\b.toNat<=57)->qO acc l=.ok (l.foldl (λn b=>n*10+(b.toNat-48)) acc)
 | [],acc,_,_,_,_=>rfl
 | c::l,acc,k,hk,ha,V=>by
  have h1:=V c qC
  rw[zK]at hk
  have e:=Nat.pow_le_pow_right (show 0<10 by omega) (show k<=17 by omega)
  rw[qO,if_pos h1,if_neg (by omega),if_neg (by omega),EU l _ (k+1) (by omega) (by rw[Nat.pow_succ]; omega) λb J=>V b (qJ _ J)]
  rfl
theorem zap:∀ (l:List UInt8) (acc k:Nat),acc<10 ^ k->(∀ b∈l,48<=b.toNat/\b.toNat<=57)->l.foldl (λn b=>n*10+(b.toNat-48)) acc<10 ^ (k+l.length)
 | [],acc,k,ha,_=>ha
 | c::l,acc,k,ha,V=>by
  have h1:=V c qC
  have:=zap l (acc*10+(c.toNat-48)) (k+1) (by rw[Nat.pow_succ]; omega) λb J=>V b (qJ _ J)
  rwa [zK,show k+(l.length+1)=k+1+l.length by omega]
theorem z6x{s:zo}(h0:s≠[])(h1:s.length<=18)(V:∀ b∈s,48<=b.toNat/\b.toNat<=57):Go.Lib.atoiAll s=.ok (dgV s:Int):=by
 cases s with
 | nil=>exact absurd rfl h0
 | cons c r =>
  have hc:=V c qC
  have hp:=EU (c::r) 0 0 (by omega) (by omega) V
  have B:=zI (zap (c::r) 0 0 (by omega) V) (Nat.pow_le_pow_right (show 0<10 by omega) (show 0+(c::r).length<=18 by omega))
  unfold Go.Lib.atoiAll
  simp only[if_neg (show ¬ (c.toNat=43\/c.toNat=45) by omega),Go.Lib.parseMag,if_neg (List.cons_ne_nil c r),hp]
  have hn:¬ c.toNat=45:=by omega
  simp only[hn,not_false_eq_true,true_and,false_and,if_false]
  rw[if_neg (by omega)]
  rfl
theorem zls:xx Tryz.prog 314 ⟨[.any],QQ,[],⟨[.s 0 (.qi i64)],[(1,.vb)],[]⟩,2,λx=>strconv_Atoi x⟩:=by
 intro O x xa y ud hy hI hlen hR
 obtain⟨⟨⟨h0,h1⟩,X⟩,rfl⟩:=hy
 obtain⟨v0,hv0,hd0⟩:=hR.get 0 (.qi .str x) rfl
 have fT:xa.toArray = #[.string ⟨x.toArray⟩]:=by
  match xa,hlen with
  | [a],_ =>
   simp at hv0
   rw[hv0,hd0.jk]
 rw[fT]
 refine .inl ⟨o8 Tryz.func314 (by kernel_rfl) rfl O.w,(Go.Proofs.Tryz.strconv_Atoi_ok ⟨x.toArray⟩ (by rw[show(zF ⟨x.toArray⟩)=zH x from Y]; omega) (dgV x:Int) (z6x h0 h1 X) O.w).mono ?_⟩
 rintro e w' ⟨rfl,hw⟩
 have hB:Below O.w.heap.size O.w w':=hw.elim (λh=>h▸ZK _) λ⟨t,h⟩=>h▸ED _ _ _
 obtain⟨g1,g2⟩:=Ff hI ud hB
 refine⟨O.grown w',[.qi i64 (dgV x:Int),.vb],rfl,ud,g1,g2,rfl,_,rfl,.eZ _ _ rfl λi h1 X => ?_⟩
 match i with
 | 0=>exact RD.int
 | 1=>exact RD.vb

end Go.AM
namespace Go.AM.Lf
open Go.Proofs Go.Proofs.Tryz
def t315:=t314.s zls
def znU:Hints:=Hz [] [(0,1,.ways [⟨.normal,⟨[],[],[]⟩⟩,⟨.bE (.iface 349 .vb),XY⟩])] []
theorem zkU:jK Pz 271 ⟨[.any],QQ,[],z5p,1,349,XY,none,λx=>nc x⟩:=Y5 t315 rn znU func271 [] zh
def t316:=t315.p zkU
theorem zk9:jK Pz 217 ⟨[.any],QQ,[],z5p,1,349,XY,none,λx=>nf x⟩:=Y5 t316 rn hN func217 [] zh
def t317:=t316.p zk9
def OI:q8:=Lz [.slot 5 i64] [Mm 8 (.sl .str),Mi 9] ⟨[Mi 10,.a i64],[(1,.wj 217 []),(5,.cur 0 i64)],jX⟩ [⟨.exit 0,⟨[.a i64],[(5,.cur 0 i64)],jX⟩⟩,⟨.bE (.iface 349 .vb),⟨[Mm 0 .nil,.a i64],[],jX⟩⟩] λp s=>bD p.1 p.2 s
def zgd:Hints:=Hz [(0,OI)] [] []
theorem z8j:LO Tryz.f216 OI 0:=lk t317 rn zgd [] zh
theorem zk8:jK Pz 216 ⟨[.any,.wj 217],⟨[Mm 0 (.sl .str),.s 1 (.mclo 217 [])],[],[]⟩,[],Ni,1,349,XY,none,λx=>yh x.1 x.2⟩:=Y5 t317 rn zgd func216 [0] (qf rfl z8j zh)
def t318:=t317.p zk8
def zo4:Hints:=Hz [] [(0,1,.flat [Mb 4])] []
theorem zlM:zy Pz 345 ⟨[.ty .str,.ty .str],[.bool],λx=>ki x.1 x.2⟩:=wv t318 rn zo4 func345 [] zh
def t319:=t318.d zlM
theorem zlt:zy Pz 315 ⟨[.ty .str,.ty .str],[.str,.bool],λx=>kg x.1 x.2⟩:=wv t319 rn hN func315 [] zh
def t320:=t319.d zlt
theorem zkV:zy Pz 272 ⟨[.ty .str,.ty .str],[.str,.bool],λx=>strings_CutSuffix x.1 x.2⟩:=wv t320 rn hN func272 [] zh
def t321:=t320.d zkV
theorem zkb:jK Pz 219 ⟨[.any],QQ,[],⟨[Mm 0 zx],[],[]⟩,1,349,XY,none,λx=>ng x⟩:=Y5 t321 rn hN func219 [] zh
def t322:=t321.p zkb
def OJ:q8:=Lz [.slot 5 zx] [Mm 8 (.sl .str),Mi 9] ⟨[Mi 10,.a zx],[(1,.wj 219 []),(5,.cur 0 zx)],[.arr zx]⟩ [⟨.exit 0,⟨[.a zx],[(5,.cur 0 zx)],[.arr zx]⟩⟩,⟨.bE (.iface 349 .vb),⟨[Mm 0 .nil,.a zx],[],[.arr zx]⟩⟩] λp s=>yM p.1 p.2 s
def zge:Hints:=Hz [(0,OJ)] [] []
theorem z8k:LO Tryz.f218 OJ 0:=lk t322 rn zge [] zh
theorem zka:jK Pz 218 ⟨[.any,.wj 219],⟨[Mm 0 (.sl .str),.s 1 (.mclo 219 [])],[],[]⟩,[],z5b,1,349,XY,none,λx=>js x.1 x.2⟩:=Y5 t322 rn zge func218 [0] (qf rfl z8k zh)
def t323:=t322.p zka
theorem zk2:cV (Nn Pz) 210 ⟨[.ptr],⟨[.v (.qi i64)],[(0,.ptr 0 0)],Nf⟩,[],z5n,0,λx=>iJ x⟩:=fkr t323 rn hN Tryz.func210
theorem z9q:cV (RX Pz 349) 210 ⟨mc,⟨[Mm 1 .nil,.v (.qi i64)],[(0,.ptr 0 0)],Nf⟩,[],z5n,0,λx=>wF x.1 x.2⟩:=fkh t323 rn hN Tryz.func210 1
theorem zji:xx Pz 161 ⟨[.any],QQ,[],⟨[.s 0 z4Q,Mi 1,.a zm,.a .bool,.a zm,.a i64,.a zx,.a .bool],[],z4L⟩,2,λx=>pj x⟩:=fkf t323 rn hN (g:=210) (pt:=349) zk2 z9q Tryz.func161
def t324:=t323.s zji
theorem zqw:zy Pz 91 ⟨[.ty qx,.ty .str],[xj,i64],λx=>te x.1 x.2⟩:=wv t324 (rz [2]) hN func91 [] zh
def t325:=t324.d zqw
theorem zlZ:xx Pz 44 ⟨[.ptr,.wj 45],⟨[.s 1 (.wj 45 []),.v (.qi qo)],[(0,.ptr 0 0)],tN⟩,[],Jl,1,λx=>uU (λz0 z1=>Zi z0 z1) x.2⟩:=eP t325 rn hN func44 [] zh
def t326:=t325.s zlZ
theorem zpR:zy Pz 46 ⟨[.ty cu,.ty .str],[cu,.str,.bool],λx=>Zh x.1 x.2⟩:=wv (t326.d Mv) (rz [2]) hN func46 [] zh
def t327:=t326.d zpR
theorem z3v:xx Pz 44 ⟨[.ptr,.wj 46],⟨[.s 1 (.wj 46 []),.v (.qi qo)],[(0,.ptr 0 0)],tN⟩,[],Jl,1,λx=>uU (λz0 z1=>Zh z0 z1) x.2⟩:=eP t327 rn hN func44 [] zh
def t328:=t327.s z3v
theorem zlu:zy Pz 316 ⟨[.ty .str,.ty wN,.ty (.sl zm)],[zm,i64],λx=>U6 x.1 x.2.1 x.2.2⟩:=wv t328 (rz [4]) hN func316 [] zh
def t329:=t328.d zlu
theorem zkX:zy Pz 274 ⟨[.ty zm,.ty zm],[zm],λx=>J3 x.1 x.2⟩:=wv t329 (rz [2,3]) hN func274 [] zh
def t330:=t329.d zkX
abbrev zfv:=eG [.ty .expr,.ty wN,.ty (.sl zm)]->T (E9 [zm,i64])
abbrev zne(F:zfv):=zy Pz 273 ⟨[.ty .expr,.ty wN,.ty (.sl zm)],[zm,i64],F⟩
theorem z9s(B9:zfv)(z1l:zne B9):zy Pz 273 ⟨[.ty .expr,.ty wN,.ty (.sl zm)],[zm,i64],λx=>yt (λy0 y1 y2=>B9 (y0,y1,y2)) x.1 x.2.1 x.2.2⟩:=wv (t330.d z1l) (rz [3,4]) hN func273 [] zh
theorem zkW:zy Pz 273 ⟨[.ty .expr,.ty wN,.ty (.sl zm)],[zm,i64],λx=>ZI x.1 x.2.1 x.2.2⟩:=YT (λB9 x=>yt (λy0 y1 y2=>B9 (y0,y1,y2)) x.1 x.2.1 x.2.2) (λx=>rfl) (λB9 z1l=>z9s B9 z1l)
def t331:=t330.d zkW
theorem zke:zy Pz 222 ⟨[.ty .expr,.ty wN,.ty (.sl zm)],[zm,i64],λx=>Z4 x.1 x.2.1 x.2.2⟩:=wv t331 (rz [3,4]) hN func222 [] zh
def t332:=t331.d zke
theorem zkf:zy Pz 223 ⟨[.ty zm,.ty zm],[i64],λx=>Yk x.1 x.2⟩:=wv t332 (rz [2,3]) hN func223 [] zh
def t333:=t332.d zkf
def znB:Hints:=Hz [] [(0,3,.flat [Mb 33])] []
theorem zjk:zy Pz 163 ⟨[.ty xk,.ty wN,.ty (.sl zm)],[.bool],λx=>pH x.1 x.2.1 x.2.2⟩:=wv t333 (rz [3,4]) znB func163 [] zh
def t334:=t333.d zjk
def z30:q8:=Lz [] [Mr 2 qx,Mr 3 xj,Mi 7,Mm 20 (.sl .bool),Mi 21,Mi 22,Mm 30 (.sl qw),Mi 31] ⟨[Mi 32,.v (.qi wN),.a .str],[(5,.cur 1 .str),(6,.ptr 0 0)],Ng⟩ [⟨.exit 2,z5x⟩] λp s=>lF p.1 p.2.1 p.2.2.1 p.2.2.2.1 p.2.2.2.2.1 p.2.2.2.2.2.1 p.2.2.2.2.2.2.1 p.2.2.2.2.2.2.2 s
def z34:q8:=Lz [] [Mr 2 qx,Mr 3 xj,Mi 7,Mm 20 (.sl .bool),Mi 21,Mi 22,Mm 67 (.sl xk),Mi 68] ⟨[Mi 69,.v (.qi wN),.a .str],[(5,.cur 1 .str),(6,.ptr 0 0)],Ng⟩ [⟨.exit 4,z5x⟩] λp s=>lG p.1 p.2.1 p.2.2.1 p.2.2.2.1 p.2.2.2.2.1 p.2.2.2.2.2.1 p.2.2.2.2.2.2.1 p.2.2.2.2.2.2.2 s
def z2Z:q8:=Lz [.slot 5 .str] [Mr 2 qx,Mr 3 xj,Mm 20 (.sl .bool),Mi 21] ⟨[Mi 22,.v (.qi wN),.a .str],[(5,.cur 1 .str),(6,.ptr 0 0)],Ng⟩ [⟨.exit 0,z5x⟩] λp s=>lE p.1 p.2.1 p.2.2.1 p.2.2.2 s
def h94:Hints:=Hz [(2,z30),(4,z34),(0,z2Z)] [(0,10,.flat [Mb 59]),(0,16,.ways [⟨.normal,⟨[Mb 83,.v (.qi wN),.a .str,.v (.qi xk)],[(5,.cur 1 .str)],[.var (.qi wN),.arr .str,.var (.qi xk)]⟩⟩])] []
theorem zdV:LO Tryz.f94 z30 2:=lk t334 (rz [2,3]) h94 [] zh
theorem zdW:LO Tryz.f94 z34 4:=lk t334 (rz [2,3]) h94 [] zh
theorem zdU:LO Tryz.f94 z2Z 0:=lk t334 (rz [2,3]) h94 [2,4] (qf rfl zdV (qf rfl zdW zh))
theorem zqy:zy Pz 94 ⟨[.ty qx,.ty xj],[(.sl .str)],λx=>lB x.1 x.2⟩:=wv t334 (rz [2,3]) h94 func94 [0] (qf rfl zdU zh)
def t335:=t334.d zqy
def z38:q8:=Lz [.slot 6 qg] [Mr 3 xj,Mm 5 (.sl .bool),Mm 15 (.sl qw),Mi 16] ⟨[Mi 17,.a qg],[(6,.cur 0 qg)],[.arr qg]⟩ [⟨.exit 0,⟨[.a qg],[(6,.cur 0 qg)],[.arr qg]⟩⟩] λp s=>Qq p.1 p.2.1 p.2.2.1 p.2.2.2 s
def h96:Hints:=Hz [(0,z38)] [(0,6,.flat [Mb 39]),(3,8,.ways [⟨.normal,⟨[.a qg,.v (.qi qw),.v (.qi zm)],[(6,.cur 0 qg)],[.arr qg,.var (.qi qw),.var (.qi zm)]⟩⟩])] []
theorem zdY:LO Tryz.f96 z38 0:=lk t335 (rz [2,3]) h96 [] zh
theorem zqA:zy Pz 96 ⟨[.ty qx,.ty xj],[(.sl qg)],λx=>Wv x.1 x.2⟩:=wv t335 (rz [2,3]) h96 func96 [0] (qf rfl zdY zh)
def t336:=t335.d zqA
def z36:q8:=Lz [.cell 0 1 (.int .u8)] [Mm 6 (.sl qg),Mi 7] ⟨[Mi 8,.v JX,.a (.int .u8)],[(3,.ptr 0 0)],QO⟩ [Nk] λp s=>mN p.1 p.2 s
def h95:Hints:=Hz [(0,z36)] [] []
theorem zdX:LO Tryz.f95 z36 0:=lk t336 rn h95 [] zh
theorem zqz:zy Pz 95 ⟨[.ty (.sl qg)],[.str],λx=>np x⟩:=wv t336 rn h95 func95 [0] (qf rfl zdX zh)
def t337:=t336.d zqz
theorem zpS:xx Pz 47 ⟨[.ptr],z5g,[],Jl,1,λx=>y8 x⟩:=eP t337 rn hN func47 [] zh
def t338:=t337.s zpS
def h19:Hints:=Hz [] [(3,4,.flat [Mb 27])] []
theorem zpt:xx Pz 19 ⟨mc,z57,[],Jl,1,λx=>gV x.1 x.2⟩:=eP ((((t338.s z3v).s zlZ).s z3u).s zlY) (rz [3]) h19 func19 [] zh
def t339:=t338.s zpt
theorem z9p:cV (Nn Pz) 18 ⟨[.ptr,.ptr,.ptr],⟨[.v (.qi qo),.v (.qi wI),.v (.qi qo)],[(0,.ptr 0 0),(1,.ptr 1 0),(2,.ptr 2 0)],[.var (.qi qo),.cvar (.ptr 3 0),.var (.qi wI),.var (.qi qo)]⟩,[],⟨[.v (.qi qo),.v (.qi wI),.v (.qi qo)],[],[.var (.qi qo),.cvar (.ptr 3 0),.var (.qi wI),.var (.qi qo)]⟩,0,λx=>cW x.1 x.2.1 x.2.2⟩:=fkr t339 rn hN Tryz.func18
theorem ok8:xx Pz 8 ⟨mc,z57,[],Jl,1,λx=>kf x.1 x.2⟩:=fkf t339 (rz [3]) hN (g:=18) (pt:=0) z9p (zas z9p) Tryz.func8
def t340:=t339.s ok8
def z2t:q8:=Lz [.slot 5 wI] [Mm 8 (.sl fc),Mi 9] ⟨[Mi 10,.v (.qi qo),.a wI],[(0,.ptr 0 0),(5,.cur 1 wI)],Nc⟩ [⟨.exit 0,⟨[.v (.qi qo),.a wI],[(5,.cur 1 wI)],Nc⟩⟩] λp s=>iR p.1 p.2 s
def h17:Hints:=Hz [(0,z2t)] [] []
theorem zdo:LO Tryz.f17 z2t 0:=lk t340 rn h17 [] zh
theorem zjr:xx Pz 17 ⟨mc,⟨[Mm 1 (.sl fc),.v (.qi qo)],[(0,.ptr 0 0)],tN⟩,[],⟨[.v (.qi qo),.a wI],[(0,.cur 1 wI)],Nc⟩,1,λx=>oQ x.1 x.2⟩:=eP t340 rn h17 func17 [0] (qf rfl zdo zh)
def t341:=t340.s zjr
theorem zbl:xx Pz 8 ⟨Hd,⟨[Mm 1 fc],[(0,.br)],[]⟩,[],⟨[Mm 0 wI],[],[]⟩,1,λx=>nE x⟩:=fkf t341 (rz [3]) hN (g:=18) (pt:=0) z9p (zas z9p) Tryz.func8
def t342:=t341.s zbl
def zai:Tb:=t342.s zbl
def FF:q8:=Lz [.slot 5 wI] [Mm 8 (.sl fc),Mi 9] ⟨[Mi 10,.a wI],[(0,.br),(5,.cur 0 wI)],[.arr wI]⟩ [⟨.exit 0,⟨[.a wI],[(5,.cur 0 wI)],[.arr wI]⟩⟩] λp s=>eV p.1 p.2 s
def zau:Hints:=Hz [(0,FF)] [] []
theorem z1Z:LO Tryz.f17 FF 0:=lk zai rn zau [] zh
theorem z3s:xx Pz 17 ⟨Hd,⟨[Mm 1 (.sl fc)],[(0,.br)],[]⟩,[],⟨[.a wI],[(0,.cur 0 wI)],[.arr wI]⟩,1,λx=>lV x⟩:=eP zai rn zau func17 [0] (qf rfl z1Z zh)
def t343:=t342.s z3s
def h7:Hints:=Hz [] [(0,3,.flat [Mb 22]),(0,6,.flat [Mb 0])] []
theorem ok7:zy Pz 7 ⟨[],[.bool],λ_=>jM⟩:=wv ((t343.s z3s).s zjr) rn h7 func7 [] zh
def t344:=t343.d ok7
end Go.AM.Lf
