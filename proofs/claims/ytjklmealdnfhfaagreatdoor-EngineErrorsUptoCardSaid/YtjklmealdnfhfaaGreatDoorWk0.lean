/-
  The walk, part 0: each function of the program is the tree that the lifted text says; printed by a program of ours.
-/
import Derived.Test.YtjklmealdnfhfaaGreatDoorProg
import Derived.KernelRfl
import Derived.Test.YtjklmealdnfhfaaGreatDoorAmE
import Derived.Test.YtjklmealdnfhfaaGreatDoorLf1
import Derived.Lib.Builder
import Derived.Shelf.Strings.Builder1
import Derived.WalkKit
import Derived.TacticsInMore
import Derived.Maps.OwnOps
import Derived.Maps.AppendAt
import Derived.StringKeys
import Derived.Maps.Views
import Derived.Shelf.Strings.FieldsFuncAny
import Derived.RangeFuncBox
import Derived.RangeFuncLeaves
import Derived.RangeFuncNested
import Derived.Shelf.Abstract
import Derived.OwnWalkIn
import Derived.LoopNIn
import Derived.LoopIn
import Derived.Lib.AtoiAll
import Derived.Lib.ConvBytes
import Derived.Test.YtjklmealdnfhfaaGreatDoorSh
set_option linter.unusedVariables false
open Go.Obj renaming cells -> zA
open List renaming size_toArray -> Y, length -> zH, length_cons -> zK, append_toArray -> zS, getElem?_eq_getElem -> zT, push_toArray -> zV, take_succ_eq_append_getElem -> zW, cons_append -> zX, eq_nil_of_length_eq_zero -> zY, length_nil -> zZ, nil_append -> qA, mem_cons_self -> qC, mem_cons_of_mem -> qJ
open Go.Value renaming int -> X, pointer -> zG, bool -> zM, slice -> qM, agg -> qR
open Nat renaming le_refl -> V, lt_of_lt_of_le -> zI, reduceAdd -> qE, reduceSub -> qF, zero_le -> qK
open Option renaming none -> zE, map_eq_some_iff -> qG
open ByteArray renaming size -> zF
open Go.Builtin renaming unsafeSliceData_ -> zJ, append_ -> zU, zeroCells -> qD, unsafeString_ -> qI, firstCells -> qN
open Go.World renaming size_alloc -> zL
open Go.Oper renaming semAt_some -> zN, upon_value -> qH
open Array renaming replicate_succ -> zO, replicate_zero -> zP
open Go.Lib renaming cell_of_heap -> zQ, run_unsafeSliceData_row -> qB, parseUint10 -> qO, pow10Tab -> qP
open Go.KeepsOthers renaming setCell -> zR
open Go.Result renaming andThen -> qL
open Go.Boxed renaming new -> qQ
set_option maxRecDepth 100000
noncomputable section
namespace Go.AM.Lf
open Go.Proofs Go.Proofs.Tryz
abbrev I5:Nat:=81
noncomputable abbrev Pz:Program:=Tryz.prog
def kP(f:Func):Code:=match f.body with | some c=>c | none=>.skip
def lb(k:Nat)(f:Func):Code:=match V0 k (kP f)with | some c=>c | none=>.skip
theorem mixed:Pz.follows .mixedOrders=true:=by kernel_rfl
instance:yV:={ u8:=5,tab:=[(0,EI .u64 qP),(2,CB .i64)] }
theorem fy{O:KS}(B:Inv O):Lib.TabIs Tryz.prog O.w "internal/strconv.uint64pow10" .u64 qP :=
 zd2 (g:=0) (by kernel_rfl) (B.gl (0,EI .u64 qP) (by simp[yV.tab])).2
theorem kR{O:KS}(B:Inv O):∃ m,O.w.cell? ⟨2,0,none⟩=some (.int .i64 m) :=
 RS (B.gl (2,CB .i64) (by simp[yV.tab])).2
structure Tb where
 t:lC
 ok:ea Pz t
def Tb.d(T:Tb){g:Nat}{d:Dz}(h:q8 Pz g d):Tb:=⟨(g,.d d)::T.t,LR h T.ok⟩
def Tb.s(T:Tb){g:Nat}{d:gX}(h:xv Pz g d):Tb:=⟨(g,.s d)::T.t,FA h T.ok⟩
def Tb.p(T:Tb){g:Nat}{d:lB}(h:jz Pz g d):Tb:=⟨(g,.p d)::T.t,Fz h T.ok⟩
def t0:Tb:=⟨[],SQ _⟩
def fL:List (Nat×q9)->Nat->Option q9
 | [],_=>none
 | x::r,n=>bif Nat.beq x.1 n then some x.2 else fL r n
def fC:List (Nat×Nat×z4S)->Nat->Nat->Option z4S
 | [],_,_=>none
 | x::r,k,n=>bif Nat.beq x.1 k&&Nat.beq x.2.1 n then some x.2.2 else fC r k n
def fF:List (Nat×List Nat)->Nat->List Nat
 | [],_=>[]
 | x::r,n=>bif Nat.beq x.1 n then x.2 else fF r n
def Hz(l:List (Nat×q9))(c:List (Nat×Nat×z4S))(f:List (Nat×List Nat)):Hints:=⟨fL l,fC c,fF f⟩
def hN:Hints:=Hz [] [] []
def rz(l:List Nat)(s:Nat):Bool:=l.any (Nat.beq s)
def rn(_:Nat):Bool:=false
def Lz(gh:List Gh)(ps:List It)(sh:um)(ws:List Way)(hl:jP ps->sh.den->T (sh.den⊕fJ ws)):q9:=⟨gh,ps,sh,ws,λp s=>T.loop (hl p) s⟩
abbrev LO(f:Func)(l:q9)(i:Nat):Prop:=Vx Pz f.ntmps l (lb i f)
def ls(f:Func):List Nat->List (Nat×Code)
 | []=>[]
 | i::r=>(i,lb i f)::ls f r
abbrev Mi(n:Nat):It:=.s n (.qi i64)
abbrev Mb(n:Nat):It:=.s n (.qi .bool)
abbrev Ms(n:Nat):It:=.s n (.qi .str)
abbrev Mm(n:Nat)(t:Ty):It:=.s n (.qi t)
abbrev Mr(n:Nat)(t:Ty):It:=.s n (.vz t)
abbrev Sh0(l:List It):um:=⟨l,[],[]⟩
theorem lk{f:Func}{i:Nat}{gh:List Gh}{ps:List It}{sh:um}{ws:List Way}{hl:jP ps->sh.den->T (sh.den⊕fJ ws)}(T:Tb)(ro:Nat->Bool)(H:Hints)(L:List Nat)(ha:BR Pz f.ntmps H (ls f L))
  (h:∀ p s,z2R (gM Pz I5 T.t ro) T.t f.ntmps H (Lz gh ps sh ws hl) (lb i f) p s=hl p s:=by intro p s; kernel_rfl) (R:vZ (lb i f)=ls f L:=by kernel_rfl):LO f (Lz gh ps sh ws hl) i :=
 z7Z (xid:=I5) (ro:=ro) (H:=H) mixed T.ok (U8 R ha) hl h λ_ _=>rfl
theorem wo{f:Nat}{fn:Func}{d:Dz}(T:Tb)(ro:Nat->Bool)(H:Hints)(hf:Pz.funcs[f]? = some fn)(L:List Nat)(ha:BR Pz fn.ntmps H (ls fn L))
  (h:∀ x,z01 (gM Pz I5 T.t ro) T.t H fn (kP fn) d x=d.F x:=by intro x; kernel_rfl) (I:fn.body=some (kP fn):=by rfl) (hn:(fn.name == "runtime.NumGoroutine")=false:=by kernel_rfl) (R:vZ (kP fn)=ls fn L:=by kernel_rfl):q8 Pz f d :=
 zed (xid:=I5) (ro:=ro) (H:=H) mixed T.ok hf I hn (U8 R ha) h
theorem eo{f:Nat}{fn:Func}{d:gX}(T:Tb)(ro:Nat->Bool)(H:Hints)(hf:Pz.funcs[f]? = some fn)(L:List Nat)(ha:BR Pz fn.ntmps H (ls fn L))
  (h:∀ x,ID (gM Pz I5 T.t ro) T.t H fn (kP fn) d x=d.F x:=by intro x; kernel_rfl) (I:fn.body=some (kP fn):=by rfl) (hn:(fn.name == "runtime.NumGoroutine")=false:=by kernel_rfl) (R:vZ (kP fn)=ls fn L:=by kernel_rfl):xv Pz f d :=
 zb3 (xid:=I5) (ro:=ro) (H:=H) mixed T.ok hf I hn (U8 R ha) h
def hdB(c:Code):Code:=match c with | .seq _ b=>b | _=>.skip
def hdO(c:Code):Array Oper:=match c with | .seq (.region _ ops _) _=>ops | _ => #[]
def hdI(c:Code):Nat:=match c with | .seq (.region id _ _) _=>id | _=>0
theorem fkr{f:Nat}{fn:Func}{d:gX}(T:Tb)(ro:Nat->Bool)(H:Hints)(hf:Pz.funcs[f]? = some fn)
  (h:∀ x,evH (gM Pz I5 T.t ro) T.t H fn (hdO (kP fn)) (hdB (kP fn)) d d.ks.length none x=d.F x:=by intro x; kernel_rfl) (I:fn.body=some (.seq (.region (hdI (kP fn)) (hdO (kP fn)) false) (hdB (kP fn))):=by kernel_rfl) (hn:(fn.name == "runtime.NumGoroutine")=false:=by kernel_rfl) (R:vZ (hdB (kP fn))=[]:=by kernel_rfl):cx (Mf Pz) f d :=
 z5I (xid:=I5) (ro:=ro) (H:=H) mixed T.ok hf I hn (KC R) h
theorem fkh{f t:Nat}{fn:Func}{d:gX}(T:Tb)(ro:Nat->Bool)(H:Hints)(hf:Pz.funcs[f]? = some fn)(k:Nat)
  (h:∀ x,evH (gM Pz I5 T.t ro) T.t H fn (hdO (kP fn)) (hdB (kP fn)) d k (some t) x=d.F x:=by intro x; kernel_rfl) (hk:d.ks.length=k+1:=by kernel_rfl) (I:fn.body=some (.seq (.region (hdI (kP fn)) (hdO (kP fn)) false) (hdB (kP fn))):=by kernel_rfl) (hn:(fn.name == "runtime.NumGoroutine")=false:=by kernel_rfl) (R:vZ (hdB (kP fn))=[]:=by kernel_rfl):cx (R2 Pz t) f d :=
 z5H (xid:=I5) (ro:=ro) (H:=H) mixed T.ok hf I hn (KC R) hk h
theorem z9i{g:Nat}{d:gX}(_:cx (Mf Pz) g d):cx (R2 Pz 0) g { d with F:=λ_=>.fail }:=λ_ _ _ _ _ hy=>hy.elim
theorem fkf{f g pt:Nat}{fn:Func}{d d0 d1:gX}(T:Tb)(ro:Nat->Bool)(H:Hints)(h0:cx (Mf Pz) g d0)(h1:cx (R2 Pz pt) g d1)(hf:Pz.funcs[f]? = some fn)
  (h:∀ x,z00 (gM Pz I5 T.t ro) T.t H ⟨g,d0,pt,d1⟩ fn (kP fn) d x=d.F x:=by intro x; kernel_rfl) (I:fn.body=some (kP fn):=by rfl) (hn:(fn.name == "runtime.NumGoroutine")=false:=by kernel_rfl) (R:vZ (kP fn)=[]:=by kernel_rfl):xv Pz f d :=
 zb1 (xid:=I5) (ro:=ro) (H:=H) mixed T.ok (h:=⟨g,d0,pt,d1⟩) h0 h1 hf I hn R h
theorem Kq{f:Nat}{fn:Func}{d:lB}(T:Tb)(ro:Nat->Bool)(H:Hints)(hf:Pz.funcs[f]? = some fn)(L:List Nat)(ha:BR Pz fn.ntmps H (ls fn L))
  (h:∀ x,IC (gM Pz I5 T.t ro) T.t H fn (kP fn) d x=d.F x:=by intro x; kernel_rfl) (I:fn.body=some (kP fn):=by rfl) (hn:(fn.name == "runtime.NumGoroutine")=false:=by kernel_rfl) (R:vZ (kP fn)=ls fn L:=by kernel_rfl):jz Pz f d :=
 zb2 (xid:=I5) (ro:=ro) (H:=H) mixed T.ok hf I hn (U8 R ha) h
abbrev Vt:Dk:=.st [.row 1 qq,.row 2 qf,.row 3 xp,.row 4 qu,.row 5 xl,.row 6 xj]
abbrev Ki:Dk:=.st [.im (.sl qq),.im (.sl qf),.im (.sl xp),.im (.sl qu),.im (.sl xl),.im (.sl xj),.row 1 zq,.row 2 i64,.row 3 i64]
abbrev so:Dk:=.st [.im (.sl zq),.row 1 i64,.row 2 i64]
abbrev z3r:List Bk:=[.var (.st [.row 10 zl,.row 2 .bool,.row 11 zl,.row 8 i64,.row 6 zm,.row 3 .bool]),.var (.st [.row 12 zl,.row 4 .bool,.row 13 zl,.row 9 i64,.row 7 zm,.row 5 .bool]),.arr .bool,.arr .bool,.arr .bool,.arr .bool,.arr zm,.arr zm,.arr i64,.arr i64,.arr zl,.arr zl,.arr zl,.arr zl]
abbrev Hj:List Bk:=[.var Vt,.arr qq,.arr qf,.arr xp,.arr qu,.arr xl,.arr xj]
abbrev Vs:List Bk:=[.var (.qi xk)]
abbrev Jp:Dk:=.st [.op 0 210,.row 1 (.int .u8)]
abbrev z8Z:Dk:=.st [.im (.sl qq),.im (.sl qf),.im (.sl xp),.im (.sl qu),.im (.sl xl),.im (.sl xj),.row 0 zq,.row 4 i64,.row 1 i64]
abbrev z90:Dk:=.st [.im (.sl qq),.im (.sl qf),.im (.sl xp),.im (.sl qu),.im (.sl xl),.im (.sl xj),.row 2 zq,.row 6 i64,.row 3 i64]
abbrev o9:Way:=⟨.ret,⟨[Mi 4],[],[]⟩⟩
abbrev PM:um:=⟨[.v (.st [.row 10 zl,.row 2 .bool,.row 11 zl,.row 8 i64,.row 6 zm,.row 3 .bool]),.v (.st [.row 12 zl,.row 4 .bool,.row 13 zl,.row 9 i64,.row 7 zm,.row 5 .bool]),.a .bool,.a .bool,.a .bool,.a .bool,.a zm,.a zm,.a i64,.a i64,.a zl,.a zl,.a zl,.a zl],[],z3r⟩
abbrev jM:List Bk:=[.arr i64]
abbrev FK:Dk:=.st [.im (.sl zl),.im (.sl .bool),.im (.sl zl),.row 0 i64,.im (.sl zm),.im (.sl .bool)]
abbrev BK:Dk:=.st [.im (.sl qq),.im (.sl qf),.im (.sl xp),.im (.sl qu),.im (.sl xl),.im (.sl xj),.row 13 zq,.row 14 i64,.row 15 i64]
abbrev BL:Dk:=.st [.im (.sl qq),.im (.sl qf),.im (.sl xp),.im (.sl qu),.im (.sl xl),.im (.sl xj),.row 9 zq,.row 10 i64,.row 11 i64]
abbrev tc:um:=⟨[Mm 0 uk,.v (.qi xk)],[],Vs⟩
abbrev BQ:um:=⟨[.s 0 (.sub 0 i64),Mi 1,Mi 2,Mi 3,.s 4 (.wg 287 [.rp (.sl zq)]),.a i64],[],jM⟩
abbrev kN:Way:=⟨.exit 0,⟨[],[],[]⟩⟩
abbrev BM:Dk:=.st [.im i64,.row 2 qj,.im .bool,.im (.sl u32),.im (.sl u32)]
abbrev BN:Dk:=.st [.im i64,.row 3 qj,.im .bool,.im (.sl u32),.im (.sl u32)]
abbrev cR:um:=⟨[Mi 8],[],[]⟩
abbrev og:um:=⟨[.v (.qi xk)],[(0,.ptr 0 0)],Vs⟩
abbrev z3q:List Bk:=[.var (.qi ux),.var (.st [.row 3 zl,.row 4 .bool,.im (.sl zl),.row 6 i64,.row 7 zm,.row 8 .bool]),.var (.qi xf),.arr zl,.arr .bool,.arr zl,.arr i64,.arr zm,.arr .bool]
abbrev UO:um:=⟨[Mm 0 wA,.v (.qi qs)],[],[.var (.qi qs)]⟩
abbrev UM:List Bk:=[.var so,.arr i64,.arr i64]
abbrev Qt:um:=⟨[Mm 0 .expr,.v (.qi xk)],[],Vs⟩
abbrev UN:List Bk:=[.var Ki,.arr zq,.arr i64,.arr i64]
abbrev PA:List Bk:=[.var (.st [.nl,.nl]),.var (.st [.row 3 zq,.row 4 i64]),.var (.qi wI),.arr zq,.arr i64]
abbrev BO:Dk:=.st [.im (.sl zl),.im (.sl .bool),.im (.sl zl),.row 3 i64,.im (.sl zm),.im (.sl .bool)]
abbrev FL:Dk:=.st [.row 7 qq,.row 9 qf,.row 11 xp,.row 13 qu,.row 5 xl,.row 3 xj]
abbrev Qu:um:=⟨[Ms 0],[],[]⟩
abbrev Qs:List Bk:=[.var Jp,.arr (.int .u8)]
abbrev PC:List Bk:=[.var (.qi xk),.var (.qi .expr),.var (.qi .expr)]
abbrev BP:Dk:=.st [.im (.sl zq),.row 0 i64,.row 1 i64]
abbrev FM:Dk:=.st [.im (.sl zq),.row 2 i64,.row 3 i64]
abbrev WH:um:=⟨[.a .str],[(0,.cur 0 .str)],[.arr .str]⟩
abbrev PN:um:=⟨[Mm 1 (.sl .str),.v Vt,.a qq,.a qf,.a xp,.a qu,.a xl,.a xj],[(0,.ptr 0 0)],Hj⟩
abbrev td:um:=⟨[.a i64],[],jM⟩
abbrev BJ:List Bk:=[.var so,.arr i64,.arr i64,.arr i64]
abbrev FN:um:=⟨[Mi 1,.v so,.a i64,.a i64],[(0,.ptr 0 0)],UM⟩
abbrev Zd:List Bk:=[.var (.qi qs)]
abbrev PO:um:=⟨[Mm 0 .expr,Mi 1,.v (.qi i64)],[(2,.ptr 0 0)],[.var (.qi i64)]⟩
abbrev PS:um:=⟨[.v so,.a i64,.a i64,.v .mp],[],[.var so,.arr i64,.arr i64,.var .mp]⟩
abbrev fu:List Bk:=[.arr u32]
abbrev PT:um:=⟨[Mb 0,.v Vt,.a qq,.a qf,.a xp,.a qu,.a xl,.a xj],[],Hj⟩
abbrev z3s:List Bk:=[.arr i64,.var FK,.arr zq,.arr i64,.var (.st [.un,.un]),.var z90,.arr i64]
abbrev FP:um:=⟨[Mi 0,.v so,.a i64,.a i64],[],UM⟩
abbrev z3y:Dk:=.st [.row 3 zl,.row 4 .bool,.im (.sl zl),.row 6 i64,.row 7 zm,.row 8 .bool]
abbrev PH:Dk:=.st [.row 10 zl,.row 2 .bool,.row 11 zl,.row 8 i64,.row 6 zm,.row 3 .bool]
abbrev PJ:Dk:=.st [.row 12 zl,.row 4 .bool,.row 13 zl,.row 9 i64,.row 7 zm,.row 5 .bool]
abbrev z3z:Dk:=.st [.row 6 qq,.row 8 qf,.row 10 xp,.row 12 qu,.row 4 xl,.row 2 xj]
abbrev zaf:um:=⟨[.s 0 (.st [.row 0 zl,.row 1 .bool,.im (.sl zl),.row 2 i64,.row 3 zm,.row 4 .bool]),.s 1 (.tight .str),Mi 2,.a zl,.a .bool,.a i64,.a zm,.a .bool],[],[.arr zl,.arr .bool,.arr i64,.arr zm,.arr .bool]⟩
abbrev GB:um:=⟨[.v Jp,.a (.int .u8)],[],Qs⟩
abbrev XA:um:=⟨[Mm 0 .nil],[],[]⟩
abbrev GC:um:=⟨[.a .str],[(3,.cur 0 .str)],[.arr .str]⟩
abbrev zam:Way:=⟨.normal,⟨[Mm 1 (.sl .str),.v Vt,.a qq,.a qf,.a xp,.a qu,.a xl,.a xj,.v (.qi qu)],[],[.var Vt,.arr qq,.arr qf,.arr xp,.arr qu,.arr xl,.arr xj,.var (.qi qu)]⟩⟩
abbrev FQ:um:=⟨[Mm 1 .expr,.a .str],[(0,.cur 0 .str)],[.arr .str]⟩
abbrev z3t:List Bk:=[.arr zq,.arr i64,.var (.st [.un,.un]),.var z8Z,.arr i64]
abbrev PU:um:=⟨[Mb 0,.v (.qi i64)],[],[.var (.qi i64)]⟩
abbrev z4c:um:=⟨[Mi 0,.v Vt,.a qq,.a qf,.a xp,.a qu,.a xl,.a xj],[],Hj⟩
abbrev GD:um:=⟨[Mi 3],[],[]⟩
abbrev z4d:um:=⟨[Mm 0 uk,.v (.qi xk),.v (.qi .expr),.v (.qi .expr)],[],PC⟩
abbrev z3u:List Bk:=[.var (.qi .expr),.var (.qi i64),.var (.qi i64)]
abbrev z3A:Dk:=.st [.row 0 zl,.row 1 .bool,.row 2 zl,.row 3 i64,.row 4 zm,.row 5 .bool]
abbrev PV:um:=⟨[.v (.qi xk)],[],Vs⟩
abbrev PK:Dk:=.st [.row 3 zq,.row 4 i64]
abbrev zad:List Bk:=[.var z3z,.var FL,.arr xj,.arr xj,.arr xl,.arr xl,.arr qq,.arr qq,.arr qf,.arr qf,.arr xp,.arr xp,.arr qu,.arr qu]
abbrev z4e:um:=⟨[Mb 0,.a i64],[],[.cvar (.cur 1 i64),.arr i64]⟩
abbrev z4f:um:=⟨[.v (.qi wI),.a .str],[(5,.cur 1 .str)],[.var (.qi wI),.arr .str]⟩
abbrev zae:Dk:=.st [.im (.sl qq),.im (.sl qf),.im (.sl xp),.im (.sl qu),.im (.sl xl),.im (.sl xj),.row 2 zq,.row 3 i64,.row 4 i64]
abbrev z4g:um:=⟨[.s 0 (.sub 0 i64),Mi 10,.a i64],[],jM⟩
abbrev zag:um:=⟨[Mm 0 (.sl qj),.s 1 (.mclo 342 [.rp (.sl i64),.rp i64,.pt 0]),.a i64],[],[.cvar (.cur 1 i64),.arr i64]⟩
abbrev PD:List Bk:=[.var FM,.var .mp,.arr i64,.arr i64]
abbrev PW:um:=⟨[Ms 0,Mi 11],[],[]⟩
abbrev z3v:List Bk:=[.arr zl,.arr .bool,.arr zl,.arr i64,.arr zm,.arr .bool]
abbrev PE:List Bk:=[.var (.qi uW),.var (.qi i64)]
abbrev z3B:Dk:=.st [.im (.sl .str),.row 4 .str,.im (.sl zl)]
abbrev zah:um:=⟨[Mm 0 (.sl .expr),.s 1 (.mclo 259 [.rp i64,.pt 0]),.v (.qi i64)],[],[.cvar (.ptr 1 0),.var (.qi i64)]⟩
abbrev z4h:um:=⟨[.v (.qi xk),.v (.qi .expr),.v (.qi .expr)],[],PC⟩
abbrev zai:um:=⟨[Mm 1 (.sl .str),Ms 2,.v Vt,.a qq,.a qf,.a xp,.a qu,.a xl,.a xj],[(0,.ptr 0 0)],Hj⟩
abbrev zan:Way:=⟨.ret,⟨[Ms 7,Mi 8,.v (.st [.nl,.nl]),.v PK,.v (.qi wI),.a zq,.a i64],[],PA⟩⟩
abbrev ny:List Bk:=[.arr .str]
abbrev FI:List Bk:=[.var (.qi .expr),.var (.qi .expr)]
abbrev zaj:um:=⟨[.v (.qi ux),.v z3y,.v (.qi xf),.a zl,.a .bool,.a zl,.a i64,.a zm,.a .bool],[],z3q⟩
abbrev z3C:Dk:=.st [.row 2 .str,.row 3 .str,.im (.sl zl)]
abbrev z3w:List Bk:=[.var BM,.var BN,.arr qj,.arr qj]
abbrev z4r:Way:=⟨.exit 0,⟨[.a u32],[(7,.cur 0 u32)],fu⟩⟩
abbrev PF:List Bk:=[.var (.qi xk),.var (.qi .expr)]
abbrev FJ:List Bk:=[.var (.qi ju)]
abbrev lA:List AK:=[.ptr,.any]
abbrev z4i:um:=⟨[.v Ki,.a zq,.a i64,.a i64],[],UN⟩
abbrev GA:List Bk:=[.arr (.int .u8)]
abbrev zao:Way:=⟨.normal,⟨[Mb 16,.v Vt,.a qq,.a qf,.a xp,.a qu,.a xl,.a xj],[],Hj⟩⟩
abbrev PX:Way:=⟨.ret,⟨[Mb 2],[],[]⟩⟩
abbrev z4j:um:=⟨[Mi 3,Mi 9],[],[]⟩
abbrev PY:Way:=⟨.ret,⟨[Mb 4],[],[]⟩⟩
abbrev z4k:um:=⟨[.s 0 (.sub 0 i64),.a i64],[],jM⟩
abbrev K5:Way:=⟨.exit 0,Qu⟩
abbrev zak:um:=⟨[.s 0 (.sub 0 i64),Mi 10,Mi 11,.a i64],[],jM⟩
abbrev zal:um:=⟨[.a i64,.v FK,.a zq,.a i64,.v (.st [.un,.un]),.v z90,.a i64],[],z3s⟩
abbrev z3D:um:=⟨[.s 0 (.sub 0 i64),Mi 7,Mi 8,.a i64],[],jM⟩
abbrev M9:um:=⟨[.a i64],[(0,.cur 0 i64)],jM⟩
abbrev Qd:List AK:=[.ptr,.any,.any]
abbrev z3x:Dk:=.st [.row 1 zl,.row 2 .bool,.row 3 zl,.row 4 i64,.row 5 zm,.row 6 .bool]
abbrev z3E:um:=⟨[Mb 0,.v (.qi i64)],[],[.cvar (.ptr 1 0),.var (.qi i64)]⟩
abbrev z3F:um:=⟨[.v so,.a i64,.a i64,.a i64],[(10,.cur 3 i64)],BJ⟩
abbrev tA:List Bk:=[.arr zl]
abbrev Gz:List Bk:=[.var (.qi ux)]
abbrev z4l:Way:=⟨.ret,⟨[Mb 4,.v Ki,.a zq,.a i64,.a i64],[],UN⟩⟩
abbrev z3G:um:=⟨[.v (.st [.nl,.nl]),.v PK,.v (.qi wI),.a zq,.a i64],[],PA⟩
abbrev M0:List Bk:=[.arr i64,.arr i64,.var BP]
abbrev Ma:um:=⟨[Mm 0 (.sl u32)],[],[]⟩
abbrev z3H:um:=⟨[.a zq,.a i64,.v (.st [.un,.un]),.v z8Z,.a i64],[],z3t⟩
abbrev M1:List Bk:=[.var (.qi qs),.arr wA]
abbrev z3I:um:=⟨[.s 0 (.sub 0 i64),Mi 1,.a i64],[],jM⟩
abbrev z3J:um:=⟨[.s 0 (.sub 0 i64),Mi 7,.a i64],[],jM⟩
abbrev z3K:um:=⟨[.v (.qi zl),.v (.qi zl)],[],[.var (.qi zl),.var (.qi zl)]⟩
abbrev z3L:um:=⟨[Mi 15,.a u32],[(7,.cur 0 u32)],fu⟩
abbrev z3M:um:=⟨[.v (.qi .expr),.v (.qi i64),.v (.qi i64)],[],z3u⟩
abbrev z4m:Way:=⟨.normal,⟨[Mb 16,.a .str],[(0,.cur 0 .str)],ny⟩⟩
abbrev z4n:Way:=⟨.normal,⟨[Mb 44,.v (.qi xk)],[],Vs⟩⟩
abbrev z3N:um:=⟨[Mm 1 fA,.v (.qi qs)],[(0,.ptr 0 0)],Zd⟩
abbrev z4o:Way:=⟨.exit 0,⟨[.v BM,.v BN,.a qj,.a qj],[],z3w⟩⟩
abbrev M4:List Bk:=[.arr i64,.var (.qi zq)]
abbrev M5:List Bk:=[.var (.qi i64)]
abbrev z3n:List Bk:=[.arr zl,.var (.qi zl),.var (.qi zl),.var (.qi zl)]
abbrev z3O:um:=⟨[.a zm],[(0,.cur 0 zm)],[.arr zm]⟩
abbrev z3P:um:=⟨[Mi 25,.a .str],[(0,.cur 0 .str)],ny⟩
abbrev z4p:Way:=⟨.exit 0,⟨[.a .bool],[(5,.cur 0 .bool)],[.arr .bool]⟩⟩
abbrev M6:List Bk:=[.var (.qi wI),.arr .str]
abbrev z3Q:um:=⟨[Mm 0 .nil,.v (.qi ju)],[],FJ⟩
abbrev z3R:um:=⟨[Ms 0,.v (.qi xk)],[],Vs⟩
abbrev z3S:um:=⟨[Mm 0 qy,Mm 1 xf],[],[]⟩
abbrev z3T:um:=⟨[.s 3 (.sub 0 (.int .u8)),.a (.int .u8)],[],GA⟩
abbrev z3o:List Bk:=[.var so,.arr i64,.arr i64,.var .mp]
abbrev z3p:List Bk:=[.var z3C,.var z3B,.arr .str,.arr .str,.arr .str]
abbrev z3U:um:=⟨[.a (.int .u8)],[(3,.cur 0 (.int .u8))],GA⟩
abbrev z3V:um:=⟨[.v Jp,.a (.int .u8)],[(0,.ptr 0 0)],Qs⟩
abbrev z3W:um:=⟨[.a .bool],[(0,.cur 0 .bool)],[.arr .bool]⟩
abbrev z4q:Way:=⟨.normal,⟨[Mb 16],[],[]⟩⟩
abbrev z3X:um:=⟨[.a zl],[(9,.cur 0 zl)],tA⟩
abbrev z3Y:um:=⟨[.a zl],[(0,.cur 0 zl)],tA⟩
abbrev Df:List AK:=[.any,.any,.ptr]
abbrev z3Z:um:=⟨[.a .str],[(4,.cur 0 .str)],ny⟩
abbrev z42:um:=⟨[.v (.qi i64)],[],M5⟩
abbrev z43:um:=⟨[Mi 13],[],[]⟩
abbrev Dg:Dk:=.st [.nl,.nl]
abbrev Dh:Dk:=.st [.un,.un]
abbrev z45:um:=⟨[Mi 0],[],[]⟩
abbrev z47:um:=⟨[Mm 6 (.sl .str)],[],[]⟩
abbrev M7:List Bk:=[.var (.qi zl)]
abbrev Md:Way:=⟨.exit 0,GB⟩
abbrev Me:Way:=⟨.exit 0,PV⟩
abbrev Gy:List AK:=[.any,.any]
abbrev z48:um:=⟨[Mm 0 qy],[],[]⟩
abbrev M8:List Bk:=[.arr zm]
abbrev z4a:um:=⟨[Mb 0],[],[]⟩
abbrev z4b:um:=⟨[.a (.int .u8)],[],GA⟩
def zm2:Hints:=Hz [] [(0,1,.flat [Mb 2])] []
theorem zi3:q8 Pz 196 ⟨[.ty (.int .u8)],[.bool],λx=>cp x⟩:=wo t0 rn zm2 func196 [] zf
def t1:=t0.d zi3
def zme:Hints:=Hz [] [(0,1,.flat [Mb 2])] []
theorem ziU:q8 Pz 257 ⟨[.ty (.int .u8)],[.bool],λx=>jZ x⟩:=wo t1 rn zme func257 [] zf
def t2:=t1.d ziU
theorem zi4:q8 Pz 197 ⟨[.ty (.int .u8)],[.bool],λx=>bQ x⟩:=wo t2 rn hN func197 [] zf
def t3:=t2.d zi4
def Nd:q9:=Lz [] [Ms 0,Mi 18] ⟨[Mi 19],[],[]⟩ [kN,PX] λp s=>ZB p.1 p.2 s
def RB:Hints:=Hz [(0,Nd)] [(0,1,.ways [z4q])] []
theorem z6x:LO Tryz.f128 Nd 0:=lk t3 rn RB [] zf
theorem zhd:q8 Pz 128 ⟨[.ty .str],[.bool],λx=>uP x⟩:=wo t3 rn RB func128 [0] (qh rfl z6x zf)
def t4:=t3.d zhd
theorem zhc:q8 Pz 127 ⟨[.ty qq],[.bool],λx=>yL x⟩:=wo t4 (rz [1]) hN func127 [] zf
def t5:=t4.d zhc
def MY:q9:=Lz [] [Mm 0 (.sl qq),.s 1 (.wg 127 []),Mi 7] cR [kN,o9] λp s=>wY p.1 (λz0=>yL z0) p.2.2 s
def zek:Hints:=Hz [(0,MY)] [] []
theorem z6i:LO Tryz.f100 MY 0:=lk t5 rn zek [] zf
theorem zgQ:q8 Pz 100 ⟨[.ty (.sl qq),.wg 127 []],[i64],λx=>wa x.1 (λz0=>yL z0)⟩:=wo t5 rn zek func100 [0] (qh rfl z6i zf)
def t6:=t5.d zgQ
theorem zoC:q8 Pz 82 ⟨[.ty (.sl qq),.wg 127 []],[.bool],λx=>vE x.1 (λz0=>yL z0)⟩:=wo t6 rn hN func82 [] zf
def t7:=t6.d zoC
def zm3:Hints:=Hz [] [(0,1,.flat [Mb 2])] []
theorem zi5:q8 Pz 198 ⟨[.ty (.sl u32)],[.bool],λx=>ZQ x⟩:=wo t7 rn zm3 func198 [] zf
def t8:=t7.d zi5
def Nl:q9:=Lz [] [] Ma [⟨.exit 0,Ma⟩] λp s=>sM  s
def zew:Hints:=Hz [(0,Nl)] [] []
theorem z6E:LO Tryz.f164 Nl 0:=lk t8 rn zew [] zf
theorem zhG:q8 Pz 164 ⟨[.ty (.sl u32)],[(.sl u32)],λx=>vV x⟩:=wo t8 rn zew func164 [0] (qh rfl z6E zf)
def t9:=t8.d zhG
def zmb:Hints:=Hz [] [(0,1,.H8)] []
theorem zih:q8 Pz 214 ⟨[.ty (.sl u32)],[(.sl u32)],λx=>ya x⟩:=wo t9 rn zmb func214 [] zf
def t10:=t9.d zih
theorem zhD:q8 Pz 161 ⟨[.ty (.sl u32)],[(.sl u32)],λx=>iC x⟩:=wo t10 rn hN func161 [] zf
def t11:=t10.d zhD
def Nc:q9:=Lz [] [Mm 0 (.sl u32),Mm 1 (.sl u32)] ⟨[Mi 5],[],[]⟩ [kN,o9] λp s=>rF p.1 p.2 s
def zer:Hints:=Hz [(0,Nc)] [] []
theorem z6w:LO Tryz.f126 Nc 0:=lk t11 rn zer [] zf
theorem zhb:q8 Pz 126 ⟨[.ty (.sl u32),.ty (.sl u32)],[i64],λx=>sJ x.1 x.2⟩:=wo t11 rn zer func126 [0] (qh rfl z6w zf)
def t12:=t11.d zhb
def zmd:Hints:=Hz [] [(0,1,.flat [Mb 15])] []
theorem ziT:q8 Pz 256 ⟨[.ty u32,.ty u32,.ty u32],[u32,u32],λx=>eG x.1 x.2.1 x.2.2⟩:=wo t12 rn zmd func256 [] zf
def t13:=t12.d ziT
def Nt:q9:=Lz [] [Mm 0 (.sl u32),Mm 1 u32] ⟨[Mm 7 u32,Mi 8,.a u32],[(6,.cur 0 u32)],fu⟩ [⟨.exit 0,⟨[Mm 7 u32,.a u32],[(6,.cur 0 u32)],fu⟩⟩] λp s=>oD p.1 p.2 s
def zeB:Hints:=Hz [(0,Nt)] [] [(7,[6])]
theorem z6L:LO Tryz.f194 Nt 0:=lk t13 rn zeB [] zf
theorem zi1:q8 Pz 194 ⟨[.ty (.sl u32),.ty u32],[(.sl u32),u32],λx=>pe x.1 x.2⟩:=wo t13 rn zeB func194 [0] (qh rfl z6L zf)
def t14:=t13.d zi1
theorem zoP:q8 Pz 96 ⟨[.ty (.int .u64)],[(.sl u32)],λx=>iu x⟩:=wo t14 rn hN func96 [] zf
def t15:=t14.d zoP
def zmp:Hints:=Hz [] [(3,1,.flat [Mm 0 u32,Mi 2]),(3,4,.flat [Mm 0 u32,Mi 2])] []
theorem zjN:q8 Pz 331 ⟨[.ty u32],[i64],λx=>eH x⟩:=wo t15 rn zmp func331 [] zf
def t16:=t15.d zjN
theorem zj5:q8 Pz 273 ⟨[.ty u32],[i64],λx=>ke x⟩:=wo t16 rn hN func273 [] zf
def t17:=t16.d zj5
def NQ:q9:=Lz [] [Mm 1 (.int .u64),Mi 2,Mm 13 (.sl u32),Mi 14] z3L [z4r] λp s=>Wx p.1 p.2.1 p.2.2.1 p.2.2.2 s
def zeS:Hints:=Hz [(0,NQ)] [] []
theorem z7d:LO Tryz.f274 NQ 0:=lk t17 rn zeS [] zf
theorem za2:xv Pz 274 ⟨[.any,.any,.any],⟨[Mm 0 (.sl u32),Mm 1 (.int .u64),Mi 2],[],[]⟩,[],⟨[.a u32],[(0,.cur 0 u32)],fu⟩,1,λx=>rH x.1 x.2.1 x.2.2⟩:=eo t17 rn zeS func274 [0] (qh rfl z7d zf)
def t18:=t17.s za2
def NR:q9:=Lz [] [Mm 2 u32,Mm 3 u32,Mm 4 u32] ⟨[Mm 12 (.int .u64),Mm 13 (.int .u64)],[],[]⟩ [⟨.exit 0,⟨[Mm 12 (.int .u64)],[],[]⟩⟩] λp s=>iD p.1 p.2.1 p.2.2 s
def zeT:Hints:=Hz [(0,NR)] [(0,3,.flat [Mb 42])] []
theorem z7e:LO Tryz.f275 NR 0:=lk t18 rn zeT [] zf
theorem zj6:q8 Pz 275 ⟨[.ty u32,.ty u32,.ty u32,.ty u32,.ty u32],[(.int .u64)],λx=>pc x.1 x.2.1 x.2.2.1 x.2.2.2.1 x.2.2.2.2⟩:=wo t18 rn zeT func275 [0] (qh rfl z7e zf)
def t19:=t18.d zj6
theorem zjO:q8 Pz 332 ⟨[.ty u32,.ty u32,.ty u32],[u32,u32],λx=>kS x.1 x.2.1 x.2.2⟩:=wo t19 rn hN func332 [] zf
def t20:=t19.d zjO
theorem zjP:q8 Pz 333 ⟨[.ty u32,.ty u32,.ty u32],[u32,u32],λx=>eF x.1 x.2.1 x.2.2⟩:=wo t20 rn hN func333 [] zf
def t21:=t20.d zjP
def NS:q9:=Lz [] [Mm 1 (.sl u32),Mm 2 (.int .u64),Mm 14 (.sl u32),Mi 15] ⟨[.s 0 (.sub 0 u32),Mm 7 (.int .u64),Mm 8 u32,Mi 16,.a u32],[],fu⟩ [⟨.exit 0,⟨[.s 0 (.sub 0 u32),Mm 7 (.int .u64),Mm 8 u32,.a u32],[],fu⟩⟩] λp s=>iE p.1 p.2.1 p.2.2.1 p.2.2.2 s
def NT:q9:=Lz [] [Mm 1 (.sl u32),Mm 62 (.sl u32),Mi 63] ⟨[.s 0 (.sub 0 u32),Mm 11 u32,Mi 64,.a u32],[],fu⟩ [⟨.exit 2,⟨[.s 0 (.sub 0 u32),Mm 11 u32,.a u32],[],fu⟩⟩] λp s=>iF p.1 p.2.1 p.2.2 s
def zbg:Hints:=Hz [(0,NS),(2,NT)] [] []
theorem z7f:LO Tryz.f276 NS 0:=lk t21 rn zbg [] zf
theorem z7g:LO Tryz.f276 NT 2:=lk t21 rn zbg [] zf
theorem zj7:xv Pz 276 ⟨[.sub,.any,.any],⟨[.s 0 (.sub 0 u32),Mm 1 (.sl u32),Mm 2 (.int .u64),.a u32],[],fu⟩,[],⟨[Mb 0,.a u32],[],fu⟩,1,λx=>sK x.1 x.2.1 x.2.2.1 x.2.2.2⟩:=eo t21 rn zbg func276 [0,2] (qh rfl z7f (qh rfl z7g zf))
def t22:=t21.s zj7
def B5:q9:=Lz [] [Mm 1 (.int .u64),Mi 2,Mm 13 (.sl u32),Mi 14] z3L [z4r] λp s=>nd p.1 p.2.1 p.2.2.1 p.2.2.2 s
def z0o:Hints:=Hz [(0,B5)] [] []
theorem Sd:LO Tryz.f274 B5 0:=lk t22 rn z0o [] zf
theorem P1:q8 Pz 274 ⟨[.ty (.sl u32),.ty (.int .u64),.ty i64],[(.sl u32)],λx=>Uh x.1 x.2.1 x.2.2⟩:=wo t22 rn z0o func274 [0] (qh rfl Sd zf)
def t23:=t22.d P1
def zdW:Tb:=t23.d P1
def NU:q9:=Lz [] [Mm 6 (.int .u64),Mm 38 (.sl u32),Mi 39] ⟨[Mi 40,.a u32],[(7,.cur 0 u32)],fu⟩ [z4r] λp s=>iB p.1 p.2.1 p.2.2 s
def zeU:Hints:=Hz [(0,NU)] [] [(17,[7]),(21,[12])]
theorem z7h:LO Tryz.f277 NU 0:=lk zdW rn zeU [] zf
theorem zj8:q8 Pz 277 ⟨[.ty (.sl u32),.ty i64],[(.sl u32)],λx=>ma x.1 x.2⟩:=wo zdW rn zeU func277 [0] (qh rfl z7h zf)
def t24:=t23.d zj8
def zdV:Tb:=t24.s za2
def Nx:q9:=Lz [] [Mm 6 (.int .u64),Mm 8 (.sl u32),Mi 9] ⟨[Mi 10,.a u32,.a u32],[(4,.cur 2 u32),(7,.cur 0 u32)],[.arr u32,.dead,.arr u32]⟩ [⟨.exit 0,⟨[.a u32,.a u32],[(4,.cur 2 u32),(7,.cur 0 u32)],[.arr u32,.dead,.arr u32]⟩⟩] λp s=>nf p.1 p.2.1 p.2.2 s
def zeE:Hints:=Hz [(0,Nx)] [(3,9,.ways [⟨.normal,⟨[Mm 11 (.int .u64),.a u32,.a u32],[(4,.cur 2 u32),(7,.cur 0 u32)],[.arr u32,.dead,.arr u32]⟩⟩])] [(5,[8]),(12,[4,7])]
theorem z6O:LO Tryz.f215 Nx 0:=lk zdV rn zeE [] zf
theorem zii:q8 Pz 215 ⟨[.ty (.sl u32),.ty (.sl u32)],[(.sl u32),(.sl u32)],λx=>Ui x.1 x.2⟩:=wo zdV rn zeE func215 [0] (qh rfl z6O zf)
def t25:=t24.d zii
theorem zhF:q8 Pz 163 ⟨[.ty (.sl u32),.ty (.sl u32)],[(.sl u32),(.sl u32),.bool],λx=>dt x.1 x.2⟩:=wo t25 rn hN func163 [] zf
def t26:=t25.d zhF
def Nk:q9:=Lz [] [] ⟨[Mm 0 (.sl u32),Mm 1 (.sl u32)],[],[]⟩ [⟨.exit 0,Ma⟩] λp s=>rG  s
def zev:Hints:=Hz [(0,Nk)] [] []
theorem z6D:LO Tryz.f162 Nk 0:=lk t26 rn zev [] zf
theorem zhE:q8 Pz 162 ⟨[.ty (.sl u32),.ty (.sl u32)],[(.sl u32)],λx=>XT x.1 x.2⟩:=wo t26 rn zev func162 [0] (qh rfl z6D zf)
def t27:=t26.d zhE
def zlV:Hints:=Hz [] [(0,1,.ways [⟨.normal,⟨[Mb 28],[],[]⟩⟩])] []
theorem zhf:q8 Pz 130 ⟨[.ty zl],[.bool],λx=>tq x⟩:=wo t27 (rz [1]) zlV func130 [] zf
def t28:=t27.d zhf
def h95:Hints:=Hz [] [(0,2,.flat [Mb 19])] []
theorem zoO:q8 Pz 95 ⟨[.ty .bool,.ty (.sl u32),.ty (.sl u32)],[zl],λx=>rM x.1 x.2.1 x.2.2⟩:=wo t28 rn h95 func95 [] zf
def t29:=t28.d zoO
theorem zo3:q8 Pz 41 ⟨[.ty zl],[zl],λx=>vD x⟩:=wo t29 (rz [1]) hN func41 [] zf
def t30:=t29.d zo3
def zlW:Hints:=Hz [] [(0,2,.flat [Mb 2])] []
theorem zhg:q8 Pz 131 ⟨[.ty zl],[.bool],λx=>cu x⟩:=wo t30 rn zlW func131 [] zf
def t31:=t30.d zhg
theorem zhe:q8 Pz 129 ⟨[.ty qf],[.bool],λx=>yM x⟩:=wo t31 (rz [1]) hN func129 [] zf
def t32:=t31.d zhe
def N1:q9:=Lz [] [Mm 0 (.sl qf),.s 1 (.wg 129 []),Mi 7] cR [kN,o9] λp s=>uY p.1 (λz0=>yM z0) p.2.2 s
def zem:Hints:=Hz [(0,N1)] [] []
theorem z6l:LO Tryz.f108 N1 0:=lk t32 rn zem [] zf
theorem zgX:q8 Pz 108 ⟨[.ty (.sl qf),.wg 129 []],[i64],λx=>vH x.1 (λz0=>yM z0)⟩:=wo t32 rn zem func108 [0] (qh rfl z6l zf)
def t33:=t32.d zgX
theorem zoI:q8 Pz 88 ⟨[.ty (.sl qf),.wg 129 []],[.bool],λx=>vO x.1 (λz0=>yM z0)⟩:=wo t33 rn hN func88 [] zf
def t34:=t33.d zoI
theorem zhj:q8 Pz 134 ⟨[.ty .str],[.bool],λx=>iU x⟩:=wo t34 rn hN func134 [] zf
def t35:=t34.d zhj
theorem zhi:q8 Pz 133 ⟨[.ty xp],[.bool],λx=>yN x⟩:=wo t35 (rz [1]) hN func133 [] zf
def t36:=t35.d zhi
def N3:q9:=Lz [] [Mm 0 (.sl xp),.s 1 (.wg 133 []),Mi 7] cR [kN,o9] λp s=>yf p.1 (λz0=>yN z0) p.2.2 s
def zeo:Hints:=Hz [(0,N3)] [] []
theorem z6n:LO Tryz.f112 N3 0:=lk t36 rn zeo [] zf
theorem zh1:q8 Pz 112 ⟨[.ty (.sl xp),.wg 133 []],[i64],λx=>uU x.1 (λz0=>yN z0)⟩:=wo t36 rn zeo func112 [0] (qh rfl z6n zf)
def t37:=t36.d zh1
theorem zhh:q8 Pz 132 ⟨[.ty (.sl xp),.wg 133 []],[.bool],λx=>yc x.1 (λz0=>yN z0)⟩:=wo t37 rn hN func132 [] zf
def t38:=t37.d zhh
theorem zow:q8 Pz 76 ⟨[.ty qy],[.bool],λx=>sX x⟩:=wo t38 (rz [1]) hN func76 [] zf
def t39:=t38.d zow
def zlX:Hints:=Hz [] [(0,1,.flat [Mb 6])] []
theorem zhk:q8 Pz 135 ⟨[.ty i64,.ty i64,.ty i64],[.bool],λx=>iT x.1 x.2.1 x.2.2⟩:=wo t39 rn zlX func135 [] zf
def t40:=t39.d zhk
def z1L:q9:=Lz [] [Mr 1 qy,Mm 7 (.sl qu),Mi 8] z4j [kN,PX] λp s=>nW p.1 p.2.1 p.2.2 s
def h77:Hints:=Hz [(0,z1L)] [(0,5,.ways [⟨.normal,⟨[Mb 36,.v (.qi qu)],[],[.var (.qi qu)]⟩⟩])] []
theorem zcm:LO Tryz.f77 z1L 0:=lk t40 (rz [1]) h77 [] zf
theorem zox:q8 Pz 77 ⟨[.ty qy],[.bool],λx=>oP x⟩:=wo t40 (rz [1]) h77 func77 [0] (qh rfl zcm zf)
def t41:=t40.d zox
theorem zhl:q8 Pz 136 ⟨[],[(.sl .str)],λ_=>bz⟩:=wo t41 rn hN func136 [] zf
def t42:=t41.d zhl
def zmk:Hints:=Hz [] [(3,2,.flat [Mb 4])] []
theorem zjA:q8 Pz 310 ⟨[.ty i64],[i64],λx=>XM x⟩:=wo t42 rn zmk func310 [] zf
def t43:=t42.d zjA
def Od:q9:=Lz [] [Mm 1 (.sl u32),Mi 6,Mm 7 u32,Mm 21 (.sl u32),Mi 22,Mi 23,Mm 28 (.sl u32),Mi 29] ⟨[Mm 8 (.int .u64),Mi 30,.a u32],[(5,.cur 0 u32)],fu⟩ [⟨.exit 2,⟨[Mm 8 (.int .u64),.a u32],[(5,.cur 0 u32)],fu⟩⟩] λp s=>V8 p.1 p.2.1 p.2.2.1 p.2.2.2.1 p.2.2.2.2.1 p.2.2.2.2.2.1 p.2.2.2.2.2.2.1 p.2.2.2.2.2.2.2 s
def Oc:q9:=Lz [] [Mm 1 (.sl u32),Mm 21 (.sl u32),Mi 22] ⟨[Mi 23,.a u32],[(5,.cur 0 u32)],fu⟩ [⟨.exit 0,⟨[.a u32],[(5,.cur 0 u32)],fu⟩⟩] λp s=>V7 p.1 p.2.1 p.2.2 s
def zbi:Hints:=Hz [(2,Od),(0,Oc)] [] [(16,[5])]
theorem z7A:LO Tryz.f330 Od 2:=lk t43 rn zbi [] zf
theorem z7z:LO Tryz.f330 Oc 0:=lk t43 rn zbi [2] (qh rfl z7A zf)
theorem zjM:q8 Pz 330 ⟨[.ty (.sl u32),.ty (.sl u32)],[(.sl u32)],λx=>ir x.1 x.2⟩:=wo t43 rn zbi func330 [0] (qh rfl z7z zf)
def t44:=t43.d zjM
def NP:q9:=Lz [] [Mi 5] ⟨[Mm 3 (.sl u32),Mi 6],[],[]⟩ [⟨.exit 0,⟨[Mm 3 (.sl u32)],[],[]⟩⟩] λp s=>WR p s
def zeR:Hints:=Hz [(0,NP)] [] []
theorem z7c:LO Tryz.f272 NP 0:=lk t44 rn zeR [] zf
theorem zj4:q8 Pz 272 ⟨[.ty i64],[(.sl u32)],λx=>VK x⟩:=wo t44 rn zeR func272 [0] (qh rfl z7c zf)
def t45:=t44.d zj4
theorem zh9:q8 Pz 124 ⟨[.ty zl],[.str],λx=>QM x⟩:=wo t45 (rz [1]) hN func124 [] zf
def t46:=t45.d zh9
def Nu:q9:=Lz [] [] ⟨[.s 0 (.sub 0 (.int .u8)),Mi 2,Mi 3,.a (.int .u8)],[],GA⟩ [⟨.exit 0,z4b⟩] λp s=>ja  s
def zeC:Hints:=Hz [(0,Nu)] [] []
theorem z6M:LO Tryz.f195 Nu 0:=lk t46 rn zeC [] zf
theorem zi2:xv Pz 195 ⟨[.sub],⟨[.s 0 (.sub 0 (.int .u8)),.a (.int .u8)],[],GA⟩,[],z4b,0,λx=>kh x.1 x.2⟩:=eo t46 rn zeC func195 [0] (qh rfl z6M zf)
def t47:=t46.s zi2
def Na:q9:=Lz [] [Mm 4 (.sl u32)] ⟨[Mm 5 u32,Mi 19,.a (.int .u8)],[(3,.cur 0 (.int .u8))],GA⟩ [⟨.exit 2,z3U⟩] λp s=>iw p s
def N9:q9:=Lz [.slot 3 (.int .u8)] [] ⟨[Mm 0 (.sl u32),.a (.int .u8)],[(3,.cur 0 (.int .u8))],GA⟩ [⟨.exit 0,z3U⟩] λp s=>iv  s
def Nb:q9:=Lz [] [] z3T [⟨.exit 4,z3T⟩] λp s=>iA  s
def z5v:Hints:=Hz [(2,Na),(0,N9),(4,Nb)] [(0,13,.flat [Mb 42])] []
theorem z6u:LO Tryz.f125 Na 2:=lk t47 rn z5v [] zf
theorem z6t:LO Tryz.f125 N9 0:=lk t47 rn z5v [2] (qh rfl z6u zf)
theorem z6v:LO Tryz.f125 Nb 4:=lk t47 rn z5v [] zf
theorem zha:q8 Pz 125 ⟨[.ty (.sl u32)],[.str],λx=>lZ x⟩:=wo t47 rn z5v func125 [0,4] (qh rfl z6t (qh rfl z6v zf))
def t48:=t47.d zha
theorem zko:q8 Tryz.prog 378 ⟨[.ty .str,.ty i64],[.str],λx=>strings_Repeat x.1 x.2⟩:=by
 refine jA Tryz.func378 (by kernel_rfl) rfl λO x xb y hy B ha => ?_
 obtain⟨s,n⟩:=x
 obtain⟨⟨h0,h1,M⟩,hy⟩:=hy
 cases hy
 obtain⟨v0,r,rfl,Kt,ha⟩:=wN.cons_inv (show wN O [.qi .str s,.qi i64 n] xb from ha)
 obtain⟨v1,r,rfl,IK,ha⟩:=ha.cons_inv
 rw[ha.wb,Kt.jb,IK.dJ]
 obtain⟨m,rfl⟩:=Int.eq_ofNat_of_zero_le h0
 refine(Go.Proofs.Tryz.strings_Repeat ⟨s.toArray⟩ m O.w (by simp only at h1; omega) (by rw[show(zF ⟨s.toArray⟩)=zH s from Y]; simpa using M)).mono ?_
 rintro e w' ⟨rfl,hB⟩
 refine⟨hB,λ_=>⟨_,rfl,?_⟩⟩
 have e1:Lib.repeatL s m=CY s m:=Pg s m
 have e2:(Int.toNat (m:Int))=m:=by omega
 show RD _ (.qi .str (CY s (Int.toNat (m:Int)))) _
 rw[e2,<- e1]
 exact RD.str
def t49:=t48.d zko
theorem zk7:q8 Pz 353 ⟨[.ty .str,.ty i64],[.str],λx=>sx x.1 x.2⟩:=wo t49 rn hN func353 [] zf
def t50:=t49.d zk7
def Oa:q9:=Lz [] [] ⟨[Mi 10,.v (.qi zl)],[(1,.ptr 0 0)],M7⟩ [⟨.exit 0,⟨[.v (.qi zl)],[],M7⟩⟩,⟨.ret,⟨[Ms 2,Mb 3,.v (.qi zl)],[],M7⟩⟩] λp s=>Zn  s
def zf5:Hints:=Hz [(0,Oa)] [] []
theorem z7x:LO Tryz.f313 Oa 0:=lk t50 rn zf5 [] zf
theorem zjD:q8 Pz 313 ⟨[.ty zl],[.str,.bool],λx=>tI x⟩:=wo t50 rn zf5 func313 [0] (qh rfl z7x zf)
def t51:=t50.d zjD
def zml:Hints:=Hz [] [(0,1,.ways [⟨.normal,⟨[Mb 15],[],[]⟩⟩])] []
theorem zjB:q8 Pz 311 ⟨[.ty zl],[.bool],λx=>ZC x⟩:=wo t51 (rz [1]) zml func311 [] zf
def t52:=t51.d zjB
theorem zjC:q8 Pz 312 ⟨[.ty zl],[.bool],λx=>mU x⟩:=wo t52 (rz [1]) hN func312 [] zf
def t53:=t52.d zjC
theorem ziV:q8 Pz 258 ⟨[.ty .expr],[.bool],λx=>mT x⟩:=wo t53 (rz [1]) hN func258 [] zf
def t54:=t53.d ziV
abbrev GN:=um.den PO->T (um.den PU)
abbrev R3(F:GN):=xv Pz 199 ⟨Df,PO,[],PU,1,F⟩
theorem ziW(yx:GN)(sG:R3 yx):xv Pz 259 ⟨Df,⟨[Mm 0 .expr,Mr 1 i64,.v (.qi i64)],[(2,.ptr 0 0)],[.cvar (.ptr 1 0),.var (.qi i64)]⟩,[],z3E,1,λx=>mE (λy0 y1 y2=>yx (y0,y1,y2)) x.1 x.2.1 x.2.2⟩:=eo (t54.s sG) (rz [3]) hN func259 [] zf
def zdU(yx:GN)(sG:R3 yx):Tb:=t54.s (ziW _ sG)
def Nj(yx:GN):q9:=Lz [] [Mm 0 (.sl .expr),Mi 7] ⟨[.s 1 (.mclo 259 [.rp i64,.pt 0]),Mi 8,.v (.qi i64)],[],[.cvar (.ptr 1 0),.var (.qi i64)]⟩ [⟨.exit 0,⟨[.v (.qi i64)],[],[.cvar (.ptr 1 0),.var (.qi i64)]⟩⟩,⟨.ret,⟨[Mi 4,.v (.qi i64)],[],[.cvar (.ptr 1 0),.var (.qi i64)]⟩⟩] λp s=>wT (λy0 y1 y2=>yx (y0,y1,y2)) p.1 p.2 s
def zeu(yx:GN):Hints:=Hz [(0,Nj yx)] [] []
theorem z6C(yx:GN)(sG:R3 yx):LO Tryz.f151 (Nj yx) 0:=lk (zdU yx sG) rn (zeu yx) [] zf
theorem zhz(yx:GN)(sG:R3 yx):xv Pz 151 ⟨[.any,.wg 259],zah,[],⟨[Mi 0,.v (.qi i64)],[],[.cvar (.ptr 1 0),.var (.qi i64)]⟩,1,λx=>vj (λy0 y1 y2=>yx (y0,y1,y2)) x.1 x.2.1 x.2.2⟩:=eo (zdU yx sG) rn (zeu yx) func151 [0] (qh rfl (z6C yx sG) zf)
theorem zoL(yx:GN)(sG:R3 yx):xv Pz 91 ⟨[.any,.wg 259],zah,[],z3E,1,λx=>wS (λy0 y1 y2=>yx (y0,y1,y2)) x.1 x.2.1 x.2.2⟩:=eo (t54.s (zhz _ sG)) rn hN func91 [] zf
def zm4(yx:GN):Hints:=Hz [] [(0,2,.ways [⟨.normal,⟨[Mb 24,.v (.qi i64)],[],[.var (.qi i64),.cvar (.ptr 0 0)]⟩⟩])] []
theorem z8e(yx:GN)(sG:R3 yx):xv Pz 199 ⟨Df,PO,[],PU,1,λx=>ic (λy0 y1 y2=>yx (y0,y1,y2)) x.1 x.2.1 x.2.2⟩:=eo (t54.s (zoL _ sG)) (rz [3,4]) (zm4 yx) func199 [] zf
theorem zi6:xv Pz 199 ⟨Df,PO,[],PU,1,λx=>ZE x.1 x.2.1 x.2.2⟩:=Ks (λyx x=>ic (λy0 y1 y2=>yx (y0,y1,y2)) x.1 x.2.1 x.2.2) (λx=>rfl) (λyx sG=>z8e yx sG)
def t55:=t54.s zi6
theorem zhm:q8 Pz 137 ⟨[.ty .expr],[.bool],λx=>fZ x⟩:=wo t55 (rz [1]) hN func137 [] zf
def t56:=t55.d zhm
theorem zhq:q8 Pz 140 ⟨[],[(.sl .str)],λ_=>kU⟩:=wo t56 rn hN func140 [] zf
def t57:=t56.d zhq
theorem zho:q8 Pz 139 ⟨[.ty xl],[.bool],λx=>kT x⟩:=wo t57 (rz [1]) hN func139 [] zf
def t58:=t57.d zho
def Nv:q9:=Lz [] [Mm 0 (.sl xl),.s 1 (.wg 139 []),Mi 7] cR [kN,o9] λp s=>cP p.1 (λz0=>kT z0) p.2.2 s
def zeD:Hints:=Hz [(0,Nv)] [] []
theorem z6N:LO Tryz.f200 Nv 0:=lk t58 rn zeD [] zf
theorem zi7:q8 Pz 200 ⟨[.ty (.sl xl),.wg 139 []],[i64],λx=>gU x.1 (λz0=>kT z0)⟩:=wo t58 rn zeD func200 [0] (qh rfl z6N zf)
def t59:=t58.d zi7
theorem zhn:q8 Pz 138 ⟨[.ty (.sl xl),.wg 139 []],[.bool],λx=>yd x.1 (λz0=>kT z0)⟩:=wo t59 rn hN func138 [] zf
def t60:=t59.d zhn
def z1M:q9:=Lz [] [Mr 1 qy,Mm 7 (.sl xj),Mi 8] z4j [kN,PX] λp s=>nU p.1 p.2.1 p.2.2 s
def h78:Hints:=Hz [(0,z1M)] [(0,5,.ways [⟨.normal,⟨[Mb 50,.v (.qi xj)],[],[.var (.qi xj)]⟩⟩])] []
theorem zcn:LO Tryz.f78 z1M 0:=lk t60 (rz [1]) h78 [] zf
theorem zoy:q8 Pz 78 ⟨[.ty qy],[.bool],λx=>oO x⟩:=wo t60 (rz [1]) h78 func78 [0] (qh rfl zcn zf)
def t61:=t60.d zoy
end Go.AM.Lf
namespace Go.Proofs
section
open Go.RowKit
attribute [local go_sem] zN
set_option maxRecDepth 100000
set_option maxHeartbeats 2000000
theorem QA.size:(Tryz.prog.info? 210).map (·.size)=some 2:=by kernel_rfl
theorem QA.pt:Tryz.prog.underlying 207=some (.pointer 210):=by kernel_rfl
theorem QA.up:Tryz.prog.underlying 336=some .unsafePointer:=by kernel_rfl
theorem QA.used(b:Nat)(w:World)(h0:w.cell? ⟨b,0,none⟩=some (.pointer (some ⟨b,0,none⟩))) :
  Calls Tryz.prog 201 #[.pointer (some ⟨b,0,none⟩)] w λe w'=>e=.returned (.tuple #[])/\w'=w:=by
 obtain⟨j,hj,hjs⟩:=qG.1 QA.size
 go_enter Tryz.func201,Tryz.ntmps201
 go_wp2
 rw[Lib.run_neq_ptr_same w _ QA.pt hj]
 go_wp2
 go_end0
 exact⟨rfl,rfl⟩
theorem QA.fresh(b:Nat)(w:World)(h0:w.cell? ⟨b,0,none⟩=some (.pointer none))(hsh:w.shape? b=some (210,2))(hfz:w.frozen? ⟨b,0,none⟩=false) :
  Calls Tryz.prog 201 #[.pointer (some ⟨b,0,none⟩)] w λe w'=>e=.returned (.tuple #[])/\w'=w.setCell ⟨b,0,none⟩ (.pointer (some ⟨b,0,none⟩)):=by
 obtain⟨j,hj,hjs⟩:=qG.1 QA.size
 go_enter Tryz.func201,Tryz.ntmps201
 go_wp2
 rw[Lib.run_to_unsafe w ⟨b,0,none⟩ QA.pt QA.up hj (by rw[hjs]; decide) hsh (Nat.zero_lt_succ 1)]
 simp only[qL]
 rw[qH]
 go_wp2
 rw[run_callFunc_extern Tryz.func260 (by kernel_rfl) (by kernel_rfl) (by kernel_rfl) (e:=Extern.AbiNoEscape.same) (by kernel_rfl)]
 rw[Lib.run_noEscape]
 simp only[qL]
 rw[qH]
 go_wp2
 rw[Lib.run_from_unsafe w ⟨b,0,none⟩ QA.up QA.pt hj hsh (by kernel_rfl)]
 simp only[qL]
 rw[qH]
 go_wp2
 go_end0
 exact⟨rfl,rfl⟩
end
end Go.Proofs

namespace Go.AM.Lf
open Go.Proofs Go.Proofs.Tryz
theorem zi8:xv Tryz.prog 201 ⟨[.ptr],z3V,[],GB,0,λx=>tf x.1 x.2⟩:=C6 (P:=Tryz.prog) (g:=201) (t:=210) (enters_of Tryz.func201 (by kernel_rfl) rfl) QA.used QA.fresh
def t62:=t61.s zi8
theorem zhr:xv Pz 141 ⟨lA,⟨[Ms 1,.v Jp,.a (.int .u8)],[(0,.ptr 0 0)],Qs⟩,[.pcell 0 1 (.int .u8)],⟨[Mi 0,.v Jp,.a (.int .u8)],[(1,.v8)],Qs⟩,2,λx=>xo x.1 x.2.1 x.2.2⟩:=eo t62 rn hN func141 [] zf
def t63:=t62.s zhr
theorem zoq:q8 Pz 70 ⟨[.ty zl],[.str],λx=>gp x⟩:=wo t63 rn hN func70 [] zf
def t64:=t63.d zoq
theorem zht:q8 Pz 143 ⟨[.ty .str],[.str],λx=>s6 x⟩:=wo t64 rn hN func143 [] zf
def t65:=t64.d zht
theorem zon:q8 Tryz.prog 67 ⟨[.ty i64],[.str],λx=>strconv_Itoa x⟩:=by
 refine jA Tryz.func67 (by kernel_rfl) rfl λO n xb y hy B ha => ?_
 obtain⟨⟨h0,h1⟩,hy⟩:=hy
 cases hy
 obtain⟨v0,r,rfl,Kt,ha⟩:=wN.cons_inv (show wN O [.qi i64 n] xb from ha)
 rw[ha.wb,Kt.dJ]
 refine(Go.Proofs.Tryz.strconv_Itoa n h0 h1 O.w (fy B)).mono ?_
 rintro e w' ⟨rfl,k,os,rfl⟩
 refine⟨Ie _ _ _,λ_=>⟨_,rfl,?_⟩⟩
 have e1:Lib.itoa n=Yr n:=z14 n
 show RD _ (.qi .str (Yr n)) _
 rw[<- e1]
 exact RD.str
def t66:=t65.d zon
def zm5:Hints:=Hz [] [(3,2,.flat [Ms 3])] []
theorem zi9:q8 Pz 202 ⟨[.ty qu],[.str],λx=>sW x⟩:=wo t66 (rz [1]) zm5 func202 [] zf
def t67:=t66.d zi9
def zmm:Hints:=Hz [] [(3,2,.flat [Mb 5]),(3,5,.flat [Mb 8])] []
theorem zjF:q8 Pz 315 ⟨[.ty .expr],[i64],λx=>lS x⟩:=wo t67 (rz [1]) zmm func315 [] zf
def t68:=t67.d zjF
abbrev z4X:=dQ [.ty .expr]->T (Dl [.str])
abbrev zdM(F:z4X):=q8 Pz 261 ⟨[.ty .expr],[.str],F⟩
theorem zjE(QB:z4X)(Er:zdM QB):q8 Pz 314 ⟨[.ty .expr,.ty i64],[.str],λx=>dm (λy0=>QB (y0)) x.1 x.2⟩:=wo (t68.d Er) (rz [2]) hN func314 [] zf
def zmf(QB:z4X):Hints:=Hz [] [(3,2,.ways [⟨.normal,⟨[Ms 3],[],[]⟩⟩,⟨.ret,⟨[Ms 2],[],[]⟩⟩])] []
theorem z8h(QB:z4X)(Er:zdM QB):q8 Pz 261 ⟨[.ty .expr],[.str],λx=>gF (λy0=>QB (y0)) x⟩:=wo (t68.d (zjE _ Er)) (rz [1]) (zmf QB) func261 [] zf
theorem ziX:q8 Pz 261 ⟨[.ty .expr],[.str],λx=>ZF x⟩:=Yf (λQB x=>gF (λy0=>QB (y0)) x) (λx=>rfl) (λQB Er=>z8h QB Er)
def t69:=t68.d ziX
theorem zia:q8 Pz 203 ⟨[.ty .expr],[.str],λx=>r8 x⟩:=wo t69 (rz [1]) hN func203 [] zf
def t70:=t69.d zia
theorem zhu:q8 Pz 144 ⟨[.ty .expr,.ty .str,.ty .expr],[.str],λx=>nt x.1 x.2.1 x.2.2⟩:=wo t70 (rz [3,5]) hN func144 [] zf
def t71:=t70.d zhu
def Nf:q9:=Lz [] [Mi 2,Mr 4 qy,Mm 29 (.sl qu),Mi 30] ⟨[Mi 31,.v Jp,.a (.int .u8)],[(0,.ptr 0 0)],Qs⟩ [Md] λp s=>nZ p.1 p.2.1 p.2.2.1 p.2.2.2 s
def Ng:q9:=Lz [] [Mi 2,Mm 45 (.sl xj),Mi 46] ⟨[Mi 47,.v Jp,.a (.int .u8)],[(0,.ptr 0 0)],Qs⟩ [⟨.exit 2,GB⟩] λp s=>o0 p.1 p.2.1 p.2.2 s
def zb8:Hints:=Hz [(0,Nf),(2,Ng)] [] []
theorem z6y:LO Tryz.f142 Nf 0:=lk t71 (rz [4]) zb8 [] zf
theorem z6z:LO Tryz.f142 Ng 2:=lk t71 (rz [4]) zb8 [] zf
theorem zhs:xv Pz 142 ⟨Qd,⟨[Mm 1 qy,Mi 2,.v Jp,.a (.int .u8)],[(0,.ptr 0 0)],Qs⟩,[.pcell 0 1 (.int .u8)],GB,0,λx=>oQ x.1 x.2.1 x.2.2.1 x.2.2.2⟩:=eo t71 (rz [4]) zb8 func142 [0,2] (qh rfl z6y (qh rfl z6z zf))
def t72:=t71.s zhs
end Go.AM.Lf
namespace Go.Proofs
section
open Go.RowKit
attribute [local go_sem] zN
set_option maxRecDepth 100000
set_option maxHeartbeats 2000000
theorem QA.mixed:Tryz.prog.follows .mixedOrders=true:=by kernel_rfl
theorem QA.pb:Tryz.prog.underlying 278=some (.pointer 5):=by kernel_rfl
theorem QA.c5:Tryz.prog.cellsOf 5=1:=by kernel_rfl
theorem QA.z2i(zk:World)(q:Option Addr):(qI #[278,3] 9 #[.pointer q,.int .i64 0]).run Tryz.prog zk=.ok (.string .empty) zk:=Lib.run_unsafeString_none zk _ _ _ q
theorem QA.nil(b:Nat)(p:Value)(w:World)(hbk:w.heap[b]? = some (.cells #[p,.slice none 0 0] 210 (0,0))) :
  Calls Tryz.prog 145 #[.pointer (some ⟨b,0,none⟩)] w λe w'=>e=.returned (.string ⟨#[]⟩)/\w'=w.drew:=by
 have hUS:=QA.z2i
 have c1:w.drew.cell? ⟨b,1,none⟩=some (.slice none 0 0):=by
  have:w.drew.heap[b]? = some (.cells #[p,.slice none 0 0] 210 (0,0)):=hbk
  rw[zQ this]; rfl
 have hSD:(zJ #[208] 278 #[.slice none 0 0]).run Tryz.prog w.drew=.ok (.pointer none) w.drew:=rfl
 have mixed:Tryz.prog.follows .mixedOrders=true:=QA.mixed
 go_enter Tryz.func145,Tryz.ntmps145
 go_wp2
 go_region_o
 all_goals (go_wp2; go_ret; exact⟨rfl,rfl⟩)
theorem QA.room(b g o cap:Nat)(p:Value)(w:World)(hc0:cap≠0)(hbk:w.heap[b]? = some (.cells #[p,.slice (some ⟨g,o,none⟩) 0 cap] 210 (0,0))) :
  Calls Tryz.prog 145 #[.pointer (some ⟨b,0,none⟩)] w λe w'=>e=.returned (.string ⟨#[]⟩)/\w'=w.drew:=by
 have hUS:=QA.z2i
 have c1:w.drew.cell? ⟨b,1,none⟩=some (.slice (some ⟨g,o,none⟩) 0 cap):=by
  have:w.drew.heap[b]? = some (.cells #[p,.slice (some ⟨g,o,none⟩) 0 cap] 210 (0,0)):=hbk
  rw[zQ this]; rfl
 have hSD:(zJ #[208] 278 #[.slice (some ⟨g,o,none⟩) 0 cap]).run Tryz.prog w.drew=.ok (.pointer (some ⟨g,o,none⟩)) w.drew :=
  qB _ _ _ _ _ _ hc0
 clear hc0
 have mixed:Tryz.prog.follows .mixedOrders=true:=QA.mixed
 go_enter Tryz.func145,Tryz.ntmps145
 go_wp2
 go_region_o
 all_goals (go_wp2; go_ret; exact⟨rfl,rfl⟩)
theorem QA.full(b g cap:Nat)(p:Value)(cur:Array Value)(l:List UInt8)(w:World)(h0:l≠[])(jf:l.length<=cap)(hmax:l.length<=140737488355328)(hbk:w.heap[b]? = some (.cells #[p,.slice (some ⟨g,0,none⟩) l.length cap] 210 (0,0)))
  (hg:w.heap[g]? = some (.cells cur 5 (0,0))) (zbq:l.length<=cur.size) (ep:∀ j x,l[j]? = some x->w.cell? ⟨g,j,none⟩=some (.int .u8 x.toNat)) :
  Calls Tryz.prog 145 #[.pointer (some ⟨b,0,none⟩)] w λe w'=>e=.returned (.string ⟨l.toArray⟩)/\w'=w.drew.freeze ⟨g,0,none⟩ l.length:=by
 have hl0:l.length≠0:=by simpa using h0
 have c1:w.drew.cell? ⟨b,1,none⟩=some (.slice (some ⟨g,0,none⟩) l.length cap):=by
  have:w.drew.heap[b]? = some (.cells #[p,.slice (some ⟨g,0,none⟩) l.length cap] 210 (0,0)):=hbk
  rw[zQ this]; rfl
 have hSD:(zJ #[208] 278 #[.slice (some ⟨g,0,none⟩) l.length cap]).run Tryz.prog w.drew=.ok (.pointer (some ⟨g,0,none⟩)) w.drew :=
  qB _ _ _ _ _ _ (by omega)
 have hUS:(qI #[278,3] 9 #[.pointer (some ⟨g,0,none⟩),.int .i64 l.length]).run Tryz.prog w.drew=.ok (.string ⟨l.toArray⟩) (w.drew.freeze ⟨g,0,none⟩ l.length):=by
  refine Lib.run_unsafeString_row w.drew 278 3 9 5 QA.pb QA.c5 g cur.size (by have hg':w.drew.heap[g]? = some (.cells cur 5 (0,0)):=hg; simp[World.shape?,hg']) l h0 (by omega) (by omega) ?_
  intro j x N
  have e:(⟨g,0,none⟩:Addr).add j=⟨g,j,none⟩:=by unfold Addr.add; split<;>simp_all
  rw[e]
  exact ep j x N
 have mixed:Tryz.prog.follows .mixedOrders=true:=QA.mixed
 go_enter Tryz.func145,Tryz.ntmps145
 go_wp2
 go_region_o
 all_goals (go_wp2; go_ret; exact⟨rfl,rfl⟩)
theorem QA.zcD(b g o:Nat)(p:Value)(cur:Array Value)(w:World)(hbk:w.heap[b]? = some (.cells #[p,.slice (some ⟨g,o,none⟩) 0 0] 210 (0,0)))(hg:w.heap[g]? = some (.cells cur 5 (0,0))) :
  Calls Tryz.prog 145 #[.pointer (some ⟨b,0,none⟩)] w λe w'=>e=.returned (.string ⟨#[]⟩)/\w'=w.drew.alloc (.view ⟨g,o,none⟩ 5):=by
 have hUS:=QA.z2i
 have wL:b<w.heap.size:=by
  rcases Nat.lt_or_ge b w.heap.size with h' | h'
  ·exact h'
  ·simp[Array.getElem?_eq_none h']at hbk
 have c1:w.drew.cell? ⟨b,1,none⟩=some (.slice (some ⟨g,o,none⟩) 0 0):=by
  have:w.drew.heap[b]? = some (.cells #[p,.slice (some ⟨g,o,none⟩) 0 0] 210 (0,0)):=hbk
  rw[zQ this]; rfl
 have hSD:(zJ #[208] 278 #[.slice (some ⟨g,o,none⟩) 0 0]).run Tryz.prog w.drew=.ok (.pointer (some ⟨w.drew.heap.size,0,none⟩)) (w.drew.alloc (.view ⟨g,o,none⟩ 5)) :=
  Lib.run_unsafeSliceData_zero w.drew _ _ 5 QA.pb ⟨g,o,none⟩ 0 (5,cur.size) (by have hg':w.drew.heap[g]? = some (.cells cur 5 (0,0)):=hg; simp[World.shape?,hg'])
 have c2:(w.drew.alloc (.view ⟨g,o,none⟩ 5)).cell? ⟨b,1,none⟩=some (.slice (some ⟨g,o,none⟩) 0 0):=by
  have:(w.drew.alloc (.view ⟨g,o,none⟩ 5)).heap[b]? = _:=(Lib.alloc_old w.drew _ b wL).trans hbk
  rw[zQ this]; rfl
 have c3:(w.alloc (.view ⟨g,o,none⟩ 5)).drew.cell? ⟨b,1,none⟩=some (.slice (some ⟨g,o,none⟩) 0 0):=c2
 have c0:w.cell? ⟨b,1,none⟩=some (.slice (some ⟨g,o,none⟩) 0 0):=c1
 have mixed:Tryz.prog.follows .mixedOrders=true:=QA.mixed
 go_enter Tryz.func145,Tryz.ntmps145
 go_wp2
 go_region_o
 all_goals (go_wp2; go_ret; exact⟨rfl,rfl⟩)
end
end Go.Proofs

namespace Go.AM.Lf
open Go.Proofs Go.Proofs.Tryz
theorem zhv:xv Tryz.prog 145 ⟨[.ptr],z3V,[],⟨[Ms 0,.v (.st [.op 0 210,.un])],[],[.var (.st [.op 0 210,.un]),.dead]⟩,1,λx=>pA x.1 x.2⟩:=SN (P:=Tryz.prog) (g:=145) (t:=210) (enters_of Tryz.func145 (by kernel_rfl) rfl) QA.nil QA.room QA.full QA.zcD
def t73:=t72.s zhv
def z1N:q9:=Lz [.cell 0 1 (.int .u8)] [Mr 1 qy,Mm 13 (.sl qq),Mi 14] ⟨[Mi 15,.v Jp,.a (.int .u8)],[(3,.ptr 0 0)],Qs⟩ [Md] λp s=>rW p.1 p.2.1 p.2.2 s
def z1O:q9:=Lz [] [Mr 1 qy,Mm 29 (.sl qf),Mi 30] ⟨[Mi 31,.v Jp,.a (.int .u8)],[(3,.ptr 0 0)],Qs⟩ [⟨.exit 2,GB⟩] λp s=>rX p.1 p.2.1 p.2.2 s
def z1P:q9:=Lz [] [Mr 1 qy,Mi 48] ⟨[Mi 49,.v Jp,.a (.int .u8)],[(3,.ptr 0 0)],Qs⟩ [⟨.exit 4,GB⟩] λp s=>rY p.1 p.2 s
def z1Q:q9:=Lz [] [Mm 57 (.sl xl),Mi 58] ⟨[Mi 59,.v Jp,.a (.int .u8)],[(3,.ptr 0 0)],Qs⟩ [⟨.exit 6,GB⟩] λp s=>rZ p.1 p.2 s
def h79:Hints:=Hz [(0,z1N),(2,z1O),(4,z1P),(6,z1Q)] [(3,6,.flat [Ms 6])] []
theorem zco:LO Tryz.f79 z1N 0:=lk t73 (rz [1]) h79 [] zf
theorem zcp:LO Tryz.f79 z1O 2:=lk t73 (rz [1]) h79 [] zf
theorem zcq:LO Tryz.f79 z1P 4:=lk t73 (rz [1]) h79 [] zf
theorem zcr:LO Tryz.f79 z1Q 6:=lk t73 (rz [1]) h79 [] zf
theorem zoz:q8 Pz 79 ⟨[.ty qy],[.str],λx=>nq x⟩:=wo t73 (rz [1]) h79 func79 [0,2,4,6] (qh rfl zco (qh rfl zcp (qh rfl zcq (qh rfl zcr zf))))
def t74:=t73.d zoz
theorem znV:q8 Pz 33 ⟨[.ty qy],[.bool],λx=>Z6 x⟩:=wo t74 (rz [1]) hN func33 [] zf
def t75:=t74.d znV
def z1u:q9:=Lz [.slot 3 .str] [Mr 1 qy,Mm 17 (.sl qq),Mi 18] ⟨[Mi 19,.a .str],[(3,.cur 0 .str)],ny⟩ [⟨.exit 0,GC⟩] λp s=>pL p.1 p.2.1 p.2.2 s
def z1v:q9:=Lz [] [Mr 1 qy,Mm 30 (.sl qf),Mi 31] ⟨[Mi 32,.a .str],[(3,.cur 0 .str)],ny⟩ [⟨.exit 2,GC⟩] λp s=>pM p.1 p.2.1 p.2.2 s
def z1w:q9:=Lz [] [Mr 1 qy,Mm 43 (.sl xp),Mi 44] ⟨[Mi 45,.a .str],[(3,.cur 0 .str)],ny⟩ [⟨.exit 4,GC⟩] λp s=>pN p.1 p.2.1 p.2.2 s
def z1x:q9:=Lz [] [Mr 1 qy,Mm 56 (.sl qu),Mi 57] ⟨[Mi 58,.a .str],[(3,.cur 0 .str)],ny⟩ [⟨.exit 6,GC⟩] λp s=>pO p.1 p.2.1 p.2.2 s
def z1y:q9:=Lz [] [Mr 1 qy,Mm 69 (.sl xl),Mi 70] ⟨[Mi 71,.a .str],[(3,.cur 0 .str)],ny⟩ [⟨.exit 8,GC⟩] λp s=>pP p.1 p.2.1 p.2.2 s
def Oj:q9:=Lz [] [Mm 82 (.sl xj),Mi 83] ⟨[Mi 84,.a .str],[(3,.cur 0 .str)],ny⟩ [⟨.exit 10,GC⟩] λp s=>pQ p.1 p.2 s
def h35:Hints:=Hz [(0,z1u),(2,z1v),(4,z1w),(6,z1x),(8,z1y),(10,Oj)] [] []
theorem zc5:LO Tryz.f35 z1u 0:=lk t75 (rz [1]) h35 [] zf
theorem zc6:LO Tryz.f35 z1v 2:=lk t75 (rz [1]) h35 [] zf
theorem zc7:LO Tryz.f35 z1w 4:=lk t75 (rz [1]) h35 [] zf
theorem zc8:LO Tryz.f35 z1x 6:=lk t75 (rz [1]) h35 [] zf
theorem zc9:LO Tryz.f35 z1y 8:=lk t75 (rz [1]) h35 [] zf
theorem z7G:LO Tryz.f35 Oj 10:=lk t75 (rz [1]) h35 [] zf
theorem znX:q8 Pz 35 ⟨[.ty qy],[(.sl .str)],λx=>su x⟩:=wo t75 (rz [1]) h35 func35 [0,2,4,6,8,10] (qh rfl zc5 (qh rfl zc6 (qh rfl zc7 (qh rfl zc8 (qh rfl zc9 (qh rfl z7G zf))))))
def t76:=t75.d znX
end Go.AM.Lf
namespace Go.Proofs
section
open Go.RowKit Go.Maps Go.WideMaps
attribute [local go_sem] zN
set_option maxRecDepth 100000
set_option maxHeartbeats 2000000
/-- What a map reads as when texts,all different,came. -/
def TW.Seen(D:DataW Unit)(l:List (List UInt8)):Prop:=IsMap D/\∀ s:List UInt8,D.atKey (.string s) (.lit (.int .i64 0))=.lit (.int .i64 (if s∈l then 1 else 0))
theorem TW.zkN:TW.Seen (.map []) []:=⟨⟨_,rfl⟩,λs=>by simp only[List.not_mem_nil,if_false]; rfl⟩
theorem TW.step{D:DataW Unit}{l:List (List UInt8)}{s:List UInt8}(h:TW.Seen D l)(hk:WideAt.IsKeyLit (.string s)):TW.Seen (D.put (.string s) (.lit (.int .i64 1))) (l++[s]):=by
 refine⟨h.1.put _ _,λx => ?_⟩
 by_cases c:x=s
 ·subst c
  rw[atKey_put_same h.1 hk,if_pos (by simp)]
 ·rw[atKey_put_other (λe=>c (by cases e; rfl)),h.2 x]
  congr 3
  simp[c]
theorem TW.cOf{D:DataW Unit}{l:List (List UInt8)}{s:List UInt8}{c:Int}(h:TW.Seen D l)(IL:D.atKey (.string s) (.lit (.int .i64 0))=.lit (.int .i64 c)):c=if s∈l then 1 else 0:=by
 rw[h.2 s]at IL
 cases IL; rfl
theorem TW.key:Keyed Tryz.prog 9:=string_keyed Tryz.underlying9
theorem TW.PZ(w:World):(zeroValue 3).run Tryz.prog w=.ok (.int .i64 0) w:=by kernel_rfl
theorem TW.zero(a:Option Addr)(cap:Nat)(w:World):Calls Tryz.prog 34 #[.slice a 0 cap] w λe w'=>e=.returned (.tuple #[.string ⟨#[]⟩,.bool false])/\Below w.heap.size w w':=by
 have hmm := @run_makeMap Tryz.prog
 go_enter Tryz.func34,Tryz.ntmps34
 go_wp2
 refine wp_loop_rounds 1 ?_
 rw[rounds_succ]
 go_wp2
 go_ret2
 exact⟨rfl,(Below.refl _ _).alloc (V _) _⟩
theorem TW.more(b off cap:Nat)(l:List (List UInt8))(w:World)(J7:l.length*16<=140737488351232)(I:b<w.heap.size)
  (hc:∀ j (hj:j<l.length),w.cell? ⟨b,off+j,none⟩=some (.string ⟨l[j].toArray⟩)) (bH:∀ s∈l,s.length<=maxLen) :
  Calls Tryz.prog 34 #[.slice (some ⟨b,off,none⟩) l.length cap] w λe w'=>e=.returned (.tuple #[.string ⟨(Go.AM.Lf.twR [] l).1.toArray⟩,.bool (Go.AM.Lf.twR [] l).2])/\Below w.heap.size w w':=by
 have hmm := @run_makeMap Tryz.prog
 go_enter Tryz.func34,Tryz.ntmps34
 go_wp2
 go_loopw [10] (λi wr=>∃ (k:Nat) (D:DataW Unit),k<=l.length/\i=.int .i64 k/\wr.ownsMap Tryz.prog 9 (plainElem Tryz.prog 3) w.heap.size k D/\TW.Seen D (l.take k)/\Go.AM.Lf.twR [] l=Go.AM.Lf.twR (l.take k) (l.drop k)/\Below w.heap.size w wr)
  (λi _=>l.length-(intOf i).toNat)
 case atStart=>exact⟨0,.map [],qK _,rfl,World.ownsMap_made _ _ _ _,TW.zkN,rfl,(Below.refl _ _).alloc (V _) _⟩
 case round =>
  obtain⟨k,D,hk,rfl,hown,EE,htw,Dp⟩:=hrel
  obtain⟨s,hs⟩:∃ s:List UInt8,s=l.getD k []:=⟨_,rfl⟩
  have hse:∀ wL:k<l.length,s=l[k]:=λwL=>by rw[hs]; simp[wL]
  have hcx:k<l.length->wr.cell? ⟨b,off+k,none⟩=some (.string ⟨s.toArray⟩):=λwL=>by rw[hse wL]; exact(Dp.cell (by exact I)).trans (hc k wL)
  have hlen:s.length<=maxLen:=by
   by_cases wL:k<l.length
   ·rw[hse wL]; exact bH _ (List.getElem_mem wL)
   ·rw[hs]; simp[wL]
  have IV:keyOf Tryz.prog 9 (.string ⟨s.toArray⟩)=some (.string s):=keyOf_string_mk Tryz.underlying9 (by exact hlen)
  have hkl:WideAt.IsKeyLit (.string s):=TW.key.key IV
  have Ev:∀ wL:k<l.length,l.drop k=s::l.drop (k+1):=λwL=>by rw[hse wL]; exact List.drop_eq_getElem_cons wL
  have HL:∀ wL:k<l.length,l.take (k+1)=l.take k++[s]:=λwL=>by rw[hse wL]; exact zW wL
  clear hse hs
  by_cases J6:s∈l.take k
  ·have z0M:∀ wL:k<l.length,Go.AM.Lf.twR [] l=(s,true):=λwL=>by rw[htw,Ev wL]; unfold Go.AM.Lf.twR; rw[if_pos J6]
   go_wp2_with (first
    | (at_lookup; refine wpList_lookup_own_int _ rfl _ _ 146 rfl 9 3 .i64 TW.key Tryz.underlying146 Tryz.underlying3 (TW.PZ _) w.heap.size k _ rfl hown _ _ rfl IV ?_; intro c IL hwc; obtain rfl:c=1:=by rw[TW.cOf EE IL,if_pos J6])
    | (at_mapUpdate; refine wpList_mapUpdate_own _ rfl _ _ _ 146 rfl 9 3 TW.key Tryz.underlying146 _ w.heap.size k _ rfl hown (by unfold maxLen; omega) _ _ _ rfl rfl IV _ [] (plainElem_int (a:=2) Tryz.underlying3 rfl) ?_; intro w1 ML IT)
    | (at_lookup; refine wpList_lookup_own_int _ rfl _ _ 146 rfl 9 3 .i64 TW.key Tryz.underlying146 Tryz.underlying3 (TW.PZ _) w.heap.size (k+1) _ rfl ML _ _ rfl IV ?_; intro c2 z0D zny; obtain rfl:c2=2:=by rw[atKey_put_same EE.1 hkl]at z0D; cases z0D; rfl)
    | go_in)
   ·have wL:k<l.length:=by assumption
    go_ret2
    rw[z0M wL]
    exact⟨rfl,Dp.grown IT Dp.size (λj hj=>by cases hj; exact V _)⟩
   ·have:k=l.length:=by omega
    subst this
    rw[List.drop_length]at htw
    go_ret2
    rw[htw]
    exact⟨rfl,Dp⟩
  ·have hgo:∀ wL:k<l.length,Go.AM.Lf.twR [] l=Go.AM.Lf.twR (l.take (k+1)) (l.drop (k+1)):=λwL=>by
    rw[htw,Ev wL,HL wL]
    conv=>lhs; unfold Go.AM.Lf.twR
    rw[if_neg J6]
   go_wp2_with (first
    | (at_lookup; refine wpList_lookup_own_int _ rfl _ _ 146 rfl 9 3 .i64 TW.key Tryz.underlying146 Tryz.underlying3 (TW.PZ _) w.heap.size k _ rfl hown _ _ rfl IV ?_; intro c IL hwc; obtain rfl:c=0:=by rw[TW.cOf EE IL,if_neg J6])
    | (at_mapUpdate; refine wpList_mapUpdate_own _ rfl _ _ _ 146 rfl 9 3 TW.key Tryz.underlying146 _ w.heap.size k _ rfl hown (by unfold maxLen; omega) _ _ _ rfl rfl IV _ [] (plainElem_int (a:=1) Tryz.underlying3 rfl) ?_; intro w1 ML IT)
    | (at_lookup; refine wpList_lookup_own_int _ rfl _ _ 146 rfl 9 3 .i64 TW.key Tryz.underlying146 Tryz.underlying3 (TW.PZ _) w.heap.size (k+1) _ rfl ML _ _ rfl IV ?_; intro c2 z0D zny; obtain rfl:c2=1:=by rw[atKey_put_same EE.1 hkl]at z0D; cases z0D; rfl)
    | go_in)
   ·have wL:k<l.length:=by assumption
    go_roundw
    case rel=>exact⟨k+1,_,by omega,by go_num,ML,(HL wL).symm▸TW.step EE hkl,hgo wL,Dp.grown IT Dp.size (λj hj=>by cases hj; exact V _)⟩
    case measure=>simp[intOf]; omega
   ·have:k=l.length:=by omega
    subst this
    rw[List.drop_length]at htw
    go_ret2
    rw[htw]
    exact⟨rfl,Dp⟩
end
end Go.Proofs
namespace Go.AM.Lf
open Go.Proofs Go.Proofs.Tryz
theorem znW:q8 Tryz.prog 34 ⟨[.ty (.sl .str)],[.str,.bool],λx=>sw x⟩:=by
 refine jA Tryz.func34 (by kernel_rfl) rfl λO (l:List zx) xb y hy B ha => ?_
 obtain⟨⟨h0,h1⟩,hy⟩:=hy
 cases hy
 obtain⟨v0,r,rfl,Kt,ha⟩:=wN.cons_inv (show wN O [.qi (.sl .str) l] xb from ha)
 rw[ha.wb]
 have hv:=RD.jD (O:=O) (τ:=.sl .str) (x:=l) Kt rfl
 rcases hv.tw with⟨rfl,a,e⟩ | ⟨blk,off,cap,g,e,uZ,jf,hg,hc⟩
 ·cases e
  refine(TW.zero a 0 O.w).mono ?_
  rintro e w' ⟨rfl,hB⟩
  exact⟨hB,λ_=>⟨_,rfl,RD.z8P RD.str RD.bool⟩⟩
 ·cases e
  refine(TW.more blk off cap l O.w h0 (B.bI blk uZ) (λj hj => ?_) h1).mono ?_
  ·have h3:=hc j hj 0 (.string ⟨l[j].toArray⟩) (by rw[(hg j hj).jb]; rfl)
   simpa[Ty.size]using h3
  ·rintro e w' ⟨rfl,hB⟩
   exact⟨hB,λ_=>⟨_,rfl,RD.z8P RD.str RD.bool⟩⟩
end Go.AM.Lf

namespace Go.AM.Lf
open Go.Proofs Go.Proofs.Tryz
def t77:=t76.d znW
theorem zoD:q8 Pz 83 ⟨[.ty qq,.rp .str],[.bool],λx=>vR x.1 x.2⟩:=wo t77 (rz [2]) hN func83 [] zf
def t78:=t77.d zoD
def HU:q9:=Lz [] [Mm 0 (.sl qq),.s 1 (.wg 83 [.rp .str]),Mi 7] cR [kN,o9] λp s=>wY p.1 (λz0=>vR z0 p.2.1) p.2.2 s
def z0d:Hints:=Hz [(0,HU)] [] []
theorem S2:LO Tryz.f100 HU 0:=lk t78 rn z0d [] zf
theorem OM:q8 Pz 100 ⟨[.ty (.sl qq),.wg 83 [.rp .str]],[i64],λx=>wa x.1 (λz0=>vR z0 x.2)⟩:=wo t78 rn z0d func100 [0] (qh rfl S2 zf)
def t79:=t78.d OM
theorem z2u:q8 Pz 82 ⟨[.ty (.sl qq),.wg 83 [.rp .str]],[.bool],λx=>vE x.1 (λz0=>vR z0 x.2)⟩:=wo (t79.d OM) rn hN func82 [] zf
def t80:=t79.d z2u
theorem zoB:q8 Pz 81 ⟨[.ty .str,.rp qy],[.bool],λx=>jO x.1 x.2⟩:=wo (t80.d z2u) (rz [2]) hN func81 [] zf
def t81:=t80.d zoB
def z1S:q9:=Lz [] [Mm 0 (.sl .str),.s 1 (.wg 81 [.rp qy]),Mi 7] cR [kN,o9] λp s=>uM p.1 (λz0=>jO z0 p.2.1) p.2.2 s
def h80:Hints:=Hz [(0,z1S)] [] []
theorem zct:LO Tryz.f80 z1S 0:=lk t81 rn h80 [] zf
theorem zoA:q8 Pz 80 ⟨[.ty (.sl .str),.wg 81 [.rp qy]],[i64],λx=>wU x.1 (λz0=>jO z0 x.2)⟩:=wo t81 rn h80 func80 [0] (qh rfl zct zf)
def t82:=t81.d zoA
def z1z:q9:=Lz [.slot 4 .str] [Mr 1 qy,Mm 11 (.sl xp),Mi 12] ⟨[Mi 13,.a .str],[(4,.cur 0 .str)],ny⟩ [⟨.exit 0,z3Z⟩] λp s=>eO p.1 p.2.1 p.2.2 s
def z1A:q9:=Lz [] [Mr 1 qy,Mm 24 (.sl xl),Mi 25] ⟨[Mi 26,.a .str],[(4,.cur 0 .str)],ny⟩ [⟨.exit 2,z3Z⟩] λp s=>eP p.1 p.2.1 p.2.2 s
def h36:Hints:=Hz [(0,z1z),(2,z1A)] [] []
theorem zca:LO Tryz.f36 z1z 0:=lk t82 (rz [1]) h36 [] zf
theorem zcb:LO Tryz.f36 z1A 2:=lk t82 (rz [1]) h36 [] zf
theorem znY:q8 Pz 36 ⟨[.ty qy],[.str,.bool],λx=>eB x⟩:=wo t82 (rz [1]) h36 func36 [0,2] (qh rfl zca (qh rfl zcb zf))
def t83:=t82.d znY
def Ni:q9:=Lz [] [Mm 0 (.sl .str),Ms 1,Mi 7] cR [kN,o9] λp s=>gm p.1 p.2.1 p.2.2 s
def zet:Hints:=Hz [(0,Ni)] [] []
theorem z6B:LO Tryz.f148 Ni 0:=lk t83 rn zet [] zf
theorem zhw:q8 Pz 148 ⟨[.ty (.sl .str),.ty .str],[i64],λx=>wD x.1 x.2⟩:=wo t83 rn zet func148 [0] (qh rfl z6B zf)
def t84:=t83.d zhw
theorem zoH:q8 Pz 87 ⟨[.ty (.sl .str),.ty .str],[.bool],λx=>wJ x.1 x.2⟩:=wo t84 rn hN func87 [] zf
def t85:=t84.d zoH
abbrev R7:=um.den FQ->T (um.den WH)
abbrev zau(F:R7):=xv Pz 147 ⟨[.cur,.any],FQ,[],WH,1,F⟩
def zdT(eS:R7)(JD:zau eS):Tb:=t85.s JD
def Nh(eS:R7):q9:=Lz [] [Mm 23 (.sl .expr),Mi 24] z3P [⟨.exit 0,WH⟩] λp s=>eC (λy0 y1=>eS (y0,y1)) p.1 p.2 s
def zes(eS:R7):Hints:=Hz [(0,Nh eS)] [(0,1,.ways [z4m]),(3,1,.ways [⟨.normal,WH⟩])] []
theorem z6A(eS:R7)(JD:zau eS):LO Tryz.f147 (Nh eS) 0:=lk (zdT eS JD) (rz [3]) (zes eS) [] zf
theorem z8c(eS:R7)(JD:zau eS):xv Pz 147 ⟨[.cur,.any],FQ,[],WH,1,λx=>de (λy0 y1=>eS (y0,y1)) x.1 x.2⟩:=eo (zdT eS JD) (rz [3]) (zes eS) func147 [0] (qh rfl (z6A eS JD) zf)
theorem za1:xv Pz 147 ⟨[.cur,.any],FQ,[],WH,1,λx=>ow x.1 x.2⟩:=Ks (λeS x=>de (λy0 y1=>eS (y0,y1)) x.1 x.2) (λx=>rfl) (λeS JD=>z8c eS JD)
def t86:=t85.s za1
def Tj:Tb:=t86.s za1
def B1:q9:=Lz [] [Mm 23 (.sl .expr),Mi 24] z3P [⟨.exit 0,WH⟩] λp s=>lU p.1 p.2 s
def z0k:Hints:=Hz [(0,B1)] [(0,1,.ways [z4m]),(3,1,.ways [⟨.normal,WH⟩])] []
theorem S9:LO Tryz.f147 B1 0:=lk Tj (rz [3]) z0k [] zf
theorem OT:xv Pz 147 ⟨[.cur,.any],FQ,[.slot 0 .str],WH,1,λx=>mF x.1 x.2⟩:=eo Tj (rz [3]) z0k func147 [0] (qh rfl S9 zf)
def t87:=t86.s OT
theorem zoF:q8 Pz 85 ⟨[.ty .expr],[(.sl .str)],λx=>dc x⟩:=wo (t87.s OT) (rz [1]) hN func85 [] zf
def t88:=t87.d zoF
end Go.AM.Lf
namespace Go.Proofs
section
open Go.RowKit Go.Maps
attribute [local go_sem] zN
set_option maxRecDepth 100000
set_option maxHeartbeats 2000000
theorem CC.info:(Tryz.prog.info? 9).map (λi=>(i.zero,i.size,i.bytes))=some (some (.string ⟨#[]⟩),1,16):=by kernel_rfl
theorem CC.wp{ops:Array Oper}{rest:List Oper}{o:Oper}{a:Act}{Q:Exit->Act->World->Prop}(w:World)(hgd:o.guard=zE)(s x:Operand)(t u:TypeId)
  (ho:o.op=.call { callee:=.builtin .append,args := #[s,x],argTypes := #[t,u] }) (v':Value) (w':World)
  (hr:(zU #[t,u] o.type #[a.eval s,a.eval x]).run Tryz.prog w=.ok v' w') (h:wpList Tryz.prog ops Q rest (a.put o.dst v') w'):wpList Tryz.prog ops Q (o::rest) a w :=
 wpList_plain hgd λ_ hK=>by
  unfold Oper.wp execOp
  simp only[ho,resolve,invoke,builtin,Sem.run_bind,Sem.run_pure,Result.andThen_ok,List.map_toArray,List.map_cons,List.map_nil,hr]
  exact hK _ _ h
/-- An append of nothing. -/
theorem CC.DI{base:Option Addr}{n cap:Nat}{a:Option Addr}{ty:TypeId}(w:World)(jf:n<=cap) :
  (zU #[38,38] ty #[.slice base n cap,.slice a 0 0]).run Tryz.prog w=.ok (.slice base n cap) w:=by
 obtain⟨i0,hi,FX,hz1,hz2⟩:=info_parts CC.info
 have hu:=Tryz.underlying38
 cases a<;>cases base<;>simp[zU,run_underlying hu,sizeOf,typeInfo,hi,Builtin.lenOf,qN,loadCells,loadCellsFrom,storeCells,jf]
theorem CC.DH{n:Nat}{ty:TypeId}(w:World)(hn:0<n)(I:n*16<=140737488355328) :
  ∃ cs:Array Value,cs.size=grownCap w n 0 9/\(zU #[38,3] ty #[.slice zE 0 0,.int .i64 (n:Int)]).run Tryz.prog w=.ok (.slice (some ⟨w.heap.size,0,zE⟩) n (grownCap w n 0 9)) (w.drew.alloc (.cells cs 9)):=by
 obtain⟨i0,hi,FX,hz1,hz2⟩:=info_parts CC.info
 have hu:=Tryz.underlying38
 have he:=Tryz.underlying3
 have w1:IntKind.i64.wrap (n:Int)=n:=IntWalk.i64_in _ (by omega)
 have h5:IntKind.i64.max=9223372036854775807:=by decide
 have ai:∀ w,(Go.asInt (.int .i64 (n:Int))).run Tryz.prog w=.ok (n:Int) w:=λw=>by simp[Go.asInt,asIntOf]
 have g1:¬ ((n:Int)<0):=by omega
 have g2:¬ ((281474976710656:Int)<(n:Int)*16):=by omega
 have g3:¬ (n=0):=by omega
 have g4:¬ (281474976710656<Builtin.nextslicecap n 0*16):=by
  have:=growslice_fits (bytes:=16) (need:=n) (old:=0) (by omega) (by omega)
  omega
 have hge:=grownCap_ge w n 0 9
 refine⟨qD (Value.string ⟨#[]⟩).cells n++qD (Value.string ⟨#[]⟩).cells (grownCap w n 0 9-n),?_,?_⟩
 ·simp[qD,Value.cells]; omega
 ·simp[zU,run_underlying hu,run_underlying he,sizeOf,typeInfo,zeroValue,hi,FX,hz1,hz2,ai,w1,Builtin.lenOf,qN,Question.forced,newRow,grownCap,g1,g2,g3,g4]
  intro h
  omega
theorem CC.grow(n:Nat)(w:World)(I:n*16<=140737488355328):Calls Tryz.prog 146 #[.slice zE 0 0,.int .i64 (n:Int)] w λe w'=>∃ v,e=.returned v/\w'.ownsRow w.heap.size 9 1 v 0 []/\Below w.heap.size w w':=by
 go_enter Tryz.func146,Tryz.ntmps146
 by_cases hn:0<n
 ·obtain⟨cs,Qz,hr⟩:=CC.DH (ty:=38) w hn I
  go_wp2_with (first
   | (at_builtin; refine CC.wp _ rfl _ _ _ _ rfl _ _ hr ?_)
   | go_in)
  go_ret
  refine⟨_,rfl,⟨rfl,.inr ⟨w.heap.size,_,cs,rfl,V _,by show(w.heap.push (zA cs 9))[w.heap.size]? = _; exact Array.getElem?_push_size,qK _,grownCap_le_maxLen w n 0 9 (by unfold maxLen; omega),by rw[Qz,Nat.mul_one],rfl⟩⟩,?_⟩
  have hB:Below w.heap.size w (w.alloc (.cells cs 9)):=(Below.refl _ _).alloc (V _) _
  exact⟨hB.os,hB.tape,hB.output,hB.size,hB.block⟩
 ·obtain rfl:n=0:=by omega
  go_wp2
  go_ret
  exact⟨_,rfl,World.ownsRow_nil _ _ _ _,Below.refl _ _⟩
/-- The texts of a slice whose block lies below n₀. -/
def CC.Strs(n₀:Nat)(zk:World)(sv:Value)(l:List (List UInt8)):Prop:=(∃ a,sv=.slice a 0 0/\l=[])\/∃ b off cap,sv=.slice (some ⟨b,off,zE⟩) l.length cap/\b<n₀/\∀ j (hj:j<l.length),zk.cell? ⟨b,off+j,zE⟩=some (.string ⟨l[j].toArray⟩)
def CC.cells(l:List (List UInt8)):List Value:=l.map λs=>.string ⟨s.toArray⟩
/-- How many texts the first k slices have; which. -/
def CC.fl(ls:List (List (List UInt8)))(k:Nat):Nat:=(ls.take k).flatten.length
def CC.out(ls:List (List (List UInt8)))(k:Nat):List Value:=CC.cells (ls.take k).flatten
def CC.at(ls:List (List (List UInt8)))(k:Nat):List (List UInt8):=ls.getD k []
theorem CC.take_succ{ls:List (List (List UInt8))}{k:Nat}(hk:k<ls.length):(ls.take (k+1)).flatten=(ls.take k).flatten++CC.at ls k:=by
 rw[zW hk,List.flatten_append,List.flatten_singleton]
 simp[CC.at,hk]
theorem CC.z5j{ls:List (List (List UInt8))}{k:Nat}(hk:k<ls.length):CC.fl ls (k+1)=CC.fl ls k+(CC.at ls k).length:=by
 unfold CC.fl; rw[CC.take_succ hk,List.length_append]
theorem CC.z2C{ls:List (List (List UInt8))}{k:Nat}(hk:k<ls.length):CC.out ls (k+1)=CC.out ls k++CC.cells (CC.at ls k):=by
 unfold CC.out CC.cells; rw[CC.take_succ hk,List.map_append]
theorem CC.zec(ls:List (List (List UInt8)))(k:Nat):CC.fl ls k<=CC.fl ls ls.length:=by
 unfold CC.fl
 rw[List.take_length]
 conv=>rhs; rw[<- List.take_append_drop k ls,List.flatten_append,List.length_append]
 omega
theorem CC.concat(b off cap L:Nat)(svs:Nat->Value)(ls:List (List (List UInt8)))(w:World)(hL:L=ls.length)(J7:L*24<=140737488351232)(I:b<w.heap.size)
  (hc:∀ j,j<L->w.cell? ⟨b,off+j,zE⟩=some (svs j)) (hs:∀ j,j<L->CC.Strs w.heap.size w (svs j) (CC.at ls j)) (znu:CC.fl ls L*16<=140737488355328) :
  Calls Tryz.prog 84 #[.slice (some ⟨b,off,zE⟩) L cap] w λe w'=>∃ v,e=.returned v/\w'.ownsRow w.heap.size 9 1 v (CC.fl ls L) (CC.out ls L)/\Below w.heap.size w w':=by
 obtain⟨i0,hi,FX,hz1,hz2⟩:=info_parts CC.info
 have JF:∀ k,k<L->CC.fl ls (k+1)=CC.fl ls k+(CC.at ls k).length:=λk hk=>CC.z5j (by omega)
 have hou:∀ k,k<L->CC.out ls (k+1)=CC.out ls k++CC.cells (CC.at ls k):=λk hk=>CC.z2C (by omega)
 have hle:∀ k,CC.fl ls k<=CC.fl ls L:=λk=>hL▸CC.zec ls k
 have hf0:CC.fl ls 0=0:=rfl
 have ho0:CC.out ls 0=[]:=rfl
 generalize CC.fl ls=fl at *
 generalize CC.out ls=out at *
 generalize CC.at ls=at_ at *
 clear hL ls
 generalize hM:fl L=h2 at *
 go_enter Tryz.func84,Tryz.ntmps84
 go_wp2
 go_loopw [3,11] (λsz i wr=>∃ k:Nat,k<=L/\i=.int .i64 k/\sz=.int .i64 (fl k:Int)/\w=wr) (λ_ i _=>L-(intOf i).toNat)
 case atStart=>exact⟨0,qK _,rfl,by rw[hf0]; rfl,rfl⟩
 case round =>
  obtain⟨k,hk,rfl,rfl,rfl⟩:=hrel
  by_cases wL:k<L
  ·have ep:=hc k wL
   have hS:=hs k wL
   have h1:=JF k wL
   have M:=hle (k+1)
   have hSq:∃ a c,svs k=.slice a (at_ k).length c:=by
    rcases hS with⟨a,e,he⟩ | ⟨b1,o1,c1,e,_,_⟩
    ·exact⟨a,0,by rw[e,he]; rfl⟩
    ·exact⟨_,c1,e⟩
   obtain⟨a1,c1,e1⟩:=hSq
   rw[e1]at ep
   clear hc hs hS JF hou hle e1
   generalize hq:(at_ k).length=q at *
   generalize hm:fl k=m at *
   generalize hm':fl (k+1)=m' at *
   go_wp2
   go_roundw
   case rel=>exact⟨k+1,by omega,by go_num,by rw[hm',h1]; go_num,by first | rfl | trivial⟩
   case measure=>simp[intOf]; omega
  ·have hkl:k=L:=by omega
   subst hkl
   rw[hM]
   have hg:=CC.grow h2 w znu
   go_wp2_with (first
    | (go_at_call 146; refine hg.mono ?_; rintro e w1 ⟨v1,rfl,oz,hB⟩)
    | go_in)
   clear hg
   go_loopw [6,27] (λo i wr'=>∃ j:Nat,j<=k/\i=.int .i64 j/\wr'.ownsRow w.heap.size 9 1 o (fl j) (out j)/\Below w.heap.size w wr') (λ_ i _=>k-(intOf i).toNat)
   case atStart=>exact⟨0,qK _,rfl,by rw[hf0,ho0]; exact oz,hB⟩
   case round =>
    obtain⟨j,hj,rfl,oz,hB⟩:=hrel
    by_cases IX:j<k
    ·have ep:wr.cell? ⟨b,off+j,zE⟩=some (svs j):=(hB.cell (p:=⟨b,off+j,zE⟩) I).trans (hc j IX)
     have h1:=JF j IX
     have M:=hle (j+1)
     have h3:=hou j IX
     rcases hs j IX with⟨a,e,he⟩ | ⟨b1,o1,c1,e,FT,Qz⟩
     ·rw[e]at ep
      rw[he]at h1 h3
      have e1:fl (j+1)=fl j:=by rw[h1]; rfl
      have e2:out (j+1)=out j:=by rw[h3]; simp[CC.cells]
      have hv:∃ base n cap,u6=.slice base n cap/\n<=cap:=by
       rcases oz.2 with⟨rfl,_⟩ | ⟨g,VE,cur,rfl,_,_,jf,_⟩
       ·exact⟨_,_,_,rfl,V _⟩
       ·exact⟨_,_,_,rfl,jf⟩
      obtain⟨base,n,VE,rfl,jf⟩:=hv
      have hr:=CC.DI (base:=base) (n:=n) (cap:=VE) (a:=a) (ty:=38) wr jf
      clear hc hs JF hou hle hf0 ho0 he e
      go_wp2_with (first
       | (at_builtin; refine CC.wp _ rfl _ _ _ _ rfl _ _ hr ?_)
       | go_in)
      go_roundw
      case rel=>exact⟨j+1,by omega,by go_num,by rw[e1,e2]; exact oz,hB⟩
      case measure=>simp[intOf]; omega
     ·rw[e]at ep
      have hB1:=hB.size
      have R:(CC.cells (at_ j)).length=(at_ j).length*1:=by simp[CC.cells]
      have ZK:∀ u∈CC.cells (at_ j),u.oneCell'=true:=by
       intro u hu
       obtain⟨s,_,rfl⟩:=List.mem_map.1 hu
       rfl
      have zg1:∀ i u,(CC.cells (at_ j))[i]? = some u->wr.cell? ((⟨b1,o1,zE⟩:Addr).add i)=some u:=by
       intro i u hu
       have UP:i<(at_ j).length:=by
        have:=(List.getElem?_eq_some_iff.1 hu).1
        simpa[CC.cells]using this
       have zbn:(⟨b1,o1,zE⟩:Addr).add i=⟨b1,o1+i,zE⟩:=by unfold Addr.add; split<;>simp_all
       rw[zbn,(hB.cell (p:=⟨b1,o1+i,zE⟩) FT),Qz i UP,<- hu]
       simp[CC.cells,UP]
      clear hc hs JF hou hle hf0 ho0 e Qz
      generalize CC.cells (at_ j)=news at *
      generalize hq:(at_ j).length=q at *
      go_wp2_with (first
       | (at_builtin; refine wpList_append_own _ rfl _ _ 38 rfl w.heap.size 9 i0 (.string ⟨#[]⟩) 1 16 Tryz.underlying38 hi FX hz1 hz2 rfl (by decide) _ _ _ rfl oz ⟨b1,o1,zE⟩ q c1 news rfl R zg1 ZK (by unfold maxLen; omega) (by omega) hB1 ?_; intro v' w' zg5 zbv zq4)
       | go_in)
      go_roundw
      case rel=>exact⟨j+1,by omega,by go_num,by rw[h1,h3]; exact zg5,hB.grown zbv hB.size (λi hi=>(oz.lt i hi).1)⟩
      case measure=>simp[intOf]; omega
    ·have hjk:j=k:=by omega
     subst hjk
     clear hc hs JF hou hle
     go_wp2
     go_ret
     exact⟨_,rfl,by rw[hM]at oz; exact oz,hB⟩
end
end Go.Proofs
namespace Go.AM.Lf
open Go.Proofs Go.Proofs.Tryz
theorem z8O{O:KS}{l:List zx}{cs:List Value}(B:Inv O)(h:Rc O.w O.ok (.sl .str) l cs):∃ v,cs=[v]/\CC.Strs O.w.heap.size O.w v l:=by
 rcases h.tw with⟨rfl,a,e⟩ | ⟨blk,off,cap,g,e,uZ,jf,hg,hc⟩
 ·exact⟨_,e,.inl ⟨a,rfl,rfl⟩⟩
 ·refine⟨_,e,.inr ⟨blk,off,cap,rfl,B.bI blk uZ,λj hj => ?_⟩⟩
  have h3:=hc j hj 0 (.string ⟨l[j].toArray⟩) (by rw[(hg j hj).jb]; rfl)
  simpa[Ty.size]using h3
theorem zoE:q8 Tryz.prog 84 ⟨[.ty (.sl (.sl .str))],[.sl .str],λx=>j7 x⟩:=by
 refine jA Tryz.func84 (by kernel_rfl) rfl λO (ls:List (List zx)) xb y hy B ha => ?_
 obtain⟨⟨h0,h1,M⟩,hy⟩:=hy
 cases hy
 obtain⟨v0,r,rfl,Kt,ha⟩:=wN.cons_inv (show wN O [.qi (.sl (.sl .str)) ls] xb from ha)
 rw[ha.wb]
 have hv:=RD.jD (O:=O) (τ:=.sl (.sl .str)) (x:=ls) Kt rfl
 rcases hv.tw with⟨rfl,a,e⟩ | ⟨blk,off,cap,g,e,uZ,jf,hg,hc⟩
 ·exact absurd rfl M
 ·cases e
  have ZI:∀ j (hj:j<ls.length),∃ v,g j=[v]/\CC.Strs O.w.heap.size O.w v ls[j]:=λj hj=>z8O B (hg j hj)
  have ep:∀ j,j<ls.length->O.w.cell? ⟨blk,off+j,none⟩=some ((g j).headD (.bool false)):=λj hj=>by
   obtain⟨v,hv,_⟩:=ZI j hj
   have h3:=hc j hj 0 v (by rw[hv]; rfl)
   rw[hv]
   simpa[Ty.size]using h3
  have JF:ls.flatten=(ls.take ls.length).flatten:=by rw[List.take_length]
  refine(CC.concat blk off cap ls.length (λj=>(g j).headD (.bool false)) ls O.w rfl h0 (B.bI blk uZ) ep (λj hj => ?_) (by unfold CC.fl; rw[<- JF]; exact h1)).mono ?_
  ·obtain⟨v,hv,hs⟩:=ZI j hj
   rw[hv]
   have:CC.at ls j=ls[j]:=by simp[CC.at,hj]
   rw[this]; exact hs
  ·rintro e w' ⟨v,rfl,oz,hB⟩
   refine⟨hB,λ_=>⟨_,rfl,?_⟩⟩
   unfold CC.fl CC.out at oz
   rw[<- JF]at oz
   show RD _ (.qi (.sl .str) ls.flatten) v
   refine RD.tV rfl ?_
   rcases oz.2 with⟨rfl,hn⟩ | ⟨gb,VE,cur,rfl,hgb,zbq,hle,hmax,bH,htk⟩
   ·rw[zY hn]
    exact .lv .str none
   ·refine .sl .str _ gb 0 VE (λi=>[.string ⟨(ls.flatten[i]?.getD []).toArray⟩]) (.inr ⟨hgb,(Array.getElem?_eq_some_iff.1 zbq).1⟩) hle (λi hi => ?_) (λi hi j u hu => ?_)
    ·rw[zT hi]
     exact .str _
    ·match j,hu with
     | 0,hu =>
      simp only[List.getElem?_cons_zero,Option.some.injEq]at hu
      have e0:(0:Nat)+i*Ty.size .str+0=i:=by show 0+i*1+0=i; omega
      show w'.cell? ⟨gb,0+i*Ty.size .str+0,none⟩=some u
      rw[e0,cell_of_row w' gb i cur _ (0,0) zbq,<- hu]
      have h4:(cur.toList.take (ls.flatten.length*1))[i]? = (CC.cells ls.flatten)[i]? := by rw[htk]
      rw[List.getElem?_take_of_lt (by omega)]at h4
      rw[<- Array.getElem?_toList,h4]
      unfold CC.cells
      rw[List.getElem?_map,zT hi]; rfl
end Go.AM.Lf

namespace Go.AM.Lf
open Go.Proofs Go.Proofs.Tryz
def t89:=t88.d zoE
theorem zoJ:q8 Pz 89 ⟨[.ty qf,.rp .str],[.bool],λx=>uA x.1 x.2⟩:=wo t89 (rz [2]) hN func89 [] zf
def t90:=t89.d zoJ
def HY:q9:=Lz [] [Mm 0 (.sl qf),.s 1 (.wg 89 [.rp .str]),Mi 7] cR [kN,o9] λp s=>uY p.1 (λz0=>uA z0 p.2.1) p.2.2 s
def z0h:Hints:=Hz [(0,HY)] [] []
theorem S6:LO Tryz.f108 HY 0:=lk t90 rn z0h [] zf
theorem OQ:q8 Pz 108 ⟨[.ty (.sl qf),.wg 89 [.rp .str]],[i64],λx=>vH x.1 (λz0=>uA z0 x.2)⟩:=wo t90 rn z0h func108 [0] (qh rfl S6 zf)
def t91:=t90.d OQ
theorem z2v:q8 Pz 88 ⟨[.ty (.sl qf),.wg 89 [.rp .str]],[.bool],λx=>vO x.1 (λz0=>uA z0 x.2)⟩:=wo (t91.d OQ) rn hN func88 [] zf
def t92:=t91.d z2v
theorem zoG:q8 Pz 86 ⟨[.ty .str,.rp (.sl .str),.rp qy],[.bool],λx=>yr x.1 x.2.1 x.2.2⟩:=wo (t92.d z2v) (rz [3]) hN func86 [] zf
def t93:=t92.d zoG
def ES:q9:=Lz [] [Mm 0 (.sl .str),.s 1 (.wg 86 [.rp (.sl .str),.rp qy]),Mi 7] cR [kN,o9] λp s=>uM p.1 (λz0=>yr z0 p.2.1.1 p.2.1.2) p.2.2 s
def z9l:Hints:=Hz [(0,ES)] [] []
theorem z1h:LO Tryz.f80 ES 0:=lk t93 rn z9l [] zf
theorem z2s:q8 Pz 80 ⟨[.ty (.sl .str),.wg 86 [.rp (.sl .str),.rp qy]],[i64],λx=>wU x.1 (λz0=>yr z0 x.2.1 x.2.2)⟩:=wo t93 rn z9l func80 [0] (qh rfl z1h zf)
def t94:=t93.d z2s
def T37:Tb:=t94.d z2s
def z1B:q9:=Lz [] [Mr 2 qy,Mr 3 (.sl .str),Mm 13 (.sl xj),Mi 14] ⟨[Mm 6 (.sl .str),Mi 15],[],[]⟩ [⟨.exit 0,z47⟩] λp s=>lK p.1 p.2.1 p.2.2.1 p.2.2.2 s
def z1C:q9:=Lz [] [Mr 2 qy,Mr 3 (.sl .str),Mm 30 (.sl xl),Mi 31] ⟨[Mm 6 (.sl .str),Mi 32],[],[]⟩ [⟨.exit 2,z47⟩] λp s=>lL p.1 p.2.1 p.2.2.1 p.2.2.2 s
def h37:Hints:=Hz [(0,z1B),(2,z1C)] [] []
theorem zcc:LO Tryz.f37 z1B 0:=lk T37 (rz [2,3]) h37 [] zf
theorem zcd:LO Tryz.f37 z1C 2:=lk T37 (rz [2,3]) h37 [] zf
theorem znZ:q8 Pz 37 ⟨[.ty qy,.ty (.sl .str)],[.str,.bool],λx=>mq x.1 x.2⟩:=wo T37 (rz [2,3]) h37 func37 [0,2] (qh rfl zcc (qh rfl zcd zf))
def t95:=t94.d znZ
theorem zhy:q8 Pz 150 ⟨[.ty .str,.rp (.sl .str)],[.bool],λx=>bM x.1 x.2⟩:=wo t95 rn hN func150 [] zf
def t96:=t95.d zhy
def ET:q9:=Lz [] [Mm 0 (.sl .str),.s 1 (.wg 150 [.rp (.sl .str)]),Mi 7] cR [kN,o9] λp s=>uM p.1 (λz0=>bM z0 p.2.1) p.2.2 s
def z9m:Hints:=Hz [(0,ET)] [] []
theorem z1i:LO Tryz.f80 ET 0:=lk t96 rn z9m [] zf
theorem z2t:q8 Pz 80 ⟨[.ty (.sl .str),.wg 150 [.rp (.sl .str)]],[i64],λx=>wU x.1 (λz0=>bM z0 x.2)⟩:=wo t96 rn z9m func80 [0] (qh rfl z1i zf)
def t97:=t96.d z2t
theorem zhx:q8 Pz 149 ⟨[.ty (.sl .str),.wg 150 [.rp (.sl .str)]],[.bool],λx=>kz x.1 (λz0=>bM z0 x.2)⟩:=wo (t97.d z2t) rn hN func149 [] zf
def t98:=t97.d zhx
theorem zoK:q8 Pz 90 ⟨[.ty .expr,.ty (.sl .str)],[.bool],λx=>tH x.1 x.2⟩:=wo t98 (rz [2,3]) hN func90 [] zf
def t99:=t98.d zoK
abbrev Y38:=dQ [.ty .expr,.ty (.sl .str)]->T (Dl [.bool])
abbrev H38(F:Y38):=q8 Pz 38 ⟨[.ty .expr,.ty (.sl .str)],[.bool],F⟩
theorem zkC(dB:Y38)(WW:H38 dB):q8 Pz 92 ⟨[.ty .expr,.rp (.sl .str)],[.bool],λx=>uX (λy0 y1=>dB (y0,y1)) x.1 x.2⟩:=wo (t99.d WW) (rz [2]) hN func92 [] zf
def Tk(dB:Y38)(WW:H38 dB):Tb:=t99.d (zkC _ WW)
def B3(dB:Y38):q9:=Lz [] [Mm 0 (.sl .expr),.s 1 (.wg 92 [.rp (.sl .str)]),Mi 7] cR [kN,o9] λp s=>ye (λy0 y1=>dB (y0,y1)) p.1 (λz0=>(uX (λy0 y1=>dB (y0,y1))) z0 p.2.1) p.2.2 s
def z0l(dB:Y38):Hints:=Hz [(0,B3 dB)] [] []
theorem Sa(dB:Y38)(WW:H38 dB):LO Tryz.f151 (B3 dB) 0:=lk (Tk dB WW) rn (z0l dB) [] zf
theorem z8d(dB:Y38)(WW:H38 dB):q8 Pz 151 ⟨[.ty (.sl .expr),.wg 92 [.rp (.sl .str)]],[i64],λx=>gT (λy0 y1=>dB (y0,y1)) x.1 (λz0=>(uX (λy0 y1=>dB (y0,y1))) z0 x.2)⟩:=wo (Tk dB WW) rn (z0l dB) func151 [0] (qh rfl (Sa dB WW) zf)
theorem zcJ(dB:Y38)(WW:H38 dB):q8 Pz 91 ⟨[.ty (.sl .expr),.wg 92 [.rp (.sl .str)]],[.bool],λx=>j9 (λy0 y1=>dB (y0,y1)) x.1 (λz0=>(uX (λy0 y1=>dB (y0,y1))) z0 x.2)⟩:=wo (t99.d (z8d _ WW)) rn hN func91 [] zf
def h38(dB:Y38):Hints:=Hz [] [(0,3,.ways [⟨.normal,⟨[Mb 41,.v (.qi .expr),.v (.qi .expr)],[],FI⟩⟩]),(3,1,.ways [⟨.normal,⟨[],[],[]⟩⟩,PY])] []
theorem zcH(dB:Y38)(WW:H38 dB):q8 Pz 38 ⟨[.ty .expr,.ty (.sl .str)],[.bool],λx=>cU (λy0 y1=>dB (y0,y1)) x.1 x.2⟩:=wo ((t99.d (zcJ _ WW)).d (zkC _ WW)) (rz [2,3]) (h38 dB) func38 [] zf
theorem zo0:q8 Pz 38 ⟨[.ty .expr,.ty (.sl .str)],[.bool],λx=>fB x.1 x.2⟩:=Yf (λdB x=>cU (λy0 y1=>dB (y0,y1)) x.1 x.2) (λx=>rfl) (λdB WW=>zcH dB WW)
def t100:=t99.d zo0
def z1o:q9:=Lz [.slot 8 .str] [Mr 1 qy,Mm 46 (.sl qu),Mi 47] ⟨[Mi 48,.a .str],[(8,.cur 0 .str)],ny⟩ [⟨.exit 1,⟨[.a .str],[(8,.cur 0 .str)],ny⟩⟩] λp s=>nG p.1 p.2.1 p.2.2 s
def z1p:q9:=Lz [] [Mm 67 (.sl xl),Mi 68] ⟨[Mi 69,.a .str],[(8,.cur 0 .str)],ny⟩ [⟨.exit 3,⟨[.a .str],[],ny⟩⟩,⟨.ret,⟨[Mi 2,Ms 3,.a .str],[],ny⟩⟩] λp s=>nH p.1 p.2 s
def h21:Hints:=Hz [(1,z1o),(3,z1p)] [(0,3,.flat [Mb 19]),(0,23,.ways [⟨.normal,⟨[Mb 84,.a .str,.v (.qi xl)],[(8,.cur 0 .str)],[.arr .str,.var (.qi xl)]⟩⟩])] []
theorem zbZ:LO Tryz.f21 z1o 1:=lk t100 (rz [1]) h21 [] zf
theorem zc0:LO Tryz.f21 z1p 3:=lk t100 (rz [1]) h21 [] zf
theorem znN:q8 Pz 21 ⟨[.ty qy],[i64,.str],λx=>fD x⟩:=wo t100 (rz [1]) h21 func21 [1,3] (qh rfl zbZ (qh rfl zc0 zf))
def t101:=t100.d znN
theorem zo2:q8 Pz 40 ⟨[.ty qy],[.str],λx=>sV x⟩:=wo t101 (rz [1]) hN func40 [] zf
def t102:=t101.d zo2
theorem zoM:q8 Tryz.prog 93 ⟨[.ty .str,.ty .str],[.sl .str],λx=>strings_Split x.1 x.2⟩:=by
 refine jA Tryz.func93 (by kernel_rfl) rfl λO x xb y hy B ha => ?_
 obtain⟨s,sep⟩:=x
 obtain⟨⟨h0,h1⟩,hy⟩:=hy
 cases hy
 obtain⟨v0,r,rfl,Kt,ha⟩:=wN.cons_inv (show wN O [.qi .str s,.qi .str sep] xb from ha)
 obtain⟨v1,r,rfl,IK,ha⟩:=ha.cons_inv
 rw[ha.wb,Kt.jb,IK.jb]
 obtain⟨m,hm⟩:=kR B
 refine(Go.Proofs.Tryz.strings_Split ⟨s.toArray⟩ ⟨sep.toArray⟩ m O.w (by rw[show(zF ⟨s.toArray⟩)=zH s from Y]; exact h0) hm (by rw[show(zF ⟨sep.toArray⟩)=zH sep from Y]; simp only at h1; omega)).mono ?_
 rintro e w' ⟨rfl,rfl⟩
 refine⟨Ju _ _,λ_=>⟨_,rfl,?_⟩⟩
 exact z30 s sep h1 _
def t103:=t102.d zoM
theorem zhA:q8 Tryz.prog 153 ⟨[.ty .str,.ty .str],[.str,.str,.bool],λx=>strings_Cut x.1 x.2⟩:=by
 refine jA Tryz.func153 (by kernel_rfl) rfl λO x xb y hy B ha => ?_
 obtain⟨s,sep⟩:=x
 obtain⟨h0,hy⟩:=hy
 cases hy
 obtain⟨v0,r,rfl,Kt,ha⟩:=wN.cons_inv (show wN O [.qi .str s,.qi .str sep] xb from ha)
 obtain⟨v1,r,rfl,IK,ha⟩:=ha.cons_inv
 rw[ha.wb,Kt.jb,IK.jb]
 obtain⟨m,hm⟩:=kR B
 refine(Go.Proofs.Tryz.strings_Cut ⟨s.toArray⟩ ⟨sep.toArray⟩ m O.w (by rw[show(zF ⟨s.toArray⟩)=zH s from Y]; exact h0) hm).mono ?_
 rintro e w' ⟨rfl,n,rfl⟩
 refine⟨below_drewN _ _,λ_=>⟨_,rfl,?_⟩⟩
 rw[show Lib.cut (⟨s.toArray⟩:ByteArray).data.toList (⟨sep.toArray⟩:ByteArray).data.toList=DZ s sep from TP s sep]
 exact RD.zp4 RD.str RD.str RD.bool
def t104:=t103.d zhA
theorem zic:q8 Pz 209 ⟨[.ty (.int .i32)],[.bool],λx=>s7 x⟩:=wo t104 rn hN func209 [] zf
def t105:=t104.d zic
theorem z8x(w:World):Go.Proofs.PredAtRunes Tryz.prog 209 #[] (λn=>n==32) w:=λzk x N I=>by
 show Calls Tryz.prog 209 #[.int .i32 (x:Int)] zk _
 have hn:Tryz.f209.ntmps=5:=by kernel_rfl
 have J:((x:Int)==32)=(x==32):=by rw[Bool.eq_iff_iff,beq_iff_eq,beq_iff_eq]; omega
 go_enter Tryz.func209,hn
 go_wp2
 go_ret
 exact⟨by rw[<- J]; rfl,0,rfl⟩
theorem zib:q8 Tryz.prog 208 ⟨[.ty .str,.wg 209 []],[.sl .str],λx=>strings_FieldsFunc x.1 (λz0=>s7 z0)⟩:=by
 refine jA Tryz.func208 (by kernel_rfl) rfl λO x xb y hy B ha => ?_
 obtain⟨s,c⟩:=x
 obtain⟨h0,hy⟩:=hy
 cases hy
 obtain⟨v0,r,rfl,Kt,ha⟩:=wN.cons_inv (show wN O [.qi .str s,.wg 209 []] xb from ha)
 obtain⟨v1,r,rfl,IK,ha⟩:=ha.cons_inv
 rw[ha.wb,Kt.jb,IK.TF (by rfl)]
 refine(Go.Proofs.Tryz.strings_FieldsFunc_runes 209 #[] (λargs w=>nD Tryz.func209 (by kernel_rfl) rfl w) (λn=>n==32) ⟨s.toArray⟩ O.w (by rw[show(zF ⟨s.toArray⟩)=zH s from Y]; exact h0) (z8x O.w)).mono ?_
 rintro e w' ⟨A,rfl,hA,ho,hB⟩
 refine⟨hB,λ_=>⟨_,rfl,?_⟩⟩
 exact Ru s ho
def t106:=t105.d zib
theorem zhB:q8 Pz 154 ⟨[.ty .str],[(.sl .str)],λx=>sY x⟩:=wo t106 rn hN func154 [] zf
def t107:=t106.d zhB
theorem ziY:q8 Tryz.prog 266 ⟨[.ty .str,.ty .str],[i64],λx=>strings_IndexAny x.1 x.2⟩:=by
 refine jA Tryz.func266 (by kernel_rfl) rfl λO x xb y hy B ha => ?_
 obtain⟨s,chars⟩:=x
 obtain⟨⟨h0,h1,M,h3⟩,hy⟩:=hy
 cases hy
 obtain⟨v0,r,rfl,Kt,ha⟩:=wN.cons_inv (show wN O [.qi .str s,.qi .str chars] xb from ha)
 obtain⟨v1,r,rfl,IK,ha⟩:=ha.cons_inv
 rw[ha.wb,Kt.jb,IK.jb]
 refine(Go.Proofs.Any.Xu Go.Proofs.Tryz.lays153 (λ_=>by kernel_rfl) (by kernel_rfl) ⟨s.toArray⟩ ⟨chars.toArray⟩ O.w (by rw[show(zF ⟨chars.toArray⟩)=zH chars from Y]; exact h1) (by rw[show(zF ⟨s.toArray⟩)=zH s from Y]; exact h0) (by rw[show(zF ⟨chars.toArray⟩)=zH chars from Y]; exact M) h3).mono ?_
 rintro e w' ⟨rfl,hB⟩
 refine⟨hB,λ_=>⟨_,rfl,?_⟩⟩
 have e1:Lib.indexAny s chars=rf s chars:=HM chars s
 show RD _ (.qi i64 (rf s chars)) _
 rw[<- e1]
 exact RD.int
def t108:=t107.d ziY
def zmn:Hints:=Hz [] [(0,1,.flat [Mb 4])] []
theorem zjI:q8 Pz 325 ⟨[.ty .str,.ty .str],[.bool],λx=>jT x.1 x.2⟩:=wo t108 rn zmn func325 [] zf
def t109:=t108.d zjI
theorem ziZ:q8 Pz 267 ⟨[.ty .str,.ty .str],[.bool],λx=>strings_HasPrefix x.1 x.2⟩:=wo t109 rn hN func267 [] zf
def t110:=t109.d ziZ
def OE:q9:=Lz [] [] og [Me] λp s=>bq  s
def zfi:Hints:=Hz [(0,OE)] [(0,0,.flat [Mb 23])] []
theorem z7X:LO Tryz.f399 OE 0:=lk t110 rn zfi [] zf
theorem zkv:xv Pz 399 ⟨[.ptr],og,[],PV,0,λx=>dh x⟩:=eo t110 rn zfi func399 [0] (qh rfl z7X zf)
def t111:=t110.s zkv
theorem zk8:q8 Tryz.prog 356 ⟨[.ty .str,.ty (.int .u8)],[i64],λx=>strings_IndexByte x.1 x.2⟩:=by
 refine jA Tryz.func356 (by kernel_rfl) rfl λO x xb y hy B ha => ?_
 obtain⟨s,c⟩:=x
 cases hy
 obtain⟨v0,r,rfl,Kt,ha⟩:=wN.cons_inv (show wN O [.qi .str s,.qi (.int .u8) c] xb from ha)
 obtain⟨v1,r,rfl,IK,ha⟩:=ha.cons_inv
 rw[ha.wb,Kt.jb,IK.dJ]
 refine(Go.Proofs.Tryz.strings_IndexByte ⟨s.toArray⟩ c O.w).mono ?_
 rintro e w' ⟨rfl,rfl⟩
 refine⟨Zk _,λ_=>⟨_,rfl,?_⟩⟩
 have e1:Lib.indexByte s (byteOf c)=U1 s (byteOf c):=z69 s (byteOf c)
 show RD _ (.qi i64 (U1 s (byteOf c))) _
 rw[<- e1]
 exact RD.int
def t112:=t111.d zk8
def zmv:Hints:=Hz [] [(0,2,.ways [⟨.normal,⟨[Mb 30,.v (.qi xk)],[],Vs⟩⟩])] []
theorem zks:xv Pz 391 ⟨lA,⟨[Ms 1,.v (.qi xk)],[(0,.ptr 0 0)],Vs⟩,[],⟨[Mm 0 (.int .u8),.v (.qi xk)],[],Vs⟩,1,λx=>uB x.1 x.2⟩:=eo t112 rn zmv func391 [] zf
def t113:=t112.s zks
theorem zkb:jz Pz 360 ⟨Qd,⟨[Mi 1,Mi 2,.v (.qi xk)],[(0,.ptr 0 0)],Vs⟩,[],PV,0,416,tc,none,λx=>vn x.1 x.2.1 x.2.2⟩:=Kq t113 rn hN func360 [] zf
def t114:=t113.p zkb
theorem zkw:jz Pz 400 ⟨[.ptr],og,[],PV,0,416,tc,none,λx=>ku x⟩:=Kq t114 rn hN func400 [] zf
def t115:=t114.p zkw
def OF:q9:=Lz [] [.s 1 (.wg 257 []),Mi 2,Mi 7] og [Me] λp s=>y9 (λz0=>jZ z0) p.2.1 p.2.2 s
def zfj:Hints:=Hz [(0,OF)] [(0,2,.ways [z4n])] []
theorem z7Y:LO Tryz.f402 OF 0:=lk t115 rn zfj [] zf
theorem zky:xv Pz 402 ⟨[.ptr,.wg 257,.any],⟨[.s 1 (.wg 257 []),Mi 2,.v (.qi xk)],[(0,.ptr 0 0)],Vs⟩,[],z3R,1,λx=>uC (λz0=>jZ z0) x.2.1 x.2.2⟩:=eo t115 rn zfj func402 [0] (qh rfl z7Y zf)
def t116:=t115.s zky
theorem zj2:q8 Tryz.prog 270 ⟨[.ty .str,.ty .str],[.str,.bool],λx=>strings_CutPrefix x.1 x.2⟩:=by
 refine jA Tryz.func270 (by kernel_rfl) rfl λO x xb y hy B ha => ?_
 obtain⟨s,p⟩:=x
 cases hy
 obtain⟨v0,r,rfl,Kt,ha⟩:=wN.cons_inv (show wN O [.qi .str s,.qi .str p] xb from ha)
 obtain⟨v1,r,rfl,IK,ha⟩:=ha.cons_inv
 rw[ha.wb,Kt.jb,IK.jb]
 refine(Go.Proofs.Tryz.strings_CutPrefix ⟨s.toArray⟩ ⟨p.toArray⟩ O.w).mono ?_
 rintro e w' ⟨rfl,rfl⟩
 refine⟨Zk _,λ_=>⟨_,rfl,?_⟩⟩
 exact RD.z8P RD.str RD.bool
def t117:=t116.d zj2
def Ol:q9:=Lz [] [Mm 1 (.int .u8)] Qu [K5] λp s=>gW p s
def zfa:Hints:=Hz [(0,Ol)] [(0,1,.flat [Mb 16])] []
theorem z7I:LO Tryz.f362 Ol 0:=lk t117 rn zfa [] zf
theorem zkd:q8 Pz 362 ⟨[.ty .str,.ty (.int .u8)],[.str],λx=>strings_trimRightByte x.1 x.2⟩:=wo t117 rn zfa func362 [0] (qh rfl z7I zf)
def t118:=t117.d zkd
def Ok:q9:=Lz [] [Mm 1 (.int .u8)] Qu [K5] λp s=>bD p s
def zf9:Hints:=Hz [(0,Ok)] [(0,1,.flat [Mb 13])] []
theorem z7H:LO Tryz.f361 Ok 0:=lk t118 rn zf9 [] zf
theorem zkc:q8 Pz 361 ⟨[.ty .str,.ty (.int .u8)],[.str],λx=>strings_trimLeftByte x.1 x.2⟩:=wo t118 rn zf9 func361 [0] (qh rfl z7H zf)
def t119:=t118.d zkc
theorem zjG:q8 Tryz.prog 323 ⟨[.ty .str],[(mL .bool 256),.bool],λx=>strings_makeASCIISet x⟩:=by
 refine jA Tryz.func323 (by kernel_rfl) rfl λO s xb y hy B ha => ?_
 obtain⟨⟨h0,h1⟩,hy⟩:=hy
 cases hy
 obtain⟨v0,r,rfl,Kt,ha⟩:=wN.cons_inv (show wN O [.qi .str s] xb from ha)
 rw[ha.wb,Kt.jb]
 refine(Go.Proofs.Tryz.strings_makeASCIISet (λ_=>by kernel_rfl) ⟨s.toArray⟩ O.w (by rw[show(zF ⟨s.toArray⟩)=zH s from Y]; exact h0) (by simpa using h1)).mono ?_
 rintro e w' ⟨rfl,rfl⟩
 refine⟨Ju _ _,λ_=>⟨_,rfl,?_⟩⟩
 exact RD.z8P (To s) RD.bool
def t120:=t119.d zjG
theorem zjH:q8 Pz 324 ⟨[.rp (mL .bool 256),.ty (.int .u8)],[.bool],λx=>vf x.1 x.2⟩:=wo t120 rn hN func324 [] zf
def t121:=t120.d zjH
def On:q9:=Lz [] [Mr 1 (mL .bool 256)] Qu [K5] λp s=>uz p s
def zfc:Hints:=Hz [(0,On)] [] []
theorem z7K:LO Tryz.f364 On 0:=lk t121 rn zfc [] zf
theorem zkf:q8 Pz 364 ⟨[.ty .str,.rp (mL .bool 256)],[.str],λx=>jt x.1 x.2⟩:=wo t121 rn zfc func364 [0] (qh rfl z7K zf)
def t122:=t121.d zkf
def Om:q9:=Lz [] [Mr 1 (mL .bool 256)] Qu [K5] λp s=>uV p s
def zfb:Hints:=Hz [(0,Om)] [] []
theorem z7J:LO Tryz.f363 Om 0:=lk t122 rn zfb [] zf
theorem zke:q8 Pz 363 ⟨[.ty .str,.rp (mL .bool 256)],[.str],λx=>jL x.1 x.2⟩:=wo t122 rn zfb func363 [0] (qh rfl z7J zf)
def t123:=t122.d zke
def zmo:Hints:=Hz [] [(0,1,.flat [Mb 12]),(0,3,.flat [Mb 21])] []
theorem zjK:q8 Pz 328 ⟨[.ty .str,.ty .str],[.str],λx=>ca x.1 x.2⟩:=wo t123 rn zmo func328 [] zf
def t124:=t123.d zjK
def Ob:q9:=Lz [] [Mm 0 (.sl u32),Mm 1 (.sl u32),Mm 24 (.sl u32),Mi 25] ⟨[Mm 6 (.int .u64),Mi 26,.a u32],[(5,.cur 0 u32)],fu⟩ [⟨.exit 0,⟨[Mm 6 (.int .u64),.a u32],[(5,.cur 0 u32)],fu⟩⟩] λp s=>V4 p.1 p.2.1 p.2.2.1 p.2.2.2 s
def zf6:Hints:=Hz [(0,Ob)] [(3,2,.flat [Mm 0 (.sl u32),Mm 1 (.sl u32)]),(3,10,.flat [Mm 6 (.int .u64)])] [(16,[5])]
theorem z7y:LO Tryz.f329 Ob 0:=lk t124 rn zf6 [] zf
theorem zjL:q8 Pz 329 ⟨[.ty (.sl u32),.ty (.sl u32)],[(.sl u32)],λx=>Uc x.1 x.2⟩:=wo t124 rn zf6 func329 [0] (qh rfl z7y zf)
def t125:=t124.d zjL
def NO:q9:=Lz [] [Ms 0,Mi 19] ⟨[Mm 4 (.sl u32),Mi 20],[],[]⟩ [⟨.exit 0,⟨[Mm 4 (.sl u32)],[],[]⟩⟩] λp s=>ZS p.1 p.2 s
def zeQ:Hints:=Hz [(0,NO)] [(0,1,.ways [⟨.normal,⟨[Mb 17],[],[]⟩⟩])] []
theorem z7b:LO Tryz.f271 NO 0:=lk t125 rn zeQ [] zf
theorem zj3:q8 Pz 271 ⟨[.ty .str],[(.sl u32),.bool],λx=>lY x⟩:=wo t125 rn zeQ func271 [0] (qh rfl z7b zf)
def t126:=t125.d zj3
def zm9:Hints:=Hz [] [(0,9,.flat [Mb 58]),(3,13,.flat [Ms 14]),(0,17,.flat [Mb 94])] []
theorem zif:q8 Pz 212 ⟨[.ty .str],[zl,i64],λx=>p8 x⟩:=wo t126 rn zm9 func212 [] zf
def t127:=t126.d zif
def zmx:Hints:=Hz [] [(0,2,.flat [Mb 35]),(3,2,.ways [⟨.normal,⟨[Ms 3,.v (.qi xk),.v (.qi .expr)],[],PF⟩⟩,⟨.hH (.iface 416 .v8),⟨[Mm 0 uk,.v (.qi xk),.v (.qi .expr)],[],PF⟩⟩])] []
theorem zkx:jz Pz 401 ⟨[.ptr],og,[],Qt,1,416,tc,none,λx=>kt x⟩:=Kq t127 rn zmx func401 [] zf
def t128:=t127.p zkx
def Ba:q9:=Lz [] [.s 1 (.wg 197 []),Mi 2,Mi 7] og [Me] λp s=>y9 (λz0=>bQ z0) p.2.1 p.2.2 s
def z0t:Hints:=Hz [(0,Ba)] [(0,2,.ways [z4n])] []
theorem Sj:LO Tryz.f402 Ba 0:=lk t128 rn z0t [] zf
theorem P7:xv Pz 402 ⟨[.ptr,.wg 197,.any],⟨[.s 1 (.wg 197 []),Mi 2,.v (.qi xk)],[(0,.ptr 0 0)],Vs⟩,[],z3R,1,λx=>uC (λz0=>bQ z0) x.2.1 x.2.2⟩:=eo t128 rn z0t func402 [0] (qh rfl Sj zf)
def t129:=t128.s P7
abbrev zaJ:=um.den og->T (um.den Qt⊕um.den tc)
abbrev zlI(F:zaJ):=jz Pz 392 ⟨[.ptr],og,[],Qt,1,416,tc,none,F⟩
abbrev Wl:=um.den og->T (um.den Qt⊕um.den tc)
abbrev GK(F:Wl):=jz Pz 359 ⟨[.ptr],og,[],Qt,1,416,tc,none,F⟩
def zmw(Jq:zaJ)(vB:Wl):Hints:=Hz [] [(3,10,.ways [⟨.normal,z4h⟩,⟨.hH (.iface 416 .v8),z4d⟩]),(0,14,.ways [⟨.normal,⟨[Mb 46,.v (.qi xk),.v (.qi .expr)],[],PF⟩⟩]),(0,16,.ways [⟨.normal,⟨[Mb 71,.v (.qi xk),.v (.qi .expr)],[],PF⟩⟩])] []
theorem z8p(Jq:zaJ)(z0B:zlI Jq)(vB:Wl)(dn:GK vB):jz Pz 392 ⟨[.ptr],og,[],Qt,1,416,tc,none,λx=>uu (λy0=>Jq (y0)) (λy0=>vB (y0)) x⟩:=Kq (((t129.s P7).p dn).p z0B) rn (zmw Jq vB) func392 [] zf
theorem zkt(vB:Wl)(dn:GK vB):jz Pz 392 ⟨[.ptr],og,[],Qt,1,416,tc,none,λx=>vC (λy0=>vB (y0)) x⟩:=MG (λJq x=>uu (λy0=>Jq (y0)) (λy0=>vB (y0)) x) (λx=>rfl) (λJq z0B=>z8p Jq z0B vB dn)
def zdZ(vB:Wl)(dn:GK vB):Tb:=t129.p (zkt _ dn)
def OB(vB:Wl):q9:=Lz [] [Ms 2,Mr 7 uk] ⟨[.v (.qi xk),.v (.qi .expr),.v (.qi .expr)],[(0,.ptr 0 0),(1,.wg 1000392 [(0,0)]),(8,.ptr 1 0),(9,.ptr 2 0)],PC⟩ [⟨.ret,z4h⟩,⟨.hH (.iface 416 .v8),z4d⟩] λp s=>vd (λy0=>vB (y0)) p.1 p.2 s
def zff(vB:Wl):Hints:=Hz [(0,OB vB)] [] []
theorem z7U(vB:Wl)(dn:GK vB):LO Tryz.f379 (OB vB) 0:=lk (zdZ vB dn) (rz [7]) (zff vB) [] zf
theorem zkp(vB:Wl)(dn:GK vB):jz Pz 379 ⟨[.ptr,.wg 1000392,.any,.any],⟨[.s 1 (.mclo 1000392 [.pt 0]),Ms 2,Mm 3 uk,.v (.qi xk)],[(0,.ptr 0 0)],Vs⟩,[],Qt,1,416,tc,none,λx=>wq (λy0=>vB (y0)) x.1 x.2.1 x.2.2.1 x.2.2.2⟩:=Kq (zdZ vB dn) (rz [7]) (zff vB) func379 [0] (qh rfl (z7U vB dn) zf)
theorem zkq(vB:Wl)(dn:GK vB):jz Pz 380 ⟨[.ptr],og,[],Qt,1,416,tc,none,λx=>vt (λy0=>vB (y0)) x⟩:=Kq (t129.p (zkp _ dn)) rn hN func380 [] zf
def Tl(vB:Wl)(dn:GK vB):Tb:=t129.p (zkq _ dn)
def B9(vB:Wl):q9:=Lz [] [Ms 2,Mr 7 uk] ⟨[.v (.qi xk),.v (.qi .expr),.v (.qi .expr)],[(0,.ptr 0 0),(1,.wg 1000380 [(0,0)]),(8,.ptr 1 0),(9,.ptr 2 0)],PC⟩ [⟨.ret,z4h⟩,⟨.hH (.iface 416 .v8),z4d⟩] λp s=>wW (λy0=>vB (y0)) p.1 p.2 s
def z0s(vB:Wl):Hints:=Hz [(0,B9 vB)] [] []
theorem Si(vB:Wl)(dn:GK vB):LO Tryz.f379 (B9 vB) 0:=lk (Tl vB dn) (rz [7]) (z0s vB) [] zf
theorem z8o(vB:Wl)(dn:GK vB):jz Pz 379 ⟨[.ptr,.wg 1000380,.any,.any],⟨[.s 1 (.mclo 1000380 [.pt 0]),Ms 2,Mm 3 uk,.v (.qi xk)],[(0,.ptr 0 0)],Vs⟩,[],Qt,1,416,tc,none,λx=>wk (λy0=>vB (y0)) x.1 x.2.1 x.2.2.1 x.2.2.2⟩:=Kq (Tl vB dn) (rz [7]) (z0s vB) func379 [0] (qh rfl (Si vB dn) zf)
theorem z8m(vB:Wl)(dn:GK vB):jz Pz 359 ⟨[.ptr],og,[],Qt,1,416,tc,none,λx=>kV (λy0=>vB (y0)) x⟩:=Kq (t129.p (z8o _ dn)) rn hN func359 [] zf
theorem zka:jz Pz 359 ⟨[.ptr],og,[],Qt,1,416,tc,none,λx=>cJ x⟩:=MG (λvB x=>kV (λy0=>vB (y0)) x) (λx=>rfl) (λvB dn=>z8m vB dn)
def t130:=t129.p zka
theorem zk9:cx (Mf Pz) 358 ⟨[.ptr,.ptr,.ptr],⟨[.v (.qi .expr),.v (.qi i64),.v (.qi i64)],[(0,.ptr 0 0),(1,.ptr 1 0),(2,.ptr 2 0)],z3u⟩,[],z3M,0,λx=>gE x.1 x.2.1 x.2.2⟩:=fkr t130 rn hN Tryz.func358
theorem z8l:cx (R2 Pz 416) 358 ⟨[.ptr,.ptr,.ptr,.any],⟨[Mm 3 uk,.v (.qi .expr),.v (.qi i64),.v (.qi i64)],[(0,.ptr 0 0),(1,.ptr 1 0),(2,.ptr 2 0)],z3u⟩,[],z3M,0,λx=>yS x.1 x.2.1 x.2.2.1 x.2.2.2⟩:=fkh t130 rn hN Tryz.func358 3
theorem zjJ:xv Pz 326 ⟨[.ptr],og,[],⟨[Mm 0 .expr,Mi 1,Mi 2,.v (.qi xk)],[],Vs⟩,3,λx=>ig x⟩:=fkf t130 rn hN (g:=358) (pt:=416) zk9 z8l Tryz.func326
def t131:=t130.s zjJ
def zmg:Hints:=Hz [] [(0,5,.ways [⟨.normal,⟨[Mb 31,.v (.qi .expr),.v (.qi xk),.v (.qi .expr)],[],[.var (.qi .expr),.var (.qi xk),.var (.qi .expr)]⟩⟩])] []
theorem zj0:q8 Pz 268 ⟨[.ty .str],[.expr,i64,i64],λx=>r7 x⟩:=wo t131 rn zmg func268 [] zf
def t132:=t131.d zj0
theorem zj1:q8 Tryz.prog 269 ⟨[.ty .str,.ty .str],[.bool],λx=>strings_Contains x.1 x.2⟩:=by
 refine jA Tryz.func269 (by kernel_rfl) rfl λO x xb y hy B ha => ?_
 obtain⟨s,sub⟩:=x
 obtain⟨h0,hy⟩:=hy
 cases hy
 obtain⟨v0,r,rfl,Kt,ha⟩:=wN.cons_inv (show wN O [.qi .str s,.qi .str sub] xb from ha)
 obtain⟨v1,r,rfl,IK,ha⟩:=ha.cons_inv
 rw[ha.wb,Kt.jb,IK.jb]
 obtain⟨m,hm⟩:=kR B
 refine(Go.Proofs.Tryz.strings_Contains ⟨s.toArray⟩ ⟨sub.toArray⟩ m O.w (by rw[show(zF ⟨s.toArray⟩)=zH s from Y]; exact h0) hm).mono ?_
 rintro e w' ⟨rfl,rfl⟩
 refine⟨Zk _,λ_=>⟨_,rfl,?_⟩⟩
 have e1:Lib.contains s sub=decide ((0:Int)<=Ym s sub):=contains_eq s sub
 show RD _ (.qi .bool (decide ((0:Int)<=Ym s sub))) _
 rw[<- e1]
 exact RD.bool
def t133:=t132.d zj1
def zm7:Hints:=Hz [] [(0,6,.ways [⟨.normal,⟨[Mb 34,.v (.qi .expr),.v (.qi .expr)],[],FI⟩⟩]),(3,6,.ways [⟨.normal,⟨[Ms 6,Ms 10,.v (.qi .expr),.v (.qi .expr)],[],FI⟩⟩]),(0,12,.ways [⟨.normal,⟨[Mb 61,.v (.qi .expr),.v (.qi .expr)],[],FI⟩⟩]),(3,11,.ways [⟨.normal,⟨[Mi 7,.v (.qi .expr),.v (.qi .expr)],[],FI⟩⟩])] []
theorem zid:q8 Pz 210 ⟨[.ty .str,.ty .str],[.expr,.expr,.str,i64],λx=>dx x.1 x.2⟩:=wo t133 rn zm7 func210 [] zf
def t134:=t133.d zid
def zma:Hints:=Hz [] [(0,1,.flat [Mb 8])] []
theorem zig:q8 Pz 213 ⟨[.ty (.sl .str),.ty i64,.ty i64,.ty .str],[.bool],λx=>np x.1 x.2.1 x.2.2.1 x.2.2.2⟩:=wo t134 rn zma func213 [] zf
def t136:=t134.d zig
def zm8:Hints:=Hz [] [(0,3,.ways [⟨.normal,⟨[Mb 11],[],[]⟩⟩])] []
theorem zie:q8 Pz 211 ⟨[.ty (.sl .str),.ty i64],[.str,.bool],λx=>nn x.1 x.2⟩:=wo t136 rn zm8 func211 [] zf
def t137:=t136.d zie
def zb9:Hints:=Hz [] [(0,1,.ways [⟨.normal,⟨[Mb 29,.v Vt,.a qq,.a qf,.a xp,.a qu,.a xl,.a xj],[],Hj⟩⟩])] []
theorem OU:xv Pz 155 ⟨Qd,zai,[],z4c,1,λx=>ba x.1 x.2.1 x.2.2.1 x.2.2.2.1 x.2.2.2.2.1 x.2.2.2.2.2.1 x.2.2.2.2.2.2.1 x.2.2.2.2.2.2.2.1 x.2.2.2.2.2.2.2.2⟩:=eo t137 rn zb9 func155 [] zf
def t152:=t137.s OU
def zba:Hints:=Hz [] [(0,1,.ways [⟨.normal,⟨[Mb 31,.v Vt,.a qq,.a qf,.a xp,.a qu,.a xl,.a xj],[],Hj⟩⟩])] []
theorem OV:xv Pz 156 ⟨Qd,zai,[],z4c,1,λx=>bZ x.1 x.2.1 x.2.2.1 x.2.2.2.1 x.2.2.2.2.1 x.2.2.2.2.2.1 x.2.2.2.2.2.2.1 x.2.2.2.2.2.2.2.1 x.2.2.2.2.2.2.2.2⟩:=eo t152 rn zba func156 [] zf
def t153:=t152.s OV
def zbb:Hints:=Hz [] [(0,1,.ways [⟨.normal,⟨[Mb 26,.v Vt,.a qq,.a qf,.a xp,.a qu,.a xl,.a xj],[],Hj⟩⟩])] []
theorem OW:xv Pz 157 ⟨lA,PN,[],PT,1,λx=>bX x.1 x.2.1 x.2.2.1 x.2.2.2.1 x.2.2.2.2.1 x.2.2.2.2.2.1 x.2.2.2.2.2.2.1 x.2.2.2.2.2.2.2⟩:=eo t153 rn zbb func157 [] zf
def t154:=t153.s OW
def zbc:Hints:=Hz [] [(0,1,.ways [zao])] []
theorem OX:xv Pz 158 ⟨lA,PN,[],PT,1,λx=>cM x.1 x.2.1 x.2.2.1 x.2.2.2.1 x.2.2.2.2.1 x.2.2.2.2.2.1 x.2.2.2.2.2.2.1 x.2.2.2.2.2.2.2⟩:=eo t154 rn zbc func158 [] zf
def t155:=t154.s OX
def zbd:Hints:=Hz [] [(0,1,.ways [zao])] []
theorem OY:xv Pz 159 ⟨lA,PN,[],PT,1,λx=>bY x.1 x.2.1 x.2.2.1 x.2.2.2.1 x.2.2.2.2.1 x.2.2.2.2.2.1 x.2.2.2.2.2.2.1 x.2.2.2.2.2.2.2⟩:=eo t155 rn zbd func159 [] zf
def t156:=t155.s OY
def zlY:Hints:=Hz [] [(0,1,.ways [⟨.normal,⟨[Mb 23,.v Vt,.a qq,.a qf,.a xp,.a qu,.a xl,.a xj],[],Hj⟩⟩]),(0,5,.flat [Mb 44]),(3,5,.ways [zam]),(0,8,.ways [⟨.normal,⟨[Mb 68,.v Vt,.a qq,.a qf,.a xp,.a qu,.a xl,.a xj,.v (.qi qu)],[],[.var Vt,.arr qq,.arr qf,.arr xp,.arr qu,.arr xl,.arr xj,.var (.qi qu)]⟩⟩]),(3,8,.ways [zam])] []
theorem zhC:xv Pz 160 ⟨lA,PN,[],PT,1,λx=>cN x.1 x.2.1 x.2.2.1 x.2.2.2.1 x.2.2.2.2.1 x.2.2.2.2.2.1 x.2.2.2.2.2.2.1 x.2.2.2.2.2.2.2⟩:=eo t156 rn zlY func160 [] zf
def t157:=t156.s zhC
def h94:Hints:=Hz [] [(0,3,.flat [Mb 36]),(0,7,.flat [Mb 41]),(0,9,.flat [Mb 53])] []
theorem zoN:xv Pz 94 ⟨lA,⟨[Ms 1,.v Vt,.a qq,.a qf,.a xp,.a qu,.a xl,.a xj],[(0,.ptr 0 0)],Hj⟩,[],z4c,1,λx=>oR x.1 x.2.1 x.2.2.1 x.2.2.2.1 x.2.2.2.2.1 x.2.2.2.2.2.1 x.2.2.2.2.2.2.1 x.2.2.2.2.2.2.2⟩:=eo (((((t157.s OY).s OX).s OW).s OV).s OU) rn h94 func94 [] zf
def t158:=t157.s zoN
def z1D:q9:=Lz [.cell 0 5 xj,.cell 1 5 xj,.cell 0 4 xl,.cell 1 4 xl,.cell 0 0 qq,.cell 1 0 qq,.cell 0 1 qf,.cell 1 1 qf,.cell 0 2 xp,.cell 1 2 xp,.cell 0 3 qu,.cell 1 3 qu] [Mm 14 (.sl .str),Mi 15] ⟨[Mi 16,.v z3z,.v FL,.a xj,.a xj,.a xl,.a xl,.a qq,.a qq,.a qf,.a qf,.a xp,.a xp,.a qu,.a qu],[(2,.ptr 0 0),(5,.ptr 1 0)],zad⟩ [⟨.exit 0,⟨[.v z3z,.v FL,.a xj,.a xj,.a xl,.a xl,.a qq,.a qq,.a qf,.a qf,.a xp,.a xp,.a qu,.a qu],[],zad⟩⟩,⟨.ret,⟨[Mi 3,Mi 4,.v (.qi qy),.v FL,.a xj,.a xj,.a xl,.a xl,.a qq,.a qq,.a qf,.a qf,.a xp,.a xp,.a qu,.a qu],[],[.var (.qi qy),.var FL,.arr xj,.arr xj,.arr xl,.arr xl,.arr qq,.arr qq,.arr qf,.arr qf,.arr xp,.arr xp,.arr qu,.arr qu]⟩⟩] λp s=>iS p.1 p.2 s
def h39:Hints:=Hz [(0,z1D)] [] []
theorem zce:LO Tryz.f39 z1D 0:=lk t158 rn h39 [] zf
theorem zo1:q8 Pz 39 ⟨[.ty .str],[qy,i64,i64],λx=>nk x⟩:=wo t158 rn h39 func39 [0] (qh rfl zce zf)
def t159:=t158.d zo1
theorem znO:q8 Pz 22 ⟨[.ty qy],[qy],λx=>Zz x⟩:=wo t159 (rz [1]) hN func22 [] zf
def t160:=t159.d znO
def h42:Hints:=Hz [] [(3,2,.flat [Mm 3 (.int .u64)])] []
theorem zo4:q8 Pz 42 ⟨[.ty i64],[zl],λx=>yT x⟩:=wo t160 rn h42 func42 [] zf
def t161:=t160.d zo4
def zlZ:Hints:=Hz [] [(0,2,.flat [Mb 4])] []
theorem zhH:q8 Pz 165 ⟨[.ty qy,.ty xf],[.bool],λx=>QR x.1 x.2⟩:=wo t161 (rz [2,3]) zlZ func165 [] zf
def t162:=t161.d zhH
theorem zij:q8 Pz 216 ⟨[.ty zl],[.bool],λx=>bP x⟩:=wo t162 (rz [1]) hN func216 [] zf
def t163:=t162.d zij
def NF:q9:=Lz [] [Mm 0 (.sl zl),.s 1 (.wg 216 []),Mi 7] cR [kN,o9] λp s=>yP p.1 (λz0=>bP z0) p.2.2 s
def zeG:Hints:=Hz [(0,NF)] [] []
theorem z6V:LO Tryz.f227 NF 0:=lk t163 rn zeG [] zf
theorem ziv:q8 Pz 227 ⟨[.ty (.sl zl),.wg 216 []],[i64],λx=>kM x.1 (λz0=>bP z0)⟩:=wo t163 rn zeG func227 [0] (qh rfl z6V zf)
def t164:=t163.d ziv
theorem zhN:q8 Pz 172 ⟨[.ty (.sl zl),.wg 216 []],[.bool],λx=>vw x.1 (λz0=>bP z0)⟩:=wo t164 rn hN func172 [] zf
def t165:=t164.d zhN
def NN:q9:=Lz [.slot 3 .str] [Mm 7 (.sl qu),Mi 8] ⟨[Mi 9,.a .str],[(3,.cur 0 .str)],ny⟩ [⟨.exit 0,GC⟩] λp s=>pZ p.1 p.2 s
def zeP:Hints:=Hz [(0,NN)] [] []
theorem z7a:LO Tryz.f248 NN 0:=lk t165 (rz [1]) zeP [] zf
theorem ziQ:q8 Pz 248 ⟨[.ty qy],[(.sl .str)],λx=>sC x⟩:=wo t165 (rz [1]) zeP func248 [0] (qh rfl z7a zf)
def t166:=t165.d ziQ
def h59:Hints:=Hz [] [(0,1,.H8)] []
theorem zoi:q8 Pz 59 ⟨[.ty (.sl zl)],[(.sl zl)],λx=>bf x⟩:=wo t166 rn h59 func59 [] zf
def t167:=t166.d zoi
def Ns:q9:=Lz [.cell 0 0 .str,.cell 0 1 .str,.cell 1 1 .str] [Mm 14 (.sl qf),Mi 15] ⟨[Mi 16,.v z3C,.v z3B,.a .str,.a .str,.a .str],[(4,.ptr 0 0),(5,.ptr 1 0)],z3p⟩ [⟨.exit 0,⟨[.v z3C,.v z3B,.a .str,.a .str,.a .str],[],z3p⟩⟩] λp s=>QU p.1 p.2 s
def zeA:Hints:=Hz [(0,Ns)] [] []
theorem z6K:LO Tryz.f184 Ns 0:=lk t167 (rz [2]) zeA [] zf
theorem zhZ:q8 Pz 184 ⟨[.ty qy,.ty (.sl zl)],[wI],λx=>pX x.1 x.2⟩:=wo t167 (rz [2]) zeA func184 [0] (qh rfl z6K zf)
def t168:=t167.d zhZ
theorem zj9:q8 Pz 278 ⟨[.ty qq,.rp .str],[.bool],λx=>dI x.1 x.2⟩:=wo t168 (rz [2]) hN func278 [] zf
def t169:=t168.d zj9
def HV:q9:=Lz [] [Mm 0 (.sl qq),.s 1 (.wg 278 [.rp .str]),Mi 7] cR [kN,o9] λp s=>wY p.1 (λz0=>dI z0 p.2.1) p.2.2 s
def z0e:Hints:=Hz [(0,HV)] [] []
theorem S3:LO Tryz.f100 HV 0:=lk t169 rn z0e [] zf
theorem ON:q8 Pz 100 ⟨[.ty (.sl qq),.wg 278 [.rp .str]],[i64],λx=>wa x.1 (λz0=>dI z0 x.2)⟩:=wo t169 rn z0e func100 [0] (qh rfl S3 zf)
def t170:=t169.d ON
def zmc:Hints:=Hz [] [(0,2,.flat [Mb 6])] []
theorem zik:q8 Pz 217 ⟨[.ty qy,.ty (.sl .bool),.ty .str],[.bool],λx=>XL x.1 x.2.1 x.2.2⟩:=wo (t170.d ON) (rz [3,5]) zmc func217 [] zf
def t171:=t170.d zik
def zmq:Hints:=Hz [] [(0,1,.flat [Mb 12])] []
theorem zk2:q8 Pz 346 ⟨[.ty (.sl zl),.ty i64],[zl],λx=>lD x.1 x.2⟩:=wo t171 rn zmq func346 [] zf
def t172:=t171.d zk2
theorem zkg:q8 Pz 367 ⟨[.ty .str,.ty wI],[zq,i64],λx=>XE x.1 x.2⟩:=wo t172 (rz [3]) hN func367 [] zf
def t173:=t172.d zkg
theorem zjS:q8 Pz 336 ⟨[.ty zl,.ty zl],[zl],λx=>oL x.1 x.2⟩:=wo t173 rn hN func336 [] zf
def t174:=t173.d zjS
theorem zix:q8 Pz 229 ⟨[.ty zl],[.bool],λx=>iI x⟩:=wo t174 (rz [1]) hN func229 [] zf
def t175:=t174.d zix
def NW:q9:=Lz [.cell 0 1 qj,.cell 1 1 qj] [Mr 3 zl,Mm 17 (.sl qj),Mi 18] ⟨[Mi 19,.v BM,.v BN,.a qj,.a qj],[(4,.ptr 0 0),(5,.ptr 1 0)],z3w⟩ [z4o] λp s=>Zg p.1 p.2.1 p.2.2 s
def zeW:Hints:=Hz [(0,NW)] [] []
theorem z7j:LO Tryz.f281 NW 0:=lk t175 (rz [2,3]) zeW [] zf
theorem zjc:q8 Pz 281 ⟨[.ty zq,.ty zl],[zq],λx=>dC x.1 x.2⟩:=wo t175 (rz [2,3]) zeW func281 [0] (qh rfl z7j zf)
def t176:=t175.d zjc
def Oo:q9:=Lz [] [Mm 1 (.sl u32),Mm 22 (.sl u32),Mi 23] ⟨[Mm 7 u32,Mi 24,.a u32],[(6,.cur 0 u32)],fu⟩ [⟨.exit 0,⟨[.a u32],[(6,.cur 0 u32)],fu⟩⟩] λp s=>Vb p.1 p.2.1 p.2.2 s
def zfd:Hints:=Hz [(0,Oo)] [(3,10,.flat [Mm 10 u32])] [(14,[6])]
theorem z7L:LO Tryz.f369 Oo 0:=lk t176 rn zfd [] zf
theorem zki:q8 Pz 369 ⟨[.ty (.sl u32),.ty (.sl u32)],[(.sl u32),.bool],λx=>Uf x.1 x.2⟩:=wo t176 rn zfd func369 [0] (qh rfl z7L zf)
def t177:=t176.d zki
theorem zjR:q8 Pz 335 ⟨[.ty zl,.ty zl],[zl],λx=>oJ x.1 x.2⟩:=wo t177 rn hN func335 [] zf
def t178:=t177.d zjR
def NV:q9:=Lz [.cell 0 1 qj,.cell 1 1 qj] [] ⟨[Mm 6 (.sl qj),Mm 7 (.sl qj),.v BM,.v BN,.a qj,.a qj],[(4,.ptr 0 0),(5,.ptr 1 0)],z3w⟩ [z4o] λp s=>WL  s
def zeV:Hints:=Hz [(0,NV)] [(0,6,.flat [Mb 46]),(0,8,.flat [Mb 78]),(2,6,.ways [⟨.normal,⟨[Mm 6 (.sl qj),Mm 7 (.sl qj),.v BM,.v BN,.a qj,.a qj,.v (.qi qj)],[],[.var BM,.var BN,.arr qj,.arr qj,.var (.qi qj)]⟩⟩])] []
theorem z7i:LO Tryz.f280 NV 0:=lk t178 (rz [2,3]) zeV [] zf
theorem zjb:q8 Pz 280 ⟨[.ty zq,.ty zq],[zq],λx=>XC x.1 x.2⟩:=wo t178 (rz [2,3]) zeV func280 [0] (qh rfl z7i zf)
def t179:=t178.d zjb
theorem zjZ:q8 Pz 343 ⟨[.ty zl,.ty zl],[zl,.bool],λx=>sQ x.1 x.2⟩:=wo t179 (rz [2]) hN func343 [] zf
def t180:=t179.d zjZ
def zms:Hints:=Hz [] [(0,7,.flat [Mb 34])] []
theorem zkh:q8 Pz 368 ⟨[.ty i64,.ty zq,.ty zq],[zq,i64],λx=>Zh x.1 x.2.1 x.2.2⟩:=wo t180 (rz [4,5]) zms func368 [] zf
def t181:=t180.d zkh
abbrev ze1:=dQ [.ty .expr,.ty wI]->T (Dl [zq,i64])
abbrev zlH(F:ze1):=q8 Pz 334 ⟨[.ty .expr,.ty wI],[zq,i64],F⟩
theorem z8j(Hn:ze1)(z0A:zlH Hn):q8 Pz 334 ⟨[.ty .expr,.ty wI],[zq,i64],λx=>dD (λy0 y1=>Hn (y0,y1)) x.1 x.2⟩:=wo (t181.d z0A) (rz [2,3]) hN func334 [] zf
theorem zjQ:q8 Pz 334 ⟨[.ty .expr,.ty wI],[zq,i64],λx=>Kj x.1 x.2⟩:=Yf (λHn x=>dD (λy0 y1=>Hn (y0,y1)) x.1 x.2) (λx=>rfl) (λHn z0A=>z8j Hn z0A)
def t182:=t181.d zjQ
theorem zja:q8 Pz 279 ⟨[.ty .expr,.ty wI],[zq,i64],λx=>KQ x.1 x.2⟩:=wo t182 (rz [2,3]) hN func279 [] zf
def t183:=t182.d zja
theorem zil:q8 Pz 218 ⟨[.ty xl,.ty wI],[zq,i64],λx=>Zx x.1 x.2⟩:=wo t183 (rz [2,3]) hN func218 [] zf
def t184:=t183.d zil
theorem zje:q8 Pz 283 ⟨[.ty qj],[.bool],λx=>gQ x⟩:=wo t184 (rz [1]) hN func283 [] zf
def t185:=t184.d zje
def Oe:q9:=Lz [] [Mm 0 (.sl qj),.s 1 (.wg 283 []),Mi 7] cR [kN,o9] λp s=>yg p.1 (λz0=>gQ z0) p.2.2 s
def zf7:Hints:=Hz [(0,Oe)] [] []
theorem z7B:LO Tryz.f337 Oe 0:=lk t185 rn zf7 [] zf
theorem zjT:q8 Pz 337 ⟨[.ty (.sl qj),.wg 283 []],[i64],λx=>kg x.1 (λz0=>gQ z0)⟩:=wo t185 rn zf7 func337 [0] (qh rfl z7B zf)
def t186:=t185.d zjT
theorem zjd:q8 Pz 282 ⟨[.ty (.sl qj),.wg 283 []],[.bool],λx=>vW x.1 (λz0=>gQ z0)⟩:=wo t186 rn hN func282 [] zf
def t187:=t186.d zjd
theorem zim:q8 Pz 219 ⟨[.ty zq],[.bool],λx=>Zw x⟩:=wo t187 (rz [1]) hN func219 [] zf
def t188:=t187.d zim
def Nn:q9:=Lz [.cell 1 0 zq,.cell 1 1 i64] [Mm 2 (.sl .bool),Mr 3 qy,Mm 52 (.sl xl),Mi 53] ⟨[Mi 54,.v Dg,.v PK,.v (.qi wI),.a zq,.a i64],[(6,.ptr 0 0),(11,.ptr 1 0),(12,.ptr 2 0)],PA⟩ [⟨.exit 0,z3G⟩,zan] λp s=>fU p.1 p.2.1 p.2.2.1 p.2.2.2 s
def No:q9:=Lz [] [Mr 3 qy,Mi 92] ⟨[Mi 93,.v Dg,.v PK,.v (.qi wI),.a zq,.a i64],[(6,.ptr 0 0),(11,.ptr 1 0),(91,.cur 3 zq)],PA⟩ [⟨.exit 2,z3G⟩,zan] λp s=>fV p.1 p.2 s
def zbe:Hints:=Hz [(0,Nn),(2,No)] [(0,4,.ways [⟨.normal,⟨[Mb 46,.v Dg],[],[.var Dg]⟩⟩])] []
theorem z6F:LO Tryz.f166 Nn 0:=lk t188 (rz [3]) zbe [] zf
theorem z6G:LO Tryz.f166 No 2:=lk t188 (rz [3]) zbe [] zf
theorem zhI:xv Pz 166 ⟨[.any,.any,.any],⟨[Mm 0 qy,Mm 1 (.sl zl),Mm 2 (.sl .bool)],[],[]⟩,[],⟨[.s 0 (.st [.row 0 zq,.row 1 i64]),Ms 1,Mi 2,.a zq,.a i64],[],[.arr zq,.arr i64]⟩,3,λx=>mQ x.1 x.2.1 x.2.2⟩:=eo t188 (rz [3]) zbe func166 [0,2] (qh rfl z6F (qh rfl z6G zf))
def t189:=t188.s zhI
def zmh:Hints:=Hz [] [(0,1,.ways [⟨.normal,z3K⟩])] []
theorem zjt:q8 Pz 298 ⟨[.ty .bool,.ty zl],[zl],λx=>Vi x.1 x.2⟩:=wo t189 rn zmh func298 [] zf
def t190:=t189.d zjt
theorem ziB:q8 Pz 233 ⟨[.ty zl],[zl],λx=>Q1 x⟩:=wo t190 rn hN func233 [] zf
def t191:=t190.d ziB
theorem zhV:q8 Pz 180 ⟨[.ty i64,.ty zl],[zq],λx=>C9 x.1 x.2⟩:=wo t191 (rz [3]) hN func180 [] zf
def t192:=t191.d zhV
theorem zgW:xv Pz 107 ⟨[.ptr,.any,.any,.any],⟨[Mi 1,Mm 2 zl,Mi 3,.v Ki,.a zq,.a i64,.a i64],[(0,.ptr 0 0)],UN⟩,[],z4i,0,λx=>kJ x.1 x.2.1 x.2.2.1 x.2.2.2.1 x.2.2.2.2.1 x.2.2.2.2.2.1 x.2.2.2.2.2.2⟩:=eo t192 (rz [6]) hN func107 [] zf
def t193:=t192.s zgW
def z1T:q9:=Lz [.cell 3 7 i64] [Mr 3 xf,Mi 53] ⟨[Mi 54,.a zq,.a i64,.v Dh,.v z8Z,.a i64],[(10,.ptr 3 0),(52,.cur 1 i64)],z3t⟩ [⟨.exit 1,z3H⟩] λp s=>pR p.1 p.2 s
def z1U:q9:=Lz [] [Mm 74 (.sl zm),Mi 75] ⟨[Mi 76,.a zq,.a i64,.v Dh,.v z8Z,.a i64],[(10,.ptr 3 0)],z3t⟩ [⟨.exit 3,z3H⟩] λp s=>pS p.1 p.2 s
def h97:Hints:=Hz [(1,z1T),(3,z1U)] [(0,4,.flat [Mb 30]),(3,19,.flat [Mi 15])] []
theorem zcu:LO Tryz.f97 z1T 1:=lk t193 (rz [2,3]) h97 [] zf
theorem zcv:LO Tryz.f97 z1U 3:=lk t193 (rz [2,3]) h97 [] zf
theorem zkD:jz Pz 97 ⟨Gy,z3S,[],⟨[Mi 2,.v Ki,.a zq,.a i64,.a i64],[(0,.ptr 0 0),(1,.wE)],UN⟩,3,0,⟨[.s 1 (.tight .str),Mi 2],[(0,.gS)],[]⟩,some 3,λx=>cW x.1 x.2⟩:=Kq t193 (rz [2,3]) h97 func97 [1,3] (qh rfl zcu (qh rfl zcv zf))
def t194:=t193.p zkD
def Ny:q9:=Lz [] [Mi 1,Mm 23 (.sl qj),Mi 24] ⟨[Mi 5,Mi 25],[],[]⟩ [kN,PY] λp s=>oX p.1 p.2.1 p.2.2 s
def zeF:Hints:=Hz [(0,Ny)] [(0,1,.ways [⟨.normal,⟨[Mb 21],[],[]⟩⟩]),(0,7,.ways [⟨.normal,⟨[Mb 51,.v (.qi qj)],[],[.var (.qi qj)]⟩⟩])] []
theorem z6P:LO Tryz.f222 Ny 0:=lk t194 (rz [2]) zeF [] zf
theorem ziq:q8 Pz 222 ⟨[.ty zq,.ty i64],[.bool],λx=>cT x.1 x.2⟩:=wo t194 (rz [2]) zeF func222 [0] (qh rfl z6P zf)
def t195:=t194.d ziq
theorem zio:q8 Pz 221 ⟨[.ty zq,.rp i64],[.bool],λx=>yQ x.1 x.2⟩:=wo t195 (rz [2]) hN func221 [] zf
def t196:=t195.d zio
def NX:q9:=Lz [] [Mm 0 (.sl zq),.s 1 (.wg 221 [.rp i64]),Mi 7] cR [kN,o9] λp s=>dy p.1 (λz0=>yQ z0 p.2.1) p.2.2 s
def zeX:Hints:=Hz [(0,NX)] [] []
theorem z7k:LO Tryz.f284 NX 0:=lk t196 rn zeX [] zf
theorem zjf:q8 Pz 284 ⟨[.ty (.sl zq),.wg 221 [.rp i64]],[i64],λx=>bA x.1 (λz0=>yQ z0 x.2)⟩:=wo t196 rn zeX func284 [0] (qh rfl z7k zf)
def t197:=t196.d zjf
theorem zin:q8 Pz 220 ⟨[.ty (.sl zq),.wg 221 [.rp i64]],[.bool],λx=>yO x.1 (λz0=>yQ z0 x.2)⟩:=wo t197 rn hN func220 [] zf
def t198:=t197.d zin
def Oq:q9:=Lz [] [] z3I [⟨.exit 0,⟨[Mi 1,.a i64],[],jM⟩⟩] λp s=>cz  s
def zfe:Hints:=Hz [(0,Oq)] [] []
theorem z7M:LO Tryz.f370 Oq 0:=lk t198 rn zfe [] zf
theorem zkj:xv Pz 370 ⟨[.sub,.any],z3I,[],⟨[Mi 0,.a i64],[],jM⟩,1,λx=>yH x.1 x.2.1 x.2.2⟩:=eo t198 rn zfe func370 [0] (qh rfl z7M zf)
def t199:=t198.s zkj
theorem zjU:xv Pz 338 ⟨[.sub,.any,.any],⟨[.s 0 (.sub 0 i64),Mi 1,Mi 2,.a i64],[],jM⟩,[],⟨[Mb 0,.a i64],[],jM⟩,1,λx=>b8 x.1 x.2.1 x.2.2.1 x.2.2.2⟩:=eo t199 rn hN func338 [] zf
def t200:=t199.s zjU
def NY:q9:=Lz [] [Mm 0 (.sl zq),Mi 1,Mi 18] ⟨[Mi 19,.a i64],[(6,.cur 0 i64)],jM⟩ [⟨.exit 0,⟨[.a i64],[(6,.cur 0 i64)],jM⟩⟩] λp s=>nO p.1 p.2.1 p.2.2 s
def O0:q9:=Lz [] [Mi 1,Mi 9,Mm 27 (.sl zq),Mi 28,Mi 29] ⟨[Mi 8,Mi 11,.a i64,.v (.qi zq)],[(6,.cur 0 i64),(10,.ptr 1 0)],M4⟩ [⟨.exit 4,⟨[Mi 8,.a i64,.v (.qi zq)],[(6,.cur 0 i64)],M4⟩⟩] λp s=>eD p.1 p.2.1 p.2.2.1 p.2.2.2.1 p.2.2.2.2 s
def NZ:q9:=Lz [] [Mi 1,Mm 27 (.sl zq),Mi 28] ⟨[Mi 8,Mi 29,.a i64],[(6,.cur 0 i64)],jM⟩ [⟨.exit 2,⟨[Mi 8,.a i64],[(6,.cur 0 i64)],jM⟩⟩] λp s=>nP p.1 p.2.1 p.2.2 s
def z5y:Hints:=Hz [(0,NY),(4,O0),(2,NZ)] [(0,16,.ways [⟨.normal,⟨[Mb 62,.a i64,.v (.qi zq)],[(6,.cur 0 i64)],M4⟩⟩])] []
theorem z7l:LO Tryz.f285 NY 0:=lk t200 rn z5y [] zf
theorem z7n:LO Tryz.f285 O0 4:=lk t200 rn z5y [] zf
theorem z7m:LO Tryz.f285 NZ 2:=lk t200 rn z5y [4] (qh rfl z7n zf)
theorem zjg:q8 Pz 285 ⟨[.ty (.sl zq),.ty i64],[(.sl i64),i64],λx=>ZH x.1 x.2⟩:=wo t200 rn z5y func285 [0,2] (qh rfl z7l (qh rfl z7m zf))
def t201:=t200.d zjg
theorem zir:q8 Pz 223 ⟨[.ty (.sl zq),.ty i64],[i64],λx=>mV x.1 x.2⟩:=wo t201 rn hN func223 [] zf
def t202:=t201.d zir
def h61:Hints:=Hz [] [(0,1,.H8)] []
theorem zcI:xv Pz 61 ⟨[.any],⟨[Mm 0 (.sl i64)],[],[]⟩,[],M9,1,λx=>uQ x⟩:=eo t202 rn h61 func61 [] zf
def t203:=t202.s zcI
theorem zkm:q8 Pz 374 ⟨[.ty (.int .u64),.ty (.int .u64)],[(.int .u64),(.int .u64)],λx=>nS x.1 x.2⟩:=wo t203 rn hN func374 [] zf
def t204:=t203.d zkm
theorem zk0:q8 Pz 344 ⟨[.ty (.int .u64),.ty (.int .u64)],[(.int .u64),(.int .u64)],λx=>mG x.1 x.2⟩:=wo t204 rn hN func344 [] zf
def t205:=t204.d zk0
def O6:q9:=Lz [] [] ⟨[Mi 8,.a i64],[(7,.cur 0 i64)],jM⟩ [⟨.exit 0,⟨[.a i64],[(7,.cur 0 i64)],jM⟩⟩] λp s=>gn  s
def zf1:Hints:=Hz [(0,O6)] [(0,4,.flat [Mb 26])] []
theorem z7t:LO Tryz.f293 O6 0:=lk t205 rn zf1 [] zf
theorem zjo:xv Pz 293 ⟨Gy,⟨[Mm 0 (.sl i64),Mi 1],[],[]⟩,[],M9,1,λx=>yk x.1 x.2⟩:=eo t205 rn zf1 func293 [0] (qh rfl z7t zf)
def t206:=t205.s zjo
theorem zk1:q8 Pz 345 ⟨[.ty qj,.rp i64],[.bool],λx=>bN x.1 x.2⟩:=wo t206 (rz [2]) hN func345 [] zf
def t207:=t206.d zk1
def B7:q9:=Lz [] [Mm 0 (.sl qj),.s 1 (.wg 345 [.rp i64]),Mi 7] cR [kN,o9] λp s=>yg p.1 (λz0=>bN z0 p.2.1) p.2.2 s
def z0q:Hints:=Hz [(0,B7)] [] []
theorem Sf:LO Tryz.f337 B7 0:=lk t207 rn z0q [] zf
theorem P5:q8 Pz 337 ⟨[.ty (.sl qj),.wg 345 [.rp i64]],[i64],λx=>kg x.1 (λz0=>bN z0 x.2)⟩:=wo t207 rn z0q func337 [0] (qh rfl Sf zf)
def t208:=t207.d P5
theorem P2:q8 Pz 282 ⟨[.ty (.sl qj),.wg 345 [.rp i64]],[.bool],λx=>vW x.1 (λz0=>bN z0 x.2)⟩:=wo (t208.d P5) rn hN func282 [] zf
def t209:=t208.d P2
theorem zjp:q8 Pz 294 ⟨[.ty zq,.ty i64],[.bool],λx=>XH x.1 x.2⟩:=wo (t209.d P2) (rz [2,3]) hN func294 [] zf
def t210:=t209.d zjp
theorem zjq:q8 Pz 295 ⟨[.ty (.sl zq),.ty i64],[.bool],λx=>oy x.1 x.2⟩:=wo t210 rn hN func295 [] zf
def t211:=t210.d zjq
def NH:q9:=Lz [] [Mm 0 (.sl zq),Mm 1 (.sl i64),Mi 2,Mm 38 (.sl zq),Mi 39] ⟨[Mi 40,.a i64,.a i64,.v BP],[(8,.ptr 2 0)],M0⟩ [⟨.exit 0,⟨[.a i64,.a i64,.v BP],[],M0⟩⟩,⟨.ret,⟨[Mb 7,.a i64,.a i64,.v BP],[(6,.gS)],M0⟩⟩] λp s=>fH p.1 p.2.1 p.2.2.1 p.2.2.2.1 p.2.2.2.2 s
def zeJ:Hints:=Hz [(0,NH)] [(0,1,.flat [Mb 29]),(0,11,.ways [⟨.normal,⟨[Mb 68,.a i64,.a i64,.v BP,.v (.qi zq)],[],[.arr i64,.arr i64,.var BP,.var (.qi zq)]⟩⟩])] []
theorem z6X:LO Tryz.f230 NH 0:=lk t211 rn zeJ [] zf
theorem ziy:jz Pz 230 ⟨[.any,.any,.any],⟨[Mm 0 (.sl zq),Mm 1 (.sl i64),Mi 2],[],[]⟩,[],⟨[Mb 1,.v so,.a i64,.a i64],[(0,.ptr 0 0)],UM⟩,2,0,⟨[Mb 1],[(0,.gS)],[]⟩,some 2,λx=>bh x.1 x.2.1 x.2.2⟩:=Kq t211 rn zeJ func230 [0] (qh rfl z6X zf)
def t212:=t211.p ziy
def zfl:Hints:=Hz [] [(0,1,.H8)] []
theorem z2r:q8 Pz 61 ⟨[.ty (.sl i64)],[(.sl i64)],λx=>kW x⟩:=wo t212 rn zfl func61 [] zf
def t213:=t212.d z2r
theorem zjW:q8 Pz 340 ⟨[.ty i64],[.bool],λx=>cmp_isNaN_int x⟩:=wo t213 rn hN func340 [] zf
def t214:=t213.d zjW
theorem zjj:q8 Pz 288 ⟨[.ty i64,.ty i64],[i64],λx=>cmp_Compare_int x.1 x.2⟩:=wo t214 rn hN func288 [] zf
def t215:=t214.d zjj
theorem zji:q8 Pz 287 ⟨[.ty i64,.ty i64,.rp (.sl zq)],[i64],λx=>wu x.1 x.2.1 x.2.2⟩:=wo t215 rn hN func287 [] zf
def t216:=t215.d zji
def Ou:q9:=Lz [] [Mi 1,Mi 2,.s 3 (.wg 287 [.rp (.sl zq)]),Mi 8] ⟨[.s 0 (.sub 0 i64),Mi 9,.a i64],[],jM⟩ [⟨.exit 2,z4k⟩] λp s=>uJ p.1 p.2.1 (λz0 z1=>wu z0 z1 p.2.2.1) p.2.2.2 s
def Ot:q9:=Lz [] [Mi 1,Mi 2,.s 3 (.wg 287 [.rp (.sl zq)])] ⟨[.s 0 (.sub 0 i64),Mi 8,.a i64],[],jM⟩ [⟨.exit 0,td⟩] λp s=>uI p.1 p.2.1 (λz0 z1=>wu z0 z1 p.2.2) s
def zbk:Hints:=Hz [(2,Ou),(0,Ot)] [(0,4,.ways [⟨.normal,⟨[.s 0 (.sub 0 i64),Mb 34,.a i64],[],jM⟩⟩])] []
theorem z7O:LO Tryz.f371 Ou 2:=lk t216 rn zbk [] zf
theorem z7N:LO Tryz.f371 Ot 0:=lk t216 rn zbk [2] (qh rfl z7O zf)
theorem zkk:xv Pz 371 ⟨[.sub,.any,.any,.wg 287],⟨[.s 0 (.sub 0 i64),Mi 1,Mi 2,.s 3 (.wg 287 [.rp (.sl zq)]),.a i64],[],jM⟩,[],td,0,λx=>va x.1 x.2.1 x.2.2.1 (λz0 z1=>wu z0 z1 x.2.2.2.1) x.2.2.2.2⟩:=eo t216 rn zbk func371 [0] (qh rfl z7N zf)
def t217:=t216.s zkk
def OD:q9:=Lz [] [Mi 1,Mi 2,Mi 3] z4g [⟨.exit 0,td⟩] λp s=>js p.1 p.2.1 p.2.2 s
def zfh:Hints:=Hz [(0,OD)] [] []
theorem z7W:LO Tryz.f394 OD 0:=lk t217 rn zfh [] zf
theorem zku:xv Pz 394 ⟨[.sub,.any,.any,.any,.wg 287],BQ,[],td,0,λx=>wZ x.1 x.2.1 x.2.2.1 x.2.2.2.1 (λz0 z1=>wu z0 z1 x.2.2.2.2.1) x.2.2.2.2.2⟩:=eo t217 rn zfh func394 [0] (qh rfl z7W zf)
def t218:=t217.s zku
def OC:q9:=Lz [] [Mi 2,.s 4 (.wg 287 [.rp (.sl zq)])] zak [⟨.exit 0,z4g⟩] λp s=>kB p.1 (λz0 z1=>wu z0 z1 p.2) s
def zfg:Hints:=Hz [(0,OC)] [] []
theorem z7V:LO Tryz.f383 OC 0:=lk t218 rn zfg [] zf
theorem zkr:xv Pz 383 ⟨[.sub,.any,.any,.any,.wg 287],BQ,[],td,0,λx=>jq x.1 x.2.1 x.2.2.1 x.2.2.2.1 (λz0 z1=>wu z0 z1 x.2.2.2.2.1) x.2.2.2.2.2⟩:=eo t218 rn zfg func383 [0] (qh rfl z7V zf)
def t219:=t218.s zkr
abbrev Vy:=um.den BQ->T (um.den td)
abbrev I0(F:Vy):=xv Pz 372 ⟨[.sub,.any,.any,.any,.wg 287],BQ,[],td,0,F⟩
def R6(vq:Vy)(eZ:I0 vq):Tb:=t219.s eZ
def Ow(vq:Vy):q9:=Lz [] [Mi 1,.s 4 (.wg 287 [.rp (.sl zq)])] zak [⟨.exit 0,z4g⟩] λp s=>ue (λy0 y1 y2 y3 y4 y5=>vq (y0,y1,y2,y3,y4,y5)) p.1 p.2 s
def Ox(vq:Vy):q9:=Lz [] [Mi 10] ⟨[.s 0 (.sub 0 i64),Mi 13,.a i64],[],jM⟩ [⟨.exit 2,td⟩] λp s=>uf (λy0 y1 y2 y3 y4 y5=>vq (y0,y1,y2,y3,y4,y5)) p s
def Oy(vq:Vy):q9:=Lz [] [Mi 2,.s 4 (.wg 287 [.rp (.sl zq)])] ⟨[.s 0 (.sub 0 i64),Mi 14,Mi 15,.a i64],[],jM⟩ [⟨.exit 4,⟨[.s 0 (.sub 0 i64),Mi 14,.a i64],[],jM⟩⟩] λp s=>ug (λy0 y1 y2 y3 y4 y5=>vq (y0,y1,y2,y3,y4,y5)) p.1 p.2 s
def Oz(vq:Vy):q9:=Lz [] [Mi 14] ⟨[.s 0 (.sub 0 i64),Mi 17,.a i64],[],jM⟩ [⟨.exit 6,td⟩] λp s=>uh (λy0 y1 y2 y3 y4 y5=>vq (y0,y1,y2,y3,y4,y5)) p s
def OA(vq:Vy):q9:=Lz [] [Mi 1,Mi 2,Mi 3,.s 4 (.wg 287 [.rp (.sl zq)]),Mi 18,Mi 19,Mi 22] ⟨[.s 0 (.sub 0 i64),Mi 20,Mi 21,.a i64],[],jM⟩ [⟨.exit 8,⟨[.s 0 (.sub 0 i64),Mi 20,.a i64],[],jM⟩⟩] λp s=>ui (λy0 y1 y2 y3 y4 y5=>vq (y0,y1,y2,y3,y4,y5)) p.1 p.2.1 p.2.2.1 p.2.2.2.1 p.2.2.2.2.1 p.2.2.2.2.2.1 p.2.2.2.2.2.2 s
def RC(vq:Vy):Hints:=Hz [(0,Ow vq),(2,Ox vq),(4,Oy vq),(6,Oz vq),(8,OA vq)] [(3,27,.flat [Mi 20,Mi 21]),(0,39,.flat [Mb 185]),(3,39,.ways [⟨.normal,z4k⟩]),(0,41,.flat [Mb 199]),(3,41,.ways [⟨.normal,z4k⟩]),(0,43,.flat [Mb 213])] []
theorem z7P(vq:Vy)(eZ:I0 vq):LO Tryz.f372 (Ow vq) 0:=lk (R6 vq eZ) rn (RC vq) [] zf
theorem z7Q(vq:Vy)(eZ:I0 vq):LO Tryz.f372 (Ox vq) 2:=lk (R6 vq eZ) rn (RC vq) [] zf
theorem z7R(vq:Vy)(eZ:I0 vq):LO Tryz.f372 (Oy vq) 4:=lk (R6 vq eZ) rn (RC vq) [] zf
theorem z7S(vq:Vy)(eZ:I0 vq):LO Tryz.f372 (Oz vq) 6:=lk (R6 vq eZ) rn (RC vq) [] zf
theorem z7T(vq:Vy)(eZ:I0 vq):LO Tryz.f372 (OA vq) 8:=lk (R6 vq eZ) rn (RC vq) [] zf
theorem z8n(vq:Vy)(eZ:I0 vq):xv Pz 372 ⟨[.sub,.any,.any,.any,.wg 287],BQ,[],td,0,λx=>vx (λy0 y1 y2 y3 y4 y5=>vq (y0,y1,y2,y3,y4,y5)) x.1 x.2.1 x.2.2.1 x.2.2.2.1 x.2.2.2.2.1 x.2.2.2.2.2⟩:=eo (R6 vq eZ) rn (RC vq) func372 [0,2,4,6,8] (qh rfl (z7P vq eZ) (qh rfl (z7Q vq eZ) (qh rfl (z7R vq eZ) (qh rfl (z7S vq eZ) (qh rfl (z7T vq eZ) zf)))))
theorem zkl:xv Pz 372 ⟨[.sub,.any,.any,.any,.wg 287],BQ,[],td,0,λx=>vP x.1 x.2.1 x.2.2.1 x.2.2.2.1 x.2.2.2.2.1 x.2.2.2.2.2⟩:=Ks (λvq x=>vx (λy0 y1 y2 y3 y4 y5=>vq (y0,y1,y2,y3,y4,y5)) x.1 x.2.1 x.2.2.1 x.2.2.2.1 x.2.2.2.2.1 x.2.2.2.2.2) (λx=>rfl) (λvq eZ=>z8n vq eZ)
def t220:=t219.s zkl
def Of:q9:=Lz [] [Mi 1,.s 2 (.wg 287 [.rp (.sl zq)]),Mi 6] z3D [⟨.exit 0,z3J⟩] λp s=>kF p.1 p.2.1 p.2.2 s
def Oh:q9:=Lz [] [Mi 1,.s 2 (.wg 287 [.rp (.sl zq)]),Mi 6] z3D [⟨.exit 4,z3J⟩] λp s=>kH p.1 p.2.1 p.2.2 s
def Og:q9:=Lz [] [Mi 1,.s 2 (.wg 287 [.rp (.sl zq)])] ⟨[.s 0 (.sub 0 i64),Mi 6,.a i64],[],jM⟩ [⟨.exit 2,td⟩] λp s=>kG p.1 p.2 s
def z5z:Hints:=Hz [(0,Of),(4,Oh),(2,Og)] [] []
theorem z7C:LO Tryz.f339 Of 0:=lk t220 rn z5z [] zf
theorem z7E:LO Tryz.f339 Oh 4:=lk t220 rn z5z [] zf
theorem z7D:LO Tryz.f339 Og 2:=lk t220 rn z5z [4] (qh rfl z7E zf)
theorem zjV:xv Pz 339 ⟨[.sub,.any,.wg 287],⟨[.s 0 (.sub 0 i64),Mi 1,.s 2 (.wg 287 [.rp (.sl zq)]),.a i64],[],jM⟩,[],td,0,λx=>jr x.1 x.2.1 x.2.2.1 x.2.2.2⟩:=eo t220 rn z5z func339 [0,2] (qh rfl z7C (qh rfl z7D zf))
def t221:=t220.s zjV
theorem zjh:xv Pz 286 ⟨[.sub,.wg 287],⟨[.s 0 (.sub 0 i64),.s 1 (.wg 287 [.rp (.sl zq)]),.a i64],[],jM⟩,[],td,0,λx=>uw x.1 x.2.1 x.2.2⟩:=eo t221 rn hN func286 [] zf
def t222:=t221.s zjh
def O1:q9:=Lz [] [Mm 0 (.sl i64),Mm 1 (.sl i64),Mi 12] z43 [kN,PY] λp s=>c8 p.1 p.2.1 p.2.2 s
def zeY:Hints:=Hz [(0,O1)] [] []
theorem z7o:LO Tryz.f289 O1 0:=lk t222 rn zeY [] zf
theorem zjk:q8 Pz 289 ⟨[.ty (.sl i64),.ty (.sl i64)],[.bool],λx=>kX x.1 x.2⟩:=wo t222 rn zeY func289 [0] (qh rfl z7o zf)
def t223:=t222.d zjk
abbrev R9:=um.den FN->T (um.den FP)
abbrev zav(F:R9):=xv Pz 347 ⟨lA,FN,[],FP,1,F⟩
def zdY(eT:R9)(JE:zav eT):Tb:=t223.s JE
def Oi(eT:R9):q9:=Lz [] [Mi 1,Mm 33 (.sl qj),Mi 34] ⟨[Mi 6,Mi 35,.v so,.a i64,.a i64],[(0,.ptr 0 0)],UM⟩ [⟨.exit 0,⟨[Mi 6,.v so,.a i64,.a i64],[],UM⟩⟩] λp s=>jY (λy0 y1 y2 y3=>eT (y0,y1,y2,y3)) p.1 p.2.1 p.2.2 s
def zf8(eT:R9):Hints:=Hz [(0,Oi eT)] [] []
theorem z7F(eT:R9)(JE:zav eT):LO Tryz.f347 (Oi eT) 0:=lk (zdY eT JE) rn (zf8 eT) [] zf
theorem z8k(eT:R9)(JE:zav eT):xv Pz 347 ⟨lA,FN,[],FP,1,λx=>j4 (λy0 y1 y2 y3=>eT (y0,y1,y2,y3)) x.1 x.2.1 x.2.2.1 x.2.2.2⟩:=eo (zdY eT JE) rn (zf8 eT) func347 [0] (qh rfl (z7F eT JE) zf)
theorem zk3:xv Pz 347 ⟨lA,FN,[],FP,1,λx=>jH x.1 x.2.1 x.2.2.1 x.2.2.2⟩:=Ks (λeT x=>j4 (λy0 y1 y2 y3=>eT (y0,y1,y2,y3)) x.1 x.2.1 x.2.2.1 x.2.2.2) (λx=>rfl) (λeT JE=>z8k eT JE)
def t224:=t223.s zk3
def O8:q9:=Lz [] [Mm 27 (.sl qj),Mi 28] ⟨[Mi 7,Mi 8,Mi 29,.v FM,.v .mp,.a i64,.a i64],[(0,.ptr 0 0),(2,.yJ 1)],PD⟩ [⟨.exit 0,⟨[Mi 7,.v FM,.v .mp,.a i64,.a i64],[],PD⟩⟩] λp s=>yY p.1 p.2 s
def zf3:Hints:=Hz [(0,O8)] [(0,6,.flat [Mb 46])] []
theorem z7v:LO Tryz.f297 O8 0:=lk t224 rn zf3 [] zf
theorem zjs:xv Pz 297 ⟨Qd,⟨[Mi 1,.v FM,.v .mp,.a i64,.a i64],[(0,.ptr 0 0),(2,.yJ 1)],PD⟩,[],⟨[Mi 0,.v FM,.v .mp,.a i64,.a i64],[],PD⟩,1,λx=>y7 x.1 x.2.1 x.2.2.1 x.2.2.2.1 x.2.2.2.2⟩:=eo t224 rn zf3 func297 [0] (qh rfl z7v zf)
def t225:=t224.s zjs
def O3:q9:=Lz [] [Mi 6,Mm 54 (.sl qj),Mi 55] ⟨[Mi 56,.v so,.a i64,.a i64,.v .mp],[(0,.ptr 0 0),(4,.yJ 3)],z3o⟩ [⟨.exit 2,PS⟩] λp s=>yD p.1 p.2.1 p.2.2 s
def O2:q9:=Lz [] [] ⟨[Mi 1,.v so,.a i64,.a i64,.v .mp],[(0,.ptr 0 0),(4,.yJ 3)],z3o⟩ [⟨.exit 0,PS⟩,⟨.ret,PS⟩] λp s=>yC  s
def zbh:Hints:=Hz [(2,O3),(0,O2)] [(3,5,.ways [⟨.normal,PS⟩])] []
theorem z7q:LO Tryz.f290 O3 2:=lk t225 rn zbh [] zf
theorem z7p:LO Tryz.f290 O2 0:=lk t225 rn zbh [2] (qh rfl z7q zf)
theorem zjl:xv Pz 290 ⟨lA,FN,[],⟨[.v so,.a i64,.a i64],[],UM⟩,0,λx=>kI x.1 x.2.1 x.2.2.1 x.2.2.2⟩:=eo t225 rn zbh func290 [0] (qh rfl z7p zf)
def t226:=t225.s zjl
def z4W:Tb:=t226.d z2r
def Nz:q9:=Lz [.slot 10 i64] [Mr 3 (.sl zq),Mi 27] ⟨[Mi 28,.v so,.a i64,.a i64,.a i64],[(8,.ptr 0 0),(10,.cur 3 i64)],BJ⟩ [⟨.exit 0,z3F⟩] λp s=>nI p.1 p.2 s
def NB:q9:=Lz [] [.s 12 (.sj i64),Mi 57] ⟨[Mi 58,.v so,.a i64,.a i64,.a i64],[(8,.ptr 0 0),(10,.cur 3 i64),(56,.cur 3 i64)],BJ⟩ [⟨.exit 4,z3F⟩] λp s=>nK p.1 p.2 s
def NA:q9:=Lz [] [] ⟨[.s 12 (.sj i64),.v so,.a i64,.a i64,.a i64],[(8,.ptr 0 0),(10,.cur 3 i64)],BJ⟩ [⟨.exit 2,⟨[.v so,.a i64,.a i64,.a i64],[],BJ⟩⟩] λp s=>nJ  s
def z5x:Hints:=Hz [(0,Nz),(4,NB),(2,NA)] [(0,12,.ways [⟨.normal,⟨[Mb 49,.v so,.a i64,.a i64,.a i64],[(10,.cur 3 i64)],BJ⟩⟩])] []
theorem z6Q:LO Tryz.f224 Nz 0:=lk z4W (rz [3,50]) z5x [] zf
theorem z6S:LO Tryz.f224 NB 4:=lk z4W (rz [3,50]) z5x [] zf
theorem z6R:LO Tryz.f224 NA 2:=lk z4W (rz [3,50]) z5x [4] (qh rfl z6S zf)
theorem zis:q8 Pz 224 ⟨[.ty (.sl zq),.ty (.sl i64),.ty i64],[(.sl i64),.bool],λx=>oq x.1 x.2.1 x.2.2⟩:=wo z4W (rz [3,50]) z5x func224 [0,2] (qh rfl z6Q (qh rfl z6R zf))
def t227:=t226.d zis
theorem zit:q8 Pz 225 ⟨[.ty zq],[.bool],λx=>Q8 x⟩:=wo t227 (rz [1]) hN func225 [] zf
def t228:=t227.d zit
theorem zhT:q8 Pz 178 ⟨[.ty (.sl zq),.ty (.sl i64),.ty i64],[.bool],λx=>tJ x.1 x.2.1 x.2.2⟩:=wo t228 rn hN func178 [] zf
def t229:=t228.d zhT
def Nr:q9:=Lz [] [Mm 0 (.sl i64),Mi 1,Mi 7] cR [kN,o9] λp s=>yj p.1 p.2.1 p.2.2 s
def zez:Hints:=Hz [(0,Nr)] [] []
theorem z6J:LO Tryz.f181 Nr 0:=lk t229 rn zez [] zf
theorem zhW:q8 Pz 181 ⟨[.ty (.sl i64),.ty i64],[i64],λx=>uG x.1 x.2⟩:=wo t229 rn zez func181 [0] (qh rfl z6J zf)
def t230:=t229.d zhW
theorem zhS:q8 Pz 177 ⟨[.ty (.sl i64),.ty i64],[.bool],λx=>jl x.1 x.2⟩:=wo t230 rn hN func177 [] zf
def t231:=t230.d zhS
theorem zjY:xv Pz 342 ⟨[.any,.any,.any,.ptr],⟨[Mm 0 qj,Mr 1 (.sl i64),Mr 2 i64,.a i64],[(3,.ptr 0 0)],[.cvar (.cur 1 i64),.arr i64]⟩,[],z4e,1,λx=>cL x.1 x.2.1 x.2.2.1 x.2.2.2⟩:=eo t231 (rz [4]) hN func342 [] zf
def t232:=t231.s zjY
def B8:q9:=Lz [] [Mm 0 (.sl qj),Mi 7] ⟨[.s 1 (.mclo 342 [.rp (.sl i64),.rp i64,.pt 0]),Mi 8,.a i64],[],[.cvar (.cur 1 i64),.arr i64]⟩ [⟨.exit 0,⟨[.a i64],[],[.cvar (.cur 1 i64),.arr i64]⟩⟩,⟨.ret,⟨[Mi 4,.a i64],[],[.cvar (.cur 1 i64),.arr i64]⟩⟩] λp s=>vp p.1 p.2 s
def z0r:Hints:=Hz [(0,B8)] [] []
theorem Sh:LO Tryz.f337 B8 0:=lk t232 rn z0r [] zf
theorem P6:xv Pz 337 ⟨[.any,.wg 342],zag,[],⟨[Mi 0,.a i64],[],[.cvar (.cur 1 i64),.arr i64]⟩,1,λx=>vL x.1 x.2.1 x.2.2⟩:=eo t232 rn z0r func337 [0] (qh rfl Sh zf)
def t233:=t232.s P6
theorem P3:xv Pz 282 ⟨[.any,.wg 342],zag,[],z4e,1,λx=>wG x.1 x.2.1 x.2.2⟩:=eo (t233.s P6) rn hN func282 [] zf
def t234:=t233.s P3
theorem zjX:xv Pz 341 ⟨[.any,.ptr,.any,.any],⟨[Mi 0,Mr 2 (.sl zq),Mr 3 (.sl i64),.a i64],[(1,.ptr 0 0)],[.cvar (.cur 1 i64),.arr i64]⟩,[],z4e,1,λx=>iP x.1 x.2.1 x.2.2.1 x.2.2.2⟩:=eo (t234.s P3) (rz [4]) hN func341 [] zf
def t235:=t234.s zjX
def zdX:Tb:=t235.s zcI
def O4:q9:=Lz [.slot 9 i64] [Mr 3 (.sl zq)] ⟨[.s 8 (.mclo 341 [.pt 1,.rp (.sl zq),.rp (.sl i64)]),Mi 10,.a i64,.a i64],[(7,.ptr 1 0),(9,.cur 2 i64)],[.arr i64,.cvar (.cur 0 i64),.arr i64]⟩ [⟨.exit 0,⟨[.a i64,.a i64],[(9,.cur 2 i64)],[.arr i64,.cvar (.cur 0 i64),.arr i64]⟩⟩] λp s=>Q6 p s
def zeZ:Hints:=Hz [(0,O4)] [] []
theorem z7r:LO Tryz.f291 O4 0:=lk zdX (rz [3,4]) zeZ [] zf
theorem zjm:q8 Pz 291 ⟨[.ty (.sl zq),.ty (.sl i64),.ty i64],[(.sl i64)],λx=>Wb x.1 x.2.1 x.2.2⟩:=wo zdX (rz [3,4]) zeZ func291 [0] (qh rfl z7r zf)
def t236:=t235.d zjm
def O5:q9:=Lz [] [Mi 1,Mm 18 (.sl qj),Mi 19] ⟨[Mi 20,.a zl,.v (.qi zl),.v (.qi zl),.v (.qi zl)],[(2,.cur 0 zl),(6,.ptr 1 0),(7,.ptr 2 0),(8,.ptr 3 0)],z3n⟩ [⟨.exit 0,⟨[.a zl,.v (.qi zl),.v (.qi zl),.v (.qi zl)],[],z3n⟩⟩] λp s=>iR p.1 p.2.1 p.2.2 s
def zf0:Hints:=Hz [(0,O5)] [] []
theorem z7s:LO Tryz.f292 O5 0:=lk t236 (rz [3]) zf0 [] zf
theorem zjn:xv Pz 292 ⟨[.any,.any,.cur],⟨[Mm 0 zq,Mi 1,.a zl],[(2,.cur 0 zl)],tA⟩,[],⟨[Mm 0 zl,.a zl],[],tA⟩,1,λx=>sU x.1 x.2.1 x.2.2⟩:=eo t236 (rz [3]) zf0 func292 [0] (qh rfl z7s zf)
def t237:=t236.s zjn
def NC:q9:=Lz [.slot 9 zl] [Mm 0 (.sl zq),Mm 1 (.sl i64),Mm 2 (.sl zl),Mm 21 (.sl zl),Mi 22] ⟨[Mi 23,.a zl],[(9,.cur 0 zl)],tA⟩ [⟨.exit 0,z3X⟩] λp s=>Vm p.1 p.2.1 p.2.2.1 p.2.2.2.1 p.2.2.2.2 s
def ND:q9:=Lz [] [Mm 0 (.sl zq),Mm 1 (.sl i64),Mm 37 (.sl i64),Mi 38] ⟨[Mi 39,.a zl],[(9,.cur 0 zl)],tA⟩ [⟨.exit 2,z3X⟩,⟨.ret,⟨[Mi 7,Mi 8,.a zl],[(6,.wE)],tA⟩⟩] λp s=>Q7 p.1 p.2.1 p.2.2.1 p.2.2.2 s
def zbf:Hints:=Hz [(0,NC),(2,ND)] [] []
theorem z6T:LO Tryz.f226 NC 0:=lk t237 rn zbf [] zf
theorem z6U:LO Tryz.f226 ND 2:=lk t237 rn zbf [] zf
theorem ziu:q8 Pz 226 ⟨[.ty (.sl zq),.ty (.sl i64),.ty (.sl zl)],[(.sl zl),i64,i64],λx=>KI x.1 x.2.1 x.2.2⟩:=wo t237 rn zbf func226 [0,2] (qh rfl z6T (qh rfl z6U zf))
def t238:=t237.d ziu
def Np:q9:=Lz [] [Mm 0 (.sl zq),Mr 3 uW,Mm 9 (.sl i64),Mm 62 (.sl zq),Mi 63] ⟨[Mi 64,.v (.qi uW),.v (.qi i64)],[(4,.ptr 0 0)],PE⟩ [⟨.exit 0,⟨[.v (.qi uW),.v (.qi i64)],[],PE⟩⟩,⟨.ret,⟨[Mi 5,Mi 6,.v (.qi uW),.v (.qi i64)],[],PE⟩⟩] λp s=>sb p.1 p.2.1 p.2.2.1 p.2.2.2.1 p.2.2.2.2 s
def zex:Hints:=Hz [(0,Np)] [(0,2,.ways [⟨.normal,⟨[Mb 42,.v (.qi uW),.v (.qi i64)],[],PE⟩⟩]),(0,13,.ways [⟨.normal,⟨[Mb 83,.v (.qi uW),.v (.qi i64),.v (.qi zq)],[],[.var (.qi uW),.var (.qi i64),.var (.qi zq)]⟩⟩])] []
theorem z6H:LO Tryz.f167 Np 0:=lk t238 (rz [3]) zex [] zf
theorem zhJ:q8 Pz 167 ⟨[.ty (.sl zq),.ty uW],[uW,i64,i64],λx=>ta x.1 x.2⟩:=wo t238 (rz [3]) zex func167 [0] (qh rfl z6H zf)
def t239:=t238.d zhJ
theorem zhK:xv Pz 168 ⟨lA,⟨[Mi 1,.v (.qi ux)],[(0,.ptr 0 0)],Gz⟩,[],⟨[.s 0 (.tight .str),.v (.qi ux)],[],Gz⟩,1,λx=>cI x.1 x.2⟩:=eo t239 rn hN func168 [] zf
def t240:=t239.s zhK
theorem zoQ:xv Pz 98 ⟨lA,⟨[Mm 1 (.sl zl),.v (.qi ux)],[(0,.ptr 0 0)],Gz⟩,[],⟨[Mm 0 (.sl zl),.s 1 (.tight .str),Mi 2,.v (.qi ux)],[],Gz⟩,3,λx=>jQ x.1 x.2⟩:=eo t240 rn hN func98 [] zf
def t241:=t240.s zoQ
def zfk:Hints:=Hz [] [(0,1,.H8)] []
theorem z2q:xv Pz 59 ⟨[.any],⟨[Mm 0 (.sl zl)],[],[]⟩,[],z3Y,1,λx=>jK x⟩:=eo t241 rn zfk func59 [] zf
def t242:=t241.s z2q
def h60:Hints:=Hz [] [(0,1,.H8)] []
theorem zoj:xv Pz 60 ⟨[.any],⟨[Mm 0 (.sl .bool)],[],[]⟩,[],z3W,1,λx=>jk x⟩:=eo t242 rn h60 func60 [] zf
def t243:=t242.s zoj
def h62:Hints:=Hz [] [(0,1,.H8)] []
theorem zok:xv Pz 62 ⟨[.any],⟨[Mm 0 (.sl zm)],[],[]⟩,[],z3O,1,λx=>jE x⟩:=eo t243 rn h62 func62 [] zf
def t244:=t243.s zok
theorem znS:xv Pz 28 ⟨[.any],⟨[Mm 0 xf],[],[]⟩,[],⟨[.s 0 z3A,.a zl,.a .bool,.a zl,.a i64,.a zm,.a .bool],[],z3v⟩,1,λx=>lN x⟩:=eo ((t244.s zcI).s z2q) (rz [1]) hN func28 [] zf
def t245:=t244.s znS
def z1V:q9:=Lz [] [Mi 17] ⟨[Mi 18,.v (.qi ux),.v z3y,.v (.qi xf),.a zl,.a .bool,.a zl,.a i64,.a zm,.a .bool],[(0,.ptr 0 0),(4,.ptr 1 0),(6,.ptr 2 0)],z3q⟩ [⟨.exit 0,zaj⟩] λp s=>cX p s
def z1W:q9:=Lz [] [Mm 29 (.sl i64),Mi 30] ⟨[Mi 31,.v (.qi ux),.v z3y,.v (.qi xf),.a zl,.a .bool,.a zl,.a i64,.a zm,.a .bool],[(0,.ptr 0 0),(4,.ptr 1 0),(6,.ptr 2 0)],z3q⟩ [⟨.exit 2,zaj⟩] λp s=>cY p.1 p.2 s
def h99:Hints:=Hz [(0,z1V),(2,z1W)] [] []
theorem zcw:LO Tryz.f99 z1V 0:=lk t245 rn h99 [] zf
theorem zcx:LO Tryz.f99 z1W 2:=lk t245 rn h99 [] zf
theorem zoR:xv Pz 99 ⟨Qd,⟨[Mm 1 xf,Mm 2 (.sl zl),.v (.qi ux)],[(0,.ptr 0 0)],Gz⟩,[],⟨[.s 0 (.st [.row 1 zl,.row 2 .bool,.im (.sl zl),.row 3 i64,.row 4 zm,.row 5 .bool]),.v (.qi ux),.a zl,.a .bool,.a i64,.a zm,.a .bool],[],[.var (.qi ux),.arr zl,.arr .bool,.arr i64,.arr zm,.arr .bool]⟩,1,λx=>gy x.1 x.2.1 x.2.2⟩:=eo t245 rn h99 func99 [0,2] (qh rfl zcw (qh rfl zcx zf))
def t246:=t245.s zoR
def h43:Hints:=Hz [] [] [(4,[1001006,1001007,1001008])]
theorem zo5:xv Pz 43 ⟨Gy,z3S,[],zaf,3,λx=>dG x.1 x.2⟩:=eo t246 (rz [2,3]) h43 func43 [] zf
def t247:=t246.s zo5
def z1q:q9:=Lz [.cell 0 1 .bool,.cell 0 5 .bool,.cell 1 1 .bool,.cell 1 5 .bool,.cell 0 4 zm,.cell 1 4 zm,.cell 0 3 i64,.cell 1 3 i64,.cell 0 0 zl,.cell 0 2 zl,.cell 1 0 zl,.cell 1 2 zl] [Mr 1 qy,Mm 11 (.sl qf),Mi 12] ⟨[Mi 13,.v PH,.v PJ,.a .bool,.a .bool,.a .bool,.a .bool,.a zm,.a zm,.a i64,.a i64,.a zl,.a zl,.a zl,.a zl],[(2,.ptr 0 0),(5,.ptr 1 0)],z3r⟩ [⟨.exit 0,PM⟩] λp s=>Zp p.1 p.2.1 p.2.2 s
def z1r:q9:=Lz [] [Mr 1 qy,Mm 27 (.sl qq),Mi 28] ⟨[Mi 29,.v PH,.v PJ,.a .bool,.a .bool,.a .bool,.a .bool,.a zm,.a zm,.a i64,.a i64,.a zl,.a zl,.a zl,.a zl],[(2,.ptr 0 0),(5,.ptr 1 0)],z3r⟩ [⟨.exit 2,PM⟩] λp s=>Zq p.1 p.2.1 p.2.2 s
def z1s:q9:=Lz [] [Mr 1 qy,Mi 43] ⟨[Mi 44,.v PH,.v PJ,.a .bool,.a .bool,.a .bool,.a .bool,.a zm,.a zm,.a i64,.a i64,.a zl,.a zl,.a zl,.a zl],[(2,.ptr 0 0),(5,.ptr 1 0)],z3r⟩ [⟨.exit 4,PM⟩] λp s=>Zr p.1 p.2 s
def z1t:q9:=Lz [] [Mr 1 qy,Mi 67] ⟨[Mi 68,.v PH,.v PJ,.a .bool,.a .bool,.a .bool,.a .bool,.a zm,.a zm,.a i64,.a i64,.a zl,.a zl,.a zl,.a zl],[(2,.ptr 0 0),(5,.ptr 1 0)],z3r⟩ [⟨.exit 6,PM⟩] λp s=>Zs p.1 p.2 s
def h23:Hints:=Hz [(0,z1q),(2,z1r),(4,z1s),(6,z1t)] [] [(22,[1001000,1001001,1001002,1001003,1001004,1001005])]
theorem zc1:LO Tryz.f23 z1q 0:=lk t247 (rz [1]) h23 [] zf
theorem zc2:LO Tryz.f23 z1r 2:=lk t247 (rz [1]) h23 [] zf
theorem zc3:LO Tryz.f23 z1s 4:=lk t247 (rz [1]) h23 [] zf
theorem zc4:LO Tryz.f23 z1t 6:=lk t247 (rz [1]) h23 [] zf
theorem znP:xv Pz 23 ⟨[.any],z48,[],zaf,3,λx=>XK x⟩:=eo t247 (rz [1]) h23 func23 [0,2,4,6] (qh rfl zc1 (qh rfl zc2 (qh rfl zc3 (qh rfl zc4 zf))))
def t248:=t247.s znP
theorem zgR:q8 Pz 101 ⟨[.ty qq,.rp xp],[.bool],λx=>yv x.1 x.2⟩:=wo t248 (rz [2]) hN func101 [] zf
def t249:=t248.d zgR
def HW:q9:=Lz [] [Mm 0 (.sl qq),.s 1 (.wg 101 [.rp xp]),Mi 7] cR [kN,o9] λp s=>wY p.1 (λz0=>yv z0 p.2.1) p.2.2 s
def z0f:Hints:=Hz [(0,HW)] [] []
theorem S4:LO Tryz.f100 HW 0:=lk t249 rn z0f [] zf
theorem OO:q8 Pz 100 ⟨[.ty (.sl qq),.wg 101 [.rp xp]],[i64],λx=>wa x.1 (λz0=>yv z0 x.2)⟩:=wo t249 rn z0f func100 [0] (qh rfl S4 zf)
def t250:=t249.d OO
def T44:Tb:=t250.d OO
def z1E:q9:=Lz [.slot 5 .bool] [Mm 1 (.sl .bool),Mr 2 qy,Mm 10 (.sl xp),Mi 11] ⟨[Mi 12,.a .bool],[(5,.cur 0 .bool)],[.arr .bool]⟩ [z4p] λp s=>mc p.1 p.2.1 p.2.2.1 p.2.2.2 s
def h44:Hints:=Hz [(0,z1E)] [] []
theorem zcf:LO Tryz.f44 z1E 0:=lk T44 (rz [2]) h44 [] zf
theorem zkz:q8 Pz 44 ⟨[.ty qy,.ty (.sl .bool)],[(.sl .bool)],λx=>kf x.1 x.2⟩:=wo T44 (rz [2]) h44 func44 [0] (qh rfl zcf zf)
def t251:=t250.d zkz
end Go.AM.Lf
namespace Go.Proofs
open Go.RowKit Go.Shelf

attribute [local go_sem] zN

def PB.upto{α:Type}(f:Nat->α)(k:Nat):List α:=(List.range k).map f
theorem PB.Za{α:Type}(f:Nat->α)(k:Nat):PB.upto f (k+1)=PB.upto f k++[f k]:=by simp[PB.upto,List.range_succ]
theorem PB.FF{α:Type}(f:Nat->α)(k:Nat):(PB.upto f k).length=k:=by simp[PB.upto]
def PB.at(zs:List Bool)(len j:Nat):Nat×Bool:=(len-1-j,zs[len-1-j]?.getD false)

set_option maxRecDepth 100000 in
set_option maxHeartbeats 2000000 in
theorem PB.Tp(F:Fence)(n:Nat)(h24:F.fn 169)(RM:F.round=none)(hn:1<=n)(l Bs n₀ b off len cap:Nat)(zs:List Bool)(J7:len*8<=140737488351232)(I:b<n₀)(hd Jx:List (Nat×Bool)->World->Prop)
  (hY:∀ pre x zk,hd pre zk->pre.length<len->YieldAt F (n-1) Tryz.prog l #[.int .i64 (x.1:Int),.bool x.2] zk λe W' =>
   (e=.returned (.bool true)/\hd (pre++[x]) W'/\Below n₀ zk W')\/(e=.returned (.bool false)/\Jx (pre++[x]) W'))
  (zk:World) (hBs:zk.cell? ⟨Bs,0,none⟩=some (.slice (some ⟨b,off,none⟩) len cap)) (zmB:Bs<n₀) (hc:∀ j,j<len->zk.cell? ⟨b,off+j,none⟩=some (.bool (zs[j]?.getD false))) (h0:hd [] zk) :
  CallsIn F n Tryz.prog 169 #[.func (.yield l) #[] #[],.pointer (some ⟨Bs,0,none⟩)] zk λe W'=>(∃ v,e=.returned v) /\
   ((∃ ys,ys=PB.upto (PB.at zs len) len/\hd ys W')\/(∃ pre,(∃ k,k<=len/\pre=PB.upto (PB.at zs len) k)/\Jx pre W')):=by
 refine callsIn_of_wp Tryz.func169 rfl h24 ?_ RM
 simp only[Tryz.ntmps169,Y,zK,zZ,qE,qF,zO,zP,zV,zS,qA,zX]
 gi_wp2
 gi_loopw [3] (λi wr=>∃ m:Nat,m<=len/\i=.int .i64 ((m:Int)-1)/\hd (PB.upto (PB.at zs len) (len-m)) wr/\Below n₀ zk wr)
  (λi _=>(intOf i+1).toNat)
 case atStart=>exact⟨len,V _,by simp,by simpa[PB.upto]using h0,Below.refl _ _⟩
 case round =>
  obtain⟨m,hm,rfl,hJs,Dp⟩:=hrel
  have hbs:=(Dp.cell (p:=⟨Bs,0,none⟩) zmB).trans hBs
  cases m with
  | succ k =>
   have hcx:wr.cell? ⟨b,off+k,none⟩=some (.bool (zs[k]?.getD false)):=(Dp.cell (p:=⟨b,off+k,none⟩) I).trans (hc k (by omega))
   obtain⟨fn,tmps,assign,body,hy,hR⟩:=hY _ (k,zs[k]?.getD false) wr hJs (by rw[PB.FF]; omega)
   dsimp only at hy
   have hk1:((k+1:Nat):Int)-1=k:=by omega
   rw[hk1]
   have IL:PB.at zs len (len-(k+1))=(k,zs[k]?.getD false):=by
    have:len-1-(len-(k+1))=k:=by omega
    simp[PB.at,this]
   gi_wp2
   refine hR.mono ?_
   rintro e W3 (⟨rfl,hJ3,hk3⟩ | ⟨rfl,zmF⟩)
   ·gi_wp2
    go_roundw
    case rel=>exact⟨k,by omega,by simp,by rw[show len-k=len-(k+1)+1 by omega,PB.Za,IL]; exact hJ3,Dp.trans hk3⟩
    case measure=>simp[intOf]
   ·gi_wp2
    refine bodyPost_ret (results_none rfl _ _ _) rfl ?_
    exact⟨⟨_,rfl⟩,.inr ⟨_,⟨len-(k+1)+1,by omega,by rw[PB.Za,IL]⟩,zmF⟩⟩
  | zero =>
   gi_wp2
   go_end0
   exact⟨⟨_,rfl⟩,.inl ⟨_,rfl,hJs⟩⟩

/-- The bools of a slice,in a block below n₀; or there are none. -/
def PB.Du(n₀:Nat)(zk:World)(sv:Value)(zs:List Bool):Prop :=
 (∃ a,sv=.slice a 0 0/\zs=[])\/∃ b off cap,sv=.slice (some ⟨b,off,none⟩) zs.length cap/\b<n₀/\∀ j,j<zs.length->zk.cell? ⟨b,off+j,none⟩=some (.bool (zs[j]?.getD false))
theorem PB.Du.below{n₀:Nat}{A hI:World}(h:Below n₀ A hI){sv:Value}{zs:List Bool}:PB.Du n₀ A sv zs->PB.Du n₀ hI sv zs
 | .inl e=>.inl e
 | .inr ⟨b,off,cap,e,I,hc⟩=>.inr ⟨b,off,cap,e,I,λj hj=>(h.cell (p:=⟨b,off+j,none⟩) I).trans (hc j hj)⟩

set_option maxRecDepth 100000 in
set_option maxHeartbeats 1000000 in
theorem PB.BV(F:Fence)(n:Nat)(h24:F.fn 169)(RM:F.round=none)(l Bs:Nat)(a:Option Addr)(hd:List (Nat×Bool)->World->Prop)(zk:World)(hBs:zk.cell? ⟨Bs,0,none⟩=some (.slice a 0 0))(h0:hd [] zk) :
  CallsIn F n Tryz.prog 169 #[.func (.yield l) #[] #[],.pointer (some ⟨Bs,0,none⟩)] zk λe W'=>(∃ v,e=.returned v)/\hd [] W':=by
 refine callsIn_of_wp Tryz.func169 rfl h24 ?_ RM
 simp only[Tryz.ntmps169,Y,zK,zZ,qE,qF,zO,zP,zV,zS,qA,zX]
 gi_wp2
 gi_loopw [3] (λi wr=>i=.int .i64 (-1)/\hd [] wr) (λ_ _=>0)
 case atStart=>exact⟨rfl,h0⟩
 case round =>
  obtain⟨rfl,hJs⟩:=hrel
  gi_wp2
  go_end0
  exact⟨⟨_,rfl⟩,hJs⟩

set_option maxHeartbeats 1000000 in
theorem PB.DN(F:Fence)(n:Nat)(h20:F.fn 102)(RM:F.round=none)(a:Option Addr)(len cap:Nat)(w:World) :
  CallsIn F n Tryz.prog 102 #[.slice a len cap] w λe w'=>e=.returned (.func (.func 169) #[] #[.pointer (some ⟨w.heap.size,0,none⟩)])/\w'=w.alloc (.cells #[.slice a len cap] 56):=by
 refine callsIn_of_wp Tryz.func102 rfl h20 ?_ RM
 simp only[Tryz.ntmps102,Y,zK,zZ,qE,qF,zO,zP,zV,zS,qA,zX]
 gi_wp2
 go_ret
 exact⟨rfl,rfl⟩

theorem PB.Ic(F:Fence)(n:Nat)(h24:F.fn 169)(RM:F.round=none)(hn:1<=n)(Bs n₀:Nat)(sv:Value)(zs:List Bool)(J7:zs.length*8<=140737488351232)(w:World)(hBs:Bs<n₀)(hn₀:n₀<=w.heap.size)
  (hc:w.cell? ⟨Bs,0,none⟩=some sv) (B:PB.Du n₀ w sv zs) :
  SeqStopsK F n Tryz.prog 169 #[.pointer (some ⟨Bs,0,none⟩)] (λx:Nat×Bool => #[X .i64 (x.1:Int),zM x.2]) (Below n₀) (λys=>ys=PB.upto (PB.at zs zs.length) zs.length)
   (λpre=>∃ k,k<=zs.length/\pre=PB.upto (PB.at zs zs.length) k) zs.length w:=λl hd Jx zk hW _ _ hY h0=>by
 have hc':=(hW.cell (p:=⟨Bs,0,none⟩) (zI hBs hn₀)).trans hc
 rcases B.below (hW.mono hn₀)with⟨a,rfl,rfl⟩ | ⟨b,off,cap,rfl,I,Qz⟩
 ·exact(PB.BV F n h24 RM l Bs a hd zk hc' h0).mono λe W' ⟨he,hj⟩=>⟨he,.inl ⟨_,rfl,hj⟩⟩
 ·exact PB.Tp F n h24 RM hn l Bs n₀ b off zs.length cap zs J7 I hd Jx hY zk hc' hBs Qz h0
end Go.Proofs

namespace Go.Proofs
open Go.RowKit Go.Shelf
attribute [local go_sem] zN

/-- None of the first k that came counts. -/
theorem PB.CR(l:List Bool)(at_:Int):∀ k m:Nat,m+k=l.length->(∀ p∈PB.upto (PB.at l l.length) k,¬ (p.2=true/\(p.1:Int)<at_))->Go.AM.Lf.nC l at_ l.length=Go.AM.Lf.nC l at_ m
 | 0,m,h,_=>by rw[show m=l.length by omega]
 | k+1,m,h,hp=>by
  rw[PB.CR l at_ k (m+1) (by omega) λp hq=>hp p (by rw[PB.Za]; exact List.mem_append_left _ hq)]
  have:=hp (PB.at l l.length k) (by rw[PB.Za]; simp)
  simp only[PB.at,show l.length-1-k=m by omega]at this
  simp only[Go.AM.Lf.nC,if_neg this]

set_option maxRecDepth 100000 in
set_option maxHeartbeats 4000000 in
theorem PB.z4R(F:Fence)(n:Nat)(h10:F.fn 45)(h7:F.fn 44)(h20:F.fn 102)(h24:F.fn 169)(RM:F.round=none)(hn:3<=n)(c0 c1 c2 c3 c4 c5 vOn:Value)(at_:Int)(zs:List Bool)(w:World)(J7:zs.length*8<=140737488351232)
  (zmH:∀ zk,Below w.heap.size w zk->CallsIn F (n-1) Tryz.prog 44 #[.agg #[c0,c1,c2,c3,c4,c5],vOn] zk λe W'=>∃ a len cap,e=.returned (.slice a len cap)/\Below zk.heap.size zk W'/\PB.Du W'.heap.size W' (.slice a len cap) zs) :
  CallsIn F n Tryz.prog 45 #[.agg #[c0,c1,c2,c3,c4,c5],vOn,.int .i64 at_] w λe W'=>e=.returned (.tuple #[.int .i64 (Go.AM.Lf.nC zs at_ zs.length).1,.bool (Go.AM.Lf.nC zs at_ zs.length).2])/\Below w.heap.size w W':=by
 have h1:1<=n:=by omega
 refine callsIn_of_wp_marks Tryz.func45 rfl h10 ?_ RM
 simp only[Tryz.ntmps45,Y,zK,zZ,qE,qF,zO,zP,zV,zS,qA,zX]
 gi_wp2_with (first
  | (gi_at_call 44; refine(zmH _ (((((Below.refl _ w).alloc (V _) _).alloc (by simp) _).alloc (by simp; omega) _).alloc (by simp; omega) _)).mono ?_; rintro e W1 ⟨a,len,cap,rfl,hB1,hZ1⟩)
  | (gi_at_call 102; refine(PB.DN F (n-1) h20 RM _ _ _ _).mono ?_; rintro e w' ⟨rfl,rfl⟩))
 have hB0:Below w.heap.size w ((((w.alloc (zA #[c0,c1,c2,c3,c4,c5] 29)).alloc (zA #[X IntKind.i64 at_] 3)).alloc (zA #[X IntKind.i64 0] 3)).alloc (zA #[zM false] 4)) :=
  ((((Below.refl _ w).alloc (V _) _).alloc (by simp) _).alloc (by simp; omega) _).alloc (by simp; omega) _
 have k5:((((w.alloc (zA #[c0,c1,c2,c3,c4,c5] 29)).alloc (zA #[X IntKind.i64 at_] 3)).alloc (zA #[X IntKind.i64 0] 3)).alloc (zA #[zM false] 4)).heap[w.heap.size+1]? = some (zA #[X IntKind.i64 at_] 3):=by
  have:=((qQ (w.alloc (zA #[c0,c1,c2,c3,c4,c5] 29)) 3 (.int .i64 at_)).alloc (zA #[X IntKind.i64 0] 3)).alloc (zA #[zM false] 4)
  rw[zL]at this; exact this
 have k6:((((w.alloc (zA #[c0,c1,c2,c3,c4,c5] 29)).alloc (zA #[X IntKind.i64 at_] 3)).alloc (zA #[X IntKind.i64 0] 3)).alloc (zA #[zM false] 4)).heap[w.heap.size+1+1]? = some (zA #[X IntKind.i64 0] 3):=by
  have:=(qQ ((w.alloc (zA #[c0,c1,c2,c3,c4,c5] 29)).alloc (zA #[X IntKind.i64 at_] 3)) 3 (.int .i64 0)).alloc (zA #[zM false] 4)
  rw[zL,zL]at this; exact this
 have k7:((((w.alloc (zA #[c0,c1,c2,c3,c4,c5] 29)).alloc (zA #[X IntKind.i64 at_] 3)).alloc (zA #[X IntKind.i64 0] 3)).alloc (zA #[zM false] 4)).heap[w.heap.size+1+1+1]? = some (zA #[zM false] 4):=by
  have:=(qQ (((w.alloc (zA #[c0,c1,c2,c3,c4,c5] 29)).alloc (zA #[X IntKind.i64 at_] 3)).alloc (zA #[X IntKind.i64 0] 3)) 4 (.bool false))
  rw[zL,zL,zL]at this; exact this
 have bH:((((w.alloc (zA #[c0,c1,c2,c3,c4,c5] 29)).alloc (zA #[X IntKind.i64 at_] 3)).alloc (zA #[X IntKind.i64 0] 3)).alloc (zA #[zM false] 4)).heap.size=w.heap.size+1+1+1+1:=by simp
 generalize ((((w.alloc (zA #[c0,c1,c2,c3,c4,c5] 29)).alloc (zA #[X IntKind.i64 at_] 3)).alloc (zA #[X IntKind.i64 0] 3)).alloc (zA #[zM false] 4))=W0 at *
 have T9:=hB1.size
 have b5:Boxed W1 (w.heap.size+1) 3 (.int .i64 at_):=(hB1.block _ (by omega)).trans k5
 have b6:Boxed W1 (w.heap.size+1+1) 3 (.int .i64 0):=(hB1.block _ (by omega)).trans k6
 have b7:Boxed W1 (w.heap.size+1+1+1) 4 (.bool false):=(hB1.block _ (by omega)).trans k7
 have bS:=qQ W1 56 (.slice a len cap)
 have hBw:Below w.heap.size w W1:=hB0.trans (hB1.mono (by omega))
 have hBa:Below w.heap.size w (W1.alloc (zA #[qM a len cap] 56)):=hBw.alloc (by omega) _
 have fin:∀ {W2:World} {D:Nat} {v6:Int} {v7:Bool},w.heap.size<=D->W2.heap[D]? = some (.deferred (some []))->Below w.heap.size w W2->Boxed W2 (w.heap.size+1+1) 3 (.int .i64 v6)->Boxed W2 (w.heap.size+1+1+1) 4 (.bool v7) ->
   ∀ {u:Value},bodyPostM F n Tryz.prog Tryz.f45 (λe W'=>e=.returned (.tuple #[.int .i64 v6,.bool v7])/\Below w.heap.size w W') Exit.ret
    { tmps := #[qR #[c0,c1,c2,c3,c4,c5],vOn,X IntKind.i64 at_,
     zG (some { block:=w.heap.size,off:=0 }),undef,
     zG (some { block:=w.heap.size+1,off:=0 }),
     zG (some { block:=w.heap.size+1+1,off:=0 }),
     zG (some { block:=w.heap.size+1+1+1,off:=0 }),undef,undef,
     qR #[c0,c1,c2,c3,c4,c5],vOn,qM a len cap,
     Value.func (Fn.func 169) #[] #[zG (some { block:=W1.heap.size,off:=0 })],undef,undef,undef,
     undef,undef,undef,undef,undef,undef,u],defers:=[{ target:=Target.collected D,args := #[] }] } W2:=by
  intro W2 D v6 v7 hD hK hB g6 g7 u
  refine⟨by simp,.inl ⟨_,_,rfl,run_takeDeferred hK,?_⟩⟩
  have c6:=(g6.kept (grownBy_putObj' _ D (.deferred none)) (λe=>by cases e; rw[show W2.heap[_]? = _ from g6]at hK; cases hK)).cell
  have c7:=(g7.kept (grownBy_putObj' _ D (.deferred none)) (λe=>by cases e; rw[show W2.heap[_]? = _ from g7]at hK; cases hK)).cell
  refine⟨.tuple #[.int .i64 v6,.bool v7],?_,rfl,hB.trans (belowK_b (w:=w) (V _) _ D _ _ hD hK rfl rfl)⟩
  simp[results,Tryz.f45,go_sem,c6,c7]
 refine wpIn_rangeFunc_ownG RM h1 (gf:=169) (lb := #[.pointer (some ⟨W1.heap.size,0,none⟩)]) rfl h24 (enters_of Tryz.func169 (by kernel_rfl) rfl)
  (PB.Ic F (n-1) h24 RM (by omega) W1.heap.size (W1.heap.size+1) _ zs J7 (W1.alloc (zA #[qM a len cap] 56)) (by omega) (by simp) bS.cell (by
   rcases hZ1 with h | ⟨b,off,VE,e,I,hc⟩
   ·exact .inl h
   ·exact .inr ⟨b,off,VE,e,by omega,λj hj=>(((Below.refl W1.heap.size W1).alloc (V _) _).cell (p:=⟨b,off+j,none⟩) I).trans (hc j hj)⟩)) belowK_t (belowK_b (by simp)) (Below.refl _ _) (λ_=>rfl)
  (λpre zk=>((∀ p∈pre,¬ (p.2=true/\(p.1:Int)<at_))/\Boxed zk (w.heap.size+1) 3 (.int .i64 at_)/\Boxed zk (w.heap.size+1+1) 3 (.int .i64 0)/\Boxed zk (w.heap.size+1+1+1) 4 (.bool false))/\Below w.heap.size w zk)
  (λc pre zk=>(c=.ret/\∃ (ini:List (Nat×Bool)) (last:Nat×Bool),pre=ini++[last]/\(∀ p∈ini,¬ (p.2=true/\(p.1:Int)<at_))/\(last.2=true/\(last.1:Int)<at_)/\Boxed zk (w.heap.size+1+1) 3 (.int .i64 (last.1:Int))/\Boxed zk (w.heap.size+1+1+1) 4 (.bool true))/\Below w.heap.size w zk)
  (OwnFrom.and (Own.from (λs A hI row hs hg hr=>⟨hs.1,boxed_own (β:=Unit) _ _ (λ_=>_) () A hI row hs.2.1 hg hr,boxed_own (β:=Unit) _ _ (λ_=>_) () A hI row hs.2.2.1 hg hr,boxed_own (β:=Unit) _ _ (λ_=>_) () A hI row hs.2.2.2 hg hr⟩) _) (ownFrom_below (V _) (by simp; omega)))
  (λc=>OwnFrom.and (Own.from (λs A hI row hs hg hr=>by obtain⟨hc,ini,last,e1,e2,e3,e4,e5⟩:=hs; exact⟨hc,ini,last,e1,e2,e3,boxed_own (β:=Unit) _ _ (λ_=>_) () A hI row e4 hg hr,boxed_own (β:=Unit) _ _ (λ_=>_) () A hI row e5 hg hr⟩) _) (ownFrom_below (V _) (by simp; omega)))
  ⟨⟨by simp,b5.alloc _,b6.alloc _,b7.alloc _⟩,hBa⟩
  (λx=>{ tmps := #[qR #[c0,c1,c2,c3,c4,c5],vOn,X IntKind.i64 at_,
     zG (some { block:=w.heap.size,off:=0 }),undef,
     zG (some { block:=w.heap.size+1,off:=0 }),
     zG (some { block:=w.heap.size+1+1,off:=0 }),
     zG (some { block:=w.heap.size+1+1+1,off:=0 }),.int .i64 (x.1:Int),.bool x.2,
     qR #[c0,c1,c2,c3,c4,c5],vOn,qM a len cap,
     Value.func (Fn.func 169) #[] #[zG (some { block:=W1.heap.size,off:=0 })],.int .i64 (x.1:Int),.bool x.2,undef,
     undef,undef,undef,undef,undef,undef,undef],defers:=[] }) ?assign ?body ?done ?stop
 case assign =>
  intro l x zk K hK
  gi_wp2
  exact hK
 case body =>
  rintro l pre x zk ⟨⟨hp,h5,h6,h7'⟩,hB⟩ _
  have q5:=h5.cell; have q6:=h6.cell; have q7:=h7'.cell
  have f6:=h6.frozen; have f7:=h7'.frozen
  gi_wp2
  ·rename_i g1 g2
   exact⟨((zR _ _ _).trans (zR _ _ _)).from _,⟨rfl,pre,x,rfl,hp,⟨by simp_all,by simp_all⟩,(h6.set _).other (by omega) _,(h7'.other (by omega) _).set _⟩,
    (hB.setCell (p:=⟨w.heap.size+1+1,0,none⟩) (by show w.heap.size<=w.heap.size+1+1; omega) _).setCell (p:=⟨w.heap.size+1+1+1,0,none⟩) (by show w.heap.size<=w.heap.size+1+1+1; omega) _⟩
  ·rename_i g1 g2
   exact⟨KeepsFrom.refl _ _,Below.refl _ _,⟨λp hp'=>(List.mem_append.1 hp').elim (hp p) (λe=>by simp at e; subst e; intro hh; have:=hh.2; omega),h5,h6,h7'⟩,hB⟩
  ·rename_i g1
   exact⟨KeepsFrom.refl _ _,Below.refl _ _,⟨λp hp'=>(List.mem_append.1 hp').elim (hp p) (λe=>by simp at e; subst e; intro hh; simp_all),h5,h6,h7'⟩,hB⟩
 case done =>
  rintro D ys zk hD rfl ⟨⟨jX,h5,h6,h7'⟩,hB⟩ hK
  have q5:=h5.cell; have q6:=h6.cell; have q7:=h7'.cell
  have f6:=h6.frozen; have f7:=h7'.frozen
  have hv:Go.AM.Lf.nC zs at_ zs.length=(at_,false):=(PB.CR zs at_ zs.length 0 (by omega) jX).trans rfl
  gi_wp2
  have hK':((zk.setCell ⟨w.heap.size+1+1,0,none⟩ (.int .i64 at_)).setCell ⟨w.heap.size+1+1+1,0,none⟩ (.bool false)).heap[D]? = some (.deferred (some [])) :=
   ((zR _ _ _).trans (zR _ _ _)).same D _ hK rfl
  have g6:Boxed ((zk.setCell ⟨w.heap.size+1+1,0,none⟩ (.int .i64 at_)).setCell ⟨w.heap.size+1+1+1,0,none⟩ (.bool false)) (w.heap.size+1+1) 3 (.int .i64 at_):=(h6.set _).other (by omega) _
  have g7:Boxed ((zk.setCell ⟨w.heap.size+1+1,0,none⟩ (.int .i64 at_)).setCell ⟨w.heap.size+1+1+1,0,none⟩ (.bool false)) (w.heap.size+1+1+1) 4 (.bool false):=(h7'.other (by omega) _).set _
  have hB':Below w.heap.size w ((zk.setCell ⟨w.heap.size+1+1,0,none⟩ (.int .i64 at_)).setCell ⟨w.heap.size+1+1+1,0,none⟩ (.bool false)) :=
   (hB.setCell (p:=⟨w.heap.size+1+1,0,none⟩) (by show w.heap.size<=w.heap.size+1+1; omega) _).setCell (p:=⟨w.heap.size+1+1+1,0,none⟩) (by show w.heap.size<=w.heap.size+1+1+1; omega) _
  rw[hv]
  generalize (zk.setCell ⟨w.heap.size+1+1,0,none⟩ (.int .i64 at_)).setCell ⟨w.heap.size+1+1+1,0,none⟩ (.bool false)=W2 at *
  exact fin (by simp at hD; omega) hK' hB' g6 g7
 case stop =>
  rintro D c pre zk hD ⟨k,hk,rfl⟩ ⟨⟨rfl,ini,last,e1,e2,e3,h6,h7'⟩,hB⟩ hK
  gi_wp2
  obtain⟨k',rfl⟩:∃ k',k=k'+1:=by
   cases k with
   | zero=>simp[PB.upto]at e1
   | succ k'=>exact⟨k',rfl⟩
  rw[PB.Za]at e1
  obtain⟨rfl,e5⟩:=List.append_inj' e1 rfl
  obtain rfl:PB.at zs zs.length k'=last:=by simpa using e5
  have hv:Go.AM.Lf.nC zs at_ zs.length=(((zs.length-1-k':Nat):Int),true):=by
   rw[PB.CR zs at_ k' (zs.length-1-k'+1) (by omega) e2]
   simp only[PB.at]at e3
   simp only[Go.AM.Lf.nC]
   rw[if_pos e3]
  rw[hv]
  exact fin (by simp at hD; omega) hK hB h6 h7'
end Go.Proofs

namespace Go.AM.Lf
open Go.Proofs Go.RowKit

theorem GQ{P:Program}{g:Nat}{fn:Func}{args:Array Value}{w:World}{hl:Ending->World->Prop}(hf:P.funcs[g]? = some fn) (hn:(fn.name == "runtime.NumGoroutine")=false) (I:fn.body.isNone=false) (h:gv P g args w hl):Calls P g args w hl:=by
 rcases h with⟨_,h⟩ | ⟨v,w',h,_⟩
 ·exact h
 ·rw[uR hf hn I w]at h; cases h

theorem zo6:q8 Tryz.prog 45 ⟨[.ty qy,.ty (.sl .bool),.ty i64],[i64,.bool],λx=>pj x.1 x.2.1 x.2.2⟩:=by
 intro O x xb y vU hy B ha
 obtain⟨f,on,at_⟩:=x
 obtain⟨l,R,hlen,hy⟩:=T.zd.1 hy
 replace hlen:zH l*8<=140737488351232:=hlen
 cases hy
 obtain⟨v0,r,rfl,h0,ha⟩:=wN.cons_inv (show wN O [.qi qy f,.qi (.sl .bool) on,.qi i64 at_] xb from ha)
 obtain⟨v1,r,rfl,h1,ha⟩:=ha.cons_inv
 obtain⟨v2,r,rfl,M,ha⟩:=ha.cons_inv
 rw[ha.wb]
 obtain⟨cs,Qz,rfl⟩:=RD.cK h0
 have zfV:=Qz.len
 rw[RD.dJ M]
 match cs,zfV with
 | [c0,c1,c2,c3,c4,c5],_ =>
 refine .inl ⟨uR Tryz.func45 (by kernel_rfl) rfl O.w,?_⟩
 refine(callsIn_wide (n:=10)).1 ((PB.z4R Fence.wide 10 trivial trivial trivial trivial rfl (by omega) c0 c1 c2 c3 c4 c5 v1 at_ l O.w hlen λzk hW => ?_).mono ?_)
 ·have N:Ext O { O with w:=zk }:=⟨hW.os,hW.tape,hW.output,hW.size,λk hk=>⟨hk,hW.block k (B.bI k hk)⟩,λk hk=>.inl hk,λ_ _ _ h=>.inl h,λb d h=>by rw[vU]at h; simp at h,
   λb v0 e xs h=>by rw[vU]at h; simp at h,λb h=>by rw[vU]at h; simp at h,V _,λk hk _=>hW.block k hk⟩
  have Vw:Inv { O with w:=zk }:=⟨B.len,λk hk=>zI (B.bI k hk) hW.size,λb blk n I=>⟨zI (B.apart b blk n I).1 hW.size,(B.apart b blk n I).2⟩,B.inj,λb x I=>by rw[vU]at I; simp at I,B.gl.mono N.same⟩
  refine callsIn_wide.2 (GQ Tryz.func44 (by kernel_rfl) rfl ((zkz { O with w:=zk } (f,on) [pk qy [c0,c1,c2,c3,c4,c5],v1] l vU R Vw (.cons (h0.mono N) (.cons (h1.mono N) .nil))).mono ?_))
  rintro e W' ⟨E,rfl,z5Y,hI',GJ,v,rfl,hv⟩
  have GI:O.ph=[]:=zY (by rw[B.len,vU]; rfl)
  have hB:Below zk.heap.size zk E.w:=⟨GJ.os,GJ.tape,GJ.output,GJ.size,λk hk=>GJ.frame k hk λb n h=>by simp[GI]at h⟩
  have hv:=RD.jD (O:=E) (τ:=.sl .bool) (x:=l) hv rfl
  rcases hv.tw with⟨rfl,a,e⟩ | ⟨blk,off,cap,g,e,uZ,jf,hg,hc⟩
  ·cases e
   exact⟨a,0,0,rfl,hB,.inl ⟨a,rfl,rfl⟩⟩
  ·cases e
   refine⟨some ⟨blk,off,none⟩,_,cap,rfl,hB,.inr ⟨blk,off,cap,rfl,hI'.bI blk uZ,λj hj => ?_⟩⟩
   have h3:=hc j hj 0 (.bool l[j]) (by rw[(hg j hj).cd]; rfl)
   rw[zT hj]
   simpa[Ty.size]using h3
 ·rintro e W' ⟨rfl,hB⟩
  have N:Ext O { O with w:=W' }:=⟨hB.os,hB.tape,hB.output,hB.size,λk hk=>⟨hk,hB.block k (B.bI k hk)⟩,λk hk=>.inl hk,λ_ _ _ h=>.inl h,λb d h=>by rw[vU]at h; simp at h,
   λb v0 e xs h=>by rw[vU]at h; simp at h,λb h=>by rw[vU]at h; simp at h,V _,λk hk _=>hB.block k hk⟩
  refine⟨{ O with w:=W' },rfl,vU,⟨B.len,λk hk=>zI (B.bI k hk) hB.size,λb blk n I=>⟨zI (B.apart b blk n I).1 hB.size,(B.apart b blk n I).2⟩,B.inj,λb x I=>by rw[vU]at I; simp at I,B.gl.mono N.same⟩,N,_,rfl,?_⟩
  refine .eA _ _ rfl λi h1 M => ?_
  match i with
  | 0=>exact RD.int
  | 1=>exact RD.bool
end Go.AM.Lf

namespace Go.AM.Lf
open Go.Proofs Go.Proofs.Tryz
def t252:=t251.d zo6
def z1F:q9:=Lz [] [Mi 2,Mm 12 (.sl .bool),Mi 13] ⟨[Mi 14],[],[]⟩ [kN,⟨.ret,⟨[Mi 6,Mb 7],[],[]⟩⟩] λp s=>ZX p.1 p.2.1 p.2.2 s
def h46:Hints:=Hz [(0,z1F)] [(0,4,.flat [Mb 24])] []
theorem zcg:LO Tryz.f46 z1F 0:=lk t252 (rz [3]) h46 [] zf
theorem zo7:q8 Pz 46 ⟨[.ty qy,.ty (.sl .bool),.ty i64],[i64,.bool],λx=>pn x.1 x.2.1 x.2.2⟩:=wo t252 (rz [3]) h46 func46 [0] (qh rfl zcg zf)
def t253:=t252.d zo7
def h24:Hints:=Hz [] [(0,2,.flat [Mb 28])] []
theorem znQ:q8 Pz 24 ⟨[.ty qy,.ty (.sl .bool),.ty i64],[i64],λx=>Z2 x.1 x.2.1 x.2.2⟩:=wo t253 (rz [3]) h24 func24 [] zf
def t254:=t253.d znQ
def h9:Hints:=Hz [] [] [(8,[1006000,1006001,1006003,1006004,1006005])]
theorem ok9:jz Pz 9 ⟨[.any],z48,[],⟨[Ms 1,Mi 2,.v (.qi qs)],[(0,.ptr 0 0)],Zd⟩,3,0,⟨[Ms 1,Mi 2],[(0,.gS)],[]⟩,some 3,λx=>fX x⟩:=Kq t254 rn h9 func9 [] zf
def t255:=t254.p ok9
theorem zhM:q8 Pz 171 ⟨[.ty qu,.rp .str],[.bool],λx=>dF x.1 x.2⟩:=wo t255 (rz [2]) hN func171 [] zf
def t256:=t255.d zhM
def Nq:q9:=Lz [] [Mm 0 (.sl qu),.s 1 (.wg 171 [.rp .str]),Mi 7] cR [kN,o9] λp s=>cm p.1 (λz0=>dF z0 p.2.1) p.2.2 s
def zey:Hints:=Hz [(0,Nq)] [] []
theorem z6I:LO Tryz.f170 Nq 0:=lk t256 rn zey [] zf
theorem zhL:q8 Pz 170 ⟨[.ty (.sl qu),.wg 171 [.rp .str]],[i64],λx=>gi x.1 (λz0=>dF z0 x.2)⟩:=wo t256 rn zey func170 [0] (qh rfl z6I zf)
def t257:=t256.d zhL
theorem zgT:q8 Pz 104 ⟨[.ty qy,.ty .str],[i64],λx=>tN x.1 x.2⟩:=wo t257 (rz [2,3]) hN func104 [] zf
def t258:=t257.d zgT
theorem zgV:q8 Pz 106 ⟨[.ty zl],[.bool],λx=>bO x⟩:=wo t258 (rz [1]) hN func106 [] zf
def t259:=t258.d zgV
theorem zhO:q8 Pz 173 ⟨[.ty zl],[.bool],λx=>eW x⟩:=wo t259 (rz [1]) hN func173 [] zf
def t260:=t259.d zhO
def B4:q9:=Lz [] [Mm 0 (.sl zl),.s 1 (.wg 173 []),Mi 7] cR [kN,o9] λp s=>yP p.1 (λz0=>eW z0) p.2.2 s
def z0m:Hints:=Hz [(0,B4)] [] []
theorem Sc:LO Tryz.f227 B4 0:=lk t260 rn z0m [] zf
theorem P0:q8 Pz 227 ⟨[.ty (.sl zl),.wg 173 []],[i64],λx=>kM x.1 (λz0=>eW z0)⟩:=wo t260 rn z0m func227 [0] (qh rfl Sc zf)
def t261:=t260.d P0
theorem OZ:q8 Pz 172 ⟨[.ty (.sl zl),.wg 173 []],[.bool],λx=>vw x.1 (λz0=>eW z0)⟩:=wo (t261.d P0) rn hN func172 [] zf
def t262:=t261.d OZ
theorem zhR:q8 Pz 176 ⟨[.ty zm],[.bool],λx=>J0 x⟩:=wo t262 (rz [1]) hN func176 [] zf
def t263:=t262.d zhR
theorem zhQ:q8 Pz 175 ⟨[.ty zm],[.bool],λx=>eX x⟩:=wo t263 (rz [1]) hN func175 [] zf
def t264:=t263.d zhQ
def NG:q9:=Lz [] [Mm 0 (.sl zm),.s 1 (.wg 175 []),Mi 7] cR [kN,o9] λp s=>bB p.1 (λz0=>eX z0) p.2.2 s
def zeH:Hints:=Hz [(0,NG)] [] []
theorem z6W:LO Tryz.f228 NG 0:=lk t264 rn zeH [] zf
theorem ziw:q8 Pz 228 ⟨[.ty (.sl zm),.wg 175 []],[i64],λx=>yh x.1 (λz0=>eX z0)⟩:=wo t264 rn zeH func228 [0] (qh rfl z6W zf)
def t265:=t264.d ziw
theorem zhP:q8 Pz 174 ⟨[.ty (.sl zm),.wg 175 []],[.bool],λx=>uv x.1 (λz0=>eX z0)⟩:=wo t265 rn hN func174 [] zf
def t266:=t265.d zhP
def O7:q9:=Lz [] [Mm 1 (.sl zl),Mm 12 (.sl qj),Mi 13] ⟨[Mi 14,.v (.qi zl),.v (.qi zl)],[(4,.ptr 0 0),(5,.ptr 1 0)],[.var (.qi zl),.var (.qi zl)]⟩ [⟨.exit 0,z3K⟩] λp s=>XD p.1 p.2.1 p.2.2 s
def zf2:Hints:=Hz [(0,O7)] [] []
theorem z7u:LO Tryz.f296 O7 0:=lk t266 (rz [2]) zf2 [] zf
theorem zjr:q8 Pz 296 ⟨[.ty zq,.ty (.sl zl)],[zl],λx=>BT x.1 x.2⟩:=wo t266 (rz [2]) zf2 func296 [0] (qh rfl z7u zf)
def t267:=t266.d zjr
theorem ziz:q8 Pz 231 ⟨[.ty zq,.ty (.sl zl)],[.bool],λx=>sE x.1 x.2⟩:=wo t267 (rz [2]) hN func231 [] zf
def t268:=t267.d ziz
def B6:q9:=Lz [] [Mm 27 (.sl qj),Mi 28] ⟨[Mi 7,Mi 8,Mi 29,.v so,.a i64,.a i64],[(0,.ptr 0 0),(2,.uS)],UM⟩ [⟨.exit 0,⟨[Mi 7,.v so,.a i64,.a i64],[],UM⟩⟩] λp s=>y8 p.1 p.2 s
def z0p:Hints:=Hz [(0,B6)] [(0,6,.flat [Mb 46])] []
theorem Se:LO Tryz.f297 B6 0:=lk t268 rn z0p [] zf
theorem P4:xv Pz 297 ⟨Qd,⟨[Mi 1,.v so,.a i64,.a i64],[(0,.ptr 0 0),(2,.uS)],UM⟩,[],FP,1,λx=>gP x.1 x.2.1 x.2.2.1 x.2.2.2⟩:=eo t268 rn z0p func297 [0] (qh rfl Se zf)
def t269:=t268.s P4
theorem ziA:q8 Pz 232 ⟨[.ty (.sl zq),.ty (.sl i64),.ty i64,.ty i64],[.bool],λx=>mw x.1 x.2.1 x.2.2.1 x.2.2.2⟩:=wo (t269.s P4) rn hN func232 [] zf
def t270:=t269.d ziA
def zm0:Hints:=Hz [] [(0,4,.ways [⟨.normal,⟨[Mb 8,.v Ki,.a zq,.a i64,.a i64,.v (.qi zq)],[],[.var Ki,.arr zq,.arr i64,.arr i64,.var (.qi zq)]⟩⟩])] []
theorem zhU:xv Pz 179 ⟨Qd,⟨[Mi 1,Mm 2 (.sl zl),.v Ki,.a zq,.a i64,.a i64],[(0,.ptr 0 0)],UN⟩,[],⟨[Mb 0,.v Ki,.a zq,.a i64,.a i64],[],UN⟩,1,λx=>hJ x.1 x.2.1 x.2.2.1 x.2.2.2.1 x.2.2.2.2.1 x.2.2.2.2.2⟩:=eo t270 rn zm0 func179 [] zf
def t271:=t270.s zhU
def zaH:Tb:=t271.d OZ
def MZ:q9:=Lz [] [Mr 3 xf,Mm 31 (.sl i64),Mi 32] ⟨[Mi 33,.v Ki,.a zq,.a i64,.a i64],[(5,.ptr 0 0)],UN⟩ [⟨.exit 0,z4i⟩,z4l] λp s=>UY p.1 p.2.1 p.2.2 s
def N0:q9:=Lz [] [Mr 3 xf,Mi 67] ⟨[Mi 68,.v Ki,.a zq,.a i64,.a i64],[(5,.ptr 0 0)],UN⟩ [⟨.exit 2,z4i⟩,z4l] λp s=>UZ p.1 p.2 s
def zb6:Hints:=Hz [(0,MZ),(2,N0)] [(0,7,.ways [⟨.normal,⟨[Mb 48,.v Ki,.a zq,.a i64,.a i64],[],UN⟩⟩])] []
theorem z6j:LO Tryz.f105 MZ 0:=lk zaH (rz [2,3]) zb6 [] zf
theorem z6k:LO Tryz.f105 N0 2:=lk zaH (rz [2,3]) zb6 [] zf
theorem zgU:q8 Pz 105 ⟨[.ty qy,.ty xf],[.bool],λx=>QO x.1 x.2⟩:=wo zaH (rz [2,3]) zb6 func105 [0,2] (qh rfl z6j (qh rfl z6k zf))
def t272:=t271.d zgU
def h48:Hints:=Hz [] [] [(12,[1001006,1001007,1001008])]
theorem zo9:q8 Pz 48 ⟨[.ty qy,.ty xf,.ty .str,.ty zl],[xf,(.sl .str),i64],λx=>VL x.1 x.2.1 x.2.2.1 x.2.2.2⟩:=wo t272 (rz [4,5,7]) h48 func48 [] zf
def t273:=t272.d zo9
def z1H:q9:=Lz [] [.s 2 (.wg 70 []),Mm 9 (.sl zl),Mi 10] PW [K5] λp s=>tP (λz0=>gp z0) p.2.1 p.2.2 s
def h69:Hints:=Hz [(0,z1H)] [] []
theorem zci:LO Tryz.f69 z1H 0:=lk t273 rn h69 [] zf
theorem zop:q8 Pz 69 ⟨[.ty .str,.ty (.sl zl),.wg 70 []],[.str],λx=>mD x.1 x.2.1 (λz0=>gp z0)⟩:=wo t273 rn h69 func69 [0] (qh rfl zci zf)
def t274:=t273.d zop
theorem zoo:q8 Pz 68 ⟨[.ty .bool],[.str],λx=>dH x⟩:=wo t274 rn hN func68 [] zf
def t275:=t274.d zoo
def z1I:q9:=Lz [] [.s 2 (.wg 68 []),Mm 9 (.sl .bool),Mi 10] PW [K5] λp s=>sB (λz0=>dH z0) p.2.1 p.2.2 s
def h71:Hints:=Hz [(0,z1I)] [] []
theorem zcj:LO Tryz.f71 z1I 0:=lk t275 rn h71 [] zf
theorem zor:q8 Pz 71 ⟨[.ty .str,.ty (.sl .bool),.wg 68 []],[.str],λx=>fR x.1 x.2.1 (λz0=>dH z0)⟩:=wo t275 rn h71 func71 [0] (qh rfl zcj zf)
def t276:=t275.d zor
theorem zot:q8 Pz 73 ⟨[.ty i64],[.str],λx=>lQ x⟩:=wo t276 rn hN func73 [] zf
def t277:=t276.d zot
def z1J:q9:=Lz [] [.s 2 (.wg 73 []),Mm 9 (.sl i64),Mi 10] PW [K5] λp s=>tQ (λz0=>lQ z0) p.2.1 p.2.2 s
def h72:Hints:=Hz [(0,z1J)] [] []
theorem zck:LO Tryz.f72 z1J 0:=lk t277 rn h72 [] zf
theorem zos:q8 Pz 72 ⟨[.ty .str,.ty (.sl i64),.wg 73 []],[.str],λx=>th x.1 x.2.1 (λz0=>lQ z0)⟩:=wo t277 rn h72 func72 [0] (qh rfl zck zf)
def t278:=t277.d zos
theorem zov:q8 Pz 75 ⟨[.ty zm],[.str],λx=>lR x⟩:=wo t278 (rz [1]) hN func75 [] zf
def t279:=t278.d zov
def z1K:q9:=Lz [] [.s 2 (.wg 75 []),Mm 9 (.sl zm),Mi 10] PW [K5] λp s=>mP (λz0=>lR z0) p.2.1 p.2.2 s
def h74:Hints:=Hz [(0,z1K)] [] []
theorem zcl:LO Tryz.f74 z1K 0:=lk t279 rn h74 [] zf
theorem zou:q8 Pz 74 ⟨[.ty .str,.ty (.sl zm),.wg 75 []],[.str],λx=>fS x.1 x.2.1 (λz0=>lR z0)⟩:=wo t279 rn h74 func74 [0] (qh rfl zcl zf)
def t280:=t279.d zou
theorem znU:q8 Pz 32 ⟨[.ty xf],[.str],λx=>cZ x⟩:=wo t280 (rz [1]) hN func32 [] zf
def t281:=t280.d znU
def zlU:Hints:=Hz [] [(0,1,.H8)] []
theorem za0:xv Pz 115 ⟨[.any],⟨[Mm 0 (.sl .str)],[],[]⟩,[],WH,1,λx=>wR x⟩:=eo t281 rn zlU func115 [] zf
def t282:=t281.s za0
theorem zgS:q8 Pz 103 ⟨[.ty yl,.ty .str],[yl],λx=>XN x.1 x.2⟩:=wo t282 (rz [2]) hN func103 [] zf
def t283:=t282.d zgS
theorem zo8:xv Pz 47 ⟨[.ptr,.any,.any,.any],⟨[Mm 1 xf,Mm 2 (.sl .str),Mi 3,.v (.qi qs)],[(0,.ptr 0 0)],Zd⟩,[],UO,1,λx=>vv x.1 x.2.1 x.2.2.1 x.2.2.2⟩:=eo t283 (rz [5]) hN func47 [] zf
def t284:=t283.s zo8
def h49:Hints:=Hz [] [(0,6,.flat [Mb 26]),(0,8,.flat [Mb 37]),(3,12,.ways [⟨.normal,⟨[.v (.qi xf),.a zl,.a .bool,.a zl,.a i64,.a zm,.a .bool,.v z3x],[],[.var (.qi xf),.arr zl,.arr .bool,.arr zl,.arr i64,.arr zm,.arr .bool,.var z3x]⟩⟩])] [(14,[1007000,1007001,1007002,1007003,1007004,1007005])]
theorem zoa:q8 Pz 49 ⟨[.ty qy,.ty xf,.ty .str,.ty .bool],[xf,(.sl .str),i64],λx=>Zt x.1 x.2.1 x.2.2.1 x.2.2.2⟩:=wo t284 (rz [4,5]) h49 func49 [] zf
def t285:=t284.d zoa
theorem zgY:q8 Pz 109 ⟨[.ty qf,.rp .str],[.bool],λx=>gq x.1 x.2⟩:=wo t285 (rz [2]) hN func109 [] zf
def t286:=t285.d zgY
def HZ:q9:=Lz [] [Mm 0 (.sl qf),.s 1 (.wg 109 [.rp .str]),Mi 7] cR [kN,o9] λp s=>uY p.1 (λz0=>gq z0 p.2.1) p.2.2 s
def z0i:Hints:=Hz [(0,HZ)] [] []
theorem S7:LO Tryz.f108 HZ 0:=lk t286 rn z0i [] zf
theorem OR:q8 Pz 108 ⟨[.ty (.sl qf),.wg 109 [.rp .str]],[i64],λx=>vH x.1 (λz0=>gq z0 x.2)⟩:=wo t286 rn z0i func108 [0] (qh rfl S7 zf)
def t287:=t286.d OR
def EU:q9:=Lz [.cell 5 7 i64] [Mi 53] ⟨[Mi 54,.a i64,.v FK,.a zq,.a i64,.v Dh,.v z90,.a i64],[(3,.ptr 1 0),(10,.ptr 5 0),(52,.cur 3 i64)],z3s⟩ [⟨.exit 1,zal⟩] λp s=>lO p s
def EV:q9:=Lz [] [Mm 74 (.sl zm),Mi 75] ⟨[Mi 76,.a i64,.v FK,.a zq,.a i64,.v Dh,.v z90,.a i64],[(10,.ptr 5 0)],z3s⟩ [⟨.exit 3,zal⟩] λp s=>lP p.1 p.2 s
def z0v:Hints:=Hz [(1,EU),(3,EV)] [(0,4,.flat [Mb 30]),(3,19,.flat [Mi 15])] []
theorem z1j:LO Tryz.f97 EU 1:=lk t287 (rz [2]) z0v [] zf
theorem z1k:LO Tryz.f97 EV 3:=lk t287 (rz [2]) z0v [] zf
theorem z2w:jz Pz 97 ⟨[.any,.agg],⟨[Mm 0 qy,.s 1 FK,.a i64],[],jM⟩,[],⟨[Mi 2,.a i64,.v zae,.a zq,.a i64,.a i64],[(0,.ptr 1 0),(1,.wE)],[.arr i64,.var zae,.arr zq,.arr i64,.arr i64]⟩,3,0,⟨[.s 1 (.tight .str),Mi 2,.a i64],[(0,.gS)],jM⟩,some 3,λx=>ef x.1 x.2.1 x.2.2⟩:=Kq t287 (rz [2]) z0v func97 [1,3] (qh rfl z1j (qh rfl z1k zf))
def t288:=t287.p z2w
def O9:q9:=Lz [] [Mm 0 (.sl u32),Mm 1 (.sl u32),Mi 12] z43 [kN,PY] λp s=>ga p.1 p.2.1 p.2.2 s
def zf4:Hints:=Hz [(0,O9)] [] []
theorem z7w:LO Tryz.f299 O9 0:=lk t288 rn zf4 [] zf
theorem zju:q8 Pz 299 ⟨[.ty (.sl u32),.ty (.sl u32)],[.bool],λx=>jo x.1 x.2⟩:=wo t288 rn zf4 func299 [0] (qh rfl z7w zf)
def t289:=t288.d zju
theorem ziC:q8 Pz 234 ⟨[.ty zl,.ty zl],[.bool],λx=>Xl x.1 x.2⟩:=wo t289 rn hN func234 [] zf
def t290:=t289.d ziC
theorem ziE:q8 Pz 236 ⟨[.ty qj,.ty qj],[.bool],λx=>mK x.1 x.2⟩:=wo t290 (rz [2,3]) hN func236 [] zf
def t291:=t290.d ziE
def NI:q9:=Lz [] [Mm 1 (.sl qj),.s 2 (.wg 236 []),Mm 15 (.sl qj),Mi 16] ⟨[Mi 17],[],[]⟩ [kN,⟨.ret,⟨[Mb 6],[],[]⟩⟩] λp s=>uT p.1 (λz0 z1=>mK z0 z1) p.2.2.1 p.2.2.2 s
def zeK:Hints:=Hz [(0,NI)] [] []
theorem z6Y:LO Tryz.f235 NI 0:=lk t291 rn zeK [] zf
theorem ziD:q8 Pz 235 ⟨[.ty (.sl qj),.ty (.sl qj),.wg 236 []],[.bool],λx=>jm x.1 x.2.1 (λz0 z1=>mK z0 z1)⟩:=wo t291 rn zeK func235 [0] (qh rfl z6Y zf)
def t292:=t291.d ziD
theorem zhX:q8 Pz 182 ⟨[.ty zq,.ty zq],[.bool],λx=>VA x.1 x.2⟩:=wo t292 (rz [2,3]) hN func182 [] zf
def t293:=t292.d zhX
def zdS:Tb:=(t293.p zkD).p z2w
def N2:q9:=Lz [] [Mr 3 qy,Mi 42] ⟨[Mi 43,.a i64,.v BO,.v (.qi xf),.v BL,.a zq,.a i64,.a i64,.v BK,.a zq,.a i64,.a i64],[(5,.ptr 6 0),(6,.ptr 7 0),(9,.ptr 8 0),(12,.ptr 12 0)],[.dead,.dead,.dead,.arr i64,.dead,.dead,.var BO,.var (.qi xf),.var BL,.arr zq,.arr i64,.arr i64,.var BK,.arr zq,.arr i64,.arr i64]⟩ [⟨.exit 0,⟨[.a i64,.v BO,.v (.qi xf),.v BL,.a zq,.a i64,.a i64,.v BK,.a zq,.a i64,.a i64],[],[.dead,.dead,.dead,.arr i64,.dead,.dead,.var BO,.var (.qi xf),.var BL,.arr zq,.arr i64,.arr i64,.var BK,.arr zq,.arr i64,.arr i64]⟩⟩] λp s=>nL p.1 p.2 s
def zen:Hints:=Hz [(0,N2)] [(0,11,.ways [⟨.normal,⟨[Mb 81,.a i64,.v BO,.v (.qi xf),.v BL,.a zq,.a i64,.a i64,.v BK,.a zq,.a i64,.a i64],[],[.dead,.dead,.dead,.arr i64,.dead,.dead,.var BO,.var (.qi xf),.var BL,.arr zq,.arr i64,.arr i64,.var BK,.arr zq,.arr i64,.arr i64]⟩⟩])] [(4,[1006000,1006001,1006002,1006004,1006005]),(14,[1006003])]
theorem z6m:LO Tryz.f110 N2 0:=lk zdS (rz [3,4]) zen [] zf
theorem zgZ:xv Pz 110 ⟨[.any,.any,.agg],⟨[Mm 0 qy,Mm 1 xf,.s 2 z3A,.a zl,.a .bool,.a zl,.a i64,.a zm,.a .bool],[],z3v⟩,[],⟨[.s 0 (.st [.row 6 zl,.row 7 .bool,.im (.sl zl),.row 8 i64,.row 9 zm,.row 10 .bool]),Mm 1 (.sl .str),Mi 2,.a zl,.a .bool,.a i64,.a zm,.a .bool],[],[.dead,.dead,.dead,.dead,.dead,.dead,.arr zl,.arr .bool,.arr i64,.arr zm,.arr .bool]⟩,3,λx=>fN x.1 x.2.1 x.2.2.1 x.2.2.2.1 x.2.2.2.2.1 x.2.2.2.2.2.1 x.2.2.2.2.2.2.1 x.2.2.2.2.2.2.2.1 x.2.2.2.2.2.2.2.2⟩:=eo zdS (rz [3,4]) zen func110 [0] (qh rfl z6m zf)
def t294:=t293.s zgZ
theorem zob:q8 Pz 50 ⟨[.ty qy,.ty xf,.ty .str,.ty zl],[xf,(.sl .str),i64],λx=>ot x.1 x.2.1 x.2.2.1 x.2.2.2⟩:=wo (t294.d OR) (rz [4,5,6,7]) hN func50 [] zf
def t295:=t294.d zob
theorem zh0:q8 Pz 111 ⟨[.ty qq,.rp .str],[.bool],λx=>yt x.1 x.2⟩:=wo t295 (rz [2]) hN func111 [] zf
def t296:=t295.d zh0
def HX:q9:=Lz [] [Mm 0 (.sl qq),.s 1 (.wg 111 [.rp .str]),Mi 7] cR [kN,o9] λp s=>wY p.1 (λz0=>yt z0 p.2.1) p.2.2 s
def z0g:Hints:=Hz [(0,HX)] [] []
theorem S5:LO Tryz.f100 HX 0:=lk t296 rn z0g [] zf
theorem OP:q8 Pz 100 ⟨[.ty (.sl qq),.wg 111 [.rp .str]],[i64],λx=>wa x.1 (λz0=>yt z0 x.2)⟩:=wo t296 rn z0g func100 [0] (qh rfl S5 zf)
def t297:=t296.d OP
theorem zoc:q8 Pz 51 ⟨[.ty qy,.ty xf,.ty .str,.ty .bool],[xf,(.sl .str),i64],λx=>my x.1 x.2.1 x.2.2.1 x.2.2.2⟩:=wo (t297.d OP) (rz [4,5,6]) hN func51 [] zf
def t298:=t297.d zoc
theorem zod:xv Pz 53 ⟨Qd,⟨[Mi 1,Mi 2,.v (.qi qs)],[(0,.ptr 0 0)],Zd⟩,[],UO,1,λx=>jI x.1 x.2.1 x.2.2⟩:=eo t298 rn hN func53 [] zf
def t299:=t298.s zod
theorem zkA:xv Pz 52 ⟨[.ptr,.wg 46],⟨[.s 1 (.wg 46 []),.v (.qi qs)],[(0,.ptr 0 0)],Zd⟩,[],UO,1,λx=>j5 (λz0 z1 z2=>pn z0 z1 z2) x.2⟩:=eo t299 rn hN func52 [] zf
def t300:=t299.s zkA
theorem z2o:xv Pz 52 ⟨[.ptr,.wg 45],⟨[.s 1 (.wg 45 []),.v (.qi qs)],[(0,.ptr 0 0)],Zd⟩,[],UO,1,λx=>j5 (λz0 z1 z2=>pj z0 z1 z2) x.2⟩:=eo t300 rn hN func52 [] zf
def t301:=t300.s z2o
theorem zh2:q8 Pz 113 ⟨[.ty xp,.rp .str],[.bool],λx=>dM x.1 x.2⟩:=wo t301 (rz [2]) hN func113 [] zf
def t302:=t301.d zh2
def B0:q9:=Lz [] [Mm 0 (.sl xp),.s 1 (.wg 113 [.rp .str]),Mi 7] cR [kN,o9] λp s=>yf p.1 (λz0=>dM z0 p.2.1) p.2.2 s
def z0j:Hints:=Hz [(0,B0)] [] []
theorem S8:LO Tryz.f112 B0 0:=lk t302 rn z0j [] zf
theorem OS:q8 Pz 112 ⟨[.ty (.sl xp),.wg 113 [.rp .str]],[i64],λx=>uU x.1 (λz0=>dM z0 x.2)⟩:=wo t302 rn z0j func112 [0] (qh rfl S8 zf)
def t303:=t302.d OS
theorem zoe:q8 Pz 54 ⟨[.ty qy,.ty (.sl .bool),.ty .str],[i64,i64],λx=>XZ x.1 x.2.1 x.2.2⟩:=wo (t303.d OS) (rz [3,5]) hN func54 [] zf
def t304:=t303.d zoe
def zb7:Hints:=Hz [] [(0,1,.H8)] []
theorem CS:q8 Pz 115 ⟨[.ty (.sl .str)],[(.sl .str)],λx=>wQ x⟩:=wo t304 rn zb7 func115 [] zf
def t305:=t304.d CS
theorem zh4:q8 Pz 116 ⟨[.ty (.sl .str),.ty (.sl .str),.ty .str],[(.sl .str),(.sl .str),.str],λx=>tU x.1 x.2.1 x.2.2⟩:=wo (t305.s za0) rn hN func116 [] zf
def t306:=t305.d zh4
theorem zof:q8 Pz 56 ⟨[.ty yl,.ty .str],[yl,.str,.bool],λx=>tT x.1 x.2⟩:=wo (t306.d CS) (rz [2]) hN func56 [] zf
def t307:=t306.d zof
theorem ziP:jz Pz 247 ⟨[.any],z4a,[],⟨[],[],[]⟩,0,377,XA,none,λx=>ur x⟩:=Kq t307 rn hN func247 [] zf
def t308:=t307.p ziP
theorem zjv:jz Pz 300 ⟨[.ptr],⟨[.v (.qi ju)],[(0,.ptr 0 0)],FJ⟩,[],⟨[Ms 0,.v (.qi ju)],[],FJ⟩,1,377,z3Q,none,λx=>hZ x⟩:=Kq t308 rn hN func300 [] zf
def t309:=t308.p zjv
theorem ziH:jz Pz 239 ⟨lA,⟨[Ms 1,.v (.qi ju)],[(0,.ptr 0 0)],FJ⟩,[],⟨[Mm 0 (.sl .str),.v (.qi ju)],[],FJ⟩,1,377,z3Q,none,λx=>wO x.1 x.2⟩:=Kq t309 rn hN func239 [] zf
def t310:=t309.p ziH
theorem ziI:jz Pz 240 ⟨[.any],Qu,[],⟨[Mm 0 zl],[],[]⟩,1,377,XA,none,λx=>da x⟩:=Kq t310 rn hN func240 [] zf
def t311:=t310.p ziI
def NJ:q9:=Lz [.slot 5 zl] [Mm 8 (.sl .str),Mi 9] ⟨[Mi 10,.a zl],[(1,.wg 240 []),(5,.cur 0 zl)],tA⟩ [⟨.exit 0,⟨[.a zl],[(5,.cur 0 zl)],tA⟩⟩,⟨.hH (.iface 377 .v8),⟨[Mm 0 .nil,.a zl],[],tA⟩⟩] λp s=>gz p.1 p.2 s
def zeL:Hints:=Hz [(0,NJ)] [] []
theorem z6Z:LO Tryz.f238 NJ 0:=lk t311 rn zeL [] zf
theorem ziG:jz Pz 238 ⟨[.any,.wg 240],⟨[Mm 0 (.sl .str),.s 1 (.mclo 240 [])],[],[]⟩,[],z3Y,1,377,XA,none,λx=>uK x.1 x.2⟩:=Kq t311 rn zeL func238 [0] (qh rfl z6Z zf)
def t312:=t311.p ziG
theorem ziK:jz Pz 242 ⟨[.any],Qu,[],z4a,1,377,XA,none,λx=>mA x⟩:=Kq t312 rn hN func242 [] zf
def t313:=t312.p ziK
def NK:q9:=Lz [.slot 5 .bool] [Mm 8 (.sl .str),Mi 9] ⟨[Mi 10,.a .bool],[(1,.wg 242 []),(5,.cur 0 .bool)],[.arr .bool]⟩ [z4p,⟨.hH (.iface 377 .v8),⟨[Mm 0 .nil,.a .bool],[],[.arr .bool]⟩⟩] λp s=>gA p.1 p.2 s
def zeM:Hints:=Hz [(0,NK)] [] []
theorem z71:LO Tryz.f241 NK 0:=lk t313 rn zeM [] zf
theorem ziJ:jz Pz 241 ⟨[.any,.wg 242],⟨[Mm 0 (.sl .str),.s 1 (.mclo 242 [])],[],[]⟩,[],z3W,1,377,XA,none,λx=>uL x.1 x.2⟩:=Kq t313 rn zeM func241 [0] (qh rfl z71 zf)
def t314:=t313.p ziJ
end Go.AM.Lf
namespace Go.AM
open Go.AM.Lf Go.RowKit Go.Proofs
theorem DO(w:World)(e:TypeId)(s:ByteArray):Below w.heap.size w (Go.Lib.bytesWorld w e s):=by
 refine⟨rfl,rfl,rfl,?_,λb I=>Go.Lib.bytesWorld_at_old w e s b I⟩
 simp[Go.Lib.bytesWorld,World.freeze,World.alloc,World.drew,-World.alloc_eq,-World.drew_eq]
theorem E3:∀ (l:List UInt8) (acc k:Nat),l.length+k<=18->acc<10 ^ k->(∀ b∈l,48<=b.toNat/\b.toNat<=57)->qO acc l=.ok (l.foldl (λn b=>n*10+(b.toNat-48)) acc)
 | [],acc,_,_,_,_=>rfl
 | c::l,acc,k,hk,ha,J=>by
  have h1:=J c qC
  rw[zK]at hk
  have e:=Nat.pow_le_pow_right (show 0<10 by omega) (show k<=17 by omega)
  rw[qO,if_pos h1,if_neg (by omega),if_neg (by omega),E3 l _ (k+1) (by omega) (by rw[Nat.pow_succ]; omega) λb I=>J b (qJ _ I)]
  rfl
theorem z9e:∀ (l:List UInt8) (acc k:Nat),acc<10 ^ k->(∀ b∈l,48<=b.toNat/\b.toNat<=57)->l.foldl (λn b=>n*10+(b.toNat-48)) acc<10 ^ (k+l.length)
 | [],acc,k,ha,_=>ha
 | c::l,acc,k,ha,J=>by
  have h1:=J c qC
  have:=z9e l (acc*10+(c.toNat-48)) (k+1) (by rw[Nat.pow_succ]; omega) λb I=>J b (qJ _ I)
  rwa [zK,show k+(l.length+1)=k+1+l.length by omega]
theorem z5e{s:zx}(h0:s≠[])(h1:s.length<=18)(J:∀ b∈s,48<=b.toNat/\b.toNat<=57):Go.Lib.atoiAll s=.ok (dgV s:Int):=by
 cases s with
 | nil=>exact absurd rfl h0
 | cons c r =>
  have hc:=J c qC
  have hp:=E3 (c::r) 0 0 (by omega) (by omega) J
  have R:=zI (z9e (c::r) 0 0 (by omega) J) (Nat.pow_le_pow_right (show 0<10 by omega) (show 0+(c::r).length<=18 by omega))
  unfold Go.Lib.atoiAll
  simp only[if_neg (show ¬ (c.toNat=43\/c.toNat=45) by omega),Go.Lib.parseMag,if_neg (List.cons_ne_nil c r),hp]
  have hn:¬ c.toNat=45:=by omega
  simp only[hn,not_false_eq_true,true_and,false_and,if_false]
  rw[if_neg (by omega)]
  rfl
theorem zk4:xv Tryz.prog 348 ⟨[.any],Qu,[],⟨[.s 0 (.qi i64)],[(1,.v8)],[]⟩,2,λx=>strconv_Atoi x⟩:=by
 intro O x xb y vU hy B hlen hR
 obtain⟨⟨⟨h0,h1⟩,M⟩,rfl⟩:=hy
 obtain⟨v0,hv0,hd0⟩:=hR.get 0 (.qi .str x) rfl
 have fc:xb.toArray = #[.string ⟨x.toArray⟩]:=by
  match xb,hlen with
  | [a],_ =>
   simp at hv0
   rw[hv0,hd0.jb]
 rw[fc]
 refine .inl ⟨nD Tryz.func348 (by kernel_rfl) rfl O.w,(Go.Proofs.Tryz.strconv_Atoi_ok ⟨x.toArray⟩ (by rw[show(zF ⟨x.toArray⟩)=zH x from Y]; omega) (dgV x:Int) (z5e h0 h1 M) O.w).mono ?_⟩
 rintro e w' ⟨rfl,hw⟩
 have hB:Below O.w.heap.size O.w w':=hw.elim (λh=>h▸Zk _) λ⟨t,h⟩=>h▸DO _ _ _
 obtain⟨g1,g2⟩:=En B vU hB
 refine⟨O.grown w',[.qi i64 (dgV x:Int),.v8],rfl,vU,g1,g2,rfl,_,rfl,.eA _ _ rfl λi h1 M => ?_⟩
 match i with
 | 0=>exact RD.int
 | 1=>exact RD.v8

end Go.AM
namespace Go.AM.Lf
open Go.Proofs Go.Proofs.Tryz
def t315:=t314.s zk4
def zmj:Hints:=Hz [] [(0,1,.ways [⟨.normal,⟨[],[],[]⟩⟩,⟨.hH (.iface 377 .v8),XA⟩])] []
theorem zjw:jz Pz 301 ⟨[.any],Qu,[],z45,1,377,XA,none,λx=>mz x⟩:=Kq t315 rn zmj func301 [] zf
def t316:=t315.p zjw
theorem ziM:jz Pz 244 ⟨[.any],Qu,[],z45,1,377,XA,none,λx=>mB x⟩:=Kq t316 rn hN func244 [] zf
def t317:=t316.p ziM
def NL:q9:=Lz [.slot 5 i64] [Mm 8 (.sl .str),Mi 9] ⟨[Mi 10,.a i64],[(1,.wg 244 []),(5,.cur 0 i64)],jM⟩ [⟨.exit 0,⟨[.a i64],[(5,.cur 0 i64)],jM⟩⟩,⟨.hH (.iface 377 .v8),⟨[Mm 0 .nil,.a i64],[],jM⟩⟩] λp s=>gY p.1 p.2 s
def zeN:Hints:=Hz [(0,NL)] [] []
theorem z73:LO Tryz.f243 NL 0:=lk t317 rn zeN [] zf
theorem ziL:jz Pz 243 ⟨[.any,.wg 244],⟨[Mm 0 (.sl .str),.s 1 (.mclo 244 [])],[],[]⟩,[],M9,1,377,XA,none,λx=>kQ x.1 x.2⟩:=Kq t317 rn zeN func243 [0] (qh rfl z73 zf)
def t318:=t317.p ziL
def zmu:Hints:=Hz [] [(0,1,.flat [Mb 4])] []
theorem zkn:q8 Pz 377 ⟨[.ty .str,.ty .str],[.bool],λx=>jU x.1 x.2⟩:=wo t318 rn zmu func377 [] zf
def t319:=t318.d zkn
theorem zk5:q8 Pz 349 ⟨[.ty .str,.ty .str],[.str,.bool],λx=>jS x.1 x.2⟩:=wo t319 rn hN func349 [] zf
def t320:=t319.d zk5
theorem zjx:q8 Pz 302 ⟨[.ty .str,.ty .str],[.str,.bool],λx=>strings_CutSuffix x.1 x.2⟩:=wo t320 rn hN func302 [] zf
def t321:=t320.d zjx
theorem ziO:jz Pz 246 ⟨[.any],Qu,[],⟨[Mm 0 zm],[],[]⟩,1,377,XA,none,λx=>mC x⟩:=Kq t321 rn hN func246 [] zf
def t322:=t321.p ziO
def NM:q9:=Lz [.slot 5 zm] [Mm 8 (.sl .str),Mi 9] ⟨[Mi 10,.a zm],[(1,.wg 246 []),(5,.cur 0 zm)],M8⟩ [⟨.exit 0,⟨[.a zm],[(5,.cur 0 zm)],M8⟩⟩,⟨.hH (.iface 377 .v8),⟨[Mm 0 .nil,.a zm],[],M8⟩⟩] λp s=>yo p.1 p.2 s
def zeO:Hints:=Hz [(0,NM)] [] []
theorem z74:LO Tryz.f245 NM 0:=lk t322 rn zeO [] zf
theorem ziN:jz Pz 245 ⟨[.any,.wg 246],⟨[Mm 0 (.sl .str),.s 1 (.mclo 246 [])],[],[]⟩,[],z3O,1,377,XA,none,λx=>jg x.1 x.2⟩:=Kq t322 rn zeO func245 [0] (qh rfl z74 zf)
def t323:=t322.p ziN
theorem ziF:cx (Mf Pz) 237 ⟨[.ptr],⟨[.v (.qi i64)],[(0,.ptr 0 0)],M5⟩,[],z42,0,λx=>fO x⟩:=fkr t323 rn hN Tryz.func237
theorem z8f:cx (R2 Pz 377) 237 ⟨lA,⟨[Mm 1 .nil,.v (.qi i64)],[(0,.ptr 0 0)],M5⟩,[],z42,0,λx=>wC x.1 x.2⟩:=fkh t323 rn hN Tryz.func237 1
theorem zhY:xv Pz 183 ⟨[.any],Qu,[],⟨[.s 0 z3A,Mi 1,.a zl,.a .bool,.a zl,.a i64,.a zm,.a .bool],[],z3v⟩,2,λx=>ov x⟩:=fkf t323 rn hN (g:=237) (pt:=377) ziF z8f Tryz.func183
def t324:=t323.s zhY
theorem zh3:q8 Pz 114 ⟨[.ty qy,.ty .str],[xf,i64],λx=>sA x.1 x.2⟩:=wo t324 (rz [2]) hN func114 [] zf
def t325:=t324.d zh3
theorem zkB:xv Pz 55 ⟨[.ptr,.wg 56],⟨[.s 1 (.wg 56 []),.v (.qi qs)],[(0,.ptr 0 0)],Zd⟩,[],UO,1,λx=>uO (λz0 z1=>tT z0 z1) x.2⟩:=eo t325 rn hN func55 [] zf
def t326:=t325.s zkB
theorem zog:q8 Pz 57 ⟨[.ty yl,.ty .str],[yl,.str,.bool],λx=>tS x.1 x.2⟩:=wo (t326.d CS) (rz [2]) hN func57 [] zf
def t327:=t326.d zog
theorem z2p:xv Pz 55 ⟨[.ptr,.wg 57],⟨[.s 1 (.wg 57 []),.v (.qi qs)],[(0,.ptr 0 0)],Zd⟩,[],UO,1,λx=>uO (λz0 z1=>tS z0 z1) x.2⟩:=eo t327 rn hN func55 [] zf
def t328:=t327.s z2p
theorem zk6:q8 Pz 350 ⟨[.ty .str,.ty wI,.ty (.sl zl)],[zl,i64],λx=>VB x.1 x.2.1 x.2.2⟩:=wo t328 (rz [4]) hN func350 [] zf
def t329:=t328.d zk6
theorem zjz:q8 Pz 304 ⟨[.ty zl,.ty zl],[zl],λx=>Ux x.1 x.2⟩:=wo t329 (rz [2,3]) hN func304 [] zf
def t330:=t329.d zjz
abbrev ze0:=dQ [.ty .expr,.ty wI,.ty (.sl zl)]->T (Dl [zl,i64])
abbrev zlG(F:ze0):=q8 Pz 303 ⟨[.ty .expr,.ty wI,.ty (.sl zl)],[zl,i64],F⟩
theorem z8i(Hm:ze0)(z0z:zlG Hm):q8 Pz 303 ⟨[.ty .expr,.ty wI,.ty (.sl zl)],[zl,i64],λx=>kZ (λy0 y1 y2=>Hm (y0,y1,y2)) x.1 x.2.1 x.2.2⟩:=wo (t330.d z0z) (rz [3,4]) hN func303 [] zf
theorem zjy:q8 Pz 303 ⟨[.ty .expr,.ty wI,.ty (.sl zl)],[zl,i64],λx=>Zi x.1 x.2.1 x.2.2⟩:=Yf (λHm x=>kZ (λy0 y1 y2=>Hm (y0,y1,y2)) x.1 x.2.1 x.2.2) (λx=>rfl) (λHm z0z=>z8i Hm z0z)
def t331:=t330.d zjy
theorem ziR:q8 Pz 249 ⟨[.ty .expr,.ty wI,.ty (.sl zl)],[zl,i64],λx=>tE x.1 x.2.1 x.2.2⟩:=wo t331 (rz [3,4]) hN func249 [] zf
def t332:=t331.d ziR
theorem ziS:q8 Pz 250 ⟨[.ty zl,.ty zl],[i64],λx=>KG x.1 x.2⟩:=wo t332 (rz [2,3]) hN func250 [] zf
def t333:=t332.d ziS
def zm1:Hints:=Hz [] [(0,3,.flat [Mb 33])] []
theorem zi0:q8 Pz 185 ⟨[.ty xj,.ty wI,.ty (.sl zl)],[.bool],λx=>oN x.1 x.2.1 x.2.2⟩:=wo t333 (rz [3,4]) zm1 func185 [] zf
def t334:=t333.d zi0
def N5:q9:=Lz [] [Mr 2 qy,Mr 3 xf,Mi 7,Mm 20 (.sl .bool),Mi 21,Mi 22,Mm 30 (.sl qu),Mi 31] ⟨[Mi 32,.v (.qi wI),.a .str],[(5,.cur 1 .str),(6,.ptr 0 0)],M6⟩ [⟨.exit 2,z4f⟩] λp s=>iN p.1 p.2.1 p.2.2.1 p.2.2.2.1 p.2.2.2.2.1 p.2.2.2.2.2.1 p.2.2.2.2.2.2.1 p.2.2.2.2.2.2.2 s
def N6:q9:=Lz [] [Mr 2 qy,Mr 3 xf,Mi 7,Mm 20 (.sl .bool),Mi 21,Mi 22,Mm 67 (.sl xj),Mi 68] ⟨[Mi 69,.v (.qi wI),.a .str],[(5,.cur 1 .str),(6,.ptr 0 0)],M6⟩ [⟨.exit 4,z4f⟩] λp s=>iO p.1 p.2.1 p.2.2.1 p.2.2.2.1 p.2.2.2.2.1 p.2.2.2.2.2.1 p.2.2.2.2.2.2.1 p.2.2.2.2.2.2.2 s
def N4:q9:=Lz [.slot 5 .str] [Mr 2 qy,Mr 3 xf,Mm 20 (.sl .bool),Mi 21] ⟨[Mi 22,.v (.qi wI),.a .str],[(5,.cur 1 .str),(6,.ptr 0 0)],M6⟩ [⟨.exit 0,z4f⟩] λp s=>iM p.1 p.2.1 p.2.2.1 p.2.2.2 s
def z5u:Hints:=Hz [(2,N5),(4,N6),(0,N4)] [(0,10,.flat [Mb 59]),(0,16,.ways [⟨.normal,⟨[Mb 83,.v (.qi wI),.a .str,.v (.qi xj)],[(5,.cur 1 .str)],[.var (.qi wI),.arr .str,.var (.qi xj)]⟩⟩])] []
theorem z6p:LO Tryz.f117 N5 2:=lk t334 (rz [2,3]) z5u [] zf
theorem z6q:LO Tryz.f117 N6 4:=lk t334 (rz [2,3]) z5u [] zf
theorem z6o:LO Tryz.f117 N4 0:=lk t334 (rz [2,3]) z5u [2,4] (qh rfl z6p (qh rfl z6q zf))
theorem zh5:q8 Pz 117 ⟨[.ty qy,.ty xf],[(.sl .str)],λx=>iJ x.1 x.2⟩:=wo t334 (rz [2,3]) z5u func117 [0] (qh rfl z6o zf)
def t335:=t334.d zh5
def N8:q9:=Lz [.slot 6 qf] [Mr 3 xf,Mm 5 (.sl .bool),Mm 15 (.sl qu),Mi 16] ⟨[Mi 17,.a qf],[(6,.cur 0 qf)],[.arr qf]⟩ [⟨.exit 0,⟨[.a qf],[(6,.cur 0 qf)],[.arr qf]⟩⟩] λp s=>Q4 p.1 p.2.1 p.2.2.1 p.2.2.2 s
def zeq:Hints:=Hz [(0,N8)] [(0,6,.flat [Mb 39]),(3,8,.ways [⟨.normal,⟨[.a qf,.v (.qi qu),.v (.qi zl)],[(6,.cur 0 qf)],[.arr qf,.var (.qi qu),.var (.qi zl)]⟩⟩])] []
theorem z6s:LO Tryz.f119 N8 0:=lk t335 (rz [2,3]) zeq [] zf
theorem zh7:q8 Pz 119 ⟨[.ty qy,.ty xf],[(.sl qf)],λx=>W7 x.1 x.2⟩:=wo t335 (rz [2,3]) zeq func119 [0] (qh rfl z6s zf)
def t336:=t335.d zh7
def N7:q9:=Lz [.cell 0 1 (.int .u8)] [Mm 6 (.sl qf),Mi 7] ⟨[Mi 8,.v Jp,.a (.int .u8)],[(3,.ptr 0 0)],Qs⟩ [Md] λp s=>mf p.1 p.2 s
def zep:Hints:=Hz [(0,N7)] [] []
theorem z6r:LO Tryz.f118 N7 0:=lk t336 rn zep [] zf
theorem zh6:q8 Pz 118 ⟨[.ty (.sl qf)],[.str],λx=>mI x⟩:=wo t336 rn zep func118 [0] (qh rfl z6r zf)
def t337:=t336.d zh6
theorem zoh:xv Pz 58 ⟨[.ptr],⟨[.v (.qi qs)],[(0,.ptr 0 0)],Zd⟩,[],UO,1,λx=>kK x⟩:=eo t337 rn hN func58 [] zf
def t338:=t337.s zoh
def h26:Hints:=Hz [] [(3,4,.flat [Mb 27])] []
theorem znR:xv Pz 26 ⟨lA,z3N,[],UO,1,λx=>gC x.1 x.2⟩:=eo ((((t338.s z2p).s zkB).s z2o).s zkA) (rz [3]) h26 func26 [] zf
def t339:=t338.s znR
theorem z8g:cx (Mf Pz) 25 ⟨[.ptr,.ptr,.ptr],⟨[.v (.qi qs),.v (.qi wA),.v (.qi qs)],[(0,.ptr 0 0),(1,.ptr 1 0),(2,.ptr 2 0)],[.var (.qi qs),.cvar (.ptr 3 0),.var (.qi wA),.var (.qi qs)]⟩,[],⟨[.v (.qi qs),.v (.qi wA),.v (.qi qs)],[],[.var (.qi qs),.cvar (.ptr 3 0),.var (.qi wA),.var (.qi qs)]⟩,0,λx=>cy x.1 x.2.1 x.2.2⟩:=fkr t339 rn hN Tryz.func25
theorem zh8:xv Pz 12 ⟨lA,z3N,[],UO,1,λx=>yG x.1 x.2⟩:=fkf t339 (rz [3]) hN (g:=25) (pt:=0) z8g (z9i z8g) Tryz.func12
def t340:=t339.s zh8
def z1m:q9:=Lz [.slot 5 wA] [Mm 8 (.sl fA),Mi 9] ⟨[Mi 10,.v (.qi qs),.a wA],[(0,.ptr 0 0),(5,.cur 1 wA)],M1⟩ [⟨.exit 0,⟨[.v (.qi qs),.a wA],[(5,.cur 1 wA)],M1⟩⟩] λp s=>fW p.1 p.2 s
def h14:Hints:=Hz [(0,z1m)] [] []
theorem zbX:LO Tryz.f14 z1m 0:=lk t340 rn h14 [] zf
theorem zhp:xv Pz 14 ⟨lA,⟨[Mm 1 (.sl fA),.v (.qi qs)],[(0,.ptr 0 0)],Zd⟩,[],⟨[.v (.qi qs),.a wA],[(0,.cur 1 wA)],M1⟩,1,λx=>oa x.1 x.2⟩:=eo t340 rn h14 func14 [0] (qh rfl zbX zf)
def t341:=t340.s zhp
theorem z2m:xv Pz 12 ⟨Gy,⟨[Mm 1 fA],[(0,.gS)],[]⟩,[],⟨[Mm 0 wA],[],[]⟩,1,λx=>mS x⟩:=fkf t341 (rz [3]) hN (g:=25) (pt:=0) z8g (z9i z8g) Tryz.func12
def t342:=t341.s z2m
def z97:Tb:=t342.s z2m
def ER:q9:=Lz [.slot 5 wA] [Mm 8 (.sl fA),Mi 9] ⟨[Mi 10,.a wA],[(0,.gS),(5,.cur 0 wA)],[.arr wA]⟩ [⟨.exit 0,⟨[.a wA],[(5,.cur 0 wA)],[.arr wA]⟩⟩] λp s=>en p.1 p.2 s
def z9k:Hints:=Hz [(0,ER)] [] []
theorem z1f:LO Tryz.f14 ER 0:=lk z97 rn z9k [] zf
theorem z2n:xv Pz 14 ⟨Gy,⟨[Mm 1 (.sl fA)],[(0,.gS)],[]⟩,[],⟨[.a wA],[(0,.cur 0 wA)],[.arr wA]⟩,1,λx=>lf x⟩:=eo z97 rn z9k func14 [0] (qh rfl z1f zf)
def t343:=t342.s z2n
def h10:Hints:=Hz [] [(0,3,.flat [Mb 22]),(0,6,.flat [Mb 0])] []
theorem znK:q8 Pz 10 ⟨[],[.bool],λ_=>gG⟩:=wo ((t343.s z2n).s zhp) rn h10 func10 [] zf
def t344:=t343.d znK
end Go.AM.Lf
